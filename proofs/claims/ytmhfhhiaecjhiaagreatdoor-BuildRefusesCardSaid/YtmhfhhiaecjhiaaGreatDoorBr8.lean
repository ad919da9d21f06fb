import Derived.Test.YtmhfhhiaecjhiaaGreatDoorBr7
import Derived.Shelf.Small.Bits
import Derived.Shelf.Strconv.Itoa0
import Derived.Shelf.Strconv.Itoa1
import Derived.Shelf.LaysM
import Derived.Shelf.Strconv.Itoa2
import Derived.Shelf.Strconv.Itoa3
import Derived.Shelf.Bits.Mul64
import Derived.Test.YtmhfhhiaecjhiaaGreatDoorProg
set_option linter.all false
set_option maxHeartbeats 1000000
set_option maxRecDepth 100000
section
namespace Go.Sx
open Go Go.Proofs Tryz
section
variable {GB:Gh} {C:aC} {n:Nat} {Q0:Exit->Act->World->Prop} {fr fr':av} {own own':aF} {cf cf':Cf} {vc:List Prop} {lk:LK} {bk:BM} {dst:Option Nat} {ty:TypeId} {pos:String} {af:Array Edge} {gd:Option (Nat×Bool)}
def wo(t:TypeId):Prop:= ∀(x:Value) w,(Instr.makeInterface t x).run prog w= .ok (.iface t x) w
def zT(t:TypeId)(u:Value)(m:String)(f:FuncId):Prop:= ∀w,(method (prog.types.size+Made.depth) t u m).run prog w= .ok (f,u) w
def ard{x:Operand}{m:String}{args:Array Operand}{tys:Array TypeId}{t:TypeId}{u:Value}{f:FuncId}{vs:List Value}{fr:Fr}{a:Act}{w:World}(hf:kc fr a)(hx:aD fr x=some (.iface t u))(hv:f5 fr args.toList=some vs)(hm:zT t u m f)(hc:o5 prog f):
  (execOp a.eval ⟨dst, .call ⟨.invoke x m,args,tys⟩,ty,pos,af,gd⟩).run prog w= .ok (.enter f ⟨u::vs⟩) w:=by
 have e:args.map a.eval=⟨vs⟩:=by apply Array.ext';simpa using y8 hf hv
 simp only[execOp,resolve,bz hf hx,e];show(invoke (.fn (.method m) #[]) (#[.iface t u]++⟨vs⟩)).run prog w=_;simp only[invoke];have h0:(#[Value.iface t u]++(⟨vs⟩:Array Value))[0]? =some (.iface t u):=by simp
 have h1:(#[Value.iface t u]++(⟨vs⟩:Array Value)).extract 1 (#[Value.iface t u]++(⟨vs⟩:Array Value)).size=⟨vs⟩:=by
  apply Array.ext';simp
 rw[h0,h1];show(callMethod (.iface t u) m ⟨vs⟩).run prog w=_;unfold callMethod;show((do
  let p<-program
  let(g,receiver)<-method (p.types.size+Made.depth) t u m
  callFunc g (#[receiver]++⟨vs⟩)):Sem Next).run prog w=_
 rw[bh (a:=prog) (w':=w) J,bh (hm w)];show(callFunc f (#[u]++⟨vs⟩)).run prog w=_;rw[C9 hc];simp
def aKp(fr:av)(cf:Cf):Option (TypeId×DV):=match b8 fr cf with
 |some ⟨_, .makeInterface t x,_,_,_,_⟩=>match evD (bw fr cf) x with
  |some d=>some (t,d)
  |none=>none
 |_=>none
def aKV(fr:av)(cf:Cf):Option (String×TypeId×Value×List DV):=match b8 fr cf with
 |some ⟨_, .call ⟨.invoke x m,args,_⟩,_,_,_,_⟩=>match aI (bw fr cf) x with
  |some (.d (.v (.iface t u)))=>match evDs (bw fr cf) args.toList with
   |some ds=>some (m,t,u,ds)
   |none=>none
  |_=>none
 |_=>none
def aCe{t:TypeId}{x:Operand}{d:DV}(ht:wo t)(hx:aI lk x=some (.d d)):b7 prog GB C n lk bk ⟨dst, .makeInterface t x,ty,pos,af,gd⟩ (.ip t d) [] []:=
 b7.yd fun ρ G ov a w r=>by
  obtain⟨y,hy,hy'⟩:=r.ev hx;refine⟨_,⟨y,J,hy'⟩,fun a' w' hf _=>?_⟩;refine cI (f:=Next.value) ?_;rw[bz hf hy];exact ht _ _
def Ot(fr:av)(cf:Cf):Option (TypeId×DV):=match b8 fr cf with
 |some ⟨_, .makeInterface t x,_,_,_,_⟩=>match aI (bw fr cf) x with
  |some (.d d)=>some (t,d)
  |_=>none
 |_=>none
def SE[fu:Fu]{t:TypeId}{d:DV}(ha:Ot fr cf=some (t,d))(ht:wo t)(hgo:cv tt n fu.n fr own cf (.ip t d) [] []=⟨vc,fr',own',cf'⟩)(k:ak prog GB C n Q0 fr' own' cf')
  (hv:autoParam (aj vc) cL._auto_1):ak prog GB C n Q0 fr own cf:=by
 unfold Ot at ha;split at ha<;>try (cases ha;done)
 rename_i hh;split at ha<;>cases ha;rename_i hx;exact us hh (aCe ht hx) hgo hv k
def WN{x:Operand}{m:String}{args:Array Operand}{tys:Array TypeId}{t:TypeId}{d:DV}{f:FuncId}{ds:List DV}{rv:DV}(hx:aI lk x=some (.ip t d))(ha:evDs lk args.toList=some ds)(hm: ∀G u,Is G d u->zT t u m f)(hF:PF GB prog f (d::ds) rv):
  b7 prog GB C n lk bk ⟨dst, .call ⟨.invoke x m,args,tys⟩,ty,pos,af,gd⟩ (.d rv) [] []:=by
 intro hd tl tb K' s1 s2 hf hk;refine⟨fun ρ G ov a w r Q=>?_⟩;obtain⟨y,hy,u,rfl,hu⟩:=(r.mono s1 s2).ev hx;obtain⟨vs,h3,h4⟩:=(r.mono s1 s2).evDs ha;have hFn:=hF G (u::vs) r.gb (.cons hu h4);have h2:=ard (dst:=dst) (ty:=ty) (pos:=pos) (af:=af) (gd:=gd) (tys:=tys) (w:=w) (c6 a) hy h3 (hm G u hu) hFn.able;simp only[Oper.wp,h2,Oper.upon];refine(hFn.run w r.h.sub).mono ?_;rintro e w' ⟨v,G',rfl,hh,hK⟩;have rl:gq C n (cC a) ov G a w:=⟨r.h,r.sz,c6 a,r.df⟩;have rl2:=(rl.heap (rl.h.called hh)).put v hd;exact hk.run ρ G' ov _ w' ⟨r.gb.trans hh.gle,rl2.h,rl2.sz,rl2.df,(jz rl2).fx (fun k g _ e=>by obtain⟨z,h5,h6⟩:=r.fx k g e;exact⟨z,h5,h6.up hh.gle⟩) hK,
  fun nm B e=>by obtain⟨os,h5,h6⟩:=r.bx nm B e;exact⟨os,h5.up hh.gle,h6⟩,r.dj,r.fxd⟩
def II(fr:av)(cf:Cf):Option (String×TypeId×DV×List DV):=match b8 fr cf with
 |some ⟨_, .call ⟨.invoke x m,args,_⟩,_,_,_,_⟩=>match aI (bw fr cf) x with
  |some (.ip t d)=>match evDs (bw fr cf) args.toList with
   |some ds=>some (m,t,d,ds)
   |none=>none
  |_=>none
 |_=>none
def Ww[fu:Fu]{m:String}{t:TypeId}{d:DV}{f:FuncId}{ds:List DV}{rv:DV}(ha:II fr cf=some (m,t,d,ds))(hm: ∀G u,Is G d u->zT t u m f)(hF:PF GB prog f (d::ds) rv)(hgo:cv tt n fu.n fr own cf (.d rv) [] []=⟨vc,fr',own',cf'⟩)(k:ak prog GB C n Q0 fr' own' cf')
  (hv:autoParam (aj vc) cL._auto_1):ak prog GB C n Q0 fr own cf:=by
 unfold II at ha;split at ha<;>try (cases ha;done)
 rename_i hh;split at ha<;>try (cases ha;done)
 rename_i hx;split at ha<;>cases ha;rename_i hds;exact us hh (WN hx hds hm hF) hgo hv k
end
section
variable {GB:Gh} {C:aC} {n:Nat} {Q0:Exit->Act->World->Prop} {fr fr':av} {own own':aF} {cf cf':Cf} {vc:List Prop} {lk:LK} {bk:BM} {dst:Option Nat} {ty:TypeId} {pos:String} {af:Array Edge} {gd:Option (Nat×Bool)}
def ze(lk:LK):List Operand->Option (List Value)
 |[]=>some []
 |x::xs=>match aI lk x with
  |some (.d (.v pv))=>match ze lk xs with
   |some l=>some (pv::l)
   |none=>none
  |_=>none
def Hj{ρ:NE}{G:Gh}{ov:List au}{a:Act}{w:World}(r:b5 GB C n lk bk ρ G ov a w): ∀{xs:List Operand} {l:List Value},ze lk xs=some l->xs.mapM (aD (cC a))=some l
 |[],l,h=>by cases h;rfl
 |x::xs,l,h=>by
  simp only[ze] at h;split at h<;>try (cases h;done)
  rename_i h1;split at h<;>cases h;rename_i h2;obtain⟨y,h3,h4⟩:=r.ev h1;rw[(aP (G:=G)).1 h4] at h3;rw[nU,h3,Hj r h2];rfl
def Ja(fr:av)(cf:Cf):Option (FuncId×List Value×List Value):=match b8 fr cf with
 |some ⟨_, .makeFunc (.func f) ⟨xs⟩ ⟨ys⟩,_,_,_,_⟩=>match ze (bw fr cf) xs,ze (bw fr cf) ys with
  |some a,some b=>some (f,a,b)
  |_,_=>none
 |_=>none
def CS[fu:Fu]{f:FuncId}{c1 c2:List Value}(h:Ja fr cf=some (f,c1,c2))(hgo:cv tt n fu.n fr own cf (.d (.v (.func (.func f) ⟨c1⟩ ⟨c2⟩))) [] []=⟨vc,fr',own',cf'⟩)(k:ak prog GB C n Q0 fr' own' cf')
  (hv:autoParam (aj vc) cL._auto_1):ak prog GB C n Q0 fr own cf:=by
 unfold Ja at h;split at h<;>try (cases h;done)
 rename_i hh;split at h<;>cases h;rename_i h1 h2;exact us hh (b7.yd (f:= .d (.v (.func (.func f) ⟨c1⟩ ⟨c2⟩))) fun ρ G ov a w r=>⟨_,(aP (G:=G)).2 J,yJ (Hj r h1) (Hj r h2)⟩) hgo hv k
def JV(fr:av)(cf:Cf):Option (FuncId×DV):=match b8 fr cf with
 |some ⟨_, .makeFunc (.func f) ⟨[x]⟩ ⟨[]⟩,_,_,_,_⟩=>match evD (bw fr cf) x with
  |some d=>some (f,d)
  |_=>none
 |_=>none
def CK[fu:Fu]{f:FuncId}{d:DV}(pv:Value)(h:JV fr cf=some (f,d))(hd: ∀G y,Is G d y->y=pv)(hgo:cv tt n fu.n fr own cf (.d (.v (.func (.func f) ⟨[pv]⟩ ⟨[]⟩))) [] []=⟨vc,fr',own',cf'⟩)(k:ak prog GB C n Q0 fr' own' cf')
  (hv:autoParam (aj vc) cL._auto_1):ak prog GB C n Q0 fr own cf:=by
 unfold JV at h;split at h<;>try (cases h;done)
 rename_i hh;split at h<;>cases h;rename_i hx;exact us hh (b7.yd (f:= .d (.v (.func (.func f) ⟨[pv]⟩ ⟨[]⟩))) fun ρ G ov a w r=>by
  obtain⟨y,hy,hy'⟩:=r.evD hx;obtain rfl:=hd G y hy';exact⟨_,(aP (G:=G)).2 J,yJ (l1:=[y]) (l2:=[]) (by simp[hy]) J⟩) hgo hv k
def U5{fo:Operand}{args:Array Operand}{tys:Array TypeId}{f:FuncId}{c1 c2:List Value}{ds1 ds ds2:List DV}{rv:DV}(h1:aI lk fo=some (.d (.v (.func (.func f) ⟨c1⟩ ⟨c2⟩))))(h2:evDs lk args.toList=some ds)(hc:IsLs GB ds1 c1)(hc2:IsLs GB ds2 c2)(hF:PF GB prog f (ds1++ds++ds2) rv):
  b7 prog GB C n lk bk ⟨dst, .call ⟨.value fo,args,tys⟩,ty,pos,af,gd⟩ (.d rv) [] []:=by
 intro hd tl tb K' s1 s2 hf hk;refine⟨fun ρ G ov a w r Q=>?_⟩;obtain⟨y,hy,hy'⟩:=(r.mono s1 s2).ev h1;rw[(aP (G:=G)).1 hy'] at hy;obtain⟨vs,h3,h4⟩:=(r.mono s1 s2).evDs h2;refine OP (c1:=c1) (c2:=c2) hy h3 (hF G (c1++vs++c2) r.gb (((hc.up r.gb).app h4).app (hc2.up r.gb))) hd (fun v G' hG hK a' w' rl=>?_) a w Q ⟨r.h,r.sz,c6 a,r.df⟩;exact hk.run ρ G' ov a' w' ⟨r.gb.trans hG.le,rl.h,rl.sz,rl.df,(jz rl).fx (fun k g _ e=>by obtain⟨u,h5,h6⟩:=r.fx k g e;exact⟨u,h5,h6.up hG.le⟩) hK,
  fun nm B e=>by obtain⟨os,h5,h6⟩:=r.bx nm B e;exact⟨os,h5.up hG.le,h6⟩,r.dj,r.fxd⟩
def QR(fr:av)(cf:Cf):Option (FuncId×List Value×List Value×List DV):=match b8 fr cf with
 |some ⟨_, .call ⟨.value fo,args,_⟩,_,_,_,_⟩=>match aI (bw fr cf) fo,evDs (bw fr cf) args.toList with
  |some (.d (.v (.func (.func f) ⟨c1⟩ ⟨c2⟩))),some ds=>some (f,c1,c2,ds)
  |_,_=>none
 |_=>none
def xy[fu:Fu]{f:FuncId}{c1 c2:List Value}{ds ds1 ds2:List DV}{rv:DV}(ha:QR fr cf=some (f,c1,c2,ds))(hc:IsLs GB ds1 c1)(hc2:IsLs GB ds2 c2)(hF:PF GB prog f (ds1++ds++ds2) rv)(hgo:cv tt n fu.n fr own cf (.d rv) [] []=⟨vc,fr',own',cf'⟩)(k:ak prog GB C n Q0 fr' own' cf')
  (hv:autoParam (aj vc) cL._auto_1):ak prog GB C n Q0 fr own cf:=by
 unfold QR at ha;split at ha<;>try (cases ha;done)
 rename_i hh;split at ha<;>cases ha;rename_i h1 h2;exact us hh (U5 h1 h2 hc hc2 hF) hgo hv k
end
section
variable {GB:Gh} {C:aC} {n:Nat} {Q0:Exit->Act->World->Prop} {fr fr':av} {own own':aF} {cf cf':Cf} {vc:List Prop}
def ML(fr:av)(cf:Cf):Option (Int×Int):=match b8 fr cf with
 |some ⟨_, .binOp .xor _ x y _,_,_,_,_⟩=>match aI (bw fr cf) x,aI (bw fr cf) y with
  |some (.d (.v (.int .u32 p))),some (.d (.v (.int .u32 q)))=>some (p,q)
  |_,_=>none
 |_=>none
def xr[fu:Fu]{p q:Int}(u:Int)(h:ML fr cf=some (p,q))(e:(((BitVec.ofInt 32 p^^^BitVec.ofInt 32 q).toNat:Nat):Int)=u)(hgo:cv tt n fu.n fr own cf (.d (.v (.int .u32 u))) [] []=⟨vc,fr',own',cf'⟩)(k:ak prog GB C n Q0 fr' own' cf')
  (hv:autoParam (aj vc) cL._auto_1):ak prog GB C n Q0 fr own cf:=by
 unfold ML at h;split at h<;>try (cases h;done)
 rename_i hh;split at h<;>cases h;rename_i h1 h2;subst e;exact us hh (.yd fun ρ G ov a w r=>by
  obtain⟨y1,h3,h4⟩:=r.ev h1;obtain⟨y2,h5,h6⟩:=r.ev h2;rw[c8] at h4 h6;subst h4 h6;exact⟨_,c8.2 J,j0 h3 h5 fun w=>by
   show(pure (Value.int .u32 (IntKind.u32.wrap ((BitVec.ofInt 32 p^^^BitVec.ofInt 32 q).toNat:Int))):Sem Value).run prog w=_;rw[z7];rfl⟩) hgo hv k
def Nl(fr:av)(cf:Cf):Option (Int×Int):=match b8 fr cf with
 |some ⟨_, .binOp .sub _ x y _,_,_,_,_⟩=>match aI (bw fr cf) x,aI (bw fr cf) y with
  |some (.d (.v (.int .u32 p))),some (.d (.v (.int .u32 q)))=>some (p,q)
  |_,_=>none
 |_=>none
def sw[fu:Fu]{p q:Int}(u:Int)(h:Nl fr cf=some (p,q))(e:(p-q)%4294967296=u)(hgo:cv tt n fu.n fr own cf (.d (.v (.int .u32 u))) [] []=⟨vc,fr',own',cf'⟩)(k:ak prog GB C n Q0 fr' own' cf')
  (hv:autoParam (aj vc) cL._auto_1):ak prog GB C n Q0 fr own cf:=by
 unfold Nl at h;split at h<;>try (cases h;done)
 rename_i hh;split at h<;>cases h;rename_i h1 h2;subst e;exact us hh (.yd fun ρ G ov a w r=>by
  obtain⟨y1,h3,h4⟩:=r.ev h1;obtain⟨y2,h5,h6⟩:=r.ev h2;rw[c8] at h4 h6;subst h4 h6;exact⟨_,c8.2 J,by rw[<-ry];exact aAB h3 h5⟩) hgo hv k
def Qq(fr:av)(cf:Cf):Option Int:=match b8 fr cf with
 |some ⟨_, .unOp .xor _ x,_,_,_,_⟩=>match aI (bw fr cf) x with
  |some (.d (.v (.int .u32 p)))=>some p
  |_=>none
 |_=>none
def nt[fu:Fu]{p:Int}(u:Int)(h:Qq fr cf=some p)(e:(((BitVec.ofInt 32 IntKind.u32.max^^^BitVec.ofInt 32 p).toNat:Nat):Int)=u)(hgo:cv tt n fu.n fr own cf (.d (.v (.int .u32 u))) [] []=⟨vc,fr',own',cf'⟩)(k:ak prog GB C n Q0 fr' own' cf')
  (hv:autoParam (aj vc) cL._auto_1):ak prog GB C n Q0 fr own cf:=by
 unfold Qq at h;split at h<;>try (cases h;done)
 rename_i hh;split at h<;>cases h;rename_i hx;subst e;refine us hh (.x1 hx fun ρ G ov a w y _ r h1 h2=>?_) hgo hv k;rw[c8] at h2;subst h2;refine⟨_,c8.2 J,fun a w hf hh=>?_⟩;simp only[execOp,bz hf h1];refine cI (w':=w) ?_;show(pure (Value.int .u32 (IntKind.u32.wrap ((BitVec.ofInt 32 IntKind.u32.max^^^BitVec.ofInt 32 p).toNat:Int))):Sem Value).run prog w=_;rw[z7];rfl
end

def TR(ds:List Nat): ∀v∈ds.map dI,flat v=true:=fun v hv=>by
 obtain⟨d,_,rfl⟩:=bX.1 hv;rfl
def arG{A G:Gh}{x:SV}{ds:List Nat}(hx:l5 A x ds)[GL A G](hb:ds.length<=1125899906842):Fn prog 241 [x.v] G (fun v G'=> ∃z:SV,v=z.v/\l5 G' z ds):=by
 have hlen:=hx.len;refine Fn.intro func241 J J ntmps241 J ?_;intro C _ _;refine sR<|sa J J<|zE<|lO<|sR<|sm J J<|sy (LN J J) J<|zE<|?_;refine avG J (fun hc=>?_) (fun hc=>?_)
 .refine sR<|sa J J<|zE<|sB<|?_
  refine zD (.tmp J .nil) ⟨⟨none,0,0⟩,J,?_⟩;rcases hx.sl.mem with h|⟨b,off,cs,ha,_⟩
  .have:ds=[]:=by simpa using h
   subst this;exact .nil _
  .rw[ha] at hc;cases hc
 refine zK<|sR<|?_;refine sc (Ou J ?_);intro b1;refine sm J J<|?_;refine sc (P5 (xs:=[]) (rest:=[]) (ys:=ds.map dI) J J (.hd ..) J J (bQ _) (YB hx) (by simp[hlen]) (TR ds) (by decide) (by omega) J J ?_);intro b cap rest h1 h2;refine sa J J<|zE<|P2 b (.hd ..) (fun G' _ hgb=>?_);refine sB<|?_;refine zD (.tmp J .nil) ⟨⟨some ⟨b,0,none⟩,x.n,cap⟩,by simp[kH,SV.v],?_⟩;exact .of_block hx.ok hgb.h hlen (by omega) (by simp)
end Go.Sx
end
section
namespace Go.Proofs
open Go.Shelf
def Tryz.lays128_ren:Go.Shelf.Ren:=⟨fun|128=>165|n=>n,fun|51=>261|3=>3|4=>4|46=>219|5=>5|9=>9|n=>n,fun|n=>n⟩
def Tryz.lays125_ren:Go.Shelf.Ren:=⟨fun|125=>103|128=>165|129=>166|n=>n,fun|46=>219|3=>3|51=>261|53=>255|4=>4|5=>5|9=>9|n=>n,fun|n=>n⟩
def Tryz.lays133_ren:Go.Shelf.Ren:=⟨fun|133=>237|128=>165|n=>n,fun|51=>261|3=>3|4=>4|46=>219|5=>5|9=>9|n=>n,fun|n=>n⟩
def Tryz.lays133:Go.Proofs.Lays.n133 Tryz.prog Tryz.lays133_ren:={
 mixed:=by kernel_rfl
 f128:=Tryz.func165.trans (congrArg some (by kernel_rfl))
 f133:=Tryz.func237.trans (congrArg some (by kernel_rfl))
 t3:=Tryz.underlying3
 a3:=Tryz.isAgg3
 z3:=Tryz.sizeOf3
 v3:=Tryz.zeroValue3
 t4:=Tryz.underlying4
 a4:=Tryz.isAgg4
 z4:=Tryz.sizeOf4
 v4:=Tryz.zeroValue4
 t5:=Tryz.underlying5
 a5:=Tryz.isAgg5
 z5:=Tryz.sizeOf5
 v5:=Tryz.zeroValue5
 t9:=Tryz.underlying9
 a9:=Tryz.isAgg9
 z9:=Tryz.sizeOf9
 v9:=Tryz.zeroValue9
 t46:=Tryz.underlying219
 a46:=Tryz.isAgg219
 z46:=Tryz.sizeOf219
 v46:=Tryz.zeroValue219
 t51:=Tryz.underlying261
 a51:=Tryz.isAgg261
 z51:=Tryz.sizeOf261
 v51:=Tryz.zeroValue261}
def Tryz.bits_LeadingZeros32(x:Int)(w:World)(h0:0<=x)(h1:x<=4294967295):
  Calls Tryz.prog 237 #[.int .u32 x] w fun e w'=>e= .returned (.int .i64 (32-(Lib.bitLen x.toNat:Int)))/\w'=w:=Any.bits_LeadingZeros32 Tryz.lays133 x w h0 h1
def Tryz.lays129_ren:Go.Shelf.Ren:=⟨fun|129=>166|n=>n,fun|53=>255|3=>3|4=>4|46=>219|5=>5|9=>9|n=>n,fun|n=>n⟩
def Tryz.lays317_ren:Go.Shelf.Ren:=⟨fun|317=>266|n=>n,fun|3=>3|46=>219|n=>n,fun|n=>n⟩
open Go.Lib in
def Tryz.lays318_ren:Go.Shelf.Ren:=⟨fun|318=>267|n=>n,fun|3=>3|4=>4|n=>n,fun|n=>n⟩
open Go.Lib in
def Tryz.lays283_ren:Go.Shelf.Ren:=⟨fun|283=>254|n=>n,fun|3=>3|9=>9|4=>4|n=>n,fun|n=>n⟩
open Go.Lib in
def Tryz.laysM284_ren:Go.Shelf.Ren:=⟨fun|284=>255|129=>166|317=>266|318=>267|n=>n,fun|53=>255|3=>3|212=>351|0=>0|4=>4|46=>219|5=>5|9=>9|n=>n,fun|17=>5|n=>n⟩
open Go.Lib in
def Tryz.lays285_ren:Go.Shelf.Ren:=⟨fun|285=>256|n=>n,fun|37=>339|53=>255|3=>3|4=>4|51=>261|9=>9|5=>5|0=>0|n=>n,fun|n=>n⟩
open Go.RowKit Go.Sort Go.Lib in
def Tryz.laysM246_ren:Go.Shelf.Ren:=⟨fun|246=>230|283=>254|284=>255|285=>256|286=>257|129=>166|317=>266|318=>267|319=>268|320=>269|337=>279|338=>280|n=>n,fun|2=>2|3=>3|9=>9|4=>4|171=>337|0=>0|53=>255|37=>339|5=>5|173=>340|212=>351|51=>261|20=>20|213=>352|46=>219|232=>361|233=>362|n=>n,fun|17=>5|18=>6|19=>7|n=>n⟩
open Go.RowKit Go.Sort Go.Lib in
def Tryz.lays246_ren:Go.Shelf.Ren:=⟨fun|246=>230|283=>254|284=>255|285=>256|286=>257|129=>166|317=>266|318=>267|319=>268|320=>269|337=>279|338=>280|n=>n,fun|2=>2|3=>3|9=>9|4=>4|171=>337|0=>0|53=>255|37=>339|5=>5|173=>340|212=>351|51=>261|20=>20|213=>352|46=>219|232=>361|233=>362|n=>n,fun|17=>5|18=>6|19=>7|n=>n⟩
open Go.RowKit Go.Sort Go.Lib in
def Tryz.laysM243_ren:Go.Shelf.Ren:=⟨fun|243=>181|246=>230|283=>254|284=>255|285=>256|286=>257|129=>166|317=>266|318=>267|319=>268|320=>269|337=>279|338=>280|n=>n,fun|3=>3|9=>9|2=>2|4=>4|171=>337|0=>0|53=>255|37=>339|5=>5|173=>340|212=>351|51=>261|20=>20|213=>352|46=>219|232=>361|233=>362|n=>n,fun|17=>5|18=>6|19=>7|n=>n⟩
open Go.RowKit Go.Sort Go.Lib in
def Tryz.lays243_ren:Go.Shelf.Ren:=⟨fun|243=>181|246=>230|283=>254|284=>255|285=>256|286=>257|129=>166|317=>266|318=>267|319=>268|320=>269|337=>279|338=>280|n=>n,fun|3=>3|9=>9|2=>2|4=>4|171=>337|0=>0|53=>255|37=>339|5=>5|173=>340|212=>351|51=>261|20=>20|213=>352|46=>219|232=>361|233=>362|n=>n,fun|17=>5|18=>6|19=>7|n=>n⟩
open Go.RowKit Go.Sort Go.Lib in
def Tryz.laysM171_ren:Go.Shelf.Ren:=⟨fun|171=>114|243=>181|246=>230|283=>254|284=>255|285=>256|286=>257|129=>166|317=>266|318=>267|319=>268|320=>269|337=>279|338=>280|n=>n,fun|3=>3|9=>9|2=>2|4=>4|171=>337|0=>0|53=>255|37=>339|5=>5|173=>340|212=>351|51=>261|20=>20|213=>352|46=>219|232=>361|233=>362|n=>n,fun|17=>5|18=>6|19=>7|n=>n⟩
open Go.RowKit Go.Sort Go.Lib in
def Tryz.lays171_ren:Go.Shelf.Ren:=⟨fun|171=>114|243=>181|246=>230|283=>254|284=>255|285=>256|286=>257|129=>166|317=>266|318=>267|319=>268|320=>269|337=>279|338=>280|n=>n,fun|3=>3|9=>9|2=>2|4=>4|171=>337|0=>0|53=>255|37=>339|5=>5|173=>340|212=>351|51=>261|20=>20|213=>352|46=>219|232=>361|233=>362|n=>n,fun|17=>5|18=>6|19=>7|n=>n⟩
def Tryz.lays171:Go.Proofs.Lays.n171 Tryz.prog Tryz.lays171_ren:={
 mixed:=by kernel_rfl
 f129:=Tryz.func166.trans (congrArg some (by kernel_rfl))
 f171:=Tryz.func114.trans (congrArg some (by kernel_rfl))
 f243:=Tryz.func181.trans (congrArg some (by kernel_rfl))
 f246:=Tryz.func230.trans (congrArg some (by kernel_rfl))
 f283:=Tryz.func254.trans (congrArg some (by kernel_rfl))
 f284:=Tryz.func255.trans (congrArg some (by kernel_rfl))
 f285:=Tryz.func256.trans (congrArg some (by kernel_rfl))
 f286:=Tryz.func257.trans (congrArg some (by kernel_rfl))
 f317:=Tryz.func266.trans (congrArg some (by kernel_rfl))
 f318:=Tryz.func267.trans (congrArg some (by kernel_rfl))
 f319:=Tryz.func268.trans (congrArg some (by kernel_rfl))
 f320:=Tryz.func269.trans (congrArg some (by kernel_rfl))
 f337:=Tryz.func279.trans (congrArg some (by kernel_rfl))
 f338:=Tryz.func280.trans (congrArg some (by kernel_rfl))
 t0:=Tryz.underlying0
 a0:=Tryz.isAgg0
 z0:=Tryz.sizeOf0
 v0:=Tryz.zeroValue0
 t2:=Tryz.underlying2
 a2:=Tryz.isAgg2
 z2:=Tryz.sizeOf2
 v2:=Tryz.zeroValue2
 t3:=Tryz.underlying3
 a3:=Tryz.isAgg3
 z3:=Tryz.sizeOf3
 v3:=Tryz.zeroValue3
 t4:=Tryz.underlying4
 a4:=Tryz.isAgg4
 z4:=Tryz.sizeOf4
 v4:=Tryz.zeroValue4
 t5:=Tryz.underlying5
 a5:=Tryz.isAgg5
 z5:=Tryz.sizeOf5
 v5:=Tryz.zeroValue5
 t9:=Tryz.underlying9
 a9:=Tryz.isAgg9
 z9:=Tryz.sizeOf9
 v9:=Tryz.zeroValue9
 t20:=Tryz.underlying20
 a20:=Tryz.isAgg20
 z20:=Tryz.sizeOf20
 v20:=Tryz.zeroValue20
 t37:=Tryz.underlying339
 a37:=Tryz.isAgg339
 z37:=Tryz.sizeOf339
 v37:=Tryz.zeroValue339
 t46:=Tryz.underlying219
 a46:=Tryz.isAgg219
 z46:=Tryz.sizeOf219
 v46:=Tryz.zeroValue219
 t51:=Tryz.underlying261
 a51:=Tryz.isAgg261
 z51:=Tryz.sizeOf261
 v51:=Tryz.zeroValue261
 t53:=Tryz.underlying255
 a53:=Tryz.isAgg255
 z53:=Tryz.sizeOf255
 v53:=Tryz.zeroValue255
 t171:=Tryz.underlying337
 a171:=Tryz.isAgg337
 z171:=Tryz.sizeOf337
 v171:=Tryz.zeroValue337
 t173:=Tryz.underlying340
 a173:=Tryz.isAgg340
 z173:=Tryz.sizeOf340
 v173:=Tryz.zeroValue340
 t212:=Tryz.underlying351
 a212:=Tryz.isAgg351
 z212:=Tryz.sizeOf351
 v212:=Tryz.zeroValue351
 t213:=Tryz.underlying352
 a213:=Tryz.isAgg352
 z213:=Tryz.sizeOf352
 t232:=Tryz.underlying361
 a232:=Tryz.isAgg361
 z232:=Tryz.sizeOf361
 v232:=Tryz.zeroValue361
 t233:=Tryz.underlying362
 a233:=Tryz.isAgg362
 z233:=Tryz.sizeOf362
 v233:=Tryz.zeroValue362
 g17:=by kernel_rfl
 g18:=by kernel_rfl
 g19:=by kernel_rfl}
open Go.RowKit Go.Sort Go.Lib in
def Tryz.strconv_Itoa_small(i:Nat)(hi:i<100)(w:World):
  Calls Tryz.prog 114 #[.int .i64 i] w fun e w'=>e= .returned (.string ⟨(Lib.decDigits i).toArray⟩)/\w'=w:=Any.strconv_Itoa_small Tryz.lays171 i hi w
def Tryz.lays264_ren:Go.Shelf.Ren:=⟨fun|264=>261|n=>n,fun|53=>255|46=>219|n=>n,fun|n=>n⟩
def Tryz.lays264:Go.Proofs.Lays.n264 Tryz.prog Tryz.lays264_ren:={
 mixed:=by kernel_rfl
 f264:=Tryz.func261.trans (congrArg some (by kernel_rfl))
 t46:=Tryz.underlying219
 a46:=Tryz.isAgg219
 z46:=Tryz.sizeOf219
 v46:=Tryz.zeroValue219
 t53:=Tryz.underlying255
 a53:=Tryz.isAgg255
 z53:=Tryz.sizeOf255
 v53:=Tryz.zeroValue255}
open Go.RowKit Go.Lib in
def Tryz.bits_Mul64(x y:Nat)(hx:x<18446744073709551616)(hy:y<18446744073709551616)(w:World):
  Calls Tryz.prog 261 #[.int .u64 x, .int .u64 y] w fun e w'=>e= .returned (.tuple #[.int .u64 ((x*y/18446744073709551616:Nat):Int), .int .u64 ((x*y%18446744073709551616:Nat):Int)])/\w'=w:=Any.bits_Mul64 Tryz.lays264 x y hx hy w
end Go.Proofs
end
section
namespace Go.Sx
open Go Go.Proofs Tryz
def bl(x:Nat):Nat:=if x=0 then 0 else Nat.log2 x+1
def B8(x:Nat):x<2^bl x:=by
 unfold bl;split
 .rename_i h;subst h;decide
 .exact Nat.lt_log2_self
def ld{x k:Nat}:bl x<=k↔x<2^k:=by
 constructor
 .intro h;exact bM (B8 x) (bU (by omega) h)
 .intro h
  unfold bl;split
  .omega
  .rename_i h0
   have:=(Nat.log2_lt h0).2 h;omega
def UC{x:Nat}(h:x≠0):bl x=1+bl (x/2):=by
 have h1: ∀k,bl x<=k+1↔bl (x/2)<=k:=fun k=>by
  rw[ld,ld,iL];omega
 have h2:bl x≠0:=fun e=>by
  have:=B8 x;rw[e] at this;simp at this;exact h this
 have h3:=(h1 (bl (x/2))).2 (bQ _);have h4:=(h1 (bl x-1)).1 (by omega);omega
def Qz: ∀(f x:Nat),x<2^f->Lib.bitLenAux f x=bl x
 |0,x,h=>by
  have:x=0:=by simpa using h
  subst this;rfl
 |f+1,x,h=>by
  unfold Lib.bitLenAux;split
  .rename_i h0;subst h0;rfl
  .rename_i h0
   rw[Qz f (x/2) (by rw[iL] at h;omega),UC h0]
def Y2{x:Nat}(h:x<2^64):Lib.bitLen x=bl x:=Qz 64 x h
def Xu{x k:Nat}(d:Nat)(h:x<2^k)(hd:d≠0):bl (x+2^k*d)=k+bl d:=by
 have h1: ∀j,bl (x+2^k*d)<=k+j↔bl d<=j:=fun j=>by
  rw[ld,ld,gM];constructor
  .intro h'
   exact Nat.lt_of_mul_lt_mul_left (a:=2^k) (by omega)
  .intro h'
   have:2^k*(d+1)<=2^k*2^j:=fR _ h';rw[dK] at this;omega
 have h2:k<bl (x+2^k*d):=by
  rcases fW k (bl (x+2^k*d)) with h'|h'
  .exact h'
  .have:=ld.1 h'
   have h3:2^k*1<=2^k*d:=fR _ (by omega);omega
 have h3:=(h1 (bl d)).2 (bQ _);have h4:=(h1 (bl (x+2^k*d)-k)).1 (by omega);omega
def TG{ds:List Nat}(h:bt ds)(hn:dl ds)(hne:ds≠[]):bl (dv ds)=32*(ds.length-1)+bl (ds.getD (ds.length-1) 0):=by
 rcases rW ds with rfl|⟨l,d,rfl⟩
 .exact absurd J hne
 .rw[rY] at*
  have hd:d≠0:=fun e=>by subst e;simp[dl] at hn
  have hl:bt l:=fun x hx=>h x (cV _ hx);have h1:=ka hl;rw[xg];have h2:(4294967296:Nat)^l.length=2^(32*l.length):=by rw[sQ]
  rw[h2] at h1⊢;have h3:dv [d]=d:=by simp[dv]
  rw[h3,Xu d h1 hd];have h4:(l++[d]).length-1=l.length:=by simp
  rw[h4,aK,gK (bQ _)];simp
def Gd{P:Program}{f:FuncId}{fn:Func}{c:Code}(h:P.funcs[f]? =some fn)(hb:fn.body=some c)(hn:(fn.name== "runtime.NumGoroutine")=false):o5 P f:=⟨fn,h,hn,by rw[hb];rfl⟩
def Xr{G:Gh}{x:Nat}(hx:x<4294967296):Fn prog 237 [.int .u32 (x:Int)] G (fun v _=>v= .int .i64 (32-(bl x:Int))):=by
 have h:=Fn.of_calls (G:=G) (Gd func237 J J) (fun w=>Tryz.bits_LeadingZeros32 (x:Int) w (by omega) (by omega));rw[eY,Y2 (tQ hx (by decide))] at h;exact h
def gD(a b:Nat):Int:=if a<b then-1 else if a=b then 0 else 1
structure aIo where
 ws:List Nat
 k:Nat
 c:Nat
structure aHw where
 ws:List Nat
 k:Nat
 c:Nat
structure aHo where
 ws:List Nat
 i:Nat
structure aGl where
 ws:List Nat
 k:Nat
 c:Nat
def o4(d k:Nat)(hk:k<64)(h:d*2^k<18446744073709551616){q:Int}(hq:q.toNat=k:=by omega):IntKind.u64.wrap ((d:Int)*2^min q.toNat IntKind.u64.bits)=((d*2^k:Nat):Int):=by
 rw[hq,iM (by show k<=64;omega),pG];have e2:(d:Int)*2^k=((d*2^k:Nat):Int):=by push_cast;rfl
 rw[e2];omega
def PJ(d k:Nat)(hk:k<64:=by omega){q:Int}(hq:q.toNat=k:=by omega):(d:Int).fdiv (2^min q.toNat IntKind.u64.bits)=((d/2^k:Nat):Int):=by
 rw[hq,iM (by show k<=64;omega),jT _ (pU (Int.pow_pos (by decide)))];push_cast;rfl
structure aEV where
 ws:List Nat
 k:Nat
 r:Nat
section
variable {P:Program} {C:aC} {n:Nat} {fr:Fr} {own:List au} {G:Gh} {dst:Option Nat} {t t1 t2 ty':TypeId} {pos:String} {af:Array Edge} {gd:Option (Nat×Bool)} {x y:Operand}
end
structure aEU where
 ws:List Nat
 i:Nat
end Go.Sx
end
section
namespace Go.Sx
def vj(i:Nat):(4294967296:Nat)^(i+1)=4294967296^i*4294967296:=iL ..
def VL{U p V T S first third:Nat}(hU:U<(first*4294967296+third+1)*p)(h3:third<4294967296)(hV:(T*4294967296+S)*p<=V)(hT:0<T):
  U<(first/T+1)*V:=by
 have h1:first+1<=(first/T+1)*T:=by
  have:=Nat.lt_mul_div_succ first hT
  rw[bT];omega
 calc U<(first*4294967296+third+1)*p:=hU
  _<=((first+1)*4294967296)*p:=bV _ (by omega)
  _<=(((first/T+1)*T)*4294967296)*p:=bV _ (bV _ h1)
  _=(first/T+1)*((T*4294967296)*p):=by rw[bR (first/T+1),bR (first/T+1)]
  _<=(first/T+1)*V:=fR _ (dJ (bV _ (pT _ _)) hV)
def TC{U p V T S first third v0:Nat}(hU:(first*4294967296+third)*p<=U)(hV:V=(T*4294967296+S)*p+v0)(hv:v0<p)(hlt:U<V*4294967296):first<=T*4294967296+S:=by
 rcases fW (T*4294967296+S) first with h|h
 .exfalso
  have h1:(T*4294967296+S+1)*p<=first*p:=bV p h
  rw[dZ _ 1,lL] at h1;rw[dZ,mV] at hU;have:0<=third*p:=aN _;omega
 .exact h
def FR{U p V T S first third g r:Nat}(hU:U<(first*4294967296+third+1)*p)(hV:(T*4294967296+S)*p<=V)(hg:first=g*T+r)(hc:r*4294967296+third<g*S:=by omega):U<g*V:=by
 refine bM hU (dJ (bV p (m:=g*(T*4294967296+S)) ?_) ?_)
 .rw[dK,<-bR,hg,dZ];omega
 .rw[bR];exact fR _ hV
def Gb{U p V T S first third g r v0:Nat}(hU:(first*4294967296+third)*p<=U)(hV:V=(T*4294967296+S)*p+v0)(hv:v0<p)(hT:0<T)(hg:first=g*T+r)(hgB:g<4294967296)(hc:g*S<=r*4294967296+third):g*V<U+V:=by
 have h1:g*((T*4294967296+S)*p)<=U:=by
  rw[<-bR];refine dJ (bV p ?_) hU;rw[dK,<-bR,hg,dZ];omega
 have h2:g*v0<=4294967295*v0:=bV _ (by omega);have h3:4294967296*p<=V:=by
  rw[hV];refine dJ (bV p ?_) (pT _ _);omega
 have h4:g*V=g*((T*4294967296+S)*p)+g*v0:=by rw[<-dK,<-hV]
 omega
def Sn{U V R g:Nat}(h:U<(g+1)*V)(hr:R+g*V=U):R<V:=by
 rw[dZ,lL] at h;omega
def Xg{U V R R' g w M:Nat}(h2:g*V<U+V)(hr:R+g*V=U+M)(hb:R'+w*M=R+V)(hR:R<M)(hR':R'<M)(hw:w<=1)(hg:0<g):R'+(g-1)*V=U/\R'<V:=by
 have hgv:g*V=(g-1)*V+V:=by
  conv=>lhs;rw[show g=(g-1)+1 by omega,dZ,lL]
 have:w=1:=by
  rcases fW w 1 with h|h
  .have:w=0:=by omega
   subst this;omega
  .omega
 subst this;omega
def w8(us:List Nat)(i:Nat):dv (us.drop i)=us.getD i 0+4294967296*dv (us.drop (i+1)):=by
 rcases fW i us.length with h|h
 .rw[cW h];simp[dv,List.getD,aZ h]
 .rw[gR h,gR (by omega)]
  simp[dv,fM h,List.getD]
def uu(us:List Nat)(i:Nat):dv us=dv (us.take i)+4294967296^i*dv (us.drop i):=by
 rcases fW us.length i with h|h
 .rw[cR (by omega),gR (by omega)];simp[dv]
 .exact zc us i h
def BJ{us:List Nat}(h:bt us)(i:Nat):dv (us.take i)<4294967296^i:=by
 refine bM (ka (h.take i)) (bU (by decide) ?_);simp[bK];omega
def yW{us:List Nat}{i:Nat}(hd:dv us<4294967296^i):dv (us.drop i)=0:=by
 have h:=uu us i;rcases fU (dv (us.drop i)) with h0|h0
 .exact h0
 .have:=fR (4294967296^i) h0
  omega
def YF{W W' U E p u x bo b c c1 g d:Nat}(hs:W'+p*u=W+p*x)(hw:W+E=U+(bo+c)*p)(hc:c1=c+g*d)(hx:x+(c1%4294967296+bo)=u+b*4294967296):
  W'+(E+g*d*p)=U+(b+c1/4294967296)*(p*4294967296):=by
 have h1:=congrArg (p* ·) hx;simp only[dK] at h1;have h2:p*c1=p*(c1%4294967296)+p*(c1/4294967296)*4294967296:=by
  rw[bR,<-dK,Nat.mod_add_div']
 have h3:p*c1=p*c+p*(g*d):=by rw[hc,dK]
 rw[dZ,bT bo,bT c] at hw;rw[bT (g*d),dZ,<-bR b,<-bR (c1/4294967296),bT b,bT (c1/4294967296)];rw[<-bR] at h1;omega
def Uu{W W' U E p u x bo b c:Nat}(hs:W'+p*u=W+p*x)(hw:W+E=U+(bo+c)*p)(hx:x+(c+bo)=u+b*4294967296):W'+E=U+b*(p*4294967296):=by
 have h1:=congrArg (p* ·) hx;simp only[dK] at h1;rw[dZ,bT bo,bT c] at hw;rw[<-bR b,bT b];rw[<-bR] at h1;omega
def aA0{W W' R E p u d c:Nat}(hs:W'+p*u=W+p*((c+(u+d))%4294967296))(hw:W+c*p=R+E):W'+(c+(u+d))/4294967296*(p*4294967296)=R+(E+d*p):=by
 have h2:p*(c+(u+d))=p*((c+(u+d))%4294967296)+p*((c+(u+d))/4294967296)*4294967296:=by
  rw[bR,<-dK,Nat.mod_add_div']
 rw[dK p c,dK p u] at h2;rw[bT c] at hw;rw[bT d,<-bR,bT _ p];omega
def ZI{W W' R p u c:Nat}(hs:W'+p*u=W+p*((u+c)%4294967296))(hw:W+c*p=R):W'+(u+c)/4294967296*(p*4294967296)=R:=by
 have h2:p*(u+c)=p*((u+c)%4294967296)+p*((u+c)/4294967296)*4294967296:=by
  rw[bR,<-dK,Nat.mod_add_div']
 rw[dK p u] at h2;rw[bT c] at hw;rw[<-bR,bT _ p];omega
def Yg{us:List Nat}(h:bt us)(i:Nat)(hd:dv us<4294967296^(i+3)):
  dv us=((us.getD (i+2) 0*4294967296+us.getD (i+1) 0)*4294967296+us.getD i 0)*4294967296^i+dv (us.take i):=by
 have h0:=yW hd;rw[uu us i,w8 us i,w8 us (i+1),w8 us (i+2),h0,kK,bT];congr 2;omega
def Xc{us:List Nat}(h:bt us)(i:Nat)(hd:dv us<4294967296^(i+2)):
  dv us=(us.getD (i+1) 0*4294967296+us.getD i 0)*4294967296^i+dv (us.take i):=by
 have h0:=yW hd;rw[uu us i,w8 us i,w8 us (i+1),h0,kK,bT];congr 2;omega
def Bb{us:List Nat}{k i d:Nat}(h:bt us)(hd:d<4294967296)(hk:dv us<4294967296^k)(hi:i<k:=by omega):dv (us.set i d)<4294967296^k:=by
 rw[uu _ k,List.drop_set,if_pos hi,yW hk,sN,gV];exact BJ (h.set i hd) k
end Go.Sx
end
section
namespace Go.Sx
open Go Go.Proofs Tryz

def WO{V n:Nat}(h1:4294967296^(n-1)<=V)(h2:V<4294967296^n)(hn:0<n):(dg V).length=n:=by
 obtain⟨e,hk,hr⟩:=ey V;have hne:dg V≠[]:=fun h=>by
  rw[h] at e;have:0<4294967296^(n-1):=gN (by decide);simp[dv] at e;omega
 have h3:=ul hr hne;have h4:=ka hk;rw[e] at h3 h4;have h5:=(nQ (a:=4294967296) (by decide)).1 (gW h3 h2);have h6:=(nQ (a:=4294967296) (by decide)).1 (gW h1 h4);omega
def RJ{t s:Nat}(h0:0<t)(ht:t<4294967296)(hs:s=32-bl t):s<32/\2147483648<=t*2^s/\(t+1)*2^s<=4294967296:=by
 have h1:bl t<=32:=ld.2 ht;have h2:bl t≠0:=fun h=>by
  have:=B8 t;rw[h] at this;omega
 have h3:=B8 t;have h4: ¬t<2^(bl t-1):=fun h=>by
  have:=ld.2 h;omega
 have e1:2^(bl t-1)*2^s=2147483648:=by rw[<-gM,show bl t-1+s=31 by omega]
 have e2:2^bl t*2^s=4294967296:=by rw[<-gM,show bl t+s=32 by omega]
 refine⟨by omega,?_,?_⟩
 .rw[<-e1];exact bV _ (by omega)
 .rw[<-e2];exact bV _ h3
def UT{us:List Nat}(h:bt us)(i:Nat)(hd:us.length=i+1):dv us=us.getD i 0*4294967296^i+dv (us.take i):=by
 have h0:dv (us.drop (i+1))=0:=by rw[gR (by omega)];rfl
 rw[uu us i,w8 us i,h0,kK,bT];rfl
def La{b:List Nat}(h:dl b)(i:Nat)(hi:b.length=i+1):0<b.getD i 0:=by
 rcases fU (b.getD i 0) with h0|h0
 .exfalso
  apply h;rw[kN,hi,show i+1-1=i from J];rw[List.getD,aZ (by omega)] at h0;rw[aZ (by omega)];simpa using h0
 .exact h0
def Sk(a:List Nat)(k:Nat):dv (a++List.replicate k 0)=dv a:=by rw[xg,vq];simp
structure aFB where
 us:List Nat
 qs:List Nat
 j:Nat
structure aE0 where
 g:Nat
 r:Nat
structure aIH where
 ws:List Nat
 k:Nat
 bo:Nat
 c:Nat
def r7(u m bo:Nat):Nat:=if m+bo<=u then u-(m+bo) else u+18446744073709551616-(m+bo)
def sub2(u m bo:Nat)(hu:u<4294967296)(hm:m<4294967296)(hb:bo<=1):IntKind.u64.wrap (IntKind.u64.wrap ((u:Int)-(m:Int))-(bo:Int))=((r7 u m bo:Nat):Int):=by
 rw[pG,pG];unfold r7;split<;>omega
def KQ(u m bo:Nat)(hu:u<4294967296)(hm:m<4294967296)(hb:bo<=1):r7 u m bo%4294967296+(m+bo)=u+r7 u m bo/9223372036854775808*4294967296/\r7 u m bo/9223372036854775808<=1/\r7 u m bo<18446744073709551616:=by
 unfold r7;split<;>omega
def i6{u k:Nat}(h:u<2^k):32*(dg u).length<=k+31:=Rp (ey u).2.2 (by rw[(ey u).1];exact h)
structure aIq where
 a:SV
 b:SV
 u:Nat
 v:Nat
structure IV where
 neg:Bool
 a:SV
def IV.v(z:IV):Value:= .agg ⟨[.bool z.neg, .slice z.a.a z.a.n z.a.c]⟩
def zv(neg:Bool)(u:Nat):Int:=if neg then-(u:Int) else u
def kI(neg:Bool)(u:Nat):(zv neg u).natAbs=u:=by cases neg<;>simp[zv]
def aEm(neg:Bool)(u:Nat):zv (!neg) u= -zv neg u:=by cases neg<;>simp[zv]
def J1(n m:Bool)(u w:Nat):zv (n !=m) (u*w)=zv n u*zv m w:=by cases n<;>cases m<;>simp[zv,Int.neg_mul,Int.mul_neg]
def Jt(neg:Bool)(u:Nat):decide (zv neg u<0)=(neg&&decide (0<u)):=by
 cases neg<;>simp[zv]
def jB(m:Int):zv (decide (m<0)) m.natAbs=m:=by
 unfold zv;by_cases h:m<0<;>simp[h]<;>omega
structure kz (k:Nat) (G:Gh) (z:IV) (m:Int):Prop where
 neg:z.neg=decide (m<0)
 abs:vT k G z.a m.natAbs
def kz.up{k:Nat}{A G:Gh}{z:IV}{m:Int}(h:kz k A z m)[GL A G]:kz k G z m:=⟨h.neg,h.abs.up⟩
def Z0(n:Bool)(u w:Nat):zv n (u+w)=zv n u+zv n w:=by cases n<;>simp[zv]<;>omega
def Ib(p:Int):IntKind.i64.wrap p=(p+9223372036854775808)%18446744073709551616-9223372036854775808:=by
 have e:IntKind.i64.wrap p=if(true&&decide (p%2^64>=2^(64-1)))=true then p%2^64-2^64 else p%2^64:=J
 rw[e,show(2:Int)^64=18446744073709551616 by decide,show(2:Int)^(64-1)=9223372036854775808 by decide,Bool.true_and];by_cases h:p%18446744073709551616>=9223372036854775808
 .rw[decide_eq_true h,if_pos J];omega
 .rw[decide_eq_false h,if_neg (by decide)];omega
structure RV where
 n:Int
 d:Int
 p:Option Addr
def RV.v(z:RV):Value:= .agg ⟨[.int .i64 z.n, .int .i64 z.d, .pointer z.p]⟩
structure aCy (z:RV) (q:Rat):Prop where
 p:z.p=none
 n:z.n=q.num
 d:z.d=(q.den:Int)-1
 b1:q.num.natAbs<4611686018427387904
 b2:q.den<4611686018427387904
structure Y9 (k:Nat) (G:Gh) (z:RV) (q:Rat):Prop where
 n:z.n=0
 d:z.d=0
 ex: ∃(b:Nat) (x:IV) (y:SV),z.p=some ⟨b,0,none⟩/\G b=some [.bool x.neg, .slice x.a.a x.a.n x.a.c, .slice y.a y.n y.c]/\kz k G x q.num/\vT k G y q.den
 no: ¬(q.num.natAbs<4611686018427387904/\q.den<4611686018427387904)
def uN(k:Nat)(G:Gh)(z:RV)(q:Rat):Prop:=q.num.natAbs<2^k/\q.den<2^k/\(aCy z q\/Y9 k G z q)
def Rz{neg:Bool}{u g:Nat}(h:g∣u):zv neg (u/g)=zv neg u/(g:Int):=by
 cases neg
 .simp[zv]
 .simp only[zv,if_true]
  rw[Int.neg_ediv_of_dvd (qL.2 h),rR]
def N6{m:Int}{e:Nat}(he:0<e):(mkRat m e).num=m/((Nat.gcd m.natAbs e:Nat):Int)/\(mkRat m e).den=e/Nat.gcd m.natAbs e:=by
 rw[Rat.num_mkRat,Rat.den_mkRat,if_neg (by omega),if_neg (by omega),iT];exact⟨J,J⟩
def UO{x:Nat}:(((bl x:Nat):Int)<=62)↔x<4611686018427387904:=by
 have:bl x<=62↔x<2^62:=ld;omega
structure aFr where
 x:SV
 y:SV
 ds:List Nat
 es:List Nat

def Sd{G:Gh}{x y:Nat}(hx:x<18446744073709551616)(hy:y<18446744073709551616):Fn prog 261 [.int .u64 (x:Nat), .int .u64 (y:Nat)] G (fun v _=>v= .tuple #[.int .u64 ((x*y/18446744073709551616:Nat):Int), .int .u64 ((x*y%18446744073709551616:Nat):Int)]):=
 Fn.of_calls (G:=G) (Gd func261 J J) (fun w=>Tryz.bits_Mul64 x y hx hy w)
def Mz(a b:Int):a*b=if(a<0)↔(b<0) then((a.natAbs*b.natAbs:Nat):Int) else-((a.natAbs*b.natAbs:Nat):Int):=by
 rcases(by omega:a<0\/0<=a) with h|h<;>rcases(by omega:b<0\/0<=b) with h2|h2
 .rw[if_pos (by simp[h,h2]),iJ,kV (pU h),kV (pU h2),Int.neg_mul_neg]
 .rw[if_neg (by simp[h];omega),iJ,kV (pU h),mM h2,Int.neg_mul,Int.neg_neg]
 .rw[if_neg (by simp[h2];omega),iJ,mM h,kV (pU h2),Int.mul_neg,Int.neg_neg]
 .rw[if_pos (by constructor<;>intro<;>omega),iJ,mM h,mM h2]
def W4{p:Int}(h:p.natAbs<9223372036854775808):IntKind.i64.wrap p=p:=by rw[Ib];omega

def Rl{n:Int}{d:Nat}(h:n<0):mkRat (-(d:Int)) n.natAbs=Rat.divInt (d:Int) n:=by
 rw[<-Rat.divInt_ofNat,kV (pU h),Rat.neg_divInt_neg]
def Jc{q:Rat}(h:q.num<0):(q⁻¹).num= -(q.den:Int)/\(q⁻¹).den=q.num.natAbs:=by
 rw[Rat.num_inv,Rat.den_inv,if_neg (by omega),fT h];omega
def Jf{q:Rat}(h:0<q.num):(q⁻¹).num=(q.den:Int)/\(q⁻¹).den=q.num.natAbs:=by
 rw[Rat.num_inv,Rat.den_inv,if_neg (by omega),gS h];omega
def CH{q:Rat}(h:q.den=1:=by omega):q=(q.num:Int):=by
 conv=>lhs;rw[<-pZ q,h,rN]
def ce(a b:Rat):Int:=if a<b then-1 else if b<a then 1 else 0
def D9(a b:Rat):(a-b).num<0↔a<b:=by
 rw[<-Rat.not_le,Rat.le_iff_sub_nonneg,<-Rat.num_nonneg];omega
def Mb(a b:Rat):0<(a-b).num↔b<a:=by
 have h:=D9 b a;have h2:(b-a).num= -(a-b).num:=by rw[<-nL,Rat.neg_sub]
 rw[h2] at h;rw[<-h];omega
def A4(a b:Rat):Int.sign (a-b).num=ce a b:=by
 unfold ce;split
 .rename_i h;exact fT ((D9 a b).2 h)
 .rename_i h
  split
  .rename_i h2;exact gS ((Mb a b).2 h2)
  .rename_i h2
   rw[<-D9] at h;rw[<-Mb] at h2;rw[show(a-b).num=0 by omega];rfl
def QK{a b:Rat}(h:a.den=b.den:=by omega):a<b↔a.num<b.num:=by
 rw[Rat.lt_iff,h];have:(0:Int)<b.den:=by have:=b.den_pos;omega
 exact⟨fun h2=>Int.lt_of_mul_lt_mul_right h2 (pU this),fun h2=>Int.mul_lt_mul_of_pos_right h2 this⟩
def oz(a b:Rat):ce a b=0↔a=b:=by
 unfold ce;constructor
 .intro h
  split at h
  .omega
  .rename_i h1
   split at h
   .omega
   .rename_i h2
    exact Rat.le_antisymm (Rat.not_lt.1 h2) (Rat.not_lt.1 h1)
 .intro h
  subst h;rw[if_neg (Rat.not_lt.2 gU),if_neg (Rat.not_lt.2 gU)]
def N4(a b:Rat):0<ce a b↔b<a:=by
 unfold ce;constructor
 .intro h
  split at h
  .omega
  .split at h
   .assumption
   .omega
 .intro h
  rw[if_neg (fun h2=>Rat.not_lt.2 (fQ h) h2),if_pos h];decide
def MS(a b:Rat):ce a b<0↔a<b:=by
 unfold ce;constructor
 .intro h
  split at h
  .assumption
  .split at h<;>omega
 .intro h
  rw[if_pos h];decide
def rgcd(a b:Rat):Rat:=mkRat ((Nat.gcd (a.num.natAbs*b.den) (b.num.natAbs*a.den):Nat):Int) (a.den*b.den)
def tU(a b:Int):rgcd a b=((Nat.gcd a.natAbs b.natAbs:Nat):Int):=by
 unfold rgcd;show mkRat ((Nat.gcd (a.natAbs*1) (b.natAbs*1):Nat):Int) (1*1)=_;rw[lM,lM,lM,rN]
def Iz{a b m:Nat}(ha:a<m)(hb:b<m):Nat.gcd a b<m:=by
 rcases fU a with h|h
 .rw[h,Nat.gcd_zero_left];exact hb
 .exact gW (Nat.gcd_le_left _ h) ha
structure LV where
 a:RV
 b:RV
 c:RV
def LV.v(z:LV):Value:= .agg ⟨[.int .i64 z.a.n, .int .i64 z.a.d, .pointer z.a.p, .int .i64 z.b.n, .int .i64 z.b.d, .pointer z.b.p, .int .i64 z.c.n, .int .i64 z.c.d, .pointer z.c.p]⟩
structure ab where
 a:Int
 b:Int
 c:Int
structure DN (k:Nat) (G:Gh) (z:LV) (l:ab):Prop where
 a:uN k G z.a (l.a:Rat)
 b:uN k G z.b (l.b:Rat)
 c:uN k G z.c (l.c:Rat)
def ab.ok(l:ab):Prop:= ¬(l.a=0/\l.b=0)/\Nat.gcd (Nat.gcd l.a.natAbs l.b.natAbs) l.c.natAbs=1
def okI(neg:Bool)(ds:List Nat):Prop:=dl ds/\(neg=true->ds≠[])
structure PV where
 x:RV
 y:RV
def PV.v(z:PV):Value:= .agg ⟨[.int .i64 z.x.n, .int .i64 z.x.d, .pointer z.x.p, .int .i64 z.y.n, .int .i64 z.y.d, .pointer z.y.p]⟩
structure aa where
 x:Rat
 y:Rat
structure IsP (k:Nat) (G:Gh) (z:PV) (p:aa):Prop where
 x:uN k G z.x p.x
 y:uN k G z.y p.y
def FN(a:Int): -(a:Rat)=((-a:Int):Rat):=rfl
def ab.rev(l:ab):ab:=⟨-l.a, -l.b, -l.c⟩
def ab.nor(l:ab):aa:=⟨l.a,l.b⟩
def ab.dir(l:ab):aa:=⟨l.b, -(l.a:Rat)⟩
def aa.dot(p q:aa):Rat:=p.x*q.x+p.y*q.y
def aa.cross(p q:aa):Rat:=p.x*q.y-p.y*q.x
def aa.scale(p:aa)(c:Rat):aa:=⟨p.x*c,p.y*c⟩
def aa.add(p q:aa):aa:=⟨p.x+q.x,p.y+q.y⟩
def ab.value(l:ab)(p:aa):Rat:=l.nor.dot p+(l.c:Rat)
def ab.base(l:ab):aa:=l.nor.scale (-(l.c:Rat)/l.nor.dot l.nor)
def ab.at(l:ab)(t:Rat):aa:=l.base.add (l.dir.scale t)
end Go.Sx
end
section
namespace Go.Sx
open Go
def dU(d:Nat):DV:= .v (.int .u32 (d:Int))
def bE(ds:List Nat):DV:= .sl (ds.map dU)
def dN(n:Nat):DV:= .sl ((dg n).map dU)
def dD(n:Nat):DV:= .sl (if n=1 then [] else(dg n).map dU)
def eI(m:Int):DV:= .ag [.v (.bool (decide (m<0))),dN m.natAbs]
def eQ(q:Rat):DV:= .ag [.v (.bool (decide (q.num<0))),dN q.num.natAbs,dD q.den]
def eP(p:aa):DV:= .ag [.v (.bool (decide (p.x.num<0))),dN p.x.num.natAbs,dD p.x.den, .v (.bool (decide (p.y.num<0))),dN p.y.num.natAbs,dD p.y.den]
def eL(l:ab):DV:= .ag [.v (.bool (decide (l.a<0))),dN l.a.natAbs, .v (.bool (decide (l.b<0))),dN l.b.natAbs, .v (.bool (decide (l.c<0))),dN l.c.natAbs]
def eR(q:Rat):DV:= .ag [.v (.bool (decide (q.num<0))),dN q.num.natAbs,dN q.den]
def gh(p:aa):DV:= .ag [.v (.bool (decide (p.x.num<0))),dN p.x.num.natAbs,dN p.x.den, .v (.bool (decide (p.y.num<0))),dN p.y.num.natAbs,dN p.y.den]
def vI(n:Int):DV:= .v (.int .i64 n)
def vB(b:Bool):DV:= .v (.bool b)
def DD(n:Nat):dN n=bE (dg n):=rfl
def VJ{ds:List Nat}(h:bt ds):bE (trimD ds)=dN (dv ds):=by unfold bE dN;rw[AP h]
def Yz{ds:List Nat}{i:Nat}(h:i<ds.length):(ds.map dU)[i]? =some (dU (ds.getD i 0)):=by
 rw[fY,aZ h,aK,aZ h];rfl
def d6{ds:List Nat}{i:Nat}(h:i<ds.length:=by omega):(ds.map dU)[(i:Int).toNat]? =some (dU (ds.getD i 0)):=by rw[eY];exact Yz h
def iC(ds:List Nat)(i d:Nat):(ds.map dU).set i (.v (.int .u32 (d:Int)))=(ds.set i d).map dU:=by rw[oX];rfl
def ma(n:Nat):List.replicate n (DV.v (.int .u32 0))=(List.replicate n 0).map dU:=by rw[List.map_replicate];rfl
def qp(ds:List Nat):du 1 (ds.map dU):=fun d hd=>by
 obtain⟨n,_,rfl⟩:=bX.1 hd;exact⟨rfl,rfl⟩
def dE(n:Nat)(i:Nat):(dg n).getD i 0<4294967296:=(ey n).2.1.get i
def qc:dg 0=[]:=by rw[dg,dif_pos J]
def yO:dg 1=[1]:=by rw[dg,dif_neg (by decide)];simp[qc]
def oI{n:Nat}:(dg n).length=0↔n=0:=by
 constructor
 .intro h
  have:=(ey n).1;rw[bL h] at this;exact this.symm
 .rintro rfl;rw[qc];rfl
def uc:dN 0= .sl []:=by unfold dN;rw[qc];rfl
def CN{G:Gh}: ∀{ds:List Nat} {es:List Value},IsLs G (ds.map dU) es↔es=ds.map dI
 |[],es=>ck
 |d::t,es=>by
  rw[bJ,bm];constructor
  .rintro ⟨y,n,rfl,h1,h2⟩
   rw[aP.1 h1,CN.1 h2];rfl
  .rintro rfl
   exact⟨_,_,J,aP.2 J,CN.2 J⟩
def DY{G:Gh}{ds:List Nat}{v:Value}:Is G (bE ds) v↔ ∃x:SV,v= .slice x.a x.n x.c/\eB G 1 x (ds.map dI):=by
 unfold bE;rw[ie];constructor
 .rintro ⟨s,x,es,rfl,h1,h2⟩
  have:=CN.1 h2;subst this;refine⟨x,J,?_⟩;rcases Bn (s:=1) h1 h2 (qp ds) with h|h
  .rw[h] at h1⊢
   exact⟨h1.len,h1.cap, .inl J⟩
  .subst h;exact h1
 .rintro ⟨x,rfl,h⟩
  exact⟨1,x,_,J,h,CN.2 J⟩
def MG{G:Gh}{n k:Nat}{v:Value}(hk:n<2^k):Is G (dN n) v↔ ∃x:SV,v= .slice x.a x.n x.c/\vT k G x n:=by
 rw[DD,DY];constructor
 .rintro ⟨x,rfl,h⟩
  exact⟨x,J,⟨(ey n).2.1,h⟩,hk⟩
 .rintro ⟨x,rfl,h⟩
  exact⟨x,J,h.d.sl⟩
def cF{ds:List Nat}{i:Int}{k:Nat}(hi:i=k:=by omega)(h:k<ds.length:=by omega):(ds.map dU)[i.toNat]? =some (dU (ds.getD k 0)):=by subst hi;exact d6 h
class BN (n:Nat) (k:outParam Nat):Prop where h:n<2^(6*k)
class BI (m:Int) (k:outParam Nat):Prop where h:m.natAbs<2^(6*k)
class BQ (q:Rat) (k:outParam Nat):Prop where
 hn:q.num.natAbs<2^(6*k)
 hd:q.den<2^(6*k)
def u7{n k:Nat}(h:n<2^k):n<2^(6*k):=bM h (bU (by decide) (by omega))
def uI{j k:Nat}(h:j<=k):2^(6*j)<=2^(6*k):=bU (by decide) (by omega)
def Ji{a m k:Nat}(h:a<2^m)(hk:m<=k):a<2^k:=bM h (bU (by decide) hk)
def Zh{m k:Nat}(h:m<=k):2^m<=2^k:=bU (by decide) h
def V4(n:Nat):4294967296^n=2^(32*n):=by rw[sQ]
theorem BN.up{n k:Nat}(h:n<2^k):BN n k:=⟨u7 h⟩
theorem BI.of{m:Int}{j k:Nat}(h:m.natAbs<2^j)(e:j=6*k):BI m k:=⟨e▸h⟩
theorem BN.mono{n k k':Nat}(h:BN n k)(hk:k<=k'):BN n k':=⟨bM h.h (uI hk)⟩
def Ce{a b i j:Nat}(h:a<2^i)(k:b<2^j):a*b<2^(i+j):=by rw[gM];exact rS h k
def Rm{a b i j:Nat}(h:a<2^i)(k:b<2^j):a+b<2^(i+j+1):=by
 have h1:2^i<=2^(i+j):=bU (by decide) (by omega);have h2:2^j<=2^(i+j):=bU (by decide) (by omega);rw[iL];omega
def l6{a b i j:Nat}(h:a<2^(6*i))(k:b<2^(6*j)):a*b<2^(6*(i+j)):=by rw[dK];exact Ce h k
def Fi{a b i j:Nat}(h:a<2^(6*i))(k:b<2^(6*j)):a+b<2^(6*(i+j+1)):=bM (Rm h k) (bU (by decide) (by omega))
def Cp(k:Nat):2^(6*(k+1))=64*2^(6*k):=by rw[dK,gM];omega
instance BN.mul (a b i j:Nat) [h:BN a i] [k:BN b j]:BN (a*b) (i+j):=⟨l6 h.h k.h⟩
instance BN.add (a b i j:Nat) [h:BN a i] [k:BN b j]:BN (a+b) (i+j+1):=⟨Fi h.h k.h⟩
instance BN.sub (a b i:Nat) [h:BN a i]:BN (a-b) i:=⟨by have:=h.h;omega⟩
instance BN.div (a b i:Nat) [h:BN a i]:BN (a/b) i:=⟨gW (lU _ _) h.h⟩
instance BN.abs (m:Int) (i:Nat) [h:BI m i]:BN m.natAbs i:=⟨h.h⟩
instance BN.den (q:Rat) (i:Nat) [h:BQ q i]:BN q.den i:=⟨h.hd⟩
def Ok{a b i j:Nat}(h:a<2^i)(k:b<2^j):Nat.gcd a b<2^(i+j):=by
 have h1:2^i<=2^(i+j):=bU (by decide) (by omega);have h2:2^j<=2^(i+j):=bU (by decide) (by omega);rcases fU a with h0|h0
 .subst h0;rw[Nat.gcd_zero_left];omega
 .have:=Nat.gcd_le_left b h0;omega
instance BN.gcd (a b i j:Nat) [h:BN a i] [k:BN b j]:BN (Nat.gcd a b) (i+j):=⟨by rw[dK];exact Ok h.h k.h⟩
instance BN.one:BN 1 1:=⟨by decide⟩
instance BN.zero:BN 0 0:=⟨by decide⟩
instance BI.mul (a b:Int) (i j:Nat) [h:BI a i] [k:BI b j]:BI (a*b) (i+j):=⟨by rw[fX];exact l6 h.h k.h⟩
instance BI.add (a b:Int) (i j:Nat) [h:BI a i] [k:BI b j]:BI (a+b) (i+j+1):=⟨gW (Int.natAbs_add_le a b) (Fi h.h k.h)⟩
instance BI.sub (a b:Int) (i j:Nat) [h:BI a i] [k:BI b j]:BI (a-b) (i+j+1):=⟨gW (Int.natAbs_sub_le a b) (Fi h.h k.h)⟩
instance BI.neg (a:Int) (i:Nat) [h:BI a i]:BI (-a) i:=⟨by rw[jN];exact h.h⟩
instance BI.num (q:Rat) (i:Nat) [h:BQ q i]:BI q.num i:=⟨h.hn⟩
instance BI.nat (n:Nat) (i:Nat) [h:BN n i]:BI (n:Int) i:=⟨by rw[dR];exact h.h⟩
def me(q:Rat):0<q.den:=eK q.den_nz
theorem wU{m:Int}{d i:Nat}(hd:0<d)(h:m.natAbs<2^(6*i))(k:d<2^(6*i)):BQ (mkRat m d) i:=by
 refine⟨?_,?_⟩
 .rw[Rat.num_mkRat,if_neg (by omega)]
  have:=mS m (d.gcd m.natAbs:Nat);omega
 .rw[Rat.den_mkRat,if_neg (by omega)]
  have:=lU d (d.gcd m.natAbs);omega
theorem BQ.mono{q:Rat}{k k':Nat}(h:BQ q k)(hk:k<=k':=by decide):BQ q k':=⟨bM h.hn (uI hk),bM h.hd (uI hk)⟩
def y4(p q:Rat):p*q=mkRat (p.num*q.num) (p.den*q.den):=by rw[Rat.mul_def,Rat.normalize_eq_mkRat]
def yt(p q:Rat):p+q=mkRat (p.num*q.den+q.num*p.den) (p.den*q.den):=by rw[Rat.add_def,Rat.normalize_eq_mkRat]
instance BQ.mul (p q:Rat) (i j:Nat) [h:BQ p i] [k:BQ q j]:BQ (p*q) (i+j):=by
 rw[y4];exact wU (iV (me p) (me q)) (BI.mul p.num q.num i j).h (l6 h.hd k.hd)
instance BQ.add (p q:Rat) (i j:Nat) [h:BQ p i] [k:BQ q j]:BQ (p+q) (i+j+1):=by
 rw[yt];refine wU (iV (me p) (me q)) ?_ ?_
 .have h1:=l6 h.hn k.hd
  have h2:=l6 k.hn h.hd;have h3:(p.num*q.den+q.num*p.den).natAbs<=(p.num*q.den).natAbs+(q.num*p.den).natAbs:=Int.natAbs_add_le ..;rw[fX,fX,dR,dR] at h3;rw[kK j i] at h2;rw[Cp];omega
 .have h1:=l6 h.hd k.hd
  rw[Cp];omega
instance BQ.neg (p:Rat) (i:Nat) [h:BQ p i]:BQ (-p) i:=⟨by rw[nL,jN];exact h.hn,by rw[sX];exact h.hd⟩
instance BQ.sub (p q:Rat) (i j:Nat) [h:BQ p i] [k:BQ q j]:BQ (p-q) (i+j+1):=by
 rw[Rat.sub_eq_add_neg];exact BQ.add p (-q) i j
instance BQ.ofInt (m:Int) (i:Nat) [h:BI m i]:BQ (m:Rat) (i+1):=by
 refine⟨?_,?_⟩
 .rw[oV];have:=h.h;rw[Cp];omega
 .rw[oW];have:0<2^(6*i):=gN (by decide);rw[Cp];omega
end Go.Sx
end
section
namespace Go.Sx
open Go Go.Proofs Tryz
variable {GB:Gh}
def AG(p q:Int):Nat:=(BitVec.ofInt 32 p &&& BitVec.ofInt 32 q).toNat
def Dp(p q:Int):Nat:=(BitVec.ofInt 32 p ||| BitVec.ofInt 32 q).toNat
def yR(p q:Int):Nat:=(BitVec.ofInt 32 p^^^BitVec.ofInt 32 q).toNat
def Kw{ds:List Nat}{n:Nat}(h:0<n/\n<=ds.length)(hz:ds.getD (n-1) 0=0):trimD (ds.take n)=trimD (ds.take (n-1)):=by
 obtain⟨m,rfl⟩: ∃m,n=m+1:=⟨n-1,by omega⟩;rw[jV (by omega),mJ];rw[mJ,aK,aZ (by omega)] at hz;simp only[jR] at hz;rw[hz,Td]
def Ng{ds:List Nat}{n:Nat}(h:n<=ds.length)(hz:0<n->ds.getD (n-1) 0≠0):trimD (ds.take n)=ds.take n:=by
 rcases fU n with h0|h0
 .subst h0;simp[trimD]
 .obtain⟨m,rfl⟩: ∃m,n=m+1:=⟨n-1,by omega⟩
  have hz:=hz h0;rw[jV (by omega)];rw[mJ,aK,aZ (by omega)] at hz;exact Jg (by simpa using hz)
def Ua{x y c:Nat}(hx:x<4294967296)(hy:y<4294967296)(hc:c<=1):PF GB prog 252 [.v (.int .u32 (x:Int)), .v (.int .u32 (y:Int)), .v (.int .u32 (c:Int))] (.tp [.v (.int .u32 (((x+y+c)%4294967296:Nat):Int)), .v (.int .u32 (((x+y+c)/4294967296:Nat):Int))]):=by
 refine fn (hv:=by simp only[aj];exact⟨⟨⟨⟨⟨by omega,by omega⟩,by omega⟩,by omega⟩,by omega⟩,(by decide)⟩) func252 J J ntmps252 J J (fun C=>?_);exact rz J (by
  have e1:((x:Int)+y+c)%4294967296=(((x+y+c)%4294967296:Nat):Int):=by omega
  have e2:((x:Int)+y+c).fdiv (2^min (32:Int).toNat IntKind.u64.bits)%4294967296=(((x+y+c)/4294967296:Nat):Int):=by
   rw[show(2:Int)^min (32:Int).toNat IntKind.u64.bits=((4294967296:Nat):Int) from J,jT _ (by decide)];omega
  show DV.tp [.v (.int _ _), .v (.int _ _)]=_;rw[e1,e2])
def Hm(n:Nat)(h:n<4294967296):(BitVec.ofInt 32 (n:Int)).msb=decide (2147483648<=n):=by
 rw[show BitVec.ofInt 32 (n:Int)=BitVec.ofNat 32 n from BitVec.ofInt_natCast ..];rw[BitVec.msb_eq_decide,BitVec.toNat_ofNat,jQ (by simpa using h)]
def ath(b:BitVec 32):b.toNat/2147483648=if b.msb then 1 else 0:=by
 have:=b.isLt;rw[BitVec.msb_eq_decide];simp only[decide_eq_true_eq,Nat.reduceSub,Nat.reducePow] at*;split<;>omega
def Vt(b:BitVec 32):BitVec.ofInt 32 (b.toNat:Int)=b:=by rw[BitVec.ofInt_natCast,BitVec.ofNat_toNat,BitVec.setWidth_eq]
def aqZ{x y c:Nat}(hx:x<4294967296)(hy:y<4294967296)(hc:c<=1):
  ((Dp (AG (yR IntKind.u32.max x:Nat) y:Nat) (AG (yR IntKind.u32.max (yR x y:Nat):Nat) (IntKind.u32.wrap (IntKind.u32.wrap ((x:Int)-y)-c)):Nat):Nat):Int).fdiv (2^min (31:Int).toNat IntKind.u32.bits)=(((if x<y+c then 1 else 0):Nat):Int):=by
 rw[show((2:Int)^min (31:Int).toNat IntKind.u32.bits)=((2147483648:Nat):Int) from J,jT _ (by decide),<-rR];congr 1;have hd: ∃d:Nat,d<4294967296/\IntKind.u32.wrap (IntKind.u32.wrap ((x:Int)-y)-c)=(d:Int)/\((x>=y+c/\d=x-(y+c))\/(x<y+c/\d=x+4294967296-(y+c))):=by
  rw[ry,ry];refine⟨((((x:Int)-y)%4294967296-c)%4294967296).toNat,by omega,by omega,by omega⟩
 obtain⟨d,hd1,hd2,hd3⟩:=hd;rw[hd2];unfold Dp AG yR;simp only[Vt];rw[ath];simp only[BitVec.msb_or,BitVec.msb_and,BitVec.msb_xor,Hm x hx,Hm y hy,Hm d hd1];have h1:(BitVec.ofInt 32 IntKind.u32.max).msb=true:=by decide
 rw[h1];rcases fW x 2147483648 with a|a<;>rcases fW y 2147483648 with b|b<;>rcases fW d 2147483648 with e|e<;>
  simp[Nat.not_le.2, *]<;>(first|omega|(split<;>omega))
def avJ{x y c:Nat}(hx:x<4294967296)(hy:y<4294967296)(hc:c<=1):IntKind.u32.wrap (IntKind.u32.wrap ((x:Int)-y)-c)=(((if x<y+c then x+4294967296-(y+c) else x-(y+c)):Nat):Int):=by
 rw[ry,ry];split<;>omega
def az6{x y c:Nat}(hx:x<4294967296)(hy:y<4294967296)(hc:c<=1):PF GB prog 253 [.v (.int .u32 (x:Int)), .v (.int .u32 (y:Int)), .v (.int .u32 (c:Int))] (.tp [.v (.int .u32 (((if x<y+c then x+4294967296-(y+c) else x-(y+c)):Nat):Int)), .v (.int .u32 (((if x<y+c then 1 else 0):Nat):Int))]):=by
 refine fn (fu:=⟨10⟩) func253 J J ntmps253 J J (fun C=>?_);refine sw (fu:=⟨1⟩) _ J (ry _).symm J<|sw (fu:=⟨6⟩) _ J (ry _).symm J<|nt (fu:=⟨4⟩) _ J J J<|xr (fu:=⟨0⟩) _ J J J<|nt _ J J J<|rz J (by have h1:=aqZ hx hy hc;unfold Dp AG yR at h1;show DV.tp [.v (.int _ _), .v (.int _ _)]=_;rw[h1,avJ hx hy hc])
def qi{ds:List Nat}(hl:ds.length<=1125899906842624:=by omega):PF GB prog 207 [bE ds] (bE (trimD ds)):=by
 refine fn func207 J J ntmps207 J J (fun C=>?_);refine lp (X:=Nat) (fun n=>[(0, .d (bE ds)),(3, .d (vI (n:Nat)))]) (fun n=>[]) (fun n=>n<=ds.length/\trimD ds=trimD (ds.take n)) (fun n=>n) ds.length J ⟨bQ _,by rw[cJ]⟩ (fun _=>J) (fun n hk=>?_);obtain⟨h1,h2⟩:=hk;refine cs 8 J J J (fun hg8=>?_) (fun hg8=>?_)
 .
  refine ix _ J (cF (k:=n-1)) J<|br J J J (fun hc15=>?_) (fun hc15=>?_)
  .
   have hz:ds.getD (n-1) 0=0:=by omega
   exact at_ (n-1) ⟨⟨by omega,by rw[h2,Kw (by omega) hz]⟩,(by omega)⟩
  .
   refine py 0 n _ J J J J (qp _) (by omega) (by simp;omega) J<|rz J (by have:=Ng h1 (fun _ h=>hc15 (by omega));rw[<-h2] at this;show DV.sl _=_;simp[bE,this])
 .
  refine py 0 n _ J J J J (qp _) (by omega) (by simp;omega) rfl<|rz rfl (by obtain rfl:n=0:=(by omega);show DV.sl _=_;simp[bE,h2,trimD])
def te{a k:Nat}(h:a<2^k)(hk:k<=6000000000:=by omega):(dg a).length<=200000000:=by have:=i6 h;omega
def cH(a:Nat):dv (dg a)=a:=(ey a).1
def fk(a:Nat):bt (dg a):=(ey a).2.1
def bP(ds:List Nat):(ds.map dU).length=ds.length:=aX ..
def jj{ds:List Nat}{n:Nat}(h:ds.length<=n:=by omega):ds.take n=ds:=cR h
def o8{ds:List Nat}{i:Nat}(h:ds.length<=i:=by omega):ds.getD i 0=0:=by
 rw[aK,fM h];rfl
def jG{ds:List Nat}{n:Nat}(h:bt ds)(e:dv ds=n):bE (trimD ds)=dN n:=by rw[VJ h,e]
def yX{a b:Nat}(h:a<b):gD a b= -1:=by unfold gD;rw[if_pos h]
def xt{a b:Nat}(h:b<a):gD a b=1:=by unfold gD;rw[if_neg (by omega),if_neg (by omega)]
def Ho{a b:Nat}(h:a=b):gD a b=0:=by unfold gD;rw[if_neg (by omega),if_pos h]
def asb(m n:Nat):Int.sign ((m:Int)-n)=gD m n:=by
 unfold gD;split
 .exact fT (by omega)
 .split
  .rw[show(m:Int)-n=0 by omega];rfl
  .exact gS (by omega)
def HA{a b:Nat}(h:(dg a).length≠(dg b).length:=by omega):gD (dg a).length (dg b).length=gD a b:=by
 rcases Nat.lt_or_gt_of_ne h with h|h
 .have:=wC (fk a) (ey b).2.2 h
  rw[cH,cH] at this;rw[yX h,yX this]
 .have:=wC (fk b) (ey a).2.2 h
  rw[cH,cH] at this;rw[xt h,xt this]
def vW{a b i:Nat}(hl:(dg a).length=(dg b).length)(hi:i<(dg a).length)(hs:(dg a).drop (i+1)=(dg b).drop (i+1)):
  ((dg a).getD i 0<(dg b).getD i 0->a<b)/\((dg b).getD i 0<(dg a).getD i 0->b<a)/\((dg a).getD i 0=(dg b).getD i 0->(dg a).drop i=(dg b).drop i):=by
 refine⟨fun h=>?_,fun h=>?_,fun h=>?_⟩
 .have:=Or (fk a) (fk b) i hi (by omega) hl hs h
  rwa [cH,cH] at this
 .have:=Or (fk b) (fk a) i (by omega) hi hl.symm hs.symm h
  rwa [cH,cH] at this
 .rw[cW hi,cW (by omega:i<(dg b).length),hs]
  rw[aK,aK,aZ hi,aZ (by omega:i<(dg b).length)] at h;simp only[jR] at h;rw[h]
def Xj{z:Int}:PF GB prog 148 [vI z] (vI z.sign):=by
 refine fn func148 J J ntmps148 J J (fun C=>?_);refine br J J J (fun hc4=>?_) (fun hc4=>?_)
 .
  exact rz J (by show DV.v (.int _ 1)=DV.v (.int _ _);rw[gS (by omega)])
 .
  refine br J J J (fun hc6=>?_) (fun hc6=>?_)
  .
   exact rz J (by show DV.v (.int _ (-1))=DV.v (.int _ _);rw[fT (by omega)])
  .
   exact rz J (by show DV.v (.int _ 0)=DV.v (.int _ _);rw[show z=0 by omega];rfl)
def ON(u:Nat):dv [u%4294967296,u/4294967296]=u:=by simp only[dv];omega
def M0{u:Nat}(h:u<18446744073709551616):bt [u%4294967296,u/4294967296]:= .cons (by omega) (.cons (by omega) .nil)
def nF(u:Nat):(u:Int).fdiv (2^min (32:Int).toNat IntKind.u64.bits)=((u/4294967296:Nat):Int):=by
 rw[show(2:Int)^min (32:Int).toNat IntKind.u64.bits=((4294967296:Nat):Int) from J,jT _ (by decide)];rfl
def s8{u:Nat}(hu:u<18446744073709551616:=by omega):PF GB prog 146 [.v (.int .u64 (u:Int))] (dN u):=by
 refine fn (fu:=⟨11⟩) (hv:=by simp only[aj];exact(by decide)) func146 J J ntmps146 J J (fun C=>?_);refine ah 6 (.d (.v (.int .u64 (u/4294967296:Nat)))) J (by rw[nF])<|gx J<|rf (fu:=⟨0⟩) J J<|ah 8 (.d (bE [u%4294967296,u/4294967296])) J (by show FX.d (.sl [.v (.int _ _), .v (.int _ _)])= .d (.sl [.v (.int _ _), .v (.int _ _)]);congr 6;omega)<|gx J<|cl J (qi (ds:=[u%4294967296,u/4294967296]) (by simp)) J<|rz J (jG (M0 hu) (ON u))
def CT:PF GB prog 88 [] (dN 1):=by
 refine fn func88 J J ntmps88 J J (fun C=>?_);refine rf J J<|rz J (by unfold dN;rw[yO];rfl)
def xd{a b:Nat}(ha:(dg a).length<=200000000:=by omega)(hb:(dg b).length<=200000000:=by omega):PF GB prog 87 [dN a,dN b] (vI (gD a b)):=by
 have hla:=bP (dg a);have hlb:=bP (dg b);refine fn func87 J J ntmps87 J J (fun C=>?_);refine br J J J (fun hc10=>?_) (fun hc10=>?_)
 .
  refine cl J Xj J<|rz J (by show DV.v (.int _ _)=DV.v (.int _ _);rw[hla,hlb,asb,HA])
 .
  have hl:(dg a).length=(dg b).length:=by omega
  refine lp (X:=Nat) (fun k=>[(0, .d (dN a)),(1, .d (dN b)),(5, .d (vI ((k:Nat)-1)))]) (fun k=>[]) (fun k=>k<=(dg a).length/\(dg a).drop k=(dg b).drop k) (fun k=>k) (dg a).length J ⟨bQ _,by rw[lZ,hl,lZ]⟩ (fun _=>J) (fun k hk=>?_);obtain⟨h1,h2⟩:=hk;refine br J J J (fun hc21=>?_) (fun hc21=>?_)
  .
   obtain⟨k,rfl⟩: ∃m,k=m+1:=⟨k-1,by omega⟩;refine ix _ J (cF (k:=k)) J<|ix _ J (cF (k:=k)) J<|br J J J (fun hc32=>?_) (fun hc32=>?_)
   .
    exact rz J (by show DV.v (.int _ 1)=DV.v (.int _ _);rw[xt ((vW hl (by omega) h2).2.1 (by omega))])
   .
    refine ix _ J (cF (k:=k)) J<|ix _ J (cF (k:=k)) J<|br J J J (fun hc41=>?_) (fun hc41=>?_)
    .
     exact rz J (by show DV.v (.int _ (-1))=DV.v (.int _ _);rw[yX ((vW hl (by omega) h2).1 (by omega))])
    .
     exact at_ k ⟨⟨by omega,(vW (i:=k) hl (by omega) h2).2.2 (by omega)⟩,(by omega)⟩
  .
   exact rz rfl (by show DV.v (.int _ 0)=DV.v (.int _ _);rw[Ho];obtain rfl:k=0:=(by omega);rw[gT,gT] at h2;rw[<-cH a,h2,cH])
def Mp{A B W:List Nat}{i c:Nat}(hi:i<W.length)(h:dv (W.take i)+4294967296^i*c=dv (A.take i)+dv (B.take i)):
  dv ((W.set i ((A.getD i 0+B.getD i 0+c)%4294967296)).take (i+1))+4294967296^(i+1)*((A.getD i 0+B.getD i 0+c)/4294967296)=dv (A.take (i+1))+dv (B.take (i+1)):=by
 rw[uD hi,ml A,ml B,iL,show A.getD i 0+B.getD i 0+c=c+A.getD i 0+B.getD i 0 by omega];exact Tx h
def I3{a b n:Nat}{W:List Nat}{c:Nat}(hn:n=max (dg a).length (dg b).length)(hl:W.length=n+1)(h:dv (W.take n)+4294967296^n*c=dv ((dg a).take n)+dv ((dg b).take n)):dv (W.set n c)=a+b:=by
 have e:=uD (ws:=W) (k:=n) (d:=c);rw[jj (by rw[aR];omega)] at e;rw[e,h,jj,jj,cH,cH]
def W3{a b ia ib:Nat}[ha:BN a ia][hb:BN b ib](hi:ia<=1000000000:=by decide)(hj:ib<=1000000000:=by decide):PF GB prog 228 [dN a,dN b] (dN (a+b)):=by
 have hla:=bP (dg a);have hlb:=bP (dg b);have hba:=te ha.h;have hbb:=te hb.h;refine fn (fu:=⟨12⟩) func228 J J ntmps228 J J (fun C=>?_);obtain⟨n,hn⟩: ∃n,n=max (dg a).length (dg b).length:=⟨_,rfl⟩;refine ah 15 (.d (vI (n:Nat))) J (by show FX.d (.v (.int _ _))= .d (.v (.int _ _));congr 3;split<;>omega)<|gx J<|mk ((List.replicate (n+1) 0).map dU) J J (by rw[<-ma];rfl) J<|lp (X:=List Nat×Nat×Nat) (fun⟨W,c,i⟩=>[(0, .d (dN a)),(1, .d (dN b)),(5, .d (vI (n:Nat))),(6, .rw 18),(7, .d (.v (.int .u32 (c:Nat)))),(8, .d (vI (i:Nat)))]) (fun⟨W,c,i⟩=>[(18,some (.b 261 1 (W.map dU) true))]) (fun⟨W,c,i⟩=>W.length=n+1/\bt W/\c<=1/\i<=n/\dv (W.take i)+4294967296^i*c=dv ((dg a).take i)+dv ((dg b).take i)) (fun⟨W,c,i⟩=>n-i) ⟨List.replicate (n+1) 0,0,0⟩ J ⟨by simp, .replicate _,by omega,by omega,by simp[dv]⟩ (fun _=>J) (fun⟨W,c,i⟩ hk=>?_);dsimp only at hk⊢;obtain⟨h1,h2,h3,h4,h5⟩:=hk;have hlw:=bP W;have hda:=dE a i;have hdb:=dE b i;refine br (fu1:=⟨11⟩) J J J (fun hc21=>?_) (fun hc21=>?_)
 .
  refine mg (fu:=⟨1⟩) (X:=Unit) (fun _=>[(0, .d (dN a)),(1, .d (dN b)),(5, .d (vI (n:Nat))),(6, .rw 18),(7, .d (.v (.int .u32 (c:Nat)))),(8, .d (vI (i:Nat))),(9, .d (dU ((dg a).getD i 0))),(10, .d (.v (.int .u32 0)))]) (fun _=>[(18,some (.b 261 1 (W.map dU) true))]) (fun _=>True) [0,1,5,6,7,8,9,10] [18] rfl ?_ (fun _=>J) (fun _ hm=>?_)
  .
   refine gx J<|br J J J (fun hc27=>?_) (fun hc27=>?_)
   .
    refine ix _ J (d6) J<|at_ () trivial
   .
    refine ah 9 (.d (dU ((dg a).getD i 0))) J (by rw[o8];rfl)<|at_ () trivial
  .
   refine mg (X:=Unit) (fun _=>[(0, .d (dN a)),(1, .d (dN b)),(5, .d (vI (n:Nat))),(6, .rw 18),(7, .d (.v (.int .u32 (c:Nat)))),(8, .d (vI (i:Nat))),(9, .d (dU ((dg a).getD i 0))),(10, .d (dU ((dg b).getD i 0)))]) (fun _=>[(18,some (.b 261 1 (W.map dU) true))]) (fun _=>True) [0,1,5,6,7,8,9,10] [18] rfl ?_ (fun _=>J) (fun _ hm=>?_)
   .
    refine gx J<|br J J J (fun hc35=>?_) (fun hc35=>?_)
    .
     refine ix _ J (d6) J<|at_ () trivial
    .
     refine ah 10 (.d (dU ((dg b).getD i 0))) J (by rw[o8];rfl)<|at_ () trivial
   .
    refine cl J (Ua (by omega) (by omega) (by omega)) J<|sb _ ((W.set i (((dg a).getD i 0+(dg b).getD i 0+c)%4294967296)).map dU) J (d6) J (by rw[<-iC];rfl) J<|at_ ⟨W.set i (((dg a).getD i 0+(dg b).getD i 0+c)%4294967296),((dg a).getD i 0+(dg b).getD i 0+c)/4294967296,i+1⟩ (by dsimp only;exact⟨⟨by simpa using h1,h2.set _ (by omega),by omega,by omega,Mp (by omega) h5⟩,(by omega)⟩)
 .
  obtain rfl:i=n:=by omega
  refine sb _ ((W.set i c).map dU) J (d6) J (by rw[<-iC];rfl) J<|fz 18 J J<|cl J (qi (ds:=W.set i c) (by simp;omega)) J<|rz J (jG (h2.set _ (by omega)) (I3 hn h1 h5))
def LY{A B W:List Nat}{i c d c2:Nat}(hA:bt A)(hB:bt B)(hi:i<W.length)(hc:c<=1)(h:dv (W.take i)+dv (B.take i)=dv (A.take i)+4294967296^i*c)
  (hd:d=if A.getD i 0<B.getD i 0+c then A.getD i 0+4294967296-(B.getD i 0+c) else A.getD i 0-(B.getD i 0+c))(hc2:c2=if A.getD i 0<B.getD i 0+c then 1 else 0):
  dv ((W.set i d).take (i+1))+dv (B.take (i+1))=dv (A.take (i+1))+4294967296^(i+1)*c2:=by
 have h1:=hA.get i;have h2:=hB.get i;rw[uD hi,ml A,ml B,iL];split at hd
 .rename_i q
  rw[if_pos q] at hc2;subst hc2 hd;rw[kK (B.getD i 0) c];exact Ss h (by omega) (by omega)
 .rename_i q
  rw[if_neg q] at hc2;subst hc2 hd;rw[kK (B.getD i 0) c];exact aEF h (by omega)
def Lq{a b c:Nat}{W:List Nat}(hw:bt W)(hl:W.length=(dg a).length)(hb:b<=a)(h:dv (W.take (dg a).length)+dv ((dg b).take (dg a).length)=dv ((dg a).take (dg a).length)+4294967296^(dg a).length*c):dv W=a-b:=by
 have hlb:(dg b).length<=(dg a).length:=by
  rcases fW (dg a).length (dg b).length with q|q
  .have:=wC (fk a) (ey b).2.2 q
   rw[cH,cH] at this;omega
  .exact q
 rw[jj,jj hlb,jj (bQ _),cH,cH] at h;have h2:=ka hw;rw[hl] at h2;rcases fU c with q|q
 .subst q;omega
 .have:4294967296^(dg a).length*1<=4294967296^(dg a).length*c:=fR _ q
  omega
def IC{a b ia:Nat}[ha:BN a ia](hb:b<=a)(hi:ia<=1000000000:=by decide):PF GB prog 229 [dN a,dN b] (dN (a-b)):=by
 have hla:=bP (dg a);have hlb:=bP (dg b);have hba:=te ha.h;refine fn (fu:=⟨9⟩) func229 J J ntmps229 J J (fun C=>?_);refine ah 10 (.d (vI ((dg a).length:Nat))) J (by rw[hla];rfl)<|gx J<|mk (fu:=⟨13⟩) ((List.replicate (dg a).length 0).map dU) J J (by rw[<-ma];rfl) J<|ah 13 (.d (vI ((dg a).length:Nat))) J (by rw[hla];rfl)<|gx J<|lp (X:=List Nat×Nat×Nat) (fun⟨W,c,i⟩=>[(0, .d (dN a)),(1, .d (dN b)),(5, .rw 11),(6, .d (.v (.int .u32 (c:Nat)))),(13, .d (vI ((dg a).length:Nat))),(14, .d (vI (i:Nat)))]) (fun⟨W,c,i⟩=>[(11,some (.b 261 1 (W.map dU) true))]) (fun⟨W,c,i⟩=>W.length=(dg a).length/\bt W/\c<=1/\i<=(dg a).length/\dv (W.take i)+dv ((dg b).take i)=dv ((dg a).take i)+4294967296^i*c) (fun⟨W,c,i⟩=>(dg a).length-i) ⟨List.replicate (dg a).length 0,0,0⟩ J ⟨by simp, .replicate _,by omega,by omega,by simp[dv]⟩ (fun _=>J) (fun⟨W,c,i⟩ hk=>?_);dsimp only at hk⊢;obtain⟨h1,h2,h3,h4,h5⟩:=hk;have hlw:=bP W;have hda:=dE a i;have hdb:=dE b i;refine br (fu1:=⟨16⟩) J J J (fun hc15=>?_) (fun hc15=>?_)
 .
  refine mg (X:=Unit) (fun _=>[(0, .d (dN a)),(1, .d (dN b)),(5, .rw 11),(6, .d (.v (.int .u32 (c:Nat)))),(13, .d (vI ((dg a).length:Nat))),(14, .d (vI (i:Nat))),(7, .d (vI (i:Nat))),(8, .d (dU ((dg b).getD i 0)))]) (fun _=>[(11,some (.b 261 1 (W.map dU) true))]) (fun _=>True) [0,1,5,6,13,14,7,8] [11] rfl ?_ (fun _=>J) (fun _ hm=>?_)
  .
   refine gx J<|br J J J (fun hc20=>?_) (fun hc20=>?_)
   .
    refine ix _ J (d6) J<|at_ () trivial
   .
    refine ah 8 (.d (dU ((dg b).getD i 0))) J (by rw[o8];rfl)<|at_ () trivial
  .
   refine ix _ J (d6) J<|cl J (az6 (by omega) (by omega) (by omega)) J<|sb _ ((W.set i (if(dg a).getD i 0<(dg b).getD i 0+c then(dg a).getD i 0+4294967296-((dg b).getD i 0+c) else(dg a).getD i 0-((dg b).getD i 0+c))).map dU) J (d6) J (by rw[<-iC];rfl) J<|at_ ⟨W.set i (if(dg a).getD i 0<(dg b).getD i 0+c then(dg a).getD i 0+4294967296-((dg b).getD i 0+c) else(dg a).getD i 0-((dg b).getD i 0+c)),(if(dg a).getD i 0<(dg b).getD i 0+c then 1 else 0),i+1⟩ (by dsimp only;exact⟨⟨by simpa using h1,h2.set _ (by split<;>omega),by split<;>omega,by omega,LY (fk a) (fk b) (by omega) h3 h5 J J⟩,(by omega)⟩)
 .
  obtain rfl:i=(dg a).length:=by omega
  refine fz 11 J J<|cl J (qi (ds:=W)) J<|rz J (jG h2 (Lq h2 h1 hb h5))
end Go.Sx
end
