import Derived.Test.YtefoocgiaegobaaGreatDoorPi8
import Derived.Shelf.Small.Bits
import Derived.Shelf.Strconv.Itoa0
import Derived.Shelf.Strconv.Itoa1
import Derived.Shelf.LaysM
import Derived.Shelf.Strconv.Itoa2
import Derived.Shelf.Strconv.Itoa3
import Derived.Shelf.Bits.Mul64
import Derived.Test.YtefoocgiaegobaaGreatDoorProg
set_option linter.all false
set_option maxHeartbeats 1000000
set_option maxRecDepth 100000
section
namespace Go.Sx
open Go Go.Proofs Tryz
section
variable {GB:Gh} {C:aD} {n:Nat} {Q0:Exit->Act->World->Prop} {fr fr':aA} {own own':aG} {cf cf':Cf} {vc:List Prop} {lk:LK} {bk:BM} {dst:Option Nat} {ty:TypeId} {pos:String} {af:Array Edge} {gd:Option (Nat×Bool)}
def IT(t:TypeId):Prop:= ∀(x:Value) w,(Instr.makeInterface t x).run prog w= .ok (.iface t x) w
def Co(t:TypeId)(u:Value)(m:String)(f:FuncId):Prop:= ∀w,(method (prog.types.size+Made.depth) t u m).run prog w= .ok (f,u) w
def Vr{t:TypeId}{x:Operand}{d:DV}{u:Value}(ht:IT t)(hx:evD lk x=some d)(hd: ∀G y,Is G d y->y=u):bH prog GB C n lk bk ⟨dst, .makeInterface t x,ty,pos,af,gd⟩ (.d (.v (.iface t u))) [] []:=
 bH.yd fun ρ G ov a w r=>by
  obtain⟨y,hy,hy'⟩:=r.evD hx;obtain rfl:=hd G y hy';refine⟨_,(aF (G:=G)).2 J,fun a' w' hf _=>?_⟩;refine cP (f:=Next.value) ?_;rw[bi hf hy];exact ht _ _
def arI{x:Operand}{m:String}{args:Array Operand}{tys:Array TypeId}{t:TypeId}{u:Value}{f:FuncId}{vs:List Value}{fr:Fr}{a:Act}{w:World}(hf:lh fr a)(hx:aw fr x=some (.iface t u))(hv:fy fr args.toList=some vs)(hm:Co t u m f)(hc:o8 prog f):
  (execOp a.eval ⟨dst, .call ⟨.invoke x m,args,tys⟩,ty,pos,af,gd⟩).run prog w= .ok (.enter f ⟨u::vs⟩) w:=by
 have e:args.map a.eval=⟨vs⟩:=by apply Array.ext';simpa using AJ hf hv
 simp only[execOp,resolve,bi hf hx,e];show(invoke (.fn (.method m) #[]) (#[.iface t u]++⟨vs⟩)).run prog w=_;simp only[invoke];have h0:(#[Value.iface t u]++(⟨vs⟩:Array Value))[0]? =some (.iface t u):=by simp
 have h1:(#[Value.iface t u]++(⟨vs⟩:Array Value)).extract 1 (#[Value.iface t u]++(⟨vs⟩:Array Value)).size=⟨vs⟩:=by
  apply Array.ext';simp
 rw[h0,h1];show(callMethod (.iface t u) m ⟨vs⟩).run prog w=_;unfold callMethod;show((do
  let p<-program
  let(g,receiver)<-method (p.types.size+Made.depth) t u m
  callFunc g (#[receiver]++⟨vs⟩)):Sem Next).run prog w=_
 rw[ba (a:=prog) (w':=w) J,ba (hm w)];show(callFunc f (#[u]++⟨vs⟩)).run prog w=_;rw[zH hc];simp
def S3{x:Operand}{m:String}{args:Array Operand}{tys:Array TypeId}{t:TypeId}{u:Value}{f:FuncId}{ds:List DV}{rv:DV}(hx:aH lk x=some (.d (.v (.iface t u))))(ha:evDs lk args.toList=some ds)(hm:Co t u m f)(hF:PF GB prog f (.v u::ds) rv):
  bH prog GB C n lk bk ⟨dst, .call ⟨.invoke x m,args,tys⟩,ty,pos,af,gd⟩ (.d rv) [] []:=by
 intro hd tl tb K' s1 s2 hf hk;refine⟨fun ρ G ov a w r Q=>?_⟩;obtain⟨y,hy,hy'⟩:=(r.mono s1 s2).ev hx;rw[(aF (G:=G)).1 hy'] at hy;obtain⟨vs,h3,h4⟩:=(r.mono s1 s2).evDs ha;have hFn:=hF G (u::vs) r.gb (.cons (aF.2 J) h4);have h2:=arI (dst:=dst) (ty:=ty) (pos:=pos) (af:=af) (gd:=gd) (tys:=tys) (w:=w) (cC a) hy h3 hm hFn.able;simp only[Oper.wp,h2,Oper.upon];refine(hFn.run w r.h.sub).mono ?_;rintro e w' ⟨v,G',rfl,hh,hK⟩;have rl:fP C n (co a) ov G a w:=⟨r.h,r.sz,cC a,r.df⟩;have rl2:=(rl.heap (rl.h.called hh)).put v hd;exact hk.run ρ G' ov _ w' ⟨r.gb.trans hh.gle,rl2.h,rl2.sz,rl2.df,(i6 rl2).fx (fun k g _ e=>by obtain⟨z,h5,h6⟩:=r.fx k g e;exact⟨z,h5,h6.up hh.gle⟩) hK,
  fun nm B e=>by obtain⟨os,h5,h6⟩:=r.bx nm B e;exact⟨os,h5.up hh.gle,h6⟩,r.dj,r.fxd⟩
def Mr(fr:aA)(cf:Cf):Option (TypeId×DV):=match cd fr cf with
 |some ⟨_, .makeInterface t x,_,_,_,_⟩=>match evD (bD fr cf) x with
  |some d=>some (t,d)
  |none=>none
 |_=>none
def TM[fu:Fu]{t:TypeId}{d:DV}(u:Value)(ha:Mr fr cf=some (t,d))(ht:IT t)(hd: ∀G y,Is G d y->y=u)(hgo:cD tt n fu.n fr own cf (.d (.v (.iface t u))) [] []=⟨vc,fr',own',cf'⟩)(k:ak prog GB C n Q0 fr' own' cf')
  (hv:ah vc:=by first|exact trivial|(simp only[ah];kernel_rfl)|(simp only[ah];omega)):ak prog GB C n Q0 fr own cf:=by
 unfold Mr at ha;split at ha<;>try (cases ha;done)
 rename_i hh;split at ha<;>cases ha;rename_i hx;exact us hh (Vr ht hx hd) hgo hv k
def Jr(fr:aA)(cf:Cf):Option (String×TypeId×Value×List DV):=match cd fr cf with
 |some ⟨_, .call ⟨.invoke x m,args,_⟩,_,_,_,_⟩=>match aH (bD fr cf) x with
  |some (.d (.v (.iface t u)))=>match evDs (bD fr cf) args.toList with
   |some ds=>some (m,t,u,ds)
   |none=>none
  |_=>none
 |_=>none
def SP[fu:Fu]{m:String}{t:TypeId}{u:Value}{f:FuncId}{ds:List DV}{rv:DV}(ha:Jr fr cf=some (m,t,u,ds))(hm:Co t u m f)(hF:PF GB prog f (.v u::ds) rv)(hgo:cD tt n fu.n fr own cf (.d rv) [] []=⟨vc,fr',own',cf'⟩)(k:ak prog GB C n Q0 fr' own' cf')
  (hv:ah vc:=by first|exact trivial|(simp only[ah];kernel_rfl)|(simp only[ah];omega)):ak prog GB C n Q0 fr own cf:=by
 unfold Jr at ha;split at ha<;>try (cases ha;done)
 rename_i hh;split at ha<;>try (cases ha;done)
 rename_i hx;split at ha<;>cases ha;rename_i hds;exact us hh (S3 hx hds hm hF) hgo hv k
def PF.arg0{f:FuncId}{d e:DV}{ds:List DV}{rv:DV}(h:PF GB prog f (d::ds) rv)(he: ∀G y,Is G e y->Is G d y):PF GB prog f (e::ds) rv:=fun G vs hg hvs=>by
 obtain⟨y,m,rfl,h1,h2⟩:=aP.1 hvs;exact h G _ hg (.cons (he G y h1) h2)
end
section
variable {GB:Gh} {C:aD} {n:Nat} {Q0:Exit->Act->World->Prop} {fr fr':aA} {own own':aG} {cf cf':Cf} {vc:List Prop} {lk:LK} {bk:BM} {dst:Option Nat} {ty:TypeId} {pos:String} {af:Array Edge} {gd:Option (Nat×Bool)}
def zW(lk:LK):List Operand->Option (List Value)
 |[]=>some []
 |x::xs=>match aH lk x with
  |some (.d (.v pv))=>match zW lk xs with
   |some l=>some (pv::l)
   |none=>none
  |_=>none
def HB{ρ:NE}{G:Gh}{ov:List ao}{a:Act}{w:World}(r:bF GB C n lk bk ρ G ov a w): ∀{xs:List Operand} {l:List Value},zW lk xs=some l->xs.mapM (aw (co a))=some l
 |[],l,h=>by cases h;rfl
 |x::xs,l,h=>by
  simp only[zW] at h;split at h<;>try (cases h;done)
  rename_i h1;split at h<;>cases h;rename_i h2;obtain⟨y,h3,h4⟩:=r.ev h1;rw[(aF (G:=G)).1 h4] at h3;rw[oJ,h3,HB r h2];rfl
def Qu(fr:aA)(cf:Cf):Option (FuncId×List Value×List Value):=match cd fr cf with
 |some ⟨_, .makeFunc (.func f) ⟨xs⟩ ⟨ys⟩,_,_,_,_⟩=>match zW (bD fr cf) xs,zW (bD fr cf) ys with
  |some a,some b=>some (f,a,b)
  |_,_=>none
 |_=>none
def QN[fu:Fu]{f:FuncId}{c1 c2:List Value}(h:Qu fr cf=some (f,c1,c2))(hgo:cD tt n fu.n fr own cf (.d (.v (.func (.func f) ⟨c1⟩ ⟨c2⟩))) [] []=⟨vc,fr',own',cf'⟩)(k:ak prog GB C n Q0 fr' own' cf')
  (hv:ah vc:=by first|exact trivial|(simp only[ah];kernel_rfl)|(simp only[ah];omega)):ak prog GB C n Q0 fr own cf:=by
 unfold Qu at h;split at h<;>try (cases h;done)
 rename_i hh;split at h<;>cases h;rename_i h1 h2;exact us hh (bH.yd (f:= .d (.v (.func (.func f) ⟨c1⟩ ⟨c2⟩))) fun ρ G ov a w r=>⟨_,(aF (G:=G)).2 J,yB (HB r h1) (HB r h2)⟩) hgo hv k
def OU(fr:aA)(cf:Cf):Option (FuncId×DV):=match cd fr cf with
 |some ⟨_, .makeFunc (.func f) ⟨[x]⟩ ⟨[]⟩,_,_,_,_⟩=>match evD (bD fr cf) x with
  |some d=>some (f,d)
  |_=>none
 |_=>none
def BH[fu:Fu]{f:FuncId}{d:DV}(pv:Value)(h:OU fr cf=some (f,d))(hd: ∀G y,Is G d y->y=pv)(hgo:cD tt n fu.n fr own cf (.d (.v (.func (.func f) ⟨[pv]⟩ ⟨[]⟩))) [] []=⟨vc,fr',own',cf'⟩)(k:ak prog GB C n Q0 fr' own' cf')
  (hv:ah vc:=by first|exact trivial|(simp only[ah];kernel_rfl)|(simp only[ah];omega)):ak prog GB C n Q0 fr own cf:=by
 unfold OU at h;split at h<;>try (cases h;done)
 rename_i hh;split at h<;>cases h;rename_i hx;exact us hh (bH.yd (f:= .d (.v (.func (.func f) ⟨[pv]⟩ ⟨[]⟩))) fun ρ G ov a w r=>by
  obtain⟨y,hy,hy'⟩:=r.evD hx;obtain rfl:=hd G y hy';exact⟨_,(aF (G:=G)).2 J,yB (l1:=[y]) (l2:=[]) (by simp[hy]) J⟩) hgo hv k
def WU{fo:Operand}{args:Array Operand}{tys:Array TypeId}{f:FuncId}{c1 c2:List Value}{ds1 ds ds2:List DV}{rv:DV}(h1:aH lk fo=some (.d (.v (.func (.func f) ⟨c1⟩ ⟨c2⟩))))(h2:evDs lk args.toList=some ds)(hc:IsLs GB ds1 c1)(hc2:IsLs GB ds2 c2)(hF:PF GB prog f (ds1++ds++ds2) rv):
  bH prog GB C n lk bk ⟨dst, .call ⟨.value fo,args,tys⟩,ty,pos,af,gd⟩ (.d rv) [] []:=by
 intro hd tl tb K' s1 s2 hf hk;refine⟨fun ρ G ov a w r Q=>?_⟩;obtain⟨y,hy,hy'⟩:=(r.mono s1 s2).ev h1;rw[(aF (G:=G)).1 hy'] at hy;obtain⟨vs,h3,h4⟩:=(r.mono s1 s2).evDs h2;refine Ps (c1:=c1) (c2:=c2) hy h3 (hF G (c1++vs++c2) r.gb (((hc.up r.gb).app h4).app (hc2.up r.gb))) hd (fun v G' hG hK a' w' rl=>?_) a w Q ⟨r.h,r.sz,cC a,r.df⟩;exact hk.run ρ G' ov a' w' ⟨r.gb.trans hG.le,rl.h,rl.sz,rl.df,(i6 rl).fx (fun k g _ e=>by obtain⟨u,h5,h6⟩:=r.fx k g e;exact⟨u,h5,h6.up hG.le⟩) hK,
  fun nm B e=>by obtain⟨os,h5,h6⟩:=r.bx nm B e;exact⟨os,h5.up hG.le,h6⟩,r.dj,r.fxd⟩
def MF(fr:aA)(cf:Cf):Option (FuncId×List Value×List Value×List DV):=match cd fr cf with
 |some ⟨_, .call ⟨.value fo,args,_⟩,_,_,_,_⟩=>match aH (bD fr cf) fo,evDs (bD fr cf) args.toList with
  |some (.d (.v (.func (.func f) ⟨c1⟩ ⟨c2⟩))),some ds=>some (f,c1,c2,ds)
  |_,_=>none
 |_=>none
def Ad[fu:Fu]{f:FuncId}{c1 c2:List Value}{ds ds1 ds2:List DV}{rv:DV}(ha:MF fr cf=some (f,c1,c2,ds))(hc:IsLs GB ds1 c1)(hc2:IsLs GB ds2 c2)(hF:PF GB prog f (ds1++ds++ds2) rv)(hgo:cD tt n fu.n fr own cf (.d rv) [] []=⟨vc,fr',own',cf'⟩)(k:ak prog GB C n Q0 fr' own' cf')
  (hv:ah vc:=by first|exact trivial|(simp only[ah];kernel_rfl)|(simp only[ah];omega)):ak prog GB C n Q0 fr own cf:=by
 unfold MF at ha;split at ha<;>try (cases ha;done)
 rename_i hh;split at ha<;>cases ha;rename_i h1 h2;exact us hh (WU h1 h2 hc hc2 hF) hgo hv k
end
section
variable {GB:Gh} {C:aD} {n:Nat} {Q0:Exit->Act->World->Prop} {fr fr':aA} {own own':aG} {cf cf':Cf} {vc:List Prop}
def P0(fr:aA)(cf:Cf):Option (Int×Int):=match cd fr cf with
 |some ⟨_, .binOp .xor _ x y _,_,_,_,_⟩=>match aH (bD fr cf) x,aH (bD fr cf) y with
  |some (.d (.v (.int .u32 p))),some (.d (.v (.int .u32 q)))=>some (p,q)
  |_,_=>none
 |_=>none
def xr[fu:Fu]{p q:Int}(u:Int)(h:P0 fr cf=some (p,q))(e:(((BitVec.ofInt 32 p^^^BitVec.ofInt 32 q).toNat:Nat):Int)=u)(hgo:cD tt n fu.n fr own cf (.d (.v (.int .u32 u))) [] []=⟨vc,fr',own',cf'⟩)(k:ak prog GB C n Q0 fr' own' cf')
  (hv:ah vc:=by first|exact trivial|(simp only[ah];kernel_rfl)|(simp only[ah];omega)):ak prog GB C n Q0 fr own cf:=by
 unfold P0 at h;split at h<;>try (cases h;done)
 rename_i hh;split at h<;>cases h;rename_i h1 h2;subst e;exact us hh (.yd fun ρ G ov a w r=>by
  obtain⟨y1,h3,h4⟩:=r.ev h1;obtain⟨y2,h5,h6⟩:=r.ev h2;rw[dm] at h4 h6;subst h4 h6;exact⟨_,dm.2 J,iC h3 h5 fun w=>by
   show(pure (Value.int .u32 (IntKind.u32.wrap ((BitVec.ofInt 32 p^^^BitVec.ofInt 32 q).toNat:Int))):Sem Value).run prog w=_;rw[A5];rfl⟩) hgo hv k
def Km(fr:aA)(cf:Cf):Option (Int×Int):=match cd fr cf with
 |some ⟨_, .binOp .sub _ x y _,_,_,_,_⟩=>match aH (bD fr cf) x,aH (bD fr cf) y with
  |some (.d (.v (.int .u32 p))),some (.d (.v (.int .u32 q)))=>some (p,q)
  |_,_=>none
 |_=>none
def sw[fu:Fu]{p q:Int}(u:Int)(h:Km fr cf=some (p,q))(e:(p-q)%4294967296=u)(hgo:cD tt n fu.n fr own cf (.d (.v (.int .u32 u))) [] []=⟨vc,fr',own',cf'⟩)(k:ak prog GB C n Q0 fr' own' cf')
  (hv:ah vc:=by first|exact trivial|(simp only[ah];kernel_rfl)|(simp only[ah];omega)):ak prog GB C n Q0 fr own cf:=by
 unfold Km at h;split at h<;>try (cases h;done)
 rename_i hh;split at h<;>cases h;rename_i h1 h2;subst e;exact us hh (.yd fun ρ G ov a w r=>by
  obtain⟨y1,h3,h4⟩:=r.ev h1;obtain⟨y2,h5,h6⟩:=r.ev h2;rw[dm] at h4 h6;subst h4 h6;exact⟨_,dm.2 J,by rw[<-qh];exact vm h3 h5⟩) hgo hv k
def PO(fr:aA)(cf:Cf):Option Int:=match cd fr cf with
 |some ⟨_, .unOp .xor _ x,_,_,_,_⟩=>match aH (bD fr cf) x with
  |some (.d (.v (.int .u32 p)))=>some p
  |_=>none
 |_=>none
def nt[fu:Fu]{p:Int}(u:Int)(h:PO fr cf=some p)(e:(((BitVec.ofInt 32 IntKind.u32.max^^^BitVec.ofInt 32 p).toNat:Nat):Int)=u)(hgo:cD tt n fu.n fr own cf (.d (.v (.int .u32 u))) [] []=⟨vc,fr',own',cf'⟩)(k:ak prog GB C n Q0 fr' own' cf')
  (hv:ah vc:=by first|exact trivial|(simp only[ah];kernel_rfl)|(simp only[ah];omega)):ak prog GB C n Q0 fr own cf:=by
 unfold PO at h;split at h<;>try (cases h;done)
 rename_i hh;split at h<;>cases h;rename_i hx;subst e;refine us hh (.x1 hx fun ρ G ov a w y _ r h1 h2=>?_) hgo hv k;rw[dm] at h2;subst h2;refine⟨_,dm.2 J,fun a w hf hh=>?_⟩;simp only[execOp,bi hf h1];refine cP (w':=w) ?_;show(pure (Value.int .u32 (IntKind.u32.wrap ((BitVec.ofInt 32 IntKind.u32.max^^^BitVec.ofInt 32 p).toNat:Int))):Sem Value).run prog w=_;rw[A5];rfl
end

def arN{ds:List Nat}{k:Nat}(hk:k<ds.length)(h:trimD ds=trimD (ds.take (k+1)))(h0:ds.getD k 0=0):trimD ds=trimD (ds.take k):=by
 rw[h,fJ hk];have:ds[k]=0:=by rw[aK,aX hk] at h0;simpa using h0
 rw[this,Ox]
def SM{ds:List Nat}{k:Nat}(hk:k<ds.length)(h:trimD ds=trimD (ds.take (k+1)))(h0:ds.getD k 0≠0):trimD ds=ds.take (k+1):=by
 rw[h,fJ hk];have:ds[k]≠0:=by rw[aK,aX hk] at h0;simpa using h0
 exact Fd this
def jk{A G:Gh}{x:SV}{ds:List Nat}(hx:cx A x ds)[GL A G](hb:ds.length<=1125899906842624):Fn prog 361 [x.v] G (fun v _=>v= .slice x.a (trimD ds).length x.c):=by
 have hlen:=hx.len;have hcap:=hx.sl.cap;refine Fn.intro func361 J J ntmps361 J ?_;intro C _ _;refine sR<|sa J J<|zE<|bu<|d6<|?_;refine l6 (X:=Nat) (fun k=>[(0, .slice x.a k x.c)]) (fun _=>[]) (fun k _=>k<=ds.length/\trimD ds=trimD (ds.take k)) (fun k=>k) ds.length ⟨aN _,by simp⟩ (hlen▸ .cons J .nil) J ?_;rintro k Gx _ ⟨hk,ht⟩;refine bu<|sR<|sm J J<|c7 J J<|sy (sE J J) J<|sm J J<|?_;refine nP 6 J (fun hg=>?_) (fun hg=>?_)
 ·have hk1:k-1<ds.length:=by omega
  have hkt:((k:Int)-1).toNat=k-1:=by omega
  have hk2:k=k-1+1:=by omega
  refine bO J J (fI J) J<|bO J J (fI J) J<|bO J J (nG J) J<|bO J J (jP J J) J<|?_;refine bO J J (iB (z:=⟨x.a,k,x.c⟩) (hx.take k hk) J J (by omega) (by show _<(k:Int);omega)) J<|bO J J (iv hx J (by omega)) J<|bO J J (iD J J) J<|sy (rF J J) J<|zE<|?_;rw[hkt];refine lO J (fun hc=>?_) (fun hc=>?_) -- slot 14
  ·refine jm<|eG<|eG<|jx<|sR<|sm J J<|sa J J<|zE<|di<|?_
   have hs:=SM hk1 (hk2▸ht) (fun e=>hc (by rw[e];rfl));refine zD (.tmp J .nil) ?_;rw[hs,<-hk2];simp[gH,hk]
  refine zK<|d6<|d4<|sm J J<|sm J J<|c7 J J<|sy (jP J J) J<|sy (x4 J J (by omega) (by omega)) J<|?_;refine sa J J<|zE<|?_;exact jt (k-1) ⟨by omega,arN hk1 (hk2▸ht) (by omega)⟩ (by omega) (.cons (by rw[<-hkt];rfl) .nil) J
 refine ss J J J J<|ss J J J J<|ss J J J J<|ss J J J J<|ss J J J J<|ss J J J J<|?_;refine ss J J J J<|sy (lG J J) J<|zE<|vi J<|jm<|eG<|eG<|jx<|sR<|sm J J<|sa J J<|zE<|di<|?_;have hk0:k=0:=by omega
 subst hk0;refine zD (.tmp J .nil) ?_;rw[ht];rfl
def YR{A G:Gh}{x:SV}{ds:List Nat}(hx:cx A x ds)[GL A G](hb:ds.length<=1125899906842624):Fn prog 348 [x.v] G (fun v _=>v= .bool (decide (eh ds))):=by
 have hlen:=hx.len;refine Fn.intro func348 J J ntmps348 J ?_;intro C _ _;refine sR<|sa J J<|zE<|sR<|sm J J<|c7 J J<|sy (iD J J) J<|sm J J<|?_;refine nP 6 J (fun hg=>?_) (fun hg=>?_)
 ·refine ss J J J J<|ss J J J J<|ss J J J J<|ss J J J J<|ss J J J J<|ss J J J J<|ss J J J J<|sy (rF J J) J<|sa J J<|?_
  refine zE<|di<|?_;refine zD (.tmp J .nil) ?_;have:ds=[]:=bL (by omega);subst this;simp[gH,eh]
 have hne:0<ds.length:=by omega
 have hkt:((x.n:Int)-1).toNat=ds.length-1:=by omega
 refine bO J J (fI J) J<|bO J J (fI J) J<|bO J J (nG J) J<|bO J J (jP J J) J<|bO J J (iB hx J J (by omega) (by omega)) J<|?_;refine bO J J (iv hx J (by omega)) J<|bO J J (uB J J) J<|sy (lG J J) J<|sa J J<|zE<|di<|?_;refine zD (.tmp J .nil) ?_;rw[hkt];simp only[gH,Value.bool.injEq,decide_eq_decide,eh,List.getLast?_eq_getElem?,aK,aX (show ds.length-1<ds.length by omega),jS,ne_eq,Option.some.injEq];exact not_congr (by omega)
def aBm(ds:List Nat): ∀v∈ds.map dI,flat v=true:=fun v hv=>by
 obtain⟨d,_,rfl⟩:=bJ.1 hv;rfl
def RI{A G:Gh}{x:SV}{ds:List Nat}(hx:cx A x ds)[GL A G](hb:ds.length<=1125899906842):Fn prog 365 [x.v] G (fun v G'=> ∃z:SV,v=z.v/\cx G' z ds):=by
 have hlen:=hx.len;refine Fn.intro func365 J J ntmps365 J ?_;intro C _ _;refine sR<|sa J J<|zE<|bu<|sR<|sm J J<|sy (Kk J J) J<|zE<|?_;refine axc J (fun hc=>?_) (fun hc=>?_)
 ·refine sR<|sa J J<|zE<|di<|?_
  refine zD (.tmp J .nil) ⟨⟨none,0,0⟩,J,?_⟩;rcases hx.sl.mem with h|⟨b,off,cs,ha,_⟩
  ·have:ds=[]:=by simpa using h
   subst this;exact .nil _
  ·rw[ha] at hc;cases hc
 refine zK<|sR<|?_;refine sc (Qj J ?_);intro b1;refine sm J J<|?_;refine sc (RP (xs:=[]) (rest:=[]) (ys:=ds.map dI) J J (.hd ..) J J (aN _) (Na hx) (by simp[hlen]) (aBm ds) (by decide) (by omega) J J ?_);intro b cap rest h1 h2;refine sa J J<|zE<|pO b (.hd ..) (fun G' _ hgb=>?_);refine di<|?_;refine zD (.tmp J .nil) ⟨⟨some ⟨b,0,none⟩,x.n,cap⟩,by simp[gH,SV.v],?_⟩;exact .of_block hx.ok hgb.h hlen (by omega) (by simp)
def Gq{A G:Gh}{x:SV}{ds:List Nat}{k:Nat}(hx:cx A x ds)[GL A G](hk:dv ds<2^k)(hb:ds.length<=1125899906842):Fn prog 308 [x.v] G (fun v G'=> ∃z:SV,v=z.v/\fG k G' z (dv ds)):=by
 have htl:=ni ds;refine Fn.intro func308 J J ntmps308 J ?_;intro C _ _;refine sR<|sa J J<|zE<|sR<|sm J J<|?_;refine sc (zC J J (jk hx (by omega)) J ?_);rintro _ G1 _ rfl;refine sc (zC J J (RI hx.trim (by omega)) J ?_);rintro _ G2 _ ⟨z,rfl,hz⟩;refine sa J J<|zE<|di<|?_;refine zD (.tmp J .nil) ⟨z,J,?_⟩;exact⟨by rw[pI hx.ok];exact hz,hk⟩
end Go.Sx
end
section
namespace Go.Proofs
open Go.Shelf
def Tryz.lays128_ren:Go.Shelf.Ren:=⟨fun|128=>332|n=>n,fun|51=>366|3=>3|4=>4|46=>355|5=>5|9=>9|n=>n,fun|n=>n⟩
def Tryz.lays125_ren:Go.Shelf.Ren:=⟨fun|125=>231|128=>332|129=>333|n=>n,fun|46=>355|3=>3|51=>366|53=>251|4=>4|5=>5|9=>9|n=>n,fun|n=>n⟩
def Tryz.lays133_ren:Go.Shelf.Ren:=⟨fun|133=>366|128=>332|n=>n,fun|51=>366|3=>3|4=>4|46=>355|5=>5|9=>9|n=>n,fun|n=>n⟩
def Tryz.lays133:Go.Proofs.Lays.n133 Tryz.prog Tryz.lays133_ren:={
 mixed:=by kernel_rfl
 f128:=Tryz.func332.trans (congrArg some (by kernel_rfl))
 f133:=Tryz.func366.trans (congrArg some (by kernel_rfl))
 t3:=Tryz.underlying3
 a3:=Tryz.isAgg3
 z3:=Tryz.sizeOf3
 v3:=Tryz.zeroValue3
 t4:=Tryz.underlying4
 a4:=Tryz.isAgg4
 z4:=Tryz.sizeOf4
 v4:=Tryz.zeroValue4
 t5:=Tryz.underlying5
 a5:=Tryz.isAgg5
 z5:=Tryz.sizeOf5
 v5:=Tryz.zeroValue5
 t9:=Tryz.underlying9
 a9:=Tryz.isAgg9
 z9:=Tryz.sizeOf9
 v9:=Tryz.zeroValue9
 t46:=Tryz.underlying355
 a46:=Tryz.isAgg355
 z46:=Tryz.sizeOf355
 v46:=Tryz.zeroValue355
 t51:=Tryz.underlying366
 a51:=Tryz.isAgg366
 z51:=Tryz.sizeOf366
 v51:=Tryz.zeroValue366}
def Tryz.bits_LeadingZeros32(x:Int)(w:World)(h0:0<=x)(h1:x<=4294967295):
  Calls Tryz.prog 366 #[.int .u32 x] w fun e w'=>e= .returned (.int .i64 (32-(Lib.bitLen x.toNat:Int)))/\w'=w:=Any.bits_LeadingZeros32 Tryz.lays133 x w h0 h1
def Tryz.lays129_ren:Go.Shelf.Ren:=⟨fun|129=>333|n=>n,fun|53=>251|3=>3|4=>4|46=>355|5=>5|9=>9|n=>n,fun|n=>n⟩
def Tryz.lays317_ren:Go.Shelf.Ren:=⟨fun|317=>401|n=>n,fun|3=>3|46=>355|n=>n,fun|n=>n⟩
open Go.Lib in
def Tryz.lays318_ren:Go.Shelf.Ren:=⟨fun|318=>402|n=>n,fun|3=>3|4=>4|n=>n,fun|n=>n⟩
open Go.Lib in
def Tryz.lays283_ren:Go.Shelf.Ren:=⟨fun|283=>383|n=>n,fun|3=>3|9=>9|4=>4|n=>n,fun|n=>n⟩
open Go.Lib in
def Tryz.laysM284_ren:Go.Shelf.Ren:=⟨fun|284=>384|129=>333|317=>401|318=>402|n=>n,fun|53=>251|3=>3|212=>491|0=>0|4=>4|46=>355|5=>5|9=>9|n=>n,fun|17=>7|n=>n⟩
open Go.Lib in
def Tryz.lays285_ren:Go.Shelf.Ren:=⟨fun|285=>385|n=>n,fun|37=>476|53=>251|3=>3|4=>4|51=>366|9=>9|5=>5|0=>0|n=>n,fun|n=>n⟩
open Go.RowKit Go.Sort Go.Lib in
def Tryz.laysM246_ren:Go.Shelf.Ren:=⟨fun|246=>357|283=>383|284=>384|285=>385|286=>386|129=>333|317=>401|318=>402|319=>403|320=>404|337=>408|338=>409|n=>n,fun|2=>2|3=>3|9=>9|4=>4|171=>474|0=>0|53=>251|37=>476|5=>5|173=>477|212=>491|51=>366|20=>20|213=>492|46=>355|232=>497|233=>498|n=>n,fun|17=>7|18=>8|19=>9|n=>n⟩
open Go.RowKit Go.Sort Go.Lib in
def Tryz.lays246_ren:Go.Shelf.Ren:=⟨fun|246=>357|283=>383|284=>384|285=>385|286=>386|129=>333|317=>401|318=>402|319=>403|320=>404|337=>408|338=>409|n=>n,fun|2=>2|3=>3|9=>9|4=>4|171=>474|0=>0|53=>251|37=>476|5=>5|173=>477|212=>491|51=>366|20=>20|213=>492|46=>355|232=>497|233=>498|n=>n,fun|17=>7|18=>8|19=>9|n=>n⟩
open Go.RowKit Go.Sort Go.Lib in
def Tryz.laysM243_ren:Go.Shelf.Ren:=⟨fun|243=>285|246=>357|283=>383|284=>384|285=>385|286=>386|129=>333|317=>401|318=>402|319=>403|320=>404|337=>408|338=>409|n=>n,fun|3=>3|9=>9|2=>2|4=>4|171=>474|0=>0|53=>251|37=>476|5=>5|173=>477|212=>491|51=>366|20=>20|213=>492|46=>355|232=>497|233=>498|n=>n,fun|17=>7|18=>8|19=>9|n=>n⟩
open Go.RowKit Go.Sort Go.Lib in
def Tryz.lays243_ren:Go.Shelf.Ren:=⟨fun|243=>285|246=>357|283=>383|284=>384|285=>385|286=>386|129=>333|317=>401|318=>402|319=>403|320=>404|337=>408|338=>409|n=>n,fun|3=>3|9=>9|2=>2|4=>4|171=>474|0=>0|53=>251|37=>476|5=>5|173=>477|212=>491|51=>366|20=>20|213=>492|46=>355|232=>497|233=>498|n=>n,fun|17=>7|18=>8|19=>9|n=>n⟩
open Go.RowKit Go.Sort Go.Lib in
def Tryz.laysM171_ren:Go.Shelf.Ren:=⟨fun|171=>190|243=>285|246=>357|283=>383|284=>384|285=>385|286=>386|129=>333|317=>401|318=>402|319=>403|320=>404|337=>408|338=>409|n=>n,fun|3=>3|9=>9|2=>2|4=>4|171=>474|0=>0|53=>251|37=>476|5=>5|173=>477|212=>491|51=>366|20=>20|213=>492|46=>355|232=>497|233=>498|n=>n,fun|17=>7|18=>8|19=>9|n=>n⟩
open Go.RowKit Go.Sort Go.Lib in
def Tryz.lays171_ren:Go.Shelf.Ren:=⟨fun|171=>190|243=>285|246=>357|283=>383|284=>384|285=>385|286=>386|129=>333|317=>401|318=>402|319=>403|320=>404|337=>408|338=>409|n=>n,fun|3=>3|9=>9|2=>2|4=>4|171=>474|0=>0|53=>251|37=>476|5=>5|173=>477|212=>491|51=>366|20=>20|213=>492|46=>355|232=>497|233=>498|n=>n,fun|17=>7|18=>8|19=>9|n=>n⟩
open Go.RowKit Go.Sort Go.Lib in
def Tryz.lays264_ren:Go.Shelf.Ren:=⟨fun|264=>359|n=>n,fun|53=>251|46=>355|n=>n,fun|n=>n⟩
def Tryz.lays264:Go.Proofs.Lays.n264 Tryz.prog Tryz.lays264_ren:={
 mixed:=by kernel_rfl
 f264:=Tryz.func359.trans (congrArg some (by kernel_rfl))
 t46:=Tryz.underlying355
 a46:=Tryz.isAgg355
 z46:=Tryz.sizeOf355
 v46:=Tryz.zeroValue355
 t53:=Tryz.underlying251
 a53:=Tryz.isAgg251
 z53:=Tryz.sizeOf251
 v53:=Tryz.zeroValue251}
open Go.RowKit Go.Lib in
def Tryz.bits_Mul64(x y:Nat)(hx:x<18446744073709551616)(hy:y<18446744073709551616)(w:World):
  Calls Tryz.prog 359 #[.int .u64 x, .int .u64 y] w fun e w'=>e= .returned (.tuple #[.int .u64 ((x*y/18446744073709551616:Nat):Int), .int .u64 ((x*y%18446744073709551616:Nat):Int)])/\w'=w:=Any.bits_Mul64 Tryz.lays264 x y hx hy w
end Go.Proofs
end
section
namespace Go.Sx
open Go Go.Proofs Tryz
def bl(x:Nat):Nat:=if x=0 then 0 else Nat.log2 x+1
def AQ(x:Nat):x<2^bl x:=by
 unfold bl;split
 ·rename_i h;subst h;decide
 ·exact Nat.lt_log2_self
def ou{x k:Nat}:bl x<=k↔x<2^k:=by
 constructor
 ·intro h;exact dJ (AQ x) (bR (by omega) h)
 ·intro h
  unfold bl;split
  ·omega
  ·rename_i h0
   have:=(Nat.log2_lt h0).2 h;omega
def Yo{x:Nat}(h:x≠0):bl x=1+bl (x/2):=by
 have h1: ∀k,bl x<=k+1↔bl (x/2)<=k:=fun k=>by
  rw[ou,ou,gX];omega
 have h2:bl x≠0:=fun e=>by
  have:=AQ x;rw[e] at this;simp at this;exact h this
 have h3:=(h1 (bl (x/2))).2 (aN _);have h4:=(h1 (bl x-1)).1 (by omega);omega
def Pw: ∀(f x:Nat),x<2^f->Lib.bitLenAux f x=bl x
 |0,x,h=>by
  have:x=0:=by simpa using h
  subst this;rfl
 |f+1,x,h=>by
  unfold Lib.bitLenAux;split
  ·rename_i h0;subst h0;rfl
  ·rename_i h0
   rw[Pw f (x/2) (by rw[gX] at h;omega),Yo h0]
def avt{x:Nat}(h:x<2^64):Lib.bitLen x=bl x:=Pw 64 x h
def axV{x k:Nat}(d:Nat)(h:x<2^k)(hd:d≠0):bl (x+2^k*d)=k+bl d:=by
 have h1: ∀j,bl (x+2^k*d)<=k+j↔bl d<=j:=fun j=>by
  rw[ou,ou,fT];constructor
  ·intro h'
   exact Nat.lt_of_mul_lt_mul_left (a:=2^k) (by omega)
  ·intro h'
   have:2^k*(d+1)<=2^k*2^j:=fL _ h';rw[dV] at this;omega
 have h2:k<bl (x+2^k*d):=by
  rcases jX k (bl (x+2^k*d)) with h'|h'
  ·exact h'
  ·have:=ou.1 h'
   have h3:2^k*1<=2^k*d:=fL _ (by omega);omega
 have h3:=(h1 (bl d)).2 (aN _);have h4:=(h1 (bl (x+2^k*d)-k)).1 (by omega);omega
def SU{ds:List Nat}(h:bm ds)(hn:eh ds)(hne:ds≠[]):bl (dv ds)=32*(ds.length-1)+bl (ds.getD (ds.length-1) 0):=by
 rcases rL ds with rfl|⟨l,d,rfl⟩
 ·exact absurd J hne
 ·rw[rM] at*
  have hd:d≠0:=fun e=>by subst e;simp[eh] at hn
  have hl:bm l:=fun x hx=>h x (bK _ hx);have h1:=ju hl;rw[xb];have h2:(4294967296:Nat)^l.length=2^(32*l.length):=by rw[pK]
  rw[h2] at h1⊢;have h3:dv [d]=d:=by simp[dv]
  rw[h3,axV d h1 hd];have h4:(l++[d]).length-1=l.length:=by simp
  rw[h4,aK,gQ (aN _)];simp
def J1{P:Program}{f:FuncId}{fn:Func}{c:Code}(h:P.funcs[f]? =some fn)(hb:fn.body=some c)(hn:(fn.name== "runtime.NumGoroutine")=false):o8 P f:=⟨fn,h,hn,by rw[hb];rfl⟩
def Ih{G:Gh}{x:Nat}(hx:x<4294967296):Fn prog 366 [.int .u32 (x:Int)] G (fun v _=>v= .int .i64 (32-(bl x:Int))):=by
 have h:=Fn.of_calls (G:=G) (J1 func366 J J) (fun w=>Tryz.bits_LeadingZeros32 (x:Int) w (by omega) (by omega));rw[bQ,avt (pT hx (by decide))] at h;exact h
def I3{G:Gh}{u:Nat}(hu:u<18446744073709551616):Fn prog 309 [.int .u64 (u:Int)] G (fun v G'=> ∃z:SV,v=z.v/\fG 64 G' z u):=by
 refine Fn.intro func309 J J ntmps309 J ?_;intro C _ _;refine sR<|sa J J<|zE<|sR<|sm J J<|sy (ki J) J<|sm J J<|?_;refine sy (mn J J (by decide)) J<|sy (ki J) J<|?_;refine sc (FC (by rfl) (by rfl) (by rfl) (by rfl) J ?_);intro b1;refine pO b1 (.hd ..) (fun G1 _ hgb=>?_);have h1:((u:Int)%4294967296)=((u%4294967296:Nat):Int):=by omega
 have h2:((u:Int).fdiv (2^min (32:Int).toNat IntKind.u64.bits)%4294967296)=((u/4294967296:Nat):Int):=by
  have:(2^min (32:Int).toNat IntKind.u64.bits:Int)=4294967296:=by decide
  rw[this,iX _ (by omega)];omega
 have hok:bm [u%4294967296,u/4294967296]:= .cons (by omega) (.cons (by omega) .nil);have hd:cx G1 ⟨some ⟨b1,0,none⟩,2,2⟩ [u%4294967296,u/4294967296]:= .of_block hok hgb.h J (aN _) (by rw[h1,h2];rfl);have hv:dv [u%4294967296,u/4294967296]=u:=by simp only[dv];omega
 refine sc (zC J J (jk hd (by simp)) J ?_);rintro _ G2 _ rfl;refine sa J J<|zE<|di<|?_;refine zD (.tmp J .nil) ⟨⟨some ⟨b1,0,none⟩,(trimD [u%4294967296,u/4294967296]).length,2⟩,J,?_⟩;have:=hd.trim.up (G:=G2);rw[<-pI hok,hv] at this;exact⟨by rw[<-pI hok,hv];exact this,dJ hu (by decide)⟩
def LO{P:Program}{t:TypeId}(a b k:Nat)(ha:a<2^k)(h:a+b*2^k<18446744073709551616)(w:World):(binOp .or t (.int .u64 (a:Int)) (.int .u64 ((b*2^k:Nat):Int))).run P w= .ok (.int .u64 ((a+b*2^k:Nat):Int)) w:=by
 have h1:(BitVec.ofInt 64 (a:Int) ||| BitVec.ofInt 64 ((b*2^k:Nat):Int)).toNat=a+b*2^k:=by
  rw[BitVec.toNat_or,BitVec.ofInt_natCast,BitVec.ofInt_natCast,BitVec.toNat_ofNat,BitVec.toNat_ofNat,fW (by omega),fW (by omega)];rw[<-mX,Nat.or_comm,<-mK ha,mX];omega
 have h2:IntKind.u64.wrap ((a+b*2^k:Nat):Int)=((a+b*2^k:Nat):Int):=by rw[nv];omega
 simp only[binOp];show(Op.intBits .or .u64 (a:Int) ((b*2^k:Nat):Int)).run P w=_;unfold Op.intBits;show(pure (Value.int .u64 (IntKind.u64.wrap ((BitVec.ofInt 64 (a:Int) ||| BitVec.ofInt 64 ((b*2^k:Nat):Int)).toNat:Int))):Sem Value).run P w=_;rw[h1,h2,run_pure]
def HT{A G:Gh}{x:SV}{ds:List Nat}(hx:cx A x ds)[GL A G](hb:ds.length<=1125899906842624):Fn prog 315 [x.v] G (fun v _=>v= .tuple #[.int .u64 ((if dv ds<18446744073709551616 then dv ds else 0:Nat):Int), .bool (decide (dv ds<18446744073709551616))]):=by
 have htl:=ni ds;have hdv:=jG ds;have hok:=hx.ok.trimD;have hnr:=eh.trimD ds;have hxt:=hx.trim;have hcall:=fun G1 (_:GL A G1)=>jk (G:=G1) hx (by omega);generalize trimD ds=es at*;have hlen:=hxt.len;rw[<-hdv];have hbig:(if dv es<18446744073709551616 then dv es else 0)=if es.length<=2 then dv es else 0:=by
  by_cases h2:es.length<=2
  ·have h3:=ju hok
   have h4:(4294967296:Nat)^es.length<=4294967296^2:=bR (by omega) h2;rw[if_pos h2,if_pos (by omega)]
  ·have h3:=qI hnr (fun e=>by subst e;simp at h2)
   have h4:(4294967296:Nat)^2<=4294967296^(es.length-1):=bR (by omega) (by omega);rw[if_neg h2,if_neg (by omega)]
 have hbig2:decide (dv es<18446744073709551616)=decide (es.length<=2):=by
  rw[decide_eq_decide];by_cases h2:es.length<=2
  ·have h3:=ju hok
   have h4:(4294967296:Nat)^es.length<=4294967296^2:=bR (by omega) h2;exact⟨fun _=>h2,fun _=>by omega⟩
  ·have h3:=qI hnr (fun e=>by subst e;simp at h2)
   have h4:(4294967296:Nat)^2<=4294967296^(es.length-1):=bR (by omega) (by omega);exact⟨fun _=>by omega,fun h=>absurd h h2⟩
 rw[hbig,hbig2];refine Fn.intro func315 J J ntmps315 J ?_;intro C _ _;refine sR<|sa J J<|sa J J<|zE<|sR<|sm J J<|?_;refine sc (zC J J (hcall _ inferInstance) J ?_);rintro _ G1 _ rfl;refine sa J J<|zE<|bu<|sR<|sm J J<|c7 J J<|sy (sE J J) J<|zE<|?_;refine gg J (fun hc=>?_) (fun hc=>?_) -- slot 11
 ·refine sR<|sa J J<|sa J J<|zE<|di<|?_
  refine zD (.tmp J (.tmp J .nil)) ?_;have: ¬es.length<=2:=by omega
  simp[gH,this]
 have h2:es.length<=2:=by omega
 refine zK<|sR<|sa J J<|zE<|bu<|sR<|sm J J<|c7 J J<|sm J J<|zE<|d6<|?_;refine l6 (X:=Nat) (fun k=>[(14, .int .i64 k),(13, .int .i64 es.length),(12, .slice x.a es.length x.c),(4, .int .u64 ((dv (es.take k):Nat):Int))]) (fun _=>[]) (fun k _=>k<=es.length) (fun k=>es.length-k) 0 (bU _) (.cons J (.cons J (.cons J (.cons J .nil)))) J ?_;rintro k Gx _ hk;refine sR<|sy (jf J J) J<|zE<|bu<|?_;refine lO J (fun hc=>?_) (fun hc=>?_) -- slot 15
 ·refine jm<|eG<|eG<|jx<|sR<|sm J J<|sa J J<|sa J J<|zE<|di<|?_
  refine zD (.tmp J (.tmp J .nil)) ?_;have hk':k=es.length:=by omega
  subst hk';simp[gH,h2]
 have hk':k<es.length:=by omega
 have hdk:=hok.get k;have hdt:=ju (hok.take k);rw[cK,gV (by omega)] at hdt;have hds:=jl es k;have hd2:=ju (hok.take (k+1));rw[cK,gV (by omega)] at hd2;have hp2:(4294967296:Nat)^(k+1)<=4294967296^2:=bR (by omega) (by omega);have hpk:(4294967296:Nat)^k=2^(32*k):=by rw[pK]
 refine zK<|bu<|d6<|sR<|sm J J<|sy (iB (z:=⟨x.a,es.length,x.c⟩) hxt J J (by omega) (by show(k:Int)<(es.length:Nat);omega)) J<|sy (iv hxt J (by omega)) J<|sa J J<|sa J J<|zE<|d4<|?_;refine sm J J<|sm J J<|sy (gz J (by omega) (by rw[bQ];omega)) J<|sm J J<|sy (Qh J J (by omega) (by omega)) J<|?_;have hsh:IntKind.u64.wrap (((es.getD (k:Int).toNat 0:Nat):Int)*2^min ((32:Int)*(k:Int)).toNat IntKind.u64.bits)=((es.getD k 0*2^(32*k):Nat):Int):=by
  have e1:((32:Int)*(k:Int)).toNat=32*k:=by omega
  rw[e1,bQ,gV (by show 32*k<=64;omega),nv];have e2:((es.getD k 0:Nat):Int)*2^(32*k)=((es.getD k 0*2^(32*k):Nat):Int):=by push_cast;rfl
  rw[e2];have e3:es.getD k 0*2^(32*k)<18446744073709551616:=by rw[<-hpk,cX];omega
  omega
 refine sy (vK J J (by omega)) J<|?_;rw[hsh];refine sy (iC J J (LO (dv (es.take k)) (es.getD k 0) (32*k) (by rw[<-hpk];exact hdt) (by rw[<-hpk,cX];omega))) J<|sa J J<|zE<|d4<|sy (d5 J J) J<|sm J J<|zE<|?_;refine jt (k+1) (by omega) (by omega) (.cons J (.cons J (.cons J (.cons ?_ .nil)))) J;rw[hds,hpk,cX (2^(32*k))];rfl
def Yc{A G:Gh}{x:SV}{ds:List Nat}(hx:cx A x ds)[GL A G](hb:ds.length<=1125899906842624):Fn prog 310 [x.v] G (fun v _=>v= .int .i64 ((bl (dv ds):Nat):Int)):=by
 have htl:=ni ds;have hdv:=jG ds;have hok:=hx.ok.trimD;have hnr:=eh.trimD ds;have hxt:=hx.trim;have hcall:=fun G1 (_:GL A G1)=>jk (G:=G1) hx (by omega);generalize trimD ds=es at*;have hlen:=hxt.len;rw[<-hdv];refine Fn.intro func310 J J ntmps310 J ?_;intro C _ _;refine sR<|sa J J<|zE<|sR<|sm J J<|?_;refine sc (zC J J (hcall _ inferInstance) J ?_);rintro _ G1 _ rfl;refine sa J J<|zE<|bu<|sR<|sm J J<|c7 J J<|sy (iD J J) J<|zE<|?_;refine gg J (fun hc=>?_) (fun hc=>?_) -- slot 7
 ·refine sR<|sa J J<|zE<|di<|?_
  refine zD (.tmp J .nil) ?_;have:es=[]:=bL (by omega);subst this;rfl
 have hne:0<es.length:=by omega
 have hkt:((es.length:Int)-1).toNat=es.length-1:=by omega
 have hg:=hok.get (es.length-1);have hbl:bl (es.getD (es.length-1) 0)<=32:=ou.2 (by omega);refine zK<|sR<|sm J J<|c7 J J<|sy (Qh J J (by omega) (by omega)) J<|sm J J<|sm J J<|c7 J J<|sy (jP J J) J<|?_;refine sy (iB (z:=⟨x.a,es.length,x.c⟩) hxt J J (by omega) (by show _<((es.length:Nat):Int);omega)) J<|sy (iv hxt J (by omega)) J<|?_;rw[hkt];refine sc (zC J J (Ih hg) J ?_);rintro _ G2 _ rfl;refine sy (jP J J) J<|sa J J<|zE<|di<|?_;refine zD (.tmp J .nil) ?_;rw[SU hok hnr (fun e=>by subst e;simp at hne)];simp only[gH,Value.int.injEq,true_and];omega
def gw(a b:Nat):Int:=if a<b then-1 else if a=b then 0 else 1
def JG{A B G:Gh}{x y:SV}{ds es:List Nat}(hx:cx A x ds)(hy:cx B y es)[GL A G][GL B G](hb:ds.length<=1125899906842624)(hb2:es.length<=1125899906842624):
  Fn prog 367 [x.v,y.v] G (fun v _=>v= .int .i64 (gw (dv ds) (dv es))):=by
 have htl:=ni ds;have htl2:=ni es;have hcall:=fun G1 (_:GL A G1)=>jk (G:=G1) hx (by omega);have hcall2:=fun G1 (_:GL B G1)=>jk (G:=G1) hy (by omega);have hxt:=hx.trim;have hyt:=hy.trim;have hok:=hx.ok.trimD;have hok2:=hy.ok.trimD;have hnr:=eh.trimD ds;have hnr2:=eh.trimD es;rw[<-jG ds,<-jG es];generalize trimD ds=a at*;generalize trimD es=b at*;refine Fn.intro func367 J J ntmps367 J ?_;intro C _ _;refine sR<|sa J J<|zE<|sR<|sm J J<|?_;refine sc (zC J J (hcall _ inferInstance) J ?_);rintro _ G1 _ rfl;refine sm J J<|?_;refine sc (zC J J (hcall2 _ inferInstance) J ?_);rintro _ G2 _ rfl;refine sa J J<|sa J J<|zE<|bu<|sR<|sm J J<|c7 J J<|sm J J<|c7 J J<|sy (uB J J) J<|zE<|?_;refine gg J (fun hc=>?_) (fun hc=>?_) -- slot 14
 ·refine bu<|sR<|sm J J<|c7 J J<|sm J J<|c7 J J<|sy (jf J J) J<|zE<|?_
  refine gg J (fun hc2=>?_) (fun hc2=>?_) -- slot 19
  ·refine sR<|sa J J<|zE<|di<|?_
   refine zD (.tmp J .nil) ?_;have:=ta hok hnr2 (by omega);simp[gH,gw,this]
  refine zK<|sR<|sa J J<|zE<|di<|?_;refine zD (.tmp J .nil) ?_;have:=ta hok2 hnr (by omega);have h1: ¬dv a<dv b:=by omega
  have h2: ¬dv a=dv b:=by omega
  simp[gH,gw,h1,h2]
 have hl:a.length=b.length:=by omega
 refine zK<|bu<|sR<|sm J J<|c7 J J<|sy (jP J J) J<|sa J J<|zE<|d6<|?_;refine l6 (X:=Nat) (fun k=>[(5, .int .i64 (k-1)),(0, .slice x.a a.length x.c),(1, .slice y.a b.length y.c)]) (fun _=>[]) (fun k _=>k<=a.length/\a.drop k=b.drop k) (fun k=>k) a.length ⟨aN _,by rw[jZ,hl,jZ]⟩ (.cons J (.cons J (.cons J .nil))) J ?_;rintro k Gx _ ⟨hk,hd⟩;refine bu<|sR<|sm J J<|sy (uZ J J) J<|zE<|?_;refine lO J (fun hc=>?_) (fun hc=>?_) -- slot 24
 ·refine jm<|eG<|eG<|jx<|sR<|sa J J<|zE<|di<|?_
  refine zD (.tmp J .nil) ?_;have:k=0:=by omega
  subst this;have hab:a=b:=by simpa using hd
  subst hab;simp[gH,gw]
 have hk1:0<k:=by omega
 have hkt:((k:Int)-1).toNat=k-1:=by omega
 have hga:=hok.get (k-1);have hgb:=hok2.get (k-1);have hk2:k-1+1=k:=by omega
 refine zK<|bu<|d6<|d6<|bu<|dr (fun _=>false) [(0,true),(1,true),(2,true),(3,true),(4,true),(5,true),(6,true),(7,true),(8,true),(9,true)] follows (by kernel_rfl)<|?_;refine dM J J J<|dM J J J<|dy J (fun _=>iB (z:=⟨x.a,a.length,x.c⟩) hxt J J (by omega) (by show _<((a.length:Nat):Int);omega)) J J<|dy J (fun _=>iv hxt J (by omega)) J J<|?_;refine dM J J J<|dM J J J<|dy J (fun _=>iB (z:=⟨y.a,b.length,y.c⟩) hyt J J (by omega) (by show _<((b.length:Nat):Int);omega)) J J<|dy J (fun _=>iv hyt J (by omega)) J J<|?_;refine dy J (fun _=>jf J J) J J<|dA J J J<|dn<|?_;refine gg J (fun hc2=>?_) (fun hc2=>?_) -- slot 27
 ·refine sR<|sa J J<|zE<|di<|?_
  refine zD (.tmp J .nil) ?_;rw[hkt] at hc2;have:=AY hok hok2 (k-1) (by omega) (by omega) hl (by rw[hk2];exact hd) (by omega);simp[gH,gw,this]
 refine bu<|dr (fun _=>false) [(0,true),(1,true),(2,true),(3,true),(4,true),(5,true),(6,true),(7,true),(8,true),(9,true)] follows (by kernel_rfl)<|dM J J J<|?_;refine dM J J J<|dy J (fun _=>iB (z:=⟨x.a,a.length,x.c⟩) hxt J J (by omega) (by show _<((a.length:Nat):Int);omega)) J J<|dy J (fun _=>iv hxt J (by omega)) J J<|dM J J J<|?_;refine dM J J J<|dy J (fun _=>iB (z:=⟨y.a,b.length,y.c⟩) hyt J J (by omega) (by show _<((b.length:Nat):Int);omega)) J J<|dy J (fun _=>iv hyt J (by omega)) J J<|dy J (fun _=>sE J J) J J<|?_;refine dA J J J<|dn<|?_;rw[hkt] at*;refine gg J (fun hc3=>?_) (fun hc3=>?_) -- slot 37
 ·refine sR<|sa J J<|zE<|di<|?_
  refine zD (.tmp J .nil) ?_;have:=AY hok2 hok (k-1) (by omega) (by omega) hl.symm (by rw[hk2];exact hd.symm) (by omega);have h1: ¬dv a<dv b:=by omega
  have h2: ¬dv a=dv b:=by omega
  simp[gH,gw,h1,h2]
 refine zK<|d4<|sm J J<|sy (jP J J) J<|sa J J<|zE<|?_;refine jt (k-1) ⟨by omega,?_⟩ (by omega) (.cons (by rw[show((k-1:Nat):Int)=(k:Int)-1 by omega];rfl) (.cons J (.cons J .nil))) J;have heq:a.getD (k-1) 0=b.getD (k-1) 0:=by omega
 rw[aK,aK,aX (by omega),aX (by omega)] at heq;rw[aM (by omega:k-1<a.length),aM (by omega:k-1<b.length),hk2,hd];congr 1
def Be{ds:List Nat}{k:Nat}(h:ds.length<=k):ds.getD k 0=0:=by
 rw[aK,dW h];rfl
def H7(n k:Nat):(List.replicate n 0).getD k 0=0:=by
 rw[aK];by_cases h:k<n
 ·simp[h]
 ·rw[dW (by simpa using h)];rfl
def YJ{a b c:Nat}(ha:a<4294967296)(hb:b<4294967296)(hc:c<=1):(c+a+b)/4294967296<=1:=by omega
structure Y6 where
 ws:List Nat
 k:Nat
 c:Nat
def S1{A B G:Gh}{x y:SV}{ds es:List Nat}{kk:Nat}(hx:cx A x ds)(hy:cx B y es)[GL A G][GL B G](hk:dv ds+dv es<2^kk)(hb:ds.length<=1125899906842)(hb2:es.length<=1125899906842):
  Fn prog 362 [x.v,y.v] G (fun v G'=> ∃z:SV,v=z.v/\fG kk G' z (dv ds+dv es)):=by
 have hlen:=hx.len;have hlen2:=hy.len;refine Fn.intro func362 J J ntmps362 J ?_;intro C _ _;refine sR<|sa J J<|zE<|?_;refine yF ((SV×List Nat)×(SV×List Nat)) (fun q=>[(0, .slice q.1.1.a q.1.1.n q.1.1.c),(1, .slice q.2.1.a q.2.1.n q.2.1.c)]) (fun _=>[])
  (fun q G=>cx G q.1.1 q.1.2/\cx G q.2.1 q.2.2/\dv q.1.2+dv q.2.2=dv ds+dv es/\q.2.2.length<=q.1.2.length/\q.1.2.length<=1125899906842) ?_ ?_
 ·refine sR<|sm J J<|c7 J J<|sm J J<|c7 J J<|sy (jf J J) J<|zE<|?_
  refine gg J (fun hc=>?_) (fun hc=>?_) -- slot 13
  ·refine d4<|sm J J<|sm J J<|sa J J<|sa J J<|zE<|?_
   exact qi ((y,es),(x,ds)) ⟨hy.up,hx.up,by simp;omega,by simp;omega,by simp;omega⟩ (.cons J (.cons J .nil)) J
  refine zK<|?_;exact qi ((x,ds),(y,es)) ⟨hx.up,hy.up,J,by simp;omega,by simp;omega⟩ (.cons J (.cons J .nil)) J
 rintro ⟨⟨x,a⟩,⟨y,b⟩⟩ Gx _ ⟨hx,hy,hsum,hle,hba⟩;rw[<-hsum] at hk⊢;clear hlen hlen2 hsum;have hlen:=hx.len;have hlen2:=hy.len;simp only[] at hx hy hle hba hlen hlen2 hk⊢;refine sR<|sm J J<|c7 J J<|sy (d5 J J) J<|?_;refine sc (r5 J J (by omega) (by omega) (by omega) (by rfl) J ?_);intro b1;rw[um,show((x.n:Int)+1).toNat=a.length+1 by omega];refine sa J J<|zE<|sR<|sa J J<|zE<|bu<|sR<|sm J J<|c7 J J<|sm J J<|zE<|d6<|?_;refine l6 (X:=Y6) (fun q=>[(22, .int .i64 q.k),(21, .int .i64 x.n),(20, .slice x.a x.n x.c),(6, .int .u64 q.c),(0, .slice x.a x.n x.c),(1, .slice y.a y.n y.c),(5, .slice (some ⟨b1,0,none⟩) (a.length+1) (a.length+1))])
  (fun q=>[⟨b1,q.ws.map dI,366,true⟩])
  (fun q _=>q.k<=a.length/\q.ws.length=a.length+1/\bm q.ws/\q.c<=1/\dv (q.ws.take q.k)+4294967296^q.k*q.c=dv (a.take q.k)+dv (b.take q.k)) (fun q=>a.length-q.k) ⟨List.replicate (a.length+1) 0,0,0⟩
  ⟨bU _,by simp, .replicate _,bU _,by simp[dv]⟩ (.cons J (.cons J (.cons J (.cons J (.cons J (.cons J (.cons J .nil))))))) J ?_
 rintro ⟨ws,k,c⟩ Gy _ ⟨hka,hwl,hwo,hc1,hinv⟩;simp only[] at hka hwl hwo hc1 hinv⊢;refine sR<|sy (jf J J) J<|zE<|bu<|?_;refine lO J (fun hc=>?_) (fun hc=>?_) -- slot 23
 ·have hkn:k=a.length:=by omega
  refine jm<|eG<|eG<|jx<|sR<|sm J J<|sm J J<|c7 J J<|sm J J<|sy (ki J) J<|?_;refine sy (fA J J (by omega) (by omega)) J<|?_;refine sc (lw (d:=c) J J (by omega) (.hd ..) (by omega) J ?_);rw[show(x.n:Int).toNat=a.length by omega];refine zE<|sR<|sm J J<|?_;refine pO b1 (.hd ..) (fun G1 _ hgb=>?_);have hwo2:bm (ws.set a.length c):=hwo.set _ (by omega);have hD:cx G1 ⟨some ⟨b1,0,none⟩,a.length+1,a.length+1⟩ (ws.set a.length c):= .of_block hwo2 hgb.h (by simp[hwl]) (aN _) (by rw[bZ (by simp)]);have hdv:dv (ws.set a.length c)=dv a+dv b:=by
   have h1:=qf (ws:=ws) (k:=a.length) (d:=c) (by omega);rw[bZ (by simp;omega)] at h1;rw[h1,<-hkn,hinv,hkn,bZ (aN _),bZ hle]
  refine sc (zC J J (jk hD (by simp;omega)) J ?_);rintro _ G2 _ rfl;refine sa J J<|zE<|di<|?_;refine zD (.tmp J .nil) ⟨⟨some ⟨b1,0,none⟩,(trimD (ws.set a.length c)).length,a.length+1⟩,J,?_⟩;have h3:=hD.trim.up (G:=G2);rw[<-hdv] at hk⊢;exact⟨by rw[pI hwo2];exact h3,hk⟩
 have hka':k<a.length:=by omega
 have hga:=hx.ok.get k;have hgb:=hy.ok.get k;refine zK<|bu<|d6<|sR<|sm J J<|sy (iB hx J J (by omega) (by omega)) J<|sy (iv hx J (by omega)) J<|sa J J<|sa J J<|zE<|bu<|?_;refine d4<|sm J J<|sm J J<|sy (gz J (by omega) (by rw[bQ];omega)) J<|sy (qE J J (by omega) (by rw[bQ];omega)) J<|sa J J<|zE<|?_;rw[bQ];refine yF Unit (fun _=>[(22, .int .i64 k),(7, .int .i64 k),(21, .int .i64 x.n),(20, .slice x.a x.n x.c),(6, .int .u64 ((c+a.getD k 0+b.getD k 0:Nat):Int)),(0, .slice x.a x.n x.c),(1, .slice y.a y.n y.c),(5, .slice (some ⟨b1,0,none⟩) (a.length+1) (a.length+1))]) (fun _=>[⟨b1,ws.map dI,366,true⟩]) (fun _ _=>True) ?_ ?_
 ·refine sR<|sm J J<|sm J J<|c7 J J<|sy (jf J J) J<|zE<|?_
  refine gg J (fun hc2=>?_) (fun hc2=>?_) -- slot 34
  ·refine d4<|sm J J<|sm J J<|sm J J<|sy (iB hy J J (by omega) (by omega)) J<|sy (iv hy J (by omega)) J<|sy (gz J (by omega) (by rw[bQ];omega)) J<|?_
   rw[bQ];refine sy (qE J J) J<|sa J J<|zE<|?_;exact qi () trivial (.cons J (.cons J (.cons J (.cons J (.cons (by rw[sS,sS];rfl) (.cons J (.cons J (.cons J .nil)))))))) J
  refine zK<|?_;have h0:b.getD k 0=0:=Be (by omega);exact qi () trivial (.cons J (.cons J (.cons J (.cons J (.cons (by rw[h0,eY,sS];rfl) (.cons J (.cons J (.cons J .nil)))))))) J
 rintro _ Gz _ _;generalize hcc:c+a.getD k 0+b.getD k 0=cc;have hcb:cc/4294967296<=1:=by rw[<-hcc];exact YJ hga hgb hc1
 refine sR<|sm J J<|sm J J<|sm J J<|sy (ki J) J<|sy (fA J J (by omega) (by omega)) J<|?_;rw[bQ];refine sc (lw (d:=cc%4294967296) J J (by omega) (.hd ..) (by omega) J ?_);refine zE<|d4<|sm J J<|sy (mn J J (by decide)) J<|sa J J<|zE<|d4<|sy (d5 J J) J<|sm J J<|zE<|?_;have hsh:((cc:Int).fdiv (2^min (32:Int).toNat IntKind.u64.bits))=((cc/4294967296:Nat):Int):=by
  have:(2^min (32:Int).toNat IntKind.u64.bits:Int)=4294967296:=by decide
  rw[this,iX _ (by omega)];rfl
 rw[hsh];refine jt ⟨ws.set k (cc%4294967296),k+1,cc/4294967296⟩ ⟨by show k+1<=_;omega,by simp[hwl],hwo.set _ (by omega),hcb,?_⟩ (by show a.length-(k+1)<a.length-k;omega) (.cons J (.cons J (.cons J (.cons J (.cons J (.cons J (.cons J .nil))))))) J;show dv ((ws.set k (cc%4294967296)).take (k+1))+4294967296^(k+1)*(cc/4294967296)=dv (a.take (k+1))+dv (b.take (k+1));rw[qf (by omega),jl a,jl b,<-hcc,gX];exact Pi hinv
structure R4 where
 ws:List Nat
 k:Nat
 c:Nat
def JI(p:Int)(h0:0<=p):p.fdiv (2^min (63:Int).toNat IntKind.u64.bits)=p/9223372036854775808:=by
 have:(2^min (63:Int).toNat IntKind.u64.bits:Int)=9223372036854775808:=by decide
 rw[this,iX _ (by omega)]
def Mw(p:Nat):((p:Int).fdiv (2^min (32:Int).toNat IntKind.u64.bits))=((p/4294967296:Nat):Int):=by
 have:(2^min (32:Int).toNat IntKind.u64.bits:Int)=4294967296:=by decide
 rw[this,iX _ (by omega)];rfl
def Xz{A B G:Gh}{x y:SV}{a b:List Nat}{kk:Nat}(hx:cx A x a)(hy:cx B y b)[GL A G][GL B G](hle:b.length<=a.length)(hge:dv b<=dv a)(hk:dv a<2^kk)(hba:a.length<=1125899906842):
  Fn prog 387 [x.v,y.v] G (fun v G'=> ∃z:SV,v=z.v/\fG kk G' z (dv a-dv b)):=by
 have hlen:=hx.len;have hlen2:=hy.len;refine Fn.intro func387 J J ntmps387 J ?_;intro C _ _;refine sR<|sa J J<|zE<|sR<|sm J J<|c7 J J<|?_;refine sc (r5 J J (by omega) (by omega) (by omega) (by rfl) J ?_);intro b1;rw[um,show(x.n:Int).toNat=a.length by omega];refine sa J J<|zE<|sR<|sa J J<|zE<|bu<|sR<|sm J J<|c7 J J<|sm J J<|zE<|d6<|?_;refine l6 (X:=R4) (fun q=>[(16, .int .i64 q.k),(15, .int .i64 x.n),(14, .slice x.a x.n x.c),(6, .int .u64 q.c),(1, .slice y.a y.n y.c),(5, .slice (some ⟨b1,0,none⟩) a.length a.length)])
  (fun q=>[⟨b1,q.ws.map dI,366,true⟩])
  (fun q _=>q.k<=a.length/\q.ws.length=a.length/\bm q.ws/\q.c<=1/\dv (q.ws.take q.k)+dv (b.take q.k)=dv (a.take q.k)+4294967296^q.k*q.c) (fun q=>a.length-q.k) ⟨List.replicate a.length 0,0,0⟩
  ⟨bU _,by simp, .replicate _,bU _,by simp[dv]⟩ (.cons J (.cons J (.cons J (.cons J (.cons J (.cons J .nil)))))) J ?_
 rintro ⟨ws,k,c⟩ Gy _ ⟨hka,hwl,hwo,hc1,hinv⟩;simp only[] at hka hwl hwo hc1 hinv⊢;refine sR<|sy (jf J J) J<|zE<|bu<|?_;refine lO J (fun hc=>?_) (fun hc=>?_) -- slot 17
 ·have hkn:k=a.length:=by omega
  refine jm<|eG<|eG<|jx<|sR<|sm J J<|?_;refine pO b1 (.hd ..) (fun G1 _ hgb=>?_);have hD:cx G1 ⟨some ⟨b1,0,none⟩,a.length,a.length⟩ ws:= .of_block hwo hgb.h hwl.symm (aN _) (by rw[bZ (by simp)]);have hdv:dv ws=dv a-dv b:=by
   rw[hkn,bZ (by omega),bZ hle,bZ (aN _)] at hinv;have h2:=ju hwo;rw[hwl] at h2;rcases fX c with h0|h0
   ·subst h0;omega
   ·have:c=1:=by omega
    subst this;omega
  refine sc (zC J J (jk hD (by omega)) J ?_);rintro _ G2 _ rfl;refine sa J J<|zE<|di<|?_;refine zD (.tmp J .nil) ⟨⟨some ⟨b1,0,none⟩,(trimD ws).length,a.length⟩,J,?_⟩;have h3:=hD.trim.up (G:=G2);rw[<-hdv];exact⟨by rw[pI hwo];exact h3,by omega⟩
 have hka':k<a.length:=by omega
 have hga:=hx.ok.get k;have hgb:=hy.ok.get k;refine zK<|bu<|d6<|sR<|sm J J<|sy (iB hx J J (by omega) (by omega)) J<|sy (iv hx J (by omega)) J<|sa J J<|sa J J<|zE<|bu<|?_;rw[bQ];refine d4<|sm J J<|sa J J<|zE<|?_;refine yF Unit (fun _=>[(16, .int .i64 k),(7, .int .i64 k),(15, .int .i64 x.n),(14, .slice x.a x.n x.c),(8, .int .u32 ((a.getD k 0:Nat):Int)),(9, .int .u64 ((c+b.getD k 0:Nat):Int)),(1, .slice y.a y.n y.c),(5, .slice (some ⟨b1,0,none⟩) a.length a.length)]) (fun _=>[⟨b1,ws.map dI,366,true⟩]) (fun _ _=>True) ?_ ?_
 ·refine sR<|sm J J<|sm J J<|c7 J J<|sy (jf J J) J<|zE<|?_
  refine gg J (fun hc2=>?_) (fun hc2=>?_) -- slot 25
  ·refine d4<|sm J J<|sm J J<|sm J J<|sy (iB hy J J (by omega) (by omega)) J<|sy (iv hy J (by omega)) J<|sy (gz J (by omega) (by rw[bQ];omega)) J<|?_
   rw[bQ];refine sy (qE J J) J<|sa J J<|zE<|?_;exact qi () trivial (.cons J (.cons J (.cons J (.cons J (.cons J (.cons (by rw[sS];rfl) (.cons J (.cons J .nil)))))))) J
  refine zK<|?_;have h0:b.getD k 0=0:=Be (by omega);exact qi () trivial (.cons J (.cons J (.cons J (.cons J (.cons J (.cons (by rw[h0,eY];rfl) (.cons J (.cons J .nil)))))))) J
 rintro _ Gz _ _;generalize htt:c+b.getD k 0=tt;have htb:tt<=4294967296:=by omega
 refine sR<|sm J J<|sy (gz J) J<|sm J J<|sy (vm J J) J<|sa J J<|zE<|sR<|sm J J<|sm J J<|sm J J<|?_;rw[nv];refine sy (ki J) J<|sy (fA J J (by omega) (by omega)) J<|?_;rw[bQ];by_cases hno:tt<=a.getD k 0
 ·refine sc (lw (d:=a.getD k 0-tt) J J (by omega) (.hd ..) (by omega) J ?_)
  refine zE<|d4<|sm J J<|sy (mn J J (by decide)) J<|sa J J<|zE<|d4<|sy (d5 J J) J<|sm J J<|zE<|?_;rw[JI _ (by omega),show(((a.getD k 0:Nat):Int)-(tt:Int))%18446744073709551616/9223372036854775808=((0:Nat):Int) by omega];refine jt ⟨ws.set k (a.getD k 0-tt),k+1,0⟩ ⟨by show k+1<=_;omega,by simp[hwl],hwo.set _ (by omega),bU _,?_⟩ (by show a.length-(k+1)<a.length-k;omega) (.cons J (.cons J (.cons J (.cons J (.cons J (.cons J .nil)))))) J;show dv ((ws.set k (a.getD k 0-tt)).take (k+1))+dv (b.take (k+1))=dv (a.take (k+1))+4294967296^(k+1)*0;rw[qf (by omega),jl a,jl b,<-htt,gX];exact Nc hinv (by omega)
 ·refine sc (lw (d:=a.getD k 0+4294967296-tt) J J (by omega) (.hd ..) (by omega) J ?_)
  refine zE<|d4<|sm J J<|sy (mn J J (by decide)) J<|sa J J<|zE<|d4<|sy (d5 J J) J<|sm J J<|zE<|?_;rw[JI _ (by omega),show(((a.getD k 0:Nat):Int)-(tt:Int))%18446744073709551616/9223372036854775808=((1:Nat):Int) by omega];refine jt ⟨ws.set k (a.getD k 0+4294967296-tt),k+1,1⟩ ⟨by show k+1<=_;omega,by simp[hwl],hwo.set _ (by omega),aN _,?_⟩ (by show a.length-(k+1)<a.length-k;omega) (.cons J (.cons J (.cons J (.cons J (.cons J (.cons J .nil)))))) J;show dv ((ws.set k (a.getD k 0+4294967296-tt)).take (k+1))+dv (b.take (k+1))=dv (a.take (k+1))+4294967296^(k+1)*1;rw[qf (by omega),jl a,jl b,<-htt,gX];exact NY hinv (by omega) (by omega)
def aAt{A B G:Gh}{x y:SV}{ds es:List Nat}{kk:Nat}(hx:cx A x ds)(hy:cx B y es)[GL A G][GL B G](hk:dv ds<2^kk)(hb:ds.length<=1125899906842)(hb2:es.length<=1125899906842):
  Fn prog 363 [x.v,y.v] G (fun v G'=> ∃z:SV,v= .tuple #[z.v, .bool (decide (dv es<=dv ds))]/\fG kk G' z (dv ds-dv es)):=by
 refine Fn.intro func363 J J ntmps363 J ?_;intro C _ _;refine sR<|sa J J<|sa J J<|zE<|bu<|sR<|sm J J<|sm J J<|?_;refine sc (zC J J (JG hx hy (by omega) (by omega)) J ?_);rintro _ G1 _ rfl;refine sy (jf J J) J<|zE<|?_;refine gg J (fun hc=>?_) (fun hc=>?_) -- slot 9
 ·have hlt:dv ds<dv es:=by
   unfold gw at hc;split at hc
   ·assumption
   ·split at hc<;>omega
  refine sR<|sa J J<|sa J J<|zE<|di<|?_;refine zD (.tmp J (.tmp J .nil)) ⟨⟨none,0,0⟩,?_,?_⟩
  ·have: ¬dv es<=dv ds:=by omega
   simp[gH,SV.v,this]
  ·rw[Nat.sub_eq_zero_of_le (by omega)]
   exact⟨by unfold dg;exact .nil _,fV (by omega)⟩
 have hge:dv es<=dv ds:=by
  unfold gw at hc;split at hc
  ·omega
  ·omega
 have htl:=ni ds;have htl2:=ni es;refine zK<|sR<|sm J J<|?_;refine sc (zC J J (jk hx (by omega)) J ?_);rintro _ G2 _ rfl;refine sm J J<|?_;refine sc (zC J J (jk hy (by omega)) J ?_);rintro _ G3 _ rfl;have hl:(trimD es).length<=(trimD ds).length:=by
  rcases jX (trimD ds).length (trimD es).length with h|h
  ·have:=ta hx.ok.trimD (eh.trimD es) h
   rw[jG,jG] at this;omega
  ·exact h
 refine sc (zC J J (Xz (kk:=kk) hx.trim hy.trim hl (by rw[jG,jG];exact hge) (by rw[jG];exact hk) (by omega)) J ?_);rintro _ G4 _ ⟨z,rfl,hz⟩;refine sa J J<|sa J J<|zE<|di<|?_;refine zD (.tmp J (.tmp J .nil)) ⟨z,by simp[gH,hge],?_⟩;rw[jG,jG] at hz;exact hz
structure T8 where
 ws:List Nat
 i:Nat
structure ZU where
 ws:List Nat
 k:Nat
 c:Nat
def X6{x y w c:Nat}(hx:x<4294967296)(hy:y<4294967296)(hw:w<4294967296)(hc:c<4294967296):c+x*y+w<18446744073709551616:=by
 have:x*y<=4294967295*4294967295:=jN (by omega) (by omega);omega
def Al{ws:List Nat}{i j d:Nat}(h:i≠j):(ws.set i d).getD j 0=ws.getD j 0:=by
 rw[aK,aK,List.getElem?_set_ne h]
def Yk{A B G:Gh}{x y:SV}{ds es:List Nat}{kk:Nat}(hx:cx A x ds)(hy:cx B y es)[GL A G][GL B G](hk:dv ds*dv es<2^kk)(hb:ds.length<=562949953421)(hb2:es.length<=562949953421):
  Fn prog 302 [x.v,y.v] G (fun v G'=> ∃z:SV,v=z.v/\fG kk G' z (dv ds*dv es)):=by
 have htl:=ni ds;have htl2:=ni es;have hcall:=fun G1 (_:GL A G1)=>jk (G:=G1) hx (by omega);have hcall2:=fun G1 (_:GL B G1)=>jk (G:=G1) hy (by omega);have hxt:=hx.trim;have hyt:=hy.trim;rw[<-jG ds,<-jG es] at hk⊢;generalize trimD ds=a at*;generalize trimD es=b at*;have hok:=hxt.ok;have hok2:=hyt.ok;refine Fn.intro func302 J J ntmps302 J ?_;intro C _ _;refine sR<|sa J J<|zE<|sR<|sm J J<|?_;refine sc (zC J J (hcall _ inferInstance) J ?_);rintro _ G1 _ rfl;refine sm J J<|?_;refine sc (zC J J (hcall2 _ inferInstance) J ?_);rintro _ G2 _ rfl;refine sa J J<|sa J J<|zE<|sR<|sm J J<|c7 J J<|sm J J<|c7 J J<|sy (d5 J J) J<|?_;refine sc (r5 J J (by omega) (by omega) (by omega) (by rfl) J ?_);intro b3;rw[um,show((a.length:Int)+(b.length:Int)).toNat=a.length+b.length by omega];refine sa J J<|zE<|bu<|sR<|sm J J<|c7 J J<|sm J J<|zE<|d6<|?_;refine l6 (X:=T8) (fun q=>[(23, .int .i64 q.i),(22, .int .i64 a.length),(21, .slice x.a a.length x.c),(1, .slice y.a b.length y.c),(5, .slice (some ⟨b3,0,none⟩) (a.length+b.length) (a.length+b.length))])
  (fun q=>[⟨b3,q.ws.map dI,366,true⟩])
  (fun q _=>q.i<=a.length/\q.ws.length=a.length+b.length/\bm q.ws/\(∀j,q.i+b.length<=j->q.ws.getD j 0=0)/\dv q.ws=dv (a.take q.i)*dv b) (fun q=>a.length-q.i) ⟨List.replicate (a.length+b.length) 0,0⟩
  ⟨bU _,by simp, .replicate _,fun j _=>H7 _ _,by simp[dv,xG]⟩ (.cons J (.cons J (.cons J (.cons J (.cons J .nil))))) J ?_
 rintro ⟨ws,i⟩ Gy _ ⟨hia,hwl,hwo,hz,hinv⟩;simp only[] at hia hwl hwo hz hinv⊢;refine sR<|sy (jf J J) J<|zE<|bu<|?_;refine lO J (fun hc=>?_) (fun hc=>?_) -- slot 24
 ·have hin:i=a.length:=by omega
  refine jm<|eG<|eG<|jx<|sR<|sm J J<|?_;refine pO b3 (.hd ..) (fun G3 _ hgb=>?_);have hD:cx G3 ⟨some ⟨b3,0,none⟩,a.length+b.length,a.length+b.length⟩ ws:= .of_block hwo hgb.h hwl.symm (aN _) (by rw[bZ (by simp)]);have hdv:dv ws=dv a*dv b:=by rw[hinv,hin,bZ (aN _)]
  refine sc (zC J J (jk hD (by omega)) J ?_);rintro _ G4 _ rfl;refine sa J J<|zE<|di<|?_;refine zD (.tmp J .nil) ⟨⟨some ⟨b3,0,none⟩,(trimD ws).length,a.length+b.length⟩,J,?_⟩;have h3:=hD.trim.up (G:=G4);rw[<-hdv] at hk⊢;exact⟨by rw[pI hwo];exact h3,hk⟩
 have hia':i<a.length:=by omega
 have hga:=hok.get i;refine zK<|bu<|d6<|sR<|sm J J<|sy (iB (z:=⟨x.a,a.length,x.c⟩) hxt J J (by omega) (by show(i:Int)<(a.length:Nat);omega)) J<|sy (iv hxt J (by omega)) J<|sa J J<|sa J J<|zE<|bu<|?_;rw[bQ];refine d4<|sa J J<|zE<|bu<|sR<|sm J J<|c7 J J<|sm J J<|zE<|d6<|?_;refine l6 (X:=ZU) (fun q=>[(30, .int .i64 q.k),(29, .int .i64 b.length),(28, .slice y.a b.length y.c),(8, .int .u64 q.c),(7, .int .u32 ((a.getD i 0:Nat):Int)),(5, .slice (some ⟨b3,0,none⟩) (a.length+b.length) (a.length+b.length)),(6, .int .i64 i),(23, .int .i64 i),(22, .int .i64 a.length),(21, .slice x.a a.length x.c),(1, .slice y.a b.length y.c)])
  (fun q=>[⟨b3,q.ws.map dI,366,true⟩])
  (fun q _=>q.k<=b.length/\q.ws.length=a.length+b.length/\bm q.ws/\q.c<4294967296/\(∀j,i+b.length<=j->q.ws.getD j 0=0)/\dv q.ws+4294967296^(i+q.k)*q.c=dv (a.take i)*dv b+4294967296^i*(a.getD i 0*dv (b.take q.k))) (fun q=>b.length-q.k) ⟨ws,0,0⟩
  ⟨bU _,hwl,hwo,Nat.zero_lt_succ _,hz,by simp[dv,hinv]⟩ (.cons J (.cons J (.cons J (.cons J (.cons J (.cons J (.cons J (.cons J (.cons J (.cons J (.cons J .nil))))))))))) J ?_
 clear hz hwl hwo hinv ws;rintro ⟨ws,k,c⟩ Gz _ ⟨hkb,hwl,hwo,hcc,hz,hinv⟩;simp only[] at hkb hwl hwo hcc hz hinv⊢;refine sR<|sy (jf J J) J<|zE<|bu<|?_;refine lO J (fun hc2=>?_) (fun hc2=>?_) -- slot 31
 ·have hkn:k=b.length:=by omega
  have e1:((i:Int)+(b.length:Int)).toNat=i+b.length:=by omega
  refine jm<|eG<|eG<|jx<|d4<|sm J J<|sm J J<|sm J J<|c7 J J<|sy (d5 J J) J<|sm J J<|sy (ki J) J<|?_;refine sy (fA J J (by omega) (by omega)) J<|?_;rw[e1];refine sc (lw (d:=c) J J (by omega) (.hd ..) (by omega) J ?_);refine zE<|d4<|sy (d5 J J) J<|sm J J<|zE<|?_;refine jt ⟨ws.set (i+b.length) c,i+1⟩ ⟨by show i+1<=_;omega,by simp[hwl],hwo.set _ hcc,fun j hj=>?_,?_⟩ (by show a.length-(i+1)<a.length-i;omega) (.cons J (.cons J (.cons J (.cons J (.cons J .nil))))) J
  ·have hj':i+1+b.length<=j:=hj
   show(ws.set (i+b.length) c).getD j 0=0;rw[Al (by omega)];exact hz j (by omega)
  ·show dv (ws.set (i+b.length) c)=dv (a.take (i+1))*dv b
   have h1:=px ws (i+b.length) c (by omega);rw[hz (i+b.length) (aN _),pW,eY] at h1;rw[h1,<-hkn,hinv,hkn,bZ (aN _),jl,cR,cJ]
 have hkb':k<b.length:=by omega
 have hgb:=hok2.get k;have hgw:=hwo.get (i+k);have hm:=X6 hga hgb hgw hcc;have e1:((i:Int)+(k:Int)).toNat=i+k:=by omega
 have e2:((a.getD i 0:Nat):Int)*((b.getD k 0:Nat):Int)=((a.getD i 0*b.getD k 0:Nat):Int):=by rw[jW]
 refine zK<|bu<|d6<|sR<|sm J J<|sy (iB (z:=⟨y.a,b.length,y.c⟩) hyt J J (by omega) (by show(k:Int)<(b.length:Nat);omega)) J<|sy (iv hyt J (by omega)) J<|sa J J<|sa J J<|zE<|bu<|?_;rw[bQ];refine d4<|sm J J<|sm J J<|sy (gz J) J<|sm J J<|sy (gz J) J<|sy (Ig J J (by rw[e2];omega) (by rw[e2];omega)) J<|?_;rw[e2];refine sm J J<|sm J J<|sm J J<|sy (d5 J J) J<|sy (fA J J (by omega) (by omega)) J<|?_;rw[e1];refine sy (qt J (by omega)) J<|sy (gz J) J<|?_;refine sy (qE J J) J<|sy (qE J J) J<|sa J J<|zE<|sR<|sm J J<|sm J J<|sm J J<|?_;rw[show(c:Int)+(((a.getD i 0*b.getD k 0:Nat):Int)+((ws.getD (i+k) 0:Nat):Int))=((c+a.getD i 0*b.getD k 0+ws.getD (i+k) 0:Nat):Int) by omega];generalize hcc2:c+a.getD i 0*b.getD k 0+ws.getD (i+k) 0=cc;rw[hcc2] at hm;refine sy (d5 J J) J<|sm J J<|sy (ki J) J<|sy (fA J J (by omega) (by omega)) J<|?_;rw[e1];refine sc (lw (d:=cc%4294967296) J J (by omega) (.hd ..) (by omega) J ?_);refine zE<|d4<|sm J J<|sy (mn J J (by decide)) J<|sa J J<|zE<|d4<|sy (d5 J J) J<|sm J J<|zE<|?_;rw[Mw];refine jt ⟨ws.set (i+k) (cc%4294967296),k+1,cc/4294967296⟩ ⟨by show k+1<=_;omega,by simp[hwl],hwo.set _ (by omega),by show cc/4294967296<_;omega,fun j hj=>?_,?_⟩ (by show b.length-(k+1)<b.length-k;omega) (.cons J (.cons J (.cons J (.cons J (.cons J (.cons J (.cons J (.cons J (.cons J (.cons J (.cons J .nil))))))))))) J
 ·show(ws.set (i+k) (cc%4294967296)).getD j 0=0
  rw[Al (by omega)];exact hz j hj
 ·show dv (ws.set (i+k) (cc%4294967296))+4294967296^(i+(k+1))*(cc/4294967296)=dv (a.take i)*dv b+4294967296^i*(a.getD i 0*dv (b.take (k+1)))
  have h1:=px ws (i+k) (cc%4294967296) (by omega);rw[<-hcc2] at h1⊢;have h2:=O1 h1 hinv;rw[<-kZ,gX,h2,jl,dV,dV,fT];have:4294967296^i*(a.getD i 0*(4294967296^k*b.getD k 0))=4294967296^i*4294967296^k*(a.getD i 0*b.getD k 0):=by
   rw[lW (a.getD i 0),<-cJ]
  rw[this,kZ]
def IY{P:Program}{t:TypeId}(a b k:Nat)(ha:a<2^k)(h:a+b*2^k<18446744073709551616)(w:World):(binOp .or t (.int .u64 ((b*2^k:Nat):Int)) (.int .u64 (a:Int))).run P w= .ok (.int .u64 ((a+b*2^k:Nat):Int)) w:=by
 have h1:(BitVec.ofInt 64 ((b*2^k:Nat):Int) ||| BitVec.ofInt 64 (a:Int)).toNat=a+b*2^k:=by
  rw[BitVec.toNat_or,BitVec.ofInt_natCast,BitVec.ofInt_natCast,BitVec.toNat_ofNat,BitVec.toNat_ofNat,fW (by omega),fW (by omega)];rw[<-mX,<-mK ha,mX];omega
 have h2:IntKind.u64.wrap ((a+b*2^k:Nat):Int)=((a+b*2^k:Nat):Int):=by rw[nv];omega
 simp only[binOp];show(Op.intBits .or .u64 ((b*2^k:Nat):Int) (a:Int)).run P w=_;unfold Op.intBits;show(pure (Value.int .u64 (IntKind.u64.wrap ((BitVec.ofInt 64 ((b*2^k:Nat):Int) ||| BitVec.ofInt 64 (a:Int)).toNat:Int))):Sem Value).run P w=_;rw[h1,h2,run_pure]
def axY{P:Program}{t:TypeId}(a b k:Nat)(ha:a<2^k)(h:a+b*2^k<4294967296)(w:World):(binOp .or t (.int .u32 (a:Int)) (.int .u32 ((b*2^k:Nat):Int))).run P w= .ok (.int .u32 ((a+b*2^k:Nat):Int)) w:=by
 have h1:(BitVec.ofInt 32 (a:Int) ||| BitVec.ofInt 32 ((b*2^k:Nat):Int)).toNat=a+b*2^k:=by
  rw[BitVec.toNat_or,BitVec.ofInt_natCast,BitVec.ofInt_natCast,BitVec.toNat_ofNat,BitVec.toNat_ofNat,fW (by omega),fW (by omega)];rw[<-mX,Nat.or_comm,<-mK ha,mX];omega
 have h2:IntKind.u32.wrap ((a+b*2^k:Nat):Int)=((a+b*2^k:Nat):Int):=by rw[qh];omega
 simp only[binOp];show(Op.intBits .or .u32 (a:Int) ((b*2^k:Nat):Int)).run P w=_;unfold Op.intBits;show(pure (Value.int .u32 (IntKind.u32.wrap ((BitVec.ofInt 32 (a:Int) ||| BitVec.ofInt 32 ((b*2^k:Nat):Int)).toNat:Int))):Sem Value).run P w=_;rw[h1,h2,run_pure]
def qO(d k:Nat)(hk:k<64)(h:d*2^k<18446744073709551616){q:Int}(hq:q.toNat=k):IntKind.u64.wrap ((d:Int)*2^min q.toNat IntKind.u64.bits)=((d*2^k:Nat):Int):=by
 rw[hq,gV (by show k<=64;omega),nv];have e2:(d:Int)*2^k=((d*2^k:Nat):Int):=by push_cast;rfl
 rw[e2];omega
def th(d k:Nat)(hk:k<64){q:Int}(hq:q.toNat=k):(d:Int).fdiv (2^min q.toNat IntKind.u64.bits)=((d/2^k:Nat):Int):=by
 rw[hq,gV (by show k<=64;omega),iX _ (pR (Int.pow_pos (by decide)))];push_cast;rfl
def Qw(q:Nat)(h:q<4294967296):(q:Int)%4294967296=q:=by omega
structure T1 where
 ws:List Nat
 k:Nat
 r:Nat
def XM{A G:Gh}{x:SV}{a:List Nat}{d kk:Nat}(hx:cx A x a)[GL A G](hd0:0<d)(hd:d<4294967296)(hk:dv a/d<2^kk)(hb:a.length<=1125899906842):
  Fn prog 368 [x.v, .int .u32 (d:Int)] G (fun v G'=> ∃z:SV,v= .tuple #[z.v, .int .u32 ((dv a%d:Nat):Int)]/\fG kk G' z (dv a/d)):=by
 have hlen:=hx.len;refine Fn.intro func368 J J ntmps368 J ?_;intro C _ _;refine sR<|sa J J<|sa J J<|zE<|sR<|sm J J<|c7 J J<|?_;refine sc (r5 J J (by omega) (by omega) (by omega) (by rfl) J ?_);intro b1;rw[um,show(x.n:Int).toNat=a.length by omega];refine sa J J<|zE<|sR<|sa J J<|zE<|bu<|sR<|sm J J<|c7 J J<|sy (jP J J) J<|?_;refine sa J J<|zE<|d6<|?_;refine l6 (X:=T1) (fun q=>[(8, .int .i64 (q.k-1)),(7, .int .u64 q.r),(0, .slice x.a x.n x.c),(6, .slice (some ⟨b1,0,none⟩) a.length a.length),(1, .int .u32 d)])
  (fun q=>[⟨b1,q.ws.map dI,366,true⟩])
  (fun q _=>q.k<=a.length/\q.ws.length=a.length/\bm q.ws/\q.r<d/\dv (a.drop q.k)=d*dv (q.ws.drop q.k)+q.r) (fun q=>q.k) ⟨List.replicate a.length 0,a.length,0⟩
  ⟨aN _,by simp, .replicate _,hd0,by simp[dv]⟩ (.cons (by rw[hlen];rfl) (.cons J (.cons J (.cons J (.cons J .nil))))) J ?_
 rintro ⟨ws,k,r⟩ Gy _ ⟨hka,hwl,hwo,hr,hinv⟩;simp only[] at hka hwl hwo hr hinv⊢;refine bu<|sR<|sm J J<|sy (uZ J J) J<|zE<|?_;refine lO J (fun hc=>?_) (fun hc=>?_) -- slot 17
 ·have hk0:k=0:=by omega
  refine jm<|eG<|eG<|jx<|sR<|sm J J<|?_;refine pO b1 (.hd ..) (fun G1 _ hgb=>?_);have hD:cx G1 ⟨some ⟨b1,0,none⟩,a.length,a.length⟩ ws:= .of_block hwo hgb.h hwl.symm (aN _) (by rw[bZ (by simp)]);subst hk0;simp only[jJ] at hinv;have hdv:dv a/d=dv ws:=by rw[hinv,Nat.mul_add_div hd0,jM hr,eY]
  have hdm:dv a%d=r:=by rw[hinv,Nat.mul_add_mod,fW hr]
  refine sc (zC J J (jk hD (by omega)) J ?_);rintro _ G2 _ rfl;refine sm J J<|sy (ki J) J<|sa J J<|sa J J<|zE<|di<|?_;refine zD (.tmp J (.tmp J .nil)) ⟨⟨some ⟨b1,0,none⟩,(trimD ws).length,a.length⟩,?_,?_⟩
  ·rw[hdm,show(r:Int)%4294967296=r by omega];rfl
  have h3:=hD.trim.up (G:=G2);exact⟨by rw[hdv,pI hwo];exact h3,hk⟩
 have hk1:0<k:=by omega
 have hkt:((k:Int)-1).toNat=k-1:=by omega
 have hga:=hx.ok.get (k-1);have hv:a.getD (k-1) 0+r*2^32<d*4294967296:=by
  have:(r+1)*4294967296<=d*4294967296:=bT _ hr;rw[cR] at this;omega
 have hv2:a.getD (k-1) 0+r*2^32<18446744073709551616:=by omega
 refine zK<|bu<|d6<|sR<|sm J J<|sy (vK J J (by decide)) J<|sm J J<|sm J J<|sy (iB hx J J (by omega) (by omega)) J<|?_;rw[qO r 32 (by decide) (by omega) J];refine sy (iv hx J (by omega)) J<|sy (gz J (by omega) (by rw[hkt];omega)) J<|?_;rw[hkt];refine sy (iC J J (IY (a.getD (k-1) 0) r 32 (by omega) hv2)) J<|?_;generalize hvv:a.getD (k-1) 0+r*2^32=vv at*;have hq:vv/d<4294967296:=sY hv;have hrr:=dX vv hd0;refine sa J J<|zE<|sR<|sm J J<|sm J J<|sm J J<|sm J J<|?_;refine sy (gz J) J<|sy (xm J J (by omega) (by omega) (by omega)) J<|sy (ki J) J<|sy (fA J J (by omega) (by omega)) J<|?_;rw[hkt];have e1:(vv:Int)/(d:Int)%4294967296=((vv/d:Nat):Int):=by
  have e0:(vv:Int)/(d:Int)=((vv/d:Nat):Int):=(pS vv d).symm;rw[e0];exact Qw _ hq
 refine sc (lw (d:=vv/d) J J e1 (.hd ..) (by omega) J ?_);refine zE<|d4<|sm J J<|sm J J<|sy (gz J) J<|sy (xe J J (by omega) (by omega)) J<|sa J J<|zE<|d4<|sm J J<|?_;refine sy (jP J J) J<|sa J J<|zE<|?_;refine jt ⟨ws.set (k-1) (vv/d),k-1,vv%d⟩ ⟨by show k-1<=_;omega,by simp[hwl],hwo.set _ hq,hrr,?_⟩ (by show k-1<k;omega) (.cons (by rw[show((k-1:Nat):Int)=(k:Int)-1 by omega];rfl) (.cons (by rw[oW];rfl) (.cons J (.cons J (.cons J .nil))))) J;show dv (a.drop (k-1))=d*dv ((ws.set (k-1) (vv/d)).drop (k-1))+vv%d;have hk2:k-1+1=k:=by omega
 rw[aM (by omega:k-1<a.length),aM (by simp;omega:k-1<(ws.set (k-1) (vv/d)).length),hk2,List.getElem_set_self,qZ (by omega)];have e3:a[k-1]'(by omega)=a.getD (k-1) 0:=by rw[aK,aX (by omega)];rfl
 simp only[dv,e3,hinv];have h1:=qS vv d;have h2:d*(vv/d+4294967296*dv (ws.drop k))=d*(vv/d)+4294967296*(d*dv (ws.drop k)):=by rw[dV,lW]
 rw[h2,dV];omega
section
variable {P:Program} {C:aD} {n:Nat} {fr:Fr} {own:List ao} {G:Gh} {dst:Option Nat} {t t1 t2 ty':TypeId} {pos:String} {af:Array Edge} {gd:Option (Nat×Bool)} {x y:Operand}
def UY{k:IntKind}{p q:Int}(hx:aw fr x=some (.int k p))(hy:aw fr y=some (.int k q)):
  Yd P C fr own G ⟨dst, .call ⟨.builtin .min, #[x,y], #[t1,t2]⟩,ty',pos,af,gd⟩ (.int k (if q<p then q else p)):=by
 intro a w hf hh;simp only[execOp,resolve,gS,bS,dR,bi hf hx,bi hf hy];have h1:(Builtin.min_ #[t1,t2] ty' #[.int k p, .int k q]).run P w= .ok (.int k (if q<p then q else p)) w:=by
  simp[Builtin.min_,Builtin.min2,run_pure]
 exact cP h1
end
structure OX where
 ws:List Nat
 i:Nat
def Jk{A G:Gh}{x:SV}{ds:List Nat}{k kk:Nat}(hx:cx A x ds)[GL A G](hk32:k<32)(hk:dv ds*2^k<2^kk)(hb:ds.length<=1125899906842):
  Fn prog 389 [x.v, .int .u64 (k:Int)] G (fun v G'=> ∃z:SV,v=z.v/\fG kk G' z (dv ds*2^k)/\z.c<=(trimD ds).length+1):=by
 have htl:=ni ds;have hcall:=fun G1 (_:GL A G1)=>jk (G:=G1) hx (by omega);have hxt:=hx.trim;rw[<-jG ds] at hk⊢;generalize trimD ds=a at*;have hok:=hxt.ok;refine Fn.intro func389 J J ntmps389 J ?_;intro C _ _;refine sR<|sa J J<|zE<|sR<|sm J J<|?_;refine sc (zC J J (hcall _ inferInstance) J ?_);rintro _ G1 _ rfl;refine sm J J<|sy (UY J J) J<|?_;rw[if_neg (by omega: ¬(1048576:Int)<(k:Int))];refine sa J J<|sa J J<|zE<|bu<|sR<|sm J J<|c7 J J<|sy (iD J J) J<|zE<|?_;refine gg J (fun hc=>?_) (fun hc=>?_) -- slot 17
 ·refine sR<|sa J J<|zE<|di<|?_
  have:a=[]:=bL (by omega);subst this;refine zD (.tmp J .nil) ⟨⟨none,0,0⟩,J,?_⟩;have e0:dv []*2^k=0:=by simp[dv]
  rw[e0];exact⟨⟨by unfold dg;exact .nil _,fV (by omega)⟩,bU _⟩
 refine zK<|sR<|sm J J<|sy (xm J J (by omega) (by omega) (by decide)) J<|sy (Oy J) J<|sm J J<|sy (xe J J (by omega) (by decide)) J<|?_;rw[show(k:Int)/32=0 by omega,show(k:Int)%32=k by omega];refine sa J J<|sa J J<|zE<|sR<|sm J J<|c7 J J<|sm J J<|sy (d5 J J) J<|sy (d5 J J) J<|?_;refine sc (r5 J J (by omega) (by omega) (by omega) (by rfl) J ?_);intro b2;rw[um,show((a.length:Int)+0+1).toNat=a.length+1 by omega];refine sa J J<|zE<|bu<|sR<|sm J J<|c7 J J<|sm J J<|zE<|d6<|?_;refine l6 (X:=OX) (fun q=>[(31, .int .i64 q.i),(30, .int .i64 a.length),(29, .slice x.a a.length x.c),(6, .int .u64 k),(7, .slice (some ⟨b2,0,none⟩) (a.length+1) (a.length+1)),(5, .int .i64 0)])
  (fun q=>[⟨b2,q.ws.map dI,366,true⟩])
  (fun q _=>q.i<=a.length/\q.ws.length=a.length+1/\bm q.ws/\(∀j,q.i<j->q.ws.getD j 0=0)/\q.ws.getD q.i 0<2^k/\dv q.ws=dv (a.take q.i)*2^k) (fun q=>a.length-q.i) ⟨List.replicate (a.length+1) 0,0⟩
  ⟨bU _,by simp, .replicate _,fun j _=>H7 _ _,by rw[H7];exact fV (by omega),by simp[dv,xG]⟩ (.cons J (.cons J (.cons J (.cons J (.cons J (.cons J .nil)))))) J ?_
 rintro ⟨ws,i⟩ Gy _ ⟨hia,hwl,hwo,hz,hwi,hinv⟩;simp only[] at hia hwl hwo hz hwi hinv⊢;refine sR<|sy (jf J J) J<|zE<|bu<|?_;refine lO J (fun hc=>?_) (fun hc=>?_) -- slot 32
 ·have hin:i=a.length:=by omega
  refine jm<|eG<|eG<|jx<|sR<|sm J J<|?_;refine pO b2 (.hd ..) (fun G3 _ hgb=>?_);have hD:cx G3 ⟨some ⟨b2,0,none⟩,a.length+1,a.length+1⟩ ws:= .of_block hwo hgb.h hwl.symm (aN _) (by rw[bZ (by simp)]);have hdv:dv a*2^k=dv ws:=by rw[hinv,hin,bZ (aN _)]
  refine sc (zC J J (jk hD (by omega)) J ?_);rintro _ G4 _ rfl;refine sa J J<|zE<|di<|?_;refine zD (.tmp J .nil) ⟨⟨some ⟨b2,0,none⟩,(trimD ws).length,a.length+1⟩,J,?_⟩;have h3:=hD.trim.up (G:=G4);rw[hdv] at hk⊢;exact⟨⟨by rw[pI hwo];exact h3,hk⟩,aN _⟩
 have hia':i<a.length:=by omega
 have hga:=hok.get i;have hp32:(2:Nat)^k<=2^31:=bR (by omega) (by omega);have hp0:0<(2:Nat)^k:=fV (by omega);have hvb:a.getD i 0*2^k<4294967296*2^k:=lZ hga hp0;have hv64:a.getD i 0*2^k<18446744073709551616:=by omega
 refine zK<|bu<|d6<|sR<|sm J J<|sy (iB (z:=⟨x.a,a.length,x.c⟩) hxt J J (by omega) (by show(i:Int)<(a.length:Nat);omega)) J<|sy (iv hxt J (by omega)) J<|sa J J<|sa J J<|zE<|bu<|?_;rw[bQ];refine d4<|sm J J<|sy (gz J) J<|sm J J<|sy (vK J J (by omega)) J<|?_;rw[qO (a.getD i 0) k (by omega) hv64 (bQ k)]
 -- the low digit is a multiple of 2^k
 have hlow:a.getD i 0*2^k%4294967296=a.getD i 0%2^(32-k)*2^k:=by
  have:4294967296=2^(32-k)*2^k:=by rw[<-fT,show 32-k+k=32 by omega]
  rw[this,sZ]
 have hlt:a.getD i 0*2^k%4294967296<4294967296:=dX _ (by decide);have hsum:ws.getD i 0+a.getD i 0%2^(32-k)*2^k<4294967296:=by
  have h1:a.getD i 0%2^(32-k)<2^(32-k):=dX _ (fV (by omega));have h2:(a.getD i 0%2^(32-k)+1)*2^k<=2^(32-k)*2^k:=bT _ h1;rw[<-fT,show 32-k+k=32 by omega,cR] at h2;omega
 refine sa J J<|zE<|sR<|sm J J<|?_;refine sm J J<|sm J J<|sy (d5 J J) J<|sy (fA J J (by omega) (by omega)) J<|?_;rw[show((i:Int)+0).toNat=i by omega];refine sy (qt J (by omega)) J<|sm J J<|sy (ki J) J<|?_;rw[show((a.getD i 0*2^k:Nat):Int)%4294967296=((a.getD i 0%2^(32-k)*2^k:Nat):Int) by rw[<-hlow];rfl];refine sy (iC J J (axY (ws.getD i 0) (a.getD i 0%2^(32-k)) k hwi hsum)) J<|sy (fA J J (by omega) (by omega)) J<|?_;rw[show((i:Int)+0).toNat=i by omega];refine sc (lw (d:=ws.getD i 0+a.getD i 0%2^(32-k)*2^k) J J J (.hd ..) (by omega) J ?_);refine zE<|d4<|sm J J<|sm J J<|sm J J<|sy (d5 J J) J<|sy (d5 J J) J<|sm J J<|sy (mn J J (by decide)) J<|?_;rw[Mw];have hhi:a.getD i 0*2^k/4294967296<2^k:=sY hvb;refine sy (ki J) J<|sy (fA J J (by omega) (by omega)) J<|?_;rw[show((i:Int)+0+1).toNat=i+1 by omega];refine sc (lw (d:=a.getD i 0*2^k/4294967296) J J (by omega) (.hd ..) (by simp;omega) J ?_);refine zE<|d4<|sy (d5 J J) J<|sm J J<|zE<|?_;refine jt ⟨(ws.set i (ws.getD i 0+a.getD i 0%2^(32-k)*2^k)).set (i+1) (a.getD i 0*2^k/4294967296),i+1⟩ ⟨by show i+1<=_;omega,by simp[hwl],(hwo.set _ hsum).set _ (by omega),fun j hj=>?_,?_,?_⟩ (by show a.length-(i+1)<a.length-i;omega) (.cons J (.cons J (.cons J (.cons J (.cons J (.cons J .nil)))))) J
 ·have hj':i+1<j:=hj
  show((ws.set i _).set (i+1) _).getD j 0=0;rw[Al (by omega),Al (by omega)];exact hz j (by omega)
 ·show((ws.set i _).set (i+1) (a.getD i 0*2^k/4294967296)).getD (i+1) 0<2^k
  rw[aK,rR (by simp;omega)];exact hhi
 ·show dv ((ws.set i (ws.getD i 0+a.getD i 0%2^(32-k)*2^k)).set (i+1) (a.getD i 0*2^k/4294967296))=dv (a.take (i+1))*2^k
  have h1:=px (ws.set i (ws.getD i 0+a.getD i 0%2^(32-k)*2^k)) (i+1) (a.getD i 0*2^k/4294967296) (by simp;omega);rw[Al (by omega),hz (i+1) (by omega),pW,eY] at h1;have h2:=px ws i (ws.getD i 0+a.getD i 0%2^(32-k)*2^k) (by omega);rw[dV] at h2;rw[h1,jl,cR,<-hinv,cJ,Gc (4294967296^i) (a.getD i 0*2^k),<-hlow] at*;rw[gX];omega
end Go.Sx
end
section
namespace Go.Sx
def u9(i:Nat):(4294967296:Nat)^(i+1)=4294967296^i*4294967296:=gX ..
def Vg{U p V T S first third:Nat}(hU:U<(first*4294967296+third+1)*p)(h3:third<4294967296)(hV:(T*4294967296+S)*p<=V)(hT:0<T):
  U<(first/T+1)*V:=by
 have h1:first+1<=(first/T+1)*T:=by
  have:=Nat.lt_mul_div_succ first hT
  rw[cX];omega
 calc U<(first*4294967296+third+1)*p:=hU
  _<=((first+1)*4294967296)*p:=bT _ (by omega)
  _<=(((first/T+1)*T)*4294967296)*p:=bT _ (bT _ h1)
  _=(first/T+1)*((T*4294967296)*p):=by rw[cJ (first/T+1),cJ (first/T+1)]
  _<=(first/T+1)*V:=fL _ (cM (bT _ (pL _ _)) hV)
def VS{U p V T S first third v0:Nat}(hU:(first*4294967296+third)*p<=U)(hV:V=(T*4294967296+S)*p+v0)(hv:v0<p)(hlt:U<V*4294967296):first<=T*4294967296+S:=by
 rcases jX (T*4294967296+S) first with h|h
 ·exfalso
  have h1:(T*4294967296+S+1)*p<=first*p:=bT p h
  rw[cR _ 1,mS] at h1;rw[cR,rX] at hU;have:0<=third*p:=bU _;omega
 ·exact h
def YP{U p V T S first third g r:Nat}(hU:U<(first*4294967296+third+1)*p)(hV:(T*4294967296+S)*p<=V)(hg:first=g*T+r)(hc:r*4294967296+third<g*S):U<g*V:=by
 refine dJ hU (cM (bT p (m:=g*(T*4294967296+S)) ?_) ?_)
 ·rw[dV,<-cJ,hg,cR];omega
 ·rw[cJ];exact fL _ hV
def IH{U p V T S first third g r v0:Nat}(hU:(first*4294967296+third)*p<=U)(hV:V=(T*4294967296+S)*p+v0)(hv:v0<p)(hT:0<T)(hg:first=g*T+r)(hgB:g<4294967296)(hc:g*S<=r*4294967296+third):g*V<U+V:=by
 have h1:g*((T*4294967296+S)*p)<=U:=by
  rw[<-cJ];refine cM (bT p ?_) hU;rw[dV,<-cJ,hg,cR];omega
 have h2:g*v0<=4294967295*v0:=bT _ (by omega);have h3:4294967296*p<=V:=by
  rw[hV];refine cM (bT p ?_) (pL _ _);omega
 have h4:g*V=g*((T*4294967296+S)*p)+g*v0:=by rw[<-dV,<-hV]
 omega
def aBY{U V R g:Nat}(h:U<(g+1)*V)(hr:R+g*V=U):R<V:=by
 rw[cR,mS] at h;omega
def Sv{U V R R' g w M:Nat}(h2:g*V<U+V)(hr:R+g*V=U+M)(hb:R'+w*M=R+V)(hR:R<M)(hR':R'<M)(hw:w<=1)(hg:0<g):R'+(g-1)*V=U/\R'<V:=by
 have hgv:g*V=(g-1)*V+V:=by
  conv=>lhs;rw[show g=(g-1)+1 by omega,cR,mS]
 have:w=1:=by
  rcases jX w 1 with h|h
  ·have:w=0:=by omega
   subst this;omega
  ·omega
 subst this;omega
def yi(us:List Nat)(i:Nat):dv (us.drop i)=us.getD i 0+4294967296*dv (us.drop (i+1)):=by
 rcases jX i us.length with h|h
 ·rw[aM h];simp[dv,List.getD,aX h]
 ·rw[gN h,gN (by omega)]
  simp[dv,dW h,List.getD]
def xp(us:List Nat)(i:Nat):dv us=dv (us.take i)+4294967296^i*dv (us.drop i):=by
 rcases jX us.length i with h|h
 ·rw[bZ (by omega),gN (by omega)];simp[dv]
 ·exact AT us i h
def CN{us:List Nat}(h:bm us)(i:Nat):dv (us.take i)<4294967296^i:=by
 refine dJ (ju (h.take i)) (bR (by decide) ?_);simp[cK];omega
def Dy{us:List Nat}{i:Nat}(hd:dv us<4294967296^i):dv (us.drop i)=0:=by
 have h:=xp us i;rcases fX (dv (us.drop i)) with h0|h0
 ·exact h0
 ·have:=fL (4294967296^i) h0
  omega
def UN{W W' U E p u x bo b c c1 g d:Nat}(hs:W'+p*u=W+p*x)(hw:W+E=U+(bo+c)*p)(hc:c1=c+g*d)(hx:x+(c1%4294967296+bo)=u+b*4294967296):
  W'+(E+g*d*p)=U+(b+c1/4294967296)*(p*4294967296):=by
 have h1:=congrArg (p* ·) hx;simp only[dV] at h1;have h2:p*c1=p*(c1%4294967296)+p*(c1/4294967296)*4294967296:=by
  rw[cJ,<-dV,Nat.mod_add_div']
 have h3:p*c1=p*c+p*(g*d):=by rw[hc,dV]
 rw[cR,cX bo,cX c] at hw;rw[cX (g*d),cR,<-cJ b,<-cJ (c1/4294967296),cX b,cX (c1/4294967296)];rw[<-cJ] at h1;omega
def Vx{W W' U E p u x bo b c:Nat}(hs:W'+p*u=W+p*x)(hw:W+E=U+(bo+c)*p)(hx:x+(c+bo)=u+b*4294967296):W'+E=U+b*(p*4294967296):=by
 have h1:=congrArg (p* ·) hx;simp only[dV] at h1;rw[cR,cX bo,cX c] at hw;rw[<-cJ b,cX b];rw[<-cJ] at h1;omega
def aAn{W W' R E p u d c:Nat}(hs:W'+p*u=W+p*((c+(u+d))%4294967296))(hw:W+c*p=R+E):W'+(c+(u+d))/4294967296*(p*4294967296)=R+(E+d*p):=by
 have h2:p*(c+(u+d))=p*((c+(u+d))%4294967296)+p*((c+(u+d))/4294967296)*4294967296:=by
  rw[cJ,<-dV,Nat.mod_add_div']
 rw[dV p c,dV p u] at h2;rw[cX c] at hw;rw[cX d,<-cJ,cX _ p];omega
def VL{W W' R p u c:Nat}(hs:W'+p*u=W+p*((u+c)%4294967296))(hw:W+c*p=R):W'+(u+c)/4294967296*(p*4294967296)=R:=by
 have h2:p*(u+c)=p*((u+c)%4294967296)+p*((u+c)/4294967296)*4294967296:=by
  rw[cJ,<-dV,Nat.mod_add_div']
 rw[dV p u] at h2;rw[cX c] at hw;rw[<-cJ,cX _ p];omega
def Vc{us:List Nat}(h:bm us)(i:Nat)(hd:dv us<4294967296^(i+3)):
  dv us=((us.getD (i+2) 0*4294967296+us.getD (i+1) 0)*4294967296+us.getD i 0)*4294967296^i+dv (us.take i):=by
 have h0:=Dy hd;rw[xp us i,yi us i,yi us (i+1),yi us (i+2),h0,kX,cX];congr 2;omega
def YQ{us:List Nat}(h:bm us)(i:Nat)(hd:dv us<4294967296^(i+2)):
  dv us=(us.getD (i+1) 0*4294967296+us.getD i 0)*4294967296^i+dv (us.take i):=by
 have h0:=Dy hd;rw[xp us i,yi us i,yi us (i+1),h0,kX,cX];congr 2;omega
def B8{us:List Nat}{k i d:Nat}(h:bm us)(hd:d<4294967296)(hk:dv us<4294967296^k)(hi:i<k):dv (us.set i d)<4294967296^k:=by
 rw[xp _ k,List.drop_set,if_pos hi,Dy hk,pW,eY];exact CN (h.set i hd) k
end Go.Sx
end
