import Derived.Test.YtpiknjeceobbfaaGreatDoorMw7
import Derived.Shelf.Small.Bits
import Derived.Shelf.Strconv.Itoa0
import Derived.Shelf.Strconv.Itoa1
import Derived.Shelf.LaysM
import Derived.Shelf.Strconv.Itoa2
import Derived.Shelf.Strconv.Itoa3
import Derived.Shelf.Bits.Mul64
import Derived.Test.YtpiknjeceobbfaaGreatDoorProg
set_option linter.all false
set_option maxHeartbeats 1000000
set_option maxRecDepth 100000
section
namespace Go.Sx
open Go Go.Proofs Tryz
section
variable {GB:Gh} {C:au} {n:Nat} {Q0:Exit->Act->World->Prop} {fr fr':ak} {own own':aw} {cf cf':Cf} {vc:List Prop} {lk:LK} {bk:BM} {dst:Option Nat} {ty:TypeId} {pos:String} {af:Array Edge} {gd:Option (Nat×Bool)}
def vQ(t:TypeId):Prop:= ∀(x:Value) w,(Instr.makeInterface t x).run prog w= .ok (.iface t x) w
def ra(t:TypeId)(u:Value)(m:String)(f:FuncId):Prop:= ∀w,(method (prog.types.size+Made.depth) t u m).run prog w= .ok (f,u) w
def FY{t:TypeId}{x:Operand}{d:DV}{u:Value}(ht:vQ t)(hx:evD lk x=some d)(hd: ∀G y,Is G d y->y=u):bp prog GB C n lk bk ⟨dst, .makeInterface t x,ty,pos,af,gd⟩ (.d (.v (.iface t u))) [] []:=
 bp.yd fun ρ G ov a w r=>by
  obtain⟨y,hy,hy'⟩:=r.evD hx;obtain rfl:=hd G y hy';refine⟨_,(bh (G:=G)).2 J,fun a' w' hf _=>?_⟩;refine cd (f:=Next.value) ?_;rw[aG hf hy];exact ht _ _
def Mc{x:Operand}{m:String}{args:Array Operand}{tys:Array TypeId}{t:TypeId}{u:Value}{f:FuncId}{vs:List Value}{fr:Fr}{a:Act}{w:World}(hf:fH fr a)(hx:aq fr x=some (.iface t u))(hv:gc fr args.toList=some vs)(hm:ra t u m f)(hc:jp prog f):
  (execOp a.eval ⟨dst, .call ⟨.invoke x m,args,tys⟩,ty,pos,af,gd⟩).run prog w= .ok (.enter f ⟨u::vs⟩) w:=by
 have e:args.map a.eval=⟨vs⟩:=by apply Array.ext';simpa using rK hf hv
 simp only[execOp,resolve,aG hf hx,e];show(invoke (.fn (.method m) #[]) (#[.iface t u]++⟨vs⟩)).run prog w=_;simp only[invoke];have h0:(#[Value.iface t u]++(⟨vs⟩:Array Value))[0]? =some (.iface t u):=by simp
 have h1:(#[Value.iface t u]++(⟨vs⟩:Array Value)).extract 1 (#[Value.iface t u]++(⟨vs⟩:Array Value)).size=⟨vs⟩:=by
  apply Array.ext';simp
 rw[h0,h1];show(callMethod (.iface t u) m ⟨vs⟩).run prog w=_;unfold callMethod;show((do
  let p<-program
  let(g,receiver)<-method (p.types.size+Made.depth) t u m
  callFunc g (#[receiver]++⟨vs⟩)):Sem Next).run prog w=_
 rw[aB (a:=prog) (w':=w) J,aB (hm w)];show(callFunc f (#[u]++⟨vs⟩)).run prog w=_;rw[s5 hc];simp
def I9{x:Operand}{m:String}{args:Array Operand}{tys:Array TypeId}{t:TypeId}{u:Value}{f:FuncId}{ds:List DV}{rv:DV}(hx:az lk x=some (.d (.v (.iface t u))))(ha:evDs lk args.toList=some ds)(hm:ra t u m f)(hF:PF GB prog f (.v u::ds) rv):
  bp prog GB C n lk bk ⟨dst, .call ⟨.invoke x m,args,tys⟩,ty,pos,af,gd⟩ (.d rv) [] []:=by
 intro hd tl tb K' s1 s2 hf hk;refine⟨fun ρ G ov a w r Q=>?_⟩;obtain⟨y,hy,hy'⟩:=(r.mono s1 s2).ev hx;rw[(bh (G:=G)).1 hy'] at hy;obtain⟨vs,h3,h4⟩:=(r.mono s1 s2).evDs ha;have hFn:=hF G (u::vs) r.gb (.cons (bh.2 J) h4);have h2:=Mc (dst:=dst) (ty:=ty) (pos:=pos) (af:=af) (gd:=gd) (tys:=tys) (w:=w) (ck a) hy h3 hm hFn.able;simp only[Oper.wp,h2,Oper.upon];refine(hFn.run w r.h.sub).mono ?_;rintro e w' ⟨v,G',rfl,hh,hK⟩;have rl:d4 C n (cj a) ov G a w:=⟨r.h,r.sz,ck a,r.df⟩;have rl2:=(rl.heap (rl.h.called hh)).put v hd;exact hk.run ρ G' ov _ w' ⟨r.gb.trans hh.gle,rl2.h,rl2.sz,rl2.df,(iC rl2).fx (fun k g _ e=>by obtain⟨z,h5,h6⟩:=r.fx k g e;exact⟨z,h5,h6.up hh.gle⟩) hK,
  fun nm B e=>by obtain⟨os,h5,h6⟩:=r.bx nm B e;exact⟨os,h5.up hh.gle,h6⟩,r.dj,r.fxd⟩
def Bn(fr:ak)(cf:Cf):Option (TypeId×DV):=match bt fr cf with
 |some ⟨_, .makeInterface t x,_,_,_,_⟩=>match evD (aH fr cf) x with
  |some d=>some (t,d)
  |none=>none
 |_=>none
def Jp[fu:Fu]{t:TypeId}{d:DV}(u:Value)(ha:Bn fr cf=some (t,d))(ht:vQ t)(hd: ∀G y,Is G d y->y=u)(hgo:b7 tt n fu.n fr own cf (.d (.v (.iface t u))) [] []=⟨vc,fr',own',cf'⟩)(k:aj prog GB C n Q0 fr' own' cf')
  (hv:ah vc:=by first|exact trivial|(simp only[ah];kernel_rfl)|(simp only[ah];omega)):aj prog GB C n Q0 fr own cf:=by
 unfold Bn at ha;split at ha<;>try (cases ha;done)
 rename_i hh;split at ha<;>cases ha;rename_i hx;exact us hh (FY ht hx hd) hgo hv k
def Bg(fr:ak)(cf:Cf):Option (String×TypeId×Value×List DV):=match bt fr cf with
 |some ⟨_, .call ⟨.invoke x m,args,_⟩,_,_,_,_⟩=>match az (aH fr cf) x with
  |some (.d (.v (.iface t u)))=>match evDs (aH fr cf) args.toList with
   |some ds=>some (m,t,u,ds)
   |none=>none
  |_=>none
 |_=>none
def F7[fu:Fu]{m:String}{t:TypeId}{u:Value}{f:FuncId}{ds:List DV}{rv:DV}(ha:Bg fr cf=some (m,t,u,ds))(hm:ra t u m f)(hF:PF GB prog f (.v u::ds) rv)(hgo:b7 tt n fu.n fr own cf (.d rv) [] []=⟨vc,fr',own',cf'⟩)(k:aj prog GB C n Q0 fr' own' cf')
  (hv:ah vc:=by first|exact trivial|(simp only[ah];kernel_rfl)|(simp only[ah];omega)):aj prog GB C n Q0 fr own cf:=by
 unfold Bg at ha;split at ha<;>try (cases ha;done)
 rename_i hh;split at ha<;>try (cases ha;done)
 rename_i hx;split at ha<;>cases ha;rename_i hds;exact us hh (I9 hx hds hm hF) hgo hv k
def PF.arg0{f:FuncId}{d e:DV}{ds:List DV}{rv:DV}(h:PF GB prog f (d::ds) rv)(he: ∀G y,Is G e y->Is G d y):PF GB prog f (e::ds) rv:=fun G vs hg hvs=>by
 obtain⟨y,m,rfl,h1,h2⟩:=bz.1 hvs;exact h G _ hg (.cons (he G y h1) h2)
end
section
variable {GB:Gh} {C:au} {n:Nat} {Q0:Exit->Act->World->Prop} {fr fr':ak} {own own':aw} {cf cf':Cf} {vc:List Prop} {lk:LK} {bk:BM} {dst:Option Nat} {ty:TypeId} {pos:String} {af:Array Edge} {gd:Option (Nat×Bool)}
def pN(lk:LK):List Operand->Option (List Value)
 |[]=>some []
 |x::xs=>match az lk x with
  |some (.d (.v pv))=>match pN lk xs with
   |some l=>some (pv::l)
   |none=>none
  |_=>none
def vz{ρ:NE}{G:Gh}{ov:List ao}{a:Act}{w:World}(r:bg GB C n lk bk ρ G ov a w): ∀{xs:List Operand} {l:List Value},pN lk xs=some l->xs.mapM (aq (cj a))=some l
 |[],l,h=>by cases h;rfl
 |x::xs,l,h=>by
  simp only[pN] at h;split at h<;>try (cases h;done)
  rename_i h1;split at h<;>cases h;rename_i h2;obtain⟨y,h3,h4⟩:=r.ev h1;rw[(bh (G:=G)).1 h4] at h3;rw[kY,h3,vz r h2];rfl
def Dx(fr:ak)(cf:Cf):Option (FuncId×List Value×List Value):=match bt fr cf with
 |some ⟨_, .makeFunc (.func f) ⟨xs⟩ ⟨ys⟩,_,_,_,_⟩=>match pN (aH fr cf) xs,pN (aH fr cf) ys with
  |some a,some b=>some (f,a,b)
  |_,_=>none
 |_=>none
def Ek[fu:Fu]{f:FuncId}{c1 c2:List Value}(h:Dx fr cf=some (f,c1,c2))(hgo:b7 tt n fu.n fr own cf (.d (.v (.func (.func f) ⟨c1⟩ ⟨c2⟩))) [] []=⟨vc,fr',own',cf'⟩)(k:aj prog GB C n Q0 fr' own' cf')
  (hv:ah vc:=by first|exact trivial|(simp only[ah];kernel_rfl)|(simp only[ah];omega)):aj prog GB C n Q0 fr own cf:=by
 unfold Dx at h;split at h<;>try (cases h;done)
 rename_i hh;split at h<;>cases h;rename_i h1 h2;exact us hh (bp.yd (f:= .d (.v (.func (.func f) ⟨c1⟩ ⟨c2⟩))) fun ρ G ov a w r=>⟨_,(bh (G:=G)).2 J,wK (vz r h1) (vz r h2)⟩) hgo hv k
def DE(fr:ak)(cf:Cf):Option (FuncId×DV):=match bt fr cf with
 |some ⟨_, .makeFunc (.func f) ⟨[x]⟩ ⟨[]⟩,_,_,_,_⟩=>match evD (aH fr cf) x with
  |some d=>some (f,d)
  |_=>none
 |_=>none
def oJ[fu:Fu]{f:FuncId}{d:DV}(pv:Value)(h:DE fr cf=some (f,d))(hd: ∀G y,Is G d y->y=pv)(hgo:b7 tt n fu.n fr own cf (.d (.v (.func (.func f) ⟨[pv]⟩ ⟨[]⟩))) [] []=⟨vc,fr',own',cf'⟩)(k:aj prog GB C n Q0 fr' own' cf')
  (hv:ah vc:=by first|exact trivial|(simp only[ah];kernel_rfl)|(simp only[ah];omega)):aj prog GB C n Q0 fr own cf:=by
 unfold DE at h;split at h<;>try (cases h;done)
 rename_i hh;split at h<;>cases h;rename_i hx;exact us hh (bp.yd (f:= .d (.v (.func (.func f) ⟨[pv]⟩ ⟨[]⟩))) fun ρ G ov a w r=>by
  obtain⟨y,hy,hy'⟩:=r.evD hx;obtain rfl:=hd G y hy';exact⟨_,(bh (G:=G)).2 J,wK (l1:=[y]) (l2:=[]) (by simp[hy]) J⟩) hgo hv k
def HG{fo:Operand}{args:Array Operand}{tys:Array TypeId}{f:FuncId}{c1 c2:List Value}{ds1 ds ds2:List DV}{rv:DV}(h1:az lk fo=some (.d (.v (.func (.func f) ⟨c1⟩ ⟨c2⟩))))(h2:evDs lk args.toList=some ds)(hc:IsLs GB ds1 c1)(hc2:IsLs GB ds2 c2)(hF:PF GB prog f (ds1++ds++ds2) rv):
  bp prog GB C n lk bk ⟨dst, .call ⟨.value fo,args,tys⟩,ty,pos,af,gd⟩ (.d rv) [] []:=by
 intro hd tl tb K' s1 s2 hf hk;refine⟨fun ρ G ov a w r Q=>?_⟩;obtain⟨y,hy,hy'⟩:=(r.mono s1 s2).ev h1;rw[(bh (G:=G)).1 hy'] at hy;obtain⟨vs,h3,h4⟩:=(r.mono s1 s2).evDs h2;refine C7 (c1:=c1) (c2:=c2) hy h3 (hF G (c1++vs++c2) r.gb (((hc.up r.gb).app h4).app (hc2.up r.gb))) hd (fun v G' hG hK a' w' rl=>?_) a w Q ⟨r.h,r.sz,ck a,r.df⟩;exact hk.run ρ G' ov a' w' ⟨r.gb.trans hG.le,rl.h,rl.sz,rl.df,(iC rl).fx (fun k g _ e=>by obtain⟨u,h5,h6⟩:=r.fx k g e;exact⟨u,h5,h6.up hG.le⟩) hK,
  fun nm B e=>by obtain⟨os,h5,h6⟩:=r.bx nm B e;exact⟨os,h5.up hG.le,h6⟩,r.dj,r.fxd⟩
def DG(fr:ak)(cf:Cf):Option (FuncId×List Value×List Value×List DV):=match bt fr cf with
 |some ⟨_, .call ⟨.value fo,args,_⟩,_,_,_,_⟩=>match az (aH fr cf) fo,evDs (aH fr cf) args.toList with
  |some (.d (.v (.func (.func f) ⟨c1⟩ ⟨c2⟩))),some ds=>some (f,c1,c2,ds)
  |_,_=>none
 |_=>none
def mw[fu:Fu]{f:FuncId}{c1 c2:List Value}{ds ds1 ds2:List DV}{rv:DV}(ha:DG fr cf=some (f,c1,c2,ds))(hc:IsLs GB ds1 c1)(hc2:IsLs GB ds2 c2)(hF:PF GB prog f (ds1++ds++ds2) rv)(hgo:b7 tt n fu.n fr own cf (.d rv) [] []=⟨vc,fr',own',cf'⟩)(k:aj prog GB C n Q0 fr' own' cf')
  (hv:ah vc:=by first|exact trivial|(simp only[ah];kernel_rfl)|(simp only[ah];omega)):aj prog GB C n Q0 fr own cf:=by
 unfold DG at ha;split at ha<;>try (cases ha;done)
 rename_i hh;split at ha<;>cases ha;rename_i h1 h2;exact us hh (HG h1 h2 hc hc2 hF) hgo hv k
end
section
variable {GB:Gh} {C:au} {n:Nat} {Q0:Exit->Act->World->Prop} {fr fr':ak} {own own':aw} {cf cf':Cf} {vc:List Prop}
def Oe(fr:ak)(cf:Cf):Option (Int×Int):=match bt fr cf with
 |some ⟨_, .binOp .xor _ x y _,_,_,_,_⟩=>match az (aH fr cf) x,az (aH fr cf) y with
  |some (.d (.v (.int .u32 p))),some (.d (.v (.int .u32 q)))=>some (p,q)
  |_,_=>none
 |_=>none
def OF(fr:ak)(cf:Cf):Option (Int×Int):=match bt fr cf with
 |some ⟨_, .binOp .sub _ x y _,_,_,_,_⟩=>match az (aH fr cf) x,az (aH fr cf) y with
  |some (.d (.v (.int .u32 p))),some (.d (.v (.int .u32 q)))=>some (p,q)
  |_,_=>none
 |_=>none
def Qd(fr:ak)(cf:Cf):Option Int:=match bt fr cf with
 |some ⟨_, .unOp .xor _ x,_,_,_,_⟩=>match az (aH fr cf) x with
  |some (.d (.v (.int .u32 p)))=>some p
  |_=>none
 |_=>none
end

def Ln{ds:List Nat}{k:Nat}(hk:k<ds.length)(h:trimD ds=trimD (ds.take (k+1)))(h0:ds.getD k 0=0):trimD ds=trimD (ds.take k):=by
 rw[h,dZ hk];have:ds[k]=0:=by rw[aV,aX hk] at h0;simpa using h0
 rw[this,EC]
def Hb{ds:List Nat}{k:Nat}(hk:k<ds.length)(h:trimD ds=trimD (ds.take (k+1)))(h0:ds.getD k 0≠0):trimD ds=ds.take (k+1):=by
 rw[h,dZ hk];have:ds[k]≠0:=by rw[aV,aX hk] at h0;simpa using h0
 exact tV this
def et{A G:Gh}{x:SV}{ds:List Nat}(hx:bu A x ds)[GL A G](hb:ds.length<=1125899906842624):Fn prog 213 [x.v] G (fun v _=>v= .slice x.a (trimD ds).length x.c):=by
 have hlen:=hx.len;have hcap:=hx.sl.cap;refine Fn.intro func213 J J ntmps213 J ?_;intro C _ _;refine sR<|sa J J<|zE<|bm<|c6<|?_;refine gh (X:=Nat) (fun k=>[(0, .slice x.a k x.c)]) (fun _=>[]) (fun k _=>k<=ds.length/\trimD ds=trimD (ds.take k)) (fun k=>k) ds.length ⟨bZ _,by simp⟩ (hlen▸ .cons J .nil) J ?_;rintro k Gx _ ⟨hk,ht⟩;refine bm<|sR<|sm J J<|bO J J<|sy (nq J J) J<|sm J J<|?_;refine q9 6 J (fun hg=>?_) (fun hg=>?_)
 ·have hk1:k-1<ds.length:=by omega
  have hkt:((k:Int)-1).toNat=k-1:=by omega
  have hk2:k=k-1+1:=by omega
  refine dm J J (ie J) J<|dm J J (ie J) J<|dm J J (my J) J<|dm J J (fe J J) J<|?_;refine dm J J (dP (z:=⟨x.a,k,x.c⟩) (hx.take k hk) J J (by omega) (by show _<(k:Int);omega)) J<|dm J J (dH hx J (by omega)) J<|dm J J (kl J J) J<|sy (qg J J) J<|zE<|?_;rw[hkt];refine f9 J (fun hc=>?_) (fun hc=>?_) -- slot 14
  ·refine eH<|cO<|cO<|e8<|sR<|sm J J<|sa J J<|zE<|c7<|?_
   have hs:=Hb hk1 (hk2▸ht) (fun e=>hc (by rw[e];rfl));refine zD (.tmp J .nil) ?_;rw[hs,<-hk2];simp[d5,hk]
  refine zK<|c6<|cv<|sm J J<|sm J J<|bO J J<|sy (fe J J) J<|sy (pH J J (by omega) (by omega)) J<|?_;refine sa J J<|zE<|?_;exact eG (k-1) ⟨by omega,Ln hk1 (hk2▸ht) (by omega)⟩ (by omega) (.cons (by rw[<-hkt];rfl) .nil) J
 refine ss J J J J<|ss J J J J<|ss J J J J<|ss J J J J<|ss J J J J<|ss J J J J<|?_;refine ss J J J J<|sy (qo J J) J<|zE<|Hr J<|eH<|cO<|cO<|e8<|sR<|sm J J<|sa J J<|zE<|c7<|?_;have hk0:k=0:=by omega
 subst hk0;refine zD (.tmp J .nil) ?_;rw[ht];rfl
def FB{A G:Gh}{x:SV}{ds:List Nat}(hx:bu A x ds)[GL A G](hb:ds.length<=1125899906842624):Fn prog 243 [x.v] G (fun v _=>v= .bool (decide (cG ds))):=by
 have hlen:=hx.len;refine Fn.intro func243 J J ntmps243 J ?_;intro C _ _;refine sR<|sa J J<|zE<|sR<|sm J J<|bO J J<|sy (kl J J) J<|sm J J<|?_;refine q9 6 J (fun hg=>?_) (fun hg=>?_)
 ·refine ss J J J J<|ss J J J J<|ss J J J J<|ss J J J J<|ss J J J J<|ss J J J J<|ss J J J J<|sy (qg J J) J<|sa J J<|?_
  refine zE<|c7<|?_;refine zD (.tmp J .nil) ?_;have:ds=[]:=bK (by omega);subst this;simp[d5,cG]
 have hne:0<ds.length:=by omega
 have hkt:((x.n:Int)-1).toNat=ds.length-1:=by omega
 refine dm J J (ie J) J<|dm J J (ie J) J<|dm J J (my J) J<|dm J J (fe J J) J<|dm J J (dP hx J J (by omega) (by omega)) J<|?_;refine dm J J (dH hx J (by omega)) J<|dm J J (nO J J) J<|sy (qo J J) J<|sa J J<|zE<|c7<|?_;refine zD (.tmp J .nil) ?_;rw[hkt];simp only[d5,Value.bool.injEq,decide_eq_decide,cG,List.getLast?_eq_getElem?,aV,aX (show ds.length-1<ds.length by omega),hZ,ne_eq,Option.some.injEq];exact not_congr (by omega)
def Ky(ds:List Nat): ∀v∈ds.map dI,flat v=true:=fun v hv=>by
 obtain⟨d,_,rfl⟩:=cX.1 hv;rfl
def Be{A G:Gh}{x:SV}{ds:List Nat}(hx:bu A x ds)[GL A G](hb:ds.length<=1125899906842):Fn prog 216 [x.v] G (fun v G'=> ∃z:SV,v=z.v/\bu G' z ds):=by
 have hlen:=hx.len;refine Fn.intro func216 J J ntmps216 J ?_;intro C _ _;refine sR<|sa J J<|zE<|bm<|sR<|sm J J<|sy (BT J J) J<|zE<|?_;refine MJ J (fun hc=>?_) (fun hc=>?_)
 ·refine sR<|sa J J<|zE<|c7<|?_
  refine zD (.tmp J .nil) ⟨⟨none,0,0⟩,J,?_⟩;rcases hx.sl.mem with h|⟨b,off,cs,ha,_⟩
  ·have:ds=[]:=by simpa using h
   subst this;exact .nil _
  ·rw[ha] at hc;cases hc
 refine zK<|sR<|?_;refine sc (xq J ?_);intro b1;refine sm J J<|?_;refine sc (Bc (xs:=[]) (rest:=[]) (ys:=ds.map dI) J J (.hd ..) J J (bZ _) (DB hx) (by simp[hlen]) (Ky ds) (by decide) (by omega) J J ?_);intro b cap rest h1 h2;refine sa J J<|zE<|j0 b (.hd ..) (fun G' _ hgb=>?_);refine c7<|?_;refine zD (.tmp J .nil) ⟨⟨some ⟨b,0,none⟩,x.n,cap⟩,by simp[d5,SV.v],?_⟩;exact .of_block hx.ok hgb.h hlen (by omega) (by simp)
def uN{A G:Gh}{x:SV}{ds:List Nat}{k:Nat}(hx:bu A x ds)[GL A G](hk:dv ds<2^k)(hb:ds.length<=1125899906842):Fn prog 176 [x.v] G (fun v G'=> ∃z:SV,v=z.v/\dt k G' z (dv ds)):=by
 have htl:=ib ds;refine Fn.intro func176 J J ntmps176 J ?_;intro C _ _;refine sR<|sa J J<|zE<|sR<|sm J J<|?_;refine sc (zC J J (et hx (by omega)) J ?_);rintro _ G1 _ rfl;refine sc (zC J J (Be hx.trim (by omega)) J ?_);rintro _ G2 _ ⟨z,rfl,hz⟩;refine sa J J<|zE<|c7<|?_;refine zD (.tmp J .nil) ⟨z,J,?_⟩;exact⟨by rw[jv hx.ok];exact hz,hk⟩
end Go.Sx
end
section
namespace Go.Proofs
open Go.Shelf
def Tryz.lays128_ren:Go.Shelf.Ren:=⟨fun|128=>166|n=>n,fun|51=>206|3=>3|4=>4|46=>199|5=>5|9=>9|n=>n,fun|n=>n⟩
def Tryz.lays125_ren:Go.Shelf.Ren:=⟨fun|125=>115|128=>166|129=>167|n=>n,fun|46=>199|3=>3|51=>206|53=>159|4=>4|5=>5|9=>9|n=>n,fun|n=>n⟩
def Tryz.lays133_ren:Go.Shelf.Ren:=⟨fun|133=>214|128=>166|n=>n,fun|51=>206|3=>3|4=>4|46=>199|5=>5|9=>9|n=>n,fun|n=>n⟩
def Tryz.lays133:Go.Proofs.Lays.n133 Tryz.prog Tryz.lays133_ren:={
 mixed:=by kernel_rfl
 f128:=Tryz.func166.trans (congrArg some (by kernel_rfl))
 f133:=Tryz.func214.trans (congrArg some (by kernel_rfl))
 t3:=Tryz.underlying3
 a3:=Tryz.isAgg3
 z3:=Tryz.sizeOf3
 v3:=Tryz.zeroValue3
 t4:=Tryz.underlying4
 a4:=Tryz.isAgg4
 z4:=Tryz.sizeOf4
 v4:=Tryz.zeroValue4
 t5:=Tryz.underlying5
 a5:=Tryz.isAgg5
 z5:=Tryz.sizeOf5
 v5:=Tryz.zeroValue5
 t9:=Tryz.underlying9
 a9:=Tryz.isAgg9
 z9:=Tryz.sizeOf9
 v9:=Tryz.zeroValue9
 t46:=Tryz.underlying199
 a46:=Tryz.isAgg199
 z46:=Tryz.sizeOf199
 v46:=Tryz.zeroValue199
 t51:=Tryz.underlying206
 a51:=Tryz.isAgg206
 z51:=Tryz.sizeOf206
 v51:=Tryz.zeroValue206}
def Tryz.bits_LeadingZeros32(x:Int)(w:World)(h0:0<=x)(h1:x<=4294967295):
  Calls Tryz.prog 214 #[.int .u32 x] w fun e w'=>e= .returned (.int .i64 (32-(Lib.bitLen x.toNat:Int)))/\w'=w:=Any.bits_LeadingZeros32 Tryz.lays133 x w h0 h1
def Tryz.lays129_ren:Go.Shelf.Ren:=⟨fun|129=>167|n=>n,fun|53=>159|3=>3|4=>4|46=>199|5=>5|9=>9|n=>n,fun|n=>n⟩
def Tryz.lays317_ren:Go.Shelf.Ren:=⟨fun|317=>267|n=>n,fun|3=>3|46=>199|n=>n,fun|n=>n⟩
open Go.Lib in
def Tryz.lays318_ren:Go.Shelf.Ren:=⟨fun|318=>268|n=>n,fun|3=>3|4=>4|n=>n,fun|n=>n⟩
open Go.Lib in
def Tryz.lays283_ren:Go.Shelf.Ren:=⟨fun|283=>254|n=>n,fun|3=>3|9=>9|4=>4|n=>n,fun|n=>n⟩
open Go.Lib in
def Tryz.laysM284_ren:Go.Shelf.Ren:=⟨fun|284=>255|129=>167|317=>267|318=>268|n=>n,fun|53=>159|3=>3|212=>332|0=>0|4=>4|46=>199|5=>5|9=>9|n=>n,fun|17=>5|n=>n⟩
open Go.Lib in
def Tryz.lays285_ren:Go.Shelf.Ren:=⟨fun|285=>256|n=>n,fun|37=>323|53=>159|3=>3|4=>4|51=>206|9=>9|5=>5|0=>0|n=>n,fun|n=>n⟩
open Go.RowKit Go.Sort Go.Lib in
def Tryz.laysM246_ren:Go.Shelf.Ren:=⟨fun|246=>244|283=>254|284=>255|285=>256|286=>257|129=>167|317=>267|318=>268|319=>269|320=>270|337=>274|338=>275|n=>n,fun|2=>2|3=>3|9=>9|4=>4|171=>321|0=>0|53=>159|37=>323|5=>5|173=>324|212=>332|51=>206|20=>20|213=>333|46=>199|232=>338|233=>339|n=>n,fun|17=>5|18=>6|19=>7|n=>n⟩
open Go.RowKit Go.Sort Go.Lib in
def Tryz.lays246_ren:Go.Shelf.Ren:=⟨fun|246=>244|283=>254|284=>255|285=>256|286=>257|129=>167|317=>267|318=>268|319=>269|320=>270|337=>274|338=>275|n=>n,fun|2=>2|3=>3|9=>9|4=>4|171=>321|0=>0|53=>159|37=>323|5=>5|173=>324|212=>332|51=>206|20=>20|213=>333|46=>199|232=>338|233=>339|n=>n,fun|17=>5|18=>6|19=>7|n=>n⟩
open Go.RowKit Go.Sort Go.Lib in
def Tryz.laysM243_ren:Go.Shelf.Ren:=⟨fun|243=>224|246=>244|283=>254|284=>255|285=>256|286=>257|129=>167|317=>267|318=>268|319=>269|320=>270|337=>274|338=>275|n=>n,fun|3=>3|9=>9|2=>2|4=>4|171=>321|0=>0|53=>159|37=>323|5=>5|173=>324|212=>332|51=>206|20=>20|213=>333|46=>199|232=>338|233=>339|n=>n,fun|17=>5|18=>6|19=>7|n=>n⟩
open Go.RowKit Go.Sort Go.Lib in
def Tryz.lays243_ren:Go.Shelf.Ren:=⟨fun|243=>224|246=>244|283=>254|284=>255|285=>256|286=>257|129=>167|317=>267|318=>268|319=>269|320=>270|337=>274|338=>275|n=>n,fun|3=>3|9=>9|2=>2|4=>4|171=>321|0=>0|53=>159|37=>323|5=>5|173=>324|212=>332|51=>206|20=>20|213=>333|46=>199|232=>338|233=>339|n=>n,fun|17=>5|18=>6|19=>7|n=>n⟩
open Go.RowKit Go.Sort Go.Lib in
def Tryz.laysM171_ren:Go.Shelf.Ren:=⟨fun|171=>186|243=>224|246=>244|283=>254|284=>255|285=>256|286=>257|129=>167|317=>267|318=>268|319=>269|320=>270|337=>274|338=>275|n=>n,fun|3=>3|9=>9|2=>2|4=>4|171=>321|0=>0|53=>159|37=>323|5=>5|173=>324|212=>332|51=>206|20=>20|213=>333|46=>199|232=>338|233=>339|n=>n,fun|17=>5|18=>6|19=>7|n=>n⟩
open Go.RowKit Go.Sort Go.Lib in
def Tryz.lays171_ren:Go.Shelf.Ren:=⟨fun|171=>186|243=>224|246=>244|283=>254|284=>255|285=>256|286=>257|129=>167|317=>267|318=>268|319=>269|320=>270|337=>274|338=>275|n=>n,fun|3=>3|9=>9|2=>2|4=>4|171=>321|0=>0|53=>159|37=>323|5=>5|173=>324|212=>332|51=>206|20=>20|213=>333|46=>199|232=>338|233=>339|n=>n,fun|17=>5|18=>6|19=>7|n=>n⟩
open Go.RowKit Go.Sort Go.Lib in
def Tryz.lays264_ren:Go.Shelf.Ren:=⟨fun|264=>250|n=>n,fun|53=>159|46=>199|n=>n,fun|n=>n⟩
def Tryz.lays264:Go.Proofs.Lays.n264 Tryz.prog Tryz.lays264_ren:={
 mixed:=by kernel_rfl
 f264:=Tryz.func250.trans (congrArg some (by kernel_rfl))
 t46:=Tryz.underlying199
 a46:=Tryz.isAgg199
 z46:=Tryz.sizeOf199
 v46:=Tryz.zeroValue199
 t53:=Tryz.underlying159
 a53:=Tryz.isAgg159
 z53:=Tryz.sizeOf159
 v53:=Tryz.zeroValue159}
open Go.RowKit Go.Lib in
def Tryz.bits_Mul64(x y:Nat)(hx:x<18446744073709551616)(hy:y<18446744073709551616)(w:World):
  Calls Tryz.prog 250 #[.int .u64 x, .int .u64 y] w fun e w'=>e= .returned (.tuple #[.int .u64 ((x*y/18446744073709551616:Nat):Int), .int .u64 ((x*y%18446744073709551616:Nat):Int)])/\w'=w:=Any.bits_Mul64 Tryz.lays264 x y hx hy w
end Go.Proofs
end
section
namespace Go.Sx
open Go Go.Proofs Tryz
def bl(x:Nat):Nat:=if x=0 then 0 else Nat.log2 x+1
def r8(x:Nat):x<2^bl x:=by
 unfold bl;split
 ·rename_i h;subst h;decide
 ·exact Nat.lt_log2_self
def jc{x k:Nat}:bl x<=k↔x<2^k:=by
 constructor
 ·intro h;exact cN (r8 x) (bW (by omega) h)
 ·intro h
  unfold bl;split
  ·omega
  ·rename_i h0
   have:=(Nat.log2_lt h0).2 h;omega
def I4{x:Nat}(h:x≠0):bl x=1+bl (x/2):=by
 have h1: ∀k,bl x<=k+1↔bl (x/2)<=k:=fun k=>by
  rw[jc,jc,fX];omega
 have h2:bl x≠0:=fun e=>by
  have:=r8 x;rw[e] at this;simp at this;exact h this
 have h3:=(h1 (bl (x/2))).2 (bZ _);have h4:=(h1 (bl x-1)).1 (by omega);omega
def CW: ∀(f x:Nat),x<2^f->Lib.bitLenAux f x=bl x
 |0,x,h=>by
  have:x=0:=by simpa using h
  subst this;rfl
 |f+1,x,h=>by
  unfold Lib.bitLenAux;split
  ·rename_i h0;subst h0;rfl
  ·rename_i h0
   rw[CW f (x/2) (by rw[fX] at h;omega),I4 h0]
def HR{x:Nat}(h:x<2^64):Lib.bitLen x=bl x:=CW 64 x h
def Kr{x k:Nat}(d:Nat)(h:x<2^k)(hd:d≠0):bl (x+2^k*d)=k+bl d:=by
 have h1: ∀j,bl (x+2^k*d)<=k+j↔bl d<=j:=fun j=>by
  rw[jc,jc,gX];constructor
  ·intro h'
   exact Nat.lt_of_mul_lt_mul_left (a:=2^k) (by omega)
  ·intro h'
   have:2^k*(d+1)<=2^k*2^j:=eK _ h';rw[cZ] at this;omega
 have h2:k<bl (x+2^k*d):=by
  rcases iX k (bl (x+2^k*d)) with h'|h'
  ·exact h'
  ·have:=jc.1 h'
   have h3:2^k*1<=2^k*d:=eK _ (by omega);omega
 have h3:=(h1 (bl d)).2 (bZ _);have h4:=(h1 (bl (x+2^k*d)-k)).1 (by omega);omega
def HO{ds:List Nat}(h:bj ds)(hn:cG ds)(hne:ds≠[]):bl (dv ds)=32*(ds.length-1)+bl (ds.getD (ds.length-1) 0):=by
 rcases mV ds with rfl|⟨l,d,rfl⟩
 ·exact absurd J hne
 ·rw[mW] at*
  have hd:d≠0:=fun e=>by subst e;simp[cG] at hn
  have hl:bj l:=fun x hx=>h x (dV _ hx);have h1:=iv hl;rw[oR];have h2:(4294967296:Nat)^l.length=2^(32*l.length):=by rw[mU]
  rw[h2] at h1⊢;have h3:dv [d]=d:=by simp[dv]
  rw[h3,Kr d h1 hd];have h4:(l++[d]).length-1=l.length:=by simp
  rw[h4,aV,fQ (bZ _)];simp
def AG{P:Program}{f:FuncId}{fn:Func}{c:Code}(h:P.funcs[f]? =some fn)(hb:fn.body=some c)(hn:(fn.name== "runtime.NumGoroutine")=false):jp P f:=⟨fn,h,hn,by rw[hb];rfl⟩
def z6{G:Gh}{x:Nat}(hx:x<4294967296):Fn prog 214 [.int .u32 (x:Int)] G (fun v _=>v= .int .i64 (32-(bl x:Int))):=by
 have h:=Fn.of_calls (G:=G) (AG func214 J J) (fun w=>Tryz.bits_LeadingZeros32 (x:Int) w (by omega) (by omega));rw[bJ,HR (kN hx (by decide))] at h;exact h
def tj{G:Gh}{u:Nat}(hu:u<18446744073709551616):Fn prog 177 [.int .u64 (u:Int)] G (fun v G'=> ∃z:SV,v=z.v/\dt 64 G' z u):=by
 refine Fn.intro func177 J J ntmps177 J ?_;intro C _ _;refine sR<|sa J J<|zE<|sR<|sm J J<|sy (fq J) J<|sm J J<|?_;refine sy (gq J J (by decide)) J<|sy (fq J) J<|?_;refine sc (tu (by rfl) (by rfl) (by rfl) (by rfl) J ?_);intro b1;refine j0 b1 (.hd ..) (fun G1 _ hgb=>?_);have h1:((u:Int)%4294967296)=((u%4294967296:Nat):Int):=by omega
 have h2:((u:Int).fdiv (2^min (32:Int).toNat IntKind.u64.bits)%4294967296)=((u/4294967296:Nat):Int):=by
  have:(2^min (32:Int).toNat IntKind.u64.bits:Int)=4294967296:=by decide
  rw[this,fR _ (by omega)];omega
 have hok:bj [u%4294967296,u/4294967296]:= .cons (by omega) (.cons (by omega) .nil);have hd:bu G1 ⟨some ⟨b1,0,none⟩,2,2⟩ [u%4294967296,u/4294967296]:= .of_block hok hgb.h J (bZ _) (by rw[h1,h2];rfl);have hv:dv [u%4294967296,u/4294967296]=u:=by simp only[dv];omega
 refine sc (zC J J (et hd (by simp)) J ?_);rintro _ G2 _ rfl;refine sa J J<|zE<|c7<|?_;refine zD (.tmp J .nil) ⟨⟨some ⟨b1,0,none⟩,(trimD [u%4294967296,u/4294967296]).length,2⟩,J,?_⟩;have:=hd.trim.up (G:=G2);rw[<-jv hok,hv] at this;exact⟨by rw[<-jv hok,hv];exact this,cN hu (by decide)⟩
def DS{P:Program}{t:TypeId}(a b k:Nat)(ha:a<2^k)(h:a+b*2^k<18446744073709551616)(w:World):(binOp .or t (.int .u64 (a:Int)) (.int .u64 ((b*2^k:Nat):Int))).run P w= .ok (.int .u64 ((a+b*2^k:Nat):Int)) w:=by
 have h1:(BitVec.ofInt 64 (a:Int) ||| BitVec.ofInt 64 ((b*2^k:Nat):Int)).toNat=a+b*2^k:=by
  rw[BitVec.toNat_or,BitVec.ofInt_natCast,BitVec.ofInt_natCast,BitVec.toNat_ofNat,BitVec.toNat_ofNat,eY (by omega),eY (by omega)];rw[<-jU,Nat.or_comm,<-jL ha,jU];omega
 have h2:IntKind.u64.wrap ((a+b*2^k:Nat):Int)=((a+b*2^k:Nat):Int):=by rw[ip];omega
 simp only[binOp];show(Op.intBits .or .u64 (a:Int) ((b*2^k:Nat):Int)).run P w=_;unfold Op.intBits;show(pure (Value.int .u64 (IntKind.u64.wrap ((BitVec.ofInt 64 (a:Int) ||| BitVec.ofInt 64 ((b*2^k:Nat):Int)).toNat:Int))):Sem Value).run P w=_;rw[h1,h2,run_pure]
def wQ{A G:Gh}{x:SV}{ds:List Nat}(hx:bu A x ds)[GL A G](hb:ds.length<=1125899906842624):Fn prog 175 [x.v] G (fun v _=>v= .tuple #[.int .u64 ((if dv ds<18446744073709551616 then dv ds else 0:Nat):Int), .bool (decide (dv ds<18446744073709551616))]):=by
 have htl:=ib ds;have hdv:=fh ds;have hok:=hx.ok.trimD;have hnr:=cG.trimD ds;have hxt:=hx.trim;have hcall:=fun G1 (_:GL A G1)=>et (G:=G1) hx (by omega);generalize trimD ds=es at*;have hlen:=hxt.len;rw[<-hdv];have hbig:(if dv es<18446744073709551616 then dv es else 0)=if es.length<=2 then dv es else 0:=by
  by_cases h2:es.length<=2
  ·have h3:=iv hok
   have h4:(4294967296:Nat)^es.length<=4294967296^2:=bW (by omega) h2;rw[if_pos h2,if_pos (by omega)]
  ·have h3:=nD hnr (fun e=>by subst e;simp at h2)
   have h4:(4294967296:Nat)^2<=4294967296^(es.length-1):=bW (by omega) (by omega);rw[if_neg h2,if_neg (by omega)]
 have hbig2:decide (dv es<18446744073709551616)=decide (es.length<=2):=by
  rw[decide_eq_decide];by_cases h2:es.length<=2
  ·have h3:=iv hok
   have h4:(4294967296:Nat)^es.length<=4294967296^2:=bW (by omega) h2;exact⟨fun _=>h2,fun _=>by omega⟩
  ·have h3:=nD hnr (fun e=>by subst e;simp at h2)
   have h4:(4294967296:Nat)^2<=4294967296^(es.length-1):=bW (by omega) (by omega);exact⟨fun _=>by omega,fun h=>absurd h h2⟩
 rw[hbig,hbig2];refine Fn.intro func175 J J ntmps175 J ?_;intro C _ _;refine sR<|sa J J<|sa J J<|zE<|sR<|sm J J<|?_;refine sc (zC J J (hcall _ inferInstance) J ?_);rintro _ G1 _ rfl;refine sa J J<|zE<|bm<|sR<|sm J J<|bO J J<|sy (nq J J) J<|zE<|?_;refine er J (fun hc=>?_) (fun hc=>?_) -- slot 11
 ·refine sR<|sa J J<|sa J J<|zE<|c7<|?_
  refine zD (.tmp J (.tmp J .nil)) ?_;have: ¬es.length<=2:=by omega
  simp[d5,this]
 have h2:es.length<=2:=by omega
 refine zK<|sR<|sa J J<|zE<|bm<|sR<|sm J J<|bO J J<|sm J J<|zE<|c6<|?_;refine gh (X:=Nat) (fun k=>[(14, .int .i64 k),(13, .int .i64 es.length),(12, .slice x.a es.length x.c),(4, .int .u64 ((dv (es.take k):Nat):Int))]) (fun _=>[]) (fun k _=>k<=es.length) (fun k=>es.length-k) 0 (bS _) (.cons J (.cons J (.cons J (.cons J .nil)))) J ?_;rintro k Gx _ hk;refine sR<|sy (fB J J) J<|zE<|bm<|?_;refine f9 J (fun hc=>?_) (fun hc=>?_) -- slot 15
 ·refine eH<|cO<|cO<|e8<|sR<|sm J J<|sa J J<|sa J J<|zE<|c7<|?_
  refine zD (.tmp J (.tmp J .nil)) ?_;have hk':k=es.length:=by omega
  subst hk';simp[d5,h2]
 have hk':k<es.length:=by omega
 have hdk:=hok.get k;have hdt:=iv (hok.take k);rw[bR,dT (by omega)] at hdt;have hds:=ig es k;have hd2:=iv (hok.take (k+1));rw[bR,dT (by omega)] at hd2;have hp2:(4294967296:Nat)^(k+1)<=4294967296^2:=bW (by omega) (by omega);have hpk:(4294967296:Nat)^k=2^(32*k):=by rw[mU]
 refine zK<|bm<|c6<|sR<|sm J J<|sy (dP (z:=⟨x.a,es.length,x.c⟩) hxt J J (by omega) (by show(k:Int)<(es.length:Nat);omega)) J<|sy (dH hxt J (by omega)) J<|sa J J<|sa J J<|zE<|cv<|?_;refine sm J J<|sm J J<|sy (dC J (by omega) (by rw[bJ];omega)) J<|sm J J<|sy (z7 J J (by omega) (by omega)) J<|?_;have hsh:IntKind.u64.wrap (((es.getD (k:Int).toNat 0:Nat):Int)*2^min ((32:Int)*(k:Int)).toNat IntKind.u64.bits)=((es.getD k 0*2^(32*k):Nat):Int):=by
  have e1:((32:Int)*(k:Int)).toNat=32*k:=by omega
  rw[e1,bJ,dT (by show 32*k<=64;omega),ip];have e2:((es.getD k 0:Nat):Int)*2^(32*k)=((es.getD k 0*2^(32*k):Nat):Int):=by push_cast;rfl
  rw[e2];have e3:es.getD k 0*2^(32*k)<18446744073709551616:=by rw[<-hpk,bY];omega
  omega
 refine sy (nn J J (by omega)) J<|?_;rw[hsh];refine sy (en J J (DS (dv (es.take k)) (es.getD k 0) (32*k) (by rw[<-hpk];exact hdt) (by rw[<-hpk,bY];omega))) J<|sa J J<|zE<|cv<|sy (cP J J) J<|sm J J<|zE<|?_;refine eG (k+1) (by omega) (by omega) (.cons J (.cons J (.cons J (.cons ?_ .nil)))) J;rw[hds,hpk,bY (2^(32*k))];rfl
def KK{A G:Gh}{x:SV}{ds:List Nat}(hx:bu A x ds)[GL A G](hb:ds.length<=1125899906842624):Fn prog 171 [x.v] G (fun v _=>v= .int .i64 ((bl (dv ds):Nat):Int)):=by
 have htl:=ib ds;have hdv:=fh ds;have hok:=hx.ok.trimD;have hnr:=cG.trimD ds;have hxt:=hx.trim;have hcall:=fun G1 (_:GL A G1)=>et (G:=G1) hx (by omega);generalize trimD ds=es at*;have hlen:=hxt.len;rw[<-hdv];refine Fn.intro func171 J J ntmps171 J ?_;intro C _ _;refine sR<|sa J J<|zE<|sR<|sm J J<|?_;refine sc (zC J J (hcall _ inferInstance) J ?_);rintro _ G1 _ rfl;refine sa J J<|zE<|bm<|sR<|sm J J<|bO J J<|sy (kl J J) J<|zE<|?_;refine er J (fun hc=>?_) (fun hc=>?_) -- slot 7
 ·refine sR<|sa J J<|zE<|c7<|?_
  refine zD (.tmp J .nil) ?_;have:es=[]:=bK (by omega);subst this;rfl
 have hne:0<es.length:=by omega
 have hkt:((es.length:Int)-1).toNat=es.length-1:=by omega
 have hg:=hok.get (es.length-1);have hbl:bl (es.getD (es.length-1) 0)<=32:=jc.2 (by omega);refine zK<|sR<|sm J J<|bO J J<|sy (z7 J J (by omega) (by omega)) J<|sm J J<|sm J J<|bO J J<|sy (fe J J) J<|?_;refine sy (dP (z:=⟨x.a,es.length,x.c⟩) hxt J J (by omega) (by show _<((es.length:Nat):Int);omega)) J<|sy (dH hxt J (by omega)) J<|?_;rw[hkt];refine sc (zC J J (z6 hg) J ?_);rintro _ G2 _ rfl;refine sy (fe J J) J<|sa J J<|zE<|c7<|?_;refine zD (.tmp J .nil) ?_;rw[HO hok hnr (fun e=>by subst e;simp at hne)];simp only[d5,Value.int.injEq,true_and];omega
def j9(a b:Nat):Int:=if a<b then-1 else if a=b then 0 else 1
def Br{A B G:Gh}{x y:SV}{ds es:List Nat}(hx:bu A x ds)(hy:bu B y es)[GL A G][GL B G](hb:ds.length<=1125899906842624)(hb2:es.length<=1125899906842624):
  Fn prog 215 [x.v,y.v] G (fun v _=>v= .int .i64 (j9 (dv ds) (dv es))):=by
 have htl:=ib ds;have htl2:=ib es;have hcall:=fun G1 (_:GL A G1)=>et (G:=G1) hx (by omega);have hcall2:=fun G1 (_:GL B G1)=>et (G:=G1) hy (by omega);have hxt:=hx.trim;have hyt:=hy.trim;have hok:=hx.ok.trimD;have hok2:=hy.ok.trimD;have hnr:=cG.trimD ds;have hnr2:=cG.trimD es;rw[<-fh ds,<-fh es];generalize trimD ds=a at*;generalize trimD es=b at*;refine Fn.intro func215 J J ntmps215 J ?_;intro C _ _;refine sR<|sa J J<|zE<|sR<|sm J J<|?_;refine sc (zC J J (hcall _ inferInstance) J ?_);rintro _ G1 _ rfl;refine sm J J<|?_;refine sc (zC J J (hcall2 _ inferInstance) J ?_);rintro _ G2 _ rfl;refine sa J J<|sa J J<|zE<|bm<|sR<|sm J J<|bO J J<|sm J J<|bO J J<|sy (nO J J) J<|zE<|?_;refine er J (fun hc=>?_) (fun hc=>?_) -- slot 14
 ·refine bm<|sR<|sm J J<|bO J J<|sm J J<|bO J J<|sy (fB J J) J<|zE<|?_
  refine er J (fun hc2=>?_) (fun hc2=>?_) -- slot 19
  ·refine sR<|sa J J<|zE<|c7<|?_
   refine zD (.tmp J .nil) ?_;have:=oH hok hnr2 (by omega);simp[d5,j9,this]
  refine zK<|sR<|sa J J<|zE<|c7<|?_;refine zD (.tmp J .nil) ?_;have:=oH hok2 hnr (by omega);have h1: ¬dv a<dv b:=by omega
  have h2: ¬dv a=dv b:=by omega
  simp[d5,j9,h1,h2]
 have hl:a.length=b.length:=by omega
 refine zK<|bm<|sR<|sm J J<|bO J J<|sy (fe J J) J<|sa J J<|zE<|c6<|?_;refine gh (X:=Nat) (fun k=>[(5, .int .i64 (k-1)),(0, .slice x.a a.length x.c),(1, .slice y.a b.length y.c)]) (fun _=>[]) (fun k _=>k<=a.length/\a.drop k=b.drop k) (fun k=>k) a.length ⟨bZ _,by rw[iR,hl,iR]⟩ (.cons J (.cons J (.cons J .nil))) J ?_;rintro k Gx _ ⟨hk,hd⟩;refine bm<|sR<|sm J J<|sy (qc J J) J<|zE<|?_;refine f9 J (fun hc=>?_) (fun hc=>?_) -- slot 24
 ·refine eH<|cO<|cO<|e8<|sR<|sa J J<|zE<|c7<|?_
  refine zD (.tmp J .nil) ?_;have:k=0:=by omega
  subst this;have hab:a=b:=by simpa using hd
  subst hab;simp[d5,j9]
 have hk1:0<k:=by omega
 have hkt:((k:Int)-1).toNat=k-1:=by omega
 have hga:=hok.get (k-1);have hgb:=hok2.get (k-1);have hk2:k-1+1=k:=by omega
 refine zK<|bm<|c6<|c6<|bm<|dr (fun _=>false) [(0,true),(1,true),(2,true),(3,true),(4,true),(5,true),(6,true),(7,true),(8,true),(9,true)] follows (by kernel_rfl)<|?_;refine dM J J J<|dM J J J<|dy J (fun _=>dP (z:=⟨x.a,a.length,x.c⟩) hxt J J (by omega) (by show _<((a.length:Nat):Int);omega)) J J<|dy J (fun _=>dH hxt J (by omega)) J J<|?_;refine dM J J J<|dM J J J<|dy J (fun _=>dP (z:=⟨y.a,b.length,y.c⟩) hyt J J (by omega) (by show _<((b.length:Nat):Int);omega)) J J<|dy J (fun _=>dH hyt J (by omega)) J J<|?_;refine dy J (fun _=>fB J J) J J<|dA J J J<|dn<|?_;refine er J (fun hc2=>?_) (fun hc2=>?_) -- slot 27
 ·refine sR<|sa J J<|zE<|c7<|?_
  refine zD (.tmp J .nil) ?_;rw[hkt] at hc2;have:=Bs hok hok2 (k-1) (by omega) (by omega) hl (by rw[hk2];exact hd) (by omega);simp[d5,j9,this]
 refine bm<|dr (fun _=>false) [(0,true),(1,true),(2,true),(3,true),(4,true),(5,true),(6,true),(7,true),(8,true),(9,true)] follows (by kernel_rfl)<|dM J J J<|?_;refine dM J J J<|dy J (fun _=>dP (z:=⟨x.a,a.length,x.c⟩) hxt J J (by omega) (by show _<((a.length:Nat):Int);omega)) J J<|dy J (fun _=>dH hxt J (by omega)) J J<|dM J J J<|?_;refine dM J J J<|dy J (fun _=>dP (z:=⟨y.a,b.length,y.c⟩) hyt J J (by omega) (by show _<((b.length:Nat):Int);omega)) J J<|dy J (fun _=>dH hyt J (by omega)) J J<|dy J (fun _=>nq J J) J J<|?_;refine dA J J J<|dn<|?_;rw[hkt] at*;refine er J (fun hc3=>?_) (fun hc3=>?_) -- slot 37
 ·refine sR<|sa J J<|zE<|c7<|?_
  refine zD (.tmp J .nil) ?_;have:=Bs hok2 hok (k-1) (by omega) (by omega) hl.symm (by rw[hk2];exact hd.symm) (by omega);have h1: ¬dv a<dv b:=by omega
  have h2: ¬dv a=dv b:=by omega
  simp[d5,j9,h1,h2]
 refine zK<|cv<|sm J J<|sy (fe J J) J<|sa J J<|zE<|?_;refine eG (k-1) ⟨by omega,?_⟩ (by omega) (.cons (by rw[show((k-1:Nat):Int)=(k:Int)-1 by omega];rfl) (.cons J (.cons J .nil))) J;have heq:a.getD (k-1) 0=b.getD (k-1) 0:=by omega
 rw[aV,aV,aX (by omega),aX (by omega)] at heq;rw[bL (by omega:k-1<a.length),bL (by omega:k-1<b.length),hk2,hd];congr 1
def su{ds:List Nat}{k:Nat}(h:ds.length<=k):ds.getD k 0=0:=by
 rw[aV,cL h];rfl
def tH(n k:Nat):(List.replicate n 0).getD k 0=0:=by
 rw[aV];by_cases h:k<n
 ·simp[h]
 ·rw[cL (by simpa using h)];rfl
def GQ{a b c:Nat}(ha:a<4294967296)(hb:b<4294967296)(hc:c<=1):(c+a+b)/4294967296<=1:=by omega
structure KZ where
 ws:List Nat
 k:Nat
 c:Nat
def J9{A B G:Gh}{x y:SV}{ds es:List Nat}{kk:Nat}(hx:bu A x ds)(hy:bu B y es)[GL A G][GL B G](hk:dv ds+dv es<2^kk)(hb:ds.length<=1125899906842)(hb2:es.length<=1125899906842):
  Fn prog 252 [x.v,y.v] G (fun v G'=> ∃z:SV,v=z.v/\dt kk G' z (dv ds+dv es)):=by
 have hlen:=hx.len;have hlen2:=hy.len;refine Fn.intro func252 J J ntmps252 J ?_;intro C _ _;refine sR<|sa J J<|zE<|?_;refine pT ((SV×List Nat)×(SV×List Nat)) (fun q=>[(0, .slice q.1.1.a q.1.1.n q.1.1.c),(1, .slice q.2.1.a q.2.1.n q.2.1.c)]) (fun _=>[])
  (fun q G=>bu G q.1.1 q.1.2/\bu G q.2.1 q.2.2/\dv q.1.2+dv q.2.2=dv ds+dv es/\q.2.2.length<=q.1.2.length/\q.1.2.length<=1125899906842) ?_ ?_
 ·refine sR<|sm J J<|bO J J<|sm J J<|bO J J<|sy (fB J J) J<|zE<|?_
  refine er J (fun hc=>?_) (fun hc=>?_) -- slot 13
  ·refine cv<|sm J J<|sm J J<|sa J J<|sa J J<|zE<|?_
   exact jw ((y,es),(x,ds)) ⟨hy.up,hx.up,by simp;omega,by simp;omega,by simp;omega⟩ (.cons J (.cons J .nil)) J
  refine zK<|?_;exact jw ((x,ds),(y,es)) ⟨hx.up,hy.up,J,by simp;omega,by simp;omega⟩ (.cons J (.cons J .nil)) J
 rintro ⟨⟨x,a⟩,⟨y,b⟩⟩ Gx _ ⟨hx,hy,hsum,hle,hba⟩;rw[<-hsum] at hk⊢;clear hlen hlen2 hsum;have hlen:=hx.len;have hlen2:=hy.len;simp only[] at hx hy hle hba hlen hlen2 hk⊢;refine sR<|sm J J<|bO J J<|sy (cP J J) J<|?_;refine sc (ma J J (by omega) (by omega) (by omega) (by rfl) J ?_);intro b1;rw[lz,show((x.n:Int)+1).toNat=a.length+1 by omega];refine sa J J<|zE<|sR<|sa J J<|zE<|bm<|sR<|sm J J<|bO J J<|sm J J<|zE<|c6<|?_;refine gh (X:=KZ) (fun q=>[(22, .int .i64 q.k),(21, .int .i64 x.n),(20, .slice x.a x.n x.c),(6, .int .u64 q.c),(0, .slice x.a x.n x.c),(1, .slice y.a y.n y.c),(5, .slice (some ⟨b1,0,none⟩) (a.length+1) (a.length+1))])
  (fun q=>[⟨b1,q.ws.map dI,206,true⟩])
  (fun q _=>q.k<=a.length/\q.ws.length=a.length+1/\bj q.ws/\q.c<=1/\dv (q.ws.take q.k)+4294967296^q.k*q.c=dv (a.take q.k)+dv (b.take q.k)) (fun q=>a.length-q.k) ⟨List.replicate (a.length+1) 0,0,0⟩
  ⟨bS _,by simp, .replicate _,bS _,by simp[dv]⟩ (.cons J (.cons J (.cons J (.cons J (.cons J (.cons J (.cons J .nil))))))) J ?_
 rintro ⟨ws,k,c⟩ Gy _ ⟨hka,hwl,hwo,hc1,hinv⟩;simp only[] at hka hwl hwo hc1 hinv⊢;refine sR<|sy (fB J J) J<|zE<|bm<|?_;refine f9 J (fun hc=>?_) (fun hc=>?_) -- slot 23
 ·have hkn:k=a.length:=by omega
  refine eH<|cO<|cO<|e8<|sR<|sm J J<|sm J J<|bO J J<|sm J J<|sy (fq J) J<|?_;refine sy (dF J J (by omega) (by omega)) J<|?_;refine sc (gl (d:=c) J J (by omega) (.hd ..) (by omega) J ?_);rw[show(x.n:Int).toNat=a.length by omega];refine zE<|sR<|sm J J<|?_;refine j0 b1 (.hd ..) (fun G1 _ hgb=>?_);have hwo2:bj (ws.set a.length c):=hwo.set _ (by omega);have hD:bu G1 ⟨some ⟨b1,0,none⟩,a.length+1,a.length+1⟩ (ws.set a.length c):= .of_block hwo2 hgb.h (by simp[hwl]) (bZ _) (by rw[aT (by simp)]);have hdv:dv (ws.set a.length c)=dv a+dv b:=by
   have h1:=qz (ws:=ws) (k:=a.length) (d:=c) (by omega);rw[aT (by simp;omega)] at h1;rw[h1,<-hkn,hinv,hkn,aT (bZ _),aT hle]
  refine sc (zC J J (et hD (by simp;omega)) J ?_);rintro _ G2 _ rfl;refine sa J J<|zE<|c7<|?_;refine zD (.tmp J .nil) ⟨⟨some ⟨b1,0,none⟩,(trimD (ws.set a.length c)).length,a.length+1⟩,J,?_⟩;have h3:=hD.trim.up (G:=G2);rw[<-hdv] at hk⊢;exact⟨by rw[jv hwo2];exact h3,hk⟩
 have hka':k<a.length:=by omega
 have hga:=hx.ok.get k;have hgb:=hy.ok.get k;refine zK<|bm<|c6<|sR<|sm J J<|sy (dP hx J J (by omega) (by omega)) J<|sy (dH hx J (by omega)) J<|sa J J<|sa J J<|zE<|bm<|?_;refine cv<|sm J J<|sm J J<|sy (dC J (by omega) (by rw[bJ];omega)) J<|sy (km J J (by omega) (by rw[bJ];omega)) J<|sa J J<|zE<|?_;rw[bJ];refine pT Unit (fun _=>[(22, .int .i64 k),(7, .int .i64 k),(21, .int .i64 x.n),(20, .slice x.a x.n x.c),(6, .int .u64 ((c+a.getD k 0+b.getD k 0:Nat):Int)),(0, .slice x.a x.n x.c),(1, .slice y.a y.n y.c),(5, .slice (some ⟨b1,0,none⟩) (a.length+1) (a.length+1))]) (fun _=>[⟨b1,ws.map dI,206,true⟩]) (fun _ _=>True) ?_ ?_
 ·refine sR<|sm J J<|sm J J<|bO J J<|sy (fB J J) J<|zE<|?_
  refine er J (fun hc2=>?_) (fun hc2=>?_) -- slot 34
  ·refine cv<|sm J J<|sm J J<|sm J J<|sy (dP hy J J (by omega) (by omega)) J<|sy (dH hy J (by omega)) J<|sy (dC J (by omega) (by rw[bJ];omega)) J<|?_
   rw[bJ];refine sy (km J J) J<|sa J J<|zE<|?_;exact jw () trivial (.cons J (.cons J (.cons J (.cons J (.cons (by rw[mL,mL];rfl) (.cons J (.cons J (.cons J .nil)))))))) J
  refine zK<|?_;have h0:b.getD k 0=0:=su (by omega);exact jw () trivial (.cons J (.cons J (.cons J (.cons J (.cons (by rw[h0,dQ,mL];rfl) (.cons J (.cons J (.cons J .nil)))))))) J
 rintro _ Gz _ _;generalize hcc:c+a.getD k 0+b.getD k 0=cc;have hcb:cc/4294967296<=1:=by rw[<-hcc];exact GQ hga hgb hc1
 refine sR<|sm J J<|sm J J<|sm J J<|sy (fq J) J<|sy (dF J J (by omega) (by omega)) J<|?_;rw[bJ];refine sc (gl (d:=cc%4294967296) J J (by omega) (.hd ..) (by omega) J ?_);refine zE<|cv<|sm J J<|sy (gq J J (by decide)) J<|sa J J<|zE<|cv<|sy (cP J J) J<|sm J J<|zE<|?_;have hsh:((cc:Int).fdiv (2^min (32:Int).toNat IntKind.u64.bits))=((cc/4294967296:Nat):Int):=by
  have:(2^min (32:Int).toNat IntKind.u64.bits:Int)=4294967296:=by decide
  rw[this,fR _ (by omega)];rfl
 rw[hsh];refine eG ⟨ws.set k (cc%4294967296),k+1,cc/4294967296⟩ ⟨by show k+1<=_;omega,by simp[hwl],hwo.set _ (by omega),hcb,?_⟩ (by show a.length-(k+1)<a.length-k;omega) (.cons J (.cons J (.cons J (.cons J (.cons J (.cons J (.cons J .nil))))))) J;show dv ((ws.set k (cc%4294967296)).take (k+1))+4294967296^(k+1)*(cc/4294967296)=dv (a.take (k+1))+dv (b.take (k+1));rw[qz (by omega),ig a,ig b,<-hcc,fX];exact Iv hinv
structure LM where
 ws:List Nat
 k:Nat
 c:Nat
def zi(p:Int)(h0:0<=p):p.fdiv (2^min (63:Int).toNat IntKind.u64.bits)=p/9223372036854775808:=by
 have:(2^min (63:Int).toNat IntKind.u64.bits:Int)=9223372036854775808:=by decide
 rw[this,fR _ (by omega)]
def BA(p:Nat):((p:Int).fdiv (2^min (32:Int).toNat IntKind.u64.bits))=((p/4294967296:Nat):Int):=by
 have:(2^min (32:Int).toNat IntKind.u64.bits:Int)=4294967296:=by decide
 rw[this,fR _ (by omega)];rfl
def Lg{A B G:Gh}{x y:SV}{a b:List Nat}{kk:Nat}(hx:bu A x a)(hy:bu B y b)[GL A G][GL B G](hle:b.length<=a.length)(hge:dv b<=dv a)(hk:dv a<2^kk)(hba:a.length<=1125899906842):
  Fn prog 266 [x.v,y.v] G (fun v G'=> ∃z:SV,v=z.v/\dt kk G' z (dv a-dv b)):=by
 have hlen:=hx.len;have hlen2:=hy.len;refine Fn.intro func266 J J ntmps266 J ?_;intro C _ _;refine sR<|sa J J<|zE<|sR<|sm J J<|bO J J<|?_;refine sc (ma J J (by omega) (by omega) (by omega) (by rfl) J ?_);intro b1;rw[lz,show(x.n:Int).toNat=a.length by omega];refine sa J J<|zE<|sR<|sa J J<|zE<|bm<|sR<|sm J J<|bO J J<|sm J J<|zE<|c6<|?_;refine gh (X:=LM) (fun q=>[(16, .int .i64 q.k),(15, .int .i64 x.n),(14, .slice x.a x.n x.c),(6, .int .u64 q.c),(1, .slice y.a y.n y.c),(5, .slice (some ⟨b1,0,none⟩) a.length a.length)])
  (fun q=>[⟨b1,q.ws.map dI,206,true⟩])
  (fun q _=>q.k<=a.length/\q.ws.length=a.length/\bj q.ws/\q.c<=1/\dv (q.ws.take q.k)+dv (b.take q.k)=dv (a.take q.k)+4294967296^q.k*q.c) (fun q=>a.length-q.k) ⟨List.replicate a.length 0,0,0⟩
  ⟨bS _,by simp, .replicate _,bS _,by simp[dv]⟩ (.cons J (.cons J (.cons J (.cons J (.cons J (.cons J .nil)))))) J ?_
 rintro ⟨ws,k,c⟩ Gy _ ⟨hka,hwl,hwo,hc1,hinv⟩;simp only[] at hka hwl hwo hc1 hinv⊢;refine sR<|sy (fB J J) J<|zE<|bm<|?_;refine f9 J (fun hc=>?_) (fun hc=>?_) -- slot 17
 ·have hkn:k=a.length:=by omega
  refine eH<|cO<|cO<|e8<|sR<|sm J J<|?_;refine j0 b1 (.hd ..) (fun G1 _ hgb=>?_);have hD:bu G1 ⟨some ⟨b1,0,none⟩,a.length,a.length⟩ ws:= .of_block hwo hgb.h hwl.symm (bZ _) (by rw[aT (by simp)]);have hdv:dv ws=dv a-dv b:=by
   rw[hkn,aT (by omega),aT hle,aT (bZ _)] at hinv;have h2:=iv hwo;rw[hwl] at h2;rcases dJ c with h0|h0
   ·subst h0;omega
   ·have:c=1:=by omega
    subst this;omega
  refine sc (zC J J (et hD (by omega)) J ?_);rintro _ G2 _ rfl;refine sa J J<|zE<|c7<|?_;refine zD (.tmp J .nil) ⟨⟨some ⟨b1,0,none⟩,(trimD ws).length,a.length⟩,J,?_⟩;have h3:=hD.trim.up (G:=G2);rw[<-hdv];exact⟨by rw[jv hwo];exact h3,by omega⟩
 have hka':k<a.length:=by omega
 have hga:=hx.ok.get k;have hgb:=hy.ok.get k;refine zK<|bm<|c6<|sR<|sm J J<|sy (dP hx J J (by omega) (by omega)) J<|sy (dH hx J (by omega)) J<|sa J J<|sa J J<|zE<|bm<|?_;rw[bJ];refine cv<|sm J J<|sa J J<|zE<|?_;refine pT Unit (fun _=>[(16, .int .i64 k),(7, .int .i64 k),(15, .int .i64 x.n),(14, .slice x.a x.n x.c),(8, .int .u32 ((a.getD k 0:Nat):Int)),(9, .int .u64 ((c+b.getD k 0:Nat):Int)),(1, .slice y.a y.n y.c),(5, .slice (some ⟨b1,0,none⟩) a.length a.length)]) (fun _=>[⟨b1,ws.map dI,206,true⟩]) (fun _ _=>True) ?_ ?_
 ·refine sR<|sm J J<|sm J J<|bO J J<|sy (fB J J) J<|zE<|?_
  refine er J (fun hc2=>?_) (fun hc2=>?_) -- slot 25
  ·refine cv<|sm J J<|sm J J<|sm J J<|sy (dP hy J J (by omega) (by omega)) J<|sy (dH hy J (by omega)) J<|sy (dC J (by omega) (by rw[bJ];omega)) J<|?_
   rw[bJ];refine sy (km J J) J<|sa J J<|zE<|?_;exact jw () trivial (.cons J (.cons J (.cons J (.cons J (.cons J (.cons (by rw[mL];rfl) (.cons J (.cons J .nil)))))))) J
  refine zK<|?_;have h0:b.getD k 0=0:=su (by omega);exact jw () trivial (.cons J (.cons J (.cons J (.cons J (.cons J (.cons (by rw[h0,dQ];rfl) (.cons J (.cons J .nil)))))))) J
 rintro _ Gz _ _;generalize htt:c+b.getD k 0=tt;have htb:tt<=4294967296:=by omega
 refine sR<|sm J J<|sy (dC J) J<|sm J J<|sy (ow J J) J<|sa J J<|zE<|sR<|sm J J<|sm J J<|sm J J<|?_;rw[ip];refine sy (fq J) J<|sy (dF J J (by omega) (by omega)) J<|?_;rw[bJ];by_cases hno:tt<=a.getD k 0
 ·refine sc (gl (d:=a.getD k 0-tt) J J (by omega) (.hd ..) (by omega) J ?_)
  refine zE<|cv<|sm J J<|sy (gq J J (by decide)) J<|sa J J<|zE<|cv<|sy (cP J J) J<|sm J J<|zE<|?_;rw[zi _ (by omega),show(((a.getD k 0:Nat):Int)-(tt:Int))%18446744073709551616/9223372036854775808=((0:Nat):Int) by omega];refine eG ⟨ws.set k (a.getD k 0-tt),k+1,0⟩ ⟨by show k+1<=_;omega,by simp[hwl],hwo.set _ (by omega),bS _,?_⟩ (by show a.length-(k+1)<a.length-k;omega) (.cons J (.cons J (.cons J (.cons J (.cons J (.cons J .nil)))))) J;show dv ((ws.set k (a.getD k 0-tt)).take (k+1))+dv (b.take (k+1))=dv (a.take (k+1))+4294967296^(k+1)*0;rw[qz (by omega),ig a,ig b,<-htt,fX];exact JZ hinv (by omega)
 ·refine sc (gl (d:=a.getD k 0+4294967296-tt) J J (by omega) (.hd ..) (by omega) J ?_)
  refine zE<|cv<|sm J J<|sy (gq J J (by decide)) J<|sa J J<|zE<|cv<|sy (cP J J) J<|sm J J<|zE<|?_;rw[zi _ (by omega),show(((a.getD k 0:Nat):Int)-(tt:Int))%18446744073709551616/9223372036854775808=((1:Nat):Int) by omega];refine eG ⟨ws.set k (a.getD k 0+4294967296-tt),k+1,1⟩ ⟨by show k+1<=_;omega,by simp[hwl],hwo.set _ (by omega),bZ _,?_⟩ (by show a.length-(k+1)<a.length-k;omega) (.cons J (.cons J (.cons J (.cons J (.cons J (.cons J .nil)))))) J;show dv ((ws.set k (a.getD k 0+4294967296-tt)).take (k+1))+dv (b.take (k+1))=dv (a.take (k+1))+4294967296^(k+1)*1;rw[qz (by omega),ig a,ig b,<-htt,fX];exact L' hinv (by omega) (by omega)
def Mh{A B G:Gh}{x y:SV}{ds es:List Nat}{kk:Nat}(hx:bu A x ds)(hy:bu B y es)[GL A G][GL B G](hk:dv ds<2^kk)(hb:ds.length<=1125899906842)(hb2:es.length<=1125899906842):
  Fn prog 253 [x.v,y.v] G (fun v G'=> ∃z:SV,v= .tuple #[z.v, .bool (decide (dv es<=dv ds))]/\dt kk G' z (dv ds-dv es)):=by
 refine Fn.intro func253 J J ntmps253 J ?_;intro C _ _;refine sR<|sa J J<|sa J J<|zE<|bm<|sR<|sm J J<|sm J J<|?_;refine sc (zC J J (Br hx hy (by omega) (by omega)) J ?_);rintro _ G1 _ rfl;refine sy (fB J J) J<|zE<|?_;refine er J (fun hc=>?_) (fun hc=>?_) -- slot 9
 ·have hlt:dv ds<dv es:=by
   unfold j9 at hc;split at hc
   ·assumption
   ·split at hc<;>omega
  refine sR<|sa J J<|sa J J<|zE<|c7<|?_;refine zD (.tmp J (.tmp J .nil)) ⟨⟨none,0,0⟩,?_,?_⟩
  ·have: ¬dv es<=dv ds:=by omega
   simp[d5,SV.v,this]
  ·rw[Nat.sub_eq_zero_of_le (by omega)]
   exact⟨by unfold dg;exact .nil _,fN (by omega)⟩
 have hge:dv es<=dv ds:=by
  unfold j9 at hc;split at hc
  ·omega
  ·omega
 have htl:=ib ds;have htl2:=ib es;refine zK<|sR<|sm J J<|?_;refine sc (zC J J (et hx (by omega)) J ?_);rintro _ G2 _ rfl;refine sm J J<|?_;refine sc (zC J J (et hy (by omega)) J ?_);rintro _ G3 _ rfl;have hl:(trimD es).length<=(trimD ds).length:=by
  rcases iX (trimD ds).length (trimD es).length with h|h
  ·have:=oH hx.ok.trimD (cG.trimD es) h
   rw[fh,fh] at this;omega
  ·exact h
 refine sc (zC J J (Lg (kk:=kk) hx.trim hy.trim hl (by rw[fh,fh];exact hge) (by rw[fh];exact hk) (by omega)) J ?_);rintro _ G4 _ ⟨z,rfl,hz⟩;refine sa J J<|sa J J<|zE<|c7<|?_;refine zD (.tmp J (.tmp J .nil)) ⟨z,by simp[d5,hge],?_⟩;rw[fh,fh] at hz;exact hz
structure H3 where
 ws:List Nat
 i:Nat
structure Jn where
 ws:List Nat
 k:Nat
 c:Nat
def GY{x y w c:Nat}(hx:x<4294967296)(hy:y<4294967296)(hw:w<4294967296)(hc:c<4294967296):c+x*y+w<18446744073709551616:=by
 have:x*y<=4294967295*4294967295:=kU (by omega) (by omega);omega
def ql{ws:List Nat}{i j d:Nat}(h:i≠j):(ws.set i d).getD j 0=ws.getD j 0:=by
 rw[aV,aV,List.getElem?_set_ne h]
def Kk{A B G:Gh}{x y:SV}{ds es:List Nat}{kk:Nat}(hx:bu A x ds)(hy:bu B y es)[GL A G][GL B G](hk:dv ds*dv es<2^kk)(hb:ds.length<=562949953421)(hb2:es.length<=562949953421):
  Fn prog 238 [x.v,y.v] G (fun v G'=> ∃z:SV,v=z.v/\dt kk G' z (dv ds*dv es)):=by
 have htl:=ib ds;have htl2:=ib es;have hcall:=fun G1 (_:GL A G1)=>et (G:=G1) hx (by omega);have hcall2:=fun G1 (_:GL B G1)=>et (G:=G1) hy (by omega);have hxt:=hx.trim;have hyt:=hy.trim;rw[<-fh ds,<-fh es] at hk⊢;generalize trimD ds=a at*;generalize trimD es=b at*;have hok:=hxt.ok;have hok2:=hyt.ok;refine Fn.intro func238 J J ntmps238 J ?_;intro C _ _;refine sR<|sa J J<|zE<|sR<|sm J J<|?_;refine sc (zC J J (hcall _ inferInstance) J ?_);rintro _ G1 _ rfl;refine sm J J<|?_;refine sc (zC J J (hcall2 _ inferInstance) J ?_);rintro _ G2 _ rfl;refine sa J J<|sa J J<|zE<|sR<|sm J J<|bO J J<|sm J J<|bO J J<|sy (cP J J) J<|?_;refine sc (ma J J (by omega) (by omega) (by omega) (by rfl) J ?_);intro b3;rw[lz,show((a.length:Int)+(b.length:Int)).toNat=a.length+b.length by omega];refine sa J J<|zE<|bm<|sR<|sm J J<|bO J J<|sm J J<|zE<|c6<|?_;refine gh (X:=H3) (fun q=>[(23, .int .i64 q.i),(22, .int .i64 a.length),(21, .slice x.a a.length x.c),(1, .slice y.a b.length y.c),(5, .slice (some ⟨b3,0,none⟩) (a.length+b.length) (a.length+b.length))])
  (fun q=>[⟨b3,q.ws.map dI,206,true⟩])
  (fun q _=>q.i<=a.length/\q.ws.length=a.length+b.length/\bj q.ws/\(∀j,q.i+b.length<=j->q.ws.getD j 0=0)/\dv q.ws=dv (a.take q.i)*dv b) (fun q=>a.length-q.i) ⟨List.replicate (a.length+b.length) 0,0⟩
  ⟨bS _,by simp, .replicate _,fun j _=>tH _ _,by simp[dv,ry]⟩ (.cons J (.cons J (.cons J (.cons J (.cons J .nil))))) J ?_
 rintro ⟨ws,i⟩ Gy _ ⟨hia,hwl,hwo,hz,hinv⟩;simp only[] at hia hwl hwo hz hinv⊢;refine sR<|sy (fB J J) J<|zE<|bm<|?_;refine f9 J (fun hc=>?_) (fun hc=>?_) -- slot 24
 ·have hin:i=a.length:=by omega
  refine eH<|cO<|cO<|e8<|sR<|sm J J<|?_;refine j0 b3 (.hd ..) (fun G3 _ hgb=>?_);have hD:bu G3 ⟨some ⟨b3,0,none⟩,a.length+b.length,a.length+b.length⟩ ws:= .of_block hwo hgb.h hwl.symm (bZ _) (by rw[aT (by simp)]);have hdv:dv ws=dv a*dv b:=by rw[hinv,hin,aT (bZ _)]
  refine sc (zC J J (et hD (by omega)) J ?_);rintro _ G4 _ rfl;refine sa J J<|zE<|c7<|?_;refine zD (.tmp J .nil) ⟨⟨some ⟨b3,0,none⟩,(trimD ws).length,a.length+b.length⟩,J,?_⟩;have h3:=hD.trim.up (G:=G4);rw[<-hdv] at hk⊢;exact⟨by rw[jv hwo];exact h3,hk⟩
 have hia':i<a.length:=by omega
 have hga:=hok.get i;refine zK<|bm<|c6<|sR<|sm J J<|sy (dP (z:=⟨x.a,a.length,x.c⟩) hxt J J (by omega) (by show(i:Int)<(a.length:Nat);omega)) J<|sy (dH hxt J (by omega)) J<|sa J J<|sa J J<|zE<|bm<|?_;rw[bJ];refine cv<|sa J J<|zE<|bm<|sR<|sm J J<|bO J J<|sm J J<|zE<|c6<|?_;refine gh (X:=Jn) (fun q=>[(30, .int .i64 q.k),(29, .int .i64 b.length),(28, .slice y.a b.length y.c),(8, .int .u64 q.c),(7, .int .u32 ((a.getD i 0:Nat):Int)),(5, .slice (some ⟨b3,0,none⟩) (a.length+b.length) (a.length+b.length)),(6, .int .i64 i),(23, .int .i64 i),(22, .int .i64 a.length),(21, .slice x.a a.length x.c),(1, .slice y.a b.length y.c)])
  (fun q=>[⟨b3,q.ws.map dI,206,true⟩])
  (fun q _=>q.k<=b.length/\q.ws.length=a.length+b.length/\bj q.ws/\q.c<4294967296/\(∀j,i+b.length<=j->q.ws.getD j 0=0)/\dv q.ws+4294967296^(i+q.k)*q.c=dv (a.take i)*dv b+4294967296^i*(a.getD i 0*dv (b.take q.k))) (fun q=>b.length-q.k) ⟨ws,0,0⟩
  ⟨bS _,hwl,hwo,Nat.zero_lt_succ _,hz,by simp[dv,hinv]⟩ (.cons J (.cons J (.cons J (.cons J (.cons J (.cons J (.cons J (.cons J (.cons J (.cons J (.cons J .nil))))))))))) J ?_
 clear hz hwl hwo hinv ws;rintro ⟨ws,k,c⟩ Gz _ ⟨hkb,hwl,hwo,hcc,hz,hinv⟩;simp only[] at hkb hwl hwo hcc hz hinv⊢;refine sR<|sy (fB J J) J<|zE<|bm<|?_;refine f9 J (fun hc2=>?_) (fun hc2=>?_) -- slot 31
 ·have hkn:k=b.length:=by omega
  have e1:((i:Int)+(b.length:Int)).toNat=i+b.length:=by omega
  refine eH<|cO<|cO<|e8<|cv<|sm J J<|sm J J<|sm J J<|bO J J<|sy (cP J J) J<|sm J J<|sy (fq J) J<|?_;refine sy (dF J J (by omega) (by omega)) J<|?_;rw[e1];refine sc (gl (d:=c) J J (by omega) (.hd ..) (by omega) J ?_);refine zE<|cv<|sy (cP J J) J<|sm J J<|zE<|?_;refine eG ⟨ws.set (i+b.length) c,i+1⟩ ⟨by show i+1<=_;omega,by simp[hwl],hwo.set _ hcc,fun j hj=>?_,?_⟩ (by show a.length-(i+1)<a.length-i;omega) (.cons J (.cons J (.cons J (.cons J (.cons J .nil))))) J
  ·have hj':i+1+b.length<=j:=hj
   show(ws.set (i+b.length) c).getD j 0=0;rw[ql (by omega)];exact hz j (by omega)
  ·show dv (ws.set (i+b.length) c)=dv (a.take (i+1))*dv b
   have h1:=kw ws (i+b.length) c (by omega);rw[hz (i+b.length) (bZ _),Nat.mul_zero,dQ] at h1;rw[h1,<-hkn,hinv,hkn,aT (bZ _),ig,cJ,bV]
 have hkb':k<b.length:=by omega
 have hgb:=hok2.get k;have hgw:=hwo.get (i+k);have hm:=GY hga hgb hgw hcc;have e1:((i:Int)+(k:Int)).toNat=i+k:=by omega
 have e2:((a.getD i 0:Nat):Int)*((b.getD k 0:Nat):Int)=((a.getD i 0*b.getD k 0:Nat):Int):=by rw[kQ]
 refine zK<|bm<|c6<|sR<|sm J J<|sy (dP (z:=⟨y.a,b.length,y.c⟩) hyt J J (by omega) (by show(k:Int)<(b.length:Nat);omega)) J<|sy (dH hyt J (by omega)) J<|sa J J<|sa J J<|zE<|bm<|?_;rw[bJ];refine cv<|sm J J<|sm J J<|sy (dC J) J<|sm J J<|sy (dC J) J<|sy (vg J J (by rw[e2];omega) (by rw[e2];omega)) J<|?_;rw[e2];refine sm J J<|sm J J<|sm J J<|sy (cP J J) J<|sy (dF J J (by omega) (by omega)) J<|?_;rw[e1];refine sy (jG J (by omega)) J<|sy (dC J) J<|?_;refine sy (km J J) J<|sy (km J J) J<|sa J J<|zE<|sR<|sm J J<|sm J J<|sm J J<|?_;rw[show(c:Int)+(((a.getD i 0*b.getD k 0:Nat):Int)+((ws.getD (i+k) 0:Nat):Int))=((c+a.getD i 0*b.getD k 0+ws.getD (i+k) 0:Nat):Int) by omega];generalize hcc2:c+a.getD i 0*b.getD k 0+ws.getD (i+k) 0=cc;rw[hcc2] at hm;refine sy (cP J J) J<|sm J J<|sy (fq J) J<|sy (dF J J (by omega) (by omega)) J<|?_;rw[e1];refine sc (gl (d:=cc%4294967296) J J (by omega) (.hd ..) (by omega) J ?_);refine zE<|cv<|sm J J<|sy (gq J J (by decide)) J<|sa J J<|zE<|cv<|sy (cP J J) J<|sm J J<|zE<|?_;rw[BA];refine eG ⟨ws.set (i+k) (cc%4294967296),k+1,cc/4294967296⟩ ⟨by show k+1<=_;omega,by simp[hwl],hwo.set _ (by omega),by show cc/4294967296<_;omega,fun j hj=>?_,?_⟩ (by show b.length-(k+1)<b.length-k;omega) (.cons J (.cons J (.cons J (.cons J (.cons J (.cons J (.cons J (.cons J (.cons J (.cons J (.cons J .nil))))))))))) J
 ·show(ws.set (i+k) (cc%4294967296)).getD j 0=0
  rw[ql (by omega)];exact hz j hj
 ·show dv (ws.set (i+k) (cc%4294967296))+4294967296^(i+(k+1))*(cc/4294967296)=dv (a.take i)*dv b+4294967296^i*(a.getD i 0*dv (b.take (k+1)))
  have h1:=kw ws (i+k) (cc%4294967296) (by omega);rw[<-hcc2] at h1⊢;have h2:=If h1 hinv;rw[<-kZ,fX,h2,ig,cZ,cZ,gX];have:4294967296^i*(a.getD i 0*(4294967296^k*b.getD k 0))=4294967296^i*4294967296^k*(a.getD i 0*b.getD k 0):=by
   rw[Nat.mul_left_comm (a.getD i 0),<-bV]
  rw[this,kZ]
def tD{P:Program}{t:TypeId}(a b k:Nat)(ha:a<2^k)(h:a+b*2^k<18446744073709551616)(w:World):(binOp .or t (.int .u64 ((b*2^k:Nat):Int)) (.int .u64 (a:Int))).run P w= .ok (.int .u64 ((a+b*2^k:Nat):Int)) w:=by
 have h1:(BitVec.ofInt 64 ((b*2^k:Nat):Int) ||| BitVec.ofInt 64 (a:Int)).toNat=a+b*2^k:=by
  rw[BitVec.toNat_or,BitVec.ofInt_natCast,BitVec.ofInt_natCast,BitVec.toNat_ofNat,BitVec.toNat_ofNat,eY (by omega),eY (by omega)];rw[<-jU,<-jL ha,jU];omega
 have h2:IntKind.u64.wrap ((a+b*2^k:Nat):Int)=((a+b*2^k:Nat):Int):=by rw[ip];omega
 simp only[binOp];show(Op.intBits .or .u64 ((b*2^k:Nat):Int) (a:Int)).run P w=_;unfold Op.intBits;show(pure (Value.int .u64 (IntKind.u64.wrap ((BitVec.ofInt 64 ((b*2^k:Nat):Int) ||| BitVec.ofInt 64 (a:Int)).toNat:Int))):Sem Value).run P w=_;rw[h1,h2,run_pure]
def HL{P:Program}{t:TypeId}(a b k:Nat)(ha:a<2^k)(h:a+b*2^k<4294967296)(w:World):(binOp .or t (.int .u32 (a:Int)) (.int .u32 ((b*2^k:Nat):Int))).run P w= .ok (.int .u32 ((a+b*2^k:Nat):Int)) w:=by
 have h1:(BitVec.ofInt 32 (a:Int) ||| BitVec.ofInt 32 ((b*2^k:Nat):Int)).toNat=a+b*2^k:=by
  rw[BitVec.toNat_or,BitVec.ofInt_natCast,BitVec.ofInt_natCast,BitVec.toNat_ofNat,BitVec.toNat_ofNat,eY (by omega),eY (by omega)];rw[<-jU,Nat.or_comm,<-jL ha,jU];omega
 have h2:IntKind.u32.wrap ((a+b*2^k:Nat):Int)=((a+b*2^k:Nat):Int):=by rw[s8];omega
 simp only[binOp];show(Op.intBits .or .u32 (a:Int) ((b*2^k:Nat):Int)).run P w=_;unfold Op.intBits;show(pure (Value.int .u32 (IntKind.u32.wrap ((BitVec.ofInt 32 (a:Int) ||| BitVec.ofInt 32 ((b*2^k:Nat):Int)).toNat:Int))):Sem Value).run P w=_;rw[h1,h2,run_pure]
def pY(d k:Nat)(hk:k<64)(h:d*2^k<18446744073709551616){q:Int}(hq:q.toNat=k):IntKind.u64.wrap ((d:Int)*2^min q.toNat IntKind.u64.bits)=((d*2^k:Nat):Int):=by
 rw[hq,dT (by show k<=64;omega),ip];have e2:(d:Int)*2^k=((d*2^k:Nat):Int):=by push_cast;rfl
 rw[e2];omega
def lP(d k:Nat)(hk:k<64){q:Int}(hq:q.toNat=k):(d:Int).fdiv (2^min q.toNat IntKind.u64.bits)=((d/2^k:Nat):Int):=by
 rw[hq,dT (by show k<=64;omega),fR _ (lQ (Int.pow_pos (by decide)))];push_cast;rfl
def zo(q:Nat)(h:q<4294967296):(q:Int)%4294967296=q:=by omega
structure IN where
 ws:List Nat
 k:Nat
 r:Nat
def IK{A G:Gh}{x:SV}{a:List Nat}{d kk:Nat}(hx:bu A x a)[GL A G](hd0:0<d)(hd:d<4294967296)(hk:dv a/d<2^kk)(hb:a.length<=1125899906842):
  Fn prog 217 [x.v, .int .u32 (d:Int)] G (fun v G'=> ∃z:SV,v= .tuple #[z.v, .int .u32 ((dv a%d:Nat):Int)]/\dt kk G' z (dv a/d)):=by
 have hlen:=hx.len;refine Fn.intro func217 J J ntmps217 J ?_;intro C _ _;refine sR<|sa J J<|sa J J<|zE<|sR<|sm J J<|bO J J<|?_;refine sc (ma J J (by omega) (by omega) (by omega) (by rfl) J ?_);intro b1;rw[lz,show(x.n:Int).toNat=a.length by omega];refine sa J J<|zE<|sR<|sa J J<|zE<|bm<|sR<|sm J J<|bO J J<|sy (fe J J) J<|?_;refine sa J J<|zE<|c6<|?_;refine gh (X:=IN) (fun q=>[(8, .int .i64 (q.k-1)),(7, .int .u64 q.r),(0, .slice x.a x.n x.c),(6, .slice (some ⟨b1,0,none⟩) a.length a.length),(1, .int .u32 d)])
  (fun q=>[⟨b1,q.ws.map dI,206,true⟩])
  (fun q _=>q.k<=a.length/\q.ws.length=a.length/\bj q.ws/\q.r<d/\dv (a.drop q.k)=d*dv (q.ws.drop q.k)+q.r) (fun q=>q.k) ⟨List.replicate a.length 0,a.length,0⟩
  ⟨bZ _,by simp, .replicate _,hd0,by simp[dv]⟩ (.cons (by rw[hlen];rfl) (.cons J (.cons J (.cons J (.cons J .nil))))) J ?_
 rintro ⟨ws,k,r⟩ Gy _ ⟨hka,hwl,hwo,hr,hinv⟩;simp only[] at hka hwl hwo hr hinv⊢;refine bm<|sR<|sm J J<|sy (qc J J) J<|zE<|?_;refine f9 J (fun hc=>?_) (fun hc=>?_) -- slot 17
 ·have hk0:k=0:=by omega
  refine eH<|cO<|cO<|e8<|sR<|sm J J<|?_;refine j0 b1 (.hd ..) (fun G1 _ hgb=>?_);have hD:bu G1 ⟨some ⟨b1,0,none⟩,a.length,a.length⟩ ws:= .of_block hwo hgb.h hwl.symm (bZ _) (by rw[aT (by simp)]);subst hk0;simp only[mX] at hinv;have hdv:dv a/d=dv ws:=by rw[hinv,Nat.mul_add_div hd0,lZ hr,dQ]
  have hdm:dv a%d=r:=by rw[hinv,Nat.mul_add_mod,eY hr]
  refine sc (zC J J (et hD (by omega)) J ?_);rintro _ G2 _ rfl;refine sm J J<|sy (fq J) J<|sa J J<|sa J J<|zE<|c7<|?_;refine zD (.tmp J (.tmp J .nil)) ⟨⟨some ⟨b1,0,none⟩,(trimD ws).length,a.length⟩,?_,?_⟩
  ·rw[hdm,show(r:Int)%4294967296=r by omega];rfl
  have h3:=hD.trim.up (G:=G2);exact⟨by rw[hdv,jv hwo];exact h3,hk⟩
 have hk1:0<k:=by omega
 have hkt:((k:Int)-1).toNat=k-1:=by omega
 have hga:=hx.ok.get (k-1);have hv:a.getD (k-1) 0+r*2^32<d*4294967296:=by
  have:(r+1)*4294967296<=d*4294967296:=aM _ hr;rw[cJ] at this;omega
 have hv2:a.getD (k-1) 0+r*2^32<18446744073709551616:=by omega
 refine zK<|bm<|c6<|sR<|sm J J<|sy (nn J J (by decide)) J<|sm J J<|sm J J<|sy (dP hx J J (by omega) (by omega)) J<|?_;rw[pY r 32 (by decide) (by omega) J];refine sy (dH hx J (by omega)) J<|sy (dC J (by omega) (by rw[hkt];omega)) J<|?_;rw[hkt];refine sy (en J J (tD (a.getD (k-1) 0) r 32 (by omega) hv2)) J<|?_;generalize hvv:a.getD (k-1) 0+r*2^32=vv at*;have hq:vv/d<4294967296:=mR hv;have hrr:=cM vv hd0;refine sa J J<|zE<|sR<|sm J J<|sm J J<|sm J J<|sm J J<|?_;refine sy (dC J) J<|sy (oo J J (by omega) (by omega) (by omega)) J<|sy (fq J) J<|sy (dF J J (by omega) (by omega)) J<|?_;rw[hkt];have e1:(vv:Int)/(d:Int)%4294967296=((vv/d:Nat):Int):=by
  have e0:(vv:Int)/(d:Int)=((vv/d:Nat):Int):=(Int.natCast_ediv vv d).symm;rw[e0];exact zo _ hq
 refine sc (gl (d:=vv/d) J J e1 (.hd ..) (by omega) J ?_);refine zE<|cv<|sm J J<|sm J J<|sy (dC J) J<|sy (oC J J (by omega) (by omega)) J<|sa J J<|zE<|cv<|sm J J<|?_;refine sy (fe J J) J<|sa J J<|zE<|?_;refine eG ⟨ws.set (k-1) (vv/d),k-1,vv%d⟩ ⟨by show k-1<=_;omega,by simp[hwl],hwo.set _ hq,hrr,?_⟩ (by show k-1<k;omega) (.cons (by rw[show((k-1:Nat):Int)=(k:Int)-1 by omega];rfl) (.cons (by rw[lX];rfl) (.cons J (.cons J (.cons J .nil))))) J;show dv (a.drop (k-1))=d*dv ((ws.set (k-1) (vv/d)).drop (k-1))+vv%d;have hk2:k-1+1=k:=by omega
 rw[bL (by omega:k-1<a.length),bL (by simp;omega:k-1<(ws.set (k-1) (vv/d)).length),hk2,List.getElem_set_self,nQ (by omega)];have e3:a[k-1]'(by omega)=a.getD (k-1) 0:=by rw[aV,aX (by omega)];rfl
 simp only[dv,e3,hinv];have h1:=Nat.div_add_mod vv d;have h2:d*(vv/d+4294967296*dv (ws.drop k))=d*(vv/d)+4294967296*(d*dv (ws.drop k)):=by rw[cZ,Nat.mul_left_comm]
 rw[h2,cZ];omega
section
variable {P:Program} {C:au} {n:Nat} {fr:Fr} {own:List ao} {G:Gh} {dst:Option Nat} {t t1 t2 ty':TypeId} {pos:String} {af:Array Edge} {gd:Option (Nat×Bool)} {x y:Operand}
def Ih{k:IntKind}{p q:Int}(hx:aq fr x=some (.int k p))(hy:aq fr y=some (.int k q)):
  Yd P C fr own G ⟨dst, .call ⟨.builtin .min, #[x,y], #[t1,t2]⟩,ty',pos,af,gd⟩ (.int k (if q<p then q else p)):=by
 intro a w hf hh;simp only[execOp,resolve,fM,bN,gK,aG hf hx,aG hf hy];have h1:(Builtin.min_ #[t1,t2] ty' #[.int k p, .int k q]).run P w= .ok (.int k (if q<p then q else p)) w:=by
  simp[Builtin.min_,Builtin.min2,run_pure]
 exact cd h1
end
structure Bo where
 ws:List Nat
 i:Nat
def BF{A G:Gh}{x:SV}{ds:List Nat}{k kk:Nat}(hx:bu A x ds)[GL A G](hk32:k<32)(hk:dv ds*2^k<2^kk)(hb:ds.length<=1125899906842):
  Fn prog 240 [x.v, .int .u64 (k:Int)] G (fun v G'=> ∃z:SV,v=z.v/\dt kk G' z (dv ds*2^k)/\z.c<=(trimD ds).length+1):=by
 have htl:=ib ds;have hcall:=fun G1 (_:GL A G1)=>et (G:=G1) hx (by omega);have hxt:=hx.trim;rw[<-fh ds] at hk⊢;generalize trimD ds=a at*;have hok:=hxt.ok;refine Fn.intro func240 J J ntmps240 J ?_;intro C _ _;refine sR<|sa J J<|zE<|sR<|sm J J<|?_;refine sc (zC J J (hcall _ inferInstance) J ?_);rintro _ G1 _ rfl;refine sm J J<|sy (Ih J J) J<|?_;rw[if_neg (by omega: ¬(1048576:Int)<(k:Int))];refine sa J J<|sa J J<|zE<|bm<|sR<|sm J J<|bO J J<|sy (kl J J) J<|zE<|?_;refine er J (fun hc=>?_) (fun hc=>?_) -- slot 17
 ·refine sR<|sa J J<|zE<|c7<|?_
  have:a=[]:=bK (by omega);subst this;refine zD (.tmp J .nil) ⟨⟨none,0,0⟩,J,?_⟩;have e0:dv []*2^k=0:=by simp[dv]
  rw[e0];exact⟨⟨by unfold dg;exact .nil _,fN (by omega)⟩,bS _⟩
 refine zK<|sR<|sm J J<|sy (oo J J (by omega) (by omega) (by decide)) J<|sy (CT J) J<|sm J J<|sy (oC J J (by omega) (by decide)) J<|?_;rw[show(k:Int)/32=0 by omega,show(k:Int)%32=k by omega];refine sa J J<|sa J J<|zE<|sR<|sm J J<|bO J J<|sm J J<|sy (cP J J) J<|sy (cP J J) J<|?_;refine sc (ma J J (by omega) (by omega) (by omega) (by rfl) J ?_);intro b2;rw[lz,show((a.length:Int)+0+1).toNat=a.length+1 by omega];refine sa J J<|zE<|bm<|sR<|sm J J<|bO J J<|sm J J<|zE<|c6<|?_;refine gh (X:=Bo) (fun q=>[(31, .int .i64 q.i),(30, .int .i64 a.length),(29, .slice x.a a.length x.c),(6, .int .u64 k),(7, .slice (some ⟨b2,0,none⟩) (a.length+1) (a.length+1)),(5, .int .i64 0)])
  (fun q=>[⟨b2,q.ws.map dI,206,true⟩])
  (fun q _=>q.i<=a.length/\q.ws.length=a.length+1/\bj q.ws/\(∀j,q.i<j->q.ws.getD j 0=0)/\q.ws.getD q.i 0<2^k/\dv q.ws=dv (a.take q.i)*2^k) (fun q=>a.length-q.i) ⟨List.replicate (a.length+1) 0,0⟩
  ⟨bS _,by simp, .replicate _,fun j _=>tH _ _,by rw[tH];exact fN (by omega),by simp[dv,ry]⟩ (.cons J (.cons J (.cons J (.cons J (.cons J (.cons J .nil)))))) J ?_
 rintro ⟨ws,i⟩ Gy _ ⟨hia,hwl,hwo,hz,hwi,hinv⟩;simp only[] at hia hwl hwo hz hwi hinv⊢;refine sR<|sy (fB J J) J<|zE<|bm<|?_;refine f9 J (fun hc=>?_) (fun hc=>?_) -- slot 32
 ·have hin:i=a.length:=by omega
  refine eH<|cO<|cO<|e8<|sR<|sm J J<|?_;refine j0 b2 (.hd ..) (fun G3 _ hgb=>?_);have hD:bu G3 ⟨some ⟨b2,0,none⟩,a.length+1,a.length+1⟩ ws:= .of_block hwo hgb.h hwl.symm (bZ _) (by rw[aT (by simp)]);have hdv:dv a*2^k=dv ws:=by rw[hinv,hin,aT (bZ _)]
  refine sc (zC J J (et hD (by omega)) J ?_);rintro _ G4 _ rfl;refine sa J J<|zE<|c7<|?_;refine zD (.tmp J .nil) ⟨⟨some ⟨b2,0,none⟩,(trimD ws).length,a.length+1⟩,J,?_⟩;have h3:=hD.trim.up (G:=G4);rw[hdv] at hk⊢;exact⟨⟨by rw[jv hwo];exact h3,hk⟩,bZ _⟩
 have hia':i<a.length:=by omega
 have hga:=hok.get i;have hp32:(2:Nat)^k<=2^31:=bW (by omega) (by omega);have hp0:0<(2:Nat)^k:=fN (by omega);have hvb:a.getD i 0*2^k<4294967296*2^k:=kV hga hp0;have hv64:a.getD i 0*2^k<18446744073709551616:=by omega
 refine zK<|bm<|c6<|sR<|sm J J<|sy (dP (z:=⟨x.a,a.length,x.c⟩) hxt J J (by omega) (by show(i:Int)<(a.length:Nat);omega)) J<|sy (dH hxt J (by omega)) J<|sa J J<|sa J J<|zE<|bm<|?_;rw[bJ];refine cv<|sm J J<|sy (dC J) J<|sm J J<|sy (nn J J (by omega)) J<|?_;rw[pY (a.getD i 0) k (by omega) hv64 (bJ k)]
 -- the low digit is a multiple of 2^k
 have hlow:a.getD i 0*2^k%4294967296=a.getD i 0%2^(32-k)*2^k:=by
  have:4294967296=2^(32-k)*2^k:=by rw[<-gX,show 32-k+k=32 by omega]
  rw[this,Nat.mul_mod_mul_right]
 have hlt:a.getD i 0*2^k%4294967296<4294967296:=cM _ (by decide);have hsum:ws.getD i 0+a.getD i 0%2^(32-k)*2^k<4294967296:=by
  have h1:a.getD i 0%2^(32-k)<2^(32-k):=cM _ (fN (by omega));have h2:(a.getD i 0%2^(32-k)+1)*2^k<=2^(32-k)*2^k:=aM _ h1;rw[<-gX,show 32-k+k=32 by omega,cJ] at h2;omega
 refine sa J J<|zE<|sR<|sm J J<|?_;refine sm J J<|sm J J<|sy (cP J J) J<|sy (dF J J (by omega) (by omega)) J<|?_;rw[show((i:Int)+0).toNat=i by omega];refine sy (jG J (by omega)) J<|sm J J<|sy (fq J) J<|?_;rw[show((a.getD i 0*2^k:Nat):Int)%4294967296=((a.getD i 0%2^(32-k)*2^k:Nat):Int) by rw[<-hlow];rfl];refine sy (en J J (HL (ws.getD i 0) (a.getD i 0%2^(32-k)) k hwi hsum)) J<|sy (dF J J (by omega) (by omega)) J<|?_;rw[show((i:Int)+0).toNat=i by omega];refine sc (gl (d:=ws.getD i 0+a.getD i 0%2^(32-k)*2^k) J J J (.hd ..) (by omega) J ?_);refine zE<|cv<|sm J J<|sm J J<|sm J J<|sy (cP J J) J<|sy (cP J J) J<|sm J J<|sy (gq J J (by decide)) J<|?_;rw[BA];have hhi:a.getD i 0*2^k/4294967296<2^k:=mR hvb;refine sy (fq J) J<|sy (dF J J (by omega) (by omega)) J<|?_;rw[show((i:Int)+0+1).toNat=i+1 by omega];refine sc (gl (d:=a.getD i 0*2^k/4294967296) J J (by omega) (.hd ..) (by simp;omega) J ?_);refine zE<|cv<|sy (cP J J) J<|sm J J<|zE<|?_;refine eG ⟨(ws.set i (ws.getD i 0+a.getD i 0%2^(32-k)*2^k)).set (i+1) (a.getD i 0*2^k/4294967296),i+1⟩ ⟨by show i+1<=_;omega,by simp[hwl],(hwo.set _ hsum).set _ (by omega),fun j hj=>?_,?_,?_⟩ (by show a.length-(i+1)<a.length-i;omega) (.cons J (.cons J (.cons J (.cons J (.cons J (.cons J .nil)))))) J
 ·have hj':i+1<j:=hj
  show((ws.set i _).set (i+1) _).getD j 0=0;rw[ql (by omega),ql (by omega)];exact hz j (by omega)
 ·show((ws.set i _).set (i+1) (a.getD i 0*2^k/4294967296)).getD (i+1) 0<2^k
  rw[aV,List.getElem?_set_self (by simp;omega)];exact hhi
 ·show dv ((ws.set i (ws.getD i 0+a.getD i 0%2^(32-k)*2^k)).set (i+1) (a.getD i 0*2^k/4294967296))=dv (a.take (i+1))*2^k
  have h1:=kw (ws.set i (ws.getD i 0+a.getD i 0%2^(32-k)*2^k)) (i+1) (a.getD i 0*2^k/4294967296) (by simp;omega);rw[ql (by omega),hz (i+1) (by omega),Nat.mul_zero,dQ] at h1;have h2:=kw ws i (ws.getD i 0+a.getD i 0%2^(32-k)*2^k) (by omega);rw[cZ] at h2;rw[h1,ig,cJ,<-hinv,bV,uK (4294967296^i) (a.getD i 0*2^k),<-hlow] at*;rw[fX];omega
end Go.Sx
end
section
namespace Go.Sx
def lu(i:Nat):(4294967296:Nat)^(i+1)=4294967296^i*4294967296:=fX ..
def Ml{U p V T S first third:Nat}(hU:U<(first*4294967296+third+1)*p)(h3:third<4294967296)(hV:(T*4294967296+S)*p<=V)(hT:0<T):
  U<(first/T+1)*V:=by
 have h1:first+1<=(first/T+1)*T:=by
  have:=Nat.lt_mul_div_succ first hT
  rw[bY];omega
 calc U<(first*4294967296+third+1)*p:=hU
  _<=((first+1)*4294967296)*p:=aM _ (by omega)
  _<=(((first/T+1)*T)*4294967296)*p:=aM _ (aM _ h1)
  _=(first/T+1)*((T*4294967296)*p):=by rw[bV (first/T+1),bV (first/T+1)]
  _<=(first/T+1)*V:=eK _ (dS (aM _ (lJ _ _)) hV)
def Jq{U p V T S first third v0:Nat}(hU:(first*4294967296+third)*p<=U)(hV:V=(T*4294967296+S)*p+v0)(hv:v0<p)(hlt:U<V*4294967296):first<=T*4294967296+S:=by
 rcases iX (T*4294967296+S) first with h|h
 ·exfalso
  have h1:(T*4294967296+S+1)*p<=first*p:=aM p h
  rw[cJ _ 1,kT] at h1;rw[cJ,Nat.mul_right_comm] at hU;have:0<=third*p:=bS _;omega
 ·exact h
def IL{U p V T S first third g r:Nat}(hU:U<(first*4294967296+third+1)*p)(hV:(T*4294967296+S)*p<=V)(hg:first=g*T+r)(hc:r*4294967296+third<g*S):U<g*V:=by
 refine cN hU (dS (aM p (m:=g*(T*4294967296+S)) ?_) ?_)
 ·rw[cZ,<-bV,hg,cJ];omega
 ·rw[bV];exact eK _ hV
def vd{U p V T S first third g r v0:Nat}(hU:(first*4294967296+third)*p<=U)(hV:V=(T*4294967296+S)*p+v0)(hv:v0<p)(hT:0<T)(hg:first=g*T+r)(hgB:g<4294967296)(hc:g*S<=r*4294967296+third):g*V<U+V:=by
 have h1:g*((T*4294967296+S)*p)<=U:=by
  rw[<-bV];refine dS (aM p ?_) hU;rw[cZ,<-bV,hg,cJ];omega
 have h2:g*v0<=4294967295*v0:=aM _ (by omega);have h3:4294967296*p<=V:=by
  rw[hV];refine dS (aM p ?_) (lJ _ _);omega
 have h4:g*V=g*((T*4294967296+S)*p)+g*v0:=by rw[<-cZ,<-hV]
 omega
def Jz{U V R g:Nat}(h:U<(g+1)*V)(hr:R+g*V=U):R<V:=by
 rw[cJ,kT] at h;omega
def FM{U V R R' g w M:Nat}(h2:g*V<U+V)(hr:R+g*V=U+M)(hb:R'+w*M=R+V)(hR:R<M)(hR':R'<M)(hw:w<=1)(hg:0<g):R'+(g-1)*V=U/\R'<V:=by
 have hgv:g*V=(g-1)*V+V:=by
  conv=>lhs;rw[show g=(g-1)+1 by omega,cJ,kT]
 have:w=1:=by
  rcases iX w 1 with h|h
  ·have:w=0:=by omega
   subst this;omega
  ·omega
 subst this;omega
def n7(us:List Nat)(i:Nat):dv (us.drop i)=us.getD i 0+4294967296*dv (us.drop (i+1)):=by
 rcases iX i us.length with h|h
 ·rw[bL h];simp[dv,List.getD,aX h]
 ·rw[fJ h,fJ (by omega)]
  simp[dv,cL h,List.getD]
def o5(us:List Nat)(i:Nat):dv us=dv (us.take i)+4294967296^i*dv (us.drop i):=by
 rcases iX us.length i with h|h
 ·rw[aT (by omega),fJ (by omega)];simp[dv]
 ·exact wm us i h
def rW{us:List Nat}(h:bj us)(i:Nat):dv (us.take i)<4294967296^i:=by
 refine cN (iv (h.take i)) (bW (by decide) ?_);simp[bR];omega
def rj{us:List Nat}{i:Nat}(hd:dv us<4294967296^i):dv (us.drop i)=0:=by
 have h:=o5 us i;rcases dJ (dv (us.drop i)) with h0|h0
 ·exact h0
 ·have:=eK (4294967296^i) h0
  omega
def H2{W W' U E p u x bo b c c1 g d:Nat}(hs:W'+p*u=W+p*x)(hw:W+E=U+(bo+c)*p)(hc:c1=c+g*d)(hx:x+(c1%4294967296+bo)=u+b*4294967296):
  W'+(E+g*d*p)=U+(b+c1/4294967296)*(p*4294967296):=by
 have h1:=congrArg (p* ·) hx;simp only[cZ] at h1;have h2:p*c1=p*(c1%4294967296)+p*(c1/4294967296)*4294967296:=by
  rw[bV,<-cZ,Nat.mod_add_div']
 have h3:p*c1=p*c+p*(g*d):=by rw[hc,cZ]
 rw[cJ,bY bo,bY c] at hw;rw[bY (g*d),cJ,<-bV b,<-bV (c1/4294967296),bY b,bY (c1/4294967296)];rw[<-bV] at h1;omega
def EU{W W' U E p u x bo b c:Nat}(hs:W'+p*u=W+p*x)(hw:W+E=U+(bo+c)*p)(hx:x+(c+bo)=u+b*4294967296):W'+E=U+b*(p*4294967296):=by
 have h1:=congrArg (p* ·) hx;simp only[cZ] at h1;rw[cJ,bY bo,bY c] at hw;rw[<-bV b,bY b];rw[<-bV] at h1;omega
def Ix{W W' R E p u d c:Nat}(hs:W'+p*u=W+p*((c+(u+d))%4294967296))(hw:W+c*p=R+E):W'+(c+(u+d))/4294967296*(p*4294967296)=R+(E+d*p):=by
 have h2:p*(c+(u+d))=p*((c+(u+d))%4294967296)+p*((c+(u+d))/4294967296)*4294967296:=by
  rw[bV,<-cZ,Nat.mod_add_div']
 rw[cZ p c,cZ p u] at h2;rw[bY c] at hw;rw[bY d,<-bV,bY _ p];omega
def Gt{W W' R p u c:Nat}(hs:W'+p*u=W+p*((u+c)%4294967296))(hw:W+c*p=R):W'+(u+c)/4294967296*(p*4294967296)=R:=by
 have h2:p*(u+c)=p*((u+c)%4294967296)+p*((u+c)/4294967296)*4294967296:=by
  rw[bV,<-cZ,Nat.mod_add_div']
 rw[cZ p u] at h2;rw[bY c] at hw;rw[<-bV,bY _ p];omega
def GT{us:List Nat}(h:bj us)(i:Nat)(hd:dv us<4294967296^(i+3)):
  dv us=((us.getD (i+2) 0*4294967296+us.getD (i+1) 0)*4294967296+us.getD i 0)*4294967296^i+dv (us.take i):=by
 have h0:=rj hd;rw[o5 us i,n7 us i,n7 us (i+1),n7 us (i+2),h0,mJ,bY];congr 2;omega
def JH{us:List Nat}(h:bj us)(i:Nat)(hd:dv us<4294967296^(i+2)):
  dv us=(us.getD (i+1) 0*4294967296+us.getD i 0)*4294967296^i+dv (us.take i):=by
 have h0:=rj hd;rw[o5 us i,n7 us i,n7 us (i+1),h0,mJ,bY];congr 2;omega
def qM{us:List Nat}{k i d:Nat}(h:bj us)(hd:d<4294967296)(hk:dv us<4294967296^k)(hi:i<k):dv (us.set i d)<4294967296^k:=by
 rw[o5 _ k,List.drop_set,if_pos hi,rj hk,Nat.mul_zero,dQ];exact rW (h.set i hd) k
end Go.Sx
end
