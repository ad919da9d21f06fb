import Derived.Test.YtmdgdhokaffbkaaGreatDoorMu17
set_option linter.all false
set_option maxRecDepth 100000
section
namespace Go.Sx
open Go Go.Proofs Tryz
variable {GB:Gh}{C:aE}{n v z p p1 p2 p3 p4:ah}{Q0:Exit->Act->World->Prop}{fr fr':aC}{own':aG}{cf cf':Cf}{vc:List Prop}{lk:LK}{bk:BM}{dst:Option Nat}{ty t:TypeId}{pos m:String}{af:Array Edge}{x fo:Operand}{d rv e:DV}{u:Value}{args:Array Operand}{tys:Array TypeId}{f:FuncId}{vs c1 c2:List Value}{a y b w1 w2 w3 w4 low k a' b' c':Rat}{ds ds1 ds2:List DV}{K L M:List aa}{l m0:aa}{c:ar}{rs:List (List ZP)}{fill:Int}{D:Nat}{V:List ah}{s:bt}
section
variable {n:Nat}{own:aG}{gd:Option (Nat×Bool)}
def F2(t:TypeId):Prop:= ∀(x:Value) w,(Instr.makeInterface t x).run prog w= .ok (.iface t x) w
def C6(t:TypeId)(u:Value)(m:String)(f:FuncId):Prop:= ∀w,(method (prog.types.size+Made.depth) t u m).run prog w= .ok (f,u) w
def V'(ht:F2 t)(hx:evD lk x=some d)(hd: ∀G y,Is G d y->y=u):bP prog GB C n lk bk ⟨dst, .makeInterface t x,ty,pos,af,gd⟩ (.d (.v (.iface t u))) [] []:=
 bP.yd fun ρ G ov a w r=>by
  obtain⟨y,hy,hy'⟩:=r.evD hx;obtain rfl:=hd G y hy';refine⟨_,(aH (G:=G)).2 J,fun a' w' hf _=>?_⟩;refine cD (f:=Next.value) ?_;rw[bw hf hy];exact ht _ _
def Tp{fr:Fr}{a:Act}{w:World}(hf:kG fr a)(hx:aB fr x=some (.iface t u))(hv:fg fr args.toList=some vs)(hm:C6 t u m f)(hc:rE prog f):
  (execOp a.eval ⟨dst, .call ⟨.invoke x m,args,tys⟩,ty,pos,af,gd⟩).run prog w= .ok (.enter f ⟨u::vs⟩) w:=by
 have e:args.map a.eval=⟨vs⟩:=by apply Array.ext';simpa using Be hf hv
 simp only[execOp,resolve,bw hf hx,e];show(invoke (.fn (.method m) #[]) (#[.iface t u]++⟨vs⟩)).run prog w=_;simp only[invoke];have h0:(#[Value.iface t u]++(⟨vs⟩:Array Value))[0]? =some (.iface t u):=by simp
 have h1:(#[Value.iface t u]++(⟨vs⟩:Array Value)).extract 1 (#[Value.iface t u]++(⟨vs⟩:Array Value)).size=⟨vs⟩:=by
  apply Array.ext';simp
 rw[h0,h1];show(callMethod (.iface t u) m ⟨vs⟩).run prog w=_;unfold callMethod;show((do
  let p<-program
  let(g,receiver)<-method (p.types.size+Made.depth) t u m
  callFunc g (#[receiver]++⟨vs⟩)):Sem Next).run prog w=_
 rw[aO (a:=prog) (w':=w) J,aO (hm w)];show(callFunc f (#[u]++⟨vs⟩)).run prog w=_;rw[FJ hc];simp
def aE7(hx:bh lk x=some (.d (.v (.iface t u))))(ha:evDs lk args.toList=some ds)(hm:C6 t u m f)(hF:PF GB prog f (.v u::ds) rv):
  bP prog GB C n lk bk ⟨dst, .call ⟨.invoke x m,args,tys⟩,ty,pos,af,gd⟩ (.d rv) [] []:=by
 intro hd tl tb K' s1 s2 hf hk;refine⟨fun ρ G ov a w r Q=>?_⟩;obtain⟨y,hy,hy'⟩:=(r.mono s1 s2).ev hx;rw[(aH (G:=G)).1 hy'] at hy;obtain⟨vs,h3,h4⟩:=(r.mono s1 s2).evDs ha;have hFn:=hF G (u::vs) r.gb (.cons (aH.2 J) h4);have h2:=Tp (dst:=dst) (ty:=ty) (pos:=pos) (af:=af) (gd:=gd) (tys:=tys) (w:=w) (cw a) hy h3 hm hFn.able;simp only[Oper.wp,h2,Oper.upon];refine(hFn.run w r.h.sub).mono ?_;rintro e w' ⟨v,G',rfl,hh,hK⟩;have rl:gm C n (ck a) ov G a w:=⟨r.h,r.sz,cw a,r.df⟩;have rl2:=(rl.heap (rl.h.called hh)).put v hd;exact hk.run ρ G' ov _ w' ⟨r.gb.trans hh.gle,rl2.h,rl2.sz,rl2.df,(jk rl2).fx (fun k g _ e=>by obtain⟨z,h5,h6⟩:=r.fx k g e;exact⟨z,h5,h6.up hh.gle⟩) hK,
  fun nm B e=>by obtain⟨os,h5,h6⟩:=r.bx nm B e;exact⟨os,h5.up hh.gle,h6⟩,r.dj,r.fxd⟩
def KX(fr:aC)(cf:Cf):Option (TypeId×DV):=match cE fr cf with
 |some ⟨_, .makeInterface t x,_,_,_,_⟩=>match evD (b7 fr cf) x with
  |some d=>some (t,d)
  |none=>none
 |_=>none
def Vs[fu:Fu](u:Value)(ha:KX fr cf=some (t,d))(ht:F2 t)(hd: ∀G y,Is G d y->y=u)(hgo:cx tt n fu.n fr own cf (.d (.v (.iface t u))) [] []=⟨vc,fr',own',cf'⟩)(k:aA prog GB C n Q0 fr' own' cf')
  (hv:autoParam (ak vc) cL._auto_1):aA prog GB C n Q0 fr own cf:=by
 unfold KX at ha;split at ha<;>try (cases ha;done)
 rename_i hh;split at ha<;>cases ha;rename_i hx;exact us hh (V' ht hx hd) hgo hv k
def RO(fr:aC)(cf:Cf):Option (String×TypeId×Value×List DV):=match cE fr cf with
 |some ⟨_, .call ⟨.invoke x m,args,_⟩,_,_,_,_⟩=>match bh (b7 fr cf) x with
  |some (.d (.v (.iface t u)))=>match evDs (b7 fr cf) args.toList with
   |some ds=>some (m,t,u,ds)
   |none=>none
  |_=>none
 |_=>none
def Zf[fu:Fu](ha:RO fr cf=some (m,t,u,ds))(hm:C6 t u m f)(hF:PF GB prog f (.v u::ds) rv)(hgo:cx tt n fu.n fr own cf (.d rv) [] []=⟨vc,fr',own',cf'⟩)(k:aA prog GB C n Q0 fr' own' cf')
  (hv:autoParam (ak vc) cL._auto_1):aA prog GB C n Q0 fr own cf:=by
 unfold RO at ha;split at ha<;>try (cases ha;done)
 rename_i hh;split at ha<;>try (cases ha;done)
 rename_i hx;split at ha<;>cases ha;rename_i hds;exact us hh (aE7 hx hds hm hF) hgo hv k
def PF.arg0(h:PF GB prog f (d::ds) rv)(he: ∀G y,Is G e y->Is G d y):PF GB prog f (e::ds) rv:=fun G vs hg hvs=>by
 obtain⟨y,m,rfl,h1,h2⟩:=bi.1 hvs;exact h G _ hg (.cons (he G y h1) h2)
end
section
variable {n:Nat}{own:aG}{gd:Option (Nat×Bool)}
def awF(h1:bh lk fo=some (.d (.v (.func (.func f) ⟨c1⟩ ⟨c2⟩))))(h2:evDs lk args.toList=some ds)(hc:IsLs GB ds1 c1)(hc2:IsLs GB ds2 c2)(hF:PF GB prog f (ds1++ds++ds2) rv):
  bP prog GB C n lk bk ⟨dst, .call ⟨.value fo,args,tys⟩,ty,pos,af,gd⟩ (.d rv) [] []:=by
 intro hd tl tb K' s1 s2 hf hk;refine⟨fun ρ G ov a w r Q=>?_⟩;obtain⟨y,hy,hy'⟩:=(r.mono s1 s2).ev h1;rw[(aH (G:=G)).1 hy'] at hy;obtain⟨vs,h3,h4⟩:=(r.mono s1 s2).evDs h2;refine Qx (c1:=c1) (c2:=c2) hy h3 (hF G (c1++vs++c2) r.gb (((hc.up r.gb).app h4).app (hc2.up r.gb))) hd (fun v G' hG hK a' w' rl=>?_) a w Q ⟨r.h,r.sz,cw a,r.df⟩;exact hk.run ρ G' ov a' w' ⟨r.gb.trans hG.le,rl.h,rl.sz,rl.df,(jk rl).fx (fun k g _ e=>by obtain⟨u,h5,h6⟩:=r.fx k g e;exact⟨u,h5,h6.up hG.le⟩) hK,
  fun nm B e=>by obtain⟨os,h5,h6⟩:=r.bx nm B e;exact⟨os,h5.up hG.le,h6⟩,r.dj,r.fxd⟩
def Lv(fr:aC)(cf:Cf):Option (FuncId×List Value×List Value×List DV):=match cE fr cf with
 |some ⟨_, .call ⟨.value fo,args,_⟩,_,_,_,_⟩=>match bh (b7 fr cf) fo,evDs (b7 fr cf) args.toList with
  |some (.d (.v (.func (.func f) ⟨c1⟩ ⟨c2⟩))),some ds=>some (f,c1,c2,ds)
  |_,_=>none
 |_=>none
def cfw[fu:Fu](ha:Lv fr cf=some (f,c1,c2,ds))(hc:IsLs GB ds1 c1)(hc2:IsLs GB ds2 c2)(hF:PF GB prog f (ds1++ds++ds2) rv)(hgo:cx tt n fu.n fr own cf (.d rv) [] []=⟨vc,fr',own',cf'⟩)(k:aA prog GB C n Q0 fr' own' cf')
  (hv:autoParam (ak vc) cL._auto_1):aA prog GB C n Q0 fr own cf:=by
 unfold Lv at ha;split at ha<;>try (cases ha;done)
 rename_i hh;split at ha<;>cases ha;rename_i h1 h2;exact us hh (awF h1 h2 hc hc2 hF) hgo hv k
end
def IA(p q:ah):DV:= .ag [vI (di p.x),vI (dh p.x),c9 p.x,vI (di p.y),vI (dh p.y),c9 p.y,vI (di q.x),vI (dh q.x),c9 q.x,vI (di q.y),vI (dh q.y),c9 q.y]
def ptE{n:Nat}{own:aG}{ops:Array Oper}{r:List Oper}{K:List Kt}(k:Nat){l:List DV}(hl:aP fr k=some (.d (.pt l)))(h:aA prog GB C n Q0 ((k, .ep l)::fr) own (.ops ops r K)):aA prog GB C n Q0 fr own (.ops ops r K):=
 oG hl (fun ρ G y hy=>by
  obtain⟨b,m,rfl,h1,h2⟩:=lm.1 hy;have e:=h2.len;exact⟨b,0,m,m,J,h1,by rw[k9 m 0 l.length (by omega),iQ,<-e,dQ],h2⟩) h
def bC(v:List ah):List (ah×ah):=(List.range v.length).map fun i=>(v.getD i ⟨0,0⟩,v.getD ((i+1)%v.length) ⟨0,0⟩)



def Vh{α:Type}{f:α->DV}{l:List α}{s:α}(h:l[0]? =some s):(l.map f)[(0:Int).toNat]? =some (f s):=by simp[h]
def MN(c:List aa):(jj c).length<=c.length:=IY c _
theorem S8{c:List aa}(hb: ∀l∈c,LB l): ∀p∈jj c,aI p 1200:=fun p hp=>by
 obtain⟨l,hl,m,hm,rfl⟩:=axY hp;have:= @aI.imeet l m (hb l hl) (hb m hm);exact⟨this.x.mono (by decide),this.y.mono (by decide)⟩



theorem aI.mono{p:ah}{i j:Nat}(h:aI p i)(hj:i<=j:=by decide):aI p j:=⟨h.x.mono hj,h.y.mono hj⟩





def wk{P:aa->Prop}(hr: ∀l,P l->P l.rev): ∀{t:Tr} {c:ar} {x:Bool×ar},t.all P->(∀s∈c,P s.l)->x∈t.parts c-> ∀s∈x.2,P s.l
 | .leaf b,c,x,_,hc,h=>by
  rw[Tr.parts,aU] at h;subst h;exact hc
 | .node l u v,c,x,ht,hc,h=>by
  have cl: ∀k,P k-> ∀s∈bz c k,P s.l:=fun k hk s hs=>by
   unfold bz at hs;split at hs
   .rcases p6.1 hs with rfl|hs
    .exact hk
    .obtain⟨s0,g,_,rfl⟩:=q8.1 hs
     exact hc s0 g
   .exact hc s hs
  rw[Tr.parts] at h;rcases aM.1 h with h|h
  .split at h
   .exact wk hr ht.2.1 (cl l ht.1) h
   .cases h
  .split at h
   .exact wk hr ht.2.2 (cl l.rev (hr l ht.1)) h
   .cases h



def X9{n:Nat}{own:aG}[fu:Fu](ha:w7 fr cf=some (f,ds))(hF:PF GB prog f ds (.v (.bool true)))(hgo:cx tt n fu.n fr own cf .tt [] []=⟨vc,fr',own',cf'⟩)(k:aA prog GB C n Q0 fr' own' cf')
  (hv:autoParam (ak vc) cL._auto_1):aA prog GB C n Q0 fr own cf:=by
 unfold w7 at ha;split at ha<;>try (cases ha;done)
 rename_i hh;exact us hh (bP.to (g:= .tt) (Re ha hF) fun ρ G y hy=>(aH (G:=G)).1 hy) hgo hv k

def WB{u:ah}(hu:u.half≠0)(hv:v.half≠0)(h0:u.cross v=0)(h1:0<u.cross z)(h2:0<v.cross z):u.half=v.half:=by
 have ex:v.x*(u.cross z)=u.x*(v.cross z):=by unfold ah.cross at*;grind
 have ey:v.y*(u.cross z)=u.y*(v.cross z):=by unfold ah.cross at*;grind
 have key: ∀{a b:Rat},a*(u.cross z)=b*(v.cross z)->(0<a↔0<b)/\(a=0↔b=0):=fun{a b} e=>by
  have k1:0<a*(u.cross z)↔0<a:=fC h1;have k2:0<b*(v.cross z)↔0<b:=fC h2;refine⟨by rw[<-k1,<-k2,e],fun h=>?_,fun h=>?_⟩
  .rw[h,Rat.zero_mul] at e
   rcases fZ.1 e.symm with q|q
   .exact q
   .grind
  .rw[h,Rat.zero_mul] at e
   rcases fZ.1 e with q|q
   .exact q
   .grind
 obtain⟨x1,x2⟩:=key ex;obtain⟨y1,y2⟩:=key ey;have:u.half=1↔v.half=1:=by rw[ow,ow,x1,y1,y2]
 rcases od hu with a|a<;>rcases od hv with b|b<;>omega
def I2(n q p:ah)(e:Rat):n.dot (jt q p e)=n.dot q+e*(n.dot p-n.dot q):=by
 unfold ah.dot jt;grind
def yo(n q u:ah)(e:Rat):n.dot (cG q u e)=n.dot q+e*n.dot u:=by
 unfold ah.dot cG;grind
structure RM where
 ax:Rat
 ay:Rat
 ac:Rat
def RM.ev(g:RM)(p:ah):Rat:=g.ax*p.x+g.ay*p.y+g.ac
def JS{x:Rat}(h: ¬(x=0/\y=0)):0<x*x+y*y:=by
 have h1:=Do x;have h2:=Do y;rcases jz (x*x+y*y) with k|k|k
 .exfalso
  refine h ⟨?_,?_⟩
  .have:x*x=0:=by grind
   exact(fZ.1 this).elim id id
  .have:y*y=0:=by grind
   exact(fZ.1 this).elim id id
 .exact k
 .grind
def Uw{a b:ah}(h:a≠b): ¬(b.x-a.x=0/\b.y-a.y=0):=fun k=>h (by
 cases a;cases b
 simp only[ah.mk.injEq] at*;constructor<;>grind)
def div_pos(ha:0<a)(hb:0<b):0<a/b:=by
 have e:a/b*b=a:=by grind
 exact(fC hb).1 (by rw[e];exact ha)
def ET{a b:ZP}(h:a.q=b.q):a=b:=by
 have hx:(a.1:Rat)=(b.1:Rat):=congrArg ah.x h;have hy:(a.2:Rat)=(b.2:Rat):=congrArg ah.y h;exact Prod.ext (by exact_mod_cast hx) (by exact_mod_cast hy)
section
variable {w:ah}{b c:Bool}
end
section
variable {ds:List ah}
end
def r9{c x z:Rat}(ha:0<=a)(hb:0<=b)(hc:0<=c)(hs:0<a+b+c)(hx:0<x)(hy:0<y)(hz:0<z):0<a*x+b*y+c*z:=by
 have h1:=cC ha (cM hx);have h2:=cC hb (cM hy);have h3:=cC hc (cM hz);by_cases k1:0<a
 .have:=dd k1 hx;grind
 .by_cases k2:0<b
  .have:=dd k2 hy;grind
  .have:=dd (show 0<c by grind) hz;grind
def jg(x:Rat):Rat:=if 0<x then x else 0
def tu(x:Rat):0<=jg x:=by unfold jg;split<;>grind
def Ca(x:Rat):jg x-jg (-x)=x:=by unfold jg;split<;>split<;>grind
def CV(x:Rat):jg x=0\/jg (-x)=0:=by unfold jg;split<;>split<;>grind
def OV{x:Rat}(h:0<x):0<jg x:=by unfold jg;rw[if_pos h];exact h
def vy(w1 w2 w3 w4:Rat)(p1 p2 p3 p4:ah):ah:=⟨(w1*p1.x+w2*p2.x+w3*p3.x+w4*p4.x)*(w1+w2+w3+w4)⁻¹,(w1*p1.y+w2*p2.y+w3*p3.y+w4*p4.y)*(w1+w2+w3+w4)⁻¹⟩
def RK(l:aa)(hs:0<w1+w2+w3+w4)(p1 p2 p3 p4:ah):(w1+w2+w3+w4)*l.value (vy w1 w2 w3 w4 p1 p2 p3 p4)=w1*l.value p1+w2*l.value p2+w3*l.value p3+w4*l.value p4:=by
 have e:(w1+w2+w3+w4)*(w1+w2+w3+w4)⁻¹=1:=Rat.mul_inv_cancel _ (by grind);unfold vy aa.value aa.nor ah.dot;dsimp only;generalize (w1+w2+w3+w4)⁻¹=i at*;grind
def TQ(h:bF p1 p2 p3≠0): ∃r:ah,∀l:aa,((0<l.value p2/\0<l.value p3/\0<l.value p4)\/(0<l.value p1/\0<l.value p3/\0<l.value p4)\/(0<l.value p1/\0<l.value p2/\0<l.value p4)\/(0<l.value p1/\0<l.value p2/\0<l.value p3))->0<l.value r:=by
 obtain⟨u1,e1⟩: ∃u,u=bF p2 p3 p4:=⟨_,rfl⟩;obtain⟨u2,e2⟩: ∃u,u= -bF p1 p3 p4:=⟨_,rfl⟩;obtain⟨u3,e3⟩: ∃u,u=bF p1 p2 p4:=⟨_,rfl⟩;obtain⟨u4,e4⟩: ∃u,u= -bF p1 p2 p3:=⟨_,rfl⟩;have hz:u1+u2+u3+u4=0:=by rw[e1,e2,e3,e4];unfold bF;grind
 have hx:u1*p1.x+u2*p2.x+u3*p3.x+u4*p4.x=0:=by rw[e1,e2,e3,e4];unfold bF;grind
 have hy:u1*p1.y+u2*p2.y+u3*p3.y+u4*p4.y=0:=by rw[e1,e2,e3,e4];unfold bF;grind
 have h4:u4≠0:=by rw[e4];grind
 clear e1 e2 e3 e4 h;have s1:=Ca u1;have s2:=Ca u2;have s3:=Ca u3;have s4:=Ca u4;have a1:=tu u1;have a2:=tu u2;have a3:=tu u3;have a4:=tu u4;have b1:=tu (-u1);have b2:=tu (-u2);have b3:=tu (-u3);have b4:=tu (-u4);have z1:=CV u1;have z2:=CV u2;have z3:=CV u3;have z4:=CV u4;have c4:0<jg u4+jg (-u4):=by
  rcases jz u4 with k|k|k
  .exact absurd k h4
  .have:=OV k;grind
  .have:=OV (show 0< -u4 by grind);grind
 generalize jg u1=v1 at*;generalize jg u2=v2 at*;generalize jg u3=v3 at*;generalize jg u4=v4 at*;generalize jg (-u1)=w1 at*;generalize jg (-u2)=w2 at*;generalize jg (-u3)=w3 at*;generalize jg (-u4)=w4 at*;have hS:v1+v2+v3+v4=w1+w2+w3+w4:=by grind
 have hp:0<v1+v2+v3+v4:=by grind
 have hX:v1*p1.x+v2*p2.x+v3*p3.x+v4*p4.x=w1*p1.x+w2*p2.x+w3*p3.x+w4*p4.x:=by
  rw[<-s1,<-s2,<-s3,<-s4] at hx;grind
 have hY:v1*p1.y+v2*p2.y+v3*p3.y+v4*p4.y=w1*p1.y+w2*p2.y+w3*p3.y+w4*p4.y:=by
  rw[<-s1,<-s2,<-s3,<-s4] at hy;grind
 refine⟨vy v1 v2 v3 v4 p1 p2 p3 p4,fun l hl=>?_⟩;have eq:vy v1 v2 v3 v4 p1 p2 p3 p4=vy w1 w2 w3 w4 p1 p2 p3 p4:=by unfold vy;rw[hX,hY,hS]
 have f1:=RK l hp p1 p2 p3 p4;have f2:=RK l (show 0<w1+w2+w3+w4 by grind) p1 p2 p3 p4;rw[<-eq] at f2;have fin:(0<v1*l.value p1+v2*l.value p2+v3*l.value p3+v4*l.value p4\/0<w1*l.value p1+w2*l.value p2+w3*l.value p3+w4*l.value p4)->0<l.value (vy v1 v2 v3 v4 p1 p2 p3 p4):=fun k=>by
  rcases k with k|k
  .exact(fC hp).1 (by rw[Rat.mul_comm,f1];exact k)
  .exact(fC (show 0<w1+w2+w3+w4 by grind)).1 (by rw[Rat.mul_comm,f2];exact k)
 apply fin;clear f1 f2 fin eq hX hY hx hy;generalize l.value p1=x1 at*;generalize l.value p2=x2 at*;generalize l.value p3=x3 at*;generalize l.value p4=x4 at*;rcases hl with⟨k1,k2,k3⟩|⟨k1,k2,k3⟩|⟨k1,k2,k3⟩|⟨k1,k2,k3⟩
 .rcases z1 with z|z
  .left;have:=r9 a2 a3 a4 (by grind) k1 k2 k3;rw[z];grind
  .right;have:=r9 b2 b3 b4 (by grind) k1 k2 k3;rw[z];grind
 .rcases z2 with z|z
  .left;have:=r9 a1 a3 a4 (by grind) k1 k2 k3;rw[z];grind
  .right;have:=r9 b1 b3 b4 (by grind) k1 k2 k3;rw[z];grind
 .rcases z3 with z|z
  .left;have:=r9 a1 a2 a4 (by grind) k1 k2 k3;rw[z];grind
  .right;have:=r9 b1 b2 b4 (by grind) k1 k2 k3;rw[z];grind
 .rcases z4 with z|z
  .left;have:=r9 a1 a2 a3 (by grind) k1 k2 k3;rw[z];grind
  .right;have:=r9 b1 b2 b3 (by grind) k1 k2 k3;rw[z];grind
def KQ: ∀(n:Nat) (L:List aa),L.length=n->(∀a∈L,∀b∈L,∀d∈L,∃q:ah,0<a.value q/\0<b.value q/\0<d.value q)-> ∃q,fH L q
 |0,L,hn,_=>⟨⟨0,0⟩,fun m hm=>by rw[cR hn] at hm;cases hm⟩
 |n+1,[],hn,_=>by cases hn
 |n+1,[a],_,h=>by
  obtain⟨q,h1,_⟩:=h a (by simp) a (by simp) a (by simp);exact⟨q,fun m hm=>by rw[aU.1 hm];exact h1⟩
 |n+1,[a,b],_,h=>by
  obtain⟨q,h1,h2,_⟩:=h a (by simp) b (by simp) b (by simp);exact⟨q,fun m hm=>by simp only[aK,dT,or_false] at hm;rcases hm with rfl|rfl<;>assumption⟩
 |n+1,[a,b,d],_,h=>by
  obtain⟨q,h1,h2,h3⟩:=h a (by simp) b (by simp) d (by simp);exact⟨q,fun m hm=>by simp only[aK,dT,or_false] at hm;rcases hm with rfl|rfl|rfl<;>assumption⟩
 |n+1,a::b::d::e::L,hn,h=>by
  have sub: ∀M:List aa,M.length=n->(∀m∈M,m∈a::b::d::e::L)-> ∃q,fH M q:=fun M hM hs=>KQ n M hM fun x hx y hy z hz=>h x (hs x hx) y (hs y hy) z (hs z hz);simp only[bQ] at hn;obtain⟨p1,q1⟩:=sub (b::d::e::L) (by simp only[bQ];omega) (fun m hm=>by simp only[aK] at hm⊢;grind);obtain⟨p2,q2⟩:=sub (a::d::e::L) (by simp only[bQ];omega) (fun m hm=>by simp only[aK] at hm⊢;grind);obtain⟨p3,q3⟩:=sub (a::b::e::L) (by simp only[bQ];omega) (fun m hm=>by simp only[aK] at hm⊢;grind);obtain⟨p4,q4⟩:=sub (a::b::d::L) (by simp only[bQ];omega) (fun m hm=>by simp only[aK] at hm⊢;grind);by_cases e12:p1=p2
  .refine⟨p1,fun m hm=>?_⟩
   rcases aK.1 hm with rfl|hm
   .rw[e12];exact q2 m (by simp)
   .exact q1 m hm
  .have hN:=JS (Uw e12)
   obtain⟨p3',q3',ho⟩: ∃p3',fH (a::b::e::L) p3'/\bF p1 p2 p3'≠0:=by
    by_cases k:bF p1 p2 p3=0
    .obtain⟨ep,he,hm⟩:=q3.open ⟨-(p2.y-p1.y),p2.x-p1.x⟩
     refine⟨_,hm ep (cM he) iV,?_⟩;have e:bF p1 p2 (cG p3 ⟨-(p2.y-p1.y),p2.x-p1.x⟩ ep)=bF p1 p2 p3+ep*((p2.x-p1.x)*(p2.x-p1.x)+(p2.y-p1.y)*(p2.y-p1.y)):=by unfold bF cG;dsimp only;grind
     rw[e,k];have:=dd he hN;grind
    .exact⟨p3,q3,k⟩
   obtain⟨r,hr⟩:=TQ (p4:=p4) ho;refine⟨r,fun m hm=>hr m ?_⟩;simp only[aK] at hm;have i1:=q1 m;have i2:=q2 m;have i3:=q3' m;have i4:=q4 m;simp only[aK] at i1 i2 i3 i4;rcases hm with rfl|rfl|rfl|rfl|hm
   .exact .inl ⟨i2 (by simp),i3 (by simp),i4 (by simp)⟩
   .exact .inr (.inl ⟨i1 (by simp),i3 (by simp),i4 (by simp)⟩)
   .exact .inr (.inr (.inl ⟨i1 (by simp),i2 (by simp),i4 (by simp)⟩))
   .exact .inr (.inr (.inr ⟨i1 (by simp),i2 (by simp),i3 (by simp)⟩))
   .exact .inl ⟨i2 (by simp[hm]),i3 (by simp[hm]),i4 (by simp[hm])⟩
def Ly(a:Rat):a*(a.den:Rat)=(a.num:Rat):=by
 have h:(a.num:Rat)/((a.den:Nat):Rat)=a:=by rw[<-mL];exact rY a
 have h0:((a.den:Nat):Rat)≠0:=by
  intro k;have:a.den=0:=by exact_mod_cast k
  exact a.den_nz this
 generalize (a.num:Rat)=n at*;generalize ((a.den:Nat):Rat)=d at*;rw[<-h];grind
def FU{x:Int}(hD:0<D)(h:a*((D:Int):Rat)=(x:Rat)):a.num*(D:Int)=x*(a.den:Int):=by
 have e:((a.den:Int):Rat)*a=(a.num:Rat):=by
  have:=Ly a;rw[Rat.mul_comm];exact this
 have k:(a.num:Rat)*((D:Int):Rat)=(x:Rat)*((a.den:Int):Rat):=by rw[<-e,<-h];grind
 exact_mod_cast k
def K1{x y:Int}(hD:0<D)(ha:a*((D:Int):Rat)=(x:Rat))(hb:b*((D:Int):Rat)=(y:Rat)):rgcd a b*((D:Int):Rat)=(((Nat.gcd x.natAbs y.natAbs:Nat):Int):Rat):=by
 have h1:=FU hD ha;have h2:=FU hD hb;have n1:a.num.natAbs*D=x.natAbs*a.den:=by
  have:=congrArg Int.natAbs h1;rwa [fW,fW,fT,fT] at this
 have n2:b.num.natAbs*D=y.natAbs*b.den:=by
  have:=congrArg Int.natAbs h2;rwa [fW,fW,fT,fT] at this
 have hg:Nat.gcd (a.num.natAbs*b.den) (b.num.natAbs*a.den)*D=Nat.gcd x.natAbs y.natAbs*(a.den*b.den):=by
  rw[<-Nat.gcd_mul_right,<-Nat.gcd_mul_right];congr 1
  .rw[mM,n1,cV]
  .rw[mM,n2,cV,cJ b.den a.den]
 unfold rgcd;generalize Nat.gcd (a.num.natAbs*b.den) (b.num.natAbs*a.den)=G at*;generalize Nat.gcd x.natAbs y.natAbs=g at*;have hpos:0<a.den*b.den:=jQ a.den_pos b.den_pos;have hq:((G:Int):Rat)*((D:Int):Rat)=((g:Int):Rat)*(((a.den*b.den:Nat):Int):Rat):=by exact_mod_cast hg
 generalize a.den*b.den=E at*;have h0:((E:Int):Rat)≠0:=fun k=>by
  have:(E:Int)=0:=by exact_mod_cast k
  omega
 have hm:mkRat ((G:Nat):Int) E*((E:Int):Rat)=((G:Int):Rat):=by
  have hz:((E:Nat):Rat)≠0:=h0;show mkRat ((G:Nat):Int) E*((E:Nat):Rat)=_;rw[mL];generalize ((E:Nat):Rat)=z at*;generalize ((G:Int):Rat)=y at*;grind
 generalize mkRat ((G:Nat):Int) E=r at*;rw[<-hm] at hq;generalize ((E:Int):Rat)=e at*;generalize ((D:Int):Rat)=d at*;have:e*(r*d-((g:Int):Rat))=0:=by grind
 have:=(fZ.1 this).resolve_left h0;grind
def mc(a b c:Rat):Nat:=a.den*(b.den*c.den)
def dH(a b c:Rat):aa:=nD (a.num*(b.den*c.den:Nat)) (b.num*(a.den*c.den:Nat)) (c.num*(a.den*b.den:Nat))
def Lb(a b c:Rat):0<mc a b c:=jQ a.den_pos (jQ b.den_pos c.den_pos)
def Gn(a:Rat)(k:Nat):a*(((a.den*k:Nat):Int):Rat)=((a.num*(k:Nat):Int):Rat):=by
 have e:=Ly a;have:(((a.den*k:Nat):Int):Rat)=(a.den:Rat)*((k:Int):Rat):=by push_cast;rfl
 rw[this,bM,<-Rat.mul_assoc,e]
def Kf(a b c:Rat):a*((mc a b c:Int):Rat)=((a.num*(b.den*c.den:Nat):Int):Rat)/\b*((mc a b c:Int):Rat)=((b.num*(a.den*c.den:Nat):Int):Rat)/\c*((mc a b c:Int):Rat)=((c.num*(a.den*b.den:Nat):Int):Rat):=by
 refine⟨Gn a _,?_,?_⟩
 .rw[show mc a b c=b.den*(a.den*c.den) by unfold mc;rw[mV]];exact Gn b _
 .rw[show mc a b c=c.den*(a.den*b.den) by unfold mc;rw[<-cV,cJ]];exact Gn c _
def GI{c:Rat}(h: ¬(a=0/\b=0)): ¬(a.num*(b.den*c.den:Nat)=0/\b.num*(a.den*c.den:Nat)=0):=fun⟨h1,h2⟩=>by
 refine h ⟨?_,?_⟩
 .rcases oM.1 h1 with k|k
  .exact lL.1 k
  .have:=jQ b.den_pos c.den_pos;omega
 .rcases oM.1 h2 with k|k
  .exact lL.1 k
  .have:=jQ a.den_pos c.den_pos;omega
def Bb{c:Rat}(h: ¬(a=0/\b=0)): ∃g:Rat,0<g/\(∀p:ah,(dH a b c).value p=g*(a*p.x+b*p.y+c)):=by
 obtain⟨g,g0,e1,e2,e3⟩:=aAw (c:=c.num*(a.den*b.den:Nat)) (GI (c:=c) h);obtain⟨k1,k2,k3⟩:=Kf a b c;have hD:(0:Rat)<((mc a b c:Int):Rat):=by
  have:=Lb a b c;exact_mod_cast (show(0:Int)<(mc a b c:Int) by omega)
 have hg:(0:Rat)<(g:Rat):=by exact_mod_cast g0
 have f1:(g:Rat)*((dH a b c).a:Rat)=a*((mc a b c:Int):Rat):=by rw[k1,<-e1];unfold dH;push_cast;rfl
 have f2:(g:Rat)*((dH a b c).b:Rat)=b*((mc a b c:Int):Rat):=by rw[k2,<-e2];unfold dH;push_cast;rfl
 have f3:(g:Rat)*((dH a b c).c:Rat)=c*((mc a b c:Int):Rat):=by rw[k3,<-e3];unfold dH;push_cast;rfl
 refine⟨((mc a b c:Int):Rat)/(g:Rat),div_pos hD hg,fun p=>?_⟩;unfold aa.value aa.nor ah.dot;dsimp only;generalize ((dH a b c).a:Rat)=A at*;generalize ((dH a b c).b:Rat)=B at*;generalize ((dH a b c).c:Rat)=C at*;generalize ((mc a b c:Int):Rat)=D at*;generalize (g:Rat)=g at*;have hq:D/g*g=D:=by grind
 generalize D/g=q at*;subst hq;have:g*(A*p.x+B*p.y+C-q*(a*p.x+b*p.y+c))=0:=by grind
 have:=(fZ.1 this).resolve_left (by grind);grind
def D0{c:Rat}(h: ¬(a=0/\b=0)):(dH a b c).ok:=Ij (GI h)
def ah.subQ(p q:ah):ah:=⟨p.x-q.x,p.y-q.y⟩
def bD(f:ah×ah):ah:=⟨-(f.2.y-f.1.y),f.2.x-f.1.x⟩
def IU(f:ah×ah)(u:ah):bF f.1 f.2 u=(bD f).dot u-(bD f).dot f.1:=by unfold bF bD ah.dot;dsimp only;grind
structure gD (V:List ah) (E:List (ah×ah)):Prop where
 ends: ∀f∈E,f.1∈V/\f.2∈V
 cvx: ∀f∈E,∀v∈V,0<=bF f.1 f.2 v
 cen: ∃u,∀f∈E,0<bF f.1 f.2 u
 hull: ∀n u:ah,(∀f∈E,0<=bF f.1 f.2 u)-> ∃v∈V,n.dot v<=n.dot u
def El(n p q:ah):n.dot (p.subQ q)=n.dot p-n.dot q:=by unfold ah.dot ah.subQ;dsimp only;grind
def CD(l:aa)(p:ah):l.value p=l.nor.dot p+l.c:=rfl
def WD{E:List (ah×ah)}(hB:gD V E){m:Rat}(h: ∀u,(∀f∈E,0<bF f.1 f.2 u)->m<=n.dot u): ∀v∈V,m<=n.dot v:=fun v hv=>by
 obtain⟨u,hu⟩:=hB.cen;apply Classical.byContradiction;intro k
 -- a point near to v
 have hk:n.dot v<m:=by grind
 have h0:=h u hu;have key: ∀t:Rat,0<t->t<=1->m<=n.dot v+t*(n.dot u-n.dot v):=fun t t0 t1=>by
  rw[<-I2];refine h _ fun f hf=>?_;rw[aE3];have a:=hB.cvx f hf v hv;have b:=dd t0 (hu f hf);have c:=cC (show 0<=1-t by grind) a;grind
 generalize n.dot v=a at*;generalize n.dot u=b at*;have hd:0<b-a:=by grind
 have e:(m-a)/(2*(b-a))*(2*(b-a))=m-a:=by grind
 have q:=key ((m-a)/(2*(b-a))) (div_pos (by grind) (by grind)) ?_
 .generalize (m-a)/(2*(b-a))=t at*
  grind
 .generalize (m-a)/(2*(b-a))=t at*
  apply Classical.byContradiction;intro q;have:=dd (show 0<t-1 by grind) (show 0<2*(b-a) by grind);grind
def Vl(hc:bu c){m:Rat}(h: ∀q,bm c q->m<=n.dot q): ∀q,gH c q->m<=n.dot q:=fun v hv=>by
 obtain⟨u,hu⟩:=hc.ne;apply Classical.byContradiction;intro k;have hk:n.dot v<m:=by grind
 have h0:=h u hu;have key: ∀t:Rat,0<t->t<=1->m<=n.dot v+t*(n.dot u-n.dot v):=fun t t0 t1=>by
  rw[<-I2];refine h _ fun s hs=>?_;rw[kw];have a:=hv s hs;have b:=dd t0 (hu s hs);have c:=cC (show 0<=1-t by grind) a;grind
 generalize n.dot v=a at*;generalize n.dot u=b at*;have hd:0<b-a:=by grind
 have e:(m-a)/(2*(b-a))*(2*(b-a))=m-a:=by grind
 have q:=key ((m-a)/(2*(b-a))) (div_pos (by grind) (by grind)) ?_
 .generalize (m-a)/(2*(b-a))=t at*
  grind
 .generalize (m-a)/(2*(b-a))=t at*
  apply Classical.byContradiction;intro q;have:=dd (show 0<t-1 by grind) (show 0<2*(b-a) by grind);grind
def qP(f:ah×ah)(p:ah):aa:=dH (-(bD f).x) (-(bD f).y) ((bD f).dot p-(bD f).dot f.1)
def Mq{f:ah×ah}{u:ah}(h:0<bF f.1 f.2 u): ¬((bD f).x=0/\(bD f).y=0):=fun⟨h1,h2⟩=>by
 have e:bF f.1 f.2 u=(bD f).y*(u.y-f.1.y)+(bD f).x*(u.x-f.1.x):=by unfold bF bD;dsimp only;grind
 rw[e,h1,h2] at h;grind
def wq{f:ah×ah}{u:ah}(h:0<bF f.1 f.2 u)(p q:ah):0<(qP f p).value q↔0<bF f.1 f.2 (p.subQ q):=by
 have hz:=Mq h;obtain⟨g,g0,hg⟩:=Bb (a:= -(bD f).x) (b:= -(bD f).y) (c:=(bD f).dot p-(bD f).dot f.1) (fun⟨h1,h2⟩=>hz ⟨by grind,by grind⟩);unfold qP;rw[hg,AS g0,IU,El];have e: -(bD f).x*q.x+ -(bD f).y*q.y+((bD f).dot p-(bD f).dot f.1)=(bD f).dot p-(bD f).dot q-(bD f).dot f.1:=by unfold ah.dot;grind
 rw[e]
def aAk{E:List (ah×ah)}(hB:gD V E)(hc:bu c)(h1: ∀s∈c,∃v∈V,(∀w∈V,s.l.nor.dot v<=s.l.nor.dot w)/\0<s.l.value p-s.l.nor.dot v)
  (h2: ∀f∈E,(∃M,∀q,gH c q->M<=(bD f).dot q)-> ∃q,gH c q/\0<(bD f).dot p-(bD f).dot q-(bD f).dot f.1): ∃q,bm c q/\ ∀f∈E,0<bF f.1 f.2 (p.subQ q):=by
 obtain⟨u0,hu0⟩:=hB.cen;obtain⟨q0,hq0⟩:=hc.ne;obtain⟨q,hq⟩:=KQ _ ((c.map fun s=>s.l)++E.map fun f=>qP f p) rfl (by
  have cc: ∀l∈c.map (fun s:bt=>s.l),0<l.value q0:=fun l hl=>by obtain⟨s,hs,rfl⟩:=aR.1 hl;exact hq0 s hs
  have ee: ∀l∈E.map (fun f=>qP f p),0<l.value (p.subQ u0):=fun l hl=>by
   obtain⟨f,hf,rfl⟩:=aR.1 hl;rw[wq (hu0 f hf),show p.subQ (p.subQ u0)=u0 by unfold ah.subQ;cases u0;simp only[ah.mk.injEq];constructor<;>grind];exact hu0 f hf
  -- one edge: some point of the cell is on its left
  have one: ∀l∈E.map (fun f=>qP f p),∃q,bm c q/\0<l.value q:=fun l hl=>by
   obtain⟨f,hf,rfl⟩:=aR.1 hl;apply Classical.byContradiction;intro k;have k2: ∀q,bm c q->(bD f).dot p-(bD f).dot f.1<=(bD f).dot q:=fun q hq=>by
    have: ¬0<(qP f p).value q:=fun h=>k ⟨q,hq,h⟩;rw[wq (hu0 f hf),IU,El] at this;grind
   have k3:=Vl hc k2;obtain⟨q,hq,hv⟩:=h2 f hf ⟨_,k3⟩;have:=k3 q hq;grind
  -- one side: some point of the moved polygon is on its left
  have two: ∀l∈c.map (fun s:bt=>s.l),∃u,(∀f∈E,0<bF f.1 f.2 u)/\0<l.value (p.subQ u):=fun l hl=>by
   obtain⟨s,hs,rfl⟩:=aR.1 hl;apply Classical.byContradiction;intro k;have k2: ∀u,(∀f∈E,0<bF f.1 f.2 u)->s.l.value p<=s.l.nor.dot u:=fun u hu=>by
    have: ¬0<s.l.value (p.subQ u):=fun h=>k ⟨u,hu,h⟩;rw[CD,El] at this;rw[CD];grind
   have k3:=WD hB k2;obtain⟨v,hv,_,hp⟩:=h1 s hs;have:=k3 v hv;grind
  have emov: ∀l∈E.map (fun f=>qP f p),∀u,(∀f∈E,0<bF f.1 f.2 u)->0<l.value (p.subQ u):=fun l hl u hu=>by
   obtain⟨f,hf,rfl⟩:=aR.1 hl;rw[wq (hu0 f hf),show p.subQ (p.subQ u)=u by unfold ah.subQ;cases u;simp only[ah.mk.injEq];constructor<;>grind];exact hu f hf
  have cin: ∀l∈c.map (fun s:bt=>s.l),∀q,bm c q->0<l.value q:=fun l hl q hq=>by obtain⟨s,hs,rfl⟩:=aR.1 hl;exact hq s hs
  intro a ha b hb d hd;rcases aM.1 ha with ha|ha<;>rcases aM.1 hb with hb|hb<;>rcases aM.1 hd with hd|hd
  .exact⟨q0,cc a ha,cc b hb,cc d hd⟩
  .obtain⟨q,h,k⟩:=one d hd;exact⟨q,cin a ha q h,cin b hb q h,k⟩
  .obtain⟨q,h,k⟩:=one b hb;exact⟨q,cin a ha q h,k,cin d hd q h⟩
  .obtain⟨u,h,k⟩:=two a ha;exact⟨_,k,emov b hb u h,emov d hd u h⟩
  .obtain⟨q,h,k⟩:=one a ha;exact⟨q,k,cin b hb q h,cin d hd q h⟩
  .obtain⟨u,h,k⟩:=two b hb;exact⟨_,emov a ha u h,k,emov d hd u h⟩
  .obtain⟨u,h,k⟩:=two d hd;exact⟨_,emov a ha u h,emov b hb u h,k⟩
  .exact⟨_,ee a ha,ee b hb,ee d hd⟩)
 refine⟨q,fun s hs=>hq s.l (bV _ (dY hs)),fun f hf=>?_⟩;exact(wq (hu0 f hf) p q).1 (hq _ (bZ _ (dY hf)))
def axx{E:List (ah×ah)}(hB:gD V E){c:ar}{q u:ah}(hu: ∀f∈E,0<=bF f.1 f.2 u)(hl: ∀v∈V,low<=n.dot v):low<=n.dot u:=by
 obtain⟨v,hv,h⟩:=hB.hull n u hu;have:=hl v hv;grind
def jm(n:ah):List ah->Rat
 |[]=>0
 |p::t=>t.foldl (fun b q=>if n.dot q<b then n.dot q else b) (n.dot p)
def J7{n:ah}: ∀(t:List ah) (b:Rat),(t.foldl (fun b q=>if n.dot q<b then n.dot q else b) b<=b/\ ∀q∈t,t.foldl (fun b q=>if n.dot q<b then n.dot q else b) b<=n.dot q)/\(t.foldl (fun b q=>if n.dot q<b then n.dot q else b) b=b\/ ∃q∈t,t.foldl (fun b q=>if n.dot q<b then n.dot q else b) b=n.dot q)
 |[],b=>⟨⟨iV,fun q hq=>by cases hq⟩, .inl J⟩
 |p::t,b=>by
  obtain⟨⟨h1,h2⟩,h3⟩:=J7 t (if n.dot p<b then n.dot p else b);rw[kY];generalize t.foldl (fun b q=>if n.dot q<b then n.dot q else b) (if n.dot p<b then n.dot p else b)=z at*;refine⟨⟨by split at h1<;>grind,fun q hq=>?_⟩,?_⟩
  .rcases aK.1 hq with rfl|hq
   .split at h1<;>grind
   .exact h2 q hq
  .rcases h3 with h3|⟨q,hq,h3⟩
   .split at h3
    .exact .inr ⟨p,aQ,h3⟩
    .exact .inl h3
   .exact .inr ⟨q,aJ _ hq,h3⟩
def qo{l:List ah}(h:l≠[]):(∀q∈l,jm n l<=n.dot q)/\ ∃q∈l,jm n l=n.dot q:=by
 cases l with
 |nil=>exact absurd J h
 |cons p t=>
  obtain⟨⟨h1,h2⟩,h3⟩:=J7 (n:=n) t (n.dot p);refine⟨fun q hq=>?_,?_⟩
  .rcases aK.1 hq with rfl|hq
   .exact h1
   .exact h2 q hq
  .rcases h3 with h3|⟨q,hq,h3⟩
   .exact⟨p,aQ,h3⟩
   .exact⟨q,aJ _ hq,h3⟩
def iz(n:ah)(s:bt):Bool:=(s.v.nh&&decide (s.l.dir.dot n<0))||(s.v.nl&&decide (0<s.l.dir.dot n))
def rx(n:ah):ar->Bool
 |[s]=>decide (s.l.nor.dot n<0)
 |_=>false
def i9(c:ar):List ah:=(c.map fun s=>s.l.at s.v.sample)++jj (c.map (·.l))
def gz(c:ar)(n:ah):Option Rat:=if c.isEmpty||rx n c then none else if c.any (iz n) then none else some (jm n (i9 c))
def Am(hc:bu c)(ha:gg c)(hs:s∈c)(nh:s.v.nh=false):s.l.at s.v.hi∈jj (c.map (·.l)):=by
 obtain⟨i,hi,ei⟩:=List.getElem_of_mem hs;have h1:c[i]? =some s:=by rw[aZ hi,ei]
 obtain⟨w,hw⟩: ∃w,c[(i+1)%c.length]? =some w:=⟨_,aZ (dK _ (by omega))⟩;have mw:=aV hw;have hn:ww (c.map fun s=>s.l.dir) s.l.dir w.l.dir:=P4 ha (by rw[cY,h1];rfl) (by rw[aX,cY,hw];rfl);obtain⟨k1,k2⟩:=RP hc hs mw hn nh;have hx:crossI s.l w.l≠0:=Hk ((mn _).2 k1);unfold jj;rw[iX,aX];refine⟨i,kV.2 hi,?_⟩;rw[vx (l:=s.l) (m:=w.l) (by rw[cY,h1];rfl) (by rw[aX,cY,hw];rfl),if_pos ((mn _).2 k1),aU];exact L4 hx (lg (hc.ok s hs).ne _) k2
def Ut(s u:aa):s.nor.dot u.dir= -(u.nor.dot s.dir):=by unfold aa.nor aa.dir ah.dot;dsimp only;grind
def E3(hc:bu c)(ha:gg c)(hs:s∈c)(nl:s.v.nl=false):s.l.at s.v.lo∈jj (c.map (·.l)):=by
 obtain⟨u,hu,z1,z2⟩:=TE hc hs nl;have hin:=((hc.edge s hs).2 _).1 (QL (hc.edge s hs).1 nl);obtain⟨t,ht⟩:=Br (hc.ok u hu).ne z1;rw[ht] at hin;have hh:=((hc.edge u hu).2 t).2 hin;have no: ∀e:Rat,0<e-> ¬u.v.has (t+e):=fun e he k=>by
  have k:=((hc.edge u hu).2 _).1 k s hs;rw[Ft,<-ht,lg (hc.ok s hs).ne,Ut] at k;have:=dd he z2;grind
 have nh:u.v.nh=false:=by
  cases q:u.v.nh with
  |false=>rfl
  |true=>exact absurd ⟨hh.1.elim .inl fun k=> .inr (by grind), .inl q⟩ (no 1 (by decide))
 have e:t=u.v.hi:=by
  have h2:=hh.2.resolve_left (by rw[nh];simp);apply Classical.byContradiction;intro k;refine no (u.v.hi-t) (by grind) ⟨hh.1.elim .inl fun k=> .inr (by grind), .inr (by grind)⟩
 rw[ht,e];exact Am hc ha hu nh
def VC(hc:bu c)(ha:gg c): ∀q∈i9 c,gH c q:=fun q hq=>by
 unfold i9 at hq;rcases aM.1 hq with hq|hq
 .obtain⟨s,hs,rfl⟩:=aR.1 hq
  exact(xo hc hs).1
 .unfold jj at hq
  rw[iX,aX] at hq;obtain⟨i,hi,hq⟩:=hq;have hi:=kV.1 hi;obtain⟨s,hs⟩: ∃s,c[i]? =some s:=⟨_,aZ hi⟩;obtain⟨w,hw⟩: ∃w,c[(i+1)%c.length]? =some w:=⟨_,aZ (dK _ (by omega))⟩;have ms:=aV hs;have mw:=aV hw;rw[vx (l:=s.l) (m:=w.l) (by rw[cY,hs];rfl) (by rw[aX,cY,hw];rfl)] at hq;split at hq
  .rename_i k
   have k1:=(mn _).1 k;rw[aU] at hq;subst hq;have hn:ww (c.map fun s=>s.l.dir) s.l.dir w.l.dir:=P4 ha (by rw[cY,hs];rfl) (by rw[aX,cY,hw];rfl)
   -- the side ends, as the next one stops it
   have nh:s.v.nh=false:=by
    cases q:s.v.nh with
    |false=>rfl
    |true=>
     have:=Qe hc ms q w mw;rw[<-Ga,vQ] at this;grind
   obtain⟨_,k2⟩:=RP hc ms mw hn nh;have hx:crossI s.l w.l≠0:=Hk k;rw[<-L4 hx (lg (hc.ok s ms).ne _) k2];exact((hc.edge s ms).2 _).1 (FI (hc.edge s ms).1 nh)
  .cases hq
def DC{u:ah}(h: ∀t:Rat,0<=t->gH c (cG p u t))(hn:n.dot u<0)(M:Rat): ∃q,gH c q/\n.dot q<M:=by
 by_cases k:n.dot p<M
 .refine⟨_,h 0 iV,?_⟩
  rw[yo];grind
 .have e:(n.dot p-M)/ -(n.dot u)* -(n.dot u)=n.dot p-M:=by grind
  have e0:0<=(n.dot p-M)/ -(n.dot u):=(gE (s:=(n.dot p-M)/ -(n.dot u)) (k:= -(n.dot u)) (by grind)).1 (by rw[e];grind);refine⟨_,h ((n.dot p-M)/ -(n.dot u)+1) (by grind),?_⟩;rw[yo];generalize (n.dot p-M)/ -(n.dot u)=t at*;grind
def Wb(hc:bu c)(hn: ¬(n.x=0/\n.y=0))(h:gz c n=none)(M:Rat): ∃q,gH c q/\n.dot q<M:=by
 have hN:=JS hn;have hneg:n.dot (fj n)<0:=by unfold ah.dot fj;dsimp only;grind
 unfold gz at h;split at h
 .rename_i k
  rw[gM] at k
  cases c with
  |nil=>exact DC (p:=⟨0,0⟩) (u:=fj n) (fun t _ s hs=>by cases hs) hneg M
  |cons s t=>
   rcases k with k|k
   .cases k
   .cases t with
    |cons _ _=>cases k
    |nil=>
     have k:=of_decide_eq_true (show decide (s.l.nor.dot n<0)=true from k);obtain⟨q,hq⟩:=hc.ne;refine DC (p:=q) (u:=fj n) (fun t ht w hw=>?_) hneg M;have e:=aU.1 hw;subst e;rw[jf];have a:=hq w hw;have e2:w.l.nor.dot (fj n)= -(w.l.nor.dot n):=by unfold ah.dot fj;dsimp only;grind
     have b:=cC ht (show 0<=w.l.nor.dot (fj n) by rw[e2];grind);grind
 .split at h
  .rename_i k
   obtain⟨s,hs,k⟩:=jY.1 k;unfold iz at k;rw[gM,bU,bU,decide_eq_true_eq,decide_eq_true_eq] at k;have hh:=((hc.edge s hs).2 _).2 (xo hc hs).1;have e1:n.dot s.l.dir=s.l.dir.dot n:=by unfold ah.dot;grind
   have e2:n.dot (fj s.l.dir)= -(s.l.dir.dot n):=by unfold ah.dot fj;dsimp only;grind
   rcases k with⟨k1,k2⟩|⟨k1,k2⟩
   .refine DC (p:=s.l.at s.v.sample) (u:=s.l.dir) (fun t ht=>?_) (by rw[e1];exact k2) M
    rw[<-Cu];exact((hc.edge s hs).2 _).1 ⟨hh.1.elim .inl fun k=> .inr (by grind), .inl k1⟩
   .refine DC (p:=s.l.at s.v.sample) (u:=fj s.l.dir) (fun t ht=>?_) (by rw[e2];grind) M
    have e3:cG (s.l.at s.v.sample) (fj s.l.dir) t=s.l.at (s.v.sample+ -t):=by rw[Cu];unfold cG fj;simp only[ah.mk.injEq];constructor<;>grind
    rw[e3];exact((hc.edge s hs).2 _).1 ⟨.inl k1,hh.2.elim .inl fun k=> .inr (by grind)⟩
  .cases h
def GH(hc:bu c)(ha:gg c)(hn: ¬(n.x=0/\n.y=0)){m:Rat}(h:gz c n=some m):(∀q,gH c q->m<=n.dot q)/\ ∃q,gH c q/\n.dot q=m:=by
 have hN:=JS hn;unfold gz at h;split at h
 .cases h
 rename_i k1;split at h
 .cases h
 rename_i k2
 cases h
 have k1:c.isEmpty=false/\rx n c=false:=by simpa using k1
 have k2: ∀s∈c,iz n s=false:=fun s hs=>by
  cases q:iz n s with
  |false=>rfl
  |true=>exact absurd (jY.2 ⟨s,hs,q⟩) k2
 have hne:i9 c≠[]:=by
  unfold i9
  cases c with
  |nil=>cases k1.1
  |cons s t=>simp
 obtain⟨l1,q0,hq0,l2⟩:=qo (n:=n) hne;refine⟨?_,q0,VC hc ha q0 hq0,l2.symm⟩;have side: ∀s∈c,∀q,s.l.value q=0->gH c q->jm n (i9 c)<=n.dot q:=fun s hs q hz hq=>by
  obtain⟨t,rfl⟩:=Br (hc.ok s hs).ne hz;have hh:=((hc.edge s hs).2 t).2 hq;have ho:=k2 s hs;unfold iz at ho;have e1:s.l.dir.dot n=n.dot s.l.dir:=by unfold ah.dot;grind
  rw[lK,e1] at ho;have f: ∀u,n.dot (s.l.at u)=n.dot (s.l.at 0)+u*n.dot s.l.dir:=fun u=>by rw[Kr s.l u,yo]
  rcases jz (n.dot s.l.dir) with k|k|k
  .have:=l1 (s.l.at s.v.sample) (bV _ (dY (f:=fun s:bt=>s.l.at s.v.sample) hs))
   rw[f,k] at this⊢;grind
  .have nl:s.v.nl=false:=by
    cases q:s.v.nl with
    |false=>rfl
    |true=>rw[q,decide_eq_true k] at ho;exact absurd ho.2 (by simp)
   have:=l1 _ (bZ _ (E3 hc ha hs nl));have h1:=hh.1.resolve_left (by rw[nl];simp);have h2:=cC (show 0<=t-s.v.lo by grind) (cM k);rw[f] at this⊢;grind
  .have nh:s.v.nh=false:=by
    cases q:s.v.nh with
    |false=>rfl
    |true=>rw[q,decide_eq_true k] at ho;exact absurd ho.1 (by simp)
   have:=l1 _ (bZ _ (Am hc ha hs nh));have h1:=hh.2.resolve_left (by rw[nh];simp);have h2:=cC (show 0<=s.v.hi-t by grind) (show 0<= -n.dot s.l.dir by grind);rw[f] at this⊢;grind
 -- a point that moves until a side stops it
 have go: ∀p,gH c p-> ∀d:ah,n.dot d<=0->(∃u∈c,u.l.nor.dot d<0)->jm n (i9 c)<=n.dot p:=fun p hp d hd0 hex=>by
  by_cases hd:bm c p
  .obtain⟨u,hu,hk⟩:=hex
   have v0:=hd u hu;obtain⟨T,hT⟩: ∃T,T=u.l.value p/ -(u.l.nor.dot d):=⟨_,rfl⟩;have e:T* -(u.l.nor.dot d)=u.l.value p:=by rw[hT];generalize u.l.nor.dot d=z at*;grind
   have T0:0<T:=(fC (k:= -(u.l.nor.dot d)) (by grind)).1 (by rw[e];exact v0);obtain⟨r,r0,r1,⟨s,ms,_,zs⟩,hC⟩:=JL (p:=cG p d T) hd ⟨u,hu,by rw[jf];grind⟩;have:=side s ms _ zs hC;rw[I2,yo] at this;have:=cC r0 (cC (cM T0) (show 0<= -(n.dot d) by grind));grind
  .have: ∃s∈c,¬0<s.l.value p:=by
    apply Classical.byContradiction;intro k;exact hd fun s hs=>Classical.byContradiction fun k2=>k ⟨s,hs,k2⟩
   obtain⟨s,hs,k⟩:=this;have:=hp s hs;exact side s hs p (by grind) hp
 intro p hp;by_cases q1: ∃u∈c,u.l.nor.dot (gF n)≠0
 .obtain⟨u,hu,k⟩:=q1
  have z:n.dot (gF n)=0:=by unfold ah.dot gF;grind
  rcases jz (u.l.nor.dot (gF n)) with k|h|h
  .contradiction
  .refine go p hp (fj (gF n)) ?_ ⟨u,hu,?_⟩
   .unfold ah.dot gF fj;dsimp only;grind
   .have:u.l.nor.dot (fj (gF n))= -(u.l.nor.dot (gF n)):=by unfold ah.dot fj;dsimp only;grind
    rw[this];grind
  .exact go p hp (gF n) (by rw[z];exact iV) ⟨u,hu,h⟩
 .have q1: ∀u∈c,u.l.nor.dot (gF n)=0:=fun u hu=>Classical.byContradiction fun k=>q1 ⟨u,hu,k⟩
  by_cases q2: ∃u∈c,0<u.l.nor.dot n
  .obtain⟨u,hu,k⟩:=q2
   have e: ∀z:ah,z.dot (fj n)= -(z.dot n):=fun z=>by unfold ah.dot fj;dsimp only;grind
   refine go p hp (fj n) ?_ ⟨u,hu,by rw[e];grind⟩;rw[e];unfold ah.dot;grind
  .exfalso
   have q3: ∀u∈c,u.l.nor.dot n<0:=fun u hu=>by
    have h1:=q1 u hu;have h2: ¬0<u.l.nor.dot n:=fun k=>q2 ⟨u,hu,k⟩;have h3:=mf (hc.ok u hu).ne;by_cases h4:u.l.nor.dot n=0
    .exfalso
     have e:(n.x*n.x+n.y*n.y)*(u.l.nor.dot u.l.nor)=(u.l.nor.dot n)*(u.l.nor.dot n)+(u.l.nor.dot (gF n))*(u.l.nor.dot (gF n)):=by unfold ah.dot gF;dsimp only;grind
     rw[h1,h4] at e;have:=dd hN h3;grind
    .grind
   cases c with
   |nil=>cases k1.1
   |cons s t=>
    cases t with
    |nil=>
     have:=k1.2;unfold rx at this;have:=of_decide_eq_false this;exact this (q3 s aQ)
    |cons w t=>
     have hB:d6 s.l.dir w.l.dir:=by
      unfold gg at ha;rw[bY,bY] at ha;exact(bS.1 ha).1 _ aQ
     have a1:=q3 s aQ;have a2:=q3 w (aJ _ aQ);have b1:=q1 s aQ;have b2:=q1 w (aJ _ aQ);have hz:s.l.dir.cross w.l.dir=0:=by
      have e:(n.x*n.x+n.y*n.y)*s.l.dir.cross w.l.dir=(s.l.nor.dot n)*(w.l.nor.dot (gF n))-(s.l.nor.dot (gF n))*(w.l.nor.dot n):=by unfold ah.dot gF ah.cross aa.dir aa.nor;dsimp only;grind
      rw[b1,b2] at e;have:(n.x*n.x+n.y*n.y)*s.l.dir.cross w.l.dir=0:=by grind
      exact(fZ.1 this).resolve_left (by grind)
     have e: ∀l:aa,l.dir.cross (fj n)= -(l.nor.dot n):=fun l=>by rw[Ga];unfold ah.dot fj;dsimp only;grind
     have hh:=WB (Du (hc.ok s aQ)) (Du (hc.ok w (aJ _ aQ))) hz (z:=fj n) (by rw[e];grind) (by rw[e];grind);rcases hB with k|⟨_,k⟩
     .omega
     .rw[hz] at k;exact absurd k (by decide)
def X4{m:aa}(hl:l.ok)(hm:m.ok)(hk:0<k)(h: ∀p,l.value p=k*m.value p):l=m:=by
 have hz: ∀s,l.value (m.at s)=0:=fun s=>by rw[h,lg hm.ne];grind
 rcases x6 hl hm hz with e|e
 .exact e
 .exfalso
  have hn:=mf hm.ne;have h1:=h (cG (m.at 0) m.nor 1);rw[e,en,jf,lg hm.ne] at h1;have:=dd hk hn;grind
def YA{c:Rat}(h: ¬(a=0/\b=0))(h': ¬(a'=0/\b'=0))(hk:0<k)(e: ∀p:ah,a*p.x+b*p.y+c=k*(a'*p.x+b'*p.y+c')):dH a b c=dH a' b' c':=by
 obtain⟨g,g0,hg⟩:=Bb (c:=c) h;obtain⟨g',g0',hg'⟩:=Bb (c:=c') h';refine X4 (D0 h) (D0 h') (k:=g*k/g') (div_pos (dd g0 hk) g0') fun p=>?_;rw[hg,hg',e];have:g*k/g'*g'=g*k:=by grind
 generalize g*k/g'=z at*;grind
def jx(l:aa)(V:List ah):aa:=dH l.a l.b (l.c-jm l.nor V)
def Fx(h:l.ok): ¬((l.a:Rat)=0/\(l.b:Rat)=0):=fun⟨h1,h2⟩=>by
 have:=mf h.ne;unfold aa.nor ah.dot at this;dsimp only at this;rw[h1,h2] at this;grind
def x8(c:List aa):List ah:=if(jj c).isEmpty then c.map aa.base else jj c
def lv(c:ar)(f:ah×ah):Option aa:=(gz c (bD f)).map fun m=>dH (bD f).x (bD f).y (-(m+(bD f).dot f.1))
def jd(c:ar)(V:List ah)(E:List (ah×ah)):List aa:=(c.map fun s=>jx s.l V)++E.filterMap (lv c)
def ax7(hc:bu c)(hs:s∈c)(nl:s.v.nl=true)(nh:s.v.nh=true): ∀u∈c,u.l.nor.dot s.l.dir=0:=fun u hu=>by
 have h1:=Qe hc hs nh u hu;have h2:=TP hc hs nl u hu;grind
def Z7(hc:bu c)(hs:s∈c)(nl:s.v.nl=true)(nh:s.v.nh=true):jj (c.map (·.l))=[]:=by
 have hp:=ax7 hc hs nl nh;unfold jj;rw[aX,List.flatMap_eq_nil_iff];intro i hi;have hi:=kV.1 hi;obtain⟨a,ha⟩: ∃s,c[i]? =some s:=⟨_,aZ hi⟩;obtain⟨b,hb⟩: ∃w,c[(i+1)%c.length]? =some w:=⟨_,aZ (dK _ (by omega))⟩;have h1:=hp a (aV ha);have h2:=hp b (aV hb);rw[vx (l:=a.l) (m:=b.l) (by rw[cY,ha];rfl) (by rw[aX,cY,hb];rfl),if_neg];rw[mn];have hz:=mf (hc.ok s hs).ne;have e:(s.l.nor.dot s.l.nor)*a.l.dir.cross b.l.dir=(a.l.nor.dot s.l.dir)*(b.l.nor.dot s.l.nor)-(a.l.nor.dot s.l.nor)*(b.l.nor.dot s.l.dir):=by unfold ah.dot ah.cross aa.dir aa.nor;dsimp only;grind
 rw[h1,h2] at e;intro k;have:=dd hz k;grind
def QJ(hc:bu c)(ha:gg c)(hn: ¬(n.x=0/\n.y=0)){m:Rat}(hf:gz c n=some m):jm n (x8 (c.map fun s=>s.l))=m/\x8 (c.map fun s=>s.l)≠[]:=by
 obtain⟨f1,f2⟩:=GH hc ha hn hf;have hf':=hf;unfold gz at hf';split at hf'
 .cases hf'
 rename_i k1;split at hf'
 .cases hf'
 rename_i k2
 cases hf'
 have k1:c.isEmpty=false/\rx n c=false:=by simpa using k1
 have k2: ∀s∈c,iz n s=false:=fun s hs=>by
  cases q:iz n s with
  |false=>rfl
  |true=>exact absurd (jY.2 ⟨s,hs,q⟩) k2
 have hne:i9 c≠[]:=by
  unfold i9
  cases c with
  |nil=>cases k1.1
  |cons s t=>simp
 obtain⟨l1,q0,hq0,l2⟩:=qo (n:=n) hne;have e1: ∀s:bt,s.l.dir.dot n=n.dot s.l.dir:=fun s=>by unfold ah.dot;grind
 have f: ∀(s:bt) u,n.dot (s.l.at u)=n.dot (s.l.at 0)+u*n.dot s.l.dir:=fun s u=>by rw[Kr s.l u,yo]
 unfold x8;by_cases hv:(jj (c.map fun s=>s.l)).isEmpty=true
 .rw[if_pos hv]
  have hv':jj (c.map fun s=>s.l)=[]:=List.isEmpty_iff.1 hv;have flat: ∀s∈c,n.dot s.l.dir=0/\n.dot s.l.base=n.dot (s.l.at s.v.sample):=fun s hs=>by
   have nl:s.v.nl=true:=by
    cases q:s.v.nl with
    |true=>rfl
    |false=>have:=E3 hc ha hs q;rw[hv'] at this;cases this
   have nh:s.v.nh=true:=by
    cases q:s.v.nh with
    |true=>rfl
    |false=>have:=Am hc ha hs q;rw[hv'] at this;cases this
   have ho:=k2 s hs;unfold iz at ho;rw[nl,nh,lK,sX,sX,decide_eq_false_iff_not,decide_eq_false_iff_not,e1] at ho;have z:n.dot s.l.dir=0:=by rcases jz (n.dot s.l.dir) with k|k|k;exact k;exact absurd k ho.2;exact absurd k ho.1
   refine⟨z,?_⟩;rw[<-yz,yo,z];grind
  have hne2:(c.map fun s=>s.l).map aa.base≠[]:=by
   cases c with
   |nil=>cases k1.1
   |cons s t=>simp
  obtain⟨g1,p1,hp1,g2⟩:=qo (n:=n) hne2;refine⟨?_,hne2⟩;obtain⟨l,hl,rfl⟩:=aR.1 hp1;obtain⟨s,hs,rfl⟩:=aR.1 hl;have a1:=l1 (s.l.at s.v.sample) (bV _ (dY (f:=fun s:bt=>s.l.at s.v.sample) hs));rw[<-(flat s hs).2,<-g2] at a1;have a2:jm n ((c.map fun s=>s.l).map aa.base)<=jm n (i9 c):=by
   unfold i9 at hq0;rw[hv',fL] at hq0;obtain⟨w,hw,rfl⟩:=aR.1 hq0;rw[l2,<-(flat w hw).2];exact g1 _ (dY (dY (f:=fun s:bt=>s.l) hw))
  grind
 .rw[if_neg hv]
  have hne2:jj (c.map fun s=>s.l)≠[]:=fun e=>hv (by rw[e];rfl);obtain⟨g1,p1,hp1,g2⟩:=qo (n:=n) hne2;refine⟨?_,hne2⟩;have a1:=l1 p1 (bZ _ hp1);rw[<-g2] at a1
  -- the least value is one of a corner
  have a2: ∃v∈jj (c.map fun s=>s.l),n.dot v=jm n (i9 c):=by
   unfold i9 at hq0;rcases aM.1 hq0 with h|h
   .obtain⟨s,hs,rfl⟩:=aR.1 h
    have hi:=(hc.edge s hs).1;have hsm:=nf hi;have z:n.dot s.l.dir=0:=by
     rcases jz (n.dot s.l.dir) with k|k|k
     .exact k
     .exfalso
      have ho:=k2 s hs;unfold iz at ho;rw[lK,e1] at ho;have nl:s.v.nl=false:=by
       cases q:s.v.nl with
       |false=>rfl
       |true=>rw[q,decide_eq_true k] at ho;exact absurd ho.2 (by simp)
      have:=l1 _ (bZ _ (E3 hc ha hs nl));have h1:=hsm.1.resolve_left (by rw[nl];simp);rw[l2,f s s.v.sample,f s s.v.lo] at this;have:=dd (show 0<s.v.sample-s.v.lo by grind) k;grind
     .exfalso
      have ho:=k2 s hs;unfold iz at ho;rw[lK,e1] at ho;have nh:s.v.nh=false:=by
       cases q:s.v.nh with
       |false=>rfl
       |true=>rw[q,decide_eq_true k] at ho;exact absurd ho.1 (by simp)
      have:=l1 _ (bZ _ (Am hc ha hs nh));have h1:=hsm.2.resolve_left (by rw[nh];simp);rw[l2,f s s.v.sample,f s s.v.hi] at this;have:=dd (show 0<s.v.hi-s.v.sample by grind) (show 0< -(n.dot s.l.dir) by grind);grind
    cases nl:s.v.nl with
    |false=>exact⟨_,E3 hc ha hs nl,by rw[l2,f s s.v.lo,f s s.v.sample,z];grind⟩
    |true=>
     cases nh:s.v.nh with
     |false=>exact⟨_,Am hc ha hs nh,by rw[l2,f s s.v.hi,f s s.v.sample,z];grind⟩
     |true=>exact absurd (Z7 hc hs nl nh) hne2
   .exact⟨q0,h,l2.symm⟩
  obtain⟨v,hv2,e⟩:=a2;have:=g1 v hv2;grind
section
end
def kA:List aa->Tr
 |[]=> .leaf true
 |l::t=> .node l (kA t) (.leaf false)
def NV: ∀{L:List aa},(kA L).lns=L
 |[]=>rfl
 |l::t=>by rw[kA,Tr.lns,NV,Tr.lns,fL]
def Pw: ∀{L:List aa} {p:ah},(kA L).val p=true↔fH L p
 |[],p=>⟨fun _ l hl=>(by cases hl),fun _=>J⟩
 |l::t,p=>by
  rw[kA];by_cases h:0<l.value p
  .rw[Tr.val_pos h,Pw (L:=t)]
   constructor
   .intro k m hm
    rcases aK.1 hm with rfl|hm
    .exact h
    .exact k m hm
   .exact fun k m hm=>k m (aJ _ hm)
  .rw[Tr.val_neg h]
   constructor
   .intro k;cases k
   .intro k;exact absurd (k l aQ) h
def Or{P:aa->Prop}(h: ∀l∈L,P l):(kA L).all P:=j'.2 (by rw[NV];exact h)
def Po: ∀(L:List aa),(kA L).depth=L.length
 |[]=>rfl
 |l::t=>by rw[kA,Tr.depth,Po t,bQ];show 1+max _ 0=_;omega
def NA: ∀(L:List aa),(kA L).size=L.length
 |[]=>rfl
 |l::t=>by rw[kA,Tr.size,NA t,bQ];show 1+_+0=_;omega
def M4: ∀{ls:List aa} {c e:ar},bu c->gg c->(∀l∈ls,l.ok)->iI ls c=some e->gg e
 |[],c,e,_,ha,_,h=>by
  obtain rfl:c=e:=by simpa[iI] using h
  exact ha
 |l::t,c,e,hc,ha,hl,h=>by
  have hl':=dW.1 hl;rw[iI] at h;split at h
  .rename_i hb
   exact M4 (gk hc hl'.1 hb).1 (Ib hc hl'.1 ha hb) hl'.2 h
  .exact absurd h (by simp)
def gD.nz{E:List (ah×ah)}(hB:gD V E){f:ah×ah}(hf:f∈E): ¬((bD f).x=0/\(bD f).y=0):=by
 obtain⟨u,hu⟩:=hB.cen;exact Mq (hu f hf)
def gD.vne{E:List (ah×ah)}(hB:gD V E):V≠[]:=by
 obtain⟨u,hu⟩:=hB.cen;obtain⟨v,hv,_⟩:=hB.hull ⟨0,0⟩ u fun f hf=>cM (hu f hf);exact List.ne_nil_of_mem hv
def BJ(hl:l.ok)(V:List ah):(jx l V).ok/\ ∃g:Rat,0<g/\ ∀p,(jx l V).value p=g*(l.value p-jm l.nor V):=by
 refine⟨D0 (Fx hl),?_⟩;obtain⟨g,g0,hg⟩:=Bb (c:=l.c-jm l.nor V) (Fx hl);refine⟨g,g0,fun p=>?_⟩;unfold jx;rw[hg,CD];unfold aa.nor ah.dot;dsimp only;grind
def Cm{f:ah×ah}(hn: ¬((bD f).x=0/\(bD f).y=0))(h:lv c f=some l): ∃m,gz c (bD f)=some m/\l.ok/\ ∃g:Rat,0<g/\ ∀p,l.value p=g*((bD f).dot p-m-(bD f).dot f.1):=by
 unfold lv at h
 cases hf:gz c (bD f) with
 |none=>rw[hf] at h;cases h
 |some m=>
  rw[hf] at h
  cases h
  refine⟨m,J,D0 hn,?_⟩;obtain⟨g,g0,hg⟩:=Bb (c:= -(m+(bD f).dot f.1)) hn;refine⟨g,g0,fun p=>?_⟩;rw[hg];unfold ah.dot;grind
def MM{E:List (ah×ah)}(hB:gD V E)(hc:bu c): ∀l∈jd c V E,l.ok:=fun l hl=>by
 rcases aM.1 hl with hl|hl
 .obtain⟨s,hs,rfl⟩:=aR.1 hl
  exact(BJ (hc.ok s hs) V).1
 .obtain⟨f,hf,e⟩:=jS.1 hl
  obtain⟨_,_,h,_⟩:=Cm (hB.nz hf) e;exact h
def Ri{E:List (ah×ah)}(hB:gD V E)(hc:bu c)(ha:gg c)(p:ah):fH (jd c V E) p↔ ∃q,bm c q/\ ∀f∈E,0<bF f.1 f.2 (p.subQ q):=by
 constructor
 .intro h
  refine aAk hB hc (fun s hs=>?_) fun f hf ⟨M,hM⟩=>?_
  .obtain⟨h1,v,hv,h2⟩:=qo (n:=s.l.nor) hB.vne
   refine⟨v,hv,fun w hw=>by rw[<-h2];exact h1 w hw,?_⟩;obtain⟨_,g,g0,hg⟩:=BJ (hc.ok s hs) V;have:=h _ (bV _ (dY (f:=fun s:bt=>jx s.l V) hs));rw[hg] at this;rw[<-h2];exact(AS g0).1 this
  .cases hfl:gz c (bD f) with
   |none=>
    obtain⟨q,hq,hlt⟩:=Wb hc (hB.nz hf) hfl M;have:=hM q hq;grind
   |some m=>
    obtain⟨_,q,hq,e⟩:=GH hc ha (hB.nz hf) hfl;refine⟨q,hq,?_⟩;have he:lv c f=some (dH (bD f).x (bD f).y (-(m+(bD f).dot f.1))):=by unfold lv;rw[hfl];rfl
    obtain⟨m',k1,_,g,g0,hg⟩:=Cm (hB.nz hf) he;rw[hfl] at k1;cases k1;have:=h _ (bZ _ (jS.2 ⟨f,hf,he⟩));rw[hg] at this;rw[e];exact(AS g0).1 this
 .rintro ⟨q,hq,hu⟩ l hl
  have hdp: ∀n:ah,n.dot p=n.dot q+n.dot (p.subQ q):=fun n=>by rw[El];grind
  rcases aM.1 hl with hl|hl
  .obtain⟨s,hs,rfl⟩:=aR.1 hl
   obtain⟨_,g,g0,hg⟩:=BJ (hc.ok s hs) V;rw[hg,AS g0];have h1:=axx hB (c:=c) (q:=q) (u:=p.subQ q) (fun f hf=>cM (hu f hf)) (qo (n:=s.l.nor) hB.vne).1;have h2:=hq s hs;rw[CD] at h2⊢;rw[hdp];grind
  .obtain⟨f,hf,e⟩:=jS.1 hl
   obtain⟨m,k1,_,g,g0,hg⟩:=Cm (hB.nz hf) e;rw[hg,AS g0,hdp];have h1:=hu f hf;rw[IU] at h1;have h2:=(GH hc ha (hB.nz hf) k1).1 q hq.c;grind
def XV{E:List (ah×ah)}(hB:gD V E)(hc:bu c)(ha:gg c): ∃p,fH (jd c V E) p:=by
 obtain⟨q,hq⟩:=hc.ne;obtain⟨u,hu⟩:=hB.cen;refine⟨q.add u,(Ri hB hc ha _).2 ⟨q,hq,fun f hf=>?_⟩⟩;have e:(q.add u).subQ q=u:=by unfold ah.subQ ah.add;cases u;simp only[ah.mk.injEq];constructor<;>grind
 rw[e];exact hu f hf
def FB{E:List (ah×ah)}(hB:gD V E)(hc:bu c)(ha:gg c): ∃d,iI (jd c V E) []=some d/\bu d/\gg d/\(∀p,bm d p↔fH (jd c V E) p)/\ij (jd c V E)=d.map (·.l):=by
 have hok:=MM hB hc;obtain⟨p,hp⟩:=XV hB hc ha;obtain⟨d,hd⟩:=Jw bu.nil hok ⟨p,fun s hs=>absurd hs (by simp),hp⟩;obtain⟨g1,g2⟩:=HZ bu.nil hok hd;have g2: ∀p,bm d p↔fH (jd c V E) p:=fun p=>by
  rw[g2];exact⟨fun h=>h.2,fun h=>⟨fun s hs=>absurd hs (by simp),h⟩⟩
 have g3:=M4 bu.nil .nil hok hd;exact⟨d,hd,g1,g3,g2,VW hok g1 g3 g2⟩
def eu(V:List ah)(E:List (ah×ah))(c:ar):Tr:=kA (ij (jd c V E))
def EB{E:List (ah×ah)}(hB:gD V E)(hc:bu c)(ha:gg c):(eu V E c).all aa.ok:=by
 obtain⟨d,_,g1,_,_,e⟩:=FB hB hc ha;unfold eu;rw[e];exact Or fun l hl=>by obtain⟨s,hs,rfl⟩:=aR.1 hl;exact g1.ok s hs
def KW{E:List (ah×ah)}(hB:gD V E)(hc:bu c)(ha:gg c)(p:ah):(eu V E c).val p=true↔ ∃q,bm c q/\ ∀f∈E,0<bF f.1 f.2 (p.subQ q):=by
 obtain⟨d,_,g1,_,g2,e⟩:=FB hB hc ha;unfold eu;rw[e,Pw,<-Ri hB hc ha,<-g2];unfold fH bm;constructor
 .intro h s hs;exact h s.l (dY (f:=fun s:bt=>s.l) hs)
 .intro h l hl;obtain⟨s,hs,rfl⟩:=aR.1 hl;exact h s hs
def Hm{P:ah×ah->Prop}{f:ah×ah}{x y z:ah×ah}(hf:f∈[x,y,z])(h1:P x)(h2:P y)(h3:P z):P f:=by
 simp only[aK,dT,or_false] at hf;rcases hf with rfl|rfl|rfl<;>assumption
def Tg{a b c:ah}(h:0<bF a b c):gD [a,b,c] [(a,b),(b,c),(c,a)] where
 ends:=fun f hf=>Hm (P:=fun f=>f.1∈[a,b,c]/\f.2∈[a,b,c]) hf (by simp) (by simp) (by simp)
 cvx:=fun f hf v hv=>by
  simp only[aK,dT,or_false] at hv;refine Hm (P:=fun f=>0<=bF f.1 f.2 v) hf ?_ ?_ ?_<;>dsimp only<;>rcases hv with rfl|rfl|rfl<;>unfold bF at* <;>grind
 cen:=⟨⟨(a.x+b.x+c.x)/3,(a.y+b.y+c.y)/3⟩,fun f hf=>by
  refine Hm (P:=fun f=>0<bF f.1 f.2 ⟨(a.x+b.x+c.x)/3,(a.y+b.y+c.y)/3⟩) hf ?_ ?_ ?_<;>dsimp only<;>unfold bF at* <;>grind⟩
 hull:=fun n u hu=>by
  have h1:=hu (a,b) (by simp);have h2:=hu (b,c) (by simp);have h3:=hu (c,a) (by simp);dsimp only at h1 h2 h3;have e:bF a b c*n.dot u=bF b c u*n.dot a+bF c a u*n.dot b+bF a b u*n.dot c:=by unfold bF ah.dot;grind
  have e2:bF a b c=bF b c u+bF c a u+bF a b u:=by unfold bF;grind
  apply Classical.byContradiction;intro k;have ka:n.dot u<n.dot a:=by have: ¬n.dot a<=n.dot u:=fun q=>k ⟨a,by simp,q⟩;grind
  have kb:n.dot u<n.dot b:=by have: ¬n.dot b<=n.dot u:=fun q=>k ⟨b,by simp,q⟩;grind
  have kc:n.dot u<n.dot c:=by have: ¬n.dot c<=n.dot u:=fun q=>k ⟨c,by simp,q⟩;grind
  have:=r9 h2 h3 h1 (by grind) (show 0<n.dot a-n.dot u by grind) (show 0<n.dot b-n.dot u by grind) (show 0<n.dot c-n.dot u by grind);rw[e2] at e;clear hu k h e2;generalize bF b c u=x at*;generalize bF c a u=y at*;generalize bF a b u=z at*;generalize n.dot u=m at*;generalize n.dot a=p at*;generalize n.dot b=q at*;generalize n.dot c=r at*;grind
def Ix{P:ah×ah->Prop}{f:ah×ah}{x y z w:ah×ah}(hf:f∈[x,y,z,w])(h1:P x)(h2:P y)(h3:P z)(h4:P w):P f:=by
 simp only[aK,dT,or_false] at hf;rcases hf with rfl|rfl|rfl|rfl<;>assumption
def WA{c d:Rat}(h1:a<c)(h2:b<d):gD [⟨a,b⟩,⟨c,b⟩,⟨c,d⟩,⟨a,d⟩] [(⟨a,b⟩,⟨c,b⟩),(⟨c,b⟩,⟨c,d⟩),(⟨c,d⟩,⟨a,d⟩),(⟨a,d⟩,⟨a,b⟩)] where
 ends:=fun f hf=>Ix (P:=fun f=>f.1∈[(⟨a,b⟩:ah),⟨c,b⟩,⟨c,d⟩,⟨a,d⟩]/\f.2∈[(⟨a,b⟩:ah),⟨c,b⟩,⟨c,d⟩,⟨a,d⟩]) hf (by simp) (by simp) (by simp) (by simp)
 cvx:=fun f hf v hv=>by
  have k:=dd (show 0<c-a by grind) (show 0<d-b by grind);simp only[aK,dT,or_false] at hv;refine Ix (P:=fun f=>0<=bF f.1 f.2 v) hf ?_ ?_ ?_ ?_<;>dsimp only<;>rcases hv with rfl|rfl|rfl|rfl<;>unfold bF<;>dsimp only<;>grind
 cen:=⟨⟨(a+c)/2,(b+d)/2⟩,fun f hf=>by
  have k:=dd (show 0<c-a by grind) (show 0<d-b by grind);refine Ix (P:=fun f=>0<bF f.1 f.2 ⟨(a+c)/2,(b+d)/2⟩) hf ?_ ?_ ?_ ?_<;>dsimp only<;>unfold bF<;>dsimp only<;>grind⟩
 hull:=fun n u hu=>by
  have k1:=hu (⟨a,b⟩,⟨c,b⟩) (by simp);have k2:=hu (⟨c,b⟩,⟨c,d⟩) (by simp);have k3:=hu (⟨c,d⟩,⟨a,d⟩) (by simp);have k4:=hu (⟨a,d⟩,⟨a,b⟩) (by simp);unfold bF at k1 k2 k3 k4;dsimp only at k1 k2 k3 k4;have y1:0<=u.y-b:=(gE (k:=c-a) (by grind)).1 (by grind);have y2:0<=d-u.y:=(gE (k:=c-a) (by grind)).1 (by grind);have x1:0<=u.x-a:=(gE (k:=d-b) (by grind)).1 (by grind);have x2:0<=c-u.x:=(gE (k:=d-b) (by grind)).1 (by grind);by_cases hx:0<=n.x<;>by_cases hy:0<=n.y
  .refine⟨⟨a,b⟩,by simp,?_⟩
   have:=cC hx x1;have:=cC hy y1;unfold ah.dot;dsimp only;grind
  .refine⟨⟨a,d⟩,by simp,?_⟩
   have:=cC hx x1;have:=cC (show 0<= -n.y by grind) y2;unfold ah.dot;dsimp only;grind
  .refine⟨⟨c,b⟩,by simp,?_⟩
   have:=cC (show 0<= -n.x by grind) x2;have:=cC hy y1;unfold ah.dot;dsimp only;grind
  .refine⟨⟨c,d⟩,by simp,?_⟩
   have:=cC (show 0<= -n.x by grind) x2;have:=cC (show 0<= -n.y by grind) y2;unfold ah.dot;dsimp only;grind
def tH(V:List ah)(E:List (ah×ah))(cs:List ar)(t:Tr):Tr:=cs.foldl (fun t c=>t.mergeQ 1 (eu V E c) []) t
def dB(V:List ah)(E:List (ah×ah))(t:Tr):Tr:=tH V E (de (t.restrict [])) (.leaf false)
def LO{V:List ah}{E:List (ah×ah)}(hB:gD V E){M:List aa}: ∀{cs:List ar} {t:Tr},(∀c∈cs,bu c/\gg c)->t.all aa.ok->(∀l∈t.lns,l∈M)->(∀c∈cs,∀l∈(eu V E c).lns,l∈M)->(tH V E cs t).all aa.ok/\(∀l∈(tH V E cs t).lns,l∈M)/\ ∀p,b9 M p->((tH V E cs t).val p=true↔t.val p=true\/ ∃c∈cs,(eu V E c).val p=true)
 |[],t,_,ht,hl,_=>⟨ht,hl,fun p _=>⟨.inl,fun h=>h.elim id fun⟨c,hc,_⟩=>by cases hc⟩⟩
 |c::cs,t,hcs,ht,hl,hM=>by
  obtain⟨g,a⟩:=hcs c aQ;have hok:=EB hB g a;have h1:=Tr.mergeQ_all aa.ok 1 hok t [] ht;have h2:=Tr.mergeQ_all (fun l=>l∈M) 1 (j'.2 (hM c aQ)) t [] (j'.2 hl);obtain⟨i1,i2,i3⟩:=LO hB (cs:=cs) (t:=t.mergeQ 1 (eu V E c) []) (fun d hd=>hcs d (aJ _ hd)) h1 (j'.1 h2) (fun d hd=>hM d (aJ _ hd));refine⟨i1,i2,fun p hp=>?_⟩;show(tH V E cs (t.mergeQ 1 (eu V E c) [])).val p=true↔_;rw[i3 p hp,Tr.val_merge 1 _ hok t [] p ht bu.nil (fun s hs=>by cases hs) (hp.sub hl) (hp.sub (hM c aQ))];have e: ∀x y:Bool,qE 1 x y=true↔x=true\/y=true:=fun x y=>by cases x<;>cases y<;>decide
  rw[e];constructor
  .rintro ((h|h)|⟨d,hd,h⟩)
   .exact .inl h
   .exact .inr ⟨c,aQ,h⟩
   .exact .inr ⟨d,aJ _ hd,h⟩
  .rintro (h|⟨d,hd,h⟩)
   .exact .inl (.inl h)
   .rcases aK.1 hd with rfl|hd
    .exact .inl (.inr h)
    .exact .inr ⟨d,hd,h⟩
def t7{t:Tr}(ht:t.all aa.ok): ∀c∈de (t.restrict []),bu c/\gg c:=fun c hc=>⟨V3 (t.restrict_all _ [] ht) c hc,H9 (t.restrict_all _ [] ht) bu.nil (show gg [] from .nil) _ (q9.1 hc)⟩
def kC(V:List ah)(E:List (ah×ah))(t:Tr):List aa:=(de (t.restrict [])).flatMap fun c=>(eu V E c).lns
def BU{E:List (ah×ah)}(hB:gD V E){t:Tr}(ht:t.all aa.ok):(dB V E t).all aa.ok/\(∀l∈(dB V E t).lns,l∈kC V E t)/\ ∀p,b9 (kC V E t) p->((dB V E t).val p=true↔ ∃c∈de (t.restrict []),(eu V E c).val p=true):=by
 obtain⟨h1,h2,h3⟩:=LO hB (M:=kC V E t) (t:= .leaf false) (t7 ht) trivial (fun l hl=>by cases hl) fun c hc l hl=>iX.2 ⟨c,hc,hl⟩;refine⟨h1,h2,fun p hp=>?_⟩;show(tH V E _ _).val p=true↔_;rw[h3 p hp];exact⟨fun h=>h.elim (fun h=>by cases h) id, .inr⟩
def GU{E:List (ah×ah)}(hB:gD V E){t:Tr}(ht:t.all aa.ok)(hM: ∀l∈M,l.ok)(hp:b9 (kC V E t) p):(dB V E t).val p=true↔ ∃q,b9 t.lns q/\b9 M q/\t.val q=true/\ ∀f∈E,0<bF f.1 f.2 (p.subQ q):=by
 have htr:=t.restrict_all aa.ok [] ht;rw[(BU hB ht).2.2 p hp];constructor
 .rintro ⟨c,hc,h⟩
  obtain⟨g,a⟩:=t7 ht c hc;obtain⟨q,hq,hu⟩:=(KW hB g a p).1 h
  -- a point near to q off all lines
  have hL:bm (c++E.map fun f=>⟨qP f p,ao.all⟩) q:=fun s hs=>by
   rcases aM.1 hs with hs|hs
   .exact hq s hs
   .obtain⟨f,hf,rfl⟩:=aR.1 hs
    obtain⟨u,hu0⟩:=hB.cen;exact(wq (hu0 f hf) p q).2 (hu f hf)
  obtain⟨r,hr,ho⟩:=FS hL (t.lns++M) fun l hl=>(aM.1 hl).elim (nP ht l) (hM l);obtain⟨o1,o2⟩:=b9.app.1 ho;have hrc:bm c r:=fun s hs=>hr s (bV _ hs);refine⟨r,o1,o2,?_,fun f hf=>?_⟩
  .have:=((Bm htr bu.nil (q9.1 hc)).2 r hrc).2
   rwa [Tr.val_restrict t [] r ht bu.nil (fun s hs=>by cases hs) o1] at this
  .obtain⟨u,hu0⟩:=hB.cen
   exact(wq (hu0 f hf) p r).1 (hr ⟨qP f p,ao.all⟩ (bZ _ (dY (f:=fun f=>(⟨qP f p,ao.all⟩:bt)) hf)))
 .rintro ⟨q,o1,_,hv,hu⟩
  have o1r:b9 (t.restrict []).lns q:=fun l hl=>o1 l (j'.1 (t.restrict_all (fun l=>l∈t.lns) [] (j'.2 fun l hl=>hl)) l hl);obtain⟨b,e,he,hq⟩:=IJ htr bu.nil (fun s hs=>by cases hs) o1r;have hb:=((Bm htr bu.nil he).2 q hq).2;rw[Tr.val_restrict t [] q ht bu.nil (fun s hs=>by cases hs) o1,hv] at hb;subst hb;have hc:=q9.2 he;obtain⟨g,a⟩:=t7 ht e hc;exact⟨e,hc,(KW hB g a p).2 ⟨q,hq,hu⟩⟩
def aBk{E:List (ah×ah)}(hB:gD V E){x y:Tr}(hx:x.all aa.ok)(hy:y.all aa.ok)(o1:b9 (kC V E x) p)(o2:b9 (kC V E y) p)(o3:b9 (kC V E (x.mergeQ 1 y [])) p):(dB V E (x.mergeQ 1 y [])).val p=true↔(dB V E x).val p=true\/(dB V E y).val p=true:=by
 have hz:=Tr.mergeQ_all aa.ok 1 hy x [] hx;have e: ∀x y:Bool,qE 1 x y=true↔x=true\/y=true:=fun x y=>by cases x<;>cases y<;>decide
 have hM: ∀l∈x.lns++(y.lns++(x.mergeQ 1 y []).lns),l.ok:=fun l hl=>(aM.1 hl).elim (nP hx l) fun hl=>(aM.1 hl).elim (nP hy l) (nP hz l);rw[GU hB hz hM o3,GU hB hx hM o1,GU hB hy hM o2];constructor
 .rintro ⟨q,h1,h2,h3,h4⟩
  obtain⟨k1,k2⟩:=b9.app.1 h2;obtain⟨k2,k3⟩:=b9.app.1 k2;rw[Tr.val_merge 1 _ hy x [] q hx bu.nil (fun s hs=>absurd hs (by simp)) k1 k2,e] at h3;rcases h3 with h3|h3
  .exact .inl ⟨q,k1,h2,h3,h4⟩
  .exact .inr ⟨q,k2,h2,h3,h4⟩
 .rintro (⟨q,h1,h2,h3,h4⟩|⟨q,h1,h2,h3,h4⟩)
  .obtain⟨k1,k2⟩:=b9.app.1 h2
   obtain⟨k2,k3⟩:=b9.app.1 k2;exact⟨q,k3,h2,by rw[Tr.val_merge 1 _ hy x [] q hx bu.nil (fun s hs=>absurd hs (by simp)) k1 k2,e];exact .inl h3,h4⟩
  .obtain⟨k1,k2⟩:=b9.app.1 h2
   obtain⟨k2,k3⟩:=b9.app.1 k2;exact⟨q,k3,h2,by rw[Tr.val_merge 1 _ hy x [] q hx bu.nil (fun s hs=>absurd hs (by simp)) k1 k2,e];exact .inr h3,h4⟩
section
end
section
end
def Tr.Prp:Tr->ar->Prop
 | .leaf _,_=>True
 | .node l x y,c=>cg c l=true/\cg c l.rev=true/\x.Prp (bz c l)/\y.Prp (bz c l.rev)
def Tr.red_prp: ∀{t:Tr} {c:ar},t.Red c->t.Prp c
 | .leaf _,_,_=>trivial
 | .node _ _ _,_,⟨h1,h2,h3,h4,_⟩=>⟨h1,h2,Tr.red_prp h3,Tr.red_prp h4⟩
def ZM(hc:bu c)(hl:l.ok)(hp:bm c p)(h0:l.value p=0):cg c l=true/\cg c l.rev=true:=by
 have hn:=mf hl.ne;obtain⟨e,he,hm⟩:=hp.open l.nor;obtain⟨f,hf,hk⟩:=hp.open (fj l.nor);have hn2:l.nor.dot (fj l.nor)= -(l.nor.dot l.nor):=by unfold fj ah.dot;dsimp only;grind
 refine⟨(m9 hc hl).2 ⟨_,hm e (by grind) (by grind),?_⟩,(m9 hc hl.rev).2 ⟨_,hk f (by grind) (by grind),?_⟩⟩
 .rw[jf,h0];have:=dd he hn;grind
 .rw[en,jf,h0,hn2];have:=dd hf hn;grind
def mB(c:ar)(m:aa):Bool:=cg c m&&cg c m.rev
def n5(hc:bu c){m:aa}(hm:m.ok):mB c m=true↔C0 m c:=by
 unfold mB;rw[bU];constructor
 .rintro ⟨h1,h2⟩
  obtain⟨p,hp,k1⟩:=(m9 hc hm).1 h1;obtain⟨q,hq,k2⟩:=(m9 hc hm.rev).1 h2;rw[en] at k2;generalize hA:m.value p=A at*;generalize hB:m.value q=B at*;have hAB:0<A-B:=by grind
  have e:A/(A-B)*(A-B)=A:=by grind
  generalize A/(A-B)=r at*;have r0:0<=r:=(gE hAB).1 (by rw[e];exact cM k1);have r1:r<=1:=by
   have:=(gE (s:=1-r) hAB).1 (by grind);grind
  exact⟨jt p q r,hp.seg hq r0 r1,by rw[kw,hA,hB];grind⟩
 .rintro ⟨p,hp,h0⟩
  exact ZM hc hm hp h0
def xB(c:ar)(m n:aa):Bool:=decide (¬m.same n)&&(decide (n.value (vZ m n)=0)&&pz c (vZ m n))
def pP{m n:aa}(hm:m.ok)(hn:n.ok):xB c m n=true↔ ¬m.same n/\ ∃z,bm c z/\m.value z=0/\n.value z=0:=by
 unfold xB;rw[bU,bU,decide_eq_true_eq,decide_eq_true_eq,qq];constructor
 .rintro ⟨h1,h2,h3⟩
  exact⟨h1,_,h3,lg hm.ne _,h2⟩
 .rintro ⟨h1,z,hz,k1,k2⟩
  rcases EW hm hn k1 k2 with h|h
  .exact absurd h h1
  .rw[<-h];exact⟨h1,k2,hz⟩
def GD{m n:aa}(hm:m.ok)(hn:n.ok):xB c m n=xB c n m:=by
 rw[qY,pP hm hn,pP hn hm];constructor<;>(rintro ⟨h,z,hz,k1,k2⟩;exact⟨fun e=>h e.symm,z,hz,k2,k1⟩)
def ie(f:aa->Nat):List aa->Nat
 |[]=>0
 |m::K=>f m+ie f K
def bN(b:Bool):Nat:=if b then 1 else 0
def Ru{f g:aa->Nat}: ∀{K:List aa},(∀m∈K,f m<=g m)->ie f K<=ie g K
 |[],_=>bW _
 |m::K,h=>by
  have:=Ru (f:=f) (g:=g) (K:=K) fun n hn=>h n (aJ _ hn);have:=h m aQ;show f m+ie f K<=g m+ie g K;omega
def y7(f g:aa->Nat): ∀K,ie (fun m=>f m+g m) K=ie f K+ie g K
 |[]=>rfl
 |m::K=>by
  have:=y7 f g K;show f m+g m+ie (fun m=>f m+g m) K=f m+ie f K+(g m+ie g K);omega
def yx{f g:aa->Nat}{d:Nat}{m0:aa}: ∀{K:List aa},(∀m∈K,f m<=g m)->m0∈K->f m0+d<=g m0->ie f K+d<=ie g K
 |[],_,h,_=>by cases h
 |m::K,h,hm,hd=>by
  have i1:=Ru (f:=f) (g:=g) (K:=K) fun n hn=>h n (aJ _ hn);have:=h m aQ;show f m+ie f K+d<=g m+ie g K;rcases aK.1 hm with rfl|hm
  .omega
  .have:=yx (f:=f) (g:=g) (d:=d) (K:=K) (fun n hn=>h n (aJ _ hn)) hm hd
   omega
def wz{f:aa->Nat}{B:Nat}: ∀{K:List aa},(∀m∈K,f m<=B)->ie f K<=K.length*B
 |[],_=>bJ _
 |m::K,h=>by
  have:=wz (f:=f) (B:=B) (K:=K) fun n hn=>h n (aJ _ hn);have:=h m aQ;show f m+ie f K<=(K.length+1)*B;rw[fS];omega
def pI(K:List aa)(c:ar):Nat:=ie (fun m=>bN (mB c m)) K
def jv(K:List aa)(c:ar)(m:aa):Nat:=ie (fun n=>bN (xB c m n)) K
def zd(K:List aa)(c:ar):Nat:=ie (jv K c) K
def HB(b:Bool):bN b<=1:=by cases b<;>decide
def Ur(hK: ∀m∈K,m.ok)(hc:bu c){n:aa}(hn:n.ok)(h0:m0∈K)(hs:m0.same n)(hb:cg c n=true)(hb2:cg c n.rev=true):
  pI K (bz c n)+pI K (bz c n.rev)+1<=pI K c+jv K c m0/\zd K (bz c n)+zd K (bz c n.rev)+2*jv K c m0<=zd K c:=by
 obtain⟨g1,i1⟩:=gk hc hn hb;obtain⟨g2,i2⟩:=gk hc hn.rev hb2;have i2: ∀p,bm (bz c n.rev) p↔bm c p/\n.value p<0:=fun p=>by rw[i2,en];constructor<;>(rintro ⟨a,b⟩;exact⟨a,by grind⟩)
 have hm0:=hK m0 h0;have z1: ∀m,m.ok->(mB (bz c n) m=true->mB c m=true)/\(mB (bz c n.rev) m=true->mB c m=true):=fun m hm=>by
  rw[n5 g1 hm,n5 g2 hm,n5 hc hm];exact⟨fun⟨p,hp,k⟩=>⟨p,((i1 p).1 hp).1,k⟩,fun⟨p,hp,k⟩=>⟨p,((i2 p).1 hp).1,k⟩⟩
 have z2: ∀m,m.ok->mB (bz c n) m=true->mB (bz c n.rev) m=true->xB c m0 m=true:=fun m hm h1 h2=>by
  obtain⟨p,hp,k1⟩:=(n5 g1 hm).1 h1;obtain⟨q,hq,k2⟩:=(n5 g2 hm).1 h2;obtain⟨hp,ap⟩:=(i1 p).1 hp;obtain⟨hq,aq⟩:=(i2 q).1 hq;rw[pP hm0 hm];refine⟨fun e=>?_,?_⟩
  .rw[nO hs (nO e.symm k1)] at ap;grind
  generalize hA:n.value p=A at*;generalize hB:n.value q=B at*;have hAB:0<A-B:=by grind
  have e:A/(A-B)*(A-B)=A:=by grind
  generalize A/(A-B)=r at*;have r0:0<=r:=(gE hAB).1 (by rw[e];exact cM ap);have r1:r<=1:=by
   have:=(gE (s:=1-r) hAB).1 (by grind);grind
  exact⟨jt p q r,hp.seg hq r0 r1,nO hs.symm (by rw[kw,hA,hB];grind),by rw[kw,k1,k2];grind⟩
 have w1: ∀m m',m.ok->m'.ok->xB (bz c n) m m'=true->xB c m m'=true/\ ¬xB (bz c n.rev) m m'=true:=fun m m' hm hm' h=>by
  rw[pP hm hm'] at h;obtain⟨e,z,hz,k1,k2⟩:=h;obtain⟨hz,az⟩:=(i1 z).1 hz;refine⟨(pP hm hm').2 ⟨e,z,hz,k1,k2⟩,fun h=>?_⟩;obtain⟨_,y,hy,j1,j2⟩:=(pP hm hm').1 h;obtain⟨hy,ay⟩:=(i2 y).1 hy;rcases EW hm hm' k1 k2 with h|h
  .exact e h
  .rcases EW hm hm' j1 j2 with h'|h'
   .exact e h'
   .rw[h'] at ay;rw[h] at az;grind
 have w2: ∀m m',m.ok->m'.ok->xB (bz c n.rev) m m'=true->xB c m m'=true:=fun m m' hm hm' h=>by
  rw[pP hm hm'] at h⊢;obtain⟨e,z,hz,k1,k2⟩:=h;exact⟨e,z,((i2 z).1 hz).1,k1,k2⟩
 have w3: ∀m,m.ok->xB (bz c n) m m0=false/\xB (bz c n.rev) m m0=false:=fun m hm=>by
  constructor
  .rw[<-jU,pP hm hm0]
   rintro ⟨_,z,hz,_,k2⟩;have:=((i1 z).1 hz).2;rw[nO hs k2] at this;grind
  .rw[<-jU,pP hm hm0]
   rintro ⟨_,z,hz,_,k2⟩;have:=((i2 z).1 hz).2;rw[nO hs k2] at this;grind
 have hmm: ∀d,xB d m0 m0=false:=fun d=>by
  rw[<-jU,pP hm0 hm0];rintro ⟨h,_⟩;exact h (.inl rfl)
 have n1: ∀d:ar,bu d->(∀p,bm d p->n.value p≠0)->mB d m0=false:=fun d hd h=>by
  rw[<-jU,n5 hd hm0];rintro ⟨p,hp,k⟩;exact h p hp (nO hs k)
 have n2:mB c m0=true:=by
  rw[n5 hc hm0];obtain⟨p,hp,k⟩:=(n5 hc hn).1 (by unfold mB;rw[hb,hb2];rfl);exact⟨p,hp,nO hs.symm k⟩
 constructor
 .unfold pI jv
  rw[<-y7,<-y7];refine yx (m0:=m0) (d:=1) (fun m hm=>?_) h0 ?_
  .have hmk:=hK m hm
   obtain⟨a1,a2⟩:=z1 m hmk;have a3:=z2 m hmk
   try dsimp only
   cases e1:mB (bz c n) m<;>cases e2:mB (bz c n.rev) m<;>simp only[e1,e2,forall_const,reduceCtorEq,false_implies] at a1 a2 a3<;>simp_all [bN]
  .try dsimp only
   rw[n1 _ g1 (fun p hp=>by have:=((i1 p).1 hp).2;grind),n1 _ g2 (fun p hp=>by have:=((i2 p).1 hp).2;grind),n2,hmm];decide
 .have row: ∀m∈K,jv K (bz c n) m+jv K (bz c n.rev) m+bN (xB c m m0)<=jv K c m:=fun m hm=>by
   have hmk:=hK m hm;unfold jv;rw[<-y7];refine yx (m0:=m0) (d:=bN (xB c m m0)) (fun m' hm'=>?_) h0 ?_
   .have hmk':=hK m' hm'
    have b1:=w1 m m' hmk hmk';have b2:=w2 m m' hmk hmk'
    try dsimp only
    cases e1:xB (bz c n) m m'<;>cases e2:xB (bz c n.rev) m m'<;>simp_all [bN]
   .obtain⟨c1,c2⟩:=w3 m hmk
    try dsimp only
    rw[c1,c2];simp[bN]
  have r0:jv K (bz c n) m0=0/\jv K (bz c n.rev) m0=0:=by
   have z: ∀d,(∀m∈K,xB d m0 m=false)->jv K d m0=0:=fun d h=>by
    have:=wz (f:=fun m=>bN (xB d m0 m)) (B:=0) (K:=K) fun m hm=>by rw[h m hm];decide
    unfold jv;omega
   exact⟨z _ fun m hm=>by rw[GD hm0 (hK m hm)];exact(w3 m (hK m hm)).1,z _ fun m hm=>by rw[GD hm0 (hK m hm)];exact(w3 m (hK m hm)).2⟩
  have cs:ie (fun m=>bN (xB c m m0)) K=jv K c m0:=by
   unfold jv;have key: ∀Jv:List aa,(∀m∈Jv,m.ok)->ie (fun m=>bN (xB c m m0)) Jv=ie (fun m=>bN (xB c m0 m)) Jv:=fun Jv=>by
    induction Jv with
    |nil=>intro _;rfl
    |cons a Jv ih=>
     intro h;show bN (xB c a m0)+_=bN (xB c m0 a)+_;rw[ih fun m hm=>h m (aJ _ hm),GD (h a aQ) hm0]
   exact key K hK
  have:=yx (f:=fun m=>jv K (bz c n) m+jv K (bz c n.rev) m+bN (xB c m m0)) (g:=jv K c) (d:=jv K c m0) (m0:=m0) row h0 (by rw[r0.1,r0.2,hmm];simp[bN]);rw[y7,y7,cs] at this;unfold zd;omega
def I0{K:List aa}(hK: ∀m∈K,m.ok): ∀{t:Tr} {c:ar},t.Prp c->t.all aa.ok->bu c->eG K t->2*t.size<=2*pI K c+zd K c
 | .leaf _,_,_,_,_,_=>bJ _
 | .node n x y,c,⟨h1,h2,h3,h4⟩,⟨hn,hx,hy⟩,hc,⟨⟨m0,hm0,hs⟩,kx,ky⟩=>by
  obtain⟨g1,_⟩:=gk hc hn h1;obtain⟨g2,_⟩:=gk hc hn.rev h2;have a:=I0 hK h3 hx g1 kx;have b:=I0 hK h4 hy g2 ky;obtain⟨d1,d2⟩:=Ur hK hc hn hm0 hs h1 h2;rw[Tr.size];omega
def Nr(hK: ∀m∈K,m.ok){t:Tr}(h:t.Prp c)(ht:t.all aa.ok)(hc:bu c)(hA:eG K t):2*t.size<=K.length*(K.length+1):=by
 have h1:=I0 hK h ht hc hA;have h2:pI K c<=K.length*1:=wz fun m _=>HB _;have h3:zd K c<=K.length*(K.length-1):=wz fun m hm=>by
  have:=yx (f:=fun n=>bN (xB c m n)) (g:=fun _=>1) (d:=1) (m0:=m) (K:=K) (fun n _=>HB _) hm (by
   have:xB c m m=false:=by rw[<-jU,pP (hK m hm) (hK m hm)];rintro ⟨h,_⟩;exact h (.inl rfl)
   rw[this];decide)
  have l1:ie (fun _=>1) K<=K.length*1:=wz fun _ _=>bW _;unfold jv;omega
 have:K.length*(K.length+1)=K.length*(K.length-1)+2*K.length:=by
  cases K.length with
  |zero=>rfl
  |succ k=>rw[Nat.succ_sub_one,Nat.mul_succ,Nat.mul_succ,fS];omega
 omega
end Go.Sx
end
