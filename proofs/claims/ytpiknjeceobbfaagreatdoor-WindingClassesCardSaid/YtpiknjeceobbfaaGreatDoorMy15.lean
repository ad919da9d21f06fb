import Derived.Test.YtpiknjeceobbfaaGreatDoorMy14
set_option linter.all false
set_option maxHeartbeats 4000000
set_option maxRecDepth 100000
section
namespace Go.Sx
open Go Go.Proofs Tryz
variable {GB:Gh}
def cE(a b p:aa):Rat:=(b.x-a.x)*(p.y-a.y)-(b.y-a.y)*(p.x-a.x)
def nF(v w p:aa):Int:=(if v.y<=p.y/\ ¬w.y<=p.y/\0<cE v w p then 1 else 0)-(if¬v.y<=p.y/\w.y<=p.y/\cE v w p<0 then 1 else 0)
def om(v w q p:aa):Prop:= ∀s t:Rat,0<=s->s<=1->0<=t->t<=1->aC v w s≠aC q p t
def xn{a b:Rat}(h0:0<=a)(h1:a<=b)(hb:0<b):0<=a/b/\a/b<=1/\a/b*b=a:=by
 have e:a/b*b=a:=by grind
 generalize a/b=q at*;refine⟨?_,?_,e⟩
 ·exact(jD hb).1 (by rw[e];exact h0)
 ·have:=(jD (s:=1-q) hb).1 (by grind)
  grind
def Ui{q p x:aa}(hy:q.y<p.y)(h:cE q p x=0)(h1:q.y<=x.y)(h2:x.y<=p.y): ∃t,0<=t/\t<=1/\x=aC q p t:=by
 obtain⟨a1,a2,a3⟩:=xn (a:=x.y-q.y) (b:=p.y-q.y) (by grind) (by grind) (by grind);refine⟨_,a1,a2,?_⟩;generalize (x.y-q.y)/(p.y-q.y)=t at*;obtain⟨X,Y⟩:=x;unfold cE at h;unfold aC;simp only at*;have e:X=q.x+t*(p.x-q.x):=by
  have h3:(p.y-q.y)*(X-q.x)=(p.y-q.y)*(t*(p.x-q.x)):=by grind
  have h4:p.y-q.y≠0:=by grind
  have:=cW.1 (show(p.y-q.y)*(X-q.x-t*(p.x-q.x))=0 by grind);rcases this with h5|h5
  ·exact absurd h5 h4
  ·grind
 rw[e];congr 1;grind
def UE(q p v w:aa)(e:Rat):cE q p (aC v w e)=cE q p v+e*(cE q p w-cE q p v):=by
 unfold cE aC;grind
def Ig(v w:aa)(a b e:Rat):aC (aC v w a) (aC v w b) e=aC v w (a+e*(b-a)):=by
 unfold aC;simp only[aa.mk.injEq];constructor<;>grind
def AH(v w:aa)(e:Rat):(aC v w e).y=v.y+e*(w.y-v.y):=rfl
def DX{a b e lo hi:Rat}(h0:0<=e)(h1:e<=1)(ha:lo<=a)(hb:lo<=b)(ha2:a<=hi)(hb2:b<=hi):lo<=a+e*(b-a)/\a+e*(b-a)<=hi:=by
 have k1:=bG h0 (show 0<=b-lo by grind);have k2:=bG (show 0<=1-e by grind) (show 0<=a-lo by grind);have k3:=bG h0 (show 0<=hi-b by grind);have k4:=bG (show 0<=1-e by grind) (show 0<=hi-a by grind);constructor<;>grind
def ZT{v w q p:aa}(hn:om v w q p)(hy:q.y<p.y){a b:Rat}(a0:0<=a)(a1:a<=1)(b0:0<=b)(b1:b<=1)(ha:q.y<=(aC v w a).y/\(aC v w a).y<=p.y)(hb:q.y<=(aC v w b).y/\(aC v w b).y<=p.y)(h:cE q p (aC v w a)<0):cE q p (aC v w b)<0:=by
 by_cases k:cE q p (aC v w b)<0
 ·exact k
 ·exfalso
  obtain⟨e0,e1,e2⟩:=xn (a:= -(cE q p (aC v w a))) (b:=cE q p (aC v w b)-cE q p (aC v w a)) (by grind) (by grind) (by grind);generalize-(cE q p (aC v w a))/(cE q p (aC v w b)-cE q p (aC v w a))=e at*;have hz:cE q p (aC v w (a+e*(b-a)))=0:=by rw[<-Ig,UE];grind
  have hh:=DX e0 e1 ha.1 hb.1 ha.2 hb.2;rw[<-AH,Ig] at hh;obtain⟨t,t0,t1,ht⟩:=Ui hy hz hh.1 hh.2;have h01:=DX e0 e1 a0 b0 a1 b1;exact hn _ t h01.1 h01.2 t0 t1 ht
def XP{v w q p:aa}(hn:om v w q p)(hy:q.y<p.y): ∃r:Bool,∀s,0<=s->s<=1->q.y<=(aC v w s).y->(aC v w s).y<=p.y->(cE q p (aC v w s)<0↔r=true):=by
 by_cases h: ∃s,0<=s/\s<=1/\(q.y<=(aC v w s).y/\(aC v w s).y<=p.y)/\cE q p (aC v w s)<0
 ·obtain⟨s,s0,s1,s2,s3⟩:=h
  exact⟨true,fun t t0 t1 h1 h2=>⟨fun _=>J,fun _=>ZT hn hy s0 s1 t0 t1 s2 ⟨h1,h2⟩ s3⟩⟩
 ·exact⟨false,fun t t0 t1 h1 h2=>⟨fun k=>absurd ⟨t,t0,t1,⟨h1,h2⟩,k⟩ h,fun k=>by cases k⟩⟩
def HF(v w:aa):aC v w 0=v:=by unfold aC;cases v;simp only[aa.mk.injEq];constructor<;>grind
def CE(v w:aa):aC v w 1=w:=by unfold aC;cases w;simp only[aa.mk.injEq];constructor<;>grind
def Hc{v w:aa}{y:Rat}(h:(v.y<=y/\ ¬w.y<=y)\/(¬v.y<=y/\w.y<=y)): ∃s,0<=s/\s<=1/\(aC v w s).y=y:=by
 rcases h with⟨h1,h2⟩|⟨h1,h2⟩
 ·obtain⟨a1,a2,a3⟩:=xn (a:=y-v.y) (b:=w.y-v.y) (by grind) (by grind) (by grind)
  refine⟨_,a1,a2,?_⟩;rw[AH];grind
 ·obtain⟨a1,a2,a3⟩:=xn (a:=v.y-y) (b:=v.y-w.y) (by grind) (by grind) (by grind)
  refine⟨_,a1,a2,?_⟩;rw[AH];grind
def IU{v w p:aa}{s:Rat}(h:(aC v w s).y=p.y):cE v w p=(w.y-v.y)*((aC v w s).x-p.x):=by
 unfold cE;unfold aC at*;simp only at*;rw[<-h];grind
def vY{a b:Rat}(ha:0<a):0<a*b↔0<b:=by rw[Rat.mul_comm];exact fk ha
def HA{a b:Rat}(ha:a<0):a*b<0↔0<b:=by
 have:=vY (a:= -a) (b:=b) (by grind);constructor
 ·intro h;exact this.1 (by grind)
 ·intro h;have:=this.2 h;grind
def bI(b:Prop)[Decidable b]:Int:=if b then 1 else 0
def Ax{v w p:aa}{r:Prop}[Decidable r](h: ∀s,0<=s->s<=1->(aC v w s).y=p.y->(p.x<(aC v w s).x↔r)):nF v w p=if r then bI (v.y<=p.y)-bI (w.y<=p.y) else 0:=by
 unfold nF bI;by_cases h1:v.y<=p.y<;>by_cases h2:w.y<=p.y
 ·simp[h1,h2]
 ·obtain⟨s,s0,s1,s2⟩:=Hc (.inl ⟨h1,h2⟩)
  have e:=IU s2;have k:=h s s0 s1 s2;have m:=vY (a:=w.y-v.y) (b:=(aC v w s).x-p.x) (by grind);rw[<-e] at m;have m2:0<cE v w p↔r:=by rw[m,<-k];grind
  simp only[h1,h2,m2];by_cases q:r<;>simp[q]
 ·obtain⟨s,s0,s1,s2⟩:=Hc (.inr ⟨h1,h2⟩)
  have e:=IU s2;have k:=h s s0 s1 s2;have m:=HA (a:=w.y-v.y) (b:=(aC v w s).x-p.x) (by grind);rw[<-e] at m;have m2:cE v w p<0↔r:=by rw[m,<-k];grind
  simp only[h1,h2,m2];by_cases q:r<;>simp[q]
 ·simp[h1,h2]
def sv(q p u:aa):Int:=if q.y<u.y/\u.y<=p.y/\cE q p u<0 then 1 else 0
def Lb{v w q p:aa}(hn:om v w q p)(hy:q.y<p.y):nF v w p-nF v w q=sv q p v-sv q p w:=by
 obtain⟨r,hr⟩:=XP hn hy;have ep:=Ax (v:=v) (w:=w) (p:=p) (r:=r=true) fun s s0 s1 s2=>by
  rw[<-hr s s0 s1 (by grind) (by grind)];have m:=vY (a:=p.y-q.y) (b:=(aC v w s).x-p.x) (by grind);have:cE q p (aC v w s)= -((p.y-q.y)*((aC v w s).x-p.x)):=by unfold cE;rw[s2];grind
  rw[this];generalize (p.y-q.y)*((aC v w s).x-p.x)=z at*;constructor
  ·intro k;have:=m.2 (by grind);grind
  ·intro k;have:=m.1 (by grind);grind
 have eq:=Ax (v:=v) (w:=w) (p:=q) (r:=r=true) fun s s0 s1 s2=>by
  rw[<-hr s s0 s1 (by grind) (by grind)];have m:=vY (a:=p.y-q.y) (b:=(aC v w s).x-q.x) (by grind);have:cE q p (aC v w s)= -((p.y-q.y)*((aC v w s).x-q.x)):=by unfold cE;rw[s2];grind
  rw[this];generalize (p.y-q.y)*((aC v w s).x-q.x)=z at*;constructor
  ·intro k;have:=m.2 (by grind);grind
  ·intro k;have:=m.1 (by grind);grind
 have fv:sv q p v=if r=true then bI (v.y<=p.y)-bI (v.y<=q.y) else 0:=by
  have h:=hr 0 (by decide) (by decide);rw[HF] at h;unfold sv bI;by_cases h1:v.y<=p.y<;>by_cases h2:v.y<=q.y
  ·have: ¬q.y<v.y:=by grind
   simp[h1,h2,this]
  ·have h3:q.y<v.y:=by grind
   have:=h (by grind) h1;simp only[h1,h2,h3,this];by_cases q:r=true<;>simp[q]
  ·exfalso;grind
  ·simp[h1,h2]
 have fw:sv q p w=if r=true then bI (w.y<=p.y)-bI (w.y<=q.y) else 0:=by
  have h:=hr 1 (by decide) (by decide);rw[CE] at h;unfold sv bI;by_cases h1:w.y<=p.y<;>by_cases h2:w.y<=q.y
  ·have: ¬q.y<w.y:=by grind
   simp[h1,h2,this]
  ·have h3:q.y<w.y:=by grind
   have:=h (by grind) h1;simp only[h1,h2,h3,this];by_cases q:r=true<;>simp[q]
  ·exfalso;grind
  ·simp[h1,h2]
 rw[ep,eq,fv,fw];by_cases q:r=true
 ·simp only[if_pos q];omega
 ·simp only[if_neg q]
def Ub{v w q p:aa}(hn:om v w q p)(hy:q.y=p.y):nF v w p=nF v w q:=by
 have key: ∀s,0<=s->s<=1->(aC v w s).y=p.y->(p.x<(aC v w s).x↔q.x<(aC v w s).x):=fun s s0 s1 s2=>by
  have no: ∀a b:Rat,a<=(aC v w s).x->(aC v w s).x<b->((a=q.x/\b=p.x)\/(a=p.x/\b=q.x))->False:=fun a b h1 h2 h3=>by
   obtain⟨a1,a2,a3⟩:=xn (a:=(aC v w s).x-a) (b:=b-a) (by grind) (by grind) (by grind);generalize ((aC v w s).x-a)/(b-a)=t at*;rcases h3 with⟨e1,e2⟩|⟨e1,e2⟩
   ·refine hn s t s0 s1 a1 a2 ?_
    generalize hx:aC v w s=x at*;obtain⟨X,Y⟩:=x;unfold aC;simp only[aa.mk.injEq] at*;subst e1 e2;constructor<;>grind
   ·refine hn s (1-t) s0 s1 (by grind) (by grind) ?_
    generalize hx:aC v w s=x at*;obtain⟨X,Y⟩:=x;unfold aC;simp only[aa.mk.injEq] at*;subst e1 e2;constructor<;>grind
  constructor
  ·intro h
   by_cases k:q.x<(aC v w s).x
   ·exact k
   ·by_cases k2:(aC v w s).x=q.x
    ·exfalso
     refine hn s 0 s0 s1 (by decide) (by decide) ?_;rw[HF];generalize aC v w s=x at*;obtain⟨X,Y⟩:=x;obtain⟨A,B⟩:=q;simp only[aa.mk.injEq] at*;exact⟨k2,by grind⟩
    ·exact(no p.x q.x (by grind) (by grind) (.inr ⟨J,J⟩)).elim
  ·intro h
   by_cases k:p.x<(aC v w s).x
   ·exact k
   ·by_cases k2:(aC v w s).x=p.x
    ·exfalso
     refine hn s 1 s0 s1 (by decide) (by decide) ?_;rw[CE];generalize aC v w s=x at*;obtain⟨X,Y⟩:=x;obtain⟨A,B⟩:=p;simp only[aa.mk.injEq] at*;exact⟨k2,s2⟩
    ·exact(no q.x p.x (by grind) (by grind) (.inl ⟨J,J⟩)).elim
 by_cases hc:(v.y<=p.y/\ ¬w.y<=p.y)\/(¬v.y<=p.y/\w.y<=p.y)
 ·obtain⟨s,s0,s1,s2⟩:=Hc hc
  have uq: ∀t,(aC v w t).y=p.y->t=s:=fun t ht=>by
   rw[AH] at ht s2;have h4:w.y-v.y≠0:=by grind
   have:=cW.1 (show(w.y-v.y)*(t-s)=0 by grind);rcases this with h5|h5
   ·exact absurd h5 h4
   ·grind
  rw[Ax (p:=p) (r:=p.x<(aC v w s).x) fun t _ _ ht=>by rw[uq t ht],Ax (p:=q) (r:=p.x<(aC v w s).x) fun t _ _ ht=>by rw[uq t (by rw[ht,hy])];exact(key s s0 s1 s2).symm,hy]
 ·unfold nF
  rw[hy];by_cases h1:v.y<=p.y<;>by_cases h2:w.y<=p.y<;>simp[h1,h2] at hc⊢
def Rg(q p:aa)(t:Rat):aC p q t=aC q p (1-t):=by unfold aC;simp only[aa.mk.injEq];constructor<;>grind
def om.symm{v w q p:aa}(h:om v w q p):om v w p q:=fun s t s0 s1 t0 t1 e=>h s (1-t) s0 s1 (by grind) (by grind) (by rw[e,Rg])
def i8(r:List ZP)(p:aa):Nat->Int
 |0=>0
 |k+1=>i8 r p k+nF (r.getD k (0,0)).q (c6 r k).q p
def tS(r:List ZP)(q p:aa):Prop:= ∀k,k<r.length->om (r.getD k (0,0)).q (c6 r k).q q p
def IL{r:List ZP}{q p:aa}(h:tS r q p)(hy:q.y<p.y): ∀k,k<r.length->i8 r p k-i8 r q k=sv q p (r.getD 0 (0,0)).q-sv q p (r.getD k (0,0)).q
 |0,_=>by simp[i8]
 |k+1,hk=>by
  have ih:=IL h hy k (by omega);have e:=Lb (h k (by omega)) hy;rw[FM (by omega)] at e;rw[i8,i8,FM (by omega)];omega
def Kj{r:List ZP}{q p:aa}(h:tS r q p)(hy:q.y<p.y):i8 r p r.length=i8 r q r.length:=by
 cases hr:r.length with
 |zero=>rfl
 |succ n=>
  have ih:=IL h hy n (by omega);have e:=Lb (h n (by omega)) hy;rw[E9 (by omega)] at e;rw[i8,i8,E9 (by omega)];omega
def PT{r:List ZP}{q p:aa}(h:tS r q p)(hy:q.y=p.y): ∀k,k<=r.length->i8 r p k=i8 r q k
 |0,_=>rfl
 |k+1,hk=>by rw[i8,i8,PT h hy k (by omega),Ub (h k (by omega)) hy]
def Xj{r:List ZP}{q p:aa}(h:tS r q p):i8 r p r.length=i8 r q r.length:=by
 by_cases h1:q.y<p.y
 ·exact Kj h h1
 ·by_cases h2:p.y<q.y
  ·exact(Kj (fun k hk=>(h k hk).symm) h2).symm
  ·exact PT h (by grind) _ (aN _)
def Up(a b c:aa):tK a b c=(cE a b c).num.sign:=by
 unfold tK cE aa.cross aD;congr 2;grind
def Ha(a b:Rat):bE a b<=0↔a<=b:=by
 have:=CP a b;constructor
 ·intro h
  by_cases q:b<a
  ·have:=this.2 q;omega
  ·grind
 ·intro h
  by_cases q:0<bE a b
  ·have:=this.1 q;grind
  ·omega
def UW(v w p:aa):oz v w p=nF v w p:=by
 unfold oz nF;simp only[Up,jg,lw,Ha]
def xZ(r:List ZP)(p:aa): ∀k,l6 r p k=i8 r p k
 |0=>rfl
 |k+1=>by rw[l6,i8,xZ r p k,UW]
def OG{r:List ZP}{q p:aa}(h:tS r q p):il r p=il r q:=by
 unfold il;rw[xZ,xZ,Xj h]
def Uv(R:Rat)(p:aa):Prop:=p.x< -R\/R<p.x\/p.y< -R\/R<p.y
structure IvB (v:aA):Prop where
 lo:BQ v.lo 1200
 hi:BQ v.hi 1200
def aGR(l:List aA)(k:Nat):List Rat:=l5 (l.take k)
def aHj(o:List Rat)(v:aA)(j:Nat):List Rat:=if j=0 then o else if j=1 then(if v.nl then o else n4 v.lo o) else nC o v
def aHM(v:aA)(j:Nat):Rat:=if j=0 then v.lo else v.hi
def aHC(v:aA)(j:Nat):Bool:=if j=0 then v.nl else v.nh
def aF4(l m:ab)(side:Int):DV:= .tp [.sl ((u' l m side).map eV),vB (uM l m)]
def si(f:aH):DV:= .ag [.v (.bool (decide (f.l.a<0))),dN f.l.a.natAbs, .v (.bool (decide (f.l.b<0))),dN f.l.b.natAbs, .v (.bool (decide (f.l.c<0))),dN f.l.c.natAbs, .v (.bool (decide (f.v.lo.num<0))),dN f.v.lo.num.natAbs,dD f.v.lo.den, .v (.bool (decide (f.v.hi.num<0))),dN f.v.hi.num.natAbs,dD f.v.hi.den, .v (.bool f.v.nl), .v (.bool f.v.nh)]
def Qm(fs:List aH):dG 14 (fs.map si):=fun d hd=>by
 obtain⟨u,_,rfl⟩:=bZ.1 hd;exact⟨rfl,rfl⟩
theorem w4{p:ZP}(h:ZP.le 100 p):aq p.q 12:=by
 haveI:BI p.1 11:=iu (by have:=h.1;omega) (by decide);haveI:BI p.2 11:=iu (by have:=h.2;omega) (by decide);exact(inferInstance:aq (iP p.1 p.2) 12)
def WP{v w:ZP}(hv:ZP.le 100 v)(hw:ZP.le 100 w)(h:v≠w):PF GB prog 36 [eP v.q,eP w.q] (.tp [si (aP v w),vB true]):=by
 have hne: ¬(w.1=v.1/\w.2=v.2):=fun e=>h (Prod.ext e.1.symm e.2.symm);obtain⟨hlb,hlo⟩:=H9 (m:=v.1) (n:=v.2) (p:=w.1) (q:=w.2) (by have:=hv.1;omega) (by have:=hv.2;omega) (by have:=hw.1;omega) (by have:=hw.2;omega) hne;haveI:=hlb;haveI:=w4 hv;haveI:=w4 hw;refine fn func36 J J ntmps36 J J (fun C=>?_);refine cl (fu:=⟨3⟩) J (Wz (m:=v.1) (n:=v.2) (m':=w.1) (n':=w.2) (by have:=hv.1;omega) (by have:=hv.2;omega) (by have:=hw.1;omega) (by have:=hw.2;omega) (fun e=>hne ⟨e.1.symm,e.2.symm⟩)) J<|?_;refine mt 13 J ?_;refine gx J<|cl J (Kb (l:=gE v.1 v.2 w.1 w.2) (p:=v.q) hlo.ne) J<|cl J (Kb (l:=gE v.1 v.2 w.1 w.2) (p:=w.q) hlo.ne) J<|?_;exact rz J J
def aGi(v w:aA):aA:=⟨v.lo,w.hi,v.nl,v.nh⟩

section
variable {GB:Gh} {C:az} {n:Nat} {Q0:Exit->Act->World->Prop} {fr fr':au} {own own':aB} {cf cf':Cf} {vc:List Prop}
def RD{lk:LK}{bk:BM}{dst:Option Nat}{t ty':TypeId}{pos:String}{af:Array Edge}{gd:Option (Nat×Bool)}{x y:Operand}{e len s nm off:Nat}{k:IntKind}{i:Nat}(hu:prog.underlying t=some (.array len e))(hs:(prog.info? e).map (·.size)=some s)
  (e1:aE lk x=some (.ov nm off))(e2:aE lk y=some (.d (.v (.int k (i:Nat)))))(hi:i<len):bz prog GB C n lk bk ⟨dst, .indexAddr t x y,ty',pos,af,gd⟩ (.ov nm (off+i*s)) [] []:= .yd fun ρ G ov a w r=>by
 obtain⟨p,h1,h2⟩:=r.ev e1;obtain⟨q,h3,h4⟩:=r.ev e2;rw[cA] at h4;subst h4;obtain⟨b,hb,rfl⟩:=h2;refine⟨_,⟨b,hb,J⟩,?_⟩;obtain⟨j,hj,hjs⟩: ∃j,prog.info? e=some j/\j.size=s:=by
  cases h:prog.info? e with
  |none=>rw[h] at hs;cases hs
  |some j=>rw[h] at hs;exact⟨j,J,by simpa using hs⟩
 intro a' w' hf hh;simp only[execOp,bh hf h1,bh hf h3];have:(Instr.indexAt t (.pointer (some ⟨b,off,none⟩)) (.int k (i:Nat))).run prog w'= .ok (.pointer (some ⟨b,off+i*s,none⟩)) w':=by
  unfold Instr.indexAt;show(underlying t>>=_).run prog w'=_;rw[aG (o8 hu w')];show(underlying t>>=_).run prog w'=_;rw[aG (o8 hu w')];have h0:0<=((i:Nat):Int):=Int.natCast_nonneg i;have h1:((i:Nat):Int)<((len:Nat):Int):=by omega
  simp only[h0,h1,and_self,if_true];show(sizeOf e>>=_).run prog w'=_;rw[aG (sG hj w'),pq,hjs,bW];rfl
 exact cI this
def NZ(fr:au)(cf:Cf):Option (TypeId×Nat×Nat×Int):=match bH fr cf with
 |some ⟨_, .indexAddr t x y,_,_,_,_⟩=>match aE (bj fr cf) x with
  |some (.ov nm off)=>match aE (bj fr cf) y with
   |some (.d (.v (.int _ i)))=>some (t,nm,off,i)
   |_=>none
  |_=>none
 |_=>none
def Aw[fu:Fu](i:Nat){t nm off e len s:Nat}(h:NZ fr cf=some (t,nm,off,((i:Nat):Int)))(hu:prog.underlying t=some (.array len e))(hs:(prog.info? e).map (·.size)=some s)(hi:i<len)
  (hgo:cd tt n fu.n fr own cf (.ov nm (off+i*s)) [] []=⟨vc,fr',own',cf'⟩)(k:ak prog GB C n Q0 fr' own' cf')
  (hv:ah vc:=by first|exact trivial|(simp only[ah];kernel_rfl)|(simp only[ah];omega)):ak prog GB C n Q0 fr own cf:=by
 unfold NZ at h;split at h<;>try (cases h;done)
 rename_i hh;split at h<;>try (cases h;done)
 rename_i hx;split at h<;>cases h;rename_i hy;exact us hh (RD hu hs hx hy hi) hgo hv k
def Rx{lk:LK}{bk:BM}{d s:Nat}{e t ty':TypeId}{pos:String}{af:Array Edge}{gd:Option (Nat×Bool)}{ps:List (Nat×Operand)}{fo:List (Nat×Nat×Nat)}{i:TI}{z zx:List FX}{k:Nat}{pre post:List DV}(hi:ek prog t=some i)(hk:i.k= .st fo)(hz:i.z=some z)
  (hb:rF lk fo z ps=some zx)(h0:zx[k]? =some .nl)(h1:iw (zx.take k)=some pre)(h2:iw (zx.drop (k+1))=some post):bz prog GB C n lk bk ⟨some d, .build t ⟨ps⟩,ty',pos,af,gd⟩ (.bx false pre d post) [(d,some (.b e s [] true))] [d]:=by
 intro hd tl tb K' s1 s2 hf hk';refine⟨fun ρ G ov a w r Q=>?_⟩;obtain⟨v,hv,hv'⟩:=x9 hi hz;have:=Pi hi hk;have hsp:zx=zx.take k++ .nl::zx.drop (k+1):=by
  obtain⟨hk1,hk2⟩:=aM.1 h0
  conv=>lhs;rw[<-jX k zx,bL hk1,hk2]
 obtain⟨l,h1',h2'⟩:=Ba (r.mono s1 s2) (fo:=fo) ps _ _ _ hb (hv' ρ G);rw[hsp] at h2';obtain⟨m1,m2',rfl,k1,y,m2,rfl,k2,k3⟩:=PH h2'
 cases (show y= .slice none 0 0 from k2)
 have hy:Yd prog C (cv a) ov G ⟨some d, .build t ⟨ps⟩,ty',pos,af,gd⟩ (.agg ⟨m1++Value.slice none 0 0::m2⟩):=K5 h1';have r3:=r.new' (x:=⟨none,0,0⟩) (B':= .b e s [] true) (os:=[]) (ov':=ov) (f:= .bx false pre d post) (y:= .agg ⟨m1++Value.slice none 0 0::m2⟩) hf (bp.refl G) r.h
  ⟨[],by simp only[if_true];exact .inl ⟨J,J,J⟩, .nil,by simp,fun _ o ho=>by cases ho⟩ (fun o ho=>by cases ho) (fun m B _ _ o ho _=>⟨ho,by simp⟩)
  ⟨m1,m2,by simp,qD k1 h1,qD k3 h2⟩ (r.putA _ hd)
 exact mH (hy a w (cG a) r.h) (hk'.run _ G ov _ w r3)
def Nn(fr:au)(cf:Cf):Option (Nat×List FX):=match bH fr cf with
 |some ⟨some d, .build t ⟨ps⟩,_,_,_,_⟩=>match cF tt t with
  |some ⟨.st fo,_,some zx,_⟩=>match rF (bj fr cf) fo zx ps with
   |some l=>some (d,l)
   |none=>none
  |_=>none
 |_=>none
def Sm[fu:Fu]{d:Nat}{zx:List FX}(e s kk:Nat)(pre post:List DV)(h:Nn fr cf=some (d,zx))(h0:zx[kk]? =some .nl)(h1:iw (zx.take kk)=some pre)(h2:iw (zx.drop (kk+1))=some post)(hgo:cd tt n fu.n fr own cf (.bx false pre d post) [(d,some (.b e s [] true))] [d]=⟨vc,fr',own',cf'⟩)(k:ak prog GB C n Q0 fr' own' cf')
  (hv:ah vc:=by first|exact trivial|(simp only[ah];kernel_rfl)|(simp only[ah];omega)):ak prog GB C n Q0 fr own cf:=by
 unfold Nn at h;split at h<;>try (cases h;done)
 rename_i hh;split at h<;>try (cases h;done)
 rename_i hT;split at h<;>cases h;rename_i hb;exact us hh (Rx (eh _ _ hT) J J hb h0 h1 h2) hgo hv k
end
def sp1(f:aH)(m:ab)(k:Nat):List aH:=if k=0 then [] else m9 f m 1
def sp2(f:aH)(m:ab)(k:Nat):List aH:=if k<=1 then [] else m9 f m (-1)
def f8(p:ZP):DV:=eP p.q
def i7(r:List ZP):DV:= .sl (r.map f8)
def HK(l:List ZP):dG 6 (l.map f8):=fun d hd=>by
 obtain⟨u,_,rfl⟩:=bZ.1 hd;exact⟨rfl,rfl⟩
def KW(l:List (List ZP)):dG 1 (l.map i7):=fun d hd=>by
 obtain⟨u,_,rfl⟩:=bZ.1 hd;exact⟨rfl,rfl⟩
def GC{r:List ZP}{i:Nat}(h:i<r.length):(r.map f8)[((i:Nat):Int).toNat]? =some (f8 (r.getD i (0,0))):=by
 rw[bW,fS,aX,aZ h];rfl
def On{r:List ZP}{i:Nat}(h:i<r.length):(r.map f8)[(((i+1)%r.length:Nat):Int).toNat]? =some (f8 (c6 r i)):=GC (cL _ (by omega))
def SN(v w p:aa):(oz v w p).natAbs<=1:=by
 unfold oz;split<;>split<;>decide
def AA(r:List ZP)(p:aa): ∀k,(l6 r p k).natAbs<=k
 |0=>aN _
 |k+1=>by rw[l6];have:=AA r p k;have:=SN (r.getD k (0,0)).q (c6 r k).q p;omega
def Jw{r:List ZP}(h:b9 r):PF GB prog 14 [.sl (r.map f8)] (.sl ((cP r).map si)):=by
 have hm:=lg f8 r;have h3:=h.n3;have h6:=h.n6;refine fn (fu:=⟨15⟩) func14 J J ntmps14 J J (fun C=>?_);refine aj 8 (.d (vI (r.length:Nat))) J (by rw[hm]<;>rfl) ?_;refine gx J<|?_;refine nr 3 3 47 14 J J J ?_;refine lp (X:=Nat) (fun k=>[(9, .d (vI (k:Nat))),(3, .rw 3)]) (fun k=>[(3,some (.b 47 14 ((iF r k).map si) true))]) (fun k=>k<=r.length) (fun k=>r.length-k) 0 J (bN _) (fun _=>J) (fun k hk=>?_);have hel:=fun hh=>(HD (k:=k) h hh).1;refine br J J J (fun hc10=>?_) (fun hc10=>?_)
 .
  have hkr:k<r.length:=by omega
  have hel:=hel (by omega);have hem:=lg si (iF r k);refine ix (fu:=⟨7⟩) _ J (GC hkr) J<|?_;refine aj 22 (.d (vI ((k+1)%r.length:Nat))) J (by rw[hm]<;>rfl) ?_;refine gx J<|ix _ J (On hkr) J<|cl J (WP (v:=r.getD k (0,0)) (w:=c6 r k) (h.le _ (u9 hkr)) (h.le _ (wx hkr)) (h.ne k hkr)) J<|?_;refine rf J J<|ap ((iF r (k+1)).map si) J (by rw[iF,cN];rfl) (Qm [aP (r.getD k (0,0)) (c6 r k)]) J<|?_;refine gr 31 3 J ?_;exact at_ (k+1) ⟨(by omega),(by omega)⟩
 .
  obtain rfl:k=r.length:=by omega
  refine mf 3 J ?_;exact rz J J
def Tz{r:List ZP}{p:aa}{i:Nat}[hp:aq p i](h:b9 r)(hi:i<=80000:=by decide):PF GB prog 69 [.sl (r.map f8),eP p] (vI (il r p)):=by
 have hm:=lg f8 r;have h3:=h.n3;have h6:=h.n6;refine fn (fu:=⟨16⟩) func69 J J ntmps69 J J (fun C=>?_);refine aj 12 (.d (vI (r.length:Nat))) J (by rw[hm]<;>rfl) ?_;refine gx J<|?_;refine lp (X:=Nat×Int) (fun⟨k,c⟩=>[(13, .d (vI (k:Nat))),(5, .d (vI c))]) (fun⟨k,c⟩=>[]) (fun⟨k,c⟩=>c=l6 r p k/\k<=r.length) (fun⟨k,c⟩=>r.length-k) (0,0) J ⟨J,bN _⟩ (fun _=>J) (fun⟨k,c⟩ hk=>?_);dsimp only at hk⊢;obtain⟨h1,h2⟩:=hk;have hcl:c.natAbs<=k:=by rw[h1];exact AA r p k
 refine br J J J (fun hc14=>?_) (fun hc14=>?_)
 .
  have hkr:k<r.length:=by omega
  obtain⟨v,hv⟩: ∃v,v=r.getD k (0,0):=⟨_,rfl⟩;obtain⟨w,hw⟩: ∃v,v=c6 r k:=⟨_,rfl⟩;haveI hvb:aq v.q 12:=by rw[hv];exact w4 (h.le _ (u9 hkr))
  haveI hwb:aq w.q 12:=by rw[hw];exact w4 (h.le _ (wx hkr))
  refine ix (fu:=⟨1⟩) _ J (GC hkr) J<|?_;refine aj 19 (.d (eP v.q)) J (by rw[hv];rfl) ?_;refine gx (fu:=⟨6⟩) J<|?_;refine aj 25 (.d (vI ((k+1)%r.length:Nat))) J (by rw[hm]<;>rfl) ?_;refine gx J<|ix (fu:=⟨1⟩) _ J (On hkr) J<|?_;refine aj 27 (.d (eP w.q)) J (by rw[hw];rfl) ?_;refine gx J<|cl J (ud (a:=v.q.y) (b:=p.y) (i:=12) (j:=i) (by decide) (by omega)) J<|cl (fu:=⟨9⟩) J (ud (a:=w.q.y) (b:=p.y) (i:=12) (j:=i) (by decide) (by omega)) J<|?_;rcases(show(bE v.q.y p.y<=0/\bE w.q.y p.y<=0)\/(bE v.q.y p.y<=0/\ ¬bE w.q.y p.y<=0)\/(¬bE v.q.y p.y<=0/\bE w.q.y p.y<=0)\/(¬bE v.q.y p.y<=0/\ ¬bE w.q.y p.y<=0) by omega) with⟨ca,cb⟩|⟨ca,cb⟩|⟨ca,cb⟩|⟨ca,cb⟩
  .
   refine gH (fu:=⟨3⟩) J (by show some (decide _)=some true;rw[decide_eq_true (by omega)]) J<|gw (fu:=⟨15⟩) J (by show some (decide _)=some false;rw[decide_eq_false (by omega)]) J<|?_;refine gw (fu:=⟨20⟩) J (by show some (decide _)=some false;rw[decide_eq_false (by omega)]) J<|?_;exact at_ (k+1,c) (by dsimp only;exact⟨⟨by rw[l6,<-h1,<-hv,<-hw];unfold oz;split<;>split<;>omega,by omega⟩,(by omega)⟩)
  .
   refine gH (fu:=⟨3⟩) J (by show some (decide _)=some true;rw[decide_eq_true (by omega)]) J<|gH J (by show some (decide _)=some true;rw[decide_eq_true (by omega)]) J<|?_;refine cl J (O' (a:=v.q) (b:=w.q) (c:=p) (i:=12) (j:=12) (k:=i) (by decide) (by decide) hi) J<|?_;refine br (fu1:=⟨10⟩) (fu2:=⟨6⟩) J J J (fun hc51=>?_) (fun hc51=>?_)
   .
    refine gw J (by show some (decide _)=some false;rw[decide_eq_false (by omega)]) J<|?_;exact at_ (k+1,c+1) (by dsimp only;exact⟨⟨by rw[l6,<-h1,<-hv,<-hw];unfold oz;split<;>split<;>omega,by omega⟩,(by omega)⟩)
   .
    refine gw (fu:=⟨20⟩) J (by show some (decide _)=some false;rw[decide_eq_false (by omega)]) J<|?_;exact at_ (k+1,c) (by dsimp only;exact⟨⟨by rw[l6,<-h1,<-hv,<-hw];unfold oz;split<;>split<;>omega,by omega⟩,(by omega)⟩)
  .
   refine gw (fu:=⟨19⟩) J (by show some (decide _)=some false;rw[decide_eq_false (by omega)]) J<|gH (fu:=⟨2⟩) J (by show some (decide _)=some true;rw[decide_eq_true (by omega)]) J<|?_;refine gH J (by show some (decide _)=some true;rw[decide_eq_true (by omega)]) J<|cl J (O' (a:=v.q) (b:=w.q) (c:=p) (i:=12) (j:=12) (k:=i) (by decide) (by decide) hi) J<|?_;refine br (fu2:=⟨8⟩) J J J (fun hc65=>?_) (fun hc65=>?_)
   .
    exact at_ (k+1,c-1) (by dsimp only;exact⟨⟨by rw[l6,<-h1,<-hv,<-hw];unfold oz;split<;>split<;>omega,by omega⟩,(by omega)⟩)
   .
    exact at_ (k+1,c) (by dsimp only;exact⟨⟨by rw[l6,<-h1,<-hv,<-hw];unfold oz;split<;>split<;>omega,by omega⟩,(by omega)⟩)
  .
   refine gw (fu:=⟨19⟩) J (by show some (decide _)=some false;rw[decide_eq_false (by omega)]) J<|gH (fu:=⟨2⟩) J (by show some (decide _)=some true;rw[decide_eq_true (by omega)]) J<|?_;refine gw J (by show some (decide _)=some false;rw[decide_eq_false (by omega)]) J<|?_;exact at_ (k+1,c) (by dsimp only;exact⟨⟨by rw[l6,<-h1,<-hv,<-hw];unfold oz;split<;>split<;>omega,by omega⟩,(by omega)⟩)
 .
  obtain rfl:k=r.length:=by omega
  have hfin:il r p=c:=h1.symm;exact rz J (by rw[hfin];rfl)
def Xq{fill n:Int}(hn:n.natAbs<=1000):PF GB prog 9 [vI fill,vI n] (vB (jr fill n)):=by
 refine fn func9 J J ntmps9 J J (fun C=>?_);refine cs 7 J J J (fun hg7=>?_) (fun hg7=>?_)
 .
  refine cs 12 J J J (fun hg12=>?_) (fun hg12=>?_)
  .
   exact rz J (by show vB _=vB _;unfold jr;congr 1;simp_all)
  .
   refine cs 15 J J J (fun hg15=>?_) (fun hg15=>?_)
   .
    exact rz J (by show vB _=vB _;unfold jr;congr 1;simp_all)
   .
    exact rz J (by show vB _=vB _;unfold jr;congr 1;simp_all)
 .
  refine cs 15 J J J (fun hg15=>?_) (fun hg15=>?_)
  .
   exact rz J (by show vB _=vB _;unfold jr;congr 1;simp_all)
  .
   exact rz J (by show vB _=vB _;unfold jr;congr 1;simp_all)
def qC(rs:List (List ZP)):List ab:=(bO rs).map aH.l
def AG(rs:List (List ZP))(fill:Int):DV:= .ag [.sl (rs.map i7), .v (.int .i64 fill), .sl ((ki (qC rs)).map eL)]
def VB{rs:List (List ZP)}{p:aa}(h: ∀r∈rs,b9 r)(k:Nat):((rs.take k).foldl (fun n r=>n+il r p) 0).natAbs<=6*k:=by
 induction k with
 |zero=>rw[sW];exact bN _
 |succ k ih=>
  rw[dW,nZ]
  cases e:rs[k]? with
  |none=>exact fU ih (by omega)
  |some r=>
   have h1:(il r p).natAbs<=r.length:=AA r p r.length;have h2:=(h r (aS e)).n6;show(List.foldl _ 0 (rs.take k)+il r p).natAbs<=_;omega
def Qv{rs:List (List ZP)}{fill:Int}{p:aa}{i:Nat}[hp:aq p i](h: ∀r∈rs,b9 r)(hn:rs.length<=100)(hi:i<=80000:=by decide):PF GB prog 53 [AG rs fill,eP p] (vB (dP rs fill p)):=by
 have hm:=lg i7 rs;refine fn (fu:=⟨18⟩) func53 J J ntmps53 J J (fun C=>?_);refine aj 10 (.d (vI (rs.length:Nat))) J (by rw[hm]<;>rfl) ?_;refine gx J<|?_;refine lp (X:=Nat×Int) (fun⟨k,c⟩=>[(11, .d (vI (k:Nat))),(5, .d (vI c))]) (fun⟨k,c⟩=>[]) (fun⟨k,c⟩=>c=(rs.take k).foldl (fun n r=>n+il r p) 0/\k<=rs.length) (fun⟨k,c⟩=>rs.length-k) (0,0) J ⟨by rw[sW];rfl,bN _⟩ (fun _=>J) (fun⟨k,c⟩ hk=>?_);dsimp only at hk⊢;obtain⟨h1,h2⟩:=hk;have hcl:c.natAbs<=6*k:=by rw[h1];exact VB h k
 refine br J J J (fun hc12=>?_) (fun hc12=>?_)
 .
  obtain⟨r,hz⟩: ∃s,rs[k]? =some s:=⟨_,aZ (by omega)⟩;have hr:=h r (aS hz);have hnz:(il r p).natAbs<=6:=fU (AA r p r.length) hr.n6;refine ix _ J (ee hz) J<|cl J (Tz (r:=r) (p:=p) hr hi) J<|?_;exact at_ (k+1,c+il r p) (by dsimp only;exact⟨⟨by rw[dW,hz,nZ,<-h1];rfl,by omega⟩,(by omega)⟩)
 .
  obtain rfl:k=rs.length:=by omega
  rw[dX] at h1;refine cl J (Xq (fill:=fill) (n:=c) (by omega)) J<|?_;exact rz J (by unfold dP;rw[<-h1];rfl)
def ky(r:List ZP):DV:= .sl ((r.map ZP.q).map i9)
def YW(l:List (List ZP)):dG 1 (l.map ky):=fun d hd=>by
 obtain⟨u,_,rfl⟩:=bZ.1 hd;exact⟨rfl,rfl⟩
theorem GZ{r:List ZP}(h: ∀p∈r,ZP.le 100 p): ∀p∈r.map ZP.q,aq p 1200:=fun p hp=>by
 obtain⟨z,hz,rfl⟩:=bZ.1 hp;have:=w4 (h z hz);exact⟨BQ.mono this.x (by decide),BQ.mono this.y (by decide)⟩
def Ps(r:List ZP):DV.sl ((r.map ZP.q).map eP)=i7 r:=by unfold i7;rw[List.map_map];rfl
def Jk{rs:List (List ZP)}{k:Nat}{r:List ZP}(h:rs[k]? =some r):bO (rs.take (k+1))=bO (rs.take k)++cP r:=by
 unfold bO;rw[dW,h,List.flatMap_append];simp
def DG{rs:List (List ZP)}(h: ∀r∈rs,b9 r)(k:Nat):(bO (rs.take k)).length<=6*k:=by
 have:=(mF (rs:=rs.take k) (fun r hr=>h r (eY hr))).1;have h2:(rs.take k).length<=k:=by rw[cJ];omega
 omega
def OP{rs:List (List ZP)}{fill:Int}(h: ∀r∈rs,b9 r)(hn:rs.length<=100):PF GB prog 21 [.sl (rs.map ky), .v (.int .i64 fill)] (AG rs fill):=by
 have hm:=lg ky rs;refine fn (fu:=⟨8⟩) func21 J J ntmps21 J J (fun C=>?_);refine Sm (fu:=⟨14⟩) 41 1 0 [] [.v (.int .i64 fill), .sl []] J J J J J<|?_;refine aj 15 (.d (vI (rs.length:Nat))) J (by rw[hm]<;>rfl) ?_;refine gx J<|?_;refine nr 6 6 43 6 J J J ?_;refine lp (X:=Nat) (fun k=>[(16, .d (vI (k:Nat))),(6, .rw 6),(5, .ov 5 0)]) (fun k=>[(5,some (.o 67 [.rw 13, .d (.v (.int .i64 fill)), .d (.sl [])] true)),(13,some (.b 41 1 ((rs.take k).map i7) true)),(6,some (.b 43 6 (((bO (rs.take k)).map aH.l).map eL) true))]) (fun k=>k<=rs.length) (fun k=>rs.length-k) 0 J (bN _) (fun _=>J) (fun k hk=>?_);refine br (fu2:=⟨0⟩) J J J (fun hc17=>?_) (fun hc17=>?_)
 .
  obtain⟨r,hz⟩: ∃s,rs[k]? =some s:=⟨_,aZ (by omega)⟩;have hr:=h r (aS hz);have hel:(cP r).length<=6:=by have:=(qz hr).1;have:=hr.n6;omega
  have het:=DG h k;have hrl:((rs.take k).map i7).length=k:=by rw[aK,cJ];omega
  refine ix _ J (ee hz) J<|cl (fu:=⟨0⟩) J (Rj (ps:=r.map ZP.q) (GZ hr.le) (by rw[aK];have:=hr.n6;omega)) J<|?_;refine aj 21 (.d (i7 r)) J (by rw[Ps]) ?_;refine gx J<|rf J J<|ap ((rs.take (k+1)).map i7) J (Az hz) (KW [r]) J<|cl (fu:=⟨1⟩) J (Jw (r:=r) hr) J<|?_;refine aj 30 (.d (vI ((cP r).length:Nat))) J (by rw[lg si (cP r)]<;>rfl) ?_;refine gx J<|?_;rw[<-mU (bO (rs.take k)),<-sW (l:=cP r)];refine lp (X:=Nat) (fun j=>[(31, .d (vI (j:Nat))),(6, .rw 6)]) (fun j=>[(6,some (.b 43 6 (((bO (rs.take k)++(cP r).take j).map aH.l).map eL) true))]) (fun j=>j<=(cP r).length) (fun j=>(cP r).length-j) 0 J (bN _) (fun _=>J) (fun j hk=>?_);have hml:(((bO (rs.take k)++(cP r).take j).map aH.l).map eL).length<=6*k+6:=by rw[aK,aK,bQ,cJ];omega
  refine br J J J (fun hc32=>?_) (fun hc32=>?_)
  .
   obtain⟨e,he⟩: ∃s,(cP r)[j]? =some s:=⟨_,aZ (by omega)⟩;refine ix _ J (ee he) J<|rf J J<|ap (((bO (rs.take k)++(cP r).take (j+1)).map aH.l).map eL) J (by rw[dW,he];simp only[cN,gW];rfl) (oA [e.l]) J<|?_;refine gr 39 6 J ?_;exact at_ (j+1) ⟨(by omega),(by omega)⟩
  .
   obtain rfl:j=(cP r).length:=by omega
   rw[dX,<-Jk hz];refine gr 26 13 J ?_;exact at_ (k+1) ⟨(by omega),(by omega)⟩
 .
  obtain rfl:k=rs.length:=by omega
  rw[dX];refine yu 6 J ?_;refine yu 13 J ?_;refine gx rfl<|cl rfl (apY (ls:=qC rs) (fun l hl=>by obtain⟨f,hf,rfl⟩:=bZ.1 hl;exact((mF h).2 f hf).lb) (by unfold qC;rw[aK];have:=(mF h).1;omega)) rfl<|?_;exact rz J J
def z6{rs:List (List ZP)}(h: ∀r∈rs,b9 r)(hn:rs.length<=100):PF GB prog 18 [.sl (rs.map i7)] (.sl (rs.map ky)):=by
 have hm:=lg i7 rs;refine fn (fu:=⟨15⟩) func18 J J ntmps18 J J (fun C=>?_);refine aj 7 (.d (vI (rs.length:Nat))) J (by rw[hm]<;>rfl) ?_;refine gx J<|?_;refine nr 3 3 113 1 J J J ?_;refine lp (X:=Nat) (fun k=>[(8, .d (vI (k:Nat))),(3, .rw 3)]) (fun k=>[(3,some (.b 113 1 ((rs.take k).map ky) true))]) (fun k=>k<=rs.length) (fun k=>rs.length-k) 0 J (bN _) (fun _=>J) (fun k hk=>?_);have hml:((rs.take k).map ky).length<=k:=by rw[aK,cJ];omega
 refine br J J J (fun hc9=>?_) (fun hc9=>?_)
 .
  obtain⟨r,hz⟩: ∃s,rs[k]? =some s:=⟨_,aZ (by omega)⟩;have hr:=h r (aS hz);refine ix (fu:=⟨1⟩) _ J (ee hz) J<|?_;refine aj 11 (.d (.sl ((r.map ZP.q).map eP))) J (by rw[Ps]) ?_;refine gx J<|cl J (NF (ps:=r.map ZP.q) (GZ hr.le) (by rw[aK];have:=hr.n6;omega)) J<|rf J J<|ap ((rs.take (k+1)).map ky) J (Az hz) (YW [r]) J<|?_;refine gr 16 3 J ?_;exact at_ (k+1) ⟨(by omega),(by omega)⟩
 .
  obtain rfl:k=rs.length:=by omega
  refine mf 3 J ?_;exact rz J (by rw[dX];rfl)

def p7:aa:=⟨mkRat 1 7,mkRat 1 5⟩
structure LP (l:ab):Prop where
 s:LS l
 p:0<l.value p7
def GI(es:List Int):Nat->Nat->List ab×Nat
 |0,a=>([],a)
 |i+1,a=>((lF es a).1::(GI es i (lF es a).2).1,(GI es i (lF es a).2).2)
def LZ(es:List Int)(most a:Nat):List ab×Nat:=GI es (ao es ((most:Int)+1) a).1 (ao es ((most:Int)+1) a).2
def KF(l:ab):ab:=if(l.value p7).num.sign<0 then l.rev else l
def aF0(xs:List ab)(i:Nat):List ab:=(xs.take i).map KF++xs.drop i
def aGo(es:List Int)(a:Nat):List ab×Nat:=((LZ es 3 a).1.map KF,(LZ es 3 a).2)

def aDK(ds:List Int):dG 1 (ds.map vI):=fun d hd=>by
 obtain⟨n,_,rfl⟩:=bZ.1 hd;exact⟨rfl,rfl⟩
def Ta(es:List Int):(es.map vI).take (min es.length 400)=(es.take 400).map vI:=by
 rw[lN];rcases Nat.le_total es.length 400 with h|h
 ·rw[gX h,aL (by simp),aL (by simpa using h)]
 ·rw[Nat.min_eq_right h]
def VC{es:List Int}(hb:es.length<=1125899906842624):PN GB prog 10 [.sl (es.map vI)] 89 Unit (fun _=>[.sl ((es.take 400).map vI), .v (.int .i64 (0:Nat))]):=by
 have hel:(es.map vI).length=es.length:=by simp
 refine Xw func10 J J ntmps10 J J (fun C hmb=>?_);refine rC 0 (min es.length 400) ((es.take 400).map vI) J J (by rw[hel];show(if _ then _ else _:Int)=_;split<;>omega) (Ta es) (aDK _) (by omega) (by omega) J<|?_;exact rzN () J J J J J


def Zu(p r:ZP):(fj p.q r.q<0↔jF p r<0)/\(fj p.q r.q=0↔jF p r=0):=by
 have e1: ∀a b:Int,bE (a:Rat) (b:Rat)<0↔a<b:=fun a b=>by rw[vN,qM]
 have e2: ∀a b:Int,bE (a:Rat) (b:Rat)=0↔a=b:=fun a b=>by rw[Ad,qQ]
 have f1:=e1 p.1 r.1;have f2:=e2 p.1 r.1;have f3:=e1 p.2 r.2;have f4:=e2 p.2 r.2;show(fj ⟨(p.1:Rat),(p.2:Rat)⟩ ⟨(r.1:Rat),(r.2:Rat)⟩<0↔_)/\(fj ⟨(p.1:Rat),(p.2:Rat)⟩ ⟨(r.1:Rat),(r.2:Rat)⟩=0↔_);unfold fj jF;dsimp only;generalize bE (p.1:Rat) (r.1:Rat)=u at*;generalize bE (p.2:Rat) (r.2:Rat)=v at*;by_cases h:p.1<r.1
 ·rw[if_pos (by omega),if_pos h];omega
 ·by_cases h2:r.1<p.1
  ·rw[if_pos (by omega),if_neg h,if_pos h2];omega
  ·rw[if_neg (by omega),if_neg h,if_neg h2]
   by_cases h3:p.2<r.2
   ·rw[if_pos h3];omega
   ·rw[if_neg h3]
    split<;>omega
def IT(x:ZP): ∀l:List ZP,du fj x.q (l.map ZP.q)=(jq x l).map ZP.q
 |[]=>rfl
 |u::t=>by
  obtain⟨h1,h2⟩:=Zu u x;rw[cM,du,jq,IT x t];by_cases k1:jF u x<0
  ·rw[if_pos (h1.2 k1),if_pos k1];rfl
  ·rw[if_neg (fun e=>k1 (h1.1 e)),if_neg k1]
   by_cases k2:jF u x=0
   ·rw[if_pos (h2.2 k2),if_pos k2];rfl
   ·rw[if_neg (fun e=>k2 (h2.1 e)),if_neg k2];rfl
def X6(l:List ZP):pI fj (l.map ZP.q)=(og l).map ZP.q:=by
 have key: ∀(l o:List ZP),(l.map ZP.q).foldl (fun out x=>du fj x out) (o.map ZP.q)=(l.foldl (fun out x=>jq x out) o).map ZP.q:=by
  intro l
  induction l with
  |nil=>intro o;rfl
  |cons x t ih=>intro o;rw[cM,fY,fY,IT,ih]
 exact key l []
def OK(l:List ZP):(l.map ZP.q).map eP=l.map f8:=by rw[List.map_map];rfl
def Ji{l:List ZP}(h: ∀p∈l,ZP.le 100 p)(hn:l.length<=100000):PF GB prog 75 [.sl (l.map f8)] (.sl ((og l).map f8)):=by
 have:=R1 (GB:=GB) (ps:=l.map ZP.q) (GZ h) (by rw[aK];exact hn);rw[X6,OK,OK] at this;exact this
def QK(u v:ZP):(aa.cross (iP u.1 u.2) (iP v.1 v.2))=((po u v:Int):Rat):=by
 unfold aa.cross iP po;push_cast;rfl
def Gp(u v:ZP):(aa.cross (iP u.1 u.2) (iP v.1 v.2)).num.sign≠0↔po u v≠0:=by
 rw[QK,oX];exact not_congr iY
def Qr{α β:Type}(f:α->β)(l:List α):((l.map f).take (l.length-1)).drop 0=l.dropLast.map f:=by
 rw[iT,<-lN,List.dropLast_eq_take]
def Kd{l:List ZP}(h:0<l.length): ∃u,l.getLast? =some u/\l[l.length-1]? =some u/\l.getD (l.length-1) (0,0)=u:=by
 refine⟨l[l.length-1],?_,aZ (by omega),?_⟩
 ·rw[mV];exact aZ (by omega)
 ·rw[aX,aZ (by omega)];rfl
def Y7{l:List ZP}(h:0<l.length): ∃u,l[0]? =some u/\l.getD 0 (0,0)=u:=by
 refine⟨l[0],aZ (by omega),?_⟩;rw[aX,aZ (by omega)];rfl
def Br{u p:ZP}:(u.1=p.1/\u.2=p.2)↔u=p:=⟨fun h=>Prod.ext h.1 h.2,fun h=>by rw[h];exact⟨J,J⟩⟩
def Wk{b:Nat}{es:List Int}(hes:es.length<=400){a:Nat}(ha:a<=es.length):PM GB prog 35 (jh [none] b) b 89 [.sl (es.map vI), .v (.int .i64 (a:Nat))] (i7 (gn es a).1) [.sl (es.map vI), .v (.int .i64 ((gn es a).2:Nat))]:=by
 have hk0:=f9 (n:=4) ha;refine u5 (fu:=⟨6⟩) func35 J J ntmps35 J J (fun C b m lo hmb=>?_);refine mg (X:=Nat) (fun a2=>[]) (fun a2=>[(1000000,some (.o 89 [.d (.sl (es.map vI)), .d (.v (.int .i64 (a2:Nat)))] false))]) (fun a2=>gn es a=oc es a2/\a2<=es.length) [] [1000000] rfl ?_ (fun _=>J) (fun a2 ⟨hR,ha2⟩=>?_)
 .
  refine gx J<|cm J (fun b=>(lz (n:=4) hes ha (by decide) (by decide))) J<|?_;refine br J J J (fun hc15=>?_) (fun hc15=>?_)
  .
   have hx1:=f9 (n:=5) hk0;have hy1:=f9 (n:=5) hx1;have hz1:=f9 (n:=4) hy1;have hw1:=f9 (n:=4) hz1;have hl0:=iA (es:=es) (n:=5) (a:=(ao es 4 a).2) (by decide);have hl1:=iA (es:=es) (n:=5) (a:=(ao es 5 (ao es 4 a).2).2) (by decide);have hl2:=iA (es:=es) (n:=4) (a:=(ao es 5 (ao es 5 (ao es 4 a).2).2).2) (by decide);have hl3:=iA (es:=es) (n:=4) (a:=(ao es 4 (ao es 5 (ao es 5 (ao es 4 a).2).2).2).2) (by decide);refine cm J (fun b=>(lz (n:=5) hes hk0 (by decide) (by decide))) J<|cm J (fun b=>(lz (n:=5) hes hx1 (by decide) (by decide))) J<|?_;refine cm J (fun b=>(lz (n:=4) hes hy1 (by decide) (by decide))) J<|cm J (fun b=>(lz (n:=4) hes hz1 (by decide) (by decide))) J<|?_;refine cl J (kg (m:=(((ao es 5 (ao es 4 a).2).1:Int)-4)) (n:=(((ao es 5 (ao es 5 (ao es 4 a).2).2).1:Int)-4)) (by omega) (by omega)) J<|?_;refine cl J (kg (m:=(((ao es 5 (ao es 4 a).2).1:Int)-4+1+((ao es 4 (ao es 5 (ao es 5 (ao es 4 a).2).2).2).1:Int))) (n:=(((ao es 5 (ao es 5 (ao es 4 a).2).2).1:Int)-4)) (by omega) (by omega)) J<|?_;refine cl J (kg (m:=(((ao es 5 (ao es 4 a).2).1:Int)-4+1+((ao es 4 (ao es 5 (ao es 5 (ao es 4 a).2).2).2).1:Int))) (n:=(((ao es 5 (ao es 5 (ao es 4 a).2).2).1:Int)-4+1+((ao es 4 (ao es 4 (ao es 5 (ao es 5 (ao es 4 a).2).2).2).2).1:Int))) (by omega) (by omega)) J<|?_;refine cl J (kg (m:=(((ao es 5 (ao es 4 a).2).1:Int)-4)) (n:=(((ao es 5 (ao es 5 (ao es 4 a).2).2).1:Int)-4+1+((ao es 4 (ao es 4 (ao es 5 (ao es 5 (ao es 4 a).2).2).2).2).1:Int))) (by omega) (by omega)) J<|?_;refine rf J J<|?_
   exact jO hmb J J (by rw[show gn es a=_ from if_pos hc15];rfl) (by rw[show gn es a=_ from if_pos hc15];rfl)
  .
   refine br J J J (fun hc46=>?_) (fun hc46=>?_)
   .
    obtain⟨hp1,hp2,hp3⟩:=uH hk0;obtain⟨hu1,hu2,hu3,hu4⟩:=vX hp3;obtain⟨hv1,hv2,hv3,hv4⟩:=vX hu4;haveI:=iu (k:=10) (m:=(vF es (pF es (ao es 4 a).2).2).1.1) (by omega) (by decide);haveI:=iu (k:=10) (m:=(vF es (pF es (ao es 4 a).2).2).1.2) (by omega) (by decide);haveI:=iu (k:=10) (m:=(vF es (vF es (pF es (ao es 4 a).2).2).2).1.1) (by omega) (by decide);haveI:=iu (k:=10) (m:=(vF es (vF es (pF es (ao es 4 a).2).2).2).1.2) (by omega) (by decide);refine cm J (fun b=>(HE hes hk0)) J<|cm J (fun b=>(Jl hes hp3)) J<|cm J (fun b=>(Jl hes hu4)) J<|cl J (xV (p:=iP (vF es (pF es (ao es 4 a).2).2).1.1 (vF es (pF es (ao es 4 a).2).2).1.2) (q:=iP (vF es (vF es (pF es (ao es 4 a).2).2).2).1.1 (vF es (vF es (pF es (ao es 4 a).2).2).2).1.2)) J<|?_;refine cl J (oF (q:=aa.cross (iP (vF es (pF es (ao es 4 a).2).2).1.1 (vF es (pF es (ao es 4 a).2).2).1.2) (iP (vF es (vF es (pF es (ao es 4 a).2).2).2).1.1 (vF es (vF es (pF es (ao es 4 a).2).2).2).1.2))) J<|?_;refine br J J J (fun hc58=>?_) (fun hc58=>?_)
    .
     refine cl J (nH (n:=1) (by decide) (by decide)) J<|cl J (Gf (m:=(pF es (ao es 4 a).2).1.1) (n:=(pF es (ao es 4 a).2).1.2) (m':=(vF es (pF es (ao es 4 a).2).2).1.1) (n':=(vF es (pF es (ao es 4 a).2).2).1.2) (k:=1) (by omega) (by omega) (by omega) (by omega) (by decide)) J<|?_;refine cl J (nH (n:=1) (by decide) (by decide)) J<|cl J (Gf (m:=(pF es (ao es 4 a).2).1.1) (n:=(pF es (ao es 4 a).2).1.2) (m':=(vF es (vF es (pF es (ao es 4 a).2).2).2).1.1) (n':=(vF es (vF es (pF es (ao es 4 a).2).2).2).1.2) (k:=1) (by omega) (by omega) (by omega) (by omega) (by decide)) J<|?_;refine rf J J<|?_;exact jO hmb J J (by rw[show gn es a=_ from(if_neg hc15).trans ((if_pos hc46).trans (if_pos ((Gp _ _).1 hc58)))];rfl) (by rw[show gn es a=_ from(if_neg hc15).trans ((if_pos hc46).trans (if_pos ((Gp _ _).1 hc58)))])
    .
     exact at_ (vF es (vF es (pF es (ao es 4 a).2).2).2).2 ⟨(if_neg hc15).trans ((if_pos hc46).trans (if_neg (fun e=>hc58 ((Gp _ _).2 e)))),hv4⟩
   .
    exact at_ (ao es 4 a).2 ⟨(if_neg hc15).trans (if_neg hc46),hk0⟩
 .
  have hj1:=iA (es:=es) (n:=4) (a:=a2) (by decide);have hj2:=f9 (n:=4) ha2;refine cm J (fun b=>(lz (n:=4) hes ha2 (by decide) (by decide))) J<|?_;refine nr 10 10 36 6 J J J ?_;refine lp (X:=List ZP×Nat×Nat) (fun⟨r,i,a3⟩=>[(11, .d (vI (i:Nat))),(10, .rw 10)]) (fun⟨r,i,a3⟩=>[(1000000,some (.o 89 [.d (.sl (es.map vI)), .d (.v (.int .i64 (a3:Nat)))] false)),(10,some (.b 36 6 (r.map f8) true))]) (fun⟨r,i,a3⟩=>mh es i a3 r=mh es (3+(ao es 4 a2).1) (ao es 4 a2).2 []/\a3<=es.length/\kd r/\r.length+i<=6) (fun⟨r,i,a3⟩=>i) ⟨[],3+(ao es 4 a2).1,(ao es 4 a2).2⟩ J ⟨J,hj2,kd.nil,by simp;omega⟩ (fun _=>J) (fun⟨r,i,a3⟩ hk=>?_)
  try dsimp only at hk⊢
  obtain⟨h1,h2,h3,h4⟩:=hk;have hrl:(r.map f8).length=r.length:=by simp
  refine br (fu2:=⟨0⟩) J J J (fun hc73=>?_) (fun hc73=>?_)
  .
   obtain⟨j,rfl⟩: ∃j,i=j+1:=⟨i-1,by omega⟩;obtain⟨hq1,hq2,hq3⟩:=uH h2;refine cm (fu:=⟨8⟩) J (fun b=>(HE hes h2)) J<|?_;refine pB (v1:=fun hg80=>by simp only[ah];kernel_rfl) J J J J (fun hg80=>?_) (fun hg80=>?_)
   .
    have hlast: ¬r.getLast? =some (pF es a3).1:=by rw[cV (l:=r) (by omega)];simp
    refine rf J J<|ap ((r++[(pF es a3).1]).map f8) J (by rw[cN];rfl) (HK [_]) J<|?_;refine gr 95 10 J ?_;exact at_ ⟨r++[(pF es a3).1],j,(pF es a3).2⟩ (by dsimp only;exact⟨⟨by rw[<-h1,mh,if_neg hlast],hq3,h3.snoc ⟨by omega,by omega⟩ hlast,by simp;omega⟩,(by omega)⟩)
   .
    obtain⟨q,hq,hqi,hqd⟩:=Kd (l:=r) (by omega);have hqm:=h3.le q (oL hq);unfold ZP.le at hqm;refine lb (f8 q) J (by rw[show(((r.map f8).length:Nat):Int)-1=((r.length-1:Nat):Int) by omega];exact ee hqi) J<|cl J (F0 (m:=q.1) (n:=q.2) (m':=(pF es a3).1.1) (n':=(pF es a3).1.2) (by omega) (by omega) (by omega) (by omega)) J<|?_;refine bb J J J (fun hc91=>?_) (fun hc91=>?_)
    .
     have hlast: ¬r.getLast? =some (pF es a3).1:=by rw[hq];intro e;have:=Br.2 (Option.some.inj e);simp[this] at hc91
     refine rf J J<|ap ((r++[(pF es a3).1]).map f8) J (by rw[cN];rfl) (HK [_]) J<|?_;refine gr 95 10 J ?_;exact at_ ⟨r++[(pF es a3).1],j,(pF es a3).2⟩ (by dsimp only;exact⟨⟨by rw[<-h1,mh,if_neg hlast],hq3,h3.snoc ⟨by omega,by omega⟩ hlast,by simp;omega⟩,(by omega)⟩)
    .
     have hlast:r.getLast? =some (pF es a3).1:=by rw[hq];congr 1;exact Br.1 (by simpa using hc91)
     exact at_ ⟨r,j,(pF es a3).2⟩ (by dsimp only;exact⟨⟨by rw[<-h1,mh,if_pos hlast],hq3,h3,by omega⟩,(by omega)⟩)
  .
   obtain rfl:i=0:=by omega
   have hg:=h1;rw[mh] at hg;refine yu 10 J ?_;refine gx J<|?_;refine lp (fu:=⟨5⟩) (X:=List ZP×Nat) (fun⟨l,m⟩=>[(10, .d (.sl (l.map f8)))]) (fun⟨l,m⟩=>[]) (fun⟨l,m⟩=>jk m l=jk 6 r/\l.length<=m+1/\kd l/\l.length<=6) (fun⟨l,m⟩=>m) ⟨r,6⟩ J ⟨J,by omega,h3,by omega⟩ (fun _=>J) (fun⟨l,m⟩ hk=>?_)
   try dsimp only at hk⊢
   obtain⟨t1,t2,t3,t4⟩:=hk;have hll:(l.map f8).length=l.length:=by simp
   refine pB (v2:=fun hg98=>by simp only[ah];kernel_rfl) J J J J (fun hg98=>?_) (fun hg98=>?_)
   .
    obtain⟨q,hqi,hqd⟩:=Y7 (l:=l) (by omega);obtain⟨q2,hq0,hqi2,hqd2⟩:=Kd (l:=l) (by omega);have hqm:=t3.le q (aS hqi);have hqm2:=t3.le q2 (aS hqi2);unfold ZP.le at hqm hqm2;refine ix _ J (ee (i:=0) hqi) J<|ix (f8 q2) J (by rw[show(((l.map f8).length:Nat):Int)-1=((l.length-1:Nat):Int) by omega];exact ee hqi2) J<|?_;refine cl J (F0 (m:=q.1) (n:=q.2) (m':=q2.1) (n':=q2.2) (by omega) (by omega) (by omega) (by omega)) J<|?_;refine bd J J J (fun hc110=>?_) (fun hc110=>?_)
    .
     have hcond:1<l.length/\l.getD 0 (0,0)=l.getD (l.length-1) (0,0):=⟨by omega,by rw[hqd,hqd2];exact Br.1 hc110⟩;refine rC 0 (l.length-1) (l.dropLast.map f8) J J (by omega) (Qr f8 l) (HK l) (bN _) (by omega) J<|?_;exact at_ ⟨l.dropLast,m-1⟩ (by dsimp only;exact⟨⟨by rw[<-t1];obtain⟨m,rfl⟩: ∃q,m=q+1:=⟨m-1,by omega⟩;rw[jk,if_pos hcond];rfl,by rw[nQ];omega,t3.drop,by rw[nQ];omega⟩,(by omega)⟩)
    .
     have hcond: ¬(1<l.length/\l.getD 0 (0,0)=l.getD (l.length-1) (0,0)):=fun e=>hc110 (Br.2 (by rw[<-hqd,<-hqd2];exact e.2));refine cl (fu:=⟨1⟩) J (Ji (l:=l) t3.le (by omega)) J<|?_;have hgen:jk 6 r=l:=by rw[<-t1];cases m with|zero=>rfl|succ m=>rw[jk,if_neg hcond]
     refine aj 118 (.d (vI ((og l).length:Nat))) J (by rw[aK];rfl) ?_;refine gx J<|?_;refine br J J J (fun hc119=>?_) (fun hc119=>?_)
     .
      have hfin:gn es a=(vj,a3):=by rw[hR,oc,<-hg,hgen,if_pos (by omega)]
      refine cl J (kg (m:=0) (n:=0) (by decide) (by decide)) J<|cl J (kg (m:=2) (n:=0) (by decide) (by decide)) J<|cl J (kg (m:=0) (n:=2) (by decide) (by decide)) J<|?_;refine rf J J<|?_;exact jO hmb J J (by rw[hfin];rfl) (by rw[hfin])
     .
      have hfin:gn es a=(l,a3):=by rw[hR,oc,<-hg,hgen,if_neg (by omega)]
      exact jO hmb J J (by rw[hfin];rfl) (by rw[hfin])
   .
    have hcond: ¬(1<l.length/\l.getD 0 (0,0)=l.getD (l.length-1) (0,0)):=fun e=>by omega
    refine cl (fu:=⟨1⟩) J (Ji (l:=l) t3.le (by omega)) J<|?_;have hgen:jk 6 r=l:=by rw[<-t1];cases m with|zero=>rfl|succ m=>rw[jk,if_neg hcond]
    refine aj 118 (.d (vI ((og l).length:Nat))) J (by rw[aK];rfl) ?_;refine gx J<|?_;refine br J J J (fun hc119=>?_) (fun hc119=>?_)
    .
     have hfin:gn es a=(vj,a3):=by rw[hR,oc,<-hg,hgen,if_pos (by omega)]
     refine cl J (kg (m:=0) (n:=0) (by decide) (by decide)) J<|cl J (kg (m:=2) (n:=0) (by decide) (by decide)) J<|cl J (kg (m:=0) (n:=2) (by decide) (by decide)) J<|?_;refine rf J J<|?_;exact jO hmb J J (by rw[hfin];rfl) (by rw[hfin])
    .
     have hfin:gn es a=(l,a3):=by rw[hR,oc,<-hg,hgen,if_neg (by omega)]
     exact jO hmb J J (by rw[hfin];rfl) (by rw[hfin])
def EQ:DV:= .v (.pointer none)
def UT(l:ab)(p q:DV):List DV:=[.v (.bool false), .v (.bool false), .v (.bool (decide (l.a<0))),dN l.a.natAbs, .v (.bool (decide (l.b<0))),dN l.b.natAbs, .v (.bool (decide (l.c<0))),dN l.c.natAbs,p,q]
inductive RF (ns:List RN):Int->(Nat->Bool)->DV->Bool->(Nat->Bool)->Prop where
 |leaf (b:Bool) (f:Nat->Bool):RF ns (Aq b) f (eT (.leaf b)) true f
 |mn (rt:Int) (f:Nat->Bool) (h1:rt≠ -1) (h2:rt≠ -2) (h:rt<0\/(ns.length:Int)<=rt\/(∃k:Nat,rt=k/\k<ns.length/\f k=true)):RF ns rt f EQ false f
 |line (k:Nat) (n:RN) (f:Nat->Bool) (h:ns[k]? =some n) (hf:f k=false) (hl:n.g.ln=none):RF ns (k:Int) f EQ false (uK f k)
 |left (k:Nat) (n:RN) (l:ab) (f f2:Nat->Bool) (p:DV) (h:ns[k]? =some n) (hf:f k=false) (hl:n.g.ln=some l) (h1:RF ns n.l (uK f k) p false f2):RF ns (k:Int) f EQ false f2
 |node (k:Nat) (n:RN) (l:ab) (f f2 f3:Nat->Bool) (p q:DV) (ok:Bool) (h:ns[k]? =some n) (hf:f k=false) (hl:n.g.ln=some l) (h1:RF ns n.l (uK f k) p true f2) (h2:RF ns n.r f2 q ok f3):RF ns (k:Int) f (.pt (UT l p q)) ok f3
def aGZ(n:Nat)(f:Nat->Bool):Bool:=(List.range n).all f
def Qy:ab:=⟨0,1,0⟩
def t00:Tr:= .node Qy (.leaf true) (.leaf false)
structure TrX (k:Nat) (t:Tr):Prop where
 o:WI k t
 s:t.size<=3000
def aGN(es:List Int)(a:Nat):(Tr×Tr)×Nat:=
 let x:=qO es 0 a
 let y:=qO es 0 x.2
 let k:=ao es 3 y.2
 let u:=if(k.1:Int)=0 then lA es 3 k.2 else(x.1,k.2)
 let j:=ao es 3 u.2
 let v:=if(j.1:Int)=0 then lA es 3 j.2 else(y.1,j.2)
 ((u.1,v.1),v.2)
def aFS(es:List Int)(a:Nat):(Tr×Tr)×Nat:=
 let x:=qO es 0 a
 let y:=qO es 0 x.2
 let k:=ao es 6 y.2
 if(k.1:Int)=0 then((x.1, .node (lF es k.2).1 x.1 x.1),(lF es k.2).2)
 else if(k.1:Int)=1 then((x.1,y.1.mergeQ 1 x.1 []),k.2)
 else if(k.1:Int)=2 then((x.1,y.1.mergeQ 3 x.1 []),k.2)
 else if(k.1:Int)=3 then((x.1,(lA es 3 k.2).1),(lA es 3 k.2).2)
 else((x.1,y.1),k.2)
def K3(es:List Int):Nat->Nat->List Tr×Nat
 |0,a=>([],a)
 |n+1,a=>((qO es 0 a).1::(K3 es n (qO es 0 a).2).1,(K3 es n (qO es 0 a).2).2)
def YN(r:List ZP)(i k:Nat):Bool:=decide (k=i)||decide (k=(i+1)%r.length)||decide (0<tK (r.getD i (0,0)).q (c6 r i).q (r.getD k (0,0)).q)
def aDO(r:List ZP):Bool:=(List.range r.length).all fun i=>(List.range r.length).all fun k=>YN r i k
section
variable {GB:Gh} {C:az} {n:Nat} {Q0:Exit->Act->World->Prop} {fr fr' fr1 fr2:au} {own own' own1 own2:aB} {cf cf' cf1 cf2:Cf} {vc vc1 vc2:List Prop}
def aGV(fr:au)(cf:Cf):Option Int:=match bH fr cf with
 |some ⟨_, .binOp .and _ x (.const (.int .i64 3)) _,_,_,_,_⟩=>match aE (bj fr cf) x with
  |some (.d (.v (.int .i64 p)))=>some p
  |_=>none
 |_=>none
end
def Wj{es0 es:List Int}(hb:es0.length<=1125899906842624)(he:es=es0.take 400):PN GB prog 10 [.sl (es0.map vI)] 89 Unit (fun _=>[.sl (es.map vI), .v (.int .i64 (0:Nat))]):=by
 subst he;exact VC hb
def ePr(a b:Tr):DV:= .ag [eU a,eU b]
def prZ:DV:= .ag [.v (.pointer none), .v (.pointer none)]
def mtQ(a:ab)(t:List ab):List Rat:=t.filterMap fun b=>if crossI a b=0 then none else some (kh a b).x
def aGW(l:List ab)(x:Rat):List aa:=(mi (DA (Lj l x))).map fun y=>⟨x,y⟩
def H6:Tr->aa->Bool
 | .leaf _,_=>true
 | .node l x y,p=>if(l.value p).num.sign=1 then H6 x p else if(l.value p).num.sign= -1 then H6 y p else false
def Ya(ls:List ab):(ki ls).length<=ls.length:=by
 have:=CS fg (ls.map ab.canon) [];unfold ki pI;rw[aK,gV] at this;omega
theorem Qt{ls:List ab}(h: ∀l∈ls,LB l): ∀l∈ki ls,LB l:=fun l hl=>by
 obtain⟨x,hx,rfl⟩:=En hl;haveI:=h x hx
 infer_instance
structure Two (a b:Tr):Prop where
 ga:a.gd
 gb:b.gd
 sa:a.size<=3000
 sb:b.size<=3000
def f1R(x y:Bool):Bool:=x&&!y
def f2R(x y:Bool):Bool:=y&&!x
def f3R(x y:Bool):Bool:=x&&y
def f4R(x y:Bool):Bool:=!x&&!y
def anK(f:Bool->Bool->Bool)(a b:Tr)(k:Nat):Bool:=((Do a b).take k).any fun p=>f (sO a p) (sO b p)
def JN:Tr->List ab->List (List ab×Bool)
 | .leaf b,c=>if MI c then [(rx c,b)] else []
 | .node l x y,c=>if MI c then JN x (rx c++[l])++JN y (rx c++[l.rev]) else []
def Qo(c:List ab)(p:aa):Bool:=c.all fun l=>decide (0<Int.sign (l.value p).num)
def aG7(c:List ab):Option aa:=(Lq (ki c)).find? (Qo c)
def aHw(c:bw):Prop:=(c.map fun s=>s.l.dir).Pairwise bv
def aHh(c:List ab):Prop:=(c.map ab.dir).Pairwise bv
def XL(c:bw):Bool:=!c.isEmpty&&c.all fun s=>!s.v.nl&&!s.v.nh
def S4(c:List ab)(v:aa):Bool:=c.all fun l=>decide (0<=Int.sign (l.dir.cross v).num)
def aHQ(c:List ab):Bool:=!c.isEmpty&&(c.flatMap fun l=>[l.dir,ba l.dir]).all fun v=>!S4 c v
def qr:ab:=⟨1,0,0⟩
def Y'(c:List ab)(i:Nat):List aa:=
 if 0<Int.sign ((c.getD i qr).dir.cross (c.getD ((i+1)%c.length) qr).dir).num then [kh (c.getD i qr) (c.getD ((i+1)%c.length) qr)] else []
def Bl(c:List ab):List aa:=(List.range c.length).flatMap (Y' c)
def Sh(v:List aa)(i:Nat):List aa:=[v.getD 0 ⟨0,0⟩,v.getD (i+1) ⟨0,0⟩,v.getD (i+2) ⟨0,0⟩]
def IS(v:List aa):List (List aa):=(List.range (v.length-2)).map (Sh v)
def aGE(cs:List (List ab)):List (List aa):=cs.flatMap fun c=>IS (Bl c)
end Go.Sx
end
