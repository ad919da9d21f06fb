import Derived.Test.YtmhfhhiaecjhiaaGreatDoorBr14
set_option linter.all false
set_option maxHeartbeats 4000000
set_option maxRecDepth 100000
section
namespace Go.Sx
open Go Go.Proofs Tryz
variable {GB:Gh}
def c7(a b p:aa):Rat:=(b.x-a.x)*(p.y-a.y)-(b.y-a.y)*(p.x-a.x)
def nO(v w p:aa):Int:=(if v.y<=p.y/\ ¬w.y<=p.y/\0<c7 v w p then 1 else 0)-(if¬v.y<=p.y/\w.y<=p.y/\c7 v w p<0 then 1 else 0)
def rI(v w q p:aa):Prop:= ∀s t:Rat,0<=s->s<=1->0<=t->t<=1->bG v w s≠bG q p t
def zl{a b:Rat}(h0:0<=a)(h1:a<=b)(hb:0<b):0<=a/b/\a/b<=1/\a/b*b=a:=by
 have e:a/b*b=a:=by grind
 generalize a/b=q at*;refine⟨?_,?_,e⟩
 .exact(i5 hb).1 (by rw[e];exact h0)
 .have:=(i5 (s:=1-q) hb).1 (by grind)
  grind
def aDT{q p x:aa}(hy:q.y<p.y)(h:c7 q p x=0)(h1:q.y<=x.y)(h2:x.y<=p.y): ∃t,0<=t/\t<=1/\x=bG q p t:=by
 obtain⟨a1,a2,a3⟩:=zl (a:=x.y-q.y) (b:=p.y-q.y) (by grind) (by grind) (by grind);refine⟨_,a1,a2,?_⟩;generalize (x.y-q.y)/(p.y-q.y)=t at*;obtain⟨X,Y⟩:=x;unfold c7 at h;unfold bG;simp only at*;have e:X=q.x+t*(p.x-q.x):=by
  have h3:(p.y-q.y)*(X-q.x)=(p.y-q.y)*(t*(p.x-q.x)):=by grind
  have h4:p.y-q.y≠0:=by grind
  have:=kL.1 (show(p.y-q.y)*(X-q.x-t*(p.x-q.x))=0 by grind);rcases this with h5|h5
  .exact absurd h5 h4
  .grind
 rw[e];congr 1;grind
def Sc(q p v w:aa)(e:Rat):c7 q p (bG v w e)=c7 q p v+e*(c7 q p w-c7 q p v):=by
 unfold c7 bG;grind
def Pa(v w:aa)(a b e:Rat):bG (bG v w a) (bG v w b) e=bG v w (a+e*(b-a)):=by
 unfold bG;simp only[aa.mk.injEq];constructor<;>grind
def z'(v w:aa)(e:Rat):(bG v w e).y=v.y+e*(w.y-v.y):=rfl
def FM{a b e lo hi:Rat}(h0:0<=e)(h1:e<=1)(ha:lo<=a)(hb:lo<=b)(ha2:a<=hi)(hb2:b<=hi):lo<=a+e*(b-a)/\a+e*(b-a)<=hi:=by
 have k1:=eO h0 (show 0<=b-lo by grind);have k2:=eO (show 0<=1-e by grind) (show 0<=a-lo by grind);have k3:=eO h0 (show 0<=hi-b by grind);have k4:=eO (show 0<=1-e by grind) (show 0<=hi-a by grind);constructor<;>grind
def UD{v w q p:aa}(hn:rI v w q p)(hy:q.y<p.y){a b:Rat}(a0:0<=a)(a1:a<=1)(b0:0<=b)(b1:b<=1)(ha:q.y<=(bG v w a).y/\(bG v w a).y<=p.y)(hb:q.y<=(bG v w b).y/\(bG v w b).y<=p.y)(h:c7 q p (bG v w a)<0):c7 q p (bG v w b)<0:=by
 by_cases k:c7 q p (bG v w b)<0
 .exact k
 .exfalso
  obtain⟨e0,e1,e2⟩:=zl (a:= -(c7 q p (bG v w a))) (b:=c7 q p (bG v w b)-c7 q p (bG v w a)) (by grind) (by grind) (by grind);generalize-(c7 q p (bG v w a))/(c7 q p (bG v w b)-c7 q p (bG v w a))=e at*;have hz:c7 q p (bG v w (a+e*(b-a)))=0:=by rw[<-Pa,Sc];grind
  have hh:=FM e0 e1 ha.1 hb.1 ha.2 hb.2;rw[<-z',Pa] at hh;obtain⟨t,t0,t1,ht⟩:=aDT hy hz hh.1 hh.2;have h01:=FM e0 e1 a0 b0 a1 b1;exact hn _ t h01.1 h01.2 t0 t1 ht
def az2{v w q p:aa}(hn:rI v w q p)(hy:q.y<p.y): ∃r:Bool,∀s,0<=s->s<=1->q.y<=(bG v w s).y->(bG v w s).y<=p.y->(c7 q p (bG v w s)<0↔r=true):=by
 by_cases h: ∃s,0<=s/\s<=1/\(q.y<=(bG v w s).y/\(bG v w s).y<=p.y)/\c7 q p (bG v w s)<0
 .obtain⟨s,s0,s1,s2,s3⟩:=h
  exact⟨true,fun t t0 t1 h1 h2=>⟨fun _=>J,fun _=>UD hn hy s0 s1 t0 t1 s2 ⟨h1,h2⟩ s3⟩⟩
 .exact⟨false,fun t t0 t1 h1 h2=>⟨fun k=>absurd ⟨t,t0,t1,⟨h1,h2⟩,k⟩ h,fun k=>by cases k⟩⟩
def KD(v w:aa):bG v w 0=v:=by unfold bG;cases v;simp only[aa.mk.injEq];constructor<;>grind
def KF(v w:aa):bG v w 1=w:=by unfold bG;cases w;simp only[aa.mk.injEq];constructor<;>grind
def ED{v w:aa}{y:Rat}(h:(v.y<=y/\ ¬w.y<=y)\/(¬v.y<=y/\w.y<=y)): ∃s,0<=s/\s<=1/\(bG v w s).y=y:=by
 rcases h with⟨h1,h2⟩|⟨h1,h2⟩
 .obtain⟨a1,a2,a3⟩:=zl (a:=y-v.y) (b:=w.y-v.y) (by grind) (by grind) (by grind)
  refine⟨_,a1,a2,?_⟩;rw[z'];grind
 .obtain⟨a1,a2,a3⟩:=zl (a:=v.y-y) (b:=v.y-w.y) (by grind) (by grind) (by grind)
  refine⟨_,a1,a2,?_⟩;rw[z'];grind
def Nq{v w p:aa}{s:Rat}(h:(bG v w s).y=p.y):c7 v w p=(w.y-v.y)*((bG v w s).x-p.x):=by
 unfold c7;unfold bG at*;simp only at*;rw[<-h];grind
def wI{a b:Rat}(ha:0<a):0<a*b↔0<b:=by rw[Rat.mul_comm];exact jb ha
def H3{a b:Rat}(ha:a<0):a*b<0↔0<b:=by
 have:=wI (a:= -a) (b:=b) (by grind);constructor
 .intro h;exact this.1 (by grind)
 .intro h;have:=this.2 h;grind
def bI(b:Prop)[Decidable b]:Int:=if b then 1 else 0
def Av{v w p:aa}{r:Prop}[Decidable r](h: ∀s,0<=s->s<=1->(bG v w s).y=p.y->(p.x<(bG v w s).x↔r)):nO v w p=if r then bI (v.y<=p.y)-bI (w.y<=p.y) else 0:=by
 unfold nO bI;by_cases h1:v.y<=p.y<;>by_cases h2:w.y<=p.y
 .simp[h1,h2]
 .obtain⟨s,s0,s1,s2⟩:=ED (.inl ⟨h1,h2⟩)
  have e:=Nq s2;have k:=h s s0 s1 s2;have m:=wI (a:=w.y-v.y) (b:=(bG v w s).x-p.x) (by grind);rw[<-e] at m;have m2:0<c7 v w p↔r:=by rw[m,<-k];grind
  simp only[h1,h2,m2];by_cases q:r<;>simp[q]
 .obtain⟨s,s0,s1,s2⟩:=ED (.inr ⟨h1,h2⟩)
  have e:=Nq s2;have k:=h s s0 s1 s2;have m:=H3 (a:=w.y-v.y) (b:=(bG v w s).x-p.x) (by grind);rw[<-e] at m;have m2:c7 v w p<0↔r:=by rw[m,<-k];grind
  simp only[h1,h2,m2];by_cases q:r<;>simp[q]
 .simp[h1,h2]
def s6(q p u:aa):Int:=if q.y<u.y/\u.y<=p.y/\c7 q p u<0 then 1 else 0
def Li{v w q p:aa}(hn:rI v w q p)(hy:q.y<p.y):nO v w p-nO v w q=s6 q p v-s6 q p w:=by
 obtain⟨r,hr⟩:=az2 hn hy;have ep:=Av (v:=v) (w:=w) (p:=p) (r:=r=true) fun s s0 s1 s2=>by
  rw[<-hr s s0 s1 (by grind) (by grind)];have m:=wI (a:=p.y-q.y) (b:=(bG v w s).x-p.x) (by grind);have:c7 q p (bG v w s)= -((p.y-q.y)*((bG v w s).x-p.x)):=by unfold c7;rw[s2];grind
  rw[this];generalize (p.y-q.y)*((bG v w s).x-p.x)=z at*;constructor
  .intro k;have:=m.2 (by grind);grind
  .intro k;have:=m.1 (by grind);grind
 have eq:=Av (v:=v) (w:=w) (p:=q) (r:=r=true) fun s s0 s1 s2=>by
  rw[<-hr s s0 s1 (by grind) (by grind)];have m:=wI (a:=p.y-q.y) (b:=(bG v w s).x-q.x) (by grind);have:c7 q p (bG v w s)= -((p.y-q.y)*((bG v w s).x-q.x)):=by unfold c7;rw[s2];grind
  rw[this];generalize (p.y-q.y)*((bG v w s).x-q.x)=z at*;constructor
  .intro k;have:=m.2 (by grind);grind
  .intro k;have:=m.1 (by grind);grind
 have fv:s6 q p v=if r=true then bI (v.y<=p.y)-bI (v.y<=q.y) else 0:=by
  have h:=hr 0 (by decide) (by decide);rw[KD] at h;unfold s6 bI;by_cases h1:v.y<=p.y<;>by_cases h2:v.y<=q.y
  .have: ¬q.y<v.y:=by grind
   simp[h1,h2,this]
  .have h3:q.y<v.y:=by grind
   have:=h (by grind) h1;simp only[h1,h2,h3,this];by_cases q:r=true<;>simp[q]
  .exfalso;grind
  .simp[h1,h2]
 have fw:s6 q p w=if r=true then bI (w.y<=p.y)-bI (w.y<=q.y) else 0:=by
  have h:=hr 1 (by decide) (by decide);rw[KF] at h;unfold s6 bI;by_cases h1:w.y<=p.y<;>by_cases h2:w.y<=q.y
  .have: ¬q.y<w.y:=by grind
   simp[h1,h2,this]
  .have h3:q.y<w.y:=by grind
   have:=h (by grind) h1;simp only[h1,h2,h3,this];by_cases q:r=true<;>simp[q]
  .exfalso;grind
  .simp[h1,h2]
 rw[ep,eq,fv,fw];by_cases q:r=true
 .simp only[if_pos q];omega
 .simp only[if_neg q]
def W0{v w q p:aa}(hn:rI v w q p)(hy:q.y=p.y):nO v w p=nO v w q:=by
 have key: ∀s,0<=s->s<=1->(bG v w s).y=p.y->(p.x<(bG v w s).x↔q.x<(bG v w s).x):=fun s s0 s1 s2=>by
  have no: ∀a b:Rat,a<=(bG v w s).x->(bG v w s).x<b->((a=q.x/\b=p.x)\/(a=p.x/\b=q.x))->False:=fun a b h1 h2 h3=>by
   obtain⟨a1,a2,a3⟩:=zl (a:=(bG v w s).x-a) (b:=b-a) (by grind) (by grind) (by grind);generalize ((bG v w s).x-a)/(b-a)=t at*;rcases h3 with⟨e1,e2⟩|⟨e1,e2⟩
   .refine hn s t s0 s1 a1 a2 ?_
    generalize hx:bG v w s=x at*;obtain⟨X,Y⟩:=x;unfold bG;simp only[aa.mk.injEq] at*;subst e1 e2;constructor<;>grind
   .refine hn s (1-t) s0 s1 (by grind) (by grind) ?_
    generalize hx:bG v w s=x at*;obtain⟨X,Y⟩:=x;unfold bG;simp only[aa.mk.injEq] at*;subst e1 e2;constructor<;>grind
  constructor
  .intro h
   by_cases k:q.x<(bG v w s).x
   .exact k
   .by_cases k2:(bG v w s).x=q.x
    .exfalso
     refine hn s 0 s0 s1 (by decide) (by decide) ?_;rw[KD];generalize bG v w s=x at*;obtain⟨X,Y⟩:=x;obtain⟨A,B⟩:=q;simp only[aa.mk.injEq] at*;exact⟨k2,by grind⟩
    .exact(no p.x q.x (by grind) (by grind) (.inr ⟨J,J⟩)).elim
  .intro h
   by_cases k:p.x<(bG v w s).x
   .exact k
   .by_cases k2:(bG v w s).x=p.x
    .exfalso
     refine hn s 1 s0 s1 (by decide) (by decide) ?_;rw[KF];generalize bG v w s=x at*;obtain⟨X,Y⟩:=x;obtain⟨A,B⟩:=p;simp only[aa.mk.injEq] at*;exact⟨k2,s2⟩
    .exact(no q.x p.x (by grind) (by grind) (.inl ⟨J,J⟩)).elim
 by_cases hc:(v.y<=p.y/\ ¬w.y<=p.y)\/(¬v.y<=p.y/\w.y<=p.y)
 .obtain⟨s,s0,s1,s2⟩:=ED hc
  have uq: ∀t,(bG v w t).y=p.y->t=s:=fun t ht=>by
   rw[z'] at ht s2;have h4:w.y-v.y≠0:=by grind
   have:=kL.1 (show(w.y-v.y)*(t-s)=0 by grind);rcases this with h5|h5
   .exact absurd h5 h4
   .grind
  rw[Av (p:=p) (r:=p.x<(bG v w s).x) fun t _ _ ht=>by rw[uq t ht],Av (p:=q) (r:=p.x<(bG v w s).x) fun t _ _ ht=>by rw[uq t (by rw[ht,hy])];exact(key s s0 s1 s2).symm,hy]
 .unfold nO
  rw[hy];by_cases h1:v.y<=p.y<;>by_cases h2:w.y<=p.y<;>simp[h1,h2] at hc⊢
def YN(q p:aa)(t:Rat):bG p q t=bG q p (1-t):=by unfold bG;simp only[aa.mk.injEq];constructor<;>grind
def rI.symm{v w q p:aa}(h:rI v w q p):rI v w p q:=fun s t s0 s1 t0 t1 e=>h s (1-t) s0 s1 (by grind) (by grind) (by rw[e,YN])
def i8(r:List ZP)(p:aa):Nat->Int
 |0=>0
 |k+1=>i8 r p k+nO (r.getD k (0,0)).q (et r k).q p
def vV(r:List ZP)(q p:aa):Prop:= ∀k,k<r.length->rI (r.getD k (0,0)).q (et r k).q q p
def PA{r:List ZP}{q p:aa}(h:vV r q p)(hy:q.y<p.y): ∀k,k<r.length->i8 r p k-i8 r q k=s6 q p (r.getD 0 (0,0)).q-s6 q p (r.getD k (0,0)).q
 |0,_=>by simp[i8]
 |k+1,hk=>by
  have ih:=PA h hy k (by omega);have e:=Li (h k (by omega)) hy;rw[E3] at e;rw[i8,i8,E3];omega
def Oh{r:List ZP}{q p:aa}(h:vV r q p)(hy:q.y<p.y):i8 r p r.length=i8 r q r.length:=by
 cases hr:r.length with
 |zero=>rfl
 |succ n=>
  have ih:=PA h hy n (by omega);have e:=Li (h n (by omega)) hy;rw[Em] at e;rw[i8,i8,Em];omega
def Nz{r:List ZP}{q p:aa}(h:vV r q p)(hy:q.y=p.y): ∀k,k<=r.length->i8 r p k=i8 r q k
 |0,_=>rfl
 |k+1,hk=>by rw[i8,i8,Nz h hy k (by omega),W0 (h k (by omega)) hy]
def TA{r:List ZP}{q p:aa}(h:vV r q p):i8 r p r.length=i8 r q r.length:=by
 by_cases h1:q.y<p.y
 .exact Oh h h1
 .by_cases h2:p.y<q.y
  .exact(Oh (fun k hk=>(h k hk).symm) h2).symm
  .exact Nz h (by grind) _ (bQ _)
def ZF(a b c:aa):tu a b c=(c7 a b c).num.sign:=by
 unfold tu c7 aa.cross dB;congr 2;grind
def Of(a b:Rat):ce a b<=0↔a<=b:=by
 have:=Ba a b;constructor
 .intro h
  by_cases q:b<a
  .have:=this.2 q;omega
  .grind
 .intro h
  by_cases q:0<ce a b
  .have:=this.1 q;grind
  .omega
def aCr(v w p:aa):z8 v w p=nO v w p:=by
 unfold z8 nO;simp only[ZF,pI,n8,Of]
def xv(r:List ZP)(p:aa): ∀k,xV r p k=i8 r p k
 |0=>rfl
 |k+1=>by rw[xV,i8,xv r p k,aCr]
def at8{r:List ZP}{q p:aa}(h:vV r q p):oh r p=oh r q:=by
 unfold oh;rw[xv,xv,TA h]
def Uk(R:Rat)(p:aa):Prop:=p.x< -R\/R<p.x\/p.y< -R\/R<p.y
structure IvB (v:ao):Prop where
 lo:BQ v.lo 1200
 hi:BQ v.hi 1200
def aJM(l:List ao)(k:Nat):List Rat:=f7 (l.take k)
def aKJ(o:List Rat)(v:ao)(j:Nat):List Rat:=if j=0 then o else if j=1 then(if v.nl then o else eG v.lo o) else gv o v
def aKz(v:ao)(j:Nat):Rat:=if j=0 then v.lo else v.hi
def aKm(v:ao)(j:Nat):Bool:=if j=0 then v.nl else v.nh
def aIN(l m:ab)(side:Int):DV:= .tp [.sl ((sE l m side).map eV),vB (sD l m)]
def eFF(f:aH):DV:= .ag [.v (.bool (decide (f.l.a<0))),dN f.l.a.natAbs, .v (.bool (decide (f.l.b<0))),dN f.l.b.natAbs, .v (.bool (decide (f.l.c<0))),dN f.l.c.natAbs, .v (.bool (decide (f.v.lo.num<0))),dN f.v.lo.num.natAbs,dD f.v.lo.den, .v (.bool (decide (f.v.hi.num<0))),dN f.v.hi.num.natAbs,dD f.v.hi.den, .v (.bool f.v.nl), .v (.bool f.v.nh)]
theorem RD{p:ZP}(h:ZP.le 100 p):aO p.q 12:=by
 haveI:BI p.1 11:=jf (by have:=h.1;omega);haveI:BI p.2 11:=jf (by have:=h.2;omega);exact(inferInstance:aO (iP p.1 p.2) 12)
def aJu(v w:ao):ao:=⟨v.lo,w.hi,v.nl,v.nh⟩

section
variable {GB:Gh} {C:aC} {n:Nat} {Q0:Exit->Act->World->Prop} {fr fr':av} {own own':aF} {cf cf':Cf} {vc:List Prop}
def aEg{lk:LK}{bk:BM}{dst:Option Nat}{t ty':TypeId}{pos:String}{af:Array Edge}{gd:Option (Nat×Bool)}{x y:Operand}{e len s nm off:Nat}{k:IntKind}{i:Nat}(hu:prog.underlying t=some (.array len e))(hs:(prog.info? e).map (·.size)=some s)
  (e1:aI lk x=some (.ov nm off))(e2:aI lk y=some (.d (.v (.int k (i:Nat)))))(hi:i<len):b7 prog GB C n lk bk ⟨dst, .indexAddr t x y,ty',pos,af,gd⟩ (.ov nm (off+i*s)) [] []:= .yd fun ρ G ov a w r=>by
 obtain⟨p,h1,h2⟩:=r.ev e1;obtain⟨q,h3,h4⟩:=r.ev e2;rw[c8] at h4;subst h4;obtain⟨b,hb,rfl⟩:=h2;refine⟨_,⟨b,hb,J⟩,?_⟩;obtain⟨j,hj,hjs⟩: ∃j,prog.info? e=some j/\j.size=s:=by
  cases h:prog.info? e with
  |none=>rw[h] at hs;cases hs
  |some j=>rw[h] at hs;exact⟨j,J,by simpa using hs⟩
 intro a' w' hf hh;simp only[execOp,bz hf h1,bz hf h3];have:(Instr.indexAt t (.pointer (some ⟨b,off,none⟩)) (.int k (i:Nat))).run prog w'= .ok (.pointer (some ⟨b,off+i*s,none⟩)) w':=by
  unfold Instr.indexAt;show(underlying t>>=_).run prog w'=_;rw[bh (o6 hu w')];show(underlying t>>=_).run prog w'=_;rw[bh (o6 hu w')];have h0:0<=((i:Nat):Int):=Int.natCast_nonneg i;have h1:((i:Nat):Int)<((len:Nat):Int):=by omega
  simp only[h0,h1,and_self,if_true];show(sizeOf e>>=_).run prog w'=_;rw[bh (ss hj w'),tc,hjs,eY];rfl
 exact cI this
def Ns(fr:av)(cf:Cf):Option (TypeId×Nat×Nat×Int):=match b8 fr cf with
 |some ⟨_, .indexAddr t x y,_,_,_,_⟩=>match aI (bw fr cf) x with
  |some (.ov nm off)=>match aI (bw fr cf) y with
   |some (.d (.v (.int _ i)))=>some (t,nm,off,i)
   |_=>none
  |_=>none
 |_=>none
def pH[fu:Fu](i:Nat){t nm off e len s:Nat}(h:Ns fr cf=some (t,nm,off,((i:Nat):Int)))(hu:prog.underlying t=some (.array len e))(hs:(prog.info? e).map (·.size)=some s)(hi:i<len)
  (hgo:cv tt n fu.n fr own cf (.ov nm (off+i*s)) [] []=⟨vc,fr',own',cf'⟩)(k:ak prog GB C n Q0 fr' own' cf')
  (hv:autoParam (aj vc) cL._auto_1):ak prog GB C n Q0 fr own cf:=by
 unfold Ns at h;split at h<;>try (cases h;done)
 rename_i hh;split at h<;>try (cases h;done)
 rename_i hx;split at h<;>cases h;rename_i hy;exact us hh (aEg hu hs hx hy hi) hgo hv k
def aKf(fr:av)(cf:Cf):Option (Nat×List FX):=match b8 fr cf with
 |some ⟨some d, .build t ⟨ps⟩,_,_,_,_⟩=>match de tt t with
  |some ⟨.st fo,_,some zx,_⟩=>match s7 (bw fr cf) fo zx ps with
   |some l=>some (d,l)
   |none=>none
  |_=>none
 |_=>none
end
def sp1(f:aH)(m:ab)(k:Nat):List aH:=if k=0 then [] else i0 f m 1
def sp2(f:aH)(m:ab)(k:Nat):List aH:=if k<=1 then [] else i0 f m (-1)
def jw(p:ZP):DV:=eP p.q
def n0(r:List ZP):DV:= .sl (r.map jw)
def Hd(l:List ZP):du 6 (l.map jw):=fun d hd=>by
 obtain⟨u,_,rfl⟩:=bX.1 hd;exact⟨rfl,rfl⟩
def TJ(l:List (List ZP)):du 1 (l.map n0):=fun d hd=>by
 obtain⟨u,_,rfl⟩:=bX.1 hd;exact⟨rfl,rfl⟩
def aIU(rs:List (List ZP)):List ab:=(cP rs).map aH.l
def eRR(rs:List (List ZP))(fill:Int):DV:= .ag [.sl (rs.map n0), .v (.int .i64 fill), .sl ((xH (aIU rs)).map eL)]
def kB(r:List ZP):DV:= .sl ((r.map ZP.q).map gh)
def Yt(l:List (List ZP)):du 1 (l.map kB):=fun d hd=>by
 obtain⟨u,_,rfl⟩:=bX.1 hd;exact⟨rfl,rfl⟩
theorem JJ{r:List ZP}(h: ∀p∈r,ZP.le 100 p): ∀p∈r.map ZP.q,aO p 1200:=fun p hp=>by
 obtain⟨z,hz,rfl⟩:=bX.1 hp;have:=RD (h z hz);exact⟨BQ.mono this.x,BQ.mono this.y⟩
def Ws(r:List ZP):DV.sl ((r.map ZP.q).map eP)=n0 r:=by unfold n0;rw[oJ];rfl
def anp{rs:List (List ZP)}{k:Nat}{r:List ZP}(h:rs[k]? =some r):cP (rs.take (k+1))=cP (rs.take k)++ij r:=by
 unfold cP;rw[fJ,h,sL];simp
def A3{rs:List (List ZP)}(h: ∀r∈rs,dz r)(k:Nat):(cP (rs.take k)).length<=6*k:=by
 have:=(qI (rs:=rs.take k) (fun r hr=>h r (fK hr))).1;have h2:(rs.take k).length<=k:=by rw[bK];omega
 omega
def In{rs:List (List ZP)}(h: ∀r∈rs,dz r)(hn:rs.length<=100:=by omega):PF GB prog 8 [.sl (rs.map n0)] (.sl (rs.map kB)):=by
 have hm:=vi n0 rs;refine fn (fu:=⟨15⟩) func8 J J ntmps8 J J (fun C=>?_);refine ah 7 (.d (vI (rs.length:Nat))) J (by rw[hm]<;>rfl)<|gx J<|nr 3 3 24 1 J J J<|lp (X:=Nat) (fun k=>[(8, .d (vI (k:Nat))),(3, .rw 3)]) (fun k=>[(3,some (.b 24 1 ((rs.take k).map kB) true))]) (fun k=>k<=rs.length) (fun k=>rs.length-k) 0 J (aN _) (fun _=>J) (fun k hk=>?_);have hml:((rs.take k).map kB).length<=k:=by rw[aX,bK];omega
 refine br J J J (fun hc9=>?_) (fun hc9=>?_)
 .
  obtain⟨r,hz⟩: ∃s,rs[k]? =some s:=⟨_,aZ (by omega)⟩;have hr:=h r (aV hz);refine ix (fu:=⟨1⟩) _ J (cO hz) J<|ah 11 (.d (.sl ((r.map ZP.q).map eP))) J (by rw[Ws])<|gx J<|cl J (OH (ps:=r.map ZP.q) (JJ hr.le) (by rw[aX];have:=hr.n6;omega)) J<|rf J J<|ap ((rs.take (k+1)).map kB) J (HL hz) (Yt [r]) J<|fD 16 3 J<|at_ (k+1) ⟨(by omega),(by omega)⟩
 .
  obtain rfl:k=rs.length:=by omega
  refine ke 3 J<|rz J (by rw[cJ];rfl)
def amX(out:List ab)(l:ab):(uQ out l).length<=out.length+1:=by
 unfold uQ;split
 .omega
 .simp;omega
def IW(c:List ab): ∀(t out:List ab),(oG c t out).length<=out.length+t.length
 |[],out=>by simp[oG]
 |l::t,out=>by
  rw[oG];refine dJ (IW c t _) ?_;have:=amX out l;split<;>simp<;>omega
def Mj(c:List ab):(iE c).length<=c.length:=dJ (IW c c []) (by simp)
def p7:aa:=⟨mkRat 1 7,mkRat 1 5⟩
structure LP (l:ab):Prop where
 s:LS l
 p:0<l.value p7
def GK(es:List Int):Nat->Nat->List ab×Nat
 |0,a=>([],a)
 |i+1,a=>((lF es a).1::(GK es i (lF es a).2).1,(GK es i (lF es a).2).2)
def QL(es:List Int)(most a:Nat):List ab×Nat:=GK es (aB es ((most:Int)+1) a).1 (aB es ((most:Int)+1) a).2
def Kb(l:ab):ab:=if(l.value p7).num.sign<0 then l.rev else l
def aIM(xs:List ab)(i:Nat):List ab:=(xs.take i).map Kb++xs.drop i
def aJO(es:List Int)(a:Nat):List ab×Nat:=((QL es 3 a).1.map Kb,(QL es 3 a).2)

def UH(ds:List Int):du 1 (ds.map vI):=fun d hd=>by
 obtain⟨n,_,rfl⟩:=bX.1 hd;exact⟨rfl,rfl⟩
def avC(es:List Int):(es.map vI).take (min es.length 400)=(es.take 400).map vI:=by
 rw[kX];rcases Nat.le_total es.length 400 with h|h
 .rw[iM h,cR (by simp),cR (by simpa using h)]
 .rw[Nat.min_eq_right h]
def VE{es:List Int}(hb:es.length<=1125899906842624):PN GB prog 9 [.sl (es.map vI)] 85 Unit (fun _=>[.sl ((es.take 400).map vI), .v (.int .i64 (0:Nat))]):=by
 have hel:(es.map vI).length=es.length:=by simp
 refine fnN func9 J J ntmps9 J J (fun C hmb=>?_);refine py 0 (min es.length 400) ((es.take 400).map vI) J J (by rw[hel];show(if _ then _ else _:Int)=_;split<;>omega) (avC es) (UH _) (by omega) (by omega) J<|?_;exact rzN () J J J J J


def Ue(p r:ZP):(cD p.q r.q<0↔jA p r<0)/\(cD p.q r.q=0↔jA p r=0):=by
 have e1: ∀a b:Int,ce (a:Rat) (b:Rat)<0↔a<b:=fun a b=>by rw[Aq,rK]
 have e2: ∀a b:Int,ce (a:Rat) (b:Rat)=0↔a=b:=fun a b=>by rw[oz,mL]
 have f1:=e1 p.1 r.1;have f2:=e2 p.1 r.1;have f3:=e1 p.2 r.2;have f4:=e2 p.2 r.2;show(cD ⟨(p.1:Rat),(p.2:Rat)⟩ ⟨(r.1:Rat),(r.2:Rat)⟩<0↔_)/\(cD ⟨(p.1:Rat),(p.2:Rat)⟩ ⟨(r.1:Rat),(r.2:Rat)⟩=0↔_);unfold cD jA;dsimp only;generalize ce (p.1:Rat) (r.1:Rat)=u at*;generalize ce (p.2:Rat) (r.2:Rat)=v at*;by_cases h:p.1<r.1
 .rw[if_pos (by omega),if_pos h];omega
 .by_cases h2:r.1<p.1
  .rw[if_pos (by omega),if_neg h,if_pos h2];omega
  .rw[if_neg (by omega),if_neg h,if_neg h2]
   by_cases h3:p.2<r.2
   .rw[if_pos h3];omega
   .rw[if_neg h3]
    split<;>omega
def IS(x:ZP): ∀l:List ZP,fh cD x.q (l.map ZP.q)=(je x l).map ZP.q
 |[]=>rfl
 |u::t=>by
  obtain⟨h1,h2⟩:=Ue u x;rw[bJ,fh,je,IS x t];by_cases k1:jA u x<0
  .rw[if_pos (h1.2 k1),if_pos k1];rfl
  .rw[if_neg (fun e=>k1 (h1.1 e)),if_neg k1]
   by_cases k2:jA u x=0
   .rw[if_pos (h2.2 k2),if_pos k2];rfl
   .rw[if_neg (fun e=>k2 (h2.1 e)),if_neg k2];rfl
def S3(l:List ZP):fH cD (l.map ZP.q)=(nC l).map ZP.q:=by
 have key: ∀(l o:List ZP),(l.map ZP.q).foldl (fun out x=>fh cD x out) (o.map ZP.q)=(l.foldl (fun out x=>je x out) o).map ZP.q:=by
  intro l
  induction l with
  |nil=>intro o;rfl
  |cons x t ih=>intro o;rw[bJ,dY,dY,IS,ih]
 exact key l []
def M3(l:List ZP):(l.map ZP.q).map eP=l.map jw:=by rw[oJ];rfl
def Jj{l:List ZP}(h: ∀p∈l,ZP.le 100 p)(hn:l.length<=100000:=by omega):PF GB prog 38 [.sl (l.map jw)] (.sl ((nC l).map jw)):=by
 have:=Bh (GB:=GB) (ps:=l.map ZP.q) (JJ h) (by rw[aX];exact hn);rw[S3,M3,M3] at this;exact this
def Vo(u v:ZP):(aa.cross (iP u.1 u.2) (iP v.1 v.2))=((qd u v:Int):Rat):=by
 unfold aa.cross iP qd;push_cast;rfl
def D4(u v:ZP):(aa.cross (iP u.1 u.2) (iP v.1 v.2)).num.sign≠0↔qd u v≠0:=by
 rw[Vo,oV];exact not_congr pS
def aqy{α β:Type}(f:α->β)(l:List α):((l.map f).take (l.length-1)).drop 0=l.dropLast.map f:=by
 rw[gT,<-kX,List.dropLast_eq_take]
def Nu{l:List ZP}(h:0<l.length:=by omega): ∃u,l.getLast? =some u/\l[l.length-1]? =some u/\l.getD (l.length-1) (0,0)=u:=by
 refine⟨l[l.length-1],?_,aZ (by omega),?_⟩
 .rw[kN];exact aZ (by omega)
 .rw[aK,aZ (by omega)];rfl
def Zt{l:List ZP}(h:0<l.length): ∃u,l[0]? =some u/\l.getD 0 (0,0)=u:=by
 refine⟨l[0],aZ (by omega),?_⟩;rw[aK,aZ (by omega)];rfl
def Ci{u p:ZP}:(u.1=p.1/\u.2=p.2)↔u=p:=⟨fun h=>Prod.ext h.1 h.2,fun h=>by rw[h];exact⟨J,J⟩⟩
def Wn{b:Nat}{es:List Int}(hes:es.length<=400){a:Nat}(ha:a<=es.length):PM GB prog 28 (iw [none] b) b 85 [.sl (es.map vI), .v (.int .i64 (a:Nat))] (n0 (gt es a).1) [.sl (es.map vI), .v (.int .i64 ((gt es a).2:Nat))]:=by
 have hk0:=jk (n:=4) ha;refine uj (fu:=⟨6⟩) func28 J J ntmps28 J J (fun C b m lo hmb=>?_);refine mg (X:=Nat) (fun a2=>[]) (fun a2=>[(1000000,some (.o 85 [.d (.sl (es.map vI)), .d (.v (.int .i64 (a2:Nat)))] false))]) (fun a2=>gt es a=nk es a2/\a2<=es.length) [] [1000000] rfl ?_ (fun _=>J) (fun a2 ⟨hR,ha2⟩=>?_)
 .
  refine gx J<|cm J (fun b=>(qH (n:=4) hes ha)) J<|br J J J (fun hc15=>?_) (fun hc15=>?_)
  .
   have hx1:=jk (n:=5) hk0;have hy1:=jk (n:=5) hx1;have hz1:=jk (n:=4) hy1;have hw1:=jk (n:=4) hz1;have hl0:=kv (es:=es) (n:=5) (a:=(aB es 4 a).2);have hl1:=kv (es:=es) (n:=5) (a:=(aB es 5 (aB es 4 a).2).2);have hl2:=kv (es:=es) (n:=4) (a:=(aB es 5 (aB es 5 (aB es 4 a).2).2).2);have hl3:=kv (es:=es) (n:=4) (a:=(aB es 4 (aB es 5 (aB es 5 (aB es 4 a).2).2).2).2);refine cm J (fun b=>(qH (n:=5) hes hk0)) J<|cm J (fun b=>(qH (n:=5) hes hx1)) J<|cm J (fun b=>(qH (n:=4) hes hy1)) J<|cm J (fun b=>(qH (n:=4) hes hz1)) J<|cl J (lx (m:=(((aB es 5 (aB es 4 a).2).1:Int)-4)) (n:=(((aB es 5 (aB es 5 (aB es 4 a).2).2).1:Int)-4)) (by omega) (by omega)) J<|cl J (lx (m:=(((aB es 5 (aB es 4 a).2).1:Int)-4+1+((aB es 4 (aB es 5 (aB es 5 (aB es 4 a).2).2).2).1:Int))) (n:=(((aB es 5 (aB es 5 (aB es 4 a).2).2).1:Int)-4)) (by omega) (by omega)) J<|cl J (lx (m:=(((aB es 5 (aB es 4 a).2).1:Int)-4+1+((aB es 4 (aB es 5 (aB es 5 (aB es 4 a).2).2).2).1:Int))) (n:=(((aB es 5 (aB es 5 (aB es 4 a).2).2).1:Int)-4+1+((aB es 4 (aB es 4 (aB es 5 (aB es 5 (aB es 4 a).2).2).2).2).1:Int))) (by omega) (by omega)) J<|cl J (lx (m:=(((aB es 5 (aB es 4 a).2).1:Int)-4)) (n:=(((aB es 5 (aB es 5 (aB es 4 a).2).2).1:Int)-4+1+((aB es 4 (aB es 4 (aB es 5 (aB es 5 (aB es 4 a).2).2).2).2).1:Int))) (by omega) (by omega)) J<|rf J J<|?_;exact lm hmb J J (by rw[show gt es a=_ from if_pos hc15];rfl) (by rw[show gt es a=_ from if_pos hc15];rfl)
  .
   refine br J J J (fun hc46=>?_) (fun hc46=>?_)
   .
    obtain⟨hp1,hp2,hp3⟩:=vh hk0;obtain⟨hu1,hu2,hu3,hu4⟩:=xb hp3;obtain⟨hv1,hv2,hv3,hv4⟩:=xb hu4;haveI:=jf (k:=10) (m:=(vF es (pF es (aB es 4 a).2).2).1.1) (by omega);haveI:=jf (k:=10) (m:=(vF es (pF es (aB es 4 a).2).2).1.2) (by omega);haveI:=jf (k:=10) (m:=(vF es (vF es (pF es (aB es 4 a).2).2).2).1.1) (by omega);haveI:=jf (k:=10) (m:=(vF es (vF es (pF es (aB es 4 a).2).2).2).1.2) (by omega);refine cm J (fun b=>(Fc hes hk0)) J<|cm J (fun b=>(N7 hes hp3)) J<|cm J (fun b=>(N7 hes hu4)) J<|cl J (Wp (p:=iP (vF es (pF es (aB es 4 a).2).2).1.1 (vF es (pF es (aB es 4 a).2).2).1.2) (q:=iP (vF es (vF es (pF es (aB es 4 a).2).2).2).1.1 (vF es (vF es (pF es (aB es 4 a).2).2).2).1.2)) J<|cl J (Qn (q:=aa.cross (iP (vF es (pF es (aB es 4 a).2).2).1.1 (vF es (pF es (aB es 4 a).2).2).1.2) (iP (vF es (vF es (pF es (aB es 4 a).2).2).2).1.1 (vF es (vF es (pF es (aB es 4 a).2).2).2).1.2))) J<|br J J J (fun hc58=>?_) (fun hc58=>?_)
    .
     refine cl J (AC (n:=1)) J<|cl J (NG (m:=(pF es (aB es 4 a).2).1.1) (n:=(pF es (aB es 4 a).2).1.2) (m':=(vF es (pF es (aB es 4 a).2).2).1.1) (n':=(vF es (pF es (aB es 4 a).2).2).1.2) (k:=1) (by omega) (by omega) (by omega) (by omega)) J<|cl J (AC (n:=1)) J<|cl J (NG (m:=(pF es (aB es 4 a).2).1.1) (n:=(pF es (aB es 4 a).2).1.2) (m':=(vF es (vF es (pF es (aB es 4 a).2).2).2).1.1) (n':=(vF es (vF es (pF es (aB es 4 a).2).2).2).1.2) (k:=1) (by omega) (by omega) (by omega) (by omega)) J<|rf J J<|?_;exact lm hmb J J (by rw[show gt es a=_ from(if_neg hc15).trans ((if_pos hc46).trans (if_pos ((D4 _ _).1 hc58)))];rfl) (by rw[show gt es a=_ from(if_neg hc15).trans ((if_pos hc46).trans (if_pos ((D4 _ _).1 hc58)))])
    .
     exact at_ (vF es (vF es (pF es (aB es 4 a).2).2).2).2 ⟨(if_neg hc15).trans ((if_pos hc46).trans (if_neg (fun e=>hc58 ((D4 _ _).2 e)))),hv4⟩
   .
    exact at_ (aB es 4 a).2 ⟨(if_neg hc15).trans (if_neg hc46),hk0⟩
 .
  have hj1:=kv (es:=es) (n:=4) (a:=a2);have hj2:=jk (n:=4) ha2;refine cm J (fun b=>(qH (n:=4) hes ha2)) J<|nr 10 10 70 6 J J J<|lp (X:=List ZP×Nat×Nat) (fun⟨r,i,a3⟩=>[(11, .d (vI (i:Nat))),(10, .rw 10)]) (fun⟨r,i,a3⟩=>[(1000000,some (.o 85 [.d (.sl (es.map vI)), .d (.v (.int .i64 (a3:Nat)))] false)),(10,some (.b 70 6 (r.map jw) true))]) (fun⟨r,i,a3⟩=>lH es i a3 r=lH es (3+(aB es 4 a2).1) (aB es 4 a2).2 []/\a3<=es.length/\jy r/\r.length+i<=6) (fun⟨r,i,a3⟩=>i) ⟨[],3+(aB es 4 a2).1,(aB es 4 a2).2⟩ J ⟨J,hj2,jy.nil,by simp;omega⟩ (fun _=>J) (fun⟨r,i,a3⟩ hk=>?_)
  try dsimp only at hk⊢
  obtain⟨h1,h2,h3,h4⟩:=hk;have hrl:(r.map jw).length=r.length:=by simp
  refine br (fu2:=⟨0⟩) J J J (fun hc73=>?_) (fun hc73=>?_)
  .
   obtain⟨j,rfl⟩: ∃j,i=j+1:=⟨i-1,by omega⟩;obtain⟨hq1,hq2,hq3⟩:=vh h2;refine cm (fu:=⟨8⟩) J (fun b=>(Fc hes h2)) J<|ru (v1:=fun hg80=>by simp only[aj];kernel_rfl) J J J J (fun hg80=>?_) (fun hg80=>?_)
   .
    have hlast: ¬r.getLast? =some (pF es a3).1:=by rw[bL (l:=r) (by omega)];simp
    refine rf J J<|ap ((r++[(pF es a3).1]).map jw) J (by rw[cY];rfl) (Hd [_]) J<|fD 95 10 J<|at_ ⟨r++[(pF es a3).1],j,(pF es a3).2⟩ (by dsimp only;exact⟨⟨by rw[<-h1,lH,if_neg hlast],hq3,h3.snoc ⟨by omega,by omega⟩ hlast,by simp;omega⟩,(by omega)⟩)
   .
    obtain⟨q,hq,hqi,hqd⟩:=Nu (l:=r);have hqm:=h3.le q (pJ hq);unfold ZP.le at hqm;refine lb (jw q) J (by rw[show(((r.map jw).length:Nat):Int)-1=((r.length-1:Nat):Int) by omega];exact cO hqi) J<|cl J (FF (m:=q.1) (n:=q.2) (m':=(pF es a3).1.1) (n':=(pF es a3).1.2)) J<|bb J J J (fun hc91=>?_) (fun hc91=>?_)
    .
     have hlast: ¬r.getLast? =some (pF es a3).1:=by rw[hq];intro e;have:=Ci.2 (Option.some.inj e);simp[this] at hc91
     refine rf J J<|ap ((r++[(pF es a3).1]).map jw) J (by rw[cY];rfl) (Hd [_]) J<|fD 95 10 J<|at_ ⟨r++[(pF es a3).1],j,(pF es a3).2⟩ (by dsimp only;exact⟨⟨by rw[<-h1,lH,if_neg hlast],hq3,h3.snoc ⟨by omega,by omega⟩ hlast,by simp;omega⟩,(by omega)⟩)
    .
     have hlast:r.getLast? =some (pF es a3).1:=by rw[hq];congr 1;exact Ci.1 (by simpa using hc91)
     exact at_ ⟨r,j,(pF es a3).2⟩ (by dsimp only;exact⟨⟨by rw[<-h1,lH,if_pos hlast],hq3,h3,by omega⟩,(by omega)⟩)
  .
   obtain rfl:i=0:=by omega
   have hg:=h1;rw[lH] at hg;refine mr 10 J<|gx J<|lp (fu:=⟨5⟩) (X:=List ZP×Nat) (fun⟨l,m⟩=>[(10, .d (.sl (l.map jw)))]) (fun⟨l,m⟩=>[]) (fun⟨l,m⟩=>jc m l=jc 6 r/\l.length<=m+1/\jy l/\l.length<=6) (fun⟨l,m⟩=>m) ⟨r,6⟩ J ⟨J,by omega,h3,by omega⟩ (fun _=>J) (fun⟨l,m⟩ hk=>?_)
   try dsimp only at hk⊢
   obtain⟨t1,t2,t3,t4⟩:=hk;have hll:(l.map jw).length=l.length:=by simp
   refine ru (v2:=fun hg98=>by simp only[aj];kernel_rfl) J J J J (fun hg98=>?_) (fun hg98=>?_)
   .
    obtain⟨q,hqi,hqd⟩:=Zt (l:=l) (by omega);obtain⟨q2,hq0,hqi2,hqd2⟩:=Nu (l:=l);have hqm:=t3.le q (aV hqi);have hqm2:=t3.le q2 (aV hqi2);unfold ZP.le at hqm hqm2;refine ix _ J (cO (i:=0) hqi) J<|ix (jw q2) J (by rw[show(((l.map jw).length:Nat):Int)-1=((l.length-1:Nat):Int) by omega];exact cO hqi2) J<|cl J (FF (m:=q.1) (n:=q.2) (m':=q2.1) (n':=q2.2)) J<|bd J J J (fun hc110=>?_) (fun hc110=>?_)
    .
     have hcond:1<l.length/\l.getD 0 (0,0)=l.getD (l.length-1) (0,0):=⟨by omega,by rw[hqd,hqd2];exact Ci.1 hc110⟩;refine py 0 (l.length-1) (l.dropLast.map jw) J J (by omega) (aqy jw l) (Hd l) (aN _) (by omega) rfl<|at_ ⟨l.dropLast,m-1⟩ (by dsimp only;exact⟨⟨by rw[<-t1];obtain⟨m,rfl⟩: ∃q,m=q+1:=⟨m-1,by omega⟩;rw[jc,if_pos hcond];rfl,by rw[mN];omega,t3.drop,by rw[mN];omega⟩,(by omega)⟩)
    .
     have hcond: ¬(1<l.length/\l.getD 0 (0,0)=l.getD (l.length-1) (0,0)):=fun e=>hc110 (Ci.2 (by rw[<-hqd,<-hqd2];exact e.2));refine cl (fu:=⟨1⟩) J (Jj (l:=l) t3.le) J<|?_;have hgen:jc 6 r=l:=by rw[<-t1];cases m with|zero=>rfl|succ m=>rw[jc,if_neg hcond]
     refine ah 118 (.d (vI ((nC l).length:Nat))) J (by rw[aX];rfl)<|gx J<|br J J J (fun hc119=>?_) (fun hc119=>?_)
     .
      have hfin:gt es a=(vE,a3):=by rw[hR,nk,<-hg,hgen,if_pos (by omega)]
      refine cl J (lx (m:=0) (n:=0)) J<|cl J (lx (m:=2) (n:=0)) J<|cl J (lx (m:=0) (n:=2)) J<|rf J J<|?_;exact lm hmb J J (by rw[hfin];rfl) (by rw[hfin])
     .
      have hfin:gt es a=(l,a3):=by rw[hR,nk,<-hg,hgen,if_neg (by omega)]
      exact lm hmb J J (by rw[hfin];rfl) (by rw[hfin])
   .
    have hcond: ¬(1<l.length/\l.getD 0 (0,0)=l.getD (l.length-1) (0,0)):=fun e=>by omega
    refine cl (fu:=⟨1⟩) J (Jj (l:=l) t3.le) J<|?_;have hgen:jc 6 r=l:=by rw[<-t1];cases m with|zero=>rfl|succ m=>rw[jc,if_neg hcond]
    refine ah 118 (.d (vI ((nC l).length:Nat))) J (by rw[aX];rfl)<|gx J<|br J J J (fun hc119=>?_) (fun hc119=>?_)
    .
     have hfin:gt es a=(vE,a3):=by rw[hR,nk,<-hg,hgen,if_pos (by omega)]
     refine cl J (lx (m:=0) (n:=0)) J<|cl J (lx (m:=2) (n:=0)) J<|cl J (lx (m:=0) (n:=2)) J<|rf J J<|?_;exact lm hmb J J (by rw[hfin];rfl) (by rw[hfin])
    .
     have hfin:gt es a=(l,a3):=by rw[hR,nk,<-hg,hgen,if_neg (by omega)]
     exact lm hmb J J (by rw[hfin];rfl) (by rw[hfin])
def Im:DV:= .v (.pointer none)
def Vm(l:ab)(p q:DV):List DV:=[.v (.bool false), .v (.bool false), .v (.bool (decide (l.a<0))),dN l.a.natAbs, .v (.bool (decide (l.b<0))),dN l.b.natAbs, .v (.bool (decide (l.c<0))),dN l.c.natAbs,p,q]
inductive RF (ns:List RN):Int->(Nat->Bool)->DV->Bool->(Nat->Bool)->Prop where
 |leaf (b:Bool) (f:Nat->Bool):RF ns (AO b) f (eT (.leaf b)) true f
 |l9 (rt:Int) (f:Nat->Bool) (h1:rt≠ -1) (h2:rt≠ -2) (h:rt<0\/(ns.length:Int)<=rt\/(∃k:Nat,rt=k/\k<ns.length/\f k=true)):RF ns rt f Im false f
 |line (k:Nat) (n:RN) (f:Nat->Bool) (h:ns[k]? =some n) (hf:f k=false) (hl:n.g.ln=none):RF ns (k:Int) f Im false (vk f k)
 |left (k:Nat) (n:RN) (l:ab) (f f2:Nat->Bool) (p:DV) (h:ns[k]? =some n) (hf:f k=false) (hl:n.g.ln=some l) (h1:RF ns n.l (vk f k) p false f2):RF ns (k:Int) f Im false f2
 |node (k:Nat) (n:RN) (l:ab) (f f2 f3:Nat->Bool) (p q:DV) (ok:Bool) (h:ns[k]? =some n) (hf:f k=false) (hl:n.g.ln=some l) (h1:RF ns n.l (vk f k) p true f2) (h2:RF ns n.r f2 q ok f3):RF ns (k:Int) f (.pt (Vm l p q)) ok f3
def aLa(n:Nat)(f:Nat->Bool):Bool:=(List.range n).all f
def Jz:ab:=⟨0,1,0⟩
def t00:Tr:= .node Jz (.leaf true) (.leaf false)
def mO.red_size{k:Nat}{t:Tr}(h:mO k t)(hr:t.Red []):t.size<=k*(1+k):=by
 obtain⟨K,h1,h2,h3⟩:=h.am;exact dJ (Tr.size_le h2 hr h.gd.ok cx.nil h3) (kW h1 (by omega))
structure uG (k:Nat) (t:Tr):Prop where
 o:mO k t
 s:t.size<=3000
def uG.lb{k:Nat}{t:Tr}(h:uG k t):t.all LB:=h.o.gd.lb
def mO.x{k:Nat}{t:Tr}(h:mO k t)(hr:t.Red [])(hk:k<=54):uG k t:=
 ⟨h,dJ (h.red_size hr) (dJ (kW hk (show 1+k<=55 by omega)) (by decide))⟩
def We(rs:List (List ZP))(fill:Int):(iB rs fill).Red []:=Tr.restrict_red _ _
def aIG(es:List Int)(a:Nat):(Tr×Tr)×Nat:=
 let x:=rH es 0 a
 let y:=rH es 0 x.2
 let k:=aB es 3 y.2
 let u:=if(k.1:Int)=0 then lu es 3 k.2 else(x.1,k.2)
 let j:=aB es 3 u.2
 let v:=if(j.1:Int)=0 then lu es 3 j.2 else(y.1,j.2)
 ((u.1,v.1),v.2)
def aJk(es:List Int)(a:Nat):(Tr×Tr)×Nat:=
 let x:=rH es 0 a
 let y:=rH es 0 x.2
 let k:=aB es 6 y.2
 if(k.1:Int)=0 then((x.1, .node (lF es k.2).1 x.1 x.1),(lF es k.2).2)
 else if(k.1:Int)=1 then((x.1,y.1.mergeQ 1 x.1 []),k.2)
 else if(k.1:Int)=2 then((x.1,y.1.mergeQ 3 x.1 []),k.2)
 else if(k.1:Int)=3 then((x.1,(lu es 3 k.2).1),(lu es 3 k.2).2)
 else((x.1,y.1),k.2)
def Qt(es:List Int):Nat->Nat->List Tr×Nat
 |0,a=>([],a)
 |n+1,a=>((rH es 0 a).1::(Qt es n (rH es 0 a).2).1,(Qt es n (rH es 0 a).2).2)
def aJa(r:List ZP)(i k:Nat):Bool:=decide (k=i)||decide (k=(i+1)%r.length)||decide (0<tu (r.getD i (0,0)).q (et r i).q (r.getD k (0,0)).q)
def aGu(r:List ZP):Bool:=(List.range r.length).all fun i=>(List.range r.length).all fun k=>aJa r i k
section
variable {GB:Gh} {C:aC} {n:Nat} {Q0:Exit->Act->World->Prop} {fr fr' fr1 fr2:av} {own own' own1 own2:aF} {cf cf' cf1 cf2:Cf} {vc vc1 vc2:List Prop}
def aKg(fr:av)(cf:Cf):Option Int:=match b8 fr cf with
 |some ⟨_, .binOp .and _ x (.const (.int .i64 3)) _,_,_,_,_⟩=>match aI (bw fr cf) x with
  |some (.d (.v (.int .i64 p)))=>some p
  |_=>none
 |_=>none
end
def Er{es0 es:List Int}(hb:es0.length<=1125899906842624)(he:es=es0.take 400):PN GB prog 9 [.sl (es0.map vI)] 85 Unit (fun _=>[.sl (es.map vI), .v (.int .i64 (0:Nat))]):=by
 subst he;exact VE hb
def JN(ns:List NQ):Nat->Tr->Prop
 |_, .leaf _=>True
 |k, .node l x y=>ns[k]? =some ⟨l,x.num (k+1),y.num (k+1+x.size)⟩/\JN ns (k+1) x/\JN ns (k+1+x.size) y
abbrev aIR (x:SV) (ns:List NQ) (A:Gh):Prop:= ∃es,eB A 8 x es/\IsLs A (ns.map eN) es
def sK(n k:Nat):List Value:=RC n (fun j=>Nat.blt j k)
def ePr(a b:Tr):DV:= .ag [eU a,eU b]
def prZ:DV:= .ag [.v (.pointer none), .v (.pointer none)]
def mtQ(a:ab)(t:List ab):List Rat:=t.filterMap fun b=>if crossI a b=0 then none else some (gG a b).x
def aKH(l:List ab)(x:Rat):List aa:=(gg (Hw (MK l x))).map fun y=>⟨x,y⟩
def QF:Tr->aa->Bool
 | .leaf _,_=>true
 | .node l x y,p=>if(l.value p).num.sign=1 then QF x p else if(l.value p).num.sign= -1 then QF y p else false
structure Two (a b:Tr):Prop where
 ga:a.gd
 gb:b.gd
 sa:a.size<=3000
 sb:b.size<=3000
def f1R(x y:Bool):Bool:=x&&!y
def f2R(x y:Bool):Bool:=y&&!x
def f3R(x y:Bool):Bool:=x&&y
def f4R(x y:Bool):Bool:=!x&&!y
def anK(f:Bool->Bool->Bool)(a b:Tr)(k:Nat):Bool:=((HX a b).take k).any fun p=>f (sI a p) (sI b p)
def JD:Tr->List ab->List (List ab×Bool)
 | .leaf b,c=>if uJ c then [(iE c,b)] else []
 | .node l x y,c=>if uJ c then JD x (iE c++[l])++JD y (iE c++[l.rev]) else []
def Wf(c:List ab)(p:aa):Bool:=c.all fun l=>decide (0<Int.sign (l.value p).num)
def aKx(c:List ab):Option aa:=(J2 (xH c)).find? (Wf c)
def Zd{l m:ab}(hl:l.ok)(hm:m.ok)(h:fm l.dir m.dir=0): ∃k e:Rat,0<k/\ ∀p,m.value p=k*l.value p+e:=by
 obtain⟨h1,h2⟩:=RT.1 h;have z1:=XE hl;have key: ∃k:Rat,0<k/\m.dir.x=k*l.dir.x/\m.dir.y=k*l.dir.y:=by
  unfold aa.cross at h2;rcases um l.dir with⟨e,k⟩|⟨e,k⟩|⟨e,k⟩
  .rw[e] at h1
   have k2:=HJ.1 h1.symm;rcases k with k|⟨k,k'⟩
   .have y2:0<m.dir.y:=by
     rcases k2 with k2|⟨k2,k3⟩
     .exact k2
     .exfalso
      rw[k2] at h2;have:=fp k k3;grind
    refine⟨m.dir.y/l.dir.y,?_,by grind,by grind⟩;have:0<m.dir.y/l.dir.y:=(jb k).1 (by rw[show m.dir.y/l.dir.y*l.dir.y=m.dir.y by grind];exact y2);exact this
   .rw[k] at h2
    have y2:m.dir.y=0:=by
     rcases kL.1 (show l.dir.x*m.dir.y=0 by grind) with q|q
     .rw[q] at k';exact absurd k' (by decide)
     .exact q
    have x2:0<m.dir.x:=by
     rcases k2 with k2|⟨_,k3⟩
     .rw[y2] at k2;exact absurd k2 (by decide)
     .exact k3
    refine⟨m.dir.x/l.dir.x,(jb k').1 (by rw[show m.dir.x/l.dir.x*l.dir.x=m.dir.x by grind];exact x2),by grind,by rw[y2,k];grind⟩
  .rw[e] at h1
   have k2:=DB.1 h1.symm;rcases k with k|⟨k,k'⟩
   .have y2:m.dir.y<0:=by
     rcases k2 with k2|⟨k2,k3⟩
     .exact k2
     .exfalso
      rw[k2] at h2;have:=fp (show 0< -l.dir.y by grind) (show 0< -m.dir.x by grind);grind
    refine⟨m.dir.y/l.dir.y,(jb (show 0< -l.dir.y by grind)).1 (by rw[show m.dir.y/l.dir.y* -l.dir.y= -m.dir.y by grind];grind),by grind,by grind⟩
   .rw[k] at h2
    have y2:m.dir.y=0:=by
     rcases kL.1 (show l.dir.x*m.dir.y=0 by grind) with q|q
     .rw[q] at k';exact absurd k' (by decide)
     .exact q
    have x2:m.dir.x<0:=by
     rcases k2 with k2|⟨_,k3⟩
     .rw[y2] at k2;exact absurd k2 (by decide)
     .exact k3
    refine⟨m.dir.x/l.dir.x,(jb (show 0< -l.dir.x by grind)).1 (by rw[show m.dir.x/l.dir.x* -l.dir.x= -m.dir.x by grind];grind),by grind,by rw[y2,k];grind⟩
  .exact absurd e z1
 obtain⟨k,k0,kx,ky⟩:=key;simp only[ab.dir] at kx ky;refine⟨k,(m.c:Rat)-k*(l.c:Rat),k0,fun p=>?_⟩;rw[lj,lj,kx];have:(m.a:Rat)=k*(l.a:Rat):=by grind
 rw[this];grind
def Pq{e:aA}(hne: ∃q,bH e q){l m:ab}(hl:l.ok)(hm:m.ok)(pl: ∀p,bH e p->0<l.value p)(pm: ∀p,bH e p->0<m.value p)(tl: ∃p,ng e p/\l.value p=0)(tm: ∃p,ng e p/\m.value p=0)(ha:fm l.dir m.dir=0):l=m:=by
 obtain⟨k,c,k0,hk⟩:=Zd hl hm ha;obtain⟨p,p1,p2⟩:=tl;obtain⟨q,q1,q2⟩:=tm;have g1:=rF hne pm p1;rw[hk,p2] at g1;have g2:=rF hne pl q1;have g3:=eO (fQ k0) g2;rw[hk] at q2;have c0:c=0:=by grind
 have hz: ∀t,m.value (l.at t)=0:=fun t=>by rw[hk,mD hl.ne,c0];grind
 rcases yn hm hl hz with h|h
 .exact h.symm
 .exfalso
  obtain⟨u,hu⟩:=hne;have a:=pl u hu;have b:=pm u hu;rw[h,gA] at b;grind
def G8{c:aA}(hc:cx c){s:aH}(hs:s∈c):ng c (s.l.at s.v.sample)/\s.l.value (s.l.at s.v.sample)=0:=
 ⟨((hc.edge s hs).2 _).1 (pb (hc.edge s hs).1).has,mD (hc.ok s hs).ne _⟩
def vf(c:aA):Prop:=(c.map fun s=>s.l.dir).Pairwise eE
def Fv{p:Nat->Bool}{N:Nat}(hm: ∀i j,i<=j->j<N->p j=true->p i=true): ∀(d i j:Nat),j-i<=d->i<=j->j<=N->(∀k,k<i->p k=true)->(∀k,j<=k->k<N->p k=false)->(∀k,k<fy p i j->p k=true)/\ ∀k,fy p i j<=k->k<N->p k=false
 |0,i,j,h,hij,hN,h1,h2=>by
  obtain rfl:i=j:=by omega
  rw[fy,dif_neg (by omega)];exact⟨h1,h2⟩
 |d+1,i,j,h,hij,hN,h1,h2=>by
  by_cases q:i<j
  .rw[fy,dif_pos q]
   by_cases r:p ((i+j)/2)=true
   .rw[if_pos r]
    exact Fv hm d _ _ (by omega) (by omega) hN (fun k hk=>hm k ((i+j)/2) (by omega) (by omega) r) h2
   .rw[if_neg r]
    refine Fv hm d _ _ (by omega) (by omega) (by omega) h1 fun k hk hkN=>?_
    cases hp:p k with
    |false=>rfl
    |true=>exact absurd (hm _ k hk hkN hp) r
  .obtain rfl:i=j:=by omega
   rw[fy,dif_neg q];exact⟨h1,h2⟩
def Kn{ds:List aa}{d:aa}{n:Nat}(h:ds.Pairwise eE)(h1: ∀x∈ds.take n,eE x d)(h2: ∀x∈ds.drop n,eE d x):(ds.take n++d::ds.drop n).Pairwise eE:=by
 have hs:=h;rw[<-jZ n ds,iY] at hs;obtain⟨a,b,c⟩:=hs;rw[iY];refine⟨a,bZ.2 ⟨h2,b⟩,fun x hx y hy=>?_⟩;rcases aU.1 hy with rfl|hy
 .exact h1 x hx
 .exact c x hx y hy
def DZ(l:ab): ∀c:aA,((d7 l c).map fun s=>s.l.dir).Sublist (c.map fun s=>s.l.dir)
 |[]=>List.Sublist.refl _
 |s::c=>by
  rw[d7];split
  .exact(DZ l c).cons_cons _
  .exact(DZ l c).cons _
def NB{α:Type}{l:List α}{n:Nat}{x:α}(h:x∈l.take n): ∃i,i<n/\l[i]? =some x:=by
 obtain⟨i,hi,e⟩:=lV.1 h;rw[bK] at hi;exact⟨i,by omega,by rw[List.getElem_take] at e;rw[aZ (by omega),e]⟩
def Ka{α:Type}{l:List α}{n:Nat}{x:α}(h:x∈l.drop n): ∃i,n<=i/\i<l.length/\l[i]? =some x:=by
 obtain⟨i,hi,e⟩:=lV.1 h;rw[fN] at hi;exact⟨n+i,by omega,by omega,by rw[List.getElem_drop] at e;rw[aZ (by omega),e]⟩
def SI{c:aA}{l:ab}(hc:cx c)(hl:l.ok)(ha:vf c)(hb:co c l=true):vf (bO c l):=by
 have hg:=(iH hc hl hb).1;unfold bO at hg⊢
 cases hp:jm c l with
 |none=>exact ha
 |some v=>
  simp only[hp] at hg⊢;have hs:vf (d7 l c):=ha.sublist (DZ l c);have nt: ∀s∈d7 l c,fm s.l.dir l.dir≠0:=fun s h e=>by
   have m1:s∈kG (d7 l c) l v:=pD.2 (.inr h);have m2:(⟨l,v⟩:aH)∈kG (d7 l c) l v:=pD.2 (.inl J);have ee:=Pq hg.ne (hg.ok s m1) hl (fun p hp=>hp s m1) (fun p hp=>hp ⟨l,v⟩ m2) ⟨_,G8 hg m1⟩ ⟨_,G8 hg m2⟩ e;obtain⟨s0,g1,_,rfl⟩:=qz.1 h;obtain⟨_,q,q1,q2⟩:=Eo hl.ne hp;have h5:=q1 s0 g1;have e5:s0.l=l:=ee;rw[e5] at h5;grind
  generalize d7 l c=d at*;have hmo: ∀i j,i<=j->j<d.length->gI d l j=true->gI d l i=true:=fun i j hij hj h=>by
   unfold gI at h⊢;rw[aZ hj] at h;rw[aZ (by omega)];simp only[decide_eq_true_eq,wJ] at h⊢;by_cases q:i=j
   .subst q;exact h
   .have:=pL.1 hs i j (by simp;omega) (by simp;omega) (by omega)
    simp only[nT] at this;exact EZ this h
  obtain⟨k1,k2⟩:=Fv hmo d.length 0 d.length (by omega) (by omega) (bQ _) (fun k h=>absurd h (by omega)) (fun k h h'=>absurd h' (by omega));unfold kG vf;generalize fy (gI d l) 0 d.length=n at*;rw[cY,bJ,kX,nZ];refine Kn hs (fun x hx=>?_) (fun x hx=>?_)
  .rw[<-kX] at hx
   obtain⟨s,h1,rfl⟩:=bX.1 hx;obtain⟨i,hi,e⟩:=NB h1;have:=k1 i hi;unfold gI at this;rw[e] at this;simpa[wJ] using this
  .rw[<-nZ] at hx
   obtain⟨s,h1,rfl⟩:=bX.1 hx;obtain⟨i,hi,hi2,e⟩:=Ka h1;have:=k2 i hi hi2;unfold gI at this;rw[e] at this;have h3: ¬eE s.l.dir l.dir:=by simpa[wJ] using this
   by_cases q:eE l.dir s.l.dir
   .exact q
   .exact absurd (Po h3 q) (nt s (gL h1))
def rk(c:List ab):Prop:=(c.map ab.dir).Pairwise eE
def Hy{c:List ab}{e:aA}(hs: ∀s∈e,s.l∈c){l:ab}(hl:l.ok)(he:(fA l c ao.all).isSome=true): ∃w:ao,w.Pos/\ ∀t,w.ins t->ng e (l.at t)/\l.value (l.at t)=0/\ ∀m∈c,m≠l->0<m.value (l.at t):=by
 obtain⟨w,hw⟩:=nJ.1 he;obtain⟨h1,h2⟩:=xm l c _ w uL hw;refine⟨w,h1,fun t ht=>?_⟩;have h3:=((h2 t).1 ht).2;refine⟨fun s hs'=>?_,mD hl.ne t,h3⟩;by_cases q:s.l=l
 .rw[q,mD hl.ne];exact gU
 .exact fQ (h3 _ (hs s hs') q)
def J6{α:Type}{p:α->Bool}: ∀(l:List α),(∀i x,i<(l.takeWhile p).length->l[i]? =some x->p x=true)/\ ∀x,l[(l.takeWhile p).length]? =some x->p x=false
 |[]=>⟨fun i x h _=>by simp at h,fun x h=>by simp at h⟩
 |a::l=>by
  obtain⟨h1,h2⟩:=J6 (p:=p) l;rw[nY]
  cases ha:p a with
  |false=>
   refine⟨fun i x h _=>by simp at h,fun x h=>?_⟩;simp at h;rw[<-h];exact ha
  |true=>
   simp only[if_true,bY];refine⟨fun i x h e=>?_,fun x h=>h2 x (by simpa using h)⟩
   cases i with
   |zero=>simp at e;rw[<-e];exact ha
   |succ i=>exact h1 i x (by omega) (by simpa using e)
def U1{out:List ab}{l:ab}(ha:rk out)(ht: ∀m∈out,fm m.dir l.dir=0->m=l):rk (uQ out l):=by
 unfold uQ;split
 .exact ha
 .rename_i hne
  obtain⟨k1,k2⟩:=J6 (p:=fun x:ab=>decide (fm x.dir l.dir<0)) out;have e0:wV out l=(out.takeWhile fun x=>decide (fm x.dir l.dir<0)).length:=J;rw[<-e0] at k1 k2;generalize wV out l=n at*;unfold rk;rw[cY,bJ,kX,nZ];refine Kn ha (fun x hx=>?_) (fun x hx=>?_)
  .rw[<-kX] at hx
   obtain⟨m,h1,rfl⟩:=bX.1 hx;obtain⟨i,hi,e⟩:=NB h1;simpa[wJ] using k1 i m hi e
  .rw[<-nZ] at hx
   obtain⟨m,h1,rfl⟩:=bX.1 hx;obtain⟨i,hi,hi2,e⟩:=Ka h1;have hn:n<out.length:=by omega
   have h3: ¬eE (out[n]).dir l.dir:=by simpa[wJ] using k2 _ (aZ hn)
   have h4:eE l.dir (out[n]).dir:=by
    by_cases q:eE l.dir (out[n]).dir
    .exact q
    .exact absurd (by rw[aZ hn,ht _ (iZ hn) (Po h3 q)]) hne
   by_cases q:i=n
   .subst q
    rw[aZ hn] at e
    cases e
    exact h4
   .have:=pL.1 ha n i (by simp;omega) (by simp;omega) (by omega)
    simp only[nT] at this;rw[aZ hi2] at e
    cases e
    exact EZ h4 this
def DT{c:List ab}(ht: ∀l∈c,∀m∈c,(fA l c ao.all).isSome=true->(fA m c ao.all).isSome=true->fm m.dir l.dir=0->m=l): ∀{t out:List ab},(∀l∈t,l∈c)->(∀m∈out,m∈c/\(fA m c ao.all).isSome=true)->rk out->rk (oG c t out)
 |[],out,_,_,ha=>ha
 |l::t,out,hc,ho,ha=>by
  have hl:=hc l aQ;rw[oG];by_cases q:(fA l c ao.all).isSome=true
  .rw[if_pos q]
   refine DT ht (fun l h=>hc l (aJ _ h)) (fun m hm=>?_) (U1 ha fun m hm e=>ht l hl m (ho m hm).1 q (ho m hm).2 e);rcases JX.1 hm with rfl|h
   .exact⟨hl,q⟩
   .exact ho m h
  .rw[if_neg q]
   exact DT ht (fun l h=>hc l (aJ _ h)) ho ha
def aqD{c:List ab}(hok: ∀l∈c,l.ok)(hne: ∃p,d8 c p):rk (iE c):=by
 obtain⟨e,_,hg,hi,hs⟩:=DR hok hne;refine DT (fun l hl m hm el em h=>?_) (fun l h=>h) (fun m h=>by cases h) .nil;obtain⟨w1,p1,k1⟩:=Hy (fun s h=>(hs s h).1) (hok l hl) el;obtain⟨w2,p2,k2⟩:=Hy (fun s h=>(hs s h).1) (hok m hm) em;obtain⟨a1,a2,_⟩:=k1 _ (pb p1);obtain⟨b1,b2,_⟩:=k2 _ (pb p2);exact Pq hg.ne (hok m hm) (hok l hl) (fun p hp=>(hi p).1 hp m hm) (fun p hp=>(hi p).1 hp l hl) ⟨_,b1,b2⟩ ⟨_,a1,a2⟩ h
def IN{v:ao}{t u:Rat}(h:v.ins t)(k:v.has u):v.ins ((t+u)*(1/2)):=by
 obtain⟨lo,hi,nl,nh⟩:=v;unfold ao.ins at*;unfold ao.has at k
 cases nl<;>cases nh<;>simp at* <;>grind
def AL{c d:aA}(hc: ∃q,bH c q)(h: ∀p,bH c p↔bH d p){p:aa}(hp:ng c p):ng d p:=fun s hs=>rF hc (fun q hq=>(h q).1 hq s hs) hp
def Y4{c:List ab}{d:aA}(hok: ∀l∈c,l.ok)(hd:cx d)(h: ∀p,bH d p↔d8 c p)(l:ab):l∈d.map (·.l)↔l∈iE c:=by
 have hne: ∃p,d8 c p:=hd.ne.elim fun q hq=>⟨q,(h q).1 hq⟩;obtain⟨e,_,hg,hi,hs⟩:=DR hok hne;have hde: ∀p,bH d p↔bH e p:=fun p=>by rw[h,hi]
 constructor
 .intro hl
  obtain⟨s,k,rfl⟩:=bX.1 hl;obtain⟨t1,t2⟩:=G8 hd k;have t3:=AL hd.ne hde t1;have: ¬bH e (s.l.at s.v.sample):=fun q=>by
   have:=(hde _).2 q s k;rw[t2] at this;exact absurd this (by decide)
  obtain⟨u,hu,hz⟩: ∃u∈e,u.l.value (s.l.at s.v.sample)=0:=by
   by_cases q: ∃u∈e,u.l.value (s.l.at s.v.sample)=0
   .exact q
   .exfalso
    refine this fun u hu=>?_;have g1:=t3 u hu;have g2:u.l.value (s.l.at s.v.sample)≠0:=fun e=>q ⟨u,hu,e⟩;grind
  have:=HP hd k (hg.ok u hu) (fun p hp=>(hde p).1 hp u hu) hz;rw[<-this];exact zW.2 (hs u hu)
 .intro hl
  obtain⟨l1,l2⟩:=zW.1 hl;obtain⟨w,p1,k1⟩:=Hy (fun s h=>(hs s h).1) (hok l l1) l2;have hed: ∀p,bH e p↔bH d p:=fun p=>(hde p).symm;have hi1:=pb p1;obtain⟨⟨u1,m1,n1⟩,⟨u2,m2,n2⟩⟩:=GC hi1;have g1:=IN hi1 n1;have g2:=IN hi1 n2;obtain⟨c0,c1,_⟩:=k1 _ hi1;have c2:=AL hg.ne hed c0;have: ¬bH d (l.at w.sample):=fun q=>by
   have:=(h _).1 q l l1;rw[c1] at this;exact absurd this (by decide)
  obtain⟨s,hsd,hz⟩: ∃s∈d,s.l.value (l.at w.sample)=0:=by
   by_cases q: ∃u∈d,u.l.value (l.at w.sample)=0
   .exact q
   .exfalso
    refine this fun u hu=>?_;have g1:=c2 u hu;have g2:u.l.value (l.at w.sample)≠0:=fun e=>q ⟨u,hu,e⟩;grind
  have e1:=AL hg.ne hed (k1 _ g1).1 s hsd;have e2:=AL hg.ne hed (k1 _ g2).1 s hsd;rw[kE] at hz e1 e2;have hK:l.cutK s.l=0:=by
   rcases mC (l.cutK s.l) with h|h|h
   .exact h
   .exfalso
    have:=fp (a:=w.sample-u1) (b:=l.cutK s.l) (by grind) h;grind
   .exfalso
    have:=fp (a:=u2-w.sample) (b:= -l.cutK s.l) (by grind) (by grind);grind
  have hz2: ∀t,s.l.value (l.at t)=0:=fun t=>by rw[kE,hK];rw[hK] at hz;grind
  rcases yn (hd.ok s hsd) (hok l l1) hz2 with q|q
  .rw[<-q];exact fZ hsd
  .exfalso
   obtain⟨u,hu⟩:=hd.ne;have a:=hu s hsd;have b:=(h u).1 hu l l1;rw[q,gA] at a;grind
def Kg: ∀{l m:List ab},rk l->rk m->(∀x,x∈l↔x∈m)->l=m
 |[],[],_,_,_=>rfl
 |[],b::m,_,_,h=>absurd ((h b).2 aQ) (by simp)
 |a::l,[],_,_,h=>absurd ((h a).1 aQ) (by simp)
 |a::l,b::m,h1,h2,h=>by
  obtain⟨p1,p2⟩:=bZ.1 h1;obtain⟨q1,q2⟩:=bZ.1 h2;have p1': ∀x∈l,eE a.dir x.dir:=fun x hx=>p1 _ (fZ hx);have q1': ∀x∈m,eE b.dir x.dir:=fun x hx=>q1 _ (fZ hx);have e:a=b:=by
   rcases aU.1 ((h a).1 aQ) with e|e
   .exact e
   .rcases aU.1 ((h b).2 aQ) with f|f
    .exact f.symm
    .exact(SG (q1' a e) (p1' b f)).elim
  subst e;congr 1;refine Kg p2 q2 fun x=>⟨fun hx=>?_,fun hx=>?_⟩
  .rcases aU.1 ((h x).1 (aJ _ hx)) with e|e
   .subst e;exact(Hs _ (p1' _ hx)).elim
   .exact e
  .rcases aU.1 ((h x).2 (aJ _ hx)) with e|e
   .subst e;exact(Hs _ (q1' _ hx)).elim
   .exact e
def LT{c:List ab}{d:aA}(hok: ∀l∈c,l.ok)(hd:cx d)(ha:vf d)(h: ∀p,bH d p↔d8 c p):iE c=d.map (·.l):=by
 refine Kg (aqD hok (hd.ne.elim fun q hq=>⟨q,(h q).1 hq⟩)) ?_ fun x=>(Y4 hok hd h x).symm;unfold rk;rw[oJ];exact ha
def aIO(c:aA):Bool:=!c.isEmpty&&c.all fun s=>!s.v.nl&&!s.v.nh
def Ow(c:List ab)(v:aa):Bool:=c.all fun l=>decide (0<=Int.sign (l.dir.cross v).num)
def aKA(c:List ab):Bool:=!c.isEmpty&&(c.flatMap fun l=>[l.dir,kP l.dir]).all fun v=>!Ow c v
def zZ:ab:=⟨1,0,0⟩
def aJg(c:List ab)(i:Nat):List aa:=
 if 0<Int.sign ((c.getD i zZ).dir.cross (c.getD ((i+1)%c.length) zZ).dir).num then [gG (c.getD i zZ) (c.getD ((i+1)%c.length) zZ)] else []
def uS(c:List ab):List aa:=(List.range c.length).flatMap (aJg c)
def aJA(v:List aa)(i:Nat):List aa:=[v.getD 0 ⟨0,0⟩,v.getD (i+1) ⟨0,0⟩,v.getD (i+2) ⟨0,0⟩]
def NT(v:List aa):List (List aa):=(List.range (v.length-2)).map (aJA v)
def aIL(cs:List (List ab)):List (List aa):=cs.flatMap fun c=>NT (uS c)
end Go.Sx
end
