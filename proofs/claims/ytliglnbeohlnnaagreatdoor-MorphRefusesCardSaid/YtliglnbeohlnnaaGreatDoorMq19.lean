import Derived.Test.YtliglnbeohlnnaaGreatDoorMq18
set_option linter.all false
set_option maxRecDepth 100000
section
namespace Go.Sx
open Go Go.Proofs
variable {a b z w1 w2 w3 w4 m low a' b' c' d:Rat}{c:av}{x y fill op X Y:Int}{p1 p2 p3 p4 n u p q:ah}{D k A B j:Nat}{V:List ah}{l m0:aa}{s:bB}{rs:List (List ZP)}{P:aa->Prop}{L K:List aa}{t:Tr}
def wk{c x y:Rat}(ha:0<=a)(hb:0<=b)(hc:0<=c)(hs:0<a+b+c)(hx:0<x)(hy:0<y)(hz:0<z):0<a*x+b*y+c*z:=by
 have h1:=dh ha (dX hx);have h2:=dh hb (dX hy);have h3:=dh hc (dX hz);by_cases k1:0<a
 .have:=dx k1 hx;grind
 .by_cases k2:0<b
  .have:=dx k2 hy;grind
  .have:=dx (show 0<c by grind) hz;grind
def jO(x:Rat):Rat:=if 0<x then x else 0
def wi(x:Rat):0<=jO x:=by unfold jO;split<;>grind
def Fb(x:Rat):jO x-jO (-x)=x:=by unfold jO;split<;>split<;>grind
def C9(x:Rat):jO x=0\/jO (-x)=0:=by unfold jO;split<;>split<;>grind
def Mv{x:Rat}(h:0<x):0<jO x:=by unfold jO;rw[if_pos h];exact h
def wQ(w1 w2 w3 w4:Rat)(p1 p2 p3 p4:ah):ah:=⟨(w1*p1.x+w2*p2.x+w3*p3.x+w4*p4.x)*(w1+w2+w3+w4)⁻¹,(w1*p1.y+w2*p2.y+w3*p3.y+w4*p4.y)*(w1+w2+w3+w4)⁻¹⟩
def SJ(l:aa)(hs:0<w1+w2+w3+w4)(p1 p2 p3 p4:ah):(w1+w2+w3+w4)*l.value (wQ w1 w2 w3 w4 p1 p2 p3 p4)=w1*l.value p1+w2*l.value p2+w3*l.value p3+w4*l.value p4:=by
 have e:(w1+w2+w3+w4)*(w1+w2+w3+w4)⁻¹=1:=rW _ omb;unfold wQ aa.value aa.nor ah.dot;dsimp only;generalize (w1+w2+w3+w4)⁻¹=i at*;grind
def X2(h:ck p1 p2 p3≠0): ∃r:ah,∀l:aa,((0<l.value p2/\0<l.value p3/\0<l.value p4)\/(0<l.value p1/\0<l.value p3/\0<l.value p4)\/(0<l.value p1/\0<l.value p2/\0<l.value p4)\/(0<l.value p1/\0<l.value p2/\0<l.value p3))->0<l.value r:=by
 obtain⟨u1,e1⟩: ∃u,u=ck p2 p3 p4:=⟨_,rfl⟩;obtain⟨u2,e2⟩: ∃u,u= -ck p1 p3 p4:=⟨_,rfl⟩;obtain⟨u3,e3⟩: ∃u,u=ck p1 p2 p4:=⟨_,rfl⟩;obtain⟨u4,e4⟩: ∃u,u= -ck p1 p2 p3:=⟨_,rfl⟩;have hz:u1+u2+u3+u4=0:=by rw[e1,e2,e3,e4];unfold ck;grind
 have hx:u1*p1.x+u2*p2.x+u3*p3.x+u4*p4.x=0:=by rw[e1,e2,e3,e4];unfold ck;grind
 have hy:u1*p1.y+u2*p2.y+u3*p3.y+u4*p4.y=0:=by rw[e1,e2,e3,e4];unfold ck;grind
 have h4:u4≠0:=by rw[e4];grind
 clear e1 e2 e3 e4 h;have s1:=Fb u1;have s2:=Fb u2;have s3:=Fb u3;have s4:=Fb u4;have a1:=wi u1;have a2:=wi u2;have a3:=wi u3;have a4:=wi u4;have b1:=wi (-u1);have b2:=wi (-u2);have b3:=wi (-u3);have b4:=wi (-u4);have z1:=C9 u1;have z2:=C9 u2;have z3:=C9 u3;have z4:=C9 u4;have c4:0<jO u4+jO (-u4):=by
  rcases kt u4 with k|k|k
  .exact absurd k h4
  .have:=Mv k;grind
  .have:=Mv (show 0< -u4 by grind);grind
 generalize jO u1=v1 at*;generalize jO u2=v2 at*;generalize jO u3=v3 at*;generalize jO u4=v4 at*;generalize jO (-u1)=w1 at*;generalize jO (-u2)=w2 at*;generalize jO (-u3)=w3 at*;generalize jO (-u4)=w4 at*;have hS:v1+v2+v3+v4=w1+w2+w3+w4:=by grind
 have hp:0<v1+v2+v3+v4:=by grind
 have hX:v1*p1.x+v2*p2.x+v3*p3.x+v4*p4.x=w1*p1.x+w2*p2.x+w3*p3.x+w4*p4.x:=by
  rw[<-s1,<-s2,<-s3,<-s4] at hx;grind
 have hY:v1*p1.y+v2*p2.y+v3*p3.y+v4*p4.y=w1*p1.y+w2*p2.y+w3*p3.y+w4*p4.y:=by
  rw[<-s1,<-s2,<-s3,<-s4] at hy;grind
 refine⟨wQ v1 v2 v3 v4 p1 p2 p3 p4,fun l hl=>?_⟩;have eq:wQ v1 v2 v3 v4 p1 p2 p3 p4=wQ w1 w2 w3 w4 p1 p2 p3 p4:=by unfold wQ;rw[hX,hY,hS]
 have f1:=SJ l hp p1 p2 p3 p4;have f2:=SJ l (show 0<w1+w2+w3+w4 by grind) p1 p2 p3 p4;rw[<-eq] at f2;have fin:(0<v1*l.value p1+v2*l.value p2+v3*l.value p3+v4*l.value p4\/0<w1*l.value p1+w2*l.value p2+w3*l.value p3+w4*l.value p4)->0<l.value (wQ v1 v2 v3 v4 p1 p2 p3 p4):=fun k=>by
  rcases k with k|k
  .exact(gh hp).1 (by rw[Rat.mul_comm,f1];exact k)
  .exact(gh (show 0<w1+w2+w3+w4 by grind)).1 (by rw[Rat.mul_comm,f2];exact k)
 apply fin;clear f1 f2 fin eq hX hY hx hy;generalize l.value p1=x1 at*;generalize l.value p2=x2 at*;generalize l.value p3=x3 at*;generalize l.value p4=x4 at*;rcases hl with⟨k1,k2,k3⟩|⟨k1,k2,k3⟩|⟨k1,k2,k3⟩|⟨k1,k2,k3⟩
 .rcases z1 with z|z
  .left;have:=wk a2 a3 a4 omb k1 k2 k3;rw[z];grind
  .right;have:=wk b2 b3 b4 omb k1 k2 k3;rw[z];grind
 .rcases z2 with z|z
  .left;have:=wk a1 a3 a4 omb k1 k2 k3;rw[z];grind
  .right;have:=wk b1 b3 b4 omb k1 k2 k3;rw[z];grind
 .rcases z3 with z|z
  .left;have:=wk a1 a2 a4 omb k1 k2 k3;rw[z];grind
  .right;have:=wk b1 b2 b4 omb k1 k2 k3;rw[z];grind
 .rcases z4 with z|z
  .left;have:=wk a1 a2 a3 omb k1 k2 k3;rw[z];grind
  .right;have:=wk b1 b2 b3 omb k1 k2 k3;rw[z];grind
def S8: ∀(n:Nat) (L:List aa),L.length=n->(∀a∈L,∀b∈L,∀d∈L,∃q:ah,0<a.value q/\0<b.value q/\0<d.value q)-> ∃q,gq L q
 |0,L,hn,_=>⟨⟨0,0⟩,fun m hm=>by rw[cJ hn] at hm;cases hm⟩
 |n+1,[],hn,_=>by cases hn
 |n+1,[a],_,h=>by
  obtain⟨q,h1,_⟩:=h a omc a omc a omc;exact⟨q,fun m hm=>by rw[aR.1 hm];exact h1⟩
 |n+1,[a,b],_,h=>by
  obtain⟨q,h1,h2,_⟩:=h a omc b omc b omc;exact⟨q,fun m hm=>by simp only[aW,fK,or_false] at hm;rcases hm with rfl|rfl<;>assumption⟩
 |n+1,[a,b,d],_,h=>by
  obtain⟨q,h1,h2,h3⟩:=h a omc b omc d omc;exact⟨q,fun m hm=>by simp only[aW,fK,or_false] at hm;rcases hm with rfl|rfl|rfl<;>assumption⟩
 |n+1,a::b::d::e::L,hn,h=>by
  have sub: ∀M:List aa,M.length=n->(∀m∈M,m∈a::b::d::e::L)-> ∃q,gq M q:=fun M hM hs=>S8 n M hM fun x hx y hy z hz=>h x (hs x hx) y (hs y hy) z (hs z hz);simp only[bZ] at hn;obtain⟨p1,q1⟩:=sub (b::d::e::L) okC (fun m hm=>by simp only[aW] at hm⊢;grind);obtain⟨p2,q2⟩:=sub (a::d::e::L) okC (fun m hm=>by simp only[aW] at hm⊢;grind);obtain⟨p3,q3⟩:=sub (a::b::e::L) okC (fun m hm=>by simp only[aW] at hm⊢;grind);obtain⟨p4,q4⟩:=sub (a::b::d::L) okC (fun m hm=>by simp only[aW] at hm⊢;grind);by_cases e12:p1=p2
  .refine⟨p1,fun m hm=>?_⟩
   rcases aW.1 hm with rfl|hm
   .rw[e12];exact q2 m omc
   .exact q1 m hm
  .have hN:=Gl (aEh e12)
   obtain⟨p3',q3',ho⟩: ∃p3',gq (a::b::e::L) p3'/\ck p1 p2 p3'≠0:=by
    by_cases k:ck p1 p2 p3=0
    .obtain⟨ep,he,hm⟩:=q3.open ⟨-(p2.y-p1.y),p2.x-p1.x⟩
     refine⟨_,hm ep (dX he) iS,?_⟩;have e:ck p1 p2 (de p3 ⟨-(p2.y-p1.y),p2.x-p1.x⟩ ep)=ck p1 p2 p3+ep*((p2.x-p1.x)*(p2.x-p1.x)+(p2.y-p1.y)*(p2.y-p1.y)):=by unfold ck de;dsimp only;grind
     rw[e,k];have:=dx he hN;grind
    .exact⟨p3,q3,k⟩
   obtain⟨r,hr⟩:=X2 (p4:=p4) ho;refine⟨r,fun m hm=>hr m ?_⟩;simp only[aW] at hm;have i1:=q1 m;have i2:=q2 m;have i3:=q3' m;have i4:=q4 m;simp only[aW] at i1 i2 i3 i4;rcases hm with rfl|rfl|rfl|rfl|hm
   .exact .inl ⟨i2 omc,i3 omc,i4 omc⟩
   .exact .inr (.inl ⟨i1 omc,i3 omc,i4 omc⟩)
   .exact .inr (.inr (.inl ⟨i1 omc,i2 omc,i4 omc⟩))
   .exact .inr (.inr (.inr ⟨i1 omc,i2 omc,i3 omc⟩))
   .exact .inl ⟨i2 (by simp[hm]),i3 (by simp[hm]),i4 (by simp[hm])⟩
def Qv(a:Rat):a*(a.den:Rat)=(a.num:Rat):=by
 have h:(a.num:Rat)/((a.den:Nat):Rat)=a:=by rw[<-mL];exact oN a
 have h0:((a.den:Nat):Rat)≠0:=by
  intro k;have:a.den=0:=by exact_mod_cast k
  exact a.den_nz this
 generalize (a.num:Rat)=n at*;generalize ((a.den:Nat):Rat)=d at*;rw[<-h];grind
def Kq(hD:0<D)(h:a*((D:Int):Rat)=(x:Rat)):a.num*(D:Int)=x*(a.den:Int):=by
 have e:((a.den:Int):Rat)*a=(a.num:Rat):=by
  have:=Qv a;rw[Rat.mul_comm];exact this
 have k:(a.num:Rat)*((D:Int):Rat)=(x:Rat)*((a.den:Int):Rat):=by rw[<-e,<-h];grind
 exact_mod_cast k
def Dq(hD:0<D)(ha:a*((D:Int):Rat)=(x:Rat))(hb:b*((D:Int):Rat)=(y:Rat)):rgcd a b*((D:Int):Rat)=(((Nat.gcd x.natAbs y.natAbs:Nat):Int):Rat):=by
 have h1:=Kq hD ha;have h2:=Kq hD hb;have n1:a.num.natAbs*D=x.natAbs*a.den:=by
  have:=congrArg Int.natAbs h1;rwa [eY,eY,dS,dS] at this
 have n2:b.num.natAbs*D=y.natAbs*b.den:=by
  have:=congrArg Int.natAbs h2;rwa [eY,eY,dS,dS] at this
 have hg:Nat.gcd (a.num.natAbs*b.den) (b.num.natAbs*a.den)*D=Nat.gcd x.natAbs y.natAbs*(a.den*b.den):=by
  rw[<-Nat.gcd_mul_right,<-Nat.gcd_mul_right];congr 1
  .rw[nR,n1,cY]
  .rw[nR,n2,cY,cW b.den a.den]
 unfold rgcd;generalize Nat.gcd (a.num.natAbs*b.den) (b.num.natAbs*a.den)=G at*;generalize Nat.gcd x.natAbs y.natAbs=g at*;have hpos:0<a.den*b.den:=iY a.den_pos b.den_pos;have hq:((G:Int):Rat)*((D:Int):Rat)=((g:Int):Rat)*(((a.den*b.den:Nat):Int):Rat):=by exact_mod_cast hg
 generalize a.den*b.den=E at*;have h0:((E:Int):Rat)≠0:=fun k=>by
  have:(E:Int)=0:=by exact_mod_cast k
  omega
 have hm:mkRat ((G:Nat):Int) E*((E:Int):Rat)=((G:Int):Rat):=by
  have hz:((E:Nat):Rat)≠0:=h0;show mkRat ((G:Nat):Int) E*((E:Nat):Rat)=_;rw[mL];generalize ((E:Nat):Rat)=z at*;generalize ((G:Int):Rat)=y at*;grind
 generalize mkRat ((G:Nat):Int) E=r at*;rw[<-hm] at hq;generalize ((E:Int):Rat)=e at*;generalize ((D:Int):Rat)=d at*;have:e*(r*d-((g:Int):Rat))=0:=by grind
 have:=(fJ.1 this).resolve_left h0;grind
def l8(a b c:Rat):Nat:=a.den*(b.den*c.den)
def dB(a b c:Rat):aa:=nH (a.num*(b.den*c.den:Nat)) (b.num*(a.den*c.den:Nat)) (c.num*(a.den*b.den:Nat))
def Ob(a b c:Rat):0<l8 a b c:=iY a.den_pos (iY b.den_pos c.den_pos)
def J2(a:Rat)(k:Nat):a*(((a.den*k:Nat):Int):Rat)=((a.num*(k:Nat):Int):Rat):=by
 have e:=Qv a;have:(((a.den*k:Nat):Int):Rat)=(a.den:Rat)*((k:Int):Rat):=by push_cast;rfl
 rw[this,cS,<-Rat.mul_assoc,e]
def Ls(a b c:Rat):a*((l8 a b c:Int):Rat)=((a.num*(b.den*c.den:Nat):Int):Rat)/\b*((l8 a b c:Int):Rat)=((b.num*(a.den*c.den:Nat):Int):Rat)/\c*((l8 a b c:Int):Rat)=((c.num*(a.den*b.den:Nat):Int):Rat):=by
 refine⟨J2 a _,?_,?_⟩
 .rw[show l8 a b c=b.den*(a.den*c.den) by unfold l8;rw[nZ]];exact J2 b _
 .rw[show l8 a b c=c.den*(a.den*b.den) by unfold l8;rw[<-cY,cW]];exact J2 c _
def Co{c:Rat}(h: ¬(a=0/\b=0)): ¬(a.num*(b.den*c.den:Nat)=0/\b.num*(a.den*c.den:Nat)=0):=fun⟨h1,h2⟩=>by
 refine h ⟨?_,?_⟩
 .rcases pT.1 h1 with k|k
  .exact mW.1 k
  .have:=iY b.den_pos c.den_pos;omega
 .rcases pT.1 h2 with k|k
  .exact mW.1 k
  .have:=iY a.den_pos c.den_pos;omega
def AM{c:Rat}(h: ¬(a=0/\b=0)): ∃g:Rat,0<g/\(∀p:ah,(dB a b c).value p=g*(a*p.x+b*p.y+c)):=by
 obtain⟨g,g0,e1,e2,e3⟩:=Wa (c:=c.num*(a.den*b.den:Nat)) (Co (c:=c) h);obtain⟨k1,k2,k3⟩:=Ls a b c;have hD:(0:Rat)<((l8 a b c:Int):Rat):=by
  have:=Ob a b c;exact_mod_cast (show(0:Int)<(l8 a b c:Int) by omega)
 have hg:(0:Rat)<(g:Rat):=by exact_mod_cast g0
 have f1:(g:Rat)*((dB a b c).a:Rat)=a*((l8 a b c:Int):Rat):=by rw[k1,<-e1];unfold dB;push_cast;rfl
 have f2:(g:Rat)*((dB a b c).b:Rat)=b*((l8 a b c:Int):Rat):=by rw[k2,<-e2];unfold dB;push_cast;rfl
 have f3:(g:Rat)*((dB a b c).c:Rat)=c*((l8 a b c:Int):Rat):=by rw[k3,<-e3];unfold dB;push_cast;rfl
 refine⟨((l8 a b c:Int):Rat)/(g:Rat),div_pos hD hg,fun p=>?_⟩;unfold aa.value aa.nor ah.dot;dsimp only;generalize ((dB a b c).a:Rat)=A at*;generalize ((dB a b c).b:Rat)=B at*;generalize ((dB a b c).c:Rat)=C at*;generalize ((l8 a b c:Int):Rat)=D at*;generalize (g:Rat)=g at*;have hq:D/g*g=D:=by grind
 generalize D/g=q at*;subst hq;have:g*(A*p.x+B*p.y+C-q*(a*p.x+b*p.y+c))=0:=by grind
 have:=(fJ.1 this).resolve_left omb;grind
def Bv{c:Rat}(h: ¬(a=0/\b=0)):(dB a b c).ok:=Gz (Co h)
def ah.subQ(p q:ah):ah:=⟨p.x-q.x,p.y-q.y⟩
def bG(f:ah×ah):ah:=⟨-(f.2.y-f.1.y),f.2.x-f.1.x⟩
def Kz(f:ah×ah)(u:ah):ck f.1 f.2 u=(bG f).dot u-(bG f).dot f.1:=by unfold ck bG ah.dot;dsimp only;grind
structure lu (V:List ah) (E:List (ah×ah)):Prop where
 ends: ∀f∈E,f.1∈V/\f.2∈V
 cvx: ∀f∈E,∀v∈V,0<=ck f.1 f.2 v
 cen: ∃u,∀f∈E,0<ck f.1 f.2 u
 hull: ∀n u:ah,(∀f∈E,0<=ck f.1 f.2 u)-> ∃v∈V,n.dot v<=n.dot u
def Da(n p q:ah):n.dot (p.subQ q)=n.dot p-n.dot q:=by unfold ah.dot ah.subQ;dsimp only;grind
def Ge(l:aa)(p:ah):l.value p=l.nor.dot p+l.c:=rfl
def aBd{E:List (ah×ah)}(hB:lu V E)(h: ∀u,(∀f∈E,0<ck f.1 f.2 u)->m<=n.dot u): ∀v∈V,m<=n.dot v:=fun v hv=>by
 obtain⟨u,hu⟩:=hB.cen;apply Classical.byContradiction;intro k
 -- a point near to v
 have hk:n.dot v<m:=by grind
 have h0:=h u hu;have key: ∀t:Rat,0<t->t<=1->m<=n.dot v+t*(n.dot u-n.dot v):=fun t t0 t1=>by
  rw[<-IK];refine h _ fun f hf=>?_;rw[aIl];have a:=hB.cvx f hf v hv;have b:=dx t0 (hu f hf);have c:=dh (show 0<=1-t by grind) a;grind
 generalize n.dot v=a at*;generalize n.dot u=b at*;have hd:0<b-a:=by grind
 have e:(m-a)/(2*(b-a))*(2*(b-a))=m-a:=by grind
 have q:=key ((m-a)/(2*(b-a))) (div_pos omb omb) ?_
 .generalize (m-a)/(2*(b-a))=t at*
  grind
 .generalize (m-a)/(2*(b-a))=t at*
  apply Classical.byContradiction;intro q;have:=dx (show 0<t-1 by grind) (show 0<2*(b-a) by grind);grind
def Ws(hc:bF c)(h: ∀q,bA c q->m<=n.dot q): ∀q,iA c q->m<=n.dot q:=fun v hv=>by
 obtain⟨u,hu⟩:=hc.ne;apply Classical.byContradiction;intro k;have hk:n.dot v<m:=by grind
 have h0:=h u hu;have key: ∀t:Rat,0<t->t<=1->m<=n.dot v+t*(n.dot u-n.dot v):=fun t t0 t1=>by
  rw[<-IK];refine h _ fun s hs=>?_;rw[lH];have a:=hv s hs;have b:=dx t0 (hu s hs);have c:=dh (show 0<=1-t by grind) a;grind
 generalize n.dot v=a at*;generalize n.dot u=b at*;have hd:0<b-a:=by grind
 have e:(m-a)/(2*(b-a))*(2*(b-a))=m-a:=by grind
 have q:=key ((m-a)/(2*(b-a))) (div_pos omb omb) ?_
 .generalize (m-a)/(2*(b-a))=t at*
  grind
 .generalize (m-a)/(2*(b-a))=t at*
  apply Classical.byContradiction;intro q;have:=dx (show 0<t-1 by grind) (show 0<2*(b-a) by grind);grind
def wP(f:ah×ah)(p:ah):aa:=dB (-(bG f).x) (-(bG f).y) ((bG f).dot p-(bG f).dot f.1)
def So{f:ah×ah}(h:0<ck f.1 f.2 u): ¬((bG f).x=0/\(bG f).y=0):=fun⟨h1,h2⟩=>by
 have e:ck f.1 f.2 u=(bG f).y*(u.y-f.1.y)+(bG f).x*(u.x-f.1.x):=by unfold ck bG;dsimp only;grind
 rw[e,h1,h2] at h;grind
def Ds{f:ah×ah}(h:0<ck f.1 f.2 u)(p q:ah):0<(wP f p).value q↔0<ck f.1 f.2 (p.subQ q):=by
 have hz:=So h;obtain⟨g,g0,hg⟩:=AM (a:= -(bG f).x) (b:= -(bG f).y) (c:=(bG f).dot p-(bG f).dot f.1) (fun⟨h1,h2⟩=>hz ⟨omb,omb⟩);unfold wP;rw[hg,Ak g0,Kz,Da];have e: -(bG f).x*q.x+ -(bG f).y*q.y+((bG f).dot p-(bG f).dot f.1)=(bG f).dot p-(bG f).dot q-(bG f).dot f.1:=by unfold ah.dot;grind
 rw[e]
def aGU{E:List (ah×ah)}(hB:lu V E)(hc:bF c)(h1: ∀s∈c,∃v∈V,(∀w∈V,s.l.nor.dot v<=s.l.nor.dot w)/\0<s.l.value p-s.l.nor.dot v)
  (h2: ∀f∈E,(∃M,∀q,iA c q->M<=(bG f).dot q)-> ∃q,iA c q/\0<(bG f).dot p-(bG f).dot q-(bG f).dot f.1): ∃q,bA c q/\ ∀f∈E,0<ck f.1 f.2 (p.subQ q):=by
 obtain⟨u0,hu0⟩:=hB.cen;obtain⟨q0,hq0⟩:=hc.ne;obtain⟨q,hq⟩:=S8 _ ((c.map fun s=>s.l)++E.map fun f=>wP f p) rfl (by
  have cc: ∀l∈c.map (fun s:bB=>s.l),0<l.value q0:=fun l hl=>by obtain⟨s,hs,rfl⟩:=aU.1 hl;exact hq0 s hs
  have ee: ∀l∈E.map (fun f=>wP f p),0<l.value (p.subQ u0):=fun l hl=>by
   obtain⟨f,hf,rfl⟩:=aU.1 hl;rw[Ds (hu0 f hf),show p.subQ (p.subQ u0)=u0 by unfold ah.subQ;cases u0;simp only[ah.mk.injEq];constructor<;>grind];exact hu0 f hf
  -- one edge: some point of the cell is on its left
  have one: ∀l∈E.map (fun f=>wP f p),∃q,bA c q/\0<l.value q:=fun l hl=>by
   obtain⟨f,hf,rfl⟩:=aU.1 hl;apply Classical.byContradiction;intro k;have k2: ∀q,bA c q->(bG f).dot p-(bG f).dot f.1<=(bG f).dot q:=fun q hq=>by
    have: ¬0<(wP f p).value q:=fun h=>k ⟨q,hq,h⟩;rw[Ds (hu0 f hf),Kz,Da] at this;grind
   have k3:=Ws hc k2;obtain⟨q,hq,hv⟩:=h2 f hf ⟨_,k3⟩;have:=k3 q hq;grind
  -- one side: some point of the moved polygon is on its left
  have two: ∀l∈c.map (fun s:bB=>s.l),∃u,(∀f∈E,0<ck f.1 f.2 u)/\0<l.value (p.subQ u):=fun l hl=>by
   obtain⟨s,hs,rfl⟩:=aU.1 hl;apply Classical.byContradiction;intro k;have k2: ∀u,(∀f∈E,0<ck f.1 f.2 u)->s.l.value p<=s.l.nor.dot u:=fun u hu=>by
    have: ¬0<s.l.value (p.subQ u):=fun h=>k ⟨u,hu,h⟩;rw[Ge,Da] at this;rw[Ge];grind
   have k3:=aBd hB k2;obtain⟨v,hv,_,hp⟩:=h1 s hs;have:=k3 v hv;grind
  have emov: ∀l∈E.map (fun f=>wP f p),∀u,(∀f∈E,0<ck f.1 f.2 u)->0<l.value (p.subQ u):=fun l hl u hu=>by
   obtain⟨f,hf,rfl⟩:=aU.1 hl;rw[Ds (hu0 f hf),show p.subQ (p.subQ u)=u by unfold ah.subQ;cases u;simp only[ah.mk.injEq];constructor<;>grind];exact hu f hf
  have cin: ∀l∈c.map (fun s:bB=>s.l),∀q,bA c q->0<l.value q:=fun l hl q hq=>by obtain⟨s,hs,rfl⟩:=aU.1 hl;exact hq s hs
  intro a ha b hb d hd;rcases bX.1 ha with ha|ha<;>rcases bX.1 hb with hb|hb<;>rcases bX.1 hd with hd|hd
  .exact⟨q0,cc a ha,cc b hb,cc d hd⟩
  .obtain⟨q,h,k⟩:=one d hd;exact⟨q,cin a ha q h,cin b hb q h,k⟩
  .obtain⟨q,h,k⟩:=one b hb;exact⟨q,cin a ha q h,k,cin d hd q h⟩
  .obtain⟨u,h,k⟩:=two a ha;exact⟨_,k,emov b hb u h,emov d hd u h⟩
  .obtain⟨q,h,k⟩:=one a ha;exact⟨q,k,cin b hb q h,cin d hd q h⟩
  .obtain⟨u,h,k⟩:=two b hb;exact⟨_,emov a ha u h,k,emov d hd u h⟩
  .obtain⟨u,h,k⟩:=two d hd;exact⟨_,emov a ha u h,emov b hb u h,k⟩
  .exact⟨_,ee a ha,ee b hb,ee d hd⟩)
 refine⟨q,fun s hs=>hq s.l (bM _ (fQ hs)),fun f hf=>?_⟩;exact(Ds (hu0 f hf) p q).1 (hq _ (bU _ (fQ hf)))
def aBg{E:List (ah×ah)}(hB:lu V E){c:av}{q:ah}(hu: ∀f∈E,0<=ck f.1 f.2 u)(hl: ∀v∈V,low<=n.dot v):low<=n.dot u:=by
 obtain⟨v,hv,h⟩:=hB.hull n u hu;have:=hl v hv;grind
def kz(n:ah):List ah->Rat
 |[]=>0
 |p::t=>t.foldl (fun b q=>if n.dot q<b then n.dot q else b) (n.dot p)
def QP{n:ah}: ∀(t:List ah) (b:Rat),(t.foldl (fun b q=>if n.dot q<b then n.dot q else b) b<=b/\ ∀q∈t,t.foldl (fun b q=>if n.dot q<b then n.dot q else b) b<=n.dot q)/\(t.foldl (fun b q=>if n.dot q<b then n.dot q else b) b=b\/ ∃q∈t,t.foldl (fun b q=>if n.dot q<b then n.dot q else b) b=n.dot q)
 |[],b=>⟨⟨iS,fun q hq=>by cases hq⟩, .inl J⟩
 |p::t,b=>by
  obtain⟨⟨h1,h2⟩,h3⟩:=QP t (if n.dot p<b then n.dot p else b);rw[iK];generalize t.foldl (fun b q=>if n.dot q<b then n.dot q else b) (if n.dot p<b then n.dot p else b)=z at*;refine⟨⟨by split at h1<;>grind,fun q hq=>?_⟩,?_⟩
  .rcases aW.1 hq with rfl|hq
   .split at h1<;>grind
   .exact h2 q hq
  .rcases h3 with h3|⟨q,hq,h3⟩
   .split at h3
    .exact .inr ⟨p,aZ,h3⟩
    .exact .inl h3
   .exact .inr ⟨q,aJ _ hq,h3⟩
def s8{l:List ah}(h:l≠[]):(∀q∈l,kz n l<=n.dot q)/\ ∃q∈l,kz n l=n.dot q:=by
 cases l with
 |nil=>exact absurd J h
 |cons p t=>
  obtain⟨⟨h1,h2⟩,h3⟩:=QP (n:=n) t (n.dot p);refine⟨fun q hq=>?_,?_⟩
  .rcases aW.1 hq with rfl|hq
   .exact h1
   .exact h2 q hq
  .rcases h3 with h3|⟨q,hq,h3⟩
   .exact⟨p,aZ,h3⟩
   .exact⟨q,aJ _ hq,h3⟩
def i5(n:ah)(s:bB):Bool:=(s.v.nh&&decide (s.l.dir.dot n<0))||(s.v.nl&&decide (0<s.l.dir.dot n))
def uu(n:ah):av->Bool
 |[s]=>decide (s.l.nor.dot n<0)
 |_=>false
def jm(c:av):List ah:=(c.map fun s=>s.l.at s.v.sample)++jB (c.map (·.l))
def hH(c:av)(n:ah):Option Rat:=if c.isEmpty||uu n c then none else if c.any (i5 n) then none else some (kz n (jm c))
theorem ozq{p:Prop}(h:p:=by rw[aX,bL,hw];rfl):p:=h
def AX(hc:bF c)(ha:f9 c)(hs:s∈c)(nh:s.v.nh=false):s.l.at s.v.hi∈jB (c.map (·.l)):=by
 obtain⟨i,hi,ei⟩:=List.getElem_of_mem hs;have h1:c[i]? =some s:=by rw[aQ hi,ei]
 obtain⟨w,hw⟩: ∃w,c[(i+1)%c.length]? =some w:=⟨_,aQ (dK _ we)⟩;have mw:=aK hw;have hn:y7 (c.map fun s=>s.l.dir) s.l.dir w.l.dir:=Sz ha (by rw[bL,h1];rfl) ozq;obtain⟨k1,k2⟩:=SM hc hs mw hn nh;have hx:crossI s.l w.l≠0:=Ha ((mO _).2 k1);unfold jB;rw[iR,aX];refine⟨i,jJ.2 hi,?_⟩;rw[xz (l:=s.l) (m:=w.l) (by rw[bL,h1];rfl) ozq,if_pos ((mO _).2 k1),aR];exact Tb hx (mn (hc.ok s hs).ne _) k2
def Xc(s u:aa):s.nor.dot u.dir= -(u.nor.dot s.dir):=by unfold aa.nor aa.dir ah.dot;dsimp only;grind
def Dn(hc:bF c)(ha:f9 c)(hs:s∈c)(nl:s.v.nl=false):s.l.at s.v.lo∈jB (c.map (·.l)):=by
 obtain⟨u,hu,z1,z2⟩:=aFg hc hs nl;have hin:=((hc.edge s hs).2 _).1 (Nv (hc.edge s hs).1 nl);obtain⟨t,ht⟩:=Bj (hc.ok u hu).ne z1;rw[ht] at hin;have hh:=((hc.edge u hu).2 t).2 hin;have no: ∀e:Rat,0<e-> ¬u.v.has (t+e):=fun e he k=>by
  have k:=((hc.edge u hu).2 _).1 k s hs;rw[Jm,<-ht,mn (hc.ok s hs).ne,Xc] at k;have:=dx he z2;grind
 have nh:u.v.nh=false:=by
  cases q:u.v.nh with
  |false=>rfl
  |true=>exact absurd ⟨hh.1.elim .inl fun k=> .inr omb, .inl q⟩ (no 1 oma)
 have e:t=u.v.hi:=by
  have h2:=hh.2.resolve_left (by rw[nh];simp);apply Classical.byContradiction;intro k;refine no (u.v.hi-t) omb ⟨hh.1.elim .inl fun k=> .inr omb, .inr omb⟩
 rw[ht,e];exact AX hc ha hu nh
def XL(hc:bF c)(ha:f9 c): ∀q∈jm c,iA c q:=fun q hq=>by
 unfold jm at hq;rcases bX.1 hq with hq|hq
 .obtain⟨s,hs,rfl⟩:=aU.1 hq
  exact(zB hc hs).1
 .unfold jB at hq
  rw[iR,aX] at hq;obtain⟨i,hi,hq⟩:=hq;have hi:=jJ.1 hi;obtain⟨s,hs⟩: ∃s,c[i]? =some s:=⟨_,aQ hi⟩;obtain⟨w,hw⟩: ∃w,c[(i+1)%c.length]? =some w:=⟨_,aQ (dK _ we)⟩;have ms:=aK hs;have mw:=aK hw;rw[xz (l:=s.l) (m:=w.l) (by rw[bL,hs];rfl) ozq] at hq;split at hq
  .rename_i k
   have k1:=(mO _).1 k;rw[aR] at hq;subst hq;have hn:y7 (c.map fun s=>s.l.dir) s.l.dir w.l.dir:=Sz ha (by rw[bL,hs];rfl) ozq
   -- the side ends, as the next one stops it
   have nh:s.v.nh=false:=by
    cases q:s.v.nh with
    |false=>rfl
    |true=>
     have:=Te hc ms q w mw;rw[<-Ln,xP] at this;grind
   obtain⟨_,k2⟩:=SM hc ms mw hn nh;have hx:crossI s.l w.l≠0:=Ha k;rw[<-Tb hx (mn (hc.ok s ms).ne _) k2];exact((hc.edge s ms).2 _).1 (Jf (hc.edge s ms).1 nh)
  .cases hq
def CV(h: ∀t:Rat,0<=t->iA c (de p u t))(hn:n.dot u<0)(M:Rat): ∃q,iA c q/\n.dot q<M:=by
 by_cases k:n.dot p<M
 .refine⟨_,h 0 iS,?_⟩
  rw[zT];grind
 .have e:(n.dot p-M)/ -(n.dot u)* -(n.dot u)=n.dot p-M:=by grind
  have e0:0<=(n.dot p-M)/ -(n.dot u):=(iw (s:=(n.dot p-M)/ -(n.dot u)) (k:= -(n.dot u)) omb).1 ozw;refine⟨_,h ((n.dot p-M)/ -(n.dot u)+1) omb,?_⟩;rw[zT];generalize (n.dot p-M)/ -(n.dot u)=t at*;grind
def auF(hc:bF c)(hn: ¬(n.x=0/\n.y=0))(h:hH c n=none)(M:Rat): ∃q,iA c q/\n.dot q<M:=by
 have hN:=Gl hn;have hneg:n.dot (fH n)<0:=by unfold ah.dot fH;dsimp only;grind
 unfold hH at h;split at h
 .rename_i k
  rw[iV] at k
  cases c with
  |nil=>exact CV (p:=⟨0,0⟩) (u:=fH n) (fun t _ s hs=>by cases hs) hneg M
  |cons s t=>
   rcases k with k|k
   .cases k
   .cases t with
    |cons _ _=>cases k
    |nil=>
     have k:=of_decide_eq_true (show decide (s.l.nor.dot n<0)=true from k);obtain⟨q,hq⟩:=hc.ne;refine CV (p:=q) (u:=fH n) (fun t ht w hw=>?_) hneg M;have e:=aR.1 hw;subst e;rw[jD];have a:=hq w hw;have e2:w.l.nor.dot (fH n)= -(w.l.nor.dot n):=by unfold ah.dot fH;dsimp only;grind
     have b:=dh ht (show 0<=w.l.nor.dot (fH n) by rw[e2];grind);grind
 .split at h
  .rename_i k
   obtain⟨s,hs,k⟩:=kZ.1 k;unfold i5 at k;rw[iV,bW,bW,decide_eq_true_eq,decide_eq_true_eq] at k;have hh:=((hc.edge s hs).2 _).2 (zB hc hs).1;have e1:n.dot s.l.dir=s.l.dir.dot n:=by unfold ah.dot;grind
   have e2:n.dot (fH s.l.dir)= -(s.l.dir.dot n):=by unfold ah.dot fH;dsimp only;grind
   rcases k with⟨k1,k2⟩|⟨k1,k2⟩
   .refine CV (p:=s.l.at s.v.sample) (u:=s.l.dir) (fun t ht=>?_) (by rw[e1];exact k2) M
    rw[<-Gf];exact((hc.edge s hs).2 _).1 ⟨hh.1.elim .inl fun k=> .inr omb, .inl k1⟩
   .refine CV (p:=s.l.at s.v.sample) (u:=fH s.l.dir) (fun t ht=>?_) (by rw[e2];grind) M
    have e3:de (s.l.at s.v.sample) (fH s.l.dir) t=s.l.at (s.v.sample+ -t):=by rw[Gf];unfold de fH;simp only[ah.mk.injEq];constructor<;>grind
    rw[e3];exact((hc.edge s hs).2 _).1 ⟨.inl k1,hh.2.elim .inl fun k=> .inr omb⟩
  .cases h
def IM(hc:bF c)(ha:f9 c)(hn: ¬(n.x=0/\n.y=0))(h:hH c n=some m):(∀q,iA c q->m<=n.dot q)/\ ∃q,iA c q/\n.dot q=m:=by
 have hN:=Gl hn;unfold hH at h;split at h
 .cases h
 rename_i k1;split at h
 .cases h
 rename_i k2
 cases h
 have k1:c.isEmpty=false/\uu n c=false:=by simpa using k1
 have k2: ∀s∈c,i5 n s=false:=fun s hs=>by
  cases q:i5 n s with
  |false=>rfl
  |true=>exact absurd (kZ.2 ⟨s,hs,q⟩) k2
 have hne:jm c≠[]:=by
  unfold jm
  cases c with
  |nil=>cases k1.1
  |cons s t=>simp
 obtain⟨l1,q0,hq0,l2⟩:=s8 (n:=n) hne;refine⟨?_,q0,XL hc ha q0 hq0,l2.symm⟩;have side: ∀s∈c,∀q,s.l.value q=0->iA c q->kz n (jm c)<=n.dot q:=fun s hs q hz hq=>by
  obtain⟨t,rfl⟩:=Bj (hc.ok s hs).ne hz;have hh:=((hc.edge s hs).2 t).2 hq;have ho:=k2 s hs;unfold i5 at ho;have e1:s.l.dir.dot n=n.dot s.l.dir:=by unfold ah.dot;grind
  rw[mX,e1] at ho;have f: ∀u,n.dot (s.l.at u)=n.dot (s.l.at 0)+u*n.dot s.l.dir:=fun u=>by rw[Ms s.l u,zT]
  rcases kt (n.dot s.l.dir) with k|k|k
  .have:=l1 (s.l.at s.v.sample) (bM _ (fQ (f:=fun s:bB=>s.l.at s.v.sample) hs))
   rw[f,k] at this⊢;grind
  .have nl:s.v.nl=false:=by
    cases q:s.v.nl with
    |false=>rfl
    |true=>rw[q,decide_eq_true k] at ho;exact absurd ho.2 omc
   have:=l1 _ (bU _ (Dn hc ha hs nl));have h1:=hh.1.resolve_left (by rw[nl];simp);have h2:=dh (show 0<=t-s.v.lo by grind) (dX k);rw[f] at this⊢;grind
  .have nh:s.v.nh=false:=by
    cases q:s.v.nh with
    |false=>rfl
    |true=>rw[q,decide_eq_true k] at ho;exact absurd ho.1 omc
   have:=l1 _ (bU _ (AX hc ha hs nh));have h1:=hh.2.resolve_left (by rw[nh];simp);have h2:=dh (show 0<=s.v.hi-t by grind) (show 0<= -n.dot s.l.dir by grind);rw[f] at this⊢;grind
 -- a point that moves until a side stops it
 have go: ∀p,iA c p-> ∀d:ah,n.dot d<=0->(∃u∈c,u.l.nor.dot d<0)->kz n (jm c)<=n.dot p:=fun p hp d hd0 hex=>by
  by_cases hd:bA c p
  .obtain⟨u,hu,hk⟩:=hex
   have v0:=hd u hu;obtain⟨T,hT⟩: ∃T,T=u.l.value p/ -(u.l.nor.dot d):=⟨_,rfl⟩;have e:T* -(u.l.nor.dot d)=u.l.value p:=by rw[hT];generalize u.l.nor.dot d=z at*;grind
   have T0:0<T:=(gh (k:= -(u.l.nor.dot d)) omb).1 (by rw[e];exact v0);obtain⟨r,r0,r1,⟨s,ms,_,zs⟩,hC⟩:=Ko (p:=de p d T) hd ⟨u,hu,by rw[jD];grind⟩;have:=side s ms _ zs hC;rw[IK,zT] at this;have:=dh r0 (dh (dX T0) (show 0<= -(n.dot d) by grind));grind
  .have: ∃s∈c,¬0<s.l.value p:=by
    apply Classical.byContradiction;intro k;exact hd fun s hs=>Classical.byContradiction fun k2=>k ⟨s,hs,k2⟩
   obtain⟨s,hs,k⟩:=this;have:=hp s hs;exact side s hs p omb hp
 intro p hp;by_cases q1: ∃u∈c,u.l.nor.dot (iB n)≠0
 .obtain⟨u,hu,k⟩:=q1
  have z:n.dot (iB n)=0:=by unfold ah.dot iB;grind
  rcases kt (u.l.nor.dot (iB n)) with k|h|h
  .contradiction
  .refine go p hp (fH (iB n)) ?_ ⟨u,hu,?_⟩
   .unfold ah.dot iB fH;dsimp only;grind
   .have:u.l.nor.dot (fH (iB n))= -(u.l.nor.dot (iB n)):=by unfold ah.dot fH;dsimp only;grind
    rw[this];grind
  .exact go p hp (iB n) (by rw[z];exact iS) ⟨u,hu,h⟩
 .have q1: ∀u∈c,u.l.nor.dot (iB n)=0:=fun u hu=>Classical.byContradiction fun k=>q1 ⟨u,hu,k⟩
  by_cases q2: ∃u∈c,0<u.l.nor.dot n
  .obtain⟨u,hu,k⟩:=q2
   have e: ∀z:ah,z.dot (fH n)= -(z.dot n):=fun z=>by unfold ah.dot fH;dsimp only;grind
   refine go p hp (fH n) ?_ ⟨u,hu,by rw[e];grind⟩;rw[e];unfold ah.dot;grind
  .exfalso
   have q3: ∀u∈c,u.l.nor.dot n<0:=fun u hu=>by
    have h1:=q1 u hu;have h2: ¬0<u.l.nor.dot n:=fun k=>q2 ⟨u,hu,k⟩;have h3:=nE (hc.ok u hu).ne;by_cases h4:u.l.nor.dot n=0
    .exfalso
     have e:(n.x*n.x+n.y*n.y)*(u.l.nor.dot u.l.nor)=(u.l.nor.dot n)*(u.l.nor.dot n)+(u.l.nor.dot (iB n))*(u.l.nor.dot (iB n)):=by unfold ah.dot iB;dsimp only;grind
     rw[h1,h4] at e;have:=dx hN h3;grind
    .grind
   cases c with
   |nil=>cases k1.1
   |cons s t=>
    cases t with
    |nil=>
     have:=k1.2;unfold uu at this;have:=of_decide_eq_false this;exact this (q3 s aZ)
    |cons w t=>
     have hB:eD s.l.dir w.l.dir:=by
      unfold f9 at ha;rw[bV,bV] at ha;exact(bY.1 ha).1 _ aZ
     have a1:=q3 s aZ;have a2:=q3 w (aJ _ aZ);have b1:=q1 s aZ;have b2:=q1 w (aJ _ aZ);have hz:s.l.dir.cross w.l.dir=0:=by
      have e:(n.x*n.x+n.y*n.y)*s.l.dir.cross w.l.dir=(s.l.nor.dot n)*(w.l.nor.dot (iB n))-(s.l.nor.dot (iB n))*(w.l.nor.dot n):=by unfold ah.dot iB ah.cross aa.dir aa.nor;dsimp only;grind
      rw[b1,b2] at e;have:(n.x*n.x+n.y*n.y)*s.l.dir.cross w.l.dir=0:=by grind
      exact(fJ.1 this).resolve_left omb
     have e: ∀l:aa,l.dir.cross (fH n)= -(l.nor.dot n):=fun l=>by rw[Ln];unfold ah.dot fH;dsimp only;grind
     have hh:=azy (D7 (hc.ok s aZ)) (D7 (hc.ok w (aJ _ aZ))) hz (z:=fH n) ozw ozw;rcases hB with k|⟨_,k⟩
     .omega
     .rw[hz] at k;exact absurd k oma
def WV{m:aa}(hl:l.ok)(hm:m.ok){k:Rat}(hk:0<k)(h: ∀p,l.value p=k*m.value p):l=m:=by
 have hz: ∀s,l.value (m.at s)=0:=fun s=>by rw[h,mn hm.ne];grind
 rcases zq hl hm hz with e|e
 .exact e
 .exfalso
  have hn:=nE hm.ne;have h1:=h (de (m.at 0) m.nor 1);rw[e,fA,jD,mn hm.ne] at h1;have:=dx hk hn;grind
def aAW{c:Rat}(h: ¬(a=0/\b=0))(h': ¬(a'=0/\b'=0)){k:Rat}(hk:0<k)(e: ∀p:ah,a*p.x+b*p.y+c=k*(a'*p.x+b'*p.y+c')):dB a b c=dB a' b' c':=by
 obtain⟨g,g0,hg⟩:=AM (c:=c) h;obtain⟨g',g0',hg'⟩:=AM (c:=c') h';refine WV (Bv h) (Bv h') (k:=g*k/g') (div_pos (dx g0 hk) g0') fun p=>?_;rw[hg,hg',e];have:g*k/g'*g'=g*k:=by grind
 generalize g*k/g'=z at*;grind
def qi(p q:ah):aa:=dB (p.y-q.y) (q.x-p.x) (-((p.y-q.y)*p.x+(q.x-p.x)*p.y))
def kn(l:aa)(V:List ah):aa:=dB l.a l.b (l.c-kz l.nor V)
def Fg(h:l.ok): ¬((l.a:Rat)=0/\(l.b:Rat)=0):=fun⟨h1,h2⟩=>by
 have:=nE h.ne;unfold aa.nor ah.dot at this;dsimp only at this;rw[h1,h2] at this;grind
def Bb(c:List aa):List ah:=if(jB c).isEmpty then c.map aa.base else jB c
def lB(c:av)(f:ah×ah):Option aa:=(hH c (bG f)).map fun m=>dB (bG f).x (bG f).y (-(m+(bG f).dot f.1))
def iH(c:av)(V:List ah)(E:List (ah×ah)):List aa:=(c.map fun s=>kn s.l V)++E.filterMap (lB c)
def WH(hc:bF c)(hs:s∈c)(nl:s.v.nl=true)(nh:s.v.nh=true): ∀u∈c,u.l.nor.dot s.l.dir=0:=fun u hu=>by
 have h1:=Te hc hs nh u hu;have h2:=Wl hc hs nl u hu;grind
def aB2(hc:bF c)(hs:s∈c)(nl:s.v.nl=true)(nh:s.v.nh=true):jB (c.map (·.l))=[]:=by
 have hp:=WH hc hs nl nh;unfold jB;rw[aX,List.flatMap_eq_nil_iff];intro i hi;have hi:=jJ.1 hi;obtain⟨a,ha⟩: ∃s,c[i]? =some s:=⟨_,aQ hi⟩;obtain⟨b,hb⟩: ∃w,c[(i+1)%c.length]? =some w:=⟨_,aQ (dK _ we)⟩;have h1:=hp a (aK ha);have h2:=hp b (aK hb);rw[xz (l:=a.l) (m:=b.l) (by rw[bL,ha];rfl) (by rw[aX,bL,hb];rfl),if_neg];rw[mO];have hz:=nE (hc.ok s hs).ne;have e:(s.l.nor.dot s.l.nor)*a.l.dir.cross b.l.dir=(a.l.nor.dot s.l.dir)*(b.l.nor.dot s.l.nor)-(a.l.nor.dot s.l.nor)*(b.l.nor.dot s.l.dir):=by unfold ah.dot ah.cross aa.dir aa.nor;dsimp only;grind
 rw[h1,h2] at e;intro k;have:=dx hz k;grind
def UI(hc:bF c)(ha:f9 c)(hn: ¬(n.x=0/\n.y=0))(hf:hH c n=some m):kz n (Bb (c.map fun s=>s.l))=m/\Bb (c.map fun s=>s.l)≠[]:=by
 obtain⟨f1,f2⟩:=IM hc ha hn hf;have hf':=hf;unfold hH at hf';split at hf'
 .cases hf'
 rename_i k1;split at hf'
 .cases hf'
 rename_i k2
 cases hf'
 have k1:c.isEmpty=false/\uu n c=false:=by simpa using k1
 have k2: ∀s∈c,i5 n s=false:=fun s hs=>by
  cases q:i5 n s with
  |false=>rfl
  |true=>exact absurd (kZ.2 ⟨s,hs,q⟩) k2
 have hne:jm c≠[]:=by
  unfold jm
  cases c with
  |nil=>cases k1.1
  |cons s t=>simp
 obtain⟨l1,q0,hq0,l2⟩:=s8 (n:=n) hne;have e1: ∀s:bB,s.l.dir.dot n=n.dot s.l.dir:=fun s=>by unfold ah.dot;grind
 have f: ∀(s:bB) u,n.dot (s.l.at u)=n.dot (s.l.at 0)+u*n.dot s.l.dir:=fun s u=>by rw[Ms s.l u,zT]
 unfold Bb;by_cases hv:(jB (c.map fun s=>s.l)).isEmpty=true
 .rw[if_pos hv]
  have hv':jB (c.map fun s=>s.l)=[]:=List.isEmpty_iff.1 hv;have flat: ∀s∈c,n.dot s.l.dir=0/\n.dot s.l.base=n.dot (s.l.at s.v.sample):=fun s hs=>by
   have nl:s.v.nl=true:=by
    cases q:s.v.nl with
    |true=>rfl
    |false=>have:=Dn hc ha hs q;rw[hv'] at this;cases this
   have nh:s.v.nh=true:=by
    cases q:s.v.nh with
    |true=>rfl
    |false=>have:=AX hc ha hs q;rw[hv'] at this;cases this
   have ho:=k2 s hs;unfold i5 at ho;rw[nl,nh,mX,pR,pR,decide_eq_false_iff_not,decide_eq_false_iff_not,e1] at ho;have z:n.dot s.l.dir=0:=by rcases kt (n.dot s.l.dir) with k|k|k;exact k;exact absurd k ho.2;exact absurd k ho.1
   refine⟨z,?_⟩;rw[<-yU,zT,z];grind
  have hne2:(c.map fun s=>s.l).map aa.base≠[]:=by
   cases c with
   |nil=>cases k1.1
   |cons s t=>simp
  obtain⟨g1,p1,hp1,g2⟩:=s8 (n:=n) hne2;refine⟨?_,hne2⟩;obtain⟨l,hl,rfl⟩:=aU.1 hp1;obtain⟨s,hs,rfl⟩:=aU.1 hl;have a1:=l1 (s.l.at s.v.sample) (bM _ (fQ (f:=fun s:bB=>s.l.at s.v.sample) hs));rw[<-(flat s hs).2,<-g2] at a1;have a2:kz n ((c.map fun s=>s.l).map aa.base)<=kz n (jm c):=by
   unfold jm at hq0;rw[hv',gX] at hq0;obtain⟨w,hw,rfl⟩:=aU.1 hq0;rw[l2,<-(flat w hw).2];exact g1 _ (fQ (fQ (f:=fun s:bB=>s.l) hw))
  grind
 .rw[if_neg hv]
  have hne2:jB (c.map fun s=>s.l)≠[]:=fun e=>hv (by rw[e];rfl);obtain⟨g1,p1,hp1,g2⟩:=s8 (n:=n) hne2;refine⟨?_,hne2⟩;have a1:=l1 p1 (bU _ hp1);rw[<-g2] at a1
  -- the least value is one of a corner
  have a2: ∃v∈jB (c.map fun s=>s.l),n.dot v=kz n (jm c):=by
   unfold jm at hq0;rcases bX.1 hq0 with h|h
   .obtain⟨s,hs,rfl⟩:=aU.1 h
    have hi:=(hc.edge s hs).1;have hsm:=pn hi;have z:n.dot s.l.dir=0:=by
     rcases kt (n.dot s.l.dir) with k|k|k
     .exact k
     .exfalso
      have ho:=k2 s hs;unfold i5 at ho;rw[mX,e1] at ho;have nl:s.v.nl=false:=by
       cases q:s.v.nl with
       |false=>rfl
       |true=>rw[q,decide_eq_true k] at ho;exact absurd ho.2 omc
      have:=l1 _ (bU _ (Dn hc ha hs nl));have h1:=hsm.1.resolve_left (by rw[nl];simp);rw[l2,f s s.v.sample,f s s.v.lo] at this;have:=dx (show 0<s.v.sample-s.v.lo by grind) k;grind
     .exfalso
      have ho:=k2 s hs;unfold i5 at ho;rw[mX,e1] at ho;have nh:s.v.nh=false:=by
       cases q:s.v.nh with
       |false=>rfl
       |true=>rw[q,decide_eq_true k] at ho;exact absurd ho.1 omc
      have:=l1 _ (bU _ (AX hc ha hs nh));have h1:=hsm.2.resolve_left (by rw[nh];simp);rw[l2,f s s.v.sample,f s s.v.hi] at this;have:=dx (show 0<s.v.hi-s.v.sample by grind) (show 0< -(n.dot s.l.dir) by grind);grind
    cases nl:s.v.nl with
    |false=>exact⟨_,Dn hc ha hs nl,by rw[l2,f s s.v.lo,f s s.v.sample,z];grind⟩
    |true=>
     cases nh:s.v.nh with
     |false=>exact⟨_,AX hc ha hs nh,by rw[l2,f s s.v.hi,f s s.v.sample,z];grind⟩
     |true=>exact absurd (aB2 hc hs nl nh) hne2
   .exact⟨q0,h,l2.symm⟩
  obtain⟨v,hv2,e⟩:=a2;have:=g1 v hv2;grind
section
end
def mC:List aa->Tr
 |[]=> .leaf true
 |l::t=> .node l (mC t) (.leaf false)
def MN: ∀{L:List aa},(mC L).lns=L
 |[]=>rfl
 |l::t=>by rw[mC,Tr.lns,MN,Tr.lns,gX]
def xt(h: ∀l∈L,P l):(mC L).all P:=uP.2 (by rw[MN];exact h)
def Ix: ∀(L:List aa),(mC L).depth=L.length
 |[]=>rfl
 |l::t=>by rw[mC,Tr.depth,Ix t,bZ];show 1+max _ 0=_;omega
def Sg: ∀(L:List aa),(mC L).size=L.length
 |[]=>rfl
 |l::t=>by rw[mC,Tr.size,Sg t,bZ];show 1+_+0=_;omega
def DI: ∀{ls:List aa} {c e:av},bF c->f9 c->(∀l∈ls,l.ok)->eO ls c=some e->f9 e
 |[],c,e,_,ha,_,h=>by
  obtain rfl:c=e:=by simpa[eO] using h
  exact ha
 |l::t,c,e,hc,ha,hl,h=>by
  have hl':=dR.1 hl;rw[eO] at h;split at h
  .rename_i hb
   exact DI (gO hc hl'.1 hb).1 (Gr hc hl'.1 ha hb) hl'.2 h
  .exact absurd h omc
def lu.nz{E:List (ah×ah)}(hB:lu V E){f:ah×ah}(hf:f∈E): ¬((bG f).x=0/\(bG f).y=0):=by
 obtain⟨u,hu⟩:=hB.cen;exact So (hu f hf)
def lu.vne{E:List (ah×ah)}(hB:lu V E):V≠[]:=by
 obtain⟨u,hu⟩:=hB.cen;obtain⟨v,hv,_⟩:=hB.hull ⟨0,0⟩ u fun f hf=>dX (hu f hf);exact List.ne_nil_of_mem hv
def vA(hl:l.ok)(V:List ah):(kn l V).ok/\ ∃g:Rat,0<g/\ ∀p,(kn l V).value p=g*(l.value p-kz l.nor V):=by
 refine⟨Bv (Fg hl),?_⟩;obtain⟨g,g0,hg⟩:=AM (c:=l.c-kz l.nor V) (Fg hl);refine⟨g,g0,fun p=>?_⟩;unfold kn;rw[hg,Ge];unfold aa.nor ah.dot;dsimp only;grind
def yz{f:ah×ah}(hn: ¬((bG f).x=0/\(bG f).y=0))(h:lB c f=some l): ∃m,hH c (bG f)=some m/\l.ok/\ ∃g:Rat,0<g/\ ∀p,l.value p=g*((bG f).dot p-m-(bG f).dot f.1):=by
 unfold lB at h
 cases hf:hH c (bG f) with
 |none=>rw[hf] at h;cases h
 |some m=>
  rw[hf] at h
  cases h
  refine⟨m,J,Bv hn,?_⟩;obtain⟨g,g0,hg⟩:=AM (c:= -(m+(bG f).dot f.1)) hn;refine⟨g,g0,fun p=>?_⟩;rw[hg];unfold ah.dot;grind
def az7{E:List (ah×ah)}(hB:lu V E)(hc:bF c): ∀l∈iH c V E,l.ok:=fun l hl=>by
 rcases bX.1 hl with hl|hl
 .obtain⟨s,hs,rfl⟩:=aU.1 hl
  exact(vA (hc.ok s hs) V).1
 .obtain⟨f,hf,e⟩:=gV.1 hl
  obtain⟨_,_,h,_⟩:=yz (hB.nz hf) e;exact h
def au1{E:List (ah×ah)}(hB:lu V E)(hc:bF c)(ha:f9 c)(p:ah):gq (iH c V E) p↔ ∃q,bA c q/\ ∀f∈E,0<ck f.1 f.2 (p.subQ q):=by
 constructor
 .intro h
  refine aGU hB hc (fun s hs=>?_) fun f hf ⟨M,hM⟩=>?_
  .obtain⟨h1,v,hv,h2⟩:=s8 (n:=s.l.nor) hB.vne
   refine⟨v,hv,fun w hw=>by rw[<-h2];exact h1 w hw,?_⟩;obtain⟨_,g,g0,hg⟩:=vA (hc.ok s hs) V;have:=h _ (bM _ (fQ (f:=fun s:bB=>kn s.l V) hs));rw[hg] at this;rw[<-h2];exact(Ak g0).1 this
  .cases hfl:hH c (bG f) with
   |none=>
    obtain⟨q,hq,hlt⟩:=auF hc (hB.nz hf) hfl M;have:=hM q hq;grind
   |some m=>
    obtain⟨_,q,hq,e⟩:=IM hc ha (hB.nz hf) hfl;refine⟨q,hq,?_⟩;have he:lB c f=some (dB (bG f).x (bG f).y (-(m+(bG f).dot f.1))):=by unfold lB;rw[hfl];rfl
    obtain⟨m',k1,_,g,g0,hg⟩:=yz (hB.nz hf) he;rw[hfl] at k1;cases k1;have:=h _ (bU _ (gV.2 ⟨f,hf,he⟩));rw[hg] at this;rw[e];exact(Ak g0).1 this
 .rintro ⟨q,hq,hu⟩ l hl
  have hdp: ∀n:ah,n.dot p=n.dot q+n.dot (p.subQ q):=fun n=>by rw[Da];grind
  rcases bX.1 hl with hl|hl
  .obtain⟨s,hs,rfl⟩:=aU.1 hl
   obtain⟨_,g,g0,hg⟩:=vA (hc.ok s hs) V;rw[hg,Ak g0];have h1:=aBg hB (c:=c) (q:=q) (u:=p.subQ q) (fun f hf=>dX (hu f hf)) (s8 (n:=s.l.nor) hB.vne).1;have h2:=hq s hs;rw[Ge] at h2⊢;rw[hdp];grind
  .obtain⟨f,hf,e⟩:=gV.1 hl
   obtain⟨m,k1,_,g,g0,hg⟩:=yz (hB.nz hf) e;rw[hg,Ak g0,hdp];have h1:=hu f hf;rw[Kz] at h1;have h2:=(IM hc ha (hB.nz hf) k1).1 q hq.c;grind
def aBI{E:List (ah×ah)}(hB:lu V E)(hc:bF c)(ha:f9 c): ∃p,gq (iH c V E) p:=by
 obtain⟨q,hq⟩:=hc.ne;obtain⟨u,hu⟩:=hB.cen;refine⟨q.add u,(au1 hB hc ha _).2 ⟨q,hq,fun f hf=>?_⟩⟩;have e:(q.add u).subQ q=u:=by unfold ah.subQ ah.add;cases u;simp only[ah.mk.injEq];constructor<;>grind
 rw[e];exact hu f hf
def P1{E:List (ah×ah)}(hB:lu V E)(hc:bF c)(ha:f9 c): ∃d,eO (iH c V E) []=some d/\bF d/\f9 d/\(∀p,bA d p↔gq (iH c V E) p)/\im (iH c V E)=d.map (·.l):=by
 have hok:=az7 hB hc;obtain⟨p,hp⟩:=aBI hB hc ha;obtain⟨d,hd⟩:=Hh bF.nil hok ⟨p,fun s hs=>absurd hs omc,hp⟩;obtain⟨g1,g2⟩:=AH bF.nil hok hd;have g2: ∀p,bA d p↔gq (iH c V E) p:=fun p=>by
  rw[g2];exact⟨fun h=>h.2,fun h=>⟨fun s hs=>absurd hs omc,h⟩⟩
 have g3:=DI bF.nil .nil hok hd;exact⟨d,hd,g1,g3,g2,JA hok g1 g3 g2⟩
def nn(V:List ah)(E:List (ah×ah))(c:av):Tr:=mC (im (iH c V E))
def aGN{E:List (ah×ah)}(hB:lu V E)(hc:bF c)(ha:f9 c):(nn V E c).all aa.ok:=by
 obtain⟨d,_,g1,_,_,e⟩:=P1 hB hc ha;unfold nn;rw[e];exact xt fun l hl=>by obtain⟨s,hs,rfl⟩:=aU.1 hl;exact g1.ok s hs
def HT{P:ah×ah->Prop}{f:ah×ah}{x y z w:ah×ah}(hf:f∈[x,y,z,w])(h1:P x)(h2:P y)(h3:P z)(h4:P w):P f:=by
 simp only[aW,fK,or_false] at hf;rcases hf with rfl|rfl|rfl|rfl<;>assumption
def ZM{c:Rat}(h1:a<c)(h2:b<d):lu [⟨a,b⟩,⟨c,b⟩,⟨c,d⟩,⟨a,d⟩] [(⟨a,b⟩,⟨c,b⟩),(⟨c,b⟩,⟨c,d⟩),(⟨c,d⟩,⟨a,d⟩),(⟨a,d⟩,⟨a,b⟩)] where
 ends:=fun f hf=>HT (P:=fun f=>f.1∈[(⟨a,b⟩:ah),⟨c,b⟩,⟨c,d⟩,⟨a,d⟩]/\f.2∈[(⟨a,b⟩:ah),⟨c,b⟩,⟨c,d⟩,⟨a,d⟩]) hf omc omc omc omc
 cvx:=fun f hf v hv=>by
  have k:=dx (show 0<c-a by grind) (show 0<d-b by grind);simp only[aW,fK,or_false] at hv;refine HT (P:=fun f=>0<=ck f.1 f.2 v) hf ?_ ?_ ?_ ?_<;>dsimp only<;>rcases hv with rfl|rfl|rfl|rfl<;>unfold ck<;>dsimp only<;>grind
 cen:=⟨⟨(a+c)/2,(b+d)/2⟩,fun f hf=>by
  have k:=dx (show 0<c-a by grind) (show 0<d-b by grind);refine HT (P:=fun f=>0<ck f.1 f.2 ⟨(a+c)/2,(b+d)/2⟩) hf ?_ ?_ ?_ ?_<;>dsimp only<;>unfold ck<;>dsimp only<;>grind⟩
 hull:=fun n u hu=>by
  have k1:=hu (⟨a,b⟩,⟨c,b⟩) omc;have k2:=hu (⟨c,b⟩,⟨c,d⟩) omc;have k3:=hu (⟨c,d⟩,⟨a,d⟩) omc;have k4:=hu (⟨a,d⟩,⟨a,b⟩) omc;unfold ck at k1 k2 k3 k4;dsimp only at k1 k2 k3 k4;have y1:0<=u.y-b:=(iw (k:=c-a) omb).1 omb;have y2:0<=d-u.y:=(iw (k:=c-a) omb).1 omb;have x1:0<=u.x-a:=(iw (k:=d-b) omb).1 omb;have x2:0<=c-u.x:=(iw (k:=d-b) omb).1 omb;by_cases hx:0<=n.x<;>by_cases hy:0<=n.y
  .refine⟨⟨a,b⟩,omc,?_⟩
   have:=dh hx x1;have:=dh hy y1;unfold ah.dot;dsimp only;grind
  .refine⟨⟨a,d⟩,omc,?_⟩
   have:=dh hx x1;have:=dh (show 0<= -n.y by grind) y2;unfold ah.dot;dsimp only;grind
  .refine⟨⟨c,b⟩,omc,?_⟩
   have:=dh (show 0<= -n.x by grind) x2;have:=dh hy y1;unfold ah.dot;dsimp only;grind
  .refine⟨⟨c,d⟩,omc,?_⟩
   have:=dh (show 0<= -n.x by grind) x2;have:=dh (show 0<= -n.y by grind) y2;unfold ah.dot;dsimp only;grind
def GI(V:List ah)(E:List (ah×ah))(cs:List av)(t:Tr):Tr:=cs.foldl (fun t c=>t.mergeQ 1 (nn V E c) []) t
def qt(V:List ah)(E:List (ah×ah))(t:Tr):Tr:=GI V E (dE (t.restrict [])) (.leaf false)
def B7(ht:t.all aa.ok): ∀c∈dE (t.restrict []),bF c/\f9 c:=fun c hc=>⟨aqX (t.restrict_all _ [] ht) c hc,KY (t.restrict_all _ [] ht) bF.nil (show f9 [] from .nil) _ (vR.1 hc)⟩
section
end
section
end
def Tr.Prp:Tr->av->Prop
 | .leaf _,_=>True
 | .node l x y,c=>cx c l=true/\cx c l.rev=true/\x.Prp (bE c l)/\y.Prp (bE c l.rev)
def Tr.red_prp: ∀{t:Tr} {c:av},t.Red c->t.Prp c
 | .leaf _,_,_=>trivial
 | .node _ _ _,_,⟨h1,h2,h3,h4,_⟩=>⟨h1,h2,Tr.red_prp h3,Tr.red_prp h4⟩
def aun(hc:bF c)(hl:l.ok)(hp:bA c p)(h0:l.value p=0):cx c l=true/\cx c l.rev=true:=by
 have hn:=nE hl.ne;obtain⟨e,he,hm⟩:=hp.open l.nor;obtain⟨f,hf,hk⟩:=hp.open (fH l.nor);have hn2:l.nor.dot (fH l.nor)= -(l.nor.dot l.nor):=by unfold fH ah.dot;dsimp only;grind
 refine⟨(qF hc hl).2 ⟨_,hm e omb omb,?_⟩,(qF hc hl.rev).2 ⟨_,hk f omb omb,?_⟩⟩
 .rw[jD,h0];have:=dx he hn;grind
 .rw[fA,jD,h0,hn2];have:=dx hf hn;grind
def mB(c:av)(m:aa):Bool:=cx c m&&cx c m.rev
def pe(hc:bF c){m:aa}(hm:m.ok):mB c m=true↔Dh m c:=by
 unfold mB;rw[bW];constructor
 .rintro ⟨h1,h2⟩
  obtain⟨p,hp,k1⟩:=(qF hc hm).1 h1;obtain⟨q,hq,k2⟩:=(qF hc hm.rev).1 h2;rw[fA] at k2;generalize hA:m.value p=A at*;generalize hB:m.value q=B at*;have hAB:0<A-B:=by grind
  have e:A/(A-B)*(A-B)=A:=by grind
  generalize A/(A-B)=r at*;have r0:0<=r:=(iw hAB).1 (by rw[e];exact dX k1);have r1:r<=1:=by
   have:=(iw (s:=1-r) hAB).1 omb;grind
  exact⟨kD p q r,hp.seg hq r0 r1,by rw[lH,hA,hB];grind⟩
 .rintro ⟨p,hp,h0⟩
  exact aun hc hm hp h0
def xB(c:av)(m n:aa):Bool:=decide (¬m.same n)&&(decide (n.value (yr m n)=0)&&rH c (yr m n))
def q6{m n:aa}(hm:m.ok)(hn:n.ok):xB c m n=true↔ ¬m.same n/\ ∃z,bA c z/\m.value z=0/\n.value z=0:=by
 unfold xB;rw[bW,bW,decide_eq_true_eq,decide_eq_true_eq,so];constructor
 .rintro ⟨h1,h2,h3⟩
  exact⟨h1,_,h3,mn hm.ne _,h2⟩
 .rintro ⟨h1,z,hz,k1,k2⟩
  rcases F' hm hn k1 k2 with h|h
  .exact absurd h h1
  .rw[<-h];exact⟨h1,k2,hz⟩
def K8{m n:aa}(hm:m.ok)(hn:n.ok):xB c m n=xB c n m:=by
 rw[rZ,q6 hm hn,q6 hn hm];constructor<;>(rintro ⟨h,z,hz,k1,k2⟩;exact⟨fun e=>h e.symm,z,hz,k2,k1⟩)
def iC(f:aa->Nat):List aa->Nat
 |[]=>0
 |m::K=>f m+iC f K
def bN(b:Bool):Nat:=if b then 1 else 0
def Pg{f g:aa->Nat}: ∀{K:List aa},(∀m∈K,f m<=g m)->iC f K<=iC g K
 |[],_=>bJ _
 |m::K,h=>by
  have:=Pg (f:=f) (g:=g) (K:=K) fun n hn=>h n (aJ _ hn);have:=h m aZ;show f m+iC f K<=g m+iC g K;omega
def y5(f g:aa->Nat): ∀K,iC (fun m=>f m+g m) K=iC f K+iC g K
 |[]=>rfl
 |m::K=>by
  have:=y5 f g K;show f m+g m+iC (fun m=>f m+g m) K=f m+iC f K+(g m+iC g K);omega
def yM{f g:aa->Nat}{d:Nat}{m0:aa}: ∀{K:List aa},(∀m∈K,f m<=g m)->m0∈K->f m0+d<=g m0->iC f K+d<=iC g K
 |[],_,h,_=>by cases h
 |m::K,h,hm,hd=>by
  have i1:=Pg (f:=f) (g:=g) (K:=K) fun n hn=>h n (aJ _ hn);have:=h m aZ;show f m+iC f K+d<=g m+iC g K;rcases aW.1 hm with rfl|hm
  .omega
  .have:=yM (f:=f) (g:=g) (d:=d) (K:=K) (fun n hn=>h n (aJ _ hn)) hm hd
   omega
def z8{f:aa->Nat}{B:Nat}: ∀{K:List aa},(∀m∈K,f m<=B)->iC f K<=K.length*B
 |[],_=>aS _
 |m::K,h=>by
  have:=z8 (f:=f) (B:=B) (K:=K) fun n hn=>h n (aJ _ hn);have:=h m aZ;show f m+iC f K<=(K.length+1)*B;rw[gQ];omega
def qE(K:List aa)(c:av):Nat:=iC (fun m=>bN (mB c m)) K
def kl(K:List aa)(c:av)(m:aa):Nat:=iC (fun n=>bN (xB c m n)) K
def zJ(K:List aa)(c:av):Nat:=iC (kl K c) K
def KF(b:Bool):bN b<=1:=by cases b<;>decide
def V0(hK: ∀m∈K,m.ok)(hc:bF c){n:aa}(hn:n.ok)(h0:m0∈K)(hs:m0.same n)(hb:cx c n=true)(hb2:cx c n.rev=true):
  qE K (bE c n)+qE K (bE c n.rev)+1<=qE K c+kl K c m0/\zJ K (bE c n)+zJ K (bE c n.rev)+2*kl K c m0<=zJ K c:=by
 obtain⟨g1,i1⟩:=gO hc hn hb;obtain⟨g2,i2⟩:=gO hc hn.rev hb2;have i2: ∀p,bA (bE c n.rev) p↔bA c p/\n.value p<0:=fun p=>by rw[i2,fA];constructor<;>(rintro ⟨a,b⟩;exact⟨a,omb⟩)
 have hm0:=hK m0 h0;have z1: ∀m,m.ok->(mB (bE c n) m=true->mB c m=true)/\(mB (bE c n.rev) m=true->mB c m=true):=fun m hm=>by
  rw[pe g1 hm,pe g2 hm,pe hc hm];exact⟨fun⟨p,hp,k⟩=>⟨p,((i1 p).1 hp).1,k⟩,fun⟨p,hp,k⟩=>⟨p,((i2 p).1 hp).1,k⟩⟩
 have z2: ∀m,m.ok->mB (bE c n) m=true->mB (bE c n.rev) m=true->xB c m0 m=true:=fun m hm h1 h2=>by
  obtain⟨p,hp,k1⟩:=(pe g1 hm).1 h1;obtain⟨q,hq,k2⟩:=(pe g2 hm).1 h2;obtain⟨hp,ap⟩:=(i1 p).1 hp;obtain⟨hq,aq⟩:=(i2 q).1 hq;rw[q6 hm0 hm];refine⟨fun e=>?_,?_⟩
  .rw[oG hs (oG e.symm k1)] at ap;grind
  generalize hA:n.value p=A at*;generalize hB:n.value q=B at*;have hAB:0<A-B:=by grind
  have e:A/(A-B)*(A-B)=A:=by grind
  generalize A/(A-B)=r at*;have r0:0<=r:=(iw hAB).1 (by rw[e];exact dX ap);have r1:r<=1:=by
   have:=(iw (s:=1-r) hAB).1 omb;grind
  exact⟨kD p q r,hp.seg hq r0 r1,oG hs.symm (by rw[lH,hA,hB];grind),by rw[lH,k1,k2];grind⟩
 have w1: ∀m m',m.ok->m'.ok->xB (bE c n) m m'=true->xB c m m'=true/\ ¬xB (bE c n.rev) m m'=true:=fun m m' hm hm' h=>by
  rw[q6 hm hm'] at h;obtain⟨e,z,hz,k1,k2⟩:=h;obtain⟨hz,az⟩:=(i1 z).1 hz;refine⟨(q6 hm hm').2 ⟨e,z,hz,k1,k2⟩,fun h=>?_⟩;obtain⟨_,y,hy,j1,j2⟩:=(q6 hm hm').1 h;obtain⟨hy,ay⟩:=(i2 y).1 hy;rcases F' hm hm' k1 k2 with h|h
  .exact e h
  .rcases F' hm hm' j1 j2 with h'|h'
   .exact e h'
   .rw[h'] at ay;rw[h] at az;grind
 have w2: ∀m m',m.ok->m'.ok->xB (bE c n.rev) m m'=true->xB c m m'=true:=fun m m' hm hm' h=>by
  rw[q6 hm hm'] at h⊢;obtain⟨e,z,hz,k1,k2⟩:=h;exact⟨e,z,((i2 z).1 hz).1,k1,k2⟩
 have w3: ∀m,m.ok->xB (bE c n) m m0=false/\xB (bE c n.rev) m m0=false:=fun m hm=>by
  constructor
  .rw[<-kX,q6 hm hm0]
   rintro ⟨_,z,hz,_,k2⟩;have:=((i1 z).1 hz).2;rw[oG hs k2] at this;grind
  .rw[<-kX,q6 hm hm0]
   rintro ⟨_,z,hz,_,k2⟩;have:=((i2 z).1 hz).2;rw[oG hs k2] at this;grind
 have hmm: ∀d,xB d m0 m0=false:=fun d=>by
  rw[<-kX,q6 hm0 hm0];rintro ⟨h,_⟩;exact h (.inl rfl)
 have n1: ∀d:av,bF d->(∀p,bA d p->n.value p≠0)->mB d m0=false:=fun d hd h=>by
  rw[<-kX,pe hd hm0];rintro ⟨p,hp,k⟩;exact h p hp (oG hs k)
 have n2:mB c m0=true:=by
  rw[pe hc hm0];obtain⟨p,hp,k⟩:=(pe hc hn).1 (by unfold mB;rw[hb,hb2];rfl);exact⟨p,hp,oG hs.symm k⟩
 constructor
 .unfold qE kl
  rw[<-y5,<-y5];refine yM (m0:=m0) (d:=1) (fun m hm=>?_) h0 ?_
  .have hmk:=hK m hm
   obtain⟨a1,a2⟩:=z1 m hmk;have a3:=z2 m hmk
   try dsimp only
   cases e1:mB (bE c n) m<;>cases e2:mB (bE c n.rev) m<;>simp only[e1,e2,forall_const,reduceCtorEq,false_implies] at a1 a2 a3<;>simp_all [bN]
  .try dsimp only
   rw[n1 _ g1 (fun p hp=>by have:=((i1 p).1 hp).2;grind),n1 _ g2 (fun p hp=>by have:=((i2 p).1 hp).2;grind),n2,hmm];decide
 .have row: ∀m∈K,kl K (bE c n) m+kl K (bE c n.rev) m+bN (xB c m m0)<=kl K c m:=fun m hm=>by
   have hmk:=hK m hm;unfold kl;rw[<-y5];refine yM (m0:=m0) (d:=bN (xB c m m0)) (fun m' hm'=>?_) h0 ?_
   .have hmk':=hK m' hm'
    have b1:=w1 m m' hmk hmk';have b2:=w2 m m' hmk hmk'
    try dsimp only
    cases e1:xB (bE c n) m m'<;>cases e2:xB (bE c n.rev) m m'<;>simp_all [bN]
   .obtain⟨c1,c2⟩:=w3 m hmk
    try dsimp only
    rw[c1,c2];simp[bN]
  have r0:kl K (bE c n) m0=0/\kl K (bE c n.rev) m0=0:=by
   have z: ∀d,(∀m∈K,xB d m0 m=false)->kl K d m0=0:=fun d h=>by
    have:=z8 (f:=fun m=>bN (xB d m0 m)) (B:=0) (K:=K) fun m hm=>by rw[h m hm];decide
    unfold kl;omega
   exact⟨z _ fun m hm=>by rw[K8 hm0 (hK m hm)];exact(w3 m (hK m hm)).1,z _ fun m hm=>by rw[K8 hm0 (hK m hm)];exact(w3 m (hK m hm)).2⟩
  have cs:iC (fun m=>bN (xB c m m0)) K=kl K c m0:=by
   unfold kl;have key: ∀Jv:List aa,(∀m∈Jv,m.ok)->iC (fun m=>bN (xB c m m0)) Jv=iC (fun m=>bN (xB c m0 m)) Jv:=fun Jv=>by
    induction Jv with
    |nil=>intro _;rfl
    |cons a Jv ih=>
     intro h;show bN (xB c a m0)+_=bN (xB c m0 a)+_;rw[ih fun m hm=>h m (aJ _ hm),K8 (h a aZ) hm0]
   exact key K hK
  have:=yM (f:=fun m=>kl K (bE c n) m+kl K (bE c n.rev) m+bN (xB c m m0)) (g:=kl K c) (d:=kl K c m0) (m0:=m0) row h0 (by rw[r0.1,r0.2,hmm];simp[bN]);rw[y5,y5,cs] at this;unfold zJ;omega
def Ik{K:List aa}(hK: ∀m∈K,m.ok): ∀{t:Tr} {c:av},t.Prp c->t.all aa.ok->bF c->gi K t->2*t.size<=2*qE K c+zJ K c
 | .leaf _,_,_,_,_,_=>aS _
 | .node n x y,c,⟨h1,h2,h3,h4⟩,⟨hn,hx,hy⟩,hc,⟨⟨m0,hm0,hs⟩,kx,ky⟩=>by
  obtain⟨g1,_⟩:=gO hc hn h1;obtain⟨g2,_⟩:=gO hc hn.rev h2;have a:=Ik hK h3 hx g1 kx;have b:=Ik hK h4 hy g2 ky;obtain⟨d1,d2⟩:=V0 hK hc hn hm0 hs h1 h2;rw[Tr.size];omega
def Mi(hK: ∀m∈K,m.ok)(h:t.Prp c)(ht:t.all aa.ok)(hc:bF c)(hA:gi K t):2*t.size<=K.length*(K.length+1):=by
 have h1:=Ik hK h ht hc hA;have h2:qE K c<=K.length*1:=z8 fun m _=>KF _;have h3:zJ K c<=K.length*(K.length-1):=z8 fun m hm=>by
  have:=yM (f:=fun n=>bN (xB c m n)) (g:=fun _=>1) (d:=1) (m0:=m) (K:=K) (fun n _=>KF _) hm (by
   have:xB c m m=false:=by rw[<-kX,q6 (hK m hm) (hK m hm)];rintro ⟨h,_⟩;exact h (.inl rfl)
   rw[this];decide)
  have l1:iC (fun _=>1) K<=K.length*1:=z8 fun _ _=>bJ _;unfold kl;omega
 have:K.length*(K.length+1)=K.length*(K.length-1)+2*K.length:=by
  cases K.length with
  |zero=>rfl
  |succ k=>rw[Nat.succ_sub_one,Nat.mul_succ,Nat.mul_succ,gQ];omega
 omega
def I1{K:List aa}(hK: ∀m∈K,m.ok): ∀{t:Tr} {c:av},t.Prp c->t.all aa.ok->bF c->gi K t->t.depth<=qE K c
 | .leaf _,_,_,_,_,_=>aS _
 | .node n x y,c,⟨h1,h2,h3,h4⟩,⟨hn,hx,hy⟩,hc,⟨⟨m0,hm0,hs⟩,kx,ky⟩=>by
  obtain⟨g1,i1⟩:=gO hc hn h1;obtain⟨g2,i2⟩:=gO hc hn.rev h2;have a:=I1 hK h3 hx g1 kx;have b:=I1 hK h4 hy g2 ky;have hm0k:=hK m0 hm0;have n2:mB c m0=true:=by
   rw[pe hc hm0k];obtain⟨p,hp,k⟩:=(pe hc hn).1 (by unfold mB;rw[h1,h2];rfl);exact⟨p,hp,oG hs.symm k⟩
  have key: ∀d:av,bF d->(∀p,bA d p->bA c p/\n.value p≠0)->qE K d+1<=qE K c:=fun d hd h=>by
   unfold qE;refine yM (m0:=m0) (d:=1) (fun m hm=>?_) hm0 ?_
   .have hmk:=hK m hm
    cases e1:mB d m with
    |false=>exact aS _
    |true=>
     obtain⟨p,hp,k⟩:=(pe hd hmk).1 e1;rw[(pe hc hmk).2 ⟨p,(h p hp).1,k⟩];exact bJ _
   .have e1:mB d m0=false:=by
     rw[<-kX,pe hd hm0k];rintro ⟨p,hp,k⟩;exact(h p hp).2 (oG hs k)
    try dsimp only
    rw[e1,n2];decide
  have d1:=key _ g1 fun p hp=>⟨((i1 p).1 hp).1,by have:=((i1 p).1 hp).2;grind⟩;have d2:=key _ g2 fun p hp=>⟨((i2 p).1 hp).1,by have:=((i2 p).1 hp).2;rw[fA] at this;grind⟩;show 1+max _ _<=_;omega
def W6(hK: ∀m∈K,m.ok)(h:t.Prp c)(ht:t.all aa.ok)(hc:bF c)(hA:gi K t):t.depth<=K.length:=by
 have h1:=I1 hK h ht hc hA;have h2:qE K c<=K.length*1:=z8 fun m _=>KF _;omega
structure sB (K:List aa) (t:Tr):Prop where
 ok:t.all aa.ok
 am:gi K t
 rd:t.Red []
def sB.size{K:List aa}(hK: ∀m∈K,m.ok){t:Tr}(h:sB K t):2*t.size<=K.length*(K.length+1)/\t.depth<=K.length:=
 ⟨Mi hK (Tr.red_prp h.rd) h.ok bF.nil h.am,W6 hK (Tr.red_prp h.rd) h.ok bF.nil h.am⟩
def sB.merge{K:List aa}{op:Int}{t u:Tr}(h:sB K t)(hu:u.all aa.ok)(hA:gi K u):sB K (t.mergeQ op u []):=
 ⟨Tr.mergeQ_all aa.ok op hu t [] h.ok,h.am.merge hA [],Tr.merge_red op u t []⟩
def sB.lim(hK: ∀m∈K,m.ok)(hn:K.length<=361){u:Tr}(h:sB K t)(hu:u.all aa.ok)(hA:gi K u)(hd:u.depth<=600):nI op t u=some (t.mergeQ op u []):=by
 obtain⟨a1,a2⟩:=h.size hK;obtain⟨b1,_⟩:=(h.merge (op:=op) hu hA).size hK;have:K.length*(K.length+1)<=361*362:=fU hn we;exact awF (op:=op) (a:=t) (b:=u) we we
def HX{K:List aa}(hK: ∀m∈K,m.ok)(hn:K.length<=361){op:Int}: ∀{us:List Tr} {t:Tr},(∀u∈us,u.all aa.ok/\gi K u/\u.depth<=600)->sB K t->mE op t us=some (us.foldl (fun t u=>t.mergeQ op u []) t)/\sB K (us.foldl (fun t u=>t.mergeQ op u []) t)
 |[],t,_,ht=>⟨J,ht⟩
 |u::us,t,h,ht=>by
  obtain⟨h1,h2,h3⟩:=h u aZ;obtain⟨i1,i2⟩:=HX hK hn (op:=op) (us:=us) (fun v hv=>h v (aJ _ hv)) (ht.merge (op:=op) h1 h2);refine⟨?_,i2⟩;rw[mE,ht.lim hK hn h1 h2 h3];exact i1
def n0(V:List ah)(E:List (ah×ah))(K:List aa)(cs:List av):List aa:=(K.flatMap fun l=>[kn l V,kn l.rev V])++cs.flatMap fun c=>E.filterMap (lB c)
def Lo{α β:Type}{f:α->List β}{n:Nat}: ∀{l:List α},(∀x∈l,(f x).length<=n)->(l.flatMap f).length<=l.length*n
 |[],_=>by simp
 |x::l,h=>by
  have:=Lo (f:=f) (n:=n) (l:=l) fun y hy=>h y (aJ _ hy);have:=h x aZ;rw[kJ,aY,bZ,gQ];omega
def Uc{E:List (ah×ah)}{cs:List av}:(n0 V E K cs).length<=K.length*2+cs.length*E.length:=by
 unfold n0;rw[aY];have h1:=Lo (f:=fun l=>[kn l V,kn l.rev V]) (n:=2) (l:=K) fun x _=>bJ _;have h2:=Lo (f:=fun c=>E.filterMap (lB c)) (n:=E.length) (l:=cs) fun x _=>jT _ _;omega
def IB{E:List (ah×ah)}(hB:lu V E)(hK: ∀l∈K,l.ok){cs:List av}: ∀l∈n0 V E K cs,l.ok:=fun l hl=>by
 rcases bX.1 hl with h|h
 .obtain⟨k,hk,h⟩:=iR.1 h
  simp only[aW,fK,or_false] at h;rcases h with rfl|rfl
  .exact(vA (hK k hk) V).1
  .exact(vA (hK k hk).rev V).1
 .obtain⟨c,_,h⟩:=iR.1 h
  obtain⟨f,hf,h⟩:=gV.1 h;obtain⟨_,_,h1,_⟩:=yz (hB.nz hf) h;exact h1
def MG{E:List (ah×ah)}{cs:List av}(hc:c∈cs)(hs: ∀s∈c,∃m∈K,m.same s.l): ∀l∈iH c V E,l∈n0 V E K cs:=fun l hl=>by
 unfold iH at hl;rcases bX.1 hl with h|h
 .obtain⟨s,hs',rfl⟩:=aU.1 h
  obtain⟨m,hm,k⟩:=hs s hs';refine bM _ (iR.2 ⟨m,hm,?_⟩);rcases k with k|k<;>rw[k]<;>simp
 .exact bU _ (iR.2 ⟨c,hc,h⟩)
def JK: ∀l∈im L,l∈L:=fun _ h=>(uF.1 h).1
def OX{E:List (ah×ah)}(h: ∀l∈iH c V E,P l):(nn V E c).all P:=xt fun l hl=>h l (JK l hl)
def Ts{E:List (ah×ah)}:(iH c V E).length<=c.length+E.length:=by
 unfold iH;rw[aY,aX];have:=jT (lB c) E;omega
def V2{E:List (ah×ah)}:(nn V E c).depth<=c.length+E.length:=by
 unfold nn;rw[Ix];exact cN (EF _) Ts
def Um(hA:gi K t)(hc:c∈dE t): ∀s∈c,∃m∈K,m.same s.l:=
 zP (P:=fun l=> ∃m∈K,m.same l) (fun l ⟨m,hm,h⟩=>⟨m,hm,h.trans (.inr J)⟩) hA (fun s hs=>by cases hs) (vR.1 hc)
def aGz{E:List (ah×ah)}(hB:lu V E)(ht:t.all aa.ok)(hK: ∀l∈K,l.ok)(hA:gi K t)(hs: ∀c∈dE (t.restrict []),c.length+E.length<=600)(hn:(n0 V E K (dE (t.restrict []))).length<=361):
  mE 1 (Tr.leaf false) ((dE (t.restrict [])).map (nn V E))=some (qt V E t)/\sB (n0 V E K (dE (t.restrict []))) (qt V E t):=by
 have h:=HX (K:=n0 V E K (dE (t.restrict []))) (IB hB hK) hn (op:=1) (us:=(dE (t.restrict [])).map (nn V E)) (t:= .leaf false) (fun u hu=>by
  obtain⟨c,hc,rfl⟩:=aU.1 hu;obtain⟨g1,g2⟩:=B7 ht c hc;exact⟨aGN hB g1 g2,OX fun l hl=>⟨l,MG hc (Um (hA.restrict []) hc) l hl, .inl J⟩,cN V2 (hs c hc)⟩) ⟨trivial,trivial,trivial⟩
 rw[List.foldl_map] at h;exact h
def ZB(p:ah):Prop:= ∃m n:Int,p=iP m n/\m.natAbs<=8/\n.natAbs<=8
def QD(k:Nat)(q:ah):Prop:= ∃(D:Nat) (X Y:Int),0<D/\D<=2^k/\X.natAbs<=2^k/\Y.natAbs<=2^k/\q.x*((D:Int):Rat)=(X:Rat)/\q.y*((D:Int):Rat)=(Y:Rat)
def GU(x y z:Int):dB (x:Rat) (y:Rat) (z:Rat)=nH x y z:=by
 unfold dB;simp only[jN,kY];simp
def l7{a b:Int}(ha:a.natAbs<=A)(hb:b.natAbs<=B):(a*b).natAbs<=A*B:=by
 rw[eY];exact fU ha hb
def HW{a b c d:Int}(ha:a.natAbs<2^k)(hb:b.natAbs<2^k)(hc:c.natAbs<2^k)(hd:d.natAbs<2^k):(a*b-c*d).natAbs<=2^(2*k+1):=by
 have h1:=l7 (fR ha) (fR hb);have h2:=l7 (fR hc) (fR hd);have e:2^(2*k+1)=2^k*2^k+2^k*2^k:=by rw[iL,Nat.two_mul,fT];omega
 generalize a*b=u at*;generalize c*d=v at*;generalize 2^k*2^k=w at*;omega
def Si{D:Int}(h0:D≠0)(hD:D.natAbs<=2^k)(hX:X.natAbs<=2^k)(hY:Y.natAbs<=2^k)(e1:q.x*(D:Rat)=(X:Rat))(e2:q.y*(D:Rat)=(Y:Rat)):QD k q:=by
 rcases Int.lt_or_lt_of_ne h0 with h|h
 .refine⟨D.natAbs, -X, -Y,we,hD,we,we,?_,?_⟩
  .rw[show((D.natAbs:Int))= -D by omega,kU,kU];grind
  .rw[show((D.natAbs:Int))= -D by omega,kU,kU];grind
 .refine⟨D.natAbs,X,Y,we,hD,hX,hY,?_,?_⟩
  .rw[show((D.natAbs:Int))=D by omega];exact e1
  .rw[show((D.natAbs:Int))=D by omega];exact e2
def P3{m:aa}(hl:BL l k)(hm:BL m k)(h:crossI l m≠0):QD (2*k+1) (dw l m):=by
 have h':((crossI l m:Int):Rat)≠0:=fun e=>h (cX.1 e);refine Si (D:=crossI l m) (X:=meetX l m) (Y:=meetY l m) h (HW hl.a hm.b hm.a hl.b) ?_ ?_ ?_ ?_
 .unfold meetX;exact HW hl.b hm.c hm.b hl.c
 .unfold meetY;exact HW hm.a hl.c hl.a hm.c
 .unfold dw;rw[if_neg h];exact rY h'
 .unfold dw;rw[if_neg h];exact rY h'
def Oz(hl:BL l k)(h:l.ok):QD (2*k+1) l.base:=by
 have hn:=nE h.ne;have e:l.nor.dot l.nor=((l.a*l.a+l.b*l.b:Int):Rat):=by
  unfold aa.nor ah.dot;rw[nJ,cS,cS]
 have hz:l.nor.dot l.nor≠0:=by grind
 have h0:l.a*l.a+l.b*l.b≠0:=fun k=>hz (by rw[e,k];rfl);have e4:(2:Nat)^(2*k+1)=2^k*2^k+2^k*2^k:=by rw[iL,Nat.two_mul,fT];omega
 have q1:=l7 (fR hl.a) (fR hl.a);have q2:=l7 (fR hl.b) (fR hl.b);have q3:=l7 (fR hl.a) (fR hl.c);have q4:=l7 (fR hl.b) (fR hl.c);refine Si (D:=l.a*l.a+l.b*l.b) (X:= -(l.a*l.c)) (Y:= -(l.b*l.c)) h0 we we we ?_ ?_
 .rw[<-e]
  show(l.a:Rat)*(-(l.c:Rat)/l.nor.dot l.nor)*l.nor.dot l.nor=_;rw[Rat.mul_assoc,rY hz,kU,cS];grind
 .rw[<-e]
  show(l.b:Rat)*(-(l.c:Rat)/l.nor.dot l.nor)*l.nor.dot l.nor=_;rw[Rat.mul_assoc,rY hz,kU,cS];grind
def RF(h:q∈jB L): ∃l∈L,∃m∈L,crossI l m≠0/\q=dw l m:=by
 obtain⟨i,hi,h⟩:=iR.1 h;rw[jJ] at hi;obtain⟨l,hl⟩: ∃l,L[i]? =some l:=⟨_,aQ hi⟩;obtain⟨m,hm⟩: ∃m,L[(i+1)%L.length]? =some m:=⟨_,aQ (dK _ we)⟩;rw[xz hl hm] at h;split at h
 .rename_i hc
  refine⟨l,aK hl,m,aK hm,fun e=>?_,by simpa using h⟩;have h2:l.dir.cross m.dir=0:=by
   have:=vO l m;rw[e] at this;unfold ah.cross aa.dir;dsimp only;have z:((0:Int):Rat)=0:=J;rw[z] at this;grind
  rw[h2] at hc;exact absurd hc oma
 .cases h
def aE1(hc:bF c)(ha:f9 c)(hk: ∀s∈c,BL s.l k){f:ah×ah}(hn: ¬((bG f).x=0/\(bG f).y=0))(h1:ZB f.1)(h2:ZB f.2)(h:lB c f=some l):BL l (2*k+10):=by
 unfold lB at h
 cases hf:hH c (bG f) with
 |none=>rw[hf] at h;cases h
 |some m=>
  rw[hf] at h
  cases h
  obtain⟨e1,e2⟩:=UI hc ha hn hf;obtain⟨q,hq,e3⟩:=(s8 (n:=bG f) e2).2;rw[e1] at e3;have hqd:QD (2*k+1) q:=by
   unfold Bb at hq;split at hq
   .obtain⟨l,hl,rfl⟩:=aU.1 hq
    obtain⟨s,hs,rfl⟩:=aU.1 hl;exact Oz (hk s hs) (hc.ok s hs)
   .obtain⟨l,hl,m,hm,hx,rfl⟩:=RF hq
    obtain⟨s,hs,rfl⟩:=aU.1 hl;obtain⟨u,hu,rfl⟩:=aU.1 hm;exact P3 (hk s hs) (hk u hu) hx
  obtain⟨D,X,Y,hD0,hD,hX,hY,x1,y1⟩:=hqd;obtain⟨m1,n1,p1,a1,a2⟩:=h1;obtain⟨m2,n2,p2,a3,a4⟩:=h2;have nx:(bG f).x=((n1-n2:Int):Rat):=by unfold bG;rw[p1,p2];unfold iP;rw[jM];grind
  have ny:(bG f).y=((m2-m1:Int):Rat):=by unfold bG;rw[p1,p2];unfold iP;rw[jM]
  generalize hA:n1-n2=A at nx;generalize hB:m2-m1=B at ny;have hD0':(0:Rat)<((D:Int):Rat):=by exact_mod_cast hD0
  have key:dB (bG f).x (bG f).y (-(m+(bG f).dot f.1))=nH (A*D) (B*D) (-(A*X+B*Y+(A*m1+B*n1)*D)):=by
   rw[<-GU];refine(aAW (fun uv=>?_) hn hD0' fun p=>?_).symm
   .obtain⟨u,v⟩:=uv
    rw[cS,<-nx] at u;rw[cS,<-ny] at v;refine hn ⟨?_,?_⟩
    .rcases fJ.1 u with u|u
     .exact u
     .grind
    .rcases fJ.1 v with v|v
     .exact v
     .grind
   .rw[e3,p1]
    unfold ah.dot iP;dsimp only;rw[nx,ny];simp only[cS,kU,nJ];rw[<-x1,<-y1];grind
  show BL (dB (bG f).x (bG f).y (-(m+(bG f).dot f.1))) _;rw[key];have hA16:A.natAbs<=16:=by omega
  have hB16:B.natAbs<=16:=by omega
  have b0:(D:Int).natAbs<=2^(2*k+1):=hD;have b1:=l7 hA16 b0;have b2:=l7 hB16 b0;have b3:=l7 hA16 hX;have b4:=l7 hB16 hY;have b5:(A*m1+B*n1).natAbs<=256:=by
   have:=l7 hA16 a1;have:=l7 hB16 a2;omega
  have b6:=l7 b5 b0;obtain⟨r1,r2,r3⟩:=yH (A*D) (B*D) (-(A*X+B*Y+(A*m1+B*n1)*D));have e9:2^(2*k+10)=2^(2*k+1)*512:=by rw[show 2*k+10=2*k+1+9 by omega,fT]
  have w0:0<2^(2*k+1):=iX oma;generalize 2^(2*k+1)=w at*;exact⟨we,we,we⟩
def aEF(hl:l.ok)(hk:BL l k)(hV:V≠[])(hz: ∀v∈V,ZB v):BL (kn l V) (2*k+10):=by
 obtain⟨v,hv,e⟩:=(s8 (n:=l.nor) hV).2;obtain⟨m,n,rfl,h1,h2⟩:=hz v hv;unfold kn;have e2:(l.c:Rat)-kz l.nor V=((l.c-(l.a*m+l.b*n):Int):Rat):=by
  rw[e];unfold ah.dot aa.nor iP;rw[jM,nJ,cS,cS]
 rw[e2,GU];obtain⟨r1,r2,r3⟩:=yH l.a l.b (l.c-(l.a*m+l.b*n));have b1:=l7 (fR hk.a) h1;have b2:=l7 (fR hk.b) h2;have ka:=hk.a;have kb:=hk.b;have kc:=hk.c;have e9:2^(2*k+10)=2^k*(2^k*1024):=by rw[show 2*k+10=k+(k+10) by omega,fT,fT]
 have w1:1<=2^k:=iX oma;have e10:2^k*1024<=2^k*(2^k*1024):=by rw[<-cY];exact bR _ (mZ _ w1)
 generalize 2^k*(2^k*1024)=z at*;generalize 2^k=w at*;exact⟨we,we,we⟩
def BL.mono(h:BL l j)(hk:j<=k:=by decide):BL l k:=by
 have:=cZ (n:=2) oma hk;exact⟨cM h.a this,cM h.b this,cM h.c this⟩
def BL.rev{l:aa}{k:Nat}(h:BL l k):BL l.rev k:=⟨by unfold aa.rev;dsimp only;rw[jX];exact h.a,by unfold aa.rev;dsimp only;rw[jX];exact h.b,by unfold aa.rev;dsimp only;rw[jX];exact h.c⟩
def aAt{E:List (ah×ah)}(hB:lu V E)(hz: ∀v∈V,ZB v)(hc:bF c)(ha:f9 c)(hk: ∀s∈c,BL s.l k): ∀l∈iH c V E,BL l (2*k+10):=fun l hl=>by
 rcases bX.1 hl with h|h
 .obtain⟨s,hs,rfl⟩:=aU.1 h
  exact aEF (hc.ok s hs) (hk s hs) hB.vne hz
 .obtain⟨f,hf,h⟩:=gV.1 h
  exact aE1 hc ha hk (hB.nz hf) (hz _ (hB.ends f hf).1) (hz _ (hB.ends f hf).2) h
def aDN{E:List (ah×ah)}(hB:lu V E)(hz: ∀v∈V,ZB v)(ht:t.all aa.ok)(hk:t.all fun l=>BL l k):(qt V E t).all fun l=>BL l (2*k+10):=by
 unfold qt;have hb: ∀c∈dE (t.restrict []),(nn V E c).all fun l=>BL l (2*k+10):=fun c hc=>by
  obtain⟨g1,g2⟩:=B7 ht c hc;exact OX (aAt hB hz g1 g2 (zP (P:=fun l=>BL l k) (fun l h=>h.rev) (t.restrict_all _ [] hk) (fun s hs=>by cases hs) (vR.1 hc)))
 have key: ∀(cs:List av) (u:Tr),(∀c∈cs,(nn V E c).all fun l=>BL l (2*k+10))->(u.all fun l=>BL l (2*k+10))->(GI V E cs u).all fun l=>BL l (2*k+10):=fun cs=>by
  induction cs with
  |nil=>intro u _ hu;exact hu
  |cons c cs ih=>
   intro u h hu;exact ih _ (fun d hd=>h d (aJ _ hd)) (Tr.mergeQ_all _ 1 (h c aZ) u [] hu)
 exact key _ _ hb trivial
section
variable {r:List ZP}
end
end Go.Sx
end
