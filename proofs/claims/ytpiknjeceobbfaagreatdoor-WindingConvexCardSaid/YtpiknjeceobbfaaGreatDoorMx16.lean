import Derived.Test.YtpiknjeceobbfaaGreatDoorMx15
set_option linter.all false
set_option maxHeartbeats 2000000
set_option maxRecDepth 100000
section
namespace Go.Sx
open Go Go.Proofs Tryz
variable {GB:Gh}
def nk(v:aA)(t:Rat):Bool:=(v.nl||decide (ce v.lo t<=0))&&(v.nh||decide (0<=ce v.hi t))
def FL{v:aA}{t:Rat}:nk v t=true↔v.has t:=by
 unfold nk aA.has;simp only[aM,fR,decide_eq_true_eq,DD,I5]
def gu(f:aP)(p:aa):Bool:=decide (Int.sign (f.l.value p).num=0)&&nk f.v (co f.l p)
def xA{f:aP}{p:aa}:gu f p=true↔f.l.value p=0/\f.v.has (co f.l p):=by
 unfold gu;rw[aM,decide_eq_true_eq,jf,FL]
def vg{a b:Rat}(h:b≠0):a/b*b=a:=by grind
def uD{v w:ZP}(h:v≠w)(ho:(ba v w).l.ok){x:aa}:gu (ba v w) x=true↔fm v.q w.q x:=by
 obtain⟨e1,e2,e3⟩:=w4 h ho;have hv: ∀t,(ba v w).v.has t↔(ba v w).v.lo<=t/\t<=(ba v w).v.hi:=fun t=>by
  unfold aA.has ba;simp
 rw[xA,hv];generalize (ba v w).v.lo=lo at*;generalize (ba v w).v.hi=hi at*;generalize (ba v w).l=l at*;constructor
 ·rintro ⟨hz,h1,h2⟩
  have ex:=xM ho.ne hz;generalize co l x=t at*;have e:(t-lo)/(hi-lo)*(hi-lo)=t-lo:=vg (by grind);refine⟨(t-lo)/(hi-lo),(gO (k:=hi-lo) (by grind)).1 (by rw[e];grind),?_,?_⟩
  ·have:=(gO (s:=1-(t-lo)/(hi-lo)) (k:=hi-lo) (by grind)).1 (by
    have e4:(1-(t-lo)/(hi-lo))*(hi-lo)=(hi-lo)-(t-lo)/(hi-lo)*(hi-lo):=by generalize (t-lo)/(hi-lo)=q;grind
    rw[e4,e];grind)
   grind
  ·rw[<-e1,<-e2,DZ,<-ex]
   congr 1;rw[e];grind
 ·rintro ⟨s,s0,s1,rfl⟩
  rw[<-e1,<-e2,DZ];rw[w5 ho.ne];have:=bE s0 (show 0<=hi-lo by grind);have:=bE (show 0<=1-s by grind) (show 0<=hi-lo by grind);exact⟨p6 ho.ne _,by grind,by grind⟩
def pc(f:aP)(p:aa):Int:=
 if Int.sign f.l.dir.y.num=0\/Int.sign (f.l.value p).num≠Int.sign f.l.dir.y.num then 0
 else if(if Int.sign f.l.dir.y.num<0 then f.v.nh=false/\0<ce (f.l.at f.v.hi).y p.y else f.v.nl=false/\0<ce (f.l.at f.v.lo).y p.y) then 0
 else if(if Int.sign f.l.dir.y.num<0 then f.v.nl=false/\ce (f.l.at f.v.lo).y p.y<=0 else f.v.nh=false/\ce (f.l.at f.v.hi).y p.y<=0) then 0
 else Int.sign f.l.dir.y.num
def dG(E:List aP)(p:aa):Int:=E.foldl (fun n f=>n+pc f p) 0
def Uz{v w:ZP}(h:v≠w)(p:aa): ∃g:Rat,0<g/\aC v.q w.q p=g*(ba v w).l.value p/\w.q.y-v.q.y=g*(ba v w).l.dir.y:=by
 obtain⟨g,g0,h1,h2,h3⟩:=Bx h;refine⟨g,g0,?_,by rw[h3];unfold aG;show _=g*(iF v.1 v.2 w.1 w.2).dir.y;dsimp only;grind⟩;show _=g*(iF v.1 v.2 w.1 w.2).value p;rw[h3];generalize iF v.1 v.2 w.1 w.2=l at*;rw[lj] at*;unfold aC aG ab.dir;dsimp only;grind
def OV{v w:ZP}(h:v≠w)(ho:(ba v w).l.ok)(p:aa):pc (ba v w) p=gy v.q w.q p:=by
 obtain⟨e1,e2,e3⟩:=w4 h ho;obtain⟨g,g0,o1,o2⟩:=Uz h p;have b1:(ba v w).v.nl=false:=J;have b2:(ba v w).v.nh=false:=J;have so:(0<aC v.q w.q p↔0<(ba v w).l.value p)/\(aC v.q w.q p<0↔(ba v w).l.value p<0):=by
  rw[o1];constructor
  ·rw[Rat.mul_comm];exact eO g0
  ·have:=eO (s:= -(ba v w).l.value p) g0
   grind
 have sy:(v.q.y<w.q.y↔0<(ba v w).l.dir.y)/\(w.q.y<v.q.y↔(ba v w).l.dir.y<0):=by
  have t1:=eO (s:=(ba v w).l.dir.y) g0;have t2:=eO (s:= -(ba v w).l.dir.y) g0;constructor<;>grind
 unfold pc;rw[b1,b2,e1,e2];simp only[true_and,DD,Ai];generalize (ba v w).l.value p=z at*;generalize (ba v w).l.dir.y=u at*;unfold gy;rcases dF u with k|k|k
 ·rw[if_pos (.inl ((jf _).2 k))]
  have: ¬(v.q.y<=p.y/\ ¬w.q.y<=p.y/\0<aC v.q w.q p):=fun q=>by grind
  have: ¬(¬v.q.y<=p.y/\w.q.y<=p.y/\aC v.q w.q p<0):=fun q=>by grind
  rw[if_neg ‹_›,if_neg ‹_›];rfl
 ·have su:Int.sign u.num=1:=(iH _).2 k
  rw[su];have n2: ¬(¬v.q.y<=p.y/\w.q.y<=p.y/\aC v.q w.q p<0):=fun q=>by grind
  rw[if_neg n2];simp only[show¬((1:Int)<0) by decide,if_false,show¬((1:Int)=0) by decide,false_or];by_cases hz:0<z
  ·rw[if_neg (by rw[(iH _).2 hz];simp)]
   by_cases a1:v.q.y<=p.y
   ·rw[if_neg (by grind)]
    by_cases a2:w.q.y<=p.y
    ·rw[if_pos a2,if_neg (by grind)];rfl
    ·rw[if_neg a2,if_pos ⟨a1,a2,so.1.2 hz⟩];rfl
   ·rw[if_pos (by grind),if_neg (by grind)];rfl
  ·rw[if_pos (fun q=>hz ((iH _).1 q)),if_neg (by grind)];rfl
 ·have su:Int.sign u.num= -1:=rx k
  rw[su];have n2: ¬(v.q.y<=p.y/\ ¬w.q.y<=p.y/\0<aC v.q w.q p):=fun q=>by grind
  rw[if_neg n2];simp only[show(-1:Int)<0 by decide,if_true,show¬((-1:Int)=0) by decide,false_or];by_cases hz:z<0
  ·rw[if_neg (by rw[rx hz];simp)]
   by_cases a1:w.q.y<=p.y
   ·rw[if_neg (by grind)]
    by_cases a2:v.q.y<=p.y
    ·rw[if_pos a2,if_neg (by grind)];rfl
    ·rw[if_neg a2,if_pos ⟨a2,a1,so.2.2 hz⟩];rfl
   ·rw[if_pos (by grind),if_neg (by grind)];rfl
  ·rw[if_pos (fun q=>hz (by
    have h4:Int.sign z.num<0:=by rw[q];decide
    exact(lm _).1 h4)),if_neg (by grind)];rfl
def xZ{α:Type}(f:α->Int): ∀(l:List α) (n:Int),l.foldl (fun n x=>n+f x) n=n+l.foldl (fun n x=>n+f x) 0
 |[],n=>by simp
 |a::t,n=>by
  rw[gS,gS,xZ f t (n+f a),xZ f t (0+f a)];omega
def Eu(E F:List aP)(p:aa):dG (E++F) p=dG E p+dG F p:=by
 unfold dG;rw[List.foldl_append,xZ]
def Px{r:List ZP}(hr:cB r)(p:aa):dG (i4 r) p=im r p:=by
 have key: ∀k,k<=r.length->dG (jF r k) p=vr r p k:=by
  intro k
  induction k with
  |zero=>intro _;rfl
  |succ k ih=>
   intro hk;have hm:=vO (r:=r) (k:=k) (n:=r.length) (by omega);have ho:=((sN hr).2 _ hm).ok;rw[jF,Eu,ih (by omega),s5,s5,ig];have e:dG [ba (r.getD k (0,0)) (ci r k)] p=pc (ba (r.getD k (0,0)) (ci r k)) p:=by unfold dG;simp
   rw[e,OV (hr.ne k (by omega)) ho]
 exact key r.length (aN _)
def CK: ∀{rs:List (List ZP)},(∀r∈rs,cB r)-> ∀p,dG (bz rs) p=rs.foldl (fun n r=>n+im r p) 0
 |[],_,p=>rfl
 |r::rs,h,p=>by
  have e:bz (r::rs)=i4 r++bz rs:=J;rw[e,Eu,Px (h r aQ),CK fun q hq=>h q (aZ _ hq),gS,xZ _ rs (0+im r p)];omega
def EC(f:aP)(p:aa):Bool:=f.v.nh||decide (ce (co f.l p) f.v.hi<0)
def Ef(f:aP)(p:aa):Bool:=f.v.nl||decide (0<ce (co f.l p) f.v.lo)
def gg(p:aa)(f:aP):List aa:=if gu f p then(if EC f p then [ck f.l.dir] else [])++(if Ef f p then [bc (ck f.l.dir)] else []) else []
def jc(E:List aP)(p:aa):List aa:=gz (E.flatMap (gg p))
def mI(p d q:aa):Rat:=(⟨q.x-p.x,q.y-p.y⟩:aa).dot d/d.dot d
def nC(a b:Rat):Rat×Bool:=
 if 0<Int.sign b.num/\(¬0<Int.sign a.num\/ce b a<0) then(b,true) else if 0<Int.sign a.num then(a,true) else(0,false)
def fj(f:aP)(p d:aa):Rat×Bool:=
 if f.l.nor.dot d=0 then(if f.l.value p=0 then nC (mI p d (f.l.at f.v.lo)) (mI p d (f.l.at f.v.hi)) else(0,false))
 else(-(f.l.value p/f.l.nor.dot d),decide (0<Int.sign (-(f.l.value p/f.l.nor.dot d)).num)&&nk f.v (co f.l (aG p d (-(f.l.value p/f.l.nor.dot d)))))
def gF(p d:aa)(s:Rat)(f:aP):Rat:=if gu f p then s else if(fj f p d).2 then(if(fj f p d).1<s then(fj f p d).1 else s) else s
def ky(E:List aP)(p d:aa):aa:=aG p d (E.foldl (gF p d) 1*mkRat 1 2)
def ll(E:List aP)(p:aa)(acc:aa->Bool):Int:=
 if((eG (jc E p)).any fun v=>acc (ky E p v))&&(eG (jc E p)).all (fun v=>acc (ky E p v)) then 2 else if(eG (jc E p)).any fun v=>acc (ky E p v) then 1 else 0
def F'{a b:Rat}:((nC a b).2=true->0<(nC a b).1)/\(∀t,0<t->(0<a/\a<=t\/0<b/\b<=t)->(nC a b).2=true/\(nC a b).1<=t):=by
 unfold nC;simp only[jD,zJ];split
 ·exact⟨fun _=>by dsimp only;grind,fun t t0 h=>⟨J,by dsimp only;grind⟩⟩
 ·split
  ·exact⟨fun _=>by dsimp only;grind,fun t t0 h=>⟨J,by dsimp only;grind⟩⟩
  ·exact⟨fun h=>by simp at h,fun t t0 h=>by grind⟩
def U2{f:aP}{p d:aa}(h:(fj f p d).2=true):0<(fj f p d).1:=by
 unfold fj at*;split at h
 ·rw[if_pos (by assumption)]
  split at h
  ·rw[if_pos (by assumption)];exact F'.1 h
  ·cases h
 ·rw[if_neg (by assumption)]
  simp only[aM,decide_eq_true_eq,jD] at h;exact h.1
def MQ{d:aa}(h:d≠⟨0,0⟩):0<d.dot d:=by
 have:=xH (x:=d.x) (y:=d.y) fun k=>h (by cases d;simp only[aa.mk.injEq] at*;exact k);unfold aa.dot;exact this
def Gg{l:ab}(ho:l.ok){p d q:aa}(hd:d≠⟨0,0⟩)(h0:l.nor.dot d=0)(h1:l.value p=0)(h2:l.value q=0):q=aG p d (mI p d q):=by
 have hp:=MQ hd;have hn: ¬(l.nor.x=0/\l.nor.y=0):=fun k=>by
  have hq:l.Ne:=ho.ne;refine hq ⟨?_,?_⟩
  ·have:=k.1;unfold ab.nor at this;dsimp only at this;exact_mod_cast this
  ·have:=k.2;unfold ab.nor at this;dsimp only at this;exact_mod_cast this
 have e:l.nor.dot ⟨q.x-p.x,q.y-p.y⟩=0:=by rw[EB,h1,h2];grind
 unfold mI aG;have ed:(⟨q.x-p.x,q.y-p.y⟩:aa).dot d/d.dot d*d.dot d=(⟨q.x-p.x,q.y-p.y⟩:aa).dot d:=by
  generalize d.dot d=m at*;exact vg (by grind)
 have ec:(q.x-p.x)*d.y=(q.y-p.y)*d.x:=by
  unfold aa.dot at e h0;dsimp only at e;generalize l.nor.x=a at*;generalize l.nor.y=b at*;by_cases k:a=0
  ·have hb:b≠0:=fun z=>hn ⟨k,z⟩
   rw[k] at e h0;have e1:b*(q.y-p.y)=0:=by grind
   have e2:b*d.y=0:=by grind
   rw[(bR.1 e1).resolve_left hb,(bR.1 e2).resolve_left hb];grind
  ·have e3:a*((q.x-p.x)*d.y-(q.y-p.y)*d.x)=0:=by grind
   have:=(bR.1 e3).resolve_left k;grind
 have e1:(q.x-p.x)*d.dot d=(⟨q.x-p.x,q.y-p.y⟩:aa).dot d*d.x:=by unfold aa.dot;dsimp only;grind
 have e2:(q.y-p.y)*d.dot d=(⟨q.x-p.x,q.y-p.y⟩:aa).dot d*d.y:=by unfold aa.dot;dsimp only;grind
 generalize (⟨q.x-p.x,q.y-p.y⟩:aa).dot d/d.dot d=k at*;generalize (⟨q.x-p.x,q.y-p.y⟩:aa).dot d=n at*;generalize d.dot d=m at*;have m0:m≠0:=by grind
 have f1:m*(q.x-p.x-k*d.x)=0:=by grind
 have f2:m*(q.y-p.y-k*d.y)=0:=by grind
 have g1:=(bR.1 f1).resolve_left m0;have g2:=(bR.1 f2).resolve_left m0
 cases q
 simp only[aa.mk.injEq] at*;constructor<;>grind
def PZ{p d:aa}(hd:d≠⟨0,0⟩){s t:Rat}(h:aG p d s=aG p d t):s=t:=by
 have hp:=MQ hd;have hx:=congrArg aa.x h;have hy:=congrArg aa.y h;unfold aG at hx hy;dsimp only at hx hy;unfold aa.dot at hp;have:(s-t)*(d.x*d.x+d.y*d.y)=0:=by grind
 have:=(bR.1 this).resolve_right (by grind);grind
def Xt{v w:ZP}(h:v≠w)(ho:(ba v w).l.ok){p d:aa}(hd:d≠⟨0,0⟩)(hp: ¬fm v.q w.q p){t:Rat}(t0:0<t)(ht:fm v.q w.q (aG p d t)):(fj (ba v w) p d).2=true/\(fj (ba v w) p d).1<=t:=by
 obtain⟨e1,e2,e3⟩:=w4 h ho;have hv:=xA.1 ((uD h ho).2 ht);have hz:(ba v w).l.value p+t*(ba v w).l.nor.dot d=0:=by rw[<-io];exact hv.1
 unfold fj;by_cases k:(ba v w).l.nor.dot d=0
 ·have hc:(ba v w).l.value p=0:=by rw[k] at hz;grind
  rw[if_pos k,if_pos hc,e1,e2];have a1:(ba v w).l.value v.q=0:=by rw[<-e1];exact p6 ho.ne _
  have a2:(ba v w).l.value w.q=0:=by rw[<-e2];exact p6 ho.ne _
  have b1:=Gg ho hd k hc a1;have b2:=Gg ho hd k hc a2;generalize mI p d v.q=s1 at*;generalize mI p d w.q=s2 at*;obtain⟨s,z0,z1,es⟩:=ht;rw[b1,b2,Ao] at es;have et:=PZ hd es;refine F'.2 t t0 ?_
  -- p does not lie between
  have hn: ∀m,0<=m->m<=1->s1+m*(s2-s1)≠0:=fun m m0 m1 em=>hp ⟨m,m0,m1,by
   rw[b1,b2,Ao,em];unfold aG;cases p;simp only[aa.mk.injEq];constructor<;>grind⟩
  have n1:s1≠0:=fun e=>hn 0 (by decide) (by decide) (by rw[e];grind);have n2:s2≠0:=fun e=>hn 1 (by decide) (by decide) (by rw[e];grind);have key: ∀x y:Rat,x<0->0<y->0<= -x/(y-x)/\ -x/(y-x)<=1/\x+ -x/(y-x)*(y-x)=0:=fun x y hx hy=>by
   have em: -x/(y-x)*(y-x)= -x:=vg (by grind);have q0:=div_pos (a:= -x) (b:=y-x) (by grind) (by grind);generalize-x/(y-x)=m at*;refine⟨bN q0,?_,by rw[em];grind⟩;have:=(gO (s:=1-m) (k:=y-x) (by grind)).1 (by
    have:(1-m)*(y-x)=(y-x)-m*(y-x):=by grind
    rw[this,em];grind)
   grind
  rcases dF s1 with q1|q1|q1
  ·exact absurd q1 n1
  ·rcases dF s2 with q2|q2|q2
   ·exact absurd q2 n2
   ·by_cases c:s1<=s2
    ·have:=bE z0 (show 0<=s2-s1 by grind)
     exact .inl ⟨q1,by grind⟩
    ·have:=bE (show 0<=1-s by grind) (show 0<=s1-s2 by grind)
     exact .inr ⟨q2,by grind⟩
   ·obtain⟨c1,c2,c3⟩:=key s2 s1 q2 q1
    exfalso;refine hn (1- -s2/(s1-s2)) (by grind) (by grind) ?_;generalize-s2/(s1-s2)=m at*;grind
  ·rcases dF s2 with q2|q2|q2
   ·exact absurd q2 n2
   ·obtain⟨c1,c2,c3⟩:=key s1 s2 q1 q2
    exact absurd c3 (hn _ c1 c2)
   ·exfalso
    have:=bE z0 (show 0<= -s2 by grind);have:=bE (show 0<=1-s by grind) (show 0<= -s1 by grind);grind
 ·rw[if_neg k]
  have et: -((ba v w).l.value p/(ba v w).l.nor.dot d)=t:=by
   generalize (ba v w).l.nor.dot d=n at*;generalize (ba v w).l.value p=z at*;grind
  rw[et];exact⟨by rw[aM,decide_eq_true_eq,jD,FL];exact⟨t0,hv.2⟩,dJ⟩
def Ml{p d:aa}: ∀{E:List aP} {s:Rat},0<s->0<E.foldl (gF p d) s/\E.foldl (gF p d) s<=s/\ ∀f∈E,gu f p=false->(fj f p d).2=true->E.foldl (gF p d) s<=(fj f p d).1
 |[],s,h=>⟨h,dJ,fun f hf=>by cases hf⟩
 |g::E,s,h=>by
  have key:0<gF p d s g/\gF p d s g<=s/\(gu g p=false->(fj g p d).2=true->gF p d s g<=(fj g p d).1):=by
   unfold gF;by_cases h1:gu g p=true
   ·rw[if_pos h1];exact⟨h,dJ,fun q=>by rw[h1] at q;cases q⟩
   ·rw[if_neg h1]
    by_cases h2:(fj g p d).2=true
    ·rw[if_pos h2]
     have:=U2 h2;split
     ·exact⟨this,by grind,fun _ _=>dJ⟩
     ·exact⟨h,dJ,fun _ _=>by grind⟩
    ·rw[if_neg h2];exact⟨h,dJ,fun _ q=>absurd q h2⟩
  obtain⟨k1,k2,k3⟩:=key;obtain⟨i1,i2,i3⟩:=Ml (p:=p) (d:=d) (E:=E) k1;rw[gS];refine⟨i1,by grind,fun f hf q1 q2=>?_⟩;rcases aU.1 hf with rfl|hf
  ·have:=k3 q1 q2;grind
  ·exact i3 f hf q1 q2
def BF{rs:List (List ZP)}(hr: ∀r∈rs,cB r){f:aa×aa}(hf:f∈ER rs): ∃v w:ZP,v≠w/\(ba v w).l.ok/\ba v w∈bz rs/\f=(v.q,w.q):=by
 obtain⟨r,h1,h2⟩:=cR.1 hf;obtain⟨k,hk,rfl⟩:=bK.1 h2;have hk':=fV.1 hk;have hm:=vO (r:=r) (k:=k) (n:=r.length) hk';exact⟨_,_,(hr r h1).ne k hk',((sN (hr r h1)).2 _ hm).ok,cR.2 ⟨r,h1,hm⟩,J⟩
def BU{r:List ZP}: ∀{n:Nat} {f:aP},f∈jF r n-> ∃k,k<n/\f=ba (r.getD k (0,0)) (ci r k)
 |0,f,h=>by simp[jF] at h
 |n+1,f,h=>by
  rw[jF] at h;rcases bL.1 h with h|h
  ·obtain⟨k,h1,h2⟩:=BU h
   exact⟨k,by omega,h2⟩
  ·exact⟨n,by omega,aV.1 h⟩
def JK{rs:List (List ZP)}(hr: ∀r∈rs,cB r){f:aP}(hf:f∈bz rs): ∃v w:ZP,v≠w/\(ba v w).l.ok/\f=ba v w/\(v.q,w.q)∈ER rs:=by
 obtain⟨r,h1,h2⟩:=cR.1 hf;have ho:=((sN (hr r h1)).2 _ h2).ok;obtain⟨k,hk,rfl⟩:=BU h2;exact⟨_,_,(hr r h1).ne k hk,ho,J,cR.2 ⟨r,h1,bK.2 ⟨k,fV.2 hk,J⟩⟩⟩
def HR{rs:List (List ZP)}{fill:Int}{p v:aa}(hr: ∀r∈rs,cB r)(hv:jo (ER rs) p v):mj rs fill p v (fi rs fill (ky (bz rs) p v)):=by
 obtain⟨k1,k2,k3⟩:=Ml (p:=p) (d:=v) (E:=bz rs) (s:=1) (by decide);unfold ky;generalize (bz rs).foldl (gF p v) 1=s at*;have hh:s*mkRat 1 2=s/2:=by rw[show mkRat 1 2=(1:Rat)/2 by decide+kernel];grind
 rw[hh];refine XB hr (by grind) hv fun f hf hn t t0 t1 ho=>?_;obtain⟨a,b,h1,h2,h3,rfl⟩:=BF hr hf;obtain⟨c1,c2⟩:=Xt h1 h2 hv.1 hn t0 ho;have:=k3 _ h3 (by
  cases e:gu (ba a b) p with
  |false=>rfl
  |true=>exact absurd ((uD h1 h2).1 e) hn) c1
 grind
def Nl{l:ab}(h:l.ok): ∃a:Rat,0<a/\ck l.dir=⟨a*l.dir.x,a*l.dir.y⟩:=u5 (sE h)
def rk{r:aa}{k:Rat}(hk:0<k)(u:aa):qg ⟨k*r.x,k*r.y⟩ u↔qg r u:=by
 constructor
 ·rintro ⟨m,m0,rfl⟩
  exact⟨m*k,bj m0 hk,by simp only[aa.mk.injEq];constructor<;>grind⟩
 ·rintro ⟨m,m0,rfl⟩
  have e:m/k*k=m:=vg (by grind);refine⟨m/k,div_pos m0 hk,?_⟩;generalize m/k=q at*;simp only[aa.mk.injEq];constructor<;>grind
def KQ(l:ab)(a b:Rat):(⟨(l.at a).x-(l.at b).x,(l.at a).y-(l.at b).y⟩:aa)=⟨(a-b)*l.dir.x,(a-b)*l.dir.y⟩:=by
 unfold ab.at aa.add aa.scale;simp only[aa.mk.injEq];constructor<;>grind
def Jt{v w:ZP}(h:v≠w)(ho:(ba v w).l.ok)(p u:aa):(∃r,zX v.q w.q p r/\qg r u)↔ ∃d∈gg p (ba v w),qg d u:=by
 obtain⟨e1,e2,e3⟩:=w4 h ho;obtain⟨α,a0,ea⟩:=Nl ho;have b1:(ba v w).v.nl=false:=J;have b2:(ba v w).v.nh=false:=J;unfold zX gg;by_cases hp:fm v.q w.q p
 ·have hf:=(uD h ho).2 hp
  rw[if_pos hf];obtain⟨hz,h1,h2⟩:=xA.1 hf;rw[b1] at h1;rw[b2] at h2;have h1:(ba v w).v.lo<=co (ba v w).l p:=by simpa using h1
  have h2:co (ba v w).l p<=(ba v w).v.hi:=by simpa using h2
  have ep:=xM ho.ne hz;unfold EC Ef;simp only[b1,b2,oY,decide_eq_true_eq,zJ,Ai,ea];have dw:=KQ (ba v w).l (ba v w).v.hi (co (ba v w).l p);have dv:=KQ (ba v w).l (ba v w).v.lo (co (ba v w).l p);rw[ep,e2] at dw;rw[ep,e1] at dv;have nw:w.q≠p↔co (ba v w).l p<(ba v w).v.hi:=by
   constructor
   ·intro k
    have:co (ba v w).l p≠(ba v w).v.hi:=fun e=>k (by rw[<-e2,<-e,ep]);grind
   ·rintro k e
    have:=w5 ho.ne (ba v w).v.hi;rw[e2,e] at this;grind
  have nv:v.q≠p↔(ba v w).v.lo<co (ba v w).l p:=by
   constructor
   ·intro k
    have:co (ba v w).l p≠(ba v w).v.lo:=fun e=>k (by rw[<-e1,<-e,ep]);grind
   ·rintro k e
    have:=w5 ho.ne (ba v w).v.lo;rw[e1,e] at this;grind
  rw[nw,nv,dw,dv];generalize co (ba v w).l p=t at*;generalize (ba v w).v.lo=lo at*;generalize (ba v w).v.hi=hi at*;generalize (ba v w).l.dir=D at*;have en: ∀k:Rat,(⟨k*D.x,k*D.y⟩:aa)=⟨-k*(bc D).x, -k*(bc D).y⟩:=fun k=>by unfold bc;simp only[aa.mk.injEq];constructor<;>grind
  have en2:bc ⟨α*D.x,α*D.y⟩=⟨α*(bc D).x,α*(bc D).y⟩:=by unfold bc;simp only[aa.mk.injEq];constructor<;>grind
  constructor
  ·rintro ⟨r,⟨_,hr⟩,hu⟩
   rcases hr with⟨rfl,k⟩|⟨rfl,k⟩
   ·refine⟨_,bU _ (by rw[if_pos k];exact aV.2 J),?_⟩
    rw[rk a0];exact(rk (show 0<hi-t by grind) u).1 hu
   ·refine⟨_,cJ _ (by rw[if_pos k];exact aV.2 J),?_⟩
    rw[en2,rk a0];rw[en] at hu;exact(rk (show 0< -(lo-t) by grind) u).1 hu
  ·rintro ⟨d,hd,hu⟩
   rcases bL.1 hd with hd|hd
   ·split at hd
    ·rename_i k
     rw[aV.1 hd,rk a0] at hu;exact⟨_,⟨hp, .inl ⟨J,k⟩⟩,(rk (show 0<hi-t by grind) u).2 hu⟩
    ·cases hd
   ·split at hd
    ·rename_i k
     rw[aV.1 hd,en2,rk a0] at hu;refine⟨_,⟨hp, .inr ⟨J,k⟩⟩,?_⟩;rw[en];exact(rk (show 0< -(lo-t) by grind) u).2 hu
    ·cases hd
 ·have hf:gu (ba v w) p≠true:=fun k=>hp ((uD h ho).1 k)
  rw[if_neg hf];constructor
  ·rintro ⟨r,⟨k,_⟩,_⟩;exact absurd k hp
  ·rintro ⟨d,hd,_⟩;cases hd
def yV{f:aP}{p d:aa}(h:d∈gg p f):f.l.value p=0/\(d=ck f.l.dir\/d=bc (ck f.l.dir)):=by
 unfold gg at h;split at h
 ·rename_i k
  refine⟨(xA.1 k).1,?_⟩;rcases bL.1 h with h|h
  ·split at h
   ·exact .inl (aV.1 h)
   ·cases h
  ·split at h
   ·exact .inr (aV.1 h)
   ·cases h
 ·cases h
def xk{E:List aP}(hE: ∀f∈E,f.l.ok)(p:aa): ∀x∈E.flatMap (gg p),∀y∈E.flatMap (gg p),cA x y=0->x=y:=fun x hx y hy h=>by
 obtain⟨f,k1,k2⟩:=cR.1 hx;obtain⟨g,k3,k4⟩:=cR.1 hy;obtain⟨a1,a2⟩:=yV k2;obtain⟨b1,b2⟩:=yV k4;exact FZ (hE f k1) (hE g k3) a1 b1 a2 b2 h
def Ay{l:List aa}(ht: ∀x∈l,∀y∈l,cA x y=0->x=y)(y:aa):y∈gz l↔y∈l:=by
 have h2: ∀y,y∈gz l->y∈l:=fun y hy=>by
  rcases wD cA hy with h|h
  ·exact h
  ·cases h
 refine⟨h2 y,fun hy=>?_⟩;obtain⟨e,e1,e2⟩:=zT cA (o:=[]) hy;rcases e2 with rfl|e2
 ·exact e1
 ·rw[<-ht e (h2 e e1) y hy e2];exact e1
def Q2{d:aa}(h:d.half≠0):(bc d).half≠0:=by
 have:=po h;have:=fq h;omega
def P0{E:List aP}(hE: ∀f∈E,f.l.ok){p d:aa}(h:d∈E.flatMap (gg p)):d.half≠0:=by
 obtain⟨f,k1,k2⟩:=cR.1 h;have z:=sE (hE f k1);have z2:(ck f.l.dir).half≠0:=by rw[yq z];exact z
 rcases(yV k2).2 with rfl|rfl
 ·exact z2
 ·exact Q2 z2
section
variable {rs:List (List ZP)} {fill:Int} {p:aa}
def CA(hr: ∀r∈rs,cB r)(u:aa):jo (ER rs) p u↔pb (jc (bz rs) p) u:=by
 have hE: ∀f∈bz rs,f.l.ok:=fun f hf=>((qq hr).2 f hf).ok;unfold jo pb jc;constructor
 ·rintro ⟨h1,h2⟩
  refine⟨h1,fun d hd hu=>?_⟩;obtain⟨f,k1,k2⟩:=cR.1 ((Ay (xk hE p) d).1 hd);obtain⟨v,w,q1,q2,rfl,q4⟩:=JK hr k1;obtain⟨r,r1,r2⟩:=(Jt q1 q2 p u).2 ⟨d,k2,hu⟩;exact h2 _ q4 r r1 r2
 ·rintro ⟨h1,h2⟩
  refine⟨h1,fun f hf r hr' hu=>?_⟩;obtain⟨v,w,q1,q2,q3,rfl⟩:=BF hr hf;obtain⟨d,d1,d2⟩:=(Jt q1 q2 p u).1 ⟨r,hr',hu⟩;exact h2 d ((Ay (xk hE p) d).2 (cR.2 ⟨_,q3,d1⟩)) d2
def Pm(hr: ∀r∈rs,cB r){L:List ab}(h:yl L)(hM:pk L (ER rs)):ll (bz rs) p (fi rs fill)=kH (gv rs fill) p:=by
 have hE: ∀f∈bz rs,f.l.ok:=fun f hf=>((qq hr).2 f hf).ok;have hnz: ∀d∈jc (bz rs) p,d.half≠0:=fun d hd=>P0 hE ((Ay (xk hE p) d).1 hd);have hs:=Qq (fill:=fill) hr (wo _) hnz fun u=>CA (p:=p) hr u;refine(N0 hr h hM (vs:=eG (jc (bz rs) p)) (q:=ky (bz rs) p) fun b=>?_).symm;unfold mD;rw[<-hs b];constructor
 ·rintro ⟨v,h1,h2⟩
  exact⟨v,h1,h2▸HR hr ((CA hr v).2 (x6 (wo _) hnz h1))⟩
 ·rintro ⟨v,h1,h2⟩
  exact⟨v,h1,(HR hr ((CA hr v).2 (x6 (wo _) hnz h1))).uniq h2⟩
end
def I1{p q:aa}{i:Nat}[hp:aw p i][hq:aw q i](hi:i<=1000000:=by decide):PF GB prog 188 [eZ p,eZ q] (vB (decide (p.x=q.x/\p.y=q.y))):=by
 refine fn func188 J J ntmps188 J J (fun C=>?_);refine cl J (J7 (p:=p.x) (q:=q.x) (i:=i) (j:=i) (by omega) (by omega)) J<|?_;refine csd 10 J J J (fun hg10=>?_) (fun hg10=>?_)
 .
  refine cl J (J7 (p:=p.y) (q:=q.y) (i:=i) (j:=i) (by omega) (by omega)) J<|?_;exact rz J (by show DV.v (.bool _)= .v (.bool _);simp_all)
 .
  exact rz J (by show DV.v (.bool _)= .v (.bool _);simp_all)
def Eg{p q:aa}{i j:Nat}[hp:aw p i][hq:aw q j](hi:i<=10000000:=by decide)(hj:j<=10000000:=by decide):PF GB prog 202 [eZ p,eZ q] (eZ ⟨p.x-q.x,p.y-q.y⟩):=by
 refine fn func202 J J ntmps202 J J (fun C=>?_);refine cl J (vp (p:=p.x) (q:=q.x) (i:=i) (j:=j) (by omega) (by omega)) J<|cl J (vp (p:=p.y) (q:=q.y) (i:=i) (j:=j) (by omega) (by omega)) J<|?_;exact rz J J
def xh{l:ab}{p:aa}{i:Nat}[hl:LB l][hp:aw p i](hi:i<=1000000:=by decide):PF GB prog 155 [oo l,eZ p] (eF (co l p)):=by
 refine fn func155 J J ntmps155 J J (fun C=>?_);refine cl J (AG (l:=l)) J<|cl (fu:=⟨0⟩) J (pA (p:=l.dir) (q:=p) (i:=97) (j:=i) (by decide) (by omega)) J<|?_;refine ak 10 (.d (eF (p.dot l.dir))) J (by rw[show l.dir.dot p=p.dot l.dir by unfold aa.dot;grind]) ?_;refine gx J<|cl J (pA (p:=l.dir) (q:=l.dir) (i:=97) (j:=97) (by decide) (by decide)) J<|cl J (wg (p:=p.dot l.dir) (q:=l.dir.dot l.dir) (i:=i+97+(i+97)+1) (j:=97+97+(97+97)+1) (by omega) (by decide)) J<|?_;exact rz J J
def LE{v:aA}{t:Rat}{i:Nat}[h1:BQ v.lo i][h2:BQ v.hi i][h3:BQ t i](hi:i<=1000000:=by decide):PF GB prog 154 [eW v,eF t] (vB (nk v t)):=by
 refine fn func154 J J ntmps154 J J (fun C=>?_);refine jE 7 J J J (fun hg7=>?_) (fun hg7=>?_)
 .
  refine jE 17 J J J (fun hg17=>?_) (fun hg17=>?_)
  .
   exact rz J (by show DV.v (.bool _)= .v (.bool _);unfold nk;simp_all<;>(intros;omega))
  .
   refine cl J (kx (p:=v.hi) (q:=t) (i:=i) (j:=i) (by omega) (by omega)) J<|?_;exact rz J (by show DV.v (.bool _)= .v (.bool _);unfold nk;simp_all<;>(intros;omega))
 .
  refine cl J (kx (p:=v.lo) (q:=t) (i:=i) (j:=i) (by omega) (by omega)) J<|?_;refine cs 14 J J J (fun hg14=>?_) (fun hg14=>?_)
  .
   refine jE 17 J J J (fun hg17=>?_) (fun hg17=>?_)
   .
    exact rz J (by show DV.v (.bool _)= .v (.bool _);unfold nk;simp_all<;>(intros;omega))
   .
    refine cl J (kx (p:=v.hi) (q:=t) (i:=i) (j:=i) (by omega) (by omega)) J<|?_;exact rz J (by show DV.v (.bool _)= .v (.bool _);unfold nk;simp_all<;>(intros;omega))
  .
   exact rz J (by show DV.v (.bool _)= .v (.bool _);unfold nk;simp_all<;>(intros;omega))
def Xy{G:Gh}{q:Rat}{y:Value}(h: ¬ee q)(hy:Is G (dl q) y):y= .pointer none:=by
 unfold dl at hy;rw[decide_eq_false h] at hy;rcases tK.1 hy with⟨_,e⟩|⟨e,_⟩
 ·exact e
 ·cases e
def TJ{G:Gh}{q:Rat}(h: ¬ee q):Is G (dl q) (.pointer none):=by
 unfold dl;rw[decide_eq_false h];exact tK.2 (.inl ⟨J,J⟩)
def xF(q:Rat):List Value:=[.int .i64 (dz q), .int .i64 (du q), .pointer none]
def uZ{G:Gh}{q:Rat}{t:List DV}{m:List Value}(h: ¬ee q)(hm:IsLs G (vI (dz q)::vI (du q)::dl q::t) m): ∃n,m=xF q++n/\IsLs G t n:=by
 obtain⟨y1,m1,rfl,h1,hm1⟩:=cb.1 hm;obtain⟨y2,m2,rfl,h2,hm2⟩:=cb.1 hm1;obtain⟨y3,m3,rfl,h3,hm3⟩:=cb.1 hm2;obtain rfl:=bp.1 h1;obtain rfl:=bp.1 h2;obtain rfl:=Xy h h3;exact⟨m3,J,hm3⟩
def uK{G:Gh}{q:Rat}{t:List DV}{n:List Value}(h: ¬ee q)(k:IsLs G t n):IsLs G (vI (dz q)::vI (du q)::dl q::t) (xF q++n):= .cons (bp.2 J) (.cons (bp.2 J) (.cons (TJ h) k))
def rV(q:Rat):Value:= .agg ⟨xF q⟩
def Rb{G:Gh}{q:Rat}{y:Value}(h: ¬ee q)(hy:Is G (eF q) y):y=rV q:=by
 obtain⟨m,rfl,hm⟩:=e8.1 hy;obtain⟨n,rfl,hn⟩:=uZ h hm;rw[cF.1 hn];rfl
def Pg{G:Gh}{q:Rat}(h: ¬ee q):Is G (eF q) (rV q):=e8.2 ⟨_,J,uK h (cF.2 J)⟩
structure EP (f:aP):Prop where
 a: ¬ee (f.l.a:Rat)
 b: ¬ee (f.l.b:Rat)
 c: ¬ee (f.l.c:Rat)
 lo: ¬ee f.v.lo
 hi: ¬ee f.v.hi
def rJ(f:aP):Value:= .agg ⟨xF f.l.a++(xF f.l.b++(xF f.l.c++(xF f.v.lo++(xF f.v.hi++[.bool f.v.nl, .bool f.v.nh]))))⟩
def ur{G:Gh}{f:aP}{y:Value}(h:EP f)(hy:Is G (cC f) y):y=rJ f:=by
 obtain⟨m0,rfl,k0⟩:=e8.1 hy;obtain⟨m1,rfl,k1⟩:=uZ h.a k0;obtain⟨m2,rfl,k2⟩:=uZ h.b k1;obtain⟨m3,rfl,k3⟩:=uZ h.c k2;obtain⟨m4,rfl,k4⟩:=uZ h.lo k3;obtain⟨m5,rfl,k5⟩:=uZ h.hi k4;obtain⟨y1,m6,rfl,h1,k6⟩:=cb.1 k5;obtain⟨y2,m7,rfl,h2,k7⟩:=cb.1 k6;obtain rfl:=bp.1 h1;obtain rfl:=bp.1 h2;obtain rfl:=cF.1 k7;rfl
def vj{G:Gh}{f:aP}(h:EP f):Is G (cC f) (rJ f):=e8.2 ⟨_,J,uK h.a (uK h.b (uK h.c (uK h.lo (uK h.hi (.cons (bp.2 J) (.cons (bp.2 J) (cF.2 J)))))))⟩
structure FE (f:aP):Prop where
 fo:ou f
 sm:EP f
 nl:f.v.nl=false
 nh:f.v.nh=false
theorem xT{l:ab}{p:aa}{i:Nat}(hl:LB l)[hp:aw p i]:BQ (co l p) (2*i+600):=by
 haveI:=hl;have h:BQ (p.dot l.dir/l.dir.dot l.dir) (i+97+(i+97)+1+(97+97+(97+97)+1)):=inferInstance;exact BQ.mono (show BQ (co l p) _ from h) (by omega)
def BO{f:aP}(hf:FE f){p:aa}{i:Nat}[hp:aw p i](hi:i<=100000:=by decide):PF GB prog 110 [cC f,eZ p] (vB (gu f p)):=by
 haveI:=hf.fo.lb;haveI:=hf.fo.lo;haveI:=hf.fo.hi;haveI:=xT (p:=p) (i:=i) hf.fo.lb;haveI:BQ f.v.lo (2*i+1800):=hf.fo.lo.mono (by omega);haveI:BQ f.v.hi (2*i+1800):=hf.fo.hi.mono (by omega);haveI:BQ (co f.l p) (2*i+1800):=(xT (p:=p) (i:=i) hf.fo.lb).mono (by omega);refine fn func110 J J ntmps110 J J (fun C=>?_);refine cl (fu:=⟨0⟩) J (CO (l:=f.l) (p:=p) (i:=i) (by omega)) J<|?_;refine yP (v2:=fun hg9=>by simp only[ah];kernel_rfl) J J J J (fun hg9=>?_) (fun hg9=>?_)
 .
  refine cl J (xh (l:=f.l) (p:=p) (i:=i) (by omega)) J<|cl J (LE (v:=f.v) (t:=co f.l p) (i:=2*i+1800) (by omega)) J<|?_;exact rz J (by show DV.v (.bool _)= .v (.bool _);unfold gu;simp_all)
 .
  exact rz J (by show DV.v (.bool _)= .v (.bool _);unfold gu;simp_all)
def Ff{f:aP}(hf:FE f):PF GB prog 140 [cC f] (.tp [eZ (f.l.at f.v.lo),vB true]):=by
 haveI:=hf.fo.lb;haveI:=hf.fo.lo;haveI:=hf.fo.hi;refine fn (fu:=⟨13⟩) func140 J J ntmps140 J J (fun C=>?_);refine ak 6 (.d (vB false)) J (by rw[hf.nl]<;>rfl) ?_;refine sA 6 J ?_;refine gx J<|cl J (Nc (l:=f.l) (t:=f.v.lo) (i:=1200)) J<|?_;exact rz J J
def Eo{f:aP}(hf:FE f):PF GB prog 141 [cC f] (.tp [eZ (f.l.at f.v.hi),vB true]):=by
 haveI:=hf.fo.lb;haveI:=hf.fo.lo;haveI:=hf.fo.hi;refine fn (fu:=⟨13⟩) func141 J J ntmps141 J J (fun C=>?_);refine ak 6 (.d (vB false)) J (by rw[hf.nh]<;>rfl) ?_;refine sA 6 J ?_;refine gx J<|cl J (Nc (l:=f.l) (t:=f.v.hi) (i:=1200)) J<|?_;exact rz J J
def Rr{α:Type}{g:α->Bool}{E:List α}{k:Nat}{f:α}(hk:E[k]? =some f)(h:(E.take k).any g=false):(E.take (k+1)).any g=g f:=by
 rw[fX,hk,List.any_append,h];simp
def WJ{α:Type}{g:α->Bool}{E:List α}{k:Nat}{f:α}(hk:E[k]? =some f)(h:g f=true):E.any g=true:=jQ.2 ⟨f,bJ hk,h⟩
def SP{E:List aP}(hn:E.length<=1000000){f:FuncId}{pv:Value}{dp:DV}(hp:Is GB dp pv){g:aP->Bool}(hF: ∀x∈E,PF GB prog f [cC x,dp] (vB (g x))):PX GB prog 153 [.sl (E.map cC), .v (.func (.func f) ⟨[]⟩ ⟨[pv]⟩)] {j:Int//(0<=j↔E.any g=true)/\ -1<=j/\j<=1000000} (fun j=>vI j.1):=by
 have hml:(E.map cC).length=E.length:=aK ..;refine Q1 (fu:=⟨10⟩) func153 J J ntmps153 J J (fun C=>?_);refine ak 7 (.d (vI (E.length:Nat))) J (by rw[hml]<;>rfl) ?_;refine gx J<|?_;refine lp (X:=Nat) (fun k=>[(8, .d (vI (k:Nat)))]) (fun k=>[]) (fun k=>k<=E.length/\(E.take k).any g=false) (fun k=>E.length-k) 0 J ⟨cK _,J⟩ (fun _=>J) (fun k hk=>?_);obtain⟨hk,hany⟩:=hk;refine br J J J (fun hc9=>?_) (fun hc9=>?_)
 .
  obtain⟨x,hx⟩: ∃u,E[k]? =some u:=⟨_,aX (by omega)⟩;refine ix (fu:=⟨1⟩) _ J (f9 hx) J<|rG (ds1:=[]) (ds2:=[dp]) J (cF.2 J) (.cons hp (cF.2 J)) (hF x (bJ hx)) J<|?_;refine bb J J J (fun hc16=>?_) (fun hc16=>?_)
  .
   exact Me ⟨(k:Int),⟨fun _=>WJ hx hc16,fun _=>by omega⟩,by omega,by omega⟩ J J
  .
   exact at_ (k+1) ⟨⟨by omega,by rw[Rr hx hany];simpa using hc16⟩,(by omega)⟩
 .
  obtain rfl:k=E.length:=by omega
  rw[fJ] at hany;exact Me ⟨-1,⟨fun h=>by omega,fun h=>by rw[hany] at h;cases h⟩,by omega,by omega⟩ J J
theorem u9{l:ab}{t:Rat}(hl:LB l)(ht:BQ t 1200):aw (l.at t) 3000:=aw.mono (inferInstance:aw (l.at t) _) (by decide)
def oy{f:aP}(h1:f.v.nl=false)(h2:f.v.nh=false)(p:aa):pc f p=if Int.sign f.l.dir.y.num=0 then 0 else if Int.sign (f.l.value p).num≠Int.sign f.l.dir.y.num then 0 else
  if Int.sign f.l.dir.y.num<0 then(if 0<ce (f.l.at f.v.hi).y p.y then 0 else if ce (f.l.at f.v.lo).y p.y<=0 then 0 else Int.sign f.l.dir.y.num)
  else(if 0<ce (f.l.at f.v.lo).y p.y then 0 else if ce (f.l.at f.v.hi).y p.y<=0 then 0 else Int.sign f.l.dir.y.num):=by
 unfold pc;rw[h1,h2];generalize Int.sign f.l.dir.y.num=U;generalize Int.sign (f.l.value p).num=S;generalize ce (f.l.at f.v.hi).y p.y=a;generalize ce (f.l.at f.v.lo).y p.y=b;by_cases k:U=0
 ·simp[k]
 ·by_cases k2:S≠U
  ·simp[k2]
  ·rw[if_neg (by simp[k,k2]),if_neg k,if_neg k2]
   by_cases k3:U<0
   ·simp[k3]
   ·simp[k3]
def JA(f:aP)(p:aa):(pc f p).natAbs<=1:=by
 unfold pc;have:=Xl f.l.dir.y.num
 repeat' split
 all_goals omega
def Lk{E:List aP}{p:aa}{k:Nat}{f:aP}(h:E[k]? =some f):dG (E.take (k+1)) p=dG (E.take k) p+pc f p:=by
 rw[fX,h];show dG (E.take k++[f]) p=_;rw[Eu];unfold dG;simp
def F0(E:List aP)(p:aa): ∀k,(dG (E.take k) p).natAbs<=k
 |0=>by simp[dG]
 |k+1=>by
  have ih:=F0 E p k
  cases h:E[k]? with
  |none=>
   have:E.take (k+1)=E.take k:=by rw[fX,h];simp
   rw[this];omega
  |some f=>
   rw[Lk h];have:=JA f p;omega
def SS{f:aP}(hf:FE f){p:aa}{i:Nat}[hp:aw p i](hi:i<=100000:=by decide):PF GB prog 89 [cC f,eZ p] (vI (pc f p)):=by
 haveI:=hf.fo.lb;haveI:=hf.fo.lo;haveI:=hf.fo.hi;haveI:aw (f.l.at f.v.hi) 3000:=u9 hf.fo.lb hf.fo.hi;haveI:aw (f.l.at f.v.lo) 3000:=u9 hf.fo.lb hf.fo.lo;refine fn func89 J J ntmps89 J J (fun C=>?_);refine cl J (AG (l:=f.l)) J<|cl (fu:=⟨6⟩) J (lz (q:=f.l.dir.y) (i:=97)) J<|?_;rcases Int.lt_or_le (Int.sign f.l.dir.y.num) 0 with hu|hu
 .
  refine gx J<|?_;refine cs 19 J J J (fun hg19=>?_) (fun hg19=>?_)
  .
   exact rz J (by rw[oy hf.nl hf.nh];(repeat' split)<;>first|rfl|(exfalso;omega))
  .
   refine cl J (CO (l:=f.l) (p:=p) (i:=i) (by omega)) J<|?_;refine br (fu2:=⟨5⟩) J J J (fun hc26=>?_) (fun hc26=>?_)
   .
    exact rz J (by rw[oy hf.nl hf.nh];(repeat' split)<;>first|rfl|(exfalso;omega))
   .
    refine uT (fu:=⟨1⟩) (rJ f) J (fun G y hy=>ur hf.sm hy) J<|uT (fu:=⟨8⟩) (rJ f) J (fun G y hy=>ur hf.sm hy) J<|lB (fu:=⟨14⟩) J (by show some (decide _)=some true;rw[decide_eq_true (by omega)]) J<|?_;refine rG (fu:=⟨12⟩) (ds1:=[cC f]) (ds2:=[]) J (.cons (vj hf.sm) (cF.2 J)) (cF.2 J) (Eo hf) J<|?_;refine i8 41 J ?_;refine gx J<|cl J (kx (i:=3000) (j:=i) (by decide) (by omega)) J<|?_;refine br (fu2:=⟨6⟩) J J J (fun hc48=>?_) (fun hc48=>?_)
    .
     exact rz J (by rw[oy hf.nl hf.nh];(repeat' split)<;>first|rfl|(exfalso;omega))
    .
     refine rG (fu:=⟨12⟩) (ds1:=[cC f]) (ds2:=[]) J (.cons (vj hf.sm) (cF.2 J)) (cF.2 J) (Ff hf) J<|?_;refine i8 55 J ?_;refine gx J<|cl J (kx (i:=3000) (j:=i) (by decide) (by omega)) J<|?_;refine br J J J (fun hc62=>?_) (fun hc62=>?_)
     .
      exact rz J (by rw[oy hf.nl hf.nh];(repeat' split)<;>first|rfl|(exfalso;omega))
     .
      exact rz J (by rw[oy hf.nl hf.nh];(repeat' split)<;>first|rfl|(exfalso;omega))
 .
  refine gx J<|?_;refine cs 19 J J J (fun hg19=>?_) (fun hg19=>?_)
  .
   exact rz J (by rw[oy hf.nl hf.nh];(repeat' split)<;>first|rfl|(exfalso;omega))
  .
   refine cl J (CO (l:=f.l) (p:=p) (i:=i) (by omega)) J<|?_;refine br (fu2:=⟨5⟩) J J J (fun hc26=>?_) (fun hc26=>?_)
   .
    exact rz J (by rw[oy hf.nl hf.nh];(repeat' split)<;>first|rfl|(exfalso;omega))
   .
    refine uT (fu:=⟨1⟩) (rJ f) J (fun G y hy=>ur hf.sm hy) J<|uT (fu:=⟨8⟩) (rJ f) J (fun G y hy=>ur hf.sm hy) J<|ij (fu:=⟨9⟩) J (by show some (decide _)=some false;rw[decide_eq_false (by omega)]) J<|?_;refine rG (fu:=⟨12⟩) (ds1:=[cC f]) (ds2:=[]) J (.cons (vj hf.sm) (cF.2 J)) (cF.2 J) (Ff hf) J<|?_;refine i8 41 J ?_;refine gx J<|cl J (kx (i:=3000) (j:=i) (by decide) (by omega)) J<|?_;refine br (fu2:=⟨6⟩) J J J (fun hc48=>?_) (fun hc48=>?_)
    .
     exact rz J (by rw[oy hf.nl hf.nh];(repeat' split)<;>first|rfl|(exfalso;omega))
    .
     refine rG (fu:=⟨12⟩) (ds1:=[cC f]) (ds2:=[]) J (.cons (vj hf.sm) (cF.2 J)) (cF.2 J) (Eo hf) J<|?_;refine i8 55 J ?_;refine gx J<|cl J (kx (i:=3000) (j:=i) (by decide) (by omega)) J<|?_;refine br J J J (fun hc62=>?_) (fun hc62=>?_)
     .
      exact rz J (by rw[oy hf.nl hf.nh];(repeat' split)<;>first|rfl|(exfalso;omega))
     .
      exact rz J (by rw[oy hf.nl hf.nh];(repeat' split)<;>first|rfl|(exfalso;omega))
def Ld{E:List aP}(hE: ∀f∈E,FE f)(hn:E.length<=1000000){p:aa}{i:Nat}[hp:aw p i](hi:i<=100000:=by decide):PF GB prog 44 [.sl (E.map cC),eZ p] (vI (dG E p)):=by
 have hml:(E.map cC).length=E.length:=aK ..;refine fn (fu:=⟨16⟩) func44 J J ntmps44 J J (fun C=>?_);refine ak 9 (.d (vI (E.length:Nat))) J (by rw[hml]<;>rfl) ?_;refine gx J<|?_;refine lp (X:=Nat) (fun k=>[(10, .d (vI (k:Nat))),(5, .d (vI (dG (E.take k) p)))]) (fun k=>[]) (fun k=>k<=E.length) (fun k=>E.length-k) 0 J (cK _) (fun _=>J) (fun k hk=>?_);have hw:=F0 E p k;refine br J J J (fun hc11=>?_) (fun hc11=>?_)
 .
  obtain⟨f,hx⟩: ∃u,E[k]? =some u:=⟨_,aX (by omega)⟩;have hf:=hE f (bJ hx);have hcl:=JA f p;refine ix _ J (f9 hx) J<|cl J (SS hf (p:=p) (i:=i) hi) J<|?_;refine ak 5 (.d (vI (dG (E.take (k+1)) p))) J (by rw[Lk hx]<;>rfl) ?_;exact at_ (k+1) ⟨(by omega),(by omega)⟩
 .
  obtain rfl:k=E.length:=by omega
  rw[fJ];exact rz J J
def Vi{f:aP}(hf:FE f){p:aa}{i:Nat}[hp:aw p i](hi:i<=100000:=by decide):PF GB prog 109 [cC f, .pt [vI (dz p.x),vI (du p.x),dl p.x,vI (dz p.y),vI (du p.y),dl p.y]] (vB (gu f p)):=by
 refine fn func109 J J ntmps109 J J (fun C=>?_);refine ul 1 J<|gx J<|cl J (BO hf (p:=p) (i:=i) hi) J<|?_;exact rz J J
def QO{E:List aP}(hn:E.length<=1000000){f:FuncId}{pv:Value}{dp:DV}(hp:Is GB dp pv){g:aP->Bool}(hF: ∀x∈E,PF GB prog f [cC x,dp] (vB (g x))):PF GB prog 108 [.sl (E.map cC), .v (.func (.func f) ⟨[]⟩ ⟨[pv]⟩)] (vB (E.any g)):=by
 refine fn func108 J J ntmps108 J J (fun C=>?_);refine cx J (SP hn hp hF) (fun _=>J) (fun⟨j,hj,hj1,hj2⟩=>?_)
 try dsimp only
 exact rz J (by show DV.v (.bool (decide _))= .v (.bool _);congr 2;rw[Bool.eq_iff_iff,decide_eq_true_eq];exact hj)
def Lo{E:List aP}(hE: ∀f∈E,FE f)(hn:E.length<=1000000){p:aa}{i:Nat}[hp:aw p i](hi:i<=100000:=by decide):PF GB prog 59 [.sl (E.map cC),eZ p] (vB (E.any fun f=>gu f p)):=by
 refine fn (fu:=⟨9⟩) func59 J J ntmps59 J J (fun C=>?_);refine fz 3 J J ?_;refine uC 3 J (fun GB' pv hg hpv=>?_);refine HP J J<|cl J (QO (E:=E) hn hpv (fun f hf=>Vi (hE f hf) (p:=p) (i:=i) hi)) J<|?_;exact rz J J
def mB(v:List aa):List (List DV):=(List.range v.length).map fun i=>[vI (i:Nat),y4 (v.getD i ⟨0,0⟩) (v.getD ((i+1)%v.length) ⟨0,0⟩)]
def Hs{v:List aa}{i:Nat}{p q:aa}(h1:v[i]? =some p)(h2:v[(i+1)%v.length]? =some q):(mB v)[i]? =some [vI (i:Nat),y4 p q]:=by
 have hi:=(aS.1 h1).1;unfold mB;rw[fS,qT hi,iL,aJ,aJ,h1,h2];rfl
def KV{v:List aa}{i:Nat}{e:List DV}(h:(mB v)[i]? =some e): ∃p q,v[i]? =some p/\v[(i+1)%v.length]? =some q/\e=[vI (i:Nat),y4 p q]:=by
 have hi:i<v.length:=by
  have:=(aS.1 h).1;unfold mB at this;simpa using this
 have h1:v[i]? =some v[i]:=aX hi;have hm:(i+1)%v.length<v.length:=cS _ (by omega);have h2:v[(i+1)%v.length]? =some v[(i+1)%v.length]:=aX hm;refine⟨_,_,h1,h2,?_⟩;rw[Hs h1 h2] at h;exact(Option.some.inj h).symm
def HB{v:List aa}: ∀e∈mB v,e.length=2:=fun e he=>by
 obtain⟨i,_,rfl⟩:=bK.1 he;rfl
def Ia{v:List aa}(hn:v.length<=100000):It GB prog 189 [.pt [.sl (v.map eZ)]] (mB v):=by
 have hml:(v.map eZ).length=v.length:=aK ..;have hrl:(mB v).length=v.length:=by unfold mB;simp
 refine N3 func189 J J ntmps189 J (fun _=>J) (fun l Jv Jx GB' hg H C hp hJ=>?_);refine ul 1 J<|gx J<|?_;refine ak 6 (.d (vI (v.length:Nat))) J (by rw[hml]<;>rfl) ?_;refine Ux (X:=Nat) (fun k=>[(0, .d (.v (.func (.yield l) #[] #[]))),(1, .ep [.sl (v.map eZ)]),(5, .d (.sl (v.map eZ))),(6, .d (vI (v.length:Nat))),(7, .d (vI (k:Nat)))]) (fun k C=>k<=v.length/\Jv k C.G0 C.w0) (fun k=>v.length-k) 0 hp ⟨cK _,hJ⟩ (fun _=>J) (fun k C1 hp1 hk=>?_);obtain⟨hk1,hJ1⟩:=hk;refine br J J J (fun hc8=>?_) (fun hc8=>?_)
 ·obtain⟨p,hpx⟩: ∃u,v[k]? =some u:=⟨_,aX (by omega)⟩
  obtain⟨q,hqx⟩: ∃u,v[(k+1)%v.length]? =some u:=⟨_,aX (cS _ (by omega))⟩;refine ix _ J (f9 hpx) J<|?_;refine ak 20 (.d (vI (((k+1)%v.length:Nat):Int))) J (by rw[hml]<;>rfl) ?_;refine gx J<|ix _ J (f9 hqx) J<|Xq (len:=2) (s:=6) (e:=103) J (by kernel_rfl) (by kernel_rfl) J<|?_;refine PL (by kernel_rfl) J ?_;refine cy [(0, .d (.v (.func (.yield l) #[] #[]))),(1, .ep [.sl (v.map eZ)]),(5, .d (.sl (v.map eZ))),(6, .d (vI (v.length:Nat))),(7, .d (vI (k:Nat)))] H hp1 hJ1 J (Hs hpx hqx) J (by repeat (first|exact trivial|refine And.intro J ?_)) J J J (fun C3 hp3 hJ3=>?_) (fun C3 hp3 hJ3=>?_)
  ·exact PA (k+1) hp3 ⟨⟨by omega,hJ3⟩,by omega⟩
  ·exact J8 H hp3 (.inr hJ3) J
 ·obtain rfl:k=v.length:=by omega
  exact J8 H hp1 (.inl (by rw[hrl];exact hJ1)) J
def Iz{v:List aa}:Dd GB prog 136 [.sl (v.map eZ)] 189 (.pt [.sl (v.map eZ)]):=by
 refine Tg func136 J J ntmps136 J J (fun C=>?_);refine fz 1 J J ?_;refine uC 1 J (fun GB' pv hg hp=>?_);refine HP J J ?_;exact VY J J hp
def U1:BB 101:=fun x w=>by kernel_rfl
def Tq(m:List Value):Aq 101 (.agg ⟨m⟩) "Mul" 204:=fun w=>by kernel_rfl
def OM(l:List Rat)(k:Nat)(y:Rat):(l.map eF).set k (eF y)=(l.set k y).map eF:=(pT ..).symm
def kI(L:List Rat)(k:Rat)(j:Nat):List Rat:=(L.take j).map (· *k)++L.drop j
def Rn(L:List Rat)(k:Rat)(j:Nat):(kI L k j).length=L.length:=by
 unfold kI;rw[cZ,aK,cW,lY];omega
def Uq{L:List Rat}{k a:Rat}{j:Nat}(h:L[j]? =some a):(kI L k j)[j]? =some a:=by
 have hj:=(aS.1 h).1;unfold kI;rw[fL (by rw[aK,cW];omega),aK,cW,kV,<-h];congr 1;omega
def Sy{L:List Rat}{k a:Rat}{j:Nat}(h:L[j]? =some a):(kI L k j).set j (a*k)=kI L k (j+1):=by
 have hj:=(aS.1 h).1;unfold kI;rw[fX,h,List.set_append_right _ _ (by rw[aK,cW];omega),aK,cW,show j-min j L.length=0 by omega,cV hj];simp only[Option.toList_some,gX,dX,jV,List.set_cons_zero,gK,jU,kK]
def IF{L:List Rat}{k:Rat}{i:Nat}[hk:BQ k i](hL: ∀a∈L,¬ee a)(hb: ∀a∈L,BQ a i)(hn:L.length<=1000)(hi:i<=1000000:=by decide):PB GB prog 245 (lg [some (eF k),none]) 3 101 (L.map eF) (fun w=> .v (.slice w.a w.n w.c)) ((L.map (· *k)).map eF):=by
 have hml:(L.map eF).length=L.length:=aK ..;refine Ec (fu:=⟨11⟩) func245 J J ntmps245 J J (fun C=>?_);refine ak 7 (.d (vI (L.length:Nat))) J (by rw[hml]<;>rfl) ?_;refine gx J<|?_;refine lp (X:=Nat) (fun j=>[(8, .d (vI (j:Nat)))]) (fun j=>[(1000000,some (.b 101 3 ((kI L k j).map eF) false))]) (fun j=>j<=L.length) (fun j=>L.length-j) 0 J (cK _) (fun _=>J) (fun j hk=>?_);have hsl:=Rn L k j;have hsm:((kI L k j).map eF).length=(kI L k j).length:=aK ..;refine br J J J (fun hc9=>?_) (fun hc9=>?_)
 .
  obtain⟨a,hx⟩: ∃u,L[j]? =some u:=⟨_,aX (by omega)⟩;have ham:=bJ hx;haveI:=hb a ham;have hga:(kI L k j)[j]? =some a:=Uq hx;refine lb (fu:=⟨0⟩) _ J (f9 hga) J<|To (fu:=⟨1⟩) (rV a) J U1 (fun G y hy=>Rb (hL a ham) hy) J<|OG J (Tq _) (PF.arg0 (p8 (p:=a) (q:=k) (i:=i) (j:=i) (by omega) (by omega)) (fun G y h=>by rw[bp.1 h];exact Pg (hL a ham))) J<|?_;refine sb (hv:=by simp only[ah];exact⟨by kernel_rfl,by omega⟩) _ ((kI L k (j+1)).map eF) J (f9 hga) J (by rw[<-Sy hx,<-OM]<;>rfl) J<|?_;exact at_ (j+1) ⟨(by omega),(by omega)⟩
 .
  obtain rfl:j=L.length:=by omega
  have hend:kI L k L.length=L.map (· *k):=by unfold kI;rw[fJ,jR,oM]
  exact xo J J J (by rw[hend])
def E2{a:Int}{g:Nat}(hg:0<g)(hd:g∣a.natAbs):(a:Rat)*(((g:Nat):Int):Rat)⁻¹=((zv (decide (a<0)) (a.natAbs/g):Int):Rat):=by
 obtain⟨q,hq⟩:=hd;have e:zv (decide (a<0)) (a.natAbs/g)*(g:Int)=a:=by
  rw[hq,pW q hg];unfold zv;have hc:((g*q:Nat):Int)=(g:Int)*(q:Int):=by simp
  have hm:=Int.mul_comm (g:Int) (q:Int);split
  ·rename_i h
   have h:=of_decide_eq_true h;rw[Int.neg_mul];omega
  ·rename_i h
   have h: ¬a<0:=fun k=>h (decide_eq_true k);omega
 generalize zv (decide (a<0)) (a.natAbs/g)=z at*;have h0:((g:Int):Rat)≠0:=by
  intro k;have:(g:Int)=0:=by exact_mod_cast k
  omega
 rw[<-e,cY];generalize ((g:Int):Rat)=r at*;grind
def qp{z:Int}(h:z.natAbs<=1000000): ¬ee (z:Rat):=fun k=>k ⟨by show z.natAbs<_;omega,by show 1<_;decide⟩
def Hx{q:Rat}{k:Nat}(h:BQ q k)(hk:k<=62): ¬ee q:=fun b=>b (by
 have hp:2^k<=2^62:=bQ (by decide) hk;have e:(2:Nat)^62=4611686018427387904:=by decide
 obtain⟨h1,h2⟩:=h;exact⟨by omega,by omega⟩)
theorem uN(p q:aa){i j:Nat}[aw p i][aw q j]:aw ⟨p.x-q.x,p.y-q.y⟩ (i+j+1):=⟨inferInstanceAs (BQ (p.x-q.x) _),inferInstanceAs (BQ (p.y-q.y) _)⟩
theorem gD{z:Int}(h:z.natAbs<=1000000):BQ (z:Rat) 22:=by
 have e:(2:Nat)^21=2097152:=by decide
 haveI:BI z 21:=⟨by omega⟩;exact(inferInstance:BQ (z:Rat) 22)
def Tx{a b c:Int}(ha:a.natAbs<=1000000)(hb:b.natAbs<=1000000)(hc:c.natAbs<=1000000)(h0: ¬(a=0/\b=0)):PF GB prog 226 [eF (a:Rat),eF (b:Rat),eF (c:Rat)] (.tp [oo (fH a b c),vB true]):=by
 haveI:=gD ha;haveI:=gD hb;haveI:=gD hc;have hgn:Nat.gcd a.natAbs b.natAbs≠0:=fun h=>h0 ⟨lS.1 (mU h),lS.1 (mK h)⟩;have hgp:0<Nat.gcd (Nat.gcd a.natAbs b.natAbs) c.natAbs:=kM _ (gW hgn);have eg:rgcd (rgcd (a:Rat) b) c=(((Nat.gcd (Nat.gcd a.natAbs b.natAbs) c.natAbs:Nat):Int):Rat):=by rw[EO,EO];rfl
 have e1:(a:Rat)*(rgcd (rgcd (a:Rat) b) c)⁻¹=((fH a b c).a:Rat):=by rw[eg];exact E2 hgp (oR (jZ _ _) (jZ _ _))
 have e2:(b:Rat)*(rgcd (rgcd (a:Rat) b) c)⁻¹=((fH a b c).b:Rat):=by rw[eg];exact E2 hgp (oR (jZ _ _) (kJ _ _))
 have e3:(c:Rat)*(rgcd (rgcd (a:Rat) b) c)⁻¹=((fH a b c).c:Rat):=by rw[eg];exact E2 hgp (kJ _ _)
 haveI:BQ (rgcd (a:Rat) b) 200:=BQ.mono (inferInstance:BQ (rgcd (a:Rat) b) _) (by decide);haveI:BQ (rgcd (rgcd (a:Rat) b) c) 600:=BQ.mono (inferInstance:BQ (rgcd (rgcd (a:Rat) b) c) _) (by decide);haveI:BQ (rgcd (rgcd (a:Rat) b) c)⁻¹ 600:=BQ.mono (inferInstance:BQ (rgcd (rgcd (a:Rat) b) c)⁻¹ _) (by decide);have hl4:([((fH a b c).a:Rat),((fH a b c).b:Rat),((fH a b c).c:Rat)].map eF).length=3:=J;have hl3:[((fH a b c).a:Rat),((fH a b c).b:Rat),((fH a b c).c:Rat)].length=3:=J;refine fn func226 J J ntmps226 J J (fun C=>?_);refine cl J (y7 (q:=(a:Rat))) J<|?_;refine csd 11 J J J (fun hg11=>?_) (fun hg11=>?_)
 .
  refine cl J (y7 (q:=(b:Rat))) J<|?_;refine bd J J J (fun hc14=>?_) (fun hc14=>?_)
  .
   exact absurd ⟨by exact_mod_cast hg11,by exact_mod_cast hc14⟩ h0
  .
   refine cl J (vD (p:=(a:Rat)) (q:=(b:Rat)) (i:=22) (j:=22)) J<|cl J (vD (p:=rgcd (a:Rat) b) (q:=(c:Rat)) (i:=200) (j:=22)) J<|?_;refine cl rfl (yX (q:=rgcd (rgcd (a:Rat) b) c) (i:=600)) rfl<|ro (fu:=⟨0⟩) J J<|cq (hv:=by simp only[ah];exact⟨by kernel_rfl,by omega⟩) ([((fH a b c).a:Rat),((fH a b c).b:Rat),((fH a b c).c:Rat)].map eF) rfl (IF (L:=[(a:Rat),(b:Rat),(c:Rat)]) (k:=(rgcd (rgcd (a:Rat) b) c)⁻¹) (i:=600) (by intro q hq;simp only[aU,jS,or_false] at hq;rcases hq with rfl|rfl|rfl;exact qp ha;exact qp hb;exact qp hc) (by intro q hq;simp only[aU,jS,or_false] at hq;rcases hq with rfl|rfl|rfl;exact(gD ha).mono (by decide);exact(gD hb).mono (by decide);exact(gD hc).mono (by decide)) (nb rfl)) (by simp only[dX,jV,e1,e2,e3]) rfl<|?_;refine lb _ J J J<|lb _ J J J<|lb _ J J J<|?_;exact rz J J
 .
  refine cl J (vD (p:=(a:Rat)) (q:=(b:Rat)) (i:=22) (j:=22)) J<|cl J (vD (p:=rgcd (a:Rat) b) (q:=(c:Rat)) (i:=200) (j:=22)) J<|?_;refine cl rfl (yX (q:=rgcd (rgcd (a:Rat) b) c) (i:=600)) rfl<|ro (fu:=⟨0⟩) J J<|cq (hv:=by simp only[ah];exact⟨by kernel_rfl,by omega⟩) ([((fH a b c).a:Rat),((fH a b c).b:Rat),((fH a b c).c:Rat)].map eF) rfl (IF (L:=[(a:Rat),(b:Rat),(c:Rat)]) (k:=(rgcd (rgcd (a:Rat) b) c)⁻¹) (i:=600) (by intro q hq;simp only[aU,jS,or_false] at hq;rcases hq with rfl|rfl|rfl;exact qp ha;exact qp hb;exact qp hc) (by intro q hq;simp only[aU,jS,or_false] at hq;rcases hq with rfl|rfl|rfl;exact(gD ha).mono (by decide);exact(gD hb).mono (by decide);exact(gD hc).mono (by decide)) (nb rfl)) (by simp only[dX,jV,e1,e2,e3]) rfl<|?_;refine lb _ J J J<|lb _ J J J<|lb _ J J J<|?_;exact rz J J
theorem qz{z:ZP}(h:ZP.le 100 z):aw z.q 22:=⟨gD (by have:=h.1;omega),gD (by have:=h.2;omega)⟩
def rU{a b:Int}{m n:Nat}(ha:a.natAbs<=m)(hb:b.natAbs<=n):(a*b).natAbs<=m*n:=by
 rw[iX];exact mN ha hb
def PK{v w:ZP}(hv:ZP.le 100 v)(hw:ZP.le 100 w)(h:v≠w):PF GB prog 190 [eZ v.q,eZ w.q] (.tp [oo (iF v.1 v.2 w.1 w.2),vB true]):=by
 haveI:=qz hv;haveI:=qz hw;have hv1:=hv.1;have hv2:=hv.2;have hw1:=hw.1;have hw2:=hw.2;obtain⟨A,hA⟩: ∃A,A=i9 v.2 w.2:=⟨_,rfl⟩;obtain⟨B,hB⟩: ∃B,B=i6 v.1 w.1:=⟨_,rfl⟩;obtain⟨C0,hC⟩: ∃C0,C0=n4 v.1 v.2 w.1 w.2:=⟨_,rfl⟩;have bA:A.natAbs<=200:=by rw[hA];unfold i9;omega
 have bB:B.natAbs<=200:=by rw[hB];unfold i6;omega
 have m1:=rU bA hv1;have m2:=rU bB hv2;have eC:C0= -(A*v.1+B*v.2):=by rw[hC,hA,hB];rfl
 have bC:C0.natAbs<=40000:=by rw[eC];omega
 have h0: ¬(A=0/\B=0):=fun k=>h (Prod.ext (by have:=k.2;rw[hB] at this;unfold i6 at this;omega) (by have:=k.1;rw[hA] at this;unfold i9 at this;omega));haveI:aw (iP A B) 22:=⟨gD (by omega),gD (by omega)⟩;haveI:BQ ((A*v.1+B*v.2:Int):Rat) 22:=gD (by omega);have eT:fG ⟨w.q.x-v.q.x,w.q.y-v.q.y⟩=iP A B:=by rw[hA,hB];unfold fG iP i9 i6 ZP.q iP;simp only[aa.mk.injEq];push_cast;constructor<;>grind
 have eD:(iP A B).dot v.q=((A*v.1+B*v.2:Int):Rat):=by unfold aa.dot iP ZP.q iP;push_cast;rfl
 have eN: -((A*v.1+B*v.2:Int):Rat)=((C0:Int):Rat):=by rw[eC];push_cast;rfl
 refine fn func190 J J ntmps190 J J (fun C=>?_);refine cl J (Eg (p:=w.q) (q:=v.q) (i:=22) (j:=22)) J<|cl (fu:=⟨0⟩) J (II (p:=⟨w.q.x-v.q.x,w.q.y-v.q.y⟩) (i:=45) (h:=uN w.q v.q)) J<|?_;refine ak 12 (.d (eZ (iP A B))) J (by rw[eT]) ?_;refine gx J<|cl (fu:=⟨0⟩) J (pA (p:=iP A B) (q:=v.q) (i:=22) (j:=22)) J<|?_;refine ak 19 (.d (eF ((A*v.1+B*v.2:Int):Rat))) J (by rw[eD]) ?_;refine gx J<|cl (fu:=⟨0⟩) J (sd (q:=((A*v.1+B*v.2:Int):Rat)) (i:=22)) J<|?_;refine ak 20 (.d (eF ((C0:Int):Rat))) J (by rw[eN]) ?_;refine gx J<|cl J (Tx (a:=A) (b:=B) (c:=C0) (by omega) (by omega) (by omega) h0) J<|?_;exact rz J (by rw[hA,hB,hC];rfl)
theorem LN{l:ab}(ho:l.ok)(ha:l.a.natAbs<=200)(hb:l.b.natAbs<=200){m n:Int}(hm:m.natAbs<=100)(hn:n.natAbs<=100):BQ (co l (iP m n)) 60:=by
 have hd:=wP ho.ne;have p1:=rU ha ha;have p2:=rU hb hb;have p3:=rU hm hb;have p4:=rU hn ha;have h60:(2:Nat)^60=1152921504606846976:=by decide
 have hA:BI (l.a*l.a+l.b*l.b) 60:=⟨by omega⟩;have hB:BI (m*l.b-n*l.a) 60:=⟨by omega⟩;have e1:l.dir.dot l.dir=((l.a*l.a+l.b*l.b:Int):Rat):=by
  rw[nW,cY,cY];simp only[ab.dir,aa.dot];grind
 have e2:(iP m n).dot l.dir=((m*l.b-n*l.a:Int):Rat):=by
  rw[lQ,cY,cY];simp only[ab.dir,aa.dot,iP];grind
 have hd':((0:Int):Rat)<((l.a*l.a+l.b*l.b:Int):Rat):=by rw[<-e1];exact hd
 unfold co;rw[e2,e1];clear e1 e2 p1 p2 p3 p4;generalize l.a*l.a+l.b*l.b=D at*;generalize m*l.b-n*l.a=M at*;have hD:0<D:=Rat.intCast_lt_intCast.1 hd';refine BQ.of_fracI (n:=M) (D:=D) (by omega) ?_ hB hA;have h0:(D:Rat)≠0:=fun e=>by rw[e] at hd';exact absurd hd' (by decide)
 have:((D.natAbs:Nat):Rat)=(D:Rat):=by
  have h1:((D.natAbs:Nat):Int)=D:=by omega
  rw[<-h1];rfl
 rw[this];grind
def Ju{v w:ZP}(hv:ZP.le 100 v)(hw:ZP.le 100 w)(h:v≠w):FE (ba v w):=by
 have hf:=GA hv hw h;have hv1:=hv.1;have hv2:=hv.2;have hw1:=hw.1;have hw2:=hw.2;have bA:(i9 v.2 w.2).natAbs<=200:=by unfold i9;omega
 have bB:(i6 v.1 w.1).natAbs<=200:=by unfold i6;omega
 have m1:=rU bA hv1;have m2:=rU bB hv2;have bC:(n4 v.1 v.2 w.1 w.2).natAbs<=40000:=by unfold n4;omega
 obtain⟨k1,k2,k3⟩:=FJ (i9 v.2 w.2) (i6 v.1 w.1) (n4 v.1 v.2 w.1 w.2);have ea:(ba v w).l.a.natAbs<=200:=fY k1 bA;have eb:(ba v w).l.b.natAbs<=200:=fY k2 bB;have ec:(ba v w).l.c.natAbs<=40000:=fY k3 bC;exact⟨hf,⟨qp (by omega),qp (by omega),qp (by omega),Hx (LN hf.ok ea eb hv1 hv2) (by decide),Hx (LN hf.ok ea eb hw1 hw2) (by decide)⟩,J,J⟩
def Po{r:List ZP}(h:cB r): ∀f∈i4 r,FE f:=fun f hf=>by
 obtain⟨k,hk,rfl⟩:=BU hf;exact Ju (h.le _ (rm hk)) (h.le _ (vo hk)) (h.ne k hk)
def EE{rs:List (List ZP)}(h: ∀r∈rs,cB r): ∀f∈bz rs,FE f:=fun f hf=>by
 obtain⟨r,h1,h2⟩:=cR.1 hf;exact Po (h r h1) f h2
def Of{v w:ZP}(hv:ZP.le 100 v)(hw:ZP.le 100 w)(h:v≠w):PF GB prog 137 [eZ v.q,eZ w.q] (.tp [cC (ba v w),vB true]):=by
 have hf:=Ju hv hw h;haveI:LB (iF v.1 v.2 w.1 w.2):=hf.fo.lb;haveI:=qz hv;haveI:=qz hw;refine fn func137 J J ntmps137 J J (fun C=>?_);refine cl (fu:=⟨12⟩) J (PK hv hw h) J<|?_;refine i8 14 J ?_;refine gx J<|cl J (xh (l:=iF v.1 v.2 w.1 w.2) (p:=v.q) (i:=22)) J<|cl J (xh (l:=iF v.1 v.2 w.1 w.2) (p:=w.q) (i:=22)) J<|?_;exact rz J J
def yc{r:List ZP}{k:Nat}{p:aa}(h:(r.map ZP.q)[k]? =some p):k<r.length/\p=(r.getD k (0,0)).q:=by
 rw[fS] at h
 cases e:r[k]? with
 |none=>rw[e] at h;cases h
 |some z=>
  rw[e] at h;cases h;exact⟨(aS.1 e).1,by rw[aJ,e];rfl⟩
def ye(r:List ZP): ∀n,(jF r n).length=n
 |0=>rfl
 |n+1=>by rw[jF,cZ,ye r n];rfl
def Jf{r:List ZP}{k:Nat}: ∀{n:Nat},k<n->(jF r n)[k]? =some (ba (r.getD k (0,0)) (ci r k))
 |0,h=>by omega
 |n+1,h=>by
  rw[jF];by_cases e:k=n
  ·subst e
   rw[fL (by rw[ye];omega),ye,Nat.sub_self];rfl
  ·rw[dR (by rw[ye];omega)]
   exact Jf (by omega)
def Li(l:List aP):gn 17 (l.map cC):=fun d hd=>by
 obtain⟨x,_,rfl⟩:=bK.1 hd;exact⟨J,J⟩
def TY{L:List aP}{k:Nat}{l:aP}(h:L[k]? =some l):((L.take k).map cC)++[cC l]=(L.take (k+1)).map cC:=by
 rw[fX,h,gX];rfl
def Rw{r:List ZP}(h:cB r):PF GB prog 88 [.sl ((r.map ZP.q).map eZ)] (.sl ((i4 r).map cC)):=by
 have hn:=h.n6;obtain⟨v,hv⟩: ∃v,v=r.map ZP.q:=⟨_,rfl⟩;have hvl:v.length=r.length:=by rw[hv,aK]
 rw[<-hv];have hel:(i4 r).length=r.length:=(sN h).1;have hrl:(mB v).length=r.length:=by unfold mB;rw[aK,pL,hvl]
 refine H5 func88 J J ntmps88 J J (fun C h0=>?_);refine JM J J J Iz (fun _=>J) (fun GB1 pv hg1 hpv=>?_);refine QM 3 0 50 130 17 J J J J J ?_;refine Dg 3 2000003 h0.fx J ?_;refine M6 (σ:=Empty) (fun k=>[(2000003,some (.o 96 [.rw 50] true)),(50,some (.b 130 17 (((i4 r).take k).map cC) true))]) (fun _=>True) (fun _=>[]) (fun _=>False) [(3, .ov 2000003 0)]
  h0 J (Ia (by omega)) (.cons hpv .nil) ⟨J,trivial⟩ J ⟨J,J,trivial⟩ trivial HB J J (fun k e GB' hE hg hp=>?_) (fun D hD hx hp=>?_) (fun D s hD hx hq=>hq.elim)
 ·obtain⟨p,q,hpx,hqx,rfl⟩:=KV hE
  rw[hvl] at hqx;rw[hv] at hpx hqx;obtain⟨hk,rfl⟩:=yc hpx;obtain⟨hk2,rfl⟩:=yc hqx;have hx:(i4 r)[k]? =some (ba (r.getD k (0,0)) (ci r k)):=Jf hk;have hml:(((i4 r).take k).map cC).length=k:=by rw[aK,cW];omega
  refine⟨?_,?_,fun C2=>?_,fun C2=>?_⟩
  rotate_left 2
  ·refine gx J<|My J J J ⟨J,J,J⟩ J ?_
   exact atR
  ·refine gx J<|xN 0 (e:=103) (len:=2) (s:=6) J (by kernel_rfl) (by kernel_rfl) (by decide) J<|xN 1 (e:=103) (len:=2) (s:=6) J (by kernel_rfl) (by kernel_rfl) (by decide) J<|?_
   refine cl J (Of (h.le _ (rm hk)) (h.le _ (vo hk)) (h.ne k hk)) J<|?_;refine rf J J<|ap (((i4 r).take (k+1)).map cC) J (TY hx) (Li [ba (r.getD k (0,0)) (ci r k)]) J<|?_;refine mt 23 50 J ?_;exact rq trivial ⟨J,J,trivial⟩
 ·rw[hrl,<-hel,fJ]
  refine gx J<|?_;refine n7 50 J ?_;exact FR hD hx J J
def ON{a i:Nat}[h:BN a i](hi:i<=1000000000:=by decide):PF GB prog 243 [dN a] (.v (.bool true)):=
 (KB (ds:=dg a) (dP _).2.1 (by have:=ku (a:=a) hi;omega)).to (by unfold vB;rw[decide_eq_true (dP a).2.2])
def LC{q:Rat}{i:Nat}[hq:BQ q i](hi:i<=1000000:=by decide):PF GB prog 223 [eR q] (.v (.bool true)):=by
 have hd:=q.den_pos;have hdl:0<(dg q.den).length:=gW fun e=>by have:=ve.1 e;omega
 have hml:((dg q.den).map dU).length=(dg q.den).length:=aK ..;have hco:Nat.gcd q.num.natAbs q.den=1:=q.reduced;refine fn func223 J J ntmps223 J J (fun C=>?_);refine cl (fu:=⟨0⟩) J (RU (m:=q.num) (i:=i) (h:=⟨hq.hn⟩) (by omega)) J<|?_;refine i8 5 J ?_;refine gx J<|cl (fu:=⟨0⟩) J (ON (a:=q.den) (i:=i) (h:=⟨hq.hd⟩) (by omega)) J<|?_;refine i8 10 J ?_;refine gx (fu:=⟨6⟩) J<|ij J (by show some (decide _)=some false;rw[decide_eq_false (by omega)]) J<|cl (fu:=⟨0⟩) J (DH (a:=q.num.natAbs) (b:=q.den) (i:=i) (j:=i) (h:=⟨hq.hn⟩) (k:=⟨hq.hd⟩) (by omega) (by omega)) J<|?_;refine ak 24 (.d (dN 1)) J (by rw[hco]) ?_;refine gx J<|cl J (r6 (a:=1) (i:=1) (h:=⟨by decide⟩)) J<|?_;exact rz J J
def Oy{p:aa}{i:Nat}[hp:aw p i](hi:i<=1000000:=by decide):PF GB prog 185 [jI p] (.v (.bool true)):=by
 refine fn func185 J J ntmps185 J J (fun C=>?_);refine cl (fu:=⟨0⟩) J (LC (q:=p.x) (i:=i) (by omega)) J<|?_;refine i8 5 J ?_;refine gx J<|cl J (LC (q:=p.y) (i:=i) (by omega)) J<|?_;exact rz J J
def Jj{m n:Int}(hm:m.natAbs<=1000000)(hn:n.natAbs<=1000000):PF GB prog 34 [vI m,vI n] (jI (iP m n)):=by
 haveI:=gD hm;haveI:=gD hn;haveI:aw (iP m n) 22:=⟨gD hm,gD hn⟩;refine fn func34 J J ntmps34 J J (fun C=>?_);refine cl J (xn (m:=m) (by omega)) J<|cl J (xn (m:=n) (by omega)) J<|cl J (Oi (p:=iP m n) (i:=22)) J<|?_;exact rz J J
def qb(l:List aa)(p:aa):Int:=match l.findIdx? (fun q=>decide (q.x=p.x/\q.y=p.y)) with
 |some i=>(i:Nat)
 |none=> -1
def Az{l:List aa}{p q:aa}{k:Nat}(hx:l[k]? =some q)(h:(l.take k).all (fun q=>!decide (q.x=p.x/\q.y=p.y))=true)(hq:q.x=p.x/\q.y=p.y):qb l p=(k:Nat):=by
 have hk:=(aS.1 hx).1;have e:l.findIdx? (fun q=>decide (q.x=p.x/\q.y=p.y))=some k:=by
  rw[List.findIdx?_eq_some_iff_getElem];refine⟨hk,?_,fun j hj=>?_⟩
  ·rw[(aS.1 hx).2];exact decide_eq_true hq
  ·have:=cM.1 h l[j] (by rw[List.mem_take_iff_getElem];exact⟨j,by omega,J⟩)
   simp at this⊢;intro a b;rcases this with k|k
   ·exact k a
   ·exact k b
 unfold qb;rw[e]
def UI{l:List aa}{p:aa}(h:l.all (fun q=>!decide (q.x=p.x/\q.y=p.y))=true):qb l p= -1:=by
 have e:l.findIdx? (fun q=>decide (q.x=p.x/\q.y=p.y))=none:=by
  rw[List.findIdx?_eq_none_iff];intro x hx;have:=cM.1 h x hx;simp at this⊢;intro a b;rcases this with k|k
  ·exact k a
  ·exact k b
 unfold qb;rw[e]
def T4{l:List aa}{k:Nat}{q:aa}{g:aa->Bool}(hx:l[k]? =some q)(h:(l.take k).all g=true)(hq:g q=true):(l.take (k+1)).all g=true:=by
 rw[fX,hx,List.all_append,h];simp[hq]
def R7{l:List aa}{p:aa}{i:Nat}[hp:aw p i](hl: ∀q∈l,aw q i)(hn:l.length<=100000)(hi:i<=1000000:=by decide):PF GB prog 187 [.sl (l.map eZ),eZ p] (vI (qb l p)):=by
 have hml:(l.map eZ).length=l.length:=aK ..;refine fn (fu:=⟨11⟩) func187 J J ntmps187 J J (fun C=>?_);refine ak 8 (.d (vI (l.length:Nat))) J (by rw[hml]<;>rfl) ?_;refine gx J<|?_;refine lp (X:=Nat) (fun k=>[(9, .d (vI (k:Nat)))]) (fun k=>[]) (fun k=>k<=l.length/\(l.take k).all (fun q=>!decide (q.x=p.x/\q.y=p.y))=true) (fun k=>l.length-k) 0 J ⟨cK _,J⟩ (fun _=>J) (fun k hk=>?_);obtain⟨hk,hall⟩:=hk;refine br J J J (fun hc10=>?_) (fun hc10=>?_)
 .
  obtain⟨q,hx⟩: ∃u,l[k]? =some u:=⟨_,aX (by omega)⟩;haveI:=hl q (bJ hx);refine ix _ J (f9 hx) J<|cl J (I1 (p:=q) (q:=p) (i:=i) hi) J<|?_;refine bd J J J (fun hc16=>?_) (fun hc16=>?_)
  .
   exact rz J (by rw[Az hx hall hc16];rfl)
  .
   exact at_ (k+1) ⟨⟨by omega,T4 hx hall (by rw[decide_eq_false hc16];rfl)⟩,(by omega)⟩
 .
  obtain rfl:k=l.length:=by omega
  rw[fJ] at hall;exact rz J (by rw[UI hall];rfl)
def eh(l:List aa):Nat->Nat
 |0=>0
 |k+1=>eh l k+if qb l (l.getD k ⟨0,0⟩)=(k:Nat) then 1 else 0
def ja(l:List aa)(k:Nat):Nat:=if 3<=eh l k then 3 else eh l k
def Rq{l:List aa}{k:Nat}(h:ja l k<3)(e:eh l (k+1)=eh l k+1):((ja l k:Nat):Int)+1=((ja l (k+1):Nat):Int):=by
 have a:ja l k=if 3<=eh l k then 3 else eh l k:=J
 have b:ja l (k+1)=if 3<=eh l (k+1) then 3 else eh l (k+1):=J
 split at a<;>split at b<;>omega
def H3{l:List aa}{k:Nat}(h: ¬ja l k<3\/eh l (k+1)=eh l k)(m:eh l k<=eh l (k+1)):((ja l k:Nat):Int)=((ja l (k+1):Nat):Int):=by
 have a:ja l k=if 3<=eh l k then 3 else eh l k:=J
 have b:ja l (k+1)=if 3<=eh l (k+1) then 3 else eh l (k+1):=J
 split at a<;>split at b<;>omega
def Pw(l:List aa)(k:Nat):ja l k<=3:=by unfold ja;split<;>omega
def Oo{l:List aa}{k:Nat}(h:3<=eh l k):ja l k=3:=by unfold ja;rw[if_pos h]
def y5{l:List aa}{k:Nat}{p:aa}(hx:l[k]? =some p)(h:qb l p=(k:Nat)):eh l (k+1)=eh l k+1:=by
 rw[eh,aJ,hx,iV,if_pos h]
def SH{l:List aa}{k:Nat}{p:aa}(hx:l[k]? =some p)(h: ¬qb l p=(k:Nat)):eh l (k+1)=eh l k:=by
 rw[eh,aJ,hx,iV,if_neg h];rfl
def MJ{l:List aa}{k:Nat}:eh l k<=eh l (k+1):=by rw[eh];split<;>omega
def Ob{v:List aa}{k:Nat}{p:aa}(h:v[k]? =some p):((v.take k).map eZ)++[eZ p]=(v.take (k+1)).map eZ:=by
 rw[fX,h,gX];rfl
def VU{r:List ZP}(h:cB r){k:Nat}(hk:k<r.length):decide ((r.getD k (0,0)).q.x=(ci r k).q.x/\(r.getD k (0,0)).q.y=(ci r k).q.y)=false:=decide_eq_false fun e=>h.ne k hk (wZ (by
 obtain⟨e1,e2⟩:=e;generalize (r.getD k (0,0)).q=a at*;generalize (ci r k).q=b at*
 cases a;cases b
 simp only[aa.mk.injEq];exact⟨e1,e2⟩))
def SM{r:List ZP}(h:cB r)(h3:3<=eh (r.map ZP.q) (r.map ZP.q).length):PF GB prog 135 [lD r] (.tp [.sl ((r.map ZP.q).map eZ), .v .nilIface]):=by
 have hn:=h.n6;obtain⟨v,hv⟩: ∃v,v=r.map ZP.q:=⟨_,rfl⟩;have hvl:v.length=r.length:=by rw[hv,aK]
 have hb: ∀p∈v,aw p 22:=fun p hp=>by rw[hv] at hp;obtain⟨z,hz,rfl⟩:=bK.1 hp;exact qz (h.le z hz)
 unfold lD;rw[<-hv] at h3⊢;have hm1:(v.map jI).length=v.length:=aK ..;have hm2:(v.map eZ).length=v.length:=aK ..;have hrl:(mB v).length=v.length:=by unfold mB;rw[aK,pL]
 refine H5 (fu:=⟨11⟩) func135 J J ntmps135 J J (fun C h0=>?_);refine ak 13 (.d (vI (v.length:Nat))) J (by rw[hm1]<;>rfl) ?_;refine gx (fu:=⟨0⟩) J<|ij (fu:=⟨15⟩) J (by show some (decide _)=some false;rw[decide_eq_false (by omega)]) J<|?_;refine ak 20 (.d (vI (v.length:Nat))) J (by rw[hm1]<;>rfl) ?_;refine gx J<|?_;refine nr 4 4 103 6 J J J ?_;refine lp (X:=Nat) (fun k=>[(21, .d (vI (k:Nat))),(4, .rw 4)]) (fun k=>[(4,some (.b 103 6 ((v.take k).map eZ) true))]) (fun k=>k<=v.length) (fun k=>v.length-k) 0 J (cK _) (fun _=>J) (fun k hk=>?_);have hm3:((v.take k).map eZ).length<=k:=by rw[aK,cW];omega
 refine br (fu2:=⟨0⟩) J J J (fun hc22=>?_) (fun hc22=>?_)
 .
  obtain⟨p,hx⟩: ∃u,v[k]? =some u:=⟨_,aX (by omega)⟩;haveI:=hb p (bJ hx);refine ix _ J (f9 hx) J<|cl (fu:=⟨0⟩) J (Oy (p:=p) (i:=22)) J<|?_;refine i8 27 J ?_;refine gx J<|cl J (vu (p:=p) (i:=22)) J<|rf J J<|ap ((v.take (k+1)).map eZ) J (Ob hx) (sW [p]) J<|?_;refine mt 41 4 J ?_;exact at_ (k+1) ⟨(by omega),(by omega)⟩
 .
  obtain rfl:k=v.length:=by omega
  rw[fJ];refine Sz 4 J ?_;refine gx (fu:=⟨15⟩) J<|?_;refine ak 44 (.d (vI (v.length:Nat))) J (by rw[hm2]<;>rfl) ?_;refine gx J<|?_;refine lp (X:=Nat) (fun k=>[(45, .d (vI (k:Nat))),(7, .d (vI ((ja v k):Nat)))]) (fun k=>[]) (fun k=>k<=v.length) (fun k=>v.length-k) 0 J (cK _) (fun _=>J) (fun k hk=>?_);have hdm:=Pw v k;refine br (fu2:=⟨9⟩) J J J (fun hc46=>?_) (fun hc46=>?_)
  .
   obtain⟨p,hx⟩: ∃u,v[k]? =some u:=⟨_,aX (by omega)⟩;haveI:=hb p (bJ hx);have hcm:=MJ (l:=v) (k:=k);refine ix _ J (f9 hx) J<|?_;refine cs 52 J J J (fun hg52=>?_) (fun hg52=>?_)
   .
    refine cl J (R7 (l:=v) (p:=p) (i:=22) hb (by omega)) J<|?_;refine br J J J (fun hc58=>?_) (fun hc58=>?_)
    .
     have he7:=Rq (by omega) (y5 hx (by omega));refine ak 7 (.d (vI (ja v (k+1):Nat))) J (by rw[he7]<;>rfl) ?_;exact at_ (k+1) ⟨(by omega),(by omega)⟩
    .
     have he7:=H3 (.inr (SH hx (by omega))) hcm;refine ak 7 (.d (vI (ja v (k+1):Nat))) J (by rw[he7]<;>rfl) ?_;exact at_ (k+1) ⟨(by omega),(by omega)⟩
   .
    have he7:=H3 (l:=v) (k:=k) (.inl (by omega)) hcm;refine ak 7 (.d (vI (ja v (k+1):Nat))) J (by rw[he7]<;>rfl) ?_;exact at_ (k+1) ⟨(by omega),(by omega)⟩
  .
   obtain rfl:k=v.length:=by omega
   have hd3:=Oo h3;refine ij (fu:=⟨9⟩) J (by show some (decide _)=some false;rw[decide_eq_false (by omega)]) J<|?_;refine JM J J J Iz (fun _=>J) (fun GB1 pv hg1 hpv=>?_);refine Dg 2 2000002 h0.fx J<|Dg 3 2000003 h0.fx J ?_;refine M6 (σ:=Empty) (fun _=>[(2000002,some (.o 164 [.nl] true)),(2000003,some (.o 51 [.d (.v .nilIface)] true))]) (fun _=>True) (fun _=>[]) (fun _=>False) [(2, .ov 2000002 0),(3, .ov 2000003 0),(4, .d (.sl (v.map eZ)))] h0 J (Ia (by omega)) (.cons hpv .nil) ⟨J,J,J,trivial⟩ J ⟨J,J,trivial⟩ trivial HB J J (fun k e GB' hE hg hp=>?_) (fun D hD hx hp=>?_) (fun D s hD hx hq=>hq.elim)
   ·obtain⟨p,q,hpx,hqx,rfl⟩:=KV hE
    rw[hvl] at hqx;rw[hv] at hpx hqx;obtain⟨hk,rfl⟩:=yc hpx;obtain⟨hk2,rfl⟩:=yc hqx;haveI:=qz (h.le _ (rm hk));haveI:=qz (h.le _ (vo hk));have hne:=VU h hk;refine⟨?_,?_,fun C2=>?_,fun C2=>?_⟩
    rotate_left 2
    ·refine gx J<|My J J J ⟨J,J,J⟩ J ?_
     exact atR
    ·refine gx J<|xN 0 (e:=103) (len:=2) (s:=6) J (by kernel_rfl) (by kernel_rfl) (by decide) J<|xN 1 (e:=103) (len:=2) (s:=6) J (by kernel_rfl) (by kernel_rfl) (by decide) J<|?_
     refine cl J (I1 (p:=(r.getD k (0,0)).q) (q:=(ci r k).q) (i:=22)) J<|?_;refine bd J J J (fun hc=>absurd (decide_eq_true hc) (by rw[hne];decide)) (fun hc=>?_);exact rq trivial ⟨J,J,trivial⟩
   ·refine gx J<|?_
    exact FR hD hx J J
structure l9 (r:List ZP):Prop where
 ok:cB r
 c3:3<=eh (r.map ZP.q) (r.map ZP.q).length
def qx(r:List ZP):DV:= .sl ((r.map ZP.q).map eZ)
def WQ(l:List (List ZP)):gn 1 (l.map qx):=fun d hd=>by
 obtain⟨x,_,rfl⟩:=bK.1 hd;exact⟨J,J⟩
def NH{L:List (List ZP)}{k:Nat}{l:List ZP}(h:L[k]? =some l):((L.take k).map qx)++[qx l]=(L.take (k+1)).map qx:=by
 rw[fX,h,gX];rfl
def U4{L:List (List ZP)}{k:Nat}{l:List ZP}(h:L[k]? =some l):((bz (L.take k)).map cC)++((i4 l).map cC)=(bz (L.take (k+1))).map cC:=by
 rw[WC h,gX]
def Om{rs:List (List ZP)}(h: ∀r∈rs,l9 r)(hn:rs.length<=200):PF GB prog 87 [.sl (rs.map lD)] (.tp [.sl (rs.map qx), .v .nilIface]):=by
 have hml:(rs.map lD).length=rs.length:=aK ..;refine fn (fu:=⟨11⟩) func87 J J ntmps87 J J (fun C=>?_);refine ak 10 (.d (vI (rs.length:Nat))) J (by rw[hml]<;>rfl) ?_;refine gx (fu:=⟨0⟩) J<|ij (fu:=⟨15⟩) J (by show some (decide _)=some false;rw[decide_eq_false (by omega)]) J<|?_;refine ak 17 (.d (vI (rs.length:Nat))) J (by rw[hml]<;>rfl) ?_;refine gx J<|?_;refine nr 4 4 164 1 J J J ?_;refine lp (X:=Nat) (fun k=>[(18, .d (vI (k:Nat))),(4, .rw 4)]) (fun k=>[(4,some (.b 164 1 ((rs.take k).map qx) true))]) (fun k=>k<=rs.length) (fun k=>rs.length-k) 0 J (cK _) (fun _=>J) (fun k hk=>?_);have hm3:((rs.take k).map qx).length<=k:=by rw[aK,cW];omega
 refine br J J J (fun hc19=>?_) (fun hc19=>?_)
 .
  obtain⟨r,hx⟩: ∃u,rs[k]? =some u:=⟨_,aX (by omega)⟩;have hr:=h r (bJ hx);refine ix _ J (f9 hx) J<|cl (fu:=⟨11⟩) J (SM hr.ok hr.c3) J<|ij J J J<|rf J J<|ap ((rs.take (k+1)).map qx) J (NH hx) (WQ [r]) J<|?_;refine mt 33 4 J ?_;exact at_ (k+1) ⟨(by omega),(by omega)⟩
 .
  obtain rfl:k=rs.length:=by omega
  rw[fJ];refine n7 4 J ?_;exact rz J J
def EL{rs:List (List ZP)}(h: ∀r∈rs,l9 r)(hn:rs.length<=200):PF GB prog 42 [.sl (rs.map lD)] (.tp [.sl ((bz rs).map cC), .v .nilIface]):=by
 have hml:(rs.map qx).length=rs.length:=aK ..;refine fn func42 J J ntmps42 J J (fun C=>?_);refine cl (fu:=⟨11⟩) J (Om h hn) J<|ij (fu:=⟨15⟩) J J J<|?_;refine ak 18 (.d (vI (rs.length:Nat))) J (by rw[hml]<;>rfl) ?_;refine gx J<|?_;refine nr 6 6 130 17 J J J ?_;refine lp (X:=Nat) (fun k=>[(19, .d (vI (k:Nat))),(6, .rw 6)]) (fun k=>[(6,some (.b 130 17 ((bz (rs.take k)).map cC) true))]) (fun k=>k<=rs.length) (fun k=>rs.length-k) 0 J (cK _) (fun _=>J) (fun k hk=>?_);have hm5:=GU (fun r hr=>(h r hr).ok) k;have hm3:((bz (rs.take k)).map cC).length<=6*k:=by rw[aK];exact GU (fun r hr=>(h r hr).ok) k
 refine br J J J (fun hc20=>?_) (fun hc20=>?_)
 .
  obtain⟨r,hx⟩: ∃u,rs[k]? =some u:=⟨_,aX (by omega)⟩;have hr:=h r (bJ hx);have hel:=(sN hr.ok).1;have hn6:=hr.ok.n6;have hm4:((i4 r).map cC).length=(i4 r).length:=aK ..;refine ix _ J (f9 hx) J<|cl J (Rw hr.ok) J<|ap ((bz (rs.take (k+1))).map cC) J (U4 hx) (Li (i4 r)) J<|?_;refine mt 26 6 J ?_;exact at_ (k+1) ⟨(by omega),(by omega)⟩
 .
  obtain rfl:k=rs.length:=by omega
  rw[fJ];refine n7 6 J ?_;exact rz J J
def BZ{rs:List (List ZP)}(h: ∀r∈rs,l9 r)(hn:rs.length<=200):(bz rs).length<=1200:=by
 have:=(qq fun r hr=>(h r hr).ok).1;omega
def pI(rs:List (List ZP))(p:aa):Bool:=(bz rs).any fun f=>gu f p
def V2{fill n:Int}:PF GB prog 8 [vI fill,vI n] (vB (iu fill n)):=by
 refine fn func8 J J ntmps8 J J (fun C=>?_);refine br J J J (fun hc6=>?_) (fun hc6=>?_)
 .
  exact rz J (by show DV.v (.bool _)= .v (.bool _);unfold iu;simp_all)
 .
  refine br J J J (fun hc11=>?_) (fun hc11=>?_)
  .
   exact rz J (by show DV.v (.bool _)= .v (.bool _);unfold iu;simp_all)
  .
   exact rz J (by show DV.v (.bool _)= .v (.bool _);unfold iu;simp_all)
def CL{rs:List (List ZP)}(h: ∀r∈rs,l9 r)(hn:rs.length<=200){p:aa}{i:Nat}[hp:aw p i](hno:pI rs p=false)(hi:i<=100000:=by decide):PF GB prog 25 [.sl (rs.map lD),jI p] (.tp [vI (dG (bz rs) p), .v .nilIface]):=by
 have hel:=BZ h hn;have hfe:=EE fun r hr=>(h r hr).ok;refine fn func25 J J ntmps25 J J (fun C=>?_);refine cl J (EL h hn) J<|cl (fu:=⟨9⟩) J (vu (p:=p) (i:=i) (by omega)) J<|ij J J J<|cl (fu:=⟨0⟩) J (Lo (E:=bz rs) hfe (by omega) (p:=p) (i:=i) hi) J<|?_;refine ak 23 (.d (vB false)) J (by rw[show(bz rs).any (fun f=>gu f p)=false from hno]) ?_;refine sA 23 J ?_;refine gx J<|cl J (Ld (E:=bz rs) hfe (by omega) (p:=p) (i:=i) hi) J<|?_;exact rz J J
def IM{u v:aa}{i j:Nat}[hp:aw u i][hq:aw v j](hi:i<=10000000:=by decide)(hj:j<=10000000:=by decide):PF GB prog 233 [eZ u,eZ v] (vB (decide (cA u v=0))):=by
 refine fn func233 J J ntmps233 J J (fun C=>?_);refine cl J (Jh (u:=u) (v:=v) hi hj) J<|?_;exact rz J J
def ke(x:aa):List aa->List aa
 |[]=>[]
 |y::l=>if cA y x=0 then ke y l else y::ke y l
def rC:List aa->List aa
 |[]=>[]
 |x::l=>x::ke x l
def x5{l:List aa}{k:Nat}{x y:aa}(h:l[k]? =some y):ke x (l.drop k)=if cA y x=0 then ke y (l.drop (k+1)) else y::ke y (l.drop (k+1)):=by
 obtain⟨h1,h2⟩:=aS.1 h;rw[cV h1,h2,ke]
def OC{l:List aa}{k:Nat}{y:aa}(h:l[k]? =some y):l.take (k+1)=l.take k++[y]:=by
 rw[fX,h];rfl
def vZ:DV:= .ag [vI 0,vI 0, .v (.pointer none),vI 0,vI 0, .v (.pointer none)]
def Wj(l:List aa)(k:Nat)(y:aa):(l.map eZ).set k (eZ y)=(l.set k y).map eZ:=(pT ..).symm
def Pq{l:List aa}(h:l.length<2):rC l=l:=by
 cases l with
 |nil=>rfl
 |cons x l=>cases l with
  |nil=>rfl
  |cons y l=>simp at h;omega
def Sg{l:List aa}{x:aa}(h:l[0]? =some x):rC l=l.take 1++ke x (l.drop 1):=by
 cases l with
 |nil=>cases h
 |cons y l=>cases h;rfl
def Mj{r l:List aa}{a b:Nat}(h:a<=b)(e:r.drop a=l.drop a):r[b]? =l[b]? :=by
 have:=congrArg (·[b-a]?) e;simpa[kV,show a+(b-a)=b by omega] using this
def Wo{r l:List aa}{a b:Nat}(h:a<=b)(e:r.drop a=l.drop a):r.drop b=l.drop b:=by
 have:=congrArg (List.drop (b-a)) e;simpa[qN,show a+(b-a)=b by omega] using this
def Tv{r:List aa}{i:Nat}{u:aa}(h:i<r.length):(r.set i u).take (i+1)=r.take i++[u]:=by
 rw[fX,pR h,List.take_set_of_le (aN _)];rfl
def O0{r:List aa}{i:Nat}(h:i<r.length):(r.map eZ)[(i:Int).toNat]? =some (eZ r[i]):=by simp[h]
def TG{l:List aa}{i0:Nat}(hb: ∀d∈l,aw d i0)(hn:l.length<=10000000)(hi:i0<=10000000):PB GB prog 232 (lg [none,some (.v (.func (.func 233) #[] #[]))]) 6 103 (l.map eZ) (fun w=> .v (.slice w.a w.n w.c)) ((rC l).map eZ):=by
 have hml:(l.map eZ).length=l.length:=aK ..;refine Ec (fu:=⟨10⟩) func232 J J ntmps232 J J (fun C=>?_);refine ak 9 (.d (vI (l.length:Nat))) J (by rw[hml]<;>rfl) ?_;refine gx J<|?_;refine br J J J (fun hc10=>?_) (fun hc10=>?_)
 .
  exact xo J J J (by rw[Pq (by omega)])
 .
  obtain⟨x0,hx0⟩: ∃x,l[0]? =some x:=⟨_,aX (by omega)⟩;refine lp (fu:=⟨6⟩) (X:=Nat×aa) (fun⟨k,x⟩=>[(5, .d (vI (k:Nat)))]) (fun⟨k,x⟩=>[]) (fun⟨k,x⟩=>1<=k/\k<=l.length/\l[k-1]? =some x/\rC l=l.take k++ke x (l.drop k)) (fun⟨k,x⟩=>l.length-k) ⟨1,x0⟩ J ⟨aN _,by omega,hx0,by rw[Sg hx0]⟩ (fun _=>J) (fun⟨k,x⟩ hk=>?_)
  try dsimp only at hk⊢
  obtain⟨h1,h2,h3,h4⟩:=hk;refine ak 14 (.d (vI (l.length:Nat))) J (by rw[hml]<;>rfl) ?_;refine gx J<|?_;refine br J J J (fun hc15=>?_) (fun hc15=>?_)
  .
   obtain⟨y,hy⟩: ∃y,l[k]? =some y:=⟨_,aX (by omega)⟩;haveI:=hb y (bJ hy);haveI:=hb x (bJ h3);refine lb (fu:=⟨3⟩) _ J (f9 hy) J<|?_;refine ak 25 (.d (vI ((k-1:Nat):Int))) J (by rw[Int.ofNat_sub h1]<;>rfl) ?_;refine gx J<|lb (fu:=⟨0⟩) _ J (f9 h3) J<|cl J (IM (u:=y) (v:=x) hi hi) J<|?_;refine bd (fu1:=⟨4⟩) J J J (fun hc28=>?_) (fun hc28=>?_)
   .
    have hc28':=hc28;refine Hh k (l.length-k) J J (by omega) (by omega) J<|?_;refine lp (fu:=⟨5⟩) (X:=Nat×Nat×aa×List aa) (fun⟨i,m,z,r⟩=>[(5, .d (vI (i:Nat))),(7, .d (vI (m:Nat)))]) (fun⟨i,m,z,r⟩=>[(1000000,some (.b 103 6 (r.map eZ) false))]) (fun⟨i,m,z,r⟩=>1<=m/\k+m<=l.length/\i+1<=k+m/\r.length=l.length/\r.drop (k+m-1)=l.drop (k+m-1)/\l[k+m-1]? =some z/\rC l=r.take i++ke z (l.drop (k+m))) (fun⟨i,m,z,r⟩=>l.length-m) ⟨k,1,y,l⟩ J ⟨aN _,by omega,by omega,J,J,by rw[lU];exact hy,by rw[h4,x5 hy,if_pos hc28']⟩ (fun _=>J) (fun⟨i,m,z,r⟩ hk=>?_)
    try dsimp only at hk⊢
    obtain⟨g1,g2,g3,g4,g5,g6,g7⟩:=hk;have hrl:(r.map eZ).length=r.length:=aK ..;refine Rh J J<|?_;refine br (fu1:=⟨9⟩) (fu2:=⟨9⟩) J J J (fun hc35=>?_) (fun hc35=>?_)
    .
     obtain⟨u,hu⟩: ∃u,l[k+m]? =some u:=⟨_,aX (by omega)⟩;haveI:=hb u (bJ hu);haveI:=hb z (bJ g6);have g8:r[k+m]? =some u:=by rw[<-hu];exact Mj (by omega) g5
     have g10:r[k+m-1]? =some z:=by rw[<-g6];exact Mj (aN _) g5
     have g9:r.drop (k+m)=l.drop (k+m):=Wo (by omega) g5;refine E6 (k+m) J (by omega) (by omega) (by omega) J<|lb (fu:=⟨3⟩) _ J (f9 g8) J<|E6 (k+m-1) J (by omega) (by omega) (by omega) J<|?_;refine lb (fu:=⟨0⟩) _ J (f9 g10) J<|cl J (IM (u:=u) (v:=z) hi hi) J<|?_;refine bb (fu1:=⟨6⟩) J J J (fun hc49=>?_) (fun hc49=>?_)
     .
      have hc49': ¬cA u z=0:=by simpa using hc49
      refine E6 (k+m) J (by omega) (by omega) (by omega) J<|lb _ J (f9 g8) J<|sb _ ((r.set i u).map eZ) J (O0 (by omega)) J (by rw[<-Wj]<;>rfl) J<|?_;exact at_ ⟨i+1,m+1,u,r.set i u⟩ (by dsimp only;exact⟨⟨by omega,by omega,by omega,by rw[aR];exact g4,by rw[show k+(m+1)-1=k+m by omega,oW (by omega)];exact g9,by rw[show k+(m+1)-1=k+m by omega];exact hu,by rw[g7,x5 hu,if_neg hc49',Tv (by omega),gK];rfl⟩,(by omega)⟩)
     .
      have hc49':cA u z=0:=by simpa using hc49
      exact at_ ⟨i,m+1,u,r⟩ (by dsimp only;exact⟨⟨by omega,by omega,by omega,g4,by rw[show k+(m+1)-1=k+m by omega];exact g9,by rw[show k+(m+1)-1=k+m by omega];exact hu,by rw[g7,x5 hu,if_pos hc49'];rfl⟩,(by omega)⟩)
    .
     obtain hm:k+m=l.length:=by omega
     refine Hh i (l.length-i) J J (by omega) (by omega) J<|QA (fu:=⟨6⟩) _ J (by rw[hrl];omega) (by omega) J J<|UD ((r.take i).map eZ) i J J (by rw[cZ,cW,aW,hrl];omega) (by rw[fN (by rw[cW,hrl];omega),List.take_take,Nat.min_self,List.map_take]) J<|?_;exact xo J J J (by rw[g7,hm,jR,ke,oM])
   .
    have hc28':=hc28;exact at_ ⟨k+1,y⟩ (by dsimp only;exact⟨⟨by omega,by omega,hy,by rw[h4,x5 hy,if_neg hc28',OC hy,gK];rfl⟩,(by omega)⟩)
  .
   exact xo J J J (by rw[h4,show k=l.length by omega,jR,ke,oM,fJ])
end Go.Sx
end
