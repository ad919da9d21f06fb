import Derived.Test.YtefoocgiaegobaaGreatDoorPa15
set_option linter.all false
set_option maxHeartbeats 2000000
set_option maxRecDepth 100000
section
namespace Go.Sx
open Go Go.Proofs Tryz
variable {GB:Gh}
def oh(v:aB)(t:Rat):Bool:=(v.nl||decide (bO v.lo t<=0))&&(v.nh||decide (0<=bO v.hi t))
def Nh{v:aB}{t:Rat}:oh v t=true↔v.has t:=by
 unfold oh aB.has;simp only[bJ,gV,decide_eq_true_eq,Cb,Mp]
def gz(f:aP)(p:aa):Bool:=decide (Int.sign (f.l.value p).num=0)&&oh f.v (ck f.l p)
def yc{f:aP}{p:aa}:gz f p=true↔f.l.value p=0/\f.v.has (ck f.l p):=by
 unfold gz;rw[bJ,decide_eq_true_eq,jk,Nh]
def yf{a b:Rat}(h:b≠0):a/b*b=a:=by grind
def x6{v w:ZP}(h:v≠w)(ho:(ba v w).l.ok){x:aa}:gz (ba v w) x=true↔gl v.q w.q x:=by
 obtain⟨e1,e2,e3⟩:=xE h ho;have hv: ∀t,(ba v w).v.has t↔(ba v w).v.lo<=t/\t<=(ba v w).v.hi:=fun t=>by
  unfold aB.has ba;simp
 rw[yc,hv];generalize (ba v w).v.lo=lo at*;generalize (ba v w).v.hi=hi at*;generalize (ba v w).l=l at*;constructor
 ·rintro ⟨hz,h1,h2⟩
  have ex:=Aw ho.ne hz;generalize ck l x=t at*;have e:(t-lo)/(hi-lo)*(hi-lo)=t-lo:=yf (by grind);refine⟨(t-lo)/(hi-lo),(iC (k:=hi-lo) (by grind)).1 (by rw[e];grind),?_,?_⟩
  ·have:=(iC (s:=1-(t-lo)/(hi-lo)) (k:=hi-lo) (by grind)).1 (by
    have e4:(1-(t-lo)/(hi-lo))*(hi-lo)=(hi-lo)-(t-lo)/(hi-lo)*(hi-lo):=by generalize (t-lo)/(hi-lo)=q;grind
    rw[e4,e];grind)
   grind
  ·rw[<-e1,<-e2,BP,<-ex]
   congr 1;rw[e];grind
 ·rintro ⟨s,s0,s1,rfl⟩
  rw[<-e1,<-e2,BP];rw[wu ho.ne];have:=bG s0 (show 0<=hi-lo by grind);have:=bG (show 0<=1-s by grind) (show 0<=hi-lo by grind);exact⟨pO ho.ne _,by grind,by grind⟩
def o5(f:aP)(p:aa):Int:=
 if Int.sign f.l.dir.y.num=0\/Int.sign (f.l.value p).num≠Int.sign f.l.dir.y.num then 0
 else if(if Int.sign f.l.dir.y.num<0 then f.v.nh=false/\0<bO (f.l.at f.v.hi).y p.y else f.v.nl=false/\0<bO (f.l.at f.v.lo).y p.y) then 0
 else if(if Int.sign f.l.dir.y.num<0 then f.v.nl=false/\bO (f.l.at f.v.lo).y p.y<=0 else f.v.nh=false/\bO (f.l.at f.v.hi).y p.y<=0) then 0
 else Int.sign f.l.dir.y.num
def eB(E:List aP)(p:aa):Int:=E.foldl (fun n f=>n+o5 f p) 0
def Pv{v w:ZP}(h:v≠w)(p:aa): ∃g:Rat,0<g/\cj v.q w.q p=g*(ba v w).l.value p/\w.q.y-v.q.y=g*(ba v w).l.dir.y:=by
 obtain⟨g,g0,h1,h2,h3⟩:=Dj h;refine⟨g,g0,?_,by rw[h3];unfold bc;show _=g*(ir v.1 v.2 w.1 w.2).dir.y;dsimp only;grind⟩;show _=g*(ir v.1 v.2 w.1 w.2).value p;rw[h3];generalize ir v.1 v.2 w.1 w.2=l at*;rw[kE] at*;unfold cj bc ab.dir;dsimp only;grind
def SP{v w:ZP}(h:v≠w)(ho:(ba v w).l.ok)(p:aa):o5 (ba v w) p=kx v.q w.q p:=by
 obtain⟨e1,e2,e3⟩:=xE h ho;obtain⟨g,g0,o1,o2⟩:=Pv h p;have b1:(ba v w).v.nl=false:=J;have b2:(ba v w).v.nh=false:=J;have so:(0<cj v.q w.q p↔0<(ba v w).l.value p)/\(cj v.q w.q p<0↔(ba v w).l.value p<0):=by
  rw[o1];constructor
  ·rw[Rat.mul_comm];exact fi g0
  ·have:=fi (s:= -(ba v w).l.value p) g0
   grind
 have sy:(v.q.y<w.q.y↔0<(ba v w).l.dir.y)/\(w.q.y<v.q.y↔(ba v w).l.dir.y<0):=by
  have t1:=fi (s:=(ba v w).l.dir.y) g0;have t2:=fi (s:= -(ba v w).l.dir.y) g0;constructor<;>grind
 unfold o5;rw[b1,b2,e1,e2];simp only[true_and,Cb,yl];generalize (ba v w).l.value p=z at*;generalize (ba v w).l.dir.y=u at*;unfold kx;rcases dC u with k|k|k
 ·rw[if_pos (.inl ((jk _).2 k))]
  have: ¬(v.q.y<=p.y/\ ¬w.q.y<=p.y/\0<cj v.q w.q p):=fun q=>by grind
  have: ¬(¬v.q.y<=p.y/\w.q.y<=p.y/\cj v.q w.q p<0):=fun q=>by grind
  rw[if_neg ‹_›,if_neg ‹_›];rfl
 ·have su:Int.sign u.num=1:=(io _).2 k
  rw[su];have n2: ¬(¬v.q.y<=p.y/\w.q.y<=p.y/\cj v.q w.q p<0):=fun q=>by grind
  rw[if_neg n2];simp only[show¬((1:Int)<0) by decide,if_false,show¬((1:Int)=0) by decide,false_or];by_cases hz:0<z
  ·rw[if_neg (by rw[(io _).2 hz];simp)]
   by_cases a1:v.q.y<=p.y
   ·rw[if_neg (by grind)]
    by_cases a2:w.q.y<=p.y
    ·rw[if_pos a2,if_neg (by grind)];rfl
    ·rw[if_neg a2,if_pos ⟨a1,a2,so.1.2 hz⟩];rfl
   ·rw[if_pos (by grind),if_neg (by grind)];rfl
  ·rw[if_pos (fun q=>hz ((io _).1 q)),if_neg (by grind)];rfl
 ·have su:Int.sign u.num= -1:=qP k
  rw[su];have n2: ¬(v.q.y<=p.y/\ ¬w.q.y<=p.y/\0<cj v.q w.q p):=fun q=>by grind
  rw[if_neg n2];simp only[show(-1:Int)<0 by decide,if_true,show¬((-1:Int)=0) by decide,false_or];by_cases hz:z<0
  ·rw[if_neg (by rw[qP hz];simp)]
   by_cases a1:w.q.y<=p.y
   ·rw[if_neg (by grind)]
    by_cases a2:v.q.y<=p.y
    ·rw[if_pos a2,if_neg (by grind)];rfl
    ·rw[if_neg a2,if_pos ⟨a2,a1,so.2.2 hz⟩];rfl
   ·rw[if_pos (by grind),if_neg (by grind)];rfl
  ·rw[if_pos (fun q=>hz (by
    have h4:Int.sign z.num<0:=by rw[q];decide
    exact(lD _).1 h4)),if_neg (by grind)];rfl
def ze{α:Type}(f:α->Int): ∀(l:List α) (n:Int),l.foldl (fun n x=>n+f x) n=n+l.foldl (fun n x=>n+f x) 0
 |[],n=>by simp
 |a::t,n=>by
  rw[fN,fN,ze f t (n+f a),ze f t (0+f a)];omega
def Ee(E F:List aP)(p:aa):eB (E++F) p=eB E p+eB F p:=by
 unfold eB;rw[List.foldl_append,ze]
def XW{r:List ZP}(hr:b9 r)(p:aa):eB (ip r) p=e8 r p:=by
 have key: ∀k,k<=r.length->eB (jz r k) p=xu r p k:=by
  intro k
  induction k with
  |zero=>intro _;rfl
  |succ k ih=>
   intro hk;have hm:=wW (r:=r) (k:=k) (n:=r.length) (by omega);have ho:=((tH hr).2 _ hm).ok;rw[jz,Ee,ih (by omega),tB,tB,fG];have e:eB [ba (r.getD k (0,0)) (de r k)] p=o5 (ba (r.getD k (0,0)) (de r k)) p:=by unfold eB;simp
   rw[e,SP (hr.ne k (by omega)) ho]
 exact key r.length (aL _)
def Kf: ∀{rs:List (List ZP)},(∀r∈rs,b9 r)-> ∀p,eB (bH rs) p=rs.foldl (fun n r=>n+e8 r p) 0
 |[],_,p=>rfl
 |r::rs,h,p=>by
  have e:bH (r::rs)=ip r++bH rs:=J;rw[e,Ee,XW (h r aQ),Kf fun q hq=>h q (aJ _ hq),fN,ze _ rs (0+e8 r p)];omega
def Cp(f:aP)(p:aa):Bool:=f.v.nh||decide (bO (ck f.l p) f.v.hi<0)
def EU(f:aP)(p:aa):Bool:=f.v.nl||decide (0<bO (ck f.l p) f.v.lo)
def gh(p:aa)(f:aP):List aa:=if gz f p then(if Cp f p then [ci f.l.dir] else [])++(if EU f p then [bg (ci f.l.dir)] else []) else []
def iG(E:List aP)(p:aa):List aa:=gv (E.flatMap (gh p))
def mO(p d q:aa):Rat:=(⟨q.x-p.x,q.y-p.y⟩:aa).dot d/d.dot d
def n7(a b:Rat):Rat×Bool:=
 if 0<Int.sign b.num/\(¬0<Int.sign a.num\/bO b a<0) then(b,true) else if 0<Int.sign a.num then(a,true) else(0,false)
def fh(f:aP)(p d:aa):Rat×Bool:=
 if f.l.nor.dot d=0 then(if f.l.value p=0 then n7 (mO p d (f.l.at f.v.lo)) (mO p d (f.l.at f.v.hi)) else(0,false))
 else(-(f.l.value p/f.l.nor.dot d),decide (0<Int.sign (-(f.l.value p/f.l.nor.dot d)).num)&&oh f.v (ck f.l (bc p d (-(f.l.value p/f.l.nor.dot d)))))
def gD(p d:aa)(s:Rat)(f:aP):Rat:=if gz f p then s else if(fh f p d).2 then(if(fh f p d).1<s then(fh f p d).1 else s) else s
def kt(E:List aP)(p d:aa):aa:=bc p d (E.foldl (gD p d) 1*mkRat 1 2)
def pw(E:List aP)(p:aa)(acc:aa->Bool):Int:=
 if((eG (iG E p)).any fun v=>acc (kt E p v))&&(eG (iG E p)).all (fun v=>acc (kt E p v)) then 2 else if(eG (iG E p)).any fun v=>acc (kt E p v) then 1 else 0
def Hf{a b:Rat}:((n7 a b).2=true->0<(n7 a b).1)/\(∀t,0<t->(0<a/\a<=t\/0<b/\b<=t)->(n7 a b).2=true/\(n7 a b).1<=t):=by
 unfold n7;simp only[jF,vU];split
 ·exact⟨fun _=>by dsimp only;grind,fun t t0 h=>⟨J,by dsimp only;grind⟩⟩
 ·split
  ·exact⟨fun _=>by dsimp only;grind,fun t t0 h=>⟨J,by dsimp only;grind⟩⟩
  ·exact⟨fun h=>by simp at h,fun t t0 h=>by grind⟩
def Pe{f:aP}{p d:aa}(h:(fh f p d).2=true):0<(fh f p d).1:=by
 unfold fh at*;split at h
 ·rw[if_pos (by assumption)]
  split at h
  ·rw[if_pos (by assumption)];exact Hf.1 h
  ·cases h
 ·rw[if_neg (by assumption)]
  simp only[bJ,decide_eq_true_eq,jF] at h;exact h.1
def Ij{d:aa}(h:d≠⟨0,0⟩):0<d.dot d:=by
 have:=Dg (x:=d.x) (y:=d.y) fun k=>h (by cases d;simp only[aa.mk.injEq] at*;exact k);unfold aa.dot;exact this
def IH{l:ab}(ho:l.ok){p d q:aa}(hd:d≠⟨0,0⟩)(h0:l.nor.dot d=0)(h1:l.value p=0)(h2:l.value q=0):q=bc p d (mO p d q):=by
 have hp:=Ij hd;have hn: ¬(l.nor.x=0/\l.nor.y=0):=fun k=>by
  have hq:l.Ne:=ho.ne;refine hq ⟨?_,?_⟩
  ·have:=k.1;unfold ab.nor at this;dsimp only at this;exact_mod_cast this
  ·have:=k.2;unfold ab.nor at this;dsimp only at this;exact_mod_cast this
 have e:l.nor.dot ⟨q.x-p.x,q.y-p.y⟩=0:=by rw[FJ,h1,h2];grind
 unfold mO bc;have ed:(⟨q.x-p.x,q.y-p.y⟩:aa).dot d/d.dot d*d.dot d=(⟨q.x-p.x,q.y-p.y⟩:aa).dot d:=by
  generalize d.dot d=m at*;exact yf (by grind)
 have ec:(q.x-p.x)*d.y=(q.y-p.y)*d.x:=by
  unfold aa.dot at e h0;dsimp only at e;generalize l.nor.x=a at*;generalize l.nor.y=b at*;by_cases k:a=0
  ·have hb:b≠0:=fun z=>hn ⟨k,z⟩
   rw[k] at e h0;have e1:b*(q.y-p.y)=0:=by grind
   have e2:b*d.y=0:=by grind
   rw[(cK.1 e1).resolve_left hb,(cK.1 e2).resolve_left hb];grind
  ·have e3:a*((q.x-p.x)*d.y-(q.y-p.y)*d.x)=0:=by grind
   have:=(cK.1 e3).resolve_left k;grind
 have e1:(q.x-p.x)*d.dot d=(⟨q.x-p.x,q.y-p.y⟩:aa).dot d*d.x:=by unfold aa.dot;dsimp only;grind
 have e2:(q.y-p.y)*d.dot d=(⟨q.x-p.x,q.y-p.y⟩:aa).dot d*d.y:=by unfold aa.dot;dsimp only;grind
 generalize (⟨q.x-p.x,q.y-p.y⟩:aa).dot d/d.dot d=k at*;generalize (⟨q.x-p.x,q.y-p.y⟩:aa).dot d=n at*;generalize d.dot d=m at*;have m0:m≠0:=by grind
 have f1:m*(q.x-p.x-k*d.x)=0:=by grind
 have f2:m*(q.y-p.y-k*d.y)=0:=by grind
 have g1:=(cK.1 f1).resolve_left m0;have g2:=(cK.1 f2).resolve_left m0
 cases q
 simp only[aa.mk.injEq] at*;constructor<;>grind
def Rm{p d:aa}(hd:d≠⟨0,0⟩){s t:Rat}(h:bc p d s=bc p d t):s=t:=by
 have hp:=Ij hd;have hx:=congrArg aa.x h;have hy:=congrArg aa.y h;unfold bc at hx hy;dsimp only at hx hy;unfold aa.dot at hp;have:(s-t)*(d.x*d.x+d.y*d.y)=0:=by grind
 have:=(cK.1 this).resolve_right (by grind);grind
def Ok{v w:ZP}(h:v≠w)(ho:(ba v w).l.ok){p d:aa}(hd:d≠⟨0,0⟩)(hp: ¬gl v.q w.q p){t:Rat}(t0:0<t)(ht:gl v.q w.q (bc p d t)):(fh (ba v w) p d).2=true/\(fh (ba v w) p d).1<=t:=by
 obtain⟨e1,e2,e3⟩:=xE h ho;have hv:=yc.1 ((x6 h ho).2 ht);have hz:(ba v w).l.value p+t*(ba v w).l.nor.dot d=0:=by rw[<-ic];exact hv.1
 unfold fh;by_cases k:(ba v w).l.nor.dot d=0
 ·have hc:(ba v w).l.value p=0:=by rw[k] at hz;grind
  rw[if_pos k,if_pos hc,e1,e2];have a1:(ba v w).l.value v.q=0:=by rw[<-e1];exact pO ho.ne _
  have a2:(ba v w).l.value w.q=0:=by rw[<-e2];exact pO ho.ne _
  have b1:=IH ho hd k hc a1;have b2:=IH ho hd k hc a2;generalize mO p d v.q=s1 at*;generalize mO p d w.q=s2 at*;obtain⟨s,z0,z1,es⟩:=ht;rw[b1,b2,yT] at es;have et:=Rm hd es;refine Hf.2 t t0 ?_
  -- p does not lie between
  have hn: ∀m,0<=m->m<=1->s1+m*(s2-s1)≠0:=fun m m0 m1 em=>hp ⟨m,m0,m1,by
   rw[b1,b2,yT,em];unfold bc;cases p;simp only[aa.mk.injEq];constructor<;>grind⟩
  have n1:s1≠0:=fun e=>hn 0 (by decide) (by decide) (by rw[e];grind);have n2:s2≠0:=fun e=>hn 1 (by decide) (by decide) (by rw[e];grind);have key: ∀x y:Rat,x<0->0<y->0<= -x/(y-x)/\ -x/(y-x)<=1/\x+ -x/(y-x)*(y-x)=0:=fun x y hx hy=>by
   have em: -x/(y-x)*(y-x)= -x:=yf (by grind);have q0:=div_pos (a:= -x) (b:=y-x) (by grind) (by grind);generalize-x/(y-x)=m at*;refine⟨cY q0,?_,by rw[em];grind⟩;have:=(iC (s:=1-m) (k:=y-x) (by grind)).1 (by
    have:(1-m)*(y-x)=(y-x)-m*(y-x):=by grind
    rw[this,em];grind)
   grind
  rcases dC s1 with q1|q1|q1
  ·exact absurd q1 n1
  ·rcases dC s2 with q2|q2|q2
   ·exact absurd q2 n2
   ·by_cases c:s1<=s2
    ·have:=bG z0 (show 0<=s2-s1 by grind)
     exact .inl ⟨q1,by grind⟩
    ·have:=bG (show 0<=1-s by grind) (show 0<=s1-s2 by grind)
     exact .inr ⟨q2,by grind⟩
   ·obtain⟨c1,c2,c3⟩:=key s2 s1 q2 q1
    exfalso;refine hn (1- -s2/(s1-s2)) (by grind) (by grind) ?_;generalize-s2/(s1-s2)=m at*;grind
  ·rcases dC s2 with q2|q2|q2
   ·exact absurd q2 n2
   ·obtain⟨c1,c2,c3⟩:=key s1 s2 q1 q2
    exact absurd c3 (hn _ c1 c2)
   ·exfalso
    have:=bG z0 (show 0<= -s2 by grind);have:=bG (show 0<=1-s by grind) (show 0<= -s1 by grind);grind
 ·rw[if_neg k]
  have et: -((ba v w).l.value p/(ba v w).l.nor.dot d)=t:=by
   generalize (ba v w).l.nor.dot d=n at*;generalize (ba v w).l.value p=z at*;grind
  rw[et];exact⟨by rw[bJ,decide_eq_true_eq,jF,Nh];exact⟨t0,hv.2⟩,dV⟩
def GS{p d:aa}: ∀{E:List aP} {s:Rat},0<s->0<E.foldl (gD p d) s/\E.foldl (gD p d) s<=s/\ ∀f∈E,gz f p=false->(fh f p d).2=true->E.foldl (gD p d) s<=(fh f p d).1
 |[],s,h=>⟨h,dV,fun f hf=>by cases hf⟩
 |g::E,s,h=>by
  have key:0<gD p d s g/\gD p d s g<=s/\(gz g p=false->(fh g p d).2=true->gD p d s g<=(fh g p d).1):=by
   unfold gD;by_cases h1:gz g p=true
   ·rw[if_pos h1];exact⟨h,dV,fun q=>by rw[h1] at q;cases q⟩
   ·rw[if_neg h1]
    by_cases h2:(fh g p d).2=true
    ·rw[if_pos h2]
     have:=Pe h2;split
     ·exact⟨this,by grind,fun _ _=>dV⟩
     ·exact⟨h,dV,fun _ _=>by grind⟩
    ·rw[if_neg h2];exact⟨h,dV,fun _ q=>absurd q h2⟩
  obtain⟨k1,k2,k3⟩:=key;obtain⟨i1,i2,i3⟩:=GS (p:=p) (d:=d) (E:=E) k1;rw[fN];refine⟨i1,by grind,fun f hf q1 q2=>?_⟩;rcases aU.1 hf with rfl|hf
  ·have:=k3 q1 q2;grind
  ·exact i3 f hf q1 q2
def MS{rs:List (List ZP)}(hr: ∀r∈rs,b9 r){f:aa×aa}(hf:f∈ER rs): ∃v w:ZP,v≠w/\(ba v w).l.ok/\ba v w∈bH rs/\f=(v.q,w.q):=by
 obtain⟨r,h1,h2⟩:=cS.1 hf;obtain⟨k,hk,rfl⟩:=bX.1 h2;have hk':=iK.1 hk;have hm:=wW (r:=r) (k:=k) (n:=r.length) hk';exact⟨_,_,(hr r h1).ne k hk',((tH (hr r h1)).2 _ hm).ok,cS.2 ⟨r,h1,hm⟩,J⟩
def B9{r:List ZP}: ∀{n:Nat} {f:aP},f∈jz r n-> ∃k,k<n/\f=ba (r.getD k (0,0)) (de r k)
 |0,f,h=>by simp[jz] at h
 |n+1,f,h=>by
  rw[jz] at h;rcases bV.1 h with h|h
  ·obtain⟨k,h1,h2⟩:=B9 h
   exact⟨k,by omega,h2⟩
  ·exact⟨n,by omega,aW.1 h⟩
def R8{rs:List (List ZP)}(hr: ∀r∈rs,b9 r){f:aP}(hf:f∈bH rs): ∃v w:ZP,v≠w/\(ba v w).l.ok/\f=ba v w/\(v.q,w.q)∈ER rs:=by
 obtain⟨r,h1,h2⟩:=cS.1 hf;have ho:=((tH (hr r h1)).2 _ h2).ok;obtain⟨k,hk,rfl⟩:=B9 h2;exact⟨_,_,(hr r h1).ne k hk,ho,J,cS.2 ⟨r,h1,bX.2 ⟨k,iK.2 hk,J⟩⟩⟩
def Lw{rs:List (List ZP)}{fill:Int}{p v:aa}(hr: ∀r∈rs,b9 r)(hv:i5 (ER rs) p v):lx rs fill p v (dE rs fill (kt (bH rs) p v)):=by
 obtain⟨k1,k2,k3⟩:=GS (p:=p) (d:=v) (E:=bH rs) (s:=1) (by decide);unfold kt;generalize (bH rs).foldl (gD p v) 1=s at*;have hh:s*mkRat 1 2=s/2:=by rw[show mkRat 1 2=(1:Rat)/2 by decide+kernel];grind
 rw[hh];refine RJ hr (by grind) hv fun f hf hn t t0 t1 ho=>?_;obtain⟨a,b,h1,h2,h3,rfl⟩:=MS hr hf;obtain⟨c1,c2⟩:=Ok h1 h2 hv.1 hn t0 ho;have:=k3 _ h3 (by
  cases e:gz (ba a b) p with
  |false=>rfl
  |true=>exact absurd ((x6 h1 h2).1 e) hn) c1
 grind
def QV{l:ab}(h:l.ok): ∃a:Rat,0<a/\ci l.dir=⟨a*l.dir.x,a*l.dir.y⟩:=uE (tA h)
def q6{r:aa}{k:Rat}(hk:0<k)(u:aa):qm ⟨k*r.x,k*r.y⟩ u↔qm r u:=by
 constructor
 ·rintro ⟨m,m0,rfl⟩
  exact⟨m*k,bv m0 hk,by simp only[aa.mk.injEq];constructor<;>grind⟩
 ·rintro ⟨m,m0,rfl⟩
  have e:m/k*k=m:=yf (by grind);refine⟨m/k,div_pos m0 hk,?_⟩;generalize m/k=q at*;simp only[aa.mk.injEq];constructor<;>grind
def HI(l:ab)(a b:Rat):(⟨(l.at a).x-(l.at b).x,(l.at a).y-(l.at b).y⟩:aa)=⟨(a-b)*l.dir.x,(a-b)*l.dir.y⟩:=by
 unfold ab.at aa.add aa.scale;simp only[aa.mk.injEq];constructor<;>grind
def Kq{v w:ZP}(h:v≠w)(ho:(ba v w).l.ok)(p u:aa):(∃r,Ae v.q w.q p r/\qm r u)↔ ∃d∈gh p (ba v w),qm d u:=by
 obtain⟨e1,e2,e3⟩:=xE h ho;obtain⟨α,a0,ea⟩:=QV ho;have b1:(ba v w).v.nl=false:=J;have b2:(ba v w).v.nh=false:=J;unfold Ae gh;by_cases hp:gl v.q w.q p
 ·have hf:=(x6 h ho).2 hp
  rw[if_pos hf];obtain⟨hz,h1,h2⟩:=yc.1 hf;rw[b1] at h1;rw[b2] at h2;have h1:(ba v w).v.lo<=ck (ba v w).l p:=by simpa using h1
  have h2:ck (ba v w).l p<=(ba v w).v.hi:=by simpa using h2
  have ep:=Aw ho.ne hz;unfold Cp EU;simp only[b1,b2,Bool.false_or,decide_eq_true_eq,vU,yl,ea];have dw:=HI (ba v w).l (ba v w).v.hi (ck (ba v w).l p);have dv:=HI (ba v w).l (ba v w).v.lo (ck (ba v w).l p);rw[ep,e2] at dw;rw[ep,e1] at dv;have nw:w.q≠p↔ck (ba v w).l p<(ba v w).v.hi:=by
   constructor
   ·intro k
    have:ck (ba v w).l p≠(ba v w).v.hi:=fun e=>k (by rw[<-e2,<-e,ep]);grind
   ·rintro k e
    have:=wu ho.ne (ba v w).v.hi;rw[e2,e] at this;grind
  have nv:v.q≠p↔(ba v w).v.lo<ck (ba v w).l p:=by
   constructor
   ·intro k
    have:ck (ba v w).l p≠(ba v w).v.lo:=fun e=>k (by rw[<-e1,<-e,ep]);grind
   ·rintro k e
    have:=wu ho.ne (ba v w).v.lo;rw[e1,e] at this;grind
  rw[nw,nv,dw,dv];generalize ck (ba v w).l p=t at*;generalize (ba v w).v.lo=lo at*;generalize (ba v w).v.hi=hi at*;generalize (ba v w).l.dir=D at*;have en: ∀k:Rat,(⟨k*D.x,k*D.y⟩:aa)=⟨-k*(bg D).x, -k*(bg D).y⟩:=fun k=>by unfold bg;simp only[aa.mk.injEq];constructor<;>grind
  have en2:bg ⟨α*D.x,α*D.y⟩=⟨α*(bg D).x,α*(bg D).y⟩:=by unfold bg;simp only[aa.mk.injEq];constructor<;>grind
  constructor
  ·rintro ⟨r,⟨_,hr⟩,hu⟩
   rcases hr with⟨rfl,k⟩|⟨rfl,k⟩
   ·refine⟨_,bU _ (by rw[if_pos k];exact aW.2 J),?_⟩
    rw[q6 a0];exact(q6 (show 0<hi-t by grind) u).1 hu
   ·refine⟨_,bN _ (by rw[if_pos k];exact aW.2 J),?_⟩
    rw[en2,q6 a0];rw[en] at hu;exact(q6 (show 0< -(lo-t) by grind) u).1 hu
  ·rintro ⟨d,hd,hu⟩
   rcases bV.1 hd with hd|hd
   ·split at hd
    ·rename_i k
     rw[aW.1 hd,q6 a0] at hu;exact⟨_,⟨hp, .inl ⟨J,k⟩⟩,(q6 (show 0<hi-t by grind) u).2 hu⟩
    ·cases hd
   ·split at hd
    ·rename_i k
     rw[aW.1 hd,en2,q6 a0] at hu;refine⟨_,⟨hp, .inr ⟨J,k⟩⟩,?_⟩;rw[en];exact(q6 (show 0< -(lo-t) by grind) u).2 hu
    ·cases hd
 ·have hf:gz (ba v w) p≠true:=fun k=>hp ((x6 h ho).1 k)
  rw[if_neg hf];constructor
  ·rintro ⟨r,⟨k,_⟩,_⟩;exact absurd k hp
  ·rintro ⟨d,hd,_⟩;cases hd
def zz{f:aP}{p d:aa}(h:d∈gh p f):f.l.value p=0/\(d=ci f.l.dir\/d=bg (ci f.l.dir)):=by
 unfold gh at h;split at h
 ·rename_i k
  refine⟨(yc.1 k).1,?_⟩;rcases bV.1 h with h|h
  ·split at h
   ·exact .inl (aW.1 h)
   ·cases h
  ·split at h
   ·exact .inr (aW.1 h)
   ·cases h
 ·cases h
def xv{E:List aP}(hE: ∀f∈E,f.l.ok)(p:aa): ∀x∈E.flatMap (gh p),∀y∈E.flatMap (gh p),cA x y=0->x=y:=fun x hx y hy h=>by
 obtain⟨f,k1,k2⟩:=cS.1 hx;obtain⟨g,k3,k4⟩:=cS.1 hy;obtain⟨a1,a2⟩:=zz k2;obtain⟨b1,b2⟩:=zz k4;exact Nk (hE f k1) (hE g k3) a1 b1 a2 b2 h
def zk{l:List aa}(ht: ∀x∈l,∀y∈l,cA x y=0->x=y)(y:aa):y∈gv l↔y∈l:=by
 have h2: ∀y,y∈gv l->y∈l:=fun y hy=>by
  rcases uQ cA hy with h|h
  ·exact h
  ·cases h
 refine⟨h2 y,fun hy=>?_⟩;obtain⟨e,e1,e2⟩:=Am cA (o:=[]) hy;rcases e2 with rfl|e2
 ·exact e1
 ·rw[<-ht e (h2 e e1) y hy e2];exact e1
def Pz{d:aa}(h:d.half≠0):(bg d).half≠0:=by
 have:=pm h;have:=fm h;omega
def V1{E:List aP}(hE: ∀f∈E,f.l.ok){p d:aa}(h:d∈E.flatMap (gh p)):d.half≠0:=by
 obtain⟨f,k1,k2⟩:=cS.1 h;have z:=tA (hE f k1);have z2:(ci f.l.dir).half≠0:=by rw[AG z];exact z
 rcases(zz k2).2 with rfl|rfl
 ·exact z2
 ·exact Pz z2
section
variable {rs:List (List ZP)} {fill:Int} {p:aa}
def BY(hr: ∀r∈rs,b9 r)(u:aa):i5 (ER rs) p u↔o8 (iG (bH rs) p) u:=by
 have hE: ∀f∈bH rs,f.l.ok:=fun f hf=>((qr hr).2 f hf).ok;unfold i5 o8 iG;constructor
 ·rintro ⟨h1,h2⟩
  refine⟨h1,fun d hd hu=>?_⟩;obtain⟨f,k1,k2⟩:=cS.1 ((zk (xv hE p) d).1 hd);obtain⟨v,w,q1,q2,rfl,q4⟩:=R8 hr k1;obtain⟨r,r1,r2⟩:=(Kq q1 q2 p u).2 ⟨d,k2,hu⟩;exact h2 _ q4 r r1 r2
 ·rintro ⟨h1,h2⟩
  refine⟨h1,fun f hf r hr' hu=>?_⟩;obtain⟨v,w,q1,q2,q3,rfl⟩:=MS hr hf;obtain⟨d,d1,d2⟩:=(Kq q1 q2 p u).1 ⟨r,hr',hu⟩;exact h2 d ((zk (xv hE p) d).2 (cS.2 ⟨_,q3,d1⟩)) d2
def XG(hr: ∀r∈rs,b9 r){L:List ab}(h:sr L)(hM:kD L (ER rs)):pw (bH rs) p (dE rs fill)=gy (d4 rs fill) p:=by
 have hE: ∀f∈bH rs,f.l.ok:=fun f hf=>((qr hr).2 f hf).ok;have hnz: ∀d∈iG (bH rs) p,d.half≠0:=fun d hd=>V1 hE ((zk (xv hE p) d).1 hd);have hs:=RB (fill:=fill) hr (vY _) hnz fun u=>BY (p:=p) hr u;refine(XM hr h hM (vs:=eG (iG (bH rs) p)) (q:=kt (bH rs) p) fun b=>?_).symm;unfold og;rw[<-hs b];constructor
 ·rintro ⟨v,h1,h2⟩
  exact⟨v,h1,h2▸Lw hr ((BY hr v).2 (Bl (vY _) hnz h1))⟩
 ·rintro ⟨v,h1,h2⟩
  exact⟨v,h1,(Lw hr ((BY hr v).2 (Bl (vY _) hnz h1))).uniq h2⟩
end
def L4{p q:aa}{i:Nat}[hp:az p i][hq:az q i](hi:i<=1000000:=by decide):PF GB prog 192 [eZ p,eZ q] (vB (decide (p.x=q.x/\p.y=q.y))):=by
 refine fn func192 J J ntmps192 J J (fun C=>?_);refine cl J (I0 (p:=p.x) (q:=q.x) (i:=i) (j:=i) (by omega) (by omega)) J<|?_;refine csd 10 J J J (fun hg10=>?_) (fun hg10=>?_)
 .
  refine cl J (I0 (p:=p.y) (q:=q.y) (i:=i) (j:=i) (by omega) (by omega)) J<|?_;exact rz J (by show DV.v (.bool _)= .v (.bool _);simp_all)
 .
  exact rz J (by show DV.v (.bool _)= .v (.bool _);simp_all)
def BH{p q:aa}{i j:Nat}[hp:az p i][hq:az q j](hi:i<=10000000:=by decide)(hj:j<=10000000:=by decide):PF GB prog 241 [eZ p,eZ q] (eZ ⟨p.x-q.x,p.y-q.y⟩):=by
 refine fn func241 J J ntmps241 J J (fun C=>?_);refine cl J (u6 (p:=p.x) (q:=q.x) (i:=i) (j:=j) (by omega) (by omega)) J<|cl J (u6 (p:=p.y) (q:=q.y) (i:=i) (j:=j) (by omega) (by omega)) J<|?_;exact rz J J
def w5{l:ab}{p:aa}{i:Nat}[hl:LB l][hp:az p i](hi:i<=1000000:=by decide):PF GB prog 254 [ny l,eZ p] (eF (ck l p)):=by
 refine fn func254 J J ntmps254 J J (fun C=>?_);refine cl J (A6 (l:=l)) J<|cl (fu:=⟨0⟩) J (pB (p:=l.dir) (q:=p) (i:=97) (j:=i) (by decide) (by omega)) J<|?_;refine ak 10 (.d (eF (p.dot l.dir))) J (by rw[show l.dir.dot p=p.dot l.dir by unfold aa.dot;grind]) ?_;refine gx J<|cl J (pB (p:=l.dir) (q:=l.dir) (i:=97) (j:=97) (by decide) (by decide)) J<|cl J (wN (p:=p.dot l.dir) (q:=l.dir.dot l.dir) (i:=i+97+(i+97)+1) (j:=97+97+(97+97)+1) (by omega) (by decide)) J<|?_;exact rz J J
def GO{v:aB}{t:Rat}{i:Nat}[h1:BQ v.lo i][h2:BQ v.hi i][h3:BQ t i](hi:i<=1000000:=by decide):PF GB prog 323 [eW v,eF t] (vB (oh v t)):=by
 refine fn func323 J J ntmps323 J J (fun C=>?_);refine l7 7 J J J (fun hg7=>?_) (fun hg7=>?_)
 .
  refine l7 17 J J J (fun hg17=>?_) (fun hg17=>?_)
  .
   exact rz J (by show DV.v (.bool _)= .v (.bool _);unfold oh;simp_all<;>(intros;omega))
  .
   refine cl J (kh (p:=v.hi) (q:=t) (i:=i) (j:=i) (by omega) (by omega)) J<|?_;exact rz J (by show DV.v (.bool _)= .v (.bool _);unfold oh;simp_all<;>(intros;omega))
 .
  refine cl J (kh (p:=v.lo) (q:=t) (i:=i) (j:=i) (by omega) (by omega)) J<|?_;refine cs 14 J J J (fun hg14=>?_) (fun hg14=>?_)
  .
   refine l7 17 J J J (fun hg17=>?_) (fun hg17=>?_)
   .
    exact rz J (by show DV.v (.bool _)= .v (.bool _);unfold oh;simp_all<;>(intros;omega))
   .
    refine cl J (kh (p:=v.hi) (q:=t) (i:=i) (j:=i) (by omega) (by omega)) J<|?_;exact rz J (by show DV.v (.bool _)= .v (.bool _);unfold oh;simp_all<;>(intros;omega))
  .
   exact rz J (by show DV.v (.bool _)= .v (.bool _);unfold oh;simp_all<;>(intros;omega))
def Rk{G:Gh}{q:Rat}{y:Value}(h: ¬d9 q)(hy:Is G (di q) y):y= .pointer none:=by
 unfold di at hy;rw[decide_eq_false h] at hy;rcases tQ.1 hy with⟨_,e⟩|⟨e,_⟩
 ·exact e
 ·cases e
def YC{G:Gh}{q:Rat}(h: ¬d9 q):Is G (di q) (.pointer none):=by
 unfold di;rw[decide_eq_false h];exact tQ.2 (.inl ⟨J,J⟩)
def xF(q:Rat):List Value:=[.int .i64 (dt q), .int .i64 (dz q), .pointer none]
def uF{G:Gh}{q:Rat}{t:List DV}{m:List Value}(h: ¬d9 q)(hm:IsLs G (vI (dt q)::vI (dz q)::di q::t) m): ∃n,m=xF q++n/\IsLs G t n:=by
 obtain⟨y1,m1,rfl,h1,hm1⟩:=cb.1 hm;obtain⟨y2,m2,rfl,h2,hm2⟩:=cb.1 hm1;obtain⟨y3,m3,rfl,h3,hm3⟩:=cb.1 hm2;obtain rfl:=bt.1 h1;obtain rfl:=bt.1 h2;obtain rfl:=Rk h h3;exact⟨m3,J,hm3⟩
def vj{G:Gh}{q:Rat}{t:List DV}{n:List Value}(h: ¬d9 q)(k:IsLs G t n):IsLs G (vI (dt q)::vI (dz q)::di q::t) (xF q++n):= .cons (bt.2 J) (.cons (bt.2 J) (.cons (YC h) k))
def rV(q:Rat):Value:= .agg ⟨xF q⟩
def Wm{G:Gh}{q:Rat}{y:Value}(h: ¬d9 q)(hy:Is G (eF q) y):y=rV q:=by
 obtain⟨m,rfl,hm⟩:=ew.1 hy;obtain⟨n,rfl,hn⟩:=uF h hm;rw[cG.1 hn];rfl
def WE{G:Gh}{q:Rat}(h: ¬d9 q):Is G (eF q) (rV q):=ew.2 ⟨_,J,vj h (cG.2 J)⟩
structure Do (f:aP):Prop where
 a: ¬d9 (f.l.a:Rat)
 b: ¬d9 (f.l.b:Rat)
 c: ¬d9 (f.l.c:Rat)
 lo: ¬d9 f.v.lo
 hi: ¬d9 f.v.hi
def rp(f:aP):Value:= .agg ⟨xF f.l.a++(xF f.l.b++(xF f.l.c++(xF f.v.lo++(xF f.v.hi++[.bool f.v.nl, .bool f.v.nh]))))⟩
def ui{G:Gh}{f:aP}{y:Value}(h:Do f)(hy:Is G (cp f) y):y=rp f:=by
 obtain⟨m0,rfl,k0⟩:=ew.1 hy;obtain⟨m1,rfl,k1⟩:=uF h.a k0;obtain⟨m2,rfl,k2⟩:=uF h.b k1;obtain⟨m3,rfl,k3⟩:=uF h.c k2;obtain⟨m4,rfl,k4⟩:=uF h.lo k3;obtain⟨m5,rfl,k5⟩:=uF h.hi k4;obtain⟨y1,m6,rfl,h1,k6⟩:=cb.1 k5;obtain⟨y2,m7,rfl,h2,k7⟩:=cb.1 k6;obtain rfl:=bt.1 h1;obtain rfl:=bt.1 h2;obtain rfl:=cG.1 k7;rfl
def uL{G:Gh}{f:aP}(h:Do f):Is G (cp f) (rp f):=ew.2 ⟨_,J,vj h.a (vj h.b (vj h.c (vj h.lo (vj h.hi (.cons (bt.2 J) (.cons (bt.2 J) (cG.2 J)))))))⟩
structure FE (f:aP):Prop where
 fo:o6 f
 sm:Do f
 nl:f.v.nl=false
 nh:f.v.nh=false
theorem xW{l:ab}{p:aa}{i:Nat}(hl:LB l)[hp:az p i]:BQ (ck l p) (2*i+600):=by
 haveI:=hl;have h:BQ (p.dot l.dir/l.dir.dot l.dir) (i+97+(i+97)+1+(97+97+(97+97)+1)):=inferInstance;exact BQ.mono (show BQ (ck l p) _ from h) (by omega)
def EJ{f:aP}(hf:FE f){p:aa}{i:Nat}[hp:az p i](hi:i<=100000:=by decide):PF GB prog 226 [cp f,eZ p] (vB (gz f p)):=by
 haveI:=hf.fo.lb;haveI:=hf.fo.lo;haveI:=hf.fo.hi;haveI:=xW (p:=p) (i:=i) hf.fo.lb;haveI:BQ f.v.lo (2*i+1800):=hf.fo.lo.mono (by omega);haveI:BQ f.v.hi (2*i+1800):=hf.fo.hi.mono (by omega);haveI:BQ (ck f.l p) (2*i+1800):=(xW (p:=p) (i:=i) hf.fo.lb).mono (by omega);refine fn func226 J J ntmps226 J J (fun C=>?_);refine cl (fu:=⟨0⟩) J (CK (l:=f.l) (p:=p) (i:=i) (by omega)) J<|?_;refine uH (v2:=fun hg9=>by simp only[ah];kernel_rfl) J J J J (fun hg9=>?_) (fun hg9=>?_)
 .
  refine cl J (w5 (l:=f.l) (p:=p) (i:=i) (by omega)) J<|cl J (GO (v:=f.v) (t:=ck f.l p) (i:=2*i+1800) (by omega)) J<|?_;exact rz J (by show DV.v (.bool _)= .v (.bool _);unfold gz;simp_all)
 .
  exact rz J (by show DV.v (.bool _)= .v (.bool _);unfold gz;simp_all)
def Dk{f:aP}(hf:FE f):PF GB prog 260 [cp f] (.tp [eZ (f.l.at f.v.lo),vB true]):=by
 haveI:=hf.fo.lb;haveI:=hf.fo.lo;haveI:=hf.fo.hi;refine fn (fu:=⟨13⟩) func260 J J ntmps260 J J (fun C=>?_);refine ak 6 (.d (vB false)) J (by rw[hf.nl]<;>rfl) ?_;refine t8 6 J ?_;refine gx J<|cl J (LJ (l:=f.l) (t:=f.v.lo) (i:=1200)) J<|?_;exact rz J J
def B8{f:aP}(hf:FE f):PF GB prog 261 [cp f] (.tp [eZ (f.l.at f.v.hi),vB true]):=by
 haveI:=hf.fo.lb;haveI:=hf.fo.lo;haveI:=hf.fo.hi;refine fn (fu:=⟨13⟩) func261 J J ntmps261 J J (fun C=>?_);refine ak 6 (.d (vB false)) J (by rw[hf.nh]<;>rfl) ?_;refine t8 6 J ?_;refine gx J<|cl J (LJ (l:=f.l) (t:=f.v.hi) (i:=1200)) J<|?_;exact rz J J
def PT{α:Type}{g:α->Bool}{E:List α}{k:Nat}{f:α}(hk:E[k]? =some f)(h:(E.take k).any g=false):(E.take (k+1)).any g=g f:=by
 rw[dL,hk,List.any_append,h];simp
def P6{α:Type}{g:α->Bool}{E:List α}{k:Nat}{f:α}(hk:E[k]? =some f)(h:g f=true):E.any g=true:=jL.2 ⟨f,bQ hk,h⟩
def V0{E:List aP}(hn:E.length<=1000000){f:FuncId}{pv:Value}{dp:DV}(hp:Is GB dp pv){g:aP->Bool}(hF: ∀x∈E,PF GB prog f [cp x,dp] (vB (g x))):PX GB prog 322 [.sl (E.map cp), .v (.func (.func f) ⟨[]⟩ ⟨[pv]⟩)] {j:Int//(0<=j↔E.any g=true)/\ -1<=j/\j<=1000000} (fun j=>vI j.1):=by
 have hml:(E.map cp).length=E.length:=aK ..;refine Yn (fu:=⟨10⟩) func322 J J ntmps322 J J (fun C=>?_);refine ak 7 (.d (vI (E.length:Nat))) J (by rw[hml]<;>rfl) ?_;refine gx J<|?_;refine lp (X:=Nat) (fun k=>[(8, .d (vI (k:Nat)))]) (fun k=>[]) (fun k=>k<=E.length/\(E.take k).any g=false) (fun k=>E.length-k) 0 J ⟨cV _,J⟩ (fun _=>J) (fun k hk=>?_);obtain⟨hk,hany⟩:=hk;refine br J J J (fun hc9=>?_) (fun hc9=>?_)
 .
  obtain⟨x,hx⟩: ∃u,E[k]? =some u:=⟨_,aZ (by omega)⟩;refine ix (fu:=⟨1⟩) _ J (fj hx) J<|qC (ds1:=[]) (ds2:=[dp]) J (cG.2 J) (.cons hp (cG.2 J)) (hF x (bQ hx)) J<|?_;refine bb J J J (fun hc16=>?_) (fun hc16=>?_)
  .
   exact Hs ⟨(k:Int),⟨fun _=>P6 hx hc16,fun _=>by omega⟩,by omega,by omega⟩ J J
  .
   exact at_ (k+1) ⟨⟨by omega,by rw[PT hx hany];simpa using hc16⟩,(by omega)⟩
 .
  obtain rfl:k=E.length:=by omega
  rw[fY] at hany;exact Hs ⟨-1,⟨fun h=>by omega,fun h=>by rw[hany] at h;cases h⟩,by omega,by omega⟩ J J
theorem u'{l:ab}{t:Rat}(hl:LB l)(ht:BQ t 1200):az (l.at t) 3000:=az.mono (inferInstance:az (l.at t) _) (by decide)
def pz{f:aP}(h1:f.v.nl=false)(h2:f.v.nh=false)(p:aa):o5 f p=if Int.sign f.l.dir.y.num=0 then 0 else if Int.sign (f.l.value p).num≠Int.sign f.l.dir.y.num then 0 else
  if Int.sign f.l.dir.y.num<0 then(if 0<bO (f.l.at f.v.hi).y p.y then 0 else if bO (f.l.at f.v.lo).y p.y<=0 then 0 else Int.sign f.l.dir.y.num)
  else(if 0<bO (f.l.at f.v.lo).y p.y then 0 else if bO (f.l.at f.v.hi).y p.y<=0 then 0 else Int.sign f.l.dir.y.num):=by
 unfold o5;rw[h1,h2];generalize Int.sign f.l.dir.y.num=U;generalize Int.sign (f.l.value p).num=S;generalize bO (f.l.at f.v.hi).y p.y=a;generalize bO (f.l.at f.v.lo).y p.y=b;by_cases k:U=0
 ·simp[k]
 ·by_cases k2:S≠U
  ·simp[k2]
  ·rw[if_neg (by simp[k,k2]),if_neg k,if_neg k2]
   by_cases k3:U<0
   ·simp[k3]
   ·simp[k3]
def HV(f:aP)(p:aa):(o5 f p).natAbs<=1:=by
 unfold o5;have:=VQ f.l.dir.y.num
 repeat' split
 all_goals omega
def NF{E:List aP}{p:aa}{k:Nat}{f:aP}(h:E[k]? =some f):eB (E.take (k+1)) p=eB (E.take k) p+o5 f p:=by
 rw[dL,h];show eB (E.take k++[f]) p=_;rw[Ee];unfold eB;simp
def Kx(E:List aP)(p:aa): ∀k,(eB (E.take k) p).natAbs<=k
 |0=>by simp[eB]
 |k+1=>by
  have ih:=Kx E p k
  cases h:E[k]? with
  |none=>
   have:E.take (k+1)=E.take k:=by rw[dL,h];simp
   rw[this];omega
  |some f=>
   rw[NF h];have:=HV f p;omega
def P9{f:aP}(hf:FE f){p:aa}{i:Nat}[hp:az p i](hi:i<=100000:=by decide):PF GB prog 169 [cp f,eZ p] (vI (o5 f p)):=by
 haveI:=hf.fo.lb;haveI:=hf.fo.lo;haveI:=hf.fo.hi;haveI:az (f.l.at f.v.hi) 3000:=u' hf.fo.lb hf.fo.hi;haveI:az (f.l.at f.v.lo) 3000:=u' hf.fo.lb hf.fo.lo;refine fn func169 J J ntmps169 J J (fun C=>?_);refine cl J (A6 (l:=f.l)) J<|cl (fu:=⟨6⟩) J (lm (q:=f.l.dir.y) (i:=97)) J<|?_;rcases Int.lt_or_le (Int.sign f.l.dir.y.num) 0 with hu|hu
 .
  refine gx J<|?_;refine cs 19 J J J (fun hg19=>?_) (fun hg19=>?_)
  .
   exact rz J (by rw[pz hf.nl hf.nh];(repeat' split)<;>first|rfl|(exfalso;omega))
  .
   refine cl J (CK (l:=f.l) (p:=p) (i:=i) (by omega)) J<|?_;refine br (fu2:=⟨5⟩) J J J (fun hc26=>?_) (fun hc26=>?_)
   .
    exact rz J (by rw[pz hf.nl hf.nh];(repeat' split)<;>first|rfl|(exfalso;omega))
   .
    refine uY (fu:=⟨1⟩) (rp f) J (fun G y hy=>ui hf.sm hy) J<|uY (fu:=⟨8⟩) (rp f) J (fun G y hy=>ui hf.sm hy) J<|mp (fu:=⟨14⟩) J (by show some (decide _)=some true;rw[decide_eq_true (by omega)]) J<|?_;refine qC (fu:=⟨12⟩) (ds1:=[cp f]) (ds2:=[]) J (.cons (uL hf.sm) (cG.2 J)) (cG.2 J) (B8 hf) J<|?_;refine oc 41 J ?_;refine gx J<|cl J (kh (i:=3000) (j:=i) (by decide) (by omega)) J<|?_;refine br (fu2:=⟨6⟩) J J J (fun hc48=>?_) (fun hc48=>?_)
    .
     exact rz J (by rw[pz hf.nl hf.nh];(repeat' split)<;>first|rfl|(exfalso;omega))
    .
     refine qC (fu:=⟨12⟩) (ds1:=[cp f]) (ds2:=[]) J (.cons (uL hf.sm) (cG.2 J)) (cG.2 J) (Dk hf) J<|?_;refine oc 55 J ?_;refine gx J<|cl J (kh (i:=3000) (j:=i) (by decide) (by omega)) J<|?_;refine br J J J (fun hc62=>?_) (fun hc62=>?_)
     .
      exact rz J (by rw[pz hf.nl hf.nh];(repeat' split)<;>first|rfl|(exfalso;omega))
     .
      exact rz J (by rw[pz hf.nl hf.nh];(repeat' split)<;>first|rfl|(exfalso;omega))
 .
  refine gx J<|?_;refine cs 19 J J J (fun hg19=>?_) (fun hg19=>?_)
  .
   exact rz J (by rw[pz hf.nl hf.nh];(repeat' split)<;>first|rfl|(exfalso;omega))
  .
   refine cl J (CK (l:=f.l) (p:=p) (i:=i) (by omega)) J<|?_;refine br (fu2:=⟨5⟩) J J J (fun hc26=>?_) (fun hc26=>?_)
   .
    exact rz J (by rw[pz hf.nl hf.nh];(repeat' split)<;>first|rfl|(exfalso;omega))
   .
    refine uY (fu:=⟨1⟩) (rp f) J (fun G y hy=>ui hf.sm hy) J<|uY (fu:=⟨8⟩) (rp f) J (fun G y hy=>ui hf.sm hy) J<|oq (fu:=⟨9⟩) J (by show some (decide _)=some false;rw[decide_eq_false (by omega)]) J<|?_;refine qC (fu:=⟨12⟩) (ds1:=[cp f]) (ds2:=[]) J (.cons (uL hf.sm) (cG.2 J)) (cG.2 J) (Dk hf) J<|?_;refine oc 41 J ?_;refine gx J<|cl J (kh (i:=3000) (j:=i) (by decide) (by omega)) J<|?_;refine br (fu2:=⟨6⟩) J J J (fun hc48=>?_) (fun hc48=>?_)
    .
     exact rz J (by rw[pz hf.nl hf.nh];(repeat' split)<;>first|rfl|(exfalso;omega))
    .
     refine qC (fu:=⟨12⟩) (ds1:=[cp f]) (ds2:=[]) J (.cons (uL hf.sm) (cG.2 J)) (cG.2 J) (B8 hf) J<|?_;refine oc 55 J ?_;refine gx J<|cl J (kh (i:=3000) (j:=i) (by decide) (by omega)) J<|?_;refine br J J J (fun hc62=>?_) (fun hc62=>?_)
     .
      exact rz J (by rw[pz hf.nl hf.nh];(repeat' split)<;>first|rfl|(exfalso;omega))
     .
      exact rz J (by rw[pz hf.nl hf.nh];(repeat' split)<;>first|rfl|(exfalso;omega))
def MR{E:List aP}(hE: ∀f∈E,FE f)(hn:E.length<=1000000){p:aa}{i:Nat}[hp:az p i](hi:i<=100000:=by decide):PF GB prog 77 [.sl (E.map cp),eZ p] (vI (eB E p)):=by
 have hml:(E.map cp).length=E.length:=aK ..;refine fn (fu:=⟨16⟩) func77 J J ntmps77 J J (fun C=>?_);refine ak 9 (.d (vI (E.length:Nat))) J (by rw[hml]<;>rfl) ?_;refine gx J<|?_;refine lp (X:=Nat) (fun k=>[(10, .d (vI (k:Nat))),(5, .d (vI (eB (E.take k) p)))]) (fun k=>[]) (fun k=>k<=E.length) (fun k=>E.length-k) 0 J (cV _) (fun _=>J) (fun k hk=>?_);have hw:=Kx E p k;refine br J J J (fun hc11=>?_) (fun hc11=>?_)
 .
  obtain⟨f,hx⟩: ∃u,E[k]? =some u:=⟨_,aZ (by omega)⟩;have hf:=hE f (bQ hx);have hcl:=HV f p;refine ix _ J (fj hx) J<|cl J (P9 hf (p:=p) (i:=i) hi) J<|?_;refine ak 5 (.d (vI (eB (E.take (k+1)) p))) J (by rw[NF hx]<;>rfl) ?_;exact at_ (k+1) ⟨(by omega),(by omega)⟩
 .
  obtain rfl:k=E.length:=by omega
  rw[fY];exact rz J J
def QU{f:aP}(hf:FE f){p:aa}{i:Nat}[hp:az p i](hi:i<=100000:=by decide):PF GB prog 225 [cp f, .pt [vI (dt p.x),vI (dz p.x),di p.x,vI (dt p.y),vI (dz p.y),di p.y]] (vB (gz f p)):=by
 refine fn func225 J J ntmps225 J J (fun C=>?_);refine uP 1 J<|gx J<|cl J (EJ hf (p:=p) (i:=i) hi) J<|?_;exact rz J J
def X0{E:List aP}(hn:E.length<=1000000){f:FuncId}{pv:Value}{dp:DV}(hp:Is GB dp pv){g:aP->Bool}(hF: ∀x∈E,PF GB prog f [cp x,dp] (vB (g x))):PF GB prog 224 [.sl (E.map cp), .v (.func (.func f) ⟨[]⟩ ⟨[pv]⟩)] (vB (E.any g)):=by
 refine fn func224 J J ntmps224 J J (fun C=>?_);refine cx J (V0 hn hp hF) (fun _=>J) (fun⟨j,hj,hj1,hj2⟩=>?_)
 try dsimp only
 exact rz J (by show DV.v (.bool (decide _))= .v (.bool _);congr 2;rw[Bool.eq_iff_iff,decide_eq_true_eq];exact hj)
def QW{E:List aP}(hE: ∀f∈E,FE f)(hn:E.length<=1000000){p:aa}{i:Nat}[hp:az p i](hi:i<=100000:=by decide):PF GB prog 131 [.sl (E.map cp),eZ p] (vB (E.any fun f=>gz f p)):=by
 refine fn (fu:=⟨9⟩) func131 J J ntmps131 J J (fun C=>?_);refine fz 3 J J ?_;refine ul 3 J (fun GB' pv hg hpv=>?_);refine JA J J<|cl J (X0 (E:=E) hn hpv (fun f hf=>QU (hE f hf) (p:=p) (i:=i) hi)) J<|?_;exact rz J J
def mv(v:List aa):List (List DV):=(List.range v.length).map fun i=>[vI (i:Nat),yN (v.getD i ⟨0,0⟩) (v.getD ((i+1)%v.length) ⟨0,0⟩)]
def Lo{v:List aa}{i:Nat}{p q:aa}(h1:v[i]? =some p)(h2:v[(i+1)%v.length]? =some q):(mv v)[i]? =some [vI (i:Nat),yN p q]:=by
 have hi:=(aN.1 h1).1;unfold mv;rw[gX,rJ hi,iN,aX,aX,h1,h2];rfl
def GK{v:List aa}{i:Nat}{e:List DV}(h:(mv v)[i]? =some e): ∃p q,v[i]? =some p/\v[(i+1)%v.length]? =some q/\e=[vI (i:Nat),yN p q]:=by
 have hi:i<v.length:=by
  have:=(aN.1 h).1;unfold mv at this;simpa using this
 have h1:v[i]? =some v[i]:=aZ hi;have hm:(i+1)%v.length<v.length:=cN _ (by omega);have h2:v[(i+1)%v.length]? =some v[(i+1)%v.length]:=aZ hm;refine⟨_,_,h1,h2,?_⟩;rw[Lo h1 h2] at h;exact(Option.some.inj h).symm
def Id{v:List aa}: ∀e∈mv v,e.length=2:=fun e he=>by
 obtain⟨i,_,rfl⟩:=bX.1 he;rfl
def Lu{v:List aa}(hn:v.length<=100000):It GB prog 253 [.pt [.sl (v.map eZ)]] (mv v):=by
 have hml:(v.map eZ).length=v.length:=aK ..;have hrl:(mv v).length=v.length:=by unfold mv;simp
 refine OR func253 J J ntmps253 J (fun _=>J) (fun l Jv Jx GB' hg H C hp hJ=>?_);refine uP 1 J<|gx J<|?_;refine ak 6 (.d (vI (v.length:Nat))) J (by rw[hml]<;>rfl) ?_;refine Py (X:=Nat) (fun k=>[(0, .d (.v (.func (.yield l) #[] #[]))),(1, .ep [.sl (v.map eZ)]),(5, .d (.sl (v.map eZ))),(6, .d (vI (v.length:Nat))),(7, .d (vI (k:Nat)))]) (fun k C=>k<=v.length/\Jv k C.G0 C.w0) (fun k=>v.length-k) 0 hp ⟨cV _,hJ⟩ (fun _=>J) (fun k C1 hp1 hk=>?_);obtain⟨hk1,hJ1⟩:=hk;refine br J J J (fun hc8=>?_) (fun hc8=>?_)
 ·obtain⟨p,hpx⟩: ∃u,v[k]? =some u:=⟨_,aZ (by omega)⟩
  obtain⟨q,hqx⟩: ∃u,v[(k+1)%v.length]? =some u:=⟨_,aZ (cN _ (by omega))⟩;refine ix _ J (fj hpx) J<|?_;refine ak 20 (.d (vI (((k+1)%v.length:Nat):Int))) J (by rw[hml]<;>rfl) ?_;refine gx J<|ix _ J (fj hqx) J<|WL (len:=2) (s:=6) (e:=141) J (by kernel_rfl) (by kernel_rfl) J<|?_;refine Vd (by kernel_rfl) J ?_;refine cy [(0, .d (.v (.func (.yield l) #[] #[]))),(1, .ep [.sl (v.map eZ)]),(5, .d (.sl (v.map eZ))),(6, .d (vI (v.length:Nat))),(7, .d (vI (k:Nat)))] H hp1 hJ1 J (Lo hpx hqx) J (by repeat (first|exact trivial|refine And.intro J ?_)) J J J (fun C3 hp3 hJ3=>?_) (fun C3 hp3 hJ3=>?_)
  ·exact Ov (k+1) hp3 ⟨⟨by omega,hJ3⟩,by omega⟩
  ·exact KR H hp3 (.inr hJ3) J
 ·obtain rfl:k=v.length:=by omega
  exact KR H hp1 (.inl (by rw[hrl];exact hJ1)) J
def Mh{v:List aa}:CZ GB prog 165 [.sl (v.map eZ)] 253 (.pt [.sl (v.map eZ)]):=by
 refine Xc func165 J J ntmps165 J J (fun C=>?_);refine fz 1 J J ?_;refine ul 1 J (fun GB' pv hg hp=>?_);refine JA J J ?_;exact Pi J J hp
def Ui:F0 139:=fun x w=>by kernel_rfl
def RM(m:List Value):Aa 139 (.agg ⟨m⟩) "Mul" 207:=fun w=>by kernel_rfl
def YF(l:List Rat)(k:Nat)(y:Rat):(l.map eF).set k (eF y)=(l.set k y).map eF:=(qQ ..).symm
def k8(L:List Rat)(k:Rat)(j:Nat):List Rat:=(L.take j).map (· *k)++L.drop j
def P4(L:List Rat)(k:Rat)(j:Nat):(k8 L k j).length=L.length:=by
 unfold k8;rw[aM,aK,cZ,iW];omega
def P0{L:List Rat}{k a:Rat}{j:Nat}(h:L[j]? =some a):(k8 L k j)[j]? =some a:=by
 have hj:=(aN.1 h).1;unfold k8;rw[cM (by rw[aK,cZ];omega),aK,cZ,jU,<-h];congr 1;omega
def XF{L:List Rat}{k a:Rat}{j:Nat}(h:L[j]? =some a):(k8 L k j).set j (a*k)=k8 L k (j+1):=by
 have hj:=(aN.1 h).1;unfold k8;rw[dL,h,List.set_append_right _ _ (by rw[aK,cZ];omega),aK,cZ,show j-min j L.length=0 by omega,cW hj];simp only[Option.toList_some,dZ,cL,jV,List.set_cons_zero,fL,jR,kY]
def IY{L:List Rat}{k:Rat}{i:Nat}[hk:BQ k i](hL: ∀a∈L,¬d9 a)(hb: ∀a∈L,BQ a i)(hn:L.length<=1000)(hi:i<=1000000:=by decide):PB GB prog 338 (lj [some (eF k),none]) 3 139 (L.map eF) (fun w=> .v (.slice w.a w.n w.c)) ((L.map (· *k)).map eF):=by
 have hml:(L.map eF).length=L.length:=aK ..;refine FT (fu:=⟨11⟩) func338 J J ntmps338 J J (fun C=>?_);refine ak 7 (.d (vI (L.length:Nat))) J (by rw[hml]<;>rfl) ?_;refine gx J<|?_;refine lp (X:=Nat) (fun j=>[(8, .d (vI (j:Nat)))]) (fun j=>[(1000000,some (.b 139 3 ((k8 L k j).map eF) false))]) (fun j=>j<=L.length) (fun j=>L.length-j) 0 J (cV _) (fun _=>J) (fun j hk=>?_);have hsl:=P4 L k j;have hsm:((k8 L k j).map eF).length=(k8 L k j).length:=aK ..;refine br J J J (fun hc9=>?_) (fun hc9=>?_)
 .
  obtain⟨a,hx⟩: ∃u,L[j]? =some u:=⟨_,aZ (by omega)⟩;have ham:=bQ hx;haveI:=hb a ham;have hga:(k8 L k j)[j]? =some a:=P0 hx;refine lb (fu:=⟨0⟩) _ J (fj hga) J<|X4 (fu:=⟨1⟩) (rV a) J Ui (fun G y hy=>Wm (hL a ham) hy) J<|XX J (RM _) (PF.arg0 (qf (p:=a) (q:=k) (i:=i) (j:=i) (by omega) (by omega)) (fun G y h=>by rw[bt.1 h];exact WE (hL a ham))) J<|?_;refine sb (hv:=by simp only[ah];exact⟨by kernel_rfl,by omega⟩) _ ((k8 L k (j+1)).map eF) J (fj hga) J (by rw[<-XF hx,<-YF]<;>rfl) J<|?_;exact at_ (j+1) ⟨(by omega),(by omega)⟩
 .
  obtain rfl:j=L.length:=by omega
  have hend:k8 L k L.length=L.map (· *k):=by unfold k8;rw[fY,jM,pX]
  exact vM J J J (by rw[hend])
def ET{a:Int}{g:Nat}(hg:0<g)(hd:g∣a.natAbs):(a:Rat)*(((g:Nat):Int):Rat)⁻¹=((zv (decide (a<0)) (a.natAbs/g):Int):Rat):=by
 obtain⟨q,hq⟩:=hd;have e:zv (decide (a<0)) (a.natAbs/g)*(g:Int)=a:=by
  rw[hq,pS q hg];unfold zv;have hc:((g*q:Nat):Int)=(g:Int)*(q:Int):=by simp
  have hm:=Int.mul_comm (g:Int) (q:Int);split
  ·rename_i h
   have h:=of_decide_eq_true h;rw[Int.neg_mul];omega
  ·rename_i h
   have h: ¬a<0:=fun k=>h (decide_eq_true k);omega
 generalize zv (decide (a<0)) (a.natAbs/g)=z at*;have h0:((g:Int):Rat)≠0:=by
  intro k;have:(g:Int)=0:=by exact_mod_cast k
  omega
 rw[<-e,cR];generalize ((g:Int):Rat)=r at*;grind
def pI{z:Int}(h:z.natAbs<=1000000): ¬d9 (z:Rat):=fun k=>k ⟨by show z.natAbs<_;omega,by show 1<_;decide⟩
def In{q:Rat}{k:Nat}(h:BQ q k)(hk:k<=62): ¬d9 q:=fun b=>b (by
 have hp:2^k<=2^62:=bZ (by decide) hk;have e:(2:Nat)^62=4611686018427387904:=by decide
 obtain⟨h1,h2⟩:=h;exact⟨by omega,by omega⟩)
theorem uV(p q:aa){i j:Nat}[az p i][az q j]:az ⟨p.x-q.x,p.y-q.y⟩ (i+j+1):=⟨inferInstanceAs (BQ (p.x-q.x) _),inferInstanceAs (BQ (p.y-q.y) _)⟩
theorem gw{z:Int}(h:z.natAbs<=1000000):BQ (z:Rat) 22:=by
 have e:(2:Nat)^21=2097152:=by decide
 haveI:BI z 21:=⟨by omega⟩;exact(inferInstance:BQ (z:Rat) 22)
def RC{a b c:Int}(ha:a.natAbs<=1000000)(hb:b.natAbs<=1000000)(hc:c.natAbs<=1000000)(h0: ¬(a=0/\b=0)):PF GB prog 243 [eF (a:Rat),eF (b:Rat),eF (c:Rat)] (.tp [ny (f9 a b c),vB true]):=by
 haveI:=gw ha;haveI:=gw hb;haveI:=gw hc;have hgn:Nat.gcd a.natAbs b.natAbs≠0:=fun h=>h0 ⟨mQ.1 (mL h),mQ.1 (mY h)⟩;have hgp:0<Nat.gcd (Nat.gcd a.natAbs b.natAbs) c.natAbs:=lK _ (gT hgn);have eg:rgcd (rgcd (a:Rat) b) c=(((Nat.gcd (Nat.gcd a.natAbs b.natAbs) c.natAbs:Nat):Int):Rat):=by rw[FN,FN];rfl
 have e1:(a:Rat)*(rgcd (rgcd (a:Rat) b) c)⁻¹=((f9 a b c).a:Rat):=by rw[eg];exact ET hgp (oN (jX _ _) (jX _ _))
 have e2:(b:Rat)*(rgcd (rgcd (a:Rat) b) c)⁻¹=((f9 a b c).b:Rat):=by rw[eg];exact ET hgp (oN (jX _ _) (kV _ _))
 have e3:(c:Rat)*(rgcd (rgcd (a:Rat) b) c)⁻¹=((f9 a b c).c:Rat):=by rw[eg];exact ET hgp (kV _ _)
 haveI:BQ (rgcd (a:Rat) b) 200:=BQ.mono (inferInstance:BQ (rgcd (a:Rat) b) _) (by decide);haveI:BQ (rgcd (rgcd (a:Rat) b) c) 600:=BQ.mono (inferInstance:BQ (rgcd (rgcd (a:Rat) b) c) _) (by decide);haveI:BQ (rgcd (rgcd (a:Rat) b) c)⁻¹ 600:=BQ.mono (inferInstance:BQ (rgcd (rgcd (a:Rat) b) c)⁻¹ _) (by decide);have hl4:([((f9 a b c).a:Rat),((f9 a b c).b:Rat),((f9 a b c).c:Rat)].map eF).length=3:=J;have hl3:[((f9 a b c).a:Rat),((f9 a b c).b:Rat),((f9 a b c).c:Rat)].length=3:=J;refine fn func243 J J ntmps243 J J (fun C=>?_);refine cl J (A' (q:=(a:Rat))) J<|?_;refine csd 11 J J J (fun hg11=>?_) (fun hg11=>?_)
 .
  refine cl J (A' (q:=(b:Rat))) J<|?_;refine bd J J J (fun hc14=>?_) (fun hc14=>?_)
  .
   exact absurd ⟨by exact_mod_cast hg11,by exact_mod_cast hc14⟩ h0
  .
   refine cl J (ww (p:=(a:Rat)) (q:=(b:Rat)) (i:=22) (j:=22)) J<|cl J (ww (p:=rgcd (a:Rat) b) (q:=(c:Rat)) (i:=200) (j:=22)) J<|?_;refine cl rfl (AJ (q:=rgcd (rgcd (a:Rat) b) c) (i:=600)) rfl<|ro (fu:=⟨0⟩) J J<|cq (hv:=by simp only[ah];exact⟨by kernel_rfl,by omega⟩) ([((f9 a b c).a:Rat),((f9 a b c).b:Rat),((f9 a b c).c:Rat)].map eF) rfl (IY (L:=[(a:Rat),(b:Rat),(c:Rat)]) (k:=(rgcd (rgcd (a:Rat) b) c)⁻¹) (i:=600) (by intro q hq;simp only[aU,jN,or_false] at hq;rcases hq with rfl|rfl|rfl;exact pI ha;exact pI hb;exact pI hc) (by intro q hq;simp only[aU,jN,or_false] at hq;rcases hq with rfl|rfl|rfl;exact(gw ha).mono (by decide);exact(gw hb).mono (by decide);exact(gw hc).mono (by decide)) (nb rfl)) (by simp only[cL,jV,e1,e2,e3]) rfl<|?_;refine lb _ J J J<|lb _ J J J<|lb _ J J J<|?_;exact rz J J
 .
  refine cl J (ww (p:=(a:Rat)) (q:=(b:Rat)) (i:=22) (j:=22)) J<|cl J (ww (p:=rgcd (a:Rat) b) (q:=(c:Rat)) (i:=200) (j:=22)) J<|?_;refine cl rfl (AJ (q:=rgcd (rgcd (a:Rat) b) c) (i:=600)) rfl<|ro (fu:=⟨0⟩) J J<|cq (hv:=by simp only[ah];exact⟨by kernel_rfl,by omega⟩) ([((f9 a b c).a:Rat),((f9 a b c).b:Rat),((f9 a b c).c:Rat)].map eF) rfl (IY (L:=[(a:Rat),(b:Rat),(c:Rat)]) (k:=(rgcd (rgcd (a:Rat) b) c)⁻¹) (i:=600) (by intro q hq;simp only[aU,jN,or_false] at hq;rcases hq with rfl|rfl|rfl;exact pI ha;exact pI hb;exact pI hc) (by intro q hq;simp only[aU,jN,or_false] at hq;rcases hq with rfl|rfl|rfl;exact(gw ha).mono (by decide);exact(gw hb).mono (by decide);exact(gw hc).mono (by decide)) (nb rfl)) (by simp only[cL,jV,e1,e2,e3]) rfl<|?_;refine lb _ J J J<|lb _ J J J<|lb _ J J J<|?_;exact rz J J
theorem qv{z:ZP}(h:ZP.le 100 z):az z.q 22:=⟨gw (by have:=h.1;omega),gw (by have:=h.2;omega)⟩
def rP{a b:Int}{m n:Nat}(ha:a.natAbs<=m)(hb:b.natAbs<=n):(a*b).natAbs<=m*n:=by
 rw[gN];exact nX ha hb
def Yo{v w:ZP}(hv:ZP.le 100 v)(hw:ZP.le 100 w)(h:v≠w):PF GB prog 151 [eZ v.q,eZ w.q] (.tp [ny (ir v.1 v.2 w.1 w.2),vB true]):=by
 haveI:=qv hv;haveI:=qv hw;have hv1:=hv.1;have hv2:=hv.2;have hw1:=hw.1;have hw2:=hw.2;obtain⟨A,hA⟩: ∃A,A=iI v.2 w.2:=⟨_,rfl⟩;obtain⟨B,hB⟩: ∃B,B=i4 v.1 w.1:=⟨_,rfl⟩;obtain⟨C0,hC⟩: ∃C0,C0=nG v.1 v.2 w.1 w.2:=⟨_,rfl⟩;have bA:A.natAbs<=200:=by rw[hA];unfold iI;omega
 have bB:B.natAbs<=200:=by rw[hB];unfold i4;omega
 have m1:=rP bA hv1;have m2:=rP bB hv2;have eC:C0= -(A*v.1+B*v.2):=by rw[hC,hA,hB];rfl
 have bC:C0.natAbs<=40000:=by rw[eC];omega
 have h0: ¬(A=0/\B=0):=fun k=>h (Prod.ext (by have:=k.2;rw[hB] at this;unfold i4 at this;omega) (by have:=k.1;rw[hA] at this;unfold iI at this;omega));haveI:az (iP A B) 22:=⟨gw (by omega),gw (by omega)⟩;haveI:BQ ((A*v.1+B*v.2:Int):Rat) 22:=gw (by omega);have eT:fH ⟨w.q.x-v.q.x,w.q.y-v.q.y⟩=iP A B:=by rw[hA,hB];unfold fH iP iI i4 ZP.q iP;simp only[aa.mk.injEq];push_cast;constructor<;>grind
 have eD:(iP A B).dot v.q=((A*v.1+B*v.2:Int):Rat):=by unfold aa.dot iP ZP.q iP;push_cast;rfl
 have eN: -((A*v.1+B*v.2:Int):Rat)=((C0:Int):Rat):=by rw[eC];push_cast;rfl
 refine fn func151 J J ntmps151 J J (fun C=>?_);refine cl J (BH (p:=w.q) (q:=v.q) (i:=22) (j:=22)) J<|cl (fu:=⟨0⟩) J (IK (p:=⟨w.q.x-v.q.x,w.q.y-v.q.y⟩) (i:=45) (h:=uV w.q v.q)) J<|?_;refine ak 12 (.d (eZ (iP A B))) J (by rw[eT]) ?_;refine gx J<|cl (fu:=⟨0⟩) J (pB (p:=iP A B) (q:=v.q) (i:=22) (j:=22)) J<|?_;refine ak 19 (.d (eF ((A*v.1+B*v.2:Int):Rat))) J (by rw[eD]) ?_;refine gx J<|cl (fu:=⟨0⟩) J (sk (q:=((A*v.1+B*v.2:Int):Rat)) (i:=22)) J<|?_;refine ak 20 (.d (eF ((C0:Int):Rat))) J (by rw[eN]) ?_;refine gx J<|cl J (RC (a:=A) (b:=B) (c:=C0) (by omega) (by omega) (by omega) h0) J<|?_;exact rz J (by rw[hA,hB,hC];rfl)
theorem He{l:ab}(ho:l.ok)(ha:l.a.natAbs<=200)(hb:l.b.natAbs<=200){m n:Int}(hm:m.natAbs<=100)(hn:n.natAbs<=100):BQ (ck l (iP m n)) 60:=by
 have hd:=wX ho.ne;have p1:=rP ha ha;have p2:=rP hb hb;have p3:=rP hm hb;have p4:=rP hn ha;have h60:(2:Nat)^60=1152921504606846976:=by decide
 have hA:BI (l.a*l.a+l.b*l.b) 60:=⟨by omega⟩;have hB:BI (m*l.b-n*l.a) 60:=⟨by omega⟩;have e1:l.dir.dot l.dir=((l.a*l.a+l.b*l.b:Int):Rat):=by
  rw[nT,cR,cR];simp only[ab.dir,aa.dot];grind
 have e2:(iP m n).dot l.dir=((m*l.b-n*l.a:Int):Rat):=by
  rw[lW,cR,cR];simp only[ab.dir,aa.dot,iP];grind
 have hd':((0:Int):Rat)<((l.a*l.a+l.b*l.b:Int):Rat):=by rw[<-e1];exact hd
 unfold ck;rw[e2,e1];clear e1 e2 p1 p2 p3 p4;generalize l.a*l.a+l.b*l.b=D at*;generalize m*l.b-n*l.a=M at*;have hD:0<D:=qJ.1 hd';refine BQ.of_fracI (n:=M) (D:=D) (by omega) ?_ hB hA;have h0:(D:Rat)≠0:=fun e=>by rw[e] at hd';exact absurd hd' (by decide)
 have:((D.natAbs:Nat):Rat)=(D:Rat):=by
  have h1:((D.natAbs:Nat):Int)=D:=by omega
  rw[<-h1];rfl
 rw[this];grind
def La{v w:ZP}(hv:ZP.le 100 v)(hw:ZP.le 100 w)(h:v≠w):FE (ba v w):=by
 have hf:=Ni hv hw h;have hv1:=hv.1;have hv2:=hv.2;have hw1:=hw.1;have hw2:=hw.2;have bA:(iI v.2 w.2).natAbs<=200:=by unfold iI;omega
 have bB:(i4 v.1 w.1).natAbs<=200:=by unfold i4;omega
 have m1:=rP bA hv1;have m2:=rP bB hv2;have bC:(nG v.1 v.2 w.1 w.2).natAbs<=40000:=by unfold nG;omega
 obtain⟨k1,k2,k3⟩:=Ld (iI v.2 w.2) (i4 v.1 w.1) (nG v.1 v.2 w.1 w.2);have ea:(ba v w).l.a.natAbs<=200:=fS k1 bA;have eb:(ba v w).l.b.natAbs<=200:=fS k2 bB;have ec:(ba v w).l.c.natAbs<=40000:=fS k3 bC;exact⟨hf,⟨pI (by omega),pI (by omega),pI (by omega),In (He hf.ok ea eb hv1 hv2) (by decide),In (He hf.ok ea eb hw1 hw2) (by decide)⟩,J,J⟩
def WU{r:List ZP}(h:b9 r): ∀f∈ip r,FE f:=fun f hf=>by
 obtain⟨k,hk,rfl⟩:=B9 hf;exact La (h.le _ (wK hk)) (h.le _ (zj hk)) (h.ne k hk)
def Nn{rs:List (List ZP)}(h: ∀r∈rs,b9 r): ∀f∈bH rs,FE f:=fun f hf=>by
 obtain⟨r,h1,h2⟩:=cS.1 hf;exact WU (h r h1) f h2
def RK{v w:ZP}(hv:ZP.le 100 v)(hw:ZP.le 100 w)(h:v≠w):PF GB prog 166 [eZ v.q,eZ w.q] (.tp [cp (ba v w),vB true]):=by
 have hf:=La hv hw h;haveI:LB (ir v.1 v.2 w.1 w.2):=hf.fo.lb;haveI:=qv hv;haveI:=qv hw;refine fn func166 J J ntmps166 J J (fun C=>?_);refine cl (fu:=⟨12⟩) J (Yo hv hw h) J<|?_;refine oc 14 J ?_;refine gx J<|cl J (w5 (l:=ir v.1 v.2 w.1 w.2) (p:=v.q) (i:=22)) J<|cl J (w5 (l:=ir v.1 v.2 w.1 w.2) (p:=w.q) (i:=22)) J<|?_;exact rz J J
def AN{r:List ZP}{k:Nat}{p:aa}(h:(r.map ZP.q)[k]? =some p):k<r.length/\p=(r.getD k (0,0)).q:=by
 rw[gX] at h
 cases e:r[k]? with
 |none=>rw[e] at h;cases h
 |some z=>
  rw[e] at h;cases h;exact⟨(aN.1 e).1,by rw[aX,e];rfl⟩
def yR(r:List ZP): ∀n,(jz r n).length=n
 |0=>rfl
 |n+1=>by rw[jz,aM,yR r n];rfl
def Np{r:List ZP}{k:Nat}: ∀{n:Nat},k<n->(jz r n)[k]? =some (ba (r.getD k (0,0)) (de r k))
 |0,h=>by omega
 |n+1,h=>by
  rw[jz];by_cases e:k=n
  ·subst e
   rw[cM (by rw[yR];omega),yR,Nat.sub_self];rfl
  ·rw[cJ (by rw[yR];omega)]
   exact Np (by omega)
def N2(l:List aP):eh 17 (l.map cp):=fun d hd=>by
 obtain⟨x,_,rfl⟩:=bX.1 hd;exact⟨J,J⟩
def Sk{L:List aP}{k:Nat}{l:aP}(h:L[k]? =some l):((L.take k).map cp)++[cp l]=(L.take (k+1)).map cp:=by
 rw[dL,h,dZ];rfl
def Q6{r:List ZP}(h:b9 r):PF GB prog 74 [.sl ((r.map ZP.q).map eZ)] (.sl ((ip r).map cp)):=by
 have hn:=h.n6;obtain⟨v,hv⟩: ∃v,v=r.map ZP.q:=⟨_,rfl⟩;have hvl:v.length=r.length:=by rw[hv,aK]
 rw[<-hv];have hel:(ip r).length=r.length:=(tH h).1;have hrl:(mv v).length=r.length:=by unfold mv;rw[aK,qK,hvl]
 refine Kg func74 J J ntmps74 J J (fun C h0=>?_);refine IX J J J Mh (fun _=>J) (fun GB1 pv hg1 hpv=>?_);refine YB 3 0 50 222 17 J J J J J ?_;refine Cy 3 2000003 h0.fx J ?_;refine Ha (σ:=Empty) (fun k=>[(2000003,some (.o 130 [.rw 50] true)),(50,some (.b 222 17 (((ip r).take k).map cp) true))]) (fun _=>True) (fun _=>[]) (fun _=>False) [(3, .ov 2000003 0)]
  h0 J (Lu (by omega)) (.cons hpv .nil) ⟨J,trivial⟩ J ⟨J,J,trivial⟩ trivial Id J J (fun k e GB' hE hg hp=>?_) (fun D hD hx hp=>?_) (fun D s hD hx hq=>hq.elim)
 ·obtain⟨p,q,hpx,hqx,rfl⟩:=GK hE
  rw[hvl] at hqx;rw[hv] at hpx hqx;obtain⟨hk,rfl⟩:=AN hpx;obtain⟨hk2,rfl⟩:=AN hqx;have hx:(ip r)[k]? =some (ba (r.getD k (0,0)) (de r k)):=Np hk;have hml:(((ip r).take k).map cp).length=k:=by rw[aK,cZ];omega
  refine⟨?_,?_,fun C2=>?_,fun C2=>?_⟩
  rotate_left 2
  ·refine gx J<|HE J J J ⟨J,J,J⟩ J ?_
   exact atR
  ·refine gx J<|xR 0 (e:=141) (len:=2) (s:=6) J (by kernel_rfl) (by kernel_rfl) (by decide) J<|xR 1 (e:=141) (len:=2) (s:=6) J (by kernel_rfl) (by kernel_rfl) (by decide) J<|?_
   refine cl J (RK (h.le _ (wK hk)) (h.le _ (zj hk)) (h.ne k hk)) J<|?_;refine rf J J<|ap (((ip r).take (k+1)).map cp) J (Sk hx) (N2 [ba (r.getD k (0,0)) (de r k)]) J<|?_;refine ly 23 50 J ?_;exact rq trivial ⟨J,J,trivial⟩
 ·rw[hrl,<-hel,fY]
  refine gx J<|?_;refine n5 50 J ?_;exact KL hD hx J J
def Ri{a i:Nat}[h:BN a i](hi:i<=1000000000:=by decide):PF GB prog 348 [dN a] (.v (.bool true)):=
 (NI (ds:=dg a) (dO _).2.1 (by have:=kB (a:=a) hi;omega)).to (by unfold vB;rw[decide_eq_true (dO a).2.2])
def Jp{q:Rat}{i:Nat}[hq:BQ q i](hi:i<=1000000:=by decide):PF GB prog 284 [eR q] (.v (.bool true)):=by
 have hd:=q.den_pos;have hdl:0<(dg q.den).length:=gT fun e=>by have:=ve.1 e;omega
 have hml:((dg q.den).map dU).length=(dg q.den).length:=aK ..;have hco:Nat.gcd q.num.natAbs q.den=1:=q.reduced;refine fn func284 J J ntmps284 J J (fun C=>?_);refine cl (fu:=⟨0⟩) J (Vv (m:=q.num) (i:=i) (h:=⟨hq.hn⟩) (by omega)) J<|?_;refine oc 5 J ?_;refine gx J<|cl (fu:=⟨0⟩) J (Ri (a:=q.den) (i:=i) (h:=⟨hq.hd⟩) (by omega)) J<|?_;refine oc 10 J ?_;refine gx (fu:=⟨6⟩) J<|oq J (by show some (decide _)=some false;rw[decide_eq_false (by omega)]) J<|cl (fu:=⟨0⟩) J (Dh (a:=q.num.natAbs) (b:=q.den) (i:=i) (j:=i) (h:=⟨hq.hn⟩) (k:=⟨hq.hd⟩) (by omega) (by omega)) J<|?_;refine ak 24 (.d (dN 1)) J (by rw[hco]) ?_;refine gx J<|cl J (rD (a:=1) (i:=1) (h:=⟨by decide⟩)) J<|?_;exact rz J J
def US{p:aa}{i:Nat}[hp:az p i](hi:i<=1000000:=by decide):PF GB prog 189 [je p] (.v (.bool true)):=by
 refine fn func189 J J ntmps189 J J (fun C=>?_);refine cl (fu:=⟨0⟩) J (Jp (q:=p.x) (i:=i) (by omega)) J<|?_;refine oc 5 J ?_;refine gx J<|cl J (Jp (q:=p.y) (i:=i) (by omega)) J<|?_;exact rz J J
def HF{m n:Int}(hm:m.natAbs<=1000000)(hn:n.natAbs<=1000000):PF GB prog 111 [vI m,vI n] (je (iP m n)):=by
 haveI:=gw hm;haveI:=gw hn;haveI:az (iP m n) 22:=⟨gw hm,gw hn⟩;refine fn func111 J J ntmps111 J J (fun C=>?_);refine cl J (xe (m:=m) (by omega)) J<|cl J (xe (m:=n) (by omega)) J<|cl J (NV (p:=iP m n) (i:=22)) J<|?_;exact rz J J
def jx(l:List aa)(p:aa):Int:=match l.findIdx? (fun q=>decide (q.x=p.x/\q.y=p.y)) with
 |some i=>(i:Nat)
 |none=> -1
def Bg{l:List aa}{p q:aa}{k:Nat}(hx:l[k]? =some q)(h:(l.take k).all (fun q=>!decide (q.x=p.x/\q.y=p.y))=true)(hq:q.x=p.x/\q.y=p.y):jx l p=(k:Nat):=by
 have hk:=(aN.1 hx).1;have e:l.findIdx? (fun q=>decide (q.x=p.x/\q.y=p.y))=some k:=by
  rw[List.findIdx?_eq_some_iff_getElem];refine⟨hk,?_,fun j hj=>?_⟩
  ·rw[(aN.1 hx).2];exact decide_eq_true hq
  ·have:=dR.1 h l[j] (by rw[List.mem_take_iff_getElem];exact⟨j,by omega,J⟩)
   simp at this⊢;intro a b;rcases this with k|k
   ·exact k a
   ·exact k b
 unfold jx;rw[e]
def U3{l:List aa}{p:aa}(h:l.all (fun q=>!decide (q.x=p.x/\q.y=p.y))=true):jx l p= -1:=by
 have e:l.findIdx? (fun q=>decide (q.x=p.x/\q.y=p.y))=none:=by
  rw[List.findIdx?_eq_none_iff];intro x hx;have:=dR.1 h x hx;simp at this⊢;intro a b;rcases this with k|k
  ·exact k a
  ·exact k b
 unfold jx;rw[e]
def PJ{l:List aa}{k:Nat}{q:aa}{g:aa->Bool}(hx:l[k]? =some q)(h:(l.take k).all g=true)(hq:g q=true):(l.take (k+1)).all g=true:=by
 rw[dL,hx,List.all_append,h];simp[hq]
def RG{l:List aa}{p:aa}{i:Nat}[hp:az p i](hl: ∀q∈l,az q i)(hn:l.length<=100000)(hi:i<=1000000:=by decide):PF GB prog 191 [.sl (l.map eZ),eZ p] (vI (jx l p)):=by
 have hml:(l.map eZ).length=l.length:=aK ..;refine fn (fu:=⟨11⟩) func191 J J ntmps191 J J (fun C=>?_);refine ak 8 (.d (vI (l.length:Nat))) J (by rw[hml]<;>rfl) ?_;refine gx J<|?_;refine lp (X:=Nat) (fun k=>[(9, .d (vI (k:Nat)))]) (fun k=>[]) (fun k=>k<=l.length/\(l.take k).all (fun q=>!decide (q.x=p.x/\q.y=p.y))=true) (fun k=>l.length-k) 0 J ⟨cV _,J⟩ (fun _=>J) (fun k hk=>?_);obtain⟨hk,hall⟩:=hk;refine br J J J (fun hc10=>?_) (fun hc10=>?_)
 .
  obtain⟨q,hx⟩: ∃u,l[k]? =some u:=⟨_,aZ (by omega)⟩;haveI:=hl q (bQ hx);refine ix _ J (fj hx) J<|cl J (L4 (p:=q) (q:=p) (i:=i) hi) J<|?_;refine bd J J J (fun hc16=>?_) (fun hc16=>?_)
  .
   exact rz J (by rw[Bg hx hall hc16];rfl)
  .
   exact at_ (k+1) ⟨⟨by omega,PJ hx hall (by rw[decide_eq_false hc16];rfl)⟩,(by omega)⟩
 .
  obtain rfl:k=l.length:=by omega
  rw[fY] at hall;exact rz J (by rw[U3 hall];rfl)
def c9(l:List aa):Nat->Nat
 |0=>0
 |k+1=>c9 l k+if jx l (l.getD k ⟨0,0⟩)=(k:Nat) then 1 else 0
def iB(l:List aa)(k:Nat):Nat:=if 3<=c9 l k then 3 else c9 l k
def We{l:List aa}{k:Nat}(h:iB l k<3)(e:c9 l (k+1)=c9 l k+1):((iB l k:Nat):Int)+1=((iB l (k+1):Nat):Int):=by
 have a:iB l k=if 3<=c9 l k then 3 else c9 l k:=J
 have b:iB l (k+1)=if 3<=c9 l (k+1) then 3 else c9 l (k+1):=J
 split at a<;>split at b<;>omega
def GM{l:List aa}{k:Nat}(h: ¬iB l k<3\/c9 l (k+1)=c9 l k)(m:c9 l k<=c9 l (k+1)):((iB l k:Nat):Int)=((iB l (k+1):Nat):Int):=by
 have a:iB l k=if 3<=c9 l k then 3 else c9 l k:=J
 have b:iB l (k+1)=if 3<=c9 l (k+1) then 3 else c9 l (k+1):=J
 split at a<;>split at b<;>omega
def TH(l:List aa)(k:Nat):iB l k<=3:=by unfold iB;split<;>omega
def SG{l:List aa}{k:Nat}(h:3<=c9 l k):iB l k=3:=by unfold iB;rw[if_pos h]
def Br{l:List aa}{k:Nat}{p:aa}(hx:l[k]? =some p)(h:jx l p=(k:Nat)):c9 l (k+1)=c9 l k+1:=by
 rw[c9,aX,hx,gM,if_pos h]
def Yt{l:List aa}{k:Nat}{p:aa}(hx:l[k]? =some p)(h: ¬jx l p=(k:Nat)):c9 l (k+1)=c9 l k:=by
 rw[c9,aX,hx,gM,if_neg h];rfl
def NH{l:List aa}{k:Nat}:c9 l k<=c9 l (k+1):=by rw[c9];split<;>omega
def Tw{v:List aa}{k:Nat}{p:aa}(h:v[k]? =some p):((v.take k).map eZ)++[eZ p]=(v.take (k+1)).map eZ:=by
 rw[dL,h,dZ];rfl
def U0{r:List ZP}(h:b9 r){k:Nat}(hk:k<r.length):decide ((r.getD k (0,0)).q.x=(de r k).q.x/\(r.getD k (0,0)).q.y=(de r k).q.y)=false:=decide_eq_false fun e=>h.ne k hk (vK (by
 obtain⟨e1,e2⟩:=e;generalize (r.getD k (0,0)).q=a at*;generalize (de r k).q=b at*
 cases a;cases b
 simp only[aa.mk.injEq];exact⟨e1,e2⟩))
def LX{r:List ZP}(h:b9 r)(h3:3<=c9 (r.map ZP.q) (r.map ZP.q).length):PF GB prog 102 [jj r] (.tp [.sl ((r.map ZP.q).map eZ), .v .nilIface]):=by
 have hn:=h.n6;obtain⟨v,hv⟩: ∃v,v=r.map ZP.q:=⟨_,rfl⟩;have hvl:v.length=r.length:=by rw[hv,aK]
 have hb: ∀p∈v,az p 22:=fun p hp=>by rw[hv] at hp;obtain⟨z,hz,rfl⟩:=bX.1 hp;exact qv (h.le z hz)
 unfold jj;rw[<-hv] at h3⊢;have hm1:(v.map je).length=v.length:=aK ..;have hm2:(v.map eZ).length=v.length:=aK ..;have hrl:(mv v).length=v.length:=by unfold mv;rw[aK,qK]
 refine Kg (fu:=⟨11⟩) func102 J J ntmps102 J J (fun C h0=>?_);refine ak 13 (.d (vI (v.length:Nat))) J (by rw[hm1]<;>rfl) ?_;refine gx (fu:=⟨0⟩) J<|oq (fu:=⟨15⟩) J (by show some (decide _)=some false;rw[decide_eq_false (by omega)]) J<|?_;refine ak 20 (.d (vI (v.length:Nat))) J (by rw[hm1]<;>rfl) ?_;refine gx J<|?_;refine nr 4 4 141 6 J J J ?_;refine lp (X:=Nat) (fun k=>[(21, .d (vI (k:Nat))),(4, .rw 4)]) (fun k=>[(4,some (.b 141 6 ((v.take k).map eZ) true))]) (fun k=>k<=v.length) (fun k=>v.length-k) 0 J (cV _) (fun _=>J) (fun k hk=>?_);have hm3:((v.take k).map eZ).length<=k:=by rw[aK,cZ];omega
 refine br (fu2:=⟨0⟩) J J J (fun hc22=>?_) (fun hc22=>?_)
 .
  obtain⟨p,hx⟩: ∃u,v[k]? =some u:=⟨_,aZ (by omega)⟩;haveI:=hb p (bQ hx);refine ix _ J (fj hx) J<|cl (fu:=⟨0⟩) J (US (p:=p) (i:=22)) J<|?_;refine oc 27 J ?_;refine gx J<|cl J (x5 (p:=p) (i:=22)) J<|rf J J<|ap ((v.take (k+1)).map eZ) J (Tw hx) (rF [p]) J<|?_;refine ly 41 4 J ?_;exact at_ (k+1) ⟨(by omega),(by omega)⟩
 .
  obtain rfl:k=v.length:=by omega
  rw[fY];refine MY 4 J ?_;refine gx (fu:=⟨15⟩) J<|?_;refine ak 44 (.d (vI (v.length:Nat))) J (by rw[hm2]<;>rfl) ?_;refine gx J<|?_;refine lp (X:=Nat) (fun k=>[(45, .d (vI (k:Nat))),(7, .d (vI ((iB v k):Nat)))]) (fun k=>[]) (fun k=>k<=v.length) (fun k=>v.length-k) 0 J (cV _) (fun _=>J) (fun k hk=>?_);have hdm:=TH v k;refine br (fu2:=⟨9⟩) J J J (fun hc46=>?_) (fun hc46=>?_)
  .
   obtain⟨p,hx⟩: ∃u,v[k]? =some u:=⟨_,aZ (by omega)⟩;haveI:=hb p (bQ hx);have hcm:=NH (l:=v) (k:=k);refine ix _ J (fj hx) J<|?_;refine cs 52 J J J (fun hg52=>?_) (fun hg52=>?_)
   .
    refine cl J (RG (l:=v) (p:=p) (i:=22) hb (by omega)) J<|?_;refine br J J J (fun hc58=>?_) (fun hc58=>?_)
    .
     have he7:=We (by omega) (Br hx (by omega));refine ak 7 (.d (vI (iB v (k+1):Nat))) J (by rw[he7]<;>rfl) ?_;exact at_ (k+1) ⟨(by omega),(by omega)⟩
    .
     have he7:=GM (.inr (Yt hx (by omega))) hcm;refine ak 7 (.d (vI (iB v (k+1):Nat))) J (by rw[he7]<;>rfl) ?_;exact at_ (k+1) ⟨(by omega),(by omega)⟩
   .
    have he7:=GM (l:=v) (k:=k) (.inl (by omega)) hcm;refine ak 7 (.d (vI (iB v (k+1):Nat))) J (by rw[he7]<;>rfl) ?_;exact at_ (k+1) ⟨(by omega),(by omega)⟩
  .
   obtain rfl:k=v.length:=by omega
   have hd3:=SG h3;refine oq (fu:=⟨9⟩) J (by show some (decide _)=some false;rw[decide_eq_false (by omega)]) J<|?_;refine IX J J J Mh (fun _=>J) (fun GB1 pv hg1 hpv=>?_);refine Cy 2 2000002 h0.fx J<|Cy 3 2000003 h0.fx J ?_;refine Ha (σ:=Empty) (fun _=>[(2000002,some (.o 132 [.nl] true)),(2000003,some (.o 34 [.d (.v .nilIface)] true))]) (fun _=>True) (fun _=>[]) (fun _=>False) [(2, .ov 2000002 0),(3, .ov 2000003 0),(4, .d (.sl (v.map eZ)))] h0 J (Lu (by omega)) (.cons hpv .nil) ⟨J,J,J,trivial⟩ J ⟨J,J,trivial⟩ trivial Id J J (fun k e GB' hE hg hp=>?_) (fun D hD hx hp=>?_) (fun D s hD hx hq=>hq.elim)
   ·obtain⟨p,q,hpx,hqx,rfl⟩:=GK hE
    rw[hvl] at hqx;rw[hv] at hpx hqx;obtain⟨hk,rfl⟩:=AN hpx;obtain⟨hk2,rfl⟩:=AN hqx;haveI:=qv (h.le _ (wK hk));haveI:=qv (h.le _ (zj hk));have hne:=U0 h hk;refine⟨?_,?_,fun C2=>?_,fun C2=>?_⟩
    rotate_left 2
    ·refine gx J<|HE J J J ⟨J,J,J⟩ J ?_
     exact atR
    ·refine gx J<|xR 0 (e:=141) (len:=2) (s:=6) J (by kernel_rfl) (by kernel_rfl) (by decide) J<|xR 1 (e:=141) (len:=2) (s:=6) J (by kernel_rfl) (by kernel_rfl) (by decide) J<|?_
     refine cl J (L4 (p:=(r.getD k (0,0)).q) (q:=(de r k).q) (i:=22)) J<|?_;refine bd J J J (fun hc=>absurd (decide_eq_true hc) (by rw[hne];decide)) (fun hc=>?_);exact rq trivial ⟨J,J,trivial⟩
   ·refine gx J<|?_
    exact KL hD hx J J
structure f7 (r:List ZP):Prop where
 ok:b9 r
 c3:3<=c9 (r.map ZP.q) (r.map ZP.q).length
def qn(r:List ZP):DV:= .sl ((r.map ZP.q).map eZ)
def Tj(l:List (List ZP)):eh 1 (l.map qn):=fun d hd=>by
 obtain⟨x,_,rfl⟩:=bX.1 hd;exact⟨J,J⟩
def WA{L:List (List ZP)}{k:Nat}{l:List ZP}(h:L[k]? =some l):((L.take k).map qn)++[qn l]=(L.take (k+1)).map qn:=by
 rw[dL,h,dZ];rfl
def W4{L:List (List ZP)}{k:Nat}{l:List ZP}(h:L[k]? =some l):((bH (L.take k)).map cp)++((ip l).map cp)=(bH (L.take (k+1))).map cp:=by
 rw[WO h,dZ]
def XL{rs:List (List ZP)}(h: ∀r∈rs,f7 r)(hn:rs.length<=200):PF GB prog 73 [.sl (rs.map jj)] (.tp [.sl (rs.map qn), .v .nilIface]):=by
 have hml:(rs.map jj).length=rs.length:=aK ..;refine fn (fu:=⟨11⟩) func73 J J ntmps73 J J (fun C=>?_);refine ak 10 (.d (vI (rs.length:Nat))) J (by rw[hml]<;>rfl) ?_;refine gx (fu:=⟨0⟩) J<|oq (fu:=⟨15⟩) J (by show some (decide _)=some false;rw[decide_eq_false (by omega)]) J<|?_;refine ak 17 (.d (vI (rs.length:Nat))) J (by rw[hml]<;>rfl) ?_;refine gx J<|?_;refine nr 4 4 132 1 J J J ?_;refine lp (X:=Nat) (fun k=>[(18, .d (vI (k:Nat))),(4, .rw 4)]) (fun k=>[(4,some (.b 132 1 ((rs.take k).map qn) true))]) (fun k=>k<=rs.length) (fun k=>rs.length-k) 0 J (cV _) (fun _=>J) (fun k hk=>?_);have hm3:((rs.take k).map qn).length<=k:=by rw[aK,cZ];omega
 refine br J J J (fun hc19=>?_) (fun hc19=>?_)
 .
  obtain⟨r,hx⟩: ∃u,rs[k]? =some u:=⟨_,aZ (by omega)⟩;have hr:=h r (bQ hx);refine ix _ J (fj hx) J<|cl (fu:=⟨11⟩) J (LX hr.ok hr.c3) J<|oq J J J<|rf J J<|ap ((rs.take (k+1)).map qn) J (WA hx) (Tj [r]) J<|?_;refine ly 33 4 J ?_;exact at_ (k+1) ⟨(by omega),(by omega)⟩
 .
  obtain rfl:k=rs.length:=by omega
  rw[fY];refine n5 4 J ?_;exact rz J J
def LA{rs:List (List ZP)}(h: ∀r∈rs,f7 r)(hn:rs.length<=200):PF GB prog 107 [.sl (rs.map jj)] (.tp [.sl ((bH rs).map cp), .v .nilIface]):=by
 have hml:(rs.map qn).length=rs.length:=aK ..;refine fn func107 J J ntmps107 J J (fun C=>?_);refine cl (fu:=⟨11⟩) J (XL h hn) J<|oq (fu:=⟨15⟩) J J J<|?_;refine ak 18 (.d (vI (rs.length:Nat))) J (by rw[hml]<;>rfl) ?_;refine gx J<|?_;refine nr 6 6 222 17 J J J ?_;refine lp (X:=Nat) (fun k=>[(19, .d (vI (k:Nat))),(6, .rw 6)]) (fun k=>[(6,some (.b 222 17 ((bH (rs.take k)).map cp) true))]) (fun k=>k<=rs.length) (fun k=>rs.length-k) 0 J (cV _) (fun _=>J) (fun k hk=>?_);have hm5:=Il (fun r hr=>(h r hr).ok) k;have hm3:((bH (rs.take k)).map cp).length<=6*k:=by rw[aK];exact Il (fun r hr=>(h r hr).ok) k
 refine br J J J (fun hc20=>?_) (fun hc20=>?_)
 .
  obtain⟨r,hx⟩: ∃u,rs[k]? =some u:=⟨_,aZ (by omega)⟩;have hr:=h r (bQ hx);have hel:=(tH hr.ok).1;have hn6:=hr.ok.n6;have hm4:((ip r).map cp).length=(ip r).length:=aK ..;refine ix _ J (fj hx) J<|cl J (Q6 hr.ok) J<|ap ((bH (rs.take (k+1))).map cp) J (W4 hx) (N2 (ip r)) J<|?_;refine ly 26 6 J ?_;exact at_ (k+1) ⟨(by omega),(by omega)⟩
 .
  obtain rfl:k=rs.length:=by omega
  rw[fY];refine n5 6 J ?_;exact rz J J
def IT{rs:List (List ZP)}(h: ∀r∈rs,f7 r)(hn:rs.length<=200):(bH rs).length<=1200:=by
 have:=(qr fun r hr=>(h r hr).ok).1;omega
def IC(rs:List (List ZP))(p:aa):Bool:=(bH rs).any fun f=>gz f p
def Ux{fill n:Int}:PF GB prog 59 [vI fill,vI n] (vB (gH fill n)):=by
 refine fn func59 J J ntmps59 J J (fun C=>?_);refine br J J J (fun hc6=>?_) (fun hc6=>?_)
 .
  exact rz J (by show DV.v (.bool _)= .v (.bool _);unfold gH;simp_all)
 .
  refine br J J J (fun hc11=>?_) (fun hc11=>?_)
  .
   exact rz J (by show DV.v (.bool _)= .v (.bool _);unfold gH;simp_all)
  .
   exact rz J (by show DV.v (.bool _)= .v (.bool _);unfold gH;simp_all)
def WK{rs:List (List ZP)}(h: ∀r∈rs,f7 r)(hn:rs.length<=200){p:aa}{i:Nat}[hp:az p i](hno:IC rs p=false)(hi:i<=100000:=by decide):PF GB prog 50 [.sl (rs.map jj),je p] (.tp [vI (eB (bH rs) p), .v .nilIface]):=by
 have hel:=IT h hn;have hfe:=Nn fun r hr=>(h r hr).ok;refine fn func50 J J ntmps50 J J (fun C=>?_);refine cl J (LA h hn) J<|cl (fu:=⟨9⟩) J (x5 (p:=p) (i:=i) (by omega)) J<|oq J J J<|cl (fu:=⟨0⟩) J (QW (E:=bH rs) hfe (by omega) (p:=p) (i:=i) hi) J<|?_;refine ak 23 (.d (vB false)) J (by rw[show(bH rs).any (fun f=>gz f p)=false from hno]) ?_;refine t8 23 J ?_;refine gx J<|cl J (MR (E:=bH rs) hfe (by omega) (p:=p) (i:=i) hi) J<|?_;exact rz J J
def L8{u v:aa}{i j:Nat}[hp:az u i][hq:az v j](hi:i<=10000000:=by decide)(hj:j<=10000000:=by decide):PF GB prog 318 [eZ u,eZ v] (vB (decide (cA u v=0))):=by
 refine fn func318 J J ntmps318 J J (fun C=>?_);refine cl J (Jh (u:=u) (v:=v) hi hj) J<|?_;exact rz J J
def jG(x:aa):List aa->List aa
 |[]=>[]
 |y::l=>if cA y x=0 then jG y l else y::jG y l
def rh:List aa->List aa
 |[]=>[]
 |x::l=>x::jG x l
def Ar{l:List aa}{k:Nat}{x y:aa}(h:l[k]? =some y):jG x (l.drop k)=if cA y x=0 then jG y (l.drop (k+1)) else y::jG y (l.drop (k+1)):=by
 obtain⟨h1,h2⟩:=aN.1 h;rw[cW h1,h2,jG]
def QS{l:List aa}{k:Nat}{y:aa}(h:l[k]? =some y):l.take (k+1)=l.take k++[y]:=by
 rw[dL,h];rfl
def vZ:DV:= .ag [vI 0,vI 0, .v (.pointer none),vI 0,vI 0, .v (.pointer none)]
def WS(l:List aa)(k:Nat)(y:aa):(l.map eZ).set k (eZ y)=(l.set k y).map eZ:=(qQ ..).symm
def S6{l:List aa}(h:l.length<2):rh l=l:=by
 cases l with
 |nil=>rfl
 |cons x l=>cases l with
  |nil=>rfl
  |cons y l=>simp at h;omega
def TU{l:List aa}{x:aa}(h:l[0]? =some x):rh l=l.take 1++jG x (l.drop 1):=by
 cases l with
 |nil=>cases h
 |cons y l=>cases h;rfl
def N3{r l:List aa}{a b:Nat}(h:a<=b)(e:r.drop a=l.drop a):r[b]? =l[b]? :=by
 have:=congrArg (·[b-a]?) e;simpa[jU,show a+(b-a)=b by omega] using this
def QH{r l:List aa}{a b:Nat}(h:a<=b)(e:r.drop a=l.drop a):r.drop b=l.drop b:=by
 have:=congrArg (List.drop (b-a)) e;simpa[rL,show a+(b-a)=b by omega] using this
def UG{r:List aa}{i:Nat}{u:aa}(h:i<r.length):(r.set i u).take (i+1)=r.take i++[u]:=by
 rw[dL,qZ h,List.take_set_of_le (aL _)];rfl
def Oe{r:List aa}{i:Nat}(h:i<r.length):(r.map eZ)[(i:Int).toNat]? =some (eZ r[i]):=by simp[h]
def Qg{l:List aa}{i0:Nat}(hb: ∀d∈l,az d i0)(hn:l.length<=10000000)(hi:i0<=10000000):PB GB prog 317 (lj [none,some (.v (.func (.func 318) #[] #[]))]) 6 141 (l.map eZ) (fun w=> .v (.slice w.a w.n w.c)) ((rh l).map eZ):=by
 have hml:(l.map eZ).length=l.length:=aK ..;refine FT (fu:=⟨10⟩) func317 J J ntmps317 J J (fun C=>?_);refine ak 9 (.d (vI (l.length:Nat))) J (by rw[hml]<;>rfl) ?_;refine gx J<|?_;refine br J J J (fun hc10=>?_) (fun hc10=>?_)
 .
  exact vM J J J (by rw[S6 (by omega)])
 .
  obtain⟨x0,hx0⟩: ∃x,l[0]? =some x:=⟨_,aZ (by omega)⟩;refine lp (fu:=⟨6⟩) (X:=Nat×aa) (fun⟨k,x⟩=>[(5, .d (vI (k:Nat)))]) (fun⟨k,x⟩=>[]) (fun⟨k,x⟩=>1<=k/\k<=l.length/\l[k-1]? =some x/\rh l=l.take k++jG x (l.drop k)) (fun⟨k,x⟩=>l.length-k) ⟨1,x0⟩ J ⟨aL _,by omega,hx0,by rw[TU hx0]⟩ (fun _=>J) (fun⟨k,x⟩ hk=>?_)
  try dsimp only at hk⊢
  obtain⟨h1,h2,h3,h4⟩:=hk;refine ak 14 (.d (vI (l.length:Nat))) J (by rw[hml]<;>rfl) ?_;refine gx J<|?_;refine br J J J (fun hc15=>?_) (fun hc15=>?_)
  .
   obtain⟨y,hy⟩: ∃y,l[k]? =some y:=⟨_,aZ (by omega)⟩;haveI:=hb y (bQ hy);haveI:=hb x (bQ h3);refine lb (fu:=⟨3⟩) _ J (fj hy) J<|?_;refine ak 25 (.d (vI ((k-1:Nat):Int))) J (by rw[Int.ofNat_sub h1]<;>rfl) ?_;refine gx J<|lb (fu:=⟨0⟩) _ J (fj h3) J<|cl J (L8 (u:=y) (v:=x) hi hi) J<|?_;refine bd (fu1:=⟨4⟩) J J J (fun hc28=>?_) (fun hc28=>?_)
   .
    have hc28':=hc28;refine DU k (l.length-k) J J (by omega) (by omega) J<|?_;refine lp (fu:=⟨5⟩) (X:=Nat×Nat×aa×List aa) (fun⟨i,m,z,r⟩=>[(5, .d (vI (i:Nat))),(7, .d (vI (m:Nat)))]) (fun⟨i,m,z,r⟩=>[(1000000,some (.b 141 6 (r.map eZ) false))]) (fun⟨i,m,z,r⟩=>1<=m/\k+m<=l.length/\i+1<=k+m/\r.length=l.length/\r.drop (k+m-1)=l.drop (k+m-1)/\l[k+m-1]? =some z/\rh l=r.take i++jG z (l.drop (k+m))) (fun⟨i,m,z,r⟩=>l.length-m) ⟨k,1,y,l⟩ J ⟨aL _,by omega,by omega,J,J,by rw[kU];exact hy,by rw[h4,Ar hy,if_pos hc28']⟩ (fun _=>J) (fun⟨i,m,z,r⟩ hk=>?_)
    try dsimp only at hk⊢
    obtain⟨g1,g2,g3,g4,g5,g6,g7⟩:=hk;have hrl:(r.map eZ).length=r.length:=aK ..;refine VN J J<|?_;refine br (fu1:=⟨9⟩) (fu2:=⟨9⟩) J J J (fun hc35=>?_) (fun hc35=>?_)
    .
     obtain⟨u,hu⟩: ∃u,l[k+m]? =some u:=⟨_,aZ (by omega)⟩;haveI:=hb u (bQ hu);haveI:=hb z (bQ g6);have g8:r[k+m]? =some u:=by rw[<-hu];exact N3 (by omega) g5
     have g10:r[k+m-1]? =some z:=by rw[<-g6];exact N3 (aL _) g5
     have g9:r.drop (k+m)=l.drop (k+m):=QH (by omega) g5;refine C9 (k+m) J (by omega) (by omega) (by omega) J<|lb (fu:=⟨3⟩) _ J (fj g8) J<|C9 (k+m-1) J (by omega) (by omega) (by omega) J<|?_;refine lb (fu:=⟨0⟩) _ J (fj g10) J<|cl J (L8 (u:=u) (v:=z) hi hi) J<|?_;refine bb (fu1:=⟨6⟩) J J J (fun hc49=>?_) (fun hc49=>?_)
     .
      have hc49': ¬cA u z=0:=by simpa using hc49
      refine C9 (k+m) J (by omega) (by omega) (by omega) J<|lb _ J (fj g8) J<|sb _ ((r.set i u).map eZ) J (Oe (by omega)) J (by rw[<-WS]<;>rfl) J<|?_;exact at_ ⟨i+1,m+1,u,r.set i u⟩ (by dsimp only;exact⟨⟨by omega,by omega,by omega,by rw[aT];exact g4,by rw[show k+(m+1)-1=k+m by omega,oR (by omega)];exact g9,by rw[show k+(m+1)-1=k+m by omega];exact hu,by rw[g7,Ar hu,if_neg hc49',UG (by omega),fL];rfl⟩,(by omega)⟩)
     .
      have hc49':cA u z=0:=by simpa using hc49
      exact at_ ⟨i,m+1,u,r⟩ (by dsimp only;exact⟨⟨by omega,by omega,by omega,g4,by rw[show k+(m+1)-1=k+m by omega];exact g9,by rw[show k+(m+1)-1=k+m by omega];exact hu,by rw[g7,Ar hu,if_pos hc49'];rfl⟩,(by omega)⟩)
    .
     obtain hm:k+m=l.length:=by omega
     refine DU i (l.length-i) J J (by omega) (by omega) J<|Pw (fu:=⟨6⟩) _ J (by rw[hrl];omega) (by omega) J J<|WB ((r.take i).map eZ) i J J (by rw[aM,cZ,aV,hrl];omega) (by rw[gK (by rw[cZ,hrl];omega),List.take_take,Nat.min_self,lR]) J<|?_;exact vM J J J (by rw[g7,hm,jM,jG,pX])
   .
    have hc28':=hc28;exact at_ ⟨k+1,y⟩ (by dsimp only;exact⟨⟨by omega,by omega,hy,by rw[h4,Ar hy,if_neg hc28',QS hy,fL];rfl⟩,(by omega)⟩)
  .
   exact vM J J J (by rw[h4,show k=l.length by omega,jM,jG,pX,fY])
end Go.Sx
end
