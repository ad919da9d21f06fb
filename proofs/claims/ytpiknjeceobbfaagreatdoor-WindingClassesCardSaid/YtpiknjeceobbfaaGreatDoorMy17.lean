import Derived.Test.YtpiknjeceobbfaaGreatDoorMy16
set_option linter.all false
set_option maxHeartbeats 2000000
set_option maxRecDepth 100000
section
namespace Go.Sx
open Go Go.Proofs Tryz
variable {GB:Gh}
def N3{p v:aa}: ∀{c:List ab} {s:Rat},0<s-> ∀m∈c,∀t,0<t->m.value p≠0->m.value (aD p v t)=0->jG p v c s<=t/2
 |[],s,h=>fun m hm=>by cases hm
 |m::c,s,h=>fun u hu t t0 hp hz=>by
  have hk:m.value (aD p v ((1:Int):Rat))-m.value p=m.nor.dot v:=by rw[gA];grind
  obtain⟨a1,a2,_⟩:=yz (p:=p) (v:=v) (c:=[m]) h;have e1:jG p v [m] s=lD p v m s:=J;rw[e1] at a1 a2;rw[jG];rcases aU.1 hu with rfl|hu
  ·have hb:=(yz (p:=p) (v:=v) (c:=c) a1).2.1
   have key:lD p v u s<=t/2:=by
    rw[gA] at hz;have hn:u.nor.dot v≠0:=fun e=>hp (by rw[e] at hz;grind);have ht: -(u.value p/u.nor.dot v)=t:=by
     generalize u.nor.dot v=k at*;generalize u.value p=z at*;grind
    unfold lD pk;simp only[hk,fD,jg,vN,ht];rw[if_neg hn,if_neg hp,if_pos t0];split<;>grind
   grind
  ·exact N3 a1 u hu t t0 hp hz
def IM{rs:List (List ZP)}(hr: ∀r∈rs,b9 r){ls:List ab}(hl: ∀f∈bO rs,f.l∈ls):lO (ki ls) (ER rs):=fun f hf=>by
 obtain⟨r,h1,h2⟩:=cY.1 hf;obtain⟨k,hk,rfl⟩:=bZ.1 h2;have hk':=fN.1 hk;have he:aP (r.getD k (0,0)) (c6 r k)∈bO rs:=cY.2 ⟨r,h1,wW hk'⟩;obtain⟨g,_,z1,z2,_⟩:=Fm ((hr r h1).ne k hk');refine⟨_,XQ (hl _ he),?_,?_⟩
 ·rcases GT (aP (r.getD k (0,0)) (c6 r k)).l (r.getD k (0,0)).q with e|e<;>rw[e]
  ·exact z1
  ·rw[show(aP (r.getD k (0,0)) (c6 r k)).l.value (r.getD k (0,0)).q=0 from z1];rfl
 ·rcases GT (aP (r.getD k (0,0)) (c6 r k)).l (c6 r k).q with e|e<;>rw[e]
  ·exact z2
  ·rw[show(aP (r.getD k (0,0)) (c6 r k)).l.value (c6 r k).q=0 from z2];rfl
section
variable {rs:List (List ZP)} {fill:Int} {L:List ab} {p:aa}
def Rq{v:aa}{l:ab}(hl:l∈L)(hz:l.value p=0)(h:Gn L p v):v≠⟨0,0⟩:=fun e=>h l hl hz (by rw[e];unfold aa.dot;grind)
def Ua(h:kP L){v:aa}(hv:v∈gq L p):v≠⟨0,0⟩:=by
 have hg:=Mn h hv;by_cases h0: ∃l∈L,l.value p=0
 ·obtain⟨l,h1,h2⟩:=h0
  exact Rq h1 h2 hg
 ·have hd:fm (dE L p)=[]:=by
   rw[nU];intro d hd;obtain⟨l,h1,h2,_⟩:=rp.1 (((vT h p).2.2 d).1 hd);exact h0 ⟨l,h1,h2⟩
  unfold gq at hv;rw[hd] at hv;rw[aV.1 hv];simp
def LN(hr: ∀r∈rs,b9 r)(h:kP L)(hM:lO L (ER rs)){v:aa}(hv:v∈gq L p):gF (ER rs) p v/\kz rs fill p v (dP rs fill (js L p v)):=by
 have hg:=Mn h hv;have hf:=sB hM (Ua h hv) hg;refine⟨hf,MH hr (yz (p:=p) (v:=v) (c:=L) (s:=((1:Int):Rat)) (by decide)).1 hf fun f hfe _ t t0 t1 ⟨s,s0,s1,es⟩=>?_⟩;obtain⟨m,hm,h1,h2⟩:=hM f hfe;have hz:m.value (aD p v t)=0:=by rw[es,mp,h1,h2];grind
 by_cases hp:m.value p=0
 ·have:=hg m hm hp
  rw[gA,hp] at hz;have e:t*m.nor.dot v=0:=by grind
  rcases cW.1 e with q|q
  ·grind
  ·exact this q
 ·have:=N3 (p:=p) (v:=v) (c:=L) (s:=((1:Int):Rat)) (by decide) m hm t t0 hp hz
  grind
def V7{d a b:aa}(h:Int.sign (d.cross a).num=Int.sign (d.cross b).num)(hb:d.cross b≠0){t:Rat}(t0:0<=t)(t1:t<=1):d.cross (aC b a t)≠0:=by
 rw[(yw d b a t).1];generalize d.cross a=x at*;generalize d.cross b=y at*;rcases di y with q|q|q
 ·exact absurd q hb
 ·have hx:0<x:=(ij _).1 (by rw[h];exact(ij _).2 q)
  have m1:=bG (show 0<=1-t by grind) (cS q);have m2:=bG t0 (cS hx);by_cases e:t=0
  ·rw[e];grind
  ·have:=bt (show 0<t by grind) hx;grind
 ·have hx:x<0:=(lw _).1 (by rw[h];exact(lw _).2 q)
  have m1:=bG (show 0<=1-t by grind) (show 0<= -y by grind);have m2:=bG t0 (show 0<= -x by grind);by_cases e:t=0
  ·rw[e];grind
  ·have:=bt (show 0<t by grind) (show 0< -x by grind);grind
def Sz(hr: ∀r∈rs,b9 r)(h:kP L)(hM:lO L (ER rs)){w:aa}(hw:w≠⟨0,0⟩)(hg:Gn L p w){b:Bool}(hb:kz rs fill p w b): ∃v∈gq L p,kz rs fill p v b:=by
 obtain⟨h1,h2,h3⟩:=vT h p;have key: ∀{u:aa},u≠⟨0,0⟩->(∀d∈fm (dE L p),d.cross u≠0)->gF (ER rs) p u:=fun{u} hu k=>sB hM hu fun l hl hz=>by
  rw[<-qy];exact k _ ((h3 _).2 (rp.2 ⟨l,hl,hz, .inl J⟩))
 have hwd: ∀d∈fm (dE L p),d.cross w≠0:=fun d hd=>by
  obtain⟨l,q1,q2,q3⟩:=rp.1 ((h3 d).1 hd);have:=hg l q1 q2;rw[<-qy] at this;rcases q3 with rfl|rfl
  ·exact this
  ·intro e
   have:(ba l.dir).cross w= -l.dir.cross w:=by unfold aa.cross ba;grind
   rw[this] at e;exact ‹l.dir.cross w≠0› (by grind)
 unfold gq;generalize fm (dE L p)=ds at*;by_cases hn:ds=[]
 ·subst hn
  have all: ∀{u:aa},u≠⟨0,0⟩->gF (ER rs) p u:=fun hu=>key hu fun d hd=>by cases hd
  have hd: ∀u,gF (ER rs) p u↔pb [] u:=fun u=>⟨fun k=>⟨k.1,fun r hr=>by cases hr⟩,fun k=>all k.1⟩;obtain⟨v,v1,v2⟩:=(Md (fill:=fill) hr .nil (fun d hd=>by cases hd) hd b).2 ⟨w,all hw,hb⟩;exact⟨v,v1,v2⟩
 ·obtain⟨i,hi,hs⟩:=JF h1 h2 hn hwd
  have hj:(i+1)%ds.length<ds.length:=cL _ (by omega);have hx:=Cm h1 h2 hi hj;have mu:=cK hi;have mw:=cK hj;have e1:ds.getD i ⟨0,0⟩=ds[i]:=i6 hi;have e2:ds.getD ((i+1)%ds.length) ⟨0,0⟩=ds[(i+1)%ds.length]:=i6 hj
  -- from w to the sector's direction
  have nzc: ∀{d u:aa},d.cross u≠0->u≠⟨0,0⟩:=fun h e=>h (by rw[e];unfold aa.cross;grind);have p1: ∀t,0<=t->t<=1->gF (ER rs) p (aC w (gy ds i) t):=fun t t0 t1=>by
   have k: ∀d∈ds,d.cross (aC w (gy ds i) t)≠0:=fun d hd=>V7 (hs d hd).symm (hwd d hd) t0 t1;exact key (nzc (k _ mu)) k
  have g1:=zc hr p1 hb;have hlen:2<=ds.length:=by
   rcases gT ds.length 2 with q|q
   ·exfalso
    obtain⟨j,hj2,ej⟩:=jZ (h2.neg _ mu);have:j=i:=by omega
    subst this;have:=mB (h2.nz _ mu);rw[<-ej] at this;have:=e8 (h2.nz _ mu);omega
   ·exact q
  have hang: ¬ce ds[i] ds[(i+1)%ds.length]=0:=fun e=>by
   have hp:=iU.1 h1;have hne:i≠(i+1)%ds.length:=by
    intro q;by_cases k:i+1<ds.length
    ·rw[dT k] at q;omega
    ·rw[show i+1=ds.length by omega,Nat.mod_self] at q;omega
   rcases Nat.lt_or_gt_of_ne hne with q|q
   ·have:=n8.2 (hp i _ hi hj q);omega
   ·have:=Cx.2 (hp _ i hj hi q);omega
  unfold mC;rw[if_neg (by omega)];by_cases hc:ds[i].cross ds[(i+1)%ds.length]=0
  ·refine⟨d6 ds[i],cY.2 ⟨i,fN.2 hi,?_⟩,?_⟩
   ·unfold iO
    rw[e1,e2,if_neg (fun q=>hang q.1),if_pos ((fD _).2 hc)];exact aV.2 J
   ·have:gy ds i=d6 ds[i]:=by
     unfold gy;rw[e1,e2,if_neg (by rw[jg];grind)]
    rwa [this] at g1
  ·have hpos:0<ds[i].cross ds[(i+1)%ds.length]:=by
    have:=hx.pos h2 mu mw;grind
   obtain⟨α,a1,a2⟩:=AK (h2.nz _ mu);obtain⟨β,b1,b2⟩:=AK (h2.nz _ mw);have ev:aD (er ds[i]) (er ds[(i+1)%ds.length]) 1=d9 α β ds[i] ds[(i+1)%ds.length]:=by
    rw[a2,b2];unfold aD d9;simp only[Rat.one_mul]
   have es:gy ds i=d9 1 1 ds[i] ds[(i+1)%ds.length]:=by
    unfold gy;rw[e1,e2,if_pos ((jg _).2 hpos),Hl]
   refine⟨aD (er ds[i]) (er ds[(i+1)%ds.length]) 1,cY.2 ⟨i,fN.2 hi,?_⟩,?_⟩
   ·unfold iO
    rw[e1,e2,if_neg (fun q=>hang q.1),if_neg (fun q=>hc ((fD _).1 q))];exact aV.2 J
   ·rw[ev]
    rw[es] at g1;refine zc hr (fun t t0 t1=>?_) g1;have eb:aC (d9 1 1 ds[i] ds[(i+1)%ds.length]) (d9 α β ds[i] ds[(i+1)%ds.length]) t=d9 (1+t*(α-1)) (1+t*(β-1)) ds[i] ds[(i+1)%ds.length]:=by
     unfold aC d9;simp only[aa.mk.injEq];constructor<;>grind
    rw[eb];have pos: ∀{z:Rat},0<z->0<1+t*(z-1):=fun{z} hz=>by
     have m1:=bG t0 (cS hz);by_cases e:t=1
     ·rw[e];grind
     ·have:=bt (show 0<1-t by grind) (show(0:Rat)<1 by decide)
      grind
    have k:=hx.gen h2 mu mw hc (pos a1) (pos b1);exact key (nzc (k _ mu)) k
def Rk(hr: ∀r∈rs,b9 r)(h:kP L)(hM:lO L (ER rs))(b:Bool):(∃v∈gq L p,dP rs fill (js L p v)=b)↔oO rs fill p b:=by
 constructor
 ·rintro ⟨v,h1,h2⟩
  obtain⟨k1,k2⟩:=LN (fill:=fill) hr h hM h1;rw[h2] at k2;exact⟨v,k1,k2⟩
 ·intro hd
  obtain⟨w,w1,w2,w3⟩:=(H7 hr hM h.ok).1 hd;obtain⟨v,v1,v2⟩:=Sz hr h hM w1 w2 w3;exact⟨v,v1,(LN (fill:=fill) hr h hM v1).2.uniq v2⟩
def Ju(hr: ∀r∈rs,b9 r)(h:kP L)(hM:lO L (ER rs)){vs:List aa}{q:aa->aa}(hv: ∀b,(∃v∈vs,dP rs fill (q v)=b)↔oO rs fill p b):jn (gg rs fill) p=if(vs.any fun v=>dP rs fill (q v))&&vs.all (fun v=>dP rs fill (q v)) then 2 else if vs.any fun v=>dP rs fill (q v) then 1 else 0:=by
 have hb:(gg rs fill).all ab.ok:=Tr.restrict_all ab.ok _ _ (II hr);have hd:=XI (p:=p) (fill:=fill) hr hM h.ok;have a1:(vs.any fun v=>dP rs fill (q v))=true↔oO rs fill p true:=by rw[<-hv,kX]
 have a2:(vs.all fun v=>dP rs fill (q v))=true↔ ¬oO rs fill p false:=by
  rw[<-hv,eK];constructor
  ·rintro k ⟨v,v1,v2⟩;rw[k v v1] at v2;cases v2
  ·intro k v hv'
   cases e:dP rs fill (q v) with
   |true=>rfl
   |false=>exact absurd ⟨v,hv',e⟩ k
 have hs:=Wc (p:=p) (fill:=fill) hr hM h.ok
 cases b1:vs.any fun v=>dP rs fill (q v) with
 |false=>
  have n1: ¬oO rs fill p true:=fun k=>by rw[a1.2 k] at b1;cases b1
  simp only[sU,gM,if_false];exact(Jm hb).2 fun k=>n1 ((hd true).1 k)
 |true=>
  cases b2:vs.all fun v=>dP rs fill (q v) with
  |true=>
   simp only[Bool.and_self,if_true];exact(Ll hb).2 fun k=>a2.1 b2 ((hd false).1 k)
  |false=>
   simp only[pS,gM,if_false,if_true];have n2:oO rs fill p false:=Classical.byContradiction fun k=>by rw[a2.2 k] at b2;cases b2
   have c0:jn (gg rs fill) p≠0:=fun k=>(Jm hb).1 k ((hd true).2 (a1.1 b1));have c2:jn (gg rs fill) p≠2:=fun k=>(Ll hb).1 k ((hd false).2 n2);rcases Zk (gg rs fill) p with k|k|k
   ·exact absurd k c0
   ·exact k
   ·exact absurd k c2
end
def o7(v:aA)(t:Rat):Bool:=(v.nl||decide (bE v.lo t<=0))&&(v.nh||decide (0<=bE v.hi t))
def LU{v:aA}{t:Rat}:o7 v t=true↔v.has t:=by
 unfold o7 aA.has;simp only[bJ,gL,decide_eq_true_eq,Ha,No]
def gI(f:aH)(p:aa):Bool:=decide (Int.sign (f.l.value p).num=0)&&o7 f.v (ci f.l p)
def Bv{f:aH}{p:aa}:gI f p=true↔f.l.value p=0/\f.v.has (ci f.l p):=by
 unfold gI;rw[bJ,decide_eq_true_eq,fD,LU]
def AI{a b:Rat}(h:b≠0):a/b*b=a:=by grind
def C8{v w:ZP}(h:v≠w)(ho:(aP v w).l.ok){x:aa}:gI (aP v w) x=true↔gz v.q w.q x:=by
 obtain⟨e1,e2,e3⟩:=xt h ho;have hv: ∀t,(aP v w).v.has t↔(aP v w).v.lo<=t/\t<=(aP v w).v.hi:=fun t=>by
  unfold aA.has aP;simp
 rw[Bv,hv];generalize (aP v w).v.lo=lo at*;generalize (aP v w).v.hi=hi at*;generalize (aP v w).l=l at*;constructor
 ·rintro ⟨hz,h1,h2⟩
  have ex:=BJ ho.ne hz;generalize ci l x=t at*;have e:(t-lo)/(hi-lo)*(hi-lo)=t-lo:=AI (by grind);refine⟨(t-lo)/(hi-lo),(jD (k:=hi-lo) (by grind)).1 (by rw[e];grind),?_,?_⟩
  ·have:=(jD (s:=1-(t-lo)/(hi-lo)) (k:=hi-lo) (by grind)).1 (by
    have e4:(1-(t-lo)/(hi-lo))*(hi-lo)=(hi-lo)-(t-lo)/(hi-lo)*(hi-lo):=by generalize (t-lo)/(hi-lo)=q;grind
    rw[e4,e];grind)
   grind
  ·rw[<-e1,<-e2,E7,<-ex]
   congr 1;rw[e];grind
 ·rintro ⟨s,s0,s1,rfl⟩
  rw[<-e1,<-e2,E7];rw[wZ ho.ne];have:=bG s0 (show 0<=hi-lo by grind);have:=bG (show 0<=1-s by grind) (show 0<=hi-lo by grind);exact⟨qI ho.ne _,by grind,by grind⟩
def qt(f:aH)(p:aa):Int:=
 if Int.sign f.l.dir.y.num=0\/Int.sign (f.l.value p).num≠Int.sign f.l.dir.y.num then 0
 else if(if Int.sign f.l.dir.y.num<0 then f.v.nh=false/\0<bE (f.l.at f.v.hi).y p.y else f.v.nl=false/\0<bE (f.l.at f.v.lo).y p.y) then 0
 else if(if Int.sign f.l.dir.y.num<0 then f.v.nl=false/\bE (f.l.at f.v.lo).y p.y<=0 else f.v.nh=false/\bE (f.l.at f.v.hi).y p.y<=0) then 0
 else Int.sign f.l.dir.y.num
def fy(E:List aH)(p:aa):Int:=E.foldl (fun n f=>n+qt f p) 0
def Vu{v w:ZP}(h:v≠w)(p:aa): ∃g:Rat,0<g/\cE v.q w.q p=g*(aP v w).l.value p/\w.q.y-v.q.y=g*(aP v w).l.dir.y:=by
 obtain⟨g,g0,h1,h2,h3⟩:=Fm h;refine⟨g,g0,?_,by rw[h3];unfold aD;show _=g*(gE v.1 v.2 w.1 w.2).dir.y;dsimp only;grind⟩;show _=g*(gE v.1 v.2 w.1 w.2).value p;rw[h3];generalize gE v.1 v.2 w.1 w.2=l at*;rw[lG] at*;unfold cE aD ab.dir;dsimp only;grind
def aqe{v w:ZP}(h:v≠w)(ho:(aP v w).l.ok)(p:aa):qt (aP v w) p=nF v.q w.q p:=by
 obtain⟨e1,e2,e3⟩:=xt h ho;obtain⟨g,g0,o1,o2⟩:=Vu h p;have b1:(aP v w).v.nl=false:=J;have b2:(aP v w).v.nh=false:=J;have so:(0<cE v.q w.q p↔0<(aP v w).l.value p)/\(cE v.q w.q p<0↔(aP v w).l.value p<0):=by
  rw[o1];constructor
  ·rw[Rat.mul_comm];exact fk g0
  ·have:=fk (s:= -(aP v w).l.value p) g0
   grind
 have sy:(v.q.y<w.q.y↔0<(aP v w).l.dir.y)/\(w.q.y<v.q.y↔(aP v w).l.dir.y<0):=by
  have t1:=fk (s:=(aP v w).l.dir.y) g0;have t2:=fk (s:= -(aP v w).l.dir.y) g0;constructor<;>grind
 unfold qt;rw[b1,b2,e1,e2];simp only[true_and,Ha,CP];generalize (aP v w).l.value p=z at*;generalize (aP v w).l.dir.y=u at*;unfold nF;rcases di u with k|k|k
 ·rw[if_pos (.inl ((fD _).2 k))]
  have: ¬(v.q.y<=p.y/\ ¬w.q.y<=p.y/\0<cE v.q w.q p):=fun q=>by grind
  have: ¬(¬v.q.y<=p.y/\w.q.y<=p.y/\cE v.q w.q p<0):=fun q=>by grind
  rw[if_neg ‹_›,if_neg ‹_›];rfl
 ·have su:Int.sign u.num=1:=(ij _).2 k
  rw[su];have n2: ¬(¬v.q.y<=p.y/\w.q.y<=p.y/\cE v.q w.q p<0):=fun q=>by grind
  rw[if_neg n2];simp only[show¬((1:Int)<0) by decide,if_false,show¬((1:Int)=0) by decide,false_or];by_cases hz:0<z
  ·rw[if_neg (by rw[(ij _).2 hz];simp)]
   by_cases a1:v.q.y<=p.y
   ·rw[if_neg (by grind)]
    by_cases a2:w.q.y<=p.y
    ·rw[if_pos a2,if_neg (by grind)];rfl
    ·rw[if_neg a2,if_pos ⟨a1,a2,so.1.2 hz⟩];rfl
   ·rw[if_pos (by grind),if_neg (by grind)];rfl
  ·rw[if_pos (fun q=>hz ((ij _).1 q)),if_neg (by grind)];rfl
 ·have su:Int.sign u.num= -1:=tx k
  rw[su];have n2: ¬(v.q.y<=p.y/\ ¬w.q.y<=p.y/\0<cE v.q w.q p):=fun q=>by grind
  rw[if_neg n2];simp only[show(-1:Int)<0 by decide,if_true,show¬((-1:Int)=0) by decide,false_or];by_cases hz:z<0
  ·rw[if_neg (by rw[tx hz];simp)]
   by_cases a1:w.q.y<=p.y
   ·rw[if_neg (by grind)]
    by_cases a2:v.q.y<=p.y
    ·rw[if_pos a2,if_neg (by grind)];rfl
    ·rw[if_neg a2,if_pos ⟨a2,a1,so.2.2 hz⟩];rfl
   ·rw[if_pos (by grind),if_neg (by grind)];rfl
  ·rw[if_pos (fun q=>hz (by
    have h4:Int.sign z.num<0:=by rw[q];decide
    exact(lw _).1 h4)),if_neg (by grind)];rfl
def Bw{α:Type}(f:α->Int): ∀(l:List α) (n:Int),l.foldl (fun n x=>n+f x) n=n+l.foldl (fun n x=>n+f x) 0
 |[],n=>by simp
 |a::t,n=>by
  rw[fY,fY,Bw f t (n+f a),Bw f t (0+f a)];omega
def E2(E F:List aH)(p:aa):fy (E++F) p=fy E p+fy F p:=by
 unfold fy;rw[nZ,Bw]
def Um{r:List ZP}(hr:b9 r)(p:aa):fy (cP r) p=il r p:=by
 have key: ∀k,k<=r.length->fy (iF r k) p=l6 r p k:=by
  intro k
  induction k with
  |zero=>intro _;rfl
  |succ k ih=>
   intro hk;have hm:=wW (r:=r) (k:=k) (n:=r.length) (by omega);have ho:=((qz hr).2 _ hm).ok;rw[iF,E2,ih (by omega),xZ,xZ,i8];have e:fy [aP (r.getD k (0,0)) (c6 r k)] p=qt (aP (r.getD k (0,0)) (c6 r k)) p:=by unfold fy;simp
   rw[e,aqe (hr.ne k (by omega)) ho]
 exact key r.length (aN _)
def Ph: ∀{rs:List (List ZP)},(∀r∈rs,b9 r)-> ∀p,fy (bO rs) p=rs.foldl (fun n r=>n+il r p) 0
 |[],_,p=>rfl
 |r::rs,h,p=>by
  have e:bO (r::rs)=cP r++bO rs:=J;rw[e,E2,Um (h r aQ),Ph fun q hq=>h q (aJ _ hq),fY,Bw _ rs (0+il r p)];omega
def Dx(f:aH)(p:aa):Bool:=f.v.nh||decide (bE (ci f.l p) f.v.hi<0)
def HC(f:aH)(p:aa):Bool:=f.v.nl||decide (0<bE (ci f.l p) f.v.lo)
def gp(p:aa)(f:aH):List aa:=if gI f p then(if Dx f p then [cj f.l.dir] else [])++(if HC f p then [ba (cj f.l.dir)] else []) else []
def ju(E:List aH)(p:aa):List aa:=ic (E.flatMap (gp p))
def ol(p d q:aa):Rat:=(⟨q.x-p.x,q.y-p.y⟩:aa).dot d/d.dot d
def oG(a b:Rat):Rat×Bool:=
 if 0<Int.sign b.num/\(¬0<Int.sign a.num\/bE b a<0) then(b,true) else if 0<Int.sign a.num then(a,true) else(0,false)
def fp(f:aH)(p d:aa):Rat×Bool:=
 if f.l.nor.dot d=0 then(if f.l.value p=0 then oG (ol p d (f.l.at f.v.lo)) (ol p d (f.l.at f.v.hi)) else(0,false))
 else(-(f.l.value p/f.l.nor.dot d),decide (0<Int.sign (-(f.l.value p/f.l.nor.dot d)).num)&&o7 f.v (ci f.l (aD p d (-(f.l.value p/f.l.nor.dot d)))))
def iq(p d:aa)(s:Rat)(f:aH):Rat:=if gI f p then s else if(fp f p d).2 then(if(fp f p d).1<s then(fp f p d).1 else s) else s
def lm(E:List aH)(p d:aa):aa:=aD p d (E.foldl (iq p d) 1*mkRat 1 2)
def uG(E:List aH)(p:aa)(acc:aa->Bool):Int:=
 if((eO (ju E p)).any fun v=>acc (lm E p v))&&(eO (ju E p)).all (fun v=>acc (lm E p v)) then 2 else if(eO (ju E p)).any fun v=>acc (lm E p v) then 1 else 0
def OM{a b:Rat}:((oG a b).2=true->0<(oG a b).1)/\(∀t,0<t->(0<a/\a<=t\/0<b/\b<=t)->(oG a b).2=true/\(oG a b).1<=t):=by
 unfold oG;simp only[jg,vN];split
 ·exact⟨fun _=>by dsimp only;grind,fun t t0 h=>⟨J,by dsimp only;grind⟩⟩
 ·split
  ·exact⟨fun _=>by dsimp only;grind,fun t t0 h=>⟨J,by dsimp only;grind⟩⟩
  ·exact⟨fun h=>by simp at h,fun t t0 h=>by grind⟩
def XR{f:aH}{p d:aa}(h:(fp f p d).2=true):0<(fp f p d).1:=by
 unfold fp at*;split at h
 ·rw[if_pos (by assumption)]
  split at h
  ·rw[if_pos (by assumption)];exact OM.1 h
  ·cases h
 ·rw[if_neg (by assumption)]
  simp only[bJ,decide_eq_true_eq,jg] at h;exact h.1
def MA{d:aa}(h:d≠⟨0,0⟩):0<d.dot d:=by
 have:=HG (x:=d.x) (y:=d.y) fun k=>h (by cases d;simp only[aa.mk.injEq] at*;exact k);unfold aa.dot;exact this
def Pc{l:ab}(ho:l.ok){p d q:aa}(hd:d≠⟨0,0⟩)(h0:l.nor.dot d=0)(h1:l.value p=0)(h2:l.value q=0):q=aD p d (ol p d q):=by
 have hp:=MA hd;have hn: ¬(l.nor.x=0/\l.nor.y=0):=fun k=>by
  have hq:l.Ne:=ho.ne;refine hq ⟨?_,?_⟩
  ·have:=k.1;unfold ab.nor at this;dsimp only at this;exact_mod_cast this
  ·have:=k.2;unfold ab.nor at this;dsimp only at this;exact_mod_cast this
 have e:l.nor.dot ⟨q.x-p.x,q.y-p.y⟩=0:=by rw[He,h1,h2];grind
 unfold ol aD;have ed:(⟨q.x-p.x,q.y-p.y⟩:aa).dot d/d.dot d*d.dot d=(⟨q.x-p.x,q.y-p.y⟩:aa).dot d:=by
  generalize d.dot d=m at*;exact AI (by grind)
 have ec:(q.x-p.x)*d.y=(q.y-p.y)*d.x:=by
  unfold aa.dot at e h0;dsimp only at e;generalize l.nor.x=a at*;generalize l.nor.y=b at*;by_cases k:a=0
  ·have hb:b≠0:=fun z=>hn ⟨k,z⟩
   rw[k] at e h0;have e1:b*(q.y-p.y)=0:=by grind
   have e2:b*d.y=0:=by grind
   rw[(cW.1 e1).resolve_left hb,(cW.1 e2).resolve_left hb];grind
  ·have e3:a*((q.x-p.x)*d.y-(q.y-p.y)*d.x)=0:=by grind
   have:=(cW.1 e3).resolve_left k;grind
 have e1:(q.x-p.x)*d.dot d=(⟨q.x-p.x,q.y-p.y⟩:aa).dot d*d.x:=by unfold aa.dot;dsimp only;grind
 have e2:(q.y-p.y)*d.dot d=(⟨q.x-p.x,q.y-p.y⟩:aa).dot d*d.y:=by unfold aa.dot;dsimp only;grind
 generalize (⟨q.x-p.x,q.y-p.y⟩:aa).dot d/d.dot d=k at*;generalize (⟨q.x-p.x,q.y-p.y⟩:aa).dot d=n at*;generalize d.dot d=m at*;have m0:m≠0:=by grind
 have f1:m*(q.x-p.x-k*d.x)=0:=by grind
 have f2:m*(q.y-p.y-k*d.y)=0:=by grind
 have g1:=(cW.1 f1).resolve_left m0;have g2:=(cW.1 f2).resolve_left m0
 cases q
 simp only[aa.mk.injEq] at*;constructor<;>grind
def YF{p d:aa}(hd:d≠⟨0,0⟩){s t:Rat}(h:aD p d s=aD p d t):s=t:=by
 have hp:=MA hd;have hx:=congrArg aa.x h;have hy:=congrArg aa.y h;unfold aD at hx hy;dsimp only at hx hy;unfold aa.dot at hp;have:(s-t)*(d.x*d.x+d.y*d.y)=0:=by grind
 have:=(cW.1 this).resolve_right (by grind);grind
def Rn{v w:ZP}(h:v≠w)(ho:(aP v w).l.ok){p d:aa}(hd:d≠⟨0,0⟩)(hp: ¬gz v.q w.q p){t:Rat}(t0:0<t)(ht:gz v.q w.q (aD p d t)):(fp (aP v w) p d).2=true/\(fp (aP v w) p d).1<=t:=by
 obtain⟨e1,e2,e3⟩:=xt h ho;have hv:=Bv.1 ((C8 h ho).2 ht);have hz:(aP v w).l.value p+t*(aP v w).l.nor.dot d=0:=by rw[<-gA];exact hv.1
 unfold fp;by_cases k:(aP v w).l.nor.dot d=0
 ·have hc:(aP v w).l.value p=0:=by rw[k] at hz;grind
  rw[if_pos k,if_pos hc,e1,e2];have a1:(aP v w).l.value v.q=0:=by rw[<-e1];exact qI ho.ne _
  have a2:(aP v w).l.value w.q=0:=by rw[<-e2];exact qI ho.ne _
  have b1:=Pc ho hd k hc a1;have b2:=Pc ho hd k hc a2;generalize ol p d v.q=s1 at*;generalize ol p d w.q=s2 at*;obtain⟨s,z0,z1,es⟩:=ht;rw[b1,b2,De] at es;have et:=YF hd es;refine OM.2 t t0 ?_
  -- p does not lie between
  have hn: ∀m,0<=m->m<=1->s1+m*(s2-s1)≠0:=fun m m0 m1 em=>hp ⟨m,m0,m1,by
   rw[b1,b2,De,em];unfold aD;cases p;simp only[aa.mk.injEq];constructor<;>grind⟩
  have n1:s1≠0:=fun e=>hn 0 (by decide) (by decide) (by rw[e];grind);have n2:s2≠0:=fun e=>hn 1 (by decide) (by decide) (by rw[e];grind);have key: ∀x y:Rat,x<0->0<y->0<= -x/(y-x)/\ -x/(y-x)<=1/\x+ -x/(y-x)*(y-x)=0:=fun x y hx hy=>by
   have em: -x/(y-x)*(y-x)= -x:=AI (by grind);have q0:=div_pos (a:= -x) (b:=y-x) (by grind) (by grind);generalize-x/(y-x)=m at*;refine⟨cS q0,?_,by rw[em];grind⟩;have:=(jD (s:=1-m) (k:=y-x) (by grind)).1 (by
    have:(1-m)*(y-x)=(y-x)-m*(y-x):=by grind
    rw[this,em];grind)
   grind
  rcases di s1 with q1|q1|q1
  ·exact absurd q1 n1
  ·rcases di s2 with q2|q2|q2
   ·exact absurd q2 n2
   ·by_cases c:s1<=s2
    ·have:=bG z0 (show 0<=s2-s1 by grind)
     exact .inl ⟨q1,by grind⟩
    ·have:=bG (show 0<=1-s by grind) (show 0<=s1-s2 by grind)
     exact .inr ⟨q2,by grind⟩
   ·obtain⟨c1,c2,c3⟩:=key s2 s1 q2 q1
    exfalso;refine hn (1- -s2/(s1-s2)) (by grind) (by grind) ?_;generalize-s2/(s1-s2)=m at*;grind
  ·rcases di s2 with q2|q2|q2
   ·exact absurd q2 n2
   ·obtain⟨c1,c2,c3⟩:=key s1 s2 q1 q2
    exact absurd c3 (hn _ c1 c2)
   ·exfalso
    have:=bG z0 (show 0<= -s2 by grind);have:=bG (show 0<=1-s by grind) (show 0<= -s1 by grind);grind
 ·rw[if_neg k]
  have et: -((aP v w).l.value p/(aP v w).l.nor.dot d)=t:=by
   generalize (aP v w).l.nor.dot d=n at*;generalize (aP v w).l.value p=z at*;grind
  rw[et];exact⟨by rw[bJ,decide_eq_true_eq,jg,LU];exact⟨t0,hv.2⟩,dR⟩
def Mw{p d:aa}: ∀{E:List aH} {s:Rat},0<s->0<E.foldl (iq p d) s/\E.foldl (iq p d) s<=s/\ ∀f∈E,gI f p=false->(fp f p d).2=true->E.foldl (iq p d) s<=(fp f p d).1
 |[],s,h=>⟨h,dR,fun f hf=>by cases hf⟩
 |g::E,s,h=>by
  have key:0<iq p d s g/\iq p d s g<=s/\(gI g p=false->(fp g p d).2=true->iq p d s g<=(fp g p d).1):=by
   unfold iq;by_cases h1:gI g p=true
   ·rw[if_pos h1];exact⟨h,dR,fun q=>by rw[h1] at q;cases q⟩
   ·rw[if_neg h1]
    by_cases h2:(fp g p d).2=true
    ·rw[if_pos h2]
     have:=XR h2;split
     ·exact⟨this,by grind,fun _ _=>dR⟩
     ·exact⟨h,dR,fun _ _=>by grind⟩
    ·rw[if_neg h2];exact⟨h,dR,fun _ q=>absurd q h2⟩
  obtain⟨k1,k2,k3⟩:=key;obtain⟨i1,i2,i3⟩:=Mw (p:=p) (d:=d) (E:=E) k1;rw[fY];refine⟨i1,by grind,fun f hf q1 q2=>?_⟩;rcases aU.1 hf with rfl|hf
  ·have:=k3 q1 q2;grind
  ·exact i3 f hf q1 q2
def NA{rs:List (List ZP)}(hr: ∀r∈rs,b9 r){f:aa×aa}(hf:f∈ER rs): ∃v w:ZP,v≠w/\(aP v w).l.ok/\aP v w∈bO rs/\f=(v.q,w.q):=by
 obtain⟨r,h1,h2⟩:=cY.1 hf;obtain⟨k,hk,rfl⟩:=bZ.1 h2;have hk':=fN.1 hk;have hm:=wW (r:=r) (k:=k) (n:=r.length) hk';exact⟨_,_,(hr r h1).ne k hk',((qz (hr r h1)).2 _ hm).ok,cY.2 ⟨r,h1,hm⟩,J⟩
def Hx{r:List ZP}: ∀{n:Nat} {f:aH},f∈iF r n-> ∃k,k<n/\f=aP (r.getD k (0,0)) (c6 r k)
 |0,f,h=>by simp[iF] at h
 |n+1,f,h=>by
  rw[iF] at h;rcases bT.1 h with h|h
  ·obtain⟨k,h1,h2⟩:=Hx h
   exact⟨k,by omega,h2⟩
  ·exact⟨n,by omega,aV.1 h⟩
def YC{rs:List (List ZP)}(hr: ∀r∈rs,b9 r){f:aH}(hf:f∈bO rs): ∃v w:ZP,v≠w/\(aP v w).l.ok/\f=aP v w/\(v.q,w.q)∈ER rs:=by
 obtain⟨r,h1,h2⟩:=cY.1 hf;have ho:=((qz (hr r h1)).2 _ h2).ok;obtain⟨k,hk,rfl⟩:=Hx h2;exact⟨_,_,(hr r h1).ne k hk,ho,J,cY.2 ⟨r,h1,bZ.2 ⟨k,fN.2 hk,J⟩⟩⟩
def Ok{rs:List (List ZP)}{fill:Int}{p v:aa}(hr: ∀r∈rs,b9 r)(hv:gF (ER rs) p v):kz rs fill p v (dP rs fill (lm (bO rs) p v)):=by
 obtain⟨k1,k2,k3⟩:=Mw (p:=p) (d:=v) (E:=bO rs) (s:=1) (by decide);unfold lm;generalize (bO rs).foldl (iq p v) 1=s at*;have hh:s*mkRat 1 2=s/2:=by rw[show mkRat 1 2=(1:Rat)/2 by decide+kernel];grind
 rw[hh];refine MH hr (by grind) hv fun f hf hn t t0 t1 ho=>?_;obtain⟨a,b,h1,h2,h3,rfl⟩:=NA hr hf;obtain⟨c1,c2⟩:=Rn h1 h2 hv.1 hn t0 ho;have:=k3 _ h3 (by
  cases e:gI (aP a b) p with
  |false=>rfl
  |true=>exact absurd ((C8 h1 h2).1 e) hn) c1
 grind
def WA{l:ab}(h:l.ok): ∃a:Rat,0<a/\cj l.dir=⟨a*l.dir.x,a*l.dir.y⟩:=va (nI h)
def sI{r:aa}{k:Rat}(hk:0<k)(u:aa):qH ⟨k*r.x,k*r.y⟩ u↔qH r u:=by
 constructor
 ·rintro ⟨m,m0,rfl⟩
  exact⟨m*k,bt m0 hk,by simp only[aa.mk.injEq];constructor<;>grind⟩
 ·rintro ⟨m,m0,rfl⟩
  have e:m/k*k=m:=AI (by grind);refine⟨m/k,div_pos m0 hk,?_⟩;generalize m/k=q at*;simp only[aa.mk.injEq];constructor<;>grind
def Kk(l:ab)(a b:Rat):(⟨(l.at a).x-(l.at b).x,(l.at a).y-(l.at b).y⟩:aa)=⟨(a-b)*l.dir.x,(a-b)*l.dir.y⟩:=by
 unfold ab.at aa.add aa.scale;simp only[aa.mk.injEq];constructor<;>grind
def J8{v w:ZP}(h:v≠w)(ho:(aP v w).l.ok)(p u:aa):(∃r,CJ v.q w.q p r/\qH r u)↔ ∃d∈gp p (aP v w),qH d u:=by
 obtain⟨e1,e2,e3⟩:=xt h ho;obtain⟨α,a0,ea⟩:=WA ho;have b1:(aP v w).v.nl=false:=J;have b2:(aP v w).v.nh=false:=J;unfold CJ gp;by_cases hp:gz v.q w.q p
 ·have hf:=(C8 h ho).2 hp
  rw[if_pos hf];obtain⟨hz,h1,h2⟩:=Bv.1 hf;rw[b1] at h1;rw[b2] at h2;have h1:(aP v w).v.lo<=ci (aP v w).l p:=by simpa using h1
  have h2:ci (aP v w).l p<=(aP v w).v.hi:=by simpa using h2
  have ep:=BJ ho.ne hz;unfold Dx HC;simp only[b1,b2,pT,decide_eq_true_eq,vN,CP,ea];have dw:=Kk (aP v w).l (aP v w).v.hi (ci (aP v w).l p);have dv:=Kk (aP v w).l (aP v w).v.lo (ci (aP v w).l p);rw[ep,e2] at dw;rw[ep,e1] at dv;have nw:w.q≠p↔ci (aP v w).l p<(aP v w).v.hi:=by
   constructor
   ·intro k
    have:ci (aP v w).l p≠(aP v w).v.hi:=fun e=>k (by rw[<-e2,<-e,ep]);grind
   ·rintro k e
    have:=wZ ho.ne (aP v w).v.hi;rw[e2,e] at this;grind
  have nv:v.q≠p↔(aP v w).v.lo<ci (aP v w).l p:=by
   constructor
   ·intro k
    have:ci (aP v w).l p≠(aP v w).v.lo:=fun e=>k (by rw[<-e1,<-e,ep]);grind
   ·rintro k e
    have:=wZ ho.ne (aP v w).v.lo;rw[e1,e] at this;grind
  rw[nw,nv,dw,dv];generalize ci (aP v w).l p=t at*;generalize (aP v w).v.lo=lo at*;generalize (aP v w).v.hi=hi at*;generalize (aP v w).l.dir=D at*;have en: ∀k:Rat,(⟨k*D.x,k*D.y⟩:aa)=⟨-k*(ba D).x, -k*(ba D).y⟩:=fun k=>by unfold ba;simp only[aa.mk.injEq];constructor<;>grind
  have en2:ba ⟨α*D.x,α*D.y⟩=⟨α*(ba D).x,α*(ba D).y⟩:=by unfold ba;simp only[aa.mk.injEq];constructor<;>grind
  constructor
  ·rintro ⟨r,⟨_,hr⟩,hu⟩
   rcases hr with⟨rfl,k⟩|⟨rfl,k⟩
   ·refine⟨_,bR _ (by rw[if_pos k];exact aV.2 J),?_⟩
    rw[sI a0];exact(sI (show 0<hi-t by grind) u).1 hu
   ·refine⟨_,cX _ (by rw[if_pos k];exact aV.2 J),?_⟩
    rw[en2,sI a0];rw[en] at hu;exact(sI (show 0< -(lo-t) by grind) u).1 hu
  ·rintro ⟨d,hd,hu⟩
   rcases bT.1 hd with hd|hd
   ·split at hd
    ·rename_i k
     rw[aV.1 hd,sI a0] at hu;exact⟨_,⟨hp, .inl ⟨J,k⟩⟩,(sI (show 0<hi-t by grind) u).2 hu⟩
    ·cases hd
   ·split at hd
    ·rename_i k
     rw[aV.1 hd,en2,sI a0] at hu;refine⟨_,⟨hp, .inr ⟨J,k⟩⟩,?_⟩;rw[en];exact(sI (show 0< -(lo-t) by grind) u).2 hu
    ·cases hd
 ·have hf:gI (aP v w) p≠true:=fun k=>hp ((C8 h ho).1 k)
  rw[if_neg hf];constructor
  ·rintro ⟨r,⟨k,_⟩,_⟩;exact absurd k hp
  ·rintro ⟨d,hd,_⟩;cases hd
def CN{f:aH}{p d:aa}(h:d∈gp p f):f.l.value p=0/\(d=cj f.l.dir\/d=ba (cj f.l.dir)):=by
 unfold gp at h;split at h
 ·rename_i k
  refine⟨(Bv.1 k).1,?_⟩;rcases bT.1 h with h|h
  ·split at h
   ·exact .inl (aV.1 h)
   ·cases h
  ·split at h
   ·exact .inr (aV.1 h)
   ·cases h
 ·cases h
def Ai{E:List aH}(hE: ∀f∈E,f.l.ok)(p:aa): ∀x∈E.flatMap (gp p),∀y∈E.flatMap (gp p),ce x y=0->x=y:=fun x hx y hy h=>by
 obtain⟨f,k1,k2⟩:=cY.1 hx;obtain⟨g,k3,k4⟩:=cY.1 hy;obtain⟨a1,a2⟩:=CN k2;obtain⟨b1,b2⟩:=CN k4;exact I5 (hE f k1) (hE g k3) a1 b1 a2 b2 h
def C6{l:List aa}(ht: ∀x∈l,∀y∈l,ce x y=0->x=y)(y:aa):y∈ic l↔y∈l:=by
 have h2: ∀y,y∈ic l->y∈l:=fun y hy=>by
  rcases vz ce hy with h|h
  ·exact h
  ·cases h
 refine⟨h2 y,fun hy=>?_⟩;obtain⟨e,e1,e2⟩:=BY ce (o:=[]) hy;rcases e2 with rfl|e2
 ·exact e1
 ·rw[<-ht e (h2 e e1) y hy e2];exact e1
def Qb{d:aa}(h:d.half≠0):(ba d).half≠0:=by
 have:=mB h;have:=e8 h;omega
def Ry{E:List aH}(hE: ∀f∈E,f.l.ok){p d:aa}(h:d∈E.flatMap (gp p)):d.half≠0:=by
 obtain⟨f,k1,k2⟩:=cY.1 h;have z:=nI (hE f k1);have z2:(cj f.l.dir).half≠0:=by rw[Cg z];exact z
 rcases(CN k2).2 with rfl|rfl
 ·exact z2
 ·exact Qb z2
section
variable {rs:List (List ZP)} {fill:Int} {p:aa}
def EO(hr: ∀r∈rs,b9 r)(u:aa):gF (ER rs) p u↔pb (ju (bO rs) p) u:=by
 have hE: ∀f∈bO rs,f.l.ok:=fun f hf=>((mF hr).2 f hf).ok;unfold gF pb ju;constructor
 ·rintro ⟨h1,h2⟩
  refine⟨h1,fun d hd hu=>?_⟩;obtain⟨f,k1,k2⟩:=cY.1 ((C6 (Ai hE p) d).1 hd);obtain⟨v,w,q1,q2,rfl,q4⟩:=YC hr k1;obtain⟨r,r1,r2⟩:=(J8 q1 q2 p u).2 ⟨d,k2,hu⟩;exact h2 _ q4 r r1 r2
 ·rintro ⟨h1,h2⟩
  refine⟨h1,fun f hf r hr' hu=>?_⟩;obtain⟨v,w,q1,q2,q3,rfl⟩:=NA hr hf;obtain⟨d,d1,d2⟩:=(J8 q1 q2 p u).1 ⟨r,hr',hu⟩;exact h2 d ((C6 (Ai hE p) d).2 (cY.2 ⟨_,q3,d1⟩)) d2
def Rr(hr: ∀r∈rs,b9 r){L:List ab}(h:kP L)(hM:lO L (ER rs)):uG (bO rs) p (dP rs fill)=jn (gg rs fill) p:=by
 have hE: ∀f∈bO rs,f.l.ok:=fun f hf=>((mF hr).2 f hf).ok;have hnz: ∀d∈ju (bO rs) p,d.half≠0:=fun d hd=>Ry hE ((C6 (Ai hE p) d).1 hd);have hs:=Md (fill:=fill) hr (x6 _) hnz fun u=>EO (p:=p) hr u;refine(Ju hr h hM (vs:=eO (ju (bO rs) p)) (q:=lm (bO rs) p) fun b=>?_).symm;unfold oO;rw[<-hs b];constructor
 ·rintro ⟨v,h1,h2⟩
  exact⟨v,h1,h2▸Ok hr ((EO hr v).2 (BD (x6 _) hnz h1))⟩
 ·rintro ⟨v,h1,h2⟩
  exact⟨v,h1,(Ok hr ((EO hr v).2 (BD (x6 _) hnz h1))).uniq h2⟩
end
def Oj{p q:aa}{i:Nat}[hp:aq p i][hq:aq q i](hi:i<=1000000:=by decide):PF GB prog 188 [eZ p,eZ q] (vB (decide (p.x=q.x/\p.y=q.y))):=by
 refine fn func188 J J ntmps188 J J (fun C=>?_);refine cl J (Ke (p:=p.x) (q:=q.x) (i:=i) (j:=i) (by omega) (by omega)) J<|?_;refine csd 10 J J J (fun hg10=>?_) (fun hg10=>?_)
 .
  refine cl J (Ke (p:=p.y) (q:=q.y) (i:=i) (j:=i) (by omega) (by omega)) J<|?_;exact rz J (by show DV.v (.bool _)= .v (.bool _);simp_all)
 .
  exact rz J (by show DV.v (.bool _)= .v (.bool _);simp_all)
def DS{p q:aa}{i j:Nat}[hp:aq p i][hq:aq q j](hi:i<=10000000:=by decide)(hj:j<=10000000:=by decide):PF GB prog 202 [eZ p,eZ q] (eZ ⟨p.x-q.x,p.y-q.y⟩):=by
 refine fn func202 J J ntmps202 J J (fun C=>?_);refine cl J (vq (p:=p.x) (q:=q.x) (i:=i) (j:=j) (by omega) (by omega)) J<|cl J (vq (p:=p.y) (q:=q.y) (i:=i) (j:=j) (by omega) (by omega)) J<|?_;exact rz J J
def xp{l:ab}{p:aa}{i:Nat}[hl:LB l][hp:aq p i](hi:i<=1000000:=by decide):PF GB prog 155 [pf l,eZ p] (eF (ci l p)):=by
 refine fn func155 J J ntmps155 J J (fun C=>?_);refine cl J (AS (l:=l)) J<|cl (fu:=⟨0⟩) J (qn (p:=l.dir) (q:=p) (i:=97) (j:=i) (by decide) (by omega)) J<|?_;refine aj 10 (.d (eF (p.dot l.dir))) J (by rw[show l.dir.dot p=p.dot l.dir by unfold aa.dot;grind]) ?_;refine gx J<|cl J (qn (p:=l.dir) (q:=l.dir) (i:=97) (j:=97) (by decide) (by decide)) J<|cl J (xq (p:=p.dot l.dir) (q:=l.dir.dot l.dir) (i:=i+97+(i+97)+1) (j:=97+97+(97+97)+1) (by omega) (by decide)) J<|?_;exact rz J J
def MK{v:aA}{t:Rat}{i:Nat}[h1:BQ v.lo i][h2:BQ v.hi i][h3:BQ t i](hi:i<=1000000:=by decide):PF GB prog 154 [eW v,eF t] (vB (o7 v t)):=by
 refine fn func154 J J ntmps154 J J (fun C=>?_);refine kA 7 J J J (fun hg7=>?_) (fun hg7=>?_)
 .
  refine kA 17 J J J (fun hg17=>?_) (fun hg17=>?_)
  .
   exact rz J (by show DV.v (.bool _)= .v (.bool _);unfold o7;simp_all<;>(intros;omega))
  .
   refine cl J (lv (p:=v.hi) (q:=t) (i:=i) (j:=i) (by omega) (by omega)) J<|?_;exact rz J (by show DV.v (.bool _)= .v (.bool _);unfold o7;simp_all<;>(intros;omega))
 .
  refine cl J (lv (p:=v.lo) (q:=t) (i:=i) (j:=i) (by omega) (by omega)) J<|?_;refine cs 14 J J J (fun hg14=>?_) (fun hg14=>?_)
  .
   refine kA 17 J J J (fun hg17=>?_) (fun hg17=>?_)
   .
    exact rz J (by show DV.v (.bool _)= .v (.bool _);unfold o7;simp_all<;>(intros;omega))
   .
    refine cl J (lv (p:=v.hi) (q:=t) (i:=i) (j:=i) (by omega) (by omega)) J<|?_;exact rz J (by show DV.v (.bool _)= .v (.bool _);unfold o7;simp_all<;>(intros;omega))
  .
   exact rz J (by show DV.v (.bool _)= .v (.bool _);unfold o7;simp_all<;>(intros;omega))
def Tf{G:Gh}{q:Rat}{y:Value}(h: ¬ew q)(hy:Is G (dl q) y):y= .pointer none:=by
 unfold dl at hy;rw[decide_eq_false h] at hy;rcases ut.1 hy with⟨_,e⟩|⟨e,_⟩
 ·exact e
 ·cases e
def Qc{G:Gh}{q:Rat}(h: ¬ew q):Is G (dl q) (.pointer none):=by
 unfold dl;rw[decide_eq_false h];exact ut.2 (.inl ⟨J,J⟩)
def xF(q:Rat):List Value:=[.int .i64 (dz q), .int .i64 (dq q), .pointer none]
def vC{G:Gh}{q:Rat}{t:List DV}{m:List Value}(h: ¬ew q)(hm:IsLs G (vI (dz q)::vI (dq q)::dl q::t) m): ∃n,m=xF q++n/\IsLs G t n:=by
 obtain⟨y1,m1,rfl,h1,hm1⟩:=b7.1 hm;obtain⟨y2,m2,rfl,h2,hm2⟩:=b7.1 hm1;obtain⟨y3,m3,rfl,h3,hm3⟩:=b7.1 hm2;obtain rfl:=bi.1 h1;obtain rfl:=bi.1 h2;obtain rfl:=Tf h h3;exact⟨m3,J,hm3⟩
def vE{G:Gh}{q:Rat}{t:List DV}{n:List Value}(h: ¬ew q)(k:IsLs G t n):IsLs G (vI (dz q)::vI (dq q)::dl q::t) (xF q++n):= .cons (bi.2 J) (.cons (bi.2 J) (.cons (Qc h) k))
def rV(q:Rat):Value:= .agg ⟨xF q⟩
def Sv{G:Gh}{q:Rat}{y:Value}(h: ¬ew q)(hy:Is G (eF q) y):y=rV q:=by
 obtain⟨m,rfl,hm⟩:=fe.1 hy;obtain⟨n,rfl,hn⟩:=vC h hm;rw[cH.1 hn];rfl
def Ut{G:Gh}{q:Rat}(h: ¬ew q):Is G (eF q) (rV q):=fe.2 ⟨_,J,vE h (cH.2 J)⟩
structure Hb (f:aH):Prop where
 a: ¬ew (f.l.a:Rat)
 b: ¬ew (f.l.b:Rat)
 c: ¬ew (f.l.c:Rat)
 lo: ¬ew f.v.lo
 hi: ¬ew f.v.hi
def tB(f:aH):Value:= .agg ⟨xF f.l.a++(xF f.l.b++(xF f.l.c++(xF f.v.lo++(xF f.v.hi++[.bool f.v.nl, .bool f.v.nh]))))⟩
def wD{G:Gh}{f:aH}{y:Value}(h:Hb f)(hy:Is G (cp f) y):y=tB f:=by
 obtain⟨m0,rfl,k0⟩:=fe.1 hy;obtain⟨m1,rfl,k1⟩:=vC h.a k0;obtain⟨m2,rfl,k2⟩:=vC h.b k1;obtain⟨m3,rfl,k3⟩:=vC h.c k2;obtain⟨m4,rfl,k4⟩:=vC h.lo k3;obtain⟨m5,rfl,k5⟩:=vC h.hi k4;obtain⟨y1,m6,rfl,h1,k6⟩:=b7.1 k5;obtain⟨y2,m7,rfl,h2,k7⟩:=b7.1 k6;obtain rfl:=bi.1 h1;obtain rfl:=bi.1 h2;obtain rfl:=cH.1 k7;rfl
def wo{G:Gh}{f:aH}(h:Hb f):Is G (cp f) (tB f):=fe.2 ⟨_,J,vE h.a (vE h.b (vE h.c (vE h.lo (vE h.hi (.cons (bi.2 J) (.cons (bi.2 J) (cH.2 J)))))))⟩
structure FE (f:aH):Prop where
 fo:pp f
 sm:Hb f
 nl:f.v.nl=false
 nh:f.v.nh=false
theorem CL{l:ab}{p:aa}{i:Nat}(hl:LB l)[hp:aq p i]:BQ (ci l p) (2*i+600):=by
 haveI:=hl;have h:BQ (p.dot l.dir/l.dir.dot l.dir) (i+97+(i+97)+1+(97+97+(97+97)+1)):=inferInstance;exact BQ.mono (show BQ (ci l p) _ from h) (by omega)
def E8{f:aH}(hf:FE f){p:aa}{i:Nat}[hp:aq p i](hi:i<=100000:=by decide):PF GB prog 110 [cp f,eZ p] (vB (gI f p)):=by
 haveI:=hf.fo.lb;haveI:=hf.fo.lo;haveI:=hf.fo.hi;haveI:=CL (p:=p) (i:=i) hf.fo.lb;haveI:BQ f.v.lo (2*i+1800):=hf.fo.lo.mono (by omega);haveI:BQ f.v.hi (2*i+1800):=hf.fo.hi.mono (by omega);haveI:BQ (ci f.l p) (2*i+1800):=(CL (p:=p) (i:=i) hf.fo.lb).mono (by omega);refine fn func110 J J ntmps110 J J (fun C=>?_);refine cl (fu:=⟨0⟩) J (EN (l:=f.l) (p:=p) (i:=i) (by omega)) J<|?_;refine pB (v2:=fun hg9=>by simp only[ah];kernel_rfl) J J J J (fun hg9=>?_) (fun hg9=>?_)
 .
  refine cl J (xp (l:=f.l) (p:=p) (i:=i) (by omega)) J<|cl J (MK (v:=f.v) (t:=ci f.l p) (i:=2*i+1800) (by omega)) J<|?_;exact rz J (by show DV.v (.bool _)= .v (.bool _);unfold gI;simp_all)
 .
  exact rz J (by show DV.v (.bool _)= .v (.bool _);unfold gI;simp_all)
def Ew{f:aH}(hf:FE f):PF GB prog 140 [cp f] (.tp [eZ (f.l.at f.v.lo),vB true]):=by
 haveI:=hf.fo.lb;haveI:=hf.fo.lo;haveI:=hf.fo.hi;refine fn (fu:=⟨13⟩) func140 J J ntmps140 J J (fun C=>?_);refine aj 6 (.d (vB false)) J (by rw[hf.nl]<;>rfl) ?_;refine ui 6 J ?_;refine gx J<|cl J (OC (l:=f.l) (t:=f.v.lo) (i:=1200)) J<|?_;exact rz J J
def D5{f:aH}(hf:FE f):PF GB prog 141 [cp f] (.tp [eZ (f.l.at f.v.hi),vB true]):=by
 haveI:=hf.fo.lb;haveI:=hf.fo.lo;haveI:=hf.fo.hi;refine fn (fu:=⟨13⟩) func141 J J ntmps141 J J (fun C=>?_);refine aj 6 (.d (vB false)) J (by rw[hf.nh]<;>rfl) ?_;refine ui 6 J ?_;refine gx J<|cl J (OC (l:=f.l) (t:=f.v.hi) (i:=1200)) J<|?_;exact rz J J
def Wr{α:Type}{g:α->Bool}{E:List α}{k:Nat}{f:α}(hk:E[k]? =some f)(h:(E.take k).any g=false):(E.take (k+1)).any g=g f:=by
 rw[dW,hk,List.any_append,h];simp
def Rl{α:Type}{g:α->Bool}{E:List α}{k:Nat}{f:α}(hk:E[k]? =some f)(h:g f=true):E.any g=true:=kX.2 ⟨f,aS hk,h⟩
def UU{E:List aH}(hn:E.length<=1000000){f:FuncId}{pv:Value}{dp:DV}(hp:Is GB dp pv){g:aH->Bool}(hF: ∀x∈E,PF GB prog f [cp x,dp] (vB (g x))):PX GB prog 153 [.sl (E.map cp), .v (.func (.func f) ⟨[]⟩ ⟨[pv]⟩)] {j:Int//(0<=j↔E.any g=true)/\ -1<=j/\j<=1000000} (fun j=>vI j.1):=by
 have hml:(E.map cp).length=E.length:=aK ..;refine UH (fu:=⟨10⟩) func153 J J ntmps153 J J (fun C=>?_);refine aj 7 (.d (vI (E.length:Nat))) J (by rw[hml]<;>rfl) ?_;refine gx J<|?_;refine lp (X:=Nat) (fun k=>[(8, .d (vI (k:Nat)))]) (fun k=>[]) (fun k=>k<=E.length/\(E.take k).any g=false) (fun k=>E.length-k) 0 J ⟨bN _,J⟩ (fun _=>J) (fun k hk=>?_);obtain⟨hk,hany⟩:=hk;refine br J J J (fun hc9=>?_) (fun hc9=>?_)
 .
  obtain⟨x,hx⟩: ∃u,E[k]? =some u:=⟨_,aZ (by omega)⟩;refine ix (fu:=⟨1⟩) _ J (ee hx) J<|tC (ds1:=[]) (ds2:=[dp]) J (cH.2 J) (.cons hp (cH.2 J)) (hF x (aS hx)) J<|?_;refine bb J J J (fun hc16=>?_) (fun hc16=>?_)
  .
   exact Oz ⟨(k:Int),⟨fun _=>Rl hx hc16,fun _=>by omega⟩,by omega,by omega⟩ J J
  .
   exact at_ (k+1) ⟨⟨by omega,by rw[Wr hx hany];simpa using hc16⟩,(by omega)⟩
 .
  obtain rfl:k=E.length:=by omega
  rw[dX] at hany;exact Oz ⟨-1,⟨fun h=>by omega,fun h=>by rw[hany] at h;cases h⟩,by omega,by omega⟩ J J
theorem vJ{l:ab}{t:Rat}(hl:LB l)(ht:BQ t 1200):aq (l.at t) 3000:=aq.mono (inferInstance:aq (l.at t) _) (by decide)
def pH{f:aH}(h1:f.v.nl=false)(h2:f.v.nh=false)(p:aa):qt f p=if Int.sign f.l.dir.y.num=0 then 0 else if Int.sign (f.l.value p).num≠Int.sign f.l.dir.y.num then 0 else
  if Int.sign f.l.dir.y.num<0 then(if 0<bE (f.l.at f.v.hi).y p.y then 0 else if bE (f.l.at f.v.lo).y p.y<=0 then 0 else Int.sign f.l.dir.y.num)
  else(if 0<bE (f.l.at f.v.lo).y p.y then 0 else if bE (f.l.at f.v.hi).y p.y<=0 then 0 else Int.sign f.l.dir.y.num):=by
 unfold qt;rw[h1,h2];generalize Int.sign f.l.dir.y.num=U;generalize Int.sign (f.l.value p).num=S;generalize bE (f.l.at f.v.hi).y p.y=a;generalize bE (f.l.at f.v.lo).y p.y=b;by_cases k:U=0
 ·simp[k]
 ·by_cases k2:S≠U
  ·simp[k2]
  ·rw[if_neg (by simp[k,k2]),if_neg k,if_neg k2]
   by_cases k3:U<0
   ·simp[k3]
   ·simp[k3]
def OI(f:aH)(p:aa):(qt f p).natAbs<=1:=by
 unfold qt;have:=M0 f.l.dir.y.num
 repeat' split
 all_goals omega
def I7{E:List aH}{p:aa}{k:Nat}{f:aH}(h:E[k]? =some f):fy (E.take (k+1)) p=fy (E.take k) p+qt f p:=by
 rw[dW,h];show fy (E.take k++[f]) p=_;rw[E2];unfold fy;simp
def Mt(E:List aH)(p:aa): ∀k,(fy (E.take k) p).natAbs<=k
 |0=>by simp[fy]
 |k+1=>by
  have ih:=Mt E p k
  cases h:E[k]? with
  |none=>
   have:E.take (k+1)=E.take k:=by rw[dW,h];simp
   rw[this];omega
  |some f=>
   rw[I7 h];have:=OI f p;omega
def Ym{f:aH}(hf:FE f){p:aa}{i:Nat}[hp:aq p i](hi:i<=100000:=by decide):PF GB prog 89 [cp f,eZ p] (vI (qt f p)):=by
 haveI:=hf.fo.lb;haveI:=hf.fo.lo;haveI:=hf.fo.hi;haveI:aq (f.l.at f.v.hi) 3000:=vJ hf.fo.lb hf.fo.hi;haveI:aq (f.l.at f.v.lo) 3000:=vJ hf.fo.lb hf.fo.lo;refine fn func89 J J ntmps89 J J (fun C=>?_);refine cl J (AS (l:=f.l)) J<|cl (fu:=⟨6⟩) J (l8 (q:=f.l.dir.y) (i:=97)) J<|?_;rcases Int.lt_or_le (Int.sign f.l.dir.y.num) 0 with hu|hu
 .
  refine gx J<|?_;refine cs 19 J J J (fun hg19=>?_) (fun hg19=>?_)
  .
   exact rz J (by rw[pH hf.nl hf.nh];(repeat' split)<;>first|rfl|(exfalso;omega))
  .
   refine cl J (EN (l:=f.l) (p:=p) (i:=i) (by omega)) J<|?_;refine br (fu2:=⟨5⟩) J J J (fun hc26=>?_) (fun hc26=>?_)
   .
    exact rz J (by rw[pH hf.nl hf.nh];(repeat' split)<;>first|rfl|(exfalso;omega))
   .
    refine wz (fu:=⟨1⟩) (tB f) J (fun G y hy=>wD hf.sm hy) J<|wz (fu:=⟨8⟩) (tB f) J (fun G y hy=>wD hf.sm hy) J<|gH (fu:=⟨14⟩) J (by show some (decide _)=some true;rw[decide_eq_true (by omega)]) J<|?_;refine tC (fu:=⟨12⟩) (ds1:=[cp f]) (ds2:=[]) J (.cons (wo hf.sm) (cH.2 J)) (cH.2 J) (D5 hf) J<|?_;refine mt 41 J ?_;refine gx J<|cl J (lv (i:=3000) (j:=i) (by decide) (by omega)) J<|?_;refine br (fu2:=⟨6⟩) J J J (fun hc48=>?_) (fun hc48=>?_)
    .
     exact rz J (by rw[pH hf.nl hf.nh];(repeat' split)<;>first|rfl|(exfalso;omega))
    .
     refine tC (fu:=⟨12⟩) (ds1:=[cp f]) (ds2:=[]) J (.cons (wo hf.sm) (cH.2 J)) (cH.2 J) (Ew hf) J<|?_;refine mt 55 J ?_;refine gx J<|cl J (lv (i:=3000) (j:=i) (by decide) (by omega)) J<|?_;refine br J J J (fun hc62=>?_) (fun hc62=>?_)
     .
      exact rz J (by rw[pH hf.nl hf.nh];(repeat' split)<;>first|rfl|(exfalso;omega))
     .
      exact rz J (by rw[pH hf.nl hf.nh];(repeat' split)<;>first|rfl|(exfalso;omega))
 .
  refine gx J<|?_;refine cs 19 J J J (fun hg19=>?_) (fun hg19=>?_)
  .
   exact rz J (by rw[pH hf.nl hf.nh];(repeat' split)<;>first|rfl|(exfalso;omega))
  .
   refine cl J (EN (l:=f.l) (p:=p) (i:=i) (by omega)) J<|?_;refine br (fu2:=⟨5⟩) J J J (fun hc26=>?_) (fun hc26=>?_)
   .
    exact rz J (by rw[pH hf.nl hf.nh];(repeat' split)<;>first|rfl|(exfalso;omega))
   .
    refine wz (fu:=⟨1⟩) (tB f) J (fun G y hy=>wD hf.sm hy) J<|wz (fu:=⟨8⟩) (tB f) J (fun G y hy=>wD hf.sm hy) J<|gw (fu:=⟨9⟩) J (by show some (decide _)=some false;rw[decide_eq_false (by omega)]) J<|?_;refine tC (fu:=⟨12⟩) (ds1:=[cp f]) (ds2:=[]) J (.cons (wo hf.sm) (cH.2 J)) (cH.2 J) (Ew hf) J<|?_;refine mt 41 J ?_;refine gx J<|cl J (lv (i:=3000) (j:=i) (by decide) (by omega)) J<|?_;refine br (fu2:=⟨6⟩) J J J (fun hc48=>?_) (fun hc48=>?_)
    .
     exact rz J (by rw[pH hf.nl hf.nh];(repeat' split)<;>first|rfl|(exfalso;omega))
    .
     refine tC (fu:=⟨12⟩) (ds1:=[cp f]) (ds2:=[]) J (.cons (wo hf.sm) (cH.2 J)) (cH.2 J) (D5 hf) J<|?_;refine mt 55 J ?_;refine gx J<|cl J (lv (i:=3000) (j:=i) (by decide) (by omega)) J<|?_;refine br J J J (fun hc62=>?_) (fun hc62=>?_)
     .
      exact rz J (by rw[pH hf.nl hf.nh];(repeat' split)<;>first|rfl|(exfalso;omega))
     .
      exact rz J (by rw[pH hf.nl hf.nh];(repeat' split)<;>first|rfl|(exfalso;omega))
def NO{E:List aH}(hE: ∀f∈E,FE f)(hn:E.length<=1000000){p:aa}{i:Nat}[hp:aq p i](hi:i<=100000:=by decide):PF GB prog 44 [.sl (E.map cp),eZ p] (vI (fy E p)):=by
 have hml:(E.map cp).length=E.length:=aK ..;refine fn (fu:=⟨16⟩) func44 J J ntmps44 J J (fun C=>?_);refine aj 9 (.d (vI (E.length:Nat))) J (by rw[hml]<;>rfl) ?_;refine gx J<|?_;refine lp (X:=Nat) (fun k=>[(10, .d (vI (k:Nat))),(5, .d (vI (fy (E.take k) p)))]) (fun k=>[]) (fun k=>k<=E.length) (fun k=>E.length-k) 0 J (bN _) (fun _=>J) (fun k hk=>?_);have hw:=Mt E p k;refine br J J J (fun hc11=>?_) (fun hc11=>?_)
 .
  obtain⟨f,hx⟩: ∃u,E[k]? =some u:=⟨_,aZ (by omega)⟩;have hf:=hE f (aS hx);have hcl:=OI f p;refine ix _ J (ee hx) J<|cl J (Ym hf (p:=p) (i:=i) hi) J<|?_;refine aj 5 (.d (vI (fy (E.take (k+1)) p))) J (by rw[I7 hx]<;>rfl) ?_;exact at_ (k+1) ⟨(by omega),(by omega)⟩
 .
  obtain rfl:k=E.length:=by omega
  rw[dX];exact rz J J
def Ur{f:aH}(hf:FE f){p:aa}{i:Nat}[hp:aq p i](hi:i<=100000:=by decide):PF GB prog 109 [cp f, .pt [vI (dz p.x),vI (dq p.x),dl p.x,vI (dz p.y),vI (dq p.y),dl p.y]] (vB (gI f p)):=by
 refine fn func109 J J ntmps109 J J (fun C=>?_);refine vU 1 J<|gx J<|cl J (E8 hf (p:=p) (i:=i) hi) J<|?_;exact rz J J
def V1{E:List aH}(hn:E.length<=1000000){f:FuncId}{pv:Value}{dp:DV}(hp:Is GB dp pv){g:aH->Bool}(hF: ∀x∈E,PF GB prog f [cp x,dp] (vB (g x))):PF GB prog 108 [.sl (E.map cp), .v (.func (.func f) ⟨[]⟩ ⟨[pv]⟩)] (vB (E.any g)):=by
 refine fn func108 J J ntmps108 J J (fun C=>?_);refine cx J (UU hn hp hF) (fun _=>J) (fun⟨j,hj,hj1,hj2⟩=>?_)
 try dsimp only
 exact rz J (by show DV.v (.bool (decide _))= .v (.bool _);congr 2;rw[Bool.eq_iff_iff,decide_eq_true_eq];exact hj)
def VF{E:List aH}(hE: ∀f∈E,FE f)(hn:E.length<=1000000){p:aa}{i:Nat}[hp:aq p i](hi:i<=100000:=by decide):PF GB prog 59 [.sl (E.map cp),eZ p] (vB (E.any fun f=>gI f p)):=by
 refine fn (fu:=⟨9⟩) func59 J J ntmps59 J J (fun C=>?_);refine fz 3 J J ?_;refine ww 3 J (fun GB' pv hg hpv=>?_);refine LE J J<|cl J (V1 (E:=E) hn hpv (fun f hf=>Ur (hE f hf) (p:=p) (i:=i) hi)) J<|?_;exact rz J J
def nk(v:List aa):List (List DV):=(List.range v.length).map fun i=>[vI (i:Nat),Cw (v.getD i ⟨0,0⟩) (v.getD ((i+1)%v.length) ⟨0,0⟩)]
def Ls{v:List aa}{i:Nat}{p q:aa}(h1:v[i]? =some p)(h2:v[(i+1)%v.length]? =some q):(nk v)[i]? =some [vI (i:Nat),Cw p q]:=by
 have hi:=(aM.1 h1).1;unfold nk;rw[fS,rM hi,jW,aX,aX,h1,h2];rfl
def ML{v:List aa}{i:Nat}{e:List DV}(h:(nk v)[i]? =some e): ∃p q,v[i]? =some p/\v[(i+1)%v.length]? =some q/\e=[vI (i:Nat),Cw p q]:=by
 have hi:i<v.length:=by
  have:=(aM.1 h).1;unfold nk at this;simpa using this
 have h1:v[i]? =some v[i]:=aZ hi;have hm:(i+1)%v.length<v.length:=cL _ (by omega);have h2:v[(i+1)%v.length]? =some v[(i+1)%v.length]:=aZ hm;refine⟨_,_,h1,h2,?_⟩;rw[Ls h1 h2] at h;exact(Option.some.inj h).symm
def LF{v:List aa}: ∀e∈nk v,e.length=2:=fun e he=>by
 obtain⟨i,_,rfl⟩:=bZ.1 he;rfl
def MG{v:List aa}(hn:v.length<=100000):It GB prog 189 [.pt [.sl (v.map eZ)]] (nk v):=by
 have hml:(v.map eZ).length=v.length:=aK ..;have hrl:(nk v).length=v.length:=by unfold nk;simp
 refine Re func189 J J ntmps189 J (fun _=>J) (fun l Jv Jx GB' hg H C hp hJ=>?_);refine vU 1 J<|gx J<|?_;refine aj 6 (.d (vI (v.length:Nat))) J (by rw[hml]<;>rfl) ?_;refine QC (X:=Nat) (fun k=>[(0, .d (.v (.func (.yield l) #[] #[]))),(1, .ep [.sl (v.map eZ)]),(5, .d (.sl (v.map eZ))),(6, .d (vI (v.length:Nat))),(7, .d (vI (k:Nat)))]) (fun k C=>k<=v.length/\Jv k C.G0 C.w0) (fun k=>v.length-k) 0 hp ⟨bN _,hJ⟩ (fun _=>J) (fun k C1 hp1 hk=>?_);obtain⟨hk1,hJ1⟩:=hk;refine br J J J (fun hc8=>?_) (fun hc8=>?_)
 ·obtain⟨p,hpx⟩: ∃u,v[k]? =some u:=⟨_,aZ (by omega)⟩
  obtain⟨q,hqx⟩: ∃u,v[(k+1)%v.length]? =some u:=⟨_,aZ (cL _ (by omega))⟩;refine ix _ J (ee hpx) J<|?_;refine aj 20 (.d (vI (((k+1)%v.length:Nat):Int))) J (by rw[hml]<;>rfl) ?_;refine gx J<|ix _ J (ee hqx) J<|Yk (len:=2) (s:=6) (e:=103) J (by kernel_rfl) (by kernel_rfl) J<|?_;refine VG (by kernel_rfl) J ?_;refine cy [(0, .d (.v (.func (.yield l) #[] #[]))),(1, .ep [.sl (v.map eZ)]),(5, .d (.sl (v.map eZ))),(6, .d (vI (v.length:Nat))),(7, .d (vI (k:Nat)))] H hp1 hJ1 J (Ls hpx hqx) J (by repeat (first|exact trivial|refine And.intro J ?_)) J J J (fun C3 hp3 hJ3=>?_) (fun C3 hp3 hJ3=>?_)
  ·exact YT (k+1) hp3 ⟨⟨by omega,hJ3⟩,by omega⟩
  ·exact Nk H hp3 (.inr hJ3) J
 ·obtain rfl:k=v.length:=by omega
  exact Nk H hp1 (.inl (by rw[hrl];exact hJ1)) J
def L3{v:List aa}:ED GB prog 136 [.sl (v.map eZ)] 189 (.pt [.sl (v.map eZ)]):=by
 refine TO func136 J J ntmps136 J J (fun C=>?_);refine fz 1 J J ?_;refine ww 1 J (fun GB' pv hg hp=>?_);refine LE J J ?_;exact Xn J J hp
def TY:G9 101:=fun x w=>by kernel_rfl
def T3(m:List Value):Bu 101 (.agg ⟨m⟩) "Mul" 204:=fun w=>by kernel_rfl
def SL(l:List Rat)(k:Nat)(y:Rat):(l.map eF).set k (eF y)=(l.set k y).map eF:=(qT ..).symm
def mr(L:List Rat)(k:Rat)(j:Nat):List Rat:=(L.take j).map (· *k)++L.drop j
def SU(L:List Rat)(k:Rat)(j:Nat):(mr L k j).length=L.length:=by
 unfold mr;rw[bQ,aK,cJ,jU];omega
def Z3{L:List Rat}{k a:Rat}{j:Nat}(h:L[j]? =some a):(mr L k j)[j]? =some a:=by
 have hj:=(aM.1 h).1;unfold mr;rw[fM (by rw[aK,cJ];omega),aK,cJ,kN,<-h];congr 1;omega
def Ty{L:List Rat}{k a:Rat}{j:Nat}(h:L[j]? =some a):(mr L k j).set j (a*k)=mr L k (j+1):=by
 have hj:=(aM.1 h).1;unfold mr;rw[dW,h,List.set_append_right _ _ (by rw[aK,cJ];omega),aK,cJ,show j-min j L.length=0 by omega,bL hj];simp only[Option.toList_some,cN,cM,jL,List.set_cons_zero,gW,kQ,kL]
def NS{L:List Rat}{k:Rat}{i:Nat}[hk:BQ k i](hL: ∀a∈L,¬ew a)(hb: ∀a∈L,BQ a i)(hn:L.length<=1000)(hi:i<=1000000:=by decide):PB GB prog 245 (kI [some (eF k),none]) 3 101 (L.map eF) (fun w=> .v (.slice w.a w.n w.c)) ((L.map (· *k)).map eF):=by
 have hml:(L.map eF).length=L.length:=aK ..;refine F9 (fu:=⟨11⟩) func245 J J ntmps245 J J (fun C=>?_);refine aj 7 (.d (vI (L.length:Nat))) J (by rw[hml]<;>rfl) ?_;refine gx J<|?_;refine lp (X:=Nat) (fun j=>[(8, .d (vI (j:Nat)))]) (fun j=>[(1000000,some (.b 101 3 ((mr L k j).map eF) false))]) (fun j=>j<=L.length) (fun j=>L.length-j) 0 J (bN _) (fun _=>J) (fun j hk=>?_);have hsl:=SU L k j;have hsm:((mr L k j).map eF).length=(mr L k j).length:=aK ..;refine br J J J (fun hc9=>?_) (fun hc9=>?_)
 .
  obtain⟨a,hx⟩: ∃u,L[j]? =some u:=⟨_,aZ (by omega)⟩;have ham:=aS hx;haveI:=hb a ham;have hga:(mr L k j)[j]? =some a:=Z3 hx;refine lb (fu:=⟨0⟩) _ J (ee hga) J<|UC (fu:=⟨1⟩) (rV a) J TY (fun G y hy=>Sv (hL a ham) hy) J<|TZ J (T3 _) (PF.arg0 (q6 (p:=a) (q:=k) (i:=i) (j:=i) (by omega) (by omega)) (fun G y h=>by rw[bi.1 h];exact Ut (hL a ham))) J<|?_;refine sb (hv:=by simp only[ah];exact⟨by kernel_rfl,by omega⟩) _ ((mr L k (j+1)).map eF) J (ee hga) J (by rw[<-Ty hx,<-SL]<;>rfl) J<|?_;exact at_ (j+1) ⟨(by omega),(by omega)⟩
 .
  obtain rfl:j=L.length:=by omega
  have hend:mr L k L.length=L.map (· *k):=by unfold mr;rw[dX,iL,mU]
  exact xm J J J (by rw[hend])
def Fy{a:Int}{g:Nat}(hg:0<g)(hd:g∣a.natAbs):(a:Rat)*(((g:Nat):Int):Rat)⁻¹=((zv (decide (a<0)) (a.natAbs/g):Int):Rat):=by
 obtain⟨q,hq⟩:=hd;have e:zv (decide (a<0)) (a.natAbs/g)*(g:Int)=a:=by
  rw[hq,qW q hg];unfold zv;have hc:((g*q:Nat):Int)=(g:Int)*(q:Int):=by simp
  have hm:=Int.mul_comm (g:Int) (q:Int);split
  ·rename_i h
   have h:=of_decide_eq_true h;rw[sS];omega
  ·rename_i h
   have h: ¬a<0:=fun k=>h (decide_eq_true k);omega
 generalize zv (decide (a<0)) (a.natAbs/g)=z at*;have h0:((g:Int):Rat)≠0:=by
  intro k;have:(g:Int)=0:=by exact_mod_cast k
  omega
 rw[<-e,cR];generalize ((g:Int):Rat)=r at*;grind
def rH{z:Int}(h:z.natAbs<=1000000): ¬ew (z:Rat):=fun k=>k ⟨by show z.natAbs<_;omega,by show 1<_;decide⟩
def Mr{q:Rat}{k:Nat}(h:BQ q k)(hk:k<=62): ¬ew q:=fun b=>b (by
 have hp:2^k<=2^62:=bK (by decide) hk;have e:(2:Nat)^62=4611686018427387904:=by decide
 obtain⟨h1,h2⟩:=h;exact⟨by omega,by omega⟩)
theorem wm(p q:aa){i j:Nat}[aq p i][aq q j]:aq ⟨p.x-q.x,p.y-q.y⟩ (i+j+1):=⟨inferInstanceAs (BQ (p.x-q.x) _),inferInstanceAs (BQ (p.y-q.y) _)⟩
theorem ie{z:Int}(h:z.natAbs<=1000000):BQ (z:Rat) 22:=by
 have e:(2:Nat)^21=2097152:=by decide
 haveI:BI z 21:=⟨by omega⟩;exact(inferInstance:BQ (z:Rat) 22)
def U6{a b c:Int}(ha:a.natAbs<=1000000)(hb:b.natAbs<=1000000)(hc:c.natAbs<=1000000)(h0: ¬(a=0/\b=0)):PF GB prog 226 [eF (a:Rat),eF (b:Rat),eF (c:Rat)] (.tp [pf (fA a b c),vB true]):=by
 haveI:=ie ha;haveI:=ie hb;haveI:=ie hc;have hgn:Nat.gcd a.natAbs b.natAbs≠0:=fun h=>h0 ⟨jN.1 (kM h),jN.1 (kR h)⟩;have hgp:0<Nat.gcd (Nat.gcd a.natAbs b.natAbs) c.natAbs:=kJ _ (fL hgn);have eg:rgcd (rgcd (a:Rat) b) c=(((Nat.gcd (Nat.gcd a.natAbs b.natAbs) c.natAbs:Nat):Int):Rat):=by rw[Hj,Hj];rfl
 have e1:(a:Rat)*(rgcd (rgcd (a:Rat) b) c)⁻¹=((fA a b c).a:Rat):=by rw[eg];exact Fy hgp (pL (iN _ _) (iN _ _))
 have e2:(b:Rat)*(rgcd (rgcd (a:Rat) b) c)⁻¹=((fA a b c).b:Rat):=by rw[eg];exact Fy hgp (pL (iN _ _) (jR _ _))
 have e3:(c:Rat)*(rgcd (rgcd (a:Rat) b) c)⁻¹=((fA a b c).c:Rat):=by rw[eg];exact Fy hgp (jR _ _)
 haveI:BQ (rgcd (a:Rat) b) 200:=BQ.mono (inferInstance:BQ (rgcd (a:Rat) b) _) (by decide);haveI:BQ (rgcd (rgcd (a:Rat) b) c) 600:=BQ.mono (inferInstance:BQ (rgcd (rgcd (a:Rat) b) c) _) (by decide);haveI:BQ (rgcd (rgcd (a:Rat) b) c)⁻¹ 600:=BQ.mono (inferInstance:BQ (rgcd (rgcd (a:Rat) b) c)⁻¹ _) (by decide);have hl4:([((fA a b c).a:Rat),((fA a b c).b:Rat),((fA a b c).c:Rat)].map eF).length=3:=J;have hl3:[((fA a b c).a:Rat),((fA a b c).b:Rat),((fA a b c).c:Rat)].length=3:=J;refine fn func226 J J ntmps226 J J (fun C=>?_);refine cl J (Ar (q:=(a:Rat))) J<|?_;refine csd 11 J J J (fun hg11=>?_) (fun hg11=>?_)
 .
  refine cl J (Ar (q:=(b:Rat))) J<|?_;refine bd J J J (fun hc14=>?_) (fun hc14=>?_)
  .
   exact absurd ⟨by exact_mod_cast hg11,by exact_mod_cast hc14⟩ h0
  .
   refine cl J (zt (p:=(a:Rat)) (q:=(b:Rat)) (i:=22) (j:=22)) J<|cl J (zt (p:=rgcd (a:Rat) b) (q:=(c:Rat)) (i:=200) (j:=22)) J<|?_;refine cl rfl (AF (q:=rgcd (rgcd (a:Rat) b) c) (i:=600)) rfl<|ro (fu:=⟨0⟩) J J<|cq (hv:=by simp only[ah];exact⟨by kernel_rfl,by omega⟩) ([((fA a b c).a:Rat),((fA a b c).b:Rat),((fA a b c).c:Rat)].map eF) rfl (NS (L:=[(a:Rat),(b:Rat),(c:Rat)]) (k:=(rgcd (rgcd (a:Rat) b) c)⁻¹) (i:=600) (by intro q hq;simp only[aU,lJ,or_false] at hq;rcases hq with rfl|rfl|rfl;exact rH ha;exact rH hb;exact rH hc) (by intro q hq;simp only[aU,lJ,or_false] at hq;rcases hq with rfl|rfl|rfl;exact(ie ha).mono (by decide);exact(ie hb).mono (by decide);exact(ie hc).mono (by decide)) (nb rfl)) (by simp only[cM,jL,e1,e2,e3]) rfl<|?_;refine lb _ J J J<|lb _ J J J<|lb _ J J J<|?_;exact rz J J
 .
  refine cl J (zt (p:=(a:Rat)) (q:=(b:Rat)) (i:=22) (j:=22)) J<|cl J (zt (p:=rgcd (a:Rat) b) (q:=(c:Rat)) (i:=200) (j:=22)) J<|?_;refine cl rfl (AF (q:=rgcd (rgcd (a:Rat) b) c) (i:=600)) rfl<|ro (fu:=⟨0⟩) J J<|cq (hv:=by simp only[ah];exact⟨by kernel_rfl,by omega⟩) ([((fA a b c).a:Rat),((fA a b c).b:Rat),((fA a b c).c:Rat)].map eF) rfl (NS (L:=[(a:Rat),(b:Rat),(c:Rat)]) (k:=(rgcd (rgcd (a:Rat) b) c)⁻¹) (i:=600) (by intro q hq;simp only[aU,lJ,or_false] at hq;rcases hq with rfl|rfl|rfl;exact rH ha;exact rH hb;exact rH hc) (by intro q hq;simp only[aU,lJ,or_false] at hq;rcases hq with rfl|rfl|rfl;exact(ie ha).mono (by decide);exact(ie hb).mono (by decide);exact(ie hc).mono (by decide)) (nb rfl)) (by simp only[cM,jL,e1,e2,e3]) rfl<|?_;refine lb _ J J J<|lb _ J J J<|lb _ J J J<|?_;exact rz J J
theorem tW{z:ZP}(h:ZP.le 100 z):aq z.q 22:=⟨ie (by have:=h.1;omega),ie (by have:=h.2;omega)⟩
def sC{a b:Int}{m n:Nat}(ha:a.natAbs<=m)(hb:b.natAbs<=n):(a*b).natAbs<=m*n:=by
 rw[iK];exact nT ha hb
def aCE{v w:ZP}(hv:ZP.le 100 v)(hw:ZP.le 100 w)(h:v≠w):PF GB prog 190 [eZ v.q,eZ w.q] (.tp [pf (gE v.1 v.2 w.1 w.2),vB true]):=by
 haveI:=tW hv;haveI:=tW hw;have hv1:=hv.1;have hv2:=hv.2;have hw1:=hw.1;have hw2:=hw.2;obtain⟨A,hA⟩: ∃A,A=jc v.2 w.2:=⟨_,rfl⟩;obtain⟨B,hB⟩: ∃B,B=i5 v.1 w.1:=⟨_,rfl⟩;obtain⟨C0,hC⟩: ∃C0,C0=oq v.1 v.2 w.1 w.2:=⟨_,rfl⟩;have bA:A.natAbs<=200:=by rw[hA];unfold jc;omega
 have bB:B.natAbs<=200:=by rw[hB];unfold i5;omega
 have m1:=sC bA hv1;have m2:=sC bB hv2;have eC:C0= -(A*v.1+B*v.2):=by rw[hC,hA,hB];rfl
 have bC:C0.natAbs<=40000:=by rw[eC];omega
 have h0: ¬(A=0/\B=0):=fun k=>h (Prod.ext (by have:=k.2;rw[hB] at this;unfold i5 at this;omega) (by have:=k.1;rw[hA] at this;unfold jc at this;omega));haveI:aq (iP A B) 22:=⟨ie (by omega),ie (by omega)⟩;haveI:BQ ((A*v.1+B*v.2:Int):Rat) 22:=ie (by omega);have eT:d6 ⟨w.q.x-v.q.x,w.q.y-v.q.y⟩=iP A B:=by rw[hA,hB];unfold d6 iP jc i5 ZP.q iP;simp only[aa.mk.injEq];push_cast;constructor<;>grind
 have eD:(iP A B).dot v.q=((A*v.1+B*v.2:Int):Rat):=by unfold aa.dot iP ZP.q iP;push_cast;rfl
 have eN: -((A*v.1+B*v.2:Int):Rat)=((C0:Int):Rat):=by rw[eC];push_cast;rfl
 refine fn func190 J J ntmps190 J J (fun C=>?_);refine cl J (DS (p:=w.q) (q:=v.q) (i:=22) (j:=22)) J<|cl (fu:=⟨0⟩) J (Jo (p:=⟨w.q.x-v.q.x,w.q.y-v.q.y⟩) (i:=45) (h:=wm w.q v.q)) J<|?_;refine aj 12 (.d (eZ (iP A B))) J (by rw[eT]) ?_;refine gx J<|cl (fu:=⟨0⟩) J (qn (p:=iP A B) (q:=v.q) (i:=22) (j:=22)) J<|?_;refine aj 19 (.d (eF ((A*v.1+B*v.2:Int):Rat))) J (by rw[eD]) ?_;refine gx J<|cl (fu:=⟨0⟩) J (td (q:=((A*v.1+B*v.2:Int):Rat)) (i:=22)) J<|?_;refine aj 20 (.d (eF ((C0:Int):Rat))) J (by rw[eN]) ?_;refine gx J<|cl J (U6 (a:=A) (b:=B) (c:=C0) (by omega) (by omega) (by omega) h0) J<|?_;exact rz J (by rw[hA,hB,hC];rfl)
theorem Oo{l:ab}(ho:l.ok)(ha:l.a.natAbs<=200)(hb:l.b.natAbs<=200){m n:Int}(hm:m.natAbs<=100)(hn:n.natAbs<=100):BQ (ci l (iP m n)) 60:=by
 have hd:=vD ho.ne;have p1:=sC ha ha;have p2:=sC hb hb;have p3:=sC hm hb;have p4:=sC hn ha;have h60:(2:Nat)^60=1152921504606846976:=by decide
 have hA:BI (l.a*l.a+l.b*l.b) 60:=⟨by omega⟩;have hB:BI (m*l.b-n*l.a) 60:=⟨by omega⟩;have e1:l.dir.dot l.dir=((l.a*l.a+l.b*l.b:Int):Rat):=by
  rw[oK,cR,cR];simp only[ab.dir,aa.dot];grind
 have e2:(iP m n).dot l.dir=((m*l.b-n*l.a:Int):Rat):=by
  rw[lR,cR,cR];simp only[ab.dir,aa.dot,iP];grind
 have hd':((0:Int):Rat)<((l.a*l.a+l.b*l.b:Int):Rat):=by rw[<-e1];exact hd
 unfold ci;rw[e2,e1];clear e1 e2 p1 p2 p3 p4;generalize l.a*l.a+l.b*l.b=D at*;generalize m*l.b-n*l.a=M at*;have hD:0<D:=qM.1 hd';refine BQ.of_fracI (n:=M) (D:=D) (by omega) ?_ hB hA;have h0:(D:Rat)≠0:=fun e=>by rw[e] at hd';exact absurd hd' (by decide)
 have:((D.natAbs:Nat):Rat)=(D:Rat):=by
  have h1:((D.natAbs:Nat):Int)=D:=by omega
  rw[<-h1];rfl
 rw[this];grind
def Le{v w:ZP}(hv:ZP.le 100 v)(hw:ZP.le 100 w)(h:v≠w):FE (aP v w):=by
 have hf:=IQ hv hw h;have hv1:=hv.1;have hv2:=hv.2;have hw1:=hw.1;have hw2:=hw.2;have bA:(jc v.2 w.2).natAbs<=200:=by unfold jc;omega
 have bB:(i5 v.1 w.1).natAbs<=200:=by unfold i5;omega
 have m1:=sC bA hv1;have m2:=sC bB hv2;have bC:(oq v.1 v.2 w.1 w.2).natAbs<=40000:=by unfold oq;omega
 obtain⟨k1,k2,k3⟩:=ME (jc v.2 w.2) (i5 v.1 w.1) (oq v.1 v.2 w.1 w.2);have ea:(aP v w).l.a.natAbs<=200:=fU k1 bA;have eb:(aP v w).l.b.natAbs<=200:=fU k2 bB;have ec:(aP v w).l.c.natAbs<=40000:=fU k3 bC;exact⟨hf,⟨rH (by omega),rH (by omega),rH (by omega),Mr (Oo hf.ok ea eb hv1 hv2) (by decide),Mr (Oo hf.ok ea eb hw1 hw2) (by decide)⟩,J,J⟩
def PJ{r:List ZP}(h:b9 r): ∀f∈cP r,FE f:=fun f hf=>by
 obtain⟨k,hk,rfl⟩:=Hx hf;exact Le (h.le _ (u9 hk)) (h.le _ (wx hk)) (h.ne k hk)
def O0{rs:List (List ZP)}(h: ∀r∈rs,b9 r): ∀f∈bO rs,FE f:=fun f hf=>by
 obtain⟨r,h1,h2⟩:=cY.1 hf;exact PJ (h r h1) f h2
def QF{v w:ZP}(hv:ZP.le 100 v)(hw:ZP.le 100 w)(h:v≠w):PF GB prog 137 [eZ v.q,eZ w.q] (.tp [cp (aP v w),vB true]):=by
 have hf:=Le hv hw h;haveI:LB (gE v.1 v.2 w.1 w.2):=hf.fo.lb;haveI:=tW hv;haveI:=tW hw;refine fn func137 J J ntmps137 J J (fun C=>?_);refine cl (fu:=⟨12⟩) J (aCE hv hw h) J<|?_;refine mt 14 J ?_;refine gx J<|cl J (xp (l:=gE v.1 v.2 w.1 w.2) (p:=v.q) (i:=22)) J<|cl J (xp (l:=gE v.1 v.2 w.1 w.2) (p:=w.q) (i:=22)) J<|?_;exact rz J J
def BX{r:List ZP}{k:Nat}{p:aa}(h:(r.map ZP.q)[k]? =some p):k<r.length/\p=(r.getD k (0,0)).q:=by
 rw[fS] at h
 cases e:r[k]? with
 |none=>rw[e] at h;cases h
 |some z=>
  rw[e] at h;cases h;exact⟨(aM.1 e).1,by rw[aX,e];rfl⟩
def AE(r:List ZP): ∀n,(iF r n).length=n
 |0=>rfl
 |n+1=>by rw[iF,bQ,AE r n];rfl
def KL{r:List ZP}{k:Nat}: ∀{n:Nat},k<n->(iF r n)[k]? =some (aP (r.getD k (0,0)) (c6 r k))
 |0,h=>by omega
 |n+1,h=>by
  rw[iF];by_cases e:k=n
  ·subst e
   rw[fM (by rw[AE];omega),AE,Nat.sub_self];rfl
  ·rw[dQ (by rw[AE];omega)]
   exact KL (by omega)
def JL(l:List aH):dG 17 (l.map cp):=fun d hd=>by
 obtain⟨x,_,rfl⟩:=bZ.1 hd;exact⟨J,J⟩
def Rw{L:List aH}{k:Nat}{l:aH}(h:L[k]? =some l):((L.take k).map cp)++[cp l]=(L.take (k+1)).map cp:=by
 rw[dW,h,cN];rfl
def Vh{r:List ZP}(h:b9 r):PF GB prog 88 [.sl ((r.map ZP.q).map eZ)] (.sl ((cP r).map cp)):=by
 have hn:=h.n6;obtain⟨v,hv⟩: ∃v,v=r.map ZP.q:=⟨_,rfl⟩;have hvl:v.length=r.length:=by rw[hv,aK]
 rw[<-hv];have hel:(cP r).length=r.length:=(qz h).1;have hrl:(nk v).length=r.length:=by unfold nk;rw[aK,lT,hvl]
 refine J' func88 J J ntmps88 J J (fun C h0=>?_);refine Pn J J J L3 (fun _=>J) (fun GB1 pv hg1 hpv=>?_);refine Vl 3 0 50 130 17 J J J J J ?_;refine F' 3 2000003 h0.fx J ?_;refine N4 (σ:=Empty) (fun k=>[(2000003,some (.o 96 [.rw 50] true)),(50,some (.b 130 17 (((cP r).take k).map cp) true))]) (fun _=>True) (fun _=>[]) (fun _=>False) [(3, .ov 2000003 0)]
  h0 J (MG (by omega)) (.cons hpv .nil) ⟨J,trivial⟩ J ⟨J,J,trivial⟩ trivial LF J J (fun k e GB' hE hg hp=>?_) (fun D hD hx hp=>?_) (fun D s hD hx hq=>hq.elim)
 ·obtain⟨p,q,hpx,hqx,rfl⟩:=ML hE
  rw[hvl] at hqx;rw[hv] at hpx hqx;obtain⟨hk,rfl⟩:=BX hpx;obtain⟨hk2,rfl⟩:=BX hqx;have hx:(cP r)[k]? =some (aP (r.getD k (0,0)) (c6 r k)):=KL hk;have hml:(((cP r).take k).map cp).length=k:=by rw[aK,cJ];omega
  refine⟨?_,?_,fun C2=>?_,fun C2=>?_⟩
  rotate_left 2
  ·refine gx J<|J7 J J J ⟨J,J,J⟩ J ?_
   exact atR
  ·refine gx J<|Aw 0 (e:=103) (len:=2) (s:=6) J (by kernel_rfl) (by kernel_rfl) (by decide) J<|Aw 1 (e:=103) (len:=2) (s:=6) J (by kernel_rfl) (by kernel_rfl) (by decide) J<|?_
   refine cl J (QF (h.le _ (u9 hk)) (h.le _ (wx hk)) (h.ne k hk)) J<|?_;refine rf J J<|ap (((cP r).take (k+1)).map cp) J (Rw hx) (JL [aP (r.getD k (0,0)) (c6 r k)]) J<|?_;refine gr 23 50 J ?_;exact rq trivial ⟨J,J,trivial⟩
 ·rw[hrl,<-hel,dX]
  refine gx J<|?_;refine mf 50 J ?_;exact JK hD hx J J
def ZF{a i:Nat}[h:BN a i](hi:i<=1000000000:=by decide):PF GB prog 243 [dN a] (.v (.bool true)):=
 (Kh (ds:=dg a) (d8 _).2.1 (by have:=lu (a:=a) hi;omega)).to (by unfold vB;rw[decide_eq_true (d8 a).2.2])
def KT{q:Rat}{i:Nat}[hq:BQ q i](hi:i<=1000000:=by decide):PF GB prog 223 [eR q] (.v (.bool true)):=by
 have hd:=q.den_pos;have hdl:0<(dg q.den).length:=fL fun e=>by have:=tO.1 e;omega
 have hml:((dg q.den).map dU).length=(dg q.den).length:=aK ..;have hco:Nat.gcd q.num.natAbs q.den=1:=q.reduced;refine fn func223 J J ntmps223 J J (fun C=>?_);refine cl (fu:=⟨0⟩) J (Yp (m:=q.num) (i:=i) (h:=⟨hq.hn⟩) (by omega)) J<|?_;refine mt 5 J ?_;refine gx J<|cl (fu:=⟨0⟩) J (ZF (a:=q.den) (i:=i) (h:=⟨hq.hd⟩) (by omega)) J<|?_;refine mt 10 J ?_;refine gx (fu:=⟨6⟩) J<|gw J (by show some (decide _)=some false;rw[decide_eq_false (by omega)]) J<|cl (fu:=⟨0⟩) J (HY (a:=q.num.natAbs) (b:=q.den) (i:=i) (j:=i) (h:=⟨hq.hn⟩) (k:=⟨hq.hd⟩) (by omega) (by omega)) J<|?_;refine aj 24 (.d (dN 1)) J (by rw[hco]) ?_;refine gx J<|cl J (s4 (a:=1) (i:=1) (h:=⟨by decide⟩)) J<|?_;exact rz J J
def R3{p:aa}{i:Nat}[hp:aq p i](hi:i<=1000000:=by decide):PF GB prog 185 [i9 p] (.v (.bool true)):=by
 refine fn func185 J J ntmps185 J J (fun C=>?_);refine cl (fu:=⟨0⟩) J (KT (q:=p.x) (i:=i) (by omega)) J<|?_;refine mt 5 J ?_;refine gx J<|cl J (KT (q:=p.y) (i:=i) (by omega)) J<|?_;exact rz J J
def Oe{m n:Int}(hm:m.natAbs<=1000000)(hn:n.natAbs<=1000000):PF GB prog 34 [vI m,vI n] (i9 (iP m n)):=by
 haveI:=ie hm;haveI:=ie hn;haveI:aq (iP m n) 22:=⟨ie hm,ie hn⟩;refine fn func34 J J ntmps34 J J (fun C=>?_);refine cl J (yo (m:=m) (by omega)) J<|cl J (yo (m:=n) (by omega)) J<|cl J (aAd (p:=iP m n) (i:=22)) J<|?_;exact rz J J
def lB(l:List aa)(p:aa):Int:=match l.findIdx? (fun q=>decide (q.x=p.x/\q.y=p.y)) with
 |some i=>(i:Nat)
 |none=> -1
def Bd{l:List aa}{p q:aa}{k:Nat}(hx:l[k]? =some q)(h:(l.take k).all (fun q=>!decide (q.x=p.x/\q.y=p.y))=true)(hq:q.x=p.x/\q.y=p.y):lB l p=(k:Nat):=by
 have hk:=(aM.1 hx).1;have e:l.findIdx? (fun q=>decide (q.x=p.x/\q.y=p.y))=some k:=by
  rw[List.findIdx?_eq_some_iff_getElem];refine⟨hk,?_,fun j hj=>?_⟩
  ·rw[(aM.1 hx).2];exact decide_eq_true hq
  ·have:=eK.1 h l[j] (by rw[List.mem_take_iff_getElem];exact⟨j,by omega,J⟩)
   simp at this⊢;intro a b;rcases this with k|k
   ·exact k a
   ·exact k b
 unfold lB;rw[e]
def Vk{l:List aa}{p:aa}(h:l.all (fun q=>!decide (q.x=p.x/\q.y=p.y))=true):lB l p= -1:=by
 have e:l.findIdx? (fun q=>decide (q.x=p.x/\q.y=p.y))=none:=by
  rw[List.findIdx?_eq_none_iff];intro x hx;have:=eK.1 h x hx;simp at this⊢;intro a b;rcases this with k|k
  ·exact k a
  ·exact k b
 unfold lB;rw[e]
def TM{l:List aa}{k:Nat}{q:aa}{g:aa->Bool}(hx:l[k]? =some q)(h:(l.take k).all g=true)(hq:g q=true):(l.take (k+1)).all g=true:=by
 rw[dW,hx,List.all_append,h];simp[hq]
def QR{l:List aa}{p:aa}{i:Nat}[hp:aq p i](hl: ∀q∈l,aq q i)(hn:l.length<=100000)(hi:i<=1000000:=by decide):PF GB prog 187 [.sl (l.map eZ),eZ p] (vI (lB l p)):=by
 have hml:(l.map eZ).length=l.length:=aK ..;refine fn (fu:=⟨11⟩) func187 J J ntmps187 J J (fun C=>?_);refine aj 8 (.d (vI (l.length:Nat))) J (by rw[hml]<;>rfl) ?_;refine gx J<|?_;refine lp (X:=Nat) (fun k=>[(9, .d (vI (k:Nat)))]) (fun k=>[]) (fun k=>k<=l.length/\(l.take k).all (fun q=>!decide (q.x=p.x/\q.y=p.y))=true) (fun k=>l.length-k) 0 J ⟨bN _,J⟩ (fun _=>J) (fun k hk=>?_);obtain⟨hk,hall⟩:=hk;refine br J J J (fun hc10=>?_) (fun hc10=>?_)
 .
  obtain⟨q,hx⟩: ∃u,l[k]? =some u:=⟨_,aZ (by omega)⟩;haveI:=hl q (aS hx);refine ix _ J (ee hx) J<|cl J (Oj (p:=q) (q:=p) (i:=i) hi) J<|?_;refine bd J J J (fun hc16=>?_) (fun hc16=>?_)
  .
   exact rz J (by rw[Bd hx hall hc16];rfl)
  .
   exact at_ (k+1) ⟨⟨by omega,TM hx hall (by rw[decide_eq_false hc16];rfl)⟩,(by omega)⟩
 .
  obtain rfl:k=l.length:=by omega
  rw[dX] at hall;exact rz J (by rw[Vk hall];rfl)
def d7(l:List aa):Nat->Nat
 |0=>0
 |k+1=>d7 l k+if lB l (l.getD k ⟨0,0⟩)=(k:Nat) then 1 else 0
def jp(l:List aa)(k:Nat):Nat:=if 3<=d7 l k then 3 else d7 l k
def Q1{l:List aa}{k:Nat}(h:jp l k<3)(e:d7 l (k+1)=d7 l k+1):((jp l k:Nat):Int)+1=((jp l (k+1):Nat):Int):=by
 have a:jp l k=if 3<=d7 l k then 3 else d7 l k:=J
 have b:jp l (k+1)=if 3<=d7 l (k+1) then 3 else d7 l (k+1):=J
 split at a<;>split at b<;>omega
def MZ{l:List aa}{k:Nat}(h: ¬jp l k<3\/d7 l (k+1)=d7 l k)(m:d7 l k<=d7 l (k+1)):((jp l k:Nat):Int)=((jp l (k+1):Nat):Int):=by
 have a:jp l k=if 3<=d7 l k then 3 else d7 l k:=J
 have b:jp l (k+1)=if 3<=d7 l (k+1) then 3 else d7 l (k+1):=J
 split at a<;>split at b<;>omega
def Vx(l:List aa)(k:Nat):jp l k<=3:=by unfold jp;split<;>omega
def W4{l:List aa}{k:Nat}(h:3<=d7 l k):jp l k=3:=by unfold jp;rw[if_pos h]
def B6{l:List aa}{k:Nat}{p:aa}(hx:l[k]? =some p)(h:lB l p=(k:Nat)):d7 l (k+1)=d7 l k+1:=by
 rw[d7,aX,hx,gK,if_pos h]
def UD{l:List aa}{k:Nat}{p:aa}(hx:l[k]? =some p)(h: ¬lB l p=(k:Nat)):d7 l (k+1)=d7 l k:=by
 rw[d7,aX,hx,gK,if_neg h];rfl
def Ka{l:List aa}{k:Nat}:d7 l k<=d7 l (k+1):=by rw[d7];split<;>omega
def aq4{v:List aa}{k:Nat}{p:aa}(h:v[k]? =some p):((v.take k).map eZ)++[eZ p]=(v.take (k+1)).map eZ:=by
 rw[dW,h,cN];rfl
def Zh{r:List ZP}(h:b9 r){k:Nat}(hk:k<r.length):decide ((r.getD k (0,0)).q.x=(c6 r k).q.x/\(r.getD k (0,0)).q.y=(c6 r k).q.y)=false:=decide_eq_false fun e=>h.ne k hk (wH (by
 obtain⟨e1,e2⟩:=e;generalize (r.getD k (0,0)).q=a at*;generalize (c6 r k).q=b at*
 cases a;cases b
 simp only[aa.mk.injEq];exact⟨e1,e2⟩))
def ZS{r:List ZP}(h:b9 r)(h3:3<=d7 (r.map ZP.q) (r.map ZP.q).length):PF GB prog 135 [ky r] (.tp [.sl ((r.map ZP.q).map eZ), .v .nilIface]):=by
 have hn:=h.n6;obtain⟨v,hv⟩: ∃v,v=r.map ZP.q:=⟨_,rfl⟩;have hvl:v.length=r.length:=by rw[hv,aK]
 have hb: ∀p∈v,aq p 22:=fun p hp=>by rw[hv] at hp;obtain⟨z,hz,rfl⟩:=bZ.1 hp;exact tW (h.le z hz)
 unfold ky;rw[<-hv] at h3⊢;have hm1:(v.map i9).length=v.length:=aK ..;have hm2:(v.map eZ).length=v.length:=aK ..;have hrl:(nk v).length=v.length:=by unfold nk;rw[aK,lT]
 refine J' (fu:=⟨11⟩) func135 J J ntmps135 J J (fun C h0=>?_);refine aj 13 (.d (vI (v.length:Nat))) J (by rw[hm1]<;>rfl) ?_;refine gx (fu:=⟨0⟩) J<|gw (fu:=⟨15⟩) J (by show some (decide _)=some false;rw[decide_eq_false (by omega)]) J<|?_;refine aj 20 (.d (vI (v.length:Nat))) J (by rw[hm1]<;>rfl) ?_;refine gx J<|?_;refine nr 4 4 103 6 J J J ?_;refine lp (X:=Nat) (fun k=>[(21, .d (vI (k:Nat))),(4, .rw 4)]) (fun k=>[(4,some (.b 103 6 ((v.take k).map eZ) true))]) (fun k=>k<=v.length) (fun k=>v.length-k) 0 J (bN _) (fun _=>J) (fun k hk=>?_);have hm3:((v.take k).map eZ).length<=k:=by rw[aK,cJ];omega
 refine br (fu2:=⟨0⟩) J J J (fun hc22=>?_) (fun hc22=>?_)
 .
  obtain⟨p,hx⟩: ∃u,v[k]? =some u:=⟨_,aZ (by omega)⟩;haveI:=hb p (aS hx);refine ix _ J (ee hx) J<|cl (fu:=⟨0⟩) J (R3 (p:=p) (i:=22)) J<|?_;refine mt 27 J ?_;refine gx J<|cl J (Cy (p:=p) (i:=22)) J<|rf J J<|ap ((v.take (k+1)).map eZ) J (aq4 hx) (uU [p]) J<|?_;refine gr 41 4 J ?_;exact at_ (k+1) ⟨(by omega),(by omega)⟩
 .
  obtain rfl:k=v.length:=by omega
  rw[dX];refine yu 4 J ?_;refine gx (fu:=⟨15⟩) J<|?_;refine aj 44 (.d (vI (v.length:Nat))) J (by rw[hm2]<;>rfl) ?_;refine gx J<|?_;refine lp (X:=Nat) (fun k=>[(45, .d (vI (k:Nat))),(7, .d (vI ((jp v k):Nat)))]) (fun k=>[]) (fun k=>k<=v.length) (fun k=>v.length-k) 0 J (bN _) (fun _=>J) (fun k hk=>?_);have hdm:=Vx v k;refine br (fu2:=⟨9⟩) J J J (fun hc46=>?_) (fun hc46=>?_)
  .
   obtain⟨p,hx⟩: ∃u,v[k]? =some u:=⟨_,aZ (by omega)⟩;haveI:=hb p (aS hx);have hcm:=Ka (l:=v) (k:=k);refine ix _ J (ee hx) J<|?_;refine cs 52 J J J (fun hg52=>?_) (fun hg52=>?_)
   .
    refine cl J (QR (l:=v) (p:=p) (i:=22) hb (by omega)) J<|?_;refine br J J J (fun hc58=>?_) (fun hc58=>?_)
    .
     have he7:=Q1 (by omega) (B6 hx (by omega));refine aj 7 (.d (vI (jp v (k+1):Nat))) J (by rw[he7]<;>rfl) ?_;exact at_ (k+1) ⟨(by omega),(by omega)⟩
    .
     have he7:=MZ (.inr (UD hx (by omega))) hcm;refine aj 7 (.d (vI (jp v (k+1):Nat))) J (by rw[he7]<;>rfl) ?_;exact at_ (k+1) ⟨(by omega),(by omega)⟩
   .
    have he7:=MZ (l:=v) (k:=k) (.inl (by omega)) hcm;refine aj 7 (.d (vI (jp v (k+1):Nat))) J (by rw[he7]<;>rfl) ?_;exact at_ (k+1) ⟨(by omega),(by omega)⟩
  .
   obtain rfl:k=v.length:=by omega
   have hd3:=W4 h3;refine gw (fu:=⟨9⟩) J (by show some (decide _)=some false;rw[decide_eq_false (by omega)]) J<|?_;refine Pn J J J L3 (fun _=>J) (fun GB1 pv hg1 hpv=>?_);refine F' 2 2000002 h0.fx J<|F' 3 2000003 h0.fx J ?_;refine N4 (σ:=Empty) (fun _=>[(2000002,some (.o 164 [.nl] true)),(2000003,some (.o 51 [.d (.v .nilIface)] true))]) (fun _=>True) (fun _=>[]) (fun _=>False) [(2, .ov 2000002 0),(3, .ov 2000003 0),(4, .d (.sl (v.map eZ)))] h0 J (MG (by omega)) (.cons hpv .nil) ⟨J,J,J,trivial⟩ J ⟨J,J,trivial⟩ trivial LF J J (fun k e GB' hE hg hp=>?_) (fun D hD hx hp=>?_) (fun D s hD hx hq=>hq.elim)
   ·obtain⟨p,q,hpx,hqx,rfl⟩:=ML hE
    rw[hvl] at hqx;rw[hv] at hpx hqx;obtain⟨hk,rfl⟩:=BX hpx;obtain⟨hk2,rfl⟩:=BX hqx;haveI:=tW (h.le _ (u9 hk));haveI:=tW (h.le _ (wx hk));have hne:=Zh h hk;refine⟨?_,?_,fun C2=>?_,fun C2=>?_⟩
    rotate_left 2
    ·refine gx J<|J7 J J J ⟨J,J,J⟩ J ?_
     exact atR
    ·refine gx J<|Aw 0 (e:=103) (len:=2) (s:=6) J (by kernel_rfl) (by kernel_rfl) (by decide) J<|Aw 1 (e:=103) (len:=2) (s:=6) J (by kernel_rfl) (by kernel_rfl) (by decide) J<|?_
     refine cl J (Oj (p:=(r.getD k (0,0)).q) (q:=(c6 r k).q) (i:=22)) J<|?_;refine bd J J J (fun hc=>absurd (decide_eq_true hc) (by rw[hne];decide)) (fun hc=>?_);exact rq trivial ⟨J,J,trivial⟩
   ·refine gx J<|?_
    exact JK hD hx J J
structure jl (r:List ZP):Prop where
 ok:b9 r
 c3:3<=d7 (r.map ZP.q) (r.map ZP.q).length
def rh(r:List ZP):DV:= .sl ((r.map ZP.q).map eZ)
def VL(l:List (List ZP)):dG 1 (l.map rh):=fun d hd=>by
 obtain⟨x,_,rfl⟩:=bZ.1 hd;exact⟨J,J⟩
def SI{L:List (List ZP)}{k:Nat}{l:List ZP}(h:L[k]? =some l):((L.take k).map rh)++[rh l]=(L.take (k+1)).map rh:=by
 rw[dW,h,cN];rfl
def WX{L:List (List ZP)}{k:Nat}{l:List ZP}(h:L[k]? =some l):((bO (L.take k)).map cp)++((cP l).map cp)=(bO (L.take (k+1))).map cp:=by
 rw[Jk h,cN]
def Z6{rs:List (List ZP)}(h: ∀r∈rs,jl r)(hn:rs.length<=200):PF GB prog 87 [.sl (rs.map ky)] (.tp [.sl (rs.map rh), .v .nilIface]):=by
 have hml:(rs.map ky).length=rs.length:=aK ..;refine fn (fu:=⟨11⟩) func87 J J ntmps87 J J (fun C=>?_);refine aj 10 (.d (vI (rs.length:Nat))) J (by rw[hml]<;>rfl) ?_;refine gx (fu:=⟨0⟩) J<|gw (fu:=⟨15⟩) J (by show some (decide _)=some false;rw[decide_eq_false (by omega)]) J<|?_;refine aj 17 (.d (vI (rs.length:Nat))) J (by rw[hml]<;>rfl) ?_;refine gx J<|?_;refine nr 4 4 164 1 J J J ?_;refine lp (X:=Nat) (fun k=>[(18, .d (vI (k:Nat))),(4, .rw 4)]) (fun k=>[(4,some (.b 164 1 ((rs.take k).map rh) true))]) (fun k=>k<=rs.length) (fun k=>rs.length-k) 0 J (bN _) (fun _=>J) (fun k hk=>?_);have hm3:((rs.take k).map rh).length<=k:=by rw[aK,cJ];omega
 refine br J J J (fun hc19=>?_) (fun hc19=>?_)
 .
  obtain⟨r,hx⟩: ∃u,rs[k]? =some u:=⟨_,aZ (by omega)⟩;have hr:=h r (aS hx);refine ix _ J (ee hx) J<|cl (fu:=⟨11⟩) J (ZS hr.ok hr.c3) J<|gw J J J<|rf J J<|ap ((rs.take (k+1)).map rh) J (SI hx) (VL [r]) J<|?_;refine gr 33 4 J ?_;exact at_ (k+1) ⟨(by omega),(by omega)⟩
 .
  obtain rfl:k=rs.length:=by omega
  rw[dX];refine mf 4 J ?_;exact rz J J
def Eh{rs:List (List ZP)}(h: ∀r∈rs,jl r)(hn:rs.length<=200):PF GB prog 42 [.sl (rs.map ky)] (.tp [.sl ((bO rs).map cp), .v .nilIface]):=by
 have hml:(rs.map rh).length=rs.length:=aK ..;refine fn func42 J J ntmps42 J J (fun C=>?_);refine cl (fu:=⟨11⟩) J (Z6 h hn) J<|gw (fu:=⟨15⟩) J J J<|?_;refine aj 18 (.d (vI (rs.length:Nat))) J (by rw[hml]<;>rfl) ?_;refine gx J<|?_;refine nr 6 6 130 17 J J J ?_;refine lp (X:=Nat) (fun k=>[(19, .d (vI (k:Nat))),(6, .rw 6)]) (fun k=>[(6,some (.b 130 17 ((bO (rs.take k)).map cp) true))]) (fun k=>k<=rs.length) (fun k=>rs.length-k) 0 J (bN _) (fun _=>J) (fun k hk=>?_);have hm5:=DG (fun r hr=>(h r hr).ok) k;have hm3:((bO (rs.take k)).map cp).length<=6*k:=by rw[aK];exact DG (fun r hr=>(h r hr).ok) k
 refine br J J J (fun hc20=>?_) (fun hc20=>?_)
 .
  obtain⟨r,hx⟩: ∃u,rs[k]? =some u:=⟨_,aZ (by omega)⟩;have hr:=h r (aS hx);have hel:=(qz hr.ok).1;have hn6:=hr.ok.n6;have hm4:((cP r).map cp).length=(cP r).length:=aK ..;refine ix _ J (ee hx) J<|cl J (Vh hr.ok) J<|ap ((bO (rs.take (k+1))).map cp) J (WX hx) (JL (cP r)) J<|?_;refine gr 26 6 J ?_;exact at_ (k+1) ⟨(by omega),(by omega)⟩
 .
  obtain rfl:k=rs.length:=by omega
  rw[dX];refine mf 6 J ?_;exact rz J J
def FU{rs:List (List ZP)}(h: ∀r∈rs,jl r)(hn:rs.length<=200):(bO rs).length<=1200:=by
 have:=(mF fun r hr=>(h r hr).ok).1;omega
def H4(rs:List (List ZP))(p:aa):Bool:=(bO rs).any fun f=>gI f p
def Wt{fill n:Int}:PF GB prog 8 [vI fill,vI n] (vB (jr fill n)):=by
 refine fn func8 J J ntmps8 J J (fun C=>?_);refine br J J J (fun hc6=>?_) (fun hc6=>?_)
 .
  exact rz J (by show DV.v (.bool _)= .v (.bool _);unfold jr;simp_all)
 .
  refine br J J J (fun hc11=>?_) (fun hc11=>?_)
  .
   exact rz J (by show DV.v (.bool _)= .v (.bool _);unfold jr;simp_all)
  .
   exact rz J (by show DV.v (.bool _)= .v (.bool _);unfold jr;simp_all)
def Xu{rs:List (List ZP)}(h: ∀r∈rs,jl r)(hn:rs.length<=200){p:aa}{i:Nat}[hp:aq p i](hno:H4 rs p=false)(hi:i<=100000:=by decide):PF GB prog 25 [.sl (rs.map ky),i9 p] (.tp [vI (fy (bO rs) p), .v .nilIface]):=by
 have hel:=FU h hn;have hfe:=O0 fun r hr=>(h r hr).ok;refine fn func25 J J ntmps25 J J (fun C=>?_);refine cl J (Eh h hn) J<|cl (fu:=⟨9⟩) J (Cy (p:=p) (i:=i) (by omega)) J<|gw J J J<|cl (fu:=⟨0⟩) J (VF (E:=bO rs) hfe (by omega) (p:=p) (i:=i) hi) J<|?_;refine aj 23 (.d (vB false)) J (by rw[show(bO rs).any (fun f=>gI f p)=false from hno]) ?_;refine ui 23 J ?_;refine gx J<|cl J (NO (E:=bO rs) hfe (by omega) (p:=p) (i:=i) hi) J<|?_;exact rz J J
end Go.Sx
end
