import Derived.Test.YthhjilnhmkheeaaGreatDoorMr20
import Derived.Shelf.SlSortCmp.NoneTotal
import Derived.Test.YthhjilnhmkheeaaGreatDoorProg
set_option linter.all false
set_option maxHeartbeats 4000000
set_option maxRecDepth 100000
section
namespace Go.Sx
open Go Go.Proofs Tryz
variable {GB:Gh}
def Cv(r:List ZP):Bool:=(List.range r.length).all fun i=>(List.range r.length).all fun k=>!decide (i<k)||jh r i k
def s7{r:List ZP}:Cv r=true↔ ∀i k,i<k->k<r.length->jh r i k=true:=by
 unfold Cv;simp only[cN,dS,fU,fM,decide_eq_false_iff_not];constructor
 .exact fun h i k h1 h2=>(h i we k h2).resolve_left (fun q=>q h1)
 .intro h i hi k hk
  by_cases e:i<k
  .exact .inr (h i k e hk)
  .exact .inl e
def vx{r:List ZP}{i k:Nat}(hik:i<k)(hk:k<r.length)(h:jh r i k=false):Cv r=false:=by
 rw[<-nX,s7];intro e;have:=e i k hik hk;rw[h] at this;cases this
def Ah(r:List ZP): ∀n,(oa r n).length=n
 |0=>rfl
 |n+1=>by rw[oa,aR,Ah r n];rfl
def Bz{r:List ZP}{k:Nat}: ∀{n:Nat},k<n->(oa r n)[k]? =some (cB r k)
 |0,h=>by omega
 |n+1,h=>by
  rw[oa];by_cases e:k=n
  .subst e
   rw[fL (by rw[Ah];omega),Ah,tJ];rfl
  .rw[dY (by rw[Ah];omega)]
   exact Bz we
def Oo(r:List ZP):((kh r).map d8).length=r.length:=by rw[aK];exact Ah r _
def aJW{r:List ZP}{i k:Nat}(h:jv (cB r i) (cB r k)=true):jh r i k=false:=by unfold jh;rw[h];rfl
def VK{r:List ZP}{i k:Nat}(h:jv (cB r i) (cB r k)=false)(h2:jm (cB r i) (cB r k)=false):jh r i k=true:=by unfold jh;rw[h,h2];rfl
def Jq{r:List ZP}{i k:Nat}(h:jv (cB r i) (cB r k)=false)(h2:tO r i k=true):jh r i k=true:=by unfold jh;rw[h,h2,Bool.or_true];rfl
def z'{r:List ZP}{i k:Nat}(h:jm (cB r i) (cB r k)=true)(h2:tO r i k=false):jh r i k=false:=by unfold jh;rw[h,h2,Bool.not_true,sY,rM]
def aKF{r:List ZP}{i k:Nat}(h:k=i+1)(h2:qt (gE (cB r i) (cB r k)) (aC r k)=true):tO r i k=true:=by unfold tO;rw[decide_eq_true h,h2];rfl
def Qe{r:List ZP}{i k:Nat}(h:i=0)(h1:k+1=r.length)(h2:qt (gE (cB r i) (cB r k)) (aC r 0)=true):tO r i k=true:=by unfold tO;rw[decide_eq_true h,decide_eq_true h1,h2,Bool.and_true,Bool.and_true,Bool.or_true]
def y5{r:List ZP}{i k:Nat}(h:k=i+1->qt (gE (cB r i) (cB r k)) (aC r k)=false)(h2:i=0->k+1=r.length->qt (gE (cB r i) (cB r k)) (aC r 0)=false):tO r i k=false:=by
 unfold tO;rw[qQ];constructor
 .by_cases e:k=i+1
  .rw[h e,rM]
  .rw[decide_eq_false e];rfl
 .by_cases e:i=0/\k+1=r.length
  .rw[h2 e.1 e.2,rM]
  .by_cases e1:i=0
   .rw[decide_eq_false (fun q=>e ⟨e1,q⟩),rM,rL]
   .rw[decide_eq_false e1,rL,rL]
theorem WJ{v w v' w':ZP}(hv:ZP.le 100 v)(hw:ZP.le 100 w)(h:v≠w)(hv':ZP.le 100 v')(hw':ZP.le 100 w')(h':v'≠w'):aE (gE (cH v w) (cH v' w')) 1200:=by
 have hf:=yA hv hw h;have hg:=yA hv' hw' h';obtain⟨e1,e2,_⟩:=Cx h hf.sg.ok;haveI:=hf.ok.lb;haveI:=hg.ok.lb;have z:aE ⟨0,0⟩ 1200:=⟨BQ.zero1200,BQ.zero1200⟩;unfold gE yZ;rw[e1,e2];split
 .split
  .exact z
  .split
   .exact aE.mono (nE hv)
   .split
    .exact aE.mono (nE hw)
    .exact z
 .exact aE.mono (inferInstance:aE (c9 _ _) 772)
def Ft{p q:aa}{i j:Nat}[hp:aE p i][hq:aE q j](hi:i<=20000:=by decide)(hj:j<=20000:=by decide):PF GB prog 28 [eP p,eP q] (vB (qt p q)):=by
 refine fn func28 J J ntmps28 J J (fun C=>?_);refine cl J (lg (a:=p.x) (b:=q.x) (i:=i) (j:=j) we we) J<|cs 11 J J J (fun hg11=>?_) (fun hg11=>?_)
 .
  refine cl J (lg (a:=p.y) (b:=q.y) (i:=i) (j:=j) we we) J<|rz J (by rw[ou] at hg11;exact congrArg (fun z=>DV.v (.bool z)) (decide_eq_decide.2 (by rw[ou];simp[hg11])))
 .
  exact rz J (by rw[ou] at hg11;show DV.v (.bool false)=DV.v (.bool (decide _));rw[decide_eq_false (fun h=>hg11 h.1)])
theorem omm{p:Prop}(h:p:=by first|(rw[vx k1 hkr hok]<;>rfl)|(rw[s7.2 (fun j q h1 h2=>i2 j we q h1 h2)]<;>rfl)):p:=h
def X2{r:List ZP}(hr:bD r):PF GB prog 8 [.sl (r.map gP)] (vB (Cv r)):=by
 have h3:=hr.n3;have h6:=hr.n6;have hle:=hr.le;refine fn func8 J J ntmps8 J J (fun C=>?_);refine cl (fu:=⟨7⟩) J (H8 hr) J<|ah 14 (.d (vI (r.length:Nat))) J (by rw[Oo]<;>rfl)<|gx (fu:=⟨8⟩) J<|ah 16 (.d (vI (r.length:Nat))) J (by rw[Oo]<;>rfl)<|gx J<|lp (X:=Nat) (fun i=>[(17, .d (vI (i:Nat)))]) (fun i=>[]) (fun i=>i<=r.length/\ ∀j,j<i-> ∀q,j<q->q<r.length->jh r j q=true) (fun i=>r.length-i) 0 J ⟨bS _,fun j hj=>absurd hj we⟩ (fun _=>J) (fun i hk=>?_);obtain⟨i1,i2⟩:=hk;refine br J J J (fun hc18=>?_) (fun hc18=>?_)
 .
  have hir:i<r.length:=by omega
  refine lp (X:=Nat) (fun k=>[(6, .d (vI (k:Nat)))]) (fun k=>[]) (fun k=>i<k/\k<=r.length/\ ∀q,i<q->q<k->jh r i q=true) (fun k=>r.length-k) (i+1) J ⟨we,we,fun q h1 h2=>absurd h1 we⟩ (fun _=>J) (fun k hk=>?_);obtain⟨k1,k2,k3⟩:=hk;refine br J J J (fun hc24=>?_) (fun hc24=>?_)
  .
   have hkr:k<r.length:=by omega
   have ha:=hle _ (qv hir);have hb:=hle _ (xz hir);have hne:=hr.ne i hir;have ha':=hle _ (qv hkr);have hb':=hle _ (xz hkr);have hne':=hr.ne k hkr;have hfi:t8 (cB r i):=yA ha hb hne;have hfk:t8 (cB r k):=yA ha' hb' hne';haveI:aE (gE (cB r i) (cB r k)) 1200:=WJ ha hb hne ha' hb' hne';haveI:aE (aC r k) 12:=nE ha';haveI:aE (aC r 0) 12:=nE (hle _ (qv));refine ix _ J (dP (Bz hir)) J<|ix _ J (dP (Bz hkr)) J<|cl J (TA (f:=cB r i) (g:=cB r k) hfi hfk) J<|bb J J J (fun hc39=>?_) (fun hc39=>?_)
   .
    have hov:jv (cB r i) (cB r k)=true:=hc39;have hok:=aJW hov;exact rz J omm
   .
    have hov:jv (cB r i) (cB r k)=false:=by simpa using hc39
    refine ix _ J (dP (Bz hir)) J<|ix _ J (dP (Bz hkr)) J<|cl (fu:=⟨0⟩) J (XY (v:=r.getD i (0,0)) (w:=cj r i) (v':=r.getD k (0,0)) (w':=cj r k) ha hb hne ha' hb' hne') J<|ah 49 (.d (.tp [eP (gE (cB r i) (cB r k)),vB (jm (cB r i) (cB r k))])) J J<|gx J<|bb (fu2:=⟨9⟩) J J J (fun hc53=>?_) (fun hc53=>?_)
    .
     have hmt:jm (cB r i) (cB r k)=false:=by simpa using hc53
     have hok:=VK hov hmt;exact at_ (k+1) ⟨⟨we,we,fun q h1 h2=>by by_cases e:q=k;(subst e;exact hok);exact k3 q h1 we⟩,we⟩
    .
     have hmt:jm (cB r i) (cB r k)=true:=by simpa using hc53
     refine ji (fu2:=⟨10⟩) J J J J (fun hg58=>?_) (fun hg58=>?_)
     .
      refine ix _ J (vA hkr) J<|?_
      cases hq1:qt (gE (cB r i) (cB r k)) (aC r k)
      .
       refine cl (fu:=⟨1⟩) J (Ft (p:=gE (cB r i) (cB r k)) (q:=aC r k) (i:=1200) (j:=12)) J<|ew (fu:=⟨2⟩) J (by rw[hq1]<;>rfl) J<|ji (fu1:=⟨5⟩) (v2:=fun hg69=>by simp only[ae];kernel_rfl) J J J J (fun hg69=>?_) (fun hg69=>?_)
       .
        refine ji (v2:=fun hg75=>by simp only[ae];kernel_rfl) J J J J (fun hg75=>?_) (fun hg75=>?_)
        .
         refine ix _ J (vA (show 0<r.length by omega)) J<|cl J (Ft (p:=gE (cB r i) (cB r k)) (q:=aC r 0) (i:=1200) (j:=12)) J<|bb J J J (fun hc82=>?_) (fun hc82=>?_)
         .
          have hok:jh r i k=true:=Jq hov (Qe we we hc82);exact at_ (k+1) ⟨⟨we,we,fun q h1 h2=>by by_cases e:q=k;(subst e;exact hok);exact k3 q h1 we⟩,we⟩
         .
          have hq0:qt (gE (cB r i) (cB r k)) (aC r 0)=false:=by simpa using hc82
          have hok:jh r i k=false:=z' hmt (y5 (fun h=>hq1) (fun h h2=>hq0));exact rz J omm
        .
         have hok:jh r i k=false:=z' hmt (y5 (fun h=>hq1) (fun h h2=>absurd h2 we));exact rz J omm
       .
        have hok:jh r i k=false:=z' hmt (y5 (fun h=>hq1) (fun h h2=>absurd h we));exact rz J omm
      .
       have hok:jh r i k=true:=Jq hov (aKF we hq1);refine cl (fu:=⟨1⟩) J (Ft (p:=gE (cB r i) (cB r k)) (q:=aC r k) (i:=1200) (j:=12)) J<|d9 (hv:=by simp only[ae];exact⟨omd,we⟩) J (by rw[hq1]<;>rfl) J<|at_ (k+1) ⟨⟨we,we,fun q h1 h2=>by by_cases e:q=k;(subst e;exact hok);exact k3 q h1 we⟩,we⟩
     .
      refine ji (fu1:=⟨5⟩) (v2:=fun hg69=>by simp only[ae];kernel_rfl) J J J J (fun hg69=>?_) (fun hg69=>?_)
      .
       refine ji (v2:=fun hg75=>by simp only[ae];kernel_rfl) J J J J (fun hg75=>?_) (fun hg75=>?_)
       .
        refine ix _ J (vA (show 0<r.length by omega)) J<|cl J (Ft (p:=gE (cB r i) (cB r k)) (q:=aC r 0) (i:=1200) (j:=12)) J<|bb J J J (fun hc82=>?_) (fun hc82=>?_)
        .
         have hok:jh r i k=true:=Jq hov (Qe we we hc82);exact at_ (k+1) ⟨⟨we,we,fun q h1 h2=>by by_cases e:q=k;(subst e;exact hok);exact k3 q h1 we⟩,we⟩
        .
         have hq0:qt (gE (cB r i) (cB r k)) (aC r 0)=false:=by simpa using hc82
         have hok:jh r i k=false:=z' hmt (y5 (fun h=>absurd h we) (fun h h2=>hq0));exact rz J omm
       .
        have hok:jh r i k=false:=z' hmt (y5 (fun h=>absurd h we) (fun h h2=>absurd h2 we));exact rz J omm
      .
       have hok:jh r i k=false:=z' hmt (y5 (fun h=>absurd h we) (fun h h2=>absurd h we));exact rz J omm
  .
   obtain rfl:k=r.length:=by omega
   exact at_ (i+1) ⟨⟨we,fun j hj q h1 h2=>by by_cases e:j=i;(subst e;exact k3 q h1 we);exact i2 j we q h1 h2⟩,we⟩
 .
  obtain rfl:i=r.length:=by omega
  exact rz J omm
def Ya{G:Gh}{m:List Value}(h:IsLs G [vB false, .sl [], .sl []] m):IsLs G [.v (.bool (decide ((0:Rat).num<0))),dN (0:Rat).num.natAbs,dD (0:Rat).den] m:=by
 have:=aIa;unfold HK at this;rw[this];exact h
def W7{V:List aa}{k:Nat}{p q:aa}(h1:V[k]? =some p)(h2:V[(k+1)%V.length]? =some q):(iu V)[k]? =some (p,q):=by
 have hk:=(bQ.1 h1).1;unfold iu;rw[cV,oU hk];show some (V.getD k ⟨0,0⟩,V.getD ((k+1)%V.length) ⟨0,0⟩)=_;rw[aJ,aJ,h1,h2];rfl
def Uq{v:List aa}{i m:Nat}(hb: ∀p∈v,aE p i)(hi:i<=80000)(hn:v.length<=1000000)(hs: ∀k,BQ (aB (fun x=>x.1.cross x.2) ((iu v).take k)) m)(hm:m<=10000000):PF GB prog 49 [.sl (v.map eP)] (eQ (qc v)):=by
 have hm1:(v.map eP).length=v.length:=aK ..;have hpl:(iu v).length=v.length:=by unfold iu;rw[aK,pN]
 obtain⟨S,hS⟩: ∃S:Nat->Rat,S=fun k=>aB (fun x:aa×aa=>x.1.cross x.2) ((iu v).take k):=⟨_,rfl⟩;have hSk: ∀k,BQ (S k) m:=by rw[hS];exact hs
 have h00:S 0=0:=by rw[hS];rfl
 have hSn:S v.length=qc v:=by rw[hS];show aB _ ((iu v).take v.length)=_;rw[<-hpl,dV];rfl
 rw[<-hSn];refine fn (fu:=⟨15⟩) func49 J J ntmps49 J J (fun C=>?_);refine ah 7 (.d (vI (v.length:Nat))) J (by rw[hm1]<;>rfl)<|gx J<|imD 3 [.v (.bool (decide ((S 0).num<0))),dN (S 0).num.natAbs,dD (S 0).den] J J (fun G m=>by rw[h00];exact Ya) J<|lp (X:=Nat) (fun k=>[(8, .d (vI (k:Nat))),(3, .ov 3 0)]) (fun k=>[(3,some (.o 57 [.d (.v (.bool (decide ((S k).num<0)))), .d (dN (S k).num.natAbs), .d (dD (S k).den)] true))]) (fun k=>k<=v.length) (fun k=>v.length-k) 0 J (bS _) (fun _=>J) (fun k hk=>?_);haveI:=hSk k;refine br J J J (fun hc9=>?_) (fun hc9=>?_)
 .
  obtain⟨p,hx⟩: ∃u,v[k]? =some u:=⟨_,aZ we⟩;obtain⟨q,hy⟩: ∃u,v[(k+1)%v.length]? =some u:=⟨_,aZ (dQ _ we)⟩;haveI:=hb p (aT hx);haveI:=hb q (aT hy);have eS:S (k+1)=S k+p.cross q:=by rw[hS];exact wM _ (W7 hx hy)
  haveI hcr:BQ (p.cross q) (16*i+20):=BQ.mono (inferInstance:BQ (p.cross q) _) we;refine ix (fu:=⟨14⟩) _ J (dP hx) J<|ah 19 (.d (vI (v.length:Nat))) J (by rw[hm1]<;>rfl)<|gx (fu:=⟨1⟩) J<|ah 20 (.d (vI (((k+1)%v.length:Nat):Int))) J (by rw[<-avu]<;>rfl)<|gx J<|ix _ J (dP hy) J<|cl J (Ak (p:=p) (q:=q) (i:=i) (j:=i) we we) J<|cl (fu:=⟨0⟩) J (qf (a:=S k) (b:=p.cross q) (i:=m) (j:=16*i+20) we we) J<|ah 24 (.d (eQ (S (k+1)))) J (by rw[eS])<|gx (hv:=by simp only[ae];exact⟨omd,we⟩) J<|at_ (k+1) ⟨we,we⟩
 .
  obtain rfl:k=v.length:=by omega
  exact rz J J
def aF2{v:List aa}{i m:Nat}(hb: ∀p∈v,aE p i)(hi:i<=80000)(hn:v.length<=1000000)(hs: ∀k,BQ (aB (fun x=>x.1.cross x.2) ((iu v).take k)) m)(hm:m<=10000000):PF GB prog 15 [.sl (v.map eP)] (eQ (qc v*mkRat 1 2)):=by
 haveI har:BQ (qc v) m:=by have:=hs v.length;rwa [cZ (by unfold iu;simp)] at this
 have e2:qc v/2=qc v*mkRat 1 2:=by rw[Rat.div_def];exact congrArg _ okB
 refine fn func15 J J ntmps15 J J (fun C=>?_);refine cl J (Uq (m:=m) hb hi hn hs hm) J<|cl J (Fz (a:=qc v) (i:=m) we) J<|rz J (by rw[e2]<;>rfl)
def ZQ{c:au}(hc:bw c)(ha:dE c)(hb:dB c=true){n:aa}{m:Rat}(h0:n≠⟨0,0⟩)(hm: ∀v∈ge (c.map (·.l)),m<=n.dot v):3*m*fA aa.cross c<fA (fun p q=>n.dot (p.add q)*p.cross q) c:=by
 have hle:=ZO hc ha hb hm;by_cases h:3*m*fA aa.cross c<fA (fun p q=>n.dot (p.add q)*p.cross q) c
 .exact h
 exfalso;obtain⟨s0,hs0⟩: ∃s,s∈c:=by
  have hne:=(kv hb).1
  cases c with
  |nil=>exact absurd J hne
  |cons s t=>exact⟨s,aQ⟩
 obtain⟨o,ho⟩: ∃o,o=s0.l.at s0.v.lo:=⟨_,rfl⟩;have ov:m<=n.dot o:=by rw[ho];exact hm _ (AK hc ha hb hs0).1
 have oc:m6 c o:=by rw[ho];exact((hc.edge s0 hs0).2 _).1 (BC (hc.edge s0 hs0).1 ((kv hb).2 s0 hs0).1)
 have e:=MS hc ha hb n m o;have e0:aB (fun s:aI=>(n.dot (s.l.at s.v.lo)+n.dot (s.l.at s.v.hi)+n.dot o-3*m)*((s.v.hi-s.v.lo)*s.l.value o)) c=0:=by rw[e];grind
 have z: ∀s∈c,s.l.value o=0:=fun s hs=>by
  have k:=JK (fun s hs=>by
   obtain⟨e1,e2⟩:=AK hc ha hb hs;have a1:=hm _ e1;have a2:=hm _ e2;have a3:=yM hc hb hs;have a4:=oc s hs;exact bz omb (bz omb a4)) e0 s hs
  obtain⟨e1,e2⟩:=AK hc ha hb hs;have a1:=hm _ e1;have a2:=hm _ e2;have a3:=yM hc hb hs;rcases bX.1 k with k|k
  .-- all three on the line
   have l1:n.dot (s.l.at s.v.lo)=m:=by grind
   have l2:n.dot (s.l.at s.v.hi)=m:=by grind
   have l3:n.dot o=m:=by grind
   rw[KR s,UI,l1] at l2;have l4:n.dot s.l.dir=0:=by
    have:(s.v.hi-s.v.lo)*n.dot s.l.dir=0:=by grind
    exact(bX.1 this).resolve_left omb
   have h1:=jB (hc.ok s hs).ne s.v.lo;have hn:=q9 (hc.ok s hs).ne;rw[iC] at*;generalize s.l.at s.v.lo=q at*;obtain⟨nx,ny⟩:=n;have nz: ¬(nx=0/\ny=0):=fun q=>h0 (by rw[q.1,q.2]);unfold ab.dir aa.dot at l4;unfold aa.dot at l1 l3;unfold ab.nor aa.dot at hn;dsimp only at*;generalize (s.l.a:Rat)=a at*;generalize (s.l.b:Rat)=b at*;generalize (s.l.c:Rat)=w at*;have f1:nx*(o.x-q.x)+ny*(o.y-q.y)=0:=by grind
   have g1:nx*(a*(o.x-q.x)+b*(o.y-q.y))=0:=by grind
   have g2:ny*(a*(o.x-q.x)+b*(o.y-q.y))=0:=by grind
   have g3:a*(o.x-q.x)+b*(o.y-q.y)=0:=by
    rcases bX.1 g1 with k1|k1
    .exact(bX.1 g2).resolve_left fun k2=>nz ⟨k1,k2⟩
    .exact k1
   grind
  .exact(bX.1 k).resolve_left omb
 obtain⟨q,hq⟩:=hc.ne;have d0:=Pm hc ha hb (d:=⟨q.x-o.x,q.y-o.y⟩) fun s hs=>by
  rw[zg,z s hs];have:=hq s hs;grind
 have hv:=hq s0 hs0;have hz:=z s0 hs0;have:=zg s0.l q o;rw[d0,hz] at this;unfold aa.dot at this;grind
def aIQ(n:aa)(cs:List au):aB (fA fun p q=>n.dot (p.add q)*p.cross q) cs=n.x*aB (fA fun p q=>(p.x+q.x)*p.cross q) cs+n.y*aB (fA fun p q=>(p.y+q.y)*p.cross q) cs:=by
 rw[<-ze,<-ze,<-ze,<-xu,<-xu,<-xd];exact oq fun x _=>by unfold aa.dot aa.add;grind
def Vr{α:Type}{f g:α->Rat}: ∀{l:List α},(∀x∈l,f x<g x)->l≠[]->aB f l<aB g l
 |[],_,h=>absurd J h
 |a::t,h,_=>by
  have h1:=h a aQ;have h2:=Sk (f:=f) (g:=g) (l:=t) fun x hx=>aN (h x (aX a hx));show f a+aB f t<g a+aB g t;grind
def aAB{t:Tr}(ho:t.all ab.ok)(hbd:(bF t).all dB=true)(h0:bF t≠[]){v w:aa}(hne:v≠w)(hm: ∀c∈bF t,∀q∈ge (c.map (·.l)),0<=ak v w q):0<ak v w ((oF t).scale (iD t)⁻¹):=by
 have hA:0<iD t:=by
  rw[WV ho hbd];have hp:=OH (f:=xj) (l:=bF t) (fun c hc=>Tu (GH ho c hc) (Hu ho c hc) (cN.1 hbd c hc)) h0;exact bg hp okB
 obtain⟨m1,m2⟩:=YR t;have am:=Pz t;obtain⟨n,hn⟩: ∃n:aa,n=⟨-(w.y-v.y),w.x-v.x⟩:=⟨_,rfl⟩;have eo: ∀q,ak v w q=n.dot q-n.dot v:=fun q=>by rw[hn];unfold ak aa.dot;dsimp only;grind
 have n0:n≠⟨0,0⟩:=fun e=>by
  rw[hn] at e;simp only[aa.mk.injEq] at e;apply hne
  cases v;cases w
  simp only[aa.mk.injEq] at*;constructor<;>grind
 have low:3*n.dot v*aB (fA aa.cross) (bF t)<aB (fA fun p q=>n.dot (p.add q)*p.cross q) (bF t):=by
  rw[<-xu];exact Vr (fun c hc=>ZQ (GH ho c hc) (Hu ho c hc) (cN.1 hbd c hc) n0 fun q hq=>by have:=hm c hc q hq;rw[eo] at this;grind) h0
 rw[aIQ] at low;rw[eo];have e:(iD t)⁻¹*iD t=1:=by grind
 unfold aa.scale;generalize (iD t)⁻¹=k at*;generalize iD t=a at*;generalize aB (fA aa.cross) (bF t)=S at*;generalize aB (fA fun p q=>(p.x+q.x)*p.cross q) (bF t)=X at*;generalize aB (fA fun p q=>(p.y+q.y)*p.cross q) (bF t)=Y at*;generalize (oF t).x=mx at*;generalize (oF t).y=my at*;generalize n.dot v=m at*;have k0:0<k:=(gi (s:=k) hA).1 ozc;have h1:0<(n.x*mx+n.y*my)-m*a:=by rw[m1,m2,am];grind
 have h2:=bg k0 h1;unfold aa.dot;dsimp only;have e3:k*(n.x*mx+n.y*my-m*a)=n.x*(mx*k)+n.y*(my*k)-m:=by
  have:k*(m*a)=m:=by rw[show k*(m*a)=m*(k*a) by grind,e];grind
  grind
 have e4: ∀z:Rat,z*k=k*z:=fun z=>by grind
 grind
def Tt(x u:Rat)(h:u≠0): ∃T:Rat,0<=T/\(x+T*u< -100\/100<x+T*u):=by
 rcases cP u with k|k|k
 .exact absurd k h
 .by_cases hx:101<=x
  .exact⟨0,dX, .inr omb⟩
  .have e:(101-x)/u*u=101-x:=by grind
   have p:=div_pos (show 0<101-x by grind) k;exact⟨(101-x)/u,aN p, .inr (by rw[e];grind)⟩
 .by_cases hx:x<= -101
  .exact⟨0,dX, .inl omb⟩
  .have e:(101+x)/(-u)*(-u)=101+x:=by grind
   have p:=div_pos (show 0<101+x by grind) (show 0< -u by grind);refine⟨(101+x)/(-u),aN p, .inl ?_⟩;generalize (101+x)/(-u)=T at*;grind
def Cm(v w a b:aa)(t:Rat):ak v w (aA a b t)=(1-t)*ak v w a+t*ak v w b:=by unfold ak aA;grind
def Wz{a b p:aa}(hab:a≠b)(h:ak a b p=0): ∃s,p=aA a b s:=by
 have sq:=yr (uD hab);obtain⟨a1,a2⟩:=a;obtain⟨b1,b2⟩:=b;obtain⟨p1,p2⟩:=p;unfold ak at h;dsimp only at*;obtain⟨D,hD⟩: ∃D,D=(b1-a1)*(b1-a1)+(b2-a2)*(b2-a2):=⟨_,rfl⟩;rw[<-hD] at sq;refine⟨((p1-a1)*(b1-a1)+(p2-a2)*(b2-a2))/D,?_⟩;have e:=CF (a:=(p1-a1)*(b1-a1)+(p2-a2)*(b2-a2)) (b:=D) omb;generalize ((p1-a1)*(b1-a1)+(p2-a2)*(b2-a2))/D=s at*;have k1:(p1-a1-s*(b1-a1))*D=0:=by
  have:(p1-a1)*D=(b1-a1)*((p1-a1)*(b1-a1)+(p2-a2)*(b2-a2)):=by rw[hD];grind
  rw[<-e] at this;grind
 have k2:(p2-a2-s*(b2-a2))*D=0:=by
  have:(p2-a2)*D=(b2-a2)*((p1-a1)*(b1-a1)+(p2-a2)*(b2-a2)):=by rw[hD];grind
  rw[<-e] at this;grind
 have z1:=(bX.1 k1).resolve_right omb;have z2:=(bX.1 k2).resolve_right omb;unfold aA;rw[aa.mk.injEq];dsimp only;constructor<;>grind
section
variable {r:List ZP} (hr:bD r) (hcv:vt r=true)
include hr hcv
theorem yt{i:Nat}(hi:i<r.length):(∀k,k<r.length->0<=ak (aC r i) (bi r i) (aC r k))/\ ∀k,k<r.length->k≠i->k≠fP r i->0<ak (aC r i) (bi r i) (aC r k):=by
 have h: ∀k,k<r.length->k≠i->k≠fP r i->0<ak (aC r i) (bi r i) (aC r k):=fun k hk n1 n2=>by
  have:=cN.1 ((cN.1 hcv) i (dS.2 hi)) k (dS.2 hk);unfold jj at this;simp only[fU,decide_eq_true_eq] at this;rcases this with(k1|k1)|k1
  .exact absurd k1 n1
  .exact absurd k1 n2
  .rw[Nu] at k1
   exact(k9 _).1 k1
 refine⟨fun k hk=>?_,h⟩;by_cases n1:k=i
 .subst n1;unfold ak;grind
 .by_cases n2:k=fP r i
  .subst n2;rw[wL];unfold ak;grind
  .exact aN (h k hk n1 n2)
theorem SZ{f g:aa×aa}(hf:f∈fq r)(hg:g∈fq r):0<=ak f.1 f.2 g.1/\0<=ak f.1 f.2 g.2:=by
 obtain⟨i,hi,rfl⟩:=si hf;obtain⟨k,hk,rfl⟩:=si hg;exact⟨(yt hr hcv hi).1 k hk,(yt hr hcv hi).1 _ (u9 hk)⟩
theorem T'{p:aa}(h: ∃f∈fq r,ak f.1 f.2 p<0):cx r p=0:=by
 obtain⟨f,hf,hn⟩:=h;have hne:=uQ hr f hf;obtain⟨w,hw⟩: ∃w:aa,w=⟨f.2.y-f.1.y, -(f.2.x-f.1.x)⟩:=⟨_,rfl⟩;have sq:=yr (uD hne);have mv: ∀T,ak f.1 f.2 (av p w T)=ak f.1 f.2 p-T*((f.2.x-f.1.x)*(f.2.x-f.1.x)+(f.2.y-f.1.y)*(f.2.y-f.1.y)):=fun T=>by rw[wT,hw];dsimp only;grind
 obtain⟨T,T0,hT⟩: ∃T,0<=T/\Az 100 (av p w T):=by
  by_cases k:w.x=0
  .have:w.y≠0:=fun k2=>by
    rw[hw] at k k2;dsimp only at k k2;rw[show f.2.x-f.1.x=0 by grind,k] at sq;exact absurd sq okB
   obtain⟨T,T0,h⟩:=Tt p.y w.y this;exact⟨T,T0,h.elim (fun h=> .inr (.inr (.inl h))) fun h=> .inr (.inr (.inr h))⟩
  .obtain⟨T,T0,h⟩:=Tt p.x w.x k
   exact⟨T,T0,h.elim (fun h=> .inl h) fun h=> .inr (.inl h)⟩
 have hq:ak f.1 f.2 (av p w T)<0:=by rw[mv];have:=bz T0 (aN sq);grind
 have z:cx r (av p w T)=0:=by
  unfold cx;rw[tf];refine I2 (R:=100) (fun v hv=>?_) hT;obtain⟨h1,h2⟩:=hr.le v hv;have c: ∀z:Int,z.natAbs<=100-> -(100:Rat)<=(z:Rat)/\(z:Rat)<=100:=fun z hz=>by
   have a:((-100:Int):Rat)<=(z:Rat):=lS.2 we;have b:(z:Rat)<=((100:Int):Rat):=lS.2 we;exact⟨a,b⟩
  exact⟨(c _ h1).1,(c _ h1).2,(c _ h2).1,(c _ h2).2⟩
 rw[<-z];refine wb fun g hg s t s0 s1 t0 t1 e=>?_;obtain⟨c1,c2⟩:=SZ hr hcv hf hg;have a:0<=ak f.1 f.2 (aA g.1 g.2 s):=by
  rw[Cm];have:=bz (show 0<=1-s by grind) c1;have:=bz s0 c2;grind
 rw[e,Cm] at a;have m:=vd (show 0< -ak f.1 f.2 (av p w T) by grind) (show 0< -ak f.1 f.2 p by grind) t0 t1;grind
theorem aAb{p q:aa}(hp: ∀f∈fq r,0<ak f.1 f.2 p)(hq: ∀f∈fq r,0<ak f.1 f.2 q):cx r p=cx r q:=
 wb fun g hg s t s0 s1 t0 t1 e=>by
  have z:ak g.1 g.2 (aA g.1 g.2 s)=0:=Bi ⟨s,s0,s1,J⟩;rw[e,Cm] at z;have:=vd (hq g hg) (hp g hg) t0 t1;grind
theorem Yp:0<sk r r.length:=by
 have h3:=hr.n3;have D: ∀k,k<r.length->0<=ak (aC r 0) (aC r k) (bi r k):=fun k hk=>by
  have:=(yt hr hcv hk).1 0 we;have e:ak (aC r 0) (aC r k) (bi r k)=ak (aC r k) (bi r k) (aC r 0):=by unfold ak;grind
  rw[e];exact this
 have D1:0<ak (aC r 0) (aC r 1) (bi r 1):=by
  have e:ak (aC r 0) (aC r 1) (bi r 1)=ak (aC r 1) (bi r 1) (aC r 0):=by unfold ak;grind
  rw[e];refine(yt hr hcv (i:=1) we).2 0 we we fun k=>?_;unfold fP at k;rw[dZ we] at k;omega
 have key: ∀m,m<=r.length->0<=sk r m/\(2<=m->0<sk r m):=fun m=>by
  induction m with
  |zero=>intro _;exact⟨dX,fun h=>by omega⟩
  |succ m ih=>
   intro h;obtain⟨i1,i2⟩:=ih we;have:=D m we;have e:sk r (m+1)=sk r m+ak (aC r 0) (aC r m) (bi r m):=J;rw[e];refine⟨omb,fun h2=>?_⟩;by_cases hm:m=1
   .subst hm;grind
   .have:=i2 we;grind
 exact(key _ (bV _)).2 we
theorem aFw{p:aa}(hp: ∀f∈fq r,0<=ak f.1 f.2 p){f:aa×aa}(hf:f∈fq r)(hz:ak f.1 f.2 p=0):f9 f.1 f.2 p:=by
 have h3:=hr.n3;have hab:=uQ hr f hf;obtain⟨i,hi,rfl⟩:=si hf;dsimp only at*;obtain⟨s,rfl⟩:=Wz hab hz
 -- the edge behind
 have n1:fP r i≠i:=LQ hr hi;have v1:=(yt hr hcv (u9 hi)).2 i hi (fun e=>n1 e.symm) (fun e=>by
  unfold fP at e;have:r.length=3\/3<r.length:=by omega
  by_cases k1:i+1<r.length
  .rw[dZ k1] at e
   by_cases k2:i+2<r.length
   .rw[dZ k2] at e;omega
   .rw[show i+1+1=r.length by omega,lX] at e;omega
  .rw[show i+1=r.length by omega,lX,dZ we] at e;omega)
 have p1:=hp _ (Ci (u9 hi));dsimp only at p1;rw[Cm,wL] at p1;rw[wL] at v1;have z1:ak (bi r i) (bi r (fP r i)) (bi r i)=0:=by unfold ak;grind
 rw[z1] at p1;have s1:s<=1:=by
  have:=(ja (s:=1-s) v1).1 omb;grind
 -- the edge ahead
 obtain⟨j,hj,ej⟩: ∃j,j<r.length/\fP r j=i:=by
  unfold fP;by_cases k:i=0
  .exact⟨r.length-1,we,by rw[show r.length-1+1=r.length by omega,lX,k]⟩
  .exact⟨i-1,we,by rw[show i-1+1=i by omega,dZ hi]⟩
 have ea:bi r j=aC r i:=by rw[<-ej];rfl
 have v2:=(yt hr hcv hj).2 (fP r i) (u9 hi) (fun e=>by
  have:fP r (fP r i)=i:=by rw[e];exact ej
  unfold fP at this;by_cases k1:i+1<r.length
  .rw[dZ k1] at this
   by_cases k2:i+2<r.length
   .rw[dZ k2] at this;omega
   .rw[show i+1+1=r.length by omega,lX] at this;omega
  .rw[show i+1=r.length by omega,lX,dZ we] at this;omega) (fun e=>n1 (by rw[e];exact ej))
 rw[wL,ea] at v2;have p2:=hp _ (Ci hj);dsimp only at p2;rw[Cm,ea] at p2;have z2:ak (aC r j) (aC r i) (aC r i)=0:=by unfold ak;grind
 rw[z2] at p2;have s0:0<=s:=(ja v2).1 omb;exact⟨s,s0,s1,J⟩
theorem YB(hs:kA r):H5 r/\bF (d7 [r] 1)≠[]:=by
 have hr1: ∀x∈[r],bD x:=fun x hx=>by rw[aV.1 hx];exact hr
 have hb:(d7 [r] 1).all ab.ok:=Tr.restrict_all ab.ok _ _ (qm hr1);have h0:=OR hb (xt hb (Ad hr1));have tw:=Yp hr hcv;rw[N1 hr] at tw;have h1:(∀p,qH r p->cx r p=0\/cx r p=1)/\0<f8 aa.cross (d7 [r] 1) []:=by
  rcases Js hr hs with h|h
  .have e:(1:Rat)*f8 aa.cross (d7 [r] 1) []=pP r r.length:=CP hr h (.inl J)
   exact⟨h,omb⟩
  .exfalso
   have e:((-1:Int):Rat)*f8 aa.cross (d7 [r] 1) []=pP r r.length:=CP hr h (.inr J);rw[show(((-1:Int)):Rat)= -1 from J] at e;grind
 obtain⟨h1,h2⟩:=h1;rw[KE] at h2;have ne:bF (d7 [r] 1)≠[]:=fun e=>by
  rw[e] at h2;exact absurd h2 (by show¬(0:Rat)<0;grind)
 obtain⟨c,hc⟩: ∃c,c∈bF (d7 [r] 1):=by
  cases h:bF (d7 [r] 1) with
  |nil=>exact absurd h ne
  |cons a t=>exact⟨a,aQ⟩
 obtain⟨g,gv⟩:=uC hb bw.nil (n8.1 hc);obtain⟨M,hM⟩: ∃M,M=(lH [r] 1).lns++(gm [r]).map (·.l):=⟨_,rfl⟩;obtain⟨q,q1,q2⟩:=AM g M fun l hl=>by
  rw[hM] at hl;rcases bJ.1 hl with h|h
  .exact jO (qm hr1) l h
  .obtain⟨f,hf,rfl⟩:=aS.1 h
   exact((pi hr1).2 f hf).ok
 have oR:fy (lH [r] 1).lns q:=q2.sub fun l hl=>by rw[hM];exact bK _ hl
 have oE: ∀k,k<r.length->ak (aC r k) (bi r k) q≠0:=fun k hk h0=>by
  have hne:r.getD k (0,0)≠cj r k:=hr.ne k hk;have hm:(cH (r.getD k (0,0)) (cj r k)).l∈M:=by
   rw[hM];refine bW _ (aS.2 ⟨_,?_,J⟩);unfold gm;exact dK.2 ⟨r,aV.2 J,y8 hk⟩
  exact q2 _ hm ((pC hne q).2.2 h0)
 have hv:=(gv q q1).2;rw[B8 hr1 oR,x6] at hv;have nq:cx r q≠0:=fun e=>by rw[e] at hv;exact absurd hv oma
 have hq: ∀f∈fq r,0<ak f.1 f.2 q:=fun f hf=>by
  obtain⟨k,hk,e⟩:=si hf;have a:ak f.1 f.2 q≠0:=by rw[e];exact oE k hk
  rcases cP (ak f.1 f.2 q) with z|z|z
  .exact absurd z a
  .exact z
  .exact absurd (T' hr hcv ⟨f,hf,z⟩) nq
 have one:cx r q=1:=(h1 q fun k hk h=>oE k hk (Bi h)).resolve_left nq;exact⟨⟨hr,⟨q,hq⟩,fun p hp=>(aAb hr hcv hp hq).trans one,fun p hp=>T' hr hcv hp,fun f hf g hg=>SZ hr hcv hf hg,fun p hp f hf hz=>aFw hr hcv hp hf hz⟩,ne⟩
theorem Y4(hs:kA r):pe (d7 [r] 1) ((oF (d7 [r] 1)).scale (iD (d7 [r] 1))⁻¹)=2:=by
 obtain⟨hc,ne⟩:=YB hr hcv hs;have hr1: ∀x∈[r],bD x:=fun x hx=>by rw[aV.1 hx];exact hr
 have hb:(d7 [r] 1).all ab.ok:=Tr.restrict_all ab.ok _ _ (qm hr1);have hbd:=xt hb (Ad (fill:=1) hr1);have cls:=fun p=>Yw (p:=p) hc (avk (ls:=(gm [r]).map (·.l)) fun l hl=>by
  obtain⟨f,hf,rfl⟩:=aS.1 hl;exact((pi hr1).2 f hf).ok) (XE hr1 fun f hf=>eX hf)
 have pos: ∀f∈fq r,0<ak f.1 f.2 ((oF (d7 [r] 1)).scale (iD (d7 [r] 1))⁻¹):=fun f hf=>by
  refine aAB hb hbd ne (uQ hr f hf) fun c hcc q hq=>?_;obtain⟨g1,g2⟩:=NH hb hcc;have hb1:=cN.1 hbd c hcc;rw[A9 g1 g2 hb1] at hq;obtain⟨s,hs,rfl⟩:=aS.1 hq;have hin:=((g1.edge s hs).2 _).1 (BS (g1.edge s hs).1 ((kv hb1).2 s hs).2);have k:=aAQ hb hcc hin;rw[cls] at k;split at k
  .rename_i h;exact h f hf
  .exact absurd J k
 rw[cls,if_pos fun f hf=>aN (pos f hf),if_neg];rintro ⟨f,hf,z⟩;have:=pos f hf;grind
end
def awk{r:List ZP}(hr:bD r)(hs:kA r): ∃i,i<r.length/\(eD r i).y≠0:=Classical.byContradiction fun hno=>by
 have h3:=hr.n3;have y0: ∀i,i<r.length->(eD r i).y=0:=fun i hi=>Classical.byContradiction fun k=>hno ⟨i,hi,k⟩;have step: ∀i,i<r.length->0<(eD r (fP r i)).x*(eD r i).x:=fun i hi=>by
  have a:=y0 i hi;have b:=y0 _ (u9 hi);have:=OF hr hs hi (by unfold aa.cross bP;dsimp only;rw[a,b];grind);unfold aa.dot at this;rw[a,b] at this;grind
 have x0:(eD r 0).x≠0:=fun k=>by have:=step 0 we;rw[k] at this;grind
 have same: ∀i,i<r.length->0<(eD r i).x*(eD r 0).x:=fun i=>by
  induction i with
  |zero=>
   intro _;rcases cP (eD r 0).x with k|k|k
   .exact absurd k x0
   .exact bg k k
   .have:=bg (show 0< -(eD r 0).x by grind) (show 0< -(eD r 0).x by grind);grind
  |succ i ih=>
   intro hi;have a:=ih we;have b:=step i we;have e:fP r i=i+1:=by unfold fP;exact dZ hi
   rw[e] at b;generalize (eD r (i+1)).x=u at*;generalize (eD r i).x=v at*;generalize (eD r 0).x=w at*;rcases cP v with k|k|k
   .rw[k] at b;grind
   .have u0:0<u:=(gi k).1 b
    have w0:0<w:=(tF k).1 a;exact bg u0 w0
   .have u0:0< -u:=(gi (k:= -v) omb).1 omb
    have w0:0< -w:=(tF (a:= -v) omb).1 omb;have:=bg u0 w0;grind
 have far: ∀i,i<r.length->0<=((aC r i).x-(aC r 0).x)*(eD r 0).x:=fun i=>by
  induction i with
  |zero=>intro _;grind
  |succ i ih=>
   intro hi;have a:=ih we;have b:=same i we;have e:bi r i=aC r (i+1):=by unfold aC bi;rw[uh hi]
   have e2:(eD r i).x=(aC r (i+1)).x-(aC r i).x:=by unfold eD;rw[e]
   rw[e2] at b;grind
 obtain⟨m,hm⟩: ∃m,r.length=m+1:=⟨r.length-1,we⟩;have a:=far m we;have b:=same m we;have e:bi r m=aC r 0:=by unfold aC bi;rw[uH]
 have e2:(eD r m).x=(aC r 0).x-(aC r m).x:=by unfold eD;rw[e]
 rw[e2] at b;grind
def Vs{r:List ZP}(hr:bD r)(hs:kA r):bF (d7 [r] 1)≠[]:=fun hnil=>by
 have hr1: ∀x∈[r],bD x:=fun x hx=>by rw[aV.1 hx];exact hr
 have hb:(d7 [r] 1).all ab.ok:=Tr.restrict_all ab.ok _ _ (qm hr1);obtain⟨M,hM⟩: ∃M,M=((lH [r] 1).lns++(d7 [r] 1).lns)++(gm [r]).map (·.l):=⟨_,rfl⟩;have okM: ∀l∈M,l.ok:=fun l hl=>by
  rw[hM] at hl;rcases bJ.1 hl with h|h
  .exact(bJ.1 h).elim (jO (qm hr1) l) (jO hb l)
  .obtain⟨f,hf,rfl⟩:=aS.1 h
   exact((pi hr1).2 f hf).ok
 have edM: ∀k,k<r.length->(cH (r.getD k (0,0)) (cj r k)).l∈M:=fun k hk=>by
  rw[hM];refine bW _ (aS.2 ⟨_,?_,J⟩);unfold gm;exact dK.2 ⟨r,aV.2 J,y8 hk⟩
 have hold:vh M (fq r):=fun f hf=>by
  obtain⟨k,hk,rfl⟩:=si hf;have hne:r.getD k (0,0)≠cj r k:=hr.ne k hk;exact⟨_,edM k hk,(pC hne _).2.2 (by show ak (aC r k) (bi r k) (aC r k)=0;unfold ak;grind),(pC hne _).2.2 (by show ak (aC r k) (bi r k) (bi r k)=0;unfold ak;grind)⟩
 -- off all lines the number is nothing
 have zero: ∀p,fy M p->cx r p=0:=fun p hp=>by
  have oR:fy (lH [r] 1).lns p:=hp.sub fun l hl=>by rw[hM];exact bK _ (bK _ hl)
  have oT:fy (d7 [r] 1).lns p:=hp.sub fun l hl=>by rw[hM];exact bK _ (bW _ hl)
  have hv:=(avL hb).1 hnil p oT;rw[B8 hr1 oR,x6] at hv;have off:qH r p:=fun k hk h=>by
   have hne:r.getD k (0,0)≠cj r k:=hr.ne k hk;exact hp _ (edM k hk) ((pC hne p).2.2 (Bi h))
  rcases Js hr hs with h|h
  .rcases h p off with k|k
   .exact k
   .rw[k] at hv;exact absurd hv oma
  .rcases h p off with k|k
   .exact k
   .rw[k] at hv;exact absurd hv oma
 obtain⟨i,hi,hy⟩:=awk hr hs;have h0:(0:Rat)<1/2:=by decide+kernel
 have h1:(1/2:Rat)<1:=by decide+kernel
 obtain⟨e,e0,he⟩:=T3 hr hs hi h0 h1 hy;have germ: ∀w:aa,(eD r i).cross w≠0->GZ r (aA (aC r i) (bi r i) (1/2)) w 0:=fun w hw=>by
  have hf:=Im hr hs hi h0 h1 hw;obtain⟨x,hx⟩:=CL hr hf;obtain⟨w',g1,_,g3⟩:=L6 hold okM hf;have hx':=zt hr g3 hx;obtain⟨a,a0,ha⟩:=x9 (t:=pG M) (by rw[AU];exact g1);obtain⟨b,b0,hb'⟩:=hx';obtain⟨c,c0,c1,c2⟩:=mD a0 b0;have o:=(ha c c0 c1).1;rw[AU] at o;have:=hb' c c0 c2;rw[zero _ o] at this;rw[this];exact hx
 obtain⟨a,a0,ha⟩:=germ ⟨1,0⟩ okb;obtain⟨b,b0,hb'⟩:=germ ⟨-1,0⟩ okb;obtain⟨c,c0,c1,c2⟩:=mD a0 b0;obtain⟨d,d0,d1,d2⟩:=mD c0 e0;have k1:=ha d d0 omb;have k2:=hb' d d0 omb;have k3:=he d d0 d2;rw[Q2] at k1;rw[Qt] at k2;rw[k1,k2] at k3;split at k3<;>exact absurd k3 oma
def KV(l:List aa):dH 6 (l.map eZ):=fun d hd=>by
 obtain⟨x,_,rfl⟩:=aS.1 hd;exact⟨J,J⟩
instance aE.negp (p:aa) (i:Nat) [h:aE p i]:aE (bP p) i:=⟨inferInstanceAs (BQ (-p.x) i),inferInstanceAs (BQ (-p.y) i)⟩
instance aE.prip (l:ab) [LB l]:aE (fk l.dir) 500:=by
 have h:=(inferInstance:aE (l.dir.scale (rgcd l.dir.x l.dir.y)⁻¹) _);exact⟨h.x.mono oma,h.y.mono oma⟩
def aJl{p:aa}{i:Nat}[h:aE p i](hi:i<=900000000:=by decide):PF GB prog 179 [eZ p] (eZ (bP p)):=by
 refine fn func179 J J ntmps179 J J (fun C=>?_);refine cl J (r5 (q:=p.x) (i:=i) hi) J<|cl J (r5 (q:=p.y) (i:=i) hi) J<|rz J J
def Vf{p:aa}{i:Nat}[h:aE p i](hi:i<=900000000:=by decide):PF GB prog 170 [eZ p] (eZ (eG p)):=by
 refine fn func170 J J ntmps170 J J (fun C=>?_);refine cl J (r5 (q:=p.y) (i:=i) hi) J<|rz J J
def V9{p:aa}{i:Nat}[h:aE p i](hi:i<=1000000:=by decide):PF GB prog 178 [eZ p] (eZ (fk p)):=by
 refine fn func178 J J ntmps178 J J (fun C=>?_);refine cl J (A6 (p:=p.x) (q:=p.y) (i:=i) (j:=i) we we) J<|cl J (Gc (q:=rgcd p.x p.y) (i:=i+i+(i+i)) we) J<|cl J (x5 (p:=p) (c:=(rgcd p.x p.y)⁻¹) (i:=i) (j:=i+i+(i+i)) we we) J<|rz J J
def CT(l:ab)(x y:Tr)(p:aa):fi (.node l x y) p=(if Int.sign (l.value p).num=0 then [fk l.dir,bP (fk l.dir)] else [])++((if 0<=Int.sign (l.value p).num then fi x p else [])++(if Int.sign (l.value p).num<=0 then fi y p else [])):=by
 unfold fi;rw[mh,mL,mL];congr 1
 .split<;>simp
 .congr 1<;>split<;>simp
def Fo: ∀(t:Tr) (p:aa),(fi t p).length<=2*t.size
 | .leaf _,_=>bS _
 | .node l x y,p=>by
  have h1:=Fo x p;have h2:=Fo y p;rw[CT,aR,aR,Tr.size];split<;>split<;>split<;>simp only[bZ,gQ]<;>omega
def aqf{b:Bool}{p:aa}{o:List aa}:PB GB prog 108 (e8 [some (eU (.leaf b)),some (eZ p),none]) 6 119 (o.map eZ) (fun w=> .v (.slice w.a w.n w.c)) ((o++fi (.leaf b) p).map eZ):=by
 refine uF func108 J J ntmps108 J J (fun C=>?_);refine cl (fu:=⟨0⟩) J FE J<|rk 10 J<|gx J<|?_;exact nB J J J (by show _=(o++[]).map eZ;rw[lZ])
def aAt{l:ab}{x y:Tr}{p:aa}{i:Nat}[hp:aE p i](hl:LB l)(hi:i<=10000000){o:List aa}(hs:o.length+2*(Tr.node l x y).size<=1000000)(hz:Int.sign (l.value p).num=0)(ihx: ∀{o:List aa},o.length+2*x.size<=1000000->PB GB prog 108 (e8 [some (eU x),some (eZ p),none]) 6 119 (o.map eZ) (fun w=> .v (.slice w.a w.n w.c)) ((o++fi x p).map eZ))(ihy: ∀{o:List aa},o.length+2*y.size<=1000000->PB GB prog 108 (e8 [some (eU y),some (eZ p),none]) 6 119 (o.map eZ) (fun w=> .v (.slice w.a w.n w.c)) ((o++fi y p).map eZ)):PB GB prog 108 (e8 [some (eU (.node l x y)),some (eZ p),none]) 6 119 (o.map eZ) (fun w=> .v (.slice w.a w.n w.c)) ((o++fi (.node l x y) p).map eZ):=by
 haveI:=hl;have hz2:(Tr.node l x y).size=1+x.size+y.size:=J;have hp1:=Fo x p;refine uF func108 J J ntmps108 J J (fun C=>?_);refine cl (fu:=⟨0⟩) J zq J<|xM 10 J<|gx J<|cl (fu:=⟨7⟩) J (Cd (l:=l) (p:=p) (i:=i) hi) J<|d9 J (omg we) J<|cl J (xY (l:=l)) J<|cl J (V9 (p:=l.dir) (i:=97)) J<|cl J (aJl (p:=fk l.dir) (i:=500)) J<|rf J J<|Iv (fu:=⟨7⟩) ((o++[fk l.dir,bP (fk l.dir)]).map eZ) J okt (KV [fk l.dir,bP (fk l.dir)]) J<|d9 J (omg we) J<|cq (fu:=⟨7⟩) (((o++[fk l.dir,bP (fk l.dir)])++fi x p).map eZ) J (ihx (by rw[aR,bZ,bZ,gQ];omega)) J J<|d9 J (omg we) J<|cq _ J (ihy (by rw[aR,aR,bZ,bZ,gQ];omega)) J J<|?_;exact nB J J J (by rw[CT,hz];simp)
def aBn{l:ab}{x y:Tr}{p:aa}{i:Nat}[hp:aE p i](hl:LB l)(hi:i<=10000000){o:List aa}(hs:o.length+2*(Tr.node l x y).size<=1000000)(hz:Int.sign (l.value p).num=1)(ihx: ∀{o:List aa},o.length+2*x.size<=1000000->PB GB prog 108 (e8 [some (eU x),some (eZ p),none]) 6 119 (o.map eZ) (fun w=> .v (.slice w.a w.n w.c)) ((o++fi x p).map eZ)):PB GB prog 108 (e8 [some (eU (.node l x y)),some (eZ p),none]) 6 119 (o.map eZ) (fun w=> .v (.slice w.a w.n w.c)) ((o++fi (.node l x y) p).map eZ):=by
 haveI:=hl;have hz2:(Tr.node l x y).size=1+x.size+y.size:=J;refine uF func108 J J ntmps108 J J (fun C=>?_);refine cl (fu:=⟨0⟩) J zq J<|xM 10 J<|gx J<|cl (fu:=⟨7⟩) J (Cd (l:=l) (p:=p) (i:=i) hi) J<|ew (fu:=⟨9⟩) J (omh we) J<|d9 J (omg we) J<|cq (fu:=⟨7⟩) _ J (ihx we) J J<|ew J (omh we) J<|?_;exact nB J J J (by rw[CT,hz];simp)
def aAo{l:ab}{x y:Tr}{p:aa}{i:Nat}[hp:aE p i](hl:LB l)(hi:i<=10000000){o:List aa}(hs:o.length+2*(Tr.node l x y).size<=1000000)(hz:Int.sign (l.value p).num= -1)(ihy: ∀{o:List aa},o.length+2*y.size<=1000000->PB GB prog 108 (e8 [some (eU y),some (eZ p),none]) 6 119 (o.map eZ) (fun w=> .v (.slice w.a w.n w.c)) ((o++fi y p).map eZ)):PB GB prog 108 (e8 [some (eU (.node l x y)),some (eZ p),none]) 6 119 (o.map eZ) (fun w=> .v (.slice w.a w.n w.c)) ((o++fi (.node l x y) p).map eZ):=by
 haveI:=hl;have hz2:(Tr.node l x y).size=1+x.size+y.size:=J;refine uF func108 J J ntmps108 J J (fun C=>?_);refine cl (fu:=⟨0⟩) J zq J<|xM 10 J<|gx J<|cl (fu:=⟨7⟩) J (Cd (l:=l) (p:=p) (i:=i) hi) J<|ew (fu:=⟨9⟩) J (omh we) J<|ew (fu:=⟨9⟩) J (omh we) J<|d9 J (omg we) J<|cq _ J (ihy we) J J<|?_;exact nB J J J (by rw[CT,hz];simp)
def AX{p:aa}{i:Nat}[hp:aE p i](hi:i<=10000000:=by decide): ∀{t:Tr} {o:List aa},t.all LB->o.length+2*t.size<=1000000->PB GB prog 108 (e8 [some (eU t),some (eZ p),none]) 6 119 (o.map eZ) (fun w=> .v (.slice w.a w.n w.c)) ((o++fi t p).map eZ)
 | .leaf _,_,_,_=>aqf
 | .node l x y,_,hb,hs=>by
  have hz2:(Tr.node l x y).size=1+x.size+y.size:=J;rcases kS (l.value p).num 0 with h|h|h
  .exact aAo hb.1 hi hs (fZ h) fun k=>AX hi hb.2.2 k
  .exact aAt hb.1 hi hs (by rw[h];rfl) (fun k=>AX hi hb.2.1 k) fun k=>AX hi hb.2.2 k
  .exact aBn hb.1 hi hs (fJ h) fun k=>AX hi hb.2.1 k
def UU{t:Tr}{p v:aa}{i j:Nat}[hp:aE p i][hv:aE v j](hb:t.all LB)(hi:i<=10000000:=by decide)(hj:j<=10000000:=by decide):PF GB prog 109 [eU t,eZ p,eZ v] (.tp [vB (gI t p v).1,vB (gI t p v).2]):=by
 refine fn func109 J J ntmps109 J J (fun C=>?_);refine lp (X:=Tr) (fun s=>[(0, .d (eU s))]) (fun s=>[]) (fun s=>gI s p v=gI t p v/\s.all LB) (fun s=>s.size) t J ⟨J,hb⟩ (fun _=>J) (fun s hk=>?_);obtain⟨h1,hb2⟩:=hk;rcases s with b|⟨l,x,y⟩
 .
  have hA:gI t p v=(b,true):=h1.symm;refine cl (fu:=⟨0⟩) J FE J<|rk 10 J<|gx J<|rz J (by rw[hA];rfl)
 .
  have hAn:=h1.symm;rw[gI,rj] at hAn;haveI:=hb2.1;refine cl (fu:=⟨0⟩) J zq J<|xM 10 J<|gx J<|cl (fu:=⟨4⟩) J (Cd (l:=l) (p:=p) (i:=i) hi) J<|mg (X:=Int) (fun s8=>[(8, .d (vI s8))]) (fun s8=>[]) (fun s8=>s8=(if(l.value p).num.sign=0 then(l.nor.dot v).num.sign else(l.value p).num.sign)) [8] [] rfl ?_ (fun _=>J) (fun s8 hs8=>?_)
  .
   refine gx J<|br J J J (fun hc19=>?_) (fun hc19=>?_)
   .
    refine cl J (Ac (l:=l)) J<|cl J (FB (p:=l.nor) (q:=v) (i:=97) (j:=j) oma we) J<|cl J (oP (q:=l.nor.dot v) we) J<|at_ (l.nor.dot v).num.sign (if_pos hc19).symm
   .
    exact at_ (l.value p).num.sign (if_neg hc19).symm
  .
   rw[<-hs8] at hAn;refine br J J J (fun hc29=>?_) (fun hc29=>?_)
   .
    exact at_ x ⟨⟨by rw[hAn,hc29];rfl,hb2.2.1⟩,(by simp only[Tr.size];omega)⟩
   .
    refine br J J J (fun hc35=>?_) (fun hc35=>?_)
    .
     exact at_ y ⟨⟨by rw[hAn,hc35];rfl,hb2.2.2⟩,(by simp only[Tr.size];omega)⟩
    .
     exact rz J (by rw[hAn];split<;>first|rfl|contradiction)
def Py{q:Rat}{i:Nat}[h:BQ q i](hi:i<=400000000:=by decide):PF GB prog 111 [eR q] (eF q):=by
 haveI:BN q.num.natAbs i:=⟨h.hn⟩;haveI:BN q.den i:=⟨h.hd⟩;refine fn func111 J J ntmps111 J J (fun C=>?_);refine cl (fu:=⟨0⟩) J (vO (n:=decide (q.num<0)) (a:=q.num.natAbs) (d:=q.den) (i:=i) (j:=i) we we) J<|ah 7 (.d (eF q)) J (by rw[nk,tV])<|gx J<|rz J J
def Z1{p:aa}{i:Nat}[h:aE p i](hi:i<=400000000:=by decide):PF GB prog 58 [o5 p] (eZ p):=by
 refine fn func58 J J ntmps58 J J (fun C=>?_);refine cl J (Py (q:=p.x) (i:=i) hi) J<|cl J (Py (q:=p.y) (i:=i) hi) J<|rz J J
def aKG(G:Gh)(y:Value)(h:Is G (.sl [.ag [vI (cC 1),vI (cD 1),cE 1,vI 0,vI 0, .v (.pointer none)]]) y):Is G (.sl ((lE []).map eZ)) y:=by
 obtain⟨s,x,es,rfl,h1,h2⟩:=je.1 h;obtain⟨v,m,rfl,k,h3⟩:=bO.1 h2
 cases gw.1 h3
 refine je.2 ⟨s,x,_,J,h1, .cons ?_ .nil⟩;obtain⟨m4,rfl,g4⟩:=fC.1 k;obtain⟨v1,m1,rfl,k1,g1⟩:=bO.1 g4;obtain⟨v2,m2,rfl,k2,g2⟩:=bO.1 g1;obtain⟨v3,m3,rfl,k3,g3⟩:=bO.1 g2;obtain⟨m5,q5,g5⟩:=fC.1 (yP _ _ (fC.2 ⟨m3,rfl,g3⟩))
 cases q5
 exact fC.2 ⟨_,J, .cons k1 (.cons k2 (.cons k3 g5))⟩
def PU{ds:List aa}{k:Nat}{u w:aa}(h1:ds[k]? =some u)(h2:ds[(k+1)%ds.length]? =some w):pO ds k=if 0<Int.sign (u.cross w).num then u.add w else eG u:=by
 unfold pO;rw[aJ,aJ,h1,h2];rfl
def TW(ds:List aa)(k:Nat):(List.range (k+1)).map (pO ds)=(List.range k).map (pO ds)++[pO ds k]:=by rw[pR,bL];rfl
def aEx:PF GB prog 106 [.sl []] (.sl ((lE []).map eZ)):=by
 refine fn (fu:=⟨10⟩) func106 J J ntmps106 J J (fun C=>?_);refine d9 J (by rfl) J<|cl J (ti we) J<|rf J J<|jE J aKG
def aEU{ds:List aa}{i:Nat}(h0:0<ds.length)(hb: ∀d∈ds,aE d i)(hn:ds.length<=10000000)(hi:i<=1000000:=by decide):PF GB prog 106 [.sl (ds.map eZ)] (.sl ((lE ds).map eZ)):=by
 have hml:(ds.map eZ).length=ds.length:=aK ..;refine fn (fu:=⟨10⟩) func106 J J ntmps106 J J (fun C=>?_);refine ah 8 (.d (vI (ds.length:Nat))) J omr<|gx (fu:=⟨0⟩) J<|ew (fu:=⟨15⟩) J (omh we) J<|ah 14 (.d (vI (ds.length:Nat))) J omr<|gx J<|nr 3 3 119 6 J J J<|lp (X:=List aa×Nat) (fun⟨acc,k⟩=>[(15, .d (vI (k:Nat))),(3, .rw 3)]) (fun⟨acc,k⟩=>[(3,some (.b 119 6 (acc.map eZ) true))]) (fun⟨acc,k⟩=>acc=(List.range k).map (pO ds)/\k<=ds.length) (fun⟨acc,k⟩=>ds.length-k) ⟨[],0⟩ J ⟨J,bS _⟩ (fun _=>J) (fun⟨acc,k⟩ hk=>?_)
 try dsimp only at hk⊢
 obtain⟨h1,h2⟩:=hk;have hal:acc.length=k:=by rw[h1,aK,pN]
 have ham:(acc.map eZ).length=acc.length:=aK ..;refine br J J J (fun hc16=>?_) (fun hc16=>?_)
 .
  obtain⟨u,hx⟩: ∃u,ds[k]? =some u:=⟨_,aZ we⟩;obtain⟨w,hw⟩: ∃w,ds[(k+1)%ds.length]? =some w:=⟨_,aZ (dQ _ we)⟩;haveI:=hb u (aT hx);haveI:=hb w (aT hw);refine ix (fu:=⟨13⟩) _ J (dP hx) J<|ah 24 (.d (vI (ds.length:Nat))) J omr<|gx (fu:=⟨1⟩) J<|ah 25 (.d (vI (((k+1)%ds.length:Nat):Int))) J J<|gx J<|ix _ J (dP hw) J<|cl J (Cr (p:=u) (q:=w) we we) J<|cl J (oP (q:=u.cross w) we) J<|br J J J (fun hc32=>?_) (fun hc32=>?_)
  .
   refine cl J (AD (p:=u) (q:=w) we we) J<|rf J J<|ap ((acc++[u.add w]).map eZ) J okt (KV [u.add w]) J<|iE 38 3 J<|at_ ⟨acc++[u.add w],k+1⟩ (by dsimp only;exact⟨⟨by rw[TW,PU hx hw,if_pos hc32,<-h1],we⟩,we⟩)
  .
   refine cl J (Vf (p:=u) we) J<|rf J J<|ap ((acc++[eG u]).map eZ) J okt (KV [eG u]) J<|iE 43 3 J<|at_ ⟨acc++[eG u],k+1⟩ (by dsimp only;exact⟨⟨by rw[TW,PU hx hw,if_neg hc32,<-h1],we⟩,we⟩)
 .
  obtain rfl:k=ds.length:=by omega
  have hS:lE ds=acc:=by unfold lE;rw[if_neg we,h1]
  refine jd 3 J<|rz J (by rw[hS];rfl)
def axt{ds:List aa}{i:Nat}(hb: ∀d∈ds,aE d i)(hn:ds.length<=10000000)(hi:i<=1000000:=by decide):PF GB prog 106 [.sl (ds.map eZ)] (.sl ((lE ds).map eZ)):=by
 cases ds with
 |nil=>exact aEx
 |cons d ds=>exact aEU (i:=i) (Nat.zero_lt_succ _) hb hn hi
def L2{u v:aa}{i j:Nat}[hp:aE u i][hq:aE v j](hi:i<=10000000:=by decide)(hj:j<=10000000:=by decide):PF GB prog 174 [eZ u,eZ v] (vB (decide (cF u v=0))):=by
 refine fn func174 J J ntmps174 J J (fun C=>?_);refine cl J (JS (u:=u) (v:=v) hi hj) J<|rz J J
def lx(x:aa):List aa->List aa
 |[]=>[]
 |y::l=>if cF y x=0 then lx y l else y::lx y l
def sP:List aa->List aa
 |[]=>[]
 |x::l=>x::lx x l
def Ei{l:List aa}{k:Nat}{x y:aa}(h:l[k]? =some y):lx x (l.drop k)=if cF y x=0 then lx y (l.drop (k+1)) else y::lx y (l.drop (k+1)):=by
 obtain⟨h1,h2⟩:=bQ.1 h;rw[bU h1,h2,lx]
def auM{l:List aa}{k:Nat}{y:aa}(h:l[k]? =some y):l.take (k+1)=l.take k++[y]:=by
 rw[iT,h];rfl
def aAh(l:List aa)(k:Nat)(y:aa):(l.map eZ).set k (eZ y)=(l.set k y).map eZ:=(kJ ..).symm
def Yh{l:List aa}(h:l.length<2):sP l=l:=by
 cases l with
 |nil=>rfl
 |cons x l=>cases l with
  |nil=>rfl
  |cons y l=>simp at h;omega
def aEp{l:List aa}{x:aa}(h:l[0]? =some x):sP l=l.take 1++lx x (l.drop 1):=by
 cases l with
 |nil=>cases h
 |cons y l=>cases h;rfl
def R1{r l:List aa}{a b:Nat}(h:a<=b)(e:r.drop a=l.drop a):r[b]? =l[b]? :=by
 have:=congrArg (·[b-a]?) e;simpa[mQ,show a+(b-a)=b by omega] using this
def axb{r l:List aa}{a b:Nat}(h:a<=b)(e:r.drop a=l.drop a):r.drop b=l.drop b:=by
 have:=congrArg (List.drop (b-a)) e;simpa[tW,show a+(b-a)=b by omega] using this
def ZU{r:List aa}{i:Nat}{u:aa}(h:i<r.length):(r.set i u).take (i+1)=r.take i++[u]:=by
 rw[iT,pY h,List.take_set_of_le (bV _)];rfl
def ays{r:List aa}{i:Nat}(h:i<r.length):(r.map eZ)[(i:Int).toNat]? =some (eZ r[i]):=by simp[h]
def ayj{l:List aa}{i0:Nat}(hb: ∀d∈l,aE d i0)(hn:l.length<=10000000)(hi:i0<=10000000):PB GB prog 173 (e8 [none,some (.v (.func (.func 174) #[] #[]))]) 6 119 (l.map eZ) (fun w=> .v (.slice w.a w.n w.c)) ((sP l).map eZ):=by
 have hml:(l.map eZ).length=l.length:=aK ..;refine uF (fu:=⟨10⟩) func173 J J ntmps173 J J (fun C=>?_);refine ah 9 (.d (vI (l.length:Nat))) J omr<|gx J<|br J J J (fun hc10=>?_) (fun hc10=>?_)
 .
  exact nB J J J (by rw[Yh we])
 .
  obtain⟨x0,hx0⟩: ∃x,l[0]? =some x:=⟨_,aZ we⟩;refine lp (fu:=⟨6⟩) (X:=Nat×aa) (fun⟨k,x⟩=>[(5, .d (vI (k:Nat)))]) (fun⟨k,x⟩=>[]) (fun⟨k,x⟩=>1<=k/\k<=l.length/\l[k-1]? =some x/\sP l=l.take k++lx x (l.drop k)) (fun⟨k,x⟩=>l.length-k) ⟨1,x0⟩ J ⟨bV _,we,hx0,by rw[aEp hx0]⟩ (fun _=>J) (fun⟨k,x⟩ hk=>?_)
  try dsimp only at hk⊢
  obtain⟨h1,h2,h3,h4⟩:=hk;refine ah 14 (.d (vI (l.length:Nat))) J omr<|gx J<|br J J J (fun hc15=>?_) (fun hc15=>?_)
  .
   obtain⟨y,hy⟩: ∃y,l[k]? =some y:=⟨_,aZ we⟩;haveI:=hb y (aT hy);haveI:=hb x (aT h3);refine lb (fu:=⟨3⟩) _ J (dP hy) J<|ah 25 (.d (vI ((k-1:Nat):Int))) J (by rw[Int.ofNat_sub h1]<;>rfl)<|gx J<|lb (fu:=⟨0⟩) _ J (dP h3) J<|cl J (L2 (u:=y) (v:=x) hi hi) J<|bd (fu1:=⟨4⟩) J J J (fun hc28=>?_) (fun hc28=>?_)
   .
    have hc28':=hc28;refine NK k (l.length-k) J J we we J<|lp (fu:=⟨5⟩) (X:=Nat×Nat×aa×List aa) (fun⟨i,m,z,r⟩=>[(5, .d (vI (i:Nat))),(7, .d (vI (m:Nat)))]) (fun⟨i,m,z,r⟩=>[(1000000,some (.b 119 6 (r.map eZ) false))]) (fun⟨i,m,z,r⟩=>1<=m/\k+m<=l.length/\i+1<=k+m/\r.length=l.length/\r.drop (k+m-1)=l.drop (k+m-1)/\l[k+m-1]? =some z/\sP l=r.take i++lx z (l.drop (k+m))) (fun⟨i,m,z,r⟩=>l.length-m) ⟨k,1,y,l⟩ J ⟨bV _,we,we,J,J,by rw[lK];exact hy,by rw[h4,Ei hy,if_pos hc28']⟩ (fun _=>J) (fun⟨i,m,z,r⟩ hk=>?_)
    try dsimp only at hk⊢
    obtain⟨g1,g2,g3,g4,g5,g6,g7⟩:=hk;have hrl:(r.map eZ).length=r.length:=aK ..;refine Xv J J<|br (fu1:=⟨9⟩) (fu2:=⟨9⟩) J J J (fun hc35=>?_) (fun hc35=>?_)
    .
     obtain⟨u,hu⟩: ∃u,l[k+m]? =some u:=⟨_,aZ we⟩;haveI:=hb u (aT hu);haveI:=hb z (aT g6);have g8:r[k+m]? =some u:=by rw[<-hu];exact R1 we g5
     have g10:r[k+m-1]? =some z:=by rw[<-g6];exact R1 (bV _) g5
     have g9:r.drop (k+m)=l.drop (k+m):=axb we g5;refine Jo (k+m) J we we we J<|lb (fu:=⟨3⟩) _ J (dP g8) J<|Jo (k+m-1) J we we we J<|lb (fu:=⟨0⟩) _ J (dP g10) J<|cl J (L2 (u:=u) (v:=z) hi hi) J<|bb (fu1:=⟨6⟩) J J J (fun hc49=>?_) (fun hc49=>?_)
     .
      have hc49': ¬cF u z=0:=by simpa using hc49
      refine Jo (k+m) J we we we J<|lb _ J (dP g8) J<|sb _ ((r.set i u).map eZ) J (ays we) J (by rw[<-aAh]<;>rfl) J<|at_ ⟨i+1,m+1,u,r.set i u⟩ (by dsimp only;exact⟨⟨we,we,we,by rw[aM];exact g4,by rw[show k+(m+1)-1=k+m by omega,qY we];exact g9,by rw[show k+(m+1)-1=k+m by omega];exact hu,by rw[g7,Ei hu,if_neg hc49',ZU we,gX];rfl⟩,we⟩)
     .
      have hc49':cF u z=0:=by simpa using hc49
      exact at_ ⟨i,m+1,u,r⟩ (by dsimp only;exact⟨⟨we,we,we,g4,by rw[show k+(m+1)-1=k+m by omega];exact g9,by rw[show k+(m+1)-1=k+m by omega];exact hu,by rw[g7,Ei hu,if_pos hc49'];rfl⟩,we⟩)
    .
     obtain hm:k+m=l.length:=by omega
     refine NK i (l.length-i) J J we we J<|YU (fu:=⟨6⟩) _ J (by rw[hrl];omega) we J J<|Jd ((r.take i).map eZ) i J J (by rw[aR,cR,aU,hrl];omega) (by rw[fK (by rw[cR,hrl];omega),List.take_take,Nat.min_self,gR]) J<|?_;exact nB J J J (by rw[g7,hm,fR,lx,lZ])
   .
    have hc28':=hc28;exact at_ ⟨k+1,y⟩ (by dsimp only;exact⟨⟨we,we,hy,by rw[h4,Ei hy,if_neg hc28',auM hy,gX];rfl⟩,we⟩)
  .
   exact nB J J J (by rw[h4,show k=l.length by omega,fR,lx,lZ,dV])
def Xl{v:Value}(h:Go.Sx.flat v=true):v.oneCell'=true:=by cases v<;>first|rfl|cases h
def Tz{α:Type}{k:Nat}: ∀(l:List (List α)) (t:Nat),(∀x∈l,x.length=k)->t<l.length*k->l.flatten[t]? =(l[t/k]?).bind (·[t%k]?)
 |[],t,_,h=>by simp at h
 |x::l,t,h,ht=>by
  have hx:=h x aQ;have hk:0<k:=by
   rcases fW k with e|e
   .subst e;simp at ht
   .exact e
  rw[mK];by_cases q:t<k
  .rw[dY we,lT q,dZ q];rfl
  .rw[fL we,hx,Tz l (t-k) (fun y hy=>h y (aX _ hy)) (by rw[bZ,dW] at ht;omega)]
   have e1:t/k=(t-k)/k+1:=by rw[Nat.div_eq_sub_div hk we]
   have e2:t%k=(t-k)%k:=by rw[Nat.mod_eq_sub_mod we]
   rw[e1,e2];rfl
section
variable {α:Type} [Inhabited α]
def VP(enc:α->List Value)(k:Nat)(hk: ∀x,(enc x).length=k)(d:Array α):(Go.Sort.flatK enc k d).toList=(d.toList.map enc).flatten:=by
 apply kZ;intro t;have hlen:(d.toList.map enc).flatten.length=d.size*k:=by
  have: ∀l:List α,(l.map enc).flatten.length=l.length*k:=fun l=>by
   induction l with
   |nil=>simp
   |cons x l ih=>rw[cJ,mK,aR,ih,hk,bZ,dW];omega
  simpa using this d.toList
 by_cases ht:t<d.size*k
 .have hk0:0<k:=by
   rcases fW k with e|e
   .subst e;simp at ht
   .exact e
  have hi:t/k<d.size:=Nat.div_lt_of_lt_mul (by rwa [cK]);rw[Tz (k:=k) _ _ (fun x hx=>by obtain⟨y,_,rfl⟩:=aS.1 hx;exact hk y) (by simpa using ht)];simp only[Go.Sort.flatK,oN,Array.toList_range,cV];rw[oU ht];have hj:t%k<(enc d[t/k]).length:=by rw[hk];exact dQ _ hk0
  simp only[jN];rw[getElem!_pos d (t/k) hi,getElem!_pos (enc d[t/k]) (t%k) hj];simp[hi,hj]
 .rw[eJ (by simp[Go.Sort.flatK];omega),eJ (by rw[hlen];omega)]
def Lh(enc:α->List Value)(k:Nat)(w:World)(b m:Nat)(dk:Array α)(os:Array Obj){q:Nat}(hq:q<w.heap.size):
  (sortWorldK enc k w b 0 m dk os).heap[q]? =if q=b then(w.heap[q]?).map (Go.Sort.onCells (Go.Sort.putCells id 0 (Go.Sort.flatK enc k dk))) else w.heap[q]? :=by
 show((w.heap.modify b _)++os)[q]? =_;rw[kK (by simpa using hq),Array.getElem?_modify];by_cases e:b=q
 .subst e;simp
 .simp[e,Ne.symm e]
def avn{F:Array Value}{xs rest:List Value}(h:xs.length=F.size):Go.Sort.putCells id 0 F ⟨xs++rest⟩=⟨F.toList++rest⟩:=by
 apply Array.ext';apply kZ;intro k;simp only[Go.Sort.putCells,Array.toList_mapIdx,List.getElem?_mapIdx];by_cases hk:k<F.size
 .rw[dY we,dY okO,aZ we]
  simp[hk]
 .rw[fL we,fL omo,h]
  simp only[iL]
  cases rest[k-F.size]? with
  |none=>rfl
  |some v=>simp[hk]
end
def qE{A:Type}(cf:A->A->Int)(ds:List A):List A:=ds.mergeSort fun x y=>!decide (cf y x<0)
def zz{A:Type}(cf:A->A->Int)(ds:List A):(qE cf ds).Perm ds:=List.mergeSort_perm ..
def OE{A:Type}{cf:A->A->Int}(hO:Go.Sort.SWO (Go.Proofs.ltOf cf))(ds:List A):(qE cf ds).Pairwise fun x y=> ¬cf y x<0:=by
 have:=List.pairwise_mergeSort (le:=fun x y=>!decide (cf y x<0)) (fun a b c h1 h2=>by
  have h1':Go.Proofs.ltOf cf b a=false:=by simpa[Go.Proofs.ltOf] using h1
  have h2':Go.Proofs.ltOf cf c b=false:=by simpa[Go.Proofs.ltOf] using h2
  have:=hO.ntrans c b a h2' h1';simpa[Go.Proofs.ltOf] using this) (fun a b=>by
  cases h1:Go.Proofs.ltOf cf b a with
  |false=>have: ¬cf b a<0:=(by simpa[Go.Proofs.ltOf] using h1);simp;omega
  |true=>
   cases h2:Go.Proofs.ltOf cf a b with
   |false=>have: ¬cf a b<0:=(by simpa[Go.Proofs.ltOf] using h2);simp;omega
   |true=>have:=hO.trans _ _ _ h1 h2;rw[hO.irrefl] at this;cases this) ds
 exact this.imp fun h=>by simpa using h
def ZW{P:Program}{ρ:Go.Shelf.Ren}{GB:Gh}(L:SlLaysF0.n6 P ρ)(ha:ta P (ρ.f 6)){s:Nat}(hAg: ∀w,(isAgg (ρ.t 24)).run P w= .ok true w)(hZs: ∀w,(sizeOf (ρ.t 24)).run P w= .ok s w)
  {A:Type}(e:A->DV)(V:A->Prop)(hA: ∀x,∃l,e x= .ag l/\(DV.ag l).okc=true/\l.length=s)(cf:A->A->Int)(hO:Go.Sort.SWO (Go.Proofs.ltOf cf)){g:FuncId}(hg:ta P g)
  (hc: ∀x y,V x->V y->PF GB P g [e x,e y] (.v (.int .i64 (cf x y)))){ty:TypeId}{ds:List A}(hV: ∀x∈ds,V x)(hn:ds.length<4611686018427387904)(hu: ∀x∈ds,∀y∈ds,¬cf x y<0-> ¬cf y x<0->x=y):
  PW GB P (ρ.f 6) [none,some (.v (.func (.func g) #[] #[]))] s ty (ds.map e) (.tp []) ((qE cf ds).map e):=by
 intro G z vs B hgb hB hvs;refine⟨ha,fun w hw=>?_⟩;obtain⟨v1,m1,rfl,q1,hvs⟩:=bO.1 hvs;obtain⟨v2,m2,rfl,q2,hvs⟩:=bO.1 hvs
 cases gw.1 hvs
 rw[bE] at q1 q2;subst q1 q2;obtain⟨es,k1,k2,k3,_⟩:=hB;simp only at k1 k2 k3;have hlen:es.length=ds.length:=by rw[k2.len,aK]
 by_cases h0:ds=[]
 .subst h0
  have hes:es=[]:=cW (by simpa using hlen);have hz:z.n=0:=by rw[k1.len,hes];rfl
  rw[hz];refine(AnyF.slices_SortFunc_none L z.a z.c _ w).mono fun r w' ⟨h1,h2⟩=>?_;subst h2;exact⟨_,asB B,G,h1,hw,mm.2 ⟨[],J, .nil⟩,es,k1.asB,by subst hes;show IsLs G ((qE cf []).map e) [];unfold qE;rw[List.mergeSort_nil];exact .nil,k3,fun h=>by cases h⟩
 .have hpos:0<es.length:=by rw[hlen];exact mR.2 h0
  rcases k1 with⟨e1,_,_⟩|⟨b,rest,lo,e1,e2,e3,e4,e5⟩
  .rw[e1] at hpos;simp at hpos
  subst e2
  -- elements with their cells
  have lift: ∀{ds:List A} {es:List Value},IsLs G (ds.map e) es->(∀x∈ds,V x)-> ∃qs:List {q:A×List Value//V q.1/\Is G (e q.1) (.agg ⟨q.2⟩)},qs.map (·.1.1)=ds/\qs.map (fun q=>Value.agg ⟨q.1.2⟩)=es:=by
   intro ds
   induction ds with
   |nil=>intro es h _;cases gw.1 h;exact⟨[],rfl,rfl⟩
   |cons x ds ih=>
    intro es h hV;obtain⟨y,n,rfl,g1,g2⟩:=bO.1 h;obtain⟨qs,g3,g4⟩:=ih g2 fun x hx=>hV x (aX _ hx);obtain⟨l,hl,_⟩:=hA x;have g1':=g1;rw[hl] at g1';obtain⟨m,rfl,_⟩:=fC.1 g1';exact⟨⟨(x,m),hV x aQ,g1⟩::qs,by simp[g3],by simp[g4]⟩
  obtain⟨qs,hq1,hq2⟩:=lift k2 hV;have:Inhabited {q:A×List Value//V q.1/\Is G (e q.1) (.agg ⟨q.2⟩)}:=⟨qs.head (fun e=>by rw[e] at hq1;exact h0 hq1.symm)⟩
  let enc:{q:A×List Value//V q.1/\Is G (e q.1) (.agg ⟨q.2⟩)}->List Value:=fun q=>q.1.2
  have henc: ∀q,(enc q).length=s/\ ∀v∈enc q,Go.Sx.flat v=true:=fun q=>by
   obtain⟨l,hl,h1,h2⟩:=hA q.1.1;have h3:=q.2.2;rw[hl] at h3;obtain⟨m,hm,h4⟩:=fC.1 h3
   cases hm
   exact⟨by show q.1.2.length=s;rw[h4.len,h2],fun v hv=>h4.flat h1 v hv⟩
  have hk: ∀q,(enc q).length=s:=fun q=>(henc q).1;have hqs:qs.toArray.size=es.length:=by rw[nS,<-hq2,aK]
  have hfl: ∀d:Array {q:A×List Value//V q.1/\Is G (e q.1) (.agg ⟨q.2⟩)},(Go.Sort.flatK enc s d).toList=aG (d.toList.map fun q=>Value.agg ⟨q.1.2⟩):=fun d=>by
   rw[VP enc s hk];unfold aG;rw[qK];rfl
  have hfe:(Go.Sort.flatK enc s qs.toArray).toList=aG es:=by rw[hfl,<-hq2]
  have hown:=hw.hown ⟨b,aG es++rest,ty,false⟩ aQ;obtain⟨hb,hGb,_,_⟩:=hown;simp only at hb hGb;have hblt:=i5 hb;have hH:Go.Sort.HoldsK enc s w b 0 qs.toArray:=by
   intro j hj;refine⟨?_,by simp[World.frozen?,hb]⟩;rw[Bo hb,fX];have hj':j<(aG es).length:=by rw[<-hfe];simpa using hj
   rw[dY hj',<-hfe];show _=some ((Go.Sort.flatK enc s qs.toArray)[j]!);rw[getElem!_pos _ j hj];simp
  have hsz: ∀dk:Array {q:A×List Value//V q.1/\Is G (e q.1) (.agg ⟨q.2⟩)},dk.size=qs.toArray.size->(aG es).length=(Go.Sort.flatK enc s dk).size:=fun dk hd=>by rw[<-hfe];simp[hd]
  have hblk: ∀(m:Nat) (os:Array Obj) (dk:Array _),dk.size=qs.toArray.size->(sortWorldK enc s w b 0 m dk os).heap[b]? =some (.cells ⟨(Go.Sort.flatK enc s dk).toList++rest⟩ ty (0,0)):=fun m os dk hd=>by
   rw[Lh enc s w b m dk os hblt,if_pos J,hb];show some (Obj.cells (Go.Sort.putCells id 0 (Go.Sort.flatK enc s dk) ⟨aG es++rest⟩) ty (0,0))=_;rw[avn (hsz dk hd)]
  have hoth: ∀(m:Nat) (os:Array Obj) (dk:Array _) (q:Nat),q<w.heap.size->q≠b->(sortWorldK enc s w b 0 m dk os).heap[q]? =w.heap[q]? :=fun m os dk q hq hne=>by rw[Lh enc s w b m dk os hq,if_neg hne]
  have hsub: ∀(m:Nat) (os:Array Obj) (dk:Array _) (c:Nat) (cs:List Value),G c=some cs-> ∃ty fz,(sortWorldK enc s w b 0 m dk os).heap[c]? =some (.cells ⟨cs⟩ ty fz):=fun m os dk c cs hcs=>by
   obtain⟨ty',fz,h⟩:=hw.sub c cs hcs;exact⟨ty',fz,by rw[hoth m os dk c (i5 h) (fun e=>by subst e;rw[hGb] at hcs;cases hcs)];exact h⟩
  have hsize: ∀(m:Nat) (os:Array Obj) (dk:Array _),w.heap.size<=(sortWorldK enc s w b 0 m dk os).heap.size:=fun m os dk=>by
   show _<=((w.heap.modify b _)++os).size;simp
  have hcmp:Go.Proofs.CmpLays P g #[] enc s (fun q r=>cf q.1.1 r.1.1) b 0 qs.toArray.size w:=by
   intro m os dk _ x y;have hF:=hc x.1.1 y.1.1 x.2.1 y.2.1 G [.agg ⟨x.1.2⟩, .agg ⟨y.1.2⟩] hgb (.cons x.2.2 (.cons y.2.2 .nil));refine(hF.run _ (hsub m os dk)).mono fun r W ⟨v,G',h1,h2,h3⟩=>?_;rw[bE] at h3;subst h3;refine⟨h1,W.drawn-(sortWorldK enc s w b 0 m dk os).drawn,W.heap.extract (sortWorldK enc s w b 0 m dk os).heap.size W.heap.size,?_⟩;have hdr:=h2.dr;have hos:=h2.os;have htp:=h2.tape;have hou:=h2.output;have hkp:=h2.keep;have hss:=h2.size;simp only at hdr hos htp hou hkp hss;generalize sortWorldK enc s w b 0 m dk os=W0 at*
   cases W with
   |mk heap tape drawn os' output=>
    simp only at*;unfold Go.Sort.grow World.drewN;simp only[World.mk.injEq];refine⟨?_,htp,we,hos,hou⟩;apply Array.ext_getElem?;intro k;rw[Array.getElem?_append];split
    .rename_i hk';exact hkp k hk' omc
    .rename_i hk'
     rw[Array.getElem?_extract];split
     .congr 1;omega
     .rw[mM we]
  have hO':Go.Sort.SWO (Go.Proofs.ltOf fun(q r:{q:A×List Value//V q.1/\Is G (e q.1) (.agg ⟨q.2⟩)})=>cf q.1.1 r.1.1):=⟨fun x=>hO.irrefl x.1.1,fun x y z=>hO.trans x.1.1 y.1.1 z.1.1,fun x y z=>hO.ntrans x.1.1 y.1.1 z.1.1⟩;have hrun:=AnyQ.slices_SortFunc L s hAg hZs enc hk (fun q v hv=>Xl ((henc q).2 v hv)) (fun q r=>cf q.1.1 r.1.1) hO' g #[] b 0 z.c qs.toArray w (fun args w=>Hc hg args w) hcmp hH hblt (by rw[hqs,hlen];exact hn);have ez:z=⟨some ⟨b,0,none⟩,qs.toArray.size,z.c⟩:=by rw[hqs];exact e1
  have ea:(⟨[Value.slice z.a z.n z.c, .func (.func g) #[] #[]]⟩:Array Value)= #[.slice (some ⟨b,0,none⟩) qs.toArray.size z.c, .func (.func g) #[] #[]]:=by rw[ez]
  rw[ea];refine hrun.mono fun r w' ⟨h1,d',n,os,hp,hs,h2⟩=>?_;subst h2;have hdz:d'.size=qs.toArray.size:=hp.1;have hperm:d'.toList.Perm qs:=by
   have:=hp.2.2;have e1:d'.toList.take qs.length=d'.toList:=cZ (by rw[iL,hdz];simp);simpa[e1] using this
  have hasc:d'.toList.Pairwise fun x y=> ¬cf y.1.1 x.1.1<0:=by
   rw[jS];intro i j hi hj hij;have:=hs i j (bS _) hij (by rw[<-hdz];simpa using hj);rw[getElem!_pos d' j omQ,getElem!_pos d' i omR] at this;simpa[Go.Proofs.ltOf] using this
  have hds:d'.toList.map (·.1.1)=qE cf ds:=by
   refine List.Perm.eq_of_pairwise (le:=fun x y=> ¬cf y x<0) (fun x y hx hy k1 k2=>?_) ?_ (OE hO ds) ?_
   .have m1:x∈ds:=by
     obtain⟨q,hq,rfl⟩:=aS.1 hx;rw[<-hq1];exact aS.2 ⟨q,hperm.mem_iff.1 hq,J⟩
    exact hu x m1 y ((zz cf ds).mem_iff.1 hy) k2 k1
   .rw[nR];exact hasc
   .refine(hperm.map _).trans ?_
    rw[hq1];exact(zz cf ds).symm
  have hlen':(d'.toList.map fun q=>Value.agg ⟨q.1.2⟩).length=es.length:=by rw[aK,iL,hdz,hqs]
  have hIs: ∀l:List {q:A×List Value//V q.1/\Is G (e q.1) (.agg ⟨q.2⟩)},IsLs G ((l.map (·.1.1)).map e) (l.map fun q=>Value.agg ⟨q.1.2⟩):=fun l=>by
   induction l with
   |nil=>exact .nil
   |cons q l ih=>exact .cons q.2.2 ih
  have hcell: ∀v∈d'.toList.map (fun q=>Value.agg ⟨q.1.2⟩),(aP v).length=s:=fun v hv=>by
   obtain⟨q,_,rfl⟩:=aS.1 hv;exact hk q
  refine⟨_,[⟨b,aG (d'.toList.map fun q=>Value.agg ⟨q.1.2⟩)++rest,ty,false⟩],G,h1,?_,mm.2 ⟨[],J, .nil⟩,d'.toList.map (fun q=>Value.agg ⟨q.1.2⟩), .inr ⟨b,rest,false,by rw[hlen'];exact e1,J,f7 _ hcell,?_,by rw[hlen'];exact e5⟩,by rw[<-hds];exact hIs _,hcell,fun h=>by cases h⟩
  .refine⟨J,J,J,hsize n os d',fun q hq hqm=>hoth n os d' q hq fun e=>hqm (by rw[e];exact aQ),hsub n os d',cc.refl _,fun _ _=>J,fun o ho=>?_,List.pairwise_singleton _ _,?_,fun p hp=>(by cases hp)⟩
   .rw[aV.1 ho]
    exact⟨by rw[<-hfl];exact hblk n os d' hdz,hGb,(fun h=>by cases h),fun _=>aQ⟩
   .show w.drawn<=w.drawn+n
    omega
  .rw[<-e4,f7 _ hcell,e3,hlen']
def YS{a b c:aa}(h:cp c a):cp c b\/cp b a:=by
 by_cases h1:c.half<b.half
 .exact .inl (.inl h1)
 .by_cases h2:b.half<a.half
  .exact .inr (.inl h2)
  .rcases h with h|⟨h,k⟩
   .omega
   .have e1:c.half=b.half:=by omega
    have e2:b.half=a.half:=by omega
    by_cases q1:0<c.cross b
    .exact .inl (.inr ⟨e1,q1⟩)
    .by_cases q2:0<b.cross a
     .exact .inr (.inr ⟨e2,q2⟩)
     .exfalso
      have i1:b.y*c.cross a=a.y*c.cross b+c.y*b.cross a:=by unfold aa.cross;grind
      have i2:b.x*c.cross a=a.x*c.cross b+c.x*b.cross a:=by unfold aa.cross;grind
      have q1':c.cross b<=0:=by grind
      have q2':b.cross a<=0:=by grind
      rcases lI b with⟨eb,kb⟩|⟨eb,kb⟩|⟨eb,kb⟩<;>rcases lI a with⟨ea,ka⟩|⟨ea,ka⟩|⟨ea,ka⟩<;>rcases lI c with⟨ec,kc⟩|⟨ec,kc⟩|⟨ec,kc⟩<;>first|omega|skip
      .have ha:0<=a.y:=by grind
       have hc:0<=c.y:=by grind
       rcases kb with kb|⟨kb,kb'⟩
       .have g1:=pZ ha (show 0<= -c.cross b by grind)
        have g2:=pZ hc (show 0<= -b.cross a by grind);have g3:=bg kb k;grind
       .have hx:b.cross a=b.x*a.y:=by unfold aa.cross;rw[kb];grind
        have ha0:a.y=0:=by
         rcases ka with ka|ka
         .have:=bg kb' ka;grind
         .exact ka.1
        have hax:0<a.x:=by grind
        have hy:c.cross a= -(c.y*a.x):=by unfold aa.cross;rw[ha0];grind
        have:=pZ hc (show 0<=a.x by grind);grind
      .have ha:0<= -a.y:=by grind
       have hc:0<= -c.y:=by grind
       rcases kb with kb|⟨kb,kb'⟩
       .have g1:=pZ ha (show 0<= -c.cross b by grind)
        have g2:=pZ hc (show 0<= -b.cross a by grind);have g3:=bg (show 0< -b.y by grind) k;grind
       .have hx:b.cross a=b.x*a.y:=by unfold aa.cross;rw[kb];grind
        have ha0:a.y=0:=by
         rcases ka with ka|ka
         .have:=bg (show 0< -b.x by grind) (show 0< -a.y by grind);grind
         .exact ka.1
        have hax:0< -a.x:=by grind
        have hy:c.cross a= -(c.y*a.x):=by unfold aa.cross;rw[ha0];grind
        have:=pZ hc (show 0<= -a.x by grind);grind
      .have hy:c.cross a=0:=by unfold aa.cross;rw[ka.1,ka.2];grind
       rw[hy] at k;exact absurd k oma
def S4:Go.Sort.SWO (Go.Proofs.ltOf cF):=by
 have e: ∀x y,Go.Proofs.ltOf cF x y=true↔cp x y:=fun x y=>by rw[<-nC];simp[Go.Proofs.ltOf]
 have e2: ∀x y,Go.Proofs.ltOf cF x y=false↔ ¬cp x y:=fun x y=>by rw[<-e];simp
 refine⟨fun x=>(e2 x x).2 (so x),fun x y z h k=>(e x z).2 (vY ((e x y).1 h) ((e y z).1 k)),fun x y z h k=>(e2 x z).2 fun q=>?_⟩;rcases YS (b:=y) q with q|q
 .exact(e2 x y).1 h q
 .exact(e2 y z).1 k q
def Nb: ∀{l m:List aa},l.Pairwise cp->m.Pairwise cp->(∀x,x∈l↔x∈m)->l=m
 |[],[],_,_,_=>rfl
 |[],b::m,_,_,h=>absurd ((h b).2 aQ) omc
 |a::l,[],_,_,h=>absurd ((h a).1 aQ) omc
 |a::l,b::m,h1,h2,h=>by
  obtain⟨p1,p2⟩:=bM.1 h1;obtain⟨q1,q2⟩:=bM.1 h2;have e:a=b:=by
   rcases aW.1 ((h a).1 aQ) with e|e
   .exact e
   .rcases aW.1 ((h b).2 aQ) with f|f
    .exact f.symm
    .exact(zb (q1 a e) (p1 b f)).elim
  subst e;congr 1;refine Nb p2 q2 fun x=>⟨fun hx=>?_,fun hx=>?_⟩
  .rcases aW.1 ((h x).1 (aX _ hx)) with e|e
   .subst e;exact(so _ (p1 _ hx)).elim
   .exact e
  .rcases aW.1 ((h x).2 (aX _ hx)) with e|e
   .subst e;exact(so _ (q1 _ hx)).elim
   .exact e
def xf(l:List aa):Prop:= ∀x∈l,∀y∈l,cF x y=0->x=y
def SF: ∀{l:List aa} {x:aa},(x::l).Pairwise (fun a b=> ¬cp b a)->xf (x::l)->(lx x l).Pairwise cp/\(∀y∈lx x l,cp x y)/\ ∀y,y∈x::lx x l↔y∈x::l
 |[],_,_,_=>⟨.nil,(fun y hy=>by cases hy),fun _=>Iff.rfl⟩
 |z::l,x,h,ht=>by
  obtain⟨p1,p2⟩:=bM.1 h;obtain⟨i1,i2,i3⟩:=SF p2 fun a ha b hb=>ht a (aX _ ha) b (aX _ hb);rw[lx];by_cases e:cF z x=0
  .rw[if_pos e]
   obtain rfl:=ht z omc x omc e;exact⟨i1,i2,fun y=>by rw[i3];simp⟩
  .rw[if_neg e]
   have hb:cp x z:=by
    by_cases q:cp x z
    .exact q
    .exact absurd (EK (p1 z aQ) q) e
   refine⟨bM.2 ⟨i2,i1⟩,fun y hy=>?_,fun y=>?_⟩
   .rcases aW.1 hy with rfl|hy
    .exact hb
    .exact vY hb (i2 y hy)
   .rw[aW,i3,aW (b:=x) (l:=z::l)]
def P': ∀(l:List aa) (x:aa),(lx x l).length<=l.length
 |[],_=>bV _
 |y::l,x=>by
  have:=P' l y;rw[lx];split<;>simp only[bZ]<;>omega
def Wj(l:List aa):(sP l).length<=l.length:=by
 cases l with
 |nil=>exact bV _
 |cons x l=>have:=P' l x;simp only[sP,bZ];omega
def aFg{l:List aa}(h:l.Pairwise fun a b=> ¬cp b a)(ht:xf l):(sP l).Pairwise cp/\ ∀y,y∈sP l↔y∈l:=by
 cases l with
 |nil=>exact⟨.nil,fun _=>Iff.rfl⟩
 |cons x l=>
  obtain⟨i1,i2,i3⟩:=SF h ht;exact⟨bM.2 ⟨i2,i1⟩,i3⟩
def Q9{l:List aa}(ht:xf l)(y:aa):y∈jb l↔y∈l:=by
 have h2: ∀y,y∈jb l->y∈l:=fun y hy=>by
  rcases BU cF hy with h|h
  .exact h
  .cases h
 refine⟨h2 y,fun hy=>?_⟩;obtain⟨e,e1,e2⟩:=IF cF (o:=[]) hy;rcases e2 with rfl|e2
 .exact e1
 .rw[<-ht e (h2 e e1) y hy e2];exact e1
def Me{l:List aa}(ht:xf l):sP (qE cF l)=jb l:=by
 have hm: ∀y,y∈qE cF l↔y∈l:=fun y=>(zz cF l).mem_iff;have h1:(qE cF l).Pairwise fun a b=> ¬cp b a:=(OE S4 l).imp fun h=>by rw[<-nC];exact h
 obtain⟨k1,k2⟩:=aFg h1 fun a ha b hb=>ht a ((hm a).1 ha) b ((hm b).1 hb);exact Nb k1 (Oe l) fun x=>by rw[k2,hm,Q9 ht]
def VH{t:Tr}(ht:t.all ab.ok)(p:aa):xf (fi t p):=fun x hx y hy h=>by
 obtain⟨l,k1,k2⟩:=q6.1 hx;obtain⟨m,k3,k4⟩:=q6.1 hy;obtain⟨a1,a2⟩:=pq k1;obtain⟨b1,b2⟩:=pq k3;exact LH (jO ht _ a1) (jO ht _ b1) a2 b2 k2 k4 h
end Go.Sx
end
section
namespace Go.Proofs
open Go.Shelf
def Tryz.sortPt_ren:Go.Shelf.Ren:=⟨fun|6=>171|15=>217|14=>216|28=>227|29=>241|20=>233|21=>234|22=>235|23=>236|24=>237|25=>238|26=>239|27=>240|46=>244|47=>245|48=>246|49=>247|50=>248|57=>251|n=>n,fun|22=>190|24=>119|25=>264|3=>3|39=>228|0=>0|53=>227|55=>159|4=>4|46=>312|45=>311|50=>316|5=>5|9=>9|66=>322|70=>326|76=>331|77=>332|n=>n,fun|n=>n⟩
def Tryz.sortPt:Go.Proofs.SlLaysF0.n6 Tryz.prog Tryz.sortPt_ren:={
 mixed:=by kernel_rfl
 f6:=⟨Tryz.f171.name,by decide,Tryz.func171.trans (congrArg some (by kernel_rfl))⟩
 f14:=⟨Tryz.f216.name,by decide,Tryz.func216.trans (congrArg some (by kernel_rfl))⟩
 f15:=Tryz.func217.trans (congrArg some (by kernel_rfl))
 f20:=⟨Tryz.f233.name,by decide,Tryz.func233.trans (congrArg some (by kernel_rfl))⟩
 f21:=⟨Tryz.f234.name,by decide,Tryz.func234.trans (congrArg some (by kernel_rfl))⟩
 f22:=⟨Tryz.f235.name,by decide,Tryz.func235.trans (congrArg some (by kernel_rfl))⟩
 f23:=⟨Tryz.f236.name,by decide,Tryz.func236.trans (congrArg some (by kernel_rfl))⟩
 f24:=⟨Tryz.f237.name,by decide,Tryz.func237.trans (congrArg some (by kernel_rfl))⟩
 f25:=⟨Tryz.f238.name,by decide,Tryz.func238.trans (congrArg some (by kernel_rfl))⟩
 f26:=⟨Tryz.f239.name,by decide,Tryz.func239.trans (congrArg some (by kernel_rfl))⟩
 f27:=⟨Tryz.f240.name,by decide,Tryz.func240.trans (congrArg some (by kernel_rfl))⟩
 f28:=Tryz.func227.trans (congrArg some (by kernel_rfl))
 f29:=Tryz.func241.trans (congrArg some (by kernel_rfl))
 f46:=⟨Tryz.f244.name,by decide,Tryz.func244.trans (congrArg some (by kernel_rfl))⟩
 f47:=Tryz.func245.trans (congrArg some (by kernel_rfl))
 f48:=Tryz.func246.trans (congrArg some (by kernel_rfl))
 f49:=⟨Tryz.f247.name,by decide,Tryz.func247.trans (congrArg some (by kernel_rfl))⟩
 f50:=⟨Tryz.f248.name,by decide,Tryz.func248.trans (congrArg some (by kernel_rfl))⟩
 f57:=⟨Tryz.f251.name,by decide,Tryz.func251.trans (congrArg some (by kernel_rfl))⟩
 t0:=Tryz.underlying0
 a0:=Tryz.isAgg0
 z0:=Tryz.sizeOf0
 v0:=Tryz.zeroValue0
 t3:=Tryz.underlying3
 a3:=Tryz.isAgg3
 z3:=Tryz.sizeOf3
 v3:=Tryz.zeroValue3
 t4:=Tryz.underlying4
 a4:=Tryz.isAgg4
 z4:=Tryz.sizeOf4
 v4:=Tryz.zeroValue4
 t5:=Tryz.underlying5
 a5:=Tryz.isAgg5
 z5:=Tryz.sizeOf5
 v5:=Tryz.zeroValue5
 t9:=Tryz.underlying9
 a9:=Tryz.isAgg9
 z9:=Tryz.sizeOf9
 v9:=Tryz.zeroValue9
 t22:=Tryz.underlying190
 a22:=Tryz.isAgg190
 z22:=Tryz.sizeOf190
 v22:=Tryz.zeroValue190
 t25:=Tryz.underlying264
 a25:=Tryz.isAgg264
 z25:=Tryz.sizeOf264
 v25:=Tryz.zeroValue264
 t39:=Tryz.underlying228
 a39:=Tryz.isAgg228
 z39:=Tryz.sizeOf228
 v39:=Tryz.zeroValue228
 t45:=Tryz.underlying311
 a45:=Tryz.isAgg311
 z45:=Tryz.sizeOf311
 v45:=Tryz.zeroValue311
 t46:=Tryz.underlying312
 a46:=Tryz.isAgg312
 z46:=Tryz.sizeOf312
 v46:=Tryz.zeroValue312
 t50:=Tryz.underlying316
 a50:=Tryz.isAgg316
 z50:=Tryz.sizeOf316
 v50:=Tryz.zeroValue316
 t53:=Tryz.underlying227
 a53:=Tryz.isAgg227
 z53:=Tryz.sizeOf227
 v53:=Tryz.zeroValue227
 t55:=Tryz.underlying159
 a55:=Tryz.isAgg159
 z55:=Tryz.sizeOf159
 v55:=Tryz.zeroValue159
 t66:=Tryz.underlying322
 a66:=Tryz.isAgg322
 z66:=Tryz.sizeOf322
 v66:=Tryz.zeroValue322
 t70:=Tryz.underlying326
 a70:=Tryz.isAgg326
 z70:=Tryz.sizeOf326
 v70:=Tryz.zeroValue326
 t76:=Tryz.underlying331
 a76:=Tryz.isAgg331
 z76:=Tryz.sizeOf331
 v76:=Tryz.zeroValue331
 t77:=Tryz.underlying332
 a77:=Tryz.isAgg332
 z77:=Tryz.sizeOf332
 v77:=Tryz.zeroValue332}
end Go.Proofs
end
