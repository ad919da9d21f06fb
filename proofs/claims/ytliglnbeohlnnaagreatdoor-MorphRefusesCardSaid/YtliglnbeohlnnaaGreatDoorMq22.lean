import Derived.Test.YtliglnbeohlnnaaGreatDoorMq21
import Derived.Test.YtliglnbeohlnnaaGreatDoorCards
import Derived.Test.YtliglnbeohlnnaaGreatDoorTie
import Derived.WalkKit
import Derived.ProofKit
import Derived.OpenShut
import Derived.Deep.DeepHandedRow
import Derived.Deep.DeepWitnessRowRef
import Derived.LaidMore
import Derived.Lib.LaidTab
import Derived.SizedLaws
set_option linter.all false
set_option maxHeartbeats 8000000
set_option maxRecDepth 100000
section
namespace Go.Sx
open Go Go.Proofs Tryz
variable {GB:Gh}{a b ds:List Nat}{n j k i a':Nat}{m:Bool}{r:List WP}{v V:List ah}{ai al ar ae:Addr}{α:Type}{z fill:Int}{p w:ah}{t:Tr}{rs:List (List ah)}{es es0:List Int}
def W5(hl:a.length=b.length)(h: ∀j,j<a.length->a.getD j 0=b.getD j 0):a=b:=by
 apply List.ext_getElem hl;intro i h1 h2;have:=h i h1;rw[aV,aV,aQ h1,aQ h2] at this;exact this
def Rt(ha:a.length<=1000000):PF GB prog 248 [bD a,bD b] (vB (decide (a=b))):=by
 have hla:=b7 a;have hlb:=b7 b;refine fn func248 J J ntmps248 J J (fun C=>?_);refine br (fu2:=⟨7⟩) J J J (fun hc10=>?_) (fun hc10=>?_)
 .
  exact rz J (by rw[decide_eq_false (fun e:a=b=>hc10 ozI)];rfl)
 .
  refine aj 12 (.d (vI (a.length:Nat))) J omU<|gx J<|lp (X:=Nat) (fun i=>[(13, .d (vI (i:Nat))),(12, .d (vI (a.length:Nat))),(0, .d (bD a)),(1, .d (bD b))]) (fun i=>[]) (fun i=>i<=a.length/\ ∀j,j<i->a.getD j 0=b.getD j 0) (fun i=>a.length-i) 0 J ⟨aS _,fun j hj=>absurd hj we⟩ (fun _=>J) (fun i hk=>?_);obtain⟨h1,h2⟩:=hk;refine br J J J (fun hc14=>?_) (fun hc14=>?_)
  .
   refine ix _ J (fe) J<|ix _ J (fe) J<|br J J J (fun hc24=>?_) (fun hc24=>?_)
   .
    exact rz J (by rw[decide_eq_false (fun e:a=b=>hc24 ozI)];rfl)
   .
    exact at_ (i+1) ⟨⟨we,fun j hj=>by by_cases q:j=i;(subst q;omega);exact h2 j we⟩,we⟩
  .
   exact rz J (by rw[decide_eq_true (W5 we (fun j hj=>h2 j we))];rfl)
def azp{n:Bool}(ha:a.length<=1000000):PF GB prog 247 [.ag [.v (.bool n),bD a], .ag [.v (.bool m),bD b]] (vB (decide (n=m/\a=b))):=by
 refine fn (fu:=⟨14⟩) func247 J J ntmps247 J J (fun C=>?_);refine aj 9 (.d (.v (.bool (decide (n=m))))) J (by congr 2<;>cases n<;>cases m<;>rfl)<|gx J<|csd 10 J J J (fun hg10=>?_) (fun hg10=>?_)
 .
  refine cl J (Rt (a:=a) (b:=b) ha) J<|rz J omD
 .
  exact rz J omD
def Ta{r:WQ}(s:r.sm):PF GB prog 188 [.ag [.v (.bool r.n),bD r.d,bD r.e], .ag [.v (.bool m),bD a,bD b]] (vB (decide ((r.n=m/\r.d=a)/\r.e=b))):=by
 refine fn func188 J J ntmps188 J J (fun C=>?_);refine cl J (azp (n:=r.n) (m:=m) (a:=r.d) (b:=a) (by have:=s.d.2;omega)) J<|csd 10 J J J (fun hg10=>?_) (fun hg10=>?_)
 .
  refine cl J (Rt (a:=r.e) (b:=b) (by have:=s.e.2;omega)) J<|rz J omD
 .
  exact rz J omD
theorem WQ.bq0{r:WQ}(s:r.sm):BQ r.q 22:=by
 unfold WQ.q;by_cases h:dv r.e=0
 .rw[h,uS];exact⟨oma,oma⟩
 .exact zO we (by rw[m7];exact tI s.d) (tI s.e)
def aJ9(a:Nat):((dg a).map dU).length=0↔a=0:=by rw[aX];exact qn
def WQ.nm_iff{r:WQ}(s:r.sm):(((r.n=decide (r.q.num<0)/\r.d=dg r.q.num.natAbs)/\r.e=dg r.q.den)/\0<r.e.length)↔r.nm:=by
 constructor
 .rintro ⟨⟨⟨h1,h2⟩,h3⟩,h4⟩
  have e1:dv r.d=r.q.num.natAbs:=by rw[h2,c8]
  have e2:dv r.e=r.q.den:=by rw[h3,c8]
  refine⟨⟨by rw[h2];exact(eE _).2.2,fun k=>?_⟩,by rw[h3];exact(eE _).2.2,h4,by rw[e1,e2];exact r.q.reduced⟩;rw[k] at h1;have h5:=of_decide_eq_true h1.symm;rw[h2];refine fZ fun e=>?_;have:=qn.1 e;omega
 .intro h
  obtain⟨h1,h2⟩:=WQ.nd s h;have hz:decide (zv r.n (dv r.d)<0)=r.n:=Q9 fun k=>Dk s.d.1 h.1.1 (h.1.2 k);rw[h1,h2,m7,hz,qk s.d.1 h.1.1,qk s.e.1 h.2.1];exact⟨⟨⟨J,J⟩,J⟩,h.2.2.1⟩
def aL9{r:WQ}(s:r.sm)(h:dv r.e=0):PF GB prog 110 [.ag [.v (.bool r.n),bD r.d,bD r.e]] (eQ r.q):=by
 refine fn func110 J J ntmps110 J J (fun C=>?_);refine cl (fu:=⟨8⟩) J (FJ s.e.1 (by have:=s.e.2;omega)) J<|cF J (omg (by rw[(aJ9 _).2 h];rfl)) J<|rz J (by unfold WQ.q;rw[h,uS,D0];rfl)
def aMD{r:WQ}(s:r.sm)(h:0<dv r.e):PF GB prog 110 [.ag [.v (.bool r.n),bD r.d,bD r.e]] (eQ r.q):=by
 haveI:BI (mD r.n r.d) 22:=⟨by rw[DJ];exact tI s.d⟩;haveI:BN (dv r.e) 22:=⟨tI s.e⟩;refine fn func110 J J ntmps110 J J (fun C=>?_);refine cl (fu:=⟨8⟩) J (FJ s.e.1 (by have:=s.e.2;omega)) J<|bO J (omh (Rr h)) J<|cl J (Cg (neg:=r.n) s.d.1 (by have:=s.d.2;omega)) J<|cl J (wW (x:=mD r.n r.d) (d:=dv r.e) (i:=22) (j:=22) h) J<|rz J J
def RG{r:WQ}(s:r.sm):PF GB prog 110 [.ag [.v (.bool r.n),bD r.d,bD r.e]] (eQ r.q):=by
 by_cases h:dv r.e=0
 .exact aL9 s h
 .exact aMD s we
def aLL{r:WQ}(s:r.sm)(h:((r.n=decide (r.q.num<0)/\r.d=dg r.q.num.natAbs)/\r.e=dg r.q.den)):PF GB prog 108 [.ag [.v (.bool r.n),bD r.d,bD r.e]] (vB (decide (0<r.e.length))):=by
 haveI:=WQ.bq0 s;have hml:(r.e.map dU).length=r.e.length:=aX ..;refine fn func108 J J ntmps108 J J (fun C=>?_);refine cl J (RG s) J<|cl J (Dg (q:=r.q) (i:=22)) J<|cl (fu:=⟨0⟩) J (Ta (r:=r) (m:=decide (r.q.num<0)) (a:=dg r.q.num.natAbs) (b:=dg r.q.den) s) J<|cF J (omg h) J<|rz J (by show DV.v (.bool (decide _))= .v (.bool (decide _));congr 2;rw[decide_eq_decide];omega)
def aMs{r:WQ}(s:r.sm)(h: ¬((r.n=decide (r.q.num<0)/\r.d=dg r.q.num.natAbs)/\r.e=dg r.q.den)):PF GB prog 108 [.ag [.v (.bool r.n),bD r.d,bD r.e]] (.v (.bool false)):=by
 haveI:=WQ.bq0 s;have hml:(r.e.map dU).length=r.e.length:=aX ..;refine fn func108 J J ntmps108 J J (fun C=>?_);refine cl J (RG s) J<|cl J (Dg (q:=r.q) (i:=22)) J<|cl (fu:=⟨0⟩) J (Ta (r:=r) (m:=decide (r.q.num<0)) (a:=dg r.q.num.natAbs) (b:=dg r.q.den) s) J<|bO J (omh h) J<|rz J J
def UQ{r:WQ}(s:r.sm):PF GB prog 108 [.ag [.v (.bool r.n),bD r.d,bD r.e]] (vB (decide r.nm)):=by
 have hi:=WQ.nm_iff s;by_cases h:((r.n=decide (r.q.num<0)/\r.d=dg r.q.num.natAbs)/\r.e=dg r.q.den)
 .rw[show decide r.nm=decide (0<r.e.length) from decide_eq_decide.2 ⟨fun k=>(hi.2 k).2,fun k=>hi.1 ⟨h,k⟩⟩];exact aLL s h
 .rw[show decide r.nm=false from decide_eq_false fun k=>h (hi.2 k).1];exact aMs s h
def xu(s: ∀q∈r,q.sm)(h9:r.length<=100)(hv:v=cj r)(hn: ∀q∈r,q.nm):PF GB prog 21 [fk r] (.sl (v.map eP)):=by
 have h1:=px r;rw[zU s hn,hv];exact Mj (fun p hp=>(oA s hn p hp).mono' oma) we
def FS{r:WP}(s:r.sm):PF GB prog 55 [r.D] (vB (decide r.nm)):=by
 refine fn func55 J J ntmps55 J J (fun C=>?_);refine cl J (UQ (r:=r.x) s.x) J<|csd 6 J J J (fun hg6=>?_) (fun hg6=>?_)
 .
  refine cl J (UQ (r:=r.y) s.y) J<|rz J omL
 .
  exact rz J omL
theorem ozr{p:Prop}(h:p:=by simpa using hc18):p:=h
def Wk(s: ∀q∈r,q.sm)(h9:r.length<=100){b:WP}(hj:r[j]? =some b)(hb: ¬b.nm):PF GB prog 18 [fk r] (vI 2):=by
 have hml:(r.map WP.D).length=r.length:=aX ..;have hjl:=(aT.1 hj).1;refine fn (fu:=⟨10⟩) func18 J J ntmps18 J J (fun C=>?_);refine aj 8 (.d (vI (r.length:Nat))) J omo<|gx (fu:=⟨0⟩) J<|bO (fu:=⟨10⟩) J (omh we) J<|aj 11 (.d (vI (r.length:Nat))) J omo<|gx J<|lp (X:=Nat) (fun k=>[(12, .d (vI (k:Nat)))]) (fun k=>[]) (fun k=>k<=j) (fun k=>r.length-k) 0 J (aS _) (fun _=>J) (fun k hk=>?_);refine br J J J (fun hc13=>?_) (fun hc13=>?_)
 .
  obtain⟨q,hx⟩: ∃u,r[k]? =some u:=⟨_,aQ we⟩;have hqs:=s q (aK hx);refine ix _ J (ce hx) J<|cl J (FS (r:=q) hqs) J<|bb J J J (fun hc18=>?_) (fun hc18=>?_)
  .
   exact rz J J
  .
   exact at_ (k+1) ⟨(by rcases gN k j with h|h;omega;exact absurd ozr ozv),we⟩
 .
  exact absurd hc13 we
def WO(s: ∀q∈r,q.sm)(h9:r.length<=100)(hv:v=cj r)(hn: ∀q∈r,q.nm)(h3:(gn cO v).length<3):PF GB prog 18 [fk r] (vI 3):=by
 have hml:(r.map WP.D).length=r.length:=aX ..;have hb22: ∀p∈cj r,aE p 22:=oA s hn;have hvl:v.length=r.length:=by rw[hv];exact px r
 have hvb: ∀p∈v,aE p 1200:=fun p hp=>by rw[hv] at hp;exact(hb22 p hp).mono' oma
 have hse:((gn cO v).map eP).length=(gn cO v).length:=aX ..;have he:fk r= .sl (v.map iz):=by rw[hv];exact zU s hn
 refine fn (fu:=⟨10⟩) func18 J J ntmps18 J J (fun C=>?_);refine aj 8 (.d (vI (r.length:Nat))) J omo<|gx (fu:=⟨0⟩) J<|bO (fu:=⟨10⟩) J (omh we) J<|aj 11 (.d (vI (r.length:Nat))) J omo<|gx J<|lp (X:=Nat) (fun k=>[(12, .d (vI (k:Nat)))]) (fun k=>[]) (fun k=>k<=r.length) (fun k=>r.length-k) 0 J (aS _) (fun _=>J) (fun k hk=>?_);refine br J J J (fun hc13=>?_) (fun hc13=>?_)
 .
  obtain⟨q,hx⟩: ∃u,r[k]? =some u:=⟨_,aQ we⟩;have hqs:=s q (aK hx);refine ix _ J (ce hx) J<|cl J (FS (r:=q) hqs) J<|bb J J J (fun hc18=>?_) (fun hc18=>?_)
  .
   exact absurd (hn q (aK hx)) ozr
  .
   exact at_ (k+1) ⟨we,we⟩
 .
  refine cl J (xu s h9 hv hn) J<|cl (fu:=⟨1⟩) J (EW (ps:=v) hvb) J<|aj 24 (.d (vI ((gn cO v).length:Nat))) J (by rw[hse]<;>rfl)<|gx (fu:=⟨0⟩) J<|cF J (omg we) J<|rz J J
def WA(s: ∀q∈r,q.sm)(h9:r.length<=100)(hv:v=cj r)(hn: ∀q∈r,q.nm)(h3:3<=(gn cO v).length)(hj:j<v.length)(hb: ¬tD (v.getD j PZ) (j' v j)):PF GB prog 18 [fk r] (vI 3):=by
 have hml:(r.map WP.D).length=r.length:=aX ..;have hb22: ∀p∈cj r,aE p 22:=oA s hn;have hvl:v.length=r.length:=by rw[hv];exact px r
 have hvb: ∀p∈v,aE p 1200:=fun p hp=>by rw[hv] at hp;exact(hb22 p hp).mono' oma
 have hse:((gn cO v).map eP).length=(gn cO v).length:=aX ..;have he:fk r= .sl (v.map iz):=by rw[hv];exact zU s hn
 have hmv:(v.map eP).length=v.length:=aX ..;refine fn (fu:=⟨10⟩) func18 J J ntmps18 J J (fun C=>?_);refine aj 8 (.d (vI (r.length:Nat))) J omo<|gx (fu:=⟨0⟩) J<|bO (fu:=⟨10⟩) J (omh we) J<|aj 11 (.d (vI (r.length:Nat))) J omo<|gx J<|lp (X:=Nat) (fun k=>[(12, .d (vI (k:Nat)))]) (fun k=>[]) (fun k=>k<=r.length) (fun k=>r.length-k) 0 J (aS _) (fun _=>J) (fun k hk=>?_);refine br J J J (fun hc13=>?_) (fun hc13=>?_)
 .
  obtain⟨q,hx⟩: ∃u,r[k]? =some u:=⟨_,aQ we⟩;have hqs:=s q (aK hx);refine ix _ J (ce hx) J<|cl J (FS (r:=q) hqs) J<|bb J J J (fun hc18=>?_) (fun hc18=>?_)
  .
   exact absurd (hn q (aK hx)) ozr
  .
   exact at_ (k+1) ⟨we,we⟩
 .
  refine cl J (xu s h9 hv hn) J<|cl (fu:=⟨1⟩) J (EW (ps:=v) hvb) J<|aj 24 (.d (vI ((gn cO v).length:Nat))) J (by rw[hse]<;>rfl)<|gx (fu:=⟨0⟩) J<|bO (fu:=⟨10⟩) J (omh we) J<|aj 27 (.d (vI (v.length:Nat))) J (by rw[hmv]<;>rfl)<|gx J<|lp (X:=Nat) (fun k=>[(28, .d (vI (k:Nat)))]) (fun k=>[]) (fun k=>k<=j) (fun k=>v.length-k) 0 J (aS _) (fun _=>J) (fun k hk=>?_);refine br J J J (fun hc29=>?_) (fun hc29=>?_)
  .
   obtain⟨p,hpx⟩: ∃u,v[k]? =some u:=⟨_,aQ we⟩;obtain⟨q,hqx⟩: ∃u,v[(k+1)%v.length]? =some u:=⟨_,aQ (dK _ we)⟩;haveI:=hvb p (aK hpx);haveI:=hvb q (aK hqx);obtain⟨f1,f2⟩:=Cb hpx hqx;refine ix (fu:=⟨7⟩) _ J (ce hpx) J<|aj 40 (.d (vI (((k+1)%v.length:Nat):Int))) J (by rw[hmv]<;>rfl)<|gx J<|ix _ J (ce hqx) J<|cl J (R5 (p:=p) (q:=q) (i:=1200) (j:=1200)) J<|bd J J J (fun hc43=>?_) (fun hc43=>?_)
   .
    exact rz J J
   .
    exact at_ (k+1) ⟨(by rcases gN k j with h|h;omega;exact absurd hc43 (by obtain rfl:k=j:=we;rw[f1,f2];exact fun e=>hb e)),we⟩
  .
   exact absurd hc29 we
def aHk(s: ∀q∈r,q.sm)(h9:r.length<=100)(hv:v=cj r)(hn: ∀q∈r,q.nm)(h3:3<=(gn cO v).length)(hg: ∀j<v.length,tD (v.getD j PZ) (j' v j)):PF GB prog 18 [fk r] (vI 0):=by
 have hml:(r.map WP.D).length=r.length:=aX ..;have hb22: ∀p∈cj r,aE p 22:=oA s hn;have hvl:v.length=r.length:=by rw[hv];exact px r
 have hvb: ∀p∈v,aE p 1200:=fun p hp=>by rw[hv] at hp;exact(hb22 p hp).mono' oma
 have hse:((gn cO v).map eP).length=(gn cO v).length:=aX ..;have he:fk r= .sl (v.map iz):=by rw[hv];exact zU s hn
 have hmv:(v.map eP).length=v.length:=aX ..;refine fn (fu:=⟨10⟩) func18 J J ntmps18 J J (fun C=>?_);refine aj 8 (.d (vI (r.length:Nat))) J omo<|gx (fu:=⟨0⟩) J<|bO (fu:=⟨10⟩) J (omh we) J<|aj 11 (.d (vI (r.length:Nat))) J omo<|gx J<|lp (X:=Nat) (fun k=>[(12, .d (vI (k:Nat)))]) (fun k=>[]) (fun k=>k<=r.length) (fun k=>r.length-k) 0 J (aS _) (fun _=>J) (fun k hk=>?_);refine br J J J (fun hc13=>?_) (fun hc13=>?_)
 .
  obtain⟨q,hx⟩: ∃u,r[k]? =some u:=⟨_,aQ we⟩;have hqs:=s q (aK hx);refine ix _ J (ce hx) J<|cl J (FS (r:=q) hqs) J<|bb J J J (fun hc18=>?_) (fun hc18=>?_)
  .
   exact absurd (hn q (aK hx)) ozr
  .
   exact at_ (k+1) ⟨we,we⟩
 .
  refine cl J (xu s h9 hv hn) J<|cl (fu:=⟨1⟩) J (EW (ps:=v) hvb) J<|aj 24 (.d (vI ((gn cO v).length:Nat))) J (by rw[hse]<;>rfl)<|gx (fu:=⟨0⟩) J<|bO (fu:=⟨10⟩) J (omh we) J<|aj 27 (.d (vI (v.length:Nat))) J (by rw[hmv]<;>rfl)<|gx J<|lp (X:=Nat) (fun k=>[(28, .d (vI (k:Nat)))]) (fun k=>[]) (fun k=>k<=v.length) (fun k=>v.length-k) 0 J (aS _) (fun _=>J) (fun k hk=>?_);refine br J J J (fun hc29=>?_) (fun hc29=>?_)
  .
   obtain⟨p,hpx⟩: ∃u,v[k]? =some u:=⟨_,aQ we⟩;obtain⟨q,hqx⟩: ∃u,v[(k+1)%v.length]? =some u:=⟨_,aQ (dK _ we)⟩;haveI:=hvb p (aK hpx);haveI:=hvb q (aK hqx);obtain⟨f1,f2⟩:=Cb hpx hqx;refine ix (fu:=⟨7⟩) _ J (ce hpx) J<|aj 40 (.d (vI (((k+1)%v.length:Nat):Int))) J (by rw[hmv]<;>rfl)<|gx J<|ix _ J (ce hqx) J<|cl J (R5 (p:=p) (q:=q) (i:=1200) (j:=1200)) J<|bd J J J (fun hc43=>?_) (fun hc43=>?_)
   .
    exact absurd (by rw[f1,f2] at hc43;exact hc43) (hg k we)
   .
    exact at_ (k+1) ⟨we,we⟩
  .
   exact rz J J
def aGe(hE:ja GB ai al ar):PF GB prog 19 [vI 2] (mc ai):=by
 refine fn func19 J J ntmps19 J J (fun C=>?_);refine br J J J (fun hc4=>?_) (fun hc4=>?_)
 .
  exact absurd hc4 oma
 .
  refine br J J J (fun hc7=>?_) (fun hc7=>?_)
  .
   refine gl J hE.ErrInvalid J<|rz J J
  .
   exact absurd J hc7
def aF1(hE:ja GB ai al ar):PF GB prog 19 [vI 3] (mc ar):=by
 refine fn func19 J J ntmps19 J J (fun C=>?_);refine br J J J (fun hc4=>?_) (fun hc4=>?_)
 .
  exact absurd hc4 oma
 .
  refine br J J J (fun hc7=>?_) (fun hc7=>?_)
  .
   exact absurd hc7 oma
  .
   refine gl J hE.ErrRing J<|rz J J
section
variable {C:aF}{Q0:Exit->Act->World->Prop}{fr fr':aC}{own own':aO}{cf cf':Cf}{vc:List Prop}
end
def Lr{f:α->Bool}{l:List α}{x:α}(hx:l[k]? =some x)(h:f x=false):l.all f=false:=by
 rw[sQ];exact⟨x,aK hx,by simp[h]⟩
def Q2{f:α->Bool}{l:List α}{x:α}(hx:l[k]? =some x)(h:(l.take k).all f=true)(hq:f x=true):(l.take (k+1)).all f=true:=by
 rw[dW,hx,List.all_append,h];simp[hq]
def WQ.smB(n:Int)(r:WQ):Bool:=decide ((r.d.length:Int)<=n)&&decide ((r.e.length:Int)<=n)
def WP.smB(n:Int)(r:WP):Bool:=r.x.smB n&&r.y.smB n
def OQ(n:Int)(r:WP):r.smB n=[r.x,r.y].all (WQ.smB n):=by simp[WP.smB]
def aNy{b:Bool}(h:(!b)=true):b=false:=by cases b;rfl;cases h
def Ku{b:Bool}(h:(!b)=false):b=true:=by cases b;cases h;rfl
def WQ.A(r:WQ):DV:= .ag [.v (.bool r.n),bD r.d,bD r.e]
structure WQ.wd (r:WQ):Prop where
 d:bt r.d
 e:bt r.e
structure WP.wd (r:WP):Prop where
 x:r.x.wd
 y:r.y.wd
def aBH{n:Int}{ls:List WQ}(hn:ls.length<=1000000):PF GB prog 22 [vI n, .sl (ls.map WQ.A)] (vB (ls.all (WQ.smB n))):=by
 have hm:(ls.map WQ.A).length=ls.length:=aX ..;refine fn (fu:=⟨10⟩) func22 J J ntmps22 J J (fun C=>?_);refine aj 8 (.d (vI (ls.length:Nat))) J omn<|gx J<|lp (X:=Nat) (fun k=>[(9, .d (vI (k:Nat)))]) (fun k=>[]) (fun k=>k<=ls.length/\(ls.take k).all (WQ.smB n)=true) (fun k=>ls.length-k) 0 J ⟨aS _,J⟩ (fun _=>J) (fun k hk=>?_);obtain⟨h1,h2⟩:=hk;refine br J J J (fun hc10=>?_) (fun hc10=>?_)
 .
  obtain⟨r,hx⟩: ∃s,ls[k]? =some s:=⟨_,aQ we⟩;have hmd:=b7 r.d;have hme:=b7 r.e;refine ix (fu:=⟨11⟩) _ J (ce hx) J<|aj 16 (.d (vI (r.d.length:Nat))) J (by rw[hmd]<;>rfl)<|gx J<|cs (fu2:=⟨3⟩) 19 J J J (fun hg19=>?_) (fun hg19=>?_)
  .
   exact rz J (by rw[Lr hx (by unfold WQ.smB;rw[decide_eq_false we];rfl)];rfl)
  .
   refine aj 22 (.d (vI (r.e.length:Nat))) J (by rw[hme]<;>rfl)<|gx J<|br J J J (fun hc25=>?_) (fun hc25=>?_)
   .
    exact rz J (by rw[Lr hx (by unfold WQ.smB;rw[decide_eq_false (p:=(r.e.length:Int)<=n) we,Bool.and_false])];rfl)
   .
    exact at_ (k+1) ⟨⟨we,Q2 hx h2 (by unfold WQ.smB;rw[decide_eq_true we,decide_eq_true we];rfl)⟩,we⟩
 .
  obtain rfl:k=ls.length:=by omega
  rw[dQ] at h2;exact rz J (by rw[h2];rfl)
def av6{n:Int}{ls:List WP}(hn:ls.length<=1000000):PF GB prog 4 [vI n, .sl (ls.map WP.D)] (vB (ls.all (WP.smB n))):=by
 have hm:(ls.map WP.D).length=ls.length:=aX ..;refine fn (fu:=⟨10⟩) func4 J J ntmps4 J J (fun C=>?_);refine aj 8 (.d (vI (ls.length:Nat))) J omn<|gx J<|lp (X:=Nat) (fun k=>[(9, .d (vI (k:Nat)))]) (fun k=>[]) (fun k=>k<=ls.length/\(ls.take k).all (WP.smB n)=true) (fun k=>ls.length-k) 0 J ⟨aS _,J⟩ (fun _=>J) (fun k hk=>?_);obtain⟨h1,h2⟩:=hk;refine br J J J (fun hc10=>?_) (fun hc10=>?_)
 .
  obtain⟨r,hx⟩: ∃s,ls[k]? =some s:=⟨_,aQ we⟩;refine ix _ J (ce hx) J<|rf J J<|cl J (aBH (n:=n) (ls:=[r.x,r.y]) (show 2<=1000000 by decide)) J<|bb J J J (fun hc20=>?_) (fun hc20=>?_)
  .
   exact rz J (by rw[Lr hx (by rw[OQ];exact aNy hc20)];rfl)
  .
   exact at_ (k+1) ⟨⟨we,Q2 hx h2 (by rw[OQ];exact Ku hc20)⟩,we⟩
 .
  obtain rfl:k=ls.length:=by omega
  rw[dQ] at h2;exact rz J (by rw[h2];rfl)
def WQ.of(q:Rat):WQ:=⟨decide (q.num<0),dg q.num.natAbs,dg q.den⟩
def WP.of(p:ah):WP:=⟨WQ.of p.x,WQ.of p.y⟩
def WQ.of_q(q:Rat):(WQ.of q).q=q:=by
 unfold WQ.q WQ.of;dsimp only;rw[c8,c8,l5,oN]
def WQ.of_nm(q:Rat):(WQ.of q).nm:=by
 have hd:=q.den_pos;refine⟨⟨(eE _).2.2,fun h=>?_⟩,(eE _).2.2,?_,?_⟩
 .have:=of_decide_eq_true h
  exact fZ fun e=>by have:=qn.1 e;omega
 .exact fZ fun e=>by have:=qn.1 e;omega
 .unfold WQ.of;dsimp only;rw[c8,c8];exact q.reduced
def WQ.of_sm{q:Rat}(h1:q.num.natAbs<2^62)(h2:q.den<2^62):(WQ.of q).sm:=by
 have k1:=ji h1;have k2:=ji h2;exact⟨⟨(eE _).2.1,by show(dg _).length<=4;omega⟩,⟨(eE _).2.1,by show(dg _).length<=4;omega⟩⟩
def QB(h:z.natAbs<=1000):(WQ.of (z:Rat)).sm:=WQ.of_sm (by rw[jN];exact dZ h oma) (by rw[kY];decide)
def rC(r:List ZP):List WP:=r.map fun z=>WP.of z.q
def O9(r:List ZP):fk (rC r)=Dc r:=by
 unfold fk rC Dc;rw[pY,pY];rfl
def CA(r:List ZP):cj (rC r)=r.map ZP.q:=by
 unfold cj rC;rw[pY];exact uJ fun z _=>by
  show WP.p (WP.of z.q)=z.q;unfold WP.p WP.of;rw[WQ.of_q,WQ.of_q]
def aFt{r:List ZP}(h:HP r):lC (rC r):=by
 have hn:=h.ok.n6;have hl:(rC r).length=r.length:=aX ..;refine⟨fun q hq=>?_,fun q hq=>?_,we,by rw[CA];exact h.c3,fun i hi=>?_⟩
 .obtain⟨z,hz,rfl⟩:=aU.1 hq
  have:=h.ok.le z hz;exact⟨QB (by have:=this.1;omega),QB (by have:=this.2;omega)⟩
 .obtain⟨z,hz,rfl⟩:=aU.1 hq
  exact⟨WQ.of_nm _,WQ.of_nm _⟩
 .rw[CA] at hi⊢
  rw[aX] at hi;have e1:(r.map ZP.q).getD i PZ=(r.getD i (0,0)).q:=by
   rw[aV,aV,bL,aQ hi];rfl
  have e2:j' (r.map ZP.q) i=(iv r i).q:=by
   unfold j' iv;have hm:(i+1)%r.length<r.length:=dK _ we;rw[aX,aV,aV,bL,aQ hm];rfl
  rw[e1,e2];have:=aEw h.ok hi;exact fun e=>by rw[decide_eq_true e] at this;cases this
def Gp(h:k<v.length):v[k]? =some (v.getD k PZ):=by
 rw[aV,aQ h];rfl
def LM{a b c:ah}:(qB a b c<=0)↔ ¬0<ck a b c:=by
 rw[ZH,<-Int.not_lt,mO]
def DU(hb: ∀p∈v,aE p 22)(hn:v.length<=100):PF GB prog 20 [.sl (v.map eP)] (vB (rj v)):=by
 have hm:(v.map eP).length=v.length:=aX ..;refine fn (fu:=⟨9⟩) func20 J J ntmps20 J J (fun C=>?_);refine aj 7 (.d (vI (v.length:Nat))) J omn<|gx (fu:=⟨8⟩) J<|aj 9 (.d (vI (v.length:Nat))) J omn<|gx J<|lp (X:=Nat) (fun i=>[(10, .d (vI (i:Nat)))]) (fun i=>[]) (fun i=>i<=v.length/\ ∀j,j<i-> ∀q,q<v.length->od v j q=true) (fun i=>v.length-i) 0 J ⟨aS _,fun j hj=>absurd hj we⟩ (fun _=>J) (fun i hk=>?_);obtain⟨i1,i2⟩:=hk;refine br (fu1:=⟨14⟩) J J J (fun hc11=>?_) (fun hc11=>?_)
 .
  have hir:i<v.length:=by omega
  refine aj 14 (.d (vI (v.length:Nat))) J omn<|gx J<|lp (X:=Nat) (fun k=>[(15, .d (vI (k:Nat)))]) (fun k=>[]) (fun k=>k<=v.length/\ ∀q,q<k->od v i q=true) (fun k=>v.length-k) 0 J ⟨aS _,fun j hj=>absurd hj we⟩ (fun _=>J) (fun k hk=>?_);obtain⟨k1,k2⟩:=hk;refine br (fu1:=⟨14⟩) J J J (fun hc16=>?_) (fun hc16=>?_)
  .
   have hkr:k<v.length:=by omega
   have hmr:(i+1)%v.length<v.length:=dK _ we;have e1:=Gp hir;have e2:=Gp hmr;have e3:=Gp hkr;haveI hvb:=hb _ (aK e1);haveI hwb:=hb _ (aK e2);haveI hub:=hb _ (aK e3);have hcE:=L0 e1 e2 e3;refine gF (fu1:=⟨6⟩) (v2:=fun hg20=>by simp only[ak];exact⟨omd,we⟩) J J J J (fun hg20=>?_) (fun hg20=>?_)
   .
    refine aj 26 (.d (vI ((i+1)%v.length:Nat))) J okL<|gx (fu:=⟨0⟩) J<|gF (v2:=fun hg27=>by simp only[ak];exact⟨omd,we⟩) J J J J (fun hg27=>?_) (fun hg27=>?_)
    .
     refine ix (fu:=⟨6⟩) _ J (ce e1) J<|aj 38 (.d (vI ((i+1)%v.length:Nat))) J okL<|gx J<|ix _ J (ce e2) J<|ix _ J (ce e3) J<|cl J (CS (a:=(v.getD i PZ)) (b:=(v.getD ((i+1)%v.length) PZ)) (c:=(v.getD k PZ)) (i:=22) (j:=22) (k:=22)) J<|br J J J (fun hc47=>?_) (fun hc47=>?_)
     .
      have hcv:od v i k=false:=by rw[hcE,decide_eq_false (show¬k=i by omega),decide_eq_false (show¬k=(i+1)%v.length by omega),decide_eq_false (LM.1 hc47)];rfl
      exact rz J (by rw[UY hir hkr hcv];rfl)
     .
      have hcv:od v i k=true:=by rw[hcE,decide_eq_true (Classical.not_not.1 (mt LM.2 hc47))];simp
      exact at_ (k+1) ⟨⟨we,fun q hq=>by by_cases e:q=k;(subst e;exact hcv);exact k2 q we⟩,we⟩
    .
     have hcv:od v i k=true:=by rw[hcE,decide_eq_true (show k=(i+1)%v.length by omega)];simp
     exact at_ (k+1) ⟨⟨we,fun q hq=>by by_cases e:q=k;(subst e;exact hcv);exact k2 q we⟩,we⟩
   .
    have hcv:od v i k=true:=by rw[hcE,decide_eq_true (show k=i by omega)];rfl
    exact at_ (k+1) ⟨⟨we,fun q hq=>by by_cases e:q=k;(subst e;exact hcv);exact k2 q we⟩,we⟩
  .
   obtain rfl:k=v.length:=by omega
   exact at_ (i+1) ⟨⟨we,fun j hj q hq=>by by_cases e:j=i;(subst e;exact k2 q we);exact i2 j we q hq⟩,we⟩
 .
  obtain rfl:i=v.length:=by omega
  exact rz J (by rw[Io.2 fun j hj q hq=>i2 j hj q hq];rfl)
structure WQ.s3 (r:WQ):Prop where
 d:bt r.d/\r.d.length<=3
 e:bt r.e/\r.e.length<=3
structure WP.s3 (r:WP):Prop where
 x:r.x.s3
 y:r.y.s3
def WQ.s3.sm{r:WQ}(h:r.s3):r.sm:=⟨⟨h.d.1,by have:=h.d.2;omega⟩,⟨h.e.1,by have:=h.e.2;omega⟩⟩
def WP.s3.sm{r:WP}(h:r.s3):r.sm:=⟨h.x.sm,h.y.sm⟩
def WQ.s3_of{r:WQ}(h:r.wd)(k:r.smB 3=true):r.s3:=by
 unfold WQ.smB at k;simp only[bW,decide_eq_true_eq] at k;exact⟨⟨h.d,we⟩,⟨h.e,we⟩⟩
def WP.s3_of{r:WP}(h:r.wd)(k:r.smB 3=true):r.s3:=by
 unfold WP.smB at k;simp only[bW] at k;exact⟨WQ.s3_of h.x k.1,WQ.s3_of h.y k.2⟩
def P0(h:bt ds/\ds.length<=3):dv ds<=2^96:=by
 refine fR (cM (k8 h.1) ?_);rw[show(2:Nat)^96=4294967296^3 by decide];exact cZ oma h.2
def XE{m:Int}{d:Nat}(hd:0<d):(mkRat m d).num.natAbs<=m.natAbs/\(mkRat m d).den<=d:=by
 refine⟨?_,?_⟩
 .rw[sM,if_neg we]
  exact mS m (d.gcd m.natAbs:Nat)
 .rw[sN,if_neg we]
  exact mT d (d.gcd m.natAbs)
def WQ.s3_le{r:WQ}(h:r.s3):r.q.num.natAbs<=2^96/\r.q.den<=2^96:=by
 unfold WQ.q;by_cases e:dv r.e=0
 .rw[e,uS];exact⟨oma,oma⟩
 .obtain⟨h1,h2⟩:=XE (m:=zv r.n (dv r.d)) (show 0<dv r.e by omega)
  rw[m7] at h1;exact⟨cN h1 (P0 h.d),cN h2 (P0 h.e)⟩
def M3(h:lC r)(h3: ∀q∈r,q.s3)(h7:r.length<=7):oz (cj r):=by
 have hl:=px r;have hc:=cnt_le (cj r) (cj r).length;have hc3:=h.c3;refine⟨fun v hv=>?_,fun e=>?_,we,fun f hf=>?_⟩
 .obtain⟨q,hq,rfl⟩:=aU.1 hv
  obtain⟨h1,h2⟩:=WQ.s3_le (h3 q hq).x;obtain⟨h4,h5⟩:=WQ.s3_le (h3 q hq).y;exact⟨h1,h2,h4,h5⟩
 .rw[e] at hc3 hc
  simp at hc;simp at hc3;omega
 .unfold cG at hf
  obtain⟨k,hk,rfl⟩:=aU.1 hf;rw[jJ] at hk;have hd:=h.ne k hk;rintro ⟨h1,h2⟩;apply hd;unfold bG at h1 h2;dsimp only at h1 h2;show((cj r).getD k ⟨0,0⟩).x=((cj r).getD ((k+1)%(cj r).length) ⟨0,0⟩).x/\((cj r).getD k ⟨0,0⟩).y=((cj r).getD ((k+1)%(cj r).length) ⟨0,0⟩).y;constructor<;>grind
def Cr(h:z.natAbs<=1000):(WQ.of (z:Rat)).s3:=by
 have k1:=ji (u:=(z:Rat).num.natAbs) (k:=62) (by rw[jN];exact dZ h oma);have k2:=ji (u:=(z:Rat).den) (k:=62) (by rw[kY];decide);exact⟨⟨(eE _).2.1,by show(dg _).length<=3;omega⟩,⟨(eE _).2.1,by show(dg _).length<=3;omega⟩⟩
def aEa{r:List ZP}(h:gk r): ∀q∈rC r,q.s3:=fun q hq=>by
 obtain⟨z,hz,rfl⟩:=aU.1 hq;have:=h.le z hz;exact⟨Cr (by have:=this.1;omega),Cr (by have:=this.2;omega)⟩
def aEu(s: ∀q∈r,q.sm)(h9:r.length<=9):lC r\/ ∃a,wj ai ar r a:=by
 by_cases h: ∀q∈r,q.nm
 .by_cases h3:3<=dC (cj r) (cj r).length
  .by_cases he: ∀i<(cj r).length,tD ((cj r).getD i PZ) (j' (cj r) i)
   .exact .inl ⟨s,h,h9,h3,he⟩
   .refine .inr ⟨ar, .inr ⟨J,h, .inr ?_⟩⟩
    exact Classical.byContradiction fun k=>he fun i hi=>Classical.byContradiction fun d=>k ⟨i,hi,d⟩
  .exact .inr ⟨ar, .inr ⟨J,h, .inl we⟩⟩
 .refine .inr ⟨ai, .inl ⟨J,?_⟩⟩
  exact Classical.byContradiction fun k=>h fun q hq=>Classical.byContradiction fun d=>k ⟨q,hq,d⟩
def Wy(s: ∀q∈r,q.sm)(h9:r.length<=9){a:Addr}(h:wj ai ar r a): ∃n:Int,n≠0/\(∀GB,PF GB prog 18 [fk r] (vI n))/\ ∀GB,ja GB ai al ar->PF GB prog 19 [vI n] (mc a):=by
 rcases h with⟨rfl,q,hq,hb⟩|⟨rfl,hn,h⟩
 .obtain⟨j,hj⟩:=List.getElem?_of_mem hq
  exact⟨2,oma,fun GB=>Wk s we hj hb,fun GB hE=>aGe hE⟩
 .refine⟨3,oma,fun GB=>?_,fun GB hE=>aF1 hE⟩
  by_cases h3:(gn cO (cj r)).length<3
  .exact WO s we J hn h3
  .have h3':3<=dC (cj r) (cj r).length:=(SL _).1 we
   obtain⟨j,hj,hd⟩:=h.resolve_left we;exact WA s we J hn we hj hd
def ED(h:lC r):PF GB prog 18 [fk r] (vI 0):=aHk h.sm (by have:=h.n9;omega) J h.nm ((SL _).2 h.c3) h.ne
def aIz(p q:ah):de q p (-1)=⟨q.x-p.x,q.y-p.y⟩:=by
 unfold de;simp only[ah.mk.injEq];constructor<;>grind
def aJ0(z:Int):eQ ((z:Int):Rat)= .ag [.v (.bool (decide (z<0))),dN z.natAbs,dD 1]:=by
 unfold eQ;rw[jN,kY]
def J5{a:Rat}{m:Nat}(h:a*((m:Int):Rat)=(z:Rat)):eQ (a*((m:Int):Rat))=eQ (z:Rat):=by rw[h]
def aI6{q:ah}[hp:aE p i][hq:aE q i](hi:i<=20000)(h: ¬(p.x=q.x/\p.y=q.y)):PF GB prog 84 [eP p,eP q] (.tp [eL (qi p q), .v (.bool true)]):=by
 obtain⟨a,ha⟩: ∃a,a=p.y-q.y:=⟨_,rfl⟩;obtain⟨b,hb⟩: ∃b,b=q.x-p.x:=⟨_,rfl⟩;obtain⟨c,hc⟩: ∃c,c= -(a*p.x+b*p.y):=⟨_,rfl⟩;haveI b1:BQ a (2*i+1):=by rw[ha];exact BQ.mono (inferInstance:BQ (p.y-q.y) _) we
 haveI b2:BQ b (2*i+1):=by rw[hb];exact BQ.mono (inferInstance:BQ (q.x-p.x) _) we
 haveI b3:BQ c (8*i+9):=by rw[hc];exact BQ.mono (inferInstance:BQ (-(a*p.x+b*p.y)) _) we
 have hne: ¬(a=0/\b=0):=fun⟨u,v⟩=>h ⟨by rw[hb] at v;grind,by rw[ha] at u;grind⟩;obtain⟨o1,o2,o3⟩:=Ls a b c;obtain⟨m,hm⟩: ∃m,m=l8 a b c:=⟨_,rfl⟩;rw[<-hm] at o1 o2 o3;have hm2:a.den*b.den*c.den=m:=by rw[hm,l8,cY]
 obtain⟨x,hx⟩: ∃x,x=a.num*(b.den*c.den:Nat):=⟨_,rfl⟩;obtain⟨y,hy⟩: ∃y,y=b.num*(a.den*c.den:Nat):=⟨_,rfl⟩;obtain⟨z,hz⟩: ∃z,z=c.num*(a.den*b.den:Nat):=⟨_,rfl⟩;rw[<-hx] at o1;rw[<-hy] at o2;rw[<-hz] at o3;have hthr:qi p q=nH x y z:=by rw[hx,hy,hz,hc,ha,hb];rfl
 have hok: ¬(x=0/\y=0):=by rw[hx,hy];exact Co hne
 haveI bm:BI (m:Int) (16*i+40):=⟨by rw[hm];exact cM (kg b1.hd (kg b2.hd b3.hd)) (vz)⟩;haveI bx:BI x (16*i+40):=⟨by rw[hx];exact JH b1 b2 b3⟩;haveI by_:BI y (16*i+40):=⟨by rw[hy];exact JH b2 b1 b3⟩;haveI bz:BI z (16*i+40):=⟨by rw[hz];exact JH b3 b1 b2⟩;haveI n1:BN a.den (2*i+1):=⟨b1.hd⟩;haveI n2:BN b.den (2*i+1):=⟨b2.hd⟩;haveI n3:BN c.den (8*i+9):=⟨b3.hd⟩;refine fn func84 J J ntmps84 J J (fun C=>?_);refine cl J (PF.eq (ID (p:=q) (q:=p) (i:=i) (j:=i) we we) (show _=eP ⟨q.x-p.x,q.y-p.y⟩ by rw[aIz])) J<|cl (fu:=⟨2⟩) J (PF.eq (tC (q:=q.y-p.y)) (show eQ (-(q.y-p.y))=eQ a by rw[ha];congr 1;grind)) J<|aj 19 (.d (eQ b)) J (by rw[hb]<;>rfl)<|gx J<|cl J (gH (a:=a) (b:=p.x) (i:=2*i+1) (j:=i) we we) J<|cl J (gH (a:=b) (b:=p.y) (i:=2*i+1) (j:=i) we we) J<|cl J (ng (a:=a*p.x) (b:=b*p.y) (i:=2*i+1+i) (j:=2*i+1+i) we we) J<|cl J (PF.eq (tC (q:=a*p.x+b*p.y)) (show _=eQ c by rw[hc])) J<|cl J (jr (q:=a)) J<|cl J (jr (q:=b)) J<|cl J (qp (a:=a.den) (b:=b.den) (ia:=2*i+1) (ib:=2*i+1) we we) J<|cl J (jr (q:=c)) J<|cl J (PF.eq (qp (a:=a.den*b.den) (b:=c.den) (ia:=2*i+1+(2*i+1)) (ib:=8*i+9) we we) (show _=dN m by rw[hm2])) J<|cl (fu:=⟨1⟩) J (kj (neg:=false) (m:=m)) J<|aj 40 (.d (eQ ((m:Int):Rat))) J (by rw[aJ0];simp[zv,eI];rfl)<|gx J<|cl J (PF.eq (gH (a:=a) (b:=((m:Int):Rat)) (i:=2*i+1) (j:=16*i+41) we we) (J5 o1)) J<|cl J (PF.eq (gH (a:=b) (b:=((m:Int):Rat)) (i:=2*i+1) (j:=16*i+41) we we) (J5 o2)) J<|cl J (PF.eq (gH (a:=c) (b:=((m:Int):Rat)) (i:=8*i+9) (j:=16*i+41) we we) (J5 o3)) J<|cl J (L4 (a:=x) (b:=y) (c:=z) (i:=16*i+40) bx by_ bz we hok) J<|rz J (by rw[hthr];rfl)


section
variable {a b c:Tr}(ha:a.all aa.ok)(hb:b.all aa.ok)(hc:c.all aa.ok)
include ha hb
end
def aGs(h:gP k t):PF GB prog 26 [eA t] (.tp [eT t,vB true]):=Vy h.lb h.ok (by have:=h.s;omega)
def mm(r:List ah):DV:= .sl (r.map eP)
def wM(r:List ah):DV:= .sl (r.map iz)
def aKl(l:List (List ah)):cI 1 (l.map mm):=fun d hd=>by
 obtain⟨u,_,rfl⟩:=aU.1 hd;exact⟨rfl,rfl⟩
def ZZ(l:List (List ah)):cI 1 (l.map wM):=fun d hd=>by
 obtain⟨u,_,rfl⟩:=aU.1 hd;exact⟨rfl,rfl⟩
def HC{r:List ah}(h:i<r.length):(r.map eP)[((i:Nat):Int).toNat]? =some (eP (r.getD i PZ)):=by
 rw[cK,bL,aV,aQ h];rfl
def RW{r:List ah}(h:i<r.length):(r.map eP)[(((i+1)%r.length:Nat):Int).toNat]? =some (eP (j' r i)):=HC (dK _ we)
def CH(r:List ah)(p:ah): ∀k,(ow r p k).natAbs<=k
 |0=>bJ _
 |k+1=>by rw[ow];have:=CH r p k;have:=VM (r.getD k PZ) (j' r k) p;omega
def X6{v:ah}[hv:aE v 7][hw:aE w 7](h:tD v w):PF GB prog 189 [eP v,eP w] (.tp [fE (yb v w),vB true]):=by
 have hlo:=L2 h;haveI:=NT hv hw;refine fn func189 J J ntmps189 J J (fun C=>?_);refine cl (fu:=⟨3⟩) J (aI6 (p:=v) (q:=w) (i:=7) oma h) J<|fD 13 J<|gx J<|cl J (El (l:=qi v w) (p:=v) hlo.ne) J<|cl J (El (l:=qi v w) (p:=w) hlo.ne) J<|rz J J
def Pe{r:List ah}(h:lj r):PF GB prog 111 [mm r] (.sl ((lm r).map fE)):=by
 have hm:=d7 eP r;have h3:=h.n3;have h6:=h.n6;refine fn (fu:=⟨15⟩) func111 J J ntmps111 J J (fun C=>?_);refine aj 8 (.d (vI (r.length:Nat))) J omn<|gx J<|nr 3 3 221 14 J J J<|lp (X:=Nat) (fun k=>[(9, .d (vI (k:Nat))),(3, .rw 3)]) (fun k=>[(3,some (.b 221 14 ((q8 r k).map fE) true))]) (fun k=>k<=r.length) (fun k=>r.length-k) 0 J (aS _) (fun _=>J) (fun k hk=>?_);have hel:=fun hh=>(Jj (k:=k) h hh).1;refine br J J J (fun hc10=>?_) (fun hc10=>?_)
 .
  have hkr:k<r.length:=by omega
  have hel:=hel we;have hem:=d7 fE (q8 r k);haveI:=h.bd _ (CM hkr);haveI:=h.bd _ (Lw hkr);refine ix (fu:=⟨7⟩) _ J (HC hkr) J<|aj 22 (.d (vI ((k+1)%r.length:Nat))) J omn<|gx J<|ix _ J (RW hkr) J<|cl J (X6 (v:=r.getD k PZ) (w:=j' r k) (h.ne k hkr)) J<|rf J J<|ap ((q8 r (k+1)).map fE) J (by rw[q8,aM];rfl) (zj [yb (r.getD k PZ) (j' r k)]) J<|d8 31 3 J<|at_ (k+1) ⟨we,we⟩
 .
  obtain rfl:k=r.length:=by omega
  refine gD 3 J<|rz J J
theorem omq{p:Prop}(h:p:=by dsimp only;exact⟨⟨by rw[ow,<-h1,<-hv,<-hw];unfold tA;split<;>split<;>omega,we⟩,we⟩):p:=h
def Zh{r:List ah}[hp:aE p i](h:lj r)(hi:i<=80000:=by decide):PF GB prog 254 [mm r,eP p] (vI (sP r p)):=by
 have hm:=d7 eP r;have h3:=h.n3;have h6:=h.n6;refine fn (fu:=⟨16⟩) func254 J J ntmps254 J J (fun C=>?_);refine aj 12 (.d (vI (r.length:Nat))) J omn<|gx J<|lp (X:=Nat×Int) (fun⟨k,c⟩=>[(13, .d (vI (k:Nat))),(5, .d (vI c))]) (fun⟨k,c⟩=>[]) (fun⟨k,c⟩=>c=ow r p k/\k<=r.length) (fun⟨k,c⟩=>r.length-k) (0,0) J ⟨J,aS _⟩ (fun _=>J) (fun⟨k,c⟩ hk=>?_);dsimp only at hk⊢;obtain⟨h1,h2⟩:=hk;have hcl:c.natAbs<=k:=by rw[h1];exact CH r p k
 refine br J J J (fun hc14=>?_) (fun hc14=>?_)
 .
  have hkr:k<r.length:=by omega
  obtain⟨v,hv⟩: ∃v,v=r.getD k PZ:=⟨_,rfl⟩;obtain⟨w,hw⟩: ∃v,v=j' r k:=⟨_,rfl⟩;haveI hvb:aE v 7:=by rw[hv];exact h.bd _ (CM hkr)
  haveI hwb:aE w 7:=by rw[hw];exact h.bd _ (Lw hkr)
  refine ix (fu:=⟨1⟩) _ J (HC hkr) J<|aj 19 (.d (eP v)) J (by rw[hv];rfl)<|gx (fu:=⟨6⟩) J<|aj 25 (.d (vI ((k+1)%r.length:Nat))) J omn<|gx J<|ix (fu:=⟨1⟩) _ J (RW hkr) J<|aj 27 (.d (eP w)) J (by rw[hw];rfl)<|gx J<|cl J (jF (a:=v.y) (b:=p.y) (i:=7) (j:=i) oma we) J<|cl (fu:=⟨8⟩) J (jF (a:=w.y) (b:=p.y) (i:=7) (j:=i) oma we) J<|?_;rcases(show(bw v.y p.y<=0/\bw w.y p.y<=0)\/(bw v.y p.y<=0/\ ¬bw w.y p.y<=0)\/(¬bw v.y p.y<=0/\bw w.y p.y<=0)\/(¬bw v.y p.y<=0/\ ¬bw w.y p.y<=0) by omega) with⟨ca,cb⟩|⟨ca,cb⟩|⟨ca,cb⟩|⟨ca,cb⟩
  .
   refine gx (fu:=⟨1⟩) J<|cF (fu:=⟨3⟩) J (omg we) J<|bO (fu:=⟨15⟩) J (omh we) J<|bO J (omh we) J<|at_ (k+1,c) omq
  .
   refine gx (fu:=⟨1⟩) J<|cF (fu:=⟨3⟩) J (omg we) J<|cF J (omg we) J<|cl J (CS (a:=v) (b:=w) (c:=p) (i:=7) (j:=7) (k:=i) oma oma hi) J<|br (fu1:=⟨10⟩) (fu2:=⟨6⟩) J J J (fun hc51=>?_) (fun hc51=>?_)
   .
    refine bO J (omh we) J<|at_ (k+1,c+1) omq
   .
    refine bO J (omh we) J<|at_ (k+1,c) omq
  .
   refine gx (fu:=⟨1⟩) J<|bO (fu:=⟨19⟩) J (omh we) J<|cF (fu:=⟨2⟩) J (omg we) J<|cF J (omg we) J<|cl J (CS (a:=v) (b:=w) (c:=p) (i:=7) (j:=7) (k:=i) oma oma hi) J<|br J J J (fun hc65=>?_) (fun hc65=>?_)
   .
    exact at_ (k+1,c-1) omq
   .
    exact at_ (k+1,c) omq
  .
   refine gx (fu:=⟨1⟩) J<|bO (fu:=⟨19⟩) J (omh we) J<|cF (fu:=⟨2⟩) J (omg we) J<|bO J (omh we) J<|at_ (k+1,c) omq
 .
  obtain rfl:k=r.length:=by omega
  have hfin:sP r p=c:=h1.symm;exact rz J omY
def Jy(rs:List (List ah)):List aa:=(jh rs).map bB.l
def xR(rs:List (List ah))(fill:Int):DV:= .ag [.sl (rs.map mm), .v (.int .i64 fill), .sl ((mi (Jy rs)).map eL)]
def Zk(h: ∀r∈rs,lj r)(k:Nat):((rs.take k).foldl (fun n r=>n+sP r p) 0).natAbs<=6*k:=by
 induction k with
 |zero=>rw[uT];exact aS _
 |succ k ih=>
  rw[dW,oK]
  cases e:rs[k]? with
  |none=>exact cN ih we
  |some r=>
   have h1:(sP r p).natAbs<=r.length:=CH r p r.length;have h2:=(h r (aK e)).n6;show(List.foldl _ 0 (rs.take k)+sP r p).natAbs<=_;omega
def XD[hp:aE p i](h: ∀r∈rs,lj r)(hn:rs.length<=100)(hi:i<=80000:=by decide):PF GB prog 191 [xR rs fill,eP p] (vB (qA rs fill p)):=by
 have hm:=d7 mm rs;refine fn (fu:=⟨18⟩) func191 J J ntmps191 J J (fun C=>?_);refine aj 10 (.d (vI (rs.length:Nat))) J omn<|gx J<|lp (X:=Nat×Int) (fun⟨k,c⟩=>[(11, .d (vI (k:Nat))),(5, .d (vI c))]) (fun⟨k,c⟩=>[]) (fun⟨k,c⟩=>c=(rs.take k).foldl (fun n r=>n+sP r p) 0/\k<=rs.length) (fun⟨k,c⟩=>rs.length-k) (0,0) J ⟨by rw[uT];rfl,aS _⟩ (fun _=>J) (fun⟨k,c⟩ hk=>?_);dsimp only at hk⊢;obtain⟨h1,h2⟩:=hk;have hcl:c.natAbs<=6*k:=by rw[h1];exact Zk h k
 refine br J J J (fun hc12=>?_) (fun hc12=>?_)
 .
  obtain⟨r,hz⟩: ∃s,rs[k]? =some s:=⟨_,aQ we⟩;have hr:=h r (aK hz);have hnz:(sP r p).natAbs<=6:=cN (CH r p r.length) hr.n6;refine ix _ J (ce hz) J<|cl J (Zh (r:=r) (p:=p) hr hi) J<|at_ (k+1,c+sP r p) (by dsimp only;exact⟨⟨by rw[dW,hz,oK,<-h1];rfl,we⟩,we⟩)
 .
  obtain rfl:k=rs.length:=by omega
  rw[dQ] at h1;refine cl J (VY (fill:=fill) (n:=c) we) J<|rz J (by unfold qA;rw[<-h1];rfl)
theorem MC{r:List ah}(h: ∀p∈r,aE p 7): ∀p∈r,aE p 1200:=fun p hp=>⟨BQ.mono (h p hp).x,BQ.mono (h p hp).y⟩
def RS{r:List ah}(h:rs[k]? =some r):jh (rs.take (k+1))=jh (rs.take k)++lm r:=by
 unfold jh;rw[dW,h,uZ];simp
def Ow(h: ∀r∈rs,lj r)(k:Nat):(jh (rs.take k)).length<=6*k:=by
 have:=(AC (rs:=rs.take k) (fun r hr=>h r (fW hr))).1;have h2:(rs.take k).length<=k:=by rw[bT];omega
 omega
def aJ7(h: ∀r∈rs,lj r)(hn:rs.length<=100):PF GB prog 59 [.sl (rs.map wM), .v (.int .i64 fill)] (xR rs fill):=by
 have hm:=d7 wM rs;refine fn (fu:=⟨8⟩) func59 J J ntmps59 J J (fun C=>?_);refine bzp (fu:=⟨14⟩) 35 1 0 [] [.v (.int .i64 fill), .sl []] J J J J J<|aj 15 (.d (vI (rs.length:Nat))) J omn<|gx J<|nr 6 6 99 6 J J J<|lp (X:=Nat) (fun k=>[(16, .d (vI (k:Nat))),(6, .rw 6),(5, .ov 5 0)]) (fun k=>[(5,some (.o 131 [.rw 13, .d (.v (.int .i64 fill)), .d (.sl [])] true)),(13,some (.b 35 1 ((rs.take k).map mm) true)),(6,some (.b 99 6 (((jh (rs.take k)).map bB.l).map eL) true))]) (fun k=>k<=rs.length) (fun k=>rs.length-k) 0 J (aS _) (fun _=>J) (fun k hk=>?_);refine br (fu2:=⟨0⟩) J J J (fun hc17=>?_) (fun hc17=>?_)
 .
  obtain⟨r,hz⟩: ∃s,rs[k]? =some s:=⟨_,aQ we⟩;have hr:=h r (aK hz);have hel:(lm r).length<=6:=by have:=(Lc hr).1;have:=hr.n6;omega
  have het:=Ow h k;have hrl:((rs.take k).map mm).length=k:=by rw[aX,bT];omega
  refine ix _ J (ce hz) J<|cl (fu:=⟨0⟩) J (Mj (ps:=r) (MC hr.bd) (by have:=hr.n6;omega)) J<|aj 21 (.d (mm r)) J J<|gx J<|rf J J<|ap ((rs.take (k+1)).map mm) J (vY hz) (aKl [r]) J<|cl (fu:=⟨1⟩) J (Pe (r:=r) hr) J<|aj 30 (.d (vI ((lm r).length:Nat))) J (by rw[d7 fE (lm r)]<;>rfl)<|gx J<|?_;rw[<-gX (jh (rs.take k)),<-uT (l:=lm r)];refine lp (X:=Nat) (fun j=>[(31, .d (vI (j:Nat))),(6, .rw 6)]) (fun j=>[(6,some (.b 99 6 (((jh (rs.take k)++(lm r).take j).map bB.l).map eL) true))]) (fun j=>j<=(lm r).length) (fun j=>(lm r).length-j) 0 J (aS _) (fun _=>J) (fun j hk=>?_);have hml:(((jh (rs.take k)++(lm r).take j).map bB.l).map eL).length<=6*k+6:=by rw[aX,aX,aY,bT];omega
  refine br J J J (fun hc32=>?_) (fun hc32=>?_)
  .
   obtain⟨e,he⟩: ∃s,(lm r)[j]? =some s:=⟨_,aQ we⟩;refine ix _ J (ce he) J<|rf J J<|ap (((jh (rs.take k)++(lm r).take (j+1)).map bB.l).map eL) J (by rw[dW,he];simp only[aM,dV];rfl) (dO [e.l]) J<|d8 39 6 J<|at_ (j+1) ⟨we,we⟩
  .
   obtain rfl:j=(lm r).length:=by omega
   rw[dQ,<-RS hz];refine d8 26 13 J<|at_ (k+1) ⟨we,we⟩
 .
  obtain rfl:k=rs.length:=by omega
  rw[dQ];refine lv 6 rfl<|lv 13 rfl<|gx rfl<|cr rfl (aq2 (ls:=Jy rs) (fun l hl=>by obtain⟨f,hf,rfl⟩:=aU.1 hl;exact((AC h).2 f hf).lb) (by unfold Jy;rw[aX];have:=(AC h).1;omega)) rfl<|gD 43 rfl<|rz J J
def aJq(h: ∀r∈rs,lj r)(hn:rs.length<=100):PF GB prog 60 [.sl (rs.map mm)] (.sl (rs.map wM)):=by
 have hm:=d7 mm rs;refine fn (fu:=⟨15⟩) func60 J J ntmps60 J J (fun C=>?_);refine aj 7 (.d (vI (rs.length:Nat))) J omn<|gx J<|nr 3 3 24 1 J J J<|lp (X:=Nat) (fun k=>[(8, .d (vI (k:Nat))),(3, .rw 3)]) (fun k=>[(3,some (.b 24 1 ((rs.take k).map wM) true))]) (fun k=>k<=rs.length) (fun k=>rs.length-k) 0 J (aS _) (fun _=>J) (fun k hk=>?_);have hml:((rs.take k).map wM).length<=k:=by rw[aX,bT];omega
 refine br J J J (fun hc9=>?_) (fun hc9=>?_)
 .
  obtain⟨r,hz⟩: ∃s,rs[k]? =some s:=⟨_,aQ we⟩;have hr:=h r (aK hz);refine ix (fu:=⟨1⟩) _ J (ce hz) J<|aj 11 (.d (.sl (r.map eP))) J J<|gx J<|cl J (UM (ps:=r) (MC hr.bd) (by have:=hr.n6;omega)) J<|rf J J<|ap ((rs.take (k+1)).map wM) J (vY hz) (ZZ [r]) J<|d8 16 3 J<|at_ (k+1) ⟨we,we⟩
 .
  obtain rfl:k=rs.length:=by omega
  refine gD 3 J<|rz J (by rw[dQ];rfl)
def aut(hrs: ∀r∈rs,lj r)(hrn:rs.length<=100){c:List aa}(hc: ∀m∈c,LB m)(hok: ∀m∈c,m.ok)(hn:c.length<=900):PF GB prog 112 [xR rs fill, .sl [], .sl (c.map eL)] (eT (jv (qA rs fill) n [] c)):=by
 haveI hpb:=SN hc hok (t:=c) (fun _ h=>h);refine fn (fu:=⟨11⟩) func112 J J ntmps112 J J (fun C=>?_);refine cF J J J<|cl J (Hd (c:=c) hc hok we) J<|cl J (XD (p:=ki c c) (i:=70000) hrs hrn oma) J<|cl J (Ee (p:=qA rs fill (ki c c))) J<|rz J (by rw[aBu];rfl)
def Xf{rs:List (List ah)}{fill:Int}(hrs: ∀r∈rs,lj r)(hrn:rs.length<=100){n:Nat}{f:bB}{t:List bB}{c:List aa}(hfew:ul (n+1) (f::t))(hfo: ∀g∈f::t,mj g)(hlen:(f::t).length*3^(n+1)<=6973568802)(hc: ∀m∈c,LB m)(hok: ∀m∈c,m.ok)(hn:c.length+(n+1)<=900)(ih: ∀{l:List bB} {c:List aa},ul n l->(∀f∈l,mj f)->l.length*3^n<=6973568802->(∀m∈c,LB m)->(∀m∈c,m.ok)->c.length+n<=900->PF GB prog 112 [xR rs fill, .sl (l.map fE), .sl (c.map eL)] (eT (jv (qA rs fill) n l c))):PF GB prog 112 [xR rs fill, .sl ((f::t).map fE), .sl (c.map eL)] (eT (jv (qA rs fill) (n+1) (f::t) c)):=by
 obtain⟨l,hl⟩: ∃l,l=f::t:=⟨_,rfl⟩;have hl0:l[0]? =some f:=by rw[hl];rfl
 rw[<-hl] at hfew hfo hlen⊢;have hm:=d7 fE l;have hfl:=hfo f (aK hl0);haveI:=hfl.lb;have hlp:0<l.length:=by rw[hl];simp
 have hlb:l.length<=6973568802:=cN (mZ _ (iX oma)) hlen;refine fn (fu:=⟨11⟩) func112 J J ntmps112 J J (fun C=>?_);refine aj 17 (.d (vI (l.length:Nat))) J omn<|gx (fu:=⟨0⟩) J<|bO J (omh we) J<|ix (fu:=⟨17⟩) _ J (ce (i:=0) hl0) J<|aj 33 (.d (vI (l.length:Nat))) J omn<|gx J<|nr 10 10 221 14 J J J<|nr 11 11 221 14 J J J<|lp (X:=Nat) (fun k=>[(34, .d (vI (k:Nat))),(10, .rw 10),(11, .rw 11)]) (fun k=>[(10,some (.b 221 14 (((l.take k).flatMap fun g=>fC g f.l 1).map fE) true)),(11,some (.b 221 14 (((l.take k).flatMap fun g=>fC g f.l (-1)).map fE) true))]) (fun k=>k<=l.length) (fun k=>l.length-k) 0 J (aS _) (fun _=>J) (fun k hk=>?_);have htk:(l.take k).length<=6973568802:=by rw[bT];omega
 have hb1:(((l.take k).flatMap fun g=>fC g f.l 1).map fE).length<=20920706406:=by rw[aX];have:=CQ (l.take k) f.l 1;omega
 have hb2:(((l.take k).flatMap fun g=>fC g f.l (-1)).map fE).length<=20920706406:=by rw[aX];have:=CQ (l.take k) f.l (-1);omega
 refine br (fu2:=⟨0⟩) J J J (fun hc35=>?_) (fun hc35=>?_)
 .
  obtain⟨g,hz⟩: ∃s,l[k]? =some s:=⟨_,aQ we⟩;have hg:=hfo g (aK hz);have hs1:((fC g f.l 1).map fE).length<=3:=by rw[aX];exact IC _ _ _
  have hs2:((fC g f.l (-1)).map fE).length<=3:=by rw[aX];exact IC _ _ _
  refine ix _ J (ce hz) J<|cl J (aFf (f:=g) (m:=f.l) hg hfl.ok) J<|ap (hbd:=we) (((l.take (k+1)).flatMap fun g=>fC g f.l 1).map fE) J (by rw[Mx hz,aM]) (zj _) J<|ap (hbd:=we) (((l.take (k+1)).flatMap fun g=>fC g f.l (-1)).map fE) J (by rw[Mx hz,aM]) (zj _) J<|d8 46 10 J<|d8 49 11 J<|at_ (k+1) ⟨we,we⟩
 .
  obtain rfl:k=l.length:=by omega
  rw[dQ];refine lv 10 rfl<|lv 11 rfl<|gx rfl<|sO J J<|ap (c.map eL) J J (dO c) rfl<|rf J J<|kp ((c++[f.l]).map eL) rfl omJ (dO [f.l]) rfl<|cl rfl (ih (c:=c++[f.l]) (by subst hl;exact ul.split hfew hfo) (fun g hg=>by obtain⟨q,hq,hg⟩:=iR.1 hg;exact(HG (hfo q hq) hfl.lb g hg).1) (by have:=CQ l f.l 1;rw[iL] at hlen;exact cN (bR _ this) (by rw[cW 3,cY];rw[cW (3^n)] at hlen;exact hlen)) (xS hc hfl.lb) (pg hok hfl.ok) (by rw[aY,fY];omega)) rfl<|sO J J<|ap (c.map eL) J J (dO c) rfl<|cl rfl (BZ (l:=f.l)) rfl<|rf J J<|kp ((c++[f.l.rev]).map eL) rfl omJ (dO [f.l.rev]) rfl<|cl (fu:=⟨1⟩) rfl (ih (c:=c++[f.l.rev]) (by subst hl;exact ul.split hfew hfo) (fun g hg=>by obtain⟨q,hq,hg⟩:=iR.1 hg;exact(HG (hfo q hq) hfl.lb g hg).1) (by have:=CQ l f.l (-1);rw[iL] at hlen;exact cN (bR _ this) (by rw[cW 3,cY];rw[cW (3^n)] at hlen;exact hlen)) (xS hc hfl.lb.rev) (pg hok hfl.ok.rev) (by rw[aY,fY];omega)) rfl<|xb J J<|rz rfl (by subst hl;rfl)
def T6{rs:List (List ah)}{fill:Int}(hrs: ∀r∈rs,lj r)(hrn:rs.length<=100): ∀{n:Nat} {l:List bB} {c:List aa},ul n l->(∀f∈l,mj f)->l.length*3^n<=6973568802->(∀m∈c,LB m)->(∀m∈c,m.ok)->c.length+n<=900->PF GB prog 112 [xR rs fill, .sl (l.map fE), .sl (c.map eL)] (eT (jv (qA rs fill) n l c))
 |n,[],c,_,_,_,hc,hok,hn=>aut hrs hrn hc hok we
 |0,f::t,c,hf,_,_,_,_,_=>by
  obtain⟨K,h1,h2⟩:=hf;obtain⟨m,hm,_⟩:=h2 f aZ;rw[cJ (l:=K) we] at hm
  cases hm
 |n+1,f::t,c,hf,ho,hl,hc,hok,hn=>Xf hrs hrn hf ho hl hc hok hn (fun a1 a2 a3 a4 a5 a6=>T6 hrs hrn a1 a2 a3 a4 a5 a6)
def aJn(hrs: ∀r∈rs,lj r)(hrn:rs.length<=3):PF GB prog 58 [xR rs fill] (eT (Cz rs fill)):=by
 have hm:=d7 mm rs;have hE:=AC hrs;have hraw:=DF (acc:=qA rs fill) hE.2 J;refine fn (fu:=⟨17⟩) func58 J J ntmps58 J J (fun C=>?_);refine aj 8 (.d (vI (rs.length:Nat))) J omn<|gx J<|nr 3 3 221 14 J J J<|lp (X:=Nat) (fun k=>[(9, .d (vI (k:Nat))),(3, .rw 3)]) (fun k=>[(3,some (.b 221 14 ((jh (rs.take k)).map fE) true))]) (fun k=>k<=rs.length) (fun k=>rs.length-k) 0 J (aS _) (fun _=>J) (fun k hk=>?_);have het:((jh (rs.take k)).map fE).length<=6*k:=by rw[aX];exact Ow hrs k
 refine br J J J (fun hc10=>?_) (fun hc10=>?_)
 .
  obtain⟨r,hz⟩: ∃s,rs[k]? =some s:=⟨_,aQ we⟩;have hr:=hrs r (aK hz);have hel:((lm r).map fE).length<=6:=by rw[aX];have:=(Lc hr).1;have:=hr.n6;omega
  refine ix _ J (ce hz) J<|cl J (Pe (r:=r) hr) J<|ap (hbd:=we) ((jh (rs.take (k+1))).map fE) J (by rw[RS hz,aM]) (zj _) J<|d8 16 3 J<|at_ (k+1) ⟨we,we⟩
 .
  obtain rfl:k=rs.length:=by omega
  rw[dQ];refine fz 3 J J<|cl J (T6 (n:=(jh rs).length) (l:=jh rs) (c:=[]) hrs we (azV _) hE.2 (Yw (by have:=hE.1;omega)) (fun m h=>by cases h) (fun m h=>by cases h) (by have:=hE.1;rw[fX];omega)) J<|cl J (M' (t:=JN rs fill) hraw.gd.lb hraw.gd.ok (by have:=hraw.dp;have:=hE.1;show(jv _ _ _ _).depth<=900;omega)) J<|rz J J
def aHy(v w:ZP):qi v.q w.q=nO v.1 v.2 w.1 w.2:=by
 unfold qi nO ZP.q iP;rw[<-GU];dsimp only;unfold tw lD lO;have e1:((-(w.2-v.2):Int):Rat)=(v.2:Rat)-(w.2:Rat):=by push_cast;grind
 have e2:((w.1-v.1:Int):Rat)=(w.1:Rat)-(v.1:Rat):=by push_cast;rfl
 have e3:((-(-(w.2-v.2)*v.1+(w.1-v.1)*v.2):Int):Rat)= -(((v.2:Rat)-(w.2:Rat))*(v.1:Rat)+((w.1:Rat)-(v.1:Rat))*(v.2:Rat)):=by push_cast;grind
 rw[e1,e2,e3]
def aI9(v w:ZP):yb v.q w.q=Em v w:=by unfold yb Em;rw[aHy]
def Dl(r:List ZP)(k:Nat):(r.map ZP.q).getD k PZ=(r.getD k (0,0)).q:=by
 rw[aV,aV,bL]
 cases r[k]? with
 |some p=>rfl
 |none=>show PZ=ZP.q (0,0);unfold ZP.q iP;simp
def JP(r:List ZP)(k:Nat):j' (r.map ZP.q) k=(iv r k).q:=by unfold j' iv;rw[Dl,aX]
def L7(r:List ZP): ∀k,q8 (r.map ZP.q) k=ur r k
 |0=>rfl
 |k+1=>by rw[q8,ur,L7 r k,Dl,JP,aI9]
def Su(r:List ZP)(p:ah): ∀k,ow (r.map ZP.q) p k=D3 r p k
 |0=>rfl
 |k+1=>by rw[ow,D3,Su r p k,Dl,JP]
def aF9(r:List ZP)(fill:Int):Cz [r.map ZP.q] fill=fm [r] fill:=by
 have e1:jh [r.map ZP.q]=tG [r]:=by
  unfold jh tG;rw[kJ,kJ];unfold lm yL;rw[aX,L7];rfl
 have e2:qA [r.map ZP.q] fill=vM [r] fill:=by
  funext p;unfold qA vM;rw[iK,iK];unfold sP U4;rw[aX,Su];rfl
 unfold Cz fm JN ux;rw[e1,e2]
def aMO{r:List ZP}(h:gk r):lj (r.map ZP.q):=by
 refine⟨by rw[aX];exact h.n3,by rw[aX];exact h.n6,fun q hq=>?_,fun i hi=>?_⟩
 .obtain⟨z,hz,rfl⟩:=aU.1 hq
  have:=h.le z hz;have e7:(2:Nat)^(7*7)=562949953421312:=by decide
  exact⟨⟨by show((z.1:Int):Rat).num.natAbs<_;rw[jN,e7];have:=this.1;omega,by show((z.1:Int):Rat).den<_;rw[kY,e7];decide⟩,⟨by show((z.2:Int):Rat).num.natAbs<_;rw[jN,e7];have:=this.2;omega,by show((z.2:Int):Rat).den<_;rw[kY,e7];decide⟩⟩
 .rw[aX] at hi
  have hne:=h.ne i hi;rw[Dl,JP];rintro ⟨e1,e2⟩;exact hne (Prod.ext (mY.1 e1) (mY.1 e2))
def GS{r:List ah}(h:lj r): ∀q∈[r],lj q:=fun q hq=>by rw[aR.1 hq];exact h
def Wr{r:List ah}(h:lj r):PF GB prog 24 [mm r] (eT (Cz [r] 2)):=by
 refine fn func24 J J ntmps24 J J (fun C=>?_);refine rf (fu:=⟨0⟩) J J<|aj 4 (.d (.sl ([r].map mm))) J J<|gx J<|cl J (aJq (rs:=[r]) (GS h) omc) J<|cl J (aJ7 (rs:=[r]) (fill:=2) (GS h) omc) J<|cl J (aJn (rs:=[r]) (fill:=2) (GS h) omc) J<|rz J J
def aHQ(r:List ZP):mm (r.map ZP.q)=sC r:=by unfold mm sC;rw[pY];rfl
def Bp{r:List ZP}(h:gk r):PF GB prog 24 [sC r] (eT (fm [r] 2)):=by
 have:=Wr (GB:=GB) (aMO h);rwa [aHQ,aF9] at this
def Ph{r:List ZP}(h:gk r): ∀q∈[r],gk q:=fun q hq=>by rw[aR.1 hq];exact h
def LZ{r:List ZP}(h:gk r):PF GB prog 9 [sC r] (Dc r):=by
 have hn:=h.n6;have:=UM (GB:=GB) (ps:=r.map ZP.q) (fun p hp=>aE.mono (X' h p hp)) ozl;rw[Zn] at this;exact this
def KI{a b:Int}(h1:a.natAbs<=50:=by decide)(h2:b.natAbs<=50:=by decide):PF GB prog 25 [.v (.int .i64 a), .v (.int .i64 b)] (sC (dt a a b b)):=by
 refine fn func25 J J ntmps25 J J (fun C=>?_);refine cl J (f8 (m:=a) (n:=a) we we) J<|cl J (f8 (m:=b) (n:=a) we we) J<|cl J (f8 (m:=b) (n:=b) we we) J<|cl J (f8 (m:=a) (n:=b) we we) J<|rf J J<|rz J J
def y6:gk (dt 0 0 1 1):=K7
def Kg:gk (dt 0 0 2 2):=K7
def AJ:A7 ((dt 0 0 1 1).map ZP.q)/\rj ((dt 0 0 1 1).map ZP.q)=true:=XX (a:=0) (b:=0) (c:=1) (d:=1)
def B6:oy (fm [dt 0 0 1 1] 2):=by
 have h1: ∀p∈dt 0 0 1 1,p.1.natAbs<=3/\p.2.natAbs<=3:=fun p hp=>by
  simp only[dt,aW,fK,or_false] at hp;rcases hp with rfl|rfl|rfl|rfl<;>exact⟨oma,oma⟩
 have:=Qg y6 oma;exact I' y6 h1 (by rw[show(dt 0 0 1 1).length=4 from J];omega)
def aJL:qv (sv ((dt 0 0 1 1).map ZP.q) (fm [dt 0 0 1 1] 2)) (fm [dt 0 0 2 2] 2):=by
 have h1:=(Jq AJ.1 B6).1;have h2:=JE (fill:=2) (Ph Kg) omc;exact⟨h1.gd,h2.gd,h1.s,(h2.x (Cx _ _) oma).s⟩
def Yh:uz (sv ((dt 0 0 1 1).map ZP.q) (fm [dt 0 0 1 1] 2)) (fm [dt 0 0 2 2] 2)=true:=by
 rw[show sv ((dt 0 0 1 1).map ZP.q) (fm [dt 0 0 1 1] 2)=fm [dt 0 0 2 2] 2 from aD6];have h2:=(JE (fill:=2) (Ph Kg) omc).gd.ok;exact Zj h2 h2 (L:=(fm [dt 0 0 2 2] 2).lns) (wo h2) (fun l hl=>hl) (fun l hl=>hl) fun p _=>J
def ZJ{b:Nat}(hes:es.length<=400){a:Nat}(ha:a<=es.length):PM GB prog 13 (kw [none] b) b 76 [.sl (es.map vI), .v (.int .i64 (a:Nat))] (eT (lA es a).1) [.sl (es.map vI), .v (.int .i64 ((lA es a).2:Nat))]:=by
 have hk0:=fI (n:=4) ha;obtain⟨hl,hl2⟩:=Q7 hk0;obtain⟨hv,hv2⟩:=Ga hk0;refine vU func13 J J ntmps13 J J (fun C b m lo hmb=>?_);refine cm J (fun b=>(js (n:=4) hes ha)) J<|br J J J (fun hc5=>?_) (fun hc5=>?_)
 .
  refine cm J (fun b=>(aNB hes hk0)) J<|cl J (Ee (p:=true)) J<|cl (fu:=⟨1⟩) J (Ee (p:=false)) J<|xb J J<|cl J (M' (t:= .node (lF es (ao es 4 a).2).1 (.leaf true) (.leaf false)) ⟨⟨hl.bl⟩,trivial,trivial⟩ ⟨hl.ok,trivial,trivial⟩ (by simp[Tr.depth])) J<|?_;exact jn hmb J J (by rw[show lA es a=_ from if_pos hc5];rfl) (by rw[show lA es a=_ from if_pos hc5])
 .
  refine br J J J (fun hc14=>?_) (fun hc14=>?_)
  .
   refine cm J (fun b=>(P6 hes hk0)) J<|cl J (Bp hv) J<|?_;exact jn hmb J J (by rw[show lA es a=_ from(if_neg hc5).trans (if_pos hc14)];rfl) (by rw[show lA es a=_ from(if_neg hc5).trans (if_pos hc14)])
  .
   refine br J J J (fun hc19=>?_) (fun hc19=>?_)
   .
    refine cm J (fun b=>(P6 hes hk0)) J<|cl J (Bp hv) J<|cl J (HZ (t:=fm [(jA es (ao es 4 a).2).1] 2)) J<|?_;exact jn hmb J J (by rw[show lA es a=_ from(if_neg hc5).trans ((if_neg hc14).trans (if_pos hc19))];rfl) (by rw[show lA es a=_ from(if_neg hc5).trans ((if_neg hc14).trans (if_pos hc19))])
   .
    refine cl J (f8 (m:=0) (n:=0)) J<|cl J (f8 (m:=3) (n:=0)) J<|cl J (f8 (m:=3) (n:=1)) J<|cl J (f8 (m:=1) (n:=1)) J<|cl J (f8 (m:=1) (n:=3)) J<|cl J (f8 (m:=0) (n:=3)) J<|rf (fu:=⟨0⟩) J J<|aj 31 (.d (sC vV)) J J<|gx J<|cl J (Bp ML) J<|?_;exact jn hmb J J (by rw[show lA es a=_ from(if_neg hc5).trans ((if_neg hc14).trans (if_neg hc19))];rfl) (by rw[show lA es a=_ from(if_neg hc5).trans ((if_neg hc14).trans (if_neg hc19))])
def aLG{b:Nat}(hes:es.length<=400){a:Nat}(ha:a<=es.length)(hr:t=(lA es a).1)(ha':a'=(lA es a).2):PM GB prog 13 (kw [none] b) b 76 [.sl (es.map vI), .v (.int .i64 (a:Nat))] (eT t) [.sl (es.map vI), .v (.int .i64 (a':Nat))]:=by
 subst hr;subst ha';exact ZJ hes ha
def aNT{cs:List RL}(hw: ∀q∈cs,q.wd)(k:sD 3 cs=true){ls:List aa}(h:i8 cs=some ls): ∀l∈ls,BL l 96:=fun l hl=>by
 unfold i8 at h;split at h
 .cases h
  obtain⟨r,hr,e⟩:=gV.1 hl;unfold RL.ln at e;split at e
  .cases e
   unfold sD at k;have hs:=dJ.1 k r hr;unfold RL.smB Sx.smB at hs;simp only[tZ,List.all_nil,bW,Bool.and_true,decide_eq_true_eq] at hs;obtain⟨h1,h2,h3⟩:=hw r hr;have key: ∀(n:Bool) (ds:List Nat),bt ds->(ds.length:Int)<=3->(mD n ds).natAbs<2^96:=fun n ds hd hn=>by
    rw[DJ];refine cM (k8 hd) ?_;rw[show(2:Nat)^96=4294967296^3 by decide];exact cZ oma we
   exact⟨key _ _ h1 hs.1,key _ _ h2 hs.2.1,key _ _ h3 hs.2.2⟩
  .cases e
 .cases h
def aJO(s: ∀q∈r,q.sm)(h9:r.length<=9):(lC r/\nv r=true)\/(lC r/\nv r=false)\/ ∃a,wj ai ar r a:=by
 rcases aEu (ai:=ai) (ar:=ar) s h9 with h|h
 .cases e:nv r
  .exact .inr (.inl ⟨h,J⟩)
  .exact .inl ⟨h,J⟩
 .exact .inr (.inr h)
def aHu(hB:oz V)(h:oy t): ∃u,mE 1 (Tr.leaf false) ((dE (t.restrict [])).map (kB V))=some u/\u.all LB/\u.size<=1000000:=by
 obtain⟨K,h1,h2,h3,h4⟩:=h.k;obtain⟨u,k1,k2,k3,k4⟩:=Xx hB h.x.ok h3 h4 (Tr.all_imp (fun l hl=>hl.mono oma) h.bl) (by have:=h.dp;omega) we;exact⟨u,k1,Tr.all_imp (fun l hl=>F0 hl) k2,we⟩
def aIc(hV:A7 V)(h:oy t):mE 1 (Tr.leaf false) ((dE (t.restrict [])).map (kB V))=some (sv V t):=by
 rw[show sv V t=qt V (cG V) t from J,<-(On hV h).1];congr 1;refine uJ fun c hc=>?_;obtain⟨g1,g2⟩:=B7 h.x.ok c hc;obtain⟨d,e,_,_,_,k⟩:=P1 hV.br g1 g2;unfold kB mh nn;rw[e,k];rfl
def aEU(hE:EG GB ai al ae):PF GB prog 11 [eA (fm [dt 0 0 1 1] 2),Dc (dt 0 0 1 1)] (.tp [eA (sv ((dt 0 0 1 1).map ZP.q) (fm [dt 0 0 1 1] 2)), .v .nilIface]):=by
 have hx:=(Jq AJ.1 B6).1;have hg:=aFt (aLf y6 oma oma);have hB:oz (cj (rC (dt 0 0 1 1))):=M3 hg (fun q hq=>by
  obtain⟨z,hz,rfl⟩:=aU.1 hq;have:=y6.le z hz;exact⟨Cr (by have:=this.1;omega),Cr (by have:=this.2;omega)⟩) (by rw[show(rC (dt 0 0 1 1)).length=4 from J];omega)
 have hs:=B6;have hW:=NW (GB:=GB) hE hg (show nv _=true by unfold nv;rw[CA];exact AJ.2) hB (t:=fm [dt 0 0 1 1] 2) (u:=sv ((dt 0 0 1 1).map ZP.q) (fm [dt 0 0 1 1] 2)) hs.x (Tr.all_imp (fun l hl=>hl.mono oma) hs.bl) (by have:=hs.dp;omega) (by have:=hs.x.s;omega) (by rw[CA];exact aIc AJ.1 hs) hx.lb (by have:=hx.s;omega);rw[O9] at hW;exact hW
def s9(hE:EG GB ai al ae):PF GB prog 6 [] (.v (.bool true)):=by
 have hx:=(Jq AJ.1 B6).1;refine fn func6 J J ntmps6 J J (fun C=>?_);refine cl J (KI (a:=0) (b:=1)) J<|cl J (Bp y6) J<|cl J (N3 B6.x) J<|cl J (KI (a:=0) (b:=1)) J<|cl J (LZ y6) J<|cl J (aEU hE) J<|cl (fu:=⟨10⟩) J (aGs hx) J<|cF (fu:=⟨2⟩) J J J<|fD 22 J<|gx J<|cl J (KI (a:=0) (b:=2)) J<|cl J (Bp Kg) J<|cl (fu:=⟨0⟩) J (aAf aJL) J<|aj 28 (.d (.v (.bool true))) J (by rw[Yh]<;>rfl)<|gx J<|rz J J
theorem ozs{p:Prop}(h:p:=by have:=px x;omega):p:=h
theorem ozx{p:Prop}(h:p:=by rw[<-hcv]<;>rfl):p:=h
def VX(hE:rx GB ai al ar ae)(hb:es0.length<=1125899906842624)(hw: ∀q∈r,q.wd){cz:List RL}(hc: ∀q∈cz,q.wd):PF GB prog 3 [.sl (es0.map vI),fk r, .ag [.sl (cz.map RL.d)]] (.v (.bool true)):=by
 obtain⟨es,hee⟩: ∃es,es=es0.take 400:=⟨_,rfl⟩;have hes:es.length<=400:=by rw[hee];simp;omega
 have hlr:(r.map WP.D).length=r.length:=aX ..;have hlc:(cz.map RL.d).length=cz.length:=aX ..;have h0:0<=es.length:=aS _;have hn0:=fI (es:=es) (n:=2) h0;refine fn (fu:=⟨11⟩) func3 J J ntmps3 J J (fun C=>?_);refine aj 18 (.d (vI (r.length:Nat))) J (by rw[hlr]<;>rfl)<|gx J<|cs 20 J J J (fun hg20=>?_) (fun hg20=>?_)
 .
  refine cl J (s9 hE.eg) J<|rz J J
 .
  refine cl J (av6 (n:=3) (ls:=r) we) J<|iE (fu2:=⟨3⟩) 25 J J J (fun hg25=>?_) (fun hg25=>?_)
  .
   refine cl J (s9 hE.eg) J<|rz J J
  .
   refine aj 28 (.d (vI (cz.length:Nat))) J (by rw[hlc]<;>rfl)<|gx J<|cs 31 J J J (fun hg31=>?_) (fun hg31=>?_)
   .
    refine cl J (s9 hE.eg) J<|rz J J
   .
    refine cl J (aBh (n:=3) (ls:=cz) we) J<|bb J J J (fun hc36=>?_) (fun hc36=>?_)
    .
     refine cl J (s9 hE.eg) J<|rz J J
    .
     have hsm:r.all (WP.smB 3)=true:=Ku hg25;have hrb:sD 3 cz=true:=Ku hc36;have hcs: ∀q∈cz,q.sm:=aIm hc hrb;have h8:r.length<=7:=by omega
     have hr3: ∀q∈r,q.s3:=fun q hq=>WP.s3_of (hw q hq) (dJ.1 hsm q hq);refine cn (fu:=⟨4⟩) J ((aIA hb hee)) (fun _=>J) (fun _=>?_);refine mg (X:=List WP×Nat) (fun⟨x,b⟩=>[(1, .d (fk x))]) (fun⟨x,b⟩=>[(39,some (.o 76 [.d (.sl (es.map vI)), .d (.v (.int .i64 (b:Nat)))] true))]) (fun⟨x,b⟩=>(x.length<=7/\ ∀q∈x,q.s3)/\b<=es.length) [1] [39] rfl ?_ (fun _=>J) (fun⟨x,b⟩ hq=>?_)
     .
      refine gx J<|cm J (fun b=>(js (n:=2) hes h0)) J<|br J J J (fun hc42=>?_) (fun hc42=>?_)
      .
       refine cm J (fun b=>(ZI hes hn0)) J<|cl (fu:=⟨0⟩) J (LZ (DY hn0).1) J<|aj 45 (.d (fk (rC (lw es (ao es 2 0).2).1))) J (by rw[O9])<|gx J<|at_ ⟨rC (lw es (ao es 2 0).2).1,(lw es (ao es 2 0).2).2⟩ ⟨⟨by have:=(DY hn0).1.n6;show(List.map _ _).length<=7;rw[aX];omega,aEa (DY hn0).1⟩,(DY hn0).2⟩
      .
       exact at_ ⟨r,(ao es 2 0).2⟩ ⟨⟨h8,hr3⟩,hn0⟩
     .
      try dsimp only at hq⊢
      obtain⟨⟨hx7,hx3⟩,hbl⟩:=hq;have hxs: ∀q∈x,q.sm:=fun q hq=>(hx3 q hq).sm;obtain⟨t,hte⟩: ∃t,t=(lA es b).1:=⟨_,rfl⟩;obtain⟨b2,hb2⟩: ∃a,a=(lA es b).2:=⟨_,rfl⟩;have hst:oy t:=by rw[hte];exact(XT hbl).1
      refine cm J (fun b=>(aLG hes hbl hte hb2)) J<|cl J (N3 hst.x) J<|?_;rcases aJO (ai:=ai) (ar:=ar) hxs we with⟨hg,hcv⟩|⟨hg,hcv⟩|⟨a,hB⟩
      .
       have hV:=M3 hg hx3 hx7;obtain⟨u,hu1,hu2,hu3⟩:=aHu hV hst;refine cl J (NW hE.eg hg hcv hV (t:=t) (u:=u) hst.x (Tr.all_imp (fun l hl=>hl.mono oma) hst.bl) (by have:=hst.dp;omega) (by have:=hst.x.s;omega) hu1 hu2 hu3) J<|cl J (J9 hE.egk (r:=x)) J<|?_;rcases hcl:i8 cz with _|ls
       .
        refine cl J (Hn hE.egk (r:=x) hcs we hcl) J<|cl (fu:=⟨3⟩) J (Ih hcs we hcl) J<|iG 70 J<|gx J<|gl (fu:=⟨0⟩) J hE.ErrInvalid J<|jw J pA J<|gl (fu:=⟨0⟩) J hE.ErrInvalid J<|jw J pA J<|cl (fu:=⟨6⟩) J (ED hg) J<|bO J (omh we) J<|cl J (xu hxs we (v:=cj x) J hg.nm) J<|cl (fu:=⟨0⟩) J (DU (v:=cj x) (oA hxs hg.nm) ozs) J<|aj 108 (.d (.v (.bool true))) J ozx<|fD 108 J<|gx (fu:=⟨8⟩) J<|jw J (s9 hE.eg) J<|rz J J
       .
        obtain⟨dl,w,hF⟩:=aE6 hE hcs we hcl (aNT hc hrb hcl) hg hcv hV;refine cl J hF J<|cl (fu:=⟨3⟩) J (Jw hcs we hcl) J<|fD 70 J<|gx J<|gl (fu:=⟨0⟩) J hE.ErrInvalid J<|jw J pA J<|cl (fu:=⟨6⟩) J (ED hg) J<|bO J (omh we) J<|cl J (xu hxs we (v:=cj x) J hg.nm) J<|cl (fu:=⟨0⟩) J (DU (v:=cj x) (oA hxs hg.nm) ozs) J<|aj 108 (.d (.v (.bool true))) J ozx<|fD 108 J<|gx (fu:=⟨8⟩) J<|jw J (s9 hE.eg) J<|rz J J
      .
       refine cl J (aIj hE.egk (t:=t) hst.x hg hcv) J<|cl J (J9 hE.egk (r:=x)) J<|?_;rcases hcl:i8 cz with _|ls
       .
        refine cl J (Hn hE.egk (r:=x) hcs we hcl) J<|cl (fu:=⟨3⟩) J (Ih hcs we hcl) J<|iG 70 J<|gx J<|gl (fu:=⟨0⟩) J hE.ErrInvalid J<|jw J pA J<|gl (fu:=⟨0⟩) J hE.ErrInvalid J<|jw J pA J<|cl (fu:=⟨6⟩) J (ED hg) J<|bO J (omh we) J<|cl J (xu hxs we (v:=cj x) J hg.nm) J<|cl (fu:=⟨0⟩) J (DU (v:=cj x) (oA hxs hg.nm) ozs) J<|aj 108 (.d (.v (.bool false))) J ozx<|iG 108 J<|gx (fu:=⟨6⟩) J<|jw J (s9 hE.eg) J<|gl (fu:=⟨0⟩) J hE.ErrRing J<|jw J pA J<|rz J J
       .
        refine cl J (aFZ hE.egk hcs we hcl hg hcv) J<|cl (fu:=⟨3⟩) J (Jw hcs we hcl) J<|fD 70 J<|gx J<|gl (fu:=⟨0⟩) J hE.ErrInvalid J<|jw J pA J<|cl (fu:=⟨6⟩) J (ED hg) J<|bO J (omh we) J<|cl J (xu hxs we (v:=cj x) J hg.nm) J<|cl (fu:=⟨0⟩) J (DU (v:=cj x) (oA hxs hg.nm) ozs) J<|aj 108 (.d (.v (.bool false))) J ozx<|iG 108 J<|gx (fu:=⟨6⟩) J<|jw J (s9 hE.eg) J<|gl (fu:=⟨0⟩) J hE.ErrRing J<|jw J pA J<|gl (fu:=⟨0⟩) J hE.ErrRing J<|jw J pA J<|rz J J
      .
       obtain⟨n,hn0,hCh,hKd⟩:=Wy (al:=al) hxs we hB;obtain⟨s1,hF1⟩:=aKA hE.egk hxs we hB (t:=t) hst.x;refine cE (fu:=⟨0⟩) J hF1 (fun _=>J)<|?_;intro GB1 u1 hg1 hu1;have hE:=hE.upM hg1;refine gx J<|cl J (J9 hE.egk (r:=x)) J<|?_;rcases hcl:i8 cz with _|ls
       .
        refine cl J (Hn hE.egk (r:=x) hcs we hcl) J<|cl (fu:=⟨3⟩) J (Ih hcs we hcl) J<|iG 70 J<|gx J<|gl (fu:=⟨0⟩) J hE.ErrInvalid J<|jw J pA J<|gl (fu:=⟨0⟩) J hE.ErrInvalid J<|jw J pA J<|cl (fu:=⟨6⟩) J (hCh _) J<|cF (fu:=⟨5⟩) J (omg we) J<|jw (fu:=⟨3⟩) J (s9 hE.eg) J<|cl (fu:=⟨0⟩) J (hKd _ hE.egk) J<|jw J (Hw hu1) J<|rz J J
       .
        obtain⟨s3,hF3⟩:=aGx hE.egk hxs we hB hcs we hcl;refine cE (fu:=⟨0⟩) J hF3 (fun _=>J)<|?_;intro GB3 u3 hg3 hu3;have hE:=hE.upM hg3;refine gx J<|cl (fu:=⟨3⟩) J (Jw hcs we hcl) J<|fD 70 J<|gx J<|gl (fu:=⟨0⟩) J hE.ErrInvalid J<|jw J pA J<|cl (fu:=⟨6⟩) J (hCh _) J<|cF (fu:=⟨5⟩) J (omg we) J<|jw (fu:=⟨3⟩) J (s9 hE.eg) J<|cl (fu:=⟨0⟩) J (hKd _ hE.egk) J<|jw (fu:=⟨7⟩) J (Hw (hu1.up hg3)) J<|cl (fu:=⟨0⟩) J (hKd _ hE.egk) J<|jw J (Hw hu3) J<|rz J J
end Go.Sx
end
section
namespace Go.Sx
open Go Go.Proofs Go.ChangeShapes Go.WideShapes Go.ChangeAt Go.RowKit
variable {w w':World}{b off base:Nat}{v:Value}
def GW(w:World):Gh:=fun b=>match w.heap[b]? with|some (.cells cs _ _)=>some cs.toList|_=>none
def GW.sub{cs:List Value}(h:GW w b=some cs): ∃ty fz,w.heap[b]? =some (.cells ⟨cs⟩ ty fz):=by
 unfold GW at h;split at h
 .rename_i c t f e
  cases h
  exact⟨t,f,by rw[e]⟩
 .cases h
def GW.of_cell(h:w.cell? ⟨b,off,none⟩=some v): ∃cs,GW w b=some cs/\cs[off]? =some v:=by
 unfold World.cell? at h;unfold GW;split at h
 .rename_i c t f e
  simp only at e;refine⟨c.toList,by rw[e],?_⟩;simpa using h
 all_goals first|(rename_i e;cases h)|cases h
def bH.below{G G':Gh}{own:List aB}(h:bH ⟨w,G,[],[],[],none,fun _=>none⟩ own G' w'):Below w.heap.size w w':=
 ⟨h.os,h.tape,h.output,h.size,fun k hk=>h.keep k hk omc⟩
def QN{G:Gh}: ∀es:List Int,IsLs G (es.map vI) (es.map fun n=>Value.int .i64 n)
 |[]=> .nil
 |n::t=> .cons (aI.2 J) (QN t)
def aFb{H:Type}{enc:TypeId×Value->H}{P:Program}{t e:TypeId}{d:DataW H}{ps:List MemPlace}(ht:P.underlying t=some (.slice e))(he:P.underlying e=some (.int .i64))(hc:P.cellsOf e=1)
  (hv:Value.okWide P w .any base t v)(h:DataW.Trod enc P w 0 (fun _=>true) true t v d ps):
  ∃es:List Int,Is (GW w) (.sl (es.map vI)) v/\(d= .nil/\es=[]\/ ∃sp,d= .slice (lits .i64 es) sp)/\(∀n∈es,(Lit.int .i64 n).wf=true):=by
 obtain⟨a0,len,cap,rfl⟩:=okWide_slice ht hv;obtain⟨fuel,hf⟩:=h;rcases open_ints ht he hc hf with⟨hcs,hx⟩|⟨a,len',cap',zs,hcs,_,hl,hm,hz,hx,hcell,hwz⟩
 .simp[Value.cells] at hcs
  obtain⟨rfl,rfl,rfl⟩:=hcs;simp only[Prod.mk.injEq] at hx;exact⟨[],gr.2 ⟨0,⟨none,0,0⟩,[],J,gp.nil _ 0, .nil⟩, .inl ⟨hx.1,J⟩,omc⟩
 .simp[Value.cells] at hcs
  obtain⟨rfl,rfl,rfl⟩:=hcs;simp only[Prod.mk.injEq] at hx;simp only[if_true] at hz;refine⟨zs.take len,gr.2 ⟨1,⟨some a,len,cap⟩,(zs.take len).map fun n=>Value.int .i64 n,J,⟨by simp;omega,hl,?_⟩,QN _⟩, .inr ⟨_,hx.1⟩,fun n hn=>hwz n (fW hn)⟩;by_cases h0:len=0
  .exact .inl (by simp[h0])
  .right
   obtain⟨b,off,spot⟩:=a;have hspot:spot=none:=by simpa[Addr.add] using World.cell?_spot (hcell 0 we)
   subst hspot;have c0: ∀i,i<zs.length->w.cell? ⟨b,off+i,none⟩=some (.int .i64 (zs.getD i 0)):=fun i hi=>by
    have:=hcell i hi;rwa [Go.WideShapes.add_plain] at this
   obtain⟨cs,hcs,_⟩:=GW.of_cell (by have h9:=c0 0 we;rw[gK] at h9;exact h9);refine⟨b,off,cs,J,hcs,fun i hi=>?_⟩;simp only[aX,bT] at hi;obtain⟨cs',hcs',hi'⟩:=GW.of_cell (c0 i we);rw[hcs] at hcs'
   cases hcs'
   rw[jS,Xe.2 hi'];simp[aG,List.getD,aQ (show i<zs.length by omega)]
end Go.Sx
end
