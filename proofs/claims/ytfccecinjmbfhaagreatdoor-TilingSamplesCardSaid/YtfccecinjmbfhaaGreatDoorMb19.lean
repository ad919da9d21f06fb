/- Part 19 of a proof. -/
import Derived.Test.YtfccecinjmbfhaaGreatDoorMb18
import Derived.Test.YtfccecinjmbfhaaGreatDoorCards
import Derived.Test.YtfccecinjmbfhaaGreatDoorTie
import Derived.WalkKit
import Derived.ProofKit
import Derived.OpenShut
import Derived.Deep.DeepHandedRow
import Derived.Deep.DeepWitnessRowRef
import Derived.LaidMore
import Derived.Lib.LaidTab
import Derived.SizedLaws
import Derived.Stop.LaidErr
import Derived.MakeChecks
set_option linter.unusedSimpArgs false
set_option maxHeartbeats 4000000
set_option maxRecDepth 100000
set_option linter.unusedVariables false
section
namespace Go.Sx
open Go Go.Proofs Tryz
variable {GB:Gh}
structure EGS (GB:Gh) (ai al ae au ar:Addr):Prop extends EGU GB ai al ae au where
 ErrEmpty:GB 2=some [.iface 427 (.pointer (some ae))]
 ErrRange:GB 1=some [.iface 427 (.pointer (some ar))]
def smpK(r:List PtQ)(j:Nat):Nat→PtQ
 |0=>(((r.getD 0 ⟨0,0⟩).add (r.getD 1 ⟨0,0⟩)).add (r.getD 2 ⟨0,0⟩)).scale (((1:Int):Rat)/((3:Int):Rat))
 |k+1=>((smpK r j k).add (r.getD j ⟨0,0⟩)).scale (((1:Int):Rat)/((2:Int):Rat))
def smp(ts:List (List PtQ))(i:Nat):PtQ:=smpK (ts.getD (i%ts.length) []) (i%3) (i/ts.length)
theorem smp_at{ts:List (List PtQ)}{i:Nat}{r:List PtQ}(h:ts[i%ts.length]? =some r):smp ts i=smpK r (i%3) (i/ts.length):=by
 unfold smp;rw[aX,h];rfl
theorem BPt.mono{p:PtQ}{i j:Nat}(h:BPt p i)(hj:i≤j):BPt p j:=⟨h.x.mono hj,h.y.mono hj⟩
theorem bq_frac{m n:Int}(hm:m.natAbs≤1000)(hn:n.natAbs≤1000):BQ ((m:Rat)/(n:Rat)) 24:=by
 haveI:=biC (k:=11) hm (by decide)
 haveI:=biC (k:=11) hn (by decide)
 exact(inferInstance:BQ ((m:Rat)/(n:Rat)) _)
theorem smp_bd{a b c:PtQ}(ha:BPt a 1200)(hb:BPt b 1200)(hc:BPt c 1200)(j:Nat): ∀k,BPt (smpK [a,b,c] j k) (4000+1300*k)
 |0=>by
  haveI:=bq_frac (m:=1) (n:=3) (by decide) (by decide)
  have h:BPt (((a.add b).add c).scale (((1:Int):Rat)/((3:Int):Rat))) _:=inferInstance
  exact h.mono (by decide)
 |k+1=>by
  haveI:=bq_frac (m:=1) (n:=2) (by decide) (by decide)
  haveI ih:=smp_bd ha hb hc j k
  have hr:BPt ([a,b,c].getD j ⟨0,0⟩) 1200:=by
   match j with
   |0=>exact ha
   |1=>exact hb
   |2=>exact hc
   |j+3=>exact⟨BQ.zero1200,BQ.zero1200⟩
  haveI:=hr
  have h:BPt (((smpK [a,b,c] j k).add ([a,b,c].getD j ⟨0,0⟩)).scale (((1:Int):Rat)/((2:Int):Rat))) _:=inferInstance
  exact h.mono (by omega)
theorem smp_le{a b c:PtQ}(ha:BPt a 1200)(hb:BPt b 1200)(hc:BPt c 1200)(j:Nat){k:Nat}(hk:k≤60):BPt (smpK [a,b,c] j k) 90000:=(smp_bd ha hb hc j k).mono (by omega)
theorem three_of{ts:List (List PtQ)}(h: ∀r∈ts,(∀p∈r,BPt p 1200)∧r.length=3){i:Nat}(hi:i<ts.length): ∃a b c:PtQ,ts[i]? =some [a,b,c]∧BPt a 1200∧BPt b 1200∧BPt c 1200:=by
 obtain⟨h1,h2⟩:=h _ (bM hi)
 have e:=aQ hi
 generalize ts[i]=r at*
 match r,h2 with
 |[a,b,c],_=>exact⟨a,b,c,e,h1 a (by simp),h1 b (by simp),h1 c (by simp)⟩
theorem smp_first(a b c:PtQ)(j:Nat):acu ⟨0,0⟩ (acu (acu a b ((1:Int):Rat)) c ((1:Int):Rat)) (mkRat 1 3)=smpK [a,b,c] j 0:=by
 show _=((a.add b).add c).scale (((1:Int):Rat)/((3:Int):Rat))
 rw[lY]
 unfold acu PtQ.add PtQ.scale
 simp only[PtQ.mk.injEq]
 constructor<;>(push_cast;grind)
theorem smp_next(r:List PtQ)(j k:Nat){q:PtQ}(h:r[j]? =some q):acu (acu ⟨0,0⟩ (smpK r j k) (mkRat 1 2)) q (mkRat 1 2)=smpK r j (k+1):=by
 rw[smpK,aX,h]
 show _=((smpK r j k).add q).scale (((1:Int):Rat)/((2:Int):Rat))
 rw[lY]
 unfold acu PtQ.add PtQ.scale
 simp only[PtQ.mk.injEq]
 constructor<;>(push_cast;grind)
theorem smp_succ(r:List PtQ)(j k:Nat){q:PtQ}(h:r[j]? =some q):((smpK r j k).add q).scale (((1:Int):Rat)/((2:Int):Rat))=smpK r j (k+1):=by
 rw[smpK,aX,h];rfl
theorem quoN{k d:Nat}(h:k≤1000):IntKind.i64.wrap ((k:Int).tdiv (d:Int))=((k/d:Nat):Int):=by
 have e:(k:Int).tdiv (d:Int)=((k/d:Nat):Int):=rfl
 rw[e]
 have:=iV k d
 exact alV (by rw[iR];omega)
theorem three_get{a b c q:PtQ}(ha:BPt a 1200)(hb:BPt b 1200)(hc:BPt c 1200){j:Nat}(h:[a,b,c][j]? =some q):BPt q 1200:=by
 have hm:=aM h
 simp only[aS,iY,or_false] at hm
 rcases hm with rfl|rfl|rfl<;>assumption
theorem range_map{α:Type}(f:Nat→α){N k:Nat}(h:k<N):((List.range N).map f)[k]? =some (f k):=by
 rw[cN,rK h];rfl
theorem q_ToPb{p:PtQ}{i:Nat}[h:BPt p i](hi:i≤400000000:=by decide):PF GB prog 25 [eP p] (ePt p):=by
 refine fn func25 J J ntmps25 J J (fun C=>?_)
 refine cl rfl (apP (q:=p.x) (i:=i) (by omega)) rfl<|cl rfl (apP (q:=p.y) (i:=i) (by omega)) rfl<|?_
 exact rz J J
theorem p_FFrac{m n:Int}(hm:m.natAbs≤1000)(hn:n.natAbs≤1000):PF GB prog 71 [vI m,vI n] (eF ((m:Rat)/(n:Rat))):=by
 haveI:=biC (k:=11) hm (by decide)
 haveI:=biC (k:=11) hn (by decide)
 refine fn func71 J J ntmps71 J J (fun C=>?_)
 refine cl rfl (aip (m:=m) (by omega)) rfl<|cl rfl (aip (m:=n) (by omega)) rfl<|cl rfl (aky (p:=(m:Rat)) (q:=(n:Rat)) (i:=12) (j:=12)) rfl<|?_
 exact rz J J
theorem p_SamU{ai al ae au ar:Addr}(hE:EGS GB ai al ae au ar){k0:Nat}{t:Tr}(h:TrX k0 t)(hk0:k0≤900)(hr:t.restrict []=t)(hbd:(aaC t).all aeT=false){n:Int}:PF GB prog 20 [eA t,vI n] (.tp [.sl [],ara au]):=by
 refine fn func20 J J ntmps20 J J (fun C=>?_)
 refine cl rfl (aBB hE.toEGU h hk0 hr hbd) rfl<|?_
 exact rz J J
theorem p_SamR{ai al ae au ar:Addr}(hE:EGS GB ai al ae au ar){k0:Nat}{t:Tr}(h:TrX k0 t)(hk0:k0≤900)(hr:t.restrict []=t)(hbd:(aaC t).all aeT=true){ts:List (List PtQ)}(hts:ts=(aaC t).flatMap akU){n:Int}(hn:n<0∨1000<n):PF GB prog 20 [eA t,vI n] (.tp [.sl [],ara ar]):=by
 refine fn func20 J J ntmps20 J J (fun C=>?_)
 refine cl (fu:=⟨0⟩) rfl (anb hE.toEGU h hk0 hr hbd) rfl<|?_
 refine eqF 15 (.d (.tp [.sl (ts.map eRz), .v .nilIface])) rfl (by rw[hts]) ?_
 refine gx (fu:=⟨19⟩) rfl<|?_
 rcases hn with hn|hn
 ·
  refine gx (fu:=⟨1⟩) rfl<|knT rfl (by show some (decide _)=some true;rw[decide_eq_true (by omega)]) rfl<|gl rfl hE.ErrRange rfl<|?_
  exact rz J J
 ·
  refine gx (fu:=⟨1⟩) rfl<|knF (fu:=⟨2⟩) rfl (by show some (decide _)=some false;rw[decide_eq_false (by omega)]) rfl<|knT rfl (by show some (decide _)=some true;rw[decide_eq_true (by omega)]) rfl<|?_
  refine gl rfl hE.ErrRange rfl<|?_
  exact rz J J
theorem p_SamE{ai al ae au ar:Addr}(hE:EGS GB ai al ae au ar){k0:Nat}{t:Tr}(h:TrX k0 t)(hk0:k0≤900)(hr:t.restrict []=t)(hbd:(aaC t).all aeT=true){ts:List (List PtQ)}(hts:ts=(aaC t).flatMap akU){n:Int}(hn:0<n∧n≤1000)(h0:ts.length=0):PF GB prog 20 [eA t,vI n] (.tp [.sl [],ara ae]):=by
 have hml:(ts.map eRz).length=ts.length:=aJ ..
 refine fn func20 J J ntmps20 J J (fun C=>?_)
 refine cl (fu:=⟨0⟩) rfl (anb hE.toEGU h hk0 hr hbd) rfl<|?_
 refine eqF 15 (.d (.tp [.sl (ts.map eRz), .v .nilIface])) rfl (by rw[hts]) ?_
 refine gx (fu:=⟨20⟩) rfl<|knF (fu:=⟨2⟩) rfl (by show some (decide _)=some false;rw[decide_eq_false (by omega)]) rfl<|knF (fu:=⟨8⟩) rfl (by show some (decide _)=some false;rw[decide_eq_false (by omega)]) rfl<|?_
 refine knT (fu:=⟨3⟩) rfl (by show some (decide _)=some true;rw[decide_eq_true (by omega)]) rfl<|?_
 refine eqF 35 (.d (vI (ts.length:Nat))) rfl (by rw[hml]<;>rfl) ?_
 refine gx (fu:=⟨0⟩) rfl<|knT rfl (by show some (decide _)=some true;rw[decide_eq_true (by omega)]) rfl<|gl rfl hE.ErrEmpty rfl<|?_
 exact rz J J
theorem p_Sam0{ai al ae au ar:Addr}(hE:EGS GB ai al ae au ar){k0:Nat}{t:Tr}(h:TrX k0 t)(hk0:k0≤900)(hr:t.restrict []=t)(hbd:(aaC t).all aeT=true){ts:List (List PtQ)}(hts:ts=(aaC t).flatMap akU):PF GB prog 20 [eA t,vI 0] (.tp [.sl [], .v .nilIface]):=by
 refine fn func20 J J ntmps20 J J (fun C=>?_)
 refine cl (fu:=⟨0⟩) rfl (anb hE.toEGU h hk0 hr hbd) rfl<|?_
 refine eqF 15 (.d (.tp [.sl (ts.map eRz), .v .nilIface])) rfl (by rw[hts]) ?_
 refine gx (fu:=⟨20⟩) rfl<|knF (fu:=⟨2⟩) J J J<|knF (fu:=⟨8⟩) J J J<|knF J J J<|cl rfl (p_FFrac (m:=1) (n:=2) (by decide) (by decide)) rfl<|?_
 refine lp (X:=Nat) (fun k=>[(41, .d (vI 0)),(8, .nl)]) (fun k=>[]) (fun k=>True) (fun k=>k) 0 rfl trivial (fun _=>rfl) (fun k hk=>?_)
 refine br J J J (fun hc42=>?_) (fun hc42=>?_)
 ·
  exact absurd hc42 (by decide)
 ·
  exact rz J J
theorem p_SamB{ai al ae au ar:Addr}(hE:EGS GB ai al ae au ar){k0:Nat}{t:Tr}(h:TrX k0 t)(hk0:k0≤900)(hr:t.restrict []=t)(hbd:(aaC t).all aeT=true){ts:List (List PtQ)}(hts:ts=(aaC t).flatMap akU)(hb3: ∀r∈ts,(∀p∈r,BPt p 1200)∧r.length=3)(htn:ts.length≤100000000){N:Nat}(hN:0<N∧N≤40)(h0:0<ts.length):PF GB prog 20 [eA t,vI (N:Nat)] (.tp [.sl (((List.range N).map (smp ts)).map ePt), .v .nilIface]):=by
 have hml:(ts.map eRz).length=ts.length:=aJ ..
 haveI:=bq_frac (m:=1) (n:=2) (by decide) (by decide)
 haveI:=bq_frac (m:=1) (n:=3) (by decide) (by decide)
 refine fn func20 J J ntmps20 J J (fun C=>?_)
 refine cl (fu:=⟨0⟩) rfl (anb hE.toEGU h hk0 hr hbd) rfl<|?_
 refine eqF 15 (.d (.tp [.sl (ts.map eRz), .v .nilIface])) rfl (by rw[hts]) ?_
 refine gx (fu:=⟨20⟩) rfl<|knF (fu:=⟨2⟩) rfl (by show some (decide _)=some false;rw[decide_eq_false (by omega)]) rfl<|knF (fu:=⟨8⟩) rfl (by show some (decide _)=some false;rw[decide_eq_false (by omega)]) rfl<|?_
 refine knT (fu:=⟨3⟩) rfl (by show some (decide _)=some true;rw[decide_eq_true (by omega)]) rfl<|?_
 refine eqF 35 (.d (vI (ts.length:Nat))) rfl (by rw[hml]<;>rfl) ?_
 refine gx (fu:=⟨0⟩) rfl<|knF rfl (by show some (decide _)=some false;rw[decide_eq_false (by omega)]) rfl<|cl rfl (p_FFrac (m:=1) (n:=2) (by decide) (by decide)) rfl<|?_
 refine nr 8 8 65 6 J J J ?_
 refine lp (X:=Nat) (fun k=>[(41, .d (vI (k:Nat))),(8, .rw 8)]) (fun k=>[(8,some (.b 65 6 (((List.range k).map (smp ts)).map ePt) true))]) (fun k=>k≤N) (fun k=>N-k) 0 rfl (aR _) (fun _=>rfl) (fun k hk=>?_)
 have hal:(((List.range k).map (smp ts)).map ePt).length=k:=by simp
 refine br (fu1:=⟨16⟩) J J J (fun hc42=>?_) (fun hc42=>?_)
 ·
  have hkN:k<N:=by omega
  have hki:=cS k h0
  obtain⟨a,b,c,hx,ha,hb,hc⟩:=three_of hb3 hki
  have hdk:k/ts.length≤k:=iV _ _
  have hk3:=cS k (show 0<3 by decide)
  refine eqF 47 (.d (vI (ts.length:Nat))) rfl (by rw[hml]<;>rfl) ?_
  refine gx (fu:=⟨1⟩) rfl<|?_
  refine eqF 48 (.d (vI ((k%ts.length:Nat):Int))) J J ?_
  refine gx rfl<|ix (fu:=⟨1⟩) _ rfl (aak hx) rfl<|?_
  refine eqF 50 (.d (.sl ([a,b,c].map eZ))) J J ?_
  refine gx rfl<|ix _ rfl (show([a,b,c].map eZ)[(0:Int).toNat]? =some (eZ a) from rfl) rfl<|ix _ rfl (show([a,b,c].map eZ)[(1:Int).toNat]? =some (eZ b) from rfl) rfl<|?_
  refine cl rfl (apw (p:=a) (q:=b) (i:=1200) (j:=1200)) rfl<|ix _ rfl (show([a,b,c].map eZ)[(2:Int).toNat]? =some (eZ c) from rfl) rfl<|?_
  refine cl rfl (apw (p:=a.add b) (q:=c) (i:=2401) (j:=1200)) rfl<|cl rfl (p_FFrac (m:=1) (n:=3) (by decide) (by decide)) rfl<|cl (fu:=⟨0⟩) rfl (aif (p:=(a.add b).add c) (c:=((1:Int):Rat)/((3:Int):Rat)) (i:=3602) (j:=24)) rfl<|?_
  refine eqF 63 (.d (eZ (smpK [a,b,c] (k%3) 0))) J J ?_
  refine gx (fu:=⟨10⟩) rfl<|?_
  refine eqF 66 (.d (vI (ts.length:Nat))) rfl (by rw[hml]<;>rfl) ?_
  refine gx (fu:=⟨1⟩) rfl<|?_
  refine eqF 67 (.d (vI ((k/ts.length:Nat):Int))) rfl (by rw[quoN (show k≤1000 by omega)]<;>rfl) ?_
  refine gx rfl<|?_
  refine lp (X:=Nat) (fun m=>[(68, .d (vI (m:Nat))),(12, .ov 12 0)]) (fun m=>[(12,some (.o 145 [.d (vI (fn_ (smpK [a,b,c] (k%3) m).x)), .d (vI (fd_ (smpK [a,b,c] (k%3) m).x)), .d (fp_ (smpK [a,b,c] (k%3) m).x), .d (vI (fn_ (smpK [a,b,c] (k%3) m).y)), .d (vI (fd_ (smpK [a,b,c] (k%3) m).y)), .d (fp_ (smpK [a,b,c] (k%3) m).y)] true))]) (fun m=>m≤k/ts.length) (fun m=>k/ts.length-m) 0 rfl (aR _) (fun _=>rfl) (fun m hk=>?_)
  haveI:=smp_le ha hb hc (k%3) (k:=m) (by omega)
  refine br (fu1:=⟨9⟩) J J J (fun hc69=>?_) (fun hc69=>?_)
  ·
   obtain⟨q,hq⟩: ∃q,[a,b,c][k%3]? =some q:=⟨_,aQ hk3⟩
   haveI hqb:=three_get ha hb hc hq
   refine eqF 73 (.d (vI ((k%3:Nat):Int))) J J ?_
   refine gx rfl<|ix _ rfl (aak hq) rfl<|cl rfl (apw (p:=smpK [a,b,c] (k%3) m) (q:=q) (i:=90000) (j:=1200)) rfl<|cl (fu:=⟨0⟩) rfl (aif (p:=(smpK [a,b,c] (k%3) m).add q) (c:=((1:Int):Rat)/((2:Int):Rat)) (i:=91201) (j:=24)) rfl<|?_
   refine eqF 78 (.d (eZ (smpK [a,b,c] (k%3) (m+1)))) rfl (by rw[smp_succ _ _ _ hq]) ?_
   refine gx (hv:=by simp only[aah];exact⟨by kernel_rfl,by omega⟩) rfl<|?_
   exact at_ (m+1) ⟨(by omega),(by omega)⟩
  ·
   obtain rfl:m=k/ts.length:=by omega
   have hsk:=smp_at hx
   refine cl rfl (arD (p:=smpK [a,b,c] (k%3) (k/ts.length)) (i:=90000)) rfl<|rf J J<|ap (((List.range (k+1)).map (smp ts)).map ePt) rfl (by rw[List.range_succ,aN,aN,List.map_singleton,hsk]<;>rfl) (arJ [smpK [a,b,c] (k%3) (k/ts.length)]) rfl<|?_
   refine rnE 84 8 rfl ?_
   exact at_ (k+1) ⟨(by omega),(by omega)⟩
 ·
  obtain rfl:k=N:=by omega
  refine fzE 8 rfl ?_
  exact rz J J
theorem q_PartI{n:Int}{d:Nat}(hn:n.natAbs≤1000)(hd:0<d)(hd1:d≤1000):PF GB prog 22 [vI n, .v (.int .i64 (d:Nat))] (eQ (mkRat n d)):=by
 haveI:BI n 10:=aDz (by omega)
 haveI:BN d 10:=⟨by omega⟩
 refine fn func22 J J ntmps22 J J (fun C=>?_)
 refine cl rfl (aBc (n:=n) (by omega) (by omega)) rfl<|cl rfl (agF (u:=d) (by omega)) rfl<|cl rfl (ajo (x:=n) (d:=d) hd) rfl<|?_
 exact rz J J
def qF(es:List Int)(a:Nat):Rat×Nat:=
 (if((aae es 6 (aae es 9 a).2).1:Int)=0 then mkRat (2*(((aae es 9 a).1:Int)-4)+1) 2 else if((aae es 6 (aae es 9 a).2).1:Int)=1 then mkRat (3*(((aae es 9 a).1:Int)-4)+1) 3 else(((aae es 9 a).1:Rat)-4:Rat),(aae es 6 (aae es 9 a).2).2)
def pntF(es:List Int)(a:Nat):PtQ×Nat:=(⟨(qF es a).1,(qF es (qF es a).2).1⟩,(qF es (qF es a).2).2)
def lnO:LnQ:=⟨1,0,0⟩
def plcF(es:List Int)(L:List LnQ)(a:Nat):PtQ×Nat:=
 if L.length=0 then pntF es a else
 if((aae es 3 (aae es L.length a).2).1:Int)=0 then
  (if crossI (L.getD (aae es L.length a).1 lnO) (L.getD (aae es L.length (aae es 3 (aae es L.length a).2).2).1 lnO)≠0 then(abH (L.getD (aae es L.length a).1 lnO) (L.getD (aae es L.length (aae es 3 (aae es L.length a).2).2).1 lnO),(aae es L.length (aae es 3 (aae es L.length a).2).2).2) else pntF es (aae es L.length (aae es 3 (aae es L.length a).2).2).2)
 else if((aae es 3 (aae es L.length a).2).1:Int)=1 then((L.getD (aae es L.length a).1 lnO).at (qF es (aae es 3 (aae es L.length a).2).2).1,(qF es (aae es 3 (aae es L.length a).2).2).2) else pntF es (aae es 3 (aae es L.length a).2).2
theorem q_Reg0{b:Nat}{es:List Int}(hes:es.length≤400){A:Tr}(hA:A=(aaq es 0 0).1):PM GB prog 12 (mkP [none,some (vI 0)] b) b 104 [.sl (es.map vI), .v (.int .i64 (0:Nat))] (eT A) [.sl (es.map vI), .v (.int .i64 ((aaq es 0 0).2:Nat))]:=by
 subst hA;exact asV hes (aR _) (d:=0) (by decide)
theorem bz1200:BPt ⟨0,0⟩ 1200:=⟨BQ.zero1200,BQ.zero1200⟩
theorem smp_cases{b:Bool}{m:Int}{k:Nat}(hm:m<0∨1000<m∨(0≤m∧m≤40)):b=false∨(b=true∧m<0)∨(b=true∧1000<m)∨(b=true∧0<m∧m≤1000∧k=0)∨(b=true∧m=0)∨(b=true∧ ∃N:Nat,m=(N:Nat)∧0<N∧N≤40∧0<k):=by
 cases b with
 |false=>exact .inl rfl
 |true=>
  right
  rcases hm with h|h|h
  ·exact .inl ⟨rfl,h⟩
  ·exact .inr (.inl ⟨rfl,h⟩)
  ·by_cases z:m=0
   ·exact .inr (.inr (.inr (.inl ⟨rfl,z⟩)))
   ·by_cases y:k=0
    ·exact .inr (.inr (.inl ⟨rfl,by omega,by omega,y⟩))
    ·exact .inr (.inr (.inr (.inr ⟨rfl,m.toNat,by omega,by omega,by omega,by omega⟩)))
theorem q_TilingSamples{ai al ae au ar:Addr}(hE:EGS GB ai al ae au ar){es0:List Int}(hb:es0.length≤1125899906842624){n:Int}(hn: -9223372036854775808≤n∧n<9223372036854775808):PF GB prog 4 [.sl (es0.map vI),vI n] (.v (.bool true)):=by
 obtain⟨es,hee⟩: ∃es,es=es0.take 400:=⟨_,rfl⟩
 have hes:es.length≤400:=by rw[hee];simp;omega
 obtain⟨A,hAe⟩: ∃A,A=(aaq es 0 0).1:=⟨_,rfl⟩
 obtain⟨hA,_⟩:=aqu (es:=es) (a:=0) (aR _)
 have hr:=Tr.red_restrict (aiz es 0)
 rw[←hAe] at hA hr
 obtain⟨ts,hts⟩: ∃ts,ts=(aaC A).flatMap akU:=⟨_,rfl⟩
 have htb:=auh hA (by decide)
 rw[←hts] at htb
 have hml2:(ts.map eRp).length=ts.length:=aJ ..
 haveI:=bz1200
 haveI:BQ (mkRat 1 3) 3:=⟨by decide,by decide⟩
 refine fn func4 J J ntmps4 J J (fun C=>?_)
 refine cn rfl ((aB1 hb hee)) (fun _=>rfl) (fun _=>?_)
 refine cm (fu:=⟨4⟩) rfl (fun b=>(q_Reg0 hes hAe)) rfl<|?_
 refine mg (X:=Int) (fun m=>[(1, .d (vI m))]) (fun m=>[]) (fun m=>m<0∨1000<m∨(0≤m∧m≤40)) [1] [] rfl ?_ (fun _=>rfl) (fun m hm=>?_)
 ·
  refine gx rfl<|?_
  refine cs 18 J J J (fun hg18=>?_) (fun hg18=>?_)
  ·
   refine br (fu1:=⟨3⟩) J J J (fun hc21=>?_) (fun hc21=>?_)
   ·
    refine eqF 23 (.d (vI (n%40))) rfl (by rw[Int.tmod_eq_emod_of_nonneg (by omega)]<;>rfl) ?_
    refine gx rfl<|?_
    exact at_ (n%40) (by omega)
   ·
    exact at_ n (by omega)
  ·
   exact at_ n (by omega)
 ·
  refine cl rfl (aoQ hA) rfl<|?_
  rcases(show(aaC A).all aeT=false∨((aaC A).all aeT=true∧m<0)∨((aaC A).all aeT=true∧1000<m)∨((aaC A).all aeT=true∧0<m∧m≤1000∧ts.length=0)∨((aaC A).all aeT=true∧m=0)∨((aaC A).all aeT=true∧ ∃N:Nat,m=(N:Nat)∧0<N∧N≤40∧0<ts.length) from smp_cases hm) with hbd|⟨hbd,h1⟩|⟨hbd,h1⟩|⟨hbd,h1,h2,h0⟩|⟨hbd,hm0⟩|⟨hbd,N,hmN,h1,h2,h0⟩
  ·
   refine cl rfl (p_SamU hE hA (by decide) hr hbd) rfl<|cl rfl (akw hA (by decide) hr (ts:=ts) hts) rfl<|cl (fu:=⟨0⟩) rfl (akz hA (by decide)) rfl<|?_
   refine eqF 35 (.d (vB false)) rfl (by rw[hbd]) ?_
   refine kbF 35 rfl ?_
   refine gx rfl<|cl (fu:=⟨0⟩) rfl (aef hE.toEGU) rfl<|?_
   refine kbT 37 rfl ?_
   refine gx rfl<|gl rfl hE.ErrUnbounded rfl<|cl (fu:=⟨0⟩) rfl au0 rfl<|?_
   refine kbT 41 rfl ?_
   refine gx rfl<|?_
   exact rz J J
  ·
   refine cl rfl (p_SamR hE hA (by decide) hr hbd hts (by omega)) rfl<|cl rfl (akw hA (by decide) hr (ts:=ts) hts) rfl<|cl (fu:=⟨0⟩) rfl (akz hA (by decide)) rfl<|?_
   refine eqF 35 (.d (vB true)) rfl (by rw[hbd]) ?_
   refine kbT 35 rfl ?_
   refine gx (fu:=⟨8⟩) rfl<|knT rfl (by show some (decide _)=some true;rw[decide_eq_true (by omega)]) rfl<|cl (fu:=⟨0⟩) rfl (aef hE.toEGU) rfl<|?_
   refine kbT 55 rfl ?_
   refine gx rfl<|gl rfl hE.ErrRange rfl<|cl (fu:=⟨0⟩) rfl au0 rfl<|?_
   refine kbT 59 rfl ?_
   refine gx rfl<|?_
   exact rz J J
  ·
   refine cl rfl (p_SamR hE hA (by decide) hr hbd hts (by omega)) rfl<|cl rfl (akw hA (by decide) hr (ts:=ts) hts) rfl<|cl (fu:=⟨0⟩) rfl (akz hA (by decide)) rfl<|?_
   refine eqF 35 (.d (vB true)) rfl (by rw[hbd]) ?_
   refine kbT 35 rfl ?_
   refine gx (fu:=⟨8⟩) rfl<|knF (fu:=⟨2⟩) rfl (by show some (decide _)=some false;rw[decide_eq_false (by omega)]) rfl<|knT rfl (by show some (decide _)=some true;rw[decide_eq_true (by omega)]) rfl<|?_
   refine cl (fu:=⟨0⟩) rfl (aef hE.toEGU) rfl<|?_
   refine kbT 55 rfl ?_
   refine gx rfl<|gl rfl hE.ErrRange rfl<|cl (fu:=⟨0⟩) rfl au0 rfl<|?_
   refine kbT 59 rfl ?_
   refine gx rfl<|?_
   exact rz J J
  ·
   refine cl rfl (p_SamE hE hA (by decide) hr hbd hts ⟨by omega,by omega⟩ h0) rfl<|cl rfl (akw hA (by decide) hr (ts:=ts) hts) rfl<|cl (fu:=⟨0⟩) rfl (akz hA (by decide)) rfl<|?_
   refine eqF 35 (.d (vB true)) rfl (by rw[hbd]) ?_
   refine kbT 35 rfl ?_
   refine gx (fu:=⟨8⟩) rfl<|knF (fu:=⟨2⟩) rfl (by show some (decide _)=some false;rw[decide_eq_false (by omega)]) rfl<|knF (fu:=⟨8⟩) rfl (by show some (decide _)=some false;rw[decide_eq_false (by omega)]) rfl<|?_
   refine knT (fu:=⟨3⟩) rfl (by show some (decide _)=some true;rw[decide_eq_true (by omega)]) rfl<|?_
   refine eqF 71 (.d (vI (ts.length:Nat))) rfl (by rw[hml2]<;>rfl) ?_
   refine gx (fu:=⟨0⟩) rfl<|knT rfl (by show some (decide _)=some true;rw[decide_eq_true (by omega)]) rfl<|cl (fu:=⟨0⟩) rfl (aef hE.toEGU) rfl<|?_
   refine kbT 74 rfl ?_
   refine gx rfl<|gl rfl hE.ErrEmpty rfl<|cl (fu:=⟨0⟩) rfl au0 rfl<|?_
   refine kbT 78 rfl ?_
   refine gx rfl<|?_
   exact rz J J
  ·
   subst hm0
   refine cl rfl (p_Sam0 hE hA (by decide) hr hbd hts) rfl<|cl rfl (akw hA (by decide) hr (ts:=ts) hts) rfl<|cl (fu:=⟨0⟩) rfl (akz hA (by decide)) rfl<|?_
   refine eqF 35 (.d (vB true)) rfl (by rw[hbd]) ?_
   refine kbT 35 rfl ?_
   refine gx (fu:=⟨8⟩) rfl<|knF (fu:=⟨2⟩) J J J<|knF (fu:=⟨8⟩) J J J<|knF (fu:=⟨21⟩) J J J<|knF (fu:=⟨11⟩) J J J<|?_
   refine eqF 94 (.d (vI 0)) J J ?_
   refine gx rfl<|?_
   refine lp (X:=Nat) (fun k=>[(95, .d (vI 0))]) (fun k=>[]) (fun k=>True) (fun k=>k) 0 rfl trivial (fun _=>rfl) (fun k hk=>?_)
   refine br J J J (fun hc96=>?_) (fun hc96=>?_)
   ·
    exact absurd hc96 (by decide)
   ·
    refine cl rfl (aef hE.toEGU) rfl<|?_
    exact rz J J
  ·
   subst hmN
   have hsl:(((List.range N).map (smp ts)).map ePt).length=N:=by simp
   refine cl rfl (p_SamB hE hA (by decide) hr hbd hts htb.2 (by omega) (N:=N) ⟨by omega,by omega⟩ h0) rfl<|cl rfl (akw hA (by decide) hr (ts:=ts) hts) rfl<|?_
   refine cl (fu:=⟨0⟩) rfl (akz hA (by decide)) rfl<|?_
   refine eqF 35 (.d (vB true)) rfl (by rw[hbd]) ?_
   refine kbT 35 rfl ?_
   refine gx (fu:=⟨8⟩) rfl<|knF (fu:=⟨2⟩) rfl (by show some (decide _)=some false;rw[decide_eq_false (by omega)]) rfl<|knF (fu:=⟨8⟩) rfl (by show some (decide _)=some false;rw[decide_eq_false (by omega)]) rfl<|?_
   refine knT (fu:=⟨3⟩) rfl (by show some (decide _)=some true;rw[decide_eq_true (by omega)]) rfl<|?_
   refine eqF 71 (.d (vI (ts.length:Nat))) rfl (by rw[hml2]<;>rfl) ?_
   refine gx (fu:=⟨0⟩) rfl<|knF (fu:=⟨16⟩) rfl (by show some (decide _)=some false;rw[decide_eq_false (by omega)]) rfl<|?_
   refine eqF 89 (.d (vI (N:Nat))) rfl (by rw[hsl]<;>rfl) ?_
   refine gx (fu:=⟨1⟩) rfl<|knF (fu:=⟨11⟩) rfl (by show some (decide _)=some false;rw[decide_eq_false (by omega)]) rfl<|?_
   refine eqF 94 (.d (vI (N:Nat))) rfl (by rw[hsl]<;>rfl) ?_
   refine gx rfl<|?_
   refine lp (X:=Nat) (fun k=>[(95, .d (vI (k:Nat)))]) (fun k=>[]) (fun k=>k≤N) (fun k=>N-k) 0 rfl (aR _) (fun _=>rfl) (fun k hk=>?_)
   refine br (fu1:=⟨16⟩) J J J (fun hc96=>?_) (fun hc96=>?_)
   ·
    have hkN:k<N:=by omega
    have hki:=cS k h0
    obtain⟨a,b,c,hx,ha,hb',hc⟩:=three_of htb.2 hki
    have hdk:k/ts.length≤k:=iV _ _
    have hk3:=cS k (show 0<3 by decide)
    have hsk:=smp_at hx
    refine eqF 101 (.d (vI (ts.length:Nat))) rfl (by rw[hml2]<;>rfl) ?_
    refine gx (fu:=⟨1⟩) rfl<|?_
    refine eqF 102 (.d (vI ((k%ts.length:Nat):Int))) J J ?_
    refine gx rfl<|ix (fu:=⟨1⟩) _ rfl (aak hx) rfl<|?_
    refine eqF 104 (.d (.sl ([a,b,c].map eP))) J J ?_
    refine gx (fu:=⟨6⟩) rfl<|?_
    refine eqF 105 (.d (eP ⟨0,0⟩)) rfl (by rw[alq]) ?_
    refine gx rfl<|cl rfl (q_PartI (n:=1) (d:=3) (by decide) (by decide) (by decide)) rfl<|ix _ rfl (show([a,b,c].map eP)[(0:Int).toNat]? =some (eP a) from rfl) rfl<|?_
    refine cl rfl (ale (n:=1) (by decide) (by decide)) rfl<|ix _ rfl (show([a,b,c].map eP)[(1:Int).toNat]? =some (eP b) from rfl) rfl<|cl rfl (afQ (p:=a) (q:=b) (c:=((1:Int):Rat)) (i:=1200) (j:=1200) (k:=2)) rfl<|?_
    refine cl rfl (ale (n:=1) (by decide) (by decide)) rfl<|ix _ rfl (show([a,b,c].map eP)[(2:Int).toNat]? =some (eP c) from rfl) rfl<|cl rfl (afQ (p:=acu a b ((1:Int):Rat)) (q:=c) (c:=((1:Int):Rat)) (i:=2403) (j:=1200) (k:=2)) rfl<|?_
    refine cl (fu:=⟨0⟩) rfl (afQ (p:=⟨0,0⟩) (q:=acu (acu a b ((1:Int):Rat)) c ((1:Int):Rat)) (c:=mkRat 1 3) (i:=1200) (j:=3606) (k:=3)) rfl<|?_
    refine eqF 120 (.d (eP (smpK [a,b,c] (k%3) 0))) rfl (by rw[smp_first]) ?_
    refine gx (fu:=⟨10⟩) rfl<|?_
    refine eqF 123 (.d (vI (ts.length:Nat))) rfl (by rw[hml2]<;>rfl) ?_
    refine gx (fu:=⟨1⟩) rfl<|?_
    refine eqF 124 (.d (vI ((k/ts.length:Nat):Int))) rfl (by rw[quoN (show k≤1000 by omega)]<;>rfl) ?_
    refine gx rfl<|?_
    refine lp (X:=Nat) (fun m=>[(12, .d (vI (((k/ts.length:Nat):Int)-(m:Nat)))),(11, .ov 11 0)]) (fun m=>[(11,some (.o 54 [.d (.v (.bool (decide ((smpK [a,b,c] (k%3) m).x.num<0)))), .d (dN (smpK [a,b,c] (k%3) m).x.num.natAbs), .d (dD (smpK [a,b,c] (k%3) m).x.den), .d (.v (.bool (decide ((smpK [a,b,c] (k%3) m).y.num<0)))), .d (dN (smpK [a,b,c] (k%3) m).y.num.natAbs), .d (dD (smpK [a,b,c] (k%3) m).y.den)] true))]) (fun m=>m≤k/ts.length) (fun m=>k/ts.length-m) 0 rfl (aR _) (fun _=>rfl) (fun m hk=>?_)
    haveI:=smp_le ha hb' hc (k%3) (k:=m) (by omega)
    refine br (fu1:=⟨6⟩) J J J (fun hc126=>?_) (fun hc126=>?_)
    ·
     obtain⟨q,hq⟩: ∃q,[a,b,c][k%3]? =some q:=⟨_,aQ hk3⟩
     haveI hqb:=three_get ha hb' hc hq
     refine eqF 129 (.d (eP ⟨0,0⟩)) rfl (by rw[alq]) ?_
     refine gx rfl<|cl rfl (q_PartI (n:=1) (d:=2) (by decide) (by decide) (by decide)) rfl<|cl rfl (afQ (p:=⟨0,0⟩) (q:=smpK [a,b,c] (k%3) m) (c:=mkRat 1 2) (i:=1200) (j:=90000) (k:=2)) rfl<|?_
     refine cl (fu:=⟨3⟩) rfl (q_PartI (n:=1) (d:=2) (by decide) (by decide) (by decide)) rfl<|?_
     refine eqF 136 (.d (vI ((k%3:Nat):Int))) J J ?_
     refine gx rfl<|ix _ rfl (aak hq) rfl<|cl (fu:=⟨0⟩) rfl (afQ (p:=acu ⟨0,0⟩ (smpK [a,b,c] (k%3) m) (mkRat 1 2)) (q:=q) (c:=mkRat 1 2) (i:=91203) (j:=1200) (k:=2)) rfl<|?_
     refine eqF 139 (.d (eP (smpK [a,b,c] (k%3) (m+1)))) rfl (by rw[smp_next _ _ _ hq]) ?_
     refine gx (hv:=by simp only[aah];exact⟨by kernel_rfl,by omega⟩) rfl<|?_
     exact at_ (m+1) ⟨(by omega),(by omega)⟩
    ·
     obtain rfl:m=k/ts.length:=by omega
     refine ix (fu:=⟨1⟩) _ rfl (aak (range_map (smp ts) hkN)) rfl<|?_
     refine eqF 143 (.d (ePt (smpK [a,b,c] (k%3) (k/ts.length)))) rfl (by rw[hsk]<;>rfl) ?_
     refine gx rfl<|cl rfl (q_ToPb (p:=smpK [a,b,c] (k%3) (k/ts.length)) (i:=90000)) rfl<|cl (fu:=⟨0⟩) rfl (awB (p:=smpK [a,b,c] (k%3) (k/ts.length)) (q:=smpK [a,b,c] (k%3) (k/ts.length)) (i:=90000) (j:=90000) (by decide) rfl) rfl<|?_
     refine knF (hv:=by simp only[aah];exact⟨by kernel_rfl,by omega⟩) J J J<|?_
     exact at_ (k+1) ⟨(by omega),(by omega)⟩
   ·
    refine cl rfl (aef hE.toEGU) rfl<|?_
    exact rz J J
end Go.Sx
end
section
namespace Go.Sx
open Go Go.Proofs Go.ChangeShapes Go.WideShapes Go.ChangeAt Go.RowKit
def GW(w:World):Gh:=fun b=>match w.heap[b]? with|some (.cells cs _ _)=>some cs.toList|_=>none
theorem GW.sub{w:World}{b:Nat}{cs:List Value}(h:GW w b=some cs): ∃ty fz,w.heap[b]? =some (.cells ⟨cs⟩ ty fz):=by
 unfold GW at h
 split at h
 ·rename_i c t f e
  cases h
  exact⟨t,f,by rw[e]⟩
 ·cases h
theorem GW.of_cell{w:World}{b off:Nat}{v:Value}(h:w.cell? ⟨b,off,none⟩=some v): ∃cs,GW w b=some cs∧cs[off]? =some v:=by
 unfold World.cell? at h
 unfold GW
 split at h
 ·rename_i c t f e
  simp only at e
  refine⟨c.toList,by rw[e],?_⟩
  simpa using h
 all_goals first|(rename_i e;cases h)|cases h
theorem ab5.below{w w':World}{G G':Gh}{own:List Own}(h:ab5 ⟨w,G,[]⟩ own G' w'):Below w.heap.size w w':=
 ⟨h.os,h.tape,h.output,h.size,fun k hk=>h.keep k hk (by simp)⟩
theorem isLs_vI{G:Gh}: ∀es:List Int,IsLs G (es.map vI) (es.map fun n=>Value.int .i64 n)
 |[]=> .nil
 |n::t=> .cons (aa2.2 rfl) (isLs_vI t)
theorem open_vI{base:Nat}{H:Type}{enc:TypeId×Value→H}{P:Program}{w:World}{t e:TypeId}{v:Value}{d:DataW H}{ps:List MemPlace}(ht:P.underlying t=some (.slice e))(he:P.underlying e=some (.int .i64))(hc:P.cellsOf e=1)
  (hv:Value.okWide P w .any base t v)(h:DataW.Trod enc P w 0 (fun _=>true) true t v d ps):
  ∃es:List Int,Is (GW w) (.sl (es.map vI)) v∧(d= .nil∧es=[]∨ ∃sp,d= .slice (lits .i64 es) sp)∧(∀n∈es,(Lit.int .i64 n).wf=true):=by
 obtain⟨a0,len,cap,rfl⟩:=okWide_slice ht hv
 obtain⟨fuel,hf⟩:=h
 rcases open_ints ht he hc hf with⟨hcs,hx⟩|⟨a,len',cap',zs,hcs,_,hl,hm,hz,hx,hcell,hwz⟩
 ·simp[Value.cells] at hcs
  obtain⟨rfl,rfl,rfl⟩:=hcs
  simp only[Prod.mk.injEq] at hx
  exact⟨[],adH.2 ⟨0,⟨none,0,0⟩,[],rfl,afb.nil _ 0, .nil⟩, .inl ⟨hx.1,rfl⟩,by simp⟩
 ·simp[Value.cells] at hcs
  obtain⟨rfl,rfl,rfl⟩:=hcs
  simp only[Prod.mk.injEq] at hx
  simp only[if_true] at hz
  refine⟨zs.take len,adH.2 ⟨1,⟨some a,len,cap⟩,(zs.take len).map fun n=>Value.int .i64 n,rfl,⟨by simp;omega,hl,?_⟩,isLs_vI _⟩, .inr ⟨_,hx.1⟩,fun n hn=>hwz n (eJ hn)⟩
  by_cases h0:len=0
  ·exact .inl (by simp[h0])
  ·right
   obtain⟨b,off,spot⟩:=a
   have hspot:spot=none:=by simpa[Addr.add] using World.cell?_spot (hcell 0 (by omega))
   subst hspot
   have c0: ∀i,i<zs.length→w.cell? ⟨b,off+i,none⟩=some (.int .i64 (zs.getD i 0)):=fun i hi=>by
    have:=hcell i hi
    rwa [Go.WideShapes.add_plain] at this
   obtain⟨cs,hcs,_⟩:=GW.of_cell (by have h9:=c0 0 (by omega);rw[dT] at h9;exact h9)
   refine⟨b,off,cs,rfl,hcs,fun i hi=>?_⟩
   simp only[aJ,cK] at hi
   obtain⟨cs',hcs',hi'⟩:=GW.of_cell (c0 i (by omega))
   rw[hcs] at hcs'
   cases hcs'
   rw[gR,ash.2 hi']
   simp[aaf,List.getD,aQ (show i<zs.length by omega)]
inductive CSh where
 |b
 |i (k:IntKind)
 |sl (ag:Bool) (l:List CSh)
mutual
def Fit:CSh→DV→Prop
 | .b,d=> ∃b,d= .v (.bool b)
 | .i k,d=> ∃n,d= .v (.int k n)∧(Lit.int k n).wf=true
 | .sl ag l,d=> ∃m:List DV,d= .sl m∧m.length≤maxLen∧ ∀x∈m,∃ys,FitL l ys∧((ag=true∧x= .ag ys)∨(ag=false∧ys=[x]))
def FitL:List CSh→List DV→Prop
 |[],ds=>ds=[]
 |s::l,ds=> ∃d t,ds=d::t∧Fit s d∧FitL l t
end
def flatF(r:TypeId→Option (Bool×List CSh))(P:Program):List Field→Nat→Option (List CSh)
 |[],_=>some []
 |f::fs,o=>match r f.type with
  |some (_,l)=>if f.offset=o∧P.cellsOf f.type=l.length then(flatF r P fs (o+l.length)).map (l++ ·) else none
  |none=>none
def flatT(P:Program):Nat→TypeId→Option (Bool×List CSh)
 |0,_=>none
 |n+1,t=>match P.underlying t with
  |some .bool=>some (false,[.b])
  |some (.int k)=>some (false,[.i k])
  |some (.slice e)=>match flatT P n e with
   |some (a,l)=>if P.cellsOf e=l.length∧0<l.length then some (false,[.sl a l]) else none
   |none=>none
  |some (.struct fs)=>match flatF (flatT P n) P fs.toList 0 with
   |some l=>if P.cellsOf t=l.length then some (true,l) else none
   |none=>none
  |_=>none
section
variable {H:Type} {enc:TypeId×Value→H} {P:Program} {w:World}
end
def shI:List CSh:=[.b, .sl false [.i .u32]]
def shL:List CSh:=shI++(shI++shI)
theorem es_star: "*" ++ "errors.errorString" = "*errors.errorString" :=by decide
theorem es_row(u:TypeId)(h:Tryz.prog.typeName? 3 u=some "*errors.errorString"):u=427:=
 typeName_ptr_named (nm:= "errors.errorString") (by rw[es_star];kernel_rfl) (by kernel_rfl) (by decide) u (by rw[es_star];exact h)
theorem sent_of{W:World}{n:String}{g:Nat}{text:List UInt8}{r:List (String×DataW Unit)}(h:laidMet Tryz.prog ((n, .iface "*errors.errorString" (.ptr (.agg [.lit (.string text)])))::r) W)(hg:Tryz.prog.globalNamed n=some g)(ht:(Tryz.prog.globals[g]?).map (·.type)=some 29):
  ∃a,GW W g=some [.iface 427 (.pointer (some a))]:=by
 obtain⟨a,s,hv,_⟩:=laid_sentinel h hg ht Tryz.underlying29 es_row Tryz.underlying427 Tryz.underlying452 rfl rfl Tryz.underlying9 (by kernel_rfl) (by kernel_rfl)
 refine⟨a,?_⟩
 unfold World.var? at hv
 rw[hg,Option.bind_some] at hv
 unfold GW
 split at hv
 ·rename_i c t f e
  rw[e];cases hv;rfl
 ·cases hv
theorem laid_plain{W:World}{l:List (String×DataW Unit)}(h:laidMetH Tryz.prog l W)(hp:(l.all fun x=>x.2.handleName?.isNone)=true):laidMet Tryz.prog l W:=by rwa [Go.MakeChecks.laidMetH_plain _ _ _ hp] at h
end Go.Sx
end
section
namespace Go.Proofs.YtfccecinjmbfhaaGreatDoor.tilingSamples
open Go.ChangeShapes Go.WideShapes Go.ChangeAt Go.RowKit Go.Sx
theorem own:ownKnob Tryz.prog.godebug=none:=by kernel_rfl
theorem laidOut:laidOutB Tryz.prog=true:=by kernel_rfl
theorem cellsI:Tryz.prog.cellsOf 3=1:=by kernel_rfl
theorem bytesI:Tryz.prog.bytesOf 3=8:=by kernel_rfl
theorem door_met(os:Os)(args:Array Value):laidMetH Tryz.prog Rows.tilingSamplesRow.laid ((World.doorLaid Tryz.prog 104 os).forCall (fun _ _=>0) ⟨#[],args,[]⟩).memory:=
 laidMetH_of_parts3 (fuel:=8) (laidMet_of_run' 8 (by kernel_rfl) (by kernel_rfl)) (by kernel_rfl) (by kernel_rfl)
theorem wf_i64{n:Int}(h:(Lit.int .i64 n).wf=true): -9223372036854775808≤n∧n<9223372036854775808:=by
 simp only[Lit.wf,Bool.and_eq_true,decide_eq_true_eq] at h
 have e1:IntKind.i64.min= -9223372036854775808:=rfl
 have e2:IntKind.i64.max=9223372036854775807:=rfl
 omega
theorem eg_of{W:World}(h:laidMetH Tryz.prog Rows.tilingSamplesRow.laid W): ∃ai al ae au ar,EGS (GW W) ai al ae au ar:=by
 have h1:=laid_plain h rfl
 obtain⟨ai,hi⟩:=sent_of (g:=3) h1 (by kernel_rfl) (by kernel_rfl)
 obtain⟨au,hu⟩:=sent_of (g:=0) h1.tail (by kernel_rfl) (by kernel_rfl)
 obtain⟨ae,he⟩:=sent_of (g:=2) h1.tail.tail (by kernel_rfl) (by kernel_rfl)
 obtain⟨al,hl⟩:=sent_of (g:=4) h1.tail.tail.tail (by kernel_rfl) (by kernel_rfl)
 obtain⟨ar,hr⟩:=sent_of (g:=1) h1.tail.tail.tail.tail (by kernel_rfl) (by kernel_rfl)
 exact⟨ai,al,ae,au,ar,⟨⟨hi,hl⟩,hu⟩,he,hr⟩
theorem contract(H:Type)(enc:TypeId×Value→H)(W:World)(base:Nat)(args:Array Value)(ds gs:List (DataW H))(before:List MemPlace)
  (hval: ∀(j:Nat) t v,Tryz.f4.params[j]? =some t→args[j]? =some v→Value.okWide Tryz.prog W .any base t v)
  (hW:DataW.Whole enc Tryz.prog Tryz.f4.params.toList Rows.tilingSamplesSpec.vars false W args.toList ds gs before)
  (hz:(DataW.weightsEach Tryz.prog (Tryz.f4.params.toList++(OpenSpec.ofChange Rows.tilingSamplesSpec).bare.plain.varTypes Tryz.prog) (ds++gs)).all (· ≤reachBytes)=true)(hlaid:laidMetH Tryz.prog Rows.tilingSamplesRow.laid W):
  Calls Tryz.prog 4 args W fun e W'=> ∃v,e= .returned v∧Rows.tilingSamplesSpec.post enc Tryz.prog Tryz.f4 false true false false W args v W':=by
 have hW':=hW
 obtain⟨p,q,hA0,hV,rfl,_,_⟩:=hW
 have hA:DataW.TrodAll enc Tryz.prog W 0 (fun _=>true) true Tryz.f4.params.toList args.toList ds p:=hA0
 rw[Tryz.params4] at hA hval hz
 obtain⟨v0,v1,d0,d1,p0,p1,hargs,rfl,rfl,h0,h1⟩:=trodAll_two hA
 subst hargs
 obtain⟨rfl,rfl⟩:=trodVars_none hV
 obtain⟨n1,rfl,rfl,rfl,w1⟩:=open_int Tryz.underlying3 (hval 1 3 v1 rfl rfl) h1
 clear hA0
 simp only[List.append_nil] at hW'
 have hlt: ∀x∈p0,x.block<W.heap.size:=fun x hx=>by simpa using hW'.lt x hx
 obtain⟨es,hI,hd,_⟩:=open_vI Tryz.underlying22 Tryz.underlying3 cellsI (hval 0 22 v0 rfl rfl) h0
 have hb:es.length≤1125899906842624:=by
  rcases hd with⟨rfl,rfl⟩|⟨sp,rfl⟩
  ·exact Nat.zero_le _
  ·have:=sized_slice hz (j:=0) (t:=22) (e:=3) J J Tryz.underlying22
   rw[bytesI] at this
   have hr:=reachBytes_lt
   have hl:(lits (H:=H) .i64 es).length=es.length:=by simp[lits]
   rw[hl] at this
   omega
 obtain⟨ai,al,ae,au,ar,hE⟩:=eg_of hlaid
 have hf:=(q_TilingSamples hE (es0:=es) (n:=n1) hb (wf_i64 w1)) (GW W) [v0, .int .i64 n1] (GLe.refl _) (.cons hI (.cons (aa2.2 rfl) .nil))
 refine(hf.run W (fun b cs hg=>GW.sub hg)).mono fun e W' ⟨v,G',he,hr,hv⟩=>?_
 rw[aa2] at hv
 subst hv
 subst he
 have hn:=hr.below
 have t2:=trodAll_mk2 (Below.trod laidOut (by kernel_rfl) (of_decide_eq_true (by kernel_rfl)) h0 hn hlt) (shut_int Tryz.underlying3 w1)
 simp only[List.append_nil] at t2
 exact⟨_,rfl,⟨_,_,_,[],_,[],hW',trodAll_mk1 (shut_bool Tryz.underlying4 _),t2,rfl,hn.frame _,fun h=>by cases h⟩⟩
theorem reads(os:Os){H:Type}(enc:TypeId×Value→H): ∃places,DataW.whole enc Tryz.prog ((World.doorLaid Tryz.prog 104 os).forCall (fun _ _=>0) ⟨#[], #[.slice none 0 0, .int .i64 0],[]⟩).memory Tryz.f4.params.toList Rows.tilingSamplesSpec.vars false #[Value.slice none 0 0, .int .i64 0].toList 8=some ([.nil, .lit (.int .i64 0)],[],places):=
 ⟨[],by kernel_rfl⟩
theorem lifted(os:Os)(started:os.Started)(H:Type)(enc:TypeId×Value→H)(F:Stop.Interp):
  ReturnsInHanded {} Tryz.checked os 4 .any ((OpenSpec.ofChange Rows.tilingSamplesSpec).preRow enc Tryz.prog Tryz.f4 Rows.tilingSamplesRow.domain false Rows.tilingSamplesRow.laid) (((OpenSpec.ofChange Rows.tilingSamplesSpec).at F).post enc Tryz.prog Tryz.f4 false true false false):=by
 obtain⟨places,hx⟩:=reads os enc
 refine returnsInHanded_of_row (C:=Tryz.checked) (s:=OpenSpec.ofChange Rows.tilingSamplesSpec) own started (by kernel_rfl) Tryz.func4
  (witness_row_atRef (enc:=enc) (C:=Tryz.checked) false (World.doorLaid Tryz.prog 104 os) #[.slice none 0 0, .int .i64 0] rfl (by kernel_rfl) (by kernel_rfl) (by kernel_rfl)
   (OpenSpec.preRow_of_cond 8 hx (by kernel_rfl) (fun k hk=>by cases hk) (by kernel_rfl) (door_met os _))) ?_
 intro W base args ds gs before hval hW _ _ hz hlaid _ _
 exact contract H enc W base args ds gs before hval hW hz hlaid
theorem j1:(Rows.tilingSamplesRow.inPlace==Tryz.pinned.checked.prog.inPlace 4)=true:=by kernel_rfl
theorem j2:(Rows.tilingSamplesRow.unfollowed==Tryz.pinned.checked.prog.unfollowed 4)=true:=by kernel_rfl
theorem j3:(Rows.tilingSamplesRow.recurses==Tryz.pinned.checked.prog.recurses 4)=true:=by kernel_rfl
theorem j4:(Rows.tilingSamplesRow.named==Tryz.pinned.checked.prog.varsNamed 4)=true:=by kernel_rfl
theorem j5:laidOutB Tryz.pinned.checked.prog=true:=laidOut
theorem j6:mapsRowed Tryz.pinned.checked.prog=true:=by kernel_rfl
theorem j7:Tryz.pinned.checked.prog.mainIs=some (Rows.tilingSamplesCard.stood.harness.1,Rows.tilingSamplesCard.stood.harness.2.toList):=by kernel_rfl
theorem j8:false=Rows.tilingSamplesRow.goesBy Tryz.pinned.checked.prog:=by kernel_rfl
theorem closed:joinedFacts Tryz.pinned.checked.prog 4 Tryz.f4 (OpenSpec.ofChange Rows.tilingSamplesSpec).bare Rows.tilingSamplesRow=true:=by
 unfold joinedFacts
 rw[j1,j2,j3,j4,j5,j6]
 kernel_rfl
theorem said:Rows.TilingSamplesSaid:=
 OpenClaim.holds_of_cond 4 Tryz.f4 J J J J J J J ⟨rfl,rfl,rfl,rfl,rfl⟩ J J J J J (by kernel_rfl) Tryz.func4 closed
  (of_decide_eq_true (by kernel_rfl)) (by unfold Func.isWrapper;first|(rw[if_pos (by decide+kernel)];kernel_rfl)|(rw[if_neg (by decide+kernel)];exact⟨rfl,rfl⟩))
  (fun os started H enc _ F=>by rw[OpenClaim.pre_eq_preRow];exact lifted os started H enc F)
theorem plain(f:FuncId)(fn:Func)(hf:Tryz.pinned.checked.prog.funcNamed "bspregion/bspregionlaw30.TilingSamples" =some f)(hfn:Tryz.pinned.checked.prog.funcs[f]? =some fn):
  true=Tryz.pinned.checked.prog.looks []∧ ∀(j:Nat) t,fn.params[j]? =some t→Tryz.pinned.checked.prog.wantsStandIn t=false:=by
 obtain rfl:f=4:=Option.some.inj ((show Tryz.prog.funcNamed "bspregion/bspregionlaw30.TilingSamples" =some 4 by kernel_rfl).symm.trans hf) |>.symm
 obtain rfl:fn=Tryz.f4:=(Option.some.inj (Tryz.func4.symm.trans hfn)).symm
 refine⟨by kernel_rfl,fun j t ht=>?_⟩
 rw[Tryz.params4] at ht
 have hm:=Array.mem_of_getElem? ht
 simp only[List.mem_toArray,List.mem_cons,List.not_mem_nil,or_false] at hm
 rcases hm with rfl|rfl
 ·exact(show Tryz.prog.wantsStandIn 22=false by kernel_rfl)
 ·exact(show Tryz.prog.wantsStandIn 3=false by kernel_rfl)
theorem card:Rows.TilingSamplesCardSaid:=
 Claim7.holds_tied_plain_at .later [] _ _ _ _ said (fun _ h=>by cases h) (by kernel_rfl) (fun _ h=>by cases h) tilingSamples_row_tie rfl ⟨rfl,rfl⟩ j7 rfl plain j8
#print axioms card
end Go.Proofs.YtfccecinjmbfhaaGreatDoor.tilingSamples
end
