import Derived.Test.YtefoocgiaegobaaGreatDoorPb11
import Derived.WalkKit
import Derived.LaidEql
import Derived.Stop.Asserts
import Derived.RowKitTokens
set_option linter.all false
set_option maxRecDepth 100000
section
namespace Go.Sx
open Go Go.Proofs Tryz
variable {GB:Gh}
def JK{m:Int}{g:Nat}(hg:(g:Int)∣m)(hb:m.natAbs<4611686018427387904):IntKind.i64.wrap (m.tdiv g)=m/g:=by
 rw[Int.tdiv_eq_ediv_of_dvd hg];have:=lJ m g;exact Mr (by omega)
def tm(a b:Int):Int:=if(a*b).natAbs<4611686018427387904 then a*b else 0
def AQ(a b:Int):(tm a b).natAbs<4611686018427387904:=by unfold tm;split<;>omega
def ut{a b:Int}(h:(a*b).natAbs<4611686018427387904):tm a b=a*b:=if_pos h
def Ds{a b:Int}(h: ¬(a*b).natAbs<4611686018427387904):DV.tp [vI 0, .v (.bool false)]= .tp [vI (tm a b),vB (decide ((a*b).natAbs<4611686018427387904))]:=by unfold tm;rw[if_neg h,decide_eq_false h];rfl
def IK{a b:Int}{x:Int}(h:(a*b).natAbs<4611686018427387904)(e:x=a*b):DV.tp [vI x, .v (.bool true)]= .tp [vI (tm a b),vB (decide ((a*b).natAbs<4611686018427387904))]:=by unfold tm;rw[if_pos h,decide_eq_true h,e];rfl
def H0(n:Nat):eI (n:Int)= .ag [.v (.bool false),dN n]:=by unfold eI;rw[decide_eq_false (by omega),jR]
def NV{p q:Rat}(hp:p.den=1)(hq:q.den=1):rgcd p q=((Nat.gcd p.num.natAbs q.num.natAbs:Nat):Int):=by
 conv=>lhs;rw[vC hp,vC hq]
 exact AW _ _
def Mf(q:Rat):mkRat (zv (decide (q.num<0)) q.den) q.num.natAbs=q⁻¹:=by
 rw[Rat.inv_def];by_cases h:q.num<0
 ·rw[decide_eq_true h];exact Ny h
 ·rw[decide_eq_false h,<-Rat.divInt_ofNat,lK (by omega)];rfl
instance BQ.inv (q:Rat) (i:Nat) [h:BQ q i]:BQ q⁻¹ i:=by
 have h1:=h.hn;have h2:=h.hd;have h3:=q.den_nz;rcases pZ q.num 0 with k|k|k
 ·obtain⟨e1,e2⟩:=IU k;exact⟨by omega,by omega⟩
 ·have e:q=0:=kK.1 k
  have e0:(0:Rat)⁻¹=0:=Rat.inv_zero;rw[e] at h1 h2⊢;rw[e0];exact⟨h1,h2⟩
 ·obtain⟨e1,e2⟩:=Gk k;exact⟨by omega,by omega⟩
instance BQ.half:BQ (mkRat 1 2) 2:=⟨by decide,by decide⟩
def LQ{x y:Nat}(hx:x<18446744073709551616)(hy:y<18446744073709551616):PF GB prog 359 [.v (.int .u64 (x:Nat)), .v (.int .u64 (y:Nat))] (.tp [.v (.int .u64 ((x*y/18446744073709551616:Nat):Int)), .v (.int .u64 ((x*y%18446744073709551616:Nat):Int))]):=fun G vs _ hv=>by
 obtain⟨v,m,rfl,h1,h2⟩:=bE.1 hv;obtain⟨u,m',rfl,h3,h4⟩:=bE.1 h2
 cases cb.1 h4
 rw[ba.1 h1,ba.1 h3];exact(Ub hx hy).mono fun v G' _ h=>by subst h;exact kx.2 ⟨_,J, .cons (ba.2 J) (.cons (ba.2 J) .nil)⟩
def JJ{a b:Nat}(ha:a<18446744073709551616)(hb:b<18446744073709551616):PF GB prog 349 [.v (.int .u64 (a:Nat)), .v (.int .u64 (b:Nat))] (.v (.int .u64 (Nat.gcd a b:Nat))):=by
 refine fn func349 J J ntmps349 J J (fun C=>?_);refine lp (X:=Nat×Nat) (fun⟨u,v⟩=>[(1, .d (.v (.int .u64 (v:Nat)))),(0, .d (.v (.int .u64 (u:Nat))))]) (fun⟨u,v⟩=>[]) (fun⟨u,v⟩=>u<18446744073709551616/\v<18446744073709551616/\Nat.gcd u v=Nat.gcd a b) (fun⟨u,v⟩=>v) (a,b) J ⟨ha,hb,J⟩ (fun _=>J) (fun⟨u,v⟩ hk=>?_);dsimp only at hk⊢;obtain⟨h1,h2,h3⟩:=hk;refine br (v1:=fun hc6=>by simp only[ab];exact⟨by omega,by kernel_rfl⟩) J J J (fun hc6=>?_) (fun hc6=>?_)
 .
  have hm:=cY u (show 0<v by omega);exact at_ (v,u%v) (by dsimp only;exact⟨⟨h2,by omega,by rw[<-h3,fM u v,qT v u,fM]⟩,hm⟩)
 .
  exact rz J (by rw[<-h3,show v=0 by omega,kM];rfl)
def s9{m:Int}(h:m.natAbs<9223372036854775808):PF GB prog 199 [vI m] (eF (m:Rat)):=by
 refine fn func199 J J ntmps199 J J (fun C=>?_);refine cs 5 J J J (fun hg5=>?_) (fun hg5=>?_)
 .
  refine cl J (y6 (m:=m) (by omega) (by omega)) J<|rf (fu:=⟨0⟩) J J<|?_;refine ak 11 (.d (dN 1)) J (by unfold dN;rw[uQ];rfl) ?_;refine gx J<|cl J (qq (n:=decide (m<0)) (a:=m.natAbs) (i:=63) (h:=⟨h⟩) (d:=1)) J<|?_;exact rz J (by rw[i8,show mkRat m 1=(m:Rat) from Rat.mkRat_one ..];rfl)
 .
  refine br J J J (fun hc8=>?_) (fun hc8=>?_)
  .
   refine cl J (y6 (m:=m) (by omega) (by omega)) J<|rf (fu:=⟨0⟩) J J<|?_;refine ak 11 (.d (dN 1)) J (by unfold dN;rw[uQ];rfl) ?_;refine gx J<|cl J (qq (n:=decide (m<0)) (a:=m.natAbs) (i:=63) (h:=⟨h⟩) (d:=1)) J<|?_;exact rz J (by rw[i8,show mkRat m 1=(m:Rat) from Rat.mkRat_one ..];rfl)
  .
   exact gH J (GJ (by omega))
def ur{a b:Int}(ha:a.natAbs<4611686018427387904)(hb:b.natAbs<4611686018427387904):PF GB prog 299 [vI a,vI b] (.tp [vI (tm a b),vB (decide ((a*b).natAbs<4611686018427387904))]):=by
 have hab:=fN a b;refine fn func299 J J ntmps299 J J (fun C=>?_);refine cl J (uA (m:=a) (by omega)) J<|cl J (uA (m:=b) (by omega)) J<|cl J (LQ (x:=a.natAbs) (y:=b.natAbs) (by omega) (by omega)) J<|?_;refine cs 18 J J J (fun hg18=>?_) (fun hg18=>?_)
 .
  exact rz J (Ds (by omega))
 .
  refine br J J J (fun hc21=>?_) (fun hc21=>?_)
  .
   exact rz J (Ds (by omega))
  .
   refine bb J J J (fun hc26=>?_) (fun hc26=>?_)
   .
    have hs:=Jt a b;rw[if_neg (by simpa using hc26)] at hs;exact rz J (IK (by omega) (by rw[hs,<-hab];omega))
   .
    have hs:=Jt a b;rw[if_pos (by simpa using hc26)] at hs;exact rz J (IK (by omega) (by rw[hs,<-hab];omega))
def IY{m:Int}{d:Nat}(h:m.natAbs<4611686018427387904)(h0:0<d)(hd:d<4611686018427387904):PF GB prog 300 [vI m,vI (d:Nat)] (eF (mkRat m d)):=by
 have hg:Nat.gcd m.natAbs d<=d:=Nat.gcd_le_right _ h0;have hg0:0<Nat.gcd m.natAbs d:=lT _ h0;obtain⟨e1,e2⟩:=Hj (m:=m) h0;have e3:=lJ m (Nat.gcd m.natAbs d:Nat);have e4:=iT d (Nat.gcd m.natAbs d);have e5:=Nat.div_pos hg hg0;refine fn func300 J J ntmps300 J J (fun C=>?_);refine cl J (uA (m:=m) (by omega)) J<|cl J (JJ (a:=m.natAbs) (b:=d) (by omega) (by omega)) J<|?_;refine br (fu1:=⟨4⟩) J J J (fun hc13=>?_) (fun hc13=>?_)
 .
  refine ak 16 (.d (vI (m/(Nat.gcd m.natAbs d:Nat)))) J (by rw[JK (Int.dvd_natAbs.1 (oU.2 (iX _ _))) h];rfl) ?_;refine gx (fu:=⟨3⟩) J<|?_;refine ak 19 (.d (vI ((d/Nat.gcd m.natAbs d:Nat)))) J (by rw[JK (oU.2 (jV _ _)) (by rw[jR];exact hd)];rfl) ?_;refine gx (hv:=by simp only[ab];exact⟨by kernel_rfl,by omega⟩) J<|?_;exact gH J (ng (fun k=>k ⟨by rw[e1];omega,by rw[e2];omega⟩) e1 (by rw[e2]) J)
 .
  exact gH J (by have h1:Nat.gcd m.natAbs d=1:=(by omega);rw[h1,qR] at e2;rw[h1,Int.natCast_one,Int.ediv_one] at e1;exact ng (fun k=>k ⟨by rw[e1];omega,by rw[e2];omega⟩) e1 (by rw[e2]) J)
def nI{p q:Rat}{i j:Nat}[h:BQ p i][k:BQ q j](hi:i<=100000000:=by decide)(hj:j<=100000000:=by decide):PF GB prog 207 [eF p,eF q] (eF (p*q)):=by
 refine fn (fu:=⟨8⟩) func207 J J ntmps207 J J (fun C=>?_);refine mg (X:=Unit) (fun _=>[(2, .ov 2 0),(3, .ov 3 0),(4, .ov 4 0)]) (fun _=>[(2,some (.o 139 [.d (vI (c7 p)), .d (vI (c8 p)), .d (cF p)] true)),(3,some (.o 139 [.d (vI (c7 q)), .d (vI (c8 q)), .d (cF q)] true)),(4,some (.o 139 [.d (.v (.int .i64 0)), .d (.v (.int .i64 0)), .d (.v (.pointer none))] true))]) (fun _=>True) [2,3,4] [2,3,4] rfl ?_ (fun _=>J) (fun _ _=>?_)
 .
  refine gx J<|?_;refine cs 12 J J J (fun hg12=>?_) (fun hg12=>?_)
  .
   refine br (fu1:=⟨4⟩) J J J (fun hc16=>?_) (fun hc16=>?_)
   .
    have hp:=nE hg12;have hq:=nE hc16;have p1:=jB hp;have p2:=kC hp;have p3:=lO hp;have p4:=lr hp;have p5:=p.den_nz;have q1:=jB hq;have q2:=kC hq;have q3:=lO hq;have q4:=lr hq;have q5:=q.den_nz;refine ak 19 (.d (vI p.num)) J (by rw[p1]) ?_;refine gx (fu:=⟨2⟩) J<|?_;refine ak 21 (.d (vI q.num)) J (by rw[q1]) ?_;refine gx J<|cl (fu:=⟨12⟩) J (ur (a:=p.num) (b:=q.num) (by omega) (by omega)) J<|?_;refine ak 28 (.d (vI (p.den:Nat))) J (by congr 3;omega) ?_;refine gx (fu:=⟨3⟩) J<|?_;refine ak 31 (.d (vI (q.den:Nat))) J (by congr 3;omega) ?_;refine gx J<|cl J (ur (a:=(p.den:Nat)) (b:=(q.den:Nat)) (by omega) (by omega)) J<|?_;refine csd 36 J J J (fun hg36=>?_) (fun hg36=>?_)
    .
     refine bd (fu1:=⟨3⟩) J J J (fun hc38=>?_) (fun hc38=>?_)
     .
      have hd1:p.den*q.den<4611686018427387904:=by omega
      refine ak 39 (.d (vI (p.num*q.num))) J (by rw[ut hg36]) ?_;refine gx (fu:=⟨1⟩) J<|?_;refine ak 40 (.d (vI ((p.den*q.den:Nat)))) J (by rw[ut hc38];rfl) ?_;refine gx J<|cl J (IY (m:=p.num*q.num) (d:=p.den*q.den) hg36 (gT (by omega) (by omega)) hd1) J<|?_;exact rz J (by rw[<-uz];rfl)
     .
      exact at_ () trivial
    .
     exact at_ () trivial
   .
    exact at_ () trivial
  .
   exact at_ () trivial
 .
  refine cl J (qE (q:=p) (by omega)) J<|cl J (qE (q:=q) (by omega)) J<|cl J (Am (a:=p.num) (b:=q.num) (by omega) (by omega)) J<|?_;refine cl J (lC (q:=p) (by omega)) J<|cl J (lC (q:=q) (by omega)) J<|cl J (sP (a:=p.den) (b:=q.den) (by omega) (by omega)) J<|?_;refine cl J (qq (n:=decide (p.num*q.num<0)) (a:=(p.num*q.num).natAbs) (d:=p.den*q.den) (i:=i+j) (j:=i+j) (by omega) (by omega)) J<|?_;exact rz J (by rw[i8,<-uz];rfl)
def tZ{p q:Rat}{i j:Nat}[h:BQ p i][k:BQ q j](hi:i<=100000000:=by decide)(hj:j<=100000000:=by decide):PF GB prog 208 [eF p,eF q] (eF (p+q)):=by
 refine fn (fu:=⟨8⟩) func208 J J ntmps208 J J (fun C=>?_);refine mg (X:=Unit) (fun _=>[(2, .ov 2 0),(3, .ov 3 0),(4, .ov 4 0)]) (fun _=>[(2,some (.o 139 [.d (vI (c7 p)), .d (vI (c8 p)), .d (cF p)] true)),(3,some (.o 139 [.d (vI (c7 q)), .d (vI (c8 q)), .d (cF q)] true)),(4,some (.o 139 [.d (.v (.int .i64 0)), .d (.v (.int .i64 0)), .d (.v (.pointer none))] true))]) (fun _=>True) [2,3,4] [2,3,4] rfl ?_ (fun _=>J) (fun _ _=>?_)
 .
  refine gx J<|?_;refine cs 16 J J J (fun hg16=>?_) (fun hg16=>?_)
  .
   refine br (fu1:=⟨1⟩) J J J (fun hc20=>?_) (fun hc20=>?_)
   .
    have hp:=nE hg16;have hq:=nE hc20;have p1:=jB hp;have p2:=kC hp;have p3:=lO hp;have p4:=lr hp;have p5:=p.den_nz;have q1:=jB hq;have q2:=kC hq;have q3:=lO hq;have q4:=lr hq;have q5:=q.den_nz;refine mg (fu:=⟨4⟩) (X:=Unit) (fun _=>[(2, .ov 2 0),(3, .ov 3 0),(4, .ov 4 0)]) (fun _=>[(2,some (.o 139 [.d (vI (c7 p)), .d (vI (c8 p)), .d (cF p)] true)),(3,some (.o 139 [.d (vI (c7 q)), .d (vI (c8 q)), .d (cF q)] true)),(4,some (.o 139 [.d (.v (.int .i64 0)), .d (.v (.int .i64 0)), .d (.v (.pointer none))] true))]) (fun _=>True) [2,3,4] [2,3,4] rfl ?_ (fun _=>J) (fun _ _=>?_)
    .
     refine gx J<|?_;refine cs 24 J J J (fun hg24=>?_) (fun hg24=>?_)
     .
      refine br (fu1:=⟨4⟩) J J J (fun hc28=>?_) (fun hc28=>?_)
      .
       refine ak 30 (.d (vI p.num)) J (by rw[p1]) ?_;refine gx (fu:=⟨2⟩) J<|?_;refine ak 32 (.d (vI q.num)) J (by rw[q1]) ?_;refine gx J<|cl J (s9 (m:=p.num+q.num) (by omega)) J<|?_;exact rz J (by rw[vC (q:=p) (by omega),vC (q:=q) (by omega),<-qQ];rfl)
      .
       exact at_ () trivial
     .
      exact at_ () trivial
    .
     refine ak 37 (.d (vI p.num)) J (by rw[p1]) ?_;refine gx (fu:=⟨3⟩) J<|?_;refine ak 40 (.d (vI (q.den:Nat))) J (by congr 3;omega) ?_;refine gx J<|cl (fu:=⟨11⟩) J (ur (a:=p.num) (b:=(q.den:Nat)) (by omega) (by omega)) J<|?_;refine ak 46 (.d (vI q.num)) J (by rw[q1]) ?_;refine gx (fu:=⟨3⟩) J<|?_;refine ak 49 (.d (vI (p.den:Nat))) J (by congr 3;omega) ?_;refine gx J<|cl (fu:=⟨12⟩) J (ur (a:=q.num) (b:=(p.den:Nat)) (by omega) (by omega)) J<|?_;refine ak 56 (.d (vI (p.den:Nat))) J (by congr 3;omega) ?_;refine gx (fu:=⟨3⟩) J<|?_;refine ak 59 (.d (vI (q.den:Nat))) J (by congr 3;omega) ?_;refine gx J<|cl (fu:=⟨3⟩) J (ur (a:=(p.den:Nat)) (b:=(q.den:Nat)) (by omega) (by omega)) J<|?_;have t1:=AQ p.num (q.den:Nat);have t2:=AQ q.num (p.den:Nat);have t3:=AQ (p.den:Nat) (q.den:Nat);refine gx J<|?_;refine csd 67 J J J (fun hg67=>?_) (fun hg67=>?_)
     .
      refine csd 70 J J J (fun hg70=>?_) (fun hg70=>?_)
      .
       refine csd 73 J J J (fun hg73=>?_) (fun hg73=>?_)
       .
        refine cs 77 J J J (fun hg77=>?_) (fun hg77=>?_)
        .
         refine br (fu1:=⟨3⟩) J J J (fun hc80=>?_) (fun hc80=>?_)
         .
          have u1:=ut hg67;have u2:=ut hg70;have u3:=ut hg73;have hd1:p.den*q.den<4611686018427387904:=by omega
          refine ak 81 (.d (vI (p.num*(q.den:Nat)+q.num*(p.den:Nat)))) J (by rw[u1,u2];rfl) ?_;refine gx (fu:=⟨1⟩) J<|?_;refine ak 82 (.d (vI ((p.den*q.den:Nat)))) J (by rw[u3];rfl) ?_;refine gx J<|cl J (IY (m:=p.num*(q.den:Nat)+q.num*(p.den:Nat)) (d:=p.den*q.den) (by omega) (gT (by omega) (by omega)) hd1) J<|?_;exact rz J (by rw[<-sW];rfl)
         .
          exact at_ () trivial
        .
         exact at_ () trivial
       .
        exact at_ () trivial
      .
       exact at_ () trivial
     .
      exact at_ () trivial
   .
    exact at_ () trivial
  .
   exact at_ () trivial
 .
  refine cl J (qE (q:=p) (by omega)) J<|cl (fu:=⟨1⟩) J (lC (q:=q) (by omega)) J<|?_;refine ak 88 (.d (eI (q.den:Nat))) J (by rw[H0]) ?_;refine gx J<|cl J (Am (a:=p.num) (b:=(q.den:Nat)) (by omega) (by omega)) J<|cl J (qE (q:=q) (by omega)) J<|cl (fu:=⟨1⟩) J (lC (q:=p) (by omega)) J<|?_;refine ak 94 (.d (eI (p.den:Nat))) J (by rw[H0]) ?_;refine gx J<|cl J (Am (a:=q.num) (b:=(p.den:Nat)) (by omega) (by omega)) J<|cl J (OK (a:=p.num*(q.den:Nat)) (b:=q.num*(p.den:Nat)) (i:=i+j) (j:=j+i) (by omega) (by omega)) J<|?_;refine cl J (lC (q:=p) (by omega)) J<|cl J (lC (q:=q) (by omega)) J<|cl J (sP (a:=p.den) (b:=q.den) (by omega) (by omega)) J<|?_;refine cl J (qq (n:=decide (p.num*(q.den:Nat)+q.num*(p.den:Nat)<0)) (a:=(p.num*(q.den:Nat)+q.num*(p.den:Nat)).natAbs) (d:=p.den*q.den) (i:=i+j+(j+i)+1) (j:=i+j) (by omega) (by omega)) J<|?_;exact rz J (by rw[i8,<-sW];rfl)
def rL{p q:Rat}{i j:Nat}[h:BQ p i][k:BQ q j](hi:i<=100000000:=by decide)(hj:j<=100000000:=by decide):PF GB prog 334 [eF p,eF q] (eF (p-q)):=by
 refine fn func334 J J ntmps334 J J (fun C=>?_);refine cl J (pd (q:=q) (by omega)) J<|cl J (tZ (p:=p) (q:= -q) (by omega) (by omega)) J<|?_;exact rz J (by rw[<-Rat.sub_eq_add_neg];rfl)
def xp{q:Rat}{i:Nat}[h:BQ q i](hi:i<=400000000:=by decide):PF GB prog 127 [eF q] (eF q⁻¹):=by
 refine fn func127 J J ntmps127 J J (fun C=>?_);refine br (v1:=fun hc3=>by simp only[ab];exact⟨⟨hc3,hc3⟩,hc3⟩) J J J (fun hc3=>?_) (fun hc3=>?_)
 .
  refine cl J (qq (n:=decide (q.num<0)) (a:=q.den) (d:=q.num.natAbs) (by omega) (by omega)) J<|?_;exact rz J (by rw[Mf];rfl)
 .
  have q1:=jB (kg hc3);have q2:=kC (kg hc3);have q3:=lO (kg hc3);have q4:=lr (kg hc3);have q5:=q.den_nz;refine br J J J (fun hc26=>?_) (fun hc26=>?_)
  .
   exact gH rfl (by obtain⟨e1,e2⟩:=IU (q:=q) (by omega);exact ng (fun k=>k ⟨by omega,by omega⟩) (by omega) (by omega) rfl)
  .
   refine br J J J (fun hc39=>?_) (fun hc39=>?_)
   .
    exact gH J (by rw[kK.1 (show q.num=0 by omega),Rat.inv_zero];exact rO)
   .
    exact gH rfl (by obtain⟨e1,e2⟩:=Gk (q:=q) (by omega);exact ng (fun k=>k ⟨by omega,by omega⟩) (by omega) (by omega) rfl)
def uB{p q:Rat}{i j:Nat}[h:BQ p i][k:BQ q j](hi:i<=100000000:=by decide)(hj:j<=100000000:=by decide):PF GB prog 304 [eF p,eF q] (eF (p/q)):=by
 refine fn func304 J J ntmps304 J J (fun C=>?_);refine cl J (xp (q:=q) (by omega)) J<|cl J (nI (p:=p) (q:=q⁻¹) (by omega) (by omega)) J<|?_;exact rz J (by rw[Rat.div_def];rfl)
def Tm{G:Gh}{q r:DV}{t:List DV}{vs:List Value}(h: ∀y,Is G r y->Is G q y)(hv:IsLs G (r::t) vs):IsLs G (q::t) vs:=by
 obtain⟨y,m,rfl,h1,h2⟩:=bE.1 hv;exact .cons (h _ h1) h2
def MG{G:Gh}{a q r:DV}{t:List DV}{vs:List Value}(h: ∀y,Is G r y->Is G q y)(hv:IsLs G (a::r::t) vs):IsLs G (a::q::t) vs:=by
 obtain⟨y,m,rfl,h1,h2⟩:=bE.1 hv;exact .cons h1 (Tm h h2)
def SB{q:Rat}{i:Nat}[h:BQ q i](hi:i<=100000000:=by decide):PF GB prog 207 [eF q, .ag [vI 1,vI 1, .v (.pointer none)]] (eF (q*mkRat 1 2)):=
 (nI (p:=q) (q:=mkRat 1 2) hi).ofI fun G vs hv=>MG (fun y hy=>ng (q:=mkRat 1 2) (fun k=>k ⟨by decide,by decide⟩) (by decide) (by decide) J G y hy) hv
def MB{q:Rat}{i:Nat}[h:BQ q i](hi:i<=100000000:=by decide):PF GB prog 214 [eF q] (eF (q*mkRat 1 2)):=by
 refine fn func214 J J ntmps214 J J (fun C=>?_);refine cl J (SB (q:=q) (by omega)) J<|?_;exact rz J J
def ja{p q:Rat}{i j:Nat}[h:BQ p i][k:BQ q j](hi:i<=100000000:=by decide)(hj:j<=100000000:=by decide):PF GB prog 232 [eF p,eF q] (vI (bv p q)):=by
 refine fn func232 J J ntmps232 J J (fun C=>?_);refine cs 8 J J J (fun hg8=>?_) (fun hg8=>?_)
 .
  refine cs 13 J J J (fun hg13=>?_) (fun hg13=>?_)
  .
   refine br J J J (fun hc19=>?_) (fun hc19=>?_)
   .
    have hp:=nE hg8;have hq:=nE hg13;have p1:=jB hp;have p2:=kC hp;have p3:=lO hp;have p4:=lr hp;have p5:=p.den_nz;have q1:=jB hq;have q2:=kC hq;have q3:=lO hq;have q4:=lr hq;have q5:=q.den_nz;have hl:=E5 (a:=p) (b:=q) (by omega);have hr:=E5 (a:=q) (b:=p) (by omega);unfold bv;refine br J J J (fun hc20=>?_) (fun hc20=>?_)
    .
     exact rz J (by rw[if_pos (hl.2 (by omega))];rfl)
    .
     refine br J J J (fun hc26=>?_) (fun hc26=>?_)
     .
      exact rz J (by rw[if_neg (fun e=>by have:=hl.1 e;omega),if_pos (hr.2 (by omega))];rfl)
     .
      exact rz J (by rw[if_neg (fun e=>by have:=hl.1 e;omega),if_neg (fun e=>by have:=hr.1 e;omega)];rfl)
   .
    refine cl J (rL (p:=p) (q:=q) (by omega) (by omega)) J<|cl J (jv (q:=p-q) (by omega)) J<|?_;exact rz J (by rw[vG];rfl)
  .
   refine cl J (rL (p:=p) (q:=q) (by omega) (by omega)) J<|cl J (jv (q:=p-q) (by omega)) J<|?_;exact rz J (by rw[vG];rfl)
 .
  refine cl J (rL (p:=p) (q:=q) (by omega) (by omega)) J<|cl J (jv (q:=p-q) (by omega)) J<|?_;exact rz J (by rw[vG];rfl)
def EM{p q:Rat}{i j:Nat}[h:BQ p i][k:BQ q j](hi:i<=100000000:=by decide)(hj:j<=100000000:=by decide):PF GB prog 273 [eF p,eF q] (vB (decide (p=q))):=by
 refine fn func273 J J ntmps273 J J (fun C=>?_);refine cl J (ja (p:=p) (q:=q) hi hj) J<|?_;exact rz J (by show DV.v (.bool (decide _))= .v (.bool _);congr 2;exact decide_eq_decide.2 (uu p q))
def KN{p q:Rat}{i j:Nat}[h:BQ p i][k:BQ q j](hi:i<=100000000:=by decide)(hj:j<=100000000:=by decide):PF GB prog 288 [eF p,eF q] (eF (if q<p then q else p)):=by
 refine fn func288 J J ntmps288 J J (fun C=>?_);refine cl J (ja (p:=q) (q:=p) hj hi) J<|?_;refine br J J J (fun hc8=>?_) (fun hc8=>?_)
 .
  exact rz J (by rw[if_pos ((Eh q p).1 hc8)];rfl)
 .
  exact rz J (by rw[if_neg (fun e=>hc8 ((Eh q p).2 e))];rfl)
def ud{p q:Rat}{i j:Nat}[h:BQ p i][k:BQ q j](hi:i<=100000000:=by decide)(hj:j<=100000000:=by decide):PF GB prog 272 [eF p,eF q] (eF (rgcd p q)):=by
 refine fn (fu:=⟨8⟩) func272 J J ntmps272 J J (fun C=>?_);refine mg (X:=Unit) (fun _=>[(2, .ov 2 0),(3, .ov 3 0),(4, .ov 4 0)]) (fun _=>[(2,some (.o 139 [.d (vI (c7 p)), .d (vI (c8 p)), .d (cF p)] true)),(3,some (.o 139 [.d (vI (c7 q)), .d (vI (c8 q)), .d (cF q)] true)),(4,some (.o 139 [.d (.v (.int .i64 0)), .d (.v (.int .i64 0)), .d (.v (.pointer none))] true))]) (fun _=>True) [2,3,4] [2,3,4] rfl ?_ (fun _=>J) (fun _ _=>?_)
 .
  refine gx J<|?_;refine cs 10 J J J (fun hg10=>?_) (fun hg10=>?_)
  .
   refine cs 15 J J J (fun hg15=>?_) (fun hg15=>?_)
   .
    have hp:=nE hg10;have hq:=nE hg15;have p1:=jB hp;have p2:=kC hp;have p3:=lO hp;have p4:=lr hp;have p5:=p.den_nz;have q1:=jB hq;have q2:=kC hq;have q3:=lO hq;have q4:=lr hq;have q5:=q.den_nz;refine cs 20 J J J (fun hg20=>?_) (fun hg20=>?_)
    .
     refine br (fu1:=⟨4⟩) J J J (fun hc24=>?_) (fun hc24=>?_)
     .
      have hg:=Ql p3 q3;refine ak 26 (.d (vI p.num)) J (by rw[p1]) ?_;refine gx J<|cl (fu:=⟨2⟩) J (uA (m:=p.num) (by omega)) J<|?_;refine ak 29 (.d (vI q.num)) J (by rw[q1]) ?_;refine gx J<|cl J (uA (m:=q.num) (by omega)) J<|cl (hv:=by simp only[ab];exact⟨by omega,by kernel_rfl⟩) J (JJ (a:=p.num.natAbs) (b:=q.num.natAbs) (by omega) (by omega)) J<|?_;exact gH J (by rw[NV (p:=p) (q:=q) (by omega) (by omega)];exact GJ (by rw[jR];exact hg))
     .
      exact at_ () trivial
    .
     exact at_ () trivial
   .
    exact at_ () trivial
  .
   exact at_ () trivial
 .
  refine cl J (lC (q:=p) (by omega)) J<|cl J (lC (q:=q) (by omega)) J<|cl J (sP (a:=p.den) (b:=q.den) (by omega) (by omega)) J<|?_;refine cl J (qE (q:=p) (by omega)) J<|cl J (lC (q:=q) (by omega)) J<|cl J (sP (a:=p.num.natAbs) (b:=q.den) (by omega) (by omega)) J<|?_;refine cl J (qE (q:=q) (by omega)) J<|cl J (lC (q:=p) (by omega)) J<|cl J (sP (a:=q.num.natAbs) (b:=p.den) (by omega) (by omega)) J<|?_;refine cl J (Ct (a:=p.num.natAbs*q.den) (b:=q.num.natAbs*p.den) (i:=i+j) (j:=j+i) (by omega) (by omega)) J<|cl J (qq (n:=false) (a:=Nat.gcd (p.num.natAbs*q.den) (q.num.natAbs*p.den)) (d:=p.den*q.den) (i:=i+j+(j+i)) (j:=i+j) (by omega) (by omega)) J<|?_;exact rz J J
end Go.Sx
end
section
namespace Go.Sx
open Go
def crossI(l m:ah):Int:=l.a*m.b-m.a*l.b
def meetX(l m:ah):Int:=l.b*m.c-m.b*l.c
def meetY(l m:ah):Int:=m.a*l.c-l.a*m.c
def lI(l m:ah):aa:=if crossI l m=0 then⟨0,0⟩ else⟨(meetX l m:Rat)/(crossI l m:Rat),(meetY l m:Rat)/(crossI l m:Rat)⟩
def de(l:ah)(p:aa):Rat:=p.dot l.dir/l.dir.dot l.dir
def EE(l:ah):l.dir.dot l.dir=l.nor.dot l.nor:=by
 simp only[ah.dir,ah.nor,aa.dot];grind
def H9{l:ah}(h:l.Ne):0<l.dir.dot l.dir:=by rw[EE];exact tS h
def QY{l:ah}:(⟨-((l.c:Rat)/l.dir.dot l.dir)*(l.a:Rat), -((l.c:Rat)/l.dir.dot l.dir)*(l.b:Rat)⟩:aa)=l.base:=by
 unfold ah.base;rw[EE];simp only[ah.nor,aa.scale,aa.mk.injEq];constructor<;>grind
def qi(l:ah)(t:Rat):dx l.base l.dir t=l.at t:=by
 simp only[dx,ah.at,aa.add,aa.scale,aa.mk.injEq];constructor<;>grind
def Uf(v:bi)(t:Rat):bi:=if v.nl=true\/0<bv t v.lo then⟨t,v.hi,false,v.nh⟩ else v
def NU(v:bi)(t:Rat):bi:=if v.nh=true\/bv t v.hi<0 then⟨v.lo,t,v.nl,false⟩ else v
structure w6 (v:bi):Prop where
 lo:v.nl=true->v.lo=0
 hi:v.nh=true->v.hi=0
def HF(a b:Rat):0<bv a b↔b<a:=by
 unfold bv;split
 ·constructor
  ·intro h;exact absurd h (by decide)
  ·intro h;grind
 ·split
  ·exact⟨fun _=>by assumption,fun _=>by decide⟩
  ·constructor
   ·intro h;exact absurd h (by decide)
   ·intro h;exact absurd h (by assumption)
def Na(a b:Rat):bv a b<0↔a<b:=by
 unfold bv;split
 ·exact⟨fun _=>by assumption,fun _=>by decide⟩
 ·split
  ·constructor
   ·intro h;exact absurd h (by decide)
   ·intro h;grind
  ·constructor
   ·intro h;exact absurd h (by decide)
   ·intro h;exact absurd h (by assumption)
end Go.Sx
end
section
namespace Go.Sx
open Go Go.Proofs Tryz
variable {GB:Gh}

def cT:Tr->List DV
 | .leaf b=>[.v (.bool true), .v (.bool b), .v (.bool false), .sl [], .v (.bool false), .sl [], .v (.bool false), .sl [], .v (.pointer none), .v (.pointer none)]
 | .node l x y=>[.v (.bool false), .v (.bool false), .v (.bool (decide (l.a<0))),dN l.a.natAbs, .v (.bool (decide (l.b<0))),dN l.b.natAbs, .v (.bool (decide (l.c<0))),dN l.c.natAbs, .pt (cT x), .pt (cT y)]
def eT(t:Tr):DV:= .pt (cT t)
def eN(n:NQ):DV:= .ag [.v (.bool (decide (n.l.a<0))),dN n.l.a.natAbs, .v (.bool (decide (n.l.b<0))),dN n.l.b.natAbs, .v (.bool (decide (n.l.c<0))),dN n.l.c.natAbs, .v (.int .i64 n.a), .v (.int .i64 n.b)]
def eA(t:Tr):DV:= .ag [.v (.int .i64 (t.num 0)), .sl ((t.wr 0).map eN)]
structure BL (l:ah) (k:Nat):Prop where
 a:l.a.natAbs<2^k
 b:l.b.natAbs<2^k
 c:l.c.natAbs<2^k
structure LS (l:ah):Prop where
 ok:l.ok
 a:l.a.natAbs<=4
 b:l.b.natAbs<=4
 c:l.c.natAbs<=40000
instance:DecidableEq NQ:=fun x y=>decidable_of_iff (x.l=y.l/\x.a=y.a/\x.b=y.b) (by
 cases x;cases y;simp)
class LB (l:ah):Prop where bl:BL l 96
instance LB.a (l:ah) [h:LB l]:BI l.a 96:=⟨h.bl.a⟩
instance LB.b (l:ah) [h:LB l]:BI l.b 96:=⟨h.bl.b⟩
instance LB.c (l:ah) [h:LB l]:BI l.c 96:=⟨h.bl.c⟩
class aA (p:aa) (k:outParam Nat):Prop where
 x:BQ p.x k
 y:BQ p.y k
instance aA.ix (p:aa) (k:Nat) [h:aA p k]:BQ p.x k:=h.x
instance aA.iy (p:aa) (k:Nat) [h:aA p k]:BQ p.y k:=h.y
instance aA.dir (l:ah) [LB l]:aA l.dir 97:=⟨inferInstanceAs (BQ (l.b:Rat) 97),inferInstanceAs (BQ (-(l.a:Rat)) 97)⟩
instance BQ.dot (p q:aa) (i j:Nat) [aA p i] [aA q j]:BQ (p.dot q) (i+j+(i+j)+1):=inferInstanceAs (BQ (p.x*q.x+p.y*q.y) _)
instance BQ.cross (p q:aa) (i j:Nat) [aA p i] [aA q j]:BQ (p.cross q) (i+j+(i+j)+1):=inferInstanceAs (BQ (p.x*q.y-p.y*q.x) _)
instance aA.mov (p q:aa) (c:Rat) (i j k:Nat) [aA p i] [aA q j] [BQ c k]:aA (dx p q c) (i+(k+j)+1):=⟨inferInstanceAs (BQ (p.x+c*q.x) _),inferInstanceAs (BQ (p.y+c*q.y) _)⟩
instance BQ.value (l:ah) (p:aa) (i:Nat) [LB l] [aA p i]:BQ (l.value p) (96+1+i+(96+1+i)+1+(96+1)+1):=inferInstanceAs (BQ ((l.a:Rat)*p.x+(l.b:Rat)*p.y+(l.c:Rat)) _)
def Nw{p q:aa}{i j:Nat}[hp:aA p i][hq:aA q j](hi:i<=200000:=by decide)(hj:j<=200000:=by decide):PF GB prog 99 [eP p,eP q] (eQ (p.cross q)):=by
 refine fn func99 J J ntmps99 J J (fun C=>?_);refine cl J (xk (by omega) (by omega)) J<|cl J (xk (by omega) (by omega)) J<|cl J (Df (by omega) (by omega)) J<|?_;exact rz J J
def K3{p q:aa}{c:Rat}{i j k:Nat}[hp:aA p i][hq:aA q j][hc:BQ c k](hi:i<=19000000:=by decide)(hj:j<=9000000:=by decide)(hk:k<=9000000:=by decide):PF GB prog 100 [eP p,eQ c,eP q] (eP (dx p q c)):=by
 refine fn func100 J J ntmps100 J J (fun C=>?_);refine cl J (xk (by omega) (by omega)) J<|cl J (Cs (by omega) (by omega)) J<|cl J (xk (by omega) (by omega)) J<|cl J (Cs (by omega) (by omega)) J<|?_;exact rz J J
instance aA.base (l:ah) [LB l]:aA l.base 900:=by
 rw[<-QY];constructor
 ·exact BQ.mono (inferInstance:BQ (-((l.c:Rat)/l.dir.dot l.dir)*(l.a:Rat)) _) (by decide)
 ·exact BQ.mono (inferInstance:BQ (-((l.c:Rat)/l.dir.dot l.dir)*(l.b:Rat)) _) (by decide)
instance BI.crossI (l m:ah) [LB l] [LB m]:BI (crossI l m) 385:=inferInstanceAs (BI (l.a*m.b-m.a*l.b) 385)
instance BI.meetX (l m:ah) [LB l] [LB m]:BI (meetX l m) 385:=inferInstanceAs (BI (l.b*m.c-m.b*l.c) 385)
instance BI.meetY (l m:ah) [LB l] [LB m]:BI (meetY l m) 385:=inferInstanceAs (BI (m.a*l.c-l.a*m.c) 385)
instance aA.imeet (l m:ah) [LB l] [LB m]:aA (lI l m) 772:=by
 unfold lI;split
 ·exact⟨BQ.mono (k:=1) ⟨by decide,by decide⟩ (by decide),BQ.mono (k:=1) ⟨by decide,by decide⟩ (by decide)⟩
 ·exact⟨inferInstanceAs (BQ ((meetX l m:Rat)/(crossI l m:Rat)) 772),inferInstanceAs (BQ ((meetY l m:Rat)/(crossI l m:Rat)) 772)⟩
def LW(l m:ah):Int:=if(l.a-m.a).sign≠0 then(l.a-m.a).sign else if(l.b-m.b).sign≠0 then(l.b-m.b).sign else(l.c-m.c).sign
def NW(z:Int): -1<=z.sign/\z.sign<=1:=by
 rcases pZ z 0 with h|h|h
 ·rw[eX h];omega
 ·rw[h];decide
 ·rw[fW h];omega
instance BQ.i1:BQ (((1:Int):Rat)) 2:=⟨by decide,by decide⟩
def eV(v:bi):DV:= .ag [.v (.bool (decide (v.lo.num<0))),dN v.lo.num.natAbs,dD v.lo.den, .v (.bool (decide (v.hi.num<0))),dN v.hi.num.natAbs,dD v.hi.den, .v (.bool v.nl), .v (.bool v.nh)]
def KH(v:bi):Rat:=if v.nl=true/\v.nh=true then 0 else if v.nl=true then v.hi-1 else if v.nh=true then v.lo+1 else(v.lo+v.hi)/2
theorem BQ.of_fracI{q:Rat}{n D:Int}{i:Nat}(hd:0<D.natAbs)(h:q*((D.natAbs:Nat):Rat)=(n:Rat))(hn:BI n i)(hD:BI D i):BQ q i:=BQ.of_frac hd h hn.h hD.h
theorem EF{m:Int}{i j:Nat}(h:BI m i)(hij:i<=j):BI m j:=⟨cR h.h (aM (by decide) hij)⟩
def rg(l:ah):List ah->bi->bi×Bool
 |[],v=>(v,true)
 |m::t,v=>if m=l then rg l t v else if l.cutB v m=true then rg l t (l.cutV v m) else(l.cutV v m,false)
structure WU (l:ah) (c:List ah) (k:Nat) (v:bi):Prop where
 le:k<=c.length
 p:sK l (c.drop k) v=sK l c bi.all
 e:rg l (c.drop k) v=rg l c bi.all
 z:w6 v
 lo:BQ v.lo 1200
 hi:BQ v.hi 1200
def VA(l m:ah)(v:bi):bi:=if 0<(m.dir.cross l.dir).num.sign then Uf v (de l (lI l m)) else NU v (de l (lI l m))
def ly(l:ah):DV:= .ag [vI (c7 (l.a:Rat)),vI (c8 (l.a:Rat)),cF (l.a:Rat),vI (c7 (l.b:Rat)),vI (c8 (l.b:Rat)),cF (l.b:Rat),vI (c7 (l.c:Rat)),vI (c8 (l.c:Rat)),cF (l.c:Rat)]
def eZ(p:aa):DV:= .ag [vI (c7 p.x),vI (c8 p.x),cF p.x,vI (c7 p.y),vI (c8 p.y),cF p.y]
def eW(v:bi):DV:= .ag [vI (c7 v.lo),vI (c8 v.lo),cF v.lo,vI (c7 v.hi),vI (c8 v.hi),cF v.hi, .v (.bool v.nl), .v (.bool v.nh)]
def DE:List Int->Int
 |[]=>0
 |a::t=>if a≠0 then a else DE t
theorem aA.nor(l:ah)[LB l]:aA l.nor 97:=⟨inferInstanceAs (BQ (l.a:Rat) 97),inferInstanceAs (BQ (l.b:Rat) 97)⟩
attribute [instance] aA.nor
instance aA.scale (p:aa) (c:Rat) (i k:Nat) [aA p i] [BQ c k]:aA (p.scale c) (i+k):=⟨inferInstanceAs (BQ (p.x*c) _),inferInstanceAs (BQ (p.y*c) _)⟩
instance aA.add (p q:aa) (i j:Nat) [aA p i] [aA q j]:aA (p.add q) (i+j+1):=⟨inferInstanceAs (BQ (p.x+q.x) _),inferInstanceAs (BQ (p.y+q.y) _)⟩
instance LB.revA (l:ah) [h:LB l]:LB l.rev:=⟨⟨by rw[show l.rev.a= -l.a from J,gK];exact h.bl.a,by rw[show l.rev.b= -l.b from J,gK];exact h.bl.b,by rw[show l.rev.c= -l.c from J,gK];exact h.bl.c⟩⟩
def zb{l:ah}:PF GB prog 321 [ly l] (eZ l.nor):=by
 refine fn func321 J J ntmps321 J J (fun C=>?_);exact rz J J
def vx{l:ah}[hl:LB l]:PF GB prog 258 [ly l] (eZ l.dir):=by
 refine fn func258 J J ntmps258 J J (fun C=>?_);refine cl J (pd (q:=(l.a:Rat))) J<|?_;exact rz J J
def l8{p q:aa}{i j:Nat}[hp:aA p i][hq:aA q j](hi:i<=40000000:=by decide)(hj:j<=40000000:=by decide):PF GB prog 244 [eZ p,eZ q] (eF (p.dot q)):=by
 refine fn func244 J J ntmps244 J J (fun C=>?_);refine cl J (nI (p:=p.x) (q:=q.x) (by omega) (by omega)) J<|cl J (nI (p:=p.y) (q:=q.y) (by omega) (by omega)) J<|cl J (tZ (p:=p.x*q.x) (q:=p.y*q.y) (by omega) (by omega)) J<|?_;exact rz J J
def Gg{p q:aa}{i j:Nat}[hp:aA p i][hq:aA q j](hi:i<=40000000:=by decide)(hj:j<=40000000:=by decide):PF GB prog 298 [eZ p,eZ q] (eF (p.cross q)):=by
 refine fn func298 J J ntmps298 J J (fun C=>?_);refine cl J (nI (p:=p.x) (q:=q.y) (by omega) (by omega)) J<|cl J (nI (p:=p.y) (q:=q.x) (by omega) (by omega)) J<|cl J (rL (p:=p.x*q.y) (q:=p.y*q.x) (by omega) (by omega)) J<|?_;exact rz J J
def tU{p:aa}{c:Rat}{i j:Nat}[hp:aA p i][hc:BQ c j](hi:i<=40000000:=by decide)(hj:j<=40000000:=by decide):PF GB prog 126 [eZ p,eF c] (eZ (p.scale c)):=by
 refine fn func126 J J ntmps126 J J (fun C=>?_);refine cl J (nI (p:=p.x) (q:=c) (by omega) (by omega)) J<|cl J (nI (p:=p.y) (q:=c) (by omega) (by omega)) J<|?_;exact rz J J
def wM{p q:aa}{i j:Nat}[hp:aA p i][hq:aA q j](hi:i<=40000000:=by decide)(hj:j<=40000000:=by decide):PF GB prog 206 [eZ p,eZ q] (eZ (p.add q)):=by
 refine fn func206 J J ntmps206 J J (fun C=>?_);refine cl J (tZ (by omega) (by omega)) J<|cl J (tZ (by omega) (by omega)) J<|?_;exact rz J J
def Ta{l:ah}[hl:LB l]:PF GB prog 352 [ly l] (eZ l.base):=by
 refine fn func352 J J ntmps352 J J (fun C=>?_);refine cl J zb J<|cl J (pd (q:=(l.c:Rat))) J<|cl J (l8 (p:=l.nor) (q:=l.nor)) J<|cl J (uB (p:= -(l.c:Rat)) (q:=l.nor.dot l.nor)) J<|?_;refine cl J (tU (p:=l.nor)) J<|?_;exact rz J J
def Gv{l:ah}{p:aa}{i:Nat}[hl:LB l][hp:aA p i](hi:i<=10000000:=by decide):PF GB prog 347 [ly l,eZ p] (eF (l.value p)):=by
 refine fn func347 J J ntmps347 J J (fun C=>?_);refine cl J (zb (l:=l)) J<|cl J (l8 (p:=l.nor) (q:=p) (by omega) (by omega)) J<|cl J (tZ (p:=l.nor.dot p) (q:=(l.c:Rat)) (by omega) (by omega)) J<|?_;exact rz J J
def yj{l:ah}{p:aa}{i:Nat}[hl:LB l][hp:aA p i](hi:i<=10000000:=by decide):PF GB prog 259 [ly l,eZ p] (vI (l.value p).num.sign):=by
 refine fn func259 J J ntmps259 J J (fun C=>?_);refine cl J (Gv (l:=l) (p:=p) hi) J<|cl J (jv (q:=l.value p) (by omega)) J<|?_;exact rz J J
def FB{l:ah}{t:Rat}{i:Nat}[hl:LB l][ht:BQ t i](hi:i<=10000000:=by decide):PF GB prog 345 [ly l,eF t] (eZ (l.at t)):=by
 refine fn func345 J J ntmps345 J J (fun C=>?_);refine cl J (Ta (l:=l)) J<|cl J (vx (l:=l)) J<|cl J (tU (p:=l.dir) (c:=t) (by omega) (by omega)) J<|cl J (wM (p:=l.base) (q:=l.dir.scale t) (by omega) (by omega)) J<|?_;exact rz J J
instance bi.meet_lo (v w:bi) (i j:Nat) [h1:BQ v.lo i] [h3:BQ w.lo j]:BQ (v.meet w).lo (i+j):=by
 have a:=h1.mono (nW i j);have b:=h3.mono (Nat.le_add_left j i);unfold bi.meet;dsimp only;(repeat' split)<;>assumption
instance bi.meet_hi (v w:bi) (i j:Nat) [h1:BQ v.hi i] [h3:BQ w.hi j]:BQ (v.meet w).hi (i+j):=by
 have a:=h1.mono (nW i j);have b:=h3.mono (Nat.le_add_left j i);unfold bi.meet;dsimp only;(repeat' split)<;>assumption
instance BQ.cutK (l m:ah) [LB l] [LB m]:BQ (l.cutK m) 400:=BQ.mono (inferInstance:BQ (m.nor.dot l.dir) _) (by decide)
instance BQ.cutC (l m:ah) [LB l] [LB m]:BQ (l.cutC m) 2500:=BQ.mono (inferInstance:BQ (m.value l.base) _) (by decide)
def vi(p q:aa):DV:= .ag [vI (c7 p.x),vI (c8 p.x),cF p.x,vI (c7 p.y),vI (c8 p.y),cF p.y,vI (c7 q.x),vI (c8 q.x),cF q.x,vI (c7 q.y),vI (c8 q.y),cF q.y]
def rm{C:az}{n:Nat}{Q0:Exit->Act->World->Prop}{fr:ao}{own:aB}{ops:Array Oper}{r:List Oper}{K:List Kt}(k:Nat){l:List DV}(hl:aD fr k=some (.d (.pt l)))(h:aj prog GB C n Q0 ((k, .ep l)::fr) own (.ops ops r K)):aj prog GB C n Q0 fr own (.ops ops r K):=
 kh hl (fun ρ G y hy=>by
  obtain⟨b,m,rfl,h1,h2⟩:=pu.1 hy;have e:=h2.len;exact⟨b,0,m,m,J,h1,by rw[jE m 0 l.length (by omega),gJ,<-e,dX],h2⟩) h
def zF{G:Gh}{m:List Value}(h:IsLs G [vI 0,vI 0, .v (.pointer none)] m):IsLs G [vI (c7 0),vI (c8 0),cF 0] m:=by
 obtain⟨l,e,k⟩:=dP.1 (rO G (.agg ⟨m⟩) (dP.2 ⟨m,rfl,h⟩))
 cases e;exact k
section
variable {GB:Gh} {C:az} {n:Nat} {Q0:Exit->Act->World->Prop} {fr fr':ao} {own own':aB} {cf cf':Cf} {vc:List Prop} {ops:Array Oper} {r:List Oper} {K:List Kt}
def sk(k:Nat){d:DV}(hl:aD fr k=some (.d d))(h: ∀(GB':Gh) (pv:Value),bc GB GB'->Is GB' d pv->aj prog GB' C n Q0 ((k, .d (.v pv))::fr) own (.ops ops r K)):aj prog GB C n Q0 fr own (.ops ops r K):=by
 refine⟨fun ρ G ov a w r0=>?_⟩;obtain⟨y,hy,hy'⟩:=r0.fx k _ hl;refine(h G y r0.gb hy').run ρ G ov a w ⟨bc.refl _,r0.h,r0.sz,r0.df,fun j f e=>?_,r0.bx,r0.dj,r0.fxd⟩;rw[fH] at e;split at e
 ·rename_i hj
  cases e;subst hj
  exact⟨y,hy,(ba (G:=G)).2 J⟩
 ·exact r0.fx j f e
def WD(fr:ao)(cf:Cf):Option (FuncId×Value):=match bu fr cf with
 |some ⟨_, .makeFunc (.func f) ⟨[x]⟩ ⟨[]⟩,_,_,_,_⟩=>match aC (aI fr cf) x with
  |some (.d (.v pv))=>some (f,pv)
  |_=>none
 |_=>none
def W3(fr:ao)(cf:Cf):Option (FuncId×List Value×List DV):=match bu fr cf with
 |some ⟨_, .call ⟨.value fo,args,_⟩,_,_,_,_⟩=>match aC (aI fr cf) fo,evDs (aI fr cf) args.toList with
  |some (.d (.v (.func (.func f) ⟨c1⟩ ⟨[]⟩))),some ds=>some (f,c1,ds)
  |_,_=>none
 |_=>none
def D6:List (Nat×Operand)->Option (List (Nat×Value))
 |[]=>some []
 |(i, .const v)::t=>match D6 t with
  |some l=>some ((i,v)::l)
  |none=>none
 |_::_=>none
def UT(cf:Cf)(fr:ao):Option (TypeId×List (Nat×Value)):=match bu fr cf with
 |some ⟨_, .build t ⟨ps⟩,_,_,_,_⟩=>match D6 ps with
  |some vs=>some (t,vs)
  |none=>none
 |_=>none
def Dy(fr:ao)(own:aB)(cf:Cf):Option (TypeId×Nat×Nat×List FX×Bool×FX):=match bu fr cf with
 |some ⟨_, .store t x y,_,_,_,_⟩=>match aC (aI fr cf) x with
  |some (.ov nm 0)=>match ew fr own cf nm with
   |some (.o ty cs lo)=>match aC (aI fr cf) y with
    |some fv=>some (t,nm,ty,cs,lo,fv)
    |_=>none
   |_=>none
  |_=>none
 |_=>none
def H2[fu:Fu]{t nm ty len e:Nat}{cs:List FX}{lo:Bool}{fv:FX}{j:TypeInfo}(h:Dy fr own cf=some (t,nm,ty,cs,lo,fv))(hu:prog.underlying t=some (.array len e))(hj:prog.info? t=some j)(hc:fv.okc=true/\fv.cells.length=j.size/\j.size=cs.length)
  (hgo:bF tt n fu.n fr own cf .un [(nm,some (.o ty (qv cs 0 fv.cells) lo))] []=⟨vc,fr',own',cf'⟩)(k:aj prog GB C n Q0 fr' own' cf')
  (hv:ab vc:=by first|exact trivial|(simp only[ab];kernel_rfl)|(simp only[ab];omega)):aj prog GB C n Q0 fr own cf:=by
 unfold Dy at h;split at h<;>try (cases h;done)
 rename_i hh;split at h<;>try (cases h;done)
 rename_i e1;split at h<;>try (cases h;done)
 rename_i hb;split at h<;>cases h;rename_i e2;obtain⟨c1,c2,c3⟩:=hc;have:lP prog t j.size:=⟨fun w=>th hu w,fun w=>pi hj w⟩;refine us hh ?_ hgo hv k;intro hd tl tb K s1 s2 hf hk;refine⟨fun ρ G ov a w r Q=>?_⟩;have r1:=r.mono s1 s2;obtain⟨p,h1,h2⟩:=r1.ev e1;obtain⟨q,h3,h4⟩:=r1.ev e2;obtain⟨b,m,rfl,ha,h5,h6⟩:=r1.own h2 hb;obtain⟨h7,h8⟩:=h4.cells c1;obtain⟨own',u1,u2,u3⟩:=f0.of_mem (cs':=cE m 0 (aG q)) h6;exact B3 h1 h3 u1 (by rw[h7.len,c2]) (by rw[h5.len,c3];omega) (dR.2 h8) hd (fun a' w' rl=>r.wrote (m:=m) (s2 _ _ hb) ha (h5.ov h7) u2 u3 hk rl) a w Q ⟨r.h,r.sz,ci a,r.df⟩
def E3(fr:ao)(cf:Cf):Option J5:=match bu fr cf with
 |some ⟨some d, .buildSlice t len parts,_,_,_,_⟩=>match b8 tt t with
  |some ⟨.sl e s _,_,_,_⟩=>match p8 (aI fr cf) 0 parts.toList with
   |some ds=>bif xf s ds&&(Nat.beq parts.toList.length len&&(Nat.ble (len*s) 1000&&Nat.blt 0 (len*s))) then some ⟨d,e,s,ds⟩ else none
   |none=>none
  |_=>none
 |_=>none
def Nt[fu:Fu]{d e s:Nat}{ds:List DV}{i:TI}{z:DV}(h:E3 fr cf=some ⟨d,e,s,ds⟩)(hi:dC prog e=some i)(hz:jI i=some z)(hs:Nat.beq z.cells.length s=true)(hgo:bF tt n fu.n fr own cf (.d (.sl ds)) [(d,none)] [d]=⟨vc,fr',own',cf'⟩)(k:aj prog GB C n Q0 fr' own' cf')
  (hv:ab vc:=by first|exact trivial|(simp only[ab];kernel_rfl)|(simp only[ab];omega)):aj prog GB C n Q0 fr own cf:=by
 unfold E3 at h;split at h<;>try (cases h;done)
 rename_i hh;split at h<;>try (cases h;done)
 rename_i hT;split at h<;>try (cases h;done)
 rename_i hr;rw[cond_eq_ite] at h;split at h<;>cases h;rename_i hc;simp only[bJ] at hc;have:=gE (dt _ _ hT) J;exact us hh ((GR hi hz hs hr hc.1 hc.2.1 hc.2.2.1 hc.2.2.2).frzRow J) hgo hv k
def F4(fr:ao)(cf:Cf):Option (TypeId×List DV):=match bu fr cf with
 |some ⟨_, .load t x,_,_,_,_⟩=>match aC (aI fr cf) x with
  |some (.ep l)=>some (t,l)
  |_=>none
 |_=>none
def Rn:TypeDesc->Bool
 | .struct _=>false
 | .array _ _=>false
 |_=>true
def Gu[fu:Fu]{t:TypeId}{d:DV}{l:List DV}{D:TypeDesc}{j:TypeInfo}(h:F4 fr cf=some (t,d::l))(hu:prog.underlying t=some D)(hD:Rn D=true)(hj:prog.info? t=some j)(hs:j.size=1)
  (hgo:bF tt n fu.n fr own cf (.d d) [] []=⟨vc,fr',own',cf'⟩)(k:aj prog GB C n Q0 fr' own' cf')
  (hv:ab vc:=by first|exact trivial|(simp only[ab];kernel_rfl)|(simp only[ab];omega)):aj prog GB C n Q0 fr own cf:=by
 unfold F4 at h;split at h<;>try (cases h;done)
 rename_i hh;split at h<;>cases h;rename_i hx;have:je prog t:=⟨fun w=>by(rw[th hu w];cases D<;>first|rfl|(cases hD;done)),fun w=>by rw[pi hj w,hs]⟩;exact us hh (.x1 hx fun ρ G ov a w y _ r h1 h2=>by
  obtain⟨b,o,ms,m,rfl,hb,ht,hm⟩:=h2;obtain⟨l',h3,h4⟩:=hm.get (i:=0) rfl;have:=BU ht (i:=0) (Nat.succ_pos _);rw[cN] at this;exact⟨l',h4,wF h1 hb (by rw[this];exact h3)⟩) hgo hv k
end
instance BQ.i1':BQ (1:Rat) 2:=⟨by decide,by decide⟩
instance BQ.i2':BQ (2:Rat) 2:=⟨by decide,by decide⟩
instance aA.at (l:ah) (t:Rat) (k:Nat) [LB l] [BQ t k]:aA (l.at t) (900+(k+97)+1):=by
 rw[<-qi];infer_instance
def lm(d:aa):aa:=⟨-d.y,d.x⟩
instance aA.turn (d:aa) (k:Nat) [aA d k]:aA (lm d) k:=⟨inferInstanceAs (BQ (-d.y) k),inferInstanceAs (BQ d.x k)⟩
def BW(p v:aa)(m:ah):Rat:= -(m.value p/(m.value (dx p v ((1:Int):Rat))-m.value p))
def Ok(p v:aa)(m:ah)(s:Rat):Rat:=if(m.value (dx p v ((1:Int):Rat))-m.value p).num.sign=0 then s else if(m.value p).num.sign=0 then s else if 0<(BW p v m).num.sign then(if bv (BW p v m/2) s<0 then BW p v m/2 else s) else s
def Eu(p v:aa):List ah->Rat->Rat
 |[],s=>s
 |m::t,s=>Eu p v t (Ok p v m s)
def z7(c:List ah)(p v:aa):aa:=dx p v (Eu p v c ((1:Int):Rat))
def DN(c:List ah):List ah->aa
 |[]=>⟨0,0⟩
 |m::t=>if(rg m c bi.all).2=true then z7 c (m.at (KH (rg m c bi.all).1)) (lm m.dir) else DN c t
def VX(l m:ah):Int:=DE [bv l.a m.a,bv l.b m.b,bv l.c m.c]
def D8{p:aa}{i:Nat}[hp:aA p i](hi:i<=10000000:=by decide):PF GB prog 354 [eZ p] (vI p.half):=by
 refine fn func354 J J ntmps354 J J (fun C=>?_);refine cl J (jv (q:=p.y) (by omega)) J<|?_;refine cs 10 J J J (fun hg10=>?_) (fun hg10=>?_)
 .
  exact rz J (by unfold aa.half;(repeat' split)<;>first|rfl|(exfalso;omega))
 .
  refine cs 13 J J J (fun hg13=>?_) (fun hg13=>?_)
  .
   refine cl J (jv (q:=p.x) (by omega)) J<|?_;refine br J J J (fun hc7=>?_) (fun hc7=>?_)
   .
    exact rz J (by unfold aa.half;(repeat' split)<;>first|rfl|(exfalso;omega))
   .
    refine cs 23 J J J (fun hg23=>?_) (fun hg23=>?_)
    .
     exact rz J (by unfold aa.half;(repeat' split)<;>first|rfl|(exfalso;omega))
    .
     refine cl J (jv (q:=p.x) (by omega)) J<|?_;refine br J J J (fun hc20=>?_) (fun hc20=>?_)
     .
      exact rz J (by unfold aa.half;(repeat' split)<;>first|rfl|(exfalso;omega))
     .
      exact rz J (by unfold aa.half;(repeat' split)<;>first|rfl|(exfalso;omega))
  .
   refine cs 23 J J J (fun hg23=>?_) (fun hg23=>?_)
   .
    exact rz J (by unfold aa.half;(repeat' split)<;>first|rfl|(exfalso;omega))
   .
    refine cl J (jv (q:=p.x) (by omega)) J<|?_;refine br J J J (fun hc20=>?_) (fun hc20=>?_)
    .
     exact rz J (by unfold aa.half;(repeat' split)<;>first|rfl|(exfalso;omega))
    .
     exact rz J (by unfold aa.half;(repeat' split)<;>first|rfl|(exfalso;omega))
def C8{u v:aa}{i j:Nat}[hp:aA u i][hq:aA v j](hi:i<=10000000:=by decide)(hj:j<=10000000:=by decide):PF GB prog 279 [eZ u,eZ v] (vI (ce u v)):=by
 refine fn func279 J J ntmps279 J J (fun C=>?_);refine cl J (D8 (p:=u) hi) J<|cl J (D8 (p:=v) hj) J<|?_;refine br J J J (fun hc11=>?_) (fun hc11=>?_)
 .
  exact rz J (by unfold ce;rw[if_pos hc11];rfl)
 .
  refine br J J J (fun hc15=>?_) (fun hc15=>?_)
  .
   exact rz J (by unfold ce;rw[if_neg hc11,if_pos hc15];rfl)
  .
   refine cl J (Gg (p:=u) (q:=v) (by omega) (by omega)) J<|cl (fu:=⟨0⟩) J (jv (q:=u.cross v) (by omega)) J<|?_;have hs:=Int.sign_trichotomy (u.cross v).num;refine gx J<|?_;exact rz J (by unfold ce;rw[if_neg hc11,if_neg hc15];rfl)
def T6{m:Int}:cH (dg m.natAbs)/\(decide (m<0)=true->0<(dg m.natAbs).length):=⟨(dm _).2.2,fun h=>by
 have:0<m.natAbs:=by have:=of_decide_eq_true h;omega
 exact tc.2 this⟩
def Kj{m:Int}{i:Nat}[h:BI m i](hi:i<=1000000000:=by decide):PF GB prog 269 [eI m] (.v (.bool true)):=(S4 (neg:=decide (m<0)) (ds:=dg m.natAbs) (dm _).2.1 (by have:=jb (a:=m.natAbs) hi;omega)).to (by unfold vB;rw[decide_eq_true T6])
instance BQ.rgcd (p q:Rat) (i j:Nat) [h:BQ p i] [k:BQ q j]:BQ (rgcd p q) (i+j+(i+j)):=by
 unfold Sx.rgcd;refine qj (gT (jm p) (jm q)) ?_ ?_
 ·rw[jR]
  have h1:=km h.hn k.hd;have h2:=km k.hn h.hd;rw[kW j i] at h2;exact AS h1 h2
 ·have h1:=km h.hd k.hd
  have:2^(i+j)<=2^(i+j+(i+j)):=aM (by decide) (by omega);omega
def bP(f:bg):DV:= .ag [vI (c7 (f.l.a:Rat)),vI (c8 (f.l.a:Rat)),cF (f.l.a:Rat),vI (c7 (f.l.b:Rat)),vI (c8 (f.l.b:Rat)),cF (f.l.b:Rat),vI (c7 (f.l.c:Rat)),vI (c8 (f.l.c:Rat)),cF (f.l.c:Rat),vI (c7 f.v.lo),vI (c8 f.v.lo),cF f.v.lo,vI (c7 f.v.hi),vI (c8 f.v.hi),cF f.v.hi, .v (.bool f.v.nl), .v (.bool f.v.nh)]
structure Ru (v:bi):Prop where
 z:w6 v
 lo:BQ v.lo 1200
 hi:BQ v.hi 1200
structure QL (s:bg):Prop where
 lb:LB s.l
 ok:s.l.ok
 v:Ru s.v
abbrev Uw (c:bO):Prop:= ∀s∈c,QL s
def WW(o:Option bi):bi:=o.getD ⟨0,0,false,false⟩
def d9{α:Type}{f:α->DV}{l:List α}{i:Nat}{s:α}(h:l[i]? =some s):(l.map f)[(i:Int).toNat]? =some (f s):=by simp[h]
instance BQ.sample (v:bi) [h1:BQ v.lo 1200] [h2:BQ v.hi 1200]:BQ v.sample 2500:=by
 unfold bi.sample;split
 ·exact BQ.mono (k:=1) ⟨by decide,by decide⟩ (by decide)
 ·split
  ·exact BQ.mono (inferInstance:BQ (v.hi-((1:Int):Rat)) _) (by decide)
  ·split
   ·exact BQ.mono (inferInstance:BQ (v.lo+((1:Int):Rat)) _) (by decide)
   ·exact BQ.mono (inferInstance:BQ ((v.lo+v.hi)*mkRat 1 2) _) (by decide)

def UV(c:bO)(l:ah)(i:Nat):Bool:=match c[i]? with
 |some s=>decide (ce s.l.dir l.dir=0)
 |none=>false
def cU:Tr->List DV
 | .leaf b=>[vI 0,vI 0, .v (.pointer none),vI 0,vI 0, .v (.pointer none),vI 0,vI 0, .v (.pointer none), .v (.pointer none), .v (.pointer none), .v (.bool b)]
 | .node l x y=>[vI (c7 (l.a:Rat)),vI (c8 (l.a:Rat)),cF (l.a:Rat),vI (c7 (l.b:Rat)),vI (c8 (l.b:Rat)),cF (l.b:Rat),vI (c7 (l.c:Rat)),vI (c8 (l.c:Rat)),cF (l.c:Rat), .pt (cU x), .pt (cU y), .v (.bool false)]
def eU(t:Tr):DV:= .pt (cU t)
def Tr.compl:Tr->Tr
 | .leaf b=> .leaf !b
 | .node l x y=> .node l x.compl y.compl
def Tr.chooseQ(op:Int)(b:Bool)(t:Tr)(c:bO):Tr:=
 if op=1\/op=2 then(if b=decide (op=1) then .leaf b else t.restrict c)
 else if op=3/\b=false then .leaf false
 else if b then(t.restrict c).compl else t.restrict c
def Tr.mergeQ(op:Int):Tr->Tr->bO->Tr
 | .leaf b,u,c=>u.chooseQ op b c
 | .node l x y,u,c=>if !jc c l.rev then x.mergeQ op u c else if !jc c l then y.mergeQ op u c else joinQ l (x.mergeQ op u (iD c l)) (y.mergeQ op u (iD c l.rev))
def ME:DV:= .ag [vI 0,vI 0, .v (.pointer none),vI 0,vI 0, .v (.pointer none),vI 0,vI 0, .v (.pointer none)]
def Wp:Option ah->DV
 |some l=> .tp [ly l,vB true]
 |none=> .tp [ME,vB false]
def wP(n:Bool)(ds:List Nat):Prop:=cH ds/\(n=true->0<ds.length)
instance (n:Bool) (ds:List Nat):Decidable (wP n ds):=inferInstanceAs (Decidable (_/\_))
structure RL where
 na:Bool
 da:List Nat
 nb:Bool
 db:List Nat
 nc:Bool
 dc:List Nat
def RL.d(r:RL):DV:= .ag [.v (.bool r.na),d8 r.da, .v (.bool r.nb),d8 r.db, .v (.bool r.nc),d8 r.dc]
def An(n:Bool)(ds:List Nat):Int:=if n then-(dv ds:Int) else dv ds
def RL.l(r:RL):ah:=⟨An r.na r.da,An r.nb r.db,An r.nc r.dc⟩
def RL.nm(r:RL):Prop:=wP r.na r.da/\wP r.nb r.db/\wP r.nc r.dc
instance (l:ah):Decidable l.ok:=inferInstanceAs (Decidable (_/\_))
instance (r:RL):Decidable r.nm:=inferInstanceAs (Decidable (_/\_/\_))
def RL.ln(r:RL):Option ah:=if r.nm/\r.l.ok then some r.l else none
structure RL.sm (r:RL):Prop where
 a:aP r.da/\r.da.length<=3
 b:aP r.db/\r.db.length<=3
 c:aP r.dc/\r.dc.length<=3
def V0(n:Nat)(f:Nat->Bool):List Value:=(List.range n).map fun j=> .bool (f j)
def qr(f:Nat->Bool)(i:Nat):Nat->Bool:=fun j=>f j||Nat.beq j i
structure RN where
 g:RL
 l:Int
 r:Int
def RN.d(n:RN):DV:= .ag [.v (.bool n.g.na),d8 n.g.da, .v (.bool n.g.nb),d8 n.g.db, .v (.bool n.g.nc),d8 n.g.dc, .v (.int .i64 n.l), .v (.int .i64 n.r)]
structure RS where
 f:Nat->Bool
 c:Nat
 b:Bool
inductive RR (ns:List RN):Int->RS->Tr->RS->Prop where
 |leaf (b:Bool) (s:RS):RR ns (wh b) s (.leaf b) s
 |js (rt:Int) (s:RS) (h1:rt≠ -1) (h2:rt≠ -2) (h:rt<0\/(ns.length:Int)<=rt\/(∃k:Nat,rt=k/\k<ns.length/\s.f k=true)):RR ns rt s (.leaf false) ⟨s.f,s.c,true⟩
 |line (k:Nat) (n:RN) (s:RS) (h:ns[k]? =some n) (hf:s.f k=false) (hl:n.g.ln=none):RR ns (k:Int) s (.leaf false) ⟨qr s.f k,s.c+1,true⟩
 |node (k:Nat) (n:RN) (l:ah) (s s2 s3:RS) (x y:Tr) (h:ns[k]? =some n) (hf:s.f k=false) (hl:n.g.ln=some l) (h1:RR ns n.l ⟨qr s.f k,s.c+1,s.b⟩ x s2) (h2:RR ns n.r s2 y s3):RR ns (k:Int) s (.node l x y) s3
abbrev WA (x:SV) (ns:List RN) (A:Gh):Prop:= ∃es,dG A 8 x es/\IsLs A (ns.map RN.d) es
def OA:RS:=⟨fun _=>false,0,false⟩
def Uo(ns:List RN)(t:Tr)(s:RS):DV:=if s.b=false/\s.c=ns.length then .tp [eU t,vB true] else .tp [.v (.pointer none),vB false]
def Om(rt:Int)(ns:List RN):DV:= .ag [vI rt, .sl (ns.map RN.d)]

def Tr.pre:Tr->List Tr
 | .leaf b=>[.leaf b]
 | .node l x y=> .node l x y::(x.pre++y.pre)
structure Wy (f:FuncId) (c2:List Value) (σ:Type) (step:σ->Tr->σ) (ok:σ->Tr->Prop) (Inv:σ->List av->Gh->Prop):Prop where
 up: ∀{s B G G'},bc G G'->Inv s B G->Inv s B G'
 re: ∀{s B G} (fl:Nat->Bool),Inv s B G->Inv s (B.map (relo fl)) G
 go: ∀{s t p B G},ok s t->Inv s B G->Is G (eU t) (.pointer p)->jh prog f (.pointer p::c2) B G (fun _ B' G'=>Inv (step s t) B' G')
section
variable {P:Program} {C:az} {n:Nat} {fr:Fr} {own:List av} {G:Gh}
end
def I'{σ:Type}(step:σ->Tr->σ)(ok:σ->Tr->Prop):σ->List Tr->Prop
 |_,[]=>True
 |s,t::ts=>ok s t/\I' step ok (step s t) ts
structure EX (σ:Type) where
 ts:List Tr
 vs:List Value
 rest:List Value
 b:Nat
 cap:Nat
 lo:Bool
 s:σ
 B:List av
def Tl(t:Tr):Nat:=2*t.size+1
def Hd(ts:List Tr):List Tr:=ts.reverse.flatMap Tr.pre
structure EI (A:Gh) {σ:Type} (step:σ->Tr->σ) (ok:σ->Tr->Prop) (Inv:σ->List av->Gh->Prop) (N:Nat) (fin:σ) (x:EX σ) (G:Gh):Prop where
 rel:nn (fun v t=> ∃p,v= .pointer p/\Is A (eU t) (.pointer p)) x.vs x.ts
 cap:x.vs.length+x.rest.length=x.cap
 inv:Inv x.s x.B G
 mu:(x.ts.map Tl).sum<=N
 okf:I' step ok x.s (Hd x.ts)
 fin:(Hd x.ts).foldl step x.s=fin
def V4(nbk:Nat)(s:Nat)(B:List av)(_:Gh):Prop:= ∃lo,B=[⟨nbk,[.int .i64 s],3,lo⟩]
def WN(s:Nat):Tr->Nat
 | .leaf _=>s
 | .node .. =>s+1
def WR(n:Nat)(f:Nat->Bool):Nat:=((List.range n).filter fun j=>!f j).length
def A5(ns:List RN):Nat->Int->RS->Tr×RS
 |0,_,s=>(.leaf false,s)
 |m+1,rt,s=>
  if rt= -1 then(.leaf false,s) else if rt= -2 then(.leaf true,s) else
  match ns[rt.toNat]? with
  |none=>(.leaf false,⟨s.f,s.c,true⟩)
  |some n=>if rt<0\/s.f rt.toNat=true then(.leaf false,⟨s.f,s.c,true⟩) else
   match n.g.ln with
   |none=>(.leaf false,⟨qr s.f rt.toNat,s.c+1,true⟩)
   |some l=>let a:=A5 ns m n.l ⟨qr s.f rt.toNat,s.c+1,s.b⟩;let b:=A5 ns m n.r a.2;(.node l a.1 b.1,b.2)
def PH(ns:List RN)(rt:Int):Option Tr:=
 let r:=A5 ns (ns.length+1) rt OA
 if r.2.b=false/\r.2.c=ns.length then some r.1 else none
def UL:Option Tr->DV
 |some t=> .tp [eU t,vB true]
 |none=> .tp [.v (.pointer none),vB false]
end Go.Sx
end
section
namespace Go.Sx
open Go Go.Proofs Go.RowKit Go.Extern.Stop Go.Stop Go.Extern
def T0(v:Value)(w:World):(Extern.ReflectliteType.typeOf #[.iface 499 v]).run Tryz.prog w= .ok (.iface 291 (.agg #[.pointer (some ⟨Tryz.prog.globals.size,499,none⟩)])) w:=by kernel_rfl
def Hn:TypeId->Sem Value:=fun t=>do Go.Extern.Rtype.noPackHeld "Comparable" t;pure (.bool (<-typeInfo t).comparable)
def Q7(w:World):((Extern.ReflectliteType.method Hn) #[.agg #[.pointer (some ⟨Tryz.prog.globals.size,499,none⟩)]]).run Tryz.prog w= .ok (.bool true) w:=by kernel_rfl
def TX:(Tryz.prog.info? 499).map (·.comparable)=some true:=by kernel_rfl
def TU:(Tryz.prog.info? 524).map (·.size)=some 1:=by kernel_rfl
def Sb(n:Nat)(v:Value)(w:World):(Go.method (n+1) 291 v "Comparable").run Tryz.prog w= .ok (437,v) w:=by
 kernel_rfl
def Kl(a:Addr)(w:World):Calls Tryz.prog 28 #[.iface 499 (.pointer (some a)), .iface 499 (.pointer (some a))] w fun e w'=>e= .returned (.bool true)/\w'=w:=by
 obtain⟨i,hi,hcmp⟩:=Option.map_eq_some_iff.1 TX;obtain⟨j,hj,hjs⟩:=Option.map_eq_some_iff.1 TU;have h8:= @run_callFunc_extern Tryz.prog 91 _ Extern.ReflectliteType.typeOf Tryz.func91 (by kernel_rfl) (by kernel_rfl) (by kernel_rfl) (by kernel_rfl);have h32:= @run_callFunc_extern Tryz.prog 437 _ (Extern.ReflectliteType.method Hn) Tryz.func437 (by kernel_rfl) (by kernel_rfl) (by kernel_rfl) (by kernel_rfl);have tT:=T0;have cT:=Q7;obtain⟨g,hg⟩: ∃g,g=Tryz.prog.globals.size:=⟨_,rfl⟩;simp only[<-hg] at tT cT;clear hg;have mR:=Sb;have heq:=run_eql_iface_ptr_same (P:=Tryz.prog) w a Tryz.underlying34 Tryz.underlying499 hi hcmp hj
 go_enter Tryz.func28,Tryz.ntmps28
 go_wp2
 refine wp_loop_rounds 1 ?_;rw[rounds_succ]
 go_wp2
 go_ret
 exact⟨J,J⟩
def SN:jC Tryz.prog 28:=⟨_,Tryz.func28,by kernel_rfl,by kernel_rfl⟩
def ow(a:Addr):DV:= .v (.iface 499 (.pointer (some a)))
def Ph{GB:Gh}{a:Addr}:PF GB Tryz.prog 28 [ow a,ow a] (.v (.bool true)):=by
 intro G vs _ hv;obtain⟨v1,m,rfl,h1,hm⟩:=bE.1 hv;obtain⟨v2,m,rfl,h2,hm⟩:=bE.1 hm;rw[cb] at hm;subst hm
 cases ba.1 h1;cases ba.1 h2
 exact(Fn.of_calls SN (Kl a)).mono fun v G' _ h=>ba.2 h
end Go.Sx
end
section
namespace Go.Sx
open Go Go.Proofs Tryz
variable {GB:Gh}
structure EG (GB:Gh) (ai al ae:Addr):Prop where
 ErrInvalid:GB 0=some [.iface 499 (.pointer (some ai))]
 ErrLimit:GB 1=some [.iface 499 (.pointer (some al))]
structure V8 (GB:Gh) (ai al ae:Addr):Prop extends EG GB ai al ae where
 ErrEmpty:GB 4=some [.iface 499 (.pointer (some ae))]
structure Tr.gd (t:Tr):Prop where
 lb:t.all LB
 ok:t.all ah.ok
def EL(op:Int)(a b:Tr):Option Tr:=if 1024<a.depth+b.depth then none else if 65536<(a.mergeQ op b []).size then none else some (a.mergeQ op b [])
def Uk(al:Addr):Option Tr->DV
 |some t=> .tp [eU t, .v .nilIface]
 |none=> .tp [.v (.pointer none),ow al]
def HW(op:Int):Tr->List Tr->Option Tr
 |t,[]=>some t
 |t,u::us=>match EL op t u with
  |none=>none
  |some r=>HW op r us
def As:DV:= .ag [vI 0, .sl []]
def Wj:Tr ⊕ Addr->DV
 | .inl t=> .tp [eA t, .v .nilIface]
 | .inr e=> .tp [As,ow e]
def Vt(ai:Addr):Option Tr->Tr ⊕ Addr
 |some t=> .inl t.compl
 |none=> .inr ai
def Ke(al:Addr):Option Tr->Tr ⊕ Addr
 |some t=> .inl t
 |none=> .inr al
def WX(ai al:Addr)(op:Int):Option Tr->Option Tr->Tr ⊕ Addr
 |some a,some b=>if 1<=op/\op<=4 then Ke al (EL op a b) else .inr ai
 |_,_=> .inr ai
abbrev mn:=Int×List RN
def mn.d(x:mn):DV:=Om x.1 x.2
def mn.q(x:mn):Option Tr:=PH x.2 x.1
def Ue:Option Tr->DV
 |some t=>eU t
 |none=> .v (.pointer none)
def Q5(op:Int)(ts:List mn):Bool:=decide (1<=op/\op<=4)&&ts.all fun x=>x.q.isSome
def W6(ai al ae:Addr)(op:Int)(ts:List mn):Tr ⊕ Addr:=
 if Q5 op ts then(match ts.filterMap mn.q with
  |[]=> .inr ae
  |a::us=>if 1024<a.depth then .inr al else Ke al (HW op (a.restrict []) us)) else .inr ai
def Wu(ts:List mn):List DV:=ts.map fun x=>Ue x.q
structure mn.ok (x:mn):Prop where
 s: ∀n∈x.2,n.g.sm
 n:x.2.length<=65536
def RN.of(n:NQ):RN:=⟨⟨decide (n.l.a<0),dg n.l.a.natAbs,decide (n.l.b<0),dg n.l.b.natAbs,decide (n.l.c<0),dg n.l.c.natAbs⟩,n.a,n.b⟩
def CC(ns:List NQ):Tr->Int->List Nat->Prop
 | .leaf b,rt,L=>rt=wh b/\L=[]
 | .node l x y,rt,L=> ∃(k:Nat) (a b:Int) (L1 L2:List Nat),rt=(k:Int)/\ns[k]? =some ⟨l,a,b⟩/\CC ns x a L1/\CC ns y b L2/\L=k::(L1++L2)
def UY(ns:List NQ)(t:Tr)(rt:Int):Prop:= ∃L,CC ns t rt L/\L.Nodup/\L.length=ns.length
def JS{a i:Nat}[ha:BN a i](hi:i<=400000000:=by decide):PF GB prog 194 [dN a] (dN a):=by
 have hl:=d5 (dg a);have hb:=jH ha.h;refine fn func194 J J ntmps194 J J (fun C=>?_);refine wx J J<|ap ((dg a).map dU) J J (qo _) J<|?_;refine ki 5 J ?_;exact rz J J
def Kg{z:Int}{i:Nat}[hz:BI z i](hi:i<=400000000:=by decide):PF GB prog 193 [eI z] (eI z):=by
 refine fn func193 J J ntmps193 J J (fun C=>?_);refine cl J (JS (a:=z.natAbs) (i:=i) (ha:=⟨hz.h⟩) hi) J<|?_;exact rz J J
def Ww(r:RL):DV:= .tp [if r.nm then eL r.l else .ag [.v (.bool false), .sl [], .v (.bool false), .sl [], .v (.bool false), .sl []],vB (decide (r.nm/\r.l.ok))]
def smB(n:Int)(ls:List (List Nat)):Bool:=ls.all fun d=>decide ((d.length:Int)<=n)
def RL.smB(n:Int)(r:RL):Bool:=Sx.smB n [r.da,r.db,r.dc]
def VC(n:Int)(ls:List RL):Bool:=ls.all fun r=>r.smB n
def Vg(cs:List RL):Option (List ah):=if cs.all (fun r=>r.ln.isSome) then some (cs.filterMap RL.ln) else none
def VO:Option (List ah)->DV
 |some ls=> .tp [.sl (ls.map ly),vB true]
 |none=> .tp [.sl [],vB false]
def Vb:Option bO->DV
 |some c=> .tp [.sl (c.map bP),vB true]
 |none=> .tp [.sl [],vB false]
def VP(ai al:Addr)(more:Nat):Option Tr->DV
 |none=> .tp [.v (.pointer none),ow ai]
 |some t=>if 1024<t.depth+more then .tp [.v (.pointer none),ow al] else .tp [eU t, .v .nilIface]
def WK(ai:Addr)(f:Tr->Tr):Option Tr->Tr ⊕ Addr
 |some t=> .inl (f t)
 |none=> .inr ai
def Vs(ai ae:Addr):Option Tr->Option (List ah)->Tr ⊕ Addr
 |some t,some ls=>(match Jl ls [] with
  |some c=> .inl (t.restrict c)
  |none=> .inr ae)
 |_,_=> .inr ai
def V2(ai:Addr):Option ah->Option Tr->DV
 |some m,some t=> .tp [eA (t.restrict (iD [] m)),eA (t.restrict (iD [] m.rev)), .v .nilIface]
 |_,_=> .tp [As,As,ow ai]

def Tr.val:Tr->aa->Bool
 | .leaf b,_=>b
 | .node l x y,p=>if 0<l.value p then x.val p else y.val p
def Tr.lns:Tr->List ah
 | .leaf _=>[]
 | .node l x y=>l::(x.lns++y.lns)
def Ol(L:List ah)(p:aa):Prop:= ∀l∈L,l.value p≠0
def VB(op:Int)(a b:Bool):Bool:=if op=1 then a||b else if op=2 then a&&b else if op=3 then a&&!b else a !=b
def Tr.Red:Tr->bO->Prop
 | .leaf _,_=>True
 | .node l x y,c=>jc c l=true/\jc c l.rev=true/\x.Red (iD c l)/\y.Red (iD c l.rev)/\ ¬(x.isLeaf=true/\y.isLeaf=true/\x.code=y.code)
def ah.same(l m:ah):Prop:=m=l\/m=l.rev
instance (l m:ah):Decidable (l.same m):=inferInstanceAs (Decidable (_\/_))
def Tr.cnt(l:ah):Tr->Nat
 | .leaf _=>0
 | .node m x y=>(if l.same m then 1 else 0)+(x.cnt l+y.cnt l)
def Vl(l:ah)(c:bO):Prop:= ∃p,o3 c p/\l.value p=0
def Vc(c:bO)(p:aa):Bool:=c.all fun s=>decide (0<s.l.value p)
def Wm(P:List aa)(l:ah)(t:Tr):Prop:=t.all fun m=>l.same m\/ ∀p,l.value p=0->m.value p=0->p∈P
def Mo(K:List ah)(t:Tr):Prop:=t.all fun n=> ∃m∈K,m.same n
def Wb(l m:ah):aa:=l.at (-(l.cutC m/l.cutK m))
def Kc(t:Tr):List ah->Nat
 |[]=>0
 |l::K=>t.cnt l+Kc t K
def Ks(n:ah):List ah->Nat
 |[]=>0
 |l::K=>(if l.same n then 1 else 0)+Ks n K
def Tr.chooseL(op:Int)(b:Bool)(t:Tr)(c:List ah):Tr:=
 if op=1/\b=true then .leaf true
 else if(op=2\/op=3)/\b=false then .leaf false
 else if(op=3\/op=4)/\b=true then(t.restrictL c).compl else t.restrictL c
def Tr.mergeL(op:Int):Tr->Tr->List ah->Tr
 | .leaf b,u,c=>u.chooseL op b c
 | .node l x y,u,c=>if vb c l=1 then x.mergeL op u c else if vb c l= -1 then y.mergeL op u c else joinQ l (x.mergeL op u (nf (c++[l]))) (y.mergeL op u (nf (c++[l.rev])))
structure WZ (L:List ah) (a b:Tr):Prop where
 oa:a.all ah.ok
 ob:b.all ah.ok
 ok: ∀l∈L,l.ok
 la: ∀l∈a.lns,l∈L
 lb: ∀l∈b.lns,l∈L
def rJ(x:Rat):List Rat->List Rat
 |[]=>[x]
 |u::t=>if u<x then u::rJ x t else if u=x then u::t else x::u::t
def x6(l:List Rat):List Rat:=l.foldl (fun out x=>rJ x out) []
def CX:List Rat->List Rat
 |a::b::t=>(a+b)/2::CX (b::t)
 |_=>[]
def wE:List Rat->List Rat
 |[]=>[0]
 |a::t=>(a-1)::(CX (a::t)++[(a::t).getLast (by simp)+1])
def EU:List ah->List Rat
 |[]=>[]
 |a::t=>(if a.b=0 then [a.base.x] else [])++(t.filterMap (fun b=>if crossI a b=0 then none else some (lI a b).x)++EU t)
def yA(a:ah)(x:Rat):Rat:= -(((a.a:Rat)*x+(a.c:Rat))/(a.b:Rat))
def Iu(l:List ah)(x:Rat):List Rat:=l.filterMap fun a=>if a.b=0 then none else some (yA a x)
def Ex(l:List ah):List aa:=(wE (x6 (EU l))).flatMap fun x=>(wE (x6 (Iu l x))).map fun y=>⟨x,y⟩
def UC(l:ah)(p:aa):ah:=if 0<l.value p then l else l.rev
def I0(out:List Rat)(s:bi):List Rat:=if s.nh then(if s.nl then out else rJ s.lo out) else rJ s.hi (if s.nl then out else rJ s.lo out)
def Bo(l:List bi):List Rat:=l.foldl I0 []
def Hg:List bi->Rat->Int
 |[],_=>0
 |s::t,x=>
  let a:=if s.nl then 1 else bv x s.lo
  let b:=if s.nh then-1 else bv x s.hi
  if 0<a/\b<0 then 2 else if(a=0/\b<=0)\/(b=0/\0<=a) then 1 else Hg t x
def EZ(l:List bi)(x:Rat):Bool:=decide (Hg l x=2)
def Bt(cuts:List Rat)(i:Nat):bi:=⟨if i=0 then 0 else cuts.getD (i-1) 0,if i<cuts.length then cuts.getD i 0 else 0,decide (i=0),decide (i=cuts.length)⟩
def RB(v w:bi):bi:=⟨v.lo,w.hi,v.nl,w.nh⟩
def E1(cuts:List Rat)(marks:List Bool):Nat->List bi
 |0=>[]
 |k+1=>
  let out:=E1 cuts marks k
  if marks.getD k false then
   (if 0<k/\marks.getD (k-1) false=true then(match out.getLast? with
    |some v=>out.dropLast++[RB v (Bt cuts k)]
    |none=>out++[Bt cuts k]) else out++[Bt cuts k])
  else out
def TG(cuts:List Rat)(marks:List Bool):List bi:=E1 cuts marks marks.length
def Mv(op:Int)(x y:Bool):Bool:=if op=2 then x&&y else if op=3 then x&&!y else if op=4 then x !=y else x||y
def Ow(op:Int)(a b:List bi):List bi:=TG (Bo (a++b)) ((wE (Bo (a++b))).map fun t=>Mv op (EZ a t) (EZ b t))
def FR(l m:ah)(side:Int):List bi:=
 if crossI l m=0 then(if(m.value l.base).num.sign=side then [bi.all] else [])
 else if(m.value (l.at (de l (lI l m)+1))).num.sign=side then [⟨de l (lI l m),0,false,true⟩] else [⟨0,de l (lI l m),true,false⟩]
def Dg(l m:ah):Bool:=decide (crossI l m=0/\(m.value l.base).num.sign=0)
def xq(f:bg)(m:ah)(side:Int):List bg:=if Dg f.l m then [] else(Ow 2 [f.v] (FR f.l m side)).map fun v=>⟨f.l,v⟩
structure UB (cuts:List Rat) (v:bi):Prop where
 z:w6 v
 lo:v.nl=true\/v.lo∈cuts
 hi:v.nh=true\/v.hi∈cuts
structure tK (f:bg):Prop where
 lb:LB f.l
 ok:f.l.ok
 z:w6 f.v
 lo:BQ f.v.lo 1200
 hi:BQ f.v.hi 1200
def x4(acc:aa->Bool):Nat->List bg->List ah->Tr
 |_,[],c=> .leaf (acc (DN c c))
 |0,_::_,_=> .leaf false
 |n+1,f::t,c=> .node f.l (x4 acc n ((f::t).flatMap fun g=>xq g f.l 1) (c++[f.l])) (x4 acc n ((f::t).flatMap fun g=>xq g f.l (-1)) (c++[f.l.rev]))
def Wc(n:Nat)(l:List bg):Prop:= ∃K:List ah,K.length<=n/\ ∀f∈l,∃m∈K,m.same f.l
def L9{p q r:Bool}{a b c:Nat}(h:Nat.gcd a b≠0):ah.ok ⟨zv p (a/Nat.gcd (Nat.gcd a b) c),zv q (b/Nat.gcd (Nat.gcd a b) c),zv r (c/Nat.gcd (Nat.gcd a b) c)⟩:=by
 have hg:0<Nat.gcd (Nat.gcd a b) c:=kJ _ (fS h);have d0:Nat.gcd (Nat.gcd a b) c∣Nat.gcd a b:=iX _ _;have d1:Nat.gcd (Nat.gcd a b) c∣a:=nM d0 (iX _ _);have d2:Nat.gcd (Nat.gcd a b) c∣b:=nM d0 (jV _ _);have d3:Nat.gcd (Nat.gcd a b) c∣c:=jV _ _;refine⟨?_,?_⟩
 ·rintro ⟨h1,h2⟩
  have h1':=congrArg Int.natAbs h1;have h2':=congrArg Int.natAbs h2;simp only[ll,Int.natAbs_zero] at h1' h2';have e1:=Nat.div_mul_cancel d1;have e2:=Nat.div_mul_cancel d2;rw[h1',jL] at e1;rw[h2',jL] at e2;exact h (by rw[<-e1,<-e2];rfl)
 ·simp only[ll]
  rw[Nat.gcd_div d1 d2,Nat.gcd_div d0 d3,Nat.div_self hg]
def Ci(p:Bool)(a g:Nat):(zv p (a/g)).natAbs<=a:=by rw[ll];exact iT ..
def PF.eq{P:Program}{f:FuncId}{vs:List DV}{r r':DV}(h:PF GB P f vs r)(e:r=r'):PF GB P f vs r':=e▸h
def iP(m n:Int):aa:=⟨(m:Rat),(n:Rat)⟩
theorem Ib{m:Int}{k:Nat}(h:m.natAbs<2^k):BI m k:=⟨h⟩
theorem gu{m:Int}{k:Nat}(h:m.natAbs<=1000)(hk:10<=k):BI m k:=⟨cR (show m.natAbs<2^10 by omega) (aM (by decide) hk)⟩
instance aA.int (m n:Int) (i:Nat) [h:BI m i] [k:BI n i]:aA (iP m n) (i+1):=⟨inferInstanceAs (BQ (m:Rat) (i+1)),inferInstanceAs (BQ (n:Rat) (i+1))⟩
def TY{p:aa}{m n:Int}(h1:p.x=(m:Rat))(h2:p.y=(n:Rat)):eP p=eP (iP m n):=by
 obtain⟨x,y⟩:=p;simp only at h1 h2;subst h1 h2;rfl
def eB(a b c:Int):ah:=
 ⟨zv (decide (a<0)) (a.natAbs/Nat.gcd (Nat.gcd a.natAbs b.natAbs) c.natAbs),zv (decide (b<0)) (b.natAbs/Nat.gcd (Nat.gcd a.natAbs b.natAbs) c.natAbs),zv (decide (c<0)) (c.natAbs/Nat.gcd (Nat.gcd a.natAbs b.natAbs) c.natAbs)⟩
def TC{a b c:Int}(h: ¬(a=0/\b=0)):(eB a b c).ok:=
 L9 fun e=>h ⟨lQ.1 (lR e),lQ.1 (lV e)⟩
def GM(a b c:Int):(eB a b c).a.natAbs<=a.natAbs/\(eB a b c).b.natAbs<=b.natAbs/\(eB a b c).c.natAbs<=c.natAbs:=⟨Ci ..,Ci ..,Ci ..⟩
def i5{m n:Int}(hm:m.natAbs<=1000)(hn:n.natAbs<=1000):PF GB prog 79 [.v (.int .i64 m), .v (.int .i64 n)] (eP (iP m n)):=by
 refine fn func79 J J ntmps79 J J (fun C=>?_);refine cl J (te (n:=m) (by omega) (by omega)) J<|cl J (te (n:=n) (by omega) (by omega)) J<|?_;exact rz J J
def EW{m n m' n' k:Int}(hm:m.natAbs<=1000)(hn:n.natAbs<=1000)(hm':m'.natAbs<=1000)(hn':n'.natAbs<=1000)(hk:k.natAbs<=1000):PF GB prog 100 [eP (iP m n),eQ (k:Rat),eP (iP m' n')] (eP (iP (m+k*m') (n+k*n'))):=by
 haveI:=gu (k:=10) hm (by decide);haveI:=gu (k:=10) hn (by decide);haveI:=gu (k:=10) hm' (by decide);haveI:=gu (k:=10) hn' (by decide);haveI:=gu (k:=10) hk (by decide);exact PF.eq (K3 (p:=iP m n) (q:=iP m' n') (c:=(k:Rat))) (TY (by show(m:Rat)+(k:Rat)*(m':Rat)=_;push_cast;rfl) (by show(n:Rat)+(k:Rat)*(n':Rat)=_;push_cast;rfl))
def B9{m n m' n':Int}(hm:m.natAbs<=1000)(hn:n.natAbs<=1000)(hm':m'.natAbs<=1000)(hn':n'.natAbs<=1000):PF GB prog 61 [eP (iP m n),eP (iP m' n')] (.v (.bool (decide (m=m'/\n=n')))):=by
 haveI:=gu (k:=10) hm (by decide);haveI:=gu (k:=10) hn (by decide);haveI:=gu (k:=10) hm' (by decide);haveI:=gu (k:=10) hn' (by decide);refine fn func61 J J ntmps61 J J (fun C=>?_);refine cl J (wg (a:=(m:Rat)) (b:=(m':Rat))) J<|?_;refine cs 11 J J J (fun hg11=>?_) (fun hg11=>?_)
 .
  refine cl J (wg (a:=(n:Rat)) (b:=(n':Rat))) J<|?_;exact rz J (by rw[uu] at hg11;have e:m=m':=(by exact_mod_cast hg11);exact congrArg (fun z=>DV.v (.bool z)) (decide_eq_decide.2 (by rw[uu,oK];simp[e])))
 .
  exact rz J (by rw[uu] at hg11;have e: ¬m=m':=(fun e=>hg11 (by rw[e]));show DV.v (.bool false)=DV.v (.bool _);rw[decide_eq_false (fun h=>e h.1)])
def gF(n n':Int):Int:= -(n'-n)
def gz(m m':Int):Int:=m'-m
def lH(m n m' n':Int):Int:= -(gF n n'*m+gz m m'*n)
def f5(m n m' n':Int):ah:=eB (gF n n') (gz m m') (lH m n m' n')
def IB{a b:Int}(ha:a.natAbs<=2000)(hb:b.natAbs<=1000):(a*b).natAbs<=2000000:=by
 rw[fN];exact mQ ha hb
def Nm{es:List Int}{a:Nat}(h:a<es.length):(es.map vI)[(a:Int).toNat]? =some (vI es[a]):=by simp[h]
def OG:eP (iP 0 0)= .ag [.v (.bool false), .sl [], .sl [], .v (.bool false), .sl [], .sl []]:=by
 unfold eP iP;simp[BO,dD]
def aq(es:List Int)(n:Int)(a:Nat):Nat×Nat:=
 if h:a<es.length then((if Int.tmod es[a] n<0 then Int.tmod es[a] n+n else Int.tmod es[a] n).toNat,a+1) else(0,a)
def gG{es:List Int}{n:Int}{a:Nat}(hn:1<=n):((aq es n a).1:Int)<n:=by
 unfold aq;split
 ·rename_i h
  have q2:=Int.tmod_lt_of_pos es[a] (show 0<n by omega);dsimp only;split<;>omega
 ·exact hn
def fw{es:List Int}{n:Int}{a:Nat}(ha:a<=es.length):(aq es n a).2<=es.length:=by
 unfold aq;split
 ·assumption
 ·exact ha
def pF(es:List Int)(a:Nat):(Int×Int)×Nat:=((((aq es 9 a).1:Int)-4,((aq es 9 (aq es 9 a).2).1:Int)-4),(aq es 9 (aq es 9 a).2).2)
def qm{es:List Int}{a:Nat}(ha:a<=es.length):(pF es a).1.1.natAbs<=4/\(pF es a).1.2.natAbs<=4/\(pF es a).2<=es.length:=by
 have h1:=gG (es:=es) (n:=9) (a:=a) (by decide);have h2:=gG (es:=es) (n:=9) (a:=(aq es 9 a).2) (by decide);have h3:=fw (n:=9) (fw (es:=es) (n:=9) ha);unfold pF;exact⟨by dsimp only;omega,by dsimp only;omega,h3⟩
def vF(es:List Int)(a:Nat):(Int×Int)×Nat:=if(pF es a).1.1=0/\(pF es a).1.2=0 then((1,0),(pF es a).2) else pF es a
def rM{es:List Int}{a:Nat}(ha:a<=es.length):(vF es a).1.1.natAbs<=4/\(vF es a).1.2.natAbs<=4/\ ¬((vF es a).1.1=0/\(vF es a).1.2=0)/\(vF es a).2<=es.length:=by
 obtain⟨h1,h2,h3⟩:=qm ha;unfold vF;split
 ·exact⟨show(1:Int).natAbs<=4 by decide,show(0:Int).natAbs<=4 by decide,show¬((1:Int)=0/\(0:Int)=0) by decide,h3⟩
 ·rename_i h;exact⟨h1,h2,h,h3⟩
def lF(es:List Int)(a:Nat):ah×Nat:=(f5 (pF es a).1.1 (pF es a).1.2 ((pF es a).1.1+1*(vF es (pF es a).2).1.1) ((pF es a).1.2+1*(vF es (pF es a).2).1.2),(vF es (pF es a).2).2)
def jf(es:List Int):Nat->Nat->Tr×Nat
 |0,a=>(.leaf (decide (((aq es 2 a).1:Int)=1)),(aq es 2 a).2)
 |d+1,a=>if((aq es 4 a).1:Int)=0 then(.leaf (decide (((aq es 2 (aq es 4 a).2).1:Int)=1)),(aq es 2 (aq es 4 a).2).2) else
  (.node (lF es (aq es 4 a).2).1 (jf es d (lF es (aq es 4 a).2).2).1 (jf es d (jf es d (lF es (aq es 4 a).2).2).2).1,(jf es d (jf es d (lF es (aq es 4 a).2).2).2).2)
def lc{b:Nat}{es:List Int}(hes:es.length<=400){a:Nat}(ha:a<=es.length){n:Int}(hn:1<=n)(hn2:n<=1000):PM GB prog 18 (f9 [none,some (.v (.int .i64 n))] b) b 126 [.sl (es.map vI), .v (.int .i64 (a:Nat))] (.v (.int .i64 ((aq es n a).1:Nat))) [.sl (es.map vI), .v (.int .i64 ((aq es n a).2:Nat))]:=by
 have hel:(es.map vI).length=es.length:=by simp
 refine qc func18 J J ntmps18 J J (fun C b m lo hmb=>?_);refine br J J J (fun hc15=>?_) (fun hc15=>?_)
 .
  have hf:aq es n a=(0,a):=by unfold aq;rw[dif_neg (by omega)]
  exact gO hmb J J (by rw[hf]<;>rfl) (by rw[hf]<;>rfl)
 .
  have hal:a<es.length:=by omega
  obtain⟨e,he⟩: ∃e,e=es[a]:=⟨_,rfl⟩;have q2:=Int.tmod_lt_of_pos e (show 0<n by omega);have q3: -n<Int.tmod e n:=by have:=Int.lt_tmod_of_pos e (show 0<n by omega);omega
  refine ix (fu:=⟨1⟩) _ J (Nm hal) J<|?_;refine ak 25 (.d (vI e)) J (by rw[he]<;>rfl) ?_;refine gx (hv:=by simp only[ab];exact⟨⟨by omega,by kernel_rfl⟩,by omega⟩) J<|?_;refine br J J J (fun hc36=>?_) (fun hc36=>?_)
  .
   have hf:aq es n a=((Int.tmod e n+n).toNat,a+1):=by unfold aq;rw[dif_pos hal,<-he,if_pos hc36]
   exact gO hmb J J (by rw[hf];show DV.v (.int .i64 _)=DV.v (.int .i64 _);rw[qJ (by omega)]) (by rw[hf]<;>rfl)
  .
   have hf:aq es n a=((Int.tmod e n).toNat,a+1):=by unfold aq;rw[dif_pos hal,<-he,if_neg hc36]
   exact gO hmb J J (by rw[hf];show DV.v (.int .i64 _)=DV.v (.int .i64 _);rw[qJ (by omega)]) (by rw[hf]<;>rfl)
def Ae{b:Nat}{es:List Int}(hes:es.length<=400){a:Nat}(ha:a<=es.length):PM GB prog 97 (f9 [none] b) b 126 [.sl (es.map vI), .v (.int .i64 (a:Nat))] (eP (iP (pF es a).1.1 (pF es a).1.2)) [.sl (es.map vI), .v (.int .i64 ((pF es a).2:Nat))]:=by
 have h1:=gG (es:=es) (n:=9) (a:=a) (by decide);have h2:=gG (es:=es) (n:=9) (a:=(aq es 9 a).2) (by decide);refine qc func97 J J ntmps97 J J (fun C b m lo hmb=>?_);refine cm J (fun b=>(lc (n:=9) hes ha (by decide) (by decide))) J<|cm J (fun b=>(lc (n:=9) hes (fw ha) (by decide) (by decide))) J<|?_;refine cl J (i5 (m:=((aq es 9 a).1:Int)-4) (n:=((aq es 9 (aq es 9 a).2).1:Int)-4) (by omega) (by omega)) J<|?_;exact gO hmb J J J J
def Ha{b:Nat}{es:List Int}(hes:es.length<=400){a:Nat}(ha:a<=es.length):PM GB prog 98 (f9 [none] b) b 126 [.sl (es.map vI), .v (.int .i64 (a:Nat))] (eP (iP (vF es a).1.1 (vF es a).1.2)) [.sl (es.map vI), .v (.int .i64 ((vF es a).2:Nat))]:=by
 obtain⟨hm,hn,ha1⟩:=qm ha;refine qc func98 J J ntmps98 J J (fun C b m lo hmb=>?_);refine cm (fu:=⟨9⟩) J (fun b=>(Ae hes ha)) J<|?_;refine ak 7 (.d (eP (iP 0 0))) J (by rw[OG]<;>rfl) ?_;refine gx J<|cl J (B9 (m:=(pF es a).1.1) (n:=(pF es a).1.2) (m':=0) (n':=0) (by omega) (by omega) (by decide) (by decide)) J<|?_;refine bd J J J (fun hc8=>?_) (fun hc8=>?_)
 .
  have hf:vF es a=((1,0),(pF es a).2):=by unfold vF;rw[if_pos hc8]
  refine cl J (i5 (m:=1) (n:=0) (by decide) (by decide)) J<|?_;exact gO hmb J J (by rw[hf]<;>rfl) (by rw[hf])
 .
  have hf:vF es a=pF es a:=by unfold vF;rw[if_neg hc8]
  exact gO hmb J J (by rw[hf]<;>rfl) (by rw[hf])
abbrev ZP:=Int×Int
def ZP.q(p:ZP):aa:=iP p.1 p.2
def ZP.le(k:Nat)(p:ZP):Prop:=p.1.natAbs<=k/\p.2.natAbs<=k
def qy(p q:ZP):ZP:=(p.1+1*q.1,p.2+1*q.2)
def mj(u v:ZP):Int:=u.1*v.2-u.2*v.1
theorem KQ{m n p q:Int}(hm:m.natAbs<=1000)(hn:n.natAbs<=1000)(hp:p.natAbs<=1000)(hq:q.natAbs<=1000)(h: ¬(p=m/\q=n)):LB (f5 m n p q)/\(f5 m n p q).ok:=by
 have e1:(gF n q).natAbs<=2000:=by unfold gF;omega
 have e2:(gz m p).natAbs<=2000:=by unfold gz;omega
 have e3:=IB e1 hm;have e4:=IB e2 hn;have e5:(lH m n p q).natAbs<=4000000:=by unfold lH;omega
 unfold f5;obtain⟨k1,k2,k3⟩:=GM (gF n q) (gz m p) (lH m n p q);have hb:(2:Nat)^96=79228162514264337593543950336:=by decide
 refine⟨⟨⟨?_,?_,?_⟩⟩,TC ?_⟩
 ·rw[hb];omega
 ·rw[hb];omega
 ·rw[hb];omega
 ·unfold gF gz;omega
def b6(v w:ZP):bg:=⟨f5 v.1 v.2 w.1 w.2,⟨de (f5 v.1 v.2 w.1 w.2) v.q,de (f5 v.1 v.2 w.1 w.2) w.q,false,false⟩⟩
def d4(r:List ZP)(i:Nat):ZP:=r.getD ((i+1)%r.length) (0,0)
def iB(r:List ZP):Nat->List bg
 |0=>[]
 |k+1=>iB r k++[b6 (r.getD k (0,0)) (d4 r k)]
def il(r:List ZP):List bg:=iB r r.length
structure dB (r:List ZP):Prop where
 n3:3<=r.length
 n6:r.length<=6
 le: ∀p∈r,ZP.le 100 p
 ne: ∀i<r.length,r.getD i (0,0)≠d4 r i
def ug{r:List ZP}{i:Nat}(h:i<r.length):r.getD i (0,0)∈r:=by
 rw[aJ,aZ h];exact jU h
def uO{r:List ZP}{i:Nat}(h:i<r.length):d4 r i∈r:=ug (cY _ (by omega))
theorem BQ.int1200{m:Int}(h:m.natAbs<=1000):BQ (m:Rat) 1200:=by
 haveI:BI m 11:=gu h (by decide);exact BQ.mono (inferInstance:BQ (m:Rat) 12) (by decide)
theorem IP{l:ah}(hl:LB l)(ho:l.ok){m n:Int}(hm:m.natAbs<=1000)(hn:n.natAbs<=1000):BQ (de l (iP m n)) 1200:=by
 haveI:=gu (k:=11) hm (by decide);haveI:=gu (k:=11) hn (by decide);have hd:=H9 ho.ne;have hA:BI (l.a*l.a+l.b*l.b) _:=inferInstance;have hB:BI (m*l.b-n*l.a) _:=inferInstance;have hA':=EF (j:=1200) hA (by decide);have hB':=EF (j:=1200) hB (by decide);have e1:l.dir.dot l.dir=((l.a*l.a+l.b*l.b:Int):Rat):=by
  rw[qQ,dW,dW];simp only[ah.dir,aa.dot];grind
 have e2:(iP m n).dot l.dir=((m*l.b-n*l.a:Int):Rat):=by
  rw[qZ,dW,dW];simp only[ah.dir,aa.dot,iP];grind
 have hd':((0:Int):Rat)<((l.a*l.a+l.b*l.b:Int):Rat):=by rw[<-e1];exact hd
 unfold de;rw[e2,e1];clear hA hB e1 e2;generalize l.a*l.a+l.b*l.b=D at*;generalize m*l.b-n*l.a=M at*;have hD:0<D:=pX.1 hd';refine BQ.of_fracI (n:=M) (D:=D) (by omega) ?_ hB' hA';have h0:(D:Rat)≠0:=fun e=>by rw[e] at hd';exact absurd hd' (by decide)
 have:((D.natAbs:Nat):Rat)=(D:Rat):=by
  have h1:((D.natAbs:Nat):Int)=D:=by omega
  rw[<-h1];rfl
 rw[this];grind
def F3{v w:ZP}(hv:ZP.le 100 v)(hw:ZP.le 100 w)(h:v≠w):tK (b6 v w):=by
 obtain⟨h1,h2⟩:=KQ (m:=v.1) (n:=v.2) (p:=w.1) (q:=w.2) (by have:=hv.1;omega) (by have:=hv.2;omega) (by have:=hw.1;omega) (by have:=hw.2;omega) (fun e=>h (Prod.ext e.1.symm e.2.symm));exact⟨h1,h2,⟨fun e=>(by cases e),fun e=>(by cases e)⟩,IP h1 h2 (by have:=hv.1;omega) (by have:=hv.2;omega),IP h1 h2 (by have:=hw.1;omega) (by have:=hw.2;omega)⟩
def IF{r:List ZP}(h:dB r): ∀{k:Nat},k<=r.length->(iB r k).length=k/\ ∀f∈iB r k,tK f
 |0,_=>⟨J,fun f hf=>by cases hf⟩
 |k+1,hk=>by
  obtain⟨h1,h2⟩:=IF h (k:=k) (by omega);rw[iB];refine⟨by simp[h1],fun f hf=>?_⟩;rcases cL.1 hf with hf|hf
  ·exact h2 f hf
  ·rw[aL] at hf;subst hf
   exact F3 (h.le _ (ug (by omega))) (h.le _ (uO (by omega))) (h.ne k (by omega))
def rp{r:List ZP}(h:dB r):(il r).length=r.length/\ ∀f∈il r,tK f:=IF h (aR _)
def c6(rs:List (List ZP)):List bg:=rs.flatMap il
def Bg: ∀{rs:List (List ZP)},(∀r∈rs,dB r)->(c6 rs).length<=6*rs.length/\ ∀f∈c6 rs,tK f
 |[],_=>⟨aR _,fun f hf=>by cases hf⟩
 |r::rs,h=>by
  obtain⟨h1,h2⟩:=Bg (rs:=rs) fun q hq=>h q (aV _ hq);obtain⟨k1,k2⟩:=rp (h r aQ);have:=(h r aQ).n6;unfold c6 at*;rw[List.flatMap_cons];refine⟨by rw[aT,k1,bN];omega,fun f hf=>?_⟩;rcases cL.1 hf with hf|hf
  ·exact k2 f hf
  ·exact h2 f hf
def o4(a b c:aa):Int:=(aa.cross (dx b a (-1)) (dx c a (-1))).num.sign
def tA(v w p:aa):Int:=
 (if bv v.y p.y<=0/\ ¬bv w.y p.y<=0/\0<o4 v w p then 1 else 0)-(if¬bv v.y p.y<=0/\bv w.y p.y<=0/\o4 v w p<0 then 1 else 0)
def pG(r:List ZP)(p:aa):Nat->Int
 |0=>0
 |k+1=>pG r p k+tA (r.getD k (0,0)).q (d4 r k).q p
def fI(r:List ZP)(p:aa):Int:=pG r p r.length
def mz(fill n:Int):Bool:=(decide (fill=1)&&decide (n.tmod 2≠0))||(decide (fill=2)&&decide (n≠0))
def ve(rs:List (List ZP))(fill:Int)(p:aa):Bool:=mz fill (rs.foldl (fun n r=>n+fI r p) 0)
def KB(rs:List (List ZP))(fill:Int):Tr:=x4 (ve rs fill) (c6 rs).length (c6 rs) []
def uW(rs:List (List ZP))(fill:Int):Tr:=(KB rs fill).restrict []
structure Pe (k:Nat) (t:Tr):Prop where
 gd:t.gd
 dp:t.depth<=k
 am: ∃K:List ah,K.length<=k/\(∀l∈K,l.ok)/\Mo K t
end Go.Sx
end
