import Derived.Test.YtefoocgiaegobaaGreatDoorPc11
import Derived.WalkKit
import Derived.LaidEql
import Derived.Stop.Asserts
import Derived.RowKitTokens
set_option linter.all false
set_option maxHeartbeats 1000000
set_option maxRecDepth 100000
section
namespace Go.Sx
open Go Go.Proofs Tryz
variable {GB:Gh}
def Km{m:Int}{g:Nat}(hg:(g:Int)∣m)(hb:m.natAbs<4611686018427387904):IntKind.i64.wrap (m.tdiv g)=m/g:=by
 rw[Int.tdiv_eq_ediv_of_dvd hg];have:=lU m g;exact TL (by omega)
def tm(a b:Int):Int:=if(a*b).natAbs<4611686018427387904 then a*b else 0
def Dh(a b:Int):(tm a b).natAbs<4611686018427387904:=by unfold tm;split<;>omega
def tR{a b:Int}(h:(a*b).natAbs<4611686018427387904):tm a b=a*b:=if_pos h
def DO{a b:Int}(h: ¬(a*b).natAbs<4611686018427387904):DV.tp [vI 0, .v (.bool false)]= .tp [vI (tm a b),vB (decide ((a*b).natAbs<4611686018427387904))]:=by unfold tm;rw[if_neg h,decide_eq_false h];rfl
def Do{a b:Int}{x:Int}(h:(a*b).natAbs<4611686018427387904)(e:x=a*b):DV.tp [vI x, .v (.bool true)]= .tp [vI (tm a b),vB (decide ((a*b).natAbs<4611686018427387904))]:=by unfold tm;rw[if_pos h,decide_eq_true h,e];rfl
def GN(n:Nat):eI (n:Int)= .ag [.v (.bool false),dN n]:=by unfold eI;rw[decide_eq_false (by omega),kQ]
def Tu{p q:Rat}(hp:p.den=1)(hq:q.den=1):rgcd p q=((Nat.gcd p.num.natAbs q.num.natAbs:Nat):Int):=by
 conv=>lhs;rw[xI hp,xI hq]
 exact Cd _ _
def Tn(q:Rat):mkRat (zv (decide (q.num<0)) q.den) q.num.natAbs=q⁻¹:=by
 rw[Rat.inv_def];by_cases h:q.num<0
 ·rw[decide_eq_true h];exact PL h
 ·rw[decide_eq_false h,<-Rat.divInt_ofNat,lS (by omega)];rfl
instance BQ.inv (q:Rat) (i:Nat) [h:BQ q i]:BQ q⁻¹ i:=by
 have h1:=h.hn;have h2:=h.hd;have h3:=q.den_nz;rcases lL q.num 0 with k|k|k
 ·obtain⟨e1,e2⟩:=KF k;exact⟨by omega,by omega⟩
 ·have e:q=0:=kU.1 k
  have e0:(0:Rat)⁻¹=0:=Rat.inv_zero;rw[e] at h1 h2⊢;rw[e0];exact⟨h1,h2⟩
 ·obtain⟨e1,e2⟩:=JB k;exact⟨by omega,by omega⟩
instance BQ.half:BQ (mkRat 1 2) 2:=⟨by decide,by decide⟩
def Qk{x y:Nat}(hx:x<18446744073709551616)(hy:y<18446744073709551616):PF GB prog 359 [.v (.int .u64 (x:Nat)), .v (.int .u64 (y:Nat))] (.tp [.v (.int .u64 ((x*y/18446744073709551616:Nat):Int)), .v (.int .u64 ((x*y%18446744073709551616:Nat):Int))]):=fun G vs _ hv=>by
 obtain⟨v,m,rfl,h1,h2⟩:=bD.1 hv;obtain⟨u,m',rfl,h3,h4⟩:=bD.1 h2
 cases cp.1 h4
 rw[bc.1 h1,bc.1 h3];exact(Qp hx hy).mono fun v G' _ h=>by subst h;exact kH.2 ⟨_,J, .cons (bc.2 J) (.cons (bc.2 J) .nil)⟩
def Kh{a b:Nat}(ha:a<18446744073709551616)(hb:b<18446744073709551616):PF GB prog 349 [.v (.int .u64 (a:Nat)), .v (.int .u64 (b:Nat))] (.v (.int .u64 (Nat.gcd a b:Nat))):=by
 refine fn func349 J J ntmps349 J J (fun C=>?_);refine lp (X:=Nat×Nat) (fun⟨u,v⟩=>[(1, .d (.v (.int .u64 (v:Nat)))),(0, .d (.v (.int .u64 (u:Nat))))]) (fun⟨u,v⟩=>[]) (fun⟨u,v⟩=>u<18446744073709551616/\v<18446744073709551616/\Nat.gcd u v=Nat.gcd a b) (fun⟨u,v⟩=>v) (a,b) J ⟨ha,hb,J⟩ (fun _=>J) (fun⟨u,v⟩ hk=>?_);dsimp only at hk⊢;obtain⟨h1,h2,h3⟩:=hk;refine br (v1:=fun hc6=>by simp only[ah];exact⟨by omega,by kernel_rfl⟩) J J J (fun hc6=>?_) (fun hc6=>?_)
 .
  have hm:=cV u (show 0<v by omega);exact at_ (v,u%v) (by dsimp only;exact⟨⟨h2,by omega,by rw[<-h3,fN u v,qL v u,fN]⟩,hm⟩)
 .
  exact rz J (by rw[<-h3,show v=0 by omega,lJ];rfl)
def tF{m:Int}(h:m.natAbs<9223372036854775808):PF GB prog 199 [vI m] (eF (m:Rat)):=by
 refine fn func199 J J ntmps199 J J (fun C=>?_);refine cs 5 J J J (fun hg5=>?_) (fun hg5=>?_)
 .
  refine cl J (A3 (m:=m) (by omega) (by omega)) J<|rf (fu:=⟨0⟩) J J<|?_;refine aj 11 (.d (dN 1)) J (by unfold dN;rw[wA];rfl) ?_;refine gx J<|cl J (qB (n:=decide (m<0)) (a:=m.natAbs) (i:=63) (h:=⟨h⟩) (d:=1)) J<|?_;exact rz J (by rw[jm,show mkRat m 1=(m:Rat) from Rat.mkRat_one ..];rfl)
 .
  refine br J J J (fun hc8=>?_) (fun hc8=>?_)
  .
   refine cl J (A3 (m:=m) (by omega) (by omega)) J<|rf (fu:=⟨0⟩) J J<|?_;refine aj 11 (.d (dN 1)) J (by unfold dN;rw[wA];rfl) ?_;refine gx J<|cl J (qB (n:=decide (m<0)) (a:=m.natAbs) (i:=63) (h:=⟨h⟩) (d:=1)) J<|?_;exact rz J (by rw[jm,show mkRat m 1=(m:Rat) from Rat.mkRat_one ..];rfl)
  .
   exact ig J (Fy (by omega))
def uQ{a b:Int}(ha:a.natAbs<4611686018427387904)(hb:b.natAbs<4611686018427387904):PF GB prog 299 [vI a,vI b] (.tp [vI (tm a b),vB (decide ((a*b).natAbs<4611686018427387904))]):=by
 have hab:=gQ a b;refine fn func299 J J ntmps299 J J (fun C=>?_);refine cl J (uH (m:=a) (by omega)) J<|cl J (uH (m:=b) (by omega)) J<|cl J (Qk (x:=a.natAbs) (y:=b.natAbs) (by omega) (by omega)) J<|?_;refine cs 18 J J J (fun hg18=>?_) (fun hg18=>?_)
 .
  exact rz J (DO (by omega))
 .
  refine br J J J (fun hc21=>?_) (fun hc21=>?_)
  .
   exact rz J (DO (by omega))
  .
   refine bb J J J (fun hc26=>?_) (fun hc26=>?_)
   .
    have hs:=KD a b;rw[if_neg (by simpa using hc26)] at hs;exact rz J (Do (by omega) (by rw[hs,<-hab];omega))
   .
    have hs:=KD a b;rw[if_pos (by simpa using hc26)] at hs;exact rz J (Do (by omega) (by rw[hs,<-hab];omega))
def IQ{m:Int}{d:Nat}(h:m.natAbs<4611686018427387904)(h0:0<d)(hd:d<4611686018427387904):PF GB prog 300 [vI m,vI (d:Nat)] (eF (mkRat m d)):=by
 have hg:Nat.gcd m.natAbs d<=d:=Nat.gcd_le_right _ h0;have hg0:0<Nat.gcd m.natAbs d:=mZ _ h0;obtain⟨e1,e2⟩:=Ec (m:=m) h0;have e3:=lU m (Nat.gcd m.natAbs d:Nat);have e4:=iL d (Nat.gcd m.natAbs d);have e5:=Nat.div_pos hg hg0;refine fn func300 J J ntmps300 J J (fun C=>?_);refine cl J (uH (m:=m) (by omega)) J<|cl J (Kh (a:=m.natAbs) (b:=d) (by omega) (by omega)) J<|?_;refine br (fu1:=⟨4⟩) J J J (fun hc13=>?_) (fun hc13=>?_)
 .
  refine aj 16 (.d (vI (m/(Nat.gcd m.natAbs d:Nat)))) J (by rw[Km (Int.dvd_natAbs.1 (oM.2 (iY _ _))) h];rfl) ?_;refine gx (fu:=⟨3⟩) J<|?_;refine aj 19 (.d (vI ((d/Nat.gcd m.natAbs d:Nat)))) J (by rw[Km (oM.2 (jR _ _)) (by rw[kQ];exact hd)];rfl) ?_;refine gx (hv:=by simp only[ah];exact⟨by kernel_rfl,by omega⟩) J<|?_;exact ig J (oO (fun k=>k ⟨by rw[e1];omega,by rw[e2];omega⟩) e1 (by rw[e2]) J)
 .
  exact ig J (by have h1:Nat.gcd m.natAbs d=1:=(by omega);rw[h1,qM] at e2;rw[h1,Int.natCast_one,Int.ediv_one] at e1;exact oO (fun k=>k ⟨by rw[e1];omega,by rw[e2];omega⟩) e1 (by rw[e2]) J)
def oF{p q:Rat}{i j:Nat}[h:BQ p i][k:BQ q j](hi:i<=100000000:=by decide)(hj:j<=100000000:=by decide):PF GB prog 207 [eF p,eF q] (eF (p*q)):=by
 refine fn (fu:=⟨8⟩) func207 J J ntmps207 J J (fun C=>?_);refine mg (X:=Unit) (fun _=>[(2, .ov 2 0),(3, .ov 3 0),(4, .ov 4 0)]) (fun _=>[(2,some (.o 139 [.d (vI (di p)), .d (vI (c7 p)), .d (cH p)] true)),(3,some (.o 139 [.d (vI (di q)), .d (vI (c7 q)), .d (cH q)] true)),(4,some (.o 139 [.d (.v (.int .i64 0)), .d (.v (.int .i64 0)), .d (.v (.pointer none))] true))]) (fun _=>True) [2,3,4] [2,3,4] rfl ?_ (fun _=>J) (fun _ _=>?_)
 .
  refine gx J<|?_;refine cs 12 J J J (fun hg12=>?_) (fun hg12=>?_)
  .
   refine br (fu1:=⟨4⟩) J J J (fun hc16=>?_) (fun hc16=>?_)
   .
    have hp:=oq hg12;have hq:=oq hc16;have p1:=jH hp;have p2:=lg hp;have p3:=l7 hp;have p4:=lI hp;have p5:=p.den_nz;have q1:=jH hq;have q2:=lg hq;have q3:=l7 hq;have q4:=lI hq;have q5:=q.den_nz;refine aj 19 (.d (vI p.num)) J (by rw[p1]) ?_;refine gx (fu:=⟨2⟩) J<|?_;refine aj 21 (.d (vI q.num)) J (by rw[q1]) ?_;refine gx J<|cl (fu:=⟨12⟩) J (uQ (a:=p.num) (b:=q.num) (by omega) (by omega)) J<|?_;refine aj 28 (.d (vI (p.den:Nat))) J (by congr 3;omega) ?_;refine gx (fu:=⟨3⟩) J<|?_;refine aj 31 (.d (vI (q.den:Nat))) J (by congr 3;omega) ?_;refine gx J<|cl J (uQ (a:=(p.den:Nat)) (b:=(q.den:Nat)) (by omega) (by omega)) J<|?_;refine csd 36 J J J (fun hg36=>?_) (fun hg36=>?_)
    .
     refine bd (fu1:=⟨3⟩) J J J (fun hc38=>?_) (fun hc38=>?_)
     .
      have hd1:p.den*q.den<4611686018427387904:=by omega
      refine aj 39 (.d (vI (p.num*q.num))) J (by rw[tR hg36]) ?_;refine gx (fu:=⟨1⟩) J<|?_;refine aj 40 (.d (vI ((p.den*q.den:Nat)))) J (by rw[tR hc38];rfl) ?_;refine gx J<|cl J (IQ (m:=p.num*q.num) (d:=p.den*q.den) hg36 (gX (by omega) (by omega)) hd1) J<|?_;exact rz J (by rw[<-t7];rfl)
     .
      exact at_ () trivial
    .
     exact at_ () trivial
   .
    exact at_ () trivial
  .
   exact at_ () trivial
 .
  refine cl J (mP (q:=p) (by omega)) J<|cl J (mP (q:=q) (by omega)) J<|cl J (A0 (a:=p.num) (b:=q.num) (by omega) (by omega)) J<|?_;refine cl J (lH (q:=p) (by omega)) J<|cl J (lH (q:=q) (by omega)) J<|cl J (r8 (a:=p.den) (b:=q.den) (by omega) (by omega)) J<|?_;refine cl J (qB (n:=decide (p.num*q.num<0)) (a:=(p.num*q.num).natAbs) (d:=p.den*q.den) (i:=i+j) (j:=i+j) (by omega) (by omega)) J<|?_;exact rz J (by rw[jm,<-t7];rfl)
def tQ{p q:Rat}{i j:Nat}[h:BQ p i][k:BQ q j](hi:i<=100000000:=by decide)(hj:j<=100000000:=by decide):PF GB prog 208 [eF p,eF q] (eF (p+q)):=by
 refine fn (fu:=⟨8⟩) func208 J J ntmps208 J J (fun C=>?_);refine mg (X:=Unit) (fun _=>[(2, .ov 2 0),(3, .ov 3 0),(4, .ov 4 0)]) (fun _=>[(2,some (.o 139 [.d (vI (di p)), .d (vI (c7 p)), .d (cH p)] true)),(3,some (.o 139 [.d (vI (di q)), .d (vI (c7 q)), .d (cH q)] true)),(4,some (.o 139 [.d (.v (.int .i64 0)), .d (.v (.int .i64 0)), .d (.v (.pointer none))] true))]) (fun _=>True) [2,3,4] [2,3,4] rfl ?_ (fun _=>J) (fun _ _=>?_)
 .
  refine gx J<|?_;refine cs 16 J J J (fun hg16=>?_) (fun hg16=>?_)
  .
   refine br (fu1:=⟨1⟩) J J J (fun hc20=>?_) (fun hc20=>?_)
   .
    have hp:=oq hg16;have hq:=oq hc20;have p1:=jH hp;have p2:=lg hp;have p3:=l7 hp;have p4:=lI hp;have p5:=p.den_nz;have q1:=jH hq;have q2:=lg hq;have q3:=l7 hq;have q4:=lI hq;have q5:=q.den_nz;refine mg (fu:=⟨4⟩) (X:=Unit) (fun _=>[(2, .ov 2 0),(3, .ov 3 0),(4, .ov 4 0)]) (fun _=>[(2,some (.o 139 [.d (vI (di p)), .d (vI (c7 p)), .d (cH p)] true)),(3,some (.o 139 [.d (vI (di q)), .d (vI (c7 q)), .d (cH q)] true)),(4,some (.o 139 [.d (.v (.int .i64 0)), .d (.v (.int .i64 0)), .d (.v (.pointer none))] true))]) (fun _=>True) [2,3,4] [2,3,4] rfl ?_ (fun _=>J) (fun _ _=>?_)
    .
     refine gx J<|?_;refine cs 24 J J J (fun hg24=>?_) (fun hg24=>?_)
     .
      refine br (fu1:=⟨4⟩) J J J (fun hc28=>?_) (fun hc28=>?_)
      .
       refine aj 30 (.d (vI p.num)) J (by rw[p1]) ?_;refine gx (fu:=⟨2⟩) J<|?_;refine aj 32 (.d (vI q.num)) J (by rw[q1]) ?_;refine gx J<|cl J (tF (m:=p.num+q.num) (by omega)) J<|?_;exact rz J (by rw[xI (q:=p) (by omega),xI (q:=q) (by omega),<-qZ];rfl)
      .
       exact at_ () trivial
     .
      exact at_ () trivial
    .
     refine aj 37 (.d (vI p.num)) J (by rw[p1]) ?_;refine gx (fu:=⟨3⟩) J<|?_;refine aj 40 (.d (vI (q.den:Nat))) J (by congr 3;omega) ?_;refine gx J<|cl (fu:=⟨11⟩) J (uQ (a:=p.num) (b:=(q.den:Nat)) (by omega) (by omega)) J<|?_;refine aj 46 (.d (vI q.num)) J (by rw[q1]) ?_;refine gx (fu:=⟨3⟩) J<|?_;refine aj 49 (.d (vI (p.den:Nat))) J (by congr 3;omega) ?_;refine gx J<|cl (fu:=⟨12⟩) J (uQ (a:=q.num) (b:=(p.den:Nat)) (by omega) (by omega)) J<|?_;refine aj 56 (.d (vI (p.den:Nat))) J (by congr 3;omega) ?_;refine gx (fu:=⟨3⟩) J<|?_;refine aj 59 (.d (vI (q.den:Nat))) J (by congr 3;omega) ?_;refine gx J<|cl (fu:=⟨3⟩) J (uQ (a:=(p.den:Nat)) (b:=(q.den:Nat)) (by omega) (by omega)) J<|?_;have t1:=Dh p.num (q.den:Nat);have t2:=Dh q.num (p.den:Nat);have t3:=Dh (p.den:Nat) (q.den:Nat);refine gx J<|?_;refine csd 67 J J J (fun hg67=>?_) (fun hg67=>?_)
     .
      refine csd 70 J J J (fun hg70=>?_) (fun hg70=>?_)
      .
       refine csd 73 J J J (fun hg73=>?_) (fun hg73=>?_)
       .
        refine cs 77 J J J (fun hg77=>?_) (fun hg77=>?_)
        .
         refine br (fu1:=⟨3⟩) J J J (fun hc80=>?_) (fun hc80=>?_)
         .
          have u1:=tR hg67;have u2:=tR hg70;have u3:=tR hg73;have hd1:p.den*q.den<4611686018427387904:=by omega
          refine aj 81 (.d (vI (p.num*(q.den:Nat)+q.num*(p.den:Nat)))) J (by rw[u1,u2];rfl) ?_;refine gx (fu:=⟨1⟩) J<|?_;refine aj 82 (.d (vI ((p.den*q.den:Nat)))) J (by rw[u3];rfl) ?_;refine gx J<|cl J (IQ (m:=p.num*(q.den:Nat)+q.num*(p.den:Nat)) (d:=p.den*q.den) (by omega) (gX (by omega) (by omega)) hd1) J<|?_;exact rz J (by rw[<-tP];rfl)
         .
          exact at_ () trivial
        .
         exact at_ () trivial
       .
        exact at_ () trivial
      .
       exact at_ () trivial
     .
      exact at_ () trivial
   .
    exact at_ () trivial
  .
   exact at_ () trivial
 .
  refine cl J (mP (q:=p) (by omega)) J<|cl (fu:=⟨1⟩) J (lH (q:=q) (by omega)) J<|?_;refine aj 88 (.d (eI (q.den:Nat))) J (by rw[GN]) ?_;refine gx J<|cl J (A0 (a:=p.num) (b:=(q.den:Nat)) (by omega) (by omega)) J<|cl J (mP (q:=q) (by omega)) J<|cl (fu:=⟨1⟩) J (lH (q:=p) (by omega)) J<|?_;refine aj 94 (.d (eI (p.den:Nat))) J (by rw[GN]) ?_;refine gx J<|cl J (A0 (a:=q.num) (b:=(p.den:Nat)) (by omega) (by omega)) J<|cl J (Oh (a:=p.num*(q.den:Nat)) (b:=q.num*(p.den:Nat)) (i:=i+j) (j:=j+i) (by omega) (by omega)) J<|?_;refine cl J (lH (q:=p) (by omega)) J<|cl J (lH (q:=q) (by omega)) J<|cl J (r8 (a:=p.den) (b:=q.den) (by omega) (by omega)) J<|?_;refine cl J (qB (n:=decide (p.num*(q.den:Nat)+q.num*(p.den:Nat)<0)) (a:=(p.num*(q.den:Nat)+q.num*(p.den:Nat)).natAbs) (d:=p.den*q.den) (i:=i+j+(j+i)+1) (j:=i+j) (by omega) (by omega)) J<|?_;exact rz J (by rw[jm,<-tP];rfl)
def sd{p q:Rat}{i j:Nat}[h:BQ p i][k:BQ q j](hi:i<=100000000:=by decide)(hj:j<=100000000:=by decide):PF GB prog 334 [eF p,eF q] (eF (p-q)):=by
 refine fn func334 J J ntmps334 J J (fun C=>?_);refine cl J (lO (q:=q) (by omega)) J<|cl J (tQ (p:=p) (q:= -q) (by omega) (by omega)) J<|?_;exact rz J (by rw[<-Rat.sub_eq_add_neg];rfl)
def xi{q:Rat}{i:Nat}[h:BQ q i](hi:i<=400000000:=by decide):PF GB prog 127 [eF q] (eF q⁻¹):=by
 refine fn func127 J J ntmps127 J J (fun C=>?_);refine br (v1:=fun hc3=>by simp only[ah];exact⟨⟨hc3,hc3⟩,hc3⟩) J J J (fun hc3=>?_) (fun hc3=>?_)
 .
  refine cl J (qB (n:=decide (q.num<0)) (a:=q.den) (d:=q.num.natAbs) (by omega) (by omega)) J<|?_;exact rz J (by rw[Tn];rfl)
 .
  have q1:=jH (kx hc3);have q2:=lg (kx hc3);have q3:=l7 (kx hc3);have q4:=lI (kx hc3);have q5:=q.den_nz;refine br J J J (fun hc26=>?_) (fun hc26=>?_)
  .
   exact ig rfl (by obtain⟨e1,e2⟩:=KF (q:=q) (by omega);exact oO (fun k=>k ⟨by omega,by omega⟩) (by omega) (by omega) rfl)
  .
   refine br J J J (fun hc39=>?_) (fun hc39=>?_)
   .
    exact ig J (by rw[kU.1 (show q.num=0 by omega),Rat.inv_zero];exact sI)
   .
    exact ig rfl (by obtain⟨e1,e2⟩:=JB (q:=q) (by omega);exact oO (fun k=>k ⟨by omega,by omega⟩) (by omega) (by omega) rfl)
def vp{p q:Rat}{i j:Nat}[h:BQ p i][k:BQ q j](hi:i<=100000000:=by decide)(hj:j<=100000000:=by decide):PF GB prog 304 [eF p,eF q] (eF (p/q)):=by
 refine fn func304 J J ntmps304 J J (fun C=>?_);refine cl J (xi (q:=q) (by omega)) J<|cl J (oF (p:=p) (q:=q⁻¹) (by omega) (by omega)) J<|?_;exact rz J (by rw[Rat.div_def];rfl)
def Ml{G:Gh}{q r:DV}{t:List DV}{vs:List Value}(h: ∀y,Is G r y->Is G q y)(hv:IsLs G (r::t) vs):IsLs G (q::t) vs:=by
 obtain⟨y,m,rfl,h1,h2⟩:=bD.1 hv;exact .cons (h _ h1) h2
def Ui{G:Gh}{a q r:DV}{t:List DV}{vs:List Value}(h: ∀y,Is G r y->Is G q y)(hv:IsLs G (a::r::t) vs):IsLs G (a::q::t) vs:=by
 obtain⟨y,m,rfl,h1,h2⟩:=bD.1 hv;exact .cons h1 (Ml h h2)
def Rf{q:Rat}{i:Nat}[h:BQ q i](hi:i<=100000000:=by decide):PF GB prog 207 [eF q, .ag [vI 1,vI 1, .v (.pointer none)]] (eF (q*mkRat 1 2)):=
 (oF (p:=q) (q:=mkRat 1 2) hi).ofI fun G vs hv=>Ui (fun y hy=>oO (q:=mkRat 1 2) (fun k=>k ⟨by decide,by decide⟩) (by decide) (by decide) J G y hy) hv
def MI{q:Rat}{i:Nat}[h:BQ q i](hi:i<=100000000:=by decide):PF GB prog 214 [eF q] (eF (q*mkRat 1 2)):=by
 refine fn func214 J J ntmps214 J J (fun C=>?_);refine cl J (Rf (q:=q) (by omega)) J<|?_;exact rz J J
def ij{p q:Rat}{i j:Nat}[h:BQ p i][k:BQ q j](hi:i<=100000000:=by decide)(hj:j<=100000000:=by decide):PF GB prog 232 [eF p,eF q] (vI (bt p q)):=by
 refine fn func232 J J ntmps232 J J (fun C=>?_);refine cs 8 J J J (fun hg8=>?_) (fun hg8=>?_)
 .
  refine cs 13 J J J (fun hg13=>?_) (fun hg13=>?_)
  .
   refine br J J J (fun hc19=>?_) (fun hc19=>?_)
   .
    have hp:=oq hg8;have hq:=oq hg13;have p1:=jH hp;have p2:=lg hp;have p3:=l7 hp;have p4:=lI hp;have p5:=p.den_nz;have q1:=jH hq;have q2:=lg hq;have q3:=l7 hq;have q4:=lI hq;have q5:=q.den_nz;have hl:=JY (a:=p) (b:=q) (by omega);have hr:=JY (a:=q) (b:=p) (by omega);unfold bt;refine br J J J (fun hc20=>?_) (fun hc20=>?_)
    .
     exact rz J (by rw[if_pos (hl.2 (by omega))];rfl)
    .
     refine br J J J (fun hc26=>?_) (fun hc26=>?_)
     .
      exact rz J (by rw[if_neg (fun e=>by have:=hl.1 e;omega),if_pos (hr.2 (by omega))];rfl)
     .
      exact rz J (by rw[if_neg (fun e=>by have:=hl.1 e;omega),if_neg (fun e=>by have:=hr.1 e;omega)];rfl)
   .
    refine cl J (sd (p:=p) (q:=q) (by omega) (by omega)) J<|cl J (jj (q:=p-q) (by omega)) J<|?_;exact rz J (by rw[ym];rfl)
  .
   refine cl J (sd (p:=p) (q:=q) (by omega) (by omega)) J<|cl J (jj (q:=p-q) (by omega)) J<|?_;exact rz J (by rw[ym];rfl)
 .
  refine cl J (sd (p:=p) (q:=q) (by omega) (by omega)) J<|cl J (jj (q:=p-q) (by omega)) J<|?_;exact rz J (by rw[ym];rfl)
def Gu{p q:Rat}{i j:Nat}[h:BQ p i][k:BQ q j](hi:i<=100000000:=by decide)(hj:j<=100000000:=by decide):PF GB prog 273 [eF p,eF q] (vB (decide (p=q))):=by
 refine fn func273 J J ntmps273 J J (fun C=>?_);refine cl J (ij (p:=p) (q:=q) hi hj) J<|?_;exact rz J (by show DV.v (.bool (decide _))= .v (.bool _);congr 2;exact decide_eq_decide.2 (qi p q))
def QM{p q:Rat}{i j:Nat}[h:BQ p i][k:BQ q j](hi:i<=100000000:=by decide)(hj:j<=100000000:=by decide):PF GB prog 288 [eF p,eF q] (eF (if q<p then q else p)):=by
 refine fn func288 J J ntmps288 J J (fun C=>?_);refine cl J (ij (p:=q) (q:=p) hj hi) J<|?_;refine br J J J (fun hc8=>?_) (fun hc8=>?_)
 .
  exact rz J (by rw[if_pos ((H9 q p).1 hc8)];rfl)
 .
  exact rz J (by rw[if_neg (fun e=>hc8 ((H9 q p).2 e))];rfl)
def vg{p q:Rat}{i j:Nat}[h:BQ p i][k:BQ q j](hi:i<=100000000:=by decide)(hj:j<=100000000:=by decide):PF GB prog 272 [eF p,eF q] (eF (rgcd p q)):=by
 refine fn (fu:=⟨8⟩) func272 J J ntmps272 J J (fun C=>?_);refine mg (X:=Unit) (fun _=>[(2, .ov 2 0),(3, .ov 3 0),(4, .ov 4 0)]) (fun _=>[(2,some (.o 139 [.d (vI (di p)), .d (vI (c7 p)), .d (cH p)] true)),(3,some (.o 139 [.d (vI (di q)), .d (vI (c7 q)), .d (cH q)] true)),(4,some (.o 139 [.d (.v (.int .i64 0)), .d (.v (.int .i64 0)), .d (.v (.pointer none))] true))]) (fun _=>True) [2,3,4] [2,3,4] rfl ?_ (fun _=>J) (fun _ _=>?_)
 .
  refine gx J<|?_;refine cs 10 J J J (fun hg10=>?_) (fun hg10=>?_)
  .
   refine cs 15 J J J (fun hg15=>?_) (fun hg15=>?_)
   .
    have hp:=oq hg10;have hq:=oq hg15;have p1:=jH hp;have p2:=lg hp;have p3:=l7 hp;have p4:=lI hp;have p5:=p.den_nz;have q1:=jH hq;have q2:=lg hq;have q3:=l7 hq;have q4:=lI hq;have q5:=q.den_nz;refine cs 20 J J J (fun hg20=>?_) (fun hg20=>?_)
    .
     refine br (fu1:=⟨4⟩) J J J (fun hc24=>?_) (fun hc24=>?_)
     .
      have hg:=Uo p3 q3;refine aj 26 (.d (vI p.num)) J (by rw[p1]) ?_;refine gx J<|cl (fu:=⟨2⟩) J (uH (m:=p.num) (by omega)) J<|?_;refine aj 29 (.d (vI q.num)) J (by rw[q1]) ?_;refine gx J<|cl J (uH (m:=q.num) (by omega)) J<|cl (hv:=by simp only[ah];exact⟨by omega,by kernel_rfl⟩) J (Kh (a:=p.num.natAbs) (b:=q.num.natAbs) (by omega) (by omega)) J<|?_;exact ig J (by rw[Tu (p:=p) (q:=q) (by omega) (by omega)];exact Fy (by rw[kQ];exact hg))
     .
      exact at_ () trivial
    .
     exact at_ () trivial
   .
    exact at_ () trivial
  .
   exact at_ () trivial
 .
  refine cl J (lH (q:=p) (by omega)) J<|cl J (lH (q:=q) (by omega)) J<|cl J (r8 (a:=p.den) (b:=q.den) (by omega) (by omega)) J<|?_;refine cl J (mP (q:=p) (by omega)) J<|cl J (lH (q:=q) (by omega)) J<|cl J (r8 (a:=p.num.natAbs) (b:=q.den) (by omega) (by omega)) J<|?_;refine cl J (mP (q:=q) (by omega)) J<|cl J (lH (q:=p) (by omega)) J<|cl J (r8 (a:=q.num.natAbs) (b:=p.den) (by omega) (by omega)) J<|?_;refine cl J (Db (a:=p.num.natAbs*q.den) (b:=q.num.natAbs*p.den) (i:=i+j) (j:=j+i) (by omega) (by omega)) J<|cl J (qB (n:=false) (a:=Nat.gcd (p.num.natAbs*q.den) (q.num.natAbs*p.den)) (d:=p.den*q.den) (i:=i+j+(j+i)) (j:=i+j) (by omega) (by omega)) J<|?_;exact rz J J
end Go.Sx
end
section
namespace Go.Sx
open Go
def crossI(l m:ab):Int:=l.a*m.b-m.a*l.b
def meetX(l m:ab):Int:=l.b*m.c-m.b*l.c
def meetY(l m:ab):Int:=m.a*l.c-l.a*m.c
def mc(l m:ab):aa:=if crossI l m=0 then⟨0,0⟩ else⟨(meetX l m:Rat)/(crossI l m:Rat),(meetY l m:Rat)/(crossI l m:Rat)⟩
def dl(l:ab)(p:aa):Rat:=p.dot l.dir/l.dir.dot l.dir
def Iv(l:ab):l.dir.dot l.dir=l.nor.dot l.nor:=by
 simp only[ab.dir,ab.nor,aa.dot];grind
def Bd{l:ab}(h:l.Ne):0<l.dir.dot l.dir:=by rw[Iv];exact vl h
def L5{l:ab}:(⟨-((l.c:Rat)/l.dir.dot l.dir)*(l.a:Rat), -((l.c:Rat)/l.dir.dot l.dir)*(l.b:Rat)⟩:aa)=l.base:=by
 unfold ab.base;rw[Iv];simp only[ab.nor,aa.scale,aa.mk.injEq];constructor<;>grind
def rk(l:ab)(t:Rat):cC l.base l.dir t=l.at t:=by
 simp only[cC,ab.at,aa.add,aa.scale,aa.mk.injEq];constructor<;>grind
def SC(v:bi)(t:Rat):bi:=if v.nl=true\/0<bt t v.lo then⟨t,v.hi,false,v.nh⟩ else v
def O0(v:bi)(t:Rat):bi:=if v.nh=true\/bt t v.hi<0 then⟨v.lo,t,v.nl,false⟩ else v
structure xw (v:bi):Prop where
 lo:v.nl=true->v.lo=0
 hi:v.nh=true->v.hi=0
def IK(a b:Rat):0<bt a b↔b<a:=by
 unfold bt;split
 ·constructor
  ·intro h;exact absurd h (by decide)
  ·intro h;grind
 ·split
  ·exact⟨fun _=>by assumption,fun _=>by decide⟩
  ·constructor
   ·intro h;exact absurd h (by decide)
   ·intro h;exact absurd h (by assumption)
def Nv(a b:Rat):bt a b<0↔a<b:=by
 unfold bt;split
 ·exact⟨fun _=>by assumption,fun _=>by decide⟩
 ·split
  ·constructor
   ·intro h;exact absurd h (by decide)
   ·intro h;grind
  ·constructor
   ·intro h;exact absurd h (by decide)
   ·intro h;exact absurd h (by assumption)
end Go.Sx
end
section
namespace Go.Sx
open Go Go.Proofs Tryz
variable {GB:Gh}

def cT:Tr->List DV
 | .leaf b=>[.v (.bool true), .v (.bool b), .v (.bool false), .sl [], .v (.bool false), .sl [], .v (.bool false), .sl [], .v (.pointer none), .v (.pointer none)]
 | .node l x y=>[.v (.bool false), .v (.bool false), .v (.bool (decide (l.a<0))),dN l.a.natAbs, .v (.bool (decide (l.b<0))),dN l.b.natAbs, .v (.bool (decide (l.c<0))),dN l.c.natAbs, .pt (cT x), .pt (cT y)]
def eT(t:Tr):DV:= .pt (cT t)
def eN(n:NQ):DV:= .ag [.v (.bool (decide (n.l.a<0))),dN n.l.a.natAbs, .v (.bool (decide (n.l.b<0))),dN n.l.b.natAbs, .v (.bool (decide (n.l.c<0))),dN n.l.c.natAbs, .v (.int .i64 n.a), .v (.int .i64 n.b)]
def eA(t:Tr):DV:= .ag [.v (.int .i64 (t.num 0)), .sl ((t.wr 0).map eN)]
structure BL (l:ab) (k:Nat):Prop where
 a:l.a.natAbs<2^k
 b:l.b.natAbs<2^k
 c:l.c.natAbs<2^k
structure LS (l:ab):Prop where
 ok:l.ok
 a:l.a.natAbs<=4
 b:l.b.natAbs<=4
 c:l.c.natAbs<=40000
def T5{xs:List ab}{i:Nat}(h:i<xs.length):(xs.map eL)[(i:Int).toNat]? =some (eL xs[i]):=by simp[h]
def UM(xs:List ab):(xs.map eL).length=xs.length:=aX ..
def Rj{a b:Int}(h:decide (a<0)=decide (b<0)):decide (a.natAbs=b.natAbs)=decide (a=b):=by
 have h':a<0↔b<0:=by simpa using h
 exact decide_eq_decide.2 ⟨fun e=>by omega,fun e=>by rw[e]⟩
def ab.ext'{l m:ab}(h1:l.a=m.a)(h2:l.b=m.b)(h3:l.c=m.c):l=m:=by cases l;cases m;simp_all
instance:DecidableEq NQ:=fun x y=>decidable_of_iff (x.l=y.l/\x.a=y.a/\x.b=y.b) (by
 cases x;cases y;simp)
def kz(ls:List ab):dq 6 (ls.map eL):=fun d hd=>by
 obtain⟨n,_,rfl⟩:=bY.1 hd;exact⟨rfl,rfl⟩
def U3{a b:Nat}(hl:(dg a).length=(dg b).length)(h: ∀j,j<(dg a).length->(dg a).getD j 0=(dg b).getD j 0):a=b:=by
 have e:dg a=dg b:=by
  apply List.ext_getElem hl;intro i h1 h2;have:=h i h1;rw[aJ,aJ,aQ h1,aQ h2] at this;exact this
 rw[<-bz a,e,bz]
def GS{z:Int}:PF GB prog 150 [eI z] (eQ (z:Rat)):=by
 refine fn func150 J J ntmps150 J J (fun C=>?_);exact rz J (by rw[wk];rfl)
def DD{l:ab}:PF GB prog 66 [eL l] (eL l.rev):=by
 refine fn func66 J J ntmps66 J J (fun C=>?_);refine cl J ul J<|cl J ul J<|cl J ul J<|?_;exact rz J J
def RI{a b i j:Nat}[ha:BN a i][hb:BN b j](hi:i<=400000000:=by decide):PF GB prog 211 [dN a,dN b] (vB (decide (a=b))):=by
 have hla:=dH (dg a);have hlb:=dH (dg b);have hba:=i8 ha.h;refine fn func211 J J ntmps211 J J (fun C=>?_);refine br (fu2:=⟨7⟩) J J J (fun hc10=>?_) (fun hc10=>?_)
 .
  exact rz J (by rw[decide_eq_false (fun e:a=b=>hc10 (by rw[e]))];rfl)
 .
  refine aj 12 (.d (vI ((dg a).length:Nat))) J (by rw[hla];rfl) ?_;refine gx J<|?_;refine lp (X:=Nat) (fun i=>[(13, .d (vI (i:Nat))),(12, .d (vI ((dg a).length:Nat))),(0, .d (dN a)),(1, .d (dN b))]) (fun i=>[]) (fun i=>i<=(dg a).length/\ ∀j,j<i->(dg a).getD j 0=(dg b).getD j 0) (fun i=>(dg a).length-i) 0 J ⟨bJ _,fun j hj=>absurd hj (by omega)⟩ (fun _=>J) (fun i hk=>?_);obtain⟨h1,h2⟩:=hk;refine br J J J (fun hc14=>?_) (fun hc14=>?_)
  .
   refine ix _ J (jo (by omega)) J<|ix _ J (jo (by omega)) J<|?_;refine br J J J (fun hc24=>?_) (fun hc24=>?_)
   .
    exact rz J (by rw[decide_eq_false (fun e:a=b=>hc24 (by rw[e]))];rfl)
   .
    exact at_ (i+1) ⟨⟨by omega,fun j hj=>by by_cases q:j=i;(subst q;omega);exact h2 j (by omega)⟩,(by omega)⟩
  .
   exact rz J (by rw[decide_eq_true (U3 (by omega) (fun j hj=>h2 j (by omega)))];rfl)
def Cj{a b:Int}{i j:Nat}[ha:BI a i][hb:BI b j](hi:i<=400000000:=by decide):PF GB prog 172 [eI a,eI b] (vB (decide (a=b))):=by
 refine fn (fu:=⟨14⟩) func172 J J ntmps172 J J (fun C=>?_);refine aj 9 (.d (.v (.bool (decide (decide (a<0)=decide (b<0)))))) J (by congr 2) ?_;refine gx J<|?_;refine csd 10 J J J (fun hg10=>?_) (fun hg10=>?_)
 .
  refine cl J (RI (by omega)) J<|?_;exact rz J (by show DV.v (.bool _)=DV.v (.bool _);rw[<-Rj hg10])
 .
  exact rz J (by rw[decide_eq_false (fun e:a=b=>hg10 (by rw[e]))];rfl)
def T1{l m:ab}(hl:BL l 96)(hm:BL m 96):PF GB prog 80 [eL l,eL m] (vB (decide (l=m))):=by
 haveI h1:BI l.a 96:=⟨hl.a⟩;haveI h2:BI l.b 96:=⟨hl.b⟩;haveI h3:BI l.c 96:=⟨hl.c⟩;haveI k1:BI m.a 96:=⟨hm.a⟩;haveI k2:BI m.b 96:=⟨hm.b⟩;haveI k3:BI m.c 96:=⟨hm.c⟩;refine fn func80 J J ntmps80 J J (fun C=>?_);refine cl J (Cj (a:=l.a) (b:=m.a)) J<|?_;refine csd 10 J J J (fun hg10=>?_) (fun hg10=>?_)
 .
  refine cl J (Cj (by omega)) J<|?_;refine csd 17 J J J (fun hg17=>?_) (fun hg17=>?_)
  .
   refine cl J (Cj (by omega)) J<|?_;exact rz J (by show DV.v (.bool _)=DV.v (.bool _);rw[decide_eq_decide.2 ⟨fun e=>ab.ext' hg10 hg17 e,fun e=>by rw[e]⟩])
  .
   exact rz J (by rw[decide_eq_false (fun e:l=m=>hg17 (by rw[e]))];rfl)
 .
  exact rz J (by rw[decide_eq_false (fun e:l=m=>hg10 (by rw[e]))];rfl)
class LB (l:ab):Prop where bl:BL l 96
instance LB.a (l:ab) [h:LB l]:BI l.a 96:=⟨h.bl.a⟩
instance LB.b (l:ab) [h:LB l]:BI l.b 96:=⟨h.bl.b⟩
instance LB.c (l:ab) [h:LB l]:BI l.c 96:=⟨h.bl.c⟩
class aw (p:aa) (k:outParam Nat):Prop where
 x:BQ p.x k
 y:BQ p.y k
instance aw.ix (p:aa) (k:Nat) [h:aw p k]:BQ p.x k:=h.x
instance aw.iy (p:aa) (k:Nat) [h:aw p k]:BQ p.y k:=h.y
instance aw.dir (l:ab) [LB l]:aw l.dir 97:=⟨inferInstanceAs (BQ (l.b:Rat) 97),inferInstanceAs (BQ (-(l.a:Rat)) 97)⟩
instance BQ.dot (p q:aa) (i j:Nat) [aw p i] [aw q j]:BQ (p.dot q) (i+j+(i+j)+1):=inferInstanceAs (BQ (p.x*q.x+p.y*q.y) _)
instance BQ.cross (p q:aa) (i j:Nat) [aw p i] [aw q j]:BQ (p.cross q) (i+j+(i+j)+1):=inferInstanceAs (BQ (p.x*q.y-p.y*q.x) _)
instance aw.mov (p q:aa) (c:Rat) (i j k:Nat) [aw p i] [aw q j] [BQ c k]:aw (cC p q c) (i+(k+j)+1):=⟨inferInstanceAs (BQ (p.x+c*q.x) _),inferInstanceAs (BQ (p.y+c*q.y) _)⟩
instance BQ.value (l:ab) (p:aa) (i:Nat) [LB l] [aw p i]:BQ (l.value p) (96+1+i+(96+1+i)+1+(96+1)+1):=inferInstanceAs (BQ ((l.a:Rat)*p.x+(l.b:Rat)*p.y+(l.c:Rat)) _)
def QK{l:ab}(h:l.Ne):l.dir.dot l.dir≠0:=by have:=Bd h;grind
def On{l:ab}:PF GB prog 164 [eL l] (eP l.dir):=by
 refine fn func164 J J ntmps164 J J (fun C=>?_);refine cl J GS J<|cl J GS J<|cl J wX J<|?_;exact rz J J
def Ar{p q:aa}{i j:Nat}[hp:aw p i][hq:aw q j](hi:i<=200000:=by decide)(hj:j<=200000:=by decide):PF GB prog 236 [eP p,eP q] (eQ (p.dot q)):=by
 refine fn func236 J J ntmps236 J J (fun C=>?_);refine cl J (lD (by omega) (by omega)) J<|cl J (lD (by omega) (by omega)) J<|cl J (u5 (by omega) (by omega)) J<|?_;exact rz J J
def JK{p q:aa}{i j:Nat}[hp:aw p i][hq:aw q j](hi:i<=200000:=by decide)(hj:j<=200000:=by decide):PF GB prog 99 [eP p,eP q] (eQ (p.cross q)):=by
 refine fn func99 J J ntmps99 J J (fun C=>?_);refine cl J (lD (by omega) (by omega)) J<|cl J (lD (by omega) (by omega)) J<|cl J (IJ (by omega) (by omega)) J<|?_;exact rz J J
def EO{p q:aa}{c:Rat}{i j k:Nat}[hp:aw p i][hq:aw q j][hc:BQ c k](hi:i<=19000000:=by decide)(hj:j<=9000000:=by decide)(hk:k<=9000000:=by decide):PF GB prog 100 [eP p,eQ c,eP q] (eP (cC p q c)):=by
 refine fn func100 J J ntmps100 J J (fun C=>?_);refine cl J (lD (by omega) (by omega)) J<|cl J (u5 (by omega) (by omega)) J<|cl J (lD (by omega) (by omega)) J<|cl J (u5 (by omega) (by omega)) J<|?_;exact rz J J
instance aw.base (l:ab) [LB l]:aw l.base 900:=by
 rw[<-L5];constructor
 ·exact BQ.mono (inferInstance:BQ (-((l.c:Rat)/l.dir.dot l.dir)*(l.a:Rat)) _) (by decide)
 ·exact BQ.mono (inferInstance:BQ (-((l.c:Rat)/l.dir.dot l.dir)*(l.b:Rat)) _) (by decide)
def EJ{l:ab}{p:aa}{k:Nat}[hl:LB l][hp:aw p k](hn:l.Ne)(hk:k<=200000:=by decide):PF GB prog 262 [eL l,eP p] (eQ (dl l p)):=by
 refine fn func262 J J ntmps262 J J (fun C=>?_);refine cl J On J<|cl J (Ar (by omega) (by decide)) J<|cl J (Ar (by omega) (by decide)) J<|cl J (SZ (QK hn) (by omega) (by decide)) J<|?_;exact rz J J
instance BI.crossI (l m:ab) [LB l] [LB m]:BI (crossI l m) 385:=inferInstanceAs (BI (l.a*m.b-m.a*l.b) 385)
instance BI.meetX (l m:ab) [LB l] [LB m]:BI (meetX l m) 385:=inferInstanceAs (BI (l.b*m.c-m.b*l.c) 385)
instance BI.meetY (l m:ab) [LB l] [LB m]:BI (meetY l m) 385:=inferInstanceAs (BI (m.a*l.c-l.a*m.c) 385)
instance aw.imeet (l m:ab) [LB l] [LB m]:aw (mc l m) 772:=by
 unfold mc;split
 ·exact⟨BQ.mono (k:=1) ⟨by decide,by decide⟩ (by decide),BQ.mono (k:=1) ⟨by decide,by decide⟩ (by decide)⟩
 ·exact⟨inferInstanceAs (BQ ((meetX l m:Rat)/(crossI l m:Rat)) 772),inferInstanceAs (BQ ((meetY l m:Rat)/(crossI l m:Rat)) 772)⟩
def bv(l m:ab):Int:=if(l.a-m.a).sign≠0 then(l.a-m.a).sign else if(l.b-m.b).sign≠0 then(l.b-m.b).sign else(l.c-m.c).sign
def CI(l m:ab):bv l m=0↔l=m:=by
 unfold bv;constructor
 ·intro h
  split at h
  ·contradiction
  ·split at h
   ·contradiction
   ·rename_i h1 h2
    have a1:=gJ.1 (Decidable.not_not.1 h1);have a2:=gJ.1 (Decidable.not_not.1 h2);have a3:=gJ.1 h;exact ab.ext' (by omega) (by omega) (by omega)
 ·rintro rfl
  simp
def GO{l m:ab}[hl:LB l][hm:LB m]:PF GB prog 179 [eL l,eL m] (vI (bv l m)):=by
 refine fn func179 J J ntmps179 J J (fun C=>?_);refine cl J (B4 (a:=l.a) (b:=m.a)) J<|?_;refine br J J J (fun hc13=>?_) (fun hc13=>?_)
 .
  exact rz J (by show vI _=_;unfold bv;rw[if_pos hc13])
 .
  refine cl J (B4 (a:=l.b) (b:=m.b)) J<|?_;refine br J J J (fun hc21=>?_) (fun hc21=>?_)
  .
   exact rz J (by show vI _=_;unfold bv;rw[if_neg hc13,if_pos hc21])
  .
   refine cl J (B4 (a:=l.c) (b:=m.c)) J<|?_;exact rz J (by show vI _=_;unfold bv;rw[if_neg hc13,if_neg hc21])
def QZ(z:Int): -1<=z.sign/\z.sign<=1:=by
 rcases lL z 0 with h|h|h
 ·rw[cM h];omega
 ·rw[h];decide
 ·rw[eK h];omega
instance BQ.i1:BQ (((1:Int):Rat)) 2:=⟨by decide,by decide⟩
def eV(v:bi):DV:= .ag [.v (.bool (decide (v.lo.num<0))),dN v.lo.num.natAbs,dD v.lo.den, .v (.bool (decide (v.hi.num<0))),dN v.hi.num.natAbs,dD v.hi.den, .v (.bool v.nl), .v (.bool v.nh)]
def Oy(v:bi):Rat:=if v.nl=true/\v.nh=true then 0 else if v.nl=true then v.hi-1 else if v.nh=true then v.lo+1 else(v.lo+v.hi)/2
theorem BQ.of_fracI{q:Rat}{n D:Int}{i:Nat}(hd:0<D.natAbs)(h:q*((D.natAbs:Nat):Rat)=(n:Rat))(hn:BI n i)(hD:BI D i):BQ q i:=BQ.of_frac hd h hn.h hD.h
theorem EV{m:Int}{i j:Nat}(h:BI m i)(hij:i<=j):BI m j:=⟨cS h.h (aM (by decide) hij)⟩
def Nq(k:Rat):k.num.sign<=0↔ ¬0<k:=by rw[<-um];omega
def rZ(l:ab):List ab->bi->bi×Bool
 |[],v=>(v,true)
 |m::t,v=>if m=l then rZ l t v else if l.cutB v m=true then rZ l t (l.cutV v m) else(l.cutV v m,false)
structure Xx (l:ab) (c:List ab) (k:Nat) (v:bi):Prop where
 le:k<=c.length
 p:s6 l (c.drop k) v=s6 l c bi.all
 e:rZ l (c.drop k) v=rZ l c bi.all
 z:xw v
 lo:BQ v.lo 1200
 hi:BQ v.hi 1200
def Ye(l m:ab)(v:bi):bi:=if 0<(m.dir.cross l.dir).num.sign then SC v (dl l (mc l m)) else O0 v (dl l (mc l m))
def cF(l:ab):DV:= .ag [vI (di (l.a:Rat)),vI (c7 (l.a:Rat)),cH (l.a:Rat),vI (di (l.b:Rat)),vI (c7 (l.b:Rat)),cH (l.b:Rat),vI (di (l.c:Rat)),vI (c7 (l.c:Rat)),cH (l.c:Rat)]
def eZ(p:aa):DV:= .ag [vI (di p.x),vI (c7 p.x),cH p.x,vI (di p.y),vI (c7 p.y),cH p.y]
def eW(v:bi):DV:= .ag [vI (di v.lo),vI (c7 v.lo),cH v.lo,vI (di v.hi),vI (c7 v.hi),cH v.hi, .v (.bool v.nl), .v (.bool v.nh)]
def fD:List Int->Int
 |[]=>0
 |a::t=>if a≠0 then a else fD t
theorem aw.nor(l:ab)[LB l]:aw l.nor 97:=⟨inferInstanceAs (BQ (l.a:Rat) 97),inferInstanceAs (BQ (l.b:Rat) 97)⟩
attribute [instance] aw.nor
instance aw.scale (p:aa) (c:Rat) (i k:Nat) [aw p i] [BQ c k]:aw (p.scale c) (i+k):=⟨inferInstanceAs (BQ (p.x*c) _),inferInstanceAs (BQ (p.y*c) _)⟩
instance aw.add (p q:aa) (i j:Nat) [aw p i] [aw q j]:aw (p.add q) (i+j+1):=⟨inferInstanceAs (BQ (p.x+q.x) _),inferInstanceAs (BQ (p.y+q.y) _)⟩
instance LB.revA (l:ab) [h:LB l]:LB l.rev:=⟨⟨by rw[show l.rev.a= -l.a from J,gW];exact h.bl.a,by rw[show l.rev.b= -l.b from J,gW];exact h.bl.b,by rw[show l.rev.c= -l.c from J,gW];exact h.bl.c⟩⟩
def Ay{l:ab}:PF GB prog 321 [cF l] (eZ l.nor):=by
 refine fn func321 J J ntmps321 J J (fun C=>?_);exact rz J J
def vQ{l:ab}[hl:LB l]:PF GB prog 258 [cF l] (eZ l.dir):=by
 refine fn func258 J J ntmps258 J J (fun C=>?_);refine cl J (lO (q:=(l.a:Rat))) J<|?_;exact rz J J
def nv{p q:aa}{i j:Nat}[hp:aw p i][hq:aw q j](hi:i<=40000000:=by decide)(hj:j<=40000000:=by decide):PF GB prog 244 [eZ p,eZ q] (eF (p.dot q)):=by
 refine fn func244 J J ntmps244 J J (fun C=>?_);refine cl J (oF (p:=p.x) (q:=q.x) (by omega) (by omega)) J<|cl J (oF (p:=p.y) (q:=q.y) (by omega) (by omega)) J<|cl J (tQ (p:=p.x*q.x) (q:=p.y*q.y) (by omega) (by omega)) J<|?_;exact rz J J
def Dp{p q:aa}{i j:Nat}[hp:aw p i][hq:aw q j](hi:i<=40000000:=by decide)(hj:j<=40000000:=by decide):PF GB prog 298 [eZ p,eZ q] (eF (p.cross q)):=by
 refine fn func298 J J ntmps298 J J (fun C=>?_);refine cl J (oF (p:=p.x) (q:=q.y) (by omega) (by omega)) J<|cl J (oF (p:=p.y) (q:=q.x) (by omega) (by omega)) J<|cl J (sd (p:=p.x*q.y) (q:=p.y*q.x) (by omega) (by omega)) J<|?_;exact rz J J
def uC{p:aa}{c:Rat}{i j:Nat}[hp:aw p i][hc:BQ c j](hi:i<=40000000:=by decide)(hj:j<=40000000:=by decide):PF GB prog 126 [eZ p,eF c] (eZ (p.scale c)):=by
 refine fn func126 J J ntmps126 J J (fun C=>?_);refine cl J (oF (p:=p.x) (q:=c) (by omega) (by omega)) J<|cl J (oF (p:=p.y) (q:=c) (by omega) (by omega)) J<|?_;exact rz J J
def wV{p q:aa}{i j:Nat}[hp:aw p i][hq:aw q j](hi:i<=40000000:=by decide)(hj:j<=40000000:=by decide):PF GB prog 206 [eZ p,eZ q] (eZ (p.add q)):=by
 refine fn func206 J J ntmps206 J J (fun C=>?_);refine cl J (tQ (by omega) (by omega)) J<|cl J (tQ (by omega) (by omega)) J<|?_;exact rz J J
def RX{l:ab}[hl:LB l]:PF GB prog 352 [cF l] (eZ l.base):=by
 refine fn func352 J J ntmps352 J J (fun C=>?_);refine cl J Ay J<|cl J (lO (q:=(l.c:Rat))) J<|cl J (nv (p:=l.nor) (q:=l.nor)) J<|cl J (vp (p:= -(l.c:Rat)) (q:=l.nor.dot l.nor)) J<|?_;refine cl J (uC (p:=l.nor)) J<|?_;exact rz J J
def Ef{l:ab}{p:aa}{i:Nat}[hl:LB l][hp:aw p i](hi:i<=10000000:=by decide):PF GB prog 347 [cF l,eZ p] (eF (l.value p)):=by
 refine fn func347 J J ntmps347 J J (fun C=>?_);refine cl J (Ay (l:=l)) J<|cl J (nv (p:=l.nor) (q:=p) (by omega) (by omega)) J<|cl J (tQ (p:=l.nor.dot p) (q:=(l.c:Rat)) (by omega) (by omega)) J<|?_;exact rz J J
def AK{l:ab}{p:aa}{i:Nat}[hl:LB l][hp:aw p i](hi:i<=10000000:=by decide):PF GB prog 259 [cF l,eZ p] (vI (l.value p).num.sign):=by
 refine fn func259 J J ntmps259 J J (fun C=>?_);refine cl J (Ef (l:=l) (p:=p) hi) J<|cl J (jj (q:=l.value p) (by omega)) J<|?_;exact rz J J
def Dv{l:ab}{t:Rat}{i:Nat}[hl:LB l][ht:BQ t i](hi:i<=10000000:=by decide):PF GB prog 345 [cF l,eF t] (eZ (l.at t)):=by
 refine fn func345 J J ntmps345 J J (fun C=>?_);refine cl J (RX (l:=l)) J<|cl J (vQ (l:=l)) J<|cl J (uC (p:=l.dir) (c:=t) (by omega) (by omega)) J<|cl J (wV (p:=l.base) (q:=l.dir.scale t) (by omega) (by omega)) J<|?_;exact rz J J
instance bi.meet_lo (v w:bi) (i j:Nat) [h1:BQ v.lo i] [h3:BQ w.lo j]:BQ (v.meet w).lo (i+j):=by
 have a:=h1.mono (oZ i j);have b:=h3.mono (Nat.le_add_left j i);unfold bi.meet;dsimp only;(repeat' split)<;>assumption
instance bi.meet_hi (v w:bi) (i j:Nat) [h1:BQ v.hi i] [h3:BQ w.hi j]:BQ (v.meet w).hi (i+j):=by
 have a:=h1.mono (oZ i j);have b:=h3.mono (Nat.le_add_left j i);unfold bi.meet;dsimp only;(repeat' split)<;>assumption
instance BQ.cutK (l m:ab) [LB l] [LB m]:BQ (l.cutK m) 400:=BQ.mono (inferInstance:BQ (m.nor.dot l.dir) _) (by decide)
instance BQ.cutC (l m:ab) [LB l] [LB m]:BQ (l.cutC m) 2500:=BQ.mono (inferInstance:BQ (m.value l.base) _) (by decide)
def wg(p q:aa):DV:= .ag [vI (di p.x),vI (c7 p.x),cH p.x,vI (di p.y),vI (c7 p.y),cH p.y,vI (di q.x),vI (c7 q.x),cH q.x,vI (di q.y),vI (c7 q.y),cH q.y]
def sE{C:aA}{n:Nat}{Q0:Exit->Act->World->Prop}{fr:ao}{own:aB}{ops:Array Oper}{r:List Oper}{K:List Kt}(k:Nat){l:List DV}(hl:aD fr k=some (.d (.pt l)))(h:ak prog GB C n Q0 ((k, .ep l)::fr) own (.ops ops r K)):ak prog GB C n Q0 fr own (.ops ops r K):=
 kt hl (fun ρ G y hy=>by
  obtain⟨b,m,rfl,h1,h2⟩:=qk.1 hy;have e:=h2.len;exact⟨b,0,m,m,J,h1,by rw[kw m 0 l.length (by omega),gV,<-e,bN],h2⟩) h
def zF{G:Gh}{m:List Value}(h:IsLs G [vI 0,vI 0, .v (.pointer none)] m):IsLs G [vI (di 0),vI (c7 0),cH 0] m:=by
 obtain⟨l,e,k⟩:=ef.1 (sI G (.agg ⟨m⟩) (ef.2 ⟨m,rfl,h⟩))
 cases e;exact k
section
variable {GB:Gh} {C:aA} {n:Nat} {Q0:Exit->Act->World->Prop} {fr fr':ao} {own own':aB} {cf cf':Cf} {vc:List Prop} {ops:Array Oper} {r:List Oper} {K:List Kt}
def tg(k:Nat){d:DV}(hl:aD fr k=some (.d d))(h: ∀(GB':Gh) (pv:Value),bg GB GB'->Is GB' d pv->ak prog GB' C n Q0 ((k, .d (.v pv))::fr) own (.ops ops r K)):ak prog GB C n Q0 fr own (.ops ops r K):=by
 refine⟨fun ρ G ov a w r0=>?_⟩;obtain⟨y,hy,hy'⟩:=r0.fx k _ hl;refine(h G y r0.gb hy').run ρ G ov a w ⟨bg.refl _,r0.h,r0.sz,r0.df,fun j f e=>?_,r0.bx,r0.dj,r0.fxd⟩;rw[gi] at e;split at e
 ·rename_i hj
  cases e;subst hj
  exact⟨y,hy,(bc (G:=G)).2 J⟩
 ·exact r0.fx j f e
def XH(fr:ao)(cf:Cf):Option (FuncId×Value):=match bw fr cf with
 |some ⟨_, .makeFunc (.func f) ⟨[x]⟩ ⟨[]⟩,_,_,_,_⟩=>match aC (ba fr cf) x with
  |some (.d (.v pv))=>some (f,pv)
  |_=>none
 |_=>none
def Xp(fr:ao)(cf:Cf):Option (FuncId×List Value×List DV):=match bw fr cf with
 |some ⟨_, .call ⟨.value fo,args,_⟩,_,_,_,_⟩=>match aC (ba fr cf) fo,evDs (ba fr cf) args.toList with
  |some (.d (.v (.func (.func f) ⟨c1⟩ ⟨[]⟩))),some ds=>some (f,c1,ds)
  |_,_=>none
 |_=>none
def HW:List (Nat×Operand)->Option (List (Nat×Value))
 |[]=>some []
 |(i, .const v)::t=>match HW t with
  |some l=>some ((i,v)::l)
  |none=>none
 |_::_=>none
def XL(cf:Cf)(fr:ao):Option (TypeId×List (Nat×Value)):=match bw fr cf with
 |some ⟨_, .build t ⟨ps⟩,_,_,_,_⟩=>match HW ps with
  |some vs=>some (t,vs)
  |none=>none
 |_=>none
def I6(fr:ao)(own:aB)(cf:Cf):Option (TypeId×Nat×Nat×List FX×Bool×FX):=match bw fr cf with
 |some ⟨_, .store t x y,_,_,_,_⟩=>match aC (ba fr cf) x with
  |some (.ov nm 0)=>match eG fr own cf nm with
   |some (.o ty cs lo)=>match aC (ba fr cf) y with
    |some fv=>some (t,nm,ty,cs,lo,fv)
    |_=>none
   |_=>none
  |_=>none
 |_=>none
def KR[fu:Fu]{t nm ty len e:Nat}{cs:List FX}{lo:Bool}{fv:FX}{j:TypeInfo}(h:I6 fr own cf=some (t,nm,ty,cs,lo,fv))(hu:prog.underlying t=some (.array len e))(hj:prog.info? t=some j)(hc:fv.okc=true/\fv.cells.length=j.size/\j.size=cs.length)
  (hgo:bG tt n fu.n fr own cf .un [(nm,some (.o ty (rH cs 0 fv.cells) lo))] []=⟨vc,fr',own',cf'⟩)(k:ak prog GB C n Q0 fr' own' cf')
  (hv:ah vc:=by first|exact trivial|(simp only[ah];kernel_rfl)|(simp only[ah];omega)):ak prog GB C n Q0 fr own cf:=by
 unfold I6 at h;split at h<;>try (cases h;done)
 rename_i hh;split at h<;>try (cases h;done)
 rename_i e1;split at h<;>try (cases h;done)
 rename_i hb;split at h<;>cases h;rename_i e2;obtain⟨c1,c2,c3⟩:=hc;have:mq prog t j.size:=⟨fun w=>uG hu w,fun w=>qf hj w⟩;refine us hh ?_ hgo hv k;intro hd tl tb K s1 s2 hf hk;refine⟨fun ρ G ov a w r Q=>?_⟩;have r1:=r.mono s1 s2;obtain⟨p,h1,h2⟩:=r1.ev e1;obtain⟨q,h3,h4⟩:=r1.ev e2;obtain⟨b,m,rfl,ha,h5,h6⟩:=r1.own h2 hb;obtain⟨h7,h8⟩:=h4.cells c1;obtain⟨own',u1,u2,u3⟩:=f5.of_mem (cs':=cP m 0 (aF q)) h6;exact A4 h1 h3 u1 (by rw[h7.len,c2]) (by rw[h5.len,c3];omega) (dT.2 h8) hd (fun a' w' rl=>r.wrote (m:=m) (s2 _ _ hb) ha (h5.ov h7) u2 u3 hk rl) a w Q ⟨r.h,r.sz,co a,r.df⟩
def JC(fr:ao)(cf:Cf):Option Kd:=match bw fr cf with
 |some ⟨some d, .buildSlice t len parts,_,_,_,_⟩=>match cd tt t with
  |some ⟨.sl e s _,_,_,_⟩=>match qx (ba fr cf) 0 parts.toList with
   |some ds=>bif wF s ds&&(Nat.beq parts.toList.length len&&(Nat.ble (len*s) 1000&&Nat.blt 0 (len*s))) then some ⟨d,e,s,ds⟩ else none
   |none=>none
  |_=>none
 |_=>none
def OO[fu:Fu]{d e s:Nat}{ds:List DV}{i:TI}{z:DV}(h:JC fr cf=some ⟨d,e,s,ds⟩)(hi:dO prog e=some i)(hz:kA i=some z)(hs:Nat.beq z.cells.length s=true)(hgo:bG tt n fu.n fr own cf (.d (.sl ds)) [(d,none)] [d]=⟨vc,fr',own',cf'⟩)(k:ak prog GB C n Q0 fr' own' cf')
  (hv:ah vc:=by first|exact trivial|(simp only[ah];kernel_rfl)|(simp only[ah];omega)):ak prog GB C n Q0 fr own cf:=by
 unfold JC at h;split at h<;>try (cases h;done)
 rename_i hh;split at h<;>try (cases h;done)
 rename_i hT;split at h<;>try (cases h;done)
 rename_i hr;rw[cond_eq_ite] at h;split at h<;>cases h;rename_i hc;simp only[bZ] at hc;have:=iI (dG _ _ hT) J;exact us hh ((H4 hi hz hs hr hc.1 hc.2.1 hc.2.2.1 hc.2.2.2).frzRow J) hgo hv k
def JI(fr:ao)(cf:Cf):Option (TypeId×List DV):=match bw fr cf with
 |some ⟨_, .load t x,_,_,_,_⟩=>match aC (ba fr cf) x with
  |some (.ep l)=>some (t,l)
  |_=>none
 |_=>none
def MH:TypeDesc->Bool
 | .struct _=>false
 | .array _ _=>false
 |_=>true
def DT[fu:Fu]{t:TypeId}{d:DV}{l:List DV}{D:TypeDesc}{j:TypeInfo}(h:JI fr cf=some (t,d::l))(hu:prog.underlying t=some D)(hD:MH D=true)(hj:prog.info? t=some j)(hs:j.size=1)
  (hgo:bG tt n fu.n fr own cf (.d d) [] []=⟨vc,fr',own',cf'⟩)(k:ak prog GB C n Q0 fr' own' cf')
  (hv:ah vc:=by first|exact trivial|(simp only[ah];kernel_rfl)|(simp only[ah];omega)):ak prog GB C n Q0 fr own cf:=by
 unfold JI at h;split at h<;>try (cases h;done)
 rename_i hh;split at h<;>cases h;rename_i hx;have:jq prog t:=⟨fun w=>by(rw[uG hu w];cases D<;>first|rfl|(cases hD;done)),fun w=>by rw[qf hj w,hs]⟩;exact us hh (.x1 hx fun ρ G ov a w y _ r h1 h2=>by
  obtain⟨b,o,ms,m,rfl,hb,ht,hm⟩:=h2;obtain⟨l',h3,h4⟩:=hm.get (i:=0) rfl;have:=CN ht (i:=0) (Nat.succ_pos _);rw[cN] at this;exact⟨l',h4,xN h1 hb (by rw[this];exact h3)⟩) hgo hv k
end
instance BQ.i1':BQ (1:Rat) 2:=⟨by decide,by decide⟩
instance BQ.i2':BQ (2:Rat) 2:=⟨by decide,by decide⟩
instance aw.at (l:ab) (t:Rat) (k:Nat) [LB l] [BQ t k]:aw (l.at t) (900+(k+97)+1):=by
 rw[<-rk];infer_instance
def l5(d:aa):aa:=⟨-d.y,d.x⟩
instance aw.turn (d:aa) (k:Nat) [aw d k]:aw (l5 d) k:=⟨inferInstanceAs (BQ (-d.y) k),inferInstanceAs (BQ d.x k)⟩
def AF(p v:aa)(m:ab):Rat:= -(m.value p/(m.value (cC p v ((1:Int):Rat))-m.value p))
def Sj(p v:aa)(m:ab)(s:Rat):Rat:=if(m.value (cC p v ((1:Int):Rat))-m.value p).num.sign=0 then s else if(m.value p).num.sign=0 then s else if 0<(AF p v m).num.sign then(if bt (AF p v m/2) s<0 then AF p v m/2 else s) else s
def Jw(p v:aa):List ab->Rat->Rat
 |[],s=>s
 |m::t,s=>Jw p v t (Sj p v m s)
def Bw(c:List ab)(p v:aa):aa:=cC p v (Jw p v c ((1:Int):Rat))
def Fo(c:List ab):List ab->aa
 |[]=>⟨0,0⟩
 |m::t=>if(rZ m c bi.all).2=true then Bw c (m.at (Oy (rZ m c bi.all).1)) (l5 m.dir) else Fo c t
def Rr{es:List Int}{i:Nat}(h:i<es.length):(es.map vI)[(i:Int).toNat]? =some (vI (es.getD i 0)):=by simp[h]
def FN{es:List Int}{i:Nat}(h:i<es.length):fD (es.drop i)=if es.getD i 0≠0 then es.getD i 0 else fD (es.drop (i+1)):=by
 rw[bS h,fD,aJ,aQ h];rfl
def Jh{es:List Int}(hn:es.length<=1000000):PF GB prog 227 [.sl (es.map vI)] (vI (fD es)):=by
 have hel:(es.map vI).length=es.length:=by simp
 refine fn (fu:=⟨15⟩) func227 J J ntmps227 J J (fun C=>?_);refine aj 7 (.d (vI (es.length:Nat))) J (by rw[hel]<;>rfl) ?_;refine gx J<|?_;refine lp (X:=Nat) (fun i=>[(8, .d (vI (i:Nat)))]) (fun i=>[]) (fun i=>i<=es.length/\fD es=fD (es.drop i)) (fun i=>es.length-i) 0 J ⟨bJ _,J⟩ (fun _=>J) (fun i hk=>?_);obtain⟨h1,h2⟩:=hk;refine br J J J (fun hc9=>?_) (fun hc9=>?_)
 .
  refine ix _ J (Rr (by omega)) J<|?_;refine br J J J (fun hc14=>?_) (fun hc14=>?_)
  .
   exact rz J (by rw[h2,FN (by omega),if_pos hc14];rfl)
  .
   exact at_ (i+1) ⟨⟨by omega,by rw[h2,FN (by omega),if_neg hc14]⟩,(by omega)⟩
 .
  exact rz J (by rw[h2,fL (by omega)];rfl)
def uc(l m:ab):Int:=fD [bt l.a m.a,bt l.b m.b,bt l.c m.c]
def PQ(l m:ab):uc l m=0↔l=m:=by
 unfold uc fD fD fD fD;have ha:=qi (l.a:Rat) m.a;have hb:=qi (l.b:Rat) m.b;have hc:=qi (l.c:Rat) m.c;rw[nX] at ha hb hc;constructor
 ·intro h
  repeat' (split at h<;>try contradiction)
  all_goals exact ab.ext' (by omega) (by omega) (by omega)
 ·rintro rfl
  rw[if_neg (by simp[ha.2 J]),if_neg (by simp[hb.2 J]),if_neg (by simp[hc.2 J])]
def Ih{l m:ab}[hl:LB l][hm:LB m]:PF GB prog 134 [cF l,cF m] (vI (uc l m)):=by
 refine fn func134 J J ntmps134 J J (fun C=>?_);refine cl J (ij (p:=(l.a:Rat)) (q:=(m.a:Rat))) J<|cl J (ij (p:=(l.b:Rat)) (q:=(m.b:Rat))) J<|cl J (ij (p:=(l.c:Rat)) (q:=(m.c:Rat))) J<|?_;refine rf J J<|cl J (Jh (es:=[bt l.a m.a,bt l.b m.b,bt l.c m.c]) (nb J)) J<|?_;exact rz J J
def GV{l m:ab}[hl:LB l][hm:LB m]:PF GB prog 136 [cF l,cF m] (vB (decide (l=m))):=by
 refine fn func136 J J ntmps136 J J (fun C=>?_);refine cl J (Ih (l:=l) (m:=m)) J<|?_;exact rz J (by show DV.v (.bool (decide _))= .v (.bool _);congr 2;exact decide_eq_decide.2 (PQ l m))
def UQ{l:ab}[hl:LB l]:PF GB prog 229 [cF l] (cF l.rev):=by
 refine fn func229 J J ntmps229 J J (fun C=>?_);refine cl J (lO (q:=(l.a:Rat))) J<|cl J (lO (q:=(l.b:Rat))) J<|cl J (lO (q:=(l.c:Rat))) J<|?_;exact rz J (by unfold cF ab.rev;simp only[qX];rfl)
def SP{l:ab}[hl:LB l]:PF GB prog 137 [cF l] (eL l):=by
 refine fn func137 J J ntmps137 J J (fun C=>?_);refine cl J (mP (q:=(l.a:Rat))) J<|cl J (mP (q:=(l.b:Rat))) J<|cl J (mP (q:=(l.c:Rat))) J<|?_;exact rz J J
def EK{p:aa}{i:Nat}[hp:aw p i](hi:i<=10000000:=by decide):PF GB prog 354 [eZ p] (vI p.half):=by
 refine fn func354 J J ntmps354 J J (fun C=>?_);refine cl J (jj (q:=p.y) (by omega)) J<|?_;refine cs 10 J J J (fun hg10=>?_) (fun hg10=>?_)
 .
  exact rz J (by unfold aa.half;(repeat' split)<;>first|rfl|(exfalso;omega))
 .
  refine cs 13 J J J (fun hg13=>?_) (fun hg13=>?_)
  .
   refine cl J (jj (q:=p.x) (by omega)) J<|?_;refine br J J J (fun hc7=>?_) (fun hc7=>?_)
   .
    exact rz J (by unfold aa.half;(repeat' split)<;>first|rfl|(exfalso;omega))
   .
    refine cs 23 J J J (fun hg23=>?_) (fun hg23=>?_)
    .
     exact rz J (by unfold aa.half;(repeat' split)<;>first|rfl|(exfalso;omega))
    .
     refine cl J (jj (q:=p.x) (by omega)) J<|?_;refine br J J J (fun hc20=>?_) (fun hc20=>?_)
     .
      exact rz J (by unfold aa.half;(repeat' split)<;>first|rfl|(exfalso;omega))
     .
      exact rz J (by unfold aa.half;(repeat' split)<;>first|rfl|(exfalso;omega))
  .
   refine cs 23 J J J (fun hg23=>?_) (fun hg23=>?_)
   .
    exact rz J (by unfold aa.half;(repeat' split)<;>first|rfl|(exfalso;omega))
   .
    refine cl J (jj (q:=p.x) (by omega)) J<|?_;refine br J J J (fun hc20=>?_) (fun hc20=>?_)
    .
     exact rz J (by unfold aa.half;(repeat' split)<;>first|rfl|(exfalso;omega))
    .
     exact rz J (by unfold aa.half;(repeat' split)<;>first|rfl|(exfalso;omega))
def Fl{u v:aa}{i j:Nat}[hp:aw u i][hq:aw v j](hi:i<=10000000:=by decide)(hj:j<=10000000:=by decide):PF GB prog 279 [eZ u,eZ v] (vI (ci u v)):=by
 refine fn func279 J J ntmps279 J J (fun C=>?_);refine cl J (EK (p:=u) hi) J<|cl J (EK (p:=v) hj) J<|?_;refine br J J J (fun hc11=>?_) (fun hc11=>?_)
 .
  exact rz J (by unfold ci;rw[if_pos hc11];rfl)
 .
  refine br J J J (fun hc15=>?_) (fun hc15=>?_)
  .
   exact rz J (by unfold ci;rw[if_neg hc11,if_pos hc15];rfl)
  .
   refine cl J (Dp (p:=u) (q:=v) (by omega) (by omega)) J<|cl (fu:=⟨0⟩) J (jj (q:=u.cross v) (by omega)) J<|?_;have hs:=Int.sign_trichotomy (u.cross v).num;refine gx J<|?_;exact rz J (by unfold ci;rw[if_neg hc11,if_neg hc15];rfl)
def N1{m:Int}:c8 (dg m.natAbs)/\(decide (m<0)=true->0<(dg m.natAbs).length):=⟨(dB _).2.2,fun h=>by
 have:0<m.natAbs:=by have:=of_decide_eq_true h;omega
 exact vk.2 this⟩
def NT{m:Int}{i:Nat}[h:BI m i](hi:i<=1000000000:=by decide):PF GB prog 269 [eI m] (.v (.bool true)):=(LJ (neg:=decide (m<0)) (ds:=dg m.natAbs) (dB _).2.1 (by have:=jB (a:=m.natAbs) hi;omega)).to (by unfold vB;rw[decide_eq_true N1])
instance BQ.rgcd (p q:Rat) (i j:Nat) [h:BQ p i] [k:BQ q j]:BQ (rgcd p q) (i+j+(i+j)):=by
 unfold Sx.rgcd;refine rD (gX (jz p) (jz q)) ?_ ?_
 ·rw[kQ]
  have h1:=k8 h.hn k.hd;have h2:=k8 k.hn h.hd;rw[kS j i] at h2;exact CQ h1 h2
 ·have h1:=k8 h.hd k.hd
  have:2^(i+j)<=2^(i+j+(i+j)):=aM (by decide) (by omega);omega
def b6(f:aI):DV:= .ag [vI (di (f.l.a:Rat)),vI (c7 (f.l.a:Rat)),cH (f.l.a:Rat),vI (di (f.l.b:Rat)),vI (c7 (f.l.b:Rat)),cH (f.l.b:Rat),vI (di (f.l.c:Rat)),vI (c7 (f.l.c:Rat)),cH (f.l.c:Rat),vI (di f.v.lo),vI (c7 f.v.lo),cH f.v.lo,vI (di f.v.hi),vI (c7 f.v.hi),cH f.v.hi, .v (.bool f.v.nl), .v (.bool f.v.nh)]
structure M' (v:bi):Prop where
 z:xw v
 lo:BQ v.lo 1200
 hi:BQ v.hi 1200
structure Ti (s:aI):Prop where
 lb:LB s.l
 ok:s.l.ok
 v:M' s.v
abbrev WR (c:b7):Prop:= ∀s∈c,Ti s
def Wj(o:Option bi):bi:=o.getD ⟨0,0,false,false⟩
def cO{α:Type}{f:α->DV}{l:List α}{i:Nat}{s:α}(h:l[i]? =some s):(l.map f)[(i:Int).toNat]? =some (f s):=by simp[h]
instance BQ.sample (v:bi) [h1:BQ v.lo 1200] [h2:BQ v.hi 1200]:BQ v.sample 2500:=by
 unfold bi.sample;split
 ·exact BQ.mono (k:=1) ⟨by decide,by decide⟩ (by decide)
 ·split
  ·exact BQ.mono (inferInstance:BQ (v.hi-((1:Int):Rat)) _) (by decide)
  ·split
   ·exact BQ.mono (inferInstance:BQ (v.lo+((1:Int):Rat)) _) (by decide)
   ·exact BQ.mono (inferInstance:BQ ((v.lo+v.hi)*mkRat 1 2) _) (by decide)

def XR(c:b7)(l:ab)(i:Nat):Bool:=match c[i]? with
 |some s=>decide (ci s.l.dir l.dir=0)
 |none=>false
def cU:Tr->List DV
 | .leaf b=>[vI 0,vI 0, .v (.pointer none),vI 0,vI 0, .v (.pointer none),vI 0,vI 0, .v (.pointer none), .v (.pointer none), .v (.pointer none), .v (.bool b)]
 | .node l x y=>[vI (di (l.a:Rat)),vI (c7 (l.a:Rat)),cH (l.a:Rat),vI (di (l.b:Rat)),vI (c7 (l.b:Rat)),cH (l.b:Rat),vI (di (l.c:Rat)),vI (c7 (l.c:Rat)),cH (l.c:Rat), .pt (cU x), .pt (cU y), .v (.bool false)]
def eU(t:Tr):DV:= .pt (cU t)
def Tr.compl:Tr->Tr
 | .leaf b=> .leaf !b
 | .node l x y=> .node l x.compl y.compl
def Tr.chooseQ(op:Int)(b:Bool)(t:Tr)(c:b7):Tr:=
 if op=1\/op=2 then(if b=decide (op=1) then .leaf b else t.restrict c)
 else if op=3/\b=false then .leaf false
 else if b then(t.restrict c).compl else t.restrict c
def Tr.mergeQ(op:Int):Tr->Tr->b7->Tr
 | .leaf b,u,c=>u.chooseQ op b c
 | .node l x y,u,c=>if !jD c l.rev then x.mergeQ op u c else if !jD c l then y.mergeQ op u c else joinQ l (x.mergeQ op u (jh c l)) (y.mergeQ op u (jh c l.rev))
def PY:DV:= .ag [vI 0,vI 0, .v (.pointer none),vI 0,vI 0, .v (.pointer none),vI 0,vI 0, .v (.pointer none)]
def WX:Option ab->DV
 |some l=> .tp [cF l,vB true]
 |none=> .tp [PY,vB false]
def ya(n:Bool)(ds:List Nat):Prop:=c8 ds/\(n=true->0<ds.length)
instance (n:Bool) (ds:List Nat):Decidable (ya n ds):=inferInstanceAs (Decidable (_/\_))
structure RL where
 na:Bool
 da:List Nat
 nb:Bool
 db:List Nat
 nc:Bool
 dc:List Nat
def RL.d(r:RL):DV:= .ag [.v (.bool r.na),d7 r.da, .v (.bool r.nb),d7 r.db, .v (.bool r.nc),d7 r.dc]
def sr(n:Bool)(ds:List Nat):Int:=if n then-(dv ds:Int) else dv ds
def RL.l(r:RL):ab:=⟨sr r.na r.da,sr r.nb r.db,sr r.nc r.dc⟩
def RL.nm(r:RL):Prop:=ya r.na r.da/\ya r.nb r.db/\ya r.nc r.dc
instance (l:ab):Decidable l.ok:=inferInstanceAs (Decidable (_/\_))
instance (r:RL):Decidable r.nm:=inferInstanceAs (Decidable (_/\_/\_))
def RL.ln(r:RL):Option ab:=if r.nm/\r.l.ok then some r.l else none
structure RL.sm (r:RL):Prop where
 a:aO r.da/\r.da.length<=3
 b:aO r.db/\r.db.length<=3
 c:aO r.dc/\r.dc.length<=3
def X0(n:Nat)(f:Nat->Bool):List Value:=(List.range n).map fun j=> .bool (f j)
def qt(f:Nat->Bool)(i:Nat):Nat->Bool:=fun j=>f j||Nat.beq j i
structure RN where
 g:RL
 l:Int
 r:Int
def RN.d(n:RN):DV:= .ag [.v (.bool n.g.na),d7 n.g.da, .v (.bool n.g.nb),d7 n.g.db, .v (.bool n.g.nc),d7 n.g.dc, .v (.int .i64 n.l), .v (.int .i64 n.r)]
structure RS where
 f:Nat->Bool
 c:Nat
 b:Bool
inductive RR (ns:List RN):Int->RS->Tr->RS->Prop where
 |leaf (b:Bool) (s:RS):RR ns (wn b) s (.leaf b) s
 |j0 (rt:Int) (s:RS) (h1:rt≠ -1) (h2:rt≠ -2) (h:rt<0\/(ns.length:Int)<=rt\/(∃k:Nat,rt=k/\k<ns.length/\s.f k=true)):RR ns rt s (.leaf false) ⟨s.f,s.c,true⟩
 |line (k:Nat) (n:RN) (s:RS) (h:ns[k]? =some n) (hf:s.f k=false) (hl:n.g.ln=none):RR ns (k:Int) s (.leaf false) ⟨qt s.f k,s.c+1,true⟩
 |node (k:Nat) (n:RN) (l:ab) (s s2 s3:RS) (x y:Tr) (h:ns[k]? =some n) (hf:s.f k=false) (hl:n.g.ln=some l) (h1:RR ns n.l ⟨qt s.f k,s.c+1,s.b⟩ x s2) (h2:RR ns n.r s2 y s3):RR ns (k:Int) s (.node l x y) s3
abbrev Yo (x:SV) (ns:List RN) (A:Gh):Prop:= ∃es,d6 A 8 x es/\IsLs A (ns.map RN.d) es
def QE:RS:=⟨fun _=>false,0,false⟩
def Xy(ns:List RN)(t:Tr)(s:RS):DV:=if s.b=false/\s.c=ns.length then .tp [eU t,vB true] else .tp [.v (.pointer none),vB false]
def Uf(rt:Int)(ns:List RN):DV:= .ag [vI rt, .sl (ns.map RN.d)]

def Tr.pre:Tr->List Tr
 | .leaf b=>[.leaf b]
 | .node l x y=> .node l x y::(x.pre++y.pre)
structure Yl (f:FuncId) (c2:List Value) (σ:Type) (step:σ->Tr->σ) (ok:σ->Tr->Prop) (Inv:σ->List av->Gh->Prop):Prop where
 up: ∀{s B G G'},bg G G'->Inv s B G->Inv s B G'
 re: ∀{s B G} (fl:Nat->Bool),Inv s B G->Inv s (B.map (relo fl)) G
 go: ∀{s t p B G},ok s t->Inv s B G->Is G (eU t) (.pointer p)->j' prog f (.pointer p::c2) B G (fun _ B' G'=>Inv (step s t) B' G')
section
variable {P:Program} {C:aA} {n:Nat} {fr:Fr} {own:List av} {G:Gh}
end
def F1{σ:Type}(step:σ->Tr->σ)(ok:σ->Tr->Prop):σ->List Tr->Prop
 |_,[]=>True
 |s,t::ts=>ok s t/\F1 step ok (step s t) ts
structure EX (σ:Type) where
 ts:List Tr
 vs:List Value
 rest:List Value
 b:Nat
 cap:Nat
 lo:Bool
 s:σ
 B:List av
def Tx(t:Tr):Nat:=2*t.size+1
def EQ(ts:List Tr):List Tr:=ts.reverse.flatMap Tr.pre
structure EI (A:Gh) {σ:Type} (step:σ->Tr->σ) (ok:σ->Tr->Prop) (Inv:σ->List av->Gh->Prop) (N:Nat) (fin:σ) (x:EX σ) (G:Gh):Prop where
 rel:ou (fun v t=> ∃p,v= .pointer p/\Is A (eU t) (.pointer p)) x.vs x.ts
 cap:x.vs.length+x.rest.length=x.cap
 inv:Inv x.s x.B G
 mu:(x.ts.map Tx).sum<=N
 okf:F1 step ok x.s (EQ x.ts)
 fin:(EQ x.ts).foldl step x.s=fin
def WY(nbk:Nat)(s:Nat)(B:List av)(_:Gh):Prop:= ∃lo,B=[⟨nbk,[.int .i64 s],3,lo⟩]
def Xm(s:Nat):Tr->Nat
 | .leaf _=>s
 | .node .. =>s+1
def VM(n:Nat)(f:Nat->Bool):Nat:=((List.range n).filter fun j=>!f j).length
def A8(ns:List RN):Nat->Int->RS->Tr×RS
 |0,_,s=>(.leaf false,s)
 |m+1,rt,s=>
  if rt= -1 then(.leaf false,s) else if rt= -2 then(.leaf true,s) else
  match ns[rt.toNat]? with
  |none=>(.leaf false,⟨s.f,s.c,true⟩)
  |some n=>if rt<0\/s.f rt.toNat=true then(.leaf false,⟨s.f,s.c,true⟩) else
   match n.g.ln with
   |none=>(.leaf false,⟨qt s.f rt.toNat,s.c+1,true⟩)
   |some l=>let a:=A8 ns m n.l ⟨qt s.f rt.toNat,s.c+1,s.b⟩;let b:=A8 ns m n.r a.2;(.node l a.1 b.1,b.2)
def Ll(ns:List RN)(rt:Int):Option Tr:=
 let r:=A8 ns (ns.length+1) rt QE
 if r.2.b=false/\r.2.c=ns.length then some r.1 else none
def Xl:Option Tr->DV
 |some t=> .tp [eU t,vB true]
 |none=> .tp [.v (.pointer none),vB false]
end Go.Sx
end
section
namespace Go.Sx
open Go Go.Proofs Go.RowKit Go.Extern.Stop Go.Stop Go.Extern
def ON(v:Value)(w:World):(Extern.ReflectliteType.typeOf #[.iface 499 v]).run Tryz.prog w= .ok (.iface 291 (.agg #[.pointer (some ⟨Tryz.prog.globals.size,499,none⟩)])) w:=by kernel_rfl
def JH:TypeId->Sem Value:=fun t=>do Go.Extern.Rtype.noPackHeld "Comparable" t;pure (.bool (<-typeInfo t).comparable)
def OU(w:World):((Extern.ReflectliteType.method JH) #[.agg #[.pointer (some ⟨Tryz.prog.globals.size,499,none⟩)]]).run Tryz.prog w= .ok (.bool true) w:=by kernel_rfl
def Lm:(Tryz.prog.info? 499).map (·.comparable)=some true:=by kernel_rfl
def UO:(Tryz.prog.info? 524).map (·.size)=some 1:=by kernel_rfl
def Vg(n:Nat)(v:Value)(w:World):(Go.method (n+1) 291 v "Comparable").run Tryz.prog w= .ok (437,v) w:=by
 kernel_rfl
def S2(a:Addr)(w:World):Calls Tryz.prog 28 #[.iface 499 (.pointer (some a)), .iface 499 (.pointer (some a))] w fun e w'=>e= .returned (.bool true)/\w'=w:=by
 obtain⟨i,hi,hcmp⟩:=Option.map_eq_some_iff.1 Lm;obtain⟨j,hj,hjs⟩:=Option.map_eq_some_iff.1 UO;have h8:= @run_callFunc_extern Tryz.prog 91 _ Extern.ReflectliteType.typeOf Tryz.func91 (by kernel_rfl) (by kernel_rfl) (by kernel_rfl) (by kernel_rfl);have h32:= @run_callFunc_extern Tryz.prog 437 _ (Extern.ReflectliteType.method JH) Tryz.func437 (by kernel_rfl) (by kernel_rfl) (by kernel_rfl) (by kernel_rfl);have tT:=ON;have cT:=OU;obtain⟨g,hg⟩: ∃g,g=Tryz.prog.globals.size:=⟨_,rfl⟩;simp only[<-hg] at tT cT;clear hg;have mR:=Vg;have heq:=run_eql_iface_ptr_same (P:=Tryz.prog) w a Tryz.underlying34 Tryz.underlying499 hi hcmp hj
 go_enter Tryz.func28,Tryz.ntmps28
 go_wp2
 refine wp_loop_rounds 1 ?_;rw[rounds_succ]
 go_wp2
 go_ret
 exact⟨J,J⟩
def LQ:kO Tryz.prog 28:=⟨_,Tryz.func28,by kernel_rfl,by kernel_rfl⟩
def qh(a:Addr):DV:= .v (.iface 499 (.pointer (some a)))
def UJ{GB:Gh}{a:Addr}:PF GB Tryz.prog 28 [qh a,qh a] (.v (.bool true)):=by
 intro G vs _ hv;obtain⟨v1,m,rfl,h1,hm⟩:=bD.1 hv;obtain⟨v2,m,rfl,h2,hm⟩:=bD.1 hm;rw[cp] at hm;subst hm
 cases bc.1 h1;cases bc.1 h2
 exact(Fn.of_calls LQ (S2 a)).mono fun v G' _ h=>bc.2 h
end Go.Sx
end
section
namespace Go.Sx
open Go Go.Proofs Tryz
variable {GB:Gh}
structure EG (GB:Gh) (ai al ae:Addr):Prop where
 ErrInvalid:GB 0=some [.iface 499 (.pointer (some ai))]
 ErrLimit:GB 1=some [.iface 499 (.pointer (some al))]
structure V7 (GB:Gh) (ai al ae:Addr):Prop extends EG GB ai al ae where
 ErrEmpty:GB 4=some [.iface 499 (.pointer (some ae))]
structure Tr.gd (t:Tr):Prop where
 lb:t.all LB
 ok:t.all ab.ok
def Ds(op:Int)(a b:Tr):Option Tr:=if 1024<a.depth+b.depth then none else if 65536<(a.mergeQ op b []).size then none else some (a.mergeQ op b [])
def W8(al:Addr):Option Tr->DV
 |some t=> .tp [eU t, .v .nilIface]
 |none=> .tp [.v (.pointer none),qh al]
def IG(op:Int):Tr->List Tr->Option Tr
 |t,[]=>some t
 |t,u::us=>match Ds op t u with
  |none=>none
  |some r=>IG op r us
def Aj:DV:= .ag [vI 0, .sl []]
def Wd:Tr ⊕ Addr->DV
 | .inl t=> .tp [eA t, .v .nilIface]
 | .inr e=> .tp [Aj,qh e]
def XE(ai:Addr):Option Tr->Tr ⊕ Addr
 |some t=> .inl t.compl
 |none=> .inr ai
def EZ(al:Addr):Option Tr->Tr ⊕ Addr
 |some t=> .inl t
 |none=> .inr al
def XT(ai al:Addr)(op:Int):Option Tr->Option Tr->Tr ⊕ Addr
 |some a,some b=>if 1<=op/\op<=4 then EZ al (Ds op a b) else .inr ai
 |_,_=> .inr ai
abbrev nf:=Int×List RN
def nf.d(x:nf):DV:=Uf x.1 x.2
def nf.q(x:nf):Option Tr:=Ll x.2 x.1
def NP:Option Tr->DV
 |some t=>eU t
 |none=> .v (.pointer none)
def Vz(op:Int)(ts:List nf):Bool:=decide (1<=op/\op<=4)&&ts.all fun x=>x.q.isSome
def Yi(ai al ae:Addr)(op:Int)(ts:List nf):Tr ⊕ Addr:=
 if Vz op ts then(match ts.filterMap nf.q with
  |[]=> .inr ae
  |a::us=>if 1024<a.depth then .inr al else EZ al (IG op (a.restrict []) us)) else .inr ai
def XD(ts:List nf):List DV:=ts.map fun x=>NP x.q
structure nf.ok (x:nf):Prop where
 s: ∀n∈x.2,n.g.sm
 n:x.2.length<=65536
def RN.of(n:NQ):RN:=⟨⟨decide (n.l.a<0),dg n.l.a.natAbs,decide (n.l.b<0),dg n.l.b.natAbs,decide (n.l.c<0),dg n.l.c.natAbs⟩,n.a,n.b⟩
def Av(ns:List NQ):Tr->Int->List Nat->Prop
 | .leaf b,rt,L=>rt=wn b/\L=[]
 | .node l x y,rt,L=> ∃(k:Nat) (a b:Int) (L1 L2:List Nat),rt=(k:Int)/\ns[k]? =some ⟨l,a,b⟩/\Av ns x a L1/\Av ns y b L2/\L=k::(L1++L2)
def VG(ns:List NQ)(t:Tr)(rt:Int):Prop:= ∃L,Av ns t rt L/\L.Nodup/\L.length=ns.length
def ED{a i:Nat}[ha:BN a i](hi:i<=400000000:=by decide):PF GB prog 194 [dN a] (dN a):=by
 have hl:=dH (dg a);have hb:=i8 ha.h;refine fn func194 J J ntmps194 J J (fun C=>?_);refine wJ J J<|ap ((dg a).map dU) J J (pw _) J<|?_;refine jw 5 J ?_;exact rz J J
def xL{z:Int}{i:Nat}[hz:BI z i](hi:i<=400000000:=by decide):PF GB prog 193 [eI z] (eI z):=by
 refine fn func193 J J ntmps193 J J (fun C=>?_);refine cl J (ED (a:=z.natAbs) (i:=i) (ha:=⟨hz.h⟩) hi) J<|?_;exact rz J J
def Sd{l:ab}(hl:BL l 96):PF GB prog 139 [eL l] (eL l):=by
 haveI h1:BI l.a 96:=⟨hl.a⟩;haveI h2:BI l.b 96:=⟨hl.b⟩;haveI h3:BI l.c 96:=⟨hl.c⟩;refine fn func139 J J ntmps139 J J (fun C=>?_);refine cl J (xL (z:=l.a)) J<|cl J (xL (z:=l.b)) J<|cl J (xL (z:=l.c)) J<|?_;exact rz J J
def Fe{ls:List ab}(hb: ∀l∈ls,BL l 96)(hn:ls.length<=1000000):PF GB prog 55 [.sl (ls.map eL)] (.sl (ls.map eL)):=by
 have hll:=UM ls;refine fn (fu:=⟨15⟩) func55 J J ntmps55 J J (fun C=>?_);refine aj 7 (.d (vI (ls.length:Nat))) J (by rw[hll]<;>rfl) ?_;refine gx J<|?_;refine nr 3 2000 147 6 J J J ?_;refine lp (X:=Nat) (fun i=>[(8, .d (vI (i:Nat))),(3, .rw 2000)]) (fun i=>[(2000,some (.b 147 6 ((ls.take i).map eL) true))]) (fun i=>i<=ls.length) (fun i=>ls.length-i) 0 J (bJ _) (fun _=>J) (fun i hk=>?_);have htl:((ls.take i).map eL).length=i:=by simp;omega
 refine br J J J (fun hc9=>?_) (fun hc9=>?_)
 .
  have hi:i<ls.length:=by omega
  refine ix _ J (T5 hi) J<|cl J (Sd (l:=ls[i]) (hb _ (gT hi))) J<|rf J J<|ap ((ls.take (i+1)).map eL) J (by rw[dL hi,cX];rfl) (kz [_]) J<|?_;refine fA 16 2000 J ?_;exact at_ (i+1) ⟨(by omega),(by omega)⟩
 .
  obtain rfl:i=ls.length:=by omega
  refine jw 2000 J ?_;exact rz J (by rw[bN]<;>rfl)
def Dx{ds:List Nat}(hd:aO ds)(hn:ds.length<=1000000):PF GB prog 210 [d7 ds] (dN (dv ds)):=by
 have hm:=dH ds;refine fn func210 J J ntmps210 J J (fun C=>?_);refine wJ J J<|ap (ds.map dU) J J (pw _) J<|fz 5 J J<|cl J (nq (ds:=ds) (by omega)) J<|?_;exact rz J (by unfold dN;rw[lm hd];rfl)
def Na{neg:Bool}{ds:List Nat}(hd:aO ds)(hn:ds.length<=1000000):PF GB prog 185 [.ag [.v (.bool neg),d7 ds]] (eI (sr neg ds)):=by
 refine fn func185 J J ntmps185 J J (fun C=>?_);refine cl J (Dx hd hn) J<|cl J gH J<|?_;exact rz J J
def XB(r:RL):DV:= .tp [if r.nm then eL r.l else .ag [.v (.bool false), .sl [], .v (.bool false), .sl [], .v (.bool false), .sl []],vB (decide (r.nm/\r.l.ok))]
def smB(n:Int)(ls:List (List Nat)):Bool:=ls.all fun d=>decide ((d.length:Int)<=n)
def RL.smB(n:Int)(r:RL):Bool:=Sx.smB n [r.da,r.db,r.dc]
def Ys(n:Int)(ls:List RL):Bool:=ls.all fun r=>r.smB n
def VX(cs:List RL):Option (List ab):=if cs.all (fun r=>r.ln.isSome) then some (cs.filterMap RL.ln) else none
def VF:Option (List ab)->DV
 |some ls=> .tp [.sl (ls.map cF),vB true]
 |none=> .tp [.sl [],vB false]
def Lf(ls:List ab):dq 9 (ls.map cF):=fun d hd=>by
 obtain⟨u,_,rfl⟩:=bY.1 hd;exact⟨rfl,rfl⟩
def Wz:Option b7->DV
 |some c=> .tp [.sl (c.map b6),vB true]
 |none=> .tp [.sl [],vB false]
def Yg(ai al:Addr)(more:Nat):Option Tr->DV
 |none=> .tp [.v (.pointer none),qh ai]
 |some t=>if 1024<t.depth+more then .tp [.v (.pointer none),qh al] else .tp [eU t, .v .nilIface]
def Wo(ai:Addr)(f:Tr->Tr):Option Tr->Tr ⊕ Addr
 |some t=> .inl (f t)
 |none=> .inr ai
def Yw(ai ae:Addr):Option Tr->Option (List ab)->Tr ⊕ Addr
 |some t,some ls=>(match Hx ls [] with
  |some c=> .inl (t.restrict c)
  |none=> .inr ae)
 |_,_=> .inr ai
def Yx(ai:Addr):Option ab->Option Tr->DV
 |some m,some t=> .tp [eA (t.restrict (jh [] m)),eA (t.restrict (jh [] m.rev)), .v .nilIface]
 |_,_=> .tp [Aj,Aj,qh ai]

def Tr.val:Tr->aa->Bool
 | .leaf b,_=>b
 | .node l x y,p=>if 0<l.value p then x.val p else y.val p
def Tr.lns:Tr->List ab
 | .leaf _=>[]
 | .node l x y=>l::(x.lns++y.lns)
def Ta(L:List ab)(p:aa):Prop:= ∀l∈L,l.value p≠0
def XN(op:Int)(a b:Bool):Bool:=if op=1 then a||b else if op=2 then a&&b else if op=3 then a&&!b else a !=b
def Tr.Red:Tr->b7->Prop
 | .leaf _,_=>True
 | .node l x y,c=>jD c l=true/\jD c l.rev=true/\x.Red (jh c l)/\y.Red (jh c l.rev)/\ ¬(x.isLeaf=true/\y.isLeaf=true/\x.code=y.code)
def ab.same(l m:ab):Prop:=m=l\/m=l.rev
instance (l m:ab):Decidable (l.same m):=inferInstanceAs (Decidable (_\/_))
def Tr.cnt(l:ab):Tr->Nat
 | .leaf _=>0
 | .node m x y=>(if l.same m then 1 else 0)+(x.cnt l+y.cnt l)
def Xu(l:ab)(c:b7):Prop:= ∃p,pO c p/\l.value p=0
def We(c:b7)(p:aa):Bool:=c.all fun s=>decide (0<s.l.value p)
def VI(P:List aa)(l:ab)(t:Tr):Prop:=t.all fun m=>l.same m\/ ∀p,l.value p=0->m.value p=0->p∈P
def OJ(K:List ab)(t:Tr):Prop:=t.all fun n=> ∃m∈K,m.same n
def Wi(l m:ab):aa:=l.at (-(l.cutC m/l.cutK m))
def Kc(t:Tr):List ab->Nat
 |[]=>0
 |l::K=>t.cnt l+Kc t K
def Ks(n:ab):List ab->Nat
 |[]=>0
 |l::K=>(if l.same n then 1 else 0)+Ks n K
def Tr.chooseL(op:Int)(b:Bool)(t:Tr)(c:List ab):Tr:=
 if op=1/\b=true then .leaf true
 else if(op=2\/op=3)/\b=false then .leaf false
 else if(op=3\/op=4)/\b=true then(t.restrictL c).compl else t.restrictL c
def Tr.mergeL(op:Int):Tr->Tr->List ab->Tr
 | .leaf b,u,c=>u.chooseL op b c
 | .node l x y,u,c=>if xA c l=1 then x.mergeL op u c else if xA c l= -1 then y.mergeL op u c else joinQ l (x.mergeL op u (nG (c++[l]))) (y.mergeL op u (nG (c++[l.rev])))
structure WL (L:List ab) (a b:Tr):Prop where
 oa:a.all ab.ok
 ob:b.all ab.ok
 ok: ∀l∈L,l.ok
 la: ∀l∈a.lns,l∈L
 lb: ∀l∈b.lns,l∈L
def tw(x:Rat):List Rat->List Rat
 |[]=>[x]
 |u::t=>if u<x then u::tw x t else if u=x then u::t else x::u::t
def y0(l:List Rat):List Rat:=l.foldl (fun out x=>tw x out) []
def Hw:List Rat->List Rat
 |a::b::t=>(a+b)/2::Hw (b::t)
 |_=>[]
def yu:List Rat->List Rat
 |[]=>[0]
 |a::t=>(a-1)::(Hw (a::t)++[(a::t).getLast (by simp)+1])
def In:List ab->List Rat
 |[]=>[]
 |a::t=>(if a.b=0 then [a.base.x] else [])++(t.filterMap (fun b=>if crossI a b=0 then none else some (mc a b).x)++In t)
def yA(a:ab)(x:Rat):Rat:= -(((a.a:Rat)*x+(a.c:Rat))/(a.b:Rat))
def Eo(l:List ab)(x:Rat):List Rat:=l.filterMap fun a=>if a.b=0 then none else some (yA a x)
def H3(l:List ab):List aa:=(yu (y0 (In l))).flatMap fun x=>(yu (y0 (Eo l x))).map fun y=>⟨x,y⟩
def Xd(l:ab)(p:aa):ab:=if 0<l.value p then l else l.rev
def F0(out:List Rat)(s:bi):List Rat:=if s.nh then(if s.nl then out else tw s.lo out) else tw s.hi (if s.nl then out else tw s.lo out)
def BJ(l:List bi):List Rat:=l.foldl F0 []
def JT:List bi->Rat->Int
 |[],_=>0
 |s::t,x=>
  let a:=if s.nl then 1 else bt x s.lo
  let b:=if s.nh then-1 else bt x s.hi
  if 0<a/\b<0 then 2 else if(a=0/\b<=0)\/(b=0/\0<=a) then 1 else JT t x
def J4(l:List bi)(x:Rat):Bool:=decide (JT l x=2)
def yU(cuts:List Rat)(i:Nat):bi:=⟨if i=0 then 0 else cuts.getD (i-1) 0,if i<cuts.length then cuts.getD i 0 else 0,decide (i=0),decide (i=cuts.length)⟩
def Tc(v w:bi):bi:=⟨v.lo,w.hi,v.nl,w.nh⟩
def Ko(cuts:List Rat)(marks:List Bool):Nat->List bi
 |0=>[]
 |k+1=>
  let out:=Ko cuts marks k
  if marks.getD k false then
   (if 0<k/\marks.getD (k-1) false=true then(match out.getLast? with
    |some v=>out.dropLast++[Tc v (yU cuts k)]
    |none=>out++[yU cuts k]) else out++[yU cuts k])
  else out
def UZ(cuts:List Rat)(marks:List Bool):List bi:=Ko cuts marks marks.length
def Mz(op:Int)(x y:Bool):Bool:=if op=2 then x&&y else if op=3 then x&&!y else if op=4 then x !=y else x||y
def QQ(op:Int)(a b:List bi):List bi:=UZ (BJ (a++b)) ((yu (BJ (a++b))).map fun t=>Mz op (J4 a t) (J4 b t))
def Fc(l m:ab)(side:Int):List bi:=
 if crossI l m=0 then(if(m.value l.base).num.sign=side then [bi.all] else [])
 else if(m.value (l.at (dl l (mc l m)+1))).num.sign=side then [⟨dl l (mc l m),0,false,true⟩] else [⟨0,dl l (mc l m),true,false⟩]
def Jg(l m:ab):Bool:=decide (crossI l m=0/\(m.value l.base).num.sign=0)
def xz(f:aI)(m:ab)(side:Int):List aI:=if Jg f.l m then [] else(QQ 2 [f.v] (Fc f.l m side)).map fun v=>⟨f.l,v⟩
structure XV (cuts:List Rat) (v:bi):Prop where
 z:xw v
 lo:v.nl=true\/v.lo∈cuts
 hi:v.nh=true\/v.hi∈cuts
structure tS (f:aI):Prop where
 lb:LB f.l
 ok:f.l.ok
 z:xw f.v
 lo:BQ f.v.lo 1200
 hi:BQ f.v.hi 1200
def Ba(acc:aa->Bool):Nat->List aI->List ab->Tr
 |_,[],c=> .leaf (acc (Fo c c))
 |0,_::_,_=> .leaf false
 |n+1,f::t,c=> .node f.l (Ba acc n ((f::t).flatMap fun g=>xz g f.l 1) (c++[f.l])) (Ba acc n ((f::t).flatMap fun g=>xz g f.l (-1)) (c++[f.l.rev]))
def Xo(n:Nat)(l:List aI):Prop:= ∃K:List ab,K.length<=n/\ ∀f∈l,∃m∈K,m.same f.l
end Go.Sx
end
