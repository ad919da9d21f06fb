import Derived.Test.YtefoocgiaegobaaGreatDoorPe12
import Derived.RecoverIn
set_option linter.all false
set_option maxHeartbeats 1000000
set_option maxRecDepth 100000
section
namespace Go.Sx
open Go Go.Proofs Tryz
variable {GB:Gh}
def Lj{m:Int}{g:Nat}(hg:(g:Int)∣m)(hb:m.natAbs<4611686018427387904):IntKind.i64.wrap (m.tdiv g)=m/g:=by
 rw[Int.tdiv_eq_ediv_of_dvd hg];have:=mL m g;exact Ki (by omega)
def tm(a b:Int):Int:=if(a*b).natAbs<4611686018427387904 then a*b else 0
def GU(a b:Int):(tm a b).natAbs<4611686018427387904:=by unfold tm;split<;>omega
def y0{a b:Int}(h:(a*b).natAbs<4611686018427387904):tm a b=a*b:=if_pos h
def Ko{a b:Int}(h: ¬(a*b).natAbs<4611686018427387904):DV.tp [vI 0, .v (.bool false)]= .tp [vI (tm a b),vB (decide ((a*b).natAbs<4611686018427387904))]:=by unfold tm;rw[if_neg h,decide_eq_false h];rfl
def OU{a b:Int}{x:Int}(h:(a*b).natAbs<4611686018427387904)(e:x=a*b):DV.tp [vI x, .v (.bool true)]= .tp [vI (tm a b),vB (decide ((a*b).natAbs<4611686018427387904))]:=by unfold tm;rw[if_pos h,decide_eq_true h,e];rfl
def Ii(n:Nat):eI (n:Int)= .ag [.v (.bool false),dN n]:=by unfold eI;rw[decide_eq_false (by omega),jR]
def YG{p q:Rat}(hp:p.den=1)(hq:q.den=1):rgcd p q=((Nat.gcd p.num.natAbs q.num.natAbs:Nat):Int):=by
 conv=>lhs;rw[AO hp,AO hq]
 exact uh _ _
def Vv(q:Rat):mkRat (zv (decide (q.num<0)) q.den) q.num.natAbs=q⁻¹:=by
 rw[Rat.inv_def];by_cases h:q.num<0
 ·rw[decide_eq_true h];exact Zp h
 ·rw[decide_eq_false h,<-Rat.divInt_ofNat,nZ (by omega)];rfl
instance BQ.inv (q:Rat) (i:Nat) [h:BQ q i]:BQ q⁻¹ i:=by
 have h1:=h.hn;have h2:=h.hd;have h3:=q.den_nz;rcases nX q.num 0 with k|k|k
 ·obtain⟨e1,e2⟩:=Px k;exact⟨by omega,by omega⟩
 ·have e:q=0:=oY.1 k
  have e0:(0:Rat)⁻¹=0:=Rat.inv_zero;rw[e] at h1 h2⊢;rw[e0];exact⟨h1,h2⟩
 ·obtain⟨e1,e2⟩:=Pq k;exact⟨by omega,by omega⟩
instance BQ.half:BQ (mkRat 1 2) 2:=⟨by decide,by decide⟩
def XC{x y:Nat}(hx:x<18446744073709551616)(hy:y<18446744073709551616):PF GB prog 359 [.v (.int .u64 (x:Nat)), .v (.int .u64 (y:Nat))] (.tp [.v (.int .u64 ((x*y/18446744073709551616:Nat):Int)), .v (.int .u64 ((x*y%18446744073709551616:Nat):Int))]):=fun G vs _ hv=>by
 obtain⟨v,m,rfl,h1,h2⟩:=ba.1 hv;obtain⟨u,m',rfl,h3,h4⟩:=ba.1 h2
 cases cA.1 h4
 rw[aG.1 h1,aG.1 h3];exact(Rt hx hy).mono fun v G' _ h=>by subst h;exact iD.2 ⟨_,J, .cons (aG.2 J) (.cons (aG.2 J) .nil)⟩
def L6{a b:Nat}(ha:a<18446744073709551616)(hb:b<18446744073709551616):PF GB prog 349 [.v (.int .u64 (a:Nat)), .v (.int .u64 (b:Nat))] (.v (.int .u64 (Nat.gcd a b:Nat))):=by
 refine fn func349 J J ntmps349 J J (fun C=>?_);refine lp (X:=Nat×Nat) (fun⟨u,v⟩=>[(1, .d (.v (.int .u64 (v:Nat)))),(0, .d (.v (.int .u64 (u:Nat))))]) (fun⟨u,v⟩=>[]) (fun⟨u,v⟩=>u<18446744073709551616/\v<18446744073709551616/\Nat.gcd u v=Nat.gcd a b) (fun⟨u,v⟩=>v) (a,b) J ⟨ha,hb,J⟩ (fun _=>J) (fun⟨u,v⟩ hk=>?_);dsimp only at hk⊢;obtain⟨h1,h2,h3⟩:=hk;refine br (v1:=fun hc6=>by simp only[ah];exact⟨by omega,by kernel_rfl⟩) J J J (fun hc6=>?_) (fun hc6=>?_)
 .
  have hm:=dT u (show 0<v by omega);exact at_ (v,u%v) (by dsimp only;exact⟨⟨h2,by omega,by rw[<-h3,iU u v,sT v u,iU]⟩,hm⟩)
 .
  exact rz J (by rw[<-h3,show v=0 by omega,mK];rfl)
def qf{m:Int}(h:m.natAbs<9223372036854775808):PF GB prog 199 [vI m] (eF (m:Rat)):=by
 refine fn func199 J J ntmps199 J J (fun C=>?_);refine cs 5 J J J (fun hg5=>?_) (fun hg5=>?_)
 .
  refine cl J (F5 (m:=m) (by omega) (by omega)) J<|rf (fu:=⟨0⟩) J J<|?_;refine aB 11 (.d (dN 1)) J (by unfold dN;rw[y7];rfl) ?_;refine gx J<|cl J (sE (n:=decide (m<0)) (a:=m.natAbs) (i:=63) (h:=⟨h⟩) (d:=1)) J<|?_;exact rz J (by rw[kC,show mkRat m 1=(m:Rat) from rS ..];rfl)
 .
  refine br J J J (fun hc8=>?_) (fun hc8=>?_)
  .
   refine cl J (F5 (m:=m) (by omega) (by omega)) J<|rf (fu:=⟨0⟩) J J<|?_;refine aB 11 (.d (dN 1)) J (by unfold dN;rw[y7];rfl) ?_;refine gx J<|cl J (sE (n:=decide (m<0)) (a:=m.natAbs) (i:=63) (h:=⟨h⟩) (d:=1)) J<|?_;exact rz J (by rw[kC,show mkRat m 1=(m:Rat) from rS ..];rfl)
  .
   exact iu J (NL (by omega))
def zm{a b:Int}(ha:a.natAbs<4611686018427387904)(hb:b.natAbs<4611686018427387904):PF GB prog 299 [vI a,vI b] (.tp [vI (tm a b),vB (decide ((a*b).natAbs<4611686018427387904))]):=by
 have hab:=iN a b;refine fn func299 J J ntmps299 J J (fun C=>?_);refine cl J (Aj (m:=a) (by omega)) J<|cl J (Aj (m:=b) (by omega)) J<|cl J (XC (x:=a.natAbs) (y:=b.natAbs) (by omega) (by omega)) J<|?_;refine cs 18 J J J (fun hg18=>?_) (fun hg18=>?_)
 .
  exact rz J (Ko (by omega))
 .
  refine br J J J (fun hc21=>?_) (fun hc21=>?_)
  .
   exact rz J (Ko (by omega))
  .
   refine bb J J J (fun hc26=>?_) (fun hc26=>?_)
   .
    have hs:=K0 a b;rw[if_neg (by simpa using hc26)] at hs;exact rz J (OU (by omega) (by rw[hs,<-hab];omega))
   .
    have hs:=K0 a b;rw[if_pos (by simpa using hc26)] at hs;exact rz J (OU (by omega) (by rw[hs,<-hab];omega))
def JJ{m:Int}{d:Nat}(h:m.natAbs<4611686018427387904)(h0:0<d)(hd:d<4611686018427387904):PF GB prog 300 [vI m,vI (d:Nat)] (eF (mkRat m d)):=by
 have hg:Nat.gcd m.natAbs d<=d:=Nat.gcd_le_right _ h0;have hg0:0<Nat.gcd m.natAbs d:=pN _ h0;obtain⟨e1,e2⟩:=JW (m:=m) h0;have e3:=mL m (Nat.gcd m.natAbs d:Nat);have e4:=kJ d (Nat.gcd m.natAbs d);have e5:=Nat.div_pos hg hg0;refine fn func300 J J ntmps300 J J (fun C=>?_);refine cl J (Aj (m:=m) (by omega)) J<|cl J (L6 (a:=m.natAbs) (b:=d) (by omega) (by omega)) J<|?_;refine br (fu1:=⟨4⟩) J J J (fun hc13=>?_) (fun hc13=>?_)
 .
  refine aB 16 (.d (vI (m/(Nat.gcd m.natAbs d:Nat)))) J (by rw[Lj (Int.dvd_natAbs.1 (qT.2 (jL _ _))) h];rfl) ?_;refine gx (fu:=⟨3⟩) J<|?_;refine aB 19 (.d (vI ((d/Nat.gcd m.natAbs d:Nat)))) J (by rw[Lj (qT.2 (kN _ _)) (by rw[jR];exact hd)];rfl) ?_;refine gx (hv:=by simp only[ah];exact⟨by kernel_rfl,by omega⟩) J<|?_;exact iu J (qv (fun k=>k ⟨by rw[e1];omega,by rw[e2];omega⟩) e1 (by rw[e2]) J)
 .
  exact iu J (by have h1:Nat.gcd m.natAbs d=1:=(by omega);rw[h1,sS] at e2;rw[h1,Int.natCast_one,Int.ediv_one] at e1;exact qv (fun k=>k ⟨by rw[e1];omega,by rw[e2];omega⟩) e1 (by rw[e2]) J)
def qC{p q:Rat}{i j:Nat}[h:BQ p i][k:BQ q j](hi:i<=100000000:=by decide)(hj:j<=100000000:=by decide):PF GB prog 207 [eF p,eF q] (eF (p*q)):=by
 refine fn (fu:=⟨8⟩) func207 J J ntmps207 J J (fun C=>?_);refine mg (X:=Unit) (fun _=>[(2, .ov 2 0),(3, .ov 3 0),(4, .ov 4 0)]) (fun _=>[(2,some (.o 139 [.d (vI (dm p)), .d (vI (dq p)), .d (di p)] true)),(3,some (.o 139 [.d (vI (dm q)), .d (vI (dq q)), .d (di q)] true)),(4,some (.o 139 [.d (.v (.int .i64 0)), .d (.v (.int .i64 0)), .d (.v (.pointer none))] true))]) (fun _=>True) [2,3,4] [2,3,4] rfl ?_ (fun _=>J) (fun _ _=>?_)
 .
  refine gx J<|?_;refine cs 12 J J J (fun hg12=>?_) (fun hg12=>?_)
  .
   refine br (fu1:=⟨4⟩) J J J (fun hc16=>?_) (fun hc16=>?_)
   .
    have hp:=q8 hg12;have hq:=q8 hc16;have p1:=lG hp;have p2:=ni hp;have p3:=oC hp;have p4:=pe hp;have p5:=p.den_nz;have q1:=lG hq;have q2:=ni hq;have q3:=oC hq;have q4:=pe hq;have q5:=q.den_nz;refine aB 19 (.d (vI p.num)) J (by rw[p1]) ?_;refine gx (fu:=⟨2⟩) J<|?_;refine aB 21 (.d (vI q.num)) J (by rw[q1]) ?_;refine gx J<|cl (fu:=⟨12⟩) J (zm (a:=p.num) (b:=q.num) (by omega) (by omega)) J<|?_;refine aB 28 (.d (vI (p.den:Nat))) J (by congr 3;omega) ?_;refine gx (fu:=⟨3⟩) J<|?_;refine aB 31 (.d (vI (q.den:Nat))) J (by congr 3;omega) ?_;refine gx J<|cl J (zm (a:=(p.den:Nat)) (b:=(q.den:Nat)) (by omega) (by omega)) J<|?_;refine csd 36 J J J (fun hg36=>?_) (fun hg36=>?_)
    .
     refine bd (fu1:=⟨3⟩) J J J (fun hc38=>?_) (fun hc38=>?_)
     .
      have hd1:p.den*q.den<4611686018427387904:=by omega
      refine aB 39 (.d (vI (p.num*q.num))) J (by rw[y0 hg36]) ?_;refine gx (fu:=⟨1⟩) J<|?_;refine aB 40 (.d (vI ((p.den*q.den:Nat)))) J (by rw[y0 hc38];rfl) ?_;refine gx J<|cl J (JJ (m:=p.num*q.num) (d:=p.den*q.den) hg36 (kK (by omega) (by omega)) hd1) J<|?_;exact rz J (by rw[<-yz];rfl)
     .
      exact at_ () trivial
    .
     exact at_ () trivial
   .
    exact at_ () trivial
  .
   exact at_ () trivial
 .
  refine cl J (qx (q:=p) (by omega)) J<|cl J (qx (q:=q) (by omega)) J<|cl J (FC (a:=p.num) (b:=q.num) (by omega) (by omega)) J<|?_;refine cl J (qg (q:=p) (by omega)) J<|cl J (qg (q:=q) (by omega)) J<|cl J (ww (a:=p.den) (b:=q.den) (by omega) (by omega)) J<|?_;refine cl J (sE (n:=decide (p.num*q.num<0)) (a:=(p.num*q.num).natAbs) (d:=p.den*q.den) (i:=i+j) (j:=i+j) (by omega) (by omega)) J<|?_;exact rz J (by rw[kC,<-yz];rfl)
def ru{p q:Rat}{i j:Nat}[h:BQ p i][k:BQ q j](hi:i<=100000000:=by decide)(hj:j<=100000000:=by decide):PF GB prog 208 [eF p,eF q] (eF (p+q)):=by
 refine fn (fu:=⟨8⟩) func208 J J ntmps208 J J (fun C=>?_);refine mg (X:=Unit) (fun _=>[(2, .ov 2 0),(3, .ov 3 0),(4, .ov 4 0)]) (fun _=>[(2,some (.o 139 [.d (vI (dm p)), .d (vI (dq p)), .d (di p)] true)),(3,some (.o 139 [.d (vI (dm q)), .d (vI (dq q)), .d (di q)] true)),(4,some (.o 139 [.d (.v (.int .i64 0)), .d (.v (.int .i64 0)), .d (.v (.pointer none))] true))]) (fun _=>True) [2,3,4] [2,3,4] rfl ?_ (fun _=>J) (fun _ _=>?_)
 .
  refine gx J<|?_;refine cs 16 J J J (fun hg16=>?_) (fun hg16=>?_)
  .
   refine br (fu1:=⟨1⟩) J J J (fun hc20=>?_) (fun hc20=>?_)
   .
    have hp:=q8 hg16;have hq:=q8 hc20;have p1:=lG hp;have p2:=ni hp;have p3:=oC hp;have p4:=pe hp;have p5:=p.den_nz;have q1:=lG hq;have q2:=ni hq;have q3:=oC hq;have q4:=pe hq;have q5:=q.den_nz;refine mg (fu:=⟨4⟩) (X:=Unit) (fun _=>[(2, .ov 2 0),(3, .ov 3 0),(4, .ov 4 0)]) (fun _=>[(2,some (.o 139 [.d (vI (dm p)), .d (vI (dq p)), .d (di p)] true)),(3,some (.o 139 [.d (vI (dm q)), .d (vI (dq q)), .d (di q)] true)),(4,some (.o 139 [.d (.v (.int .i64 0)), .d (.v (.int .i64 0)), .d (.v (.pointer none))] true))]) (fun _=>True) [2,3,4] [2,3,4] rfl ?_ (fun _=>J) (fun _ _=>?_)
    .
     refine gx J<|?_;refine cs 24 J J J (fun hg24=>?_) (fun hg24=>?_)
     .
      refine br (fu1:=⟨4⟩) J J J (fun hc28=>?_) (fun hc28=>?_)
      .
       refine aB 30 (.d (vI p.num)) J (by rw[p1]) ?_;refine gx (fu:=⟨2⟩) J<|?_;refine aB 32 (.d (vI q.num)) J (by rw[q1]) ?_;refine gx J<|cl J (qf (m:=p.num+q.num) (by omega)) J<|?_;exact rz J (by rw[AO (q:=p) (by omega),AO (q:=q) (by omega),<-oU];rfl)
      .
       exact at_ () trivial
     .
      exact at_ () trivial
    .
     refine aB 37 (.d (vI p.num)) J (by rw[p1]) ?_;refine gx (fu:=⟨3⟩) J<|?_;refine aB 40 (.d (vI (q.den:Nat))) J (by congr 3;omega) ?_;refine gx J<|cl (fu:=⟨11⟩) J (zm (a:=p.num) (b:=(q.den:Nat)) (by omega) (by omega)) J<|?_;refine aB 46 (.d (vI q.num)) J (by rw[q1]) ?_;refine gx (fu:=⟨3⟩) J<|?_;refine aB 49 (.d (vI (p.den:Nat))) J (by congr 3;omega) ?_;refine gx J<|cl (fu:=⟨12⟩) J (zm (a:=q.num) (b:=(p.den:Nat)) (by omega) (by omega)) J<|?_;refine aB 56 (.d (vI (p.den:Nat))) J (by congr 3;omega) ?_;refine gx (fu:=⟨3⟩) J<|?_;refine aB 59 (.d (vI (q.den:Nat))) J (by congr 3;omega) ?_;refine gx J<|cl (fu:=⟨3⟩) J (zm (a:=(p.den:Nat)) (b:=(q.den:Nat)) (by omega) (by omega)) J<|?_;have t1:=GU p.num (q.den:Nat);have t2:=GU q.num (p.den:Nat);have t3:=GU (p.den:Nat) (q.den:Nat);refine gx J<|?_;refine csd 67 J J J (fun hg67=>?_) (fun hg67=>?_)
     .
      refine csd 70 J J J (fun hg70=>?_) (fun hg70=>?_)
      .
       refine csd 73 J J J (fun hg73=>?_) (fun hg73=>?_)
       .
        refine cs 77 J J J (fun hg77=>?_) (fun hg77=>?_)
        .
         refine br (fu1:=⟨3⟩) J J J (fun hc80=>?_) (fun hc80=>?_)
         .
          have u1:=y0 hg67;have u2:=y0 hg70;have u3:=y0 hg73;have hd1:p.den*q.den<4611686018427387904:=by omega
          refine aB 81 (.d (vI (p.num*(q.den:Nat)+q.num*(p.den:Nat)))) J (by rw[u1,u2];rfl) ?_;refine gx (fu:=⟨1⟩) J<|?_;refine aB 82 (.d (vI ((p.den*q.den:Nat)))) J (by rw[u3];rfl) ?_;refine gx J<|cl J (JJ (m:=p.num*(q.den:Nat)+q.num*(p.den:Nat)) (d:=p.den*q.den) (by omega) (kK (by omega) (by omega)) hd1) J<|?_;exact rz J (by rw[<-zb];rfl)
         .
          exact at_ () trivial
        .
         exact at_ () trivial
       .
        exact at_ () trivial
      .
       exact at_ () trivial
     .
      exact at_ () trivial
   .
    exact at_ () trivial
  .
   exact at_ () trivial
 .
  refine cl J (qx (q:=p) (by omega)) J<|cl (fu:=⟨1⟩) J (qg (q:=q) (by omega)) J<|?_;refine aB 88 (.d (eI (q.den:Nat))) J (by rw[Ii]) ?_;refine gx J<|cl J (FC (a:=p.num) (b:=(q.den:Nat)) (by omega) (by omega)) J<|cl J (qx (q:=q) (by omega)) J<|cl (fu:=⟨1⟩) J (qg (q:=p) (by omega)) J<|?_;refine aB 94 (.d (eI (p.den:Nat))) J (by rw[Ii]) ?_;refine gx J<|cl J (FC (a:=q.num) (b:=(p.den:Nat)) (by omega) (by omega)) J<|cl J (SJ (a:=p.num*(q.den:Nat)) (b:=q.num*(p.den:Nat)) (i:=i+j) (j:=j+i) (by omega) (by omega)) J<|?_;refine cl J (qg (q:=p) (by omega)) J<|cl J (qg (q:=q) (by omega)) J<|cl J (ww (a:=p.den) (b:=q.den) (by omega) (by omega)) J<|?_;refine cl J (sE (n:=decide (p.num*(q.den:Nat)+q.num*(p.den:Nat)<0)) (a:=(p.num*(q.den:Nat)+q.num*(p.den:Nat)).natAbs) (d:=p.den*q.den) (i:=i+j+(j+i)+1) (j:=i+j) (by omega) (by omega)) J<|?_;exact rz J (by rw[kC,<-zb];rfl)
def s5{p q:Rat}{i j:Nat}[h:BQ p i][k:BQ q j](hi:i<=100000000:=by decide)(hj:j<=100000000:=by decide):PF GB prog 334 [eF p,eF q] (eF (p-q)):=by
 refine fn func334 J J ntmps334 J J (fun C=>?_);refine cl J (oD (q:=q) (by omega)) J<|cl J (ru (p:=p) (q:= -q) (by omega) (by omega)) J<|?_;exact rz J (by rw[<-Rat.sub_eq_add_neg];rfl)
def EJ{q:Rat}{i:Nat}[h:BQ q i](hi:i<=400000000:=by decide):PF GB prog 127 [eF q] (eF q⁻¹):=by
 refine fn func127 J J ntmps127 J J (fun C=>?_);refine br (v1:=fun hc3=>by simp only[ah];exact⟨⟨hc3,hc3⟩,hc3⟩) J J J (fun hc3=>?_) (fun hc3=>?_)
 .
  refine cl J (sE (n:=decide (q.num<0)) (a:=q.den) (d:=q.num.natAbs) (by omega) (by omega)) J<|?_;exact rz J (by rw[Vv];rfl)
 .
  have q1:=lG (my hc3);have q2:=ni (my hc3);have q3:=oC (my hc3);have q4:=pe (my hc3);have q5:=q.den_nz;refine br J J J (fun hc26=>?_) (fun hc26=>?_)
  .
   exact iu rfl (by obtain⟨e1,e2⟩:=Px (q:=q) (by omega);exact qv (fun k=>k ⟨by omega,by omega⟩) (by omega) (by omega) rfl)
  .
   refine br J J J (fun hc39=>?_) (fun hc39=>?_)
   .
    exact iu J (by rw[oY.1 (show q.num=0 by omega),Rat.inv_zero];exact wu)
   .
    exact iu rfl (by obtain⟨e1,e2⟩:=Pq (q:=q) (by omega);exact qv (fun k=>k ⟨by omega,by omega⟩) (by omega) (by omega) rfl)
def yp{p q:Rat}{i j:Nat}[h:BQ p i][k:BQ q j](hi:i<=100000000:=by decide)(hj:j<=100000000:=by decide):PF GB prog 304 [eF p,eF q] (eF (p/q)):=by
 refine fn func304 J J ntmps304 J J (fun C=>?_);refine cl J (EJ (q:=q) (by omega)) J<|cl J (qC (p:=p) (q:=q⁻¹) (by omega) (by omega)) J<|?_;exact rz J (by rw[Rat.div_def];rfl)
def OH{G:Gh}{q r:DV}{t:List DV}{vs:List Value}(h: ∀y,Is G r y->Is G q y)(hv:IsLs G (r::t) vs):IsLs G (q::t) vs:=by
 obtain⟨y,m,rfl,h1,h2⟩:=ba.1 hv;exact .cons (h _ h1) h2
def FU{G:Gh}{a q r:DV}{t:List DV}{vs:List Value}(h: ∀y,Is G r y->Is G q y)(hv:IsLs G (a::r::t) vs):IsLs G (a::q::t) vs:=by
 obtain⟨y,m,rfl,h1,h2⟩:=ba.1 hv;exact .cons h1 (OH h h2)
def V4{q:Rat}{i:Nat}[h:BQ q i](hi:i<=100000000:=by decide):PF GB prog 207 [eF q, .ag [vI 1,vI 1, .v (.pointer none)]] (eF (q*mkRat 1 2)):=
 (qC (p:=q) (q:=mkRat 1 2) hi).ofI fun G vs hv=>FU (fun y hy=>qv (q:=mkRat 1 2) (fun k=>k ⟨by decide,by decide⟩) (by decide) (by decide) J G y hy) hv
def Ib{q:Rat}{i:Nat}[h:BQ q i](hi:i<=100000000:=by decide):PF GB prog 214 [eF q] (eF (q*mkRat 1 2)):=by
 refine fn func214 J J ntmps214 J J (fun C=>?_);refine cl J (V4 (q:=q) (by omega)) J<|?_;exact rz J J
def pg{p q:Rat}{i j:Nat}[h:BQ p i][k:BQ q j](hi:i<=100000000:=by decide)(hj:j<=100000000:=by decide):PF GB prog 232 [eF p,eF q] (vI (b9 p q)):=by
 refine fn func232 J J ntmps232 J J (fun C=>?_);refine cs 8 J J J (fun hg8=>?_) (fun hg8=>?_)
 .
  refine cs 13 J J J (fun hg13=>?_) (fun hg13=>?_)
  .
   refine br J J J (fun hc19=>?_) (fun hc19=>?_)
   .
    have hp:=q8 hg8;have hq:=q8 hg13;have p1:=lG hp;have p2:=ni hp;have p3:=oC hp;have p4:=pe hp;have p5:=p.den_nz;have q1:=lG hq;have q2:=ni hq;have q3:=oC hq;have q4:=pe hq;have q5:=q.den_nz;have hl:=Pk (a:=p) (b:=q) (by omega);have hr:=Pk (a:=q) (b:=p) (by omega);unfold b9;refine br J J J (fun hc20=>?_) (fun hc20=>?_)
    .
     exact rz J (by rw[if_pos (hl.2 (by omega))];rfl)
    .
     refine br J J J (fun hc26=>?_) (fun hc26=>?_)
     .
      exact rz J (by rw[if_neg (fun e=>by have:=hl.1 e;omega),if_pos (hr.2 (by omega))];rfl)
     .
      exact rz J (by rw[if_neg (fun e=>by have:=hl.1 e;omega),if_neg (fun e=>by have:=hr.1 e;omega)];rfl)
   .
    refine cl J (s5 (p:=p) (q:=q) (by omega) (by omega)) J<|cl J (lv (q:=p-q) (by omega)) J<|?_;exact rz J (by rw[BG];rfl)
  .
   refine cl J (s5 (p:=p) (q:=q) (by omega) (by omega)) J<|cl J (lv (q:=p-q) (by omega)) J<|?_;exact rz J (by rw[BG];rfl)
 .
  refine cl J (s5 (p:=p) (q:=q) (by omega) (by omega)) J<|cl J (lv (q:=p-q) (by omega)) J<|?_;exact rz J (by rw[BG];rfl)
def uJ{p q:Rat}{i j:Nat}[h:BQ p i][k:BQ q j](hi:i<=100000000:=by decide)(hj:j<=100000000:=by decide):PF GB prog 273 [eF p,eF q] (vB (decide (p=q))):=by
 refine fn func273 J J ntmps273 J J (fun C=>?_);refine cl J (pg (p:=p) (q:=q) hi hj) J<|?_;exact rz J (by show DV.v (.bool (decide _))= .v (.bool _);congr 2;exact decide_eq_decide.2 (tA p q))
def Rs{p q:Rat}{i j:Nat}[h:BQ p i][k:BQ q j](hi:i<=100000000:=by decide)(hj:j<=100000000:=by decide):PF GB prog 380 [eF p,eF q] (eF (if p<q then q else p)):=by
 refine fn func380 J J ntmps380 J J (fun C=>?_);refine cl J (pg (p:=q) (q:=p) hj hi) J<|?_;refine br J J J (fun hc8=>?_) (fun hc8=>?_)
 .
  exact rz J (by rw[if_pos ((Lr q p).1 hc8)];rfl)
 .
  exact rz J (by rw[if_neg (fun e=>hc8 ((Lr q p).2 e))];rfl)
def K3{p q:Rat}{i j:Nat}[h:BQ p i][k:BQ q j](hi:i<=100000000:=by decide)(hj:j<=100000000:=by decide):PF GB prog 288 [eF p,eF q] (eF (if q<p then q else p)):=by
 refine fn func288 J J ntmps288 J J (fun C=>?_);refine cl J (pg (p:=q) (q:=p) hj hi) J<|?_;refine br J J J (fun hc8=>?_) (fun hc8=>?_)
 .
  exact rz J (by rw[if_pos ((Kn q p).1 hc8)];rfl)
 .
  exact rz J (by rw[if_neg (fun e=>hc8 ((Kn q p).2 e))];rfl)
def nH{p q:Rat}{i j:Nat}[h:BQ p i][k:BQ q j](hi:i<=100000000:=by decide)(hj:j<=100000000:=by decide):PF GB prog 272 [eF p,eF q] (eF (rgcd p q)):=by
 refine fn (fu:=⟨8⟩) func272 J J ntmps272 J J (fun C=>?_);refine mg (X:=Unit) (fun _=>[(2, .ov 2 0),(3, .ov 3 0),(4, .ov 4 0)]) (fun _=>[(2,some (.o 139 [.d (vI (dm p)), .d (vI (dq p)), .d (di p)] true)),(3,some (.o 139 [.d (vI (dm q)), .d (vI (dq q)), .d (di q)] true)),(4,some (.o 139 [.d (.v (.int .i64 0)), .d (.v (.int .i64 0)), .d (.v (.pointer none))] true))]) (fun _=>True) [2,3,4] [2,3,4] rfl ?_ (fun _=>J) (fun _ _=>?_)
 .
  refine gx J<|?_;refine cs 10 J J J (fun hg10=>?_) (fun hg10=>?_)
  .
   refine cs 15 J J J (fun hg15=>?_) (fun hg15=>?_)
   .
    have hp:=q8 hg10;have hq:=q8 hg15;have p1:=lG hp;have p2:=ni hp;have p3:=oC hp;have p4:=pe hp;have p5:=p.den_nz;have q1:=lG hq;have q2:=ni hq;have q3:=oC hq;have q4:=pe hq;have q5:=q.den_nz;refine cs 20 J J J (fun hg20=>?_) (fun hg20=>?_)
    .
     refine br (fu1:=⟨4⟩) J J J (fun hc24=>?_) (fun hc24=>?_)
     .
      have hg:=T1 p3 q3;refine aB 26 (.d (vI p.num)) J (by rw[p1]) ?_;refine gx J<|cl (fu:=⟨2⟩) J (Aj (m:=p.num) (by omega)) J<|?_;refine aB 29 (.d (vI q.num)) J (by rw[q1]) ?_;refine gx J<|cl J (Aj (m:=q.num) (by omega)) J<|cl (hv:=by simp only[ah];exact⟨by omega,by kernel_rfl⟩) J (L6 (a:=p.num.natAbs) (b:=q.num.natAbs) (by omega) (by omega)) J<|?_;exact iu J (by rw[YG (p:=p) (q:=q) (by omega) (by omega)];exact NL (by rw[jR];exact hg))
     .
      exact at_ () trivial
    .
     exact at_ () trivial
   .
    exact at_ () trivial
  .
   exact at_ () trivial
 .
  refine cl J (qg (q:=p) (by omega)) J<|cl J (qg (q:=q) (by omega)) J<|cl J (ww (a:=p.den) (b:=q.den) (by omega) (by omega)) J<|?_;refine cl J (qx (q:=p) (by omega)) J<|cl J (qg (q:=q) (by omega)) J<|cl J (ww (a:=p.num.natAbs) (b:=q.den) (by omega) (by omega)) J<|?_;refine cl J (qx (q:=q) (by omega)) J<|cl J (qg (q:=p) (by omega)) J<|cl J (ww (a:=q.num.natAbs) (b:=p.den) (by omega) (by omega)) J<|?_;refine cl J (Hb (a:=p.num.natAbs*q.den) (b:=q.num.natAbs*p.den) (i:=i+j) (j:=j+i) (by omega) (by omega)) J<|cl J (sE (n:=false) (a:=Nat.gcd (p.num.natAbs*q.den) (q.num.natAbs*p.den)) (d:=p.den*q.den) (i:=i+j+(j+i)) (j:=i+j) (by omega) (by omega)) J<|?_;exact rz J J
end Go.Sx
end
section
namespace Go.Sx
open Go
def crossI(l m:aa):Int:=l.a*m.b-m.a*l.b
def meetX(l m:aa):Int:=l.b*m.c-m.b*l.c
def meetY(l m:aa):Int:=m.a*l.c-l.a*m.c
def gO(l m:aa):ab:=if crossI l m=0 then⟨0,0⟩ else⟨(meetX l m:Rat)/(crossI l m:Rat),(meetY l m:Rat)/(crossI l m:Rat)⟩
def en(l:aa)(p:ab):Rat:=p.dot l.dir/l.dir.dot l.dir
def Ek(l:aa):l.dir.dot l.dir=l.nor.dot l.nor:=by
 simp only[aa.dir,aa.nor,ab.dot];grind
def ye{l:aa}(h:l.Ne):0<l.dir.dot l.dir:=by rw[Ek];exact oF h
def Om(l m:aa):((crossI l m:Int):Rat)=(l.a:Rat)*m.b-(m.a:Rat)*l.b:=by
 unfold crossI;rw[oT,cR,cR]
def Yp(l m:aa):((meetX l m:Int):Rat)=(l.b:Rat)*m.c-(m.b:Rat)*l.c:=by
 unfold meetX;rw[oT,cR,cR]
def Q1(l m:aa):((meetY l m:Int):Rat)=(m.a:Rat)*l.c-(l.a:Rat)*m.c:=by
 unfold meetY;rw[oT,cR,cR]
def ze(l m:aa):l.cutK m= -((crossI l m:Int):Rat):=by
 rw[Om];simp only[aa.cutK,aa.nor,aa.dir,ab.dot];grind
def Og(l m:aa):m.dir.cross l.dir=l.cutK m:=by
 simp only[aa.cutK,aa.nor,aa.dir,ab.dot,ab.cross];grind
def P9{l:aa}:(⟨-((l.c:Rat)/l.dir.dot l.dir)*(l.a:Rat), -((l.c:Rat)/l.dir.dot l.dir)*(l.b:Rat)⟩:ab)=l.base:=by
 unfold aa.base;rw[Ek];simp only[aa.nor,ab.scale,ab.mk.injEq];constructor<;>grind
def rI(l:aa)(t:Rat):dG l.base l.dir t=l.at t:=by
 simp only[dG,aa.at,ab.add,ab.scale,ab.mk.injEq];constructor<;>grind
def vg{l m:aa}(hl:l.Ne)(h:crossI l m≠0):en l (gO l m)= -(l.cutC m/l.cutK m):=by
 have hd:((crossI l m:Int):Rat)≠0:=fun e=>h (fZ.1 e);have hn:=ye hl;obtain⟨q,q1,q2⟩:=xq hl;rw[ze];unfold en gO aa.cutC;rw[if_neg h,q2,nf,Yp,Q1];have hc:=Om l m;rw[Ek] at hn⊢;simp only[aa.dir,aa.nor,ab.dot] at hn q1⊢;generalize ((crossI l m:Int):Rat)=d at*;generalize (l.a:Rat)=a at*;generalize (l.b:Rat)=b at*;generalize (l.c:Rat)=c at*;generalize (m.a:Rat)=x at*;generalize (m.b:Rat)=y at*;generalize (m.c:Rat)=z at*;have hn':a*a+b*b≠0:=by grind
 have e:((b*z-y*c)/d*b+(x*c-a*z)/d* -a)=((b*z-y*c)*b-(x*c-a*z)*a)/d:=by grind
 rw[e];have k1:(b*z-y*c)*b-(x*c-a*z)*a=(a*a+b*b)*(x*(a*q)+y*(b*q)+z):=by grind
 rw[k1];grind
def Sc{l m:aa}(hl:l.Ne)(h:crossI l m≠0):en l (gO l m)*((crossI l m*(l.a*l.a+l.b*l.b):Int):Rat)=((meetX l m*l.b-meetY l m*l.a:Int):Rat):=by
 have hd:((crossI l m:Int):Rat)≠0:=fun e=>h (fZ.1 e);have hn:=ye hl;unfold en gO;rw[if_neg h];simp only[cR,oT,oU];simp only[aa.dir,ab.dot] at hn⊢;generalize ((crossI l m:Int):Rat)=d at*;generalize ((meetX l m:Int):Rat)=x at*;generalize ((meetY l m:Int):Rat)=y at*;generalize (l.a:Rat)=a at*;generalize (l.b:Rat)=b at*;have hn':b*b+ -a* -a≠0:=by grind
 grind
def Uv(l m:aa)(t:List aa)(v:ao):il l (m::t) v=if m=l then il l t v else if l.cutB v m then il l t (l.cutV v m) else none:=rfl
def sO(v:ao)(t:Rat):ao:=if v.nl=true\/0<b9 t v.lo then⟨t,v.hi,false,v.nh⟩ else v
def s7(v:ao)(t:Rat):ao:=if v.nh=true\/b9 t v.hi<0 then⟨v.lo,t,v.nl,false⟩ else v
structure iB (v:ao):Prop where
 lo:v.nl=true->v.lo=0
 hi:v.nh=true->v.hi=0
def CN(a b:Rat):0<b9 a b↔b<a:=by
 unfold b9;split
 ·constructor
  ·intro h;exact absurd h (by decide)
  ·intro h;grind
 ·split
  ·exact⟨fun _=>by assumption,fun _=>by decide⟩
  ·constructor
   ·intro h;exact absurd h (by decide)
   ·intro h;exact absurd h (by assumption)
def Bw(a b:Rat):b9 a b<0↔a<b:=by
 unfold b9;split
 ·exact⟨fun _=>by assumption,fun _=>by decide⟩
 ·split
  ·constructor
   ·intro h;exact absurd h (by decide)
   ·intro h;grind
  ·constructor
   ·intro h;exact absurd h (by decide)
   ·intro h;exact absurd h (by assumption)
def I'{v:ao}(h:iB v)(t:Rat):sO v t=v.meet ⟨t,0,false,true⟩:=by
 obtain⟨lo,hi,nl,nh⟩:=v;obtain⟨h1,h2⟩:=h;unfold sO ao.meet;simp only[CN] at*
 cases nl<;>cases nh<;>simp at* <;>(try (split<;>split<;>simp_all<;>grind))<;>grind
def IP{v:ao}(h:iB v)(t:Rat):s7 v t=v.meet ⟨0,t,true,false⟩:=by
 obtain⟨lo,hi,nl,nh⟩:=v;obtain⟨h1,h2⟩:=h;unfold s7 ao.meet;simp only[Bw] at*
 cases nl<;>cases nh<;>simp at* <;>(try (split<;>split<;>simp_all<;>grind))<;>grind
def iB.all:iB ao.all:=⟨fun _=>J,fun _=>J⟩
def iB.lo'{v:ao}(h:iB v)(t:Rat):iB (sO v t):=by
 obtain⟨lo,hi,nl,nh⟩:=v;unfold sO;split
 ·exact⟨fun h=>by simp at h,h.hi⟩
 ·exact h
def iB.hi'{v:ao}(h:iB v)(t:Rat):iB (s7 v t):=by
 obtain⟨lo,hi,nl,nh⟩:=v;unfold s7;split
 ·exact⟨h.lo,fun h=>by simp at h⟩
 ·exact h
def SP{l m:aa}{v:ao}(h:crossI l m=0):l.cutV v m=v/\(l.cutB v m=true↔0<m.value l.base):=by
 have hk:l.cutK m=0:=by rw[ze,h];rfl
 exact wy v hk
def Ub{l m:aa}{v:ao}(hl:l.Ne)(hz:iB v)(h:0<m.dir.cross l.dir):crossI l m≠0/\l.cutV v m=sO v (en l (gO l m))/\l.cutB v m=!(sO v (en l (gO l m))).empty:=by
 rw[Og] at h;have hc:crossI l m≠0:=fun e=>by rw[ze,e] at h;exact absurd h (by decide)
 obtain⟨h1,h2⟩:=vf v h;refine⟨hc,?_,?_⟩
 ·rw[I' hz,vg hl hc,h1]
 ·rw[I' hz,vg hl hc,<-h1]
  rw[<-Az] at h2
  cases hb:l.cutB v m<;>cases he:(l.cutV v m).empty<;>simp_all
def Xg{l m:aa}{v:ao}(hl:l.Ne)(hz:iB v)(h0:crossI l m≠0)(h: ¬0<m.dir.cross l.dir):l.cutV v m=s7 v (en l (gO l m))/\l.cutB v m=!(s7 v (en l (gO l m))).empty:=by
 rw[Og] at h;have hk:l.cutK m≠0:=fun e=>by
  rw[ze] at e;have:((crossI l m:Int):Rat)=0:=by grind
  exact h0 (fZ.1 this)
 obtain⟨h1,h2⟩:=wg (l:=l) (m:=m) v (by grind);refine⟨?_,?_⟩
 ·rw[IP hz,vg hl h0,h1]
 ·rw[IP hz,vg hl h0,<-h1]
  rw[<-Az] at h2
  cases hb:l.cutB v m<;>cases he:(l.cutV v m).empty<;>simp_all
end Go.Sx
end
section
namespace Go.Sx
open Go Go.Proofs Tryz
variable {GB:Gh}

def cT:Tr->List DV
 | .leaf b=>[.v (.bool true), .v (.bool b), .v (.bool false), .sl [], .v (.bool false), .sl [], .v (.bool false), .sl [], .v (.pointer none), .v (.pointer none)]
 | .node l x y=>[.v (.bool false), .v (.bool false), .v (.bool (decide (l.a<0))),dN l.a.natAbs, .v (.bool (decide (l.b<0))),dN l.b.natAbs, .v (.bool (decide (l.c<0))),dN l.c.natAbs, .pt (cT x), .pt (cT y)]
def eT(t:Tr):DV:= .pt (cT t)
def eN(n:NQ):DV:= .ag [.v (.bool (decide (n.l.a<0))),dN n.l.a.natAbs, .v (.bool (decide (n.l.b<0))),dN n.l.b.natAbs, .v (.bool (decide (n.l.c<0))),dN n.l.c.natAbs, .v (.int .i64 n.a), .v (.int .i64 n.b)]
def eA(t:Tr):DV:= .ag [.v (.int .i64 (t.num 0)), .sl ((t.wr 0).map eN)]
def wn{G:Gh}{k:Nat}{z:IV}{m:Int}(h:kO k G z m):Is G (.v (.bool (decide (m<0)))) (.bool z.neg)/\Is G (dN m.natAbs) (.slice z.a.a z.a.n z.a.c):=
 ⟨aG.2 (by rw[h.neg]),(Et h.abs.lt).2 ⟨_,J,h.abs⟩⟩
def DY{G:Gh}{k:Nat}{m:Int}{u v:Value}(hm:m.natAbs<2^k)(h1:Is G (.v (.bool (decide (m<0)))) u)(h2:Is G (dN m.natAbs) v): ∃z:IV,u= .bool z.neg/\v= .slice z.a.a z.a.n z.a.c/\kO k G z m:=by
 obtain⟨x,rfl,hx⟩:=(Et hm).1 h2;exact⟨⟨decide (m<0),x⟩,aG.1 h1,J,J,hx⟩
structure BL (l:aa) (k:Nat):Prop where
 a:l.a.natAbs<2^k
 b:l.b.natAbs<2^k
 c:l.c.natAbs<2^k
def QP{G:Gh}{k:Nat}{l:aa}{v:Value}(hl:BL l k)(h:Is G (eL l) v): ∃a b c:IV,v= .agg ⟨[.bool a.neg, .slice a.a.a a.a.n a.a.c, .bool b.neg, .slice b.a.a b.a.n b.a.c, .bool c.neg, .slice c.a.a c.a.n c.a.c]⟩/\kO k G a l.a/\kO k G b l.b/\kO k G c l.c:=by
 obtain⟨m,rfl,g⟩:=c6.1 h;clear h;obtain⟨v1,m,rfl,h1,h⟩:=ba.1 g;obtain⟨v2,m,rfl,h2,h⟩:=ba.1 h;obtain⟨v3,m,rfl,h3,h⟩:=ba.1 h;obtain⟨v4,m,rfl,h4,h⟩:=ba.1 h;obtain⟨v5,m,rfl,h5,h⟩:=ba.1 h;obtain⟨v6,m,rfl,h6,h⟩:=ba.1 h;rw[cA] at h;subst h;obtain⟨a,rfl,rfl,ha⟩:=DY hl.a h1 h2;obtain⟨b,rfl,rfl,hb⟩:=DY hl.b h3 h4;obtain⟨c,rfl,rfl,hc⟩:=DY hl.c h5 h6;exact⟨a,b,c,J,ha,hb,hc⟩
def Rj{G:Gh}{k:Nat}{n:NQ}{z:ND}(h:p8 k G z n):Is G (eN n) z.val:=by
 refine c6.2 ⟨_,J, .cons (wn h.a).1 (.cons (wn h.a).2 (.cons (wn h.b).1 (.cons (wn h.b).2 (.cons (wn h.c).1 (.cons (wn h.c).2 (.cons (aG.2 ?_) (.cons (aG.2 ?_) .nil)))))))⟩
 ·rw[h.l]
 ·rw[h.r]
def LQ{G:Gh}{k:Nat}: ∀{ns:List NQ} {zs:List ND},fm (p8 k G) zs ns->IsLs G (ns.map eN) (zs.map ND.val)
 |_,_, .nil=> .nil
 |_,_, .cons h t=> .cons (Rj h) (LQ t)
def QV{G:Gh}{k:Nat}{t:Tr}{x:SV}(h:XL k G x (t.wr 0)):Is G (eA t) (.agg ⟨[.int .i64 (t.num 0), .slice x.a x.n x.c]⟩):=by
 obtain⟨zs,h1,h2⟩:=h;exact c6.2 ⟨_,J, .cons (aG.2 J) (.cons (gz.2 ⟨8,x,_,J,h1,LQ h2⟩) .nil)⟩
def Tr.all_wr{p:aa->Prop}: ∀{t:Tr} (n:Nat),t.all p-> ∀x∈t.wr n,p x.l
 | .leaf b,n,_,x,hx=>by cases hx
 | .node l u v,n,⟨h1,h2,h3⟩,x,hx=>by
  simp only[Tr.wr,cV,aW,cX] at hx;rcases hx with rfl|hx|hx
  ·exact h1
  ·exact u.all_wr _ h2 x hx
  ·exact v.all_wr _ h3 x hx
structure LS (l:aa):Prop where
 ok:l.ok
 a:l.a.natAbs<=4
 b:l.b.natAbs<=4
 c:l.c.natAbs<=40000
def aa.ext'{l m:aa}(h1:l.a=m.a)(h2:l.b=m.b)(h3:l.c=m.c):l=m:=by cases l;cases m;simp_all
instance:DecidableEq NQ:=fun x y=>decidable_of_iff (x.l=y.l/\x.a=y.a/\x.b=y.b) (by
 cases x;cases y;simp)
def YO(ls:List aa):dB 6 (ls.map eL):=fun d hd=>by
 obtain⟨n,_,rfl⟩:=bJ.1 hd;exact⟨rfl,rfl⟩
class LB (l:aa):Prop where bl:BL l 96
instance LB.a (l:aa) [h:LB l]:BI l.a 96:=⟨h.bl.a⟩
instance LB.b (l:aa) [h:LB l]:BI l.b 96:=⟨h.bl.b⟩
instance LB.c (l:aa) [h:LB l]:BI l.c 96:=⟨h.bl.c⟩
class bg (p:ab) (k:outParam Nat):Prop where
 x:BQ p.x k
 y:BQ p.y k
instance bg.ix (p:ab) (k:Nat) [h:bg p k]:BQ p.x k:=h.x
instance bg.iy (p:ab) (k:Nat) [h:bg p k]:BQ p.y k:=h.y
instance bg.dir (l:aa) [LB l]:bg l.dir 97:=⟨inferInstanceAs (BQ (l.b:Rat) 97),inferInstanceAs (BQ (-(l.a:Rat)) 97)⟩
instance BQ.dot (p q:ab) (i j:Nat) [bg p i] [bg q j]:BQ (p.dot q) (i+j+(i+j)+1):=inferInstanceAs (BQ (p.x*q.x+p.y*q.y) _)
instance BQ.cross (p q:ab) (i j:Nat) [bg p i] [bg q j]:BQ (p.cross q) (i+j+(i+j)+1):=inferInstanceAs (BQ (p.x*q.y-p.y*q.x) _)
instance bg.mov (p q:ab) (c:Rat) (i j k:Nat) [bg p i] [bg q j] [BQ c k]:bg (dG p q c) (i+(k+j)+1):=⟨inferInstanceAs (BQ (p.x+c*q.x) _),inferInstanceAs (BQ (p.y+c*q.y) _)⟩
instance BQ.value (l:aa) (p:ab) (i:Nat) [LB l] [bg p i]:BQ (l.value p) (96+1+i+(96+1+i)+1+(96+1)+1):=inferInstanceAs (BQ ((l.a:Rat)*p.x+(l.b:Rat)*p.y+(l.c:Rat)) _)
def Sf{p q:ab}{i j:Nat}[hp:bg p i][hq:bg q j](hi:i<=200000:=by decide)(hj:j<=200000:=by decide):PF GB prog 99 [eP p,eP q] (eQ (p.cross q)):=by
 refine fn func99 J J ntmps99 J J (fun C=>?_);refine cl J (BR (by omega) (by omega)) J<|cl J (BR (by omega) (by omega)) J<|cl J (MH (by omega) (by omega)) J<|?_;exact rz J J
def We{p q:ab}{c:Rat}{i j k:Nat}[hp:bg p i][hq:bg q j][hc:BQ c k](hi:i<=19000000:=by decide)(hj:j<=9000000:=by decide)(hk:k<=9000000:=by decide):PF GB prog 100 [eP p,eQ c,eP q] (eP (dG p q c)):=by
 refine fn func100 J J ntmps100 J J (fun C=>?_);refine cl J (BR (by omega) (by omega)) J<|cl J (GS (by omega) (by omega)) J<|cl J (BR (by omega) (by omega)) J<|cl J (GS (by omega) (by omega)) J<|?_;exact rz J J
instance bg.base (l:aa) [LB l]:bg l.base 900:=by
 rw[<-P9];constructor
 ·exact BQ.mono (inferInstance:BQ (-((l.c:Rat)/l.dir.dot l.dir)*(l.a:Rat)) _) (by decide)
 ·exact BQ.mono (inferInstance:BQ (-((l.c:Rat)/l.dir.dot l.dir)*(l.b:Rat)) _) (by decide)
instance BI.crossI (l m:aa) [LB l] [LB m]:BI (crossI l m) 385:=inferInstanceAs (BI (l.a*m.b-m.a*l.b) 385)
instance BI.meetX (l m:aa) [LB l] [LB m]:BI (meetX l m) 385:=inferInstanceAs (BI (l.b*m.c-m.b*l.c) 385)
instance BI.meetY (l m:aa) [LB l] [LB m]:BI (meetY l m) 385:=inferInstanceAs (BI (m.a*l.c-l.a*m.c) 385)
instance bg.imeet (l m:aa) [LB l] [LB m]:bg (gO l m) 772:=by
 unfold gO;split
 ·exact⟨BQ.mono (k:=1) ⟨by decide,by decide⟩ (by decide),BQ.mono (k:=1) ⟨by decide,by decide⟩ (by decide)⟩
 ·exact⟨inferInstanceAs (BQ ((meetX l m:Rat)/(crossI l m:Rat)) 772),inferInstanceAs (BQ ((meetY l m:Rat)/(crossI l m:Rat)) 772)⟩
def c9(l m:aa):Int:=if(l.a-m.a).sign≠0 then(l.a-m.a).sign else if(l.b-m.b).sign≠0 then(l.b-m.b).sign else(l.c-m.c).sign
def DN(l m:aa):c9 l m=0↔l=m:=by
 unfold c9;constructor
 ·intro h
  split at h
  ·contradiction
  ·split at h
   ·contradiction
   ·rename_i h1 h2
    have a1:=jX.1 (Decidable.not_not.1 h1);have a2:=jX.1 (Decidable.not_not.1 h2);have a3:=jX.1 h;exact aa.ext' (by omega) (by omega) (by omega)
 ·rintro rfl
  simp
def UX(z:Int): -1<=z.sign/\z.sign<=1:=by
 rcases nX z 0 with h|h|h
 ·rw[eY h];omega
 ·rw[h];decide
 ·rw[fL h];omega
instance BQ.i1:BQ (((1:Int):Rat)) 2:=⟨by decide,by decide⟩
def eV(v:ao):DV:= .ag [.v (.bool (decide (v.lo.num<0))),dN v.lo.num.natAbs,dD v.lo.den, .v (.bool (decide (v.hi.num<0))),dN v.hi.num.natAbs,dD v.hi.den, .v (.bool v.nl), .v (.bool v.nh)]
def Ck(v:ao):Rat:=if v.nl=true/\v.nh=true then 0 else if v.nl=true then v.hi-1 else if v.nh=true then v.lo+1 else(v.lo+v.hi)/2
theorem BQ.of_fracI{q:Rat}{n D:Int}{i:Nat}(hd:0<D.natAbs)(h:q*((D.natAbs:Nat):Rat)=(n:Rat))(hn:BI n i)(hD:BI D i):BQ q i:=BQ.of_frac hd h hn.h hD.h
theorem CL{m:Int}{i j:Nat}(h:BI m i)(hij:i<=j):BI m j:=⟨cN h.h (bV (by decide) hij)⟩
theorem K7{l m:aa}[LB l][LB m](hn:l.Ne)(h:crossI l m≠0):BQ (en l (gO l m)) 1200:=by
 have e:=Sc hn h;have hA:BI (crossI l m*(l.a*l.a+l.b*l.b)) _:=inferInstance;have hB:BI (meetX l m*l.b-meetY l m*l.a) _:=inferInstance;have hne:crossI l m*(l.a*l.a+l.b*l.b)≠0:=by
  intro q;rcases sZ.1 q with q|q
  ·exact h q
  ·have h1:=ye hn
   simp only[aa.dir,ab.dot] at h1;have h2:((l.a*l.a+l.b*l.b:Int):Rat)=((0:Int):Rat):=by rw[q]
   rw[oU,cR,cR] at h2;have h3:((0:Int):Rat)=0:=J;rw[h3] at h2;grind
 have hA':=CL (j:=1200) hA (by decide);have hB':=CL (j:=1200) hB (by decide);generalize crossI l m*(l.a*l.a+l.b*l.b)=D at*;generalize meetX l m*l.b-meetY l m*l.a=M at*;by_cases hD:0<D
 ·refine BQ.of_fracI (n:=M) (D:=D) (by omega) ?_ hB' hA'
  rw[<-e];congr 1;have:((D.natAbs:Nat):Int)=D:=by omega
  rw[<-this];rfl
 ·refine BQ.of_fracI (n:= -M) (D:=D) (by omega) ?_ (BI.neg M 1200 (h:=hB')) hA'
  rw[qV,<-e];have:((D.natAbs:Nat):Rat)= -(D:Rat):=by
   have h1:((D.natAbs:Nat):Int)= -D:=by omega
   rw[<-qV,<-h1];rfl
  rw[this];grind
def o5(l:aa):List aa->ao->ao×Bool
 |[],v=>(v,true)
 |m::t,v=>if m=l then o5 l t v else if l.cutB v m=true then o5 l t (l.cutV v m) else(l.cutV v m,false)
def EF{l:aa}: ∀{c:List aa} {v:ao},(o5 l c v).2=(il l c v).isSome
 |[],v=>rfl
 |m::t,v=>by
  rw[o5,Uv];split
  ·exact EF
  ·split
   ·exact EF
   ·rfl
structure Stp (l:aa) (c:List aa) (k:Nat) (v:ao):Prop where
 le:k<=c.length
 p:il l (c.drop k) v=il l c ao.all
 e:o5 l (c.drop k) v=o5 l c ao.all
 z:iB v
 lo:BQ v.lo 1200
 hi:BQ v.hi 1200
def vj(l m:aa)(v:ao):ao:=if 0<(m.dir.cross l.dir).num.sign then sO v (en l (gO l m)) else s7 v (en l (gO l m))
def Sv{l m:aa}{v:ao}[LB l][LB m](hn:l.Ne)(hz:iB v)(hlo:BQ v.lo 1200)(hhi:BQ v.hi 1200)(h0:crossI l m≠0):l.cutV v m=vj l m v/\l.cutB v m=!(vj l m v).empty/\iB (vj l m v)/\BQ (vj l m v).lo 1200/\BQ (vj l m v).hi 1200:=by
 have hb:=K7 (l:=l) (m:=m) hn h0;unfold vj;split
 ·rename_i h
  obtain⟨_,h1,h2⟩:=Ub hn hz ((sD _).1 h);refine⟨h1,h2,hz.lo' _,?_⟩;unfold sO;split
  ·exact⟨hb,hhi⟩
  ·exact⟨hlo,hhi⟩
 ·rename_i h
  obtain⟨h1,h2⟩:=Xg hn hz h0 (fun e=>h ((sD _).2 e));refine⟨h1,h2,hz.hi' _,?_⟩;unfold s7;split
  ·exact⟨hlo,hb⟩
  ·exact⟨hlo,hhi⟩
def cb(l:aa):DV:= .ag [vI (dm (l.a:Rat)),vI (dq (l.a:Rat)),di (l.a:Rat),vI (dm (l.b:Rat)),vI (dq (l.b:Rat)),di (l.b:Rat),vI (dm (l.c:Rat)),vI (dq (l.c:Rat)),di (l.c:Rat)]
def eZ(p:ab):DV:= .ag [vI (dm p.x),vI (dq p.x),di p.x,vI (dm p.y),vI (dq p.y),di p.y]
def eW(v:ao):DV:= .ag [vI (dm v.lo),vI (dq v.lo),di v.lo,vI (dm v.hi),vI (dq v.hi),di v.hi, .v (.bool v.nl), .v (.bool v.nh)]
def B5{G:Gh}{t:List DV}{vs:List Value}(h:IsLs G (vI 0::vI 0:: .v (.pointer none)::t) vs):IsLs G (vI (dm 0)::vI (dq 0)::di 0::t) vs:=by
 obtain⟨y1,l1,rfl,k1,g1⟩:=ba.1 h;obtain⟨y2,l2,rfl,k2,g2⟩:=ba.1 g1;obtain⟨y3,l3,rfl,k3,g3⟩:=ba.1 g2;have e:decide (eh 0)=false:=decide_eq_false fun h=>GR h J;exact .cons k1 (.cons k2 (.cons (qI.2 (.inl ⟨e,aG.1 k3⟩)) g3))
def GH{G:Gh}(a:List DV){t:List DV}{vs:List Value}(h:IsLs G (a++vI 0::vI 0:: .v (.pointer none)::t) vs):IsLs G (a++vI (dm 0)::vI (dq 0)::di 0::t) vs:=by
 obtain⟨x,y,rfl,h1,h2⟩:=h.unapp;exact h1.app (B5 h2)
def Xs(G:Gh)(y:Value)(k:Is G (.ag [vI 0,vI 0, .v (.pointer none),vI 0,vI 0, .v (.pointer none), .v (.bool true), .v (.bool true)]) y):Is G (eW ao.all) y:=by
 obtain⟨l,rfl,g⟩:=c6.1 k;exact c6.2 ⟨l,J,B5 (GH [vI 0,vI 0, .v (.pointer none)] g)⟩
def iv:List Int->Int
 |[]=>0
 |a::t=>if a≠0 then a else iv t
theorem bg.nor(l:aa)[LB l]:bg l.nor 97:=⟨inferInstanceAs (BQ (l.a:Rat) 97),inferInstanceAs (BQ (l.b:Rat) 97)⟩
attribute [instance] bg.nor
instance bg.scale (p:ab) (c:Rat) (i k:Nat) [bg p i] [BQ c k]:bg (p.scale c) (i+k):=⟨inferInstanceAs (BQ (p.x*c) _),inferInstanceAs (BQ (p.y*c) _)⟩
instance bg.add (p q:ab) (i j:Nat) [bg p i] [bg q j]:bg (p.add q) (i+j+1):=⟨inferInstanceAs (BQ (p.x+q.x) _),inferInstanceAs (BQ (p.y+q.y) _)⟩
instance LB.revA (l:aa) [h:LB l]:LB l.rev:=⟨⟨by rw[show l.rev.a= -l.a from J,kZ];exact h.bl.a,by rw[show l.rev.b= -l.b from J,kZ];exact h.bl.b,by rw[show l.rev.c= -l.c from J,kZ];exact h.bl.c⟩⟩
def Xf:PF GB prog 351 [] (eW ao.all):=by
 refine fn func351 J J ntmps351 J J (fun C=>?_);exact iu J Xs
def zt{l:aa}:PF GB prog 321 [cb l] (eZ l.nor):=by
 refine fn func321 J J ntmps321 J J (fun C=>?_);exact rz J J
def vH{l:aa}[hl:LB l]:PF GB prog 258 [cb l] (eZ l.dir):=by
 refine fn func258 J J ntmps258 J J (fun C=>?_);refine cl J (oD (q:=(l.a:Rat))) J<|?_;exact rz J J
def tN{p q:ab}{i j:Nat}[hp:bg p i][hq:bg q j](hi:i<=40000000:=by decide)(hj:j<=40000000:=by decide):PF GB prog 244 [eZ p,eZ q] (eF (p.dot q)):=by
 refine fn func244 J J ntmps244 J J (fun C=>?_);refine cl J (qC (p:=p.x) (q:=q.x) (by omega) (by omega)) J<|cl J (qC (p:=p.y) (q:=q.y) (by omega) (by omega)) J<|cl J (ru (p:=p.x*q.x) (q:=p.y*q.y) (by omega) (by omega)) J<|?_;exact rz J J
def Re{p q:ab}{i j:Nat}[hp:bg p i][hq:bg q j](hi:i<=40000000:=by decide)(hj:j<=40000000:=by decide):PF GB prog 298 [eZ p,eZ q] (eF (p.cross q)):=by
 refine fn func298 J J ntmps298 J J (fun C=>?_);refine cl J (qC (p:=p.x) (q:=q.y) (by omega) (by omega)) J<|cl J (qC (p:=p.y) (q:=q.x) (by omega) (by omega)) J<|cl J (s5 (p:=p.x*q.y) (q:=p.y*q.x) (by omega) (by omega)) J<|?_;exact rz J J
def E1{p:ab}{c:Rat}{i j:Nat}[hp:bg p i][hc:BQ c j](hi:i<=40000000:=by decide)(hj:j<=40000000:=by decide):PF GB prog 126 [eZ p,eF c] (eZ (p.scale c)):=by
 refine fn func126 J J ntmps126 J J (fun C=>?_);refine cl J (qC (p:=p.x) (q:=c) (by omega) (by omega)) J<|cl J (qC (p:=p.y) (q:=c) (by omega) (by omega)) J<|?_;exact rz J J
def Kq{p q:ab}{i j:Nat}[hp:bg p i][hq:bg q j](hi:i<=40000000:=by decide)(hj:j<=40000000:=by decide):PF GB prog 206 [eZ p,eZ q] (eZ (p.add q)):=by
 refine fn func206 J J ntmps206 J J (fun C=>?_);refine cl J (ru (by omega) (by omega)) J<|cl J (ru (by omega) (by omega)) J<|?_;exact rz J J
def KI{l:aa}[hl:LB l]:PF GB prog 352 [cb l] (eZ l.base):=by
 refine fn func352 J J ntmps352 J J (fun C=>?_);refine cl J zt J<|cl J (oD (q:=(l.c:Rat))) J<|cl J (tN (p:=l.nor) (q:=l.nor)) J<|cl J (yp (p:= -(l.c:Rat)) (q:=l.nor.dot l.nor)) J<|?_;refine cl J (E1 (p:=l.nor)) J<|?_;exact rz J J
def Dr{l:aa}{p:ab}{i:Nat}[hl:LB l][hp:bg p i](hi:i<=10000000:=by decide):PF GB prog 347 [cb l,eZ p] (eF (l.value p)):=by
 refine fn func347 J J ntmps347 J J (fun C=>?_);refine cl J (zt (l:=l)) J<|cl J (tN (p:=l.nor) (q:=p) (by omega) (by omega)) J<|cl J (ru (p:=l.nor.dot p) (q:=(l.c:Rat)) (by omega) (by omega)) J<|?_;exact rz J J
def DC{l:aa}{p:ab}{i:Nat}[hl:LB l][hp:bg p i](hi:i<=10000000:=by decide):PF GB prog 259 [cb l,eZ p] (vI (l.value p).num.sign):=by
 refine fn func259 J J ntmps259 J J (fun C=>?_);refine cl J (Dr (l:=l) (p:=p) hi) J<|cl J (lv (q:=l.value p) (by omega)) J<|?_;exact rz J J
def AZ{l:aa}{t:Rat}{i:Nat}[hl:LB l][ht:BQ t i](hi:i<=10000000:=by decide):PF GB prog 345 [cb l,eF t] (eZ (l.at t)):=by
 refine fn func345 J J ntmps345 J J (fun C=>?_);refine cl J (KI (l:=l)) J<|cl J (vH (l:=l)) J<|cl J (E1 (p:=l.dir) (c:=t) (by omega) (by omega)) J<|cl J (Kq (p:=l.base) (q:=l.dir.scale t) (by omega) (by omega)) J<|?_;exact rz J J
def UN{v:ao}{i j:Nat}[h1:BQ v.lo i][h2:BQ v.hi j](hi:i<=40000000:=by decide)(hj:j<=40000000:=by decide):PF GB prog 381 [eW v] (vB v.empty):=by
 refine fn func381 J J ntmps381 J J (fun C=>?_);refine ql 6 J J J (fun hg6=>?_) (fun hg6=>?_)
 .
  refine ql 11 J J J (fun hg11=>?_) (fun hg11=>?_)
  .
   refine cl J (pg (p:=v.lo) (q:=v.hi) (by omega) (by omega)) J<|?_;exact rz J (by unfold ao.empty;simp_all [vB,gH])
  .
   exact rz J (by unfold ao.empty;simp_all [vB,gH])
 .
  exact rz J (by unfold ao.empty;simp_all [vB,gH])
instance ao.meet_lo (v w:ao) (i j:Nat) [h1:BQ v.lo i] [h3:BQ w.lo j]:BQ (v.meet w).lo (i+j):=by
 have a:=h1.mono (pW i j);have b:=h3.mono (Nat.le_add_left j i);unfold ao.meet;dsimp only;(repeat' split)<;>assumption
instance ao.meet_hi (v w:ao) (i j:Nat) [h1:BQ v.hi i] [h3:BQ w.hi j]:BQ (v.meet w).hi (i+j):=by
 have a:=h1.mono (pW i j);have b:=h3.mono (Nat.le_add_left j i);unfold ao.meet;dsimp only;(repeat' split)<;>assumption
def NO{v w:ao}{i j:Nat}[h1:BQ v.lo i][h2:BQ v.hi i][h3:BQ w.lo j][h4:BQ w.hi j](hi:i<=10000000:=by decide)(hj:j<=10000000:=by decide):PF GB prog 353 [eW v,eW w] (.tp [eW (v.meet w),vB (!(v.meet w).empty)]):=by
 refine fn (fu:=⟨16⟩) func353 J J ntmps353 J J (fun C=>?_);refine mg (fu:=⟨1⟩) (X:=Unit) (fun _=>[(6, .ov 6 0)]) (fun _=>[(6,some (.o 220 [.d (vI (dm (v.meet w).lo)), .d (vI (dq (v.meet w).lo)), .d (di (v.meet w).lo), .d (vI (dm v.hi)), .d (vI (dq v.hi)), .d (di v.hi), .d (.v (.bool (v.nl&&w.nl))), .d (.v (.bool (v.nh)))] true))]) (fun _=>True) [6] [6] rfl ?_ (fun _=>J) (fun _ _=>?_)
 .
  refine gx J<|?_;refine bb (v1:=fun hc8=>by simp only[ah];kernel_rfl) J J J (fun hc8=>?_) (fun hc8=>?_)
  .
   have em:(v.meet w).lo=w.lo:=by unfold ao.meet;simp_all
   have eb:(v.nl&&w.nl)=w.nl:=by simp_all
   exact at_ () trivial (hO:=⟨by rw[em,eb]<;>rfl,by repeat (first|exact trivial|refine And.intro J ?_)⟩)
  .
   refine bb J J J (fun hc17=>?_) (fun hc17=>?_)
   .
    refine cl J (Rs (p:=v.lo) (q:=w.lo) (by omega) (by omega)) J<|?_;have em:(v.meet w).lo=(if v.lo<w.lo then w.lo else v.lo):=by unfold ao.meet;simp_all
    have eb:(v.nl&&w.nl)=v.nl:=by simp_all
    exact at_ () trivial (hO:=⟨by rw[em,eb]<;>rfl,by repeat (first|exact trivial|refine And.intro J ?_)⟩)
   .
    have em:(v.meet w).lo=v.lo:=by unfold ao.meet;simp_all
    have eb:(v.nl&&w.nl)=v.nl:=by simp_all
    exact at_ () trivial (hO:=⟨by rw[em,eb]<;>rfl,by repeat (first|exact trivial|refine And.intro J ?_)⟩)
 .
  refine mg (X:=Unit) (fun _=>[(6, .ov 6 0)]) (fun _=>[(6,some (.o 220 [.d (vI (dm (v.meet w).lo)), .d (vI (dq (v.meet w).lo)), .d (di (v.meet w).lo), .d (vI (dm (v.meet w).hi)), .d (vI (dq (v.meet w).hi)), .d (di (v.meet w).hi), .d (.v (.bool (v.nl&&w.nl))), .d (.v (.bool (v.nh&&w.nh)))] true))]) (fun _=>True) [6] [6] rfl ?_ (fun _=>J) (fun _ _=>?_)
  .
   refine gx J<|?_;refine bb (v1:=fun hc27=>by simp only[ah];kernel_rfl) J J J (fun hc27=>?_) (fun hc27=>?_)
   .
    have em:(v.meet w).hi=w.hi:=by unfold ao.meet;simp_all
    have eb:(v.nh&&w.nh)=w.nh:=by simp_all
    exact at_ () trivial (hO:=⟨by rw[em,eb]<;>rfl,by repeat (first|exact trivial|refine And.intro J ?_)⟩)
   .
    refine bb J J J (fun hc36=>?_) (fun hc36=>?_)
    .
     refine cl J (K3 (p:=v.hi) (q:=w.hi) (by omega) (by omega)) J<|?_;have em:(v.meet w).hi=(if w.hi<v.hi then w.hi else v.hi):=by unfold ao.meet;simp_all
     have eb:(v.nh&&w.nh)=v.nh:=by simp_all
     exact at_ () trivial (hO:=⟨by rw[em,eb]<;>rfl,by repeat (first|exact trivial|refine And.intro J ?_)⟩)
    .
     have em:(v.meet w).hi=v.hi:=by unfold ao.meet;simp_all
     have eb:(v.nh&&w.nh)=v.nh:=by simp_all
     exact at_ () trivial (hO:=⟨by rw[em,eb]<;>rfl,by repeat (first|exact trivial|refine And.intro J ?_)⟩)
  .
   refine cl J (UN (v:=v.meet w) (i:=i+j) (j:=i+j) (by omega) (by omega)) J<|?_;exact rz J J
theorem BQ.z1:BQ (0:Rat) 1:=⟨by decide,by decide⟩
def V1{v:ao}{t:Rat}{i j:Nat}[h1:BQ v.lo i][h2:BQ v.hi i][h3:BQ t j](hi:i<=10000000:=by decide)(hj:j<=9999999:=by decide):PF GB prog 353 [eW v, .ag [vI (dm t),vI (dq t),di t,vI 0,vI 0, .v (.pointer none), .v (.bool false), .v (.bool true)]] (.tp [eW (v.meet ⟨t,0,false,true⟩),vB (!(v.meet ⟨t,0,false,true⟩).empty)]):=
 (NO (v:=v) (w:=⟨t,0,false,true⟩) (j:=j+1) (h3:=h3.mono (by omega)) (h4:=BQ.z1.mono (by omega)) hi (by omega)).ofI fun G vs hv=>FU (fun y hy=>by
  obtain⟨l,rfl,g⟩:=c6.1 hy;exact c6.2 ⟨l,J,GH [_,_,_] g⟩) hv
def ZF{v:ao}{t:Rat}{i j:Nat}[h1:BQ v.lo i][h2:BQ v.hi i][h3:BQ t j](hi:i<=10000000:=by decide)(hj:j<=9999999:=by decide):PF GB prog 353 [eW v, .ag [vI 0,vI 0, .v (.pointer none),vI (dm t),vI (dq t),di t, .v (.bool true), .v (.bool false)]] (.tp [eW (v.meet ⟨0,t,true,false⟩),vB (!(v.meet ⟨0,t,true,false⟩).empty)]):=
 (NO (v:=v) (w:=⟨0,t,true,false⟩) (j:=j+1) (h4:=h3.mono (by omega)) (h3:=BQ.z1.mono (by omega)) hi (by omega)).ofI fun G vs hv=>FU (fun y hy=>by
  obtain⟨l,rfl,g⟩:=c6.1 hy;exact c6.2 ⟨l,J,B5 g⟩) hv
instance BQ.cutK (l m:aa) [LB l] [LB m]:BQ (l.cutK m) 400:=BQ.mono (inferInstance:BQ (m.nor.dot l.dir) _) (by decide)
instance BQ.cutC (l m:aa) [LB l] [LB m]:BQ (l.cutC m) 2500:=BQ.mono (inferInstance:BQ (m.value l.base) _) (by decide)
def Au{l m:aa}{v:ao}{i:Nat}[hl:LB l][hm:LB m][h1:BQ v.lo i][h2:BQ v.hi i](hi:i<=10000000:=by decide):PF GB prog 276 [cb l,eW v,cb m] (.tp [eW (l.cutV v m),vB (l.cutB v m)]):=by
 refine fn func276 J J ntmps276 J J (fun C=>?_);refine cl J (zt (l:=m)) J<|cl J (vH (l:=l)) J<|cl J (tN (p:=m.nor) (q:=l.dir)) J<|cl J (KI (l:=l)) J<|?_;refine cl J (Dr (l:=m) (p:=l.base)) J<|cl J (lv (q:=l.cutK m)) J<|?_;refine br J J J (fun hc21=>?_) (fun hc21=>?_)
 .
  refine cl J (lv (q:=l.cutC m)) J<|?_;exact rz J (by unfold aa.cutV aa.cutB;rw[if_pos hc21,if_pos hc21];rfl)
 .
  refine br J J J (fun hc27=>?_) (fun hc27=>?_)
  .
   refine cl J (yp (p:=l.cutC m) (q:=l.cutK m)) J<|cl J (oD (q:=l.cutC m/l.cutK m)) J<|cl J (V1 (v:=v) (t:= -(l.cutC m/l.cutK m)) hi) J<|?_;exact rz J (by unfold aa.cutB aa.cutV;rw[if_neg hc21,if_neg hc21,if_pos hc27];rfl)
  .
   refine cl J (yp (p:=l.cutC m) (q:=l.cutK m)) J<|cl J (oD (q:=l.cutC m/l.cutK m)) J<|cl J (ZF (v:=v) (t:= -(l.cutC m/l.cutK m)) hi) J<|?_;exact rz J (by unfold aa.cutB aa.cutV;rw[if_neg hc21,if_neg hc21,if_neg hc27];rfl)
def OL{v:ao}{i:Nat}[h1:BQ v.lo i][h2:BQ v.hi i](hi:i<=10000000:=by decide):PF GB prog 346 [eW v] (eF v.sample):=by
 refine fn func346 J J ntmps346 J J (fun C=>?_);refine ql 6 J J J (fun hg6=>?_) (fun hg6=>?_)
 .
  refine bb J J J (fun hc3=>?_) (fun hc3=>?_)
  .
   exact iu J (by unfold ao.sample;rw[hg6,hc3];exact wu)
  .
   refine bb J J J (fun hc11=>?_) (fun hc11=>?_)
   .
    refine cl J (qf (m:=1) (by decide)) J<|cl J (s5 (p:=v.hi) (q:=((1:Int):Rat)) (by omega) (by decide)) J<|?_;exact rz J (by unfold ao.sample;simp_all [gH]<;>rfl)
   .
    refine bb J J J (fun hc18=>?_) (fun hc18=>?_)
    .
     refine cl J (qf (m:=1) (by decide)) J<|cl J (ru (p:=v.lo) (q:=((1:Int):Rat)) (by omega) (by decide)) J<|?_;exact rz J (by unfold ao.sample;simp_all [gH]<;>rfl)
    .
     refine cl J (ru (p:=v.lo) (q:=v.hi) (by omega) (by omega)) J<|cl J (Ib (q:=v.lo+v.hi) (by omega)) J<|?_;exact rz J (by unfold ao.sample;simp_all [gH]<;>rfl)
 .
  refine bb J J J (fun hc11=>?_) (fun hc11=>?_)
  .
   refine cl J (qf (m:=1) (by decide)) J<|cl J (s5 (p:=v.hi) (q:=((1:Int):Rat)) (by omega) (by decide)) J<|?_;exact rz J (by unfold ao.sample;simp_all [gH]<;>rfl)
  .
   refine bb J J J (fun hc18=>?_) (fun hc18=>?_)
   .
    refine cl J (qf (m:=1) (by decide)) J<|cl J (ru (p:=v.lo) (q:=((1:Int):Rat)) (by omega) (by decide)) J<|?_;exact rz J (by unfold ao.sample;simp_all [gH]<;>rfl)
   .
    refine cl J (ru (p:=v.lo) (q:=v.hi) (by omega) (by omega)) J<|cl J (Ib (q:=v.lo+v.hi) (by omega)) J<|?_;exact rz J (by unfold ao.sample;simp_all [gH]<;>rfl)
def By(p q:ab):DV:= .ag [vI (dm p.x),vI (dq p.x),di p.x,vI (dm p.y),vI (dq p.y),di p.y,vI (dm q.x),vI (dq q.x),di q.x,vI (dm q.y),vI (dq q.y),di q.y]
def Ez{C:aD}{n:Nat}{Q0:Exit->Act->World->Prop}{fr:aw}{own:aH}{ops:Array Oper}{r:List Oper}{K:List Kt}(k:Nat){l:List DV}(hl:bc fr k=some (.d (.pt l)))(h:ak prog GB C n Q0 ((k, .ep l)::fr) own (.ops ops r K)):ak prog GB C n Q0 fr own (.ops ops r K):=
 o7 hl (fun ρ G y hy=>by
  obtain⟨b,m,rfl,h1,h2⟩:=nI.1 hy;have e:=h2.len;exact⟨b,0,m,m,J,h1,by rw[ku m 0 l.length (by omega),iM,<-e,dY],h2⟩) h
section
variable {GB:Gh} {C:aD} {n:Nat} {Q0:Exit->Act->World->Prop} {fr fr':aw} {own own':aH} {cf cf':Cf} {vc:List Prop} {lk:LK} {bk:BM}
variable {dst:Option Nat} {t t' ty':TypeId} {pos:String} {af:Array Edge} {gd:Option (Nat×Bool)} {x y:Operand}
def aGR(fr:aw)(cf:Cf):Option (List DV):=match b8 fr cf with
 |some ⟨_, .binOp .eql t x (.const (.slice none _ _)) _,_,_,_,_⟩=>match cO tt t with
  |some ⟨.sl _ _ _,_,_,_⟩=>match aI (bw fr cf) x with
   |some (.d (.sl l))=>some l
   |_=>none
  |_=>none
 |_=>none
def PVr(GB:Gh)(P:Program)(f:FuncId)(s off m:Nat)(ty:TypeId)(dsi dso:List DV):Prop:=
 ∀G w b c B,bz GB G->de G ⟨w,s,ty,dsi,false⟩ B->w.a=some ⟨b,0,none⟩->m<=c->gF P f [.slice (some ⟨b,off*s,none⟩) m c] B G (fun v own' G'=>Is G' (.tp []) v/\de G' ⟨w,s,ty,dso,false⟩ own')
structure CV where
 f:FuncId
 nm:Nat
 s:Nat
 off:Nat
 m:Nat
 ty:TypeId
 ds:List DV
 lo:Bool
def cvA(fr:aw)(own:aH)(cf:Cf):Option CV:=match b8 fr cf with
 |some ⟨_, .call ⟨.value fo,⟨[x]⟩,_⟩,_,_,_,_⟩=>match aI (bw fr cf) fo with
  |some (.d (.v (.func (.func f) ⟨[]⟩ ⟨[]⟩)))=>match aI (bw fr cf) x with
   |some (.rs nm s off m)=>match fE fr own cf nm with
    |some (.b ty s' ds lo)=>bif Nat.beq s s' then some ⟨f,nm,s,off,m,ty,ds,lo⟩ else none
    |_=>none
   |_=>none
  |_=>none
 |_=>none
end
section
variable {GB:Gh} {C:aD} {n:Nat} {Q0:Exit->Act->World->Prop} {fr fr':aw} {own own':aH} {cf cf':Cf} {vc:List Prop} {ops:Array Oper} {r:List Oper} {K:List Kt}
def xk(k:Nat){d:DV}(hl:bc fr k=some (.d d))(h: ∀(GB':Gh) (pv:Value),bz GB GB'->Is GB' d pv->ak prog GB' C n Q0 ((k, .d (.v pv))::fr) own (.ops ops r K)):ak prog GB C n Q0 fr own (.ops ops r K):=by
 refine⟨fun ρ G ov a w r0=>?_⟩;obtain⟨y,hy,hy'⟩:=r0.fx k _ hl;refine(h G y r0.gb hy').run ρ G ov a w ⟨bz.refl _,r0.h,r0.sz,r0.df,fun j f e=>?_,r0.bx,r0.dj,r0.fxd⟩;rw[i7] at e;split at e
 ·rename_i hj
  cases e;subst hj
  exact⟨y,hy,(aG (G:=G)).2 J⟩
 ·exact r0.fx j f e
def aGL(fr:aw)(cf:Cf):Option (FuncId×Value):=match b8 fr cf with
 |some ⟨_, .makeFunc (.func f) ⟨[x]⟩ ⟨[]⟩,_,_,_,_⟩=>match aI (bw fr cf) x with
  |some (.d (.v pv))=>some (f,pv)
  |_=>none
 |_=>none
def aGD(fr:aw)(cf:Cf):Option (FuncId×List Value×List DV):=match b8 fr cf with
 |some ⟨_, .call ⟨.value fo,args,_⟩,_,_,_,_⟩=>match aI (bw fr cf) fo,evDs (bw fr cf) args.toList with
  |some (.d (.v (.func (.func f) ⟨c1⟩ ⟨[]⟩))),some ds=>some (f,c1,ds)
  |_,_=>none
 |_=>none
def O8:List (Nat×Operand)->Option (List (Nat×Value))
 |[]=>some []
 |(i, .const v)::t=>match O8 t with
  |some l=>some ((i,v)::l)
  |none=>none
 |_::_=>none
def aF2(cf:Cf)(fr:aw):Option (TypeId×List (Nat×Value)):=match b8 fr cf with
 |some ⟨_, .build t ⟨ps⟩,_,_,_,_⟩=>match O8 ps with
  |some vs=>some (t,vs)
  |none=>none
 |_=>none
def OI(fr:aw)(own:aH)(cf:Cf):Option (TypeId×Nat×Nat×List FX×Bool×FX):=match b8 fr cf with
 |some ⟨_, .store t x y,_,_,_,_⟩=>match aI (bw fr cf) x with
  |some (.ov nm 0)=>match fE fr own cf nm with
   |some (.o ty cs lo)=>match aI (bw fr cf) y with
    |some fv=>some (t,nm,ty,cs,lo,fv)
    |_=>none
   |_=>none
  |_=>none
 |_=>none
def I0[fu:Fu]{t nm ty len e:Nat}{cs:List FX}{lo:Bool}{fv:FX}{j:TypeInfo}(h:OI fr own cf=some (t,nm,ty,cs,lo,fv))(hu:prog.underlying t=some (.array len e))(hj:prog.info? t=some j)(hc:fv.okc=true/\fv.cells.length=j.size/\j.size=cs.length)
  (hgo:cB tt n fu.n fr own cf .un [(nm,some (.o ty (tK cs 0 fv.cells) lo))] []=⟨vc,fr',own',cf'⟩)(k:ak prog GB C n Q0 fr' own' cf')
  (hv:ah vc:=by first|exact trivial|(simp only[ah];kernel_rfl)|(simp only[ah];omega)):ak prog GB C n Q0 fr own cf:=by
 unfold OI at h;split at h<;>try (cases h;done)
 rename_i hh;split at h<;>try (cases h;done)
 rename_i e1;split at h<;>try (cases h;done)
 rename_i hb;split at h<;>cases h;rename_i e2;obtain⟨c1,c2,c3⟩:=hc;have:jI prog t j.size:=⟨fun w=>xf hu w,fun w=>sA hj w⟩;refine us hh ?_ hgo hv k;intro hd tl tb K s1 s2 hf hk;refine⟨fun ρ G ov a w r Q=>?_⟩;have r1:=r.mono s1 s2;obtain⟨p,h1,h2⟩:=r1.ev e1;obtain⟨q,h3,h4⟩:=r1.ev e2;obtain⟨b,m,rfl,ha,h5,h6⟩:=r1.own h2 hb;obtain⟨h7,h8⟩:=h4.cells c1;obtain⟨own',u1,u2,u3⟩:=eE.of_mem (cs':=ck m 0 (aE q)) h6;exact A0 h1 h3 u1 (by rw[h7.len,c2]) (by rw[h5.len,c3];omega) (fJ.2 h8) hd (fun a' w' rl=>r.wrote (m:=m) (s2 _ _ hb) ha (h5.ov h7) u2 u3 hk rl) a w Q ⟨r.h,r.sz,cP a,r.df⟩
def aGs(fr:aw)(cf:Cf):Option IF:=match b8 fr cf with
 |some ⟨some d, .buildSlice t len parts,_,_,_,_⟩=>match cO tt t with
  |some ⟨.sl e s _,_,_,_⟩=>match uI (bw fr cf) 0 parts.toList with
   |some ds=>bif A7 s ds&&(Nat.beq parts.toList.length len&&(Nat.ble (len*s) 1000&&Nat.blt 0 (len*s))) then some ⟨d,e,s,ds⟩ else none
   |none=>none
  |_=>none
 |_=>none
def aF6(fr:aw)(cf:Cf):Option (TypeId×List DV):=match b8 fr cf with
 |some ⟨_, .load t x,_,_,_,_⟩=>match aI (bw fr cf) x with
  |some (.ep l)=>some (t,l)
  |_=>none
 |_=>none
def XJ:TypeDesc->Bool
 | .struct _=>false
 | .array _ _=>false
 |_=>true
end
section
variable {GB:Gh} {C:aD} {n:Nat} {Q0:Exit->Act->World->Prop} {fr fr':aw} {own own':aH} {cf cf':Cf} {vc:List Prop} {ops:Array Oper} {r:List Oper} {K:List Kt}
def aD.mkD(C:aD)(f:FuncId)(c2:List Value):aD:={C with mks:=[{target:= .fn (.func f) ⟨c2⟩,args:= #[]}]}
def Sj{f:FuncId}{c2:List Value}{ov:List aj}{G:Gh}{w:World}(h:bm C ov G w):bm (C.mkD f c2) ov G w:=
 ⟨h.os,h.tape,h.output,h.size,h.keep,h.sub,h.gle,h.gold,h.hown,h.nd,h.dr,h.ext⟩
def RU{f:FuncId}{c2:List Value}{ov:List aj}{G:Gh}{w:World}(h:bm (C.mkD f c2) ov G w):bm C ov G w:=
 ⟨h.os,h.tape,h.output,h.size,h.keep,h.sub,h.gle,h.gold,h.hown,h.nd,h.dr,h.ext⟩
def F6(P:Program)(fb:Func)(R:Ending->World->Prop):Exit->Act->World->Prop:=bodyPostDIn (FW none) 0 P fb R
def Yt[fu:Fu]{f:FuncId}{fb:Func}{c:Code}{m:Nat}{ds:List DV}{rv:DV}(hf:prog.funcs[f]? =some fb)(hb:fb.body=some c)(hn:(fb.name== "runtime.NumGoroutine")=false)(hm:fb.ntmps=m)(hlen:Nat.ble ds.length m=true)
  (hgo:go tt m fu.n [] (pE 0 ds) [] (.code c [])=⟨vc,fr,own,cf⟩)(k: ∀C:aD,CU C->ak prog GB C m (F6 prog fb (iI C (fun v G'=>Is G' rv v))) fr own cf)
  (hv:ah vc:=by first|exact trivial|(simp only[ah];kernel_rfl)|(simp only[ah];omega)):PF GB prog f ds rv:=by
 intro G vs hg hvs;refine⟨⟨fb,hf,hn,by simp[hb]⟩,fun w hw=>?_⟩;have hlen':vs.length<=m:=by rw[hvs.len];simpa using hlen
 have h:=fg (GB:=GB) (C:=jy w G) (Q0:=F6 prog fb (iI (jy w G) (fun v G'=>Is G' rv v))) hgo hv (k (jy w G) ⟨J,J,J⟩);refine(callsIn_wide (n:=0)).1 (callsIn_of_wp_defers (F:=FW none) (n:=0) hf hb trivial ?_);refine h.run (fun _=>⟨none,0,0⟩) G [] _ w ⟨hg,B6 hw,by simp;omega,J,fun k f e=>ve hvs (fun k v hk=>?_) k f e,(fun nm B e=>by cases e),(fun nm nm' B B' e=>by cases e),fun nm p _ _ e=>by cases e⟩;obtain⟨j,rfl,hj⟩:=rO vs 0 k v hk;have hj':=(aS.1 hj).1;rw[iL (by simpa using hj')];simpa using hj
def Sk{P:Program}{f:FuncId}{d x y:Nat}{gx gy:FX}{t1 t2:TypeId}{p1 p2:String}{a1 a2:Array Edge}{tys:Array TypeId}(h0:CU C)(hx:bc fr x=some gx)(hy:bc fr y=some gy)(hd:bc fr d=none)(hdn:d<n)
  (k: ∀p q,ak P GB (C.mkD f [p,q]) n Q0 fr own (.ops ops r K)):
  ak P GB C n Q0 fr own (.ops ops (⟨some d, .makeFunc (.func f) ⟨[]⟩ ⟨[.tmp x, .tmp y]⟩,t1,p1,a1,none⟩::⟨none, .defer ⟨.value (.tmp d),⟨[]⟩,tys⟩,t2,p2,a2,none⟩::r) K):=by
 refine⟨fun ρ G ov a w r0=>?_⟩;obtain⟨v1,hv1,_⟩:=r0.fx x gx hx;obtain⟨v2,hv2,_⟩:=r0.fx y gy hy;have e1:(execOp a.eval ⟨some d, .makeFunc (.func f) ⟨[]⟩ ⟨[.tmp x, .tmp y]⟩,t1,p1,a1,none⟩).run P w= .ok (.value (.func (.func f) ⟨[]⟩ ⟨[v1,v2]⟩)) w:=by
  have q1:a.eval (.tmp x)=v1:=by simp[Act.eval,hv1]
  have q2:a.eval (.tmp y)=v2:=by simp[Act.eval,hv2]
  have:=zl (P:=P) (C:=C) (own:=ov) (G:=G) (fr:=cF a) (dst:=some d) (ty':=t1) (pos:=p1) (af:=a1) (gd:=none) (fn:= .func f) (c1:=⟨[]⟩) (c2:=⟨[.tmp x, .tmp y]⟩) (l1:=[]) (l2:=[a.eval (.tmp x),a.eval (.tmp y)]) J (by
   have w1:av (cF a) (.tmp x)=some v1:=by
    simp only[av];exact vT hv1
   have w2:av (cF a) (.tmp y)=some v2:=by
    simp only[av];exact vT hv2
   simp[nR,w1,w2,q1,q2])
  rw[q1,q2] at this;exact this a w (cP a) r0.h
 have hkk:=(k v1 v2).run ρ G ov {tmps:=a.tmps.setIfInBounds d (.func (.func f) ⟨[]⟩ ⟨[v1,v2]⟩),defers:=[{target:= .fn (.func f) ⟨[v1,v2]⟩,args:= #[]}]} w ⟨r0.gb,Sj r0.h,by simpa using r0.sz,J,fun j g e=>by
   obtain⟨u,h1,h2⟩:=r0.fx j g e;refine⟨u,?_,h2⟩;have hne:d≠j:=fun he=>by rw[<-he,hd] at e;cases e
   rw[Array.getElem?_setIfInBounds_ne hne];exact h1,r0.bx,r0.dj,r0.fxd⟩
 have hrd:C.rd=none:=h0.rd;show wpListIn (FW C.rd) 0 P ops (cQ C.rd P Q0 K) _ a w;have hkk':wpListIn (FW C.rd) 0 P ops (cQ C.rd P Q0 K) r _ w:=hkk;rw[hrd] at hkk'⊢;simp only[wpListIn,Region.wanted,if_true];refine⟨fun _ _=>trivial,?_⟩;rw[show(FW none).round=none from J,Oper.semAt_none,e1];show Oper.wpIn (FW none) 0 P _ _ w _ _;refine⟨fun _ _=>trivial,?_⟩;have hsz:d<a.tmps.size:=by rw[r0.sz];exact hdn
 have e2:(execOp (Act.put a (some d) (.func (.func f) ⟨[]⟩ ⟨[v1,v2]⟩)).eval ⟨none, .defer ⟨.value (.tmp d),⟨[]⟩,tys⟩,t2,p2,a2,none⟩).run P w= .ok (.defer {target:= .fn (.func f) ⟨[v1,v2]⟩,args:= #[]}) w:=by
  have q3:(Act.put a (some d) (.func (.func f) ⟨[]⟩ ⟨[v1,v2]⟩)).eval (.tmp d)= .func (.func f) ⟨[]⟩ ⟨[v1,v2]⟩:=by simp[Act.eval,Act.put,hsz]
  simp[execOp,resolve,q3,Deferred.ofValue,go_sem,hsz]
 rw[show(FW none).round=none from J,Oper.semAt_none,e2];show wpListIn (FW none) 0 P ops (cQ none P Q0 K) r _ w;have hda:a.defers=[]:=by rw[r0.df,h0.mks]
 have:(Act.put ({(Act.put a (some d) (.func (.func f) ⟨[]⟩ ⟨[v1,v2]⟩)) with defers:={target:= .fn (.func f) ⟨[v1,v2]⟩,args:= #[]}::(Act.put a (some d) (.func (.func f) ⟨[]⟩ ⟨[v1,v2]⟩)).defers}) none undef)={tmps:=a.tmps.setIfInBounds d (.func (.func f) ⟨[]⟩ ⟨[v1,v2]⟩),defers:=[{target:= .fn (.func f) ⟨[v1,v2]⟩,args:= #[]}]}:=by
  simp[Act.put,hda]
 rw[this];exact hkk'
def Oi(P:Program)(f:FuncId):Prop:= ∀p q w,CallsDIn (FW none) 0 P f #[p,q] .returning w fun e u' w'=>e= .returned (.tuple #[])/\u'= .returning/\w'=w
def Wx{fb:Func}{e:Exit}{ds:List DV}{rv:DV}{f:FuncId}{p q:Value}(hI:Oi prog f)(hfb:nO prog f)(hr:oy tt fr own fb.results.toList=some ds)(hd:gH ds=rv)(he:Aq e=true:=by rfl):ak prog GB (C.mkD f [p,q]) n (F6 prog fb (iI C (fun v G'=>Is G' rv v))) fr own (.ex e []):=by
 refine⟨fun ρ G ov a w r=>?_⟩;obtain⟨vs,h1,h2⟩:=zg r hr;have hk:Is G rv (f9 vs):=hd▸zk h2;have hres:=q6 (C:=C.mkD f [p,q]) (G:=G) (own:=ov) (w:=w) h1 (cP a) r.h;have key:LeavesIn (FW none) 0 prog fb a.tmps (iI C (fun v G'=>Is G' rv v)) a.defers .returning w:=by
  rw[r.df];refine leavesIn_cons (f:=f) (args:= #[p,q]) (by simp) (by simp[FW,Fence.wide]) ?_ (fun _ _=>trivial) ?_
  ·show(callFunc f (#[]++⟨[p,q]⟩)).run prog w=_
   rw[zj hfb];simp
  refine(hI p q w).mono ?_;rintro e u' w' ⟨rfl,rfl,rfl⟩;exact⟨_,hres,_,G,J,(RU r.h).drop (jS _),hk⟩
 cases e with
 |ret=>exact key
 |normal=>exact key
 |_=>cases he
def OE(fr:aw)(own:aH)(cf:Cf):Option (TypeId×FX):=match b8 fr cf with
 |some ⟨_, .load t x,_,_,_,_⟩=>match aI (bw fr cf) x with
  |some (.ov nm off)=>match fE fr own cf nm with
   |some (.o _ cs _)=>match cs[off]? with
    |some f=>some (t,f)
    |none=>none
   |_=>none
  |_=>none
 |_=>none
def TL[fu:Fu]{t:TypeId}{f:FX}{D:TypeDesc}{j:TypeInfo}(h:OE fr own cf=some (t,f))(hu:prog.underlying t=some D)(hD:XJ D=true)(hj:prog.info? t=some j)(hs:j.size=1)
  (hgo:cB tt n fu.n fr own cf f [] []=⟨vc,fr',own',cf'⟩)(k':ak prog GB C n Q0 fr' own' cf')
  (hv:ah vc:=by first|exact trivial|(simp only[ah];kernel_rfl)|(simp only[ah];omega)):ak prog GB C n Q0 fr own cf:=by
 unfold OE at h;split at h<;>try (cases h;done)
 rename_i hh;split at h<;>try (cases h;done)
 rename_i hx;split at h<;>try (cases h;done)
 rename_i hb;split at h<;>cases h;rename_i hc;have:gk prog t:=⟨fun w=>by(rw[xf hu w];cases D<;>first|rfl|(cases hD;done)),fun w=>by rw[sA hj w,hs]⟩;refine us hh ?_ hgo hv k';refine .yd fun ρ G ov a w r=>?_;obtain⟨y,h1,h2⟩:=r.ev hx;obtain⟨b,m,rfl,h3,h4,h5⟩:=r.own h2 hb;obtain⟨l',h6,h7⟩:=h4.get hc;have:gm ov b m _ _:=⟨h5⟩;exact⟨l',h7,jx h1 h6⟩
end
instance BQ.i1':BQ (1:Rat) 2:=⟨by decide,by decide⟩
instance BQ.i2':BQ (2:Rat) 2:=⟨by decide,by decide⟩
instance bg.at (l:aa) (t:Rat) (k:Nat) [LB l] [BQ t k]:bg (l.at t) (900+(k+97)+1):=by
 rw[<-rI];infer_instance
def qd(d:ab):ab:=⟨-d.y,d.x⟩
instance bg.turn (d:ab) (k:Nat) [bg d k]:bg (qd d) k:=⟨inferInstanceAs (BQ (-d.y) k),inferInstanceAs (BQ d.x k)⟩
def Cp(p v:ab)(m:aa):Rat:= -(m.value p/(m.value (dG p v ((1:Int):Rat))-m.value p))
def y4(p v:ab)(m:aa)(s:Rat):Rat:=if(m.value (dG p v ((1:Int):Rat))-m.value p).num.sign=0 then s else if(m.value p).num.sign=0 then s else if 0<(Cp p v m).num.sign then(if b9 (Cp p v m/2) s<0 then Cp p v m/2 else s) else s
def tU(p v:ab):List aa->Rat->Rat
 |[],s=>s
 |m::t,s=>tU p v t (y4 p v m s)
def yg(c:List aa)(p v:ab):ab:=dG p v (tU p v c ((1:Int):Rat))
def uQ(c:List aa):List aa->ab
 |[]=>⟨0,0⟩
 |m::t=>if(o5 m c ao.all).2=true then yg c (m.at (Ck (o5 m c ao.all).1)) (qd m.dir) else uQ c t
def U9{es:List Int}{i:Nat}(h:i<es.length):(es.map vI)[(i:Int).toNat]? =some (vI (es.getD i 0)):=by simp[h]
def J2{es:List Int}{i:Nat}(h:i<es.length):iv (es.drop i)=if es.getD i 0≠0 then es.getD i 0 else iv (es.drop (i+1)):=by
 rw[cJ h,iv,aK,aX h];rfl
def Pa{es:List Int}(hn:es.length<=1000000):PF GB prog 227 [.sl (es.map vI)] (vI (iv es)):=by
 have hel:(es.map vI).length=es.length:=by simp
 refine fn (fu:=⟨15⟩) func227 J J ntmps227 J J (fun C=>?_);refine aB 7 (.d (vI (es.length:Nat))) J (by rw[hel]<;>rfl) ?_;refine gx J<|?_;refine lp (X:=Nat) (fun i=>[(8, .d (vI (i:Nat)))]) (fun i=>[]) (fun i=>i<=es.length/\iv es=iv (es.drop i)) (fun i=>es.length-i) 0 J ⟨bL _,J⟩ (fun _=>J) (fun i hk=>?_);obtain⟨h1,h2⟩:=hk;refine br J J J (fun hc9=>?_) (fun hc9=>?_)
 .
  refine ix _ J (U9 (by omega)) J<|?_;refine br J J J (fun hc14=>?_) (fun hc14=>?_)
  .
   exact rz J (by rw[h2,J2 (by omega),if_pos hc14];rfl)
  .
   exact at_ (i+1) ⟨⟨by omega,by rw[h2,J2 (by omega),if_neg hc14]⟩,(by omega)⟩
 .
  exact rz J (by rw[h2,gU (by omega)];rfl)
def Al(l m:aa):Int:=iv [b9 l.a m.a,b9 l.b m.b,b9 l.c m.c]
def T9(l m:aa):Al l m=0↔l=m:=by
 unfold Al iv iv iv iv;have ha:=tA (l.a:Rat) m.a;have hb:=tA (l.b:Rat) m.b;have hc:=tA (l.c:Rat) m.c;rw[mM] at ha hb hc;constructor
 ·intro h
  repeat' (split at h<;>try contradiction)
  all_goals exact aa.ext' (by omega) (by omega) (by omega)
 ·rintro rfl
  rw[if_neg (by simp[ha.2 J]),if_neg (by simp[hb.2 J]),if_neg (by simp[hc.2 J])]
def M0{l m:aa}[hl:LB l][hm:LB m]:PF GB prog 134 [cb l,cb m] (vI (Al l m)):=by
 refine fn func134 J J ntmps134 J J (fun C=>?_);refine cl J (pg (p:=(l.a:Rat)) (q:=(m.a:Rat))) J<|cl J (pg (p:=(l.b:Rat)) (q:=(m.b:Rat))) J<|cl J (pg (p:=(l.c:Rat)) (q:=(m.c:Rat))) J<|?_;refine rf J J<|cl J (Pa (es:=[b9 l.a m.a,b9 l.b m.b,b9 l.c m.c]) (nb J)) J<|?_;exact rz J J
def Cx{l m:aa}[hl:LB l][hm:LB m]:PF GB prog 136 [cb l,cb m] (vB (decide (l=m))):=by
 refine fn func136 J J ntmps136 J J (fun C=>?_);refine cl J (M0 (l:=l) (m:=m)) J<|?_;exact rz J (by show DV.v (.bool (decide _))= .v (.bool _);congr 2;exact decide_eq_decide.2 (T9 l m))
def Bs{l:aa}[hl:LB l]:PF GB prog 229 [cb l] (cb l.rev):=by
 refine fn func229 J J ntmps229 J J (fun C=>?_);refine cl J (oD (q:=(l.a:Rat))) J<|cl J (oD (q:=(l.b:Rat))) J<|cl J (oD (q:=(l.c:Rat))) J<|?_;exact rz J (by unfold cb aa.rev;simp only[qV];rfl)
def IW{l:aa}[hl:LB l]:PF GB prog 137 [cb l] (eL l):=by
 refine fn func137 J J ntmps137 J J (fun C=>?_);refine cl J (qx (q:=(l.a:Rat))) J<|cl J (qx (q:=(l.b:Rat))) J<|cl J (qx (q:=(l.c:Rat))) J<|?_;exact rz J J
def Mt{p:ab}{i:Nat}[hp:bg p i](hi:i<=10000000:=by decide):PF GB prog 354 [eZ p] (vI p.half):=by
 refine fn func354 J J ntmps354 J J (fun C=>?_);refine cl J (lv (q:=p.y) (by omega)) J<|?_;refine cs 10 J J J (fun hg10=>?_) (fun hg10=>?_)
 .
  exact rz J (by unfold ab.half;(repeat' split)<;>first|rfl|(exfalso;omega))
 .
  refine cs 13 J J J (fun hg13=>?_) (fun hg13=>?_)
  .
   refine cl J (lv (q:=p.x) (by omega)) J<|?_;refine br J J J (fun hc7=>?_) (fun hc7=>?_)
   .
    exact rz J (by unfold ab.half;(repeat' split)<;>first|rfl|(exfalso;omega))
   .
    refine cs 23 J J J (fun hg23=>?_) (fun hg23=>?_)
    .
     exact rz J (by unfold ab.half;(repeat' split)<;>first|rfl|(exfalso;omega))
    .
     refine cl J (lv (q:=p.x) (by omega)) J<|?_;refine br J J J (fun hc20=>?_) (fun hc20=>?_)
     .
      exact rz J (by unfold ab.half;(repeat' split)<;>first|rfl|(exfalso;omega))
     .
      exact rz J (by unfold ab.half;(repeat' split)<;>first|rfl|(exfalso;omega))
  .
   refine cs 23 J J J (fun hg23=>?_) (fun hg23=>?_)
   .
    exact rz J (by unfold ab.half;(repeat' split)<;>first|rfl|(exfalso;omega))
   .
    refine cl J (lv (q:=p.x) (by omega)) J<|?_;refine br J J J (fun hc20=>?_) (fun hc20=>?_)
    .
     exact rz J (by unfold ab.half;(repeat' split)<;>first|rfl|(exfalso;omega))
    .
     exact rz J (by unfold ab.half;(repeat' split)<;>first|rfl|(exfalso;omega))
def XM{u v:ab}{i j:Nat}[hp:bg u i][hq:bg v j](hi:i<=10000000:=by decide)(hj:j<=10000000:=by decide):PF GB prog 279 [eZ u,eZ v] (vI (kG u v)):=by
 refine fn func279 J J ntmps279 J J (fun C=>?_);refine cl J (Mt (p:=u) hi) J<|cl J (Mt (p:=v) hj) J<|?_;refine br J J J (fun hc11=>?_) (fun hc11=>?_)
 .
  exact rz J (by unfold kG;rw[if_pos hc11];rfl)
 .
  refine br J J J (fun hc15=>?_) (fun hc15=>?_)
  .
   exact rz J (by unfold kG;rw[if_neg hc11,if_pos hc15];rfl)
  .
   refine cl J (Re (p:=u) (q:=v) (by omega) (by omega)) J<|cl (fu:=⟨0⟩) J (lv (q:=u.cross v) (by omega)) J<|?_;have hs:=pS (u.cross v).num;refine gx J<|?_;exact rz J (by unfold kG;rw[if_neg hc11,if_neg hc15];rfl)
def Tf{m:Int}:dO (dg m.natAbs)/\(decide (m<0)=true->0<(dg m.natAbs).length):=⟨(d4 _).2.2,fun h=>by
 have:0<m.natAbs:=by have:=of_decide_eq_true h;omega
 exact vE.2 this⟩
def pO{m:Int}{i:Nat}[h:BI m i](hi:i<=1000000000:=by decide):PF GB prog 269 [eI m] (.v (.bool true)):=(Mh (neg:=decide (m<0)) (ds:=dg m.natAbs) (d4 _).2.1 (by have:=ll (a:=m.natAbs) hi;omega)).to (by unfold vB;rw[decide_eq_true Tf])
def KC{l:aa}(h:l.ok):rgcd (rgcd (l.a:Rat) (l.b:Rat)) (l.c:Rat)=((1:Int):Rat):=by
 rw[uh,uh];have:=h.2;simp only[jR];rw[this];rfl
instance BQ.rgcd (p q:Rat) (i j:Nat) [h:BQ p i] [k:BQ q j]:BQ (rgcd p q) (i+j+(i+j)):=by
 unfold Sx.rgcd;refine xp (kK (l6 p) (l6 q)) ?_ ?_
 ·rw[jR]
  have h1:=nB h.hn k.hd;have h2:=nB k.hn h.hd;rw[kR j i] at h2;exact ED h1 h2
 ·have h1:=nB h.hd k.hd
  have:2^(i+j)<=2^(i+j+(i+j)):=bV (by decide) (by omega);omega
def Vl{l:aa}[hl:LB l](ho:l.ok):PF GB prog 182 [eL l] (.tp [cb l,vB true]):=by
 refine fn func182 J J ntmps182 J J (fun C=>?_);refine cl (fu:=⟨0⟩) J (pO (m:=l.a)) J<|ee J J J<|cl (fu:=⟨0⟩) J (pO (m:=l.b)) J<|ee J J J<|cl (fu:=⟨0⟩) J (pO (m:=l.c)) J<|?_;refine ee J J J<|cl J (qE (m:=l.a)) J<|cl J (qE (m:=l.b)) J<|cl J (qE (m:=l.c)) J<|cl (fu:=⟨0⟩) J (r6 (q:=(l.a:Rat))) J<|?_;refine ud (fu2:=⟨4⟩) J J J J (fun hg35=>?_) (fun hg35=>?_)
 .
  have ha:l.a=0:=fZ.1 hg35;refine cl (fu:=⟨1⟩) J (r6 (q:=(l.b:Rat))) J<|ee J (by first|rfl|(show some (decide _)=some false;rw[decide_eq_false (fun e=>ho.1 ⟨ha,fZ.1 e⟩)])) J<|?_;refine cl J (nH (p:=(l.a:Rat)) (q:=(l.b:Rat))) J<|cl J (nH (p:=rgcd l.a l.b) (q:=(l.c:Rat))) J<|cl J (qf (m:=1) (by decide)) J<|?_;refine cl (fu:=⟨0⟩) J (uJ (p:=rgcd (rgcd l.a l.b) l.c) (q:=((1:Int):Rat))) J<|ee J (by show some (!decide _)=some false;rw[KC ho,decide_eq_true J];rfl) J<|?_;exact rz J J
 .
  refine ee J (by first|rfl|(show some (decide _)=some false;rw[decide_eq_false (fun e=>ho.1 ⟨ha,fZ.1 e⟩)])) J<|cl J (nH (p:=(l.a:Rat)) (q:=(l.b:Rat))) J<|?_;refine cl J (nH (p:=rgcd l.a l.b) (q:=(l.c:Rat))) J<|cl J (qf (m:=1) (by decide)) J<|cl (fu:=⟨0⟩) J (uJ (p:=rgcd (rgcd l.a l.b) l.c) (q:=((1:Int):Rat))) J<|?_;refine ee J (by show some (!decide _)=some false;rw[KC ho,decide_eq_true J];rfl) J<|?_;exact rz J J
def bi(f:aO):DV:= .ag [vI (dm (f.l.a:Rat)),vI (dq (f.l.a:Rat)),di (f.l.a:Rat),vI (dm (f.l.b:Rat)),vI (dq (f.l.b:Rat)),di (f.l.b:Rat),vI (dm (f.l.c:Rat)),vI (dq (f.l.c:Rat)),di (f.l.c:Rat),vI (dm f.v.lo),vI (dq f.v.lo),di f.v.lo,vI (dm f.v.hi),vI (dq f.v.hi),di f.v.hi, .v (.bool f.v.nl), .v (.bool f.v.nh)]
structure qD (v:ao):Prop where
 z:iB v
 lo:BQ v.lo 1200
 hi:BQ v.hi 1200
structure AG (s:aO):Prop where
 lb:LB s.l
 ok:s.l.ok
 v:qD s.v
abbrev iH (c:aF):Prop:= ∀s∈c,AG s
def ul{α:Type}(f:α->DV)(l:List α):(l.map f).length=l.length:=by simp
def qD.all:qD ao.all:=⟨⟨fun _=>J,fun _=>J⟩,BQ.z1.mono (by decide),BQ.z1.mono (by decide)⟩
def qD.cut{l m:aa}{v:ao}[LB l][LB m](hn:l.Ne)(h:qD v):qD (l.cutV v m):=by
 by_cases h0:crossI l m=0
 ·rw[(SP (v:=v) h0).1];exact h
 ·obtain⟨u1,_,u3,u4,u5⟩:=Sv (v:=v) hn h.z h.lo h.hi h0
  rw[u1];exact⟨u3,u4,u5⟩
def Em(o:Option ao):ao:=o.getD ⟨0,0,false,false⟩
def ZQ(G:Gh)(y:Value)(k:Is G (.tp [.ag [vI 0,vI 0, .v (.pointer none),vI 0,vI 0, .v (.pointer none), .v (.bool false), .v (.bool false)], .v (.bool false)]) y):Is G (.tp [eW (Em none),vB false]) y:=by
 obtain⟨m,rfl,g⟩:=iD.1 k;exact iD.2 ⟨m,J,OH (fun y hy=>by
  obtain⟨l,rfl,g⟩:=c6.1 hy;exact c6.2 ⟨l,J,B5 (GH [vI 0,vI 0, .v (.pointer none)] g)⟩) g⟩
def eH{α:Type}{f:α->DV}{l:List α}{i:Nat}{s:α}(h:l[i]? =some s):(l.map f)[(i:Int).toNat]? =some (f s):=by simp[h]
def Fe{α:Type}{l:List α}{k:Nat}{s:α}(h:l[k]? =some s):l.drop k=s::l.drop (k+1):=by
 obtain⟨h1,h2⟩:=aS.1 h;rw[cJ h1,h2]
def Ik{l:aa}{c:aF}{v:ao}{k:Nat}{s:aO}(h:c[k]? =some s):l7 l (c.drop k) v=if l.cutB v s.l then l7 l (c.drop (k+1)) (l.cutV v s.l) else none:=by
 rw[Fe h];rfl
def HU{l:aa}{c:aF}{k:Nat}{s:aO}(h:c[k]? =some s):mh l (c.drop k)=if mm l s≠0 then mm l s else if s.l=l then 1 else mh l (c.drop (k+1)):=by
 rw[Fe h];rfl
instance BQ.sample (v:ao) [h1:BQ v.lo 1200] [h2:BQ v.hi 1200]:BQ v.sample 2500:=by
 unfold ao.sample;split
 ·exact BQ.mono (k:=1) ⟨by decide,by decide⟩ (by decide)
 ·split
  ·exact BQ.mono (inferInstance:BQ (v.hi-((1:Int):Rat)) _) (by decide)
  ·split
   ·exact BQ.mono (inferInstance:BQ (v.lo+((1:Int):Rat)) _) (by decide)
   ·exact BQ.mono (inferInstance:BQ ((v.lo+v.hi)*mkRat 1 2) _) (by decide)
def IT{c:aF}{l:aa}[hl:LB l](hlo:l.ok)(hc:iH c)(hn:c.length<=1000000):PF GB prog 274 [.sl (c.map bi),cb l] (.tp [eW (Em (kw c l)),vB (kw c l).isSome]):=by
 have hm:=ul bi c;refine fn func274 J J ntmps274 J J (fun C=>?_);refine cl (fu:=⟨10⟩) J Xf J<|?_;refine aB 12 (.d (vI (c.length:Nat))) J (by rw[ul]<;>rfl) ?_;refine gx J<|?_;refine lp (X:=ao×Nat) (fun⟨v,k⟩=>[(13, .d (vI (k:Nat))),(6, .ov 6 0)]) (fun⟨v,k⟩=>[(6,some (.o 220 [.d (vI (dm v.lo)), .d (vI (dq v.lo)), .d (di v.lo), .d (vI (dm v.hi)), .d (vI (dq v.hi)), .d (di v.hi), .d (.v (.bool v.nl)), .d (.v (.bool v.nh))] true))]) (fun⟨v,k⟩=>k<=c.length/\qD v/\l7 l (c.drop k) v=kw c l) (fun⟨v,k⟩=>c.length-k) (ao.all,0) J ⟨bL _, .all,J⟩ (fun _=>J) (fun⟨v,k⟩ hk=>?_);dsimp only at hk⊢;obtain⟨h1,h2,h3⟩:=hk;haveI:=h2.lo;haveI:=h2.hi;refine br J J J (fun hc14=>?_) (fun hc14=>?_)
 .
  obtain⟨s,hs0⟩: ∃s,c[k]? =some s:=⟨_,aX (by omega)⟩;have hs:=hc s (bZ hs0);haveI:=hs.lb;refine ix _ J (eH hs0) J<|cl (fu:=⟨0⟩) J (Au (l:=l) (m:=s.l) (v:=v)) J<|?_;generalize hw:l.cutV v s.l=w;generalize hb:l.cutB v s.l=b;refine gx J<|?_;refine bb J J J (fun hc26=>?_) (fun hc26=>?_)
  .
   exact iu J (by rw[<-h3,Ik hs0,hb,if_neg (by simpa using hc26)];exact ZQ)
  .
   exact at_ (w,k+1) (by dsimp only;exact⟨⟨by omega,hw▸h2.cut hlo.1,by rw[<-h3,Ik hs0,hb,hw,if_pos (by simpa using hc26)]⟩,(by omega)⟩)
 .
  exact rz J (by rw[<-h3,gU (by omega)];rfl)
def QH{c:aF}{l:aa}[hl:LB l](hlo:l.ok)(hc:iH c)(hn:c.length<=1000000):PF GB prog 275 [.sl (c.map bi),cb l] (vI (uy c l)):=by
 have hm:=ul bi c;refine fn func275 J J ntmps275 J J (fun C=>?_);refine cl J (IT (c:=c) (l:=l) hlo hc hn) J<|?_;refine bb (fu2:=⟨7⟩) J J J (fun hc16=>?_) (fun hc16=>?_)
 .
  exact rz J (by unfold uy;rw[if_pos hc16];rfl)
 .
  have hp:uy c l=mh l c:=by unfold uy;rw[if_neg (by simp[hc16])]
  refine aB 18 (.d (vI (c.length:Nat))) J (by rw[ul]<;>rfl) ?_;refine gx J<|?_;refine lp (X:=Nat) (fun k=>[(19, .d (vI (k:Nat)))]) (fun k=>[]) (fun k=>k<=c.length/\mh l (c.drop k)=mh l c) (fun k=>c.length-k) 0 J ⟨bL _,J⟩ (fun _=>J) (fun k hk=>?_);obtain⟨h1,h2⟩:=hk;refine br J J J (fun hc20=>?_) (fun hc20=>?_)
  .
   obtain⟨s,hs0⟩: ∃s,c[k]? =some s:=⟨_,aX (by omega)⟩;have hs:=hc s (bZ hs0);haveI:=hs.lb;haveI:=hs.v.lo;haveI:=hs.v.hi;haveI:=BQ.sample s.v;refine ix _ J (eH hs0) J<|cl (fu:=⟨0⟩) J (OL (v:=s.v)) J<|?_;generalize ht:s.v.sample=t at*;refine gx J<|cl J (AZ (l:=s.l) (t:=t)) J<|cl J (DC (l:=l) (p:=s.l.at t)) J<|?_;refine br J J J (fun hc32=>?_) (fun hc32=>?_)
   .
    have hsd:mm l s=(l.value (s.l.at t)).num.sign:=by unfold mm;rw[ht]
    exact rz J (by rw[hp,<-h2,HU hs0,hsd,if_pos hc32];rfl)
   .
    refine cl J (Cx (l:=s.l) (m:=l)) J<|?_;refine bd J J J (fun hc37=>?_) (fun hc37=>?_)
    .
     have hsd:mm l s=(l.value (s.l.at t)).num.sign:=by unfold mm;rw[ht]
     exact rz J (by rw[hp,<-h2,HU hs0,hsd,if_neg hc32,if_pos hc37];rfl)
    .
     have hsd:mm l s=(l.value (s.l.at t)).num.sign:=by unfold mm;rw[ht]
     exact at_ (k+1) ⟨⟨by omega,by rw[<-h2,HU hs0,hsd,if_neg hc32,if_neg hc37]⟩,(by omega)⟩
  .
   exact rz J (by rw[hp,<-h2,gU (by omega)];rfl)
end Go.Sx
end
