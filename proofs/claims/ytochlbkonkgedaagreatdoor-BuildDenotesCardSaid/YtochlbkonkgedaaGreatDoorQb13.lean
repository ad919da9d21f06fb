import Derived.Test.YtochlbkonkgedaaGreatDoorQb12
import Derived.RecoverIn
set_option linter.all false
set_option maxHeartbeats 1000000
set_option maxRecDepth 100000
section
namespace Go.Sx
open Go Go.Proofs Tryz
variable {GB:Gh}
def Pt{m:Int}{g:Nat}(hg:(g:Int)∣m)(hb:m.natAbs<4611686018427387904):IntKind.i64.wrap (m.tdiv g)=m/g:=by
 rw[Int.tdiv_eq_ediv_of_dvd hg];have:=nS m g;exact Uy (by omega)
def tm(a b:Int):Int:=if(a*b).natAbs<4611686018427387904 then a*b else 0
def KM(a b:Int):(tm a b).natAbs<4611686018427387904:=by unfold tm;split<;>omega
def Cq{a b:Int}(h:(a*b).natAbs<4611686018427387904):tm a b=a*b:=if_pos h
def QN{a b:Int}(h: ¬(a*b).natAbs<4611686018427387904):DV.tp [vI 0, .v (.bool false)]= .tp [vI (tm a b),vB (decide ((a*b).natAbs<4611686018427387904))]:=by unfold tm;rw[if_neg h,decide_eq_false h];rfl
def MD{a b:Int}{x:Int}(h:(a*b).natAbs<4611686018427387904)(e:x=a*b):DV.tp [vI x, .v (.bool true)]= .tp [vI (tm a b),vB (decide ((a*b).natAbs<4611686018427387904))]:=by unfold tm;rw[if_pos h,decide_eq_true h,e];rfl
def Pm(n:Nat):eI (n:Int)= .ag [.v (.bool false),dN n]:=by unfold eI;rw[decide_eq_false (by omega),kX]
def aEn{p q:Rat}(hp:p.den=1)(hq:q.den=1):rgcd p q=((Nat.gcd p.num.natAbs q.num.natAbs:Nat):Int):=by
 conv=>lhs;rw[Ff hp,Ff hq]
 exact yu _ _
def aCa(q:Rat):mkRat (zv (decide (q.num<0)) q.den) q.num.natAbs=q⁻¹:=by
 rw[Rat.inv_def];by_cases h:q.num<0
 ·rw[decide_eq_true h];exact alB h
 ·rw[decide_eq_false h,<-Rat.divInt_ofNat,oZ (by omega)];rfl
instance BQ.inv (q:Rat) (i:Nat) [h:BQ q i]:BQ q⁻¹ i:=by
 have h1:=h.hn;have h2:=h.hd;have h3:=q.den_nz;rcases lW q.num 0 with k|k|k
 ·obtain⟨e1,e2⟩:=Rp k;exact⟨by omega,by omega⟩
 ·have e:q=0:=mR.1 k
  have e0:(0:Rat)⁻¹=0:=Rat.inv_zero;rw[e] at h1 h2⊢;rw[e0];exact⟨h1,h2⟩
 ·obtain⟨e1,e2⟩:=LR k;exact⟨by omega,by omega⟩
instance BQ.half:BQ (mkRat 1 2) 2:=⟨by decide,by decide⟩
def Zo{x y:Nat}(hx:x<18446744073709551616)(hy:y<18446744073709551616):PF GB prog 237 [.v (.int .u64 (x:Nat)), .v (.int .u64 (y:Nat))] (.tp [.v (.int .u64 ((x*y/18446744073709551616:Nat):Int)), .v (.int .u64 ((x*y%18446744073709551616:Nat):Int))]):=fun G vs _ hv=>by
 obtain⟨v,m,rfl,h1,h2⟩:=aP.1 hv;obtain⟨u,m',rfl,h3,h4⟩:=aP.1 h2
 cases co.1 h4
 rw[aH.1 h1,aH.1 h3];exact(YN hx hy).mono fun v G' _ h=>by subst h;exact jv.2 ⟨_,J, .cons (aH.2 J) (.cons (aH.2 J) .nil)⟩
def TA{a b:Nat}(ha:a<18446744073709551616)(hb:b<18446744073709551616):PF GB prog 204 [.v (.int .u64 (a:Nat)), .v (.int .u64 (b:Nat))] (.v (.int .u64 (Nat.gcd a b:Nat))):=by
 refine fn func204 J J ntmps204 J J (fun C=>?_);refine lp (X:=Nat×Nat) (fun⟨u,v⟩=>[(1, .d (.v (.int .u64 (v:Nat)))),(0, .d (.v (.int .u64 (u:Nat))))]) (fun⟨u,v⟩=>[]) (fun⟨u,v⟩=>u<18446744073709551616/\v<18446744073709551616/\Nat.gcd u v=Nat.gcd a b) (fun⟨u,v⟩=>v) (a,b) J ⟨ha,hb,J⟩ (fun _=>J) (fun⟨u,v⟩ hk=>?_);dsimp only at hk⊢;obtain⟨h1,h2,h3⟩:=hk;refine br (v1:=fun hc6=>by simp only[ah];exact⟨by omega,by kernel_rfl⟩) J J J (fun hc6=>?_) (fun hc6=>?_)
 .
  have hm:=dW u (show 0<v by omega);exact at_ (v,u%v) (by dsimp only;exact⟨⟨h2,by omega,by rw[<-h3,jZ u v,tU v u,jZ]⟩,hm⟩)
 .
  exact rz J (by rw[<-h3,show v=0 by omega,nV];rfl)
def ph{m:Int}(h:m.natAbs<9223372036854775808):PF GB prog 123 [vI m] (eF (m:Rat)):=by
 refine fn func123 J J ntmps123 J J (fun C=>?_);refine cs 5 J J J (fun hg5=>?_) (fun hg5=>?_)
 .
  refine cl J (Lb (m:=m) (by omega) (by omega)) J<|rf (fu:=⟨0⟩) J J<|?_;refine ao 11 (.d (dN 1)) J (by unfold dN;rw[Cl];rfl) ?_;refine gx J<|cl J (uV (n:=decide (m<0)) (a:=m.natAbs) (i:=63) (h:=⟨h⟩) (d:=1)) J<|?_;exact rz J (by rw[my,show mkRat m 1=(m:Rat) from sL ..];rfl)
 .
  refine br J J J (fun hc8=>?_) (fun hc8=>?_)
  .
   refine cl J (Lb (m:=m) (by omega) (by omega)) J<|rf (fu:=⟨0⟩) J J<|?_;refine ao 11 (.d (dN 1)) J (by unfold dN;rw[Cl];rfl) ?_;refine gx J<|cl J (uV (n:=decide (m<0)) (a:=m.natAbs) (i:=63) (h:=⟨h⟩) (d:=1)) J<|?_;exact rz J (by rw[my,show mkRat m 1=(m:Rat) from sL ..];rfl)
  .
   exact jf J (NN (by omega))
def By{a b:Int}(ha:a.natAbs<4611686018427387904)(hb:b.natAbs<4611686018427387904):PF GB prog 208 [vI a,vI b] (.tp [vI (tm a b),vB (decide ((a*b).natAbs<4611686018427387904))]):=by
 have hab:=jU a b;refine fn func208 J J ntmps208 J J (fun C=>?_);refine cl J (C8 (m:=a) (by omega)) J<|cl J (C8 (m:=b) (by omega)) J<|cl J (Zo (x:=a.natAbs) (y:=b.natAbs) (by omega) (by omega)) J<|?_;refine cs 18 J J J (fun hg18=>?_) (fun hg18=>?_)
 .
  exact rz J (QN (by omega))
 .
  refine br J J J (fun hc21=>?_) (fun hc21=>?_)
  .
   exact rz J (QN (by omega))
  .
   refine bb J J J (fun hc26=>?_) (fun hc26=>?_)
   .
    have hs:=TQ a b;rw[if_neg (by simpa using hc26)] at hs;exact rz J (MD (by omega) (by rw[hs,<-hab];omega))
   .
    have hs:=TQ a b;rw[if_pos (by simpa using hc26)] at hs;exact rz J (MD (by omega) (by rw[hs,<-hab];omega))
def Re{m:Int}{d:Nat}(h:m.natAbs<4611686018427387904)(h0:0<d)(hd:d<4611686018427387904):PF GB prog 209 [vI m,vI (d:Nat)] (eF (mkRat m d)):=by
 have hg:Nat.gcd m.natAbs d<=d:=Nat.gcd_le_right _ h0;have hg0:0<Nat.gcd m.natAbs d:=oV _ h0;obtain⟨e1,e2⟩:=O5 (m:=m) h0;have e3:=nS m (Nat.gcd m.natAbs d:Nat);have e4:=kU d (Nat.gcd m.natAbs d);have e5:=Nat.div_pos hg hg0;refine fn func209 J J ntmps209 J J (fun C=>?_);refine cl J (C8 (m:=m) (by omega)) J<|cl J (TA (a:=m.natAbs) (b:=d) (by omega) (by omega)) J<|?_;refine br (fu1:=⟨4⟩) J J J (fun hc13=>?_) (fun hc13=>?_)
 .
  refine ao 16 (.d (vI (m/(Nat.gcd m.natAbs d:Nat)))) J (by rw[Pt (Int.dvd_natAbs.1 (rU.2 (kK _ _))) h];rfl) ?_;refine gx (fu:=⟨3⟩) J<|?_;refine ao 19 (.d (vI ((d/Nat.gcd m.natAbs d:Nat)))) J (by rw[Pt (rU.2 (lY _ _)) (by rw[kX];exact hd)];rfl) ?_;refine gx (hv:=by simp only[ah];exact⟨by kernel_rfl,by omega⟩) J<|?_;exact jf J (uv (fun k=>k ⟨by rw[e1];omega,by rw[e2];omega⟩) e1 (by rw[e2]) J)
 .
  exact jf J (by have h1:Nat.gcd m.natAbs d=1:=(by omega);rw[h1,tT] at e2;rw[h1,Int.natCast_one,Int.ediv_one] at e1;exact uv (fun k=>k ⟨by rw[e1];omega,by rw[e2];omega⟩) e1 (by rw[e2]) J)
def uh{p q:Rat}{i j:Nat}[h:BQ p i][k:BQ q j](hi:i<=100000000:=by decide)(hj:j<=100000000:=by decide):PF GB prog 174 [eF p,eF q] (eF (p*q)):=by
 refine fn (fu:=⟨8⟩) func174 J J ntmps174 J J (fun C=>?_);refine mg (X:=Unit) (fun _=>[(2, .ov 2 0),(3, .ov 3 0),(4, .ov 4 0)]) (fun _=>[(2,some (.o 87 [.d (vI (dq p)), .d (vI (dm p)), .d (dh p)] true)),(3,some (.o 87 [.d (vI (dq q)), .d (vI (dm q)), .d (dh q)] true)),(4,some (.o 87 [.d (.v (.int .i64 0)), .d (.v (.int .i64 0)), .d (.v (.pointer none))] true))]) (fun _=>True) [2,3,4] [2,3,4] rfl ?_ (fun _=>J) (fun _ _=>?_)
 .
  refine gx J<|?_;refine cs 12 J J J (fun hg12=>?_) (fun hg12=>?_)
  .
   refine br (fu1:=⟨4⟩) J J J (fun hc16=>?_) (fun hc16=>?_)
   .
    have hp:=t6 hg12;have hq:=t6 hc16;have p1:=nE hp;have p2:=pk hp;have p3:=qC hp;have p4:=qp hp;have p5:=p.den_nz;have q1:=nE hq;have q2:=pk hq;have q3:=qC hq;have q4:=qp hq;have q5:=q.den_nz;refine ao 19 (.d (vI p.num)) J (by rw[p1]) ?_;refine gx (fu:=⟨2⟩) J<|?_;refine ao 21 (.d (vI q.num)) J (by rw[q1]) ?_;refine gx J<|cl (fu:=⟨12⟩) J (By (a:=p.num) (b:=q.num) (by omega) (by omega)) J<|?_;refine ao 28 (.d (vI (p.den:Nat))) J (by congr 3;omega) ?_;refine gx (fu:=⟨3⟩) J<|?_;refine ao 31 (.d (vI (q.den:Nat))) J (by congr 3;omega) ?_;refine gx J<|cl J (By (a:=(p.den:Nat)) (b:=(q.den:Nat)) (by omega) (by omega)) J<|?_;refine csd 36 J J J (fun hg36=>?_) (fun hg36=>?_)
    .
     refine bd (fu1:=⟨3⟩) J J J (fun hc38=>?_) (fun hc38=>?_)
     .
      have hd1:p.den*q.den<4611686018427387904:=by omega
      refine ao 39 (.d (vI (p.num*q.num))) J (by rw[Cq hg36]) ?_;refine gx (fu:=⟨1⟩) J<|?_;refine ao 40 (.d (vI ((p.den*q.den:Nat)))) J (by rw[Cq hc38];rfl) ?_;refine gx J<|cl J (Re (m:=p.num*q.num) (d:=p.den*q.den) hg36 (jS (by omega) (by omega)) hd1) J<|?_;exact rz J (by rw[<-B5];rfl)
     .
      exact at_ () trivial
    .
     exact at_ () trivial
   .
    exact at_ () trivial
  .
   exact at_ () trivial
 .
  refine cl J (tH (q:=p) (by omega)) J<|cl J (tH (q:=q) (by omega)) J<|cl J (Jy (a:=p.num) (b:=q.num) (by omega) (by omega)) J<|?_;refine cl J (ry (q:=p) (by omega)) J<|cl J (ry (q:=q) (by omega)) J<|cl J (Ba (a:=p.den) (b:=q.den) (by omega) (by omega)) J<|?_;refine cl J (uV (n:=decide (p.num*q.num<0)) (a:=(p.num*q.num).natAbs) (d:=p.den*q.den) (i:=i+j) (j:=i+j) (by omega) (by omega)) J<|?_;exact rz J (by rw[my,<-B5];rfl)
def uc{p q:Rat}{i j:Nat}[h:BQ p i][k:BQ q j](hi:i<=100000000:=by decide)(hj:j<=100000000:=by decide):PF GB prog 175 [eF p,eF q] (eF (p+q)):=by
 refine fn (fu:=⟨8⟩) func175 J J ntmps175 J J (fun C=>?_);refine mg (X:=Unit) (fun _=>[(2, .ov 2 0),(3, .ov 3 0),(4, .ov 4 0)]) (fun _=>[(2,some (.o 87 [.d (vI (dq p)), .d (vI (dm p)), .d (dh p)] true)),(3,some (.o 87 [.d (vI (dq q)), .d (vI (dm q)), .d (dh q)] true)),(4,some (.o 87 [.d (.v (.int .i64 0)), .d (.v (.int .i64 0)), .d (.v (.pointer none))] true))]) (fun _=>True) [2,3,4] [2,3,4] rfl ?_ (fun _=>J) (fun _ _=>?_)
 .
  refine gx J<|?_;refine cs 16 J J J (fun hg16=>?_) (fun hg16=>?_)
  .
   refine br (fu1:=⟨1⟩) J J J (fun hc20=>?_) (fun hc20=>?_)
   .
    have hp:=t6 hg16;have hq:=t6 hc20;have p1:=nE hp;have p2:=pk hp;have p3:=qC hp;have p4:=qp hp;have p5:=p.den_nz;have q1:=nE hq;have q2:=pk hq;have q3:=qC hq;have q4:=qp hq;have q5:=q.den_nz;refine mg (fu:=⟨4⟩) (X:=Unit) (fun _=>[(2, .ov 2 0),(3, .ov 3 0),(4, .ov 4 0)]) (fun _=>[(2,some (.o 87 [.d (vI (dq p)), .d (vI (dm p)), .d (dh p)] true)),(3,some (.o 87 [.d (vI (dq q)), .d (vI (dm q)), .d (dh q)] true)),(4,some (.o 87 [.d (.v (.int .i64 0)), .d (.v (.int .i64 0)), .d (.v (.pointer none))] true))]) (fun _=>True) [2,3,4] [2,3,4] rfl ?_ (fun _=>J) (fun _ _=>?_)
    .
     refine gx J<|?_;refine cs 24 J J J (fun hg24=>?_) (fun hg24=>?_)
     .
      refine br (fu1:=⟨4⟩) J J J (fun hc28=>?_) (fun hc28=>?_)
      .
       refine ao 30 (.d (vI p.num)) J (by rw[p1]) ?_;refine gx (fu:=⟨2⟩) J<|?_;refine ao 32 (.d (vI q.num)) J (by rw[q1]) ?_;refine gx J<|cl J (ph (m:=p.num+q.num) (by omega)) J<|?_;exact rz J (by rw[Ff (q:=p) (by omega),Ff (q:=q) (by omega),<-pV];rfl)
      .
       exact at_ () trivial
     .
      exact at_ () trivial
    .
     refine ao 37 (.d (vI p.num)) J (by rw[p1]) ?_;refine gx (fu:=⟨3⟩) J<|?_;refine ao 40 (.d (vI (q.den:Nat))) J (by congr 3;omega) ?_;refine gx J<|cl (fu:=⟨11⟩) J (By (a:=p.num) (b:=(q.den:Nat)) (by omega) (by omega)) J<|?_;refine ao 46 (.d (vI q.num)) J (by rw[q1]) ?_;refine gx (fu:=⟨3⟩) J<|?_;refine ao 49 (.d (vI (p.den:Nat))) J (by congr 3;omega) ?_;refine gx J<|cl (fu:=⟨12⟩) J (By (a:=q.num) (b:=(p.den:Nat)) (by omega) (by omega)) J<|?_;refine ao 56 (.d (vI (p.den:Nat))) J (by congr 3;omega) ?_;refine gx (fu:=⟨3⟩) J<|?_;refine ao 59 (.d (vI (q.den:Nat))) J (by congr 3;omega) ?_;refine gx J<|cl (fu:=⟨3⟩) J (By (a:=(p.den:Nat)) (b:=(q.den:Nat)) (by omega) (by omega)) J<|?_;have t1:=KM p.num (q.den:Nat);have t2:=KM q.num (p.den:Nat);have t3:=KM (p.den:Nat) (q.den:Nat);refine gx J<|?_;refine csd 67 J J J (fun hg67=>?_) (fun hg67=>?_)
     .
      refine csd 70 J J J (fun hg70=>?_) (fun hg70=>?_)
      .
       refine csd 73 J J J (fun hg73=>?_) (fun hg73=>?_)
       .
        refine cs 77 J J J (fun hg77=>?_) (fun hg77=>?_)
        .
         refine br (fu1:=⟨3⟩) J J J (fun hc80=>?_) (fun hc80=>?_)
         .
          have u1:=Cq hg67;have u2:=Cq hg70;have u3:=Cq hg73;have hd1:p.den*q.den<4611686018427387904:=by omega
          refine ao 81 (.d (vI (p.num*(q.den:Nat)+q.num*(p.den:Nat)))) J (by rw[u1,u2];rfl) ?_;refine gx (fu:=⟨1⟩) J<|?_;refine ao 82 (.d (vI ((p.den*q.den:Nat)))) J (by rw[u3];rfl) ?_;refine gx J<|cl J (Re (m:=p.num*(q.den:Nat)+q.num*(p.den:Nat)) (d:=p.den*q.den) (by omega) (jS (by omega) (by omega)) hd1) J<|?_;exact rz J (by rw[<-BP];rfl)
         .
          exact at_ () trivial
        .
         exact at_ () trivial
       .
        exact at_ () trivial
      .
       exact at_ () trivial
     .
      exact at_ () trivial
   .
    exact at_ () trivial
  .
   exact at_ () trivial
 .
  refine cl J (tH (q:=p) (by omega)) J<|cl (fu:=⟨1⟩) J (ry (q:=q) (by omega)) J<|?_;refine ao 88 (.d (eI (q.den:Nat))) J (by rw[Pm]) ?_;refine gx J<|cl J (Jy (a:=p.num) (b:=(q.den:Nat)) (by omega) (by omega)) J<|cl J (tH (q:=q) (by omega)) J<|cl (fu:=⟨1⟩) J (ry (q:=p) (by omega)) J<|?_;refine ao 94 (.d (eI (p.den:Nat))) J (by rw[Pm]) ?_;refine gx J<|cl J (Jy (a:=q.num) (b:=(p.den:Nat)) (by omega) (by omega)) J<|cl J (aDu (a:=p.num*(q.den:Nat)) (b:=q.num*(p.den:Nat)) (i:=i+j) (j:=j+i) (by omega) (by omega)) J<|?_;refine cl J (ry (q:=p) (by omega)) J<|cl J (ry (q:=q) (by omega)) J<|cl J (Ba (a:=p.den) (b:=q.den) (by omega) (by omega)) J<|?_;refine cl J (uV (n:=decide (p.num*(q.den:Nat)+q.num*(p.den:Nat)<0)) (a:=(p.num*(q.den:Nat)+q.num*(p.den:Nat)).natAbs) (d:=p.den*q.den) (i:=i+j+(j+i)+1) (j:=i+j) (by omega) (by omega)) J<|?_;exact rz J (by rw[my,<-BP];rfl)
def u6{p q:Rat}{i j:Nat}[h:BQ p i][k:BQ q j](hi:i<=100000000:=by decide)(hj:j<=100000000:=by decide):PF GB prog 157 [eF p,eF q] (eF (p-q)):=by
 refine fn func157 J J ntmps157 J J (fun C=>?_);refine cl J (n4 (q:=q) (by omega)) J<|cl J (uc (p:=p) (q:= -q) (by omega) (by omega)) J<|?_;exact rz J (by rw[<-Rat.sub_eq_add_neg];rfl)
def E2{q:Rat}{i:Nat}[h:BQ q i](hi:i<=400000000:=by decide):PF GB prog 179 [eF q] (eF q⁻¹):=by
 refine fn func179 J J ntmps179 J J (fun C=>?_);refine br (v1:=fun hc3=>by simp only[ah];exact⟨⟨hc3,hc3⟩,hc3⟩) J J J (fun hc3=>?_) (fun hc3=>?_)
 .
  refine cl J (uV (n:=decide (q.num<0)) (a:=q.den) (d:=q.num.natAbs) (by omega) (by omega)) J<|?_;exact rz J (by rw[aCa];rfl)
 .
  have q1:=nE (oP hc3);have q2:=pk (oP hc3);have q3:=qC (oP hc3);have q4:=qp (oP hc3);have q5:=q.den_nz;refine br J J J (fun hc26=>?_) (fun hc26=>?_)
  .
   exact jf rfl (by obtain⟨e1,e2⟩:=Rp (q:=q) (by omega);exact uv (fun k=>k ⟨by omega,by omega⟩) (by omega) (by omega) rfl)
  .
   refine br J J J (fun hc39=>?_) (fun hc39=>?_)
   .
    exact jf J (by rw[mR.1 (show q.num=0 by omega),Rat.inv_zero];exact ut)
   .
    exact jf rfl (by obtain⟨e1,e2⟩:=LR (q:=q) (by omega);exact uv (fun k=>k ⟨by omega,by omega⟩) (by omega) (by omega) rfl)
def uD{p q:Rat}{i j:Nat}[h:BQ p i][k:BQ q j](hi:i<=100000000:=by decide)(hj:j<=100000000:=by decide):PF GB prog 148 [eF p,eF q] (eF (p/q)):=by
 refine fn func148 J J ntmps148 J J (fun C=>?_);refine cl J (E2 (q:=q) (by omega)) J<|cl J (uh (p:=p) (q:=q⁻¹) (by omega) (by omega)) J<|?_;exact rz J (by rw[Rat.div_def];rfl)
def NU{G:Gh}{q r:DV}{t:List DV}{vs:List Value}(h: ∀y,Is G r y->Is G q y)(hv:IsLs G (r::t) vs):IsLs G (q::t) vs:=by
 obtain⟨y,m,rfl,h1,h2⟩:=aP.1 hv;exact .cons (h _ h1) h2
def JO{G:Gh}{a q r:DV}{t:List DV}{vs:List Value}(h: ∀y,Is G r y->Is G q y)(hv:IsLs G (a::r::t) vs):IsLs G (a::q::t) vs:=by
 obtain⟨y,m,rfl,h1,h2⟩:=aP.1 hv;exact .cons h1 (NU h h2)
def WG{q:Rat}{i:Nat}[h:BQ q i](hi:i<=100000000:=by decide):PF GB prog 174 [eF q, .ag [vI 1,vI 1, .v (.pointer none)]] (eF (q*mkRat 1 2)):=
 (uh (p:=q) (q:=mkRat 1 2) hi).ofI fun G vs hv=>JO (fun y hy=>uv (q:=mkRat 1 2) (fun k=>k ⟨by decide,by decide⟩) (by decide) (by decide) J G y hy) hv
def Ec{q:Rat}{i:Nat}[h:BQ q i](hi:i<=100000000:=by decide):PF GB prog 141 [eF q] (eF (q*mkRat 1 2)):=by
 refine fn func141 J J ntmps141 J J (fun C=>?_);refine cl J (WG (q:=q) (by omega)) J<|?_;exact rz J J
def jE{p q:Rat}{i j:Nat}[h:BQ p i][k:BQ q j](hi:i<=100000000:=by decide)(hj:j<=100000000:=by decide):PF GB prog 108 [eF p,eF q] (vI (cg p q)):=by
 refine fn func108 J J ntmps108 J J (fun C=>?_);refine cs 8 J J J (fun hg8=>?_) (fun hg8=>?_)
 .
  refine cs 13 J J J (fun hg13=>?_) (fun hg13=>?_)
  .
   refine br J J J (fun hc19=>?_) (fun hc19=>?_)
   .
    have hp:=t6 hg8;have hq:=t6 hg13;have p1:=nE hp;have p2:=pk hp;have p3:=qC hp;have p4:=qp hp;have p5:=p.den_nz;have q1:=nE hq;have q2:=pk hq;have q3:=qC hq;have q4:=qp hq;have q5:=q.den_nz;have hl:=R9 (a:=p) (b:=q) (by omega);have hr:=R9 (a:=q) (b:=p) (by omega);unfold cg;refine br J J J (fun hc20=>?_) (fun hc20=>?_)
    .
     exact rz J (by rw[if_pos (hl.2 (by omega))];rfl)
    .
     refine br J J J (fun hc26=>?_) (fun hc26=>?_)
     .
      exact rz J (by rw[if_neg (fun e=>by have:=hl.1 e;omega),if_pos (hr.2 (by omega))];rfl)
     .
      exact rz J (by rw[if_neg (fun e=>by have:=hl.1 e;omega),if_neg (fun e=>by have:=hr.1 e;omega)];rfl)
   .
    refine cl J (u6 (p:=p) (q:=q) (by omega) (by omega)) J<|cl J (kv (q:=p-q) (by omega)) J<|?_;exact rz J (by rw[DU];rfl)
  .
   refine cl J (u6 (p:=p) (q:=q) (by omega) (by omega)) J<|cl J (kv (q:=p-q) (by omega)) J<|?_;exact rz J (by rw[DU];rfl)
 .
  refine cl J (u6 (p:=p) (q:=q) (by omega) (by omega)) J<|cl J (kv (q:=p-q) (by omega)) J<|?_;exact rz J (by rw[DU];rfl)
def Aw{p q:Rat}{i j:Nat}[h:BQ p i][k:BQ q j](hi:i<=100000000:=by decide)(hj:j<=100000000:=by decide):PF GB prog 144 [eF p,eF q] (vB (decide (p=q))):=by
 refine fn func144 J J ntmps144 J J (fun C=>?_);refine cl J (jE (p:=p) (q:=q) hi hj) J<|?_;exact rz J (by show DV.v (.bool (decide _))= .v (.bool _);congr 2;exact decide_eq_decide.2 (wc p q))
def X9{p q:Rat}{i j:Nat}[h:BQ p i][k:BQ q j](hi:i<=100000000:=by decide)(hj:j<=100000000:=by decide):PF GB prog 231 [eF p,eF q] (eF (if p<q then q else p)):=by
 refine fn func231 J J ntmps231 J J (fun C=>?_);refine cl J (jE (p:=q) (q:=p) hj hi) J<|?_;refine br J J J (fun hc8=>?_) (fun hc8=>?_)
 .
  exact rz J (by rw[if_pos ((TH q p).1 hc8)];rfl)
 .
  exact rz J (by rw[if_neg (fun e=>hc8 ((TH q p).2 e))];rfl)
def Jz{p q:Rat}{i j:Nat}[h:BQ p i][k:BQ q j](hi:i<=100000000:=by decide)(hj:j<=100000000:=by decide):PF GB prog 139 [eF p,eF q] (eF (if q<p then q else p)):=by
 refine fn func139 J J ntmps139 J J (fun C=>?_);refine cl J (jE (p:=q) (q:=p) hj hi) J<|?_;refine br J J J (fun hc8=>?_) (fun hc8=>?_)
 .
  exact rz J (by rw[if_pos ((P1 q p).1 hc8)];rfl)
 .
  exact rz J (by rw[if_neg (fun e=>hc8 ((P1 q p).2 e))];rfl)
def oC{p q:Rat}{i j:Nat}[h:BQ p i][k:BQ q j](hi:i<=100000000:=by decide)(hj:j<=100000000:=by decide):PF GB prog 173 [eF p,eF q] (eF (rgcd p q)):=by
 refine fn (fu:=⟨8⟩) func173 J J ntmps173 J J (fun C=>?_);refine mg (X:=Unit) (fun _=>[(2, .ov 2 0),(3, .ov 3 0),(4, .ov 4 0)]) (fun _=>[(2,some (.o 87 [.d (vI (dq p)), .d (vI (dm p)), .d (dh p)] true)),(3,some (.o 87 [.d (vI (dq q)), .d (vI (dm q)), .d (dh q)] true)),(4,some (.o 87 [.d (.v (.int .i64 0)), .d (.v (.int .i64 0)), .d (.v (.pointer none))] true))]) (fun _=>True) [2,3,4] [2,3,4] rfl ?_ (fun _=>J) (fun _ _=>?_)
 .
  refine gx J<|?_;refine cs 10 J J J (fun hg10=>?_) (fun hg10=>?_)
  .
   refine cs 15 J J J (fun hg15=>?_) (fun hg15=>?_)
   .
    have hp:=t6 hg10;have hq:=t6 hg15;have p1:=nE hp;have p2:=pk hp;have p3:=qC hp;have p4:=qp hp;have p5:=p.den_nz;have q1:=nE hq;have q2:=pk hq;have q3:=qC hq;have q4:=qp hq;have q5:=q.den_nz;refine cs 20 J J J (fun hg20=>?_) (fun hg20=>?_)
    .
     refine br (fu1:=⟨4⟩) J J J (fun hc24=>?_) (fun hc24=>?_)
     .
      have hg:=Xt p3 q3;refine ao 26 (.d (vI p.num)) J (by rw[p1]) ?_;refine gx J<|cl (fu:=⟨2⟩) J (C8 (m:=p.num) (by omega)) J<|?_;refine ao 29 (.d (vI q.num)) J (by rw[q1]) ?_;refine gx J<|cl J (C8 (m:=q.num) (by omega)) J<|cl (hv:=by simp only[ah];exact⟨by omega,by kernel_rfl⟩) J (TA (a:=p.num.natAbs) (b:=q.num.natAbs) (by omega) (by omega)) J<|?_;exact jf J (by rw[aEn (p:=p) (q:=q) (by omega) (by omega)];exact NN (by rw[kX];exact hg))
     .
      exact at_ () trivial
    .
     exact at_ () trivial
   .
    exact at_ () trivial
  .
   exact at_ () trivial
 .
  refine cl J (ry (q:=p) (by omega)) J<|cl J (ry (q:=q) (by omega)) J<|cl J (Ba (a:=p.den) (b:=q.den) (by omega) (by omega)) J<|?_;refine cl J (tH (q:=p) (by omega)) J<|cl J (ry (q:=q) (by omega)) J<|cl J (Ba (a:=p.num.natAbs) (b:=q.den) (by omega) (by omega)) J<|?_;refine cl J (tH (q:=q) (by omega)) J<|cl J (ry (q:=p) (by omega)) J<|cl J (Ba (a:=q.num.natAbs) (b:=p.den) (by omega) (by omega)) J<|?_;refine cl J (I1 (a:=p.num.natAbs*q.den) (b:=q.num.natAbs*p.den) (i:=i+j) (j:=j+i) (by omega) (by omega)) J<|cl J (uV (n:=false) (a:=Nat.gcd (p.num.natAbs*q.den) (q.num.natAbs*p.den)) (d:=p.den*q.den) (i:=i+j+(j+i)) (j:=i+j) (by omega) (by omega)) J<|?_;exact rz J J
end Go.Sx
end
section
namespace Go.Sx
open Go
def crossI(l m:ab):Int:=l.a*m.b-m.a*l.b
def meetX(l m:ab):Int:=l.b*m.c-m.b*l.c
def meetY(l m:ab):Int:=m.a*l.c-l.a*m.c
def gg(l m:ab):aa:=if crossI l m=0 then⟨0,0⟩ else⟨(meetX l m:Rat)/(crossI l m:Rat),(meetY l m:Rat)/(crossI l m:Rat)⟩
def cB(l:ab)(p:aa):Rat:=p.dot l.dir/l.dir.dot l.dir
def HQ(l:ab):l.dir.dot l.dir=l.nor.dot l.nor:=by
 simp only[ab.dir,ab.nor,aa.dot];grind
def z8{l:ab}(h:l.Ne):0<l.dir.dot l.dir:=by rw[HQ];exact qn h
def BK(l m:ab):((crossI l m:Int):Rat)=(l.a:Rat)*m.b-(m.a:Rat)*l.b:=by
 unfold crossI;rw[mS,dZ,dZ]
def LT(l m:ab):((meetX l m:Int):Rat)=(l.b:Rat)*m.c-(m.b:Rat)*l.c:=by
 unfold meetX;rw[mS,dZ,dZ]
def Tl(l m:ab):((meetY l m:Int):Rat)=(m.a:Rat)*l.c-(l.a:Rat)*m.c:=by
 unfold meetY;rw[mS,dZ,dZ]
def De(l m:ab):l.cutK m= -((crossI l m:Int):Rat):=by
 rw[BK];simp only[ab.cutK,ab.nor,ab.dir,aa.dot];grind
def Pf(l m:ab):m.dir.cross l.dir=l.cutK m:=by
 simp only[ab.cutK,ab.nor,ab.dir,aa.dot,aa.cross];grind
def Ot{l:ab}:(⟨-((l.c:Rat)/l.dir.dot l.dir)*(l.a:Rat), -((l.c:Rat)/l.dir.dot l.dir)*(l.b:Rat)⟩:aa)=l.base:=by
 unfold ab.base;rw[HQ];simp only[ab.nor,aa.scale,aa.mk.injEq];constructor<;>grind
def tF(l:ab)(t:Rat):bt l.base l.dir t=l.at t:=by
 simp only[bt,ab.at,aa.add,aa.scale,aa.mk.injEq];constructor<;>grind
def AM{l m:ab}(hl:l.Ne)(h:crossI l m≠0):cB l (gg l m)= -(l.cutC m/l.cutK m):=by
 have hd:((crossI l m:Int):Rat)≠0:=fun e=>h (dY.1 e);have hn:=z8 hl;obtain⟨q,q1,q2⟩:=BD hl;rw[De];unfold cB gg ab.cutC;rw[if_neg h,q2,n5,LT,Tl];have hc:=BK l m;rw[HQ] at hn⊢;simp only[ab.dir,ab.nor,aa.dot] at hn q1⊢;generalize ((crossI l m:Int):Rat)=d at*;generalize (l.a:Rat)=a at*;generalize (l.b:Rat)=b at*;generalize (l.c:Rat)=c at*;generalize (m.a:Rat)=x at*;generalize (m.b:Rat)=y at*;generalize (m.c:Rat)=z at*;have hn':a*a+b*b≠0:=by grind
 have e:((b*z-y*c)/d*b+(x*c-a*z)/d* -a)=((b*z-y*c)*b-(x*c-a*z)*a)/d:=by grind
 rw[e];have k1:(b*z-y*c)*b-(x*c-a*z)*a=(a*a+b*b)*(x*(a*q)+y*(b*q)+z):=by grind
 rw[k1];grind
def Wq{l m:ab}(hl:l.Ne)(h:crossI l m≠0):cB l (gg l m)*((crossI l m*(l.a*l.a+l.b*l.b):Int):Rat)=((meetX l m*l.b-meetY l m*l.a:Int):Rat):=by
 have hd:((crossI l m:Int):Rat)≠0:=fun e=>h (dY.1 e);have hn:=z8 hl;unfold cB gg;rw[if_neg h];simp only[dZ,mS,pV];simp only[ab.dir,aa.dot] at hn⊢;generalize ((crossI l m:Int):Rat)=d at*;generalize ((meetX l m:Int):Rat)=x at*;generalize ((meetY l m:Int):Rat)=y at*;generalize (l.a:Rat)=a at*;generalize (l.b:Rat)=b at*;have hn':b*b+ -a* -a≠0:=by grind
 grind
def ar8(l m:ab)(t:List ab)(v:av):jm l (m::t) v=if m=l then jm l t v else if l.cutB v m then jm l t (l.cutV v m) else none:=rfl
def uz(v:av)(t:Rat):av:=if v.nl=true\/0<cg t v.lo then⟨t,v.hi,false,v.nh⟩ else v
def wi(v:av)(t:Rat):av:=if v.nh=true\/cg t v.hi<0 then⟨v.lo,t,v.nl,false⟩ else v
structure jx (v:av):Prop where
 lo:v.nl=true->v.lo=0
 hi:v.nh=true->v.hi=0
def Dp(a b:Rat):0<cg a b↔b<a:=by
 unfold cg;split
 ·constructor
  ·intro h;exact absurd h (by decide)
  ·intro h;grind
 ·split
  ·exact⟨fun _=>by assumption,fun _=>by decide⟩
  ·constructor
   ·intro h;exact absurd h (by decide)
   ·intro h;exact absurd h (by assumption)
def Bn(a b:Rat):cg a b<0↔a<b:=by
 unfold cg;split
 ·exact⟨fun _=>by assumption,fun _=>by decide⟩
 ·split
  ·constructor
   ·intro h;exact absurd h (by decide)
   ·intro h;grind
  ·constructor
   ·intro h;exact absurd h (by decide)
   ·intro h;exact absurd h (by assumption)
def N8{v:av}(h:jx v)(t:Rat):uz v t=v.meet ⟨t,0,false,true⟩:=by
 obtain⟨lo,hi,nl,nh⟩:=v;obtain⟨h1,h2⟩:=h;unfold uz av.meet;simp only[Dp] at*
 cases nl<;>cases nh<;>simp at* <;>(try (split<;>split<;>simp_all<;>grind))<;>grind
def TX{v:av}(h:jx v)(t:Rat):wi v t=v.meet ⟨0,t,true,false⟩:=by
 obtain⟨lo,hi,nl,nh⟩:=v;obtain⟨h1,h2⟩:=h;unfold wi av.meet;simp only[Bn] at*
 cases nl<;>cases nh<;>simp at* <;>(try (split<;>split<;>simp_all<;>grind))<;>grind
def jx.all:jx av.all:=⟨fun _=>J,fun _=>J⟩
def jx.lo'{v:av}(h:jx v)(t:Rat):jx (uz v t):=by
 obtain⟨lo,hi,nl,nh⟩:=v;unfold uz;split
 ·exact⟨fun h=>by simp at h,h.hi⟩
 ·exact h
def jx.hi'{v:av}(h:jx v)(t:Rat):jx (wi v t):=by
 obtain⟨lo,hi,nl,nh⟩:=v;unfold wi;split
 ·exact⟨h.lo,fun h=>by simp at h⟩
 ·exact h
def axE{l m:ab}{v:av}(h:crossI l m=0):l.cutV v m=v/\(l.cutB v m=true↔0<m.value l.base):=by
 have hk:l.cutK m=0:=by rw[De,h];rfl
 exact A5 v hk
def aCC{l m:ab}{v:av}(hl:l.Ne)(hz:jx v)(h:0<m.dir.cross l.dir):crossI l m≠0/\l.cutV v m=uz v (cB l (gg l m))/\l.cutB v m=!(uz v (cB l (gg l m))).empty:=by
 rw[Pf] at h;have hc:crossI l m≠0:=fun e=>by rw[De,e] at h;exact absurd h (by decide)
 obtain⟨h1,h2⟩:=Bl v h;refine⟨hc,?_,?_⟩
 ·rw[N8 hz,AM hl hc,h1]
 ·rw[N8 hz,AM hl hc,<-h1]
  rw[<-FF] at h2
  cases hb:l.cutB v m<;>cases he:(l.cutV v m).empty<;>simp_all
def aCS{l m:ab}{v:av}(hl:l.Ne)(hz:jx v)(h0:crossI l m≠0)(h: ¬0<m.dir.cross l.dir):l.cutV v m=wi v (cB l (gg l m))/\l.cutB v m=!(wi v (cB l (gg l m))).empty:=by
 rw[Pf] at h;have hk:l.cutK m≠0:=fun e=>by
  rw[De] at e;have:((crossI l m:Int):Rat)=0:=by grind
  exact h0 (dY.1 this)
 obtain⟨h1,h2⟩:=zp (l:=l) (m:=m) v (by grind);refine⟨?_,?_⟩
 ·rw[TX hz,AM hl h0,h1]
 ·rw[TX hz,AM hl h0,<-h1]
  rw[<-FF] at h2
  cases hb:l.cutB v m<;>cases he:(l.cutV v m).empty<;>simp_all
end Go.Sx
end
section
namespace Go.Sx
open Go Go.Proofs Tryz
variable {GB:Gh}

def cT:Tr->List DV
 | .leaf b=>[.v (.bool true), .v (.bool b), .v (.bool false), .sl [], .v (.bool false), .sl [], .v (.bool false), .sl [], .v (.pointer none), .v (.pointer none)]
 | .node l x y=>[.v (.bool false), .v (.bool false), .v (.bool (decide (l.a<0))),dN l.a.natAbs, .v (.bool (decide (l.b<0))),dN l.b.natAbs, .v (.bool (decide (l.c<0))),dN l.c.natAbs, .pt (cT x), .pt (cT y)]
def eT(t:Tr):DV:= .pt (cT t)
def eN(n:NQ):DV:= .ag [.v (.bool (decide (n.l.a<0))),dN n.l.a.natAbs, .v (.bool (decide (n.l.b<0))),dN n.l.b.natAbs, .v (.bool (decide (n.l.c<0))),dN n.l.c.natAbs, .v (.int .i64 n.a), .v (.int .i64 n.b)]
def eA(t:Tr):DV:= .ag [.v (.int .i64 (t.num 0)), .sl ((t.wr 0).map eN)]
def Bg{G:Gh}{k:Nat}{z:IV}{m:Int}(h:m8 k G z m):Is G (.v (.bool (decide (m<0)))) (.bool z.neg)/\Is G (dN m.natAbs) (.slice z.a.a z.a.n z.a.c):=
 ⟨aH.2 (by rw[h.neg]),(H4 h.abs.lt).2 ⟨_,J,h.abs⟩⟩
def Jj{G:Gh}{k:Nat}{m:Int}{u v:Value}(hm:m.natAbs<2^k)(h1:Is G (.v (.bool (decide (m<0)))) u)(h2:Is G (dN m.natAbs) v): ∃z:IV,u= .bool z.neg/\v= .slice z.a.a z.a.n z.a.c/\m8 k G z m:=by
 obtain⟨x,rfl,hx⟩:=(H4 hm).1 h2;exact⟨⟨decide (m<0),x⟩,aH.1 h1,J,J,hx⟩
structure BL (l:ab) (k:Nat):Prop where
 a:l.a.natAbs<2^k
 b:l.b.natAbs<2^k
 c:l.c.natAbs<2^k
def aFc{G:Gh}{k:Nat}{l:ab}{v:Value}(hl:BL l k)(h:Is G (eL l) v): ∃a b c:IV,v= .agg ⟨[.bool a.neg, .slice a.a.a a.a.n a.a.c, .bool b.neg, .slice b.a.a b.a.n b.a.c, .bool c.neg, .slice c.a.a c.a.n c.a.c]⟩/\m8 k G a l.a/\m8 k G b l.b/\m8 k G c l.c:=by
 obtain⟨m,rfl,g⟩:=c7.1 h;clear h;obtain⟨v1,m,rfl,h1,h⟩:=aP.1 g;obtain⟨v2,m,rfl,h2,h⟩:=aP.1 h;obtain⟨v3,m,rfl,h3,h⟩:=aP.1 h;obtain⟨v4,m,rfl,h4,h⟩:=aP.1 h;obtain⟨v5,m,rfl,h5,h⟩:=aP.1 h;obtain⟨v6,m,rfl,h6,h⟩:=aP.1 h;rw[co] at h;subst h;obtain⟨a,rfl,rfl,ha⟩:=Jj hl.a h1 h2;obtain⟨b,rfl,rfl,hb⟩:=Jj hl.b h3 h4;obtain⟨c,rfl,rfl,hc⟩:=Jj hl.c h5 h6;exact⟨a,b,c,J,ha,hb,hc⟩
def UG{G:Gh}{k:Nat}{n:NQ}{z:ND}(h:si k G z n):Is G (eN n) z.val:=by
 refine c7.2 ⟨_,J, .cons (Bg h.a).1 (.cons (Bg h.a).2 (.cons (Bg h.b).1 (.cons (Bg h.b).2 (.cons (Bg h.c).1 (.cons (Bg h.c).2 (.cons (aH.2 ?_) (.cons (aH.2 ?_) .nil)))))))⟩
 ·rw[h.l]
 ·rw[h.r]
def Nf{G:Gh}{k:Nat}: ∀{ns:List NQ} {zs:List ND},gi (si k G) zs ns->IsLs G (ns.map eN) (zs.map ND.val)
 |_,_, .nil=> .nil
 |_,_, .cons h t=> .cons (UG h) (Nf t)
def aC9{G:Gh}{k:Nat}{t:Tr}{x:SV}(h:Y5 k G x (t.wr 0)):Is G (eA t) (.agg ⟨[.int .i64 (t.num 0), .slice x.a x.n x.c]⟩):=by
 obtain⟨zs,h1,h2⟩:=h;exact c7.2 ⟨_,J, .cons (aH.2 J) (.cons (iu.2 ⟨8,x,_,J,h1,Nf h2⟩) .nil)⟩
def Tr.all_wr{p:ab->Prop}: ∀{t:Tr} (n:Nat),t.all p-> ∀x∈t.wr n,p x.l
 | .leaf b,n,_,x,hx=>by cases hx
 | .node l u v,n,⟨h1,h2,h3⟩,x,hx=>by
  simp only[Tr.wr,cR,aW,bW] at hx;rcases hx with rfl|hx|hx
  ·exact h1
  ·exact u.all_wr _ h2 x hx
  ·exact v.all_wr _ h3 x hx
structure LS (l:ab):Prop where
 ok:l.ok
 a:l.a.natAbs<=4
 b:l.b.natAbs<=4
 c:l.c.natAbs<=40000
def ab.ext'{l m:ab}(h1:l.a=m.a)(h2:l.b=m.b)(h3:l.c=m.c):l=m:=by cases l;cases m;simp_all
instance:DecidableEq NQ:=fun x y=>decidable_of_iff (x.l=y.l/\x.a=y.a/\x.b=y.b) (by
 cases x;cases y;simp)
def qg(ls:List ab):dH 6 (ls.map eL):=fun d hd=>by
 obtain⟨n,_,rfl⟩:=bJ.1 hd;exact⟨rfl,rfl⟩
def lP{z:Int}:PF GB prog 32 [eI z] (eQ (z:Rat)):=by
 refine fn func32 J J ntmps32 J J (fun C=>?_);exact rz J (by rw[GA];rfl)
def L7{l:ab}:PF GB prog 113 [eL l] (eL l.rev):=by
 refine fn func113 J J ntmps113 J J (fun C=>?_);refine cl J Cw J<|cl J Cw J<|cl J Cw J<|?_;exact rz J J
class LB (l:ab):Prop where bl:BL l 96
instance LB.a (l:ab) [h:LB l]:BI l.a 96:=⟨h.bl.a⟩
instance LB.b (l:ab) [h:LB l]:BI l.b 96:=⟨h.bl.b⟩
instance LB.c (l:ab) [h:LB l]:BI l.c 96:=⟨h.bl.c⟩
class aB (p:aa) (k:outParam Nat):Prop where
 x:BQ p.x k
 y:BQ p.y k
instance aB.ix (p:aa) (k:Nat) [h:aB p k]:BQ p.x k:=h.x
instance aB.iy (p:aa) (k:Nat) [h:aB p k]:BQ p.y k:=h.y
instance aB.dir (l:ab) [LB l]:aB l.dir 97:=⟨inferInstanceAs (BQ (l.b:Rat) 97),inferInstanceAs (BQ (-(l.a:Rat)) 97)⟩
instance BQ.dot (p q:aa) (i j:Nat) [aB p i] [aB q j]:BQ (p.dot q) (i+j+(i+j)+1):=inferInstanceAs (BQ (p.x*q.x+p.y*q.y) _)
instance BQ.cross (p q:aa) (i j:Nat) [aB p i] [aB q j]:BQ (p.cross q) (i+j+(i+j)+1):=inferInstanceAs (BQ (p.x*q.y-p.y*q.x) _)
instance aB.mov (p q:aa) (c:Rat) (i j k:Nat) [aB p i] [aB q j] [BQ c k]:aB (bt p q c) (i+(k+j)+1):=⟨inferInstanceAs (BQ (p.x+c*q.x) _),inferInstanceAs (BQ (p.y+c*q.y) _)⟩
instance BQ.value (l:ab) (p:aa) (i:Nat) [LB l] [aB p i]:BQ (l.value p) (96+1+i+(96+1+i)+1+(96+1)+1):=inferInstanceAs (BQ ((l.a:Rat)*p.x+(l.b:Rat)*p.y+(l.c:Rat)) _)
def Tu{l:ab}(h:l.Ne):l.dir.dot l.dir≠0:=by have:=z8 h;grind
def Ie{l:ab}:PF GB prog 37 [eL l] (eP l.dir):=by
 refine fn func37 J J ntmps37 J J (fun C=>?_);refine cl J lP J<|cl J lP J<|cl J CO J<|?_;exact rz J J
def Lz{p q:aa}{i j:Nat}[hp:aB p i][hq:aB q j](hi:i<=200000:=by decide)(hj:j<=200000:=by decide):PF GB prog 75 [eP p,eP q] (eQ (p.dot q)):=by
 refine fn func75 J J ntmps75 J J (fun C=>?_);refine cl J (kh (by omega) (by omega)) J<|cl J (kh (by omega) (by omega)) J<|cl J (Cz (by omega) (by omega)) J<|?_;exact rz J J
def aCb{p q:aa}{i j:Nat}[hp:aB p i][hq:aB q j](hi:i<=200000:=by decide)(hj:j<=200000:=by decide):PF GB prog 50 [eP p,eP q] (eQ (p.cross q)):=by
 refine fn func50 J J ntmps50 J J (fun C=>?_);refine cl J (kh (by omega) (by omega)) J<|cl J (kh (by omega) (by omega)) J<|cl J (Cu (by omega) (by omega)) J<|?_;exact rz J J
def Nz{p q:aa}{c:Rat}{i j k:Nat}[hp:aB p i][hq:aB q j][hc:BQ c k](hi:i<=19000000:=by decide)(hj:j<=9000000:=by decide)(hk:k<=9000000:=by decide):PF GB prog 35 [eP p,eQ c,eP q] (eP (bt p q c)):=by
 refine fn func35 J J ntmps35 J J (fun C=>?_);refine cl J (kh (by omega) (by omega)) J<|cl J (Cz (by omega) (by omega)) J<|cl J (kh (by omega) (by omega)) J<|cl J (Cz (by omega) (by omega)) J<|?_;exact rz J J
def V9{l:ab}[hl:LB l](hn:l.Ne):PF GB prog 36 [eL l] (eP l.base):=by
 refine fn func36 J J ntmps36 J J (fun C=>?_);refine cl J Ie J<|cl J (lP (z:=l.c)) J<|cl J Lz J<|cl J (D7 (Tu hn)) J<|cl J CO J<|cl J (lP (z:=l.a)) J<|?_;refine cl J kh J<|cl J (lP (z:=l.b)) J<|cl J kh J<|?_;exact rz J (by rw[<-Ot];rfl)
instance aB.base (l:ab) [LB l]:aB l.base 900:=by
 rw[<-Ot];constructor
 ·exact BQ.mono (inferInstance:BQ (-((l.c:Rat)/l.dir.dot l.dir)*(l.a:Rat)) _) (by decide)
 ·exact BQ.mono (inferInstance:BQ (-((l.c:Rat)/l.dir.dot l.dir)*(l.b:Rat)) _) (by decide)
def UI{l:ab}{t:Rat}{k:Nat}[hl:LB l][ht:BQ t k](hn:l.Ne)(hk:k<=200000:=by decide):PF GB prog 12 [eL l,eQ t] (eP (l.at t)):=by
 refine fn func12 J J ntmps12 J J (fun C=>?_);refine cl J (V9 hn) J<|cl J Ie J<|cl J (Nz (by decide) (by decide) (by omega)) J<|?_;exact rz J (by rw[<-tF];rfl)
def QS{l:ab}{p:aa}{k:Nat}[hl:LB l][hp:aB p k](hn:l.Ne)(hk:k<=200000:=by decide):PF GB prog 112 [eL l,eP p] (eQ (cB l p)):=by
 refine fn func112 J J ntmps112 J J (fun C=>?_);refine cl J Ie J<|cl J (Lz (by omega) (by decide)) J<|cl J (Lz (by omega) (by decide)) J<|cl J (D7 (Tu hn) (by omega) (by decide)) J<|?_;exact rz J J
instance BI.crossI (l m:ab) [LB l] [LB m]:BI (crossI l m) 385:=inferInstanceAs (BI (l.a*m.b-m.a*l.b) 385)
instance BI.meetX (l m:ab) [LB l] [LB m]:BI (meetX l m) 385:=inferInstanceAs (BI (l.b*m.c-m.b*l.c) 385)
instance BI.meetY (l m:ab) [LB l] [LB m]:BI (meetY l m) 385:=inferInstanceAs (BI (m.a*l.c-l.a*m.c) 385)
instance aB.imeet (l m:ab) [LB l] [LB m]:aB (gg l m) 772:=by
 unfold gg;split
 ·exact⟨BQ.mono (k:=1) ⟨by decide,by decide⟩ (by decide),BQ.mono (k:=1) ⟨by decide,by decide⟩ (by decide)⟩
 ·exact⟨inferInstanceAs (BQ ((meetX l m:Rat)/(crossI l m:Rat)) 772),inferInstanceAs (BQ ((meetY l m:Rat)/(crossI l m:Rat)) 772)⟩
def QA(l m:ab):(((l.a:Rat)*(m.b:Rat)-(m.a:Rat)*(l.b:Rat)).num.sign=0)↔crossI l m=0:=by
 rw[jA,<-BK];exact dY
def To{l m:ab}(h:crossI l m≠0):(l.a:Rat)*(m.b:Rat)-(m.a:Rat)*(l.b:Rat)≠0:=by
 rw[<-BK];exact fun e=>h (dY.1 e)
def aDM{l m:ab}[hl:LB l][hm:LB m]:PF GB prog 11 [eL l,eL m] (.tp [eP (gg l m),vB (decide (crossI l m≠0))]):=by
 refine fn func11 J J ntmps11 J J (fun C=>?_);refine cl J (lP (z:=l.a)) J<|cl J (lP (z:=m.b)) J<|cl J kh J<|cl J (lP (z:=m.a)) J<|cl J (lP (z:=l.b)) J<|?_;refine cl J kh J<|cl J Cu J<|cl J Hi J<|?_;refine br J J J (fun hc26=>?_) (fun hc26=>?_)
 .
  have hcr:=(QA l m).1 hc26;exact rz J (by unfold gg;rw[if_pos hcr,decide_eq_false (fun e=>e hcr)];show DV.tp [.ag [_, .sl [], .sl [],_, .sl [], .sl []],_]= .tp [eP ⟨0,0⟩,_];unfold eP dD;simp only[show(0:Rat).num=0 from J,show(0:Rat).den=1 from J,Int.natAbs_zero,EH];rfl)
 .
  have hcr:crossI l m≠0:=fun e=>hc26 ((QA l m).2 e);refine cl J (lP (z:=l.b)) J<|cl J (lP (z:=m.c)) J<|cl J kh J<|cl J (lP (z:=m.b)) J<|cl J (lP (z:=l.c)) J<|?_;refine cl J kh J<|cl J Cu J<|cl J (lP (z:=m.a)) J<|cl J (lP (z:=l.c)) J<|cl J kh J<|cl J (lP (z:=l.a)) J<|?_;refine cl J (lP (z:=m.c)) J<|cl J kh J<|cl J Cu J<|cl J (D7 (To hcr)) J<|cl J (D7 (To hcr)) J<|?_;exact rz J (by unfold gg;rw[if_neg hcr,decide_eq_true hcr,LT,Tl,BK];rfl)
def fP(l m:ab):Int:=if(l.a-m.a).sign≠0 then(l.a-m.a).sign else if(l.b-m.b).sign≠0 then(l.b-m.b).sign else(l.c-m.c).sign
def XX(l m:ab):fP l m=0↔l=m:=by
 unfold fP;constructor
 ·intro h
  split at h
  ·contradiction
  ·split at h
   ·contradiction
   ·rename_i h1 h2
    have a1:=jL.1 (Decidable.not_not.1 h1);have a2:=jL.1 (Decidable.not_not.1 h2);have a3:=jL.1 h;exact ab.ext' (by omega) (by omega) (by omega)
 ·rintro rfl
  simp
def Po{l m:ab}[hl:LB l][hm:LB m]:PF GB prog 66 [eL l,eL m] (vI (fP l m)):=by
 refine fn func66 J J ntmps66 J J (fun C=>?_);refine cl J (Ip (a:=l.a) (b:=m.a)) J<|?_;refine br J J J (fun hc13=>?_) (fun hc13=>?_)
 .
  exact rz J (by show vI _=_;unfold fP;rw[if_pos hc13])
 .
  refine cl J (Ip (a:=l.b) (b:=m.b)) J<|?_;refine br J J J (fun hc21=>?_) (fun hc21=>?_)
  .
   exact rz J (by show vI _=_;unfold fP;rw[if_neg hc13,if_pos hc21])
  .
   refine cl J (Ip (a:=l.c) (b:=m.c)) J<|?_;exact rz J (by show vI _=_;unfold fP;rw[if_neg hc13,if_neg hc21])
def aFa(z:Int): -1<=z.sign/\z.sign<=1:=by
 rcases lW z 0 with h|h|h
 ·rw[fY h];omega
 ·rw[h];decide
 ·rw[fT h];omega
instance BQ.i1:BQ (((1:Int):Rat)) 2:=⟨by decide,by decide⟩
def eV(v:av):DV:= .ag [.v (.bool (decide (v.lo.num<0))),dN v.lo.num.natAbs,dD v.lo.den, .v (.bool (decide (v.hi.num<0))),dN v.hi.num.natAbs,dD v.hi.den, .v (.bool v.nl), .v (.bool v.nh)]
def Ek(v:av):Rat:=if v.nl=true/\v.nh=true then 0 else if v.nl=true then v.hi-1 else if v.nh=true then v.lo+1 else(v.lo+v.hi)/2
theorem BQ.of_fracI{q:Rat}{n D:Int}{i:Nat}(hd:0<D.natAbs)(h:q*((D.natAbs:Nat):Rat)=(n:Rat))(hn:BI n i)(hD:BI D i):BQ q i:=BQ.of_frac hd h hn.h hD.h
theorem EK{m:Int}{i j:Nat}(h:BI m i)(hij:i<=j):BI m j:=⟨dR h.h (bS (by decide) hij)⟩
theorem TE{l m:ab}[LB l][LB m](hn:l.Ne)(h:crossI l m≠0):BQ (cB l (gg l m)) 1200:=by
 have e:=Wq hn h;have hA:BI (crossI l m*(l.a*l.a+l.b*l.b)) _:=inferInstance;have hB:BI (meetX l m*l.b-meetY l m*l.a) _:=inferInstance;have hne:crossI l m*(l.a*l.a+l.b*l.b)≠0:=by
  intro q;rcases tZ.1 q with q|q
  ·exact h q
  ·have h1:=z8 hn
   simp only[ab.dir,aa.dot] at h1;have h2:((l.a*l.a+l.b*l.b:Int):Rat)=((0:Int):Rat):=by rw[q]
   rw[pV,dZ,dZ] at h2;have h3:((0:Int):Rat)=0:=J;rw[h3] at h2;grind
 have hA':=EK (j:=1200) hA (by decide);have hB':=EK (j:=1200) hB (by decide);generalize crossI l m*(l.a*l.a+l.b*l.b)=D at*;generalize meetX l m*l.b-meetY l m*l.a=M at*;by_cases hD:0<D
 ·refine BQ.of_fracI (n:=M) (D:=D) (by omega) ?_ hB' hA'
  rw[<-e];congr 1;have:((D.natAbs:Nat):Int)=D:=by omega
  rw[<-this];rfl
 ·refine BQ.of_fracI (n:= -M) (D:=D) (by omega) ?_ (BI.neg M 1200 (h:=hB')) hA'
  rw[pW,<-e];have:((D.natAbs:Nat):Rat)= -(D:Rat):=by
   have h1:((D.natAbs:Nat):Int)= -D:=by omega
   rw[<-pW,<-h1];rfl
  rw[this];grind
def qo(l:ab):List ab->av->av×Bool
 |[],v=>(v,true)
 |m::t,v=>if m=l then qo l t v else if l.cutB v m=true then qo l t (l.cutV v m) else(l.cutV v m,false)
def Il{l:ab}: ∀{c:List ab} {v:av},(qo l c v).2=(jm l c v).isSome
 |[],v=>rfl
 |m::t,v=>by
  rw[qo,ar8];split
  ·exact Il
  ·split
   ·exact Il
   ·rfl
structure Stp (l:ab) (c:List ab) (k:Nat) (v:av):Prop where
 le:k<=c.length
 p:jm l (c.drop k) v=jm l c av.all
 e:qo l (c.drop k) v=qo l c av.all
 z:jx v
 lo:BQ v.lo 1200
 hi:BQ v.hi 1200
def Ap(l m:ab)(v:av):av:=if 0<(m.dir.cross l.dir).num.sign then uz v (cB l (gg l m)) else wi v (cB l (gg l m))
def atZ{l m:ab}{v:av}[LB l][LB m](hn:l.Ne)(hz:jx v)(hlo:BQ v.lo 1200)(hhi:BQ v.hi 1200)(h0:crossI l m≠0):l.cutV v m=Ap l m v/\l.cutB v m=!(Ap l m v).empty/\jx (Ap l m v)/\BQ (Ap l m v).lo 1200/\BQ (Ap l m v).hi 1200:=by
 have hb:=TE (l:=l) (m:=m) hn h0;unfold Ap;split
 ·rename_i h
  obtain⟨_,h1,h2⟩:=aCC hn hz ((kC _).1 h);refine⟨h1,h2,hz.lo' _,?_⟩;unfold uz;split
  ·exact⟨hb,hhi⟩
  ·exact⟨hlo,hhi⟩
 ·rename_i h
  obtain⟨h1,h2⟩:=aCS hn hz h0 (fun e=>h ((kC _).2 e));refine⟨h1,h2,hz.hi' _,?_⟩;unfold wi;split
  ·exact⟨hlo,hb⟩
  ·exact⟨hlo,hhi⟩
def e7(l:ab):DV:= .ag [vI (dq (l.a:Rat)),vI (dm (l.a:Rat)),dh (l.a:Rat),vI (dq (l.b:Rat)),vI (dm (l.b:Rat)),dh (l.b:Rat),vI (dq (l.c:Rat)),vI (dm (l.c:Rat)),dh (l.c:Rat)]
def eZ(p:aa):DV:= .ag [vI (dq p.x),vI (dm p.x),dh p.x,vI (dq p.y),vI (dm p.y),dh p.y]
def eW(v:av):DV:= .ag [vI (dq v.lo),vI (dm v.lo),dh v.lo,vI (dq v.hi),vI (dm v.hi),dh v.hi, .v (.bool v.nl), .v (.bool v.nh)]
def GD{G:Gh}{t:List DV}{vs:List Value}(h:IsLs G (vI 0::vI 0:: .v (.pointer none)::t) vs):IsLs G (vI (dq 0)::vI (dm 0)::dh 0::t) vs:=by
 obtain⟨y1,l1,rfl,k1,g1⟩:=aP.1 h;obtain⟨y2,l2,rfl,k2,g2⟩:=aP.1 g1;obtain⟨y3,l3,rfl,k3,g3⟩:=aP.1 g2;have e:decide (fi 0)=false:=decide_eq_false fun h=>IK h J;exact .cons k1 (.cons k2 (.cons (tj.2 (.inl ⟨e,aH.1 k3⟩)) g3))
def Jr{G:Gh}(a:List DV){t:List DV}{vs:List Value}(h:IsLs G (a++vI 0::vI 0:: .v (.pointer none)::t) vs):IsLs G (a++vI (dq 0)::vI (dm 0)::dh 0::t) vs:=by
 obtain⟨x,y,rfl,h1,h2⟩:=h.unapp;exact h1.app (GD h2)
def XW(G:Gh)(y:Value)(k:Is G (.ag [vI 0,vI 0, .v (.pointer none),vI 0,vI 0, .v (.pointer none), .v (.bool true), .v (.bool true)]) y):Is G (eW av.all) y:=by
 obtain⟨l,rfl,g⟩:=c7.1 k;exact c7.2 ⟨l,J,GD (Jr [vI 0,vI 0, .v (.pointer none)] g)⟩
def qd:List Int->Int
 |[]=>0
 |a::t=>if a≠0 then a else qd t
theorem aB.nor(l:ab)[LB l]:aB l.nor 97:=⟨inferInstanceAs (BQ (l.a:Rat) 97),inferInstanceAs (BQ (l.b:Rat) 97)⟩
attribute [instance] aB.nor
instance aB.scale (p:aa) (c:Rat) (i k:Nat) [aB p i] [BQ c k]:aB (p.scale c) (i+k):=⟨inferInstanceAs (BQ (p.x*c) _),inferInstanceAs (BQ (p.y*c) _)⟩
instance aB.add (p q:aa) (i j:Nat) [aB p i] [aB q j]:aB (p.add q) (i+j+1):=⟨inferInstanceAs (BQ (p.x+q.x) _),inferInstanceAs (BQ (p.y+q.y) _)⟩
instance LB.revA (l:ab) [h:LB l]:LB l.rev:=⟨⟨by rw[show l.rev.a= -l.a from J,jN];exact h.bl.a,by rw[show l.rev.b= -l.b from J,jN];exact h.bl.b,by rw[show l.rev.c= -l.c from J,jN];exact h.bl.c⟩⟩
def aGz:PF GB prog 233 [] (eW av.all):=by
 refine fn func233 J J ntmps233 J J (fun C=>?_);exact jf J XW
def wz{l:ab}:PF GB prog 133 [e7 l] (eZ l.nor):=by
 refine fn func133 J J ntmps133 J J (fun C=>?_);exact rz J J
def vQ{l:ab}[hl:LB l]:PF GB prog 103 [e7 l] (eZ l.dir):=by
 refine fn func103 J J ntmps103 J J (fun C=>?_);refine cl J (n4 (q:=(l.a:Rat))) J<|?_;exact rz J J
def oA{p q:aa}{i j:Nat}[hp:aB p i][hq:aB q j](hi:i<=40000000:=by decide)(hj:j<=40000000:=by decide):PF GB prog 134 [eZ p,eZ q] (eF (p.dot q)):=by
 refine fn func134 J J ntmps134 J J (fun C=>?_);refine cl J (uh (p:=p.x) (q:=q.x) (by omega) (by omega)) J<|cl J (uh (p:=p.y) (q:=q.y) (by omega) (by omega)) J<|cl J (uc (p:=p.x*q.x) (q:=p.y*q.y) (by omega) (by omega)) J<|?_;exact rz J J
def Mo{p q:aa}{i j:Nat}[hp:aB p i][hq:aB q j](hi:i<=40000000:=by decide)(hj:j<=40000000:=by decide):PF GB prog 124 [eZ p,eZ q] (eF (p.cross q)):=by
 refine fn func124 J J ntmps124 J J (fun C=>?_);refine cl J (uh (p:=p.x) (q:=q.y) (by omega) (by omega)) J<|cl J (uh (p:=p.y) (q:=q.x) (by omega) (by omega)) J<|cl J (u6 (p:=p.x*q.y) (q:=p.y*q.x) (by omega) (by omega)) J<|?_;exact rz J J
def y9{p:aa}{c:Rat}{i j:Nat}[hp:aB p i][hc:BQ c j](hi:i<=40000000:=by decide)(hj:j<=40000000:=by decide):PF GB prog 140 [eZ p,eF c] (eZ (p.scale c)):=by
 refine fn func140 J J ntmps140 J J (fun C=>?_);refine cl J (uh (p:=p.x) (q:=c) (by omega) (by omega)) J<|cl J (uh (p:=p.y) (q:=c) (by omega) (by omega)) J<|?_;exact rz J J
def C9{p q:aa}{i j:Nat}[hp:aB p i][hq:aB q j](hi:i<=40000000:=by decide)(hj:j<=40000000:=by decide):PF GB prog 125 [eZ p,eZ q] (eZ (p.add q)):=by
 refine fn func125 J J ntmps125 J J (fun C=>?_);refine cl J (uc (by omega) (by omega)) J<|cl J (uc (by omega) (by omega)) J<|?_;exact rz J J
def OV{l:ab}[hl:LB l]:PF GB prog 191 [e7 l] (eZ l.base):=by
 refine fn func191 J J ntmps191 J J (fun C=>?_);refine cl J wz J<|cl J (n4 (q:=(l.c:Rat))) J<|cl J (oA (p:=l.nor) (q:=l.nor)) J<|cl J (uD (p:= -(l.c:Rat)) (q:=l.nor.dot l.nor)) J<|?_;refine cl J (y9 (p:=l.nor)) J<|?_;exact rz J J
def DR{l:ab}{p:aa}{i:Nat}[hl:LB l][hp:aB p i](hi:i<=10000000:=by decide):PF GB prog 151 [e7 l,eZ p] (eF (l.value p)):=by
 refine fn func151 J J ntmps151 J J (fun C=>?_);refine cl J (wz (l:=l)) J<|cl J (oA (p:=l.nor) (q:=p) (by omega) (by omega)) J<|cl J (uc (p:=l.nor.dot p) (q:=(l.c:Rat)) (by omega) (by omega)) J<|?_;exact rz J J
def vM{l:ab}{p:aa}{i:Nat}[hl:LB l][hp:aB p i](hi:i<=10000000:=by decide):PF GB prog 105 [e7 l,eZ p] (vI (l.value p).num.sign):=by
 refine fn func105 J J ntmps105 J J (fun C=>?_);refine cl J (DR (l:=l) (p:=p) hi) J<|cl J (kv (q:=l.value p) (by omega)) J<|?_;exact rz J J
def Ey{l:ab}{t:Rat}{i:Nat}[hl:LB l][ht:BQ t i](hi:i<=10000000:=by decide):PF GB prog 149 [e7 l,eF t] (eZ (l.at t)):=by
 refine fn func149 J J ntmps149 J J (fun C=>?_);refine cl J (OV (l:=l)) J<|cl J (vQ (l:=l)) J<|cl J (y9 (p:=l.dir) (c:=t) (by omega) (by omega)) J<|cl J (C9 (p:=l.base) (q:=l.dir.scale t) (by omega) (by omega)) J<|?_;exact rz J J
def Yx{v:av}{i j:Nat}[h1:BQ v.lo i][h2:BQ v.hi j](hi:i<=40000000:=by decide)(hj:j<=40000000:=by decide):PF GB prog 232 [eW v] (vB v.empty):=by
 refine fn func232 J J ntmps232 J J (fun C=>?_);refine ml 6 J J J (fun hg6=>?_) (fun hg6=>?_)
 .
  refine ml 11 J J J (fun hg11=>?_) (fun hg11=>?_)
  .
   refine cl J (jE (p:=v.lo) (q:=v.hi) (by omega) (by omega)) J<|?_;exact rz J (by unfold av.empty;simp_all [vB,ji])
  .
   exact rz J (by unfold av.empty;simp_all [vB,ji])
 .
  exact rz J (by unfold av.empty;simp_all [vB,ji])
instance av.meet_lo (v w:av) (i j:Nat) [h1:BQ v.lo i] [h3:BQ w.lo j]:BQ (v.meet w).lo (i+j):=by
 have a:=h1.mono (qK i j);have b:=h3.mono (Nat.le_add_left j i);unfold av.meet;dsimp only;(repeat' split)<;>assumption
instance av.meet_hi (v w:av) (i j:Nat) [h1:BQ v.hi i] [h3:BQ w.hi j]:BQ (v.meet w).hi (i+j):=by
 have a:=h1.mono (qK i j);have b:=h3.mono (Nat.le_add_left j i);unfold av.meet;dsimp only;(repeat' split)<;>assumption
def M2{v w:av}{i j:Nat}[h1:BQ v.lo i][h2:BQ v.hi i][h3:BQ w.lo j][h4:BQ w.hi j](hi:i<=10000000:=by decide)(hj:j<=10000000:=by decide):PF GB prog 192 [eW v,eW w] (.tp [eW (v.meet w),vB (!(v.meet w).empty)]):=by
 refine fn (fu:=⟨16⟩) func192 J J ntmps192 J J (fun C=>?_);refine mg (fu:=⟨1⟩) (X:=Unit) (fun _=>[(6, .ov 6 0)]) (fun _=>[(6,some (.o 134 [.d (vI (dq (v.meet w).lo)), .d (vI (dm (v.meet w).lo)), .d (dh (v.meet w).lo), .d (vI (dq v.hi)), .d (vI (dm v.hi)), .d (dh v.hi), .d (.v (.bool (v.nl&&w.nl))), .d (.v (.bool (v.nh)))] true))]) (fun _=>True) [6] [6] rfl ?_ (fun _=>J) (fun _ _=>?_)
 .
  refine gx J<|?_;refine bb (v1:=fun hc8=>by simp only[ah];kernel_rfl) J J J (fun hc8=>?_) (fun hc8=>?_)
  .
   have em:(v.meet w).lo=w.lo:=by unfold av.meet;simp_all
   have eb:(v.nl&&w.nl)=w.nl:=by simp_all
   exact at_ () trivial (hO:=⟨by rw[em,eb]<;>rfl,by repeat (first|exact trivial|refine And.intro J ?_)⟩)
  .
   refine bb J J J (fun hc17=>?_) (fun hc17=>?_)
   .
    refine cl J (X9 (p:=v.lo) (q:=w.lo) (by omega) (by omega)) J<|?_;have em:(v.meet w).lo=(if v.lo<w.lo then w.lo else v.lo):=by unfold av.meet;simp_all
    have eb:(v.nl&&w.nl)=v.nl:=by simp_all
    exact at_ () trivial (hO:=⟨by rw[em,eb]<;>rfl,by repeat (first|exact trivial|refine And.intro J ?_)⟩)
   .
    have em:(v.meet w).lo=v.lo:=by unfold av.meet;simp_all
    have eb:(v.nl&&w.nl)=v.nl:=by simp_all
    exact at_ () trivial (hO:=⟨by rw[em,eb]<;>rfl,by repeat (first|exact trivial|refine And.intro J ?_)⟩)
 .
  refine mg (X:=Unit) (fun _=>[(6, .ov 6 0)]) (fun _=>[(6,some (.o 134 [.d (vI (dq (v.meet w).lo)), .d (vI (dm (v.meet w).lo)), .d (dh (v.meet w).lo), .d (vI (dq (v.meet w).hi)), .d (vI (dm (v.meet w).hi)), .d (dh (v.meet w).hi), .d (.v (.bool (v.nl&&w.nl))), .d (.v (.bool (v.nh&&w.nh)))] true))]) (fun _=>True) [6] [6] rfl ?_ (fun _=>J) (fun _ _=>?_)
  .
   refine gx J<|?_;refine bb (v1:=fun hc27=>by simp only[ah];kernel_rfl) J J J (fun hc27=>?_) (fun hc27=>?_)
   .
    have em:(v.meet w).hi=w.hi:=by unfold av.meet;simp_all
    have eb:(v.nh&&w.nh)=w.nh:=by simp_all
    exact at_ () trivial (hO:=⟨by rw[em,eb]<;>rfl,by repeat (first|exact trivial|refine And.intro J ?_)⟩)
   .
    refine bb J J J (fun hc36=>?_) (fun hc36=>?_)
    .
     refine cl J (Jz (p:=v.hi) (q:=w.hi) (by omega) (by omega)) J<|?_;have em:(v.meet w).hi=(if w.hi<v.hi then w.hi else v.hi):=by unfold av.meet;simp_all
     have eb:(v.nh&&w.nh)=v.nh:=by simp_all
     exact at_ () trivial (hO:=⟨by rw[em,eb]<;>rfl,by repeat (first|exact trivial|refine And.intro J ?_)⟩)
    .
     have em:(v.meet w).hi=v.hi:=by unfold av.meet;simp_all
     have eb:(v.nh&&w.nh)=v.nh:=by simp_all
     exact at_ () trivial (hO:=⟨by rw[em,eb]<;>rfl,by repeat (first|exact trivial|refine And.intro J ?_)⟩)
  .
   refine cl J (Yx (v:=v.meet w) (i:=i+j) (j:=i+j) (by omega) (by omega)) J<|?_;exact rz J J
theorem BQ.z1:BQ (0:Rat) 1:=⟨by decide,by decide⟩
def axQ{v:av}{t:Rat}{i j:Nat}[h1:BQ v.lo i][h2:BQ v.hi i][h3:BQ t j](hi:i<=10000000:=by decide)(hj:j<=9999999:=by decide):PF GB prog 192 [eW v, .ag [vI (dq t),vI (dm t),dh t,vI 0,vI 0, .v (.pointer none), .v (.bool false), .v (.bool true)]] (.tp [eW (v.meet ⟨t,0,false,true⟩),vB (!(v.meet ⟨t,0,false,true⟩).empty)]):=
 (M2 (v:=v) (w:=⟨t,0,false,true⟩) (j:=j+1) (h3:=h3.mono (by omega)) (h4:=BQ.z1.mono (by omega)) hi (by omega)).ofI fun G vs hv=>JO (fun y hy=>by
  obtain⟨l,rfl,g⟩:=c7.1 hy;exact c7.2 ⟨l,J,Jr [_,_,_] g⟩) hv
def aw7{v:av}{t:Rat}{i j:Nat}[h1:BQ v.lo i][h2:BQ v.hi i][h3:BQ t j](hi:i<=10000000:=by decide)(hj:j<=9999999:=by decide):PF GB prog 192 [eW v, .ag [vI 0,vI 0, .v (.pointer none),vI (dq t),vI (dm t),dh t, .v (.bool true), .v (.bool false)]] (.tp [eW (v.meet ⟨0,t,true,false⟩),vB (!(v.meet ⟨0,t,true,false⟩).empty)]):=
 (M2 (v:=v) (w:=⟨0,t,true,false⟩) (j:=j+1) (h4:=h3.mono (by omega)) (h3:=BQ.z1.mono (by omega)) hi (by omega)).ofI fun G vs hv=>JO (fun y hy=>by
  obtain⟨l,rfl,g⟩:=c7.1 hy;exact c7.2 ⟨l,J,GD g⟩) hv
instance BQ.cutK (l m:ab) [LB l] [LB m]:BQ (l.cutK m) 400:=BQ.mono (inferInstance:BQ (m.nor.dot l.dir) _) (by decide)
instance BQ.cutC (l m:ab) [LB l] [LB m]:BQ (l.cutC m) 2500:=BQ.mono (inferInstance:BQ (m.value l.base) _) (by decide)
def B6{l m:ab}{v:av}{i:Nat}[hl:LB l][hm:LB m][h1:BQ v.lo i][h2:BQ v.hi i](hi:i<=10000000:=by decide):PF GB prog 152 [e7 l,eW v,e7 m] (.tp [eW (l.cutV v m),vB (l.cutB v m)]):=by
 refine fn func152 J J ntmps152 J J (fun C=>?_);refine cl J (wz (l:=m)) J<|cl J (vQ (l:=l)) J<|cl J (oA (p:=m.nor) (q:=l.dir)) J<|cl J (OV (l:=l)) J<|?_;refine cl J (DR (l:=m) (p:=l.base)) J<|cl J (kv (q:=l.cutK m)) J<|?_;refine br J J J (fun hc21=>?_) (fun hc21=>?_)
 .
  refine cl J (kv (q:=l.cutC m)) J<|?_;exact rz J (by unfold ab.cutV ab.cutB;rw[if_pos hc21,if_pos hc21];rfl)
 .
  refine br J J J (fun hc27=>?_) (fun hc27=>?_)
  .
   refine cl J (uD (p:=l.cutC m) (q:=l.cutK m)) J<|cl J (n4 (q:=l.cutC m/l.cutK m)) J<|cl J (axQ (v:=v) (t:= -(l.cutC m/l.cutK m)) hi) J<|?_;exact rz J (by unfold ab.cutB ab.cutV;rw[if_neg hc21,if_neg hc21,if_pos hc27];rfl)
  .
   refine cl J (uD (p:=l.cutC m) (q:=l.cutK m)) J<|cl J (n4 (q:=l.cutC m/l.cutK m)) J<|cl J (aw7 (v:=v) (t:= -(l.cutC m/l.cutK m)) hi) J<|?_;exact rz J (by unfold ab.cutB ab.cutV;rw[if_neg hc21,if_neg hc21,if_neg hc27];rfl)
def Oq{v:av}{i:Nat}[h1:BQ v.lo i][h2:BQ v.hi i](hi:i<=10000000:=by decide):PF GB prog 150 [eW v] (eF v.sample):=by
 refine fn func150 J J ntmps150 J J (fun C=>?_);refine ml 6 J J J (fun hg6=>?_) (fun hg6=>?_)
 .
  refine bb J J J (fun hc3=>?_) (fun hc3=>?_)
  .
   exact jf J (by unfold av.sample;rw[hg6,hc3];exact ut)
  .
   refine bb J J J (fun hc11=>?_) (fun hc11=>?_)
   .
    refine cl J (ph (m:=1) (by decide)) J<|cl J (u6 (p:=v.hi) (q:=((1:Int):Rat)) (by omega) (by decide)) J<|?_;exact rz J (by unfold av.sample;simp_all [ji]<;>rfl)
   .
    refine bb J J J (fun hc18=>?_) (fun hc18=>?_)
    .
     refine cl J (ph (m:=1) (by decide)) J<|cl J (uc (p:=v.lo) (q:=((1:Int):Rat)) (by omega) (by decide)) J<|?_;exact rz J (by unfold av.sample;simp_all [ji]<;>rfl)
    .
     refine cl J (uc (p:=v.lo) (q:=v.hi) (by omega) (by omega)) J<|cl J (Ec (q:=v.lo+v.hi) (by omega)) J<|?_;exact rz J (by unfold av.sample;simp_all [ji]<;>rfl)
 .
  refine bb J J J (fun hc11=>?_) (fun hc11=>?_)
  .
   refine cl J (ph (m:=1) (by decide)) J<|cl J (u6 (p:=v.hi) (q:=((1:Int):Rat)) (by omega) (by decide)) J<|?_;exact rz J (by unfold av.sample;simp_all [ji]<;>rfl)
  .
   refine bb J J J (fun hc18=>?_) (fun hc18=>?_)
   .
    refine cl J (ph (m:=1) (by decide)) J<|cl J (uc (p:=v.lo) (q:=((1:Int):Rat)) (by omega) (by decide)) J<|?_;exact rz J (by unfold av.sample;simp_all [ji]<;>rfl)
   .
    refine cl J (uc (p:=v.lo) (q:=v.hi) (by omega) (by omega)) J<|cl J (Ec (q:=v.lo+v.hi) (by omega)) J<|?_;exact rz J (by unfold av.sample;simp_all [ji]<;>rfl)
def GJ(p q:aa):DV:= .ag [vI (dq p.x),vI (dm p.x),dh p.x,vI (dq p.y),vI (dm p.y),dh p.y,vI (dq q.x),vI (dm q.x),dh q.x,vI (dq q.y),vI (dm q.y),dh q.y]
def yo{C:aD}{n:Nat}{Q0:Exit->Act->World->Prop}{fr:aA}{own:aI}{ops:Array Oper}{r:List Oper}{K:List Kt}(k:Nat){l:List DV}(hl:bg fr k=some (.d (.pt l)))(h:aj prog GB C n Q0 ((k, .ep l)::fr) own (.ops ops r K)):aj prog GB C n Q0 fr own (.ops ops r K):=
 oB hl (fun ρ G y hy=>by
  obtain⟨b,m,rfl,h1,h2⟩:=pH.1 hy;have e:=h2.len;exact⟨b,0,m,m,J,h1,by rw[ma m 0 l.length (by omega),jW,<-e,dS],h2⟩) h
def zF{G:Gh}{m:List Value}(h:IsLs G [vI 0,vI 0, .v (.pointer none)] m):IsLs G [vI (dq 0),vI (dm 0),dh 0] m:=by
 obtain⟨l,e,k⟩:=c7.1 (ut G (.agg ⟨m⟩) (c7.2 ⟨m,rfl,h⟩))
 cases e;exact k
section
variable {GB:Gh} {C:aD} {n:Nat} {Q0:Exit->Act->World->Prop} {fr fr':aA} {own own':aI} {cf cf':Cf} {vc:List Prop} {lk:LK} {bk:BM}
variable {dst:Option Nat} {t t' ty':TypeId} {pos:String} {af:Array Edge} {gd:Option (Nat×Bool)} {x y:Operand}
def aKh(fr:aA)(cf:Cf):Option (List DV):=match ce fr cf with
 |some ⟨_, .binOp .eql t x (.const (.slice none _ _)) _,_,_,_,_⟩=>match dB tt t with
  |some ⟨.sl _ _ _,_,_,_⟩=>match aO (bE fr cf) x with
   |some (.d (.sl l))=>some l
   |_=>none
  |_=>none
 |_=>none
def PVr(GB:Gh)(P:Program)(f:FuncId)(s off m:Nat)(ty:TypeId)(dsi dso:List DV):Prop:=
 ∀G w b c B,bD GB G->du G ⟨w,s,ty,dsi,false⟩ B->w.a=some ⟨b,0,none⟩->m<=c->je P f [.slice (some ⟨b,off*s,none⟩) m c] B G (fun v own' G'=>Is G' (.tp []) v/\du G' ⟨w,s,ty,dso,false⟩ own')
structure CV where
 f:FuncId
 nm:Nat
 s:Nat
 off:Nat
 m:Nat
 ty:TypeId
 ds:List DV
 lo:Bool
def cvA(fr:aA)(own:aI)(cf:Cf):Option CV:=match ce fr cf with
 |some ⟨_, .call ⟨.value fo,⟨[x]⟩,_⟩,_,_,_,_⟩=>match aO (bE fr cf) fo with
  |some (.d (.v (.func (.func f) ⟨[]⟩ ⟨[]⟩)))=>match aO (bE fr cf) x with
   |some (.rs nm s off m)=>match gD fr own cf nm with
    |some (.b ty s' ds lo)=>bif Nat.beq s s' then some ⟨f,nm,s,off,m,ty,ds,lo⟩ else none
    |_=>none
   |_=>none
  |_=>none
 |_=>none
end
section
variable {GB:Gh} {C:aD} {n:Nat} {Q0:Exit->Act->World->Prop} {fr fr':aA} {own own':aI} {cf cf':Cf} {vc:List Prop} {ops:Array Oper} {r:List Oper} {K:List Kt}
def tC(k:Nat){d:DV}(hl:bg fr k=some (.d d))(h: ∀(GB':Gh) (pv:Value),bD GB GB'->Is GB' d pv->aj prog GB' C n Q0 ((k, .d (.v pv))::fr) own (.ops ops r K)):aj prog GB C n Q0 fr own (.ops ops r K):=by
 refine⟨fun ρ G ov a w r0=>?_⟩;obtain⟨y,hy,hy'⟩:=r0.fx k _ hl;refine(h G y r0.gb hy').run ρ G ov a w ⟨bD.refl _,r0.h,r0.sz,r0.df,fun j f e=>?_,r0.bx,r0.dj,r0.fxd⟩;rw[ju] at e;split at e
 ·rename_i hj
  cases e;subst hj
  exact⟨y,hy,(aH (G:=G)).2 J⟩
 ·exact r0.fx j f e
def aKj(fr:aA)(cf:Cf):Option (FuncId×Value):=match ce fr cf with
 |some ⟨_, .makeFunc (.func f) ⟨[x]⟩ ⟨[]⟩,_,_,_,_⟩=>match aO (bE fr cf) x with
  |some (.d (.v pv))=>some (f,pv)
  |_=>none
 |_=>none
def aJV(fr:aA)(cf:Cf):Option (FuncId×List Value×List DV):=match ce fr cf with
 |some ⟨_, .call ⟨.value fo,args,_⟩,_,_,_,_⟩=>match aO (bE fr cf) fo,evDs (bE fr cf) args.toList with
  |some (.d (.v (.func (.func f) ⟨c1⟩ ⟨[]⟩))),some ds=>some (f,c1,ds)
  |_,_=>none
 |_=>none
def Ro:List (Nat×Operand)->Option (List (Nat×Value))
 |[]=>some []
 |(i, .const v)::t=>match Ro t with
  |some l=>some ((i,v)::l)
  |none=>none
 |_::_=>none
def aJP(cf:Cf)(fr:aA):Option (TypeId×List (Nat×Value)):=match ce fr cf with
 |some ⟨_, .build t ⟨ps⟩,_,_,_,_⟩=>match Ro ps with
  |some vs=>some (t,vs)
  |none=>none
 |_=>none
def SK(fr:aA)(own:aI)(cf:Cf):Option (TypeId×Nat×Nat×List FX×Bool×FX):=match ce fr cf with
 |some ⟨_, .store t x y,_,_,_,_⟩=>match aO (bE fr cf) x with
  |some (.ov nm 0)=>match gD fr own cf nm with
   |some (.o ty cs lo)=>match aO (bE fr cf) y with
    |some fv=>some (t,nm,ty,cs,lo,fv)
    |_=>none
   |_=>none
  |_=>none
 |_=>none
def Ok[fu:Fu]{t nm ty len e:Nat}{cs:List FX}{lo:Bool}{fv:FX}{j:TypeInfo}(h:SK fr own cf=some (t,nm,ty,cs,lo,fv))(hu:prog.underlying t=some (.array len e))(hj:prog.info? t=some j)(hc:fv.okc=true/\fv.cells.length=j.size/\j.size=cs.length)
  (hgo:cI tt n fu.n fr own cf .un [(nm,some (.o ty (x4 cs 0 fv.cells) lo))] []=⟨vc,fr',own',cf'⟩)(k:aj prog GB C n Q0 fr' own' cf')
  (hv:ah vc:=by first|exact trivial|(simp only[ah];kernel_rfl)|(simp only[ah];omega)):aj prog GB C n Q0 fr own cf:=by
 unfold SK at h;split at h<;>try (cases h;done)
 rename_i hh;split at h<;>try (cases h;done)
 rename_i e1;split at h<;>try (cases h;done)
 rename_i hb;split at h<;>cases h;rename_i e2;obtain⟨c1,c2,c3⟩:=hc;have:lA prog t j.size:=⟨fun w=>A6 hu w,fun w=>tw hj w⟩;refine us hh ?_ hgo hv k;intro hd tl tb K s1 s2 hf hk;refine⟨fun ρ G ov a w r Q=>?_⟩;have r1:=r.mono s1 s2;obtain⟨p,h1,h2⟩:=r1.ev e1;obtain⟨q,h3,h4⟩:=r1.ev e2;obtain⟨b,m,rfl,ha,h5,h6⟩:=r1.own h2 hb;obtain⟨h7,h8⟩:=h4.cells c1;obtain⟨own',u1,u2,u3⟩:=fG.of_mem (cs':=cE m 0 (aF q)) h6;exact Fi h1 h3 u1 (by rw[h7.len,c2]) (by rw[h5.len,c3];omega) (fW.2 h8) hd (fun a' w' rl=>r.wrote (m:=m) (s2 _ _ hb) ha (h5.ov h7) u2 u3 hk rl) a w Q ⟨r.h,r.sz,c9 a,r.df⟩
def Ni(fr:aA)(cf:Cf):Option Ms:=match ce fr cf with
 |some ⟨some d, .buildSlice t len parts,_,_,_,_⟩=>match dB tt t with
  |some ⟨.sl e s _,_,_,_⟩=>match ye (bE fr cf) 0 parts.toList with
   |some ds=>bif Ej s ds&&(Nat.beq parts.toList.length len&&(Nat.ble (len*s) 1000&&Nat.blt 0 (len*s))) then some ⟨d,e,s,ds⟩ else none
   |none=>none
  |_=>none
 |_=>none
def Vh[fu:Fu]{d e s:Nat}{ds:List DV}{i:TI}{z:DV}(h:Ni fr cf=some ⟨d,e,s,ds⟩)(hi:fg prog e=some i)(hz:m9 i=some z)(hs:Nat.beq z.cells.length s=true)(hgo:cI tt n fu.n fr own cf (.d (.sl ds)) [(d,none)] [d]=⟨vc,fr',own',cf'⟩)(k:aj prog GB C n Q0 fr' own' cf')
  (hv:ah vc:=by first|exact trivial|(simp only[ah];kernel_rfl)|(simp only[ah];omega)):aj prog GB C n Q0 fr own cf:=by
 unfold Ni at h;split at h<;>try (cases h;done)
 rename_i hh;split at h<;>try (cases h;done)
 rename_i hT;split at h<;>try (cases h;done)
 rename_i hr;rw[cond_eq_ite] at h;split at h<;>cases h;rename_i hc;simp only[aL] at hc;have:=ja (d9 _ _ hT) J;exact us hh ((TM hi hz hs hr hc.1 hc.2.1 hc.2.2.1 hc.2.2.2).frzRow J) hgo hv k
def L5(fr:aA)(cf:Cf):Option (TypeId×List DV):=match ce fr cf with
 |some ⟨_, .load t x,_,_,_,_⟩=>match aO (bE fr cf) x with
  |some (.ep l)=>some (t,l)
  |_=>none
 |_=>none
def Qj:TypeDesc->Bool
 | .struct _=>false
 | .array _ _=>false
 |_=>true
def T8[fu:Fu]{t:TypeId}{d:DV}{l:List DV}{D:TypeDesc}{j:TypeInfo}(h:L5 fr cf=some (t,d::l))(hu:prog.underlying t=some D)(hD:Qj D=true)(hj:prog.info? t=some j)(hs:j.size=1)
  (hgo:cI tt n fu.n fr own cf (.d d) [] []=⟨vc,fr',own',cf'⟩)(k:aj prog GB C n Q0 fr' own' cf')
  (hv:ah vc:=by first|exact trivial|(simp only[ah];kernel_rfl)|(simp only[ah];omega)):aj prog GB C n Q0 fr own cf:=by
 unfold L5 at h;split at h<;>try (cases h;done)
 rename_i hh;split at h<;>cases h;rename_i hx;have:gG prog t:=⟨fun w=>by(rw[A6 hu w];cases D<;>first|rfl|(cases hD;done)),fun w=>by rw[tw hj w,hs]⟩;exact us hh (.x1 hx fun ρ G ov a w y _ r h1 h2=>by
  obtain⟨b,o,ms,m,rfl,hb,ht,hm⟩:=h2;obtain⟨l',h3,h4⟩:=hm.get (i:=0) rfl;have:=Kq ht (i:=0) (Nat.succ_pos _);rw[fJ] at this;exact⟨l',h4,AB h1 hb (by rw[this];exact h3)⟩) hgo hv k
end
section
variable {GB:Gh} {C:aD} {n:Nat} {Q0:Exit->Act->World->Prop} {fr fr':aA} {own own':aI} {cf cf':Cf} {vc:List Prop} {ops:Array Oper} {r:List Oper} {K:List Kt}
def aD.mkD(C:aD)(f:FuncId)(c2:List Value):aD:={C with mks:=[{target:= .fn (.func f) ⟨c2⟩,args:= #[]}]}
def axI{f:FuncId}{c2:List Value}{ov:List ak}{G:Gh}{w:World}(h:bu C ov G w):bu (C.mkD f c2) ov G w:=
 ⟨h.os,h.tape,h.output,h.size,h.keep,h.sub,h.gle,h.gold,h.hown,h.nd,h.dr,h.ext⟩
def auH{f:FuncId}{c2:List Value}{ov:List ak}{G:Gh}{w:World}(h:bu (C.mkD f c2) ov G w):bu C ov G w:=
 ⟨h.os,h.tape,h.output,h.size,h.keep,h.sub,h.gle,h.gold,h.hown,h.nd,h.dr,h.ext⟩
def Ih(P:Program)(fb:Func)(R:Ending->World->Prop):Exit->Act->World->Prop:=bodyPostDIn (FW none) 0 P fb R
def fnD[fu:Fu]{f:FuncId}{fb:Func}{c:Code}{m:Nat}{ds:List DV}{rv:DV}(hf:prog.funcs[f]? =some fb)(hb:fb.body=some c)(hn:(fb.name== "runtime.NumGoroutine")=false)(hm:fb.ntmps=m)(hlen:Nat.ble ds.length m=true)
  (hgo:go tt m fu.n [] (r8 0 ds) [] (.code c [])=⟨vc,fr,own,cf⟩)(k: ∀C:aD,FI C->aj prog GB C m (Ih prog fb (jD C (fun v G'=>Is G' rv v))) fr own cf)
  (hv:ah vc:=by first|exact trivial|(simp only[ah];kernel_rfl)|(simp only[ah];omega)):PF GB prog f ds rv:=by
 intro G vs hg hvs;refine⟨⟨fb,hf,hn,by simp[hb]⟩,fun w hw=>?_⟩;have hlen':vs.length<=m:=by rw[hvs.len];simpa using hlen
 have h:=f5 (GB:=GB) (C:=lD w G) (Q0:=Ih prog fb (jD (lD w G) (fun v G'=>Is G' rv v))) hgo hv (k (lD w G) ⟨J,J,J⟩);refine(callsIn_wide (n:=0)).1 (callsIn_of_wp_defers (F:=FW none) (n:=0) hf hb trivial ?_);refine h.run (fun _=>⟨none,0,0⟩) G [] _ w ⟨hg,Ga hw,by simp;omega,J,fun k f e=>Be hvs (fun k v hk=>?_) k f e,(fun nm B e=>by cases e),(fun nm nm' B B' e=>by cases e),fun nm p _ _ e=>by cases e⟩;obtain⟨j,rfl,hj⟩:=vm vs 0 k v hk;have hj':=(aS.1 hj).1;rw[jV (by simpa using hj')];simpa using hj
def W7{P:Program}{f:FuncId}{d x y:Nat}{gx gy:FX}{t1 t2:TypeId}{p1 p2:String}{a1 a2:Array Edge}{tys:Array TypeId}(h0:FI C)(hx:bg fr x=some gx)(hy:bg fr y=some gy)(hd:bg fr d=none)(hdn:d<n)
  (k: ∀p q,aj P GB (C.mkD f [p,q]) n Q0 fr own (.ops ops r K)):
  aj P GB C n Q0 fr own (.ops ops (⟨some d, .makeFunc (.func f) ⟨[]⟩ ⟨[.tmp x, .tmp y]⟩,t1,p1,a1,none⟩::⟨none, .defer ⟨.value (.tmp d),⟨[]⟩,tys⟩,t2,p2,a2,none⟩::r) K):=by
 refine⟨fun ρ G ov a w r0=>?_⟩;obtain⟨v1,hv1,_⟩:=r0.fx x gx hx;obtain⟨v2,hv2,_⟩:=r0.fx y gy hy;have e1:(execOp a.eval ⟨some d, .makeFunc (.func f) ⟨[]⟩ ⟨[.tmp x, .tmp y]⟩,t1,p1,a1,none⟩).run P w= .ok (.value (.func (.func f) ⟨[]⟩ ⟨[v1,v2]⟩)) w:=by
  have q1:a.eval (.tmp x)=v1:=by simp[Act.eval,hv1]
  have q2:a.eval (.tmp y)=v2:=by simp[Act.eval,hv2]
  have:=BB (P:=P) (C:=C) (own:=ov) (G:=G) (fr:=cG a) (dst:=some d) (ty':=t1) (pos:=p1) (af:=a1) (gd:=none) (fn:= .func f) (c1:=⟨[]⟩) (c2:=⟨[.tmp x, .tmp y]⟩) (l1:=[]) (l2:=[a.eval (.tmp x),a.eval (.tmp y)]) J (by
   have w1:aw (cG a) (.tmp x)=some v1:=by
    simp only[aw];exact Ab hv1
   have w2:aw (cG a) (.tmp y)=some v2:=by
    simp only[aw];exact Ab hv2
   simp[oU,w1,w2,q1,q2])
  rw[q1,q2] at this;exact this a w (c9 a) r0.h
 have hkk:=(k v1 v2).run ρ G ov {tmps:=a.tmps.setIfInBounds d (.func (.func f) ⟨[]⟩ ⟨[v1,v2]⟩),defers:=[{target:= .fn (.func f) ⟨[v1,v2]⟩,args:= #[]}]} w ⟨r0.gb,axI r0.h,by simpa using r0.sz,J,fun j g e=>by
   obtain⟨u,h1,h2⟩:=r0.fx j g e;refine⟨u,?_,h2⟩;have hne:d≠j:=fun he=>by rw[<-he,hd] at e;cases e
   rw[Array.getElem?_setIfInBounds_ne hne];exact h1,r0.bx,r0.dj,r0.fxd⟩
 have hrd:C.rd=none:=h0.rd;show wpListIn (FW C.rd) 0 P ops (cQ C.rd P Q0 K) _ a w;have hkk':wpListIn (FW C.rd) 0 P ops (cQ C.rd P Q0 K) r _ w:=hkk;rw[hrd] at hkk'⊢;simp only[wpListIn,Region.wanted,if_true];refine⟨fun _ _=>trivial,?_⟩;rw[show(FW none).round=none from J,Oper.semAt_none,e1];show Oper.wpIn (FW none) 0 P _ _ w _ _;refine⟨fun _ _=>trivial,?_⟩;have hsz:d<a.tmps.size:=by rw[r0.sz];exact hdn
 have e2:(execOp (Act.put a (some d) (.func (.func f) ⟨[]⟩ ⟨[v1,v2]⟩)).eval ⟨none, .defer ⟨.value (.tmp d),⟨[]⟩,tys⟩,t2,p2,a2,none⟩).run P w= .ok (.defer {target:= .fn (.func f) ⟨[v1,v2]⟩,args:= #[]}) w:=by
  have q3:(Act.put a (some d) (.func (.func f) ⟨[]⟩ ⟨[v1,v2]⟩)).eval (.tmp d)= .func (.func f) ⟨[]⟩ ⟨[v1,v2]⟩:=by simp[Act.eval,Act.put,hsz]
  simp[execOp,resolve,q3,Deferred.ofValue,go_sem,hsz]
 rw[show(FW none).round=none from J,Oper.semAt_none,e2];show wpListIn (FW none) 0 P ops (cQ none P Q0 K) r _ w;have hda:a.defers=[]:=by rw[r0.df,h0.mks]
 have:(Act.put ({(Act.put a (some d) (.func (.func f) ⟨[]⟩ ⟨[v1,v2]⟩)) with defers:={target:= .fn (.func f) ⟨[v1,v2]⟩,args:= #[]}::(Act.put a (some d) (.func (.func f) ⟨[]⟩ ⟨[v1,v2]⟩)).defers}) none undef)={tmps:=a.tmps.setIfInBounds d (.func (.func f) ⟨[]⟩ ⟨[v1,v2]⟩),defers:=[{target:= .fn (.func f) ⟨[v1,v2]⟩,args:= #[]}]}:=by
  simp[Act.put,hda]
 rw[this];exact hkk'
def Ue(P:Program)(f:FuncId):Prop:= ∀p q w,CallsDIn (FW none) 0 P f #[p,q] .returning w fun e u' w'=>e= .returned (.tuple #[])/\u'= .returning/\w'=w
def rzF{fb:Func}{e:Exit}{ds:List DV}{rv:DV}{f:FuncId}{p q:Value}(hI:Ue prog f)(hfb:pO prog f)(hr:qh tt fr own fb.results.toList=some ds)(hd:ji ds=rv)(he:Dl e=true:=by rfl):aj prog GB (C.mkD f [p,q]) n (Ih prog fb (jD C (fun v G'=>Is G' rv v))) fr own (.ex e []):=by
 refine⟨fun ρ G ov a w r=>?_⟩;obtain⟨vs,h1,h2⟩:=BO r hr;have hk:Is G rv (gI vs):=hd▸Ck h2;have hres:=tD (C:=C.mkD f [p,q]) (G:=G) (own:=ov) (w:=w) h1 (c9 a) r.h;have key:LeavesIn (FW none) 0 prog fb a.tmps (jD C (fun v G'=>Is G' rv v)) a.defers .returning w:=by
  rw[r.df];refine leavesIn_cons (f:=f) (args:= #[p,q]) (by simp) (by simp[FW,Fence.wide]) ?_ (fun _ _=>trivial) ?_
  ·show(callFunc f (#[]++⟨[p,q]⟩)).run prog w=_
   rw[Df hfb];simp
  refine(hI p q w).mono ?_;rintro e u' w' ⟨rfl,rfl,rfl⟩;exact⟨_,hres,_,G,J,(auH r.h).drop (kJ _),hk⟩
 cases e with
 |ret=>exact key
 |normal=>exact key
 |_=>cases he
def Td(fr:aA)(own:aI)(cf:Cf):Option (TypeId×FX):=match ce fr cf with
 |some ⟨_, .load t x,_,_,_,_⟩=>match aO (bE fr cf) x with
  |some (.ov nm off)=>match gD fr own cf nm with
   |some (.o _ cs _)=>match cs[off]? with
    |some f=>some (t,f)
    |none=>none
   |_=>none
  |_=>none
 |_=>none
def Zu[fu:Fu]{t:TypeId}{f:FX}{D:TypeDesc}{j:TypeInfo}(h:Td fr own cf=some (t,f))(hu:prog.underlying t=some D)(hD:Qj D=true)(hj:prog.info? t=some j)(hs:j.size=1)
  (hgo:cI tt n fu.n fr own cf f [] []=⟨vc,fr',own',cf'⟩)(k':aj prog GB C n Q0 fr' own' cf')
  (hv:ah vc:=by first|exact trivial|(simp only[ah];kernel_rfl)|(simp only[ah];omega)):aj prog GB C n Q0 fr own cf:=by
 unfold Td at h;split at h<;>try (cases h;done)
 rename_i hh;split at h<;>try (cases h;done)
 rename_i hx;split at h<;>try (cases h;done)
 rename_i hb;split at h<;>cases h;rename_i hc;have:gG prog t:=⟨fun w=>by(rw[A6 hu w];cases D<;>first|rfl|(cases hD;done)),fun w=>by rw[tw hj w,hs]⟩;refine us hh ?_ hgo hv k';refine .yd fun ρ G ov a w r=>?_;obtain⟨y,h1,h2⟩:=r.ev hx;obtain⟨b,m,rfl,h3,h4,h5⟩:=r.own h2 hb;obtain⟨l',h6,h7⟩:=h4.get hc;have:im ov b m _ _:=⟨h5⟩;exact⟨l',h7,lE h1 h6⟩
end
instance BQ.i1':BQ (1:Rat) 2:=⟨by decide,by decide⟩
instance BQ.i2':BQ (2:Rat) 2:=⟨by decide,by decide⟩
instance aB.at (l:ab) (t:Rat) (k:Nat) [LB l] [BQ t k]:aB (l.at t) (900+(k+97)+1):=by
 rw[<-tF];infer_instance
def gO(d:aa):aa:=⟨-d.y,d.x⟩
instance aB.turn (d:aa) (k:Nat) [aB d k]:aB (gO d) k:=⟨inferInstanceAs (BQ (-d.y) k),inferInstanceAs (BQ d.x k)⟩
def DG(p v:aa)(m:ab):Rat:= -(m.value p/(m.value (bt p v ((1:Int):Rat))-m.value p))
def BU(p v:aa)(m:ab)(s:Rat):Rat:=if(m.value (bt p v ((1:Int):Rat))-m.value p).num.sign=0 then s else if(m.value p).num.sign=0 then s else if 0<(DG p v m).num.sign then(if cg (DG p v m/2) s<0 then DG p v m/2 else s) else s
def yi(p v:aa):List ab->Rat->Rat
 |[],s=>s
 |m::t,s=>yi p v t (BU p v m s)
def Bz(c:List ab)(p v:aa):aa:=bt p v (yi p v c ((1:Int):Rat))
def AF(c:List ab):List ab->aa
 |[]=>⟨0,0⟩
 |m::t=>if(qo m c av.all).2=true then Bz c (m.at (Ek (qo m c av.all).1)) (gO m.dir) else AF c t
def XN{es:List Int}{i:Nat}(h:i<es.length):(es.map vI)[(i:Int).toNat]? =some (vI (es.getD i 0)):=by simp[h]
def Uh{es:List Int}{i:Nat}(h:i<es.length):qd (es.drop i)=if es.getD i 0≠0 then es.getD i 0 else qd (es.drop (i+1)):=by
 rw[cX h,qd,aK,aX h];rfl
def UY{es:List Int}(hn:es.length<=1000000):PF GB prog 258 [.sl (es.map vI)] (vI (qd es)):=by
 have hel:(es.map vI).length=es.length:=by simp
 refine fn (fu:=⟨15⟩) func258 J J ntmps258 J J (fun C=>?_);refine ao 7 (.d (vI (es.length:Nat))) J (by rw[hel]<;>rfl) ?_;refine gx J<|?_;refine lp (X:=Nat) (fun i=>[(8, .d (vI (i:Nat)))]) (fun i=>[]) (fun i=>i<=es.length/\qd es=qd (es.drop i)) (fun i=>es.length-i) 0 J ⟨bT _,J⟩ (fun _=>J) (fun i hk=>?_);obtain⟨h1,h2⟩:=hk;refine br J J J (fun hc9=>?_) (fun hc9=>?_)
 .
  refine ix _ J (XN (by omega)) J<|?_;refine br J J J (fun hc14=>?_) (fun hc14=>?_)
  .
   exact rz J (by rw[h2,Uh (by omega),if_pos hc14];rfl)
  .
   exact at_ (i+1) ⟨⟨by omega,by rw[h2,Uh (by omega),if_neg hc14]⟩,(by omega)⟩
 .
  exact rz J (by rw[h2,iQ (by omega)];rfl)
def Ki(l m:ab):Int:=qd [cg l.a m.a,cg l.b m.b,cg l.c m.c]
def Vy(l m:ab):Ki l m=0↔l=m:=by
 unfold Ki qd qd qd qd;have ha:=wc (l.a:Rat) m.a;have hb:=wc (l.b:Rat) m.b;have hc:=wc (l.c:Rat) m.c;rw[nM] at ha hb hc;constructor
 ·intro h
  repeat' (split at h<;>try contradiction)
  all_goals exact ab.ext' (by omega) (by omega) (by omega)
 ·rintro rfl
  rw[if_neg (by simp[ha.2 J]),if_neg (by simp[hb.2 J]),if_neg (by simp[hc.2 J])]
def aDg{l m:ab}[hl:LB l][hm:LB m]:PF GB prog 252 [e7 l,e7 m] (vI (Ki l m)):=by
 refine fn func252 J J ntmps252 J J (fun C=>?_);refine cl J (jE (p:=(l.a:Rat)) (q:=(m.a:Rat))) J<|cl J (jE (p:=(l.b:Rat)) (q:=(m.b:Rat))) J<|cl J (jE (p:=(l.c:Rat)) (q:=(m.c:Rat))) J<|?_;refine rf J J<|cl J (UY (es:=[cg l.a m.a,cg l.b m.b,cg l.c m.c]) (nb J)) J<|?_;exact rz J J
def Wo{l m:ab}[hl:LB l][hm:LB m]:PF GB prog 234 [e7 l,e7 m] (vB (decide (l=m))):=by
 refine fn func234 J J ntmps234 J J (fun C=>?_);refine cl J (aDg (l:=l) (m:=m)) J<|?_;exact rz J (by show DV.v (.bool (decide _))= .v (.bool _);congr 2;exact decide_eq_decide.2 (Vy l m))
def Hb{l:ab}[hl:LB l]:PF GB prog 153 [e7 l] (e7 l.rev):=by
 refine fn func153 J J ntmps153 J J (fun C=>?_);refine cl J (n4 (q:=(l.a:Rat))) J<|cl J (n4 (q:=(l.b:Rat))) J<|cl J (n4 (q:=(l.c:Rat))) J<|?_;exact rz J (by unfold e7 ab.rev;simp only[pW];rfl)
def WW{l:ab}[hl:LB l]:PF GB prog 62 [e7 l] (eL l):=by
 refine fn func62 J J ntmps62 J J (fun C=>?_);refine cl J (tH (q:=(l.a:Rat))) J<|cl J (tH (q:=(l.b:Rat))) J<|cl J (tH (q:=(l.c:Rat))) J<|?_;exact rz J J
def RZ{p:aa}{i:Nat}[hp:aB p i](hi:i<=10000000:=by decide):PF GB prog 178 [eZ p] (vI p.half):=by
 refine fn func178 J J ntmps178 J J (fun C=>?_);refine cl J (kv (q:=p.y) (by omega)) J<|?_;refine cs 10 J J J (fun hg10=>?_) (fun hg10=>?_)
 .
  exact rz J (by unfold aa.half;(repeat' split)<;>first|rfl|(exfalso;omega))
 .
  refine cs 13 J J J (fun hg13=>?_) (fun hg13=>?_)
  .
   refine cl J (kv (q:=p.x) (by omega)) J<|?_;refine br J J J (fun hc7=>?_) (fun hc7=>?_)
   .
    exact rz J (by unfold aa.half;(repeat' split)<;>first|rfl|(exfalso;omega))
   .
    refine cs 23 J J J (fun hg23=>?_) (fun hg23=>?_)
    .
     exact rz J (by unfold aa.half;(repeat' split)<;>first|rfl|(exfalso;omega))
    .
     refine cl J (kv (q:=p.x) (by omega)) J<|?_;refine br J J J (fun hc20=>?_) (fun hc20=>?_)
     .
      exact rz J (by unfold aa.half;(repeat' split)<;>first|rfl|(exfalso;omega))
     .
      exact rz J (by unfold aa.half;(repeat' split)<;>first|rfl|(exfalso;omega))
  .
   refine cs 23 J J J (fun hg23=>?_) (fun hg23=>?_)
   .
    exact rz J (by unfold aa.half;(repeat' split)<;>first|rfl|(exfalso;omega))
   .
    refine cl J (kv (q:=p.x) (by omega)) J<|?_;refine br J J J (fun hc20=>?_) (fun hc20=>?_)
    .
     exact rz J (by unfold aa.half;(repeat' split)<;>first|rfl|(exfalso;omega))
    .
     exact rz J (by unfold aa.half;(repeat' split)<;>first|rfl|(exfalso;omega))
def Li{u v:aa}{i j:Nat}[hp:aB u i][hq:aB v j](hi:i<=10000000:=by decide)(hj:j<=10000000:=by decide):PF GB prog 128 [eZ u,eZ v] (vI (cO u v)):=by
 refine fn func128 J J ntmps128 J J (fun C=>?_);refine cl J (RZ (p:=u) hi) J<|cl J (RZ (p:=v) hj) J<|?_;refine br J J J (fun hc11=>?_) (fun hc11=>?_)
 .
  exact rz J (by unfold cO;rw[if_pos hc11];rfl)
 .
  refine br J J J (fun hc15=>?_) (fun hc15=>?_)
  .
   exact rz J (by unfold cO;rw[if_neg hc11,if_pos hc15];rfl)
  .
   refine cl J (Mo (p:=u) (q:=v) (by omega) (by omega)) J<|cl (fu:=⟨0⟩) J (kv (q:=u.cross v) (by omega)) J<|?_;have hs:=qT (u.cross v).num;refine gx J<|?_;exact rz J (by unfold cO;rw[if_neg hc11,if_neg hc15];rfl)
def Vj{m:Int}:er (dg m.natAbs)/\(decide (m<0)=true->0<(dg m.natAbs).length):=⟨(eG _).2.2,fun h=>by
 have:0<m.natAbs:=by have:=of_decide_eq_true h;omega
 exact Ao.2 this⟩
def tc{m:Int}{i:Nat}[h:BI m i](hi:i<=1000000000:=by decide):PF GB prog 170 [eI m] (.v (.bool true)):=(Rr (neg:=decide (m<0)) (ds:=dg m.natAbs) (eG _).2.1 (by have:=nj (a:=m.natAbs) hi;omega)).to (by unfold vB;rw[decide_eq_true Vj])
def RH{l:ab}(h:l.ok):rgcd (rgcd (l.a:Rat) (l.b:Rat)) (l.c:Rat)=((1:Int):Rat):=by
 rw[yu,yu];have:=h.2;simp only[kX];rw[this];rfl
instance BQ.rgcd (p q:Rat) (i j:Nat) [h:BQ p i] [k:BQ q j]:BQ (rgcd p q) (i+j+(i+j)):=by
 unfold Sx.rgcd;refine wq (jS (nB p) (nB q)) ?_ ?_
 ·rw[kX]
  have h1:=po h.hn k.hd;have h2:=po k.hn h.hd;rw[lX j i] at h2;exact KH h1 h2
 ·have h1:=po h.hd k.hd
  have:2^(i+j)<=2^(i+j+(i+j)):=bS (by decide) (by omega);omega
def VK{l:ab}[hl:LB l](ho:l.ok):PF GB prog 122 [eL l] (.tp [e7 l,vB true]):=by
 refine fn func122 J J ntmps122 J J (fun C=>?_);refine cl (fu:=⟨0⟩) J (tc (m:=l.a)) J<|ek J J J<|cl (fu:=⟨0⟩) J (tc (m:=l.b)) J<|ek J J J<|cl (fu:=⟨0⟩) J (tc (m:=l.c)) J<|?_;refine ek J J J<|cl J (uj (m:=l.a)) J<|cl J (uj (m:=l.b)) J<|cl J (uj (m:=l.c)) J<|cl (fu:=⟨0⟩) J (rP (q:=(l.a:Rat))) J<|?_;refine qt (fu2:=⟨4⟩) J J J J (fun hg35=>?_) (fun hg35=>?_)
 .
  have ha:l.a=0:=dY.1 hg35;refine cl (fu:=⟨1⟩) J (rP (q:=(l.b:Rat))) J<|ek J (by first|rfl|(show some (decide _)=some false;rw[decide_eq_false (fun e=>ho.1 ⟨ha,dY.1 e⟩)])) J<|?_;refine cl J (oC (p:=(l.a:Rat)) (q:=(l.b:Rat))) J<|cl J (oC (p:=rgcd l.a l.b) (q:=(l.c:Rat))) J<|cl J (ph (m:=1) (by decide)) J<|?_;refine cl (fu:=⟨0⟩) J (Aw (p:=rgcd (rgcd l.a l.b) l.c) (q:=((1:Int):Rat))) J<|ek J (by show some (!decide _)=some false;rw[RH ho,decide_eq_true J];rfl) J<|?_;exact rz J J
 .
  refine ek J (by first|rfl|(show some (decide _)=some false;rw[decide_eq_false (fun e=>ho.1 ⟨ha,dY.1 e⟩)])) J<|cl J (oC (p:=(l.a:Rat)) (q:=(l.b:Rat))) J<|?_;refine cl J (oC (p:=rgcd l.a l.b) (q:=(l.c:Rat))) J<|cl J (ph (m:=1) (by decide)) J<|cl (fu:=⟨0⟩) J (Aw (p:=rgcd (rgcd l.a l.b) l.c) (q:=((1:Int):Rat))) J<|?_;refine ek J (by show some (!decide _)=some false;rw[RH ho,decide_eq_true J];rfl) J<|?_;exact rz J J
end Go.Sx
end
