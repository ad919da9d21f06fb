import Derived.Test.YtefoocgiaegobaaGreatDoorPh12
import Derived.RecoverIn
set_option linter.all false
set_option maxHeartbeats 1000000
set_option maxRecDepth 100000
section
namespace Go.Sx
open Go Go.Proofs Tryz
variable {GB:Gh}
def Kd{m:Int}{g:Nat}(hg:(g:Int)∣m)(hb:m.natAbs<4611686018427387904):IntKind.i64.wrap (m.tdiv g)=m/g:=by
 rw[Int.tdiv_eq_ediv_of_dvd hg];have:=nK m g;exact Ry (by omega)
def tm(a b:Int):Int:=if(a*b).natAbs<4611686018427387904 then a*b else 0
def C5(a b:Int):(tm a b).natAbs<4611686018427387904:=by unfold tm;split<;>omega
def yH{a b:Int}(h:(a*b).natAbs<4611686018427387904):tm a b=a*b:=if_pos h
def Nj{a b:Int}(h: ¬(a*b).natAbs<4611686018427387904):DV.tp [vI 0, .v (.bool false)]= .tp [vI (tm a b),vB (decide ((a*b).natAbs<4611686018427387904))]:=by unfold tm;rw[if_neg h,decide_eq_false h];rfl
def Ox{a b:Int}{x:Int}(h:(a*b).natAbs<4611686018427387904)(e:x=a*b):DV.tp [vI x, .v (.bool true)]= .tp [vI (tm a b),vB (decide ((a*b).natAbs<4611686018427387904))]:=by unfold tm;rw[if_pos h,decide_eq_true h,e];rfl
def Nc(n:Nat):eI (n:Int)= .ag [.v (.bool false),dN n]:=by unfold eI;rw[decide_eq_false (by omega),fL]
def XZ{p q:Rat}(hp:p.den=1)(hq:q.den=1):rgcd p q=((Nat.gcd p.num.natAbs q.num.natAbs:Nat):Int):=by
 conv=>lhs;rw[Cr hp,Cr hq]
 exact uh _ _
def ZX(q:Rat):mkRat (zv (decide (q.num<0)) q.den) q.num.natAbs=q⁻¹:=by
 rw[Rat.inv_def];by_cases h:q.num<0
 ·rw[decide_eq_true h];exact QR h
 ·rw[decide_eq_false h,<-Rat.divInt_ofNat,nY (by omega)];rfl
instance BQ.inv (q:Rat) (i:Nat) [h:BQ q i]:BQ q⁻¹ i:=by
 have h1:=h.hn;have h2:=h.hd;have h3:=q.den_nz;rcases lK q.num 0 with k|k|k
 ·obtain⟨e1,e2⟩:=O4 k;exact⟨by omega,by omega⟩
 ·have e:q=0:=kQ.1 k
  have e0:(0:Rat)⁻¹=0:=Rat.inv_zero;rw[e] at h1 h2⊢;rw[e0];exact⟨h1,h2⟩
 ·obtain⟨e1,e2⟩:=JT k;exact⟨by omega,by omega⟩
instance BQ.half:BQ (mkRat 1 2) 2:=⟨by decide,by decide⟩
def Zy{x y:Nat}(hx:x<18446744073709551616)(hy:y<18446744073709551616):PF GB prog 359 [.v (.int .u64 (x:Nat)), .v (.int .u64 (y:Nat))] (.tp [.v (.int .u64 ((x*y/18446744073709551616:Nat):Int)), .v (.int .u64 ((x*y%18446744073709551616:Nat):Int))]):=fun G vs _ hv=>by
 obtain⟨v,m,rfl,h1,h2⟩:=aO.1 hv;obtain⟨u,m',rfl,h3,h4⟩:=aO.1 h2
 cases cB.1 h4
 rw[aF.1 h1,aF.1 h3];exact(QZ hx hy).mono fun v G' _ h=>by subst h;exact je.2 ⟨_,J, .cons (aF.2 J) (.cons (aF.2 J) .nil)⟩
def Lh{a b:Nat}(ha:a<18446744073709551616)(hb:b<18446744073709551616):PF GB prog 349 [.v (.int .u64 (a:Nat)), .v (.int .u64 (b:Nat))] (.v (.int .u64 (Nat.gcd a b:Nat))):=by
 refine fn func349 J J ntmps349 J J (fun C=>?_);refine lp (X:=Nat×Nat) (fun⟨u,v⟩=>[(1, .d (.v (.int .u64 (v:Nat)))),(0, .d (.v (.int .u64 (u:Nat))))]) (fun⟨u,v⟩=>[]) (fun⟨u,v⟩=>u<18446744073709551616/\v<18446744073709551616/\Nat.gcd u v=Nat.gcd a b) (fun⟨u,v⟩=>v) (a,b) J ⟨ha,hb,J⟩ (fun _=>J) (fun⟨u,v⟩ hk=>?_);dsimp only at hk⊢;obtain⟨h1,h2,h3⟩:=hk;refine br (v1:=fun hc6=>by simp only[ah];exact⟨by omega,by kernel_rfl⟩) J J J (fun hc6=>?_) (fun hc6=>?_)
 .
  have hm:=cN u (show 0<v by omega);exact at_ (v,u%v) (by dsimp only;exact⟨⟨h2,by omega,by rw[<-h3,iM u v,sL v u,iM]⟩,hm⟩)
 .
  exact rz J (by rw[<-h3,show v=0 by omega,mN];rfl)
def o9{m:Int}(h:m.natAbs<9223372036854775808):PF GB prog 199 [vI m] (eF (m:Rat)):=by
 refine fn func199 J J ntmps199 J J (fun C=>?_);refine cs 5 J J J (fun hg5=>?_) (fun hg5=>?_)
 .
  refine cl J (DA (m:=m) (by omega) (by omega)) J<|rf (fu:=⟨0⟩) J J<|?_;refine aA 11 (.d (dN 1)) J (by unfold dN;rw[x5];rfl) ?_;refine gx J<|cl J (sD (n:=decide (m<0)) (a:=m.natAbs) (i:=63) (h:=⟨h⟩) (d:=1)) J<|?_;exact rz J (by rw[kE,show mkRat m 1=(m:Rat) from rM ..];rfl)
 .
  refine br J J J (fun hc8=>?_) (fun hc8=>?_)
  .
   refine cl J (DA (m:=m) (by omega) (by omega)) J<|rf (fu:=⟨0⟩) J J<|?_;refine aA 11 (.d (dN 1)) J (by unfold dN;rw[x5];rfl) ?_;refine gx J<|cl J (sD (n:=decide (m<0)) (a:=m.natAbs) (i:=63) (h:=⟨h⟩) (d:=1)) J<|?_;exact rz J (by rw[kE,show mkRat m 1=(m:Rat) from rM ..];rfl)
  .
   exact iA J (Mf (by omega))
def ym{a b:Int}(ha:a.natAbs<4611686018427387904)(hb:b.natAbs<4611686018427387904):PF GB prog 299 [vI a,vI b] (.tp [vI (tm a b),vB (decide ((a*b).natAbs<4611686018427387904))]):=by
 have hab:=gX a b;refine fn func299 J J ntmps299 J J (fun C=>?_);refine cl J (xM (m:=a) (by omega)) J<|cl J (xM (m:=b) (by omega)) J<|cl J (Zy (x:=a.natAbs) (y:=b.natAbs) (by omega) (by omega)) J<|?_;refine cs 18 J J J (fun hg18=>?_) (fun hg18=>?_)
 .
  exact rz J (Nj (by omega))
 .
  refine br J J J (fun hc21=>?_) (fun hc21=>?_)
  .
   exact rz J (Nj (by omega))
  .
   refine bb J J J (fun hc26=>?_) (fun hc26=>?_)
   .
    have hs:=Jw a b;rw[if_neg (by simpa using hc26)] at hs;exact rz J (Ox (by omega) (by rw[hs,<-hab];omega))
   .
    have hs:=Jw a b;rw[if_pos (by simpa using hc26)] at hs;exact rz J (Ox (by omega) (by rw[hs,<-hab];omega))
def Mw{m:Int}{d:Nat}(h:m.natAbs<4611686018427387904)(h0:0<d)(hd:d<4611686018427387904):PF GB prog 300 [vI m,vI (d:Nat)] (eF (mkRat m d)):=by
 have hg:Nat.gcd m.natAbs d<=d:=Nat.gcd_le_right _ h0;have hg0:0<Nat.gcd m.natAbs d:=nS _ h0;obtain⟨e1,e2⟩:=Lv (m:=m) h0;have e3:=nK m (Nat.gcd m.natAbs d:Nat);have e4:=kY d (Nat.gcd m.natAbs d);have e5:=Nat.div_pos hg hg0;refine fn func300 J J ntmps300 J J (fun C=>?_);refine cl J (xM (m:=m) (by omega)) J<|cl J (Lh (a:=m.natAbs) (b:=d) (by omega) (by omega)) J<|?_;refine br (fu1:=⟨4⟩) J J J (fun hc13=>?_) (fun hc13=>?_)
 .
  refine aA 16 (.d (vI (m/(Nat.gcd m.natAbs d:Nat)))) J (by rw[Kd (Int.dvd_natAbs.1 (qS.2 (iT _ _))) h];rfl) ?_;refine gx (fu:=⟨3⟩) J<|?_;refine aA 19 (.d (vI ((d/Nat.gcd m.natAbs d:Nat)))) J (by rw[Kd (qS.2 (jM _ _)) (by rw[fL];exact hd)];rfl) ?_;refine gx (hv:=by simp only[ah];exact⟨by kernel_rfl,by omega⟩) J<|?_;exact iA J (rh (fun k=>k ⟨by rw[e1];omega,by rw[e2];omega⟩) e1 (by rw[e2]) J)
 .
  exact iA J (by have h1:Nat.gcd m.natAbs d=1:=(by omega);rw[h1,sM] at e2;rw[h1,Int.natCast_one,Int.ediv_one] at e1;exact rh (fun k=>k ⟨by rw[e1];omega,by rw[e2];omega⟩) e1 (by rw[e2]) J)
def rE{p q:Rat}{i j:Nat}[h:BQ p i][k:BQ q j](hi:i<=100000000:=by decide)(hj:j<=100000000:=by decide):PF GB prog 207 [eF p,eF q] (eF (p*q)):=by
 refine fn (fu:=⟨8⟩) func207 J J ntmps207 J J (fun C=>?_);refine mg (X:=Unit) (fun _=>[(2, .ov 2 0),(3, .ov 3 0),(4, .ov 4 0)]) (fun _=>[(2,some (.o 139 [.d (vI (dt p)), .d (vI (du p)), .d (dl p)] true)),(3,some (.o 139 [.d (vI (dt q)), .d (vI (du q)), .d (dl q)] true)),(4,some (.o 139 [.d (.v (.int .i64 0)), .d (.v (.int .i64 0)), .d (.v (.pointer none))] true))]) (fun _=>True) [2,3,4] [2,3,4] rfl ?_ (fun _=>J) (fun _ _=>?_)
 .
  refine gx J<|?_;refine cs 12 J J J (fun hg12=>?_) (fun hg12=>?_)
  .
   refine br (fu1:=⟨4⟩) J J J (fun hc16=>?_) (fun hc16=>?_)
   .
    have hp:=qA hg12;have hq:=qA hc16;have p1:=my hp;have p2:=ou hp;have p3:=oH hp;have p4:=oC hp;have p5:=p.den_nz;have q1:=my hq;have q2:=ou hq;have q3:=oH hq;have q4:=oC hq;have q5:=q.den_nz;refine aA 19 (.d (vI p.num)) J (by rw[p1]) ?_;refine gx (fu:=⟨2⟩) J<|?_;refine aA 21 (.d (vI q.num)) J (by rw[q1]) ?_;refine gx J<|cl (fu:=⟨12⟩) J (ym (a:=p.num) (b:=q.num) (by omega) (by omega)) J<|?_;refine aA 28 (.d (vI (p.den:Nat))) J (by congr 3;omega) ?_;refine gx (fu:=⟨3⟩) J<|?_;refine aA 31 (.d (vI (q.den:Nat))) J (by congr 3;omega) ?_;refine gx J<|cl J (ym (a:=(p.den:Nat)) (b:=(q.den:Nat)) (by omega) (by omega)) J<|?_;refine csd 36 J J J (fun hg36=>?_) (fun hg36=>?_)
    .
     refine bd (fu1:=⟨3⟩) J J J (fun hc38=>?_) (fun hc38=>?_)
     .
      have hd1:p.den*q.den<4611686018427387904:=by omega
      refine aA 39 (.d (vI (p.num*q.num))) J (by rw[yH hg36]) ?_;refine gx (fu:=⟨1⟩) J<|?_;refine aA 40 (.d (vI ((p.den*q.den:Nat)))) J (by rw[yH hc38];rfl) ?_;refine gx J<|cl J (Mw (m:=p.num*q.num) (d:=p.den*q.den) hg36 (iX (by omega) (by omega)) hd1) J<|?_;exact rz J (by rw[<-y6];rfl)
     .
      exact at_ () trivial
    .
     exact at_ () trivial
   .
    exact at_ () trivial
  .
   exact at_ () trivial
 .
  refine cl J (rB (q:=p) (by omega)) J<|cl J (rB (q:=q) (by omega)) J<|cl J (FB (a:=p.num) (b:=q.num) (by omega) (by omega)) J<|?_;refine cl J (pH (q:=p) (by omega)) J<|cl J (pH (q:=q) (by omega)) J<|cl J (vH (a:=p.den) (b:=q.den) (by omega) (by omega)) J<|?_;refine cl J (sD (n:=decide (p.num*q.num<0)) (a:=(p.num*q.num).natAbs) (d:=p.den*q.den) (i:=i+j) (j:=i+j) (by omega) (by omega)) J<|?_;exact rz J (by rw[kE,<-y6];rfl)
def rF{p q:Rat}{i j:Nat}[h:BQ p i][k:BQ q j](hi:i<=100000000:=by decide)(hj:j<=100000000:=by decide):PF GB prog 208 [eF p,eF q] (eF (p+q)):=by
 refine fn (fu:=⟨8⟩) func208 J J ntmps208 J J (fun C=>?_);refine mg (X:=Unit) (fun _=>[(2, .ov 2 0),(3, .ov 3 0),(4, .ov 4 0)]) (fun _=>[(2,some (.o 139 [.d (vI (dt p)), .d (vI (du p)), .d (dl p)] true)),(3,some (.o 139 [.d (vI (dt q)), .d (vI (du q)), .d (dl q)] true)),(4,some (.o 139 [.d (.v (.int .i64 0)), .d (.v (.int .i64 0)), .d (.v (.pointer none))] true))]) (fun _=>True) [2,3,4] [2,3,4] rfl ?_ (fun _=>J) (fun _ _=>?_)
 .
  refine gx J<|?_;refine cs 16 J J J (fun hg16=>?_) (fun hg16=>?_)
  .
   refine br (fu1:=⟨1⟩) J J J (fun hc20=>?_) (fun hc20=>?_)
   .
    have hp:=qA hg16;have hq:=qA hc20;have p1:=my hp;have p2:=ou hp;have p3:=oH hp;have p4:=oC hp;have p5:=p.den_nz;have q1:=my hq;have q2:=ou hq;have q3:=oH hq;have q4:=oC hq;have q5:=q.den_nz;refine mg (fu:=⟨4⟩) (X:=Unit) (fun _=>[(2, .ov 2 0),(3, .ov 3 0),(4, .ov 4 0)]) (fun _=>[(2,some (.o 139 [.d (vI (dt p)), .d (vI (du p)), .d (dl p)] true)),(3,some (.o 139 [.d (vI (dt q)), .d (vI (du q)), .d (dl q)] true)),(4,some (.o 139 [.d (.v (.int .i64 0)), .d (.v (.int .i64 0)), .d (.v (.pointer none))] true))]) (fun _=>True) [2,3,4] [2,3,4] rfl ?_ (fun _=>J) (fun _ _=>?_)
    .
     refine gx J<|?_;refine cs 24 J J J (fun hg24=>?_) (fun hg24=>?_)
     .
      refine br (fu1:=⟨4⟩) J J J (fun hc28=>?_) (fun hc28=>?_)
      .
       refine aA 30 (.d (vI p.num)) J (by rw[p1]) ?_;refine gx (fu:=⟨2⟩) J<|?_;refine aA 32 (.d (vI q.num)) J (by rw[q1]) ?_;refine gx J<|cl J (o9 (m:=p.num+q.num) (by omega)) J<|?_;exact rz J (by rw[Cr (q:=p) (by omega),Cr (q:=q) (by omega),<-oS];rfl)
      .
       exact at_ () trivial
     .
      exact at_ () trivial
    .
     refine aA 37 (.d (vI p.num)) J (by rw[p1]) ?_;refine gx (fu:=⟨3⟩) J<|?_;refine aA 40 (.d (vI (q.den:Nat))) J (by congr 3;omega) ?_;refine gx J<|cl (fu:=⟨11⟩) J (ym (a:=p.num) (b:=(q.den:Nat)) (by omega) (by omega)) J<|?_;refine aA 46 (.d (vI q.num)) J (by rw[q1]) ?_;refine gx (fu:=⟨3⟩) J<|?_;refine aA 49 (.d (vI (p.den:Nat))) J (by congr 3;omega) ?_;refine gx J<|cl (fu:=⟨12⟩) J (ym (a:=q.num) (b:=(p.den:Nat)) (by omega) (by omega)) J<|?_;refine aA 56 (.d (vI (p.den:Nat))) J (by congr 3;omega) ?_;refine gx (fu:=⟨3⟩) J<|?_;refine aA 59 (.d (vI (q.den:Nat))) J (by congr 3;omega) ?_;refine gx J<|cl (fu:=⟨3⟩) J (ym (a:=(p.den:Nat)) (b:=(q.den:Nat)) (by omega) (by omega)) J<|?_;have t1:=C5 p.num (q.den:Nat);have t2:=C5 q.num (p.den:Nat);have t3:=C5 (p.den:Nat) (q.den:Nat);refine gx J<|?_;refine csd 67 J J J (fun hg67=>?_) (fun hg67=>?_)
     .
      refine csd 70 J J J (fun hg70=>?_) (fun hg70=>?_)
      .
       refine csd 73 J J J (fun hg73=>?_) (fun hg73=>?_)
       .
        refine cs 77 J J J (fun hg77=>?_) (fun hg77=>?_)
        .
         refine br (fu1:=⟨3⟩) J J J (fun hc80=>?_) (fun hc80=>?_)
         .
          have u1:=yH hg67;have u2:=yH hg70;have u3:=yH hg73;have hd1:p.den*q.den<4611686018427387904:=by omega
          refine aA 81 (.d (vI (p.num*(q.den:Nat)+q.num*(p.den:Nat)))) J (by rw[u1,u2];rfl) ?_;refine gx (fu:=⟨1⟩) J<|?_;refine aA 82 (.d (vI ((p.den*q.den:Nat)))) J (by rw[u3];rfl) ?_;refine gx J<|cl J (Mw (m:=p.num*(q.den:Nat)+q.num*(p.den:Nat)) (d:=p.den*q.den) (by omega) (iX (by omega) (by omega)) hd1) J<|?_;exact rz J (by rw[<-xP];rfl)
         .
          exact at_ () trivial
        .
         exact at_ () trivial
       .
        exact at_ () trivial
      .
       exact at_ () trivial
     .
      exact at_ () trivial
   .
    exact at_ () trivial
  .
   exact at_ () trivial
 .
  refine cl J (rB (q:=p) (by omega)) J<|cl (fu:=⟨1⟩) J (pH (q:=q) (by omega)) J<|?_;refine aA 88 (.d (eI (q.den:Nat))) J (by rw[Nc]) ?_;refine gx J<|cl J (FB (a:=p.num) (b:=(q.den:Nat)) (by omega) (by omega)) J<|cl J (rB (q:=q) (by omega)) J<|cl (fu:=⟨1⟩) J (pH (q:=p) (by omega)) J<|?_;refine aA 94 (.d (eI (p.den:Nat))) J (by rw[Nc]) ?_;refine gx J<|cl J (FB (a:=q.num) (b:=(p.den:Nat)) (by omega) (by omega)) J<|cl J (aC2 (a:=p.num*(q.den:Nat)) (b:=q.num*(p.den:Nat)) (i:=i+j) (j:=j+i) (by omega) (by omega)) J<|?_;refine cl J (pH (q:=p) (by omega)) J<|cl J (pH (q:=q) (by omega)) J<|cl J (vH (a:=p.den) (b:=q.den) (by omega) (by omega)) J<|?_;refine cl J (sD (n:=decide (p.num*(q.den:Nat)+q.num*(p.den:Nat)<0)) (a:=(p.num*(q.den:Nat)+q.num*(p.den:Nat)).natAbs) (d:=p.den*q.den) (i:=i+j+(j+i)+1) (j:=i+j) (by omega) (by omega)) J<|?_;exact rz J (by rw[kE,<-xP];rfl)
def sP{p q:Rat}{i j:Nat}[h:BQ p i][k:BQ q j](hi:i<=100000000:=by decide)(hj:j<=100000000:=by decide):PF GB prog 334 [eF p,eF q] (eF (p-q)):=by
 refine fn func334 J J ntmps334 J J (fun C=>?_);refine cl J (lw (q:=q) (by omega)) J<|cl J (rF (p:=p) (q:= -q) (by omega) (by omega)) J<|?_;exact rz J (by rw[<-Rat.sub_eq_add_neg];rfl)
def vr{q:Rat}{i:Nat}[h:BQ q i](hi:i<=400000000:=by decide):PF GB prog 127 [eF q] (eF q⁻¹):=by
 refine fn func127 J J ntmps127 J J (fun C=>?_);refine br (v1:=fun hc3=>by simp only[ah];exact⟨⟨hc3,hc3⟩,hc3⟩) J J J (fun hc3=>?_) (fun hc3=>?_)
 .
  refine cl J (sD (n:=decide (q.num<0)) (a:=q.den) (d:=q.num.natAbs) (by omega) (by omega)) J<|?_;exact rz J (by rw[ZX];rfl)
 .
  have q1:=my (nC hc3);have q2:=ou (nC hc3);have q3:=oH (nC hc3);have q4:=oC (nC hc3);have q5:=q.den_nz;refine br J J J (fun hc26=>?_) (fun hc26=>?_)
  .
   exact iA rfl (by obtain⟨e1,e2⟩:=O4 (q:=q) (by omega);exact rh (fun k=>k ⟨by omega,by omega⟩) (by omega) (by omega) rfl)
  .
   refine br J J J (fun hc39=>?_) (fun hc39=>?_)
   .
    exact iA J (by rw[kQ.1 (show q.num=0 by omega),Rat.inv_zero];exact uR)
   .
    exact iA rfl (by obtain⟨e1,e2⟩:=JT (q:=q) (by omega);exact rh (fun k=>k ⟨by omega,by omega⟩) (by omega) (by omega) rfl)
def zc{p q:Rat}{i j:Nat}[h:BQ p i][k:BQ q j](hi:i<=100000000:=by decide)(hj:j<=100000000:=by decide):PF GB prog 304 [eF p,eF q] (eF (p/q)):=by
 refine fn func304 J J ntmps304 J J (fun C=>?_);refine cl J (vr (q:=q) (by omega)) J<|cl J (rE (p:=p) (q:=q⁻¹) (by omega) (by omega)) J<|?_;exact rz J (by rw[Rat.div_def];rfl)
def KK{G:Gh}{q r:DV}{t:List DV}{vs:List Value}(h: ∀y,Is G r y->Is G q y)(hv:IsLs G (r::t) vs):IsLs G (q::t) vs:=by
 obtain⟨y,m,rfl,h1,h2⟩:=aO.1 hv;exact .cons (h _ h1) h2
def Dt{G:Gh}{a q r:DV}{t:List DV}{vs:List Value}(h: ∀y,Is G r y->Is G q y)(hv:IsLs G (a::r::t) vs):IsLs G (a::q::t) vs:=by
 obtain⟨y,m,rfl,h1,h2⟩:=aO.1 hv;exact .cons h1 (KK h h2)
def Uv{q:Rat}{i:Nat}[h:BQ q i](hi:i<=100000000:=by decide):PF GB prog 207 [eF q, .ag [vI 1,vI 1, .v (.pointer none)]] (eF (q*mkRat 1 2)):=
 (rE (p:=q) (q:=mkRat 1 2) hi).ofI fun G vs hv=>Dt (fun y hy=>rh (q:=mkRat 1 2) (fun k=>k ⟨by decide,by decide⟩) (by decide) (by decide) J G y hy) hv
def Dq{q:Rat}{i:Nat}[h:BQ q i](hi:i<=100000000:=by decide):PF GB prog 214 [eF q] (eF (q*mkRat 1 2)):=by
 refine fn func214 J J ntmps214 J J (fun C=>?_);refine cl J (Uv (q:=q) (by omega)) J<|?_;exact rz J J
def oG{p q:Rat}{i j:Nat}[h:BQ p i][k:BQ q j](hi:i<=100000000:=by decide)(hj:j<=100000000:=by decide):PF GB prog 232 [eF p,eF q] (vI (cp p q)):=by
 refine fn func232 J J ntmps232 J J (fun C=>?_);refine cs 8 J J J (fun hg8=>?_) (fun hg8=>?_)
 .
  refine cs 13 J J J (fun hg13=>?_) (fun hg13=>?_)
  .
   refine br J J J (fun hc19=>?_) (fun hc19=>?_)
   .
    have hp:=qA hg8;have hq:=qA hg13;have p1:=my hp;have p2:=ou hp;have p3:=oH hp;have p4:=oC hp;have p5:=p.den_nz;have q1:=my hq;have q2:=ou hq;have q3:=oH hq;have q4:=oC hq;have q5:=q.den_nz;have hl:=KB (a:=p) (b:=q) (by omega);have hr:=KB (a:=q) (b:=p) (by omega);unfold cp;refine br J J J (fun hc20=>?_) (fun hc20=>?_)
    .
     exact rz J (by rw[if_pos (hl.2 (by omega))];rfl)
    .
     refine br J J J (fun hc26=>?_) (fun hc26=>?_)
     .
      exact rz J (by rw[if_neg (fun e=>by have:=hl.1 e;omega),if_pos (hr.2 (by omega))];rfl)
     .
      exact rz J (by rw[if_neg (fun e=>by have:=hl.1 e;omega),if_neg (fun e=>by have:=hr.1 e;omega)];rfl)
   .
    refine cl J (sP (p:=p) (q:=q) (by omega) (by omega)) J<|cl J (lO (q:=p-q) (by omega)) J<|?_;exact rz J (by rw[AQ];rfl)
  .
   refine cl J (sP (p:=p) (q:=q) (by omega) (by omega)) J<|cl J (lO (q:=p-q) (by omega)) J<|?_;exact rz J (by rw[AQ];rfl)
 .
  refine cl J (sP (p:=p) (q:=q) (by omega) (by omega)) J<|cl J (lO (q:=p-q) (by omega)) J<|?_;exact rz J (by rw[AQ];rfl)
def vM{p q:Rat}{i j:Nat}[h:BQ p i][k:BQ q j](hi:i<=100000000:=by decide)(hj:j<=100000000:=by decide):PF GB prog 273 [eF p,eF q] (vB (decide (p=q))):=by
 refine fn func273 J J ntmps273 J J (fun C=>?_);refine cl J (oG (p:=p) (q:=q) hi hj) J<|?_;exact rz J (by show DV.v (.bool (decide _))= .v (.bool _);congr 2;exact decide_eq_decide.2 (vl p q))
def Wn{p q:Rat}{i j:Nat}[h:BQ p i][k:BQ q j](hi:i<=100000000:=by decide)(hj:j<=100000000:=by decide):PF GB prog 380 [eF p,eF q] (eF (if p<q then q else p)):=by
 refine fn func380 J J ntmps380 J J (fun C=>?_);refine cl J (oG (p:=q) (q:=p) hj hi) J<|?_;refine br J J J (fun hc8=>?_) (fun hc8=>?_)
 .
  exact rz J (by rw[if_pos ((Ih q p).1 hc8)];rfl)
 .
  exact rz J (by rw[if_neg (fun e=>hc8 ((Ih q p).2 e))];rfl)
def Ph{p q:Rat}{i j:Nat}[h:BQ p i][k:BQ q j](hi:i<=100000000:=by decide)(hj:j<=100000000:=by decide):PF GB prog 288 [eF p,eF q] (eF (if q<p then q else p)):=by
 refine fn func288 J J ntmps288 J J (fun C=>?_);refine cl J (oG (p:=q) (q:=p) hj hi) J<|?_;refine br J J J (fun hc8=>?_) (fun hc8=>?_)
 .
  exact rz J (by rw[if_pos ((Lz q p).1 hc8)];rfl)
 .
  exact rz J (by rw[if_neg (fun e=>hc8 ((Lz q p).2 e))];rfl)
def kC{p q:Rat}{i j:Nat}[h:BQ p i][k:BQ q j](hi:i<=100000000:=by decide)(hj:j<=100000000:=by decide):PF GB prog 272 [eF p,eF q] (eF (rgcd p q)):=by
 refine fn (fu:=⟨8⟩) func272 J J ntmps272 J J (fun C=>?_);refine mg (X:=Unit) (fun _=>[(2, .ov 2 0),(3, .ov 3 0),(4, .ov 4 0)]) (fun _=>[(2,some (.o 139 [.d (vI (dt p)), .d (vI (du p)), .d (dl p)] true)),(3,some (.o 139 [.d (vI (dt q)), .d (vI (du q)), .d (dl q)] true)),(4,some (.o 139 [.d (.v (.int .i64 0)), .d (.v (.int .i64 0)), .d (.v (.pointer none))] true))]) (fun _=>True) [2,3,4] [2,3,4] rfl ?_ (fun _=>J) (fun _ _=>?_)
 .
  refine gx J<|?_;refine cs 10 J J J (fun hg10=>?_) (fun hg10=>?_)
  .
   refine cs 15 J J J (fun hg15=>?_) (fun hg15=>?_)
   .
    have hp:=qA hg10;have hq:=qA hg15;have p1:=my hp;have p2:=ou hp;have p3:=oH hp;have p4:=oC hp;have p5:=p.den_nz;have q1:=my hq;have q2:=ou hq;have q3:=oH hq;have q4:=oC hq;have q5:=q.den_nz;refine cs 20 J J J (fun hg20=>?_) (fun hg20=>?_)
    .
     refine br (fu1:=⟨4⟩) J J J (fun hc24=>?_) (fun hc24=>?_)
     .
      have hg:=V2 p3 q3;refine aA 26 (.d (vI p.num)) J (by rw[p1]) ?_;refine gx J<|cl (fu:=⟨2⟩) J (xM (m:=p.num) (by omega)) J<|?_;refine aA 29 (.d (vI q.num)) J (by rw[q1]) ?_;refine gx J<|cl J (xM (m:=q.num) (by omega)) J<|cl (hv:=by simp only[ah];exact⟨by omega,by kernel_rfl⟩) J (Lh (a:=p.num.natAbs) (b:=q.num.natAbs) (by omega) (by omega)) J<|?_;exact iA J (by rw[XZ (p:=p) (q:=q) (by omega) (by omega)];exact Mf (by rw[fL];exact hg))
     .
      exact at_ () trivial
    .
     exact at_ () trivial
   .
    exact at_ () trivial
  .
   exact at_ () trivial
 .
  refine cl J (pH (q:=p) (by omega)) J<|cl J (pH (q:=q) (by omega)) J<|cl J (vH (a:=p.den) (b:=q.den) (by omega) (by omega)) J<|?_;refine cl J (rB (q:=p) (by omega)) J<|cl J (pH (q:=q) (by omega)) J<|cl J (vH (a:=p.num.natAbs) (b:=q.den) (by omega) (by omega)) J<|?_;refine cl J (rB (q:=q) (by omega)) J<|cl J (pH (q:=p) (by omega)) J<|cl J (vH (a:=q.num.natAbs) (b:=p.den) (by omega) (by omega)) J<|?_;refine cl J (Ef (a:=p.num.natAbs*q.den) (b:=q.num.natAbs*p.den) (i:=i+j) (j:=j+i) (by omega) (by omega)) J<|cl J (sD (n:=false) (a:=Nat.gcd (p.num.natAbs*q.den) (q.num.natAbs*p.den)) (d:=p.den*q.den) (i:=i+j+(j+i)) (j:=i+j) (by omega) (by omega)) J<|?_;exact rz J J
end Go.Sx
end
section
namespace Go.Sx
open Go
def crossI(l m:ab):Int:=l.a*m.b-m.a*l.b
def meetX(l m:ab):Int:=l.b*m.c-m.b*l.c
def meetY(l m:ab):Int:=m.a*l.c-l.a*m.c
def io(l m:ab):aa:=if crossI l m=0 then⟨0,0⟩ else⟨(meetX l m:Rat)/(crossI l m:Rat),(meetY l m:Rat)/(crossI l m:Rat)⟩
def eH(l:ab)(p:aa):Rat:=p.dot l.dir/l.dir.dot l.dir
def FT(l:ab):l.dir.dot l.dir=l.nor.dot l.nor:=by
 simp only[ab.dir,ab.nor,aa.dot];grind
def xu{l:ab}(h:l.Ne):0<l.dir.dot l.dir:=by rw[FT];exact n4 h
def OK(l m:ab):((crossI l m:Int):Rat)=(l.a:Rat)*m.b-(m.a:Rat)*l.b:=by
 unfold crossI;rw[lU,cR,cR]
def XA(l m:ab):((meetX l m:Int):Rat)=(l.b:Rat)*m.c-(m.b:Rat)*l.c:=by
 unfold meetX;rw[lU,cR,cR]
def Xu(l m:ab):((meetY l m:Int):Rat)=(m.a:Rat)*l.c-(l.a:Rat)*m.c:=by
 unfold meetY;rw[lU,cR,cR]
def zt(l m:ab):l.cutK m= -((crossI l m:Int):Rat):=by
 rw[OK];simp only[ab.cutK,ab.nor,ab.dir,aa.dot];grind
def Jc(l m:ab):m.dir.cross l.dir=l.cutK m:=by
 simp only[ab.cutK,ab.nor,ab.dir,aa.dot,aa.cross];grind
def Uj{l:ab}:(⟨-((l.c:Rat)/l.dir.dot l.dir)*(l.a:Rat), -((l.c:Rat)/l.dir.dot l.dir)*(l.b:Rat)⟩:aa)=l.base:=by
 unfold ab.base;rw[FT];simp only[ab.nor,aa.scale,aa.mk.injEq];constructor<;>grind
def sH(l:ab)(t:Rat):cd l.base l.dir t=l.at t:=by
 simp only[cd,ab.at,aa.add,aa.scale,aa.mk.injEq];constructor<;>grind
def wW{l m:ab}(hl:l.Ne)(h:crossI l m≠0):eH l (io l m)= -(l.cutC m/l.cutK m):=by
 have hd:((crossI l m:Int):Rat)≠0:=fun e=>h (dV.1 e);have hn:=xu hl;obtain⟨q,q1,q2⟩:=xJ hl;rw[zt];unfold eH io ab.cutC;rw[if_neg h,q2,me,XA,Xu];have hc:=OK l m;rw[FT] at hn⊢;simp only[ab.dir,ab.nor,aa.dot] at hn q1⊢;generalize ((crossI l m:Int):Rat)=d at*;generalize (l.a:Rat)=a at*;generalize (l.b:Rat)=b at*;generalize (l.c:Rat)=c at*;generalize (m.a:Rat)=x at*;generalize (m.b:Rat)=y at*;generalize (m.c:Rat)=z at*;have hn':a*a+b*b≠0:=by grind
 have e:((b*z-y*c)/d*b+(x*c-a*z)/d* -a)=((b*z-y*c)*b-(x*c-a*z)*a)/d:=by grind
 rw[e];have k1:(b*z-y*c)*b-(x*c-a*z)*a=(a*a+b*b)*(x*(a*q)+y*(b*q)+z):=by grind
 rw[k1];grind
def TW{l m:ab}(hl:l.Ne)(h:crossI l m≠0):eH l (io l m)*((crossI l m*(l.a*l.a+l.b*l.b):Int):Rat)=((meetX l m*l.b-meetY l m*l.a:Int):Rat):=by
 have hd:((crossI l m:Int):Rat)≠0:=fun e=>h (dV.1 e);have hn:=xu hl;unfold eH io;rw[if_neg h];simp only[cR,lU,oS];simp only[ab.dir,aa.dot] at hn⊢;generalize ((crossI l m:Int):Rat)=d at*;generalize ((meetX l m:Int):Rat)=x at*;generalize ((meetY l m:Int):Rat)=y at*;generalize (l.a:Rat)=a at*;generalize (l.b:Rat)=b at*;have hn':b*b+ -a* -a≠0:=by grind
 grind
def YY(l m:ab)(t:List ab)(v:ao):iG l (m::t) v=if m=l then iG l t v else if l.cutB v m then iG l t (l.cutV v m) else none:=rfl
def tX(v:ao)(t:Rat):ao:=if v.nl=true\/0<cp t v.lo then⟨t,v.hi,false,v.nh⟩ else v
def sE(v:ao)(t:Rat):ao:=if v.nh=true\/cp t v.hi<0 then⟨v.lo,t,v.nl,false⟩ else v
structure i8 (v:ao):Prop where
 lo:v.nl=true->v.lo=0
 hi:v.nh=true->v.hi=0
def A6(a b:Rat):0<cp a b↔b<a:=by
 unfold cp;split
 ·constructor
  ·intro h;exact absurd h (by decide)
  ·intro h;grind
 ·split
  ·exact⟨fun _=>by assumption,fun _=>by decide⟩
  ·constructor
   ·intro h;exact absurd h (by decide)
   ·intro h;exact absurd h (by assumption)
def CA(a b:Rat):cp a b<0↔a<b:=by
 unfold cp;split
 ·exact⟨fun _=>by assumption,fun _=>by decide⟩
 ·split
  ·constructor
   ·intro h;exact absurd h (by decide)
   ·intro h;grind
  ·constructor
   ·intro h;exact absurd h (by decide)
   ·intro h;exact absurd h (by assumption)
def MJ{v:ao}(h:i8 v)(t:Rat):tX v t=v.meet ⟨t,0,false,true⟩:=by
 obtain⟨lo,hi,nl,nh⟩:=v;obtain⟨h1,h2⟩:=h;unfold tX ao.meet;simp only[A6] at*
 cases nl<;>cases nh<;>simp at* <;>(try (split<;>split<;>simp_all<;>grind))<;>grind
def HZ{v:ao}(h:i8 v)(t:Rat):sE v t=v.meet ⟨0,t,true,false⟩:=by
 obtain⟨lo,hi,nl,nh⟩:=v;obtain⟨h1,h2⟩:=h;unfold sE ao.meet;simp only[CA] at*
 cases nl<;>cases nh<;>simp at* <;>(try (split<;>split<;>simp_all<;>grind))<;>grind
def i8.all:i8 ao.all:=⟨fun _=>J,fun _=>J⟩
def i8.lo'{v:ao}(h:i8 v)(t:Rat):i8 (tX v t):=by
 obtain⟨lo,hi,nl,nh⟩:=v;unfold tX;split
 ·exact⟨fun h=>by simp at h,h.hi⟩
 ·exact h
def i8.hi'{v:ao}(h:i8 v)(t:Rat):i8 (sE v t):=by
 obtain⟨lo,hi,nl,nh⟩:=v;unfold sE;split
 ·exact⟨h.lo,fun h=>by simp at h⟩
 ·exact h
def Wv{l m:ab}{v:ao}(h:crossI l m=0):l.cutV v m=v/\(l.cutB v m=true↔0<m.value l.base):=by
 have hk:l.cutK m=0:=by rw[zt,h];rfl
 exact wF v hk
def S1{l m:ab}{v:ao}(hl:l.Ne)(hz:i8 v)(h:0<m.dir.cross l.dir):crossI l m≠0/\l.cutV v m=tX v (eH l (io l m))/\l.cutB v m=!(tX v (eH l (io l m))).empty:=by
 rw[Jc] at h;have hc:crossI l m≠0:=fun e=>by rw[zt,e] at h;exact absurd h (by decide)
 obtain⟨h1,h2⟩:=vN v h;refine⟨hc,?_,?_⟩
 ·rw[MJ hz,wW hl hc,h1]
 ·rw[MJ hz,wW hl hc,<-h1]
  rw[<-Ab] at h2
  cases hb:l.cutB v m<;>cases he:(l.cutV v m).empty<;>simp_all
def QJ{l m:ab}{v:ao}(hl:l.Ne)(hz:i8 v)(h0:crossI l m≠0)(h: ¬0<m.dir.cross l.dir):l.cutV v m=sE v (eH l (io l m))/\l.cutB v m=!(sE v (eH l (io l m))).empty:=by
 rw[Jc] at h;have hk:l.cutK m≠0:=fun e=>by
  rw[zt] at e;have:((crossI l m:Int):Rat)=0:=by grind
  exact h0 (dV.1 this)
 obtain⟨h1,h2⟩:=xo (l:=l) (m:=m) v (by grind);refine⟨?_,?_⟩
 ·rw[HZ hz,wW hl h0,h1]
 ·rw[HZ hz,wW hl h0,<-h1]
  rw[<-Ab] at h2
  cases hb:l.cutB v m<;>cases he:(l.cutV v m).empty<;>simp_all
end Go.Sx
end
section
namespace Go.Sx
open Go Go.Proofs Tryz
variable {GB:Gh}

def cT:Tr->List DV
 | .leaf b=>[.v (.bool true), .v (.bool b), .v (.bool false), .sl [], .v (.bool false), .sl [], .v (.bool false), .sl [], .v (.pointer none), .v (.pointer none)]
 | .node l x y=>[.v (.bool false), .v (.bool false), .v (.bool (decide (l.a<0))),dN l.a.natAbs, .v (.bool (decide (l.b<0))),dN l.b.natAbs, .v (.bool (decide (l.c<0))),dN l.c.natAbs, .pt (cT x), .pt (cT y)]
def eT(t:Tr):DV:= .pt (cT t)
def eN(n:NQ):DV:= .ag [.v (.bool (decide (n.l.a<0))),dN n.l.a.natAbs, .v (.bool (decide (n.l.b<0))),dN n.l.b.natAbs, .v (.bool (decide (n.l.c<0))),dN n.l.c.natAbs, .v (.int .i64 n.a), .v (.int .i64 n.b)]
def eA(t:Tr):DV:= .ag [.v (.int .i64 (t.num 0)), .sl ((t.wr 0).map eN)]
def xq{G:Gh}{k:Nat}{z:IV}{m:Int}(h:lC k G z m):Is G (.v (.bool (decide (m<0)))) (.bool z.neg)/\Is G (dN m.natAbs) (.slice z.a.a z.a.n z.a.c):=
 ⟨aF.2 (by rw[h.neg]),(Hn h.abs.lt).2 ⟨_,J,h.abs⟩⟩
def Gj{G:Gh}{k:Nat}{m:Int}{u v:Value}(hm:m.natAbs<2^k)(h1:Is G (.v (.bool (decide (m<0)))) u)(h2:Is G (dN m.natAbs) v): ∃z:IV,u= .bool z.neg/\v= .slice z.a.a z.a.n z.a.c/\lC k G z m:=by
 obtain⟨x,rfl,hx⟩:=(Hn hm).1 h2;exact⟨⟨decide (m<0),x⟩,aF.1 h1,J,J,hx⟩
structure BL (l:ab) (k:Nat):Prop where
 a:l.a.natAbs<2^k
 b:l.b.natAbs<2^k
 c:l.c.natAbs<2^k
def VF{G:Gh}{k:Nat}{l:ab}{v:Value}(hl:BL l k)(h:Is G (eL l) v): ∃a b c:IV,v= .agg ⟨[.bool a.neg, .slice a.a.a a.a.n a.a.c, .bool b.neg, .slice b.a.a b.a.n b.a.c, .bool c.neg, .slice c.a.a c.a.n c.a.c]⟩/\lC k G a l.a/\lC k G b l.b/\lC k G c l.c:=by
 obtain⟨m,rfl,g⟩:=cO.1 h;clear h;obtain⟨v1,m,rfl,h1,h⟩:=aO.1 g;obtain⟨v2,m,rfl,h2,h⟩:=aO.1 h;obtain⟨v3,m,rfl,h3,h⟩:=aO.1 h;obtain⟨v4,m,rfl,h4,h⟩:=aO.1 h;obtain⟨v5,m,rfl,h5,h⟩:=aO.1 h;obtain⟨v6,m,rfl,h6,h⟩:=aO.1 h;rw[cB] at h;subst h;obtain⟨a,rfl,rfl,ha⟩:=Gj hl.a h1 h2;obtain⟨b,rfl,rfl,hb⟩:=Gj hl.b h3 h4;obtain⟨c,rfl,rfl,hc⟩:=Gj hl.c h5 h6;exact⟨a,b,c,J,ha,hb,hc⟩
def ZK{G:Gh}{k:Nat}{n:NQ}{z:ND}(h:qp k G z n):Is G (eN n) z.val:=by
 refine cO.2 ⟨_,J, .cons (xq h.a).1 (.cons (xq h.a).2 (.cons (xq h.b).1 (.cons (xq h.b).2 (.cons (xq h.c).1 (.cons (xq h.c).2 (.cons (aF.2 ?_) (.cons (aF.2 ?_) .nil)))))))⟩
 ·rw[h.l]
 ·rw[h.r]
def Jt{G:Gh}{k:Nat}: ∀{ns:List NQ} {zs:List ND},f4 (qp k G) zs ns->IsLs G (ns.map eN) (zs.map ND.val)
 |_,_, .nil=> .nil
 |_,_, .cons h t=> .cons (ZK h) (Jt t)
def Vr{G:Gh}{k:Nat}{t:Tr}{x:SV}(h:Q8 k G x (t.wr 0)):Is G (eA t) (.agg ⟨[.int .i64 (t.num 0), .slice x.a x.n x.c]⟩):=by
 obtain⟨zs,h1,h2⟩:=h;exact cO.2 ⟨_,J, .cons (aF.2 J) (.cons (gG.2 ⟨8,x,_,J,h1,Jt h2⟩) .nil)⟩
def Tr.all_wr{p:ab->Prop}: ∀{t:Tr} (n:Nat),t.all p-> ∀x∈t.wr n,p x.l
 | .leaf b,n,_,x,hx=>by cases hx
 | .node l u v,n,⟨h1,h2,h3⟩,x,hx=>by
  simp only[Tr.wr,cW,aU,bV] at hx;rcases hx with rfl|hx|hx
  ·exact h1
  ·exact u.all_wr _ h2 x hx
  ·exact v.all_wr _ h3 x hx
structure LS (l:ab):Prop where
 ok:l.ok
 a:l.a.natAbs<=4
 b:l.b.natAbs<=4
 c:l.c.natAbs<=40000
def ab.ext'{l m:ab}(h1:l.a=m.a)(h2:l.b=m.b)(h3:l.c=m.c):l=m:=by cases l;cases m;simp_all
instance:DecidableEq NQ:=fun x y=>decidable_of_iff (x.l=y.l/\x.a=y.a/\x.b=y.b) (by
 cases x;cases y;simp)
class LB (l:ab):Prop where bl:BL l 96
instance LB.a (l:ab) [h:LB l]:BI l.a 96:=⟨h.bl.a⟩
instance LB.b (l:ab) [h:LB l]:BI l.b 96:=⟨h.bl.b⟩
instance LB.c (l:ab) [h:LB l]:BI l.c 96:=⟨h.bl.c⟩
class aG (p:aa) (k:outParam Nat):Prop where
 x:BQ p.x k
 y:BQ p.y k
instance aG.ix (p:aa) (k:Nat) [h:aG p k]:BQ p.x k:=h.x
instance aG.iy (p:aa) (k:Nat) [h:aG p k]:BQ p.y k:=h.y
instance aG.dir (l:ab) [LB l]:aG l.dir 97:=⟨inferInstanceAs (BQ (l.b:Rat) 97),inferInstanceAs (BQ (-(l.a:Rat)) 97)⟩
instance BQ.dot (p q:aa) (i j:Nat) [aG p i] [aG q j]:BQ (p.dot q) (i+j+(i+j)+1):=inferInstanceAs (BQ (p.x*q.x+p.y*q.y) _)
instance BQ.cross (p q:aa) (i j:Nat) [aG p i] [aG q j]:BQ (p.cross q) (i+j+(i+j)+1):=inferInstanceAs (BQ (p.x*q.y-p.y*q.x) _)
instance aG.mov (p q:aa) (c:Rat) (i j k:Nat) [aG p i] [aG q j] [BQ c k]:aG (cd p q c) (i+(k+j)+1):=⟨inferInstanceAs (BQ (p.x+c*q.x) _),inferInstanceAs (BQ (p.y+c*q.y) _)⟩
instance BQ.value (l:ab) (p:aa) (i:Nat) [LB l] [aG p i]:BQ (l.value p) (96+1+i+(96+1+i)+1+(96+1)+1):=inferInstanceAs (BQ ((l.a:Rat)*p.x+(l.b:Rat)*p.y+(l.c:Rat)) _)
def Yr{p q:aa}{i j:Nat}[hp:aG p i][hq:aG q j](hi:i<=200000:=by decide)(hj:j<=200000:=by decide):PF GB prog 99 [eP p,eP q] (eQ (p.cross q)):=by
 refine fn func99 J J ntmps99 J J (fun C=>?_);refine cl J (Bt (by omega) (by omega)) J<|cl J (Bt (by omega) (by omega)) J<|cl J (IE (by omega) (by omega)) J<|?_;exact rz J J
def Th{p q:aa}{c:Rat}{i j k:Nat}[hp:aG p i][hq:aG q j][hc:BQ c k](hi:i<=19000000:=by decide)(hj:j<=9000000:=by decide)(hk:k<=9000000:=by decide):PF GB prog 100 [eP p,eQ c,eP q] (eP (cd p q c)):=by
 refine fn func100 J J ntmps100 J J (fun C=>?_);refine cl J (Bt (by omega) (by omega)) J<|cl J (GJ (by omega) (by omega)) J<|cl J (Bt (by omega) (by omega)) J<|cl J (GJ (by omega) (by omega)) J<|?_;exact rz J J
instance aG.base (l:ab) [LB l]:aG l.base 900:=by
 rw[<-Uj];constructor
 ·exact BQ.mono (inferInstance:BQ (-((l.c:Rat)/l.dir.dot l.dir)*(l.a:Rat)) _) (by decide)
 ·exact BQ.mono (inferInstance:BQ (-((l.c:Rat)/l.dir.dot l.dir)*(l.b:Rat)) _) (by decide)
instance BI.crossI (l m:ab) [LB l] [LB m]:BI (crossI l m) 385:=inferInstanceAs (BI (l.a*m.b-m.a*l.b) 385)
instance BI.meetX (l m:ab) [LB l] [LB m]:BI (meetX l m) 385:=inferInstanceAs (BI (l.b*m.c-m.b*l.c) 385)
instance BI.meetY (l m:ab) [LB l] [LB m]:BI (meetY l m) 385:=inferInstanceAs (BI (m.a*l.c-l.a*m.c) 385)
instance aG.imeet (l m:ab) [LB l] [LB m]:aG (io l m) 772:=by
 unfold io;split
 ·exact⟨BQ.mono (k:=1) ⟨by decide,by decide⟩ (by decide),BQ.mono (k:=1) ⟨by decide,by decide⟩ (by decide)⟩
 ·exact⟨inferInstanceAs (BQ ((meetX l m:Rat)/(crossI l m:Rat)) 772),inferInstanceAs (BQ ((meetY l m:Rat)/(crossI l m:Rat)) 772)⟩
def Qo(l m:ab):Int:=if(l.a-m.a).sign≠0 then(l.a-m.a).sign else if(l.b-m.b).sign≠0 then(l.b-m.b).sign else(l.c-m.c).sign
def RJ(z:Int): -1<=z.sign/\z.sign<=1:=by
 rcases lK z 0 with h|h|h
 ·rw[dY h];omega
 ·rw[h];decide
 ·rw[dS h];omega
instance BQ.i1:BQ (((1:Int):Rat)) 2:=⟨by decide,by decide⟩
def eV(v:ao):DV:= .ag [.v (.bool (decide (v.lo.num<0))),dN v.lo.num.natAbs,dD v.lo.den, .v (.bool (decide (v.hi.num<0))),dN v.hi.num.natAbs,dD v.hi.den, .v (.bool v.nl), .v (.bool v.nh)]
def Ah(v:ao):Rat:=if v.nl=true/\v.nh=true then 0 else if v.nl=true then v.hi-1 else if v.nh=true then v.lo+1 else(v.lo+v.hi)/2
theorem BQ.of_fracI{q:Rat}{n D:Int}{i:Nat}(hd:0<D.natAbs)(h:q*((D.natAbs:Nat):Rat)=(n:Rat))(hn:BI n i)(hD:BI D i):BQ q i:=BQ.of_frac hd h hn.h hD.h
theorem Cd{m:Int}{i j:Nat}(h:BI m i)(hij:i<=j):BI m j:=⟨cS h.h (bZ (by decide) hij)⟩
theorem Ji{l m:ab}[LB l][LB m](hn:l.Ne)(h:crossI l m≠0):BQ (eH l (io l m)) 1200:=by
 have e:=TW hn h;have hA:BI (crossI l m*(l.a*l.a+l.b*l.b)) _:=inferInstance;have hB:BI (meetX l m*l.b-meetY l m*l.a) _:=inferInstance;have hne:crossI l m*(l.a*l.a+l.b*l.b)≠0:=by
  intro q;rcases oR.1 q with q|q
  ·exact h q
  ·have h1:=xu hn
   simp only[ab.dir,aa.dot] at h1;have h2:((l.a*l.a+l.b*l.b:Int):Rat)=((0:Int):Rat):=by rw[q]
   rw[oS,cR,cR] at h2;have h3:((0:Int):Rat)=0:=J;rw[h3] at h2;grind
 have hA':=Cd (j:=1200) hA (by decide);have hB':=Cd (j:=1200) hB (by decide);generalize crossI l m*(l.a*l.a+l.b*l.b)=D at*;generalize meetX l m*l.b-meetY l m*l.a=M at*;by_cases hD:0<D
 ·refine BQ.of_fracI (n:=M) (D:=D) (by omega) ?_ hB' hA'
  rw[<-e];congr 1;have:((D.natAbs:Nat):Int)=D:=by omega
  rw[<-this];rfl
 ·refine BQ.of_fracI (n:= -M) (D:=D) (by omega) ?_ (BI.neg M 1200 (h:=hB')) hA'
  rw[oL,<-e];have:((D.natAbs:Nat):Rat)= -(D:Rat):=by
   have h1:((D.natAbs:Nat):Int)= -D:=by omega
   rw[<-oL,<-h1];rfl
  rw[this];grind
def pn(l:ab):List ab->ao->ao×Bool
 |[],v=>(v,true)
 |m::t,v=>if m=l then pn l t v else if l.cutB v m=true then pn l t (l.cutV v m) else(l.cutV v m,false)
def FL{l:ab}: ∀{c:List ab} {v:ao},(pn l c v).2=(iG l c v).isSome
 |[],v=>rfl
 |m::t,v=>by
  rw[pn,YY];split
  ·exact FL
  ·split
   ·exact FL
   ·rfl
structure Stp (l:ab) (c:List ab) (k:Nat) (v:ao):Prop where
 le:k<=c.length
 p:iG l (c.drop k) v=iG l c ao.all
 e:pn l (c.drop k) v=pn l c ao.all
 z:i8 v
 lo:BQ v.lo 1200
 hi:BQ v.hi 1200
def vK(l m:ab)(v:ao):ao:=if 0<(m.dir.cross l.dir).num.sign then tX v (eH l (io l m)) else sE v (eH l (io l m))
def atN{l m:ab}{v:ao}[LB l][LB m](hn:l.Ne)(hz:i8 v)(hlo:BQ v.lo 1200)(hhi:BQ v.hi 1200)(h0:crossI l m≠0):l.cutV v m=vK l m v/\l.cutB v m=!(vK l m v).empty/\i8 (vK l m v)/\BQ (vK l m v).lo 1200/\BQ (vK l m v).hi 1200:=by
 have hb:=Ji (l:=l) (m:=m) hn h0;unfold vK;split
 ·rename_i h
  obtain⟨_,h1,h2⟩:=S1 hn hz ((mD _).1 h);refine⟨h1,h2,hz.lo' _,?_⟩;unfold tX;split
  ·exact⟨hb,hhi⟩
  ·exact⟨hlo,hhi⟩
 ·rename_i h
  obtain⟨h1,h2⟩:=QJ hn hz h0 (fun e=>h ((mD _).2 e));refine⟨h1,h2,hz.hi' _,?_⟩;unfold sE;split
  ·exact⟨hlo,hb⟩
  ·exact⟨hlo,hhi⟩
def d8(l:ab):DV:= .ag [vI (dt (l.a:Rat)),vI (du (l.a:Rat)),dl (l.a:Rat),vI (dt (l.b:Rat)),vI (du (l.b:Rat)),dl (l.b:Rat),vI (dt (l.c:Rat)),vI (du (l.c:Rat)),dl (l.c:Rat)]
def eZ(p:aa):DV:= .ag [vI (dt p.x),vI (du p.x),dl p.x,vI (dt p.y),vI (du p.y),dl p.y]
def eW(v:ao):DV:= .ag [vI (dt v.lo),vI (du v.lo),dl v.lo,vI (dt v.hi),vI (du v.hi),dl v.hi, .v (.bool v.nl), .v (.bool v.nh)]
def BE{G:Gh}{t:List DV}{vs:List Value}(h:IsLs G (vI 0::vI 0:: .v (.pointer none)::t) vs):IsLs G (vI (dt 0)::vI (du 0)::dl 0::t) vs:=by
 obtain⟨y1,l1,rfl,k1,g1⟩:=aO.1 h;obtain⟨y2,l2,rfl,k2,g2⟩:=aO.1 g1;obtain⟨y3,l3,rfl,k3,g3⟩:=aO.1 g2;have e:decide (et 0)=false:=decide_eq_false fun h=>D7 h J;exact .cons k1 (.cons k2 (.cons (rA.2 (.inl ⟨e,aF.1 k3⟩)) g3))
def Fv{G:Gh}(a:List DV){t:List DV}{vs:List Value}(h:IsLs G (a++vI 0::vI 0:: .v (.pointer none)::t) vs):IsLs G (a++vI (dt 0)::vI (du 0)::dl 0::t) vs:=by
 obtain⟨x,y,rfl,h1,h2⟩:=h.unapp;exact h1.app (BE h2)
def aDj(G:Gh)(y:Value)(k:Is G (.ag [vI 0,vI 0, .v (.pointer none),vI 0,vI 0, .v (.pointer none), .v (.bool true), .v (.bool true)]) y):Is G (eW ao.all) y:=by
 obtain⟨l,rfl,g⟩:=cO.1 k;exact cO.2 ⟨l,J,BE (Fv [vI 0,vI 0, .v (.pointer none)] g)⟩
def ow:List Int->Int
 |[]=>0
 |a::t=>if a≠0 then a else ow t
theorem aG.nor(l:ab)[LB l]:aG l.nor 97:=⟨inferInstanceAs (BQ (l.a:Rat) 97),inferInstanceAs (BQ (l.b:Rat) 97)⟩
attribute [instance] aG.nor
instance aG.scale (p:aa) (c:Rat) (i k:Nat) [aG p i] [BQ c k]:aG (p.scale c) (i+k):=⟨inferInstanceAs (BQ (p.x*c) _),inferInstanceAs (BQ (p.y*c) _)⟩
instance aG.add (p q:aa) (i j:Nat) [aG p i] [aG q j]:aG (p.add q) (i+j+1):=⟨inferInstanceAs (BQ (p.x+q.x) _),inferInstanceAs (BQ (p.y+q.y) _)⟩
instance LB.revA (l:ab) [h:LB l]:LB l.rev:=⟨⟨by rw[show l.rev.a= -l.a from J,jU];exact h.bl.a,by rw[show l.rev.b= -l.b from J,jU];exact h.bl.b,by rw[show l.rev.c= -l.c from J,jU];exact h.bl.c⟩⟩
def Sn:PF GB prog 351 [] (eW ao.all):=by
 refine fn func351 J J ntmps351 J J (fun C=>?_);exact iA J aDj
def vY{l:ab}:PF GB prog 321 [d8 l] (eZ l.nor):=by
 refine fn func321 J J ntmps321 J J (fun C=>?_);exact rz J J
def ul{l:ab}[hl:LB l]:PF GB prog 258 [d8 l] (eZ l.dir):=by
 refine fn func258 J J ntmps258 J J (fun C=>?_);refine cl J (lw (q:=(l.a:Rat))) J<|?_;exact rz J J
def qo{p q:aa}{i j:Nat}[hp:aG p i][hq:aG q j](hi:i<=40000000:=by decide)(hj:j<=40000000:=by decide):PF GB prog 244 [eZ p,eZ q] (eF (p.dot q)):=by
 refine fn func244 J J ntmps244 J J (fun C=>?_);refine cl J (rE (p:=p.x) (q:=q.x) (by omega) (by omega)) J<|cl J (rE (p:=p.y) (q:=q.y) (by omega) (by omega)) J<|cl J (rF (p:=p.x*q.x) (q:=p.y*q.y) (by omega) (by omega)) J<|?_;exact rz J J
def Jr{p q:aa}{i j:Nat}[hp:aG p i][hq:aG q j](hi:i<=40000000:=by decide)(hj:j<=40000000:=by decide):PF GB prog 298 [eZ p,eZ q] (eF (p.cross q)):=by
 refine fn func298 J J ntmps298 J J (fun C=>?_);refine cl J (rE (p:=p.x) (q:=q.y) (by omega) (by omega)) J<|cl J (rE (p:=p.y) (q:=q.x) (by omega) (by omega)) J<|cl J (sP (p:=p.x*q.y) (q:=p.y*q.x) (by omega) (by omega)) J<|?_;exact rz J J
def BU{p:aa}{c:Rat}{i j:Nat}[hp:aG p i][hc:BQ c j](hi:i<=40000000:=by decide)(hj:j<=40000000:=by decide):PF GB prog 126 [eZ p,eF c] (eZ (p.scale c)):=by
 refine fn func126 J J ntmps126 J J (fun C=>?_);refine cl J (rE (p:=p.x) (q:=c) (by omega) (by omega)) J<|cl J (rE (p:=p.y) (q:=c) (by omega) (by omega)) J<|?_;exact rz J J
def CO{p q:aa}{i j:Nat}[hp:aG p i][hq:aG q j](hi:i<=40000000:=by decide)(hj:j<=40000000:=by decide):PF GB prog 206 [eZ p,eZ q] (eZ (p.add q)):=by
 refine fn func206 J J ntmps206 J J (fun C=>?_);refine cl J (rF (by omega) (by omega)) J<|cl J (rF (by omega) (by omega)) J<|?_;exact rz J J
def N6{l:ab}[hl:LB l]:PF GB prog 352 [d8 l] (eZ l.base):=by
 refine fn func352 J J ntmps352 J J (fun C=>?_);refine cl J vY J<|cl J (lw (q:=(l.c:Rat))) J<|cl J (qo (p:=l.nor) (q:=l.nor)) J<|cl J (zc (p:= -(l.c:Rat)) (q:=l.nor.dot l.nor)) J<|?_;refine cl J (BU (p:=l.nor)) J<|?_;exact rz J J
def Dr{l:ab}{p:aa}{i:Nat}[hl:LB l][hp:aG p i](hi:i<=10000000:=by decide):PF GB prog 347 [d8 l,eZ p] (eF (l.value p)):=by
 refine fn func347 J J ntmps347 J J (fun C=>?_);refine cl J (vY (l:=l)) J<|cl J (qo (p:=l.nor) (q:=p) (by omega) (by omega)) J<|cl J (rF (p:=l.nor.dot p) (q:=(l.c:Rat)) (by omega) (by omega)) J<|?_;exact rz J J
def ux{l:ab}{p:aa}{i:Nat}[hl:LB l][hp:aG p i](hi:i<=10000000:=by decide):PF GB prog 259 [d8 l,eZ p] (vI (l.value p).num.sign):=by
 refine fn func259 J J ntmps259 J J (fun C=>?_);refine cl J (Dr (l:=l) (p:=p) hi) J<|cl J (lO (q:=l.value p) (by omega)) J<|?_;exact rz J J
def Bp{l:ab}{t:Rat}{i:Nat}[hl:LB l][ht:BQ t i](hi:i<=10000000:=by decide):PF GB prog 345 [d8 l,eF t] (eZ (l.at t)):=by
 refine fn func345 J J ntmps345 J J (fun C=>?_);refine cl J (N6 (l:=l)) J<|cl J (ul (l:=l)) J<|cl J (BU (p:=l.dir) (c:=t) (by omega) (by omega)) J<|cl J (CO (p:=l.base) (q:=l.dir.scale t) (by omega) (by omega)) J<|?_;exact rz J J
def QN{v:ao}{i j:Nat}[h1:BQ v.lo i][h2:BQ v.hi j](hi:i<=40000000:=by decide)(hj:j<=40000000:=by decide):PF GB prog 381 [eW v] (vB v.empty):=by
 refine fn func381 J J ntmps381 J J (fun C=>?_);refine oz 6 J J J (fun hg6=>?_) (fun hg6=>?_)
 .
  refine oz 11 J J J (fun hg11=>?_) (fun hg11=>?_)
  .
   refine cl J (oG (p:=v.lo) (q:=v.hi) (by omega) (by omega)) J<|?_;exact rz J (by unfold ao.empty;simp_all [vB,iw])
  .
   exact rz J (by unfold ao.empty;simp_all [vB,iw])
 .
  exact rz J (by unfold ao.empty;simp_all [vB,iw])
instance ao.meet_lo (v w:ao) (i j:Nat) [h1:BQ v.lo i] [h3:BQ w.lo j]:BQ (v.meet w).lo (i+j):=by
 have a:=h1.mono (pR i j);have b:=h3.mono (Nat.le_add_left j i);unfold ao.meet;dsimp only;(repeat' split)<;>assumption
instance ao.meet_hi (v w:ao) (i j:Nat) [h1:BQ v.hi i] [h3:BQ w.hi j]:BQ (v.meet w).hi (i+j):=by
 have a:=h1.mono (pR i j);have b:=h3.mono (Nat.le_add_left j i);unfold ao.meet;dsimp only;(repeat' split)<;>assumption
def Ky{v w:ao}{i j:Nat}[h1:BQ v.lo i][h2:BQ v.hi i][h3:BQ w.lo j][h4:BQ w.hi j](hi:i<=10000000:=by decide)(hj:j<=10000000:=by decide):PF GB prog 353 [eW v,eW w] (.tp [eW (v.meet w),vB (!(v.meet w).empty)]):=by
 refine fn (fu:=⟨16⟩) func353 J J ntmps353 J J (fun C=>?_);refine mg (fu:=⟨1⟩) (X:=Unit) (fun _=>[(6, .ov 6 0)]) (fun _=>[(6,some (.o 220 [.d (vI (dt (v.meet w).lo)), .d (vI (du (v.meet w).lo)), .d (dl (v.meet w).lo), .d (vI (dt v.hi)), .d (vI (du v.hi)), .d (dl v.hi), .d (.v (.bool (v.nl&&w.nl))), .d (.v (.bool (v.nh)))] true))]) (fun _=>True) [6] [6] rfl ?_ (fun _=>J) (fun _ _=>?_)
 .
  refine gx J<|?_;refine bb (v1:=fun hc8=>by simp only[ah];kernel_rfl) J J J (fun hc8=>?_) (fun hc8=>?_)
  .
   have em:(v.meet w).lo=w.lo:=by unfold ao.meet;simp_all
   have eb:(v.nl&&w.nl)=w.nl:=by simp_all
   exact at_ () trivial (hO:=⟨by rw[em,eb]<;>rfl,by repeat (first|exact trivial|refine And.intro J ?_)⟩)
  .
   refine bb J J J (fun hc17=>?_) (fun hc17=>?_)
   .
    refine cl J (Wn (p:=v.lo) (q:=w.lo) (by omega) (by omega)) J<|?_;have em:(v.meet w).lo=(if v.lo<w.lo then w.lo else v.lo):=by unfold ao.meet;simp_all
    have eb:(v.nl&&w.nl)=v.nl:=by simp_all
    exact at_ () trivial (hO:=⟨by rw[em,eb]<;>rfl,by repeat (first|exact trivial|refine And.intro J ?_)⟩)
   .
    have em:(v.meet w).lo=v.lo:=by unfold ao.meet;simp_all
    have eb:(v.nl&&w.nl)=v.nl:=by simp_all
    exact at_ () trivial (hO:=⟨by rw[em,eb]<;>rfl,by repeat (first|exact trivial|refine And.intro J ?_)⟩)
 .
  refine mg (X:=Unit) (fun _=>[(6, .ov 6 0)]) (fun _=>[(6,some (.o 220 [.d (vI (dt (v.meet w).lo)), .d (vI (du (v.meet w).lo)), .d (dl (v.meet w).lo), .d (vI (dt (v.meet w).hi)), .d (vI (du (v.meet w).hi)), .d (dl (v.meet w).hi), .d (.v (.bool (v.nl&&w.nl))), .d (.v (.bool (v.nh&&w.nh)))] true))]) (fun _=>True) [6] [6] rfl ?_ (fun _=>J) (fun _ _=>?_)
  .
   refine gx J<|?_;refine bb (v1:=fun hc27=>by simp only[ah];kernel_rfl) J J J (fun hc27=>?_) (fun hc27=>?_)
   .
    have em:(v.meet w).hi=w.hi:=by unfold ao.meet;simp_all
    have eb:(v.nh&&w.nh)=w.nh:=by simp_all
    exact at_ () trivial (hO:=⟨by rw[em,eb]<;>rfl,by repeat (first|exact trivial|refine And.intro J ?_)⟩)
   .
    refine bb J J J (fun hc36=>?_) (fun hc36=>?_)
    .
     refine cl J (Ph (p:=v.hi) (q:=w.hi) (by omega) (by omega)) J<|?_;have em:(v.meet w).hi=(if w.hi<v.hi then w.hi else v.hi):=by unfold ao.meet;simp_all
     have eb:(v.nh&&w.nh)=v.nh:=by simp_all
     exact at_ () trivial (hO:=⟨by rw[em,eb]<;>rfl,by repeat (first|exact trivial|refine And.intro J ?_)⟩)
    .
     have em:(v.meet w).hi=v.hi:=by unfold ao.meet;simp_all
     have eb:(v.nh&&w.nh)=v.nh:=by simp_all
     exact at_ () trivial (hO:=⟨by rw[em,eb]<;>rfl,by repeat (first|exact trivial|refine And.intro J ?_)⟩)
  .
   refine cl J (QN (v:=v.meet w) (i:=i+j) (j:=i+j) (by omega) (by omega)) J<|?_;exact rz J J
theorem BQ.z1:BQ (0:Rat) 1:=⟨by decide,by decide⟩
def Qh{v:ao}{t:Rat}{i j:Nat}[h1:BQ v.lo i][h2:BQ v.hi i][h3:BQ t j](hi:i<=10000000:=by decide)(hj:j<=9999999:=by decide):PF GB prog 353 [eW v, .ag [vI (dt t),vI (du t),dl t,vI 0,vI 0, .v (.pointer none), .v (.bool false), .v (.bool true)]] (.tp [eW (v.meet ⟨t,0,false,true⟩),vB (!(v.meet ⟨t,0,false,true⟩).empty)]):=
 (Ky (v:=v) (w:=⟨t,0,false,true⟩) (j:=j+1) (h3:=h3.mono (by omega)) (h4:=BQ.z1.mono (by omega)) hi (by omega)).ofI fun G vs hv=>Dt (fun y hy=>by
  obtain⟨l,rfl,g⟩:=cO.1 hy;exact cO.2 ⟨l,J,Fv [_,_,_] g⟩) hv
def WU{v:ao}{t:Rat}{i j:Nat}[h1:BQ v.lo i][h2:BQ v.hi i][h3:BQ t j](hi:i<=10000000:=by decide)(hj:j<=9999999:=by decide):PF GB prog 353 [eW v, .ag [vI 0,vI 0, .v (.pointer none),vI (dt t),vI (du t),dl t, .v (.bool true), .v (.bool false)]] (.tp [eW (v.meet ⟨0,t,true,false⟩),vB (!(v.meet ⟨0,t,true,false⟩).empty)]):=
 (Ky (v:=v) (w:=⟨0,t,true,false⟩) (j:=j+1) (h4:=h3.mono (by omega)) (h3:=BQ.z1.mono (by omega)) hi (by omega)).ofI fun G vs hv=>Dt (fun y hy=>by
  obtain⟨l,rfl,g⟩:=cO.1 hy;exact cO.2 ⟨l,J,BE g⟩) hv
instance BQ.cutK (l m:ab) [LB l] [LB m]:BQ (l.cutK m) 400:=BQ.mono (inferInstance:BQ (m.nor.dot l.dir) _) (by decide)
instance BQ.cutC (l m:ab) [LB l] [LB m]:BQ (l.cutC m) 2500:=BQ.mono (inferInstance:BQ (m.value l.base) _) (by decide)
def xH{l m:ab}{v:ao}{i:Nat}[hl:LB l][hm:LB m][h1:BQ v.lo i][h2:BQ v.hi i](hi:i<=10000000:=by decide):PF GB prog 276 [d8 l,eW v,d8 m] (.tp [eW (l.cutV v m),vB (l.cutB v m)]):=by
 refine fn func276 J J ntmps276 J J (fun C=>?_);refine cl J (vY (l:=m)) J<|cl J (ul (l:=l)) J<|cl J (qo (p:=m.nor) (q:=l.dir)) J<|cl J (N6 (l:=l)) J<|?_;refine cl J (Dr (l:=m) (p:=l.base)) J<|cl J (lO (q:=l.cutK m)) J<|?_;refine br J J J (fun hc21=>?_) (fun hc21=>?_)
 .
  refine cl J (lO (q:=l.cutC m)) J<|?_;exact rz J (by unfold ab.cutV ab.cutB;rw[if_pos hc21,if_pos hc21];rfl)
 .
  refine br J J J (fun hc27=>?_) (fun hc27=>?_)
  .
   refine cl J (zc (p:=l.cutC m) (q:=l.cutK m)) J<|cl J (lw (q:=l.cutC m/l.cutK m)) J<|cl J (Qh (v:=v) (t:= -(l.cutC m/l.cutK m)) hi) J<|?_;exact rz J (by unfold ab.cutB ab.cutV;rw[if_neg hc21,if_neg hc21,if_pos hc27];rfl)
  .
   refine cl J (zc (p:=l.cutC m) (q:=l.cutK m)) J<|cl J (lw (q:=l.cutC m/l.cutK m)) J<|cl J (WU (v:=v) (t:= -(l.cutC m/l.cutK m)) hi) J<|?_;exact rz J (by unfold ab.cutB ab.cutV;rw[if_neg hc21,if_neg hc21,if_neg hc27];rfl)
def Mq{v:ao}{i:Nat}[h1:BQ v.lo i][h2:BQ v.hi i](hi:i<=10000000:=by decide):PF GB prog 346 [eW v] (eF v.sample):=by
 refine fn func346 J J ntmps346 J J (fun C=>?_);refine oz 6 J J J (fun hg6=>?_) (fun hg6=>?_)
 .
  refine bb J J J (fun hc3=>?_) (fun hc3=>?_)
  .
   exact iA J (by unfold ao.sample;rw[hg6,hc3];exact uR)
  .
   refine bb J J J (fun hc11=>?_) (fun hc11=>?_)
   .
    refine cl J (o9 (m:=1) (by decide)) J<|cl J (sP (p:=v.hi) (q:=((1:Int):Rat)) (by omega) (by decide)) J<|?_;exact rz J (by unfold ao.sample;simp_all [iw]<;>rfl)
   .
    refine bb J J J (fun hc18=>?_) (fun hc18=>?_)
    .
     refine cl J (o9 (m:=1) (by decide)) J<|cl J (rF (p:=v.lo) (q:=((1:Int):Rat)) (by omega) (by decide)) J<|?_;exact rz J (by unfold ao.sample;simp_all [iw]<;>rfl)
    .
     refine cl J (rF (p:=v.lo) (q:=v.hi) (by omega) (by omega)) J<|cl J (Dq (q:=v.lo+v.hi) (by omega)) J<|?_;exact rz J (by unfold ao.sample;simp_all [iw]<;>rfl)
 .
  refine bb J J J (fun hc11=>?_) (fun hc11=>?_)
  .
   refine cl J (o9 (m:=1) (by decide)) J<|cl J (sP (p:=v.hi) (q:=((1:Int):Rat)) (by omega) (by decide)) J<|?_;exact rz J (by unfold ao.sample;simp_all [iw]<;>rfl)
  .
   refine bb J J J (fun hc18=>?_) (fun hc18=>?_)
   .
    refine cl J (o9 (m:=1) (by decide)) J<|cl J (rF (p:=v.lo) (q:=((1:Int):Rat)) (by omega) (by decide)) J<|?_;exact rz J (by unfold ao.sample;simp_all [iw]<;>rfl)
   .
    refine cl J (rF (p:=v.lo) (q:=v.hi) (by omega) (by omega)) J<|cl J (Dq (q:=v.lo+v.hi) (by omega)) J<|?_;exact rz J (by unfold ao.sample;simp_all [iw]<;>rfl)
def Bl(p q:aa):DV:= .ag [vI (dt p.x),vI (du p.x),dl p.x,vI (dt p.y),vI (du p.y),dl p.y,vI (dt q.x),vI (du q.x),dl q.x,vI (dt q.y),vI (du q.y),dl q.y]
def Fb{C:aC}{n:Nat}{Q0:Exit->Act->World->Prop}{fr:aw}{own:aH}{ops:Array Oper}{r:List Oper}{K:List Kt}(k:Nat){l:List DV}(hl:bc fr k=some (.d (.pt l)))(h:ak prog GB C n Q0 ((k, .ep l)::fr) own (.ops ops r K)):ak prog GB C n Q0 fr own (.ops ops r K):=
 pq hl (fun ρ G y hy=>by
  obtain⟨b,m,rfl,h1,h2⟩:=nP.1 hy;have e:=h2.len;exact⟨b,0,m,m,J,h1,by rw[lh m 0 l.length (by omega),jY,<-e,iQ],h2⟩) h
section
variable {GB:Gh} {C:aC} {n:Nat} {Q0:Exit->Act->World->Prop} {fr fr':aw} {own own':aH} {cf cf':Cf} {vc:List Prop} {lk:LK} {bk:BM}
variable {dst:Option Nat} {t t' ty':TypeId} {pos:String} {af:Array Edge} {gd:Option (Nat×Bool)} {x y:Operand}
def aI0(fr:aw)(cf:Cf):Option (List DV):=match cb fr cf with
 |some ⟨_, .binOp .eql t x (.const (.slice none _ _)) _,_,_,_,_⟩=>match dh tt t with
  |some ⟨.sl _ _ _,_,_,_⟩=>match aI (bw fr cf) x with
   |some (.d (.sl l))=>some l
   |_=>none
  |_=>none
 |_=>none
def PVr(GB:Gh)(P:Program)(f:FuncId)(s off m:Nat)(ty:TypeId)(dsi dso:List DV):Prop:=
 ∀G w b c B,bz GB G->de G ⟨w,s,ty,dsi,false⟩ B->w.a=some ⟨b,0,none⟩->m<=c->iq P f [.slice (some ⟨b,off*s,none⟩) m c] B G (fun v own' G'=>Is G' (.tp []) v/\de G' ⟨w,s,ty,dso,false⟩ own')
structure CV where
 f:FuncId
 nm:Nat
 s:Nat
 off:Nat
 m:Nat
 ty:TypeId
 ds:List DV
 lo:Bool
def cvA(fr:aw)(own:aH)(cf:Cf):Option CV:=match cb fr cf with
 |some ⟨_, .call ⟨.value fo,⟨[x]⟩,_⟩,_,_,_,_⟩=>match aI (bw fr cf) fo with
  |some (.d (.v (.func (.func f) ⟨[]⟩ ⟨[]⟩)))=>match aI (bw fr cf) x with
   |some (.rs nm s off m)=>match f9 fr own cf nm with
    |some (.b ty s' ds lo)=>bif Nat.beq s s' then some ⟨f,nm,s,off,m,ty,ds,lo⟩ else none
    |_=>none
   |_=>none
  |_=>none
 |_=>none
end
section
variable {GB:Gh} {C:aC} {n:Nat} {Q0:Exit->Act->World->Prop} {fr fr':aw} {own own':aH} {cf cf':Cf} {vc:List Prop} {ops:Array Oper} {r:List Oper} {K:List Kt}
def yk(k:Nat){d:DV}(hl:bc fr k=some (.d d))(h: ∀(GB':Gh) (pv:Value),bz GB GB'->Is GB' d pv->ak prog GB' C n Q0 ((k, .d (.v pv))::fr) own (.ops ops r K)):ak prog GB C n Q0 fr own (.ops ops r K):=by
 refine⟨fun ρ G ov a w r0=>?_⟩;obtain⟨y,hy,hy'⟩:=r0.fx k _ hl;refine(h G y r0.gb hy').run ρ G ov a w ⟨bz.refl _,r0.h,r0.sz,r0.df,fun j f e=>?_,r0.bx,r0.dj,r0.fxd⟩;rw[jm] at e;split at e
 ·rename_i hj
  cases e;subst hj
  exact⟨y,hy,(aF (G:=G)).2 J⟩
 ·exact r0.fx j f e
def aH8(fr:aw)(cf:Cf):Option (FuncId×Value):=match cb fr cf with
 |some ⟨_, .makeFunc (.func f) ⟨[x]⟩ ⟨[]⟩,_,_,_,_⟩=>match aI (bw fr cf) x with
  |some (.d (.v pv))=>some (f,pv)
  |_=>none
 |_=>none
def aIL(fr:aw)(cf:Cf):Option (FuncId×List Value×List DV):=match cb fr cf with
 |some ⟨_, .call ⟨.value fo,args,_⟩,_,_,_,_⟩=>match aI (bw fr cf) fo,evDs (bw fr cf) args.toList with
  |some (.d (.v (.func (.func f) ⟨c1⟩ ⟨[]⟩))),some ds=>some (f,c1,ds)
  |_,_=>none
 |_=>none
def JG:List (Nat×Operand)->Option (List (Nat×Value))
 |[]=>some []
 |(i, .const v)::t=>match JG t with
  |some l=>some ((i,v)::l)
  |none=>none
 |_::_=>none
def aI7(cf:Cf)(fr:aw):Option (TypeId×List (Nat×Value)):=match cb fr cf with
 |some ⟨_, .build t ⟨ps⟩,_,_,_,_⟩=>match JG ps with
  |some vs=>some (t,vs)
  |none=>none
 |_=>none
def HO(fr:aw)(own:aH)(cf:Cf):Option (TypeId×Nat×Nat×List FX×Bool×FX):=match cb fr cf with
 |some ⟨_, .store t x y,_,_,_,_⟩=>match aI (bw fr cf) x with
  |some (.ov nm 0)=>match f9 fr own cf nm with
   |some (.o ty cs lo)=>match aI (bw fr cf) y with
    |some fv=>some (t,nm,ty,cs,lo,fv)
    |_=>none
   |_=>none
  |_=>none
 |_=>none
def Lg[fu:Fu]{t nm ty len e:Nat}{cs:List FX}{lo:Bool}{fv:FX}{j:TypeInfo}(h:HO fr own cf=some (t,nm,ty,cs,lo,fv))(hu:prog.underlying t=some (.array len e))(hj:prog.info? t=some j)(hc:fv.okc=true/\fv.cells.length=j.size/\j.size=cs.length)
  (hgo:cD tt n fu.n fr own cf .un [(nm,some (.o ty (vd cs 0 fv.cells) lo))] []=⟨vc,fr',own',cf'⟩)(k:ak prog GB C n Q0 fr' own' cf')
  (hv:ah vc:=by first|exact trivial|(simp only[ah];kernel_rfl)|(simp only[ah];omega)):ak prog GB C n Q0 fr own cf:=by
 unfold HO at h;split at h<;>try (cases h;done)
 rename_i hh;split at h<;>try (cases h;done)
 rename_i e1;split at h<;>try (cases h;done)
 rename_i hb;split at h<;>cases h;rename_i e2;obtain⟨c1,c2,c3⟩:=hc;have:kv prog t j.size:=⟨fun w=>zp hu w,fun w=>s6 hj w⟩;refine us hh ?_ hgo hv k;intro hd tl tb K s1 s2 hf hk;refine⟨fun ρ G ov a w r Q=>?_⟩;have r1:=r.mono s1 s2;obtain⟨p,h1,h2⟩:=r1.ev e1;obtain⟨q,h3,h4⟩:=r1.ev e2;obtain⟨b,m,rfl,ha,h5,h6⟩:=r1.own h2 hb;obtain⟨h7,h8⟩:=h4.cells c1;obtain⟨own',u1,u2,u3⟩:=fh.of_mem (cs':=co m 0 (aD q)) h6;exact AH h1 h3 u1 (by rw[h7.len,c2]) (by rw[h5.len,c3];omega) (eY.2 h8) hd (fun a' w' rl=>r.wrote (m:=m) (s2 _ _ hb) ha (h5.ov h7) u2 u3 hk rl) a w Q ⟨r.h,r.sz,cG a,r.df⟩
def aIQ(fr:aw)(cf:Cf):Option HQ:=match cb fr cf with
 |some ⟨some d, .buildSlice t len parts,_,_,_,_⟩=>match dh tt t with
  |some ⟨.sl e s _,_,_,_⟩=>match uQ (bw fr cf) 0 parts.toList with
   |some ds=>bif As s ds&&(Nat.beq parts.toList.length len&&(Nat.ble (len*s) 1000&&Nat.blt 0 (len*s))) then some ⟨d,e,s,ds⟩ else none
   |none=>none
  |_=>none
 |_=>none
def aI9(fr:aw)(cf:Cf):Option (TypeId×List DV):=match cb fr cf with
 |some ⟨_, .load t x,_,_,_,_⟩=>match aI (bw fr cf) x with
  |some (.ep l)=>some (t,l)
  |_=>none
 |_=>none
def U2:TypeDesc->Bool
 | .struct _=>false
 | .array _ _=>false
 |_=>true
end
section
variable {GB:Gh} {C:aC} {n:Nat} {Q0:Exit->Act->World->Prop} {fr fr':aw} {own own':aH} {cf cf':Cf} {vc:List Prop} {ops:Array Oper} {r:List Oper} {K:List Kt}
def aC.mkD(C:aC)(f:FuncId)(c2:List Value):aC:={C with mks:=[{target:= .fn (.func f) ⟨c2⟩,args:= #[]}]}
def Z'{f:FuncId}{c2:List Value}{ov:List aj}{G:Gh}{w:World}(h:bt C ov G w):bt (C.mkD f c2) ov G w:=
 ⟨h.os,h.tape,h.output,h.size,h.keep,h.sub,h.gle,h.gold,h.hown,h.nd,h.dr,h.ext⟩
def SA{f:FuncId}{c2:List Value}{ov:List aj}{G:Gh}{w:World}(h:bt (C.mkD f c2) ov G w):bt C ov G w:=
 ⟨h.os,h.tape,h.output,h.size,h.keep,h.sub,h.gle,h.gold,h.hown,h.nd,h.dr,h.ext⟩
def Dz(P:Program)(fb:Func)(R:Ending->World->Prop):Exit->Act->World->Prop:=bodyPostDIn (FW none) 0 P fb R
def T4[fu:Fu]{f:FuncId}{fb:Func}{c:Code}{m:Nat}{ds:List DV}{rv:DV}(hf:prog.funcs[f]? =some fb)(hb:fb.body=some c)(hn:(fb.name== "runtime.NumGoroutine")=false)(hm:fb.ntmps=m)(hlen:Nat.ble ds.length m=true)
  (hgo:go tt m fu.n [] (p9 0 ds) [] (.code c [])=⟨vc,fr,own,cf⟩)(k: ∀C:aC,Ac C->ak prog GB C m (Dz prog fb (i7 C (fun v G'=>Is G' rv v))) fr own cf)
  (hv:ah vc:=by first|exact trivial|(simp only[ah];kernel_rfl)|(simp only[ah];omega)):PF GB prog f ds rv:=by
 intro G vs hg hvs;refine⟨⟨fb,hf,hn,by simp[hb]⟩,fun w hw=>?_⟩;have hlen':vs.length<=m:=by rw[hvs.len];simpa using hlen
 have h:=fq (GB:=GB) (C:=kg w G) (Q0:=Dz prog fb (i7 (kg w G) (fun v G'=>Is G' rv v))) hgo hv (k (kg w G) ⟨J,J,J⟩);refine(callsIn_wide (n:=0)).1 (callsIn_of_wp_defers (F:=FW none) (n:=0) hf hb trivial ?_);refine h.run (fun _=>⟨none,0,0⟩) G [] _ w ⟨hg,Bd hw,by simp;omega,J,fun k f e=>vX hvs (fun k v hk=>?_) k f e,(fun nm B e=>by cases e),(fun nm nm' B B' e=>by cases e),fun nm p _ _ e=>by cases e⟩;obtain⟨j,rfl,hj⟩:=sC vs 0 k v hk;have hj':=(aS.1 hj).1;rw[jZ (by simpa using hj')];simpa using hj
def SJ{P:Program}{f:FuncId}{d x y:Nat}{gx gy:FX}{t1 t2:TypeId}{p1 p2:String}{a1 a2:Array Edge}{tys:Array TypeId}(h0:Ac C)(hx:bc fr x=some gx)(hy:bc fr y=some gy)(hd:bc fr d=none)(hdn:d<n)
  (k: ∀p q,ak P GB (C.mkD f [p,q]) n Q0 fr own (.ops ops r K)):
  ak P GB C n Q0 fr own (.ops ops (⟨some d, .makeFunc (.func f) ⟨[]⟩ ⟨[.tmp x, .tmp y]⟩,t1,p1,a1,none⟩::⟨none, .defer ⟨.value (.tmp d),⟨[]⟩,tys⟩,t2,p2,a2,none⟩::r) K):=by
 refine⟨fun ρ G ov a w r0=>?_⟩;obtain⟨v1,hv1,_⟩:=r0.fx x gx hx;obtain⟨v2,hv2,_⟩:=r0.fx y gy hy;have e1:(execOp a.eval ⟨some d, .makeFunc (.func f) ⟨[]⟩ ⟨[.tmp x, .tmp y]⟩,t1,p1,a1,none⟩).run P w= .ok (.value (.func (.func f) ⟨[]⟩ ⟨[v1,v2]⟩)) w:=by
  have q1:a.eval (.tmp x)=v1:=by simp[Act.eval,hv1]
  have q2:a.eval (.tmp y)=v2:=by simp[Act.eval,hv2]
  have:=xQ (P:=P) (C:=C) (own:=ov) (G:=G) (fr:=cA a) (dst:=some d) (ty':=t1) (pos:=p1) (af:=a1) (gd:=none) (fn:= .func f) (c1:=⟨[]⟩) (c2:=⟨[.tmp x, .tmp y]⟩) (l1:=[]) (l2:=[a.eval (.tmp x),a.eval (.tmp y)]) J (by
   have w1:av (cA a) (.tmp x)=some v1:=by
    simp only[av];exact wC hv1
   have w2:av (cA a) (.tmp y)=some v2:=by
    simp only[av];exact wC hv2
   simp[nN,w1,w2,q1,q2])
  rw[q1,q2] at this;exact this a w (cG a) r0.h
 have hkk:=(k v1 v2).run ρ G ov {tmps:=a.tmps.setIfInBounds d (.func (.func f) ⟨[]⟩ ⟨[v1,v2]⟩),defers:=[{target:= .fn (.func f) ⟨[v1,v2]⟩,args:= #[]}]} w ⟨r0.gb,Z' r0.h,by simpa using r0.sz,J,fun j g e=>by
   obtain⟨u,h1,h2⟩:=r0.fx j g e;refine⟨u,?_,h2⟩;have hne:d≠j:=fun he=>by rw[<-he,hd] at e;cases e
   rw[Array.getElem?_setIfInBounds_ne hne];exact h1,r0.bx,r0.dj,r0.fxd⟩
 have hrd:C.rd=none:=h0.rd;show wpListIn (FW C.rd) 0 P ops (cQ C.rd P Q0 K) _ a w;have hkk':wpListIn (FW C.rd) 0 P ops (cQ C.rd P Q0 K) r _ w:=hkk;rw[hrd] at hkk'⊢;simp only[wpListIn,Region.wanted,if_true];refine⟨fun _ _=>trivial,?_⟩;rw[show(FW none).round=none from J,Oper.semAt_none,e1];show Oper.wpIn (FW none) 0 P _ _ w _ _;refine⟨fun _ _=>trivial,?_⟩;have hsz:d<a.tmps.size:=by rw[r0.sz];exact hdn
 have e2:(execOp (Act.put a (some d) (.func (.func f) ⟨[]⟩ ⟨[v1,v2]⟩)).eval ⟨none, .defer ⟨.value (.tmp d),⟨[]⟩,tys⟩,t2,p2,a2,none⟩).run P w= .ok (.defer {target:= .fn (.func f) ⟨[v1,v2]⟩,args:= #[]}) w:=by
  have q3:(Act.put a (some d) (.func (.func f) ⟨[]⟩ ⟨[v1,v2]⟩)).eval (.tmp d)= .func (.func f) ⟨[]⟩ ⟨[v1,v2]⟩:=by simp[Act.eval,Act.put,hsz]
  simp[execOp,resolve,q3,Deferred.ofValue,go_sem,hsz]
 rw[show(FW none).round=none from J,Oper.semAt_none,e2];show wpListIn (FW none) 0 P ops (cQ none P Q0 K) r _ w;have hda:a.defers=[]:=by rw[r0.df,h0.mks]
 have:(Act.put ({(Act.put a (some d) (.func (.func f) ⟨[]⟩ ⟨[v1,v2]⟩)) with defers:={target:= .fn (.func f) ⟨[v1,v2]⟩,args:= #[]}::(Act.put a (some d) (.func (.func f) ⟨[]⟩ ⟨[v1,v2]⟩)).defers}) none undef)={tmps:=a.tmps.setIfInBounds d (.func (.func f) ⟨[]⟩ ⟨[v1,v2]⟩),defers:=[{target:= .fn (.func f) ⟨[v1,v2]⟩,args:= #[]}]}:=by
  simp[Act.put,hda]
 rw[this];exact hkk'
def KN(P:Program)(f:FuncId):Prop:= ∀p q w,CallsDIn (FW none) 0 P f #[p,q] .returning w fun e u' w'=>e= .returned (.tuple #[])/\u'= .returning/\w'=w
def So{fb:Func}{e:Exit}{ds:List DV}{rv:DV}{f:FuncId}{p q:Value}(hI:KN prog f)(hfb:nv prog f)(hr:px tt fr own fb.results.toList=some ds)(hd:iw ds=rv)(he:yQ e=true:=by rfl):ak prog GB (C.mkD f [p,q]) n (Dz prog fb (i7 C (fun v G'=>Is G' rv v))) fr own (.ex e []):=by
 refine⟨fun ρ G ov a w r=>?_⟩;obtain⟨vs,h1,h2⟩:=yD r hr;have hk:Is G rv (gu vs):=hd▸xK h2;have hres:=rk (C:=C.mkD f [p,q]) (G:=G) (own:=ov) (w:=w) h1 (cG a) r.h;have key:LeavesIn (FW none) 0 prog fb a.tmps (i7 C (fun v G'=>Is G' rv v)) a.defers .returning w:=by
  rw[r.df];refine leavesIn_cons (f:=f) (args:= #[p,q]) (by simp) (by simp[FW,Fence.wide]) ?_ (fun _ _=>trivial) ?_
  ·show(callFunc f (#[]++⟨[p,q]⟩)).run prog w=_
   rw[zo hfb];simp
  refine(hI p q w).mono ?_;rintro e u' w' ⟨rfl,rfl,rfl⟩;exact⟨_,hres,_,G,J,(SA r.h).drop (kZ _),hk⟩
 cases e with
 |ret=>exact key
 |normal=>exact key
 |_=>cases he
def Mm(fr:aw)(own:aH)(cf:Cf):Option (TypeId×FX):=match cb fr cf with
 |some ⟨_, .load t x,_,_,_,_⟩=>match aI (bw fr cf) x with
  |some (.ov nm off)=>match f9 fr own cf nm with
   |some (.o _ cs _)=>match cs[off]? with
    |some f=>some (t,f)
    |none=>none
   |_=>none
  |_=>none
 |_=>none
def SF[fu:Fu]{t:TypeId}{f:FX}{D:TypeDesc}{j:TypeInfo}(h:Mm fr own cf=some (t,f))(hu:prog.underlying t=some D)(hD:U2 D=true)(hj:prog.info? t=some j)(hs:j.size=1)
  (hgo:cD tt n fu.n fr own cf f [] []=⟨vc,fr',own',cf'⟩)(k':ak prog GB C n Q0 fr' own' cf')
  (hv:ah vc:=by first|exact trivial|(simp only[ah];kernel_rfl)|(simp only[ah];omega)):ak prog GB C n Q0 fr own cf:=by
 unfold Mm at h;split at h<;>try (cases h;done)
 rename_i hh;split at h<;>try (cases h;done)
 rename_i hx;split at h<;>try (cases h;done)
 rename_i hb;split at h<;>cases h;rename_i hc;have:gE prog t:=⟨fun w=>by(rw[zp hu w];cases D<;>first|rfl|(cases hD;done)),fun w=>by rw[s6 hj w,hs]⟩;refine us hh ?_ hgo hv k';refine .yd fun ρ G ov a w r=>?_;obtain⟨y,h1,h2⟩:=r.ev hx;obtain⟨b,m,rfl,h3,h4,h5⟩:=r.own h2 hb;obtain⟨l',h6,h7⟩:=h4.get hc;have:gD ov b m _ _:=⟨h5⟩;exact⟨l',h7,kA h1 h6⟩
end
instance BQ.i1':BQ (1:Rat) 2:=⟨by decide,by decide⟩
instance BQ.i2':BQ (2:Rat) 2:=⟨by decide,by decide⟩
instance aG.at (l:ab) (t:Rat) (k:Nat) [LB l] [BQ t k]:aG (l.at t) (900+(k+97)+1):=by
 rw[<-sH];infer_instance
def jl(d:aa):aa:=⟨-d.y,d.x⟩
instance aG.turn (d:aa) (k:Nat) [aG d k]:aG (jl d) k:=⟨inferInstanceAs (BQ (-d.y) k),inferInstanceAs (BQ d.x k)⟩
def Bc(p v:aa)(m:ab):Rat:= -(m.value p/(m.value (cd p v ((1:Int):Rat))-m.value p))
def yb(p v:aa)(m:ab)(s:Rat):Rat:=if(m.value (cd p v ((1:Int):Rat))-m.value p).num.sign=0 then s else if(m.value p).num.sign=0 then s else if 0<(Bc p v m).num.sign then(if cp (Bc p v m/2) s<0 then Bc p v m/2 else s) else s
def uC(p v:aa):List ab->Rat->Rat
 |[],s=>s
 |m::t,s=>uC p v t (yb p v m s)
def y9(c:List ab)(p v:aa):aa:=cd p v (uC p v c ((1:Int):Rat))
def vw(c:List ab):List ab->aa
 |[]=>⟨0,0⟩
 |m::t=>if(pn m c ao.all).2=true then y9 c (m.at (Ah (pn m c ao.all).1)) (jl m.dir) else vw c t
def aug{es:List Int}{i:Nat}(h:i<es.length):(es.map vI)[(i:Int).toNat]? =some (vI (es.getD i 0)):=by simp[h]
def OO{es:List Int}{i:Nat}(h:i<es.length):ow (es.drop i)=if es.getD i 0≠0 then es.getD i 0 else ow (es.drop (i+1)):=by
 rw[cX h,ow,aK,aX h];rfl
def Zk{es:List Int}(hn:es.length<=1000000):PF GB prog 227 [.sl (es.map vI)] (vI (ow es)):=by
 have hel:(es.map vI).length=es.length:=by simp
 refine fn (fu:=⟨15⟩) func227 J J ntmps227 J J (fun C=>?_);refine aA 7 (.d (vI (es.length:Nat))) J (by rw[hel]<;>rfl) ?_;refine gx J<|?_;refine lp (X:=Nat) (fun i=>[(8, .d (vI (i:Nat)))]) (fun i=>[]) (fun i=>i<=es.length/\ow es=ow (es.drop i)) (fun i=>es.length-i) 0 J ⟨cJ _,J⟩ (fun _=>J) (fun i hk=>?_);obtain⟨h1,h2⟩:=hk;refine br J J J (fun hc9=>?_) (fun hc9=>?_)
 .
  refine ix _ J (aug (by omega)) J<|?_;refine br J J J (fun hc14=>?_) (fun hc14=>?_)
  .
   exact rz J (by rw[h2,OO (by omega),if_pos hc14];rfl)
  .
   exact at_ (i+1) ⟨⟨by omega,by rw[h2,OO (by omega),if_neg hc14]⟩,(by omega)⟩
 .
  exact rz J (by rw[h2,gV (by omega)];rfl)
def CC(l m:ab):Int:=ow [cp l.a m.a,cp l.b m.b,cp l.c m.c]
def XN(l m:ab):CC l m=0↔l=m:=by
 unfold CC ow ow ow ow;have ha:=vl (l.a:Rat) m.a;have hb:=vl (l.b:Rat) m.b;have hc:=vl (l.c:Rat) m.c;rw[qU] at ha hb hc;constructor
 ·intro h
  repeat' (split at h<;>try contradiction)
  all_goals exact ab.ext' (by omega) (by omega) (by omega)
 ·rintro rfl
  rw[if_neg (by simp[ha.2 J]),if_neg (by simp[hb.2 J]),if_neg (by simp[hc.2 J])]
def Tt{l m:ab}[hl:LB l][hm:LB m]:PF GB prog 134 [d8 l,d8 m] (vI (CC l m)):=by
 refine fn func134 J J ntmps134 J J (fun C=>?_);refine cl J (oG (p:=(l.a:Rat)) (q:=(m.a:Rat))) J<|cl J (oG (p:=(l.b:Rat)) (q:=(m.b:Rat))) J<|cl J (oG (p:=(l.c:Rat)) (q:=(m.c:Rat))) J<|?_;refine rf J J<|cl J (Zk (es:=[cp l.a m.a,cp l.b m.b,cp l.c m.c]) (nb J)) J<|?_;exact rz J J
def P'{l m:ab}[hl:LB l][hm:LB m]:PF GB prog 136 [d8 l,d8 m] (vB (decide (l=m))):=by
 refine fn func136 J J ntmps136 J J (fun C=>?_);refine cl J (Tt (l:=l) (m:=m)) J<|?_;exact rz J (by show DV.v (.bool (decide _))= .v (.bool _);congr 2;exact decide_eq_decide.2 (XN l m))
def EP{l:ab}[hl:LB l]:PF GB prog 229 [d8 l] (d8 l.rev):=by
 refine fn func229 J J ntmps229 J J (fun C=>?_);refine cl J (lw (q:=(l.a:Rat))) J<|cl J (lw (q:=(l.b:Rat))) J<|cl J (lw (q:=(l.c:Rat))) J<|?_;exact rz J (by unfold d8 ab.rev;simp only[oL];rfl)
def VU{l:ab}[hl:LB l]:PF GB prog 137 [d8 l] (eL l):=by
 refine fn func137 J J ntmps137 J J (fun C=>?_);refine cl J (rB (q:=(l.a:Rat))) J<|cl J (rB (q:=(l.b:Rat))) J<|cl J (rB (q:=(l.c:Rat))) J<|?_;exact rz J J
def Ov{p:aa}{i:Nat}[hp:aG p i](hi:i<=10000000:=by decide):PF GB prog 354 [eZ p] (vI p.half):=by
 refine fn func354 J J ntmps354 J J (fun C=>?_);refine cl J (lO (q:=p.y) (by omega)) J<|?_;refine cs 10 J J J (fun hg10=>?_) (fun hg10=>?_)
 .
  exact rz J (by unfold aa.half;(repeat' split)<;>first|rfl|(exfalso;omega))
 .
  refine cs 13 J J J (fun hg13=>?_) (fun hg13=>?_)
  .
   refine cl J (lO (q:=p.x) (by omega)) J<|?_;refine br J J J (fun hc7=>?_) (fun hc7=>?_)
   .
    exact rz J (by unfold aa.half;(repeat' split)<;>first|rfl|(exfalso;omega))
   .
    refine cs 23 J J J (fun hg23=>?_) (fun hg23=>?_)
    .
     exact rz J (by unfold aa.half;(repeat' split)<;>first|rfl|(exfalso;omega))
    .
     refine cl J (lO (q:=p.x) (by omega)) J<|?_;refine br J J J (fun hc20=>?_) (fun hc20=>?_)
     .
      exact rz J (by unfold aa.half;(repeat' split)<;>first|rfl|(exfalso;omega))
     .
      exact rz J (by unfold aa.half;(repeat' split)<;>first|rfl|(exfalso;omega))
  .
   refine cs 23 J J J (fun hg23=>?_) (fun hg23=>?_)
   .
    exact rz J (by unfold aa.half;(repeat' split)<;>first|rfl|(exfalso;omega))
   .
    refine cl J (lO (q:=p.x) (by omega)) J<|?_;refine br J J J (fun hc20=>?_) (fun hc20=>?_)
    .
     exact rz J (by unfold aa.half;(repeat' split)<;>first|rfl|(exfalso;omega))
    .
     exact rz J (by unfold aa.half;(repeat' split)<;>first|rfl|(exfalso;omega))
def E'{u v:aa}{i j:Nat}[hp:aG u i][hq:aG v j](hi:i<=10000000:=by decide)(hj:j<=10000000:=by decide):PF GB prog 279 [eZ u,eZ v] (vI (di u v)):=by
 refine fn func279 J J ntmps279 J J (fun C=>?_);refine cl J (Ov (p:=u) hi) J<|cl J (Ov (p:=v) hj) J<|?_;refine br J J J (fun hc11=>?_) (fun hc11=>?_)
 .
  exact rz J (by unfold di;rw[if_pos hc11];rfl)
 .
  refine br J J J (fun hc15=>?_) (fun hc15=>?_)
  .
   exact rz J (by unfold di;rw[if_neg hc11,if_pos hc15];rfl)
  .
   refine cl J (Jr (p:=u) (q:=v) (by omega) (by omega)) J<|cl (fu:=⟨0⟩) J (lO (q:=u.cross v) (by omega)) J<|?_;have hs:=qZ (u.cross v).num;refine gx J<|?_;exact rz J (by unfold di;rw[if_neg hc11,if_neg hc15];rfl)
def aC0{m:Int}:d4 (dg m.natAbs)/\(decide (m<0)=true->0<(dg m.natAbs).length):=⟨(d9 _).2.2,fun h=>by
 have:0<m.natAbs:=by have:=of_decide_eq_true h;omega
 exact vt.2 this⟩
def qv{m:Int}{i:Nat}[h:BI m i](hi:i<=1000000000:=by decide):PF GB prog 269 [eI m] (.v (.bool true)):=(Ou (neg:=decide (m<0)) (ds:=dg m.natAbs) (d9 _).2.1 (by have:=l6 (a:=m.natAbs) hi;omega)).to (by unfold vB;rw[decide_eq_true aC0])
def OP{l:ab}(h:l.ok):rgcd (rgcd (l.a:Rat) (l.b:Rat)) (l.c:Rat)=((1:Int):Rat):=by
 rw[uh,uh];have:=h.2;simp only[fL];rw[this];rfl
instance BQ.rgcd (p q:Rat) (i j:Nat) [h:BQ p i] [k:BQ q j]:BQ (rgcd p q) (i+j+(i+j)):=by
 unfold Sx.rgcd;refine rD (iX (mh p) (mh q)) ?_ ?_
 ·rw[fL]
  have h1:=l8 h.hn k.hd;have h2:=l8 k.hn h.hd;rw[lX j i] at h2;exact CX h1 h2
 ·have h1:=l8 h.hd k.hd
  have:2^(i+j)<=2^(i+j+(i+j)):=bZ (by decide) (by omega);omega
def UY{l:ab}[hl:LB l](ho:l.ok):PF GB prog 182 [eL l] (.tp [d8 l,vB true]):=by
 refine fn func182 J J ntmps182 J J (fun C=>?_);refine cl (fu:=⟨0⟩) J (qv (m:=l.a)) J<|eo J J J<|cl (fu:=⟨0⟩) J (qv (m:=l.b)) J<|eo J J J<|cl (fu:=⟨0⟩) J (qv (m:=l.c)) J<|?_;refine eo J J J<|cl J (r4 (m:=l.a)) J<|cl J (r4 (m:=l.b)) J<|cl J (r4 (m:=l.c)) J<|cl (fu:=⟨0⟩) J (nG (q:=(l.a:Rat))) J<|?_;refine DG (fu2:=⟨4⟩) J J J J (fun hg35=>?_) (fun hg35=>?_)
 .
  have ha:l.a=0:=dV.1 hg35;refine cl (fu:=⟨1⟩) J (nG (q:=(l.b:Rat))) J<|eo J (by first|rfl|(show some (decide _)=some false;rw[decide_eq_false (fun e=>ho.1 ⟨ha,dV.1 e⟩)])) J<|?_;refine cl J (kC (p:=(l.a:Rat)) (q:=(l.b:Rat))) J<|cl J (kC (p:=rgcd l.a l.b) (q:=(l.c:Rat))) J<|cl J (o9 (m:=1) (by decide)) J<|?_;refine cl (fu:=⟨0⟩) J (vM (p:=rgcd (rgcd l.a l.b) l.c) (q:=((1:Int):Rat))) J<|eo J (by show some (!decide _)=some false;rw[OP ho,decide_eq_true J];rfl) J<|?_;exact rz J J
 .
  refine eo J (by first|rfl|(show some (decide _)=some false;rw[decide_eq_false (fun e=>ho.1 ⟨ha,dV.1 e⟩)])) J<|cl J (kC (p:=(l.a:Rat)) (q:=(l.b:Rat))) J<|?_;refine cl J (kC (p:=rgcd l.a l.b) (q:=(l.c:Rat))) J<|cl J (o9 (m:=1) (by decide)) J<|cl (fu:=⟨0⟩) J (vM (p:=rgcd (rgcd l.a l.b) l.c) (q:=((1:Int):Rat))) J<|?_;refine eo J (by show some (!decide _)=some false;rw[OP ho,decide_eq_true J];rfl) J<|?_;exact rz J J
def bj(f:aP):DV:= .ag [vI (dt (f.l.a:Rat)),vI (du (f.l.a:Rat)),dl (f.l.a:Rat),vI (dt (f.l.b:Rat)),vI (du (f.l.b:Rat)),dl (f.l.b:Rat),vI (dt (f.l.c:Rat)),vI (du (f.l.c:Rat)),dl (f.l.c:Rat),vI (dt f.v.lo),vI (du f.v.lo),dl f.v.lo,vI (dt f.v.hi),vI (du f.v.hi),dl f.v.hi, .v (.bool f.v.nl), .v (.bool f.v.nh)]
structure qI (v:ao):Prop where
 z:i8 v
 lo:BQ v.lo 1200
 hi:BQ v.hi 1200
structure A4 (s:aP):Prop where
 lb:LB s.l
 ok:s.l.ok
 v:qI s.v
abbrev jb (c:aE):Prop:= ∀s∈c,A4 s
def ue{α:Type}(f:α->DV)(l:List α):(l.map f).length=l.length:=by simp
def qI.all:qI ao.all:=⟨⟨fun _=>J,fun _=>J⟩,BQ.z1.mono (by decide),BQ.z1.mono (by decide)⟩
def qI.cut{l m:ab}{v:ao}[LB l][LB m](hn:l.Ne)(h:qI v):qI (l.cutV v m):=by
 by_cases h0:crossI l m=0
 ·rw[(Wv (v:=v) h0).1];exact h
 ·obtain⟨u1,_,u3,u4,u5⟩:=atN (v:=v) hn h.z h.lo h.hi h0
  rw[u1];exact⟨u3,u4,u5⟩
def Gd(o:Option ao):ao:=o.getD ⟨0,0,false,false⟩
def Qr(G:Gh)(y:Value)(k:Is G (.tp [.ag [vI 0,vI 0, .v (.pointer none),vI 0,vI 0, .v (.pointer none), .v (.bool false), .v (.bool false)], .v (.bool false)]) y):Is G (.tp [eW (Gd none),vB false]) y:=by
 obtain⟨m,rfl,g⟩:=je.1 k;exact je.2 ⟨m,J,KK (fun y hy=>by
  obtain⟨l,rfl,g⟩:=cO.1 hy;exact cO.2 ⟨l,J,BE (Fv [vI 0,vI 0, .v (.pointer none)] g)⟩) g⟩
def ge{α:Type}{f:α->DV}{l:List α}{i:Nat}{s:α}(h:l[i]? =some s):(l.map f)[(i:Int).toNat]? =some (f s):=by simp[h]
def Hl{α:Type}{l:List α}{k:Nat}{s:α}(h:l[k]? =some s):l.drop k=s::l.drop (k+1):=by
 obtain⟨h1,h2⟩:=aS.1 h;rw[cX h1,h2]
def KY{l:ab}{c:aE}{v:ao}{k:Nat}{s:aP}(h:c[k]? =some s):mf l (c.drop k) v=if l.cutB v s.l then mf l (c.drop (k+1)) (l.cutV v s.l) else none:=by
 rw[Hl h];rfl
def D5{l:ab}{c:aE}{k:Nat}{s:aP}(h:c[k]? =some s):nB l (c.drop k)=if nf l s≠0 then nf l s else if s.l=l then 1 else nB l (c.drop (k+1)):=by
 rw[Hl h];rfl
instance BQ.sample (v:ao) [h1:BQ v.lo 1200] [h2:BQ v.hi 1200]:BQ v.sample 2500:=by
 unfold ao.sample;split
 ·exact BQ.mono (k:=1) ⟨by decide,by decide⟩ (by decide)
 ·split
  ·exact BQ.mono (inferInstance:BQ (v.hi-((1:Int):Rat)) _) (by decide)
  ·split
   ·exact BQ.mono (inferInstance:BQ (v.lo+((1:Int):Rat)) _) (by decide)
   ·exact BQ.mono (inferInstance:BQ ((v.lo+v.hi)*mkRat 1 2) _) (by decide)
def JV{c:aE}{l:ab}[hl:LB l](hlo:l.ok)(hc:jb c)(hn:c.length<=1000000):PF GB prog 274 [.sl (c.map bj),d8 l] (.tp [eW (Gd (lc c l)),vB (lc c l).isSome]):=by
 have hm:=ue bj c;refine fn func274 J J ntmps274 J J (fun C=>?_);refine cl (fu:=⟨10⟩) J Sn J<|?_;refine aA 12 (.d (vI (c.length:Nat))) J (by rw[ue]<;>rfl) ?_;refine gx J<|?_;refine lp (X:=ao×Nat) (fun⟨v,k⟩=>[(13, .d (vI (k:Nat))),(6, .ov 6 0)]) (fun⟨v,k⟩=>[(6,some (.o 220 [.d (vI (dt v.lo)), .d (vI (du v.lo)), .d (dl v.lo), .d (vI (dt v.hi)), .d (vI (du v.hi)), .d (dl v.hi), .d (.v (.bool v.nl)), .d (.v (.bool v.nh))] true))]) (fun⟨v,k⟩=>k<=c.length/\qI v/\mf l (c.drop k) v=lc c l) (fun⟨v,k⟩=>c.length-k) (ao.all,0) J ⟨cJ _, .all,J⟩ (fun _=>J) (fun⟨v,k⟩ hk=>?_);dsimp only at hk⊢;obtain⟨h1,h2,h3⟩:=hk;haveI:=h2.lo;haveI:=h2.hi;refine br J J J (fun hc14=>?_) (fun hc14=>?_)
 .
  obtain⟨s,hs0⟩: ∃s,c[k]? =some s:=⟨_,aX (by omega)⟩;have hs:=hc s (bU hs0);haveI:=hs.lb;refine ix _ J (ge hs0) J<|cl (fu:=⟨0⟩) J (xH (l:=l) (m:=s.l) (v:=v)) J<|?_;generalize hw:l.cutV v s.l=w;generalize hb:l.cutB v s.l=b;refine gx J<|?_;refine bb J J J (fun hc26=>?_) (fun hc26=>?_)
  .
   exact iA J (by rw[<-h3,KY hs0,hb,if_neg (by simpa using hc26)];exact Qr)
  .
   exact at_ (w,k+1) (by dsimp only;exact⟨⟨by omega,hw▸h2.cut hlo.1,by rw[<-h3,KY hs0,hb,hw,if_pos (by simpa using hc26)]⟩,(by omega)⟩)
 .
  exact rz J (by rw[<-h3,gV (by omega)];rfl)
def ZT{c:aE}{l:ab}[hl:LB l](hlo:l.ok)(hc:jb c)(hn:c.length<=1000000):PF GB prog 275 [.sl (c.map bj),d8 l] (vI (ui c l)):=by
 have hm:=ue bj c;refine fn func275 J J ntmps275 J J (fun C=>?_);refine cl J (JV (c:=c) (l:=l) hlo hc hn) J<|?_;refine bb (fu2:=⟨7⟩) J J J (fun hc16=>?_) (fun hc16=>?_)
 .
  exact rz J (by unfold ui;rw[if_pos hc16];rfl)
 .
  have hp:ui c l=nB l c:=by unfold ui;rw[if_neg (by simp[hc16])]
  refine aA 18 (.d (vI (c.length:Nat))) J (by rw[ue]<;>rfl) ?_;refine gx J<|?_;refine lp (X:=Nat) (fun k=>[(19, .d (vI (k:Nat)))]) (fun k=>[]) (fun k=>k<=c.length/\nB l (c.drop k)=nB l c) (fun k=>c.length-k) 0 J ⟨cJ _,J⟩ (fun _=>J) (fun k hk=>?_);obtain⟨h1,h2⟩:=hk;refine br J J J (fun hc20=>?_) (fun hc20=>?_)
  .
   obtain⟨s,hs0⟩: ∃s,c[k]? =some s:=⟨_,aX (by omega)⟩;have hs:=hc s (bU hs0);haveI:=hs.lb;haveI:=hs.v.lo;haveI:=hs.v.hi;haveI:=BQ.sample s.v;refine ix _ J (ge hs0) J<|cl (fu:=⟨0⟩) J (Mq (v:=s.v)) J<|?_;generalize ht:s.v.sample=t at*;refine gx J<|cl J (Bp (l:=s.l) (t:=t)) J<|cl J (ux (l:=l) (p:=s.l.at t)) J<|?_;refine br J J J (fun hc32=>?_) (fun hc32=>?_)
   .
    have hsd:nf l s=(l.value (s.l.at t)).num.sign:=by unfold nf;rw[ht]
    exact rz J (by rw[hp,<-h2,D5 hs0,hsd,if_pos hc32];rfl)
   .
    refine cl J (P' (l:=s.l) (m:=l)) J<|?_;refine bd J J J (fun hc37=>?_) (fun hc37=>?_)
    .
     have hsd:nf l s=(l.value (s.l.at t)).num.sign:=by unfold nf;rw[ht]
     exact rz J (by rw[hp,<-h2,D5 hs0,hsd,if_neg hc32,if_pos hc37];rfl)
    .
     have hsd:nf l s=(l.value (s.l.at t)).num.sign:=by unfold nf;rw[ht]
     exact at_ (k+1) ⟨⟨by omega,by rw[<-h2,D5 hs0,hsd,if_neg hc32,if_neg hc37]⟩,(by omega)⟩
  .
   exact rz J (by rw[hp,<-h2,gV (by omega)];rfl)
end Go.Sx
end
