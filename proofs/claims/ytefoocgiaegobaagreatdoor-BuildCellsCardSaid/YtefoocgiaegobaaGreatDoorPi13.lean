import Derived.Test.YtefoocgiaegobaaGreatDoorPi12
set_option linter.all false
set_option maxHeartbeats 4000000
set_option maxRecDepth 100000
section
namespace Go.Sx
open Go Go.Proofs Tryz
variable {GB:Gh}
def Mh{m:Int}{g:Nat}(hg:(g:Int)∣m)(hb:m.natAbs<4611686018427387904):IntKind.i64.wrap (m.tdiv g)=m/g:=by
 rw[Int.tdiv_eq_ediv_of_dvd hg];have:=nU m g;exact YY (by omega)
def tm(a b:Int):Int:=if(a*b).natAbs<4611686018427387904 then a*b else 0
def FM(a b:Int):(tm a b).natAbs<4611686018427387904:=by unfold tm;split<;>omega
def yQ{a b:Int}(h:(a*b).natAbs<4611686018427387904):tm a b=a*b:=if_pos h
def Q9{a b:Int}(h: ¬(a*b).natAbs<4611686018427387904):DV.tp [vI 0, .v (.bool false)]= .tp [vI (tm a b),vB (decide ((a*b).natAbs<4611686018427387904))]:=by unfold tm;rw[if_neg h,decide_eq_false h];rfl
def Mi{a b:Int}{x:Int}(h:(a*b).natAbs<4611686018427387904)(e:x=a*b):DV.tp [vI x, .v (.bool true)]= .tp [vI (tm a b),vB (decide ((a*b).natAbs<4611686018427387904))]:=by unfold tm;rw[if_pos h,decide_eq_true h,e];rfl
def L4(n:Nat):eI (n:Int)= .ag [.v (.bool false),dN n]:=by unfold eI;rw[decide_eq_false (by omega),kQ]
def Wy{p q:Rat}(hp:p.den=1)(hq:q.den=1):rgcd p q=((Nat.gcd p.num.natAbs q.num.natAbs:Nat):Int):=by
 conv=>lhs;rw[CE hp,CE hq]
 exact wn _ _
def V9(q:Rat):mkRat (zv (decide (q.num<0)) q.den) q.num.natAbs=q⁻¹:=by
 rw[Rat.inv_def];by_cases h:q.num<0
 ·rw[decide_eq_true h];exact Wf h
 ·rw[decide_eq_false h,<-Rat.divInt_ofNat,nS (by omega)];rfl
instance BQ.inv (q:Rat) (i:Nat) [h:BQ q i]:BQ q⁻¹ i:=by
 have h1:=h.hn;have h2:=h.hd;have h3:=q.den_nz;rcases mW q.num 0 with k|k|k
 ·obtain⟨e1,e2⟩:=Mg k;exact⟨by omega,by omega⟩
 ·have e:q=0:=lL.1 k
  have e0:(0:Rat)⁻¹=0:=Rat.inv_zero;rw[e] at h1 h2⊢;rw[e0];exact⟨h1,h2⟩
 ·obtain⟨e1,e2⟩:=I6 k;exact⟨by omega,by omega⟩
instance BQ.half:BQ (mkRat 1 2) 2:=⟨by decide,by decide⟩
def XD{x y:Nat}(hx:x<18446744073709551616)(hy:y<18446744073709551616):PF GB prog 359 [.v (.int .u64 (x:Nat)), .v (.int .u64 (y:Nat))] (.tp [.v (.int .u64 ((x*y/18446744073709551616:Nat):Int)), .v (.int .u64 ((x*y%18446744073709551616:Nat):Int))]):=fun G vs _ hv=>by
 obtain⟨v,m,rfl,h1,h2⟩:=aP.1 hv;obtain⟨u,m',rfl,h3,h4⟩:=aP.1 h2
 cases cG.1 h4
 rw[aF.1 h1,aF.1 h3];exact(aop hx hy).mono fun v G' _ h=>by subst h;exact iF.2 ⟨_,J, .cons (aF.2 J) (.cons (aF.2 J) .nil)⟩
def RB{a b:Nat}(ha:a<18446744073709551616)(hb:b<18446744073709551616):PF GB prog 349 [.v (.int .u64 (a:Nat)), .v (.int .u64 (b:Nat))] (.v (.int .u64 (Nat.gcd a b:Nat))):=by
 refine fn func349 J J ntmps349 J J (fun C=>?_);refine lp (X:=Nat×Nat) (fun⟨u,v⟩=>[(1, .d (.v (.int .u64 (v:Nat)))),(0, .d (.v (.int .u64 (u:Nat))))]) (fun⟨u,v⟩=>[]) (fun⟨u,v⟩=>u<18446744073709551616/\v<18446744073709551616/\Nat.gcd u v=Nat.gcd a b) (fun⟨u,v⟩=>v) (a,b) J ⟨ha,hb,J⟩ (fun _=>J) (fun⟨u,v⟩ hk=>?_);dsimp only at hk⊢;obtain⟨h1,h2,h3⟩:=hk;refine br (v1:=fun hc6=>by simp only[ah];exact⟨by omega,by kernel_rfl⟩) J J J (fun hc6=>?_) (fun hc6=>?_)
 .
  have hm:=dX u (show 0<v by omega);exact at_ (v,u%v) (by dsimp only;exact⟨⟨h2,by omega,by rw[<-h3,jV u v,tW v u,jV]⟩,hm⟩)
 .
  exact rz J (by rw[<-h3,show v=0 by omega,nJ];rfl)
def pP{m:Int}(h:m.natAbs<9223372036854775808):PF GB prog 199 [vI m] (eF (m:Rat)):=by
 refine fn func199 J J ntmps199 J J (fun C=>?_);refine cs 5 J J J (fun hg5=>?_) (fun hg5=>?_)
 .
  refine cl J (IS (m:=m) (by omega) (by omega)) J<|rf (fu:=⟨0⟩) J J<|?_;refine av 11 (.d (dN 1)) J (by unfold dN;rw[zq];rfl) ?_;refine gx J<|cl J (uc (n:=decide (m<0)) (a:=m.natAbs) (i:=63) (h:=⟨h⟩) (d:=1)) J<|?_;exact rz J (by rw[lx,show mkRat m 1=(m:Rat) from sV ..];rfl)
 .
  refine br J J J (fun hc8=>?_) (fun hc8=>?_)
  .
   refine cl J (IS (m:=m) (by omega) (by omega)) J<|rf (fu:=⟨0⟩) J J<|?_;refine av 11 (.d (dN 1)) J (by unfold dN;rw[zq];rfl) ?_;refine gx J<|cl J (uc (n:=decide (m<0)) (a:=m.natAbs) (i:=63) (h:=⟨h⟩) (d:=1)) J<|?_;exact rz J (by rw[lx,show mkRat m 1=(m:Rat) from sV ..];rfl)
  .
   exact ja J (OG (by omega))
def y8{a b:Int}(ha:a.natAbs<4611686018427387904)(hb:b.natAbs<4611686018427387904):PF GB prog 299 [vI a,vI b] (.tp [vI (tm a b),vB (decide ((a*b).natAbs<4611686018427387904))]):=by
 have hab:=iT a b;refine fn func299 J J ntmps299 J J (fun C=>?_);refine cl J (zJ (m:=a) (by omega)) J<|cl J (zJ (m:=b) (by omega)) J<|cl J (XD (x:=a.natAbs) (y:=b.natAbs) (by omega) (by omega)) J<|?_;refine cs 18 J J J (fun hg18=>?_) (fun hg18=>?_)
 .
  exact rz J (Q9 (by omega))
 .
  refine br J J J (fun hc21=>?_) (fun hc21=>?_)
  .
   exact rz J (Q9 (by omega))
  .
   refine bb J J J (fun hc26=>?_) (fun hc26=>?_)
   .
    have hs:=P1 a b;rw[if_neg (by simpa using hc26)] at hs;exact rz J (Mi (by omega) (by rw[hs,<-hab];omega))
   .
    have hs:=P1 a b;rw[if_pos (by simpa using hc26)] at hs;exact rz J (Mi (by omega) (by rw[hs,<-hab];omega))
def RM{m:Int}{d:Nat}(h:m.natAbs<4611686018427387904)(h0:0<d)(hd:d<4611686018427387904):PF GB prog 300 [vI m,vI (d:Nat)] (eF (mkRat m d)):=by
 have hg:Nat.gcd m.natAbs d<=d:=Nat.gcd_le_right _ h0;have hg0:0<Nat.gcd m.natAbs d:=oZ _ h0;obtain⟨e1,e2⟩:=Jh (m:=m) h0;have e3:=nU m (Nat.gcd m.natAbs d:Nat);have e4:=kR d (Nat.gcd m.natAbs d);have e5:=Nat.div_pos hg hg0;refine fn func300 J J ntmps300 J J (fun C=>?_);refine cl J (zJ (m:=m) (by omega)) J<|cl J (RB (a:=m.natAbs) (b:=d) (by omega) (by omega)) J<|?_;refine br (fu1:=⟨4⟩) J J J (fun hc13=>?_) (fun hc13=>?_)
 .
  refine av 16 (.d (vI (m/(Nat.gcd m.natAbs d:Nat)))) J (by rw[Mh (Int.dvd_natAbs.1 (rK.2 (kJ _ _))) h];rfl) ?_;refine gx (fu:=⟨3⟩) J<|?_;refine av 19 (.d (vI ((d/Nat.gcd m.natAbs d:Nat)))) J (by rw[Mh (rK.2 (lU _ _)) (by rw[kQ];exact hd)];rfl) ?_;refine gx (hv:=by simp only[ah];exact⟨by kernel_rfl,by omega⟩) J<|?_;exact ja J (sd (fun k=>k ⟨by rw[e1];omega,by rw[e2];omega⟩) e1 (by rw[e2]) J)
 .
  exact ja J (by have h1:Nat.gcd m.natAbs d=1:=(by omega);rw[h1,tY] at e2;rw[h1,Int.natCast_one,Int.ediv_one] at e1;exact sd (fun k=>k ⟨by rw[e1];omega,by rw[e2];omega⟩) e1 (by rw[e2]) J)
def si{p q:Rat}{i j:Nat}[h:BQ p i][k:BQ q j](hi:i<=100000000:=by decide)(hj:j<=100000000:=by decide):PF GB prog 207 [eF p,eF q] (eF (p*q)):=by
 refine fn (fu:=⟨8⟩) func207 J J ntmps207 J J (fun C=>?_);refine mg (X:=Unit) (fun _=>[(2, .ov 2 0),(3, .ov 3 0),(4, .ov 4 0)]) (fun _=>[(2,some (.o 139 [.d (vI (dC p)), .d (vI (dB p)), .d (du p)] true)),(3,some (.o 139 [.d (vI (dC q)), .d (vI (dB q)), .d (du q)] true)),(4,some (.o 139 [.d (.v (.int .i64 0)), .d (.v (.int .i64 0)), .d (.v (.pointer none))] true))]) (fun _=>True) [2,3,4] [2,3,4] rfl ?_ (fun _=>J) (fun _ _=>?_)
 .
  refine gx J<|?_;refine cs 12 J J J (fun hg12=>?_) (fun hg12=>?_)
  .
   refine br (fu1:=⟨4⟩) J J J (fun hc16=>?_) (fun hc16=>?_)
   .
    have hp:=r6 hg12;have hq:=r6 hc16;have p1:=nj hp;have p2:=oC hp;have p3:=pq hp;have p4:=qd hp;have p5:=p.den_nz;have q1:=nj hq;have q2:=oC hq;have q3:=pq hq;have q4:=qd hq;have q5:=q.den_nz;refine av 19 (.d (vI p.num)) J (by rw[p1]) ?_;refine gx (fu:=⟨2⟩) J<|?_;refine av 21 (.d (vI q.num)) J (by rw[q1]) ?_;refine gx J<|cl (fu:=⟨12⟩) J (y8 (a:=p.num) (b:=q.num) (by omega) (by omega)) J<|?_;refine av 28 (.d (vI (p.den:Nat))) J (by congr 3;omega) ?_;refine gx (fu:=⟨3⟩) J<|?_;refine av 31 (.d (vI (q.den:Nat))) J (by congr 3;omega) ?_;refine gx J<|cl J (y8 (a:=(p.den:Nat)) (b:=(q.den:Nat)) (by omega) (by omega)) J<|?_;refine csd 36 J J J (fun hg36=>?_) (fun hg36=>?_)
    .
     refine bd (fu1:=⟨3⟩) J J J (fun hc38=>?_) (fun hc38=>?_)
     .
      have hd1:p.den*q.den<4611686018427387904:=by omega
      refine av 39 (.d (vI (p.num*q.num))) J (by rw[yQ hg36]) ?_;refine gx (fu:=⟨1⟩) J<|?_;refine av 40 (.d (vI ((p.den*q.den:Nat)))) J (by rw[yQ hc38];rfl) ?_;refine gx J<|cl J (RM (m:=p.num*q.num) (d:=p.den*q.den) hg36 (jT (by omega) (by omega)) hd1) J<|?_;exact rz J (by rw[<-zR];rfl)
     .
      exact at_ () trivial
    .
     exact at_ () trivial
   .
    exact at_ () trivial
  .
   exact at_ () trivial
 .
  refine cl J (td (q:=p) (by omega)) J<|cl J (td (q:=q) (by omega)) J<|cl J (FO (a:=p.num) (b:=q.num) (by omega) (by omega)) J<|?_;refine cl J (rI (q:=p) (by omega)) J<|cl J (rI (q:=q) (by omega)) J<|cl J (wI (a:=p.den) (b:=q.den) (by omega) (by omega)) J<|?_;refine cl J (uc (n:=decide (p.num*q.num<0)) (a:=(p.num*q.num).natAbs) (d:=p.den*q.den) (i:=i+j) (j:=i+j) (by omega) (by omega)) J<|?_;exact rz J (by rw[lx,<-zR];rfl)
def s5{p q:Rat}{i j:Nat}[h:BQ p i][k:BQ q j](hi:i<=100000000:=by decide)(hj:j<=100000000:=by decide):PF GB prog 208 [eF p,eF q] (eF (p+q)):=by
 refine fn (fu:=⟨8⟩) func208 J J ntmps208 J J (fun C=>?_);refine mg (X:=Unit) (fun _=>[(2, .ov 2 0),(3, .ov 3 0),(4, .ov 4 0)]) (fun _=>[(2,some (.o 139 [.d (vI (dC p)), .d (vI (dB p)), .d (du p)] true)),(3,some (.o 139 [.d (vI (dC q)), .d (vI (dB q)), .d (du q)] true)),(4,some (.o 139 [.d (.v (.int .i64 0)), .d (.v (.int .i64 0)), .d (.v (.pointer none))] true))]) (fun _=>True) [2,3,4] [2,3,4] rfl ?_ (fun _=>J) (fun _ _=>?_)
 .
  refine gx J<|?_;refine cs 16 J J J (fun hg16=>?_) (fun hg16=>?_)
  .
   refine br (fu1:=⟨1⟩) J J J (fun hc20=>?_) (fun hc20=>?_)
   .
    have hp:=r6 hg16;have hq:=r6 hc20;have p1:=nj hp;have p2:=oC hp;have p3:=pq hp;have p4:=qd hp;have p5:=p.den_nz;have q1:=nj hq;have q2:=oC hq;have q3:=pq hq;have q4:=qd hq;have q5:=q.den_nz;refine mg (fu:=⟨4⟩) (X:=Unit) (fun _=>[(2, .ov 2 0),(3, .ov 3 0),(4, .ov 4 0)]) (fun _=>[(2,some (.o 139 [.d (vI (dC p)), .d (vI (dB p)), .d (du p)] true)),(3,some (.o 139 [.d (vI (dC q)), .d (vI (dB q)), .d (du q)] true)),(4,some (.o 139 [.d (.v (.int .i64 0)), .d (.v (.int .i64 0)), .d (.v (.pointer none))] true))]) (fun _=>True) [2,3,4] [2,3,4] rfl ?_ (fun _=>J) (fun _ _=>?_)
    .
     refine gx J<|?_;refine cs 24 J J J (fun hg24=>?_) (fun hg24=>?_)
     .
      refine br (fu1:=⟨4⟩) J J J (fun hc28=>?_) (fun hc28=>?_)
      .
       refine av 30 (.d (vI p.num)) J (by rw[p1]) ?_;refine gx (fu:=⟨2⟩) J<|?_;refine av 32 (.d (vI q.num)) J (by rw[q1]) ?_;refine gx J<|cl J (pP (m:=p.num+q.num) (by omega)) J<|?_;exact rz J (by rw[CE (q:=p) (by omega),CE (q:=q) (by omega),<-oN];rfl)
      .
       exact at_ () trivial
     .
      exact at_ () trivial
    .
     refine av 37 (.d (vI p.num)) J (by rw[p1]) ?_;refine gx (fu:=⟨3⟩) J<|?_;refine av 40 (.d (vI (q.den:Nat))) J (by congr 3;omega) ?_;refine gx J<|cl (fu:=⟨11⟩) J (y8 (a:=p.num) (b:=(q.den:Nat)) (by omega) (by omega)) J<|?_;refine av 46 (.d (vI q.num)) J (by rw[q1]) ?_;refine gx (fu:=⟨3⟩) J<|?_;refine av 49 (.d (vI (p.den:Nat))) J (by congr 3;omega) ?_;refine gx J<|cl (fu:=⟨12⟩) J (y8 (a:=q.num) (b:=(p.den:Nat)) (by omega) (by omega)) J<|?_;refine av 56 (.d (vI (p.den:Nat))) J (by congr 3;omega) ?_;refine gx (fu:=⟨3⟩) J<|?_;refine av 59 (.d (vI (q.den:Nat))) J (by congr 3;omega) ?_;refine gx J<|cl (fu:=⟨3⟩) J (y8 (a:=(p.den:Nat)) (b:=(q.den:Nat)) (by omega) (by omega)) J<|?_;have t1:=FM p.num (q.den:Nat);have t2:=FM q.num (p.den:Nat);have t3:=FM (p.den:Nat) (q.den:Nat);refine gx J<|?_;refine csd 67 J J J (fun hg67=>?_) (fun hg67=>?_)
     .
      refine csd 70 J J J (fun hg70=>?_) (fun hg70=>?_)
      .
       refine csd 73 J J J (fun hg73=>?_) (fun hg73=>?_)
       .
        refine cs 77 J J J (fun hg77=>?_) (fun hg77=>?_)
        .
         refine br (fu1:=⟨3⟩) J J J (fun hc80=>?_) (fun hc80=>?_)
         .
          have u1:=yQ hg67;have u2:=yQ hg70;have u3:=yQ hg73;have hd1:p.den*q.den<4611686018427387904:=by omega
          refine av 81 (.d (vI (p.num*(q.den:Nat)+q.num*(p.den:Nat)))) J (by rw[u1,u2];rfl) ?_;refine gx (fu:=⟨1⟩) J<|?_;refine av 82 (.d (vI ((p.den*q.den:Nat)))) J (by rw[u3];rfl) ?_;refine gx J<|cl J (RM (m:=p.num*(q.den:Nat)+q.num*(p.den:Nat)) (d:=p.den*q.den) (by omega) (jT (by omega) (by omega)) hd1) J<|?_;exact rz J (by rw[<-zi];rfl)
         .
          exact at_ () trivial
        .
         exact at_ () trivial
       .
        exact at_ () trivial
      .
       exact at_ () trivial
     .
      exact at_ () trivial
   .
    exact at_ () trivial
  .
   exact at_ () trivial
 .
  refine cl J (td (q:=p) (by omega)) J<|cl (fu:=⟨1⟩) J (rI (q:=q) (by omega)) J<|?_;refine av 88 (.d (eI (q.den:Nat))) J (by rw[L4]) ?_;refine gx J<|cl J (FO (a:=p.num) (b:=(q.den:Nat)) (by omega) (by omega)) J<|cl J (td (q:=q) (by omega)) J<|cl (fu:=⟨1⟩) J (rI (q:=p) (by omega)) J<|?_;refine av 94 (.d (eI (p.den:Nat))) J (by rw[L4]) ?_;refine gx J<|cl J (FO (a:=q.num) (b:=(p.den:Nat)) (by omega) (by omega)) J<|cl J (Uv (a:=p.num*(q.den:Nat)) (b:=q.num*(p.den:Nat)) (i:=i+j) (j:=j+i) (by omega) (by omega)) J<|?_;refine cl J (rI (q:=p) (by omega)) J<|cl J (rI (q:=q) (by omega)) J<|cl J (wI (a:=p.den) (b:=q.den) (by omega) (by omega)) J<|?_;refine cl J (uc (n:=decide (p.num*(q.den:Nat)+q.num*(p.den:Nat)<0)) (a:=(p.num*(q.den:Nat)+q.num*(p.den:Nat)).natAbs) (d:=p.den*q.den) (i:=i+j+(j+i)+1) (j:=i+j) (by omega) (by omega)) J<|?_;exact rz J (by rw[lx,<-zi];rfl)
def tA{p q:Rat}{i j:Nat}[h:BQ p i][k:BQ q j](hi:i<=100000000:=by decide)(hj:j<=100000000:=by decide):PF GB prog 334 [eF p,eF q] (eF (p-q)):=by
 refine fn func334 J J ntmps334 J J (fun C=>?_);refine cl J (ot (q:=q) (by omega)) J<|cl J (s5 (p:=p) (q:= -q) (by omega) (by omega)) J<|?_;exact rz J (by rw[<-Rat.sub_eq_add_neg];rfl)
def DS{q:Rat}{i:Nat}[h:BQ q i](hi:i<=400000000:=by decide):PF GB prog 127 [eF q] (eF q⁻¹):=by
 refine fn func127 J J ntmps127 J J (fun C=>?_);refine br (v1:=fun hc3=>by simp only[ah];exact⟨⟨hc3,hc3⟩,hc3⟩) J J J (fun hc3=>?_) (fun hc3=>?_)
 .
  refine cl J (uc (n:=decide (q.num<0)) (a:=q.den) (d:=q.num.natAbs) (by omega) (by omega)) J<|?_;exact rz J (by rw[V9];rfl)
 .
  have q1:=nj (oh hc3);have q2:=oC (oh hc3);have q3:=pq (oh hc3);have q4:=qd (oh hc3);have q5:=q.den_nz;refine br J J J (fun hc26=>?_) (fun hc26=>?_)
  .
   exact ja rfl (by obtain⟨e1,e2⟩:=Mg (q:=q) (by omega);exact sd (fun k=>k ⟨by omega,by omega⟩) (by omega) (by omega) rfl)
  .
   refine br J J J (fun hc39=>?_) (fun hc39=>?_)
   .
    exact ja J (by rw[lL.1 (show q.num=0 by omega),Rat.inv_zero];exact vW)
   .
    exact ja rfl (by obtain⟨e1,e2⟩:=I6 (q:=q) (by omega);exact sd (fun k=>k ⟨by omega,by omega⟩) (by omega) (by omega) rfl)
def Ac{p q:Rat}{i j:Nat}[h:BQ p i][k:BQ q j](hi:i<=100000000:=by decide)(hj:j<=100000000:=by decide):PF GB prog 304 [eF p,eF q] (eF (p/q)):=by
 refine fn func304 J J ntmps304 J J (fun C=>?_);refine cl J (DS (q:=q) (by omega)) J<|cl J (si (p:=p) (q:=q⁻¹) (by omega) (by omega)) J<|?_;exact rz J (by rw[Rat.div_def];rfl)
def LL{G:Gh}{q r:DV}{t:List DV}{vs:List Value}(h: ∀y,Is G r y->Is G q y)(hv:IsLs G (r::t) vs):IsLs G (q::t) vs:=by
 obtain⟨y,m,rfl,h1,h2⟩:=aP.1 hv;exact .cons (h _ h1) h2
def Hs{G:Gh}{a q r:DV}{t:List DV}{vs:List Value}(h: ∀y,Is G r y->Is G q y)(hv:IsLs G (a::r::t) vs):IsLs G (a::q::t) vs:=by
 obtain⟨y,m,rfl,h1,h2⟩:=aP.1 hv;exact .cons h1 (LL h h2)
def V4{q:Rat}{i:Nat}[h:BQ q i](hi:i<=100000000:=by decide):PF GB prog 207 [eF q, .ag [vI 1,vI 1, .v (.pointer none)]] (eF (q*mkRat 1 2)):=
 (si (p:=q) (q:=mkRat 1 2) hi).ofI fun G vs hv=>Hs (fun y hy=>sd (q:=mkRat 1 2) (fun k=>k ⟨by decide,by decide⟩) (by decide) (by decide) J G y hy) hv
def IX{q:Rat}{i:Nat}[h:BQ q i](hi:i<=100000000:=by decide):PF GB prog 214 [eF q] (eF (q*mkRat 1 2)):=by
 refine fn func214 J J ntmps214 J J (fun C=>?_);refine cl J (V4 (q:=q) (by omega)) J<|?_;exact rz J J
def qm{p q:Rat}{i j:Nat}[h:BQ p i][k:BQ q j](hi:i<=100000000:=by decide)(hj:j<=100000000:=by decide):PF GB prog 232 [eF p,eF q] (vI (cg p q)):=by
 refine fn func232 J J ntmps232 J J (fun C=>?_);refine cs 8 J J J (fun hg8=>?_) (fun hg8=>?_)
 .
  refine cs 13 J J J (fun hg13=>?_) (fun hg13=>?_)
  .
   refine br J J J (fun hc19=>?_) (fun hc19=>?_)
   .
    have hp:=r6 hg8;have hq:=r6 hg13;have p1:=nj hp;have p2:=oC hp;have p3:=pq hp;have p4:=qd hp;have p5:=p.den_nz;have q1:=nj hq;have q2:=oC hq;have q3:=pq hq;have q4:=qd hq;have q5:=q.den_nz;have hl:=Oe (a:=p) (b:=q) (by omega);have hr:=Oe (a:=q) (b:=p) (by omega);unfold cg;refine br J J J (fun hc20=>?_) (fun hc20=>?_)
    .
     exact rz J (by rw[if_pos (hl.2 (by omega))];rfl)
    .
     refine br J J J (fun hc26=>?_) (fun hc26=>?_)
     .
      exact rz J (by rw[if_neg (fun e=>by have:=hl.1 e;omega),if_pos (hr.2 (by omega))];rfl)
     .
      exact rz J (by rw[if_neg (fun e=>by have:=hl.1 e;omega),if_neg (fun e=>by have:=hr.1 e;omega)];rfl)
   .
    refine cl J (tA (p:=p) (q:=q) (by omega) (by omega)) J<|cl J (my (q:=p-q) (by omega)) J<|?_;exact rz J (by rw[Cd];rfl)
  .
   refine cl J (tA (p:=p) (q:=q) (by omega) (by omega)) J<|cl J (my (q:=p-q) (by omega)) J<|?_;exact rz J (by rw[Cd];rfl)
 .
  refine cl J (tA (p:=p) (q:=q) (by omega) (by omega)) J<|cl J (my (q:=p-q) (by omega)) J<|?_;exact rz J (by rw[Cd];rfl)
def xo{p q:Rat}{i j:Nat}[h:BQ p i][k:BQ q j](hi:i<=100000000:=by decide)(hj:j<=100000000:=by decide):PF GB prog 273 [eF p,eF q] (vB (decide (p=q))):=by
 refine fn func273 J J ntmps273 J J (fun C=>?_);refine cl J (qm (p:=p) (q:=q) hi hj) J<|?_;exact rz J (by show DV.v (.bool (decide _))= .v (.bool _);congr 2;exact decide_eq_decide.2 (vJ p q))
def aFv{p q:Rat}{i j:Nat}[h:BQ p i][k:BQ q j](hi:i<=100000000:=by decide)(hj:j<=100000000:=by decide):PF GB prog 380 [eF p,eF q] (eF (if p<q then q else p)):=by
 refine fn func380 J J ntmps380 J J (fun C=>?_);refine cl J (qm (p:=q) (q:=p) hj hi) J<|?_;refine br J J J (fun hc8=>?_) (fun hc8=>?_)
 .
  exact rz J (by rw[if_pos ((N6 q p).1 hc8)];rfl)
 .
  exact rz J (by rw[if_neg (fun e=>hc8 ((N6 q p).2 e))];rfl)
def Ka{p q:Rat}{i j:Nat}[h:BQ p i][k:BQ q j](hi:i<=100000000:=by decide)(hj:j<=100000000:=by decide):PF GB prog 288 [eF p,eF q] (eF (if q<p then q else p)):=by
 refine fn func288 J J ntmps288 J J (fun C=>?_);refine cl J (qm (p:=q) (q:=p) hj hi) J<|?_;refine br J J J (fun hc8=>?_) (fun hc8=>?_)
 .
  exact rz J (by rw[if_pos ((Jy q p).1 hc8)];rfl)
 .
  exact rz J (by rw[if_neg (fun e=>hc8 ((Jy q p).2 e))];rfl)
def n8{p q:Rat}{i j:Nat}[h:BQ p i][k:BQ q j](hi:i<=100000000:=by decide)(hj:j<=100000000:=by decide):PF GB prog 272 [eF p,eF q] (eF (rgcd p q)):=by
 refine fn (fu:=⟨8⟩) func272 J J ntmps272 J J (fun C=>?_);refine mg (X:=Unit) (fun _=>[(2, .ov 2 0),(3, .ov 3 0),(4, .ov 4 0)]) (fun _=>[(2,some (.o 139 [.d (vI (dC p)), .d (vI (dB p)), .d (du p)] true)),(3,some (.o 139 [.d (vI (dC q)), .d (vI (dB q)), .d (du q)] true)),(4,some (.o 139 [.d (.v (.int .i64 0)), .d (.v (.int .i64 0)), .d (.v (.pointer none))] true))]) (fun _=>True) [2,3,4] [2,3,4] rfl ?_ (fun _=>J) (fun _ _=>?_)
 .
  refine gx J<|?_;refine cs 10 J J J (fun hg10=>?_) (fun hg10=>?_)
  .
   refine cs 15 J J J (fun hg15=>?_) (fun hg15=>?_)
   .
    have hp:=r6 hg10;have hq:=r6 hg15;have p1:=nj hp;have p2:=oC hp;have p3:=pq hp;have p4:=qd hp;have p5:=p.den_nz;have q1:=nj hq;have q2:=oC hq;have q3:=pq hq;have q4:=qd hq;have q5:=q.den_nz;refine cs 20 J J J (fun hg20=>?_) (fun hg20=>?_)
    .
     refine br (fu1:=⟨4⟩) J J J (fun hc24=>?_) (fun hc24=>?_)
     .
      have hg:=U8 p3 q3;refine av 26 (.d (vI p.num)) J (by rw[p1]) ?_;refine gx J<|cl (fu:=⟨2⟩) J (zJ (m:=p.num) (by omega)) J<|?_;refine av 29 (.d (vI q.num)) J (by rw[q1]) ?_;refine gx J<|cl J (zJ (m:=q.num) (by omega)) J<|cl (hv:=by simp only[ah];exact⟨by omega,by kernel_rfl⟩) J (RB (a:=p.num.natAbs) (b:=q.num.natAbs) (by omega) (by omega)) J<|?_;exact ja J (by rw[Wy (p:=p) (q:=q) (by omega) (by omega)];exact OG (by rw[kQ];exact hg))
     .
      exact at_ () trivial
    .
     exact at_ () trivial
   .
    exact at_ () trivial
  .
   exact at_ () trivial
 .
  refine cl J (rI (q:=p) (by omega)) J<|cl J (rI (q:=q) (by omega)) J<|cl J (wI (a:=p.den) (b:=q.den) (by omega) (by omega)) J<|?_;refine cl J (td (q:=p) (by omega)) J<|cl J (rI (q:=q) (by omega)) J<|cl J (wI (a:=p.num.natAbs) (b:=q.den) (by omega) (by omega)) J<|?_;refine cl J (td (q:=q) (by omega)) J<|cl J (rI (q:=p) (by omega)) J<|cl J (wI (a:=q.num.natAbs) (b:=p.den) (by omega) (by omega)) J<|?_;refine cl J (Iw (a:=p.num.natAbs*q.den) (b:=q.num.natAbs*p.den) (i:=i+j) (j:=j+i) (by omega) (by omega)) J<|cl J (uc (n:=false) (a:=Nat.gcd (p.num.natAbs*q.den) (q.num.natAbs*p.den)) (d:=p.den*q.den) (i:=i+j+(j+i)) (j:=i+j) (by omega) (by omega)) J<|?_;exact rz J J
end Go.Sx
end
section
namespace Go.Sx
open Go
def crossI(l m:aa):Int:=l.a*m.b-m.a*l.b
def meetX(l m:aa):Int:=l.b*m.c-m.b*l.c
def meetY(l m:aa):Int:=m.a*l.c-l.a*m.c
def gr(l m:aa):ab:=if crossI l m=0 then⟨0,0⟩ else⟨(meetX l m:Rat)/(crossI l m:Rat),(meetY l m:Rat)/(crossI l m:Rat)⟩
def fg(l:aa)(p:ab):Rat:=p.dot l.dir/l.dir.dot l.dir
def H3(l:aa):l.dir.dot l.dir=l.nor.dot l.nor:=by
 simp only[aa.dir,aa.nor,ab.dot];grind
def xy{l:aa}(h:l.Ne):0<l.dir.dot l.dir:=by rw[H3];exact po h
def AO(l m:aa):((crossI l m:Int):Rat)=(l.a:Rat)*m.b-(m.a:Rat)*l.b:=by
 unfold crossI;rw[mU,cS,cS]
def MP(l m:aa):((meetX l m:Int):Rat)=(l.b:Rat)*m.c-(m.b:Rat)*l.c:=by
 unfold meetX;rw[mU,cS,cS]
def OS(l m:aa):((meetY l m:Int):Rat)=(m.a:Rat)*l.c-(l.a:Rat)*m.c:=by
 unfold meetY;rw[mU,cS,cS]
def Am(l m:aa):l.cutK m= -((crossI l m:Int):Rat):=by
 rw[AO];simp only[aa.cutK,aa.nor,aa.dir,ab.dot];grind
def Oj(l m:aa):m.dir.cross l.dir=l.cutK m:=by
 simp only[aa.cutK,aa.nor,aa.dir,ab.dot,ab.cross];grind
def Ls{l:aa}:(⟨-((l.c:Rat)/l.dir.dot l.dir)*(l.a:Rat), -((l.c:Rat)/l.dir.dot l.dir)*(l.b:Rat)⟩:ab)=l.base:=by
 unfold aa.base;rw[H3];simp only[aa.nor,ab.scale,ab.mk.injEq];constructor<;>grind
def sr(l:aa)(t:Rat):ce l.base l.dir t=l.at t:=by
 simp only[ce,aa.at,ab.add,ab.scale,ab.mk.injEq];constructor<;>grind
def xh{l m:aa}(hl:l.Ne)(h:crossI l m≠0):fg l (gr l m)= -(l.cutC m/l.cutK m):=by
 have hd:((crossI l m:Int):Rat)≠0:=fun e=>h (dQ.1 e);have hn:=xy hl;obtain⟨q,q1,q2⟩:=zO hl;rw[Am];unfold fg gr aa.cutC;rw[if_neg h,q2,lB,MP,OS];have hc:=AO l m;rw[H3] at hn⊢;simp only[aa.dir,aa.nor,ab.dot] at hn q1⊢;generalize ((crossI l m:Int):Rat)=d at*;generalize (l.a:Rat)=a at*;generalize (l.b:Rat)=b at*;generalize (l.c:Rat)=c at*;generalize (m.a:Rat)=x at*;generalize (m.b:Rat)=y at*;generalize (m.c:Rat)=z at*;have hn':a*a+b*b≠0:=by grind
 have e:((b*z-y*c)/d*b+(x*c-a*z)/d* -a)=((b*z-y*c)*b-(x*c-a*z)*a)/d:=by grind
 rw[e];have k1:(b*z-y*c)*b-(x*c-a*z)*a=(a*a+b*b)*(x*(a*q)+y*(b*q)+z):=by grind
 rw[k1];grind
def UV{l m:aa}(hl:l.Ne)(h:crossI l m≠0):fg l (gr l m)*((crossI l m*(l.a*l.a+l.b*l.b):Int):Rat)=((meetX l m*l.b-meetY l m*l.a:Int):Rat):=by
 have hd:((crossI l m:Int):Rat)≠0:=fun e=>h (dQ.1 e);have hn:=xy hl;unfold fg gr;rw[if_neg h];simp only[cS,mU,oN];simp only[aa.dir,ab.dot] at hn⊢;generalize ((crossI l m:Int):Rat)=d at*;generalize ((meetX l m:Int):Rat)=x at*;generalize ((meetY l m:Int):Rat)=y at*;generalize (l.a:Rat)=a at*;generalize (l.b:Rat)=b at*;have hn':b*b+ -a* -a≠0:=by grind
 grind
def F'(l m:aa)(t:List aa)(v:aj):fk l (m::t) v=if m=l then fk l t v else if l.cutB v m then fk l t (l.cutV v m) else none:=rfl
def oE(v:aj)(t:Rat):aj:=if v.nl=true\/0<cg t v.lo then⟨t,v.hi,false,v.nh⟩ else v
def oy(v:aj)(t:Rat):aj:=if v.nh=true\/cg t v.hi<0 then⟨v.lo,t,v.nl,false⟩ else v
structure ik (v:aj):Prop where
 lo:v.nl=true->v.lo=0
 hi:v.nh=true->v.hi=0
def CM(a b:Rat):0<cg a b↔b<a:=by
 unfold cg;split
 ·constructor
  ·intro h;exact absurd h (by decide)
  ·intro h;grind
 ·split
  ·exact⟨fun _=>by assumption,fun _=>by decide⟩
  ·constructor
   ·intro h;exact absurd h (by decide)
   ·intro h;exact absurd h (by assumption)
def F5(a b:Rat):cg a b<0↔a<b:=by
 unfold cg;split
 ·exact⟨fun _=>by assumption,fun _=>by decide⟩
 ·split
  ·constructor
   ·intro h;exact absurd h (by decide)
   ·intro h;grind
  ·constructor
   ·intro h;exact absurd h (by decide)
   ·intro h;exact absurd h (by assumption)
def Q3{v:aj}(h:ik v)(t:Rat):oE v t=v.meet ⟨t,0,false,true⟩:=by
 obtain⟨lo,hi,nl,nh⟩:=v;obtain⟨h1,h2⟩:=h;unfold oE aj.meet;simp only[CM] at*
 cases nl<;>cases nh<;>simp at* <;>(try (split<;>split<;>simp_all<;>grind))<;>grind
def K8{v:aj}(h:ik v)(t:Rat):oy v t=v.meet ⟨0,t,true,false⟩:=by
 obtain⟨lo,hi,nl,nh⟩:=v;obtain⟨h1,h2⟩:=h;unfold oy aj.meet;simp only[F5] at*
 cases nl<;>cases nh<;>simp at* <;>(try (split<;>split<;>simp_all<;>grind))<;>grind
def ik.all:ik aj.all:=⟨fun _=>J,fun _=>J⟩
def ik.lo'{v:aj}(h:ik v)(t:Rat):ik (oE v t):=by
 obtain⟨lo,hi,nl,nh⟩:=v;unfold oE;split
 ·exact⟨fun h=>by simp at h,h.hi⟩
 ·exact h
def ik.hi'{v:aj}(h:ik v)(t:Rat):ik (oy v t):=by
 obtain⟨lo,hi,nl,nh⟩:=v;unfold oy;split
 ·exact⟨h.lo,fun h=>by simp at h⟩
 ·exact h
def AC{l m:aa}{v:aj}(h:crossI l m=0):l.cutV v m=v/\(l.cutB v m=true↔0<m.value l.base):=by
 have hk:l.cutK m=0:=by rw[Am,h];rfl
 exact xP v hk
def aAN{l m:aa}{v:aj}(hl:l.Ne)(hz:ik v)(h:0<m.dir.cross l.dir):crossI l m≠0/\l.cutV v m=oE v (fg l (gr l m))/\l.cutB v m=!(oE v (fg l (gr l m))).empty:=by
 rw[Oj] at h;have hc:crossI l m≠0:=fun e=>by rw[Am,e] at h;exact absurd h (by decide)
 obtain⟨h1,h2⟩:=xR v h;refine⟨hc,?_,?_⟩
 ·rw[Q3 hz,xh hl hc,h1]
 ·rw[Q3 hz,xh hl hc,<-h1]
  rw[<-BU] at h2
  cases hb:l.cutB v m<;>cases he:(l.cutV v m).empty<;>simp_all
def Sb{l m:aa}{v:aj}(hl:l.Ne)(hz:ik v)(h0:crossI l m≠0)(h: ¬0<m.dir.cross l.dir):l.cutV v m=oy v (fg l (gr l m))/\l.cutB v m=!(oy v (fg l (gr l m))).empty:=by
 rw[Oj] at h;have hk:l.cutK m≠0:=fun e=>by
  rw[Am] at e;have:((crossI l m:Int):Rat)=0:=by grind
  exact h0 (dQ.1 this)
 obtain⟨h1,h2⟩:=wT (l:=l) (m:=m) v (by grind);refine⟨?_,?_⟩
 ·rw[K8 hz,xh hl h0,h1]
 ·rw[K8 hz,xh hl h0,<-h1]
  rw[<-BU] at h2
  cases hb:l.cutB v m<;>cases he:(l.cutV v m).empty<;>simp_all
end Go.Sx
end
section
namespace Go.Sx
open Go Go.Proofs Tryz
variable {GB:Gh}

def cT:Tr->List DV
 | .leaf b=>[.v (.bool true), .v (.bool b), .v (.bool false), .sl [], .v (.bool false), .sl [], .v (.bool false), .sl [], .v (.pointer none), .v (.pointer none)]
 | .node l x y=>[.v (.bool false), .v (.bool false), .v (.bool (decide (l.a<0))),dN l.a.natAbs, .v (.bool (decide (l.b<0))),dN l.b.natAbs, .v (.bool (decide (l.c<0))),dN l.c.natAbs, .pt (cT x), .pt (cT y)]
def eT(t:Tr):DV:= .pt (cT t)
def eN(n:NQ):DV:= .ag [.v (.bool (decide (n.l.a<0))),dN n.l.a.natAbs, .v (.bool (decide (n.l.b<0))),dN n.l.b.natAbs, .v (.bool (decide (n.l.c<0))),dN n.l.c.natAbs, .v (.int .i64 n.a), .v (.int .i64 n.b)]
def eA(t:Tr):DV:= .ag [.v (.int .i64 (t.num 0)), .sl ((t.wr 0).map eN)]
def xj{G:Gh}{k:Nat}{z:IV}{m:Int}(h:l8 k G z m):Is G (.v (.bool (decide (m<0)))) (.bool z.neg)/\Is G (dN m.natAbs) (.slice z.a.a z.a.n z.a.c):=
 ⟨aF.2 (by rw[h.neg]),(HH h.abs.lt).2 ⟨_,J,h.abs⟩⟩
def D6{G:Gh}{k:Nat}{m:Int}{u v:Value}(hm:m.natAbs<2^k)(h1:Is G (.v (.bool (decide (m<0)))) u)(h2:Is G (dN m.natAbs) v): ∃z:IV,u= .bool z.neg/\v= .slice z.a.a z.a.n z.a.c/\l8 k G z m:=by
 obtain⟨x,rfl,hx⟩:=(HH hm).1 h2;exact⟨⟨decide (m<0),x⟩,aF.1 h1,J,J,hx⟩
structure BL (l:aa) (k:Nat):Prop where
 a:l.a.natAbs<2^k
 b:l.b.natAbs<2^k
 c:l.c.natAbs<2^k
def TG{G:Gh}{k:Nat}{l:aa}{v:Value}(hl:BL l k)(h:Is G (eL l) v): ∃a b c:IV,v= .agg ⟨[.bool a.neg, .slice a.a.a a.a.n a.a.c, .bool b.neg, .slice b.a.a b.a.n b.a.c, .bool c.neg, .slice c.a.a c.a.n c.a.c]⟩/\l8 k G a l.a/\l8 k G b l.b/\l8 k G c l.c:=by
 obtain⟨m,rfl,g⟩:=c8.1 h;clear h;obtain⟨v1,m,rfl,h1,h⟩:=aP.1 g;obtain⟨v2,m,rfl,h2,h⟩:=aP.1 h;obtain⟨v3,m,rfl,h3,h⟩:=aP.1 h;obtain⟨v4,m,rfl,h4,h⟩:=aP.1 h;obtain⟨v5,m,rfl,h5,h⟩:=aP.1 h;obtain⟨v6,m,rfl,h6,h⟩:=aP.1 h;rw[cG] at h;subst h;obtain⟨a,rfl,rfl,ha⟩:=D6 hl.a h1 h2;obtain⟨b,rfl,rfl,hb⟩:=D6 hl.b h3 h4;obtain⟨c,rfl,rfl,hc⟩:=D6 hl.c h5 h6;exact⟨a,b,c,J,ha,hb,hc⟩
def YC{G:Gh}{k:Nat}{n:NQ}{z:ND}(h:rp k G z n):Is G (eN n) z.val:=by
 refine c8.2 ⟨_,J, .cons (xj h.a).1 (.cons (xj h.a).2 (.cons (xj h.b).1 (.cons (xj h.b).2 (.cons (xj h.c).1 (.cons (xj h.c).2 (.cons (aF.2 ?_) (.cons (aF.2 ?_) .nil)))))))⟩
 ·rw[h.l]
 ·rw[h.r]
def NG{G:Gh}{k:Nat}: ∀{ns:List NQ} {zs:List ND},gl (rp k G) zs ns->IsLs G (ns.map eN) (zs.map ND.val)
 |_,_, .nil=> .nil
 |_,_, .cons h t=> .cons (YC h) (NG t)
def aGU(ns:List NQ):ew 8 (ns.map eN):=fun d hd=>by
 obtain⟨n,_,rfl⟩:=bJ.1 hd;exact⟨rfl,rfl⟩
def Zh{G:Gh}{k:Nat}{t:Tr}{x:SV}(h:SY k G x (t.wr 0)):Is G (eA t) (.agg ⟨[.int .i64 (t.num 0), .slice x.a x.n x.c]⟩):=by
 obtain⟨zs,h1,h2⟩:=h;exact c8.2 ⟨_,J, .cons (aF.2 J) (.cons (ij.2 ⟨8,x,_,J,h1,NG h2⟩) .nil)⟩
def Tr.all_wr{p:aa->Prop}: ∀{t:Tr} (n:Nat),t.all p-> ∀x∈t.wr n,p x.l
 | .leaf b,n,_,x,hx=>by cases hx
 | .node l u v,n,⟨h1,h2,h3⟩,x,hx=>by
  simp only[Tr.wr,cW,aY,bV] at hx;rcases hx with rfl|hx|hx
  ·exact h1
  ·exact u.all_wr _ h2 x hx
  ·exact v.all_wr _ h3 x hx
structure LS (l:aa):Prop where
 ok:l.ok
 a:l.a.natAbs<=4
 b:l.b.natAbs<=4
 c:l.c.natAbs<=40000
def LS.bl{l:aa}(h:LS l):BL l 96:=⟨by have:=h.a;omega,by have:=h.b;omega,by have:=h.c;omega⟩
def LS.rev{l:aa}(h:LS l):LS l.rev:=⟨h.ok.rev,by rw[show l.rev.a= -l.a from J,iR];exact h.a,by rw[show l.rev.b= -l.b from J,iR];exact h.b,by rw[show l.rev.c= -l.c from J,iR];exact h.c⟩
def uu{xs:List aa}{i:Nat}(h:i<xs.length):(xs.map eL)[(i:Int).toNat]? =some (eL xs[i]):=by simp[h]
def ui(xs:List aa):(xs.map eL).length=xs.length:=aJ ..
def Wq(xs:List aa)(i:Nat)(l:aa):(xs.map eL).set (i:Int).toNat (eL l)=(xs.set i l).map eL:=by rw[oR,bQ]
def Zn{α:Type}{xs:List α}{i:Nat}{p:α->Prop}(h: ∀x∈xs.take i,p x)(hi:i<xs.length)(hy:p xs[i]): ∀x∈xs.take (i+1),p x:=by
 intro x hx;rw[fJ hi] at hx;simp only[bV,aW] at hx;rcases hx with hx|rfl
 ·exact h x hx
 ·exact hy
def atG{a b:Int}(h:decide (a<0)=decide (b<0)):decide (a.natAbs=b.natAbs)=decide (a=b):=by
 have h':a<0↔b<0:=by simpa using h
 exact decide_eq_decide.2 ⟨fun e=>by omega,fun e=>by rw[e]⟩
def aa.ext'{l m:aa}(h1:l.a=m.a)(h2:l.b=m.b)(h3:l.c=m.c):l=m:=by cases l;cases m;simp_all
instance:DecidableEq NQ:=fun x y=>decidable_of_iff (x.l=y.l/\x.a=y.a/\x.b=y.b) (by
 cases x;cases y;simp)
def NQ.ext'{n m:NQ}(h1:n.l=m.l)(h2:n.a=m.a)(h3:n.b=m.b):n=m:=by cases n;cases m;simp_all
def sj(ls:List aa):ew 6 (ls.map eL):=fun d hd=>by
 obtain⟨n,_,rfl⟩:=bJ.1 hd;exact⟨rfl,rfl⟩
def ZX{a b:Nat}(hl:(dg a).length=(dg b).length)(h: ∀j,j<(dg a).length->(dg a).getD j 0=(dg b).getD j 0):a=b:=by
 have e:dg a=dg b:=by
  apply List.ext_getElem hl;intro i h1 h2;have:=h i h1;rw[aK,aK,aX h1,aX h2] at this;exact this
 rw[<-cp a,e,cp]
def js{z:Int}:PF GB prog 150 [eI z] (eQ (z:Rat)):=by
 refine fn func150 J J ntmps150 J J (fun C=>?_);exact rz J (by rw[Da];rfl)
def XL{l:aa}:PF GB prog 66 [eL l] (eL l.rev):=by
 refine fn func66 J J ntmps66 J J (fun C=>?_);refine cl J zY J<|cl J zY J<|cl J zY J<|?_;exact rz J J
def X9{a b i j:Nat}[ha:BN a i][hb:BN b j](hi:i<=400000000:=by decide):PF GB prog 211 [dN a,dN b] (vB (decide (a=b))):=by
 have hla:=fm (dg a);have hlb:=fm (dg b);have hba:=l9 ha.h;refine fn func211 J J ntmps211 J J (fun C=>?_);refine br (fu2:=⟨7⟩) J J J (fun hc10=>?_) (fun hc10=>?_)
 .
  exact rz J (by rw[decide_eq_false (fun e:a=b=>hc10 (by rw[e]))];rfl)
 .
  refine av 12 (.d (vI ((dg a).length:Nat))) J (by rw[hla];rfl) ?_;refine gx J<|?_;refine lp (X:=Nat) (fun i=>[(13, .d (vI (i:Nat))),(12, .d (vI ((dg a).length:Nat))),(0, .d (dN a)),(1, .d (dN b))]) (fun i=>[]) (fun i=>i<=(dg a).length/\ ∀j,j<i->(dg a).getD j 0=(dg b).getD j 0) (fun i=>(dg a).length-i) 0 J ⟨bU _,fun j hj=>absurd hj (by omega)⟩ (fun _=>J) (fun i hk=>?_);obtain⟨h1,h2⟩:=hk;refine br J J J (fun hc14=>?_) (fun hc14=>?_)
  .
   refine ix _ J (mE (by omega)) J<|ix _ J (mE (by omega)) J<|?_;refine br J J J (fun hc24=>?_) (fun hc24=>?_)
   .
    exact rz J (by rw[decide_eq_false (fun e:a=b=>hc24 (by rw[e]))];rfl)
   .
    exact at_ (i+1) ⟨⟨by omega,fun j hj=>by by_cases q:j=i;(subst q;omega);exact h2 j (by omega)⟩,(by omega)⟩
  .
   exact rz J (by rw[decide_eq_true (ZX (by omega) (fun j hj=>h2 j (by omega)))];rfl)
def FQ{a b:Int}{i j:Nat}[ha:BI a i][hb:BI b j](hi:i<=400000000:=by decide):PF GB prog 172 [eI a,eI b] (vB (decide (a=b))):=by
 refine fn (fu:=⟨14⟩) func172 J J ntmps172 J J (fun C=>?_);refine av 9 (.d (.v (.bool (decide (decide (a<0)=decide (b<0)))))) J (by congr 2) ?_;refine gx J<|?_;refine csd 10 J J J (fun hg10=>?_) (fun hg10=>?_)
 .
  refine cl J (X9 (by omega)) J<|?_;exact rz J (by show DV.v (.bool _)=DV.v (.bool _);rw[<-atG hg10])
 .
  exact rz J (by rw[decide_eq_false (fun e:a=b=>hg10 (by rw[e]))];rfl)
def W3{l m:aa}(hl:BL l 96)(hm:BL m 96):PF GB prog 80 [eL l,eL m] (vB (decide (l=m))):=by
 haveI h1:BI l.a 96:=⟨hl.a⟩;haveI h2:BI l.b 96:=⟨hl.b⟩;haveI h3:BI l.c 96:=⟨hl.c⟩;haveI k1:BI m.a 96:=⟨hm.a⟩;haveI k2:BI m.b 96:=⟨hm.b⟩;haveI k3:BI m.c 96:=⟨hm.c⟩;refine fn func80 J J ntmps80 J J (fun C=>?_);refine cl J (FQ (a:=l.a) (b:=m.a)) J<|?_;refine csd 10 J J J (fun hg10=>?_) (fun hg10=>?_)
 .
  refine cl J (FQ (by omega)) J<|?_;refine csd 17 J J J (fun hg17=>?_) (fun hg17=>?_)
  .
   refine cl J (FQ (by omega)) J<|?_;exact rz J (by show DV.v (.bool _)=DV.v (.bool _);rw[decide_eq_decide.2 ⟨fun e=>aa.ext' hg10 hg17 e,fun e=>by rw[e]⟩])
  .
   exact rz J (by rw[decide_eq_false (fun e:l=m=>hg17 (by rw[e]))];rfl)
 .
  exact rz J (by rw[decide_eq_false (fun e:l=m=>hg10 (by rw[e]))];rfl)
class LB (l:aa):Prop where bl:BL l 96
instance LB.a (l:aa) [h:LB l]:BI l.a 96:=⟨h.bl.a⟩
instance LB.b (l:aa) [h:LB l]:BI l.b 96:=⟨h.bl.b⟩
instance LB.c (l:aa) [h:LB l]:BI l.c 96:=⟨h.bl.c⟩
class aI (p:ab) (k:outParam Nat):Prop where
 x:BQ p.x k
 y:BQ p.y k
instance aI.ix (p:ab) (k:Nat) [h:aI p k]:BQ p.x k:=h.x
instance aI.iy (p:ab) (k:Nat) [h:aI p k]:BQ p.y k:=h.y
instance aI.dir (l:aa) [LB l]:aI l.dir 97:=⟨inferInstanceAs (BQ (l.b:Rat) 97),inferInstanceAs (BQ (-(l.a:Rat)) 97)⟩
instance BQ.dot (p q:ab) (i j:Nat) [aI p i] [aI q j]:BQ (p.dot q) (i+j+(i+j)+1):=inferInstanceAs (BQ (p.x*q.x+p.y*q.y) _)
instance BQ.cross (p q:ab) (i j:Nat) [aI p i] [aI q j]:BQ (p.cross q) (i+j+(i+j)+1):=inferInstanceAs (BQ (p.x*q.y-p.y*q.x) _)
instance aI.mov (p q:ab) (c:Rat) (i j k:Nat) [aI p i] [aI q j] [BQ c k]:aI (ce p q c) (i+(k+j)+1):=⟨inferInstanceAs (BQ (p.x+c*q.x) _),inferInstanceAs (BQ (p.y+c*q.y) _)⟩
instance BQ.value (l:aa) (p:ab) (i:Nat) [LB l] [aI p i]:BQ (l.value p) (96+1+i+(96+1+i)+1+(96+1)+1):=inferInstanceAs (BQ ((l.a:Rat)*p.x+(l.b:Rat)*p.y+(l.c:Rat)) _)
def Pf{l:aa}(h:l.Ne):l.dir.dot l.dir≠0:=by have:=xy h;grind
def ug{l:aa}:PF GB prog 164 [eL l] (eP l.dir):=by
 refine fn func164 J J ntmps164 J J (fun C=>?_);refine cl J js J<|cl J js J<|cl J vp J<|?_;exact rz J J
def FT{p q:ab}{i j:Nat}[hp:aI p i][hq:aI q j](hi:i<=200000:=by decide)(hj:j<=200000:=by decide):PF GB prog 236 [eP p,eP q] (eQ (p.dot q)):=by
 refine fn func236 J J ntmps236 J J (fun C=>?_);refine cl J (ji (by omega) (by omega)) J<|cl J (ji (by omega) (by omega)) J<|cl J (q6 (by omega) (by omega)) J<|?_;exact rz J J
def RE{p q:ab}{i j:Nat}[hp:aI p i][hq:aI q j](hi:i<=200000:=by decide)(hj:j<=200000:=by decide):PF GB prog 99 [eP p,eP q] (eQ (p.cross q)):=by
 refine fn func99 J J ntmps99 J J (fun C=>?_);refine cl J (ji (by omega) (by omega)) J<|cl J (ji (by omega) (by omega)) J<|cl J (uQ (by omega) (by omega)) J<|?_;exact rz J J
def Cb{p q:ab}{c:Rat}{i j k:Nat}[hp:aI p i][hq:aI q j][hc:BQ c k](hi:i<=19000000:=by decide)(hj:j<=9000000:=by decide)(hk:k<=9000000:=by decide):PF GB prog 100 [eP p,eQ c,eP q] (eP (ce p q c)):=by
 refine fn func100 J J ntmps100 J J (fun C=>?_);refine cl J (ji (by omega) (by omega)) J<|cl J (q6 (by omega) (by omega)) J<|cl J (ji (by omega) (by omega)) J<|cl J (q6 (by omega) (by omega)) J<|?_;exact rz J J
def BZ{l:aa}{p:ab}{i:Nat}[hl:LB l][hp:aI p i](hi:i<=400000:=by decide):PF GB prog 159 [eL l,eP p] (eQ (l.value p)):=by
 refine fn func159 J J ntmps159 J J (fun C=>?_);refine cl J (js (z:=l.a)) J<|cl J (ji (by omega) (by omega)) J<|cl J (js (z:=l.b)) J<|cl J (ji (by omega) (by omega)) J<|?_;refine cl J (q6 (by omega) (by omega)) J<|cl J (js (z:=l.c)) J<|cl J (q6 (by omega) (by omega)) J<|?_;exact rz J J
def BW{l:aa}{p:ab}{i:Nat}[hl:LB l][hp:aI p i](hi:i<=400000:=by decide):PF GB prog 65 [eL l,eP p] (vI (l.value p).num.sign):=by
 refine fn func65 J J ntmps65 J J (fun C=>?_);refine cl J (BZ hi) J<|cl J tk J<|?_;exact rz J J
def Nh{l:aa}[hl:LB l](hn:l.Ne):PF GB prog 144 [eL l] (eP l.base):=by
 refine fn func144 J J ntmps144 J J (fun C=>?_);refine cl J ug J<|cl J (js (z:=l.c)) J<|cl J FT J<|cl J (xQ (Pf hn)) J<|cl J vp J<|cl J (js (z:=l.a)) J<|?_;refine cl J ji J<|cl J (js (z:=l.b)) J<|cl J ji J<|?_;exact rz J (by rw[<-Ls];rfl)
instance aI.base (l:aa) [LB l]:aI l.base 900:=by
 rw[<-Ls];constructor
 ·exact BQ.mono (inferInstance:BQ (-((l.c:Rat)/l.dir.dot l.dir)*(l.a:Rat)) _) (by decide)
 ·exact BQ.mono (inferInstance:BQ (-((l.c:Rat)/l.dir.dot l.dir)*(l.b:Rat)) _) (by decide)
def aJf{l:aa}{t:Rat}{k:Nat}[hl:LB l][ht:BQ t k](hn:l.Ne)(hk:k<=200000:=by decide):PF GB prog 71 [eL l,eQ t] (eP (l.at t)):=by
 refine fn func71 J J ntmps71 J J (fun C=>?_);refine cl J (Nh hn) J<|cl J ug J<|cl J (Cb (by decide) (by decide) (by omega)) J<|?_;exact rz J (by rw[<-sr];rfl)
def WT{l:aa}{p:ab}{k:Nat}[hl:LB l][hp:aI p k](hn:l.Ne)(hk:k<=200000:=by decide):PF GB prog 262 [eL l,eP p] (eQ (fg l p)):=by
 refine fn func262 J J ntmps262 J J (fun C=>?_);refine cl J ug J<|cl J (FT (by omega) (by decide)) J<|cl J (FT (by omega) (by decide)) J<|cl J (xQ (Pf hn) (by omega) (by decide)) J<|?_;exact rz J J
instance BI.crossI (l m:aa) [LB l] [LB m]:BI (crossI l m) 385:=inferInstanceAs (BI (l.a*m.b-m.a*l.b) 385)
instance BI.meetX (l m:aa) [LB l] [LB m]:BI (meetX l m) 385:=inferInstanceAs (BI (l.b*m.c-m.b*l.c) 385)
instance BI.meetY (l m:aa) [LB l] [LB m]:BI (meetY l m) 385:=inferInstanceAs (BI (m.a*l.c-l.a*m.c) 385)
instance aI.imeet (l m:aa) [LB l] [LB m]:aI (gr l m) 772:=by
 unfold gr;split
 ·exact⟨BQ.mono (k:=1) ⟨by decide,by decide⟩ (by decide),BQ.mono (k:=1) ⟨by decide,by decide⟩ (by decide)⟩
 ·exact⟨inferInstanceAs (BQ ((meetX l m:Rat)/(crossI l m:Rat)) 772),inferInstanceAs (BQ ((meetY l m:Rat)/(crossI l m:Rat)) 772)⟩
def NP(l m:aa):(((l.a:Rat)*(m.b:Rat)-(m.a:Rat)*(l.b:Rat)).num.sign=0)↔crossI l m=0:=by
 rw[jj,<-AO];exact dQ
def MS{l m:aa}(h:crossI l m≠0):(l.a:Rat)*(m.b:Rat)-(m.a:Rat)*(l.b:Rat)≠0:=by
 rw[<-AO];exact fun e=>h (dQ.1 e)
def Zk{l m:aa}[hl:LB l][hm:LB m]:PF GB prog 70 [eL l,eL m] (.tp [eP (gr l m),vB (decide (crossI l m≠0))]):=by
 refine fn func70 J J ntmps70 J J (fun C=>?_);refine cl J (js (z:=l.a)) J<|cl J (js (z:=m.b)) J<|cl J ji J<|cl J (js (z:=m.a)) J<|cl J (js (z:=l.b)) J<|?_;refine cl J ji J<|cl J uQ J<|cl J tk J<|?_;refine br J J J (fun hc26=>?_) (fun hc26=>?_)
 .
  have hcr:=(NP l m).1 hc26;exact rz J (by unfold gr;rw[if_pos hcr,decide_eq_false (fun e=>e hcr)];show DV.tp [.ag [_, .sl [], .sl [],_, .sl [], .sl []],_]= .tp [eP ⟨0,0⟩,_];unfold eP dD;simp only[show(0:Rat).num=0 from J,show(0:Rat).den=1 from J,qM,vh];rfl)
 .
  have hcr:crossI l m≠0:=fun e=>hc26 ((NP l m).2 e);refine cl J (js (z:=l.b)) J<|cl J (js (z:=m.c)) J<|cl J ji J<|cl J (js (z:=m.b)) J<|cl J (js (z:=l.c)) J<|?_;refine cl J ji J<|cl J uQ J<|cl J (js (z:=m.a)) J<|cl J (js (z:=l.c)) J<|cl J ji J<|cl J (js (z:=l.a)) J<|?_;refine cl J (js (z:=m.c)) J<|cl J ji J<|cl J uQ J<|cl J (xQ (MS hcr)) J<|cl J (xQ (MS hcr)) J<|?_;exact rz J (by unfold gr;rw[if_neg hcr,decide_eq_true hcr,MP,OS,AO];rfl)
def vX(l m:aa):Int:=if(l.a-m.a).sign≠0 then(l.a-m.a).sign else if(l.b-m.b).sign≠0 then(l.b-m.b).sign else(l.c-m.c).sign
def Bj(l m:aa):vX l m=0↔l=m:=by
 unfold vX;constructor
 ·intro h
  split at h
  ·contradiction
  ·split at h
   ·contradiction
   ·rename_i h1 h2
    have a1:=kV.1 (Decidable.not_not.1 h1);have a2:=kV.1 (Decidable.not_not.1 h2);have a3:=kV.1 h;exact aa.ext' (by omega) (by omega) (by omega)
 ·rintro rfl
  simp
def M7{l m:aa}[hl:LB l][hm:LB m]:PF GB prog 179 [eL l,eL m] (vI (vX l m)):=by
 refine fn func179 J J ntmps179 J J (fun C=>?_);refine cl J (Fz (a:=l.a) (b:=m.a)) J<|?_;refine br J J J (fun hc13=>?_) (fun hc13=>?_)
 .
  exact rz J (by show vI _=_;unfold vX;rw[if_pos hc13])
 .
  refine cl J (Fz (a:=l.b) (b:=m.b)) J<|?_;refine br J J J (fun hc21=>?_) (fun hc21=>?_)
  .
   exact rz J (by show vI _=_;unfold vX;rw[if_neg hc13,if_pos hc21])
  .
   refine cl J (Fz (a:=l.c) (b:=m.c)) J<|?_;exact rz J (by show vI _=_;unfold vX;rw[if_neg hc13,if_neg hc21])
def JQ{v:ab}:PF GB prog 344 [eP v] (vI v.half):=by
 refine fn func344 J J ntmps344 J J (fun C=>?_);refine cl J (tk (q:=v.x)) J<|cl J (tk (q:=v.y)) J<|?_;refine cs 13 J J J (fun hg13=>?_) (fun hg13=>?_)
 .
  refine br J J J (fun hc16=>?_) (fun hc16=>?_)
  .
   exact rz J (by show vI _=vI _;unfold ab.half;generalize v.x.num.sign=sx at*;generalize v.y.num.sign=sy at*;congr 1;(repeat' split)<;>omega)
  .
   refine cs 19 J J J (fun hg19=>?_) (fun hg19=>?_)
   .
    exact rz J (by show vI _=vI _;unfold ab.half;generalize v.x.num.sign=sx at*;generalize v.y.num.sign=sy at*;congr 1;(repeat' split)<;>omega)
   .
    refine cs 22 J J J (fun hg22=>?_) (fun hg22=>?_)
    .
     refine br J J J (fun hc26=>?_) (fun hc26=>?_)
     .
      exact rz J (by show vI _=vI _;unfold ab.half;generalize v.x.num.sign=sx at*;generalize v.y.num.sign=sy at*;congr 1;(repeat' split)<;>omega)
     .
      exact rz J (by show vI _=vI _;unfold ab.half;generalize v.x.num.sign=sx at*;generalize v.y.num.sign=sy at*;congr 1;(repeat' split)<;>omega)
    .
     exact rz J (by show vI _=vI _;unfold ab.half;generalize v.x.num.sign=sx at*;generalize v.y.num.sign=sy at*;congr 1;(repeat' split)<;>omega)
 .
  refine cs 19 J J J (fun hg19=>?_) (fun hg19=>?_)
  .
   exact rz J (by show vI _=vI _;unfold ab.half;generalize v.x.num.sign=sx at*;generalize v.y.num.sign=sy at*;congr 1;(repeat' split)<;>omega)
  .
   refine cs 22 J J J (fun hg22=>?_) (fun hg22=>?_)
   .
    refine br J J J (fun hc26=>?_) (fun hc26=>?_)
    .
     exact rz J (by show vI _=vI _;unfold ab.half;generalize v.x.num.sign=sx at*;generalize v.y.num.sign=sy at*;congr 1;(repeat' split)<;>omega)
    .
     exact rz J (by show vI _=vI _;unfold ab.half;generalize v.x.num.sign=sx at*;generalize v.y.num.sign=sy at*;congr 1;(repeat' split)<;>omega)
   .
    exact rz J (by show vI _=vI _;unfold ab.half;generalize v.x.num.sign=sx at*;generalize v.y.num.sign=sy at*;congr 1;(repeat' split)<;>omega)
def OD(z:Int): -1<=z.sign/\z.sign<=1:=by
 rcases mW z 0 with h|h|h
 ·rw[fQ h];omega
 ·rw[h];decide
 ·rw[fR h];omega
def aBT{u v:ab}{i j:Nat}[hu:aI u i][hv:aI v j](hi:i<=200000:=by decide)(hj:j<=200000:=by decide):PF GB prog 250 [eP u,eP v] (vI (ck u v)):=by
 refine fn func250 J J ntmps250 J J (fun C=>?_);refine cl J (JQ (v:=u)) J<|cl J (JQ (v:=v)) J<|?_;refine br J J J (fun hc13=>?_) (fun hc13=>?_)
 .
  refine br J J J (fun hc16=>?_) (fun hc16=>?_)
  .
   exact rz J (by show vI _=vI _;unfold ck;rw[if_pos hc16])
  .
   exact rz J (by show vI _=vI _;unfold ck;rw[if_neg hc16,if_pos (by omega)])
 .
  refine cl J (RE hi hj) J<|cl (hv:=by simp only[ah];exact(by have:=OD (u.cross v).num;omega)) J tk J<|?_;exact rz J (by show vI _=vI _;unfold ck;rw[if_neg (by omega),if_neg (by omega)])
instance BQ.i1:BQ (((1:Int):Rat)) 2:=⟨by decide,by decide⟩
def eV(v:aj):DV:= .ag [.v (.bool (decide (v.lo.num<0))),dN v.lo.num.natAbs,dD v.lo.den, .v (.bool (decide (v.hi.num<0))),dN v.hi.num.natAbs,dD v.hi.den, .v (.bool v.nl), .v (.bool v.nh)]
def Y3:eV aj.all= .ag [.v (.bool false), .sl [], .sl [], .v (.bool false), .sl [], .sl [], .v (.bool true), .v (.bool true)]:=by
 unfold eV aj.all dD;simp only[show(0:Rat).num=0 from J,show(0:Rat).den=1 from J,qM,vh];rfl
def azT:eQ 0= .ag [.v (.bool false), .sl [], .sl []]:=by
 unfold eQ dD;simp only[show(0:Rat).num=0 from J,show(0:Rat).den=1 from J,qM,vh];rfl
def lE(v:aj):Rat:=if v.nl=true/\v.nh=true then 0 else if v.nl=true then v.hi-1 else if v.nh=true then v.lo+1 else(v.lo+v.hi)/2
def aDU:PF GB prog 343 [] (eV aj.all):=by
 refine fn func343 J J ntmps343 J J (fun C=>?_);exact rz J (by rw[Y3];rfl)
def XE{v:aj}{i:Nat}[hl:BQ v.lo i][hh:BQ v.hi i](hi:i<=100000:=by decide):PF GB prog 252 [eV v] (eQ (lE v)):=by
 refine fn func252 J J ntmps252 J J (fun C=>?_);refine lv 6 J J J (fun hg6=>?_) (fun hg6=>?_)
 .
  refine bb J J J (fun hc3=>?_) (fun hc3=>?_)
  .
   exact rz J (by unfold lE;rw[if_pos ⟨hg6,hc3⟩,azT];rfl)
  .
   refine bb J J J (fun hc11=>?_) (fun hc11=>?_)
   .
    refine cl J (o7 (n:=1) (by decide) (by decide)) J<|cl J (uQ (a:=v.hi) (b:=((1:Int):Rat)) (by omega) (by decide)) J<|?_;exact rz J (by unfold lE;rw[if_neg (by simp[hc3]),if_pos hc11];rfl)
   .
    refine bb J J J (fun hc18=>?_) (fun hc18=>?_)
    .
     refine cl J (o7 (n:=1) (by decide) (by decide)) J<|cl J (q6 (a:=v.lo) (b:=((1:Int):Rat)) (by omega) (by decide)) J<|?_;exact rz J (by simp[hg6] at hc11)
    .
     refine cl J (PA (a:=v.lo) (b:=v.hi) (by omega) (by omega)) J<|?_;exact rz J (by simp[hg6] at hc11)
 .
  refine bb J J J (fun hc11=>?_) (fun hc11=>?_)
  .
   refine cl J (o7 (n:=1) (by decide) (by decide)) J<|cl J (uQ (a:=v.hi) (b:=((1:Int):Rat)) (by omega) (by decide)) J<|?_;exact rz J (by simp[hg6] at hc11)
  .
   refine bb J J J (fun hc18=>?_) (fun hc18=>?_)
   .
    refine cl J (o7 (n:=1) (by decide) (by decide)) J<|cl J (q6 (a:=v.lo) (b:=((1:Int):Rat)) (by omega) (by decide)) J<|?_;exact rz J (by unfold lE;rw[if_neg (by simp[hg6]),if_neg (by simp[hg6]),if_pos hc18];rfl)
   .
    refine cl J (PA (a:=v.lo) (b:=v.hi) (by omega) (by omega)) J<|?_;exact rz J (by unfold lE;rw[if_neg (by simp[hg6]),if_neg (by simp[hg6]),if_neg (by simp[hc18])];rfl)
theorem BQ.of_fracI{q:Rat}{n D:Int}{i:Nat}(hd:0<D.natAbs)(h:q*((D.natAbs:Nat):Rat)=(n:Rat))(hn:BI n i)(hD:BI D i):BQ q i:=BQ.of_frac hd h hn.h hD.h
theorem Dq{m:Int}{i j:Nat}(h:BI m i)(hij:i<=j):BI m j:=⟨dJ h.h (bR (by decide) hij)⟩
theorem Eq{l m:aa}[LB l][LB m](hn:l.Ne)(h:crossI l m≠0):BQ (fg l (gr l m)) 1200:=by
 have e:=UV hn h;have hA:BI (crossI l m*(l.a*l.a+l.b*l.b)) _:=inferInstance;have hB:BI (meetX l m*l.b-meetY l m*l.a) _:=inferInstance;have hne:crossI l m*(l.a*l.a+l.b*l.b)≠0:=by
  intro q;rcases sM.1 q with q|q
  ·exact h q
  ·have h1:=xy hn
   simp only[aa.dir,ab.dot] at h1;have h2:((l.a*l.a+l.b*l.b:Int):Rat)=((0:Int):Rat):=by rw[q]
   rw[oN,cS,cS] at h2;have h3:((0:Int):Rat)=0:=J;rw[h3] at h2;grind
 have hA':=Dq (j:=1200) hA (by decide);have hB':=Dq (j:=1200) hB (by decide);generalize crossI l m*(l.a*l.a+l.b*l.b)=D at*;generalize meetX l m*l.b-meetY l m*l.a=M at*;by_cases hD:0<D
 ·refine BQ.of_fracI (n:=M) (D:=D) (by omega) ?_ hB' hA'
  rw[<-e];congr 1;have:((D.natAbs:Nat):Int)=D:=by omega
  rw[<-this];rfl
 ·refine BQ.of_fracI (n:= -M) (D:=D) (by omega) ?_ (BI.neg M 1200 (h:=hB')) hA'
  rw[pQ,<-e];have:((D.natAbs:Nat):Rat)= -(D:Rat):=by
   have h1:((D.natAbs:Nat):Int)= -D:=by omega
   rw[<-pQ,<-h1];rfl
  rw[this];grind
def QZ(k:Rat):k.num.sign<=0↔ ¬0<k:=by rw[<-mr];omega
def Tq{w:aj}(h1: ¬w.nl=true)(h2: ¬w.nh=true)(h3:0<=cg w.lo w.hi):w.empty=true:=by
 unfold aj.empty;simp[h1,h2,h3]
def anS{w:aj}(h:w.nl=true):w.empty=false:=by unfold aj.empty;simp[h]
def Um{w:aj}(h:w.nh=true):w.empty=false:=by unfold aj.empty;simp[h]
def ZO{w:aj}(h: ¬0<=cg w.lo w.hi):w.empty=false:=by unfold aj.empty;simp[h]
def gt(l:aa):List aa->aj->aj×Bool
 |[],v=>(v,true)
 |m::t,v=>if m=l then gt l t v else if l.cutB v m=true then gt l t (l.cutV v m) else(l.cutV v m,false)
def vR{l:aa}: ∀{c:List aa} {v:aj},(gt l c v).2=(fk l c v).isSome
 |[],v=>rfl
 |m::t,v=>by
  rw[gt,F'];split
  ·exact vR
  ·split
   ·exact vR
   ·rfl
structure jy (l:aa) (c:List aa) (k:Nat) (v:aj):Prop where
 le:k<=c.length
 p:fk l (c.drop k) v=fk l c aj.all
 e:gt l (c.drop k) v=gt l c aj.all
 z:ik v
 lo:BQ v.lo 1200
 hi:BQ v.hi 1200
def jy.skip{l:aa}{c:List aa}{k:Nat}{v:aj}(h:jy l c k v)(hk:k<c.length)(e:c[k]=l):jy l c (k+1) v:=
 ⟨hk,by have:=h.p;rw[aM hk,F',if_pos e] at this;exact this,by have:=h.e;rw[aM hk,gt,if_pos e] at this;exact this,h.z,h.lo,h.hi⟩
def jy.cut{l:aa}{c:List aa}{k:Nat}{v w:aj}(h:jy l c k v)(hk:k<c.length)(e:c[k]≠l)(hb:l.cutB v c[k]=true)(hw:l.cutV v c[k]=w)(z:ik w)(lo:BQ w.lo 1200)(hi:BQ w.hi 1200):jy l c (k+1) w:=
 ⟨hk,by have:=h.p;rw[aM hk,F',if_neg e,if_pos hb,hw] at this;exact this,by have:=h.e;rw[aM hk,gt,if_neg e,if_pos hb,hw] at this;exact this,z,lo,hi⟩
def jy.no{l:aa}{c:List aa}{k:Nat}{v w:aj}(h:jy l c k v)(hk:k<c.length)(e:c[k]≠l)(hb:l.cutB v c[k]=false)(hw:l.cutV v c[k]=w):gt l c aj.all=(w,false):=by
 rw[<-h.e,aM hk,gt,if_neg e,if_neg (by rw[hb];decide),hw]
def jy.yes{l:aa}{c:List aa}{k:Nat}{v:aj}(h:jy l c k v)(hk:c.length<=k):gt l c aj.all=(v,true):=by
 rw[<-h.e,iW hk];rfl
def jy.all{l:aa}{c:List aa}:jy l c 0 aj.all:=⟨bU _,by rw[jJ],by rw[jJ],ik.all,BQ.mono (k:=1) ⟨by decide,by decide⟩ (by decide),BQ.mono (k:=1) ⟨by decide,by decide⟩ (by decide)⟩
def O2{v:aj}{t:Rat}(h:v.nl=true\/0<cg t v.lo):(⟨t,v.hi,false,v.nh⟩:aj)=oE v t:=by unfold oE;rw[if_pos h]
def aA5{v:aj}{t:Rat}(h: ¬v.nl=true)(h2: ¬0<cg t v.lo):v=oE v t:=by unfold oE;rw[if_neg (fun e=>e.elim h h2)]
def Oi{v:aj}{t:Rat}(h:v.nh=true\/cg t v.hi<0):(⟨v.lo,t,v.nl,false⟩:aj)=oy v t:=by unfold oy;rw[if_pos h]
def Zi{v:aj}{t:Rat}(h: ¬v.nh=true)(h2: ¬cg t v.hi<0):v=oy v t:=by unfold oy;rw[if_neg (fun e=>e.elim h h2)]
def og(l m:aa)(v:aj):aj:=if 0<(m.dir.cross l.dir).num.sign then oE v (fg l (gr l m)) else oy v (fg l (gr l m))
def Iq{l m:aa}{v:aj}[LB l][LB m](hn:l.Ne)(hz:ik v)(hlo:BQ v.lo 1200)(hhi:BQ v.hi 1200)(h0:crossI l m≠0):l.cutV v m=og l m v/\l.cutB v m=!(og l m v).empty/\ik (og l m v)/\BQ (og l m v).lo 1200/\BQ (og l m v).hi 1200:=by
 have hb:=Eq (l:=l) (m:=m) hn h0;unfold og;split
 ·rename_i h
  obtain⟨_,h1,h2⟩:=aAN hn hz ((mr _).1 h);refine⟨h1,h2,hz.lo' _,?_⟩;unfold oE;split
  ·exact⟨hb,hhi⟩
  ·exact⟨hlo,hhi⟩
 ·rename_i h
  obtain⟨h1,h2⟩:=Sb hn hz h0 (fun e=>h ((mr _).2 e));refine⟨h1,h2,hz.hi' _,?_⟩;unfold oy;split
  ·exact⟨hlo,hb⟩
  ·exact⟨hlo,hhi⟩
theorem D8{l:aa}[LB l](hn:l.Ne): ∀{c:List aa} {v:aj},(∀m∈c,LB m)->ik v->BQ v.lo 1200->BQ v.hi 1200->BQ (gt l c v).1.lo 1200/\BQ (gt l c v).1.hi 1200
 |[],v,_,_,h1,h2=>⟨h1,h2⟩
 |m::t,v,hc,hz,h1,h2=>by
  haveI:=hc m aQ;have hw:ik (l.cutV v m)/\BQ (l.cutV v m).lo 1200/\BQ (l.cutV v m).hi 1200:=by
   by_cases h0:crossI l m=0
   ·rw[(AC (v:=v) h0).1];exact⟨hz,h1,h2⟩
   ·obtain⟨u1,_,u3,u4,u5⟩:=Iq (v:=v) hn hz h1 h2 h0
    rw[u1];exact⟨u3,u4,u5⟩
  have hc':=fun m hm=>hc m (aZ _ hm);rw[gt];split
  ·exact D8 hn hc' hz h1 h2
  ·split
   ·exact D8 hn hc' hw.1 hw.2.1 hw.2.2
   ·exact hw.2
def JS{c:List aa}{i:Nat}(hc: ∀m∈c,LB m)(hok: ∀m∈c,m.ok)(hn:c.length<=1000)(hi:i<c.length):PF GB prog 249 [.sl (c.map eL),vI (i:Nat)] (.tp [eV (gt (c[i]'hi) c aj.all).1,vB (gt (c[i]'hi) c aj.all).2]):=by
 have hcl:=ui c;obtain⟨l,hl⟩: ∃l,l=c[i]:=⟨_,rfl⟩;rw[<-hl];haveI hlb:LB l:=hl▸hc _ (cY hi);have hlo:l.ok:=hl▸hok _ (cY hi);refine fn func249 J J ntmps249 J J (fun C=>?_);refine ix (fu:=⟨1⟩) _ J (uu hi) J<|?_;refine av 16 (.d (eL l)) J (by rw[hl];rfl) ?_;refine gx J<|cl (fu:=⟨9⟩) J aDU J<|?_;refine av 19 (.d (vI (c.length:Nat))) J (by rw[hcl];rfl) ?_;refine gx J<|?_;refine lp (X:=aj×Nat) (fun⟨v,k⟩=>[(20, .d (vI (k:Nat))),(19, .d (vI (c.length:Nat))),(18, .d (.sl (c.map eL))),(1, .d (vI (i:Nat))),(6, .ov 6 0),(7, .ov 7 0),(4, .ov 4 0)]) (fun⟨v,k⟩=>[(7,some (.o 159 [.d ((.v (.bool (decide (v.lo.num<0))))), .d (dN v.lo.num.natAbs), .d (dD v.lo.den), .d ((.v (.bool (decide (v.hi.num<0))))), .d (dN v.hi.num.natAbs), .d (dD v.hi.den), .d ((.v (.bool v.nl))), .d ((.v (.bool v.nh)))] true)),(6,some (.o 115 [.d ((.v (.bool (decide (l.a<0))))), .d (dN l.a.natAbs), .d ((.v (.bool (decide (l.b<0))))), .d (dN l.b.natAbs), .d ((.v (.bool (decide (l.c<0))))), .d (dN l.c.natAbs)] true)),(4,some (.o 159 [.ff, .nl, .nl, .ff, .nl, .nl, .ff, .ff] true))]) (fun⟨v,k⟩=>jy l c k v) (fun⟨v,k⟩=>c.length-k) ⟨aj.all,0⟩ J jy.all (fun _=>J) (fun⟨v,k⟩ hk=>?_)
 try dsimp only at hk⊢
 have hS:=hk;refine br J J J (fun hc21=>?_) (fun hc21=>?_)
 .
  have hk:k<c.length:=by omega
  obtain⟨m,hm⟩: ∃m,m=c[k]:=⟨_,rfl⟩;haveI hmb:LB m:=hm▸hc _ (cY hk);have hmo:m.ok:=hm▸hok _ (cY hk);refine ix (fu:=⟨1⟩) _ J (uu hk) J<|?_;refine av 24 (.d (eL m)) J (by rw[hm];rfl) ?_;refine gx J<|?_;refine cs 28 J J J (fun hg28=>?_) (fun hg28=>?_)
  .
   have hinv:jy l c (k+1) v:=hS.skip hk (by rw[hl];congr 1;omega);exact at_ ⟨v,k+1⟩ (by dsimp only;exact⟨hinv,(by omega)⟩)
  .
   refine cl J (M7 (l:=l) (m:=m)) J<|?_;refine br J J J (fun hc33=>?_) (fun hc33=>?_)
   .
    have hinv:jy l c (k+1) v:=hS.skip hk (by rw[<-hm,(Bj l m).1 hc33]);exact at_ ⟨v,k+1⟩ (by dsimp only;exact⟨hinv,(by omega)⟩)
   .
    have hne:c[k]≠l:=fun e=>hc33 ((Bj l m).2 (by rw[hm,e]));refine cl (fu:=⟨13⟩) J (Zk (l:=l) (m:=m)) J<|?_;refine av 41 (.d (.v (.bool (decide (crossI l m=0))))) J (by simp) ?_;refine gx J<|?_;refine bd J J J (fun hc41=>?_) (fun hc41=>?_)
    .
     refine cl J (Nh hlo.ne) J<|cl J (BW (l:=m) (p:=l.base)) J<|?_;refine br J J J (fun hc46=>?_) (fun hc46=>?_)
     .
      have hno:=hS.no (w:=v) hk hne (by have:=(AC (v:=v) hc41).2;rw[<-hm];cases hb:l.cutB v m with|false=>rfl|true=>exact absurd (this.1 hb) ((QZ _).1 hc46)) (by rw[<-hm];exact(AC (v:=v) hc41).1);exact rz J (by rw[hno];rfl)
     .
      have hinv:jy l c (k+1) v:=by have:=AC (v:=v) hc41;exact hS.cut hk hne (by rw[<-hm];exact this.2.2 (by have:=mt (QZ (m.value l.base)).2 hc46;exact Decidable.not_not.1 this)) (by rw[<-hm];exact this.1) hS.z hS.lo hS.hi
      exact at_ ⟨v,k+1⟩ (by dsimp only;exact⟨hinv,(by omega)⟩)
    .
     obtain⟨u1,u2,u3,u4,u5⟩:=Iq (v:=v) hlo.ne hS.z hS.lo hS.hi hc41;haveI htb:=Eq hlo.ne hc41;haveI hvl:=hS.lo;haveI hvh:=hS.hi;refine cl (fu:=⟨0⟩) J (WT (l:=l) (p:=gr l m) hlo.ne) J<|?_;obtain⟨t,ht⟩: ∃t,t=fg l (gr l m):=⟨_,rfl⟩;refine av 50 (.d (eQ t)) J (by rw[ht]) ?_;rw[<-ht] at htb;refine gx (fu:=⟨5⟩) J<|?_;refine mg (X:=aj) (fun w=>[(20, .d (vI (k:Nat))),(19, .d (vI (c.length:Nat))),(18, .d (.sl (c.map eL))),(1, .d (vI (i:Nat))),(6, .ov 6 0),(7, .ov 7 0),(4, .ov 4 0)]) (fun w=>[(7,some (.o 159 [.d ((.v (.bool (decide (w.lo.num<0))))), .d (dN w.lo.num.natAbs), .d (dD w.lo.den), .d ((.v (.bool (decide (w.hi.num<0))))), .d (dN w.hi.num.natAbs), .d (dD w.hi.den), .d ((.v (.bool w.nl))), .d ((.v (.bool w.nh)))] true)),(6,some (.o 115 [.d ((.v (.bool (decide (l.a<0))))), .d (dN l.a.natAbs), .d ((.v (.bool (decide (l.b<0))))), .d (dN l.b.natAbs), .d ((.v (.bool (decide (l.c<0))))), .d (dN l.c.natAbs)] true)),(4,some (.o 159 [.ff, .nl, .nl, .ff, .nl, .nl, .ff, .ff] true))]) (fun w=>w=og l m v) [20,19,18,1,6,7,4] [7,6,4] rfl ?_ (fun _=>J) (fun w hw=>?_)
     .
      refine gx J<|cl J (ug (l:=m)) J<|cl J (ug (l:=l)) J<|cl J (RE (p:=m.dir) (q:=l.dir)) J<|cl J (tk (q:=m.dir.cross l.dir)) J<|?_;refine br J J J (fun hc57=>?_) (fun hc57=>?_)
      .
       refine lv 60 J J J (fun hg60=>?_) (fun hg60=>?_)
       .
        refine Bu 7 J J J ?_;exact at_ ⟨t,v.hi,false,v.nh⟩ (by unfold og;rw[if_pos hc57,<-ht];exact O2 (.inl hg60))
       .
        refine cl J (xd (a:=t) (b:=v.lo)) J<|?_;refine br J J J (fun hc66=>?_) (fun hc66=>?_)
        .
         refine Bu 7 J J J ?_;exact at_ ⟨t,v.hi,false,v.nh⟩ (by unfold og;rw[if_pos hc57,<-ht];exact O2 (.inr hc66))
        .
         exact at_ v (by unfold og;rw[if_pos hc57,<-ht];exact aA5 (by simp[hg60]) hc66)
      .
       refine lv 72 J J J (fun hg72=>?_) (fun hg72=>?_)
       .
        refine Bu 7 J J J ?_;exact at_ ⟨v.lo,t,v.nl,false⟩ (by unfold og;rw[if_neg hc57,<-ht];exact Oi (.inl hg72))
       .
        refine cl J (xd (a:=t) (b:=v.hi)) J<|?_;refine br J J J (fun hc78=>?_) (fun hc78=>?_)
        .
         refine Bu 7 J J J ?_;exact at_ ⟨v.lo,t,v.nl,false⟩ (by unfold og;rw[if_neg hc57,<-ht];exact Oi (.inr hc78))
        .
         exact at_ v (by unfold og;rw[if_neg hc57,<-ht];exact Zi (by simp[hg72]) hc78)
     .
      rw[<-hw] at u1 u2 u3 u4 u5;haveI:=u4;haveI:=u5;refine lv 85 J J J (fun hg85=>?_) (fun hg85=>?_)
      .
       refine lv 90 J J J (fun hg90=>?_) (fun hg90=>?_)
       .
        refine cl J (xd (a:=w.lo) (b:=w.hi)) J<|?_;refine br J J J (fun hc97=>?_) (fun hc97=>?_)
        .
         have hno:=hS.no (w:=w) hk hne (by rw[<-hm,u2,Tq (by simpa using hg85) (by simpa using hg90) hc97];rfl) (by rw[<-hm,u1]);exact rz J (by rw[hno];rfl)
        .
         have hinv:jy l c (k+1) w:=hS.cut hk hne (by rw[<-hm,u2,ZO hc97];rfl) (by rw[<-hm,u1]) u3 u4 u5;exact at_ ⟨w,k+1⟩ (by dsimp only;exact⟨hinv,(by omega)⟩)
       .
        have hinv:jy l c (k+1) w:=hS.cut hk hne (by rw[<-hm,u2,Um (by simpa using hg90)];rfl) (by rw[<-hm,u1]) u3 u4 u5;exact at_ ⟨w,k+1⟩ (by dsimp only;exact⟨hinv,(by omega)⟩)
      .
       have hinv:jy l c (k+1) w:=hS.cut hk hne (by rw[<-hm,u2,anS (by simpa using hg85)];rfl) (by rw[<-hm,u1]) u3 u4 u5;exact at_ ⟨w,k+1⟩ (by dsimp only;exact⟨hinv,(by omega)⟩)
 .
  exact rz J (by rw[hS.yes (by omega)];rfl)
def dq(l:aa):DV:= .ag [vI (dC (l.a:Rat)),vI (dB (l.a:Rat)),du (l.a:Rat),vI (dC (l.b:Rat)),vI (dB (l.b:Rat)),du (l.b:Rat),vI (dC (l.c:Rat)),vI (dB (l.c:Rat)),du (l.c:Rat)]
def eZ(p:ab):DV:= .ag [vI (dC p.x),vI (dB p.x),du p.x,vI (dC p.y),vI (dB p.y),du p.y]
def eW(v:aj):DV:= .ag [vI (dC v.lo),vI (dB v.lo),du v.lo,vI (dC v.hi),vI (dB v.hi),du v.hi, .v (.bool v.nl), .v (.bool v.nh)]
def Dp{G:Gh}{t:List DV}{vs:List Value}(h:IsLs G (vI 0::vI 0:: .v (.pointer none)::t) vs):IsLs G (vI (dC 0)::vI (dB 0)::du 0::t) vs:=by
 obtain⟨y1,l1,rfl,k1,g1⟩:=aP.1 h;obtain⟨y2,l2,rfl,k2,g2⟩:=aP.1 g1;obtain⟨y3,l3,rfl,k3,g3⟩:=aP.1 g2;have e:decide (fj 0)=false:=decide_eq_false fun h=>IP h J;exact .cons k1 (.cons k2 (.cons (tc.2 (.inl ⟨e,aF.1 k3⟩)) g3))
def HD{G:Gh}(a:List DV){t:List DV}{vs:List Value}(h:IsLs G (a++vI 0::vI 0:: .v (.pointer none)::t) vs):IsLs G (a++vI (dC 0)::vI (dB 0)::du 0::t) vs:=by
 obtain⟨x,y,rfl,h1,h2⟩:=h.unapp;exact h1.app (Dp h2)
def aDC(G:Gh)(y:Value)(k:Is G (.ag [vI 0,vI 0, .v (.pointer none),vI 0,vI 0, .v (.pointer none), .v (.bool true), .v (.bool true)]) y):Is G (eW aj.all) y:=by
 obtain⟨l,rfl,g⟩:=c8.1 k;exact c8.2 ⟨l,J,Dp (HD [vI 0,vI 0, .v (.pointer none)] g)⟩
def oF:List Int->Int
 |[]=>0
 |a::t=>if a≠0 then a else oF t
theorem aI.nor(l:aa)[LB l]:aI l.nor 97:=⟨inferInstanceAs (BQ (l.a:Rat) 97),inferInstanceAs (BQ (l.b:Rat) 97)⟩
attribute [instance] aI.nor
instance aI.scale (p:ab) (c:Rat) (i k:Nat) [aI p i] [BQ c k]:aI (p.scale c) (i+k):=⟨inferInstanceAs (BQ (p.x*c) _),inferInstanceAs (BQ (p.y*c) _)⟩
instance aI.add (p q:ab) (i j:Nat) [aI p i] [aI q j]:aI (p.add q) (i+j+1):=⟨inferInstanceAs (BQ (p.x+q.x) _),inferInstanceAs (BQ (p.y+q.y) _)⟩
instance LB.revA (l:aa) [h:LB l]:LB l.rev:=⟨⟨by rw[show l.rev.a= -l.a from J,iR];exact h.bl.a,by rw[show l.rev.b= -l.b from J,iR];exact h.bl.b,by rw[show l.rev.c= -l.c from J,iR];exact h.bl.c⟩⟩
def aGT:PF GB prog 351 [] (eW aj.all):=by
 refine fn func351 J J ntmps351 J J (fun C=>?_);exact ja J aDC
def xY{l:aa}:PF GB prog 321 [dq l] (eZ l.nor):=by
 refine fn func321 J J ntmps321 J J (fun C=>?_);exact rz J J
def vE{l:aa}[hl:LB l]:PF GB prog 258 [dq l] (eZ l.dir):=by
 refine fn func258 J J ntmps258 J J (fun C=>?_);refine cl J (ot (q:=(l.a:Rat))) J<|?_;exact rz J J
def uM{p q:ab}{i j:Nat}[hp:aI p i][hq:aI q j](hi:i<=40000000:=by decide)(hj:j<=40000000:=by decide):PF GB prog 244 [eZ p,eZ q] (eF (p.dot q)):=by
 refine fn func244 J J ntmps244 J J (fun C=>?_);refine cl J (si (p:=p.x) (q:=q.x) (by omega) (by omega)) J<|cl J (si (p:=p.y) (q:=q.y) (by omega) (by omega)) J<|cl J (s5 (p:=p.x*q.x) (q:=p.y*q.y) (by omega) (by omega)) J<|?_;exact rz J J
def RD{p q:ab}{i j:Nat}[hp:aI p i][hq:aI q j](hi:i<=40000000:=by decide)(hj:j<=40000000:=by decide):PF GB prog 298 [eZ p,eZ q] (eF (p.cross q)):=by
 refine fn func298 J J ntmps298 J J (fun C=>?_);refine cl J (si (p:=p.x) (q:=q.y) (by omega) (by omega)) J<|cl J (si (p:=p.y) (q:=q.x) (by omega) (by omega)) J<|cl J (tA (p:=p.x*q.y) (q:=p.y*q.x) (by omega) (by omega)) J<|?_;exact rz J J
def B5{p:ab}{c:Rat}{i j:Nat}[hp:aI p i][hc:BQ c j](hi:i<=40000000:=by decide)(hj:j<=40000000:=by decide):PF GB prog 126 [eZ p,eF c] (eZ (p.scale c)):=by
 refine fn func126 J J ntmps126 J J (fun C=>?_);refine cl J (si (p:=p.x) (q:=c) (by omega) (by omega)) J<|cl J (si (p:=p.y) (q:=c) (by omega) (by omega)) J<|?_;exact rz J J
def HC{p q:ab}{i j:Nat}[hp:aI p i][hq:aI q j](hi:i<=40000000:=by decide)(hj:j<=40000000:=by decide):PF GB prog 206 [eZ p,eZ q] (eZ (p.add q)):=by
 refine fn func206 J J ntmps206 J J (fun C=>?_);refine cl J (s5 (by omega) (by omega)) J<|cl J (s5 (by omega) (by omega)) J<|?_;exact rz J J
def MR{l:aa}[hl:LB l]:PF GB prog 352 [dq l] (eZ l.base):=by
 refine fn func352 J J ntmps352 J J (fun C=>?_);refine cl J xY J<|cl J (ot (q:=(l.c:Rat))) J<|cl J (uM (p:=l.nor) (q:=l.nor)) J<|cl J (Ac (p:= -(l.c:Rat)) (q:=l.nor.dot l.nor)) J<|?_;refine cl J (B5 (p:=l.nor)) J<|?_;exact rz J J
def Ie{l:aa}{p:ab}{i:Nat}[hl:LB l][hp:aI p i](hi:i<=10000000:=by decide):PF GB prog 347 [dq l,eZ p] (eF (l.value p)):=by
 refine fn func347 J J ntmps347 J J (fun C=>?_);refine cl J (xY (l:=l)) J<|cl J (uM (p:=l.nor) (q:=p) (by omega) (by omega)) J<|cl J (s5 (p:=l.nor.dot p) (q:=(l.c:Rat)) (by omega) (by omega)) J<|?_;exact rz J J
def wh{l:aa}{p:ab}{i:Nat}[hl:LB l][hp:aI p i](hi:i<=10000000:=by decide):PF GB prog 259 [dq l,eZ p] (vI (l.value p).num.sign):=by
 refine fn func259 J J ntmps259 J J (fun C=>?_);refine cl J (Ie (l:=l) (p:=p) hi) J<|cl J (my (q:=l.value p) (by omega)) J<|?_;exact rz J J
def Do{l:aa}{t:Rat}{i:Nat}[hl:LB l][ht:BQ t i](hi:i<=10000000:=by decide):PF GB prog 345 [dq l,eF t] (eZ (l.at t)):=by
 refine fn func345 J J ntmps345 J J (fun C=>?_);refine cl J (MR (l:=l)) J<|cl J (vE (l:=l)) J<|cl J (B5 (p:=l.dir) (c:=t) (by omega) (by omega)) J<|cl J (HC (p:=l.base) (q:=l.dir.scale t) (by omega) (by omega)) J<|?_;exact rz J J
def Sd{v:aj}{i j:Nat}[h1:BQ v.lo i][h2:BQ v.hi j](hi:i<=40000000:=by decide)(hj:j<=40000000:=by decide):PF GB prog 381 [eW v] (vB v.empty):=by
 refine fn func381 J J ntmps381 J J (fun C=>?_);refine lv 6 J J J (fun hg6=>?_) (fun hg6=>?_)
 .
  refine lv 11 J J J (fun hg11=>?_) (fun hg11=>?_)
  .
   refine cl J (qm (p:=v.lo) (q:=v.hi) (by omega) (by omega)) J<|?_;exact rz J (by unfold aj.empty;simp_all [vB,i9])
  .
   exact rz J (by unfold aj.empty;simp_all [vB,i9])
 .
  exact rz J (by unfold aj.empty;simp_all [vB,i9])
instance aj.meet_lo (v w:aj) (i j:Nat) [h1:BQ v.lo i] [h3:BQ w.lo j]:BQ (v.meet w).lo (i+j):=by
 have a:=h1.mono (pL i j);have b:=h3.mono (Nat.le_add_left j i);unfold aj.meet;dsimp only;(repeat' split)<;>assumption
instance aj.meet_hi (v w:aj) (i j:Nat) [h1:BQ v.hi i] [h3:BQ w.hi j]:BQ (v.meet w).hi (i+j):=by
 have a:=h1.mono (pL i j);have b:=h3.mono (Nat.le_add_left j i);unfold aj.meet;dsimp only;(repeat' split)<;>assumption
def JD{v w:aj}{i j:Nat}[h1:BQ v.lo i][h2:BQ v.hi i][h3:BQ w.lo j][h4:BQ w.hi j](hi:i<=10000000:=by decide)(hj:j<=10000000:=by decide):PF GB prog 353 [eW v,eW w] (.tp [eW (v.meet w),vB (!(v.meet w).empty)]):=by
 refine fn (fu:=⟨16⟩) func353 J J ntmps353 J J (fun C=>?_);refine mg (fu:=⟨1⟩) (X:=Unit) (fun _=>[(6, .ov 6 0)]) (fun _=>[(6,some (.o 220 [.d (vI (dC (v.meet w).lo)), .d (vI (dB (v.meet w).lo)), .d (du (v.meet w).lo), .d (vI (dC v.hi)), .d (vI (dB v.hi)), .d (du v.hi), .d (.v (.bool (v.nl&&w.nl))), .d (.v (.bool (v.nh)))] true))]) (fun _=>True) [6] [6] rfl ?_ (fun _=>J) (fun _ _=>?_)
 .
  refine gx J<|?_;refine bb (v1:=fun hc8=>by simp only[ah];kernel_rfl) J J J (fun hc8=>?_) (fun hc8=>?_)
  .
   have em:(v.meet w).lo=w.lo:=by unfold aj.meet;simp_all
   have eb:(v.nl&&w.nl)=w.nl:=by simp_all
   exact at_ () trivial (hO:=⟨by rw[em,eb]<;>rfl,by repeat (first|exact trivial|refine And.intro J ?_)⟩)
  .
   refine bb J J J (fun hc17=>?_) (fun hc17=>?_)
   .
    refine cl J (aFv (p:=v.lo) (q:=w.lo) (by omega) (by omega)) J<|?_;have em:(v.meet w).lo=(if v.lo<w.lo then w.lo else v.lo):=by unfold aj.meet;simp_all
    have eb:(v.nl&&w.nl)=v.nl:=by simp_all
    exact at_ () trivial (hO:=⟨by rw[em,eb]<;>rfl,by repeat (first|exact trivial|refine And.intro J ?_)⟩)
   .
    have em:(v.meet w).lo=v.lo:=by unfold aj.meet;simp_all
    have eb:(v.nl&&w.nl)=v.nl:=by simp_all
    exact at_ () trivial (hO:=⟨by rw[em,eb]<;>rfl,by repeat (first|exact trivial|refine And.intro J ?_)⟩)
 .
  refine mg (X:=Unit) (fun _=>[(6, .ov 6 0)]) (fun _=>[(6,some (.o 220 [.d (vI (dC (v.meet w).lo)), .d (vI (dB (v.meet w).lo)), .d (du (v.meet w).lo), .d (vI (dC (v.meet w).hi)), .d (vI (dB (v.meet w).hi)), .d (du (v.meet w).hi), .d (.v (.bool (v.nl&&w.nl))), .d (.v (.bool (v.nh&&w.nh)))] true))]) (fun _=>True) [6] [6] rfl ?_ (fun _=>J) (fun _ _=>?_)
  .
   refine gx J<|?_;refine bb (v1:=fun hc27=>by simp only[ah];kernel_rfl) J J J (fun hc27=>?_) (fun hc27=>?_)
   .
    have em:(v.meet w).hi=w.hi:=by unfold aj.meet;simp_all
    have eb:(v.nh&&w.nh)=w.nh:=by simp_all
    exact at_ () trivial (hO:=⟨by rw[em,eb]<;>rfl,by repeat (first|exact trivial|refine And.intro J ?_)⟩)
   .
    refine bb J J J (fun hc36=>?_) (fun hc36=>?_)
    .
     refine cl J (Ka (p:=v.hi) (q:=w.hi) (by omega) (by omega)) J<|?_;have em:(v.meet w).hi=(if w.hi<v.hi then w.hi else v.hi):=by unfold aj.meet;simp_all
     have eb:(v.nh&&w.nh)=v.nh:=by simp_all
     exact at_ () trivial (hO:=⟨by rw[em,eb]<;>rfl,by repeat (first|exact trivial|refine And.intro J ?_)⟩)
    .
     have em:(v.meet w).hi=v.hi:=by unfold aj.meet;simp_all
     have eb:(v.nh&&w.nh)=v.nh:=by simp_all
     exact at_ () trivial (hO:=⟨by rw[em,eb]<;>rfl,by repeat (first|exact trivial|refine And.intro J ?_)⟩)
  .
   refine cl J (Sd (v:=v.meet w) (i:=i+j) (j:=i+j) (by omega) (by omega)) J<|?_;exact rz J J
theorem BQ.z1:BQ (0:Rat) 1:=⟨by decide,by decide⟩
def axu{v:aj}{t:Rat}{i j:Nat}[h1:BQ v.lo i][h2:BQ v.hi i][h3:BQ t j](hi:i<=10000000:=by decide)(hj:j<=9999999:=by decide):PF GB prog 353 [eW v, .ag [vI (dC t),vI (dB t),du t,vI 0,vI 0, .v (.pointer none), .v (.bool false), .v (.bool true)]] (.tp [eW (v.meet ⟨t,0,false,true⟩),vB (!(v.meet ⟨t,0,false,true⟩).empty)]):=
 (JD (v:=v) (w:=⟨t,0,false,true⟩) (j:=j+1) (h3:=h3.mono (by omega)) (h4:=BQ.z1.mono (by omega)) hi (by omega)).ofI fun G vs hv=>Hs (fun y hy=>by
  obtain⟨l,rfl,g⟩:=c8.1 hy;exact c8.2 ⟨l,J,HD [_,_,_] g⟩) hv
def X8{v:aj}{t:Rat}{i j:Nat}[h1:BQ v.lo i][h2:BQ v.hi i][h3:BQ t j](hi:i<=10000000:=by decide)(hj:j<=9999999:=by decide):PF GB prog 353 [eW v, .ag [vI 0,vI 0, .v (.pointer none),vI (dC t),vI (dB t),du t, .v (.bool true), .v (.bool false)]] (.tp [eW (v.meet ⟨0,t,true,false⟩),vB (!(v.meet ⟨0,t,true,false⟩).empty)]):=
 (JD (v:=v) (w:=⟨0,t,true,false⟩) (j:=j+1) (h4:=h3.mono (by omega)) (h3:=BQ.z1.mono (by omega)) hi (by omega)).ofI fun G vs hv=>Hs (fun y hy=>by
  obtain⟨l,rfl,g⟩:=c8.1 hy;exact c8.2 ⟨l,J,Dp g⟩) hv
instance BQ.cutK (l m:aa) [LB l] [LB m]:BQ (l.cutK m) 400:=BQ.mono (inferInstance:BQ (m.nor.dot l.dir) _) (by decide)
instance BQ.cutC (l m:aa) [LB l] [LB m]:BQ (l.cutC m) 2500:=BQ.mono (inferInstance:BQ (m.value l.base) _) (by decide)
def Ag{l m:aa}{v:aj}{i:Nat}[hl:LB l][hm:LB m][h1:BQ v.lo i][h2:BQ v.hi i](hi:i<=10000000:=by decide):PF GB prog 276 [dq l,eW v,dq m] (.tp [eW (l.cutV v m),vB (l.cutB v m)]):=by
 refine fn func276 J J ntmps276 J J (fun C=>?_);refine cl J (xY (l:=m)) J<|cl J (vE (l:=l)) J<|cl J (uM (p:=m.nor) (q:=l.dir)) J<|cl J (MR (l:=l)) J<|?_;refine cl J (Ie (l:=m) (p:=l.base)) J<|cl J (my (q:=l.cutK m)) J<|?_;refine br J J J (fun hc21=>?_) (fun hc21=>?_)
 .
  refine cl J (my (q:=l.cutC m)) J<|?_;exact rz J (by unfold aa.cutV aa.cutB;rw[if_pos hc21,if_pos hc21];rfl)
 .
  refine br J J J (fun hc27=>?_) (fun hc27=>?_)
  .
   refine cl J (Ac (p:=l.cutC m) (q:=l.cutK m)) J<|cl J (ot (q:=l.cutC m/l.cutK m)) J<|cl J (axu (v:=v) (t:= -(l.cutC m/l.cutK m)) hi) J<|?_;exact rz J (by unfold aa.cutB aa.cutV;rw[if_neg hc21,if_neg hc21,if_pos hc27];rfl)
  .
   refine cl J (Ac (p:=l.cutC m) (q:=l.cutK m)) J<|cl J (ot (q:=l.cutC m/l.cutK m)) J<|cl J (X8 (v:=v) (t:= -(l.cutC m/l.cutK m)) hi) J<|?_;exact rz J (by unfold aa.cutB aa.cutV;rw[if_neg hc21,if_neg hc21,if_neg hc27];rfl)
def LY{v:aj}{i:Nat}[h1:BQ v.lo i][h2:BQ v.hi i](hi:i<=10000000:=by decide):PF GB prog 346 [eW v] (eF v.sample):=by
 refine fn func346 J J ntmps346 J J (fun C=>?_);refine lv 6 J J J (fun hg6=>?_) (fun hg6=>?_)
 .
  refine bb J J J (fun hc3=>?_) (fun hc3=>?_)
  .
   exact ja J (by unfold aj.sample;rw[hg6,hc3];exact vW)
  .
   refine bb J J J (fun hc11=>?_) (fun hc11=>?_)
   .
    refine cl J (pP (m:=1) (by decide)) J<|cl J (tA (p:=v.hi) (q:=((1:Int):Rat)) (by omega) (by decide)) J<|?_;exact rz J (by unfold aj.sample;simp_all [i9]<;>rfl)
   .
    refine bb J J J (fun hc18=>?_) (fun hc18=>?_)
    .
     refine cl J (pP (m:=1) (by decide)) J<|cl J (s5 (p:=v.lo) (q:=((1:Int):Rat)) (by omega) (by decide)) J<|?_;exact rz J (by unfold aj.sample;simp_all [i9]<;>rfl)
    .
     refine cl J (s5 (p:=v.lo) (q:=v.hi) (by omega) (by omega)) J<|cl J (IX (q:=v.lo+v.hi) (by omega)) J<|?_;exact rz J (by unfold aj.sample;simp_all [i9]<;>rfl)
 .
  refine bb J J J (fun hc11=>?_) (fun hc11=>?_)
  .
   refine cl J (pP (m:=1) (by decide)) J<|cl J (tA (p:=v.hi) (q:=((1:Int):Rat)) (by omega) (by decide)) J<|?_;exact rz J (by unfold aj.sample;simp_all [i9]<;>rfl)
  .
   refine bb J J J (fun hc18=>?_) (fun hc18=>?_)
   .
    refine cl J (pP (m:=1) (by decide)) J<|cl J (s5 (p:=v.lo) (q:=((1:Int):Rat)) (by omega) (by decide)) J<|?_;exact rz J (by unfold aj.sample;simp_all [i9]<;>rfl)
   .
    refine cl J (s5 (p:=v.lo) (q:=v.hi) (by omega) (by omega)) J<|cl J (IX (q:=v.lo+v.hi) (by omega)) J<|?_;exact rz J (by unfold aj.sample;simp_all [i9]<;>rfl)
def Di(p q:ab):DV:= .ag [vI (dC p.x),vI (dB p.x),du p.x,vI (dC p.y),vI (dB p.y),du p.y,vI (dC q.x),vI (dB q.x),du q.x,vI (dC q.y),vI (dB q.y),du q.y]
def Gt{C:aD}{n:Nat}{Q0:Exit->Act->World->Prop}{fr:aA}{own:aG}{ops:Array Oper}{r:List Oper}{K:List Kt}(k:Nat){l:List DV}(hl:bc fr k=some (.d (.pt l)))(h:ak prog GB C n Q0 ((k, .ep l)::fr) own (.ops ops r K)):ak prog GB C n Q0 fr own (.ops ops r K):=
 pk hl (fun ρ G y hy=>by
  obtain⟨b,m,rfl,h1,h2⟩:=oH.1 hy;have e:=h2.len;exact⟨b,0,m,m,J,h1,by rw[lC m 0 l.length (by omega),jJ,<-e,fY],h2⟩) h
section
variable {GB:Gh} {C:aD} {n:Nat} {Q0:Exit->Act->World->Prop} {fr fr':aA} {own own':aG} {cf cf':Cf} {vc:List Prop} {lk:LK} {bk:BM}
variable {dst:Option Nat} {t t' ty':TypeId} {pos:String} {af:Array Edge} {gd:Option (Nat×Bool)} {x y:Operand}
def aKw(fr:aA)(cf:Cf):Option (List DV):=match cd fr cf with
 |some ⟨_, .binOp .eql t x (.const (.slice none _ _)) _,_,_,_,_⟩=>match dt tt t with
  |some ⟨.sl _ _ _,_,_,_⟩=>match aH (bD fr cf) x with
   |some (.d (.sl l))=>some l
   |_=>none
  |_=>none
 |_=>none
def PVr(GB:Gh)(P:Program)(f:FuncId)(s off m:Nat)(ty:TypeId)(dsi dso:List DV):Prop:=
 ∀G w b c B,bz GB G->de G ⟨w,s,ty,dsi,false⟩ B->w.a=some ⟨b,0,none⟩->m<=c->iA P f [.slice (some ⟨b,off*s,none⟩) m c] B G (fun v own' G'=>Is G' (.tp []) v/\de G' ⟨w,s,ty,dso,false⟩ own')
structure CV where
 f:FuncId
 nm:Nat
 s:Nat
 off:Nat
 m:Nat
 ty:TypeId
 ds:List DV
 lo:Bool
def cvA(fr:aA)(own:aG)(cf:Cf):Option CV:=match cd fr cf with
 |some ⟨_, .call ⟨.value fo,⟨[x]⟩,_⟩,_,_,_,_⟩=>match aH (bD fr cf) fo with
  |some (.d (.v (.func (.func f) ⟨[]⟩ ⟨[]⟩)))=>match aH (bD fr cf) x with
   |some (.rs nm s off m)=>match gu fr own cf nm with
    |some (.b ty s' ds lo)=>bif Nat.beq s s' then some ⟨f,nm,s,off,m,ty,ds,lo⟩ else none
    |_=>none
   |_=>none
  |_=>none
 |_=>none
end
section
variable {GB:Gh} {C:aD} {n:Nat} {Q0:Exit->Act->World->Prop} {fr fr':aA} {own own':aG} {cf cf':Cf} {vc:List Prop} {ops:Array Oper} {r:List Oper} {K:List Kt}
def zP(k:Nat){d:DV}(hl:bc fr k=some (.d d))(h: ∀(GB':Gh) (pv:Value),bz GB GB'->Is GB' d pv->ak prog GB' C n Q0 ((k, .d (.v pv))::fr) own (.ops ops r K)):ak prog GB C n Q0 fr own (.ops ops r K):=by
 refine⟨fun ρ G ov a w r0=>?_⟩;obtain⟨y,hy,hy'⟩:=r0.fx k _ hl;refine(h G y r0.gb hy').run ρ G ov a w ⟨bz.refl _,r0.h,r0.sz,r0.df,fun j f e=>?_,r0.bx,r0.dj,r0.fxd⟩;rw[jE] at e;split at e
 ·rename_i hj
  cases e;subst hj
  exact⟨y,hy,(aF (G:=G)).2 J⟩
 ·exact r0.fx j f e
def aKR(fr:aA)(cf:Cf):Option (FuncId×Value):=match cd fr cf with
 |some ⟨_, .makeFunc (.func f) ⟨[x]⟩ ⟨[]⟩,_,_,_,_⟩=>match aH (bD fr cf) x with
  |some (.d (.v pv))=>some (f,pv)
  |_=>none
 |_=>none
def aKV(fr:aA)(cf:Cf):Option (FuncId×List Value×List DV):=match cd fr cf with
 |some ⟨_, .call ⟨.value fo,args,_⟩,_,_,_,_⟩=>match aH (bD fr cf) fo,evDs (bD fr cf) args.toList with
  |some (.d (.v (.func (.func f) ⟨c1⟩ ⟨[]⟩))),some ds=>some (f,c1,ds)
  |_,_=>none
 |_=>none
def MA:List (Nat×Operand)->Option (List (Nat×Value))
 |[]=>some []
 |(i, .const v)::t=>match MA t with
  |some l=>some ((i,v)::l)
  |none=>none
 |_::_=>none
def aLd(cf:Cf)(fr:aA):Option (TypeId×List (Nat×Value)):=match cd fr cf with
 |some ⟨_, .build t ⟨ps⟩,_,_,_,_⟩=>match MA ps with
  |some vs=>some (t,vs)
  |none=>none
 |_=>none
def LM(fr:aA)(own:aG)(cf:Cf):Option (TypeId×Nat×Nat×List FX×Bool×FX):=match cd fr cf with
 |some ⟨_, .store t x y,_,_,_,_⟩=>match aH (bD fr cf) x with
  |some (.ov nm 0)=>match gu fr own cf nm with
   |some (.o ty cs lo)=>match aH (bD fr cf) y with
    |some fv=>some (t,nm,ty,cs,lo,fv)
    |_=>none
   |_=>none
  |_=>none
 |_=>none
def OI[fu:Fu]{t nm ty len e:Nat}{cs:List FX}{lo:Bool}{fv:FX}{j:TypeInfo}(h:LM fr own cf=some (t,nm,ty,cs,lo,fv))(hu:prog.underlying t=some (.array len e))(hj:prog.info? t=some j)(hc:fv.okc=true/\fv.cells.length=j.size/\j.size=cs.length)
  (hgo:cD tt n fu.n fr own cf .un [(nm,some (.o ty (vH cs 0 fv.cells) lo))] []=⟨vc,fr',own',cf'⟩)(k:ak prog GB C n Q0 fr' own' cf')
  (hv:ah vc:=by first|exact trivial|(simp only[ah];kernel_rfl)|(simp only[ah];omega)):ak prog GB C n Q0 fr own cf:=by
 unfold LM at h;split at h<;>try (cases h;done)
 rename_i hh;split at h<;>try (cases h;done)
 rename_i e1;split at h<;>try (cases h;done)
 rename_i hb;split at h<;>cases h;rename_i e2;obtain⟨c1,c2,c3⟩:=hc;have:kO prog t j.size:=⟨fun w=>zt hu w,fun w=>uO hj w⟩;refine us hh ?_ hgo hv k;intro hd tl tb K s1 s2 hf hk;refine⟨fun ρ G ov a w r Q=>?_⟩;have r1:=r.mono s1 s2;obtain⟨p,h1,h2⟩:=r1.ev e1;obtain⟨q,h3,h4⟩:=r1.ev e2;obtain⟨b,m,rfl,ha,h5,h6⟩:=r1.own h2 hb;obtain⟨h7,h8⟩:=h4.cells c1;obtain⟨own',u1,u2,u3⟩:=fH.of_mem (cs':=cB m 0 (aE q)) h6;exact Ci h1 h3 u1 (by rw[h7.len,c2]) (by rw[h5.len,c3];omega) (fZ.2 h8) hd (fun a' w' rl=>r.wrote (m:=m) (s2 _ _ hb) ha (h5.ov h7) u2 u3 hk rl) a w Q ⟨r.h,r.sz,cC a,r.df⟩
def aLm(fr:aA)(cf:Cf):Option Li:=match cd fr cf with
 |some ⟨some d, .buildSlice t len parts,_,_,_,_⟩=>match dt tt t with
  |some ⟨.sl e s _,_,_,_⟩=>match vl (bD fr cf) 0 parts.toList with
   |some ds=>bif Ca s ds&&(Nat.beq parts.toList.length len&&(Nat.ble (len*s) 1000&&Nat.blt 0 (len*s))) then some ⟨d,e,s,ds⟩ else none
   |none=>none
  |_=>none
 |_=>none
def aKp(fr:aA)(cf:Cf):Option (TypeId×List DV):=match cd fr cf with
 |some ⟨_, .load t x,_,_,_,_⟩=>match aH (bD fr cf) x with
  |some (.ep l)=>some (t,l)
  |_=>none
 |_=>none
def Zy:TypeDesc->Bool
 | .struct _=>false
 | .array _ _=>false
 |_=>true
end
end Go.Sx
end
