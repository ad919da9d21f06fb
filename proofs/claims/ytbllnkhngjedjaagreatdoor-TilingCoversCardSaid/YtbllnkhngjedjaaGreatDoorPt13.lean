import Derived.Test.YtbllnkhngjedjaaGreatDoorPt12
set_option linter.all false
set_option maxHeartbeats 4000000
set_option maxRecDepth 100000
section
namespace Go.Sx
open Go Go.Proofs Tryz
variable {GB:Gh}
def Lu{m:Int}{g:Nat}(hg:(g:Int)∣m)(hb:m.natAbs<4611686018427387904):IntKind.i64.wrap (m.tdiv g)=m/g:=by
 rw[Int.tdiv_eq_ediv_of_dvd hg];have:=nN m g;exact TP (by omega)
def tm(a b:Int):Int:=if(a*b).natAbs<4611686018427387904 then a*b else 0
def GP(a b:Int):(tm a b).natAbs<4611686018427387904:=by unfold tm;split<;>omega
def Ba{a b:Int}(h:(a*b).natAbs<4611686018427387904):tm a b=a*b:=if_pos h
def Qc{a b:Int}(h: ¬(a*b).natAbs<4611686018427387904:=by omega):DV.tp [vI 0, .v (.bool false)]= .tp [vI (tm a b),vB (decide ((a*b).natAbs<4611686018427387904))]:=by unfold tm;rw[if_neg h,decide_eq_false h];rfl
def Rp{a b:Int}{x:Int}(h:(a*b).natAbs<4611686018427387904)(e:x=a*b):DV.tp [vI x, .v (.bool true)]= .tp [vI (tm a b),vB (decide ((a*b).natAbs<4611686018427387904))]:=by unfold tm;rw[if_pos h,decide_eq_true h,e];rfl
def Oi(n:Nat):eI (n:Int)= .ag [.v (.bool false),dN n]:=by unfold eI;rw[decide_eq_false (by omega),jR]
def WL{p q:Rat}(hp:p.den=1)(hq:q.den=1):rgcd p q=((Nat.gcd p.num.natAbs q.num.natAbs:Nat):Int):=by
 conv=>lhs;rw[B6 hp,B6 hq]
 exact Ar _ _
def aDQ(q:Rat):mkRat (zv (decide (q.num<0)) q.den) q.num.natAbs=q⁻¹:=by
 rw[Rat.inv_def];by_cases h:q.num<0
 .rw[decide_eq_true h];exact Y1 h
 .rw[decide_eq_false h,<-Rat.divInt_ofNat,oK (by omega)];rfl
instance BQ.inv (q:Rat) (i:Nat) [h:BQ q i]:BQ q⁻¹ i:=by
 have h1:=h.hn;have h2:=h.hd;have h3:=q.den_nz;rcases lT q.num 0 with k|k|k
 .obtain⟨e1,e2⟩:=Pe k;exact⟨by omega,by omega⟩
 .have e:q=0:=lM.1 k
  have e0:(0:Rat)⁻¹=0:=Rat.inv_zero;rw[e] at h1 h2⊢;rw[e0];exact⟨h1,h2⟩
 .obtain⟨e1,e2⟩:=N3 k;exact⟨by omega,by omega⟩
instance BQ.half:BQ (mkRat 1 2) 2:=⟨by decide,by decide⟩
def aEk{x y:Nat}(hx:x<18446744073709551616)(hy:y<18446744073709551616):PF GB prog 117 [.v (.int .u64 (x:Nat)), .v (.int .u64 (y:Nat))] (.tp [.v (.int .u64 ((x*y/18446744073709551616:Nat):Int)), .v (.int .u64 ((x*y%18446744073709551616:Nat):Int))]):=fun G vs _ hv=>by
 obtain⟨v,m,rfl,h1,h2⟩:=bu.1 hv;obtain⟨u,m',rfl,h3,h4⟩:=bu.1 h2
 cases fh.1 h4
 rw[bc.1 h1,bc.1 h3];exact(X2 hx hy).mono fun v G' _ h=>by subst h;exact i8.2 ⟨_,J, .cons (bc.2 J) (.cons (bc.2 J) .nil)⟩
def OC{a b:Nat}(ha:a<18446744073709551616:=by omega)(hb:b<18446744073709551616:=by omega):PF GB prog 119 [.v (.int .u64 (a:Nat)), .v (.int .u64 (b:Nat))] (.v (.int .u64 (Nat.gcd a b:Nat))):=by
 refine fn func119 J J ntmps119 J J (fun C=>?_);refine lp (X:=Nat×Nat) (fun⟨u,v⟩=>[(1, .d (.v (.int .u64 (v:Nat)))),(0, .d (.v (.int .u64 (u:Nat))))]) (fun⟨u,v⟩=>[]) (fun⟨u,v⟩=>u<18446744073709551616/\v<18446744073709551616/\Nat.gcd u v=Nat.gcd a b) (fun⟨u,v⟩=>v) (a,b) J ⟨ha,hb,J⟩ (fun _=>J) (fun⟨u,v⟩ hk=>?_);dsimp only at hk⊢;obtain⟨h1,h2,h3⟩:=hk;refine br (v1:=fun hc6=>by simp only[ah];exact⟨by omega,by kernel_rfl⟩) J J J (fun hc6=>?_) (fun hc6=>?_)
 .
  have hm:=cS u (show 0<v by omega);exact at_ (v,u%v) (by dsimp only;exact⟨⟨h2,by omega,by rw[<-h3,jZ u v,tM v u,jZ]⟩,hm⟩)
 .
  exact rz J (by rw[<-h3,show v=0 by omega,nR];rfl)
def sr{m:Int}(h:m.natAbs<9223372036854775808:=by decide):PF GB prog 63 [vI m] (eF (m:Rat)):=by
 refine fn func63 J J ntmps63 J J (fun C=>?_);refine cs 5 J J J (fun hg5=>?_) (fun hg5=>?_)
 .
  refine cl J (J1 (m:=m)) J<|rf (fu:=⟨0⟩) J J<|?_;refine ak 11 (.d (dN 1)) J (by unfold dN;rw[zb];rfl) ?_;refine gx J<|cl J (uM (n:=decide (m<0)) (a:=m.natAbs) (i:=63) (h:=⟨h⟩) (d:=1)) J<|?_;exact rz J (by rw[ml,show mkRat m 1=(m:Rat) from sY ..];rfl)
 .
  refine br J J J (fun hc8=>?_) (fun hc8=>?_)
  .
   refine cl J (J1 (m:=m)) J<|rf (fu:=⟨0⟩) J J<|?_;refine ak 11 (.d (dN 1)) J (by unfold dN;rw[zb];rfl) ?_;refine gx J<|cl J (uM (n:=decide (m<0)) (a:=m.natAbs) (i:=63) (h:=⟨h⟩) (d:=1)) J<|?_;exact rz J (by rw[ml,show mkRat m 1=(m:Rat) from sY ..];rfl)
  .
   exact jm J (M6 (by omega))
def An{a b:Int}(ha:a.natAbs<4611686018427387904:=by omega)(hb:b.natAbs<4611686018427387904:=by omega):PF GB prog 64 [vI a,vI b] (.tp [vI (tm a b),vB (decide ((a*b).natAbs<4611686018427387904))]):=by
 have hab:=jV a b;refine fn func64 J J ntmps64 J J (fun C=>?_);refine cl J (AB (m:=a)) J<|cl J (AB (m:=b)) J<|cl J (aEk (x:=a.natAbs) (y:=b.natAbs) (by omega) (by omega)) J<|?_;refine cs 18 J J J (fun hg18=>?_) (fun hg18=>?_)
 .
  exact rz J (Qc)
 .
  refine br J J J (fun hc21=>?_) (fun hc21=>?_)
  .
   exact rz J (Qc)
  .
   refine bb J J J (fun hc26=>?_) (fun hc26=>?_)
   .
    have hs:=Q4 a b;rw[if_neg (by simpa using hc26)] at hs;exact rz J (Rp (by omega) (by rw[hs,<-hab];omega))
   .
    have hs:=Q4 a b;rw[if_pos (by simpa using hc26)] at hs;exact rz J (Rp (by omega) (by rw[hs,<-hab];omega))
def N9{m:Int}{d:Nat}(h:m.natAbs<4611686018427387904)(h0:0<d)(hd:d<4611686018427387904):PF GB prog 65 [vI m,vI (d:Nat)] (eF (mkRat m d)):=by
 have hg:Nat.gcd m.natAbs d<=d:=Nat.gcd_le_right _ h0;have hg0:0<Nat.gcd m.natAbs d:=oT _ h0;obtain⟨e1,e2⟩:=MV (m:=m) h0;have e3:=nN m (Nat.gcd m.natAbs d:Nat);have e4:=kN d (Nat.gcd m.natAbs d);have e5:=Nat.div_pos hg hg0;refine fn func65 J J ntmps65 J J (fun C=>?_);refine cl J (AB (m:=m)) J<|cl J (OC (a:=m.natAbs) (b:=d)) J<|?_;refine br (fu1:=⟨4⟩) J J J (fun hc13=>?_) (fun hc13=>?_)
 .
  refine ak 16 (.d (vI (m/(Nat.gcd m.natAbs d:Nat)))) J (by rw[Lu (Int.dvd_natAbs.1 (rY.2 (nU _ _))) h];rfl) ?_;refine gx (fu:=⟨3⟩) J<|?_;refine ak 19 (.d (vI ((d/Nat.gcd m.natAbs d:Nat)))) J (by rw[Lu (rY.2 (oV _ _)) (by rw[jR];exact hd)];rfl) ?_;refine gx (hv:=by simp only[ah];exact⟨by kernel_rfl,by omega⟩) J<|?_;exact jm J (tf (fun k=>k ⟨by rw[e1];omega,by rw[e2];omega⟩) e1 (by rw[e2]) J)
 .
  exact jm J (by have h1:Nat.gcd m.natAbs d=1:=(by omega);rw[h1,tN] at e2;rw[h1,Int.natCast_one,Int.ediv_one] at e1;exact tf (fun k=>k ⟨by rw[e1];omega,by rw[e2];omega⟩) e1 (by rw[e2]) J)
def ph{p q:Rat}{i j:Nat}[h:BQ p i][k:BQ q j](hi:i<=100000000:=by decide)(hj:j<=100000000:=by decide):PF GB prog 133 [eF p,eF q] (eF (p*q)):=by
 refine fn (fu:=⟨8⟩) func133 J J ntmps133 J J (fun C=>?_);refine mg (X:=Unit) (fun _=>[(2, .ov 2 0),(3, .ov 3 0),(4, .ov 4 0)]) (fun _=>[(2,some (.o 83 [.d (vI (cH p)), .d (vI (cG p)), .d (cP p)] true)),(3,some (.o 83 [.d (vI (cH q)), .d (vI (cG q)), .d (cP q)] true)),(4,some (.o 83 [.d (.v (.int .i64 0)), .d (.v (.int .i64 0)), .d (.v (.pointer none))] true))]) (fun _=>True) [2,3,4] [2,3,4] rfl ?_ (fun _=>J) (fun _ _=>?_)
 .
  refine gx J<|?_;refine cs 12 J J J (fun hg12=>?_) (fun hg12=>?_)
  .
   refine br (fu1:=⟨4⟩) J J J (fun hc16=>?_) (fun hc16=>?_)
   .
    have hp:=ul hg12;have hq:=ul hc16;have p1:=nO hp;have p2:=pE hp;have p3:=qH hp;have p4:=qj hp;have p5:=p.den_nz;have q1:=nO hq;have q2:=pE hq;have q3:=qH hq;have q4:=qj hq;have q5:=q.den_nz;refine ak 19 (.d (vI p.num)) J (by rw[p1]) ?_;refine gx (fu:=⟨2⟩) J<|?_;refine ak 21 (.d (vI q.num)) J (by rw[q1]) ?_;refine gx J<|cl (fu:=⟨12⟩) J (An (a:=p.num) (b:=q.num)) J<|?_;refine ak 28 (.d (vI (p.den:Nat))) J (by congr 3;omega) ?_;refine gx (fu:=⟨3⟩) J<|?_;refine ak 31 (.d (vI (q.den:Nat))) J (by congr 3;omega) ?_;refine gx J<|cl J (An (a:=(p.den:Nat)) (b:=(q.den:Nat))) J<|?_;refine csd 36 J J J (fun hg36=>?_) (fun hg36=>?_)
    .
     refine bd (fu1:=⟨3⟩) J J J (fun hc38=>?_) (fun hc38=>?_)
     .
      have hd1:p.den*q.den<4611686018427387904:=by omega
      refine ak 39 (.d (vI (p.num*q.num))) J (by rw[Ba hg36]) ?_;refine gx (fu:=⟨1⟩) J<|?_;refine ak 40 (.d (vI ((p.den*q.den:Nat)))) J (by rw[Ba hc38];rfl) ?_;refine gx J<|cl J (N9 (m:=p.num*q.num) (d:=p.den*q.den) hg36 (iT (by omega) (by omega)) hd1) J<|?_;exact rz J (by rw[<-AY];rfl)
     .
      exact at_ () trivial
    .
     exact at_ () trivial
   .
    exact at_ () trivial
  .
   exact at_ () trivial
 .
  refine cl J (wN (q:=p) (by omega)) J<|cl J (wN (q:=q) (by omega)) J<|cl J (H8 (a:=p.num) (b:=q.num) (by omega) (by omega)) J<|?_;refine cl J (qy (q:=p) (by omega)) J<|cl J (qy (q:=q) (by omega)) J<|cl J (yH (a:=p.den) (b:=q.den) (by omega) (by omega)) J<|?_;refine cl J (uM (n:=decide (p.num*q.num<0)) (a:=(p.num*q.num).natAbs) (d:=p.den*q.den) (i:=i+j) (j:=i+j) (by omega) (by omega)) J<|?_;exact rz J (by rw[ml,<-AY];rfl)
def pj{p q:Rat}{i j:Nat}[h:BQ p i][k:BQ q j](hi:i<=100000000:=by decide)(hj:j<=100000000:=by decide):PF GB prog 25 [eF p,eF q] (eF (p+q)):=by
 refine fn (fu:=⟨8⟩) func25 J J ntmps25 J J (fun C=>?_);refine mg (X:=Unit) (fun _=>[(2, .ov 2 0),(3, .ov 3 0),(4, .ov 4 0)]) (fun _=>[(2,some (.o 83 [.d (vI (cH p)), .d (vI (cG p)), .d (cP p)] true)),(3,some (.o 83 [.d (vI (cH q)), .d (vI (cG q)), .d (cP q)] true)),(4,some (.o 83 [.d (.v (.int .i64 0)), .d (.v (.int .i64 0)), .d (.v (.pointer none))] true))]) (fun _=>True) [2,3,4] [2,3,4] rfl ?_ (fun _=>J) (fun _ _=>?_)
 .
  refine gx J<|?_;refine cs 16 J J J (fun hg16=>?_) (fun hg16=>?_)
  .
   refine br (fu1:=⟨1⟩) J J J (fun hc20=>?_) (fun hc20=>?_)
   .
    have hp:=ul hg16;have hq:=ul hc20;have p1:=nO hp;have p2:=pE hp;have p3:=qH hp;have p4:=qj hp;have p5:=p.den_nz;have q1:=nO hq;have q2:=pE hq;have q3:=qH hq;have q4:=qj hq;have q5:=q.den_nz;refine mg (fu:=⟨4⟩) (X:=Unit) (fun _=>[(2, .ov 2 0),(3, .ov 3 0),(4, .ov 4 0)]) (fun _=>[(2,some (.o 83 [.d (vI (cH p)), .d (vI (cG p)), .d (cP p)] true)),(3,some (.o 83 [.d (vI (cH q)), .d (vI (cG q)), .d (cP q)] true)),(4,some (.o 83 [.d (.v (.int .i64 0)), .d (.v (.int .i64 0)), .d (.v (.pointer none))] true))]) (fun _=>True) [2,3,4] [2,3,4] rfl ?_ (fun _=>J) (fun _ _=>?_)
    .
     refine gx J<|?_;refine cs 24 J J J (fun hg24=>?_) (fun hg24=>?_)
     .
      refine br (fu1:=⟨4⟩) J J J (fun hc28=>?_) (fun hc28=>?_)
      .
       refine ak 30 (.d (vI p.num)) J (by rw[p1]) ?_;refine gx (fu:=⟨2⟩) J<|?_;refine ak 32 (.d (vI q.num)) J (by rw[q1]) ?_;refine gx J<|cl J (sr (m:=p.num+q.num) (by omega)) J<|?_;exact rz J (by rw[B6 (q:=p),B6 (q:=q),<-pY];rfl)
      .
       exact at_ () trivial
     .
      exact at_ () trivial
    .
     refine ak 37 (.d (vI p.num)) J (by rw[p1]) ?_;refine gx (fu:=⟨3⟩) J<|?_;refine ak 40 (.d (vI (q.den:Nat))) J (by congr 3;omega) ?_;refine gx J<|cl (fu:=⟨11⟩) J (An (a:=p.num) (b:=(q.den:Nat))) J<|?_;refine ak 46 (.d (vI q.num)) J (by rw[q1]) ?_;refine gx (fu:=⟨3⟩) J<|?_;refine ak 49 (.d (vI (p.den:Nat))) J (by congr 3;omega) ?_;refine gx J<|cl (fu:=⟨12⟩) J (An (a:=q.num) (b:=(p.den:Nat))) J<|?_;refine ak 56 (.d (vI (p.den:Nat))) J (by congr 3;omega) ?_;refine gx (fu:=⟨3⟩) J<|?_;refine ak 59 (.d (vI (q.den:Nat))) J (by congr 3;omega) ?_;refine gx J<|cl (fu:=⟨3⟩) J (An (a:=(p.den:Nat)) (b:=(q.den:Nat))) J<|?_;have t1:=GP p.num (q.den:Nat);have t2:=GP q.num (p.den:Nat);have t3:=GP (p.den:Nat) (q.den:Nat);refine gx J<|?_;refine csd 67 J J J (fun hg67=>?_) (fun hg67=>?_)
     .
      refine csd 70 J J J (fun hg70=>?_) (fun hg70=>?_)
      .
       refine csd 73 J J J (fun hg73=>?_) (fun hg73=>?_)
       .
        refine cs 77 J J J (fun hg77=>?_) (fun hg77=>?_)
        .
         refine br (fu1:=⟨3⟩) J J J (fun hc80=>?_) (fun hc80=>?_)
         .
          have u1:=Ba hg67;have u2:=Ba hg70;have u3:=Ba hg73;have hd1:p.den*q.den<4611686018427387904:=by omega
          refine ak 81 (.d (vI (p.num*(q.den:Nat)+q.num*(p.den:Nat)))) J (by rw[u1,u2];rfl) ?_;refine gx (fu:=⟨1⟩) J<|?_;refine ak 82 (.d (vI ((p.den*q.den:Nat)))) J (by rw[u3];rfl) ?_;refine gx J<|cl J (N9 (m:=p.num*(q.den:Nat)+q.num*(p.den:Nat)) (d:=p.den*q.den) (by omega) (iT (by omega) (by omega)) hd1) J<|?_;exact rz J (by rw[<-Br];rfl)
         .
          exact at_ () trivial
        .
         exact at_ () trivial
       .
        exact at_ () trivial
      .
       exact at_ () trivial
     .
      exact at_ () trivial
   .
    exact at_ () trivial
  .
   exact at_ () trivial
 .
  refine cl J (wN (q:=p) (by omega)) J<|cl (fu:=⟨1⟩) J (qy (q:=q) (by omega)) J<|?_;refine ak 88 (.d (eI (q.den:Nat))) J (by rw[Oi]) ?_;refine gx J<|cl J (H8 (a:=p.num) (b:=(q.den:Nat)) (by omega) (by omega)) J<|cl J (wN (q:=q) (by omega)) J<|cl (fu:=⟨1⟩) J (qy (q:=p) (by omega)) J<|?_;refine ak 94 (.d (eI (p.den:Nat))) J (by rw[Oi]) ?_;refine gx J<|cl J (H8 (a:=q.num) (b:=(p.den:Nat)) (by omega) (by omega)) J<|cl J (aFA (a:=p.num*(q.den:Nat)) (b:=q.num*(p.den:Nat)) (i:=i+j) (j:=j+i) (by omega) (by omega)) J<|?_;refine cl J (qy (q:=p) (by omega)) J<|cl J (qy (q:=q) (by omega)) J<|cl J (yH (a:=p.den) (b:=q.den) (by omega) (by omega)) J<|?_;refine cl J (uM (n:=decide (p.num*(q.den:Nat)+q.num*(p.den:Nat)<0)) (a:=(p.num*(q.den:Nat)+q.num*(p.den:Nat)).natAbs) (d:=p.den*q.den) (i:=i+j+(j+i)+1) (j:=i+j) (by omega) (by omega)) J<|?_;exact rz J (by rw[ml,<-Br];rfl)
def q8{p q:Rat}{i j:Nat}[h:BQ p i][k:BQ q j](hi:i<=100000000:=by decide)(hj:j<=100000000:=by decide):PF GB prog 134 [eF p,eF q] (eF (p-q)):=by
 refine fn func134 J J ntmps134 J J (fun C=>?_);refine cl J (qC (q:=q) (by omega)) J<|cl J (pj (p:=p) (q:= -q) (by omega) (by omega)) J<|?_;exact rz J (by rw[<-Rat.sub_eq_add_neg];rfl)
def Sv{q:Rat}{i:Nat}[h:BQ q i](hi:i<=400000000:=by decide):PF GB prog 199 [eF q] (eF q⁻¹):=by
 refine fn func199 J J ntmps199 J J (fun C=>?_);refine br (v1:=fun hc3=>by simp only[ah];exact⟨⟨hc3,hc3⟩,hc3⟩) J J J (fun hc3=>?_) (fun hc3=>?_)
 .
  refine cl J (uM (n:=decide (q.num<0)) (a:=q.den) (d:=q.num.natAbs) (by omega) (by omega)) J<|?_;exact rz J (by rw[aDQ];rfl)
 .
  have q1:=nO (oC hc3);have q2:=pE (oC hc3);have q3:=qH (oC hc3);have q4:=qj (oC hc3);have q5:=q.den_nz;refine br J J J (fun hc26=>?_) (fun hc26=>?_)
  .
   exact jm rfl (by obtain⟨e1,e2⟩:=Pe (q:=q) (by omega);exact tf (fun k=>k ⟨by omega,by omega⟩) (by omega) (by omega) rfl)
  .
   refine br J J J (fun hc39=>?_) (fun hc39=>?_)
   .
    exact jm J (by rw[lM.1 (show q.num=0 by omega),Rat.inv_zero];exact xR)
   .
    exact jm rfl (by obtain⟨e1,e2⟩:=N3 (q:=q) (by omega);exact tf (fun k=>k ⟨by omega,by omega⟩) (by omega) (by omega) rfl)
def AS{p q:Rat}{i j:Nat}[h:BQ p i][k:BQ q j](hi:i<=100000000:=by decide)(hj:j<=100000000:=by decide):PF GB prog 181 [eF p,eF q] (eF (p/q)):=by
 refine fn func181 J J ntmps181 J J (fun C=>?_);refine cl J (Sv (q:=q) (by omega)) J<|cl J (ph (p:=p) (q:=q⁻¹) (by omega) (by omega)) J<|?_;exact rz J (by rw[Rat.div_def];rfl)
def LW{G:Gh}{q r:DV}{t:List DV}{vs:List Value}(h: ∀y,Is G r y->Is G q y)(hv:IsLs G (r::t) vs):IsLs G (q::t) vs:=by
 obtain⟨y,m,rfl,h1,h2⟩:=bu.1 hv;exact .cons (h _ h1) h2
def JA{G:Gh}{a q r:DV}{t:List DV}{vs:List Value}(h: ∀y,Is G r y->Is G q y)(hv:IsLs G (a::r::t) vs):IsLs G (a::q::t) vs:=by
 obtain⟨y,m,rfl,h1,h2⟩:=bu.1 hv;exact .cons h1 (LW h h2)
def Vr{q:Rat}{i:Nat}[h:BQ q i](hi:i<=100000000:=by decide):PF GB prog 133 [eF q, .ag [vI 1,vI 1, .v (.pointer none)]] (eF (q*mkRat 1 2)):=
 (ph (p:=q) (q:=mkRat 1 2) hi).ofI fun G vs hv=>JA (fun y hy=>tf (q:=mkRat 1 2) (fun k=>k ⟨by decide,by decide⟩) (by decide) (by decide) J G y hy) hv
def Dy{q:Rat}{i:Nat}[h:BQ q i](hi:i<=100000000:=by decide):PF GB prog 73 [eF q] (eF (q*mkRat 1 2)):=by
 refine fn func73 J J ntmps73 J J (fun C=>?_);refine cl J (Vr (q:=q) (by omega)) J<|?_;exact rz J J
def vP{p q:Rat}{i j:Nat}[h:BQ p i][k:BQ q j](hi:i<=100000000:=by decide)(hj:j<=100000000:=by decide):PF GB prog 230 [eF p,eF q] (vI (bg p q)):=by
 refine fn func230 J J ntmps230 J J (fun C=>?_);refine cs 8 J J J (fun hg8=>?_) (fun hg8=>?_)
 .
  refine cs 13 J J J (fun hg13=>?_) (fun hg13=>?_)
  .
   refine br J J J (fun hc19=>?_) (fun hc19=>?_)
   .
    have hp:=ul hg8;have hq:=ul hg13;have p1:=nO hp;have p2:=pE hp;have p3:=qH hp;have p4:=qj hp;have p5:=p.den_nz;have q1:=nO hq;have q2:=pE hq;have q3:=qH hq;have q4:=qj hq;have q5:=q.den_nz;have hl:=MG (a:=p) (b:=q);have hr:=MG (a:=q) (b:=p);unfold bg;refine br J J J (fun hc20=>?_) (fun hc20=>?_)
    .
     exact rz J (by rw[if_pos (hl.2 (by omega))];rfl)
    .
     refine br J J J (fun hc26=>?_) (fun hc26=>?_)
     .
      exact rz J (by rw[if_neg (fun e=>by have:=hl.1 e;omega),if_pos (hr.2 (by omega))];rfl)
     .
      exact rz J (by rw[if_neg (fun e=>by have:=hl.1 e;omega),if_neg (fun e=>by have:=hr.1 e;omega)];rfl)
   .
    refine cl J (q8 (p:=p) (q:=q) (by omega) (by omega)) J<|cl J (nB (q:=p-q) (by omega)) J<|?_;exact rz J (by rw[Ck];rfl)
  .
   refine cl J (q8 (p:=p) (q:=q) (by omega) (by omega)) J<|cl J (nB (q:=p-q) (by omega)) J<|?_;exact rz J (by rw[Ck];rfl)
 .
  refine cl J (q8 (p:=p) (q:=q) (by omega) (by omega)) J<|cl J (nB (q:=p-q) (by omega)) J<|?_;exact rz J (by rw[Ck];rfl)
def yp{p q:Rat}{i j:Nat}[h:BQ p i][k:BQ q j](hi:i<=100000000:=by decide)(hj:j<=100000000:=by decide):PF GB prog 184 [eF p,eF q] (vB (decide (p=q))):=by
 refine fn func184 J J ntmps184 J J (fun C=>?_);refine cl J (vP (p:=p) (q:=q) hi hj) J<|?_;exact rz J (by show DV.v (.bool (decide _))= .v (.bool _);congr 2;exact decide_eq_decide.2 (tc p q))
def Vy{p q:Rat}{i j:Nat}[h:BQ p i][k:BQ q j](hi:i<=100000000:=by decide)(hj:j<=100000000:=by decide):PF GB prog 289 [eF p,eF q] (eF (if p<q then q else p)):=by
 refine fn func289 J J ntmps289 J J (fun C=>?_);refine cl J (vP (p:=q) (q:=p) hj hi) J<|?_;refine br J J J (fun hc8=>?_) (fun hc8=>?_)
 .
  exact rz J (by rw[if_pos ((R2 q p).1 hc8)];rfl)
 .
  exact rz J (by rw[if_neg (fun e=>hc8 ((R2 q p).2 e))];rfl)
def YM{p q:Rat}{i j:Nat}[h:BQ p i][k:BQ q j](hi:i<=100000000:=by decide)(hj:j<=100000000:=by decide):PF GB prog 290 [eF p,eF q] (eF (if q<p then q else p)):=by
 refine fn func290 J J ntmps290 J J (fun C=>?_);refine cl J (vP (p:=q) (q:=p) hj hi) J<|?_;refine br J J J (fun hc8=>?_) (fun hc8=>?_)
 .
  exact rz J (by rw[if_pos ((SH q p).1 hc8)];rfl)
 .
  exact rz J (by rw[if_neg (fun e=>hc8 ((SH q p).2 e))];rfl)
def s6{p q:Rat}{i j:Nat}[h:BQ p i][k:BQ q j](hi:i<=100000000:=by decide)(hj:j<=100000000:=by decide):PF GB prog 193 [eF p,eF q] (eF (rgcd p q)):=by
 refine fn (fu:=⟨8⟩) func193 J J ntmps193 J J (fun C=>?_);refine mg (X:=Unit) (fun _=>[(2, .ov 2 0),(3, .ov 3 0),(4, .ov 4 0)]) (fun _=>[(2,some (.o 83 [.d (vI (cH p)), .d (vI (cG p)), .d (cP p)] true)),(3,some (.o 83 [.d (vI (cH q)), .d (vI (cG q)), .d (cP q)] true)),(4,some (.o 83 [.d (.v (.int .i64 0)), .d (.v (.int .i64 0)), .d (.v (.pointer none))] true))]) (fun _=>True) [2,3,4] [2,3,4] rfl ?_ (fun _=>J) (fun _ _=>?_)
 .
  refine gx J<|?_;refine cs 10 J J J (fun hg10=>?_) (fun hg10=>?_)
  .
   refine cs 15 J J J (fun hg15=>?_) (fun hg15=>?_)
   .
    have hp:=ul hg10;have hq:=ul hg15;have p1:=nO hp;have p2:=pE hp;have p3:=qH hp;have p4:=qj hp;have p5:=p.den_nz;have q1:=nO hq;have q2:=pE hq;have q3:=qH hq;have q4:=qj hq;have q5:=q.den_nz;refine cs 20 J J J (fun hg20=>?_) (fun hg20=>?_)
    .
     refine br (fu1:=⟨4⟩) J J J (fun hc24=>?_) (fun hc24=>?_)
     .
      have hg:=aGm p3 q3;refine ak 26 (.d (vI p.num)) J (by rw[p1]) ?_;refine gx J<|cl (fu:=⟨2⟩) J (AB (m:=p.num)) J<|?_;refine ak 29 (.d (vI q.num)) J (by rw[q1]) ?_;refine gx J<|cl J (AB (m:=q.num)) J<|cl (hv:=by simp only[ah];exact⟨by omega,by kernel_rfl⟩) J (OC (a:=p.num.natAbs) (b:=q.num.natAbs)) J<|?_;exact jm J (by rw[WL (p:=p) (q:=q) (by omega) (by omega)];exact M6 (by rw[jR];exact hg))
     .
      exact at_ () trivial
    .
     exact at_ () trivial
   .
    exact at_ () trivial
  .
   exact at_ () trivial
 .
  refine cl J (qy (q:=p) (by omega)) J<|cl J (qy (q:=q) (by omega)) J<|cl J (yH (a:=p.den) (b:=q.den) (by omega) (by omega)) J<|?_;refine cl J (wN (q:=p) (by omega)) J<|cl J (qy (q:=q) (by omega)) J<|cl J (yH (a:=p.num.natAbs) (b:=q.den) (by omega) (by omega)) J<|?_;refine cl J (wN (q:=q) (by omega)) J<|cl J (qy (q:=p) (by omega)) J<|cl J (yH (a:=q.num.natAbs) (b:=p.den) (by omega) (by omega)) J<|?_;refine cl J (Ho (a:=p.num.natAbs*q.den) (b:=q.num.natAbs*p.den) (i:=i+j) (j:=j+i) (by omega) (by omega)) J<|cl J (uM (n:=false) (a:=Nat.gcd (p.num.natAbs*q.den) (q.num.natAbs*p.den)) (d:=p.den*q.den) (i:=i+j+(j+i)) (j:=i+j) (by omega) (by omega)) J<|?_;exact rz J J
end Go.Sx
end
section
namespace Go.Sx
open Go
def crossI(l m:ab):Int:=l.a*m.b-m.a*l.b
def meetX(l m:ab):Int:=l.b*m.c-m.b*l.c
def meetY(l m:ab):Int:=m.a*l.c-l.a*m.c
def d8(l m:ab):aa:=if crossI l m=0 then⟨0,0⟩ else⟨(meetX l m:Rat)/(crossI l m:Rat),(meetY l m:Rat)/(crossI l m:Rat)⟩
def fG(l:ab)(p:aa):Rat:=p.dot l.dir/l.dir.dot l.dir
def Jb(l:ab):l.dir.dot l.dir=l.nor.dot l.nor:=by
 simp only[ab.dir,ab.nor,aa.dot];grind
def Bh{l:ab}(h:l.Ne):0<l.dir.dot l.dir:=by rw[Jb];exact sG h
def Bb(l m:ab):((crossI l m:Int):Rat)=(l.a:Rat)*m.b-(m.a:Rat)*l.b:=by
 unfold crossI;rw[jM,cR,cR]
def K4(l m:ab):((meetX l m:Int):Rat)=(l.b:Rat)*m.c-(m.b:Rat)*l.c:=by
 unfold meetX;rw[jM,cR,cR]
def Rj(l m:ab):((meetY l m:Int):Rat)=(m.a:Rat)*l.c-(l.a:Rat)*m.c:=by
 unfold meetY;rw[jM,cR,cR]
def Cy(l m:ab):l.cutK m= -((crossI l m:Int):Rat):=by
 rw[Bb];simp only[ab.cutK,ab.nor,ab.dir,aa.dot];grind
def NA(l m:ab):m.dir.cross l.dir=l.cutK m:=by
 simp only[ab.cutK,ab.nor,ab.dir,aa.dot,aa.cross];grind
def L'{l:ab}:(⟨-((l.c:Rat)/l.dir.dot l.dir)*(l.a:Rat), -((l.c:Rat)/l.dir.dot l.dir)*(l.b:Rat)⟩:aa)=l.base:=by
 unfold ab.base;rw[Jb];simp only[ab.nor,aa.scale,aa.mk.injEq];constructor<;>grind
def tE(l:ab)(t:Rat):bP l.base l.dir t=l.at t:=by
 simp only[bP,ab.at,aa.add,aa.scale,aa.mk.injEq];constructor<;>grind
def Ah{l m:ab}(hl:l.Ne)(h:crossI l m≠0):fG l (d8 l m)= -(l.cutC m/l.cutK m):=by
 have hd:((crossI l m:Int):Rat)≠0:=fun e=>h (dZ.1 e);have hn:=Bh hl;obtain⟨q,q1,q2⟩:=Bm hl;rw[Cy];unfold fG d8 ab.cutC;rw[if_neg h,q2,jf,K4,Rj];have hc:=Bb l m;rw[Jb] at hn⊢;simp only[ab.dir,ab.nor,aa.dot] at hn q1⊢;generalize ((crossI l m:Int):Rat)=d at*;generalize (l.a:Rat)=a at*;generalize (l.b:Rat)=b at*;generalize (l.c:Rat)=c at*;generalize (m.a:Rat)=x at*;generalize (m.b:Rat)=y at*;generalize (m.c:Rat)=z at*;have hn':a*a+b*b≠0:=by grind
 have e:((b*z-y*c)/d*b+(x*c-a*z)/d* -a)=((b*z-y*c)*b-(x*c-a*z)*a)/d:=by grind
 rw[e];have k1:(b*z-y*c)*b-(x*c-a*z)*a=(a*a+b*b)*(x*(a*q)+y*(b*q)+z):=by grind
 rw[k1];grind
def asW{l m:ab}(hl:l.Ne)(h:crossI l m≠0):fG l (d8 l m)*((crossI l m*(l.a*l.a+l.b*l.b):Int):Rat)=((meetX l m*l.b-meetY l m*l.a:Int):Rat):=by
 have hd:((crossI l m:Int):Rat)≠0:=fun e=>h (dZ.1 e);have hn:=Bh hl;unfold fG d8;rw[if_neg h];simp only[cR,jM,pY];simp only[ab.dir,aa.dot] at hn⊢;generalize ((crossI l m:Int):Rat)=d at*;generalize ((meetX l m:Int):Rat)=x at*;generalize ((meetY l m:Int):Rat)=y at*;generalize (l.a:Rat)=a at*;generalize (l.b:Rat)=b at*;have hn':b*b+ -a* -a≠0:=by grind
 grind
def Hd(l m:ab)(t:List ab)(v:aj):fm l (m::t) v=if m=l then fm l t v else if l.cutB v m then fm l t (l.cutV v m) else none:=rfl
def pi(v:aj)(t:Rat):aj:=if v.nl=true\/0<bg t v.lo then⟨t,v.hi,false,v.nh⟩ else v
def px(v:aj)(t:Rat):aj:=if v.nh=true\/bg t v.hi<0 then⟨v.lo,t,v.nl,false⟩ else v
structure ic (v:aj):Prop where
 lo:v.nl=true->v.lo=0
 hi:v.nh=true->v.hi=0
def Ie(a b:Rat):0<bg a b↔b<a:=by
 unfold bg;split
 .constructor
  .intro h;exact absurd h (by decide)
  .intro h;grind
 .split
  .exact⟨fun _=>by assumption,fun _=>by decide⟩
  .constructor
   .intro h;exact absurd h (by decide)
   .intro h;exact absurd h (by assumption)
def AP(a b:Rat):bg a b<0↔a<b:=by
 unfold bg;split
 .exact⟨fun _=>by assumption,fun _=>by decide⟩
 .split
  .constructor
   .intro h;exact absurd h (by decide)
   .intro h;grind
  .constructor
   .intro h;exact absurd h (by decide)
   .intro h;exact absurd h (by assumption)
def NG{v:aj}(h:ic v)(t:Rat):pi v t=v.meet ⟨t,0,false,true⟩:=by
 obtain⟨lo,hi,nl,nh⟩:=v;obtain⟨h1,h2⟩:=h;unfold pi aj.meet;simp only[Ie] at*
 cases nl<;>cases nh<;>simp at* <;>(try (split<;>split<;>simp_all<;>grind))<;>grind
def Pn{v:aj}(h:ic v)(t:Rat):px v t=v.meet ⟨0,t,true,false⟩:=by
 obtain⟨lo,hi,nl,nh⟩:=v;obtain⟨h1,h2⟩:=h;unfold px aj.meet;simp only[AP] at*
 cases nl<;>cases nh<;>simp at* <;>(try (split<;>split<;>simp_all<;>grind))<;>grind
def ic.all:ic aj.all:=⟨fun _=>J,fun _=>J⟩
def ic.lo'{v:aj}(h:ic v)(t:Rat):ic (pi v t):=by
 obtain⟨lo,hi,nl,nh⟩:=v;unfold pi;split
 .exact⟨fun h=>by simp at h,h.hi⟩
 .exact h
def ic.hi'{v:aj}(h:ic v)(t:Rat):ic (px v t):=by
 obtain⟨lo,hi,nl,nh⟩:=v;unfold px;split
 .exact⟨h.lo,fun h=>by simp at h⟩
 .exact h
def Ad{l m:ab}{v:aj}(h:crossI l m=0):l.cutV v m=v/\(l.cutB v m=true↔0<m.value l.base):=by
 have hk:l.cutK m=0:=by rw[Cy,h];rfl
 exact Al v hk
def aBS{l m:ab}{v:aj}(hl:l.Ne)(hz:ic v)(h:0<m.dir.cross l.dir):crossI l m≠0/\l.cutV v m=pi v (fG l (d8 l m))/\l.cutB v m=!(pi v (fG l (d8 l m))).empty:=by
 rw[NA] at h;have hc:crossI l m≠0:=fun e=>by rw[Cy,e] at h;exact absurd h (by decide)
 obtain⟨h1,h2⟩:=Bp v h;refine⟨hc,?_,?_⟩
 .rw[NG hz,Ah hl hc,h1]
 .rw[NG hz,Ah hl hc,<-h1]
  rw[<-Eo] at h2
  cases hb:l.cutB v m<;>cases he:(l.cutV v m).empty<;>simp_all
def aCz{l m:ab}{v:aj}(hl:l.Ne)(hz:ic v)(h0:crossI l m≠0)(h: ¬0<m.dir.cross l.dir):l.cutV v m=px v (fG l (d8 l m))/\l.cutB v m=!(px v (fG l (d8 l m))).empty:=by
 rw[NA] at h;have hk:l.cutK m≠0:=fun e=>by
  rw[Cy] at e;have:((crossI l m:Int):Rat)=0:=by grind
  exact h0 (dZ.1 this)
 obtain⟨h1,h2⟩:=A4 (l:=l) (m:=m) v (by grind);refine⟨?_,?_⟩
 .rw[Pn hz,Ah hl h0,h1]
 .rw[Pn hz,Ah hl h0,<-h1]
  rw[<-Eo] at h2
  cases hb:l.cutB v m<;>cases he:(l.cutV v m).empty<;>simp_all
end Go.Sx
end
section
namespace Go.Sx
open Go Go.Proofs Tryz
variable {GB:Gh}

def cT:Tr->List DV
 | .leaf b=>[.v (.bool true), .v (.bool b), .v (.bool false), .sl [], .v (.bool false), .sl [], .v (.bool false), .sl [], .v (.pointer none), .v (.pointer none)]
 | .node l x y=>[.v (.bool false), .v (.bool false), .v (.bool (decide (l.a<0))),dN l.a.natAbs, .v (.bool (decide (l.b<0))),dN l.b.natAbs, .v (.bool (decide (l.c<0))),dN l.c.natAbs, .pt (cT x), .pt (cT y)]
def eT(t:Tr):DV:= .pt (cT t)
def eN(n:NQ):DV:= .ag [.v (.bool (decide (n.l.a<0))),dN n.l.a.natAbs, .v (.bool (decide (n.l.b<0))),dN n.l.b.natAbs, .v (.bool (decide (n.l.c<0))),dN n.l.c.natAbs, .v (.int .i64 n.a), .v (.int .i64 n.b)]
def eA(t:Tr):DV:= .ag [.v (.int .i64 (t.num 0)), .sl ((t.wr 0).map eN)]
structure BL (l:ab) (k:Nat):Prop where
 a:l.a.natAbs<2^k
 b:l.b.natAbs<2^k
 c:l.c.natAbs<2^k
def WN(ns:List NQ):cF 8 (ns.map eN):=fun d hd=>by
 obtain⟨n,_,rfl⟩:=bQ.1 hd;exact⟨rfl,rfl⟩
def Tr.all_wr{p:ab->Prop}: ∀{t:Tr} (n:Nat),t.all p-> ∀x∈t.wr n,p x.l
 | .leaf b,n,_,x,hx=>by cases hx
 | .node l u v,n,⟨h1,h2,h3⟩,x,hx=>by
  simp only[Tr.wr,jK,aT,bK] at hx;rcases hx with rfl|hx|hx
  .exact h1
  .exact u.all_wr _ h2 x hx
  .exact v.all_wr _ h3 x hx
structure LS (l:ab):Prop where
 ok:l.ok
 a:l.a.natAbs<=4
 b:l.b.natAbs<=4
 c:l.c.natAbs<=40000
def wI{xs:List ab}{i:Nat}(h:i<xs.length:=by omega):(xs.map eL)[(i:Int).toNat]? =some (eL xs[i]):=by simp[h]
def wM(xs:List ab):(xs.map eL).length=xs.length:=aJ ..
def ZG{α:Type}{xs:List α}{i:Nat}{p:α->Prop}(h: ∀x∈xs.take i,p x)(hi:i<xs.length)(hy:p xs[i]): ∀x∈xs.take (i+1),p x:=by
 intro x hx;rw[gJ hi] at hx;simp only[bK,aU] at hx;rcases hx with hx|rfl
 .exact h x hx
 .exact hy
def ZO{a b:Int}(h:decide (a<0)=decide (b<0)):decide (a.natAbs=b.natAbs)=decide (a=b):=by
 have h':a<0↔b<0:=by simpa using h
 exact decide_eq_decide.2 ⟨fun e=>by omega,fun e=>by rw[e]⟩
def ab.ext'{l m:ab}(h1:l.a=m.a:=by omega)(h2:l.b=m.b:=by omega)(h3:l.c=m.c:=by omega):l=m:=by cases l;cases m;simp_all
instance:DecidableEq NQ:=fun x y=>decidable_of_iff (x.l=y.l/\x.a=y.a/\x.b=y.b) (by
 cases x;cases y;simp)
def gA(ls:List ab):cF 6 (ls.map eL):=fun d hd=>by
 obtain⟨n,_,rfl⟩:=bQ.1 hd;exact⟨rfl,rfl⟩
def Zb{a b:Nat}(hl:(dg a).length=(dg b).length)(h: ∀j,j<(dg a).length->(dg a).getD j 0=(dg b).getD j 0):a=b:=by
 have e:dg a=dg b:=by
  apply List.ext_getElem hl;intro i h1 h2;have:=h i h1;rw[aX,aX,aQ h1,aQ h2] at this;exact this
 rw[<-cj a,e,cj]
def jv{z:Int}:PF GB prog 212 [eI z] (eQ (z:Rat)):=by
 refine fn func212 J J ntmps212 J J (fun C=>?_);exact rz J (by rw[E5];rfl)
def xY{l:ab}:PF GB prog 47 [eL l] (eL l.rev):=by
 refine fn func47 J J ntmps47 J J (fun C=>?_);refine cl J zj J<|cl J zj J<|cl J zj J<|?_;exact rz J J
def P0{a b i j:Nat}[ha:BN a i][hb:BN b j](hi:i<=400000000:=by decide):PF GB prog 39 [dN a,dN b] (vB (decide (a=b))):=by
 have hla:=fp (dg a);have hlb:=fp (dg b);have hba:=lm ha.h;refine fn func39 J J ntmps39 J J (fun C=>?_);refine br (fu2:=⟨7⟩) J J J (fun hc10=>?_) (fun hc10=>?_)
 .
  exact rz J (by rw[decide_eq_false (fun e:a=b=>hc10 (by rw[e]))];rfl)
 .
  refine ak 12 (.d (vI ((dg a).length:Nat))) J (by rw[hla];rfl) ?_;refine gx J<|?_;refine lp (X:=Nat) (fun i=>[(13, .d (vI (i:Nat))),(12, .d (vI ((dg a).length:Nat))),(0, .d (dN a)),(1, .d (dN b))]) (fun i=>[]) (fun i=>i<=(dg a).length/\ ∀j,j<i->(dg a).getD j 0=(dg b).getD j 0) (fun i=>(dg a).length-i) 0 J ⟨aN _,fun j hj=>absurd hj (by omega)⟩ (fun _=>J) (fun i hk=>?_);obtain⟨h1,h2⟩:=hk;refine br J J J (fun hc14=>?_) (fun hc14=>?_)
  .
   refine ix _ J (nn) J<|ix _ J (nn) J<|?_;refine br J J J (fun hc24=>?_) (fun hc24=>?_)
   .
    exact rz J (by rw[decide_eq_false (fun e:a=b=>hc24 (by rw[e]))];rfl)
   .
    exact at_ (i+1) ⟨⟨by omega,fun j hj=>by by_cases q:j=i;(subst q;omega);exact h2 j (by omega)⟩,(by omega)⟩
  .
   exact rz J (by rw[decide_eq_true (Zb (by omega) (fun j hj=>h2 j (by omega)))];rfl)
def aD1{a b:Int}{i j:Nat}[ha:BI a i][hb:BI b j](hi:i<=400000000:=by decide):PF GB prog 38 [eI a,eI b] (vB (decide (a=b))):=by
 refine fn (fu:=⟨14⟩) func38 J J ntmps38 J J (fun C=>?_);refine ak 9 (.d (.v (.bool (decide (decide (a<0)=decide (b<0)))))) J (by congr 2) ?_;refine gx J<|?_;refine csd 10 J J J (fun hg10=>?_) (fun hg10=>?_)
 .
  refine cl J (P0 (by omega)) J<|?_;exact rz J (by show DV.v (.bool _)=DV.v (.bool _);rw[<-ZO hg10])
 .
  exact rz J (by rw[decide_eq_false (fun e:a=b=>hg10 (by rw[e]))];rfl)
class LB (l:ab):Prop where bl:BL l 96
instance LB.a (l:ab) [h:LB l]:BI l.a 96:=⟨h.bl.a⟩
instance LB.b (l:ab) [h:LB l]:BI l.b 96:=⟨h.bl.b⟩
instance LB.c (l:ab) [h:LB l]:BI l.c 96:=⟨h.bl.c⟩
class aC (p:aa) (k:outParam Nat):Prop where
 x:BQ p.x k
 y:BQ p.y k
instance aC.ix (p:aa) (k:Nat) [h:aC p k]:BQ p.x k:=h.x
instance aC.iy (p:aa) (k:Nat) [h:aC p k]:BQ p.y k:=h.y
instance aC.dir (l:ab) [LB l]:aC l.dir 97:=⟨inferInstanceAs (BQ (l.b:Rat) 97),inferInstanceAs (BQ (-(l.a:Rat)) 97)⟩
instance BQ.dot (p q:aa) (i j:Nat) [aC p i] [aC q j]:BQ (p.dot q) (i+j+(i+j)+1):=inferInstanceAs (BQ (p.x*q.x+p.y*q.y) _)
instance BQ.cross (p q:aa) (i j:Nat) [aC p i] [aC q j]:BQ (p.cross q) (i+j+(i+j)+1):=inferInstanceAs (BQ (p.x*q.y-p.y*q.x) _)
instance aC.mov (p q:aa) (c:Rat) (i j k:Nat) [aC p i] [aC q j] [BQ c k]:aC (bP p q c) (i+(k+j)+1):=⟨inferInstanceAs (BQ (p.x+c*q.x) _),inferInstanceAs (BQ (p.y+c*q.y) _)⟩
instance BQ.value (l:ab) (p:aa) (i:Nat) [LB l] [aC p i]:BQ (l.value p) (96+1+i+(96+1+i)+1+(96+1)+1):=inferInstanceAs (BQ ((l.a:Rat)*p.x+(l.b:Rat)*p.y+(l.c:Rat)) _)
def Ru{l:ab}(h:l.Ne):l.dir.dot l.dir≠0:=by have:=Bh h;grind
def vG{l:ab}:PF GB prog 159 [eL l] (eP l.dir):=by
 refine fn func159 J J ntmps159 J J (fun C=>?_);refine cl J jv J<|cl J jv J<|cl J vQ J<|?_;exact rz J J
def Jf{p q:aa}{i j:Nat}[hp:aC p i][hq:aC q j](hi:i<=200000:=by decide)(hj:j<=200000:=by decide):PF GB prog 245 [eP p,eP q] (eQ (p.dot q)):=by
 refine fn func245 J J ntmps245 J J (fun C=>?_);refine cl J (jp (by omega) (by omega)) J<|cl J (jp (by omega) (by omega)) J<|cl J (po (by omega) (by omega)) J<|?_;exact rz J J
def D3{p q:aa}{i j:Nat}[hp:aC p i][hq:aC q j](hi:i<=200000:=by decide)(hj:j<=200000:=by decide):PF GB prog 97 [eP p,eP q] (eQ (p.cross q)):=by
 refine fn func97 J J ntmps97 J J (fun C=>?_);refine cl J (jp (by omega) (by omega)) J<|cl J (jp (by omega) (by omega)) J<|cl J (t8 (by omega) (by omega)) J<|?_;exact rz J J
def A5{p q:aa}{c:Rat}{i j k:Nat}[hp:aC p i][hq:aC q j][hc:BQ c k](hi:i<=19000000:=by decide)(hj:j<=9000000:=by decide)(hk:k<=9000000:=by decide):PF GB prog 98 [eP p,eQ c,eP q] (eP (bP p q c)):=by
 refine fn func98 J J ntmps98 J J (fun C=>?_);refine cl J (jp (by omega) (by omega)) J<|cl J (po (by omega) (by omega)) J<|cl J (jp (by omega) (by omega)) J<|cl J (po (by omega) (by omega)) J<|?_;exact rz J J
def Cg{l:ab}{p:aa}{i:Nat}[hl:LB l][hp:aC p i](hi:i<=400000:=by decide):PF GB prog 213 [eL l,eP p] (eQ (l.value p)):=by
 refine fn func213 J J ntmps213 J J (fun C=>?_);refine cl J (jv (z:=l.a)) J<|cl J (jp (by omega) (by omega)) J<|cl J (jv (z:=l.b)) J<|cl J (jp (by omega) (by omega)) J<|?_;refine cl J (po (by omega) (by omega)) J<|cl J (jv (z:=l.c)) J<|cl J (po (by omega) (by omega)) J<|?_;exact rz J J
def DN{l:ab}{p:aa}{i:Nat}[hl:LB l][hp:aC p i](hi:i<=400000:=by decide):PF GB prog 210 [eL l,eP p] (vI (l.value p).num.sign):=by
 refine fn func210 J J ntmps210 J J (fun C=>?_);refine cl J (Cg hi) J<|cl J qm J<|?_;exact rz J J
def Jp{l:ab}[hl:LB l](hn:l.Ne):PF GB prog 211 [eL l] (eP l.base):=by
 refine fn func211 J J ntmps211 J J (fun C=>?_);refine cl J vG J<|cl J (jv (z:=l.c)) J<|cl J Jf J<|cl J (yJ (Ru hn)) J<|cl J vQ J<|cl J (jv (z:=l.a)) J<|?_;refine cl J jp J<|cl J (jv (z:=l.b)) J<|cl J jp J<|?_;exact rz J (by rw[<-L'];rfl)
instance aC.base (l:ab) [LB l]:aC l.base 900:=by
 rw[<-L'];constructor
 .exact BQ.mono (inferInstance:BQ (-((l.c:Rat)/l.dir.dot l.dir)*(l.a:Rat)) _)
 .exact BQ.mono (inferInstance:BQ (-((l.c:Rat)/l.dir.dot l.dir)*(l.b:Rat)) _)
def L9{l:ab}{t:Rat}{k:Nat}[hl:LB l][ht:BQ t k](hn:l.Ne)(hk:k<=200000:=by decide):PF GB prog 161 [eL l,eQ t] (eP (l.at t)):=by
 refine fn func161 J J ntmps161 J J (fun C=>?_);refine cl J (Jp hn) J<|cl J vG J<|cl J (A5 (by decide) (by decide) (by omega)) J<|?_;exact rz J (by rw[<-tE];rfl)
def Cv{l:ab}{p:aa}{k:Nat}[hl:LB l][hp:aC p k](hn:l.Ne)(hk:k<=200000:=by decide):PF GB prog 201 [eL l,eP p] (eQ (fG l p)):=by
 refine fn func201 J J ntmps201 J J (fun C=>?_);refine cl J vG J<|cl J (Jf (by omega) (by decide)) J<|cl J (Jf (by omega) (by decide)) J<|cl J (yJ (Ru hn) (by omega) (by decide)) J<|?_;exact rz J J
instance BI.crossI (l m:ab) [LB l] [LB m]:BI (crossI l m) 385:=inferInstanceAs (BI (l.a*m.b-m.a*l.b) 385)
instance BI.meetX (l m:ab) [LB l] [LB m]:BI (meetX l m) 385:=inferInstanceAs (BI (l.b*m.c-m.b*l.c) 385)
instance BI.meetY (l m:ab) [LB l] [LB m]:BI (meetY l m) 385:=inferInstanceAs (BI (m.a*l.c-l.a*m.c) 385)
instance aC.imeet (l m:ab) [LB l] [LB m]:aC (d8 l m) 772:=by
 unfold d8;split
 .exact⟨BQ.mono (k:=1) ⟨by decide,by decide⟩,BQ.mono (k:=1) ⟨by decide,by decide⟩⟩
 .exact⟨inferInstanceAs (BQ ((meetX l m:Rat)/(crossI l m:Rat)) 772),inferInstanceAs (BQ ((meetY l m:Rat)/(crossI l m:Rat)) 772)⟩
def NY(l m:ab):(((l.a:Rat)*(m.b:Rat)-(m.a:Rat)*(l.b:Rat)).num.sign=0)↔crossI l m=0:=by
 rw[lz,<-Bb];exact dZ
def M2{l m:ab}(h:crossI l m≠0):(l.a:Rat)*(m.b:Rat)-(m.a:Rat)*(l.b:Rat)≠0:=by
 rw[<-Bb];exact fun e=>h (dZ.1 e)
def QV{l m:ab}[hl:LB l][hm:LB m]:PF GB prog 209 [eL l,eL m] (.tp [eP (d8 l m),vB (decide (crossI l m≠0))]):=by
 refine fn func209 J J ntmps209 J J (fun C=>?_);refine cl J (jv (z:=l.a)) J<|cl J (jv (z:=m.b)) J<|cl J jp J<|cl J (jv (z:=m.a)) J<|cl J (jv (z:=l.b)) J<|?_;refine cl J jp J<|cl J t8 J<|cl J qm J<|?_;refine br J J J (fun hc26=>?_) (fun hc26=>?_)
 .
  have hcr:=(NY l m).1 hc26;exact rz J (by unfold d8;rw[if_pos hcr,decide_eq_false (fun e=>e hcr)];show DV.tp [.ag [_, .sl [], .sl [],_, .sl [], .sl []],_]= .tp [eP ⟨0,0⟩,_];unfold eP dD;simp only[show(0:Rat).num=0 from J,show(0:Rat).den=1 from J,lQ,p6];rfl)
 .
  have hcr:crossI l m≠0:=fun e=>hc26 ((NY l m).2 e);refine cl J (jv (z:=l.b)) J<|cl J (jv (z:=m.c)) J<|cl J jp J<|cl J (jv (z:=m.b)) J<|cl J (jv (z:=l.c)) J<|?_;refine cl J jp J<|cl J t8 J<|cl J (jv (z:=m.a)) J<|cl J (jv (z:=l.c)) J<|cl J jp J<|cl J (jv (z:=l.a)) J<|?_;refine cl J (jv (z:=m.c)) J<|cl J jp J<|cl J t8 J<|cl J (yJ (M2 hcr)) J<|cl J (yJ (M2 hcr)) J<|?_;exact rz J (by unfold d8;rw[if_neg hcr,decide_eq_true hcr,K4,Rj,Bb];rfl)
def i4(l m:ab):Int:=if(l.a-m.a).sign≠0 then(l.a-m.a).sign else if(l.b-m.b).sign≠0 then(l.b-m.b).sign else(l.c-m.c).sign
def DO(l m:ab):i4 l m=0↔l=m:=by
 unfold i4;constructor
 .intro h
  split at h
  .contradiction
  .split at h
   .contradiction
   .rename_i h1 h2
    have a1:=jY.1 (Decidable.not_not.1 h1);have a2:=jY.1 (Decidable.not_not.1 h2);have a3:=jY.1 h;exact ab.ext'
 .rintro rfl
  simp
def BU{l m:ab}[hl:LB l][hm:LB m]:PF GB prog 157 [eL l,eL m] (vI (i4 l m)):=by
 refine fn func157 J J ntmps157 J J (fun C=>?_);refine cl J (GM (a:=l.a) (b:=m.a)) J<|?_;refine br J J J (fun hc13=>?_) (fun hc13=>?_)
 .
  exact rz J (by show vI _=_;unfold i4;rw[if_pos hc13])
 .
  refine cl J (GM (a:=l.b) (b:=m.b)) J<|?_;refine br J J J (fun hc21=>?_) (fun hc21=>?_)
  .
   exact rz J (by show vI _=_;unfold i4;rw[if_neg hc13,if_pos hc21])
  .
   refine cl J (GM (a:=l.c) (b:=m.c)) J<|?_;exact rz J (by show vI _=_;unfold i4;rw[if_neg hc13,if_neg hc21])
def KS{v:aa}:PF GB prog 217 [eP v] (vI v.half):=by
 refine fn func217 J J ntmps217 J J (fun C=>?_);refine cl J (qm (q:=v.x)) J<|cl J (qm (q:=v.y)) J<|?_;refine cs 13 J J J (fun hg13=>?_) (fun hg13=>?_)
 .
  refine br J J J (fun hc16=>?_) (fun hc16=>?_)
  .
   exact rz J (by show vI _=vI _;unfold aa.half;generalize v.x.num.sign=sx at*;generalize v.y.num.sign=sy at*;congr 1;(repeat' split)<;>omega)
  .
   refine cs 19 J J J (fun hg19=>?_) (fun hg19=>?_)
   .
    exact rz J (by show vI _=vI _;unfold aa.half;generalize v.x.num.sign=sx at*;generalize v.y.num.sign=sy at*;congr 1;(repeat' split)<;>omega)
   .
    refine cs 22 J J J (fun hg22=>?_) (fun hg22=>?_)
    .
     refine br J J J (fun hc26=>?_) (fun hc26=>?_)
     .
      exact rz J (by show vI _=vI _;unfold aa.half;generalize v.x.num.sign=sx at*;generalize v.y.num.sign=sy at*;congr 1;(repeat' split)<;>omega)
     .
      exact rz J (by show vI _=vI _;unfold aa.half;generalize v.x.num.sign=sx at*;generalize v.y.num.sign=sy at*;congr 1;(repeat' split)<;>omega)
    .
     exact rz J (by show vI _=vI _;unfold aa.half;generalize v.x.num.sign=sx at*;generalize v.y.num.sign=sy at*;congr 1;(repeat' split)<;>omega)
 .
  refine cs 19 J J J (fun hg19=>?_) (fun hg19=>?_)
  .
   exact rz J (by show vI _=vI _;unfold aa.half;generalize v.x.num.sign=sx at*;generalize v.y.num.sign=sy at*;congr 1;(repeat' split)<;>omega)
  .
   refine cs 22 J J J (fun hg22=>?_) (fun hg22=>?_)
   .
    refine br J J J (fun hc26=>?_) (fun hc26=>?_)
    .
     exact rz J (by show vI _=vI _;unfold aa.half;generalize v.x.num.sign=sx at*;generalize v.y.num.sign=sy at*;congr 1;(repeat' split)<;>omega)
    .
     exact rz J (by show vI _=vI _;unfold aa.half;generalize v.x.num.sign=sx at*;generalize v.y.num.sign=sy at*;congr 1;(repeat' split)<;>omega)
   .
    exact rz J (by show vI _=vI _;unfold aa.half;generalize v.x.num.sign=sx at*;generalize v.y.num.sign=sy at*;congr 1;(repeat' split)<;>omega)
def Y9(z:Int): -1<=z.sign/\z.sign<=1:=by
 rcases lT z 0 with h|h|h
 .rw[eJ h];omega
 .rw[h];decide
 .rw[dS h];omega
def Wd{u v:aa}{i j:Nat}[hu:aC u i][hv:aC v j](hi:i<=200000:=by decide)(hj:j<=200000:=by decide):PF GB prog 164 [eP u,eP v] (vI (co u v)):=by
 refine fn func164 J J ntmps164 J J (fun C=>?_);refine cl J (KS (v:=u)) J<|cl J (KS (v:=v)) J<|?_;refine br J J J (fun hc13=>?_) (fun hc13=>?_)
 .
  refine br J J J (fun hc16=>?_) (fun hc16=>?_)
  .
   exact rz J (by show vI _=vI _;unfold co;rw[if_pos hc16])
  .
   exact rz J (by show vI _=vI _;unfold co;rw[if_neg hc16,if_pos (by omega)])
 .
  refine cl J (D3 hi hj) J<|cl (hv:=by simp only[ah];exact(by have:=Y9 (u.cross v).num;omega)) J qm J<|?_;exact rz J (by show vI _=vI _;unfold co;rw[if_neg (by omega),if_neg (by omega)])
instance BQ.i1:BQ (((1:Int):Rat)) 2:=⟨by decide,by decide⟩
def eV(v:aj):DV:= .ag [.v (.bool (decide (v.lo.num<0))),dN v.lo.num.natAbs,dD v.lo.den, .v (.bool (decide (v.hi.num<0))),dN v.hi.num.natAbs,dD v.hi.den, .v (.bool v.nl), .v (.bool v.nh)]
def aE5:eV aj.all= .ag [.v (.bool false), .sl [], .sl [], .v (.bool false), .sl [], .sl [], .v (.bool true), .v (.bool true)]:=by
 unfold eV aj.all dD;simp only[show(0:Rat).num=0 from J,show(0:Rat).den=1 from J,lQ,p6];rfl
def Nf:eQ 0= .ag [.v (.bool false), .sl [], .sl []]:=by
 unfold eQ dD;simp only[show(0:Rat).num=0 from J,show(0:Rat).den=1 from J,lQ,p6];rfl
def jy(v:aj):Rat:=if v.nl=true/\v.nh=true then 0 else if v.nl=true then v.hi-1 else if v.nh=true then v.lo+1 else(v.lo+v.hi)/2
def Qd:PF GB prog 208 [] (eV aj.all):=by
 refine fn func208 J J ntmps208 J J (fun C=>?_);exact rz J (by rw[aE5];rfl)
def U1{v:aj}{i:Nat}[hl:BQ v.lo i][hh:BQ v.hi i](hi:i<=100000:=by decide):PF GB prog 162 [eV v] (eQ (jy v)):=by
 refine fn func162 J J ntmps162 J J (fun C=>?_);refine ji 6 J J J (fun hg6=>?_) (fun hg6=>?_)
 .
  refine bb J J J (fun hc3=>?_) (fun hc3=>?_)
  .
   exact rz J (by unfold jy;rw[if_pos ⟨hg6,hc3⟩,Nf];rfl)
  .
   refine bb J J J (fun hc11=>?_) (fun hc11=>?_)
   .
    refine cl J (lu (n:=1)) J<|cl J (t8 (a:=v.hi) (b:=((1:Int):Rat)) (by omega) (by decide)) J<|?_;exact rz J (by unfold jy;rw[if_neg (by simp[hc3]),if_pos hc11];rfl)
   .
    refine bb J J J (fun hc18=>?_) (fun hc18=>?_)
    .
     refine cl J (lu (n:=1)) J<|cl J (po (a:=v.lo) (b:=((1:Int):Rat)) (by omega) (by decide)) J<|?_;exact rz J (by simp[hg6] at hc11)
    .
     refine cl J (H6 (a:=v.lo) (b:=v.hi) (by omega) (by omega)) J<|?_;exact rz J (by simp[hg6] at hc11)
 .
  refine bb J J J (fun hc11=>?_) (fun hc11=>?_)
  .
   refine cl J (lu (n:=1)) J<|cl J (t8 (a:=v.hi) (b:=((1:Int):Rat)) (by omega) (by decide)) J<|?_;exact rz J (by simp[hg6] at hc11)
  .
   refine bb J J J (fun hc18=>?_) (fun hc18=>?_)
   .
    refine cl J (lu (n:=1)) J<|cl J (po (a:=v.lo) (b:=((1:Int):Rat)) (by omega) (by decide)) J<|?_;exact rz J (by unfold jy;rw[if_neg (by simp[hg6]),if_neg (by simp[hg6]),if_pos hc18];rfl)
   .
    refine cl J (H6 (a:=v.lo) (b:=v.hi) (by omega) (by omega)) J<|?_;exact rz J (by unfold jy;rw[if_neg (by simp[hg6]),if_neg (by simp[hg6]),if_neg (by simp[hc18])];rfl)
theorem BQ.of_fracI{q:Rat}{n D:Int}{i:Nat}(hd:0<D.natAbs)(h:q*((D.natAbs:Nat):Rat)=(n:Rat))(hn:BI n i)(hD:BI D i):BQ q i:=BQ.of_frac hd h hn.h hD.h
theorem ED{m:Int}{i j:Nat}(h:BI m i)(hij:i<=j:=by decide):BI m j:=⟨dY h.h (bU (by decide) hij)⟩
theorem BV{l m:ab}[LB l][LB m](hn:l.Ne)(h:crossI l m≠0):BQ (fG l (d8 l m)) 1200:=by
 have e:=asW hn h;have hA:BI (crossI l m*(l.a*l.a+l.b*l.b)) _:=inferInstance;have hB:BI (meetX l m*l.b-meetY l m*l.a) _:=inferInstance;have hne:crossI l m*(l.a*l.a+l.b*l.b)≠0:=by
  intro q;rcases tZ.1 q with q|q
  .exact h q
  .have h1:=Bh hn
   simp only[ab.dir,aa.dot] at h1;have h2:((l.a*l.a+l.b*l.b:Int):Rat)=((0:Int):Rat):=by rw[q]
   rw[pY,cR,cR] at h2;have h3:((0:Int):Rat)=0:=J;rw[h3] at h2;grind
 have hA':=ED (j:=1200) hA;have hB':=ED (j:=1200) hB;generalize crossI l m*(l.a*l.a+l.b*l.b)=D at*;generalize meetX l m*l.b-meetY l m*l.a=M at*;by_cases hD:0<D
 .refine BQ.of_fracI (n:=M) (D:=D) (by omega) ?_ hB' hA'
  rw[<-e];congr 1;have:((D.natAbs:Nat):Int)=D:=by omega
  rw[<-this];rfl
 .refine BQ.of_fracI (n:= -M) (D:=D) (by omega) ?_ (BI.neg M 1200 (h:=hB')) hA'
  rw[lN,<-e];have:((D.natAbs:Nat):Rat)= -(D:Rat):=by
   have h1:((D.natAbs:Nat):Int)= -D:=by omega
   rw[<-lN,<-h1];rfl
  rw[this];grind
def Lw(k:Rat):k.num.sign<=0↔ ¬0<k:=by rw[<-lf];omega
def VH{w:aj}(h1: ¬w.nl=true)(h2: ¬w.nh=true)(h3:0<=bg w.lo w.hi):w.empty=true:=by
 unfold aj.empty;simp[h1,h2,h3]
def anR{w:aj}(h:w.nl=true):w.empty=false:=by unfold aj.empty;simp[h]
def aoN{w:aj}(h:w.nh=true):w.empty=false:=by unfold aj.empty;simp[h]
def an0{w:aj}(h: ¬0<=bg w.lo w.hi):w.empty=false:=by unfold aj.empty;simp[h]
def fB(l:ab):List ab->aj->aj×Bool
 |[],v=>(v,true)
 |m::t,v=>if m=l then fB l t v else if l.cutB v m=true then fB l t (l.cutV v m) else(l.cutV v m,false)
def wL{l:ab}: ∀{c:List ab} {v:aj},(fB l c v).2=(fm l c v).isSome
 |[],v=>rfl
 |m::t,v=>by
  rw[fB,Hd];split
  .exact wL
  .split
   .exact wL
   .rfl
structure jF (l:ab) (c:List ab) (k:Nat) (v:aj):Prop where
 le:k<=c.length
 p:fm l (c.drop k) v=fm l c aj.all
 e:fB l (c.drop k) v=fB l c aj.all
 z:ic v
 lo:BQ v.lo 1200
 hi:BQ v.hi 1200
def jF.skip{l:ab}{c:List ab}{k:Nat}{v:aj}(h:jF l c k v)(hk:k<c.length)(e:c[k]=l):jF l c (k+1) v:=
 ⟨hk,by have:=h.p;rw[bX hk,Hd,if_pos e] at this;exact this,by have:=h.e;rw[bX hk,fB,if_pos e] at this;exact this,h.z,h.lo,h.hi⟩
def jF.cut{l:ab}{c:List ab}{k:Nat}{v w:aj}(h:jF l c k v)(hk:k<c.length)(e:c[k]≠l)(hb:l.cutB v c[k]=true)(hw:l.cutV v c[k]=w)(z:ic w)(lo:BQ w.lo 1200)(hi:BQ w.hi 1200):jF l c (k+1) w:=
 ⟨hk,by have:=h.p;rw[bX hk,Hd,if_neg e,if_pos hb,hw] at this;exact this,by have:=h.e;rw[bX hk,fB,if_neg e,if_pos hb,hw] at this;exact this,z,lo,hi⟩
def jF.no{l:ab}{c:List ab}{k:Nat}{v w:aj}(h:jF l c k v)(hk:k<c.length)(e:c[k]≠l)(hb:l.cutB v c[k]=false)(hw:l.cutV v c[k]=w):fB l c aj.all=(w,false):=by
 rw[<-h.e,bX hk,fB,if_neg e,if_neg (by rw[hb];decide),hw]
def jF.yes{l:ab}{c:List ab}{k:Nat}{v:aj}(h:jF l c k v)(hk:c.length<=k):fB l c aj.all=(v,true):=by
 rw[<-h.e,kY hk];rfl
def jF.all{l:ab}{c:List ab}:jF l c 0 aj.all:=⟨aN _,by rw[iZ],by rw[iZ],ic.all,BQ.mono (k:=1) ⟨by decide,by decide⟩,BQ.mono (k:=1) ⟨by decide,by decide⟩⟩
def QN{v:aj}{t:Rat}(h:v.nl=true\/0<bg t v.lo):(⟨t,v.hi,false,v.nh⟩:aj)=pi v t:=by unfold pi;rw[if_pos h]
def aBZ{v:aj}{t:Rat}(h: ¬v.nl=true)(h2: ¬0<bg t v.lo):v=pi v t:=by unfold pi;rw[if_neg (fun e=>e.elim h h2)]
def Ke{v:aj}{t:Rat}(h:v.nh=true\/bg t v.hi<0):(⟨v.lo,t,v.nl,false⟩:aj)=px v t:=by unfold px;rw[if_pos h]
def Vw{v:aj}{t:Rat}(h: ¬v.nh=true)(h2: ¬bg t v.hi<0):v=px v t:=by unfold px;rw[if_neg (fun e=>e.elim h h2)]
def oy(l m:ab)(v:aj):aj:=if 0<(m.dir.cross l.dir).num.sign then pi v (fG l (d8 l m)) else px v (fG l (d8 l m))
def Ir{l m:ab}{v:aj}[LB l][LB m](hn:l.Ne)(hz:ic v)(hlo:BQ v.lo 1200)(hhi:BQ v.hi 1200)(h0:crossI l m≠0):l.cutV v m=oy l m v/\l.cutB v m=!(oy l m v).empty/\ic (oy l m v)/\BQ (oy l m v).lo 1200/\BQ (oy l m v).hi 1200:=by
 have hb:=BV (l:=l) (m:=m) hn h0;unfold oy;split
 .rename_i h
  obtain⟨_,h1,h2⟩:=aBS hn hz ((lf _).1 h);refine⟨h1,h2,hz.lo' _,?_⟩;unfold pi;split
  .exact⟨hb,hhi⟩
  .exact⟨hlo,hhi⟩
 .rename_i h
  obtain⟨h1,h2⟩:=aCz hn hz h0 (fun e=>h ((lf _).2 e));refine⟨h1,h2,hz.hi' _,?_⟩;unfold px;split
  .exact⟨hlo,hb⟩
  .exact⟨hlo,hhi⟩
theorem Di{l:ab}[LB l](hn:l.Ne): ∀{c:List ab} {v:aj},(∀m∈c,LB m)->ic v->BQ v.lo 1200->BQ v.hi 1200->BQ (fB l c v).1.lo 1200/\BQ (fB l c v).1.hi 1200
 |[],v,_,_,h1,h2=>⟨h1,h2⟩
 |m::t,v,hc,hz,h1,h2=>by
  haveI:=hc m aZ;have hw:ic (l.cutV v m)/\BQ (l.cutV v m).lo 1200/\BQ (l.cutV v m).hi 1200:=by
   by_cases h0:crossI l m=0
   .rw[(Ad (v:=v) h0).1];exact⟨hz,h1,h2⟩
   .obtain⟨u1,_,u3,u4,u5⟩:=Ir (v:=v) hn hz h1 h2 h0
    rw[u1];exact⟨u3,u4,u5⟩
  have hc':=fun m hm=>hc m (aK _ hm);rw[fB];split
  .exact Di hn hc' hz h1 h2
  .split
   .exact Di hn hc' hw.1 hw.2.1 hw.2.2
   .exact hw.2
def O3{c:List ab}{i:Nat}(hc: ∀m∈c,LB m)(hok: ∀m∈c,m.ok)(hn:c.length<=1000)(hi:i<c.length):PF GB prog 158 [.sl (c.map eL),vI (i:Nat)] (.tp [eV (fB (c[i]'hi) c aj.all).1,vB (fB (c[i]'hi) c aj.all).2]):=by
 have hcl:=wM c;obtain⟨l,hl⟩: ∃l,l=c[i]:=⟨_,rfl⟩;rw[<-hl];haveI hlb:LB l:=hl▸hc _ (bL hi);have hlo:l.ok:=hl▸hok _ (bL hi);refine fn func158 J J ntmps158 J J (fun C=>?_);refine ix (fu:=⟨1⟩) _ J (wI hi) J<|?_;refine ak 16 (.d (eL l)) J (by rw[hl];rfl) ?_;refine gx J<|cl (fu:=⟨9⟩) J Qd J<|?_;refine ak 19 (.d (vI (c.length:Nat))) J (by rw[hcl];rfl) ?_;refine gx J<|?_;refine lp (X:=aj×Nat) (fun⟨v,k⟩=>[(20, .d (vI (k:Nat))),(19, .d (vI (c.length:Nat))),(18, .d (.sl (c.map eL))),(1, .d (vI (i:Nat))),(6, .ov 6 0),(7, .ov 7 0),(4, .ov 4 0)]) (fun⟨v,k⟩=>[(7,some (.o 178 [.d ((.v (.bool (decide (v.lo.num<0))))), .d (dN v.lo.num.natAbs), .d (dD v.lo.den), .d ((.v (.bool (decide (v.hi.num<0))))), .d (dN v.hi.num.natAbs), .d (dD v.hi.den), .d ((.v (.bool v.nl))), .d ((.v (.bool v.nh)))] true)),(6,some (.o 111 [.d ((.v (.bool (decide (l.a<0))))), .d (dN l.a.natAbs), .d ((.v (.bool (decide (l.b<0))))), .d (dN l.b.natAbs), .d ((.v (.bool (decide (l.c<0))))), .d (dN l.c.natAbs)] true)),(4,some (.o 178 [.ff, .nl, .nl, .ff, .nl, .nl, .ff, .ff] true))]) (fun⟨v,k⟩=>jF l c k v) (fun⟨v,k⟩=>c.length-k) ⟨aj.all,0⟩ J jF.all (fun _=>J) (fun⟨v,k⟩ hk=>?_)
 try dsimp only at hk⊢
 have hS:=hk;refine br J J J (fun hc21=>?_) (fun hc21=>?_)
 .
  have hk:k<c.length:=by omega
  obtain⟨m,hm⟩: ∃m,m=c[k]:=⟨_,rfl⟩;haveI hmb:LB m:=hm▸hc _ (bL hk);have hmo:m.ok:=hm▸hok _ (bL hk);refine ix (fu:=⟨1⟩) _ J (wI hk) J<|?_;refine ak 24 (.d (eL m)) J (by rw[hm];rfl) ?_;refine gx J<|?_;refine cs 28 J J J (fun hg28=>?_) (fun hg28=>?_)
  .
   have hinv:jF l c (k+1) v:=hS.skip hk (by rw[hl];congr 1;omega);exact at_ ⟨v,k+1⟩ (by dsimp only;exact⟨hinv,(by omega)⟩)
  .
   refine cl J (BU (l:=l) (m:=m)) J<|?_;refine br J J J (fun hc33=>?_) (fun hc33=>?_)
   .
    have hinv:jF l c (k+1) v:=hS.skip hk (by rw[<-hm,(DO l m).1 hc33]);exact at_ ⟨v,k+1⟩ (by dsimp only;exact⟨hinv,(by omega)⟩)
   .
    have hne:c[k]≠l:=fun e=>hc33 ((DO l m).2 (by rw[hm,e]));refine cl (fu:=⟨13⟩) J (QV (l:=l) (m:=m)) J<|?_;refine ak 41 (.d (.v (.bool (decide (crossI l m=0))))) J (by simp) ?_;refine gx J<|?_;refine bd J J J (fun hc41=>?_) (fun hc41=>?_)
    .
     refine cl J (Jp hlo.ne) J<|cl J (DN (l:=m) (p:=l.base)) J<|?_;refine br J J J (fun hc46=>?_) (fun hc46=>?_)
     .
      have hno:=hS.no (w:=v) hk hne (by have:=(Ad (v:=v) hc41).2;rw[<-hm];cases hb:l.cutB v m with|false=>rfl|true=>exact absurd (this.1 hb) ((Lw _).1 hc46)) (by rw[<-hm];exact(Ad (v:=v) hc41).1);exact rz J (by rw[hno];rfl)
     .
      have hinv:jF l c (k+1) v:=by have:=Ad (v:=v) hc41;exact hS.cut hk hne (by rw[<-hm];exact this.2.2 (by have:=mt (Lw (m.value l.base)).2 hc46;exact Decidable.not_not.1 this)) (by rw[<-hm];exact this.1) hS.z hS.lo hS.hi
      exact at_ ⟨v,k+1⟩ (by dsimp only;exact⟨hinv,(by omega)⟩)
    .
     obtain⟨u1,u2,u3,u4,u5⟩:=Ir (v:=v) hlo.ne hS.z hS.lo hS.hi hc41;haveI htb:=BV hlo.ne hc41;haveI hvl:=hS.lo;haveI hvh:=hS.hi;refine cl (fu:=⟨0⟩) J (Cv (l:=l) (p:=d8 l m) hlo.ne) J<|?_;obtain⟨t,ht⟩: ∃t,t=fG l (d8 l m):=⟨_,rfl⟩;refine ak 50 (.d (eQ t)) J (by rw[ht]) ?_;rw[<-ht] at htb;refine gx (fu:=⟨5⟩) J<|?_;refine mg (X:=aj) (fun w=>[(20, .d (vI (k:Nat))),(19, .d (vI (c.length:Nat))),(18, .d (.sl (c.map eL))),(1, .d (vI (i:Nat))),(6, .ov 6 0),(7, .ov 7 0),(4, .ov 4 0)]) (fun w=>[(7,some (.o 178 [.d ((.v (.bool (decide (w.lo.num<0))))), .d (dN w.lo.num.natAbs), .d (dD w.lo.den), .d ((.v (.bool (decide (w.hi.num<0))))), .d (dN w.hi.num.natAbs), .d (dD w.hi.den), .d ((.v (.bool w.nl))), .d ((.v (.bool w.nh)))] true)),(6,some (.o 111 [.d ((.v (.bool (decide (l.a<0))))), .d (dN l.a.natAbs), .d ((.v (.bool (decide (l.b<0))))), .d (dN l.b.natAbs), .d ((.v (.bool (decide (l.c<0))))), .d (dN l.c.natAbs)] true)),(4,some (.o 178 [.ff, .nl, .nl, .ff, .nl, .nl, .ff, .ff] true))]) (fun w=>w=oy l m v) [20,19,18,1,6,7,4] [7,6,4] rfl ?_ (fun _=>J) (fun w hw=>?_)
     .
      refine gx J<|cl J (vG (l:=m)) J<|cl J (vG (l:=l)) J<|cl J (D3 (p:=m.dir) (q:=l.dir)) J<|cl J (qm (q:=m.dir.cross l.dir)) J<|?_;refine br J J J (fun hc57=>?_) (fun hc57=>?_)
      .
       refine ji 60 J J J (fun hg60=>?_) (fun hg60=>?_)
       .
        refine CK 7 J J J ?_;exact at_ ⟨t,v.hi,false,v.nh⟩ (by unfold oy;rw[if_pos hc57,<-ht];exact QN (.inl hg60))
       .
        refine cl J (mF (a:=t) (b:=v.lo)) J<|?_;refine br J J J (fun hc66=>?_) (fun hc66=>?_)
        .
         refine CK 7 J J J ?_;exact at_ ⟨t,v.hi,false,v.nh⟩ (by unfold oy;rw[if_pos hc57,<-ht];exact QN (.inr hc66))
        .
         exact at_ v (by unfold oy;rw[if_pos hc57,<-ht];exact aBZ (by simp[hg60]) hc66)
      .
       refine ji 72 J J J (fun hg72=>?_) (fun hg72=>?_)
       .
        refine CK 7 J J J ?_;exact at_ ⟨v.lo,t,v.nl,false⟩ (by unfold oy;rw[if_neg hc57,<-ht];exact Ke (.inl hg72))
       .
        refine cl J (mF (a:=t) (b:=v.hi)) J<|?_;refine br J J J (fun hc78=>?_) (fun hc78=>?_)
        .
         refine CK 7 J J J ?_;exact at_ ⟨v.lo,t,v.nl,false⟩ (by unfold oy;rw[if_neg hc57,<-ht];exact Ke (.inr hc78))
        .
         exact at_ v (by unfold oy;rw[if_neg hc57,<-ht];exact Vw (by simp[hg72]) hc78)
     .
      rw[<-hw] at u1 u2 u3 u4 u5;haveI:=u4;haveI:=u5;refine ji 85 J J J (fun hg85=>?_) (fun hg85=>?_)
      .
       refine ji 90 J J J (fun hg90=>?_) (fun hg90=>?_)
       .
        refine cl J (mF (a:=w.lo) (b:=w.hi)) J<|?_;refine br J J J (fun hc97=>?_) (fun hc97=>?_)
        .
         have hno:=hS.no (w:=w) hk hne (by rw[<-hm,u2,VH (by simpa using hg85) (by simpa using hg90) hc97];rfl) (by rw[<-hm,u1]);exact rz J (by rw[hno];rfl)
        .
         have hinv:jF l c (k+1) w:=hS.cut hk hne (by rw[<-hm,u2,an0 hc97];rfl) (by rw[<-hm,u1]) u3 u4 u5;exact at_ ⟨w,k+1⟩ (by dsimp only;exact⟨hinv,(by omega)⟩)
       .
        have hinv:jF l c (k+1) w:=hS.cut hk hne (by rw[<-hm,u2,aoN (by simpa using hg90)];rfl) (by rw[<-hm,u1]) u3 u4 u5;exact at_ ⟨w,k+1⟩ (by dsimp only;exact⟨hinv,(by omega)⟩)
      .
       have hinv:jF l c (k+1) w:=hS.cut hk hne (by rw[<-hm,u2,anR (by simpa using hg85)];rfl) (by rw[<-hm,u1]) u3 u4 u5;exact at_ ⟨w,k+1⟩ (by dsimp only;exact⟨hinv,(by omega)⟩)
 .
  exact rz J (by rw[hS.yes (by omega)];rfl)
def fA(l:ab):DV:= .ag [vI (cH (l.a:Rat)),vI (cG (l.a:Rat)),cP (l.a:Rat),vI (cH (l.b:Rat)),vI (cG (l.b:Rat)),cP (l.b:Rat),vI (cH (l.c:Rat)),vI (cG (l.c:Rat)),cP (l.c:Rat)]
def eZ(p:aa):DV:= .ag [vI (cH p.x),vI (cG p.x),cP p.x,vI (cH p.y),vI (cG p.y),cP p.y]
def eW(v:aj):DV:= .ag [vI (cH v.lo),vI (cG v.lo),cP v.lo,vI (cH v.hi),vI (cG v.hi),cP v.hi, .v (.bool v.nl), .v (.bool v.nh)]
def C6{G:Gh}{t:List DV}{vs:List Value}(h:IsLs G (vI 0::vI 0:: .v (.pointer none)::t) vs):IsLs G (vI (cH 0)::vI (cG 0)::cP 0::t) vs:=by
 obtain⟨y1,l1,rfl,k1,g1⟩:=bu.1 h;obtain⟨y2,l2,rfl,k2,g2⟩:=bu.1 g1;obtain⟨y3,l3,rfl,k3,g3⟩:=bu.1 g2;have e:decide (iw 0)=false:=decide_eq_false fun h=>I4 h J;exact .cons k1 (.cons k2 (.cons (xf.2 (.inl ⟨e,bc.1 k3⟩)) g3))
def Iw{G:Gh}(a:List DV){t:List DV}{vs:List Value}(h:IsLs G (a++vI 0::vI 0:: .v (.pointer none)::t) vs):IsLs G (a++vI (cH 0)::vI (cG 0)::cP 0::t) vs:=by
 obtain⟨x,y,rfl,h1,h2⟩:=h.unapp;exact h1.app (C6 h2)
def aGv(G:Gh)(y:Value)(k:Is G (.ag [vI 0,vI 0, .v (.pointer none),vI 0,vI 0, .v (.pointer none), .v (.bool true), .v (.bool true)]) y):Is G (eW aj.all) y:=by
 obtain⟨l,rfl,g⟩:=et.1 k;exact et.2 ⟨l,J,C6 (Iw [vI 0,vI 0, .v (.pointer none)] g)⟩
def p8:List Int->Int
 |[]=>0
 |a::t=>if a≠0 then a else p8 t
theorem aC.nor(l:ab)[LB l]:aC l.nor 97:=⟨inferInstanceAs (BQ (l.a:Rat) 97),inferInstanceAs (BQ (l.b:Rat) 97)⟩
attribute [instance] aC.nor
instance aC.scale (p:aa) (c:Rat) (i k:Nat) [aC p i] [BQ c k]:aC (p.scale c) (i+k):=⟨inferInstanceAs (BQ (p.x*c) _),inferInstanceAs (BQ (p.y*c) _)⟩
instance aC.add (p q:aa) (i j:Nat) [aC p i] [aC q j]:aC (p.add q) (i+j+1):=⟨inferInstanceAs (BQ (p.x+q.x) _),inferInstanceAs (BQ (p.y+q.y) _)⟩
instance LB.revA (l:ab) [h:LB l]:LB l.rev:=⟨⟨by rw[show l.rev.a= -l.a from J,iX];exact h.bl.a,by rw[show l.rev.b= -l.b from J,iX];exact h.bl.b,by rw[show l.rev.c= -l.c from J,iX];exact h.bl.c⟩⟩
def YA:PF GB prog 275 [] (eW aj.all):=by
 refine fn func275 J J ntmps275 J J (fun C=>?_);exact jm J aGv
def yy{l:ab}:PF GB prog 150 [fA l] (eZ l.nor):=by
 refine fn func150 J J ntmps150 J J (fun C=>?_);exact rz J J
def wW{l:ab}[hl:LB l]:PF GB prog 109 [fA l] (eZ l.dir):=by
 refine fn func109 J J ntmps109 J J (fun C=>?_);refine cl J (qC (q:=(l.a:Rat))) J<|?_;exact rz J J
def Df{p q:aa}{i j:Nat}[hp:aC p i][hq:aC q j](hi:i<=40000000:=by decide)(hj:j<=40000000:=by decide):PF GB prog 151 [eZ p,eZ q] (eF (p.dot q)):=by
 refine fn func151 J J ntmps151 J J (fun C=>?_);refine cl J (ph (p:=p.x) (q:=q.x) (by omega) (by omega)) J<|cl J (ph (p:=p.y) (q:=q.y) (by omega) (by omega)) J<|cl J (pj (p:=p.x*q.x) (q:=p.y*q.y) (by omega) (by omega)) J<|?_;exact rz J J
def wR{p q:aa}{i j:Nat}[hp:aC p i][hq:aC q j](hi:i<=40000000:=by decide)(hj:j<=40000000:=by decide):PF GB prog 72 [eZ p,eZ q] (eF (p.cross q)):=by
 refine fn func72 J J ntmps72 J J (fun C=>?_);refine cl J (ph (p:=p.x) (q:=q.y) (by omega) (by omega)) J<|cl J (ph (p:=p.y) (q:=q.x) (by omega) (by omega)) J<|cl J (q8 (p:=p.x*q.y) (q:=p.y*q.x) (by omega) (by omega)) J<|?_;exact rz J J
def J3{p:aa}{c:Rat}{i j:Nat}[hp:aC p i][hc:BQ c j](hi:i<=40000000:=by decide)(hj:j<=40000000:=by decide):PF GB prog 198 [eZ p,eF c] (eZ (p.scale c)):=by
 refine fn func198 J J ntmps198 J J (fun C=>?_);refine cl J (ph (p:=p.x) (q:=c) (by omega) (by omega)) J<|cl J (ph (p:=p.y) (q:=c) (by omega) (by omega)) J<|?_;exact rz J J
def Rm{p q:aa}{i j:Nat}[hp:aC p i][hq:aC q j](hi:i<=40000000:=by decide)(hj:j<=40000000:=by decide):PF GB prog 141 [eZ p,eZ q] (eZ (p.add q)):=by
 refine fn func141 J J ntmps141 J J (fun C=>?_);refine cl J (pj (by omega) (by omega)) J<|cl J (pj (by omega) (by omega)) J<|?_;exact rz J J
def L4{l:ab}[hl:LB l]:PF GB prog 279 [fA l] (eZ l.base):=by
 refine fn func279 J J ntmps279 J J (fun C=>?_);refine cl J yy J<|cl J (qC (q:=(l.c:Rat))) J<|cl J (Df (p:=l.nor) (q:=l.nor)) J<|cl J (AS (p:= -(l.c:Rat)) (q:=l.nor.dot l.nor)) J<|?_;refine cl J (J3 (p:=l.nor)) J<|?_;exact rz J J
def MU{l:ab}{p:aa}{i:Nat}[hl:LB l][hp:aC p i](hi:i<=10000000:=by decide):PF GB prog 197 [fA l,eZ p] (eF (l.value p)):=by
 refine fn func197 J J ntmps197 J J (fun C=>?_);refine cl J (yy (l:=l)) J<|cl J (Df (p:=l.nor) (q:=p) (by omega) (by omega)) J<|cl J (pj (p:=l.nor.dot p) (q:=(l.c:Rat)) (by omega) (by omega)) J<|?_;exact rz J J
def Bl{l:ab}{p:aa}{i:Nat}[hl:LB l][hp:aC p i](hi:i<=10000000:=by decide):PF GB prog 147 [fA l,eZ p] (vI (l.value p).num.sign):=by
 refine fn func147 J J ntmps147 J J (fun C=>?_);refine cl J (MU (l:=l) (p:=p) hi) J<|cl J (nB (q:=l.value p) (by omega)) J<|?_;exact rz J J
def VK{l:ab}{t:Rat}{i:Nat}[hl:LB l][ht:BQ t i](hi:i<=10000000:=by decide):PF GB prog 276 [fA l,eF t] (eZ (l.at t)):=by
 refine fn func276 J J ntmps276 J J (fun C=>?_);refine cl J (L4 (l:=l)) J<|cl J (wW (l:=l)) J<|cl J (J3 (p:=l.dir) (c:=t) (by omega) (by omega)) J<|cl J (Rm (p:=l.base) (q:=l.dir.scale t) (by omega) (by omega)) J<|?_;exact rz J J
def aD4{v:aj}{i j:Nat}[h1:BQ v.lo i][h2:BQ v.hi j](hi:i<=40000000:=by decide)(hj:j<=40000000:=by decide):PF GB prog 291 [eW v] (vB v.empty):=by
 refine fn func291 J J ntmps291 J J (fun C=>?_);refine ji 6 J J J (fun hg6=>?_) (fun hg6=>?_)
 .
  refine ji 11 J J J (fun hg11=>?_) (fun hg11=>?_)
  .
   refine cl J (vP (p:=v.lo) (q:=v.hi) (by omega) (by omega)) J<|?_;exact rz J (by unfold aj.empty;simp_all [vB,jn])
  .
   exact rz J (by unfold aj.empty;simp_all [vB,jn])
 .
  exact rz J (by unfold aj.empty;simp_all [vB,jn])
instance aj.meet_lo (v w:aj) (i j:Nat) [h1:BQ v.lo i] [h3:BQ w.lo j]:BQ (v.meet w).lo (i+j):=by
 have a:=h1.mono (nY i j);have b:=h3.mono (Nat.le_add_left j i);unfold aj.meet;dsimp only;(repeat' split)<;>assumption
instance aj.meet_hi (v w:aj) (i j:Nat) [h1:BQ v.hi i] [h3:BQ w.hi j]:BQ (v.meet w).hi (i+j):=by
 have a:=h1.mono (nY i j);have b:=h3.mono (Nat.le_add_left j i);unfold aj.meet;dsimp only;(repeat' split)<;>assumption
def LH{v w:aj}{i j:Nat}[h1:BQ v.lo i][h2:BQ v.hi i][h3:BQ w.lo j][h4:BQ w.hi j](hi:i<=10000000:=by decide)(hj:j<=10000000:=by decide):PF GB prog 280 [eW v,eW w] (.tp [eW (v.meet w),vB (!(v.meet w).empty)]):=by
 refine fn (fu:=⟨16⟩) func280 J J ntmps280 J J (fun C=>?_);refine mg (fu:=⟨1⟩) (X:=Unit) (fun _=>[(6, .ov 6 0)]) (fun _=>[(6,some (.o 208 [.d (vI (cH (v.meet w).lo)), .d (vI (cG (v.meet w).lo)), .d (cP (v.meet w).lo), .d (vI (cH v.hi)), .d (vI (cG v.hi)), .d (cP v.hi), .d (.v (.bool (v.nl&&w.nl))), .d (.v (.bool (v.nh)))] true))]) (fun _=>True) [6] [6] rfl ?_ (fun _=>J) (fun _ _=>?_)
 .
  refine gx J<|?_;refine bb (v1:=fun hc8=>by simp only[ah];kernel_rfl) J J J (fun hc8=>?_) (fun hc8=>?_)
  .
   have em:(v.meet w).lo=w.lo:=by unfold aj.meet;simp_all
   have eb:(v.nl&&w.nl)=w.nl:=by simp_all
   exact at_ () trivial (hO:=⟨by rw[em,eb]<;>rfl,by repeat (first|exact trivial|refine And.intro J ?_)⟩)
  .
   refine bb J J J (fun hc17=>?_) (fun hc17=>?_)
   .
    refine cl J (Vy (p:=v.lo) (q:=w.lo) (by omega) (by omega)) J<|?_;have em:(v.meet w).lo=(if v.lo<w.lo then w.lo else v.lo):=by unfold aj.meet;simp_all
    have eb:(v.nl&&w.nl)=v.nl:=by simp_all
    exact at_ () trivial (hO:=⟨by rw[em,eb]<;>rfl,by repeat (first|exact trivial|refine And.intro J ?_)⟩)
   .
    have em:(v.meet w).lo=v.lo:=by unfold aj.meet;simp_all
    have eb:(v.nl&&w.nl)=v.nl:=by simp_all
    exact at_ () trivial (hO:=⟨by rw[em,eb]<;>rfl,by repeat (first|exact trivial|refine And.intro J ?_)⟩)
 .
  refine mg (X:=Unit) (fun _=>[(6, .ov 6 0)]) (fun _=>[(6,some (.o 208 [.d (vI (cH (v.meet w).lo)), .d (vI (cG (v.meet w).lo)), .d (cP (v.meet w).lo), .d (vI (cH (v.meet w).hi)), .d (vI (cG (v.meet w).hi)), .d (cP (v.meet w).hi), .d (.v (.bool (v.nl&&w.nl))), .d (.v (.bool (v.nh&&w.nh)))] true))]) (fun _=>True) [6] [6] rfl ?_ (fun _=>J) (fun _ _=>?_)
  .
   refine gx J<|?_;refine bb (v1:=fun hc27=>by simp only[ah];kernel_rfl) J J J (fun hc27=>?_) (fun hc27=>?_)
   .
    have em:(v.meet w).hi=w.hi:=by unfold aj.meet;simp_all
    have eb:(v.nh&&w.nh)=w.nh:=by simp_all
    exact at_ () trivial (hO:=⟨by rw[em,eb]<;>rfl,by repeat (first|exact trivial|refine And.intro J ?_)⟩)
   .
    refine bb J J J (fun hc36=>?_) (fun hc36=>?_)
    .
     refine cl J (YM (p:=v.hi) (q:=w.hi) (by omega) (by omega)) J<|?_;have em:(v.meet w).hi=(if w.hi<v.hi then w.hi else v.hi):=by unfold aj.meet;simp_all
     have eb:(v.nh&&w.nh)=v.nh:=by simp_all
     exact at_ () trivial (hO:=⟨by rw[em,eb]<;>rfl,by repeat (first|exact trivial|refine And.intro J ?_)⟩)
    .
     have em:(v.meet w).hi=v.hi:=by unfold aj.meet;simp_all
     have eb:(v.nh&&w.nh)=v.nh:=by simp_all
     exact at_ () trivial (hO:=⟨by rw[em,eb]<;>rfl,by repeat (first|exact trivial|refine And.intro J ?_)⟩)
  .
   refine cl J (aD4 (v:=v.meet w) (i:=i+j) (j:=i+j) (by omega) (by omega)) J<|?_;exact rz J J
theorem BQ.z1:BQ (0:Rat) 1:=⟨by decide,by decide⟩
def Ty{v:aj}{t:Rat}{i j:Nat}[h1:BQ v.lo i][h2:BQ v.hi i][h3:BQ t j](hi:i<=10000000:=by decide)(hj:j<=9999999:=by decide):PF GB prog 280 [eW v, .ag [vI (cH t),vI (cG t),cP t,vI 0,vI 0, .v (.pointer none), .v (.bool false), .v (.bool true)]] (.tp [eW (v.meet ⟨t,0,false,true⟩),vB (!(v.meet ⟨t,0,false,true⟩).empty)]):=
 (LH (v:=v) (w:=⟨t,0,false,true⟩) (j:=j+1) (h3:=h3.mono (by omega)) (h4:=BQ.z1.mono (by omega)) hi (by omega)).ofI fun G vs hv=>JA (fun y hy=>by
  obtain⟨l,rfl,g⟩:=et.1 hy;exact et.2 ⟨l,J,Iw [_,_,_] g⟩) hv
def ZK{v:aj}{t:Rat}{i j:Nat}[h1:BQ v.lo i][h2:BQ v.hi i][h3:BQ t j](hi:i<=10000000:=by decide)(hj:j<=9999999:=by decide):PF GB prog 280 [eW v, .ag [vI 0,vI 0, .v (.pointer none),vI (cH t),vI (cG t),cP t, .v (.bool true), .v (.bool false)]] (.tp [eW (v.meet ⟨0,t,true,false⟩),vB (!(v.meet ⟨0,t,true,false⟩).empty)]):=
 (LH (v:=v) (w:=⟨0,t,true,false⟩) (j:=j+1) (h4:=h3.mono (by omega)) (h3:=BQ.z1.mono (by omega)) hi (by omega)).ofI fun G vs hv=>JA (fun y hy=>by
  obtain⟨l,rfl,g⟩:=et.1 hy;exact et.2 ⟨l,J,C6 g⟩) hv
instance BQ.cutK (l m:ab) [LB l] [LB m]:BQ (l.cutK m) 400:=BQ.mono (inferInstance:BQ (m.nor.dot l.dir) _)
instance BQ.cutC (l m:ab) [LB l] [LB m]:BQ (l.cutC m) 2500:=BQ.mono (inferInstance:BQ (m.value l.base) _)
def M0{l m:ab}{v:aj}{i:Nat}[hl:LB l][hm:LB m][h1:BQ v.lo i][h2:BQ v.hi i](hi:i<=10000000:=by decide):PF GB prog 259 [fA l,eW v,fA m] (.tp [eW (l.cutV v m),vB (l.cutB v m)]):=by
 refine fn func259 J J ntmps259 J J (fun C=>?_);refine cl J (yy (l:=m)) J<|cl J (wW (l:=l)) J<|cl J (Df (p:=m.nor) (q:=l.dir)) J<|cl J (L4 (l:=l)) J<|?_;refine cl J (MU (l:=m) (p:=l.base)) J<|cl J (nB (q:=l.cutK m)) J<|?_;refine br J J J (fun hc21=>?_) (fun hc21=>?_)
 .
  refine cl J (nB (q:=l.cutC m)) J<|?_;exact rz J (by unfold ab.cutV ab.cutB;rw[if_pos hc21,if_pos hc21];rfl)
 .
  refine br J J J (fun hc27=>?_) (fun hc27=>?_)
  .
   refine cl J (AS (p:=l.cutC m) (q:=l.cutK m)) J<|cl J (qC (q:=l.cutC m/l.cutK m)) J<|cl J (Ty (v:=v) (t:= -(l.cutC m/l.cutK m)) hi) J<|?_;exact rz J (by unfold ab.cutB ab.cutV;rw[if_neg hc21,if_neg hc21,if_pos hc27];rfl)
  .
   refine cl J (AS (p:=l.cutC m) (q:=l.cutK m)) J<|cl J (qC (q:=l.cutC m/l.cutK m)) J<|cl J (ZK (v:=v) (t:= -(l.cutC m/l.cutK m)) hi) J<|?_;exact rz J (by unfold ab.cutB ab.cutV;rw[if_neg hc21,if_neg hc21,if_neg hc27];rfl)
def TZ{v:aj}{i:Nat}[h1:BQ v.lo i][h2:BQ v.hi i](hi:i<=10000000:=by decide):PF GB prog 277 [eW v] (eF v.sample):=by
 refine fn func277 J J ntmps277 J J (fun C=>?_);refine ji 6 J J J (fun hg6=>?_) (fun hg6=>?_)
 .
  refine bb J J J (fun hc3=>?_) (fun hc3=>?_)
  .
   exact jm J (by unfold aj.sample;rw[hg6,hc3];exact xR)
  .
   refine bb J J J (fun hc11=>?_) (fun hc11=>?_)
   .
    refine cl J (sr (m:=1)) J<|cl J (q8 (p:=v.hi) (q:=((1:Int):Rat)) (by omega) (by decide)) J<|?_;exact rz J (by unfold aj.sample;simp_all [jn]<;>rfl)
   .
    refine bb J J J (fun hc18=>?_) (fun hc18=>?_)
    .
     refine cl J (sr (m:=1)) J<|cl J (pj (p:=v.lo) (q:=((1:Int):Rat)) (by omega) (by decide)) J<|?_;exact rz J (by unfold aj.sample;simp_all [jn]<;>rfl)
    .
     refine cl J (pj (p:=v.lo) (q:=v.hi) (by omega) (by omega)) J<|cl J (Dy (q:=v.lo+v.hi) (by omega)) J<|?_;exact rz J (by unfold aj.sample;simp_all [jn]<;>rfl)
 .
  refine bb J J J (fun hc11=>?_) (fun hc11=>?_)
  .
   refine cl J (sr (m:=1)) J<|cl J (q8 (p:=v.hi) (q:=((1:Int):Rat)) (by omega) (by decide)) J<|?_;exact rz J (by unfold aj.sample;simp_all [jn]<;>rfl)
  .
   refine bb J J J (fun hc18=>?_) (fun hc18=>?_)
   .
    refine cl J (sr (m:=1)) J<|cl J (pj (p:=v.lo) (q:=((1:Int):Rat)) (by omega) (by decide)) J<|?_;exact rz J (by unfold aj.sample;simp_all [jn]<;>rfl)
   .
    refine cl J (pj (p:=v.lo) (q:=v.hi) (by omega) (by omega)) J<|cl J (Dy (q:=v.lo+v.hi) (by omega)) J<|?_;exact rz J (by unfold aj.sample;simp_all [jn]<;>rfl)
def CZ(p q:aa):DV:= .ag [vI (cH p.x),vI (cG p.x),cP p.x,vI (cH p.y),vI (cG p.y),cP p.y,vI (cH q.x),vI (cG q.x),cP q.x,vI (cH q.y),vI (cG q.y),cP q.y]
def SI{C:aD}{n:Nat}{Q0:Exit->Act->World->Prop}{fr:aB}{own:aF}{ops:Array Oper}{r:List Oper}{K:List Kt}(k:Nat){l:List DV}(hl:aO fr k=some (.d (.pt l)))(h:ao prog GB C n Q0 ((k, .ep l)::fr) own (.ops ops r K)):ao prog GB C n Q0 fr own (.ops ops r K):=
 qb hl (fun ρ G y hy=>by
  obtain⟨b,m,rfl,h1,h2⟩:=rm.1 hy;have e:=h2.len;exact⟨b,0,m,m,J,h1,by rw[mB m 0 l.length (by omega),iZ,<-e,dW],h2⟩) h
def zF{G:Gh}{m:List Value}(h:IsLs G [vI 0,vI 0, .v (.pointer none)] m):IsLs G [vI (cH 0),vI (cG 0),cP 0] m:=by
 obtain⟨l,e,k⟩:=et.1 (xR G (.agg ⟨m⟩) (et.2 ⟨m,rfl,h⟩))
 cases e;exact k
section
variable {GB:Gh} {C:aD} {n:Nat} {Q0:Exit->Act->World->Prop} {fr fr':aB} {own own':aF} {cf cf':Cf} {vc:List Prop} {ops:Array Oper} {r:List Oper} {K:List Kt}
def Mi(k:Nat){d:DV}(hl:aO fr k=some (.d d))(h: ∀(GB':Gh) (pv:Value),bp GB GB'->Is GB' d pv->ao prog GB' C n Q0 ((k, .d (.v pv))::fr) own (.ops ops r K)):ao prog GB C n Q0 fr own (.ops ops r K):=by
 refine⟨fun ρ G ov a w r0=>?_⟩;obtain⟨y,hy,hy'⟩:=r0.fx k _ hl;refine(h G y r0.gb hy').run ρ G ov a w ⟨bp.refl _,r0.h,r0.sz,r0.df,fun j f e=>?_,r0.bx,r0.dj,r0.fxd⟩;rw[kj] at e;split at e
 .rename_i hj
  cases e;subst hj
  exact⟨y,hy,(bc (G:=G)).2 J⟩
 .exact r0.fx j f e
def aLV(fr:aB)(cf:Cf):Option (FuncId×Value):=match cg fr cf with
 |some ⟨_, .makeFunc (.func f) ⟨[x]⟩ ⟨[]⟩,_,_,_,_⟩=>match aH (bz fr cf) x with
  |some (.d (.v pv))=>some (f,pv)
  |_=>none
 |_=>none
def aLN(fr:aB)(cf:Cf):Option (FuncId×List Value×List DV):=match cg fr cf with
 |some ⟨_, .call ⟨.value fo,args,_⟩,_,_,_,_⟩=>match aH (bz fr cf) fo,evDs (bz fr cf) args.toList with
  |some (.d (.v (.func (.func f) ⟨c1⟩ ⟨[]⟩))),some ds=>some (f,c1,ds)
  |_,_=>none
 |_=>none
def Kd:List (Nat×Operand)->Option (List (Nat×Value))
 |[]=>some []
 |(i, .const v)::t=>match Kd t with
  |some l=>some ((i,v)::l)
  |none=>none
 |_::_=>none
def aLQ(cf:Cf)(fr:aB):Option (TypeId×List (Nat×Value)):=match cg fr cf with
 |some ⟨_, .build t ⟨ps⟩,_,_,_,_⟩=>match Kd ps with
  |some vs=>some (t,vs)
  |none=>none
 |_=>none
def LZ(fr:aB)(own:aF)(cf:Cf):Option (TypeId×Nat×Nat×List FX×Bool×FX):=match cg fr cf with
 |some ⟨_, .store t x y,_,_,_,_⟩=>match aH (bz fr cf) x with
  |some (.ov nm 0)=>match ir fr own cf nm with
   |some (.o ty cs lo)=>match aH (bz fr cf) y with
    |some fv=>some (t,nm,ty,cs,lo,fv)
    |_=>none
   |_=>none
  |_=>none
 |_=>none
def JK[fu:Fu]{t nm ty len e:Nat}{cs:List FX}{lo:Bool}{fv:FX}{j:TypeInfo}(h:LZ fr own cf=some (t,nm,ty,cs,lo,fv))(hu:prog.underlying t=some (.array len e))(hj:prog.info? t=some j)(hc:fv.okc=true/\fv.cells.length=j.size/\j.size=cs.length)
  (hgo:dh tt n fu.n fr own cf .un [(nm,some (.o ty (wX cs 0 fv.cells) lo))] []=⟨vc,fr',own',cf'⟩)(k:ao prog GB C n Q0 fr' own' cf')
  (hv:autoParam (ah vc) cL._auto_1):ao prog GB C n Q0 fr own cf:=by
 unfold LZ at h;split at h<;>try (cases h;done)
 rename_i hh;split at h<;>try (cases h;done)
 rename_i e1;split at h<;>try (cases h;done)
 rename_i hb;split at h<;>cases h;rename_i e2;obtain⟨c1,c2,c3⟩:=hc;have:mC prog t j.size:=⟨fun w=>DJ hu w,fun w=>wv hj w⟩;refine us hh ?_ hgo hv k;intro hd tl tb K s1 s2 hf hk;refine⟨fun ρ G ov a w r Q=>?_⟩;have r1:=r.mono s1 s2;obtain⟨p,h1,h2⟩:=r1.ev e1;obtain⟨q,h3,h4⟩:=r1.ev e2;obtain⟨b,m,rfl,ha,h5,h6⟩:=r1.own h2 hb;obtain⟨h7,h8⟩:=h4.cells c1;obtain⟨own',u1,u2,u3⟩:=f9.of_mem (cs':=cC m 0 (aG q)) h6;exact DL h1 h3 u1 (by rw[h7.len,c2]) (by rw[h5.len,c3];omega) (dK.2 h8) hd (fun a' w' rl=>r.wrote (m:=m) (s2 _ _ hb) ha (h5.ov h7) u2 u3 hk rl) a w Q ⟨r.h,r.sz,c8 a,r.df⟩
def aLD(fr:aB)(cf:Cf):Option Nj:=match cg fr cf with
 |some ⟨some d, .buildSlice t len parts,_,_,_,_⟩=>match dq tt t with
  |some ⟨.sl e s _,_,_,_⟩=>match xg (bz fr cf) 0 parts.toList with
   |some ds=>bif Dw s ds&&(Nat.beq parts.toList.length len&&(Nat.ble (len*s) 1000&&Nat.blt 0 (len*s))) then some ⟨d,e,s,ds⟩ else none
   |none=>none
  |_=>none
 |_=>none
def aLC(fr:aB)(cf:Cf):Option (TypeId×List DV):=match cg fr cf with
 |some ⟨_, .load t x,_,_,_,_⟩=>match aH (bz fr cf) x with
  |some (.ep l)=>some (t,l)
  |_=>none
 |_=>none
def aL3:TypeDesc->Bool
 | .struct _=>false
 | .array _ _=>false
 |_=>true
end
end Go.Sx
end
