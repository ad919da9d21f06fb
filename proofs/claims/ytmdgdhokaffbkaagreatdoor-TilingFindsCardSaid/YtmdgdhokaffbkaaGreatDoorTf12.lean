import Derived.Test.YtmdgdhokaffbkaaGreatDoorTf11
set_option linter.all false
set_option maxHeartbeats 4000000
set_option maxRecDepth 100000
section
namespace Go.Sx
open Go Go.Proofs Tryz
variable {GB G:Gh}{m a b x:Int}{g y d i j:Nat}{p q:Rat}{t:List DV}{vs:List Value}
def MS(hg:(g:Int)∣m)(hb:m.natAbs<4611686018427387904):IntKind.i64.wrap (m.tdiv g)=m/g:=by
 rw[Int.tdiv_eq_ediv_of_dvd hg];have:=mT m g;exact Vf pb
def tm(a b:Int):Int:=if(a*b).natAbs<4611686018427387904 then a*b else 0
def DL(a b:Int):(tm a b).natAbs<4611686018427387904:=by unfold tm;split<;>omega
def xO(h:(a*b).natAbs<4611686018427387904):tm a b=a*b:=if_pos h
def N3(h: ¬(a*b).natAbs<4611686018427387904:=by omega):DV.tp [vI 0, .v (.bool false)]= .tp [vI (tm a b),vB (decide ((a*b).natAbs<4611686018427387904))]:=by unfold tm;rw[if_neg h,decide_eq_false h];rfl
def H1(h:(a*b).natAbs<4611686018427387904)(e:x=a*b):DV.tp [vI x, .v (.bool true)]= .tp [vI (tm a b),vB (decide ((a*b).natAbs<4611686018427387904))]:=by unfold tm;rw[if_pos h,decide_eq_true h,e];rfl
def H6(n:Nat):eI (n:Int)= .ag [.v (.bool false),dN n]:=by unfold eI;rw[decide_eq_false pb,jR]
def ZF(hp:p.den=1)(hq:q.den=1):rgcd p q=((Nat.gcd p.num.natAbs q.num.natAbs:Nat):Int):=by
 conv=>lhs;rw[Ci hp,Ci hq]
 exact Gn _ _
def V0(q:Rat):mkRat (zv (decide (q.num<0)) q.den) q.num.natAbs=q⁻¹:=by
 rw[Rat.inv_def];by_cases h:q.num<0
 .rw[decide_eq_true h];exact QP h
 .rw[decide_eq_false h,<-Rat.divInt_ofNat,mL pb];rfl
instance BQ.inv (q:Rat) (i:Nat) [h:BQ q i]:BQ q⁻¹ i:=by
 have h1:=h.hn;have h2:=h.hd;have h3:=q.den_nz;rcases qN q.num 0 with k|k|k
 .obtain⟨e1,e2⟩:=O9 k;exact⟨pb,pb⟩
 .have e:q=0:=lM.1 k
  have e0:(0:Rat)⁻¹=0:=Rat.inv_zero;rw[e] at h1 h2⊢;rw[e0];exact⟨h1,h2⟩
 .obtain⟨e1,e2⟩:=IE k;exact⟨pb,pb⟩
instance BQ.half:BQ (mkRat 1 2) 2:=⟨v6,v6⟩
def Z0{x:Nat}(hx:x<18446744073709551616)(hy:y<18446744073709551616):PF GB prog 178 [.v (.int .u64 (x:Nat)), .v (.int .u64 (y:Nat))] (.tp [.v (.int .u64 ((x*y/18446744073709551616:Nat):Int)), .v (.int .u64 ((x*y%18446744073709551616:Nat):Int))]):=fun G vs _ hv=>by
 obtain⟨v,m,rfl,h1,h2⟩:=bE.1 hv;obtain⟨u,m',rfl,h3,h4⟩:=bE.1 h2
 cases eD.1 h4
 rw[bh.1 h1,bh.1 h3];exact(P9 hx hy).mono fun v G' _ h=>by subst h;exact mj.2 ⟨_,J, .cons (bh.2 J) (.cons (bh.2 J) .nil)⟩
def Nw{a b:Nat}(ha:a<18446744073709551616:=by omega)(hb:b<18446744073709551616:=by omega):PF GB prog 180 [.v (.int .u64 (a:Nat)), .v (.int .u64 (b:Nat))] (.v (.int .u64 (Nat.gcd a b:Nat))):=by
 refine fn func180 J J ntmps180 J J (fun C=>?_);refine lp (X:=Nat×Nat) (fun⟨u,v⟩=>[(1, .d (.v (.int .u64 (v:Nat)))),(0, .d (.v (.int .u64 (u:Nat))))]) (fun⟨u,v⟩=>[]) (fun⟨u,v⟩=>u<18446744073709551616/\v<18446744073709551616/\Nat.gcd u v=Nat.gcd a b) (fun⟨u,v⟩=>v) (a,b) J ⟨ha,hb,J⟩ (fun _=>J) (fun⟨u,v⟩ hk=>?_);dsimp only at hk⊢;obtain⟨h1,h2,h3⟩:=hk;refine br (v1:=fun hc6=>by simp only[aj];exact⟨pb,we⟩) J J J (fun hc6=>?_) (fun hc6=>?_)
 .
  have hm:=cR u (show 0<v by omega);exact at_ (v,u%v) (by dsimp only;exact⟨⟨h2,pb,by rw[<-h3,iU u v,tJ v u,iU]⟩,hm⟩)
 .
  exact rz J (by rw[<-h3,show v=0 by omega,mW];rfl)
def uH(h:m.natAbs<9223372036854775808:=by decide):PF GB prog 105 [vI m] (eF (m:Rat)):=by
 refine fn func105 J J ntmps105 J J (fun C=>?_);refine cs 5 J J J (fun hg5=>?_) (fun hg5=>?_)
 .
  refine cl J (EJ (m:=m)) J<|rf (fu:=⟨0⟩) J J<|ah 11 (.d (dN 1)) J okJ<|gx J<|cl J (rD (n:=decide (m<0)) (a:=m.natAbs) (i:=63) (h:=⟨h⟩) (d:=1)) J<|rz J okk
 .
  refine br J J J (fun hc8=>?_) (fun hc8=>?_)
  .
   refine cl J (EJ (m:=m)) J<|rf (fu:=⟨0⟩) J J<|ah 11 (.d (dN 1)) J okJ<|gx J<|cl J (rD (n:=decide (m<0)) (a:=m.natAbs) (i:=63) (h:=⟨h⟩) (d:=1)) J<|rz J okk
  .
   exact iB J (Ma pb)
theorem ozc{p:Prop}(h:p:=by simpa using hc26):p:=h
def xD(ha:a.natAbs<4611686018427387904:=by omega)(hb:b.natAbs<4611686018427387904:=by omega):PF GB prog 106 [vI a,vI b] (.tp [vI (tm a b),vB (decide ((a*b).natAbs<4611686018427387904))]):=by
 have hab:=iR a b;refine fn func106 J J ntmps106 J J (fun C=>?_);refine cl J (x9 (m:=a)) J<|cl J (x9 (m:=b)) J<|cl J (Z0 (x:=a.natAbs) (y:=b.natAbs) pb pb) J<|cs 18 J J J (fun hg18=>?_) (fun hg18=>?_)
 .
  exact rz J (N3)
 .
  refine br J J J (fun hc21=>?_) (fun hc21=>?_)
  .
   exact rz J (N3)
  .
   refine bb J J J (fun hc26=>?_) (fun hc26=>?_)
   .
    have hs:=HZ a b;rw[if_neg ozc] at hs;exact rz J (H1 pb (by rw[hs,<-hab];omega))
   .
    have hs:=HZ a b;rw[if_pos ozc] at hs;exact rz J (H1 pb (by rw[hs,<-hab];omega))
def MV(h:m.natAbs<4611686018427387904)(h0:0<d)(hd:d<4611686018427387904):PF GB prog 107 [vI m,vI (d:Nat)] (eF (mkRat m d)):=by
 have hg:Nat.gcd m.natAbs d<=d:=Nat.gcd_le_right _ h0;have hg0:0<Nat.gcd m.natAbs d:=pL _ h0;obtain⟨e1,e2⟩:=Iy (m:=m) h0;have e3:=mT m (Nat.gcd m.natAbs d:Nat);have e4:=lL d (Nat.gcd m.natAbs d);have e5:=Nat.div_pos hg hg0;refine fn func107 J J ntmps107 J J (fun C=>?_);refine cl J (x9 (m:=m)) J<|cl J (Nw (a:=m.natAbs) (b:=d)) J<|br (fu1:=⟨4⟩) J J J (fun hc13=>?_) (fun hc13=>?_)
 .
  refine ah 16 (.d (vI (m/(Nat.gcd m.natAbs d:Nat)))) J (by rw[MS (Int.dvd_natAbs.1 (qT.2 (mK _ _))) h];rfl)<|gx (fu:=⟨3⟩) J<|ah 19 (.d (vI ((d/Nat.gcd m.natAbs d:Nat)))) J (by rw[MS (qT.2 (nQ _ _)) (by rw[jR];exact hd)];rfl)<|gx (hv:=by simp only[aj];exact⟨we,pb⟩) J<|iB J (qi (fun k=>k ⟨by rw[e1];omega,by rw[e2];omega⟩) e1 (by rw[e2]) J)
 .
  exact iB J (by have h1:Nat.gcd m.natAbs d=1:=pb;rw[h1,tK] at e2;rw[h1,Int.natCast_one,Int.ediv_one] at e1;exact qi (fun k=>k ⟨by rw[e1];omega,by rw[e2];omega⟩) e1 (by rw[e2]) J)
def nO[h:BQ p i][k:BQ q j](hi:i<=100000000:=by decide)(hj:j<=100000000:=by decide):PF GB prog 194 [eF p,eF q] (eF (p*q)):=by
 refine fn (fu:=⟨8⟩) func194 J J ntmps194 J J (fun C=>?_);refine mg (X:=Unit) (fun _=>[(2, .ov 2 0),(3, .ov 3 0),(4, .ov 4 0)]) (fun _=>[(2,some (.o 101 [.d (vI (cF p)), .d (vI (cD p)), .d (cI p)] true)),(3,some (.o 101 [.d (vI (cF q)), .d (vI (cD q)), .d (cI q)] true)),(4,some (.o 101 [.d (.v (.int .i64 0)), .d (.v (.int .i64 0)), .d (.v (.pointer none))] true))]) (fun _=>True) [2,3,4] [2,3,4] rfl ?_ (fun _=>J) (fun _ _=>?_)
 .
  refine gx J<|cs 12 J J J (fun hg12=>?_) (fun hg12=>?_)
  .
   refine br (fu1:=⟨4⟩) J J J (fun hc16=>?_) (fun hc16=>?_)
   .
    have hp:=qg hg12;have hq:=qg hc16;have p1:=ma hp;have p2:=nI hp;have p3:=od hp;have p4:=n5 hp;have p5:=p.den_nz;have q1:=ma hq;have q2:=nI hq;have q3:=od hq;have q4:=n5 hq;have q5:=q.den_nz;refine ah 19 (.d (vI p.num)) J (by rw[p1])<|gx (fu:=⟨2⟩) J<|ah 21 (.d (vI q.num)) J (by rw[q1])<|gx J<|cl (fu:=⟨12⟩) J (xD (a:=p.num) (b:=q.num)) J<|ah 28 (.d (vI (p.den:Nat))) J omT<|gx (fu:=⟨3⟩) J<|ah 31 (.d (vI (q.den:Nat))) J omT<|gx J<|cl J (xD (a:=(p.den:Nat)) (b:=(q.den:Nat))) J<|csd 36 J J J (fun hg36=>?_) (fun hg36=>?_)
    .
     refine bd (fu1:=⟨3⟩) J J J (fun hc38=>?_) (fun hc38=>?_)
     .
      have hd1:p.den*q.den<4611686018427387904:=by omega
      refine ah 39 (.d (vI (p.num*q.num))) J (by rw[xO hg36])<|gx (fu:=⟨1⟩) J<|ah 40 (.d (vI ((p.den*q.den:Nat)))) J (by rw[xO hc38];rfl)<|gx J<|cl J (MV (m:=p.num*q.num) (d:=p.den*q.den) hg36 (jJ pb pb) hd1) J<|rz J (by rw[<-yt];rfl)
     .
      exact at_ () trivial
    .
     exact at_ () trivial
   .
    exact at_ () trivial
  .
   exact at_ () trivial
 .
  refine cl J (uI (q:=p) pb) J<|cl J (uI (q:=q) pb) J<|cl J (Dj (a:=p.num) (b:=q.num) pb pb) J<|cl J (ou (q:=p) pb) J<|cl J (ou (q:=q) pb) J<|cl J (wn (a:=p.den) (b:=q.den) pb pb) J<|cl J (rD (n:=decide (p.num*q.num<0)) (a:=(p.num*q.num).natAbs) (d:=p.den*q.den) (i:=i+j) (j:=i+j) pb pb) J<|rz J (by rw[ku,<-yt];rfl)
def n8[h:BQ p i][k:BQ q j](hi:i<=100000000:=by decide)(hj:j<=100000000:=by decide):PF GB prog 45 [eF p,eF q] (eF (p+q)):=by
 refine fn (fu:=⟨8⟩) func45 J J ntmps45 J J (fun C=>?_);refine mg (X:=Unit) (fun _=>[(2, .ov 2 0),(3, .ov 3 0),(4, .ov 4 0)]) (fun _=>[(2,some (.o 101 [.d (vI (cF p)), .d (vI (cD p)), .d (cI p)] true)),(3,some (.o 101 [.d (vI (cF q)), .d (vI (cD q)), .d (cI q)] true)),(4,some (.o 101 [.d (.v (.int .i64 0)), .d (.v (.int .i64 0)), .d (.v (.pointer none))] true))]) (fun _=>True) [2,3,4] [2,3,4] rfl ?_ (fun _=>J) (fun _ _=>?_)
 .
  refine gx J<|cs 16 J J J (fun hg16=>?_) (fun hg16=>?_)
  .
   refine br (fu1:=⟨1⟩) J J J (fun hc20=>?_) (fun hc20=>?_)
   .
    have hp:=qg hg16;have hq:=qg hc20;have p1:=ma hp;have p2:=nI hp;have p3:=od hp;have p4:=n5 hp;have p5:=p.den_nz;have q1:=ma hq;have q2:=nI hq;have q3:=od hq;have q4:=n5 hq;have q5:=q.den_nz;refine mg (fu:=⟨4⟩) (X:=Unit) (fun _=>[(2, .ov 2 0),(3, .ov 3 0),(4, .ov 4 0)]) (fun _=>[(2,some (.o 101 [.d (vI (cF p)), .d (vI (cD p)), .d (cI p)] true)),(3,some (.o 101 [.d (vI (cF q)), .d (vI (cD q)), .d (cI q)] true)),(4,some (.o 101 [.d (.v (.int .i64 0)), .d (.v (.int .i64 0)), .d (.v (.pointer none))] true))]) (fun _=>True) [2,3,4] [2,3,4] rfl ?_ (fun _=>J) (fun _ _=>?_)
    .
     refine gx J<|cs 24 J J J (fun hg24=>?_) (fun hg24=>?_)
     .
      refine br (fu1:=⟨4⟩) J J J (fun hc28=>?_) (fun hc28=>?_)
      .
       refine ah 30 (.d (vI p.num)) J (by rw[p1])<|gx (fu:=⟨2⟩) J<|ah 32 (.d (vI q.num)) J (by rw[q1])<|gx J<|cl J (uH (m:=p.num+q.num) pb) J<|rz J (by rw[Ci (q:=p),Ci (q:=q),<-oU];rfl)
      .
       exact at_ () trivial
     .
      exact at_ () trivial
    .
     refine ah 37 (.d (vI p.num)) J (by rw[p1])<|gx (fu:=⟨3⟩) J<|ah 40 (.d (vI (q.den:Nat))) J omT<|gx J<|cl (fu:=⟨11⟩) J (xD (a:=p.num) (b:=(q.den:Nat))) J<|ah 46 (.d (vI q.num)) J (by rw[q1])<|gx (fu:=⟨3⟩) J<|ah 49 (.d (vI (p.den:Nat))) J omT<|gx J<|cl (fu:=⟨12⟩) J (xD (a:=q.num) (b:=(p.den:Nat))) J<|ah 56 (.d (vI (p.den:Nat))) J omT<|gx (fu:=⟨3⟩) J<|ah 59 (.d (vI (q.den:Nat))) J omT<|gx J<|cl (fu:=⟨3⟩) J (xD (a:=(p.den:Nat)) (b:=(q.den:Nat))) J<|?_;have t1:=DL p.num (q.den:Nat);have t2:=DL q.num (p.den:Nat);have t3:=DL (p.den:Nat) (q.den:Nat);refine gx J<|csd 67 J J J (fun hg67=>?_) (fun hg67=>?_)
     .
      refine csd 70 J J J (fun hg70=>?_) (fun hg70=>?_)
      .
       refine csd 73 J J J (fun hg73=>?_) (fun hg73=>?_)
       .
        refine cs 77 J J J (fun hg77=>?_) (fun hg77=>?_)
        .
         refine br (fu1:=⟨3⟩) J J J (fun hc80=>?_) (fun hc80=>?_)
         .
          have u1:=xO hg67;have u2:=xO hg70;have u3:=xO hg73;have hd1:p.den*q.den<4611686018427387904:=by omega
          refine ah 81 (.d (vI (p.num*(q.den:Nat)+q.num*(p.den:Nat)))) J (by rw[u1,u2];rfl)<|gx (fu:=⟨1⟩) J<|ah 82 (.d (vI ((p.den*q.den:Nat)))) J (by rw[u3];rfl)<|gx J<|cl J (MV (m:=p.num*(q.den:Nat)+q.num*(p.den:Nat)) (d:=p.den*q.den) pb (jJ pb pb) hd1) J<|rz J (by rw[<-wT];rfl)
         .
          exact at_ () trivial
        .
         exact at_ () trivial
       .
        exact at_ () trivial
      .
       exact at_ () trivial
     .
      exact at_ () trivial
   .
    exact at_ () trivial
  .
   exact at_ () trivial
 .
  refine cl J (uI (q:=p) pb) J<|cl (fu:=⟨1⟩) J (ou (q:=q) pb) J<|ah 88 (.d (eI (q.den:Nat))) J (by rw[H6])<|gx J<|cl J (Dj (a:=p.num) (b:=(q.den:Nat)) pb pb) J<|cl J (uI (q:=q) pb) J<|cl (fu:=⟨1⟩) J (ou (q:=p) pb) J<|ah 94 (.d (eI (p.den:Nat))) J (by rw[H6])<|gx J<|cl J (Dj (a:=q.num) (b:=(p.den:Nat)) pb pb) J<|cl J (UJ (a:=p.num*(q.den:Nat)) (b:=q.num*(p.den:Nat)) (i:=i+j) (j:=j+i) pb pb) J<|cl J (ou (q:=p) pb) J<|cl J (ou (q:=q) pb) J<|cl J (wn (a:=p.den) (b:=q.den) pb pb) J<|cl J (rD (n:=decide (p.num*(q.den:Nat)+q.num*(p.den:Nat)<0)) (a:=(p.num*(q.den:Nat)+q.num*(p.den:Nat)).natAbs) (d:=p.den*q.den) (i:=i+j+(j+i)+1) (j:=i+j) pb pb) J<|rz J (by rw[ku,<-wT];rfl)
def pB[h:BQ p i][k:BQ q j](hi:i<=100000000:=by decide)(hj:j<=100000000:=by decide):PF GB prog 195 [eF p,eF q] (eF (p-q)):=by
 refine fn func195 J J ntmps195 J J (fun C=>?_);refine cl J (rx (q:=q) pb) J<|cl J (n8 (p:=p) (q:= -q) pb pb) J<|rz J (by rw[<-Rat.sub_eq_add_neg];rfl)
def Tj[h:BQ q i](hi:i<=400000000:=by decide):PF GB prog 275 [eF q] (eF q⁻¹):=by
 refine fn func275 J J ntmps275 J J (fun C=>?_);refine br (v1:=fun hc3=>by simp only[aj];exact⟨⟨hc3,hc3⟩,hc3⟩) J J J (fun hc3=>?_) (fun hc3=>?_)
 .
  refine cl J (rD (n:=decide (q.num<0)) (a:=q.den) (d:=q.num.natAbs) pb pb) J<|rz J (by rw[V0];rfl)
 .
  have q1:=ma (mP hc3);have q2:=nI (mP hc3);have q3:=od (mP hc3);have q4:=n5 (mP hc3);have q5:=q.den_nz;refine br J J J (fun hc26=>?_) (fun hc26=>?_)
  .
   exact iB rfl (by obtain⟨e1,e2⟩:=O9 (q:=q) pb;exact qi (fun k=>k ⟨pb,pb⟩) pb pb rfl)
  .
   refine br J J J (fun hc39=>?_) (fun hc39=>?_)
   .
    exact iB J (by rw[lM.1 (show q.num=0 by omega),Rat.inv_zero];exact ya)
   .
    exact iB rfl (by obtain⟨e1,e2⟩:=IE (q:=q) pb;exact qi (fun k=>k ⟨pb,pb⟩) pb pb rfl)
def x8[h:BQ p i][k:BQ q j](hi:i<=100000000:=by decide)(hj:j<=100000000:=by decide):PF GB prog 296 [eF p,eF q] (eF (p/q)):=by
 refine fn func296 J J ntmps296 J J (fun C=>?_);refine cl J (Tj (q:=q) pb) J<|cl J (nO (p:=p) (q:=q⁻¹) pb pb) J<|rz J (by rw[tV];rfl)
def O3{q r:DV}(h: ∀y,Is G r y->Is G q y)(hv:IsLs G (r::t) vs):IsLs G (q::t) vs:=by
 obtain⟨y,m,rfl,h1,h2⟩:=bE.1 hv;exact .cons (h _ h1) h2
def D9{a q r:DV}(h: ∀y,Is G r y->Is G q y)(hv:IsLs G (a::r::t) vs):IsLs G (a::q::t) vs:=by
 obtain⟨y,m,rfl,h1,h2⟩:=bE.1 hv;exact .cons h1 (O3 h h2)
def aBC[h:BQ q i](hi:i<=100000000:=by decide):PF GB prog 194 [eF q, .ag [vI 1,vI 1, .v (.pointer none)]] (eF (q*mkRat 1 2)):=
 (nO (p:=q) (q:=mkRat 1 2) hi).ofI fun G vs hv=>D9 (fun y hy=>qi (q:=mkRat 1 2) (fun k=>k ⟨v6,v6⟩) v6 v6 J G y hy) hv
def E2[h:BQ q i](hi:i<=100000000:=by decide):PF GB prog 115 [eF q] (eF (q*mkRat 1 2)):=by
 refine fn func115 J J ntmps115 J J (fun C=>?_);refine cl J (aBC (q:=q) pb) J<|rz J J
def tv[h:BQ p i][k:BQ q j](hi:i<=100000000:=by decide)(hj:j<=100000000:=by decide):PF GB prog 292 [eF p,eF q] (vI (bm p q)):=by
 refine fn func292 J J ntmps292 J J (fun C=>?_);refine cs 8 J J J (fun hg8=>?_) (fun hg8=>?_)
 .
  refine cs 13 J J J (fun hg13=>?_) (fun hg13=>?_)
  .
   refine br J J J (fun hc19=>?_) (fun hc19=>?_)
   .
    have hp:=qg hg8;have hq:=qg hg13;have p1:=ma hp;have p2:=nI hp;have p3:=od hp;have p4:=n5 hp;have p5:=p.den_nz;have q1:=ma hq;have q2:=nI hq;have q3:=od hq;have q4:=n5 hq;have q5:=q.den_nz;have hl:=HP (a:=p) (b:=q);have hr:=HP (a:=q) (b:=p);unfold bm;refine br J J J (fun hc20=>?_) (fun hc20=>?_)
    .
     exact rz J (by rw[if_pos (hl.2 pb)];rfl)
    .
     refine br J J J (fun hc26=>?_) (fun hc26=>?_)
     .
      exact rz J (by rw[if_neg (fun e=>by have:=hl.1 e;omega),if_pos (hr.2 pb)];rfl)
     .
      exact rz J (by rw[if_neg (fun e=>by have:=hl.1 e;omega),if_neg (fun e=>by have:=hr.1 e;omega)];rfl)
   .
    refine cl J (pB (p:=p) (q:=q) pb pb) J<|cl J (mz (q:=p-q) pb) J<|rz J (by rw[BB];rfl)
  .
   refine cl J (pB (p:=p) (q:=q) pb pb) J<|cl J (mz (q:=p-q) pb) J<|rz J (by rw[BB];rfl)
 .
  refine cl J (pB (p:=p) (q:=q) pb pb) J<|cl J (mz (q:=p-q) pb) J<|rz J (by rw[BB];rfl)
def Ad[h:BQ p i][k:BQ q j](hi:i<=100000000:=by decide)(hj:j<=100000000:=by decide):PF GB prog 247 [eF p,eF q] (vB (decide (p=q))):=by
 refine fn func247 J J ntmps247 J J (fun C=>?_);refine cl J (tv (p:=p) (q:=q) hi hj) J<|rz J (by show DV.v (.bool (decide _))= .v (.bool _);congr 2;exact decide_eq_decide.2 (qh p q))
def ZX[h:BQ p i][k:BQ q j](hi:i<=100000000:=by decide)(hj:j<=100000000:=by decide):PF GB prog 341 [eF p,eF q] (eF (if p<q then q else p)):=by
 refine fn func341 J J ntmps341 J J (fun C=>?_);refine cl J (tv (p:=q) (q:=p) hj hi) J<|br J J J (fun hc8=>?_) (fun hc8=>?_)
 .
  exact rz J (by rw[if_pos ((L8 q p).1 hc8)];rfl)
 .
  exact rz J (by rw[if_neg (fun e=>hc8 ((L8 q p).2 e))];rfl)
def Si[h:BQ p i][k:BQ q j](hi:i<=100000000:=by decide)(hj:j<=100000000:=by decide):PF GB prog 276 [eF p,eF q] (eF (if q<p then q else p)):=by
 refine fn func276 J J ntmps276 J J (fun C=>?_);refine cl J (tv (p:=q) (q:=p) hj hi) J<|br J J J (fun hc8=>?_) (fun hc8=>?_)
 .
  exact rz J (by rw[if_pos ((MN q p).1 hc8)];rfl)
 .
  exact rz J (by rw[if_neg (fun e=>hc8 ((MN q p).2 e))];rfl)
def Ck[h:BQ p i][k:BQ q j](hi:i<=100000000:=by decide)(hj:j<=100000000:=by decide):PF GB prog 267 [eF p,eF q] (eF (rgcd p q)):=by
 refine fn (fu:=⟨8⟩) func267 J J ntmps267 J J (fun C=>?_);refine mg (X:=Unit) (fun _=>[(2, .ov 2 0),(3, .ov 3 0),(4, .ov 4 0)]) (fun _=>[(2,some (.o 101 [.d (vI (cF p)), .d (vI (cD p)), .d (cI p)] true)),(3,some (.o 101 [.d (vI (cF q)), .d (vI (cD q)), .d (cI q)] true)),(4,some (.o 101 [.d (.v (.int .i64 0)), .d (.v (.int .i64 0)), .d (.v (.pointer none))] true))]) (fun _=>True) [2,3,4] [2,3,4] rfl ?_ (fun _=>J) (fun _ _=>?_)
 .
  refine gx J<|cs 10 J J J (fun hg10=>?_) (fun hg10=>?_)
  .
   refine cs 15 J J J (fun hg15=>?_) (fun hg15=>?_)
   .
    have hp:=qg hg10;have hq:=qg hg15;have p1:=ma hp;have p2:=nI hp;have p3:=od hp;have p4:=n5 hp;have p5:=p.den_nz;have q1:=ma hq;have q2:=nI hq;have q3:=od hq;have q4:=n5 hq;have q5:=q.den_nz;refine cs 20 J J J (fun hg20=>?_) (fun hg20=>?_)
    .
     refine br (fu1:=⟨4⟩) J J J (fun hc24=>?_) (fun hc24=>?_)
     .
      have hg:=Y4 p3 q3;refine ah 26 (.d (vI p.num)) J (by rw[p1])<|gx J<|cl (fu:=⟨2⟩) J (x9 (m:=p.num)) J<|ah 29 (.d (vI q.num)) J (by rw[q1])<|gx J<|cl J (x9 (m:=q.num)) J<|cl (hv:=by simp only[aj];exact⟨pb,we⟩) J (Nw (a:=p.num.natAbs) (b:=q.num.natAbs)) J<|iB J (by rw[ZF (p:=p) (q:=q) pb pb];exact Ma (by rw[jR];exact hg))
     .
      exact at_ () trivial
    .
     exact at_ () trivial
   .
    exact at_ () trivial
  .
   exact at_ () trivial
 .
  refine cl J (ou (q:=p) pb) J<|cl J (ou (q:=q) pb) J<|cl J (wn (a:=p.den) (b:=q.den) pb pb) J<|cl J (uI (q:=p) pb) J<|cl J (ou (q:=q) pb) J<|cl J (wn (a:=p.num.natAbs) (b:=q.den) pb pb) J<|cl J (uI (q:=q) pb) J<|cl J (ou (q:=p) pb) J<|cl J (wn (a:=q.num.natAbs) (b:=p.den) pb pb) J<|cl J (Fd (a:=p.num.natAbs*q.den) (b:=q.num.natAbs*p.den) (i:=i+j) (j:=j+i) pb pb) J<|cl J (rD (n:=false) (a:=Nat.gcd (p.num.natAbs*q.den) (q.num.natAbs*p.den)) (d:=p.den*q.den) (i:=i+j+(j+i)) (j:=i+j) pb pb) J<|rz J J
end Go.Sx
end
section
namespace Go.Sx
open Go
variable {l m:aa}{v:ak}
def crossI(l m:aa):Int:=l.a*m.b-m.a*l.b
def meetX(l m:aa):Int:=l.b*m.c-m.b*l.c
def meetY(l m:aa):Int:=m.a*l.c-l.a*m.c
def du(l m:aa):ab:=if crossI l m=0 then⟨0,0⟩ else⟨(meetX l m:Rat)/(crossI l m:Rat),(meetY l m:Rat)/(crossI l m:Rat)⟩
def fH(l:aa)(p:ab):Rat:=p.dot l.dir/l.dir.dot l.dir
def Dt(l:aa):l.dir.dot l.dir=l.nor.dot l.nor:=by
 simp only[aa.dir,aa.nor,ab.dot];grind
def xV(h:l.Ne):0<l.dir.dot l.dir:=by rw[Dt];exact o8 h
def yp(l m:aa):((crossI l m:Int):Rat)=(l.a:Rat)*m.b-(m.a:Rat)*l.b:=by
 unfold crossI;rw[jQ,cK,cK]
def Py(l m:aa):((meetX l m:Int):Rat)=(l.b:Rat)*m.c-(m.b:Rat)*l.c:=by
 unfold meetX;rw[jQ,cK,cK]
def K2(l m:aa):((meetY l m:Int):Rat)=(m.a:Rat)*l.c-(l.a:Rat)*m.c:=by
 unfold meetY;rw[jQ,cK,cK]
def Cx(l m:aa):l.cutK m= -((crossI l m:Int):Rat):=by
 rw[yp];simp only[aa.cutK,aa.nor,aa.dir,ab.dot];grind
def Mw(l m:aa):m.dir.cross l.dir=l.cutK m:=by
 simp only[aa.cutK,aa.nor,aa.dir,ab.dot,ab.cross];grind
def OU:(⟨-((l.c:Rat)/l.dir.dot l.dir)*(l.a:Rat), -((l.c:Rat)/l.dir.dot l.dir)*(l.b:Rat)⟩:ab)=l.base:=by
 unfold aa.base;rw[Dt];simp only[aa.nor,ab.scale,ab.mk.injEq];constructor<;>grind
def qx(l:aa)(t:Rat):ce l.base l.dir t=l.at t:=by
 simp only[ce,aa.at,ab.add,ab.scale,ab.mk.injEq];constructor<;>grind
def wM(hl:l.Ne)(h:crossI l m≠0):fH l (du l m)= -(l.cutC m/l.cutK m):=by
 have hd:((crossI l m:Int):Rat)≠0:=fun e=>h (dK.1 e);have hn:=xV hl;obtain⟨q,q1,q2⟩:=zd hl;rw[Cx];unfold fH du aa.cutC;rw[if_neg h,q2,iF,Py,K2];have hc:=yp l m;rw[Dt] at hn⊢;simp only[aa.dir,aa.nor,ab.dot] at hn q1⊢;generalize ((crossI l m:Int):Rat)=d at*;generalize (l.a:Rat)=a at*;generalize (l.b:Rat)=b at*;generalize (l.c:Rat)=c at*;generalize (m.a:Rat)=x at*;generalize (m.b:Rat)=y at*;generalize (m.c:Rat)=z at*;have hn':a*a+b*b≠0:=by grind
 have e:((b*z-y*c)/d*b+(x*c-a*z)/d* -a)=((b*z-y*c)*b-(x*c-a*z)*a)/d:=by grind
 rw[e];have k1:(b*z-y*c)*b-(x*c-a*z)*a=(a*a+b*b)*(x*(a*q)+y*(b*q)+z):=by grind
 rw[k1];grind
def VP(hl:l.Ne)(h:crossI l m≠0):fH l (du l m)*((crossI l m*(l.a*l.a+l.b*l.b):Int):Rat)=((meetX l m*l.b-meetY l m*l.a:Int):Rat):=by
 have hd:((crossI l m:Int):Rat)≠0:=fun e=>h (dK.1 e);have hn:=xV hl;unfold fH du;rw[if_neg h];simp only[cK,jQ,oU];simp only[aa.dir,ab.dot] at hn⊢;generalize ((crossI l m:Int):Rat)=d at*;generalize ((meetX l m:Int):Rat)=x at*;generalize ((meetY l m:Int):Rat)=y at*;generalize (l.a:Rat)=a at*;generalize (l.b:Rat)=b at*;have hn':b*b+ -a* -a≠0:=by grind
 grind
def EY(l m:aa)(t:List aa)(v:ak):et l (m::t) v=if m=l then et l t v else if l.cutB v m then et l t (l.cutV v m) else none:=rfl
def ny(v:ak)(t:Rat):ak:=if v.nl=true\/0<bm t v.lo then⟨t,v.hi,false,v.nh⟩ else v
def nP(v:ak)(t:Rat):ak:=if v.nh=true\/bm t v.hi<0 then⟨v.lo,t,v.nl,false⟩ else v
structure gg (v:ak):Prop where
 lo:v.nl=true->v.lo=0
 hi:v.nh=true->v.hi=0
def Ds(a b:Rat):0<bm a b↔b<a:=by
 unfold bm;split
 .constructor
  .intro h;exact absurd h v6
  .intro h;grind
 .split
  .exact⟨fun _=>by assumption,fun _=>by decide⟩
  .constructor
   .intro h;exact absurd h v6
   .intro h;exact absurd h oma
def yq(a b:Rat):bm a b<0↔a<b:=by
 unfold bm;split
 .exact⟨fun _=>by assumption,fun _=>by decide⟩
 .split
  .constructor
   .intro h;exact absurd h v6
   .intro h;grind
  .constructor
   .intro h;exact absurd h v6
   .intro h;exact absurd h oma
def Nb(h:gg v)(t:Rat):ny v t=v.meet ⟨t,0,false,true⟩:=by
 obtain⟨lo,hi,nl,nh⟩:=v;obtain⟨h1,h2⟩:=h;unfold ny ak.meet;simp only[Ds] at*
 cases nl<;>cases nh<;>simp at* <;>(try (split<;>split<;>simp_all<;>grind))<;>grind
def Jr(h:gg v)(t:Rat):nP v t=v.meet ⟨0,t,true,false⟩:=by
 obtain⟨lo,hi,nl,nh⟩:=v;obtain⟨h1,h2⟩:=h;unfold nP ak.meet;simp only[yq] at*
 cases nl<;>cases nh<;>simp at* <;>(try (split<;>split<;>simp_all<;>grind))<;>grind
def gg.all:gg ak.all:=⟨fun _=>J,fun _=>J⟩
def gg.lo'(h:gg v)(t:Rat):gg (ny v t):=by
 obtain⟨lo,hi,nl,nh⟩:=v;unfold ny;split
 .exact⟨fun h=>by simp at h,h.hi⟩
 .exact h
def gg.hi'(h:gg v)(t:Rat):gg (nP v t):=by
 obtain⟨lo,hi,nl,nh⟩:=v;unfold nP;split
 .exact⟨h.lo,fun h=>by simp at h⟩
 .exact h
def xE(h:crossI l m=0):l.cutV v m=v/\(l.cutB v m=true↔0<m.value l.base):=by
 have hk:l.cutK m=0:=by rw[Cx,h];rfl
 exact wL v hk
def VI(hl:l.Ne)(hz:gg v)(h:0<m.dir.cross l.dir):crossI l m≠0/\l.cutV v m=ny v (fH l (du l m))/\l.cutB v m=!(ny v (fH l (du l m))).empty:=by
 rw[Mw] at h;have hc:crossI l m≠0:=fun e=>by rw[Cx,e] at h;exact absurd h v6
 obtain⟨h1,h2⟩:=wP v h;refine⟨hc,?_,?_⟩
 .rw[Nb hz,wM hl hc,h1]
 .rw[Nb hz,wM hl hc,<-h1]
  rw[<-AT] at h2
  cases hb:l.cutB v m<;>cases he:(l.cutV v m).empty<;>simp_all
def VN(hl:l.Ne)(hz:gg v)(h0:crossI l m≠0)(h: ¬0<m.dir.cross l.dir):l.cutV v m=nP v (fH l (du l m))/\l.cutB v m=!(nP v (fH l (du l m))).empty:=by
 rw[Mw] at h;have hk:l.cutK m≠0:=fun e=>by
  rw[Cx] at e;have:((crossI l m:Int):Rat)=0:=by grind
  exact h0 (dK.1 this)
 obtain⟨h1,h2⟩:=xo (l:=l) (m:=m) v v7;refine⟨?_,?_⟩
 .rw[Jr hz,wM hl h0,h1]
 .rw[Jr hz,wM hl h0,<-h1]
  rw[<-AT] at h2
  cases hb:l.cutB v m<;>cases he:(l.cutV v m).empty<;>simp_all
end Go.Sx
end
section
namespace Go.Sx
open Go Go.Proofs Tryz
variable {GB G:Gh}{i j k n nm ty len:Nat}{l m:aa}{q u:ab}{t s s':Rat}{v w:ak}{vs:List Value}{C:aD}{Q0:Exit->Act->World->Prop}{fr fr':aA}{ops:Array Oper}{r:List Oper}{K:List Kt}

def cT:Tr->List DV
 | .leaf b=>[.v (.bool true), .v (.bool b), .v (.bool false), .sl [], .v (.bool false), .sl [], .v (.bool false), .sl [], .v (.pointer none), .v (.pointer none)]
 | .node l x y=>[.v (.bool false), .v (.bool false), .v (.bool (decide (l.a<0))),dN l.a.natAbs, .v (.bool (decide (l.b<0))),dN l.b.natAbs, .v (.bool (decide (l.c<0))),dN l.c.natAbs, .pt (cT x), .pt (cT y)]
def eT(t:Tr):DV:= .pt (cT t)
def eN(n:NQ):DV:= .ag [.v (.bool (decide (n.l.a<0))),dN n.l.a.natAbs, .v (.bool (decide (n.l.b<0))),dN n.l.b.natAbs, .v (.bool (decide (n.l.c<0))),dN n.l.c.natAbs, .v (.int .i64 n.a), .v (.int .i64 n.b)]
def eA(t:Tr):DV:= .ag [.v (.int .i64 (t.num 0)), .sl ((t.wr 0).map eN)]
structure BL (l:aa) (k:Nat):Prop where
 a:l.a.natAbs<2^k
 b:l.b.natAbs<2^k
 c:l.c.natAbs<2^k
def TM(ns:List NQ):cd 8 (ns.map eN):=fun d hd=>by
 obtain⟨n,_,rfl⟩:=aN.1 hd;exact⟨rfl,rfl⟩
def uk{xs:List aa}(h:i<xs.length:=by omega):(xs.map eL)[(i:Int).toNat]? =some (eL xs[i]):=by simp[h]
def tD(xs:List aa):(xs.map eL).length=xs.length:=aX ..
def VW{α:Type}{xs:List α}{p:α->Prop}(h: ∀x∈xs.take i,p x)(hi:i<xs.length)(hy:p xs[i]): ∀x∈xs.take (i+1),p x:=by
 intro x hx;rw[iZ hi] at hx;simp only[bJ,aW] at hx;rcases hx with hx|rfl
 .exact h x hx
 .exact hy
def Zw{a b:Int}(h:decide (a<0)=decide (b<0)):decide (a.natAbs=b.natAbs)=decide (a=b):=by
 have h':a<0↔b<0:=by simpa using h
 exact decide_eq_decide.2 ⟨fun e=>by omega,fun e=>by rw[e]⟩
def aa.ext'(h1:l.a=m.a:=by omega)(h2:l.b=m.b:=by omega)(h3:l.c=m.c:=by omega):l=m:=by cases l;cases m;simp_all
def e8(ls:List aa):cd 6 (ls.map eL):=fun d hd=>by
 obtain⟨n,_,rfl⟩:=aN.1 hd;exact⟨rfl,rfl⟩
def PY{a b:Nat}(hl:(dg a).length=(dg b).length)(h: ∀j,j<(dg a).length->(dg a).getD j 0=(dg b).getD j 0):a=b:=by
 have e:dg a=dg b:=by
  apply List.ext_getElem hl;intro i h1 h2;have:=h i h1;rw[aJ,aJ,aQ h1,aQ h2] at this;exact this
 rw[<-cG a,e,cG]
def iD{z:Int}:PF GB prog 161 [eI z] (eQ (z:Rat)):=by
 refine fn func161 J J ntmps161 J J (fun C=>?_);exact rz J (by rw[A'];rfl)
def uD:PF GB prog 96 [eL l] (eL l.rev):=by
 refine fn func96 J J ntmps96 J J (fun C=>?_);refine cl J yk J<|cl J yk J<|cl J yk J<|rz J J
def KO{a b:Nat}[ha:BN a i][hb:BN b j](hi:i<=400000000:=by decide):PF GB prog 64 [dN a,dN b] (vB (decide (a=b))):=by
 have hla:=bC (dg a);have hlb:=bC (dg b);have hba:=k9 ha.h;refine fn func64 J J ntmps64 J J (fun C=>?_);refine br (fu2:=⟨7⟩) J J J (fun hc10=>?_) (fun hc10=>?_)
 .
  exact rz J (by rw[decide_eq_false (fun e:a=b=>hc10 okE)];rfl)
 .
  refine ah 12 (.d (vI ((dg a).length:Nat))) J omP<|gx J<|lp (X:=Nat) (fun i=>[(13, .d (vI (i:Nat))),(12, .d (vI ((dg a).length:Nat))),(0, .d (dN a)),(1, .d (dN b))]) (fun i=>[]) (fun i=>i<=(dg a).length/\ ∀j,j<i->(dg a).getD j 0=(dg b).getD j 0) (fun i=>(dg a).length-i) 0 J ⟨aL _,fun j hj=>absurd hj pb⟩ (fun _=>J) (fun i hk=>?_);obtain⟨h1,h2⟩:=hk;refine br J J J (fun hc14=>?_) (fun hc14=>?_)
  .
   refine ix _ J (dG) J<|ix _ J (dG) J<|br J J J (fun hc24=>?_) (fun hc24=>?_)
   .
    exact rz J (by rw[decide_eq_false (fun e:a=b=>hc24 okE)];rfl)
   .
    exact at_ (i+1) ⟨⟨pb,fun j hj=>by by_cases q:j=i;(subst q;omega);exact h2 j pb⟩,pb⟩
  .
   exact rz J (by rw[decide_eq_true (PY pb (fun j hj=>h2 j pb))];rfl)
def RT{a b:Int}[ha:BI a i][hb:BI b j](hi:i<=400000000:=by decide):PF GB prog 63 [eI a,eI b] (vB (decide (a=b))):=by
 refine fn (fu:=⟨14⟩) func63 J J ntmps63 J J (fun C=>?_);refine ah 9 (.d (.v (.bool (decide (decide (a<0)=decide (b<0)))))) J (by congr 2)<|gx J<|csd 10 J J J (fun hg10=>?_) (fun hg10=>?_)
 .
  refine cl J (KO pb) J<|rz J (by show DV.v (.bool _)=DV.v (.bool _);rw[<-Zw hg10])
 .
  exact rz J (by rw[decide_eq_false (fun e:a=b=>hg10 okE)];rfl)
class LB (l:aa):Prop where bl:BL l 96
instance LB.a (l:aa) [h:LB l]:BI l.a 96:=⟨h.bl.a⟩
instance LB.b (l:aa) [h:LB l]:BI l.b 96:=⟨h.bl.b⟩
instance LB.c (l:aa) [h:LB l]:BI l.c 96:=⟨h.bl.c⟩
class aE (p:ab) (k:outParam Nat):Prop where
 x:BQ p.x k
 y:BQ p.y k
instance aE.ix (p:ab) (k:Nat) [h:aE p k]:BQ p.x k:=h.x
instance aE.iy (p:ab) (k:Nat) [h:aE p k]:BQ p.y k:=h.y
instance aE.dir (l:aa) [LB l]:aE l.dir 97:=⟨inferInstanceAs (BQ (l.b:Rat) 97),inferInstanceAs (BQ (-(l.a:Rat)) 97)⟩
instance BQ.dot (p q:ab) (i j:Nat) [aE p i] [aE q j]:BQ (p.dot q) (i+j+(i+j)+1):=inferInstanceAs (BQ (p.x*q.x+p.y*q.y) _)
instance BQ.cross (p q:ab) (i j:Nat) [aE p i] [aE q j]:BQ (p.cross q) (i+j+(i+j)+1):=inferInstanceAs (BQ (p.x*q.y-p.y*q.x) _)
instance aE.mov (p q:ab) (c:Rat) (i j k:Nat) [aE p i] [aE q j] [BQ c k]:aE (ce p q c) (i+(k+j)+1):=⟨inferInstanceAs (BQ (p.x+c*q.x) _),inferInstanceAs (BQ (p.y+c*q.y) _)⟩
instance BQ.value (l:aa) (p:ab) (i:Nat) [LB l] [aE p i]:BQ (l.value p) (96+1+i+(96+1+i)+1+(96+1)+1):=inferInstanceAs (BQ ((l.a:Rat)*p.x+(l.b:Rat)*p.y+(l.c:Rat)) _)
def N7(h:l.Ne):l.dir.dot l.dir≠0:=by have:=xV h;grind
def p8:PF GB prog 91 [eL l] (eP l.dir):=by
 refine fn func91 J J ntmps91 J J (fun C=>?_);refine cl J iD J<|cl J iD J<|cl J uG J<|rz J J
def GC{p:ab}[hp:aE p i][hq:aE q j](hi:i<=200000:=by decide)(hj:j<=200000:=by decide):PF GB prog 234 [eP p,eP q] (eQ (p.dot q)):=by
 refine fn func234 J J ntmps234 J J (fun C=>?_);refine cl J (iu pb pb) J<|cl J (iu pb pb) J<|cl J (ll pb pb) J<|rz J J
def vK{p:ab}[hp:aE p i][hq:aE q j](hi:i<=200000:=by decide)(hj:j<=200000:=by decide):PF GB prog 62 [eP p,eP q] (eQ (p.cross q)):=by
 refine fn func62 J J ntmps62 J J (fun C=>?_);refine cl J (iu pb pb) J<|cl J (iu pb pb) J<|cl J (qp pb pb) J<|rz J J
def xh{p:ab}{c:Rat}[hp:aE p i][hq:aE q j][hc:BQ c k](hi:i<=19000000:=by decide)(hj:j<=9000000:=by decide)(hk:k<=9000000:=by decide):PF GB prog 71 [eP p,eQ c,eP q] (eP (ce p q c)):=by
 refine fn func71 J J ntmps71 J J (fun C=>?_);refine cl J (iu pb pb) J<|cl J (ll pb pb) J<|cl J (iu pb pb) J<|cl J (ll pb pb) J<|rz J J
def Bq{p:ab}[hl:LB l][hp:aE p i](hi:i<=400000:=by decide):PF GB prog 238 [eL l,eP p] (eQ (l.value p)):=by
 refine fn func238 J J ntmps238 J J (fun C=>?_);refine cl J (iD (z:=l.a)) J<|cl J (iu pb pb) J<|cl J (iD (z:=l.b)) J<|cl J (iu pb pb) J<|cl J (ll pb pb) J<|cl J (iD (z:=l.c)) J<|cl J (ll pb pb) J<|rz J J
def An{p:ab}[hl:LB l][hp:aE p i](hi:i<=400000:=by decide):PF GB prog 164 [eL l,eP p] (vI (l.value p).num.sign):=by
 refine fn func164 J J ntmps164 J J (fun C=>?_);refine cl J (Bq hi) J<|cl J nB J<|rz J J
def E7[hl:LB l](hn:l.Ne):PF GB prog 157 [eL l] (eP l.base):=by
 refine fn func157 J J ntmps157 J J (fun C=>?_);refine cl J p8 J<|cl J (iD (z:=l.c)) J<|cl J GC J<|cl J (u' (N7 hn)) J<|cl J uG J<|cl J (iD (z:=l.a)) J<|cl J iu J<|cl J (iD (z:=l.b)) J<|cl J iu J<|rz J (by rw[<-OU];rfl)
instance aE.base (l:aa) [LB l]:aE l.base 900:=by
 rw[<-OU];constructor
 .exact BQ.mono (inferInstance:BQ (-((l.c:Rat)/l.dir.dot l.dir)*(l.a:Rat)) _)
 .exact BQ.mono (inferInstance:BQ (-((l.c:Rat)/l.dir.dot l.dir)*(l.b:Rat)) _)
def MT[hl:LB l][ht:BQ t k](hn:l.Ne)(hk:k<=200000:=by decide):PF GB prog 242 [eL l,eQ t] (eP (l.at t)):=by
 refine fn func242 J J ntmps242 J J (fun C=>?_);refine cl J (E7 hn) J<|cl J p8 J<|cl J (xh v6 v6 pb) J<|rz J (by rw[<-qx];rfl)
def C6{p:ab}[hl:LB l][hp:aE p k](hn:l.Ne)(hk:k<=200000:=by decide):PF GB prog 256 [eL l,eP p] (eQ (fH l p)):=by
 refine fn func256 J J ntmps256 J J (fun C=>?_);refine cl J p8 J<|cl J (GC pb v6) J<|cl J (GC pb v6) J<|cl J (u' (N7 hn) pb v6) J<|rz J J
instance BI.crossI (l m:aa) [LB l] [LB m]:BI (crossI l m) 385:=inferInstanceAs (BI (l.a*m.b-m.a*l.b) 385)
instance BI.meetX (l m:aa) [LB l] [LB m]:BI (meetX l m) 385:=inferInstanceAs (BI (l.b*m.c-m.b*l.c) 385)
instance BI.meetY (l m:aa) [LB l] [LB m]:BI (meetY l m) 385:=inferInstanceAs (BI (m.a*l.c-l.a*m.c) 385)
instance aE.imeet (l m:aa) [LB l] [LB m]:aE (du l m) 772:=by
 unfold du;split
 .exact⟨BQ.mono (k:=1) ⟨v6,v6⟩,BQ.mono (k:=1) ⟨v6,v6⟩⟩
 .exact⟨inferInstanceAs (BQ ((meetX l m:Rat)/(crossI l m:Rat)) 772),inferInstanceAs (BQ ((meetY l m:Rat)/(crossI l m:Rat)) 772)⟩
def Nq(l m:aa):(((l.a:Rat)*(m.b:Rat)-(m.a:Rat)*(l.b:Rat)).num.sign=0)↔crossI l m=0:=by
 rw[lC,<-yp];exact dK
def M3(h:crossI l m≠0):(l.a:Rat)*(m.b:Rat)-(m.a:Rat)*(l.b:Rat)≠0:=by
 rw[<-yp];exact fun e=>h (dK.1 e)
def GJ[hl:LB l][hm:LB m]:PF GB prog 92 [eL l,eL m] (.tp [eP (du l m),vB (decide (crossI l m≠0))]):=by
 refine fn func92 J J ntmps92 J J (fun C=>?_);refine cl J (iD (z:=l.a)) J<|cl J (iD (z:=m.b)) J<|cl J iu J<|cl J (iD (z:=m.a)) J<|cl J (iD (z:=l.b)) J<|cl J iu J<|cl J qp J<|cl J nB J<|br J J J (fun hc26=>?_) (fun hc26=>?_)
 .
  have hcr:=(Nq l m).1 hc26;exact rz J (by unfold du;rw[if_pos hcr,decide_eq_false (fun e=>e hcr)];show DV.tp [.ag [_, .sl [], .sl [],_, .sl [], .sl []],_]= .tp [eP ⟨0,0⟩,_];unfold eP dD;simp only[show(0:Rat).num=0 from J,show(0:Rat).den=1 from J,kV,kr];rfl)
 .
  have hcr:crossI l m≠0:=fun e=>hc26 ((Nq l m).2 e);refine cl J (iD (z:=l.b)) J<|cl J (iD (z:=m.c)) J<|cl J iu J<|cl J (iD (z:=m.b)) J<|cl J (iD (z:=l.c)) J<|cl J iu J<|cl J qp J<|cl J (iD (z:=m.a)) J<|cl J (iD (z:=l.c)) J<|cl J iu J<|cl J (iD (z:=l.a)) J<|cl J (iD (z:=m.c)) J<|cl J iu J<|cl J qp J<|cl J (u' (M3 hcr)) J<|cl J (u' (M3 hcr)) J<|rz J (by unfold du;rw[if_neg hcr,decide_eq_true hcr,Py,K2,yp];rfl)
def gE(l m:aa):Int:=if(l.a-m.a).sign≠0 then(l.a-m.a).sign else if(l.b-m.b).sign≠0 then(l.b-m.b).sign else(l.c-m.c).sign
def zn(l m:aa):gE l m=0↔l=m:=by
 unfold gE;constructor
 .intro h
  split at h
  .contradiction
  .split at h
   .contradiction
   .rename_i h1 h2
    have a1:=iS.1 (Decidable.not_not.1 h1);have a2:=iS.1 (Decidable.not_not.1 h2);have a3:=iS.1 h;exact aa.ext'
 .rintro rfl
  simp
def As[hl:LB l][hm:LB m]:PF GB prog 163 [eL l,eL m] (vI (gE l m)):=by
 refine fn func163 J J ntmps163 J J (fun C=>?_);refine cl J (EB (a:=l.a) (b:=m.a)) J<|br J J J (fun hc13=>?_) (fun hc13=>?_)
 .
  exact rz J (by show vI _=_;unfold gE;rw[if_pos hc13])
 .
  refine cl J (EB (a:=l.b) (b:=m.b)) J<|br J J J (fun hc21=>?_) (fun hc21=>?_)
  .
   exact rz J (by show vI _=_;unfold gE;rw[if_neg hc13,if_pos hc21])
  .
   refine cl J (EB (a:=l.c) (b:=m.c)) J<|rz J (by show vI _=_;unfold gE;rw[if_neg hc13,if_neg hc21])
theorem omh{p:Prop}(h:p:=by show vI _=vI _;unfold ab.half;generalize v.x.num.sign=sx at*;generalize v.y.num.sign=sy at*;congr 1;(repeat' split)<;>omega):p:=h
def Mn{v:ab}:PF GB prog 289 [eP v] (vI v.half):=by
 refine fn func289 J J ntmps289 J J (fun C=>?_);refine cl J (nB (q:=v.x)) J<|cl J (nB (q:=v.y)) J<|cs 13 J J J (fun hg13=>?_) (fun hg13=>?_)
 .
  refine br J J J (fun hc16=>?_) (fun hc16=>?_)
  .
   exact rz J omh
  .
   refine cs 19 J J J (fun hg19=>?_) (fun hg19=>?_)
   .
    exact rz J omh
   .
    refine cs 22 J J J (fun hg22=>?_) (fun hg22=>?_)
    .
     refine br J J J (fun hc26=>?_) (fun hc26=>?_)
     .
      exact rz J omh
     .
      exact rz J omh
    .
     exact rz J omh
 .
  refine cs 19 J J J (fun hg19=>?_) (fun hg19=>?_)
  .
   exact rz J omh
  .
   refine cs 22 J J J (fun hg22=>?_) (fun hg22=>?_)
   .
    refine br J J J (fun hc26=>?_) (fun hc26=>?_)
    .
     exact rz J omh
    .
     exact rz J omh
   .
    exact rz J omh
def Y5(z:Int): -1<=z.sign/\z.sign<=1:=by
 rcases qN z 0 with h|h|h
 .rw[dT h];omega
 .rw[h];decide
 .rw[fX h];omega
def UC{v:ab}[hu:aE u i][hv:aE v j](hi:i<=200000:=by decide)(hj:j<=200000:=by decide):PF GB prog 240 [eP u,eP v] (vI (fq u v)):=by
 refine fn func240 J J ntmps240 J J (fun C=>?_);refine cl J (Mn (v:=u)) J<|cl J (Mn (v:=v)) J<|br J J J (fun hc13=>?_) (fun hc13=>?_)
 .
  refine br J J J (fun hc16=>?_) (fun hc16=>?_)
  .
   exact rz J (by show vI _=vI _;unfold fq;rw[if_pos hc16])
  .
   exact rz J (by show vI _=vI _;unfold fq;rw[if_neg hc16,if_pos pb])
 .
  refine cl J (vK hi hj) J<|cl (hv:=by simp only[aj];exact(by have:=Y5 (u.cross v).num;omega)) J nB J<|rz J (by show vI _=vI _;unfold fq;rw[if_neg pb,if_neg pb])
instance BQ.i1:BQ (((1:Int):Rat)) 2:=⟨v6,v6⟩
def eV(v:ak):DV:= .ag [.v (.bool (decide (v.lo.num<0))),dN v.lo.num.natAbs,dD v.lo.den, .v (.bool (decide (v.hi.num<0))),dN v.hi.num.natAbs,dD v.hi.den, .v (.bool v.nl), .v (.bool v.nh)]
def RY:eV ak.all= .ag [.v (.bool false), .sl [], .sl [], .v (.bool false), .sl [], .sl [], .v (.bool true), .v (.bool true)]:=by
 unfold eV ak.all dD;simp only[show(0:Rat).num=0 from J,show(0:Rat).den=1 from J,kV,kr];rfl
def Kg:eQ 0= .ag [.v (.bool false), .sl [], .sl []]:=by
 unfold eQ dD;simp only[show(0:Rat).num=0 from J,show(0:Rat).den=1 from J,kV,kr];rfl
def iH(v:ak):Rat:=if v.nl=true/\v.nh=true then 0 else if v.nl=true then v.hi-1 else if v.nh=true then v.lo+1 else(v.lo+v.hi)/2
def Ke:PF GB prog 288 [] (eV ak.all):=by
 refine fn func288 J J ntmps288 J J (fun C=>?_);exact rz J (by rw[RY];rfl)
def PU[hl:BQ v.lo i][hh:BQ v.hi i](hi:i<=100000:=by decide):PF GB prog 243 [eV v] (eQ (iH v)):=by
 refine fn func243 J J ntmps243 J J (fun C=>?_);refine ja 6 J J J (fun hg6=>?_) (fun hg6=>?_)
 .
  refine bb J J J (fun hc3=>?_) (fun hc3=>?_)
  .
   exact rz J (by unfold iH;rw[if_pos ⟨hg6,hc3⟩,Kg];rfl)
  .
   refine bb J J J (fun hc11=>?_) (fun hc11=>?_)
   .
    refine cl J (kc (n:=1)) J<|cl J (qp (a:=v.hi) (b:=((1:Int):Rat)) pb v6) J<|rz J (by unfold iH;rw[if_neg (by simp[hc3]),if_pos hc11];rfl)
   .
    refine bb J J J (fun hc18=>?_) (fun hc18=>?_)
    .
     refine cl J (kc (n:=1)) J<|cl J (ll (a:=v.lo) (b:=((1:Int):Rat)) pb v6) J<|rz J (by simp[hg6] at hc11)
    .
     refine cl J (HN (a:=v.lo) (b:=v.hi) pb pb) J<|rz J (by simp[hg6] at hc11)
 .
  refine bb J J J (fun hc11=>?_) (fun hc11=>?_)
  .
   refine cl J (kc (n:=1)) J<|cl J (qp (a:=v.hi) (b:=((1:Int):Rat)) pb v6) J<|rz J (by simp[hg6] at hc11)
  .
   refine bb J J J (fun hc18=>?_) (fun hc18=>?_)
   .
    refine cl J (kc (n:=1)) J<|cl J (ll (a:=v.lo) (b:=((1:Int):Rat)) pb v6) J<|rz J (by unfold iH;rw[if_neg (by simp[hg6]),if_neg (by simp[hg6]),if_pos hc18];rfl)
   .
    refine cl J (HN (a:=v.lo) (b:=v.hi) pb pb) J<|rz J (by unfold iH;rw[if_neg (by simp[hg6]),if_neg (by simp[hg6]),if_neg (by simp[hc18])];rfl)
theorem BQ.of_fracI{q:Rat}{n D:Int}(hd:0<D.natAbs)(h:q*((D.natAbs:Nat):Rat)=(n:Rat))(hn:BI n i)(hD:BI D i):BQ q i:=BQ.of_frac hd h hn.h hD.h
theorem BW{m:Int}(h:BI m i)(hij:i<=j:=by decide):BI m j:=⟨dJ h.h (bU v6 hij)⟩
theorem Al[LB l][LB m](hn:l.Ne)(h:crossI l m≠0):BQ (fH l (du l m)) 1200:=by
 have e:=VP hn h;have hA:BI (crossI l m*(l.a*l.a+l.b*l.b)) _:=inferInstance;have hB:BI (meetX l m*l.b-meetY l m*l.a) _:=inferInstance;have hne:crossI l m*(l.a*l.a+l.b*l.b)≠0:=by
  intro q;rcases sX.1 q with q|q
  .exact h q
  .have h1:=xV hn
   simp only[aa.dir,ab.dot] at h1;have h2:((l.a*l.a+l.b*l.b:Int):Rat)=((0:Int):Rat):=by rw[q]
   rw[oU,cK,cK] at h2;have h3:((0:Int):Rat)=0:=J;rw[h3] at h2;grind
 have hA':=BW (j:=1200) hA;have hB':=BW (j:=1200) hB;generalize crossI l m*(l.a*l.a+l.b*l.b)=D at*;generalize meetX l m*l.b-meetY l m*l.a=M at*;by_cases hD:0<D
 .refine BQ.of_fracI (n:=M) (D:=D) pb ?_ hB' hA'
  rw[<-e];congr 1;have:((D.natAbs:Nat):Int)=D:=by omega
  rw[<-this];rfl
 .refine BQ.of_fracI (n:= -M) (D:=D) pb ?_ (BI.neg M 1200 (h:=hB')) hA'
  rw[lN,<-e];have:((D.natAbs:Nat):Rat)= -(D:Rat):=by
   have h1:((D.natAbs:Nat):Int)= -D:=by omega
   rw[<-lN,<-h1];rfl
  rw[this];grind
def LZ(k:Rat):k.num.sign<=0↔ ¬0<k:=by rw[<-mc];omega
def R4(h1: ¬w.nl=true)(h2: ¬w.nh=true)(h3:0<=bm w.lo w.hi):w.empty=true:=by
 unfold ak.empty;simp[h1,h2,h3]
def ZW(h:w.nl=true):w.empty=false:=by unfold ak.empty;simp[h]
def UK(h:w.nh=true):w.empty=false:=by unfold ak.empty;simp[h]
def R3(h: ¬0<=bm w.lo w.hi):w.empty=false:=by unfold ak.empty;simp[h]
def eB(l:aa):List aa->ak->ak×Bool
 |[],v=>(v,true)
 |m::t,v=>if m=l then eB l t v else if l.cutB v m=true then eB l t (l.cutV v m) else(l.cutV v m,false)
def t8{l:aa}: ∀{c:List aa} {v:ak},(eB l c v).2=(et l c v).isSome
 |[],v=>rfl
 |m::t,v=>by
  rw[eB,EY];split
  .exact t8
  .split
   .exact t8
   .rfl
structure i8 (l:aa) (c:List aa) (k:Nat) (v:ak):Prop where
 le:k<=c.length
 p:et l (c.drop k) v=et l c ak.all
 e:eB l (c.drop k) v=eB l c ak.all
 z:gg v
 lo:BQ v.lo 1200
 hi:BQ v.hi 1200
def i8.skip{c:List aa}(h:i8 l c k v)(hk:k<c.length)(e:c[k]=l):i8 l c (k+1) v:=
 ⟨hk,by have:=h.p;rw[bW hk,EY,if_pos e] at this;exact this,by have:=h.e;rw[bW hk,eB,if_pos e] at this;exact this,h.z,h.lo,h.hi⟩
def i8.cut{c:List aa}(h:i8 l c k v)(hk:k<c.length)(e:c[k]≠l)(hb:l.cutB v c[k]=true)(hw:l.cutV v c[k]=w)(z:gg w)(lo:BQ w.lo 1200)(hi:BQ w.hi 1200):i8 l c (k+1) w:=
 ⟨hk,by have:=h.p;rw[bW hk,EY,if_neg e,if_pos hb,hw] at this;exact this,by have:=h.e;rw[bW hk,eB,if_neg e,if_pos hb,hw] at this;exact this,z,lo,hi⟩
def i8.no{c:List aa}(h:i8 l c k v)(hk:k<c.length)(e:c[k]≠l)(hb:l.cutB v c[k]=false)(hw:l.cutV v c[k]=w):eB l c ak.all=(w,false):=by
 rw[<-h.e,bW hk,eB,if_neg e,if_neg (by rw[hb];decide),hw]
def i8.yes{c:List aa}(h:i8 l c k v)(hk:c.length<=k):eB l c ak.all=(v,true):=by
 rw[<-h.e,jL hk];rfl
def i8.all{l:aa}{c:List aa}:i8 l c 0 ak.all:=⟨aL _,by rw[fM],by rw[fM],gg.all,BQ.mono (k:=1) ⟨v6,v6⟩,BQ.mono (k:=1) ⟨v6,v6⟩⟩
def Mq(h:v.nl=true\/0<bm t v.lo):(⟨t,v.hi,false,v.nh⟩:ak)=ny v t:=by unfold ny;rw[if_pos h]
def aBG(h: ¬v.nl=true)(h2: ¬0<bm t v.lo):v=ny v t:=by unfold ny;rw[if_neg (fun e=>e.elim h h2)]
def Ll(h:v.nh=true\/bm t v.hi<0):(⟨v.lo,t,v.nl,false⟩:ak)=nP v t:=by unfold nP;rw[if_pos h]
def Wq(h: ¬v.nh=true)(h2: ¬bm t v.hi<0):v=nP v t:=by unfold nP;rw[if_neg (fun e=>e.elim h h2)]
def mE(l m:aa)(v:ak):ak:=if 0<(m.dir.cross l.dir).num.sign then ny v (fH l (du l m)) else nP v (fH l (du l m))
def FA[LB l][LB m](hn:l.Ne)(hz:gg v)(hlo:BQ v.lo 1200)(hhi:BQ v.hi 1200)(h0:crossI l m≠0):l.cutV v m=mE l m v/\l.cutB v m=!(mE l m v).empty/\gg (mE l m v)/\BQ (mE l m v).lo 1200/\BQ (mE l m v).hi 1200:=by
 have hb:=Al (l:=l) (m:=m) hn h0;unfold mE;split
 .rename_i h
  obtain⟨_,h1,h2⟩:=VI hn hz ((mc _).1 h);refine⟨h1,h2,hz.lo' _,?_⟩;unfold ny;split
  .exact⟨hb,hhi⟩
  .exact⟨hlo,hhi⟩
 .rename_i h
  obtain⟨h1,h2⟩:=VN hn hz h0 (fun e=>h ((mc _).2 e));refine⟨h1,h2,hz.hi' _,?_⟩;unfold nP;split
  .exact⟨hlo,hb⟩
  .exact⟨hlo,hhi⟩
theorem z8{l:aa}[LB l](hn:l.Ne): ∀{c:List aa} {v:ak},(∀m∈c,LB m)->gg v->BQ v.lo 1200->BQ v.hi 1200->BQ (eB l c v).1.lo 1200/\BQ (eB l c v).1.hi 1200
 |[],v,_,_,h1,h2=>⟨h1,h2⟩
 |m::t,v,hc,hz,h1,h2=>by
  haveI:=hc m aZ;have hw:gg (l.cutV v m)/\BQ (l.cutV v m).lo 1200/\BQ (l.cutV v m).hi 1200:=by
   by_cases h0:crossI l m=0
   .rw[(xE (v:=v) h0).1];exact⟨hz,h1,h2⟩
   .obtain⟨u1,_,u3,u4,u5⟩:=FA (v:=v) hn hz h1 h2 h0
    rw[u1];exact⟨u3,u4,u5⟩
  have hc':=fun m hm=>hc m (aK _ hm);rw[eB];split
  .exact z8 hn hc' hz h1 h2
  .split
   .exact z8 hn hc' hw.1 hw.2.1 hw.2.2
   .exact hw.2
theorem oms{p:Prop}(h:p:=by dsimp only;exact⟨hinv,pb⟩):p:=h
theorem okW{p:Prop}(h:p:=by rw[hm];rfl):p:=h
def Mb{c:List aa}(hc: ∀m∈c,LB m)(hok: ∀m∈c,m.ok)(hn:c.length<=1000)(hi:i<c.length):PF GB prog 239 [.sl (c.map eL),vI (i:Nat)] (.tp [eV (eB (c[i]'hi) c ak.all).1,vB (eB (c[i]'hi) c ak.all).2]):=by
 have hcl:=tD c;obtain⟨l,hl⟩: ∃l,l=c[i]:=⟨_,rfl⟩;rw[<-hl];haveI hlb:LB l:=hl▸hc _ (bL hi);have hlo:l.ok:=hl▸hok _ (bL hi);refine fn func239 J J ntmps239 J J (fun C=>?_);refine ix (fu:=⟨1⟩) _ J (uk hi) J<|ah 16 (.d (eL l)) J (by rw[hl];rfl)<|gx J<|cl (fu:=⟨9⟩) J Ke J<|ah 19 (.d (vI (c.length:Nat))) J (by rw[hcl];rfl)<|gx J<|lp (X:=ak×Nat) (fun⟨v,k⟩=>[(20, .d (vI (k:Nat))),(19, .d (vI (c.length:Nat))),(18, .d (.sl (c.map eL))),(1, .d (vI (i:Nat))),(6, .ov 6 0),(7, .ov 7 0),(4, .ov 4 0)]) (fun⟨v,k⟩=>[(7,some (.o 205 [.d ((.v (.bool (decide (v.lo.num<0))))), .d (dN v.lo.num.natAbs), .d (dD v.lo.den), .d ((.v (.bool (decide (v.hi.num<0))))), .d (dN v.hi.num.natAbs), .d (dD v.hi.den), .d ((.v (.bool v.nl))), .d ((.v (.bool v.nh)))] true)),(6,some (.o 136 [.d ((.v (.bool (decide (l.a<0))))), .d (dN l.a.natAbs), .d ((.v (.bool (decide (l.b<0))))), .d (dN l.b.natAbs), .d ((.v (.bool (decide (l.c<0))))), .d (dN l.c.natAbs)] true)),(4,some (.o 205 [.ff, .nl, .nl, .ff, .nl, .nl, .ff, .ff] true))]) (fun⟨v,k⟩=>i8 l c k v) (fun⟨v,k⟩=>c.length-k) ⟨ak.all,0⟩ J i8.all (fun _=>J) (fun⟨v,k⟩ hk=>?_)
 try dsimp only at hk⊢
 have hS:=hk;refine br J J J (fun hc21=>?_) (fun hc21=>?_)
 .
  have hk:k<c.length:=by omega
  obtain⟨m,hm⟩: ∃m,m=c[k]:=⟨_,rfl⟩;haveI hmb:LB m:=hm▸hc _ (bL hk);have hmo:m.ok:=hm▸hok _ (bL hk);refine ix (fu:=⟨1⟩) _ J (uk hk) J<|ah 24 (.d (eL m)) J okW<|gx J<|cs 28 J J J (fun hg28=>?_) (fun hg28=>?_)
  .
   have hinv:i8 l c (k+1) v:=hS.skip hk (by rw[hl];congr 1;omega);exact at_ ⟨v,k+1⟩ oms
  .
   refine cl J (As (l:=l) (m:=m)) J<|br J J J (fun hc33=>?_) (fun hc33=>?_)
   .
    have hinv:i8 l c (k+1) v:=hS.skip hk (by rw[<-hm,(zn l m).1 hc33]);exact at_ ⟨v,k+1⟩ oms
   .
    have hne:c[k]≠l:=fun e=>hc33 ((zn l m).2 (by rw[hm,e]));refine cl (fu:=⟨13⟩) J (GJ (l:=l) (m:=m)) J<|ah 41 (.d (.v (.bool (decide (crossI l m=0))))) J v8<|gx J<|bd J J J (fun hc41=>?_) (fun hc41=>?_)
    .
     refine cl J (E7 hlo.ne) J<|cl J (An (l:=m) (p:=l.base)) J<|br J J J (fun hc46=>?_) (fun hc46=>?_)
     .
      have hno:=hS.no (w:=v) hk hne (by have:=(xE (v:=v) hc41).2;rw[<-hm];cases hb:l.cutB v m with|false=>rfl|true=>exact absurd (this.1 hb) ((LZ _).1 hc46)) (by rw[<-hm];exact(xE (v:=v) hc41).1);exact rz J (by rw[hno];rfl)
     .
      have hinv:i8 l c (k+1) v:=by have:=xE (v:=v) hc41;exact hS.cut hk hne (by rw[<-hm];exact this.2.2 (by have:=mt (LZ (m.value l.base)).2 hc46;exact Decidable.not_not.1 this)) (by rw[<-hm];exact this.1) hS.z hS.lo hS.hi
      exact at_ ⟨v,k+1⟩ oms
    .
     obtain⟨u1,u2,u3,u4,u5⟩:=FA (v:=v) hlo.ne hS.z hS.lo hS.hi hc41;haveI htb:=Al hlo.ne hc41;haveI hvl:=hS.lo;haveI hvh:=hS.hi;refine cl (fu:=⟨0⟩) J (C6 (l:=l) (p:=du l m) hlo.ne) J<|?_;obtain⟨t,ht⟩: ∃t,t=fH l (du l m):=⟨_,rfl⟩;refine ah 50 (.d (eQ t)) J (by rw[ht]) ?_;rw[<-ht] at htb;refine gx (fu:=⟨5⟩) J<|mg (X:=ak) (fun w=>[(20, .d (vI (k:Nat))),(19, .d (vI (c.length:Nat))),(18, .d (.sl (c.map eL))),(1, .d (vI (i:Nat))),(6, .ov 6 0),(7, .ov 7 0),(4, .ov 4 0)]) (fun w=>[(7,some (.o 205 [.d ((.v (.bool (decide (w.lo.num<0))))), .d (dN w.lo.num.natAbs), .d (dD w.lo.den), .d ((.v (.bool (decide (w.hi.num<0))))), .d (dN w.hi.num.natAbs), .d (dD w.hi.den), .d ((.v (.bool w.nl))), .d ((.v (.bool w.nh)))] true)),(6,some (.o 136 [.d ((.v (.bool (decide (l.a<0))))), .d (dN l.a.natAbs), .d ((.v (.bool (decide (l.b<0))))), .d (dN l.b.natAbs), .d ((.v (.bool (decide (l.c<0))))), .d (dN l.c.natAbs)] true)),(4,some (.o 205 [.ff, .nl, .nl, .ff, .nl, .nl, .ff, .ff] true))]) (fun w=>w=mE l m v) [20,19,18,1,6,7,4] [7,6,4] rfl ?_ (fun _=>J) (fun w hw=>?_)
     .
      refine gx J<|cl J (p8 (l:=m)) J<|cl J (p8 (l:=l)) J<|cl J (vK (p:=m.dir) (q:=l.dir)) J<|cl J (nB (q:=m.dir.cross l.dir)) J<|br J J J (fun hc57=>?_) (fun hc57=>?_)
      .
       refine ja 60 J J J (fun hg60=>?_) (fun hg60=>?_)
       .
        refine Bt 7 J J J<|at_ ⟨t,v.hi,false,v.nh⟩ (by unfold mE;rw[if_pos hc57,<-ht];exact Mq (.inl hg60))
       .
        refine cl J (kz (a:=t) (b:=v.lo)) J<|br J J J (fun hc66=>?_) (fun hc66=>?_)
        .
         refine Bt 7 J J J<|at_ ⟨t,v.hi,false,v.nh⟩ (by unfold mE;rw[if_pos hc57,<-ht];exact Mq (.inr hc66))
        .
         exact at_ v (by unfold mE;rw[if_pos hc57,<-ht];exact aBG (by simp[hg60]) hc66)
      .
       refine ja 72 J J J (fun hg72=>?_) (fun hg72=>?_)
       .
        refine Bt 7 J J J<|at_ ⟨v.lo,t,v.nl,false⟩ (by unfold mE;rw[if_neg hc57,<-ht];exact Ll (.inl hg72))
       .
        refine cl J (kz (a:=t) (b:=v.hi)) J<|br J J J (fun hc78=>?_) (fun hc78=>?_)
        .
         refine Bt 7 J J J<|at_ ⟨v.lo,t,v.nl,false⟩ (by unfold mE;rw[if_neg hc57,<-ht];exact Ll (.inr hc78))
        .
         exact at_ v (by unfold mE;rw[if_neg hc57,<-ht];exact Wq (by simp[hg72]) hc78)
     .
      rw[<-hw] at u1 u2 u3 u4 u5;haveI:=u4;haveI:=u5;refine ja 85 J J J (fun hg85=>?_) (fun hg85=>?_)
      .
       refine ja 90 J J J (fun hg90=>?_) (fun hg90=>?_)
       .
        refine cl J (kz (a:=w.lo) (b:=w.hi)) J<|br J J J (fun hc97=>?_) (fun hc97=>?_)
        .
         have hno:=hS.no (w:=w) hk hne (by rw[<-hm,u2,R4 (by simpa using hg85) (by simpa using hg90) hc97];rfl) (by rw[<-hm,u1]);exact rz J (by rw[hno];rfl)
        .
         have hinv:i8 l c (k+1) w:=hS.cut hk hne (by rw[<-hm,u2,R3 hc97];rfl) (by rw[<-hm,u1]) u3 u4 u5;exact at_ ⟨w,k+1⟩ oms
       .
        have hinv:i8 l c (k+1) w:=hS.cut hk hne (by rw[<-hm,u2,UK (by simpa using hg90)];rfl) (by rw[<-hm,u1]) u3 u4 u5;exact at_ ⟨w,k+1⟩ oms
      .
       have hinv:i8 l c (k+1) w:=hS.cut hk hne (by rw[<-hm,u2,ZW (by simpa using hg85)];rfl) (by rw[<-hm,u1]) u3 u4 u5;exact at_ ⟨w,k+1⟩ oms
 .
  exact rz J (by rw[hS.yes pb];rfl)
def fj(l:aa):DV:= .ag [vI (cF (l.a:Rat)),vI (cD (l.a:Rat)),cI (l.a:Rat),vI (cF (l.b:Rat)),vI (cD (l.b:Rat)),cI (l.b:Rat),vI (cF (l.c:Rat)),vI (cD (l.c:Rat)),cI (l.c:Rat)]
def eZ(p:ab):DV:= .ag [vI (cF p.x),vI (cD p.x),cI p.x,vI (cF p.y),vI (cD p.y),cI p.y]
def eW(v:ak):DV:= .ag [vI (cF v.lo),vI (cD v.lo),cI v.lo,vI (cF v.hi),vI (cD v.hi),cI v.hi, .v (.bool v.nl), .v (.bool v.nh)]
def C0{t:List DV}(h:IsLs G (vI 0::vI 0:: .v (.pointer none)::t) vs):IsLs G (vI (cF 0)::vI (cD 0)::cI 0::t) vs:=by
 obtain⟨y1,l1,rfl,k1,g1⟩:=bE.1 h;obtain⟨y2,l2,rfl,k2,g2⟩:=bE.1 g1;obtain⟨y3,l3,rfl,k3,g3⟩:=bE.1 g2;have e:decide (jb 0)=false:=decide_eq_false fun h=>Gw h J;exact .cons k1 (.cons k2 (.cons (ur.2 (.inl ⟨e,bh.1 k3⟩)) g3))
def Ga(a:List DV){t:List DV}(h:IsLs G (a++vI 0::vI 0:: .v (.pointer none)::t) vs):IsLs G (a++vI (cF 0)::vI (cD 0)::cI 0::t) vs:=by
 obtain⟨x,y,rfl,h1,h2⟩:=h.unapp;exact h1.app (C0 h2)
def Te(G:Gh)(y:Value)(k:Is G (.ag [vI 0,vI 0, .v (.pointer none),vI 0,vI 0, .v (.pointer none), .v (.bool true), .v (.bool true)]) y):Is G (eW ak.all) y:=by
 obtain⟨l,rfl,g⟩:=eO.1 k;exact eO.2 ⟨l,J,C0 (Ga [vI 0,vI 0, .v (.pointer none)] g)⟩
def nn:List Int->Int
 |[]=>0
 |a::t=>if a≠0 then a else nn t
theorem aE.nor(l:aa)[LB l]:aE l.nor 97:=⟨inferInstanceAs (BQ (l.a:Rat) 97),inferInstanceAs (BQ (l.b:Rat) 97)⟩
attribute [instance] aE.nor
instance aE.scale (p:ab) (c:Rat) (i k:Nat) [aE p i] [BQ c k]:aE (p.scale c) (i+k):=⟨inferInstanceAs (BQ (p.x*c) _),inferInstanceAs (BQ (p.y*c) _)⟩
instance LB.revA (l:aa) [h:LB l]:LB l.rev:=⟨⟨by rw[show l.rev.a= -l.a from J,iJ];exact h.bl.a,by rw[show l.rev.b= -l.b from J,iJ];exact h.bl.b,by rw[show l.rev.c= -l.c from J,iJ];exact h.bl.c⟩⟩
def RD:PF GB prog 326 [] (eW ak.all):=by
 refine fn func326 J J ntmps326 J J (fun C=>?_);exact iB J Te
def w8:PF GB prog 216 [fj l] (eZ l.nor):=by
 refine fn func216 J J ntmps216 J J (fun C=>?_);exact rz J J
def vk[hl:LB l]:PF GB prog 231 [fj l] (eZ l.dir):=by
 refine fn func231 J J ntmps231 J J (fun C=>?_);refine cl J (rx (q:=(l.a:Rat))) J<|rz J J
def Gr{p:ab}[hp:aE p i][hq:aE q j](hi:i<=40000000:=by decide)(hj:j<=40000000:=by decide):PF GB prog 221 [eZ p,eZ q] (eF (p.dot q)):=by
 refine fn func221 J J ntmps221 J J (fun C=>?_);refine cl J (nO (p:=p.x) (q:=q.x) pb pb) J<|cl J (nO (p:=p.y) (q:=q.y) pb pb) J<|cl J (n8 (p:=p.x*q.x) (q:=p.y*q.y) pb pb) J<|rz J J
def yy{p:ab}[hp:aE p i][hq:aE q j](hi:i<=40000000:=by decide)(hj:j<=40000000:=by decide):PF GB prog 114 [eZ p,eZ q] (eF (p.cross q)):=by
 refine fn func114 J J ntmps114 J J (fun C=>?_);refine cl J (nO (p:=p.x) (q:=q.y) pb pb) J<|cl J (nO (p:=p.y) (q:=q.x) pb pb) J<|cl J (pB (p:=p.x*q.y) (q:=p.y*q.x) pb pb) J<|rz J J
def Nt{p:ab}{c:Rat}[hp:aE p i][hc:BQ c j](hi:i<=40000000:=by decide)(hj:j<=40000000:=by decide):PF GB prog 287 [eZ p,eF c] (eZ (p.scale c)):=by
 refine fn func287 J J ntmps287 J J (fun C=>?_);refine cl J (nO (p:=p.x) (q:=c) pb pb) J<|cl J (nO (p:=p.y) (q:=c) pb pb) J<|rz J J
def Wz{p:ab}[hp:aE p i][hq:aE q j](hi:i<=40000000:=by decide)(hj:j<=40000000:=by decide):PF GB prog 225 [eZ p,eZ q] (eZ (p.add q)):=by
 refine fn func225 J J ntmps225 J J (fun C=>?_);refine cl J (n8 pb pb) J<|cl J (n8 pb pb) J<|rz J J
def NJ[hl:LB l]:PF GB prog 304 [fj l] (eZ l.base):=by
 refine fn func304 J J ntmps304 J J (fun C=>?_);refine cl J w8 J<|cl J (rx (q:=(l.c:Rat))) J<|cl J (Gr (p:=l.nor) (q:=l.nor)) J<|cl J (x8 (p:= -(l.c:Rat)) (q:=l.nor.dot l.nor)) J<|cl J (Nt (p:=l.nor)) J<|rz J J
def O8{p:ab}[hl:LB l][hp:aE p i](hi:i<=10000000:=by decide):PF GB prog 286 [fj l,eZ p] (eF (l.value p)):=by
 refine fn func286 J J ntmps286 J J (fun C=>?_);refine cl J (w8 (l:=l)) J<|cl J (Gr (p:=l.nor) (q:=p) pb pb) J<|cl J (n8 (p:=l.nor.dot p) (q:=(l.c:Rat)) pb pb) J<|rz J J
def Ye{p:ab}[hl:LB l][hp:aE p i](hi:i<=10000000:=by decide):PF GB prog 230 [fj l,eZ p] (vI (l.value p).num.sign):=by
 refine fn func230 J J ntmps230 J J (fun C=>?_);refine cl J (O8 (l:=l) (p:=p) hi) J<|cl J (mz (q:=l.value p) pb) J<|rz J J
def Qi[hl:LB l][ht:BQ t i](hi:i<=10000000:=by decide):PF GB prog 277 [fj l,eF t] (eZ (l.at t)):=by
 refine fn func277 J J ntmps277 J J (fun C=>?_);refine cl J (NJ (l:=l)) J<|cl J (vk (l:=l)) J<|cl J (Nt (p:=l.dir) (c:=t) pb pb) J<|cl J (Wz (p:=l.base) (q:=l.dir.scale t) pb pb) J<|rz J J
theorem okH{p:Prop}(h:p:=by unfold ak.empty;simp_all [vB,ic]):p:=h
def Sk[h1:BQ v.lo i][h2:BQ v.hi j](hi:i<=40000000:=by decide)(hj:j<=40000000:=by decide):PF GB prog 342 [eW v] (vB v.empty):=by
 refine fn func342 J J ntmps342 J J (fun C=>?_);refine ja 6 J J J (fun hg6=>?_) (fun hg6=>?_)
 .
  refine ja 11 J J J (fun hg11=>?_) (fun hg11=>?_)
  .
   refine cl J (tv (p:=v.lo) (q:=v.hi) pb pb) J<|rz J okH
  .
   exact rz J okH
 .
  exact rz J okH
instance ak.meet_lo (v w:ak) (i j:Nat) [h1:BQ v.lo i] [h3:BQ w.lo j]:BQ (v.meet w).lo (i+j):=by
 have a:=h1.mono (mJ i j);have b:=h3.mono (Nat.le_add_left j i);unfold ak.meet;dsimp only;(repeat' split)<;>assumption
instance ak.meet_hi (v w:ak) (i j:Nat) [h1:BQ v.hi i] [h3:BQ w.hi j]:BQ (v.meet w).hi (i+j):=by
 have a:=h1.mono (mJ i j);have b:=h3.mono (Nat.le_add_left j i);unfold ak.meet;dsimp only;(repeat' split)<;>assumption
def Il[h1:BQ v.lo i][h2:BQ v.hi i][h3:BQ w.lo j][h4:BQ w.hi j](hi:i<=10000000:=by decide)(hj:j<=10000000:=by decide):PF GB prog 328 [eW v,eW w] (.tp [eW (v.meet w),vB (!(v.meet w).empty)]):=by
 refine fn (fu:=⟨16⟩) func328 J J ntmps328 J J (fun C=>?_);refine mg (fu:=⟨1⟩) (X:=Unit) (fun _=>[(6, .ov 6 0)]) (fun _=>[(6,some (.o 328 [.d (vI (cF (v.meet w).lo)), .d (vI (cD (v.meet w).lo)), .d (cI (v.meet w).lo), .d (vI (cF v.hi)), .d (vI (cD v.hi)), .d (cI v.hi), .d (.v (.bool (v.nl&&w.nl))), .d (.v (.bool (v.nh)))] true))]) (fun _=>True) [6] [6] rfl ?_ (fun _=>J) (fun _ _=>?_)
 .
  refine gx J<|bb (v1:=fun hc8=>by simp only[aj];kernel_rfl) J J J (fun hc8=>?_) (fun hc8=>?_)
  .
   have em:(v.meet w).lo=w.lo:=by unfold ak.meet;simp_all
   have eb:(v.nl&&w.nl)=w.nl:=by simp_all
   exact at_ () trivial (hO:=⟨by rw[em,eb]<;>rfl,by repeat (first|exact trivial|refine And.intro J ?_)⟩)
  .
   refine bb J J J (fun hc17=>?_) (fun hc17=>?_)
   .
    refine cl J (ZX (p:=v.lo) (q:=w.lo) pb pb) J<|?_;have em:(v.meet w).lo=(if v.lo<w.lo then w.lo else v.lo):=by unfold ak.meet;simp_all
    have eb:(v.nl&&w.nl)=v.nl:=by simp_all
    exact at_ () trivial (hO:=⟨by rw[em,eb]<;>rfl,by repeat (first|exact trivial|refine And.intro J ?_)⟩)
   .
    have em:(v.meet w).lo=v.lo:=by unfold ak.meet;simp_all
    have eb:(v.nl&&w.nl)=v.nl:=by simp_all
    exact at_ () trivial (hO:=⟨by rw[em,eb]<;>rfl,by repeat (first|exact trivial|refine And.intro J ?_)⟩)
 .
  refine mg (X:=Unit) (fun _=>[(6, .ov 6 0)]) (fun _=>[(6,some (.o 328 [.d (vI (cF (v.meet w).lo)), .d (vI (cD (v.meet w).lo)), .d (cI (v.meet w).lo), .d (vI (cF (v.meet w).hi)), .d (vI (cD (v.meet w).hi)), .d (cI (v.meet w).hi), .d (.v (.bool (v.nl&&w.nl))), .d (.v (.bool (v.nh&&w.nh)))] true))]) (fun _=>True) [6] [6] rfl ?_ (fun _=>J) (fun _ _=>?_)
  .
   refine gx J<|bb (v1:=fun hc27=>by simp only[aj];kernel_rfl) J J J (fun hc27=>?_) (fun hc27=>?_)
   .
    have em:(v.meet w).hi=w.hi:=by unfold ak.meet;simp_all
    have eb:(v.nh&&w.nh)=w.nh:=by simp_all
    exact at_ () trivial (hO:=⟨by rw[em,eb]<;>rfl,by repeat (first|exact trivial|refine And.intro J ?_)⟩)
   .
    refine bb J J J (fun hc36=>?_) (fun hc36=>?_)
    .
     refine cl J (Si (p:=v.hi) (q:=w.hi) pb pb) J<|?_;have em:(v.meet w).hi=(if w.hi<v.hi then w.hi else v.hi):=by unfold ak.meet;simp_all
     have eb:(v.nh&&w.nh)=v.nh:=by simp_all
     exact at_ () trivial (hO:=⟨by rw[em,eb]<;>rfl,by repeat (first|exact trivial|refine And.intro J ?_)⟩)
    .
     have em:(v.meet w).hi=v.hi:=by unfold ak.meet;simp_all
     have eb:(v.nh&&w.nh)=v.nh:=by simp_all
     exact at_ () trivial (hO:=⟨by rw[em,eb]<;>rfl,by repeat (first|exact trivial|refine And.intro J ?_)⟩)
  .
   refine cl J (Sk (v:=v.meet w) (i:=i+j) (j:=i+j) pb pb) J<|rz J J
theorem BQ.z1:BQ (0:Rat) 1:=⟨v6,v6⟩
def YU[h1:BQ v.lo i][h2:BQ v.hi i][h3:BQ t j](hi:i<=10000000:=by decide)(hj:j<=9999999:=by decide):PF GB prog 328 [eW v, .ag [vI (cF t),vI (cD t),cI t,vI 0,vI 0, .v (.pointer none), .v (.bool false), .v (.bool true)]] (.tp [eW (v.meet ⟨t,0,false,true⟩),vB (!(v.meet ⟨t,0,false,true⟩).empty)]):=
 (Il (v:=v) (w:=⟨t,0,false,true⟩) (j:=j+1) (h3:=h3.mono pb) (h4:=BQ.z1.mono pb) hi pb).ofI fun G vs hv=>D9 (fun y hy=>by
  obtain⟨l,rfl,g⟩:=eO.1 hy;exact eO.2 ⟨l,J,Ga [_,_,_] g⟩) hv
def Qv[h1:BQ v.lo i][h2:BQ v.hi i][h3:BQ t j](hi:i<=10000000:=by decide)(hj:j<=9999999:=by decide):PF GB prog 328 [eW v, .ag [vI 0,vI 0, .v (.pointer none),vI (cF t),vI (cD t),cI t, .v (.bool true), .v (.bool false)]] (.tp [eW (v.meet ⟨0,t,true,false⟩),vB (!(v.meet ⟨0,t,true,false⟩).empty)]):=
 (Il (v:=v) (w:=⟨0,t,true,false⟩) (j:=j+1) (h4:=h3.mono pb) (h3:=BQ.z1.mono pb) hi pb).ofI fun G vs hv=>D9 (fun y hy=>by
  obtain⟨l,rfl,g⟩:=eO.1 hy;exact eO.2 ⟨l,J,C0 g⟩) hv
instance BQ.cutK (l m:aa) [LB l] [LB m]:BQ (l.cutK m) 400:=BQ.mono (inferInstance:BQ (m.nor.dot l.dir) _)
instance BQ.cutC (l m:aa) [LB l] [LB m]:BQ (l.cutC m) 2500:=BQ.mono (inferInstance:BQ (m.value l.base) _)
def Kn[hl:LB l][hm:LB m][h1:BQ v.lo i][h2:BQ v.hi i](hi:i<=10000000:=by decide):PF GB prog 307 [fj l,eW v,fj m] (.tp [eW (l.cutV v m),vB (l.cutB v m)]):=by
 refine fn func307 J J ntmps307 J J (fun C=>?_);refine cl J (w8 (l:=m)) J<|cl J (vk (l:=l)) J<|cl J (Gr (p:=m.nor) (q:=l.dir)) J<|cl J (NJ (l:=l)) J<|cl J (O8 (l:=m) (p:=l.base)) J<|cl J (mz (q:=l.cutK m)) J<|br J J J (fun hc21=>?_) (fun hc21=>?_)
 .
  refine cl J (mz (q:=l.cutC m)) J<|rz J (by unfold aa.cutV aa.cutB;rw[if_pos hc21,if_pos hc21];rfl)
 .
  refine br J J J (fun hc27=>?_) (fun hc27=>?_)
  .
   refine cl J (x8 (p:=l.cutC m) (q:=l.cutK m)) J<|cl J (rx (q:=l.cutC m/l.cutK m)) J<|cl J (YU (v:=v) (t:= -(l.cutC m/l.cutK m)) hi) J<|rz J (by unfold aa.cutB aa.cutV;rw[if_neg hc21,if_neg hc21,if_pos hc27];rfl)
  .
   refine cl J (x8 (p:=l.cutC m) (q:=l.cutK m)) J<|cl J (rx (q:=l.cutC m/l.cutK m)) J<|cl J (Qv (v:=v) (t:= -(l.cutC m/l.cutK m)) hi) J<|rz J (by unfold aa.cutB aa.cutV;rw[if_neg hc21,if_neg hc21,if_neg hc27];rfl)
theorem omv{p:Prop}(h:p:=by unfold ak.sample;simp_all [ic]<;>rfl):p:=h
def Ue[h1:BQ v.lo i][h2:BQ v.hi i](hi:i<=10000000:=by decide):PF GB prog 278 [eW v] (eF v.sample):=by
 refine fn func278 J J ntmps278 J J (fun C=>?_);refine ja 6 J J J (fun hg6=>?_) (fun hg6=>?_)
 .
  refine bb J J J (fun hc3=>?_) (fun hc3=>?_)
  .
   exact iB J (by unfold ak.sample;rw[hg6,hc3];exact ya)
  .
   refine bb J J J (fun hc11=>?_) (fun hc11=>?_)
   .
    refine cl J (uH (m:=1)) J<|cl J (pB (p:=v.hi) (q:=((1:Int):Rat)) pb v6) J<|rz J omv
   .
    refine bb J J J (fun hc18=>?_) (fun hc18=>?_)
    .
     refine cl J (uH (m:=1)) J<|cl J (n8 (p:=v.lo) (q:=((1:Int):Rat)) pb v6) J<|rz J omv
    .
     refine cl J (n8 (p:=v.lo) (q:=v.hi) pb pb) J<|cl J (E2 (q:=v.lo+v.hi) pb) J<|rz J omv
 .
  refine bb J J J (fun hc11=>?_) (fun hc11=>?_)
  .
   refine cl J (uH (m:=1)) J<|cl J (pB (p:=v.hi) (q:=((1:Int):Rat)) pb v6) J<|rz J omv
  .
   refine bb J J J (fun hc18=>?_) (fun hc18=>?_)
   .
    refine cl J (uH (m:=1)) J<|cl J (n8 (p:=v.lo) (q:=((1:Int):Rat)) pb v6) J<|rz J omv
   .
    refine cl J (n8 (p:=v.lo) (q:=v.hi) pb pb) J<|cl J (E2 (q:=v.lo+v.hi) pb) J<|rz J omv
def FZ(p q:ab):DV:= .ag [vI (cF p.x),vI (cD p.x),cI p.x,vI (cF p.y),vI (cD p.y),cI p.y,vI (cF q.x),vI (cD q.x),cI q.x,vI (cF q.y),vI (cD q.y),cI q.y]
def SA{own:aF}(k:Nat){l:List DV}(hl:aI fr k=some (.d (.pt l)))(h:ao prog GB C n Q0 ((k, .ep l)::fr) own (.ops ops r K)):ao prog GB C n Q0 fr own (.ops ops r K):=
 ow hl (fun ρ G y hy=>by
  obtain⟨b,m,rfl,h1,h2⟩:=oh.1 hy;have e:=h2.len;exact⟨b,0,m,m,J,h1,by rw[ks m 0 l.length pb,fM,<-e,cS],h2⟩) h
def zF{m:List Value}(h:IsLs G [vI 0,vI 0, .v (.pointer none)] m):IsLs G [vI (cF 0),vI (cD 0),cI 0] m:=by
 obtain⟨l,e,k⟩:=eO.1 (ya G (.agg ⟨m⟩) (eO.2 ⟨m,rfl,h⟩))
 cases e;exact k
section
variable {own own':aF}{cf cf':Cf}{vc:List Prop}
def V'(k:Nat){d:DV}(hl:aI fr k=some (.d d))(h: ∀(GB':Gh) (pv:Value),bA GB GB'->Is GB' d pv->ao prog GB' C n Q0 ((k, .d (.v pv))::fr) own (.ops ops r K)):ao prog GB C n Q0 fr own (.ops ops r K):=by
 refine⟨fun ρ G ov a w r0=>?_⟩;obtain⟨y,hy,hy'⟩:=r0.fx k _ hl;refine(h G y r0.gb hy').run ρ G ov a w ⟨bA.refl _,r0.h,r0.sz,r0.df,fun j f e=>?_,r0.bx,r0.dj,r0.fxd⟩;rw[i9] at e;split at e
 .rename_i hj
  cases e;subst hj
  exact⟨y,hy,(bh (G:=G)).2 J⟩
 .exact r0.fx j f e
def J3(fr:aA)(own:aF)(cf:Cf):Option (TypeId×Nat×Nat×List FX×Bool×FX):=match cO fr cf with
 |some ⟨_, .store t x y,_,_,_,_⟩=>match ba (bH fr cf) x with
  |some (.ov nm 0)=>match gp fr own cf nm with
   |some (.o ty cs lo)=>match ba (bH fr cf) y with
    |some fv=>some (t,nm,ty,cs,lo,fv)
    |_=>none
   |_=>none
  |_=>none
 |_=>none
def B9[fu:Fu]{t e:Nat}{cs:List FX}{lo:Bool}{fv:FX}{j:TypeInfo}(h:J3 fr own cf=some (t,nm,ty,cs,lo,fv))(hu:prog.underlying t=some (.array len e))(hj:prog.info? t=some j)(hc:fv.okc=true/\fv.cells.length=j.size/\j.size=cs.length)
  (hgo:cv tt n fu.n fr own cf .un [(nm,some (.o ty (tH cs 0 fv.cells) lo))] []=⟨vc,fr',own',cf'⟩)(k:ao prog GB C n Q0 fr' own' cf')
  (hv:autoParam (aj vc) cL._auto_1):ao prog GB C n Q0 fr own cf:=by
 unfold J3 at h;split at h<;>try (cases h;done)
 rename_i hh;split at h<;>try (cases h;done)
 rename_i e1;split at h<;>try (cases h;done)
 rename_i hb;split at h<;>cases h;rename_i e2;obtain⟨c1,c2,c3⟩:=hc;have:la prog t j.size:=⟨fun w=>BT hu w,fun w=>tk hj w⟩;refine us hh ?_ hgo hv k;intro hd tl tb K s1 s2 hf hk;refine⟨fun ρ G ov a w r Q=>?_⟩;have r1:=r.mono s1 s2;obtain⟨p,h1,h2⟩:=r1.ev e1;obtain⟨q,h3,h4⟩:=r1.ev e2;obtain⟨b,m,rfl,ha,h5,h6⟩:=r1.own h2 hb;obtain⟨h7,h8⟩:=h4.cells c1;obtain⟨own',u1,u2,u3⟩:=gv.of_mem (cs':=ck m 0 (aH q)) h6;exact AM h1 h3 u1 (by rw[h7.len,c2]) (by rw[h5.len,c3];omega) (dZ.2 h8) hd (fun a' w' rl=>r.wrote (m:=m) (s2 _ _ hb) ha (h5.ov h7) u2 u3 hk rl) a w Q ⟨r.h,r.sz,b9 a,r.df⟩
end
instance BQ.i1':BQ (1:Rat) 2:=⟨v6,v6⟩
instance BQ.i2':BQ (2:Rat) 2:=⟨v6,v6⟩
theorem Oz[BQ v.lo i][BQ v.hi i]:BQ (iH v) (i+i+5):=by
 unfold iH;split
 .exact BQ.mono (k:=1) ⟨v6,v6⟩ pb
 .split
  .exact BQ.mono (inferInstance:BQ (v.hi-1) _) pb
  .split
   .exact BQ.mono (inferInstance:BQ (v.lo+1) _) pb
   .exact BQ.mono (inferInstance:BQ ((v.lo+v.hi)/2) _) pb
instance aE.at (l:aa) (t:Rat) (k:Nat) [LB l] [BQ t k]:aE (l.at t) (900+(k+97)+1):=by
 rw[<-qx];infer_instance
def VZ{q:Rat}(h: ¬q.num.sign=0):q≠0:=fun e=>h ((lC q).2 e)
def oO(d:ab):ab:=⟨-d.y,d.x⟩
instance aE.turn (d:ab) (k:Nat) [aE d k]:aE (oO d) k:=⟨inferInstanceAs (BQ (-d.y) k),inferInstanceAs (BQ d.x k)⟩
def qI(p v:ab)(m:aa):Rat:= -(m.value p/(m.value (ce p v ((1:Int):Rat))-m.value p))
def ml(p v:ab)(m:aa)(s:Rat):Rat:=if(m.value (ce p v ((1:Int):Rat))-m.value p).num.sign=0 then s else if(m.value p).num.sign=0 then s else if 0<(qI p v m).num.sign then(if bm (qI p v m/2) s<0 then qI p v m/2 else s) else s
def kH(p v:ab):List aa->Rat->Rat
 |[],s=>s
 |m::t,s=>kH p v t (ml p v m s)
def vT(c:List aa)(p v:ab):ab:=ce p v (kH p v c ((1:Int):Rat))
def xl{c:List aa}{p v:ab}{r:Rat}(h:kH p v (c.drop k) s=r)(hk:k<c.length)(hm:m=c[k])(e:ml p v m s=s'):kH p v (c.drop (k+1)) s'=r:=by
 rw[bW hk] at h;rw[<-h,kH,<-hm,e]
def Vt{c:List aa}{p v:ab}(hc: ∀m∈c,LB m)(hn:c.length<=1000)(hp:aE p 4500)(hv:aE v 97):PF GB prog 241 [.sl (c.map eL),eP p,eP v] (eP (vT c p v)):=by
 have hcl:=tD c;refine fn func241 J J ntmps241 J J (fun C=>?_);refine cl (fu:=⟨9⟩) J (kc (n:=1)) J<|ah 14 (.d (vI (c.length:Nat))) J (by rw[hcl];rfl)<|gx J<|lp (X:=Rat×Nat) (fun⟨s,k⟩=>[(15, .d (vI (k:Nat))),(14, .d (vI (c.length:Nat))),(13, .d (.sl (c.map eL))),(4, .ov 4 0),(5, .ov 5 0),(7, .ov 7 0),(6, .ov 6 0)]) (fun⟨s,k⟩=>[(7,some (.o 34 [.d ((.v (.bool (decide (s.num<0))))), .d (dN s.num.natAbs), .d (dD s.den)] true)),(6,some (.o 36 [.ff, .nl, .nl, .ff, .nl, .nl] true)),(5,some (.o 36 [.d ((.v (.bool (decide (v.x.num<0))))), .d (dN v.x.num.natAbs), .d (dD v.x.den), .d ((.v (.bool (decide (v.y.num<0))))), .d (dN v.y.num.natAbs), .d (dD v.y.den)] true)),(4,some (.o 36 [.d ((.v (.bool (decide (p.x.num<0))))), .d (dN p.x.num.natAbs), .d (dD p.x.den), .d ((.v (.bool (decide (p.y.num<0))))), .d (dN p.y.num.natAbs), .d (dD p.y.den)] true))]) (fun⟨s,k⟩=>k<=c.length/\BQ s 60000/\kH p v (c.drop k) s=kH p v c ((1:Int):Rat)) (fun⟨s,k⟩=>c.length-k) ⟨((1:Int):Rat),0⟩ J ⟨aL _,BQ.i1.mono v6,J⟩ (fun _=>J) (fun⟨s,k⟩ hk=>?_)
 try dsimp only at hk⊢
 obtain⟨hle,hsb,hns⟩:=hk;refine br J J J (fun hc16=>?_) (fun hc16=>?_)
 .
  have hk:k<c.length:=by omega
  obtain⟨m,hm⟩: ∃m,m=c[k]:=⟨_,rfl⟩;haveI hmb:LB m:=hm▸hc _ (bL hk);have hinv:=hsb;refine ix (fu:=⟨1⟩) _ J (uk hk) J<|ah 18 (.d (eL m)) J okW<|gx J<|cl J (kc (n:=1)) J<|cl J (xh (p:=p) (q:=v) (c:=((1:Int):Rat))) J<|cl J (Bq (l:=m) (p:=ce p v ((1:Int):Rat))) J<|cl J (Bq (l:=m) (p:=p)) J<|cl J (qp (a:=m.value (ce p v ((1:Int):Rat))) (b:=m.value p)) J<|cl J (nB (q:=m.value (ce p v ((1:Int):Rat))-m.value p)) J<|cs 32 J J J (fun hg32=>?_) (fun hg32=>?_)
  .
   exact at_ ⟨s,k+1⟩ (by dsimp only;exact⟨⟨pb,hinv,(xl hns hk hm (by unfold ml;rw[if_pos hg32]))⟩,pb⟩)
  .
   refine cl J (An (l:=m) (p:=p)) J<|br J J J (fun hc37=>?_) (fun hc37=>?_)
   .
    exact at_ ⟨s,k+1⟩ (by dsimp only;exact⟨⟨pb,hinv,(xl hns hk hm (by unfold ml;rw[if_neg hg32,if_pos hc37]))⟩,pb⟩)
   .
    refine cl J (Bq (l:=m) (p:=p)) J<|cl J (u' (a:=m.value p) (b:=m.value (ce p v ((1:Int):Rat))-m.value p) (VZ hg32)) J<|cl J (uG (q:=m.value p/(m.value (ce p v ((1:Int):Rat))-m.value p))) J<|cl (fu:=⟨0⟩) J (nB (q:= -(m.value p/(m.value (ce p v ((1:Int):Rat))-m.value p)))) J<|jk (v2:=fun hg46=>by simp only[aj];exact⟨we,pb⟩) J J J J (fun hg46=>?_) (fun hg46=>?_)
    .
     refine cl J (CA (a:= -(m.value p/(m.value (ce p v ((1:Int):Rat))-m.value p)))) J<|cl J (kz (a:= -(m.value p/(m.value (ce p v ((1:Int):Rat))-m.value p))/2) (b:=s)) J<|br J J J (fun hc53=>?_) (fun hc53=>?_)
     .
      obtain⟨t,ht⟩: ∃t,t= -(m.value p/(m.value (ce p v ((1:Int):Rat))-m.value p)):=⟨_,rfl⟩;haveI htb:BQ t 45000:=ht▸BQ.mono inferInstance;have hinv:BQ (t/2) 60000:=BQ.mono inferInstance;rw[<-ht];refine cl J (CA (a:=t)) J<|at_ ⟨t/2,k+1⟩ (by dsimp only;exact⟨⟨pb,hinv,(xl hns hk hm (by unfold ml;rw[if_neg hg32,if_neg hc37,show qI p v m=t from ht.symm,if_pos (by rw[ht];exact hg46),if_pos (by rw[ht];exact hc53)]))⟩,pb⟩)
     .
      exact at_ ⟨s,k+1⟩ (by dsimp only;exact⟨⟨pb,hinv,(xl hns hk hm (by unfold ml;rw[if_neg hg32,if_neg hc37,if_pos (show 0<(qI p v m).num.sign from hg46),if_neg (show¬bm (qI p v m/2) s<0 from hc53)]))⟩,pb⟩)
    .
     exact at_ ⟨s,k+1⟩ (by dsimp only;exact⟨⟨pb,hinv,(xl hns hk hm (by unfold ml;rw[if_neg hg32,if_neg hc37,if_neg (show¬0<(qI p v m).num.sign from hg46)]))⟩,pb⟩)
 .
  refine cl J (xh (p:=p) (q:=v) (c:=s)) J<|rz J (by unfold vT;rw[<-hns,jL pb];rfl)
def gI(c:List aa):List aa->ab
 |[]=>⟨0,0⟩
 |m::t=>if(eB m c ak.all).2=true then vT c (m.at (iH (eB m c ak.all).1)) (oO m.dir) else gI c t
def Ql{c:List aa}(h:gI c (c.drop k)=gI c c)(hk:k<c.length)(hm:m=c[k])(e:(eB m c ak.all).2=true):gI c c=vT c (m.at (iH (eB m c ak.all).1)) (oO m.dir):=by
 rw[<-h,bW hk,gI,<-hm,if_pos e]
def Re{c:List aa}(h:gI c (c.drop k)=gI c c)(hk:k<c.length)(hm:m=c[k])(e: ¬(eB m c ak.all).2=true):gI c (c.drop (k+1))=gI c c:=by
 rw[<-h,bW hk,gI,<-hm,if_neg e]
def V9{c:List aa}(h:m∈c)(h2:(et m c ak.all).isSome=true):gG c=true:=by
 unfold gG;rw[gR,jX];exact .inr ⟨m,h,h2⟩
def ar6{c:List aa}(h:c=[]):gG c=true:=by subst h;rfl
def Rq{c:List aa}(h:c≠[])(h2: ∀m∈c,(et m c ak.all).isSome=false):gG c=false:=by
 rw[<-jM];unfold gG;rw[gR,jX,List.isEmpty_iff];rintro (e|⟨m,h3,h4⟩)
 .exact h e
 .rw[h2 m h3] at h4;exact absurd h4 v6
def IN:eP ⟨0,0⟩= .ag [.v (.bool false), .sl [], .sl [], .v (.bool false), .sl [], .sl []]:=by
 unfold eP dD;simp only[show(0:Rat).num=0 from J,show(0:Rat).den=1 from J,kV,kr];rfl
def EL{c:List aa}(hc: ∀m∈c,LB m)(hok: ∀m∈c,m.ok)(hn:c.length<=1000):PF GB prog 166 [.sl (c.map eL)] (.tp [eP (gI c c),vB (gG c)]):=by
 have hcl:=tD c;refine fn func166 J J ntmps166 J J (fun C=>?_);refine br (fu2:=⟨7⟩) J J J (fun hc11=>?_) (fun hc11=>?_)
 .
  exact rz J (by rw[cV (l:=c) pb,ar6 J];show _=DV.tp [eP ⟨0,0⟩,_];rw[IN];rfl)
 .
  refine ah 14 (.d (vI (c.length:Nat))) J (by rw[hcl];rfl)<|gx J<|lp (X:=Nat) (fun k=>[(15, .d (vI (k:Nat))),(14, .d (vI (c.length:Nat))),(13, .d (.sl (c.map eL))),(0, .d (.sl (c.map eL))),(2, .ov 2 0)]) (fun k=>[(2,some (.o 36 [.ff, .nl, .nl, .ff, .nl, .nl] true))]) (fun k=>k<=c.length/\(∀m∈c.take k,(et m c ak.all).isSome=false)/\gI c (c.drop k)=gI c c) (fun k=>c.length-k) 0 J ⟨aL _,fun m hm=>absurd hm v8,J⟩ (fun _=>J) (fun k hk=>?_);obtain⟨hle,hno,hip⟩:=hk;refine br J J J (fun hc16=>?_) (fun hc16=>?_)
  .
   have hk:k<c.length:=by omega
   obtain⟨m,hm⟩: ∃m,m=c[k]:=⟨_,rfl⟩;haveI hmb:LB m:=hm▸hc _ (bL hk);have hmo:m.ok:=hm▸hok _ (bL hk);refine ix (fu:=⟨1⟩) _ J (uk hk) J<|ah 19 (.d (eL m)) J okW<|gx J<|cl (fu:=⟨0⟩) J (Mb hc hok hn hk) J<|ah 23 (.d (.tp [eV (eB m c ak.all).1,vB (eB m c ak.all).2])) J (by rw[hm])<|gx J<|bb J J J (fun hc26=>?_) (fun hc26=>?_)
   .
    have hbd:=z8 (v:=ak.all) hmo.ne hc gg.all (BQ.mono (k:=1) ⟨v6,v6⟩) (BQ.mono (k:=1) ⟨v6,v6⟩);obtain⟨s,hs⟩: ∃s,s=(eB m c ak.all).1:=⟨_,rfl⟩;rw[<-hs] at hbd;haveI:=hbd.1;haveI:=hbd.2;haveI hsb:=Oz (v:=s) (i:=1200);have hpt:aE (m.at (iH s)) 4500:=by have:=aE.at m (iH s) (1200+1200+5);exact⟨this.x.mono v6,this.y.mono v6⟩
    have hin:gG c=true:=V9 (hm▸bL hk) (by rw[<-t8];exact hc26);have hpn:=Ql hip hk hm hc26;rw[<-hs] at hpn⊢;refine cl J (p8 (l:=m)) J<|cl J (PU (v:=s)) J<|cl J (MT (l:=m) (t:=iH s) hmo.ne) J<|cl J (uG (q:=m.dir.y)) J<|cl J (Vt (p:=m.at (iH s)) (v:=oO m.dir) hc hn (hpt) inferInstance) J<|rz J (by rw[hin,hpn];rfl)
   .
    exact at_ (k+1) ⟨⟨pb,VW hno hk (by rw[<-hm,<-t8];exact hc26),Re hip hk hm (by rw[hc26];decide)⟩,pb⟩
  .
   exact rz J (by rw[Rq (fun e=>hc11 (by rw[e];rfl)) (fun m hm=>hno m (by rw[bK pb];exact hm)),<-hip,jL pb];show _=DV.tp [eP ⟨0,0⟩,_];rw[IN];rfl)
end Go.Sx
end
