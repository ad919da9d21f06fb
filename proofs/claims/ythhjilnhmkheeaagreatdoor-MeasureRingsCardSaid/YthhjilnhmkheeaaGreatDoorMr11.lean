import Derived.Test.YthhjilnhmkheeaaGreatDoorMr10
set_option linter.all false
set_option maxHeartbeats 4000000
set_option maxRecDepth 100000
section
namespace Go.Sx
open Go Go.Proofs Tryz
variable {GB:Gh}
def TQ{m:Int}{g:Nat}(hg:(g:Int)∣m)(hb:m.natAbs<4611686018427387904):IntKind.i64.wrap (m.tdiv g)=m/g:=by
 rw[Int.tdiv_eq_ediv_of_dvd hg];have:=nT m g;exact avb we
def tm(a b:Int):Int:=if(a*b).natAbs<4611686018427387904 then a*b else 0
def I5(a b:Int):(tm a b).natAbs<4611686018427387904:=by unfold tm;split<;>omega
def B9{a b:Int}(h:(a*b).natAbs<4611686018427387904):tm a b=a*b:=if_pos h
def MB{a b:Int}(h: ¬(a*b).natAbs<4611686018427387904:=by omega):DV.tp [vI 0, .v (.bool false)]= .tp [vI (tm a b),vB (decide ((a*b).natAbs<4611686018427387904))]:=by unfold tm;rw[if_neg h,decide_eq_false h];rfl
def Ql{a b:Int}{x:Int}(h:(a*b).natAbs<4611686018427387904)(e:x=a*b):DV.tp [vI x, .v (.bool true)]= .tp [vI (tm a b),vB (decide ((a*b).natAbs<4611686018427387904))]:=by unfold tm;rw[if_pos h,decide_eq_true h,e];rfl
def Sf(n:Nat):eI (n:Int)= .ag [.v (.bool false),dN n]:=by unfold eI;rw[decide_eq_false we,jL]
def aIc{p q:Rat}(hp:p.den=1)(hq:q.den=1):rgcd p q=((Nat.gcd p.num.natAbs q.num.natAbs:Nat):Int):=by
 conv=>lhs;rw[D4 hp,D4 hq]
 exact H0 _ _
def UT(q:Rat):mkRat (zv (decide (q.num<0)) q.den) q.num.natAbs=q⁻¹:=by
 rw[Rat.inv_def];by_cases h:q.num<0
 .rw[decide_eq_true h];exact Uo h
 .rw[decide_eq_false h,<-Rat.divInt_ofNat,nM we];rfl
instance BQ.inv (q:Rat) (i:Nat) [h:BQ q i]:BQ q⁻¹ i:=by
 have h1:=h.hn;have h2:=h.hd;have h3:=q.den_nz;rcases kS q.num 0 with k|k|k
 .obtain⟨e1,e2⟩:=Tm k;exact⟨we,we⟩
 .have e:q=0:=mW.1 k
  have e0:(0:Rat)⁻¹=0:=Rat.inv_zero;rw[e] at h1 h2⊢;rw[e0];exact⟨h1,h2⟩
 .obtain⟨e1,e2⟩:=MH k;exact⟨we,we⟩
instance BQ.half:BQ (mkRat 1 2) 2:=⟨oma,oma⟩
def aDy{x y:Nat}(hx:x<18446744073709551616)(hy:y<18446744073709551616):PF GB prog 191 [.v (.int .u64 (x:Nat)), .v (.int .u64 (y:Nat))] (.tp [.v (.int .u64 ((x*y/18446744073709551616:Nat):Int)), .v (.int .u64 ((x*y%18446744073709551616:Nat):Int))]):=fun G vs _ hv=>by
 obtain⟨v,m,rfl,h1,h2⟩:=bO.1 hv;obtain⟨u,m',rfl,h3,h4⟩:=bO.1 h2
 cases gw.1 h4
 rw[bE.1 h1,bE.1 h3];exact(Xh hx hy).mono fun v G' _ h=>by subst h;exact mm.2 ⟨_,J, .cons (bE.2 J) (.cons (bE.2 J) .nil)⟩
def Se{a b:Nat}(ha:a<18446744073709551616:=by omega)(hb:b<18446744073709551616:=by omega):PF GB prog 193 [.v (.int .u64 (a:Nat)), .v (.int .u64 (b:Nat))] (.v (.int .u64 (Nat.gcd a b:Nat))):=by
 refine fn func193 J J ntmps193 J J (fun C=>?_);refine lp (X:=Nat×Nat) (fun⟨u,v⟩=>[(1, .d (.v (.int .u64 (v:Nat)))),(0, .d (.v (.int .u64 (u:Nat))))]) (fun⟨u,v⟩=>[]) (fun⟨u,v⟩=>u<18446744073709551616/\v<18446744073709551616/\Nat.gcd u v=Nat.gcd a b) (fun⟨u,v⟩=>v) (a,b) J ⟨ha,hb,J⟩ (fun _=>J) (fun⟨u,v⟩ hk=>?_);dsimp only at hk⊢;obtain⟨h1,h2,h3⟩:=hk;refine br (v1:=fun hc6=>by simp only[ae];exact⟨we,omd⟩) J J J (fun hc6=>?_) (fun hc6=>?_)
 .
  have hm:=dQ u (show 0<v by omega);exact at_ (v,u%v) (by dsimp only;exact⟨⟨h2,we,by rw[<-h3,jK u v,tU v u,jK]⟩,hm⟩)
 .
  exact rz J (by rw[<-h3,show v=0 by omega,nW];rfl)
def ti{m:Int}(h:m.natAbs<9223372036854775808:=by decide):PF GB prog 134 [vI m] (eF (m:Rat)):=by
 refine fn func134 J J ntmps134 J J (fun C=>?_);refine cs 5 J J J (fun hg5=>?_) (fun hg5=>?_)
 .
  refine cl J (GK (m:=m)) J<|rf (fu:=⟨0⟩) J J<|ah 11 (.d (dN 1)) J okI<|gx J<|cl J (vO (n:=decide (m<0)) (a:=m.natAbs) (i:=63) (h:=⟨h⟩) (d:=1)) J<|rz J oki
 .
  refine br J J J (fun hc8=>?_) (fun hc8=>?_)
  .
   refine cl J (GK (m:=m)) J<|rf (fu:=⟨0⟩) J J<|ah 11 (.d (dN 1)) J okI<|gx J<|cl J (vO (n:=decide (m<0)) (a:=m.natAbs) (i:=63) (h:=⟨h⟩) (d:=1)) J<|rz J oki
  .
   exact jE J (Rx we)
theorem ozf{p:Prop}(h:p:=by simpa using hc26):p:=h
def Co{a b:Int}(ha:a.natAbs<4611686018427387904:=by omega)(hb:b.natAbs<4611686018427387904:=by omega):PF GB prog 130 [vI a,vI b] (.tp [vI (tm a b),vB (decide ((a*b).natAbs<4611686018427387904))]):=by
 have hab:=iR a b;refine fn func130 J J ntmps130 J J (fun C=>?_);refine cl J (AI (m:=a)) J<|cl J (AI (m:=b)) J<|cl J (aDy (x:=a.natAbs) (y:=b.natAbs) we we) J<|cs 18 J J J (fun hg18=>?_) (fun hg18=>?_)
 .
  exact rz J (MB)
 .
  refine br J J J (fun hc21=>?_) (fun hc21=>?_)
  .
   exact rz J (MB)
  .
   refine bb J J J (fun hc26=>?_) (fun hc26=>?_)
   .
    have hs:=PD a b;rw[if_neg ozf] at hs;exact rz J (Ql we (by rw[hs,<-hab];omega))
   .
    have hs:=PD a b;rw[if_pos ozf] at hs;exact rz J (Ql we (by rw[hs,<-hab];omega))
def Qv{m:Int}{d:Nat}(h:m.natAbs<4611686018427387904)(h0:0<d)(hd:d<4611686018427387904):PF GB prog 131 [vI m,vI (d:Nat)] (eF (mkRat m d)):=by
 have hg:Nat.gcd m.natAbs d<=d:=Nat.gcd_le_right _ h0;have hg0:0<Nat.gcd m.natAbs d:=oW _ h0;obtain⟨e1,e2⟩:=Qw (m:=m) h0;have e3:=nT m (Nat.gcd m.natAbs d:Nat);have e4:=mU d (Nat.gcd m.natAbs d);have e5:=Nat.div_pos hg hg0;refine fn func131 J J ntmps131 J J (fun C=>?_);refine cl J (AI (m:=m)) J<|cl J (Se (a:=m.natAbs) (b:=d)) J<|br (fu1:=⟨4⟩) J J J (fun hc13=>?_) (fun hc13=>?_)
 .
  refine ah 16 (.d (vI (m/(Nat.gcd m.natAbs d:Nat)))) J (by rw[TQ (Int.dvd_natAbs.1 (rK.2 (nK _ _))) h];rfl)<|gx (fu:=⟨3⟩) J<|ah 19 (.d (vI ((d/Nat.gcd m.natAbs d:Nat)))) J (by rw[TQ (rK.2 (oZ _ _)) (by rw[jL];exact hd)];rfl)<|gx (hv:=by simp only[ae];exact⟨omd,we⟩) J<|jE J (uu (fun k=>k ⟨by rw[e1];omega,by rw[e2];omega⟩) e1 (by rw[e2]) J)
 .
  exact jE J (by have h1:Nat.gcd m.natAbs d=1:=we;rw[h1,tT] at e2;rw[h1,Int.natCast_one,Int.ediv_one] at e1;exact uu (fun k=>k ⟨by rw[e1];omega,by rw[e2];omega⟩) e1 (by rw[e2]) J)
def iz{p q:Rat}{i j:Nat}[h:BQ p i][k:BQ q j](hi:i<=100000000:=by decide)(hj:j<=100000000:=by decide):PF GB prog 75 [eF p,eF q] (eF (p*q)):=by
 refine fn (fu:=⟨8⟩) func75 J J ntmps75 J J (fun C=>?_);refine mg (X:=Unit) (fun _=>[(2, .ov 2 0),(3, .ov 3 0),(4, .ov 4 0)]) (fun _=>[(2,some (.o 113 [.d (vI (cC p)), .d (vI (cD p)), .d (cE p)] true)),(3,some (.o 113 [.d (vI (cC q)), .d (vI (cD q)), .d (cE q)] true)),(4,some (.o 113 [.d (.v (.int .i64 0)), .d (.v (.int .i64 0)), .d (.v (.pointer none))] true))]) (fun _=>True) [2,3,4] [2,3,4] rfl ?_ (fun _=>J) (fun _ _=>?_)
 .
  refine gx J<|cs 12 J J J (fun hg12=>?_) (fun hg12=>?_)
  .
   refine br (fu1:=⟨4⟩) J J J (fun hc16=>?_) (fun hc16=>?_)
   .
    have hp:=uO hg12;have hq:=uO hc16;have p1:=o7 hp;have p2:=q8 hp;have p3:=rD hp;have p4:=rC hp;have p5:=p.den_nz;have q1:=o7 hq;have q2:=q8 hq;have q3:=rD hq;have q4:=rC hq;have q5:=q.den_nz;refine ah 19 (.d (vI p.num)) J (by rw[p1])<|gx (fu:=⟨2⟩) J<|ah 21 (.d (vI q.num)) J (by rw[q1])<|gx J<|cl (fu:=⟨12⟩) J (Co (a:=p.num) (b:=q.num)) J<|ah 28 (.d (vI (p.den:Nat))) J omT<|gx (fu:=⟨3⟩) J<|ah 31 (.d (vI (q.den:Nat))) J omT<|gx J<|cl J (Co (a:=(p.den:Nat)) (b:=(q.den:Nat))) J<|csd 36 J J J (fun hg36=>?_) (fun hg36=>?_)
    .
     refine bd (fu1:=⟨3⟩) J J J (fun hc38=>?_) (fun hc38=>?_)
     .
      have hd1:p.den*q.den<4611686018427387904:=by omega
      refine ah 39 (.d (vI (p.num*q.num))) J (by rw[B9 hg36])<|gx (fu:=⟨1⟩) J<|ah 40 (.d (vI ((p.den*q.den:Nat)))) J (by rw[B9 hc38];rfl)<|gx J<|cl J (Qv (m:=p.num*q.num) (d:=p.den*q.den) hg36 (gM we we) hd1) J<|rz J (by rw[<-BY];rfl)
     .
      exact at_ () trivial
    .
     exact at_ () trivial
   .
    exact at_ () trivial
  .
   exact at_ () trivial
 .
  refine cl J (wU (q:=p) we) J<|cl J (wU (q:=q) we) J<|cl J (K2 (a:=p.num) (b:=q.num) we we) J<|cl J (r6 (q:=p) we) J<|cl J (r6 (q:=q) we) J<|cl J (yX (a:=p.den) (b:=q.den) we we) J<|cl J (vO (n:=decide (p.num*q.num<0)) (a:=(p.num*q.num).natAbs) (d:=p.den*q.den) (i:=i+j) (j:=i+j) we we) J<|rz J (by rw[nk,<-BY];rfl)
def ll{p q:Rat}{i j:Nat}[h:BQ p i][k:BQ q j](hi:i<=100000000:=by decide)(hj:j<=100000000:=by decide):PF GB prog 76 [eF p,eF q] (eF (p+q)):=by
 refine fn (fu:=⟨8⟩) func76 J J ntmps76 J J (fun C=>?_);refine mg (X:=Unit) (fun _=>[(2, .ov 2 0),(3, .ov 3 0),(4, .ov 4 0)]) (fun _=>[(2,some (.o 113 [.d (vI (cC p)), .d (vI (cD p)), .d (cE p)] true)),(3,some (.o 113 [.d (vI (cC q)), .d (vI (cD q)), .d (cE q)] true)),(4,some (.o 113 [.d (.v (.int .i64 0)), .d (.v (.int .i64 0)), .d (.v (.pointer none))] true))]) (fun _=>True) [2,3,4] [2,3,4] rfl ?_ (fun _=>J) (fun _ _=>?_)
 .
  refine gx J<|cs 16 J J J (fun hg16=>?_) (fun hg16=>?_)
  .
   refine br (fu1:=⟨1⟩) J J J (fun hc20=>?_) (fun hc20=>?_)
   .
    have hp:=uO hg16;have hq:=uO hc20;have p1:=o7 hp;have p2:=q8 hp;have p3:=rD hp;have p4:=rC hp;have p5:=p.den_nz;have q1:=o7 hq;have q2:=q8 hq;have q3:=rD hq;have q4:=rC hq;have q5:=q.den_nz;refine mg (fu:=⟨4⟩) (X:=Unit) (fun _=>[(2, .ov 2 0),(3, .ov 3 0),(4, .ov 4 0)]) (fun _=>[(2,some (.o 113 [.d (vI (cC p)), .d (vI (cD p)), .d (cE p)] true)),(3,some (.o 113 [.d (vI (cC q)), .d (vI (cD q)), .d (cE q)] true)),(4,some (.o 113 [.d (.v (.int .i64 0)), .d (.v (.int .i64 0)), .d (.v (.pointer none))] true))]) (fun _=>True) [2,3,4] [2,3,4] rfl ?_ (fun _=>J) (fun _ _=>?_)
    .
     refine gx J<|cs 24 J J J (fun hg24=>?_) (fun hg24=>?_)
     .
      refine br (fu1:=⟨4⟩) J J J (fun hc28=>?_) (fun hc28=>?_)
      .
       refine ah 30 (.d (vI p.num)) J (by rw[p1])<|gx (fu:=⟨2⟩) J<|ah 32 (.d (vI q.num)) J (by rw[q1])<|gx J<|cl J (ti (m:=p.num+q.num) we) J<|rz J (by rw[D4 (q:=p),D4 (q:=q),<-mY];rfl)
      .
       exact at_ () trivial
     .
      exact at_ () trivial
    .
     refine ah 37 (.d (vI p.num)) J (by rw[p1])<|gx (fu:=⟨3⟩) J<|ah 40 (.d (vI (q.den:Nat))) J omT<|gx J<|cl (fu:=⟨11⟩) J (Co (a:=p.num) (b:=(q.den:Nat))) J<|ah 46 (.d (vI q.num)) J (by rw[q1])<|gx (fu:=⟨3⟩) J<|ah 49 (.d (vI (p.den:Nat))) J omT<|gx J<|cl (fu:=⟨12⟩) J (Co (a:=q.num) (b:=(p.den:Nat))) J<|ah 56 (.d (vI (p.den:Nat))) J omT<|gx (fu:=⟨3⟩) J<|ah 59 (.d (vI (q.den:Nat))) J omT<|gx J<|cl (fu:=⟨3⟩) J (Co (a:=(p.den:Nat)) (b:=(q.den:Nat))) J<|?_;have t1:=I5 p.num (q.den:Nat);have t2:=I5 q.num (p.den:Nat);have t3:=I5 (p.den:Nat) (q.den:Nat);refine gx J<|csd 67 J J J (fun hg67=>?_) (fun hg67=>?_)
     .
      refine csd 70 J J J (fun hg70=>?_) (fun hg70=>?_)
      .
       refine csd 73 J J J (fun hg73=>?_) (fun hg73=>?_)
       .
        refine cs 77 J J J (fun hg77=>?_) (fun hg77=>?_)
        .
         refine br (fu1:=⟨3⟩) J J J (fun hc80=>?_) (fun hc80=>?_)
         .
          have u1:=B9 hg67;have u2:=B9 hg70;have u3:=B9 hg73;have hd1:p.den*q.den<4611686018427387904:=by omega
          refine ah 81 (.d (vI (p.num*(q.den:Nat)+q.num*(p.den:Nat)))) J (by rw[u1,u2];rfl)<|gx (fu:=⟨1⟩) J<|ah 82 (.d (vI ((p.den*q.den:Nat)))) J (by rw[u3];rfl)<|gx J<|cl J (Qv (m:=p.num*(q.den:Nat)+q.num*(p.den:Nat)) (d:=p.den*q.den) we (gM we we) hd1) J<|rz J (by rw[<-AL];rfl)
         .
          exact at_ () trivial
        .
         exact at_ () trivial
       .
        exact at_ () trivial
      .
       exact at_ () trivial
     .
      exact at_ () trivial
   .
    exact at_ () trivial
  .
   exact at_ () trivial
 .
  refine cl J (wU (q:=p) we) J<|cl (fu:=⟨1⟩) J (r6 (q:=q) we) J<|ah 88 (.d (eI (q.den:Nat))) J (by rw[Sf])<|gx J<|cl J (K2 (a:=p.num) (b:=(q.den:Nat)) we we) J<|cl J (wU (q:=q) we) J<|cl (fu:=⟨1⟩) J (r6 (q:=p) we) J<|ah 94 (.d (eI (p.den:Nat))) J (by rw[Sf])<|gx J<|cl J (K2 (a:=q.num) (b:=(p.den:Nat)) we we) J<|cl J (Y1 (a:=p.num*(q.den:Nat)) (b:=q.num*(p.den:Nat)) (i:=i+j) (j:=j+i) we we) J<|cl J (r6 (q:=p) we) J<|cl J (r6 (q:=q) we) J<|cl J (yX (a:=p.den) (b:=q.den) we we) J<|cl J (vO (n:=decide (p.num*(q.den:Nat)+q.num*(p.den:Nat)<0)) (a:=(p.num*(q.den:Nat)+q.num*(p.den:Nat)).natAbs) (d:=p.den*q.den) (i:=i+j+(j+i)+1) (j:=i+j) we we) J<|rz J (by rw[nk,<-AL];rfl)
def vj{p q:Rat}{i j:Nat}[h:BQ p i][k:BQ q j](hi:i<=100000000:=by decide)(hj:j<=100000000:=by decide):PF GB prog 190 [eF p,eF q] (eF (p-q)):=by
 refine fn func190 J J ntmps190 J J (fun C=>?_);refine cl J (r5 (q:=q) we) J<|cl J (ll (p:=p) (q:= -q) we we) J<|rz J (by rw[<-Rat.sub_eq_add_neg];rfl)
def Gc{q:Rat}{i:Nat}[h:BQ q i](hi:i<=400000000:=by decide):PF GB prog 54 [eF q] (eF q⁻¹):=by
 refine fn func54 J J ntmps54 J J (fun C=>?_);refine br (v1:=fun hc3=>by simp only[ae];exact⟨⟨hc3,hc3⟩,hc3⟩) J J J (fun hc3=>?_) (fun hc3=>?_)
 .
  refine cl J (vO (n:=decide (q.num<0)) (a:=q.den) (d:=q.num.natAbs) we we) J<|rz J (by rw[UT];rfl)
 .
  have q1:=o7 (p6 hc3);have q2:=q8 (p6 hc3);have q3:=rD (p6 hc3);have q4:=rC (p6 hc3);have q5:=q.den_nz;refine br J J J (fun hc26=>?_) (fun hc26=>?_)
  .
   exact jE rfl (by obtain⟨e1,e2⟩:=Tm (q:=q) we;exact uu (fun k=>k ⟨we,we⟩) we we rfl)
  .
   refine br J J J (fun hc39=>?_) (fun hc39=>?_)
   .
    exact jE J (by rw[mW.1 (show q.num=0 by omega),Rat.inv_zero];exact yP)
   .
    exact jE rfl (by obtain⟨e1,e2⟩:=MH (q:=q) we;exact uu (fun k=>k ⟨we,we⟩) we we rfl)
def ya{p q:Rat}{i j:Nat}[h:BQ p i][k:BQ q j](hi:i<=100000000:=by decide)(hj:j<=100000000:=by decide):PF GB prog 136 [eF p,eF q] (eF (p/q)):=by
 refine fn func136 J J ntmps136 J J (fun C=>?_);refine cl J (Gc (q:=q) we) J<|cl J (iz (p:=p) (q:=q⁻¹) we we) J<|rz J (by rw[Rat.div_def];rfl)
def Na{G:Gh}{q r:DV}{t:List DV}{vs:List Value}(h: ∀y,Is G r y->Is G q y)(hv:IsLs G (r::t) vs):IsLs G (q::t) vs:=by
 obtain⟨y,m,rfl,h1,h2⟩:=bO.1 hv;exact .cons (h _ h1) h2
def F'{G:Gh}{a q r:DV}{t:List DV}{vs:List Value}(h: ∀y,Is G r y->Is G q y)(hv:IsLs G (a::r::t) vs):IsLs G (a::q::t) vs:=by
 obtain⟨y,m,rfl,h1,h2⟩:=bO.1 hv;exact .cons h1 (Na h h2)
def YC{q:Rat}{i:Nat}[h:BQ q i](hi:i<=100000000:=by decide):PF GB prog 75 [eF q, .ag [vI 1,vI 1, .v (.pointer none)]] (eF (q*mkRat 1 2)):=
 (iz (p:=q) (q:=mkRat 1 2) hi).ofI fun G vs hv=>F' (fun y hy=>uu (q:=mkRat 1 2) (fun k=>k ⟨oma,oma⟩) oma oma J G y hy) hv
def GU{q:Rat}{i:Nat}[h:BQ q i](hi:i<=100000000:=by decide):PF GB prog 99 [eF q] (eF (q*mkRat 1 2)):=by
 refine fn func99 J J ntmps99 J J (fun C=>?_);refine cl J (YC (q:=q) we) J<|rz J J
def w8{p q:Rat}{i j:Nat}[h:BQ p i][k:BQ q j](hi:i<=100000000:=by decide)(hj:j<=100000000:=by decide):PF GB prog 231 [eF p,eF q] (vI (bt p q)):=by
 refine fn func231 J J ntmps231 J J (fun C=>?_);refine cs 8 J J J (fun hg8=>?_) (fun hg8=>?_)
 .
  refine cs 13 J J J (fun hg13=>?_) (fun hg13=>?_)
  .
   refine br J J J (fun hc19=>?_) (fun hc19=>?_)
   .
    have hp:=uO hg8;have hq:=uO hg13;have p1:=o7 hp;have p2:=q8 hp;have p3:=rD hp;have p4:=rC hp;have p5:=p.den_nz;have q1:=o7 hq;have q2:=q8 hq;have q3:=rD hq;have q4:=rC hq;have q5:=q.den_nz;have hl:=RI (a:=p) (b:=q);have hr:=RI (a:=q) (b:=p);unfold bt;refine br J J J (fun hc20=>?_) (fun hc20=>?_)
    .
     exact rz J (by rw[if_pos (hl.2 we)];rfl)
    .
     refine br J J J (fun hc26=>?_) (fun hc26=>?_)
     .
      exact rz J (by rw[if_neg (fun e=>by have:=hl.1 e;omega),if_pos (hr.2 we)];rfl)
     .
      exact rz J (by rw[if_neg (fun e=>by have:=hl.1 e;omega),if_neg (fun e=>by have:=hr.1 e;omega)];rfl)
   .
    refine cl J (vj (p:=p) (q:=q) we we) J<|cl J (oP (q:=p-q) we) J<|rz J (by rw[Df];rfl)
  .
   refine cl J (vj (p:=p) (q:=q) we we) J<|cl J (oP (q:=p-q) we) J<|rz J (by rw[Df];rfl)
 .
  refine cl J (vj (p:=p) (q:=q) we we) J<|cl J (oP (q:=p-q) we) J<|rz J (by rw[Df];rfl)
def Nt{p q:Rat}{i j:Nat}[h:BQ p i][k:BQ q j](hi:i<=100000000:=by decide)(hj:j<=100000000:=by decide):PF GB prog 214 [eF p,eF q] (vB (decide (p=q))):=by
 refine fn func214 J J ntmps214 J J (fun C=>?_);refine cl J (w8 (p:=p) (q:=q) hi hj) J<|rz J (by show DV.v (.bool (decide _))= .v (.bool _);congr 2;exact decide_eq_decide.2 (ou p q))
def Ww{p q:Rat}{i j:Nat}[h:BQ p i][k:BQ q j](hi:i<=100000000:=by decide)(hj:j<=100000000:=by decide):PF GB prog 267 [eF p,eF q] (eF (if p<q then q else p)):=by
 refine fn func267 J J ntmps267 J J (fun C=>?_);refine cl J (w8 (p:=q) (q:=p) hj hi) J<|br J J J (fun hc8=>?_) (fun hc8=>?_)
 .
  exact rz J (by rw[if_pos ((NJ q p).1 hc8)];rfl)
 .
  exact rz J (by rw[if_neg (fun e=>hc8 ((NJ q p).2 e))];rfl)
def X8{p q:Rat}{i j:Nat}[h:BQ p i][k:BQ q j](hi:i<=100000000:=by decide)(hj:j<=100000000:=by decide):PF GB prog 268 [eF p,eF q] (eF (if q<p then q else p)):=by
 refine fn func268 J J ntmps268 J J (fun C=>?_);refine cl J (w8 (p:=q) (q:=p) hj hi) J<|br J J J (fun hc8=>?_) (fun hc8=>?_)
 .
  exact rz J (by rw[if_pos ((RY q p).1 hc8)];rfl)
 .
  exact rz J (by rw[if_neg (fun e=>hc8 ((RY q p).2 e))];rfl)
def A6{p q:Rat}{i j:Nat}[h:BQ p i][k:BQ q j](hi:i<=100000000:=by decide)(hj:j<=100000000:=by decide):PF GB prog 213 [eF p,eF q] (eF (rgcd p q)):=by
 refine fn (fu:=⟨8⟩) func213 J J ntmps213 J J (fun C=>?_);refine mg (X:=Unit) (fun _=>[(2, .ov 2 0),(3, .ov 3 0),(4, .ov 4 0)]) (fun _=>[(2,some (.o 113 [.d (vI (cC p)), .d (vI (cD p)), .d (cE p)] true)),(3,some (.o 113 [.d (vI (cC q)), .d (vI (cD q)), .d (cE q)] true)),(4,some (.o 113 [.d (.v (.int .i64 0)), .d (.v (.int .i64 0)), .d (.v (.pointer none))] true))]) (fun _=>True) [2,3,4] [2,3,4] rfl ?_ (fun _=>J) (fun _ _=>?_)
 .
  refine gx J<|cs 10 J J J (fun hg10=>?_) (fun hg10=>?_)
  .
   refine cs 15 J J J (fun hg15=>?_) (fun hg15=>?_)
   .
    have hp:=uO hg10;have hq:=uO hg15;have p1:=o7 hp;have p2:=q8 hp;have p3:=rD hp;have p4:=rC hp;have p5:=p.den_nz;have q1:=o7 hq;have q2:=q8 hq;have q3:=rD hq;have q4:=rC hq;have q5:=q.den_nz;refine cs 20 J J J (fun hg20=>?_) (fun hg20=>?_)
    .
     refine br (fu1:=⟨4⟩) J J J (fun hc24=>?_) (fun hc24=>?_)
     .
      have hg:=aGZ p3 q3;refine ah 26 (.d (vI p.num)) J (by rw[p1])<|gx J<|cl (fu:=⟨2⟩) J (AI (m:=p.num)) J<|ah 29 (.d (vI q.num)) J (by rw[q1])<|gx J<|cl J (AI (m:=q.num)) J<|cl (hv:=by simp only[ae];exact⟨we,omd⟩) J (Se (a:=p.num.natAbs) (b:=q.num.natAbs)) J<|jE J (by rw[aIc (p:=p) (q:=q) we we];exact Rx (by rw[jL];exact hg))
     .
      exact at_ () trivial
    .
     exact at_ () trivial
   .
    exact at_ () trivial
  .
   exact at_ () trivial
 .
  refine cl J (r6 (q:=p) we) J<|cl J (r6 (q:=q) we) J<|cl J (yX (a:=p.den) (b:=q.den) we we) J<|cl J (wU (q:=p) we) J<|cl J (r6 (q:=q) we) J<|cl J (yX (a:=p.num.natAbs) (b:=q.den) we we) J<|cl J (wU (q:=q) we) J<|cl J (r6 (q:=p) we) J<|cl J (yX (a:=q.num.natAbs) (b:=p.den) we we) J<|cl J (Pc (a:=p.num.natAbs*q.den) (b:=q.num.natAbs*p.den) (i:=i+j) (j:=j+i) we we) J<|cl J (vO (n:=false) (a:=Nat.gcd (p.num.natAbs*q.den) (q.num.natAbs*p.den)) (d:=p.den*q.den) (i:=i+j+(j+i)) (j:=i+j) we we) J<|rz J J

def cT:Tr->List DV
 | .leaf b=>[.v (.bool true), .v (.bool b), .v (.bool false), .sl [], .v (.bool false), .sl [], .v (.bool false), .sl [], .v (.pointer none), .v (.pointer none)]
 | .node l x y=>[.v (.bool false), .v (.bool false), .v (.bool (decide (l.a<0))),dN l.a.natAbs, .v (.bool (decide (l.b<0))),dN l.b.natAbs, .v (.bool (decide (l.c<0))),dN l.c.natAbs, .pt (cT x), .pt (cT y)]
def eT(t:Tr):DV:= .pt (cT t)
def eN(n:NQ):DV:= .ag [.v (.bool (decide (n.l.a<0))),dN n.l.a.natAbs, .v (.bool (decide (n.l.b<0))),dN n.l.b.natAbs, .v (.bool (decide (n.l.c<0))),dN n.l.c.natAbs, .v (.int .i64 n.a), .v (.int .i64 n.b)]
def eA(t:Tr):DV:= .ag [.v (.int .i64 (t.num 0)), .sl ((t.wr 0).map eN)]
structure BL (l:ab) (k:Nat):Prop where
 a:l.a.natAbs<2^k
 b:l.b.natAbs<2^k
 c:l.c.natAbs<2^k
def aKt(ns:List NQ):dH 8 (ns.map eN):=fun d hd=>by
 obtain⟨n,_,rfl⟩:=aS.1 hd;exact⟨rfl,rfl⟩
def xO{xs:List ab}{i:Nat}(h:i<xs.length:=by omega):(xs.map eL)[(i:Int).toNat]? =some (eL xs[i]):=by simp[h]
def wY(xs:List ab):(xs.map eL).length=xs.length:=aK ..
def YW{α:Type}{xs:List α}{i:Nat}{p:α->Prop}(h: ∀x∈xs.take i,p x)(hi:i<xs.length)(hy:p xs[i]): ∀x∈xs.take (i+1),p x:=by
 intro x hx;rw[iM hi] at hx;simp only[bJ,aV] at hx;rcases hx with hx|rfl
 .exact h x hx
 .exact hy
def au0{a b:Int}(h:decide (a<0)=decide (b<0)):decide (a.natAbs=b.natAbs)=decide (a=b):=by
 have h':a<0↔b<0:=by simpa using h
 exact decide_eq_decide.2 ⟨fun e=>by omega,fun e=>by rw[e]⟩
def ab.ext'{l m:ab}(h1:l.a=m.a:=by omega)(h2:l.b=m.b:=by omega)(h3:l.c=m.c:=by omega):l=m:=by cases l;cases m;simp_all
def ir(ls:List ab):dH 6 (ls.map eL):=fun d hd=>by
 obtain⟨n,_,rfl⟩:=aS.1 hd;exact⟨rfl,rfl⟩
def aEV{a b:Nat}(hl:(dg a).length=(dg b).length)(h: ∀j,j<(dg a).length->(dg a).getD j 0=(dg b).getD j 0):a=b:=by
 have e:dg a=dg b:=by
  apply List.ext_getElem hl;intro i h1 h2;have:=h i h1;rw[aJ,aJ,aZ h1,aZ h2] at this;exact this
 rw[<-dG a,e,dG]
def km{z:Int}:PF GB prog 123 [eI z] (eQ (z:Rat)):=by
 refine fn func123 J J ntmps123 J J (fun C=>?_);exact rz J (by rw[Fl];rfl)
def wX{l:ab}:PF GB prog 93 [eL l] (eL l.rev):=by
 refine fn func93 J J ntmps93 J J (fun C=>?_);refine cl J A3 J<|cl J A3 J<|cl J A3 J<|rz J J
def Pn{a b i j:Nat}[ha:BN a i][hb:BN b j](hi:i<=400000000:=by decide):PF GB prog 82 [dN a,dN b] (vB (decide (a=b))):=by
 have hla:=cd (dg a);have hlb:=cd (dg b);have hba:=n9 ha.h;refine fn func82 J J ntmps82 J J (fun C=>?_);refine br (fu2:=⟨7⟩) J J J (fun hc10=>?_) (fun hc10=>?_)
 .
  exact rz J (by rw[decide_eq_false (fun e:a=b=>hc10 okC)];rfl)
 .
  refine ah 12 (.d (vI ((dg a).length:Nat))) J omP<|gx J<|lp (X:=Nat) (fun i=>[(13, .d (vI (i:Nat))),(12, .d (vI ((dg a).length:Nat))),(0, .d (dN a)),(1, .d (dN b))]) (fun i=>[]) (fun i=>i<=(dg a).length/\ ∀j,j<i->(dg a).getD j 0=(dg b).getD j 0) (fun i=>(dg a).length-i) 0 J ⟨bS _,fun j hj=>absurd hj we⟩ (fun _=>J) (fun i hk=>?_);obtain⟨h1,h2⟩:=hk;refine br J J J (fun hc14=>?_) (fun hc14=>?_)
  .
   refine ix _ J (fD) J<|ix _ J (fD) J<|br J J J (fun hc24=>?_) (fun hc24=>?_)
   .
    exact rz J (by rw[decide_eq_false (fun e:a=b=>hc24 okC)];rfl)
   .
    exact at_ (i+1) ⟨⟨we,fun j hj=>by by_cases q:j=i;(subst q;omega);exact h2 j we⟩,we⟩
  .
   exact rz J (by rw[decide_eq_true (aEV we (fun j hj=>h2 j we))];rfl)
def Yj{a b:Int}{i j:Nat}[ha:BI a i][hb:BI b j](hi:i<=400000000:=by decide):PF GB prog 81 [eI a,eI b] (vB (decide (a=b))):=by
 refine fn (fu:=⟨14⟩) func81 J J ntmps81 J J (fun C=>?_);refine ah 9 (.d (.v (.bool (decide (decide (a<0)=decide (b<0)))))) J (by congr 2)<|gx J<|csd 10 J J J (fun hg10=>?_) (fun hg10=>?_)
 .
  refine cl J (Pn we) J<|rz J (by show DV.v (.bool _)=DV.v (.bool _);rw[<-au0 hg10])
 .
  exact rz J (by rw[decide_eq_false (fun e:a=b=>hg10 okC)];rfl)
class LB (l:ab):Prop where bl:BL l 96
instance LB.a (l:ab) [h:LB l]:BI l.a 96:=⟨h.bl.a⟩
instance LB.b (l:ab) [h:LB l]:BI l.b 96:=⟨h.bl.b⟩
instance LB.c (l:ab) [h:LB l]:BI l.c 96:=⟨h.bl.c⟩
class aE (p:aa) (k:outParam Nat):Prop where
 x:BQ p.x k
 y:BQ p.y k
instance aE.ix (p:aa) (k:Nat) [h:aE p k]:BQ p.x k:=h.x
instance aE.iy (p:aa) (k:Nat) [h:aE p k]:BQ p.y k:=h.y
instance aE.dir (l:ab) [LB l]:aE l.dir 97:=⟨inferInstanceAs (BQ (l.b:Rat) 97),inferInstanceAs (BQ (-(l.a:Rat)) 97)⟩
instance BQ.dot (p q:aa) (i j:Nat) [aE p i] [aE q j]:BQ (p.dot q) (i+j+(i+j)+1):=inferInstanceAs (BQ (p.x*q.x+p.y*q.y) _)
instance BQ.cross (p q:aa) (i j:Nat) [aE p i] [aE q j]:BQ (p.cross q) (i+j+(i+j)+1):=inferInstanceAs (BQ (p.x*q.y-p.y*q.x) _)
instance aE.mov (p q:aa) (c:Rat) (i j k:Nat) [aE p i] [aE q j] [BQ c k]:aE (av p q c) (i+(k+j)+1):=⟨inferInstanceAs (BQ (p.x+c*q.x) _),inferInstanceAs (BQ (p.y+c*q.y) _)⟩
instance BQ.value (l:ab) (p:aa) (i:Nat) [LB l] [aE p i]:BQ (l.value p) (96+1+i+(96+1+i)+1+(96+1)+1):=inferInstanceAs (BQ ((l.a:Rat)*p.x+(l.b:Rat)*p.y+(l.c:Rat)) _)
def QK{l:ab}(h:l.Ne):l.dir.dot l.dir≠0:=by have:=Ay h;grind
def vQ{l:ab}:PF GB prog 146 [eL l] (eP l.dir):=by
 refine fn func146 J J ntmps146 J J (fun C=>?_);refine cl J km J<|cl J km J<|cl J sA J<|rz J J
def HU{p q:aa}{i j:Nat}[hp:aE p i][hq:aE q j](hi:i<=200000:=by decide)(hj:j<=200000:=by decide):PF GB prog 185 [eP p,eP q] (eQ (p.dot q)):=by
 refine fn func185 J J ntmps185 J J (fun C=>?_);refine cl J (jP we we) J<|cl J (jP we we) J<|cl J (qf we we) J<|rz J J
def Ak{p q:aa}{i j:Nat}[hp:aE p i][hq:aE q j](hi:i<=200000:=by decide)(hj:j<=200000:=by decide):PF GB prog 25 [eP p,eP q] (eQ (p.cross q)):=by
 refine fn func25 J J ntmps25 J J (fun C=>?_);refine cl J (jP we we) J<|cl J (jP we we) J<|cl J (ut we we) J<|rz J J
def Cu{p q:aa}{c:Rat}{i j k:Nat}[hp:aE p i][hq:aE q j][hc:BQ c k](hi:i<=19000000:=by decide)(hj:j<=9000000:=by decide)(hk:k<=9000000:=by decide):PF GB prog 26 [eP p,eQ c,eP q] (eP (av p q c)):=by
 refine fn func26 J J ntmps26 J J (fun C=>?_);refine cl J (jP we we) J<|cl J (qf we we) J<|cl J (jP we we) J<|cl J (qf we we) J<|rz J J
def D2{l:ab}{p:aa}{i:Nat}[hl:LB l][hp:aE p i](hi:i<=400000:=by decide):PF GB prog 187 [eL l,eP p] (eQ (l.value p)):=by
 refine fn func187 J J ntmps187 J J (fun C=>?_);refine cl J (km (z:=l.a)) J<|cl J (jP we we) J<|cl J (km (z:=l.b)) J<|cl J (jP we we) J<|cl J (qf we we) J<|cl J (km (z:=l.c)) J<|cl J (qf we we) J<|rz J J
def AE{l:ab}{p:aa}{i:Nat}[hl:LB l][hp:aE p i](hi:i<=400000:=by decide):PF GB prog 124 [eL l,eP p] (vI (l.value p).num.sign):=by
 refine fn func124 J J ntmps124 J J (fun C=>?_);refine cl J (D2 hi) J<|cl J qA J<|rz J J
def KK{l:ab}[hl:LB l](hn:l.Ne):PF GB prog 188 [eL l] (eP l.base):=by
 refine fn func188 J J ntmps188 J J (fun C=>?_);refine cl J vQ J<|cl J (km (z:=l.c)) J<|cl J HU J<|cl J (yC (QK hn)) J<|cl J sA J<|cl J (km (z:=l.a)) J<|cl J jP J<|cl J (km (z:=l.b)) J<|cl J jP J<|rz J (by rw[<-Oq];rfl)
instance aE.base (l:ab) [LB l]:aE l.base 900:=by
 rw[<-Oq];constructor
 .exact BQ.mono (inferInstance:BQ (-((l.c:Rat)/l.dir.dot l.dir)*(l.a:Rat)) _)
 .exact BQ.mono (inferInstance:BQ (-((l.c:Rat)/l.dir.dot l.dir)*(l.b:Rat)) _)
def Ep{l:ab}{t:Rat}{k:Nat}[hl:LB l][ht:BQ t k](hn:l.Ne)(hk:k<=200000:=by decide):PF GB prog 126 [eL l,eQ t] (eP (l.at t)):=by
 refine fn func126 J J ntmps126 J J (fun C=>?_);refine cl J (KK hn) J<|cl J vQ J<|cl J (Cu oma oma we) J<|rz J (by rw[<-uT];rfl)
def AB{l:ab}{p:aa}{k:Nat}[hl:LB l][hp:aE p k](hn:l.Ne)(hk:k<=200000:=by decide):PF GB prog 117 [eL l,eP p] (eQ (fI l p)):=by
 refine fn func117 J J ntmps117 J J (fun C=>?_);refine cl J vQ J<|cl J (HU we oma) J<|cl J (HU we oma) J<|cl J (yC (QK hn) we oma) J<|rz J J
instance BI.crossI (l m:ab) [LB l] [LB m]:BI (crossI l m) 385:=inferInstanceAs (BI (l.a*m.b-m.a*l.b) 385)
instance BI.meetX (l m:ab) [LB l] [LB m]:BI (meetX l m) 385:=inferInstanceAs (BI (l.b*m.c-m.b*l.c) 385)
instance BI.meetY (l m:ab) [LB l] [LB m]:BI (meetY l m) 385:=inferInstanceAs (BI (m.a*l.c-l.a*m.c) 385)
instance aE.imeet (l m:ab) [LB l] [LB m]:aE (c9 l m) 772:=by
 unfold c9;split
 .exact⟨BQ.mono (k:=1) ⟨oma,oma⟩,BQ.mono (k:=1) ⟨oma,oma⟩⟩
 .exact⟨inferInstanceAs (BQ ((meetX l m:Rat)/(crossI l m:Rat)) 772),inferInstanceAs (BQ ((meetY l m:Rat)/(crossI l m:Rat)) 772)⟩
def Ok(l m:ab):(((l.a:Rat)*(m.b:Rat)-(m.a:Rat)*(l.b:Rat)).num.sign=0)↔crossI l m=0:=by
 rw[l5,<-yb];exact eM
def MI{l m:ab}(h:crossI l m≠0):(l.a:Rat)*(m.b:Rat)-(m.a:Rat)*(l.b:Rat)≠0:=by
 rw[<-yb];exact fun e=>h (eM.1 e)
def Eg{l m:ab}[hl:LB l][hm:LB m]:PF GB prog 69 [eL l,eL m] (.tp [eP (c9 l m),vB (decide (crossI l m≠0))]):=by
 refine fn func69 J J ntmps69 J J (fun C=>?_);refine cl J (km (z:=l.a)) J<|cl J (km (z:=m.b)) J<|cl J jP J<|cl J (km (z:=m.a)) J<|cl J (km (z:=l.b)) J<|cl J jP J<|cl J ut J<|cl J qA J<|br J J J (fun hc26=>?_) (fun hc26=>?_)
 .
  have hcr:=(Ok l m).1 hc26;exact rz J (by unfold c9;rw[if_pos hcr,decide_eq_false (fun e=>e hcr)];show DV.tp [.ag [_, .sl [], .sl [],_, .sl [], .sl []],_]= .tp [eP ⟨0,0⟩,_];unfold eP dD;simp only[show(0:Rat).num=0 from J,show(0:Rat).den=1 from J,kY,me];rfl)
 .
  have hcr:crossI l m≠0:=fun e=>hc26 ((Ok l m).2 e);refine cl J (km (z:=l.b)) J<|cl J (km (z:=m.c)) J<|cl J jP J<|cl J (km (z:=m.b)) J<|cl J (km (z:=l.c)) J<|cl J jP J<|cl J ut J<|cl J (km (z:=m.a)) J<|cl J (km (z:=l.c)) J<|cl J jP J<|cl J (km (z:=l.a)) J<|cl J (km (z:=m.c)) J<|cl J jP J<|cl J ut J<|cl J (yC (MI hcr)) J<|cl J (yC (MI hcr)) J<|rz J (by unfold c9;rw[if_neg hcr,decide_eq_true hcr,NW,QQ,yb];rfl)
def gq(l m:ab):Int:=if(l.a-m.a).sign≠0 then(l.a-m.a).sign else if(l.b-m.b).sign≠0 then(l.b-m.b).sign else(l.c-m.c).sign
def vD(l m:ab):gq l m=0↔l=m:=by
 unfold gq;constructor
 .intro h
  split at h
  .contradiction
  .split at h
   .contradiction
   .rename_i h1 h2
    have a1:=jR.1 (Decidable.not_not.1 h1);have a2:=jR.1 (Decidable.not_not.1 h2);have a3:=jR.1 h;exact ab.ext'
 .rintro rfl
  simp
def w5{l m:ab}[hl:LB l][hm:LB m]:PF GB prog 96 [eL l,eL m] (vI (gq l m)):=by
 refine fn func96 J J ntmps96 J J (fun C=>?_);refine cl J (F9 (a:=l.a) (b:=m.a)) J<|br J J J (fun hc13=>?_) (fun hc13=>?_)
 .
  exact rz J (by show vI _=_;unfold gq;rw[if_pos hc13])
 .
  refine cl J (F9 (a:=l.b) (b:=m.b)) J<|br J J J (fun hc21=>?_) (fun hc21=>?_)
  .
   exact rz J (by show vI _=_;unfold gq;rw[if_neg hc13,if_pos hc21])
  .
   refine cl J (F9 (a:=l.c) (b:=m.c)) J<|rz J (by show vI _=_;unfold gq;rw[if_neg hc13,if_neg hc21])
theorem omk{p:Prop}(h:p:=by show vI _=vI _;unfold aa.half;generalize v.x.num.sign=sx at*;generalize v.y.num.sign=sy at*;congr 1;(repeat' split)<;>omega):p:=h
def Ox{v:aa}:PF GB prog 242 [eP v] (vI v.half):=by
 refine fn func242 J J ntmps242 J J (fun C=>?_);refine cl J (qA (q:=v.x)) J<|cl J (qA (q:=v.y)) J<|cs 13 J J J (fun hg13=>?_) (fun hg13=>?_)
 .
  refine br J J J (fun hc16=>?_) (fun hc16=>?_)
  .
   exact rz J omk
  .
   refine cs 19 J J J (fun hg19=>?_) (fun hg19=>?_)
   .
    exact rz J omk
   .
    refine cs 22 J J J (fun hg22=>?_) (fun hg22=>?_)
    .
     refine br J J J (fun hc26=>?_) (fun hc26=>?_)
     .
      exact rz J omk
     .
      exact rz J omk
    .
     exact rz J omk
 .
  refine cs 19 J J J (fun hg19=>?_) (fun hg19=>?_)
  .
   exact rz J omk
  .
   refine cs 22 J J J (fun hg22=>?_) (fun hg22=>?_)
   .
    refine br J J J (fun hc26=>?_) (fun hc26=>?_)
    .
     exact rz J omk
    .
     exact rz J omk
   .
    exact rz J omk
def Vg(z:Int): -1<=z.sign/\z.sign<=1:=by
 rcases kS z 0 with h|h|h
 .rw[fZ h];omega
 .rw[h];decide
 .rw[fJ h];omega
def aDo{u v:aa}{i j:Nat}[hu:aE u i][hv:aE v j](hi:i<=200000:=by decide)(hj:j<=200000:=by decide):PF GB prog 225 [eP u,eP v] (vI (cF u v)):=by
 refine fn func225 J J ntmps225 J J (fun C=>?_);refine cl J (Ox (v:=u)) J<|cl J (Ox (v:=v)) J<|br J J J (fun hc13=>?_) (fun hc13=>?_)
 .
  refine br J J J (fun hc16=>?_) (fun hc16=>?_)
  .
   exact rz J (by show vI _=vI _;unfold cF;rw[if_pos hc16])
  .
   exact rz J (by show vI _=vI _;unfold cF;rw[if_neg hc16,if_pos we])
 .
  refine cl J (Ak hi hj) J<|cl (hv:=by simp only[ae];exact(by have:=Vg (u.cross v).num;omega)) J qA J<|rz J (by show vI _=vI _;unfold cF;rw[if_neg we,if_neg we])
instance BQ.i1:BQ (((1:Int):Rat)) 2:=⟨oma,oma⟩
def eV(v:ai):DV:= .ag [.v (.bool (decide (v.lo.num<0))),dN v.lo.num.natAbs,dD v.lo.den, .v (.bool (decide (v.hi.num<0))),dN v.hi.num.natAbs,dD v.hi.den, .v (.bool v.nl), .v (.bool v.nh)]
def aIs:eV ai.all= .ag [.v (.bool false), .sl [], .sl [], .v (.bool false), .sl [], .sl [], .v (.bool true), .v (.bool true)]:=by
 unfold eV ai.all dD;simp only[show(0:Rat).num=0 from J,show(0:Rat).den=1 from J,kY,me];rfl
def LW:eQ 0= .ag [.v (.bool false), .sl [], .sl []]:=by
 unfold eQ dD;simp only[show(0:Rat).num=0 from J,show(0:Rat).den=1 from J,kY,me];rfl
def kr(v:ai):Rat:=if v.nl=true/\v.nh=true then 0 else if v.nl=true then v.hi-1 else if v.nh=true then v.lo+1 else(v.lo+v.hi)/2
def M3:PF GB prog 203 [] (eV ai.all):=by
 refine fn func203 J J ntmps203 J J (fun C=>?_);exact rz J (by rw[aIs];rfl)
def WI{v:ai}{i:Nat}[hl:BQ v.lo i][hh:BQ v.hi i](hi:i<=100000:=by decide):PF GB prog 148 [eV v] (eQ (kr v)):=by
 refine fn func148 J J ntmps148 J J (fun C=>?_);refine j' 6 J J J (fun hg6=>?_) (fun hg6=>?_)
 .
  refine bb J J J (fun hc3=>?_) (fun hc3=>?_)
  .
   exact rz J (by unfold kr;rw[if_pos ⟨hg6,hc3⟩,LW];rfl)
  .
   refine bb J J J (fun hc11=>?_) (fun hc11=>?_)
   .
    refine cl J (lh (n:=1)) J<|cl J (ut (a:=v.hi) (b:=((1:Int):Rat)) we oma) J<|rz J (by unfold kr;rw[if_neg (by simp[hc3]),if_pos hc11];rfl)
   .
    refine bb J J J (fun hc18=>?_) (fun hc18=>?_)
    .
     refine cl J (lh (n:=1)) J<|cl J (qf (a:=v.lo) (b:=((1:Int):Rat)) we oma) J<|rz J (by simp[hg6] at hc11)
    .
     refine cl J (GS (a:=v.lo) (b:=v.hi) we we) J<|rz J (by simp[hg6] at hc11)
 .
  refine bb J J J (fun hc11=>?_) (fun hc11=>?_)
  .
   refine cl J (lh (n:=1)) J<|cl J (ut (a:=v.hi) (b:=((1:Int):Rat)) we oma) J<|rz J (by simp[hg6] at hc11)
  .
   refine bb J J J (fun hc18=>?_) (fun hc18=>?_)
   .
    refine cl J (lh (n:=1)) J<|cl J (qf (a:=v.lo) (b:=((1:Int):Rat)) we oma) J<|rz J (by unfold kr;rw[if_neg (by simp[hg6]),if_neg (by simp[hg6]),if_pos hc18];rfl)
   .
    refine cl J (GS (a:=v.lo) (b:=v.hi) we we) J<|rz J (by unfold kr;rw[if_neg (by simp[hg6]),if_neg (by simp[hg6]),if_neg (by simp[hc18])];rfl)
theorem BQ.of_fracI{q:Rat}{n D:Int}{i:Nat}(hd:0<D.natAbs)(h:q*((D.natAbs:Nat):Rat)=(n:Rat))(hn:BI n i)(hD:BI D i):BQ q i:=BQ.of_frac hd h hn.h hD.h
theorem Dk{m:Int}{i j:Nat}(h:BI m i)(hij:i<=j:=by decide):BI m j:=⟨eY h.h (cY oma hij)⟩
theorem zW{l m:ab}[LB l][LB m](hn:l.Ne)(h:crossI l m≠0):BQ (fI l (c9 l m)) 1200:=by
 have e:=atW hn h;have hA:BI (crossI l m*(l.a*l.a+l.b*l.b)) _:=inferInstance;have hB:BI (meetX l m*l.b-meetY l m*l.a) _:=inferInstance;have hne:crossI l m*(l.a*l.a+l.b*l.b)≠0:=by
  intro q;rcases sM.1 q with q|q
  .exact h q
  .have h1:=Ay hn
   simp only[ab.dir,aa.dot] at h1;have h2:((l.a*l.a+l.b*l.b:Int):Rat)=((0:Int):Rat):=by rw[q]
   rw[mY,cS,cS] at h2;have h3:((0:Int):Rat)=0:=J;rw[h3] at h2;grind
 have hA':=Dk (j:=1200) hA;have hB':=Dk (j:=1200) hB;generalize crossI l m*(l.a*l.a+l.b*l.b)=D at*;generalize meetX l m*l.b-meetY l m*l.a=M at*;by_cases hD:0<D
 .refine BQ.of_fracI (n:=M) (D:=D) we ?_ hB' hA'
  rw[<-e];congr 1;have:((D.natAbs:Nat):Int)=D:=by omega
  rw[<-this];rfl
 .refine BQ.of_fracI (n:= -M) (D:=D) we ?_ (BI.neg M 1200 (h:=hB')) hA'
  rw[iX,<-e];have:((D.natAbs:Nat):Rat)= -(D:Rat):=by
   have h1:((D.natAbs:Nat):Int)= -D:=by omega
   rw[<-iX,<-h1];rfl
  rw[this];grind
def Nl(k:Rat):k.num.sign<=0↔ ¬0<k:=by rw[<-k9];omega
def ay6{w:ai}(h1: ¬w.nl=true)(h2: ¬w.nh=true)(h3:0<=bt w.lo w.hi):w.empty=true:=by
 unfold ai.empty;simp[h1,h2,h3]
def Z7{w:ai}(h:w.nl=true):w.empty=false:=by unfold ai.empty;simp[h]
def Z9{w:ai}(h:w.nh=true):w.empty=false:=by unfold ai.empty;simp[h]
def ZH{w:ai}(h: ¬0<=bt w.lo w.hi):w.empty=false:=by unfold ai.empty;simp[h]
def gl(l:ab):List ab->ai->ai×Bool
 |[],v=>(v,true)
 |m::t,v=>if m=l then gl l t v else if l.cutB v m=true then gl l t (l.cutV v m) else(l.cutV v m,false)
def xR{l:ab}: ∀{c:List ab} {v:ai},(gl l c v).2=(gk l c v).isSome
 |[],v=>rfl
 |m::t,v=>by
  rw[gl,JB];split
  .exact xR
  .split
   .exact xR
   .rfl
structure kz (l:ab) (c:List ab) (k:Nat) (v:ai):Prop where
 le:k<=c.length
 p:gk l (c.drop k) v=gk l c ai.all
 e:gl l (c.drop k) v=gl l c ai.all
 z:iF v
 lo:BQ v.lo 1200
 hi:BQ v.hi 1200
def kz.skip{l:ab}{c:List ab}{k:Nat}{v:ai}(h:kz l c k v)(hk:k<c.length)(e:c[k]=l):kz l c (k+1) v:=
 ⟨hk,by have:=h.p;rw[bU hk,JB,if_pos e] at this;exact this,by have:=h.e;rw[bU hk,gl,if_pos e] at this;exact this,h.z,h.lo,h.hi⟩
def kz.cut{l:ab}{c:List ab}{k:Nat}{v w:ai}(h:kz l c k v)(hk:k<c.length)(e:c[k]≠l)(hb:l.cutB v c[k]=true)(hw:l.cutV v c[k]=w)(z:iF w)(lo:BQ w.lo 1200)(hi:BQ w.hi 1200):kz l c (k+1) w:=
 ⟨hk,by have:=h.p;rw[bU hk,JB,if_neg e,if_pos hb,hw] at this;exact this,by have:=h.e;rw[bU hk,gl,if_neg e,if_pos hb,hw] at this;exact this,z,lo,hi⟩
def kz.no{l:ab}{c:List ab}{k:Nat}{v w:ai}(h:kz l c k v)(hk:k<c.length)(e:c[k]≠l)(hb:l.cutB v c[k]=false)(hw:l.cutV v c[k]=w):gl l c ai.all=(w,false):=by
 rw[<-h.e,bU hk,gl,if_neg e,if_neg (by rw[hb];decide),hw]
def kz.yes{l:ab}{c:List ab}{k:Nat}{v:ai}(h:kz l c k v)(hk:c.length<=k):gl l c ai.all=(v,true):=by
 rw[<-h.e,kU hk];rfl
def kz.all{l:ab}{c:List ab}:kz l c 0 ai.all:=⟨bS _,by rw[gJ],by rw[gJ],iF.all,BQ.mono (k:=1) ⟨oma,oma⟩,BQ.mono (k:=1) ⟨oma,oma⟩⟩
def O6{v:ai}{t:Rat}(h:v.nl=true\/0<bt t v.lo):(⟨t,v.hi,false,v.nh⟩:ai)=qn v t:=by unfold qn;rw[if_pos h]
def aEA{v:ai}{t:Rat}(h: ¬v.nl=true)(h2: ¬0<bt t v.lo):v=qn v t:=by unfold qn;rw[if_neg (fun e=>e.elim h h2)]
def RP{v:ai}{t:Rat}(h:v.nh=true\/bt t v.hi<0):(⟨v.lo,t,v.nl,false⟩:ai)=qz v t:=by unfold qz;rw[if_pos h]
def aDO{v:ai}{t:Rat}(h: ¬v.nh=true)(h2: ¬bt t v.hi<0):v=qz v t:=by unfold qz;rw[if_neg (fun e=>e.elim h h2)]
def pj(l m:ab)(v:ai):ai:=if 0<(m.dir.cross l.dir).num.sign then qn v (fI l (c9 l m)) else qz v (fI l (c9 l m))
def Kq{l m:ab}{v:ai}[LB l][LB m](hn:l.Ne)(hz:iF v)(hlo:BQ v.lo 1200)(hhi:BQ v.hi 1200)(h0:crossI l m≠0):l.cutV v m=pj l m v/\l.cutB v m=!(pj l m v).empty/\iF (pj l m v)/\BQ (pj l m v).lo 1200/\BQ (pj l m v).hi 1200:=by
 have hb:=zW (l:=l) (m:=m) hn h0;unfold pj;split
 .rename_i h
  obtain⟨_,h1,h2⟩:=aEN hn hz ((k9 _).1 h);refine⟨h1,h2,hz.lo' _,?_⟩;unfold qn;split
  .exact⟨hb,hhi⟩
  .exact⟨hlo,hhi⟩
 .rename_i h
  obtain⟨h1,h2⟩:=ZE hn hz h0 (fun e=>h ((k9 _).2 e));refine⟨h1,h2,hz.hi' _,?_⟩;unfold qz;split
  .exact⟨hlo,hb⟩
  .exact⟨hlo,hhi⟩
theorem CK{l:ab}[LB l](hn:l.Ne): ∀{c:List ab} {v:ai},(∀m∈c,LB m)->iF v->BQ v.lo 1200->BQ v.hi 1200->BQ (gl l c v).1.lo 1200/\BQ (gl l c v).1.hi 1200
 |[],v,_,_,h1,h2=>⟨h1,h2⟩
 |m::t,v,hc,hz,h1,h2=>by
  haveI:=hc m aQ;have hw:iF (l.cutV v m)/\BQ (l.cutV v m).lo 1200/\BQ (l.cutV v m).hi 1200:=by
   by_cases h0:crossI l m=0
   .rw[(Cp (v:=v) h0).1];exact⟨hz,h1,h2⟩
   .obtain⟨u1,_,u3,u4,u5⟩:=Kq (v:=v) hn hz h1 h2 h0
    rw[u1];exact⟨u3,u4,u5⟩
  have hc':=fun m hm=>hc m (aX _ hm);rw[gl];split
  .exact CK hn hc' hz h1 h2
  .split
   .exact CK hn hc' hw.1 hw.2.1 hw.2.2
   .exact hw.2
theorem omw{p:Prop}(h:p:=by dsimp only;exact⟨hinv,we⟩):p:=h
theorem okX{p:Prop}(h:p:=by rw[hm];rfl):p:=h
def No{c:List ab}{i:Nat}(hc: ∀m∈c,LB m)(hok: ∀m∈c,m.ok)(hn:c.length<=1000)(hi:i<c.length):PF GB prog 145 [.sl (c.map eL),vI (i:Nat)] (.tp [eV (gl (c[i]'hi) c ai.all).1,vB (gl (c[i]'hi) c ai.all).2]):=by
 have hcl:=wY c;obtain⟨l,hl⟩: ∃l,l=c[i]:=⟨_,rfl⟩;rw[<-hl];haveI hlb:LB l:=hl▸hc _ (bN hi);have hlo:l.ok:=hl▸hok _ (bN hi);refine fn func145 J J ntmps145 J J (fun C=>?_);refine ix (fu:=⟨1⟩) _ J (xO hi) J<|ah 16 (.d (eL l)) J (by rw[hl];rfl)<|gx J<|cl (fu:=⟨9⟩) J M3 J<|ah 19 (.d (vI (c.length:Nat))) J (by rw[hcl];rfl)<|gx J<|lp (X:=ai×Nat) (fun⟨v,k⟩=>[(20, .d (vI (k:Nat))),(19, .d (vI (c.length:Nat))),(18, .d (.sl (c.map eL))),(1, .d (vI (i:Nat))),(6, .ov 6 0),(7, .ov 7 0),(4, .ov 4 0)]) (fun⟨v,k⟩=>[(7,some (.o 85 [.d ((.v (.bool (decide (v.lo.num<0))))), .d (dN v.lo.num.natAbs), .d (dD v.lo.den), .d ((.v (.bool (decide (v.hi.num<0))))), .d (dN v.hi.num.natAbs), .d (dD v.hi.den), .d ((.v (.bool v.nl))), .d ((.v (.bool v.nh)))] true)),(6,some (.o 83 [.d ((.v (.bool (decide (l.a<0))))), .d (dN l.a.natAbs), .d ((.v (.bool (decide (l.b<0))))), .d (dN l.b.natAbs), .d ((.v (.bool (decide (l.c<0))))), .d (dN l.c.natAbs)] true)),(4,some (.o 85 [.ff, .nl, .nl, .ff, .nl, .nl, .ff, .ff] true))]) (fun⟨v,k⟩=>kz l c k v) (fun⟨v,k⟩=>c.length-k) ⟨ai.all,0⟩ J kz.all (fun _=>J) (fun⟨v,k⟩ hk=>?_)
 try dsimp only at hk⊢
 have hS:=hk;refine br J J J (fun hc21=>?_) (fun hc21=>?_)
 .
  have hk:k<c.length:=by omega
  obtain⟨m,hm⟩: ∃m,m=c[k]:=⟨_,rfl⟩;haveI hmb:LB m:=hm▸hc _ (bN hk);have hmo:m.ok:=hm▸hok _ (bN hk);refine ix (fu:=⟨1⟩) _ J (xO hk) J<|ah 24 (.d (eL m)) J okX<|gx J<|cs 28 J J J (fun hg28=>?_) (fun hg28=>?_)
  .
   have hinv:kz l c (k+1) v:=hS.skip hk (by rw[hl];congr 1;omega);exact at_ ⟨v,k+1⟩ omw
  .
   refine cl J (w5 (l:=l) (m:=m)) J<|br J J J (fun hc33=>?_) (fun hc33=>?_)
   .
    have hinv:kz l c (k+1) v:=hS.skip hk (by rw[<-hm,(vD l m).1 hc33]);exact at_ ⟨v,k+1⟩ omw
   .
    have hne:c[k]≠l:=fun e=>hc33 ((vD l m).2 (by rw[hm,e]));refine cl (fu:=⟨13⟩) J (Eg (l:=l) (m:=m)) J<|ah 41 (.d (.v (.bool (decide (crossI l m=0))))) J omc<|gx J<|bd J J J (fun hc41=>?_) (fun hc41=>?_)
    .
     refine cl J (KK hlo.ne) J<|cl J (AE (l:=m) (p:=l.base)) J<|br J J J (fun hc46=>?_) (fun hc46=>?_)
     .
      have hno:=hS.no (w:=v) hk hne (by have:=(Cp (v:=v) hc41).2;rw[<-hm];cases hb:l.cutB v m with|false=>rfl|true=>exact absurd (this.1 hb) ((Nl _).1 hc46)) (by rw[<-hm];exact(Cp (v:=v) hc41).1);exact rz J (by rw[hno];rfl)
     .
      have hinv:kz l c (k+1) v:=by have:=Cp (v:=v) hc41;exact hS.cut hk hne (by rw[<-hm];exact this.2.2 (by have:=mt (Nl (m.value l.base)).2 hc46;exact Decidable.not_not.1 this)) (by rw[<-hm];exact this.1) hS.z hS.lo hS.hi
      exact at_ ⟨v,k+1⟩ omw
    .
     obtain⟨u1,u2,u3,u4,u5⟩:=Kq (v:=v) hlo.ne hS.z hS.lo hS.hi hc41;haveI htb:=zW hlo.ne hc41;haveI hvl:=hS.lo;haveI hvh:=hS.hi;refine cl (fu:=⟨0⟩) J (AB (l:=l) (p:=c9 l m) hlo.ne) J<|?_;obtain⟨t,ht⟩: ∃t,t=fI l (c9 l m):=⟨_,rfl⟩;refine ah 50 (.d (eQ t)) J (by rw[ht]) ?_;rw[<-ht] at htb;refine gx (fu:=⟨5⟩) J<|mg (X:=ai) (fun w=>[(20, .d (vI (k:Nat))),(19, .d (vI (c.length:Nat))),(18, .d (.sl (c.map eL))),(1, .d (vI (i:Nat))),(6, .ov 6 0),(7, .ov 7 0),(4, .ov 4 0)]) (fun w=>[(7,some (.o 85 [.d ((.v (.bool (decide (w.lo.num<0))))), .d (dN w.lo.num.natAbs), .d (dD w.lo.den), .d ((.v (.bool (decide (w.hi.num<0))))), .d (dN w.hi.num.natAbs), .d (dD w.hi.den), .d ((.v (.bool w.nl))), .d ((.v (.bool w.nh)))] true)),(6,some (.o 83 [.d ((.v (.bool (decide (l.a<0))))), .d (dN l.a.natAbs), .d ((.v (.bool (decide (l.b<0))))), .d (dN l.b.natAbs), .d ((.v (.bool (decide (l.c<0))))), .d (dN l.c.natAbs)] true)),(4,some (.o 85 [.ff, .nl, .nl, .ff, .nl, .nl, .ff, .ff] true))]) (fun w=>w=pj l m v) [20,19,18,1,6,7,4] [7,6,4] rfl ?_ (fun _=>J) (fun w hw=>?_)
     .
      refine gx J<|cl J (vQ (l:=m)) J<|cl J (vQ (l:=l)) J<|cl J (Ak (p:=m.dir) (q:=l.dir)) J<|cl J (qA (q:=m.dir.cross l.dir)) J<|br J J J (fun hc57=>?_) (fun hc57=>?_)
      .
       refine j' 60 J J J (fun hg60=>?_) (fun hg60=>?_)
       .
        refine DU 7 J J J<|at_ ⟨t,v.hi,false,v.nh⟩ (by unfold pj;rw[if_pos hc57,<-ht];exact O6 (.inl hg60))
       .
        refine cl J (lg (a:=t) (b:=v.lo)) J<|br J J J (fun hc66=>?_) (fun hc66=>?_)
        .
         refine DU 7 J J J<|at_ ⟨t,v.hi,false,v.nh⟩ (by unfold pj;rw[if_pos hc57,<-ht];exact O6 (.inr hc66))
        .
         exact at_ v (by unfold pj;rw[if_pos hc57,<-ht];exact aEA (by simp[hg60]) hc66)
      .
       refine j' 72 J J J (fun hg72=>?_) (fun hg72=>?_)
       .
        refine DU 7 J J J<|at_ ⟨v.lo,t,v.nl,false⟩ (by unfold pj;rw[if_neg hc57,<-ht];exact RP (.inl hg72))
       .
        refine cl J (lg (a:=t) (b:=v.hi)) J<|br J J J (fun hc78=>?_) (fun hc78=>?_)
        .
         refine DU 7 J J J<|at_ ⟨v.lo,t,v.nl,false⟩ (by unfold pj;rw[if_neg hc57,<-ht];exact RP (.inr hc78))
        .
         exact at_ v (by unfold pj;rw[if_neg hc57,<-ht];exact aDO (by simp[hg72]) hc78)
     .
      rw[<-hw] at u1 u2 u3 u4 u5;haveI:=u4;haveI:=u5;refine j' 85 J J J (fun hg85=>?_) (fun hg85=>?_)
      .
       refine j' 90 J J J (fun hg90=>?_) (fun hg90=>?_)
       .
        refine cl J (lg (a:=w.lo) (b:=w.hi)) J<|br J J J (fun hc97=>?_) (fun hc97=>?_)
        .
         have hno:=hS.no (w:=w) hk hne (by rw[<-hm,u2,ay6 (by simpa using hg85) (by simpa using hg90) hc97];rfl) (by rw[<-hm,u1]);exact rz J (by rw[hno];rfl)
        .
         have hinv:kz l c (k+1) w:=hS.cut hk hne (by rw[<-hm,u2,ZH hc97];rfl) (by rw[<-hm,u1]) u3 u4 u5;exact at_ ⟨w,k+1⟩ omw
       .
        have hinv:kz l c (k+1) w:=hS.cut hk hne (by rw[<-hm,u2,Z9 (by simpa using hg90)];rfl) (by rw[<-hm,u1]) u3 u4 u5;exact at_ ⟨w,k+1⟩ omw
      .
       have hinv:kz l c (k+1) w:=hS.cut hk hne (by rw[<-hm,u2,Z7 (by simpa using hg85)];rfl) (by rw[<-hm,u1]) u3 u4 u5;exact at_ ⟨w,k+1⟩ omw
 .
  exact rz J (by rw[hS.yes we];rfl)
def iq(l:ab):DV:= .ag [vI (cC (l.a:Rat)),vI (cD (l.a:Rat)),cE (l.a:Rat),vI (cC (l.b:Rat)),vI (cD (l.b:Rat)),cE (l.b:Rat),vI (cC (l.c:Rat)),vI (cD (l.c:Rat)),cE (l.c:Rat)]
def eZ(p:aa):DV:= .ag [vI (cC p.x),vI (cD p.x),cE p.x,vI (cC p.y),vI (cD p.y),cE p.y]
def eW(v:ai):DV:= .ag [vI (cC v.lo),vI (cD v.lo),cE v.lo,vI (cC v.hi),vI (cD v.hi),cE v.hi, .v (.bool v.nl), .v (.bool v.nh)]
def Et{G:Gh}{t:List DV}{vs:List Value}(h:IsLs G (vI 0::vI 0:: .v (.pointer none)::t) vs):IsLs G (vI (cC 0)::vI (cD 0)::cE 0::t) vs:=by
 obtain⟨y1,l1,rfl,k1,g1⟩:=bO.1 h;obtain⟨y2,l2,rfl,k2,g2⟩:=bO.1 g1;obtain⟨y3,l3,rfl,k3,g3⟩:=bO.1 g2;have e:decide (kB 0)=false:=decide_eq_false fun h=>J6 h J;exact .cons k1 (.cons k2 (.cons (xh.2 (.inl ⟨e,bE.1 k3⟩)) g3))
def IG{G:Gh}(a:List DV){t:List DV}{vs:List Value}(h:IsLs G (a++vI 0::vI 0:: .v (.pointer none)::t) vs):IsLs G (a++vI (cC 0)::vI (cD 0)::cE 0::t) vs:=by
 obtain⟨x,y,rfl,h1,h2⟩:=h.unapp;exact h1.app (Et h2)
def Z'(G:Gh)(y:Value)(k:Is G (.ag [vI 0,vI 0, .v (.pointer none),vI 0,vI 0, .v (.pointer none), .v (.bool true), .v (.bool true)]) y):Is G (eW ai.all) y:=by
 obtain⟨l,rfl,g⟩:=fC.1 k;exact fC.2 ⟨l,J,Et (IG [vI 0,vI 0, .v (.pointer none)] g)⟩
def qh:List Int->Int
 |[]=>0
 |a::t=>if a≠0 then a else qh t
theorem aE.nor(l:ab)[LB l]:aE l.nor 97:=⟨inferInstanceAs (BQ (l.a:Rat) 97),inferInstanceAs (BQ (l.b:Rat) 97)⟩
attribute [instance] aE.nor
instance aE.scale (p:aa) (c:Rat) (i k:Nat) [aE p i] [BQ c k]:aE (p.scale c) (i+k):=⟨inferInstanceAs (BQ (p.x*c) _),inferInstanceAs (BQ (p.y*c) _)⟩
instance aE.add (p q:aa) (i j:Nat) [aE p i] [aE q j]:aE (p.add q) (i+j+1):=⟨inferInstanceAs (BQ (p.x+q.x) _),inferInstanceAs (BQ (p.y+q.y) _)⟩
instance LB.revA (l:ab) [h:LB l]:LB l.rev:=⟨⟨by rw[show l.rev.a= -l.a from J,iJ];exact h.bl.a,by rw[show l.rev.b= -l.b from J,iJ];exact h.bl.b,by rw[show l.rev.c= -l.c from J,iJ];exact h.bl.c⟩⟩
def VO:PF GB prog 258 [] (eW ai.all):=by
 refine fn func258 J J ntmps258 J J (fun C=>?_);exact jE J Z'
def Ac{l:ab}:PF GB prog 180 [iq l] (eZ l.nor):=by
 refine fn func180 J J ntmps180 J J (fun C=>?_);exact rz J J
def xY{l:ab}[hl:LB l]:PF GB prog 177 [iq l] (eZ l.dir):=by
 refine fn func177 J J ntmps177 J J (fun C=>?_);refine cl J (r5 (q:=(l.a:Rat))) J<|rz J J
def FB{p q:aa}{i j:Nat}[hp:aE p i][hq:aE q j](hi:i<=40000000:=by decide)(hj:j<=40000000:=by decide):PF GB prog 181 [eZ p,eZ q] (eF (p.dot q)):=by
 refine fn func181 J J ntmps181 J J (fun C=>?_);refine cl J (iz (p:=p.x) (q:=q.x) we we) J<|cl J (iz (p:=p.y) (q:=q.y) we we) J<|cl J (ll (p:=p.x*q.x) (q:=p.y*q.y) we we) J<|rz J J
def Cr{p q:aa}{i j:Nat}[hp:aE p i][hq:aE q j](hi:i<=40000000:=by decide)(hj:j<=40000000:=by decide):PF GB prog 129 [eZ p,eZ q] (eF (p.cross q)):=by
 refine fn func129 J J ntmps129 J J (fun C=>?_);refine cl J (iz (p:=p.x) (q:=q.y) we we) J<|cl J (iz (p:=p.y) (q:=q.x) we we) J<|cl J (vj (p:=p.x*q.y) (q:=p.y*q.x) we we) J<|rz J J
def x5{p:aa}{c:Rat}{i j:Nat}[hp:aE p i][hc:BQ c j](hi:i<=40000000:=by decide)(hj:j<=40000000:=by decide):PF GB prog 53 [eZ p,eF c] (eZ (p.scale c)):=by
 refine fn func53 J J ntmps53 J J (fun C=>?_);refine cl J (iz (p:=p.x) (q:=c) we we) J<|cl J (iz (p:=p.y) (q:=c) we we) J<|rz J J
def AD{p q:aa}{i j:Nat}[hp:aE p i][hq:aE q j](hi:i<=40000000:=by decide)(hj:j<=40000000:=by decide):PF GB prog 74 [eZ p,eZ q] (eZ (p.add q)):=by
 refine fn func74 J J ntmps74 J J (fun C=>?_);refine cl J (ll we we) J<|cl J (ll we we) J<|rz J J
def L9{l:ab}[hl:LB l]:PF GB prog 262 [iq l] (eZ l.base):=by
 refine fn func262 J J ntmps262 J J (fun C=>?_);refine cl J Ac J<|cl J (r5 (q:=(l.c:Rat))) J<|cl J (FB (p:=l.nor) (q:=l.nor)) J<|cl J (ya (p:= -(l.c:Rat)) (q:=l.nor.dot l.nor)) J<|cl J (x5 (p:=l.nor)) J<|rz J J
def QX{l:ab}{p:aa}{i:Nat}[hl:LB l][hp:aE p i](hi:i<=10000000:=by decide):PF GB prog 219 [iq l,eZ p] (eF (l.value p)):=by
 refine fn func219 J J ntmps219 J J (fun C=>?_);refine cl J (Ac (l:=l)) J<|cl J (FB (p:=l.nor) (q:=p) we we) J<|cl J (ll (p:=l.nor.dot p) (q:=(l.c:Rat)) we we) J<|rz J J
def Cd{l:ab}{p:aa}{i:Nat}[hl:LB l][hp:aE p i](hi:i<=10000000:=by decide):PF GB prog 176 [iq l,eZ p] (vI (l.value p).num.sign):=by
 refine fn func176 J J ntmps176 J J (fun C=>?_);refine cl J (QX (l:=l) (p:=p) hi) J<|cl J (oP (q:=l.value p) we) J<|rz J J
def aK2{l:ab}{t:Rat}{i:Nat}[hl:LB l][ht:BQ t i](hi:i<=10000000:=by decide):PF GB prog 259 [iq l,eF t] (eZ (l.at t)):=by
 refine fn func259 J J ntmps259 J J (fun C=>?_);refine cl J (L9 (l:=l)) J<|cl J (xY (l:=l)) J<|cl J (x5 (p:=l.dir) (c:=t) we we) J<|cl J (AD (p:=l.base) (q:=l.dir.scale t) we we) J<|rz J J
theorem okG{p:Prop}(h:p:=by unfold ai.empty;simp_all [vB,jH]):p:=h
def Xe{v:ai}{i j:Nat}[h1:BQ v.lo i][h2:BQ v.hi j](hi:i<=40000000:=by decide)(hj:j<=40000000:=by decide):PF GB prog 269 [eW v] (vB v.empty):=by
 refine fn func269 J J ntmps269 J J (fun C=>?_);refine j' 6 J J J (fun hg6=>?_) (fun hg6=>?_)
 .
  refine j' 11 J J J (fun hg11=>?_) (fun hg11=>?_)
  .
   refine cl J (w8 (p:=v.lo) (q:=v.hi) we we) J<|rz J okG
  .
   exact rz J okG
 .
  exact rz J okG
instance ai.meet_lo (v w:ai) (i j:Nat) [h1:BQ v.lo i] [h3:BQ w.lo j]:BQ (v.meet w).lo (i+j):=by
 have a:=h1.mono (pQ i j);have b:=h3.mono (Nat.le_add_left j i);unfold ai.meet;dsimp only;(repeat' split)<;>assumption
instance ai.meet_hi (v w:ai) (i j:Nat) [h1:BQ v.hi i] [h3:BQ w.hi j]:BQ (v.meet w).hi (i+j):=by
 have a:=h1.mono (pQ i j);have b:=h3.mono (Nat.le_add_left j i);unfold ai.meet;dsimp only;(repeat' split)<;>assumption
def Qf{v w:ai}{i j:Nat}[h1:BQ v.lo i][h2:BQ v.hi i][h3:BQ w.lo j][h4:BQ w.hi j](hi:i<=10000000:=by decide)(hj:j<=10000000:=by decide):PF GB prog 263 [eW v,eW w] (.tp [eW (v.meet w),vB (!(v.meet w).empty)]):=by
 refine fn (fu:=⟨16⟩) func263 J J ntmps263 J J (fun C=>?_);refine mg (fu:=⟨1⟩) (X:=Unit) (fun _=>[(6, .ov 6 0)]) (fun _=>[(6,some (.o 271 [.d (vI (cC (v.meet w).lo)), .d (vI (cD (v.meet w).lo)), .d (cE (v.meet w).lo), .d (vI (cC v.hi)), .d (vI (cD v.hi)), .d (cE v.hi), .d (.v (.bool (v.nl&&w.nl))), .d (.v (.bool (v.nh)))] true))]) (fun _=>True) [6] [6] rfl ?_ (fun _=>J) (fun _ _=>?_)
 .
  refine gx J<|bb (v1:=fun hc8=>by simp only[ae];kernel_rfl) J J J (fun hc8=>?_) (fun hc8=>?_)
  .
   have em:(v.meet w).lo=w.lo:=by unfold ai.meet;simp_all
   have eb:(v.nl&&w.nl)=w.nl:=by simp_all
   exact at_ () trivial (hO:=⟨by rw[em,eb]<;>rfl,by repeat (first|exact trivial|refine And.intro J ?_)⟩)
  .
   refine bb J J J (fun hc17=>?_) (fun hc17=>?_)
   .
    refine cl J (Ww (p:=v.lo) (q:=w.lo) we we) J<|?_;have em:(v.meet w).lo=(if v.lo<w.lo then w.lo else v.lo):=by unfold ai.meet;simp_all
    have eb:(v.nl&&w.nl)=v.nl:=by simp_all
    exact at_ () trivial (hO:=⟨by rw[em,eb]<;>rfl,by repeat (first|exact trivial|refine And.intro J ?_)⟩)
   .
    have em:(v.meet w).lo=v.lo:=by unfold ai.meet;simp_all
    have eb:(v.nl&&w.nl)=v.nl:=by simp_all
    exact at_ () trivial (hO:=⟨by rw[em,eb]<;>rfl,by repeat (first|exact trivial|refine And.intro J ?_)⟩)
 .
  refine mg (X:=Unit) (fun _=>[(6, .ov 6 0)]) (fun _=>[(6,some (.o 271 [.d (vI (cC (v.meet w).lo)), .d (vI (cD (v.meet w).lo)), .d (cE (v.meet w).lo), .d (vI (cC (v.meet w).hi)), .d (vI (cD (v.meet w).hi)), .d (cE (v.meet w).hi), .d (.v (.bool (v.nl&&w.nl))), .d (.v (.bool (v.nh&&w.nh)))] true))]) (fun _=>True) [6] [6] rfl ?_ (fun _=>J) (fun _ _=>?_)
  .
   refine gx J<|bb (v1:=fun hc27=>by simp only[ae];kernel_rfl) J J J (fun hc27=>?_) (fun hc27=>?_)
   .
    have em:(v.meet w).hi=w.hi:=by unfold ai.meet;simp_all
    have eb:(v.nh&&w.nh)=w.nh:=by simp_all
    exact at_ () trivial (hO:=⟨by rw[em,eb]<;>rfl,by repeat (first|exact trivial|refine And.intro J ?_)⟩)
   .
    refine bb J J J (fun hc36=>?_) (fun hc36=>?_)
    .
     refine cl J (X8 (p:=v.hi) (q:=w.hi) we we) J<|?_;have em:(v.meet w).hi=(if w.hi<v.hi then w.hi else v.hi):=by unfold ai.meet;simp_all
     have eb:(v.nh&&w.nh)=v.nh:=by simp_all
     exact at_ () trivial (hO:=⟨by rw[em,eb]<;>rfl,by repeat (first|exact trivial|refine And.intro J ?_)⟩)
    .
     have em:(v.meet w).hi=v.hi:=by unfold ai.meet;simp_all
     have eb:(v.nh&&w.nh)=v.nh:=by simp_all
     exact at_ () trivial (hO:=⟨by rw[em,eb]<;>rfl,by repeat (first|exact trivial|refine And.intro J ?_)⟩)
  .
   refine cl J (Xe (v:=v.meet w) (i:=i+j) (j:=i+j) we we) J<|rz J J
theorem BQ.z1:BQ (0:Rat) 1:=⟨oma,oma⟩
def Ym{v:ai}{t:Rat}{i j:Nat}[h1:BQ v.lo i][h2:BQ v.hi i][h3:BQ t j](hi:i<=10000000:=by decide)(hj:j<=9999999:=by decide):PF GB prog 263 [eW v, .ag [vI (cC t),vI (cD t),cE t,vI 0,vI 0, .v (.pointer none), .v (.bool false), .v (.bool true)]] (.tp [eW (v.meet ⟨t,0,false,true⟩),vB (!(v.meet ⟨t,0,false,true⟩).empty)]):=
 (Qf (v:=v) (w:=⟨t,0,false,true⟩) (j:=j+1) (h3:=h3.mono we) (h4:=BQ.z1.mono we) hi we).ofI fun G vs hv=>F' (fun y hy=>by
  obtain⟨l,rfl,g⟩:=fC.1 hy;exact fC.2 ⟨l,J,IG [_,_,_] g⟩) hv
def azP{v:ai}{t:Rat}{i j:Nat}[h1:BQ v.lo i][h2:BQ v.hi i][h3:BQ t j](hi:i<=10000000:=by decide)(hj:j<=9999999:=by decide):PF GB prog 263 [eW v, .ag [vI 0,vI 0, .v (.pointer none),vI (cC t),vI (cD t),cE t, .v (.bool true), .v (.bool false)]] (.tp [eW (v.meet ⟨0,t,true,false⟩),vB (!(v.meet ⟨0,t,true,false⟩).empty)]):=
 (Qf (v:=v) (w:=⟨0,t,true,false⟩) (j:=j+1) (h4:=h3.mono we) (h3:=BQ.z1.mono we) hi we).ofI fun G vs hv=>F' (fun y hy=>by
  obtain⟨l,rfl,g⟩:=fC.1 hy;exact fC.2 ⟨l,J,Et g⟩) hv
instance BQ.cutK (l m:ab) [LB l] [LB m]:BQ (l.cutK m) 400:=BQ.mono (inferInstance:BQ (m.nor.dot l.dir) _)
instance BQ.cutC (l m:ab) [LB l] [LB m]:BQ (l.cutC m) 2500:=BQ.mono (inferInstance:BQ (m.value l.base) _)
def Ud{l m:ab}{v:ai}{i:Nat}[hl:LB l][hm:LB m][h1:BQ v.lo i][h2:BQ v.hi i](hi:i<=10000000:=by decide):PF GB prog 254 [iq l,eW v,iq m] (.tp [eW (l.cutV v m),vB (l.cutB v m)]):=by
 refine fn func254 J J ntmps254 J J (fun C=>?_);refine cl J (Ac (l:=m)) J<|cl J (xY (l:=l)) J<|cl J (FB (p:=m.nor) (q:=l.dir)) J<|cl J (L9 (l:=l)) J<|cl J (QX (l:=m) (p:=l.base)) J<|cl J (oP (q:=l.cutK m)) J<|br J J J (fun hc21=>?_) (fun hc21=>?_)
 .
  refine cl J (oP (q:=l.cutC m)) J<|rz J (by unfold ab.cutV ab.cutB;rw[if_pos hc21,if_pos hc21];rfl)
 .
  refine br J J J (fun hc27=>?_) (fun hc27=>?_)
  .
   refine cl J (ya (p:=l.cutC m) (q:=l.cutK m)) J<|cl J (r5 (q:=l.cutC m/l.cutK m)) J<|cl J (Ym (v:=v) (t:= -(l.cutC m/l.cutK m)) hi) J<|rz J (by unfold ab.cutB ab.cutV;rw[if_neg hc21,if_neg hc21,if_pos hc27];rfl)
  .
   refine cl J (ya (p:=l.cutC m) (q:=l.cutK m)) J<|cl J (r5 (q:=l.cutC m/l.cutK m)) J<|cl J (azP (v:=v) (t:= -(l.cutC m/l.cutK m)) hi) J<|rz J (by unfold ab.cutB ab.cutV;rw[if_neg hc21,if_neg hc21,if_neg hc27];rfl)
theorem omz{p:Prop}(h:p:=by unfold ai.sample;simp_all [jH]<;>rfl):p:=h
def aBt{v:ai}{i:Nat}[h1:BQ v.lo i][h2:BQ v.hi i](hi:i<=10000000:=by decide):PF GB prog 260 [eW v] (eF v.sample):=by
 refine fn func260 J J ntmps260 J J (fun C=>?_);refine j' 6 J J J (fun hg6=>?_) (fun hg6=>?_)
 .
  refine bb J J J (fun hc3=>?_) (fun hc3=>?_)
  .
   exact jE J (by unfold ai.sample;rw[hg6,hc3];exact yP)
  .
   refine bb J J J (fun hc11=>?_) (fun hc11=>?_)
   .
    refine cl J (ti (m:=1)) J<|cl J (vj (p:=v.hi) (q:=((1:Int):Rat)) we oma) J<|rz J omz
   .
    refine bb J J J (fun hc18=>?_) (fun hc18=>?_)
    .
     refine cl J (ti (m:=1)) J<|cl J (ll (p:=v.lo) (q:=((1:Int):Rat)) we oma) J<|rz J omz
    .
     refine cl J (ll (p:=v.lo) (q:=v.hi) we we) J<|cl J (GU (q:=v.lo+v.hi) we) J<|rz J omz
 .
  refine bb J J J (fun hc11=>?_) (fun hc11=>?_)
  .
   refine cl J (ti (m:=1)) J<|cl J (vj (p:=v.hi) (q:=((1:Int):Rat)) we oma) J<|rz J omz
  .
   refine bb J J J (fun hc18=>?_) (fun hc18=>?_)
   .
    refine cl J (ti (m:=1)) J<|cl J (ll (p:=v.lo) (q:=((1:Int):Rat)) we oma) J<|rz J omz
   .
    refine cl J (ll (p:=v.lo) (q:=v.hi) we we) J<|cl J (GU (q:=v.lo+v.hi) we) J<|rz J omz
instance BQ.i1':BQ (1:Rat) 2:=⟨oma,oma⟩
instance BQ.i2':BQ (2:Rat) 2:=⟨oma,oma⟩
theorem N6{v:ai}{i:Nat}[BQ v.lo i][BQ v.hi i]:BQ (kr v) (i+i+5):=by
 unfold kr;split
 .exact BQ.mono (k:=1) ⟨oma,oma⟩ we
 .split
  .exact BQ.mono (inferInstance:BQ (v.hi-1) _) we
  .split
   .exact BQ.mono (inferInstance:BQ (v.lo+1) _) we
   .exact BQ.mono (inferInstance:BQ ((v.lo+v.hi)/2) _) we
instance aE.at (l:ab) (t:Rat) (k:Nat) [LB l] [BQ t k]:aE (l.at t) (900+(k+97)+1):=by
 rw[<-uT];infer_instance
def ZI{q:Rat}(h: ¬q.num.sign=0):q≠0:=fun e=>h ((l5 q).2 e)
def eG(d:aa):aa:=⟨-d.y,d.x⟩
instance aE.turn (d:aa) (k:Nat) [aE d k]:aE (eG d) k:=⟨inferInstanceAs (BQ (-d.y) k),inferInstanceAs (BQ d.x k)⟩
def um(p v:aa)(m:ab):Rat:= -(m.value p/(m.value (av p v ((1:Int):Rat))-m.value p))
def pB(p v:aa)(m:ab)(s:Rat):Rat:=if(m.value (av p v ((1:Int):Rat))-m.value p).num.sign=0 then s else if(m.value p).num.sign=0 then s else if 0<(um p v m).num.sign then(if bt (um p v m/2) s<0 then um p v m/2 else s) else s
def nO(p v:aa):List ab->Rat->Rat
 |[],s=>s
 |m::t,s=>nO p v t (pB p v m s)
def zp(c:List ab)(p v:aa):aa:=av p v (nO p v c ((1:Int):Rat))
def Cw{c:List ab}{p v:aa}{k:Nat}{s s' r:Rat}{m:ab}(h:nO p v (c.drop k) s=r)(hk:k<c.length)(hm:m=c[k])(e:pB p v m s=s'):nO p v (c.drop (k+1)) s'=r:=by
 rw[bU hk] at h;rw[<-h,nO,<-hm,e]
def aIT{c:List ab}{p v:aa}(hc: ∀m∈c,LB m)(hn:c.length<=1000)(hp:aE p 4500)(hv:aE v 97):PF GB prog 147 [.sl (c.map eL),eP p,eP v] (eP (zp c p v)):=by
 have hcl:=wY c;refine fn func147 J J ntmps147 J J (fun C=>?_);refine cl (fu:=⟨9⟩) J (lh (n:=1)) J<|ah 14 (.d (vI (c.length:Nat))) J (by rw[hcl];rfl)<|gx J<|lp (X:=Rat×Nat) (fun⟨s,k⟩=>[(15, .d (vI (k:Nat))),(14, .d (vI (c.length:Nat))),(13, .d (.sl (c.map eL))),(4, .ov 4 0),(5, .ov 5 0),(7, .ov 7 0),(6, .ov 6 0)]) (fun⟨s,k⟩=>[(7,some (.o 57 [.d ((.v (.bool (decide (s.num<0))))), .d (dN s.num.natAbs), .d (dD s.den)] true)),(6,some (.o 72 [.ff, .nl, .nl, .ff, .nl, .nl] true)),(5,some (.o 72 [.d ((.v (.bool (decide (v.x.num<0))))), .d (dN v.x.num.natAbs), .d (dD v.x.den), .d ((.v (.bool (decide (v.y.num<0))))), .d (dN v.y.num.natAbs), .d (dD v.y.den)] true)),(4,some (.o 72 [.d ((.v (.bool (decide (p.x.num<0))))), .d (dN p.x.num.natAbs), .d (dD p.x.den), .d ((.v (.bool (decide (p.y.num<0))))), .d (dN p.y.num.natAbs), .d (dD p.y.den)] true))]) (fun⟨s,k⟩=>k<=c.length/\BQ s 60000/\nO p v (c.drop k) s=nO p v c ((1:Int):Rat)) (fun⟨s,k⟩=>c.length-k) ⟨((1:Int):Rat),0⟩ J ⟨bS _,BQ.i1.mono oma,J⟩ (fun _=>J) (fun⟨s,k⟩ hk=>?_)
 try dsimp only at hk⊢
 obtain⟨hle,hsb,hns⟩:=hk;refine br J J J (fun hc16=>?_) (fun hc16=>?_)
 .
  have hk:k<c.length:=by omega
  obtain⟨m,hm⟩: ∃m,m=c[k]:=⟨_,rfl⟩;haveI hmb:LB m:=hm▸hc _ (bN hk);have hinv:=hsb;refine ix (fu:=⟨1⟩) _ J (xO hk) J<|ah 18 (.d (eL m)) J okX<|gx J<|cl J (lh (n:=1)) J<|cl J (Cu (p:=p) (q:=v) (c:=((1:Int):Rat))) J<|cl J (D2 (l:=m) (p:=av p v ((1:Int):Rat))) J<|cl J (D2 (l:=m) (p:=p)) J<|cl J (ut (a:=m.value (av p v ((1:Int):Rat))) (b:=m.value p)) J<|cl J (qA (q:=m.value (av p v ((1:Int):Rat))-m.value p)) J<|cs 32 J J J (fun hg32=>?_) (fun hg32=>?_)
  .
   exact at_ ⟨s,k+1⟩ (by dsimp only;exact⟨⟨we,hinv,(Cw hns hk hm (by unfold pB;rw[if_pos hg32]))⟩,we⟩)
  .
   refine cl J (AE (l:=m) (p:=p)) J<|br J J J (fun hc37=>?_) (fun hc37=>?_)
   .
    exact at_ ⟨s,k+1⟩ (by dsimp only;exact⟨⟨we,hinv,(Cw hns hk hm (by unfold pB;rw[if_neg hg32,if_pos hc37]))⟩,we⟩)
   .
    refine cl J (D2 (l:=m) (p:=p)) J<|cl J (yC (a:=m.value p) (b:=m.value (av p v ((1:Int):Rat))-m.value p) (ZI hg32)) J<|cl J (sA (q:=m.value p/(m.value (av p v ((1:Int):Rat))-m.value p))) J<|cl (fu:=⟨0⟩) J (qA (q:= -(m.value p/(m.value (av p v ((1:Int):Rat))-m.value p)))) J<|ji (v2:=fun hg46=>by simp only[ae];exact⟨omd,we⟩) J J J J (fun hg46=>?_) (fun hg46=>?_)
    .
     refine cl J (Fz (a:= -(m.value p/(m.value (av p v ((1:Int):Rat))-m.value p)))) J<|cl J (lg (a:= -(m.value p/(m.value (av p v ((1:Int):Rat))-m.value p))/2) (b:=s)) J<|br J J J (fun hc53=>?_) (fun hc53=>?_)
     .
      obtain⟨t,ht⟩: ∃t,t= -(m.value p/(m.value (av p v ((1:Int):Rat))-m.value p)):=⟨_,rfl⟩;haveI htb:BQ t 45000:=ht▸BQ.mono inferInstance;have hinv:BQ (t/2) 60000:=BQ.mono inferInstance;rw[<-ht];refine cl J (Fz (a:=t)) J<|at_ ⟨t/2,k+1⟩ (by dsimp only;exact⟨⟨we,hinv,(Cw hns hk hm (by unfold pB;rw[if_neg hg32,if_neg hc37,show um p v m=t from ht.symm,if_pos (by rw[ht];exact hg46),if_pos (by rw[ht];exact hc53)]))⟩,we⟩)
     .
      exact at_ ⟨s,k+1⟩ (by dsimp only;exact⟨⟨we,hinv,(Cw hns hk hm (by unfold pB;rw[if_neg hg32,if_neg hc37,if_pos (show 0<(um p v m).num.sign from hg46),if_neg (show¬bt (um p v m/2) s<0 from hc53)]))⟩,we⟩)
    .
     exact at_ ⟨s,k+1⟩ (by dsimp only;exact⟨⟨we,hinv,(Cw hns hk hm (by unfold pB;rw[if_neg hg32,if_neg hc37,if_neg (show¬0<(um p v m).num.sign from hg46)]))⟩,we⟩)
 .
  refine cl J (Cu (p:=p) (q:=v) (c:=s)) J<|rz J (by unfold zp;rw[<-hns,kU we];rfl)
def jo(c:List ab):List ab->aa
 |[]=>⟨0,0⟩
 |m::t=>if(gl m c ai.all).2=true then zp c (m.at (kr (gl m c ai.all).1)) (eG m.dir) else jo c t
def Zu{c:List ab}{k:Nat}{m:ab}(h:jo c (c.drop k)=jo c c)(hk:k<c.length)(hm:m=c[k])(e:(gl m c ai.all).2=true):jo c c=zp c (m.at (kr (gl m c ai.all).1)) (eG m.dir):=by
 rw[<-h,bU hk,jo,<-hm,if_pos e]
def Wi{c:List ab}{k:Nat}{m:ab}(h:jo c (c.drop k)=jo c c)(hk:k<c.length)(hm:m=c[k])(e: ¬(gl m c ai.all).2=true):jo c (c.drop (k+1))=jo c c:=by
 rw[<-h,bU hk,jo,<-hm,if_neg e]
def av5{c:List ab}{m:ab}(h:m∈c)(h2:(gk m c ai.all).isSome=true):la c=true:=by
 unfold la;rw[fU,jY];exact .inr ⟨m,h,h2⟩
def axg{c:List ab}(h:c=[]):la c=true:=by subst h;rfl
def az0{c:List ab}(h:c≠[])(h2: ∀m∈c,(gk m c ai.all).isSome=false):la c=false:=by
 rw[<-nX];unfold la;rw[fU,jY,List.isEmpty_iff];rintro (e|⟨m,h3,h4⟩)
 .exact h e
 .rw[h2 m h3] at h4;exact absurd h4 oma
def Es:eP ⟨0,0⟩= .ag [.v (.bool false), .sl [], .sl [], .v (.bool false), .sl [], .sl []]:=by
 unfold eP dD;simp only[show(0:Rat).num=0 from J,show(0:Rat).den=1 from J,kY,me];rfl
def IJ{c:List ab}(hc: ∀m∈c,LB m)(hok: ∀m∈c,m.ok)(hn:c.length<=1000):PF GB prog 89 [.sl (c.map eL)] (.tp [eP (jo c c),vB (la c)]):=by
 have hcl:=wY c;refine fn func89 J J ntmps89 J J (fun C=>?_);refine br (fu2:=⟨7⟩) J J J (fun hc11=>?_) (fun hc11=>?_)
 .
  exact rz J (by rw[cW (l:=c) we,axg J];show _=DV.tp [eP ⟨0,0⟩,_];rw[Es];rfl)
 .
  refine ah 14 (.d (vI (c.length:Nat))) J (by rw[hcl];rfl)<|gx J<|lp (X:=Nat) (fun k=>[(15, .d (vI (k:Nat))),(14, .d (vI (c.length:Nat))),(13, .d (.sl (c.map eL))),(0, .d (.sl (c.map eL))),(2, .ov 2 0)]) (fun k=>[(2,some (.o 72 [.ff, .nl, .nl, .ff, .nl, .nl] true))]) (fun k=>k<=c.length/\(∀m∈c.take k,(gk m c ai.all).isSome=false)/\jo c (c.drop k)=jo c c) (fun k=>c.length-k) 0 J ⟨bS _,fun m hm=>absurd hm omc,J⟩ (fun _=>J) (fun k hk=>?_);obtain⟨hle,hno,hip⟩:=hk;refine br J J J (fun hc16=>?_) (fun hc16=>?_)
  .
   have hk:k<c.length:=by omega
   obtain⟨m,hm⟩: ∃m,m=c[k]:=⟨_,rfl⟩;haveI hmb:LB m:=hm▸hc _ (bN hk);have hmo:m.ok:=hm▸hok _ (bN hk);refine ix (fu:=⟨1⟩) _ J (xO hk) J<|ah 19 (.d (eL m)) J okX<|gx J<|cl (fu:=⟨0⟩) J (No hc hok hn hk) J<|ah 23 (.d (.tp [eV (gl m c ai.all).1,vB (gl m c ai.all).2])) J (by rw[hm])<|gx J<|bb J J J (fun hc26=>?_) (fun hc26=>?_)
   .
    have hbd:=CK (v:=ai.all) hmo.ne hc iF.all (BQ.mono (k:=1) ⟨oma,oma⟩) (BQ.mono (k:=1) ⟨oma,oma⟩);obtain⟨s,hs⟩: ∃s,s=(gl m c ai.all).1:=⟨_,rfl⟩;rw[<-hs] at hbd;haveI:=hbd.1;haveI:=hbd.2;haveI hsb:=N6 (v:=s) (i:=1200);have hpt:aE (m.at (kr s)) 4500:=by have:=aE.at m (kr s) (1200+1200+5);exact⟨this.x.mono oma,this.y.mono oma⟩
    have hin:la c=true:=av5 (hm▸bN hk) (by rw[<-xR];exact hc26);have hpn:=Zu hip hk hm hc26;rw[<-hs] at hpn⊢;refine cl J (vQ (l:=m)) J<|cl J (WI (v:=s)) J<|cl J (Ep (l:=m) (t:=kr s) hmo.ne) J<|cl J (sA (q:=m.dir.y)) J<|cl J (aIT (p:=m.at (kr s)) (v:=eG m.dir) hc hn (hpt) inferInstance) J<|rz J (by rw[hin,hpn];rfl)
   .
    exact at_ (k+1) ⟨⟨we,YW hno hk (by rw[<-hm,<-xR];exact hc26),Wi hip hk hm (by rw[hc26];decide)⟩,we⟩
  .
   exact rz J (by rw[az0 (fun e=>hc11 (by rw[e];rfl)) (fun m hm=>hno m (by rw[cZ we];exact hm)),<-hip,kU we];show _=DV.tp [eP ⟨0,0⟩,_];rw[Es];rfl)
def XJ{es:List Int}{i:Nat}(h:i<es.length):(es.map vI)[(i:Int).toNat]? =some (vI (es.getD i 0)):=by simp[h]
def Mh{es:List Int}{i:Nat}(h:i<es.length:=by omega):qh (es.drop i)=if es.getD i 0≠0 then es.getD i 0 else qh (es.drop (i+1)):=by
 rw[bU h,qh,aJ,aZ h];rfl
def aMi{es:List Int}(hn:es.length<=1000000):PF GB prog 271 [.sl (es.map vI)] (vI (qh es)):=by
 have hel:(es.map vI).length=es.length:=by simp
 refine fn (fu:=⟨15⟩) func271 J J ntmps271 J J (fun C=>?_);refine ah 7 (.d (vI (es.length:Nat))) J (by rw[hel]<;>rfl)<|gx J<|lp (X:=Nat) (fun i=>[(8, .d (vI (i:Nat)))]) (fun i=>[]) (fun i=>i<=es.length/\qh es=qh (es.drop i)) (fun i=>es.length-i) 0 J ⟨bS _,J⟩ (fun _=>J) (fun i hk=>?_);obtain⟨h1,h2⟩:=hk;refine br J J J (fun hc9=>?_) (fun hc9=>?_)
 .
  refine ix _ J (XJ we) J<|br J J J (fun hc14=>?_) (fun hc14=>?_)
  .
   exact rz J (by rw[h2,Mh,if_pos hc14];rfl)
  .
   exact at_ (i+1) ⟨⟨we,by rw[h2,Mh,if_neg hc14]⟩,we⟩
 .
  exact rz J (by rw[h2,gT we];rfl)
def Gz(l m:ab):Int:=qh [bt l.a m.a,bt l.b m.b,bt l.c m.c]
def Xa(l m:ab):Gz l m=0↔l=m:=by
 unfold Gz qh qh qh qh;have ha:=ou (l.a:Rat) m.a;have hb:=ou (l.b:Rat) m.b;have hc:=ou (l.c:Rat) m.c;rw[pU] at ha hb hc;constructor
 .intro h
  repeat' (split at h<;>try contradiction)
  all_goals exact ab.ext'
 .rintro rfl
  rw[if_neg (by simp[ha.2 J]),if_neg (by simp[hb.2 J]),if_neg (by simp[hc.2 J])]
def VW{l m:ab}[hl:LB l][hm:LB m]:PF GB prog 266 [iq l,iq m] (vI (Gz l m)):=by
 refine fn func266 J J ntmps266 J J (fun C=>?_);refine cl J (w8 (p:=(l.a:Rat)) (q:=(m.a:Rat))) J<|cl J (w8 (p:=(l.b:Rat)) (q:=(m.b:Rat))) J<|cl J (w8 (p:=(l.c:Rat)) (q:=(m.c:Rat))) J<|rf J J<|cl J (aMi (es:=[bt l.a m.a,bt l.b m.b,bt l.c m.c]) (nb J)) J<|rz J J
def Z8{l m:ab}[hl:LB l][hm:LB m]:PF GB prog 261 [iq l,iq m] (vB (decide (l=m))):=by
 refine fn func261 J J ntmps261 J J (fun C=>?_);refine cl J (VW (l:=l) (m:=m)) J<|rz J (by show DV.v (.bool (decide _))= .v (.bool _);congr 2;exact decide_eq_decide.2 (Xa l m))
def aHR{l:ab}[hl:LB l]:PF GB prog 250 [iq l] (iq l.rev):=by
 refine fn func250 J J ntmps250 J J (fun C=>?_);refine cl J (r5 (q:=(l.a:Rat))) J<|cl J (r5 (q:=(l.b:Rat))) J<|cl J (r5 (q:=(l.c:Rat))) J<|rz J (by unfold iq ab.rev;simp only[iX];rfl)
theorem omp{p:Prop}(h:p:=by unfold aa.half;(repeat' split)<;>first|rfl|(exfalso;omega)):p:=h
def SC{p:aa}{i:Nat}[hp:aE p i](hi:i<=10000000:=by decide):PF GB prog 218 [eZ p] (vI p.half):=by
 refine fn func218 J J ntmps218 J J (fun C=>?_);refine cl J (oP (q:=p.y) we) J<|cs 10 J J J (fun hg10=>?_) (fun hg10=>?_)
 .
  exact rz J omp
 .
  refine cs 13 J J J (fun hg13=>?_) (fun hg13=>?_)
  .
   refine cl J (oP (q:=p.x) we) J<|br J J J (fun hc7=>?_) (fun hc7=>?_)
   .
    exact rz J omp
   .
    refine cs 23 J J J (fun hg23=>?_) (fun hg23=>?_)
    .
     exact rz J omp
    .
     refine cl J (oP (q:=p.x) we) J<|br J J J (fun hc20=>?_) (fun hc20=>?_)
     .
      exact rz J omp
     .
      exact rz J omp
  .
   refine cs 23 J J J (fun hg23=>?_) (fun hg23=>?_)
   .
    exact rz J omp
   .
    refine cl J (oP (q:=p.x) we) J<|br J J J (fun hc20=>?_) (fun hc20=>?_)
    .
     exact rz J omp
    .
     exact rz J omp
def JS{u v:aa}{i j:Nat}[hp:aE u i][hq:aE v j](hi:i<=10000000:=by decide)(hj:j<=10000000:=by decide):PF GB prog 172 [eZ u,eZ v] (vI (cF u v)):=by
 refine fn func172 J J ntmps172 J J (fun C=>?_);refine cl J (SC (p:=u) hi) J<|cl J (SC (p:=v) hj) J<|br J J J (fun hc11=>?_) (fun hc11=>?_)
 .
  exact rz J (by unfold cF;rw[if_pos hc11];rfl)
 .
  refine br J J J (fun hc15=>?_) (fun hc15=>?_)
  .
   exact rz J (by unfold cF;rw[if_neg hc11,if_pos hc15];rfl)
  .
   refine cl J (Cr (p:=u) (q:=v) we we) J<|cl (fu:=⟨0⟩) J (oP (q:=u.cross v) we) J<|?_;have hs:=tQ (u.cross v).num;refine gx J<|rz J (by unfold cF;rw[if_neg hc11,if_neg hc15];rfl)
def aIx{m:Int}:gG (dg m.natAbs)/\(decide (m<0)=true->0<(dg m.natAbs).length):=⟨(i8 _).2.2,fun h=>by
 have:0<m.natAbs:=by have:=of_decide_eq_true h;omega
 exact BJ.2 this⟩
def KH{m:Int}{i:Nat}[h:BI m i](hi:i<=1000000000:=by decide):PF GB prog 210 [eI m] (.v (.bool true)):=(axj (neg:=decide (m<0)) (ds:=dg m.natAbs) (i8 _).2.1 (by have:=jI (a:=m.natAbs) hi;omega)).to (by unfold vB;rw[decide_eq_true aIx])
def Px{l:ab}(h:l.ok):rgcd (rgcd (l.a:Rat) (l.b:Rat)) (l.c:Rat)=((1:Int):Rat):=by
 rw[H0,H0];have:=h.2;simp only[jL];rw[this];rfl
instance BQ.rgcd (p q:Rat) (i j:Nat) [h:BQ p i] [k:BQ q j]:BQ (rgcd p q) (i+j+(i+j)):=by
 unfold Sx.rgcd;refine BA (gM (nG p) (nG q)) ?_ ?_
 .rw[jL]
  have h1:=rO h.hn k.hd;have h2:=rO k.hn h.hd;rw[kX j i] at h2;exact N4 h1 h2
 .have h1:=rO h.hd k.hd
  have:2^(i+j)<=2^(i+j+(i+j)):=cY oma we;omega
theorem okk{p:Prop}(h:p:=by first|rfl|(show some (decide _)=some false;rw[decide_eq_false (fun e=>ho.1 ⟨ha,eM.1 e⟩)])):p:=h
theorem okK{p:Prop}(h:p:=by show some (!decide _)=some false;rw[Px ho,decide_eq_true J];rfl):p:=h
def ZZ{l:ab}[hl:LB l](ho:l.ok):PF GB prog 167 [eL l] (.tp [iq l,vB true]):=by
 refine fn func167 J J ntmps167 J J (fun C=>?_);refine cl (fu:=⟨0⟩) J (KH (m:=l.a)) J<|ew J J J<|cl (fu:=⟨0⟩) J (KH (m:=l.b)) J<|ew J J J<|cl (fu:=⟨0⟩) J (KH (m:=l.c)) J<|ew J J J<|cl J (JQ (m:=l.a)) J<|cl J (JQ (m:=l.b)) J<|cl J (JQ (m:=l.c)) J<|cl (fu:=⟨0⟩) J (IQ (q:=(l.a:Rat))) J<|ji (fu2:=⟨4⟩) J J J J (fun hg35=>?_) (fun hg35=>?_)
 .
  have ha:l.a=0:=eM.1 hg35;refine cl (fu:=⟨1⟩) J (IQ (q:=(l.b:Rat))) J<|ew J okk J<|cl J (A6 (p:=(l.a:Rat)) (q:=(l.b:Rat))) J<|cl J (A6 (p:=rgcd l.a l.b) (q:=(l.c:Rat))) J<|cl J (ti (m:=1)) J<|cl (fu:=⟨0⟩) J (Nt (p:=rgcd (rgcd l.a l.b) l.c) (q:=((1:Int):Rat))) J<|ew J okK J<|rz J J
 .
  refine ew J okk J<|cl J (A6 (p:=(l.a:Rat)) (q:=(l.b:Rat))) J<|cl J (A6 (p:=rgcd l.a l.b) (q:=(l.c:Rat))) J<|cl J (ti (m:=1)) J<|cl (fu:=⟨0⟩) J (Nt (p:=rgcd (rgcd l.a l.b) l.c) (q:=((1:Int):Rat))) J<|ew J okK J<|rz J J
end Go.Sx
end
