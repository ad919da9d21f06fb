import Derived.Test.YtliglnbeohlnnaaGreatDoorMq10
set_option linter.all false
set_option maxHeartbeats 4000000
set_option maxRecDepth 100000
section
namespace Go.Sx
open Go Go.Proofs Tryz
variable {GB G:Gh}{m D:Int}{g d i j k:Nat}{q t s s':Rat}{vs:List Value}{v w:au}{l:aa}{es:List Int}
def N6(hg:(g:Int)∣m)(hb:m.natAbs<4611686018427387904):IntKind.i64.wrap (m.tdiv g)=m/g:=by
 rw[Int.tdiv_eq_ediv_of_dvd hg];have:=mS m g;exact axO we
def tm(a b:Int):Int:=if(a*b).natAbs<4611686018427387904 then a*b else 0
def Lm(a b:Int):(tm a b).natAbs<4611686018427387904:=by unfold tm;split<;>omega
def Ad{a b:Int}(h:(a*b).natAbs<4611686018427387904):tm a b=a*b:=if_pos h
def OZ{a b:Int}(h: ¬(a*b).natAbs<4611686018427387904:=by omega):DV.tp [vI 0, .v (.bool false)]= .tp [vI (tm a b),vB (decide ((a*b).natAbs<4611686018427387904))]:=by unfold tm;rw[if_neg h,decide_eq_false h];rfl
def TH{a b:Int}{x:Int}(h:(a*b).natAbs<4611686018427387904)(e:x=a*b):DV.tp [vI x, .v (.bool true)]= .tp [vI (tm a b),vB (decide ((a*b).natAbs<4611686018427387904))]:=by unfold tm;rw[if_pos h,decide_eq_true h,e];rfl
def N4(n:Nat):eI (n:Int)= .ag [.v (.bool false),dN n]:=by unfold eI;rw[decide_eq_false we,dS]
def aHZ{p:Rat}(hp:p.den=1)(hq:q.den=1):rgcd p q=((Nat.gcd p.num.natAbs q.num.natAbs:Nat):Int):=by
 conv=>lhs;rw[C4 hp,C4 hq]
 exact BB _ _
def aFM(q:Rat):mkRat (zv (decide (q.num<0)) q.den) q.num.natAbs=q⁻¹:=by
 rw[Rat.inv_def];by_cases h:q.num<0
 .rw[decide_eq_true h];exact ano h
 .rw[decide_eq_false h,<-Rat.divInt_ofNat,oZ we];rfl
instance BQ.inv (q:Rat) (i:Nat) [h:BQ q i]:BQ q⁻¹ i:=by
 have h1:=h.hn;have h2:=h.hd;have h3:=q.den_nz;rcases pN q.num 0 with k|k|k
 .obtain⟨e1,e2⟩:=PW k;exact⟨we,we⟩
 .have e:q=0:=mW.1 k
  have e0:(0:Rat)⁻¹=0:=Rat.inv_zero;rw[e] at h1 h2⊢;rw[e0];exact⟨h1,h2⟩
 .obtain⟨e1,e2⟩:=UT k;exact⟨we,we⟩
instance BQ.half:BQ (mkRat 1 2) 2:=⟨oma,oma⟩
def VQ{x y:Nat}(hx:x<18446744073709551616)(hy:y<18446744073709551616):PF GB prog 233 [.v (.int .u64 (x:Nat)), .v (.int .u64 (y:Nat))] (.tp [.v (.int .u64 ((x*y/18446744073709551616:Nat):Int)), .v (.int .u64 ((x*y%18446744073709551616:Nat):Int))]):=fun G vs _ hv=>by
 obtain⟨v,m,rfl,h1,h2⟩:=bh.1 hv;obtain⟨u,m',rfl,h3,h4⟩:=bh.1 h2
 cases dm.1 h4
 rw[aI.1 h1,aI.1 h3];exact(Yf hx hy).mono fun v G' _ h=>by subst h;exact mo.2 ⟨_,J, .cons (aI.2 J) (.cons (aI.2 J) .nil)⟩
def Rh{a b:Nat}(ha:a<18446744073709551616:=by omega)(hb:b<18446744073709551616:=by omega):PF GB prog 209 [.v (.int .u64 (a:Nat)), .v (.int .u64 (b:Nat))] (.v (.int .u64 (Nat.gcd a b:Nat))):=by
 refine fn func209 J J ntmps209 J J (fun C=>?_);refine lp (X:=Nat×Nat) (fun⟨u,v⟩=>[(1, .d (.v (.int .u64 (v:Nat)))),(0, .d (.v (.int .u64 (u:Nat))))]) (fun⟨u,v⟩=>[]) (fun⟨u,v⟩=>u<18446744073709551616/\v<18446744073709551616/\Nat.gcd u v=Nat.gcd a b) (fun⟨u,v⟩=>v) (a,b) J ⟨ha,hb,J⟩ (fun _=>J) (fun⟨u,v⟩ hk=>?_);dsimp only at hk⊢;obtain⟨h1,h2,h3⟩:=hk;refine br (v1:=fun hc6=>by simp only[ak];exact⟨we,omd⟩) J J J (fun hc6=>?_) (fun hc6=>?_)
 .
  have hm:=dK u (show 0<v by omega);exact at_ (v,u%v) (by dsimp only;exact⟨⟨h2,we,by rw[<-h3,jL u v,uL v u,jL]⟩,hm⟩)
 .
  exact rz J (by rw[<-h3,show v=0 by omega,nL];rfl)
def ug(h:m.natAbs<9223372036854775808:=by decide):PF GB prog 150 [vI m] (eF (m:Rat)):=by
 refine fn func150 J J ntmps150 J J (fun C=>?_);refine cs 5 J J J (fun hg5=>?_) (fun hg5=>?_)
 .
  refine cl J (GZ (m:=m)) J<|rf (fu:=⟨0⟩) J J<|aj 11 (.d (dN 1)) J okR<|gx J<|cl J (wE (n:=decide (m<0)) (a:=m.natAbs) (i:=63) (h:=BN.up (show m.natAbs<2^63 from h)) (d:=1)) J<|rz J okt
 .
  refine br J J J (fun hc8=>?_) (fun hc8=>?_)
  .
   refine cl J (GZ (m:=m)) J<|rf (fu:=⟨0⟩) J J<|aj 11 (.d (dN 1)) J okR<|gx J<|cl J (wE (n:=decide (m<0)) (a:=m.natAbs) (i:=63) (h:=BN.up (show m.natAbs<2^63 from h)) (d:=1)) J<|rz J okt
  .
   exact jP J (QX we)
theorem ozp{p:Prop}(h:p:=by simpa using hc26):p:=h
def AG{a b:Int}(ha:a.natAbs<4611686018427387904:=by omega)(hb:b.natAbs<4611686018427387904:=by omega):PF GB prog 173 [vI a,vI b] (.tp [vI (tm a b),vB (decide ((a*b).natAbs<4611686018427387904))]):=by
 have hab:=eY a b;refine fn func173 J J ntmps173 J J (fun C=>?_);refine cl J (AK (m:=a)) J<|cl J (AK (m:=b)) J<|cl J (VQ (x:=a.natAbs) (y:=b.natAbs) we we) J<|cs 18 J J J (fun hg18=>?_) (fun hg18=>?_)
 .
  exact rz J (OZ)
 .
  refine br J J J (fun hc21=>?_) (fun hc21=>?_)
  .
   exact rz J (OZ)
  .
   refine bb J J J (fun hc26=>?_) (fun hc26=>?_)
   .
    have hs:=Nr a b;rw[if_neg ozp] at hs;exact rz J (TH we (by rw[hs,<-hab];omega))
   .
    have hs:=Nr a b;rw[if_pos ozp] at hs;exact rz J (TH we (by rw[hs,<-hab];omega))
def Qr(h:m.natAbs<4611686018427387904)(h0:0<d)(hd:d<4611686018427387904):PF GB prog 174 [vI m,vI (d:Nat)] (eF (mkRat m d)):=by
 have hg:Nat.gcd m.natAbs d<=d:=Nat.gcd_le_right _ h0;have hg0:0<Nat.gcd m.natAbs d:=oY _ h0;obtain⟨e1,e2⟩:=RA (m:=m) h0;have e3:=mS m (Nat.gcd m.natAbs d:Nat);have e4:=mT d (Nat.gcd m.natAbs d);have e5:=Nat.div_pos hg hg0;refine fn func174 J J ntmps174 J J (fun C=>?_);refine cl J (AK (m:=m)) J<|cl J (Rh (a:=m.natAbs) (b:=d)) J<|br (fu1:=⟨4⟩) J J J (fun hc13=>?_) (fun hc13=>?_)
 .
  refine aj 16 (.d (vI (m/(Nat.gcd m.natAbs d:Nat)))) J (by rw[N6 (Int.dvd_natAbs.1 (rU.2 (lW _ _))) h];rfl)<|gx (fu:=⟨3⟩) J<|aj 19 (.d (vI ((d/Nat.gcd m.natAbs d:Nat)))) J (by rw[N6 (rU.2 (mV _ _)) (by rw[dS];exact hd)];rfl)<|gx (hv:=by simp only[ak];exact⟨omd,we⟩) J<|jP J (ui (fun k=>k ⟨by rw[e1];omega,by rw[e2];omega⟩) e1 (by rw[e2]) J)
 .
  exact jP J (by have h1:Nat.gcd m.natAbs d=1:=we;rw[h1,tV] at e2;rw[h1,Int.natCast_one,Int.ediv_one] at e1;exact ui (fun k=>k ⟨by rw[e1];omega,by rw[e2];omega⟩) e1 (by rw[e2]) J)
def py{p:Rat}[h:BQ p i][k:BQ q j](hi:i<=100000000:=by decide)(hj:j<=100000000:=by decide):PF GB prog 181 [eF p,eF q] (eF (p*q)):=by
 refine fn (fu:=⟨8⟩) func181 J J ntmps181 J J (fun C=>?_);refine mg (X:=Unit) (fun _=>[(2, .ov 2 0),(3, .ov 3 0),(4, .ov 4 0)]) (fun _=>[(2,some (.o 170 [.d (vI (ew p)), .d (vI (et p)), .d (ez p)] true)),(3,some (.o 170 [.d (vI (ew q)), .d (vI (et q)), .d (ez q)] true)),(4,some (.o 170 [.d (.v (.int .i64 0)), .d (.v (.int .i64 0)), .d (.v (.pointer none))] true))]) (fun _=>True) [2,3,4] [2,3,4] rfl ?_ (fun _=>J) (fun _ _=>?_)
 .
  refine gx J<|cs 12 J J J (fun hg12=>?_) (fun hg12=>?_)
  .
   refine br (fu1:=⟨4⟩) J J J (fun hc16=>?_) (fun hc16=>?_)
   .
    have hp:=ub hg12;have hq:=ub hc16;have p1:=ot hp;have p2:=p6 hp;have p3:=qI hp;have p4:=qG hp;have p5:=p.den_nz;have q1:=ot hq;have q2:=p6 hq;have q3:=qI hq;have q4:=qG hq;have q5:=q.den_nz;refine aj 19 (.d (vI p.num)) J (by rw[p1])<|gx (fu:=⟨2⟩) J<|aj 21 (.d (vI q.num)) J (by rw[q1])<|gx J<|cl (fu:=⟨12⟩) J (AG (a:=p.num) (b:=q.num)) J<|aj 28 (.d (vI (p.den:Nat))) J omQ<|gx (fu:=⟨3⟩) J<|aj 31 (.d (vI (q.den:Nat))) J omQ<|gx J<|cl J (AG (a:=(p.den:Nat)) (b:=(q.den:Nat))) J<|csd 36 J J J (fun hg36=>?_) (fun hg36=>?_)
    .
     refine bd (fu1:=⟨3⟩) J J J (fun hc38=>?_) (fun hc38=>?_)
     .
      have hd1:p.den*q.den<4611686018427387904:=by omega
      refine aj 39 (.d (vI (p.num*q.num))) J (by rw[Ad hg36])<|gx (fu:=⟨1⟩) J<|aj 40 (.d (vI ((p.den*q.den:Nat)))) J (by rw[Ad hc38];rfl)<|gx J<|cl J (Qr (m:=p.num*q.num) (d:=p.den*q.den) hg36 (iY we we) hd1) J<|rz J (by rw[<-By];rfl)
     .
      exact at_ () trivial
    .
     exact at_ () trivial
   .
    exact at_ () trivial
  .
   exact at_ () trivial
 .
  refine cl J (uj (q:=p) we) J<|cl J (uj (q:=q) we) J<|cl J (K6 (a:=p.num) (b:=q.num) we we) J<|cl J (th (q:=p) we) J<|cl J (th (q:=q) we) J<|cl J (yc (a:=p.den) (b:=q.den) we we) J<|cl J (wE (n:=decide (p.num*q.num<0)) (a:=(p.num*q.num).natAbs) (d:=p.den*q.den) (i:=i+j) (j:=i+j) we we) J<|rz J (by rw[l5,<-By];rfl)
def tf{p:Rat}[h:BQ p i][k:BQ q j](hi:i<=100000000:=by decide)(hj:j<=100000000:=by decide):PF GB prog 99 [eF p,eF q] (eF (p+q)):=by
 refine fn (fu:=⟨8⟩) func99 J J ntmps99 J J (fun C=>?_);refine mg (X:=Unit) (fun _=>[(2, .ov 2 0),(3, .ov 3 0),(4, .ov 4 0)]) (fun _=>[(2,some (.o 170 [.d (vI (ew p)), .d (vI (et p)), .d (ez p)] true)),(3,some (.o 170 [.d (vI (ew q)), .d (vI (et q)), .d (ez q)] true)),(4,some (.o 170 [.d (.v (.int .i64 0)), .d (.v (.int .i64 0)), .d (.v (.pointer none))] true))]) (fun _=>True) [2,3,4] [2,3,4] rfl ?_ (fun _=>J) (fun _ _=>?_)
 .
  refine gx J<|cs 16 J J J (fun hg16=>?_) (fun hg16=>?_)
  .
   refine br (fu1:=⟨1⟩) J J J (fun hc20=>?_) (fun hc20=>?_)
   .
    have hp:=ub hg16;have hq:=ub hc20;have p1:=ot hp;have p2:=p6 hp;have p3:=qI hp;have p4:=qG hp;have p5:=p.den_nz;have q1:=ot hq;have q2:=p6 hq;have q3:=qI hq;have q4:=qG hq;have q5:=q.den_nz;refine mg (fu:=⟨4⟩) (X:=Unit) (fun _=>[(2, .ov 2 0),(3, .ov 3 0),(4, .ov 4 0)]) (fun _=>[(2,some (.o 170 [.d (vI (ew p)), .d (vI (et p)), .d (ez p)] true)),(3,some (.o 170 [.d (vI (ew q)), .d (vI (et q)), .d (ez q)] true)),(4,some (.o 170 [.d (.v (.int .i64 0)), .d (.v (.int .i64 0)), .d (.v (.pointer none))] true))]) (fun _=>True) [2,3,4] [2,3,4] rfl ?_ (fun _=>J) (fun _ _=>?_)
    .
     refine gx J<|cs 24 J J J (fun hg24=>?_) (fun hg24=>?_)
     .
      refine br (fu1:=⟨4⟩) J J J (fun hc28=>?_) (fun hc28=>?_)
      .
       refine aj 30 (.d (vI p.num)) J (by rw[p1])<|gx (fu:=⟨2⟩) J<|aj 32 (.d (vI q.num)) J (by rw[q1])<|gx J<|cl J (ug (m:=p.num+q.num) we) J<|rz J (by rw[C4 (q:=p),C4 (q:=q),<-nJ];rfl)
      .
       exact at_ () trivial
     .
      exact at_ () trivial
    .
     refine aj 37 (.d (vI p.num)) J (by rw[p1])<|gx (fu:=⟨3⟩) J<|aj 40 (.d (vI (q.den:Nat))) J omQ<|gx J<|cl (fu:=⟨11⟩) J (AG (a:=p.num) (b:=(q.den:Nat))) J<|aj 46 (.d (vI q.num)) J (by rw[q1])<|gx (fu:=⟨3⟩) J<|aj 49 (.d (vI (p.den:Nat))) J omQ<|gx J<|cl (fu:=⟨12⟩) J (AG (a:=q.num) (b:=(p.den:Nat))) J<|aj 56 (.d (vI (p.den:Nat))) J omQ<|gx (fu:=⟨3⟩) J<|aj 59 (.d (vI (q.den:Nat))) J omQ<|gx J<|cl (fu:=⟨3⟩) J (AG (a:=(p.den:Nat)) (b:=(q.den:Nat))) J<|?_;have t1:=Lm p.num (q.den:Nat);have t2:=Lm q.num (p.den:Nat);have t3:=Lm (p.den:Nat) (q.den:Nat);refine gx J<|csd 67 J J J (fun hg67=>?_) (fun hg67=>?_)
     .
      refine csd 70 J J J (fun hg70=>?_) (fun hg70=>?_)
      .
       refine csd 73 J J J (fun hg73=>?_) (fun hg73=>?_)
       .
        refine cs 77 J J J (fun hg77=>?_) (fun hg77=>?_)
        .
         refine br (fu1:=⟨3⟩) J J J (fun hc80=>?_) (fun hc80=>?_)
         .
          have u1:=Ad hg67;have u2:=Ad hg70;have u3:=Ad hg73;have hd1:p.den*q.den<4611686018427387904:=by omega
          refine aj 81 (.d (vI (p.num*(q.den:Nat)+q.num*(p.den:Nat)))) J (by rw[u1,u2];rfl)<|gx (fu:=⟨1⟩) J<|aj 82 (.d (vI ((p.den*q.den:Nat)))) J (by rw[u3];rfl)<|gx J<|cl J (Qr (m:=p.num*(q.den:Nat)+q.num*(p.den:Nat)) (d:=p.den*q.den) we (iY we we) hd1) J<|rz J (by rw[<-A'];rfl)
         .
          exact at_ () trivial
        .
         exact at_ () trivial
       .
        exact at_ () trivial
      .
       exact at_ () trivial
     .
      exact at_ () trivial
   .
    exact at_ () trivial
  .
   exact at_ () trivial
 .
  refine cl J (uj (q:=p) we) J<|cl (fu:=⟨1⟩) J (th (q:=q) we) J<|aj 88 (.d (eI (q.den:Nat))) J (by rw[N4])<|gx J<|cl J (K6 (a:=p.num) (b:=(q.den:Nat)) we we) J<|cl J (uj (q:=q) we) J<|cl (fu:=⟨1⟩) J (th (q:=p) we) J<|aj 94 (.d (eI (p.den:Nat))) J (by rw[N4])<|gx J<|cl J (K6 (a:=q.num) (b:=(p.den:Nat)) we we) J<|cl J (Y9 (a:=p.num*(q.den:Nat)) (b:=q.num*(p.den:Nat)) (i:=i+j) (j:=j+i) we we) J<|cl J (th (q:=p) we) J<|cl J (th (q:=q) we) J<|cl J (yc (a:=p.den) (b:=q.den) we we) J<|cl J (wE (n:=decide (p.num*(q.den:Nat)+q.num*(p.den:Nat)<0)) (a:=(p.num*(q.den:Nat)+q.num*(p.den:Nat)).natAbs) (d:=p.den*q.den) (i:=i+j+(j+i)+1) (j:=i+j) we we) J<|rz J (by rw[l5,<-A'];rfl)
def rP{p:Rat}[h:BQ p i][k:BQ q j](hi:i<=100000000:=by decide)(hj:j<=100000000:=by decide):PF GB prog 93 [eF p,eF q] (eF (p-q)):=by
 refine fn func93 J J ntmps93 J J (fun C=>?_);refine cl J (tj (q:=q) we) J<|cl J (tf (p:=p) (q:= -q) we we) J<|rz J (by rw[<-Rat.sub_eq_add_neg];rfl)
def Ip[h:BQ q i](hi:i<=400000000:=by decide):PF GB prog 166 [eF q] (eF q⁻¹):=by
 refine fn func166 J J ntmps166 J J (fun C=>?_);refine br (v1:=fun hc3=>by simp only[ak];exact⟨⟨hc3,hc3⟩,hc3⟩) J J J (fun hc3=>?_) (fun hc3=>?_)
 .
  refine cl J (wE (n:=decide (q.num<0)) (a:=q.den) (d:=q.num.natAbs) we we) J<|rz J (by rw[aFM];rfl)
 .
  have q1:=ot (pj hc3);have q2:=p6 (pj hc3);have q3:=qI (pj hc3);have q4:=qG (pj hc3);have q5:=q.den_nz;refine br J J J (fun hc26=>?_) (fun hc26=>?_)
  .
   exact jP rfl (by obtain⟨e1,e2⟩:=PW (q:=q) we;exact ui (fun k=>k ⟨we,we⟩) we we rfl)
  .
   refine br J J J (fun hc39=>?_) (fun hc39=>?_)
   .
    exact jP J (by rw[mW.1 (show q.num=0 by omega),Rat.inv_zero];exact CC)
   .
    exact jP rfl (by obtain⟨e1,e2⟩:=UT (q:=q) we;exact ui (fun k=>k ⟨we,we⟩) we we rfl)
def AU{p:Rat}[h:BQ p i][k:BQ q j](hi:i<=100000000:=by decide)(hj:j<=100000000:=by decide):PF GB prog 224 [eF p,eF q] (eF (p/q)):=by
 refine fn func224 J J ntmps224 J J (fun C=>?_);refine cl J (Ip (q:=q) we) J<|cl J (py (p:=p) (q:=q⁻¹) we we) J<|rz J (by rw[Rat.div_def];rfl)
def Nd{q r:DV}{t:List DV}(h: ∀y,Is G r y->Is G q y)(hv:IsLs G (r::t) vs):IsLs G (q::t) vs:=by
 obtain⟨y,m,rfl,h1,h2⟩:=bh.1 hv;exact .cons (h _ h1) h2
def KR{a q r:DV}{t:List DV}(h: ∀y,Is G r y->Is G q y)(hv:IsLs G (a::r::t) vs):IsLs G (a::q::t) vs:=by
 obtain⟨y,m,rfl,h1,h2⟩:=bh.1 hv;exact .cons h1 (Nd h h2)
def aEy[h:BQ q i](hi:i<=100000000:=by decide):PF GB prog 181 [eF q, .ag [vI 1,vI 1, .v (.pointer none)]] (eF (q*mkRat 1 2)):=
 (py (p:=q) (q:=mkRat 1 2) hi).ofI fun G vs hv=>KR (fun y hy=>ui (q:=mkRat 1 2) (fun k=>k ⟨oma,oma⟩) oma oma J G y hy) hv
def UC[h:BQ q i](hi:i<=100000000:=by decide):PF GB prog 231 [eF q] (eF (q*mkRat 1 2)):=by
 refine fn func231 J J ntmps231 J J (fun C=>?_);refine cl J (aEy (q:=q) we) J<|rz J J
def xe{p:Rat}[h:BQ p i][k:BQ q j](hi:i<=100000000:=by decide)(hj:j<=100000000:=by decide):PF GB prog 212 [eF p,eF q] (vI (bw p q)):=by
 refine fn func212 J J ntmps212 J J (fun C=>?_);refine cs 8 J J J (fun hg8=>?_) (fun hg8=>?_)
 .
  refine cs 13 J J J (fun hg13=>?_) (fun hg13=>?_)
  .
   refine br J J J (fun hc19=>?_) (fun hc19=>?_)
   .
    have hp:=ub hg8;have hq:=ub hg13;have p1:=ot hp;have p2:=p6 hp;have p3:=qI hp;have p4:=qG hp;have p5:=p.den_nz;have q1:=ot hq;have q2:=p6 hq;have q3:=qI hq;have q4:=qG hq;have q5:=q.den_nz;have hl:=Sf (a:=p) (b:=q);have hr:=Sf (a:=q) (b:=p);unfold bw;refine br J J J (fun hc20=>?_) (fun hc20=>?_)
    .
     exact rz J (by rw[if_pos (hl.2 we)];rfl)
    .
     refine br J J J (fun hc26=>?_) (fun hc26=>?_)
     .
      exact rz J (by rw[if_neg (fun e=>by have:=hl.1 e;omega),if_pos (hr.2 we)];rfl)
     .
      exact rz J (by rw[if_neg (fun e=>by have:=hl.1 e;omega),if_neg (fun e=>by have:=hr.1 e;omega)];rfl)
   .
    refine cl J (rP (p:=p) (q:=q) we we) J<|cl J (nA (q:=p-q) we) J<|rz J (by rw[E4];rfl)
  .
   refine cl J (rP (p:=p) (q:=q) we we) J<|cl J (nA (q:=p-q) we) J<|rz J (by rw[E4];rfl)
 .
  refine cl J (rP (p:=p) (q:=q) we we) J<|cl J (nA (q:=p-q) we) J<|rz J (by rw[E4];rfl)
def yv{p:Rat}[h:BQ p i][k:BQ q j](hi:i<=100000000:=by decide)(hj:j<=100000000:=by decide):PF GB prog 149 [eF p,eF q] (vB (decide (p=q))):=by
 refine fn func149 J J ntmps149 J J (fun C=>?_);refine cl J (xe (p:=p) (q:=q) hi hj) J<|rz J (by show DV.v (.bool (decide _))= .v (.bool _);congr 2;exact decide_eq_decide.2 (pz p q))
def aIh{p:Rat}[h:BQ p i][k:BQ q j](hi:i<=100000000:=by decide)(hj:j<=100000000:=by decide):PF GB prog 268 [eF p,eF q] (eF (if p<q then q else p)):=by
 refine fn func268 J J ntmps268 J J (fun C=>?_);refine cl J (xe (p:=q) (q:=p) hj hi) J<|br J J J (fun hc8=>?_) (fun hc8=>?_)
 .
  exact rz J (by rw[if_pos ((Uk q p).1 hc8)];rfl)
 .
  exact rz J (by rw[if_neg (fun e=>hc8 ((Uk q p).2 e))];rfl)
def RT{p:Rat}[h:BQ p i][k:BQ q j](hi:i<=100000000:=by decide)(hj:j<=100000000:=by decide):PF GB prog 167 [eF p,eF q] (eF (if q<p then q else p)):=by
 refine fn func167 J J ntmps167 J J (fun C=>?_);refine cl J (xe (p:=q) (q:=p) hj hi) J<|br J J J (fun hc8=>?_) (fun hc8=>?_)
 .
  exact rz J (by rw[if_pos ((RY q p).1 hc8)];rfl)
 .
  exact rz J (by rw[if_neg (fun e=>hc8 ((RY q p).2 e))];rfl)
def p9{p:Rat}[h:BQ p i][k:BQ q j](hi:i<=100000000:=by decide)(hj:j<=100000000:=by decide):PF GB prog 148 [eF p,eF q] (eF (rgcd p q)):=by
 refine fn (fu:=⟨8⟩) func148 J J ntmps148 J J (fun C=>?_);refine mg (X:=Unit) (fun _=>[(2, .ov 2 0),(3, .ov 3 0),(4, .ov 4 0)]) (fun _=>[(2,some (.o 170 [.d (vI (ew p)), .d (vI (et p)), .d (ez p)] true)),(3,some (.o 170 [.d (vI (ew q)), .d (vI (et q)), .d (ez q)] true)),(4,some (.o 170 [.d (.v (.int .i64 0)), .d (.v (.int .i64 0)), .d (.v (.pointer none))] true))]) (fun _=>True) [2,3,4] [2,3,4] rfl ?_ (fun _=>J) (fun _ _=>?_)
 .
  refine gx J<|cs 10 J J J (fun hg10=>?_) (fun hg10=>?_)
  .
   refine cs 15 J J J (fun hg15=>?_) (fun hg15=>?_)
   .
    have hp:=ub hg10;have hq:=ub hg15;have p1:=ot hp;have p2:=p6 hp;have p3:=qI hp;have p4:=qG hp;have p5:=p.den_nz;have q1:=ot hq;have q2:=p6 hq;have q3:=qI hq;have q4:=qG hq;have q5:=q.den_nz;refine cs 20 J J J (fun hg20=>?_) (fun hg20=>?_)
    .
     refine br (fu1:=⟨4⟩) J J J (fun hc24=>?_) (fun hc24=>?_)
     .
      have hg:=HN p3 q3;refine aj 26 (.d (vI p.num)) J (by rw[p1])<|gx J<|cl (fu:=⟨2⟩) J (AK (m:=p.num)) J<|aj 29 (.d (vI q.num)) J (by rw[q1])<|gx J<|cl J (AK (m:=q.num)) J<|cl (hv:=by simp only[ak];exact⟨we,omd⟩) J (Rh (a:=p.num.natAbs) (b:=q.num.natAbs)) J<|jP J (by rw[aHZ (p:=p) (q:=q) we we];exact QX (by rw[dS];exact hg))
     .
      exact at_ () trivial
    .
     exact at_ () trivial
   .
    exact at_ () trivial
  .
   exact at_ () trivial
 .
  refine cl J (th (q:=p) we) J<|cl J (th (q:=q) we) J<|cl J (yc (a:=p.den) (b:=q.den) we we) J<|cl J (uj (q:=p) we) J<|cl J (th (q:=q) we) J<|cl J (yc (a:=p.num.natAbs) (b:=q.den) we we) J<|cl J (uj (q:=q) we) J<|cl J (th (q:=p) we) J<|cl J (yc (a:=q.num.natAbs) (b:=p.den) we we) J<|cl J (CK (a:=p.num.natAbs*q.den) (b:=q.num.natAbs*p.den) (i:=i+j) (j:=j+i) we we) J<|cl J (wE (n:=false) (a:=Nat.gcd (p.num.natAbs*q.den) (q.num.natAbs*p.den)) (d:=p.den*q.den) (i:=i+j+(j+i)) (j:=i+j) we we) J<|rz J J

def cT:Tr->List DV
 | .leaf b=>[.v (.bool true), .v (.bool b), .v (.bool false), .sl [], .v (.bool false), .sl [], .v (.bool false), .sl [], .v (.pointer none), .v (.pointer none)]
 | .node l x y=>[.v (.bool false), .v (.bool false), .v (.bool (decide (l.a<0))),dN l.a.natAbs, .v (.bool (decide (l.b<0))),dN l.b.natAbs, .v (.bool (decide (l.c<0))),dN l.c.natAbs, .pt (cT x), .pt (cT y)]
def eT(t:Tr):DV:= .pt (cT t)
def eN(n:NQ):DV:= .ag [.v (.bool (decide (n.l.a<0))),dN n.l.a.natAbs, .v (.bool (decide (n.l.b<0))),dN n.l.b.natAbs, .v (.bool (decide (n.l.c<0))),dN n.l.c.natAbs, .v (.int .i64 n.a), .v (.int .i64 n.b)]
def eA(t:Tr):DV:= .ag [.v (.int .i64 (t.num 0)), .sl ((t.wr 0).map eN)]
def yP{z:IV}(h:q9 k G z m):Is G (.v (.bool (decide (m<0)))) (.bool z.neg)/\Is G (dN m.natAbs) (.slice z.a.a z.a.n z.a.c):=
 ⟨aI.2 (by rw[h.neg]),(Qs h.abs.lt).2 ⟨_,J,h.abs⟩⟩
def HY{u v:Value}(hm:m.natAbs<2^k)(h1:Is G (.v (.bool (decide (m<0)))) u)(h2:Is G (dN m.natAbs) v): ∃z:IV,u= .bool z.neg/\v= .slice z.a.a z.a.n z.a.c/\q9 k G z m:=by
 obtain⟨x,rfl,hx⟩:=(Qs hm).1 h2;exact⟨⟨decide (m<0),x⟩,aI.1 h1,J,J,hx⟩
structure BL (l:aa) (k:Nat):Prop where
 a:l.a.natAbs<2^k
 b:l.b.natAbs<2^k
 c:l.c.natAbs<2^k
def WS{v:Value}(hl:BL l k)(h:Is G (eL l) v): ∃a b c:IV,v= .agg ⟨[.bool a.neg, .slice a.a.a a.a.n a.a.c, .bool b.neg, .slice b.a.a b.a.n b.a.c, .bool c.neg, .slice c.a.a c.a.n c.a.c]⟩/\q9 k G a l.a/\q9 k G b l.b/\q9 k G c l.c:=by
 obtain⟨m,rfl,g⟩:=eG.1 h;clear h;obtain⟨v1,m,rfl,h1,h⟩:=bh.1 g;obtain⟨v2,m,rfl,h2,h⟩:=bh.1 h;obtain⟨v3,m,rfl,h3,h⟩:=bh.1 h;obtain⟨v4,m,rfl,h4,h⟩:=bh.1 h;obtain⟨v5,m,rfl,h5,h⟩:=bh.1 h;obtain⟨v6,m,rfl,h6,h⟩:=bh.1 h;rw[dm] at h;subst h;obtain⟨a,rfl,rfl,ha⟩:=HY hl.a h1 h2;obtain⟨b,rfl,rfl,hb⟩:=HY hl.b h3 h4;obtain⟨c,rfl,rfl,hc⟩:=HY hl.c h5 h6;exact⟨a,b,c,J,ha,hb,hc⟩
def Yo{n:NQ}{z:ND}(h:tc k G z n):Is G (eN n) z.val:=by
 refine eG.2 ⟨_,J, .cons (yP h.a).1 (.cons (yP h.a).2 (.cons (yP h.b).1 (.cons (yP h.b).2 (.cons (yP h.c).1 (.cons (yP h.c).2 (.cons (aI.2 ?_) (.cons (aI.2 ?_) .nil)))))))⟩
 .rw[h.l]
 .rw[h.r]
def RE{G:Gh}{k:Nat}: ∀{ns:List NQ} {zs:List ND},ie (tc k G) zs ns->IsLs G (ns.map eN) (zs.map ND.val)
 |_,_, .nil=> .nil
 |_,_, .cons h t=> .cons (Yo h) (RE t)
def Wb(ns:List NQ):cI 8 (ns.map eN):=fun d hd=>by
 obtain⟨n,_,rfl⟩:=aU.1 hd;exact⟨rfl,rfl⟩
def X0{t:Tr}{x:SV}(h:aNW k G x (t.wr 0)):Is G (eA t) (.agg ⟨[.int .i64 (t.num 0), .slice x.a x.n x.c]⟩):=by
 obtain⟨zs,h1,h2⟩:=h;exact eG.2 ⟨_,J, .cons (aI.2 J) (.cons (gr.2 ⟨8,x,_,J,h1,RE h2⟩) .nil)⟩
structure LS (l:aa):Prop where
 ok:l.ok
 a:l.a.natAbs<=4
 b:l.b.natAbs<=4
 c:l.c.natAbs<=40000
def LS.bl(h:LS l):BL l 672:=by
 have key: ∀a:Int,a.natAbs<=40000->a.natAbs<2^672:=fun a h=>CN (m:=20) (k:=672) (show a.natAbs<2^20 by omega);exact⟨key _ (by have:=h.a;omega),key _ (by have:=h.b;omega),key _ h.c⟩
def xo{xs:List aa}(h:i<xs.length:=by omega):(xs.map eL)[(i:Int).toNat]? =some (eL xs[i]):=by simp[h]
def wY(xs:List aa):(xs.map eL).length=xs.length:=aX ..
def ayU{α:Type}{xs:List α}{p:α->Prop}(h: ∀x∈xs.take i,p x)(hi:i<xs.length)(hy:p xs[i]): ∀x∈xs.take (i+1),p x:=by
 intro x hx;rw[jY hi] at hx;simp only[bX,aR] at hx;rcases hx with hx|rfl
 .exact h x hx
 .exact hy
def aa.ext'{m:aa}(h1:l.a=m.a:=by omega)(h2:l.b=m.b:=by omega)(h3:l.c=m.c:=by omega):l=m:=by cases l;cases m;simp_all
def dO(ls:List aa):cI 6 (ls.map eL):=fun d hd=>by
 obtain⟨n,_,rfl⟩:=aU.1 hd;exact⟨rfl,rfl⟩
def jc{z:Int}:PF GB prog 119 [eI z] (eQ (z:Rat)):=by
 refine fn func119 J J ntmps119 J J (fun C=>?_);exact rz J (by rw[Fz];rfl)
def BZ:PF GB prog 142 [eL l] (eL l.rev):=by
 refine fn func142 J J ntmps142 J J (fun C=>?_);refine cl J AL J<|cl J AL J<|cl J AL J<|rz J J
class LB (l:aa):Prop where bl:BL l 672
instance LB.a (l:aa) [h:LB l]:BI l.a 96:=BI.of h.bl.a J
instance LB.b (l:aa) [h:LB l]:BI l.b 96:=BI.of h.bl.b J
instance LB.c (l:aa) [h:LB l]:BI l.c 96:=BI.of h.bl.c J
class aE (p:ah) (k:outParam Nat):Prop where
 x:BQ p.x k
 y:BQ p.y k
instance aE.ix (p:ah) (k:Nat) [h:aE p k]:BQ p.x k:=h.x
instance aE.iy (p:ah) (k:Nat) [h:aE p k]:BQ p.y k:=h.y
instance aE.dir (l:aa) [LB l]:aE l.dir 97:=⟨inferInstanceAs (BQ (l.b:Rat) 97),inferInstanceAs (BQ (-(l.a:Rat)) 97)⟩
instance BQ.dot (p q:ah) (i j:Nat) [aE p i] [aE q j]:BQ (p.dot q) (i+j+(i+j)+1):=inferInstanceAs (BQ (p.x*q.x+p.y*q.y) _)
instance BQ.cross (p q:ah) (i j:Nat) [aE p i] [aE q j]:BQ (p.cross q) (i+j+(i+j)+1):=inferInstanceAs (BQ (p.x*q.y-p.y*q.x) _)
instance aE.mov (p q:ah) (c:Rat) (i j k:Nat) [aE p i] [aE q j] [BQ c k]:aE (de p q c) (i+(k+j)+1):=⟨inferInstanceAs (BQ (p.x+c*q.x) _),inferInstanceAs (BQ (p.y+c*q.y) _)⟩
instance BQ.value (l:aa) (p:ah) (i:Nat) [LB l] [aE p i]:BQ (l.value p) (96+1+i+(96+1+i)+1+(96+1)+1):=inferInstanceAs (BQ ((l.a:Rat)*p.x+(l.b:Rat)*p.y+(l.c:Rat)) _)
def OC(h:l.Ne):l.dir.dot l.dir≠0:=by have:=BE h;grind
def wB:PF GB prog 193 [eL l] (eP l.dir):=by
 refine fn func193 J J ntmps193 J J (fun C=>?_);refine cl J jc J<|cl J jc J<|cl J tC J<|rz J J
def GJ{p q:ah}[hp:aE p i][hq:aE q j](hi:i<=200000:=by decide)(hj:j<=200000:=by decide):PF GB prog 194 [eP p,eP q] (eQ (p.dot q)):=by
 refine fn func194 J J ntmps194 J J (fun C=>?_);refine cl J (gH we we) J<|cl J (gH we we) J<|cl J (ng we we) J<|rz J J
def CZ{p q:ah}[hp:aE p i][hq:aE q j](hi:i<=200000:=by decide)(hj:j<=200000:=by decide):PF GB prog 33 [eP p,eP q] (eQ (p.cross q)):=by
 refine fn func33 J J ntmps33 J J (fun C=>?_);refine cl J (gH we we) J<|cl J (gH we we) J<|cl J (tu we we) J<|rz J J
def Ai{p q:ah}{c:Rat}[hp:aE p i][hq:aE q j][hc:BQ c k](hi:i<=19000000:=by decide)(hj:j<=9000000:=by decide)(hk:k<=9000000:=by decide):PF GB prog 34 [eP p,eQ c,eP q] (eP (de p q c)):=by
 refine fn func34 J J ntmps34 J J (fun C=>?_);refine cl J (gH we we) J<|cl J (ng we we) J<|cl J (gH we we) J<|cl J (ng we we) J<|rz J J
def DP{p:ah}[hl:LB l][hp:aE p i](hi:i<=400000:=by decide):PF GB prog 198 [eL l,eP p] (eQ (l.value p)):=by
 refine fn func198 J J ntmps198 J J (fun C=>?_);refine cl J (jc (z:=l.a)) J<|cl J (gH we we) J<|cl J (jc (z:=l.b)) J<|cl J (gH we we) J<|cl J (ng we we) J<|cl J (jc (z:=l.c)) J<|cl J (ng we we) J<|rz J J
def A5{p:ah}[hl:LB l][hp:aE p i](hi:i<=400000:=by decide):PF GB prog 122 [eL l,eP p] (vI (l.value p).num.sign):=by
 refine fn func122 J J ntmps122 J J (fun C=>?_);refine cl J (DP hi) J<|cl J ry J<|rz J J
def Dp[hl:LB l](hn:l.Ne):PF GB prog 113 [eL l] (eP l.base):=by
 refine fn func113 J J ntmps113 J J (fun C=>?_);refine cl J wB J<|cl J (jc (z:=l.c)) J<|cl J GJ J<|cl J (wZ (OC hn)) J<|cl J tC J<|cl J (jc (z:=l.a)) J<|cl J gH J<|cl J (jc (z:=l.b)) J<|cl J gH J<|rz J (by rw[<-LR];rfl)
instance aE.base (l:aa) [LB l]:aE l.base 900:=by
 rw[<-LR];constructor
 .exact BQ.mono (inferInstance:BQ (-((l.c:Rat)/l.dir.dot l.dir)*(l.a:Rat)) _)
 .exact BQ.mono (inferInstance:BQ (-((l.c:Rat)/l.dir.dot l.dir)*(l.b:Rat)) _)
def Q4[hl:LB l][ht:BQ t k](hn:l.Ne)(hk:k<=200000:=by decide):PF GB prog 252 [eL l,eQ t] (eP (l.at t)):=by
 refine fn func252 J J ntmps252 J J (fun C=>?_);refine cl J (Dp hn) J<|cl J wB J<|cl J (Ai oma oma we) J<|rz J (by rw[<-yU];rfl)
def El{p:ah}[hl:LB l][hp:aE p k](hn:l.Ne)(hk:k<=200000:=by decide):PF GB prog 249 [eL l,eP p] (eQ (ir l p)):=by
 refine fn func249 J J ntmps249 J J (fun C=>?_);refine cl J wB J<|cl J (GJ we oma) J<|cl J (GJ we oma) J<|cl J (wZ (OC hn) we oma) J<|rz J J
instance BI.crossI (l m:aa) [LB l] [LB m]:BI (crossI l m) 385:=inferInstanceAs (BI (l.a*m.b-m.a*l.b) 385)
instance BI.meetX (l m:aa) [LB l] [LB m]:BI (meetX l m) 385:=inferInstanceAs (BI (l.b*m.c-m.b*l.c) 385)
instance BI.meetY (l m:aa) [LB l] [LB m]:BI (meetY l m) 385:=inferInstanceAs (BI (m.a*l.c-l.a*m.c) 385)
instance aE.imeet (l m:aa) [LB l] [LB m]:aE (dw l m) 772:=by
 unfold dw;split
 .exact⟨BQ.mono (k:=1) ⟨oma,oma⟩,BQ.mono (k:=1) ⟨oma,oma⟩⟩
 .exact⟨inferInstanceAs (BQ ((meetX l m:Rat)/(crossI l m:Rat)) 772),inferInstanceAs (BQ ((meetY l m:Rat)/(crossI l m:Rat)) 772)⟩
def Up(l m:aa):(((l.a:Rat)*(m.b:Rat)-(m.a:Rat)*(l.b:Rat)).num.sign=0)↔crossI l m=0:=by
 rw[qg,<-vO];exact cX
def LJ{m:aa}(h:crossI l m≠0):(l.a:Rat)*(m.b:Rat)-(m.a:Rat)*(l.b:Rat)≠0:=by
 rw[<-vO];exact fun e=>h (cX.1 e)
def KP{m:aa}[hl:LB l][hm:LB m]:PF GB prog 114 [eL l,eL m] (.tp [eP (dw l m),vB (decide (crossI l m≠0))]):=by
 refine fn func114 J J ntmps114 J J (fun C=>?_);refine cl J (jc (z:=l.a)) J<|cl J (jc (z:=m.b)) J<|cl J gH J<|cl J (jc (z:=m.a)) J<|cl J (jc (z:=l.b)) J<|cl J gH J<|cl J tu J<|cl J ry J<|br J J J (fun hc26=>?_) (fun hc26=>?_)
 .
  have hcr:=(Up l m).1 hc26;exact rz J (by unfold dw;rw[if_pos hcr,decide_eq_false (fun e=>e hcr)];show DV.tp [.ag [_, .sl [], .sl [],_, .sl [], .sl []],_]= .tp [eP ⟨0,0⟩,_];unfold eP dD;simp only[show(0:Rat).num=0 from J,show(0:Rat).den=1 from J,lN,nD];rfl)
 .
  have hcr:crossI l m≠0:=fun e=>hc26 ((Up l m).2 e);refine cl J (jc (z:=l.b)) J<|cl J (jc (z:=m.c)) J<|cl J gH J<|cl J (jc (z:=m.b)) J<|cl J (jc (z:=l.c)) J<|cl J gH J<|cl J tu J<|cl J (jc (z:=m.a)) J<|cl J (jc (z:=l.c)) J<|cl J gH J<|cl J (jc (z:=l.a)) J<|cl J (jc (z:=m.c)) J<|cl J gH J<|cl J tu J<|cl J (wZ (LJ hcr)) J<|cl J (wZ (LJ hcr)) J<|rz J (by unfold dw;rw[if_neg hcr,decide_eq_true hcr,IF,Qo,vO];rfl)
def en(l m:aa):Int:=if(l.a-m.a).sign≠0 then(l.a-m.a).sign else if(l.b-m.b).sign≠0 then(l.b-m.b).sign else(l.c-m.c).sign
def BW(l m:aa):en l m=0↔l=m:=by
 unfold en;constructor
 .intro h
  split at h
  .contradiction
  .split at h
   .contradiction
   .rename_i h1 h2
    have a1:=fM.1 (Decidable.not_not.1 h1);have a2:=fM.1 (Decidable.not_not.1 h2);have a3:=fM.1 h;exact aa.ext'
 .rintro rfl
  simp
def xD{m:aa}[hl:LB l][hm:LB m]:PF GB prog 121 [eL l,eL m] (vI (en l m)):=by
 refine fn func121 J J ntmps121 J J (fun C=>?_);refine cl J (IR (a:=l.a) (b:=m.a)) J<|br J J J (fun hc13=>?_) (fun hc13=>?_)
 .
  exact rz J (by show vI _=_;unfold en;rw[if_pos hc13])
 .
  refine cl J (IR (a:=l.b) (b:=m.b)) J<|br J J J (fun hc21=>?_) (fun hc21=>?_)
  .
   exact rz J (by show vI _=_;unfold en;rw[if_neg hc13,if_pos hc21])
  .
   refine cl J (IR (a:=l.c) (b:=m.c)) J<|rz J (by show vI _=_;unfold en;rw[if_neg hc13,if_neg hc21])
theorem omk{p:Prop}(h:p:=by show vI _=vI _;unfold ah.half;generalize v.x.num.sign=sx at*;generalize v.y.num.sign=sy at*;congr 1;(repeat' split)<;>omega):p:=h
def SK{v:ah}:PF GB prog 284 [eP v] (vI v.half):=by
 refine fn func284 J J ntmps284 J J (fun C=>?_);refine cl J (ry (q:=v.x)) J<|cl J (ry (q:=v.y)) J<|cs 13 J J J (fun hg13=>?_) (fun hg13=>?_)
 .
  refine br J J J (fun hc16=>?_) (fun hc16=>?_)
  .
   exact rz J omk
  .
   refine cs 19 J J J (fun hg19=>?_) (fun hg19=>?_)
   .
    exact rz J omk
   .
    refine cs 22 J J J (fun hg22=>?_) (fun hg22=>?_)
    .
     refine br J J J (fun hc26=>?_) (fun hc26=>?_)
     .
      exact rz J omk
     .
      exact rz J omk
    .
     exact rz J omk
 .
  refine cs 19 J J J (fun hg19=>?_) (fun hg19=>?_)
  .
   exact rz J omk
  .
   refine cs 22 J J J (fun hg22=>?_) (fun hg22=>?_)
   .
    refine br J J J (fun hc26=>?_) (fun hc26=>?_)
    .
     exact rz J omk
    .
     exact rz J omk
   .
    exact rz J omk
def YC(z:Int): -1<=z.sign/\z.sign<=1:=by
 rcases pN z 0 with h|h|h
 .rw[eK h];omega
 .rw[h];decide
 .rw[fS h];omega
def aEt{u v:ah}[hu:aE u i][hv:aE v j](hi:i<=200000:=by decide)(hj:j<=200000:=by decide):PF GB prog 265 [eP u,eP v] (vI (gm u v)):=by
 refine fn func265 J J ntmps265 J J (fun C=>?_);refine cl J (SK (v:=u)) J<|cl J (SK (v:=v)) J<|br J J J (fun hc13=>?_) (fun hc13=>?_)
 .
  refine br J J J (fun hc16=>?_) (fun hc16=>?_)
  .
   exact rz J (by show vI _=vI _;unfold gm;rw[if_pos hc16])
  .
   exact rz J (by show vI _=vI _;unfold gm;rw[if_neg hc16,if_pos we])
 .
  refine cl J (CZ hi hj) J<|cl (hv:=by simp only[ak];exact(by have:=YC (u.cross v).num;omega)) J ry J<|rz J (by show vI _=vI _;unfold gm;rw[if_neg we,if_neg we])
instance BQ.i1:BQ (((1:Int):Rat)) 2:=⟨oma,oma⟩
def eV(v:au):DV:= .ag [.v (.bool (decide (v.lo.num<0))),dN v.lo.num.natAbs,dD v.lo.den, .v (.bool (decide (v.hi.num<0))),dN v.hi.num.natAbs,dD v.hi.den, .v (.bool v.nl), .v (.bool v.nh)]
def aIB:eV au.all= .ag [.v (.bool false), .sl [], .sl [], .v (.bool false), .sl [], .sl [], .v (.bool true), .v (.bool true)]:=by
 unfold eV au.all dD;simp only[show(0:Rat).num=0 from J,show(0:Rat).den=1 from J,lN,nD];rfl
def D0:eQ 0= .ag [.v (.bool false), .sl [], .sl []]:=by
 unfold eQ dD;simp only[show(0:Rat).num=0 from J,show(0:Rat).den=1 from J,lN,nD];rfl
def lc(v:au):Rat:=if v.nl=true/\v.nh=true then 0 else if v.nl=true then v.hi-1 else if v.nh=true then v.lo+1 else(v.lo+v.hi)/2
def Sd:PF GB prog 279 [] (eV au.all):=by
 refine fn func279 J J ntmps279 J J (fun C=>?_);exact rz J (by rw[aIB];rfl)
def X9[hl:BQ v.lo i][hh:BQ v.hi i](hi:i<=100000:=by decide):PF GB prog 253 [eV v] (eQ (lc v)):=by
 refine fn func253 J J ntmps253 J J (fun C=>?_);refine iE 6 J J J (fun hg6=>?_) (fun hg6=>?_)
 .
  refine bb J J J (fun hc3=>?_) (fun hc3=>?_)
  .
   exact rz J (by unfold lc;rw[if_pos ⟨hg6,hc3⟩,D0];rfl)
  .
   refine bb J J J (fun hc11=>?_) (fun hc11=>?_)
   .
    refine cl J (ju (n:=1)) J<|cl J (tu (a:=v.hi) (b:=((1:Int):Rat)) we oma) J<|rz J (by unfold lc;rw[if_neg (by simp[hc3]),if_pos hc11];rfl)
   .
    refine bb J J J (fun hc18=>?_) (fun hc18=>?_)
    .
     refine cl J (ju (n:=1)) J<|cl J (ng (a:=v.lo) (b:=((1:Int):Rat)) we oma) J<|rz J (by simp[hg6] at hc11)
    .
     refine cl J (Eb (a:=v.lo) (b:=v.hi) we we) J<|rz J (by simp[hg6] at hc11)
 .
  refine bb J J J (fun hc11=>?_) (fun hc11=>?_)
  .
   refine cl J (ju (n:=1)) J<|cl J (tu (a:=v.hi) (b:=((1:Int):Rat)) we oma) J<|rz J (by simp[hg6] at hc11)
  .
   refine bb J J J (fun hc18=>?_) (fun hc18=>?_)
   .
    refine cl J (ju (n:=1)) J<|cl J (ng (a:=v.lo) (b:=((1:Int):Rat)) we oma) J<|rz J (by unfold lc;rw[if_neg (by simp[hg6]),if_neg (by simp[hg6]),if_pos hc18];rfl)
   .
    refine cl J (Eb (a:=v.lo) (b:=v.hi) we we) J<|rz J (by unfold lc;rw[if_neg (by simp[hg6]),if_neg (by simp[hg6]),if_neg (by simp[hc18])];rfl)
theorem BQ.of_fracI{n:Int}(hd:0<D.natAbs)(h:q*((D.natAbs:Nat):Rat)=(n:Rat))(hn:BI n i)(hD:BI D i):BQ q i:=BQ.of_frac hd h hn.h hD.h
theorem CY(h:BI m i)(hij:i<=j:=by decide):BI m j:=⟨cM h.h (vz hij)⟩
theorem DS{m:aa}[LB l][LB m](hn:l.Ne)(h:crossI l m≠0):BQ (ir l (dw l m)) 1200:=by
 have e:=auh hn h;have hA:BI (crossI l m*(l.a*l.a+l.b*l.b)) _:=inferInstance;have hB:BI (meetX l m*l.b-meetY l m*l.a) _:=inferInstance;have hne:crossI l m*(l.a*l.a+l.b*l.b)≠0:=by
  intro q;rcases pT.1 q with q|q
  .exact h q
  .have h1:=BE hn
   simp only[aa.dir,ah.dot] at h1;have h2:((l.a*l.a+l.b*l.b:Int):Rat)=((0:Int):Rat):=by rw[q]
   rw[nJ,cS,cS] at h2;have h3:((0:Int):Rat)=0:=J;rw[h3] at h2;grind
 have hA':=CY (j:=1200) hA;have hB':=CY (j:=1200) hB;generalize crossI l m*(l.a*l.a+l.b*l.b)=D at*;generalize meetX l m*l.b-meetY l m*l.a=M at*;by_cases hD:0<D
 .refine BQ.of_fracI (n:=M) (D:=D) we ?_ hB' hA'
  rw[<-e];congr 1;have:((D.natAbs:Nat):Int)=D:=by omega
  rw[<-this];rfl
 .refine BQ.of_fracI (n:= -M) (D:=D) we ?_ (BI.neg M 1200 (h:=hB')) hA'
  rw[kU,<-e];have:((D.natAbs:Nat):Rat)= -(D:Rat):=by
   have h1:((D.natAbs:Nat):Int)= -D:=by omega
   rw[<-kU,<-h1];rfl
  rw[this];grind
def P7(k:Rat):k.num.sign<=0↔ ¬0<k:=by rw[<-mO];omega
def aBF(h1: ¬w.nl=true)(h2: ¬w.nh=true)(h3:0<=bw w.lo w.hi):w.empty=true:=by
 unfold au.empty;simp[h1,h2,h3]
def apQ(h:w.nl=true):w.empty=false:=by unfold au.empty;simp[h]
def apb(h:w.nh=true):w.empty=false:=by unfold au.empty;simp[h]
def YT(h: ¬0<=bw w.lo w.hi):w.empty=false:=by unfold au.empty;simp[h]
def gj(l:aa):List aa->au->au×Bool
 |[],v=>(v,true)
 |m::t,v=>if m=l then gj l t v else if l.cutB v m=true then gj l t (l.cutV v m) else(l.cutV v m,false)
def zc{l:aa}: ∀{c:List aa} {v:au},(gj l c v).2=(ge l c v).isSome
 |[],v=>rfl
 |m::t,v=>by
  rw[gj,KE];split
  .exact zc
  .split
   .exact zc
   .rfl
structure jH (l:aa) (c:List aa) (k:Nat) (v:au):Prop where
 le:k<=c.length
 p:ge l (c.drop k) v=ge l c au.all
 e:gj l (c.drop k) v=gj l c au.all
 z:ik v
 lo:BQ v.lo 1200
 hi:BQ v.hi 1200
def jH.skip{c:List aa}(h:jH l c k v)(hk:k<c.length)(e:c[k]=l):jH l c (k+1) v:=
 ⟨hk,by have:=h.p;rw[bK hk,KE,if_pos e] at this;exact this,by have:=h.e;rw[bK hk,gj,if_pos e] at this;exact this,h.z,h.lo,h.hi⟩
def jH.cut{c:List aa}(h:jH l c k v)(hk:k<c.length)(e:c[k]≠l)(hb:l.cutB v c[k]=true)(hw:l.cutV v c[k]=w)(z:ik w)(lo:BQ w.lo 1200)(hi:BQ w.hi 1200):jH l c (k+1) w:=
 ⟨hk,by have:=h.p;rw[bK hk,KE,if_neg e,if_pos hb,hw] at this;exact this,by have:=h.e;rw[bK hk,gj,if_neg e,if_pos hb,hw] at this;exact this,z,lo,hi⟩
def jH.no{c:List aa}(h:jH l c k v)(hk:k<c.length)(e:c[k]≠l)(hb:l.cutB v c[k]=false)(hw:l.cutV v c[k]=w):gj l c au.all=(w,false):=by
 rw[<-h.e,bK hk,gj,if_neg e,if_neg (by rw[hb];decide),hw]
def jH.yes{c:List aa}(h:jH l c k v)(hk:c.length<=k):gj l c au.all=(v,true):=by
 rw[<-h.e,jW hk];rfl
def jH.all{l:aa}{c:List aa}:jH l c 0 au.all:=⟨aS _,by rw[iZ],by rw[iZ],ik.all,BQ.mono (k:=1) ⟨oma,oma⟩,BQ.mono (k:=1) ⟨oma,oma⟩⟩
def Tq(h:v.nl=true\/0<bw t v.lo):(⟨t,v.hi,false,v.nh⟩:au)=pG v t:=by unfold pG;rw[if_pos h]
def Z'(h: ¬v.nl=true)(h2: ¬0<bw t v.lo):v=pG v t:=by unfold pG;rw[if_neg (fun e=>e.elim h h2)]
def Sb(h:v.nh=true\/bw t v.hi<0):(⟨v.lo,t,v.nl,false⟩:au)=qz v t:=by unfold qz;rw[if_pos h]
def ZK(h: ¬v.nh=true)(h2: ¬bw t v.hi<0):v=qz v t:=by unfold qz;rw[if_neg (fun e=>e.elim h h2)]
def oI(l m:aa)(v:au):au:=if 0<(m.dir.cross l.dir).num.sign then pG v (ir l (dw l m)) else qz v (ir l (dw l m))
def Ll{m:aa}[LB l][LB m](hn:l.Ne)(hz:ik v)(hlo:BQ v.lo 1200)(hhi:BQ v.hi 1200)(h0:crossI l m≠0):l.cutV v m=oI l m v/\l.cutB v m=!(oI l m v).empty/\ik (oI l m v)/\BQ (oI l m v).lo 1200/\BQ (oI l m v).hi 1200:=by
 have hb:=DS (l:=l) (m:=m) hn h0;unfold oI;split
 .rename_i h
  obtain⟨_,h1,h2⟩:=aFh hn hz ((mO _).1 h);refine⟨h1,h2,hz.lo' _,?_⟩;unfold pG;split
  .exact⟨hb,hhi⟩
  .exact⟨hlo,hhi⟩
 .rename_i h
  obtain⟨h1,h2⟩:=aFV hn hz h0 (fun e=>h ((mO _).2 e));refine⟨h1,h2,hz.hi' _,?_⟩;unfold qz;split
  .exact⟨hlo,hb⟩
  .exact⟨hlo,hhi⟩
theorem CF{l:aa}[LB l](hn:l.Ne): ∀{c:List aa} {v:au},(∀m∈c,LB m)->ik v->BQ v.lo 1200->BQ v.hi 1200->BQ (gj l c v).1.lo 1200/\BQ (gj l c v).1.hi 1200
 |[],v,_,_,h1,h2=>⟨h1,h2⟩
 |m::t,v,hc,hz,h1,h2=>by
  haveI:=hc m aZ;have hw:ik (l.cutV v m)/\BQ (l.cutV v m).lo 1200/\BQ (l.cutV v m).hi 1200:=by
   by_cases h0:crossI l m=0
   .rw[(BT (v:=v) h0).1];exact⟨hz,h1,h2⟩
   .obtain⟨u1,_,u3,u4,u5⟩:=Ll (v:=v) hn hz h1 h2 h0
    rw[u1];exact⟨u3,u4,u5⟩
  have hc':=fun m hm=>hc m (aJ _ hm);rw[gj];split
  .exact CF hn hc' hz h1 h2
  .split
   .exact CF hn hc' hw.1 hw.2.1 hw.2.2
   .exact hw.2
theorem omB{p:Prop}(h:p:=by dsimp only;exact⟨hinv,we⟩):p:=h
theorem okK{p:Prop}(h:p:=by rw[hm];rfl):p:=h
def TG{c:List aa}(hc: ∀m∈c,LB m)(hok: ∀m∈c,m.ok)(hn:c.length<=1000)(hi:i<c.length):PF GB prog 250 [.sl (c.map eL),vI (i:Nat)] (.tp [eV (gj (c[i]'hi) c au.all).1,vB (gj (c[i]'hi) c au.all).2]):=by
 have hcl:=wY c;obtain⟨l,hl⟩: ∃l,l=c[i]:=⟨_,rfl⟩;rw[<-hl];haveI hlb:LB l:=hl▸hc _ (cR hi);have hlo:l.ok:=hl▸hok _ (cR hi);refine fn func250 J J ntmps250 J J (fun C=>?_);refine ix (fu:=⟨1⟩) _ J (xo hi) J<|aj 16 (.d (eL l)) J (by rw[hl];rfl)<|gx J<|cl (fu:=⟨9⟩) J Sd J<|aj 19 (.d (vI (c.length:Nat))) J (by rw[hcl];rfl)<|gx J<|lp (X:=au×Nat) (fun⟨v,k⟩=>[(20, .d (vI (k:Nat))),(19, .d (vI (c.length:Nat))),(18, .d (.sl (c.map eL))),(1, .d (vI (i:Nat))),(6, .ov 6 0),(7, .ov 7 0),(4, .ov 4 0)]) (fun⟨v,k⟩=>[(7,some (.o 219 [.d ((.v (.bool (decide (v.lo.num<0))))), .d (dN v.lo.num.natAbs), .d (dD v.lo.den), .d ((.v (.bool (decide (v.hi.num<0))))), .d (dN v.hi.num.natAbs), .d (dD v.hi.den), .d ((.v (.bool v.nl))), .d ((.v (.bool v.nh)))] true)),(6,some (.o 99 [.d ((.v (.bool (decide (l.a<0))))), .d (dN l.a.natAbs), .d ((.v (.bool (decide (l.b<0))))), .d (dN l.b.natAbs), .d ((.v (.bool (decide (l.c<0))))), .d (dN l.c.natAbs)] true)),(4,some (.o 219 [.ff, .nl, .nl, .ff, .nl, .nl, .ff, .ff] true))]) (fun⟨v,k⟩=>jH l c k v) (fun⟨v,k⟩=>c.length-k) ⟨au.all,0⟩ J jH.all (fun _=>J) (fun⟨v,k⟩ hk=>?_)
 try dsimp only at hk⊢
 have hS:=hk;refine br J J J (fun hc21=>?_) (fun hc21=>?_)
 .
  have hk:k<c.length:=by omega
  obtain⟨m,hm⟩: ∃m,m=c[k]:=⟨_,rfl⟩;haveI hmb:LB m:=hm▸hc _ (cR hk);have hmo:m.ok:=hm▸hok _ (cR hk);refine ix (fu:=⟨1⟩) _ J (xo hk) J<|aj 24 (.d (eL m)) J okK<|gx J<|cs 28 J J J (fun hg28=>?_) (fun hg28=>?_)
  .
   have hinv:jH l c (k+1) v:=hS.skip hk (by rw[hl];congr 1;omega);exact at_ ⟨v,k+1⟩ omB
  .
   refine cl J (xD (l:=l) (m:=m)) J<|br J J J (fun hc33=>?_) (fun hc33=>?_)
   .
    have hinv:jH l c (k+1) v:=hS.skip hk (by rw[<-hm,(BW l m).1 hc33]);exact at_ ⟨v,k+1⟩ omB
   .
    have hne:c[k]≠l:=fun e=>hc33 ((BW l m).2 (by rw[hm,e]));refine cl (fu:=⟨13⟩) J (KP (l:=l) (m:=m)) J<|aj 41 (.d (.v (.bool (decide (crossI l m=0))))) J omc<|gx J<|bd J J J (fun hc41=>?_) (fun hc41=>?_)
    .
     refine cl J (Dp hlo.ne) J<|cl J (A5 (l:=m) (p:=l.base)) J<|br J J J (fun hc46=>?_) (fun hc46=>?_)
     .
      have hno:=hS.no (w:=v) hk hne (by have:=(BT (v:=v) hc41).2;rw[<-hm];cases hb:l.cutB v m with|false=>rfl|true=>exact absurd (this.1 hb) ((P7 _).1 hc46)) (by rw[<-hm];exact(BT (v:=v) hc41).1);exact rz J (by rw[hno];rfl)
     .
      have hinv:jH l c (k+1) v:=by have:=BT (v:=v) hc41;exact hS.cut hk hne (by rw[<-hm];exact this.2.2 (by have:=mt (P7 (m.value l.base)).2 hc46;exact Decidable.not_not.1 this)) (by rw[<-hm];exact this.1) hS.z hS.lo hS.hi
      exact at_ ⟨v,k+1⟩ omB
    .
     obtain⟨u1,u2,u3,u4,u5⟩:=Ll (v:=v) hlo.ne hS.z hS.lo hS.hi hc41;haveI htb:=DS hlo.ne hc41;haveI hvl:=hS.lo;haveI hvh:=hS.hi;refine cl (fu:=⟨0⟩) J (El (l:=l) (p:=dw l m) hlo.ne) J<|?_;obtain⟨t,ht⟩: ∃t,t=ir l (dw l m):=⟨_,rfl⟩;refine aj 50 (.d (eQ t)) J (by rw[ht]) ?_;rw[<-ht] at htb;refine gx (fu:=⟨5⟩) J<|mg (X:=au) (fun w=>[(20, .d (vI (k:Nat))),(19, .d (vI (c.length:Nat))),(18, .d (.sl (c.map eL))),(1, .d (vI (i:Nat))),(6, .ov 6 0),(7, .ov 7 0),(4, .ov 4 0)]) (fun w=>[(7,some (.o 219 [.d ((.v (.bool (decide (w.lo.num<0))))), .d (dN w.lo.num.natAbs), .d (dD w.lo.den), .d ((.v (.bool (decide (w.hi.num<0))))), .d (dN w.hi.num.natAbs), .d (dD w.hi.den), .d ((.v (.bool w.nl))), .d ((.v (.bool w.nh)))] true)),(6,some (.o 99 [.d ((.v (.bool (decide (l.a<0))))), .d (dN l.a.natAbs), .d ((.v (.bool (decide (l.b<0))))), .d (dN l.b.natAbs), .d ((.v (.bool (decide (l.c<0))))), .d (dN l.c.natAbs)] true)),(4,some (.o 219 [.ff, .nl, .nl, .ff, .nl, .nl, .ff, .ff] true))]) (fun w=>w=oI l m v) [20,19,18,1,6,7,4] [7,6,4] rfl ?_ (fun _=>J) (fun w hw=>?_)
     .
      refine gx J<|cl J (wB (l:=m)) J<|cl J (wB (l:=l)) J<|cl J (CZ (p:=m.dir) (q:=l.dir)) J<|cl J (ry (q:=m.dir.cross l.dir)) J<|br J J J (fun hc57=>?_) (fun hc57=>?_)
      .
       refine iE 60 J J J (fun hg60=>?_) (fun hg60=>?_)
       .
        refine CU 7 J J J<|at_ ⟨t,v.hi,false,v.nh⟩ (by unfold oI;rw[if_pos hc57,<-ht];exact Tq (.inl hg60))
       .
        refine cl J (jF (a:=t) (b:=v.lo)) J<|br J J J (fun hc66=>?_) (fun hc66=>?_)
        .
         refine CU 7 J J J<|at_ ⟨t,v.hi,false,v.nh⟩ (by unfold oI;rw[if_pos hc57,<-ht];exact Tq (.inr hc66))
        .
         exact at_ v (by unfold oI;rw[if_pos hc57,<-ht];exact Z' (by simp[hg60]) hc66)
      .
       refine iE 72 J J J (fun hg72=>?_) (fun hg72=>?_)
       .
        refine CU 7 J J J<|at_ ⟨v.lo,t,v.nl,false⟩ (by unfold oI;rw[if_neg hc57,<-ht];exact Sb (.inl hg72))
       .
        refine cl J (jF (a:=t) (b:=v.hi)) J<|br J J J (fun hc78=>?_) (fun hc78=>?_)
        .
         refine CU 7 J J J<|at_ ⟨v.lo,t,v.nl,false⟩ (by unfold oI;rw[if_neg hc57,<-ht];exact Sb (.inr hc78))
        .
         exact at_ v (by unfold oI;rw[if_neg hc57,<-ht];exact ZK (by simp[hg72]) hc78)
     .
      rw[<-hw] at u1 u2 u3 u4 u5;haveI:=u4;haveI:=u5;refine iE 85 J J J (fun hg85=>?_) (fun hg85=>?_)
      .
       refine iE 90 J J J (fun hg90=>?_) (fun hg90=>?_)
       .
        refine cl J (jF (a:=w.lo) (b:=w.hi)) J<|br J J J (fun hc97=>?_) (fun hc97=>?_)
        .
         have hno:=hS.no (w:=w) hk hne (by rw[<-hm,u2,aBF (by simpa using hg85) (by simpa using hg90) hc97];rfl) (by rw[<-hm,u1]);exact rz J (by rw[hno];rfl)
        .
         have hinv:jH l c (k+1) w:=hS.cut hk hne (by rw[<-hm,u2,YT hc97];rfl) (by rw[<-hm,u1]) u3 u4 u5;exact at_ ⟨w,k+1⟩ omB
       .
        have hinv:jH l c (k+1) w:=hS.cut hk hne (by rw[<-hm,u2,apb (by simpa using hg90)];rfl) (by rw[<-hm,u1]) u3 u4 u5;exact at_ ⟨w,k+1⟩ omB
      .
       have hinv:jH l c (k+1) w:=hS.cut hk hne (by rw[<-hm,u2,apQ (by simpa using hg85)];rfl) (by rw[<-hm,u1]) u3 u4 u5;exact at_ ⟨w,k+1⟩ omB
 .
  exact rz J (by rw[hS.yes we];rfl)
def co(l:aa):DV:= .ag [vI (ew (l.a:Rat)),vI (et (l.a:Rat)),ez (l.a:Rat),vI (ew (l.b:Rat)),vI (et (l.b:Rat)),ez (l.b:Rat),vI (ew (l.c:Rat)),vI (et (l.c:Rat)),ez (l.c:Rat)]
def eZ(p:ah):DV:= .ag [vI (ew p.x),vI (et p.x),ez p.x,vI (ew p.y),vI (et p.y),ez p.y]
def eW(v:au):DV:= .ag [vI (ew v.lo),vI (et v.lo),ez v.lo,vI (ew v.hi),vI (et v.hi),ez v.hi, .v (.bool v.nl), .v (.bool v.nh)]
def DT{t:List DV}(h:IsLs G (vI 0::vI 0:: .v (.pointer none)::t) vs):IsLs G (vI (ew 0)::vI (et 0)::ez 0::t) vs:=by
 obtain⟨y1,l1,rfl,k1,g1⟩:=bh.1 h;obtain⟨y2,l2,rfl,k2,g2⟩:=bh.1 g1;obtain⟨y3,l3,rfl,k3,g3⟩:=bh.1 g2;have e:decide (jG 0)=false:=decide_eq_false fun h=>H0 h J;exact .cons k1 (.cons k2 (.cons (xi.2 (.inl ⟨e,aI.1 k3⟩)) g3))
def I7(a:List DV){t:List DV}(h:IsLs G (a++vI 0::vI 0:: .v (.pointer none)::t) vs):IsLs G (a++vI (ew 0)::vI (et 0)::ez 0::t) vs:=by
 obtain⟨x,y,rfl,h1,h2⟩:=h.unapp;exact h1.app (DT h2)
def aHv(G:Gh)(y:Value)(k:Is G (.ag [vI 0,vI 0, .v (.pointer none),vI 0,vI 0, .v (.pointer none), .v (.bool true), .v (.bool true)]) y):Is G (eW au.all) y:=by
 obtain⟨l,rfl,g⟩:=eG.1 k;exact eG.2 ⟨l,J,DT (I7 [vI 0,vI 0, .v (.pointer none)] g)⟩
def pB:List Int->Int
 |[]=>0
 |a::t=>if a≠0 then a else pB t
theorem aE.nor(l:aa)[LB l]:aE l.nor 97:=⟨inferInstanceAs (BQ (l.a:Rat) 97),inferInstanceAs (BQ (l.b:Rat) 97)⟩
attribute [instance] aE.nor
instance aE.scale (p:ah) (c:Rat) (i k:Nat) [aE p i] [BQ c k]:aE (p.scale c) (i+k):=⟨inferInstanceAs (BQ (p.x*c) _),inferInstanceAs (BQ (p.y*c) _)⟩
instance LB.revA (l:aa) [h:LB l]:LB l.rev:=⟨⟨by rw[show l.rev.a= -l.a from J,jX];exact h.bl.a,by rw[show l.rev.b= -l.b from J,jX];exact h.bl.b,by rw[show l.rev.c= -l.c from J,jX];exact h.bl.c⟩⟩
def aLj:PF GB prog 218 [] (eW au.all):=by
 refine fn func218 J J ntmps218 J J (fun C=>?_);exact jP J aHv
def xm:PF GB prog 91 [co l] (eZ l.nor):=by
 refine fn func91 J J ntmps91 J J (fun C=>?_);exact rz J J
def xh[hl:LB l]:PF GB prog 163 [co l] (eZ l.dir):=by
 refine fn func163 J J ntmps163 J J (fun C=>?_);refine cl J (tj (q:=(l.a:Rat))) J<|rz J J
def wv{p q:ah}[hp:aE p i][hq:aE q j](hi:i<=40000000:=by decide)(hj:j<=40000000:=by decide):PF GB prog 100 [eZ p,eZ q] (eF (p.dot q)):=by
 refine fn func100 J J ntmps100 J J (fun C=>?_);refine cl J (py (p:=p.x) (q:=q.x) we we) J<|cl J (py (p:=p.y) (q:=q.y) we we) J<|cl J (tf (p:=p.x*q.x) (q:=p.y*q.y) we we) J<|rz J J
def Ek{p q:ah}[hp:aE p i][hq:aE q j](hi:i<=40000000:=by decide)(hj:j<=40000000:=by decide):PF GB prog 217 [eZ p,eZ q] (eF (p.cross q)):=by
 refine fn func217 J J ntmps217 J J (fun C=>?_);refine cl J (py (p:=p.x) (q:=q.y) we we) J<|cl J (py (p:=p.y) (q:=q.x) we we) J<|cl J (rP (p:=p.x*q.y) (q:=p.y*q.x) we we) J<|rz J J
def Tv{p:ah}{c:Rat}[hp:aE p i][hc:BQ c j](hi:i<=40000000:=by decide)(hj:j<=40000000:=by decide):PF GB prog 230 [eZ p,eF c] (eZ (p.scale c)):=by
 refine fn func230 J J ntmps230 J J (fun C=>?_);refine cl J (py (p:=p.x) (q:=c) we we) J<|cl J (py (p:=p.y) (q:=c) we we) J<|rz J J
def XI{p q:ah}[hp:aE p i][hq:aE q j](hi:i<=40000000:=by decide)(hj:j<=40000000:=by decide):PF GB prog 229 [eZ p,eZ q] (eZ (p.add q)):=by
 refine fn func229 J J ntmps229 J J (fun C=>?_);refine cl J (tf we we) J<|cl J (tf we we) J<|rz J J
def M4[hl:LB l]:PF GB prog 222 [co l] (eZ l.base):=by
 refine fn func222 J J ntmps222 J J (fun C=>?_);refine cl J xm J<|cl J (tj (q:=(l.c:Rat))) J<|cl J (wv (p:=l.nor) (q:=l.nor)) J<|cl J (AU (p:= -(l.c:Rat)) (q:=l.nor.dot l.nor)) J<|cl J (Tv (p:=l.nor)) J<|rz J J
def Nq{p:ah}[hl:LB l][hp:aE p i](hi:i<=10000000:=by decide):PF GB prog 221 [co l,eZ p] (eF (l.value p)):=by
 refine fn func221 J J ntmps221 J J (fun C=>?_);refine cl J (xm (l:=l)) J<|cl J (wv (p:=l.nor) (q:=p) we we) J<|cl J (tf (p:=l.nor.dot p) (q:=(l.c:Rat)) we we) J<|rz J J
def aFR{p:ah}[hl:LB l][hp:aE p i](hi:i<=10000000:=by decide):PF GB prog 219 [co l,eZ p] (vI (l.value p).num.sign):=by
 refine fn func219 J J ntmps219 J J (fun C=>?_);refine cl J (Nq (l:=l) (p:=p) hi) J<|cl J (nA (q:=l.value p) we) J<|rz J J
def QM[hl:LB l][ht:BQ t i](hi:i<=10000000:=by decide):PF GB prog 170 [co l,eF t] (eZ (l.at t)):=by
 refine fn func170 J J ntmps170 J J (fun C=>?_);refine cl J (M4 (l:=l)) J<|cl J (xh (l:=l)) J<|cl J (Tv (p:=l.dir) (c:=t) we we) J<|cl J (XI (p:=l.base) (q:=l.dir.scale t) we we) J<|rz J J
theorem okO{p:Prop}(h:p:=by unfold au.empty;simp_all [vB,fg]):p:=h
def XA[h1:BQ v.lo i][h2:BQ v.hi j](hi:i<=40000000:=by decide)(hj:j<=40000000:=by decide):PF GB prog 269 [eW v] (vB v.empty):=by
 refine fn func269 J J ntmps269 J J (fun C=>?_);refine iE 6 J J J (fun hg6=>?_) (fun hg6=>?_)
 .
  refine iE 11 J J J (fun hg11=>?_) (fun hg11=>?_)
  .
   refine cl J (xe (p:=v.lo) (q:=v.hi) we we) J<|rz J okO
  .
   exact rz J okO
 .
  exact rz J okO
instance au.meet_lo (v w:au) (i j:Nat) [h1:BQ v.lo i] [h3:BQ w.lo j]:BQ (v.meet w).lo (i+j):=by
 have a:=h1.mono (oM i j);have b:=h3.mono (Nat.le_add_left j i);unfold au.meet;dsimp only;(repeat' split)<;>assumption
instance au.meet_hi (v w:au) (i j:Nat) [h1:BQ v.hi i] [h3:BQ w.hi j]:BQ (v.meet w).hi (i+j):=by
 have a:=h1.mono (oM i j);have b:=h3.mono (Nat.le_add_left j i);unfold au.meet;dsimp only;(repeat' split)<;>assumption
def TU[h1:BQ v.lo i][h2:BQ v.hi i][h3:BQ w.lo j][h4:BQ w.hi j](hi:i<=10000000:=by decide)(hj:j<=10000000:=by decide):PF GB prog 223 [eW v,eW w] (.tp [eW (v.meet w),vB (!(v.meet w).empty)]):=by
 refine fn (fu:=⟨16⟩) func223 J J ntmps223 J J (fun C=>?_);refine mg (fu:=⟨1⟩) (X:=Unit) (fun _=>[(6, .ov 6 0)]) (fun _=>[(6,some (.o 177 [.d (vI (ew (v.meet w).lo)), .d (vI (et (v.meet w).lo)), .d (ez (v.meet w).lo), .d (vI (ew v.hi)), .d (vI (et v.hi)), .d (ez v.hi), .d (.v (.bool (v.nl&&w.nl))), .d (.v (.bool (v.nh)))] true))]) (fun _=>True) [6] [6] rfl ?_ (fun _=>J) (fun _ _=>?_)
 .
  refine gx J<|bb (v1:=fun hc8=>by simp only[ak];kernel_rfl) J J J (fun hc8=>?_) (fun hc8=>?_)
  .
   have em:(v.meet w).lo=w.lo:=by unfold au.meet;simp_all
   have eb:(v.nl&&w.nl)=w.nl:=by simp_all
   exact at_ () trivial (hO:=⟨by rw[em,eb]<;>rfl,by repeat (first|exact trivial|refine And.intro J ?_)⟩)
  .
   refine bb J J J (fun hc17=>?_) (fun hc17=>?_)
   .
    refine cl J (aIh (p:=v.lo) (q:=w.lo) we we) J<|?_;have em:(v.meet w).lo=(if v.lo<w.lo then w.lo else v.lo):=by unfold au.meet;simp_all
    have eb:(v.nl&&w.nl)=v.nl:=by simp_all
    exact at_ () trivial (hO:=⟨by rw[em,eb]<;>rfl,by repeat (first|exact trivial|refine And.intro J ?_)⟩)
   .
    have em:(v.meet w).lo=v.lo:=by unfold au.meet;simp_all
    have eb:(v.nl&&w.nl)=v.nl:=by simp_all
    exact at_ () trivial (hO:=⟨by rw[em,eb]<;>rfl,by repeat (first|exact trivial|refine And.intro J ?_)⟩)
 .
  refine mg (X:=Unit) (fun _=>[(6, .ov 6 0)]) (fun _=>[(6,some (.o 177 [.d (vI (ew (v.meet w).lo)), .d (vI (et (v.meet w).lo)), .d (ez (v.meet w).lo), .d (vI (ew (v.meet w).hi)), .d (vI (et (v.meet w).hi)), .d (ez (v.meet w).hi), .d (.v (.bool (v.nl&&w.nl))), .d (.v (.bool (v.nh&&w.nh)))] true))]) (fun _=>True) [6] [6] rfl ?_ (fun _=>J) (fun _ _=>?_)
  .
   refine gx J<|bb (v1:=fun hc27=>by simp only[ak];kernel_rfl) J J J (fun hc27=>?_) (fun hc27=>?_)
   .
    have em:(v.meet w).hi=w.hi:=by unfold au.meet;simp_all
    have eb:(v.nh&&w.nh)=w.nh:=by simp_all
    exact at_ () trivial (hO:=⟨by rw[em,eb]<;>rfl,by repeat (first|exact trivial|refine And.intro J ?_)⟩)
   .
    refine bb J J J (fun hc36=>?_) (fun hc36=>?_)
    .
     refine cl J (RT (p:=v.hi) (q:=w.hi) we we) J<|?_;have em:(v.meet w).hi=(if w.hi<v.hi then w.hi else v.hi):=by unfold au.meet;simp_all
     have eb:(v.nh&&w.nh)=v.nh:=by simp_all
     exact at_ () trivial (hO:=⟨by rw[em,eb]<;>rfl,by repeat (first|exact trivial|refine And.intro J ?_)⟩)
    .
     have em:(v.meet w).hi=v.hi:=by unfold au.meet;simp_all
     have eb:(v.nh&&w.nh)=v.nh:=by simp_all
     exact at_ () trivial (hO:=⟨by rw[em,eb]<;>rfl,by repeat (first|exact trivial|refine And.intro J ?_)⟩)
  .
   refine cl J (XA (v:=v.meet w) (i:=i+j) (j:=i+j) we we) J<|rz J J
theorem BQ.z1:BQ (0:Rat) 1:=⟨oma,oma⟩
def aA7[h1:BQ v.lo i][h2:BQ v.hi i][h3:BQ t j](hi:i<=10000000:=by decide)(hj:j<=9999999:=by decide):PF GB prog 223 [eW v, .ag [vI (ew t),vI (et t),ez t,vI 0,vI 0, .v (.pointer none), .v (.bool false), .v (.bool true)]] (.tp [eW (v.meet ⟨t,0,false,true⟩),vB (!(v.meet ⟨t,0,false,true⟩).empty)]):=
 (TU (v:=v) (w:=⟨t,0,false,true⟩) (j:=j+1) (h3:=h3.mono we) (h4:=BQ.z1.mono we) hi we).ofI fun G vs hv=>KR (fun y hy=>by
  obtain⟨l,rfl,g⟩:=eG.1 hy;exact eG.2 ⟨l,J,I7 [_,_,_] g⟩) hv
def Yn[h1:BQ v.lo i][h2:BQ v.hi i][h3:BQ t j](hi:i<=10000000:=by decide)(hj:j<=9999999:=by decide):PF GB prog 223 [eW v, .ag [vI 0,vI 0, .v (.pointer none),vI (ew t),vI (et t),ez t, .v (.bool true), .v (.bool false)]] (.tp [eW (v.meet ⟨0,t,true,false⟩),vB (!(v.meet ⟨0,t,true,false⟩).empty)]):=
 (TU (v:=v) (w:=⟨0,t,true,false⟩) (j:=j+1) (h4:=h3.mono we) (h3:=BQ.z1.mono we) hi we).ofI fun G vs hv=>KR (fun y hy=>by
  obtain⟨l,rfl,g⟩:=eG.1 hy;exact eG.2 ⟨l,J,DT g⟩) hv
instance BQ.cutK (l m:aa) [LB l] [LB m]:BQ (l.cutK m) 400:=BQ.mono (inferInstance:BQ (m.nor.dot l.dir) _)
instance BQ.cutC (l m:aa) [LB l] [LB m]:BQ (l.cutC m) 2500:=BQ.mono (inferInstance:BQ (m.value l.base) _)
def Rd{m:aa}[hl:LB l][hm:LB m][h1:BQ v.lo i][h2:BQ v.hi i](hi:i<=10000000:=by decide):PF GB prog 159 [co l,eW v,co m] (.tp [eW (l.cutV v m),vB (l.cutB v m)]):=by
 refine fn func159 J J ntmps159 J J (fun C=>?_);refine cl J (xm (l:=m)) J<|cl J (xh (l:=l)) J<|cl J (wv (p:=m.nor) (q:=l.dir)) J<|cl J (M4 (l:=l)) J<|cl J (Nq (l:=m) (p:=l.base)) J<|cl J (nA (q:=l.cutK m)) J<|br J J J (fun hc21=>?_) (fun hc21=>?_)
 .
  refine cl J (nA (q:=l.cutC m)) J<|rz J (by unfold aa.cutV aa.cutB;rw[if_pos hc21,if_pos hc21];rfl)
 .
  refine br J J J (fun hc27=>?_) (fun hc27=>?_)
  .
   refine cl J (AU (p:=l.cutC m) (q:=l.cutK m)) J<|cl J (tj (q:=l.cutC m/l.cutK m)) J<|cl J (aA7 (v:=v) (t:= -(l.cutC m/l.cutK m)) hi) J<|rz J (by unfold aa.cutB aa.cutV;rw[if_neg hc21,if_neg hc21,if_pos hc27];rfl)
  .
   refine cl J (AU (p:=l.cutC m) (q:=l.cutK m)) J<|cl J (tj (q:=l.cutC m/l.cutK m)) J<|cl J (Yn (v:=v) (t:= -(l.cutC m/l.cutK m)) hi) J<|rz J (by unfold aa.cutB aa.cutV;rw[if_neg hc21,if_neg hc21,if_neg hc27];rfl)
theorem omF{p:Prop}(h:p:=by unfold au.sample;simp_all [fg]<;>rfl):p:=h
def MW[h1:BQ v.lo i][h2:BQ v.hi i](hi:i<=10000000:=by decide):PF GB prog 171 [eW v] (eF v.sample):=by
 refine fn func171 J J ntmps171 J J (fun C=>?_);refine iE 6 J J J (fun hg6=>?_) (fun hg6=>?_)
 .
  refine bb J J J (fun hc3=>?_) (fun hc3=>?_)
  .
   exact jP J (by unfold au.sample;rw[hg6,hc3];exact CC)
  .
   refine bb J J J (fun hc11=>?_) (fun hc11=>?_)
   .
    refine cl J (ug (m:=1)) J<|cl J (rP (p:=v.hi) (q:=((1:Int):Rat)) we oma) J<|rz J omF
   .
    refine bb J J J (fun hc18=>?_) (fun hc18=>?_)
    .
     refine cl J (ug (m:=1)) J<|cl J (tf (p:=v.lo) (q:=((1:Int):Rat)) we oma) J<|rz J omF
    .
     refine cl J (tf (p:=v.lo) (q:=v.hi) we we) J<|cl J (UC (q:=v.lo+v.hi) we) J<|rz J omF
 .
  refine bb J J J (fun hc11=>?_) (fun hc11=>?_)
  .
   refine cl J (ug (m:=1)) J<|cl J (rP (p:=v.hi) (q:=((1:Int):Rat)) we oma) J<|rz J omF
  .
   refine bb J J J (fun hc18=>?_) (fun hc18=>?_)
   .
    refine cl J (ug (m:=1)) J<|cl J (tf (p:=v.lo) (q:=((1:Int):Rat)) we oma) J<|rz J omF
   .
    refine cl J (tf (p:=v.lo) (q:=v.hi) we we) J<|cl J (UC (q:=v.lo+v.hi) we) J<|rz J omF
instance BQ.i1':BQ (1:Rat) 2:=⟨oma,oma⟩
instance BQ.i2':BQ (2:Rat) 2:=⟨oma,oma⟩
theorem U8[BQ v.lo i][BQ v.hi i]:BQ (lc v) (i+i+5):=by
 unfold lc;split
 .exact BQ.mono (k:=1) ⟨oma,oma⟩ we
 .split
  .exact BQ.mono (inferInstance:BQ (v.hi-1) _) we
  .split
   .exact BQ.mono (inferInstance:BQ (v.lo+1) _) we
   .exact BQ.mono (inferInstance:BQ ((v.lo+v.hi)/2) _) we
instance aE.at (l:aa) (t:Rat) (k:Nat) [LB l] [BQ t k]:aE (l.at t) (900+(k+97)+1):=by
 rw[<-yU];infer_instance
def axf(h: ¬q.num.sign=0):q≠0:=fun e=>h ((qg q).2 e)
def iB(d:ah):ah:=⟨-d.y,d.x⟩
instance aE.turn (d:ah) (k:Nat) [aE d k]:aE (iB d) k:=⟨inferInstanceAs (BQ (-d.y) k),inferInstanceAs (BQ d.x k)⟩
def vx(p v:ah)(m:aa):Rat:= -(m.value p/(m.value (de p v ((1:Int):Rat))-m.value p))
def u7(p v:ah)(m:aa)(s:Rat):Rat:=if(m.value (de p v ((1:Int):Rat))-m.value p).num.sign=0 then s else if(m.value p).num.sign=0 then s else if 0<(vx p v m).num.sign then(if bw (vx p v m/2) s<0 then vx p v m/2 else s) else s
def sk(p v:ah):List aa->Rat->Rat
 |[],s=>s
 |m::t,s=>sk p v t (u7 p v m s)
def FZ(c:List aa)(p v:ah):ah:=de p v (sk p v c ((1:Int):Rat))
def A6{c:List aa}{p v:ah}{r:Rat}{m:aa}(h:sk p v (c.drop k) s=r)(hk:k<c.length)(hm:m=c[k])(e:u7 p v m s=s'):sk p v (c.drop (k+1)) s'=r:=by
 rw[bK hk] at h;rw[<-h,sk,<-hm,e]
def aJK{c:List aa}{p v:ah}(hc: ∀m∈c,LB m)(hn:c.length<=1000)(hp:aE p 4500)(hv:aE v 97):PF GB prog 251 [.sl (c.map eL),eP p,eP v] (eP (FZ c p v)):=by
 have hcl:=wY c;refine fn func251 J J ntmps251 J J (fun C=>?_);refine cl (fu:=⟨9⟩) J (ju (n:=1)) J<|aj 14 (.d (vI (c.length:Nat))) J (by rw[hcl];rfl)<|gx J<|lp (X:=Rat×Nat) (fun⟨s,k⟩=>[(15, .d (vI (k:Nat))),(14, .d (vI (c.length:Nat))),(13, .d (.sl (c.map eL))),(4, .ov 4 0),(5, .ov 5 0),(7, .ov 7 0),(6, .ov 6 0)]) (fun⟨s,k⟩=>[(7,some (.o 81 [.d ((.v (.bool (decide (s.num<0))))), .d (dN s.num.natAbs), .d (dD s.den)] true)),(6,some (.o 83 [.ff, .nl, .nl, .ff, .nl, .nl] true)),(5,some (.o 83 [.d ((.v (.bool (decide (v.x.num<0))))), .d (dN v.x.num.natAbs), .d (dD v.x.den), .d ((.v (.bool (decide (v.y.num<0))))), .d (dN v.y.num.natAbs), .d (dD v.y.den)] true)),(4,some (.o 83 [.d ((.v (.bool (decide (p.x.num<0))))), .d (dN p.x.num.natAbs), .d (dD p.x.den), .d ((.v (.bool (decide (p.y.num<0))))), .d (dN p.y.num.natAbs), .d (dD p.y.den)] true))]) (fun⟨s,k⟩=>k<=c.length/\BQ s 60000/\sk p v (c.drop k) s=sk p v c ((1:Int):Rat)) (fun⟨s,k⟩=>c.length-k) ⟨((1:Int):Rat),0⟩ J ⟨aS _,BQ.i1.mono oma,J⟩ (fun _=>J) (fun⟨s,k⟩ hk=>?_)
 try dsimp only at hk⊢
 obtain⟨hle,hsb,hns⟩:=hk;refine br J J J (fun hc16=>?_) (fun hc16=>?_)
 .
  have hk:k<c.length:=by omega
  obtain⟨m,hm⟩: ∃m,m=c[k]:=⟨_,rfl⟩;haveI hmb:LB m:=hm▸hc _ (cR hk);have hinv:=hsb;refine ix (fu:=⟨1⟩) _ J (xo hk) J<|aj 18 (.d (eL m)) J okK<|gx J<|cl J (ju (n:=1)) J<|cl J (Ai (p:=p) (q:=v) (c:=((1:Int):Rat))) J<|cl J (DP (l:=m) (p:=de p v ((1:Int):Rat))) J<|cl J (DP (l:=m) (p:=p)) J<|cl J (tu (a:=m.value (de p v ((1:Int):Rat))) (b:=m.value p)) J<|cl J (ry (q:=m.value (de p v ((1:Int):Rat))-m.value p)) J<|cs 32 J J J (fun hg32=>?_) (fun hg32=>?_)
  .
   exact at_ ⟨s,k+1⟩ (by dsimp only;exact⟨⟨we,hinv,(A6 hns hk hm (by unfold u7;rw[if_pos hg32]))⟩,we⟩)
  .
   refine cl J (A5 (l:=m) (p:=p)) J<|br J J J (fun hc37=>?_) (fun hc37=>?_)
   .
    exact at_ ⟨s,k+1⟩ (by dsimp only;exact⟨⟨we,hinv,(A6 hns hk hm (by unfold u7;rw[if_neg hg32,if_pos hc37]))⟩,we⟩)
   .
    refine cl J (DP (l:=m) (p:=p)) J<|cl J (wZ (a:=m.value p) (b:=m.value (de p v ((1:Int):Rat))-m.value p) (axf hg32)) J<|cl J (tC (q:=m.value p/(m.value (de p v ((1:Int):Rat))-m.value p))) J<|cl (fu:=⟨0⟩) J (ry (q:= -(m.value p/(m.value (de p v ((1:Int):Rat))-m.value p)))) J<|gF (v2:=fun hg46=>by simp only[ak];exact⟨omd,we⟩) J J J J (fun hg46=>?_) (fun hg46=>?_)
    .
     refine cl J (Le (a:= -(m.value p/(m.value (de p v ((1:Int):Rat))-m.value p)))) J<|cl J (jF (a:= -(m.value p/(m.value (de p v ((1:Int):Rat))-m.value p))/2) (b:=s)) J<|br J J J (fun hc53=>?_) (fun hc53=>?_)
     .
      obtain⟨t,ht⟩: ∃t,t= -(m.value p/(m.value (de p v ((1:Int):Rat))-m.value p)):=⟨_,rfl⟩;haveI htb:BQ t 45000:=ht▸BQ.mono inferInstance;have hinv:BQ (t/2) 60000:=BQ.mono inferInstance;rw[<-ht];refine cl J (Le (a:=t)) J<|at_ ⟨t/2,k+1⟩ (by dsimp only;exact⟨⟨we,hinv,(A6 hns hk hm (by unfold u7;rw[if_neg hg32,if_neg hc37,show vx p v m=t from ht.symm,if_pos (by rw[ht];exact hg46),if_pos (by rw[ht];exact hc53)]))⟩,we⟩)
     .
      exact at_ ⟨s,k+1⟩ (by dsimp only;exact⟨⟨we,hinv,(A6 hns hk hm (by unfold u7;rw[if_neg hg32,if_neg hc37,if_pos (show 0<(vx p v m).num.sign from hg46),if_neg (show¬bw (vx p v m/2) s<0 from hc53)]))⟩,we⟩)
    .
     exact at_ ⟨s,k+1⟩ (by dsimp only;exact⟨⟨we,hinv,(A6 hns hk hm (by unfold u7;rw[if_neg hg32,if_neg hc37,if_neg (show¬0<(vx p v m).num.sign from hg46)]))⟩,we⟩)
 .
  refine cl J (Ai (p:=p) (q:=v) (c:=s)) J<|rz J (by unfold FZ;rw[<-hns,jW we];rfl)
def ki(c:List aa):List aa->ah
 |[]=>⟨0,0⟩
 |m::t=>if(gj m c au.all).2=true then FZ c (m.at (lc (gj m c au.all).1)) (iB m.dir) else ki c t
def auq{c:List aa}{m:aa}(h:ki c (c.drop k)=ki c c)(hk:k<c.length)(hm:m=c[k])(e:(gj m c au.all).2=true):ki c c=FZ c (m.at (lc (gj m c au.all).1)) (iB m.dir):=by
 rw[<-h,bK hk,ki,<-hm,if_pos e]
def awB{c:List aa}{m:aa}(h:ki c (c.drop k)=ki c c)(hk:k<c.length)(hm:m=c[k])(e: ¬(gj m c au.all).2=true):ki c (c.drop (k+1))=ki c c:=by
 rw[<-h,bK hk,ki,<-hm,if_neg e]
def axv{c:List aa}{m:aa}(h:m∈c)(h2:(ge m c au.all).isSome=true):mF c=true:=by
 unfold mF;rw[iV,kZ];exact .inr ⟨m,h,h2⟩
def X3{c:List aa}(h:c=[]):mF c=true:=by subst h;rfl
def V6{c:List aa}(h:c≠[])(h2: ∀m∈c,(ge m c au.all).isSome=false):mF c=false:=by
 rw[<-kX];unfold mF;rw[iV,kZ,List.isEmpty_iff];rintro (e|⟨m,h3,h4⟩)
 .exact h e
 .rw[h2 m h3] at h4;exact absurd h4 oma
def T1:eP ⟨0,0⟩= .ag [.v (.bool false), .sl [], .sl [], .v (.bool false), .sl [], .sl []]:=by
 unfold eP dD;simp only[show(0:Rat).num=0 from J,show(0:Rat).den=1 from J,lN,nD];rfl
def Hd{c:List aa}(hc: ∀m∈c,LB m)(hok: ∀m∈c,m.ok)(hn:c.length<=1000):PF GB prog 190 [.sl (c.map eL)] (.tp [eP (ki c c),vB (mF c)]):=by
 have hcl:=wY c;refine fn func190 J J ntmps190 J J (fun C=>?_);refine br (fu2:=⟨7⟩) J J J (fun hc11=>?_) (fun hc11=>?_)
 .
  exact rz J (by rw[cJ (l:=c) we,X3 J];show _=DV.tp [eP ⟨0,0⟩,_];rw[T1];rfl)
 .
  refine aj 14 (.d (vI (c.length:Nat))) J (by rw[hcl];rfl)<|gx J<|lp (X:=Nat) (fun k=>[(15, .d (vI (k:Nat))),(14, .d (vI (c.length:Nat))),(13, .d (.sl (c.map eL))),(0, .d (.sl (c.map eL))),(2, .ov 2 0)]) (fun k=>[(2,some (.o 83 [.ff, .nl, .nl, .ff, .nl, .nl] true))]) (fun k=>k<=c.length/\(∀m∈c.take k,(ge m c au.all).isSome=false)/\ki c (c.drop k)=ki c c) (fun k=>c.length-k) 0 J ⟨aS _,fun m hm=>absurd hm omc,J⟩ (fun _=>J) (fun k hk=>?_);obtain⟨hle,hno,hip⟩:=hk;refine br J J J (fun hc16=>?_) (fun hc16=>?_)
  .
   have hk:k<c.length:=by omega
   obtain⟨m,hm⟩: ∃m,m=c[k]:=⟨_,rfl⟩;haveI hmb:LB m:=hm▸hc _ (cR hk);have hmo:m.ok:=hm▸hok _ (cR hk);refine ix (fu:=⟨1⟩) _ J (xo hk) J<|aj 19 (.d (eL m)) J okK<|gx J<|cl (fu:=⟨0⟩) J (TG hc hok hn hk) J<|aj 23 (.d (.tp [eV (gj m c au.all).1,vB (gj m c au.all).2])) J (by rw[hm])<|gx J<|bb J J J (fun hc26=>?_) (fun hc26=>?_)
   .
    have hbd:=CF (v:=au.all) hmo.ne hc ik.all (BQ.mono (k:=1) ⟨oma,oma⟩) (BQ.mono (k:=1) ⟨oma,oma⟩);obtain⟨s,hs⟩: ∃s,s=(gj m c au.all).1:=⟨_,rfl⟩;rw[<-hs] at hbd;haveI:=hbd.1;haveI:=hbd.2;haveI hsb:=U8 (v:=s) (i:=1200);have hpt:aE (m.at (lc s)) 4500:=by have:=aE.at m (lc s) (1200+1200+5);exact⟨this.x.mono oma,this.y.mono oma⟩
    have hin:mF c=true:=axv (hm▸cR hk) (by rw[<-zc];exact hc26);have hpn:=auq hip hk hm hc26;rw[<-hs] at hpn⊢;refine cl J (wB (l:=m)) J<|cl J (X9 (v:=s)) J<|cl J (Q4 (l:=m) (t:=lc s) hmo.ne) J<|cl J (tC (q:=m.dir.y)) J<|cl J (aJK (p:=m.at (lc s)) (v:=iB m.dir) hc hn (hpt) inferInstance) J<|rz J (by rw[hin,hpn];rfl)
   .
    exact at_ (k+1) ⟨⟨we,ayU hno hk (by rw[<-hm,<-zc];exact hc26),awB hip hk hm (by rw[hc26];decide)⟩,we⟩
  .
   exact rz J (by rw[V6 (fun e=>hc11 (by rw[e];rfl)) (fun m hm=>hno m (by rw[bS we];exact hm)),<-hip,jW we];show _=DV.tp [eP ⟨0,0⟩,_];rw[T1];rfl)
def awd(h:i<es.length):(es.map vI)[(i:Int).toNat]? =some (vI (es.getD i 0)):=by simp[h]
def Na(h:i<es.length:=by omega):pB (es.drop i)=if es.getD i 0≠0 then es.getD i 0 else pB (es.drop (i+1)):=by
 rw[bK h,pB,aV,aQ h];rfl
def aNX(hn:es.length<=1000000):PF GB prog 289 [.sl (es.map vI)] (vI (pB es)):=by
 have hel:(es.map vI).length=es.length:=by simp
 refine fn (fu:=⟨15⟩) func289 J J ntmps289 J J (fun C=>?_);refine aj 7 (.d (vI (es.length:Nat))) J (by rw[hel]<;>rfl)<|gx J<|lp (X:=Nat) (fun i=>[(8, .d (vI (i:Nat)))]) (fun i=>[]) (fun i=>i<=es.length/\pB es=pB (es.drop i)) (fun i=>es.length-i) 0 J ⟨aS _,J⟩ (fun _=>J) (fun i hk=>?_);obtain⟨h1,h2⟩:=hk;refine br J J J (fun hc9=>?_) (fun hc9=>?_)
 .
  refine ix _ J (awd we) J<|br J J J (fun hc14=>?_) (fun hc14=>?_)
  .
   exact rz J (by rw[h2,Na,if_pos hc14];rfl)
  .
   exact at_ (i+1) ⟨⟨we,by rw[h2,Na,if_neg hc14]⟩,we⟩
 .
  exact rz J (by rw[h2,iW we];rfl)
def HA(l m:aa):Int:=pB [bw l.a m.a,bw l.b m.b,bw l.c m.c]
def aAk(l m:aa):HA l m=0↔l=m:=by
 unfold HA pB pB pB pB;have ha:=pz (l.a:Rat) m.a;have hb:=pz (l.b:Rat) m.b;have hc:=pz (l.c:Rat) m.c;rw[mY] at ha hb hc;constructor
 .intro h
  repeat' (split at h<;>try contradiction)
  all_goals exact aa.ext'
 .rintro rfl
  rw[if_neg (by simp[ha.2 J]),if_neg (by simp[hb.2 J]),if_neg (by simp[hc.2 J])]
def aIM{m:aa}[hl:LB l][hm:LB m]:PF GB prog 267 [co l,co m] (vI (HA l m)):=by
 refine fn func267 J J ntmps267 J J (fun C=>?_);refine cl J (xe (p:=(l.a:Rat)) (q:=(m.a:Rat))) J<|cl J (xe (p:=(l.b:Rat)) (q:=(m.b:Rat))) J<|cl J (xe (p:=(l.c:Rat)) (q:=(m.c:Rat))) J<|rf J J<|cl J (aNX (es:=[bw l.a m.a,bw l.b m.b,bw l.c m.c]) (nb J)) J<|rz J J
def aB4{m:aa}[hl:LB l][hm:LB m]:PF GB prog 220 [co l,co m] (vB (decide (l=m))):=by
 refine fn func220 J J ntmps220 J J (fun C=>?_);refine cl J (aIM (l:=l) (m:=m)) J<|rz J (by show DV.v (.bool (decide _))= .v (.bool _);congr 2;exact decide_eq_decide.2 (aAk l m))
def WF[hl:LB l]:PF GB prog 261 [co l] (co l.rev):=by
 refine fn func261 J J ntmps261 J J (fun C=>?_);refine cl J (tj (q:=(l.a:Rat))) J<|cl J (tj (q:=(l.b:Rat))) J<|cl J (tj (q:=(l.c:Rat))) J<|rz J (by unfold co aa.rev;simp only[kU];rfl)
def Ny[hl:LB l]:PF GB prog 102 [co l] (eL l):=by
 refine fn func102 J J ntmps102 J J (fun C=>?_);refine cl J (uj (q:=(l.a:Rat))) J<|cl J (uj (q:=(l.b:Rat))) J<|cl J (uj (q:=(l.c:Rat))) J<|rz J J
theorem omr{p:Prop}(h:p:=by unfold ah.half;(repeat' split)<;>first|rfl|(exfalso;omega)):p:=h
def Rz{p:ah}[hp:aE p i](hi:i<=10000000:=by decide):PF GB prog 225 [eZ p] (vI p.half):=by
 refine fn func225 J J ntmps225 J J (fun C=>?_);refine cl J (nA (q:=p.y) we) J<|cs 10 J J J (fun hg10=>?_) (fun hg10=>?_)
 .
  exact rz J omr
 .
  refine cs 13 J J J (fun hg13=>?_) (fun hg13=>?_)
  .
   refine cl J (nA (q:=p.x) we) J<|br J J J (fun hc7=>?_) (fun hc7=>?_)
   .
    exact rz J omr
   .
    refine cs 23 J J J (fun hg23=>?_) (fun hg23=>?_)
    .
     exact rz J omr
    .
     refine cl J (nA (q:=p.x) we) J<|br J J J (fun hc20=>?_) (fun hc20=>?_)
     .
      exact rz J omr
     .
      exact rz J omr
  .
   refine cs 23 J J J (fun hg23=>?_) (fun hg23=>?_)
   .
    exact rz J omr
   .
    refine cl J (nA (q:=p.x) we) J<|br J J J (fun hc20=>?_) (fun hc20=>?_)
    .
     exact rz J omr
    .
     exact rz J omr
def VK{u v:ah}[hp:aE u i][hq:aE v j](hi:i<=10000000:=by decide)(hj:j<=10000000:=by decide):PF GB prog 162 [eZ u,eZ v] (vI (gm u v)):=by
 refine fn func162 J J ntmps162 J J (fun C=>?_);refine cl J (Rz (p:=u) hi) J<|cl J (Rz (p:=v) hj) J<|br J J J (fun hc11=>?_) (fun hc11=>?_)
 .
  exact rz J (by unfold gm;rw[if_pos hc11];rfl)
 .
  refine br J J J (fun hc15=>?_) (fun hc15=>?_)
  .
   exact rz J (by unfold gm;rw[if_neg hc11,if_pos hc15];rfl)
  .
   refine cl J (Ek (p:=u) (q:=v) we we) J<|cl (fu:=⟨0⟩) J (nA (q:=u.cross v) we) J<|?_;have hs:=Int.sign_trichotomy (u.cross v).num;refine gx J<|rz J (by unfold gm;rw[if_neg hc11,if_neg hc15];rfl)
def Z2:dG (dg m.natAbs)/\(decide (m<0)=true->0<(dg m.natAbs).length):=⟨(eE _).2.2,fun h=>by
 have:0<m.natAbs:=by have:=of_decide_eq_true h;omega
 exact wm.2 this⟩
def sE[h:BI m i](hi:i<=1000000000:=by decide):PF GB prog 145 [eI m] (.v (.bool true)):=(RC (neg:=decide (m<0)) (ds:=dg m.natAbs) (eE _).2.1 (by have:=jl (a:=m.natAbs) hi;omega)).to (by unfold vB;rw[decide_eq_true Z2])
def PQ(h:l.ok):rgcd (rgcd (l.a:Rat) (l.b:Rat)) (l.c:Rat)=((1:Int):Rat):=by
 rw[BB,BB];have:=h.2;simp only[dS];rw[this];rfl
instance BQ.rgcd (p q:Rat) (i j:Nat) [h:BQ p i] [k:BQ q j]:BQ (rgcd p q) (i+j+(i+j)):=by
 unfold Sx.rgcd;refine zO (iY (nB p) (nB q)) ?_ ?_
 .rw[dS]
  have h1:=kg h.hn k.hd;have h2:=kg k.hn h.hd;rw[lV j i] at h2;rw[eX];exact Tj h1 h2
 .have h1:=kg h.hd k.hd
  have:=vz (show i+j<=i+j+(i+j) by omega);omega
theorem okv{p:Prop}(h:p:=by first|rfl|(show some (decide _)=some false;rw[decide_eq_false (fun e=>ho.1 ⟨ha,cX.1 e⟩)])):p:=h
theorem okT{p:Prop}(h:p:=by show some (!decide _)=some false;rw[PQ ho,decide_eq_true J];rfl):p:=h
def Qx[hl:LB l](ho:l.ok):PF GB prog 87 [eL l] (.tp [co l,vB true]):=by
 refine fn func87 J J ntmps87 J J (fun C=>?_);refine cl (fu:=⟨0⟩) J (sE (m:=l.a)) J<|bO J J J<|cl (fu:=⟨0⟩) J (sE (m:=l.b)) J<|bO J J J<|cl (fu:=⟨0⟩) J (sE (m:=l.c)) J<|bO J J J<|cl J (uD (m:=l.a)) J<|cl J (uD (m:=l.b)) J<|cl J (uD (m:=l.c)) J<|cl (fu:=⟨0⟩) J (uI (q:=(l.a:Rat))) J<|gF (fu2:=⟨4⟩) J J J J (fun hg35=>?_) (fun hg35=>?_)
 .
  have ha:l.a=0:=cX.1 hg35;refine cl (fu:=⟨1⟩) J (uI (q:=(l.b:Rat))) J<|bO J okv J<|cl J (p9 (p:=(l.a:Rat)) (q:=(l.b:Rat))) J<|cl J (p9 (p:=rgcd l.a l.b) (q:=(l.c:Rat))) J<|cl J (ug (m:=1)) J<|cl (fu:=⟨0⟩) J (yv (p:=rgcd (rgcd l.a l.b) l.c) (q:=((1:Int):Rat))) J<|bO J okT J<|rz J J
 .
  refine bO J okv J<|cl J (p9 (p:=(l.a:Rat)) (q:=(l.b:Rat))) J<|cl J (p9 (p:=rgcd l.a l.b) (q:=(l.c:Rat))) J<|cl J (ug (m:=1)) J<|cl (fu:=⟨0⟩) J (yv (p:=rgcd (rgcd l.a l.b) l.c) (q:=((1:Int):Rat))) J<|bO J okT J<|rz J J
end Go.Sx
end
