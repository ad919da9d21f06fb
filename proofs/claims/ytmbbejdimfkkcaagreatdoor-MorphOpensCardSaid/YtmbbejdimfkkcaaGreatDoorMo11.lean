import Derived.Test.YtmbbejdimfkkcaaGreatDoorMo10
set_option linter.all false
set_option maxHeartbeats 4000000
set_option maxRecDepth 100000
section
namespace Go.Sx
open Go Go.Proofs Tryz
variable {GB:Gh}
def ON{m:Int}{g:Nat}(hg:(g:Int)∣m)(hb:m.natAbs<4611686018427387904):IntKind.i64.wrap (m.tdiv g)=m/g:=by
 rw[Int.tdiv_eq_ediv_of_dvd hg];have:=oJ m g;exact ayw we
def tm(a b:Int):Int:=if(a*b).natAbs<4611686018427387904 then a*b else 0
def JH(a b:Int):(tm a b).natAbs<4611686018427387904:=by unfold tm;split<;>omega
def Cp{a b:Int}(h:(a*b).natAbs<4611686018427387904):tm a b=a*b:=if_pos h
def Pf{a b:Int}(h: ¬(a*b).natAbs<4611686018427387904:=by omega):DV.tp [vI 0, .v (.bool false)]= .tp [vI (tm a b),vB (decide ((a*b).natAbs<4611686018427387904))]:=by unfold tm;rw[if_neg h,decide_eq_false h];rfl
def VK{a b:Int}{x:Int}(h:(a*b).natAbs<4611686018427387904)(e:x=a*b):DV.tp [vI x, .v (.bool true)]= .tp [vI (tm a b),vB (decide ((a*b).natAbs<4611686018427387904))]:=by unfold tm;rw[if_pos h,decide_eq_true h,e];rfl
def Qz(n:Nat):eI (n:Int)= .ag [.v (.bool false),dN n]:=by unfold eI;rw[decide_eq_false we,fT]
def WS{p q:Rat}(hp:p.den=1)(hq:q.den=1):rgcd p q=((Nat.gcd p.num.natAbs q.num.natAbs:Nat):Int):=by
 conv=>lhs;rw[Fv hp,Fv hq]
 exact Mx _ _
def aFl(q:Rat):mkRat (zv (decide (q.num<0)) q.den) q.num.natAbs=q⁻¹:=by
 rw[Rat.inv_def];by_cases h:q.num<0
 .rw[decide_eq_true h];exact XH h
 .rw[decide_eq_false h,<-Rat.divInt_ofNat,oV we];rfl
instance BQ.inv (q:Rat) (i:Nat) [h:BQ q i]:BQ q⁻¹ i:=by
 have h1:=h.hn;have h2:=h.hd;have h3:=q.den_nz;rcases qQ q.num 0 with k|k|k
 .obtain⟨e1,e2⟩:=V1 k;exact⟨we,we⟩
 .have e:q=0:=mT.1 k
  have e0:(0:Rat)⁻¹=0:=Rat.inv_zero;rw[e] at h1 h2⊢;rw[e0];exact⟨h1,h2⟩
 .obtain⟨e1,e2⟩:=Tz k;exact⟨we,we⟩
instance BQ.half:BQ (mkRat 1 2) 2:=⟨oma,oma⟩
def aFC{x y:Nat}(hx:x<18446744073709551616)(hy:y<18446744073709551616):PF GB prog 235 [.v (.int .u64 (x:Nat)), .v (.int .u64 (y:Nat))] (.tp [.v (.int .u64 ((x*y/18446744073709551616:Nat):Int)), .v (.int .u64 ((x*y%18446744073709551616:Nat):Int))]):=fun G vs _ hv=>by
 obtain⟨v,m,rfl,h1,h2⟩:=bA.1 hv;obtain⟨u,m',rfl,h3,h4⟩:=bA.1 h2
 cases fh.1 h4
 rw[aP.1 h1,aP.1 h3];exact(WH hx hy).mono fun v G' _ h=>by subst h;exact mm.2 ⟨_,J, .cons (aP.2 J) (.cons (aP.2 J) .nil)⟩
def Vx{a b:Nat}(ha:a<18446744073709551616:=by omega)(hb:b<18446744073709551616:=by omega):PF GB prog 225 [.v (.int .u64 (a:Nat)), .v (.int .u64 (b:Nat))] (.v (.int .u64 (Nat.gcd a b:Nat))):=by
 refine fn func225 J J ntmps225 J J (fun C=>?_);refine lp (X:=Nat×Nat) (fun⟨u,v⟩=>[(1, .d (.v (.int .u64 (v:Nat)))),(0, .d (.v (.int .u64 (u:Nat))))]) (fun⟨u,v⟩=>[]) (fun⟨u,v⟩=>u<18446744073709551616/\v<18446744073709551616/\Nat.gcd u v=Nat.gcd a b) (fun⟨u,v⟩=>v) (a,b) J ⟨ha,hb,J⟩ (fun _=>J) (fun⟨u,v⟩ hk=>?_);dsimp only at hk⊢;obtain⟨h1,h2,h3⟩:=hk;refine br (v1:=fun hc6=>by simp only[ak];exact⟨we,omd⟩) J J J (fun hc6=>?_) (fun hc6=>?_)
 .
  have hm:=dW u (show 0<v by omega);exact at_ (v,u%v) (by dsimp only;exact⟨⟨h2,we,by rw[<-h3,jL u v,uM v u,jL]⟩,hm⟩)
 .
  exact rz J (by rw[<-h3,show v=0 by omega,nM];rfl)
def yw{m:Int}(h:m.natAbs<9223372036854775808:=by decide):PF GB prog 179 [vI m] (eF (m:Rat)):=by
 refine fn func179 J J ntmps179 J J (fun C=>?_);refine cs 5 J J J (fun hg5=>?_) (fun hg5=>?_)
 .
  refine cl J (LW (m:=m)) J<|rf (fu:=⟨0⟩) J J<|aj 11 (.d (dN 1)) J okL<|gx J<|cl J (xi (n:=decide (m<0)) (a:=m.natAbs) (i:=63) (h:=⟨h⟩) (d:=1)) J<|rz J oko
 .
  refine br J J J (fun hc8=>?_) (fun hc8=>?_)
  .
   refine cl J (LW (m:=m)) J<|rf (fu:=⟨0⟩) J J<|aj 11 (.d (dN 1)) J okL<|gx J<|cl J (xi (n:=decide (m<0)) (a:=m.natAbs) (i:=63) (h:=⟨h⟩) (d:=1)) J<|rz J oko
  .
   exact kg J (Oe we)
theorem ozi{p:Prop}(h:p:=by simpa using hc26):p:=h
def DC{a b:Int}(ha:a.natAbs<4611686018427387904:=by omega)(hb:b.natAbs<4611686018427387904:=by omega):PF GB prog 180 [vI a,vI b] (.tp [vI (tm a b),vB (decide ((a*b).natAbs<4611686018427387904))]):=by
 have hab:=fU a b;refine fn func180 J J ntmps180 J J (fun C=>?_);refine cl J (B8 (m:=a)) J<|cl J (B8 (m:=b)) J<|cl J (aFC (x:=a.natAbs) (y:=b.natAbs) we we) J<|cs 18 J J J (fun hg18=>?_) (fun hg18=>?_)
 .
  exact rz J (Pf)
 .
  refine br J J J (fun hc21=>?_) (fun hc21=>?_)
  .
   exact rz J (Pf)
  .
   refine bb J J J (fun hc26=>?_) (fun hc26=>?_)
   .
    have hs:=RI a b;rw[if_neg ozi] at hs;exact rz J (VK we (by rw[hs,<-hab];omega))
   .
    have hs:=RI a b;rw[if_pos ozi] at hs;exact rz J (VK we (by rw[hs,<-hab];omega))
def RH{m:Int}{d:Nat}(h:m.natAbs<4611686018427387904)(h0:0<d)(hd:d<4611686018427387904):PF GB prog 181 [vI m,vI (d:Nat)] (eF (mkRat m d)):=by
 have hg:Nat.gcd m.natAbs d<=d:=Nat.gcd_le_right _ h0;have hg0:0<Nat.gcd m.natAbs d:=rJ _ h0;obtain⟨e1,e2⟩:=RB (m:=m) h0;have e3:=oJ m (Nat.gcd m.natAbs d:Nat);have e4:=nK d (Nat.gcd m.natAbs d);have e5:=Nat.div_pos hg hg0;refine fn func181 J J ntmps181 J J (fun C=>?_);refine cl J (B8 (m:=m)) J<|cl J (Vx (a:=m.natAbs) (b:=d)) J<|br (fu1:=⟨4⟩) J J J (fun hc13=>?_) (fun hc13=>?_)
 .
  refine aj 16 (.d (vI (m/(Nat.gcd m.natAbs d:Nat)))) J (by rw[ON (Int.dvd_natAbs.1 (rM.2 (lK _ _))) h];rfl)<|gx (fu:=⟨3⟩) J<|aj 19 (.d (vI ((d/Nat.gcd m.natAbs d:Nat)))) J (by rw[ON (rM.2 (mK _ _)) (by rw[fT];exact hd)];rfl)<|gx (hv:=by simp only[ak];exact⟨omd,we⟩) J<|kg J (ut (fun k=>k ⟨by rw[e1];omega,by rw[e2];omega⟩) e1 (by rw[e2]) J)
 .
  exact kg J (by have h1:Nat.gcd m.natAbs d=1:=we;rw[h1,uN] at e2;rw[h1,Int.natCast_one,Int.ediv_one] at e1;exact ut (fun k=>k ⟨by rw[e1];omega,by rw[e2];omega⟩) e1 (by rw[e2]) J)
def pu{p q:Rat}{i j:Nat}[h:BQ p i][k:BQ q j](hi:i<=100000000:=by decide)(hj:j<=100000000:=by decide):PF GB prog 187 [eF p,eF q] (eF (p*q)):=by
 refine fn (fu:=⟨8⟩) func187 J J ntmps187 J J (fun C=>?_);refine mg (X:=Unit) (fun _=>[(2, .ov 2 0),(3, .ov 3 0),(4, .ov 4 0)]) (fun _=>[(2,some (.o 191 [.d (vI (dP p)), .d (vI (dO p)), .d (dC p)] true)),(3,some (.o 191 [.d (vI (dP q)), .d (vI (dO q)), .d (dC q)] true)),(4,some (.o 191 [.d (.v (.int .i64 0)), .d (.v (.int .i64 0)), .d (.v (.pointer none))] true))]) (fun _=>True) [2,3,4] [2,3,4] rfl ?_ (fun _=>J) (fun _ _=>?_)
 .
  refine gx J<|cs 12 J J J (fun hg12=>?_) (fun hg12=>?_)
  .
   refine br (fu1:=⟨4⟩) J J J (fun hc16=>?_) (fun hc16=>?_)
   .
    have hp:=uk hg12;have hq:=uk hc16;have p1:=ou hp;have p2:=qh hp;have p3:=qF hp;have p4:=rj hp;have p5:=p.den_nz;have q1:=ou hq;have q2:=qh hq;have q3:=qF hq;have q4:=rj hq;have q5:=q.den_nz;refine aj 19 (.d (vI p.num)) J (by rw[p1])<|gx (fu:=⟨2⟩) J<|aj 21 (.d (vI q.num)) J (by rw[q1])<|gx J<|cl (fu:=⟨12⟩) J (DC (a:=p.num) (b:=q.num)) J<|aj 28 (.d (vI (p.den:Nat))) J omI<|gx (fu:=⟨3⟩) J<|aj 31 (.d (vI (q.den:Nat))) J omI<|gx J<|cl J (DC (a:=(p.den:Nat)) (b:=(q.den:Nat))) J<|csd 36 J J J (fun hg36=>?_) (fun hg36=>?_)
    .
     refine bd (fu1:=⟨3⟩) J J J (fun hc38=>?_) (fun hc38=>?_)
     .
      have hd1:p.den*q.den<4611686018427387904:=by omega
      refine aj 39 (.d (vI (p.num*q.num))) J (by rw[Cp hg36])<|gx (fu:=⟨1⟩) J<|aj 40 (.d (vI ((p.den*q.den:Nat)))) J (by rw[Cp hc38];rfl)<|gx J<|cl J (RH (m:=p.num*q.num) (d:=p.den*q.den) hg36 (jR we we) hd1) J<|rz J (by rw[<-CA];rfl)
     .
      exact at_ () trivial
    .
     exact at_ () trivial
   .
    exact at_ () trivial
  .
   exact at_ () trivial
 .
  refine cl J (uF (q:=p) we) J<|cl J (uF (q:=q) we) J<|cl J (Ke (a:=p.num) (b:=q.num) we we) J<|cl J (tv (q:=p) we) J<|cl J (tv (q:=q) we) J<|cl J (A6 (a:=p.den) (b:=q.den) we we) J<|cl J (xi (n:=decide (p.num*q.num<0)) (a:=(p.num*q.num).natAbs) (d:=p.den*q.den) (i:=i+j) (j:=i+j) we we) J<|rz J (by rw[mp,<-CA];rfl)
def s6{p q:Rat}{i j:Nat}[h:BQ p i][k:BQ q j](hi:i<=100000000:=by decide)(hj:j<=100000000:=by decide):PF GB prog 120 [eF p,eF q] (eF (p+q)):=by
 refine fn (fu:=⟨8⟩) func120 J J ntmps120 J J (fun C=>?_);refine mg (X:=Unit) (fun _=>[(2, .ov 2 0),(3, .ov 3 0),(4, .ov 4 0)]) (fun _=>[(2,some (.o 191 [.d (vI (dP p)), .d (vI (dO p)), .d (dC p)] true)),(3,some (.o 191 [.d (vI (dP q)), .d (vI (dO q)), .d (dC q)] true)),(4,some (.o 191 [.d (.v (.int .i64 0)), .d (.v (.int .i64 0)), .d (.v (.pointer none))] true))]) (fun _=>True) [2,3,4] [2,3,4] rfl ?_ (fun _=>J) (fun _ _=>?_)
 .
  refine gx J<|cs 16 J J J (fun hg16=>?_) (fun hg16=>?_)
  .
   refine br (fu1:=⟨1⟩) J J J (fun hc20=>?_) (fun hc20=>?_)
   .
    have hp:=uk hg16;have hq:=uk hc20;have p1:=ou hp;have p2:=qh hp;have p3:=qF hp;have p4:=rj hp;have p5:=p.den_nz;have q1:=ou hq;have q2:=qh hq;have q3:=qF hq;have q4:=rj hq;have q5:=q.den_nz;refine mg (fu:=⟨4⟩) (X:=Unit) (fun _=>[(2, .ov 2 0),(3, .ov 3 0),(4, .ov 4 0)]) (fun _=>[(2,some (.o 191 [.d (vI (dP p)), .d (vI (dO p)), .d (dC p)] true)),(3,some (.o 191 [.d (vI (dP q)), .d (vI (dO q)), .d (dC q)] true)),(4,some (.o 191 [.d (.v (.int .i64 0)), .d (.v (.int .i64 0)), .d (.v (.pointer none))] true))]) (fun _=>True) [2,3,4] [2,3,4] rfl ?_ (fun _=>J) (fun _ _=>?_)
    .
     refine gx J<|cs 24 J J J (fun hg24=>?_) (fun hg24=>?_)
     .
      refine br (fu1:=⟨4⟩) J J J (fun hc28=>?_) (fun hc28=>?_)
      .
       refine aj 30 (.d (vI p.num)) J (by rw[p1])<|gx (fu:=⟨2⟩) J<|aj 32 (.d (vI q.num)) J (by rw[q1])<|gx J<|cl J (yw (m:=p.num+q.num) we) J<|rz J (by rw[Fv (q:=p),Fv (q:=q),<-lS];rfl)
      .
       exact at_ () trivial
     .
      exact at_ () trivial
    .
     refine aj 37 (.d (vI p.num)) J (by rw[p1])<|gx (fu:=⟨3⟩) J<|aj 40 (.d (vI (q.den:Nat))) J omI<|gx J<|cl (fu:=⟨11⟩) J (DC (a:=p.num) (b:=(q.den:Nat))) J<|aj 46 (.d (vI q.num)) J (by rw[q1])<|gx (fu:=⟨3⟩) J<|aj 49 (.d (vI (p.den:Nat))) J omI<|gx J<|cl (fu:=⟨12⟩) J (DC (a:=q.num) (b:=(p.den:Nat))) J<|aj 56 (.d (vI (p.den:Nat))) J omI<|gx (fu:=⟨3⟩) J<|aj 59 (.d (vI (q.den:Nat))) J omI<|gx J<|cl (fu:=⟨3⟩) J (DC (a:=(p.den:Nat)) (b:=(q.den:Nat))) J<|?_;have t1:=JH p.num (q.den:Nat);have t2:=JH q.num (p.den:Nat);have t3:=JH (p.den:Nat) (q.den:Nat);refine gx J<|csd 67 J J J (fun hg67=>?_) (fun hg67=>?_)
     .
      refine csd 70 J J J (fun hg70=>?_) (fun hg70=>?_)
      .
       refine csd 73 J J J (fun hg73=>?_) (fun hg73=>?_)
       .
        refine cs 77 J J J (fun hg77=>?_) (fun hg77=>?_)
        .
         refine br (fu1:=⟨3⟩) J J J (fun hc80=>?_) (fun hc80=>?_)
         .
          have u1:=Cp hg67;have u2:=Cp hg70;have u3:=Cp hg73;have hd1:p.den*q.den<4611686018427387904:=by omega
          refine aj 81 (.d (vI (p.num*(q.den:Nat)+q.num*(p.den:Nat)))) J (by rw[u1,u2];rfl)<|gx (fu:=⟨1⟩) J<|aj 82 (.d (vI ((p.den*q.den:Nat)))) J (by rw[u3];rfl)<|gx J<|cl J (RH (m:=p.num*(q.den:Nat)+q.num*(p.den:Nat)) (d:=p.den*q.den) we (jR we we) hd1) J<|rz J (by rw[<-B4];rfl)
         .
          exact at_ () trivial
        .
         exact at_ () trivial
       .
        exact at_ () trivial
      .
       exact at_ () trivial
     .
      exact at_ () trivial
   .
    exact at_ () trivial
  .
   exact at_ () trivial
 .
  refine cl J (uF (q:=p) we) J<|cl (fu:=⟨1⟩) J (tv (q:=q) we) J<|aj 88 (.d (eI (q.den:Nat))) J (by rw[Qz])<|gx J<|cl J (Ke (a:=p.num) (b:=(q.den:Nat)) we we) J<|cl J (uF (q:=q) we) J<|cl (fu:=⟨1⟩) J (tv (q:=p) we) J<|aj 94 (.d (eI (p.den:Nat))) J (by rw[Qz])<|gx J<|cl J (Ke (a:=q.num) (b:=(p.den:Nat)) we we) J<|cl J (aJr (a:=p.num*(q.den:Nat)) (b:=q.num*(p.den:Nat)) (i:=i+j) (j:=j+i) we we) J<|cl J (tv (q:=p) we) J<|cl J (tv (q:=q) we) J<|cl J (A6 (a:=p.den) (b:=q.den) we we) J<|cl J (xi (n:=decide (p.num*(q.den:Nat)+q.num*(p.den:Nat)<0)) (a:=(p.num*(q.den:Nat)+q.num*(p.den:Nat)).natAbs) (d:=p.den*q.den) (i:=i+j+(j+i)+1) (j:=i+j) we we) J<|rz J (by rw[mp,<-B4];rfl)
def q7{p q:Rat}{i j:Nat}[h:BQ p i][k:BQ q j](hi:i<=100000000:=by decide)(hj:j<=100000000:=by decide):PF GB prog 114 [eF p,eF q] (eF (p-q)):=by
 refine fn func114 J J ntmps114 J J (fun C=>?_);refine cl J (qg (q:=q) we) J<|cl J (s6 (p:=p) (q:= -q) we we) J<|rz J (by rw[<-Rat.sub_eq_add_neg];rfl)
def Kx{q:Rat}{i:Nat}[h:BQ q i](hi:i<=400000000:=by decide):PF GB prog 171 [eF q] (eF q⁻¹):=by
 refine fn func171 J J ntmps171 J J (fun C=>?_);refine br (v1:=fun hc3=>by simp only[ak];exact⟨⟨hc3,hc3⟩,hc3⟩) J J J (fun hc3=>?_) (fun hc3=>?_)
 .
  refine cl J (xi (n:=decide (q.num<0)) (a:=q.den) (d:=q.num.natAbs) we we) J<|rz J (by rw[aFl];rfl)
 .
  have q1:=ou (oH hc3);have q2:=qh (oH hc3);have q3:=qF (oH hc3);have q4:=rj (oH hc3);have q5:=q.den_nz;refine br J J J (fun hc26=>?_) (fun hc26=>?_)
  .
   exact kg rfl (by obtain⟨e1,e2⟩:=V1 (q:=q) we;exact ut (fun k=>k ⟨we,we⟩) we we rfl)
  .
   refine br J J J (fun hc39=>?_) (fun hc39=>?_)
   .
    exact kg J (by rw[mT.1 (show q.num=0 by omega),Rat.inv_zero];exact FN)
   .
    exact kg rfl (by obtain⟨e1,e2⟩:=Tz (q:=q) we;exact ut (fun k=>k ⟨we,we⟩) we we rfl)
def CO{p q:Rat}{i j:Nat}[h:BQ p i][k:BQ q j](hi:i<=100000000:=by decide)(hj:j<=100000000:=by decide):PF GB prog 268 [eF p,eF q] (eF (p/q)):=by
 refine fn func268 J J ntmps268 J J (fun C=>?_);refine cl J (Kx (q:=q) we) J<|cl J (pu (p:=p) (q:=q⁻¹) we we) J<|rz J (by rw[Rat.div_def];rfl)
def Um{G:Gh}{q r:DV}{t:List DV}{vs:List Value}(h: ∀y,Is G r y->Is G q y)(hv:IsLs G (r::t) vs):IsLs G (q::t) vs:=by
 obtain⟨y,m,rfl,h1,h2⟩:=bA.1 hv;exact .cons (h _ h1) h2
def Jw{G:Gh}{a q r:DV}{t:List DV}{vs:List Value}(h: ∀y,Is G r y->Is G q y)(hv:IsLs G (a::r::t) vs):IsLs G (a::q::t) vs:=by
 obtain⟨y,m,rfl,h1,h2⟩:=bA.1 hv;exact .cons h1 (Um h h2)
def aEl{q:Rat}{i:Nat}[h:BQ q i](hi:i<=100000000:=by decide):PF GB prog 187 [eF q, .ag [vI 1,vI 1, .v (.pointer none)]] (eF (q*mkRat 1 2)):=
 (pu (p:=q) (q:=mkRat 1 2) hi).ofI fun G vs hv=>Jw (fun y hy=>ut (q:=mkRat 1 2) (fun k=>k ⟨oma,oma⟩) oma oma J G y hy) hv
def Nq{q:Rat}{i:Nat}[h:BQ q i](hi:i<=100000000:=by decide):PF GB prog 233 [eF q] (eF (q*mkRat 1 2)):=by
 refine fn func233 J J ntmps233 J J (fun C=>?_);refine cl J (aEl (q:=q) we) J<|rz J J
def yx{p q:Rat}{i j:Nat}[h:BQ p i][k:BQ q j](hi:i<=100000000:=by decide)(hj:j<=100000000:=by decide):PF GB prog 228 [eF p,eF q] (vI (bE p q)):=by
 refine fn func228 J J ntmps228 J J (fun C=>?_);refine cs 8 J J J (fun hg8=>?_) (fun hg8=>?_)
 .
  refine cs 13 J J J (fun hg13=>?_) (fun hg13=>?_)
  .
   refine br J J J (fun hc19=>?_) (fun hc19=>?_)
   .
    have hp:=uk hg8;have hq:=uk hg13;have p1:=ou hp;have p2:=qh hp;have p3:=qF hp;have p4:=rj hp;have p5:=p.den_nz;have q1:=ou hq;have q2:=qh hq;have q3:=qF hq;have q4:=rj hq;have q5:=q.den_nz;have hl:=TV (a:=p) (b:=q);have hr:=TV (a:=q) (b:=p);unfold bE;refine br J J J (fun hc20=>?_) (fun hc20=>?_)
    .
     exact rz J (by rw[if_pos (hl.2 we)];rfl)
    .
     refine br J J J (fun hc26=>?_) (fun hc26=>?_)
     .
      exact rz J (by rw[if_neg (fun e=>by have:=hl.1 e;omega),if_pos (hr.2 we)];rfl)
     .
      exact rz J (by rw[if_neg (fun e=>by have:=hl.1 e;omega),if_neg (fun e=>by have:=hr.1 e;omega)];rfl)
   .
    refine cl J (q7 (p:=p) (q:=q) we we) J<|cl J (nv (q:=p-q) we) J<|rz J (by rw[Hu];rfl)
  .
   refine cl J (q7 (p:=p) (q:=q) we we) J<|cl J (nv (q:=p-q) we) J<|rz J (by rw[Hu];rfl)
 .
  refine cl J (q7 (p:=p) (q:=q) we we) J<|cl J (nv (q:=p-q) we) J<|rz J (by rw[Hu];rfl)
def Fh{p q:Rat}{i j:Nat}[h:BQ p i][k:BQ q j](hi:i<=100000000:=by decide)(hj:j<=100000000:=by decide):PF GB prog 217 [eF p,eF q] (vB (decide (p=q))):=by
 refine fn func217 J J ntmps217 J J (fun C=>?_);refine cl J (yx (p:=p) (q:=q) hi hj) J<|rz J (by show DV.v (.bool (decide _))= .v (.bool _);congr 2;exact decide_eq_decide.2 (vG p q))
def WM{p q:Rat}{i j:Nat}[h:BQ p i][k:BQ q j](hi:i<=100000000:=by decide)(hj:j<=100000000:=by decide):PF GB prog 291 [eF p,eF q] (eF (if p<q then q else p)):=by
 refine fn func291 J J ntmps291 J J (fun C=>?_);refine cl J (yx (p:=q) (q:=p) hj hi) J<|br J J J (fun hc8=>?_) (fun hc8=>?_)
 .
  exact rz J (by rw[if_pos ((Ve q p).1 hc8)];rfl)
 .
  exact rz J (by rw[if_neg (fun e=>hc8 ((Ve q p).2 e))];rfl)
def SI{p q:Rat}{i j:Nat}[h:BQ p i][k:BQ q j](hi:i<=100000000:=by decide)(hj:j<=100000000:=by decide):PF GB prog 172 [eF p,eF q] (eF (if q<p then q else p)):=by
 refine fn func172 J J ntmps172 J J (fun C=>?_);refine cl J (yx (p:=q) (q:=p) hj hi) J<|br J J J (fun hc8=>?_) (fun hc8=>?_)
 .
  exact rz J (by rw[if_pos ((S3 q p).1 hc8)];rfl)
 .
  exact rz J (by rw[if_neg (fun e=>hc8 ((S3 q p).2 e))];rfl)
def vU{p q:Rat}{i j:Nat}[h:BQ p i][k:BQ q j](hi:i<=100000000:=by decide)(hj:j<=100000000:=by decide):PF GB prog 170 [eF p,eF q] (eF (rgcd p q)):=by
 refine fn (fu:=⟨8⟩) func170 J J ntmps170 J J (fun C=>?_);refine mg (X:=Unit) (fun _=>[(2, .ov 2 0),(3, .ov 3 0),(4, .ov 4 0)]) (fun _=>[(2,some (.o 191 [.d (vI (dP p)), .d (vI (dO p)), .d (dC p)] true)),(3,some (.o 191 [.d (vI (dP q)), .d (vI (dO q)), .d (dC q)] true)),(4,some (.o 191 [.d (.v (.int .i64 0)), .d (.v (.int .i64 0)), .d (.v (.pointer none))] true))]) (fun _=>True) [2,3,4] [2,3,4] rfl ?_ (fun _=>J) (fun _ _=>?_)
 .
  refine gx J<|cs 10 J J J (fun hg10=>?_) (fun hg10=>?_)
  .
   refine cs 15 J J J (fun hg15=>?_) (fun hg15=>?_)
   .
    have hp:=uk hg10;have hq:=uk hg15;have p1:=ou hp;have p2:=qh hp;have p3:=qF hp;have p4:=rj hp;have p5:=p.den_nz;have q1:=ou hq;have q2:=qh hq;have q3:=qF hq;have q4:=rj hq;have q5:=q.den_nz;refine cs 20 J J J (fun hg20=>?_) (fun hg20=>?_)
    .
     refine br (fu1:=⟨4⟩) J J J (fun hc24=>?_) (fun hc24=>?_)
     .
      have hg:=I6 p3 q3;refine aj 26 (.d (vI p.num)) J (by rw[p1])<|gx J<|cl (fu:=⟨2⟩) J (B8 (m:=p.num)) J<|aj 29 (.d (vI q.num)) J (by rw[q1])<|gx J<|cl J (B8 (m:=q.num)) J<|cl (hv:=by simp only[ak];exact⟨we,omd⟩) J (Vx (a:=p.num.natAbs) (b:=q.num.natAbs)) J<|kg J (by rw[WS (p:=p) (q:=q) we we];exact Oe (by rw[fT];exact hg))
     .
      exact at_ () trivial
    .
     exact at_ () trivial
   .
    exact at_ () trivial
  .
   exact at_ () trivial
 .
  refine cl J (tv (q:=p) we) J<|cl J (tv (q:=q) we) J<|cl J (A6 (a:=p.den) (b:=q.den) we we) J<|cl J (uF (q:=p) we) J<|cl J (tv (q:=q) we) J<|cl J (A6 (a:=p.num.natAbs) (b:=q.den) we we) J<|cl J (uF (q:=q) we) J<|cl J (tv (q:=p) we) J<|cl J (A6 (a:=q.num.natAbs) (b:=p.den) we we) J<|cl J (LY (a:=p.num.natAbs*q.den) (b:=q.num.natAbs*p.den) (i:=i+j) (j:=j+i) we we) J<|cl J (xi (n:=false) (a:=Nat.gcd (p.num.natAbs*q.den) (q.num.natAbs*p.den)) (d:=p.den*q.den) (i:=i+j+(j+i)) (j:=i+j) we we) J<|rz J J

def cT:Tr->List DV
 | .leaf b=>[.v (.bool true), .v (.bool b), .v (.bool false), .sl [], .v (.bool false), .sl [], .v (.bool false), .sl [], .v (.pointer none), .v (.pointer none)]
 | .node l x y=>[.v (.bool false), .v (.bool false), .v (.bool (decide (l.a<0))),dN l.a.natAbs, .v (.bool (decide (l.b<0))),dN l.b.natAbs, .v (.bool (decide (l.c<0))),dN l.c.natAbs, .pt (cT x), .pt (cT y)]
def eT(t:Tr):DV:= .pt (cT t)
def eN(n:NQ):DV:= .ag [.v (.bool (decide (n.l.a<0))),dN n.l.a.natAbs, .v (.bool (decide (n.l.b<0))),dN n.l.b.natAbs, .v (.bool (decide (n.l.c<0))),dN n.l.c.natAbs, .v (.int .i64 n.a), .v (.int .i64 n.b)]
def eA(t:Tr):DV:= .ag [.v (.int .i64 (t.num 0)), .sl ((t.wr 0).map eN)]
def Bs{G:Gh}{k:Nat}{z:IV}{m:Int}(h:qC k G z m):Is G (.v (.bool (decide (m<0)))) (.bool z.neg)/\Is G (dN m.natAbs) (.slice z.a.a z.a.n z.a.c):=
 ⟨aP.2 (by rw[h.neg]),(Rw h.abs.lt).2 ⟨_,J,h.abs⟩⟩
def Kv{G:Gh}{k:Nat}{m:Int}{u v:Value}(hm:m.natAbs<2^k)(h1:Is G (.v (.bool (decide (m<0)))) u)(h2:Is G (dN m.natAbs) v): ∃z:IV,u= .bool z.neg/\v= .slice z.a.a z.a.n z.a.c/\qC k G z m:=by
 obtain⟨x,rfl,hx⟩:=(Rw hm).1 h2;exact⟨⟨decide (m<0),x⟩,aP.1 h1,J,J,hx⟩
structure BL (l:aa) (k:Nat):Prop where
 a:l.a.natAbs<2^k
 b:l.b.natAbs<2^k
 c:l.c.natAbs<2^k
def aH2{G:Gh}{k:Nat}{l:aa}{v:Value}(hl:BL l k)(h:Is G (eL l) v): ∃a b c:IV,v= .agg ⟨[.bool a.neg, .slice a.a.a a.a.n a.a.c, .bool b.neg, .slice b.a.a b.a.n b.a.c, .bool c.neg, .slice c.a.a c.a.n c.a.c]⟩/\qC k G a l.a/\qC k G b l.b/\qC k G c l.c:=by
 obtain⟨m,rfl,g⟩:=eH.1 h;clear h;obtain⟨v1,m,rfl,h1,h⟩:=bA.1 g;obtain⟨v2,m,rfl,h2,h⟩:=bA.1 h;obtain⟨v3,m,rfl,h3,h⟩:=bA.1 h;obtain⟨v4,m,rfl,h4,h⟩:=bA.1 h;obtain⟨v5,m,rfl,h5,h⟩:=bA.1 h;obtain⟨v6,m,rfl,h6,h⟩:=bA.1 h;rw[fh] at h;subst h;obtain⟨a,rfl,rfl,ha⟩:=Kv hl.a h1 h2;obtain⟨b,rfl,rfl,hb⟩:=Kv hl.b h3 h4;obtain⟨c,rfl,rfl,hc⟩:=Kv hl.c h5 h6;exact⟨a,b,c,J,ha,hb,hc⟩
def Yx{G:Gh}{k:Nat}{n:NQ}{z:ND}(h:r8 k G z n):Is G (eN n) z.val:=by
 refine eH.2 ⟨_,J, .cons (Bs h.a).1 (.cons (Bs h.a).2 (.cons (Bs h.b).1 (.cons (Bs h.b).2 (.cons (Bs h.c).1 (.cons (Bs h.c).2 (.cons (aP.2 ?_) (.cons (aP.2 ?_) .nil)))))))⟩
 .rw[h.l]
 .rw[h.r]
def Uv{G:Gh}{k:Nat}: ∀{ns:List NQ} {zs:List ND},iB (r8 k G) zs ns->IsLs G (ns.map eN) (zs.map ND.val)
 |_,_, .nil=> .nil
 |_,_, .cons h t=> .cons (Yx h) (Uv t)
def ZO(ns:List NQ):cO 8 (ns.map eN):=fun d hd=>by
 obtain⟨n,_,rfl⟩:=aU.1 hd;exact⟨rfl,rfl⟩
def aHv{G:Gh}{k:Nat}{t:Tr}{x:SV}(h:aMS k G x (t.wr 0)):Is G (eA t) (.agg ⟨[.int .i64 (t.num 0), .slice x.a x.n x.c]⟩):=by
 obtain⟨zs,h1,h2⟩:=h;exact eH.2 ⟨_,J, .cons (aP.2 J) (.cons (ie.2 ⟨8,x,_,J,h1,Uv h2⟩) .nil)⟩
def Tr.all_wr{p:aa->Prop}: ∀{t:Tr} (n:Nat),t.all p-> ∀x∈t.wr n,p x.l
 | .leaf b,n,_,x,hx=>by cases hx
 | .node l u v,n,⟨h1,h2,h3⟩,x,hx=>by
  simp only[Tr.wr,gL,aW,bZ] at hx;rcases hx with rfl|hx|hx
  .exact h1
  .exact u.all_wr _ h2 x hx
  .exact v.all_wr _ h3 x hx
structure LS (l:aa):Prop where
 ok:l.ok
 a:l.a.natAbs<=4
 b:l.b.natAbs<=4
 c:l.c.natAbs<=40000
def LS.bl{l:aa}(h:LS l):BL l 96:=⟨by have:=h.a;omega,by have:=h.b;omega,by have:=h.c;omega⟩
def yr{xs:List aa}{i:Nat}(h:i<xs.length:=by omega):(xs.map eL)[(i:Int).toNat]? =some (eL xs[i]):=by simp[h]
def yl(xs:List aa):(xs.map eL).length=xs.length:=aX ..
def Zq{α:Type}{xs:List α}{i:Nat}{p:α->Prop}(h: ∀x∈xs.take i,p x)(hi:i<xs.length)(hy:p xs[i]): ∀x∈xs.take (i+1),p x:=by
 intro x hx;rw[jW hi] at hx;simp only[bZ,aT] at hx;rcases hx with hx|rfl
 .exact h x hx
 .exact hy
def avd{a b:Int}(h:decide (a<0)=decide (b<0)):decide (a.natAbs=b.natAbs)=decide (a=b):=by
 have h':a<0↔b<0:=by simpa using h
 exact decide_eq_decide.2 ⟨fun e=>by omega,fun e=>by rw[e]⟩
def aa.ext'{l m:aa}(h1:l.a=m.a:=by omega)(h2:l.b=m.b:=by omega)(h3:l.c=m.c:=by omega):l=m:=by cases l;cases m;simp_all
instance:DecidableEq NQ:=fun x y=>decidable_of_iff (x.l=y.l/\x.a=y.a/\x.b=y.b) (by
 cases x;cases y;simp)
def NQ.ext'{n m:NQ}(h1:n.l=m.l)(h2:n.a=m.a)(h3:n.b=m.b):n=m:=by cases n;cases m;simp_all
def du(ls:List aa):cO 6 (ls.map eL):=fun d hd=>by
 obtain⟨n,_,rfl⟩:=aU.1 hd;exact⟨rfl,rfl⟩
def aEk{a b:Nat}(hl:(dg a).length=(dg b).length)(h: ∀j,j<(dg a).length->(dg a).getD j 0=(dg b).getD j 0):a=b:=by
 have e:dg a=dg b:=by
  apply List.ext_getElem hl;intro i h1 h2;have:=h i h1;rw[aV,aV,aZ h1,aZ h2] at this;exact this
 rw[<-dm a,e,dm]
def jf{z:Int}:PF GB prog 134 [eI z] (eQ (z:Rat)):=by
 refine fn func134 J J ntmps134 J J (fun C=>?_);exact rz J (by rw[HP];rfl)
def ym{l:aa}:PF GB prog 79 [eL l] (eL l.rev):=by
 refine fn func79 J J ntmps79 J J (fun C=>?_);refine cl J B9 J<|cl J B9 J<|cl J B9 J<|rz J J
def Wk{a b i j:Nat}[ha:BN a i][hb:BN b j](hi:i<=400000000:=by decide):PF GB prog 138 [dN a,dN b] (vB (decide (a=b))):=by
 have hla:=b8 (dg a);have hlb:=b8 (dg b);have hba:=kA ha.h;refine fn func138 J J ntmps138 J J (fun C=>?_);refine br (fu2:=⟨7⟩) J J J (fun hc10=>?_) (fun hc10=>?_)
 .
  exact rz J (by rw[decide_eq_false (fun e:a=b=>hc10 okJ)];rfl)
 .
  refine aj 12 (.d (vI ((dg a).length:Nat))) J omT<|gx J<|lp (X:=Nat) (fun i=>[(13, .d (vI (i:Nat))),(12, .d (vI ((dg a).length:Nat))),(0, .d (dN a)),(1, .d (dN b))]) (fun i=>[]) (fun i=>i<=(dg a).length/\ ∀j,j<i->(dg a).getD j 0=(dg b).getD j 0) (fun i=>(dg a).length-i) 0 J ⟨aN _,fun j hj=>absurd hj we⟩ (fun _=>J) (fun i hk=>?_);obtain⟨h1,h2⟩:=hk;refine br J J J (fun hc14=>?_) (fun hc14=>?_)
  .
   refine ix _ J (fg) J<|ix _ J (fg) J<|br J J J (fun hc24=>?_) (fun hc24=>?_)
   .
    exact rz J (by rw[decide_eq_false (fun e:a=b=>hc24 okJ)];rfl)
   .
    exact at_ (i+1) ⟨⟨we,fun j hj=>by by_cases q:j=i;(subst q;omega);exact h2 j we⟩,we⟩
  .
   exact rz J (by rw[decide_eq_true (aEk we (fun j hj=>h2 j we))];rfl)
def K1{a b:Int}{i j:Nat}[ha:BI a i][hb:BI b j](hi:i<=400000000:=by decide):PF GB prog 74 [eI a,eI b] (vB (decide (a=b))):=by
 refine fn (fu:=⟨14⟩) func74 J J ntmps74 J J (fun C=>?_);refine aj 9 (.d (.v (.bool (decide (decide (a<0)=decide (b<0)))))) J (by congr 2)<|gx J<|csd 10 J J J (fun hg10=>?_) (fun hg10=>?_)
 .
  refine cl J (Wk we) J<|rz J (by show DV.v (.bool _)=DV.v (.bool _);rw[<-avd hg10])
 .
  exact rz J (by rw[decide_eq_false (fun e:a=b=>hg10 okJ)];rfl)
def Zo{l m:aa}(hl:BL l 96)(hm:BL m 96):PF GB prog 37 [eL l,eL m] (vB (decide (l=m))):=by
 haveI h1:BI l.a 96:=⟨hl.a⟩;haveI h2:BI l.b 96:=⟨hl.b⟩;haveI h3:BI l.c 96:=⟨hl.c⟩;haveI k1:BI m.a 96:=⟨hm.a⟩;haveI k2:BI m.b 96:=⟨hm.b⟩;haveI k3:BI m.c 96:=⟨hm.c⟩;refine fn func37 J J ntmps37 J J (fun C=>?_);refine cl J (K1 (a:=l.a) (b:=m.a)) J<|csd 10 J J J (fun hg10=>?_) (fun hg10=>?_)
 .
  refine cl J (K1 we) J<|csd 17 J J J (fun hg17=>?_) (fun hg17=>?_)
  .
   refine cl J (K1 we) J<|rz J (by show DV.v (.bool _)=DV.v (.bool _);rw[decide_eq_decide.2 ⟨fun e=>aa.ext' hg10 hg17 e,fun e=>by rw[e]⟩])
  .
   exact rz J (by rw[decide_eq_false (fun e:l=m=>hg17 okJ)];rfl)
 .
  exact rz J (by rw[decide_eq_false (fun e:l=m=>hg10 okJ)];rfl)
class LB (l:aa):Prop where bl:BL l 96
instance LB.a (l:aa) [h:LB l]:BI l.a 96:=⟨h.bl.a⟩
instance LB.b (l:aa) [h:LB l]:BI l.b 96:=⟨h.bl.b⟩
instance LB.c (l:aa) [h:LB l]:BI l.c 96:=⟨h.bl.c⟩
class aD (p:ah) (k:outParam Nat):Prop where
 x:BQ p.x k
 y:BQ p.y k
instance aD.ix (p:ah) (k:Nat) [h:aD p k]:BQ p.x k:=h.x
instance aD.iy (p:ah) (k:Nat) [h:aD p k]:BQ p.y k:=h.y
instance aD.dir (l:aa) [LB l]:aD l.dir 97:=⟨inferInstanceAs (BQ (l.b:Rat) 97),inferInstanceAs (BQ (-(l.a:Rat)) 97)⟩
instance BQ.dot (p q:ah) (i j:Nat) [aD p i] [aD q j]:BQ (p.dot q) (i+j+(i+j)+1):=inferInstanceAs (BQ (p.x*q.x+p.y*q.y) _)
instance BQ.cross (p q:ah) (i j:Nat) [aD p i] [aD q j]:BQ (p.cross q) (i+j+(i+j)+1):=inferInstanceAs (BQ (p.x*q.y-p.y*q.x) _)
instance aD.mov (p q:ah) (c:Rat) (i j k:Nat) [aD p i] [aD q j] [BQ c k]:aD (cD p q c) (i+(k+j)+1):=⟨inferInstanceAs (BQ (p.x+c*q.x) _),inferInstanceAs (BQ (p.y+c*q.y) _)⟩
instance BQ.value (l:aa) (p:ah) (i:Nat) [LB l] [aD p i]:BQ (l.value p) (96+1+i+(96+1+i)+1+(96+1)+1):=inferInstanceAs (BQ ((l.a:Rat)*p.x+(l.b:Rat)*p.y+(l.c:Rat)) _)
def VF{l:aa}(h:l.Ne):l.dir.dot l.dir≠0:=by have:=DK h;grind
def i8{l:aa}:PF GB prog 143 [eL l] (eP l.dir):=by
 refine fn func143 J J ntmps143 J J (fun C=>?_);refine cl J jf J<|cl J jf J<|cl J pz J<|rz J J
def MW{p q:ah}{i j:Nat}[hp:aD p i][hq:aD q j](hi:i<=200000:=by decide)(hj:j<=200000:=by decide):PF GB prog 194 [eP p,eP q] (eQ (p.dot q)):=by
 refine fn func194 J J ntmps194 J J (fun C=>?_);refine cl J (ik we we) J<|cl J (ik we we) J<|cl J (m8 we we) J<|rz J J
def rE{p q:ah}{i j:Nat}[hp:aD p i][hq:aD q j](hi:i<=200000:=by decide)(hj:j<=200000:=by decide):PF GB prog 100 [eP p,eP q] (eQ (p.cross q)):=by
 refine fn func100 J J ntmps100 J J (fun C=>?_);refine cl J (ik we we) J<|cl J (ik we we) J<|cl J (sr we we) J<|rz J J
def uE{p q:ah}{c:Rat}{i j k:Nat}[hp:aD p i][hq:aD q j][hc:BQ c k](hi:i<=19000000:=by decide)(hj:j<=9000000:=by decide)(hk:k<=9000000:=by decide):PF GB prog 23 [eP p,eQ c,eP q] (eP (cD p q c)):=by
 refine fn func23 J J ntmps23 J J (fun C=>?_);refine cl J (ik we we) J<|cl J (m8 we we) J<|cl J (ik we we) J<|cl J (m8 we we) J<|rz J J
def E5{l:aa}{p:ah}{i:Nat}[hl:LB l][hp:aD p i](hi:i<=400000:=by decide):PF GB prog 197 [eL l,eP p] (eQ (l.value p)):=by
 refine fn func197 J J ntmps197 J J (fun C=>?_);refine cl J (jf (z:=l.a)) J<|cl J (ik we we) J<|cl J (jf (z:=l.b)) J<|cl J (ik we we) J<|cl J (m8 we we) J<|cl J (jf (z:=l.c)) J<|cl J (m8 we we) J<|rz J J
def DO{l:aa}{p:ah}{i:Nat}[hl:LB l][hp:aD p i](hi:i<=400000:=by decide):PF GB prog 137 [eL l,eP p] (vI (l.value p).num.sign):=by
 refine fn func137 J J ntmps137 J J (fun C=>?_);refine cl J (E5 hi) J<|cl J n5 J<|rz J J
def BA{l:aa}[hl:LB l](hn:l.Ne):PF GB prog 129 [eL l] (eP l.base):=by
 refine fn func129 J J ntmps129 J J (fun C=>?_);refine cl J i8 J<|cl J (jf (z:=l.c)) J<|cl J MW J<|cl J (zr (VF hn)) J<|cl J pz J<|cl J (jf (z:=l.a)) J<|cl J ik J<|cl J (jf (z:=l.b)) J<|cl J ik J<|rz J (by rw[<-UB];rfl)
instance aD.base (l:aa) [LB l]:aD l.base 900:=by
 rw[<-UB];constructor
 .exact BQ.mono (inferInstance:BQ (-((l.c:Rat)/l.dir.dot l.dir)*(l.a:Rat)) _)
 .exact BQ.mono (inferInstance:BQ (-((l.c:Rat)/l.dir.dot l.dir)*(l.b:Rat)) _)
def Ug{l:aa}{t:Rat}{k:Nat}[hl:LB l][ht:BQ t k](hn:l.Ne)(hk:k<=200000:=by decide):PF GB prog 199 [eL l,eQ t] (eP (l.at t)):=by
 refine fn func199 J J ntmps199 J J (fun C=>?_);refine cl J (BA hn) J<|cl J i8 J<|cl J (uE oma oma we) J<|rz J (by rw[<-AQ];rfl)
def Hk{l:aa}{p:ah}{k:Nat}[hl:LB l][hp:aD p k](hn:l.Ne)(hk:k<=200000:=by decide):PF GB prog 202 [eL l,eP p] (eQ (iC l p)):=by
 refine fn func202 J J ntmps202 J J (fun C=>?_);refine cl J i8 J<|cl J (MW we oma) J<|cl J (MW we oma) J<|cl J (zr (VF hn) we oma) J<|rz J J
instance BI.crossI (l m:aa) [LB l] [LB m]:BI (crossI l m) 385:=inferInstanceAs (BI (l.a*m.b-m.a*l.b) 385)
instance BI.meetX (l m:aa) [LB l] [LB m]:BI (meetX l m) 385:=inferInstanceAs (BI (l.b*m.c-m.b*l.c) 385)
instance BI.meetY (l m:aa) [LB l] [LB m]:BI (meetY l m) 385:=inferInstanceAs (BI (m.a*l.c-l.a*m.c) 385)
instance aD.imeet (l m:aa) [LB l] [LB m]:aD (cx l m) 772:=by
 unfold cx;split
 .exact⟨BQ.mono (k:=1) ⟨oma,oma⟩,BQ.mono (k:=1) ⟨oma,oma⟩⟩
 .exact⟨inferInstanceAs (BQ ((meetX l m:Rat)/(crossI l m:Rat)) 772),inferInstanceAs (BQ ((meetY l m:Rat)/(crossI l m:Rat)) 772)⟩
def P9(l m:aa):(((l.a:Rat)*(m.b:Rat)-(m.a:Rat)*(l.b:Rat)).num.sign=0)↔crossI l m=0:=by
 rw[qp,<-u9];exact cM
def Tp{l m:aa}(h:crossI l m≠0):(l.a:Rat)*(m.b:Rat)-(m.a:Rat)*(l.b:Rat)≠0:=by
 rw[<-u9];exact fun e=>h (cM.1 e)
def Em{l m:aa}[hl:LB l][hm:LB m]:PF GB prog 130 [eL l,eL m] (.tp [eP (cx l m),vB (decide (crossI l m≠0))]):=by
 refine fn func130 J J ntmps130 J J (fun C=>?_);refine cl J (jf (z:=l.a)) J<|cl J (jf (z:=m.b)) J<|cl J ik J<|cl J (jf (z:=m.a)) J<|cl J (jf (z:=l.b)) J<|cl J ik J<|cl J sr J<|cl J n5 J<|br J J J (fun hc26=>?_) (fun hc26=>?_)
 .
  have hcr:=(P9 l m).1 hc26;exact rz J (by unfold cx;rw[if_pos hcr,decide_eq_false (fun e=>e hcr)];show DV.tp [.ag [_, .sl [], .sl [],_, .sl [], .sl []],_]= .tp [eP ⟨0,0⟩,_];unfold eP dD;simp only[show(0:Rat).num=0 from J,show(0:Rat).den=1 from J,lN,mH];rfl)
 .
  have hcr:crossI l m≠0:=fun e=>hc26 ((P9 l m).2 e);refine cl J (jf (z:=l.b)) J<|cl J (jf (z:=m.c)) J<|cl J ik J<|cl J (jf (z:=m.b)) J<|cl J (jf (z:=l.c)) J<|cl J ik J<|cl J sr J<|cl J (jf (z:=m.a)) J<|cl J (jf (z:=l.c)) J<|cl J ik J<|cl J (jf (z:=l.a)) J<|cl J (jf (z:=m.c)) J<|cl J ik J<|cl J sr J<|cl J (zr (Tp hcr)) J<|cl J (zr (Tp hcr)) J<|rz J (by unfold cx;rw[if_neg hcr,decide_eq_true hcr,Lj,Sb,u9];rfl)
def et(l m:aa):Int:=if(l.a-m.a).sign≠0 then(l.a-m.a).sign else if(l.b-m.b).sign≠0 then(l.b-m.b).sign else(l.c-m.c).sign
def DT(l m:aa):et l m=0↔l=m:=by
 unfold et;constructor
 .intro h
  split at h
  .contradiction
  .split at h
   .contradiction
   .rename_i h1 h2
    have a1:=iV.1 (Decidable.not_not.1 h1);have a2:=iV.1 (Decidable.not_not.1 h2);have a3:=iV.1 h;exact aa.ext'
 .rintro rfl
  simp
def Ag{l m:aa}[hl:LB l][hm:LB m]:PF GB prog 136 [eL l,eL m] (vI (et l m)):=by
 refine fn func136 J J ntmps136 J J (fun C=>?_);refine cl J (JN (a:=l.a) (b:=m.a)) J<|br J J J (fun hc13=>?_) (fun hc13=>?_)
 .
  exact rz J (by show vI _=_;unfold et;rw[if_pos hc13])
 .
  refine cl J (JN (a:=l.b) (b:=m.b)) J<|br J J J (fun hc21=>?_) (fun hc21=>?_)
  .
   exact rz J (by show vI _=_;unfold et;rw[if_neg hc13,if_pos hc21])
  .
   refine cl J (JN (a:=l.c) (b:=m.c)) J<|rz J (by show vI _=_;unfold et;rw[if_neg hc13,if_neg hc21])
theorem omm{p:Prop}(h:p:=by show vI _=vI _;unfold ah.half;generalize v.x.num.sign=sx at*;generalize v.y.num.sign=sy at*;congr 1;(repeat' split)<;>omega):p:=h
def U'{v:ah}:PF GB prog 203 [eP v] (vI v.half):=by
 refine fn func203 J J ntmps203 J J (fun C=>?_);refine cl J (n5 (q:=v.x)) J<|cl J (n5 (q:=v.y)) J<|cs 13 J J J (fun hg13=>?_) (fun hg13=>?_)
 .
  refine br J J J (fun hc16=>?_) (fun hc16=>?_)
  .
   exact rz J omm
  .
   refine cs 19 J J J (fun hg19=>?_) (fun hg19=>?_)
   .
    exact rz J omm
   .
    refine cs 22 J J J (fun hg22=>?_) (fun hg22=>?_)
    .
     refine br J J J (fun hc26=>?_) (fun hc26=>?_)
     .
      exact rz J omm
     .
      exact rz J omm
    .
     exact rz J omm
 .
  refine cs 19 J J J (fun hg19=>?_) (fun hg19=>?_)
  .
   exact rz J omm
  .
   refine cs 22 J J J (fun hg22=>?_) (fun hg22=>?_)
   .
    refine br J J J (fun hc26=>?_) (fun hc26=>?_)
    .
     exact rz J omm
    .
     exact rz J omm
   .
    exact rz J omm
def Z2(z:Int): -1<=z.sign/\z.sign<=1:=by
 rcases qQ z 0 with h|h|h
 .rw[fQ h];omega
 .rw[h];decide
 .rw[gQ h];omega
def ZD{u v:ah}{i j:Nat}[hu:aD u i][hv:aD v j](hi:i<=200000:=by decide)(hj:j<=200000:=by decide):PF GB prog 142 [eP u,eP v] (vI (gr u v)):=by
 refine fn func142 J J ntmps142 J J (fun C=>?_);refine cl J (U' (v:=u)) J<|cl J (U' (v:=v)) J<|br J J J (fun hc13=>?_) (fun hc13=>?_)
 .
  refine br J J J (fun hc16=>?_) (fun hc16=>?_)
  .
   exact rz J (by show vI _=vI _;unfold gr;rw[if_pos hc16])
  .
   exact rz J (by show vI _=vI _;unfold gr;rw[if_neg hc16,if_pos we])
 .
  refine cl J (rE hi hj) J<|cl (hv:=by simp only[ak];exact(by have:=Z2 (u.cross v).num;omega)) J n5 J<|rz J (by show vI _=vI _;unfold gr;rw[if_neg we,if_neg we])
instance BQ.i1:BQ (((1:Int):Rat)) 2:=⟨oma,oma⟩
def eV(v:ar):DV:= .ag [.v (.bool (decide (v.lo.num<0))),dN v.lo.num.natAbs,dD v.lo.den, .v (.bool (decide (v.hi.num<0))),dN v.hi.num.natAbs,dD v.hi.den, .v (.bool v.nl), .v (.bool v.nh)]
def aIp:eV ar.all= .ag [.v (.bool false), .sl [], .sl [], .v (.bool false), .sl [], .sl [], .v (.bool true), .v (.bool true)]:=by
 unfold eV ar.all dD;simp only[show(0:Rat).num=0 from J,show(0:Rat).den=1 from J,lN,mH];rfl
def Ml:eQ 0= .ag [.v (.bool false), .sl [], .sl []]:=by
 unfold eQ dD;simp only[show(0:Rat).num=0 from J,show(0:Rat).den=1 from J,lN,mH];rfl
def lz(v:ar):Rat:=if v.nl=true/\v.nh=true then 0 else if v.nl=true then v.hi-1 else if v.nh=true then v.lo+1 else(v.lo+v.hi)/2
def N3:PF GB prog 201 [] (eV ar.all):=by
 refine fn func201 J J ntmps201 J J (fun C=>?_);exact rz J (by rw[aIp];rfl)
def ZJ{v:ar}{i:Nat}[hl:BQ v.lo i][hh:BQ v.hi i](hi:i<=100000:=by decide):PF GB prog 200 [eV v] (eQ (lz v)):=by
 refine fn func200 J J ntmps200 J J (fun C=>?_);refine ja 6 J J J (fun hg6=>?_) (fun hg6=>?_)
 .
  refine bb J J J (fun hc3=>?_) (fun hc3=>?_)
  .
   exact rz J (by unfold lz;rw[if_pos ⟨hg6,hc3⟩,Ml];rfl)
  .
   refine bb J J J (fun hc11=>?_) (fun hc11=>?_)
   .
    refine cl J (jh (n:=1)) J<|cl J (sr (a:=v.hi) (b:=((1:Int):Rat)) we oma) J<|rz J (by unfold lz;rw[if_neg (by simp[hc3]),if_pos hc11];rfl)
   .
    refine bb J J J (fun hc18=>?_) (fun hc18=>?_)
    .
     refine cl J (jh (n:=1)) J<|cl J (m8 (a:=v.lo) (b:=((1:Int):Rat)) we oma) J<|rz J (by simp[hg6] at hc11)
    .
     refine cl J (Gf (a:=v.lo) (b:=v.hi) we we) J<|rz J (by simp[hg6] at hc11)
 .
  refine bb J J J (fun hc11=>?_) (fun hc11=>?_)
  .
   refine cl J (jh (n:=1)) J<|cl J (sr (a:=v.hi) (b:=((1:Int):Rat)) we oma) J<|rz J (by simp[hg6] at hc11)
  .
   refine bb J J J (fun hc18=>?_) (fun hc18=>?_)
   .
    refine cl J (jh (n:=1)) J<|cl J (m8 (a:=v.lo) (b:=((1:Int):Rat)) we oma) J<|rz J (by unfold lz;rw[if_neg (by simp[hg6]),if_neg (by simp[hg6]),if_pos hc18];rfl)
   .
    refine cl J (Gf (a:=v.lo) (b:=v.hi) we we) J<|rz J (by unfold lz;rw[if_neg (by simp[hg6]),if_neg (by simp[hg6]),if_neg (by simp[hc18])];rfl)
theorem BQ.of_fracI{q:Rat}{n D:Int}{i:Nat}(hd:0<D.natAbs)(h:q*((D.natAbs:Nat):Rat)=(n:Rat))(hn:BI n i)(hD:BI D i):BQ q i:=BQ.of_frac hd h hn.h hD.h
theorem EP{m:Int}{i j:Nat}(h:BI m i)(hij:i<=j:=by decide):BI m j:=⟨cS h.h (bR oma hij)⟩
theorem FO{l m:aa}[LB l][LB m](hn:l.Ne)(h:crossI l m≠0):BQ (iC l (cx l m)) 1200:=by
 have e:=YC hn h;have hA:BI (crossI l m*(l.a*l.a+l.b*l.b)) _:=inferInstance;have hB:BI (meetX l m*l.b-meetY l m*l.a) _:=inferInstance;have hne:crossI l m*(l.a*l.a+l.b*l.b)≠0:=by
  intro q;rcases pU.1 q with q|q
  .exact h q
  .have h1:=DK hn
   simp only[aa.dir,ah.dot] at h1;have h2:((l.a*l.a+l.b*l.b:Int):Rat)=((0:Int):Rat):=by rw[q]
   rw[lS,bS,bS] at h2;have h3:((0:Int):Rat)=0:=J;rw[h3] at h2;grind
 have hA':=EP (j:=1200) hA;have hB':=EP (j:=1200) hB;generalize crossI l m*(l.a*l.a+l.b*l.b)=D at*;generalize meetX l m*l.b-meetY l m*l.a=M at*;by_cases hD:0<D
 .refine BQ.of_fracI (n:=M) (D:=D) we ?_ hB' hA'
  rw[<-e];congr 1;have:((D.natAbs:Nat):Int)=D:=by omega
  rw[<-this];rfl
 .refine BQ.of_fracI (n:= -M) (D:=D) we ?_ (BI.neg M 1200 (h:=hB')) hA'
  rw[gW,<-e];have:((D.natAbs:Nat):Rat)= -(D:Rat):=by
   have h1:((D.natAbs:Nat):Int)= -D:=by omega
   rw[<-gW,<-h1];rfl
  rw[this];grind
def PA(k:Rat):k.num.sign<=0↔ ¬0<k:=by rw[<-nG];omega
def aAm{w:ar}(h1: ¬w.nl=true)(h2: ¬w.nh=true)(h3:0<=bE w.lo w.hi):w.empty=true:=by
 unfold ar.empty;simp[h1,h2,h3]
def V'{w:ar}(h:w.nl=true):w.empty=false:=by unfold ar.empty;simp[h]
def aqr{w:ar}(h:w.nh=true):w.empty=false:=by unfold ar.empty;simp[h]
def apD{w:ar}(h: ¬0<=bE w.lo w.hi):w.empty=false:=by unfold ar.empty;simp[h]
def gy(l:aa):List aa->ar->ar×Bool
 |[],v=>(v,true)
 |m::t,v=>if m=l then gy l t v else if l.cutB v m=true then gy l t (l.cutV v m) else(l.cutV v m,false)
def Bn{l:aa}: ∀{c:List aa} {v:ar},(gy l c v).2=(gg l c v).isSome
 |[],v=>rfl
 |m::t,v=>by
  rw[gy,Ka];split
  .exact Bn
  .split
   .exact Bn
   .rfl
structure km (l:aa) (c:List aa) (k:Nat) (v:ar):Prop where
 le:k<=c.length
 p:gg l (c.drop k) v=gg l c ar.all
 e:gy l (c.drop k) v=gy l c ar.all
 z:ir v
 lo:BQ v.lo 1200
 hi:BQ v.hi 1200
def km.skip{l:aa}{c:List aa}{k:Nat}{v:ar}(h:km l c k v)(hk:k<c.length)(e:c[k]=l):km l c (k+1) v:=
 ⟨hk,by have:=h.p;rw[bK hk,Ka,if_pos e] at this;exact this,by have:=h.e;rw[bK hk,gy,if_pos e] at this;exact this,h.z,h.lo,h.hi⟩
def km.cut{l:aa}{c:List aa}{k:Nat}{v w:ar}(h:km l c k v)(hk:k<c.length)(e:c[k]≠l)(hb:l.cutB v c[k]=true)(hw:l.cutV v c[k]=w)(z:ir w)(lo:BQ w.lo 1200)(hi:BQ w.hi 1200):km l c (k+1) w:=
 ⟨hk,by have:=h.p;rw[bK hk,Ka,if_neg e,if_pos hb,hw] at this;exact this,by have:=h.e;rw[bK hk,gy,if_neg e,if_pos hb,hw] at this;exact this,z,lo,hi⟩
def km.no{l:aa}{c:List aa}{k:Nat}{v w:ar}(h:km l c k v)(hk:k<c.length)(e:c[k]≠l)(hb:l.cutB v c[k]=false)(hw:l.cutV v c[k]=w):gy l c ar.all=(w,false):=by
 rw[<-h.e,bK hk,gy,if_neg e,if_neg (by rw[hb];decide),hw]
def km.yes{l:aa}{c:List aa}{k:Nat}{v:ar}(h:km l c k v)(hk:c.length<=k):gy l c ar.all=(v,true):=by
 rw[<-h.e,iN hk];rfl
def km.all{l:aa}{c:List aa}:km l c 0 ar.all:=⟨aN _,by rw[iS],by rw[iS],ir.all,BQ.mono (k:=1) ⟨oma,oma⟩,BQ.mono (k:=1) ⟨oma,oma⟩⟩
def Tb{v:ar}{t:Rat}(h:v.nl=true\/0<bE t v.lo):(⟨t,v.hi,false,v.nh⟩:ar)=qd v t:=by unfold qd;rw[if_pos h]
def aDV{v:ar}{t:Rat}(h: ¬v.nl=true)(h2: ¬0<bE t v.lo):v=qd v t:=by unfold qd;rw[if_neg (fun e=>e.elim h h2)]
def U1{v:ar}{t:Rat}(h:v.nh=true\/bE t v.hi<0):(⟨v.lo,t,v.nl,false⟩:ar)=pO v t:=by unfold pO;rw[if_pos h]
def aEu{v:ar}{t:Rat}(h: ¬v.nh=true)(h2: ¬bE t v.hi<0):v=pO v t:=by unfold pO;rw[if_neg (fun e=>e.elim h h2)]
def pi(l m:aa)(v:ar):ar:=if 0<(m.dir.cross l.dir).num.sign then qd v (iC l (cx l m)) else pO v (iC l (cx l m))
def I7{l m:aa}{v:ar}[LB l][LB m](hn:l.Ne)(hz:ir v)(hlo:BQ v.lo 1200)(hhi:BQ v.hi 1200)(h0:crossI l m≠0):l.cutV v m=pi l m v/\l.cutB v m=!(pi l m v).empty/\ir (pi l m v)/\BQ (pi l m v).lo 1200/\BQ (pi l m v).hi 1200:=by
 have hb:=FO (l:=l) (m:=m) hn h0;unfold pi;split
 .rename_i h
  obtain⟨_,h1,h2⟩:=aFV hn hz ((nG _).1 h);refine⟨h1,h2,hz.lo' _,?_⟩;unfold qd;split
  .exact⟨hb,hhi⟩
  .exact⟨hlo,hhi⟩
 .rename_i h
  obtain⟨h1,h2⟩:=aFP hn hz h0 (fun e=>h ((nG _).2 e));refine⟨h1,h2,hz.hi' _,?_⟩;unfold pO;split
  .exact⟨hlo,hb⟩
  .exact⟨hlo,hhi⟩
theorem HK{l:aa}[LB l](hn:l.Ne): ∀{c:List aa} {v:ar},(∀m∈c,LB m)->ir v->BQ v.lo 1200->BQ v.hi 1200->BQ (gy l c v).1.lo 1200/\BQ (gy l c v).1.hi 1200
 |[],v,_,_,h1,h2=>⟨h1,h2⟩
 |m::t,v,hc,hz,h1,h2=>by
  haveI:=hc m aQ;have hw:ir (l.cutV v m)/\BQ (l.cutV v m).lo 1200/\BQ (l.cutV v m).hi 1200:=by
   by_cases h0:crossI l m=0
   .rw[(B6 (v:=v) h0).1];exact⟨hz,h1,h2⟩
   .obtain⟨u1,_,u3,u4,u5⟩:=I7 (v:=v) hn hz h1 h2 h0
    rw[u1];exact⟨u3,u4,u5⟩
  have hc':=fun m hm=>hc m (aJ _ hm);rw[gy];split
  .exact HK hn hc' hz h1 h2
  .split
   .exact HK hn hc' hw.1 hw.2.1 hw.2.2
   .exact hw.2
theorem omB{p:Prop}(h:p:=by dsimp only;exact⟨hinv,we⟩):p:=h
theorem okY{p:Prop}(h:p:=by rw[hm];rfl):p:=h
def VN{c:List aa}{i:Nat}(hc: ∀m∈c,LB m)(hok: ∀m∈c,m.ok)(hn:c.length<=1000)(hi:i<c.length):PF GB prog 141 [.sl (c.map eL),vI (i:Nat)] (.tp [eV (gy (c[i]'hi) c ar.all).1,vB (gy (c[i]'hi) c ar.all).2]):=by
 have hcl:=yl c;obtain⟨l,hl⟩: ∃l,l=c[i]:=⟨_,rfl⟩;rw[<-hl];haveI hlb:LB l:=hl▸hc _ (dQ hi);have hlo:l.ok:=hl▸hok _ (dQ hi);refine fn func141 J J ntmps141 J J (fun C=>?_);refine ix (fu:=⟨1⟩) _ J (yr hi) J<|aj 16 (.d (eL l)) J (by rw[hl];rfl)<|gx J<|cl (fu:=⟨9⟩) J N3 J<|aj 19 (.d (vI (c.length:Nat))) J (by rw[hcl];rfl)<|gx J<|lp (X:=ar×Nat) (fun⟨v,k⟩=>[(20, .d (vI (k:Nat))),(19, .d (vI (c.length:Nat))),(18, .d (.sl (c.map eL))),(1, .d (vI (i:Nat))),(6, .ov 6 0),(7, .ov 7 0),(4, .ov 4 0)]) (fun⟨v,k⟩=>[(7,some (.o 174 [.d ((.v (.bool (decide (v.lo.num<0))))), .d (dN v.lo.num.natAbs), .d (dD v.lo.den), .d ((.v (.bool (decide (v.hi.num<0))))), .d (dN v.hi.num.natAbs), .d (dD v.hi.den), .d ((.v (.bool v.nl))), .d ((.v (.bool v.nh)))] true)),(6,some (.o 54 [.d ((.v (.bool (decide (l.a<0))))), .d (dN l.a.natAbs), .d ((.v (.bool (decide (l.b<0))))), .d (dN l.b.natAbs), .d ((.v (.bool (decide (l.c<0))))), .d (dN l.c.natAbs)] true)),(4,some (.o 174 [.ff, .nl, .nl, .ff, .nl, .nl, .ff, .ff] true))]) (fun⟨v,k⟩=>km l c k v) (fun⟨v,k⟩=>c.length-k) ⟨ar.all,0⟩ J km.all (fun _=>J) (fun⟨v,k⟩ hk=>?_)
 try dsimp only at hk⊢
 have hS:=hk;refine br J J J (fun hc21=>?_) (fun hc21=>?_)
 .
  have hk:k<c.length:=by omega
  obtain⟨m,hm⟩: ∃m,m=c[k]:=⟨_,rfl⟩;haveI hmb:LB m:=hm▸hc _ (dQ hk);have hmo:m.ok:=hm▸hok _ (dQ hk);refine ix (fu:=⟨1⟩) _ J (yr hk) J<|aj 24 (.d (eL m)) J okY<|gx J<|cs 28 J J J (fun hg28=>?_) (fun hg28=>?_)
  .
   have hinv:km l c (k+1) v:=hS.skip hk (by rw[hl];congr 1;omega);exact at_ ⟨v,k+1⟩ omB
  .
   refine cl J (Ag (l:=l) (m:=m)) J<|br J J J (fun hc33=>?_) (fun hc33=>?_)
   .
    have hinv:km l c (k+1) v:=hS.skip hk (by rw[<-hm,(DT l m).1 hc33]);exact at_ ⟨v,k+1⟩ omB
   .
    have hne:c[k]≠l:=fun e=>hc33 ((DT l m).2 (by rw[hm,e]));refine cl (fu:=⟨13⟩) J (Em (l:=l) (m:=m)) J<|aj 41 (.d (.v (.bool (decide (crossI l m=0))))) J omc<|gx J<|bd J J J (fun hc41=>?_) (fun hc41=>?_)
    .
     refine cl J (BA hlo.ne) J<|cl J (DO (l:=m) (p:=l.base)) J<|br J J J (fun hc46=>?_) (fun hc46=>?_)
     .
      have hno:=hS.no (w:=v) hk hne (by have:=(B6 (v:=v) hc41).2;rw[<-hm];cases hb:l.cutB v m with|false=>rfl|true=>exact absurd (this.1 hb) ((PA _).1 hc46)) (by rw[<-hm];exact(B6 (v:=v) hc41).1);exact rz J (by rw[hno];rfl)
     .
      have hinv:km l c (k+1) v:=by have:=B6 (v:=v) hc41;exact hS.cut hk hne (by rw[<-hm];exact this.2.2 (by have:=mt (PA (m.value l.base)).2 hc46;exact Decidable.not_not.1 this)) (by rw[<-hm];exact this.1) hS.z hS.lo hS.hi
      exact at_ ⟨v,k+1⟩ omB
    .
     obtain⟨u1,u2,u3,u4,u5⟩:=I7 (v:=v) hlo.ne hS.z hS.lo hS.hi hc41;haveI htb:=FO hlo.ne hc41;haveI hvl:=hS.lo;haveI hvh:=hS.hi;refine cl (fu:=⟨0⟩) J (Hk (l:=l) (p:=cx l m) hlo.ne) J<|?_;obtain⟨t,ht⟩: ∃t,t=iC l (cx l m):=⟨_,rfl⟩;refine aj 50 (.d (eQ t)) J (by rw[ht]) ?_;rw[<-ht] at htb;refine gx (fu:=⟨5⟩) J<|mg (X:=ar) (fun w=>[(20, .d (vI (k:Nat))),(19, .d (vI (c.length:Nat))),(18, .d (.sl (c.map eL))),(1, .d (vI (i:Nat))),(6, .ov 6 0),(7, .ov 7 0),(4, .ov 4 0)]) (fun w=>[(7,some (.o 174 [.d ((.v (.bool (decide (w.lo.num<0))))), .d (dN w.lo.num.natAbs), .d (dD w.lo.den), .d ((.v (.bool (decide (w.hi.num<0))))), .d (dN w.hi.num.natAbs), .d (dD w.hi.den), .d ((.v (.bool w.nl))), .d ((.v (.bool w.nh)))] true)),(6,some (.o 54 [.d ((.v (.bool (decide (l.a<0))))), .d (dN l.a.natAbs), .d ((.v (.bool (decide (l.b<0))))), .d (dN l.b.natAbs), .d ((.v (.bool (decide (l.c<0))))), .d (dN l.c.natAbs)] true)),(4,some (.o 174 [.ff, .nl, .nl, .ff, .nl, .nl, .ff, .ff] true))]) (fun w=>w=pi l m v) [20,19,18,1,6,7,4] [7,6,4] rfl ?_ (fun _=>J) (fun w hw=>?_)
     .
      refine gx J<|cl J (i8 (l:=m)) J<|cl J (i8 (l:=l)) J<|cl J (rE (p:=m.dir) (q:=l.dir)) J<|cl J (n5 (q:=m.dir.cross l.dir)) J<|br J J J (fun hc57=>?_) (fun hc57=>?_)
      .
       refine ja 60 J J J (fun hg60=>?_) (fun hg60=>?_)
       .
        refine FJ 7 J J J<|at_ ⟨t,v.hi,false,v.nh⟩ (by unfold pi;rw[if_pos hc57,<-ht];exact Tb (.inl hg60))
       .
        refine cl J (lm (a:=t) (b:=v.lo)) J<|br J J J (fun hc66=>?_) (fun hc66=>?_)
        .
         refine FJ 7 J J J<|at_ ⟨t,v.hi,false,v.nh⟩ (by unfold pi;rw[if_pos hc57,<-ht];exact Tb (.inr hc66))
        .
         exact at_ v (by unfold pi;rw[if_pos hc57,<-ht];exact aDV (by simp[hg60]) hc66)
      .
       refine ja 72 J J J (fun hg72=>?_) (fun hg72=>?_)
       .
        refine FJ 7 J J J<|at_ ⟨v.lo,t,v.nl,false⟩ (by unfold pi;rw[if_neg hc57,<-ht];exact U1 (.inl hg72))
       .
        refine cl J (lm (a:=t) (b:=v.hi)) J<|br J J J (fun hc78=>?_) (fun hc78=>?_)
        .
         refine FJ 7 J J J<|at_ ⟨v.lo,t,v.nl,false⟩ (by unfold pi;rw[if_neg hc57,<-ht];exact U1 (.inr hc78))
        .
         exact at_ v (by unfold pi;rw[if_neg hc57,<-ht];exact aEu (by simp[hg72]) hc78)
     .
      rw[<-hw] at u1 u2 u3 u4 u5;haveI:=u4;haveI:=u5;refine ja 85 J J J (fun hg85=>?_) (fun hg85=>?_)
      .
       refine ja 90 J J J (fun hg90=>?_) (fun hg90=>?_)
       .
        refine cl J (lm (a:=w.lo) (b:=w.hi)) J<|br J J J (fun hc97=>?_) (fun hc97=>?_)
        .
         have hno:=hS.no (w:=w) hk hne (by rw[<-hm,u2,aAm (by simpa using hg85) (by simpa using hg90) hc97];rfl) (by rw[<-hm,u1]);exact rz J (by rw[hno];rfl)
        .
         have hinv:km l c (k+1) w:=hS.cut hk hne (by rw[<-hm,u2,apD hc97];rfl) (by rw[<-hm,u1]) u3 u4 u5;exact at_ ⟨w,k+1⟩ omB
       .
        have hinv:km l c (k+1) w:=hS.cut hk hne (by rw[<-hm,u2,aqr (by simpa using hg90)];rfl) (by rw[<-hm,u1]) u3 u4 u5;exact at_ ⟨w,k+1⟩ omB
      .
       have hinv:km l c (k+1) w:=hS.cut hk hne (by rw[<-hm,u2,V' (by simpa using hg85)];rfl) (by rw[<-hm,u1]) u3 u4 u5;exact at_ ⟨w,k+1⟩ omB
 .
  exact rz J (by rw[hS.yes we];rfl)
def de(l:aa):DV:= .ag [vI (dP (l.a:Rat)),vI (dO (l.a:Rat)),dC (l.a:Rat),vI (dP (l.b:Rat)),vI (dO (l.b:Rat)),dC (l.b:Rat),vI (dP (l.c:Rat)),vI (dO (l.c:Rat)),dC (l.c:Rat)]
def eZ(p:ah):DV:= .ag [vI (dP p.x),vI (dO p.x),dC p.x,vI (dP p.y),vI (dO p.y),dC p.y]
def eW(v:ar):DV:= .ag [vI (dP v.lo),vI (dO v.lo),dC v.lo,vI (dP v.hi),vI (dO v.hi),dC v.hi, .v (.bool v.nl), .v (.bool v.nh)]
def El{G:Gh}{t:List DV}{vs:List Value}(h:IsLs G (vI 0::vI 0:: .v (.pointer none)::t) vs):IsLs G (vI (dP 0)::vI (dO 0)::dC 0::t) vs:=by
 obtain⟨y1,l1,rfl,k1,g1⟩:=bA.1 h;obtain⟨y2,l2,rfl,k2,g2⟩:=bA.1 g1;obtain⟨y3,l3,rfl,k3,g3⟩:=bA.1 g2;have e:decide (gI 0)=false:=decide_eq_false fun h=>KC h J;exact .cons k1 (.cons k2 (.cons (ug.2 (.inl ⟨e,aP.1 k3⟩)) g3))
def Lx{G:Gh}(a:List DV){t:List DV}{vs:List Value}(h:IsLs G (a++vI 0::vI 0:: .v (.pointer none)::t) vs):IsLs G (a++vI (dP 0)::vI (dO 0)::dC 0::t) vs:=by
 obtain⟨x,y,rfl,h1,h2⟩:=h.unapp;exact h1.app (El h2)
def YB(G:Gh)(y:Value)(k:Is G (.ag [vI 0,vI 0, .v (.pointer none),vI 0,vI 0, .v (.pointer none), .v (.bool true), .v (.bool true)]) y):Is G (eW ar.all) y:=by
 obtain⟨l,rfl,g⟩:=eH.1 k;exact eH.2 ⟨l,J,El (Lx [vI 0,vI 0, .v (.pointer none)] g)⟩
def qc:List Int->Int
 |[]=>0
 |a::t=>if a≠0 then a else qc t
theorem aD.nor(l:aa)[LB l]:aD l.nor 97:=⟨inferInstanceAs (BQ (l.a:Rat) 97),inferInstanceAs (BQ (l.b:Rat) 97)⟩
attribute [instance] aD.nor
instance aD.scale (p:ah) (c:Rat) (i k:Nat) [aD p i] [BQ c k]:aD (p.scale c) (i+k):=⟨inferInstanceAs (BQ (p.x*c) _),inferInstanceAs (BQ (p.y*c) _)⟩
instance aD.add (p q:ah) (i j:Nat) [aD p i] [aD q j]:aD (p.add q) (i+j+1):=⟨inferInstanceAs (BQ (p.x+q.x) _),inferInstanceAs (BQ (p.y+q.y) _)⟩
instance LB.revA (l:aa) [h:LB l]:LB l.rev:=⟨⟨by rw[show l.rev.a= -l.a from J,kQ];exact h.bl.a,by rw[show l.rev.b= -l.b from J,kQ];exact h.bl.b,by rw[show l.rev.c= -l.c from J,kQ];exact h.bl.c⟩⟩
def aKL:PF GB prog 274 [] (eW ar.all):=by
 refine fn func274 J J ntmps274 J J (fun C=>?_);exact kg J YB
def zt{l:aa}:PF GB prog 112 [de l] (eZ l.nor):=by
 refine fn func112 J J ntmps112 J J (fun C=>?_);exact rz J J
def z7{l:aa}[hl:LB l]:PF GB prog 175 [de l] (eZ l.dir):=by
 refine fn func175 J J ntmps175 J J (fun C=>?_);refine cl J (qg (q:=(l.a:Rat))) J<|rz J J
def vO{p q:ah}{i j:Nat}[hp:aD p i][hq:aD q j](hi:i<=40000000:=by decide)(hj:j<=40000000:=by decide):PF GB prog 121 [eZ p,eZ q] (eF (p.dot q)):=by
 refine fn func121 J J ntmps121 J J (fun C=>?_);refine cl J (pu (p:=p.x) (q:=q.x) we we) J<|cl J (pu (p:=p.y) (q:=q.y) we we) J<|cl J (s6 (p:=p.x*q.x) (q:=p.y*q.y) we we) J<|rz J J
def FA{p q:ah}{i j:Nat}[hp:aD p i][hq:aD q j](hi:i<=40000000:=by decide)(hj:j<=40000000:=by decide):PF GB prog 221 [eZ p,eZ q] (eF (p.cross q)):=by
 refine fn func221 J J ntmps221 J J (fun C=>?_);refine cl J (pu (p:=p.x) (q:=q.y) we we) J<|cl J (pu (p:=p.y) (q:=q.x) we we) J<|cl J (q7 (p:=p.x*q.y) (q:=p.y*q.x) we we) J<|rz J J
def Tf{p:ah}{c:Rat}{i j:Nat}[hp:aD p i][hc:BQ c j](hi:i<=40000000:=by decide)(hj:j<=40000000:=by decide):PF GB prog 232 [eZ p,eF c] (eZ (p.scale c)):=by
 refine fn func232 J J ntmps232 J J (fun C=>?_);refine cl J (pu (p:=p.x) (q:=c) we we) J<|cl J (pu (p:=p.y) (q:=c) we we) J<|rz J J
def aIM{p q:ah}{i j:Nat}[hp:aD p i][hq:aD q j](hi:i<=40000000:=by decide)(hj:j<=40000000:=by decide):PF GB prog 231 [eZ p,eZ q] (eZ (p.add q)):=by
 refine fn func231 J J ntmps231 J J (fun C=>?_);refine cl J (s6 we we) J<|cl J (s6 we we) J<|rz J J
def Uy{l:aa}[hl:LB l]:PF GB prog 230 [de l] (eZ l.base):=by
 refine fn func230 J J ntmps230 J J (fun C=>?_);refine cl J zt J<|cl J (qg (q:=(l.c:Rat))) J<|cl J (vO (p:=l.nor) (q:=l.nor)) J<|cl J (CO (p:= -(l.c:Rat)) (q:=l.nor.dot l.nor)) J<|cl J (Tf (p:=l.nor)) J<|rz J J
def Q3{l:aa}{p:ah}{i:Nat}[hl:LB l][hp:aD p i](hi:i<=10000000:=by decide):PF GB prog 277 [de l,eZ p] (eF (l.value p)):=by
 refine fn func277 J J ntmps277 J J (fun C=>?_);refine cl J (zt (l:=l)) J<|cl J (vO (p:=l.nor) (q:=p) we we) J<|cl J (s6 (p:=l.nor.dot p) (q:=(l.c:Rat)) we we) J<|rz J J
def aFW{l:aa}{p:ah}{i:Nat}[hl:LB l][hp:aD p i](hi:i<=10000000:=by decide):PF GB prog 275 [de l,eZ p] (vI (l.value p).num.sign):=by
 refine fn func275 J J ntmps275 J J (fun C=>?_);refine cl J (Q3 (l:=l) (p:=p) hi) J<|cl J (nv (q:=l.value p) we) J<|rz J J
def VB{l:aa}{t:Rat}{i:Nat}[hl:LB l][ht:BQ t i](hi:i<=10000000:=by decide):PF GB prog 176 [de l,eF t] (eZ (l.at t)):=by
 refine fn func176 J J ntmps176 J J (fun C=>?_);refine cl J (Uy (l:=l)) J<|cl J (z7 (l:=l)) J<|cl J (Tf (p:=l.dir) (c:=t) we we) J<|cl J (aIM (p:=l.base) (q:=l.dir.scale t) we we) J<|rz J J
theorem okI{p:Prop}(h:p:=by unfold ar.empty;simp_all [vB,fy]):p:=h
def aGv{v:ar}{i j:Nat}[h1:BQ v.lo i][h2:BQ v.hi j](hi:i<=40000000:=by decide)(hj:j<=40000000:=by decide):PF GB prog 292 [eW v] (vB v.empty):=by
 refine fn func292 J J ntmps292 J J (fun C=>?_);refine ja 6 J J J (fun hg6=>?_) (fun hg6=>?_)
 .
  refine ja 11 J J J (fun hg11=>?_) (fun hg11=>?_)
  .
   refine cl J (yx (p:=v.lo) (q:=v.hi) we we) J<|rz J okI
  .
   exact rz J okI
 .
  exact rz J okI
instance ar.meet_lo (v w:ar) (i j:Nat) [h1:BQ v.lo i] [h3:BQ w.lo j]:BQ (v.meet w).lo (i+j):=by
 have a:=h1.mono (nT i j);have b:=h3.mono (Nat.le_add_left j i);unfold ar.meet;dsimp only;(repeat' split)<;>assumption
instance ar.meet_hi (v w:ar) (i j:Nat) [h1:BQ v.hi i] [h3:BQ w.hi j]:BQ (v.meet w).hi (i+j):=by
 have a:=h1.mono (nT i j);have b:=h3.mono (Nat.le_add_left j i);unfold ar.meet;dsimp only;(repeat' split)<;>assumption
def V9{v w:ar}{i j:Nat}[h1:BQ v.lo i][h2:BQ v.hi i][h3:BQ w.lo j][h4:BQ w.hi j](hi:i<=10000000:=by decide)(hj:j<=10000000:=by decide):PF GB prog 278 [eW v,eW w] (.tp [eW (v.meet w),vB (!(v.meet w).empty)]):=by
 refine fn (fu:=⟨16⟩) func278 J J ntmps278 J J (fun C=>?_);refine mg (fu:=⟨1⟩) (X:=Unit) (fun _=>[(6, .ov 6 0)]) (fun _=>[(6,some (.o 207 [.d (vI (dP (v.meet w).lo)), .d (vI (dO (v.meet w).lo)), .d (dC (v.meet w).lo), .d (vI (dP v.hi)), .d (vI (dO v.hi)), .d (dC v.hi), .d (.v (.bool (v.nl&&w.nl))), .d (.v (.bool (v.nh)))] true))]) (fun _=>True) [6] [6] rfl ?_ (fun _=>J) (fun _ _=>?_)
 .
  refine gx J<|bb (v1:=fun hc8=>by simp only[ak];kernel_rfl) J J J (fun hc8=>?_) (fun hc8=>?_)
  .
   have em:(v.meet w).lo=w.lo:=by unfold ar.meet;simp_all
   have eb:(v.nl&&w.nl)=w.nl:=by simp_all
   exact at_ () trivial (hO:=⟨by rw[em,eb]<;>rfl,by repeat (first|exact trivial|refine And.intro J ?_)⟩)
  .
   refine bb J J J (fun hc17=>?_) (fun hc17=>?_)
   .
    refine cl J (WM (p:=v.lo) (q:=w.lo) we we) J<|?_;have em:(v.meet w).lo=(if v.lo<w.lo then w.lo else v.lo):=by unfold ar.meet;simp_all
    have eb:(v.nl&&w.nl)=v.nl:=by simp_all
    exact at_ () trivial (hO:=⟨by rw[em,eb]<;>rfl,by repeat (first|exact trivial|refine And.intro J ?_)⟩)
   .
    have em:(v.meet w).lo=v.lo:=by unfold ar.meet;simp_all
    have eb:(v.nl&&w.nl)=v.nl:=by simp_all
    exact at_ () trivial (hO:=⟨by rw[em,eb]<;>rfl,by repeat (first|exact trivial|refine And.intro J ?_)⟩)
 .
  refine mg (X:=Unit) (fun _=>[(6, .ov 6 0)]) (fun _=>[(6,some (.o 207 [.d (vI (dP (v.meet w).lo)), .d (vI (dO (v.meet w).lo)), .d (dC (v.meet w).lo), .d (vI (dP (v.meet w).hi)), .d (vI (dO (v.meet w).hi)), .d (dC (v.meet w).hi), .d (.v (.bool (v.nl&&w.nl))), .d (.v (.bool (v.nh&&w.nh)))] true))]) (fun _=>True) [6] [6] rfl ?_ (fun _=>J) (fun _ _=>?_)
  .
   refine gx J<|bb (v1:=fun hc27=>by simp only[ak];kernel_rfl) J J J (fun hc27=>?_) (fun hc27=>?_)
   .
    have em:(v.meet w).hi=w.hi:=by unfold ar.meet;simp_all
    have eb:(v.nh&&w.nh)=w.nh:=by simp_all
    exact at_ () trivial (hO:=⟨by rw[em,eb]<;>rfl,by repeat (first|exact trivial|refine And.intro J ?_)⟩)
   .
    refine bb J J J (fun hc36=>?_) (fun hc36=>?_)
    .
     refine cl J (SI (p:=v.hi) (q:=w.hi) we we) J<|?_;have em:(v.meet w).hi=(if w.hi<v.hi then w.hi else v.hi):=by unfold ar.meet;simp_all
     have eb:(v.nh&&w.nh)=v.nh:=by simp_all
     exact at_ () trivial (hO:=⟨by rw[em,eb]<;>rfl,by repeat (first|exact trivial|refine And.intro J ?_)⟩)
    .
     have em:(v.meet w).hi=v.hi:=by unfold ar.meet;simp_all
     have eb:(v.nh&&w.nh)=v.nh:=by simp_all
     exact at_ () trivial (hO:=⟨by rw[em,eb]<;>rfl,by repeat (first|exact trivial|refine And.intro J ?_)⟩)
  .
   refine cl J (aGv (v:=v.meet w) (i:=i+j) (j:=i+j) we we) J<|rz J J
theorem BQ.z1:BQ (0:Rat) 1:=⟨oma,oma⟩
def aB5{v:ar}{t:Rat}{i j:Nat}[h1:BQ v.lo i][h2:BQ v.hi i][h3:BQ t j](hi:i<=10000000:=by decide)(hj:j<=9999999:=by decide):PF GB prog 278 [eW v, .ag [vI (dP t),vI (dO t),dC t,vI 0,vI 0, .v (.pointer none), .v (.bool false), .v (.bool true)]] (.tp [eW (v.meet ⟨t,0,false,true⟩),vB (!(v.meet ⟨t,0,false,true⟩).empty)]):=
 (V9 (v:=v) (w:=⟨t,0,false,true⟩) (j:=j+1) (h3:=h3.mono we) (h4:=BQ.z1.mono we) hi we).ofI fun G vs hv=>Jw (fun y hy=>by
  obtain⟨l,rfl,g⟩:=eH.1 hy;exact eH.2 ⟨l,J,Lx [_,_,_] g⟩) hv
def aAw{v:ar}{t:Rat}{i j:Nat}[h1:BQ v.lo i][h2:BQ v.hi i][h3:BQ t j](hi:i<=10000000:=by decide)(hj:j<=9999999:=by decide):PF GB prog 278 [eW v, .ag [vI 0,vI 0, .v (.pointer none),vI (dP t),vI (dO t),dC t, .v (.bool true), .v (.bool false)]] (.tp [eW (v.meet ⟨0,t,true,false⟩),vB (!(v.meet ⟨0,t,true,false⟩).empty)]):=
 (V9 (v:=v) (w:=⟨0,t,true,false⟩) (j:=j+1) (h4:=h3.mono we) (h3:=BQ.z1.mono we) hi we).ofI fun G vs hv=>Jw (fun y hy=>by
  obtain⟨l,rfl,g⟩:=eH.1 hy;exact eH.2 ⟨l,J,El g⟩) hv
instance BQ.cutK (l m:aa) [LB l] [LB m]:BQ (l.cutK m) 400:=BQ.mono (inferInstance:BQ (m.nor.dot l.dir) _)
instance BQ.cutC (l m:aa) [LB l] [LB m]:BQ (l.cutC m) 2500:=BQ.mono (inferInstance:BQ (m.value l.base) _)
def O0{l m:aa}{v:ar}{i:Nat}[hl:LB l][hm:LB m][h1:BQ v.lo i][h2:BQ v.hi i](hi:i<=10000000:=by decide):PF GB prog 248 [de l,eW v,de m] (.tp [eW (l.cutV v m),vB (l.cutB v m)]):=by
 refine fn func248 J J ntmps248 J J (fun C=>?_);refine cl J (zt (l:=m)) J<|cl J (z7 (l:=l)) J<|cl J (vO (p:=m.nor) (q:=l.dir)) J<|cl J (Uy (l:=l)) J<|cl J (Q3 (l:=m) (p:=l.base)) J<|cl J (nv (q:=l.cutK m)) J<|br J J J (fun hc21=>?_) (fun hc21=>?_)
 .
  refine cl J (nv (q:=l.cutC m)) J<|rz J (by unfold aa.cutV aa.cutB;rw[if_pos hc21,if_pos hc21];rfl)
 .
  refine br J J J (fun hc27=>?_) (fun hc27=>?_)
  .
   refine cl J (CO (p:=l.cutC m) (q:=l.cutK m)) J<|cl J (qg (q:=l.cutC m/l.cutK m)) J<|cl J (aB5 (v:=v) (t:= -(l.cutC m/l.cutK m)) hi) J<|rz J (by unfold aa.cutB aa.cutV;rw[if_neg hc21,if_neg hc21,if_pos hc27];rfl)
  .
   refine cl J (CO (p:=l.cutC m) (q:=l.cutK m)) J<|cl J (qg (q:=l.cutC m/l.cutK m)) J<|cl J (aAw (v:=v) (t:= -(l.cutC m/l.cutK m)) hi) J<|rz J (by unfold aa.cutB aa.cutV;rw[if_neg hc21,if_neg hc21,if_neg hc27];rfl)
theorem omF{p:Prop}(h:p:=by unfold ar.sample;simp_all [fy]<;>rfl):p:=h
def NT{v:ar}{i:Nat}[h1:BQ v.lo i][h2:BQ v.hi i](hi:i<=10000000:=by decide):PF GB prog 177 [eW v] (eF v.sample):=by
 refine fn func177 J J ntmps177 J J (fun C=>?_);refine ja 6 J J J (fun hg6=>?_) (fun hg6=>?_)
 .
  refine bb J J J (fun hc3=>?_) (fun hc3=>?_)
  .
   exact kg J (by unfold ar.sample;rw[hg6,hc3];exact FN)
  .
   refine bb J J J (fun hc11=>?_) (fun hc11=>?_)
   .
    refine cl J (yw (m:=1)) J<|cl J (q7 (p:=v.hi) (q:=((1:Int):Rat)) we oma) J<|rz J omF
   .
    refine bb J J J (fun hc18=>?_) (fun hc18=>?_)
    .
     refine cl J (yw (m:=1)) J<|cl J (s6 (p:=v.lo) (q:=((1:Int):Rat)) we oma) J<|rz J omF
    .
     refine cl J (s6 (p:=v.lo) (q:=v.hi) we we) J<|cl J (Nq (q:=v.lo+v.hi) we) J<|rz J omF
 .
  refine bb J J J (fun hc11=>?_) (fun hc11=>?_)
  .
   refine cl J (yw (m:=1)) J<|cl J (q7 (p:=v.hi) (q:=((1:Int):Rat)) we oma) J<|rz J omF
  .
   refine bb J J J (fun hc18=>?_) (fun hc18=>?_)
   .
    refine cl J (yw (m:=1)) J<|cl J (s6 (p:=v.lo) (q:=((1:Int):Rat)) we oma) J<|rz J omF
   .
    refine cl J (s6 (p:=v.lo) (q:=v.hi) we we) J<|cl J (Nq (q:=v.lo+v.hi) we) J<|rz J omF
instance BQ.i1':BQ (1:Rat) 2:=⟨oma,oma⟩
instance BQ.i2':BQ (2:Rat) 2:=⟨oma,oma⟩
theorem Tg{v:ar}{i:Nat}[BQ v.lo i][BQ v.hi i]:BQ (lz v) (i+i+5):=by
 unfold lz;split
 .exact BQ.mono (k:=1) ⟨oma,oma⟩ we
 .split
  .exact BQ.mono (inferInstance:BQ (v.hi-1) _) we
  .split
   .exact BQ.mono (inferInstance:BQ (v.lo+1) _) we
   .exact BQ.mono (inferInstance:BQ ((v.lo+v.hi)/2) _) we
instance aD.at (l:aa) (t:Rat) (k:Nat) [LB l] [BQ t k]:aD (l.at t) (900+(k+97)+1):=by
 rw[<-AQ];infer_instance
def XZ{q:Rat}(h: ¬q.num.sign=0):q≠0:=fun e=>h ((qp q).2 e)
def iF(d:ah):ah:=⟨-d.y,d.x⟩
instance aD.turn (d:ah) (k:Nat) [aD d k]:aD (iF d) k:=⟨inferInstanceAs (BQ (-d.y) k),inferInstanceAs (BQ d.x k)⟩
def vS(p v:ah)(m:aa):Rat:= -(m.value p/(m.value (cD p v ((1:Int):Rat))-m.value p))
def vh(p v:ah)(m:aa)(s:Rat):Rat:=if(m.value (cD p v ((1:Int):Rat))-m.value p).num.sign=0 then s else if(m.value p).num.sign=0 then s else if 0<(vS p v m).num.sign then(if bE (vS p v m/2) s<0 then vS p v m/2 else s) else s
def tE(p v:ah):List aa->Rat->Rat
 |[],s=>s
 |m::t,s=>tE p v t (vh p v m s)
def GS(c:List aa)(p v:ah):ah:=cD p v (tE p v c ((1:Int):Rat))
def Cc{c:List aa}{p v:ah}{k:Nat}{s s' r:Rat}{m:aa}(h:tE p v (c.drop k) s=r)(hk:k<c.length)(hm:m=c[k])(e:vh p v m s=s'):tE p v (c.drop (k+1)) s'=r:=by
 rw[bK hk] at h;rw[<-h,tE,<-hm,e]
def aIA{c:List aa}{p v:ah}(hc: ∀m∈c,LB m)(hn:c.length<=1000)(hp:aD p 4500)(hv:aD v 97):PF GB prog 198 [.sl (c.map eL),eP p,eP v] (eP (GS c p v)):=by
 have hcl:=yl c;refine fn func198 J J ntmps198 J J (fun C=>?_);refine cl (fu:=⟨9⟩) J (jh (n:=1)) J<|aj 14 (.d (vI (c.length:Nat))) J (by rw[hcl];rfl)<|gx J<|lp (X:=Rat×Nat) (fun⟨s,k⟩=>[(15, .d (vI (k:Nat))),(14, .d (vI (c.length:Nat))),(13, .d (.sl (c.map eL))),(4, .ov 4 0),(5, .ov 5 0),(7, .ov 7 0),(6, .ov 6 0)]) (fun⟨s,k⟩=>[(7,some (.o 61 [.d ((.v (.bool (decide (s.num<0))))), .d (dN s.num.natAbs), .d (dD s.den)] true)),(6,some (.o 63 [.ff, .nl, .nl, .ff, .nl, .nl] true)),(5,some (.o 63 [.d ((.v (.bool (decide (v.x.num<0))))), .d (dN v.x.num.natAbs), .d (dD v.x.den), .d ((.v (.bool (decide (v.y.num<0))))), .d (dN v.y.num.natAbs), .d (dD v.y.den)] true)),(4,some (.o 63 [.d ((.v (.bool (decide (p.x.num<0))))), .d (dN p.x.num.natAbs), .d (dD p.x.den), .d ((.v (.bool (decide (p.y.num<0))))), .d (dN p.y.num.natAbs), .d (dD p.y.den)] true))]) (fun⟨s,k⟩=>k<=c.length/\BQ s 60000/\tE p v (c.drop k) s=tE p v c ((1:Int):Rat)) (fun⟨s,k⟩=>c.length-k) ⟨((1:Int):Rat),0⟩ J ⟨aN _,BQ.i1.mono oma,J⟩ (fun _=>J) (fun⟨s,k⟩ hk=>?_)
 try dsimp only at hk⊢
 obtain⟨hle,hsb,hns⟩:=hk;refine br J J J (fun hc16=>?_) (fun hc16=>?_)
 .
  have hk:k<c.length:=by omega
  obtain⟨m,hm⟩: ∃m,m=c[k]:=⟨_,rfl⟩;haveI hmb:LB m:=hm▸hc _ (dQ hk);have hinv:=hsb;refine ix (fu:=⟨1⟩) _ J (yr hk) J<|aj 18 (.d (eL m)) J okY<|gx J<|cl J (jh (n:=1)) J<|cl J (uE (p:=p) (q:=v) (c:=((1:Int):Rat))) J<|cl J (E5 (l:=m) (p:=cD p v ((1:Int):Rat))) J<|cl J (E5 (l:=m) (p:=p)) J<|cl J (sr (a:=m.value (cD p v ((1:Int):Rat))) (b:=m.value p)) J<|cl J (n5 (q:=m.value (cD p v ((1:Int):Rat))-m.value p)) J<|cs 32 J J J (fun hg32=>?_) (fun hg32=>?_)
  .
   exact at_ ⟨s,k+1⟩ (by dsimp only;exact⟨⟨we,hinv,(Cc hns hk hm (by unfold vh;rw[if_pos hg32]))⟩,we⟩)
  .
   refine cl J (DO (l:=m) (p:=p)) J<|br J J J (fun hc37=>?_) (fun hc37=>?_)
   .
    exact at_ ⟨s,k+1⟩ (by dsimp only;exact⟨⟨we,hinv,(Cc hns hk hm (by unfold vh;rw[if_neg hg32,if_pos hc37]))⟩,we⟩)
   .
    refine cl J (E5 (l:=m) (p:=p)) J<|cl J (zr (a:=m.value p) (b:=m.value (cD p v ((1:Int):Rat))-m.value p) (XZ hg32)) J<|cl J (pz (q:=m.value p/(m.value (cD p v ((1:Int):Rat))-m.value p))) J<|cl (fu:=⟨0⟩) J (n5 (q:= -(m.value p/(m.value (cD p v ((1:Int):Rat))-m.value p)))) J<|jP (v2:=fun hg46=>by simp only[ak];exact⟨omd,we⟩) J J J J (fun hg46=>?_) (fun hg46=>?_)
    .
     refine cl J (MX (a:= -(m.value p/(m.value (cD p v ((1:Int):Rat))-m.value p)))) J<|cl J (lm (a:= -(m.value p/(m.value (cD p v ((1:Int):Rat))-m.value p))/2) (b:=s)) J<|br J J J (fun hc53=>?_) (fun hc53=>?_)
     .
      obtain⟨t,ht⟩: ∃t,t= -(m.value p/(m.value (cD p v ((1:Int):Rat))-m.value p)):=⟨_,rfl⟩;haveI htb:BQ t 45000:=ht▸BQ.mono inferInstance;have hinv:BQ (t/2) 60000:=BQ.mono inferInstance;rw[<-ht];refine cl J (MX (a:=t)) J<|at_ ⟨t/2,k+1⟩ (by dsimp only;exact⟨⟨we,hinv,(Cc hns hk hm (by unfold vh;rw[if_neg hg32,if_neg hc37,show vS p v m=t from ht.symm,if_pos (by rw[ht];exact hg46),if_pos (by rw[ht];exact hc53)]))⟩,we⟩)
     .
      exact at_ ⟨s,k+1⟩ (by dsimp only;exact⟨⟨we,hinv,(Cc hns hk hm (by unfold vh;rw[if_neg hg32,if_neg hc37,if_pos (show 0<(vS p v m).num.sign from hg46),if_neg (show¬bE (vS p v m/2) s<0 from hc53)]))⟩,we⟩)
    .
     exact at_ ⟨s,k+1⟩ (by dsimp only;exact⟨⟨we,hinv,(Cc hns hk hm (by unfold vh;rw[if_neg hg32,if_neg hc37,if_neg (show¬0<(vS p v m).num.sign from hg46)]))⟩,we⟩)
 .
  refine cl J (uE (p:=p) (q:=v) (c:=s)) J<|rz J (by unfold GS;rw[<-hns,iN we];rfl)
def kv(c:List aa):List aa->ah
 |[]=>⟨0,0⟩
 |m::t=>if(gy m c ar.all).2=true then GS c (m.at (lz (gy m c ar.all).1)) (iF m.dir) else kv c t
def Y2{c:List aa}{k:Nat}{m:aa}(h:kv c (c.drop k)=kv c c)(hk:k<c.length)(hm:m=c[k])(e:(gy m c ar.all).2=true):kv c c=GS c (m.at (lz (gy m c ar.all).1)) (iF m.dir):=by
 rw[<-h,bK hk,kv,<-hm,if_pos e]
def awy{c:List aa}{k:Nat}{m:aa}(h:kv c (c.drop k)=kv c c)(hk:k<c.length)(hm:m=c[k])(e: ¬(gy m c ar.all).2=true):kv c (c.drop (k+1))=kv c c:=by
 rw[<-h,bK hk,kv,<-hm,if_neg e]
def ay5{c:List aa}{m:aa}(h:m∈c)(h2:(gg m c ar.all).isSome=true):jv c=true:=by
 unfold jv;rw[fN,gK];exact .inr ⟨m,h,h2⟩
def av9{c:List aa}(h:c=[]):jv c=true:=by subst h;rfl
def aBj{c:List aa}(h:c≠[])(h2: ∀m∈c,(gg m c ar.all).isSome=false):jv c=false:=by
 rw[<-jX];unfold jv;rw[fN,gK,qY];rintro (e|⟨m,h3,h4⟩)
 .exact h e
 .rw[h2 m h3] at h4;exact absurd h4 oma
def UJ:eP ⟨0,0⟩= .ag [.v (.bool false), .sl [], .sl [], .v (.bool false), .sl [], .sl []]:=by
 unfold eP dD;simp only[show(0:Rat).num=0 from J,show(0:Rat).den=1 from J,lN,mH];rfl
def Km{c:List aa}(hc: ∀m∈c,LB m)(hok: ∀m∈c,m.ok)(hn:c.length<=1000):PF GB prog 139 [.sl (c.map eL)] (.tp [eP (kv c c),vB (jv c)]):=by
 have hcl:=yl c;refine fn func139 J J ntmps139 J J (fun C=>?_);refine br (fu2:=⟨7⟩) J J J (fun hc11=>?_) (fun hc11=>?_)
 .
  exact rz J (by rw[cY (l:=c) we,av9 J];show _=DV.tp [eP ⟨0,0⟩,_];rw[UJ];rfl)
 .
  refine aj 14 (.d (vI (c.length:Nat))) J (by rw[hcl];rfl)<|gx J<|lp (X:=Nat) (fun k=>[(15, .d (vI (k:Nat))),(14, .d (vI (c.length:Nat))),(13, .d (.sl (c.map eL))),(0, .d (.sl (c.map eL))),(2, .ov 2 0)]) (fun k=>[(2,some (.o 63 [.ff, .nl, .nl, .ff, .nl, .nl] true))]) (fun k=>k<=c.length/\(∀m∈c.take k,(gg m c ar.all).isSome=false)/\kv c (c.drop k)=kv c c) (fun k=>c.length-k) 0 J ⟨aN _,fun m hm=>absurd hm omc,J⟩ (fun _=>J) (fun k hk=>?_);obtain⟨hle,hno,hip⟩:=hk;refine br J J J (fun hc16=>?_) (fun hc16=>?_)
  .
   have hk:k<c.length:=by omega
   obtain⟨m,hm⟩: ∃m,m=c[k]:=⟨_,rfl⟩;haveI hmb:LB m:=hm▸hc _ (dQ hk);have hmo:m.ok:=hm▸hok _ (dQ hk);refine ix (fu:=⟨1⟩) _ J (yr hk) J<|aj 19 (.d (eL m)) J okY<|gx J<|cl (fu:=⟨0⟩) J (VN hc hok hn hk) J<|aj 23 (.d (.tp [eV (gy m c ar.all).1,vB (gy m c ar.all).2])) J (by rw[hm])<|gx J<|bb J J J (fun hc26=>?_) (fun hc26=>?_)
   .
    have hbd:=HK (v:=ar.all) hmo.ne hc ir.all (BQ.mono (k:=1) ⟨oma,oma⟩) (BQ.mono (k:=1) ⟨oma,oma⟩);obtain⟨s,hs⟩: ∃s,s=(gy m c ar.all).1:=⟨_,rfl⟩;rw[<-hs] at hbd;haveI:=hbd.1;haveI:=hbd.2;haveI hsb:=Tg (v:=s) (i:=1200);have hpt:aD (m.at (lz s)) 4500:=by have:=aD.at m (lz s) (1200+1200+5);exact⟨this.x.mono oma,this.y.mono oma⟩
    have hin:jv c=true:=ay5 (hm▸dQ hk) (by rw[<-Bn];exact hc26);have hpn:=Y2 hip hk hm hc26;rw[<-hs] at hpn⊢;refine cl J (i8 (l:=m)) J<|cl J (ZJ (v:=s)) J<|cl J (Ug (l:=m) (t:=lz s) hmo.ne) J<|cl J (pz (q:=m.dir.y)) J<|cl J (aIA (p:=m.at (lz s)) (v:=iF m.dir) hc hn (hpt) inferInstance) J<|rz J (by rw[hin,hpn];rfl)
   .
    exact at_ (k+1) ⟨⟨we,Zq hno hk (by rw[<-hm,<-Bn];exact hc26),awy hip hk hm (by rw[hc26];decide)⟩,we⟩
  .
   exact rz J (by rw[aBj (fun e=>hc11 (by rw[e];rfl)) (fun m hm=>hno m (by rw[bM we];exact hm)),<-hip,iN we];show _=DV.tp [eP ⟨0,0⟩,_];rw[UJ];rfl)
end Go.Sx
end
