import Derived.Test.YtmdgdhokaffbkaaGreatDoorMu10
set_option linter.all false
set_option maxHeartbeats 4000000
set_option maxRecDepth 100000
section
namespace Go.Sx
open Go Go.Proofs Tryz
variable {GB G:Gh}{m D:Int}{g d i j k:Nat}{q t s s':Rat}{vs:List Value}{v w:ao}{l:aa}{es:List Int}
def RD(hg:(g:Int)∣m)(hb:m.natAbs<4611686018427387904):IntKind.i64.wrap (m.tdiv g)=m/g:=by
 rw[Int.tdiv_eq_ediv_of_dvd hg];have:=nW m g;exact atJ (by omega)
def tm(a b:Int):Int:=if(a*b).natAbs<4611686018427387904 then a*b else 0
def Ge(a b:Int):(tm a b).natAbs<4611686018427387904:=by unfold tm;split<;>omega
def A3{a b:Int}(h:(a*b).natAbs<4611686018427387904):tm a b=a*b:=if_pos h
def OH{a b:Int}(h: ¬(a*b).natAbs<4611686018427387904:=by omega):DV.tp [vI 0, .v (.bool false)]= .tp [vI (tm a b),vB (decide ((a*b).natAbs<4611686018427387904))]:=by unfold tm;rw[if_neg h,decide_eq_false h];rfl
def LG{a b:Int}{x:Int}(h:(a*b).natAbs<4611686018427387904)(e:x=a*b):DV.tp [vI x, .v (.bool true)]= .tp [vI (tm a b),vB (decide ((a*b).natAbs<4611686018427387904))]:=by unfold tm;rw[if_pos h,decide_eq_true h,e];rfl
def LP(n:Nat):eI (n:Int)= .ag [.v (.bool false),dN n]:=by unfold eI;rw[decide_eq_false (by omega),fT]
def Ud{p:Rat}(hp:p.den=1)(hq:q.den=1):rgcd p q=((Nat.gcd p.num.natAbs q.num.natAbs:Nat):Int):=by
 conv=>lhs;rw[EC hp,EC hq]
 exact Ik _ _
def V8(q:Rat):mkRat (zv (decide (q.num<0)) q.den) q.num.natAbs=q⁻¹:=by
 rw[Rat.inv_def];by_cases h:q.num<0
 .rw[decide_eq_true h];exact Sv h
 .rw[decide_eq_false h,<-Rat.divInt_ofNat,nT (by omega)];rfl
instance BQ.inv (q:Rat) (i:Nat) [h:BQ q i]:BQ q⁻¹ i:=by
 have h1:=h.hn;have h2:=h.hd;have h3:=q.den_nz;rcases pJ q.num 0 with k|k|k
 .obtain⟨e1,e2⟩:=KA k;exact⟨by omega,by omega⟩
 .have e:q=0:=lL.1 k
  have e0:(0:Rat)⁻¹=0:=Rat.inv_zero;rw[e] at h1 h2⊢;rw[e0];exact⟨h1,h2⟩
 .obtain⟨e1,e2⟩:=MX k;exact⟨by omega,by omega⟩
instance BQ.half:BQ (mkRat 1 2) 2:=⟨by decide,by decide⟩
def XN{x y:Nat}(hx:x<18446744073709551616)(hy:y<18446744073709551616):PF GB prog 178 [.v (.int .u64 (x:Nat)), .v (.int .u64 (y:Nat))] (.tp [.v (.int .u64 ((x*y/18446744073709551616:Nat):Int)), .v (.int .u64 ((x*y%18446744073709551616:Nat):Int))]):=fun G vs _ hv=>by
 obtain⟨v,m,rfl,h1,h2⟩:=bi.1 hv;obtain⟨u,m',rfl,h3,h4⟩:=bi.1 h2
 cases d8.1 h4
 rw[aH.1 h1,aH.1 h3];exact(U8 hx hy).mono fun v G' _ h=>by subst h;exact lj.2 ⟨_,J, .cons (aH.2 J) (.cons (aH.2 J) .nil)⟩
def Qd{a b:Nat}(ha:a<18446744073709551616:=by omega)(hb:b<18446744073709551616:=by omega):PF GB prog 180 [.v (.int .u64 (a:Nat)), .v (.int .u64 (b:Nat))] (.v (.int .u64 (Nat.gcd a b:Nat))):=by
 refine fn func180 J J ntmps180 J J (fun C=>?_);refine lp (X:=Nat×Nat) (fun⟨u,v⟩=>[(1, .d (.v (.int .u64 (v:Nat)))),(0, .d (.v (.int .u64 (u:Nat))))]) (fun⟨u,v⟩=>[]) (fun⟨u,v⟩=>u<18446744073709551616/\v<18446744073709551616/\Nat.gcd u v=Nat.gcd a b) (fun⟨u,v⟩=>v) (a,b) J ⟨ha,hb,J⟩ (fun _=>J) (fun⟨u,v⟩ hk=>?_);dsimp only at hk⊢;obtain⟨h1,h2,h3⟩:=hk;refine br (v1:=fun hc6=>by simp only[ak];exact⟨by omega,by kernel_rfl⟩) J J J (fun hc6=>?_) (fun hc6=>?_)
 .
  have hm:=dK u (show 0<v by omega);exact at_ (v,u%v) (by dsimp only;exact⟨⟨h2,by omega,by rw[<-h3,jX u v,tV v u,jX]⟩,hm⟩)
 .
  exact rz J (by rw[<-h3,show v=0 by omega,nZ];rfl)
def vT(h:m.natAbs<9223372036854775808:=by decide):PF GB prog 105 [vI m] (eF (m:Rat)):=by
 refine fn func105 J J ntmps105 J J (fun C=>?_);refine cs 5 J J J (fun hg5=>?_) (fun hg5=>?_)
 .
  refine cl J (H' (m:=m)) J<|rf (fu:=⟨0⟩) J J<|aj 11 (.d (dN 1)) J (by unfold dN;rw[At];rfl)<|gx J<|cl J (tC (n:=decide (m<0)) (a:=m.natAbs) (i:=63) (h:=⟨h⟩) (d:=1)) J<|rz J (by rw[lD,show mkRat m 1=(m:Rat) from sJ ..];rfl)
 .
  refine br J J J (fun hc8=>?_) (fun hc8=>?_)
  .
   refine cl J (H' (m:=m)) J<|rf (fu:=⟨0⟩) J J<|aj 11 (.d (dN 1)) J (by unfold dN;rw[At];rfl)<|gx J<|cl J (tC (n:=decide (m<0)) (a:=m.natAbs) (i:=63) (h:=⟨h⟩) (d:=1)) J<|rz J (by rw[lD,show mkRat m 1=(m:Rat) from sJ ..];rfl)
  .
   exact jh J (L6 (by omega))
def BR{a b:Int}(ha:a.natAbs<4611686018427387904:=by omega)(hb:b.natAbs<4611686018427387904:=by omega):PF GB prog 106 [vI a,vI b] (.tp [vI (tm a b),vB (decide ((a*b).natAbs<4611686018427387904))]):=by
 have hab:=fW a b;refine fn func106 J J ntmps106 J J (fun C=>?_);refine cl J (z' (m:=a)) J<|cl J (z' (m:=b)) J<|cl J (XN (x:=a.natAbs) (y:=b.natAbs) (by omega) (by omega)) J<|cs 18 J J J (fun hg18=>?_) (fun hg18=>?_)
 .
  exact rz J (OH)
 .
  refine br J J J (fun hc21=>?_) (fun hc21=>?_)
  .
   exact rz J (OH)
  .
   refine bb J J J (fun hc26=>?_) (fun hc26=>?_)
   .
    have hs:=Sc a b;rw[if_neg (by simpa using hc26)] at hs;exact rz J (LG (by omega) (by rw[hs,<-hab];omega))
   .
    have hs:=Sc a b;rw[if_pos (by simpa using hc26)] at hs;exact rz J (LG (by omega) (by rw[hs,<-hab];omega))
def RY(h:m.natAbs<4611686018427387904)(h0:0<d)(hd:d<4611686018427387904):PF GB prog 107 [vI m,vI (d:Nat)] (eF (mkRat m d)):=by
 have hg:Nat.gcd m.natAbs d<=d:=Nat.gcd_le_right _ h0;have hg0:0<Nat.gcd m.natAbs d:=qV _ h0;obtain⟨e1,e2⟩:=Px (m:=m) h0;have e3:=nW m (Nat.gcd m.natAbs d:Nat);have e4:=mY d (Nat.gcd m.natAbs d);have e5:=Nat.div_pos hg hg0;refine fn func107 J J ntmps107 J J (fun C=>?_);refine cl J (z' (m:=m)) J<|cl J (Qd (a:=m.natAbs) (b:=d)) J<|br (fu1:=⟨4⟩) J J J (fun hc13=>?_) (fun hc13=>?_)
 .
  refine aj 16 (.d (vI (m/(Nat.gcd m.natAbs d:Nat)))) J (by rw[RD (Int.dvd_natAbs.1 (rQ.2 (kR _ _))) h];rfl)<|gx (fu:=⟨3⟩) J<|aj 19 (.d (vI ((d/Nat.gcd m.natAbs d:Nat)))) J (by rw[RD (rQ.2 (lU _ _)) (by rw[fT];exact hd)];rfl)<|gx (hv:=by simp only[ak];exact⟨by kernel_rfl,by omega⟩) J<|jh J (ru (fun k=>k ⟨by rw[e1];omega,by rw[e2];omega⟩) e1 (by rw[e2]) J)
 .
  exact jh J (by have h1:Nat.gcd m.natAbs d=1:=(by omega);rw[h1,tW] at e2;rw[h1,Int.natCast_one,Int.ediv_one] at e1;exact ru (fun k=>k ⟨by rw[e1];omega,by rw[e2];omega⟩) e1 (by rw[e2]) J)
def n8{p:Rat}[h:BQ p i][k:BQ q j](hi:i<=100000000:=by decide)(hj:j<=100000000:=by decide):PF GB prog 194 [eF p,eF q] (eF (p*q)):=by
 refine fn (fu:=⟨8⟩) func194 J J ntmps194 J J (fun C=>?_);refine mg (X:=Unit) (fun _=>[(2, .ov 2 0),(3, .ov 3 0),(4, .ov 4 0)]) (fun _=>[(2,some (.o 101 [.d (vI (di p)), .d (vI (dh p)), .d (c9 p)] true)),(3,some (.o 101 [.d (vI (di q)), .d (vI (dh q)), .d (c9 q)] true)),(4,some (.o 101 [.d (.v (.int .i64 0)), .d (.v (.int .i64 0)), .d (.v (.pointer none))] true))]) (fun _=>True) [2,3,4] [2,3,4] rfl ?_ (fun _=>J) (fun _ _=>?_)
 .
  refine gx J<|cs 12 J J J (fun hg12=>?_) (fun hg12=>?_)
  .
   refine br (fu1:=⟨4⟩) J J J (fun hc16=>?_) (fun hc16=>?_)
   .
    have hp:=s9 hg12;have hq:=s9 hc16;have p1:=ml hp;have p2:=oh hp;have p3:=pf hp;have p4:=pD hp;have p5:=p.den_nz;have q1:=ml hq;have q2:=oh hq;have q3:=pf hq;have q4:=pD hq;have q5:=q.den_nz;refine aj 19 (.d (vI p.num)) J (by rw[p1])<|gx (fu:=⟨2⟩) J<|aj 21 (.d (vI q.num)) J (by rw[q1])<|gx J<|cl (fu:=⟨12⟩) J (BR (a:=p.num) (b:=q.num)) J<|aj 28 (.d (vI (p.den:Nat))) J (by congr 3;omega)<|gx (fu:=⟨3⟩) J<|aj 31 (.d (vI (q.den:Nat))) J (by congr 3;omega)<|gx J<|cl J (BR (a:=(p.den:Nat)) (b:=(q.den:Nat))) J<|csd 36 J J J (fun hg36=>?_) (fun hg36=>?_)
    .
     refine bd (fu1:=⟨3⟩) J J J (fun hc38=>?_) (fun hc38=>?_)
     .
      have hd1:p.den*q.den<4611686018427387904:=by omega
      refine aj 39 (.d (vI (p.num*q.num))) J (by rw[A3 hg36])<|gx (fu:=⟨1⟩) J<|aj 40 (.d (vI ((p.den*q.den:Nat)))) J (by rw[A3 hc38];rfl)<|gx J<|cl J (RY (m:=p.num*q.num) (d:=p.den*q.den) hg36 (jQ (by omega) (by omega)) hd1) J<|rz J (by rw[<-Bw];rfl)
     .
      exact at_ () trivial
    .
     exact at_ () trivial
   .
    exact at_ () trivial
  .
   exact at_ () trivial
 .
  refine cl J (se (q:=p) (by omega)) J<|cl J (se (q:=q) (by omega)) J<|cl J (H6 (a:=p.num) (b:=q.num) (by omega) (by omega)) J<|cl J (qi (q:=p) (by omega)) J<|cl J (qi (q:=q) (by omega)) J<|cl J (yf (a:=p.den) (b:=q.den) (by omega) (by omega)) J<|cl J (tC (n:=decide (p.num*q.num<0)) (a:=(p.num*q.num).natAbs) (d:=p.den*q.den) (i:=i+j) (j:=i+j) (by omega) (by omega)) J<|rz J (by rw[lD,<-Bw];rfl)
def qf{p:Rat}[h:BQ p i][k:BQ q j](hi:i<=100000000:=by decide)(hj:j<=100000000:=by decide):PF GB prog 45 [eF p,eF q] (eF (p+q)):=by
 refine fn (fu:=⟨8⟩) func45 J J ntmps45 J J (fun C=>?_);refine mg (X:=Unit) (fun _=>[(2, .ov 2 0),(3, .ov 3 0),(4, .ov 4 0)]) (fun _=>[(2,some (.o 101 [.d (vI (di p)), .d (vI (dh p)), .d (c9 p)] true)),(3,some (.o 101 [.d (vI (di q)), .d (vI (dh q)), .d (c9 q)] true)),(4,some (.o 101 [.d (.v (.int .i64 0)), .d (.v (.int .i64 0)), .d (.v (.pointer none))] true))]) (fun _=>True) [2,3,4] [2,3,4] rfl ?_ (fun _=>J) (fun _ _=>?_)
 .
  refine gx J<|cs 16 J J J (fun hg16=>?_) (fun hg16=>?_)
  .
   refine br (fu1:=⟨1⟩) J J J (fun hc20=>?_) (fun hc20=>?_)
   .
    have hp:=s9 hg16;have hq:=s9 hc20;have p1:=ml hp;have p2:=oh hp;have p3:=pf hp;have p4:=pD hp;have p5:=p.den_nz;have q1:=ml hq;have q2:=oh hq;have q3:=pf hq;have q4:=pD hq;have q5:=q.den_nz;refine mg (fu:=⟨4⟩) (X:=Unit) (fun _=>[(2, .ov 2 0),(3, .ov 3 0),(4, .ov 4 0)]) (fun _=>[(2,some (.o 101 [.d (vI (di p)), .d (vI (dh p)), .d (c9 p)] true)),(3,some (.o 101 [.d (vI (di q)), .d (vI (dh q)), .d (c9 q)] true)),(4,some (.o 101 [.d (.v (.int .i64 0)), .d (.v (.int .i64 0)), .d (.v (.pointer none))] true))]) (fun _=>True) [2,3,4] [2,3,4] rfl ?_ (fun _=>J) (fun _ _=>?_)
    .
     refine gx J<|cs 24 J J J (fun hg24=>?_) (fun hg24=>?_)
     .
      refine br (fu1:=⟨4⟩) J J J (fun hc28=>?_) (fun hc28=>?_)
      .
       refine aj 30 (.d (vI p.num)) J (by rw[p1])<|gx (fu:=⟨2⟩) J<|aj 32 (.d (vI q.num)) J (by rw[q1])<|gx J<|cl J (vT (m:=p.num+q.num) (by omega)) J<|rz J (by rw[EC (q:=p),EC (q:=q),<-lZ];rfl)
      .
       exact at_ () trivial
     .
      exact at_ () trivial
    .
     refine aj 37 (.d (vI p.num)) J (by rw[p1])<|gx (fu:=⟨3⟩) J<|aj 40 (.d (vI (q.den:Nat))) J (by congr 3;omega)<|gx J<|cl (fu:=⟨11⟩) J (BR (a:=p.num) (b:=(q.den:Nat))) J<|aj 46 (.d (vI q.num)) J (by rw[q1])<|gx (fu:=⟨3⟩) J<|aj 49 (.d (vI (p.den:Nat))) J (by congr 3;omega)<|gx J<|cl (fu:=⟨12⟩) J (BR (a:=q.num) (b:=(p.den:Nat))) J<|aj 56 (.d (vI (p.den:Nat))) J (by congr 3;omega)<|gx (fu:=⟨3⟩) J<|aj 59 (.d (vI (q.den:Nat))) J (by congr 3;omega)<|gx J<|cl (fu:=⟨3⟩) J (BR (a:=(p.den:Nat)) (b:=(q.den:Nat))) J<|?_;have t1:=Ge p.num (q.den:Nat);have t2:=Ge q.num (p.den:Nat);have t3:=Ge (p.den:Nat) (q.den:Nat);refine gx J<|csd 67 J J J (fun hg67=>?_) (fun hg67=>?_)
     .
      refine csd 70 J J J (fun hg70=>?_) (fun hg70=>?_)
      .
       refine csd 73 J J J (fun hg73=>?_) (fun hg73=>?_)
       .
        refine cs 77 J J J (fun hg77=>?_) (fun hg77=>?_)
        .
         refine br (fu1:=⟨3⟩) J J J (fun hc80=>?_) (fun hc80=>?_)
         .
          have u1:=A3 hg67;have u2:=A3 hg70;have u3:=A3 hg73;have hd1:p.den*q.den<4611686018427387904:=by omega
          refine aj 81 (.d (vI (p.num*(q.den:Nat)+q.num*(p.den:Nat)))) J (by rw[u1,u2];rfl)<|gx (fu:=⟨1⟩) J<|aj 82 (.d (vI ((p.den*q.den:Nat)))) J (by rw[u3];rfl)<|gx J<|cl J (RY (m:=p.num*(q.den:Nat)+q.num*(p.den:Nat)) (d:=p.den*q.den) (by omega) (jQ (by omega) (by omega)) hd1) J<|rz J (by rw[<-AC];rfl)
         .
          exact at_ () trivial
        .
         exact at_ () trivial
       .
        exact at_ () trivial
      .
       exact at_ () trivial
     .
      exact at_ () trivial
   .
    exact at_ () trivial
  .
   exact at_ () trivial
 .
  refine cl J (se (q:=p) (by omega)) J<|cl (fu:=⟨1⟩) J (qi (q:=q) (by omega)) J<|aj 88 (.d (eI (q.den:Nat))) J (by rw[LP])<|gx J<|cl J (H6 (a:=p.num) (b:=(q.den:Nat)) (by omega) (by omega)) J<|cl J (se (q:=q) (by omega)) J<|cl (fu:=⟨1⟩) J (qi (q:=p) (by omega)) J<|aj 94 (.d (eI (p.den:Nat))) J (by rw[LP])<|gx J<|cl J (H6 (a:=q.num) (b:=(p.den:Nat)) (by omega) (by omega)) J<|cl J (Vo (a:=p.num*(q.den:Nat)) (b:=q.num*(p.den:Nat)) (i:=i+j) (j:=j+i) (by omega) (by omega)) J<|cl J (qi (q:=p) (by omega)) J<|cl J (qi (q:=q) (by omega)) J<|cl J (yf (a:=p.den) (b:=q.den) (by omega) (by omega)) J<|cl J (tC (n:=decide (p.num*(q.den:Nat)+q.num*(p.den:Nat)<0)) (a:=(p.num*(q.den:Nat)+q.num*(p.den:Nat)).natAbs) (d:=p.den*q.den) (i:=i+j+(j+i)+1) (j:=i+j) (by omega) (by omega)) J<|rz J (by rw[lD,<-AC];rfl)
def pu{p:Rat}[h:BQ p i][k:BQ q j](hi:i<=100000000:=by decide)(hj:j<=100000000:=by decide):PF GB prog 195 [eF p,eF q] (eF (p-q)):=by
 refine fn func195 J J ntmps195 J J (fun C=>?_);refine cl J (p9 (q:=q) (by omega)) J<|cl J (qf (p:=p) (q:= -q) (by omega) (by omega)) J<|rz J (by rw[<-Rat.sub_eq_add_neg];rfl)
def Hs[h:BQ q i](hi:i<=400000000:=by decide):PF GB prog 275 [eF q] (eF q⁻¹):=by
 refine fn func275 J J ntmps275 J J (fun C=>?_);refine br (v1:=fun hc3=>by simp only[ak];exact⟨⟨hc3,hc3⟩,hc3⟩) J J J (fun hc3=>?_) (fun hc3=>?_)
 .
  refine cl J (tC (n:=decide (q.num<0)) (a:=q.den) (d:=q.num.natAbs) (by omega) (by omega)) J<|rz J (by rw[V8];rfl)
 .
  have q1:=ml (ng hc3);have q2:=oh (ng hc3);have q3:=pf (ng hc3);have q4:=pD (ng hc3);have q5:=q.den_nz;refine br J J J (fun hc26=>?_) (fun hc26=>?_)
  .
   exact jh rfl (by obtain⟨e1,e2⟩:=KA (q:=q) (by omega);exact ru (fun k=>k ⟨by omega,by omega⟩) (by omega) (by omega) rfl)
  .
   refine br J J J (fun hc39=>?_) (fun hc39=>?_)
   .
    exact jh J (by rw[lL.1 (show q.num=0 by omega),Rat.inv_zero];exact E1)
   .
    exact jh rfl (by obtain⟨e1,e2⟩:=MX (q:=q) (by omega);exact ru (fun k=>k ⟨by omega,by omega⟩) (by omega) (by omega) rfl)
def Ar{p:Rat}[h:BQ p i][k:BQ q j](hi:i<=100000000:=by decide)(hj:j<=100000000:=by decide):PF GB prog 296 [eF p,eF q] (eF (p/q)):=by
 refine fn func296 J J ntmps296 J J (fun C=>?_);refine cl J (Hs (q:=q) (by omega)) J<|cl J (n8 (p:=p) (q:=q⁻¹) (by omega) (by omega)) J<|rz J (by rw[Rat.div_def];rfl)
def Ph{q r:DV}{t:List DV}(h: ∀y,Is G r y->Is G q y)(hv:IsLs G (r::t) vs):IsLs G (q::t) vs:=by
 obtain⟨y,m,rfl,h1,h2⟩:=bi.1 hv;exact .cons (h _ h1) h2
def Jc{a q r:DV}{t:List DV}(h: ∀y,Is G r y->Is G q y)(hv:IsLs G (a::r::t) vs):IsLs G (a::q::t) vs:=by
 obtain⟨y,m,rfl,h1,h2⟩:=bi.1 hv;exact .cons h1 (Ph h h2)
def XW[h:BQ q i](hi:i<=100000000:=by decide):PF GB prog 194 [eF q, .ag [vI 1,vI 1, .v (.pointer none)]] (eF (q*mkRat 1 2)):=
 (n8 (p:=q) (q:=mkRat 1 2) hi).ofI fun G vs hv=>Jc (fun y hy=>ru (q:=mkRat 1 2) (fun k=>k ⟨by decide,by decide⟩) (by decide) (by decide) J G y hy) hv
def Pr[h:BQ q i](hi:i<=100000000:=by decide):PF GB prog 115 [eF q] (eF (q*mkRat 1 2)):=by
 refine fn func115 J J ntmps115 J J (fun C=>?_);refine cl J (XW (q:=q) (by omega)) J<|rz J J
def uX{p:Rat}[h:BQ p i][k:BQ q j](hi:i<=100000000:=by decide)(hj:j<=100000000:=by decide):PF GB prog 292 [eF p,eF q] (vI (bA p q)):=by
 refine fn func292 J J ntmps292 J J (fun C=>?_);refine cs 8 J J J (fun hg8=>?_) (fun hg8=>?_)
 .
  refine cs 13 J J J (fun hg13=>?_) (fun hg13=>?_)
  .
   refine br J J J (fun hc19=>?_) (fun hc19=>?_)
   .
    have hp:=s9 hg8;have hq:=s9 hg13;have p1:=ml hp;have p2:=oh hp;have p3:=pf hp;have p4:=pD hp;have p5:=p.den_nz;have q1:=ml hq;have q2:=oh hq;have q3:=pf hq;have q4:=pD hq;have q5:=q.den_nz;have hl:=QA (a:=p) (b:=q);have hr:=QA (a:=q) (b:=p);unfold bA;refine br J J J (fun hc20=>?_) (fun hc20=>?_)
    .
     exact rz J (by rw[if_pos (hl.2 (by omega))];rfl)
    .
     refine br J J J (fun hc26=>?_) (fun hc26=>?_)
     .
      exact rz J (by rw[if_neg (fun e=>by have:=hl.1 e;omega),if_pos (hr.2 (by omega))];rfl)
     .
      exact rz J (by rw[if_neg (fun e=>by have:=hl.1 e;omega),if_neg (fun e=>by have:=hr.1 e;omega)];rfl)
   .
    refine cl J (pu (p:=p) (q:=q) (by omega) (by omega)) J<|cl J (ma (q:=p-q) (by omega)) J<|rz J (by rw[Cl];rfl)
  .
   refine cl J (pu (p:=p) (q:=q) (by omega) (by omega)) J<|cl J (ma (q:=p-q) (by omega)) J<|rz J (by rw[Cl];rfl)
 .
  refine cl J (pu (p:=p) (q:=q) (by omega) (by omega)) J<|cl J (ma (q:=p-q) (by omega)) J<|rz J (by rw[Cl];rfl)
def Dz{p:Rat}[h:BQ p i][k:BQ q j](hi:i<=100000000:=by decide)(hj:j<=100000000:=by decide):PF GB prog 247 [eF p,eF q] (vB (decide (p=q))):=by
 refine fn func247 J J ntmps247 J J (fun C=>?_);refine cl J (uX (p:=p) (q:=q) hi hj) J<|rz J (by show DV.v (.bool (decide _))= .v (.bool _);congr 2;exact decide_eq_decide.2 (uL p q))
def Vc{p:Rat}[h:BQ p i][k:BQ q j](hi:i<=100000000:=by decide)(hj:j<=100000000:=by decide):PF GB prog 341 [eF p,eF q] (eF (if p<q then q else p)):=by
 refine fn func341 J J ntmps341 J J (fun C=>?_);refine cl J (uX (p:=q) (q:=p) hj hi) J<|br J J J (fun hc8=>?_) (fun hc8=>?_)
 .
  exact rz J (by rw[if_pos ((KT q p).1 hc8)];rfl)
 .
  exact rz J (by rw[if_neg (fun e=>hc8 ((KT q p).2 e))];rfl)
def K7{p:Rat}[h:BQ p i][k:BQ q j](hi:i<=100000000:=by decide)(hj:j<=100000000:=by decide):PF GB prog 276 [eF p,eF q] (eF (if q<p then q else p)):=by
 refine fn func276 J J ntmps276 J J (fun C=>?_);refine cl J (uX (p:=q) (q:=p) hj hi) J<|br J J J (fun hc8=>?_) (fun hc8=>?_)
 .
  exact rz J (by rw[if_pos ((Qb q p).1 hc8)];rfl)
 .
  exact rz J (by rw[if_neg (fun e=>hc8 ((Qb q p).2 e))];rfl)
def tM{p:Rat}[h:BQ p i][k:BQ q j](hi:i<=100000000:=by decide)(hj:j<=100000000:=by decide):PF GB prog 267 [eF p,eF q] (eF (rgcd p q)):=by
 refine fn (fu:=⟨8⟩) func267 J J ntmps267 J J (fun C=>?_);refine mg (X:=Unit) (fun _=>[(2, .ov 2 0),(3, .ov 3 0),(4, .ov 4 0)]) (fun _=>[(2,some (.o 101 [.d (vI (di p)), .d (vI (dh p)), .d (c9 p)] true)),(3,some (.o 101 [.d (vI (di q)), .d (vI (dh q)), .d (c9 q)] true)),(4,some (.o 101 [.d (.v (.int .i64 0)), .d (.v (.int .i64 0)), .d (.v (.pointer none))] true))]) (fun _=>True) [2,3,4] [2,3,4] rfl ?_ (fun _=>J) (fun _ _=>?_)
 .
  refine gx J<|cs 10 J J J (fun hg10=>?_) (fun hg10=>?_)
  .
   refine cs 15 J J J (fun hg15=>?_) (fun hg15=>?_)
   .
    have hp:=s9 hg10;have hq:=s9 hg15;have p1:=ml hp;have p2:=oh hp;have p3:=pf hp;have p4:=pD hp;have p5:=p.den_nz;have q1:=ml hq;have q2:=oh hq;have q3:=pf hq;have q4:=pD hq;have q5:=q.den_nz;refine cs 20 J J J (fun hg20=>?_) (fun hg20=>?_)
    .
     refine br (fu1:=⟨4⟩) J J J (fun hc24=>?_) (fun hc24=>?_)
     .
      have hg:=Ir p3 q3;refine aj 26 (.d (vI p.num)) J (by rw[p1])<|gx J<|cl (fu:=⟨2⟩) J (z' (m:=p.num)) J<|aj 29 (.d (vI q.num)) J (by rw[q1])<|gx J<|cl J (z' (m:=q.num)) J<|cl (hv:=by simp only[ak];exact⟨by omega,by kernel_rfl⟩) J (Qd (a:=p.num.natAbs) (b:=q.num.natAbs)) J<|jh J (by rw[Ud (p:=p) (q:=q) (by omega) (by omega)];exact L6 (by rw[fT];exact hg))
     .
      exact at_ () trivial
    .
     exact at_ () trivial
   .
    exact at_ () trivial
  .
   exact at_ () trivial
 .
  refine cl J (qi (q:=p) (by omega)) J<|cl J (qi (q:=q) (by omega)) J<|cl J (yf (a:=p.den) (b:=q.den) (by omega) (by omega)) J<|cl J (se (q:=p) (by omega)) J<|cl J (qi (q:=q) (by omega)) J<|cl J (yf (a:=p.num.natAbs) (b:=q.den) (by omega) (by omega)) J<|cl J (se (q:=q) (by omega)) J<|cl J (qi (q:=p) (by omega)) J<|cl J (yf (a:=q.num.natAbs) (b:=p.den) (by omega) (by omega)) J<|cl J (FL (a:=p.num.natAbs*q.den) (b:=q.num.natAbs*p.den) (i:=i+j) (j:=j+i) (by omega) (by omega)) J<|cl J (tC (n:=false) (a:=Nat.gcd (p.num.natAbs*q.den) (q.num.natAbs*p.den)) (d:=p.den*q.den) (i:=i+j+(j+i)) (j:=i+j) (by omega) (by omega)) J<|rz J J

def cT:Tr->List DV
 | .leaf b=>[.v (.bool true), .v (.bool b), .v (.bool false), .sl [], .v (.bool false), .sl [], .v (.bool false), .sl [], .v (.pointer none), .v (.pointer none)]
 | .node l x y=>[.v (.bool false), .v (.bool false), .v (.bool (decide (l.a<0))),dN l.a.natAbs, .v (.bool (decide (l.b<0))),dN l.b.natAbs, .v (.bool (decide (l.c<0))),dN l.c.natAbs, .pt (cT x), .pt (cT y)]
def eT(t:Tr):DV:= .pt (cT t)
def eN(n:NQ):DV:= .ag [.v (.bool (decide (n.l.a<0))),dN n.l.a.natAbs, .v (.bool (decide (n.l.b<0))),dN n.l.b.natAbs, .v (.bool (decide (n.l.c<0))),dN n.l.c.natAbs, .v (.int .i64 n.a), .v (.int .i64 n.b)]
def eA(t:Tr):DV:= .ag [.v (.int .i64 (t.num 0)), .sl ((t.wr 0).map eN)]
def zj{z:IV}(h:ph k G z m):Is G (.v (.bool (decide (m<0)))) (.bool z.neg)/\Is G (dN m.natAbs) (.slice z.a.a z.a.n z.a.c):=
 ⟨aH.2 (by rw[h.neg]),(PS h.abs.lt).2 ⟨_,J,h.abs⟩⟩
def Gk{u v:Value}(hm:m.natAbs<2^k)(h1:Is G (.v (.bool (decide (m<0)))) u)(h2:Is G (dN m.natAbs) v): ∃z:IV,u= .bool z.neg/\v= .slice z.a.a z.a.n z.a.c/\ph k G z m:=by
 obtain⟨x,rfl,hx⟩:=(PS hm).1 h2;exact⟨⟨decide (m<0),x⟩,aH.1 h1,J,J,hx⟩
structure BL (l:aa) (k:Nat):Prop where
 a:l.a.natAbs<2^k
 b:l.b.natAbs<2^k
 c:l.c.natAbs<2^k
def aDK{v:Value}(hl:BL l k)(h:Is G (eL l) v): ∃a b c:IV,v= .agg ⟨[.bool a.neg, .slice a.a.a a.a.n a.a.c, .bool b.neg, .slice b.a.a b.a.n b.a.c, .bool c.neg, .slice c.a.a c.a.n c.a.c]⟩/\ph k G a l.a/\ph k G b l.b/\ph k G c l.c:=by
 obtain⟨m,rfl,g⟩:=d9.1 h;clear h;obtain⟨v1,m,rfl,h1,h⟩:=bi.1 g;obtain⟨v2,m,rfl,h2,h⟩:=bi.1 h;obtain⟨v3,m,rfl,h3,h⟩:=bi.1 h;obtain⟨v4,m,rfl,h4,h⟩:=bi.1 h;obtain⟨v5,m,rfl,h5,h⟩:=bi.1 h;obtain⟨v6,m,rfl,h6,h⟩:=bi.1 h;rw[d8] at h;subst h;obtain⟨a,rfl,rfl,ha⟩:=Gk hl.a h1 h2;obtain⟨b,rfl,rfl,hb⟩:=Gk hl.b h3 h4;obtain⟨c,rfl,rfl,hc⟩:=Gk hl.c h5 h6;exact⟨a,b,c,J,ha,hb,hc⟩
def YC{n:NQ}{z:ND}(h:rk k G z n):Is G (eN n) z.val:=by
 refine d9.2 ⟨_,J, .cons (zj h.a).1 (.cons (zj h.a).2 (.cons (zj h.b).1 (.cons (zj h.b).2 (.cons (zj h.c).1 (.cons (zj h.c).2 (.cons (aH.2 ?_) (.cons (aH.2 ?_) .nil)))))))⟩
 .rw[h.l]
 .rw[h.r]
def KE{G:Gh}{k:Nat}: ∀{ns:List NQ} {zs:List ND},gw (rk k G) zs ns->IsLs G (ns.map eN) (zs.map ND.val)
 |_,_, .nil=> .nil
 |_,_, .cons h t=> .cons (YC h) (KE t)
def Z1(ns:List NQ):cA 8 (ns.map eN):=fun d hd=>by
 obtain⟨n,_,rfl⟩:=aR.1 hd;exact⟨rfl,rfl⟩
def aD1{t:Tr}{x:SV}(h:aIC k G x (t.wr 0)):Is G (eA t) (.agg ⟨[.int .i64 (t.num 0), .slice x.a x.n x.c]⟩):=by
 obtain⟨zs,h1,h2⟩:=h;exact d9.2 ⟨_,J, .cons (aH.2 J) (.cons (gp.2 ⟨8,x,_,J,h1,KE h2⟩) .nil)⟩
structure LS (l:aa):Prop where
 ok:l.ok
 a:l.a.natAbs<=4
 b:l.b.natAbs<=4
 c:l.c.natAbs<=40000
def LS.bl(h:LS l):BL l 96:=⟨by have:=h.a;omega,by have:=h.b;omega,by have:=h.c;omega⟩
def vw{xs:List aa}(h:i<xs.length:=by omega):(xs.map eL)[(i:Int).toNat]? =some (eL xs[i]):=by simp[h]
def vH(xs:List aa):(xs.map eL).length=xs.length:=aX ..
def UN{α:Type}{xs:List α}{p:α->Prop}(h: ∀x∈xs.take i,p x)(hi:i<xs.length)(hy:p xs[i]): ∀x∈xs.take (i+1),p x:=by
 intro x hx;rw[iL hi] at hx;simp only[aM,aU] at hx;rcases hx with hx|rfl
 .exact h x hx
 .exact hy
def aa.ext'{m:aa}(h1:l.a=m.a:=by omega)(h2:l.b=m.b:=by omega)(h3:l.c=m.c:=by omega):l=m:=by cases l;cases m;simp_all
def fw(ls:List aa):cA 6 (ls.map eL):=fun d hd=>by
 obtain⟨n,_,rfl⟩:=aR.1 hd;exact⟨rfl,rfl⟩
def iv{z:Int}:PF GB prog 161 [eI z] (eQ (z:Rat)):=by
 refine fn func161 J J ntmps161 J J (fun C=>?_);exact rz J (by rw[ED];rfl)
def AU:PF GB prog 96 [eL l] (eL l.rev):=by
 refine fn func96 J J ntmps96 J J (fun C=>?_);refine cl J BG J<|cl J BG J<|cl J BG J<|rz J J
class LB (l:aa):Prop where bl:BL l 96
instance LB.a (l:aa) [h:LB l]:BI l.a 96:=⟨h.bl.a⟩
instance LB.b (l:aa) [h:LB l]:BI l.b 96:=⟨h.bl.b⟩
instance LB.c (l:aa) [h:LB l]:BI l.c 96:=⟨h.bl.c⟩
class aI (p:ah) (k:outParam Nat):Prop where
 x:BQ p.x k
 y:BQ p.y k
instance aI.ix (p:ah) (k:Nat) [h:aI p k]:BQ p.x k:=h.x
instance aI.iy (p:ah) (k:Nat) [h:aI p k]:BQ p.y k:=h.y
instance aI.dir (l:aa) [LB l]:aI l.dir 97:=⟨inferInstanceAs (BQ (l.b:Rat) 97),inferInstanceAs (BQ (-(l.a:Rat)) 97)⟩
instance BQ.dot (p q:ah) (i j:Nat) [aI p i] [aI q j]:BQ (p.dot q) (i+j+(i+j)+1):=inferInstanceAs (BQ (p.x*q.x+p.y*q.y) _)
instance BQ.cross (p q:ah) (i j:Nat) [aI p i] [aI q j]:BQ (p.cross q) (i+j+(i+j)+1):=inferInstanceAs (BQ (p.x*q.y-p.y*q.x) _)
instance aI.mov (p q:ah) (c:Rat) (i j k:Nat) [aI p i] [aI q j] [BQ c k]:aI (cG p q c) (i+(k+j)+1):=⟨inferInstanceAs (BQ (p.x+c*q.x) _),inferInstanceAs (BQ (p.y+c*q.y) _)⟩
instance BQ.value (l:aa) (p:ah) (i:Nat) [LB l] [aI p i]:BQ (l.value p) (96+1+i+(96+1+i)+1+(96+1)+1):=inferInstanceAs (BQ ((l.a:Rat)*p.x+(l.b:Rat)*p.y+(l.c:Rat)) _)
def QF(h:l.Ne):l.dir.dot l.dir≠0:=by have:=A9 h;grind
def tr:PF GB prog 91 [eL l] (eP l.dir):=by
 refine fn func91 J J ntmps91 J J (fun C=>?_);refine cl J iv J<|cl J iv J<|cl J tP J<|rz J J
def Jd{p q:ah}[hp:aI p i][hq:aI q j](hi:i<=200000:=by decide)(hj:j<=200000:=by decide):PF GB prog 234 [eP p,eP q] (eQ (p.dot q)):=by
 refine fn func234 J J ntmps234 J J (fun C=>?_);refine cl J (iG (by omega) (by omega)) J<|cl J (iG (by omega) (by omega)) J<|cl J (my (by omega) (by omega)) J<|rz J J
def JK{p q:ah}[hp:aI p i][hq:aI q j](hi:i<=200000:=by decide)(hj:j<=200000:=by decide):PF GB prog 62 [eP p,eP q] (eQ (p.cross q)):=by
 refine fn func62 J J ntmps62 J J (fun C=>?_);refine cl J (iG (by omega) (by omega)) J<|cl J (iG (by omega) (by omega)) J<|cl J (qh (by omega) (by omega)) J<|rz J J
def BS{p q:ah}{c:Rat}[hp:aI p i][hq:aI q j][hc:BQ c k](hi:i<=19000000:=by decide)(hj:j<=9000000:=by decide)(hk:k<=9000000:=by decide):PF GB prog 71 [eP p,eQ c,eP q] (eP (cG p q c)):=by
 refine fn func71 J J ntmps71 J J (fun C=>?_);refine cl J (iG (by omega) (by omega)) J<|cl J (my (by omega) (by omega)) J<|cl J (iG (by omega) (by omega)) J<|cl J (my (by omega) (by omega)) J<|rz J J
def DR{p:ah}[hl:LB l][hp:aI p i](hi:i<=400000:=by decide):PF GB prog 238 [eL l,eP p] (eQ (l.value p)):=by
 refine fn func238 J J ntmps238 J J (fun C=>?_);refine cl J (iv (z:=l.a)) J<|cl J (iG (by omega) (by omega)) J<|cl J (iv (z:=l.b)) J<|cl J (iG (by omega) (by omega)) J<|cl J (my (by omega) (by omega)) J<|cl J (iv (z:=l.c)) J<|cl J (my (by omega) (by omega)) J<|rz J J
def Bc{p:ah}[hl:LB l][hp:aI p i](hi:i<=400000:=by decide):PF GB prog 164 [eL l,eP p] (vI (l.value p).num.sign):=by
 refine fn func164 J J ntmps164 J J (fun C=>?_);refine cl J (DR hi) J<|cl J qd J<|rz J J
def DO[hl:LB l](hn:l.Ne):PF GB prog 157 [eL l] (eP l.base):=by
 refine fn func157 J J ntmps157 J J (fun C=>?_);refine cl J tr J<|cl J (iv (z:=l.c)) J<|cl J Jd J<|cl J (vp (QF hn)) J<|cl J tP J<|cl J (iv (z:=l.a)) J<|cl J iG J<|cl J (iv (z:=l.b)) J<|cl J iG J<|rz J (by rw[<-QN];rfl)
instance aI.base (l:aa) [LB l]:aI l.base 900:=by
 rw[<-QN];constructor
 .exact BQ.mono (inferInstance:BQ (-((l.c:Rat)/l.dir.dot l.dir)*(l.a:Rat)) _)
 .exact BQ.mono (inferInstance:BQ (-((l.c:Rat)/l.dir.dot l.dir)*(l.b:Rat)) _)
def Nq[hl:LB l][ht:BQ t k](hn:l.Ne)(hk:k<=200000:=by decide):PF GB prog 242 [eL l,eQ t] (eP (l.at t)):=by
 refine fn func242 J J ntmps242 J J (fun C=>?_);refine cl J (DO hn) J<|cl J tr J<|cl J (BS (by decide) (by decide) (by omega)) J<|rz J (by rw[<-yz];rfl)
def Dg{p:ah}[hl:LB l][hp:aI p k](hn:l.Ne)(hk:k<=200000:=by decide):PF GB prog 256 [eL l,eP p] (eQ (jb l p)):=by
 refine fn func256 J J ntmps256 J J (fun C=>?_);refine cl J tr J<|cl J (Jd (by omega) (by decide)) J<|cl J (Jd (by omega) (by decide)) J<|cl J (vp (QF hn) (by omega) (by decide)) J<|rz J J
instance BI.crossI (l m:aa) [LB l] [LB m]:BI (crossI l m) 385:=inferInstanceAs (BI (l.a*m.b-m.a*l.b) 385)
instance BI.meetX (l m:aa) [LB l] [LB m]:BI (meetX l m) 385:=inferInstanceAs (BI (l.b*m.c-m.b*l.c) 385)
instance BI.meetY (l m:aa) [LB l] [LB m]:BI (meetY l m) 385:=inferInstanceAs (BI (m.a*l.c-l.a*m.c) 385)
instance aI.imeet (l m:aa) [LB l] [LB m]:aI (c7 l m) 772:=by
 unfold c7;split
 .exact⟨BQ.mono (k:=1) ⟨by decide,by decide⟩,BQ.mono (k:=1) ⟨by decide,by decide⟩⟩
 .exact⟨inferInstanceAs (BQ ((meetX l m:Rat)/(crossI l m:Rat)) 772),inferInstanceAs (BQ ((meetY l m:Rat)/(crossI l m:Rat)) 772)⟩
def Ra(l m:aa):(((l.a:Rat)*(m.b:Rat)-(m.a:Rat)*(l.b:Rat)).num.sign=0)↔crossI l m=0:=by
 rw[pc,<-tk];exact cW
def Qh{m:aa}(h:crossI l m≠0):(l.a:Rat)*(m.b:Rat)-(m.a:Rat)*(l.b:Rat)≠0:=by
 rw[<-tk];exact fun e=>h (cW.1 e)
def HP{m:aa}[hl:LB l][hm:LB m]:PF GB prog 92 [eL l,eL m] (.tp [eP (c7 l m),vB (decide (crossI l m≠0))]):=by
 refine fn func92 J J ntmps92 J J (fun C=>?_);refine cl J (iv (z:=l.a)) J<|cl J (iv (z:=m.b)) J<|cl J iG J<|cl J (iv (z:=m.a)) J<|cl J (iv (z:=l.b)) J<|cl J iG J<|cl J qh J<|cl J qd J<|br J J J (fun hc26=>?_) (fun hc26=>?_)
 .
  have hcr:=(Ra l m).1 hc26;exact rz J (by unfold c7;rw[if_pos hcr,decide_eq_false (fun e=>e hcr)];show DV.tp [.ag [_, .sl [], .sl [],_, .sl [], .sl []],_]= .tp [eP ⟨0,0⟩,_];unfold eP dD;simp only[show(0:Rat).num=0 from J,show(0:Rat).den=1 from J,lX,lO];rfl)
 .
  have hcr:crossI l m≠0:=fun e=>hc26 ((Ra l m).2 e);refine cl J (iv (z:=l.b)) J<|cl J (iv (z:=m.c)) J<|cl J iG J<|cl J (iv (z:=m.b)) J<|cl J (iv (z:=l.c)) J<|cl J iG J<|cl J qh J<|cl J (iv (z:=m.a)) J<|cl J (iv (z:=l.c)) J<|cl J iG J<|cl J (iv (z:=l.a)) J<|cl J (iv (z:=m.c)) J<|cl J iG J<|cl J qh J<|cl J (vp (Qh hcr)) J<|cl J (vp (Qh hcr)) J<|rz J (by unfold c7;rw[if_neg hcr,decide_eq_true hcr,I4,K8,tk];rfl)
def gI(l m:aa):Int:=if(l.a-m.a).sign≠0 then(l.a-m.a).sign else if(l.b-m.b).sign≠0 then(l.b-m.b).sign else(l.c-m.c).sign
def AZ(l m:aa):gI l m=0↔l=m:=by
 unfold gI;constructor
 .intro h
  split at h
  .contradiction
  .split at h
   .contradiction
   .rename_i h1 h2
    have a1:=gS.1 (Decidable.not_not.1 h1);have a2:=gS.1 (Decidable.not_not.1 h2);have a3:=gS.1 h;exact aa.ext'
 .rintro rfl
  simp
def Ds{m:aa}[hl:LB l][hm:LB m]:PF GB prog 163 [eL l,eL m] (vI (gI l m)):=by
 refine fn func163 J J ntmps163 J J (fun C=>?_);refine cl J (IF (a:=l.a) (b:=m.a)) J<|br J J J (fun hc13=>?_) (fun hc13=>?_)
 .
  exact rz J (by show vI _=_;unfold gI;rw[if_pos hc13])
 .
  refine cl J (IF (a:=l.b) (b:=m.b)) J<|br J J J (fun hc21=>?_) (fun hc21=>?_)
  .
   exact rz J (by show vI _=_;unfold gI;rw[if_neg hc13,if_pos hc21])
  .
   refine cl J (IF (a:=l.c) (b:=m.c)) J<|rz J (by show vI _=_;unfold gI;rw[if_neg hc13,if_neg hc21])
def MZ{v:ah}:PF GB prog 289 [eP v] (vI v.half):=by
 refine fn func289 J J ntmps289 J J (fun C=>?_);refine cl J (qd (q:=v.x)) J<|cl J (qd (q:=v.y)) J<|cs 13 J J J (fun hg13=>?_) (fun hg13=>?_)
 .
  refine br J J J (fun hc16=>?_) (fun hc16=>?_)
  .
   exact rz J (by show vI _=vI _;unfold ah.half;generalize v.x.num.sign=sx at*;generalize v.y.num.sign=sy at*;congr 1;(repeat' split)<;>omega)
  .
   refine cs 19 J J J (fun hg19=>?_) (fun hg19=>?_)
   .
    exact rz J (by show vI _=vI _;unfold ah.half;generalize v.x.num.sign=sx at*;generalize v.y.num.sign=sy at*;congr 1;(repeat' split)<;>omega)
   .
    refine cs 22 J J J (fun hg22=>?_) (fun hg22=>?_)
    .
     refine br J J J (fun hc26=>?_) (fun hc26=>?_)
     .
      exact rz J (by show vI _=vI _;unfold ah.half;generalize v.x.num.sign=sx at*;generalize v.y.num.sign=sy at*;congr 1;(repeat' split)<;>omega)
     .
      exact rz J (by show vI _=vI _;unfold ah.half;generalize v.x.num.sign=sx at*;generalize v.y.num.sign=sy at*;congr 1;(repeat' split)<;>omega)
    .
     exact rz J (by show vI _=vI _;unfold ah.half;generalize v.x.num.sign=sx at*;generalize v.y.num.sign=sy at*;congr 1;(repeat' split)<;>omega)
 .
  refine cs 19 J J J (fun hg19=>?_) (fun hg19=>?_)
  .
   exact rz J (by show vI _=vI _;unfold ah.half;generalize v.x.num.sign=sx at*;generalize v.y.num.sign=sy at*;congr 1;(repeat' split)<;>omega)
  .
   refine cs 22 J J J (fun hg22=>?_) (fun hg22=>?_)
   .
    refine br J J J (fun hc26=>?_) (fun hc26=>?_)
    .
     exact rz J (by show vI _=vI _;unfold ah.half;generalize v.x.num.sign=sx at*;generalize v.y.num.sign=sy at*;congr 1;(repeat' split)<;>omega)
    .
     exact rz J (by show vI _=vI _;unfold ah.half;generalize v.x.num.sign=sx at*;generalize v.y.num.sign=sy at*;congr 1;(repeat' split)<;>omega)
   .
    exact rz J (by show vI _=vI _;unfold ah.half;generalize v.x.num.sign=sx at*;generalize v.y.num.sign=sy at*;congr 1;(repeat' split)<;>omega)
def V5(z:Int): -1<=z.sign/\z.sign<=1:=by
 rcases pJ z 0 with h|h|h
 .rw[dS h];omega
 .rw[h];decide
 .rw[fY h];omega
def aAD{u v:ah}[hu:aI u i][hv:aI v j](hi:i<=200000:=by decide)(hj:j<=200000:=by decide):PF GB prog 240 [eP u,eP v] (vI (fG u v)):=by
 refine fn func240 J J ntmps240 J J (fun C=>?_);refine cl J (MZ (v:=u)) J<|cl J (MZ (v:=v)) J<|br J J J (fun hc13=>?_) (fun hc13=>?_)
 .
  refine br J J J (fun hc16=>?_) (fun hc16=>?_)
  .
   exact rz J (by show vI _=vI _;unfold fG;rw[if_pos hc16])
  .
   exact rz J (by show vI _=vI _;unfold fG;rw[if_neg hc16,if_pos (by omega)])
 .
  refine cl J (JK hi hj) J<|cl (hv:=by simp only[ak];exact(by have:=V5 (u.cross v).num;omega)) J qd J<|rz J (by show vI _=vI _;unfold fG;rw[if_neg (by omega),if_neg (by omega)])
instance BQ.i1:BQ (((1:Int):Rat)) 2:=⟨by decide,by decide⟩
def eV(v:ao):DV:= .ag [.v (.bool (decide (v.lo.num<0))),dN v.lo.num.natAbs,dD v.lo.den, .v (.bool (decide (v.hi.num<0))),dN v.hi.num.natAbs,dD v.hi.den, .v (.bool v.nl), .v (.bool v.nh)]
def aFr:eV ao.all= .ag [.v (.bool false), .sl [], .sl [], .v (.bool false), .sl [], .sl [], .v (.bool true), .v (.bool true)]:=by
 unfold eV ao.all dD;simp only[show(0:Rat).num=0 from J,show(0:Rat).den=1 from J,lX,lO];rfl
def GN:eQ 0= .ag [.v (.bool false), .sl [], .sl []]:=by
 unfold eQ dD;simp only[show(0:Rat).num=0 from J,show(0:Rat).den=1 from J,lX,lO];rfl
def kg(v:ao):Rat:=if v.nl=true/\v.nh=true then 0 else if v.nl=true then v.hi-1 else if v.nh=true then v.lo+1 else(v.lo+v.hi)/2
def Ps:PF GB prog 288 [] (eV ao.all):=by
 refine fn func288 J J ntmps288 J J (fun C=>?_);exact rz J (by rw[aFr];rfl)
def UR[hl:BQ v.lo i][hh:BQ v.hi i](hi:i<=100000:=by decide):PF GB prog 243 [eV v] (eQ (kg v)):=by
 refine fn func243 J J ntmps243 J J (fun C=>?_);refine iq 6 J J J (fun hg6=>?_) (fun hg6=>?_)
 .
  refine bb J J J (fun hc3=>?_) (fun hc3=>?_)
  .
   exact rz J (by unfold kg;rw[if_pos ⟨hg6,hc3⟩,GN];rfl)
  .
   refine bb J J J (fun hc11=>?_) (fun hc11=>?_)
   .
    refine cl J (jE (n:=1)) J<|cl J (qh (a:=v.hi) (b:=((1:Int):Rat)) (by omega) (by decide)) J<|rz J (by unfold kg;rw[if_neg (by simp[hc3]),if_pos hc11];rfl)
   .
    refine bb J J J (fun hc18=>?_) (fun hc18=>?_)
    .
     refine cl J (jE (n:=1)) J<|cl J (my (a:=v.lo) (b:=((1:Int):Rat)) (by omega) (by decide)) J<|rz J (by simp[hg6] at hc11)
    .
     refine cl J (D8 (a:=v.lo) (b:=v.hi) (by omega) (by omega)) J<|rz J (by simp[hg6] at hc11)
 .
  refine bb J J J (fun hc11=>?_) (fun hc11=>?_)
  .
   refine cl J (jE (n:=1)) J<|cl J (qh (a:=v.hi) (b:=((1:Int):Rat)) (by omega) (by decide)) J<|rz J (by simp[hg6] at hc11)
  .
   refine bb J J J (fun hc18=>?_) (fun hc18=>?_)
   .
    refine cl J (jE (n:=1)) J<|cl J (my (a:=v.lo) (b:=((1:Int):Rat)) (by omega) (by decide)) J<|rz J (by unfold kg;rw[if_neg (by simp[hg6]),if_neg (by simp[hg6]),if_pos hc18];rfl)
   .
    refine cl J (D8 (a:=v.lo) (b:=v.hi) (by omega) (by omega)) J<|rz J (by unfold kg;rw[if_neg (by simp[hg6]),if_neg (by simp[hg6]),if_neg (by simp[hc18])];rfl)
theorem BQ.of_fracI{n:Int}(hd:0<D.natAbs)(h:q*((D.natAbs:Nat):Rat)=(n:Rat))(hn:BI n i)(hD:BI D i):BQ q i:=BQ.of_frac hd h hn.h hD.h
theorem E5(h:BI m i)(hij:i<=j:=by decide):BI m j:=⟨dZ h.h (bR (by decide) hij)⟩
theorem Ed{m:aa}[LB l][LB m](hn:l.Ne)(h:crossI l m≠0):BQ (jb l (c7 l m)) 1200:=by
 have e:=Zw hn h;have hA:BI (crossI l m*(l.a*l.a+l.b*l.b)) _:=inferInstance;have hB:BI (meetX l m*l.b-meetY l m*l.a) _:=inferInstance;have hne:crossI l m*(l.a*l.a+l.b*l.b)≠0:=by
  intro q;rcases oM.1 q with q|q
  .exact h q
  .have h1:=A9 hn
   simp only[aa.dir,ah.dot] at h1;have h2:((l.a*l.a+l.b*l.b:Int):Rat)=((0:Int):Rat):=by rw[q]
   rw[lZ,bM,bM] at h2;have h3:((0:Int):Rat)=0:=J;rw[h3] at h2;grind
 have hA':=E5 (j:=1200) hA;have hB':=E5 (j:=1200) hB;generalize crossI l m*(l.a*l.a+l.b*l.b)=D at*;generalize meetX l m*l.b-meetY l m*l.a=M at*;by_cases hD:0<D
 .refine BQ.of_fracI (n:=M) (D:=D) (by omega) ?_ hB' hA'
  rw[<-e];congr 1;have:((D.natAbs:Nat):Int)=D:=by omega
  rw[<-this];rfl
 .refine BQ.of_fracI (n:= -M) (D:=D) (by omega) ?_ (BI.neg M 1200 (h:=hB')) hA'
  rw[jJ,<-e];have:((D.natAbs:Nat):Rat)= -(D:Rat):=by
   have h1:((D.natAbs:Nat):Int)= -D:=by omega
   rw[<-jJ,<-h1];rfl
  rw[this];grind
def QW(k:Rat):k.num.sign<=0↔ ¬0<k:=by rw[<-mn];omega
def Tu(h1: ¬w.nl=true)(h2: ¬w.nh=true)(h3:0<=bA w.lo w.hi):w.empty=true:=by
 unfold ao.empty;simp[h1,h2,h3]
def T1(h:w.nl=true):w.empty=false:=by unfold ao.empty;simp[h]
def ZW(h:w.nh=true):w.empty=false:=by unfold ao.empty;simp[h]
def anL(h: ¬0<=bA w.lo w.hi):w.empty=false:=by unfold ao.empty;simp[h]
def fI(l:aa):List aa->ao->ao×Bool
 |[],v=>(v,true)
 |m::t,v=>if m=l then fI l t v else if l.cutB v m=true then fI l t (l.cutV v m) else(l.cutV v m,false)
def xe{l:aa}: ∀{c:List aa} {v:ao},(fI l c v).2=(fD l c v).isSome
 |[],v=>rfl
 |m::t,v=>by
  rw[fI,GY];split
  .exact xe
  .split
   .exact xe
   .rfl
structure jl (l:aa) (c:List aa) (k:Nat) (v:ao):Prop where
 le:k<=c.length
 p:fD l (c.drop k) v=fD l c ao.all
 e:fI l (c.drop k) v=fI l c ao.all
 z:gA v
 lo:BQ v.lo 1200
 hi:BQ v.hi 1200
def jl.skip{c:List aa}(h:jl l c k v)(hk:k<c.length)(e:c[k]=l):jl l c (k+1) v:=
 ⟨hk,by have:=h.p;rw[bK hk,GY,if_pos e] at this;exact this,by have:=h.e;rw[bK hk,fI,if_pos e] at this;exact this,h.z,h.lo,h.hi⟩
def jl.cut{c:List aa}(h:jl l c k v)(hk:k<c.length)(e:c[k]≠l)(hb:l.cutB v c[k]=true)(hw:l.cutV v c[k]=w)(z:gA w)(lo:BQ w.lo 1200)(hi:BQ w.hi 1200):jl l c (k+1) w:=
 ⟨hk,by have:=h.p;rw[bK hk,GY,if_neg e,if_pos hb,hw] at this;exact this,by have:=h.e;rw[bK hk,fI,if_neg e,if_pos hb,hw] at this;exact this,z,lo,hi⟩
def jl.no{c:List aa}(h:jl l c k v)(hk:k<c.length)(e:c[k]≠l)(hb:l.cutB v c[k]=false)(hw:l.cutV v c[k]=w):fI l c ao.all=(w,false):=by
 rw[<-h.e,bK hk,fI,if_neg e,if_neg (by rw[hb];decide),hw]
def jl.yes{c:List aa}(h:jl l c k v)(hk:c.length<=k):fI l c ao.all=(v,true):=by
 rw[<-h.e,iS hk];rfl
def jl.all{l:aa}{c:List aa}:jl l c 0 ao.all:=⟨bJ _,by rw[iQ],by rw[iQ],gA.all,BQ.mono (k:=1) ⟨by decide,by decide⟩,BQ.mono (k:=1) ⟨by decide,by decide⟩⟩
def Mw(h:v.nl=true\/0<bA t v.lo):(⟨t,v.hi,false,v.nh⟩:ao)=oO v t:=by unfold oO;rw[if_pos h]
def WS(h: ¬v.nl=true)(h2: ¬0<bA t v.lo):v=oO v t:=by unfold oO;rw[if_neg (fun e=>e.elim h h2)]
def Lq(h:v.nh=true\/bA t v.hi<0):(⟨v.lo,t,v.nl,false⟩:ao)=o9 v t:=by unfold o9;rw[if_pos h]
def Zb(h: ¬v.nh=true)(h2: ¬bA t v.hi<0):v=o9 v t:=by unfold o9;rw[if_neg (fun e=>e.elim h h2)]
def nC(l m:aa)(v:ao):ao:=if 0<(m.dir.cross l.dir).num.sign then oO v (jb l (c7 l m)) else o9 v (jb l (c7 l m))
def GO{m:aa}[LB l][LB m](hn:l.Ne)(hz:gA v)(hlo:BQ v.lo 1200)(hhi:BQ v.hi 1200)(h0:crossI l m≠0):l.cutV v m=nC l m v/\l.cutB v m=!(nC l m v).empty/\gA (nC l m v)/\BQ (nC l m v).lo 1200/\BQ (nC l m v).hi 1200:=by
 have hb:=Ed (l:=l) (m:=m) hn h0;unfold nC;split
 .rename_i h
  obtain⟨_,h1,h2⟩:=TY hn hz ((mn _).1 h);refine⟨h1,h2,hz.lo' _,?_⟩;unfold oO;split
  .exact⟨hb,hhi⟩
  .exact⟨hlo,hhi⟩
 .rename_i h
  obtain⟨h1,h2⟩:=WQ hn hz h0 (fun e=>h ((mn _).2 e));refine⟨h1,h2,hz.hi' _,?_⟩;unfold o9;split
  .exact⟨hlo,hb⟩
  .exact⟨hlo,hhi⟩
theorem ER{l:aa}[LB l](hn:l.Ne): ∀{c:List aa} {v:ao},(∀m∈c,LB m)->gA v->BQ v.lo 1200->BQ v.hi 1200->BQ (fI l c v).1.lo 1200/\BQ (fI l c v).1.hi 1200
 |[],v,_,_,h1,h2=>⟨h1,h2⟩
 |m::t,v,hc,hz,h1,h2=>by
  haveI:=hc m aQ;have hw:gA (l.cutV v m)/\BQ (l.cutV v m).lo 1200/\BQ (l.cutV v m).hi 1200:=by
   by_cases h0:crossI l m=0
   .rw[(AQ (v:=v) h0).1];exact⟨hz,h1,h2⟩
   .obtain⟨u1,_,u3,u4,u5⟩:=GO (v:=v) hn hz h1 h2 h0
    rw[u1];exact⟨u3,u4,u5⟩
  have hc':=fun m hm=>hc m (aJ _ hm);rw[fI];split
  .exact ER hn hc' hz h1 h2
  .split
   .exact ER hn hc' hw.1 hw.2.1 hw.2.2
   .exact hw.2
def OJ{c:List aa}(hc: ∀m∈c,LB m)(hok: ∀m∈c,m.ok)(hn:c.length<=1000)(hi:i<c.length):PF GB prog 239 [.sl (c.map eL),vI (i:Nat)] (.tp [eV (fI (c[i]'hi) c ao.all).1,vB (fI (c[i]'hi) c ao.all).2]):=by
 have hcl:=vH c;obtain⟨l,hl⟩: ∃l,l=c[i]:=⟨_,rfl⟩;rw[<-hl];haveI hlb:LB l:=hl▸hc _ (cN hi);have hlo:l.ok:=hl▸hok _ (cN hi);refine fn func239 J J ntmps239 J J (fun C=>?_);refine ix (fu:=⟨1⟩) _ J (vw hi) J<|aj 16 (.d (eL l)) J (by rw[hl];rfl)<|gx J<|cl (fu:=⟨9⟩) J Ps J<|aj 19 (.d (vI (c.length:Nat))) J (by rw[hcl];rfl)<|gx J<|lp (X:=ao×Nat) (fun⟨v,k⟩=>[(20, .d (vI (k:Nat))),(19, .d (vI (c.length:Nat))),(18, .d (.sl (c.map eL))),(1, .d (vI (i:Nat))),(6, .ov 6 0),(7, .ov 7 0),(4, .ov 4 0)]) (fun⟨v,k⟩=>[(7,some (.o 205 [.d ((.v (.bool (decide (v.lo.num<0))))), .d (dN v.lo.num.natAbs), .d (dD v.lo.den), .d ((.v (.bool (decide (v.hi.num<0))))), .d (dN v.hi.num.natAbs), .d (dD v.hi.den), .d ((.v (.bool v.nl))), .d ((.v (.bool v.nh)))] true)),(6,some (.o 136 [.d ((.v (.bool (decide (l.a<0))))), .d (dN l.a.natAbs), .d ((.v (.bool (decide (l.b<0))))), .d (dN l.b.natAbs), .d ((.v (.bool (decide (l.c<0))))), .d (dN l.c.natAbs)] true)),(4,some (.o 205 [.ff, .nl, .nl, .ff, .nl, .nl, .ff, .ff] true))]) (fun⟨v,k⟩=>jl l c k v) (fun⟨v,k⟩=>c.length-k) ⟨ao.all,0⟩ J jl.all (fun _=>J) (fun⟨v,k⟩ hk=>?_)
 try dsimp only at hk⊢
 have hS:=hk;refine br J J J (fun hc21=>?_) (fun hc21=>?_)
 .
  have hk:k<c.length:=by omega
  obtain⟨m,hm⟩: ∃m,m=c[k]:=⟨_,rfl⟩;haveI hmb:LB m:=hm▸hc _ (cN hk);have hmo:m.ok:=hm▸hok _ (cN hk);refine ix (fu:=⟨1⟩) _ J (vw hk) J<|aj 24 (.d (eL m)) J (by rw[hm];rfl)<|gx J<|cs 28 J J J (fun hg28=>?_) (fun hg28=>?_)
  .
   have hinv:jl l c (k+1) v:=hS.skip hk (by rw[hl];congr 1;omega);exact at_ ⟨v,k+1⟩ (by dsimp only;exact⟨hinv,(by omega)⟩)
  .
   refine cl J (Ds (l:=l) (m:=m)) J<|br J J J (fun hc33=>?_) (fun hc33=>?_)
   .
    have hinv:jl l c (k+1) v:=hS.skip hk (by rw[<-hm,(AZ l m).1 hc33]);exact at_ ⟨v,k+1⟩ (by dsimp only;exact⟨hinv,(by omega)⟩)
   .
    have hne:c[k]≠l:=fun e=>hc33 ((AZ l m).2 (by rw[hm,e]));refine cl (fu:=⟨13⟩) J (HP (l:=l) (m:=m)) J<|aj 41 (.d (.v (.bool (decide (crossI l m=0))))) J (by simp)<|gx J<|bd J J J (fun hc41=>?_) (fun hc41=>?_)
    .
     refine cl J (DO hlo.ne) J<|cl J (Bc (l:=m) (p:=l.base)) J<|br J J J (fun hc46=>?_) (fun hc46=>?_)
     .
      have hno:=hS.no (w:=v) hk hne (by have:=(AQ (v:=v) hc41).2;rw[<-hm];cases hb:l.cutB v m with|false=>rfl|true=>exact absurd (this.1 hb) ((QW _).1 hc46)) (by rw[<-hm];exact(AQ (v:=v) hc41).1);exact rz J (by rw[hno];rfl)
     .
      have hinv:jl l c (k+1) v:=by have:=AQ (v:=v) hc41;exact hS.cut hk hne (by rw[<-hm];exact this.2.2 (by have:=mt (QW (m.value l.base)).2 hc46;exact Decidable.not_not.1 this)) (by rw[<-hm];exact this.1) hS.z hS.lo hS.hi
      exact at_ ⟨v,k+1⟩ (by dsimp only;exact⟨hinv,(by omega)⟩)
    .
     obtain⟨u1,u2,u3,u4,u5⟩:=GO (v:=v) hlo.ne hS.z hS.lo hS.hi hc41;haveI htb:=Ed hlo.ne hc41;haveI hvl:=hS.lo;haveI hvh:=hS.hi;refine cl (fu:=⟨0⟩) J (Dg (l:=l) (p:=c7 l m) hlo.ne) J<|?_;obtain⟨t,ht⟩: ∃t,t=jb l (c7 l m):=⟨_,rfl⟩;refine aj 50 (.d (eQ t)) J (by rw[ht]) ?_;rw[<-ht] at htb;refine gx (fu:=⟨5⟩) J<|mg (X:=ao) (fun w=>[(20, .d (vI (k:Nat))),(19, .d (vI (c.length:Nat))),(18, .d (.sl (c.map eL))),(1, .d (vI (i:Nat))),(6, .ov 6 0),(7, .ov 7 0),(4, .ov 4 0)]) (fun w=>[(7,some (.o 205 [.d ((.v (.bool (decide (w.lo.num<0))))), .d (dN w.lo.num.natAbs), .d (dD w.lo.den), .d ((.v (.bool (decide (w.hi.num<0))))), .d (dN w.hi.num.natAbs), .d (dD w.hi.den), .d ((.v (.bool w.nl))), .d ((.v (.bool w.nh)))] true)),(6,some (.o 136 [.d ((.v (.bool (decide (l.a<0))))), .d (dN l.a.natAbs), .d ((.v (.bool (decide (l.b<0))))), .d (dN l.b.natAbs), .d ((.v (.bool (decide (l.c<0))))), .d (dN l.c.natAbs)] true)),(4,some (.o 205 [.ff, .nl, .nl, .ff, .nl, .nl, .ff, .ff] true))]) (fun w=>w=nC l m v) [20,19,18,1,6,7,4] [7,6,4] rfl ?_ (fun _=>J) (fun w hw=>?_)
     .
      refine gx J<|cl J (tr (l:=m)) J<|cl J (tr (l:=l)) J<|cl J (JK (p:=m.dir) (q:=l.dir)) J<|cl J (qd (q:=m.dir.cross l.dir)) J<|br J J J (fun hc57=>?_) (fun hc57=>?_)
      .
       refine iq 60 J J J (fun hg60=>?_) (fun hg60=>?_)
       .
        refine Dw 7 J J J<|at_ ⟨t,v.hi,false,v.nh⟩ (by unfold nC;rw[if_pos hc57,<-ht];exact Mw (.inl hg60))
       .
        refine cl J (ld (a:=t) (b:=v.lo)) J<|br J J J (fun hc66=>?_) (fun hc66=>?_)
        .
         refine Dw 7 J J J<|at_ ⟨t,v.hi,false,v.nh⟩ (by unfold nC;rw[if_pos hc57,<-ht];exact Mw (.inr hc66))
        .
         exact at_ v (by unfold nC;rw[if_pos hc57,<-ht];exact WS (by simp[hg60]) hc66)
      .
       refine iq 72 J J J (fun hg72=>?_) (fun hg72=>?_)
       .
        refine Dw 7 J J J<|at_ ⟨v.lo,t,v.nl,false⟩ (by unfold nC;rw[if_neg hc57,<-ht];exact Lq (.inl hg72))
       .
        refine cl J (ld (a:=t) (b:=v.hi)) J<|br J J J (fun hc78=>?_) (fun hc78=>?_)
        .
         refine Dw 7 J J J<|at_ ⟨v.lo,t,v.nl,false⟩ (by unfold nC;rw[if_neg hc57,<-ht];exact Lq (.inr hc78))
        .
         exact at_ v (by unfold nC;rw[if_neg hc57,<-ht];exact Zb (by simp[hg72]) hc78)
     .
      rw[<-hw] at u1 u2 u3 u4 u5;haveI:=u4;haveI:=u5;refine iq 85 J J J (fun hg85=>?_) (fun hg85=>?_)
      .
       refine iq 90 J J J (fun hg90=>?_) (fun hg90=>?_)
       .
        refine cl J (ld (a:=w.lo) (b:=w.hi)) J<|br J J J (fun hc97=>?_) (fun hc97=>?_)
        .
         have hno:=hS.no (w:=w) hk hne (by rw[<-hm,u2,Tu (by simpa using hg85) (by simpa using hg90) hc97];rfl) (by rw[<-hm,u1]);exact rz J (by rw[hno];rfl)
        .
         have hinv:jl l c (k+1) w:=hS.cut hk hne (by rw[<-hm,u2,anL hc97];rfl) (by rw[<-hm,u1]) u3 u4 u5;exact at_ ⟨w,k+1⟩ (by dsimp only;exact⟨hinv,(by omega)⟩)
       .
        have hinv:jl l c (k+1) w:=hS.cut hk hne (by rw[<-hm,u2,ZW (by simpa using hg90)];rfl) (by rw[<-hm,u1]) u3 u4 u5;exact at_ ⟨w,k+1⟩ (by dsimp only;exact⟨hinv,(by omega)⟩)
      .
       have hinv:jl l c (k+1) w:=hS.cut hk hne (by rw[<-hm,u2,T1 (by simpa using hg85)];rfl) (by rw[<-hm,u1]) u3 u4 u5;exact at_ ⟨w,k+1⟩ (by dsimp only;exact⟨hinv,(by omega)⟩)
 .
  exact rz J (by rw[hS.yes (by omega)];rfl)
def cB(l:aa):DV:= .ag [vI (di (l.a:Rat)),vI (dh (l.a:Rat)),c9 (l.a:Rat),vI (di (l.b:Rat)),vI (dh (l.b:Rat)),c9 (l.b:Rat),vI (di (l.c:Rat)),vI (dh (l.c:Rat)),c9 (l.c:Rat)]
def eZ(p:ah):DV:= .ag [vI (di p.x),vI (dh p.x),c9 p.x,vI (di p.y),vI (dh p.y),c9 p.y]
def eW(v:ao):DV:= .ag [vI (di v.lo),vI (dh v.lo),c9 v.lo,vI (di v.hi),vI (dh v.hi),c9 v.hi, .v (.bool v.nl), .v (.bool v.nh)]
def Ec{t:List DV}(h:IsLs G (vI 0::vI 0:: .v (.pointer none)::t) vs):IsLs G (vI (di 0)::vI (dh 0)::c9 0::t) vs:=by
 obtain⟨y1,l1,rfl,k1,g1⟩:=bi.1 h;obtain⟨y2,l2,rfl,k2,g2⟩:=bi.1 g1;obtain⟨y3,l3,rfl,k3,g3⟩:=bi.1 g2;have e:decide (gj 0)=false:=decide_eq_false fun h=>Fd h J;exact .cons k1 (.cons k2 (.cons (s7.2 (.inl ⟨e,aH.1 k3⟩)) g3))
def Ip(a:List DV){t:List DV}(h:IsLs G (a++vI 0::vI 0:: .v (.pointer none)::t) vs):IsLs G (a++vI (di 0)::vI (dh 0)::c9 0::t) vs:=by
 obtain⟨x,y,rfl,h1,h2⟩:=h.unapp;exact h1.app (Ec h2)
def Wn(G:Gh)(y:Value)(k:Is G (.ag [vI 0,vI 0, .v (.pointer none),vI 0,vI 0, .v (.pointer none), .v (.bool true), .v (.bool true)]) y):Is G (eW ao.all) y:=by
 obtain⟨l,rfl,g⟩:=d9.1 k;exact d9.2 ⟨l,J,Ec (Ip [vI 0,vI 0, .v (.pointer none)] g)⟩
def oo:List Int->Int
 |[]=>0
 |a::t=>if a≠0 then a else oo t
theorem aI.nor(l:aa)[LB l]:aI l.nor 97:=⟨inferInstanceAs (BQ (l.a:Rat) 97),inferInstanceAs (BQ (l.b:Rat) 97)⟩
attribute [instance] aI.nor
instance aI.scale (p:ah) (c:Rat) (i k:Nat) [aI p i] [BQ c k]:aI (p.scale c) (i+k):=⟨inferInstanceAs (BQ (p.x*c) _),inferInstanceAs (BQ (p.y*c) _)⟩
instance LB.revA (l:aa) [h:LB l]:LB l.rev:=⟨⟨by rw[show l.rev.a= -l.a from J,jW];exact h.bl.a,by rw[show l.rev.b= -l.b from J,jW];exact h.bl.b,by rw[show l.rev.c= -l.c from J,jW];exact h.bl.c⟩⟩
def W3:PF GB prog 326 [] (eW ao.all):=by
 refine fn func326 J J ntmps326 J J (fun C=>?_);exact jh J Wn
def uY:PF GB prog 216 [cB l] (eZ l.nor):=by
 refine fn func216 J J ntmps216 J J (fun C=>?_);exact rz J J
def vV[hl:LB l]:PF GB prog 231 [cB l] (eZ l.dir):=by
 refine fn func231 J J ntmps231 J J (fun C=>?_);refine cl J (p9 (q:=(l.a:Rat))) J<|rz J J
def tj{p q:ah}[hp:aI p i][hq:aI q j](hi:i<=40000000:=by decide)(hj:j<=40000000:=by decide):PF GB prog 221 [eZ p,eZ q] (eF (p.dot q)):=by
 refine fn func221 J J ntmps221 J J (fun C=>?_);refine cl J (n8 (p:=p.x) (q:=q.x) (by omega) (by omega)) J<|cl J (n8 (p:=p.y) (q:=q.y) (by omega) (by omega)) J<|cl J (qf (p:=p.x*q.x) (q:=p.y*q.y) (by omega) (by omega)) J<|rz J J
def CI{p q:ah}[hp:aI p i][hq:aI q j](hi:i<=40000000:=by decide)(hj:j<=40000000:=by decide):PF GB prog 114 [eZ p,eZ q] (eF (p.cross q)):=by
 refine fn func114 J J ntmps114 J J (fun C=>?_);refine cl J (n8 (p:=p.x) (q:=q.y) (by omega) (by omega)) J<|cl J (n8 (p:=p.y) (q:=q.x) (by omega) (by omega)) J<|cl J (pu (p:=p.x*q.y) (q:=p.y*q.x) (by omega) (by omega)) J<|rz J J
def MT{p:ah}{c:Rat}[hp:aI p i][hc:BQ c j](hi:i<=40000000:=by decide)(hj:j<=40000000:=by decide):PF GB prog 287 [eZ p,eF c] (eZ (p.scale c)):=by
 refine fn func287 J J ntmps287 J J (fun C=>?_);refine cl J (n8 (p:=p.x) (q:=c) (by omega) (by omega)) J<|cl J (n8 (p:=p.y) (q:=c) (by omega) (by omega)) J<|rz J J
def Ys{p q:ah}[hp:aI p i][hq:aI q j](hi:i<=40000000:=by decide)(hj:j<=40000000:=by decide):PF GB prog 225 [eZ p,eZ q] (eZ (p.add q)):=by
 refine fn func225 J J ntmps225 J J (fun C=>?_);refine cl J (qf (by omega) (by omega)) J<|cl J (qf (by omega) (by omega)) J<|rz J J
def Rj[hl:LB l]:PF GB prog 304 [cB l] (eZ l.base):=by
 refine fn func304 J J ntmps304 J J (fun C=>?_);refine cl J uY J<|cl J (p9 (q:=(l.c:Rat))) J<|cl J (tj (p:=l.nor) (q:=l.nor)) J<|cl J (Ar (p:= -(l.c:Rat)) (q:=l.nor.dot l.nor)) J<|cl J (MT (p:=l.nor)) J<|rz J J
def J4{p:ah}[hl:LB l][hp:aI p i](hi:i<=10000000:=by decide):PF GB prog 286 [cB l,eZ p] (eF (l.value p)):=by
 refine fn func286 J J ntmps286 J J (fun C=>?_);refine cl J (uY (l:=l)) J<|cl J (tj (p:=l.nor) (q:=p) (by omega) (by omega)) J<|cl J (qf (p:=l.nor.dot p) (q:=(l.c:Rat)) (by omega) (by omega)) J<|rz J J
def Z'{p:ah}[hl:LB l][hp:aI p i](hi:i<=10000000:=by decide):PF GB prog 230 [cB l,eZ p] (vI (l.value p).num.sign):=by
 refine fn func230 J J ntmps230 J J (fun C=>?_);refine cl J (J4 (l:=l) (p:=p) hi) J<|cl J (ma (q:=l.value p) (by omega)) J<|rz J J
def MJ[hl:LB l][ht:BQ t i](hi:i<=10000000:=by decide):PF GB prog 277 [cB l,eF t] (eZ (l.at t)):=by
 refine fn func277 J J ntmps277 J J (fun C=>?_);refine cl J (Rj (l:=l)) J<|cl J (vV (l:=l)) J<|cl J (MT (p:=l.dir) (c:=t) (by omega) (by omega)) J<|cl J (Ys (p:=l.base) (q:=l.dir.scale t) (by omega) (by omega)) J<|rz J J
def Un[h1:BQ v.lo i][h2:BQ v.hi j](hi:i<=40000000:=by decide)(hj:j<=40000000:=by decide):PF GB prog 342 [eW v] (vB v.empty):=by
 refine fn func342 J J ntmps342 J J (fun C=>?_);refine iq 6 J J J (fun hg6=>?_) (fun hg6=>?_)
 .
  refine iq 11 J J J (fun hg11=>?_) (fun hg11=>?_)
  .
   refine cl J (uX (p:=v.lo) (q:=v.hi) (by omega) (by omega)) J<|rz J (by unfold ao.empty;simp_all [vB,eO])
  .
   exact rz J (by unfold ao.empty;simp_all [vB,eO])
 .
  exact rz J (by unfold ao.empty;simp_all [vB,eO])
instance ao.meet_lo (v w:ao) (i j:Nat) [h1:BQ v.lo i] [h3:BQ w.lo j]:BQ (v.meet w).lo (i+j):=by
 have a:=h1.mono (oV i j);have b:=h3.mono (Nat.le_add_left j i);unfold ao.meet;dsimp only;(repeat' split)<;>assumption
instance ao.meet_hi (v w:ao) (i j:Nat) [h1:BQ v.hi i] [h3:BQ w.hi j]:BQ (v.meet w).hi (i+j):=by
 have a:=h1.mono (oV i j);have b:=h3.mono (Nat.le_add_left j i);unfold ao.meet;dsimp only;(repeat' split)<;>assumption
def LD[h1:BQ v.lo i][h2:BQ v.hi i][h3:BQ w.lo j][h4:BQ w.hi j](hi:i<=10000000:=by decide)(hj:j<=10000000:=by decide):PF GB prog 328 [eW v,eW w] (.tp [eW (v.meet w),vB (!(v.meet w).empty)]):=by
 refine fn (fu:=⟨16⟩) func328 J J ntmps328 J J (fun C=>?_);refine mg (fu:=⟨1⟩) (X:=Unit) (fun _=>[(6, .ov 6 0)]) (fun _=>[(6,some (.o 328 [.d (vI (di (v.meet w).lo)), .d (vI (dh (v.meet w).lo)), .d (c9 (v.meet w).lo), .d (vI (di v.hi)), .d (vI (dh v.hi)), .d (c9 v.hi), .d (.v (.bool (v.nl&&w.nl))), .d (.v (.bool (v.nh)))] true))]) (fun _=>True) [6] [6] rfl ?_ (fun _=>J) (fun _ _=>?_)
 .
  refine gx J<|bb (v1:=fun hc8=>by simp only[ak];kernel_rfl) J J J (fun hc8=>?_) (fun hc8=>?_)
  .
   have em:(v.meet w).lo=w.lo:=by unfold ao.meet;simp_all
   have eb:(v.nl&&w.nl)=w.nl:=by simp_all
   exact at_ () trivial (hO:=⟨by rw[em,eb]<;>rfl,by repeat (first|exact trivial|refine And.intro J ?_)⟩)
  .
   refine bb J J J (fun hc17=>?_) (fun hc17=>?_)
   .
    refine cl J (Vc (p:=v.lo) (q:=w.lo) (by omega) (by omega)) J<|?_;have em:(v.meet w).lo=(if v.lo<w.lo then w.lo else v.lo):=by unfold ao.meet;simp_all
    have eb:(v.nl&&w.nl)=v.nl:=by simp_all
    exact at_ () trivial (hO:=⟨by rw[em,eb]<;>rfl,by repeat (first|exact trivial|refine And.intro J ?_)⟩)
   .
    have em:(v.meet w).lo=v.lo:=by unfold ao.meet;simp_all
    have eb:(v.nl&&w.nl)=v.nl:=by simp_all
    exact at_ () trivial (hO:=⟨by rw[em,eb]<;>rfl,by repeat (first|exact trivial|refine And.intro J ?_)⟩)
 .
  refine mg (X:=Unit) (fun _=>[(6, .ov 6 0)]) (fun _=>[(6,some (.o 328 [.d (vI (di (v.meet w).lo)), .d (vI (dh (v.meet w).lo)), .d (c9 (v.meet w).lo), .d (vI (di (v.meet w).hi)), .d (vI (dh (v.meet w).hi)), .d (c9 (v.meet w).hi), .d (.v (.bool (v.nl&&w.nl))), .d (.v (.bool (v.nh&&w.nh)))] true))]) (fun _=>True) [6] [6] rfl ?_ (fun _=>J) (fun _ _=>?_)
  .
   refine gx J<|bb (v1:=fun hc27=>by simp only[ak];kernel_rfl) J J J (fun hc27=>?_) (fun hc27=>?_)
   .
    have em:(v.meet w).hi=w.hi:=by unfold ao.meet;simp_all
    have eb:(v.nh&&w.nh)=w.nh:=by simp_all
    exact at_ () trivial (hO:=⟨by rw[em,eb]<;>rfl,by repeat (first|exact trivial|refine And.intro J ?_)⟩)
   .
    refine bb J J J (fun hc36=>?_) (fun hc36=>?_)
    .
     refine cl J (K7 (p:=v.hi) (q:=w.hi) (by omega) (by omega)) J<|?_;have em:(v.meet w).hi=(if w.hi<v.hi then w.hi else v.hi):=by unfold ao.meet;simp_all
     have eb:(v.nh&&w.nh)=v.nh:=by simp_all
     exact at_ () trivial (hO:=⟨by rw[em,eb]<;>rfl,by repeat (first|exact trivial|refine And.intro J ?_)⟩)
    .
     have em:(v.meet w).hi=v.hi:=by unfold ao.meet;simp_all
     have eb:(v.nh&&w.nh)=v.nh:=by simp_all
     exact at_ () trivial (hO:=⟨by rw[em,eb]<;>rfl,by repeat (first|exact trivial|refine And.intro J ?_)⟩)
  .
   refine cl J (Un (v:=v.meet w) (i:=i+j) (j:=i+j) (by omega) (by omega)) J<|rz J J
theorem BQ.z1:BQ (0:Rat) 1:=⟨by decide,by decide⟩
def XL[h1:BQ v.lo i][h2:BQ v.hi i][h3:BQ t j](hi:i<=10000000:=by decide)(hj:j<=9999999:=by decide):PF GB prog 328 [eW v, .ag [vI (di t),vI (dh t),c9 t,vI 0,vI 0, .v (.pointer none), .v (.bool false), .v (.bool true)]] (.tp [eW (v.meet ⟨t,0,false,true⟩),vB (!(v.meet ⟨t,0,false,true⟩).empty)]):=
 (LD (v:=v) (w:=⟨t,0,false,true⟩) (j:=j+1) (h3:=h3.mono (by omega)) (h4:=BQ.z1.mono (by omega)) hi (by omega)).ofI fun G vs hv=>Jc (fun y hy=>by
  obtain⟨l,rfl,g⟩:=d9.1 hy;exact d9.2 ⟨l,J,Ip [_,_,_] g⟩) hv
def VV[h1:BQ v.lo i][h2:BQ v.hi i][h3:BQ t j](hi:i<=10000000:=by decide)(hj:j<=9999999:=by decide):PF GB prog 328 [eW v, .ag [vI 0,vI 0, .v (.pointer none),vI (di t),vI (dh t),c9 t, .v (.bool true), .v (.bool false)]] (.tp [eW (v.meet ⟨0,t,true,false⟩),vB (!(v.meet ⟨0,t,true,false⟩).empty)]):=
 (LD (v:=v) (w:=⟨0,t,true,false⟩) (j:=j+1) (h4:=h3.mono (by omega)) (h3:=BQ.z1.mono (by omega)) hi (by omega)).ofI fun G vs hv=>Jc (fun y hy=>by
  obtain⟨l,rfl,g⟩:=d9.1 hy;exact d9.2 ⟨l,J,Ec g⟩) hv
instance BQ.cutK (l m:aa) [LB l] [LB m]:BQ (l.cutK m) 400:=BQ.mono (inferInstance:BQ (m.nor.dot l.dir) _)
instance BQ.cutC (l m:aa) [LB l] [LB m]:BQ (l.cutC m) 2500:=BQ.mono (inferInstance:BQ (m.value l.base) _)
def NX{m:aa}[hl:LB l][hm:LB m][h1:BQ v.lo i][h2:BQ v.hi i](hi:i<=10000000:=by decide):PF GB prog 307 [cB l,eW v,cB m] (.tp [eW (l.cutV v m),vB (l.cutB v m)]):=by
 refine fn func307 J J ntmps307 J J (fun C=>?_);refine cl J (uY (l:=m)) J<|cl J (vV (l:=l)) J<|cl J (tj (p:=m.nor) (q:=l.dir)) J<|cl J (Rj (l:=l)) J<|cl J (J4 (l:=m) (p:=l.base)) J<|cl J (ma (q:=l.cutK m)) J<|br J J J (fun hc21=>?_) (fun hc21=>?_)
 .
  refine cl J (ma (q:=l.cutC m)) J<|rz J (by unfold aa.cutV aa.cutB;rw[if_pos hc21,if_pos hc21];rfl)
 .
  refine br J J J (fun hc27=>?_) (fun hc27=>?_)
  .
   refine cl J (Ar (p:=l.cutC m) (q:=l.cutK m)) J<|cl J (p9 (q:=l.cutC m/l.cutK m)) J<|cl J (XL (v:=v) (t:= -(l.cutC m/l.cutK m)) hi) J<|rz J (by unfold aa.cutB aa.cutV;rw[if_neg hc21,if_neg hc21,if_pos hc27];rfl)
  .
   refine cl J (Ar (p:=l.cutC m) (q:=l.cutK m)) J<|cl J (p9 (q:=l.cutC m/l.cutK m)) J<|cl J (VV (v:=v) (t:= -(l.cutC m/l.cutK m)) hi) J<|rz J (by unfold aa.cutB aa.cutV;rw[if_neg hc21,if_neg hc21,if_neg hc27];rfl)
def ML[h1:BQ v.lo i][h2:BQ v.hi i](hi:i<=10000000:=by decide):PF GB prog 278 [eW v] (eF v.sample):=by
 refine fn func278 J J ntmps278 J J (fun C=>?_);refine iq 6 J J J (fun hg6=>?_) (fun hg6=>?_)
 .
  refine bb J J J (fun hc3=>?_) (fun hc3=>?_)
  .
   exact jh J (by unfold ao.sample;rw[hg6,hc3];exact E1)
  .
   refine bb J J J (fun hc11=>?_) (fun hc11=>?_)
   .
    refine cl J (vT (m:=1)) J<|cl J (pu (p:=v.hi) (q:=((1:Int):Rat)) (by omega) (by decide)) J<|rz J (by unfold ao.sample;simp_all [eO]<;>rfl)
   .
    refine bb J J J (fun hc18=>?_) (fun hc18=>?_)
    .
     refine cl J (vT (m:=1)) J<|cl J (qf (p:=v.lo) (q:=((1:Int):Rat)) (by omega) (by decide)) J<|rz J (by unfold ao.sample;simp_all [eO]<;>rfl)
    .
     refine cl J (qf (p:=v.lo) (q:=v.hi) (by omega) (by omega)) J<|cl J (Pr (q:=v.lo+v.hi) (by omega)) J<|rz J (by unfold ao.sample;simp_all [eO]<;>rfl)
 .
  refine bb J J J (fun hc11=>?_) (fun hc11=>?_)
  .
   refine cl J (vT (m:=1)) J<|cl J (pu (p:=v.hi) (q:=((1:Int):Rat)) (by omega) (by decide)) J<|rz J (by unfold ao.sample;simp_all [eO]<;>rfl)
  .
   refine bb J J J (fun hc18=>?_) (fun hc18=>?_)
   .
    refine cl J (vT (m:=1)) J<|cl J (qf (p:=v.lo) (q:=((1:Int):Rat)) (by omega) (by decide)) J<|rz J (by unfold ao.sample;simp_all [eO]<;>rfl)
   .
    refine cl J (qf (p:=v.lo) (q:=v.hi) (by omega) (by omega)) J<|cl J (Pr (q:=v.lo+v.hi) (by omega)) J<|rz J (by unfold ao.sample;simp_all [eO]<;>rfl)
instance BQ.i1':BQ (1:Rat) 2:=⟨by decide,by decide⟩
instance BQ.i2':BQ (2:Rat) 2:=⟨by decide,by decide⟩
theorem Mv[BQ v.lo i][BQ v.hi i]:BQ (kg v) (i+i+5):=by
 unfold kg;split
 .exact BQ.mono (k:=1) ⟨by decide,by decide⟩ (by omega)
 .split
  .exact BQ.mono (inferInstance:BQ (v.hi-1) _) (by omega)
  .split
   .exact BQ.mono (inferInstance:BQ (v.lo+1) _) (by omega)
   .exact BQ.mono (inferInstance:BQ ((v.lo+v.hi)/2) _) (by omega)
instance aI.at (l:aa) (t:Rat) (k:Nat) [LB l] [BQ t k]:aI (l.at t) (900+(k+97)+1):=by
 rw[<-yz];infer_instance
def au8(h: ¬q.num.sign=0):q≠0:=fun e=>h ((pc q).2 e)
def gF(d:ah):ah:=⟨-d.y,d.x⟩
instance aI.turn (d:ah) (k:Nat) [aI d k]:aI (gF d) k:=⟨inferInstanceAs (BQ (-d.y) k),inferInstanceAs (BQ d.x k)⟩
def uM(p v:ah)(m:aa):Rat:= -(m.value p/(m.value (cG p v ((1:Int):Rat))-m.value p))
def ry(p v:ah)(m:aa)(s:Rat):Rat:=if(m.value (cG p v ((1:Int):Rat))-m.value p).num.sign=0 then s else if(m.value p).num.sign=0 then s else if 0<(uM p v m).num.sign then(if bA (uM p v m/2) s<0 then uM p v m/2 else s) else s
def qC(p v:ah):List aa->Rat->Rat
 |[],s=>s
 |m::t,s=>qC p v t (ry p v m s)
def Ew(c:List aa)(p v:ah):ah:=cG p v (qC p v c ((1:Int):Rat))
def AE{c:List aa}{p v:ah}{r:Rat}{m:aa}(h:qC p v (c.drop k) s=r)(hk:k<c.length)(hm:m=c[k])(e:ry p v m s=s'):qC p v (c.drop (k+1)) s'=r:=by
 rw[bK hk] at h;rw[<-h,qC,<-hm,e]
def aEX{c:List aa}{p v:ah}(hc: ∀m∈c,LB m)(hn:c.length<=1000)(hp:aI p 4500)(hv:aI v 97):PF GB prog 241 [.sl (c.map eL),eP p,eP v] (eP (Ew c p v)):=by
 have hcl:=vH c;refine fn func241 J J ntmps241 J J (fun C=>?_);refine cl (fu:=⟨9⟩) J (jE (n:=1)) J<|aj 14 (.d (vI (c.length:Nat))) J (by rw[hcl];rfl)<|gx J<|lp (X:=Rat×Nat) (fun⟨s,k⟩=>[(15, .d (vI (k:Nat))),(14, .d (vI (c.length:Nat))),(13, .d (.sl (c.map eL))),(4, .ov 4 0),(5, .ov 5 0),(7, .ov 7 0),(6, .ov 6 0)]) (fun⟨s,k⟩=>[(7,some (.o 34 [.d ((.v (.bool (decide (s.num<0))))), .d (dN s.num.natAbs), .d (dD s.den)] true)),(6,some (.o 36 [.ff, .nl, .nl, .ff, .nl, .nl] true)),(5,some (.o 36 [.d ((.v (.bool (decide (v.x.num<0))))), .d (dN v.x.num.natAbs), .d (dD v.x.den), .d ((.v (.bool (decide (v.y.num<0))))), .d (dN v.y.num.natAbs), .d (dD v.y.den)] true)),(4,some (.o 36 [.d ((.v (.bool (decide (p.x.num<0))))), .d (dN p.x.num.natAbs), .d (dD p.x.den), .d ((.v (.bool (decide (p.y.num<0))))), .d (dN p.y.num.natAbs), .d (dD p.y.den)] true))]) (fun⟨s,k⟩=>k<=c.length/\BQ s 60000/\qC p v (c.drop k) s=qC p v c ((1:Int):Rat)) (fun⟨s,k⟩=>c.length-k) ⟨((1:Int):Rat),0⟩ J ⟨bJ _,BQ.i1.mono (by decide),J⟩ (fun _=>J) (fun⟨s,k⟩ hk=>?_)
 try dsimp only at hk⊢
 obtain⟨hle,hsb,hns⟩:=hk;refine br J J J (fun hc16=>?_) (fun hc16=>?_)
 .
  have hk:k<c.length:=by omega
  obtain⟨m,hm⟩: ∃m,m=c[k]:=⟨_,rfl⟩;haveI hmb:LB m:=hm▸hc _ (cN hk);have hinv:=hsb;refine ix (fu:=⟨1⟩) _ J (vw hk) J<|aj 18 (.d (eL m)) J (by rw[hm];rfl)<|gx J<|cl J (jE (n:=1)) J<|cl J (BS (p:=p) (q:=v) (c:=((1:Int):Rat))) J<|cl J (DR (l:=m) (p:=cG p v ((1:Int):Rat))) J<|cl J (DR (l:=m) (p:=p)) J<|cl J (qh (a:=m.value (cG p v ((1:Int):Rat))) (b:=m.value p)) J<|cl J (qd (q:=m.value (cG p v ((1:Int):Rat))-m.value p)) J<|cs 32 J J J (fun hg32=>?_) (fun hg32=>?_)
  .
   exact at_ ⟨s,k+1⟩ (by dsimp only;exact⟨⟨by omega,hinv,(AE hns hk hm (by unfold ry;rw[if_pos hg32]))⟩,(by omega)⟩)
  .
   refine cl J (Bc (l:=m) (p:=p)) J<|br J J J (fun hc37=>?_) (fun hc37=>?_)
   .
    exact at_ ⟨s,k+1⟩ (by dsimp only;exact⟨⟨by omega,hinv,(AE hns hk hm (by unfold ry;rw[if_neg hg32,if_pos hc37]))⟩,(by omega)⟩)
   .
    refine cl J (DR (l:=m) (p:=p)) J<|cl J (vp (a:=m.value p) (b:=m.value (cG p v ((1:Int):Rat))-m.value p) (au8 hg32)) J<|cl J (tP (q:=m.value p/(m.value (cG p v ((1:Int):Rat))-m.value p))) J<|cl (fu:=⟨0⟩) J (qd (q:= -(m.value p/(m.value (cG p v ((1:Int):Rat))-m.value p)))) J<|i7 (v2:=fun hg46=>by simp only[ak];exact⟨by kernel_rfl,by omega⟩) J J J J (fun hg46=>?_) (fun hg46=>?_)
    .
     refine cl J (FH (a:= -(m.value p/(m.value (cG p v ((1:Int):Rat))-m.value p)))) J<|cl J (ld (a:= -(m.value p/(m.value (cG p v ((1:Int):Rat))-m.value p))/2) (b:=s)) J<|br J J J (fun hc53=>?_) (fun hc53=>?_)
     .
      obtain⟨t,ht⟩: ∃t,t= -(m.value p/(m.value (cG p v ((1:Int):Rat))-m.value p)):=⟨_,rfl⟩;haveI htb:BQ t 45000:=ht▸BQ.mono inferInstance;have hinv:BQ (t/2) 60000:=BQ.mono inferInstance;rw[<-ht];refine cl J (FH (a:=t)) J<|at_ ⟨t/2,k+1⟩ (by dsimp only;exact⟨⟨by omega,hinv,(AE hns hk hm (by unfold ry;rw[if_neg hg32,if_neg hc37,show uM p v m=t from ht.symm,if_pos (by rw[ht];exact hg46),if_pos (by rw[ht];exact hc53)]))⟩,(by omega)⟩)
     .
      exact at_ ⟨s,k+1⟩ (by dsimp only;exact⟨⟨by omega,hinv,(AE hns hk hm (by unfold ry;rw[if_neg hg32,if_neg hc37,if_pos (show 0<(uM p v m).num.sign from hg46),if_neg (show¬bA (uM p v m/2) s<0 from hc53)]))⟩,(by omega)⟩)
    .
     exact at_ ⟨s,k+1⟩ (by dsimp only;exact⟨⟨by omega,hinv,(AE hns hk hm (by unfold ry;rw[if_neg hg32,if_neg hc37,if_neg (show¬0<(uM p v m).num.sign from hg46)]))⟩,(by omega)⟩)
 .
  refine cl J (BS (p:=p) (q:=v) (c:=s)) J<|rz J (by unfold Ew;rw[<-hns,iS (by omega)];rfl)
def jF(c:List aa):List aa->ah
 |[]=>⟨0,0⟩
 |m::t=>if(fI m c ao.all).2=true then Ew c (m.at (kg (fI m c ao.all).1)) (gF m.dir) else jF c t
def Ws{c:List aa}{m:aa}(h:jF c (c.drop k)=jF c c)(hk:k<c.length)(hm:m=c[k])(e:(fI m c ao.all).2=true):jF c c=Ew c (m.at (kg (fI m c ao.all).1)) (gF m.dir):=by
 rw[<-h,bK hk,jF,<-hm,if_pos e]
def Z4{c:List aa}{m:aa}(h:jF c (c.drop k)=jF c c)(hk:k<c.length)(hm:m=c[k])(e: ¬(fI m c ao.all).2=true):jF c (c.drop (k+1))=jF c c:=by
 rw[<-h,bK hk,jF,<-hm,if_neg e]
def Wm{c:List aa}{m:aa}(h:m∈c)(h2:(fD m c ao.all).isSome=true):lB c=true:=by
 unfold lB;rw[gM,jY];exact .inr ⟨m,h,h2⟩
def Zi{c:List aa}(h:c=[]):lB c=true:=by subst h;rfl
def awT{c:List aa}(h:c≠[])(h2: ∀m∈c,(fD m c ao.all).isSome=false):lB c=false:=by
 rw[<-jU];unfold lB;rw[gM,jY,List.isEmpty_iff];rintro (e|⟨m,h3,h4⟩)
 .exact h e
 .rw[h2 m h3] at h4;exact absurd h4 (by decide)
def O9:eP ⟨0,0⟩= .ag [.v (.bool false), .sl [], .sl [], .v (.bool false), .sl [], .sl []]:=by
 unfold eP dD;simp only[show(0:Rat).num=0 from J,show(0:Rat).den=1 from J,lX,lO];rfl
def FZ{c:List aa}(hc: ∀m∈c,LB m)(hok: ∀m∈c,m.ok)(hn:c.length<=1000):PF GB prog 166 [.sl (c.map eL)] (.tp [eP (jF c c),vB (lB c)]):=by
 have hcl:=vH c;refine fn func166 J J ntmps166 J J (fun C=>?_);refine br (fu2:=⟨7⟩) J J J (fun hc11=>?_) (fun hc11=>?_)
 .
  exact rz J (by rw[cR (l:=c) (by omega),Zi J];show _=DV.tp [eP ⟨0,0⟩,_];rw[O9];rfl)
 .
  refine aj 14 (.d (vI (c.length:Nat))) J (by rw[hcl];rfl)<|gx J<|lp (X:=Nat) (fun k=>[(15, .d (vI (k:Nat))),(14, .d (vI (c.length:Nat))),(13, .d (.sl (c.map eL))),(0, .d (.sl (c.map eL))),(2, .ov 2 0)]) (fun k=>[(2,some (.o 36 [.ff, .nl, .nl, .ff, .nl, .nl] true))]) (fun k=>k<=c.length/\(∀m∈c.take k,(fD m c ao.all).isSome=false)/\jF c (c.drop k)=jF c c) (fun k=>c.length-k) 0 J ⟨bJ _,fun m hm=>absurd hm (by simp),J⟩ (fun _=>J) (fun k hk=>?_);obtain⟨hle,hno,hip⟩:=hk;refine br J J J (fun hc16=>?_) (fun hc16=>?_)
  .
   have hk:k<c.length:=by omega
   obtain⟨m,hm⟩: ∃m,m=c[k]:=⟨_,rfl⟩;haveI hmb:LB m:=hm▸hc _ (cN hk);have hmo:m.ok:=hm▸hok _ (cN hk);refine ix (fu:=⟨1⟩) _ J (vw hk) J<|aj 19 (.d (eL m)) J (by rw[hm];rfl)<|gx J<|cl (fu:=⟨0⟩) J (OJ hc hok hn hk) J<|aj 23 (.d (.tp [eV (fI m c ao.all).1,vB (fI m c ao.all).2])) J (by rw[hm])<|gx J<|bb J J J (fun hc26=>?_) (fun hc26=>?_)
   .
    have hbd:=ER (v:=ao.all) hmo.ne hc gA.all (BQ.mono (k:=1) ⟨by decide,by decide⟩) (BQ.mono (k:=1) ⟨by decide,by decide⟩);obtain⟨s,hs⟩: ∃s,s=(fI m c ao.all).1:=⟨_,rfl⟩;rw[<-hs] at hbd;haveI:=hbd.1;haveI:=hbd.2;haveI hsb:=Mv (v:=s) (i:=1200);have hpt:aI (m.at (kg s)) 4500:=by have:=aI.at m (kg s) (1200+1200+5);exact⟨this.x.mono (by decide),this.y.mono (by decide)⟩
    have hin:lB c=true:=Wm (hm▸cN hk) (by rw[<-xe];exact hc26);have hpn:=Ws hip hk hm hc26;rw[<-hs] at hpn⊢;refine cl J (tr (l:=m)) J<|cl J (UR (v:=s)) J<|cl J (Nq (l:=m) (t:=kg s) hmo.ne) J<|cl J (tP (q:=m.dir.y)) J<|cl J (aEX (p:=m.at (kg s)) (v:=gF m.dir) hc hn (hpt) inferInstance) J<|rz J (by rw[hin,hpn];rfl)
   .
    exact at_ (k+1) ⟨⟨by omega,UN hno hk (by rw[<-hm,<-xe];exact hc26),Z4 hip hk hm (by rw[hc26];decide)⟩,(by omega)⟩
  .
   exact rz J (by rw[awT (fun e=>hc11 (by rw[e];rfl)) (fun m hm=>hno m (by rw[cZ (by omega)];exact hm)),<-hip,iS (by omega)];show _=DV.tp [eP ⟨0,0⟩,_];rw[O9];rfl)
def Ze(h:i<es.length):(es.map vI)[(i:Int).toNat]? =some (vI (es.getD i 0)):=by simp[h]
def My(h:i<es.length:=by omega):oo (es.drop i)=if es.getD i 0≠0 then es.getD i 0 else oo (es.drop (i+1)):=by
 rw[bK h,oo,aW,aZ h];rfl
def XX(hn:es.length<=1000000):PF GB prog 347 [.sl (es.map vI)] (vI (oo es)):=by
 have hel:(es.map vI).length=es.length:=by simp
 refine fn (fu:=⟨15⟩) func347 J J ntmps347 J J (fun C=>?_);refine aj 7 (.d (vI (es.length:Nat))) J (by rw[hel]<;>rfl)<|gx J<|lp (X:=Nat) (fun i=>[(8, .d (vI (i:Nat)))]) (fun i=>[]) (fun i=>i<=es.length/\oo es=oo (es.drop i)) (fun i=>es.length-i) 0 J ⟨bJ _,J⟩ (fun _=>J) (fun i hk=>?_);obtain⟨h1,h2⟩:=hk;refine br J J J (fun hc9=>?_) (fun hc9=>?_)
 .
  refine ix _ J (Ze (by omega)) J<|br J J J (fun hc14=>?_) (fun hc14=>?_)
  .
   exact rz J (by rw[h2,My,if_pos hc14];rfl)
  .
   exact at_ (i+1) ⟨⟨by omega,by rw[h2,My,if_neg hc14]⟩,(by omega)⟩
 .
  exact rz J (by rw[h2,iM (by omega)];rfl)
def H3(l m:aa):Int:=oo [bA l.a m.a,bA l.b m.b,bA l.c m.c]
def axv(l m:aa):H3 l m=0↔l=m:=by
 unfold H3 oo oo oo oo;have ha:=uL (l.a:Rat) m.a;have hb:=uL (l.b:Rat) m.b;have hc:=uL (l.c:Rat) m.c;rw[qR] at ha hb hc;constructor
 .intro h
  repeat' (split at h<;>try contradiction)
  all_goals exact aa.ext'
 .rintro rfl
  rw[if_neg (by simp[ha.2 J]),if_neg (by simp[hb.2 J]),if_neg (by simp[hc.2 J])]
def WY{m:aa}[hl:LB l][hm:LB m]:PF GB prog 340 [cB l,cB m] (vI (H3 l m)):=by
 refine fn func340 J J ntmps340 J J (fun C=>?_);refine cl J (uX (p:=(l.a:Rat)) (q:=(m.a:Rat))) J<|cl J (uX (p:=(l.b:Rat)) (q:=(m.b:Rat))) J<|cl J (uX (p:=(l.c:Rat)) (q:=(m.c:Rat))) J<|rf J J<|cl J (XX (es:=[bA l.a m.a,bA l.b m.b,bA l.c m.c]) (nb J)) J<|rz J J
def Wj{m:aa}[hl:LB l][hm:LB m]:PF GB prog 327 [cB l,cB m] (vB (decide (l=m))):=by
 refine fn func327 J J ntmps327 J J (fun C=>?_);refine cl J (WY (l:=l) (m:=m)) J<|rz J (by show DV.v (.bool (decide _))= .v (.bool _);congr 2;exact decide_eq_decide.2 (axv l m))
def T3[hl:LB l]:PF GB prog 303 [cB l] (cB l.rev):=by
 refine fn func303 J J ntmps303 J J (fun C=>?_);refine cl J (p9 (q:=(l.a:Rat))) J<|cl J (p9 (q:=(l.b:Rat))) J<|cl J (p9 (q:=(l.c:Rat))) J<|rz J (by unfold cB aa.rev;simp only[jJ];rfl)
def V9[hl:LB l]:PF GB prog 141 [cB l] (eL l):=by
 refine fn func141 J J ntmps141 J J (fun C=>?_);refine cl J (se (q:=(l.a:Rat))) J<|cl J (se (q:=(l.b:Rat))) J<|cl J (se (q:=(l.c:Rat))) J<|rz J J
def OD{p:ah}[hp:aI p i](hi:i<=10000000:=by decide):PF GB prog 285 [eZ p] (vI p.half):=by
 refine fn func285 J J ntmps285 J J (fun C=>?_);refine cl J (ma (q:=p.y) (by omega)) J<|cs 10 J J J (fun hg10=>?_) (fun hg10=>?_)
 .
  exact rz J (by unfold ah.half;(repeat' split)<;>first|rfl|(exfalso;omega))
 .
  refine cs 13 J J J (fun hg13=>?_) (fun hg13=>?_)
  .
   refine cl J (ma (q:=p.x) (by omega)) J<|br J J J (fun hc7=>?_) (fun hc7=>?_)
   .
    exact rz J (by unfold ah.half;(repeat' split)<;>first|rfl|(exfalso;omega))
   .
    refine cs 23 J J J (fun hg23=>?_) (fun hg23=>?_)
    .
     exact rz J (by unfold ah.half;(repeat' split)<;>first|rfl|(exfalso;omega))
    .
     refine cl J (ma (q:=p.x) (by omega)) J<|br J J J (fun hc20=>?_) (fun hc20=>?_)
     .
      exact rz J (by unfold ah.half;(repeat' split)<;>first|rfl|(exfalso;omega))
     .
      exact rz J (by unfold ah.half;(repeat' split)<;>first|rfl|(exfalso;omega))
  .
   refine cs 23 J J J (fun hg23=>?_) (fun hg23=>?_)
   .
    exact rz J (by unfold ah.half;(repeat' split)<;>first|rfl|(exfalso;omega))
   .
    refine cl J (ma (q:=p.x) (by omega)) J<|br J J J (fun hc20=>?_) (fun hc20=>?_)
    .
     exact rz J (by unfold ah.half;(repeat' split)<;>first|rfl|(exfalso;omega))
    .
     exact rz J (by unfold ah.half;(repeat' split)<;>first|rfl|(exfalso;omega))
def aA6{u v:ah}[hp:aI u i][hq:aI v j](hi:i<=10000000:=by decide)(hj:j<=10000000:=by decide):PF GB prog 227 [eZ u,eZ v] (vI (fG u v)):=by
 refine fn func227 J J ntmps227 J J (fun C=>?_);refine cl J (OD (p:=u) hi) J<|cl J (OD (p:=v) hj) J<|br J J J (fun hc11=>?_) (fun hc11=>?_)
 .
  exact rz J (by unfold fG;rw[if_pos hc11];rfl)
 .
  refine br J J J (fun hc15=>?_) (fun hc15=>?_)
  .
   exact rz J (by unfold fG;rw[if_neg hc11,if_pos hc15];rfl)
  .
   refine cl J (CI (p:=u) (q:=v) (by omega) (by omega)) J<|cl (fu:=⟨0⟩) J (ma (q:=u.cross v) (by omega)) J<|?_;have hs:=Int.sign_trichotomy (u.cross v).num;refine gx J<|rz J (by unfold fG;rw[if_neg hc11,if_neg hc15];rfl)
def Sh:ew (dg m.natAbs)/\(decide (m<0)=true->0<(dg m.natAbs).length):=⟨(fE _).2.2,fun h=>by
 have:0<m.natAbs:=by have:=of_decide_eq_true h;omega
 exact tO.2 this⟩
def D1[h:BI m i](hi:i<=1000000000:=by decide):PF GB prog 264 [eI m] (.v (.bool true)):=(YO (neg:=decide (m<0)) (ds:=dg m.natAbs) (fE _).2.1 (by have:=iE (a:=m.natAbs) hi;omega)).to (by unfold vB;rw[decide_eq_true Sh])
def Rp(h:l.ok):rgcd (rgcd (l.a:Rat) (l.b:Rat)) (l.c:Rat)=((1:Int):Rat):=by
 rw[Ik,Ik];have:=h.2;simp only[fT];rw[this];rfl
instance BQ.rgcd (p q:Rat) (i j:Nat) [h:BQ p i] [k:BQ q j]:BQ (rgcd p q) (i+j+(i+j)):=by
 unfold Sx.rgcd;refine AN (jQ (lI p) (lI q)) ?_ ?_
 .rw[fT]
  have h1:=po h.hn k.hd;have h2:=po k.hn h.hd;rw[kU j i] at h2;exact Kw h1 h2
 .have h1:=po h.hd k.hd
  have:2^(i+j)<=2^(i+j+(i+j)):=bR (by decide) (by omega);omega
def VZ[hl:LB l](ho:l.ok):PF GB prog 210 [eL l] (.tp [cB l,vB true]):=by
 refine fn func210 J J ntmps210 J J (fun C=>?_);refine cl (fu:=⟨0⟩) J (D1 (m:=l.a)) J<|cF J J J<|cl (fu:=⟨0⟩) J (D1 (m:=l.b)) J<|cF J J J<|cl (fu:=⟨0⟩) J (D1 (m:=l.c)) J<|cF J J J<|cl J (JA (m:=l.a)) J<|cl J (JA (m:=l.b)) J<|cl J (JA (m:=l.c)) J<|cl (fu:=⟨0⟩) J (BH (q:=(l.a:Rat))) J<|i7 (fu2:=⟨4⟩) J J J J (fun hg35=>?_) (fun hg35=>?_)
 .
  have ha:l.a=0:=cW.1 hg35;refine cl (fu:=⟨1⟩) J (BH (q:=(l.b:Rat))) J<|cF J (by first|rfl|(show some (decide _)=some false;rw[decide_eq_false (fun e=>ho.1 ⟨ha,cW.1 e⟩)])) J<|cl J (tM (p:=(l.a:Rat)) (q:=(l.b:Rat))) J<|cl J (tM (p:=rgcd l.a l.b) (q:=(l.c:Rat))) J<|cl J (vT (m:=1)) J<|cl (fu:=⟨0⟩) J (Dz (p:=rgcd (rgcd l.a l.b) l.c) (q:=((1:Int):Rat))) J<|cF J (by show some (!decide _)=some false;rw[Rp ho,decide_eq_true J];rfl) J<|rz J J
 .
  refine cF J (by first|rfl|(show some (decide _)=some false;rw[decide_eq_false (fun e=>ho.1 ⟨ha,cW.1 e⟩)])) J<|cl J (tM (p:=(l.a:Rat)) (q:=(l.b:Rat))) J<|cl J (tM (p:=rgcd l.a l.b) (q:=(l.c:Rat))) J<|cl J (vT (m:=1)) J<|cl (fu:=⟨0⟩) J (Dz (p:=rgcd (rgcd l.a l.b) l.c) (q:=((1:Int):Rat))) J<|cF J (by show some (!decide _)=some false;rw[Rp ho,decide_eq_true J];rfl) J<|rz J J
end Go.Sx
end
