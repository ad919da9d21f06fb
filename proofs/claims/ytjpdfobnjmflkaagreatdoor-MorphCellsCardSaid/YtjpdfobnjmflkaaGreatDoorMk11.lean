import Derived.Test.YtjpdfobnjmflkaaGreatDoorMk10
set_option linter.all false
set_option maxHeartbeats 4000000
set_option maxRecDepth 100000
section
namespace Go.Sx
open Go Go.Proofs Tryz
variable {GB G:Gh}{m l:aa}{g d i j k:Nat}{q t s s':Rat}{vs:List Value}{v w:ar}
def K5{m:Int}(hg:(g:Int)∣m)(hb:m.natAbs<4611686018427387904):IntKind.i64.wrap (m.tdiv g)=m/g:=by
 rw[Int.tdiv_eq_ediv_of_dvd hg];have:=nN m g;exact avF (by omega)
def tm(a b:Int):Int:=if(a*b).natAbs<4611686018427387904 then a*b else 0
def Hi(a b:Int):(tm a b).natAbs<4611686018427387904:=by unfold tm;split<;>omega
def AJ{a b:Int}(h:(a*b).natAbs<4611686018427387904):tm a b=a*b:=if_pos h
def Qw{a b:Int}(h: ¬(a*b).natAbs<4611686018427387904:=by omega):DV.tp [vI 0, .v (.bool false)]= .tp [vI (tm a b),vB (decide ((a*b).natAbs<4611686018427387904))]:=by unfold tm;rw[if_neg h,decide_eq_false h];rfl
def Nd{a b:Int}{x:Int}(h:(a*b).natAbs<4611686018427387904)(e:x=a*b):DV.tp [vI x, .v (.bool true)]= .tp [vI (tm a b),vB (decide ((a*b).natAbs<4611686018427387904))]:=by unfold tm;rw[if_pos h,decide_eq_true h,e];rfl
def Kj(n:Nat):eI (n:Int)= .ag [.v (.bool false),dN n]:=by unfold eI;rw[decide_eq_false (by omega),fX]
def aG4{p:Rat}(hp:p.den=1)(hq:q.den=1):rgcd p q=((Nat.gcd p.num.natAbs q.num.natAbs:Nat):Int):=by
 conv=>lhs;rw[E7 hp,E7 hq]
 exact JV _ _
def aDo(q:Rat):mkRat (zv (decide (q.num<0)) q.den) q.num.natAbs=q⁻¹:=by
 rw[Rat.inv_def];by_cases h:q.num<0
 .rw[decide_eq_true h];exact WD h
 .rw[decide_eq_false h,<-Rat.divInt_ofNat,oQ (by omega)];rfl
instance BQ.inv (q:Rat) (i:Nat) [h:BQ q i]:BQ q⁻¹ i:=by
 have h1:=h.hn;have h2:=h.hd;have h3:=q.den_nz;rcases pW q.num 0 with k|k|k
 .obtain⟨e1,e2⟩:=KI k;exact⟨by omega,by omega⟩
 .have e:q=0:=mX.1 k
  have e0:(0:Rat)⁻¹=0:=Rat.inv_zero;rw[e] at h1 h2⊢;rw[e0];exact⟨h1,h2⟩
 .obtain⟨e1,e2⟩:=SW k;exact⟨by omega,by omega⟩
instance BQ.half:BQ (mkRat 1 2) 2:=⟨by decide,by decide⟩
def aCn{x y:Nat}(hx:x<18446744073709551616)(hy:y<18446744073709551616):PF GB prog 267 [.v (.int .u64 (x:Nat)), .v (.int .u64 (y:Nat))] (.tp [.v (.int .u64 ((x*y/18446744073709551616:Nat):Int)), .v (.int .u64 ((x*y%18446744073709551616:Nat):Int))]):=fun G vs _ hv=>by
 obtain⟨v,m,rfl,h1,h2⟩:=bi.1 hv;obtain⟨u,m',rfl,h3,h4⟩:=bi.1 h2
 cases ef.1 h4
 rw[aH.1 h1,aH.1 h3];exact(ap4 hx hy).mono fun v G' _ h=>by subst h;exact lv.2 ⟨_,J, .cons (aH.2 J) (.cons (aH.2 J) .nil)⟩
def SQ{a b:Nat}(ha:a<18446744073709551616:=by omega)(hb:b<18446744073709551616:=by omega):PF GB prog 247 [.v (.int .u64 (a:Nat)), .v (.int .u64 (b:Nat))] (.v (.int .u64 (Nat.gcd a b:Nat))):=by
 refine fn func247 J J ntmps247 J J (fun C=>?_);refine lp (X:=Nat×Nat) (fun⟨u,v⟩=>[(1, .d (.v (.int .u64 (v:Nat)))),(0, .d (.v (.int .u64 (u:Nat))))]) (fun⟨u,v⟩=>[]) (fun⟨u,v⟩=>u<18446744073709551616/\v<18446744073709551616/\Nat.gcd u v=Nat.gcd a b) (fun⟨u,v⟩=>v) (a,b) J ⟨ha,hb,J⟩ (fun _=>J) (fun⟨u,v⟩ hk=>?_);dsimp only at hk⊢;obtain⟨h1,h2,h3⟩:=hk;refine br (v1:=fun hc6=>by simp only[ak];exact⟨by omega,by kernel_rfl⟩) J J J (fun hc6=>?_) (fun hc6=>?_)
 .
  have hm:=dK u (show 0<v by omega);exact at_ (v,u%v) (by dsimp only;exact⟨⟨h2,by omega,by rw[<-h3,jV u v,uQ v u,jV]⟩,hm⟩)
 .
  exact rz J (by rw[<-h3,show v=0 by omega,nT];rfl)
def wG{m:Int}(h:m.natAbs<9223372036854775808:=by decide):PF GB prog 185 [vI m] (eF (m:Rat)):=by
 refine fn func185 J J ntmps185 J J (fun C=>?_);refine cs 5 J J J (fun hg5=>?_) (fun hg5=>?_)
 .
  refine cl J (IG (m:=m)) J<|rf (fu:=⟨0⟩) J J<|aj 11 (.d (dN 1)) J (by unfold dN;rw[Ak];rfl)<|gx J<|cl J (uX (n:=decide (m<0)) (a:=m.natAbs) (i:=63) (h:=⟨h⟩) (d:=1)) J<|rz J (by rw[lC,show mkRat m 1=(m:Rat) from sS ..];rfl)
 .
  refine br J J J (fun hc8=>?_) (fun hc8=>?_)
  .
   refine cl J (IG (m:=m)) J<|rf (fu:=⟨0⟩) J J<|aj 11 (.d (dN 1)) J (by unfold dN;rw[Ak];rfl)<|gx J<|cl J (uX (n:=decide (m<0)) (a:=m.natAbs) (i:=63) (h:=⟨h⟩) (d:=1)) J<|rz J (by rw[lC,show mkRat m 1=(m:Rat) from sS ..];rfl)
  .
   exact jk J (RD (by omega))
def zz{a b:Int}(ha:a.natAbs<4611686018427387904:=by omega)(hb:b.natAbs<4611686018427387904:=by omega):PF GB prog 207 [vI a,vI b] (.tp [vI (tm a b),vB (decide ((a*b).natAbs<4611686018427387904))]):=by
 have hab:=fV a b;refine fn func207 J J ntmps207 J J (fun C=>?_);refine cl J (BO (m:=a)) J<|cl J (BO (m:=b)) J<|cl J (aCn (x:=a.natAbs) (y:=b.natAbs) (by omega) (by omega)) J<|cs 18 J J J (fun hg18=>?_) (fun hg18=>?_)
 .
  exact rz J (Qw)
 .
  refine br J J J (fun hc21=>?_) (fun hc21=>?_)
  .
   exact rz J (Qw)
  .
   refine bb J J J (fun hc26=>?_) (fun hc26=>?_)
   .
    have hs:=MH a b;rw[if_neg (by simpa using hc26)] at hs;exact rz J (Nd (by omega) (by rw[hs,<-hab];omega))
   .
    have hs:=MH a b;rw[if_pos (by simpa using hc26)] at hs;exact rz J (Nd (by omega) (by rw[hs,<-hab];omega))
def Pv{m:Int}(h:m.natAbs<4611686018427387904)(h0:0<d)(hd:d<4611686018427387904):PF GB prog 208 [vI m,vI (d:Nat)] (eF (mkRat m d)):=by
 have hg:Nat.gcd m.natAbs d<=d:=Nat.gcd_le_right _ h0;have hg0:0<Nat.gcd m.natAbs d:=qR _ h0;obtain⟨e1,e2⟩:=Rl (m:=m) h0;have e3:=nN m (Nat.gcd m.natAbs d:Nat);have e4:=mM d (Nat.gcd m.natAbs d);have e5:=Nat.div_pos hg hg0;refine fn func208 J J ntmps208 J J (fun C=>?_);refine cl J (BO (m:=m)) J<|cl J (SQ (a:=m.natAbs) (b:=d)) J<|br (fu1:=⟨4⟩) J J J (fun hc13=>?_) (fun hc13=>?_)
 .
  refine aj 16 (.d (vI (m/(Nat.gcd m.natAbs d:Nat)))) J (by rw[K5 (Int.dvd_natAbs.1 (rY.2 (kS _ _))) h];rfl)<|gx (fu:=⟨3⟩) J<|aj 19 (.d (vI ((d/Nat.gcd m.natAbs d:Nat)))) J (by rw[K5 (rY.2 (lN _ _)) (by rw[fX];exact hd)];rfl)<|gx (hv:=by simp only[ak];exact⟨by kernel_rfl,by omega⟩) J<|jk J (tj (fun k=>k ⟨by rw[e1];omega,by rw[e2];omega⟩) e1 (by rw[e2]) J)
 .
  exact jk J (by have h1:Nat.gcd m.natAbs d=1:=(by omega);rw[h1,uZ] at e2;rw[h1,Int.natCast_one,Int.ediv_one] at e1;exact tj (fun k=>k ⟨by rw[e1];omega,by rw[e2];omega⟩) e1 (by rw[e2]) J)
def oc{p:Rat}[h:BQ p i][k:BQ q j](hi:i<=100000000:=by decide)(hj:j<=100000000:=by decide):PF GB prog 215 [eF p,eF q] (eF (p*q)):=by
 refine fn (fu:=⟨8⟩) func215 J J ntmps215 J J (fun C=>?_);refine mg (X:=Unit) (fun _=>[(2, .ov 2 0),(3, .ov 3 0),(4, .ov 4 0)]) (fun _=>[(2,some (.o 158 [.d (vI (du p)), .d (vI (dt p)), .d (di p)] true)),(3,some (.o 158 [.d (vI (du q)), .d (vI (dt q)), .d (di q)] true)),(4,some (.o 158 [.d (.v (.int .i64 0)), .d (.v (.int .i64 0)), .d (.v (.pointer none))] true))]) (fun _=>True) [2,3,4] [2,3,4] rfl ?_ (fun _=>J) (fun _ _=>?_)
 .
  refine gx J<|cs 12 J J J (fun hg12=>?_) (fun hg12=>?_)
  .
   refine br (fu1:=⟨4⟩) J J J (fun hc16=>?_) (fun hc16=>?_)
   .
    have hp:=s8 hg12;have hq:=s8 hc16;have p1:=mC hp;have p2:=oE hp;have p3:=qg hp;have p4:=p9 hp;have p5:=p.den_nz;have q1:=mC hq;have q2:=oE hq;have q3:=qg hq;have q4:=p9 hq;have q5:=q.den_nz;refine aj 19 (.d (vI p.num)) J (by rw[p1])<|gx (fu:=⟨2⟩) J<|aj 21 (.d (vI q.num)) J (by rw[q1])<|gx J<|cl (fu:=⟨12⟩) J (zz (a:=p.num) (b:=q.num)) J<|aj 28 (.d (vI (p.den:Nat))) J (by congr 3;omega)<|gx (fu:=⟨3⟩) J<|aj 31 (.d (vI (q.den:Nat))) J (by congr 3;omega)<|gx J<|cl J (zz (a:=(p.den:Nat)) (b:=(q.den:Nat))) J<|csd 36 J J J (fun hg36=>?_) (fun hg36=>?_)
    .
     refine bd (fu1:=⟨3⟩) J J J (fun hc38=>?_) (fun hc38=>?_)
     .
      have hd1:p.den*q.den<4611686018427387904:=by omega
      refine aj 39 (.d (vI (p.num*q.num))) J (by rw[AJ hg36])<|gx (fu:=⟨1⟩) J<|aj 40 (.d (vI ((p.den*q.den:Nat)))) J (by rw[AJ hc38];rfl)<|gx J<|cl J (Pv (m:=p.num*q.num) (d:=p.den*q.den) hg36 (jJ (by omega) (by omega)) hd1) J<|rz J (by rw[<-A1];rfl)
     .
      exact at_ () trivial
    .
     exact at_ () trivial
   .
    exact at_ () trivial
  .
   exact at_ () trivial
 .
  refine cl J (sI (q:=p) (by omega)) J<|cl J (sI (q:=q) (by omega)) J<|cl J (Gg (a:=p.num) (b:=q.num) (by omega) (by omega)) J<|cl J (q7 (q:=p) (by omega)) J<|cl J (q7 (q:=q) (by omega)) J<|cl J (xV (a:=p.den) (b:=q.den) (by omega) (by omega)) J<|cl J (uX (n:=decide (p.num*q.num<0)) (a:=(p.num*q.num).natAbs) (d:=p.den*q.den) (i:=i+j) (j:=i+j) (by omega) (by omega)) J<|rz J (by rw[lC,<-A1];rfl)
def qP{p:Rat}[h:BQ p i][k:BQ q j](hi:i<=100000000:=by decide)(hj:j<=100000000:=by decide):PF GB prog 131 [eF p,eF q] (eF (p+q)):=by
 refine fn (fu:=⟨8⟩) func131 J J ntmps131 J J (fun C=>?_);refine mg (X:=Unit) (fun _=>[(2, .ov 2 0),(3, .ov 3 0),(4, .ov 4 0)]) (fun _=>[(2,some (.o 158 [.d (vI (du p)), .d (vI (dt p)), .d (di p)] true)),(3,some (.o 158 [.d (vI (du q)), .d (vI (dt q)), .d (di q)] true)),(4,some (.o 158 [.d (.v (.int .i64 0)), .d (.v (.int .i64 0)), .d (.v (.pointer none))] true))]) (fun _=>True) [2,3,4] [2,3,4] rfl ?_ (fun _=>J) (fun _ _=>?_)
 .
  refine gx J<|cs 16 J J J (fun hg16=>?_) (fun hg16=>?_)
  .
   refine br (fu1:=⟨1⟩) J J J (fun hc20=>?_) (fun hc20=>?_)
   .
    have hp:=s8 hg16;have hq:=s8 hc20;have p1:=mC hp;have p2:=oE hp;have p3:=qg hp;have p4:=p9 hp;have p5:=p.den_nz;have q1:=mC hq;have q2:=oE hq;have q3:=qg hq;have q4:=p9 hq;have q5:=q.den_nz;refine mg (fu:=⟨4⟩) (X:=Unit) (fun _=>[(2, .ov 2 0),(3, .ov 3 0),(4, .ov 4 0)]) (fun _=>[(2,some (.o 158 [.d (vI (du p)), .d (vI (dt p)), .d (di p)] true)),(3,some (.o 158 [.d (vI (du q)), .d (vI (dt q)), .d (di q)] true)),(4,some (.o 158 [.d (.v (.int .i64 0)), .d (.v (.int .i64 0)), .d (.v (.pointer none))] true))]) (fun _=>True) [2,3,4] [2,3,4] rfl ?_ (fun _=>J) (fun _ _=>?_)
    .
     refine gx J<|cs 24 J J J (fun hg24=>?_) (fun hg24=>?_)
     .
      refine br (fu1:=⟨4⟩) J J J (fun hc28=>?_) (fun hc28=>?_)
      .
       refine aj 30 (.d (vI p.num)) J (by rw[p1])<|gx (fu:=⟨2⟩) J<|aj 32 (.d (vI q.num)) J (by rw[q1])<|gx J<|cl J (wG (m:=p.num+q.num) (by omega)) J<|rz J (by rw[E7 (q:=p),E7 (q:=q),<-lV];rfl)
      .
       exact at_ () trivial
     .
      exact at_ () trivial
    .
     refine aj 37 (.d (vI p.num)) J (by rw[p1])<|gx (fu:=⟨3⟩) J<|aj 40 (.d (vI (q.den:Nat))) J (by congr 3;omega)<|gx J<|cl (fu:=⟨11⟩) J (zz (a:=p.num) (b:=(q.den:Nat))) J<|aj 46 (.d (vI q.num)) J (by rw[q1])<|gx (fu:=⟨3⟩) J<|aj 49 (.d (vI (p.den:Nat))) J (by congr 3;omega)<|gx J<|cl (fu:=⟨12⟩) J (zz (a:=q.num) (b:=(p.den:Nat))) J<|aj 56 (.d (vI (p.den:Nat))) J (by congr 3;omega)<|gx (fu:=⟨3⟩) J<|aj 59 (.d (vI (q.den:Nat))) J (by congr 3;omega)<|gx J<|cl (fu:=⟨3⟩) J (zz (a:=(p.den:Nat)) (b:=(q.den:Nat))) J<|?_;have t1:=Hi p.num (q.den:Nat);have t2:=Hi q.num (p.den:Nat);have t3:=Hi (p.den:Nat) (q.den:Nat);refine gx J<|csd 67 J J J (fun hg67=>?_) (fun hg67=>?_)
     .
      refine csd 70 J J J (fun hg70=>?_) (fun hg70=>?_)
      .
       refine csd 73 J J J (fun hg73=>?_) (fun hg73=>?_)
       .
        refine cs 77 J J J (fun hg77=>?_) (fun hg77=>?_)
        .
         refine br (fu1:=⟨3⟩) J J J (fun hc80=>?_) (fun hc80=>?_)
         .
          have u1:=AJ hg67;have u2:=AJ hg70;have u3:=AJ hg73;have hd1:p.den*q.den<4611686018427387904:=by omega
          refine aj 81 (.d (vI (p.num*(q.den:Nat)+q.num*(p.den:Nat)))) J (by rw[u1,u2];rfl)<|gx (fu:=⟨1⟩) J<|aj 82 (.d (vI ((p.den*q.den:Nat)))) J (by rw[u3];rfl)<|gx J<|cl J (Pv (m:=p.num*(q.den:Nat)+q.num*(p.den:Nat)) (d:=p.den*q.den) (by omega) (jJ (by omega) (by omega)) hd1) J<|rz J (by rw[<-BB];rfl)
         .
          exact at_ () trivial
        .
         exact at_ () trivial
       .
        exact at_ () trivial
      .
       exact at_ () trivial
     .
      exact at_ () trivial
   .
    exact at_ () trivial
  .
   exact at_ () trivial
 .
  refine cl J (sI (q:=p) (by omega)) J<|cl (fu:=⟨1⟩) J (q7 (q:=q) (by omega)) J<|aj 88 (.d (eI (q.den:Nat))) J (by rw[Kj])<|gx J<|cl J (Gg (a:=p.num) (b:=(q.den:Nat)) (by omega) (by omega)) J<|cl J (sI (q:=q) (by omega)) J<|cl (fu:=⟨1⟩) J (q7 (q:=p) (by omega)) J<|aj 94 (.d (eI (p.den:Nat))) J (by rw[Kj])<|gx J<|cl J (Gg (a:=q.num) (b:=(p.den:Nat)) (by omega) (by omega)) J<|cl J (Uk (a:=p.num*(q.den:Nat)) (b:=q.num*(p.den:Nat)) (i:=i+j) (j:=j+i) (by omega) (by omega)) J<|cl J (q7 (q:=p) (by omega)) J<|cl J (q7 (q:=q) (by omega)) J<|cl J (xV (a:=p.den) (b:=q.den) (by omega) (by omega)) J<|cl J (uX (n:=decide (p.num*(q.den:Nat)+q.num*(p.den:Nat)<0)) (a:=(p.num*(q.den:Nat)+q.num*(p.den:Nat)).natAbs) (d:=p.den*q.den) (i:=i+j+(j+i)+1) (j:=i+j) (by omega) (by omega)) J<|rz J (by rw[lC,<-BB];rfl)
def py{p:Rat}[h:BQ p i][k:BQ q j](hi:i<=100000000:=by decide)(hj:j<=100000000:=by decide):PF GB prog 125 [eF p,eF q] (eF (p-q)):=by
 refine fn func125 J J ntmps125 J J (fun C=>?_);refine cl J (qC (q:=q) (by omega)) J<|cl J (qP (p:=p) (q:= -q) (by omega) (by omega)) J<|rz J (by rw[<-Rat.sub_eq_add_neg];rfl)
def HF[h:BQ q i](hi:i<=400000000:=by decide):PF GB prog 200 [eF q] (eF q⁻¹):=by
 refine fn func200 J J ntmps200 J J (fun C=>?_);refine br (v1:=fun hc3=>by simp only[ak];exact⟨⟨hc3,hc3⟩,hc3⟩) J J J (fun hc3=>?_) (fun hc3=>?_)
 .
  refine cl J (uX (n:=decide (q.num<0)) (a:=q.den) (d:=q.num.natAbs) (by omega) (by omega)) J<|rz J (by rw[aDo];rfl)
 .
  have q1:=mC (n5 hc3);have q2:=oE (n5 hc3);have q3:=qg (n5 hc3);have q4:=p9 (n5 hc3);have q5:=q.den_nz;refine br J J J (fun hc26=>?_) (fun hc26=>?_)
  .
   exact jk rfl (by obtain⟨e1,e2⟩:=KI (q:=q) (by omega);exact tj (fun k=>k ⟨by omega,by omega⟩) (by omega) (by omega) rfl)
  .
   refine br J J J (fun hc39=>?_) (fun hc39=>?_)
   .
    exact jk J (by rw[mX.1 (show q.num=0 by omega),Rat.inv_zero];exact Dc)
   .
    exact jk rfl (by obtain⟨e1,e2⟩:=SW (q:=q) (by omega);exact tj (fun k=>k ⟨by omega,by omega⟩) (by omega) (by omega) rfl)
def Bu{p:Rat}[h:BQ p i][k:BQ q j](hi:i<=100000000:=by decide)(hj:j<=100000000:=by decide):PF GB prog 259 [eF p,eF q] (eF (p/q)):=by
 refine fn func259 J J ntmps259 J J (fun C=>?_);refine cl J (HF (q:=q) (by omega)) J<|cl J (oc (p:=p) (q:=q⁻¹) (by omega) (by omega)) J<|rz J (by rw[Rat.div_def];rfl)
def Pz{q r:DV}{t:List DV}(h: ∀y,Is G r y->Is G q y)(hv:IsLs G (r::t) vs):IsLs G (q::t) vs:=by
 obtain⟨y,m,rfl,h1,h2⟩:=bi.1 hv;exact .cons (h _ h1) h2
def Hf{a q r:DV}{t:List DV}(h: ∀y,Is G r y->Is G q y)(hv:IsLs G (a::r::t) vs):IsLs G (a::q::t) vs:=by
 obtain⟨y,m,rfl,h1,h2⟩:=bi.1 hv;exact .cons h1 (Pz h h2)
def aB7[h:BQ q i](hi:i<=100000000:=by decide):PF GB prog 215 [eF q, .ag [vI 1,vI 1, .v (.pointer none)]] (eF (q*mkRat 1 2)):=
 (oc (p:=q) (q:=mkRat 1 2) hi).ofI fun G vs hv=>Hf (fun y hy=>tj (q:=mkRat 1 2) (fun k=>k ⟨by decide,by decide⟩) (by decide) (by decide) J G y hy) hv
def Ov[h:BQ q i](hi:i<=100000000:=by decide):PF GB prog 265 [eF q] (eF (q*mkRat 1 2)):=by
 refine fn func265 J J ntmps265 J J (fun C=>?_);refine cl J (aB7 (q:=q) (by omega)) J<|rz J J
def wH{p:Rat}[h:BQ p i][k:BQ q j](hi:i<=100000000:=by decide)(hj:j<=100000000:=by decide):PF GB prog 250 [eF p,eF q] (vI (bw p q)):=by
 refine fn func250 J J ntmps250 J J (fun C=>?_);refine cs 8 J J J (fun hg8=>?_) (fun hg8=>?_)
 .
  refine cs 13 J J J (fun hg13=>?_) (fun hg13=>?_)
  .
   refine br J J J (fun hc19=>?_) (fun hc19=>?_)
   .
    have hp:=s8 hg8;have hq:=s8 hg13;have p1:=mC hp;have p2:=oE hp;have p3:=qg hp;have p4:=p9 hp;have p5:=p.den_nz;have q1:=mC hq;have q2:=oE hq;have q3:=qg hq;have q4:=p9 hq;have q5:=q.den_nz;have hl:=NT (a:=p) (b:=q);have hr:=NT (a:=q) (b:=p);unfold bw;refine br J J J (fun hc20=>?_) (fun hc20=>?_)
    .
     exact rz J (by rw[if_pos (hl.2 (by omega))];rfl)
    .
     refine br J J J (fun hc26=>?_) (fun hc26=>?_)
     .
      exact rz J (by rw[if_neg (fun e=>by have:=hl.1 e;omega),if_pos (hr.2 (by omega))];rfl)
     .
      exact rz J (by rw[if_neg (fun e=>by have:=hl.1 e;omega),if_neg (fun e=>by have:=hr.1 e;omega)];rfl)
   .
    refine cl J (py (p:=p) (q:=q) (by omega) (by omega)) J<|cl J (mi (q:=p-q) (by omega)) J<|rz J (by rw[DK];rfl)
  .
   refine cl J (py (p:=p) (q:=q) (by omega) (by omega)) J<|cl J (mi (q:=p-q) (by omega)) J<|rz J (by rw[DK];rfl)
 .
  refine cl J (py (p:=p) (q:=q) (by omega) (by omega)) J<|cl J (mi (q:=p-q) (by omega)) J<|rz J (by rw[DK];rfl)
def CS{p:Rat}[h:BQ p i][k:BQ q j](hi:i<=100000000:=by decide)(hj:j<=100000000:=by decide):PF GB prog 184 [eF p,eF q] (vB (decide (p=q))):=by
 refine fn func184 J J ntmps184 J J (fun C=>?_);refine cl J (wH (p:=p) (q:=q) hi hj) J<|rz J (by show DV.v (.bool (decide _))= .v (.bool _);congr 2;exact decide_eq_decide.2 (u7 p q))
def aEK{p:Rat}[h:BQ p i][k:BQ q j](hi:i<=100000000:=by decide)(hj:j<=100000000:=by decide):PF GB prog 298 [eF p,eF q] (eF (if p<q then q else p)):=by
 refine fn func298 J J ntmps298 J J (fun C=>?_);refine cl J (wH (p:=q) (q:=p) hj hi) J<|br J J J (fun hc8=>?_) (fun hc8=>?_)
 .
  exact rz J (by rw[if_pos ((Sz q p).1 hc8)];rfl)
 .
  exact rz J (by rw[if_neg (fun e=>hc8 ((Sz q p).2 e))];rfl)
def RT{p:Rat}[h:BQ p i][k:BQ q j](hi:i<=100000000:=by decide)(hj:j<=100000000:=by decide):PF GB prog 201 [eF p,eF q] (eF (if q<p then q else p)):=by
 refine fn func201 J J ntmps201 J J (fun C=>?_);refine cl J (wH (p:=q) (q:=p) hj hi) J<|br J J J (fun hc8=>?_) (fun hc8=>?_)
 .
  exact rz J (by rw[if_pos ((R3 q p).1 hc8)];rfl)
 .
  exact rz J (by rw[if_neg (fun e=>hc8 ((R3 q p).2 e))];rfl)
def u9{p:Rat}[h:BQ p i][k:BQ q j](hi:i<=100000000:=by decide)(hj:j<=100000000:=by decide):PF GB prog 183 [eF p,eF q] (eF (rgcd p q)):=by
 refine fn (fu:=⟨8⟩) func183 J J ntmps183 J J (fun C=>?_);refine mg (X:=Unit) (fun _=>[(2, .ov 2 0),(3, .ov 3 0),(4, .ov 4 0)]) (fun _=>[(2,some (.o 158 [.d (vI (du p)), .d (vI (dt p)), .d (di p)] true)),(3,some (.o 158 [.d (vI (du q)), .d (vI (dt q)), .d (di q)] true)),(4,some (.o 158 [.d (.v (.int .i64 0)), .d (.v (.int .i64 0)), .d (.v (.pointer none))] true))]) (fun _=>True) [2,3,4] [2,3,4] rfl ?_ (fun _=>J) (fun _ _=>?_)
 .
  refine gx J<|cs 10 J J J (fun hg10=>?_) (fun hg10=>?_)
  .
   refine cs 15 J J J (fun hg15=>?_) (fun hg15=>?_)
   .
    have hp:=s8 hg10;have hq:=s8 hg15;have p1:=mC hp;have p2:=oE hp;have p3:=qg hp;have p4:=p9 hp;have p5:=p.den_nz;have q1:=mC hq;have q2:=oE hq;have q3:=qg hq;have q4:=p9 hq;have q5:=q.den_nz;refine cs 20 J J J (fun hg20=>?_) (fun hg20=>?_)
    .
     refine br (fu1:=⟨4⟩) J J J (fun hc24=>?_) (fun hc24=>?_)
     .
      have hg:=F7 p3 q3;refine aj 26 (.d (vI p.num)) J (by rw[p1])<|gx J<|cl (fu:=⟨2⟩) J (BO (m:=p.num)) J<|aj 29 (.d (vI q.num)) J (by rw[q1])<|gx J<|cl J (BO (m:=q.num)) J<|cl (hv:=by simp only[ak];exact⟨by omega,by kernel_rfl⟩) J (SQ (a:=p.num.natAbs) (b:=q.num.natAbs)) J<|jk J (by rw[aG4 (p:=p) (q:=q) (by omega) (by omega)];exact RD (by rw[fX];exact hg))
     .
      exact at_ () trivial
    .
     exact at_ () trivial
   .
    exact at_ () trivial
  .
   exact at_ () trivial
 .
  refine cl J (q7 (q:=p) (by omega)) J<|cl J (q7 (q:=q) (by omega)) J<|cl J (xV (a:=p.den) (b:=q.den) (by omega) (by omega)) J<|cl J (sI (q:=p) (by omega)) J<|cl J (q7 (q:=q) (by omega)) J<|cl J (xV (a:=p.num.natAbs) (b:=q.den) (by omega) (by omega)) J<|cl J (sI (q:=q) (by omega)) J<|cl J (q7 (q:=p) (by omega)) J<|cl J (xV (a:=q.num.natAbs) (b:=p.den) (by omega) (by omega)) J<|cl J (Hv (a:=p.num.natAbs*q.den) (b:=q.num.natAbs*p.den) (i:=i+j) (j:=j+i) (by omega) (by omega)) J<|cl J (uX (n:=false) (a:=Nat.gcd (p.num.natAbs*q.den) (q.num.natAbs*p.den)) (d:=p.den*q.den) (i:=i+j+(j+i)) (j:=i+j) (by omega) (by omega)) J<|rz J J

def cT:Tr->List DV
 | .leaf b=>[.v (.bool true), .v (.bool b), .v (.bool false), .sl [], .v (.bool false), .sl [], .v (.bool false), .sl [], .v (.pointer none), .v (.pointer none)]
 | .node l x y=>[.v (.bool false), .v (.bool false), .v (.bool (decide (l.a<0))),dN l.a.natAbs, .v (.bool (decide (l.b<0))),dN l.b.natAbs, .v (.bool (decide (l.c<0))),dN l.c.natAbs, .pt (cT x), .pt (cT y)]
def eT(t:Tr):DV:= .pt (cT t)
def eN(n:NQ):DV:= .ag [.v (.bool (decide (n.l.a<0))),dN n.l.a.natAbs, .v (.bool (decide (n.l.b<0))),dN n.l.b.natAbs, .v (.bool (decide (n.l.c<0))),dN n.l.c.natAbs, .v (.int .i64 n.a), .v (.int .i64 n.b)]
def eA(t:Tr):DV:= .ag [.v (.int .i64 (t.num 0)), .sl ((t.wr 0).map eN)]
def yc{z:IV}{m:Int}(h:pH k G z m):Is G (.v (.bool (decide (m<0)))) (.bool z.neg)/\Is G (dN m.natAbs) (.slice z.a.a z.a.n z.a.c):=
 ⟨aH.2 (by rw[h.neg]),(OF h.abs.lt).2 ⟨_,J,h.abs⟩⟩
def H5{m:Int}{u v:Value}(hm:m.natAbs<2^k)(h1:Is G (.v (.bool (decide (m<0)))) u)(h2:Is G (dN m.natAbs) v): ∃z:IV,u= .bool z.neg/\v= .slice z.a.a z.a.n z.a.c/\pH k G z m:=by
 obtain⟨x,rfl,hx⟩:=(OF hm).1 h2;exact⟨⟨decide (m<0),x⟩,aH.1 h1,J,J,hx⟩
structure BL (l:aa) (k:Nat):Prop where
 a:l.a.natAbs<2^k
 b:l.b.natAbs<2^k
 c:l.c.natAbs<2^k
def VV{v:Value}(hl:BL l k)(h:Is G (eL l) v): ∃a b c:IV,v= .agg ⟨[.bool a.neg, .slice a.a.a a.a.n a.a.c, .bool b.neg, .slice b.a.a b.a.n b.a.c, .bool c.neg, .slice c.a.a c.a.n c.a.c]⟩/\pH k G a l.a/\pH k G b l.b/\pH k G c l.c:=by
 obtain⟨m,rfl,g⟩:=en.1 h;clear h;obtain⟨v1,m,rfl,h1,h⟩:=bi.1 g;obtain⟨v2,m,rfl,h2,h⟩:=bi.1 h;obtain⟨v3,m,rfl,h3,h⟩:=bi.1 h;obtain⟨v4,m,rfl,h4,h⟩:=bi.1 h;obtain⟨v5,m,rfl,h5,h⟩:=bi.1 h;obtain⟨v6,m,rfl,h6,h⟩:=bi.1 h;rw[ef] at h;subst h;obtain⟨a,rfl,rfl,ha⟩:=H5 hl.a h1 h2;obtain⟨b,rfl,rfl,hb⟩:=H5 hl.b h3 h4;obtain⟨c,rfl,rfl,hc⟩:=H5 hl.c h5 h6;exact⟨a,b,c,J,ha,hb,hc⟩
def UY{n:NQ}{z:ND}(h:rk k G z n):Is G (eN n) z.val:=by
 refine en.2 ⟨_,J, .cons (yc h.a).1 (.cons (yc h.a).2 (.cons (yc h.b).1 (.cons (yc h.b).2 (.cons (yc h.c).1 (.cons (yc h.c).2 (.cons (aH.2 ?_) (.cons (aH.2 ?_) .nil)))))))⟩
 .rw[h.l]
 .rw[h.r]
def KA{G:Gh}{k:Nat}: ∀{ns:List NQ} {zs:List ND},gz (rk k G) zs ns->IsLs G (ns.map eN) (zs.map ND.val)
 |_,_, .nil=> .nil
 |_,_, .cons h t=> .cons (UY h) (KA t)
def YC(ns:List NQ):cE 8 (ns.map eN):=fun d hd=>by
 obtain⟨n,_,rfl⟩:=aT.1 hd;exact⟨rfl,rfl⟩
def aHc{t:Tr}{x:SV}(h:aJ4 k G x (t.wr 0)):Is G (eA t) (.agg ⟨[.int .i64 (t.num 0), .slice x.a x.n x.c]⟩):=by
 obtain⟨zs,h1,h2⟩:=h;exact en.2 ⟨_,J, .cons (aH.2 J) (.cons (gv.2 ⟨8,x,_,J,h1,KA h2⟩) .nil)⟩
structure LS (l:aa):Prop where
 ok:l.ok
 a:l.a.natAbs<=4
 b:l.b.natAbs<=4
 c:l.c.natAbs<=40000
def LS.bl(h:LS l):BL l 96:=⟨by have:=h.a;omega,by have:=h.b;omega,by have:=h.c;omega⟩
def u6{xs:List aa}(h:i<xs.length:=by omega):(xs.map eL)[(i:Int).toNat]? =some (eL xs[i]):=by simp[h]
def r9(xs:List aa):(xs.map eL).length=xs.length:=aX ..
def VZ{α:Type}{xs:List α}{p:α->Prop}(h: ∀x∈xs.take i,p x)(hi:i<xs.length)(hy:p xs[i]): ∀x∈xs.take (i+1),p x:=by
 intro x hx;rw[iJ hi] at hx;simp only[bJ,aU] at hx;rcases hx with hx|rfl
 .exact h x hx
 .exact hy
def Uv{a b:Int}(h:decide (a<0)=decide (b<0)):decide (a.natAbs=b.natAbs)=decide (a=b):=by
 have h':a<0↔b<0:=by simpa using h
 exact decide_eq_decide.2 ⟨fun e=>by omega,fun e=>by rw[e]⟩
def aa.ext'(h1:l.a=m.a:=by omega)(h2:l.b=m.b:=by omega)(h3:l.c=m.c:=by omega):l=m:=by cases l;cases m;simp_all
def ez(ls:List aa):cE 6 (ls.map eL):=fun d hd=>by
 obtain⟨n,_,rfl⟩:=aT.1 hd;exact⟨rfl,rfl⟩
def Zv{a b:Nat}(hl:(dg a).length=(dg b).length)(h: ∀j,j<(dg a).length->(dg a).getD j 0=(dg b).getD j 0):a=b:=by
 have e:dg a=dg b:=by
  apply List.ext_getElem hl;intro i h1 h2;have:=h i h1;rw[aV,aV,aZ h1,aZ h2] at this;exact this
 rw[<-c8 a,e,c8]
def iv{z:Int}:PF GB prog 118 [eI z] (eQ (z:Rat)):=by
 refine fn func118 J J ntmps118 J J (fun C=>?_);exact rz J (by rw[DM];rfl)
def xk:PF GB prog 21 [eL l] (eL l.rev):=by
 refine fn func21 J J ntmps21 J J (fun C=>?_);refine cl J BE J<|cl J BE J<|cl J BE J<|rz J J
def aCq{a b:Nat}[ha:BN a i][hb:BN b j](hi:i<=400000000:=by decide):PF GB prog 174 [dN a,dN b] (vB (decide (a=b))):=by
 have hla:=bO (dg a);have hlb:=bO (dg b);have hba:=jC ha.h;refine fn func174 J J ntmps174 J J (fun C=>?_);refine br (fu2:=⟨7⟩) J J J (fun hc10=>?_) (fun hc10=>?_)
 .
  exact rz J (by rw[decide_eq_false (fun e:a=b=>hc10 (by rw[e]))];rfl)
 .
  refine aj 12 (.d (vI ((dg a).length:Nat))) J (by rw[hla];rfl)<|gx J<|lp (X:=Nat) (fun i=>[(13, .d (vI (i:Nat))),(12, .d (vI ((dg a).length:Nat))),(0, .d (dN a)),(1, .d (dN b))]) (fun i=>[]) (fun i=>i<=(dg a).length/\ ∀j,j<i->(dg a).getD j 0=(dg b).getD j 0) (fun i=>(dg a).length-i) 0 J ⟨aM _,fun j hj=>absurd hj (by omega)⟩ (fun _=>J) (fun i hk=>?_);obtain⟨h1,h2⟩:=hk;refine br J J J (fun hc14=>?_) (fun hc14=>?_)
  .
   refine ix _ J (ek) J<|ix _ J (ek) J<|br J J J (fun hc24=>?_) (fun hc24=>?_)
   .
    exact rz J (by rw[decide_eq_false (fun e:a=b=>hc24 (by rw[e]))];rfl)
   .
    exact at_ (i+1) ⟨⟨by omega,fun j hj=>by by_cases q:j=i;(subst q;omega);exact h2 j (by omega)⟩,(by omega)⟩
  .
   exact rz J (by rw[decide_eq_true (Zv (by omega) (fun j hj=>h2 j (by omega)))];rfl)
def I0{a b:Int}[ha:BI a i][hb:BI b j](hi:i<=400000000:=by decide):PF GB prog 105 [eI a,eI b] (vB (decide (a=b))):=by
 refine fn (fu:=⟨14⟩) func105 J J ntmps105 J J (fun C=>?_);refine aj 9 (.d (.v (.bool (decide (decide (a<0)=decide (b<0)))))) J (by congr 2)<|gx J<|csd 10 J J J (fun hg10=>?_) (fun hg10=>?_)
 .
  refine cl J (aCq (by omega)) J<|rz J (by show DV.v (.bool _)=DV.v (.bool _);rw[<-Uv hg10])
 .
  exact rz J (by rw[decide_eq_false (fun e:a=b=>hg10 (by rw[e]))];rfl)
def Xx(hl:BL l 96)(hm:BL m 96):PF GB prog 47 [eL l,eL m] (vB (decide (l=m))):=by
 haveI h1:BI l.a 96:=⟨hl.a⟩;haveI h2:BI l.b 96:=⟨hl.b⟩;haveI h3:BI l.c 96:=⟨hl.c⟩;haveI k1:BI m.a 96:=⟨hm.a⟩;haveI k2:BI m.b 96:=⟨hm.b⟩;haveI k3:BI m.c 96:=⟨hm.c⟩;refine fn func47 J J ntmps47 J J (fun C=>?_);refine cl J (I0 (a:=l.a) (b:=m.a)) J<|csd 10 J J J (fun hg10=>?_) (fun hg10=>?_)
 .
  refine cl J (I0 (by omega)) J<|csd 17 J J J (fun hg17=>?_) (fun hg17=>?_)
  .
   refine cl J (I0 (by omega)) J<|rz J (by show DV.v (.bool _)=DV.v (.bool _);rw[decide_eq_decide.2 ⟨fun e=>aa.ext' hg10 hg17 e,fun e=>by rw[e]⟩])
  .
   exact rz J (by rw[decide_eq_false (fun e:l=m=>hg17 (by rw[e]))];rfl)
 .
  exact rz J (by rw[decide_eq_false (fun e:l=m=>hg10 (by rw[e]))];rfl)
class LB (l:aa):Prop where bl:BL l 96
instance LB.a (l:aa) [h:LB l]:BI l.a 96:=⟨h.bl.a⟩
instance LB.b (l:aa) [h:LB l]:BI l.b 96:=⟨h.bl.b⟩
instance LB.c (l:aa) [h:LB l]:BI l.c 96:=⟨h.bl.c⟩
class aD (p:ah) (k:outParam Nat):Prop where
 x:BQ p.x k
 y:BQ p.y k
instance aD.ix (p:ah) (k:Nat) [h:aD p k]:BQ p.x k:=h.x
instance aD.iy (p:ah) (k:Nat) [h:aD p k]:BQ p.y k:=h.y
instance aD.dir (l:aa) [LB l]:aD l.dir 97:=⟨inferInstanceAs (BQ (l.b:Rat) 97),inferInstanceAs (BQ (-(l.a:Rat)) 97)⟩
instance BQ.dot (p q:ah) (i j:Nat) [aD p i] [aD q j]:BQ (p.dot q) (i+j+(i+j)+1):=inferInstanceAs (BQ (p.x*q.x+p.y*q.y) _)
instance BQ.cross (p q:ah) (i j:Nat) [aD p i] [aD q j]:BQ (p.cross q) (i+j+(i+j)+1):=inferInstanceAs (BQ (p.x*q.y-p.y*q.x) _)
instance aD.mov (p q:ah) (c:Rat) (i j k:Nat) [aD p i] [aD q j] [BQ c k]:aD (cF p q c) (i+(k+j)+1):=⟨inferInstanceAs (BQ (p.x+c*q.x) _),inferInstanceAs (BQ (p.y+c*q.y) _)⟩
instance BQ.value (l:aa) (p:ah) (i:Nat) [LB l] [aD p i]:BQ (l.value p) (96+1+i+(96+1+i)+1+(96+1)+1):=inferInstanceAs (BQ ((l.a:Rat)*p.x+(l.b:Rat)*p.y+(l.c:Rat)) _)
def Qk(h:l.Ne):l.dir.dot l.dir≠0:=by have:=Bc h;grind
def iu:PF GB prog 66 [eL l] (eP l.dir):=by
 refine fn func66 J J ntmps66 J J (fun C=>?_);refine cl J iv J<|cl J iv J<|cl J nE J<|rz J J
def Jy{p q:ah}[hp:aD p i][hq:aD q j](hi:i<=200000:=by decide)(hj:j<=200000:=by decide):PF GB prog 218 [eP p,eP q] (eQ (p.dot q)):=by
 refine fn func218 J J ntmps218 J J (fun C=>?_);refine cl J (gr (by omega) (by omega)) J<|cl J (gr (by omega) (by omega)) J<|cl J (ml (by omega) (by omega)) J<|rz J J
def pC{p q:ah}[hp:aD p i][hq:aD q j](hi:i<=200000:=by decide)(hj:j<=200000:=by decide):PF GB prog 139 [eP p,eP q] (eQ (p.cross q)):=by
 refine fn func139 J J ntmps139 J J (fun C=>?_);refine cl J (gr (by omega) (by omega)) J<|cl J (gr (by omega) (by omega)) J<|cl J (qO (by omega) (by omega)) J<|rz J J
def sB{p q:ah}{c:Rat}[hp:aD p i][hq:aD q j][hc:BQ c k](hi:i<=19000000:=by decide)(hj:j<=9000000:=by decide)(hk:k<=9000000:=by decide):PF GB prog 31 [eP p,eQ c,eP q] (eP (cF p q c)):=by
 refine fn func31 J J ntmps31 J J (fun C=>?_);refine cl J (gr (by omega) (by omega)) J<|cl J (ml (by omega) (by omega)) J<|cl J (gr (by omega) (by omega)) J<|cl J (ml (by omega) (by omega)) J<|rz J J
def E1{p:ah}[hl:LB l][hp:aD p i](hi:i<=400000:=by decide):PF GB prog 56 [eL l,eP p] (eQ (l.value p)):=by
 refine fn func56 J J ntmps56 J J (fun C=>?_);refine cl J (iv (z:=l.a)) J<|cl J (gr (by omega) (by omega)) J<|cl J (iv (z:=l.b)) J<|cl J (gr (by omega) (by omega)) J<|cl J (ml (by omega) (by omega)) J<|cl J (iv (z:=l.c)) J<|cl J (ml (by omega) (by omega)) J<|rz J J
def wP{p:ah}[hl:LB l][hp:aD p i](hi:i<=400000:=by decide):PF GB prog 19 [eL l,eP p] (vI (l.value p).num.sign):=by
 refine fn func19 J J ntmps19 J J (fun C=>?_);refine cl J (E1 hi) J<|cl J mE J<|rz J J
def y5[hl:LB l](hn:l.Ne):PF GB prog 137 [eL l] (eP l.base):=by
 refine fn func137 J J ntmps137 J J (fun C=>?_);refine cl J iu J<|cl J (iv (z:=l.c)) J<|cl J Jy J<|cl J (wD (Qk hn)) J<|cl J nE J<|cl J (iv (z:=l.a)) J<|cl J gr J<|cl J (iv (z:=l.b)) J<|cl J gr J<|rz J (by rw[<-Mc];rfl)
instance aD.base (l:aa) [LB l]:aD l.base 900:=by
 rw[<-Mc];constructor
 .exact BQ.mono (inferInstance:BQ (-((l.c:Rat)/l.dir.dot l.dir)*(l.a:Rat)) _)
 .exact BQ.mono (inferInstance:BQ (-((l.c:Rat)/l.dir.dot l.dir)*(l.b:Rat)) _)
def Su[hl:LB l][ht:BQ t k](hn:l.Ne)(hk:k<=200000:=by decide):PF GB prog 241 [eL l,eQ t] (eP (l.at t)):=by
 refine fn func241 J J ntmps241 J J (fun C=>?_);refine cl J (y5 hn) J<|cl J iu J<|cl J (sB (by decide) (by decide) (by omega)) J<|rz J (by rw[<-wW];rfl)
def CP{p:ah}[hl:LB l][hp:aD p k](hn:l.Ne)(hk:k<=200000:=by decide):PF GB prog 138 [eL l,eP p] (eQ (ja l p)):=by
 refine fn func138 J J ntmps138 J J (fun C=>?_);refine cl J iu J<|cl J (Jy (by omega) (by decide)) J<|cl J (Jy (by omega) (by decide)) J<|cl J (wD (Qk hn) (by omega) (by decide)) J<|rz J J
instance BI.crossI (l m:aa) [LB l] [LB m]:BI (crossI l m) 385:=inferInstanceAs (BI (l.a*m.b-m.a*l.b) 385)
instance BI.meetX (l m:aa) [LB l] [LB m]:BI (meetX l m) 385:=inferInstanceAs (BI (l.b*m.c-m.b*l.c) 385)
instance BI.meetY (l m:aa) [LB l] [LB m]:BI (meetY l m) 385:=inferInstanceAs (BI (m.a*l.c-l.a*m.c) 385)
instance aD.imeet (l m:aa) [LB l] [LB m]:aD (cP l m) 772:=by
 unfold cP;split
 .exact⟨BQ.mono (k:=1) ⟨by decide,by decide⟩,BQ.mono (k:=1) ⟨by decide,by decide⟩⟩
 .exact⟨inferInstanceAs (BQ ((meetX l m:Rat)/(crossI l m:Rat)) 772),inferInstanceAs (BQ ((meetY l m:Rat)/(crossI l m:Rat)) 772)⟩
def Lz(l m:aa):(((l.a:Rat)*(m.b:Rat)-(m.a:Rat)*(l.b:Rat)).num.sign=0)↔crossI l m=0:=by
 rw[o9,<-vi];exact cY
def SA(h:crossI l m≠0):(l.a:Rat)*(m.b:Rat)-(m.a:Rat)*(l.b:Rat)≠0:=by
 rw[<-vi];exact fun e=>h (cY.1 e)
def CF[hl:LB l][hm:LB m]:PF GB prog 136 [eL l,eL m] (.tp [eP (cP l m),vB (decide (crossI l m≠0))]):=by
 refine fn func136 J J ntmps136 J J (fun C=>?_);refine cl J (iv (z:=l.a)) J<|cl J (iv (z:=m.b)) J<|cl J gr J<|cl J (iv (z:=m.a)) J<|cl J (iv (z:=l.b)) J<|cl J gr J<|cl J qO J<|cl J mE J<|br J J J (fun hc26=>?_) (fun hc26=>?_)
 .
  have hcr:=(Lz l m).1 hc26;exact rz J (by unfold cP;rw[if_pos hcr,decide_eq_false (fun e=>e hcr)];show DV.tp [.ag [_, .sl [], .sl [],_, .sl [], .sl []],_]= .tp [eP ⟨0,0⟩,_];unfold eP dD;simp only[show(0:Rat).num=0 from J,show(0:Rat).den=1 from J,lW,l9];rfl)
 .
  have hcr:crossI l m≠0:=fun e=>hc26 ((Lz l m).2 e);refine cl J (iv (z:=l.b)) J<|cl J (iv (z:=m.c)) J<|cl J gr J<|cl J (iv (z:=m.b)) J<|cl J (iv (z:=l.c)) J<|cl J gr J<|cl J qO J<|cl J (iv (z:=m.a)) J<|cl J (iv (z:=l.c)) J<|cl J gr J<|cl J (iv (z:=l.a)) J<|cl J (iv (z:=m.c)) J<|cl J gr J<|cl J qO J<|cl J (wD (SA hcr)) J<|cl J (wD (SA hcr)) J<|rz J (by unfold cP;rw[if_neg hcr,decide_eq_true hcr,IB,QO,vi];rfl)
def hH(l m:aa):Int:=if(l.a-m.a).sign≠0 then(l.a-m.a).sign else if(l.b-m.b).sign≠0 then(l.b-m.b).sign else(l.c-m.c).sign
def Bj(l m:aa):hH l m=0↔l=m:=by
 unfold hH;constructor
 .intro h
  split at h
  .contradiction
  .split at h
   .contradiction
   .rename_i h1 h2
    have a1:=gR.1 (Decidable.not_not.1 h1);have a2:=gR.1 (Decidable.not_not.1 h2);have a3:=gR.1 h;exact aa.ext'
 .rintro rfl
  simp
def Di[hl:LB l][hm:LB m]:PF GB prog 67 [eL l,eL m] (vI (hH l m)):=by
 refine fn func67 J J ntmps67 J J (fun C=>?_);refine cl J (Ii (a:=l.a) (b:=m.a)) J<|br J J J (fun hc13=>?_) (fun hc13=>?_)
 .
  exact rz J (by show vI _=_;unfold hH;rw[if_pos hc13])
 .
  refine cl J (Ii (a:=l.b) (b:=m.b)) J<|br J J J (fun hc21=>?_) (fun hc21=>?_)
  .
   exact rz J (by show vI _=_;unfold hH;rw[if_neg hc13,if_pos hc21])
  .
   refine cl J (Ii (a:=l.c) (b:=m.c)) J<|rz J (by show vI _=_;unfold hH;rw[if_neg hc13,if_neg hc21])
def K0{v:ah}:PF GB prog 141 [eP v] (vI v.half):=by
 refine fn func141 J J ntmps141 J J (fun C=>?_);refine cl J (mE (q:=v.x)) J<|cl J (mE (q:=v.y)) J<|cs 13 J J J (fun hg13=>?_) (fun hg13=>?_)
 .
  refine br J J J (fun hc16=>?_) (fun hc16=>?_)
  .
   exact rz J (by show vI _=vI _;unfold ah.half;generalize v.x.num.sign=sx at*;generalize v.y.num.sign=sy at*;congr 1;(repeat' split)<;>omega)
  .
   refine cs 19 J J J (fun hg19=>?_) (fun hg19=>?_)
   .
    exact rz J (by show vI _=vI _;unfold ah.half;generalize v.x.num.sign=sx at*;generalize v.y.num.sign=sy at*;congr 1;(repeat' split)<;>omega)
   .
    refine cs 22 J J J (fun hg22=>?_) (fun hg22=>?_)
    .
     refine br J J J (fun hc26=>?_) (fun hc26=>?_)
     .
      exact rz J (by show vI _=vI _;unfold ah.half;generalize v.x.num.sign=sx at*;generalize v.y.num.sign=sy at*;congr 1;(repeat' split)<;>omega)
     .
      exact rz J (by show vI _=vI _;unfold ah.half;generalize v.x.num.sign=sx at*;generalize v.y.num.sign=sy at*;congr 1;(repeat' split)<;>omega)
    .
     exact rz J (by show vI _=vI _;unfold ah.half;generalize v.x.num.sign=sx at*;generalize v.y.num.sign=sy at*;congr 1;(repeat' split)<;>omega)
 .
  refine cs 19 J J J (fun hg19=>?_) (fun hg19=>?_)
  .
   exact rz J (by show vI _=vI _;unfold ah.half;generalize v.x.num.sign=sx at*;generalize v.y.num.sign=sy at*;congr 1;(repeat' split)<;>omega)
  .
   refine cs 22 J J J (fun hg22=>?_) (fun hg22=>?_)
   .
    refine br J J J (fun hc26=>?_) (fun hc26=>?_)
    .
     exact rz J (by show vI _=vI _;unfold ah.half;generalize v.x.num.sign=sx at*;generalize v.y.num.sign=sy at*;congr 1;(repeat' split)<;>omega)
    .
     exact rz J (by show vI _=vI _;unfold ah.half;generalize v.x.num.sign=sx at*;generalize v.y.num.sign=sy at*;congr 1;(repeat' split)<;>omega)
   .
    exact rz J (by show vI _=vI _;unfold ah.half;generalize v.x.num.sign=sx at*;generalize v.y.num.sign=sy at*;congr 1;(repeat' split)<;>omega)
def VL(z:Int): -1<=z.sign/\z.sign<=1:=by
 rcases pW z 0 with h|h|h
 .rw[eX h];omega
 .rw[h];decide
 .rw[fU h];omega
def U4{u v:ah}[hu:aD u i][hv:aD v j](hi:i<=200000:=by decide)(hj:j<=200000:=by decide):PF GB prog 65 [eP u,eP v] (vI (gc u v)):=by
 refine fn func65 J J ntmps65 J J (fun C=>?_);refine cl J (K0 (v:=u)) J<|cl J (K0 (v:=v)) J<|br J J J (fun hc13=>?_) (fun hc13=>?_)
 .
  refine br J J J (fun hc16=>?_) (fun hc16=>?_)
  .
   exact rz J (by show vI _=vI _;unfold gc;rw[if_pos hc16])
  .
   exact rz J (by show vI _=vI _;unfold gc;rw[if_neg hc16,if_pos (by omega)])
 .
  refine cl J (pC hi hj) J<|cl (hv:=by simp only[ak];exact(by have:=VL (u.cross v).num;omega)) J mE J<|rz J (by show vI _=vI _;unfold gc;rw[if_neg (by omega),if_neg (by omega)])
instance BQ.i1:BQ (((1:Int):Rat)) 2:=⟨by decide,by decide⟩
def eV(v:ar):DV:= .ag [.v (.bool (decide (v.lo.num<0))),dN v.lo.num.natAbs,dD v.lo.den, .v (.bool (decide (v.hi.num<0))),dN v.hi.num.natAbs,dD v.hi.den, .v (.bool v.nl), .v (.bool v.nh)]
def Yu:eV ar.all= .ag [.v (.bool false), .sl [], .sl [], .v (.bool false), .sl [], .sl [], .v (.bool true), .v (.bool true)]:=by
 unfold eV ar.all dD;simp only[show(0:Rat).num=0 from J,show(0:Rat).den=1 from J,lW,l9];rfl
def Gm:eQ 0= .ag [.v (.bool false), .sl [], .sl []]:=by
 unfold eQ dD;simp only[show(0:Rat).num=0 from J,show(0:Rat).den=1 from J,lW,l9];rfl
def kd(v:ar):Rat:=if v.nl=true/\v.nh=true then 0 else if v.nl=true then v.hi-1 else if v.nh=true then v.lo+1 else(v.lo+v.hi)/2
def Lv:PF GB prog 135 [] (eV ar.all):=by
 refine fn func135 J J ntmps135 J J (fun C=>?_);exact rz J (by rw[Yu];rfl)
def Zx[hl:BQ v.lo i][hh:BQ v.hi i](hi:i<=100000:=by decide):PF GB prog 242 [eV v] (eQ (kd v)):=by
 refine fn func242 J J ntmps242 J J (fun C=>?_);refine iF 6 J J J (fun hg6=>?_) (fun hg6=>?_)
 .
  refine bb J J J (fun hc3=>?_) (fun hc3=>?_)
  .
   exact rz J (by unfold kd;rw[if_pos ⟨hg6,hc3⟩,Gm];rfl)
  .
   refine bb J J J (fun hc11=>?_) (fun hc11=>?_)
   .
    refine cl J (iD (n:=1)) J<|cl J (qO (a:=v.hi) (b:=((1:Int):Rat)) (by omega) (by decide)) J<|rz J (by unfold kd;rw[if_neg (by simp[hc3]),if_pos hc11];rfl)
   .
    refine bb J J J (fun hc18=>?_) (fun hc18=>?_)
    .
     refine cl J (iD (n:=1)) J<|cl J (ml (a:=v.lo) (b:=((1:Int):Rat)) (by omega) (by decide)) J<|rz J (by simp[hg6] at hc11)
    .
     refine cl J (D6 (a:=v.lo) (b:=v.hi) (by omega) (by omega)) J<|rz J (by simp[hg6] at hc11)
 .
  refine bb J J J (fun hc11=>?_) (fun hc11=>?_)
  .
   refine cl J (iD (n:=1)) J<|cl J (qO (a:=v.hi) (b:=((1:Int):Rat)) (by omega) (by decide)) J<|rz J (by simp[hg6] at hc11)
  .
   refine bb J J J (fun hc18=>?_) (fun hc18=>?_)
   .
    refine cl J (iD (n:=1)) J<|cl J (ml (a:=v.lo) (b:=((1:Int):Rat)) (by omega) (by decide)) J<|rz J (by unfold kd;rw[if_neg (by simp[hg6]),if_neg (by simp[hg6]),if_pos hc18];rfl)
   .
    refine cl J (D6 (a:=v.lo) (b:=v.hi) (by omega) (by omega)) J<|rz J (by unfold kd;rw[if_neg (by simp[hg6]),if_neg (by simp[hg6]),if_neg (by simp[hc18])];rfl)
theorem BQ.of_fracI{n D:Int}(hd:0<D.natAbs)(h:q*((D.natAbs:Nat):Rat)=(n:Rat))(hn:BI n i)(hD:BI D i):BQ q i:=BQ.of_frac hd h hn.h hD.h
theorem Cr{m:Int}(h:BI m i)(hij:i<=j:=by decide):BI m j:=⟨cM h.h (bY (by decide) hij)⟩
theorem CT[LB l][LB m](hn:l.Ne)(h:crossI l m≠0):BQ (ja l (cP l m)) 1200:=by
 have e:=asL hn h;have hA:BI (crossI l m*(l.a*l.a+l.b*l.b)) _:=inferInstance;have hB:BI (meetX l m*l.b-meetY l m*l.a) _:=inferInstance;have hne:crossI l m*(l.a*l.a+l.b*l.b)≠0:=by
  intro q;rcases pQ.1 q with q|q
  .exact h q
  .have h1:=Bc hn
   simp only[aa.dir,ah.dot] at h1;have h2:((l.a*l.a+l.b*l.b:Int):Rat)=((0:Int):Rat):=by rw[q]
   rw[lV,cZ,cZ] at h2;have h3:((0:Int):Rat)=0:=J;rw[h3] at h2;grind
 have hA':=Cr (j:=1200) hA;have hB':=Cr (j:=1200) hB;generalize crossI l m*(l.a*l.a+l.b*l.b)=D at*;generalize meetX l m*l.b-meetY l m*l.a=M at*;by_cases hD:0<D
 .refine BQ.of_fracI (n:=M) (D:=D) (by omega) ?_ hB' hA'
  rw[<-e];congr 1;have:((D.natAbs:Nat):Int)=D:=by omega
  rw[<-this];rfl
 .refine BQ.of_fracI (n:= -M) (D:=D) (by omega) ?_ (BI.neg M 1200 (h:=hB')) hA'
  rw[jY,<-e];have:((D.natAbs:Nat):Rat)= -(D:Rat):=by
   have h1:((D.natAbs:Nat):Int)= -D:=by omega
   rw[<-jY,<-h1];rfl
  rw[this];grind
def OA(k:Rat):k.num.sign<=0↔ ¬0<k:=by rw[<-nj];omega
def UN(h1: ¬w.nl=true)(h2: ¬w.nh=true)(h3:0<=bw w.lo w.hi):w.empty=true:=by
 unfold ar.empty;simp[h1,h2,h3]
def am7(h:w.nl=true):w.empty=false:=by unfold ar.empty;simp[h]
def Y0(h:w.nh=true):w.empty=false:=by unfold ar.empty;simp[h]
def anH(h: ¬0<=bw w.lo w.hi):w.empty=false:=by unfold ar.empty;simp[h]
def ge(l:aa):List aa->ar->ar×Bool
 |[],v=>(v,true)
 |m::t,v=>if m=l then ge l t v else if l.cutB v m=true then ge l t (l.cutV v m) else(l.cutV v m,false)
def yb{l:aa}: ∀{c:List aa} {v:ar},(ge l c v).2=(fH l c v).isSome
 |[],v=>rfl
 |m::t,v=>by
  rw[ge,Jq];split
  .exact yb
  .split
   .exact yb
   .rfl
structure jl (l:aa) (c:List aa) (k:Nat) (v:ar):Prop where
 le:k<=c.length
 p:fH l (c.drop k) v=fH l c ar.all
 e:ge l (c.drop k) v=ge l c ar.all
 z:gy v
 lo:BQ v.lo 1200
 hi:BQ v.hi 1200
def jl.skip{c:List aa}(h:jl l c k v)(hk:k<c.length)(e:c[k]=l):jl l c (k+1) v:=
 ⟨hk,by have:=h.p;rw[bX hk,Jq,if_pos e] at this;exact this,by have:=h.e;rw[bX hk,ge,if_pos e] at this;exact this,h.z,h.lo,h.hi⟩
def jl.cut{c:List aa}(h:jl l c k v)(hk:k<c.length)(e:c[k]≠l)(hb:l.cutB v c[k]=true)(hw:l.cutV v c[k]=w)(z:gy w)(lo:BQ w.lo 1200)(hi:BQ w.hi 1200):jl l c (k+1) w:=
 ⟨hk,by have:=h.p;rw[bX hk,Jq,if_neg e,if_pos hb,hw] at this;exact this,by have:=h.e;rw[bX hk,ge,if_neg e,if_pos hb,hw] at this;exact this,z,lo,hi⟩
def jl.no{c:List aa}(h:jl l c k v)(hk:k<c.length)(e:c[k]≠l)(hb:l.cutB v c[k]=false)(hw:l.cutV v c[k]=w):ge l c ar.all=(w,false):=by
 rw[<-h.e,bX hk,ge,if_neg e,if_neg (by rw[hb];decide),hw]
def jl.yes{c:List aa}(h:jl l c k v)(hk:c.length<=k):ge l c ar.all=(v,true):=by
 rw[<-h.e,jZ hk];rfl
def jl.all{l:aa}{c:List aa}:jl l c 0 ar.all:=⟨aM _,by rw[iX],by rw[iX],gy.all,BQ.mono (k:=1) ⟨by decide,by decide⟩,BQ.mono (k:=1) ⟨by decide,by decide⟩⟩
def Kl(h:v.nl=true\/0<bw t v.lo):(⟨t,v.hi,false,v.nh⟩:ar)=oH v t:=by unfold oH;rw[if_pos h]
def XJ(h: ¬v.nl=true)(h2: ¬0<bw t v.lo):v=oH v t:=by unfold oH;rw[if_neg (fun e=>e.elim h h2)]
def MT(h:v.nh=true\/bw t v.hi<0):(⟨v.lo,t,v.nl,false⟩:ar)=oA v t:=by unfold oA;rw[if_pos h]
def aCB(h: ¬v.nh=true)(h2: ¬bw t v.hi<0):v=oA v t:=by unfold oA;rw[if_neg (fun e=>e.elim h h2)]
def oq(l m:aa)(v:ar):ar:=if 0<(m.dir.cross l.dir).num.sign then oH v (ja l (cP l m)) else oA v (ja l (cP l m))
def Fz[LB l][LB m](hn:l.Ne)(hz:gy v)(hlo:BQ v.lo 1200)(hhi:BQ v.hi 1200)(h0:crossI l m≠0):l.cutV v m=oq l m v/\l.cutB v m=!(oq l m v).empty/\gy (oq l m v)/\BQ (oq l m v).lo 1200/\BQ (oq l m v).hi 1200:=by
 have hb:=CT (l:=l) (m:=m) hn h0;unfold oq;split
 .rename_i h
  obtain⟨_,h1,h2⟩:=aDw hn hz ((nj _).1 h);refine⟨h1,h2,hz.lo' _,?_⟩;unfold oH;split
  .exact⟨hb,hhi⟩
  .exact⟨hlo,hhi⟩
 .rename_i h
  obtain⟨h1,h2⟩:=Xb hn hz h0 (fun e=>h ((nj _).2 e));refine⟨h1,h2,hz.hi' _,?_⟩;unfold oA;split
  .exact⟨hlo,hb⟩
  .exact⟨hlo,hhi⟩
theorem ED{l:aa}[LB l](hn:l.Ne): ∀{c:List aa} {v:ar},(∀m∈c,LB m)->gy v->BQ v.lo 1200->BQ v.hi 1200->BQ (ge l c v).1.lo 1200/\BQ (ge l c v).1.hi 1200
 |[],v,_,_,h1,h2=>⟨h1,h2⟩
 |m::t,v,hc,hz,h1,h2=>by
  haveI:=hc m aQ;have hw:gy (l.cutV v m)/\BQ (l.cutV v m).lo 1200/\BQ (l.cutV v m).hi 1200:=by
   by_cases h0:crossI l m=0
   .rw[(At (v:=v) h0).1];exact⟨hz,h1,h2⟩
   .obtain⟨u1,_,u3,u4,u5⟩:=Fz (v:=v) hn hz h1 h2 h0
    rw[u1];exact⟨u3,u4,u5⟩
  have hc':=fun m hm=>hc m (aJ _ hm);rw[ge];split
  .exact ED hn hc' hz h1 h2
  .split
   .exact ED hn hc' hw.1 hw.2.1 hw.2.2
   .exact hw.2
def Nm{c:List aa}(hc: ∀m∈c,LB m)(hok: ∀m∈c,m.ok)(hn:c.length<=1000)(hi:i<c.length):PF GB prog 64 [.sl (c.map eL),vI (i:Nat)] (.tp [eV (ge (c[i]'hi) c ar.all).1,vB (ge (c[i]'hi) c ar.all).2]):=by
 have hcl:=r9 c;obtain⟨l,hl⟩: ∃l,l=c[i]:=⟨_,rfl⟩;rw[<-hl];haveI hlb:LB l:=hl▸hc _ (dX hi);have hlo:l.ok:=hl▸hok _ (dX hi);refine fn func64 J J ntmps64 J J (fun C=>?_);refine ix (fu:=⟨1⟩) _ J (u6 hi) J<|aj 16 (.d (eL l)) J (by rw[hl];rfl)<|gx J<|cl (fu:=⟨9⟩) J Lv J<|aj 19 (.d (vI (c.length:Nat))) J (by rw[hcl];rfl)<|gx J<|lp (X:=ar×Nat) (fun⟨v,k⟩=>[(20, .d (vI (k:Nat))),(19, .d (vI (c.length:Nat))),(18, .d (.sl (c.map eL))),(1, .d (vI (i:Nat))),(6, .ov 6 0),(7, .ov 7 0),(4, .ov 4 0)]) (fun⟨v,k⟩=>[(7,some (.o 134 [.d ((.v (.bool (decide (v.lo.num<0))))), .d (dN v.lo.num.natAbs), .d (dD v.lo.den), .d ((.v (.bool (decide (v.hi.num<0))))), .d (dN v.hi.num.natAbs), .d (dD v.hi.den), .d ((.v (.bool v.nl))), .d ((.v (.bool v.nh)))] true)),(6,some (.o 55 [.d ((.v (.bool (decide (l.a<0))))), .d (dN l.a.natAbs), .d ((.v (.bool (decide (l.b<0))))), .d (dN l.b.natAbs), .d ((.v (.bool (decide (l.c<0))))), .d (dN l.c.natAbs)] true)),(4,some (.o 134 [.ff, .nl, .nl, .ff, .nl, .nl, .ff, .ff] true))]) (fun⟨v,k⟩=>jl l c k v) (fun⟨v,k⟩=>c.length-k) ⟨ar.all,0⟩ J jl.all (fun _=>J) (fun⟨v,k⟩ hk=>?_)
 try dsimp only at hk⊢
 have hS:=hk;refine br J J J (fun hc21=>?_) (fun hc21=>?_)
 .
  have hk:k<c.length:=by omega
  obtain⟨m,hm⟩: ∃m,m=c[k]:=⟨_,rfl⟩;haveI hmb:LB m:=hm▸hc _ (dX hk);have hmo:m.ok:=hm▸hok _ (dX hk);refine ix (fu:=⟨1⟩) _ J (u6 hk) J<|aj 24 (.d (eL m)) J (by rw[hm];rfl)<|gx J<|cs 28 J J J (fun hg28=>?_) (fun hg28=>?_)
  .
   have hinv:jl l c (k+1) v:=hS.skip hk (by rw[hl];congr 1;omega);exact at_ ⟨v,k+1⟩ (by dsimp only;exact⟨hinv,(by omega)⟩)
  .
   refine cl J (Di (l:=l) (m:=m)) J<|br J J J (fun hc33=>?_) (fun hc33=>?_)
   .
    have hinv:jl l c (k+1) v:=hS.skip hk (by rw[<-hm,(Bj l m).1 hc33]);exact at_ ⟨v,k+1⟩ (by dsimp only;exact⟨hinv,(by omega)⟩)
   .
    have hne:c[k]≠l:=fun e=>hc33 ((Bj l m).2 (by rw[hm,e]));refine cl (fu:=⟨13⟩) J (CF (l:=l) (m:=m)) J<|aj 41 (.d (.v (.bool (decide (crossI l m=0))))) J (by simp)<|gx J<|bd J J J (fun hc41=>?_) (fun hc41=>?_)
    .
     refine cl J (y5 hlo.ne) J<|cl J (wP (l:=m) (p:=l.base)) J<|br J J J (fun hc46=>?_) (fun hc46=>?_)
     .
      have hno:=hS.no (w:=v) hk hne (by have:=(At (v:=v) hc41).2;rw[<-hm];cases hb:l.cutB v m with|false=>rfl|true=>exact absurd (this.1 hb) ((OA _).1 hc46)) (by rw[<-hm];exact(At (v:=v) hc41).1);exact rz J (by rw[hno];rfl)
     .
      have hinv:jl l c (k+1) v:=by have:=At (v:=v) hc41;exact hS.cut hk hne (by rw[<-hm];exact this.2.2 (by have:=mt (OA (m.value l.base)).2 hc46;exact Decidable.not_not.1 this)) (by rw[<-hm];exact this.1) hS.z hS.lo hS.hi
      exact at_ ⟨v,k+1⟩ (by dsimp only;exact⟨hinv,(by omega)⟩)
    .
     obtain⟨u1,u2,u3,u4,u5⟩:=Fz (v:=v) hlo.ne hS.z hS.lo hS.hi hc41;haveI htb:=CT hlo.ne hc41;haveI hvl:=hS.lo;haveI hvh:=hS.hi;refine cl (fu:=⟨0⟩) J (CP (l:=l) (p:=cP l m) hlo.ne) J<|?_;obtain⟨t,ht⟩: ∃t,t=ja l (cP l m):=⟨_,rfl⟩;refine aj 50 (.d (eQ t)) J (by rw[ht]) ?_;rw[<-ht] at htb;refine gx (fu:=⟨5⟩) J<|mg (X:=ar) (fun w=>[(20, .d (vI (k:Nat))),(19, .d (vI (c.length:Nat))),(18, .d (.sl (c.map eL))),(1, .d (vI (i:Nat))),(6, .ov 6 0),(7, .ov 7 0),(4, .ov 4 0)]) (fun w=>[(7,some (.o 134 [.d ((.v (.bool (decide (w.lo.num<0))))), .d (dN w.lo.num.natAbs), .d (dD w.lo.den), .d ((.v (.bool (decide (w.hi.num<0))))), .d (dN w.hi.num.natAbs), .d (dD w.hi.den), .d ((.v (.bool w.nl))), .d ((.v (.bool w.nh)))] true)),(6,some (.o 55 [.d ((.v (.bool (decide (l.a<0))))), .d (dN l.a.natAbs), .d ((.v (.bool (decide (l.b<0))))), .d (dN l.b.natAbs), .d ((.v (.bool (decide (l.c<0))))), .d (dN l.c.natAbs)] true)),(4,some (.o 134 [.ff, .nl, .nl, .ff, .nl, .nl, .ff, .ff] true))]) (fun w=>w=oq l m v) [20,19,18,1,6,7,4] [7,6,4] rfl ?_ (fun _=>J) (fun w hw=>?_)
     .
      refine gx J<|cl J (iu (l:=m)) J<|cl J (iu (l:=l)) J<|cl J (pC (p:=m.dir) (q:=l.dir)) J<|cl J (mE (q:=m.dir.cross l.dir)) J<|br J J J (fun hc57=>?_) (fun hc57=>?_)
      .
       refine iF 60 J J J (fun hg60=>?_) (fun hg60=>?_)
       .
        refine Fb 7 J J J<|at_ ⟨t,v.hi,false,v.nh⟩ (by unfold oq;rw[if_pos hc57,<-ht];exact Kl (.inl hg60))
       .
        refine cl J (ki (a:=t) (b:=v.lo)) J<|br J J J (fun hc66=>?_) (fun hc66=>?_)
        .
         refine Fb 7 J J J<|at_ ⟨t,v.hi,false,v.nh⟩ (by unfold oq;rw[if_pos hc57,<-ht];exact Kl (.inr hc66))
        .
         exact at_ v (by unfold oq;rw[if_pos hc57,<-ht];exact XJ (by simp[hg60]) hc66)
      .
       refine iF 72 J J J (fun hg72=>?_) (fun hg72=>?_)
       .
        refine Fb 7 J J J<|at_ ⟨v.lo,t,v.nl,false⟩ (by unfold oq;rw[if_neg hc57,<-ht];exact MT (.inl hg72))
       .
        refine cl J (ki (a:=t) (b:=v.hi)) J<|br J J J (fun hc78=>?_) (fun hc78=>?_)
        .
         refine Fb 7 J J J<|at_ ⟨v.lo,t,v.nl,false⟩ (by unfold oq;rw[if_neg hc57,<-ht];exact MT (.inr hc78))
        .
         exact at_ v (by unfold oq;rw[if_neg hc57,<-ht];exact aCB (by simp[hg72]) hc78)
     .
      rw[<-hw] at u1 u2 u3 u4 u5;haveI:=u4;haveI:=u5;refine iF 85 J J J (fun hg85=>?_) (fun hg85=>?_)
      .
       refine iF 90 J J J (fun hg90=>?_) (fun hg90=>?_)
       .
        refine cl J (ki (a:=w.lo) (b:=w.hi)) J<|br J J J (fun hc97=>?_) (fun hc97=>?_)
        .
         have hno:=hS.no (w:=w) hk hne (by rw[<-hm,u2,UN (by simpa using hg85) (by simpa using hg90) hc97];rfl) (by rw[<-hm,u1]);exact rz J (by rw[hno];rfl)
        .
         have hinv:jl l c (k+1) w:=hS.cut hk hne (by rw[<-hm,u2,anH hc97];rfl) (by rw[<-hm,u1]) u3 u4 u5;exact at_ ⟨w,k+1⟩ (by dsimp only;exact⟨hinv,(by omega)⟩)
       .
        have hinv:jl l c (k+1) w:=hS.cut hk hne (by rw[<-hm,u2,Y0 (by simpa using hg90)];rfl) (by rw[<-hm,u1]) u3 u4 u5;exact at_ ⟨w,k+1⟩ (by dsimp only;exact⟨hinv,(by omega)⟩)
      .
       have hinv:jl l c (k+1) w:=hS.cut hk hne (by rw[<-hm,u2,am7 (by simpa using hg85)];rfl) (by rw[<-hm,u1]) u3 u4 u5;exact at_ ⟨w,k+1⟩ (by dsimp only;exact⟨hinv,(by omega)⟩)
 .
  exact rz J (by rw[hS.yes (by omega)];rfl)
def ck(l:aa):DV:= .ag [vI (du (l.a:Rat)),vI (dt (l.a:Rat)),di (l.a:Rat),vI (du (l.b:Rat)),vI (dt (l.b:Rat)),di (l.b:Rat),vI (du (l.c:Rat)),vI (dt (l.c:Rat)),di (l.c:Rat)]
def eZ(p:ah):DV:= .ag [vI (du p.x),vI (dt p.x),di p.x,vI (du p.y),vI (dt p.y),di p.y]
def eW(v:ar):DV:= .ag [vI (du v.lo),vI (dt v.lo),di v.lo,vI (du v.hi),vI (dt v.hi),di v.hi, .v (.bool v.nl), .v (.bool v.nh)]
def EQ{t:List DV}(h:IsLs G (vI 0::vI 0:: .v (.pointer none)::t) vs):IsLs G (vI (du 0)::vI (dt 0)::di 0::t) vs:=by
 obtain⟨y1,l1,rfl,k1,g1⟩:=bi.1 h;obtain⟨y2,l2,rfl,k2,g2⟩:=bi.1 g1;obtain⟨y3,l3,rfl,k3,g3⟩:=bi.1 g2;have e:decide (gm 0)=false:=decide_eq_false fun h=>I4 h J;exact .cons k1 (.cons k2 (.cons (sE.2 (.inl ⟨e,aH.1 k3⟩)) g3))
def F4(a:List DV){t:List DV}(h:IsLs G (a++vI 0::vI 0:: .v (.pointer none)::t) vs):IsLs G (a++vI (du 0)::vI (dt 0)::di 0::t) vs:=by
 obtain⟨x,y,rfl,h1,h2⟩:=h.unapp;exact h1.app (EQ h2)
def aGy(G:Gh)(y:Value)(k:Is G (.ag [vI 0,vI 0, .v (.pointer none),vI 0,vI 0, .v (.pointer none), .v (.bool true), .v (.bool true)]) y):Is G (eW ar.all) y:=by
 obtain⟨l,rfl,g⟩:=en.1 k;exact en.2 ⟨l,J,EQ (F4 [vI 0,vI 0, .v (.pointer none)] g)⟩
def pd:List Int->Int
 |[]=>0
 |a::t=>if a≠0 then a else pd t
theorem aD.nor(l:aa)[LB l]:aD l.nor 97:=⟨inferInstanceAs (BQ (l.a:Rat) 97),inferInstanceAs (BQ (l.b:Rat) 97)⟩
attribute [instance] aD.nor
instance aD.scale (p:ah) (c:Rat) (i k:Nat) [aD p i] [BQ c k]:aD (p.scale c) (i+k):=⟨inferInstanceAs (BQ (p.x*c) _),inferInstanceAs (BQ (p.y*c) _)⟩
instance aD.add (p q:ah) (i j:Nat) [aD p i] [aD q j]:aD (p.add q) (i+j+1):=⟨inferInstanceAs (BQ (p.x+q.x) _),inferInstanceAs (BQ (p.y+q.y) _)⟩
instance LB.revA (l:aa) [h:LB l]:LB l.rev:=⟨⟨by rw[show l.rev.a= -l.a from J,jT];exact h.bl.a,by rw[show l.rev.b= -l.b from J,jT];exact h.bl.b,by rw[show l.rev.c= -l.c from J,jT];exact h.bl.c⟩⟩
def aIT:PF GB prog 254 [] (eW ar.all):=by
 refine fn func254 J J ntmps254 J J (fun C=>?_);exact jk J aGy
def vu:PF GB prog 123 [ck l] (eZ l.nor):=by
 refine fn func123 J J ntmps123 J J (fun C=>?_);exact rz J J
def wI[hl:LB l]:PF GB prog 197 [ck l] (eZ l.dir):=by
 refine fn func197 J J ntmps197 J J (fun C=>?_);refine cl J (qC (q:=(l.a:Rat))) J<|rz J J
def uW{p q:ah}[hp:aD p i][hq:aD q j](hi:i<=40000000:=by decide)(hj:j<=40000000:=by decide):PF GB prog 132 [eZ p,eZ q] (eF (p.dot q)):=by
 refine fn func132 J J ntmps132 J J (fun C=>?_);refine cl J (oc (p:=p.x) (q:=q.x) (by omega) (by omega)) J<|cl J (oc (p:=p.y) (q:=q.y) (by omega) (by omega)) J<|cl J (qP (p:=p.x*q.x) (q:=p.y*q.y) (by omega) (by omega)) J<|rz J J
def CJ{p q:ah}[hp:aD p i][hq:aD q j](hi:i<=40000000:=by decide)(hj:j<=40000000:=by decide):PF GB prog 219 [eZ p,eZ q] (eF (p.cross q)):=by
 refine fn func219 J J ntmps219 J J (fun C=>?_);refine cl J (oc (p:=p.x) (q:=q.y) (by omega) (by omega)) J<|cl J (oc (p:=p.y) (q:=q.x) (by omega) (by omega)) J<|cl J (py (p:=p.x*q.y) (q:=p.y*q.x) (by omega) (by omega)) J<|rz J J
def N2{p:ah}{c:Rat}[hp:aD p i][hc:BQ c j](hi:i<=40000000:=by decide)(hj:j<=40000000:=by decide):PF GB prog 264 [eZ p,eF c] (eZ (p.scale c)):=by
 refine fn func264 J J ntmps264 J J (fun C=>?_);refine cl J (oc (p:=p.x) (q:=c) (by omega) (by omega)) J<|cl J (oc (p:=p.y) (q:=c) (by omega) (by omega)) J<|rz J J
def Yz{p q:ah}[hp:aD p i][hq:aD q j](hi:i<=40000000:=by decide)(hj:j<=40000000:=by decide):PF GB prog 220 [eZ p,eZ q] (eZ (p.add q)):=by
 refine fn func220 J J ntmps220 J J (fun C=>?_);refine cl J (qP (by omega) (by omega)) J<|cl J (qP (by omega) (by omega)) J<|rz J J
def Ml[hl:LB l]:PF GB prog 257 [ck l] (eZ l.base):=by
 refine fn func257 J J ntmps257 J J (fun C=>?_);refine cl J vu J<|cl J (qC (q:=(l.c:Rat))) J<|cl J (uW (p:=l.nor) (q:=l.nor)) J<|cl J (Bu (p:= -(l.c:Rat)) (q:=l.nor.dot l.nor)) J<|cl J (N2 (p:=l.nor)) J<|rz J J
def RM{p:ah}[hl:LB l][hp:aD p i](hi:i<=10000000:=by decide):PF GB prog 256 [ck l,eZ p] (eF (l.value p)):=by
 refine fn func256 J J ntmps256 J J (fun C=>?_);refine cl J (vu (l:=l)) J<|cl J (uW (p:=l.nor) (q:=p) (by omega) (by omega)) J<|cl J (qP (p:=l.nor.dot p) (q:=(l.c:Rat)) (by omega) (by omega)) J<|rz J J
def Yv{p:ah}[hl:LB l][hp:aD p i](hi:i<=10000000:=by decide):PF GB prog 224 [ck l,eZ p] (vI (l.value p).num.sign):=by
 refine fn func224 J J ntmps224 J J (fun C=>?_);refine cl J (RM (l:=l) (p:=p) hi) J<|cl J (mi (q:=l.value p) (by omega)) J<|rz J J
def Oy[hl:LB l][ht:BQ t i](hi:i<=10000000:=by decide):PF GB prog 204 [ck l,eF t] (eZ (l.at t)):=by
 refine fn func204 J J ntmps204 J J (fun C=>?_);refine cl J (Ml (l:=l)) J<|cl J (wI (l:=l)) J<|cl J (N2 (p:=l.dir) (c:=t) (by omega) (by omega)) J<|cl J (Yz (p:=l.base) (q:=l.dir.scale t) (by omega) (by omega)) J<|rz J J
def Ua[h1:BQ v.lo i][h2:BQ v.hi j](hi:i<=40000000:=by decide)(hj:j<=40000000:=by decide):PF GB prog 299 [eW v] (vB v.empty):=by
 refine fn func299 J J ntmps299 J J (fun C=>?_);refine iF 6 J J J (fun hg6=>?_) (fun hg6=>?_)
 .
  refine iF 11 J J J (fun hg11=>?_) (fun hg11=>?_)
  .
   refine cl J (wH (p:=v.lo) (q:=v.hi) (by omega) (by omega)) J<|rz J (by unfold ar.empty;simp_all [vB,eG])
  .
   exact rz J (by unfold ar.empty;simp_all [vB,eG])
 .
  exact rz J (by unfold ar.empty;simp_all [vB,eG])
instance ar.meet_lo (v w:ar) (i j:Nat) [h1:BQ v.lo i] [h3:BQ w.lo j]:BQ (v.meet w).lo (i+j):=by
 have a:=h1.mono (oU i j);have b:=h3.mono (Nat.le_add_left j i);unfold ar.meet;dsimp only;(repeat' split)<;>assumption
instance ar.meet_hi (v w:ar) (i j:Nat) [h1:BQ v.hi i] [h3:BQ w.hi j]:BQ (v.meet w).hi (i+j):=by
 have a:=h1.mono (oU i j);have b:=h3.mono (Nat.le_add_left j i);unfold ar.meet;dsimp only;(repeat' split)<;>assumption
def QX[h1:BQ v.lo i][h2:BQ v.hi i][h3:BQ w.lo j][h4:BQ w.hi j](hi:i<=10000000:=by decide)(hj:j<=10000000:=by decide):PF GB prog 258 [eW v,eW w] (.tp [eW (v.meet w),vB (!(v.meet w).empty)]):=by
 refine fn (fu:=⟨16⟩) func258 J J ntmps258 J J (fun C=>?_);refine mg (fu:=⟨1⟩) (X:=Unit) (fun _=>[(6, .ov 6 0)]) (fun _=>[(6,some (.o 218 [.d (vI (du (v.meet w).lo)), .d (vI (dt (v.meet w).lo)), .d (di (v.meet w).lo), .d (vI (du v.hi)), .d (vI (dt v.hi)), .d (di v.hi), .d (.v (.bool (v.nl&&w.nl))), .d (.v (.bool (v.nh)))] true))]) (fun _=>True) [6] [6] rfl ?_ (fun _=>J) (fun _ _=>?_)
 .
  refine gx J<|bb (v1:=fun hc8=>by simp only[ak];kernel_rfl) J J J (fun hc8=>?_) (fun hc8=>?_)
  .
   have em:(v.meet w).lo=w.lo:=by unfold ar.meet;simp_all
   have eb:(v.nl&&w.nl)=w.nl:=by simp_all
   exact at_ () trivial (hO:=⟨by rw[em,eb]<;>rfl,by repeat (first|exact trivial|refine And.intro J ?_)⟩)
  .
   refine bb J J J (fun hc17=>?_) (fun hc17=>?_)
   .
    refine cl J (aEK (p:=v.lo) (q:=w.lo) (by omega) (by omega)) J<|?_;have em:(v.meet w).lo=(if v.lo<w.lo then w.lo else v.lo):=by unfold ar.meet;simp_all
    have eb:(v.nl&&w.nl)=v.nl:=by simp_all
    exact at_ () trivial (hO:=⟨by rw[em,eb]<;>rfl,by repeat (first|exact trivial|refine And.intro J ?_)⟩)
   .
    have em:(v.meet w).lo=v.lo:=by unfold ar.meet;simp_all
    have eb:(v.nl&&w.nl)=v.nl:=by simp_all
    exact at_ () trivial (hO:=⟨by rw[em,eb]<;>rfl,by repeat (first|exact trivial|refine And.intro J ?_)⟩)
 .
  refine mg (X:=Unit) (fun _=>[(6, .ov 6 0)]) (fun _=>[(6,some (.o 218 [.d (vI (du (v.meet w).lo)), .d (vI (dt (v.meet w).lo)), .d (di (v.meet w).lo), .d (vI (du (v.meet w).hi)), .d (vI (dt (v.meet w).hi)), .d (di (v.meet w).hi), .d (.v (.bool (v.nl&&w.nl))), .d (.v (.bool (v.nh&&w.nh)))] true))]) (fun _=>True) [6] [6] rfl ?_ (fun _=>J) (fun _ _=>?_)
  .
   refine gx J<|bb (v1:=fun hc27=>by simp only[ak];kernel_rfl) J J J (fun hc27=>?_) (fun hc27=>?_)
   .
    have em:(v.meet w).hi=w.hi:=by unfold ar.meet;simp_all
    have eb:(v.nh&&w.nh)=w.nh:=by simp_all
    exact at_ () trivial (hO:=⟨by rw[em,eb]<;>rfl,by repeat (first|exact trivial|refine And.intro J ?_)⟩)
   .
    refine bb J J J (fun hc36=>?_) (fun hc36=>?_)
    .
     refine cl J (RT (p:=v.hi) (q:=w.hi) (by omega) (by omega)) J<|?_;have em:(v.meet w).hi=(if w.hi<v.hi then w.hi else v.hi):=by unfold ar.meet;simp_all
     have eb:(v.nh&&w.nh)=v.nh:=by simp_all
     exact at_ () trivial (hO:=⟨by rw[em,eb]<;>rfl,by repeat (first|exact trivial|refine And.intro J ?_)⟩)
    .
     have em:(v.meet w).hi=v.hi:=by unfold ar.meet;simp_all
     have eb:(v.nh&&w.nh)=v.nh:=by simp_all
     exact at_ () trivial (hO:=⟨by rw[em,eb]<;>rfl,by repeat (first|exact trivial|refine And.intro J ?_)⟩)
  .
   refine cl J (Ua (v:=v.meet w) (i:=i+j) (j:=i+j) (by omega) (by omega)) J<|rz J J
theorem BQ.z1:BQ (0:Rat) 1:=⟨by decide,by decide⟩
def X8[h1:BQ v.lo i][h2:BQ v.hi i][h3:BQ t j](hi:i<=10000000:=by decide)(hj:j<=9999999:=by decide):PF GB prog 258 [eW v, .ag [vI (du t),vI (dt t),di t,vI 0,vI 0, .v (.pointer none), .v (.bool false), .v (.bool true)]] (.tp [eW (v.meet ⟨t,0,false,true⟩),vB (!(v.meet ⟨t,0,false,true⟩).empty)]):=
 (QX (v:=v) (w:=⟨t,0,false,true⟩) (j:=j+1) (h3:=h3.mono (by omega)) (h4:=BQ.z1.mono (by omega)) hi (by omega)).ofI fun G vs hv=>Hf (fun y hy=>by
  obtain⟨l,rfl,g⟩:=en.1 hy;exact en.2 ⟨l,J,F4 [_,_,_] g⟩) hv
def Z3[h1:BQ v.lo i][h2:BQ v.hi i][h3:BQ t j](hi:i<=10000000:=by decide)(hj:j<=9999999:=by decide):PF GB prog 258 [eW v, .ag [vI 0,vI 0, .v (.pointer none),vI (du t),vI (dt t),di t, .v (.bool true), .v (.bool false)]] (.tp [eW (v.meet ⟨0,t,true,false⟩),vB (!(v.meet ⟨0,t,true,false⟩).empty)]):=
 (QX (v:=v) (w:=⟨0,t,true,false⟩) (j:=j+1) (h4:=h3.mono (by omega)) (h3:=BQ.z1.mono (by omega)) hi (by omega)).ofI fun G vs hv=>Hf (fun y hy=>by
  obtain⟨l,rfl,g⟩:=en.1 hy;exact en.2 ⟨l,J,EQ g⟩) hv
instance BQ.cutK (l m:aa) [LB l] [LB m]:BQ (l.cutK m) 400:=BQ.mono (inferInstance:BQ (m.nor.dot l.dir) _)
instance BQ.cutC (l m:aa) [LB l] [LB m]:BQ (l.cutC m) 2500:=BQ.mono (inferInstance:BQ (m.value l.base) _)
def Kk[hl:LB l][hm:LB m][h1:BQ v.lo i][h2:BQ v.hi i](hi:i<=10000000:=by decide):PF GB prog 193 [ck l,eW v,ck m] (.tp [eW (l.cutV v m),vB (l.cutB v m)]):=by
 refine fn func193 J J ntmps193 J J (fun C=>?_);refine cl J (vu (l:=m)) J<|cl J (wI (l:=l)) J<|cl J (uW (p:=m.nor) (q:=l.dir)) J<|cl J (Ml (l:=l)) J<|cl J (RM (l:=m) (p:=l.base)) J<|cl J (mi (q:=l.cutK m)) J<|br J J J (fun hc21=>?_) (fun hc21=>?_)
 .
  refine cl J (mi (q:=l.cutC m)) J<|rz J (by unfold aa.cutV aa.cutB;rw[if_pos hc21,if_pos hc21];rfl)
 .
  refine br J J J (fun hc27=>?_) (fun hc27=>?_)
  .
   refine cl J (Bu (p:=l.cutC m) (q:=l.cutK m)) J<|cl J (qC (q:=l.cutC m/l.cutK m)) J<|cl J (X8 (v:=v) (t:= -(l.cutC m/l.cutK m)) hi) J<|rz J (by unfold aa.cutB aa.cutV;rw[if_neg hc21,if_neg hc21,if_pos hc27];rfl)
  .
   refine cl J (Bu (p:=l.cutC m) (q:=l.cutK m)) J<|cl J (qC (q:=l.cutC m/l.cutK m)) J<|cl J (Z3 (v:=v) (t:= -(l.cutC m/l.cutK m)) hi) J<|rz J (by unfold aa.cutB aa.cutV;rw[if_neg hc21,if_neg hc21,if_neg hc27];rfl)
def MI[h1:BQ v.lo i][h2:BQ v.hi i](hi:i<=10000000:=by decide):PF GB prog 205 [eW v] (eF v.sample):=by
 refine fn func205 J J ntmps205 J J (fun C=>?_);refine iF 6 J J J (fun hg6=>?_) (fun hg6=>?_)
 .
  refine bb J J J (fun hc3=>?_) (fun hc3=>?_)
  .
   exact jk J (by unfold ar.sample;rw[hg6,hc3];exact Dc)
  .
   refine bb J J J (fun hc11=>?_) (fun hc11=>?_)
   .
    refine cl J (wG (m:=1)) J<|cl J (py (p:=v.hi) (q:=((1:Int):Rat)) (by omega) (by decide)) J<|rz J (by unfold ar.sample;simp_all [eG]<;>rfl)
   .
    refine bb J J J (fun hc18=>?_) (fun hc18=>?_)
    .
     refine cl J (wG (m:=1)) J<|cl J (qP (p:=v.lo) (q:=((1:Int):Rat)) (by omega) (by decide)) J<|rz J (by unfold ar.sample;simp_all [eG]<;>rfl)
    .
     refine cl J (qP (p:=v.lo) (q:=v.hi) (by omega) (by omega)) J<|cl J (Ov (q:=v.lo+v.hi) (by omega)) J<|rz J (by unfold ar.sample;simp_all [eG]<;>rfl)
 .
  refine bb J J J (fun hc11=>?_) (fun hc11=>?_)
  .
   refine cl J (wG (m:=1)) J<|cl J (py (p:=v.hi) (q:=((1:Int):Rat)) (by omega) (by decide)) J<|rz J (by unfold ar.sample;simp_all [eG]<;>rfl)
  .
   refine bb J J J (fun hc18=>?_) (fun hc18=>?_)
   .
    refine cl J (wG (m:=1)) J<|cl J (qP (p:=v.lo) (q:=((1:Int):Rat)) (by omega) (by decide)) J<|rz J (by unfold ar.sample;simp_all [eG]<;>rfl)
   .
    refine cl J (qP (p:=v.lo) (q:=v.hi) (by omega) (by omega)) J<|cl J (Ov (q:=v.lo+v.hi) (by omega)) J<|rz J (by unfold ar.sample;simp_all [eG]<;>rfl)
instance BQ.i1':BQ (1:Rat) 2:=⟨by decide,by decide⟩
instance BQ.i2':BQ (2:Rat) 2:=⟨by decide,by decide⟩
theorem QW[BQ v.lo i][BQ v.hi i]:BQ (kd v) (i+i+5):=by
 unfold kd;split
 .exact BQ.mono (k:=1) ⟨by decide,by decide⟩ (by omega)
 .split
  .exact BQ.mono (inferInstance:BQ (v.hi-1) _) (by omega)
  .split
   .exact BQ.mono (inferInstance:BQ (v.lo+1) _) (by omega)
   .exact BQ.mono (inferInstance:BQ ((v.lo+v.hi)/2) _) (by omega)
instance aD.at (l:aa) (t:Rat) (k:Nat) [LB l] [BQ t k]:aD (l.at t) (900+(k+97)+1):=by
 rw[<-wW];infer_instance
def Z4(h: ¬q.num.sign=0):q≠0:=fun e=>h ((o9 q).2 e)
def gP(d:ah):ah:=⟨-d.y,d.x⟩
instance aD.turn (d:ah) (k:Nat) [aD d k]:aD (gP d) k:=⟨inferInstanceAs (BQ (-d.y) k),inferInstanceAs (BQ d.x k)⟩
def uq(p v:ah)(m:aa):Rat:= -(m.value p/(m.value (cF p v ((1:Int):Rat))-m.value p))
def tn(p v:ah)(m:aa)(s:Rat):Rat:=if(m.value (cF p v ((1:Int):Rat))-m.value p).num.sign=0 then s else if(m.value p).num.sign=0 then s else if 0<(uq p v m).num.sign then(if bw (uq p v m/2) s<0 then uq p v m/2 else s) else s
def rF(p v:ah):List aa->Rat->Rat
 |[],s=>s
 |m::t,s=>rF p v t (tn p v m s)
def Fe(c:List aa)(p v:ah):ah:=cF p v (rF p v c ((1:Int):Rat))
def A6{c:List aa}{p v:ah}{r:Rat}(h:rF p v (c.drop k) s=r)(hk:k<c.length)(hm:m=c[k])(e:tn p v m s=s'):rF p v (c.drop (k+1)) s'=r:=by
 rw[bX hk] at h;rw[<-h,rF,<-hm,e]
def T8{c:List aa}{p v:ah}(hc: ∀m∈c,LB m)(hn:c.length<=1000)(hp:aD p 4500)(hv:aD v 97):PF GB prog 240 [.sl (c.map eL),eP p,eP v] (eP (Fe c p v)):=by
 have hcl:=r9 c;refine fn func240 J J ntmps240 J J (fun C=>?_);refine cl (fu:=⟨9⟩) J (iD (n:=1)) J<|aj 14 (.d (vI (c.length:Nat))) J (by rw[hcl];rfl)<|gx J<|lp (X:=Rat×Nat) (fun⟨s,k⟩=>[(15, .d (vI (k:Nat))),(14, .d (vI (c.length:Nat))),(13, .d (.sl (c.map eL))),(4, .ov 4 0),(5, .ov 5 0),(7, .ov 7 0),(6, .ov 6 0)]) (fun⟨s,k⟩=>[(7,some (.o 50 [.d ((.v (.bool (decide (s.num<0))))), .d (dN s.num.natAbs), .d (dD s.den)] true)),(6,some (.o 53 [.ff, .nl, .nl, .ff, .nl, .nl] true)),(5,some (.o 53 [.d ((.v (.bool (decide (v.x.num<0))))), .d (dN v.x.num.natAbs), .d (dD v.x.den), .d ((.v (.bool (decide (v.y.num<0))))), .d (dN v.y.num.natAbs), .d (dD v.y.den)] true)),(4,some (.o 53 [.d ((.v (.bool (decide (p.x.num<0))))), .d (dN p.x.num.natAbs), .d (dD p.x.den), .d ((.v (.bool (decide (p.y.num<0))))), .d (dN p.y.num.natAbs), .d (dD p.y.den)] true))]) (fun⟨s,k⟩=>k<=c.length/\BQ s 60000/\rF p v (c.drop k) s=rF p v c ((1:Int):Rat)) (fun⟨s,k⟩=>c.length-k) ⟨((1:Int):Rat),0⟩ J ⟨aM _,BQ.i1.mono (by decide),J⟩ (fun _=>J) (fun⟨s,k⟩ hk=>?_)
 try dsimp only at hk⊢
 obtain⟨hle,hsb,hns⟩:=hk;refine br J J J (fun hc16=>?_) (fun hc16=>?_)
 .
  have hk:k<c.length:=by omega
  obtain⟨m,hm⟩: ∃m,m=c[k]:=⟨_,rfl⟩;haveI hmb:LB m:=hm▸hc _ (dX hk);have hinv:=hsb;refine ix (fu:=⟨1⟩) _ J (u6 hk) J<|aj 18 (.d (eL m)) J (by rw[hm];rfl)<|gx J<|cl J (iD (n:=1)) J<|cl J (sB (p:=p) (q:=v) (c:=((1:Int):Rat))) J<|cl J (E1 (l:=m) (p:=cF p v ((1:Int):Rat))) J<|cl J (E1 (l:=m) (p:=p)) J<|cl J (qO (a:=m.value (cF p v ((1:Int):Rat))) (b:=m.value p)) J<|cl J (mE (q:=m.value (cF p v ((1:Int):Rat))-m.value p)) J<|cs 32 J J J (fun hg32=>?_) (fun hg32=>?_)
  .
   exact at_ ⟨s,k+1⟩ (by dsimp only;exact⟨⟨by omega,hinv,(A6 hns hk hm (by unfold tn;rw[if_pos hg32]))⟩,(by omega)⟩)
  .
   refine cl J (wP (l:=m) (p:=p)) J<|br J J J (fun hc37=>?_) (fun hc37=>?_)
   .
    exact at_ ⟨s,k+1⟩ (by dsimp only;exact⟨⟨by omega,hinv,(A6 hns hk hm (by unfold tn;rw[if_neg hg32,if_pos hc37]))⟩,(by omega)⟩)
   .
    refine cl J (E1 (l:=m) (p:=p)) J<|cl J (wD (a:=m.value p) (b:=m.value (cF p v ((1:Int):Rat))-m.value p) (Z4 hg32)) J<|cl J (nE (q:=m.value p/(m.value (cF p v ((1:Int):Rat))-m.value p))) J<|cl (fu:=⟨0⟩) J (mE (q:= -(m.value p/(m.value (cF p v ((1:Int):Rat))-m.value p)))) J<|jD (v2:=fun hg46=>by simp only[ak];exact⟨by kernel_rfl,by omega⟩) J J J J (fun hg46=>?_) (fun hg46=>?_)
    .
     refine cl J (Jf (a:= -(m.value p/(m.value (cF p v ((1:Int):Rat))-m.value p)))) J<|cl J (ki (a:= -(m.value p/(m.value (cF p v ((1:Int):Rat))-m.value p))/2) (b:=s)) J<|br J J J (fun hc53=>?_) (fun hc53=>?_)
     .
      obtain⟨t,ht⟩: ∃t,t= -(m.value p/(m.value (cF p v ((1:Int):Rat))-m.value p)):=⟨_,rfl⟩;haveI htb:BQ t 45000:=ht▸BQ.mono inferInstance;have hinv:BQ (t/2) 60000:=BQ.mono inferInstance;rw[<-ht];refine cl J (Jf (a:=t)) J<|at_ ⟨t/2,k+1⟩ (by dsimp only;exact⟨⟨by omega,hinv,(A6 hns hk hm (by unfold tn;rw[if_neg hg32,if_neg hc37,show uq p v m=t from ht.symm,if_pos (by rw[ht];exact hg46),if_pos (by rw[ht];exact hc53)]))⟩,(by omega)⟩)
     .
      exact at_ ⟨s,k+1⟩ (by dsimp only;exact⟨⟨by omega,hinv,(A6 hns hk hm (by unfold tn;rw[if_neg hg32,if_neg hc37,if_pos (show 0<(uq p v m).num.sign from hg46),if_neg (show¬bw (uq p v m/2) s<0 from hc53)]))⟩,(by omega)⟩)
    .
     exact at_ ⟨s,k+1⟩ (by dsimp only;exact⟨⟨by omega,hinv,(A6 hns hk hm (by unfold tn;rw[if_neg hg32,if_neg hc37,if_neg (show¬0<(uq p v m).num.sign from hg46)]))⟩,(by omega)⟩)
 .
  refine cl J (sB (p:=p) (q:=v) (c:=s)) J<|rz J (by unfold Fe;rw[<-hns,jZ (by omega)];rfl)
def jB(c:List aa):List aa->ah
 |[]=>⟨0,0⟩
 |m::t=>if(ge m c ar.all).2=true then Fe c (m.at (kd (ge m c ar.all).1)) (gP m.dir) else jB c t
def asO{c:List aa}(h:jB c (c.drop k)=jB c c)(hk:k<c.length)(hm:m=c[k])(e:(ge m c ar.all).2=true):jB c c=Fe c (m.at (kd (ge m c ar.all).1)) (gP m.dir):=by
 rw[<-h,bX hk,jB,<-hm,if_pos e]
def Zd{c:List aa}(h:jB c (c.drop k)=jB c c)(hk:k<c.length)(hm:m=c[k])(e: ¬(ge m c ar.all).2=true):jB c (c.drop (k+1))=jB c c:=by
 rw[<-h,bX hk,jB,<-hm,if_neg e]
def Z9{c:List aa}(h:m∈c)(h2:(fH m c ar.all).isSome=true):lg c=true:=by
 unfold lg;rw[fN,iR];exact .inr ⟨m,h,h2⟩
def UE{c:List aa}(h:c=[]):lg c=true:=by subst h;rfl
def Z0{c:List aa}(h:c≠[])(h2: ∀m∈c,(fH m c ar.all).isSome=false):lg c=false:=by
 rw[<-jR];unfold lg;rw[fN,iR,pM];rintro (e|⟨m,h3,h4⟩)
 .exact h e
 .rw[h2 m h3] at h4;exact absurd h4 (by decide)
def Np:eP ⟨0,0⟩= .ag [.v (.bool false), .sl [], .sl [], .v (.bool false), .sl [], .sl []]:=by
 unfold eP dD;simp only[show(0:Rat).num=0 from J,show(0:Rat).den=1 from J,lW,l9];rfl
def H0{c:List aa}(hc: ∀m∈c,LB m)(hok: ∀m∈c,m.ok)(hn:c.length<=1000):PF GB prog 175 [.sl (c.map eL)] (.tp [eP (jB c c),vB (lg c)]):=by
 have hcl:=r9 c;refine fn func175 J J ntmps175 J J (fun C=>?_);refine br (fu2:=⟨7⟩) J J J (fun hc11=>?_) (fun hc11=>?_)
 .
  exact rz J (by rw[cV (l:=c) (by omega),UE J];show _=DV.tp [eP ⟨0,0⟩,_];rw[Np];rfl)
 .
  refine aj 14 (.d (vI (c.length:Nat))) J (by rw[hcl];rfl)<|gx J<|lp (X:=Nat) (fun k=>[(15, .d (vI (k:Nat))),(14, .d (vI (c.length:Nat))),(13, .d (.sl (c.map eL))),(0, .d (.sl (c.map eL))),(2, .ov 2 0)]) (fun k=>[(2,some (.o 53 [.ff, .nl, .nl, .ff, .nl, .nl] true))]) (fun k=>k<=c.length/\(∀m∈c.take k,(fH m c ar.all).isSome=false)/\jB c (c.drop k)=jB c c) (fun k=>c.length-k) 0 J ⟨aM _,fun m hm=>absurd hm (by simp),J⟩ (fun _=>J) (fun k hk=>?_);obtain⟨hle,hno,hip⟩:=hk;refine br J J J (fun hc16=>?_) (fun hc16=>?_)
  .
   have hk:k<c.length:=by omega
   obtain⟨m,hm⟩: ∃m,m=c[k]:=⟨_,rfl⟩;haveI hmb:LB m:=hm▸hc _ (dX hk);have hmo:m.ok:=hm▸hok _ (dX hk);refine ix (fu:=⟨1⟩) _ J (u6 hk) J<|aj 19 (.d (eL m)) J (by rw[hm];rfl)<|gx J<|cl (fu:=⟨0⟩) J (Nm hc hok hn hk) J<|aj 23 (.d (.tp [eV (ge m c ar.all).1,vB (ge m c ar.all).2])) J (by rw[hm])<|gx J<|bb J J J (fun hc26=>?_) (fun hc26=>?_)
   .
    have hbd:=ED (v:=ar.all) hmo.ne hc gy.all (BQ.mono (k:=1) ⟨by decide,by decide⟩) (BQ.mono (k:=1) ⟨by decide,by decide⟩);obtain⟨s,hs⟩: ∃s,s=(ge m c ar.all).1:=⟨_,rfl⟩;rw[<-hs] at hbd;haveI:=hbd.1;haveI:=hbd.2;haveI hsb:=QW (v:=s) (i:=1200);have hpt:aD (m.at (kd s)) 4500:=by have:=aD.at m (kd s) (1200+1200+5);exact⟨this.x.mono (by decide),this.y.mono (by decide)⟩
    have hin:lg c=true:=Z9 (hm▸dX hk) (by rw[<-yb];exact hc26);have hpn:=asO hip hk hm hc26;rw[<-hs] at hpn⊢;refine cl J (iu (l:=m)) J<|cl J (Zx (v:=s)) J<|cl J (Su (l:=m) (t:=kd s) hmo.ne) J<|cl J (nE (q:=m.dir.y)) J<|cl J (T8 (p:=m.at (kd s)) (v:=gP m.dir) hc hn (hpt) inferInstance) J<|rz J (by rw[hin,hpn];rfl)
   .
    exact at_ (k+1) ⟨⟨by omega,VZ hno hk (by rw[<-hm,<-yb];exact hc26),Zd hip hk hm (by rw[hc26];decide)⟩,(by omega)⟩
  .
   exact rz J (by rw[Z0 (fun e=>hc11 (by rw[e];rfl)) (fun m hm=>hno m (by rw[cX (by omega)];exact hm)),<-hip,jZ (by omega)];show _=DV.tp [eP ⟨0,0⟩,_];rw[Np];rfl)
end Go.Sx
end
