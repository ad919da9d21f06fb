import Derived.Test.YtidmgdlbilojcaaGreatDoorMa11
set_option linter.all false
set_option maxHeartbeats 4000000
set_option maxRecDepth 100000
section
namespace Go.Sx
open Go Go.Proofs Tryz
variable {GB:Gh}
def Ka{m:Int}{g:Nat}(hg:(g:Int)∣m)(hb:m.natAbs<4611686018427387904):IntKind.i64.wrap (m.tdiv g)=m/g:=by
 rw[Int.tdiv_eq_ediv_of_dvd hg];have:=nK m g;exact Xj (by omega)
def tm(a b:Int):Int:=if(a*b).natAbs<4611686018427387904 then a*b else 0
def HT(a b:Int):(tm a b).natAbs<4611686018427387904:=by unfold tm;split<;>omega
def AQ{a b:Int}(h:(a*b).natAbs<4611686018427387904):tm a b=a*b:=if_pos h
def Pb{a b:Int}(h: ¬(a*b).natAbs<4611686018427387904):DV.tp [vI 0, .v (.bool false)]= .tp [vI (tm a b),vB (decide ((a*b).natAbs<4611686018427387904))]:=by unfold tm;rw[if_neg h,decide_eq_false h];rfl
def RI{a b:Int}{x:Int}(h:(a*b).natAbs<4611686018427387904)(e:x=a*b):DV.tp [vI x, .v (.bool true)]= .tp [vI (tm a b),vB (decide ((a*b).natAbs<4611686018427387904))]:=by unfold tm;rw[if_pos h,decide_eq_true h,e];rfl
def Kw(n:Nat):eI (n:Int)= .ag [.v (.bool false),dN n]:=by unfold eI;rw[decide_eq_false (by omega),iN]
def Vz{p q:Rat}(hp:p.den=1)(hq:q.den=1):rgcd p q=((Nat.gcd p.num.natAbs q.num.natAbs:Nat):Int):=by
 conv=>lhs;rw[D1 hp,D1 hq]
 exact zd _ _
def Wi(q:Rat):mkRat (zv (decide (q.num<0)) q.den) q.num.natAbs=q⁻¹:=by
 rw[Rat.inv_def];by_cases h:q.num<0
 ·rw[decide_eq_true h];exact amF h
 ·rw[decide_eq_false h,<-Rat.divInt_ofNat,nY (by omega)];rfl
instance BQ.inv (q:Rat) (i:Nat) [h:BQ q i]:BQ q⁻¹ i:=by
 have h1:=h.hn;have h2:=h.hd;have h3:=q.den_nz;rcases rT q.num 0 with k|k|k
 ·obtain⟨e1,e2⟩:=Qx k;exact⟨by omega,by omega⟩
 ·have e:q=0:=pQ.1 k
  have e0:(0:Rat)⁻¹=0:=Rat.inv_zero;rw[e] at h1 h2⊢;rw[e0];exact⟨h1,h2⟩
 ·obtain⟨e1,e2⟩:=Kf k;exact⟨by omega,by omega⟩
instance BQ.half:BQ (mkRat 1 2) 2:=⟨by decide,by decide⟩
def YK{x y:Nat}(hx:x<18446744073709551616)(hy:y<18446744073709551616):PF GB prog 212 [.v (.int .u64 (x:Nat)), .v (.int .u64 (y:Nat))] (.tp [.v (.int .u64 ((x*y/18446744073709551616:Nat):Int)), .v (.int .u64 ((x*y%18446744073709551616:Nat):Int))]):=fun G vs _ hv=>by
 obtain⟨v,m,rfl,h1,h2⟩:=aH.1 hv;obtain⟨u,m',rfl,h3,h4⟩:=aH.1 h2
 cases er.1 h4
 rw[aD.1 h1,aD.1 h3];exact(XA hx hy).mono fun v G' _ h=>by subst h;exact jt.2 ⟨_,J, .cons (aD.2 J) (.cons (aD.2 J) .nil)⟩
def Ml{a b:Nat}(ha:a<18446744073709551616)(hb:b<18446744073709551616):PF GB prog 214 [.v (.int .u64 (a:Nat)), .v (.int .u64 (b:Nat))] (.v (.int .u64 (Nat.gcd a b:Nat))):=by
 refine fn func214 J J ntmps214 J J (fun C=>?_);refine lp (X:=Nat×Nat) (fun⟨u,v⟩=>[(1, .d (.v (.int .u64 (v:Nat)))),(0, .d (.v (.int .u64 (u:Nat))))]) (fun⟨u,v⟩=>[]) (fun⟨u,v⟩=>u<18446744073709551616/\v<18446744073709551616/\Nat.gcd u v=Nat.gcd a b) (fun⟨u,v⟩=>v) (a,b) J ⟨ha,hb,J⟩ (fun _=>J) (fun⟨u,v⟩ hk=>?_);dsimp only at hk⊢;obtain⟨h1,h2,h3⟩:=hk;refine br (v1:=fun hc6=>by simp only[ac];exact⟨by omega,by kernel_rfl⟩) J J J (fun hc6=>?_) (fun hc6=>?_)
 .
  have hm:=dQ u (show 0<v by omega);exact at_ (v,u%v) (by dsimp only;exact⟨⟨h2,by omega,by rw[<-h3,jZ u v,tJ v u,jZ]⟩,hm⟩)
 .
  exact rz J (by rw[<-h3,show v=0 by omega,mM];rfl)
def qp{m:Int}(h:m.natAbs<9223372036854775808):PF GB prog 134 [vI m] (eF (m:Rat)):=by
 refine fn func134 J J ntmps134 J J (fun C=>?_);refine cs 5 J J J (fun hg5=>?_) (fun hg5=>?_)
 .
  refine cl J (F6 (m:=m) (by omega) (by omega)) J<|rf (fu:=⟨0⟩) J J<|?_;refine aj 11 (.d (dN 1)) J (by unfold dN;rw[Ar];rfl) ?_;refine gx J<|cl J (vz (n:=decide (m<0)) (a:=m.natAbs) (i:=63) (h:=⟨h⟩) (d:=1)) J<|?_;exact rz J (by rw[mD,show mkRat m 1=(m:Rat) from sX ..];rfl)
 .
  refine br J J J (fun hc8=>?_) (fun hc8=>?_)
  .
   refine cl J (F6 (m:=m) (by omega) (by omega)) J<|rf (fu:=⟨0⟩) J J<|?_;refine aj 11 (.d (dN 1)) J (by unfold dN;rw[Ar];rfl) ?_;refine gx J<|cl J (vz (n:=decide (m<0)) (a:=m.natAbs) (i:=63) (h:=⟨h⟩) (d:=1)) J<|?_;exact rz J (by rw[mD,show mkRat m 1=(m:Rat) from sX ..];rfl)
  .
   exact jn J (RK (by omega))
def Ay{a b:Int}(ha:a.natAbs<4611686018427387904)(hb:b.natAbs<4611686018427387904):PF GB prog 157 [vI a,vI b] (.tp [vI (tm a b),vB (decide ((a*b).natAbs<4611686018427387904))]):=by
 have hab:=jK a b;refine fn func157 J J ntmps157 J J (fun C=>?_);refine cl J (yU (m:=a) (by omega)) J<|cl J (yU (m:=b) (by omega)) J<|cl J (YK (x:=a.natAbs) (y:=b.natAbs) (by omega) (by omega)) J<|?_;refine cs 18 J J J (fun hg18=>?_) (fun hg18=>?_)
 .
  exact rz J (Pb (by omega))
 .
  refine br J J J (fun hc21=>?_) (fun hc21=>?_)
  .
   exact rz J (Pb (by omega))
  .
   refine bb J J J (fun hc26=>?_) (fun hc26=>?_)
   .
    have hs:=J4 a b;rw[if_neg (by simpa using hc26)] at hs;exact rz J (RI (by omega) (by rw[hs,<-hab];omega))
   .
    have hs:=J4 a b;rw[if_pos (by simpa using hc26)] at hs;exact rz J (RI (by omega) (by rw[hs,<-hab];omega))
def Mq{m:Int}{d:Nat}(h:m.natAbs<4611686018427387904)(h0:0<d)(hd:d<4611686018427387904):PF GB prog 158 [vI m,vI (d:Nat)] (eF (mkRat m d)):=by
 have hg:Nat.gcd m.natAbs d<=d:=Nat.gcd_le_right _ h0;have hg0:0<Nat.gcd m.natAbs d:=qT _ h0;obtain⟨e1,e2⟩:=O' (m:=m) h0;have e3:=nK m (Nat.gcd m.natAbs d:Nat);have e4:=kR d (Nat.gcd m.natAbs d);have e5:=Nat.div_pos hg hg0;refine fn func158 J J ntmps158 J J (fun C=>?_);refine cl J (yU (m:=m) (by omega)) J<|cl J (Ml (a:=m.natAbs) (b:=d) (by omega) (by omega)) J<|?_;refine br (fu1:=⟨4⟩) J J J (fun hc13=>?_) (fun hc13=>?_)
 .
  refine aj 16 (.d (vI (m/(Nat.gcd m.natAbs d:Nat)))) J (by rw[Ka (Int.dvd_natAbs.1 (rV.2 (mS _ _))) h];rfl) ?_;refine gx (fu:=⟨3⟩) J<|?_;refine aj 19 (.d (vI ((d/Nat.gcd m.natAbs d:Nat)))) J (by rw[Ka (rV.2 (nU _ _)) (by rw[iN];exact hd)];rfl) ?_;refine gx (hv:=by simp only[ac];exact⟨by kernel_rfl,by omega⟩) J<|?_;exact jn J (tL (fun k=>k ⟨by rw[e1];omega,by rw[e2];omega⟩) e1 (by rw[e2]) J)
 .
  exact jn J (by have h1:Nat.gcd m.natAbs d=1:=(by omega);rw[h1,tK] at e2;rw[h1,Int.natCast_one,Int.ediv_one] at e1;exact tL (fun k=>k ⟨by rw[e1];omega,by rw[e2];omega⟩) e1 (by rw[e2]) J)
def gD{p q:Rat}{i j:Nat}[h:BQ p i][k:BQ q j](hi:i<=100000000:=by decide)(hj:j<=100000000:=by decide):PF GB prog 121 [eF p,eF q] (eF (p*q)):=by
 refine fn (fu:=⟨8⟩) func121 J J ntmps121 J J (fun C=>?_);refine mg (X:=Unit) (fun _=>[(2, .ov 2 0),(3, .ov 3 0),(4, .ov 4 0)]) (fun _=>[(2,some (.o 96 [.d (vI (ce p)), .d (vI (cg p)), .d (co p)] true)),(3,some (.o 96 [.d (vI (ce q)), .d (vI (cg q)), .d (co q)] true)),(4,some (.o 96 [.d (.v (.int .i64 0)), .d (.v (.int .i64 0)), .d (.v (.pointer none))] true))]) (fun _=>True) [2,3,4] [2,3,4] rfl ?_ (fun _=>J) (fun _ _=>?_)
 .
  refine gx J<|?_;refine cs 12 J J J (fun hg12=>?_) (fun hg12=>?_)
  .
   refine br (fu1:=⟨4⟩) J J J (fun hc16=>?_) (fun hc16=>?_)
   .
    have hp:=s9 hg12;have hq:=s9 hc16;have p1:=nF hp;have p2:=pO hp;have p3:=qO hp;have p4:=qq hp;have p5:=p.den_nz;have q1:=nF hq;have q2:=pO hq;have q3:=qO hq;have q4:=qq hq;have q5:=q.den_nz;refine aj 19 (.d (vI p.num)) J (by rw[p1]) ?_;refine gx (fu:=⟨2⟩) J<|?_;refine aj 21 (.d (vI q.num)) J (by rw[q1]) ?_;refine gx J<|cl (fu:=⟨12⟩) J (Ay (a:=p.num) (b:=q.num) (by omega) (by omega)) J<|?_;refine aj 28 (.d (vI (p.den:Nat))) J (by congr 3;omega) ?_;refine gx (fu:=⟨3⟩) J<|?_;refine aj 31 (.d (vI (q.den:Nat))) J (by congr 3;omega) ?_;refine gx J<|cl J (Ay (a:=(p.den:Nat)) (b:=(q.den:Nat)) (by omega) (by omega)) J<|?_;refine csd 36 J J J (fun hg36=>?_) (fun hg36=>?_)
    .
     refine bd (fu1:=⟨3⟩) J J J (fun hc38=>?_) (fun hc38=>?_)
     .
      have hd1:p.den*q.den<4611686018427387904:=by omega
      refine aj 39 (.d (vI (p.num*q.num))) J (by rw[AQ hg36]) ?_;refine gx (fu:=⟨1⟩) J<|?_;refine aj 40 (.d (vI ((p.den*q.den:Nat)))) J (by rw[AQ hc38];rfl) ?_;refine gx J<|cl J (Mq (m:=p.num*q.num) (d:=p.den*q.den) hg36 (iJ (by omega) (by omega)) hd1) J<|?_;exact rz J (by rw[<-zY];rfl)
     .
      exact at_ () trivial
    .
     exact at_ () trivial
   .
    exact at_ () trivial
  .
   exact at_ () trivial
 .
  refine cl J (rh (q:=p) (by omega)) J<|cl J (rh (q:=q) (by omega)) J<|cl J (Ey (a:=p.num) (b:=q.num) (by omega) (by omega)) J<|?_;refine cl J (qH (q:=p) (by omega)) J<|cl J (qH (q:=q) (by omega)) J<|cl J (xl (a:=p.den) (b:=q.den) (by omega) (by omega)) J<|?_;refine cl J (vz (n:=decide (p.num*q.num<0)) (a:=(p.num*q.num).natAbs) (d:=p.den*q.den) (i:=i+j) (j:=i+j) (by omega) (by omega)) J<|?_;exact rz J (by rw[mD,<-zY];rfl)
def kg{p q:Rat}{i j:Nat}[h:BQ p i][k:BQ q j](hi:i<=100000000:=by decide)(hj:j<=100000000:=by decide):PF GB prog 98 [eF p,eF q] (eF (p+q)):=by
 refine fn (fu:=⟨8⟩) func98 J J ntmps98 J J (fun C=>?_);refine mg (X:=Unit) (fun _=>[(2, .ov 2 0),(3, .ov 3 0),(4, .ov 4 0)]) (fun _=>[(2,some (.o 96 [.d (vI (ce p)), .d (vI (cg p)), .d (co p)] true)),(3,some (.o 96 [.d (vI (ce q)), .d (vI (cg q)), .d (co q)] true)),(4,some (.o 96 [.d (.v (.int .i64 0)), .d (.v (.int .i64 0)), .d (.v (.pointer none))] true))]) (fun _=>True) [2,3,4] [2,3,4] rfl ?_ (fun _=>J) (fun _ _=>?_)
 .
  refine gx J<|?_;refine cs 16 J J J (fun hg16=>?_) (fun hg16=>?_)
  .
   refine br (fu1:=⟨1⟩) J J J (fun hc20=>?_) (fun hc20=>?_)
   .
    have hp:=s9 hg16;have hq:=s9 hc20;have p1:=nF hp;have p2:=pO hp;have p3:=qO hp;have p4:=qq hp;have p5:=p.den_nz;have q1:=nF hq;have q2:=pO hq;have q3:=qO hq;have q4:=qq hq;have q5:=q.den_nz;refine mg (fu:=⟨4⟩) (X:=Unit) (fun _=>[(2, .ov 2 0),(3, .ov 3 0),(4, .ov 4 0)]) (fun _=>[(2,some (.o 96 [.d (vI (ce p)), .d (vI (cg p)), .d (co p)] true)),(3,some (.o 96 [.d (vI (ce q)), .d (vI (cg q)), .d (co q)] true)),(4,some (.o 96 [.d (.v (.int .i64 0)), .d (.v (.int .i64 0)), .d (.v (.pointer none))] true))]) (fun _=>True) [2,3,4] [2,3,4] rfl ?_ (fun _=>J) (fun _ _=>?_)
    .
     refine gx J<|?_;refine cs 24 J J J (fun hg24=>?_) (fun hg24=>?_)
     .
      refine br (fu1:=⟨4⟩) J J J (fun hc28=>?_) (fun hc28=>?_)
      .
       refine aj 30 (.d (vI p.num)) J (by rw[p1]) ?_;refine gx (fu:=⟨2⟩) J<|?_;refine aj 32 (.d (vI q.num)) J (by rw[q1]) ?_;refine gx J<|cl J (qp (m:=p.num+q.num) (by omega)) J<|?_;exact rz J (by rw[D1 (q:=p) (by omega),D1 (q:=q) (by omega),<-pZ];rfl)
      .
       exact at_ () trivial
     .
      exact at_ () trivial
    .
     refine aj 37 (.d (vI p.num)) J (by rw[p1]) ?_;refine gx (fu:=⟨3⟩) J<|?_;refine aj 40 (.d (vI (q.den:Nat))) J (by congr 3;omega) ?_;refine gx J<|cl (fu:=⟨11⟩) J (Ay (a:=p.num) (b:=(q.den:Nat)) (by omega) (by omega)) J<|?_;refine aj 46 (.d (vI q.num)) J (by rw[q1]) ?_;refine gx (fu:=⟨3⟩) J<|?_;refine aj 49 (.d (vI (p.den:Nat))) J (by congr 3;omega) ?_;refine gx J<|cl (fu:=⟨12⟩) J (Ay (a:=q.num) (b:=(p.den:Nat)) (by omega) (by omega)) J<|?_;refine aj 56 (.d (vI (p.den:Nat))) J (by congr 3;omega) ?_;refine gx (fu:=⟨3⟩) J<|?_;refine aj 59 (.d (vI (q.den:Nat))) J (by congr 3;omega) ?_;refine gx J<|cl (fu:=⟨3⟩) J (Ay (a:=(p.den:Nat)) (b:=(q.den:Nat)) (by omega) (by omega)) J<|?_;have t1:=HT p.num (q.den:Nat);have t2:=HT q.num (p.den:Nat);have t3:=HT (p.den:Nat) (q.den:Nat);refine gx J<|?_;refine csd 67 J J J (fun hg67=>?_) (fun hg67=>?_)
     .
      refine csd 70 J J J (fun hg70=>?_) (fun hg70=>?_)
      .
       refine csd 73 J J J (fun hg73=>?_) (fun hg73=>?_)
       .
        refine cs 77 J J J (fun hg77=>?_) (fun hg77=>?_)
        .
         refine br (fu1:=⟨3⟩) J J J (fun hc80=>?_) (fun hc80=>?_)
         .
          have u1:=AQ hg67;have u2:=AQ hg70;have u3:=AQ hg73;have hd1:p.den*q.den<4611686018427387904:=by omega
          refine aj 81 (.d (vI (p.num*(q.den:Nat)+q.num*(p.den:Nat)))) J (by rw[u1,u2];rfl) ?_;refine gx (fu:=⟨1⟩) J<|?_;refine aj 82 (.d (vI ((p.den*q.den:Nat)))) J (by rw[u3];rfl) ?_;refine gx J<|cl J (Mq (m:=p.num*(q.den:Nat)+q.num*(p.den:Nat)) (d:=p.den*q.den) (by omega) (iJ (by omega) (by omega)) hd1) J<|?_;exact rz J (by rw[<-Am];rfl)
         .
          exact at_ () trivial
        .
         exact at_ () trivial
       .
        exact at_ () trivial
      .
       exact at_ () trivial
     .
      exact at_ () trivial
   .
    exact at_ () trivial
  .
   exact at_ () trivial
 .
  refine cl J (rh (q:=p) (by omega)) J<|cl (fu:=⟨1⟩) J (qH (q:=q) (by omega)) J<|?_;refine aj 88 (.d (eI (q.den:Nat))) J (by rw[Kw]) ?_;refine gx J<|cl J (Ey (a:=p.num) (b:=(q.den:Nat)) (by omega) (by omega)) J<|cl J (rh (q:=q) (by omega)) J<|cl (fu:=⟨1⟩) J (qH (q:=p) (by omega)) J<|?_;refine aj 94 (.d (eI (p.den:Nat))) J (by rw[Kw]) ?_;refine gx J<|cl J (Ey (a:=q.num) (b:=(p.den:Nat)) (by omega) (by omega)) J<|cl J (aFJ (a:=p.num*(q.den:Nat)) (b:=q.num*(p.den:Nat)) (i:=i+j) (j:=j+i) (by omega) (by omega)) J<|?_;refine cl J (qH (q:=p) (by omega)) J<|cl J (qH (q:=q) (by omega)) J<|cl J (xl (a:=p.den) (b:=q.den) (by omega) (by omega)) J<|?_;refine cl J (vz (n:=decide (p.num*(q.den:Nat)+q.num*(p.den:Nat)<0)) (a:=(p.num*(q.den:Nat)+q.num*(p.den:Nat)).natAbs) (d:=p.den*q.den) (i:=i+j+(j+i)+1) (j:=i+j) (by omega) (by omega)) J<|?_;exact rz J (by rw[mD,<-Am];rfl)
def uN{p q:Rat}{i j:Nat}[h:BQ p i][k:BQ q j](hi:i<=100000000:=by decide)(hj:j<=100000000:=by decide):PF GB prog 197 [eF p,eF q] (eF (p-q)):=by
 refine fn func197 J J ntmps197 J J (fun C=>?_);refine cl J (uY (q:=q) (by omega)) J<|cl J (kg (p:=p) (q:= -q) (by omega) (by omega)) J<|?_;exact rz J (by rw[<-Rat.sub_eq_add_neg];rfl)
def aE8{q:Rat}{i:Nat}[h:BQ q i](hi:i<=400000000:=by decide):PF GB prog 85 [eF q] (eF q⁻¹):=by
 refine fn func85 J J ntmps85 J J (fun C=>?_);refine br (v1:=fun hc3=>by simp only[ac];exact⟨⟨hc3,hc3⟩,hc3⟩) J J J (fun hc3=>?_) (fun hc3=>?_)
 .
  refine cl J (vz (n:=decide (q.num<0)) (a:=q.den) (d:=q.num.natAbs) (by omega) (by omega)) J<|?_;exact rz J (by rw[Wi];rfl)
 .
  have q1:=nF (o8 hc3);have q2:=pO (o8 hc3);have q3:=qO (o8 hc3);have q4:=qq (o8 hc3);have q5:=q.den_nz;refine br J J J (fun hc26=>?_) (fun hc26=>?_)
  .
   exact jn rfl (by obtain⟨e1,e2⟩:=Qx (q:=q) (by omega);exact tL (fun k=>k ⟨by omega,by omega⟩) (by omega) (by omega) rfl)
  .
   refine br J J J (fun hc39=>?_) (fun hc39=>?_)
   .
    exact jn J (by rw[pQ.1 (show q.num=0 by omega),Rat.inv_zero];exact AS)
   .
    exact jn rfl (by obtain⟨e1,e2⟩:=Kf (q:=q) (by omega);exact tL (fun k=>k ⟨by omega,by omega⟩) (by omega) (by omega) rfl)
def xT{p q:Rat}{i j:Nat}[h:BQ p i][k:BQ q j](hi:i<=100000000:=by decide)(hj:j<=100000000:=by decide):PF GB prog 135 [eF p,eF q] (eF (p/q)):=by
 refine fn func135 J J ntmps135 J J (fun C=>?_);refine cl J (aE8 (q:=q) (by omega)) J<|cl J (gD (p:=p) (q:=q⁻¹) (by omega) (by omega)) J<|?_;exact rz J (by rw[Rat.div_def];rfl)
def Rv{G:Gh}{q r:DV}{t:List DV}{vs:List Value}(h: ∀y,Is G r y->Is G q y)(hv:IsLs G (r::t) vs):IsLs G (q::t) vs:=by
 obtain⟨y,m,rfl,h1,h2⟩:=aH.1 hv;exact .cons (h _ h1) h2
def IM{G:Gh}{a q r:DV}{t:List DV}{vs:List Value}(h: ∀y,Is G r y->Is G q y)(hv:IsLs G (a::r::t) vs):IsLs G (a::q::t) vs:=by
 obtain⟨y,m,rfl,h1,h2⟩:=aH.1 hv;exact .cons h1 (Rv h h2)
def Ti{q:Rat}{i:Nat}[h:BQ q i](hi:i<=100000000:=by decide):PF GB prog 121 [eF q, .ag [vI 1,vI 1, .v (.pointer none)]] (eF (q*mkRat 1 2)):=
 (gD (p:=q) (q:=mkRat 1 2) hi).ofI fun G vs hv=>IM (fun y hy=>tL (q:=mkRat 1 2) (fun k=>k ⟨by decide,by decide⟩) (by decide) (by decide) J G y hy) hv
def EO{q:Rat}{i:Nat}[h:BQ q i](hi:i<=100000000:=by decide):PF GB prog 99 [eF q] (eF (q*mkRat 1 2)):=by
 refine fn func99 J J ntmps99 J J (fun C=>?_);refine cl J (Ti (q:=q) (by omega)) J<|?_;exact rz J J
def vG{p q:Rat}{i j:Nat}[h:BQ p i][k:BQ q j](hi:i<=100000000:=by decide)(hj:j<=100000000:=by decide):PF GB prog 148 [eF p,eF q] (vI (bm p q)):=by
 refine fn func148 J J ntmps148 J J (fun C=>?_);refine cs 8 J J J (fun hg8=>?_) (fun hg8=>?_)
 .
  refine cs 13 J J J (fun hg13=>?_) (fun hg13=>?_)
  .
   refine br J J J (fun hc19=>?_) (fun hc19=>?_)
   .
    have hp:=s9 hg8;have hq:=s9 hg13;have p1:=nF hp;have p2:=pO hp;have p3:=qO hp;have p4:=qq hp;have p5:=p.den_nz;have q1:=nF hq;have q2:=pO hq;have q3:=qO hq;have q4:=qq hq;have q5:=q.den_nz;have hl:=Kk (a:=p) (b:=q) (by omega);have hr:=Kk (a:=q) (b:=p) (by omega);unfold bm;refine br J J J (fun hc20=>?_) (fun hc20=>?_)
    .
     exact rz J (by rw[if_pos (hl.2 (by omega))];rfl)
    .
     refine br J J J (fun hc26=>?_) (fun hc26=>?_)
     .
      exact rz J (by rw[if_neg (fun e=>by have:=hl.1 e;omega),if_pos (hr.2 (by omega))];rfl)
     .
      exact rz J (by rw[if_neg (fun e=>by have:=hl.1 e;omega),if_neg (fun e=>by have:=hr.1 e;omega)];rfl)
   .
    refine cl J (uN (p:=p) (q:=q) (by omega) (by omega)) J<|cl J (po (q:=p-q) (by omega)) J<|?_;exact rz J (by rw[Ck];rfl)
  .
   refine cl J (uN (p:=p) (q:=q) (by omega) (by omega)) J<|cl J (po (q:=p-q) (by omega)) J<|?_;exact rz J (by rw[Ck];rfl)
 .
  refine cl J (uN (p:=p) (q:=q) (by omega) (by omega)) J<|cl J (po (q:=p-q) (by omega)) J<|?_;exact rz J (by rw[Ck];rfl)
def DG{p q:Rat}{i j:Nat}[h:BQ p i][k:BQ q j](hi:i<=100000000:=by decide)(hj:j<=100000000:=by decide):PF GB prog 224 [eF p,eF q] (vB (decide (p=q))):=by
 refine fn func224 J J ntmps224 J J (fun C=>?_);refine cl J (vG (p:=p) (q:=q) hi hj) J<|?_;exact rz J (by show DV.v (.bool (decide _))= .v (.bool _);congr 2;exact decide_eq_decide.2 (tw p q))
def YT{p q:Rat}{i j:Nat}[h:BQ p i][k:BQ q j](hi:i<=100000000:=by decide)(hj:j<=100000000:=by decide):PF GB prog 83 [eF p,eF q] (eF (if p<q then q else p)):=by
 refine fn func83 J J ntmps83 J J (fun C=>?_);refine cl J (vG (p:=q) (q:=p) hj hi) J<|?_;refine br J J J (fun hc8=>?_) (fun hc8=>?_)
 .
  exact rz J (by rw[if_pos ((LW q p).1 hc8)];rfl)
 .
  exact rz J (by rw[if_neg (fun e=>hc8 ((LW q p).2 e))];rfl)
def Vd{p q:Rat}{i j:Nat}[h:BQ p i][k:BQ q j](hi:i<=100000000:=by decide)(hj:j<=100000000:=by decide):PF GB prog 82 [eF p,eF q] (eF (if q<p then q else p)):=by
 refine fn func82 J J ntmps82 J J (fun C=>?_);refine cl J (vG (p:=q) (q:=p) hj hi) J<|?_;refine br J J J (fun hc8=>?_) (fun hc8=>?_)
 .
  exact rz J (by rw[if_pos ((Qv q p).1 hc8)];rfl)
 .
  exact rz J (by rw[if_neg (fun e=>hc8 ((Qv q p).2 e))];rfl)
def vd{p q:Rat}{i j:Nat}[h:BQ p i][k:BQ q j](hi:i<=100000000:=by decide)(hj:j<=100000000:=by decide):PF GB prog 223 [eF p,eF q] (eF (rgcd p q)):=by
 refine fn (fu:=⟨8⟩) func223 J J ntmps223 J J (fun C=>?_);refine mg (X:=Unit) (fun _=>[(2, .ov 2 0),(3, .ov 3 0),(4, .ov 4 0)]) (fun _=>[(2,some (.o 96 [.d (vI (ce p)), .d (vI (cg p)), .d (co p)] true)),(3,some (.o 96 [.d (vI (ce q)), .d (vI (cg q)), .d (co q)] true)),(4,some (.o 96 [.d (.v (.int .i64 0)), .d (.v (.int .i64 0)), .d (.v (.pointer none))] true))]) (fun _=>True) [2,3,4] [2,3,4] rfl ?_ (fun _=>J) (fun _ _=>?_)
 .
  refine gx J<|?_;refine cs 10 J J J (fun hg10=>?_) (fun hg10=>?_)
  .
   refine cs 15 J J J (fun hg15=>?_) (fun hg15=>?_)
   .
    have hp:=s9 hg10;have hq:=s9 hg15;have p1:=nF hp;have p2:=pO hp;have p3:=qO hp;have p4:=qq hp;have p5:=p.den_nz;have q1:=nF hq;have q2:=pO hq;have q3:=qO hq;have q4:=qq hq;have q5:=q.den_nz;refine cs 20 J J J (fun hg20=>?_) (fun hg20=>?_)
    .
     refine br (fu1:=⟨4⟩) J J J (fun hc24=>?_) (fun hc24=>?_)
     .
      have hg:=WM p3 q3;refine aj 26 (.d (vI p.num)) J (by rw[p1]) ?_;refine gx J<|cl (fu:=⟨2⟩) J (yU (m:=p.num) (by omega)) J<|?_;refine aj 29 (.d (vI q.num)) J (by rw[q1]) ?_;refine gx J<|cl J (yU (m:=q.num) (by omega)) J<|cl (hv:=by simp only[ac];exact⟨by omega,by kernel_rfl⟩) J (Ml (a:=p.num.natAbs) (b:=q.num.natAbs) (by omega) (by omega)) J<|?_;exact jn J (by rw[Vz (p:=p) (q:=q) (by omega) (by omega)];exact RK (by rw[iN];exact hg))
     .
      exact at_ () trivial
    .
     exact at_ () trivial
   .
    exact at_ () trivial
  .
   exact at_ () trivial
 .
  refine cl J (qH (q:=p) (by omega)) J<|cl J (qH (q:=q) (by omega)) J<|cl J (xl (a:=p.den) (b:=q.den) (by omega) (by omega)) J<|?_;refine cl J (rh (q:=p) (by omega)) J<|cl J (qH (q:=q) (by omega)) J<|cl J (xl (a:=p.num.natAbs) (b:=q.den) (by omega) (by omega)) J<|?_;refine cl J (rh (q:=q) (by omega)) J<|cl J (qH (q:=p) (by omega)) J<|cl J (xl (a:=q.num.natAbs) (b:=p.den) (by omega) (by omega)) J<|?_;refine cl J (MZ (a:=p.num.natAbs*q.den) (b:=q.num.natAbs*p.den) (i:=i+j) (j:=j+i) (by omega) (by omega)) J<|cl J (vz (n:=false) (a:=Nat.gcd (p.num.natAbs*q.den) (q.num.natAbs*p.den)) (d:=p.den*q.den) (i:=i+j+(j+i)) (j:=i+j) (by omega) (by omega)) J<|?_;exact rz J J

def cT:Tr->List DV
 | .leaf b=>[.v (.bool true), .v (.bool b), .v (.bool false), .sl [], .v (.bool false), .sl [], .v (.bool false), .sl [], .v (.pointer none), .v (.pointer none)]
 | .node l x y=>[.v (.bool false), .v (.bool false), .v (.bool (decide (l.a<0))),dN l.a.natAbs, .v (.bool (decide (l.b<0))),dN l.b.natAbs, .v (.bool (decide (l.c<0))),dN l.c.natAbs, .pt (cT x), .pt (cT y)]
def eT(t:Tr):DV:= .pt (cT t)
def eN(n:NQ):DV:= .ag [.v (.bool (decide (n.l.a<0))),dN n.l.a.natAbs, .v (.bool (decide (n.l.b<0))),dN n.l.b.natAbs, .v (.bool (decide (n.l.c<0))),dN n.l.c.natAbs, .v (.int .i64 n.a), .v (.int .i64 n.b)]
def eA(t:Tr):DV:= .ag [.v (.int .i64 (t.num 0)), .sl ((t.wr 0).map eN)]
def yj{G:Gh}{k:Nat}{z:IV}{m:Int}(h:mr k G z m):Is G (.v (.bool (decide (m<0)))) (.bool z.neg)/\Is G (dN m.natAbs) (.slice z.a.a z.a.n z.a.c):=
 ⟨aD.2 (by rw[h.neg]),(Gp h.abs.lt).2 ⟨_,J,h.abs⟩⟩
def Fx{G:Gh}{k:Nat}{m:Int}{u v:Value}(hm:m.natAbs<2^k)(h1:Is G (.v (.bool (decide (m<0)))) u)(h2:Is G (dN m.natAbs) v): ∃z:IV,u= .bool z.neg/\v= .slice z.a.a z.a.n z.a.c/\mr k G z m:=by
 obtain⟨x,rfl,hx⟩:=(Gp hm).1 h2;exact⟨⟨decide (m<0),x⟩,aD.1 h1,J,J,hx⟩
structure BL (l:aa) (k:Nat):Prop where
 a:l.a.natAbs<2^k
 b:l.b.natAbs<2^k
 c:l.c.natAbs<2^k
def VX{G:Gh}{k:Nat}{l:aa}{v:Value}(hl:BL l k)(h:Is G (eL l) v): ∃a b c:IV,v= .agg ⟨[.bool a.neg, .slice a.a.a a.a.n a.a.c, .bool b.neg, .slice b.a.a b.a.n b.a.c, .bool c.neg, .slice c.a.a c.a.n c.a.c]⟩/\mr k G a l.a/\mr k G b l.b/\mr k G c l.c:=by
 obtain⟨m,rfl,g⟩:=d7.1 h;clear h;obtain⟨v1,m,rfl,h1,h⟩:=aH.1 g;obtain⟨v2,m,rfl,h2,h⟩:=aH.1 h;obtain⟨v3,m,rfl,h3,h⟩:=aH.1 h;obtain⟨v4,m,rfl,h4,h⟩:=aH.1 h;obtain⟨v5,m,rfl,h5,h⟩:=aH.1 h;obtain⟨v6,m,rfl,h6,h⟩:=aH.1 h;rw[er] at h;subst h;obtain⟨a,rfl,rfl,ha⟩:=Fx hl.a h1 h2;obtain⟨b,rfl,rfl,hb⟩:=Fx hl.b h3 h4;obtain⟨c,rfl,rfl,hc⟩:=Fx hl.c h5 h6;exact⟨a,b,c,J,ha,hb,hc⟩
def V6{G:Gh}{k:Nat}{n:NQ}{z:ND}(h:sr k G z n):Is G (eN n) z.val:=by
 refine d7.2 ⟨_,J, .cons (yj h.a).1 (.cons (yj h.a).2 (.cons (yj h.b).1 (.cons (yj h.b).2 (.cons (yj h.c).1 (.cons (yj h.c).2 (.cons (aD.2 ?_) (.cons (aD.2 ?_) .nil)))))))⟩
 ·rw[h.l]
 ·rw[h.r]
def Rm{G:Gh}{k:Nat}: ∀{ns:List NQ} {zs:List ND},gk (sr k G) zs ns->IsLs G (ns.map eN) (zs.map ND.val)
 |_,_, .nil=> .nil
 |_,_, .cons h t=> .cons (V6 h) (Rm t)
def TJ(ns:List NQ):cI 8 (ns.map eN):=fun d hd=>by
 obtain⟨n,_,rfl⟩:=bV.1 hd;exact⟨rfl,rfl⟩
def Zw{G:Gh}{k:Nat}{t:Tr}{x:SV}(h:SO k G x (t.wr 0)):Is G (eA t) (.agg ⟨[.int .i64 (t.num 0), .slice x.a x.n x.c]⟩):=by
 obtain⟨zs,h1,h2⟩:=h;exact d7.2 ⟨_,J, .cons (aD.2 J) (.cons (iH.2 ⟨8,x,_,J,h1,Rm h2⟩) .nil)⟩
def Tr.all_wr{p:aa->Prop}: ∀{t:Tr} (n:Nat),t.all p-> ∀x∈t.wr n,p x.l
 | .leaf b,n,_,x,hx=>by cases hx
 | .node l u v,n,⟨h1,h2,h3⟩,x,hx=>by
  simp only[Tr.wr,iV,aY,bW] at hx;rcases hx with rfl|hx|hx
  ·exact h1
  ·exact u.all_wr _ h2 x hx
  ·exact v.all_wr _ h3 x hx
structure LS (l:aa):Prop where
 ok:l.ok
 a:l.a.natAbs<=4
 b:l.b.natAbs<=4
 c:l.c.natAbs<=40000
def wn{xs:List aa}{i:Nat}(h:i<xs.length):(xs.map eL)[(i:Int).toNat]? =some (eL xs[i]):=by simp[h]
def vT(xs:List aa):(xs.map eL).length=xs.length:=aK ..
def TV{α:Type}{xs:List α}{i:Nat}{p:α->Prop}(h: ∀x∈xs.take i,p x)(hi:i<xs.length)(hy:p xs[i]): ∀x∈xs.take (i+1),p x:=by
 intro x hx;rw[fS hi] at hx;simp only[bW,aW] at hx;rcases hx with hx|rfl
 ·exact h x hx
 ·exact hy
def Sd{a b:Int}(h:decide (a<0)=decide (b<0)):decide (a.natAbs=b.natAbs)=decide (a=b):=by
 have h':a<0↔b<0:=by simpa using h
 exact decide_eq_decide.2 ⟨fun e=>by omega,fun e=>by rw[e]⟩
def aa.ext'{l m:aa}(h1:l.a=m.a)(h2:l.b=m.b)(h3:l.c=m.c):l=m:=by cases l;cases m;simp_all
instance:DecidableEq NQ:=fun x y=>decidable_of_iff (x.l=y.l/\x.a=y.a/\x.b=y.b) (by
 cases x;cases y;simp)
def gu(ls:List aa):cI 6 (ls.map eL):=fun d hd=>by
 obtain⟨n,_,rfl⟩:=bV.1 hd;exact⟨rfl,rfl⟩
def aCj{a b:Nat}(hl:(dg a).length=(dg b).length)(h: ∀j,j<(dg a).length->(dg a).getD j 0=(dg b).getD j 0):a=b:=by
 have e:dg a=dg b:=by
  apply List.ext_getElem hl;intro i h1 h2;have:=h i h1;rw[aX,aX,aZ h1,aZ h2] at this;exact this
 rw[<-cd a,e,cd]
def jo{z:Int}:PF GB prog 257 [eI z] (eQ (z:Rat)):=by
 refine fn func257 J J ntmps257 J J (fun C=>?_);exact rz J (by rw[Bd];rfl)
def yN{l:aa}:PF GB prog 93 [eL l] (eL l.rev):=by
 refine fn func93 J J ntmps93 J J (fun C=>?_);refine cl J Ad J<|cl J Ad J<|cl J Ad J<|?_;exact rz J J
def J8{a b i j:Nat}[ha:BN a i][hb:BN b j](hi:i<=400000000:=by decide):PF GB prog 124 [dN a,dN b] (vB (decide (a=b))):=by
 have hla:=fi (dg a);have hlb:=fi (dg b);have hba:=lB ha.h;refine fn func124 J J ntmps124 J J (fun C=>?_);refine br (fu2:=⟨7⟩) J J J (fun hc10=>?_) (fun hc10=>?_)
 .
  exact rz J (by rw[decide_eq_false (fun e:a=b=>hc10 (by rw[e]))];rfl)
 .
  refine aj 12 (.d (vI ((dg a).length:Nat))) J (by rw[hla];rfl) ?_;refine gx J<|?_;refine lp (X:=Nat) (fun i=>[(13, .d (vI (i:Nat))),(12, .d (vI ((dg a).length:Nat))),(0, .d (dN a)),(1, .d (dN b))]) (fun i=>[]) (fun i=>i<=(dg a).length/\ ∀j,j<i->(dg a).getD j 0=(dg b).getD j 0) (fun i=>(dg a).length-i) 0 J ⟨bJ _,fun j hj=>absurd hj (by omega)⟩ (fun _=>J) (fun i hk=>?_);obtain⟨h1,h2⟩:=hk;refine br J J J (fun hc14=>?_) (fun hc14=>?_)
  .
   refine ix _ J (mH (by omega)) J<|ix _ J (mH (by omega)) J<|?_;refine br J J J (fun hc24=>?_) (fun hc24=>?_)
   .
    exact rz J (by rw[decide_eq_false (fun e:a=b=>hc24 (by rw[e]))];rfl)
   .
    exact at_ (i+1) ⟨⟨by omega,fun j hj=>by by_cases q:j=i;(subst q;omega);exact h2 j (by omega)⟩,(by omega)⟩
  .
   exact rz J (by rw[decide_eq_true (aCj (by omega) (fun j hj=>h2 j (by omega)))];rfl)
def ZV{a b:Int}{i j:Nat}[ha:BI a i][hb:BI b j](hi:i<=400000000:=by decide):PF GB prog 123 [eI a,eI b] (vB (decide (a=b))):=by
 refine fn (fu:=⟨14⟩) func123 J J ntmps123 J J (fun C=>?_);refine aj 9 (.d (.v (.bool (decide (decide (a<0)=decide (b<0)))))) J (by congr 2) ?_;refine gx J<|?_;refine csd 10 J J J (fun hg10=>?_) (fun hg10=>?_)
 .
  refine cl J (J8 (by omega)) J<|?_;exact rz J (by show DV.v (.bool _)=DV.v (.bool _);rw[<-Sd hg10])
 .
  exact rz J (by rw[decide_eq_false (fun e:a=b=>hg10 (by rw[e]))];rfl)
class LB (l:aa):Prop where bl:BL l 96
instance LB.a (l:aa) [h:LB l]:BI l.a 96:=⟨h.bl.a⟩
instance LB.b (l:aa) [h:LB l]:BI l.b 96:=⟨h.bl.b⟩
instance LB.c (l:aa) [h:LB l]:BI l.c 96:=⟨h.bl.c⟩
class aO (p:ab) (k:outParam Nat):Prop where
 x:BQ p.x k
 y:BQ p.y k
instance aO.ix (p:ab) (k:Nat) [h:aO p k]:BQ p.x k:=h.x
instance aO.iy (p:ab) (k:Nat) [h:aO p k]:BQ p.y k:=h.y
instance aO.dir (l:aa) [LB l]:aO l.dir 97:=⟨inferInstanceAs (BQ (l.b:Rat) 97),inferInstanceAs (BQ (-(l.a:Rat)) 97)⟩
instance BQ.dot (p q:ab) (i j:Nat) [aO p i] [aO q j]:BQ (p.dot q) (i+j+(i+j)+1):=inferInstanceAs (BQ (p.x*q.x+p.y*q.y) _)
instance BQ.cross (p q:ab) (i j:Nat) [aO p i] [aO q j]:BQ (p.cross q) (i+j+(i+j)+1):=inferInstanceAs (BQ (p.x*q.y-p.y*q.x) _)
instance aO.mov (p q:ab) (c:Rat) (i j k:Nat) [aO p i] [aO q j] [BQ c k]:aO (ck p q c) (i+(k+j)+1):=⟨inferInstanceAs (BQ (p.x+c*q.x) _),inferInstanceAs (BQ (p.y+c*q.y) _)⟩
instance BQ.value (l:aa) (p:ab) (i:Nat) [LB l] [aO p i]:BQ (l.value p) (96+1+i+(96+1+i)+1+(96+1)+1):=inferInstanceAs (BQ ((l.a:Rat)*p.x+(l.b:Rat)*p.y+(l.c:Rat)) _)
def NU{l:aa}(h:l.Ne):l.dir.dot l.dir≠0:=by have:=AT h;grind
def uD{l:aa}:PF GB prog 206 [eL l] (eP l.dir):=by
 refine fn func206 J J ntmps206 J J (fun C=>?_);refine cl J jo J<|cl J jo J<|cl J wF J<|?_;exact rz J J
def Hf{p q:ab}{i j:Nat}[hp:aO p i][hq:aO q j](hi:i<=200000:=by decide)(hj:j<=200000:=by decide):PF GB prog 277 [eP p,eP q] (eQ (p.dot q)):=by
 refine fn func277 J J ntmps277 J J (fun C=>?_);refine cl J (i6 (by omega) (by omega)) J<|cl J (i6 (by omega) (by omega)) J<|cl J (oD (by omega) (by omega)) J<|?_;exact rz J J
def Cx{p q:ab}{i j:Nat}[hp:aO p i][hq:aO q j](hi:i<=200000:=by decide)(hj:j<=200000:=by decide):PF GB prog 155 [eP p,eP q] (eQ (p.cross q)):=by
 refine fn func155 J J ntmps155 J J (fun C=>?_);refine cl J (i6 (by omega) (by omega)) J<|cl J (i6 (by omega) (by omega)) J<|cl J (tD (by omega) (by omega)) J<|?_;exact rz J J
def yq{p q:ab}{c:Rat}{i j k:Nat}[hp:aO p i][hq:aO q j][hc:BQ c k](hi:i<=19000000:=by decide)(hj:j<=9000000:=by decide)(hk:k<=9000000:=by decide):PF GB prog 22 [eP p,eQ c,eP q] (eP (ck p q c)):=by
 refine fn func22 J J ntmps22 J J (fun C=>?_);refine cl J (i6 (by omega) (by omega)) J<|cl J (oD (by omega) (by omega)) J<|cl J (i6 (by omega) (by omega)) J<|cl J (oD (by omega) (by omega)) J<|?_;exact rz J J
def B5{l:aa}{p:ab}{i:Nat}[hl:LB l][hp:aO p i](hi:i<=400000:=by decide):PF GB prog 258 [eL l,eP p] (eQ (l.value p)):=by
 refine fn func258 J J ntmps258 J J (fun C=>?_);refine cl J (jo (z:=l.a)) J<|cl J (i6 (by omega) (by omega)) J<|cl J (jo (z:=l.b)) J<|cl J (i6 (by omega) (by omega)) J<|?_;refine cl J (oD (by omega) (by omega)) J<|cl J (jo (z:=l.c)) J<|cl J (oD (by omega) (by omega)) J<|?_;exact rz J J
def CE{l:aa}{p:ab}{i:Nat}[hl:LB l][hp:aO p i](hi:i<=400000:=by decide):PF GB prog 255 [eL l,eP p] (vI (l.value p).num.sign):=by
 refine fn func255 J J ntmps255 J J (fun C=>?_);refine cl J (B5 hi) J<|cl J qa J<|?_;exact rz J J
def HJ{l:aa}[hl:LB l](hn:l.Ne):PF GB prog 256 [eL l] (eP l.base):=by
 refine fn func256 J J ntmps256 J J (fun C=>?_);refine cl J uD J<|cl J (jo (z:=l.c)) J<|cl J Hf J<|cl J (xO (NU hn)) J<|cl J wF J<|cl J (jo (z:=l.a)) J<|?_;refine cl J i6 J<|cl J (jo (z:=l.b)) J<|cl J i6 J<|?_;exact rz J (by rw[<-Pd];rfl)
instance aO.base (l:aa) [LB l]:aO l.base 900:=by
 rw[<-Pd];constructor
 ·exact BQ.mono (inferInstance:BQ (-((l.c:Rat)/l.dir.dot l.dir)*(l.a:Rat)) _) (by decide)
 ·exact BQ.mono (inferInstance:BQ (-((l.c:Rat)/l.dir.dot l.dir)*(l.b:Rat)) _) (by decide)
def JV{l:aa}{t:Rat}{k:Nat}[hl:LB l][ht:BQ t k](hn:l.Ne)(hk:k<=200000:=by decide):PF GB prog 208 [eL l,eQ t] (eP (l.at t)):=by
 refine fn func208 J J ntmps208 J J (fun C=>?_);refine cl J (HJ hn) J<|cl J uD J<|cl J (yq (by decide) (by decide) (by omega)) J<|?_;exact rz J (by rw[<-tj];rfl)
def D3{l:aa}{p:ab}{k:Nat}[hl:LB l][hp:aO p k](hn:l.Ne)(hk:k<=200000:=by decide):PF GB prog 235 [eL l,eP p] (eQ (gw l p)):=by
 refine fn func235 J J ntmps235 J J (fun C=>?_);refine cl J uD J<|cl J (Hf (by omega) (by decide)) J<|cl J (Hf (by omega) (by decide)) J<|cl J (xO (NU hn) (by omega) (by decide)) J<|?_;exact rz J J
instance BI.crossI (l m:aa) [LB l] [LB m]:BI (crossI l m) 385:=inferInstanceAs (BI (l.a*m.b-m.a*l.b) 385)
instance BI.meetX (l m:aa) [LB l] [LB m]:BI (meetX l m) 385:=inferInstanceAs (BI (l.b*m.c-m.b*l.c) 385)
instance BI.meetY (l m:aa) [LB l] [LB m]:BI (meetY l m) 385:=inferInstanceAs (BI (m.a*l.c-l.a*m.c) 385)
instance aO.imeet (l m:aa) [LB l] [LB m]:aO (dH l m) 772:=by
 unfold dH;split
 ·exact⟨BQ.mono (k:=1) ⟨by decide,by decide⟩ (by decide),BQ.mono (k:=1) ⟨by decide,by decide⟩ (by decide)⟩
 ·exact⟨inferInstanceAs (BQ ((meetX l m:Rat)/(crossI l m:Rat)) 772),inferInstanceAs (BQ ((meetY l m:Rat)/(crossI l m:Rat)) 772)⟩
def MW(l m:aa):(((l.a:Rat)*(m.b:Rat)-(m.a:Rat)*(l.b:Rat)).num.sign=0)↔crossI l m=0:=by
 rw[n8,<-zr];exact cN
def N8{l m:aa}(h:crossI l m≠0):(l.a:Rat)*(m.b:Rat)-(m.a:Rat)*(l.b:Rat)≠0:=by
 rw[<-zr];exact fun e=>h (cN.1 e)
def QF{l m:aa}[hl:LB l][hm:LB m]:PF GB prog 254 [eL l,eL m] (.tp [eP (dH l m),vB (decide (crossI l m≠0))]):=by
 refine fn func254 J J ntmps254 J J (fun C=>?_);refine cl J (jo (z:=l.a)) J<|cl J (jo (z:=m.b)) J<|cl J i6 J<|cl J (jo (z:=m.a)) J<|cl J (jo (z:=l.b)) J<|?_;refine cl J i6 J<|cl J tD J<|cl J qa J<|?_;refine br J J J (fun hc26=>?_) (fun hc26=>?_)
 .
  have hcr:=(MW l m).1 hc26;exact rz J (by unfold dH;rw[if_pos hcr,decide_eq_false (fun e=>e hcr)];show DV.tp [.ag [_, .sl [], .sl [],_, .sl [], .sl []],_]= .tp [eP ⟨0,0⟩,_];unfold eP dD;simp only[show(0:Rat).num=0 from J,show(0:Rat).den=1 from J,kL,oE];rfl)
 .
  have hcr:crossI l m≠0:=fun e=>hc26 ((MW l m).2 e);refine cl J (jo (z:=l.b)) J<|cl J (jo (z:=m.c)) J<|cl J i6 J<|cl J (jo (z:=m.b)) J<|cl J (jo (z:=l.c)) J<|?_;refine cl J i6 J<|cl J tD J<|cl J (jo (z:=m.a)) J<|cl J (jo (z:=l.c)) J<|cl J i6 J<|cl J (jo (z:=l.a)) J<|?_;refine cl J (jo (z:=m.c)) J<|cl J i6 J<|cl J tD J<|cl J (xO (N8 hcr)) J<|cl J (xO (N8 hcr)) J<|?_;exact rz J (by unfold dH;rw[if_neg hcr,decide_eq_true hcr,Oa,O3,zr];rfl)
def iE(l m:aa):Int:=if(l.a-m.a).sign≠0 then(l.a-m.a).sign else if(l.b-m.b).sign≠0 then(l.b-m.b).sign else(l.c-m.c).sign
def D9(l m:aa):iE l m=0↔l=m:=by
 unfold iE;constructor
 ·intro h
  split at h
  ·contradiction
  ·split at h
   ·contradiction
   ·rename_i h1 h2
    have a1:=jW.1 (Decidable.not_not.1 h1);have a2:=jW.1 (Decidable.not_not.1 h2);have a3:=jW.1 h;exact aa.ext' (by omega) (by omega) (by omega)
 ·rintro rfl
  simp
def Bt{l m:aa}[hl:LB l][hm:LB m]:PF GB prog 179 [eL l,eL m] (vI (iE l m)):=by
 refine fn func179 J J ntmps179 J J (fun C=>?_);refine cl J (IT (a:=l.a) (b:=m.a)) J<|?_;refine br J J J (fun hc13=>?_) (fun hc13=>?_)
 .
  exact rz J (by show vI _=_;unfold iE;rw[if_pos hc13])
 .
  refine cl J (IT (a:=l.b) (b:=m.b)) J<|?_;refine br J J J (fun hc21=>?_) (fun hc21=>?_)
  .
   exact rz J (by show vI _=_;unfold iE;rw[if_neg hc13,if_pos hc21])
  .
   refine cl J (IT (a:=l.c) (b:=m.c)) J<|?_;exact rz J (by show vI _=_;unfold iE;rw[if_neg hc13,if_neg hc21])
def JY{v:ab}:PF GB prog 262 [eP v] (vI v.half):=by
 refine fn func262 J J ntmps262 J J (fun C=>?_);refine cl J (qa (q:=v.x)) J<|cl J (qa (q:=v.y)) J<|?_;refine cs 13 J J J (fun hg13=>?_) (fun hg13=>?_)
 .
  refine br J J J (fun hc16=>?_) (fun hc16=>?_)
  .
   exact rz J (by show vI _=vI _;unfold ab.half;generalize v.x.num.sign=sx at*;generalize v.y.num.sign=sy at*;congr 1;(repeat' split)<;>omega)
  .
   refine cs 19 J J J (fun hg19=>?_) (fun hg19=>?_)
   .
    exact rz J (by show vI _=vI _;unfold ab.half;generalize v.x.num.sign=sx at*;generalize v.y.num.sign=sy at*;congr 1;(repeat' split)<;>omega)
   .
    refine cs 22 J J J (fun hg22=>?_) (fun hg22=>?_)
    .
     refine br J J J (fun hc26=>?_) (fun hc26=>?_)
     .
      exact rz J (by show vI _=vI _;unfold ab.half;generalize v.x.num.sign=sx at*;generalize v.y.num.sign=sy at*;congr 1;(repeat' split)<;>omega)
     .
      exact rz J (by show vI _=vI _;unfold ab.half;generalize v.x.num.sign=sx at*;generalize v.y.num.sign=sy at*;congr 1;(repeat' split)<;>omega)
    .
     exact rz J (by show vI _=vI _;unfold ab.half;generalize v.x.num.sign=sx at*;generalize v.y.num.sign=sy at*;congr 1;(repeat' split)<;>omega)
 .
  refine cs 19 J J J (fun hg19=>?_) (fun hg19=>?_)
  .
   exact rz J (by show vI _=vI _;unfold ab.half;generalize v.x.num.sign=sx at*;generalize v.y.num.sign=sy at*;congr 1;(repeat' split)<;>omega)
  .
   refine cs 22 J J J (fun hg22=>?_) (fun hg22=>?_)
   .
    refine br J J J (fun hc26=>?_) (fun hc26=>?_)
    .
     exact rz J (by show vI _=vI _;unfold ab.half;generalize v.x.num.sign=sx at*;generalize v.y.num.sign=sy at*;congr 1;(repeat' split)<;>omega)
    .
     exact rz J (by show vI _=vI _;unfold ab.half;generalize v.x.num.sign=sx at*;generalize v.y.num.sign=sy at*;congr 1;(repeat' split)<;>omega)
   .
    exact rz J (by show vI _=vI _;unfold ab.half;generalize v.x.num.sign=sx at*;generalize v.y.num.sign=sy at*;congr 1;(repeat' split)<;>omega)
def aDZ(z:Int): -1<=z.sign/\z.sign<=1:=by
 rcases rT z 0 with h|h|h
 ·rw[fM h];omega
 ·rw[h];decide
 ·rw[iZ h];omega
def Wo{u v:ab}{i j:Nat}[hu:aO u i][hv:aO v j](hi:i<=200000:=by decide)(hj:j<=200000:=by decide):PF GB prog 210 [eP u,eP v] (vI (fp u v)):=by
 refine fn func210 J J ntmps210 J J (fun C=>?_);refine cl J (JY (v:=u)) J<|cl J (JY (v:=v)) J<|?_;refine br J J J (fun hc13=>?_) (fun hc13=>?_)
 .
  refine br J J J (fun hc16=>?_) (fun hc16=>?_)
  .
   exact rz J (by show vI _=vI _;unfold fp;rw[if_pos hc16])
  .
   exact rz J (by show vI _=vI _;unfold fp;rw[if_neg hc16,if_pos (by omega)])
 .
  refine cl J (Cx hi hj) J<|cl (hv:=by simp only[ac];exact(by have:=aDZ (u.cross v).num;omega)) J qa J<|?_;exact rz J (by show vI _=vI _;unfold fp;rw[if_neg (by omega),if_neg (by omega)])
instance BQ.i1:BQ (((1:Int):Rat)) 2:=⟨by decide,by decide⟩
def eV(v:ah):DV:= .ag [.v (.bool (decide (v.lo.num<0))),dN v.lo.num.natAbs,dD v.lo.den, .v (.bool (decide (v.hi.num<0))),dN v.hi.num.natAbs,dD v.hi.den, .v (.bool v.nl), .v (.bool v.nh)]
def Tk:eV ah.all= .ag [.v (.bool false), .sl [], .sl [], .v (.bool false), .sl [], .sl [], .v (.bool true), .v (.bool true)]:=by
 unfold eV ah.all dD;simp only[show(0:Rat).num=0 from J,show(0:Rat).den=1 from J,kL,oE];rfl
def Le:eQ 0= .ag [.v (.bool false), .sl [], .sl []]:=by
 unfold eQ dD;simp only[show(0:Rat).num=0 from J,show(0:Rat).den=1 from J,kL,oE];rfl
def jB(v:ah):Rat:=if v.nl=true/\v.nh=true then 0 else if v.nl=true then v.hi-1 else if v.nh=true then v.lo+1 else(v.lo+v.hi)/2
def Qo:PF GB prog 253 [] (eV ah.all):=by
 refine fn func253 J J ntmps253 J J (fun C=>?_);exact rz J (by rw[Tk];rfl)
def Z9{v:ah}{i:Nat}[hl:BQ v.lo i][hh:BQ v.hi i](hi:i<=100000:=by decide):PF GB prog 209 [eV v] (eQ (jB v)):=by
 refine fn func209 J J ntmps209 J J (fun C=>?_);refine jy 6 J J J (fun hg6=>?_) (fun hg6=>?_)
 .
  refine bb J J J (fun hc3=>?_) (fun hc3=>?_)
  .
   exact rz J (by unfold jB;rw[if_pos ⟨hg6,hc3⟩,Le];rfl)
  .
   refine bb J J J (fun hc11=>?_) (fun hc11=>?_)
   .
    refine cl J (lc (n:=1) (by decide) (by decide)) J<|cl J (tD (a:=v.hi) (b:=((1:Int):Rat)) (by omega) (by decide)) J<|?_;exact rz J (by unfold jB;rw[if_neg (by simp[hc3]),if_pos hc11];rfl)
   .
    refine bb J J J (fun hc18=>?_) (fun hc18=>?_)
    .
     refine cl J (lc (n:=1) (by decide) (by decide)) J<|cl J (oD (a:=v.lo) (b:=((1:Int):Rat)) (by omega) (by decide)) J<|?_;exact rz J (by simp[hg6] at hc11)
    .
     refine cl J (Ii (a:=v.lo) (b:=v.hi) (by omega) (by omega)) J<|?_;exact rz J (by simp[hg6] at hc11)
 .
  refine bb J J J (fun hc11=>?_) (fun hc11=>?_)
  .
   refine cl J (lc (n:=1) (by decide) (by decide)) J<|cl J (tD (a:=v.hi) (b:=((1:Int):Rat)) (by omega) (by decide)) J<|?_;exact rz J (by simp[hg6] at hc11)
  .
   refine bb J J J (fun hc18=>?_) (fun hc18=>?_)
   .
    refine cl J (lc (n:=1) (by decide) (by decide)) J<|cl J (oD (a:=v.lo) (b:=((1:Int):Rat)) (by omega) (by decide)) J<|?_;exact rz J (by unfold jB;rw[if_neg (by simp[hg6]),if_neg (by simp[hg6]),if_pos hc18];rfl)
   .
    refine cl J (Ii (a:=v.lo) (b:=v.hi) (by omega) (by omega)) J<|?_;exact rz J (by unfold jB;rw[if_neg (by simp[hg6]),if_neg (by simp[hg6]),if_neg (by simp[hc18])];rfl)
theorem BQ.of_fracI{q:Rat}{n D:Int}{i:Nat}(hd:0<D.natAbs)(h:q*((D.natAbs:Nat):Rat)=(n:Rat))(hn:BI n i)(hD:BI D i):BQ q i:=BQ.of_frac hd h hn.h hD.h
theorem Bp{m:Int}{i j:Nat}(h:BI m i)(hij:i<=j):BI m j:=⟨dJ h.h (bY (by decide) hij)⟩
theorem Dr{l m:aa}[LB l][LB m](hn:l.Ne)(h:crossI l m≠0):BQ (gw l (dH l m)) 1200:=by
 have e:=YL hn h;have hA:BI (crossI l m*(l.a*l.a+l.b*l.b)) _:=inferInstance;have hB:BI (meetX l m*l.b-meetY l m*l.a) _:=inferInstance;have hne:crossI l m*(l.a*l.a+l.b*l.b)≠0:=by
  intro q;rcases sT.1 q with q|q
  ·exact h q
  ·have h1:=AT hn
   simp only[aa.dir,ab.dot] at h1;have h2:((l.a*l.a+l.b*l.b:Int):Rat)=((0:Int):Rat):=by rw[q]
   rw[pZ,cW,cW] at h2;have h3:((0:Int):Rat)=0:=J;rw[h3] at h2;grind
 have hA':=Bp (j:=1200) hA (by decide);have hB':=Bp (j:=1200) hB (by decide);generalize crossI l m*(l.a*l.a+l.b*l.b)=D at*;generalize meetX l m*l.b-meetY l m*l.a=M at*;by_cases hD:0<D
 ·refine BQ.of_fracI (n:=M) (D:=D) (by omega) ?_ hB' hA'
  rw[<-e];congr 1;have:((D.natAbs:Nat):Int)=D:=by omega
  rw[<-this];rfl
 ·refine BQ.of_fracI (n:= -M) (D:=D) (by omega) ?_ (BI.neg M 1200 (h:=hB')) hA'
  rw[jR,<-e];have:((D.natAbs:Nat):Rat)= -(D:Rat):=by
   have h1:((D.natAbs:Nat):Int)= -D:=by omega
   rw[<-jR,<-h1];rfl
  rw[this];grind
def Ma(k:Rat):k.num.sign<=0↔ ¬0<k:=by rw[<-nO];omega
def Sg{w:ah}(h1: ¬w.nl=true)(h2: ¬w.nh=true)(h3:0<=bm w.lo w.hi):w.empty=true:=by
 unfold ah.empty;simp[h1,h2,h3]
def Sn{w:ah}(h:w.nl=true):w.empty=false:=by unfold ah.empty;simp[h]
def T5{w:ah}(h:w.nh=true):w.empty=false:=by unfold ah.empty;simp[h]
def ZQ{w:ah}(h: ¬0<=bm w.lo w.hi):w.empty=false:=by unfold ah.empty;simp[h]
def fj(l:aa):List aa->ah->ah×Bool
 |[],v=>(v,true)
 |m::t,v=>if m=l then fj l t v else if l.cutB v m=true then fj l t (l.cutV v m) else(l.cutV v m,false)
def wI{l:aa}: ∀{c:List aa} {v:ah},(fj l c v).2=(eO l c v).isSome
 |[],v=>rfl
 |m::t,v=>by
  rw[fj,F2];split
  ·exact wI
  ·split
   ·exact wI
   ·rfl
structure jr (l:aa) (c:List aa) (k:Nat) (v:ah):Prop where
 le:k<=c.length
 p:eO l (c.drop k) v=eO l c ah.all
 e:fj l (c.drop k) v=fj l c ah.all
 z:gE v
 lo:BQ v.lo 1200
 hi:BQ v.hi 1200
def jr.skip{l:aa}{c:List aa}{k:Nat}{v:ah}(h:jr l c k v)(hk:k<c.length)(e:c[k]=l):jr l c (k+1) v:=
 ⟨hk,by have:=h.p;rw[bX hk,F2,if_pos e] at this;exact this,by have:=h.e;rw[bX hk,fj,if_pos e] at this;exact this,h.z,h.lo,h.hi⟩
def jr.cut{l:aa}{c:List aa}{k:Nat}{v w:ah}(h:jr l c k v)(hk:k<c.length)(e:c[k]≠l)(hb:l.cutB v c[k]=true)(hw:l.cutV v c[k]=w)(z:gE w)(lo:BQ w.lo 1200)(hi:BQ w.hi 1200):jr l c (k+1) w:=
 ⟨hk,by have:=h.p;rw[bX hk,F2,if_neg e,if_pos hb,hw] at this;exact this,by have:=h.e;rw[bX hk,fj,if_neg e,if_pos hb,hw] at this;exact this,z,lo,hi⟩
def jr.no{l:aa}{c:List aa}{k:Nat}{v w:ah}(h:jr l c k v)(hk:k<c.length)(e:c[k]≠l)(hb:l.cutB v c[k]=false)(hw:l.cutV v c[k]=w):fj l c ah.all=(w,false):=by
 rw[<-h.e,bX hk,fj,if_neg e,if_neg (by rw[hb];decide),hw]
def jr.yes{l:aa}{c:List aa}{k:Nat}{v:ah}(h:jr l c k v)(hk:c.length<=k):fj l c ah.all=(v,true):=by
 rw[<-h.e,kQ hk];rfl
def jr.all{l:aa}{c:List aa}:jr l c 0 ah.all:=⟨bJ _,by rw[iQ],by rw[iQ],gE.all,BQ.mono (k:=1) ⟨by decide,by decide⟩ (by decide),BQ.mono (k:=1) ⟨by decide,by decide⟩ (by decide)⟩
def OL{v:ah}{t:Rat}(h:v.nl=true\/0<bm t v.lo):(⟨t,v.hi,false,v.nh⟩:ah)=p6 v t:=by unfold p6;rw[if_pos h]
def UW{v:ah}{t:Rat}(h: ¬v.nl=true)(h2: ¬0<bm t v.lo):v=p6 v t:=by unfold p6;rw[if_neg (fun e=>e.elim h h2)]
def Q8{v:ah}{t:Rat}(h:v.nh=true\/bm t v.hi<0):(⟨v.lo,t,v.nl,false⟩:ah)=pq v t:=by unfold pq;rw[if_pos h]
def aA8{v:ah}{t:Rat}(h: ¬v.nh=true)(h2: ¬bm t v.hi<0):v=pq v t:=by unfold pq;rw[if_neg (fun e=>e.elim h h2)]
def ot(l m:aa)(v:ah):ah:=if 0<(m.dir.cross l.dir).num.sign then p6 v (gw l (dH l m)) else pq v (gw l (dH l m))
def EC{l m:aa}{v:ah}[LB l][LB m](hn:l.Ne)(hz:gE v)(hlo:BQ v.lo 1200)(hhi:BQ v.hi 1200)(h0:crossI l m≠0):l.cutV v m=ot l m v/\l.cutB v m=!(ot l m v).empty/\gE (ot l m v)/\BQ (ot l m v).lo 1200/\BQ (ot l m v).hi 1200:=by
 have hb:=Dr (l:=l) (m:=m) hn h0;unfold ot;split
 ·rename_i h
  obtain⟨_,h1,h2⟩:=TU hn hz ((nO _).1 h);refine⟨h1,h2,hz.lo' _,?_⟩;unfold p6;split
  ·exact⟨hb,hhi⟩
  ·exact⟨hlo,hhi⟩
 ·rename_i h
  obtain⟨h1,h2⟩:=WI hn hz h0 (fun e=>h ((nO _).2 e));refine⟨h1,h2,hz.hi' _,?_⟩;unfold pq;split
  ·exact⟨hlo,hb⟩
  ·exact⟨hlo,hhi⟩
theorem Bi{l:aa}[LB l](hn:l.Ne): ∀{c:List aa} {v:ah},(∀m∈c,LB m)->gE v->BQ v.lo 1200->BQ v.hi 1200->BQ (fj l c v).1.lo 1200/\BQ (fj l c v).1.hi 1200
 |[],v,_,_,h1,h2=>⟨h1,h2⟩
 |m::t,v,hc,hz,h1,h2=>by
  haveI:=hc m aQ;have hw:gE (l.cutV v m)/\BQ (l.cutV v m).lo 1200/\BQ (l.cutV v m).hi 1200:=by
   by_cases h0:crossI l m=0
   ·rw[(A1 (v:=v) h0).1];exact⟨hz,h1,h2⟩
   ·obtain⟨u1,_,u3,u4,u5⟩:=EC (v:=v) hn hz h1 h2 h0
    rw[u1];exact⟨u3,u4,u5⟩
  have hc':=fun m hm=>hc m (aJ _ hm);rw[fj];split
  ·exact Bi hn hc' hz h1 h2
  ·split
   ·exact Bi hn hc' hw.1 hw.2.1 hw.2.2
   ·exact hw.2
def RH{c:List aa}{i:Nat}(hc: ∀m∈c,LB m)(hok: ∀m∈c,m.ok)(hn:c.length<=1000)(hi:i<c.length):PF GB prog 205 [.sl (c.map eL),vI (i:Nat)] (.tp [eV (fj (c[i]'hi) c ah.all).1,vB (fj (c[i]'hi) c ah.all).2]):=by
 have hcl:=vT c;obtain⟨l,hl⟩: ∃l,l=c[i]:=⟨_,rfl⟩;rw[<-hl];haveI hlb:LB l:=hl▸hc _ (cJ hi);have hlo:l.ok:=hl▸hok _ (cJ hi);refine fn func205 J J ntmps205 J J (fun C=>?_);refine ix (fu:=⟨1⟩) _ J (wn hi) J<|?_;refine aj 16 (.d (eL l)) J (by rw[hl];rfl) ?_;refine gx J<|cl (fu:=⟨9⟩) J Qo J<|?_;refine aj 19 (.d (vI (c.length:Nat))) J (by rw[hcl];rfl) ?_;refine gx J<|?_;refine lp (X:=ah×Nat) (fun⟨v,k⟩=>[(20, .d (vI (k:Nat))),(19, .d (vI (c.length:Nat))),(18, .d (.sl (c.map eL))),(1, .d (vI (i:Nat))),(6, .ov 6 0),(7, .ov 7 0),(4, .ov 4 0)]) (fun⟨v,k⟩=>[(7,some (.o 223 [.d ((.v (.bool (decide (v.lo.num<0))))), .d (dN v.lo.num.natAbs), .d (dD v.lo.den), .d ((.v (.bool (decide (v.hi.num<0))))), .d (dN v.hi.num.natAbs), .d (dD v.hi.den), .d ((.v (.bool v.nl))), .d ((.v (.bool v.nh)))] true)),(6,some (.o 175 [.d ((.v (.bool (decide (l.a<0))))), .d (dN l.a.natAbs), .d ((.v (.bool (decide (l.b<0))))), .d (dN l.b.natAbs), .d ((.v (.bool (decide (l.c<0))))), .d (dN l.c.natAbs)] true)),(4,some (.o 223 [.ff, .nl, .nl, .ff, .nl, .nl, .ff, .ff] true))]) (fun⟨v,k⟩=>jr l c k v) (fun⟨v,k⟩=>c.length-k) ⟨ah.all,0⟩ J jr.all (fun _=>J) (fun⟨v,k⟩ hk=>?_)
 try dsimp only at hk⊢
 have hS:=hk;refine br J J J (fun hc21=>?_) (fun hc21=>?_)
 .
  have hk:k<c.length:=by omega
  obtain⟨m,hm⟩: ∃m,m=c[k]:=⟨_,rfl⟩;haveI hmb:LB m:=hm▸hc _ (cJ hk);have hmo:m.ok:=hm▸hok _ (cJ hk);refine ix (fu:=⟨1⟩) _ J (wn hk) J<|?_;refine aj 24 (.d (eL m)) J (by rw[hm];rfl) ?_;refine gx J<|?_;refine cs 28 J J J (fun hg28=>?_) (fun hg28=>?_)
  .
   have hinv:jr l c (k+1) v:=hS.skip hk (by rw[hl];congr 1;omega);exact at_ ⟨v,k+1⟩ (by dsimp only;exact⟨hinv,(by omega)⟩)
  .
   refine cl J (Bt (l:=l) (m:=m)) J<|?_;refine br J J J (fun hc33=>?_) (fun hc33=>?_)
   .
    have hinv:jr l c (k+1) v:=hS.skip hk (by rw[<-hm,(D9 l m).1 hc33]);exact at_ ⟨v,k+1⟩ (by dsimp only;exact⟨hinv,(by omega)⟩)
   .
    have hne:c[k]≠l:=fun e=>hc33 ((D9 l m).2 (by rw[hm,e]));refine cl (fu:=⟨13⟩) J (QF (l:=l) (m:=m)) J<|?_;refine aj 41 (.d (.v (.bool (decide (crossI l m=0))))) J (by simp) ?_;refine gx J<|?_;refine bd J J J (fun hc41=>?_) (fun hc41=>?_)
    .
     refine cl J (HJ hlo.ne) J<|cl J (CE (l:=m) (p:=l.base)) J<|?_;refine br J J J (fun hc46=>?_) (fun hc46=>?_)
     .
      have hno:=hS.no (w:=v) hk hne (by have:=(A1 (v:=v) hc41).2;rw[<-hm];cases hb:l.cutB v m with|false=>rfl|true=>exact absurd (this.1 hb) ((Ma _).1 hc46)) (by rw[<-hm];exact(A1 (v:=v) hc41).1);exact rz J (by rw[hno];rfl)
     .
      have hinv:jr l c (k+1) v:=by have:=A1 (v:=v) hc41;exact hS.cut hk hne (by rw[<-hm];exact this.2.2 (by have:=mt (Ma (m.value l.base)).2 hc46;exact Decidable.not_not.1 this)) (by rw[<-hm];exact this.1) hS.z hS.lo hS.hi
      exact at_ ⟨v,k+1⟩ (by dsimp only;exact⟨hinv,(by omega)⟩)
    .
     obtain⟨u1,u2,u3,u4,u5⟩:=EC (v:=v) hlo.ne hS.z hS.lo hS.hi hc41;haveI htb:=Dr hlo.ne hc41;haveI hvl:=hS.lo;haveI hvh:=hS.hi;refine cl (fu:=⟨0⟩) J (D3 (l:=l) (p:=dH l m) hlo.ne) J<|?_;obtain⟨t,ht⟩: ∃t,t=gw l (dH l m):=⟨_,rfl⟩;refine aj 50 (.d (eQ t)) J (by rw[ht]) ?_;rw[<-ht] at htb;refine gx (fu:=⟨5⟩) J<|?_;refine mg (X:=ah) (fun w=>[(20, .d (vI (k:Nat))),(19, .d (vI (c.length:Nat))),(18, .d (.sl (c.map eL))),(1, .d (vI (i:Nat))),(6, .ov 6 0),(7, .ov 7 0),(4, .ov 4 0)]) (fun w=>[(7,some (.o 223 [.d ((.v (.bool (decide (w.lo.num<0))))), .d (dN w.lo.num.natAbs), .d (dD w.lo.den), .d ((.v (.bool (decide (w.hi.num<0))))), .d (dN w.hi.num.natAbs), .d (dD w.hi.den), .d ((.v (.bool w.nl))), .d ((.v (.bool w.nh)))] true)),(6,some (.o 175 [.d ((.v (.bool (decide (l.a<0))))), .d (dN l.a.natAbs), .d ((.v (.bool (decide (l.b<0))))), .d (dN l.b.natAbs), .d ((.v (.bool (decide (l.c<0))))), .d (dN l.c.natAbs)] true)),(4,some (.o 223 [.ff, .nl, .nl, .ff, .nl, .nl, .ff, .ff] true))]) (fun w=>w=ot l m v) [20,19,18,1,6,7,4] [7,6,4] rfl ?_ (fun _=>J) (fun w hw=>?_)
     .
      refine gx J<|cl J (uD (l:=m)) J<|cl J (uD (l:=l)) J<|cl J (Cx (p:=m.dir) (q:=l.dir)) J<|cl J (qa (q:=m.dir.cross l.dir)) J<|?_;refine br J J J (fun hc57=>?_) (fun hc57=>?_)
      .
       refine jy 60 J J J (fun hg60=>?_) (fun hg60=>?_)
       .
        refine B8 7 J J J ?_;exact at_ ⟨t,v.hi,false,v.nh⟩ (by unfold ot;rw[if_pos hc57,<-ht];exact OL (.inl hg60))
       .
        refine cl J (lu (a:=t) (b:=v.lo)) J<|?_;refine br J J J (fun hc66=>?_) (fun hc66=>?_)
        .
         refine B8 7 J J J ?_;exact at_ ⟨t,v.hi,false,v.nh⟩ (by unfold ot;rw[if_pos hc57,<-ht];exact OL (.inr hc66))
        .
         exact at_ v (by unfold ot;rw[if_pos hc57,<-ht];exact UW (by simp[hg60]) hc66)
      .
       refine jy 72 J J J (fun hg72=>?_) (fun hg72=>?_)
       .
        refine B8 7 J J J ?_;exact at_ ⟨v.lo,t,v.nl,false⟩ (by unfold ot;rw[if_neg hc57,<-ht];exact Q8 (.inl hg72))
       .
        refine cl J (lu (a:=t) (b:=v.hi)) J<|?_;refine br J J J (fun hc78=>?_) (fun hc78=>?_)
        .
         refine B8 7 J J J ?_;exact at_ ⟨v.lo,t,v.nl,false⟩ (by unfold ot;rw[if_neg hc57,<-ht];exact Q8 (.inr hc78))
        .
         exact at_ v (by unfold ot;rw[if_neg hc57,<-ht];exact aA8 (by simp[hg72]) hc78)
     .
      rw[<-hw] at u1 u2 u3 u4 u5;haveI:=u4;haveI:=u5;refine jy 85 J J J (fun hg85=>?_) (fun hg85=>?_)
      .
       refine jy 90 J J J (fun hg90=>?_) (fun hg90=>?_)
       .
        refine cl J (lu (a:=w.lo) (b:=w.hi)) J<|?_;refine br J J J (fun hc97=>?_) (fun hc97=>?_)
        .
         have hno:=hS.no (w:=w) hk hne (by rw[<-hm,u2,Sg (by simpa using hg85) (by simpa using hg90) hc97];rfl) (by rw[<-hm,u1]);exact rz J (by rw[hno];rfl)
        .
         have hinv:jr l c (k+1) w:=hS.cut hk hne (by rw[<-hm,u2,ZQ hc97];rfl) (by rw[<-hm,u1]) u3 u4 u5;exact at_ ⟨w,k+1⟩ (by dsimp only;exact⟨hinv,(by omega)⟩)
       .
        have hinv:jr l c (k+1) w:=hS.cut hk hne (by rw[<-hm,u2,T5 (by simpa using hg90)];rfl) (by rw[<-hm,u1]) u3 u4 u5;exact at_ ⟨w,k+1⟩ (by dsimp only;exact⟨hinv,(by omega)⟩)
      .
       have hinv:jr l c (k+1) w:=hS.cut hk hne (by rw[<-hm,u2,Sn (by simpa using hg85)];rfl) (by rw[<-hm,u1]) u3 u4 u5;exact at_ ⟨w,k+1⟩ (by dsimp only;exact⟨hinv,(by omega)⟩)
 .
  exact rz J (by rw[hS.yes (by omega)];rfl)
def eG(l:aa):DV:= .ag [vI (ce (l.a:Rat)),vI (cg (l.a:Rat)),co (l.a:Rat),vI (ce (l.b:Rat)),vI (cg (l.b:Rat)),co (l.b:Rat),vI (ce (l.c:Rat)),vI (cg (l.c:Rat)),co (l.c:Rat)]
def eZ(p:ab):DV:= .ag [vI (ce p.x),vI (cg p.x),co p.x,vI (ce p.y),vI (cg p.y),co p.y]
def eW(v:ah):DV:= .ag [vI (ce v.lo),vI (cg v.lo),co v.lo,vI (ce v.hi),vI (cg v.hi),co v.hi, .v (.bool v.nl), .v (.bool v.nh)]
def A9{G:Gh}{t:List DV}{vs:List Value}(h:IsLs G (vI 0::vI 0:: .v (.pointer none)::t) vs):IsLs G (vI (ce 0)::vI (cg 0)::co 0::t) vs:=by
 obtain⟨y1,l1,rfl,k1,g1⟩:=aH.1 h;obtain⟨y2,l2,rfl,k2,g2⟩:=aH.1 g1;obtain⟨y3,l3,rfl,k3,g3⟩:=aH.1 g2;have e:decide (jA 0)=false:=decide_eq_false fun h=>HR h J;exact .cons k1 (.cons k2 (.cons (wo.2 (.inl ⟨e,aD.1 k3⟩)) g3))
def F8{G:Gh}(a:List DV){t:List DV}{vs:List Value}(h:IsLs G (a++vI 0::vI 0:: .v (.pointer none)::t) vs):IsLs G (a++vI (ce 0)::vI (cg 0)::co 0::t) vs:=by
 obtain⟨x,y,rfl,h1,h2⟩:=h.unapp;exact h1.app (A9 h2)
def ZA(G:Gh)(y:Value)(k:Is G (.ag [vI 0,vI 0, .v (.pointer none),vI 0,vI 0, .v (.pointer none), .v (.bool true), .v (.bool true)]) y):Is G (eW ah.all) y:=by
 obtain⟨l,rfl,g⟩:=d7.1 k;exact d7.2 ⟨l,J,A9 (F8 [vI 0,vI 0, .v (.pointer none)] g)⟩
def p8:List Int->Int
 |[]=>0
 |a::t=>if a≠0 then a else p8 t
theorem aO.nor(l:aa)[LB l]:aO l.nor 97:=⟨inferInstanceAs (BQ (l.a:Rat) 97),inferInstanceAs (BQ (l.b:Rat) 97)⟩
attribute [instance] aO.nor
instance aO.scale (p:ab) (c:Rat) (i k:Nat) [aO p i] [BQ c k]:aO (p.scale c) (i+k):=⟨inferInstanceAs (BQ (p.x*c) _),inferInstanceAs (BQ (p.y*c) _)⟩
instance aO.add (p q:ab) (i j:Nat) [aO p i] [aO q j]:aO (p.add q) (i+j+1):=⟨inferInstanceAs (BQ (p.x+q.x) _),inferInstanceAs (BQ (p.y+q.y) _)⟩
instance LB.revA (l:aa) [h:LB l]:LB l.rev:=⟨⟨by rw[show l.rev.a= -l.a from J,iS];exact h.bl.a,by rw[show l.rev.b= -l.b from J,iS];exact h.bl.b,by rw[show l.rev.c= -l.c from J,iS];exact h.bl.c⟩⟩
def aG0:PF GB prog 266 [] (eW ah.all):=by
 refine fn func266 J J ntmps266 J J (fun C=>?_);exact jn J ZA
def AK{l:aa}:PF GB prog 194 [eG l] (eZ l.nor):=by
 refine fn func194 J J ntmps194 J J (fun C=>?_);exact rz J J
def xR{l:aa}[hl:LB l]:PF GB prog 143 [eG l] (eZ l.dir):=by
 refine fn func143 J J ntmps143 J J (fun C=>?_);refine cl J (uY (q:=(l.a:Rat))) J<|?_;exact rz J J
def IQ{p q:ab}{i j:Nat}[hp:aO p i][hq:aO q j](hi:i<=40000000:=by decide)(hj:j<=40000000:=by decide):PF GB prog 195 [eZ p,eZ q] (eF (p.dot q)):=by
 refine fn func195 J J ntmps195 J J (fun C=>?_);refine cl J (gD (p:=p.x) (q:=q.x) (by omega) (by omega)) J<|cl J (gD (p:=p.y) (q:=q.y) (by omega) (by omega)) J<|cl J (kg (p:=p.x*q.x) (q:=p.y*q.y) (by omega) (by omega)) J<|?_;exact rz J J
def BP{p q:ab}{i j:Nat}[hp:aO p i][hq:aO q j](hi:i<=40000000:=by decide)(hj:j<=40000000:=by decide):PF GB prog 144 [eZ p,eZ q] (eF (p.cross q)):=by
 refine fn func144 J J ntmps144 J J (fun C=>?_);refine cl J (gD (p:=p.x) (q:=q.y) (by omega) (by omega)) J<|cl J (gD (p:=p.y) (q:=q.x) (by omega) (by omega)) J<|cl J (uN (p:=p.x*q.y) (q:=p.y*q.x) (by omega) (by omega)) J<|?_;exact rz J J
def Cs{p:ab}{c:Rat}{i j:Nat}[hp:aO p i][hc:BQ c j](hi:i<=40000000:=by decide)(hj:j<=40000000:=by decide):PF GB prog 74 [eZ p,eF c] (eZ (p.scale c)):=by
 refine fn func74 J J ntmps74 J J (fun C=>?_);refine cl J (gD (p:=p.x) (q:=c) (by omega) (by omega)) J<|cl J (gD (p:=p.y) (q:=c) (by omega) (by omega)) J<|?_;exact rz J J
def C8{p q:ab}{i j:Nat}[hp:aO p i][hq:aO q j](hi:i<=40000000:=by decide)(hj:j<=40000000:=by decide):PF GB prog 73 [eZ p,eZ q] (eZ (p.add q)):=by
 refine fn func73 J J ntmps73 J J (fun C=>?_);refine cl J (kg (by omega) (by omega)) J<|cl J (kg (by omega) (by omega)) J<|?_;exact rz J J
def Ll{l:aa}[hl:LB l]:PF GB prog 270 [eG l] (eZ l.base):=by
 refine fn func270 J J ntmps270 J J (fun C=>?_);refine cl J AK J<|cl J (uY (q:=(l.c:Rat))) J<|cl J (IQ (p:=l.nor) (q:=l.nor)) J<|cl J (xT (p:= -(l.c:Rat)) (q:=l.nor.dot l.nor)) J<|?_;refine cl J (Cs (p:=l.nor)) J<|?_;exact rz J J
def Lm{l:aa}{p:ab}{i:Nat}[hl:LB l][hp:aO p i](hi:i<=10000000:=by decide):PF GB prog 248 [eG l,eZ p] (eF (l.value p)):=by
 refine fn func248 J J ntmps248 J J (fun C=>?_);refine cl J (AK (l:=l)) J<|cl J (IQ (p:=l.nor) (q:=p) (by omega) (by omega)) J<|cl J (kg (p:=l.nor.dot p) (q:=(l.c:Rat)) (by omega) (by omega)) J<|?_;exact rz J J
def aCV{l:aa}{p:ab}{i:Nat}[hl:LB l][hp:aO p i](hi:i<=10000000:=by decide):PF GB prog 191 [eG l,eZ p] (vI (l.value p).num.sign):=by
 refine fn func191 J J ntmps191 J J (fun C=>?_);refine cl J (Lm (l:=l) (p:=p) hi) J<|cl J (po (q:=l.value p) (by omega)) J<|?_;exact rz J J
def Za{l:aa}{t:Rat}{i:Nat}[hl:LB l][ht:BQ t i](hi:i<=10000000:=by decide):PF GB prog 267 [eG l,eF t] (eZ (l.at t)):=by
 refine fn func267 J J ntmps267 J J (fun C=>?_);refine cl J (Ll (l:=l)) J<|cl J (xR (l:=l)) J<|cl J (Cs (p:=l.dir) (c:=t) (by omega) (by omega)) J<|cl J (C8 (p:=l.base) (q:=l.dir.scale t) (by omega) (by omega)) J<|?_;exact rz J J
def Tv{v:ah}{i j:Nat}[h1:BQ v.lo i][h2:BQ v.hi j](hi:i<=40000000:=by decide)(hj:j<=40000000:=by decide):PF GB prog 296 [eW v] (vB v.empty):=by
 refine fn func296 J J ntmps296 J J (fun C=>?_);refine jy 6 J J J (fun hg6=>?_) (fun hg6=>?_)
 .
  refine jy 11 J J J (fun hg11=>?_) (fun hg11=>?_)
  .
   refine cl J (vG (p:=v.lo) (q:=v.hi) (by omega) (by omega)) J<|?_;exact rz J (by unfold ah.empty;simp_all [vB,eE])
  .
   exact rz J (by unfold ah.empty;simp_all [vB,eE])
 .
  exact rz J (by unfold ah.empty;simp_all [vB,eE])
instance ah.meet_lo (v w:ah) (i j:Nat) [h1:BQ v.lo i] [h3:BQ w.lo j]:BQ (v.meet w).lo (i+j):=by
 have a:=h1.mono (mT i j);have b:=h3.mono (Nat.le_add_left j i);unfold ah.meet;dsimp only;(repeat' split)<;>assumption
instance ah.meet_hi (v w:ah) (i j:Nat) [h1:BQ v.hi i] [h3:BQ w.hi j]:BQ (v.meet w).hi (i+j):=by
 have a:=h1.mono (mT i j);have b:=h3.mono (Nat.le_add_left j i);unfold ah.meet;dsimp only;(repeat' split)<;>assumption
def Nu{v w:ah}{i j:Nat}[h1:BQ v.lo i][h2:BQ v.hi i][h3:BQ w.lo j][h4:BQ w.hi j](hi:i<=10000000:=by decide)(hj:j<=10000000:=by decide):PF GB prog 271 [eW v,eW w] (.tp [eW (v.meet w),vB (!(v.meet w).empty)]):=by
 refine fn (fu:=⟨16⟩) func271 J J ntmps271 J J (fun C=>?_);refine mg (fu:=⟨1⟩) (X:=Unit) (fun _=>[(6, .ov 6 0)]) (fun _=>[(6,some (.o 199 [.d (vI (ce (v.meet w).lo)), .d (vI (cg (v.meet w).lo)), .d (co (v.meet w).lo), .d (vI (ce v.hi)), .d (vI (cg v.hi)), .d (co v.hi), .d (.v (.bool (v.nl&&w.nl))), .d (.v (.bool (v.nh)))] true))]) (fun _=>True) [6] [6] rfl ?_ (fun _=>J) (fun _ _=>?_)
 .
  refine gx J<|?_;refine bb (v1:=fun hc8=>by simp only[ac];kernel_rfl) J J J (fun hc8=>?_) (fun hc8=>?_)
  .
   have em:(v.meet w).lo=w.lo:=by unfold ah.meet;simp_all
   have eb:(v.nl&&w.nl)=w.nl:=by simp_all
   exact at_ () trivial (hO:=⟨by rw[em,eb]<;>rfl,by repeat (first|exact trivial|refine And.intro J ?_)⟩)
  .
   refine bb J J J (fun hc17=>?_) (fun hc17=>?_)
   .
    refine cl J (YT (p:=v.lo) (q:=w.lo) (by omega) (by omega)) J<|?_;have em:(v.meet w).lo=(if v.lo<w.lo then w.lo else v.lo):=by unfold ah.meet;simp_all
    have eb:(v.nl&&w.nl)=v.nl:=by simp_all
    exact at_ () trivial (hO:=⟨by rw[em,eb]<;>rfl,by repeat (first|exact trivial|refine And.intro J ?_)⟩)
   .
    have em:(v.meet w).lo=v.lo:=by unfold ah.meet;simp_all
    have eb:(v.nl&&w.nl)=v.nl:=by simp_all
    exact at_ () trivial (hO:=⟨by rw[em,eb]<;>rfl,by repeat (first|exact trivial|refine And.intro J ?_)⟩)
 .
  refine mg (X:=Unit) (fun _=>[(6, .ov 6 0)]) (fun _=>[(6,some (.o 199 [.d (vI (ce (v.meet w).lo)), .d (vI (cg (v.meet w).lo)), .d (co (v.meet w).lo), .d (vI (ce (v.meet w).hi)), .d (vI (cg (v.meet w).hi)), .d (co (v.meet w).hi), .d (.v (.bool (v.nl&&w.nl))), .d (.v (.bool (v.nh&&w.nh)))] true))]) (fun _=>True) [6] [6] rfl ?_ (fun _=>J) (fun _ _=>?_)
  .
   refine gx J<|?_;refine bb (v1:=fun hc27=>by simp only[ac];kernel_rfl) J J J (fun hc27=>?_) (fun hc27=>?_)
   .
    have em:(v.meet w).hi=w.hi:=by unfold ah.meet;simp_all
    have eb:(v.nh&&w.nh)=w.nh:=by simp_all
    exact at_ () trivial (hO:=⟨by rw[em,eb]<;>rfl,by repeat (first|exact trivial|refine And.intro J ?_)⟩)
   .
    refine bb J J J (fun hc36=>?_) (fun hc36=>?_)
    .
     refine cl J (Vd (p:=v.hi) (q:=w.hi) (by omega) (by omega)) J<|?_;have em:(v.meet w).hi=(if w.hi<v.hi then w.hi else v.hi):=by unfold ah.meet;simp_all
     have eb:(v.nh&&w.nh)=v.nh:=by simp_all
     exact at_ () trivial (hO:=⟨by rw[em,eb]<;>rfl,by repeat (first|exact trivial|refine And.intro J ?_)⟩)
    .
     have em:(v.meet w).hi=v.hi:=by unfold ah.meet;simp_all
     have eb:(v.nh&&w.nh)=v.nh:=by simp_all
     exact at_ () trivial (hO:=⟨by rw[em,eb]<;>rfl,by repeat (first|exact trivial|refine And.intro J ?_)⟩)
  .
   refine cl J (Tv (v:=v.meet w) (i:=i+j) (j:=i+j) (by omega) (by omega)) J<|?_;exact rz J J
theorem BQ.z1:BQ (0:Rat) 1:=⟨by decide,by decide⟩
def axN{v:ah}{t:Rat}{i j:Nat}[h1:BQ v.lo i][h2:BQ v.hi i][h3:BQ t j](hi:i<=10000000:=by decide)(hj:j<=9999999:=by decide):PF GB prog 271 [eW v, .ag [vI (ce t),vI (cg t),co t,vI 0,vI 0, .v (.pointer none), .v (.bool false), .v (.bool true)]] (.tp [eW (v.meet ⟨t,0,false,true⟩),vB (!(v.meet ⟨t,0,false,true⟩).empty)]):=
 (Nu (v:=v) (w:=⟨t,0,false,true⟩) (j:=j+1) (h3:=h3.mono (by omega)) (h4:=BQ.z1.mono (by omega)) hi (by omega)).ofI fun G vs hv=>IM (fun y hy=>by
  obtain⟨l,rfl,g⟩:=d7.1 hy;exact d7.2 ⟨l,J,F8 [_,_,_] g⟩) hv
def SM{v:ah}{t:Rat}{i j:Nat}[h1:BQ v.lo i][h2:BQ v.hi i][h3:BQ t j](hi:i<=10000000:=by decide)(hj:j<=9999999:=by decide):PF GB prog 271 [eW v, .ag [vI 0,vI 0, .v (.pointer none),vI (ce t),vI (cg t),co t, .v (.bool true), .v (.bool false)]] (.tp [eW (v.meet ⟨0,t,true,false⟩),vB (!(v.meet ⟨0,t,true,false⟩).empty)]):=
 (Nu (v:=v) (w:=⟨0,t,true,false⟩) (j:=j+1) (h4:=h3.mono (by omega)) (h3:=BQ.z1.mono (by omega)) hi (by omega)).ofI fun G vs hv=>IM (fun y hy=>by
  obtain⟨l,rfl,g⟩:=d7.1 hy;exact d7.2 ⟨l,J,A9 g⟩) hv
instance BQ.cutK (l m:aa) [LB l] [LB m]:BQ (l.cutK m) 400:=BQ.mono (inferInstance:BQ (m.nor.dot l.dir) _) (by decide)
instance BQ.cutC (l m:aa) [LB l] [LB m]:BQ (l.cutC m) 2500:=BQ.mono (inferInstance:BQ (m.value l.base) _) (by decide)
def P5{l m:aa}{v:ah}{i:Nat}[hl:LB l][hm:LB m][h1:BQ v.lo i][h2:BQ v.hi i](hi:i<=10000000:=by decide):PF GB prog 227 [eG l,eW v,eG m] (.tp [eW (l.cutV v m),vB (l.cutB v m)]):=by
 refine fn func227 J J ntmps227 J J (fun C=>?_);refine cl J (AK (l:=m)) J<|cl J (xR (l:=l)) J<|cl J (IQ (p:=m.nor) (q:=l.dir)) J<|cl J (Ll (l:=l)) J<|?_;refine cl J (Lm (l:=m) (p:=l.base)) J<|cl J (po (q:=l.cutK m)) J<|?_;refine br J J J (fun hc21=>?_) (fun hc21=>?_)
 .
  refine cl J (po (q:=l.cutC m)) J<|?_;exact rz J (by unfold aa.cutV aa.cutB;rw[if_pos hc21,if_pos hc21];rfl)
 .
  refine br J J J (fun hc27=>?_) (fun hc27=>?_)
  .
   refine cl J (xT (p:=l.cutC m) (q:=l.cutK m)) J<|cl J (uY (q:=l.cutC m/l.cutK m)) J<|cl J (axN (v:=v) (t:= -(l.cutC m/l.cutK m)) hi) J<|?_;exact rz J (by unfold aa.cutB aa.cutV;rw[if_neg hc21,if_neg hc21,if_pos hc27];rfl)
  .
   refine cl J (xT (p:=l.cutC m) (q:=l.cutK m)) J<|cl J (uY (q:=l.cutC m/l.cutK m)) J<|cl J (SM (v:=v) (t:= -(l.cutC m/l.cutK m)) hi) J<|?_;exact rz J (by unfold aa.cutB aa.cutV;rw[if_neg hc21,if_neg hc21,if_neg hc27];rfl)
def Ul{v:ah}{i:Nat}[h1:BQ v.lo i][h2:BQ v.hi i](hi:i<=10000000:=by decide):PF GB prog 268 [eW v] (eF v.sample):=by
 refine fn func268 J J ntmps268 J J (fun C=>?_);refine jy 6 J J J (fun hg6=>?_) (fun hg6=>?_)
 .
  refine bb J J J (fun hc3=>?_) (fun hc3=>?_)
  .
   exact jn J (by unfold ah.sample;rw[hg6,hc3];exact AS)
  .
   refine bb J J J (fun hc11=>?_) (fun hc11=>?_)
   .
    refine cl J (qp (m:=1) (by decide)) J<|cl J (uN (p:=v.hi) (q:=((1:Int):Rat)) (by omega) (by decide)) J<|?_;exact rz J (by unfold ah.sample;simp_all [eE]<;>rfl)
   .
    refine bb J J J (fun hc18=>?_) (fun hc18=>?_)
    .
     refine cl J (qp (m:=1) (by decide)) J<|cl J (kg (p:=v.lo) (q:=((1:Int):Rat)) (by omega) (by decide)) J<|?_;exact rz J (by unfold ah.sample;simp_all [eE]<;>rfl)
    .
     refine cl J (kg (p:=v.lo) (q:=v.hi) (by omega) (by omega)) J<|cl J (EO (q:=v.lo+v.hi) (by omega)) J<|?_;exact rz J (by unfold ah.sample;simp_all [eE]<;>rfl)
 .
  refine bb J J J (fun hc11=>?_) (fun hc11=>?_)
  .
   refine cl J (qp (m:=1) (by decide)) J<|cl J (uN (p:=v.hi) (q:=((1:Int):Rat)) (by omega) (by decide)) J<|?_;exact rz J (by unfold ah.sample;simp_all [eE]<;>rfl)
  .
   refine bb J J J (fun hc18=>?_) (fun hc18=>?_)
   .
    refine cl J (qp (m:=1) (by decide)) J<|cl J (kg (p:=v.lo) (q:=((1:Int):Rat)) (by omega) (by decide)) J<|?_;exact rz J (by unfold ah.sample;simp_all [eE]<;>rfl)
   .
    refine cl J (kg (p:=v.lo) (q:=v.hi) (by omega) (by omega)) J<|cl J (EO (q:=v.lo+v.hi) (by omega)) J<|?_;exact rz J (by unfold ah.sample;simp_all [eE]<;>rfl)
instance BQ.i1':BQ (1:Rat) 2:=⟨by decide,by decide⟩
instance BQ.i2':BQ (2:Rat) 2:=⟨by decide,by decide⟩
theorem RZ{v:ah}{i:Nat}[BQ v.lo i][BQ v.hi i]:BQ (jB v) (i+i+5):=by
 unfold jB;split
 ·exact BQ.mono (k:=1) ⟨by decide,by decide⟩ (by omega)
 ·split
  ·exact BQ.mono (inferInstance:BQ (v.hi-1) _) (by omega)
  ·split
   ·exact BQ.mono (inferInstance:BQ (v.lo+1) _) (by omega)
   ·exact BQ.mono (inferInstance:BQ ((v.lo+v.hi)/2) _) (by omega)
instance aO.at (l:aa) (t:Rat) (k:Nat) [LB l] [BQ t k]:aO (l.at t) (900+(k+97)+1):=by
 rw[<-tj];infer_instance
def as6{q:Rat}(h: ¬q.num.sign=0):q≠0:=fun e=>h ((n8 q).2 e)
def oq(d:ab):ab:=⟨-d.y,d.x⟩
instance aO.turn (d:ab) (k:Nat) [aO d k]:aO (oq d) k:=⟨inferInstanceAs (BQ (-d.y) k),inferInstanceAs (BQ d.x k)⟩
def tF(p v:ab)(m:aa):Rat:= -(m.value p/(m.value (ck p v ((1:Int):Rat))-m.value p))
def om(p v:ab)(m:aa)(s:Rat):Rat:=if(m.value (ck p v ((1:Int):Rat))-m.value p).num.sign=0 then s else if(m.value p).num.sign=0 then s else if 0<(tF p v m).num.sign then(if bm (tF p v m/2) s<0 then tF p v m/2 else s) else s
def m5(p v:ab):List aa->Rat->Rat
 |[],s=>s
 |m::t,s=>m5 p v t (om p v m s)
def xw(c:List aa)(p v:ab):ab:=ck p v (m5 p v c ((1:Int):Rat))
def Az{c:List aa}{p v:ab}{k:Nat}{s s' r:Rat}{m:aa}(h:m5 p v (c.drop k) s=r)(hk:k<c.length)(hm:m=c[k])(e:om p v m s=s'):m5 p v (c.drop (k+1)) s'=r:=by
 rw[bX hk] at h;rw[<-h,m5,<-hm,e]
def Ts{c:List aa}{p v:ab}(hc: ∀m∈c,LB m)(hn:c.length<=1000)(hp:aO p 4500)(hv:aO v 97):PF GB prog 207 [.sl (c.map eL),eP p,eP v] (eP (xw c p v)):=by
 have hcl:=vT c;refine fn func207 J J ntmps207 J J (fun C=>?_);refine cl (fu:=⟨9⟩) J (lc (n:=1) (by decide) (by decide)) J<|?_;refine aj 14 (.d (vI (c.length:Nat))) J (by rw[hcl];rfl) ?_;refine gx J<|?_;refine lp (X:=Rat×Nat) (fun⟨s,k⟩=>[(15, .d (vI (k:Nat))),(14, .d (vI (c.length:Nat))),(13, .d (.sl (c.map eL))),(4, .ov 4 0),(5, .ov 5 0),(7, .ov 7 0),(6, .ov 6 0)]) (fun⟨s,k⟩=>[(7,some (.o 48 [.d ((.v (.bool (decide (s.num<0))))), .d (dN s.num.natAbs), .d (dD s.den)] true)),(6,some (.o 62 [.ff, .nl, .nl, .ff, .nl, .nl] true)),(5,some (.o 62 [.d ((.v (.bool (decide (v.x.num<0))))), .d (dN v.x.num.natAbs), .d (dD v.x.den), .d ((.v (.bool (decide (v.y.num<0))))), .d (dN v.y.num.natAbs), .d (dD v.y.den)] true)),(4,some (.o 62 [.d ((.v (.bool (decide (p.x.num<0))))), .d (dN p.x.num.natAbs), .d (dD p.x.den), .d ((.v (.bool (decide (p.y.num<0))))), .d (dN p.y.num.natAbs), .d (dD p.y.den)] true))]) (fun⟨s,k⟩=>k<=c.length/\BQ s 60000/\m5 p v (c.drop k) s=m5 p v c ((1:Int):Rat)) (fun⟨s,k⟩=>c.length-k) ⟨((1:Int):Rat),0⟩ J ⟨bJ _,BQ.i1.mono (by decide),J⟩ (fun _=>J) (fun⟨s,k⟩ hk=>?_)
 try dsimp only at hk⊢
 obtain⟨hle,hsb,hns⟩:=hk;refine br J J J (fun hc16=>?_) (fun hc16=>?_)
 .
  have hk:k<c.length:=by omega
  obtain⟨m,hm⟩: ∃m,m=c[k]:=⟨_,rfl⟩;haveI hmb:LB m:=hm▸hc _ (cJ hk);have hinv:=hsb;refine ix (fu:=⟨1⟩) _ J (wn hk) J<|?_;refine aj 18 (.d (eL m)) J (by rw[hm];rfl) ?_;refine gx J<|cl J (lc (n:=1) (by decide) (by decide)) J<|cl J (yq (p:=p) (q:=v) (c:=((1:Int):Rat))) J<|cl J (B5 (l:=m) (p:=ck p v ((1:Int):Rat))) J<|?_;refine cl J (B5 (l:=m) (p:=p)) J<|cl J (tD (a:=m.value (ck p v ((1:Int):Rat))) (b:=m.value p)) J<|cl J (qa (q:=m.value (ck p v ((1:Int):Rat))-m.value p)) J<|?_;refine cs 32 J J J (fun hg32=>?_) (fun hg32=>?_)
  .
   exact at_ ⟨s,k+1⟩ (by dsimp only;exact⟨⟨by omega,hinv,(Az hns hk hm (by unfold om;rw[if_pos hg32]))⟩,(by omega)⟩)
  .
   refine cl J (CE (l:=m) (p:=p)) J<|?_;refine br J J J (fun hc37=>?_) (fun hc37=>?_)
   .
    exact at_ ⟨s,k+1⟩ (by dsimp only;exact⟨⟨by omega,hinv,(Az hns hk hm (by unfold om;rw[if_neg hg32,if_pos hc37]))⟩,(by omega)⟩)
   .
    refine cl J (B5 (l:=m) (p:=p)) J<|cl J (xO (a:=m.value p) (b:=m.value (ck p v ((1:Int):Rat))-m.value p) (as6 hg32)) J<|?_;refine cl J (wF (q:=m.value p/(m.value (ck p v ((1:Int):Rat))-m.value p))) J<|cl (fu:=⟨0⟩) J (qa (q:= -(m.value p/(m.value (ck p v ((1:Int):Rat))-m.value p)))) J<|?_;refine kG (v2:=fun hg46=>by simp only[ac];exact⟨by kernel_rfl,by omega⟩) J J J J (fun hg46=>?_) (fun hg46=>?_)
    .
     refine cl J (IC (a:= -(m.value p/(m.value (ck p v ((1:Int):Rat))-m.value p)))) J<|cl J (lu (a:= -(m.value p/(m.value (ck p v ((1:Int):Rat))-m.value p))/2) (b:=s)) J<|?_;refine br J J J (fun hc53=>?_) (fun hc53=>?_)
     .
      obtain⟨t,ht⟩: ∃t,t= -(m.value p/(m.value (ck p v ((1:Int):Rat))-m.value p)):=⟨_,rfl⟩;haveI htb:BQ t 45000:=ht▸BQ.mono inferInstance (by decide);have hinv:BQ (t/2) 60000:=BQ.mono inferInstance (by decide);rw[<-ht];refine cl J (IC (a:=t)) J<|?_;exact at_ ⟨t/2,k+1⟩ (by dsimp only;exact⟨⟨by omega,hinv,(Az hns hk hm (by unfold om;rw[if_neg hg32,if_neg hc37,show tF p v m=t from ht.symm,if_pos (by rw[ht];exact hg46),if_pos (by rw[ht];exact hc53)]))⟩,(by omega)⟩)
     .
      exact at_ ⟨s,k+1⟩ (by dsimp only;exact⟨⟨by omega,hinv,(Az hns hk hm (by unfold om;rw[if_neg hg32,if_neg hc37,if_pos (show 0<(tF p v m).num.sign from hg46),if_neg (show¬bm (tF p v m/2) s<0 from hc53)]))⟩,(by omega)⟩)
    .
     exact at_ ⟨s,k+1⟩ (by dsimp only;exact⟨⟨by omega,hinv,(Az hns hk hm (by unfold om;rw[if_neg hg32,if_neg hc37,if_neg (show¬0<(tF p v m).num.sign from hg46)]))⟩,(by omega)⟩)
 .
  refine cl J (yq (p:=p) (q:=v) (c:=s)) J<|?_;exact rz J (by unfold xw;rw[<-hns,kQ (by omega)];rfl)
def iG(c:List aa):List aa->ab
 |[]=>⟨0,0⟩
 |m::t=>if(fj m c ah.all).2=true then xw c (m.at (jB (fj m c ah.all).1)) (oq m.dir) else iG c t
def UZ{c:List aa}{k:Nat}{m:aa}(h:iG c (c.drop k)=iG c c)(hk:k<c.length)(hm:m=c[k])(e:(fj m c ah.all).2=true):iG c c=xw c (m.at (jB (fj m c ah.all).1)) (oq m.dir):=by
 rw[<-h,bX hk,iG,<-hm,if_pos e]
def Yb{c:List aa}{k:Nat}{m:aa}(h:iG c (c.drop k)=iG c c)(hk:k<c.length)(hm:m=c[k])(e: ¬(fj m c ah.all).2=true):iG c (c.drop (k+1))=iG c c:=by
 rw[<-h,bX hk,iG,<-hm,if_neg e]
def Y2{c:List aa}{m:aa}(h:m∈c)(h2:(eO m c ah.all).isSome=true):i5 c=true:=by
 unfold i5;rw[iW,jS];exact .inr ⟨m,h,h2⟩
def XF{c:List aa}(h:c=[]):i5 c=true:=by subst h;rfl
def VT{c:List aa}(h:c≠[])(h2: ∀m∈c,(eO m c ah.all).isSome=false):i5 c=false:=by
 rw[<-mR];unfold i5;rw[iW,jS,List.isEmpty_iff];rintro (e|⟨m,h3,h4⟩)
 ·exact h e
 ·rw[h2 m h3] at h4;exact absurd h4 (by decide)
def Hc:eP ⟨0,0⟩= .ag [.v (.bool false), .sl [], .sl [], .v (.bool false), .sl [], .sl []]:=by
 unfold eP dD;simp only[show(0:Rat).num=0 from J,show(0:Rat).den=1 from J,kL,oE];rfl
def HO{c:List aa}(hc: ∀m∈c,LB m)(hok: ∀m∈c,m.ok)(hn:c.length<=1000):PF GB prog 150 [.sl (c.map eL)] (.tp [eP (iG c c),vB (i5 c)]):=by
 have hcl:=vT c;refine fn func150 J J ntmps150 J J (fun C=>?_);refine br (fu2:=⟨7⟩) J J J (fun hc11=>?_) (fun hc11=>?_)
 .
  exact rz J (by rw[bS (l:=c) (by omega),XF J];show _=DV.tp [eP ⟨0,0⟩,_];rw[Hc];rfl)
 .
  refine aj 14 (.d (vI (c.length:Nat))) J (by rw[hcl];rfl) ?_;refine gx J<|?_;refine lp (X:=Nat) (fun k=>[(15, .d (vI (k:Nat))),(14, .d (vI (c.length:Nat))),(13, .d (.sl (c.map eL))),(0, .d (.sl (c.map eL))),(2, .ov 2 0)]) (fun k=>[(2,some (.o 62 [.ff, .nl, .nl, .ff, .nl, .nl] true))]) (fun k=>k<=c.length/\(∀m∈c.take k,(eO m c ah.all).isSome=false)/\iG c (c.drop k)=iG c c) (fun k=>c.length-k) 0 J ⟨bJ _,fun m hm=>absurd hm (by simp),J⟩ (fun _=>J) (fun k hk=>?_);obtain⟨hle,hno,hip⟩:=hk;refine br J J J (fun hc16=>?_) (fun hc16=>?_)
  .
   have hk:k<c.length:=by omega
   obtain⟨m,hm⟩: ∃m,m=c[k]:=⟨_,rfl⟩;haveI hmb:LB m:=hm▸hc _ (cJ hk);have hmo:m.ok:=hm▸hok _ (cJ hk);refine ix (fu:=⟨1⟩) _ J (wn hk) J<|?_;refine aj 19 (.d (eL m)) J (by rw[hm];rfl) ?_;refine gx J<|cl (fu:=⟨0⟩) J (RH hc hok hn hk) J<|?_;refine aj 23 (.d (.tp [eV (fj m c ah.all).1,vB (fj m c ah.all).2])) J (by rw[hm]) ?_;refine gx J<|?_;refine bb J J J (fun hc26=>?_) (fun hc26=>?_)
   .
    have hbd:=Bi (v:=ah.all) hmo.ne hc gE.all (BQ.mono (k:=1) ⟨by decide,by decide⟩ (by decide)) (BQ.mono (k:=1) ⟨by decide,by decide⟩ (by decide));obtain⟨s,hs⟩: ∃s,s=(fj m c ah.all).1:=⟨_,rfl⟩;rw[<-hs] at hbd;haveI:=hbd.1;haveI:=hbd.2;haveI hsb:=RZ (v:=s) (i:=1200);have hpt:aO (m.at (jB s)) 4500:=by have:=aO.at m (jB s) (1200+1200+5);exact⟨this.x.mono (by decide),this.y.mono (by decide)⟩
    have hin:i5 c=true:=Y2 (hm▸cJ hk) (by rw[<-wI];exact hc26);have hpn:=UZ hip hk hm hc26;rw[<-hs] at hpn⊢;refine cl J (uD (l:=m)) J<|cl J (Z9 (v:=s)) J<|cl J (JV (l:=m) (t:=jB s) hmo.ne) J<|cl J (wF (q:=m.dir.y)) J<|?_;refine cl J (Ts (p:=m.at (jB s)) (v:=oq m.dir) hc hn (hpt) inferInstance) J<|?_;exact rz J (by rw[hin,hpn];rfl)
   .
    exact at_ (k+1) ⟨⟨by omega,TV hno hk (by rw[<-hm,<-wI];exact hc26),Yb hip hk hm (by rw[hc26];decide)⟩,(by omega)⟩
  .
   exact rz J (by rw[VT (fun e=>hc11 (by rw[e];rfl)) (fun m hm=>hno m (by rw[aT (by omega)];exact hm)),<-hip,kQ (by omega)];show _=DV.tp [eP ⟨0,0⟩,_];rw[Hc];rfl)
end Go.Sx
end
