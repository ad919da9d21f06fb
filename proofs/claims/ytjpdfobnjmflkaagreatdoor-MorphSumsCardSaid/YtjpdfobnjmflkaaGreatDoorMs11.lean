import Derived.Test.YtjpdfobnjmflkaaGreatDoorMs10
set_option linter.all false
set_option maxHeartbeats 4000000
set_option maxRecDepth 100000
section
namespace Go.Sx
open Go Go.Proofs Tryz
variable {GB G:Gh}{m l:aa}{g d i j k:Nat}{q t s s':Rat}{vs:List Value}{v w:ar}{n:NQ}
def S9{m:Int}(hg:(g:Int)∣m)(hb:m.natAbs<4611686018427387904):IntKind.i64.wrap (m.tdiv g)=m/g:=by
 rw[Int.tdiv_eq_ediv_of_dvd hg];have:=nN m g;exact avG (by omega)
def tm(a b:Int):Int:=if(a*b).natAbs<4611686018427387904 then a*b else 0
def Hx(a b:Int):(tm a b).natAbs<4611686018427387904:=by unfold tm;split<;>omega
def AZ{a b:Int}(h:(a*b).natAbs<4611686018427387904):tm a b=a*b:=if_pos h
def LW{a b:Int}(h: ¬(a*b).natAbs<4611686018427387904:=by omega):DV.tp [vI 0, .v (.bool false)]= .tp [vI (tm a b),vB (decide ((a*b).natAbs<4611686018427387904))]:=by unfold tm;rw[if_neg h,decide_eq_false h];rfl
def Q9{a b:Int}{x:Int}(h:(a*b).natAbs<4611686018427387904)(e:x=a*b):DV.tp [vI x, .v (.bool true)]= .tp [vI (tm a b),vB (decide ((a*b).natAbs<4611686018427387904))]:=by unfold tm;rw[if_pos h,decide_eq_true h,e];rfl
def SS(n:Nat):eI (n:Int)= .ag [.v (.bool false),dN n]:=by unfold eI;rw[decide_eq_false (by omega),fW]
def aFP{p:Rat}(hp:p.den=1)(hq:q.den=1):rgcd p q=((Nat.gcd p.num.natAbs q.num.natAbs:Nat):Int):=by
 conv=>lhs;rw[D6 hp,D6 hq]
 exact JY _ _
def aDo(q:Rat):mkRat (zv (decide (q.num<0)) q.den) q.num.natAbs=q⁻¹:=by
 rw[Rat.inv_def];by_cases h:q.num<0
 .rw[decide_eq_true h];exact Uv h
 .rw[decide_eq_false h,<-Rat.divInt_ofNat,oQ (by omega)];rfl
instance BQ.inv (q:Rat) (i:Nat) [h:BQ q i]:BQ q⁻¹ i:=by
 have h1:=h.hn;have h2:=h.hd;have h3:=q.den_nz;rcases pY q.num 0 with k|k|k
 .obtain⟨e1,e2⟩:=Q7 k;exact⟨by omega,by omega⟩
 .have e:q=0:=mX.1 k
  have e0:(0:Rat)⁻¹=0:=Rat.inv_zero;rw[e] at h1 h2⊢;rw[e0];exact⟨h1,h2⟩
 .obtain⟨e1,e2⟩:=Oj k;exact⟨by omega,by omega⟩
instance BQ.half:BQ (mkRat 1 2) 2:=⟨by decide,by decide⟩
def aCO{x y:Nat}(hx:x<18446744073709551616)(hy:y<18446744073709551616):PF GB prog 267 [.v (.int .u64 (x:Nat)), .v (.int .u64 (y:Nat))] (.tp [.v (.int .u64 ((x*y/18446744073709551616:Nat):Int)), .v (.int .u64 ((x*y%18446744073709551616:Nat):Int))]):=fun G vs _ hv=>by
 obtain⟨v,m,rfl,h1,h2⟩:=bi.1 hv;obtain⟨u,m',rfl,h3,h4⟩:=bi.1 h2
 cases en.1 h4
 rw[aH.1 h1,aH.1 h3];exact(Wj hx hy).mono fun v G' _ h=>by subst h;exact l5.2 ⟨_,J, .cons (aH.2 J) (.cons (aH.2 J) .nil)⟩
def O0{a b:Nat}(ha:a<18446744073709551616:=by omega)(hb:b<18446744073709551616:=by omega):PF GB prog 247 [.v (.int .u64 (a:Nat)), .v (.int .u64 (b:Nat))] (.v (.int .u64 (Nat.gcd a b:Nat))):=by
 refine fn func247 J J ntmps247 J J (fun C=>?_);refine lp (X:=Nat×Nat) (fun⟨u,v⟩=>[(1, .d (.v (.int .u64 (v:Nat)))),(0, .d (.v (.int .u64 (u:Nat))))]) (fun⟨u,v⟩=>[]) (fun⟨u,v⟩=>u<18446744073709551616/\v<18446744073709551616/\Nat.gcd u v=Nat.gcd a b) (fun⟨u,v⟩=>v) (a,b) J ⟨ha,hb,J⟩ (fun _=>J) (fun⟨u,v⟩ hk=>?_);dsimp only at hk⊢;obtain⟨h1,h2,h3⟩:=hk;refine br (v1:=fun hc6=>by simp only[ak];exact⟨by omega,by kernel_rfl⟩) J J J (fun hc6=>?_) (fun hc6=>?_)
 .
  have hm:=dV u (show 0<v by omega);exact at_ (v,u%v) (by dsimp only;exact⟨⟨h2,by omega,by rw[<-h3,jW u v,uZ v u,jW]⟩,hm⟩)
 .
  exact rz J (by rw[<-h3,show v=0 by omega,nU];rfl)
def wJ{m:Int}(h:m.natAbs<9223372036854775808:=by decide):PF GB prog 185 [vI m] (eF (m:Rat)):=by
 refine fn func185 J J ntmps185 J J (fun C=>?_);refine cs 5 J J J (fun hg5=>?_) (fun hg5=>?_)
 .
  refine cl J (HY (m:=m)) J<|rf (fu:=⟨0⟩) J J<|aj 11 (.d (dN 1)) J (by unfold dN;rw[AC];rfl)<|gx J<|cl J (u9 (n:=decide (m<0)) (a:=m.natAbs) (i:=63) (h:=⟨h⟩) (d:=1)) J<|rz J (by rw[lI,show mkRat m 1=(m:Rat) from sM ..];rfl)
 .
  refine br J J J (fun hc8=>?_) (fun hc8=>?_)
  .
   refine cl J (HY (m:=m)) J<|rf (fu:=⟨0⟩) J J<|aj 11 (.d (dN 1)) J (by unfold dN;rw[AC];rfl)<|gx J<|cl J (u9 (n:=decide (m<0)) (a:=m.natAbs) (i:=63) (h:=⟨h⟩) (d:=1)) J<|rz J (by rw[lI,show mkRat m 1=(m:Rat) from sM ..];rfl)
  .
   exact ju J (Na (by omega))
def BH{a b:Int}(ha:a.natAbs<4611686018427387904:=by omega)(hb:b.natAbs<4611686018427387904:=by omega):PF GB prog 207 [vI a,vI b] (.tp [vI (tm a b),vB (decide ((a*b).natAbs<4611686018427387904))]):=by
 have hab:=fV a b;refine fn func207 J J ntmps207 J J (fun C=>?_);refine cl J (Av (m:=a)) J<|cl J (Av (m:=b)) J<|cl J (aCO (x:=a.natAbs) (y:=b.natAbs) (by omega) (by omega)) J<|cs 18 J J J (fun hg18=>?_) (fun hg18=>?_)
 .
  exact rz J (LW)
 .
  refine br J J J (fun hc21=>?_) (fun hc21=>?_)
  .
   exact rz J (LW)
  .
   refine bb J J J (fun hc26=>?_) (fun hc26=>?_)
   .
    have hs:=KX a b;rw[if_neg (by simpa using hc26)] at hs;exact rz J (Q9 (by omega) (by rw[hs,<-hab];omega))
   .
    have hs:=KX a b;rw[if_pos (by simpa using hc26)] at hs;exact rz J (Q9 (by omega) (by rw[hs,<-hab];omega))
def ME{m:Int}(h:m.natAbs<4611686018427387904)(h0:0<d)(hd:d<4611686018427387904):PF GB prog 208 [vI m,vI (d:Nat)] (eF (mkRat m d)):=by
 have hg:Nat.gcd m.natAbs d<=d:=Nat.gcd_le_right _ h0;have hg0:0<Nat.gcd m.natAbs d:=qR _ h0;obtain⟨e1,e2⟩:=OW (m:=m) h0;have e3:=nN m (Nat.gcd m.natAbs d:Nat);have e4:=mS d (Nat.gcd m.natAbs d);have e5:=Nat.div_pos hg hg0;refine fn func208 J J ntmps208 J J (fun C=>?_);refine cl J (Av (m:=m)) J<|cl J (O0 (a:=m.natAbs) (b:=d)) J<|br (fu1:=⟨4⟩) J J J (fun hc13=>?_) (fun hc13=>?_)
 .
  refine aj 16 (.d (vI (m/(Nat.gcd m.natAbs d:Nat)))) J (by rw[S9 (Int.dvd_natAbs.1 (rW.2 (kL _ _))) h];rfl)<|gx (fu:=⟨3⟩) J<|aj 19 (.d (vI ((d/Nat.gcd m.natAbs d:Nat)))) J (by rw[S9 (rW.2 (lM _ _)) (by rw[fW];exact hd)];rfl)<|gx (hv:=by simp only[ak];exact⟨by kernel_rfl,by omega⟩) J<|ju J (tk (fun k=>k ⟨by rw[e1];omega,by rw[e2];omega⟩) e1 (by rw[e2]) J)
 .
  exact ju J (by have h1:Nat.gcd m.natAbs d=1:=(by omega);rw[h1,uX] at e2;rw[h1,Int.natCast_one,Int.ediv_one] at e1;exact tk (fun k=>k ⟨by rw[e1];omega,by rw[e2];omega⟩) e1 (by rw[e2]) J)
def n8{p:Rat}[h:BQ p i][k:BQ q j](hi:i<=100000000:=by decide)(hj:j<=100000000:=by decide):PF GB prog 215 [eF p,eF q] (eF (p*q)):=by
 refine fn (fu:=⟨8⟩) func215 J J ntmps215 J J (fun C=>?_);refine mg (X:=Unit) (fun _=>[(2, .ov 2 0),(3, .ov 3 0),(4, .ov 4 0)]) (fun _=>[(2,some (.o 158 [.d (vI (dm p)), .d (vI (dw p)), .d (dl p)] true)),(3,some (.o 158 [.d (vI (dm q)), .d (vI (dw q)), .d (dl q)] true)),(4,some (.o 158 [.d (.v (.int .i64 0)), .d (.v (.int .i64 0)), .d (.v (.pointer none))] true))]) (fun _=>True) [2,3,4] [2,3,4] rfl ?_ (fun _=>J) (fun _ _=>?_)
 .
  refine gx J<|cs 12 J J J (fun hg12=>?_) (fun hg12=>?_)
  .
   refine br (fu1:=⟨4⟩) J J J (fun hc16=>?_) (fun hc16=>?_)
   .
    have hp:=s5 hg12;have hq:=s5 hc16;have p1:=ni hp;have p2:=pu hp;have p3:=qe hp;have p4:=qj hp;have p5:=p.den_nz;have q1:=ni hq;have q2:=pu hq;have q3:=qe hq;have q4:=qj hq;have q5:=q.den_nz;refine aj 19 (.d (vI p.num)) J (by rw[p1])<|gx (fu:=⟨2⟩) J<|aj 21 (.d (vI q.num)) J (by rw[q1])<|gx J<|cl (fu:=⟨12⟩) J (BH (a:=p.num) (b:=q.num)) J<|aj 28 (.d (vI (p.den:Nat))) J (by congr 3;omega)<|gx (fu:=⟨3⟩) J<|aj 31 (.d (vI (q.den:Nat))) J (by congr 3;omega)<|gx J<|cl J (BH (a:=(p.den:Nat)) (b:=(q.den:Nat))) J<|csd 36 J J J (fun hg36=>?_) (fun hg36=>?_)
    .
     refine bd (fu1:=⟨3⟩) J J J (fun hc38=>?_) (fun hc38=>?_)
     .
      have hd1:p.den*q.den<4611686018427387904:=by omega
      refine aj 39 (.d (vI (p.num*q.num))) J (by rw[AZ hg36])<|gx (fu:=⟨1⟩) J<|aj 40 (.d (vI ((p.den*q.den:Nat)))) J (by rw[AZ hc38];rfl)<|gx J<|cl J (ME (m:=p.num*q.num) (d:=p.den*q.den) hg36 (jK (by omega) (by omega)) hd1) J<|rz J (by rw[<-Bj];rfl)
     .
      exact at_ () trivial
    .
     exact at_ () trivial
   .
    exact at_ () trivial
  .
   exact at_ () trivial
 .
  refine cl J (s7 (q:=p) (by omega)) J<|cl J (s7 (q:=q) (by omega)) J<|cl J (Ik (a:=p.num) (b:=q.num) (by omega) (by omega)) J<|cl J (ri (q:=p) (by omega)) J<|cl J (ri (q:=q) (by omega)) J<|cl J (zh (a:=p.den) (b:=q.den) (by omega) (by omega)) J<|cl J (u9 (n:=decide (p.num*q.num<0)) (a:=(p.num*q.num).natAbs) (d:=p.den*q.den) (i:=i+j) (j:=i+j) (by omega) (by omega)) J<|rz J (by rw[lI,<-Bj];rfl)
def r9{p:Rat}[h:BQ p i][k:BQ q j](hi:i<=100000000:=by decide)(hj:j<=100000000:=by decide):PF GB prog 131 [eF p,eF q] (eF (p+q)):=by
 refine fn (fu:=⟨8⟩) func131 J J ntmps131 J J (fun C=>?_);refine mg (X:=Unit) (fun _=>[(2, .ov 2 0),(3, .ov 3 0),(4, .ov 4 0)]) (fun _=>[(2,some (.o 158 [.d (vI (dm p)), .d (vI (dw p)), .d (dl p)] true)),(3,some (.o 158 [.d (vI (dm q)), .d (vI (dw q)), .d (dl q)] true)),(4,some (.o 158 [.d (.v (.int .i64 0)), .d (.v (.int .i64 0)), .d (.v (.pointer none))] true))]) (fun _=>True) [2,3,4] [2,3,4] rfl ?_ (fun _=>J) (fun _ _=>?_)
 .
  refine gx J<|cs 16 J J J (fun hg16=>?_) (fun hg16=>?_)
  .
   refine br (fu1:=⟨1⟩) J J J (fun hc20=>?_) (fun hc20=>?_)
   .
    have hp:=s5 hg16;have hq:=s5 hc20;have p1:=ni hp;have p2:=pu hp;have p3:=qe hp;have p4:=qj hp;have p5:=p.den_nz;have q1:=ni hq;have q2:=pu hq;have q3:=qe hq;have q4:=qj hq;have q5:=q.den_nz;refine mg (fu:=⟨4⟩) (X:=Unit) (fun _=>[(2, .ov 2 0),(3, .ov 3 0),(4, .ov 4 0)]) (fun _=>[(2,some (.o 158 [.d (vI (dm p)), .d (vI (dw p)), .d (dl p)] true)),(3,some (.o 158 [.d (vI (dm q)), .d (vI (dw q)), .d (dl q)] true)),(4,some (.o 158 [.d (.v (.int .i64 0)), .d (.v (.int .i64 0)), .d (.v (.pointer none))] true))]) (fun _=>True) [2,3,4] [2,3,4] rfl ?_ (fun _=>J) (fun _ _=>?_)
    .
     refine gx J<|cs 24 J J J (fun hg24=>?_) (fun hg24=>?_)
     .
      refine br (fu1:=⟨4⟩) J J J (fun hc28=>?_) (fun hc28=>?_)
      .
       refine aj 30 (.d (vI p.num)) J (by rw[p1])<|gx (fu:=⟨2⟩) J<|aj 32 (.d (vI q.num)) J (by rw[q1])<|gx J<|cl J (wJ (m:=p.num+q.num) (by omega)) J<|rz J (by rw[D6 (q:=p),D6 (q:=q),<-lW];rfl)
      .
       exact at_ () trivial
     .
      exact at_ () trivial
    .
     refine aj 37 (.d (vI p.num)) J (by rw[p1])<|gx (fu:=⟨3⟩) J<|aj 40 (.d (vI (q.den:Nat))) J (by congr 3;omega)<|gx J<|cl (fu:=⟨11⟩) J (BH (a:=p.num) (b:=(q.den:Nat))) J<|aj 46 (.d (vI q.num)) J (by rw[q1])<|gx (fu:=⟨3⟩) J<|aj 49 (.d (vI (p.den:Nat))) J (by congr 3;omega)<|gx J<|cl (fu:=⟨12⟩) J (BH (a:=q.num) (b:=(p.den:Nat))) J<|aj 56 (.d (vI (p.den:Nat))) J (by congr 3;omega)<|gx (fu:=⟨3⟩) J<|aj 59 (.d (vI (q.den:Nat))) J (by congr 3;omega)<|gx J<|cl (fu:=⟨3⟩) J (BH (a:=(p.den:Nat)) (b:=(q.den:Nat))) J<|?_;have t1:=Hx p.num (q.den:Nat);have t2:=Hx q.num (p.den:Nat);have t3:=Hx (p.den:Nat) (q.den:Nat);refine gx J<|csd 67 J J J (fun hg67=>?_) (fun hg67=>?_)
     .
      refine csd 70 J J J (fun hg70=>?_) (fun hg70=>?_)
      .
       refine csd 73 J J J (fun hg73=>?_) (fun hg73=>?_)
       .
        refine cs 77 J J J (fun hg77=>?_) (fun hg77=>?_)
        .
         refine br (fu1:=⟨3⟩) J J J (fun hc80=>?_) (fun hc80=>?_)
         .
          have u1:=AZ hg67;have u2:=AZ hg70;have u3:=AZ hg73;have hd1:p.den*q.den<4611686018427387904:=by omega
          refine aj 81 (.d (vI (p.num*(q.den:Nat)+q.num*(p.den:Nat)))) J (by rw[u1,u2];rfl)<|gx (fu:=⟨1⟩) J<|aj 82 (.d (vI ((p.den*q.den:Nat)))) J (by rw[u3];rfl)<|gx J<|cl J (ME (m:=p.num*(q.den:Nat)+q.num*(p.den:Nat)) (d:=p.den*q.den) (by omega) (jK (by omega) (by omega)) hd1) J<|rz J (by rw[<-BF];rfl)
         .
          exact at_ () trivial
        .
         exact at_ () trivial
       .
        exact at_ () trivial
      .
       exact at_ () trivial
     .
      exact at_ () trivial
   .
    exact at_ () trivial
  .
   exact at_ () trivial
 .
  refine cl J (s7 (q:=p) (by omega)) J<|cl (fu:=⟨1⟩) J (ri (q:=q) (by omega)) J<|aj 88 (.d (eI (q.den:Nat))) J (by rw[SS])<|gx J<|cl J (Ik (a:=p.num) (b:=(q.den:Nat)) (by omega) (by omega)) J<|cl J (s7 (q:=q) (by omega)) J<|cl (fu:=⟨1⟩) J (ri (q:=p) (by omega)) J<|aj 94 (.d (eI (p.den:Nat))) J (by rw[SS])<|gx J<|cl J (Ik (a:=q.num) (b:=(p.den:Nat)) (by omega) (by omega)) J<|cl J (Wc (a:=p.num*(q.den:Nat)) (b:=q.num*(p.den:Nat)) (i:=i+j) (j:=j+i) (by omega) (by omega)) J<|cl J (ri (q:=p) (by omega)) J<|cl J (ri (q:=q) (by omega)) J<|cl J (zh (a:=p.den) (b:=q.den) (by omega) (by omega)) J<|cl J (u9 (n:=decide (p.num*(q.den:Nat)+q.num*(p.den:Nat)<0)) (a:=(p.num*(q.den:Nat)+q.num*(p.den:Nat)).natAbs) (d:=p.den*q.den) (i:=i+j+(j+i)+1) (j:=i+j) (by omega) (by omega)) J<|rz J (by rw[lI,<-BF];rfl)
def p7{p:Rat}[h:BQ p i][k:BQ q j](hi:i<=100000000:=by decide)(hj:j<=100000000:=by decide):PF GB prog 125 [eF p,eF q] (eF (p-q)):=by
 refine fn func125 J J ntmps125 J J (fun C=>?_);refine cl J (pC (q:=q) (by omega)) J<|cl J (r9 (p:=p) (q:= -q) (by omega) (by omega)) J<|rz J (by rw[<-Rat.sub_eq_add_neg];rfl)
def Ii[h:BQ q i](hi:i<=400000000:=by decide):PF GB prog 200 [eF q] (eF q⁻¹):=by
 refine fn func200 J J ntmps200 J J (fun C=>?_);refine br (v1:=fun hc3=>by simp only[ak];exact⟨⟨hc3,hc3⟩,hc3⟩) J J J (fun hc3=>?_) (fun hc3=>?_)
 .
  refine cl J (u9 (n:=decide (q.num<0)) (a:=q.den) (d:=q.num.natAbs) (by omega) (by omega)) J<|rz J (by rw[aDo];rfl)
 .
  have q1:=ni (oc hc3);have q2:=pu (oc hc3);have q3:=qe (oc hc3);have q4:=qj (oc hc3);have q5:=q.den_nz;refine br J J J (fun hc26=>?_) (fun hc26=>?_)
  .
   exact ju rfl (by obtain⟨e1,e2⟩:=Q7 (q:=q) (by omega);exact tk (fun k=>k ⟨by omega,by omega⟩) (by omega) (by omega) rfl)
  .
   refine br J J J (fun hc39=>?_) (fun hc39=>?_)
   .
    exact ju J (by rw[mX.1 (show q.num=0 by omega),Rat.inv_zero];exact DF)
   .
    exact ju rfl (by obtain⟨e1,e2⟩:=Oj (q:=q) (by omega);exact tk (fun k=>k ⟨by omega,by omega⟩) (by omega) (by omega) rfl)
def BG{p:Rat}[h:BQ p i][k:BQ q j](hi:i<=100000000:=by decide)(hj:j<=100000000:=by decide):PF GB prog 259 [eF p,eF q] (eF (p/q)):=by
 refine fn func259 J J ntmps259 J J (fun C=>?_);refine cl J (Ii (q:=q) (by omega)) J<|cl J (n8 (p:=p) (q:=q⁻¹) (by omega) (by omega)) J<|rz J (by rw[Rat.div_def];rfl)
def RW{q r:DV}{t:List DV}(h: ∀y,Is G r y->Is G q y)(hv:IsLs G (r::t) vs):IsLs G (q::t) vs:=by
 obtain⟨y,m,rfl,h1,h2⟩:=bi.1 hv;exact .cons (h _ h1) h2
def HB{a q r:DV}{t:List DV}(h: ∀y,Is G r y->Is G q y)(hv:IsLs G (a::r::t) vs):IsLs G (a::q::t) vs:=by
 obtain⟨y,m,rfl,h1,h2⟩:=bi.1 hv;exact .cons h1 (RW h h2)
def Vt[h:BQ q i](hi:i<=100000000:=by decide):PF GB prog 215 [eF q, .ag [vI 1,vI 1, .v (.pointer none)]] (eF (q*mkRat 1 2)):=
 (n8 (p:=q) (q:=mkRat 1 2) hi).ofI fun G vs hv=>HB (fun y hy=>tk (q:=mkRat 1 2) (fun k=>k ⟨by decide,by decide⟩) (by decide) (by decide) J G y hy) hv
def MD[h:BQ q i](hi:i<=100000000:=by decide):PF GB prog 265 [eF q] (eF (q*mkRat 1 2)):=by
 refine fn func265 J J ntmps265 J J (fun C=>?_);refine cl J (Vt (q:=q) (by omega)) J<|rz J J
def wD{p:Rat}[h:BQ p i][k:BQ q j](hi:i<=100000000:=by decide)(hj:j<=100000000:=by decide):PF GB prog 250 [eF p,eF q] (vI (bA p q)):=by
 refine fn func250 J J ntmps250 J J (fun C=>?_);refine cs 8 J J J (fun hg8=>?_) (fun hg8=>?_)
 .
  refine cs 13 J J J (fun hg13=>?_) (fun hg13=>?_)
  .
   refine br J J J (fun hc19=>?_) (fun hc19=>?_)
   .
    have hp:=s5 hg8;have hq:=s5 hg13;have p1:=ni hp;have p2:=pu hp;have p3:=qe hp;have p4:=qj hp;have p5:=p.den_nz;have q1:=ni hq;have q2:=pu hq;have q3:=qe hq;have q4:=qj hq;have q5:=q.den_nz;have hl:=KO (a:=p) (b:=q);have hr:=KO (a:=q) (b:=p);unfold bA;refine br J J J (fun hc20=>?_) (fun hc20=>?_)
    .
     exact rz J (by rw[if_pos (hl.2 (by omega))];rfl)
    .
     refine br J J J (fun hc26=>?_) (fun hc26=>?_)
     .
      exact rz J (by rw[if_neg (fun e=>by have:=hl.1 e;omega),if_pos (hr.2 (by omega))];rfl)
     .
      exact rz J (by rw[if_neg (fun e=>by have:=hl.1 e;omega),if_neg (fun e=>by have:=hr.1 e;omega)];rfl)
   .
    refine cl J (p7 (p:=p) (q:=q) (by omega) (by omega)) J<|cl J (mc (q:=p-q) (by omega)) J<|rz J (by rw[EK];rfl)
  .
   refine cl J (p7 (p:=p) (q:=q) (by omega) (by omega)) J<|cl J (mc (q:=p-q) (by omega)) J<|rz J (by rw[EK];rfl)
 .
  refine cl J (p7 (p:=p) (q:=q) (by omega) (by omega)) J<|cl J (mc (q:=p-q) (by omega)) J<|rz J (by rw[EK];rfl)
def EH{p:Rat}[h:BQ p i][k:BQ q j](hi:i<=100000000:=by decide)(hj:j<=100000000:=by decide):PF GB prog 184 [eF p,eF q] (vB (decide (p=q))):=by
 refine fn func184 J J ntmps184 J J (fun C=>?_);refine cl J (wD (p:=p) (q:=q) hi hj) J<|rz J (by show DV.v (.bool (decide _))= .v (.bool _);congr 2;exact decide_eq_decide.2 (vu p q))
def Yo{p:Rat}[h:BQ p i][k:BQ q j](hi:i<=100000000:=by decide)(hj:j<=100000000:=by decide):PF GB prog 298 [eF p,eF q] (eF (if p<q then q else p)):=by
 refine fn func298 J J ntmps298 J J (fun C=>?_);refine cl J (wD (p:=q) (q:=p) hj hi) J<|br J J J (fun hc8=>?_) (fun hc8=>?_)
 .
  exact rz J (by rw[if_pos ((NH q p).1 hc8)];rfl)
 .
  exact rz J (by rw[if_neg (fun e=>hc8 ((NH q p).2 e))];rfl)
def RH{p:Rat}[h:BQ p i][k:BQ q j](hi:i<=100000000:=by decide)(hj:j<=100000000:=by decide):PF GB prog 201 [eF p,eF q] (eF (if q<p then q else p)):=by
 refine fn func201 J J ntmps201 J J (fun C=>?_);refine cl J (wD (p:=q) (q:=p) hj hi) J<|br J J J (fun hc8=>?_) (fun hc8=>?_)
 .
  exact rz J (by rw[if_pos ((MV q p).1 hc8)];rfl)
 .
  exact rz J (by rw[if_neg (fun e=>hc8 ((MV q p).2 e))];rfl)
def ui{p:Rat}[h:BQ p i][k:BQ q j](hi:i<=100000000:=by decide)(hj:j<=100000000:=by decide):PF GB prog 183 [eF p,eF q] (eF (rgcd p q)):=by
 refine fn (fu:=⟨8⟩) func183 J J ntmps183 J J (fun C=>?_);refine mg (X:=Unit) (fun _=>[(2, .ov 2 0),(3, .ov 3 0),(4, .ov 4 0)]) (fun _=>[(2,some (.o 158 [.d (vI (dm p)), .d (vI (dw p)), .d (dl p)] true)),(3,some (.o 158 [.d (vI (dm q)), .d (vI (dw q)), .d (dl q)] true)),(4,some (.o 158 [.d (.v (.int .i64 0)), .d (.v (.int .i64 0)), .d (.v (.pointer none))] true))]) (fun _=>True) [2,3,4] [2,3,4] rfl ?_ (fun _=>J) (fun _ _=>?_)
 .
  refine gx J<|cs 10 J J J (fun hg10=>?_) (fun hg10=>?_)
  .
   refine cs 15 J J J (fun hg15=>?_) (fun hg15=>?_)
   .
    have hp:=s5 hg10;have hq:=s5 hg15;have p1:=ni hp;have p2:=pu hp;have p3:=qe hp;have p4:=qj hp;have p5:=p.den_nz;have q1:=ni hq;have q2:=pu hq;have q3:=qe hq;have q4:=qj hq;have q5:=q.den_nz;refine cs 20 J J J (fun hg20=>?_) (fun hg20=>?_)
    .
     refine br (fu1:=⟨4⟩) J J J (fun hc24=>?_) (fun hc24=>?_)
     .
      have hg:=IN p3 q3;refine aj 26 (.d (vI p.num)) J (by rw[p1])<|gx J<|cl (fu:=⟨2⟩) J (Av (m:=p.num)) J<|aj 29 (.d (vI q.num)) J (by rw[q1])<|gx J<|cl J (Av (m:=q.num)) J<|cl (hv:=by simp only[ak];exact⟨by omega,by kernel_rfl⟩) J (O0 (a:=p.num.natAbs) (b:=q.num.natAbs)) J<|ju J (by rw[aFP (p:=p) (q:=q) (by omega) (by omega)];exact Na (by rw[fW];exact hg))
     .
      exact at_ () trivial
    .
     exact at_ () trivial
   .
    exact at_ () trivial
  .
   exact at_ () trivial
 .
  refine cl J (ri (q:=p) (by omega)) J<|cl J (ri (q:=q) (by omega)) J<|cl J (zh (a:=p.den) (b:=q.den) (by omega) (by omega)) J<|cl J (s7 (q:=p) (by omega)) J<|cl J (ri (q:=q) (by omega)) J<|cl J (zh (a:=p.num.natAbs) (b:=q.den) (by omega) (by omega)) J<|cl J (s7 (q:=q) (by omega)) J<|cl J (ri (q:=p) (by omega)) J<|cl J (zh (a:=q.num.natAbs) (b:=p.den) (by omega) (by omega)) J<|cl J (Gl (a:=p.num.natAbs*q.den) (b:=q.num.natAbs*p.den) (i:=i+j) (j:=j+i) (by omega) (by omega)) J<|cl J (u9 (n:=false) (a:=Nat.gcd (p.num.natAbs*q.den) (q.num.natAbs*p.den)) (d:=p.den*q.den) (i:=i+j+(j+i)) (j:=i+j) (by omega) (by omega)) J<|rz J J

def cT:Tr->List DV
 | .leaf b=>[.v (.bool true), .v (.bool b), .v (.bool false), .sl [], .v (.bool false), .sl [], .v (.bool false), .sl [], .v (.pointer none), .v (.pointer none)]
 | .node l x y=>[.v (.bool false), .v (.bool false), .v (.bool (decide (l.a<0))),dN l.a.natAbs, .v (.bool (decide (l.b<0))),dN l.b.natAbs, .v (.bool (decide (l.c<0))),dN l.c.natAbs, .pt (cT x), .pt (cT y)]
def eT(t:Tr):DV:= .pt (cT t)
def eN(n:NQ):DV:= .ag [.v (.bool (decide (n.l.a<0))),dN n.l.a.natAbs, .v (.bool (decide (n.l.b<0))),dN n.l.b.natAbs, .v (.bool (decide (n.l.c<0))),dN n.l.c.natAbs, .v (.int .i64 n.a), .v (.int .i64 n.b)]
def eA(t:Tr):DV:= .ag [.v (.int .i64 (t.num 0)), .sl ((t.wr 0).map eN)]
def wW{z:IV}{m:Int}(h:qv k G z m):Is G (.v (.bool (decide (m<0)))) (.bool z.neg)/\Is G (dN m.natAbs) (.slice z.a.a z.a.n z.a.c):=
 ⟨aH.2 (by rw[h.neg]),(K8 h.abs.lt).2 ⟨_,J,h.abs⟩⟩
def Kx{m:Int}{u v:Value}(hm:m.natAbs<2^k)(h1:Is G (.v (.bool (decide (m<0)))) u)(h2:Is G (dN m.natAbs) v): ∃z:IV,u= .bool z.neg/\v= .slice z.a.a z.a.n z.a.c/\qv k G z m:=by
 obtain⟨x,rfl,hx⟩:=(K8 hm).1 h2;exact⟨⟨decide (m<0),x⟩,aH.1 h1,J,J,hx⟩
structure BL (l:aa) (k:Nat):Prop where
 a:l.a.natAbs<2^k
 b:l.b.natAbs<2^k
 c:l.c.natAbs<2^k
def XD{v:Value}(hl:BL l k)(h:Is G (eL l) v): ∃a b c:IV,v= .agg ⟨[.bool a.neg, .slice a.a.a a.a.n a.a.c, .bool b.neg, .slice b.a.a b.a.n b.a.c, .bool c.neg, .slice c.a.a c.a.n c.a.c]⟩/\qv k G a l.a/\qv k G b l.b/\qv k G c l.c:=by
 obtain⟨m,rfl,g⟩:=ew.1 h;clear h;obtain⟨v1,m,rfl,h1,h⟩:=bi.1 g;obtain⟨v2,m,rfl,h2,h⟩:=bi.1 h;obtain⟨v3,m,rfl,h3,h⟩:=bi.1 h;obtain⟨v4,m,rfl,h4,h⟩:=bi.1 h;obtain⟨v5,m,rfl,h5,h⟩:=bi.1 h;obtain⟨v6,m,rfl,h6,h⟩:=bi.1 h;rw[en] at h;subst h;obtain⟨a,rfl,rfl,ha⟩:=Kx hl.a h1 h2;obtain⟨b,rfl,rfl,hb⟩:=Kx hl.b h3 h4;obtain⟨c,rfl,rfl,hc⟩:=Kx hl.c h5 h6;exact⟨a,b,c,J,ha,hb,hc⟩
def U9{z:ND}(h:rH k G z n):Is G (eN n) z.val:=by
 refine ew.2 ⟨_,J, .cons (wW h.a).1 (.cons (wW h.a).2 (.cons (wW h.b).1 (.cons (wW h.b).2 (.cons (wW h.c).1 (.cons (wW h.c).2 (.cons (aH.2 ?_) (.cons (aH.2 ?_) .nil)))))))⟩
 .rw[h.l]
 .rw[h.r]
def KW{G:Gh}{k:Nat}: ∀{ns:List NQ} {zs:List ND},gO (rH k G) zs ns->IsLs G (ns.map eN) (zs.map ND.val)
 |_,_, .nil=> .nil
 |_,_, .cons h t=> .cons (U9 h) (KW t)
def aIL(ns:List NQ):cO 8 (ns.map eN):=fun d hd=>by
 obtain⟨n,_,rfl⟩:=aT.1 hd;exact⟨rfl,rfl⟩
def Vj{t:Tr}{x:SV}(h:TV k G x (t.wr 0)):Is G (eA t) (.agg ⟨[.int .i64 (t.num 0), .slice x.a x.n x.c]⟩):=by
 obtain⟨zs,h1,h2⟩:=h;exact ew.2 ⟨_,J, .cons (aH.2 J) (.cons (gw.2 ⟨8,x,_,J,h1,KW h2⟩) .nil)⟩
def Tr.all_wr{p:aa->Prop}: ∀{t:Tr} (n:Nat),t.all p-> ∀x∈t.wr n,p x.l
 | .leaf b,n,_,x,hx=>by cases hx
 | .node l u v,n,⟨h1,h2,h3⟩,x,hx=>by
  simp only[Tr.wr,gW,aW,bJ] at hx;rcases hx with rfl|hx|hx
  .exact h1
  .exact u.all_wr _ h2 x hx
  .exact v.all_wr _ h3 x hx
structure LS (l:aa):Prop where
 ok:l.ok
 a:l.a.natAbs<=4
 b:l.b.natAbs<=4
 c:l.c.natAbs<=40000
def LS.bl(h:LS l):BL l 96:=⟨by have:=h.a;omega,by have:=h.b;omega,by have:=h.c;omega⟩
def vN{xs:List aa}(h:i<xs.length:=by omega):(xs.map eL)[(i:Int).toNat]? =some (eL xs[i]):=by simp[h]
def vV(xs:List aa):(xs.map eL).length=xs.length:=aX ..
def axG{α:Type}{xs:List α}{p:α->Prop}(h: ∀x∈xs.take i,p x)(hi:i<xs.length)(hy:p xs[i]): ∀x∈xs.take (i+1),p x:=by
 intro x hx;rw[jX hi] at hx;simp only[bJ,aU] at hx;rcases hx with hx|rfl
 .exact h x hx
 .exact hy
def X0{a b:Int}(h:decide (a<0)=decide (b<0)):decide (a.natAbs=b.natAbs)=decide (a=b):=by
 have h':a<0↔b<0:=by simpa using h
 exact decide_eq_decide.2 ⟨fun e=>by omega,fun e=>by rw[e]⟩
def aa.ext'(h1:l.a=m.a:=by omega)(h2:l.b=m.b:=by omega)(h3:l.c=m.c:=by omega):l=m:=by cases l;cases m;simp_all
instance:DecidableEq NQ:=fun x y=>decidable_of_iff (x.l=y.l/\x.a=y.a/\x.b=y.b) (by
 cases x;cases y;simp)
def NQ.ext'{m:NQ}(h1:n.l=m.l)(h2:n.a=m.a)(h3:n.b=m.b):n=m:=by cases n;cases m;simp_all
def eu(ls:List aa):cO 6 (ls.map eL):=fun d hd=>by
 obtain⟨n,_,rfl⟩:=aT.1 hd;exact⟨rfl,rfl⟩
def aDh{a b:Nat}(hl:(dg a).length=(dg b).length)(h: ∀j,j<(dg a).length->(dg a).getD j 0=(dg b).getD j 0):a=b:=by
 have e:dg a=dg b:=by
  apply List.ext_getElem hl;intro i h1 h2;have:=h i h1;rw[aV,aV,aZ h1,aZ h2] at this;exact this
 rw[<-de a,e,de]
def iA{z:Int}:PF GB prog 118 [eI z] (eQ (z:Rat)):=by
 refine fn func118 J J ntmps118 J J (fun C=>?_);exact rz J (by rw[EW];rfl)
def vX:PF GB prog 21 [eL l] (eL l.rev):=by
 refine fn func21 J J ntmps21 J J (fun C=>?_);refine cl J BC J<|cl J BC J<|cl J BC J<|rz J J
def aDy{a b:Nat}[ha:BN a i][hb:BN b j](hi:i<=400000000:=by decide):PF GB prog 174 [dN a,dN b] (vB (decide (a=b))):=by
 have hla:=b7 (dg a);have hlb:=b7 (dg b);have hba:=kd ha.h;refine fn func174 J J ntmps174 J J (fun C=>?_);refine br (fu2:=⟨7⟩) J J J (fun hc10=>?_) (fun hc10=>?_)
 .
  exact rz J (by rw[decide_eq_false (fun e:a=b=>hc10 (by rw[e]))];rfl)
 .
  refine aj 12 (.d (vI ((dg a).length:Nat))) J (by rw[hla];rfl)<|gx J<|lp (X:=Nat) (fun i=>[(13, .d (vI (i:Nat))),(12, .d (vI ((dg a).length:Nat))),(0, .d (dN a)),(1, .d (dN b))]) (fun i=>[]) (fun i=>i<=(dg a).length/\ ∀j,j<i->(dg a).getD j 0=(dg b).getD j 0) (fun i=>(dg a).length-i) 0 J ⟨aM _,fun j hj=>absurd hj (by omega)⟩ (fun _=>J) (fun i hk=>?_);obtain⟨h1,h2⟩:=hk;refine br J J J (fun hc14=>?_) (fun hc14=>?_)
  .
   refine ix _ J (et) J<|ix _ J (et) J<|br J J J (fun hc24=>?_) (fun hc24=>?_)
   .
    exact rz J (by rw[decide_eq_false (fun e:a=b=>hc24 (by rw[e]))];rfl)
   .
    exact at_ (i+1) ⟨⟨by omega,fun j hj=>by by_cases q:j=i;(subst q;omega);exact h2 j (by omega)⟩,(by omega)⟩
  .
   exact rz J (by rw[decide_eq_true (aDh (by omega) (fun j hj=>h2 j (by omega)))];rfl)
def FQ{a b:Int}[ha:BI a i][hb:BI b j](hi:i<=400000000:=by decide):PF GB prog 105 [eI a,eI b] (vB (decide (a=b))):=by
 refine fn (fu:=⟨14⟩) func105 J J ntmps105 J J (fun C=>?_);refine aj 9 (.d (.v (.bool (decide (decide (a<0)=decide (b<0)))))) J (by congr 2)<|gx J<|csd 10 J J J (fun hg10=>?_) (fun hg10=>?_)
 .
  refine cl J (aDy (by omega)) J<|rz J (by show DV.v (.bool _)=DV.v (.bool _);rw[<-X0 hg10])
 .
  exact rz J (by rw[decide_eq_false (fun e:a=b=>hg10 (by rw[e]))];rfl)
def XW(hl:BL l 96)(hm:BL m 96):PF GB prog 47 [eL l,eL m] (vB (decide (l=m))):=by
 haveI h1:BI l.a 96:=⟨hl.a⟩;haveI h2:BI l.b 96:=⟨hl.b⟩;haveI h3:BI l.c 96:=⟨hl.c⟩;haveI k1:BI m.a 96:=⟨hm.a⟩;haveI k2:BI m.b 96:=⟨hm.b⟩;haveI k3:BI m.c 96:=⟨hm.c⟩;refine fn func47 J J ntmps47 J J (fun C=>?_);refine cl J (FQ (a:=l.a) (b:=m.a)) J<|csd 10 J J J (fun hg10=>?_) (fun hg10=>?_)
 .
  refine cl J (FQ (by omega)) J<|csd 17 J J J (fun hg17=>?_) (fun hg17=>?_)
  .
   refine cl J (FQ (by omega)) J<|rz J (by show DV.v (.bool _)=DV.v (.bool _);rw[decide_eq_decide.2 ⟨fun e=>aa.ext' hg10 hg17 e,fun e=>by rw[e]⟩])
  .
   exact rz J (by rw[decide_eq_false (fun e:l=m=>hg17 (by rw[e]))];rfl)
 .
  exact rz J (by rw[decide_eq_false (fun e:l=m=>hg10 (by rw[e]))];rfl)
class LB (l:aa):Prop where bl:BL l 96
instance LB.a (l:aa) [h:LB l]:BI l.a 96:=⟨h.bl.a⟩
instance LB.b (l:aa) [h:LB l]:BI l.b 96:=⟨h.bl.b⟩
instance LB.c (l:aa) [h:LB l]:BI l.c 96:=⟨h.bl.c⟩
class aC (p:ah) (k:outParam Nat):Prop where
 x:BQ p.x k
 y:BQ p.y k
instance aC.ix (p:ah) (k:Nat) [h:aC p k]:BQ p.x k:=h.x
instance aC.iy (p:ah) (k:Nat) [h:aC p k]:BQ p.y k:=h.y
instance aC.dir (l:aa) [LB l]:aC l.dir 97:=⟨inferInstanceAs (BQ (l.b:Rat) 97),inferInstanceAs (BQ (-(l.a:Rat)) 97)⟩
instance BQ.dot (p q:ah) (i j:Nat) [aC p i] [aC q j]:BQ (p.dot q) (i+j+(i+j)+1):=inferInstanceAs (BQ (p.x*q.x+p.y*q.y) _)
instance BQ.cross (p q:ah) (i j:Nat) [aC p i] [aC q j]:BQ (p.cross q) (i+j+(i+j)+1):=inferInstanceAs (BQ (p.x*q.y-p.y*q.x) _)
instance aC.mov (p q:ah) (c:Rat) (i j k:Nat) [aC p i] [aC q j] [BQ c k]:aC (cF p q c) (i+(k+j)+1):=⟨inferInstanceAs (BQ (p.x+c*q.x) _),inferInstanceAs (BQ (p.y+c*q.y) _)⟩
instance BQ.value (l:aa) (p:ah) (i:Nat) [LB l] [aC p i]:BQ (l.value p) (96+1+i+(96+1+i)+1+(96+1)+1):=inferInstanceAs (BQ ((l.a:Rat)*p.x+(l.b:Rat)*p.y+(l.c:Rat)) _)
def OJ(h:l.Ne):l.dir.dot l.dir≠0:=by have:=Aj h;grind
def il:PF GB prog 66 [eL l] (eP l.dir):=by
 refine fn func66 J J ntmps66 J J (fun C=>?_);refine cl J iA J<|cl J iA J<|cl J og J<|rz J J
def HA{p q:ah}[hp:aC p i][hq:aC q j](hi:i<=200000:=by decide)(hj:j<=200000:=by decide):PF GB prog 218 [eP p,eP q] (eQ (p.dot q)):=by
 refine fn func218 J J ntmps218 J J (fun C=>?_);refine cl J (gy (by omega) (by omega)) J<|cl J (gy (by omega) (by omega)) J<|cl J (mr (by omega) (by omega)) J<|rz J J
def pG{p q:ah}[hp:aC p i][hq:aC q j](hi:i<=200000:=by decide)(hj:j<=200000:=by decide):PF GB prog 139 [eP p,eP q] (eQ (p.cross q)):=by
 refine fn func139 J J ntmps139 J J (fun C=>?_);refine cl J (gy (by omega) (by omega)) J<|cl J (gy (by omega) (by omega)) J<|cl J (rj (by omega) (by omega)) J<|rz J J
def te{p q:ah}{c:Rat}[hp:aC p i][hq:aC q j][hc:BQ c k](hi:i<=19000000:=by decide)(hj:j<=9000000:=by decide)(hk:k<=9000000:=by decide):PF GB prog 31 [eP p,eQ c,eP q] (eP (cF p q c)):=by
 refine fn func31 J J ntmps31 J J (fun C=>?_);refine cl J (gy (by omega) (by omega)) J<|cl J (mr (by omega) (by omega)) J<|cl J (gy (by omega) (by omega)) J<|cl J (mr (by omega) (by omega)) J<|rz J J
def Ec{p:ah}[hl:LB l][hp:aC p i](hi:i<=400000:=by decide):PF GB prog 56 [eL l,eP p] (eQ (l.value p)):=by
 refine fn func56 J J ntmps56 J J (fun C=>?_);refine cl J (iA (z:=l.a)) J<|cl J (gy (by omega) (by omega)) J<|cl J (iA (z:=l.b)) J<|cl J (gy (by omega) (by omega)) J<|cl J (mr (by omega) (by omega)) J<|cl J (iA (z:=l.c)) J<|cl J (mr (by omega) (by omega)) J<|rz J J
def Cb{p:ah}[hl:LB l][hp:aC p i](hi:i<=400000:=by decide):PF GB prog 19 [eL l,eP p] (vI (l.value p).num.sign):=by
 refine fn func19 J J ntmps19 J J (fun C=>?_);refine cl J (Ec hi) J<|cl J mD J<|rz J J
def yv[hl:LB l](hn:l.Ne):PF GB prog 137 [eL l] (eP l.base):=by
 refine fn func137 J J ntmps137 J J (fun C=>?_);refine cl J il J<|cl J (iA (z:=l.c)) J<|cl J HA J<|cl J (wN (OJ hn)) J<|cl J og J<|cl J (iA (z:=l.a)) J<|cl J gy J<|cl J (iA (z:=l.b)) J<|cl J gy J<|rz J (by rw[<-NK];rfl)
instance aC.base (l:aa) [LB l]:aC l.base 900:=by
 rw[<-NK];constructor
 .exact BQ.mono (inferInstance:BQ (-((l.c:Rat)/l.dir.dot l.dir)*(l.a:Rat)) _)
 .exact BQ.mono (inferInstance:BQ (-((l.c:Rat)/l.dir.dot l.dir)*(l.b:Rat)) _)
def Qv[hl:LB l][ht:BQ t k](hn:l.Ne)(hk:k<=200000:=by decide):PF GB prog 241 [eL l,eQ t] (eP (l.at t)):=by
 refine fn func241 J J ntmps241 J J (fun C=>?_);refine cl J (yv hn) J<|cl J il J<|cl J (te (by decide) (by decide) (by omega)) J<|rz J (by rw[<-xX];rfl)
def Du{p:ah}[hl:LB l][hp:aC p k](hn:l.Ne)(hk:k<=200000:=by decide):PF GB prog 138 [eL l,eP p] (eQ (ji l p)):=by
 refine fn func138 J J ntmps138 J J (fun C=>?_);refine cl J il J<|cl J (HA (by omega) (by decide)) J<|cl J (HA (by omega) (by decide)) J<|cl J (wN (OJ hn) (by omega) (by decide)) J<|rz J J
instance BI.crossI (l m:aa) [LB l] [LB m]:BI (crossI l m) 385:=inferInstanceAs (BI (l.a*m.b-m.a*l.b) 385)
instance BI.meetX (l m:aa) [LB l] [LB m]:BI (meetX l m) 385:=inferInstanceAs (BI (l.b*m.c-m.b*l.c) 385)
instance BI.meetY (l m:aa) [LB l] [LB m]:BI (meetY l m) 385:=inferInstanceAs (BI (m.a*l.c-l.a*m.c) 385)
instance aC.imeet (l m:aa) [LB l] [LB m]:aC (c8 l m) 772:=by
 unfold c8;split
 .exact⟨BQ.mono (k:=1) ⟨by decide,by decide⟩,BQ.mono (k:=1) ⟨by decide,by decide⟩⟩
 .exact⟨inferInstanceAs (BQ ((meetX l m:Rat)/(crossI l m:Rat)) 772),inferInstanceAs (BQ ((meetY l m:Rat)/(crossI l m:Rat)) 772)⟩
def OH(l m:aa):(((l.a:Rat)*(m.b:Rat)-(m.a:Rat)*(l.b:Rat)).num.sign=0)↔crossI l m=0:=by
 rw[pd,<-uK];exact cR
def OC(h:crossI l m≠0):(l.a:Rat)*(m.b:Rat)-(m.a:Rat)*(l.b:Rat)≠0:=by
 rw[<-uK];exact fun e=>h (cR.1 e)
def DX[hl:LB l][hm:LB m]:PF GB prog 136 [eL l,eL m] (.tp [eP (c8 l m),vB (decide (crossI l m≠0))]):=by
 refine fn func136 J J ntmps136 J J (fun C=>?_);refine cl J (iA (z:=l.a)) J<|cl J (iA (z:=m.b)) J<|cl J gy J<|cl J (iA (z:=m.a)) J<|cl J (iA (z:=l.b)) J<|cl J gy J<|cl J rj J<|cl J mD J<|br J J J (fun hc26=>?_) (fun hc26=>?_)
 .
  have hcr:=(OH l m).1 hc26;exact rz J (by unfold c8;rw[if_pos hcr,decide_eq_false (fun e=>e hcr)];show DV.tp [.ag [_, .sl [], .sl [],_, .sl [], .sl []],_]= .tp [eP ⟨0,0⟩,_];unfold eP dD;simp only[show(0:Rat).num=0 from J,show(0:Rat).den=1 from J,lY,mm];rfl)
 .
  have hcr:crossI l m≠0:=fun e=>hc26 ((OH l m).2 e);refine cl J (iA (z:=l.b)) J<|cl J (iA (z:=m.c)) J<|cl J gy J<|cl J (iA (z:=m.b)) J<|cl J (iA (z:=l.c)) J<|cl J gy J<|cl J rj J<|cl J (iA (z:=m.a)) J<|cl J (iA (z:=l.c)) J<|cl J gy J<|cl J (iA (z:=l.a)) J<|cl J (iA (z:=m.c)) J<|cl J gy J<|cl J rj J<|cl J (wN (OC hcr)) J<|cl J (wN (OC hcr)) J<|rz J (by unfold c8;rw[if_neg hcr,decide_eq_true hcr,Gc,Mb,uK];rfl)
def gP(l m:aa):Int:=if(l.a-m.a).sign≠0 then(l.a-m.a).sign else if(l.b-m.b).sign≠0 then(l.b-m.b).sign else(l.c-m.c).sign
def A7(l m:aa):gP l m=0↔l=m:=by
 unfold gP;constructor
 .intro h
  split at h
  .contradiction
  .split at h
   .contradiction
   .rename_i h1 h2
    have a1:=gM.1 (Decidable.not_not.1 h1);have a2:=gM.1 (Decidable.not_not.1 h2);have a3:=gM.1 h;exact aa.ext'
 .rintro rfl
  simp
def C8[hl:LB l][hm:LB m]:PF GB prog 67 [eL l,eL m] (vI (gP l m)):=by
 refine fn func67 J J ntmps67 J J (fun C=>?_);refine cl J (Kk (a:=l.a) (b:=m.a)) J<|br J J J (fun hc13=>?_) (fun hc13=>?_)
 .
  exact rz J (by show vI _=_;unfold gP;rw[if_pos hc13])
 .
  refine cl J (Kk (a:=l.b) (b:=m.b)) J<|br J J J (fun hc21=>?_) (fun hc21=>?_)
  .
   exact rz J (by show vI _=_;unfold gP;rw[if_neg hc13,if_pos hc21])
  .
   refine cl J (Kk (a:=l.c) (b:=m.c)) J<|rz J (by show vI _=_;unfold gP;rw[if_neg hc13,if_neg hc21])
def Nm{v:ah}:PF GB prog 141 [eP v] (vI v.half):=by
 refine fn func141 J J ntmps141 J J (fun C=>?_);refine cl J (mD (q:=v.x)) J<|cl J (mD (q:=v.y)) J<|cs 13 J J J (fun hg13=>?_) (fun hg13=>?_)
 .
  refine br J J J (fun hc16=>?_) (fun hc16=>?_)
  .
   exact rz J (by show vI _=vI _;unfold ah.half;generalize v.x.num.sign=sx at*;generalize v.y.num.sign=sy at*;congr 1;(repeat' split)<;>omega)
  .
   refine cs 19 J J J (fun hg19=>?_) (fun hg19=>?_)
   .
    exact rz J (by show vI _=vI _;unfold ah.half;generalize v.x.num.sign=sx at*;generalize v.y.num.sign=sy at*;congr 1;(repeat' split)<;>omega)
   .
    refine cs 22 J J J (fun hg22=>?_) (fun hg22=>?_)
    .
     refine br J J J (fun hc26=>?_) (fun hc26=>?_)
     .
      exact rz J (by show vI _=vI _;unfold ah.half;generalize v.x.num.sign=sx at*;generalize v.y.num.sign=sy at*;congr 1;(repeat' split)<;>omega)
     .
      exact rz J (by show vI _=vI _;unfold ah.half;generalize v.x.num.sign=sx at*;generalize v.y.num.sign=sy at*;congr 1;(repeat' split)<;>omega)
    .
     exact rz J (by show vI _=vI _;unfold ah.half;generalize v.x.num.sign=sx at*;generalize v.y.num.sign=sy at*;congr 1;(repeat' split)<;>omega)
 .
  refine cs 19 J J J (fun hg19=>?_) (fun hg19=>?_)
  .
   exact rz J (by show vI _=vI _;unfold ah.half;generalize v.x.num.sign=sx at*;generalize v.y.num.sign=sy at*;congr 1;(repeat' split)<;>omega)
  .
   refine cs 22 J J J (fun hg22=>?_) (fun hg22=>?_)
   .
    refine br J J J (fun hc26=>?_) (fun hc26=>?_)
    .
     exact rz J (by show vI _=vI _;unfold ah.half;generalize v.x.num.sign=sx at*;generalize v.y.num.sign=sy at*;congr 1;(repeat' split)<;>omega)
    .
     exact rz J (by show vI _=vI _;unfold ah.half;generalize v.x.num.sign=sx at*;generalize v.y.num.sign=sy at*;congr 1;(repeat' split)<;>omega)
   .
    exact rz J (by show vI _=vI _;unfold ah.half;generalize v.x.num.sign=sx at*;generalize v.y.num.sign=sy at*;congr 1;(repeat' split)<;>omega)
def aE0(z:Int): -1<=z.sign/\z.sign<=1:=by
 rcases pY z 0 with h|h|h
 .rw[eK h];omega
 .rw[h];decide
 .rw[fT h];omega
def aBN{u v:ah}[hu:aC u i][hv:aC v j](hi:i<=200000:=by decide)(hj:j<=200000:=by decide):PF GB prog 65 [eP u,eP v] (vI (ge u v)):=by
 refine fn func65 J J ntmps65 J J (fun C=>?_);refine cl J (Nm (v:=u)) J<|cl J (Nm (v:=v)) J<|br J J J (fun hc13=>?_) (fun hc13=>?_)
 .
  refine br J J J (fun hc16=>?_) (fun hc16=>?_)
  .
   exact rz J (by show vI _=vI _;unfold ge;rw[if_pos hc16])
  .
   exact rz J (by show vI _=vI _;unfold ge;rw[if_neg hc16,if_pos (by omega)])
 .
  refine cl J (pG hi hj) J<|cl (hv:=by simp only[ak];exact(by have:=aE0 (u.cross v).num;omega)) J mD J<|rz J (by show vI _=vI _;unfold ge;rw[if_neg (by omega),if_neg (by omega)])
instance BQ.i1:BQ (((1:Int):Rat)) 2:=⟨by decide,by decide⟩
def eV(v:ar):DV:= .ag [.v (.bool (decide (v.lo.num<0))),dN v.lo.num.natAbs,dD v.lo.den, .v (.bool (decide (v.hi.num<0))),dN v.hi.num.natAbs,dD v.hi.den, .v (.bool v.nl), .v (.bool v.nh)]
def aFv:eV ar.all= .ag [.v (.bool false), .sl [], .sl [], .v (.bool false), .sl [], .sl [], .v (.bool true), .v (.bool true)]:=by
 unfold eV ar.all dD;simp only[show(0:Rat).num=0 from J,show(0:Rat).den=1 from J,lY,mm];rfl
def HM:eQ 0= .ag [.v (.bool false), .sl [], .sl []]:=by
 unfold eQ dD;simp only[show(0:Rat).num=0 from J,show(0:Rat).den=1 from J,lY,mm];rfl
def kp(v:ar):Rat:=if v.nl=true/\v.nh=true then 0 else if v.nl=true then v.hi-1 else if v.nh=true then v.lo+1 else(v.lo+v.hi)/2
def OM:PF GB prog 135 [] (eV ar.all):=by
 refine fn func135 J J ntmps135 J J (fun C=>?_);exact rz J (by rw[aFv];rfl)
def Xf[hl:BQ v.lo i][hh:BQ v.hi i](hi:i<=100000:=by decide):PF GB prog 242 [eV v] (eQ (kp v)):=by
 refine fn func242 J J ntmps242 J J (fun C=>?_);refine iC 6 J J J (fun hg6=>?_) (fun hg6=>?_)
 .
  refine bb J J J (fun hc3=>?_) (fun hc3=>?_)
  .
   exact rz J (by unfold kp;rw[if_pos ⟨hg6,hc3⟩,HM];rfl)
  .
   refine bb J J J (fun hc11=>?_) (fun hc11=>?_)
   .
    refine cl J (iw (n:=1)) J<|cl J (rj (a:=v.hi) (b:=((1:Int):Rat)) (by omega) (by decide)) J<|rz J (by unfold kp;rw[if_neg (by simp[hc3]),if_pos hc11];rfl)
   .
    refine bb J J J (fun hc18=>?_) (fun hc18=>?_)
    .
     refine cl J (iw (n:=1)) J<|cl J (mr (a:=v.lo) (b:=((1:Int):Rat)) (by omega) (by decide)) J<|rz J (by simp[hg6] at hc11)
    .
     refine cl J (Cn (a:=v.lo) (b:=v.hi) (by omega) (by omega)) J<|rz J (by simp[hg6] at hc11)
 .
  refine bb J J J (fun hc11=>?_) (fun hc11=>?_)
  .
   refine cl J (iw (n:=1)) J<|cl J (rj (a:=v.hi) (b:=((1:Int):Rat)) (by omega) (by decide)) J<|rz J (by simp[hg6] at hc11)
  .
   refine bb J J J (fun hc18=>?_) (fun hc18=>?_)
   .
    refine cl J (iw (n:=1)) J<|cl J (mr (a:=v.lo) (b:=((1:Int):Rat)) (by omega) (by decide)) J<|rz J (by unfold kp;rw[if_neg (by simp[hg6]),if_neg (by simp[hg6]),if_pos hc18];rfl)
   .
    refine cl J (Cn (a:=v.lo) (b:=v.hi) (by omega) (by omega)) J<|rz J (by unfold kp;rw[if_neg (by simp[hg6]),if_neg (by simp[hg6]),if_neg (by simp[hc18])];rfl)
theorem BQ.of_fracI{n D:Int}(hd:0<D.natAbs)(h:q*((D.natAbs:Nat):Rat)=(n:Rat))(hn:BI n i)(hD:BI D i):BQ q i:=BQ.of_frac hd h hn.h hD.h
theorem D2{m:Int}(h:BI m i)(hij:i<=j:=by decide):BI m j:=⟨cN h.h (bW (by decide) hij)⟩
theorem Fb[LB l][LB m](hn:l.Ne)(h:crossI l m≠0):BQ (ji l (c8 l m)) 1200:=by
 have e:=ats hn h;have hA:BI (crossI l m*(l.a*l.a+l.b*l.b)) _:=inferInstance;have hB:BI (meetX l m*l.b-meetY l m*l.a) _:=inferInstance;have hne:crossI l m*(l.a*l.a+l.b*l.b)≠0:=by
  intro q;rcases pZ.1 q with q|q
  .exact h q
  .have h1:=Aj hn
   simp only[aa.dir,ah.dot] at h1;have h2:((l.a*l.a+l.b*l.b:Int):Rat)=((0:Int):Rat):=by rw[q]
   rw[lW,bM,bM] at h2;have h3:((0:Int):Rat)=0:=J;rw[h3] at h2;grind
 have hA':=D2 (j:=1200) hA;have hB':=D2 (j:=1200) hB;generalize crossI l m*(l.a*l.a+l.b*l.b)=D at*;generalize meetX l m*l.b-meetY l m*l.a=M at*;by_cases hD:0<D
 .refine BQ.of_fracI (n:=M) (D:=D) (by omega) ?_ hB' hA'
  rw[<-e];congr 1;have:((D.natAbs:Nat):Int)=D:=by omega
  rw[<-this];rfl
 .refine BQ.of_fracI (n:= -M) (D:=D) (by omega) ?_ (BI.neg M 1200 (h:=hB')) hA'
  rw[iN,<-e];have:((D.natAbs:Nat):Rat)= -(D:Rat):=by
   have h1:((D.natAbs:Nat):Int)= -D:=by omega
   rw[<-iN,<-h1];rfl
  rw[this];grind
def Oi(k:Rat):k.num.sign<=0↔ ¬0<k:=by rw[<-nq];omega
def ays(h1: ¬w.nl=true)(h2: ¬w.nh=true)(h3:0<=bA w.lo w.hi):w.empty=true:=by
 unfold ar.empty;simp[h1,h2,h3]
def aob(h:w.nl=true):w.empty=false:=by unfold ar.empty;simp[h]
def VO(h:w.nh=true):w.empty=false:=by unfold ar.empty;simp[h]
def T8(h: ¬0<=bA w.lo w.hi):w.empty=false:=by unfold ar.empty;simp[h]
def gh(l:aa):List aa->ar->ar×Bool
 |[],v=>(v,true)
 |m::t,v=>if m=l then gh l t v else if l.cutB v m=true then gh l t (l.cutV v m) else(l.cutV v m,false)
def zi{l:aa}: ∀{c:List aa} {v:ar},(gh l c v).2=(f9 l c v).isSome
 |[],v=>rfl
 |m::t,v=>by
  rw[gh,GX];split
  .exact zi
  .split
   .exact zi
   .rfl
structure jr (l:aa) (c:List aa) (k:Nat) (v:ar):Prop where
 le:k<=c.length
 p:f9 l (c.drop k) v=f9 l c ar.all
 e:gh l (c.drop k) v=gh l c ar.all
 z:gG v
 lo:BQ v.lo 1200
 hi:BQ v.hi 1200
def jr.skip{c:List aa}(h:jr l c k v)(hk:k<c.length)(e:c[k]=l):jr l c (k+1) v:=
 ⟨hk,by have:=h.p;rw[bX hk,GX,if_pos e] at this;exact this,by have:=h.e;rw[bX hk,gh,if_pos e] at this;exact this,h.z,h.lo,h.hi⟩
def jr.cut{c:List aa}(h:jr l c k v)(hk:k<c.length)(e:c[k]≠l)(hb:l.cutB v c[k]=true)(hw:l.cutV v c[k]=w)(z:gG w)(lo:BQ w.lo 1200)(hi:BQ w.hi 1200):jr l c (k+1) w:=
 ⟨hk,by have:=h.p;rw[bX hk,GX,if_neg e,if_pos hb,hw] at this;exact this,by have:=h.e;rw[bX hk,gh,if_neg e,if_pos hb,hw] at this;exact this,z,lo,hi⟩
def jr.no{c:List aa}(h:jr l c k v)(hk:k<c.length)(e:c[k]≠l)(hb:l.cutB v c[k]=false)(hw:l.cutV v c[k]=w):gh l c ar.all=(w,false):=by
 rw[<-h.e,bX hk,gh,if_neg e,if_neg (by rw[hb];decide),hw]
def jr.yes{c:List aa}(h:jr l c k v)(hk:c.length<=k):gh l c ar.all=(v,true):=by
 rw[<-h.e,iU hk];rfl
def jr.all{l:aa}{c:List aa}:jr l c 0 ar.all:=⟨aM _,by rw[iX],by rw[iX],gG.all,BQ.mono (k:=1) ⟨by decide,by decide⟩,BQ.mono (k:=1) ⟨by decide,by decide⟩⟩
def MA(h:v.nl=true\/0<bA t v.lo):(⟨t,v.hi,false,v.nh⟩:ar)=pg v t:=by unfold pg;rw[if_pos h]
def Y3(h: ¬v.nl=true)(h2: ¬0<bA t v.lo):v=pg v t:=by unfold pg;rw[if_neg (fun e=>e.elim h h2)]
def Sl(h:v.nh=true\/bA t v.hi<0):(⟨v.lo,t,v.nl,false⟩:ar)=pA v t:=by unfold pA;rw[if_pos h]
def Zz(h: ¬v.nh=true)(h2: ¬bA t v.hi<0):v=pA v t:=by unfold pA;rw[if_neg (fun e=>e.elim h h2)]
def oC(l m:aa)(v:ar):ar:=if 0<(m.dir.cross l.dir).num.sign then pg v (ji l (c8 l m)) else pA v (ji l (c8 l m))
def HO[LB l][LB m](hn:l.Ne)(hz:gG v)(hlo:BQ v.lo 1200)(hhi:BQ v.hi 1200)(h0:crossI l m≠0):l.cutV v m=oC l m v/\l.cutB v m=!(oC l m v).empty/\gG (oC l m v)/\BQ (oC l m v).lo 1200/\BQ (oC l m v).hi 1200:=by
 have hb:=Fb (l:=l) (m:=m) hn h0;unfold oC;split
 .rename_i h
  obtain⟨_,h1,h2⟩:=aCA hn hz ((nq _).1 h);refine⟨h1,h2,hz.lo' _,?_⟩;unfold pg;split
  .exact⟨hb,hhi⟩
  .exact⟨hlo,hhi⟩
 .rename_i h
  obtain⟨h1,h2⟩:=aDn hn hz h0 (fun e=>h ((nq _).2 e));refine⟨h1,h2,hz.hi' _,?_⟩;unfold pA;split
  .exact⟨hlo,hb⟩
  .exact⟨hlo,hhi⟩
theorem Ef{l:aa}[LB l](hn:l.Ne): ∀{c:List aa} {v:ar},(∀m∈c,LB m)->gG v->BQ v.lo 1200->BQ v.hi 1200->BQ (gh l c v).1.lo 1200/\BQ (gh l c v).1.hi 1200
 |[],v,_,_,h1,h2=>⟨h1,h2⟩
 |m::t,v,hc,hz,h1,h2=>by
  haveI:=hc m aQ;have hw:gG (l.cutV v m)/\BQ (l.cutV v m).lo 1200/\BQ (l.cutV v m).hi 1200:=by
   by_cases h0:crossI l m=0
   .rw[(AS (v:=v) h0).1];exact⟨hz,h1,h2⟩
   .obtain⟨u1,_,u3,u4,u5⟩:=HO (v:=v) hn hz h1 h2 h0
    rw[u1];exact⟨u3,u4,u5⟩
  have hc':=fun m hm=>hc m (aJ _ hm);rw[gh];split
  .exact Ef hn hc' hz h1 h2
  .split
   .exact Ef hn hc' hw.1 hw.2.1 hw.2.2
   .exact hw.2
def NI{c:List aa}(hc: ∀m∈c,LB m)(hok: ∀m∈c,m.ok)(hn:c.length<=1000)(hi:i<c.length):PF GB prog 64 [.sl (c.map eL),vI (i:Nat)] (.tp [eV (gh (c[i]'hi) c ar.all).1,vB (gh (c[i]'hi) c ar.all).2]):=by
 have hcl:=vV c;obtain⟨l,hl⟩: ∃l,l=c[i]:=⟨_,rfl⟩;rw[<-hl];haveI hlb:LB l:=hl▸hc _ (dX hi);have hlo:l.ok:=hl▸hok _ (dX hi);refine fn func64 J J ntmps64 J J (fun C=>?_);refine ix (fu:=⟨1⟩) _ J (vN hi) J<|aj 16 (.d (eL l)) J (by rw[hl];rfl)<|gx J<|cl (fu:=⟨9⟩) J OM J<|aj 19 (.d (vI (c.length:Nat))) J (by rw[hcl];rfl)<|gx J<|lp (X:=ar×Nat) (fun⟨v,k⟩=>[(20, .d (vI (k:Nat))),(19, .d (vI (c.length:Nat))),(18, .d (.sl (c.map eL))),(1, .d (vI (i:Nat))),(6, .ov 6 0),(7, .ov 7 0),(4, .ov 4 0)]) (fun⟨v,k⟩=>[(7,some (.o 134 [.d ((.v (.bool (decide (v.lo.num<0))))), .d (dN v.lo.num.natAbs), .d (dD v.lo.den), .d ((.v (.bool (decide (v.hi.num<0))))), .d (dN v.hi.num.natAbs), .d (dD v.hi.den), .d ((.v (.bool v.nl))), .d ((.v (.bool v.nh)))] true)),(6,some (.o 55 [.d ((.v (.bool (decide (l.a<0))))), .d (dN l.a.natAbs), .d ((.v (.bool (decide (l.b<0))))), .d (dN l.b.natAbs), .d ((.v (.bool (decide (l.c<0))))), .d (dN l.c.natAbs)] true)),(4,some (.o 134 [.ff, .nl, .nl, .ff, .nl, .nl, .ff, .ff] true))]) (fun⟨v,k⟩=>jr l c k v) (fun⟨v,k⟩=>c.length-k) ⟨ar.all,0⟩ J jr.all (fun _=>J) (fun⟨v,k⟩ hk=>?_)
 try dsimp only at hk⊢
 have hS:=hk;refine br J J J (fun hc21=>?_) (fun hc21=>?_)
 .
  have hk:k<c.length:=by omega
  obtain⟨m,hm⟩: ∃m,m=c[k]:=⟨_,rfl⟩;haveI hmb:LB m:=hm▸hc _ (dX hk);have hmo:m.ok:=hm▸hok _ (dX hk);refine ix (fu:=⟨1⟩) _ J (vN hk) J<|aj 24 (.d (eL m)) J (by rw[hm];rfl)<|gx J<|cs 28 J J J (fun hg28=>?_) (fun hg28=>?_)
  .
   have hinv:jr l c (k+1) v:=hS.skip hk (by rw[hl];congr 1;omega);exact at_ ⟨v,k+1⟩ (by dsimp only;exact⟨hinv,(by omega)⟩)
  .
   refine cl J (C8 (l:=l) (m:=m)) J<|br J J J (fun hc33=>?_) (fun hc33=>?_)
   .
    have hinv:jr l c (k+1) v:=hS.skip hk (by rw[<-hm,(A7 l m).1 hc33]);exact at_ ⟨v,k+1⟩ (by dsimp only;exact⟨hinv,(by omega)⟩)
   .
    have hne:c[k]≠l:=fun e=>hc33 ((A7 l m).2 (by rw[hm,e]));refine cl (fu:=⟨13⟩) J (DX (l:=l) (m:=m)) J<|aj 41 (.d (.v (.bool (decide (crossI l m=0))))) J (by simp)<|gx J<|bd J J J (fun hc41=>?_) (fun hc41=>?_)
    .
     refine cl J (yv hlo.ne) J<|cl J (Cb (l:=m) (p:=l.base)) J<|br J J J (fun hc46=>?_) (fun hc46=>?_)
     .
      have hno:=hS.no (w:=v) hk hne (by have:=(AS (v:=v) hc41).2;rw[<-hm];cases hb:l.cutB v m with|false=>rfl|true=>exact absurd (this.1 hb) ((Oi _).1 hc46)) (by rw[<-hm];exact(AS (v:=v) hc41).1);exact rz J (by rw[hno];rfl)
     .
      have hinv:jr l c (k+1) v:=by have:=AS (v:=v) hc41;exact hS.cut hk hne (by rw[<-hm];exact this.2.2 (by have:=mt (Oi (m.value l.base)).2 hc46;exact Decidable.not_not.1 this)) (by rw[<-hm];exact this.1) hS.z hS.lo hS.hi
      exact at_ ⟨v,k+1⟩ (by dsimp only;exact⟨hinv,(by omega)⟩)
    .
     obtain⟨u1,u2,u3,u4,u5⟩:=HO (v:=v) hlo.ne hS.z hS.lo hS.hi hc41;haveI htb:=Fb hlo.ne hc41;haveI hvl:=hS.lo;haveI hvh:=hS.hi;refine cl (fu:=⟨0⟩) J (Du (l:=l) (p:=c8 l m) hlo.ne) J<|?_;obtain⟨t,ht⟩: ∃t,t=ji l (c8 l m):=⟨_,rfl⟩;refine aj 50 (.d (eQ t)) J (by rw[ht]) ?_;rw[<-ht] at htb;refine gx (fu:=⟨5⟩) J<|mg (X:=ar) (fun w=>[(20, .d (vI (k:Nat))),(19, .d (vI (c.length:Nat))),(18, .d (.sl (c.map eL))),(1, .d (vI (i:Nat))),(6, .ov 6 0),(7, .ov 7 0),(4, .ov 4 0)]) (fun w=>[(7,some (.o 134 [.d ((.v (.bool (decide (w.lo.num<0))))), .d (dN w.lo.num.natAbs), .d (dD w.lo.den), .d ((.v (.bool (decide (w.hi.num<0))))), .d (dN w.hi.num.natAbs), .d (dD w.hi.den), .d ((.v (.bool w.nl))), .d ((.v (.bool w.nh)))] true)),(6,some (.o 55 [.d ((.v (.bool (decide (l.a<0))))), .d (dN l.a.natAbs), .d ((.v (.bool (decide (l.b<0))))), .d (dN l.b.natAbs), .d ((.v (.bool (decide (l.c<0))))), .d (dN l.c.natAbs)] true)),(4,some (.o 134 [.ff, .nl, .nl, .ff, .nl, .nl, .ff, .ff] true))]) (fun w=>w=oC l m v) [20,19,18,1,6,7,4] [7,6,4] rfl ?_ (fun _=>J) (fun w hw=>?_)
     .
      refine gx J<|cl J (il (l:=m)) J<|cl J (il (l:=l)) J<|cl J (pG (p:=m.dir) (q:=l.dir)) J<|cl J (mD (q:=m.dir.cross l.dir)) J<|br J J J (fun hc57=>?_) (fun hc57=>?_)
      .
       refine iC 60 J J J (fun hg60=>?_) (fun hg60=>?_)
       .
        refine Ct 7 J J J<|at_ ⟨t,v.hi,false,v.nh⟩ (by unfold oC;rw[if_pos hc57,<-ht];exact MA (.inl hg60))
       .
        refine cl J (ku (a:=t) (b:=v.lo)) J<|br J J J (fun hc66=>?_) (fun hc66=>?_)
        .
         refine Ct 7 J J J<|at_ ⟨t,v.hi,false,v.nh⟩ (by unfold oC;rw[if_pos hc57,<-ht];exact MA (.inr hc66))
        .
         exact at_ v (by unfold oC;rw[if_pos hc57,<-ht];exact Y3 (by simp[hg60]) hc66)
      .
       refine iC 72 J J J (fun hg72=>?_) (fun hg72=>?_)
       .
        refine Ct 7 J J J<|at_ ⟨v.lo,t,v.nl,false⟩ (by unfold oC;rw[if_neg hc57,<-ht];exact Sl (.inl hg72))
       .
        refine cl J (ku (a:=t) (b:=v.hi)) J<|br J J J (fun hc78=>?_) (fun hc78=>?_)
        .
         refine Ct 7 J J J<|at_ ⟨v.lo,t,v.nl,false⟩ (by unfold oC;rw[if_neg hc57,<-ht];exact Sl (.inr hc78))
        .
         exact at_ v (by unfold oC;rw[if_neg hc57,<-ht];exact Zz (by simp[hg72]) hc78)
     .
      rw[<-hw] at u1 u2 u3 u4 u5;haveI:=u4;haveI:=u5;refine iC 85 J J J (fun hg85=>?_) (fun hg85=>?_)
      .
       refine iC 90 J J J (fun hg90=>?_) (fun hg90=>?_)
       .
        refine cl J (ku (a:=w.lo) (b:=w.hi)) J<|br J J J (fun hc97=>?_) (fun hc97=>?_)
        .
         have hno:=hS.no (w:=w) hk hne (by rw[<-hm,u2,ays (by simpa using hg85) (by simpa using hg90) hc97];rfl) (by rw[<-hm,u1]);exact rz J (by rw[hno];rfl)
        .
         have hinv:jr l c (k+1) w:=hS.cut hk hne (by rw[<-hm,u2,T8 hc97];rfl) (by rw[<-hm,u1]) u3 u4 u5;exact at_ ⟨w,k+1⟩ (by dsimp only;exact⟨hinv,(by omega)⟩)
       .
        have hinv:jr l c (k+1) w:=hS.cut hk hne (by rw[<-hm,u2,VO (by simpa using hg90)];rfl) (by rw[<-hm,u1]) u3 u4 u5;exact at_ ⟨w,k+1⟩ (by dsimp only;exact⟨hinv,(by omega)⟩)
      .
       have hinv:jr l c (k+1) w:=hS.cut hk hne (by rw[<-hm,u2,aob (by simpa using hg85)];rfl) (by rw[<-hm,u1]) u3 u4 u5;exact at_ ⟨w,k+1⟩ (by dsimp only;exact⟨hinv,(by omega)⟩)
 .
  exact rz J (by rw[hS.yes (by omega)];rfl)
def cP(l:aa):DV:= .ag [vI (dm (l.a:Rat)),vI (dw (l.a:Rat)),dl (l.a:Rat),vI (dm (l.b:Rat)),vI (dw (l.b:Rat)),dl (l.b:Rat),vI (dm (l.c:Rat)),vI (dw (l.c:Rat)),dl (l.c:Rat)]
def eZ(p:ah):DV:= .ag [vI (dm p.x),vI (dw p.x),dl p.x,vI (dm p.y),vI (dw p.y),dl p.y]
def eW(v:ar):DV:= .ag [vI (dm v.lo),vI (dw v.lo),dl v.lo,vI (dm v.hi),vI (dw v.hi),dl v.hi, .v (.bool v.nl), .v (.bool v.nh)]
def Fm{t:List DV}(h:IsLs G (vI 0::vI 0:: .v (.pointer none)::t) vs):IsLs G (vI (dm 0)::vI (dw 0)::dl 0::t) vs:=by
 obtain⟨y1,l1,rfl,k1,g1⟩:=bi.1 h;obtain⟨y2,l2,rfl,k2,g2⟩:=bi.1 g1;obtain⟨y3,l3,rfl,k3,g3⟩:=bi.1 g2;have e:decide (gu 0)=false:=decide_eq_false fun h=>F' h J;exact .cons k1 (.cons k2 (.cons (tq.2 (.inl ⟨e,aH.1 k3⟩)) g3))
def JT(a:List DV){t:List DV}(h:IsLs G (a++vI 0::vI 0:: .v (.pointer none)::t) vs):IsLs G (a++vI (dm 0)::vI (dw 0)::dl 0::t) vs:=by
 obtain⟨x,y,rfl,h1,h2⟩:=h.unapp;exact h1.app (Fm h2)
def X8(G:Gh)(y:Value)(k:Is G (.ag [vI 0,vI 0, .v (.pointer none),vI 0,vI 0, .v (.pointer none), .v (.bool true), .v (.bool true)]) y):Is G (eW ar.all) y:=by
 obtain⟨l,rfl,g⟩:=ew.1 k;exact ew.2 ⟨l,J,Fm (JT [vI 0,vI 0, .v (.pointer none)] g)⟩
def pk:List Int->Int
 |[]=>0
 |a::t=>if a≠0 then a else pk t
theorem aC.nor(l:aa)[LB l]:aC l.nor 97:=⟨inferInstanceAs (BQ (l.a:Rat) 97),inferInstanceAs (BQ (l.b:Rat) 97)⟩
attribute [instance] aC.nor
instance aC.scale (p:ah) (c:Rat) (i k:Nat) [aC p i] [BQ c k]:aC (p.scale c) (i+k):=⟨inferInstanceAs (BQ (p.x*c) _),inferInstanceAs (BQ (p.y*c) _)⟩
instance aC.add (p q:ah) (i j:Nat) [aC p i] [aC q j]:aC (p.add q) (i+j+1):=⟨inferInstanceAs (BQ (p.x+q.x) _),inferInstanceAs (BQ (p.y+q.y) _)⟩
instance LB.revA (l:aa) [h:LB l]:LB l.rev:=⟨⟨by rw[show l.rev.a= -l.a from J,jT];exact h.bl.a,by rw[show l.rev.b= -l.b from J,jT];exact h.bl.b,by rw[show l.rev.c= -l.c from J,jT];exact h.bl.c⟩⟩
def aIx:PF GB prog 254 [] (eW ar.all):=by
 refine fn func254 J J ntmps254 J J (fun C=>?_);exact ju J X8
def wz:PF GB prog 123 [cP l] (eZ l.nor):=by
 refine fn func123 J J ntmps123 J J (fun C=>?_);exact rz J J
def vK[hl:LB l]:PF GB prog 197 [cP l] (eZ l.dir):=by
 refine fn func197 J J ntmps197 J J (fun C=>?_);refine cl J (pC (q:=(l.a:Rat))) J<|rz J J
def uF{p q:ah}[hp:aC p i][hq:aC q j](hi:i<=40000000:=by decide)(hj:j<=40000000:=by decide):PF GB prog 132 [eZ p,eZ q] (eF (p.dot q)):=by
 refine fn func132 J J ntmps132 J J (fun C=>?_);refine cl J (n8 (p:=p.x) (q:=q.x) (by omega) (by omega)) J<|cl J (n8 (p:=p.y) (q:=q.y) (by omega) (by omega)) J<|cl J (r9 (p:=p.x*q.x) (q:=p.y*q.y) (by omega) (by omega)) J<|rz J J
def Cs{p q:ah}[hp:aC p i][hq:aC q j](hi:i<=40000000:=by decide)(hj:j<=40000000:=by decide):PF GB prog 219 [eZ p,eZ q] (eF (p.cross q)):=by
 refine fn func219 J J ntmps219 J J (fun C=>?_);refine cl J (n8 (p:=p.x) (q:=q.y) (by omega) (by omega)) J<|cl J (n8 (p:=p.y) (q:=q.x) (by omega) (by omega)) J<|cl J (p7 (p:=p.x*q.y) (q:=p.y*q.x) (by omega) (by omega)) J<|rz J J
def Oh{p:ah}{c:Rat}[hp:aC p i][hc:BQ c j](hi:i<=40000000:=by decide)(hj:j<=40000000:=by decide):PF GB prog 264 [eZ p,eF c] (eZ (p.scale c)):=by
 refine fn func264 J J ntmps264 J J (fun C=>?_);refine cl J (n8 (p:=p.x) (q:=c) (by omega) (by omega)) J<|cl J (n8 (p:=p.y) (q:=c) (by omega) (by omega)) J<|rz J J
def aGV{p q:ah}[hp:aC p i][hq:aC q j](hi:i<=40000000:=by decide)(hj:j<=40000000:=by decide):PF GB prog 220 [eZ p,eZ q] (eZ (p.add q)):=by
 refine fn func220 J J ntmps220 J J (fun C=>?_);refine cl J (r9 (by omega) (by omega)) J<|cl J (r9 (by omega) (by omega)) J<|rz J J
def SF[hl:LB l]:PF GB prog 257 [cP l] (eZ l.base):=by
 refine fn func257 J J ntmps257 J J (fun C=>?_);refine cl J wz J<|cl J (pC (q:=(l.c:Rat))) J<|cl J (uF (p:=l.nor) (q:=l.nor)) J<|cl J (BG (p:= -(l.c:Rat)) (q:=l.nor.dot l.nor)) J<|cl J (Oh (p:=l.nor)) J<|rz J J
def QI{p:ah}[hl:LB l][hp:aC p i](hi:i<=10000000:=by decide):PF GB prog 256 [cP l,eZ p] (eF (l.value p)):=by
 refine fn func256 J J ntmps256 J J (fun C=>?_);refine cl J (wz (l:=l)) J<|cl J (uF (p:=l.nor) (q:=p) (by omega) (by omega)) J<|cl J (r9 (p:=l.nor.dot p) (q:=(l.c:Rat)) (by omega) (by omega)) J<|rz J J
def aDa{p:ah}[hl:LB l][hp:aC p i](hi:i<=10000000:=by decide):PF GB prog 224 [cP l,eZ p] (vI (l.value p).num.sign):=by
 refine fn func224 J J ntmps224 J J (fun C=>?_);refine cl J (QI (l:=l) (p:=p) hi) J<|cl J (mc (q:=l.value p) (by omega)) J<|rz J J
def Ml[hl:LB l][ht:BQ t i](hi:i<=10000000:=by decide):PF GB prog 204 [cP l,eF t] (eZ (l.at t)):=by
 refine fn func204 J J ntmps204 J J (fun C=>?_);refine cl J (SF (l:=l)) J<|cl J (vK (l:=l)) J<|cl J (Oh (p:=l.dir) (c:=t) (by omega) (by omega)) J<|cl J (aGV (p:=l.base) (q:=l.dir.scale t) (by omega) (by omega)) J<|rz J J
def aEA[h1:BQ v.lo i][h2:BQ v.hi j](hi:i<=40000000:=by decide)(hj:j<=40000000:=by decide):PF GB prog 299 [eW v] (vB v.empty):=by
 refine fn func299 J J ntmps299 J J (fun C=>?_);refine iC 6 J J J (fun hg6=>?_) (fun hg6=>?_)
 .
  refine iC 11 J J J (fun hg11=>?_) (fun hg11=>?_)
  .
   refine cl J (wD (p:=v.lo) (q:=v.hi) (by omega) (by omega)) J<|rz J (by unfold ar.empty;simp_all [vB,fh])
  .
   exact rz J (by unfold ar.empty;simp_all [vB,fh])
 .
  exact rz J (by unfold ar.empty;simp_all [vB,fh])
instance ar.meet_lo (v w:ar) (i j:Nat) [h1:BQ v.lo i] [h3:BQ w.lo j]:BQ (v.meet w).lo (i+j):=by
 have a:=h1.mono (nJ i j);have b:=h3.mono (Nat.le_add_left j i);unfold ar.meet;dsimp only;(repeat' split)<;>assumption
instance ar.meet_hi (v w:ar) (i j:Nat) [h1:BQ v.hi i] [h3:BQ w.hi j]:BQ (v.meet w).hi (i+j):=by
 have a:=h1.mono (nJ i j);have b:=h3.mono (Nat.le_add_left j i);unfold ar.meet;dsimp only;(repeat' split)<;>assumption
def Nw[h1:BQ v.lo i][h2:BQ v.hi i][h3:BQ w.lo j][h4:BQ w.hi j](hi:i<=10000000:=by decide)(hj:j<=10000000:=by decide):PF GB prog 258 [eW v,eW w] (.tp [eW (v.meet w),vB (!(v.meet w).empty)]):=by
 refine fn (fu:=⟨16⟩) func258 J J ntmps258 J J (fun C=>?_);refine mg (fu:=⟨1⟩) (X:=Unit) (fun _=>[(6, .ov 6 0)]) (fun _=>[(6,some (.o 218 [.d (vI (dm (v.meet w).lo)), .d (vI (dw (v.meet w).lo)), .d (dl (v.meet w).lo), .d (vI (dm v.hi)), .d (vI (dw v.hi)), .d (dl v.hi), .d (.v (.bool (v.nl&&w.nl))), .d (.v (.bool (v.nh)))] true))]) (fun _=>True) [6] [6] rfl ?_ (fun _=>J) (fun _ _=>?_)
 .
  refine gx J<|bb (v1:=fun hc8=>by simp only[ak];kernel_rfl) J J J (fun hc8=>?_) (fun hc8=>?_)
  .
   have em:(v.meet w).lo=w.lo:=by unfold ar.meet;simp_all
   have eb:(v.nl&&w.nl)=w.nl:=by simp_all
   exact at_ () trivial (hO:=⟨by rw[em,eb]<;>rfl,by repeat (first|exact trivial|refine And.intro J ?_)⟩)
  .
   refine bb J J J (fun hc17=>?_) (fun hc17=>?_)
   .
    refine cl J (Yo (p:=v.lo) (q:=w.lo) (by omega) (by omega)) J<|?_;have em:(v.meet w).lo=(if v.lo<w.lo then w.lo else v.lo):=by unfold ar.meet;simp_all
    have eb:(v.nl&&w.nl)=v.nl:=by simp_all
    exact at_ () trivial (hO:=⟨by rw[em,eb]<;>rfl,by repeat (first|exact trivial|refine And.intro J ?_)⟩)
   .
    have em:(v.meet w).lo=v.lo:=by unfold ar.meet;simp_all
    have eb:(v.nl&&w.nl)=v.nl:=by simp_all
    exact at_ () trivial (hO:=⟨by rw[em,eb]<;>rfl,by repeat (first|exact trivial|refine And.intro J ?_)⟩)
 .
  refine mg (X:=Unit) (fun _=>[(6, .ov 6 0)]) (fun _=>[(6,some (.o 218 [.d (vI (dm (v.meet w).lo)), .d (vI (dw (v.meet w).lo)), .d (dl (v.meet w).lo), .d (vI (dm (v.meet w).hi)), .d (vI (dw (v.meet w).hi)), .d (dl (v.meet w).hi), .d (.v (.bool (v.nl&&w.nl))), .d (.v (.bool (v.nh&&w.nh)))] true))]) (fun _=>True) [6] [6] rfl ?_ (fun _=>J) (fun _ _=>?_)
  .
   refine gx J<|bb (v1:=fun hc27=>by simp only[ak];kernel_rfl) J J J (fun hc27=>?_) (fun hc27=>?_)
   .
    have em:(v.meet w).hi=w.hi:=by unfold ar.meet;simp_all
    have eb:(v.nh&&w.nh)=w.nh:=by simp_all
    exact at_ () trivial (hO:=⟨by rw[em,eb]<;>rfl,by repeat (first|exact trivial|refine And.intro J ?_)⟩)
   .
    refine bb J J J (fun hc36=>?_) (fun hc36=>?_)
    .
     refine cl J (RH (p:=v.hi) (q:=w.hi) (by omega) (by omega)) J<|?_;have em:(v.meet w).hi=(if w.hi<v.hi then w.hi else v.hi):=by unfold ar.meet;simp_all
     have eb:(v.nh&&w.nh)=v.nh:=by simp_all
     exact at_ () trivial (hO:=⟨by rw[em,eb]<;>rfl,by repeat (first|exact trivial|refine And.intro J ?_)⟩)
    .
     have em:(v.meet w).hi=v.hi:=by unfold ar.meet;simp_all
     have eb:(v.nh&&w.nh)=v.nh:=by simp_all
     exact at_ () trivial (hO:=⟨by rw[em,eb]<;>rfl,by repeat (first|exact trivial|refine And.intro J ?_)⟩)
  .
   refine cl J (aEA (v:=v.meet w) (i:=i+j) (j:=i+j) (by omega) (by omega)) J<|rz J J
theorem BQ.z1:BQ (0:Rat) 1:=⟨by decide,by decide⟩
def ZD[h1:BQ v.lo i][h2:BQ v.hi i][h3:BQ t j](hi:i<=10000000:=by decide)(hj:j<=9999999:=by decide):PF GB prog 258 [eW v, .ag [vI (dm t),vI (dw t),dl t,vI 0,vI 0, .v (.pointer none), .v (.bool false), .v (.bool true)]] (.tp [eW (v.meet ⟨t,0,false,true⟩),vB (!(v.meet ⟨t,0,false,true⟩).empty)]):=
 (Nw (v:=v) (w:=⟨t,0,false,true⟩) (j:=j+1) (h3:=h3.mono (by omega)) (h4:=BQ.z1.mono (by omega)) hi (by omega)).ofI fun G vs hv=>HB (fun y hy=>by
  obtain⟨l,rfl,g⟩:=ew.1 hy;exact ew.2 ⟨l,J,JT [_,_,_] g⟩) hv
def Yx[h1:BQ v.lo i][h2:BQ v.hi i][h3:BQ t j](hi:i<=10000000:=by decide)(hj:j<=9999999:=by decide):PF GB prog 258 [eW v, .ag [vI 0,vI 0, .v (.pointer none),vI (dm t),vI (dw t),dl t, .v (.bool true), .v (.bool false)]] (.tp [eW (v.meet ⟨0,t,true,false⟩),vB (!(v.meet ⟨0,t,true,false⟩).empty)]):=
 (Nw (v:=v) (w:=⟨0,t,true,false⟩) (j:=j+1) (h4:=h3.mono (by omega)) (h3:=BQ.z1.mono (by omega)) hi (by omega)).ofI fun G vs hv=>HB (fun y hy=>by
  obtain⟨l,rfl,g⟩:=ew.1 hy;exact ew.2 ⟨l,J,Fm g⟩) hv
instance BQ.cutK (l m:aa) [LB l] [LB m]:BQ (l.cutK m) 400:=BQ.mono (inferInstance:BQ (m.nor.dot l.dir) _)
instance BQ.cutC (l m:aa) [LB l] [LB m]:BQ (l.cutC m) 2500:=BQ.mono (inferInstance:BQ (m.value l.base) _)
def Lg[hl:LB l][hm:LB m][h1:BQ v.lo i][h2:BQ v.hi i](hi:i<=10000000:=by decide):PF GB prog 193 [cP l,eW v,cP m] (.tp [eW (l.cutV v m),vB (l.cutB v m)]):=by
 refine fn func193 J J ntmps193 J J (fun C=>?_);refine cl J (wz (l:=m)) J<|cl J (vK (l:=l)) J<|cl J (uF (p:=m.nor) (q:=l.dir)) J<|cl J (SF (l:=l)) J<|cl J (QI (l:=m) (p:=l.base)) J<|cl J (mc (q:=l.cutK m)) J<|br J J J (fun hc21=>?_) (fun hc21=>?_)
 .
  refine cl J (mc (q:=l.cutC m)) J<|rz J (by unfold aa.cutV aa.cutB;rw[if_pos hc21,if_pos hc21];rfl)
 .
  refine br J J J (fun hc27=>?_) (fun hc27=>?_)
  .
   refine cl J (BG (p:=l.cutC m) (q:=l.cutK m)) J<|cl J (pC (q:=l.cutC m/l.cutK m)) J<|cl J (ZD (v:=v) (t:= -(l.cutC m/l.cutK m)) hi) J<|rz J (by unfold aa.cutB aa.cutV;rw[if_neg hc21,if_neg hc21,if_pos hc27];rfl)
  .
   refine cl J (BG (p:=l.cutC m) (q:=l.cutK m)) J<|cl J (pC (q:=l.cutC m/l.cutK m)) J<|cl J (Yx (v:=v) (t:= -(l.cutC m/l.cutK m)) hi) J<|rz J (by unfold aa.cutB aa.cutV;rw[if_neg hc21,if_neg hc21,if_neg hc27];rfl)
def RZ[h1:BQ v.lo i][h2:BQ v.hi i](hi:i<=10000000:=by decide):PF GB prog 205 [eW v] (eF v.sample):=by
 refine fn func205 J J ntmps205 J J (fun C=>?_);refine iC 6 J J J (fun hg6=>?_) (fun hg6=>?_)
 .
  refine bb J J J (fun hc3=>?_) (fun hc3=>?_)
  .
   exact ju J (by unfold ar.sample;rw[hg6,hc3];exact DF)
  .
   refine bb J J J (fun hc11=>?_) (fun hc11=>?_)
   .
    refine cl J (wJ (m:=1)) J<|cl J (p7 (p:=v.hi) (q:=((1:Int):Rat)) (by omega) (by decide)) J<|rz J (by unfold ar.sample;simp_all [fh]<;>rfl)
   .
    refine bb J J J (fun hc18=>?_) (fun hc18=>?_)
    .
     refine cl J (wJ (m:=1)) J<|cl J (r9 (p:=v.lo) (q:=((1:Int):Rat)) (by omega) (by decide)) J<|rz J (by unfold ar.sample;simp_all [fh]<;>rfl)
    .
     refine cl J (r9 (p:=v.lo) (q:=v.hi) (by omega) (by omega)) J<|cl J (MD (q:=v.lo+v.hi) (by omega)) J<|rz J (by unfold ar.sample;simp_all [fh]<;>rfl)
 .
  refine bb J J J (fun hc11=>?_) (fun hc11=>?_)
  .
   refine cl J (wJ (m:=1)) J<|cl J (p7 (p:=v.hi) (q:=((1:Int):Rat)) (by omega) (by decide)) J<|rz J (by unfold ar.sample;simp_all [fh]<;>rfl)
  .
   refine bb J J J (fun hc18=>?_) (fun hc18=>?_)
   .
    refine cl J (wJ (m:=1)) J<|cl J (r9 (p:=v.lo) (q:=((1:Int):Rat)) (by omega) (by decide)) J<|rz J (by unfold ar.sample;simp_all [fh]<;>rfl)
   .
    refine cl J (r9 (p:=v.lo) (q:=v.hi) (by omega) (by omega)) J<|cl J (MD (q:=v.lo+v.hi) (by omega)) J<|rz J (by unfold ar.sample;simp_all [fh]<;>rfl)
instance BQ.i1':BQ (1:Rat) 2:=⟨by decide,by decide⟩
instance BQ.i2':BQ (2:Rat) 2:=⟨by decide,by decide⟩
theorem Q3[BQ v.lo i][BQ v.hi i]:BQ (kp v) (i+i+5):=by
 unfold kp;split
 .exact BQ.mono (k:=1) ⟨by decide,by decide⟩ (by omega)
 .split
  .exact BQ.mono (inferInstance:BQ (v.hi-1) _) (by omega)
  .split
   .exact BQ.mono (inferInstance:BQ (v.lo+1) _) (by omega)
   .exact BQ.mono (inferInstance:BQ ((v.lo+v.hi)/2) _) (by omega)
instance aC.at (l:aa) (t:Rat) (k:Nat) [LB l] [BQ t k]:aC (l.at t) (900+(k+97)+1):=by
 rw[<-xX];infer_instance
def YJ(h: ¬q.num.sign=0):q≠0:=fun e=>h ((pd q).2 e)
def ie(d:ah):ah:=⟨-d.y,d.x⟩
instance aC.turn (d:ah) (k:Nat) [aC d k]:aC (ie d) k:=⟨inferInstanceAs (BQ (-d.y) k),inferInstanceAs (BQ d.x k)⟩
def uB(p v:ah)(m:aa):Rat:= -(m.value p/(m.value (cF p v ((1:Int):Rat))-m.value p))
def sE(p v:ah)(m:aa)(s:Rat):Rat:=if(m.value (cF p v ((1:Int):Rat))-m.value p).num.sign=0 then s else if(m.value p).num.sign=0 then s else if 0<(uB p v m).num.sign then(if bA (uB p v m/2) s<0 then uB p v m/2 else s) else s
def r7(p v:ah):List aa->Rat->Rat
 |[],s=>s
 |m::t,s=>r7 p v t (sE p v m s)
def EM(c:List aa)(p v:ah):ah:=cF p v (r7 p v c ((1:Int):Rat))
def Bb{c:List aa}{p v:ah}{r:Rat}(h:r7 p v (c.drop k) s=r)(hk:k<c.length)(hm:m=c[k])(e:sE p v m s=s'):r7 p v (c.drop (k+1)) s'=r:=by
 rw[bX hk] at h;rw[<-h,r7,<-hm,e]
def aGB{c:List aa}{p v:ah}(hc: ∀m∈c,LB m)(hn:c.length<=1000)(hp:aC p 4500)(hv:aC v 97):PF GB prog 240 [.sl (c.map eL),eP p,eP v] (eP (EM c p v)):=by
 have hcl:=vV c;refine fn func240 J J ntmps240 J J (fun C=>?_);refine cl (fu:=⟨9⟩) J (iw (n:=1)) J<|aj 14 (.d (vI (c.length:Nat))) J (by rw[hcl];rfl)<|gx J<|lp (X:=Rat×Nat) (fun⟨s,k⟩=>[(15, .d (vI (k:Nat))),(14, .d (vI (c.length:Nat))),(13, .d (.sl (c.map eL))),(4, .ov 4 0),(5, .ov 5 0),(7, .ov 7 0),(6, .ov 6 0)]) (fun⟨s,k⟩=>[(7,some (.o 50 [.d ((.v (.bool (decide (s.num<0))))), .d (dN s.num.natAbs), .d (dD s.den)] true)),(6,some (.o 53 [.ff, .nl, .nl, .ff, .nl, .nl] true)),(5,some (.o 53 [.d ((.v (.bool (decide (v.x.num<0))))), .d (dN v.x.num.natAbs), .d (dD v.x.den), .d ((.v (.bool (decide (v.y.num<0))))), .d (dN v.y.num.natAbs), .d (dD v.y.den)] true)),(4,some (.o 53 [.d ((.v (.bool (decide (p.x.num<0))))), .d (dN p.x.num.natAbs), .d (dD p.x.den), .d ((.v (.bool (decide (p.y.num<0))))), .d (dN p.y.num.natAbs), .d (dD p.y.den)] true))]) (fun⟨s,k⟩=>k<=c.length/\BQ s 60000/\r7 p v (c.drop k) s=r7 p v c ((1:Int):Rat)) (fun⟨s,k⟩=>c.length-k) ⟨((1:Int):Rat),0⟩ J ⟨aM _,BQ.i1.mono (by decide),J⟩ (fun _=>J) (fun⟨s,k⟩ hk=>?_)
 try dsimp only at hk⊢
 obtain⟨hle,hsb,hns⟩:=hk;refine br J J J (fun hc16=>?_) (fun hc16=>?_)
 .
  have hk:k<c.length:=by omega
  obtain⟨m,hm⟩: ∃m,m=c[k]:=⟨_,rfl⟩;haveI hmb:LB m:=hm▸hc _ (dX hk);have hinv:=hsb;refine ix (fu:=⟨1⟩) _ J (vN hk) J<|aj 18 (.d (eL m)) J (by rw[hm];rfl)<|gx J<|cl J (iw (n:=1)) J<|cl J (te (p:=p) (q:=v) (c:=((1:Int):Rat))) J<|cl J (Ec (l:=m) (p:=cF p v ((1:Int):Rat))) J<|cl J (Ec (l:=m) (p:=p)) J<|cl J (rj (a:=m.value (cF p v ((1:Int):Rat))) (b:=m.value p)) J<|cl J (mD (q:=m.value (cF p v ((1:Int):Rat))-m.value p)) J<|cs 32 J J J (fun hg32=>?_) (fun hg32=>?_)
  .
   exact at_ ⟨s,k+1⟩ (by dsimp only;exact⟨⟨by omega,hinv,(Bb hns hk hm (by unfold sE;rw[if_pos hg32]))⟩,(by omega)⟩)
  .
   refine cl J (Cb (l:=m) (p:=p)) J<|br J J J (fun hc37=>?_) (fun hc37=>?_)
   .
    exact at_ ⟨s,k+1⟩ (by dsimp only;exact⟨⟨by omega,hinv,(Bb hns hk hm (by unfold sE;rw[if_neg hg32,if_pos hc37]))⟩,(by omega)⟩)
   .
    refine cl J (Ec (l:=m) (p:=p)) J<|cl J (wN (a:=m.value p) (b:=m.value (cF p v ((1:Int):Rat))-m.value p) (YJ hg32)) J<|cl J (og (q:=m.value p/(m.value (cF p v ((1:Int):Rat))-m.value p))) J<|cl (fu:=⟨0⟩) J (mD (q:= -(m.value p/(m.value (cF p v ((1:Int):Rat))-m.value p)))) J<|kj (v2:=fun hg46=>by simp only[ak];exact⟨by kernel_rfl,by omega⟩) J J J J (fun hg46=>?_) (fun hg46=>?_)
    .
     refine cl J (Jf (a:= -(m.value p/(m.value (cF p v ((1:Int):Rat))-m.value p)))) J<|cl J (ku (a:= -(m.value p/(m.value (cF p v ((1:Int):Rat))-m.value p))/2) (b:=s)) J<|br J J J (fun hc53=>?_) (fun hc53=>?_)
     .
      obtain⟨t,ht⟩: ∃t,t= -(m.value p/(m.value (cF p v ((1:Int):Rat))-m.value p)):=⟨_,rfl⟩;haveI htb:BQ t 45000:=ht▸BQ.mono inferInstance;have hinv:BQ (t/2) 60000:=BQ.mono inferInstance;rw[<-ht];refine cl J (Jf (a:=t)) J<|at_ ⟨t/2,k+1⟩ (by dsimp only;exact⟨⟨by omega,hinv,(Bb hns hk hm (by unfold sE;rw[if_neg hg32,if_neg hc37,show uB p v m=t from ht.symm,if_pos (by rw[ht];exact hg46),if_pos (by rw[ht];exact hc53)]))⟩,(by omega)⟩)
     .
      exact at_ ⟨s,k+1⟩ (by dsimp only;exact⟨⟨by omega,hinv,(Bb hns hk hm (by unfold sE;rw[if_neg hg32,if_neg hc37,if_pos (show 0<(uB p v m).num.sign from hg46),if_neg (show¬bA (uB p v m/2) s<0 from hc53)]))⟩,(by omega)⟩)
    .
     exact at_ ⟨s,k+1⟩ (by dsimp only;exact⟨⟨by omega,hinv,(Bb hns hk hm (by unfold sE;rw[if_neg hg32,if_neg hc37,if_neg (show¬0<(uB p v m).num.sign from hg46)]))⟩,(by omega)⟩)
 .
  refine cl J (te (p:=p) (q:=v) (c:=s)) J<|rz J (by unfold EM;rw[<-hns,iU (by omega)];rfl)
def kl(c:List aa):List aa->ah
 |[]=>⟨0,0⟩
 |m::t=>if(gh m c ar.all).2=true then EM c (m.at (kp (gh m c ar.all).1)) (ie m.dir) else kl c t
def aty{c:List aa}(h:kl c (c.drop k)=kl c c)(hk:k<c.length)(hm:m=c[k])(e:(gh m c ar.all).2=true):kl c c=EM c (m.at (kp (gh m c ar.all).1)) (ie m.dir):=by
 rw[<-h,bX hk,kl,<-hm,if_pos e]
def awt{c:List aa}(h:kl c (c.drop k)=kl c c)(hk:k<c.length)(hm:m=c[k])(e: ¬(gh m c ar.all).2=true):kl c (c.drop (k+1))=kl c c:=by
 rw[<-h,bX hk,kl,<-hm,if_neg e]
def U7{c:List aa}(h:m∈c)(h2:(f9 m c ar.all).isSome=true):i0 c=true:=by
 unfold i0;rw[gQ,iJ];exact .inr ⟨m,h,h2⟩
def axi{c:List aa}(h:c=[]):i0 c=true:=by subst h;rfl
def azJ{c:List aa}(h:c≠[])(h2: ∀m∈c,(f9 m c ar.all).isSome=false):i0 c=false:=by
 rw[<-iL];unfold i0;rw[gQ,iJ,pN];rintro (e|⟨m,h3,h4⟩)
 .exact h e
 .rw[h2 m h3] at h4;exact absurd h4 (by decide)
def Oo:eP ⟨0,0⟩= .ag [.v (.bool false), .sl [], .sl [], .v (.bool false), .sl [], .sl []]:=by
 unfold eP dD;simp only[show(0:Rat).num=0 from J,show(0:Rat).den=1 from J,lY,mm];rfl
def GU{c:List aa}(hc: ∀m∈c,LB m)(hok: ∀m∈c,m.ok)(hn:c.length<=1000):PF GB prog 175 [.sl (c.map eL)] (.tp [eP (kl c c),vB (i0 c)]):=by
 have hcl:=vV c;refine fn func175 J J ntmps175 J J (fun C=>?_);refine br (fu2:=⟨7⟩) J J J (fun hc11=>?_) (fun hc11=>?_)
 .
  exact rz J (by rw[cV (l:=c) (by omega),axi J];show _=DV.tp [eP ⟨0,0⟩,_];rw[Oo];rfl)
 .
  refine aj 14 (.d (vI (c.length:Nat))) J (by rw[hcl];rfl)<|gx J<|lp (X:=Nat) (fun k=>[(15, .d (vI (k:Nat))),(14, .d (vI (c.length:Nat))),(13, .d (.sl (c.map eL))),(0, .d (.sl (c.map eL))),(2, .ov 2 0)]) (fun k=>[(2,some (.o 53 [.ff, .nl, .nl, .ff, .nl, .nl] true))]) (fun k=>k<=c.length/\(∀m∈c.take k,(f9 m c ar.all).isSome=false)/\kl c (c.drop k)=kl c c) (fun k=>c.length-k) 0 J ⟨aM _,fun m hm=>absurd hm (by simp),J⟩ (fun _=>J) (fun k hk=>?_);obtain⟨hle,hno,hip⟩:=hk;refine br J J J (fun hc16=>?_) (fun hc16=>?_)
  .
   have hk:k<c.length:=by omega
   obtain⟨m,hm⟩: ∃m,m=c[k]:=⟨_,rfl⟩;haveI hmb:LB m:=hm▸hc _ (dX hk);have hmo:m.ok:=hm▸hok _ (dX hk);refine ix (fu:=⟨1⟩) _ J (vN hk) J<|aj 19 (.d (eL m)) J (by rw[hm];rfl)<|gx J<|cl (fu:=⟨0⟩) J (NI hc hok hn hk) J<|aj 23 (.d (.tp [eV (gh m c ar.all).1,vB (gh m c ar.all).2])) J (by rw[hm])<|gx J<|bb J J J (fun hc26=>?_) (fun hc26=>?_)
   .
    have hbd:=Ef (v:=ar.all) hmo.ne hc gG.all (BQ.mono (k:=1) ⟨by decide,by decide⟩) (BQ.mono (k:=1) ⟨by decide,by decide⟩);obtain⟨s,hs⟩: ∃s,s=(gh m c ar.all).1:=⟨_,rfl⟩;rw[<-hs] at hbd;haveI:=hbd.1;haveI:=hbd.2;haveI hsb:=Q3 (v:=s) (i:=1200);have hpt:aC (m.at (kp s)) 4500:=by have:=aC.at m (kp s) (1200+1200+5);exact⟨this.x.mono (by decide),this.y.mono (by decide)⟩
    have hin:i0 c=true:=U7 (hm▸dX hk) (by rw[<-zi];exact hc26);have hpn:=aty hip hk hm hc26;rw[<-hs] at hpn⊢;refine cl J (il (l:=m)) J<|cl J (Xf (v:=s)) J<|cl J (Qv (l:=m) (t:=kp s) hmo.ne) J<|cl J (og (q:=m.dir.y)) J<|cl J (aGB (p:=m.at (kp s)) (v:=ie m.dir) hc hn (hpt) inferInstance) J<|rz J (by rw[hin,hpn];rfl)
   .
    exact at_ (k+1) ⟨⟨by omega,axG hno hk (by rw[<-hm,<-zi];exact hc26),awt hip hk hm (by rw[hc26];decide)⟩,(by omega)⟩
  .
   exact rz J (by rw[azJ (fun e=>hc11 (by rw[e];rfl)) (fun m hm=>hno m (by rw[cZ (by omega)];exact hm)),<-hip,iU (by omega)];show _=DV.tp [eP ⟨0,0⟩,_];rw[Oo];rfl)
end Go.Sx
end
