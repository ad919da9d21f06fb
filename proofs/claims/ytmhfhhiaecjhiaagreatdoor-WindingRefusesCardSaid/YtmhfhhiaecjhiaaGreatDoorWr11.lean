import Derived.Test.YtmhfhhiaecjhiaaGreatDoorWr10
import Derived.WalkKit
import Derived.LaidEql
import Derived.Stop.Asserts
import Derived.RowKitTokens
set_option linter.all false
set_option maxHeartbeats 1000000
set_option maxRecDepth 100000
section
namespace Go.Sx
open Go Go.Proofs Tryz
variable {GB:Gh}
def KY(a:Rat):mkRat a.num a.den=a:=by simp[nK]
def U'{a b:Rat}(h:b≠0):a/b=mkRat (a.num*zv (decide (b.num<0)) b.den) (a.den*b.num.natAbs):=by
 rw[kM];have ha:(a.num:Rat)/(a.den:Rat)=a:=by rw[<-kM,KY]
 have hb:(b.num:Rat)/(b.den:Rat)=b:=by rw[<-kM,KY]
 have h1:(a.den:Rat)≠0:=by have:=a.den_nz;exact_mod_cast this
 have h2:(b.den:Rat)≠0:=by have:=b.den_nz;exact_mod_cast this
 have h3:(b.num:Rat)≠0:=by
  intro e;rw[e] at hb;apply h;rw[<-hb];grind
 rw[dT,Rat.natCast_mul];by_cases q:b.num<0
 .have e1:((zv (decide (b.num<0)) b.den:Int):Rat)= -(b.den:Rat):=by
   unfold zv;rw[if_pos (by simpa using q),qW];rfl
  have e2:((b.num.natAbs:Nat):Rat)= -(b.num:Rat):=by
   have:((b.num.natAbs:Nat):Int)= -b.num:=by omega
   rw[<-qW,<-this];rfl
  rw[e1,e2];generalize (a.num:Rat)=an at*;generalize (a.den:Rat)=ad at*;generalize (b.num:Rat)=bn at*;generalize (b.den:Rat)=bd at*;subst ha hb;grind
 .have e1:((zv (decide (b.num<0)) b.den:Int):Rat)=(b.den:Rat):=by
   unfold zv;rw[if_neg (by simpa using q)];rfl
  have e2:((b.num.natAbs:Nat):Rat)=(b.num:Rat):=by
   have:((b.num.natAbs:Nat):Int)=b.num:=by omega
   rw[<-this];rfl
  rw[e1,e2];generalize (a.num:Rat)=an at*;generalize (a.den:Rat)=ad at*;generalize (b.num:Rat)=bn at*;generalize (b.den:Rat)=bd at*;subst ha hb;grind
def KU{q:Rat}{n:Int}{d:Nat}(hd:0<d)(h:q*(d:Rat)=(n:Rat)):q.num.natAbs<=n.natAbs/\q.den<=d:=by
 have e:q=mkRat n d:=by
  rw[kM];have:(d:Rat)≠0:=by exact_mod_cast (by omega:d≠0)
  rw[<-h];grind
 rw[e,Rat.num_mkRat,Rat.den_mkRat,if_neg (by omega),if_neg (by omega)];exact⟨lV n (d.gcd n.natAbs:Nat),kK ..⟩
theorem BQ.of_frac{q:Rat}{n:Int}{d i:Nat}(hd:0<d)(h:q*(d:Rat)=(n:Rat))(hn:n.natAbs<2^(6*i))(hdi:d<2^(6*i)):BQ q i:=by
 have:=KU hd h;exact⟨by omega,by omega⟩
def QK{b:Rat}(h:b≠0):0<b.num.natAbs:=by
 have:b.num≠0:=fun e=>h (iW.1 e);omega
instance BQ.over (a b:Rat) (i j:Nat) [ha:BQ a i] [hb:BQ b j]:BQ (a/b) (i+j):=by
 by_cases h:b=0
 .subst h
  rw[Rat.div_def,Rat.inv_zero,Rat.mul_zero];have h2:=ha.hd;have h3:0<a.den:=jh a;have h4:2^(6*i)<=2^(6*(i+j)):=rh (by omega);exact⟨by show 0<_;omega,by show 1<_;omega⟩
 .rw[U' h]
  have hb0:=QK h;refine pq (fX (jh a) hb0) ?_ (jk ha.hd hb.hn);rw[dV,i9];exact jk ha.hn hb.hd
def vb{n:Int}(h0: -4611686018427387904<=n:=by omega)(h1:n<=4611686018427387904:=by omega):PF GB prog 61 [.v (.int .i64 n)] (eQ (n:Rat)):=by
 refine fn func61 J J ntmps61 J J (fun C=>?_);refine cl J (Dq) J<|rz J (by rw[zO];rfl)
def Gm{q:Rat}:PF GB prog 64 [eQ q] (vI q.num.sign):=by
 refine fn func64 J J ntmps64 J J (fun C=>?_);refine cl J Xm J<|rz J J
def R8{q:Rat}:PF GB prog 176 [eQ q] (eQ (-q)):=by
 refine fn func176 J J ntmps176 J J (fun C=>?_);refine cl J LT J<|rz J (by unfold eQ;rw[kS,nV];rfl)
def yp{a b:Rat}{i j:Nat}[ha:BQ a i][hb:BQ b j](hi:i<=20000000:=by decide)(hj:j<=20000000:=by decide):PF GB prog 111 [eQ a,eQ b] (eQ (a*b)):=by
 have had:=jh a;have hbd:=jh b;have hdp:=fX had hbd;have e1:=tx a.den had;have e2:=tx b.den hbd;refine fn func111 J J ntmps111 J J (fun C=>?_);refine cs 9 J J J (fun hg9=>?_) (fun hg9=>?_)
 .
  refine br J J J (fun hc14=>?_) (fun hc14=>?_)
  .
   refine cl J (rx (a:=a.num) (b:=b.num) (by omega) (by omega)) J<|rz J (by rw[O' (e1.1 (by omega)) (e2.1 (by omega)),zO];rfl)
  .
   refine cl J (rx (a:=a.num) (b:=b.num) (by omega) (by omega)) J<|cl J jw J<|cl J jw J<|cl J (rm (by omega) (by omega)) J<|cl J (rO hdp (by omega) (by omega)) J<|rz J (by rw[uG];rfl)
 .
  refine cl J (rx (a:=a.num) (b:=b.num) (by omega) (by omega)) J<|cl J jw J<|cl J jw J<|cl J (rm (by omega) (by omega)) J<|cl J (rO hdp (by omega) (by omega)) J<|rz J (by rw[uG];rfl)
def zR{a b:Rat}{i j:Nat}[ha:BQ a i][hb:BQ b j](hi:i<=20000000:=by decide)(hj:j<=20000000:=by decide):PF GB prog 112 [eQ a,eQ b] (eQ (a+b)):=by
 have had:=jh a;have hbd:=jh b;have hdp:=fX had hbd;have e1:=tx a.den had;have e2:=tx b.den hbd;refine fn func112 J J ntmps112 J J (fun C=>?_);refine cs 9 J J J (fun hg9=>?_) (fun hg9=>?_)
 .
  refine br J J J (fun hc14=>?_) (fun hc14=>?_)
  .
   refine cl J (Az (by omega) (by omega)) J<|rz J (by rw[NW (e1.1 (by omega)) (e2.1 (by omega)),zO];rfl)
  .
   refine cl J jw J<|cl J jr J<|cl J (rx (a:=a.num) (b:=zv false b.den) (by omega) (by omega)) J<|cl J jw J<|cl J jr J<|cl J (rx (a:=b.num) (b:=zv false a.den) (by omega) (by omega)) J<|cl J (Az (by omega) (by omega)) J<|cl J jw J<|cl J jw J<|cl J (rm (by omega) (by omega)) J<|cl J (rO hdp (by omega) (by omega)) J<|rz J (by rw[uC];rfl)
 .
  refine cl J jw J<|cl J jr J<|cl J (rx (a:=a.num) (b:=zv false b.den) (by omega) (by omega)) J<|cl J jw J<|cl J jr J<|cl J (rx (a:=b.num) (b:=zv false a.den) (by omega) (by omega)) J<|cl J (Az (by omega) (by omega)) J<|cl J jw J<|cl J jw J<|cl J (rm (by omega) (by omega)) J<|cl J (rO hdp (by omega) (by omega)) J<|rz J (by rw[uC];rfl)
def Hb{a b:Rat}{i j:Nat}[ha:BQ a i][hb:BQ b j](hi:i<=20000000:=by decide)(hj:j<=20000000:=by decide):PF GB prog 110 [eQ a,eQ b] (eQ (a-b)):=by
 refine fn func110 J J ntmps110 J J (fun C=>?_);refine cl J (R8 (q:=b)) J<|cl J (zR (a:=a) (b:= -b) hi hj) J<|rz J (by rw[Rat.sub_eq_add_neg];rfl)
def so{a b:Rat}{i j:Nat}[ha:BQ a i][hb:BQ b j](hi:i<=20000000:=by decide)(hj:j<=20000000:=by decide):PF GB prog 79 [eQ a,eQ b] (vI (bG a b)):=by
 refine fn func79 J J ntmps79 J J (fun C=>?_);refine cl J (Hb hi hj) J<|cl J Gm J<|rz J (by show vI _=vI _;rw[xy])
instance BI.two:BI 2 2:=⟨by decide⟩
def Iq{m:Int}{g:Nat}(hg:(g:Int)∣m)(hb:m.natAbs<4611686018427387904):IntKind.i64.wrap (m.tdiv g)=m/g:=by
 rw[Int.tdiv_eq_ediv_of_dvd hg];have:=lV m g;exact SJ (by omega)
def tm(a b:Int):Int:=if(a*b).natAbs<4611686018427387904 then a*b else 0
def Ar(a b:Int):(tm a b).natAbs<4611686018427387904:=by unfold tm;split<;>omega
def t7{a b:Int}(h:(a*b).natAbs<4611686018427387904):tm a b=a*b:=if_pos h
def H5{a b:Int}(h: ¬(a*b).natAbs<4611686018427387904:=by omega):DV.tp [vI 0, .v (.bool false)]= .tp [vI (tm a b),vB (decide ((a*b).natAbs<4611686018427387904))]:=by unfold tm;rw[if_neg h,decide_eq_false h];rfl
def JJ{a b:Int}{x:Int}(h:(a*b).natAbs<4611686018427387904)(e:x=a*b):DV.tp [vI x, .v (.bool true)]= .tp [vI (tm a b),vB (decide ((a*b).natAbs<4611686018427387904))]:=by unfold tm;rw[if_pos h,decide_eq_true h,e];rfl
def F3(n:Nat):eI (n:Int)= .ag [.v (.bool false),dN n]:=by unfold eI;rw[decide_eq_false (by omega),dQ]
def Nu{p q:Rat}(hp:p.den=1)(hq:q.den=1):rgcd p q=((Nat.gcd p.num.natAbs q.num.natAbs:Nat):Int):=by
 conv=>lhs;rw[wI hp,wI hq]
 exact CW _ _
def SN(q:Rat):mkRat (zv (decide (q.num<0)) q.den) q.num.natAbs=q⁻¹:=by
 rw[Rat.inv_def];by_cases h:q.num<0
 .rw[decide_eq_true h];exact V5 h
 .rw[decide_eq_false h,<-Rat.divInt_ofNat,lU (by omega)];rfl
instance BQ.inv (q:Rat) (i:Nat) [h:BQ q i]:BQ q⁻¹ i:=by
 have h1:=h.hn;have h2:=h.hd;have h3:=q.den_nz;rcases nQ q.num 0 with k|k|k
 .obtain⟨e1,e2⟩:=IY k;exact⟨by omega,by omega⟩
 .have e:q=0:=iW.1 k
  have e0:(0:Rat)⁻¹=0:=Rat.inv_zero;rw[e] at h1 h2⊢;rw[e0];exact⟨h1,h2⟩
 .obtain⟨e1,e2⟩:=IN k;exact⟨by omega,by omega⟩
instance BQ.half:BQ (mkRat 1 2) 2:=⟨by decide,by decide⟩
def QG{x y:Nat}(hx:x<18446744073709551616)(hy:y<18446744073709551616):PF GB prog 261 [.v (.int .u64 (x:Nat)), .v (.int .u64 (y:Nat))] (.tp [.v (.int .u64 ((x*y/18446744073709551616:Nat):Int)), .v (.int .u64 ((x*y%18446744073709551616:Nat):Int))]):=fun G vs _ hv=>by
 obtain⟨v,m,rfl,h1,h2⟩:=bi.1 hv;obtain⟨u,m',rfl,h3,h4⟩:=bi.1 h2
 cases b4.1 h4
 rw[aH.1 h1,aH.1 h3];exact(Th hx hy).mono fun v G' _ h=>by subst h;exact ph.2 ⟨_,J, .cons (aH.2 J) (.cons (aH.2 J) .nil)⟩
def GP{a b:Nat}(ha:a<18446744073709551616:=by omega)(hb:b<18446744073709551616:=by omega):PF GB prog 195 [.v (.int .u64 (a:Nat)), .v (.int .u64 (b:Nat))] (.v (.int .u64 (Nat.gcd a b:Nat))):=by
 refine fn func195 J J ntmps195 J J (fun C=>?_);refine lp (X:=Nat×Nat) (fun⟨u,v⟩=>[(1, .d (.v (.int .u64 (v:Nat)))),(0, .d (.v (.int .u64 (u:Nat))))]) (fun⟨u,v⟩=>[]) (fun⟨u,v⟩=>u<18446744073709551616/\v<18446744073709551616/\Nat.gcd u v=Nat.gcd a b) (fun⟨u,v⟩=>v) (a,b) J ⟨ha,hb,J⟩ (fun _=>J) (fun⟨u,v⟩ hk=>?_);dsimp only at hk⊢;obtain⟨h1,h2,h3⟩:=hk;refine br (v1:=fun hc6=>by simp only[aj];exact⟨by omega,by kernel_rfl⟩) J J J (fun hc6=>?_) (fun hc6=>?_)
 .
  have hm:=cJ u (show 0<v by omega);exact at_ (v,u%v) (by dsimp only;exact⟨⟨h2,by omega,by rw[<-h3,fS u v,rK v u,fS]⟩,hm⟩)
 .
  exact rz J (by rw[<-h3,show v=0 by omega,lX];rfl)
def vx{m:Int}(h:m.natAbs<9223372036854775808:=by omega):PF GB prog 89 [vI m] (eF (m:Rat)):=by
 refine fn func89 J J ntmps89 J J (fun C=>?_);refine cs 5 J J J (fun hg5=>?_) (fun hg5=>?_)
 .
  refine cl J (CX (m:=m)) J<|rf (fu:=⟨0⟩) J J<|ah 11 (.d (dN 1)) J (by unfold dN;rw[yK];rfl)<|gx J<|cl J (qE (n:=decide (m<0)) (a:=m.natAbs) (i:=63) (h:=BN.up (show m.natAbs<2^63 from h)) (d:=1)) J<|rz J (by rw[im,show mkRat m 1=(m:Rat) from Rat.mkRat_one ..];rfl)
 .
  refine br J J J (fun hc8=>?_) (fun hc8=>?_)
  .
   refine cl J (CX (m:=m)) J<|rf (fu:=⟨0⟩) J J<|ah 11 (.d (dN 1)) J (by unfold dN;rw[yK];rfl)<|gx J<|cl J (qE (n:=decide (m<0)) (a:=m.natAbs) (i:=63) (h:=BN.up (show m.natAbs<2^63 from h)) (d:=1)) J<|rz J (by rw[im,show mkRat m 1=(m:Rat) from Rat.mkRat_one ..];rfl)
  .
   exact gh J (Ej (by omega))
def tQ{a b:Int}(ha:a.natAbs<4611686018427387904:=by omega)(hb:b.natAbs<4611686018427387904:=by omega):PF GB prog 245 [vI a,vI b] (.tp [vI (tm a b),vB (decide ((a*b).natAbs<4611686018427387904))]):=by
 have hab:=dV a b;refine fn func245 J J ntmps245 J J (fun C=>?_);refine cl J (um (m:=a)) J<|cl J (um (m:=b)) J<|cl J (QG (x:=a.natAbs) (y:=b.natAbs) (by omega) (by omega)) J<|cs 18 J J J (fun hg18=>?_) (fun hg18=>?_)
 .
  exact rz J (H5)
 .
  refine br J J J (fun hc21=>?_) (fun hc21=>?_)
  .
   exact rz J (H5)
  .
   refine bb J J J (fun hc26=>?_) (fun hc26=>?_)
   .
    have hs:=Ey a b;rw[if_neg (by simpa using hc26)] at hs;exact rz J (JJ (by omega) (by rw[hs,<-hab];omega))
   .
    have hs:=Ey a b;rw[if_pos (by simpa using hc26)] at hs;exact rz J (JJ (by omega) (by rw[hs,<-hab];omega))
def F5{m:Int}{d:Nat}(h:m.natAbs<4611686018427387904)(h0:0<d)(hd:d<4611686018427387904):PF GB prog 246 [vI m,vI (d:Nat)] (eF (mkRat m d)):=by
 have hg:Nat.gcd m.natAbs d<=d:=Nat.gcd_le_right _ h0;have hg0:0<Nat.gcd m.natAbs d:=jM _ h0;obtain⟨e1,e2⟩:=JI (m:=m) h0;have e3:=lV m (Nat.gcd m.natAbs d:Nat);have e4:=kK d (Nat.gcd m.natAbs d);have e5:=Nat.div_pos hg hg0;refine fn func246 J J ntmps246 J J (fun C=>?_);refine cl J (um (m:=m)) J<|cl J (GP (a:=m.natAbs) (b:=d)) J<|br (fu1:=⟨4⟩) J J J (fun hc13=>?_) (fun hc13=>?_)
 .
  refine ah 16 (.d (vI (m/(Nat.gcd m.natAbs d:Nat)))) J (by rw[Iq (Int.dvd_natAbs.1 (oS.2 (iJ _ _))) h];rfl)<|gx (fu:=⟨3⟩) J<|ah 19 (.d (vI ((d/Nat.gcd m.natAbs d:Nat)))) J (by rw[Iq (oS.2 (jX _ _)) (by rw[dQ];exact hd)];rfl)<|gx (hv:=by simp only[aj];exact⟨by kernel_rfl,by omega⟩) J<|gh J (nC (fun k=>k ⟨by rw[e1];omega,by rw[e2];omega⟩) e1 (by rw[e2]) J)
 .
  exact gh J (by have h1:Nat.gcd m.natAbs d=1:=(by omega);rw[h1,qX] at e2;rw[h1,Int.natCast_one,Int.ediv_one] at e1;exact nC (fun k=>k ⟨by rw[e1];omega,by rw[e2];omega⟩) e1 (by rw[e2]) J)
def nk{p q:Rat}{i j:Nat}[h:BQ p i][k:BQ q j](hi:i<=100000000:=by decide)(hj:j<=100000000:=by decide):PF GB prog 226 [eF p,eF q] (eF (p*q)):=by
 refine fn (fu:=⟨8⟩) func226 J J ntmps226 J J (fun C=>?_);refine mg (X:=Unit) (fun _=>[(2, .ov 2 0),(3, .ov 3 0),(4, .ov 4 0)]) (fun _=>[(2,some (.o 100 [.d (vI (bO p)), .d (vI (bH p)), .d (cO p)] true)),(3,some (.o 100 [.d (vI (bO q)), .d (vI (bH q)), .d (cO q)] true)),(4,some (.o 100 [.d (.v (.int .i64 0)), .d (.v (.int .i64 0)), .d (.v (.pointer none))] true))]) (fun _=>True) [2,3,4] [2,3,4] rfl ?_ (fun _=>J) (fun _ _=>?_)
 .
  refine gx J<|cs 12 J J J (fun hg12=>?_) (fun hg12=>?_)
  .
   refine br (fu1:=⟨4⟩) J J J (fun hc16=>?_) (fun hc16=>?_)
   .
    have hp:=nA hg12;have hq:=nA hc16;have p1:=jm hp;have p2:=kx hp;have p3:=lD hp;have p4:=lr hp;have p5:=p.den_nz;have q1:=jm hq;have q2:=kx hq;have q3:=lD hq;have q4:=lr hq;have q5:=q.den_nz;refine ah 19 (.d (vI p.num)) J (by rw[p1])<|gx (fu:=⟨2⟩) J<|ah 21 (.d (vI q.num)) J (by rw[q1])<|gx J<|cl (fu:=⟨12⟩) J (tQ (a:=p.num) (b:=q.num)) J<|ah 28 (.d (vI (p.den:Nat))) J (by congr 3;omega)<|gx (fu:=⟨3⟩) J<|ah 31 (.d (vI (q.den:Nat))) J (by congr 3;omega)<|gx J<|cl J (tQ (a:=(p.den:Nat)) (b:=(q.den:Nat))) J<|csd 36 J J J (fun hg36=>?_) (fun hg36=>?_)
    .
     refine bd (fu1:=⟨3⟩) J J J (fun hc38=>?_) (fun hc38=>?_)
     .
      have hd1:p.den*q.den<4611686018427387904:=by omega
      refine ah 39 (.d (vI (p.num*q.num))) J (by rw[t7 hg36])<|gx (fu:=⟨1⟩) J<|ah 40 (.d (vI ((p.den*q.den:Nat)))) J (by rw[t7 hc38];rfl)<|gx J<|cl J (F5 (m:=p.num*q.num) (d:=p.den*q.den) hg36 (fX (by omega) (by omega)) hd1) J<|rz J (by rw[<-uG];rfl)
     .
      exact at_ () trivial
    .
     exact at_ () trivial
   .
    exact at_ () trivial
  .
   exact at_ () trivial
 .
  refine cl J (ng (q:=p) (by omega)) J<|cl J (ng (q:=q) (by omega)) J<|cl J (y9 (a:=p.num) (b:=q.num) (by omega) (by omega)) J<|cl J (lq (q:=p) (by omega)) J<|cl J (lq (q:=q) (by omega)) J<|cl J (sQ (a:=p.den) (b:=q.den) (by omega) (by omega)) J<|cl J (qE (n:=decide (p.num*q.num<0)) (a:=(p.num*q.num).natAbs) (d:=p.den*q.den) (i:=i+j) (j:=i+j) (by omega) (by omega)) J<|rz J (by rw[im,<-uG];rfl)
def tW{p q:Rat}{i j:Nat}[h:BQ p i][k:BQ q j](hi:i<=100000000:=by decide)(hj:j<=100000000:=by decide):PF GB prog 222 [eF p,eF q] (eF (p+q)):=by
 refine fn (fu:=⟨8⟩) func222 J J ntmps222 J J (fun C=>?_);refine mg (X:=Unit) (fun _=>[(2, .ov 2 0),(3, .ov 3 0),(4, .ov 4 0)]) (fun _=>[(2,some (.o 100 [.d (vI (bO p)), .d (vI (bH p)), .d (cO p)] true)),(3,some (.o 100 [.d (vI (bO q)), .d (vI (bH q)), .d (cO q)] true)),(4,some (.o 100 [.d (.v (.int .i64 0)), .d (.v (.int .i64 0)), .d (.v (.pointer none))] true))]) (fun _=>True) [2,3,4] [2,3,4] rfl ?_ (fun _=>J) (fun _ _=>?_)
 .
  refine gx J<|cs 16 J J J (fun hg16=>?_) (fun hg16=>?_)
  .
   refine br (fu1:=⟨1⟩) J J J (fun hc20=>?_) (fun hc20=>?_)
   .
    have hp:=nA hg16;have hq:=nA hc20;have p1:=jm hp;have p2:=kx hp;have p3:=lD hp;have p4:=lr hp;have p5:=p.den_nz;have q1:=jm hq;have q2:=kx hq;have q3:=lD hq;have q4:=lr hq;have q5:=q.den_nz;refine mg (fu:=⟨4⟩) (X:=Unit) (fun _=>[(2, .ov 2 0),(3, .ov 3 0),(4, .ov 4 0)]) (fun _=>[(2,some (.o 100 [.d (vI (bO p)), .d (vI (bH p)), .d (cO p)] true)),(3,some (.o 100 [.d (vI (bO q)), .d (vI (bH q)), .d (cO q)] true)),(4,some (.o 100 [.d (.v (.int .i64 0)), .d (.v (.int .i64 0)), .d (.v (.pointer none))] true))]) (fun _=>True) [2,3,4] [2,3,4] rfl ?_ (fun _=>J) (fun _ _=>?_)
    .
     refine gx J<|cs 24 J J J (fun hg24=>?_) (fun hg24=>?_)
     .
      refine br (fu1:=⟨4⟩) J J J (fun hc28=>?_) (fun hc28=>?_)
      .
       refine ah 30 (.d (vI p.num)) J (by rw[p1])<|gx (fu:=⟨2⟩) J<|ah 32 (.d (vI q.num)) J (by rw[q1])<|gx J<|cl J (vx (m:=p.num+q.num)) J<|rz J (by rw[wI (q:=p),wI (q:=q),<-qV];rfl)
      .
       exact at_ () trivial
     .
      exact at_ () trivial
    .
     refine ah 37 (.d (vI p.num)) J (by rw[p1])<|gx (fu:=⟨3⟩) J<|ah 40 (.d (vI (q.den:Nat))) J (by congr 3;omega)<|gx J<|cl (fu:=⟨11⟩) J (tQ (a:=p.num) (b:=(q.den:Nat))) J<|ah 46 (.d (vI q.num)) J (by rw[q1])<|gx (fu:=⟨3⟩) J<|ah 49 (.d (vI (p.den:Nat))) J (by congr 3;omega)<|gx J<|cl (fu:=⟨12⟩) J (tQ (a:=q.num) (b:=(p.den:Nat))) J<|ah 56 (.d (vI (p.den:Nat))) J (by congr 3;omega)<|gx (fu:=⟨3⟩) J<|ah 59 (.d (vI (q.den:Nat))) J (by congr 3;omega)<|gx J<|cl (fu:=⟨3⟩) J (tQ (a:=(p.den:Nat)) (b:=(q.den:Nat))) J<|?_;have t1:=Ar p.num (q.den:Nat);have t2:=Ar q.num (p.den:Nat);have t3:=Ar (p.den:Nat) (q.den:Nat);refine gx J<|csd 67 J J J (fun hg67=>?_) (fun hg67=>?_)
     .
      refine csd 70 J J J (fun hg70=>?_) (fun hg70=>?_)
      .
       refine csd 73 J J J (fun hg73=>?_) (fun hg73=>?_)
       .
        refine cs 77 J J J (fun hg77=>?_) (fun hg77=>?_)
        .
         refine br (fu1:=⟨3⟩) J J J (fun hc80=>?_) (fun hc80=>?_)
         .
          have u1:=t7 hg67;have u2:=t7 hg70;have u3:=t7 hg73;have hd1:p.den*q.den<4611686018427387904:=by omega
          refine ah 81 (.d (vI (p.num*(q.den:Nat)+q.num*(p.den:Nat)))) J (by rw[u1,u2];rfl)<|gx (fu:=⟨1⟩) J<|ah 82 (.d (vI ((p.den*q.den:Nat)))) J (by rw[u3];rfl)<|gx J<|cl J (F5 (m:=p.num*(q.den:Nat)+q.num*(p.den:Nat)) (d:=p.den*q.den) (by omega) (fX (by omega) (by omega)) hd1) J<|rz J (by rw[<-uC];rfl)
         .
          exact at_ () trivial
        .
         exact at_ () trivial
       .
        exact at_ () trivial
      .
       exact at_ () trivial
     .
      exact at_ () trivial
   .
    exact at_ () trivial
  .
   exact at_ () trivial
 .
  refine cl J (ng (q:=p) (by omega)) J<|cl (fu:=⟨1⟩) J (lq (q:=q) (by omega)) J<|ah 88 (.d (eI (q.den:Nat))) J (by rw[F3])<|gx J<|cl J (y9 (a:=p.num) (b:=(q.den:Nat)) (by omega) (by omega)) J<|cl J (ng (q:=q) (by omega)) J<|cl (fu:=⟨1⟩) J (lq (q:=p) (by omega)) J<|ah 94 (.d (eI (p.den:Nat))) J (by rw[F3])<|gx J<|cl J (y9 (a:=q.num) (b:=(p.den:Nat)) (by omega) (by omega)) J<|cl J (Nx (a:=p.num*(q.den:Nat)) (b:=q.num*(p.den:Nat)) (i:=i+j) (j:=j+i) (by omega) (by omega)) J<|cl J (lq (q:=p) (by omega)) J<|cl J (lq (q:=q) (by omega)) J<|cl J (sQ (a:=p.den) (b:=q.den) (by omega) (by omega)) J<|cl J (qE (n:=decide (p.num*(q.den:Nat)+q.num*(p.den:Nat)<0)) (a:=(p.num*(q.den:Nat)+q.num*(p.den:Nat)).natAbs) (d:=p.den*q.den) (i:=i+j+(j+i)+1) (j:=i+j) (by omega) (by omega)) J<|rz J (by rw[im,<-uC];rfl)
def tc{p q:Rat}{i j:Nat}[h:BQ p i][k:BQ q j](hi:i<=100000000:=by decide)(hj:j<=100000000:=by decide):PF GB prog 167 [eF p,eF q] (eF (p-q)):=by
 refine fn func167 J J ntmps167 J J (fun C=>?_);refine cl J (kA (q:=q) (by omega)) J<|cl J (tW (p:=p) (q:= -q) (by omega) (by omega)) J<|rz J (by rw[<-Rat.sub_eq_add_neg];rfl)
def r6{q:Rat}{i:Nat}[h:BQ q i](hi:i<=400000000:=by decide):PF GB prog 232 [eF q] (eF q⁻¹):=by
 refine fn func232 J J ntmps232 J J (fun C=>?_);refine br (v1:=fun hc3=>by simp only[aj];exact⟨⟨hc3,hc3⟩,hc3⟩) J J J (fun hc3=>?_) (fun hc3=>?_)
 .
  refine cl J (qE (n:=decide (q.num<0)) (a:=q.den) (d:=q.num.natAbs) (by omega) (by omega)) J<|rz J (by rw[SN];rfl)
 .
  have q1:=jm (jC hc3);have q2:=kx (jC hc3);have q3:=lD (jC hc3);have q4:=lr (jC hc3);have q5:=q.den_nz;refine br J J J (fun hc26=>?_) (fun hc26=>?_)
  .
   exact gh rfl (by obtain⟨e1,e2⟩:=IY (q:=q) (by omega);exact nC (fun k=>k ⟨by omega,by omega⟩) (by omega) (by omega) rfl)
  .
   refine br J J J (fun hc39=>?_) (fun hc39=>?_)
   .
    exact gh J (by rw[iW.1 (show q.num=0 by omega),Rat.inv_zero];exact sH)
   .
    exact gh rfl (by obtain⟨e1,e2⟩:=IN (q:=q) (by omega);exact nC (fun k=>k ⟨by omega,by omega⟩) (by omega) (by omega) rfl)
def uX{p q:Rat}{i j:Nat}[h:BQ p i][k:BQ q j](hi:i<=100000000:=by decide)(hj:j<=100000000:=by decide):PF GB prog 186 [eF p,eF q] (eF (p/q)):=by
 refine fn func186 J J ntmps186 J J (fun C=>?_);refine cl J (r6 (q:=q) (by omega)) J<|cl J (nk (p:=p) (q:=q⁻¹) (by omega) (by omega)) J<|rz J (by rw[Rat.div_def];rfl)
def SF{G:Gh}{q r:DV}{t:List DV}{vs:List Value}(h: ∀y,Is G r y->Is G q y)(hv:IsLs G (r::t) vs):IsLs G (q::t) vs:=by
 obtain⟨y,m,rfl,h1,h2⟩:=bi.1 hv;exact .cons (h _ h1) h2
def SE{G:Gh}{a q r:DV}{t:List DV}{vs:List Value}(h: ∀y,Is G r y->Is G q y)(hv:IsLs G (a::r::t) vs):IsLs G (a::q::t) vs:=by
 obtain⟨y,m,rfl,h1,h2⟩:=bi.1 hv;exact .cons h1 (SF h h2)
def Mn{q:Rat}{i:Nat}[h:BQ q i](hi:i<=100000000:=by decide):PF GB prog 226 [eF q, .ag [vI 1,vI 1, .v (.pointer none)]] (eF (q*mkRat 1 2)):=
 (nk (p:=q) (q:=mkRat 1 2) hi).ofI fun G vs hv=>SE (fun y hy=>nC (q:=mkRat 1 2) (fun k=>k ⟨by decide,by decide⟩) (by decide) (by decide) J G y hy) hv
def WO{q:Rat}{i:Nat}[h:BQ q i](hi:i<=100000000:=by decide):PF GB prog 175 [eF q] (eF (q*mkRat 1 2)):=by
 refine fn func175 J J ntmps175 J J (fun C=>?_);refine cl J (Mn (q:=q) (by omega)) J<|rz J J
def f7{p q:Rat}{i j:Nat}[h:BQ p i][k:BQ q j](hi:i<=100000000:=by decide)(hj:j<=100000000:=by decide):PF GB prog 104 [eF p,eF q] (vI (bG p q)):=by
 refine fn func104 J J ntmps104 J J (fun C=>?_);refine cs 8 J J J (fun hg8=>?_) (fun hg8=>?_)
 .
  refine cs 13 J J J (fun hg13=>?_) (fun hg13=>?_)
  .
   refine br J J J (fun hc19=>?_) (fun hc19=>?_)
   .
    have hp:=nA hg8;have hq:=nA hg13;have p1:=jm hp;have p2:=kx hp;have p3:=lD hp;have p4:=lr hp;have p5:=p.den_nz;have q1:=jm hq;have q2:=kx hq;have q3:=lD hq;have q4:=lr hq;have q5:=q.den_nz;have hl:=EC (a:=p) (b:=q);have hr:=EC (a:=q) (b:=p);unfold bG;refine br J J J (fun hc20=>?_) (fun hc20=>?_)
    .
     exact rz J (by rw[if_pos (hl.2 (by omega))];rfl)
    .
     refine br J J J (fun hc26=>?_) (fun hc26=>?_)
     .
      exact rz J (by rw[if_neg (fun e=>by have:=hl.1 e;omega),if_pos (hr.2 (by omega))];rfl)
     .
      exact rz J (by rw[if_neg (fun e=>by have:=hl.1 e;omega),if_neg (fun e=>by have:=hr.1 e;omega)];rfl)
   .
    refine cl J (tc (p:=p) (q:=q) (by omega) (by omega)) J<|cl J (ij (q:=p-q) (by omega)) J<|rz J (by rw[xy];rfl)
  .
   refine cl J (tc (p:=p) (q:=q) (by omega) (by omega)) J<|cl J (ij (q:=p-q) (by omega)) J<|rz J (by rw[xy];rfl)
 .
  refine cl J (tc (p:=p) (q:=q) (by omega) (by omega)) J<|cl J (ij (q:=p-q) (by omega)) J<|rz J (by rw[xy];rfl)
def JT{p q:Rat}{i j:Nat}[h:BQ p i][k:BQ q j](hi:i<=100000000:=by decide)(hj:j<=100000000:=by decide):PF GB prog 134 [eF p,eF q] (vB (decide (p=q))):=by
 refine fn func134 J J ntmps134 J J (fun C=>?_);refine cl J (f7 (p:=p) (q:=q) hi hj) J<|rz J (by show DV.v (.bool (decide _))= .v (.bool _);congr 2;exact decide_eq_decide.2 (ll p q))
def Qb{p q:Rat}{i j:Nat}[h:BQ p i][k:BQ q j](hi:i<=100000000:=by decide)(hj:j<=100000000:=by decide):PF GB prog 172 [eF p,eF q] (eF (if q<p then q else p)):=by
 refine fn func172 J J ntmps172 J J (fun C=>?_);refine cl J (f7 (p:=q) (q:=p) hj hi) J<|br J J J (fun hc8=>?_) (fun hc8=>?_)
 .
  exact rz J (by rw[if_pos ((DE q p).1 hc8)];rfl)
 .
  exact rz J (by rw[if_neg (fun e=>hc8 ((DE q p).2 e))];rfl)
def nj{p q:Rat}{i j:Nat}[h:BQ p i][k:BQ q j](hi:i<=100000000:=by decide)(hj:j<=100000000:=by decide):PF GB prog 133 [eF p,eF q] (eF (rgcd p q)):=by
 refine fn (fu:=⟨8⟩) func133 J J ntmps133 J J (fun C=>?_);refine mg (X:=Unit) (fun _=>[(2, .ov 2 0),(3, .ov 3 0),(4, .ov 4 0)]) (fun _=>[(2,some (.o 100 [.d (vI (bO p)), .d (vI (bH p)), .d (cO p)] true)),(3,some (.o 100 [.d (vI (bO q)), .d (vI (bH q)), .d (cO q)] true)),(4,some (.o 100 [.d (.v (.int .i64 0)), .d (.v (.int .i64 0)), .d (.v (.pointer none))] true))]) (fun _=>True) [2,3,4] [2,3,4] rfl ?_ (fun _=>J) (fun _ _=>?_)
 .
  refine gx J<|cs 10 J J J (fun hg10=>?_) (fun hg10=>?_)
  .
   refine cs 15 J J J (fun hg15=>?_) (fun hg15=>?_)
   .
    have hp:=nA hg10;have hq:=nA hg15;have p1:=jm hp;have p2:=kx hp;have p3:=lD hp;have p4:=lr hp;have p5:=p.den_nz;have q1:=jm hq;have q2:=kx hq;have q3:=lD hq;have q4:=lr hq;have q5:=q.den_nz;refine cs 20 J J J (fun hg20=>?_) (fun hg20=>?_)
    .
     refine br (fu1:=⟨4⟩) J J J (fun hc24=>?_) (fun hc24=>?_)
     .
      have hg:=N3 p3 q3;refine ah 26 (.d (vI p.num)) J (by rw[p1])<|gx J<|cl (fu:=⟨2⟩) J (um (m:=p.num)) J<|ah 29 (.d (vI q.num)) J (by rw[q1])<|gx J<|cl J (um (m:=q.num)) J<|cl (hv:=by simp only[aj];exact⟨by omega,by kernel_rfl⟩) J (GP (a:=p.num.natAbs) (b:=q.num.natAbs)) J<|gh J (by rw[Nu (p:=p) (q:=q) (by omega) (by omega)];exact Ej (by rw[dQ];exact hg))
     .
      exact at_ () trivial
    .
     exact at_ () trivial
   .
    exact at_ () trivial
  .
   exact at_ () trivial
 .
  refine cl J (lq (q:=p) (by omega)) J<|cl J (lq (q:=q) (by omega)) J<|cl J (sQ (a:=p.den) (b:=q.den) (by omega) (by omega)) J<|cl J (ng (q:=p) (by omega)) J<|cl J (lq (q:=q) (by omega)) J<|cl J (sQ (a:=p.num.natAbs) (b:=q.den) (by omega) (by omega)) J<|cl J (ng (q:=q) (by omega)) J<|cl J (lq (q:=p) (by omega)) J<|cl J (sQ (a:=q.num.natAbs) (b:=p.den) (by omega) (by omega)) J<|cl J (xC (a:=p.num.natAbs*q.den) (b:=q.num.natAbs*p.den) (i:=i+j) (j:=j+i) (by omega) (by omega)) J<|cl J (qE (n:=false) (a:=Nat.gcd (p.num.natAbs*q.den) (q.num.natAbs*p.den)) (d:=p.den*q.den) (i:=i+j+(j+i)) (j:=i+j) (by omega) (by omega)) J<|rz J J
end Go.Sx
end
section
namespace Go.Sx
open Go
def crossI(l m:ab):Int:=l.a*m.b-m.a*l.b
def meetX(l m:ab):Int:=l.b*m.c-m.b*l.c
def meetY(l m:ab):Int:=m.a*l.c-l.a*m.c
def ly(l m:ab):aa:=if crossI l m=0 then⟨0,0⟩ else⟨(meetX l m:Rat)/(crossI l m:Rat),(meetY l m:Rat)/(crossI l m:Rat)⟩
def du(l:ab)(p:aa):Rat:=p.dot l.dir/l.dir.dot l.dir
def Gc(l:ab):l.dir.dot l.dir=l.nor.dot l.nor:=by
 simp only[ab.dir,ab.nor,aa.dot];grind
def Fp{l:ab}(h:l.Ne):0<l.dir.dot l.dir:=by rw[Gc];exact vR h
def Vc{l:ab}:(⟨-((l.c:Rat)/l.dir.dot l.dir)*(l.a:Rat), -((l.c:Rat)/l.dir.dot l.dir)*(l.b:Rat)⟩:aa)=l.base:=by
 unfold ab.base;rw[Gc];simp only[ab.nor,aa.scale,aa.mk.injEq];constructor<;>grind
def Xx(l:ab)(t:Rat):eh l.base l.dir t=l.at t:=by
 simp only[eh,ab.at,aa.add,aa.scale,aa.mk.injEq];constructor<;>grind
def U4(v:bm)(t:Rat):bm:=if v.nl=true\/0<bG t v.lo then⟨t,v.hi,false,v.nh⟩ else v
def RG(v:bm)(t:Rat):bm:=if v.nh=true\/bG t v.hi<0 then⟨v.lo,t,v.nl,false⟩ else v
structure wG (v:bm):Prop where
 lo:v.nl=true->v.lo=0
 hi:v.nh=true->v.hi=0
def T0(a b:Rat):0<bG a b↔b<a:=by
 unfold bG;split
 .constructor
  .intro h;exact absurd h (by decide)
  .intro h;grind
 .split
  .exact⟨fun _=>by assumption,fun _=>by decide⟩
  .constructor
   .intro h;exact absurd h (by decide)
   .intro h;exact absurd h (by assumption)
def Mu(a b:Rat):bG a b<0↔a<b:=by
 unfold bG;split
 .exact⟨fun _=>by assumption,fun _=>by decide⟩
 .split
  .constructor
   .intro h;exact absurd h (by decide)
   .intro h;grind
  .constructor
   .intro h;exact absurd h (by decide)
   .intro h;exact absurd h (by assumption)
end Go.Sx
end
section
namespace Go.Sx
open Go Go.Proofs Tryz
variable {GB:Gh}

def cT:Tr->List DV
 | .leaf b=>[.v (.bool true), .v (.bool b), .v (.bool false), .sl [], .v (.bool false), .sl [], .v (.bool false), .sl [], .v (.pointer none), .v (.pointer none)]
 | .node l x y=>[.v (.bool false), .v (.bool false), .v (.bool (decide (l.a<0))),dN l.a.natAbs, .v (.bool (decide (l.b<0))),dN l.b.natAbs, .v (.bool (decide (l.c<0))),dN l.c.natAbs, .pt (cT x), .pt (cT y)]
def eT(t:Tr):DV:= .pt (cT t)
def eN(n:NQ):DV:= .ag [.v (.bool (decide (n.l.a<0))),dN n.l.a.natAbs, .v (.bool (decide (n.l.b<0))),dN n.l.b.natAbs, .v (.bool (decide (n.l.c<0))),dN n.l.c.natAbs, .v (.int .i64 n.a), .v (.int .i64 n.b)]
def eA(t:Tr):DV:= .ag [.v (.int .i64 (t.num 0)), .sl ((t.wr 0).map eN)]
structure BL (l:ab) (k:Nat):Prop where
 a:l.a.natAbs<2^k
 b:l.b.natAbs<2^k
 c:l.c.natAbs<2^k
structure LS (l:ab):Prop where
 ok:l.ok
 a:l.a.natAbs<=4
 b:l.b.natAbs<=4
 c:l.c.natAbs<=40000
def ab.ext'{l m:ab}(h1:l.a=m.a:=by omega)(h2:l.b=m.b:=by omega)(h3:l.c=m.c:=by omega):l=m:=by cases l;cases m;simp_all
instance:DecidableEq NQ:=fun x y=>decidable_of_iff (x.l=y.l/\x.a=y.a/\x.b=y.b) (by
 cases x;cases y;simp)
def O3(ls:List ab):dl 6 (ls.map eL):=fun d hd=>by
 obtain⟨n,_,rfl⟩:=bV.1 hd;exact⟨rfl,rfl⟩
class LB (l:ab):Prop where bl:BL l 576
instance LB.a (l:ab) [h:LB l]:BI l.a 96:=BI.of h.bl.a J
instance LB.b (l:ab) [h:LB l]:BI l.b 96:=BI.of h.bl.b J
instance LB.c (l:ab) [h:LB l]:BI l.c 96:=BI.of h.bl.c J
class aq (p:aa) (k:outParam Nat):Prop where
 x:BQ p.x k
 y:BQ p.y k
instance aq.ix (p:aa) (k:Nat) [h:aq p k]:BQ p.x k:=h.x
instance aq.iy (p:aa) (k:Nat) [h:aq p k]:BQ p.y k:=h.y
instance aq.dir (l:ab) [LB l]:aq l.dir 97:=⟨inferInstanceAs (BQ (l.b:Rat) 97),inferInstanceAs (BQ (-(l.a:Rat)) 97)⟩
instance BQ.dot (p q:aa) (i j:Nat) [aq p i] [aq q j]:BQ (p.dot q) (i+j+(i+j)+1):=inferInstanceAs (BQ (p.x*q.x+p.y*q.y) _)
instance BQ.cross (p q:aa) (i j:Nat) [aq p i] [aq q j]:BQ (p.cross q) (i+j+(i+j)+1):=inferInstanceAs (BQ (p.x*q.y-p.y*q.x) _)
instance aq.mov (p q:aa) (c:Rat) (i j k:Nat) [aq p i] [aq q j] [BQ c k]:aq (eh p q c) (i+(k+j)+1):=⟨inferInstanceAs (BQ (p.x+c*q.x) _),inferInstanceAs (BQ (p.y+c*q.y) _)⟩
instance BQ.value (l:ab) (p:aa) (i:Nat) [LB l] [aq p i]:BQ (l.value p) (96+1+i+(96+1+i)+1+(96+1)+1):=inferInstanceAs (BQ ((l.a:Rat)*p.x+(l.b:Rat)*p.y+(l.c:Rat)) _)
def RO{p q:aa}{i j:Nat}[hp:aq p i][hq:aq q j](hi:i<=200000:=by decide)(hj:j<=200000:=by decide):PF GB prog 65 [eP p,eP q] (eQ (p.cross q)):=by
 refine fn func65 J J ntmps65 J J (fun C=>?_);refine cl J (yp (by omega) (by omega)) J<|cl J (yp (by omega) (by omega)) J<|cl J (Hb (by omega) (by omega)) J<|rz J J
def N0{p q:aa}{c:Rat}{i j k:Nat}[hp:aq p i][hq:aq q j][hc:BQ c k](hi:i<=19000000:=by decide)(hj:j<=9000000:=by decide)(hk:k<=9000000:=by decide):PF GB prog 66 [eP p,eQ c,eP q] (eP (eh p q c)):=by
 refine fn func66 J J ntmps66 J J (fun C=>?_);refine cl J (yp (by omega) (by omega)) J<|cl J (zR (by omega) (by omega)) J<|cl J (yp (by omega) (by omega)) J<|cl J (zR (by omega) (by omega)) J<|rz J J
instance aq.base (l:ab) [LB l]:aq l.base 900:=by
 rw[<-Vc];constructor
 .exact BQ.mono (inferInstance:BQ (-((l.c:Rat)/l.dir.dot l.dir)*(l.a:Rat)) _)
 .exact BQ.mono (inferInstance:BQ (-((l.c:Rat)/l.dir.dot l.dir)*(l.b:Rat)) _)
instance BI.crossI (l m:ab) [LB l] [LB m]:BI (crossI l m) 385:=inferInstanceAs (BI (l.a*m.b-m.a*l.b) 385)
instance BI.meetX (l m:ab) [LB l] [LB m]:BI (meetX l m) 385:=inferInstanceAs (BI (l.b*m.c-m.b*l.c) 385)
instance BI.meetY (l m:ab) [LB l] [LB m]:BI (meetY l m) 385:=inferInstanceAs (BI (m.a*l.c-l.a*m.c) 385)
instance aq.imeet (l m:ab) [LB l] [LB m]:aq (ly l m) 772:=by
 unfold ly;split
 .exact⟨BQ.mono (k:=1) ⟨by decide,by decide⟩,BQ.mono (k:=1) ⟨by decide,by decide⟩⟩
 .exact⟨inferInstanceAs (BQ ((meetX l m:Rat)/(crossI l m:Rat)) 772),inferInstanceAs (BQ ((meetY l m:Rat)/(crossI l m:Rat)) 772)⟩
def cF(l m:ab):Int:=if(l.a-m.a).sign≠0 then(l.a-m.a).sign else if(l.b-m.b).sign≠0 then(l.b-m.b).sign else(l.c-m.c).sign
def Ce(l m:ab):cF l m=0↔l=m:=by
 unfold cF;constructor
 .intro h
  split at h
  .contradiction
  .split at h
   .contradiction
   .rename_i h1 h2
    have a1:=gX.1 (Decidable.not_not.1 h1);have a2:=gX.1 (Decidable.not_not.1 h2);have a3:=gX.1 h;exact ab.ext'
 .rintro rfl
  simp
def Nv(z:Int): -1<=z.sign/\z.sign<=1:=by
 rcases nQ z 0 with h|h|h
 .rw[dK h];omega
 .rw[h];decide
 .rw[eY h];omega
instance BQ.i1:BQ (((1:Int):Rat)) 2:=⟨by decide,by decide⟩
def eV(v:bm):DV:= .ag [.v (.bool (decide (v.lo.num<0))),dN v.lo.num.natAbs,dD v.lo.den, .v (.bool (decide (v.hi.num<0))),dN v.hi.num.natAbs,dD v.hi.den, .v (.bool v.nl), .v (.bool v.nh)]
def Xa:eQ 0= .ag [.v (.bool false), .sl [], .sl []]:=by
 unfold eQ dD;simp only[show(0:Rat).num=0 from J,show(0:Rat).den=1 from J,Int.natAbs_zero,qz];rfl
def Wi(v:bm):Rat:=if v.nl=true/\v.nh=true then 0 else if v.nl=true then v.hi-1 else if v.nh=true then v.lo+1 else(v.lo+v.hi)/2
theorem BQ.of_fracI{q:Rat}{n D:Int}{i:Nat}(hd:0<D.natAbs)(h:q*((D.natAbs:Nat):Rat)=(n:Rat))(hn:BI n i)(hD:BI D i):BQ q i:=BQ.of_frac hd h hn.h hD.h
theorem H2{m:Int}{i j:Nat}(h:BI m i)(hij:i<=j:=by decide):BI m j:=⟨bS h.h (rh hij)⟩
def sD(l:ab):List ab->bm->bm×Bool
 |[],v=>(v,true)
 |m::t,v=>if m=l then sD l t v else if l.cutB v m=true then sD l t (l.cutV v m) else(l.cutV v m,false)
structure Y3 (l:ab) (c:List ab) (k:Nat) (v:bm):Prop where
 le:k<=c.length
 p:tv l (c.drop k) v=tv l c bm.all
 e:sD l (c.drop k) v=sD l c bm.all
 z:wG v
 lo:BQ v.lo 1200
 hi:BQ v.hi 1200
def aFI(l m:ab)(v:bm):bm:=if 0<(m.dir.cross l.dir).num.sign then U4 v (du l (ly l m)) else RG v (du l (ly l m))
def cA(l:ab):DV:= .ag [vI (bO (l.a:Rat)),vI (bH (l.a:Rat)),cO (l.a:Rat),vI (bO (l.b:Rat)),vI (bH (l.b:Rat)),cO (l.b:Rat),vI (bO (l.c:Rat)),vI (bH (l.c:Rat)),cO (l.c:Rat)]
def eZ(p:aa):DV:= .ag [vI (bO p.x),vI (bH p.x),cO p.x,vI (bO p.y),vI (bH p.y),cO p.y]
def eW(v:bm):DV:= .ag [vI (bO v.lo),vI (bH v.lo),cO v.lo,vI (bO v.hi),vI (bH v.hi),cO v.hi, .v (.bool v.nl), .v (.bool v.nh)]
def fh:List Int->Int
 |[]=>0
 |a::t=>if a≠0 then a else fh t
theorem aq.nor(l:ab)[LB l]:aq l.nor 97:=⟨inferInstanceAs (BQ (l.a:Rat) 97),inferInstanceAs (BQ (l.b:Rat) 97)⟩
attribute [instance] aq.nor
instance aq.scale (p:aa) (c:Rat) (i k:Nat) [aq p i] [BQ c k]:aq (p.scale c) (i+k):=⟨inferInstanceAs (BQ (p.x*c) _),inferInstanceAs (BQ (p.y*c) _)⟩
instance aq.add (p q:aa) (i j:Nat) [aq p i] [aq q j]:aq (p.add q) (i+j+1):=⟨inferInstanceAs (BQ (p.x+q.x) _),inferInstanceAs (BQ (p.y+q.y) _)⟩
instance LB.revA (l:ab) [h:LB l]:LB l.rev:=⟨⟨by rw[show l.rev.a= -l.a from J,gV];exact h.bl.a,by rw[show l.rev.b= -l.b from J,gV];exact h.bl.b,by rw[show l.rev.c= -l.c from J,gV];exact h.bl.c⟩⟩
def C5{l:ab}:PF GB prog 189 [cA l] (eZ l.nor):=by
 refine fn func189 J J ntmps189 J J (fun C=>?_);exact rz J J
def ya{l:ab}[hl:LB l]:PF GB prog 124 [cA l] (eZ l.dir):=by
 refine fn func124 J J ntmps124 J J (fun C=>?_);refine cl J (kA (q:=(l.a:Rat))) J<|rz J J
def ld{p q:aa}{i j:Nat}[hp:aq p i][hq:aq q j](hi:i<=40000000:=by decide)(hj:j<=40000000:=by decide):PF GB prog 185 [eZ p,eZ q] (eF (p.dot q)):=by
 refine fn func185 J J ntmps185 J J (fun C=>?_);refine cl J (nk (p:=p.x) (q:=q.x) (by omega) (by omega)) J<|cl J (nk (p:=p.y) (q:=q.y) (by omega) (by omega)) J<|cl J (tW (p:=p.x*q.x) (q:=p.y*q.y) (by omega) (by omega)) J<|rz J J
def GJ{p q:aa}{i j:Nat}[hp:aq p i][hq:aq q j](hi:i<=40000000:=by decide)(hj:j<=40000000:=by decide):PF GB prog 204 [eZ p,eZ q] (eF (p.cross q)):=by
 refine fn func204 J J ntmps204 J J (fun C=>?_);refine cl J (nk (p:=p.x) (q:=q.y) (by omega) (by omega)) J<|cl J (nk (p:=p.y) (q:=q.x) (by omega) (by omega)) J<|cl J (tc (p:=p.x*q.y) (q:=p.y*q.x) (by omega) (by omega)) J<|rz J J
def ug{p:aa}{c:Rat}{i j:Nat}[hp:aq p i][hc:BQ c j](hi:i<=40000000:=by decide)(hj:j<=40000000:=by decide):PF GB prog 174 [eZ p,eF c] (eZ (p.scale c)):=by
 refine fn func174 J J ntmps174 J J (fun C=>?_);refine cl J (nk (p:=p.x) (q:=c) (by omega) (by omega)) J<|cl J (nk (p:=p.y) (q:=c) (by omega) (by omega)) J<|rz J J
def wv{p q:aa}{i j:Nat}[hp:aq p i][hq:aq q j](hi:i<=40000000:=by decide)(hj:j<=40000000:=by decide):PF GB prog 173 [eZ p,eZ q] (eZ (p.add q)):=by
 refine fn func173 J J ntmps173 J J (fun C=>?_);refine cl J (tW (by omega) (by omega)) J<|cl J (tW (by omega) (by omega)) J<|rz J J
def TU{l:ab}[hl:LB l]:PF GB prog 201 [cA l] (eZ l.base):=by
 refine fn func201 J J ntmps201 J J (fun C=>?_);refine cl J C5 J<|cl J (kA (q:=(l.c:Rat))) J<|cl J (ld (p:=l.nor) (q:=l.nor)) J<|cl J (uX (p:= -(l.c:Rat)) (q:=l.nor.dot l.nor)) J<|cl J (ug (p:=l.nor)) J<|rz J J
def D2{l:ab}{p:aa}{i:Nat}[hl:LB l][hp:aq p i](hi:i<=10000000:=by decide):PF GB prog 190 [cA l,eZ p] (eF (l.value p)):=by
 refine fn func190 J J ntmps190 J J (fun C=>?_);refine cl J (C5 (l:=l)) J<|cl J (ld (p:=l.nor) (q:=p) (by omega) (by omega)) J<|cl J (tW (p:=l.nor.dot p) (q:=(l.c:Rat)) (by omega) (by omega)) J<|rz J J
def zr{l:ab}{p:aa}{i:Nat}[hl:LB l][hp:aq p i](hi:i<=10000000:=by decide):PF GB prog 125 [cA l,eZ p] (vI (l.value p).num.sign):=by
 refine fn func125 J J ntmps125 J J (fun C=>?_);refine cl J (D2 (l:=l) (p:=p) hi) J<|cl J (ij (q:=l.value p) (by omega)) J<|rz J J
def K3{l:ab}{t:Rat}{i:Nat}[hl:LB l][ht:BQ t i](hi:i<=10000000:=by decide):PF GB prog 187 [cA l,eF t] (eZ (l.at t)):=by
 refine fn func187 J J ntmps187 J J (fun C=>?_);refine cl J (TU (l:=l)) J<|cl J (ya (l:=l)) J<|cl J (ug (p:=l.dir) (c:=t) (by omega) (by omega)) J<|cl J (wv (p:=l.base) (q:=l.dir.scale t) (by omega) (by omega)) J<|rz J J
instance bm.meet_lo (v w:bm) (i j:Nat) [h1:BQ v.lo i] [h3:BQ w.lo j]:BQ (v.meet w).lo (i+j):=by
 have a:=h1.mono (nL i j);have b:=h3.mono (Nat.le_add_left j i);unfold bm.meet;dsimp only;(repeat' split)<;>assumption
instance bm.meet_hi (v w:bm) (i j:Nat) [h1:BQ v.hi i] [h3:BQ w.hi j]:BQ (v.meet w).hi (i+j):=by
 have a:=h1.mono (nL i j);have b:=h3.mono (Nat.le_add_left j i);unfold bm.meet;dsimp only;(repeat' split)<;>assumption
instance BQ.cutK (l m:ab) [LB l] [LB m]:BQ (l.cutK m) 400:=BQ.mono (inferInstance:BQ (m.nor.dot l.dir) _)
instance BQ.cutC (l m:ab) [LB l] [LB m]:BQ (l.cutC m) 2500:=BQ.mono (inferInstance:BQ (m.value l.base) _)
def yP(p q:aa):DV:= .ag [vI (bO p.x),vI (bH p.x),cO p.x,vI (bO p.y),vI (bH p.y),cO p.y,vI (bO q.x),vI (bH q.x),cO q.x,vI (bO q.y),vI (bH q.y),cO q.y]
def r7{C:az}{n:Nat}{Q0:Exit->Act->World->Prop}{fr:ao}{own:aA}{ops:Array Oper}{r:List Oper}{K:List Kt}(k:Nat){l:List DV}(hl:aD fr k=some (.d (.pt l)))(h:ak prog GB C n Q0 ((k, .ep l)::fr) own (.ops ops r K)):ak prog GB C n Q0 fr own (.ops ops r K):=
 jt hl (fun ρ G y hy=>by
  obtain⟨b,m,rfl,h1,h2⟩:=mD.1 hy;have e:=h2.len;exact⟨b,0,m,m,J,h1,by rw[ja m 0 l.length (by omega),fZ,<-e,bT],h2⟩) h
def zF{G:Gh}{m:List Value}(h:IsLs G [vI 0,vI 0, .v (.pointer none)] m):IsLs G [vI (bO 0),vI (bH 0),cO 0] m:=by
 obtain⟨l,e,k⟩:=dt.1 (sH G (.agg ⟨m⟩) (dt.2 ⟨m,rfl,h⟩))
 cases e;exact k
section
variable {GB:Gh} {C:az} {n:Nat} {Q0:Exit->Act->World->Prop} {fr fr':ao} {own own':aA} {cf cf':Cf} {vc:List Prop} {ops:Array Oper} {r:List Oper} {K:List Kt}
def tn(k:Nat){d:DV}(hl:aD fr k=some (.d d))(h: ∀(GB':Gh) (pv:Value),ba GB GB'->Is GB' d pv->ak prog GB' C n Q0 ((k, .d (.v pv))::fr) own (.ops ops r K)):ak prog GB C n Q0 fr own (.ops ops r K):=by
 refine⟨fun ρ G ov a w r0=>?_⟩;obtain⟨y,hy,hy'⟩:=r0.fx k _ hl;refine(h G y r0.gb hy').run ρ G ov a w ⟨ba.refl _,r0.h,r0.sz,r0.df,fun j f e=>?_,r0.bx,r0.dj,r0.fxd⟩;rw[e7] at e;split at e
 .rename_i hj
  cases e;subst hj
  exact⟨y,hy,(aH (G:=G)).2 J⟩
 .exact r0.fx j f e
def YV(fr:ao)(cf:Cf):Option (FuncId×Value):=match bE fr cf with
 |some ⟨_, .makeFunc (.func f) ⟨[x]⟩ ⟨[]⟩,_,_,_,_⟩=>match aB (aP fr cf) x with
  |some (.d (.v pv))=>some (f,pv)
  |_=>none
 |_=>none
def X8(fr:ao)(cf:Cf):Option (FuncId×List Value×List DV):=match bE fr cf with
 |some ⟨_, .call ⟨.value fo,args,_⟩,_,_,_,_⟩=>match aB (aP fr cf) fo,evDs (aP fr cf) args.toList with
  |some (.d (.v (.func (.func f) ⟨c1⟩ ⟨[]⟩))),some ds=>some (f,c1,ds)
  |_,_=>none
 |_=>none
def K1:List (Nat×Operand)->Option (List (Nat×Value))
 |[]=>some []
 |(i, .const v)::t=>match K1 t with
  |some l=>some ((i,v)::l)
  |none=>none
 |_::_=>none
def aF4(cf:Cf)(fr:ao):Option (TypeId×List (Nat×Value)):=match bE fr cf with
 |some ⟨_, .build t ⟨ps⟩,_,_,_,_⟩=>match K1 ps with
  |some vs=>some (t,vs)
  |none=>none
 |_=>none
def KT(fr:ao)(own:aA)(cf:Cf):Option (TypeId×Nat×Nat×List FX×Bool×FX):=match bE fr cf with
 |some ⟨_, .store t x y,_,_,_,_⟩=>match aB (aP fr cf) x with
  |some (.ov nm 0)=>match dO fr own cf nm with
   |some (.o ty cs lo)=>match aB (aP fr cf) y with
    |some fv=>some (t,nm,ty,cs,lo,fv)
    |_=>none
   |_=>none
  |_=>none
 |_=>none
def tK[fu:Fu]{t nm ty len e:Nat}{cs:List FX}{lo:Bool}{fv:FX}{j:TypeInfo}(h:KT fr own cf=some (t,nm,ty,cs,lo,fv))(hu:prog.underlying t=some (.array len e))(hj:prog.info? t=some j)(hc:fv.okc=true/\fv.cells.length=j.size/\j.size=cs.length)
  (hgo:bP tt n fu.n fr own cf .un [(nm,some (.o ty (qy cs 0 fv.cells) lo))] []=⟨vc,fr',own',cf'⟩)(k:ak prog GB C n Q0 fr' own' cf')
  (hv:autoParam (aj vc) Tb._auto_1):ak prog GB C n Q0 fr own cf:=by
 unfold KT at h;split at h<;>try (cases h;done)
 rename_i hh;split at h<;>try (cases h;done)
 rename_i e1;split at h<;>try (cases h;done)
 rename_i hb;split at h<;>cases h;rename_i e2;obtain⟨c1,c2,c3⟩:=hc;have:mf prog t j.size:=⟨fun w=>uJ hu w,fun w=>oG hj w⟩;refine us hh ?_ hgo hv k;intro hd tl tb K s1 s2 hf hk;refine⟨fun ρ G ov a w r Q=>?_⟩;have r1:=r.mono s1 s2;obtain⟨p,h1,h2⟩:=r1.ev e1;obtain⟨q,h3,h4⟩:=r1.ev e2;obtain⟨b,m,rfl,ha,h5,h6⟩:=r1.own h2 hb;obtain⟨h7,h8⟩:=h4.cells c1;obtain⟨own',u1,u2,u3⟩:=f5.of_mem (cs':=c9 m 0 (aF q)) h6;exact A2 h1 h3 u1 (by rw[h7.len,c2]) (by rw[h5.len,c3];omega) (dJ.2 h8) hd (fun a' w' rl=>r.wrote (m:=m) (s2 _ _ hb) ha (h5.ov h7) u2 u3 hk rl) a w Q ⟨r.h,r.sz,ci a,r.df⟩
def JB(fr:ao)(cf:Cf):Option Jc:=match bE fr cf with
 |some ⟨some d, .buildSlice t len parts,_,_,_,_⟩=>match co tt t with
  |some ⟨.sl e s _,_,_,_⟩=>match qc (aP fr cf) 0 parts.toList with
   |some ds=>bif yN s ds&&(Nat.beq parts.toList.length len&&(Nat.ble (len*s) 1000&&Nat.blt 0 (len*s))) then some ⟨d,e,s,ds⟩ else none
   |none=>none
  |_=>none
 |_=>none
def MF[fu:Fu]{d e s:Nat}{ds:List DV}{i:TI}{z:DV}(h:JB fr cf=some ⟨d,e,s,ds⟩)(hi:dC prog e=some i)(hz:jy i=some z)(hs:Nat.beq z.cells.length s=true)(hgo:bP tt n fu.n fr own cf (.d (.sl ds)) [(d,none)] [d]=⟨vc,fr',own',cf'⟩)(k:ak prog GB C n Q0 fr' own' cf')
  (hv:autoParam (aj vc) Tb._auto_1):ak prog GB C n Q0 fr own cf:=by
 unfold JB at h;split at h<;>try (cases h;done)
 rename_i hh;split at h<;>try (cases h;done)
 rename_i hT;split at h<;>try (cases h;done)
 rename_i hr;rw[cond_eq_ite] at h;split at h<;>cases h;rename_i hc;simp only[bQ] at hc;have:=gy (dz _ _ hT) J;exact us hh ((DM hi hz hs hr hc.1 hc.2.1 hc.2.2.1 hc.2.2.2).frzRow J) hgo hv k
def Fk(fr:ao)(cf:Cf):Option (TypeId×List DV):=match bE fr cf with
 |some ⟨_, .load t x,_,_,_,_⟩=>match aB (aP fr cf) x with
  |some (.ep l)=>some (t,l)
  |_=>none
 |_=>none
def Sb:TypeDesc->Bool
 | .struct _=>false
 | .array _ _=>false
 |_=>true
def JK[fu:Fu]{t:TypeId}{d:DV}{l:List DV}{D:TypeDesc}{j:TypeInfo}(h:Fk fr cf=some (t,d::l))(hu:prog.underlying t=some D)(hD:Sb D=true)(hj:prog.info? t=some j)(hs:j.size=1)
  (hgo:bP tt n fu.n fr own cf (.d d) [] []=⟨vc,fr',own',cf'⟩)(k:ak prog GB C n Q0 fr' own' cf')
  (hv:autoParam (aj vc) Tb._auto_1):ak prog GB C n Q0 fr own cf:=by
 unfold Fk at h;split at h<;>try (cases h;done)
 rename_i hh;split at h<;>cases h;rename_i hx;have:mi prog t:=⟨fun w=>by(rw[uJ hu w];cases D<;>first|rfl|(cases hD;done)),fun w=>by rw[oG hj w,hs]⟩;exact us hh (.x1 hx fun ρ G ov a w y _ r h1 h2=>by
  obtain⟨b,o,ms,m,rfl,hb,ht,hm⟩:=h2;obtain⟨l',h3,h4⟩:=hm.get (i:=0) rfl;have:=Bt ht (i:=0) (Nat.succ_pos _);rw[eK] at this;exact⟨l',h4,CI h1 hb (by rw[this];exact h3)⟩) hgo hv k
end
def PF.nmd{P:Program}{f:FuncId}{ds:List DV}{r:DV}(h: ∀(G:Gh) (vs:List Value),ba GB G->IsLs G ds vs-> ∃ds',IsLs G ds' vs/\PF G P f ds' r):PF GB P f ds r:=fun G vs hg hv=>by
 obtain⟨ds',h1,h2⟩:=h G vs hg hv;exact h2 G vs (ba.refl G) h1
section
variable {GB:Gh} {C:az} {n:Nat} {Q0:Exit->Act->World->Prop} {fr:ao} {own:aA} {ops:Array Oper} {r:List Oper} {K:List Kt}
def AQ(k:Nat){d d2:DV}(hl:aD fr k=some (.d d))(hd: ∀G y,ba GB G->Is G d y->Is G d2 y)(h:ak prog GB C n Q0 ((k, .d d2)::fr) own (.ops ops r K)):ak prog GB C n Q0 fr own (.ops ops r K):=by
 refine⟨fun ρ G ov a w r0=>?_⟩;obtain⟨y,hy,hy'⟩:=r0.fx k _ hl;refine h.run ρ G ov a w ⟨r0.gb,r0.h,r0.sz,r0.df,fun j f e=>?_,r0.bx,r0.dj,r0.fxd⟩;rw[e7] at e;split at e
 .rename_i hj
  cases e;subst hj
  exact⟨y,hy,hd G y r0.gb hy'⟩
 .exact r0.fx j f e
end
instance BQ.i1':BQ (1:Rat) 2:=⟨by decide,by decide⟩
instance BQ.i2':BQ (2:Rat) 2:=⟨by decide,by decide⟩
instance aq.at (l:ab) (t:Rat) (k:Nat) [LB l] [BQ t k]:aq (l.at t) (900+(k+97)+1):=by
 rw[<-Xx];infer_instance
def jF(d:aa):aa:=⟨-d.y,d.x⟩
instance aq.turn (d:aa) (k:Nat) [aq d k]:aq (jF d) k:=⟨inferInstanceAs (BQ (-d.y) k),inferInstanceAs (BQ d.x k)⟩
def A1(p v:aa)(m:ab):Rat:= -(m.value p/(m.value (eh p v ((1:Int):Rat))-m.value p))
def S7(p v:aa)(m:ab)(s:Rat):Rat:=if(m.value (eh p v ((1:Int):Rat))-m.value p).num.sign=0 then s else if(m.value p).num.sign=0 then s else if 0<(A1 p v m).num.sign then(if bG (A1 p v m/2) s<0 then A1 p v m/2 else s) else s
def Dl(p v:aa):List ab->Rat->Rat
 |[],s=>s
 |m::t,s=>Dl p v t (S7 p v m s)
def Cm(c:List ab)(p v:aa):aa:=eh p v (Dl p v c ((1:Int):Rat))
def Id(c:List ab):List ab->aa
 |[]=>⟨0,0⟩
 |m::t=>if(sD m c bm.all).2=true then Cm c (m.at (Wi (sD m c bm.all).1)) (jF m.dir) else Id c t
def MG{es:List Int}{i:Nat}(h:i<es.length):(es.map vI)[(i:Int).toNat]? =some (vI (es.getD i 0)):=by simp[h]
def EF{es:List Int}{i:Nat}(h:i<es.length:=by omega):fh (es.drop i)=if es.getD i 0≠0 then es.getD i 0 else fh (es.drop (i+1)):=by
 rw[bM h,fh,aJ,aQ h];rfl
def Fy{es:List Int}(hn:es.length<=1000000):PF GB prog 99 [.sl (es.map vI)] (vI (fh es)):=by
 have hel:(es.map vI).length=es.length:=by simp
 refine fn (fu:=⟨15⟩) func99 J J ntmps99 J J (fun C=>?_);refine ah 7 (.d (vI (es.length:Nat))) J (by rw[hel]<;>rfl)<|gx J<|lp (X:=Nat) (fun i=>[(8, .d (vI (i:Nat)))]) (fun i=>[]) (fun i=>i<=es.length/\fh es=fh (es.drop i)) (fun i=>es.length-i) 0 J ⟨bJ _,J⟩ (fun _=>J) (fun i hk=>?_);obtain⟨h1,h2⟩:=hk;refine br J J J (fun hc9=>?_) (fun hc9=>?_)
 .
  refine ix _ J (MG (by omega)) J<|br J J J (fun hc14=>?_) (fun hc14=>?_)
  .
   exact rz J (by rw[h2,EF,if_pos hc14];rfl)
  .
   exact at_ (i+1) ⟨⟨by omega,by rw[h2,EF,if_neg hc14]⟩,(by omega)⟩
 .
  exact rz J (by rw[h2,iZ (by omega)];rfl)
def vq(l m:ab):Int:=fh [bG l.a m.a,bG l.b m.b,bG l.c m.c]
def TN(l m:ab):vq l m=0↔l=m:=by
 unfold vq fh fh fh fh;have ha:=ll (l.a:Rat) m.a;have hb:=ll (l.b:Rat) m.b;have hc:=ll (l.c:Rat) m.c;rw[mM] at ha hb hc;constructor
 .intro h
  repeat' (split at h<;>try contradiction)
  all_goals exact ab.ext'
 .rintro rfl
  rw[if_neg (by simp[ha.2 J]),if_neg (by simp[hb.2 J]),if_neg (by simp[hc.2 J])]
def Fc{l m:ab}[hl:LB l][hm:LB m]:PF GB prog 55 [cA l,cA m] (vI (vq l m)):=by
 refine fn func55 J J ntmps55 J J (fun C=>?_);refine cl J (f7 (p:=(l.a:Rat)) (q:=(m.a:Rat))) J<|cl J (f7 (p:=(l.b:Rat)) (q:=(m.b:Rat))) J<|cl J (f7 (p:=(l.c:Rat)) (q:=(m.c:Rat))) J<|rf J J<|cl J (Fy (es:=[bG l.a m.a,bG l.b m.b,bG l.c m.c]) (nb J)) J<|rz J J
def KW{l m:ab}[hl:LB l][hm:LB m]:PF GB prog 57 [cA l,cA m] (vB (decide (l=m))):=by
 refine fn func57 J J ntmps57 J J (fun C=>?_);refine cl J (Fc (l:=l) (m:=m)) J<|rz J (by show DV.v (.bool (decide _))= .v (.bool _);congr 2;exact decide_eq_decide.2 (TN l m))
def Rw{l:ab}[hl:LB l]:PF GB prog 101 [cA l] (cA l.rev):=by
 refine fn func101 J J ntmps101 J J (fun C=>?_);refine cl J (kA (q:=(l.a:Rat))) J<|cl J (kA (q:=(l.b:Rat))) J<|cl J (kA (q:=(l.c:Rat))) J<|rz J (by unfold cA ab.rev;simp only[qW];rfl)
def QA{l:ab}[hl:LB l]:PF GB prog 58 [cA l] (eL l):=by
 refine fn func58 J J ntmps58 J J (fun C=>?_);refine cl J (ng (q:=(l.a:Rat))) J<|cl J (ng (q:=(l.b:Rat))) J<|cl J (ng (q:=(l.c:Rat))) J<|rz J J
def H1{p:aa}{i:Nat}[hp:aq p i](hi:i<=10000000:=by decide):PF GB prog 203 [eZ p] (vI p.half):=by
 refine fn func203 J J ntmps203 J J (fun C=>?_);refine cl J (ij (q:=p.y) (by omega)) J<|cs 10 J J J (fun hg10=>?_) (fun hg10=>?_)
 .
  exact rz J (by unfold aa.half;(repeat' split)<;>first|rfl|(exfalso;omega))
 .
  refine cs 13 J J J (fun hg13=>?_) (fun hg13=>?_)
  .
   refine cl J (ij (q:=p.x) (by omega)) J<|br J J J (fun hc7=>?_) (fun hc7=>?_)
   .
    exact rz J (by unfold aa.half;(repeat' split)<;>first|rfl|(exfalso;omega))
   .
    refine cs 23 J J J (fun hg23=>?_) (fun hg23=>?_)
    .
     exact rz J (by unfold aa.half;(repeat' split)<;>first|rfl|(exfalso;omega))
    .
     refine cl J (ij (q:=p.x) (by omega)) J<|br J J J (fun hc20=>?_) (fun hc20=>?_)
     .
      exact rz J (by unfold aa.half;(repeat' split)<;>first|rfl|(exfalso;omega))
     .
      exact rz J (by unfold aa.half;(repeat' split)<;>first|rfl|(exfalso;omega))
  .
   refine cs 23 J J J (fun hg23=>?_) (fun hg23=>?_)
   .
    exact rz J (by unfold aa.half;(repeat' split)<;>first|rfl|(exfalso;omega))
   .
    refine cl J (ij (q:=p.x) (by omega)) J<|br J J J (fun hc20=>?_) (fun hc20=>?_)
    .
     exact rz J (by unfold aa.half;(repeat' split)<;>first|rfl|(exfalso;omega))
    .
     exact rz J (by unfold aa.half;(repeat' split)<;>first|rfl|(exfalso;omega))
def Le{u v:aa}{i j:Nat}[hp:aq u i][hq:aq v j](hi:i<=10000000:=by decide)(hj:j<=10000000:=by decide):PF GB prog 140 [eZ u,eZ v] (vI (ck u v)):=by
 refine fn func140 J J ntmps140 J J (fun C=>?_);refine cl J (H1 (p:=u) hi) J<|cl J (H1 (p:=v) hj) J<|br J J J (fun hc11=>?_) (fun hc11=>?_)
 .
  exact rz J (by unfold ck;rw[if_pos hc11];rfl)
 .
  refine br J J J (fun hc15=>?_) (fun hc15=>?_)
  .
   exact rz J (by unfold ck;rw[if_neg hc11,if_pos hc15];rfl)
  .
   refine cl J (GJ (p:=u) (q:=v) (by omega) (by omega)) J<|cl (fu:=⟨0⟩) J (ij (q:=u.cross v) (by omega)) J<|?_;have hs:=Int.sign_trichotomy (u.cross v).num;refine gx J<|rz J (by unfold ck;rw[if_neg hc11,if_neg hc15];rfl)
def Ra{m:Int}:c6 (dg m.natAbs)/\(decide (m<0)=true->0<(dg m.natAbs).length):=⟨(dE _).2.2,fun h=>by
 have:0<m.natAbs:=by have:=of_decide_eq_true h;omega
 exact tV.2 this⟩
def Vt{m:Int}{i:Nat}[h:BI m i](hi:i<=1000000000:=by decide):PF GB prog 130 [eI m] (.v (.bool true)):=(EW (neg:=decide (m<0)) (ds:=dg m.natAbs) (dE _).2.1 (by have:=eH (a:=m.natAbs) hi;omega)).to (by unfold vB;rw[decide_eq_true Ra])
instance BQ.rgcd (p q:Rat) (i j:Nat) [h:BQ p i] [k:BQ q j]:BQ (rgcd p q) (i+j+(i+j)):=by
 unfold Sx.rgcd;refine pq (fX (jh p) (jh q)) ?_ ?_
 .rw[dQ]
  have h1:=jk h.hn k.hd;have h2:=jk k.hn h.hd;rw[jS j i] at h2;rw[cY];exact Fb h1 h2
 .have h1:=jk h.hd k.hd
  have:=rh (show i+j<=i+j+(i+j) by omega);omega
def bF(f:aE):DV:= .ag [vI (bO (f.l.a:Rat)),vI (bH (f.l.a:Rat)),cO (f.l.a:Rat),vI (bO (f.l.b:Rat)),vI (bH (f.l.b:Rat)),cO (f.l.b:Rat),vI (bO (f.l.c:Rat)),vI (bH (f.l.c:Rat)),cO (f.l.c:Rat),vI (bO f.v.lo),vI (bH f.v.lo),cO f.v.lo,vI (bO f.v.hi),vI (bH f.v.hi),cO f.v.hi, .v (.bool f.v.nl), .v (.bool f.v.nh)]
structure Q5 (v:bm):Prop where
 z:wG v
 lo:BQ v.lo 1200
 hi:BQ v.hi 1200
structure VV (s:aE):Prop where
 lb:LB s.l
 ok:s.l.ok
 v:Q5 s.v
abbrev aC7 (c:bD):Prop:= ∀s∈c,VV s
def ZA(o:Option bm):bm:=o.getD ⟨0,0,false,false⟩
def b8{α:Type}{f:α->DV}{l:List α}{i:Nat}{s:α}(h:l[i]? =some s):(l.map f)[(i:Int).toNat]? =some (f s):=by simp[h]
instance BQ.sample (v:bm) [h1:BQ v.lo 1200] [h2:BQ v.hi 1200]:BQ v.sample 2500:=by
 unfold bm.sample;split
 .exact BQ.mono (k:=1) ⟨by decide,by decide⟩
 .split
  .exact BQ.mono (inferInstance:BQ (v.hi-((1:Int):Rat)) _)
  .split
   .exact BQ.mono (inferInstance:BQ (v.lo+((1:Int):Rat)) _)
   .exact BQ.mono (inferInstance:BQ ((v.lo+v.hi)*mkRat 1 2) _)

def Zo(c:bD)(l:ab)(i:Nat):Bool:=match c[i]? with
 |some s=>decide (ck s.l.dir l.dir=0)
 |none=>false
def cU:Tr->List DV
 | .leaf b=>[vI 0,vI 0, .v (.pointer none),vI 0,vI 0, .v (.pointer none),vI 0,vI 0, .v (.pointer none), .v (.pointer none), .v (.pointer none), .v (.bool b)]
 | .node l x y=>[vI (bO (l.a:Rat)),vI (bH (l.a:Rat)),cO (l.a:Rat),vI (bO (l.b:Rat)),vI (bH (l.b:Rat)),cO (l.b:Rat),vI (bO (l.c:Rat)),vI (bH (l.c:Rat)),cO (l.c:Rat), .pt (cU x), .pt (cU y), .v (.bool false)]
def eU(t:Tr):DV:= .pt (cU t)
def Tr.compl:Tr->Tr
 | .leaf b=> .leaf !b
 | .node l x y=> .node l x.compl y.compl
def Tr.chooseQ(op:Int)(b:Bool)(t:Tr)(c:bD):Tr:=
 if op=1\/op=2 then(if b=decide (op=1) then .leaf b else t.restrict c)
 else if op=3/\b=false then .leaf false
 else if b then(t.restrict c).compl else t.restrict c
def Tr.mergeQ(op:Int):Tr->Tr->bD->Tr
 | .leaf b,u,c=>u.chooseQ op b c
 | .node l x y,u,c=>if !eu c l.rev then x.mergeQ op u c else if !eu c l then y.mergeQ op u c else joinQ l (x.mergeQ op u (fq c l)) (y.mergeQ op u (fq c l.rev))
def Us:DV:= .ag [vI 0,vI 0, .v (.pointer none),vI 0,vI 0, .v (.pointer none),vI 0,vI 0, .v (.pointer none)]
def lnR:Option ab->DV
 |some l=> .tp [cA l,vB true]
 |none=> .tp [Us,vB false]
def jE(n:Bool)(ds:List Nat):Prop:=c6 ds/\(n=true->0<ds.length)
instance (n:Bool) (ds:List Nat):Decidable (jE n ds):=inferInstanceAs (Decidable (_/\_))
def H'{neg:Bool}{ds:List Nat}(h:aO ds/\ds.length<=18):PF GB prog 130 [.ag [.v (.bool neg),bg ds]] (vB (decide (jE neg ds))):=EW h.1 (by have:=h.2;omega)
structure RL where
 na:Bool
 da:List Nat
 nb:Bool
 db:List Nat
 nc:Bool
 dc:List Nat
def RL.d(r:RL):DV:= .ag [.v (.bool r.na),bg r.da, .v (.bool r.nb),bg r.db, .v (.bool r.nc),bg r.dc]
def lO(n:Bool)(ds:List Nat):Int:=if n then-(dv ds:Int) else dv ds
def RL.l(r:RL):ab:=⟨lO r.na r.da,lO r.nb r.db,lO r.nc r.dc⟩
def RL.nm(r:RL):Prop:=jE r.na r.da/\jE r.nb r.db/\jE r.nc r.dc
instance (l:ab):Decidable l.ok:=inferInstanceAs (Decidable (_/\_))
instance (r:RL):Decidable r.nm:=inferInstanceAs (Decidable (_/\_/\_))
def RL.ln(r:RL):Option ab:=if r.nm/\r.l.ok then some r.l else none
structure RL.sm (r:RL):Prop where
 a:aO r.da/\r.da.length<=18
 b:aO r.db/\r.db.length<=18
 c:aO r.dc/\r.dc.length<=18
def M'(n:Bool)(ds:List Nat):(lO n ds).natAbs=dv ds:=by unfold lO;cases n<;>simp
def N1(n:Nat)(f:Nat->Bool):List Value:=(List.range n).map fun j=> .bool (f j)
def rC(f:Nat->Bool)(i:Nat):Nat->Bool:=fun j=>f j||Nat.beq j i
structure RN where
 g:RL
 l:Int
 r:Int
def RN.d(n:RN):DV:= .ag [.v (.bool n.g.na),bg n.g.da, .v (.bool n.g.nb),bg n.g.db, .v (.bool n.g.nc),bg n.g.dc, .v (.int .i64 n.l), .v (.int .i64 n.r)]
structure RS where
 f:Nat->Bool
 c:Nat
 b:Bool
inductive RR (ns:List RN):Int->RS->Tr->RS->Prop where
 |leaf (b:Bool) (s:RS):RR ns (xm b) s (.leaf b) s
 |jq (rt:Int) (s:RS) (h1:rt≠ -1) (h2:rt≠ -2) (h:rt<0\/(ns.length:Int)<=rt\/(∃k:Nat,rt=k/\k<ns.length/\s.f k=true)):RR ns rt s (.leaf false) ⟨s.f,s.c,true⟩
 |line (k:Nat) (n:RN) (s:RS) (h:ns[k]? =some n) (hf:s.f k=false) (hl:n.g.ln=none):RR ns (k:Int) s (.leaf false) ⟨rC s.f k,s.c+1,true⟩
 |node (k:Nat) (n:RN) (l:ab) (s s2 s3:RS) (x y:Tr) (h:ns[k]? =some n) (hf:s.f k=false) (hl:n.g.ln=some l) (h1:RR ns n.l ⟨rC s.f k,s.c+1,s.b⟩ x s2) (h2:RR ns n.r s2 y s3):RR ns (k:Int) s (.node l x y) s3
abbrev Yc (x:SV) (ns:List RN) (A:Gh):Prop:= ∃es,ee A 8 x es/\IsLs A (ns.map RN.d) es
def Ng:RS:=⟨fun _=>false,0,false⟩
def Z'(ns:List RN)(t:Tr)(s:RS):DV:=if s.b=false/\s.c=ns.length then .tp [eU t,vB true] else .tp [.v (.pointer none),vB false]
def TR(rt:Int)(ns:List RN):DV:= .ag [vI rt, .sl (ns.map RN.d)]

def Tr.pre:Tr->List Tr
 | .leaf b=>[.leaf b]
 | .node l x y=> .node l x y::(x.pre++y.pre)
structure ZR (f:FuncId) (c2:List Value) (σ:Type) (step:σ->Tr->σ) (ok:σ->Tr->Prop) (Inv:σ->List av->Gh->Prop):Prop where
 up: ∀{s B G G'},ba G G'->Inv s B G->Inv s B G'
 re: ∀{s B G} (fl:Nat->Bool),Inv s B G->Inv s (B.map (relo fl)) G
 go: ∀{s t p B G},ok s t->Inv s B G->Is G (eU t) (.pointer p)->iD prog f (.pointer p::c2) B G (fun _ B' G'=>Inv (step s t) B' G')
section
variable {P:Program} {C:az} {n:Nat} {fr:Fr} {own:List av} {G:Gh}
end
def LA{σ:Type}(step:σ->Tr->σ)(ok:σ->Tr->Prop):σ->List Tr->Prop
 |_,[]=>True
 |s,t::ts=>ok s t/\LA step ok (step s t) ts
structure EX (σ:Type) where
 ts:List Tr
 vs:List Value
 rest:List Value
 b:Nat
 cap:Nat
 lo:Bool
 s:σ
 B:List av
def Vj(t:Tr):Nat:=2*t.size+1
def Lq(ts:List Tr):List Tr:=ts.reverse.flatMap Tr.pre
structure EI (A:Gh) {σ:Type} (step:σ->Tr->σ) (ok:σ->Tr->Prop) (Inv:σ->List av->Gh->Prop) (N:Nat) (fin:σ) (x:EX σ) (G:Gh):Prop where
 rel:om (fun v t=> ∃p,v= .pointer p/\Is A (eU t) (.pointer p)) x.vs x.ts
 cap:x.vs.length+x.rest.length=x.cap
 inv:Inv x.s x.B G
 mu:(x.ts.map Vj).sum<=N
 okf:LA step ok x.s (Lq x.ts)
 fin:(Lq x.ts).foldl step x.s=fin
def Zs(nbk:Nat)(s:Nat)(B:List av)(_:Gh):Prop:= ∃lo,B=[⟨nbk,[.int .i64 s],3,lo⟩]
def XN(s:Nat):Tr->Nat
 | .leaf _=>s
 | .node .. =>s+1
def YQ(n:Nat)(f:Nat->Bool):Nat:=((List.range n).filter fun j=>!f j).length
def Au(ns:List RN):Nat->Int->RS->Tr×RS
 |0,_,s=>(.leaf false,s)
 |m+1,rt,s=>
  if rt= -1 then(.leaf false,s) else if rt= -2 then(.leaf true,s) else
  match ns[rt.toNat]? with
  |none=>(.leaf false,⟨s.f,s.c,true⟩)
  |some n=>if rt<0\/s.f rt.toNat=true then(.leaf false,⟨s.f,s.c,true⟩) else
   match n.g.ln with
   |none=>(.leaf false,⟨rC s.f rt.toNat,s.c+1,true⟩)
   |some l=>let a:=Au ns m n.l ⟨rC s.f rt.toNat,s.c+1,s.b⟩;let b:=Au ns m n.r a.2;(.node l a.1 b.1,b.2)
def M3(ns:List RN)(rt:Int):Option Tr:=
 let r:=Au ns (ns.length+1) rt Ng
 if r.2.b=false/\r.2.c=ns.length then some r.1 else none
def Yq:Option Tr->DV
 |some t=> .tp [eU t,vB true]
 |none=> .tp [.v (.pointer none),vB false]
end Go.Sx
end
section
namespace Go.Sx
open Go Go.Proofs Go.RowKit Go.Extern.Stop Go.Stop Go.Extern
def Ke(v:Value)(w:World):(Extern.ReflectliteType.typeOf #[.iface 364 v]).run Tryz.prog w= .ok (.iface 186 (.agg #[.pointer (some ⟨Tryz.prog.globals.size,364,none⟩)])) w:=by kernel_rfl
def A7:TypeId->Sem Value:=fun t=>do Go.Extern.Rtype.noPackHeld "Comparable" t;pure (.bool (<-typeInfo t).comparable)
def Jl(w:World):((Extern.ReflectliteType.method A7) #[.agg #[.pointer (some ⟨Tryz.prog.globals.size,364,none⟩)]]).run Tryz.prog w= .ok (.bool true) w:=by kernel_rfl
def Ib:(Tryz.prog.info? 364).map (·.comparable)=some true:=by kernel_rfl
def Fq:(Tryz.prog.info? 389).map (·.size)=some 1:=by kernel_rfl
def DS(n:Nat)(v:Value)(w:World):(Go.method (n+1) 186 v "Comparable").run Tryz.prog w= .ok (311,v) w:=by
 kernel_rfl
def W9(a:Addr)(w:World):Calls Tryz.prog 13 #[.iface 364 (.pointer (some a)), .iface 364 (.pointer (some a))] w fun e w'=>e= .returned (.bool true)/\w'=w:=by
 obtain⟨i,hi,hcmp⟩:=kY.1 Ib;obtain⟨j,hj,hjs⟩:=kY.1 Fq;have h8:= @run_callFunc_extern Tryz.prog 40 _ Extern.ReflectliteType.typeOf Tryz.func40 (by kernel_rfl) (by kernel_rfl) (by kernel_rfl) (by kernel_rfl);have h32:= @run_callFunc_extern Tryz.prog 311 _ (Extern.ReflectliteType.method A7) Tryz.func311 (by kernel_rfl) (by kernel_rfl) (by kernel_rfl) (by kernel_rfl);have tT:=Ke;have cT:=Jl;obtain⟨g,hg⟩: ∃g,g=Tryz.prog.globals.size:=⟨_,rfl⟩;simp only[<-hg] at tT cT;clear hg;have mR:=DS;have heq:=run_eql_iface_ptr_same (P:=Tryz.prog) w a Tryz.underlying41 Tryz.underlying364 hi hcmp hj
 go_enter Tryz.func13,Tryz.ntmps13
 go_wp2
 refine wp_loop_rounds 1 ?_;rw[rounds_succ]
 go_wp2
 go_ret
 exact⟨J,J⟩
def Dx:kt Tryz.prog 13:=⟨_,Tryz.func13,by kernel_rfl,by kernel_rfl⟩
def j'(a:Addr):DV:= .v (.iface 364 (.pointer (some a)))
def VN{GB:Gh}{a:Addr}:PF GB Tryz.prog 13 [j' a,j' a] (.v (.bool true)):=by
 intro G vs _ hv;obtain⟨v1,m,rfl,h1,hm⟩:=bi.1 hv;obtain⟨v2,m,rfl,h2,hm⟩:=bi.1 hm;rw[b4] at hm;subst hm
 cases aH.1 h1;cases aH.1 h2
 exact(Fn.of_calls Dx (W9 a)).mono fun v G' _ h=>aH.2 h
end Go.Sx
end
section
namespace Go.Sx
open Go Go.Proofs Tryz
variable {GB:Gh}
structure EG (GB:Gh) (ai al ae:Addr):Prop where
 ErrInvalid:GB 0=some [.iface 364 (.pointer (some ai))]
 ErrLimit:GB 1=some [.iface 364 (.pointer (some al))]
structure Tr.gd (t:Tr):Prop where
 lb:t.all LB
 ok:t.all ab.ok
def Gp(op:Int)(a b:Tr):Option Tr:=if 1024<a.depth+b.depth then none else if 65536<(a.mergeQ op b []).size then none else some (a.mergeQ op b [])
def Ys(al:Addr):Option Tr->DV
 |some t=> .tp [eU t, .v .nilIface]
 |none=> .tp [.v (.pointer none),j' al]
def CJ(op:Int):Tr->List Tr->Option Tr
 |t,[]=>some t
 |t,u::us=>match Gp op t u with
  |none=>none
  |some r=>CJ op r us
def Dh:DV:= .ag [vI 0, .sl []]
def Yb:Tr ⊕ Addr->DV
 | .inl t=> .tp [eA t, .v .nilIface]
 | .inr e=> .tp [Dh,j' e]
def aEj(ai:Addr):Option Tr->Tr ⊕ Addr
 |some t=> .inl t.compl
 |none=> .inr ai
def EB(al:Addr):Option Tr->Tr ⊕ Addr
 |some t=> .inl t
 |none=> .inr al
def Y5(ai al:Addr)(op:Int):Option Tr->Option Tr->Tr ⊕ Addr
 |some a,some b=>if 1<=op/\op<=4 then EB al (Gp op a b) else .inr ai
 |_,_=> .inr ai
abbrev mn:=Int×List RN
def mn.d(x:mn):DV:=TR x.1 x.2
def mn.q(x:mn):Option Tr:=M3 x.2 x.1
def T8:Option Tr->DV
 |some t=>eU t
 |none=> .v (.pointer none)
def R5(op:Int)(ts:List mn):Bool:=decide (1<=op/\op<=4)&&ts.all fun x=>x.q.isSome
def ZI(ai al ae:Addr)(op:Int)(ts:List mn):Tr ⊕ Addr:=
 if R5 op ts then(match ts.filterMap mn.q with
  |[]=> .inr ae
  |a::us=>if 1024<a.depth then .inr al else EB al (CJ op (a.restrict []) us)) else .inr ai
def Za(ts:List mn):List DV:=ts.map fun x=>T8 x.q
structure mn.ok (x:mn):Prop where
 s: ∀n∈x.2,n.g.sm
 n:x.2.length<=65536
def RN.of(n:NQ):RN:=⟨⟨decide (n.l.a<0),dg n.l.a.natAbs,decide (n.l.b<0),dg n.l.b.natAbs,decide (n.l.c<0),dg n.l.c.natAbs⟩,n.a,n.b⟩
def Cz(ns:List NQ):Tr->Int->List Nat->Prop
 | .leaf b,rt,L=>rt=xm b/\L=[]
 | .node l x y,rt,L=> ∃(k:Nat) (a b:Int) (L1 L2:List Nat),rt=(k:Int)/\ns[k]? =some ⟨l,a,b⟩/\Cz ns x a L1/\Cz ns y b L2/\L=k::(L1++L2)
def XQ(ns:List NQ)(t:Tr)(rt:Int):Prop:= ∃L,Cz ns t rt L/\L.Nodup/\L.length=ns.length
def Ee{a i:Nat}[ha:BN a i](hi:i<=400000000:=by decide):PF GB prog 96 [dN a] (dN a):=by
 have hl:=bv (dg a);have hb:=gP ha.h;refine fn func96 J J ntmps96 J J (fun C=>?_);refine su J J<|ap ((dg a).map dU) J J (l5 _) J<|gO 5 J<|rz J J
def P1{z:Int}{i:Nat}[hz:BI z i](hi:i<=400000000:=by decide):PF GB prog 95 [eI z] (eI z):=by
 refine fn func95 J J ntmps95 J J (fun C=>?_);refine cl J (Ee (a:=z.natAbs) (i:=i) (ha:=⟨hz.h⟩) hi) J<|rz J J
def yW{ds:List Nat}(hd:aO ds)(hn:ds.length<=10000000):PF GB prog 144 [bg ds] (dN (dv ds)):=by
 have hm:=bv ds;refine fn func144 J J ntmps144 J J (fun C=>?_);refine su J J<|ap (ds.map dU) J J (l5 _) J<|fz 5 J J<|cl J (me (ds:=ds)) J<|rz J (by unfold dN;rw[yY hd];rfl)
def F6{neg:Bool}{ds:List Nat}(hd:aO ds)(hn:ds.length<=10000000):PF GB prog 85 [.ag [.v (.bool neg),bg ds]] (eI (lO neg ds)):=by
 refine fn func85 J J ntmps85 J J (fun C=>?_);refine cl J (yW hd hn) J<|cl J jr J<|rz J J
def rlD(r:RL):DV:= .tp [if r.nm then eL r.l else .ag [.v (.bool false), .sl [], .v (.bool false), .sl [], .v (.bool false), .sl []],vB (decide (r.nm/\r.l.ok))]
def smB(n:Int)(ls:List (List Nat)):Bool:=ls.all fun d=>decide ((d.length:Int)<=n)
def RL.smB(n:Int)(r:RL):Bool:=Sx.smB n [r.da,r.db,r.dc]
def Zb(n:Int)(ls:List RL):Bool:=ls.all fun r=>r.smB n
def aGo(cs:List RL):Option (List ab):=if cs.all (fun r=>r.ln.isSome) then some (cs.filterMap RL.ln) else none
def aGt:Option (List ab)->DV
 |some ls=> .tp [.sl (ls.map cA),vB true]
 |none=> .tp [.sl [],vB false]
def MP(ls:List ab):dl 9 (ls.map cA):=fun d hd=>by
 obtain⟨u,_,rfl⟩:=bV.1 hd;exact⟨rfl,rfl⟩
def Yf:Option bD->DV
 |some c=> .tp [.sl (c.map bF),vB true]
 |none=> .tp [.sl [],vB false]
def YB(ai al:Addr)(more:Nat):Option Tr->DV
 |none=> .tp [.v (.pointer none),j' ai]
 |some t=>if 1024<t.depth+more then .tp [.v (.pointer none),j' al] else .tp [eU t, .v .nilIface]
def Y2(ai:Addr)(f:Tr->Tr):Option Tr->Tr ⊕ Addr
 |some t=> .inl (f t)
 |none=> .inr ai
def aFl(ai ae:Addr):Option Tr->Option (List ab)->Tr ⊕ Addr
 |some t,some ls=>(match GU ls [] with
  |some c=> .inl (t.restrict c)
  |none=> .inr ae)
 |_,_=> .inr ai
def Zj(ai:Addr):Option ab->Option Tr->DV
 |some m,some t=> .tp [eA (t.restrict (fq [] m)),eA (t.restrict (fq [] m.rev)), .v .nilIface]
 |_,_=> .tp [Dh,Dh,j' ai]

def Tr.val:Tr->aa->Bool
 | .leaf b,_=>b
 | .node l x y,p=>if 0<l.value p then x.val p else y.val p
def Tr.lns:Tr->List ab
 | .leaf _=>[]
 | .node l x y=>l::(x.lns++y.lns)
def OG(L:List ab)(p:aa):Prop:= ∀l∈L,l.value p≠0
def Z9(op:Int)(a b:Bool):Bool:=if op=1 then a||b else if op=2 then a&&b else if op=3 then a&&!b else a !=b
def Tr.Red:Tr->bD->Prop
 | .leaf _,_=>True
 | .node l x y,c=>eu c l=true/\eu c l.rev=true/\x.Red (fq c l)/\y.Red (fq c l.rev)/\ ¬(x.isLeaf=true/\y.isLeaf=true/\x.code=y.code)
def ab.same(l m:ab):Prop:=m=l\/m=l.rev
instance (l m:ab):Decidable (l.same m):=inferInstanceAs (Decidable (_\/_))
def Tr.cnt(l:ab):Tr->Nat
 | .leaf _=>0
 | .node m x y=>(if l.same m then 1 else 0)+(x.cnt l+y.cnt l)
def XZ(l:ab)(c:bD):Prop:= ∃p,mj c p/\l.value p=0
def TO(c:bD)(p:aa):Bool:=c.all fun s=>decide (0<s.l.value p)
def YW(P:List aa)(l:ab)(t:Tr):Prop:=t.all fun m=>l.same m\/ ∀p,l.value p=0->m.value p=0->p∈P
def CT(K:List ab)(t:Tr):Prop:=t.all fun n=> ∃m∈K,m.same n
def HY(l m:ab):aa:=l.at (-(l.cutC m/l.cutK m))
def Kc(t:Tr):List ab->Nat
 |[]=>0
 |l::K=>t.cnt l+Kc t K
def Ks(n:ab):List ab->Nat
 |[]=>0
 |l::K=>(if l.same n then 1 else 0)+Ks n K
def Tr.chooseL(op:Int)(b:Bool)(t:Tr)(c:List ab):Tr:=
 if op=1/\b=true then .leaf true
 else if(op=2\/op=3)/\b=false then .leaf false
 else if(op=3\/op=4)/\b=true then(t.restrictL c).compl else t.restrictL c
def Tr.mergeL(op:Int):Tr->Tr->List ab->Tr
 | .leaf b,u,c=>u.chooseL op b c
 | .node l x y,u,c=>if vN c l=1 then x.mergeL op u c else if vN c l= -1 then y.mergeL op u c else joinQ l (x.mergeL op u (mF (c++[l]))) (y.mergeL op u (mF (c++[l.rev])))
structure XP (L:List ab) (a b:Tr):Prop where
 oa:a.all ab.ok
 ob:b.all ab.ok
 ok: ∀l∈L,l.ok
 la: ∀l∈a.lns,l∈L
 lb: ∀l∈b.lns,l∈L
def sn(x:Rat):List Rat->List Rat
 |[]=>[x]
 |u::t=>if u<x then u::sn x t else if u=x then u::t else x::u::t
def C6(l:List Rat):List Rat:=l.foldl (fun out x=>sn x out) []
def IK:List Rat->List Rat
 |a::b::t=>(a+b)/2::IK (b::t)
 |_=>[]
def wK:List Rat->List Rat
 |[]=>[0]
 |a::t=>(a-1)::(IK (a::t)++[(a::t).getLast (by simp)+1])
def Eq:List ab->List Rat
 |[]=>[]
 |a::t=>(if a.b=0 then [a.base.x] else [])++(t.filterMap (fun b=>if crossI a b=0 then none else some (ly a b).x)++Eq t)
def yA(a:ab)(x:Rat):Rat:= -(((a.a:Rat)*x+(a.c:Rat))/(a.b:Rat))
def Jq(l:List ab)(x:Rat):List Rat:=l.filterMap fun a=>if a.b=0 then none else some (yA a x)
def K8(l:List ab):List aa:=(wK (C6 (Eq l))).flatMap fun x=>(wK (C6 (Jq l x))).map fun y=>⟨x,y⟩
def aDx(l:ab)(p:aa):ab:=if 0<l.value p then l else l.rev
def GH(out:List Rat)(s:bm):List Rat:=if s.nh then(if s.nl then out else sn s.lo out) else sn s.hi (if s.nl then out else sn s.lo out)
def Ad(l:List bm):List Rat:=l.foldl GH []
def JZ:List bm->Rat->Int
 |[],_=>0
 |s::t,x=>
  let a:=if s.nl then 1 else bG x s.lo
  let b:=if s.nh then-1 else bG x s.hi
  if 0<a/\b<0 then 2 else if(a=0/\b<=0)\/(b=0/\0<=a) then 1 else JZ t x
def D1(l:List bm)(x:Rat):Bool:=decide (JZ l x=2)
def AI(cuts:List Rat)(i:Nat):bm:=⟨if i=0 then 0 else cuts.getD (i-1) 0,if i<cuts.length then cuts.getD i 0 else 0,decide (i=0),decide (i=cuts.length)⟩
def Qr(v w:bm):bm:=⟨v.lo,w.hi,v.nl,w.nh⟩
def G7(cuts:List Rat)(marks:List Bool):Nat->List bm
 |0=>[]
 |k+1=>
  let out:=G7 cuts marks k
  if marks.getD k false then
   (if 0<k/\marks.getD (k-1) false=true then(match out.getLast? with
    |some v=>out.dropLast++[Qr v (AI cuts k)]
    |none=>out++[AI cuts k]) else out++[AI cuts k])
  else out
def Vm(cuts:List Rat)(marks:List Bool):List bm:=G7 cuts marks marks.length
def Xk(op:Int)(x y:Bool):Bool:=if op=2 then x&&y else if op=3 then x&&!y else if op=4 then x !=y else x||y
def LY(op:Int)(a b:List bm):List bm:=Vm (Ad (a++b)) ((wK (Ad (a++b))).map fun t=>Xk op (D1 a t) (D1 b t))
def DF(l m:ab)(side:Int):List bm:=
 if crossI l m=0 then(if(m.value l.base).num.sign=side then [bm.all] else [])
 else if(m.value (l.at (du l (ly l m)+1))).num.sign=side then [⟨du l (ly l m),0,false,true⟩] else [⟨0,du l (ly l m),true,false⟩]
def Eg(l m:ab):Bool:=decide (crossI l m=0/\(m.value l.base).num.sign=0)
def yv(f:aE)(m:ab)(side:Int):List aE:=if Eg f.l m then [] else(LY 2 [f.v] (DF f.l m side)).map fun v=>⟨f.l,v⟩
structure XT (cuts:List Rat) (v:bm):Prop where
 z:wG v
 lo:v.nl=true\/v.lo∈cuts
 hi:v.nh=true\/v.hi∈cuts
structure jI (f:aE):Prop where
 lb:LB f.l
 ok:f.l.ok
 z:wG f.v
 lo:BQ f.v.lo 1200
 hi:BQ f.v.hi 1200
def yJ(acc:aa->Bool):Nat->List aE->List ab->Tr
 |_,[],c=> .leaf (acc (Id c c))
 |0,_::_,_=> .leaf false
 |n+1,f::t,c=> .node f.l (yJ acc n ((f::t).flatMap fun g=>yv g f.l 1) (c++[f.l])) (yJ acc n ((f::t).flatMap fun g=>yv g f.l (-1)) (c++[f.l.rev]))
def ZK(n:Nat)(l:List aE):Prop:= ∃K:List ab,K.length<=n/\ ∀f∈l,∃m∈K,m.same f.l
def Xo{p q r:Bool}{a b c:Nat}(h:Nat.gcd a b≠0):ab.ok ⟨zv p (a/Nat.gcd (Nat.gcd a b) c),zv q (b/Nat.gcd (Nat.gcd a b) c),zv r (c/Nat.gcd (Nat.gcd a b) c)⟩:=by
 have hg:0<Nat.gcd (Nat.gcd a b) c:=iN _ (dM h);have d0:Nat.gcd (Nat.gcd a b) c∣Nat.gcd a b:=iJ _ _;have d1:Nat.gcd (Nat.gcd a b) c∣a:=oJ d0 (iJ _ _);have d2:Nat.gcd (Nat.gcd a b) c∣b:=oJ d0 (jX _ _);have d3:Nat.gcd (Nat.gcd a b) c∣c:=jX _ _;refine⟨?_,?_⟩
 .rintro ⟨h1,h2⟩
  have h1':=congrArg Int.natAbs h1;have h2':=congrArg Int.natAbs h2;simp only[i9,Int.natAbs_zero] at h1' h2';have e1:=Nat.div_mul_cancel d1;have e2:=Nat.div_mul_cancel d2;rw[h1',iV] at e1;rw[h2',iV] at e2;exact h (by rw[<-e1,<-e2];rfl)
 .simp only[i9]
  rw[Nat.gcd_div d1 d2,Nat.gcd_div d0 d3,Nat.div_self hg]
def AB(p:Bool)(a g:Nat):(zv p (a/g)).natAbs<=a:=by rw[i9];exact kK ..
def PF.eq{P:Program}{f:FuncId}{vs:List DV}{r r':DV}(h:PF GB P f vs r)(e:r=r'):PF GB P f vs r':=e▸h
def iP(m n:Int):aa:=⟨(m:Rat),(n:Rat)⟩
theorem KR{m:Int}{k:Nat}(h:m.natAbs<2^k:=by omega):BI m k:=⟨pE h⟩
theorem gm{m:Int}{k:Nat}(h:m.natAbs<=1000)(hk:10<=k:=by decide):BI m k:=⟨pE (bS (show m.natAbs<2^10 by omega) (bY (by decide) hk))⟩
instance aq.int (m n:Int) (i:Nat) [h:BI m i] [k:BI n i]:aq (iP m n) (i+1):=⟨inferInstanceAs (BQ (m:Rat) (i+1)),inferInstanceAs (BQ (n:Rat) (i+1))⟩
def QX{p:aa}{m n:Int}(h1:p.x=(m:Rat))(h2:p.y=(n:Rat)):eP p=eP (iP m n):=by
 obtain⟨x,y⟩:=p;simp only at h1 h2;subst h1 h2;rfl
def eO(a b c:Int):ab:=
 ⟨zv (decide (a<0)) (a.natAbs/Nat.gcd (Nat.gcd a.natAbs b.natAbs) c.natAbs),zv (decide (b<0)) (b.natAbs/Nat.gcd (Nat.gcd a.natAbs b.natAbs) c.natAbs),zv (decide (c<0)) (c.natAbs/Nat.gcd (Nat.gcd a.natAbs b.natAbs) c.natAbs)⟩
def Gi{a b c:Int}(h: ¬(a=0/\b=0)):(eO a b c).ok:=
 Xo fun e=>h ⟨iU.1 (jW e),iU.1 (jJ e)⟩
def Hr(a b c:Int):(eO a b c).a.natAbs<=a.natAbs/\(eO a b c).b.natAbs<=b.natAbs/\(eO a b c).c.natAbs<=c.natAbs:=⟨AB ..,AB ..,AB ..⟩
def iv{m n:Int}(hm:m.natAbs<=1000:=by decide)(hn:n.natAbs<=1000:=by decide):PF GB prog 26 [.v (.int .i64 m), .v (.int .i64 n)] (eP (iP m n)):=by
 refine fn func26 J J ntmps26 J J (fun C=>?_);refine cl J (vb (n:=m)) J<|cl J (vb (n:=n)) J<|rz J J
def Fi{m n m' n' k:Int}(hm:m.natAbs<=1000)(hn:n.natAbs<=1000)(hm':m'.natAbs<=1000)(hn':n'.natAbs<=1000)(hk:k.natAbs<=1000:=by decide):PF GB prog 66 [eP (iP m n),eQ (k:Rat),eP (iP m' n')] (eP (iP (m+k*m') (n+k*n'))):=by
 haveI:=gm (k:=10) hm;haveI:=gm (k:=10) hn;haveI:=gm (k:=10) hm';haveI:=gm (k:=10) hn';haveI:=gm (k:=10) hk;exact PF.eq (N0 (p:=iP m n) (q:=iP m' n') (c:=(k:Rat))) (QX (by show(m:Rat)+(k:Rat)*(m':Rat)=_;push_cast;rfl) (by show(n:Rat)+(k:Rat)*(n':Rat)=_;push_cast;rfl))
def BJ{m n m' n':Int}(hm:m.natAbs<=1000:=by omega)(hn:n.natAbs<=1000:=by omega)(hm':m'.natAbs<=1000:=by omega)(hn':n'.natAbs<=1000:=by omega):PF GB prog 39 [eP (iP m n),eP (iP m' n')] (.v (.bool (decide (m=m'/\n=n')))):=by
 haveI:=gm (k:=10) hm;haveI:=gm (k:=10) hn;haveI:=gm (k:=10) hm';haveI:=gm (k:=10) hn';refine fn func39 J J ntmps39 J J (fun C=>?_);refine cl J (so (a:=(m:Rat)) (b:=(m':Rat))) J<|cs 11 J J J (fun hg11=>?_) (fun hg11=>?_)
 .
  refine cl J (so (a:=(n:Rat)) (b:=(n':Rat))) J<|rz J (by rw[ll] at hg11;have e:m=m':=(by exact_mod_cast hg11);exact congrArg (fun z=>DV.v (.bool z)) (decide_eq_decide.2 (by rw[ll,mM];simp[e])))
 .
  exact rz J (by rw[ll] at hg11;have e: ¬m=m':=(fun e=>hg11 (by rw[e]));show DV.v (.bool false)=DV.v (.bool _);rw[decide_eq_false (fun h=>e h.1)])
def j0(n n':Int):Int:= -(n'-n)
def jD(m m':Int):Int:=m'-m
def pz(m n m' n':Int):Int:= -(j0 n n'*m+jD m m'*n)
def lv(m n m' n':Int):ab:=eO (j0 n n') (jD m m') (pz m n m' n')
def Hy{a b:Int}(ha:a.natAbs<=2000)(hb:b.natAbs<=1000):(a*b).natAbs<=2000000:=by
 rw[dV];exact nY ha hb
end Go.Sx
end
