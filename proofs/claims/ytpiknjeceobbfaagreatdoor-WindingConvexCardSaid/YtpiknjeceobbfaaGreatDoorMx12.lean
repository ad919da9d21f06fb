import Derived.Test.YtpiknjeceobbfaaGreatDoorMx11
import Derived.WalkKit
import Derived.LaidEql
import Derived.Stop.Asserts
import Derived.RowKitTokens
set_option linter.all false
set_option maxHeartbeats 1000000
set_option maxRecDepth 100000
section
namespace Go.Sx
open Go Go.Proofs Tryz
variable {GB:Gh}
def Ii(a:Rat):mkRat a.num a.den=a:=by simp[Rat.mkRat_self]
def VN{a b:Rat}(h:b≠0):a/b=mkRat (a.num*zv (decide (b.num<0)) b.den) (a.den*b.num.natAbs):=by
 rw[nJ];have ha:(a.num:Rat)/(a.den:Rat)=a:=by rw[<-nJ,Ii]
 have hb:(b.num:Rat)/(b.den:Rat)=b:=by rw[<-nJ,Ii]
 have h1:(a.den:Rat)≠0:=by have:=a.den_nz;exact_mod_cast this
 have h2:(b.den:Rat)≠0:=by have:=b.den_nz;exact_mod_cast this
 have h3:(b.num:Rat)≠0:=by
  intro e;rw[e] at hb;apply h;rw[<-hb];grind
 rw[cY,Rat.natCast_mul];by_cases q:b.num<0
 ·have e1:((zv (decide (b.num<0)) b.den:Int):Rat)= -(b.den:Rat):=by
   unfold zv;rw[if_pos (by simpa using q),pZ];rfl
  have e2:((b.num.natAbs:Nat):Rat)= -(b.num:Rat):=by
   have:((b.num.natAbs:Nat):Int)= -b.num:=by omega
   rw[<-pZ,<-this];rfl
  rw[e1,e2];generalize (a.num:Rat)=an at*;generalize (a.den:Rat)=ad at*;generalize (b.num:Rat)=bn at*;generalize (b.den:Rat)=bd at*;subst ha hb;grind
 ·have e1:((zv (decide (b.num<0)) b.den:Int):Rat)=(b.den:Rat):=by
   unfold zv;rw[if_neg (by simpa using q)];rfl
  have e2:((b.num.natAbs:Nat):Rat)=(b.num:Rat):=by
   have:((b.num.natAbs:Nat):Int)=b.num:=by omega
   rw[<-this];rfl
  rw[e1,e2];generalize (a.num:Rat)=an at*;generalize (a.den:Rat)=ad at*;generalize (b.num:Rat)=bn at*;generalize (b.den:Rat)=bd at*;subst ha hb;grind
def Pp{q:Rat}{n:Int}{d:Nat}(hd:0<d)(h:q*(d:Rat)=(n:Rat)):q.num.natAbs<=n.natAbs/\q.den<=d:=by
 have e:q=mkRat n d:=by
  rw[nJ];have:(d:Rat)≠0:=by exact_mod_cast (by omega:d≠0)
  rw[<-h];grind
 rw[e,Rat.num_mkRat,Rat.den_mkRat,if_neg (by omega),if_neg (by omega)];exact⟨lN n (d.gcd n.natAbs:Nat),jW ..⟩
theorem BQ.of_frac{q:Rat}{n:Int}{d i:Nat}(hd:0<d)(h:q*(d:Rat)=(n:Rat))(hn:n.natAbs<2^i)(hdi:d<2^i):BQ q i:=by
 have:=Pp hd h;exact⟨by omega,by omega⟩
def XM{b:Rat}(h:b≠0):0<b.num.natAbs:=by
 have:b.num≠0:=fun e=>h (kN.1 e);omega
instance BQ.over (a b:Rat) (i j:Nat) [ha:BQ a i] [hb:BQ b j]:BQ (a/b) (i+j):=by
 by_cases h:b=0
 ·subst h
  rw[Rat.div_def,Rat.inv_zero,Rat.mul_zero];have h2:=ha.hd;have h3:0<a.den:=ly a;have h4:2^i*1<=2^i*2^j:=eK _ (dS (by decide));rw[<-eY] at h4;exact⟨by show 0<_;omega,by show 1<_;omega⟩
 ·rw[VN h]
  have hb0:=XM h;refine sV (iY (ly a) hb0) ?_ (m8 ha.hd hb.hn);rw[iX,pg];exact m8 ha.hn hb.hd
def tW{n:Int}(h0: -4611686018427387904<=n)(h1:n<=4611686018427387904):PF GB prog 41 [.v (.int .i64 n)] (eQ (n:Rat)):=by
 refine fn func41 J J ntmps41 J J (fun C=>?_);refine cl J (J2 (by omega) (by omega)) J<|?_;exact rz J (by rw[AN];rfl)
def PO{q:Rat}:PF GB prog 56 [eQ q] (vI q.num.sign):=by
 refine fn func56 J J ntmps56 J J (fun C=>?_);refine cl J Ql J<|?_;exact rz J J
def Ru{q:Rat}:PF GB prog 80 [eQ q] (eQ (-q)):=by
 refine fn func80 J J ntmps80 J J (fun C=>?_);refine cl J Ti J<|?_;exact rz J (by unfold eQ;rw[lW,nN];rfl)
def As{a b:Rat}{i j:Nat}[ha:BQ a i][hb:BQ b j](hi:i<=20000000:=by decide)(hj:j<=20000000:=by decide):PF GB prog 79 [eQ a,eQ b] (eQ (a*b)):=by
 have had:=ly a;have hbd:=ly b;have hdp:=iY had hbd;have e1:=uA a.den had;have e2:=uA b.den hbd;refine fn func79 J J ntmps79 J J (fun C=>?_);refine cs 9 J J J (fun hg9=>?_) (fun hg9=>?_)
 .
  refine br J J J (fun hc14=>?_) (fun hc14=>?_)
  .
   refine cl J (sX (a:=a.num) (b:=b.num) (by omega) (by omega)) J<|?_;exact rz J (by rw[Wb (e1.1 (by omega)) (e2.1 (by omega)),AN];rfl)
  .
   refine cl J (sX (a:=a.num) (b:=b.num) (by omega) (by omega)) J<|cl J l5 J<|cl J l5 J<|cl J (tu (by omega) (by omega)) J<|?_;refine cl J (wR hdp (by omega) (by omega)) J<|?_;exact rz J (by rw[xb];rfl)
 .
  refine cl J (sX (a:=a.num) (b:=b.num) (by omega) (by omega)) J<|cl J l5 J<|cl J l5 J<|cl J (tu (by omega) (by omega)) J<|?_;refine cl J (wR hdp (by omega) (by omega)) J<|?_;exact rz J (by rw[xb];rfl)
def BD{a b:Rat}{i j:Nat}[ha:BQ a i][hb:BQ b j](hi:i<=20000000:=by decide)(hj:j<=20000000:=by decide):PF GB prog 78 [eQ a,eQ b] (eQ (a+b)):=by
 have had:=ly a;have hbd:=ly b;have hdp:=iY had hbd;have e1:=uA a.den had;have e2:=uA b.den hbd;refine fn func78 J J ntmps78 J J (fun C=>?_);refine cs 9 J J J (fun hg9=>?_) (fun hg9=>?_)
 .
  refine br J J J (fun hc14=>?_) (fun hc14=>?_)
  .
   refine cl J (CN (by omega) (by omega)) J<|?_;exact rz J (by rw[Xo (e1.1 (by omega)) (e2.1 (by omega)),AN];rfl)
  .
   refine cl J l5 J<|cl J nf J<|cl J (sX (a:=a.num) (b:=zv false b.den) (by omega) (by omega)) J<|cl J l5 J<|cl J nf J<|?_;refine cl J (sX (a:=b.num) (b:=zv false a.den) (by omega) (by omega)) J<|cl J (CN (by omega) (by omega)) J<|cl J l5 J<|?_;refine cl J l5 J<|cl J (tu (by omega) (by omega)) J<|cl J (wR hdp (by omega) (by omega)) J<|?_;exact rz J (by rw[vH];rfl)
 .
  refine cl J l5 J<|cl J nf J<|cl J (sX (a:=a.num) (b:=zv false b.den) (by omega) (by omega)) J<|cl J l5 J<|?_;refine cl J nf J<|cl J (sX (a:=b.num) (b:=zv false a.den) (by omega) (by omega)) J<|cl J (CN (by omega) (by omega)) J<|?_;refine cl J l5 J<|cl J l5 J<|cl J (tu (by omega) (by omega)) J<|cl J (wR hdp (by omega) (by omega)) J<|?_;exact rz J (by rw[vH];rfl)
def N4{a b:Rat}{i j:Nat}[ha:BQ a i][hb:BQ b j](hi:i<=20000000:=by decide)(hj:j<=20000000:=by decide):PF GB prog 103 [eQ a,eQ b] (eQ (a-b)):=by
 refine fn func103 J J ntmps103 J J (fun C=>?_);refine cl J (Ru (q:=b)) J<|cl J (BD (a:=a) (b:= -b) hi hj) J<|?_;exact rz J (by rw[Rat.sub_eq_add_neg];rfl)
instance BI.two:BI 2 2:=⟨by decide⟩
def JI{m:Int}{g:Nat}(hg:(g:Int)∣m)(hb:m.natAbs<4611686018427387904):IntKind.i64.wrap (m.tdiv g)=m/g:=by
 rw[Int.tdiv_eq_ediv_of_dvd hg];have:=lN m g;exact UU (by omega)
def tm(a b:Int):Int:=if(a*b).natAbs<4611686018427387904 then a*b else 0
def AT(a b:Int):(tm a b).natAbs<4611686018427387904:=by unfold tm;split<;>omega
def wn{a b:Int}(h:(a*b).natAbs<4611686018427387904):tm a b=a*b:=if_pos h
def Lp{a b:Int}(h: ¬(a*b).natAbs<4611686018427387904):DV.tp [vI 0, .v (.bool false)]= .tp [vI (tm a b),vB (decide ((a*b).natAbs<4611686018427387904))]:=by unfold tm;rw[if_neg h,decide_eq_false h];rfl
def Je{a b:Int}{x:Int}(h:(a*b).natAbs<4611686018427387904)(e:x=a*b):DV.tp [vI x, .v (.bool true)]= .tp [vI (tm a b),vB (decide ((a*b).natAbs<4611686018427387904))]:=by unfold tm;rw[if_pos h,decide_eq_true h,e];rfl
def Mp(n:Nat):eI (n:Int)= .ag [.v (.bool false),dN n]:=by unfold eI;rw[decide_eq_false (by omega),kY]
def Uh{p q:Rat}(hp:p.den=1)(hq:q.den=1):rgcd p q=((Nat.gcd p.num.natAbs q.num.natAbs:Nat):Int):=by
 conv=>lhs;rw[yr hp,yr hq]
 exact EO _ _
def Te(q:Rat):mkRat (zv (decide (q.num<0)) q.den) q.num.natAbs=q⁻¹:=by
 rw[Rat.inv_def];by_cases h:q.num<0
 ·rw[decide_eq_true h];exact Rf h
 ·rw[decide_eq_false h,<-Rat.divInt_ofNat,mJ (by omega)];rfl
instance BQ.inv (q:Rat) (i:Nat) [h:BQ q i]:BQ q⁻¹ i:=by
 have h1:=h.hn;have h2:=h.hd;have h3:=q.den_nz;rcases kX q.num 0 with k|k|k
 ·obtain⟨e1,e2⟩:=GZ k;exact⟨by omega,by omega⟩
 ·have e:q=0:=kN.1 k
  have e0:(0:Rat)⁻¹=0:=Rat.inv_zero;rw[e] at h1 h2⊢;rw[e0];exact⟨h1,h2⟩
 ·obtain⟨e1,e2⟩:=MS k;exact⟨by omega,by omega⟩
instance BQ.half:BQ (mkRat 1 2) 2:=⟨by decide,by decide⟩
def V'{x y:Nat}(hx:x<18446744073709551616)(hy:y<18446744073709551616):PF GB prog 250 [.v (.int .u64 (x:Nat)), .v (.int .u64 (y:Nat))] (.tp [.v (.int .u64 ((x*y/18446744073709551616:Nat):Int)), .v (.int .u64 ((x*y%18446744073709551616:Nat):Int))]):=fun G vs _ hv=>by
 obtain⟨v,m,rfl,h1,h2⟩:=cb.1 hv;obtain⟨u,m',rfl,h3,h4⟩:=cb.1 h2
 cases cF.1 h4
 rw[bp.1 h1,bp.1 h3];exact(WU hx hy).mono fun v G' _ h=>by subst h;exact nE.2 ⟨_,J, .cons (bp.2 J) (.cons (bp.2 J) .nil)⟩
def F2{a b:Nat}(ha:a<18446744073709551616)(hb:b<18446744073709551616):PF GB prog 246 [.v (.int .u64 (a:Nat)), .v (.int .u64 (b:Nat))] (.v (.int .u64 (Nat.gcd a b:Nat))):=by
 refine fn func246 J J ntmps246 J J (fun C=>?_);refine lp (X:=Nat×Nat) (fun⟨u,v⟩=>[(1, .d (.v (.int .u64 (v:Nat)))),(0, .d (.v (.int .u64 (u:Nat))))]) (fun⟨u,v⟩=>[]) (fun⟨u,v⟩=>u<18446744073709551616/\v<18446744073709551616/\Nat.gcd u v=Nat.gcd a b) (fun⟨u,v⟩=>v) (a,b) J ⟨ha,hb,J⟩ (fun _=>J) (fun⟨u,v⟩ hk=>?_);dsimp only at hk⊢;obtain⟨h1,h2,h3⟩:=hk;refine br (v1:=fun hc6=>by simp only[ah];exact⟨by omega,by kernel_rfl⟩) J J J (fun hc6=>?_) (fun hc6=>?_)
 .
  have hm:=cS u (show 0<v by omega);exact at_ (v,u%v) (by dsimp only;exact⟨⟨h2,by omega,by rw[<-h3,gR u v,rZ v u,gR]⟩,hm⟩)
 .
  exact rz J (by rw[<-h3,show v=0 by omega,lT];rfl)
def xn{m:Int}(h:m.natAbs<9223372036854775808):PF GB prog 70 [vI m] (eF (m:Rat)):=by
 refine fn func70 J J ntmps70 J J (fun C=>?_);refine cs 5 J J J (fun hg5=>?_) (fun hg5=>?_)
 .
  refine cl J (A3 (m:=m) (by omega) (by omega)) J<|rf (fu:=⟨0⟩) J J<|?_;refine ak 11 (.d (dN 1)) J (by unfold dN;rw[AD];rfl) ?_;refine gx J<|cl J (s8 (n:=decide (m<0)) (a:=m.natAbs) (i:=63) (h:=⟨h⟩) (d:=1)) J<|?_;exact rz J (by rw[kl,show mkRat m 1=(m:Rat) from Rat.mkRat_one ..];rfl)
 .
  refine br J J J (fun hc8=>?_) (fun hc8=>?_)
  .
   refine cl J (A3 (m:=m) (by omega) (by omega)) J<|rf (fu:=⟨0⟩) J J<|?_;refine ak 11 (.d (dN 1)) J (by unfold dN;rw[AD];rfl) ?_;refine gx J<|cl J (s8 (n:=decide (m<0)) (a:=m.natAbs) (i:=63) (h:=⟨h⟩) (d:=1)) J<|?_;exact rz J (by rw[kl,show mkRat m 1=(m:Rat) from Rat.mkRat_one ..];rfl)
  .
   exact je J (GX (by omega))
def vV{a b:Int}(ha:a.natAbs<4611686018427387904)(hb:b.natAbs<4611686018427387904):PF GB prog 234 [vI a,vI b] (.tp [vI (tm a b),vB (decide ((a*b).natAbs<4611686018427387904))]):=by
 have hab:=iX a b;refine fn func234 J J ntmps234 J J (fun C=>?_);refine cl J (xq (m:=a) (by omega)) J<|cl J (xq (m:=b) (by omega)) J<|cl J (V' (x:=a.natAbs) (y:=b.natAbs) (by omega) (by omega)) J<|?_;refine cs 18 J J J (fun hg18=>?_) (fun hg18=>?_)
 .
  exact rz J (Lp (by omega))
 .
  refine br J J J (fun hc21=>?_) (fun hc21=>?_)
  .
   exact rz J (Lp (by omega))
  .
   refine bb J J J (fun hc26=>?_) (fun hc26=>?_)
   .
    have hs:=MF a b;rw[if_neg (by simpa using hc26)] at hs;exact rz J (Je (by omega) (by rw[hs,<-hab];omega))
   .
    have hs:=MF a b;rw[if_pos (by simpa using hc26)] at hs;exact rz J (Je (by omega) (by rw[hs,<-hab];omega))
def K9{m:Int}{d:Nat}(h:m.natAbs<4611686018427387904)(h0:0<d)(hd:d<4611686018427387904):PF GB prog 235 [vI m,vI (d:Nat)] (eF (mkRat m d)):=by
 have hg:Nat.gcd m.natAbs d<=d:=Nat.gcd_le_right _ h0;have hg0:0<Nat.gcd m.natAbs d:=mY _ h0;obtain⟨e1,e2⟩:=I' (m:=m) h0;have e3:=lN m (Nat.gcd m.natAbs d:Nat);have e4:=jW d (Nat.gcd m.natAbs d);have e5:=Nat.div_pos hg hg0;refine fn func235 J J ntmps235 J J (fun C=>?_);refine cl J (xq (m:=m) (by omega)) J<|cl J (F2 (a:=m.natAbs) (b:=d) (by omega) (by omega)) J<|?_;refine br (fu1:=⟨4⟩) J J J (fun hc13=>?_) (fun hc13=>?_)
 .
  refine ak 16 (.d (vI (m/(Nat.gcd m.natAbs d:Nat)))) J (by rw[JI (Int.dvd_natAbs.1 (pV.2 (jZ _ _))) h];rfl) ?_;refine gx (fu:=⟨3⟩) J<|?_;refine ak 19 (.d (vI ((d/Nat.gcd m.natAbs d:Nat)))) J (by rw[JI (pV.2 (kJ _ _)) (by rw[kY];exact hd)];rfl) ?_;refine gx (hv:=by simp only[ah];exact⟨by kernel_rfl,by omega⟩) J<|?_;exact je J (qd (fun k=>k ⟨by rw[e1];omega,by rw[e2];omega⟩) e1 (by rw[e2]) J)
 .
  exact je J (by have h1:Nat.gcd m.natAbs d=1:=(by omega);rw[h1,rX] at e2;rw[h1,Int.natCast_one,Int.ediv_one] at e1;exact qd (fun k=>k ⟨by rw[e1];omega,by rw[e2];omega⟩) e1 (by rw[e2]) J)
def p8{p q:Rat}{i j:Nat}[h:BQ p i][k:BQ q j](hi:i<=100000000:=by decide)(hj:j<=100000000:=by decide):PF GB prog 204 [eF p,eF q] (eF (p*q)):=by
 refine fn (fu:=⟨8⟩) func204 J J ntmps204 J J (fun C=>?_);refine mg (X:=Unit) (fun _=>[(2, .ov 2 0),(3, .ov 3 0),(4, .ov 4 0)]) (fun _=>[(2,some (.o 101 [.d (vI (dz p)), .d (vI (du p)), .d (dl p)] true)),(3,some (.o 101 [.d (vI (dz q)), .d (vI (du q)), .d (dl q)] true)),(4,some (.o 101 [.d (.v (.int .i64 0)), .d (.v (.int .i64 0)), .d (.v (.pointer none))] true))]) (fun _=>True) [2,3,4] [2,3,4] rfl ?_ (fun _=>J) (fun _ _=>?_)
 .
  refine gx J<|?_;refine cs 12 J J J (fun hg12=>?_) (fun hg12=>?_)
  .
   refine br (fu1:=⟨4⟩) J J J (fun hc16=>?_) (fun hc16=>?_)
   .
    have hp:=qy hg12;have hq:=qy hc16;have p1:=kE hp;have p2:=mA hp;have p3:=ol hp;have p4:=nI hp;have p5:=p.den_nz;have q1:=kE hq;have q2:=mA hq;have q3:=ol hq;have q4:=nI hq;have q5:=q.den_nz;refine ak 19 (.d (vI p.num)) J (by rw[p1]) ?_;refine gx (fu:=⟨2⟩) J<|?_;refine ak 21 (.d (vI q.num)) J (by rw[q1]) ?_;refine gx J<|cl (fu:=⟨12⟩) J (vV (a:=p.num) (b:=q.num) (by omega) (by omega)) J<|?_;refine ak 28 (.d (vI (p.den:Nat))) J (by congr 3;omega) ?_;refine gx (fu:=⟨3⟩) J<|?_;refine ak 31 (.d (vI (q.den:Nat))) J (by congr 3;omega) ?_;refine gx J<|cl J (vV (a:=(p.den:Nat)) (b:=(q.den:Nat)) (by omega) (by omega)) J<|?_;refine csd 36 J J J (fun hg36=>?_) (fun hg36=>?_)
    .
     refine bd (fu1:=⟨3⟩) J J J (fun hc38=>?_) (fun hc38=>?_)
     .
      have hd1:p.den*q.den<4611686018427387904:=by omega
      refine ak 39 (.d (vI (p.num*q.num))) J (by rw[wn hg36]) ?_;refine gx (fu:=⟨1⟩) J<|?_;refine ak 40 (.d (vI ((p.den*q.den:Nat)))) J (by rw[wn hc38];rfl) ?_;refine gx J<|cl J (K9 (m:=p.num*q.num) (d:=p.den*q.den) hg36 (iY (by omega) (by omega)) hd1) J<|?_;exact rz J (by rw[<-xb];rfl)
     .
      exact at_ () trivial
    .
     exact at_ () trivial
   .
    exact at_ () trivial
  .
   exact at_ () trivial
 .
  refine cl J (sK (q:=p) (by omega)) J<|cl J (sK (q:=q) (by omega)) J<|cl J (Bp (a:=p.num) (b:=q.num) (by omega) (by omega)) J<|?_;refine cl J (oc (q:=p) (by omega)) J<|cl J (oc (q:=q) (by omega)) J<|cl J (tY (a:=p.den) (b:=q.den) (by omega) (by omega)) J<|?_;refine cl J (s8 (n:=decide (p.num*q.num<0)) (a:=(p.num*q.num).natAbs) (d:=p.den*q.den) (i:=i+j) (j:=i+j) (by omega) (by omega)) J<|?_;exact rz J (by rw[kl,<-xb];rfl)
def wU{p q:Rat}{i j:Nat}[h:BQ p i][k:BQ q j](hi:i<=100000000:=by decide)(hj:j<=100000000:=by decide):PF GB prog 203 [eF p,eF q] (eF (p+q)):=by
 refine fn (fu:=⟨8⟩) func203 J J ntmps203 J J (fun C=>?_);refine mg (X:=Unit) (fun _=>[(2, .ov 2 0),(3, .ov 3 0),(4, .ov 4 0)]) (fun _=>[(2,some (.o 101 [.d (vI (dz p)), .d (vI (du p)), .d (dl p)] true)),(3,some (.o 101 [.d (vI (dz q)), .d (vI (du q)), .d (dl q)] true)),(4,some (.o 101 [.d (.v (.int .i64 0)), .d (.v (.int .i64 0)), .d (.v (.pointer none))] true))]) (fun _=>True) [2,3,4] [2,3,4] rfl ?_ (fun _=>J) (fun _ _=>?_)
 .
  refine gx J<|?_;refine cs 16 J J J (fun hg16=>?_) (fun hg16=>?_)
  .
   refine br (fu1:=⟨1⟩) J J J (fun hc20=>?_) (fun hc20=>?_)
   .
    have hp:=qy hg16;have hq:=qy hc20;have p1:=kE hp;have p2:=mA hp;have p3:=ol hp;have p4:=nI hp;have p5:=p.den_nz;have q1:=kE hq;have q2:=mA hq;have q3:=ol hq;have q4:=nI hq;have q5:=q.den_nz;refine mg (fu:=⟨4⟩) (X:=Unit) (fun _=>[(2, .ov 2 0),(3, .ov 3 0),(4, .ov 4 0)]) (fun _=>[(2,some (.o 101 [.d (vI (dz p)), .d (vI (du p)), .d (dl p)] true)),(3,some (.o 101 [.d (vI (dz q)), .d (vI (du q)), .d (dl q)] true)),(4,some (.o 101 [.d (.v (.int .i64 0)), .d (.v (.int .i64 0)), .d (.v (.pointer none))] true))]) (fun _=>True) [2,3,4] [2,3,4] rfl ?_ (fun _=>J) (fun _ _=>?_)
    .
     refine gx J<|?_;refine cs 24 J J J (fun hg24=>?_) (fun hg24=>?_)
     .
      refine br (fu1:=⟨4⟩) J J J (fun hc28=>?_) (fun hc28=>?_)
      .
       refine ak 30 (.d (vI p.num)) J (by rw[p1]) ?_;refine gx (fu:=⟨2⟩) J<|?_;refine ak 32 (.d (vI q.num)) J (by rw[q1]) ?_;refine gx J<|cl J (xn (m:=p.num+q.num) (by omega)) J<|?_;exact rz J (by rw[yr (q:=p) (by omega),yr (q:=q) (by omega),<-nW];rfl)
      .
       exact at_ () trivial
     .
      exact at_ () trivial
    .
     refine ak 37 (.d (vI p.num)) J (by rw[p1]) ?_;refine gx (fu:=⟨3⟩) J<|?_;refine ak 40 (.d (vI (q.den:Nat))) J (by congr 3;omega) ?_;refine gx J<|cl (fu:=⟨11⟩) J (vV (a:=p.num) (b:=(q.den:Nat)) (by omega) (by omega)) J<|?_;refine ak 46 (.d (vI q.num)) J (by rw[q1]) ?_;refine gx (fu:=⟨3⟩) J<|?_;refine ak 49 (.d (vI (p.den:Nat))) J (by congr 3;omega) ?_;refine gx J<|cl (fu:=⟨12⟩) J (vV (a:=q.num) (b:=(p.den:Nat)) (by omega) (by omega)) J<|?_;refine ak 56 (.d (vI (p.den:Nat))) J (by congr 3;omega) ?_;refine gx (fu:=⟨3⟩) J<|?_;refine ak 59 (.d (vI (q.den:Nat))) J (by congr 3;omega) ?_;refine gx J<|cl (fu:=⟨3⟩) J (vV (a:=(p.den:Nat)) (b:=(q.den:Nat)) (by omega) (by omega)) J<|?_;have t1:=AT p.num (q.den:Nat);have t2:=AT q.num (p.den:Nat);have t3:=AT (p.den:Nat) (q.den:Nat);refine gx J<|?_;refine csd 67 J J J (fun hg67=>?_) (fun hg67=>?_)
     .
      refine csd 70 J J J (fun hg70=>?_) (fun hg70=>?_)
      .
       refine csd 73 J J J (fun hg73=>?_) (fun hg73=>?_)
       .
        refine cs 77 J J J (fun hg77=>?_) (fun hg77=>?_)
        .
         refine br (fu1:=⟨3⟩) J J J (fun hc80=>?_) (fun hc80=>?_)
         .
          have u1:=wn hg67;have u2:=wn hg70;have u3:=wn hg73;have hd1:p.den*q.den<4611686018427387904:=by omega
          refine ak 81 (.d (vI (p.num*(q.den:Nat)+q.num*(p.den:Nat)))) J (by rw[u1,u2];rfl) ?_;refine gx (fu:=⟨1⟩) J<|?_;refine ak 82 (.d (vI ((p.den*q.den:Nat)))) J (by rw[u3];rfl) ?_;refine gx J<|cl J (K9 (m:=p.num*(q.den:Nat)+q.num*(p.den:Nat)) (d:=p.den*q.den) (by omega) (iY (by omega) (by omega)) hd1) J<|?_;exact rz J (by rw[<-vH];rfl)
         .
          exact at_ () trivial
        .
         exact at_ () trivial
       .
        exact at_ () trivial
      .
       exact at_ () trivial
     .
      exact at_ () trivial
   .
    exact at_ () trivial
  .
   exact at_ () trivial
 .
  refine cl J (sK (q:=p) (by omega)) J<|cl (fu:=⟨1⟩) J (oc (q:=q) (by omega)) J<|?_;refine ak 88 (.d (eI (q.den:Nat))) J (by rw[Mp]) ?_;refine gx J<|cl J (Bp (a:=p.num) (b:=(q.den:Nat)) (by omega) (by omega)) J<|cl J (sK (q:=q) (by omega)) J<|cl (fu:=⟨1⟩) J (oc (q:=p) (by omega)) J<|?_;refine ak 94 (.d (eI (p.den:Nat))) J (by rw[Mp]) ?_;refine gx J<|cl J (Bp (a:=q.num) (b:=(p.den:Nat)) (by omega) (by omega)) J<|cl J (VW (a:=p.num*(q.den:Nat)) (b:=q.num*(p.den:Nat)) (i:=i+j) (j:=j+i) (by omega) (by omega)) J<|?_;refine cl J (oc (q:=p) (by omega)) J<|cl J (oc (q:=q) (by omega)) J<|cl J (tY (a:=p.den) (b:=q.den) (by omega) (by omega)) J<|?_;refine cl J (s8 (n:=decide (p.num*(q.den:Nat)+q.num*(p.den:Nat)<0)) (a:=(p.num*(q.den:Nat)+q.num*(p.den:Nat)).natAbs) (d:=p.den*q.den) (i:=i+j+(j+i)+1) (j:=i+j) (by omega) (by omega)) J<|?_;exact rz J (by rw[kl,<-vH];rfl)
def vp{p q:Rat}{i j:Nat}[h:BQ p i][k:BQ q j](hi:i<=100000000:=by decide)(hj:j<=100000000:=by decide):PF GB prog 168 [eF p,eF q] (eF (p-q)):=by
 refine fn func168 J J ntmps168 J J (fun C=>?_);refine cl J (sd (q:=q) (by omega)) J<|cl J (wU (p:=p) (q:= -q) (by omega) (by omega)) J<|?_;exact rz J (by rw[<-Rat.sub_eq_add_neg];rfl)
def yX{q:Rat}{i:Nat}[h:BQ q i](hi:i<=400000000:=by decide):PF GB prog 229 [eF q] (eF q⁻¹):=by
 refine fn func229 J J ntmps229 J J (fun C=>?_);refine br (v1:=fun hc3=>by simp only[ah];exact⟨⟨hc3,hc3⟩,hc3⟩) J J J (fun hc3=>?_) (fun hc3=>?_)
 .
  refine cl J (s8 (n:=decide (q.num<0)) (a:=q.den) (d:=q.num.natAbs) (by omega) (by omega)) J<|?_;exact rz J (by rw[Te];rfl)
 .
  have q1:=kE (lO hc3);have q2:=mA (lO hc3);have q3:=ol (lO hc3);have q4:=nI (lO hc3);have q5:=q.den_nz;refine br J J J (fun hc26=>?_) (fun hc26=>?_)
  .
   exact je rfl (by obtain⟨e1,e2⟩:=GZ (q:=q) (by omega);exact qd (fun k=>k ⟨by omega,by omega⟩) (by omega) (by omega) rfl)
  .
   refine br J J J (fun hc39=>?_) (fun hc39=>?_)
   .
    exact je J (by rw[kN.1 (show q.num=0 by omega),Rat.inv_zero];exact uh)
   .
    exact je rfl (by obtain⟨e1,e2⟩:=MS (q:=q) (by omega);exact qd (fun k=>k ⟨by omega,by omega⟩) (by omega) (by omega) rfl)
def wg{p q:Rat}{i j:Nat}[h:BQ p i][k:BQ q j](hi:i<=100000000:=by decide)(hj:j<=100000000:=by decide):PF GB prog 201 [eF p,eF q] (eF (p/q)):=by
 refine fn func201 J J ntmps201 J J (fun C=>?_);refine cl J (yX (q:=q) (by omega)) J<|cl J (p8 (p:=p) (q:=q⁻¹) (by omega) (by omega)) J<|?_;exact rz J (by rw[Rat.div_def];rfl)
def WA{G:Gh}{q r:DV}{t:List DV}{vs:List Value}(h: ∀y,Is G r y->Is G q y)(hv:IsLs G (r::t) vs):IsLs G (q::t) vs:=by
 obtain⟨y,m,rfl,h1,h2⟩:=cb.1 hv;exact .cons (h _ h1) h2
def OI{G:Gh}{a q r:DV}{t:List DV}{vs:List Value}(h: ∀y,Is G r y->Is G q y)(hv:IsLs G (a::r::t) vs):IsLs G (a::q::t) vs:=by
 obtain⟨y,m,rfl,h1,h2⟩:=cb.1 hv;exact .cons h1 (WA h h2)
def QD{q:Rat}{i:Nat}[h:BQ q i](hi:i<=100000000:=by decide):PF GB prog 204 [eF q, .ag [vI 1,vI 1, .v (.pointer none)]] (eF (q*mkRat 1 2)):=
 (p8 (p:=q) (q:=mkRat 1 2) hi).ofI fun G vs hv=>OI (fun y hy=>qd (q:=mkRat 1 2) (fun k=>k ⟨by decide,by decide⟩) (by decide) (by decide) J G y hy) hv
def Wt{q:Rat}{i:Nat}[h:BQ q i](hi:i<=100000000:=by decide):PF GB prog 148 [eF q] (eF (q*mkRat 1 2)):=by
 refine fn func148 J J ntmps148 J J (fun C=>?_);refine cl J (QD (q:=q) (by omega)) J<|?_;exact rz J J
def kx{p q:Rat}{i j:Nat}[h:BQ p i][k:BQ q j](hi:i<=100000000:=by decide)(hj:j<=100000000:=by decide):PF GB prog 116 [eF p,eF q] (vI (ce p q)):=by
 refine fn func116 J J ntmps116 J J (fun C=>?_);refine cs 8 J J J (fun hg8=>?_) (fun hg8=>?_)
 .
  refine cs 13 J J J (fun hg13=>?_) (fun hg13=>?_)
  .
   refine br J J J (fun hc19=>?_) (fun hc19=>?_)
   .
    have hp:=qy hg8;have hq:=qy hg13;have p1:=kE hp;have p2:=mA hp;have p3:=ol hp;have p4:=nI hp;have p5:=p.den_nz;have q1:=kE hq;have q2:=mA hq;have q3:=ol hq;have q4:=nI hq;have q5:=q.den_nz;have hl:=M0 (a:=p) (b:=q) (by omega);have hr:=M0 (a:=q) (b:=p) (by omega);unfold ce;refine br J J J (fun hc20=>?_) (fun hc20=>?_)
    .
     exact rz J (by rw[if_pos (hl.2 (by omega))];rfl)
    .
     refine br J J J (fun hc26=>?_) (fun hc26=>?_)
     .
      exact rz J (by rw[if_neg (fun e=>by have:=hl.1 e;omega),if_pos (hr.2 (by omega))];rfl)
     .
      exact rz J (by rw[if_neg (fun e=>by have:=hl.1 e;omega),if_neg (fun e=>by have:=hr.1 e;omega)];rfl)
   .
    refine cl J (vp (p:=p) (q:=q) (by omega) (by omega)) J<|cl J (lz (q:=p-q) (by omega)) J<|?_;exact rz J (by rw[B4];rfl)
  .
   refine cl J (vp (p:=p) (q:=q) (by omega) (by omega)) J<|cl J (lz (q:=p-q) (by omega)) J<|?_;exact rz J (by rw[B4];rfl)
 .
  refine cl J (vp (p:=p) (q:=q) (by omega) (by omega)) J<|cl J (lz (q:=p-q) (by omega)) J<|?_;exact rz J (by rw[B4];rfl)
def J7{p q:Rat}{i j:Nat}[h:BQ p i][k:BQ q j](hi:i<=100000000:=by decide)(hj:j<=100000000:=by decide):PF GB prog 225 [eF p,eF q] (vB (decide (p=q))):=by
 refine fn func225 J J ntmps225 J J (fun C=>?_);refine cl J (kx (p:=p) (q:=q) hi hj) J<|?_;exact rz J (by show DV.v (.bool (decide _))= .v (.bool _);congr 2;exact decide_eq_decide.2 (P2 p q))
def Ws{p q:Rat}{i j:Nat}[h:BQ p i][k:BQ q j](hi:i<=100000000:=by decide)(hj:j<=100000000:=by decide):PF GB prog 145 [eF p,eF q] (eF (if q<p then q else p)):=by
 refine fn func145 J J ntmps145 J J (fun C=>?_);refine cl J (kx (p:=q) (q:=p) hj hi) J<|?_;refine br J J J (fun hc8=>?_) (fun hc8=>?_)
 .
  exact rz J (by rw[if_pos ((HI q p).1 hc8)];rfl)
 .
  exact rz J (by rw[if_neg (fun e=>hc8 ((HI q p).2 e))];rfl)
def vD{p q:Rat}{i j:Nat}[h:BQ p i][k:BQ q j](hi:i<=100000000:=by decide)(hj:j<=100000000:=by decide):PF GB prog 228 [eF p,eF q] (eF (rgcd p q)):=by
 refine fn (fu:=⟨8⟩) func228 J J ntmps228 J J (fun C=>?_);refine mg (X:=Unit) (fun _=>[(2, .ov 2 0),(3, .ov 3 0),(4, .ov 4 0)]) (fun _=>[(2,some (.o 101 [.d (vI (dz p)), .d (vI (du p)), .d (dl p)] true)),(3,some (.o 101 [.d (vI (dz q)), .d (vI (du q)), .d (dl q)] true)),(4,some (.o 101 [.d (.v (.int .i64 0)), .d (.v (.int .i64 0)), .d (.v (.pointer none))] true))]) (fun _=>True) [2,3,4] [2,3,4] rfl ?_ (fun _=>J) (fun _ _=>?_)
 .
  refine gx J<|?_;refine cs 10 J J J (fun hg10=>?_) (fun hg10=>?_)
  .
   refine cs 15 J J J (fun hg15=>?_) (fun hg15=>?_)
   .
    have hp:=qy hg10;have hq:=qy hg15;have p1:=kE hp;have p2:=mA hp;have p3:=ol hp;have p4:=nI hp;have p5:=p.den_nz;have q1:=kE hq;have q2:=mA hq;have q3:=ol hq;have q4:=nI hq;have q5:=q.den_nz;refine cs 20 J J J (fun hg20=>?_) (fun hg20=>?_)
    .
     refine br (fu1:=⟨4⟩) J J J (fun hc24=>?_) (fun hc24=>?_)
     .
      have hg:=NV p3 q3;refine ak 26 (.d (vI p.num)) J (by rw[p1]) ?_;refine gx J<|cl (fu:=⟨2⟩) J (xq (m:=p.num) (by omega)) J<|?_;refine ak 29 (.d (vI q.num)) J (by rw[q1]) ?_;refine gx J<|cl J (xq (m:=q.num) (by omega)) J<|cl (hv:=by simp only[ah];exact⟨by omega,by kernel_rfl⟩) J (F2 (a:=p.num.natAbs) (b:=q.num.natAbs) (by omega) (by omega)) J<|?_;exact je J (by rw[Uh (p:=p) (q:=q) (by omega) (by omega)];exact GX (by rw[kY];exact hg))
     .
      exact at_ () trivial
    .
     exact at_ () trivial
   .
    exact at_ () trivial
  .
   exact at_ () trivial
 .
  refine cl J (oc (q:=p) (by omega)) J<|cl J (oc (q:=q) (by omega)) J<|cl J (tY (a:=p.den) (b:=q.den) (by omega) (by omega)) J<|?_;refine cl J (sK (q:=p) (by omega)) J<|cl J (oc (q:=q) (by omega)) J<|cl J (tY (a:=p.num.natAbs) (b:=q.den) (by omega) (by omega)) J<|?_;refine cl J (sK (q:=q) (by omega)) J<|cl J (oc (q:=p) (by omega)) J<|cl J (tY (a:=q.num.natAbs) (b:=p.den) (by omega) (by omega)) J<|?_;refine cl J (DH (a:=p.num.natAbs*q.den) (b:=q.num.natAbs*p.den) (i:=i+j) (j:=j+i) (by omega) (by omega)) J<|cl J (s8 (n:=false) (a:=Nat.gcd (p.num.natAbs*q.den) (q.num.natAbs*p.den)) (d:=p.den*q.den) (i:=i+j+(j+i)) (j:=i+j) (by omega) (by omega)) J<|?_;exact rz J J
end Go.Sx
end
section
namespace Go.Sx
open Go
def crossI(l m:ab):Int:=l.a*m.b-m.a*l.b
def meetX(l m:ab):Int:=l.b*m.c-m.b*l.c
def meetY(l m:ab):Int:=m.a*l.c-l.a*m.c
def jr(l m:ab):aa:=if crossI l m=0 then⟨0,0⟩ else⟨(meetX l m:Rat)/(crossI l m:Rat),(meetY l m:Rat)/(crossI l m:Rat)⟩
def co(l:ab)(p:aa):Rat:=p.dot l.dir/l.dir.dot l.dir
def DT(l:ab):l.dir.dot l.dir=l.nor.dot l.nor:=by
 simp only[ab.dir,ab.nor,aa.dot];grind
def wP{l:ab}(h:l.Ne):0<l.dir.dot l.dir:=by rw[DT];exact qk h
def KX(l m:ab):((crossI l m:Int):Rat)=(l.a:Rat)*m.b-(m.a:Rat)*l.b:=by
 unfold crossI;rw[lQ,cY,cY]
def XE(l m:ab):((meetX l m:Int):Rat)=(l.b:Rat)*m.c-(m.b:Rat)*l.c:=by
 unfold meetX;rw[lQ,cY,cY]
def PJ(l m:ab):((meetY l m:Int):Rat)=(m.a:Rat)*l.c-(l.a:Rat)*m.c:=by
 unfold meetY;rw[lQ,cY,cY]
def Pb(l m:ab):l.cutK m= -((crossI l m:Int):Rat):=by
 rw[KX];simp only[ab.cutK,ab.nor,ab.dir,aa.dot];grind
def QI{l:ab}:(⟨-((l.c:Rat)/l.dir.dot l.dir)*(l.a:Rat), -((l.c:Rat)/l.dir.dot l.dir)*(l.b:Rat)⟩:aa)=l.base:=by
 unfold ab.base;rw[DT];simp only[ab.nor,aa.scale,aa.mk.injEq];constructor<;>grind
def rD(l:ab)(t:Rat):aG l.base l.dir t=l.at t:=by
 simp only[aG,ab.at,aa.add,aa.scale,aa.mk.injEq];constructor<;>grind
def Uk{l m:ab}(hl:l.Ne)(h:crossI l m≠0):co l (jr l m)= -(l.cutC m/l.cutK m):=by
 have hd:((crossI l m:Int):Rat)≠0:=fun e=>h (iT.1 e);have hn:=wP hl;obtain⟨q,q1,q2⟩:=xc hl;rw[Pb];unfold co jr ab.cutC;rw[if_neg h,q2,lj,XE,PJ];have hc:=KX l m;rw[DT] at hn⊢;simp only[ab.dir,ab.nor,aa.dot] at hn q1⊢;generalize ((crossI l m:Int):Rat)=d at*;generalize (l.a:Rat)=a at*;generalize (l.b:Rat)=b at*;generalize (l.c:Rat)=c at*;generalize (m.a:Rat)=x at*;generalize (m.b:Rat)=y at*;generalize (m.c:Rat)=z at*;have hn':a*a+b*b≠0:=by grind
 have e:((b*z-y*c)/d*b+(x*c-a*z)/d* -a)=((b*z-y*c)*b-(x*c-a*z)*a)/d:=by grind
 rw[e];have k1:(b*z-y*c)*b-(x*c-a*z)*a=(a*a+b*b)*(x*(a*q)+y*(b*q)+z):=by grind
 rw[k1];grind
def RW{l m:ab}(hl:l.Ne)(h:crossI l m≠0):co l (jr l m)*((crossI l m*(l.a*l.a+l.b*l.b):Int):Rat)=((meetX l m*l.b-meetY l m*l.a:Int):Rat):=by
 have hd:((crossI l m:Int):Rat)≠0:=fun e=>h (iT.1 e);have hn:=wP hl;unfold co jr;rw[if_neg h];simp only[cY,lQ,nW];simp only[ab.dir,aa.dot] at hn⊢;generalize ((crossI l m:Int):Rat)=d at*;generalize ((meetX l m:Int):Rat)=x at*;generalize ((meetY l m:Int):Rat)=y at*;generalize (l.a:Rat)=a at*;generalize (l.b:Rat)=b at*;have hn':b*b+ -a* -a≠0:=by grind
 grind
def RP(l m:ab)(t:List ab)(v:aA):ik l (m::t) v=if m=l then ik l t v else if l.cutB v m then ik l t (l.cutV v m) else none:=rfl
def NN(v:aA)(t:Rat):aA:=if v.nl=true\/0<ce t v.lo then⟨t,v.hi,false,v.nh⟩ else v
def Tf(v:aA)(t:Rat):aA:=if v.nh=true\/ce t v.hi<0 then⟨v.lo,t,v.nl,false⟩ else v
structure rO (v:aA):Prop where
 lo:v.nl=true->v.lo=0
 hi:v.nh=true->v.hi=0
def Ai(a b:Rat):0<ce a b↔b<a:=by
 unfold ce;split
 ·constructor
  ·intro h;exact absurd h (by decide)
  ·intro h;grind
 ·split
  ·exact⟨fun _=>by assumption,fun _=>by decide⟩
  ·constructor
   ·intro h;exact absurd h (by decide)
   ·intro h;exact absurd h (by assumption)
def zJ(a b:Rat):ce a b<0↔a<b:=by
 unfold ce;split
 ·exact⟨fun _=>by assumption,fun _=>by decide⟩
 ·split
  ·constructor
   ·intro h;exact absurd h (by decide)
   ·intro h;grind
  ·constructor
   ·intro h;exact absurd h (by decide)
   ·intro h;exact absurd h (by assumption)
def rO.all:rO aA.all:=⟨fun _=>J,fun _=>J⟩
end Go.Sx
end
section
namespace Go.Sx
open Go Go.Proofs Tryz
variable {GB:Gh}

def cT:Tr->List DV
 | .leaf b=>[.v (.bool true), .v (.bool b), .v (.bool false), .sl [], .v (.bool false), .sl [], .v (.bool false), .sl [], .v (.pointer none), .v (.pointer none)]
 | .node l x y=>[.v (.bool false), .v (.bool false), .v (.bool (decide (l.a<0))),dN l.a.natAbs, .v (.bool (decide (l.b<0))),dN l.b.natAbs, .v (.bool (decide (l.c<0))),dN l.c.natAbs, .pt (cT x), .pt (cT y)]
def eT(t:Tr):DV:= .pt (cT t)
def eN(n:NQ):DV:= .ag [.v (.bool (decide (n.l.a<0))),dN n.l.a.natAbs, .v (.bool (decide (n.l.b<0))),dN n.l.b.natAbs, .v (.bool (decide (n.l.c<0))),dN n.l.c.natAbs, .v (.int .i64 n.a), .v (.int .i64 n.b)]
def eA(t:Tr):DV:= .ag [.v (.int .i64 (t.num 0)), .sl ((t.wr 0).map eN)]
structure BL (l:ab) (k:Nat):Prop where
 a:l.a.natAbs<2^k
 b:l.b.natAbs<2^k
 c:l.c.natAbs<2^k
structure LS (l:ab):Prop where
 ok:l.ok
 a:l.a.natAbs<=4
 b:l.b.natAbs<=4
 c:l.c.natAbs<=40000
def ab.ext'{l m:ab}(h1:l.a=m.a)(h2:l.b=m.b)(h3:l.c=m.c):l=m:=by cases l;cases m;simp_all
instance:DecidableEq NQ:=fun x y=>decidable_of_iff (x.l=y.l/\x.a=y.a/\x.b=y.b) (by
 cases x;cases y;simp)
class LB (l:ab):Prop where bl:BL l 96
instance LB.a (l:ab) [h:LB l]:BI l.a 96:=⟨h.bl.a⟩
instance LB.b (l:ab) [h:LB l]:BI l.b 96:=⟨h.bl.b⟩
instance LB.c (l:ab) [h:LB l]:BI l.c 96:=⟨h.bl.c⟩
class aw (p:aa) (k:outParam Nat):Prop where
 x:BQ p.x k
 y:BQ p.y k
instance aw.ix (p:aa) (k:Nat) [h:aw p k]:BQ p.x k:=h.x
instance aw.iy (p:aa) (k:Nat) [h:aw p k]:BQ p.y k:=h.y
instance aw.dir (l:ab) [LB l]:aw l.dir 97:=⟨inferInstanceAs (BQ (l.b:Rat) 97),inferInstanceAs (BQ (-(l.a:Rat)) 97)⟩
instance BQ.dot (p q:aa) (i j:Nat) [aw p i] [aw q j]:BQ (p.dot q) (i+j+(i+j)+1):=inferInstanceAs (BQ (p.x*q.x+p.y*q.y) _)
instance BQ.cross (p q:aa) (i j:Nat) [aw p i] [aw q j]:BQ (p.cross q) (i+j+(i+j)+1):=inferInstanceAs (BQ (p.x*q.y-p.y*q.x) _)
instance aw.mov (p q:aa) (c:Rat) (i j k:Nat) [aw p i] [aw q j] [BQ c k]:aw (aG p q c) (i+(k+j)+1):=⟨inferInstanceAs (BQ (p.x+c*q.x) _),inferInstanceAs (BQ (p.y+c*q.y) _)⟩
instance BQ.value (l:ab) (p:aa) (i:Nat) [LB l] [aw p i]:BQ (l.value p) (96+1+i+(96+1+i)+1+(96+1)+1):=inferInstanceAs (BQ ((l.a:Rat)*p.x+(l.b:Rat)*p.y+(l.c:Rat)) _)
def O7{p q:aa}{i j:Nat}[hp:aw p i][hq:aw q j](hi:i<=200000:=by decide)(hj:j<=200000:=by decide):PF GB prog 57 [eP p,eP q] (eQ (p.cross q)):=by
 refine fn func57 J J ntmps57 J J (fun C=>?_);refine cl J (As (by omega) (by omega)) J<|cl J (As (by omega) (by omega)) J<|cl J (N4 (by omega) (by omega)) J<|?_;exact rz J J
def IK{p q:aa}{c:Rat}{i j k:Nat}[hp:aw p i][hq:aw q j][hc:BQ c k](hi:i<=19000000:=by decide)(hj:j<=9000000:=by decide)(hk:k<=9000000:=by decide):PF GB prog 37 [eP p,eQ c,eP q] (eP (aG p q c)):=by
 refine fn func37 J J ntmps37 J J (fun C=>?_);refine cl J (As (by omega) (by omega)) J<|cl J (BD (by omega) (by omega)) J<|cl J (As (by omega) (by omega)) J<|cl J (BD (by omega) (by omega)) J<|?_;exact rz J J
instance aw.base (l:ab) [LB l]:aw l.base 900:=by
 rw[<-QI];constructor
 ·exact BQ.mono (inferInstance:BQ (-((l.c:Rat)/l.dir.dot l.dir)*(l.a:Rat)) _) (by decide)
 ·exact BQ.mono (inferInstance:BQ (-((l.c:Rat)/l.dir.dot l.dir)*(l.b:Rat)) _) (by decide)
instance BI.crossI (l m:ab) [LB l] [LB m]:BI (crossI l m) 385:=inferInstanceAs (BI (l.a*m.b-m.a*l.b) 385)
instance BI.meetX (l m:ab) [LB l] [LB m]:BI (meetX l m) 385:=inferInstanceAs (BI (l.b*m.c-m.b*l.c) 385)
instance BI.meetY (l m:ab) [LB l] [LB m]:BI (meetY l m) 385:=inferInstanceAs (BI (m.a*l.c-l.a*m.c) 385)
instance aw.imeet (l m:ab) [LB l] [LB m]:aw (jr l m) 772:=by
 unfold jr;split
 ·exact⟨BQ.mono (k:=1) ⟨by decide,by decide⟩ (by decide),BQ.mono (k:=1) ⟨by decide,by decide⟩ (by decide)⟩
 ·exact⟨inferInstanceAs (BQ ((meetX l m:Rat)/(crossI l m:Rat)) 772),inferInstanceAs (BQ ((meetY l m:Rat)/(crossI l m:Rat)) 772)⟩
def qj(l m:ab):Int:=if(l.a-m.a).sign≠0 then(l.a-m.a).sign else if(l.b-m.b).sign≠0 then(l.b-m.b).sign else(l.c-m.c).sign
def Qn(l m:ab):qj l m=0↔l=m:=by
 unfold qj;constructor
 ·intro h
  split at h
  ·contradiction
  ·split at h
   ·contradiction
   ·rename_i h1 h2
    have a1:=jX.1 (Decidable.not_not.1 h1);have a2:=jX.1 (Decidable.not_not.1 h2);have a3:=jX.1 h;exact ab.ext' (by omega) (by omega) (by omega)
 ·rintro rfl
  simp
def Xl(z:Int): -1<=z.sign/\z.sign<=1:=by
 rcases kX z 0 with h|h|h
 ·rw[dV h];omega
 ·rw[h];decide
 ·rw[dT h];omega
instance BQ.i1:BQ (((1:Int):Rat)) 2:=⟨by decide,by decide⟩
def eV(v:aA):DV:= .ag [.v (.bool (decide (v.lo.num<0))),dN v.lo.num.natAbs,dD v.lo.den, .v (.bool (decide (v.hi.num<0))),dN v.hi.num.natAbs,dD v.hi.den, .v (.bool v.nl), .v (.bool v.nh)]
def Bu(v:aA):Rat:=if v.nl=true/\v.nh=true then 0 else if v.nl=true then v.hi-1 else if v.nh=true then v.lo+1 else(v.lo+v.hi)/2
theorem BQ.of_fracI{q:Rat}{n D:Int}{i:Nat}(hd:0<D.natAbs)(h:q*((D.natAbs:Nat):Rat)=(n:Rat))(hn:BI n i)(hD:BI D i):BQ q i:=BQ.of_frac hd h hn.h hD.h
theorem yT{m:Int}{i j:Nat}(h:BI m i)(hij:i<=j):BI m j:=⟨dZ h.h (bQ (by decide) hij)⟩
theorem Xz{l m:ab}[LB l][LB m](hn:l.Ne)(h:crossI l m≠0):BQ (co l (jr l m)) 1200:=by
 have e:=RW hn h;have hA:BI (crossI l m*(l.a*l.a+l.b*l.b)) _:=inferInstance;have hB:BI (meetX l m*l.b-meetY l m*l.a) _:=inferInstance;have hne:crossI l m*(l.a*l.a+l.b*l.b)≠0:=by
  intro q;rcases qU.1 q with q|q
  ·exact h q
  ·have h1:=wP hn
   simp only[ab.dir,aa.dot] at h1;have h2:((l.a*l.a+l.b*l.b:Int):Rat)=((0:Int):Rat):=by rw[q]
   rw[nW,cY,cY] at h2;have h3:((0:Int):Rat)=0:=J;rw[h3] at h2;grind
 have hA':=yT (j:=1200) hA (by decide);have hB':=yT (j:=1200) hB (by decide);generalize crossI l m*(l.a*l.a+l.b*l.b)=D at*;generalize meetX l m*l.b-meetY l m*l.a=M at*;by_cases hD:0<D
 ·refine BQ.of_fracI (n:=M) (D:=D) (by omega) ?_ hB' hA'
  rw[<-e];congr 1;have:((D.natAbs:Nat):Int)=D:=by omega
  rw[<-this];rfl
 ·refine BQ.of_fracI (n:= -M) (D:=D) (by omega) ?_ (BI.neg M 1200 (h:=hB')) hA'
  rw[pZ,<-e];have:((D.natAbs:Nat):Rat)= -(D:Rat):=by
   have h1:((D.natAbs:Nat):Int)= -D:=by omega
   rw[<-pZ,<-h1];rfl
  rw[this];grind
def n9(l:ab):List ab->aA->aA×Bool
 |[],v=>(v,true)
 |m::t,v=>if m=l then n9 l t v else if l.cutB v m=true then n9 l t (l.cutV v m) else(l.cutV v m,false)
def Dk{l:ab}: ∀{c:List ab} {v:aA},(n9 l c v).2=(ik l c v).isSome
 |[],v=>rfl
 |m::t,v=>by
  rw[n9,RP];split
  ·exact Dk
  ·split
   ·exact Dk
   ·rfl
structure Stp (l:ab) (c:List ab) (k:Nat) (v:aA):Prop where
 le:k<=c.length
 p:ik l (c.drop k) v=ik l c aA.all
 e:n9 l (c.drop k) v=n9 l c aA.all
 z:rO v
 lo:BQ v.lo 1200
 hi:BQ v.hi 1200
def aFY(l m:ab)(v:aA):aA:=if 0<(m.dir.cross l.dir).num.sign then NN v (co l (jr l m)) else Tf v (co l (jr l m))
def oo(l:ab):DV:= .ag [vI (dz (l.a:Rat)),vI (du (l.a:Rat)),dl (l.a:Rat),vI (dz (l.b:Rat)),vI (du (l.b:Rat)),dl (l.b:Rat),vI (dz (l.c:Rat)),vI (du (l.c:Rat)),dl (l.c:Rat)]
def eZ(p:aa):DV:= .ag [vI (dz p.x),vI (du p.x),dl p.x,vI (dz p.y),vI (du p.y),dl p.y]
def eW(v:aA):DV:= .ag [vI (dz v.lo),vI (du v.lo),dl v.lo,vI (dz v.hi),vI (du v.hi),dl v.hi, .v (.bool v.nl), .v (.bool v.nh)]
def L':List Int->Int
 |[]=>0
 |a::t=>if a≠0 then a else L' t
theorem aw.nor(l:ab)[LB l]:aw l.nor 97:=⟨inferInstanceAs (BQ (l.a:Rat) 97),inferInstanceAs (BQ (l.b:Rat) 97)⟩
attribute [instance] aw.nor
instance aw.scale (p:aa) (c:Rat) (i k:Nat) [aw p i] [BQ c k]:aw (p.scale c) (i+k):=⟨inferInstanceAs (BQ (p.x*c) _),inferInstanceAs (BQ (p.y*c) _)⟩
instance aw.add (p q:aa) (i j:Nat) [aw p i] [aw q j]:aw (p.add q) (i+j+1):=⟨inferInstanceAs (BQ (p.x+q.x) _),inferInstanceAs (BQ (p.y+q.y) _)⟩
instance LB.revA (l:ab) [h:LB l]:LB l.rev:=⟨⟨by rw[show l.rev.a= -l.a from J,iJ];exact h.bl.a,by rw[show l.rev.b= -l.b from J,iJ];exact h.bl.b,by rw[show l.rev.c= -l.c from J,iJ];exact h.bl.c⟩⟩
def Cx{l:ab}:PF GB prog 198 [oo l] (eZ l.nor):=by
 refine fn func198 J J ntmps198 J J (fun C=>?_);exact rz J J
def AG{l:ab}[hl:LB l]:PF GB prog 138 [oo l] (eZ l.dir):=by
 refine fn func138 J J ntmps138 J J (fun C=>?_);refine cl J (sd (q:=(l.a:Rat))) J<|?_;exact rz J J
def pA{p q:aa}{i j:Nat}[hp:aw p i][hq:aw q j](hi:i<=40000000:=by decide)(hj:j<=40000000:=by decide):PF GB prog 199 [eZ p,eZ q] (eF (p.dot q)):=by
 refine fn func199 J J ntmps199 J J (fun C=>?_);refine cl J (p8 (p:=p.x) (q:=q.x) (by omega) (by omega)) J<|cl J (p8 (p:=p.y) (q:=q.y) (by omega) (by omega)) J<|cl J (wU (p:=p.x*q.x) (q:=p.y*q.y) (by omega) (by omega)) J<|?_;exact rz J J
def LU{p q:aa}{i j:Nat}[hp:aw p i][hq:aw q j](hi:i<=40000000:=by decide)(hj:j<=40000000:=by decide):PF GB prog 193 [eZ p,eZ q] (eF (p.cross q)):=by
 refine fn func193 J J ntmps193 J J (fun C=>?_);refine cl J (p8 (p:=p.x) (q:=q.y) (by omega) (by omega)) J<|cl J (p8 (p:=p.y) (q:=q.x) (by omega) (by omega)) J<|cl J (vp (p:=p.x*q.y) (q:=p.y*q.x) (by omega) (by omega)) J<|?_;exact rz J J
def vA{p:aa}{c:Rat}{i j:Nat}[hp:aw p i][hc:BQ c j](hi:i<=40000000:=by decide)(hj:j<=40000000:=by decide):PF GB prog 147 [eZ p,eF c] (eZ (p.scale c)):=by
 refine fn func147 J J ntmps147 J J (fun C=>?_);refine cl J (p8 (p:=p.x) (q:=c) (by omega) (by omega)) J<|cl J (p8 (p:=p.y) (q:=c) (by omega) (by omega)) J<|?_;exact rz J J
def yG{p q:aa}{i j:Nat}[hp:aw p i][hq:aw q j](hi:i<=40000000:=by decide)(hj:j<=40000000:=by decide):PF GB prog 146 [eZ p,eZ q] (eZ (p.add q)):=by
 refine fn func146 J J ntmps146 J J (fun C=>?_);refine cl J (wU (by omega) (by omega)) J<|cl J (wU (by omega) (by omega)) J<|?_;exact rz J J
def U7{l:ab}[hl:LB l]:PF GB prog 227 [oo l] (eZ l.base):=by
 refine fn func227 J J ntmps227 J J (fun C=>?_);refine cl J Cx J<|cl J (sd (q:=(l.c:Rat))) J<|cl J (pA (p:=l.nor) (q:=l.nor)) J<|cl J (wg (p:= -(l.c:Rat)) (q:=l.nor.dot l.nor)) J<|?_;refine cl J (vA (p:=l.nor)) J<|?_;exact rz J J
def Iv{l:ab}{p:aa}{i:Nat}[hl:LB l][hp:aw p i](hi:i<=10000000:=by decide):PF GB prog 191 [oo l,eZ p] (eF (l.value p)):=by
 refine fn func191 J J ntmps191 J J (fun C=>?_);refine cl J (Cx (l:=l)) J<|cl J (pA (p:=l.nor) (q:=p) (by omega) (by omega)) J<|cl J (wU (p:=l.nor.dot p) (q:=(l.c:Rat)) (by omega) (by omega)) J<|?_;exact rz J J
def CO{l:ab}{p:aa}{i:Nat}[hl:LB l][hp:aw p i](hi:i<=10000000:=by decide):PF GB prog 139 [oo l,eZ p] (vI (l.value p).num.sign):=by
 refine fn func139 J J ntmps139 J J (fun C=>?_);refine cl J (Iv (l:=l) (p:=p) hi) J<|cl J (lz (q:=l.value p) (by omega)) J<|?_;exact rz J J
def Nc{l:ab}{t:Rat}{i:Nat}[hl:LB l][ht:BQ t i](hi:i<=10000000:=by decide):PF GB prog 192 [oo l,eF t] (eZ (l.at t)):=by
 refine fn func192 J J ntmps192 J J (fun C=>?_);refine cl J (U7 (l:=l)) J<|cl J (AG (l:=l)) J<|cl J (vA (p:=l.dir) (c:=t) (by omega) (by omega)) J<|cl J (yG (p:=l.base) (q:=l.dir.scale t) (by omega) (by omega)) J<|?_;exact rz J J
instance aA.meet_lo (v w:aA) (i j:Nat) [h1:BQ v.lo i] [h3:BQ w.lo j]:BQ (v.meet w).lo (i+j):=by
 have a:=h1.mono (oV i j);have b:=h3.mono (Nat.le_add_left j i);unfold aA.meet;dsimp only;(repeat' split)<;>assumption
instance aA.meet_hi (v w:aA) (i j:Nat) [h1:BQ v.hi i] [h3:BQ w.hi j]:BQ (v.meet w).hi (i+j):=by
 have a:=h1.mono (oV i j);have b:=h3.mono (Nat.le_add_left j i);unfold aA.meet;dsimp only;(repeat' split)<;>assumption
instance BQ.cutK (l m:ab) [LB l] [LB m]:BQ (l.cutK m) 400:=BQ.mono (inferInstance:BQ (m.nor.dot l.dir) _) (by decide)
instance BQ.cutC (l m:ab) [LB l] [LB m]:BQ (l.cutC m) 2500:=BQ.mono (inferInstance:BQ (m.value l.base) _) (by decide)
def y4(p q:aa):DV:= .ag [vI (dz p.x),vI (du p.x),dl p.x,vI (dz p.y),vI (du p.y),dl p.y,vI (dz q.x),vI (du q.x),dl q.x,vI (dz q.y),vI (du q.y),dl q.y]
def ul{C:az}{n:Nat}{Q0:Exit->Act->World->Prop}{fr:au}{own:aB}{ops:Array Oper}{r:List Oper}{K:List Kt}(k:Nat){l:List DV}(hl:aF fr k=some (.d (.pt l)))(h:ao prog GB C n Q0 ((k, .ep l)::fr) own (.ops ops r K)):ao prog GB C n Q0 fr own (.ops ops r K):=
 mC hl (fun ρ G y hy=>by
  obtain⟨b,m,rfl,h1,h2⟩:=qP.1 hy;have e:=h2.len;exact⟨b,0,m,m,J,h1,by rw[l6 m 0 l.length (by omega),iS,<-e,fJ],h2⟩) h
def zF{G:Gh}{m:List Value}(h:IsLs G [vI 0,vI 0, .v (.pointer none)] m):IsLs G [vI (dz 0),vI (du 0),dl 0] m:=by
 obtain⟨l,e,k⟩:=e8.1 (uh G (.agg ⟨m⟩) (e8.2 ⟨m,rfl,h⟩))
 cases e;exact k
section
variable {GB:Gh} {C:az} {n:Nat} {Q0:Exit->Act->World->Prop} {fr fr':au} {own own':aB} {cf cf':Cf} {vc:List Prop} {ops:Array Oper} {r:List Oper} {K:List Kt}
def uC(k:Nat){d:DV}(hl:aF fr k=some (.d d))(h: ∀(GB':Gh) (pv:Value),bu GB GB'->Is GB' d pv->ao prog GB' C n Q0 ((k, .d (.v pv))::fr) own (.ops ops r K)):ao prog GB C n Q0 fr own (.ops ops r K):=by
 refine⟨fun ρ G ov a w r0=>?_⟩;obtain⟨y,hy,hy'⟩:=r0.fx k _ hl;refine(h G y r0.gb hy').run ρ G ov a w ⟨bu.refl _,r0.h,r0.sz,r0.df,fun j f e=>?_,r0.bx,r0.dj,r0.fxd⟩;rw[iq] at e;split at e
 ·rename_i hj
  cases e;subst hj
  exact⟨y,hy,(bp (G:=G)).2 J⟩
 ·exact r0.fx j f e
def X9(fr:au)(cf:Cf):Option (FuncId×Value):=match bH fr cf with
 |some ⟨_, .makeFunc (.func f) ⟨[x]⟩ ⟨[]⟩,_,_,_,_⟩=>match aE (bm fr cf) x with
  |some (.d (.v pv))=>some (f,pv)
  |_=>none
 |_=>none
def X3(fr:au)(cf:Cf):Option (FuncId×List Value×List DV):=match bH fr cf with
 |some ⟨_, .call ⟨.value fo,args,_⟩,_,_,_,_⟩=>match aE (bm fr cf) fo,evDs (bm fr cf) args.toList with
  |some (.d (.v (.func (.func f) ⟨c1⟩ ⟨[]⟩))),some ds=>some (f,c1,ds)
  |_,_=>none
 |_=>none
def In:List (Nat×Operand)->Option (List (Nat×Value))
 |[]=>some []
 |(i, .const v)::t=>match In t with
  |some l=>some ((i,v)::l)
  |none=>none
 |_::_=>none
def Yp(cf:Cf)(fr:au):Option (TypeId×List (Nat×Value)):=match bH fr cf with
 |some ⟨_, .build t ⟨ps⟩,_,_,_,_⟩=>match In ps with
  |some vs=>some (t,vs)
  |none=>none
 |_=>none
def Mr(fr:au)(own:aB)(cf:Cf):Option (TypeId×Nat×Nat×List FX×Bool×FX):=match bH fr cf with
 |some ⟨_, .store t x y,_,_,_,_⟩=>match aE (bm fr cf) x with
  |some (.ov nm 0)=>match fI fr own cf nm with
   |some (.o ty cs lo)=>match aE (bm fr cf) y with
    |some fv=>some (t,nm,ty,cs,lo,fv)
    |_=>none
   |_=>none
  |_=>none
 |_=>none
def My[fu:Fu]{t nm ty len e:Nat}{cs:List FX}{lo:Bool}{fv:FX}{j:TypeInfo}(h:Mr fr own cf=some (t,nm,ty,cs,lo,fv))(hu:prog.underlying t=some (.array len e))(hj:prog.info? t=some j)(hc:fv.okc=true/\fv.cells.length=j.size/\j.size=cs.length)
  (hgo:cv tt n fu.n fr own cf .un [(nm,some (.o ty (tM cs 0 fv.cells) lo))] []=⟨vc,fr',own',cf'⟩)(k:ao prog GB C n Q0 fr' own' cf')
  (hv:ah vc:=by first|exact trivial|(simp only[ah];kernel_rfl)|(simp only[ah];omega)):ao prog GB C n Q0 fr own cf:=by
 unfold Mr at h;split at h<;>try (cases h;done)
 rename_i hh;split at h<;>try (cases h;done)
 rename_i e1;split at h<;>try (cases h;done)
 rename_i hb;split at h<;>cases h;rename_i e2;obtain⟨c1,c2,c3⟩:=hc;have:pz prog t j.size:=⟨fun w=>xe hu w,fun w=>rM hj w⟩;refine us hh ?_ hgo hv k;intro hd tl tb K s1 s2 hf hk;refine⟨fun ρ G ov a w r Q=>?_⟩;have r1:=r.mono s1 s2;obtain⟨p,h1,h2⟩:=r1.ev e1;obtain⟨q,h3,h4⟩:=r1.ev e2;obtain⟨b,m,rfl,ha,h5,h6⟩:=r1.own h2 hb;obtain⟨h7,h8⟩:=h4.cells c1;obtain⟨own',u1,u2,u3⟩:=iv.of_mem (cs':=dm m 0 (aI q)) h6;exact Cr h1 h3 u1 (by rw[h7.len,c2]) (by rw[h5.len,c3];omega) (cM.2 h8) hd (fun a' w' rl=>r.wrote (m:=m) (s2 _ _ hb) ha (h5.ov h7) u2 u3 hk rl) a w Q ⟨r.h,r.sz,cP a,r.df⟩
def JZ(fr:au)(cf:Cf):Option Iw:=match bH fr cf with
 |some ⟨some d, .buildSlice t len parts,_,_,_,_⟩=>match cG tt t with
  |some ⟨.sl e s _,_,_,_⟩=>match tf (bm fr cf) 0 parts.toList with
   |some ds=>bif xV s ds&&(Nat.beq parts.toList.length len&&(Nat.ble (len*s) 1000&&Nat.blt 0 (len*s))) then some ⟨d,e,s,ds⟩ else none
   |none=>none
  |_=>none
 |_=>none
def QG[fu:Fu]{d e s:Nat}{ds:List DV}{i:TI}{z:DV}(h:JZ fr cf=some ⟨d,e,s,ds⟩)(hi:eo prog e=some i)(hz:mh i=some z)(hs:Nat.beq z.cells.length s=true)(hgo:cv tt n fu.n fr own cf (.d (.sl ds)) [(d,none)] [d]=⟨vc,fr',own',cf'⟩)(k:ao prog GB C n Q0 fr' own' cf')
  (hv:ah vc:=by first|exact trivial|(simp only[ah];kernel_rfl)|(simp only[ah];omega)):ao prog GB C n Q0 fr own cf:=by
 unfold JZ at h;split at h<;>try (cases h;done)
 rename_i hh;split at h<;>try (cases h;done)
 rename_i hT;split at h<;>try (cases h;done)
 rename_i hr;rw[cond_eq_ite] at h;split at h<;>cases h;rename_i hc;simp only[aM] at hc;have:=jl (d7 _ _ hT) J;exact us hh ((GV hi hz hs hr hc.1 hc.2.1 hc.2.2.1 hc.2.2.2).frzRow J) hgo hv k
def Gl(fr:au)(cf:Cf):Option (TypeId×List DV):=match bH fr cf with
 |some ⟨_, .load t x,_,_,_,_⟩=>match aE (bm fr cf) x with
  |some (.ep l)=>some (t,l)
  |_=>none
 |_=>none
def Sw:TypeDesc->Bool
 | .struct _=>false
 | .array _ _=>false
 |_=>true
def Nb[fu:Fu]{t:TypeId}{d:DV}{l:List DV}{D:TypeDesc}{j:TypeInfo}(h:Gl fr cf=some (t,d::l))(hu:prog.underlying t=some D)(hD:Sw D=true)(hj:prog.info? t=some j)(hs:j.size=1)
  (hgo:cv tt n fu.n fr own cf (.d d) [] []=⟨vc,fr',own',cf'⟩)(k:ao prog GB C n Q0 fr' own' cf')
  (hv:ah vc:=by first|exact trivial|(simp only[ah];kernel_rfl)|(simp only[ah];omega)):ao prog GB C n Q0 fr own cf:=by
 unfold Gl at h;split at h<;>try (cases h;done)
 rename_i hh;split at h<;>cases h;rename_i hx;have:kD prog t:=⟨fun w=>by(rw[xe hu w];cases D<;>first|rfl|(cases hD;done)),fun w=>by rw[rM hj w,hs]⟩;exact us hh (.x1 hx fun ρ G ov a w y _ r h1 h2=>by
  obtain⟨b,o,ms,m,rfl,hb,ht,hm⟩:=h2;obtain⟨l',h3,h4⟩:=hm.get (i:=0) rfl;have:=D9 ht (i:=0) (Nat.succ_pos _);rw[dW] at this;exact⟨l',h4,yy h1 hb (by rw[this];exact h3)⟩) hgo hv k
end
instance BQ.i1':BQ (1:Rat) 2:=⟨by decide,by decide⟩
instance BQ.i2':BQ (2:Rat) 2:=⟨by decide,by decide⟩
instance aw.at (l:ab) (t:Rat) (k:Nat) [LB l] [BQ t k]:aw (l.at t) (900+(k+97)+1):=by
 rw[<-rD];infer_instance
def fG(d:aa):aa:=⟨-d.y,d.x⟩
instance aw.turn (d:aa) (k:Nat) [aw d k]:aw (fG d) k:=⟨inferInstanceAs (BQ (-d.y) k),inferInstanceAs (BQ d.x k)⟩
def xX(p v:aa)(m:ab):Rat:= -(m.value p/(m.value (aG p v ((1:Int):Rat))-m.value p))
def vU(p v:aa)(m:ab)(s:Rat):Rat:=if(m.value (aG p v ((1:Int):Rat))-m.value p).num.sign=0 then s else if(m.value p).num.sign=0 then s else if 0<(xX p v m).num.sign then(if ce (xX p v m/2) s<0 then xX p v m/2 else s) else s
def ta(p v:aa):List ab->Rat->Rat
 |[],s=>s
 |m::t,s=>ta p v t (vU p v m s)
def Dt(c:List ab)(p v:aa):aa:=aG p v (ta p v c ((1:Int):Rat))
def t7(c:List ab):List ab->aa
 |[]=>⟨0,0⟩
 |m::t=>if(n9 m c aA.all).2=true then Dt c (m.at (Bu (n9 m c aA.all).1)) (fG m.dir) else t7 c t
def Yv(l m:ab):Int:=L' [ce l.a m.a,ce l.b m.b,ce l.c m.c]
def IJ{p:aa}{i:Nat}[hp:aw p i](hi:i<=10000000:=by decide):PF GB prog 249 [eZ p] (vI p.half):=by
 refine fn func249 J J ntmps249 J J (fun C=>?_);refine cl J (lz (q:=p.y) (by omega)) J<|?_;refine cs 10 J J J (fun hg10=>?_) (fun hg10=>?_)
 .
  exact rz J (by unfold aa.half;(repeat' split)<;>first|rfl|(exfalso;omega))
 .
  refine cs 13 J J J (fun hg13=>?_) (fun hg13=>?_)
  .
   refine cl J (lz (q:=p.x) (by omega)) J<|?_;refine br J J J (fun hc7=>?_) (fun hc7=>?_)
   .
    exact rz J (by unfold aa.half;(repeat' split)<;>first|rfl|(exfalso;omega))
   .
    refine cs 23 J J J (fun hg23=>?_) (fun hg23=>?_)
    .
     exact rz J (by unfold aa.half;(repeat' split)<;>first|rfl|(exfalso;omega))
    .
     refine cl J (lz (q:=p.x) (by omega)) J<|?_;refine br J J J (fun hc20=>?_) (fun hc20=>?_)
     .
      exact rz J (by unfold aa.half;(repeat' split)<;>first|rfl|(exfalso;omega))
     .
      exact rz J (by unfold aa.half;(repeat' split)<;>first|rfl|(exfalso;omega))
  .
   refine cs 23 J J J (fun hg23=>?_) (fun hg23=>?_)
   .
    exact rz J (by unfold aa.half;(repeat' split)<;>first|rfl|(exfalso;omega))
   .
    refine cl J (lz (q:=p.x) (by omega)) J<|?_;refine br J J J (fun hc20=>?_) (fun hc20=>?_)
    .
     exact rz J (by unfold aa.half;(repeat' split)<;>first|rfl|(exfalso;omega))
    .
     exact rz J (by unfold aa.half;(repeat' split)<;>first|rfl|(exfalso;omega))
def Jh{u v:aa}{i j:Nat}[hp:aw u i][hq:aw v j](hi:i<=10000000:=by decide)(hj:j<=10000000:=by decide):PF GB prog 231 [eZ u,eZ v] (vI (cA u v)):=by
 refine fn func231 J J ntmps231 J J (fun C=>?_);refine cl J (IJ (p:=u) hi) J<|cl J (IJ (p:=v) hj) J<|?_;refine br J J J (fun hc11=>?_) (fun hc11=>?_)
 .
  exact rz J (by unfold cA;rw[if_pos hc11];rfl)
 .
  refine br J J J (fun hc15=>?_) (fun hc15=>?_)
  .
   exact rz J (by unfold cA;rw[if_neg hc11,if_pos hc15];rfl)
  .
   refine cl J (LU (p:=u) (q:=v) (by omega) (by omega)) J<|cl (fu:=⟨0⟩) J (lz (q:=u.cross v) (by omega)) J<|?_;have hs:=qM (u.cross v).num;refine gx J<|?_;exact rz J (by unfold cA;rw[if_neg hc11,if_neg hc15];rfl)
def Ve{m:Int}:dC (dg m.natAbs)/\(decide (m<0)=true->0<(dg m.natAbs).length):=⟨(dP _).2.2,fun h=>by
 have:0<m.natAbs:=by have:=of_decide_eq_true h;omega
 exact wu.2 this⟩
def RU{m:Int}{i:Nat}[h:BI m i](hi:i<=1000000000:=by decide):PF GB prog 242 [eI m] (.v (.bool true)):=(OF (neg:=decide (m<0)) (ds:=dg m.natAbs) (dP _).2.1 (by have:=ku (a:=m.natAbs) hi;omega)).to (by unfold vB;rw[decide_eq_true Ve])
instance BQ.rgcd (p q:Rat) (i j:Nat) [h:BQ p i] [k:BQ q j]:BQ (rgcd p q) (i+j+(i+j)):=by
 unfold Sx.rgcd;refine sV (iY (ly p) (ly q)) ?_ ?_
 ·rw[kY]
  have h1:=m8 h.hn k.hd;have h2:=m8 k.hn h.hd;rw[lK j i] at h2;exact A4 h1 h2
 ·have h1:=m8 h.hd k.hd
  have:2^(i+j)<=2^(i+j+(i+j)):=bQ (by decide) (by omega);omega
def cC(f:aP):DV:= .ag [vI (dz (f.l.a:Rat)),vI (du (f.l.a:Rat)),dl (f.l.a:Rat),vI (dz (f.l.b:Rat)),vI (du (f.l.b:Rat)),dl (f.l.b:Rat),vI (dz (f.l.c:Rat)),vI (du (f.l.c:Rat)),dl (f.l.c:Rat),vI (dz f.v.lo),vI (du f.v.lo),dl f.v.lo,vI (dz f.v.hi),vI (du f.v.hi),dl f.v.hi, .v (.bool f.v.nl), .v (.bool f.v.nh)]
structure UF (v:aA):Prop where
 z:rO v
 lo:BQ v.lo 1200
 hi:BQ v.hi 1200
structure VA (s:aP):Prop where
 lb:LB s.l
 ok:s.l.ok
 v:UF s.v
abbrev Zr (c:bw):Prop:= ∀s∈c,VA s
def XV(o:Option aA):aA:=o.getD ⟨0,0,false,false⟩
def f9{α:Type}{f:α->DV}{l:List α}{i:Nat}{s:α}(h:l[i]? =some s):(l.map f)[(i:Int).toNat]? =some (f s):=by simp[h]
theorem BQ.z1:BQ (0:Rat) 1:=⟨by decide,by decide⟩
instance BQ.sample (v:aA) [h1:BQ v.lo 1200] [h2:BQ v.hi 1200]:BQ v.sample 2500:=by
 unfold aA.sample;split
 ·exact BQ.z1.mono (by decide)
 ·split
  ·exact BQ.mono (inferInstance:BQ (v.hi-((1:Int):Rat)) _) (by decide)
  ·split
   ·exact BQ.mono (inferInstance:BQ (v.lo+((1:Int):Rat)) _) (by decide)
   ·exact BQ.mono (inferInstance:BQ ((v.lo+v.hi)*mkRat 1 2) _) (by decide)

def Zg(c:bw)(l:ab)(i:Nat):Bool:=match c[i]? with
 |some s=>decide (cA s.l.dir l.dir=0)
 |none=>false
def cU:Tr->List DV
 | .leaf b=>[vI 0,vI 0, .v (.pointer none),vI 0,vI 0, .v (.pointer none),vI 0,vI 0, .v (.pointer none), .v (.pointer none), .v (.pointer none), .v (.bool b)]
 | .node l x y=>[vI (dz (l.a:Rat)),vI (du (l.a:Rat)),dl (l.a:Rat),vI (dz (l.b:Rat)),vI (du (l.b:Rat)),dl (l.b:Rat),vI (dz (l.c:Rat)),vI (du (l.c:Rat)),dl (l.c:Rat), .pt (cU x), .pt (cU y), .v (.bool false)]
def eU(t:Tr):DV:= .pt (cU t)
def Tr.compl:Tr->Tr
 | .leaf b=> .leaf !b
 | .node l x y=> .node l x.compl y.compl
def Tr.chooseQ(op:Int)(b:Bool)(t:Tr)(c:bw):Tr:=
 if op=1\/op=2 then(if b=decide (op=1) then .leaf b else t.restrict c)
 else if op=3/\b=false then .leaf false
 else if b then(t.restrict c).compl else t.restrict c
def Tr.mergeQ(op:Int):Tr->Tr->bw->Tr
 | .leaf b,u,c=>u.chooseQ op b c
 | .node l x y,u,c=>if !e7 c l.rev then x.mergeQ op u c else if !e7 c l then y.mergeQ op u c else joinQ l (x.mergeQ op u (gh c l)) (y.mergeQ op u (gh c l.rev))
def UZ:DV:= .ag [vI 0,vI 0, .v (.pointer none),vI 0,vI 0, .v (.pointer none),vI 0,vI 0, .v (.pointer none)]
def ZF:Option ab->DV
 |some l=> .tp [oo l,vB true]
 |none=> .tp [UZ,vB false]
def yx(n:Bool)(ds:List Nat):Prop:=dC ds/\(n=true->0<ds.length)
instance (n:Bool) (ds:List Nat):Decidable (yx n ds):=inferInstanceAs (Decidable (_/\_))
structure RL where
 na:Bool
 da:List Nat
 nb:Bool
 db:List Nat
 nc:Bool
 dc:List Nat
def RL.d(r:RL):DV:= .ag [.v (.bool r.na),fe r.da, .v (.bool r.nb),fe r.db, .v (.bool r.nc),fe r.dc]
def Dw(n:Bool)(ds:List Nat):Int:=if n then-(dv ds:Int) else dv ds
def RL.l(r:RL):ab:=⟨Dw r.na r.da,Dw r.nb r.db,Dw r.nc r.dc⟩
def RL.nm(r:RL):Prop:=yx r.na r.da/\yx r.nb r.db/\yx r.nc r.dc
instance (l:ab):Decidable l.ok:=inferInstanceAs (Decidable (_/\_))
instance (r:RL):Decidable r.nm:=inferInstanceAs (Decidable (_/\_/\_))
def RL.ln(r:RL):Option ab:=if r.nm/\r.l.ok then some r.l else none
structure RL.sm (r:RL):Prop where
 a:bi r.da/\r.da.length<=3
 b:bi r.db/\r.db.length<=3
 c:bi r.dc/\r.dc.length<=3
def aFp(n:Nat)(f:Nat->Bool):List Value:=(List.range n).map fun j=> .bool (f j)
def tD(f:Nat->Bool)(i:Nat):Nat->Bool:=fun j=>f j||Nat.beq j i
structure RN where
 g:RL
 l:Int
 r:Int
def RN.d(n:RN):DV:= .ag [.v (.bool n.g.na),fe n.g.da, .v (.bool n.g.nb),fe n.g.db, .v (.bool n.g.nc),fe n.g.dc, .v (.int .i64 n.l), .v (.int .i64 n.r)]
structure RS where
 f:Nat->Bool
 c:Nat
 b:Bool
inductive RR (ns:List RN):Int->RS->Tr->RS->Prop where
 |leaf (b:Bool) (s:RS):RR ns (zR b) s (.leaf b) s
 |lE (rt:Int) (s:RS) (h1:rt≠ -1) (h2:rt≠ -2) (h:rt<0\/(ns.length:Int)<=rt\/(∃k:Nat,rt=k/\k<ns.length/\s.f k=true)):RR ns rt s (.leaf false) ⟨s.f,s.c,true⟩
 |line (k:Nat) (n:RN) (s:RS) (h:ns[k]? =some n) (hf:s.f k=false) (hl:n.g.ln=none):RR ns (k:Int) s (.leaf false) ⟨tD s.f k,s.c+1,true⟩
 |node (k:Nat) (n:RN) (l:ab) (s s2 s3:RS) (x y:Tr) (h:ns[k]? =some n) (hf:s.f k=false) (hl:n.g.ln=some l) (h1:RR ns n.l ⟨tD s.f k,s.c+1,s.b⟩ x s2) (h2:RR ns n.r s2 y s3):RR ns (k:Int) s (.node l x y) s3
abbrev X7 (x:SV) (ns:List RN) (A:Gh):Prop:= ∃es,er A 8 x es/\IsLs A (ns.map RN.d) es
def Wr:RS:=⟨fun _=>false,0,false⟩
def ZH(ns:List RN)(t:Tr)(s:RS):DV:=if s.b=false/\s.c=ns.length then .tp [eU t,vB true] else .tp [.v (.pointer none),vB false]
def QZ(rt:Int)(ns:List RN):DV:= .ag [vI rt, .sl (ns.map RN.d)]

def Tr.pre:Tr->List Tr
 | .leaf b=>[.leaf b]
 | .node l x y=> .node l x y::(x.pre++y.pre)
structure Vis (f:FuncId) (c2:List Value) (σ:Type) (step:σ->Tr->σ) (ok:σ->Tr->Prop) (Inv:σ->List aq->Gh->Prop):Prop where
 up: ∀{s B G G'},bu G G'->Inv s B G->Inv s B G'
 re: ∀{s B G} (fl:Nat->Bool),Inv s B G->Inv s (B.map (relo fl)) G
 go: ∀{s t p B G},ok s t->Inv s B G->Is G (eU t) (.pointer p)->lP prog f (.pointer p::c2) B G (fun _ B' G'=>Inv (step s t) B' G')
section
variable {P:Program} {C:az} {n:Nat} {fr:Fr} {own:List aq} {G:Gh}
end
def KF{σ:Type}(step:σ->Tr->σ)(ok:σ->Tr->Prop):σ->List Tr->Prop
 |_,[]=>True
 |s,t::ts=>ok s t/\KF step ok (step s t) ts
structure EX (σ:Type) where
 ts:List Tr
 vs:List Value
 rest:List Value
 b:Nat
 cap:Nat
 lo:Bool
 s:σ
 B:List aq
def Sp(t:Tr):Nat:=2*t.size+1
def Lz(ts:List Tr):List Tr:=ts.reverse.flatMap Tr.pre
structure EI (A:Gh) {σ:Type} (step:σ->Tr->σ) (ok:σ->Tr->Prop) (Inv:σ->List aq->Gh->Prop) (N:Nat) (fin:σ) (x:EX σ) (G:Gh):Prop where
 rel:qt (fun v t=> ∃p,v= .pointer p/\Is A (eU t) (.pointer p)) x.vs x.ts
 cap:x.vs.length+x.rest.length=x.cap
 inv:Inv x.s x.B G
 mu:(x.ts.map Sp).sum<=N
 okf:KF step ok x.s (Lz x.ts)
 fin:(Lz x.ts).foldl step x.s=fin
def Z2(nbk:Nat)(s:Nat)(B:List aq)(_:Gh):Prop:= ∃lo,B=[⟨nbk,[.int .i64 s],3,lo⟩]
def Zv(s:Nat):Tr->Nat
 | .leaf _=>s
 | .node .. =>s+1
def YM(n:Nat)(f:Nat->Bool):Nat:=((List.range n).filter fun j=>!f j).length
def Bw(ns:List RN):Nat->Int->RS->Tr×RS
 |0,_,s=>(.leaf false,s)
 |m+1,rt,s=>
  if rt= -1 then(.leaf false,s) else if rt= -2 then(.leaf true,s) else
  match ns[rt.toNat]? with
  |none=>(.leaf false,⟨s.f,s.c,true⟩)
  |some n=>if rt<0\/s.f rt.toNat=true then(.leaf false,⟨s.f,s.c,true⟩) else
   match n.g.ln with
   |none=>(.leaf false,⟨tD s.f rt.toNat,s.c+1,true⟩)
   |some l=>let a:=Bw ns m n.l ⟨tD s.f rt.toNat,s.c+1,s.b⟩;let b:=Bw ns m n.r a.2;(.node l a.1 b.1,b.2)
def Ns(ns:List RN)(rt:Int):Option Tr:=
 let r:=Bw ns (ns.length+1) rt Wr
 if r.2.b=false/\r.2.c=ns.length then some r.1 else none
def ZS:Option Tr->DV
 |some t=> .tp [eU t,vB true]
 |none=> .tp [.v (.pointer none),vB false]
end Go.Sx
end
section
namespace Go.Sx
open Go Go.Proofs Go.RowKit Go.Extern.Stop Go.Stop Go.Extern
def R5(v:Value)(w:World):(Extern.ReflectliteType.typeOf #[.iface 340 v]).run Tryz.prog w= .ok (.iface 174 (.agg #[.pointer (some ⟨Tryz.prog.globals.size,340,none⟩)])) w:=by kernel_rfl
def Fp:TypeId->Sem Value:=fun t=>do Go.Extern.Rtype.noPackHeld "Comparable" t;pure (.bool (<-typeInfo t).comparable)
def U'(w:World):((Extern.ReflectliteType.method Fp) #[.agg #[.pointer (some ⟨Tryz.prog.globals.size,340,none⟩)]]).run Tryz.prog w= .ok (.bool true) w:=by kernel_rfl
def Xm:(Tryz.prog.info? 340).map (·.comparable)=some true:=by kernel_rfl
def Sj:(Tryz.prog.info? 365).map (·.size)=some 1:=by kernel_rfl
def TC(n:Nat)(v:Value)(w:World):(Go.method (n+1) 174 v "Comparable").run Tryz.prog w= .ok (300,v) w:=by
 kernel_rfl
def W8(a:Addr)(w:World):Calls Tryz.prog 20 #[.iface 340 (.pointer (some a)), .iface 340 (.pointer (some a))] w fun e w'=>e= .returned (.bool true)/\w'=w:=by
 obtain⟨i,hi,hcmp⟩:=Option.map_eq_some_iff.1 Xm;obtain⟨j,hj,hjs⟩:=Option.map_eq_some_iff.1 Sj;have h8:= @run_callFunc_extern Tryz.prog 48 _ Extern.ReflectliteType.typeOf Tryz.func48 (by kernel_rfl) (by kernel_rfl) (by kernel_rfl) (by kernel_rfl);have h32:= @run_callFunc_extern Tryz.prog 300 _ (Extern.ReflectliteType.method Fp) Tryz.func300 (by kernel_rfl) (by kernel_rfl) (by kernel_rfl) (by kernel_rfl);have tT:=R5;have cT:=U';obtain⟨g,hg⟩: ∃g,g=Tryz.prog.globals.size:=⟨_,rfl⟩;simp only[<-hg] at tT cT;clear hg;have mR:=TC;have heq:=run_eql_iface_ptr_same (P:=Tryz.prog) w a Tryz.underlying51 Tryz.underlying340 hi hcmp hj
 go_enter Tryz.func20,Tryz.ntmps20
 go_wp2
 refine wp_loop_rounds 1 ?_;rw[rounds_succ]
 go_wp2
 go_ret
 exact⟨J,J⟩
def On:ml Tryz.prog 20:=⟨_,Tryz.func20,by kernel_rfl,by kernel_rfl⟩
def qH(a:Addr):DV:= .v (.iface 340 (.pointer (some a)))
def Vg{GB:Gh}{a:Addr}:PF GB Tryz.prog 20 [qH a,qH a] (.v (.bool true)):=by
 intro G vs _ hv;obtain⟨v1,m,rfl,h1,hm⟩:=cb.1 hv;obtain⟨v2,m,rfl,h2,hm⟩:=cb.1 hm;rw[cF] at hm;subst hm
 cases bp.1 h1;cases bp.1 h2
 exact(Fn.of_calls On (W8 a)).mono fun v G' _ h=>bp.2 h
end Go.Sx
end
section
namespace Go.Sx
open Go Go.Proofs Tryz
structure EG (GB:Gh) (ai al ae:Addr):Prop where
 ErrInvalid:GB 0=some [.iface 340 (.pointer (some ai))]
 ErrLimit:GB 2=some [.iface 340 (.pointer (some al))]
structure Tr.gd (t:Tr):Prop where
 lb:t.all LB
 ok:t.all ab.ok
def KH(op:Int)(a b:Tr):Option Tr:=if 1024<a.depth+b.depth then none else if 65536<(a.mergeQ op b []).size then none else some (a.mergeQ op b [])
def Z3(al:Addr):Option Tr->DV
 |some t=> .tp [eU t, .v .nilIface]
 |none=> .tp [.v (.pointer none),qH al]
def HT(op:Int):Tr->List Tr->Option Tr
 |t,[]=>some t
 |t,u::us=>match KH op t u with
  |none=>none
  |some r=>HT op r us
def Fg:DV:= .ag [vI 0, .sl []]
def Yh:Tr ⊕ Addr->DV
 | .inl t=> .tp [eA t, .v .nilIface]
 | .inr e=> .tp [Fg,qH e]
def Ys(ai:Addr):Option Tr->Tr ⊕ Addr
 |some t=> .inl t.compl
 |none=> .inr ai
def LD(al:Addr):Option Tr->Tr ⊕ Addr
 |some t=> .inl t
 |none=> .inr al
def aD4(ai al:Addr)(op:Int):Option Tr->Option Tr->Tr ⊕ Addr
 |some a,some b=>if 1<=op/\op<=4 then LD al (KH op a b) else .inr ai
 |_,_=> .inr ai
abbrev oD:=Int×List RN
def oD.d(x:oD):DV:=QZ x.1 x.2
def oD.q(x:oD):Option Tr:=Ns x.2 x.1
def Od:Option Tr->DV
 |some t=>eU t
 |none=> .v (.pointer none)
def QK(op:Int)(ts:List oD):Bool:=decide (1<=op/\op<=4)&&ts.all fun x=>x.q.isSome
def Yy(ai al ae:Addr)(op:Int)(ts:List oD):Tr ⊕ Addr:=
 if QK op ts then(match ts.filterMap oD.q with
  |[]=> .inr ae
  |a::us=>if 1024<a.depth then .inr al else LD al (HT op (a.restrict []) us)) else .inr ai
def Z9(ts:List oD):List DV:=ts.map fun x=>Od x.q
structure oD.ok (x:oD):Prop where
 s: ∀n∈x.2,n.g.sm
 n:x.2.length<=65536
def RN.of(n:NQ):RN:=⟨⟨decide (n.l.a<0),dg n.l.a.natAbs,decide (n.l.b<0),dg n.l.b.natAbs,decide (n.l.c<0),dg n.l.c.natAbs⟩,n.a,n.b⟩
def AQ(ns:List NQ):Tr->Int->List Nat->Prop
 | .leaf b,rt,L=>rt=zR b/\L=[]
 | .node l x y,rt,L=> ∃(k:Nat) (a b:Int) (L1 L2:List Nat),rt=(k:Int)/\ns[k]? =some ⟨l,a,b⟩/\AQ ns x a L1/\AQ ns y b L2/\L=k::(L1++L2)
def Zw(ns:List NQ)(t:Tr)(rt:Int):Prop:= ∃L,AQ ns t rt L/\L.Nodup/\L.length=ns.length
def Nd{GB:Gh}{a i:Nat}[ha:BN a i](hi:i<=400000000:=by decide):PF GB prog 94 [dN a] (dN a):=by
 have hl:=eB (dg a);have hb:=mi ha.h;refine fn func94 J J ntmps94 J J (fun C=>?_);refine Eq J J<|ap ((dg a).map dU) J J (tF _) J<|?_;refine n7 5 J ?_;exact rz J J
def NT{GB:Gh}{z:Int}{i:Nat}[hz:BI z i](hi:i<=400000000:=by decide):PF GB prog 93 [eI z] (eI z):=by
 refine fn func93 J J ntmps93 J J (fun C=>?_);refine cl J (Nd (a:=z.natAbs) (i:=i) (ha:=⟨hz.h⟩) hi) J<|?_;exact rz J J
def ZR(r:RL):DV:= .tp [if r.nm then eL r.l else .ag [.v (.bool false), .sl [], .v (.bool false), .sl [], .v (.bool false), .sl []],vB (decide (r.nm/\r.l.ok))]
def smB(n:Int)(ls:List (List Nat)):Bool:=ls.all fun d=>decide ((d.length:Int)<=n)
def RL.smB(n:Int)(r:RL):Bool:=Sx.smB n [r.da,r.db,r.dc]
def ZX(n:Int)(ls:List RL):Bool:=ls.all fun r=>r.smB n
def aGm(cs:List RL):Option (List ab):=if cs.all (fun r=>r.ln.isSome) then some (cs.filterMap RL.ln) else none
def ZD:Option (List ab)->DV
 |some ls=> .tp [.sl (ls.map oo),vB true]
 |none=> .tp [.sl [],vB false]
def Yg:Option bw->DV
 |some c=> .tp [.sl (c.map cC),vB true]
 |none=> .tp [.sl [],vB false]
def ZL(ai al:Addr)(more:Nat):Option Tr->DV
 |none=> .tp [.v (.pointer none),qH ai]
 |some t=>if 1024<t.depth+more then .tp [.v (.pointer none),qH al] else .tp [eU t, .v .nilIface]
def Z0(ai:Addr)(f:Tr->Tr):Option Tr->Tr ⊕ Addr
 |some t=> .inl (f t)
 |none=> .inr ai
def YN(ai ae:Addr):Option Tr->Option (List ab)->Tr ⊕ Addr
 |some t,some ls=>(match oe ls [] with
  |some c=> .inl (t.restrict c)
  |none=> .inr ae)
 |_,_=> .inr ai
def YO(ai:Addr):Option ab->Option Tr->DV
 |some m,some t=> .tp [eA (t.restrict (gh [] m)),eA (t.restrict (gh [] m.rev)), .v .nilIface]
 |_,_=> .tp [Fg,Fg,qH ai]

def Tr.val:Tr->aa->Bool
 | .leaf b,_=>b
 | .node l x y,p=>if 0<l.value p then x.val p else y.val p
def Tr.lns:Tr->List ab
 | .leaf _=>[]
 | .node l x y=>l::(x.lns++y.lns)
def Bi{P:ab->Prop}: ∀{t:Tr},t.all P↔ ∀l∈t.lns,P l
 | .leaf _=>⟨fun _ l hl=>(by cases hl),fun _=>trivial⟩
 | .node l x y=>by
  show(P l/\x.all P/\y.all P)↔ ∀m∈l::(x.lns++y.lns),P m;rw[Bi (t:=x),Bi (t:=y)];constructor
  ·rintro ⟨h0,h1,h2⟩ m hm
   rcases aU.1 hm with rfl|hm
   ·exact h0
   ·rcases bL.1 hm with hm|hm
    ·exact h1 m hm
    ·exact h2 m hm
  ·intro h
   exact⟨h l aQ,fun m hm=>h m (aZ _ (bU _ hm)),fun m hm=>h m (aZ _ (cJ _ hm))⟩
def q6{t:Tr}(h:t.all ab.ok): ∀l∈t.lns,l.ok:=Bi.1 h
def iD(L:List ab)(p:aa):Prop:= ∀l∈L,l.value p≠0
def iD.sub{L M:List ab}{p:aa}(h:iD L p)(k: ∀l∈M,l∈L):iD M p:=fun l hl=>h l (k l hl)
def iD.l{l:ab}{x y:Tr}{p:aa}(h:iD (Tr.node l x y).lns p):l.value p≠0:=h l aQ
def iD.x{l:ab}{x y:Tr}{p:aa}(h:iD (Tr.node l x y).lns p):iD x.lns p:=h.sub fun m hm=>aZ _ (bU _ hm)
def iD.y{l:ab}{x y:Tr}{p:aa}(h:iD (Tr.node l x y).lns p):iD y.lns p:=h.sub fun m hm=>aZ _ (cJ _ hm)
def YA(op:Int)(a b:Bool):Bool:=if op=1 then a||b else if op=2 then a&&b else if op=3 then a&&!b else a !=b
def Tr.val_join(l:ab)(X Y:Tr)(p:aa):(Tr.joinQ l X Y).val p=(Tr.node l X Y).val p:=by
 unfold Tr.joinQ;split
 ·rename_i h
  cases X<;>cases Y<;>simp[Tr.isLeaf,Tr.code] at h
  subst h;simp[Tr.val]
 ·rfl
def Tr.val_pos{l:ab}{x y:Tr}{p:aa}(h:0<l.value p):(Tr.node l x y).val p=x.val p:=by rw[Tr.val,if_pos h]
def Tr.val_neg{l:ab}{x y:Tr}{p:aa}(h: ¬0<l.value p):(Tr.node l x y).val p=y.val p:=by rw[Tr.val,if_neg h]
def WB{c:bw}{l:ab}(hc:ic c)(hl:l.ok)(hb:e7 c l.rev=false){p:aa}(hp:cg c p)(h0:l.value p≠0):0<l.value p:=by
 by_cases h:0<l.value p
 ·exact h
 ·exfalso
  have:e7 c l.rev=true:=(Bb hc hl.rev).2 ⟨p,hp,by rw[my];grind⟩;rw[hb] at this;cases this
def N2{c:bw}{l:ab}(hc:ic c)(hl:l.ok)(hb:e7 c l=false){p:aa}(hp:cg c p): ¬0<l.value p:=fun h=>by
 have:e7 c l=true:=(Bb hc hl).2 ⟨p,hp,h⟩;rw[hb] at this;cases this
def Tr.val_restrict: ∀(t:Tr) (c:bw) (p:aa),t.all ab.ok->ic c->cg c p->iD t.lns p->(t.restrict c).val p=t.val p
 | .leaf _,_,_,_,_,_,_=>rfl
 | .node l x y,c,p,⟨hl,hx,hy⟩,hc,hp,ho=>by
  cases hb:e7 c l.rev with
  |false=>rw[Tr.restrict_A _ _ hb,x.val_restrict c p hx hc hp ho.x,Tr.val_pos (WB hc hl hb hp ho.l)]
  |true=>
   cases hb2:e7 c l with
   |false=>rw[Tr.restrict_B _ _ hb hb2,y.val_restrict c p hy hc hp ho.y,Tr.val_neg (N2 hc hl hb2 hp)]
   |true=>
    rw[Tr.restrict_C _ _ hb hb2,Tr.val_join];obtain⟨g1,i1⟩:=yH hc hl hb2;obtain⟨g2,i2⟩:=yH hc hl.rev hb;by_cases h:0<l.value p
    ·rw[Tr.val_pos h,Tr.val_pos h,x.val_restrict _ p hx g1 ((i1 p).2 ⟨hp,h⟩) ho.x]
    ·rw[Tr.val_neg h,Tr.val_neg h,y.val_restrict _ p hy g2 ((i2 p).2 ⟨hp,by rw[my];have:=ho.l;grind⟩) ho.y]
def Fz: ∀(L:List ab) (u:aa) (p:aa),iD L p-> ∃e:Rat,0<e/\ ∀d,0<=d->d<=e->iD L (aG p u d)
 |[],u,p,_=>⟨1,by decide,fun d _ _ l hl=>by cases hl⟩
 |l::L,u,p,h=>by
  obtain⟨e,he,hm⟩:=Fz L u p (h.sub fun m hm=>aZ _ hm);have h0:=h l aQ;have key: ∃f:Rat,0<f/\ ∀d,0<=d->d<=f->l.value (aG p u d)≠0:=by
   by_cases hk:l.nor.dot u=0
   ·exact⟨1,by decide,fun d _ _=>by rw[io,hk];grind⟩
   ·generalize hA:l.value p=A at*
    generalize hB:l.nor.dot u=B at*;rcases dF A with h|h|h
    ·exact absurd h h0
    ·rcases dF B with k|k|k
     ·exact absurd k hk
     ·exact⟨1,by decide,fun d hd _=>by rw[io,hA,hB];have:=bE hd (bN k);grind⟩
     ·refine⟨A/(-B)/2,?_,fun d hd h2=>?_⟩
      ·have:0<A/(-B):=by
        have e1:A/(-B)*(-B)=A:=by grind
        exact(eO (k:= -B) (by grind)).1 (by rw[e1];exact h)
       grind
      ·rw[io,hA,hB]
       have e1:A/(-B)*(-B)=A:=by grind
       generalize A/(-B)=q at*;have h4:=bE (a:=q/2-d) (b:= -B) (by grind) (by grind);grind
    ·rcases dF B with k|k|k
     ·exact absurd k hk
     ·refine⟨(-A)/B/2,?_,fun d hd h2=>?_⟩
      ·have:0<(-A)/B:=by
        have e1:(-A)/B*B= -A:=by grind
        exact(eO (k:=B) k).1 (by rw[e1];grind)
       grind
      ·rw[io,hA,hB]
       have e1:(-A)/B*B= -A:=by grind
       generalize (-A)/B=q at*;have h4:=bE (a:=q/2-d) (b:=B) (by grind) (by grind);grind
     ·exact⟨1,by decide,fun d hd _=>by rw[io,hA,hB];have:=bE hd (b:= -B) (by grind);grind⟩
  obtain⟨f,hf,hk⟩:=key;refine⟨if e<=f then e else f,by split<;>assumption,fun d hd hde m hm'=>?_⟩;have h1:d<=e/\d<=f:=by split at hde<;>grind
  rcases aU.1 hm' with rfl|hm'
  ·exact hk d hd h1.2
  ·exact hm d hd h1.1 m hm'
def Kb{c:bw}{p:aa}(hp:cg c p): ∀(L:List ab),(∀l∈L,l.ok)-> ∃q,cg c q/\iD L q
 |[],_=>⟨p,hp,fun l hl=>by cases hl⟩
 |l::L,h=>by
  obtain⟨q,hq,ho⟩:=Kb hp L fun m hm=>h m (aZ _ hm);by_cases h0:l.value q=0
  ·have hn:=qk (h l aQ).ne
   obtain⟨e,he,hm⟩:=hq.open l.nor;obtain⟨f,hf,hk⟩:=Fz L l.nor q ho;refine⟨aG q l.nor (if e<=f then e else f),hm _ (by split<;>grind) (by split<;>grind),fun m hm'=>?_⟩;rcases aU.1 hm' with rfl|hm'
   ·rw[io,h0]
    have:=bj (a:=if e<=f then e else f) (b:=m.nor.dot m.nor) (by split<;>assumption) hn;grind
   ·exact hk _ (by split<;>grind) (by split<;>grind) m hm'
  ·exact⟨q,hq,fun m hm=>by rcases aU.1 hm with rfl|hm;exact h0;exact ho m hm⟩
def Tr.Red:Tr->bw->Prop
 | .leaf _,_=>True
 | .node l x y,c=>e7 c l=true/\e7 c l.rev=true/\x.Red (gh c l)/\y.Red (gh c l.rev)/\ ¬(x.isLeaf=true/\y.isLeaf=true/\x.code=y.code)
def ab.same(l m:ab):Prop:=m=l\/m=l.rev
instance (l m:ab):Decidable (l.same m):=inferInstanceAs (Decidable (_\/_))
def Tr.cnt(l:ab):Tr->Nat
 | .leaf _=>0
 | .node m x y=>(if l.same m then 1 else 0)+(x.cnt l+y.cnt l)
def Sf{l m:ab}(h:l.same m){p:aa}(hp:l.value p=0):m.value p=0:=by
 rcases h with rfl|rfl
 ·exact hp
 ·rw[my,hp];rfl
def Y4(l:ab)(c:bw):Prop:= ∃p,cg c p/\l.value p=0
def Yc(c:bw)(p:aa):Bool:=c.all fun s=>decide (0<s.l.value p)
def aEo(P:List aa)(l:ab)(t:Tr):Prop:=t.all fun m=>l.same m\/ ∀p,l.value p=0->m.value p=0->p∈P
def GF(l:ab):l.rev.rev=l:=by cases l;simp[ab.rev]
def ab.same.symm{l m:ab}(h:l.same m):m.same l:=by
 rcases h with rfl|rfl
 ·exact .inl J
 ·exact .inr (GF l).symm
def ab.same.trans{l m n:ab}(h:l.same m)(k:m.same n):l.same n:=by
 rcases h with rfl|rfl
 ·exact k
 ·rcases k with rfl|rfl
  ·exact .inr J
  ·exact .inl (GF l)
def P3(K:List ab)(t:Tr):Prop:=t.all fun n=> ∃m∈K,m.same n
def YE(l m:ab):aa:=l.at (-(l.cutC m/l.cutK m))
def Kc(t:Tr):List ab->Nat
 |[]=>0
 |l::K=>t.cnt l+Kc t K
def Ks(n:ab):List ab->Nat
 |[]=>0
 |l::K=>(if l.same n then 1 else 0)+Ks n K
def Tr.chooseL(op:Int)(b:Bool)(t:Tr)(c:List ab):Tr:=
 if op=1/\b=true then .leaf true
 else if(op=2\/op=3)/\b=false then .leaf false
 else if(op=3\/op=4)/\b=true then(t.restrictL c).compl else t.restrictL c
def Tr.mergeL(op:Int):Tr->Tr->List ab->Tr
 | .leaf b,u,c=>u.chooseL op b c
 | .node l x y,u,c=>if Ak c l=1 then x.mergeL op u c else if Ak c l= -1 then y.mergeL op u c else joinQ l (x.mergeL op u (p9 (c++[l]))) (y.mergeL op u (p9 (c++[l.rev])))
structure Z' (L:List ab) (a b:Tr):Prop where
 oa:a.all ab.ok
 ob:b.all ab.ok
 ok: ∀l∈L,l.ok
 la: ∀l∈a.lns,l∈L
 lb: ∀l∈b.lns,l∈L
def mH(x:Rat):List Rat->List Rat
 |[]=>[x]
 |u::t=>if u<x then u::mH x t else if u=x then u::t else x::u::t
def Dz(l:List Rat):List Rat:=l.foldl (fun out x=>mH x out) []
def nF:List Rat->List Rat
 |a::b::t=>(a+b)/2::nF (b::t)
 |_=>[]
def lx:List Rat->List Rat
 |[]=>[0]
 |a::t=>(a-1)::(nF (a::t)++[(a::t).getLast (by simp)+1])
def sJ{x y:Rat}: ∀{l:List Rat},y∈mH x l↔y=x\/y∈l
 |[]=>by simp[mH]
 |u::t=>by
  rw[mH];split
  ·rw[aU,sJ (l:=t),aU];grind
  ·split
   ·rename_i h;subst h;simp
   ·simp
def w8{x:Rat}: ∀{l:List Rat},l.Pairwise (· < ·)->(mH x l).Pairwise (· < ·)
 |[],_=>by simp[mH]
 |u::t,h=>by
  rw[bM] at h;rw[mH];split
  ·rename_i hu
   rw[bM];refine⟨fun y hy=>?_,w8 h.2⟩;rcases sJ.1 hy with rfl|hy
   ·exact hu
   ·exact h.1 y hy
  ·rename_i hu
   split
   ·rw[bM];exact h
   ·rename_i hn
    have hx:x<u:=by grind
    rw[bM,bM];refine⟨fun y hy=>?_,h⟩;rcases aU.1 hy with rfl|hy
    ·exact hx
    ·have:=h.1 y hy;grind
def Ng: ∀{l:List Rat} (h:l.Pairwise (· < ·)) (hn:l≠[]),∀y∈l,y<=l.getLast hn
 |[a],_,_,y,hy=>by rw[aV] at hy;subst hy;exact dJ
 |a::b::t,h,_,y,hy=>by
  rw[bM] at h;rw[List.getLast_cons (by simp)];have ih:=Ng h.2 (by simp);rcases aU.1 hy with rfl|hy
  ·have:=h.1 b aQ
   have:=ih b aQ;grind
  ·exact ih y hy
def JE:List ab->List Rat
 |[]=>[]
 |a::t=>(if a.b=0 then [a.base.x] else [])++(t.filterMap (fun b=>if crossI a b=0 then none else some (jr a b).x)++JE t)
def yA(a:ab)(x:Rat):Rat:= -(((a.a:Rat)*x+(a.c:Rat))/(a.b:Rat))
def Fx(l:List ab)(x:Rat):List Rat:=l.filterMap fun a=>if a.b=0 then none else some (yA a x)
def Jm(l:List ab):List aa:=(lx (Dz (JE l))).flatMap fun x=>(lx (Dz (Fx l x))).map fun y=>⟨x,y⟩
def YL(l:ab)(p:aa):ab:=if 0<l.value p then l else l.rev
end Go.Sx
end
