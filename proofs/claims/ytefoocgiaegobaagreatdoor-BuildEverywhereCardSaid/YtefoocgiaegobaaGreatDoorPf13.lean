import Derived.Test.YtefoocgiaegobaaGreatDoorPf12
import Derived.RecoverIn
set_option linter.all false
set_option maxHeartbeats 1000000
set_option maxRecDepth 100000
section
namespace Go.Sx
open Go Go.Proofs Tryz
variable {GB:Gh}
def N3{m:Int}{g:Nat}(hg:(g:Int)∣m)(hb:m.natAbs<4611686018427387904):IntKind.i64.wrap (m.tdiv g)=m/g:=by
 rw[Int.tdiv_eq_ediv_of_dvd hg];have:=nY m g;exact XS (by omega)
def tm(a b:Int):Int:=if(a*b).natAbs<4611686018427387904 then a*b else 0
def Hm(a b:Int):(tm a b).natAbs<4611686018427387904:=by unfold tm;split<;>omega
def zL{a b:Int}(h:(a*b).natAbs<4611686018427387904):tm a b=a*b:=if_pos h
def Q5{a b:Int}(h: ¬(a*b).natAbs<4611686018427387904):DV.tp [vI 0, .v (.bool false)]= .tp [vI (tm a b),vB (decide ((a*b).natAbs<4611686018427387904))]:=by unfold tm;rw[if_neg h,decide_eq_false h];rfl
def N7{a b:Int}{x:Int}(h:(a*b).natAbs<4611686018427387904)(e:x=a*b):DV.tp [vI x, .v (.bool true)]= .tp [vI (tm a b),vB (decide ((a*b).natAbs<4611686018427387904))]:=by unfold tm;rw[if_pos h,decide_eq_true h,e];rfl
def I3(n:Nat):eI (n:Int)= .ag [.v (.bool false),dN n]:=by unfold eI;rw[decide_eq_false (by omega),jM]
def aDh{p q:Rat}(hp:p.den=1)(hq:q.den=1):rgcd p q=((Nat.gcd p.num.natAbs q.num.natAbs:Nat):Int):=by
 conv=>lhs;rw[Cv hp,Cv hq]
 exact ww _ _
def Wj(q:Rat):mkRat (zv (decide (q.num<0)) q.den) q.num.natAbs=q⁻¹:=by
 rw[Rat.inv_def];by_cases h:q.num<0
 ·rw[decide_eq_true h];exact amr h
 ·rw[decide_eq_false h,<-Rat.divInt_ofNat,nL (by omega)];rfl
instance BQ.inv (q:Rat) (i:Nat) [h:BQ q i]:BQ q⁻¹ i:=by
 have h1:=h.hn;have h2:=h.hd;have h3:=q.den_nz;rcases nM q.num 0 with k|k|k
 ·obtain⟨e1,e2⟩:=Nn k;exact⟨by omega,by omega⟩
 ·have e:q=0:=mW.1 k
  have e0:(0:Rat)⁻¹=0:=Rat.inv_zero;rw[e] at h1 h2⊢;rw[e0];exact⟨h1,h2⟩
 ·obtain⟨e1,e2⟩:=L7 k;exact⟨by omega,by omega⟩
instance BQ.half:BQ (mkRat 1 2) 2:=⟨by decide,by decide⟩
def Uz{x y:Nat}(hx:x<18446744073709551616)(hy:y<18446744073709551616):PF GB prog 359 [.v (.int .u64 (x:Nat)), .v (.int .u64 (y:Nat))] (.tp [.v (.int .u64 ((x*y/18446744073709551616:Nat):Int)), .v (.int .u64 ((x*y%18446744073709551616:Nat):Int))]):=fun G vs _ hv=>by
 obtain⟨v,m,rfl,h1,h2⟩:=ba.1 hv;obtain⟨u,m',rfl,h3,h4⟩:=ba.1 h2
 cases cD.1 h4
 rw[aG.1 h1,aG.1 h3];exact(W5 hx hy).mono fun v G' _ h=>by subst h;exact js.2 ⟨_,J, .cons (aG.2 J) (.cons (aG.2 J) .nil)⟩
def Nj{a b:Nat}(ha:a<18446744073709551616)(hb:b<18446744073709551616):PF GB prog 349 [.v (.int .u64 (a:Nat)), .v (.int .u64 (b:Nat))] (.v (.int .u64 (Nat.gcd a b:Nat))):=by
 refine fn func349 J J ntmps349 J J (fun C=>?_);refine lp (X:=Nat×Nat) (fun⟨u,v⟩=>[(1, .d (.v (.int .u64 (v:Nat)))),(0, .d (.v (.int .u64 (u:Nat))))]) (fun⟨u,v⟩=>[]) (fun⟨u,v⟩=>u<18446744073709551616/\v<18446744073709551616/\Nat.gcd u v=Nat.gcd a b) (fun⟨u,v⟩=>v) (a,b) J ⟨ha,hb,J⟩ (fun _=>J) (fun⟨u,v⟩ hk=>?_);dsimp only at hk⊢;obtain⟨h1,h2,h3⟩:=hk;refine br (v1:=fun hc6=>by simp only[ah];exact⟨by omega,by kernel_rfl⟩) J J J (fun hc6=>?_) (fun hc6=>?_)
 .
  have hm:=dZ u (show 0<v by omega);exact at_ (v,u%v) (by dsimp only;exact⟨⟨h2,by omega,by rw[<-h3,iN u v,tJ v u,iN]⟩,hm⟩)
 .
  exact rz J (by rw[<-h3,show v=0 by omega,nZ];rfl)
def qt{m:Int}(h:m.natAbs<9223372036854775808):PF GB prog 199 [vI m] (eF (m:Rat)):=by
 refine fn func199 J J ntmps199 J J (fun C=>?_);refine cs 5 J J J (fun hg5=>?_) (fun hg5=>?_)
 .
  refine cl J (E1 (m:=m) (by omega) (by omega)) J<|rf (fu:=⟨0⟩) J J<|?_;refine ao 11 (.d (dN 1)) J (by unfold dN;rw[AP];rfl) ?_;refine gx J<|cl J (tF (n:=decide (m<0)) (a:=m.natAbs) (i:=63) (h:=⟨h⟩) (d:=1)) J<|?_;exact rz J (by rw[l5,show mkRat m 1=(m:Rat) from sW ..];rfl)
 .
  refine br J J J (fun hc8=>?_) (fun hc8=>?_)
  .
   refine cl J (E1 (m:=m) (by omega) (by omega)) J<|rf (fu:=⟨0⟩) J J<|?_;refine ao 11 (.d (dN 1)) J (by unfold dN;rw[AP];rfl) ?_;refine gx J<|cl J (tF (n:=decide (m<0)) (a:=m.natAbs) (i:=63) (h:=⟨h⟩) (d:=1)) J<|?_;exact rz J (by rw[l5,show mkRat m 1=(m:Rat) from sW ..];rfl)
  .
   exact i4 J (Rz (by omega))
def yR{a b:Int}(ha:a.natAbs<4611686018427387904)(hb:b.natAbs<4611686018427387904):PF GB prog 299 [vI a,vI b] (.tp [vI (tm a b),vB (decide ((a*b).natAbs<4611686018427387904))]):=by
 have hab:=jV a b;refine fn func299 J J ntmps299 J J (fun C=>?_);refine cl J (zY (m:=a) (by omega)) J<|cl J (zY (m:=b) (by omega)) J<|cl J (Uz (x:=a.natAbs) (y:=b.natAbs) (by omega) (by omega)) J<|?_;refine cs 18 J J J (fun hg18=>?_) (fun hg18=>?_)
 .
  exact rz J (Q5 (by omega))
 .
  refine br J J J (fun hc21=>?_) (fun hc21=>?_)
  .
   exact rz J (Q5 (by omega))
  .
   refine bb J J J (fun hc26=>?_) (fun hc26=>?_)
   .
    have hs:=Ob a b;rw[if_neg (by simpa using hc26)] at hs;exact rz J (N7 (by omega) (by rw[hs,<-hab];omega))
   .
    have hs:=Ob a b;rw[if_pos (by simpa using hc26)] at hs;exact rz J (N7 (by omega) (by rw[hs,<-hab];omega))
def Mk{m:Int}{d:Nat}(h:m.natAbs<4611686018427387904)(h0:0<d)(hd:d<4611686018427387904):PF GB prog 300 [vI m,vI (d:Nat)] (eF (mkRat m d)):=by
 have hg:Nat.gcd m.natAbs d<=d:=Nat.gcd_le_right _ h0;have hg0:0<Nat.gcd m.natAbs d:=oX _ h0;obtain⟨e1,e2⟩:=Jm (m:=m) h0;have e3:=nY m (Nat.gcd m.natAbs d:Nat);have e4:=kW d (Nat.gcd m.natAbs d);have e5:=Nat.div_pos hg hg0;refine fn func300 J J ntmps300 J J (fun C=>?_);refine cl J (zY (m:=m) (by omega)) J<|cl J (Nj (a:=m.natAbs) (b:=d) (by omega) (by omega)) J<|?_;refine br (fu1:=⟨4⟩) J J J (fun hc13=>?_) (fun hc13=>?_)
 .
  refine ao 16 (.d (vI (m/(Nat.gcd m.natAbs d:Nat)))) J (by rw[N3 (Int.dvd_natAbs.1 (rJ.2 (kZ _ _))) h];rfl) ?_;refine gx (fu:=⟨3⟩) J<|?_;refine ao 19 (.d (vI ((d/Nat.gcd m.natAbs d:Nat)))) J (by rw[N3 (rJ.2 (lK _ _)) (by rw[jM];exact hd)];rfl) ?_;refine gx (hv:=by simp only[ah];exact⟨by kernel_rfl,by omega⟩) J<|?_;exact i4 J (te (fun k=>k ⟨by rw[e1];omega,by rw[e2];omega⟩) e1 (by rw[e2]) J)
 .
  exact i4 J (by have h1:Nat.gcd m.natAbs d=1:=(by omega);rw[h1,tK] at e2;rw[h1,Int.natCast_one,Int.ediv_one] at e1;exact te (fun k=>k ⟨by rw[e1];omega,by rw[e2];omega⟩) e1 (by rw[e2]) J)
def sk{p q:Rat}{i j:Nat}[h:BQ p i][k:BQ q j](hi:i<=100000000:=by decide)(hj:j<=100000000:=by decide):PF GB prog 207 [eF p,eF q] (eF (p*q)):=by
 refine fn (fu:=⟨8⟩) func207 J J ntmps207 J J (fun C=>?_);refine mg (X:=Unit) (fun _=>[(2, .ov 2 0),(3, .ov 3 0),(4, .ov 4 0)]) (fun _=>[(2,some (.o 139 [.d (vI (dx p)), .d (vI (dB p)), .d (c9 p)] true)),(3,some (.o 139 [.d (vI (dx q)), .d (vI (dB q)), .d (c9 q)] true)),(4,some (.o 139 [.d (.v (.int .i64 0)), .d (.v (.int .i64 0)), .d (.v (.pointer none))] true))]) (fun _=>True) [2,3,4] [2,3,4] rfl ?_ (fun _=>J) (fun _ _=>?_)
 .
  refine gx J<|?_;refine cs 12 J J J (fun hg12=>?_) (fun hg12=>?_)
  .
   refine br (fu1:=⟨4⟩) J J J (fun hc16=>?_) (fun hc16=>?_)
   .
    have hp:=tw hg12;have hq:=tw hc16;have p1:=nn hp;have p2:=pf hp;have p3:=pD hp;have p4:=qc hp;have p5:=p.den_nz;have q1:=nn hq;have q2:=pf hq;have q3:=pD hq;have q4:=qc hq;have q5:=q.den_nz;refine ao 19 (.d (vI p.num)) J (by rw[p1]) ?_;refine gx (fu:=⟨2⟩) J<|?_;refine ao 21 (.d (vI q.num)) J (by rw[q1]) ?_;refine gx J<|cl (fu:=⟨12⟩) J (yR (a:=p.num) (b:=q.num) (by omega) (by omega)) J<|?_;refine ao 28 (.d (vI (p.den:Nat))) J (by congr 3;omega) ?_;refine gx (fu:=⟨3⟩) J<|?_;refine ao 31 (.d (vI (q.den:Nat))) J (by congr 3;omega) ?_;refine gx J<|cl J (yR (a:=(p.den:Nat)) (b:=(q.den:Nat)) (by omega) (by omega)) J<|?_;refine csd 36 J J J (fun hg36=>?_) (fun hg36=>?_)
    .
     refine bd (fu1:=⟨3⟩) J J J (fun hc38=>?_) (fun hc38=>?_)
     .
      have hd1:p.den*q.den<4611686018427387904:=by omega
      refine ao 39 (.d (vI (p.num*q.num))) J (by rw[zL hg36]) ?_;refine gx (fu:=⟨1⟩) J<|?_;refine ao 40 (.d (vI ((p.den*q.den:Nat)))) J (by rw[zL hc38];rfl) ?_;refine gx J<|cl J (Mk (m:=p.num*q.num) (d:=p.den*q.den) hg36 (jU (by omega) (by omega)) hd1) J<|?_;exact rz J (by rw[<-zb];rfl)
     .
      exact at_ () trivial
    .
     exact at_ () trivial
   .
    exact at_ () trivial
  .
   exact at_ () trivial
 .
  refine cl J (tg (q:=p) (by omega)) J<|cl J (tg (q:=q) (by omega)) J<|cl J (HE (a:=p.num) (b:=q.num) (by omega) (by omega)) J<|?_;refine cl J (qO (q:=p) (by omega)) J<|cl J (qO (q:=q) (by omega)) J<|cl J (yG (a:=p.den) (b:=q.den) (by omega) (by omega)) J<|?_;refine cl J (tF (n:=decide (p.num*q.num<0)) (a:=(p.num*q.num).natAbs) (d:=p.den*q.den) (i:=i+j) (j:=i+j) (by omega) (by omega)) J<|?_;exact rz J (by rw[l5,<-zb];rfl)
def sG{p q:Rat}{i j:Nat}[h:BQ p i][k:BQ q j](hi:i<=100000000:=by decide)(hj:j<=100000000:=by decide):PF GB prog 208 [eF p,eF q] (eF (p+q)):=by
 refine fn (fu:=⟨8⟩) func208 J J ntmps208 J J (fun C=>?_);refine mg (X:=Unit) (fun _=>[(2, .ov 2 0),(3, .ov 3 0),(4, .ov 4 0)]) (fun _=>[(2,some (.o 139 [.d (vI (dx p)), .d (vI (dB p)), .d (c9 p)] true)),(3,some (.o 139 [.d (vI (dx q)), .d (vI (dB q)), .d (c9 q)] true)),(4,some (.o 139 [.d (.v (.int .i64 0)), .d (.v (.int .i64 0)), .d (.v (.pointer none))] true))]) (fun _=>True) [2,3,4] [2,3,4] rfl ?_ (fun _=>J) (fun _ _=>?_)
 .
  refine gx J<|?_;refine cs 16 J J J (fun hg16=>?_) (fun hg16=>?_)
  .
   refine br (fu1:=⟨1⟩) J J J (fun hc20=>?_) (fun hc20=>?_)
   .
    have hp:=tw hg16;have hq:=tw hc20;have p1:=nn hp;have p2:=pf hp;have p3:=pD hp;have p4:=qc hp;have p5:=p.den_nz;have q1:=nn hq;have q2:=pf hq;have q3:=pD hq;have q4:=qc hq;have q5:=q.den_nz;refine mg (fu:=⟨4⟩) (X:=Unit) (fun _=>[(2, .ov 2 0),(3, .ov 3 0),(4, .ov 4 0)]) (fun _=>[(2,some (.o 139 [.d (vI (dx p)), .d (vI (dB p)), .d (c9 p)] true)),(3,some (.o 139 [.d (vI (dx q)), .d (vI (dB q)), .d (c9 q)] true)),(4,some (.o 139 [.d (.v (.int .i64 0)), .d (.v (.int .i64 0)), .d (.v (.pointer none))] true))]) (fun _=>True) [2,3,4] [2,3,4] rfl ?_ (fun _=>J) (fun _ _=>?_)
    .
     refine gx J<|?_;refine cs 24 J J J (fun hg24=>?_) (fun hg24=>?_)
     .
      refine br (fu1:=⟨4⟩) J J J (fun hc28=>?_) (fun hc28=>?_)
      .
       refine ao 30 (.d (vI p.num)) J (by rw[p1]) ?_;refine gx (fu:=⟨2⟩) J<|?_;refine ao 32 (.d (vI q.num)) J (by rw[q1]) ?_;refine gx J<|cl J (qt (m:=p.num+q.num) (by omega)) J<|?_;exact rz J (by rw[Cv (q:=p) (by omega),Cv (q:=q) (by omega),<-pQ];rfl)
      .
       exact at_ () trivial
     .
      exact at_ () trivial
    .
     refine ao 37 (.d (vI p.num)) J (by rw[p1]) ?_;refine gx (fu:=⟨3⟩) J<|?_;refine ao 40 (.d (vI (q.den:Nat))) J (by congr 3;omega) ?_;refine gx J<|cl (fu:=⟨11⟩) J (yR (a:=p.num) (b:=(q.den:Nat)) (by omega) (by omega)) J<|?_;refine ao 46 (.d (vI q.num)) J (by rw[q1]) ?_;refine gx (fu:=⟨3⟩) J<|?_;refine ao 49 (.d (vI (p.den:Nat))) J (by congr 3;omega) ?_;refine gx J<|cl (fu:=⟨12⟩) J (yR (a:=q.num) (b:=(p.den:Nat)) (by omega) (by omega)) J<|?_;refine ao 56 (.d (vI (p.den:Nat))) J (by congr 3;omega) ?_;refine gx (fu:=⟨3⟩) J<|?_;refine ao 59 (.d (vI (q.den:Nat))) J (by congr 3;omega) ?_;refine gx J<|cl (fu:=⟨3⟩) J (yR (a:=(p.den:Nat)) (b:=(q.den:Nat)) (by omega) (by omega)) J<|?_;have t1:=Hm p.num (q.den:Nat);have t2:=Hm q.num (p.den:Nat);have t3:=Hm (p.den:Nat) (q.den:Nat);refine gx J<|?_;refine csd 67 J J J (fun hg67=>?_) (fun hg67=>?_)
     .
      refine csd 70 J J J (fun hg70=>?_) (fun hg70=>?_)
      .
       refine csd 73 J J J (fun hg73=>?_) (fun hg73=>?_)
       .
        refine cs 77 J J J (fun hg77=>?_) (fun hg77=>?_)
        .
         refine br (fu1:=⟨3⟩) J J J (fun hc80=>?_) (fun hc80=>?_)
         .
          have u1:=zL hg67;have u2:=zL hg70;have u3:=zL hg73;have hd1:p.den*q.den<4611686018427387904:=by omega
          refine ao 81 (.d (vI (p.num*(q.den:Nat)+q.num*(p.den:Nat)))) J (by rw[u1,u2];rfl) ?_;refine gx (fu:=⟨1⟩) J<|?_;refine ao 82 (.d (vI ((p.den*q.den:Nat)))) J (by rw[u3];rfl) ?_;refine gx J<|cl J (Mk (m:=p.num*(q.den:Nat)+q.num*(p.den:Nat)) (d:=p.den*q.den) (by omega) (jU (by omega) (by omega)) hd1) J<|?_;exact rz J (by rw[<-y6];rfl)
         .
          exact at_ () trivial
        .
         exact at_ () trivial
       .
        exact at_ () trivial
      .
       exact at_ () trivial
     .
      exact at_ () trivial
   .
    exact at_ () trivial
  .
   exact at_ () trivial
 .
  refine cl J (tg (q:=p) (by omega)) J<|cl (fu:=⟨1⟩) J (qO (q:=q) (by omega)) J<|?_;refine ao 88 (.d (eI (q.den:Nat))) J (by rw[I3]) ?_;refine gx J<|cl J (HE (a:=p.num) (b:=(q.den:Nat)) (by omega) (by omega)) J<|cl J (tg (q:=q) (by omega)) J<|cl (fu:=⟨1⟩) J (qO (q:=p) (by omega)) J<|?_;refine ao 94 (.d (eI (p.den:Nat))) J (by rw[I3]) ?_;refine gx J<|cl J (HE (a:=q.num) (b:=(p.den:Nat)) (by omega) (by omega)) J<|cl J (Xr (a:=p.num*(q.den:Nat)) (b:=q.num*(p.den:Nat)) (i:=i+j) (j:=j+i) (by omega) (by omega)) J<|?_;refine cl J (qO (q:=p) (by omega)) J<|cl J (qO (q:=q) (by omega)) J<|cl J (yG (a:=p.den) (b:=q.den) (by omega) (by omega)) J<|?_;refine cl J (tF (n:=decide (p.num*(q.den:Nat)+q.num*(p.den:Nat)<0)) (a:=(p.num*(q.den:Nat)+q.num*(p.den:Nat)).natAbs) (d:=p.den*q.den) (i:=i+j+(j+i)+1) (j:=i+j) (by omega) (by omega)) J<|?_;exact rz J (by rw[l5,<-y6];rfl)
def uB{p q:Rat}{i j:Nat}[h:BQ p i][k:BQ q j](hi:i<=100000000:=by decide)(hj:j<=100000000:=by decide):PF GB prog 334 [eF p,eF q] (eF (p-q)):=by
 refine fn func334 J J ntmps334 J J (fun C=>?_);refine cl J (n8 (q:=q) (by omega)) J<|cl J (sG (p:=p) (q:= -q) (by omega) (by omega)) J<|?_;exact rz J (by rw[<-Rat.sub_eq_add_neg];rfl)
def A8{q:Rat}{i:Nat}[h:BQ q i](hi:i<=400000000:=by decide):PF GB prog 127 [eF q] (eF q⁻¹):=by
 refine fn func127 J J ntmps127 J J (fun C=>?_);refine br (v1:=fun hc3=>by simp only[ah];exact⟨⟨hc3,hc3⟩,hc3⟩) J J J (fun hc3=>?_) (fun hc3=>?_)
 .
  refine cl J (tF (n:=decide (q.num<0)) (a:=q.den) (d:=q.num.natAbs) (by omega) (by omega)) J<|?_;exact rz J (by rw[Wj];rfl)
 .
  have q1:=nn (oA hc3);have q2:=pf (oA hc3);have q3:=pD (oA hc3);have q4:=qc (oA hc3);have q5:=q.den_nz;refine br J J J (fun hc26=>?_) (fun hc26=>?_)
  .
   exact i4 rfl (by obtain⟨e1,e2⟩:=Nn (q:=q) (by omega);exact te (fun k=>k ⟨by omega,by omega⟩) (by omega) (by omega) rfl)
  .
   refine br J J J (fun hc39=>?_) (fun hc39=>?_)
   .
    exact i4 J (by rw[mW.1 (show q.num=0 by omega),Rat.inv_zero];exact vn)
   .
    exact i4 rfl (by obtain⟨e1,e2⟩:=L7 (q:=q) (by omega);exact te (fun k=>k ⟨by omega,by omega⟩) (by omega) (by omega) rfl)
def yW{p q:Rat}{i j:Nat}[h:BQ p i][k:BQ q j](hi:i<=100000000:=by decide)(hj:j<=100000000:=by decide):PF GB prog 304 [eF p,eF q] (eF (p/q)):=by
 refine fn func304 J J ntmps304 J J (fun C=>?_);refine cl J (A8 (q:=q) (by omega)) J<|cl J (sk (p:=p) (q:=q⁻¹) (by omega) (by omega)) J<|?_;exact rz J (by rw[Rat.div_def];rfl)
def Qc{G:Gh}{q r:DV}{t:List DV}{vs:List Value}(h: ∀y,Is G r y->Is G q y)(hv:IsLs G (r::t) vs):IsLs G (q::t) vs:=by
 obtain⟨y,m,rfl,h1,h2⟩:=ba.1 hv;exact .cons (h _ h1) h2
def H5{G:Gh}{a q r:DV}{t:List DV}{vs:List Value}(h: ∀y,Is G r y->Is G q y)(hv:IsLs G (a::r::t) vs):IsLs G (a::q::t) vs:=by
 obtain⟨y,m,rfl,h1,h2⟩:=ba.1 hv;exact .cons h1 (Qc h h2)
def TP{q:Rat}{i:Nat}[h:BQ q i](hi:i<=100000000:=by decide):PF GB prog 207 [eF q, .ag [vI 1,vI 1, .v (.pointer none)]] (eF (q*mkRat 1 2)):=
 (sk (p:=q) (q:=mkRat 1 2) hi).ofI fun G vs hv=>H5 (fun y hy=>te (q:=mkRat 1 2) (fun k=>k ⟨by decide,by decide⟩) (by decide) (by decide) J G y hy) hv
def Hr{q:Rat}{i:Nat}[h:BQ q i](hi:i<=100000000:=by decide):PF GB prog 214 [eF q] (eF (q*mkRat 1 2)):=by
 refine fn func214 J J ntmps214 J J (fun C=>?_);refine cl J (TP (q:=q) (by omega)) J<|?_;exact rz J J
def m9{p q:Rat}{i j:Nat}[h:BQ p i][k:BQ q j](hi:i<=100000000:=by decide)(hj:j<=100000000:=by decide):PF GB prog 232 [eF p,eF q] (vI (bO p q)):=by
 refine fn func232 J J ntmps232 J J (fun C=>?_);refine cs 8 J J J (fun hg8=>?_) (fun hg8=>?_)
 .
  refine cs 13 J J J (fun hg13=>?_) (fun hg13=>?_)
  .
   refine br J J J (fun hc19=>?_) (fun hc19=>?_)
   .
    have hp:=tw hg8;have hq:=tw hg13;have p1:=nn hp;have p2:=pf hp;have p3:=pD hp;have p4:=qc hp;have p5:=p.den_nz;have q1:=nn hq;have q2:=pf hq;have q3:=pD hq;have q4:=qc hq;have q5:=q.den_nz;have hl:=Qi (a:=p) (b:=q) (by omega);have hr:=Qi (a:=q) (b:=p) (by omega);unfold bO;refine br J J J (fun hc20=>?_) (fun hc20=>?_)
    .
     exact rz J (by rw[if_pos (hl.2 (by omega))];rfl)
    .
     refine br J J J (fun hc26=>?_) (fun hc26=>?_)
     .
      exact rz J (by rw[if_neg (fun e=>by have:=hl.1 e;omega),if_pos (hr.2 (by omega))];rfl)
     .
      exact rz J (by rw[if_neg (fun e=>by have:=hl.1 e;omega),if_neg (fun e=>by have:=hr.1 e;omega)];rfl)
   .
    refine cl J (uB (p:=p) (q:=q) (by omega) (by omega)) J<|cl J (mr (q:=p-q) (by omega)) J<|?_;exact rz J (by rw[DD];rfl)
  .
   refine cl J (uB (p:=p) (q:=q) (by omega) (by omega)) J<|cl J (mr (q:=p-q) (by omega)) J<|?_;exact rz J (by rw[DD];rfl)
 .
  refine cl J (uB (p:=p) (q:=q) (by omega) (by omega)) J<|cl J (mr (q:=p-q) (by omega)) J<|?_;exact rz J (by rw[DD];rfl)
def yl{p q:Rat}{i j:Nat}[h:BQ p i][k:BQ q j](hi:i<=100000000:=by decide)(hj:j<=100000000:=by decide):PF GB prog 273 [eF p,eF q] (vB (decide (p=q))):=by
 refine fn func273 J J ntmps273 J J (fun C=>?_);refine cl J (m9 (p:=p) (q:=q) hi hj) J<|?_;exact rz J (by show DV.v (.bool (decide _))= .v (.bool _);congr 2;exact decide_eq_decide.2 (s5 p q))
def aC8{p q:Rat}{i j:Nat}[h:BQ p i][k:BQ q j](hi:i<=100000000:=by decide)(hj:j<=100000000:=by decide):PF GB prog 380 [eF p,eF q] (eF (if p<q then q else p)):=by
 refine fn func380 J J ntmps380 J J (fun C=>?_);refine cl J (m9 (p:=q) (q:=p) hj hi) J<|?_;refine br J J J (fun hc8=>?_) (fun hc8=>?_)
 .
  exact rz J (by rw[if_pos ((Jt q p).1 hc8)];rfl)
 .
  exact rz J (by rw[if_neg (fun e=>hc8 ((Jt q p).2 e))];rfl)
def Rs{p q:Rat}{i j:Nat}[h:BQ p i][k:BQ q j](hi:i<=100000000:=by decide)(hj:j<=100000000:=by decide):PF GB prog 288 [eF p,eF q] (eF (if q<p then q else p)):=by
 refine fn func288 J J ntmps288 J J (fun C=>?_);refine cl J (m9 (p:=q) (q:=p) hj hi) J<|?_;refine br J J J (fun hc8=>?_) (fun hc8=>?_)
 .
  exact rz J (by rw[if_pos ((Nv q p).1 hc8)];rfl)
 .
  exact rz J (by rw[if_neg (fun e=>hc8 ((Nv q p).2 e))];rfl)
def od{p q:Rat}{i j:Nat}[h:BQ p i][k:BQ q j](hi:i<=100000000:=by decide)(hj:j<=100000000:=by decide):PF GB prog 272 [eF p,eF q] (eF (rgcd p q)):=by
 refine fn (fu:=⟨8⟩) func272 J J ntmps272 J J (fun C=>?_);refine mg (X:=Unit) (fun _=>[(2, .ov 2 0),(3, .ov 3 0),(4, .ov 4 0)]) (fun _=>[(2,some (.o 139 [.d (vI (dx p)), .d (vI (dB p)), .d (c9 p)] true)),(3,some (.o 139 [.d (vI (dx q)), .d (vI (dB q)), .d (c9 q)] true)),(4,some (.o 139 [.d (.v (.int .i64 0)), .d (.v (.int .i64 0)), .d (.v (.pointer none))] true))]) (fun _=>True) [2,3,4] [2,3,4] rfl ?_ (fun _=>J) (fun _ _=>?_)
 .
  refine gx J<|?_;refine cs 10 J J J (fun hg10=>?_) (fun hg10=>?_)
  .
   refine cs 15 J J J (fun hg15=>?_) (fun hg15=>?_)
   .
    have hp:=tw hg10;have hq:=tw hg15;have p1:=nn hp;have p2:=pf hp;have p3:=pD hp;have p4:=qc hp;have p5:=p.den_nz;have q1:=nn hq;have q2:=pf hq;have q3:=pD hq;have q4:=qc hq;have q5:=q.den_nz;refine cs 20 J J J (fun hg20=>?_) (fun hg20=>?_)
    .
     refine br (fu1:=⟨4⟩) J J J (fun hc24=>?_) (fun hc24=>?_)
     .
      have hg:=VB p3 q3;refine ao 26 (.d (vI p.num)) J (by rw[p1]) ?_;refine gx J<|cl (fu:=⟨2⟩) J (zY (m:=p.num) (by omega)) J<|?_;refine ao 29 (.d (vI q.num)) J (by rw[q1]) ?_;refine gx J<|cl J (zY (m:=q.num) (by omega)) J<|cl (hv:=by simp only[ah];exact⟨by omega,by kernel_rfl⟩) J (Nj (a:=p.num.natAbs) (b:=q.num.natAbs) (by omega) (by omega)) J<|?_;exact i4 J (by rw[aDh (p:=p) (q:=q) (by omega) (by omega)];exact Rz (by rw[jM];exact hg))
     .
      exact at_ () trivial
    .
     exact at_ () trivial
   .
    exact at_ () trivial
  .
   exact at_ () trivial
 .
  refine cl J (qO (q:=p) (by omega)) J<|cl J (qO (q:=q) (by omega)) J<|cl J (yG (a:=p.den) (b:=q.den) (by omega) (by omega)) J<|?_;refine cl J (tg (q:=p) (by omega)) J<|cl J (qO (q:=q) (by omega)) J<|cl J (yG (a:=p.num.natAbs) (b:=q.den) (by omega) (by omega)) J<|?_;refine cl J (tg (q:=q) (by omega)) J<|cl J (qO (q:=p) (by omega)) J<|cl J (yG (a:=q.num.natAbs) (b:=p.den) (by omega) (by omega)) J<|?_;refine cl J (Eu (a:=p.num.natAbs*q.den) (b:=q.num.natAbs*p.den) (i:=i+j) (j:=j+i) (by omega) (by omega)) J<|cl J (tF (n:=false) (a:=Nat.gcd (p.num.natAbs*q.den) (q.num.natAbs*p.den)) (d:=p.den*q.den) (i:=i+j+(j+i)) (j:=i+j) (by omega) (by omega)) J<|?_;exact rz J J
end Go.Sx
end
section
namespace Go.Sx
open Go
def crossI(l m:ab):Int:=l.a*m.b-m.a*l.b
def meetX(l m:ab):Int:=l.b*m.c-m.b*l.c
def meetY(l m:ab):Int:=m.a*l.c-l.a*m.c
def ge(l m:ab):aa:=if crossI l m=0 then⟨0,0⟩ else⟨(meetX l m:Rat)/(crossI l m:Rat),(meetY l m:Rat)/(crossI l m:Rat)⟩
def ey(l:ab)(p:aa):Rat:=p.dot l.dir/l.dir.dot l.dir
def DU(l:ab):l.dir.dot l.dir=l.nor.dot l.nor:=by
 simp only[ab.dir,ab.nor,aa.dot];grind
def xj{l:ab}(h:l.Ne):0<l.dir.dot l.dir:=by rw[DU];exact pP h
def zp(l m:ab):((crossI l m:Int):Rat)=(l.a:Rat)*m.b-(m.a:Rat)*l.b:=by
 unfold crossI;rw[pX,cM,cM]
def P'(l m:ab):((meetX l m:Int):Rat)=(l.b:Rat)*m.c-(m.b:Rat)*l.c:=by
 unfold meetX;rw[pX,cM,cM]
def Ok(l m:ab):((meetY l m:Int):Rat)=(m.a:Rat)*l.c-(l.a:Rat)*m.c:=by
 unfold meetY;rw[pX,cM,cM]
def Ap(l m:ab):l.cutK m= -((crossI l m:Int):Rat):=by
 rw[zp];simp only[ab.cutK,ab.nor,ab.dir,aa.dot];grind
def Kd(l m:ab):m.dir.cross l.dir=l.cutK m:=by
 simp only[ab.cutK,ab.nor,ab.dir,aa.dot,aa.cross];grind
def OP{l:ab}:(⟨-((l.c:Rat)/l.dir.dot l.dir)*(l.a:Rat), -((l.c:Rat)/l.dir.dot l.dir)*(l.b:Rat)⟩:aa)=l.base:=by
 unfold ab.base;rw[DU];simp only[ab.nor,aa.scale,aa.mk.injEq];constructor<;>grind
def t8(l:ab)(t:Rat):dC l.base l.dir t=l.at t:=by
 simp only[dC,ab.at,aa.add,aa.scale,aa.mk.injEq];constructor<;>grind
def yf{l m:ab}(hl:l.Ne)(h:crossI l m≠0):ey l (ge l m)= -(l.cutC m/l.cutK m):=by
 have hd:((crossI l m:Int):Rat)≠0:=fun e=>h (cW.1 e);have hn:=xj hl;obtain⟨q,q1,q2⟩:=yv hl;rw[Ap];unfold ey ge ab.cutC;rw[if_neg h,q2,m8,P',Ok];have hc:=zp l m;rw[DU] at hn⊢;simp only[ab.dir,ab.nor,aa.dot] at hn q1⊢;generalize ((crossI l m:Int):Rat)=d at*;generalize (l.a:Rat)=a at*;generalize (l.b:Rat)=b at*;generalize (l.c:Rat)=c at*;generalize (m.a:Rat)=x at*;generalize (m.b:Rat)=y at*;generalize (m.c:Rat)=z at*;have hn':a*a+b*b≠0:=by grind
 have e:((b*z-y*c)/d*b+(x*c-a*z)/d* -a)=((b*z-y*c)*b-(x*c-a*z)*a)/d:=by grind
 rw[e];have k1:(b*z-y*c)*b-(x*c-a*z)*a=(a*a+b*b)*(x*(a*q)+y*(b*q)+z):=by grind
 rw[k1];grind
def Te{l m:ab}(hl:l.Ne)(h:crossI l m≠0):ey l (ge l m)*((crossI l m*(l.a*l.a+l.b*l.b):Int):Rat)=((meetX l m*l.b-meetY l m*l.a:Int):Rat):=by
 have hd:((crossI l m:Int):Rat)≠0:=fun e=>h (cW.1 e);have hn:=xj hl;unfold ey ge;rw[if_neg h];simp only[cM,pX,pQ];simp only[ab.dir,aa.dot] at hn⊢;generalize ((crossI l m:Int):Rat)=d at*;generalize ((meetX l m:Int):Rat)=x at*;generalize ((meetY l m:Int):Rat)=y at*;generalize (l.a:Rat)=a at*;generalize (l.b:Rat)=b at*;have hn':b*b+ -a* -a≠0:=by grind
 grind
def ZJ(l m:ab)(t:List ab)(v:av):je l (m::t) v=if m=l then je l t v else if l.cutB v m then je l t (l.cutV v m) else none:=rfl
def ud(v:av)(t:Rat):av:=if v.nl=true\/0<bO t v.lo then⟨t,v.hi,false,v.nh⟩ else v
def uu(v:av)(t:Rat):av:=if v.nh=true\/bO t v.hi<0 then⟨v.lo,t,v.nl,false⟩ else v
structure jv (v:av):Prop where
 lo:v.nl=true->v.lo=0
 hi:v.nh=true->v.hi=0
def CB(a b:Rat):0<bO a b↔b<a:=by
 unfold bO;split
 ·constructor
  ·intro h;exact absurd h (by decide)
  ·intro h;grind
 ·split
  ·exact⟨fun _=>by assumption,fun _=>by decide⟩
  ·constructor
   ·intro h;exact absurd h (by decide)
   ·intro h;exact absurd h (by assumption)
def zj(a b:Rat):bO a b<0↔a<b:=by
 unfold bO;split
 ·exact⟨fun _=>by assumption,fun _=>by decide⟩
 ·split
  ·constructor
   ·intro h;exact absurd h (by decide)
   ·intro h;grind
  ·constructor
   ·intro h;exact absurd h (by decide)
   ·intro h;exact absurd h (by assumption)
def Nc{v:av}(h:jv v)(t:Rat):ud v t=v.meet ⟨t,0,false,true⟩:=by
 obtain⟨lo,hi,nl,nh⟩:=v;obtain⟨h1,h2⟩:=h;unfold ud av.meet;simp only[CB] at*
 cases nl<;>cases nh<;>simp at* <;>(try (split<;>split<;>simp_all<;>grind))<;>grind
def Py{v:av}(h:jv v)(t:Rat):uu v t=v.meet ⟨0,t,true,false⟩:=by
 obtain⟨lo,hi,nl,nh⟩:=v;obtain⟨h1,h2⟩:=h;unfold uu av.meet;simp only[zj] at*
 cases nl<;>cases nh<;>simp at* <;>(try (split<;>split<;>simp_all<;>grind))<;>grind
def jv.all:jv av.all:=⟨fun _=>J,fun _=>J⟩
def jv.lo'{v:av}(h:jv v)(t:Rat):jv (ud v t):=by
 obtain⟨lo,hi,nl,nh⟩:=v;unfold ud;split
 ·exact⟨fun h=>by simp at h,h.hi⟩
 ·exact h
def jv.hi'{v:av}(h:jv v)(t:Rat):jv (uu v t):=by
 obtain⟨lo,hi,nl,nh⟩:=v;unfold uu;split
 ·exact⟨h.lo,fun h=>by simp at h⟩
 ·exact h
def awU{l m:ab}{v:av}(h:crossI l m=0):l.cutV v m=v/\(l.cutB v m=true↔0<m.value l.base):=by
 have hk:l.cutK m=0:=by rw[Ap,h];rfl
 exact xQ v hk
def aB4{l m:ab}{v:av}(hl:l.Ne)(hz:jv v)(h:0<m.dir.cross l.dir):crossI l m≠0/\l.cutV v m=ud v (ey l (ge l m))/\l.cutB v m=!(ud v (ey l (ge l m))).empty:=by
 rw[Kd] at h;have hc:crossI l m≠0:=fun e=>by rw[Ap,e] at h;exact absurd h (by decide)
 obtain⟨h1,h2⟩:=yN v h;refine⟨hc,?_,?_⟩
 ·rw[Nc hz,yf hl hc,h1]
 ·rw[Nc hz,yf hl hc,<-h1]
  rw[<-DS] at h2
  cases hb:l.cutB v m<;>cases he:(l.cutV v m).empty<;>simp_all
def VE{l m:ab}{v:av}(hl:l.Ne)(hz:jv v)(h0:crossI l m≠0)(h: ¬0<m.dir.cross l.dir):l.cutV v m=uu v (ey l (ge l m))/\l.cutB v m=!(uu v (ey l (ge l m))).empty:=by
 rw[Kd] at h;have hk:l.cutK m≠0:=fun e=>by
  rw[Ap] at e;have:((crossI l m:Int):Rat)=0:=by grind
  exact h0 (cW.1 this)
 obtain⟨h1,h2⟩:=xH (l:=l) (m:=m) v (by grind);refine⟨?_,?_⟩
 ·rw[Py hz,yf hl h0,h1]
 ·rw[Py hz,yf hl h0,<-h1]
  rw[<-DS] at h2
  cases hb:l.cutB v m<;>cases he:(l.cutV v m).empty<;>simp_all
end Go.Sx
end
section
namespace Go.Sx
open Go Go.Proofs Tryz
variable {GB:Gh}

def cT:Tr->List DV
 | .leaf b=>[.v (.bool true), .v (.bool b), .v (.bool false), .sl [], .v (.bool false), .sl [], .v (.bool false), .sl [], .v (.pointer none), .v (.pointer none)]
 | .node l x y=>[.v (.bool false), .v (.bool false), .v (.bool (decide (l.a<0))),dN l.a.natAbs, .v (.bool (decide (l.b<0))),dN l.b.natAbs, .v (.bool (decide (l.c<0))),dN l.c.natAbs, .pt (cT x), .pt (cT y)]
def eT(t:Tr):DV:= .pt (cT t)
def eN(n:NQ):DV:= .ag [.v (.bool (decide (n.l.a<0))),dN n.l.a.natAbs, .v (.bool (decide (n.l.b<0))),dN n.l.b.natAbs, .v (.bool (decide (n.l.c<0))),dN n.l.c.natAbs, .v (.int .i64 n.a), .v (.int .i64 n.b)]
def eA(t:Tr):DV:= .ag [.v (.int .i64 (t.num 0)), .sl ((t.wr 0).map eN)]
def x7{G:Gh}{k:Nat}{z:IV}{m:Int}(h:mv k G z m):Is G (.v (.bool (decide (m<0)))) (.bool z.neg)/\Is G (dN m.natAbs) (.slice z.a.a z.a.n z.a.c):=
 ⟨aG.2 (by rw[h.neg]),(IJ h.abs.lt).2 ⟨_,J,h.abs⟩⟩
def Ho{G:Gh}{k:Nat}{m:Int}{u v:Value}(hm:m.natAbs<2^k)(h1:Is G (.v (.bool (decide (m<0)))) u)(h2:Is G (dN m.natAbs) v): ∃z:IV,u= .bool z.neg/\v= .slice z.a.a z.a.n z.a.c/\mv k G z m:=by
 obtain⟨x,rfl,hx⟩:=(IJ hm).1 h2;exact⟨⟨decide (m<0),x⟩,aG.1 h1,J,J,hx⟩
structure BL (l:ab) (k:Nat):Prop where
 a:l.a.natAbs<2^k
 b:l.b.natAbs<2^k
 c:l.c.natAbs<2^k
def aFn{G:Gh}{k:Nat}{l:ab}{v:Value}(hl:BL l k)(h:Is G (eL l) v): ∃a b c:IV,v= .agg ⟨[.bool a.neg, .slice a.a.a a.a.n a.a.c, .bool b.neg, .slice b.a.a b.a.n b.a.c, .bool c.neg, .slice c.a.a c.a.n c.a.c]⟩/\mv k G a l.a/\mv k G b l.b/\mv k G c l.c:=by
 obtain⟨m,rfl,g⟩:=cO.1 h;clear h;obtain⟨v1,m,rfl,h1,h⟩:=ba.1 g;obtain⟨v2,m,rfl,h2,h⟩:=ba.1 h;obtain⟨v3,m,rfl,h3,h⟩:=ba.1 h;obtain⟨v4,m,rfl,h4,h⟩:=ba.1 h;obtain⟨v5,m,rfl,h5,h⟩:=ba.1 h;obtain⟨v6,m,rfl,h6,h⟩:=ba.1 h;rw[cD] at h;subst h;obtain⟨a,rfl,rfl,ha⟩:=Ho hl.a h1 h2;obtain⟨b,rfl,rfl,hb⟩:=Ho hl.b h3 h4;obtain⟨c,rfl,rfl,hc⟩:=Ho hl.c h5 h6;exact⟨a,b,c,J,ha,hb,hc⟩
def Sb{G:Gh}{k:Nat}{n:NQ}{z:ND}(h:qB k G z n):Is G (eN n) z.val:=by
 refine cO.2 ⟨_,J, .cons (x7 h.a).1 (.cons (x7 h.a).2 (.cons (x7 h.b).1 (.cons (x7 h.b).2 (.cons (x7 h.c).1 (.cons (x7 h.c).2 (.cons (aG.2 ?_) (.cons (aG.2 ?_) .nil)))))))⟩
 ·rw[h.l]
 ·rw[h.r]
def Lx{G:Gh}{k:Nat}: ∀{ns:List NQ} {zs:List ND},gi (qB k G) zs ns->IsLs G (ns.map eN) (zs.map ND.val)
 |_,_, .nil=> .nil
 |_,_, .cons h t=> .cons (Sb h) (Lx t)
def aDe{G:Gh}{k:Nat}{t:Tr}{x:SV}(h:XB k G x (t.wr 0)):Is G (eA t) (.agg ⟨[.int .i64 (t.num 0), .slice x.a x.n x.c]⟩):=by
 obtain⟨zs,h1,h2⟩:=h;exact cO.2 ⟨_,J, .cons (aG.2 J) (.cons (gO.2 ⟨8,x,_,J,h1,Lx h2⟩) .nil)⟩
def Tr.all_wr{p:ab->Prop}: ∀{t:Tr} (n:Nat),t.all p-> ∀x∈t.wr n,p x.l
 | .leaf b,n,_,x,hx=>by cases hx
 | .node l u v,n,⟨h1,h2,h3⟩,x,hx=>by
  simp only[Tr.wr,cK,aV,bS] at hx;rcases hx with rfl|hx|hx
  ·exact h1
  ·exact u.all_wr _ h2 x hx
  ·exact v.all_wr _ h3 x hx
structure LS (l:ab):Prop where
 ok:l.ok
 a:l.a.natAbs<=4
 b:l.b.natAbs<=4
 c:l.c.natAbs<=40000
def ab.ext'{l m:ab}(h1:l.a=m.a)(h2:l.b=m.b)(h3:l.c=m.c):l=m:=by cases l;cases m;simp_all
instance:DecidableEq NQ:=fun x y=>decidable_of_iff (x.l=y.l/\x.a=y.a/\x.b=y.b) (by
 cases x;cases y;simp)
def pk(ls:List ab):dG 6 (ls.map eL):=fun d hd=>by
 obtain⟨n,_,rfl⟩:=bV.1 hd;exact⟨rfl,rfl⟩
def ju{z:Int}:PF GB prog 150 [eI z] (eQ (z:Rat)):=by
 refine fn func150 J J ntmps150 J J (fun C=>?_);exact rz J (by rw[Cw];rfl)
def PE{l:ab}:PF GB prog 66 [eL l] (eL l.rev):=by
 refine fn func66 J J ntmps66 J J (fun C=>?_);refine cl J AI J<|cl J AI J<|cl J AI J<|?_;exact rz J J
class LB (l:ab):Prop where bl:BL l 96
instance LB.a (l:ab) [h:LB l]:BI l.a 96:=⟨h.bl.a⟩
instance LB.b (l:ab) [h:LB l]:BI l.b 96:=⟨h.bl.b⟩
instance LB.c (l:ab) [h:LB l]:BI l.c 96:=⟨h.bl.c⟩
class aI (p:aa) (k:outParam Nat):Prop where
 x:BQ p.x k
 y:BQ p.y k
instance aI.ix (p:aa) (k:Nat) [h:aI p k]:BQ p.x k:=h.x
instance aI.iy (p:aa) (k:Nat) [h:aI p k]:BQ p.y k:=h.y
instance aI.dir (l:ab) [LB l]:aI l.dir 97:=⟨inferInstanceAs (BQ (l.b:Rat) 97),inferInstanceAs (BQ (-(l.a:Rat)) 97)⟩
instance BQ.dot (p q:aa) (i j:Nat) [aI p i] [aI q j]:BQ (p.dot q) (i+j+(i+j)+1):=inferInstanceAs (BQ (p.x*q.x+p.y*q.y) _)
instance BQ.cross (p q:aa) (i j:Nat) [aI p i] [aI q j]:BQ (p.cross q) (i+j+(i+j)+1):=inferInstanceAs (BQ (p.x*q.y-p.y*q.x) _)
instance aI.mov (p q:aa) (c:Rat) (i j k:Nat) [aI p i] [aI q j] [BQ c k]:aI (dC p q c) (i+(k+j)+1):=⟨inferInstanceAs (BQ (p.x+c*q.x) _),inferInstanceAs (BQ (p.y+c*q.y) _)⟩
instance BQ.value (l:ab) (p:aa) (i:Nat) [LB l] [aI p i]:BQ (l.value p) (96+1+i+(96+1+i)+1+(96+1)+1):=inferInstanceAs (BQ ((l.a:Rat)*p.x+(l.b:Rat)*p.y+(l.c:Rat)) _)
def Pb{l:ab}(h:l.Ne):l.dir.dot l.dir≠0:=by have:=xj h;grind
def QG{l:ab}:PF GB prog 164 [eL l] (eP l.dir):=by
 refine fn func164 J J ntmps164 J J (fun C=>?_);refine cl J ju J<|cl J ju J<|cl J yH J<|?_;exact rz J J
def IR{p q:aa}{i j:Nat}[hp:aI p i][hq:aI q j](hi:i<=200000:=by decide)(hj:j<=200000:=by decide):PF GB prog 236 [eP p,eP q] (eQ (p.dot q)):=by
 refine fn func236 J J ntmps236 J J (fun C=>?_);refine cl J (ji (by omega) (by omega)) J<|cl J (ji (by omega) (by omega)) J<|cl J (uk (by omega) (by omega)) J<|?_;exact rz J J
def Vf{p q:aa}{i j:Nat}[hp:aI p i][hq:aI q j](hi:i<=200000:=by decide)(hj:j<=200000:=by decide):PF GB prog 99 [eP p,eP q] (eQ (p.cross q)):=by
 refine fn func99 J J ntmps99 J J (fun C=>?_);refine cl J (ji (by omega) (by omega)) J<|cl J (ji (by omega) (by omega)) J<|cl J (yD (by omega) (by omega)) J<|?_;exact rz J J
def aEt{p q:aa}{c:Rat}{i j k:Nat}[hp:aI p i][hq:aI q j][hc:BQ c k](hi:i<=19000000:=by decide)(hj:j<=9000000:=by decide)(hk:k<=9000000:=by decide):PF GB prog 100 [eP p,eQ c,eP q] (eP (dC p q c)):=by
 refine fn func100 J J ntmps100 J J (fun C=>?_);refine cl J (ji (by omega) (by omega)) J<|cl J (uk (by omega) (by omega)) J<|cl J (ji (by omega) (by omega)) J<|cl J (uk (by omega) (by omega)) J<|?_;exact rz J J
def aFj{l:ab}[hl:LB l](hn:l.Ne):PF GB prog 144 [eL l] (eP l.base):=by
 refine fn func144 J J ntmps144 J J (fun C=>?_);refine cl J QG J<|cl J (ju (z:=l.c)) J<|cl J IR J<|cl J (yp (Pb hn)) J<|cl J yH J<|cl J (ju (z:=l.a)) J<|?_;refine cl J ji J<|cl J (ju (z:=l.b)) J<|cl J ji J<|?_;exact rz J (by rw[<-OP];rfl)
instance aI.base (l:ab) [LB l]:aI l.base 900:=by
 rw[<-OP];constructor
 ·exact BQ.mono (inferInstance:BQ (-((l.c:Rat)/l.dir.dot l.dir)*(l.a:Rat)) _) (by decide)
 ·exact BQ.mono (inferInstance:BQ (-((l.c:Rat)/l.dir.dot l.dir)*(l.b:Rat)) _) (by decide)
def K1{l:ab}{p:aa}{k:Nat}[hl:LB l][hp:aI p k](hn:l.Ne)(hk:k<=200000:=by decide):PF GB prog 262 [eL l,eP p] (eQ (ey l p)):=by
 refine fn func262 J J ntmps262 J J (fun C=>?_);refine cl J QG J<|cl J (IR (by omega) (by decide)) J<|cl J (IR (by omega) (by decide)) J<|cl J (yp (Pb hn) (by omega) (by decide)) J<|?_;exact rz J J
instance BI.crossI (l m:ab) [LB l] [LB m]:BI (crossI l m) 385:=inferInstanceAs (BI (l.a*m.b-m.a*l.b) 385)
instance BI.meetX (l m:ab) [LB l] [LB m]:BI (meetX l m) 385:=inferInstanceAs (BI (l.b*m.c-m.b*l.c) 385)
instance BI.meetY (l m:ab) [LB l] [LB m]:BI (meetY l m) 385:=inferInstanceAs (BI (m.a*l.c-l.a*m.c) 385)
instance aI.imeet (l m:ab) [LB l] [LB m]:aI (ge l m) 772:=by
 unfold ge;split
 ·exact⟨BQ.mono (k:=1) ⟨by decide,by decide⟩ (by decide),BQ.mono (k:=1) ⟨by decide,by decide⟩ (by decide)⟩
 ·exact⟨inferInstanceAs (BQ ((meetX l m:Rat)/(crossI l m:Rat)) 772),inferInstanceAs (BQ ((meetY l m:Rat)/(crossI l m:Rat)) 772)⟩
def KN(l m:ab):(((l.a:Rat)*(m.b:Rat)-(m.a:Rat)*(l.b:Rat)).num.sign=0)↔crossI l m=0:=by
 rw[kg,<-zp];exact cW
def Oo{l m:ab}(h:crossI l m≠0):(l.a:Rat)*(m.b:Rat)-(m.a:Rat)*(l.b:Rat)≠0:=by
 rw[<-zp];exact fun e=>h (cW.1 e)
def X5{l m:ab}[hl:LB l][hm:LB m]:PF GB prog 70 [eL l,eL m] (.tp [eP (ge l m),vB (decide (crossI l m≠0))]):=by
 refine fn func70 J J ntmps70 J J (fun C=>?_);refine cl J (ju (z:=l.a)) J<|cl J (ju (z:=m.b)) J<|cl J ji J<|cl J (ju (z:=m.a)) J<|cl J (ju (z:=l.b)) J<|?_;refine cl J ji J<|cl J yD J<|cl J Io J<|?_;refine br J J J (fun hc26=>?_) (fun hc26=>?_)
 .
  have hcr:=(KN l m).1 hc26;exact rz J (by unfold ge;rw[if_pos hcr,decide_eq_false (fun e=>e hcr)];show DV.tp [.ag [_, .sl [], .sl [],_, .sl [], .sl []],_]= .tp [eP ⟨0,0⟩,_];unfold eP dD;simp only[show(0:Rat).num=0 from J,show(0:Rat).den=1 from J,Int.natAbs_zero,yO];rfl)
 .
  have hcr:crossI l m≠0:=fun e=>hc26 ((KN l m).2 e);refine cl J (ju (z:=l.b)) J<|cl J (ju (z:=m.c)) J<|cl J ji J<|cl J (ju (z:=m.b)) J<|cl J (ju (z:=l.c)) J<|?_;refine cl J ji J<|cl J yD J<|cl J (ju (z:=m.a)) J<|cl J (ju (z:=l.c)) J<|cl J ji J<|cl J (ju (z:=l.a)) J<|?_;refine cl J (ju (z:=m.c)) J<|cl J ji J<|cl J yD J<|cl J (yp (Oo hcr)) J<|cl J (yp (Oo hcr)) J<|?_;exact rz J (by unfold ge;rw[if_neg hcr,decide_eq_true hcr,P',Ok,zp];rfl)
def gH(l m:ab):Int:=if(l.a-m.a).sign≠0 then(l.a-m.a).sign else if(l.b-m.b).sign≠0 then(l.b-m.b).sign else(l.c-m.c).sign
def asv(l m:ab):gH l m=0↔l=m:=by
 unfold gH;constructor
 ·intro h
  split at h
  ·contradiction
  ·split at h
   ·contradiction
   ·rename_i h1 h2
    have a1:=fM.1 (Decidable.not_not.1 h1);have a2:=fM.1 (Decidable.not_not.1 h2);have a3:=fM.1 h;exact ab.ext' (by omega) (by omega) (by omega)
 ·rintro rfl
  simp
def Q7{l m:ab}[hl:LB l][hm:LB m]:PF GB prog 179 [eL l,eL m] (vI (gH l m)):=by
 refine fn func179 J J ntmps179 J J (fun C=>?_);refine cl J (HB (a:=l.a) (b:=m.a)) J<|?_;refine br J J J (fun hc13=>?_) (fun hc13=>?_)
 .
  exact rz J (by show vI _=_;unfold gH;rw[if_pos hc13])
 .
  refine cl J (HB (a:=l.b) (b:=m.b)) J<|?_;refine br J J J (fun hc21=>?_) (fun hc21=>?_)
  .
   exact rz J (by show vI _=_;unfold gH;rw[if_neg hc13,if_pos hc21])
  .
   refine cl J (HB (a:=l.c) (b:=m.c)) J<|?_;exact rz J (by show vI _=_;unfold gH;rw[if_neg hc13,if_neg hc21])
def WY(z:Int): -1<=z.sign/\z.sign<=1:=by
 rcases nM z 0 with h|h|h
 ·rw[fZ h];omega
 ·rw[h];decide
 ·rw[gJ h];omega
instance BQ.i1:BQ (((1:Int):Rat)) 2:=⟨by decide,by decide⟩
def eV(v:av):DV:= .ag [.v (.bool (decide (v.lo.num<0))),dN v.lo.num.natAbs,dD v.lo.den, .v (.bool (decide (v.hi.num<0))),dN v.hi.num.natAbs,dD v.hi.den, .v (.bool v.nl), .v (.bool v.nh)]
def XW:eQ 0= .ag [.v (.bool false), .sl [], .sl []]:=by
 unfold eQ dD;simp only[show(0:Rat).num=0 from J,show(0:Rat).den=1 from J,Int.natAbs_zero,yO];rfl
def CI(v:av):Rat:=if v.nl=true/\v.nh=true then 0 else if v.nl=true then v.hi-1 else if v.nh=true then v.lo+1 else(v.lo+v.hi)/2
theorem BQ.of_fracI{q:Rat}{n D:Int}{i:Nat}(hd:0<D.natAbs)(h:q*((D.natAbs:Nat):Rat)=(n:Rat))(hn:BI n i)(hD:BI D i):BQ q i:=BQ.of_frac hd h hn.h hD.h
theorem Dz{m:Int}{i j:Nat}(h:BI m i)(hij:i<=j):BI m j:=⟨dK h.h (bR (by decide) hij)⟩
theorem Pk{l m:ab}[LB l][LB m](hn:l.Ne)(h:crossI l m≠0):BQ (ey l (ge l m)) 1200:=by
 have e:=Te hn h;have hA:BI (crossI l m*(l.a*l.a+l.b*l.b)) _:=inferInstance;have hB:BI (meetX l m*l.b-meetY l m*l.a) _:=inferInstance;have hne:crossI l m*(l.a*l.a+l.b*l.b)≠0:=by
  intro q;rcases sS.1 q with q|q
  ·exact h q
  ·have h1:=xj hn
   simp only[ab.dir,aa.dot] at h1;have h2:((l.a*l.a+l.b*l.b:Int):Rat)=((0:Int):Rat):=by rw[q]
   rw[pQ,cM,cM] at h2;have h3:((0:Int):Rat)=0:=J;rw[h3] at h2;grind
 have hA':=Dz (j:=1200) hA (by decide);have hB':=Dz (j:=1200) hB (by decide);generalize crossI l m*(l.a*l.a+l.b*l.b)=D at*;generalize meetX l m*l.b-meetY l m*l.a=M at*;by_cases hD:0<D
 ·refine BQ.of_fracI (n:=M) (D:=D) (by omega) ?_ hB' hA'
  rw[<-e];congr 1;have:((D.natAbs:Nat):Int)=D:=by omega
  rw[<-this];rfl
 ·refine BQ.of_fracI (n:= -M) (D:=D) (by omega) ?_ (BI.neg M 1200 (h:=hB')) hA'
  rw[pZ,<-e];have:((D.natAbs:Nat):Rat)= -(D:Rat):=by
   have h1:((D.natAbs:Nat):Int)= -D:=by omega
   rw[<-pZ,<-h1];rfl
  rw[this];grind
def qd(l:ab):List ab->av->av×Bool
 |[],v=>(v,true)
 |m::t,v=>if m=l then qd l t v else if l.cutB v m=true then qd l t (l.cutV v m) else(l.cutV v m,false)
def DY{l:ab}: ∀{c:List ab} {v:av},(qd l c v).2=(je l c v).isSome
 |[],v=>rfl
 |m::t,v=>by
  rw[qd,ZJ];split
  ·exact DY
  ·split
   ·exact DY
   ·rfl
structure Stp (l:ab) (c:List ab) (k:Nat) (v:av):Prop where
 le:k<=c.length
 p:je l (c.drop k) v=je l c av.all
 e:qd l (c.drop k) v=qd l c av.all
 z:jv v
 lo:BQ v.lo 1200
 hi:BQ v.hi 1200
def xo(l m:ab)(v:av):av:=if 0<(m.dir.cross l.dir).num.sign then ud v (ey l (ge l m)) else uu v (ey l (ge l m))
def XC{l m:ab}{v:av}[LB l][LB m](hn:l.Ne)(hz:jv v)(hlo:BQ v.lo 1200)(hhi:BQ v.hi 1200)(h0:crossI l m≠0):l.cutV v m=xo l m v/\l.cutB v m=!(xo l m v).empty/\jv (xo l m v)/\BQ (xo l m v).lo 1200/\BQ (xo l m v).hi 1200:=by
 have hb:=Pk (l:=l) (m:=m) hn h0;unfold xo;split
 ·rename_i h
  obtain⟨_,h1,h2⟩:=aB4 hn hz ((nk _).1 h);refine⟨h1,h2,hz.lo' _,?_⟩;unfold ud;split
  ·exact⟨hb,hhi⟩
  ·exact⟨hlo,hhi⟩
 ·rename_i h
  obtain⟨h1,h2⟩:=VE hn hz h0 (fun e=>h ((nk _).2 e));refine⟨h1,h2,hz.hi' _,?_⟩;unfold uu;split
  ·exact⟨hlo,hb⟩
  ·exact⟨hlo,hhi⟩
def eH(l:ab):DV:= .ag [vI (dx (l.a:Rat)),vI (dB (l.a:Rat)),c9 (l.a:Rat),vI (dx (l.b:Rat)),vI (dB (l.b:Rat)),c9 (l.b:Rat),vI (dx (l.c:Rat)),vI (dB (l.c:Rat)),c9 (l.c:Rat)]
def eZ(p:aa):DV:= .ag [vI (dx p.x),vI (dB p.x),c9 p.x,vI (dx p.y),vI (dB p.y),c9 p.y]
def eW(v:av):DV:= .ag [vI (dx v.lo),vI (dB v.lo),c9 v.lo,vI (dx v.hi),vI (dB v.hi),c9 v.hi, .v (.bool v.nl), .v (.bool v.nh)]
def Bx{G:Gh}{t:List DV}{vs:List Value}(h:IsLs G (vI 0::vI 0:: .v (.pointer none)::t) vs):IsLs G (vI (dx 0)::vI (dB 0)::c9 0::t) vs:=by
 obtain⟨y1,l1,rfl,k1,g1⟩:=ba.1 h;obtain⟨y2,l2,rfl,k2,g2⟩:=ba.1 g1;obtain⟨y3,l3,rfl,k3,g3⟩:=ba.1 g2;have e:decide (fh 0)=false:=decide_eq_false fun h=>Fv h J;exact .cons k1 (.cons k2 (.cons (tc.2 (.inl ⟨e,aG.1 k3⟩)) g3))
def Hu{G:Gh}(a:List DV){t:List DV}{vs:List Value}(h:IsLs G (a++vI 0::vI 0:: .v (.pointer none)::t) vs):IsLs G (a++vI (dx 0)::vI (dB 0)::c9 0::t) vs:=by
 obtain⟨x,y,rfl,h1,h2⟩:=h.unapp;exact h1.app (Bx h2)
def Vr(G:Gh)(y:Value)(k:Is G (.ag [vI 0,vI 0, .v (.pointer none),vI 0,vI 0, .v (.pointer none), .v (.bool true), .v (.bool true)]) y):Is G (eW av.all) y:=by
 obtain⟨l,rfl,g⟩:=cO.1 k;exact cO.2 ⟨l,J,Bx (Hu [vI 0,vI 0, .v (.pointer none)] g)⟩
def o9:List Int->Int
 |[]=>0
 |a::t=>if a≠0 then a else o9 t
theorem aI.nor(l:ab)[LB l]:aI l.nor 97:=⟨inferInstanceAs (BQ (l.a:Rat) 97),inferInstanceAs (BQ (l.b:Rat) 97)⟩
attribute [instance] aI.nor
instance aI.scale (p:aa) (c:Rat) (i k:Nat) [aI p i] [BQ c k]:aI (p.scale c) (i+k):=⟨inferInstanceAs (BQ (p.x*c) _),inferInstanceAs (BQ (p.y*c) _)⟩
instance aI.add (p q:aa) (i j:Nat) [aI p i] [aI q j]:aI (p.add q) (i+j+1):=⟨inferInstanceAs (BQ (p.x+q.x) _),inferInstanceAs (BQ (p.y+q.y) _)⟩
instance LB.revA (l:ab) [h:LB l]:LB l.rev:=⟨⟨by rw[show l.rev.a= -l.a from J,jR];exact h.bl.a,by rw[show l.rev.b= -l.b from J,jR];exact h.bl.b,by rw[show l.rev.c= -l.c from J,jR];exact h.bl.c⟩⟩
def Vc:PF GB prog 351 [] (eW av.all):=by
 refine fn func351 J J ntmps351 J J (fun C=>?_);exact i4 J Vr
def xm{l:ab}:PF GB prog 321 [eH l] (eZ l.nor):=by
 refine fn func321 J J ntmps321 J J (fun C=>?_);exact rz J J
def vC{l:ab}[hl:LB l]:PF GB prog 258 [eH l] (eZ l.dir):=by
 refine fn func258 J J ntmps258 J J (fun C=>?_);refine cl J (n8 (q:=(l.a:Rat))) J<|?_;exact rz J J
def uD{p q:aa}{i j:Nat}[hp:aI p i][hq:aI q j](hi:i<=40000000:=by decide)(hj:j<=40000000:=by decide):PF GB prog 244 [eZ p,eZ q] (eF (p.dot q)):=by
 refine fn func244 J J ntmps244 J J (fun C=>?_);refine cl J (sk (p:=p.x) (q:=q.x) (by omega) (by omega)) J<|cl J (sk (p:=p.y) (q:=q.y) (by omega) (by omega)) J<|cl J (sG (p:=p.x*q.x) (q:=p.y*q.y) (by omega) (by omega)) J<|?_;exact rz J J
def Lc{p q:aa}{i j:Nat}[hp:aI p i][hq:aI q j](hi:i<=40000000:=by decide)(hj:j<=40000000:=by decide):PF GB prog 298 [eZ p,eZ q] (eF (p.cross q)):=by
 refine fn func298 J J ntmps298 J J (fun C=>?_);refine cl J (sk (p:=p.x) (q:=q.y) (by omega) (by omega)) J<|cl J (sk (p:=p.y) (q:=q.x) (by omega) (by omega)) J<|cl J (uB (p:=p.x*q.y) (q:=p.y*q.x) (by omega) (by omega)) J<|?_;exact rz J J
def DF{p:aa}{c:Rat}{i j:Nat}[hp:aI p i][hc:BQ c j](hi:i<=40000000:=by decide)(hj:j<=40000000:=by decide):PF GB prog 126 [eZ p,eF c] (eZ (p.scale c)):=by
 refine fn func126 J J ntmps126 J J (fun C=>?_);refine cl J (sk (p:=p.x) (q:=c) (by omega) (by omega)) J<|cl J (sk (p:=p.y) (q:=c) (by omega) (by omega)) J<|?_;exact rz J J
def I0{p q:aa}{i j:Nat}[hp:aI p i][hq:aI q j](hi:i<=40000000:=by decide)(hj:j<=40000000:=by decide):PF GB prog 206 [eZ p,eZ q] (eZ (p.add q)):=by
 refine fn func206 J J ntmps206 J J (fun C=>?_);refine cl J (sG (by omega) (by omega)) J<|cl J (sG (by omega) (by omega)) J<|?_;exact rz J J
def N1{l:ab}[hl:LB l]:PF GB prog 352 [eH l] (eZ l.base):=by
 refine fn func352 J J ntmps352 J J (fun C=>?_);refine cl J xm J<|cl J (n8 (q:=(l.c:Rat))) J<|cl J (uD (p:=l.nor) (q:=l.nor)) J<|cl J (yW (p:= -(l.c:Rat)) (q:=l.nor.dot l.nor)) J<|?_;refine cl J (DF (p:=l.nor)) J<|?_;exact rz J J
def Ip{l:ab}{p:aa}{i:Nat}[hl:LB l][hp:aI p i](hi:i<=10000000:=by decide):PF GB prog 347 [eH l,eZ p] (eF (l.value p)):=by
 refine fn func347 J J ntmps347 J J (fun C=>?_);refine cl J (xm (l:=l)) J<|cl J (uD (p:=l.nor) (q:=p) (by omega) (by omega)) J<|cl J (sG (p:=l.nor.dot p) (q:=(l.c:Rat)) (by omega) (by omega)) J<|?_;exact rz J J
def vf{l:ab}{p:aa}{i:Nat}[hl:LB l][hp:aI p i](hi:i<=10000000:=by decide):PF GB prog 259 [eH l,eZ p] (vI (l.value p).num.sign):=by
 refine fn func259 J J ntmps259 J J (fun C=>?_);refine cl J (Ip (l:=l) (p:=p) hi) J<|cl J (mr (q:=l.value p) (by omega)) J<|?_;exact rz J J
def Br{l:ab}{t:Rat}{i:Nat}[hl:LB l][ht:BQ t i](hi:i<=10000000:=by decide):PF GB prog 345 [eH l,eF t] (eZ (l.at t)):=by
 refine fn func345 J J ntmps345 J J (fun C=>?_);refine cl J (N1 (l:=l)) J<|cl J (vC (l:=l)) J<|cl J (DF (p:=l.dir) (c:=t) (by omega) (by omega)) J<|cl J (I0 (p:=l.base) (q:=l.dir.scale t) (by omega) (by omega)) J<|?_;exact rz J J
def Uy{v:av}{i j:Nat}[h1:BQ v.lo i][h2:BQ v.hi j](hi:i<=40000000:=by decide)(hj:j<=40000000:=by decide):PF GB prog 381 [eW v] (vB v.empty):=by
 refine fn func381 J J ntmps381 J J (fun C=>?_);refine nv 6 J J J (fun hg6=>?_) (fun hg6=>?_)
 .
  refine nv 11 J J J (fun hg11=>?_) (fun hg11=>?_)
  .
   refine cl J (m9 (p:=v.lo) (q:=v.hi) (by omega) (by omega)) J<|?_;exact rz J (by unfold av.empty;simp_all [vB,iE])
  .
   exact rz J (by unfold av.empty;simp_all [vB,iE])
 .
  exact rz J (by unfold av.empty;simp_all [vB,iE])
instance av.meet_lo (v w:av) (i j:Nat) [h1:BQ v.lo i] [h3:BQ w.lo j]:BQ (v.meet w).lo (i+j):=by
 have a:=h1.mono (pM i j);have b:=h3.mono (Nat.le_add_left j i);unfold av.meet;dsimp only;(repeat' split)<;>assumption
instance av.meet_hi (v w:av) (i j:Nat) [h1:BQ v.hi i] [h3:BQ w.hi j]:BQ (v.meet w).hi (i+j):=by
 have a:=h1.mono (pM i j);have b:=h3.mono (Nat.le_add_left j i);unfold av.meet;dsimp only;(repeat' split)<;>assumption
def OV{v w:av}{i j:Nat}[h1:BQ v.lo i][h2:BQ v.hi i][h3:BQ w.lo j][h4:BQ w.hi j](hi:i<=10000000:=by decide)(hj:j<=10000000:=by decide):PF GB prog 353 [eW v,eW w] (.tp [eW (v.meet w),vB (!(v.meet w).empty)]):=by
 refine fn (fu:=⟨16⟩) func353 J J ntmps353 J J (fun C=>?_);refine mg (fu:=⟨1⟩) (X:=Unit) (fun _=>[(6, .ov 6 0)]) (fun _=>[(6,some (.o 220 [.d (vI (dx (v.meet w).lo)), .d (vI (dB (v.meet w).lo)), .d (c9 (v.meet w).lo), .d (vI (dx v.hi)), .d (vI (dB v.hi)), .d (c9 v.hi), .d (.v (.bool (v.nl&&w.nl))), .d (.v (.bool (v.nh)))] true))]) (fun _=>True) [6] [6] rfl ?_ (fun _=>J) (fun _ _=>?_)
 .
  refine gx J<|?_;refine bb (v1:=fun hc8=>by simp only[ah];kernel_rfl) J J J (fun hc8=>?_) (fun hc8=>?_)
  .
   have em:(v.meet w).lo=w.lo:=by unfold av.meet;simp_all
   have eb:(v.nl&&w.nl)=w.nl:=by simp_all
   exact at_ () trivial (hO:=⟨by rw[em,eb]<;>rfl,by repeat (first|exact trivial|refine And.intro J ?_)⟩)
  .
   refine bb J J J (fun hc17=>?_) (fun hc17=>?_)
   .
    refine cl J (aC8 (p:=v.lo) (q:=w.lo) (by omega) (by omega)) J<|?_;have em:(v.meet w).lo=(if v.lo<w.lo then w.lo else v.lo):=by unfold av.meet;simp_all
    have eb:(v.nl&&w.nl)=v.nl:=by simp_all
    exact at_ () trivial (hO:=⟨by rw[em,eb]<;>rfl,by repeat (first|exact trivial|refine And.intro J ?_)⟩)
   .
    have em:(v.meet w).lo=v.lo:=by unfold av.meet;simp_all
    have eb:(v.nl&&w.nl)=v.nl:=by simp_all
    exact at_ () trivial (hO:=⟨by rw[em,eb]<;>rfl,by repeat (first|exact trivial|refine And.intro J ?_)⟩)
 .
  refine mg (X:=Unit) (fun _=>[(6, .ov 6 0)]) (fun _=>[(6,some (.o 220 [.d (vI (dx (v.meet w).lo)), .d (vI (dB (v.meet w).lo)), .d (c9 (v.meet w).lo), .d (vI (dx (v.meet w).hi)), .d (vI (dB (v.meet w).hi)), .d (c9 (v.meet w).hi), .d (.v (.bool (v.nl&&w.nl))), .d (.v (.bool (v.nh&&w.nh)))] true))]) (fun _=>True) [6] [6] rfl ?_ (fun _=>J) (fun _ _=>?_)
  .
   refine gx J<|?_;refine bb (v1:=fun hc27=>by simp only[ah];kernel_rfl) J J J (fun hc27=>?_) (fun hc27=>?_)
   .
    have em:(v.meet w).hi=w.hi:=by unfold av.meet;simp_all
    have eb:(v.nh&&w.nh)=w.nh:=by simp_all
    exact at_ () trivial (hO:=⟨by rw[em,eb]<;>rfl,by repeat (first|exact trivial|refine And.intro J ?_)⟩)
   .
    refine bb J J J (fun hc36=>?_) (fun hc36=>?_)
    .
     refine cl J (Rs (p:=v.hi) (q:=w.hi) (by omega) (by omega)) J<|?_;have em:(v.meet w).hi=(if w.hi<v.hi then w.hi else v.hi):=by unfold av.meet;simp_all
     have eb:(v.nh&&w.nh)=v.nh:=by simp_all
     exact at_ () trivial (hO:=⟨by rw[em,eb]<;>rfl,by repeat (first|exact trivial|refine And.intro J ?_)⟩)
    .
     have em:(v.meet w).hi=v.hi:=by unfold av.meet;simp_all
     have eb:(v.nh&&w.nh)=v.nh:=by simp_all
     exact at_ () trivial (hO:=⟨by rw[em,eb]<;>rfl,by repeat (first|exact trivial|refine And.intro J ?_)⟩)
  .
   refine cl J (Uy (v:=v.meet w) (i:=i+j) (j:=i+j) (by omega) (by omega)) J<|?_;exact rz J J
theorem BQ.z1:BQ (0:Rat) 1:=⟨by decide,by decide⟩
def Wz{v:av}{t:Rat}{i j:Nat}[h1:BQ v.lo i][h2:BQ v.hi i][h3:BQ t j](hi:i<=10000000:=by decide)(hj:j<=9999999:=by decide):PF GB prog 353 [eW v, .ag [vI (dx t),vI (dB t),c9 t,vI 0,vI 0, .v (.pointer none), .v (.bool false), .v (.bool true)]] (.tp [eW (v.meet ⟨t,0,false,true⟩),vB (!(v.meet ⟨t,0,false,true⟩).empty)]):=
 (OV (v:=v) (w:=⟨t,0,false,true⟩) (j:=j+1) (h3:=h3.mono (by omega)) (h4:=BQ.z1.mono (by omega)) hi (by omega)).ofI fun G vs hv=>H5 (fun y hy=>by
  obtain⟨l,rfl,g⟩:=cO.1 hy;exact cO.2 ⟨l,J,Hu [_,_,_] g⟩) hv
def ayh{v:av}{t:Rat}{i j:Nat}[h1:BQ v.lo i][h2:BQ v.hi i][h3:BQ t j](hi:i<=10000000:=by decide)(hj:j<=9999999:=by decide):PF GB prog 353 [eW v, .ag [vI 0,vI 0, .v (.pointer none),vI (dx t),vI (dB t),c9 t, .v (.bool true), .v (.bool false)]] (.tp [eW (v.meet ⟨0,t,true,false⟩),vB (!(v.meet ⟨0,t,true,false⟩).empty)]):=
 (OV (v:=v) (w:=⟨0,t,true,false⟩) (j:=j+1) (h4:=h3.mono (by omega)) (h3:=BQ.z1.mono (by omega)) hi (by omega)).ofI fun G vs hv=>H5 (fun y hy=>by
  obtain⟨l,rfl,g⟩:=cO.1 hy;exact cO.2 ⟨l,J,Bx g⟩) hv
instance BQ.cutK (l m:ab) [LB l] [LB m]:BQ (l.cutK m) 400:=BQ.mono (inferInstance:BQ (m.nor.dot l.dir) _) (by decide)
instance BQ.cutC (l m:ab) [LB l] [LB m]:BQ (l.cutC m) 2500:=BQ.mono (inferInstance:BQ (m.value l.base) _) (by decide)
def zo{l m:ab}{v:av}{i:Nat}[hl:LB l][hm:LB m][h1:BQ v.lo i][h2:BQ v.hi i](hi:i<=10000000:=by decide):PF GB prog 276 [eH l,eW v,eH m] (.tp [eW (l.cutV v m),vB (l.cutB v m)]):=by
 refine fn func276 J J ntmps276 J J (fun C=>?_);refine cl J (xm (l:=m)) J<|cl J (vC (l:=l)) J<|cl J (uD (p:=m.nor) (q:=l.dir)) J<|cl J (N1 (l:=l)) J<|?_;refine cl J (Ip (l:=m) (p:=l.base)) J<|cl J (mr (q:=l.cutK m)) J<|?_;refine br J J J (fun hc21=>?_) (fun hc21=>?_)
 .
  refine cl J (mr (q:=l.cutC m)) J<|?_;exact rz J (by unfold ab.cutV ab.cutB;rw[if_pos hc21,if_pos hc21];rfl)
 .
  refine br J J J (fun hc27=>?_) (fun hc27=>?_)
  .
   refine cl J (yW (p:=l.cutC m) (q:=l.cutK m)) J<|cl J (n8 (q:=l.cutC m/l.cutK m)) J<|cl J (Wz (v:=v) (t:= -(l.cutC m/l.cutK m)) hi) J<|?_;exact rz J (by unfold ab.cutB ab.cutV;rw[if_neg hc21,if_neg hc21,if_pos hc27];rfl)
  .
   refine cl J (yW (p:=l.cutC m) (q:=l.cutK m)) J<|cl J (n8 (q:=l.cutC m/l.cutK m)) J<|cl J (ayh (v:=v) (t:= -(l.cutC m/l.cutK m)) hi) J<|?_;exact rz J (by unfold ab.cutB ab.cutV;rw[if_neg hc21,if_neg hc21,if_neg hc27];rfl)
def OA{v:av}{i:Nat}[h1:BQ v.lo i][h2:BQ v.hi i](hi:i<=10000000:=by decide):PF GB prog 346 [eW v] (eF v.sample):=by
 refine fn func346 J J ntmps346 J J (fun C=>?_);refine nv 6 J J J (fun hg6=>?_) (fun hg6=>?_)
 .
  refine bb J J J (fun hc3=>?_) (fun hc3=>?_)
  .
   exact i4 J (by unfold av.sample;rw[hg6,hc3];exact vn)
  .
   refine bb J J J (fun hc11=>?_) (fun hc11=>?_)
   .
    refine cl J (qt (m:=1) (by decide)) J<|cl J (uB (p:=v.hi) (q:=((1:Int):Rat)) (by omega) (by decide)) J<|?_;exact rz J (by unfold av.sample;simp_all [iE]<;>rfl)
   .
    refine bb J J J (fun hc18=>?_) (fun hc18=>?_)
    .
     refine cl J (qt (m:=1) (by decide)) J<|cl J (sG (p:=v.lo) (q:=((1:Int):Rat)) (by omega) (by decide)) J<|?_;exact rz J (by unfold av.sample;simp_all [iE]<;>rfl)
    .
     refine cl J (sG (p:=v.lo) (q:=v.hi) (by omega) (by omega)) J<|cl J (Hr (q:=v.lo+v.hi) (by omega)) J<|?_;exact rz J (by unfold av.sample;simp_all [iE]<;>rfl)
 .
  refine bb J J J (fun hc11=>?_) (fun hc11=>?_)
  .
   refine cl J (qt (m:=1) (by decide)) J<|cl J (uB (p:=v.hi) (q:=((1:Int):Rat)) (by omega) (by decide)) J<|?_;exact rz J (by unfold av.sample;simp_all [iE]<;>rfl)
  .
   refine bb J J J (fun hc18=>?_) (fun hc18=>?_)
   .
    refine cl J (qt (m:=1) (by decide)) J<|cl J (sG (p:=v.lo) (q:=((1:Int):Rat)) (by omega) (by decide)) J<|?_;exact rz J (by unfold av.sample;simp_all [iE]<;>rfl)
   .
    refine cl J (sG (p:=v.lo) (q:=v.hi) (by omega) (by omega)) J<|cl J (Hr (q:=v.lo+v.hi) (by omega)) J<|?_;exact rz J (by unfold av.sample;simp_all [iE]<;>rfl)
def BC(p q:aa):DV:= .ag [vI (dx p.x),vI (dB p.x),c9 p.x,vI (dx p.y),vI (dB p.y),c9 p.y,vI (dx q.x),vI (dB q.x),c9 q.x,vI (dx q.y),vI (dB q.y),c9 q.y]
def Dl{C:aD}{n:Nat}{Q0:Exit->Act->World->Prop}{fr:aA}{own:aO}{ops:Array Oper}{r:List Oper}{K:List Kt}(k:Nat){l:List DV}(hl:bg fr k=some (.d (.pt l)))(h:aj prog GB C n Q0 ((k, .ep l)::fr) own (.ops ops r K)):aj prog GB C n Q0 fr own (.ops ops r K):=
 pm hl (fun ρ G y hy=>by
  obtain⟨b,m,rfl,h1,h2⟩:=ph.1 hy;have e:=h2.len;exact⟨b,0,m,m,J,h1,by rw[ma m 0 l.length (by omega),jJ,<-e,dT],h2⟩) h
section
variable {GB:Gh} {C:aD} {n:Nat} {Q0:Exit->Act->World->Prop} {fr fr':aA} {own own':aO} {cf cf':Cf} {vc:List Prop} {lk:LK} {bk:BM}
variable {dst:Option Nat} {t t' ty':TypeId} {pos:String} {af:Array Edge} {gd:Option (Nat×Bool)} {x y:Operand}
def aKW(fr:aA)(cf:Cf):Option (List DV):=match cd fr cf with
 |some ⟨_, .binOp .eql t x (.const (.slice none _ _)) _,_,_,_,_⟩=>match dh tt t with
  |some ⟨.sl _ _ _,_,_,_⟩=>match aP (bz fr cf) x with
   |some (.d (.sl l))=>some l
   |_=>none
  |_=>none
 |_=>none
def PVr(GB:Gh)(P:Program)(f:FuncId)(s off m:Nat)(ty:TypeId)(dsi dso:List DV):Prop:=
 ∀G w b c B,bw GB G->dm G ⟨w,s,ty,dsi,false⟩ B->w.a=some ⟨b,0,none⟩->m<=c->i8 P f [.slice (some ⟨b,off*s,none⟩) m c] B G (fun v own' G'=>Is G' (.tp []) v/\dm G' ⟨w,s,ty,dso,false⟩ own')
structure CV where
 f:FuncId
 nm:Nat
 s:Nat
 off:Nat
 m:Nat
 ty:TypeId
 ds:List DV
 lo:Bool
def cvA(fr:aA)(own:aO)(cf:Cf):Option CV:=match cd fr cf with
 |some ⟨_, .call ⟨.value fo,⟨[x]⟩,_⟩,_,_,_,_⟩=>match aP (bz fr cf) fo with
  |some (.d (.v (.func (.func f) ⟨[]⟩ ⟨[]⟩)))=>match aP (bz fr cf) x with
   |some (.rs nm s off m)=>match gq fr own cf nm with
    |some (.b ty s' ds lo)=>bif Nat.beq s s' then some ⟨f,nm,s,off,m,ty,ds,lo⟩ else none
    |_=>none
   |_=>none
  |_=>none
 |_=>none
end
section
variable {GB:Gh} {C:aD} {n:Nat} {Q0:Exit->Act->World->Prop} {fr fr':aA} {own own':aO} {cf cf':Cf} {vc:List Prop} {ops:Array Oper} {r:List Oper} {K:List Kt}
def xY(k:Nat){d:DV}(hl:bg fr k=some (.d d))(h: ∀(GB':Gh) (pv:Value),bw GB GB'->Is GB' d pv->aj prog GB' C n Q0 ((k, .d (.v pv))::fr) own (.ops ops r K)):aj prog GB C n Q0 fr own (.ops ops r K):=by
 refine⟨fun ρ G ov a w r0=>?_⟩;obtain⟨y,hy,hy'⟩:=r0.fx k _ hl;refine(h G y r0.gb hy').run ρ G ov a w ⟨bw.refl _,r0.h,r0.sz,r0.df,fun j f e=>?_,r0.bx,r0.dj,r0.fxd⟩;rw[jA] at e;split at e
 ·rename_i hj
  cases e;subst hj
  exact⟨y,hy,(aG (G:=G)).2 J⟩
 ·exact r0.fx j f e
def aKG(fr:aA)(cf:Cf):Option (FuncId×Value):=match cd fr cf with
 |some ⟨_, .makeFunc (.func f) ⟨[x]⟩ ⟨[]⟩,_,_,_,_⟩=>match aP (bz fr cf) x with
  |some (.d (.v pv))=>some (f,pv)
  |_=>none
 |_=>none
def aKq(fr:aA)(cf:Cf):Option (FuncId×List Value×List DV):=match cd fr cf with
 |some ⟨_, .call ⟨.value fo,args,_⟩,_,_,_,_⟩=>match aP (bz fr cf) fo,evDs (bz fr cf) args.toList with
  |some (.d (.v (.func (.func f) ⟨c1⟩ ⟨[]⟩))),some ds=>some (f,c1,ds)
  |_,_=>none
 |_=>none
def OF:List (Nat×Operand)->Option (List (Nat×Value))
 |[]=>some []
 |(i, .const v)::t=>match OF t with
  |some l=>some ((i,v)::l)
  |none=>none
 |_::_=>none
def aKn(cf:Cf)(fr:aA):Option (TypeId×List (Nat×Value)):=match cd fr cf with
 |some ⟨_, .build t ⟨ps⟩,_,_,_,_⟩=>match OF ps with
  |some vs=>some (t,vs)
  |none=>none
 |_=>none
def Mp(fr:aA)(own:aO)(cf:Cf):Option (TypeId×Nat×Nat×List FX×Bool×FX):=match cd fr cf with
 |some ⟨_, .store t x y,_,_,_,_⟩=>match aP (bz fr cf) x with
  |some (.ov nm 0)=>match gq fr own cf nm with
   |some (.o ty cs lo)=>match aP (bz fr cf) y with
    |some fv=>some (t,nm,ty,cs,lo,fv)
    |_=>none
   |_=>none
  |_=>none
 |_=>none
def M0[fu:Fu]{t nm ty len e:Nat}{cs:List FX}{lo:Bool}{fv:FX}{j:TypeInfo}(h:Mp fr own cf=some (t,nm,ty,cs,lo,fv))(hu:prog.underlying t=some (.array len e))(hj:prog.info? t=some j)(hc:fv.okc=true/\fv.cells.length=j.size/\j.size=cs.length)
  (hgo:cA tt n fu.n fr own cf .un [(nm,some (.o ty (vW cs 0 fv.cells) lo))] []=⟨vc,fr',own',cf'⟩)(k:aj prog GB C n Q0 fr' own' cf')
  (hv:ah vc:=by first|exact trivial|(simp only[ah];kernel_rfl)|(simp only[ah];omega)):aj prog GB C n Q0 fr own cf:=by
 unfold Mp at h;split at h<;>try (cases h;done)
 rename_i hh;split at h<;>try (cases h;done)
 rename_i e1;split at h<;>try (cases h;done)
 rename_i hb;split at h<;>cases h;rename_i e2;obtain⟨c1,c2,c3⟩:=hc;have:lj prog t j.size:=⟨fun w=>AN hu w,fun w=>uc hj w⟩;refine us hh ?_ hgo hv k;intro hd tl tb K s1 s2 hf hk;refine⟨fun ρ G ov a w r Q=>?_⟩;have r1:=r.mono s1 s2;obtain⟨p,h1,h2⟩:=r1.ev e1;obtain⟨q,h3,h4⟩:=r1.ev e2;obtain⟨b,m,rfl,ha,h5,h6⟩:=r1.own h2 hb;obtain⟨h7,h8⟩:=h4.cells c1;obtain⟨own',u1,u2,u3⟩:=fD.of_mem (cs':=cp m 0 (aE q)) h6;exact B7 h1 h3 u1 (by rw[h7.len,c2]) (by rw[h5.len,c3];omega) (fX.2 h8) hd (fun a' w' rl=>r.wrote (m:=m) (s2 _ _ hb) ha (h5.ov h7) u2 u3 hk rl) a w Q ⟨r.h,r.sz,cB a,r.df⟩
def aKH(fr:aA)(cf:Cf):Option QU:=match cd fr cf with
 |some ⟨some d, .buildSlice t len parts,_,_,_,_⟩=>match dh tt t with
  |some ⟨.sl e s _,_,_,_⟩=>match vP (bz fr cf) 0 parts.toList with
   |some ds=>bif Bu s ds&&(Nat.beq parts.toList.length len&&(Nat.ble (len*s) 1000&&Nat.blt 0 (len*s))) then some ⟨d,e,s,ds⟩ else none
   |none=>none
  |_=>none
 |_=>none
def aKY(fr:aA)(cf:Cf):Option (TypeId×List DV):=match cd fr cf with
 |some ⟨_, .load t x,_,_,_,_⟩=>match aP (bz fr cf) x with
  |some (.ep l)=>some (t,l)
  |_=>none
 |_=>none
def UG:TypeDesc->Bool
 | .struct _=>false
 | .array _ _=>false
 |_=>true
end
section
variable {GB:Gh} {C:aD} {n:Nat} {Q0:Exit->Act->World->Prop} {fr fr':aA} {own own':aO} {cf cf':Cf} {vc:List Prop} {ops:Array Oper} {r:List Oper} {K:List Kt}
def aD.mkD(C:aD)(f:FuncId)(c2:List Value):aD:={C with mks:=[{target:= .fn (.func f) ⟨c2⟩,args:= #[]}]}
def WS{f:FuncId}{c2:List Value}{ov:List ak}{G:Gh}{w:World}(h:bm C ov G w):bm (C.mkD f c2) ov G w:=
 ⟨h.os,h.tape,h.output,h.size,h.keep,h.sub,h.gle,h.gold,h.hown,h.nd,h.dr,h.ext⟩
def ast{f:FuncId}{c2:List Value}{ov:List ak}{G:Gh}{w:World}(h:bm (C.mkD f c2) ov G w):bm C ov G w:=
 ⟨h.os,h.tape,h.output,h.size,h.keep,h.sub,h.gle,h.gold,h.hown,h.nd,h.dr,h.ext⟩
def H4(P:Program)(fb:Func)(R:Ending->World->Prop):Exit->Act->World->Prop:=bodyPostDIn (FW none) 0 P fb R
def Yn[fu:Fu]{f:FuncId}{fb:Func}{c:Code}{m:Nat}{ds:List DV}{rv:DV}(hf:prog.funcs[f]? =some fb)(hb:fb.body=some c)(hn:(fb.name== "runtime.NumGoroutine")=false)(hm:fb.ntmps=m)(hlen:Nat.ble ds.length m=true)
  (hgo:go tt m fu.n [] (qa 0 ds) [] (.code c [])=⟨vc,fr,own,cf⟩)(k: ∀C:aD,Dy C->aj prog GB C m (H4 prog fb (iB C (fun v G'=>Is G' rv v))) fr own cf)
  (hv:ah vc:=by first|exact trivial|(simp only[ah];kernel_rfl)|(simp only[ah];omega)):PF GB prog f ds rv:=by
 intro G vs hg hvs;refine⟨⟨fb,hf,hn,by simp[hb]⟩,fun w hw=>?_⟩;have hlen':vs.length<=m:=by rw[hvs.len];simpa using hlen
 have h:=fq (GB:=GB) (C:=kO w G) (Q0:=H4 prog fb (iB (kO w G) (fun v G'=>Is G' rv v))) hgo hv (k (kO w G) ⟨J,J,J⟩);refine(callsIn_wide (n:=0)).1 (callsIn_of_wp_defers (F:=FW none) (n:=0) hf hb trivial ?_);refine h.run (fun _=>⟨none,0,0⟩) G [] _ w ⟨hg,Ck hw,by simp;omega,J,fun k f e=>vr hvs (fun k v hk=>?_) k f e,(fun nm B e=>by cases e),(fun nm nm' B B' e=>by cases e),fun nm p _ _ e=>by cases e⟩;obtain⟨j,rfl,hj⟩:=uv vs 0 k v hk;have hj':=(aU.1 hj).1;rw[jX (by simpa using hj')];simpa using hj
def dfr{P:Program}{f:FuncId}{d x y:Nat}{gx gy:FX}{t1 t2:TypeId}{p1 p2:String}{a1 a2:Array Edge}{tys:Array TypeId}(h0:Dy C)(hx:bg fr x=some gx)(hy:bg fr y=some gy)(hd:bg fr d=none)(hdn:d<n)
  (k: ∀p q,aj P GB (C.mkD f [p,q]) n Q0 fr own (.ops ops r K)):
  aj P GB C n Q0 fr own (.ops ops (⟨some d, .makeFunc (.func f) ⟨[]⟩ ⟨[.tmp x, .tmp y]⟩,t1,p1,a1,none⟩::⟨none, .defer ⟨.value (.tmp d),⟨[]⟩,tys⟩,t2,p2,a2,none⟩::r) K):=by
 refine⟨fun ρ G ov a w r0=>?_⟩;obtain⟨v1,hv1,_⟩:=r0.fx x gx hx;obtain⟨v2,hv2,_⟩:=r0.fx y gy hy;have e1:(execOp a.eval ⟨some d, .makeFunc (.func f) ⟨[]⟩ ⟨[.tmp x, .tmp y]⟩,t1,p1,a1,none⟩).run P w= .ok (.value (.func (.func f) ⟨[]⟩ ⟨[v1,v2]⟩)) w:=by
  have q1:a.eval (.tmp x)=v1:=by simp[Act.eval,hv1]
  have q2:a.eval (.tmp y)=v2:=by simp[Act.eval,hv2]
  have:=zG (P:=P) (C:=C) (own:=ov) (G:=G) (fr:=cv a) (dst:=some d) (ty':=t1) (pos:=p1) (af:=a1) (gd:=none) (fn:= .func f) (c1:=⟨[]⟩) (c2:=⟨[.tmp x, .tmp y]⟩) (l1:=[]) (l2:=[a.eval (.tmp x),a.eval (.tmp y)]) J (by
   have w1:aw (cv a) (.tmp x)=some v1:=by
    simp only[aw];exact x6 hv1
   have w2:aw (cv a) (.tmp y)=some v2:=by
    simp only[aw];exact x6 hv2
   simp[oK,w1,w2,q1,q2])
  rw[q1,q2] at this;exact this a w (cB a) r0.h
 have hkk:=(k v1 v2).run ρ G ov {tmps:=a.tmps.setIfInBounds d (.func (.func f) ⟨[]⟩ ⟨[v1,v2]⟩),defers:=[{target:= .fn (.func f) ⟨[v1,v2]⟩,args:= #[]}]} w ⟨r0.gb,WS r0.h,by simpa using r0.sz,J,fun j g e=>by
   obtain⟨u,h1,h2⟩:=r0.fx j g e;refine⟨u,?_,h2⟩;have hne:d≠j:=fun he=>by rw[<-he,hd] at e;cases e
   rw[Array.getElem?_setIfInBounds_ne hne];exact h1,r0.bx,r0.dj,r0.fxd⟩
 have hrd:C.rd=none:=h0.rd;show wpListIn (FW C.rd) 0 P ops (cQ C.rd P Q0 K) _ a w;have hkk':wpListIn (FW C.rd) 0 P ops (cQ C.rd P Q0 K) r _ w:=hkk;rw[hrd] at hkk'⊢;simp only[wpListIn,Region.wanted,if_true];refine⟨fun _ _=>trivial,?_⟩;rw[show(FW none).round=none from J,Oper.semAt_none,e1];show Oper.wpIn (FW none) 0 P _ _ w _ _;refine⟨fun _ _=>trivial,?_⟩;have hsz:d<a.tmps.size:=by rw[r0.sz];exact hdn
 have e2:(execOp (Act.put a (some d) (.func (.func f) ⟨[]⟩ ⟨[v1,v2]⟩)).eval ⟨none, .defer ⟨.value (.tmp d),⟨[]⟩,tys⟩,t2,p2,a2,none⟩).run P w= .ok (.defer {target:= .fn (.func f) ⟨[v1,v2]⟩,args:= #[]}) w:=by
  have q3:(Act.put a (some d) (.func (.func f) ⟨[]⟩ ⟨[v1,v2]⟩)).eval (.tmp d)= .func (.func f) ⟨[]⟩ ⟨[v1,v2]⟩:=by simp[Act.eval,Act.put,hsz]
  simp[execOp,resolve,q3,Deferred.ofValue,go_sem,hsz]
 rw[show(FW none).round=none from J,Oper.semAt_none,e2];show wpListIn (FW none) 0 P ops (cQ none P Q0 K) r _ w;have hda:a.defers=[]:=by rw[r0.df,h0.mks]
 have:(Act.put ({(Act.put a (some d) (.func (.func f) ⟨[]⟩ ⟨[v1,v2]⟩)) with defers:={target:= .fn (.func f) ⟨[v1,v2]⟩,args:= #[]}::(Act.put a (some d) (.func (.func f) ⟨[]⟩ ⟨[v1,v2]⟩)).defers}) none undef)={tmps:=a.tmps.setIfInBounds d (.func (.func f) ⟨[]⟩ ⟨[v1,v2]⟩),defers:=[{target:= .fn (.func f) ⟨[v1,v2]⟩,args:= #[]}]}:=by
  simp[Act.put,hda]
 rw[this];exact hkk'
def KU(P:Program)(f:FuncId):Prop:= ∀p q w,CallsDIn (FW none) 0 P f #[p,q] .returning w fun e u' w'=>e= .returned (.tuple #[])/\u'= .returning/\w'=w
def ZO{fb:Func}{e:Exit}{ds:List DV}{rv:DV}{f:FuncId}{p q:Value}(hI:KU prog f)(hfb:pn prog f)(hr:oP tt fr own fb.results.toList=some ds)(hd:iE ds=rv)(he:wQ e=true:=by rfl):aj prog GB (C.mkD f [p,q]) n (H4 prog fb (iB C (fun v G'=>Is G' rv v))) fr own (.ex e []):=by
 refine⟨fun ρ G ov a w r=>?_⟩;obtain⟨vs,h1,h2⟩:=x4 r hr;have hk:Is G rv (gm vs):=hd▸xK h2;have hres:=tr (C:=C.mkD f [p,q]) (G:=G) (own:=ov) (w:=w) h1 (cB a) r.h;have key:LeavesIn (FW none) 0 prog fb a.tmps (iB C (fun v G'=>Is G' rv v)) a.defers .returning w:=by
  rw[r.df];refine leavesIn_cons (f:=f) (args:= #[p,q]) (by simp) (by simp[FW,Fence.wide]) ?_ (fun _ _=>trivial) ?_
  ·show(callFunc f (#[]++⟨[p,q]⟩)).run prog w=_
   rw[Ar hfb];simp
  refine(hI p q w).mono ?_;rintro e u' w' ⟨rfl,rfl,rfl⟩;exact⟨_,hres,_,G,J,(ast r.h).drop (kQ _),hk⟩
 cases e with
 |ret=>exact key
 |normal=>exact key
 |_=>cases he
def Pr(fr:aA)(own:aO)(cf:Cf):Option (TypeId×FX):=match cd fr cf with
 |some ⟨_, .load t x,_,_,_,_⟩=>match aP (bz fr cf) x with
  |some (.ov nm off)=>match gq fr own cf nm with
   |some (.o _ cs _)=>match cs[off]? with
    |some f=>some (t,f)
    |none=>none
   |_=>none
  |_=>none
 |_=>none
def UY[fu:Fu]{t:TypeId}{f:FX}{D:TypeDesc}{j:TypeInfo}(h:Pr fr own cf=some (t,f))(hu:prog.underlying t=some D)(hD:UG D=true)(hj:prog.info? t=some j)(hs:j.size=1)
  (hgo:cA tt n fu.n fr own cf f [] []=⟨vc,fr',own',cf'⟩)(k':aj prog GB C n Q0 fr' own' cf')
  (hv:ah vc:=by first|exact trivial|(simp only[ah];kernel_rfl)|(simp only[ah];omega)):aj prog GB C n Q0 fr own cf:=by
 unfold Pr at h;split at h<;>try (cases h;done)
 rename_i hh;split at h<;>try (cases h;done)
 rename_i hx;split at h<;>try (cases h;done)
 rename_i hb;split at h<;>cases h;rename_i hc;have:ik prog t:=⟨fun w=>by(rw[AN hu w];cases D<;>first|rfl|(cases hD;done)),fun w=>by rw[uc hj w,hs]⟩;refine us hh ?_ hgo hv k';refine .yd fun ρ G ov a w r=>?_;obtain⟨y,h1,h2⟩:=r.ev hx;obtain⟨b,m,rfl,h3,h4,h5⟩:=r.own h2 hb;obtain⟨l',h6,h7⟩:=h4.get hc;have:ig ov b m _ _:=⟨h5⟩;exact⟨l',h7,lm h1 h6⟩
end
instance BQ.i1':BQ (1:Rat) 2:=⟨by decide,by decide⟩
instance BQ.i2':BQ (2:Rat) 2:=⟨by decide,by decide⟩
instance aI.at (l:ab) (t:Rat) (k:Nat) [LB l] [BQ t k]:aI (l.at t) (900+(k+97)+1):=by
 rw[<-t8];infer_instance
def ly(d:aa):aa:=⟨-d.y,d.x⟩
instance aI.turn (d:aa) (k:Nat) [aI d k]:aI (ly d) k:=⟨inferInstanceAs (BQ (-d.y) k),inferInstanceAs (BQ d.x k)⟩
def CF(p v:aa)(m:ab):Rat:= -(m.value p/(m.value (dC p v ((1:Int):Rat))-m.value p))
def yT(p v:aa)(m:ab)(s:Rat):Rat:=if(m.value (dC p v ((1:Int):Rat))-m.value p).num.sign=0 then s else if(m.value p).num.sign=0 then s else if 0<(CF p v m).num.sign then(if bO (CF p v m/2) s<0 then CF p v m/2 else s) else s
def vH(p v:aa):List ab->Rat->Rat
 |[],s=>s
 |m::t,s=>vH p v t (yT p v m s)
def zt(c:List ab)(p v:aa):aa:=dC p v (vH p v c ((1:Int):Rat))
def wT(c:List ab):List ab->aa
 |[]=>⟨0,0⟩
 |m::t=>if(qd m c av.all).2=true then zt c (m.at (CI (qd m c av.all).1)) (ly m.dir) else wT c t
def Ui{es:List Int}{i:Nat}(h:i<es.length):(es.map vI)[(i:Int).toNat]? =some (vI (es.getD i 0)):=by simp[h]
def OD{es:List Int}{i:Nat}(h:i<es.length):o9 (es.drop i)=if es.getD i 0≠0 then es.getD i 0 else o9 (es.drop (i+1)):=by
 rw[bY h,o9,aK,aX h];rfl
def Wl{es:List Int}(hn:es.length<=1000000):PF GB prog 227 [.sl (es.map vI)] (vI (o9 es)):=by
 have hel:(es.map vI).length=es.length:=by simp
 refine fn (fu:=⟨15⟩) func227 J J ntmps227 J J (fun C=>?_);refine ao 7 (.d (vI (es.length:Nat))) J (by rw[hel]<;>rfl) ?_;refine gx J<|?_;refine lp (X:=Nat) (fun i=>[(8, .d (vI (i:Nat)))]) (fun i=>[]) (fun i=>i<=es.length/\o9 es=o9 (es.drop i)) (fun i=>es.length-i) 0 J ⟨bK _,J⟩ (fun _=>J) (fun i hk=>?_);obtain⟨h1,h2⟩:=hk;refine br J J J (fun hc9=>?_) (fun hc9=>?_)
 .
  refine ix _ J (Ui (by omega)) J<|?_;refine br J J J (fun hc14=>?_) (fun hc14=>?_)
  .
   exact rz J (by rw[h2,OD (by omega),if_pos hc14];rfl)
  .
   exact at_ (i+1) ⟨⟨by omega,by rw[h2,OD (by omega),if_neg hc14]⟩,(by omega)⟩
 .
  exact rz J (by rw[h2,gL (by omega)];rfl)
def IL(l m:ab):Int:=o9 [bO l.a m.a,bO l.b m.b,bO l.c m.c]
def WP(l m:ab):IL l m=0↔l=m:=by
 unfold IL o9 o9 o9 o9;have ha:=s5 (l.a:Rat) m.a;have hb:=s5 (l.b:Rat) m.b;have hc:=s5 (l.c:Rat) m.c;rw[nT] at ha hb hc;constructor
 ·intro h
  repeat' (split at h<;>try contradiction)
  all_goals exact ab.ext' (by omega) (by omega) (by omega)
 ·rintro rfl
  rw[if_neg (by simp[ha.2 J]),if_neg (by simp[hb.2 J]),if_neg (by simp[hc.2 J])]
def Ze{l m:ab}[hl:LB l][hm:LB m]:PF GB prog 134 [eH l,eH m] (vI (IL l m)):=by
 refine fn func134 J J ntmps134 J J (fun C=>?_);refine cl J (m9 (p:=(l.a:Rat)) (q:=(m.a:Rat))) J<|cl J (m9 (p:=(l.b:Rat)) (q:=(m.b:Rat))) J<|cl J (m9 (p:=(l.c:Rat)) (q:=(m.c:Rat))) J<|?_;refine rf J J<|cl J (Wl (es:=[bO l.a m.a,bO l.b m.b,bO l.c m.c]) (nb J)) J<|?_;exact rz J J
def Tb{l m:ab}[hl:LB l][hm:LB m]:PF GB prog 136 [eH l,eH m] (vB (decide (l=m))):=by
 refine fn func136 J J ntmps136 J J (fun C=>?_);refine cl J (Ze (l:=l) (m:=m)) J<|?_;exact rz J (by show DV.v (.bool (decide _))= .v (.bool _);congr 2;exact decide_eq_decide.2 (WP l m))
def FQ{l:ab}[hl:LB l]:PF GB prog 229 [eH l] (eH l.rev):=by
 refine fn func229 J J ntmps229 J J (fun C=>?_);refine cl J (n8 (q:=(l.a:Rat))) J<|cl J (n8 (q:=(l.b:Rat))) J<|cl J (n8 (q:=(l.c:Rat))) J<|?_;exact rz J (by unfold eH ab.rev;simp only[pZ];rfl)
def VR{l:ab}[hl:LB l]:PF GB prog 137 [eH l] (eL l):=by
 refine fn func137 J J ntmps137 J J (fun C=>?_);refine cl J (tg (q:=(l.a:Rat))) J<|cl J (tg (q:=(l.b:Rat))) J<|cl J (tg (q:=(l.c:Rat))) J<|?_;exact rz J J
def Qv{p:aa}{i:Nat}[hp:aI p i](hi:i<=10000000:=by decide):PF GB prog 354 [eZ p] (vI p.half):=by
 refine fn func354 J J ntmps354 J J (fun C=>?_);refine cl J (mr (q:=p.y) (by omega)) J<|?_;refine cs 10 J J J (fun hg10=>?_) (fun hg10=>?_)
 .
  exact rz J (by unfold aa.half;(repeat' split)<;>first|rfl|(exfalso;omega))
 .
  refine cs 13 J J J (fun hg13=>?_) (fun hg13=>?_)
  .
   refine cl J (mr (q:=p.x) (by omega)) J<|?_;refine br J J J (fun hc7=>?_) (fun hc7=>?_)
   .
    exact rz J (by unfold aa.half;(repeat' split)<;>first|rfl|(exfalso;omega))
   .
    refine cs 23 J J J (fun hg23=>?_) (fun hg23=>?_)
    .
     exact rz J (by unfold aa.half;(repeat' split)<;>first|rfl|(exfalso;omega))
    .
     refine cl J (mr (q:=p.x) (by omega)) J<|?_;refine br J J J (fun hc20=>?_) (fun hc20=>?_)
     .
      exact rz J (by unfold aa.half;(repeat' split)<;>first|rfl|(exfalso;omega))
     .
      exact rz J (by unfold aa.half;(repeat' split)<;>first|rfl|(exfalso;omega))
  .
   refine cs 23 J J J (fun hg23=>?_) (fun hg23=>?_)
   .
    exact rz J (by unfold aa.half;(repeat' split)<;>first|rfl|(exfalso;omega))
   .
    refine cl J (mr (q:=p.x) (by omega)) J<|?_;refine br J J J (fun hc20=>?_) (fun hc20=>?_)
    .
     exact rz J (by unfold aa.half;(repeat' split)<;>first|rfl|(exfalso;omega))
    .
     exact rz J (by unfold aa.half;(repeat' split)<;>first|rfl|(exfalso;omega))
def IN{u v:aa}{i j:Nat}[hp:aI u i][hq:aI v j](hi:i<=10000000:=by decide)(hj:j<=10000000:=by decide):PF GB prog 279 [eZ u,eZ v] (vI (di u v)):=by
 refine fn func279 J J ntmps279 J J (fun C=>?_);refine cl J (Qv (p:=u) hi) J<|cl J (Qv (p:=v) hj) J<|?_;refine br J J J (fun hc11=>?_) (fun hc11=>?_)
 .
  exact rz J (by unfold di;rw[if_pos hc11];rfl)
 .
  refine br J J J (fun hc15=>?_) (fun hc15=>?_)
  .
   exact rz J (by unfold di;rw[if_neg hc11,if_pos hc15];rfl)
  .
   refine cl J (Lc (p:=u) (q:=v) (by omega) (by omega)) J<|cl (fu:=⟨0⟩) J (mr (q:=u.cross v) (by omega)) J<|?_;have hs:=qK (u.cross v).num;refine gx J<|?_;exact rz J (by unfold di;rw[if_neg hc11,if_neg hc15];rfl)
def aDq{m:Int}:eo (dg m.natAbs)/\(decide (m<0)=true->0<(dg m.natAbs).length):=⟨(ew _).2.2,fun h=>by
 have:0<m.natAbs:=by have:=of_decide_eq_true h;omega
 exact ya.2 this⟩
def rG{m:Int}{i:Nat}[h:BI m i](hi:i<=1000000000:=by decide):PF GB prog 269 [eI m] (.v (.bool true)):=(I7 (neg:=decide (m<0)) (ds:=dg m.natAbs) (ew _).2.1 (by have:=mt (a:=m.natAbs) hi;omega)).to (by unfold vB;rw[decide_eq_true aDq])
def LZ{l:ab}(h:l.ok):rgcd (rgcd (l.a:Rat) (l.b:Rat)) (l.c:Rat)=((1:Int):Rat):=by
 rw[ww,ww];have:=h.2;simp only[jM];rw[this];rfl
instance BQ.rgcd (p q:Rat) (i j:Nat) [h:BQ p i] [k:BQ q j]:BQ (rgcd p q) (i+j+(i+j)):=by
 unfold Sx.rgcd;refine Ac (jU (mj p) (mj q)) ?_ ?_
 ·rw[jM]
  have h1:=o5 h.hn k.hd;have h2:=o5 k.hn h.hd;rw[lZ j i] at h2;exact FZ h1 h2
 ·have h1:=o5 h.hd k.hd
  have:2^(i+j)<=2^(i+j+(i+j)):=bR (by decide) (by omega);omega
def Sj{l:ab}[hl:LB l](ho:l.ok):PF GB prog 182 [eL l] (.tp [eH l,vB true]):=by
 refine fn func182 J J ntmps182 J J (fun C=>?_);refine cl (fu:=⟨0⟩) J (rG (m:=l.a)) J<|dt J J J<|cl (fu:=⟨0⟩) J (rG (m:=l.b)) J<|dt J J J<|cl (fu:=⟨0⟩) J (rG (m:=l.c)) J<|?_;refine dt J J J<|cl J (tk (m:=l.a)) J<|cl J (tk (m:=l.b)) J<|cl J (tk (m:=l.c)) J<|cl (fu:=⟨0⟩) J (u9 (q:=(l.a:Rat))) J<|?_;refine pi (fu2:=⟨4⟩) J J J J (fun hg35=>?_) (fun hg35=>?_)
 .
  have ha:l.a=0:=cW.1 hg35;refine cl (fu:=⟨1⟩) J (u9 (q:=(l.b:Rat))) J<|dt J (by first|rfl|(show some (decide _)=some false;rw[decide_eq_false (fun e=>ho.1 ⟨ha,cW.1 e⟩)])) J<|?_;refine cl J (od (p:=(l.a:Rat)) (q:=(l.b:Rat))) J<|cl J (od (p:=rgcd l.a l.b) (q:=(l.c:Rat))) J<|cl J (qt (m:=1) (by decide)) J<|?_;refine cl (fu:=⟨0⟩) J (yl (p:=rgcd (rgcd l.a l.b) l.c) (q:=((1:Int):Rat))) J<|dt J (by show some (!decide _)=some false;rw[LZ ho,decide_eq_true J];rfl) J<|?_;exact rz J J
 .
  refine dt J (by first|rfl|(show some (decide _)=some false;rw[decide_eq_false (fun e=>ho.1 ⟨ha,cW.1 e⟩)])) J<|cl J (od (p:=(l.a:Rat)) (q:=(l.b:Rat))) J<|?_;refine cl J (od (p:=rgcd l.a l.b) (q:=(l.c:Rat))) J<|cl J (qt (m:=1) (by decide)) J<|cl (fu:=⟨0⟩) J (yl (p:=rgcd (rgcd l.a l.b) l.c) (q:=((1:Int):Rat))) J<|?_;refine dt J (by show some (!decide _)=some false;rw[LZ ho,decide_eq_true J];rfl) J<|?_;exact rz J J
end Go.Sx
end
