import Derived.Test.YtmhfhhiaecjhiaaGreatDoorBr11
set_option linter.all false
set_option maxHeartbeats 1000000
set_option maxRecDepth 100000
section
namespace Go.Sx
open Go Go.Proofs Tryz
variable {GB:Gh}
def Ld{m:Int}{g:Nat}(hg:(g:Int)∣m)(hb:m.natAbs<4611686018427387904):IntKind.i64.wrap (m.tdiv g)=m/g:=by
 rw[Int.tdiv_eq_ediv_of_dvd hg];have:=mS m g;exact W4 (by omega)
def tm(a b:Int):Int:=if(a*b).natAbs<4611686018427387904 then a*b else 0
def H9(a b:Int):(tm a b).natAbs<4611686018427387904:=by unfold tm;split<;>omega
def y9{a b:Int}(h:(a*b).natAbs<4611686018427387904):tm a b=a*b:=if_pos h
def Mw{a b:Int}(h: ¬(a*b).natAbs<4611686018427387904:=by omega):DV.tp [vI 0, .v (.bool false)]= .tp [vI (tm a b),vB (decide ((a*b).natAbs<4611686018427387904))]:=by unfold tm;rw[if_neg h,decide_eq_false h];rfl
def O5{a b:Int}{x:Int}(h:(a*b).natAbs<4611686018427387904)(e:x=a*b):DV.tp [vI x, .v (.bool true)]= .tp [vI (tm a b),vB (decide ((a*b).natAbs<4611686018427387904))]:=by unfold tm;rw[if_pos h,decide_eq_true h,e];rfl
def Ll(n:Nat):eI (n:Int)= .ag [.v (.bool false),dN n]:=by unfold eI;rw[decide_eq_false (by omega),dR]
def Vq{p q:Rat}(hp:p.den=1)(hq:q.den=1):rgcd p q=((Nat.gcd p.num.natAbs q.num.natAbs:Nat):Int):=by
 conv=>lhs;rw[CH hp,CH hq]
 exact tU _ _
def Xv(q:Rat):mkRat (zv (decide (q.num<0)) q.den) q.num.natAbs=q⁻¹:=by
 rw[Rat.inv_def];by_cases h:q.num<0
 .rw[decide_eq_true h];exact Rl h
 .rw[decide_eq_false h,<-Rat.divInt_ofNat,mM (by omega)];rfl
instance BQ.inv (q:Rat) (i:Nat) [h:BQ q i]:BQ q⁻¹ i:=by
 have h1:=h.hn;have h2:=h.hd;have h3:=q.den_nz;rcases rJ q.num 0 with k|k|k
 .obtain⟨e1,e2⟩:=Jc k;exact⟨by omega,by omega⟩
 .have e:q=0:=lT.1 k
  have e0:(0:Rat)⁻¹=0:=Rat.inv_zero;rw[e] at h1 h2⊢;rw[e0];exact⟨h1,h2⟩
 .obtain⟨e1,e2⟩:=Jf k;exact⟨by omega,by omega⟩
instance BQ.half:BQ (mkRat 1 2) 2:=⟨by decide,by decide⟩
def azX{x y:Nat}(hx:x<18446744073709551616)(hy:y<18446744073709551616):PF GB prog 261 [.v (.int .u64 (x:Nat)), .v (.int .u64 (y:Nat))] (.tp [.v (.int .u64 ((x*y/18446744073709551616:Nat):Int)), .v (.int .u64 ((x*y%18446744073709551616:Nat):Int))]):=fun G vs _ hv=>by
 obtain⟨v,m,rfl,h1,h2⟩:=bm.1 hv;obtain⟨u,m',rfl,h3,h4⟩:=bm.1 h2
 cases ck.1 h4
 rw[aP.1 h1,aP.1 h3];exact(Sd hx hy).mono fun v G' _ h=>by subst h;exact rP.2 ⟨_,J, .cons (aP.2 J) (.cons (aP.2 J) .nil)⟩
def MY{a b:Nat}(ha:a<18446744073709551616:=by omega)(hb:b<18446744073709551616:=by omega):PF GB prog 195 [.v (.int .u64 (a:Nat)), .v (.int .u64 (b:Nat))] (.v (.int .u64 (Nat.gcd a b:Nat))):=by
 refine fn func195 J J ntmps195 J J (fun C=>?_);refine lp (X:=Nat×Nat) (fun⟨u,v⟩=>[(1, .d (.v (.int .u64 (v:Nat)))),(0, .d (.v (.int .u64 (u:Nat))))]) (fun⟨u,v⟩=>[]) (fun⟨u,v⟩=>u<18446744073709551616/\v<18446744073709551616/\Nat.gcd u v=Nat.gcd a b) (fun⟨u,v⟩=>v) (a,b) J ⟨ha,hb,J⟩ (fun _=>J) (fun⟨u,v⟩ hk=>?_);dsimp only at hk⊢;obtain⟨h1,h2,h3⟩:=hk;refine br (v1:=fun hc6=>by simp only[aj];exact⟨by omega,by kernel_rfl⟩) J J J (fun hc6=>?_) (fun hc6=>?_)
 .
  have hm:=dQ u (show 0<v by omega);exact at_ (v,u%v) (by dsimp only;exact⟨⟨h2,by omega,by rw[<-h3,iT u v,tJ v u,iT]⟩,hm⟩)
 .
  exact rz J (by rw[<-h3,show v=0 by omega,mY];rfl)
def pO{m:Int}(h:m.natAbs<9223372036854775808:=by decide):PF GB prog 89 [vI m] (eF (m:Rat)):=by
 refine fn func89 J J ntmps89 J J (fun C=>?_);refine cs 5 J J J (fun hg5=>?_) (fun hg5=>?_)
 .
  refine cl J (HM (m:=m)) J<|rf (fu:=⟨0⟩) J J<|ah 11 (.d (dN 1)) J (by unfold dN;rw[yO];rfl)<|gx J<|cl J (td (n:=decide (m<0)) (a:=m.natAbs) (i:=63) (h:=BN.up (show m.natAbs<2^63 from h)) (d:=1)) J<|rz J (by rw[jB,show mkRat m 1=(m:Rat) from rN ..];rfl)
 .
  refine br J J J (fun hc8=>?_) (fun hc8=>?_)
  .
   refine cl J (HM (m:=m)) J<|rf (fu:=⟨0⟩) J J<|ah 11 (.d (dN 1)) J (by unfold dN;rw[yO];rfl)<|gx J<|cl J (td (n:=decide (m<0)) (a:=m.natAbs) (i:=63) (h:=BN.up (show m.natAbs<2^63 from h)) (d:=1)) J<|rz J (by rw[jB,show mkRat m 1=(m:Rat) from rN ..];rfl)
  .
   exact iv J (LM (by omega))
def yb{a b:Int}(ha:a.natAbs<4611686018427387904:=by omega)(hb:b.natAbs<4611686018427387904:=by omega):PF GB prog 245 [vI a,vI b] (.tp [vI (tm a b),vB (decide ((a*b).natAbs<4611686018427387904))]):=by
 have hab:=fX a b;refine fn func245 J J ntmps245 J J (fun C=>?_);refine cl J (xR (m:=a)) J<|cl J (xR (m:=b)) J<|cl J (azX (x:=a.natAbs) (y:=b.natAbs) (by omega) (by omega)) J<|cs 18 J J J (fun hg18=>?_) (fun hg18=>?_)
 .
  exact rz J (Mw)
 .
  refine br J J J (fun hc21=>?_) (fun hc21=>?_)
  .
   exact rz J (Mw)
  .
   refine bb J J J (fun hc26=>?_) (fun hc26=>?_)
   .
    have hs:=Mz a b;rw[if_neg (by simpa using hc26)] at hs;exact rz J (O5 (by omega) (by rw[hs,<-hab];omega))
   .
    have hs:=Mz a b;rw[if_pos (by simpa using hc26)] at hs;exact rz J (O5 (by omega) (by rw[hs,<-hab];omega))
def N9{m:Int}{d:Nat}(h:m.natAbs<4611686018427387904)(h0:0<d)(hd:d<4611686018427387904):PF GB prog 246 [vI m,vI (d:Nat)] (eF (mkRat m d)):=by
 have hg:Nat.gcd m.natAbs d<=d:=Nat.gcd_le_right _ h0;have hg0:0<Nat.gcd m.natAbs d:=nX _ h0;obtain⟨e1,e2⟩:=N6 (m:=m) h0;have e3:=mS m (Nat.gcd m.natAbs d:Nat);have e4:=lU d (Nat.gcd m.natAbs d);have e5:=Nat.div_pos hg hg0;refine fn func246 J J ntmps246 J J (fun C=>?_);refine cl J (xR (m:=m)) J<|cl J (MY (a:=m.natAbs) (b:=d)) J<|br (fu1:=⟨4⟩) J J J (fun hc13=>?_) (fun hc13=>?_)
 .
  refine ah 16 (.d (vI (m/(Nat.gcd m.natAbs d:Nat)))) J (by rw[Ld (Int.dvd_natAbs.1 (qL.2 (iW _ _))) h];rfl)<|gx (fu:=⟨3⟩) J<|ah 19 (.d (vI ((d/Nat.gcd m.natAbs d:Nat)))) J (by rw[Ld (qL.2 (jW _ _)) (by rw[dR];exact hd)];rfl)<|gx (hv:=by simp only[aj];exact⟨by kernel_rfl,by omega⟩) J<|iv J (qC (fun k=>k ⟨by rw[e1];omega,by rw[e2];omega⟩) e1 (by rw[e2]) J)
 .
  exact iv J (by have h1:Nat.gcd m.natAbs d=1:=(by omega);rw[h1,sJ] at e2;rw[h1,Int.natCast_one,Int.ediv_one] at e1;exact qC (fun k=>k ⟨by rw[e1];omega,by rw[e2];omega⟩) e1 (by rw[e2]) J)
def rj{p q:Rat}{i j:Nat}[h:BQ p i][k:BQ q j](hi:i<=100000000:=by decide)(hj:j<=100000000:=by decide):PF GB prog 226 [eF p,eF q] (eF (p*q)):=by
 refine fn (fu:=⟨8⟩) func226 J J ntmps226 J J (fun C=>?_);refine mg (X:=Unit) (fun _=>[(2, .ov 2 0),(3, .ov 3 0),(4, .ov 4 0)]) (fun _=>[(2,some (.o 100 [.d (vI (cc p)), .d (vI (cb p)), .d (dC p)] true)),(3,some (.o 100 [.d (vI (cc q)), .d (vI (cb q)), .d (dC q)] true)),(4,some (.o 100 [.d (.v (.int .i64 0)), .d (.v (.int .i64 0)), .d (.v (.pointer none))] true))]) (fun _=>True) [2,3,4] [2,3,4] rfl ?_ (fun _=>J) (fun _ _=>?_)
 .
  refine gx J<|cs 12 J J J (fun hg12=>?_) (fun hg12=>?_)
  .
   refine br (fu1:=⟨4⟩) J J J (fun hc16=>?_) (fun hc16=>?_)
   .
    have hp:=rx hg12;have hq:=rx hc16;have p1:=l8 hp;have p2:=nv hp;have p3:=o7 hp;have p4:=pc hp;have p5:=p.den_nz;have q1:=l8 hq;have q2:=nv hq;have q3:=o7 hq;have q4:=pc hq;have q5:=q.den_nz;refine ah 19 (.d (vI p.num)) J (by rw[p1])<|gx (fu:=⟨2⟩) J<|ah 21 (.d (vI q.num)) J (by rw[q1])<|gx J<|cl (fu:=⟨12⟩) J (yb (a:=p.num) (b:=q.num)) J<|ah 28 (.d (vI (p.den:Nat))) J (by congr 3;omega)<|gx (fu:=⟨3⟩) J<|ah 31 (.d (vI (q.den:Nat))) J (by congr 3;omega)<|gx J<|cl J (yb (a:=(p.den:Nat)) (b:=(q.den:Nat))) J<|csd 36 J J J (fun hg36=>?_) (fun hg36=>?_)
    .
     refine bd (fu1:=⟨3⟩) J J J (fun hc38=>?_) (fun hc38=>?_)
     .
      have hd1:p.den*q.den<4611686018427387904:=by omega
      refine ah 39 (.d (vI (p.num*q.num))) J (by rw[y9 hg36])<|gx (fu:=⟨1⟩) J<|ah 40 (.d (vI ((p.den*q.den:Nat)))) J (by rw[y9 hc38];rfl)<|gx J<|cl J (N9 (m:=p.num*q.num) (d:=p.den*q.den) hg36 (iV (by omega) (by omega)) hd1) J<|rz J (by rw[<-y4];rfl)
     .
      exact at_ () trivial
    .
     exact at_ () trivial
   .
    exact at_ () trivial
  .
   exact at_ () trivial
 .
  refine cl J (qG (q:=p) (by omega)) J<|cl J (qG (q:=q) (by omega)) J<|cl J (FJ (a:=p.num) (b:=q.num) (by omega) (by omega)) J<|cl J (pP (q:=p) (by omega)) J<|cl J (pP (q:=q) (by omega)) J<|cl J (vL (a:=p.den) (b:=q.den) (by omega) (by omega)) J<|cl J (td (n:=decide (p.num*q.num<0)) (a:=(p.num*q.num).natAbs) (d:=p.den*q.den) (i:=i+j) (j:=i+j) (by omega) (by omega)) J<|rz J (by rw[jB,<-y4];rfl)
def rD{p q:Rat}{i j:Nat}[h:BQ p i][k:BQ q j](hi:i<=100000000:=by decide)(hj:j<=100000000:=by decide):PF GB prog 222 [eF p,eF q] (eF (p+q)):=by
 refine fn (fu:=⟨8⟩) func222 J J ntmps222 J J (fun C=>?_);refine mg (X:=Unit) (fun _=>[(2, .ov 2 0),(3, .ov 3 0),(4, .ov 4 0)]) (fun _=>[(2,some (.o 100 [.d (vI (cc p)), .d (vI (cb p)), .d (dC p)] true)),(3,some (.o 100 [.d (vI (cc q)), .d (vI (cb q)), .d (dC q)] true)),(4,some (.o 100 [.d (.v (.int .i64 0)), .d (.v (.int .i64 0)), .d (.v (.pointer none))] true))]) (fun _=>True) [2,3,4] [2,3,4] rfl ?_ (fun _=>J) (fun _ _=>?_)
 .
  refine gx J<|cs 16 J J J (fun hg16=>?_) (fun hg16=>?_)
  .
   refine br (fu1:=⟨1⟩) J J J (fun hc20=>?_) (fun hc20=>?_)
   .
    have hp:=rx hg16;have hq:=rx hc20;have p1:=l8 hp;have p2:=nv hp;have p3:=o7 hp;have p4:=pc hp;have p5:=p.den_nz;have q1:=l8 hq;have q2:=nv hq;have q3:=o7 hq;have q4:=pc hq;have q5:=q.den_nz;refine mg (fu:=⟨4⟩) (X:=Unit) (fun _=>[(2, .ov 2 0),(3, .ov 3 0),(4, .ov 4 0)]) (fun _=>[(2,some (.o 100 [.d (vI (cc p)), .d (vI (cb p)), .d (dC p)] true)),(3,some (.o 100 [.d (vI (cc q)), .d (vI (cb q)), .d (dC q)] true)),(4,some (.o 100 [.d (.v (.int .i64 0)), .d (.v (.int .i64 0)), .d (.v (.pointer none))] true))]) (fun _=>True) [2,3,4] [2,3,4] rfl ?_ (fun _=>J) (fun _ _=>?_)
    .
     refine gx J<|cs 24 J J J (fun hg24=>?_) (fun hg24=>?_)
     .
      refine br (fu1:=⟨4⟩) J J J (fun hc28=>?_) (fun hc28=>?_)
      .
       refine ah 30 (.d (vI p.num)) J (by rw[p1])<|gx (fu:=⟨2⟩) J<|ah 32 (.d (vI q.num)) J (by rw[q1])<|gx J<|cl J (pO (m:=p.num+q.num) (by omega)) J<|rz J (by rw[CH (q:=p),CH (q:=q),<-oU];rfl)
      .
       exact at_ () trivial
     .
      exact at_ () trivial
    .
     refine ah 37 (.d (vI p.num)) J (by rw[p1])<|gx (fu:=⟨3⟩) J<|ah 40 (.d (vI (q.den:Nat))) J (by congr 3;omega)<|gx J<|cl (fu:=⟨11⟩) J (yb (a:=p.num) (b:=(q.den:Nat))) J<|ah 46 (.d (vI q.num)) J (by rw[q1])<|gx (fu:=⟨3⟩) J<|ah 49 (.d (vI (p.den:Nat))) J (by congr 3;omega)<|gx J<|cl (fu:=⟨12⟩) J (yb (a:=q.num) (b:=(p.den:Nat))) J<|ah 56 (.d (vI (p.den:Nat))) J (by congr 3;omega)<|gx (fu:=⟨3⟩) J<|ah 59 (.d (vI (q.den:Nat))) J (by congr 3;omega)<|gx J<|cl (fu:=⟨3⟩) J (yb (a:=(p.den:Nat)) (b:=(q.den:Nat))) J<|?_;have t1:=H9 p.num (q.den:Nat);have t2:=H9 q.num (p.den:Nat);have t3:=H9 (p.den:Nat) (q.den:Nat);refine gx J<|csd 67 J J J (fun hg67=>?_) (fun hg67=>?_)
     .
      refine csd 70 J J J (fun hg70=>?_) (fun hg70=>?_)
      .
       refine csd 73 J J J (fun hg73=>?_) (fun hg73=>?_)
       .
        refine cs 77 J J J (fun hg77=>?_) (fun hg77=>?_)
        .
         refine br (fu1:=⟨3⟩) J J J (fun hc80=>?_) (fun hc80=>?_)
         .
          have u1:=y9 hg67;have u2:=y9 hg70;have u3:=y9 hg73;have hd1:p.den*q.den<4611686018427387904:=by omega
          refine ah 81 (.d (vI (p.num*(q.den:Nat)+q.num*(p.den:Nat)))) J (by rw[u1,u2];rfl)<|gx (fu:=⟨1⟩) J<|ah 82 (.d (vI ((p.den*q.den:Nat)))) J (by rw[u3];rfl)<|gx J<|cl J (N9 (m:=p.num*(q.den:Nat)+q.num*(p.den:Nat)) (d:=p.den*q.den) (by omega) (iV (by omega) (by omega)) hd1) J<|rz J (by rw[<-yt];rfl)
         .
          exact at_ () trivial
        .
         exact at_ () trivial
       .
        exact at_ () trivial
      .
       exact at_ () trivial
     .
      exact at_ () trivial
   .
    exact at_ () trivial
  .
   exact at_ () trivial
 .
  refine cl J (qG (q:=p) (by omega)) J<|cl (fu:=⟨1⟩) J (pP (q:=q) (by omega)) J<|ah 88 (.d (eI (q.den:Nat))) J (by rw[Ll])<|gx J<|cl J (FJ (a:=p.num) (b:=(q.den:Nat)) (by omega) (by omega)) J<|cl J (qG (q:=q) (by omega)) J<|cl (fu:=⟨1⟩) J (pP (q:=p) (by omega)) J<|ah 94 (.d (eI (p.den:Nat))) J (by rw[Ll])<|gx J<|cl J (FJ (a:=q.num) (b:=(p.den:Nat)) (by omega) (by omega)) J<|cl J (TP (a:=p.num*(q.den:Nat)) (b:=q.num*(p.den:Nat)) (i:=i+j) (j:=j+i) (by omega) (by omega)) J<|cl J (pP (q:=p) (by omega)) J<|cl J (pP (q:=q) (by omega)) J<|cl J (vL (a:=p.den) (b:=q.den) (by omega) (by omega)) J<|cl J (td (n:=decide (p.num*(q.den:Nat)+q.num*(p.den:Nat)<0)) (a:=(p.num*(q.den:Nat)+q.num*(p.den:Nat)).natAbs) (d:=p.den*q.den) (i:=i+j+(j+i)+1) (j:=i+j) (by omega) (by omega)) J<|rz J (by rw[jB,<-yt];rfl)
def tn{p q:Rat}{i j:Nat}[h:BQ p i][k:BQ q j](hi:i<=100000000:=by decide)(hj:j<=100000000:=by decide):PF GB prog 167 [eF p,eF q] (eF (p-q)):=by
 refine fn func167 J J ntmps167 J J (fun C=>?_);refine cl J (nA (q:=q) (by omega)) J<|cl J (rD (p:=p) (q:= -q) (by omega) (by omega)) J<|rz J (by rw[<-Rat.sub_eq_add_neg];rfl)
def yL{q:Rat}{i:Nat}[h:BQ q i](hi:i<=400000000:=by decide):PF GB prog 232 [eF q] (eF q⁻¹):=by
 refine fn func232 J J ntmps232 J J (fun C=>?_);refine br (v1:=fun hc3=>by simp only[aj];exact⟨⟨hc3,hc3⟩,hc3⟩) J J J (fun hc3=>?_) (fun hc3=>?_)
 .
  refine cl J (td (n:=decide (q.num<0)) (a:=q.den) (d:=q.num.natAbs) (by omega) (by omega)) J<|rz J (by rw[Xv];rfl)
 .
  have q1:=l8 (mv hc3);have q2:=nv (mv hc3);have q3:=o7 (mv hc3);have q4:=pc (mv hc3);have q5:=q.den_nz;refine br J J J (fun hc26=>?_) (fun hc26=>?_)
  .
   exact iv rfl (by obtain⟨e1,e2⟩:=Jc (q:=q) (by omega);exact qC (fun k=>k ⟨by omega,by omega⟩) (by omega) (by omega) rfl)
  .
   refine br J J J (fun hc39=>?_) (fun hc39=>?_)
   .
    exact iv J (by rw[lT.1 (show q.num=0 by omega),Rat.inv_zero];exact vt)
   .
    exact iv rfl (by obtain⟨e1,e2⟩:=Jf (q:=q) (by omega);exact qC (fun k=>k ⟨by omega,by omega⟩) (by omega) (by omega) rfl)
def xu{p q:Rat}{i j:Nat}[h:BQ p i][k:BQ q j](hi:i<=100000000:=by decide)(hj:j<=100000000:=by decide):PF GB prog 186 [eF p,eF q] (eF (p/q)):=by
 refine fn func186 J J ntmps186 J J (fun C=>?_);refine cl J (yL (q:=q) (by omega)) J<|cl J (rj (p:=p) (q:=q⁻¹) (by omega) (by omega)) J<|rz J (by rw[Rat.div_def];rfl)
def IQ{G:Gh}{q r:DV}{t:List DV}{vs:List Value}(h: ∀y,Is G r y->Is G q y)(hv:IsLs G (r::t) vs):IsLs G (q::t) vs:=by
 obtain⟨y,m,rfl,h1,h2⟩:=bm.1 hv;exact .cons (h _ h1) h2
def HU{G:Gh}{a q r:DV}{t:List DV}{vs:List Value}(h: ∀y,Is G r y->Is G q y)(hv:IsLs G (a::r::t) vs):IsLs G (a::q::t) vs:=by
 obtain⟨y,m,rfl,h1,h2⟩:=bm.1 hv;exact .cons h1 (IQ h h2)
def S6{q:Rat}{i:Nat}[h:BQ q i](hi:i<=100000000:=by decide):PF GB prog 226 [eF q, .ag [vI 1,vI 1, .v (.pointer none)]] (eF (q*mkRat 1 2)):=
 (rj (p:=q) (q:=mkRat 1 2) hi).ofI fun G vs hv=>HU (fun y hy=>qC (q:=mkRat 1 2) (fun k=>k ⟨by decide,by decide⟩) (by decide) (by decide) J G y hy) hv
def D6{q:Rat}{i:Nat}[h:BQ q i](hi:i<=100000000:=by decide):PF GB prog 175 [eF q] (eF (q*mkRat 1 2)):=by
 refine fn func175 J J ntmps175 J J (fun C=>?_);refine cl J (S6 (q:=q) (by omega)) J<|rz J J
def pi{p q:Rat}{i j:Nat}[h:BQ p i][k:BQ q j](hi:i<=100000000:=by decide)(hj:j<=100000000:=by decide):PF GB prog 104 [eF p,eF q] (vI (ce p q)):=by
 refine fn func104 J J ntmps104 J J (fun C=>?_);refine cs 8 J J J (fun hg8=>?_) (fun hg8=>?_)
 .
  refine cs 13 J J J (fun hg13=>?_) (fun hg13=>?_)
  .
   refine br J J J (fun hc19=>?_) (fun hc19=>?_)
   .
    have hp:=rx hg8;have hq:=rx hg13;have p1:=l8 hp;have p2:=nv hp;have p3:=o7 hp;have p4:=pc hp;have p5:=p.den_nz;have q1:=l8 hq;have q2:=nv hq;have q3:=o7 hq;have q4:=pc hq;have q5:=q.den_nz;have hl:=QK (a:=p) (b:=q);have hr:=QK (a:=q) (b:=p);unfold ce;refine br J J J (fun hc20=>?_) (fun hc20=>?_)
    .
     exact rz J (by rw[if_pos (hl.2 (by omega))];rfl)
    .
     refine br J J J (fun hc26=>?_) (fun hc26=>?_)
     .
      exact rz J (by rw[if_neg (fun e=>by have:=hl.1 e;omega),if_pos (hr.2 (by omega))];rfl)
     .
      exact rz J (by rw[if_neg (fun e=>by have:=hl.1 e;omega),if_neg (fun e=>by have:=hr.1 e;omega)];rfl)
   .
    refine cl J (tn (p:=p) (q:=q) (by omega) (by omega)) J<|cl J (mE (q:=p-q) (by omega)) J<|rz J (by rw[A4];rfl)
  .
   refine cl J (tn (p:=p) (q:=q) (by omega) (by omega)) J<|cl J (mE (q:=p-q) (by omega)) J<|rz J (by rw[A4];rfl)
 .
  refine cl J (tn (p:=p) (q:=q) (by omega) (by omega)) J<|cl J (mE (q:=p-q) (by omega)) J<|rz J (by rw[A4];rfl)
def wG{p q:Rat}{i j:Nat}[h:BQ p i][k:BQ q j](hi:i<=100000000:=by decide)(hj:j<=100000000:=by decide):PF GB prog 134 [eF p,eF q] (vB (decide (p=q))):=by
 refine fn func134 J J ntmps134 J J (fun C=>?_);refine cl J (pi (p:=p) (q:=q) hi hj) J<|rz J (by show DV.v (.bool (decide _))= .v (.bool _);congr 2;exact decide_eq_decide.2 (oz p q))
def SU{p q:Rat}{i j:Nat}[h:BQ p i][k:BQ q j](hi:i<=100000000:=by decide)(hj:j<=100000000:=by decide):PF GB prog 234 [eF p,eF q] (eF (if p<q then q else p)):=by
 refine fn func234 J J ntmps234 J J (fun C=>?_);refine cl J (pi (p:=q) (q:=p) hj hi) J<|br J J J (fun hc8=>?_) (fun hc8=>?_)
 .
  exact rz J (by rw[if_pos ((N4 q p).1 hc8)];rfl)
 .
  exact rz J (by rw[if_neg (fun e=>hc8 ((N4 q p).2 e))];rfl)
def PL{p q:Rat}{i j:Nat}[h:BQ p i][k:BQ q j](hi:i<=100000000:=by decide)(hj:j<=100000000:=by decide):PF GB prog 172 [eF p,eF q] (eF (if q<p then q else p)):=by
 refine fn func172 J J ntmps172 J J (fun C=>?_);refine cl J (pi (p:=q) (q:=p) hj hi) J<|br J J J (fun hc8=>?_) (fun hc8=>?_)
 .
  exact rz J (by rw[if_pos ((MS q p).1 hc8)];rfl)
 .
  exact rz J (by rw[if_neg (fun e=>hc8 ((MS q p).2 e))];rfl)
def kw{p q:Rat}{i j:Nat}[h:BQ p i][k:BQ q j](hi:i<=100000000:=by decide)(hj:j<=100000000:=by decide):PF GB prog 133 [eF p,eF q] (eF (rgcd p q)):=by
 refine fn (fu:=⟨8⟩) func133 J J ntmps133 J J (fun C=>?_);refine mg (X:=Unit) (fun _=>[(2, .ov 2 0),(3, .ov 3 0),(4, .ov 4 0)]) (fun _=>[(2,some (.o 100 [.d (vI (cc p)), .d (vI (cb p)), .d (dC p)] true)),(3,some (.o 100 [.d (vI (cc q)), .d (vI (cb q)), .d (dC q)] true)),(4,some (.o 100 [.d (.v (.int .i64 0)), .d (.v (.int .i64 0)), .d (.v (.pointer none))] true))]) (fun _=>True) [2,3,4] [2,3,4] rfl ?_ (fun _=>J) (fun _ _=>?_)
 .
  refine gx J<|cs 10 J J J (fun hg10=>?_) (fun hg10=>?_)
  .
   refine cs 15 J J J (fun hg15=>?_) (fun hg15=>?_)
   .
    have hp:=rx hg10;have hq:=rx hg15;have p1:=l8 hp;have p2:=nv hp;have p3:=o7 hp;have p4:=pc hp;have p5:=p.den_nz;have q1:=l8 hq;have q2:=nv hq;have q3:=o7 hq;have q4:=pc hq;have q5:=q.den_nz;refine cs 20 J J J (fun hg20=>?_) (fun hg20=>?_)
    .
     refine br (fu1:=⟨4⟩) J J J (fun hc24=>?_) (fun hc24=>?_)
     .
      have hg:=Iz p3 q3;refine ah 26 (.d (vI p.num)) J (by rw[p1])<|gx J<|cl (fu:=⟨2⟩) J (xR (m:=p.num)) J<|ah 29 (.d (vI q.num)) J (by rw[q1])<|gx J<|cl J (xR (m:=q.num)) J<|cl (hv:=by simp only[aj];exact⟨by omega,by kernel_rfl⟩) J (MY (a:=p.num.natAbs) (b:=q.num.natAbs)) J<|iv J (by rw[Vq (p:=p) (q:=q) (by omega) (by omega)];exact LM (by rw[dR];exact hg))
     .
      exact at_ () trivial
    .
     exact at_ () trivial
   .
    exact at_ () trivial
  .
   exact at_ () trivial
 .
  refine cl J (pP (q:=p) (by omega)) J<|cl J (pP (q:=q) (by omega)) J<|cl J (vL (a:=p.den) (b:=q.den) (by omega) (by omega)) J<|cl J (qG (q:=p) (by omega)) J<|cl J (pP (q:=q) (by omega)) J<|cl J (vL (a:=p.num.natAbs) (b:=q.den) (by omega) (by omega)) J<|cl J (qG (q:=q) (by omega)) J<|cl J (pP (q:=p) (by omega)) J<|cl J (vL (a:=q.num.natAbs) (b:=p.den) (by omega) (by omega)) J<|cl J (A7 (a:=p.num.natAbs*q.den) (b:=q.num.natAbs*p.den) (i:=i+j) (j:=j+i) (by omega) (by omega)) J<|cl J (td (n:=false) (a:=Nat.gcd (p.num.natAbs*q.den) (q.num.natAbs*p.den)) (d:=p.den*q.den) (i:=i+j+(j+i)) (j:=i+j) (by omega) (by omega)) J<|rz J J
end Go.Sx
end
section
namespace Go.Sx
open Go
def crossI(l m:ab):Int:=l.a*m.b-m.a*l.b
def meetX(l m:ab):Int:=l.b*m.c-m.b*l.c
def meetY(l m:ab):Int:=m.a*l.c-l.a*m.c
def gG(l m:ab):aa:=if crossI l m=0 then⟨0,0⟩ else⟨(meetX l m:Rat)/(crossI l m:Rat),(meetY l m:Rat)/(crossI l m:Rat)⟩
def dH(l:ab)(p:aa):Rat:=p.dot l.dir/l.dir.dot l.dir
def Ef(l:ab):l.dir.dot l.dir=l.nor.dot l.nor:=by
 simp only[ab.dir,ab.nor,aa.dot];grind
def y7{l:ab}(h:l.Ne):0<l.dir.dot l.dir:=by rw[Ef];exact ow h
def Qx(l m:ab):((crossI l m:Int):Rat)=(l.a:Rat)*m.b-(m.a:Rat)*l.b:=by
 unfold crossI;rw[oT,cK,cK]
def aqG(l m:ab):((meetX l m:Int):Rat)=(l.b:Rat)*m.c-(m.b:Rat)*l.c:=by
 unfold meetX;rw[oT,cK,cK]
def Yr(l m:ab):((meetY l m:Int):Rat)=(m.a:Rat)*l.c-(l.a:Rat)*m.c:=by
 unfold meetY;rw[oT,cK,cK]
def yV(l m:ab):l.cutK m= -((crossI l m:Int):Rat):=by
 rw[Qx];simp only[ab.cutK,ab.nor,ab.dir,aa.dot];grind
def Pn(l m:ab):m.dir.cross l.dir=l.cutK m:=by
 simp only[ab.cutK,ab.nor,ab.dir,aa.dot,aa.cross];grind
def X1{l:ab}:(⟨-((l.c:Rat)/l.dir.dot l.dir)*(l.a:Rat), -((l.c:Rat)/l.dir.dot l.dir)*(l.b:Rat)⟩:aa)=l.base:=by
 unfold ab.base;rw[Ef];simp only[ab.nor,aa.scale,aa.mk.injEq];constructor<;>grind
def tg(l:ab)(t:Rat):dB l.base l.dir t=l.at t:=by
 simp only[dB,ab.at,aa.add,aa.scale,aa.mk.injEq];constructor<;>grind
def wk{l m:ab}(hl:l.Ne)(h:crossI l m≠0):dH l (gG l m)= -(l.cutC m/l.cutK m):=by
 have hd:((crossI l m:Int):Rat)≠0:=fun e=>h (dV.1 e);have hn:=y7 hl;obtain⟨q,q1,q2⟩:=yp hl;rw[yV];unfold dH gG ab.cutC;rw[if_neg h,q2,lj,aqG,Yr];have hc:=Qx l m;rw[Ef] at hn⊢;simp only[ab.dir,ab.nor,aa.dot] at hn q1⊢;generalize ((crossI l m:Int):Rat)=d at*;generalize (l.a:Rat)=a at*;generalize (l.b:Rat)=b at*;generalize (l.c:Rat)=c at*;generalize (m.a:Rat)=x at*;generalize (m.b:Rat)=y at*;generalize (m.c:Rat)=z at*;have hn':a*a+b*b≠0:=by grind
 have e:((b*z-y*c)/d*b+(x*c-a*z)/d* -a)=((b*z-y*c)*b-(x*c-a*z)*a)/d:=by grind
 rw[e];have k1:(b*z-y*c)*b-(x*c-a*z)*a=(a*a+b*b)*(x*(a*q)+y*(b*q)+z):=by grind
 rw[k1];grind
def Rq{l m:ab}(hl:l.Ne)(h:crossI l m≠0):dH l (gG l m)*((crossI l m*(l.a*l.a+l.b*l.b):Int):Rat)=((meetX l m*l.b-meetY l m*l.a:Int):Rat):=by
 have hd:((crossI l m:Int):Rat)≠0:=fun e=>h (dV.1 e);have hn:=y7 hl;unfold dH gG;rw[if_neg h];simp only[cK,oT,oU];simp only[ab.dir,aa.dot] at hn⊢;generalize ((crossI l m:Int):Rat)=d at*;generalize ((meetX l m:Int):Rat)=x at*;generalize ((meetY l m:Int):Rat)=y at*;generalize (l.a:Rat)=a at*;generalize (l.b:Rat)=b at*;have hn':b*b+ -a* -a≠0:=by grind
 grind
def RK(l m:ab)(t:List ab)(v:ao):fA l (m::t) v=if m=l then fA l t v else if l.cutB v m then fA l t (l.cutV v m) else none:=rfl
def tB(v:ao)(t:Rat):ao:=if v.nl=true\/0<ce t v.lo then⟨t,v.hi,false,v.nh⟩ else v
def tx(v:ao)(t:Rat):ao:=if v.nh=true\/ce t v.hi<0 then⟨v.lo,t,v.nl,false⟩ else v
structure iI (v:ao):Prop where
 lo:v.nl=true->v.lo=0
 hi:v.nh=true->v.hi=0
def Ba(a b:Rat):0<ce a b↔b<a:=by
 unfold ce;split
 .constructor
  .intro h;exact absurd h (by decide)
  .intro h;grind
 .split
  .exact⟨fun _=>by assumption,fun _=>by decide⟩
  .constructor
   .intro h;exact absurd h (by decide)
   .intro h;exact absurd h (by assumption)
def Aq(a b:Rat):ce a b<0↔a<b:=by
 unfold ce;split
 .exact⟨fun _=>by assumption,fun _=>by decide⟩
 .split
  .constructor
   .intro h;exact absurd h (by decide)
   .intro h;grind
  .constructor
   .intro h;exact absurd h (by decide)
   .intro h;exact absurd h (by assumption)
def K8{v:ao}(h:iI v)(t:Rat):tB v t=v.meet ⟨t,0,false,true⟩:=by
 obtain⟨lo,hi,nl,nh⟩:=v;obtain⟨h1,h2⟩:=h;unfold tB ao.meet;simp only[Ba] at*
 cases nl<;>cases nh<;>simp at* <;>(try (split<;>split<;>simp_all<;>grind))<;>grind
def Oc{v:ao}(h:iI v)(t:Rat):tx v t=v.meet ⟨0,t,true,false⟩:=by
 obtain⟨lo,hi,nl,nh⟩:=v;obtain⟨h1,h2⟩:=h;unfold tx ao.meet;simp only[Aq] at*
 cases nl<;>cases nh<;>simp at* <;>(try (split<;>split<;>simp_all<;>grind))<;>grind
def iI.all:iI ao.all:=⟨fun _=>J,fun _=>J⟩
def iI.lo'{v:ao}(h:iI v)(t:Rat):iI (tB v t):=by
 obtain⟨lo,hi,nl,nh⟩:=v;unfold tB;split
 .exact⟨fun h=>by simp at h,h.hi⟩
 .exact h
def iI.hi'{v:ao}(h:iI v)(t:Rat):iI (tx v t):=by
 obtain⟨lo,hi,nl,nh⟩:=v;unfold tx;split
 .exact⟨h.lo,fun h=>by simp at h⟩
 .exact h
def Tl{l m:ab}{v:ao}(h:crossI l m=0):l.cutV v m=v/\(l.cutB v m=true↔0<m.value l.base):=by
 have hk:l.cutK m=0:=by rw[yV,h];rfl
 exact vv v hk
def UN{l m:ab}{v:ao}(hl:l.Ne)(hz:iI v)(h:0<m.dir.cross l.dir):crossI l m≠0/\l.cutV v m=tB v (dH l (gG l m))/\l.cutB v m=!(tB v (dH l (gG l m))).empty:=by
 rw[Pn] at h;have hc:crossI l m≠0:=fun e=>by rw[yV,e] at h;exact absurd h (by decide)
 obtain⟨h1,h2⟩:=vD v h;refine⟨hc,?_,?_⟩
 .rw[K8 hz,wk hl hc,h1]
 .rw[K8 hz,wk hl hc,<-h1]
  rw[<-Bq] at h2
  cases hb:l.cutB v m<;>cases he:(l.cutV v m).empty<;>simp_all
def Xi{l m:ab}{v:ao}(hl:l.Ne)(hz:iI v)(h0:crossI l m≠0)(h: ¬0<m.dir.cross l.dir):l.cutV v m=tx v (dH l (gG l m))/\l.cutB v m=!(tx v (dH l (gG l m))).empty:=by
 rw[Pn] at h;have hk:l.cutK m≠0:=fun e=>by
  rw[yV] at e;have:((crossI l m:Int):Rat)=0:=by grind
  exact h0 (dV.1 this)
 obtain⟨h1,h2⟩:=vU (l:=l) (m:=m) v (by grind);refine⟨?_,?_⟩
 .rw[Oc hz,wk hl h0,h1]
 .rw[Oc hz,wk hl h0,<-h1]
  rw[<-Bq] at h2
  cases hb:l.cutB v m<;>cases he:(l.cutV v m).empty<;>simp_all
end Go.Sx
end
section
namespace Go.Sx
open Go Go.Proofs Tryz
variable {GB:Gh}

def cT:Tr->List DV
 | .leaf b=>[.v (.bool true), .v (.bool b), .v (.bool false), .sl [], .v (.bool false), .sl [], .v (.bool false), .sl [], .v (.pointer none), .v (.pointer none)]
 | .node l x y=>[.v (.bool false), .v (.bool false), .v (.bool (decide (l.a<0))),dN l.a.natAbs, .v (.bool (decide (l.b<0))),dN l.b.natAbs, .v (.bool (decide (l.c<0))),dN l.c.natAbs, .pt (cT x), .pt (cT y)]
def eT(t:Tr):DV:= .pt (cT t)
def eN(n:NQ):DV:= .ag [.v (.bool (decide (n.l.a<0))),dN n.l.a.natAbs, .v (.bool (decide (n.l.b<0))),dN n.l.b.natAbs, .v (.bool (decide (n.l.c<0))),dN n.l.c.natAbs, .v (.int .i64 n.a), .v (.int .i64 n.b)]
def eA(t:Tr):DV:= .ag [.v (.int .i64 (t.num 0)), .sl ((t.wr 0).map eN)]
def xf{G:Gh}{k:Nat}{z:IV}{m:Int}(h:kz k G z m):Is G (.v (.bool (decide (m<0)))) (.bool z.neg)/\Is G (dN m.natAbs) (.slice z.a.a z.a.n z.a.c):=
 ⟨aP.2 (by rw[h.neg]),(MG h.abs.lt).2 ⟨_,J,h.abs⟩⟩
def Eq{G:Gh}{k:Nat}{m:Int}{u v:Value}(hm:m.natAbs<2^k)(h1:Is G (.v (.bool (decide (m<0)))) u)(h2:Is G (dN m.natAbs) v): ∃z:IV,u= .bool z.neg/\v= .slice z.a.a z.a.n z.a.c/\kz k G z m:=by
 obtain⟨x,rfl,hx⟩:=(MG hm).1 h2;exact⟨⟨decide (m<0),x⟩,aP.1 h1,J,J,hx⟩
structure BL (l:ab) (k:Nat):Prop where
 a:l.a.natAbs<2^k
 b:l.b.natAbs<2^k
 c:l.c.natAbs<2^k
def Ub{G:Gh}{k:Nat}{l:ab}{v:Value}(hl:BL l k)(h:Is G (eL l) v): ∃a b c:IV,v= .agg ⟨[.bool a.neg, .slice a.a.a a.a.n a.a.c, .bool b.neg, .slice b.a.a b.a.n b.a.c, .bool c.neg, .slice c.a.a c.a.n c.a.c]⟩/\kz k G a l.a/\kz k G b l.b/\kz k G c l.c:=by
 obtain⟨m,rfl,g⟩:=dm.1 h;clear h;obtain⟨v1,m,rfl,h1,h⟩:=bm.1 g;obtain⟨v2,m,rfl,h2,h⟩:=bm.1 h;obtain⟨v3,m,rfl,h3,h⟩:=bm.1 h;obtain⟨v4,m,rfl,h4,h⟩:=bm.1 h;obtain⟨v5,m,rfl,h5,h⟩:=bm.1 h;obtain⟨v6,m,rfl,h6,h⟩:=bm.1 h;rw[ck] at h;subst h;obtain⟨a,rfl,rfl,ha⟩:=Eq hl.a h1 h2;obtain⟨b,rfl,rfl,hb⟩:=Eq hl.b h3 h4;obtain⟨c,rfl,rfl,hc⟩:=Eq hl.c h5 h6;exact⟨a,b,c,J,ha,hb,hc⟩
def WZ{G:Gh}{k:Nat}{n:NQ}{z:ND}(h:qm k G z n):Is G (eN n) z.val:=by
 refine dm.2 ⟨_,J, .cons (xf h.a).1 (.cons (xf h.a).2 (.cons (xf h.b).1 (.cons (xf h.b).2 (.cons (xf h.c).1 (.cons (xf h.c).2 (.cons (aP.2 ?_) (.cons (aP.2 ?_) .nil)))))))⟩
 .rw[h.l]
 .rw[h.r]
def PY{G:Gh}{k:Nat}: ∀{ns:List NQ} {zs:List ND},fB (qm k G) zs ns->IsLs G (ns.map eN) (zs.map ND.val)
 |_,_, .nil=> .nil
 |_,_, .cons h t=> .cons (WZ h) (PY t)
def Tn{G:Gh}{k:Nat}{t:Tr}{x:SV}(h:Sf k G x (t.wr 0)):Is G (eA t) (.agg ⟨[.int .i64 (t.num 0), .slice x.a x.n x.c]⟩):=by
 obtain⟨zs,h1,h2⟩:=h;exact dm.2 ⟨_,J, .cons (aP.2 J) (.cons (ie.2 ⟨8,x,_,J,h1,PY h2⟩) .nil)⟩
structure LS (l:ab):Prop where
 ok:l.ok
 a:l.a.natAbs<=4
 b:l.b.natAbs<=4
 c:l.c.natAbs<=40000
def ab.ext'{l m:ab}(h1:l.a=m.a)(h2:l.b=m.b)(h3:l.c=m.c):l=m:=by cases l;cases m;simp_all
instance:DecidableEq NQ:=fun x y=>decidable_of_iff (x.l=y.l/\x.a=y.a/\x.b=y.b) (by
 cases x;cases y;simp)
def Zp(ls:List ab):du 6 (ls.map eL):=fun d hd=>by
 obtain⟨n,_,rfl⟩:=bX.1 hd;exact⟨rfl,rfl⟩
class LB (l:ab):Prop where bl:BL l 576
instance LB.a (l:ab) [h:LB l]:BI l.a 96:=BI.of h.bl.a J
instance LB.b (l:ab) [h:LB l]:BI l.b 96:=BI.of h.bl.b J
instance LB.c (l:ab) [h:LB l]:BI l.c 96:=BI.of h.bl.c J
class aO (p:aa) (k:outParam Nat):Prop where
 x:BQ p.x k
 y:BQ p.y k
instance aO.ix (p:aa) (k:Nat) [h:aO p k]:BQ p.x k:=h.x
instance aO.iy (p:aa) (k:Nat) [h:aO p k]:BQ p.y k:=h.y
instance aO.dir (l:ab) [LB l]:aO l.dir 97:=⟨inferInstanceAs (BQ (l.b:Rat) 97),inferInstanceAs (BQ (-(l.a:Rat)) 97)⟩
instance BQ.dot (p q:aa) (i j:Nat) [aO p i] [aO q j]:BQ (p.dot q) (i+j+(i+j)+1):=inferInstanceAs (BQ (p.x*q.x+p.y*q.y) _)
instance BQ.cross (p q:aa) (i j:Nat) [aO p i] [aO q j]:BQ (p.cross q) (i+j+(i+j)+1):=inferInstanceAs (BQ (p.x*q.y-p.y*q.x) _)
instance aO.mov (p q:aa) (c:Rat) (i j k:Nat) [aO p i] [aO q j] [BQ c k]:aO (dB p q c) (i+(k+j)+1):=⟨inferInstanceAs (BQ (p.x+c*q.x) _),inferInstanceAs (BQ (p.y+c*q.y) _)⟩
instance BQ.value (l:ab) (p:aa) (i:Nat) [LB l] [aO p i]:BQ (l.value p) (96+1+i+(96+1+i)+1+(96+1)+1):=inferInstanceAs (BQ ((l.a:Rat)*p.x+(l.b:Rat)*p.y+(l.c:Rat)) _)
def Wp{p q:aa}{i j:Nat}[hp:aO p i][hq:aO q j](hi:i<=200000:=by decide)(hj:j<=200000:=by decide):PF GB prog 65 [eP p,eP q] (eQ (p.cross q)):=by
 refine fn func65 J J ntmps65 J J (fun C=>?_);refine cl J (BS (by omega) (by omega)) J<|cl J (BS (by omega) (by omega)) J<|cl J (NU (by omega) (by omega)) J<|rz J J
def Wr{p q:aa}{c:Rat}{i j k:Nat}[hp:aO p i][hq:aO q j][hc:BQ c k](hi:i<=19000000:=by decide)(hj:j<=9000000:=by decide)(hk:k<=9000000:=by decide):PF GB prog 66 [eP p,eQ c,eP q] (eP (dB p q c)):=by
 refine fn func66 J J ntmps66 J J (fun C=>?_);refine cl J (BS (by omega) (by omega)) J<|cl J (D0 (by omega) (by omega)) J<|cl J (BS (by omega) (by omega)) J<|cl J (D0 (by omega) (by omega)) J<|rz J J
instance aO.base (l:ab) [LB l]:aO l.base 900:=by
 rw[<-X1];constructor
 .exact BQ.mono (inferInstance:BQ (-((l.c:Rat)/l.dir.dot l.dir)*(l.a:Rat)) _)
 .exact BQ.mono (inferInstance:BQ (-((l.c:Rat)/l.dir.dot l.dir)*(l.b:Rat)) _)
instance BI.crossI (l m:ab) [LB l] [LB m]:BI (crossI l m) 385:=inferInstanceAs (BI (l.a*m.b-m.a*l.b) 385)
instance BI.meetX (l m:ab) [LB l] [LB m]:BI (meetX l m) 385:=inferInstanceAs (BI (l.b*m.c-m.b*l.c) 385)
instance BI.meetY (l m:ab) [LB l] [LB m]:BI (meetY l m) 385:=inferInstanceAs (BI (m.a*l.c-l.a*m.c) 385)
instance aO.imeet (l m:ab) [LB l] [LB m]:aO (gG l m) 772:=by
 unfold gG;split
 .exact⟨BQ.mono (k:=1) ⟨by decide,by decide⟩,BQ.mono (k:=1) ⟨by decide,by decide⟩⟩
 .exact⟨inferInstanceAs (BQ ((meetX l m:Rat)/(crossI l m:Rat)) 772),inferInstanceAs (BQ ((meetY l m:Rat)/(crossI l m:Rat)) 772)⟩
def U4(l m:ab):Int:=if(l.a-m.a).sign≠0 then(l.a-m.a).sign else if(l.b-m.b).sign≠0 then(l.b-m.b).sign else(l.c-m.c).sign
def Zm(z:Int): -1<=z.sign/\z.sign<=1:=by
 rcases rJ z 0 with h|h|h
 .rw[fT h];omega
 .rw[h];decide
 .rw[gS h];omega
instance BQ.i1:BQ (((1:Int):Rat)) 2:=⟨by decide,by decide⟩
def eV(v:ao):DV:= .ag [.v (.bool (decide (v.lo.num<0))),dN v.lo.num.natAbs,dD v.lo.den, .v (.bool (decide (v.hi.num<0))),dN v.hi.num.natAbs,dD v.hi.den, .v (.bool v.nl), .v (.bool v.nh)]
def aBt:eQ 0= .ag [.v (.bool false), .sl [], .sl []]:=by
 unfold eQ dD;simp only[show(0:Rat).num=0 from J,show(0:Rat).den=1 from J,Int.natAbs_zero,uc];rfl
def Bj(v:ao):Rat:=if v.nl=true/\v.nh=true then 0 else if v.nl=true then v.hi-1 else if v.nh=true then v.lo+1 else(v.lo+v.hi)/2
theorem BQ.of_fracI{q:Rat}{n D:Int}{i:Nat}(hd:0<D.natAbs)(h:q*((D.natAbs:Nat):Rat)=(n:Rat))(hn:BI n i)(hD:BI D i):BQ q i:=BQ.of_frac hd h hn.h hD.h
theorem CL{m:Int}{i j:Nat}(h:BI m i)(hij:i<=j:=by decide):BI m j:=⟨bM h.h (uI hij)⟩
theorem Ms{l m:ab}[LB l][LB m](hn:l.Ne)(h:crossI l m≠0):BQ (dH l (gG l m)) 1200:=by
 have e:=Rq hn h;have hA:BI (crossI l m*(l.a*l.a+l.b*l.b)) _:=inferInstance;have hB:BI (meetX l m*l.b-meetY l m*l.a) _:=inferInstance;have hne:crossI l m*(l.a*l.a+l.b*l.b)≠0:=by
  intro q;rcases oY.1 q with q|q
  .exact h q
  .have h1:=y7 hn
   simp only[ab.dir,aa.dot] at h1;have h2:((l.a*l.a+l.b*l.b:Int):Rat)=((0:Int):Rat):=by rw[q]
   rw[oU,cK,cK] at h2;have h3:((0:Int):Rat)=0:=J;rw[h3] at h2;grind
 have hA':=CL (j:=1200) hA;have hB':=CL (j:=1200) hB;generalize crossI l m*(l.a*l.a+l.b*l.b)=D at*;generalize meetX l m*l.b-meetY l m*l.a=M at*;by_cases hD:0<D
 .refine BQ.of_fracI (n:=M) (D:=D) (by omega) ?_ hB' hA'
  rw[<-e];congr 1;have:((D.natAbs:Nat):Int)=D:=by omega
  rw[<-this];rfl
 .refine BQ.of_fracI (n:= -M) (D:=D) (by omega) ?_ (BI.neg M 1200 (h:=hB')) hA'
  rw[qY,<-e];have:((D.natAbs:Nat):Rat)= -(D:Rat):=by
   have h1:((D.natAbs:Nat):Int)= -D:=by omega
   rw[<-qY,<-h1];rfl
  rw[this];grind
def o9(l:ab):List ab->ao->ao×Bool
 |[],v=>(v,true)
 |m::t,v=>if m=l then o9 l t v else if l.cutB v m=true then o9 l t (l.cutV v m) else(l.cutV v m,false)
def HR{l:ab}: ∀{c:List ab} {v:ao},(o9 l c v).2=(fA l c v).isSome
 |[],v=>rfl
 |m::t,v=>by
  rw[o9,RK];split
  .exact HR
  .split
   .exact HR
   .rfl
structure Stp (l:ab) (c:List ab) (k:Nat) (v:ao):Prop where
 le:k<=c.length
 p:fA l (c.drop k) v=fA l c ao.all
 e:o9 l (c.drop k) v=o9 l c ao.all
 z:iI v
 lo:BQ v.lo 1200
 hi:BQ v.hi 1200
def wE(l m:ab)(v:ao):ao:=if 0<(m.dir.cross l.dir).num.sign then tB v (dH l (gG l m)) else tx v (dH l (gG l m))
def ZS{l m:ab}{v:ao}[LB l][LB m](hn:l.Ne)(hz:iI v)(hlo:BQ v.lo 1200)(hhi:BQ v.hi 1200)(h0:crossI l m≠0):l.cutV v m=wE l m v/\l.cutB v m=!(wE l m v).empty/\iI (wE l m v)/\BQ (wE l m v).lo 1200/\BQ (wE l m v).hi 1200:=by
 have hb:=Ms (l:=l) (m:=m) hn h0;unfold wE;split
 .rename_i h
  obtain⟨_,h1,h2⟩:=UN hn hz ((pI _).1 h);refine⟨h1,h2,hz.lo' _,?_⟩;unfold tB;split
  .exact⟨hb,hhi⟩
  .exact⟨hlo,hhi⟩
 .rename_i h
  obtain⟨h1,h2⟩:=Xi hn hz h0 (fun e=>h ((pI _).2 e));refine⟨h1,h2,hz.hi' _,?_⟩;unfold tx;split
  .exact⟨hlo,hb⟩
  .exact⟨hlo,hhi⟩
def cG(l:ab):DV:= .ag [vI (cc (l.a:Rat)),vI (cb (l.a:Rat)),dC (l.a:Rat),vI (cc (l.b:Rat)),vI (cb (l.b:Rat)),dC (l.b:Rat),vI (cc (l.c:Rat)),vI (cb (l.c:Rat)),dC (l.c:Rat)]
def eZ(p:aa):DV:= .ag [vI (cc p.x),vI (cb p.x),dC p.x,vI (cc p.y),vI (cb p.y),dC p.y]
def eW(v:ao):DV:= .ag [vI (cc v.lo),vI (cb v.lo),dC v.lo,vI (cc v.hi),vI (cb v.hi),dC v.hi, .v (.bool v.nl), .v (.bool v.nh)]
def AQ{G:Gh}{t:List DV}{vs:List Value}(h:IsLs G (vI 0::vI 0:: .v (.pointer none)::t) vs):IsLs G (vI (cc 0)::vI (cb 0)::dC 0::t) vs:=by
 obtain⟨y1,l1,rfl,k1,g1⟩:=bm.1 h;obtain⟨y2,l2,rfl,k2,g2⟩:=bm.1 g1;obtain⟨y3,l3,rfl,k3,g3⟩:=bm.1 g2;have e:decide (fG 0)=false:=decide_eq_false fun h=>FC h J;exact .cons k1 (.cons k2 (.cons (tA.2 (.inl ⟨e,aP.1 k3⟩)) g3))
def EY{G:Gh}(a:List DV){t:List DV}{vs:List Value}(h:IsLs G (a++vI 0::vI 0:: .v (.pointer none)::t) vs):IsLs G (a++vI (cc 0)::vI (cb 0)::dC 0::t) vs:=by
 obtain⟨x,y,rfl,h1,h2⟩:=h.unapp;exact h1.app (AQ h2)
def aCB(G:Gh)(y:Value)(k:Is G (.ag [vI 0,vI 0, .v (.pointer none),vI 0,vI 0, .v (.pointer none), .v (.bool true), .v (.bool true)]) y):Is G (eW ao.all) y:=by
 obtain⟨l,rfl,g⟩:=dm.1 k;exact dm.2 ⟨l,J,AQ (EY [vI 0,vI 0, .v (.pointer none)] g)⟩
def oq:List Int->Int
 |[]=>0
 |a::t=>if a≠0 then a else oq t
theorem aO.nor(l:ab)[LB l]:aO l.nor 97:=⟨inferInstanceAs (BQ (l.a:Rat) 97),inferInstanceAs (BQ (l.b:Rat) 97)⟩
attribute [instance] aO.nor
instance aO.scale (p:aa) (c:Rat) (i k:Nat) [aO p i] [BQ c k]:aO (p.scale c) (i+k):=⟨inferInstanceAs (BQ (p.x*c) _),inferInstanceAs (BQ (p.y*c) _)⟩
instance aO.add (p q:aa) (i j:Nat) [aO p i] [aO q j]:aO (p.add q) (i+j+1):=⟨inferInstanceAs (BQ (p.x+q.x) _),inferInstanceAs (BQ (p.y+q.y) _)⟩
instance LB.revA (l:ab) [h:LB l]:LB l.rev:=⟨⟨by rw[show l.rev.a= -l.a from J,jN];exact h.bl.a,by rw[show l.rev.b= -l.b from J,jN];exact h.bl.b,by rw[show l.rev.c= -l.c from J,jN];exact h.bl.c⟩⟩
def XK:PF GB prog 200 [] (eW ao.all):=by
 refine fn func200 J J ntmps200 J J (fun C=>?_);exact iv J aCB
def yg{l:ab}:PF GB prog 189 [cG l] (eZ l.nor):=by
 refine fn func189 J J ntmps189 J J (fun C=>?_);exact rz J J
def vu{l:ab}[hl:LB l]:PF GB prog 124 [cG l] (eZ l.dir):=by
 refine fn func124 J J ntmps124 J J (fun C=>?_);refine cl J (nA (q:=(l.a:Rat))) J<|rz J J
def sj{p q:aa}{i j:Nat}[hp:aO p i][hq:aO q j](hi:i<=40000000:=by decide)(hj:j<=40000000:=by decide):PF GB prog 185 [eZ p,eZ q] (eF (p.dot q)):=by
 refine fn func185 J J ntmps185 J J (fun C=>?_);refine cl J (rj (p:=p.x) (q:=q.x) (by omega) (by omega)) J<|cl J (rj (p:=p.y) (q:=q.y) (by omega) (by omega)) J<|cl J (rD (p:=p.x*q.x) (q:=p.y*q.y) (by omega) (by omega)) J<|rz J J
def av1{p q:aa}{i j:Nat}[hp:aO p i][hq:aO q j](hi:i<=40000000:=by decide)(hj:j<=40000000:=by decide):PF GB prog 204 [eZ p,eZ q] (eF (p.cross q)):=by
 refine fn func204 J J ntmps204 J J (fun C=>?_);refine cl J (rj (p:=p.x) (q:=q.y) (by omega) (by omega)) J<|cl J (rj (p:=p.y) (q:=q.x) (by omega) (by omega)) J<|cl J (tn (p:=p.x*q.y) (q:=p.y*q.x) (by omega) (by omega)) J<|rz J J
def Iw{p:aa}{c:Rat}{i j:Nat}[hp:aO p i][hc:BQ c j](hi:i<=40000000:=by decide)(hj:j<=40000000:=by decide):PF GB prog 174 [eZ p,eF c] (eZ (p.scale c)):=by
 refine fn func174 J J ntmps174 J J (fun C=>?_);refine cl J (rj (p:=p.x) (q:=c) (by omega) (by omega)) J<|cl J (rj (p:=p.y) (q:=c) (by omega) (by omega)) J<|rz J J
def O4{p q:aa}{i j:Nat}[hp:aO p i][hq:aO q j](hi:i<=40000000:=by decide)(hj:j<=40000000:=by decide):PF GB prog 173 [eZ p,eZ q] (eZ (p.add q)):=by
 refine fn func173 J J ntmps173 J J (fun C=>?_);refine cl J (rD (by omega) (by omega)) J<|cl J (rD (by omega) (by omega)) J<|rz J J
def Ps{l:ab}[hl:LB l]:PF GB prog 201 [cG l] (eZ l.base):=by
 refine fn func201 J J ntmps201 J J (fun C=>?_);refine cl J yg J<|cl J (nA (q:=(l.c:Rat))) J<|cl J (sj (p:=l.nor) (q:=l.nor)) J<|cl J (xu (p:= -(l.c:Rat)) (q:=l.nor.dot l.nor)) J<|cl J (Iw (p:=l.nor)) J<|rz J J
def Ge{l:ab}{p:aa}{i:Nat}[hl:LB l][hp:aO p i](hi:i<=10000000:=by decide):PF GB prog 190 [cG l,eZ p] (eF (l.value p)):=by
 refine fn func190 J J ntmps190 J J (fun C=>?_);refine cl J (yg (l:=l)) J<|cl J (sj (p:=l.nor) (q:=p) (by omega) (by omega)) J<|cl J (rD (p:=l.nor.dot p) (q:=(l.c:Rat)) (by omega) (by omega)) J<|rz J J
def Fw{l:ab}{p:aa}{i:Nat}[hl:LB l][hp:aO p i](hi:i<=10000000:=by decide):PF GB prog 125 [cG l,eZ p] (vI (l.value p).num.sign):=by
 refine fn func125 J J ntmps125 J J (fun C=>?_);refine cl J (Ge (l:=l) (p:=p) hi) J<|cl J (mE (q:=l.value p) (by omega)) J<|rz J J
def BU{l:ab}{t:Rat}{i:Nat}[hl:LB l][ht:BQ t i](hi:i<=10000000:=by decide):PF GB prog 187 [cG l,eF t] (eZ (l.at t)):=by
 refine fn func187 J J ntmps187 J J (fun C=>?_);refine cl J (Ps (l:=l)) J<|cl J (vu (l:=l)) J<|cl J (Iw (p:=l.dir) (c:=t) (by omega) (by omega)) J<|cl J (O4 (p:=l.base) (q:=l.dir.scale t) (by omega) (by omega)) J<|rz J J
def aza{v:ao}{i j:Nat}[h1:BQ v.lo i][h2:BQ v.hi j](hi:i<=40000000:=by decide)(hj:j<=40000000:=by decide):PF GB prog 235 [eW v] (vB v.empty):=by
 refine fn func235 J J ntmps235 J J (fun C=>?_);refine mh 6 J J J (fun hg6=>?_) (fun hg6=>?_)
 .
  refine mh 11 J J J (fun hg11=>?_) (fun hg11=>?_)
  .
   refine cl J (pi (p:=v.lo) (q:=v.hi) (by omega) (by omega)) J<|rz J (by unfold ao.empty;simp_all [vB,gm])
  .
   exact rz J (by unfold ao.empty;simp_all [vB,gm])
 .
  exact rz J (by unfold ao.empty;simp_all [vB,gm])
instance ao.meet_lo (v w:ao) (i j:Nat) [h1:BQ v.lo i] [h3:BQ w.lo j]:BQ (v.meet w).lo (i+j):=by
 have a:=h1.mono (pT i j);have b:=h3.mono (Nat.le_add_left j i);unfold ao.meet;dsimp only;(repeat' split)<;>assumption
instance ao.meet_hi (v w:ao) (i j:Nat) [h1:BQ v.hi i] [h3:BQ w.hi j]:BQ (v.meet w).hi (i+j):=by
 have a:=h1.mono (pT i j);have b:=h3.mono (Nat.le_add_left j i);unfold ao.meet;dsimp only;(repeat' split)<;>assumption
def Je{v w:ao}{i j:Nat}[h1:BQ v.lo i][h2:BQ v.hi i][h3:BQ w.lo j][h4:BQ w.hi j](hi:i<=10000000:=by decide)(hj:j<=10000000:=by decide):PF GB prog 202 [eW v,eW w] (.tp [eW (v.meet w),vB (!(v.meet w).empty)]):=by
 refine fn (fu:=⟨16⟩) func202 J J ntmps202 J J (fun C=>?_);refine mg (fu:=⟨1⟩) (X:=Unit) (fun _=>[(6, .ov 6 0)]) (fun _=>[(6,some (.o 137 [.d (vI (cc (v.meet w).lo)), .d (vI (cb (v.meet w).lo)), .d (dC (v.meet w).lo), .d (vI (cc v.hi)), .d (vI (cb v.hi)), .d (dC v.hi), .d (.v (.bool (v.nl&&w.nl))), .d (.v (.bool (v.nh)))] true))]) (fun _=>True) [6] [6] rfl ?_ (fun _=>J) (fun _ _=>?_)
 .
  refine gx J<|bb (v1:=fun hc8=>by simp only[aj];kernel_rfl) J J J (fun hc8=>?_) (fun hc8=>?_)
  .
   have em:(v.meet w).lo=w.lo:=by unfold ao.meet;simp_all
   have eb:(v.nl&&w.nl)=w.nl:=by simp_all
   exact at_ () trivial (hO:=⟨by rw[em,eb]<;>rfl,by repeat (first|exact trivial|refine And.intro J ?_)⟩)
  .
   refine bb J J J (fun hc17=>?_) (fun hc17=>?_)
   .
    refine cl J (SU (p:=v.lo) (q:=w.lo) (by omega) (by omega)) J<|?_;have em:(v.meet w).lo=(if v.lo<w.lo then w.lo else v.lo):=by unfold ao.meet;simp_all
    have eb:(v.nl&&w.nl)=v.nl:=by simp_all
    exact at_ () trivial (hO:=⟨by rw[em,eb]<;>rfl,by repeat (first|exact trivial|refine And.intro J ?_)⟩)
   .
    have em:(v.meet w).lo=v.lo:=by unfold ao.meet;simp_all
    have eb:(v.nl&&w.nl)=v.nl:=by simp_all
    exact at_ () trivial (hO:=⟨by rw[em,eb]<;>rfl,by repeat (first|exact trivial|refine And.intro J ?_)⟩)
 .
  refine mg (X:=Unit) (fun _=>[(6, .ov 6 0)]) (fun _=>[(6,some (.o 137 [.d (vI (cc (v.meet w).lo)), .d (vI (cb (v.meet w).lo)), .d (dC (v.meet w).lo), .d (vI (cc (v.meet w).hi)), .d (vI (cb (v.meet w).hi)), .d (dC (v.meet w).hi), .d (.v (.bool (v.nl&&w.nl))), .d (.v (.bool (v.nh&&w.nh)))] true))]) (fun _=>True) [6] [6] rfl ?_ (fun _=>J) (fun _ _=>?_)
  .
   refine gx J<|bb (v1:=fun hc27=>by simp only[aj];kernel_rfl) J J J (fun hc27=>?_) (fun hc27=>?_)
   .
    have em:(v.meet w).hi=w.hi:=by unfold ao.meet;simp_all
    have eb:(v.nh&&w.nh)=w.nh:=by simp_all
    exact at_ () trivial (hO:=⟨by rw[em,eb]<;>rfl,by repeat (first|exact trivial|refine And.intro J ?_)⟩)
   .
    refine bb J J J (fun hc36=>?_) (fun hc36=>?_)
    .
     refine cl J (PL (p:=v.hi) (q:=w.hi) (by omega) (by omega)) J<|?_;have em:(v.meet w).hi=(if w.hi<v.hi then w.hi else v.hi):=by unfold ao.meet;simp_all
     have eb:(v.nh&&w.nh)=v.nh:=by simp_all
     exact at_ () trivial (hO:=⟨by rw[em,eb]<;>rfl,by repeat (first|exact trivial|refine And.intro J ?_)⟩)
    .
     have em:(v.meet w).hi=v.hi:=by unfold ao.meet;simp_all
     have eb:(v.nh&&w.nh)=v.nh:=by simp_all
     exact at_ () trivial (hO:=⟨by rw[em,eb]<;>rfl,by repeat (first|exact trivial|refine And.intro J ?_)⟩)
  .
   refine cl J (aza (v:=v.meet w) (i:=i+j) (j:=i+j) (by omega) (by omega)) J<|rz J J
theorem BQ.z1:BQ (0:Rat) 1:=⟨by decide,by decide⟩
def RA{v:ao}{t:Rat}{i j:Nat}[h1:BQ v.lo i][h2:BQ v.hi i][h3:BQ t j](hi:i<=10000000:=by decide)(hj:j<=9999999:=by decide):PF GB prog 202 [eW v, .ag [vI (cc t),vI (cb t),dC t,vI 0,vI 0, .v (.pointer none), .v (.bool false), .v (.bool true)]] (.tp [eW (v.meet ⟨t,0,false,true⟩),vB (!(v.meet ⟨t,0,false,true⟩).empty)]):=
 (Je (v:=v) (w:=⟨t,0,false,true⟩) (j:=j+1) (h3:=h3.mono (by omega)) (h4:=BQ.z1.mono (by omega)) hi (by omega)).ofI fun G vs hv=>HU (fun y hy=>by
  obtain⟨l,rfl,g⟩:=dm.1 hy;exact dm.2 ⟨l,J,EY [_,_,_] g⟩) hv
def Ye{v:ao}{t:Rat}{i j:Nat}[h1:BQ v.lo i][h2:BQ v.hi i][h3:BQ t j](hi:i<=10000000:=by decide)(hj:j<=9999999:=by decide):PF GB prog 202 [eW v, .ag [vI 0,vI 0, .v (.pointer none),vI (cc t),vI (cb t),dC t, .v (.bool true), .v (.bool false)]] (.tp [eW (v.meet ⟨0,t,true,false⟩),vB (!(v.meet ⟨0,t,true,false⟩).empty)]):=
 (Je (v:=v) (w:=⟨0,t,true,false⟩) (j:=j+1) (h4:=h3.mono (by omega)) (h3:=BQ.z1.mono (by omega)) hi (by omega)).ofI fun G vs hv=>HU (fun y hy=>by
  obtain⟨l,rfl,g⟩:=dm.1 hy;exact dm.2 ⟨l,J,AQ g⟩) hv
instance BQ.cutK (l m:ab) [LB l] [LB m]:BQ (l.cutK m) 400:=BQ.mono (inferInstance:BQ (m.nor.dot l.dir) _)
instance BQ.cutC (l m:ab) [LB l] [LB m]:BQ (l.cutC m) 2500:=BQ.mono (inferInstance:BQ (m.value l.base) _)
def zd{l m:ab}{v:ao}{i:Nat}[hl:LB l][hm:LB m][h1:BQ v.lo i][h2:BQ v.hi i](hi:i<=10000000:=by decide):PF GB prog 137 [cG l,eW v,cG m] (.tp [eW (l.cutV v m),vB (l.cutB v m)]):=by
 refine fn func137 J J ntmps137 J J (fun C=>?_);refine cl J (yg (l:=m)) J<|cl J (vu (l:=l)) J<|cl J (sj (p:=m.nor) (q:=l.dir)) J<|cl J (Ps (l:=l)) J<|cl J (Ge (l:=m) (p:=l.base)) J<|cl J (mE (q:=l.cutK m)) J<|br J J J (fun hc21=>?_) (fun hc21=>?_)
 .
  refine cl J (mE (q:=l.cutC m)) J<|rz J (by unfold ab.cutV ab.cutB;rw[if_pos hc21,if_pos hc21];rfl)
 .
  refine br J J J (fun hc27=>?_) (fun hc27=>?_)
  .
   refine cl J (xu (p:=l.cutC m) (q:=l.cutK m)) J<|cl J (nA (q:=l.cutC m/l.cutK m)) J<|cl J (RA (v:=v) (t:= -(l.cutC m/l.cutK m)) hi) J<|rz J (by unfold ab.cutB ab.cutV;rw[if_neg hc21,if_neg hc21,if_pos hc27];rfl)
  .
   refine cl J (xu (p:=l.cutC m) (q:=l.cutK m)) J<|cl J (nA (q:=l.cutC m/l.cutK m)) J<|cl J (Ye (v:=v) (t:= -(l.cutC m/l.cutK m)) hi) J<|rz J (by unfold ab.cutB ab.cutV;rw[if_neg hc21,if_neg hc21,if_neg hc27];rfl)
def Q7{v:ao}{i:Nat}[h1:BQ v.lo i][h2:BQ v.hi i](hi:i<=10000000:=by decide):PF GB prog 188 [eW v] (eF v.sample):=by
 refine fn func188 J J ntmps188 J J (fun C=>?_);refine mh 6 J J J (fun hg6=>?_) (fun hg6=>?_)
 .
  refine bb J J J (fun hc3=>?_) (fun hc3=>?_)
  .
   exact iv J (by unfold ao.sample;rw[hg6,hc3];exact vt)
  .
   refine bb J J J (fun hc11=>?_) (fun hc11=>?_)
   .
    refine cl J (pO (m:=1)) J<|cl J (tn (p:=v.hi) (q:=((1:Int):Rat)) (by omega) (by decide)) J<|rz J (by unfold ao.sample;simp_all [gm]<;>rfl)
   .
    refine bb J J J (fun hc18=>?_) (fun hc18=>?_)
    .
     refine cl J (pO (m:=1)) J<|cl J (rD (p:=v.lo) (q:=((1:Int):Rat)) (by omega) (by decide)) J<|rz J (by unfold ao.sample;simp_all [gm]<;>rfl)
    .
     refine cl J (rD (p:=v.lo) (q:=v.hi) (by omega) (by omega)) J<|cl J (D6 (q:=v.lo+v.hi) (by omega)) J<|rz J (by unfold ao.sample;simp_all [gm]<;>rfl)
 .
  refine bb J J J (fun hc11=>?_) (fun hc11=>?_)
  .
   refine cl J (pO (m:=1)) J<|cl J (tn (p:=v.hi) (q:=((1:Int):Rat)) (by omega) (by decide)) J<|rz J (by unfold ao.sample;simp_all [gm]<;>rfl)
  .
   refine bb J J J (fun hc18=>?_) (fun hc18=>?_)
   .
    refine cl J (pO (m:=1)) J<|cl J (rD (p:=v.lo) (q:=((1:Int):Rat)) (by omega) (by decide)) J<|rz J (by unfold ao.sample;simp_all [gm]<;>rfl)
   .
    refine cl J (rD (p:=v.lo) (q:=v.hi) (by omega) (by omega)) J<|cl J (D6 (q:=v.lo+v.hi) (by omega)) J<|rz J (by unfold ao.sample;simp_all [gm]<;>rfl)
def Di(p q:aa):DV:= .ag [vI (cc p.x),vI (cb p.x),dC p.x,vI (cc p.y),vI (cb p.y),dC p.y,vI (cc q.x),vI (cb q.x),dC q.x,vI (cc q.y),vI (cb q.y),dC q.y]
def D2{C:aC}{n:Nat}{Q0:Exit->Act->World->Prop}{fr:av}{own:aF}{ops:Array Oper}{r:List Oper}{K:List Kt}(k:Nat){l:List DV}(hl:bi fr k=some (.d (.pt l)))(h:ak prog GB C n Q0 ((k, .ep l)::fr) own (.ops ops r K)):ak prog GB C n Q0 fr own (.ops ops r K):=
 n5 hl (fun ρ G y hy=>by
  obtain⟨b,m,rfl,h1,h2⟩:=l7.1 hy;have e:=h2.len;exact⟨b,0,m,m,J,h1,by rw[jC m 0 l.length (by omega),gT,<-e,cJ],h2⟩) h
section
variable {GB:Gh} {C:aC} {n:Nat} {Q0:Exit->Act->World->Prop} {fr fr':av} {own own':aF} {cf cf':Cf} {vc:List Prop} {ops:Array Oper} {r:List Oper} {K:List Kt}
def q9(k:Nat){d:DV}(hl:bi fr k=some (.d d))(h: ∀(GB':Gh) (pv:Value),bD GB GB'->Is GB' d pv->ak prog GB' C n Q0 ((k, .d (.v pv))::fr) own (.ops ops r K)):ak prog GB C n Q0 fr own (.ops ops r K):=by
 refine⟨fun ρ G ov a w r0=>?_⟩;obtain⟨y,hy,hy'⟩:=r0.fx k _ hl;refine(h G y r0.gb hy').run ρ G ov a w ⟨bD.refl _,r0.h,r0.sz,r0.df,fun j f e=>?_,r0.bx,r0.dj,r0.fxd⟩;rw[il] at e;split at e
 .rename_i hj
  cases e;subst hj
  exact⟨y,hy,(aP (G:=G)).2 J⟩
 .exact r0.fx j f e
def aLe(fr:av)(cf:Cf):Option (FuncId×Value):=match b8 fr cf with
 |some ⟨_, .makeFunc (.func f) ⟨[x]⟩ ⟨[]⟩,_,_,_,_⟩=>match aI (bw fr cf) x with
  |some (.d (.v pv))=>some (f,pv)
  |_=>none
 |_=>none
def aKK(fr:av)(cf:Cf):Option (FuncId×List Value×List DV):=match b8 fr cf with
 |some ⟨_, .call ⟨.value fo,args,_⟩,_,_,_,_⟩=>match aI (bw fr cf) fo,evDs (bw fr cf) args.toList with
  |some (.d (.v (.func (.func f) ⟨c1⟩ ⟨[]⟩))),some ds=>some (f,c1,ds)
  |_,_=>none
 |_=>none
def Jw:List (Nat×Operand)->Option (List (Nat×Value))
 |[]=>some []
 |(i, .const v)::t=>match Jw t with
  |some l=>some ((i,v)::l)
  |none=>none
 |_::_=>none
def aKc(cf:Cf)(fr:av):Option (TypeId×List (Nat×Value)):=match b8 fr cf with
 |some ⟨_, .build t ⟨ps⟩,_,_,_,_⟩=>match Jw ps with
  |some vs=>some (t,vs)
  |none=>none
 |_=>none
def I'(fr:av)(own:aF)(cf:Cf):Option (TypeId×Nat×Nat×List FX×Bool×FX):=match b8 fr cf with
 |some ⟨_, .store t x y,_,_,_,_⟩=>match aI (bw fr cf) x with
  |some (.ov nm 0)=>match fE fr own cf nm with
   |some (.o ty cs lo)=>match aI (bw fr cf) y with
    |some fv=>some (t,nm,ty,cs,lo,fv)
    |_=>none
   |_=>none
  |_=>none
 |_=>none
def zS[fu:Fu]{t nm ty len e:Nat}{cs:List FX}{lo:Bool}{fv:FX}{j:TypeInfo}(h:I' fr own cf=some (t,nm,ty,cs,lo,fv))(hu:prog.underlying t=some (.array len e))(hj:prog.info? t=some j)(hc:fv.okc=true/\fv.cells.length=j.size/\j.size=cs.length)
  (hgo:cv tt n fu.n fr own cf .un [(nm,some (.o ty (uz cs 0 fv.cells) lo))] []=⟨vc,fr',own',cf'⟩)(k:ak prog GB C n Q0 fr' own' cf')
  (hv:autoParam (aj vc) cL._auto_1):ak prog GB C n Q0 fr own cf:=by
 unfold I' at h;split at h<;>try (cases h;done)
 rename_i hh;split at h<;>try (cases h;done)
 rename_i e1;split at h<;>try (cases h;done)
 rename_i hb;split at h<;>cases h;rename_i e2;obtain⟨c1,c2,c3⟩:=hc;have:mz prog t j.size:=⟨fun w=>ya hu w,fun w=>ss hj w⟩;refine us hh ?_ hgo hv k;intro hd tl tb K s1 s2 hf hk;refine⟨fun ρ G ov a w r Q=>?_⟩;have r1:=r.mono s1 s2;obtain⟨p,h1,h2⟩:=r1.ev e1;obtain⟨q,h3,h4⟩:=r1.ev e2;obtain⟨b,m,rfl,ha,h5,h6⟩:=r1.own h2 hb;obtain⟨h7,h8⟩:=h4.cells c1;obtain⟨own',u1,u2,u3⟩:=iA.of_mem (cs':=cp m 0 (aE q)) h6;exact Dk h1 h3 u1 (by rw[h7.len,c2]) (by rw[h5.len,c3];omega) (dT.2 h8) hd (fun a' w' rl=>r.wrote (m:=m) (s2 _ _ hb) ha (h5.ov h7) u2 u3 hk rl) a w Q ⟨r.h,r.sz,c6 a,r.df⟩
def aKj(fr:av)(cf:Cf):Option Mn:=match b8 fr cf with
 |some ⟨some d, .buildSlice t len parts,_,_,_,_⟩=>match de tt t with
  |some ⟨.sl e s _,_,_,_⟩=>match tM (bw fr cf) 0 parts.toList with
   |some ds=>bif Aa s ds&&(Nat.beq parts.toList.length len&&(Nat.ble (len*s) 1000&&Nat.blt 0 (len*s))) then some ⟨d,e,s,ds⟩ else none
   |none=>none
  |_=>none
 |_=>none
def aK4(fr:av)(cf:Cf):Option (TypeId×List DV):=match b8 fr cf with
 |some ⟨_, .load t x,_,_,_,_⟩=>match aI (bw fr cf) x with
  |some (.ep l)=>some (t,l)
  |_=>none
 |_=>none
def Ty:TypeDesc->Bool
 | .struct _=>false
 | .array _ _=>false
 |_=>true
end
def PF.nmd{P:Program}{f:FuncId}{ds:List DV}{r:DV}(h: ∀(G:Gh) (vs:List Value),bD GB G->IsLs G ds vs-> ∃ds',IsLs G ds' vs/\PF G P f ds' r):PF GB P f ds r:=fun G vs hg hv=>by
 obtain⟨ds',h1,h2⟩:=h G vs hg hv;exact h2 G vs (bD.refl G) h1
section
variable {GB:Gh} {C:aC} {n:Nat} {Q0:Exit->Act->World->Prop} {fr:av} {own:aF} {ops:Array Oper} {r:List Oper} {K:List Kt}
def El(k:Nat){d d2:DV}(hl:bi fr k=some (.d d))(hd: ∀G y,bD GB G->Is G d y->Is G d2 y)(h:ak prog GB C n Q0 ((k, .d d2)::fr) own (.ops ops r K)):ak prog GB C n Q0 fr own (.ops ops r K):=by
 refine⟨fun ρ G ov a w r0=>?_⟩;obtain⟨y,hy,hy'⟩:=r0.fx k _ hl;refine h.run ρ G ov a w ⟨r0.gb,r0.h,r0.sz,r0.df,fun j f e=>?_,r0.bx,r0.dj,r0.fxd⟩;rw[il] at e;split at e
 .rename_i hj
  cases e;subst hj
  exact⟨y,hy,hd G y r0.gb hy'⟩
 .exact r0.fx j f e
end
instance BQ.i1':BQ (1:Rat) 2:=⟨by decide,by decide⟩
instance BQ.i2':BQ (2:Rat) 2:=⟨by decide,by decide⟩
instance aO.at (l:ab) (t:Rat) (k:Nat) [LB l] [BQ t k]:aO (l.at t) (900+(k+97)+1):=by
 rw[<-tg];infer_instance
def oe(d:aa):aa:=⟨-d.y,d.x⟩
instance aO.turn (d:aa) (k:Nat) [aO d k]:aO (oe d) k:=⟨inferInstanceAs (BQ (-d.y) k),inferInstanceAs (BQ d.x k)⟩
def Bt(p v:aa)(m:ab):Rat:= -(m.value p/(m.value (dB p v ((1:Int):Rat))-m.value p))
def xD(p v:aa)(m:ab)(s:Rat):Rat:=if(m.value (dB p v ((1:Int):Rat))-m.value p).num.sign=0 then s else if(m.value p).num.sign=0 then s else if 0<(Bt p v m).num.sign then(if ce (Bt p v m/2) s<0 then Bt p v m/2 else s) else s
def uO(p v:aa):List ab->Rat->Rat
 |[],s=>s
 |m::t,s=>uO p v t (xD p v m s)
def xz(c:List ab)(p v:aa):aa:=dB p v (uO p v c ((1:Int):Rat))
def vn(c:List ab):List ab->aa
 |[]=>⟨0,0⟩
 |m::t=>if(o9 m c ao.all).2=true then xz c (m.at (Bj (o9 m c ao.all).1)) (oe m.dir) else vn c t
def Sp{es:List Int}{i:Nat}(h:i<es.length):(es.map vI)[(i:Int).toNat]? =some (vI (es.getD i 0)):=by simp[h]
def JY{es:List Int}{i:Nat}(h:i<es.length:=by omega):oq (es.drop i)=if es.getD i 0≠0 then es.getD i 0 else oq (es.drop (i+1)):=by
 rw[cW h,oq,aK,aZ h];rfl
def YY{es:List Int}(hn:es.length<=1000000):PF GB prog 99 [.sl (es.map vI)] (vI (oq es)):=by
 have hel:(es.map vI).length=es.length:=by simp
 refine fn (fu:=⟨15⟩) func99 J J ntmps99 J J (fun C=>?_);refine ah 7 (.d (vI (es.length:Nat))) J (by rw[hel]<;>rfl)<|gx J<|lp (X:=Nat) (fun i=>[(8, .d (vI (i:Nat)))]) (fun i=>[]) (fun i=>i<=es.length/\oq es=oq (es.drop i)) (fun i=>es.length-i) 0 J ⟨aN _,J⟩ (fun _=>J) (fun i hk=>?_);obtain⟨h1,h2⟩:=hk;refine br J J J (fun hc9=>?_) (fun hc9=>?_)
 .
  refine ix _ J (Sp (by omega)) J<|br J J J (fun hc14=>?_) (fun hc14=>?_)
  .
   exact rz J (by rw[h2,JY,if_pos hc14];rfl)
  .
   exact at_ (i+1) ⟨⟨by omega,by rw[h2,JY,if_neg hc14]⟩,(by omega)⟩
 .
  exact rz J (by rw[h2,gR (by omega)];rfl)
def DO(l m:ab):Int:=oq [ce l.a m.a,ce l.b m.b,ce l.c m.c]
def Wo(l m:ab):DO l m=0↔l=m:=by
 unfold DO oq oq oq oq;have ha:=oz (l.a:Rat) m.a;have hb:=oz (l.b:Rat) m.b;have hc:=oz (l.c:Rat) m.c;rw[mL] at ha hb hc;constructor
 .intro h
  repeat' (split at h<;>try contradiction)
  all_goals exact ab.ext' (by omega) (by omega) (by omega)
 .rintro rfl
  rw[if_neg (by simp[ha.2 J]),if_neg (by simp[hb.2 J]),if_neg (by simp[hc.2 J])]
def XT{l m:ab}[hl:LB l][hm:LB m]:PF GB prog 55 [cG l,cG m] (vI (DO l m)):=by
 refine fn func55 J J ntmps55 J J (fun C=>?_);refine cl J (pi (p:=(l.a:Rat)) (q:=(m.a:Rat))) J<|cl J (pi (p:=(l.b:Rat)) (q:=(m.b:Rat))) J<|cl J (pi (p:=(l.c:Rat)) (q:=(m.c:Rat))) J<|rf J J<|cl J (YY (es:=[ce l.a m.a,ce l.b m.b,ce l.c m.c]) (nb J)) J<|rz J J
def Vd{l m:ab}[hl:LB l][hm:LB m]:PF GB prog 57 [cG l,cG m] (vB (decide (l=m))):=by
 refine fn func57 J J ntmps57 J J (fun C=>?_);refine cl J (XT (l:=l) (m:=m)) J<|rz J (by show DV.v (.bool (decide _))= .v (.bool _);congr 2;exact decide_eq_decide.2 (Wo l m))
def IB{l:ab}[hl:LB l]:PF GB prog 101 [cG l] (cG l.rev):=by
 refine fn func101 J J ntmps101 J J (fun C=>?_);refine cl J (nA (q:=(l.a:Rat))) J<|cl J (nA (q:=(l.b:Rat))) J<|cl J (nA (q:=(l.c:Rat))) J<|rz J (by unfold cG ab.rev;simp only[qY];rfl)
def VK{l:ab}[hl:LB l]:PF GB prog 58 [cG l] (eL l):=by
 refine fn func58 J J ntmps58 J J (fun C=>?_);refine cl J (qG (q:=(l.a:Rat))) J<|cl J (qG (q:=(l.b:Rat))) J<|cl J (qG (q:=(l.c:Rat))) J<|rz J J
def Pp{p:aa}{i:Nat}[hp:aO p i](hi:i<=10000000:=by decide):PF GB prog 203 [eZ p] (vI p.half):=by
 refine fn func203 J J ntmps203 J J (fun C=>?_);refine cl J (mE (q:=p.y) (by omega)) J<|cs 10 J J J (fun hg10=>?_) (fun hg10=>?_)
 .
  exact rz J (by unfold aa.half;(repeat' split)<;>first|rfl|(exfalso;omega))
 .
  refine cs 13 J J J (fun hg13=>?_) (fun hg13=>?_)
  .
   refine cl J (mE (q:=p.x) (by omega)) J<|br J J J (fun hc7=>?_) (fun hc7=>?_)
   .
    exact rz J (by unfold aa.half;(repeat' split)<;>first|rfl|(exfalso;omega))
   .
    refine cs 23 J J J (fun hg23=>?_) (fun hg23=>?_)
    .
     exact rz J (by unfold aa.half;(repeat' split)<;>first|rfl|(exfalso;omega))
    .
     refine cl J (mE (q:=p.x) (by omega)) J<|br J J J (fun hc20=>?_) (fun hc20=>?_)
     .
      exact rz J (by unfold aa.half;(repeat' split)<;>first|rfl|(exfalso;omega))
     .
      exact rz J (by unfold aa.half;(repeat' split)<;>first|rfl|(exfalso;omega))
  .
   refine cs 23 J J J (fun hg23=>?_) (fun hg23=>?_)
   .
    exact rz J (by unfold aa.half;(repeat' split)<;>first|rfl|(exfalso;omega))
   .
    refine cl J (mE (q:=p.x) (by omega)) J<|br J J J (fun hc20=>?_) (fun hc20=>?_)
    .
     exact rz J (by unfold aa.half;(repeat' split)<;>first|rfl|(exfalso;omega))
    .
     exact rz J (by unfold aa.half;(repeat' split)<;>first|rfl|(exfalso;omega))
def ay7{u v:aa}{i j:Nat}[hp:aO u i][hq:aO v j](hi:i<=10000000:=by decide)(hj:j<=10000000:=by decide):PF GB prog 140 [eZ u,eZ v] (vI (fm u v)):=by
 refine fn func140 J J ntmps140 J J (fun C=>?_);refine cl J (Pp (p:=u) hi) J<|cl J (Pp (p:=v) hj) J<|br J J J (fun hc11=>?_) (fun hc11=>?_)
 .
  exact rz J (by unfold fm;rw[if_pos hc11];rfl)
 .
  refine br J J J (fun hc15=>?_) (fun hc15=>?_)
  .
   exact rz J (by unfold fm;rw[if_neg hc11,if_pos hc15];rfl)
  .
   refine cl J (av1 (p:=u) (q:=v) (by omega) (by omega)) J<|cl (fu:=⟨0⟩) J (mE (q:=u.cross v) (by omega)) J<|?_;have hs:=qQ (u.cross v).num;refine gx J<|rz J (by unfold fm;rw[if_neg hc11,if_neg hc15];rfl)
def Uw{m:Int}:dl (dg m.natAbs)/\(decide (m<0)=true->0<(dg m.natAbs).length):=⟨(ey _).2.2,fun h=>by
 have:0<m.natAbs:=by have:=of_decide_eq_true h;omega
 exact tI.2 this⟩
def pq{m:Int}{i:Nat}[h:BI m i](hi:i<=1000000000:=by decide):PF GB prog 130 [eI m] (.v (.bool true)):=(Om (neg:=decide (m<0)) (ds:=dg m.natAbs) (ey _).2.1 (by have:=hH (a:=m.natAbs) hi;omega)).to (by unfold vB;rw[decide_eq_true Uw])
def I8{l:ab}(h:l.ok):rgcd (rgcd (l.a:Rat) (l.b:Rat)) (l.c:Rat)=((1:Int):Rat):=by
 rw[tU,tU];have:=h.2;simp only[dR];rw[this];rfl
instance BQ.rgcd (p q:Rat) (i j:Nat) [h:BQ p i] [k:BQ q j]:BQ (rgcd p q) (i+j+(i+j)):=by
 unfold Sx.rgcd;refine wU (iV (me p) (me q)) ?_ ?_
 .rw[dR]
  have h1:=l6 h.hn k.hd;have h2:=l6 k.hn h.hd;rw[kK j i] at h2;rw[dK];exact Ok h1 h2
 .have h1:=l6 h.hd k.hd
  have:=uI (show i+j<=i+j+(i+j) by omega);omega
def IX{l:ab}[hl:LB l](ho:l.ok):PF GB prog 80 [eL l] (.tp [cG l,vB true]):=by
 refine fn func80 J J ntmps80 J J (fun C=>?_);refine cl (fu:=⟨0⟩) J (pq (m:=l.a)) J<|b9 J J J<|cl (fu:=⟨0⟩) J (pq (m:=l.b)) J<|b9 J J J<|cl (fu:=⟨0⟩) J (pq (m:=l.c)) J<|b9 J J J<|cl J (rO (m:=l.a)) J<|cl J (rO (m:=l.b)) J<|cl J (rO (m:=l.c)) J<|cl (fu:=⟨0⟩) J (qv (q:=(l.a:Rat))) J<|ru (fu2:=⟨4⟩) J J J J (fun hg35=>?_) (fun hg35=>?_)
 .
  have ha:l.a=0:=dV.1 hg35;refine cl (fu:=⟨1⟩) J (qv (q:=(l.b:Rat))) J<|b9 J (by first|rfl|(show some (decide _)=some false;rw[decide_eq_false (fun e=>ho.1 ⟨ha,dV.1 e⟩)])) J<|cl J (kw (p:=(l.a:Rat)) (q:=(l.b:Rat))) J<|cl J (kw (p:=rgcd l.a l.b) (q:=(l.c:Rat))) J<|cl J (pO (m:=1)) J<|cl (fu:=⟨0⟩) J (wG (p:=rgcd (rgcd l.a l.b) l.c) (q:=((1:Int):Rat))) J<|b9 J (by show some (!decide _)=some false;rw[I8 ho,decide_eq_true J];rfl) J<|rz J J
 .
  refine b9 J (by first|rfl|(show some (decide _)=some false;rw[decide_eq_false (fun e=>ho.1 ⟨ha,dV.1 e⟩)])) J<|cl J (kw (p:=(l.a:Rat)) (q:=(l.b:Rat))) J<|cl J (kw (p:=rgcd l.a l.b) (q:=(l.c:Rat))) J<|cl J (pO (m:=1)) J<|cl (fu:=⟨0⟩) J (wG (p:=rgcd (rgcd l.a l.b) l.c) (q:=((1:Int):Rat))) J<|b9 J (by show some (!decide _)=some false;rw[I8 ho,decide_eq_true J];rfl) J<|rz J J
def bj(f:aH):DV:= .ag [vI (cc (f.l.a:Rat)),vI (cb (f.l.a:Rat)),dC (f.l.a:Rat),vI (cc (f.l.b:Rat)),vI (cb (f.l.b:Rat)),dC (f.l.b:Rat),vI (cc (f.l.c:Rat)),vI (cb (f.l.c:Rat)),dC (f.l.c:Rat),vI (cc f.v.lo),vI (cb f.v.lo),dC f.v.lo,vI (cc f.v.hi),vI (cb f.v.hi),dC f.v.hi, .v (.bool f.v.nl), .v (.bool f.v.nh)]
structure rB (v:ao):Prop where
 z:iI v
 lo:BQ v.lo 1200
 hi:BQ v.hi 1200
structure CO (s:aH):Prop where
 lb:LB s.l
 ok:s.l.ok
 v:rB s.v
abbrev gn (c:aA):Prop:= ∀s∈c,CO s
def kb{α:Type}(f:α->DV)(l:List α):(l.map f).length=l.length:=by simp
def rB.all:rB ao.all:=⟨⟨fun _=>J,fun _=>J⟩,BQ.z1.mono (by decide),BQ.z1.mono (by decide)⟩
def rB.cut{l m:ab}{v:ao}[LB l][LB m](hn:l.Ne)(h:rB v):rB (l.cutV v m):=by
 by_cases h0:crossI l m=0
 .rw[(Tl (v:=v) h0).1];exact h
 .obtain⟨u1,_,u3,u4,u5⟩:=ZS (v:=v) hn h.z h.lo h.hi h0
  rw[u1];exact⟨u3,u4,u5⟩
def Ig(o:Option ao):ao:=o.getD ⟨0,0,false,false⟩
def aEx(G:Gh)(y:Value)(k:Is G (.tp [.ag [vI 0,vI 0, .v (.pointer none),vI 0,vI 0, .v (.pointer none), .v (.bool false), .v (.bool false)], .v (.bool false)]) y):Is G (.tp [eW (Ig none),vB false]) y:=by
 obtain⟨m,rfl,g⟩:=rP.1 k;exact rP.2 ⟨m,J,IQ (fun y hy=>by
  obtain⟨l,rfl,g⟩:=dm.1 hy;exact dm.2 ⟨l,J,AQ (EY [vI 0,vI 0, .v (.pointer none)] g)⟩) g⟩
def cO{α:Type}{f:α->DV}{l:List α}{i:Nat}{s:α}(h:l[i]? =some s):(l.map f)[(i:Int).toNat]? =some (f s):=by simp[h]
def yf{α:Type}{l:List α}{k:Nat}{s:α}(h:l[k]? =some s):l.drop k=s::l.drop (k+1):=by
 obtain⟨h1,h2⟩:=aT.1 h;rw[cW h1,h2]
def Ls{l:ab}{c:aA}{v:ao}{k:Nat}{s:aH}(h:c[k]? =some s):mc l (c.drop k) v=if l.cutB v s.l then mc l (c.drop (k+1)) (l.cutV v s.l) else none:=by
 rw[yf h];rfl
def EM{l:ab}{c:aA}{k:Nat}{s:aH}(h:c[k]? =some s):nf l (c.drop k)=if mp l s≠0 then mp l s else if s.l=l then 1 else nf l (c.drop (k+1)):=by
 rw[yf h];rfl
instance BQ.sample (v:ao) [h1:BQ v.lo 1200] [h2:BQ v.hi 1200]:BQ v.sample 2500:=by
 unfold ao.sample;split
 .exact BQ.mono (k:=1) ⟨by decide,by decide⟩
 .split
  .exact BQ.mono (inferInstance:BQ (v.hi-((1:Int):Rat)) _)
  .split
   .exact BQ.mono (inferInstance:BQ (v.lo+((1:Int):Rat)) _)
   .exact BQ.mono (inferInstance:BQ ((v.lo+v.hi)*mkRat 1 2) _)
def Qw{c:aA}{l:ab}[hl:LB l](hlo:l.ok)(hc:gn c)(hn:c.length<=1000000):PF GB prog 135 [.sl (c.map bj),cG l] (.tp [eW (Ig (jm c l)),vB (jm c l).isSome]):=by
 have hm:=kb bj c;refine fn func135 J J ntmps135 J J (fun C=>?_);refine cl (fu:=⟨10⟩) J XK J<|ah 12 (.d (vI (c.length:Nat))) J (by rw[kb]<;>rfl)<|gx J<|lp (X:=ao×Nat) (fun⟨v,k⟩=>[(13, .d (vI (k:Nat))),(6, .ov 6 0)]) (fun⟨v,k⟩=>[(6,some (.o 137 [.d (vI (cc v.lo)), .d (vI (cb v.lo)), .d (dC v.lo), .d (vI (cc v.hi)), .d (vI (cb v.hi)), .d (dC v.hi), .d (.v (.bool v.nl)), .d (.v (.bool v.nh))] true))]) (fun⟨v,k⟩=>k<=c.length/\rB v/\mc l (c.drop k) v=jm c l) (fun⟨v,k⟩=>c.length-k) (ao.all,0) J ⟨aN _, .all,J⟩ (fun _=>J) (fun⟨v,k⟩ hk=>?_);dsimp only at hk⊢;obtain⟨h1,h2,h3⟩:=hk;haveI:=h2.lo;haveI:=h2.hi;refine br J J J (fun hc14=>?_) (fun hc14=>?_)
 .
  obtain⟨s,hs0⟩: ∃s,c[k]? =some s:=⟨_,aZ (by omega)⟩;have hs:=hc s (aV hs0);haveI:=hs.lb;refine ix _ J (cO hs0) J<|cl (fu:=⟨0⟩) J (zd (l:=l) (m:=s.l) (v:=v)) J<|?_;generalize hw:l.cutV v s.l=w;generalize hb:l.cutB v s.l=b;refine gx J<|bb J J J (fun hc26=>?_) (fun hc26=>?_)
  .
   exact iv J (by rw[<-h3,Ls hs0,hb,if_neg (by simpa using hc26)];exact aEx)
  .
   exact at_ (w,k+1) (by dsimp only;exact⟨⟨by omega,hw▸h2.cut hlo.1,by rw[<-h3,Ls hs0,hb,hw,if_pos (by simpa using hc26)]⟩,(by omega)⟩)
 .
  exact rz J (by rw[<-h3,gR (by omega)];rfl)
def azB{c:aA}{l:ab}[hl:LB l](hlo:l.ok)(hc:gn c)(hn:c.length<=1000000):PF GB prog 136 [.sl (c.map bj),cG l] (vI (u6 c l)):=by
 have hm:=kb bj c;refine fn func136 J J ntmps136 J J (fun C=>?_);refine cl J (Qw (c:=c) (l:=l) hlo hc hn) J<|bb (fu2:=⟨7⟩) J J J (fun hc16=>?_) (fun hc16=>?_)
 .
  exact rz J (by unfold u6;rw[if_pos hc16];rfl)
 .
  have hp:u6 c l=nf l c:=by unfold u6;rw[if_neg (by simp[hc16])]
  refine ah 18 (.d (vI (c.length:Nat))) J (by rw[kb]<;>rfl)<|gx J<|lp (X:=Nat) (fun k=>[(19, .d (vI (k:Nat)))]) (fun k=>[]) (fun k=>k<=c.length/\nf l (c.drop k)=nf l c) (fun k=>c.length-k) 0 J ⟨aN _,J⟩ (fun _=>J) (fun k hk=>?_);obtain⟨h1,h2⟩:=hk;refine br J J J (fun hc20=>?_) (fun hc20=>?_)
  .
   obtain⟨s,hs0⟩: ∃s,c[k]? =some s:=⟨_,aZ (by omega)⟩;have hs:=hc s (aV hs0);haveI:=hs.lb;haveI:=hs.v.lo;haveI:=hs.v.hi;haveI:=BQ.sample s.v;refine ix _ J (cO hs0) J<|cl (fu:=⟨0⟩) J (Q7 (v:=s.v)) J<|?_;generalize ht:s.v.sample=t at*;refine gx J<|cl J (BU (l:=s.l) (t:=t)) J<|cl J (Fw (l:=l) (p:=s.l.at t)) J<|br J J J (fun hc32=>?_) (fun hc32=>?_)
   .
    have hsd:mp l s=(l.value (s.l.at t)).num.sign:=by unfold mp;rw[ht]
    exact rz J (by rw[hp,<-h2,EM hs0,hsd,if_pos hc32];rfl)
   .
    refine cl J (Vd (l:=s.l) (m:=l)) J<|bd J J J (fun hc37=>?_) (fun hc37=>?_)
    .
     have hsd:mp l s=(l.value (s.l.at t)).num.sign:=by unfold mp;rw[ht]
     exact rz J (by rw[hp,<-h2,EM hs0,hsd,if_neg hc32,if_pos hc37];rfl)
    .
     have hsd:mp l s=(l.value (s.l.at t)).num.sign:=by unfold mp;rw[ht]
     exact at_ (k+1) ⟨⟨by omega,by rw[<-h2,EM hs0,hsd,if_neg hc32,if_neg hc37]⟩,(by omega)⟩
  .
   exact rz J (by rw[hp,<-h2,gR (by omega)];rfl)
def XP{vs rest:List Value}(h: ∀v∈vs,(aE v).length=17){i:Nat}(hi:i<=vs.length):cA (aG vs++rest) (i*17) ((vs.length-i)*17)=some (aG (vs.drop i)):=by
 have hl:=ez vs h;have hd:(aG (vs.drop i)).length=(vs.length-i)*17:=by
  rw[ez (s:=17) _ (fun v hv=>h v (gL hv)),fN]
 rw[jC _ _ _ (by simp only[aL];omega)];congr 1;rw[jM (by omega),Cq vs i h hi,fV (by omega),cR (by omega)]
def V0{vs rest vcs:List Value}(h: ∀v∈vs,(aE v).length=17)(hv:vcs.length=17){i:Nat}(hi:i<vs.length)(hr:17<=rest.length):
  cp (cp (aG vs++rest) ((i+1)*17) (aG (vs.drop i))) (i*17) vcs=aG (vs.take i)++vcs++aG (vs.drop i)++rest.drop 17:=by
 have hl:=ez vs h;have hd:(aG (vs.drop i)).length=(vs.length-i)*17:=by
  rw[ez (s:=17) _ (fun v hv=>h v (gL hv)),fN]
 have ht:(aG (vs.take i)).length=i*17:=by
  rw[ez (s:=17) _ (fun v hv=>h v (fK hv)),bK,iM (by omega)]
 rw[oF (aG (vs.drop i)) (aG vs++rest) _ (by rw[aL];omega)];rw[oF vcs _ _ (by simp only[aL,bK,fN];omega)];have e1:(aG vs++rest).drop ((i+1)*17+(aG (vs.drop i)).length)=rest.drop 17:=by
  rw[hd,show(i+1)*17+(vs.length-i)*17=(aG vs).length+17 by omega,lN,kJ (by omega),cZ];congr 1;omega
 have e2:((aG vs++rest).take ((i+1)*17)++aG (vs.drop i)++rest.drop 17).take (i*17)=aG (vs.take i):=by
  rw[cN,fV (by simp only[bK,aL];omega),List.take_take,iM (by omega),fV (by omega),Gp vs i h (by omega)]
 have e3:((aG vs++rest).take ((i+1)*17)++aG (vs.drop i)++rest.drop 17).drop (i*17+vcs.length)=aG (vs.drop i)++rest.drop 17:=by
  rw[hv,cN,show i*17+17=((aG vs++rest).take ((i+1)*17)).length by simp only[bK,aL];omega,List.drop_left]
 rw[e1,e2,e3];simp[cN]
def aqU{vs rest vcs:List Value}(h: ∀v∈vs,(aE v).length=17)(hv:vcs.length=17)(hr:17<=rest.length):cp (aG vs++rest) (vs.length*17) vcs=aG vs++vcs++rest.drop 17:=by
 have hl:=ez vs h;rw[oF _ _ _ (by simp only[aL];omega),hv,<-hl,List.take_left,lN];simp
def akz{G:Gh}{b bv cap i c2:Nat}{vs rest vcs r2:List Value}{lo lo2:Bool}(hvs: ∀v∈vs,(aE v).length=17)(hfl: ∀v∈vs,∀c∈aE v,flat c=true)(hv:vcs.length=17)(hvf: ∀c∈vcs,flat c=true)
  (hcap:vs.length*17+rest.length=cap*17)(hroom:vs.length+1<=cap)(hi:i<=vs.length)(hb:vs.length<=1125899906842624):
  lE prog 141 [.slice (some ⟨b,0,none⟩) vs.length cap, .int .i64 i, .slice (some ⟨bv,0,none⟩) 1 c2] [⟨b,aG vs++rest,139,lo⟩,⟨bv,vcs++r2,139,lo2⟩] G
   (fun u css _=>u= .slice (some ⟨b,0,none⟩) (vs.length+1) cap/\css=[aG (vs.take i)++vcs++aG (vs.drop i)++rest.drop 17,vcs++r2]):=by
 have hL:(aG vs++rest).length=cap*17:=by rw[aL,ez vs hvs];exact hcap
 have hr:17<=rest.length:=by omega
 have hD:(aG (vs.drop i)).length=(vs.length-i)*17:=by
  rw[ez (s:=17) _ (fun v hv=>hvs v (gL hv)),fN]
 have hDf: ∀c∈aG (vs.drop i),flat c=true:=fun c hc=>by
  obtain⟨l,hl,hcl⟩:=List.mem_flatten.1 hc;obtain⟨v,hv,rfl⟩:=bX.1 hl;exact hfl v (gL hv) c hcl
 have hvt:cA (vcs++r2) 0 (1*17)=some vcs:=by rw[jC _ _ _ (by rw[aL];omega),gT,fV (by omega),cR (by omega)]
 refine lE.intro func141 J J ntmps141 J ?_;intro C _ _;show St C _ _ [⟨b,aG vs++rest,139,false⟩,⟨bv,vcs++r2,139,false⟩] _ _;refine Rh (fun hne=>?_);simp only[] at hne;refine sR<|sa J J<|zE<|sR<|sm J J<|sm J J<|sy (Dw J J) J<|zE<|sR<|?_;refine sm J J<|EJ J J<|sa J J<|zE<|lO<|sR<|sm J J<|sy (GH J J) J<|zE<|F2 J<|?_;refine zK<|sR<|sm J J<|EJ J J<|sa J J<|zE<|lO<|sR<|sm J J<|sm J J<|sy (GH J J) J<|zE<|?_;refine MO J (fun hc=>?_) (fun hc=>?_) -- slot 22
 .have hin:i=vs.length:=by omega
  subst hin;refine sR<|sm J J<|sm J J<|?_;refine sc (NA (s:=17) (m:=1) (ys:=vcs) J J (.hd ..) hL (xQ inferInstance hvt) (by omega) hvf hroom J ?_);refine sa J J<|zE<|sB<|?_;refine Ip (css:=[cp (aG vs++rest) (vs.length*17) vcs,vcs++r2]) (.tmp J .nil) J _ (List.Perm.refl _) (List.Sublist.refl _) ⟨J,?_⟩;rw[aqU hvs hv hr,cJ,lZ];simp[aG]
 have hin:i<vs.length:=by omega
 have hn1:((vs.length:Int)+((1:Nat):Int)).toNat=vs.length+1:=by omega
 have ht1:((i:Int)+((1:Nat):Int)).toNat=i+1:=by omega
 refine zK<|lO<|sR<|sm J J<|sm J J<|sy (C8 J J) J<|sm J J<|?_;refine sy (aDM J) J<|sy (Mh J J) J<|zE<|?_;refine MO J (fun hc2=>?_) (fun hc2=>?_) -- slot 31
 .exact absurd hc2 (by omega)
 refine zK<|sR<|sm J J<|sm J J<|sm J J<|sy (C8 J J) J<|sy (DW J J) J<|?_;rw[hn1];refine sa J J<|zE<|lO<|sR<|sm J J<|sm J J<|sm J J<|sm J J<|sy (C8 J J) J<|sy (A5 J J) J<|?_;refine sy (V7 (tS:=91) (tR:=4) func205 (by kernel_rfl) (by kernel_rfl) (by kernel_rfl) (by kernel_rfl) J J (Ne.symm hne) (fun h=>by rw[h] at hL;simp at hL;omega)) J<|?_;refine sy (Kd J) J<|zE<|Iq J<|?_;refine lO<|dr0 (b:=b) (fun _=>false) [(0,true),(1,true),(2,true),(3,true),(4,true),(5,true),(6,true),(7,true),(8,false)] follows (.hd ..) (by kernel_rfl)<|dM J J J<|?_;refine dM J J J<|dM J J J<|dy J (fun _=>C8 J J (by omega) (by omega)) J J<|dy J (fun _=>A5 J J) J J<|?_;refine dM J J J<|dM J J J<|dy J (fun _=>A5 J J) J J<|?_;rw[ht1,eY,dL,dL];refine dc J J (OF (s:=17) (m:=vs.length-i) (ys:=aG (vs.drop i)) J J (by show min _ _=_;omega) (xQ inferInstance (XP hvs hi)) hDf (by rw[hD,hL];omega) (.hd ..) J ?_);refine sP<|dn<|sR<|sm J J<|sm J J<|sy (A5 J J) J<|sm J J<|?_;rw[eY,dL];refine sc (OF (s:=17) (m:=1) (ys:=vcs) J J (by show min _ _=_;omega) (xQ inferInstance hvt) hvf (by rw[xX,hL,hv];omega) (.hd ..) J ?_);refine zE<|sR<|sm J J<|sa J J<|zE<|sB<|?_;refine Ip (css:=[cp (cp (aG vs++rest) ((i+1)*17) (aG (vs.drop i))) (i*17) vcs,vcs++r2]) (.tmp J .nil) J _ (List.Perm.refl _) (List.Sublist.refl _) ⟨J,?_⟩;rw[V0 hvs hv hin hr]
def lE.toO{P:Program}{f:FuncId}{vs:List Value}{M:List au}{G:Gh}{K:Value->List (List Value)->Gh->Prop}{K':Value->List au->Gh->Prop}(h:lE P f vs M G K)(hk: ∀v css G',bD G G'->css.length=M.length->K v css G'-> ∃o,o.Sublist (jq (asB M) css)/\K' v o G'):gE P f vs M G K':=
 ⟨h.able,fun w hw=>(h.run w hw).mono fun _ _ ⟨v,css,G',he,hl,hh,hK⟩=>let⟨o,h1,h2⟩:=hk v css G' hh.gle hl hK;⟨v,o,G',he,hh.drop h1,h2⟩⟩
def NV(c:aA):du 17 (c.map bj):=fun d hd=>by
 obtain⟨f,_,rfl⟩:=bX.1 hd;exact⟨rfl,rfl⟩
def Ov{G:Gh}{s:Nat}{ds:List DV}{vs:List Value}(hk:du s ds)(h:IsLs G ds vs): ∀v∈vs,∀c∈aE v,flat c=true:=fun v hv=>by
 obtain⟨d,hd,h3⟩:=h.all v hv;exact(h3.cells (hk d hd).1).2
def avv{c:aA}{x:aH}{i cap:Nat}(hi:i<=c.length)(hc:c.length+1<=cap)(hn:c.length<=1000000):PI GB prog 141 (i:Nat) 17 139 139 (c.map bj) (bj x) cap ((c.take i++x::c.drop i).map bj):=by
 intro G w w2 B B2 _ hB hcap hB2;obtain⟨vs,q1,q2,q3,_⟩:=hB;obtain⟨us,u1,u2,u3,_⟩:=hB2;dsimp only at q1 q2 q3 u1 u2 u3;have hl:=q2.len;rw[aX] at hl;obtain⟨v,m,rfl,hv,hm⟩:=bm.1 u2
 cases ck.1 hm
 rcases q1 with⟨_,e,_⟩|⟨b,rest,lo,e,rfl,h5,h6,h7⟩
 .rw[e] at hcap;simp at hcap;omega
 rcases u1 with⟨h,_⟩|⟨bv,r2,lo2,e2,rfl,h8,h9,h10⟩
 .cases h
 have hx:(aE v).length=17:=u3 v aQ;have hxf:=Ov (s:=17) (ds:=[bj x]) (fun d hd=>by rw[aY.1 hd];exact⟨J,J⟩) u2 v aQ;have key:=akz (G:=G) (b:=b) (bv:=bv) (cap:=w.c) (i:=i) (c2:=w2.c) (vs:=vs) (rest:=rest) (vcs:=aE v) (r2:=r2) (lo:=lo) (lo2:=lo2) q3 (Ov (NV c) q2) hx hxf (by rw[<-h5];exact h6) (by omega) (by omega) (by omega);rw[e,e2];rw[ug];refine key.toO fun u css G' hg hl2 ⟨k1,k2⟩=>?_;subst k1 k2;have hall: ∀u∈vs.take i++v::vs.drop i,(aE u).length=17:=fun u hu=>by
  rcases bS.1 hu with hu|hu
  .exact q3 u (fK hu)
  .rcases aU.1 hu with rfl|hu
   .exact hx
   .exact q3 u (gL hu)
 have hlen:(vs.take i++v::vs.drop i).length=vs.length+1:=by
  rw[aL,bY,bK,fN];omega
 refine⟨[⟨b,aG (vs.take i)++aE v++aG (vs.drop i)++rest.drop 17,139,false⟩], .cons_cons _ (kQ _),⟨some ⟨b,0,none⟩,vs.length+1,w.c⟩,J,vs.take i++v::vs.drop i, .inr ⟨b,rest.drop 17,false,by rw[hlen],?_,ez _ hall,?_,?_⟩,?_,hall,fun h=>by cases h⟩
 .rw[oc];simp[aG]
 .rw[ez _ hall,hlen,fN]
  rw[h5] at h6;have:=bV 17 (show vs.length+1<=w.c by omega);simp only[dZ] at this⊢;omega
 .rw[hlen];show vs.length+1<=w.c;omega
 .rw[cY,bJ,kX,nZ]
  exact((q2.take i).up hg).app (.cons (hv.up hg) ((q2.drop i).up hg))
end Go.Sx
end
