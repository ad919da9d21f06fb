import Derived.Test.YtpiknjeceobbfaaGreatDoorMw9
set_option linter.all false
set_option maxRecDepth 100000
section
namespace Go.Sx
open Go Go.Proofs Tryz
variable {GB:Gh}
def wM{x:Nat}:bl x=0↔x=0:=by
 have:= @jc x 0;simp at this;omega
def pP{a:Nat}:0<(dg a).length↔0<a:=by
 have:= @sS a;omega
def eS(neg:Bool)(a:Nat):DV:= .ag [.v (.bool neg),dN a]
def rZ(neg:Bool)(a:Nat):eI (zv neg a)= .ag [.v (.bool (neg&&decide (0<a))),dN a]:=by unfold eI;rw[ki,CM]
def Hy{n:Bool}{u:Nat}{b:Int}(h:n≠decide (b<0))(hle:b.natAbs<=u):zv n (u-b.natAbs)=zv n u+b:=by cases n<;>simp[zv] at* <;>omega
def Kj{n:Bool}{u:Nat}{b:Int}(h:n≠decide (b<0))(hle:u<=b.natAbs):zv (decide (b<0)) (b.natAbs-u)=zv n u+b:=by cases n<;>simp[zv] at* <;>(try rw[if_pos h])<;>(try rw[if_neg (by omega)])<;>omega
def Fe{neg:Bool}{ds:List Nat}(hd:bj ds)(hl:ds.length<=1125899906842624):PF GB prog 242 [.ag [.v (.bool neg),d8 ds]] (vB (decide (cG ds/\(neg=true->0<ds.length)))):=by
 refine fn func242 J J ntmps242 J J (fun C=>?_);refine cl J (xb hd hl) J<|?_;refine csd 6 J J J (fun hg6=>?_) (fun hg6=>?_)
 .
  refine gu 10 J J J (fun hg10=>?_) (fun hg10=>?_)
  .
   exact rz J (by unfold vB;congr 2;simp_all [jj])
  .
   exact rz J (by unfold vB;congr 2;simp_all [jj])
 .
  exact rz J (by unfold vB;congr 2;simp_all [jj])
def Eg{n:Bool}{a i:Nat}[h:BN a i](hi:i<=1000000000:=by decide):PF GB prog 156 [eS n a] (vI (zv n a).sign):=by
 refine fn func156 J J ntmps156 J J (fun C=>?_);refine cl J (l4 (a:=a) hi) J<|?_;refine br J J J (fun hc3=>?_) (fun hc3=>?_)
 .
  exact rz J (by have:=wM.1 (Int.ofNat.inj hc3);subst this;cases n<;>rfl)
 .
  refine bb J J J (fun hc8=>?_) (fun hc8=>?_)
  .
   exact rz J (by subst hc8;rw[fS (by have:a≠0:=(fun e=>hc3 (by rw[e];rfl));simp[zv];omega)];rfl)
  .
   exact rz J (by subst hc8;rw[gL (by have:a≠0:=(fun e=>hc3 (by rw[e];rfl));simp[zv];omega)];rfl)
def uq{m:Int}(h0: -9223372036854775808<=m)(h1:m<=9223372036854775807):PF GB prog 121 [vI m] (eI m):=by
 refine fn (fu:=⟨8⟩) func121 J J ntmps121 J J (fun C=>?_);refine cu ((m%18446744073709551616:Int)) J (ip _) J<|?_;refine br (fu1:=⟨2⟩) (fu2:=⟨0⟩) J J J (fun hc7=>?_) (fun hc7=>?_)
 .
  refine nu ((m.natAbs:Nat)) J (by rw[ip];omega) J<|cl J (wg (a:=m.natAbs) (by omega)) J<|?_;exact rz J J
 .
  refine aF 3 (.d (.v (.int .u64 (m.natAbs:Nat)))) J (by congr 3;omega) ?_;refine gx J<|cl J (wg (a:=m.natAbs) (by omega)) J<|?_;exact rz J J
def DK{n:Bool}{a:Nat}(h:a<4611686018427387904):PF GB prog 174 [eS n a] (.tp [vI (zv n a),vB true]):=by
 refine fn func174 J J ntmps174 J J (fun C=>?_);refine cl (fu:=⟨2⟩) J (uz (a:=a) (by omega)) J<|lr J J J<|?_;refine gu 18 J J J (fun hg18=>?_) (fun hg18=>?_)
 .
  refine br (fu1:=⟨3⟩) J J J (fun hc12=>?_) (fun hc12=>?_)
  .
   refine nu (fu:=⟨0⟩) (((18446744073709551616-a)%18446744073709551616:Int)) J (by rw[ip];omega) J<|cu (zv n a) J (by subst hg18;rw[CE];simp only[zv,if_true];omega) J<|?_;exact rz J J
  .
   exact absurd (by omega) hc12
 .
  refine gu 32 J J J (fun hg32=>?_) (fun hg32=>?_)
  .
   refine br J J J (fun hc25=>?_) (fun hc25=>?_)
   .
    exact rz J (by subst hg18;rfl)
   .
    exact absurd (by omega) hc25
  .
   subst hg18;cases hg32
def ol{neg:Bool}{a i:Nat}[h:BN a i](hi:i<=1000000000:=by decide):PF GB prog 169 [eS neg a] (eI (zv neg a)):=by
 refine fn func169 J J ntmps169 J J (fun C=>?_);refine cl J (ot hi) J<|?_;refine gu 9 J J J (fun hg9=>?_) (fun hg9=>?_)
 .
  exact rz J (by rw[rZ];simp[hg9,pP,jj])
 .
  exact rz J (by rw[rZ];simp[hg9,pP,jj])
def rm{neg:Bool}{a:Nat}:PF GB prog 251 [.v (.bool neg),dN a] (eI (zv neg a)):=by
 refine fn func251 J J ntmps251 J J (fun C=>?_);refine gu 6 J J J (fun hg6=>?_) (fun hg6=>?_)
 .
  exact rz J (by rw[rZ];simp[hg6,pP,jj])
 .
  exact rz J (by rw[rZ];simp[hg6,pP,jj])
def Lv{m:Int}{i:Nat}[h:BI m i](hi:i<=1000000000:=by decide):PF GB prog 207 [eI m] (eI (-m)):=by
 refine fn func207 J J ntmps207 J J (fun C=>?_);refine cl J (ol (neg:=!decide (m<0)) (a:=m.natAbs) hi) J<|?_;exact rz J (by rw[Kv,jd];rfl)
def wT{a b:Int}{i j:Nat}[h:BI a i][k:BI b j](hi:i<=1000000000:=by decide)(hj:j<=1000000000:=by decide):PF GB prog 237 [eI a,eI b] (eI (a*b)):=by
 refine fn func237 J J ntmps237 J J (fun C=>?_);refine cl J (o9 (a:=a.natAbs) (b:=b.natAbs) hi hj) J<|cl J rm J<|?_;exact rz J (by rw[show(!(decide (a<0)==decide (b<0)))=(decide (a<0) !=decide (b<0)) from J,FI,jd,jd];rfl)
def IQ{n1:Bool}{u:Nat}{b:Int}{i j:Nat}[h:BN u i][k:BI b j](hi:i<=1000000000:=by decide)(hj:j<=1000000000:=by decide):PF GB prog 236 [eS n1 u,eI b] (eI (zv n1 u+b)):=by
 refine fn func236 J J ntmps236 J J (fun C=>?_);refine bb J J J (fun hc13=>?_) (fun hc13=>?_)
 .
  refine cl J (JA (b:=b.natAbs) hi hj) J<|cl J rm J<|?_;exact rz J (by rw[Mn,show n1=decide (b<0) from by simpa using hc13,jd];rfl)
 .
  refine cl J (DT (b:=b.natAbs) hi hj) J<|?_;refine bd J J J (fun hc30=>?_) (fun hc30=>?_)
  .
   refine cl J rm J<|?_;exact rz J (by rw[Hy (by simpa using hc13) hc30];rfl)
  .
   refine cl J (DT (a:=b.natAbs) hj hi) J<|cl J rm J<|?_;exact rz J (by rw[Kj (by simpa using hc13) (by omega)];rfl)
def KX{a b:Int}{i j:Nat}[h:BI a i][k:BI b j](hi:i<=1000000000:=by decide)(hj:j<=1000000000:=by decide):PF GB prog 236 [eI a,eI b] (eI (a+b)):=(IQ (n1:=decide (a<0)) (u:=a.natAbs) hi hj).to (by rw[jd])
def de(q:Rat):Prop:= ¬(q.num.natAbs<4611686018427387904/\q.den<4611686018427387904)
instance (q:Rat):Decidable (de q):=inferInstanceAs (Decidable (¬_))
def cD(q:Rat):Int:=if de q then 0 else q.num
def cE(q:Rat):Int:=if de q then 0 else(q.den:Int)-1
def cB(q:Rat):DV:= .op (decide (de q)) [.v (.bool (decide (q.num<0))),dN q.num.natAbs,dN q.den]
def eF(q:Rat):DV:= .ag [vI (cD q),vI (cE q),cB q]
abbrev Ku {q:Rat} (h:decide (de q)=true):de q:=of_decide_eq_true h
abbrev kH {q:Rat} (h:decide (de q)=false): ¬de q:=of_decide_eq_false h
abbrev FK {q:Rat} (h: ¬decide (de q)=false):de q:=by simpa using h
abbrev iA {q:Rat} (h: ¬decide (de q)=true): ¬de q:=by simpa using h
def ir{q:Rat}(h: ¬de q):cD q=q.num:=if_neg h
def i7{q:Rat}(h: ¬de q):cE q=(q.den:Int)-1:=if_neg h
def jy{q:Rat}(h: ¬de q):q.num.natAbs<4611686018427387904:=(Decidable.not_not.1 h).1
def jD{q:Rat}(h: ¬de q):q.den<4611686018427387904:=(Decidable.not_not.1 h).2
def C9{q:Rat}(h:de q):q≠0:=fun e=>by subst e;exact h ⟨by decide,by decide⟩
def kO{q:Rat}{m d:Int}{r:DV}(h: ¬de q)(h1:q.num=m)(h2:(q.den:Int)-1=d)(e:r= .ag [vI m,vI d, .v (.pointer none)])(G:Gh)(y:Value)(k:Is G r y):Is G (eF q) y:=by
 subst e h1 h2;obtain⟨l,rfl,g⟩:=du.1 k;obtain⟨y1,l1,rfl,k1,g1⟩:=bz.1 g;obtain⟨y2,l2,rfl,k2,g2⟩:=bz.1 g1;obtain⟨y3,l3,rfl,k3,g3⟩:=bz.1 g2;exact du.2 ⟨_,J, .cons (by rw[ir h];exact k1) (.cons (by rw[i7 h];exact k2) (.cons (ni.2 (.inl ⟨decide_eq_false h,bh.1 k3⟩)) g3))⟩
def Cd{q:Rat}{n:Bool}{a d:Nat}{r:DV}(h:de q)(h1:decide (q.num<0)=n)(h2:q.num.natAbs=a)(h3:q.den=d)(e:r= .ag [vI 0,vI 0, .pt [.v (.bool n),dN a,dN d]])(G:Gh)(y:Value)(k:Is G r y):Is G (eF q) y:=by
 subst e h1 h2 h3;obtain⟨l,rfl,g⟩:=du.1 k;obtain⟨y1,l1,rfl,k1,g1⟩:=bz.1 g;obtain⟨y2,l2,rfl,k2,g2⟩:=bz.1 g1;obtain⟨y3,l3,rfl,k3,g3⟩:=bz.1 g2;exact du.2 ⟨_,J, .cons (by unfold cD;rw[if_pos h];exact k1) (.cons (by unfold cE;rw[if_pos h];exact k2) (.cons (ni.2 (.inr ⟨decide_eq_true h,k3⟩)) g3))⟩
def oL(G:Gh)(y:Value)(k:Is G (.ag [vI 0,vI 0, .v (.pointer none)]) y):Is G (eF 0) y:=kO (fun h=>C9 h J) J J J G y k
def xe{m:Int}(h:m.natAbs<4611686018427387904)(G:Gh)(y:Value)(k:Is G (.ag [vI m,vI 0, .v (.pointer none)]) y):Is G (eF (m:Rat)) y:=
 kO (fun k=>k ⟨by simpa using h,by rw[mM];decide⟩) (Rat.num_intCast m) (by rw[mM];rfl) J G y k
def Ad{n:Bool}{a d:Nat}(hd:0<d):(mkRat (zv n a) d).num=zv n (a/Nat.gcd a d)/\(mkRat (zv n a) d).den=d/Nat.gcd a d:=by
 obtain⟨h1,h2⟩:=AY (m:=zv n a) hd;rw[ki] at h1 h2;exact⟨by rw[h1,GI (iS _ _)],h2⟩
def Al{n:Bool}{a d a' d':Nat}(hd:0<d)(ha:a'=a/Nat.gcd a d)(hd':d'=d/Nat.gcd a d)(h1:a'<4611686018427387904)(h2:d'<4611686018427387904)(G:Gh)(y:Value)(k:Is G (.ag [vI (zv n a'),vI ((d':Int)-1), .v (.pointer none)]) y):Is G (eF (mkRat (zv n a) d)) y:=by
 obtain⟨e1,e2⟩:=Ad (n:=n) (a:=a) hd;rw[<-ha] at e1;rw[<-hd'] at e2;exact kO (fun k=>k ⟨by rw[e1,ki];exact h1,by rw[e2];exact h2⟩) e1 (by rw[e2]) J G y k
def rb{n:Bool}{a d a' d':Nat}(hd:0<d)(ha:a'=a/Nat.gcd a d)(hd':d'=d/Nat.gcd a d)(h: ¬(a'<4611686018427387904/\d'<4611686018427387904))(G:Gh)(y:Value)(k:Is G (.ag [vI 0,vI 0, .pt [.v (.bool (decide (zv n a'<0))),dN (zv n a').natAbs,dN d']]) y):Is G (eF (mkRat (zv n a) d)) y:=by
 obtain⟨e1,e2⟩:=Ad (n:=n) (a:=a) hd;rw[<-ha] at e1;rw[<-hd'] at e2;exact Cd (fun k=>h ⟨by rw[e1,ki] at k;exact k.1,by rw[e2] at k;exact k.2⟩) (by rw[e1]) (by rw[e1]) e2 J G y k
def FO{a d:Nat}(hd:0<d)(h: ¬(1:Int)<(bl (Nat.gcd a d):Nat)):Nat.gcd a d=1:=by
 have h1:Nat.gcd a d≠0:=fun e=>by rw[Nat.gcd_eq_zero_iff] at e;omega
 have h2:Nat.gcd a d<2^1:=jc.1 (by omega);omega
def io{x:Nat}:(((bl x:Nat):Int)<=62)↔x<4611686018427387904:=Mm
def PF.ofI{P:Program}{f:FuncId}{ds ds':List DV}{r:DV}(h:PF GB P f ds r)(k: ∀G vs,IsLs G ds' vs->IsLs G ds vs):PF GB P f ds' r:=fun G vs hg hv=>h G vs hg (k G vs hv)
def nM{n:Bool}{a d i j:Nat}[h:BN a i][k:BN d j](hi:i<=450000000:=by decide)(hj:j<=450000000:=by decide):PF GB prog 120 [eS n a,dN d] (eF (mkRat (zv n a) d)):=by
 refine fn func120 J J ntmps120 J J (fun C=>?_);refine cl J (l4 (a:=d) (by omega)) J<|?_;refine cs 13 J J J (fun hg13=>?_) (fun hg13=>?_)
 .
  exact fA rfl (by obtain rfl:=wM.1 (Int.ofNat.inj hg13);rw[Rat.mkRat_zero];exact oL)
 .
  have hd0:0<d:=by have:= @wM d;omega
  have hg0:0<Nat.gcd a d:=lU _ hd0;refine cl J (Eg (n:=n) (a:=a) (by omega)) J<|?_;refine br J J J (fun hc17=>?_) (fun hc17=>?_)
  .
   exact fA J (by rw[Int.sign_eq_zero_iff_zero.1 hc17,Rat.zero_mkRat];exact oL)
  .
   refine cl J (uv (a:=a) (b:=d) (by omega) (by omega)) J<|cl J (l4 (a:=Nat.gcd a d) (i:=i+j) (by omega)) J<|?_;refine br J J J (fun hc25=>?_) (fun hc25=>?_)
   .
    obtain⟨a',ea⟩: ∃a',a'=a/Nat.gcd a d:=⟨_,rfl⟩;obtain⟨d',ed⟩: ∃d',d'=d/Nat.gcd a d:=⟨_,rfl⟩;have hba:BN a' i:=ea▸inferInstance;have hbd:BN d' j:=ed▸inferInstance;refine cl (fu:=⟨2⟩) J (AV (a:=a) (b:=Nat.gcd a d) (j:=i+j) hg0 (by omega) (by omega)) J<|?_;refine aF 31 (.d (dN a')) J (by rw[ea]) ?_;refine gx J<|cl (fu:=⟨2⟩) J (AV (a:=d) (b:=Nat.gcd a d) (j:=i+j) hg0 (by omega) (by omega)) J<|?_;refine aF 39 (.d (dN d')) J (by rw[ed]) ?_;refine gx J<|cl J (l4 (h:=hba) (by omega)) J<|?_;refine cs 46 J J J (fun hg46=>?_) (fun hg46=>?_)
    .
     refine cl J (l4 (h:=hbd) (by omega)) J<|?_;refine br J J J (fun hc50=>?_) (fun hc50=>?_)
     .
      have hs2:=io.1 hc50;refine cl J (DK (io.1 hg46)) J<|cl J (uz (by have:=io.1 hc50;omega)) J<|?_;exact fA J (Al hd0 ea ed (io.1 hg46) (io.1 hc50))
     .
      refine cl J (ol (neg:=n) (h:=hba) (by omega)) J<|cl J (ot (h:=hbd) (by omega)) J<|fz 71 J J<|?_;exact fA J (rb hd0 ea ed (fun e=>hc50 (io.2 e.2)))
    .
     refine cl J (ol (neg:=n) (h:=hba) (by omega)) J<|cl J (ot (h:=hbd) (by omega)) J<|fz 71 J J<|?_;exact fA J (rb hd0 ea ed (fun e=>hg46 (io.2 e.1)))
   .
    have hg1:=FO hd0 hc25;have ea:a=a/Nat.gcd a d:=by rw[hg1,Nat.div_one]
    have ed:d=d/Nat.gcd a d:=by rw[hg1,Nat.div_one]
    have hba:=h;have hbd:=k;refine cl J (l4 (h:=hba) (by omega)) J<|?_;refine cs 46 J J J (fun hg46=>?_) (fun hg46=>?_)
    .
     refine cl J (l4 (h:=hbd) (by omega)) J<|?_;refine br J J J (fun hc50=>?_) (fun hc50=>?_)
     .
      have hs2:=io.1 hc50;refine cl J (DK (io.1 hg46)) J<|cl J (uz (by have:=io.1 hc50;omega)) J<|?_;exact fA J (Al hd0 ea ed (io.1 hg46) (io.1 hc50))
     .
      refine cl J (ol (neg:=n) (h:=hba) (by omega)) J<|cl J (ot (h:=hbd) (by omega)) J<|fz 71 J J<|?_;exact fA J (rb hd0 ea ed (fun e=>hc50 (io.2 e.2)))
    .
     refine cl J (ol (neg:=n) (h:=hba) (by omega)) J<|cl J (ot (h:=hbd) (by omega)) J<|fz 71 J J<|?_;exact fA J (rb hd0 ea ed (fun e=>hg46 (io.2 e.1)))
def q7{q:Rat}:PF GB prog 200 [eF q] (vB (decide (q=0))):=by
 refine fn func200 J J ntmps200 J J (fun C=>?_);refine cs 6 J J J (fun hg6=>?_) (fun hg6=>?_)
 .
  exact rz J (by rw[ir (kH hg6)];show DV.v (.bool (decide _))= .v (.bool _);congr 2;exact decide_eq_decide.2 ⟨fun e=>iY.1 e,fun e=>by rw[e];rfl⟩)
 .
  exact rz J (by rw[decide_eq_false (C9 (FK hg6))];rfl)
def pU{m:Int}(h:m.natAbs<9223372036854775808):PF GB prog 247 [vI m] (.v (.int .u64 (m.natAbs:Nat))):=by
 refine fn func247 J J ntmps247 J J (fun C=>?_);refine br J J J (fun hc4=>?_) (fun hc4=>?_)
 .
  exact rz J (by show DV.v (.int _ _)=_;congr 2;omega)
 .
  exact rz J (by show DV.v (.int _ _)=_;congr 2;omega)
def jk{q:Rat}{i:Nat}[h:BQ q i](hi:i<=900000000:=by decide):PF GB prog 178 [eF q] (dN q.den):=by
 refine fn func178 J J ntmps178 J J (fun C=>?_);refine br (v1:=fun hc5=>by simp only[ah];exact hc5) (fu2:=⟨6⟩) J J J (fun hc5=>?_) (fun hc5=>?_)
 .
  refine cl J (ot (a:=q.den) (by omega)) J<|?_;exact rz J J
 .
  have hd:=q.den_nz;have hs:=jD (iA hc5);refine aF 13 (.d (vI ((q.den:Int)-1))) J (by rw[i7 (iA hc5)]) ?_;refine gx (fu:=⟨2⟩) J<|?_;refine aF 15 (.d (.v (.int .u64 (q.den:Nat)))) J (by congr 3;omega) ?_;refine gx J<|cl J (wg (a:=q.den) (by omega)) J<|?_;exact rz J J
def nP{q:Rat}{i:Nat}[h:BQ q i](hi:i<=900000000:=by decide):PF GB prog 117 [eF q] (eI q.num):=by
 refine fn func117 J J ntmps117 J J (fun C=>?_);refine br (v1:=fun hc5=>by simp only[ah];exact hc5) (fu2:=⟨6⟩) J J J (fun hc5=>?_) (fun hc5=>?_)
 .
  refine cl J (ol (neg:=decide (q.num<0)) (a:=q.num.natAbs) (by omega)) J<|?_;exact rz J (by rw[jd];rfl)
 .
  have hs:=jy (iA hc5);refine aF 13 (.d (vI q.num)) J (by rw[ir (iA hc5)]) ?_;refine gx J<|cl J (uq (by omega) (by omega)) J<|?_;exact rz J J
def ml{q:Rat}{i:Nat}[h:BQ q i](hi:i<=900000000:=by decide):PF GB prog 157 [eF q] (eF (-q)):=by
 refine fn func157 J J ntmps157 J J (fun C=>?_);refine br (v1:=fun hc5=>by simp only[ah];exact hc5) (fu2:=⟨6⟩) J J J (fun hc5=>?_) (fun hc5=>?_)
 .
  refine cl (fu:=⟨6⟩) (hv:=by simp only[ah];exact hc5) J (Lv (m:=q.num) (by omega)) J<|Iq J J<|?_;exact fA J (Cd (q:= -q) (fun k=>Ku hc5 (by rw[jK,fW,lN] at k;exact k)) (by rw[jK]) (by rw[jK]) (lN q) J)
 .
  have hs:=jy (iA hc5);refine aF 21 (.d (vI q.num)) J (by rw[ir (iA hc5)]) ?_;refine gx J<|?_;exact fA J (kO (q:= -q) (fun k=>k (by rw[jK,fW,lN];exact⟨hs,jD (iA hc5)⟩)) (by rw[jK]) (by rw[lN,i7 (iA hc5)]) J)
def ik{q:Rat}{i:Nat}[h:BQ q i](hi:i<=900000000:=by decide):PF GB prog 112 [eF q] (vI q.num.sign):=by
 refine fn func112 J J ntmps112 J J (fun C=>?_);refine br (v1:=fun hc3=>by simp only[ah];exact hc3) J J J (fun hc3=>?_) (fun hc3=>?_)
 .
  refine cl J (Eg (n:=decide (q.num<0)) (a:=q.num.natAbs) (by omega)) J<|?_;exact rz J (by rw[jd];rfl)
 .
  have hs:=ir (iA hc3);refine br J J J (fun hc13=>?_) (fun hc13=>?_)
  .
   exact rz J (by rw[fS (by omega)];rfl)
  .
   refine br J J J (fun hc17=>?_) (fun hc17=>?_)
   .
    exact rz J (by rw[gL (by omega)];rfl)
   .
    exact rz J (by rw[show q.num=0 by omega];rfl)

def Bq(neg:Bool)(m:Nat):eI (zv neg m)= .ag [.v (.bool (neg&&decide (0<m))),dN m]:=by unfold eI;rw[ki,CM]
def xr{neg:Bool}{m:Nat}:PF GB prog 125 [.v (.bool neg),dN m] (eI (zv neg m)):=by
 have hl:=D8 (dg m);have hz:= @sS m;refine fn func125 J J ntmps125 J J (fun C=>?_);refine gu 6 J J J (fun hg6=>?_) (fun hg6=>?_)
 .
  exact rz J (by rw[Bq,hg6];show DV.ag [.v (.bool _),_]= .ag [.v (.bool _),_];congr 4;rw[Bool.true_and];exact decide_eq_decide.2 (by omega))
 .
  exact rz J (by rw[Bq,hg6];rfl)
end Go.Sx
end
section
namespace Go.Sx
open Go
instance:DecidableEq ab:=fun x y=>decidable_of_iff (x.a=y.a/\x.b=y.b/\x.c=y.c) (by
 cases x;cases y;simp)
structure aP where
 lo:Rat
 hi:Rat
 nl:Bool
 nh:Bool
def aP.all:aP:=⟨0,0,true,true⟩
def aP.empty(v:aP):Bool:=!v.nl&&(!v.nh&&decide (0<=bw v.lo v.hi))
def aP.meet(v w:aP):aP:=
 ⟨if v.nl then w.lo else if w.nl then v.lo else if v.lo<w.lo then w.lo else v.lo,
  if v.nh then w.hi else if w.nh then v.hi else if w.hi<v.hi then w.hi else v.hi,v.nl&&w.nl,v.nh&&w.nh⟩
def aP.sample(v:aP):Rat:=if v.nl&&v.nh then 0 else if v.nl then v.hi-1 else if v.nh then v.lo+1 else(v.lo+v.hi)*mkRat 1 2
def ab.cutK(l m:ab):Rat:=m.nor.dot l.dir
def ab.cutC(l m:ab):Rat:=m.value l.base
def ab.cutV(l:ab)(v:aP)(m:ab):aP:=
 if Int.sign (l.cutK m).num=0 then v
 else if Int.sign (l.cutK m).num=1 then v.meet ⟨-(l.cutC m/l.cutK m),0,false,true⟩
 else v.meet ⟨0, -(l.cutC m/l.cutK m),true,false⟩
def ab.cutB(l:ab)(v:aP)(m:ab):Bool:=
 if Int.sign (l.cutK m).num=0 then decide (0<Int.sign (l.cutC m).num) else !(l.cutV v m).empty
structure aI where
 l:ab
 v:aP
abbrev bE:=List aI
def yk(l:ab):bE->aP->Option aP
 |[],v=>some v
 |s::t,v=>if l.cutB v s.l then yk l t (l.cutV v s.l) else none
def uw(c:bE)(l:ab):Option aP:=yk l c aP.all
def Cx(l:ab)(s:aI):Int:=Int.sign (l.value (s.l.at s.v.sample)).num
def EF(l:ab):bE->Int
 |[]=> -1
 |s::t=>if Cx l s≠0 then Cx l s else if s.l=l then 1 else EF l t
def Hj(c:bE)(l:ab):Int:=if(uw c l).isSome then 0 else EF l c
def aa.half(p:aa):Int:=
 if 0<Int.sign p.y.num\/(Int.sign p.y.num=0/\0<Int.sign p.x.num) then 1 else if Int.sign p.y.num<0\/Int.sign p.x.num<0 then 2 else 0
def bP(u v:aa):Int:=if u.half<v.half then-1 else if v.half<u.half then 1 else-(Int.sign (u.cross v).num)
def uJ(l:ab):bE->bE
 |[]=>[]
 |s::t=>if s.l.cutB s.v l then⟨s.l,s.l.cutV s.v l⟩::uJ l t else uJ l t
def sO(p:Nat->Bool)(i j:Nat):Nat:=
 if h:i<j then(if p ((i+j)/2) then sO p ((i+j)/2+1) j else sO p i ((i+j)/2)) else i
termination_by j-i
def AQ(c:bE)(l:ab)(i:Nat):Bool:=match c[i]? with
 |some s=>decide (bP s.l.dir l.dir<0)
 |none=>false
def GF(c:bE)(l:ab)(v:aP):bE:=
 c.take (sO (AQ c l) 0 c.length)++⟨l,v⟩::c.drop (sO (AQ c l) 0 c.length)
def ge(c:bE)(l:ab):bE:=match uw c l with
 |some v=>GF (uJ l c) l v
 |none=>c
def gw(c:bE)(l:ab):Bool:=match uw c l with
 |some _=>true
 |none=>decide (0<Hj c l)
inductive Tr where
 |leaf (b:Bool)
 |node (l:ab) (x y:Tr)
def Tr.isLeaf:Tr->Bool
 | .leaf _=>true
 | .node .. =>false
def Tr.code:Tr->Bool
 | .leaf b=>b
 | .node .. =>false
def Tr.depth:Tr->Nat
 | .leaf _=>0
 | .node _ x y=>1+max x.depth y.depth
def Tr.size:Tr->Nat
 | .leaf _=>0
 | .node _ x y=>1+x.size+y.size
def Tr.joinQ(l:ab)(x y:Tr):Tr:=if x.isLeaf&&(y.isLeaf&&(x.code==y.code)) then x else .node l x y
def Tr.restrict:Tr->bE->Tr
 | .leaf b,_=> .leaf b
 | .node l x y,c=>if !gw c l.rev then x.restrict c else if !gw c l then y.restrict c else joinQ l (x.restrict (ge c l)) (y.restrict (ge c l.rev))
def Tr.parts:Tr->bE->List (Bool×bE)
 | .leaf b,c=>[(b,c)]
 | .node l x y,c=>(if gw c l then x.parts (ge c l) else [])++(if gw c l.rev then y.parts (ge c l.rev) else [])
def Tr.all(p:ab->Prop):Tr->Prop
 | .leaf _=>True
 | .node l x y=>p l/\x.all p/\y.all p
def Tr.good:Tr->Prop
 | .leaf _=>True
 | .node _ x y=> ¬(x.isLeaf=true/\y.isLeaf=true/\x.code=y.code)/\x.good/\y.good
structure NQ where
 l:ab
 a:Int
 b:Int
def sW(b:Bool):Int:=if b then-2 else-1
def Tr.num:Tr->Nat->Int
 | .leaf b,_=>sW b
 | .node ..,n=>n
def Tr.wr:Tr->Nat->List NQ
 | .leaf _,_=>[]
 | .node l x y,n=>⟨l,x.num (n+1),y.num (n+1+x.size)⟩::x.wr (n+1)++y.wr (n+1+x.size)
def pE(l:ab)(p:aa):l.value p=(l.a:Rat)*p.x+(l.b:Rat)*p.y+(l.c:Rat):=rfl
def Lp(l:ab)(p:aa):l.rev.value p= -l.value p:=by
 rw[pE,pE];have h1:((l.rev.a:Int):Rat)= -(l.a:Rat):=(u6 l.a).symm;have h2:((l.rev.b:Int):Rat)= -(l.b:Rat):=(u6 l.b).symm;have h3:((l.rev.c:Int):Rat)= -(l.c:Rat):=(u6 l.c).symm;rw[h1,h2,h3];grind
def sX(q p:aa)(e:Rat):aa:=⟨q.x+e*(p.x-q.x),q.y+e*(p.y-q.y)⟩
def ee(q u:aa)(e:Rat):aa:=⟨q.x+e*u.x,q.y+e*u.y⟩
def eE{a b:Rat}(ha:0<a)(hb:0<b):0<a*b:=Rat.mul_pos ha hb
def mO{a b:Rat}(ha:0<=a)(hb:0<=b):0<=a*b:=jT ha hb
def Dk(a:Rat):0<=a*a:=by
 by_cases h:0<=a
 ·exact mO h h
 ·have:=mO (a:= -a) (b:= -a) (by grind) (by grind)
  grind
def sU{s k:Rat}(hk:0<k):0<s*k↔0<s:=by
 constructor
 ·intro h
  by_cases hs:0<s
  ·exact hs
  ·have:=mO (a:= -s) (b:=k) (by grind) (by grind)
   grind
 ·intro h;exact eE h hk
def ab.Ne(l:ab):Prop:= ¬(l.a=0/\l.b=0)
def ab.ok.ne{l:ab}(h:l.ok):l.Ne:=h.1
def rU{l:ab}(h:l.Ne):0<l.nor.dot l.nor:=by
 show 0<(l.a:Rat)*l.a+(l.b:Rat)*l.b;have h1:=Dk (l.a:Rat);have h2:=Dk (l.b:Rat);by_cases ha:l.a=0
 ·have hb:l.b≠0:=fun hb=>h ⟨ha,hb⟩
  have hb':(l.b:Rat)≠0:=fun e=>hb (jR.1 e);have:(l.b:Rat)*l.b≠0:=by grind
  grind
 ·have ha':(l.a:Rat)≠0:=fun e=>ha (jR.1 e)
  have:(l.a:Rat)*l.a≠0:=by grind
  grind
def Aq{l:ab}(h:l.Ne): ∃q:Rat,l.nor.dot l.nor*q= -(l.c:Rat)/\l.base=⟨(l.a:Rat)*q,(l.b:Rat)*q⟩:=by
 refine⟨-(l.c:Rat)/l.nor.dot l.nor,?_,J⟩;have:=rU h;grind
def y8(l m:ab)(t:Rat):m.value (l.at t)=l.cutC m+t*l.cutK m:=by
 simp only[ab.cutC,ab.cutK,pE,ab.at,aa.add,aa.scale,ab.dir,ab.nor,aa.dot];grind
def LC{l:ab}(h:l.Ne){p:aa}(hp:l.value p=0): ∃t,p=l.at t:=by
 obtain⟨q,h1,h2⟩:=Aq h;have hn:=rU h;obtain⟨x,y⟩:=p;rw[pE] at hp;simp only[ab.nor,aa.dot] at h1 hn;refine⟨((l.b:Rat)*x-(l.a:Rat)*y)/((l.a:Rat)*l.a+(l.b:Rat)*l.b),?_⟩;generalize ht:((l.b:Rat)*x-(l.a:Rat)*y)/((l.a:Rat)*l.a+(l.b:Rat)*l.b)=t;have ht':((l.a:Rat)*l.a+(l.b:Rat)*l.b)*t=(l.b:Rat)*x-(l.a:Rat)*y:=by grind
 simp only[ab.at,h2,aa.add,aa.scale,ab.dir,aa.mk.injEq];generalize (l.a:Rat)=a at*;generalize (l.b:Rat)=b at*;generalize (l.c:Rat)=c at*;have e1:(a*a+b*b)*(x-(a*q+b*t))=0:=by grind
 have e2:(a*a+b*b)*(y-(b*q+ -a*t))=0:=by grind
 constructor<;>grind
def aP.has(v:aP)(t:Rat):Prop:=(v.nl=true\/v.lo<=t)/\(v.nh=true\/t<=v.hi)
def aP.ins(v:aP)(t:Rat):Prop:=(v.nl=true\/v.lo<t)/\(v.nh=true\/t<v.hi)
def aP.Pos(v:aP):Prop:=v.nl=true\/v.nh=true\/v.lo<v.hi
def Jy(a b:Rat):0<=bw a b↔b<=a:=by
 unfold bw;split
 ·constructor
  ·intro h;exact absurd h (by decide)
  ·intro h;grind
 ·split
  ·constructor
   ·intro _;grind
   ·intro _;decide
  ·constructor
   ·intro _;grind
   ·intro _;decide
def pO(k:Rat):Int.sign k.num=0↔k=0:=by rw[Int.sign_eq_zero_iff_zero,iY]
def wk(k:Rat):0<k.num↔0<k:=by
 have h1:0<=k.num↔0<=k:=Rat.num_nonneg;have h2:k.num=0↔k=0:=iY;constructor
 ·intro h
  have a:=h1.1 (by omega);have b:k≠0:=fun e=>by have:=h2.2 e;omega
  grind
 ·intro h
  have a:=h1.2 (by grind);have b:k.num≠0:=fun e=>by have:=h2.1 e;grind
  omega
def Ma(k:Rat):Int.sign k.num=1↔0<k:=by rw[Int.sign_eq_one_iff_pos,wk]
def wR(k:Rat):0<Int.sign k.num↔0<k:=by
 rw[<-Ma];rcases Int.lt_trichotomy k.num 0 with h|h|h
 ·rw[fS h];decide
 ·rw[h];decide
 ·rw[gL h];decide
def vU(k:Rat):Int.sign k.num<0↔k<0:=by
 have h1:=pO k;have h2:=wR k;constructor
 ·intro h
  by_cases hk:0<k
  ·have:=h2.2 hk;omega
  ·by_cases h0:k=0
   ·have:=h1.2 h0;omega
   ·grind
 ·intro h
  have a1: ¬Int.sign k.num=0:=fun e=>by have:=h1.1 e;grind
  have a2: ¬0<Int.sign k.num:=fun e=>by have:=h2.1 e;grind
  omega
def Mf(k:Rat):k=0\/0<k\/k<0:=by grind
def mC(c:bE)(p:aa):Prop:= ∀s∈c,0<s.l.value p
def LN(c:bE)(p:aa):Prop:= ∀s∈c,0<=s.l.value p
structure y0 (c:bE):Prop where
 ne: ∃p,mC c p
 ok: ∀s∈c,s.l.ok
 edge: ∀s∈c,s.v.Pos/\ ∀t,s.v.has t↔LN c (s.l.at t)
def o4{a b c x y z:Nat}(h1:x*b=a*y)(h2:x*c=a*z)(g:Nat.gcd (Nat.gcd a b) c=1):a∣x:=by
 have e:x=Nat.gcd (Nat.gcd (x*a) (x*b)) (x*c):=by
  rw[Nat.gcd_mul_left,Nat.gcd_mul_left,g,iT]
 rw[e];exact Nat.dvd_gcd (Nat.dvd_gcd (Nat.dvd_mul_left ..) (h1▸Nat.dvd_mul_right ..)) (h2▸Nat.dvd_mul_right ..)
def GZ{a b c x y z:Int}(h1:a*y=b*x)(h2:a*z=c*x)(h3:b*z=c*y)
  (g1:Nat.gcd (Nat.gcd a.natAbs b.natAbs) c.natAbs=1)(g2:Nat.gcd (Nat.gcd x.natAbs y.natAbs) z.natAbs=1):
  (a=x/\b=y/\c=z)\/(a= -x/\b= -y/\c= -z):=by
 have n1:a.natAbs*y.natAbs=b.natAbs*x.natAbs:=by rw[<-fV,<-fV,h1]
 have n2:a.natAbs*z.natAbs=c.natAbs*x.natAbs:=by rw[<-fV,<-fV,h2]
 have n3:b.natAbs*z.natAbs=c.natAbs*y.natAbs:=by rw[<-fV,<-fV,h3]
 generalize ha:a.natAbs=A at*;generalize hb:b.natAbs=B at*;generalize hc:c.natAbs=C at*;generalize hx:x.natAbs=X at*;generalize hy:y.natAbs=Y at*;generalize hz:z.natAbs=Z at*;have gB:Nat.gcd (Nat.gcd B A) C=1:=by rw[gV B A];exact g1
 have gC:Nat.gcd (Nat.gcd C A) B=1:=by rw[Nat.gcd_assoc,gV];exact g1
 have gY:Nat.gcd (Nat.gcd Y X) Z=1:=by rw[gV Y X];exact g2
 have gZ:Nat.gcd (Nat.gcd Z X) Y=1:=by rw[Nat.gcd_assoc,gV];exact g2
 have e1:A=X:=Nat.dvd_antisymm (o4 (x:=X) (y:=Y) (z:=Z) (by grind) (by grind) g1) (o4 (x:=A) (y:=B) (z:=C) (by grind) (by grind) g2);have e2:B=Y:=Nat.dvd_antisymm (o4 (x:=Y) (y:=X) (z:=Z) (by grind) (by grind) gB) (o4 (x:=B) (y:=A) (z:=C) (by grind) (by grind) gY);have e3:C=Z:=Nat.dvd_antisymm (o4 (x:=Z) (y:=X) (z:=Y) (by grind) (by grind) gC) (o4 (x:=C) (y:=A) (z:=B) (by grind) (by grind) gZ);have s1:a=x\/a= -x:=by omega
 have s2:b=y\/b= -y:=by omega
 have s3:c=z\/c= -z:=by omega
 clear ha hb hc hx hy hz n1 n2 n3 g1 g2 gB gC gY gZ e1 e2 e3;have z1:= @Int.mul_eq_zero x y;have z2:= @Int.mul_eq_zero x z;have z3:= @Int.mul_eq_zero y z;rcases s1 with rfl|rfl<;>rcases s2 with rfl|rfl<;>rcases s3 with rfl|rfl<;>grind
def JL{l m:ab}(hl:l.ok)(hm:m.ok)(h: ∀t,l.value (m.at t)=0):l=m\/l=m.rev:=by
 have h0:=h 0;have h1:=h 1;rw[y8] at h0 h1;have hC:m.cutC l=0:=by grind
 have hK:m.cutK l=0:=by grind
 obtain⟨q,q1,q2⟩:=Aq hm.ne;have hn:=rU hm.ne;unfold ab.cutC at hC;rw[q2,pE] at hC;unfold ab.cutK at hK;simp only[ab.nor,ab.dir,aa.dot] at hK q1 hn hC;obtain⟨a,b,c⟩:=l;obtain⟨x,y,z⟩:=m;simp only at*;have e1:a*y=b*x:=by
  have:((a*y:Int):Rat)=((b*x:Int):Rat):=by rw[dK,dK];grind
  exact Rat.intCast_inj.1 this
 have e2:a*z=c*x:=by
  have:((a*z:Int):Rat)=((c*x:Int):Rat):=by rw[dK,dK];grind
  exact Rat.intCast_inj.1 this
 have e3:b*z=c*y:=by
  have:((b*z:Int):Rat)=((c*y:Int):Rat):=by rw[dK,dK];grind
  exact Rat.intCast_inj.1 this
 rcases GZ e1 e2 e3 hl.2 hm.2 with⟨rfl,rfl,rfl⟩|⟨rfl,rfl,rfl⟩
 ·exact .inl J
 ·exact .inr J
def ab.ok.rev{l:ab}(h:l.ok):l.rev.ok:=by
 obtain⟨h1,h2⟩:=h;refine⟨?_,?_⟩
 ·simp only[ab.rev];omega
 ·simp only[ab.rev,fW];exact h2
inductive Pq (c:bE) (l:ab):Prop
 |left (h1:gw c l.rev=false) (h: ∀p,mC c p->0<l.value p)
 |right (h1:gw c l.rev=true) (h2:gw c l=false) (h: ∀p,mC c p->l.value p<0)
 |both (h1:gw c l.rev=true) (h2:gw c l=true) (g1:y0 (ge c l)) (g2:y0 (ge c l.rev))
   (e1: ∀p,mC (ge c l) p↔mC c p/\0<l.value p) (e2: ∀p,mC (ge c l.rev) p↔mC c p/\l.value p<0)
def BO:List ab->bE->Option bE
 |[],c=>some c
 |l::t,c=>if gw c l then BO t (ge c l) else none
def oA(l:ab):List ab->aP->Option aP
 |[],v=>some v
 |m::t,v=>if m=l then oA l t v else if l.cutB v m then oA l t (l.cutV v m) else none
def Ht(c:List ab)(p:aa):Prop:= ∀m∈c,0<m.value p
def vL(c:List ab):Bool:=c.isEmpty||c.any (fun l=>(oA l c aP.all).isSome)
def wl(out:List ab)(l:ab):Nat:=(out.takeWhile (fun x=>decide (bP x.dir l.dir<0))).length
def E8(out:List ab)(l:ab):List ab:=if out[wl out l]? =some l then out else out.take (wl out l)++l::out.drop (wl out l)
def vq(c:List ab):List ab->List ab->List ab
 |[],out=>out
 |l::t,out=>vq c t (if(oA l c aP.all).isSome then E8 out l else out)
def k9(c:List ab):List ab:=vq c c []
def rL(c:List ab)(l:ab):Int:=if vL (c++[l])&&vL (c++[l.rev]) then 0 else if vL (c++[l]) then 1 else-1
def Tr.restrictL:Tr->List ab->Tr
 | .leaf b,_=> .leaf b
 | .node l x y,c=>if rL c l=1 then x.restrictL c else if rL c l= -1 then y.restrictL c else joinQ l (x.restrictL (k9 (c++[l]))) (y.restrictL (k9 (c++[l.rev])))
end Go.Sx
end
section
namespace Go.Sx
open Go Go.Proofs Tryz
variable {GB:Gh}
structure sj where
 lo:RV
 hi:RV
 nl:Bool
 nh:Bool
def sj.v(z:sj):Value:= .agg ⟨[.int .i64 z.lo.n, .int .i64 z.lo.d, .pointer z.lo.p, .int .i64 z.hi.n, .int .i64 z.hi.d, .pointer z.hi.p, .bool z.nl, .bool z.nh]⟩
section
variable {P:Program} {C:au} {n:Nat} {fr:Fr} {own own' own1:List ao} {G:Gh} {Φ:Act->World->Prop}
variable {dst:Option Nat} {t t' ty':TypeId} {pos:String} {af:Array Edge} {gd:Option (Nat×Bool)} {x y:Operand} {e s by_:Nat}
end
structure LZ (k:Nat) (G:Gh) (z:sj) (v:aP):Prop where
 lo:nC k G z.lo v.lo
 hi:nC k G z.hi v.hi
 nl:z.nl=v.nl
 nh:z.nh=v.nh
def y9:List Int->Int
 |[]=>0
 |x::t=>if x≠0 then x else y9 t
def P4(l m:ab):Int:=y9 [bw l.a m.a,bw l.b m.b,bw l.c m.c]
structure pB where
 l:LV
 v:sj
def pB.val(z:pB):Value:= .agg ⟨[.int .i64 z.l.a.n, .int .i64 z.l.a.d, .pointer z.l.a.p, .int .i64 z.l.b.n, .int .i64 z.l.b.d, .pointer z.l.b.p, .int .i64 z.l.c.n, .int .i64 z.l.c.d, .pointer z.l.c.p, .int .i64 z.v.lo.n, .int .i64 z.v.lo.d, .pointer z.v.lo.p, .int .i64 z.v.hi.n, .int .i64 z.v.hi.d, .pointer z.v.hi.p, .bool z.v.nl, .bool z.v.nh]⟩
structure Gb (k:Nat) (G:Gh) (z:pB) (f:aI):Prop where
 l:ux k G z.l f.l
 v:LZ (25*k+6) G z.v f.v
inductive kP {α β:Type} (R:α->β->Prop):List α->List β->Prop
 |nil:kP R [] []
 |cons {a b us bs} (h:R a b) (t:kP R us bs):kP R (a::us) (b::bs)
structure Mr (k:Nat) (G:Gh) (x:SV) (c:bE):Prop where
 ex: ∃fs:List pB,di G 17 x (fs.map pB.val)/\kP (Gb k G) fs c

section
variable {P:Program} {C:au} {n:Nat} {fr:Fr} {own own':List ao} {G:Gh} {Φ:Act->World->Prop}
variable {dst:Option Nat} {t t' ty':TypeId} {pos:String} {af:Array Edge} {gd:Option (Nat×Bool)} {x y:Operand} {e s by_:Nat}
end

section
variable {P:Program} {C:au} {n:Nat} {fr:Fr} {own own':List ao} {G:Gh} {Φ:Act->World->Prop}
variable {dst:Option Nat} {t t' ty':TypeId} {pos:String} {af:Array Edge} {gd:Option (Nat×Bool)} {x y:Operand} {e s by_:Nat}
end

def w6(k:Nat)(G:Gh):Tr->Option Addr->Prop
 | .leaf b,p=> ∃n,p=some ⟨n,0,none⟩/\G n=some [.int .i64 0, .int .i64 0, .pointer none, .int .i64 0, .int .i64 0, .pointer none, .int .i64 0, .int .i64 0, .pointer none, .pointer none, .pointer none, .bool b]
 | .node l x y,p=> ∃(n:Nat) (z:LV) (q r:Option Addr),p=some ⟨n,0,none⟩/\G n=some [.int .i64 z.a.n, .int .i64 z.a.d, .pointer z.a.p, .int .i64 z.b.n, .int .i64 z.b.d, .pointer z.b.p, .int .i64 z.c.n, .int .i64 z.c.d, .pointer z.c.p, .pointer q, .pointer r, .bool false]/\ux k G z l/\w6 k G x q/\w6 k G y r
structure ND where
 a:IV
 b:IV
 c:IV
 l:Int
 r:Int
def ND.val(z:ND):Value:= .agg ⟨[.bool z.a.neg, .slice z.a.a.a z.a.a.n z.a.a.c, .bool z.b.neg, .slice z.b.a.a z.b.a.n z.b.a.c, .bool z.c.neg, .slice z.c.a.a z.c.a.n z.c.a.c, .int .i64 z.l, .int .i64 z.r]⟩
structure Gr (k:Nat) (G:Gh) (z:ND) (n:NQ):Prop where
 a:nt k G z.a n.l.a
 b:nt k G z.b n.l.b
 c:nt k G z.c n.l.c
 l:z.l=n.a
 r:z.r=n.b
structure Nu (k:Nat) (G:Gh) (x:SV) (ns:List NQ):Prop where
 ex: ∃zs:List ND,di G 8 x (zs.map ND.val)/\kP (Gr k G) zs ns
def NG(n i:Nat):List Value:=(List.range n).map fun j=> .bool (decide (j<i))


structure qe where
 x:SV
 p:Option Addr
def qe.val(z:qe):Value:= .agg ⟨[.slice z.x.a z.x.n z.x.c, .pointer z.p]⟩
structure H4 (k:Nat) (G:Gh) (z:qe) (b:Bool×bE):Prop where
 c:Mr k G z.x b.2
 t:w6 k G (.leaf b.1) z.p
structure Pv (k:Nat) (G:Gh) (w:SV) (ps:List (Bool×bE)):Prop where
 ex: ∃zs:List qe,di G 2 w (zs.map qe.val)/\kP (H4 k G) zs ps
structure LI where
 a:IV
 b:IV
 c:IV
def LI.val(z:LI):Value:= .agg ⟨[.bool z.a.neg, .slice z.a.a.a z.a.a.n z.a.a.c, .bool z.b.neg, .slice z.b.a.a z.b.a.n z.b.a.c, .bool z.c.neg, .slice z.c.a.a z.c.a.n z.c.a.c]⟩
structure K7 (k:Nat) (G:Gh) (z:LI) (l:ab):Prop where
 a:nt k G z.a l.a
 b:nt k G z.b l.b
 c:nt k G z.c l.c
structure Nz (k:Nat) (G:Gh) (x:SV) (ls:List ab):Prop where
 ex: ∃zs:List LI,di G 6 x (zs.map LI.val)/\kP (K7 k G) zs ls
structure Oa (k:Nat) (G:Gh) (x:SV) (ls:List ab):Prop where
 ex: ∃zs:List LV,di G 9 x (zs.map LV.v)/\kP (ux k G) zs ls
def D9{a b:Int}(h:a=b):eI a=eI b:=by rw[h]
def Ja(z:Int):eQ (z:Rat)= .ag [.v (.bool (decide (z<0))),dN z.natAbs, .sl []]:=by unfold eQ;rw[Rat.num_intCast,mM];rfl
def CJ(n:Nat)(h:0<n):(if n=1 then [] else(dg n).map dU).length=0↔n=1:=by
 by_cases q:n=1
 ·simp[q]
 ·rw[if_neg q,aZ,sS];omega
def Fc{n:Nat}(h:n≠1):dD n=dN n:=by unfold dD;rw[if_neg h];rfl
instance BI.zv (neg:Bool) (m i:Nat) [h:BN m i]:BI (zv neg m) i:=⟨by rw[ki];exact h.h⟩
section
variable {GB:Gh} {C:au} {n:Nat} {Q0:Exit->Act->World->Prop} {fr fr':ak} {own own':aw} {cf cf':Cf} {vc:List Prop}
def Dd(fr:ak)(cf:Cf):Option Int:=match bt fr cf with
 |some ⟨_, .convert t t' x,_,_,_,_⟩=>match b6 tt t,b6 tt t' with
  |some ⟨.int .i64,_,_,_⟩,some ⟨.int .u64,_,_,_⟩=>match az (aH fr cf) x with
   |some (.d (.v (.int .i64 p)))=>some p
   |_=>none
  |_,_=>none
 |_=>none
def HQ[fu:Fu]{p:Int}(q:Int)(h:Dd fr cf=some p)(e:p%18446744073709551616=q)(hgo:b7 tt n fu.n fr own cf (.d (.v (.int .u64 q))) [] []=⟨vc,fr',own',cf'⟩)(k:aj prog GB C n Q0 fr' own' cf')
  (hv:ah vc:=by first|exact trivial|(simp only[ah];omega)):aj prog GB C n Q0 fr own cf:=by
 unfold Dd at h;split at h<;>try (cases h;done)
 rename_i hh;split at h<;>try (cases h;done)
 rename_i hT hT';split at h<;>cases h;rename_i hx;have:=n4 (c' _ _ hT) J;have:=n4 (c' _ _ hT') J;refine us hh (.x1 hx fun ρ G ov a w y _ r h1 h2=>?_) hgo hv k;rw[co] at h2;subst h2;refine⟨_,co.2 J,?_⟩;rw[<-e,<-ip];exact qP h1
def BJ(fr:ak)(cf:Cf):Option Int:=match bt fr cf with
 |some ⟨_, .unOp .neg _ x,_,_,_,_⟩=>match az (aH fr cf) x with
  |some (.d (.v (.int .u64 p)))=>some p
  |_=>none
 |_=>none
def HI[fu:Fu]{p:Int}(q:Int)(h:BJ fr cf=some p)(e:(0-p)%18446744073709551616=q)(hgo:b7 tt n fu.n fr own cf (.d (.v (.int .u64 q))) [] []=⟨vc,fr',own',cf'⟩)(k:aj prog GB C n Q0 fr' own' cf')
  (hv:ah vc:=by first|exact trivial|(simp only[ah];omega)):aj prog GB C n Q0 fr own cf:=by
 unfold BJ at h;split at h<;>try (cases h;done)
 rename_i hh;split at h<;>cases h;rename_i hx;refine us hh (.x1 hx fun ρ G ov a w y _ r h1 h2=>?_) hgo hv k;rw[co] at h2;subst h2;refine⟨_,co.2 J,?_⟩;rw[<-e,<-ip];exact uu h1
end
def Me{n:Int}(h0: -4611686018427387904<=n)(h1:n<=4611686018427387904):PF GB prog 85 [.v (.int .i64 n)] (eI n):=by
 refine fn func85 J J ntmps85 J J (fun C=>?_);refine br (fu1:=⟨3⟩) (fu2:=⟨6⟩) J J J (fun hc4=>?_) (fun hc4=>?_)
 .
  refine HQ (fu:=⟨0⟩) (18446744073709551616+n) J (by omega) J<|HI (n.natAbs:Nat) J (by omega) J<|cl J (Eo (u:=n.natAbs) (by omega)) J<|?_;refine cl J xr J<|?_;exact rz J (D9 (by unfold zv;rw[if_pos J];omega))
 .
  refine aF 11 (.d (.v (.int .u64 (n.natAbs:Nat)))) J (by show FX.d (.v (.int _ _))= .d (.v (.int _ _));congr 3;omega) ?_;refine gx J<|cl J (Eo (u:=n.natAbs) (by omega)) J<|cl J xr J<|?_;exact rz J (D9 (by unfold zv;rw[if_neg (by decide)];omega))
def EP{q:Rat}:PF GB prog 95 [eQ q] (dN q.den):=by
 refine fn func95 J J ntmps95 J J (fun C=>?_);refine br J J J (fun hc6=>?_) (fun hc6=>?_)
 .
  refine cl J JP J<|?_;exact rz J (by rw[(CJ q.den (kh q)).1 (by omega)];rfl)
 .
  exact rz J (by exact Fc (fun e=>hc6 (by exact congrArg Int.ofNat ((CJ q.den (kh q)).2 e))))
def BY(a:Rat):mkRat a.num a.den=a:=by simp[Rat.mkRat_self]
def II{a b:Rat}(h:b≠0):a/b=mkRat (a.num*zv (decide (b.num<0)) b.den) (a.den*b.num.natAbs):=by
 rw[lK];have ha:(a.num:Rat)/(a.den:Rat)=a:=by rw[<-lK,BY]
 have hb:(b.num:Rat)/(b.den:Rat)=b:=by rw[<-lK,BY]
 have h1:(a.den:Rat)≠0:=by have:=a.den_nz;exact_mod_cast this
 have h2:(b.den:Rat)≠0:=by have:=b.den_nz;exact_mod_cast this
 have h3:(b.num:Rat)≠0:=by
  intro e;rw[e] at hb;apply h;rw[<-hb];grind
 rw[dK,Rat.natCast_mul];by_cases q:b.num<0
 ·have e1:((zv (decide (b.num<0)) b.den:Int):Rat)= -(b.den:Rat):=by
   unfold zv;rw[if_pos (by simpa using q),Rat.intCast_neg];rfl
  have e2:((b.num.natAbs:Nat):Rat)= -(b.num:Rat):=by
   have:((b.num.natAbs:Nat):Int)= -b.num:=by omega
   rw[<-Rat.intCast_neg,<-this];rfl
  rw[e1,e2];generalize (a.num:Rat)=an at*;generalize (a.den:Rat)=ad at*;generalize (b.num:Rat)=bn at*;generalize (b.den:Rat)=bd at*;subst ha hb;grind
 ·have e1:((zv (decide (b.num<0)) b.den:Int):Rat)=(b.den:Rat):=by
   unfold zv;rw[if_neg (by simpa using q)];rfl
  have e2:((b.num.natAbs:Nat):Rat)=(b.num:Rat):=by
   have:((b.num.natAbs:Nat):Int)=b.num:=by omega
   rw[<-this];rfl
  rw[e1,e2];generalize (a.num:Rat)=an at*;generalize (a.den:Rat)=ad at*;generalize (b.num:Rat)=bn at*;generalize (b.den:Rat)=bd at*;subst ha hb;grind
def Kq{q:Rat}{n:Int}{d:Nat}(hd:0<d)(h:q*(d:Rat)=(n:Rat)):q.num.natAbs<=n.natAbs/\q.den<=d:=by
 have e:q=mkRat n d:=by
  rw[lK];have:(d:Rat)≠0:=by exact_mod_cast (by omega:d≠0)
  rw[<-h];grind
 rw[e,Rat.num_mkRat,Rat.den_mkRat,if_neg (by omega),if_neg (by omega)];exact⟨iM n (d.gcd n.natAbs:Nat),iW ..⟩
theorem BQ.of_frac{q:Rat}{n:Int}{d i:Nat}(hd:0<d)(h:q*(d:Rat)=(n:Rat))(hn:n.natAbs<2^i)(hdi:d<2^i):BQ q i:=by
 have:=Kq hd h;exact⟨by omega,by omega⟩
def IH{b:Rat}(h:b≠0):0<b.num.natAbs:=by
 have:b.num≠0:=fun e=>h (iY.1 e);omega
instance BQ.over (a b:Rat) (i j:Nat) [ha:BQ a i] [hb:BQ b j]:BQ (a/b) (i+j):=by
 by_cases h:b=0
 ·subst h
  rw[Rat.div_def,Rat.inv_zero,Rat.mul_zero];have h2:=ha.hd;have h3:0<a.den:=kh a;have h4:2^i*1<=2^i*2^j:=eK _ (fN (by decide));rw[<-gX] at h4;exact⟨by show 0<_;omega,by show 1<_;omega⟩
 ·rw[II h]
  have hb0:=IH h;refine sZ (iV (kh a) hb0) ?_ (je ha.hd hb.hn);rw[fV,ki];exact je ha.hn hb.hd
def BZ{n:Int}(h0: -4611686018427387904<=n)(h1:n<=4611686018427387904):PF GB prog 41 [.v (.int .i64 n)] (eQ (n:Rat)):=by
 refine fn func41 J J ntmps41 J J (fun C=>?_);refine cl J (Me (by omega) (by omega)) J<|?_;exact rz J (by rw[Ja];rfl)
instance BI.two:BI 2 2:=⟨by decide⟩
def EH{m:Int}{g:Nat}(hg:(g:Int)∣m)(hb:m.natAbs<4611686018427387904):IntKind.i64.wrap (m.tdiv g)=m/g:=by
 rw[Int.tdiv_eq_ediv_of_dvd hg];have:=iM m g;exact Ls (by omega)
def tm(a b:Int):Int:=if(a*b).natAbs<4611686018427387904 then a*b else 0
def tL(a b:Int):(tm a b).natAbs<4611686018427387904:=by unfold tm;split<;>omega
def py{a b:Int}(h:(a*b).natAbs<4611686018427387904):tm a b=a*b:=if_pos h
def Du{a b:Int}(h: ¬(a*b).natAbs<4611686018427387904):DV.tp [vI 0, .v (.bool false)]= .tp [vI (tm a b),vB (decide ((a*b).natAbs<4611686018427387904))]:=by unfold tm;rw[if_neg h,decide_eq_false h];rfl
def x5{a b:Int}{x:Int}(h:(a*b).natAbs<4611686018427387904)(e:x=a*b):DV.tp [vI x, .v (.bool true)]= .tp [vI (tm a b),vB (decide ((a*b).natAbs<4611686018427387904))]:=by unfold tm;rw[if_pos h,decide_eq_true h,e];rfl
def CS(n:Nat):eI (n:Int)= .ag [.v (.bool false),dN n]:=by unfold eI;rw[decide_eq_false (by omega),iZ]
def Fx{p q:Rat}(hp:p.den=1)(hq:q.den=1):rgcd p q=((Nat.gcd p.num.natAbs q.num.natAbs:Nat):Int):=by
 conv=>lhs;rw[rY hp,rY hq]
 exact tY _ _
def KV(q:Rat):mkRat (zv (decide (q.num<0)) q.den) q.num.natAbs=q⁻¹:=by
 rw[Rat.inv_def];by_cases h:q.num<0
 ·rw[decide_eq_true h];exact GO h
 ·rw[decide_eq_false h,<-Rat.divInt_ofNat,jJ (by omega)];rfl
instance BQ.inv (q:Rat) (i:Nat) [h:BQ q i]:BQ q⁻¹ i:=by
 have h1:=h.hn;have h2:=h.hd;have h3:=q.den_nz;rcases Int.lt_trichotomy q.num 0 with k|k|k
 ·obtain⟨e1,e2⟩:=CH k;exact⟨by omega,by omega⟩
 ·have e:q=0:=iY.1 k
  have e0:(0:Rat)⁻¹=0:=Rat.inv_zero;rw[e] at h1 h2⊢;rw[e0];exact⟨h1,h2⟩
 ·obtain⟨e1,e2⟩:=Ez k;exact⟨by omega,by omega⟩
instance BQ.half:BQ (mkRat 1 2) 2:=⟨by decide,by decide⟩
def In{x y:Nat}(hx:x<18446744073709551616)(hy:y<18446744073709551616):PF GB prog 250 [.v (.int .u64 (x:Nat)), .v (.int .u64 (y:Nat))] (.tp [.v (.int .u64 ((x*y/18446744073709551616:Nat):Int)), .v (.int .u64 ((x*y%18446744073709551616:Nat):Int))]):=fun G vs _ hv=>by
 obtain⟨v,m,rfl,h1,h2⟩:=bz.1 hv;obtain⟨u,m',rfl,h3,h4⟩:=bz.1 h2
 cases b9.1 h4
 rw[bh.1 h1,bh.1 h3];exact(L3 hx hy).mono fun v G' _ h=>by subst h;exact jA.2 ⟨_,J, .cons (bh.2 J) (.cons (bh.2 J) .nil)⟩
def A4{a b:Nat}(ha:a<18446744073709551616)(hb:b<18446744073709551616):PF GB prog 246 [.v (.int .u64 (a:Nat)), .v (.int .u64 (b:Nat))] (.v (.int .u64 (Nat.gcd a b:Nat))):=by
 refine fn func246 J J ntmps246 J J (fun C=>?_);refine lp (X:=Nat×Nat) (fun⟨u,v⟩=>[(1, .d (.v (.int .u64 (v:Nat)))),(0, .d (.v (.int .u64 (u:Nat))))]) (fun⟨u,v⟩=>[]) (fun⟨u,v⟩=>u<18446744073709551616/\v<18446744073709551616/\Nat.gcd u v=Nat.gcd a b) (fun⟨u,v⟩=>v) (a,b) J ⟨ha,hb,J⟩ (fun _=>J) (fun⟨u,v⟩ hk=>?_);dsimp only at hk⊢;obtain⟨h1,h2,h3⟩:=hk;refine br (v1:=fun hc6=>by simp only[ah];exact⟨by omega,by kernel_rfl⟩) J J J (fun hc6=>?_) (fun hc6=>?_)
 .
  have hm:=cM u (show 0<v by omega);exact at_ (v,u%v) (by dsimp only;exact⟨⟨h2,by omega,by rw[<-h3,gV u v,Nat.gcd_rec v u,gV]⟩,hm⟩)
 .
  exact rz J (by rw[<-h3,show v=0 by omega,lS];rfl)
def qy{m:Int}(h:m.natAbs<9223372036854775808):PF GB prog 70 [vI m] (eF (m:Rat)):=by
 refine fn func70 J J ntmps70 J J (fun C=>?_);refine cs 5 J J J (fun hg5=>?_) (fun hg5=>?_)
 .
  refine cl J (uq (m:=m) (by omega) (by omega)) J<|rf (fu:=⟨0⟩) J J<|?_;refine aF 11 (.d (dN 1)) J (by unfold dN;rw[wx];rfl) ?_;refine gx J<|cl J (nM (n:=decide (m<0)) (a:=m.natAbs) (i:=63) (h:=⟨h⟩) (d:=1)) J<|?_;exact rz J (by rw[jd,show mkRat m 1=(m:Rat) from Rat.mkRat_one ..];rfl)
 .
  refine br J J J (fun hc8=>?_) (fun hc8=>?_)
  .
   refine cl J (uq (m:=m) (by omega) (by omega)) J<|rf (fu:=⟨0⟩) J J<|?_;refine aF 11 (.d (dN 1)) J (by unfold dN;rw[wx];rfl) ?_;refine gx J<|cl J (nM (n:=decide (m<0)) (a:=m.natAbs) (i:=63) (h:=⟨h⟩) (d:=1)) J<|?_;exact rz J (by rw[jd,show mkRat m 1=(m:Rat) from Rat.mkRat_one ..];rfl)
  .
   exact fA J (xe (by omega))
def px{a b:Int}(ha:a.natAbs<4611686018427387904)(hb:b.natAbs<4611686018427387904):PF GB prog 234 [vI a,vI b] (.tp [vI (tm a b),vB (decide ((a*b).natAbs<4611686018427387904))]):=by
 have hab:=fV a b;refine fn func234 J J ntmps234 J J (fun C=>?_);refine cl J (pU (m:=a) (by omega)) J<|cl J (pU (m:=b) (by omega)) J<|cl J (In (x:=a.natAbs) (y:=b.natAbs) (by omega) (by omega)) J<|?_;refine cs 18 J J J (fun hg18=>?_) (fun hg18=>?_)
 .
  exact rz J (Du (by omega))
 .
  refine br J J J (fun hc21=>?_) (fun hc21=>?_)
  .
   exact rz J (Du (by omega))
  .
   refine bb J J J (fun hc26=>?_) (fun hc26=>?_)
   .
    have hs:=Ci a b;rw[if_neg (by simpa using hc26)] at hs;exact rz J (x5 (by omega) (by rw[hs,<-hab];omega))
   .
    have hs:=Ci a b;rw[if_pos (by simpa using hc26)] at hs;exact rz J (x5 (by omega) (by rw[hs,<-hab];omega))
def D4{m:Int}{d:Nat}(h:m.natAbs<4611686018427387904)(h0:0<d)(hd:d<4611686018427387904):PF GB prog 235 [vI m,vI (d:Nat)] (eF (mkRat m d)):=by
 have hg:Nat.gcd m.natAbs d<=d:=Nat.gcd_le_right _ h0;have hg0:0<Nat.gcd m.natAbs d:=lU _ h0;obtain⟨e1,e2⟩:=AY (m:=m) h0;have e3:=iM m (Nat.gcd m.natAbs d:Nat);have e4:=iW d (Nat.gcd m.natAbs d);have e5:=Nat.div_pos hg hg0;refine fn func235 J J ntmps235 J J (fun C=>?_);refine cl J (pU (m:=m) (by omega)) J<|cl J (A4 (a:=m.natAbs) (b:=d) (by omega) (by omega)) J<|?_;refine br (fu1:=⟨4⟩) J J J (fun hc13=>?_) (fun hc13=>?_)
 .
  refine aF 16 (.d (vI (m/(Nat.gcd m.natAbs d:Nat)))) J (by rw[EH (Int.dvd_natAbs.1 (lM.2 (iS _ _))) h];rfl) ?_;refine gx (fu:=⟨3⟩) J<|?_;refine aF 19 (.d (vI ((d/Nat.gcd m.natAbs d:Nat)))) J (by rw[EH (lM.2 (kW _ _)) (by rw[iZ];exact hd)];rfl) ?_;refine gx (hv:=by simp only[ah];exact⟨by kernel_rfl,by omega⟩) J<|?_;exact fA J (kO (fun k=>k ⟨by rw[e1];omega,by rw[e2];omega⟩) e1 (by rw[e2]) J)
 .
  exact fA J (by have h1:Nat.gcd m.natAbs d=1:=(by omega);rw[h1,Nat.div_one] at e2;rw[h1,Int.natCast_one,Int.ediv_one] at e1;exact kO (fun k=>k ⟨by rw[e1];omega,by rw[e2];omega⟩) e1 (by rw[e2]) J)
def lg{p q:Rat}{i j:Nat}[h:BQ p i][k:BQ q j](hi:i<=100000000:=by decide)(hj:j<=100000000:=by decide):PF GB prog 204 [eF p,eF q] (eF (p*q)):=by
 refine fn (fu:=⟨8⟩) func204 J J ntmps204 J J (fun C=>?_);refine mg (X:=Unit) (fun _=>[(2, .ov 2 0),(3, .ov 3 0),(4, .ov 4 0)]) (fun _=>[(2,some (.o 101 [.d (vI (cD p)), .d (vI (cE p)), .d (cB p)] true)),(3,some (.o 101 [.d (vI (cD q)), .d (vI (cE q)), .d (cB q)] true)),(4,some (.o 101 [.d (.v (.int .i64 0)), .d (.v (.int .i64 0)), .d (.v (.pointer none))] true))]) (fun _=>True) [2,3,4] [2,3,4] rfl ?_ (fun _=>J) (fun _ _=>?_)
 .
  refine gx J<|?_;refine cs 12 J J J (fun hg12=>?_) (fun hg12=>?_)
  .
   refine br (fu1:=⟨4⟩) J J J (fun hc16=>?_) (fun hc16=>?_)
   .
    have hp:=kH hg12;have hq:=kH hc16;have p1:=ir hp;have p2:=i7 hp;have p3:=jy hp;have p4:=jD hp;have p5:=p.den_nz;have q1:=ir hq;have q2:=i7 hq;have q3:=jy hq;have q4:=jD hq;have q5:=q.den_nz;refine aF 19 (.d (vI p.num)) J (by rw[p1]) ?_;refine gx (fu:=⟨2⟩) J<|?_;refine aF 21 (.d (vI q.num)) J (by rw[q1]) ?_;refine gx J<|cl (fu:=⟨12⟩) J (px (a:=p.num) (b:=q.num) (by omega) (by omega)) J<|?_;refine aF 28 (.d (vI (p.den:Nat))) J (by congr 3;omega) ?_;refine gx (fu:=⟨3⟩) J<|?_;refine aF 31 (.d (vI (q.den:Nat))) J (by congr 3;omega) ?_;refine gx J<|cl J (px (a:=(p.den:Nat)) (b:=(q.den:Nat)) (by omega) (by omega)) J<|?_;refine csd 36 J J J (fun hg36=>?_) (fun hg36=>?_)
    .
     refine bd (fu1:=⟨3⟩) J J J (fun hc38=>?_) (fun hc38=>?_)
     .
      have hd1:p.den*q.den<4611686018427387904:=by omega
      refine aF 39 (.d (vI (p.num*q.num))) J (by rw[py hg36]) ?_;refine gx (fu:=⟨1⟩) J<|?_;refine aF 40 (.d (vI ((p.den*q.den:Nat)))) J (by rw[py hc38];rfl) ?_;refine gx J<|cl J (D4 (m:=p.num*q.num) (d:=p.den*q.den) hg36 (iV (by omega) (by omega)) hd1) J<|?_;exact rz J (by rw[<-uF];rfl)
     .
      exact at_ () trivial
    .
     exact at_ () trivial
   .
    exact at_ () trivial
  .
   exact at_ () trivial
 .
  refine cl J (nP (q:=p) (by omega)) J<|cl J (nP (q:=q) (by omega)) J<|cl J (wT (a:=p.num) (b:=q.num) (by omega) (by omega)) J<|?_;refine cl J (jk (q:=p) (by omega)) J<|cl J (jk (q:=q) (by omega)) J<|cl J (o9 (a:=p.den) (b:=q.den) (by omega) (by omega)) J<|?_;refine cl J (nM (n:=decide (p.num*q.num<0)) (a:=(p.num*q.num).natAbs) (d:=p.den*q.den) (i:=i+j) (j:=i+j) (by omega) (by omega)) J<|?_;exact rz J (by rw[jd,<-uF];rfl)
def pD{p q:Rat}{i j:Nat}[h:BQ p i][k:BQ q j](hi:i<=100000000:=by decide)(hj:j<=100000000:=by decide):PF GB prog 203 [eF p,eF q] (eF (p+q)):=by
 refine fn (fu:=⟨8⟩) func203 J J ntmps203 J J (fun C=>?_);refine mg (X:=Unit) (fun _=>[(2, .ov 2 0),(3, .ov 3 0),(4, .ov 4 0)]) (fun _=>[(2,some (.o 101 [.d (vI (cD p)), .d (vI (cE p)), .d (cB p)] true)),(3,some (.o 101 [.d (vI (cD q)), .d (vI (cE q)), .d (cB q)] true)),(4,some (.o 101 [.d (.v (.int .i64 0)), .d (.v (.int .i64 0)), .d (.v (.pointer none))] true))]) (fun _=>True) [2,3,4] [2,3,4] rfl ?_ (fun _=>J) (fun _ _=>?_)
 .
  refine gx J<|?_;refine cs 16 J J J (fun hg16=>?_) (fun hg16=>?_)
  .
   refine br (fu1:=⟨1⟩) J J J (fun hc20=>?_) (fun hc20=>?_)
   .
    have hp:=kH hg16;have hq:=kH hc20;have p1:=ir hp;have p2:=i7 hp;have p3:=jy hp;have p4:=jD hp;have p5:=p.den_nz;have q1:=ir hq;have q2:=i7 hq;have q3:=jy hq;have q4:=jD hq;have q5:=q.den_nz;refine mg (fu:=⟨4⟩) (X:=Unit) (fun _=>[(2, .ov 2 0),(3, .ov 3 0),(4, .ov 4 0)]) (fun _=>[(2,some (.o 101 [.d (vI (cD p)), .d (vI (cE p)), .d (cB p)] true)),(3,some (.o 101 [.d (vI (cD q)), .d (vI (cE q)), .d (cB q)] true)),(4,some (.o 101 [.d (.v (.int .i64 0)), .d (.v (.int .i64 0)), .d (.v (.pointer none))] true))]) (fun _=>True) [2,3,4] [2,3,4] rfl ?_ (fun _=>J) (fun _ _=>?_)
    .
     refine gx J<|?_;refine cs 24 J J J (fun hg24=>?_) (fun hg24=>?_)
     .
      refine br (fu1:=⟨4⟩) J J J (fun hc28=>?_) (fun hc28=>?_)
      .
       refine aF 30 (.d (vI p.num)) J (by rw[p1]) ?_;refine gx (fu:=⟨2⟩) J<|?_;refine aF 32 (.d (vI q.num)) J (by rw[q1]) ?_;refine gx J<|cl J (qy (m:=p.num+q.num) (by omega)) J<|?_;exact rz J (by rw[rY (q:=p) (by omega),rY (q:=q) (by omega),<-Rat.intCast_add];rfl)
      .
       exact at_ () trivial
     .
      exact at_ () trivial
    .
     refine aF 37 (.d (vI p.num)) J (by rw[p1]) ?_;refine gx (fu:=⟨3⟩) J<|?_;refine aF 40 (.d (vI (q.den:Nat))) J (by congr 3;omega) ?_;refine gx J<|cl (fu:=⟨11⟩) J (px (a:=p.num) (b:=(q.den:Nat)) (by omega) (by omega)) J<|?_;refine aF 46 (.d (vI q.num)) J (by rw[q1]) ?_;refine gx (fu:=⟨3⟩) J<|?_;refine aF 49 (.d (vI (p.den:Nat))) J (by congr 3;omega) ?_;refine gx J<|cl (fu:=⟨12⟩) J (px (a:=q.num) (b:=(p.den:Nat)) (by omega) (by omega)) J<|?_;refine aF 56 (.d (vI (p.den:Nat))) J (by congr 3;omega) ?_;refine gx (fu:=⟨3⟩) J<|?_;refine aF 59 (.d (vI (q.den:Nat))) J (by congr 3;omega) ?_;refine gx J<|cl (fu:=⟨3⟩) J (px (a:=(p.den:Nat)) (b:=(q.den:Nat)) (by omega) (by omega)) J<|?_;have t1:=tL p.num (q.den:Nat);have t2:=tL q.num (p.den:Nat);have t3:=tL (p.den:Nat) (q.den:Nat);refine gx J<|?_;refine csd 67 J J J (fun hg67=>?_) (fun hg67=>?_)
     .
      refine csd 70 J J J (fun hg70=>?_) (fun hg70=>?_)
      .
       refine csd 73 J J J (fun hg73=>?_) (fun hg73=>?_)
       .
        refine cs 77 J J J (fun hg77=>?_) (fun hg77=>?_)
        .
         refine br (fu1:=⟨3⟩) J J J (fun hc80=>?_) (fun hc80=>?_)
         .
          have u1:=py hg67;have u2:=py hg70;have u3:=py hg73;have hd1:p.den*q.den<4611686018427387904:=by omega
          refine aF 81 (.d (vI (p.num*(q.den:Nat)+q.num*(p.den:Nat)))) J (by rw[u1,u2];rfl) ?_;refine gx (fu:=⟨1⟩) J<|?_;refine aF 82 (.d (vI ((p.den*q.den:Nat)))) J (by rw[u3];rfl) ?_;refine gx J<|cl J (D4 (m:=p.num*(q.den:Nat)+q.num*(p.den:Nat)) (d:=p.den*q.den) (by omega) (iV (by omega) (by omega)) hd1) J<|?_;exact rz J (by rw[<-tr];rfl)
         .
          exact at_ () trivial
        .
         exact at_ () trivial
       .
        exact at_ () trivial
      .
       exact at_ () trivial
     .
      exact at_ () trivial
   .
    exact at_ () trivial
  .
   exact at_ () trivial
 .
  refine cl J (nP (q:=p) (by omega)) J<|cl (fu:=⟨1⟩) J (jk (q:=q) (by omega)) J<|?_;refine aF 88 (.d (eI (q.den:Nat))) J (by rw[CS]) ?_;refine gx J<|cl J (wT (a:=p.num) (b:=(q.den:Nat)) (by omega) (by omega)) J<|cl J (nP (q:=q) (by omega)) J<|cl (fu:=⟨1⟩) J (jk (q:=p) (by omega)) J<|?_;refine aF 94 (.d (eI (p.den:Nat))) J (by rw[CS]) ?_;refine gx J<|cl J (wT (a:=q.num) (b:=(p.den:Nat)) (by omega) (by omega)) J<|cl J (KX (a:=p.num*(q.den:Nat)) (b:=q.num*(p.den:Nat)) (i:=i+j) (j:=j+i) (by omega) (by omega)) J<|?_;refine cl J (jk (q:=p) (by omega)) J<|cl J (jk (q:=q) (by omega)) J<|cl J (o9 (a:=p.den) (b:=q.den) (by omega) (by omega)) J<|?_;refine cl J (nM (n:=decide (p.num*(q.den:Nat)+q.num*(p.den:Nat)<0)) (a:=(p.num*(q.den:Nat)+q.num*(p.den:Nat)).natAbs) (d:=p.den*q.den) (i:=i+j+(j+i)+1) (j:=i+j) (by omega) (by omega)) J<|?_;exact rz J (by rw[jd,<-tr];rfl)
def oM{p q:Rat}{i j:Nat}[h:BQ p i][k:BQ q j](hi:i<=100000000:=by decide)(hj:j<=100000000:=by decide):PF GB prog 168 [eF p,eF q] (eF (p-q)):=by
 refine fn func168 J J ntmps168 J J (fun C=>?_);refine cl J (ml (q:=q) (by omega)) J<|cl J (pD (p:=p) (q:= -q) (by omega) (by omega)) J<|?_;exact rz J (by rw[<-Rat.sub_eq_add_neg];rfl)
def rS{q:Rat}{i:Nat}[h:BQ q i](hi:i<=400000000:=by decide):PF GB prog 229 [eF q] (eF q⁻¹):=by
 refine fn func229 J J ntmps229 J J (fun C=>?_);refine br (v1:=fun hc3=>by simp only[ah];exact⟨⟨hc3,hc3⟩,hc3⟩) J J J (fun hc3=>?_) (fun hc3=>?_)
 .
  refine cl J (nM (n:=decide (q.num<0)) (a:=q.den) (d:=q.num.natAbs) (by omega) (by omega)) J<|?_;exact rz J (by rw[KV];rfl)
 .
  have q1:=ir (iA hc3);have q2:=i7 (iA hc3);have q3:=jy (iA hc3);have q4:=jD (iA hc3);have q5:=q.den_nz;refine br J J J (fun hc26=>?_) (fun hc26=>?_)
  .
   exact fA rfl (by obtain⟨e1,e2⟩:=CH (q:=q) (by omega);exact kO (fun k=>k ⟨by omega,by omega⟩) (by omega) (by omega) rfl)
  .
   refine br J J J (fun hc39=>?_) (fun hc39=>?_)
   .
    exact fA J (by rw[iY.1 (show q.num=0 by omega),Rat.inv_zero];exact oL)
   .
    exact fA rfl (by obtain⟨e1,e2⟩:=Ez (q:=q) (by omega);exact kO (fun k=>k ⟨by omega,by omega⟩) (by omega) (by omega) rfl)
def pg{p q:Rat}{i j:Nat}[h:BQ p i][k:BQ q j](hi:i<=100000000:=by decide)(hj:j<=100000000:=by decide):PF GB prog 201 [eF p,eF q] (eF (p/q)):=by
 refine fn func201 J J ntmps201 J J (fun C=>?_);refine cl J (rS (q:=q) (by omega)) J<|cl J (lg (p:=p) (q:=q⁻¹) (by omega) (by omega)) J<|?_;exact rz J (by rw[Rat.div_def];rfl)
def Jw{G:Gh}{q r:DV}{t:List DV}{vs:List Value}(h: ∀y,Is G r y->Is G q y)(hv:IsLs G (r::t) vs):IsLs G (q::t) vs:=by
 obtain⟨y,m,rfl,h1,h2⟩:=bz.1 hv;exact .cons (h _ h1) h2
def J1{G:Gh}{a q r:DV}{t:List DV}{vs:List Value}(h: ∀y,Is G r y->Is G q y)(hv:IsLs G (a::r::t) vs):IsLs G (a::q::t) vs:=by
 obtain⟨y,m,rfl,h1,h2⟩:=bz.1 hv;exact .cons h1 (Jw h h2)
def LW{q:Rat}{i:Nat}[h:BQ q i](hi:i<=100000000:=by decide):PF GB prog 204 [eF q, .ag [vI 1,vI 1, .v (.pointer none)]] (eF (q*mkRat 1 2)):=
 (lg (p:=q) (q:=mkRat 1 2) hi).ofI fun G vs hv=>J1 (fun y hy=>kO (q:=mkRat 1 2) (fun k=>k ⟨by decide,by decide⟩) (by decide) (by decide) J G y hy) hv
def FZ{q:Rat}{i:Nat}[h:BQ q i](hi:i<=100000000:=by decide):PF GB prog 148 [eF q] (eF (q*mkRat 1 2)):=by
 refine fn func148 J J ntmps148 J J (fun C=>?_);refine cl J (LW (q:=q) (by omega)) J<|?_;exact rz J J
def gp{p q:Rat}{i j:Nat}[h:BQ p i][k:BQ q j](hi:i<=100000000:=by decide)(hj:j<=100000000:=by decide):PF GB prog 116 [eF p,eF q] (vI (bw p q)):=by
 refine fn func116 J J ntmps116 J J (fun C=>?_);refine cs 8 J J J (fun hg8=>?_) (fun hg8=>?_)
 .
  refine cs 13 J J J (fun hg13=>?_) (fun hg13=>?_)
  .
   refine br J J J (fun hc19=>?_) (fun hc19=>?_)
   .
    have hp:=kH hg8;have hq:=kH hg13;have p1:=ir hp;have p2:=i7 hp;have p3:=jy hp;have p4:=jD hp;have p5:=p.den_nz;have q1:=ir hq;have q2:=i7 hq;have q3:=jy hq;have q4:=jD hq;have q5:=q.den_nz;have hl:=Ab (a:=p) (b:=q) (by omega);have hr:=Ab (a:=q) (b:=p) (by omega);unfold bw;refine br J J J (fun hc20=>?_) (fun hc20=>?_)
    .
     exact rz J (by rw[if_pos (hl.2 (by omega))];rfl)
    .
     refine br J J J (fun hc26=>?_) (fun hc26=>?_)
     .
      exact rz J (by rw[if_neg (fun e=>by have:=hl.1 e;omega),if_pos (hr.2 (by omega))];rfl)
     .
      exact rz J (by rw[if_neg (fun e=>by have:=hl.1 e;omega),if_neg (fun e=>by have:=hr.1 e;omega)];rfl)
   .
    refine cl J (oM (p:=p) (q:=q) (by omega) (by omega)) J<|cl J (ik (q:=p-q) (by omega)) J<|?_;exact rz J (by rw[w5];rfl)
  .
   refine cl J (oM (p:=p) (q:=q) (by omega) (by omega)) J<|cl J (ik (q:=p-q) (by omega)) J<|?_;exact rz J (by rw[w5];rfl)
 .
  refine cl J (oM (p:=p) (q:=q) (by omega) (by omega)) J<|cl J (ik (q:=p-q) (by omega)) J<|?_;exact rz J (by rw[w5];rfl)
def xm{p q:Rat}{i j:Nat}[h:BQ p i][k:BQ q j](hi:i<=100000000:=by decide)(hj:j<=100000000:=by decide):PF GB prog 225 [eF p,eF q] (vB (decide (p=q))):=by
 refine fn func225 J J ntmps225 J J (fun C=>?_);refine cl J (gp (p:=p) (q:=q) hi hj) J<|?_;exact rz J (by show DV.v (.bool (decide _))= .v (.bool _);congr 2;exact decide_eq_decide.2 (Je p q))
def E4{p q:Rat}{i j:Nat}[h:BQ p i][k:BQ q j](hi:i<=100000000:=by decide)(hj:j<=100000000:=by decide):PF GB prog 145 [eF p,eF q] (eF (if q<p then q else p)):=by
 refine fn func145 J J ntmps145 J J (fun C=>?_);refine cl J (gp (p:=q) (q:=p) hj hi) J<|?_;refine br J J J (fun hc8=>?_) (fun hc8=>?_)
 .
  exact rz J (by rw[if_pos ((Ew q p).1 hc8)];rfl)
 .
  exact rz J (by rw[if_neg (fun e=>hc8 ((Ew q p).2 e))];rfl)
def pC{p q:Rat}{i j:Nat}[h:BQ p i][k:BQ q j](hi:i<=100000000:=by decide)(hj:j<=100000000:=by decide):PF GB prog 228 [eF p,eF q] (eF (rgcd p q)):=by
 refine fn (fu:=⟨8⟩) func228 J J ntmps228 J J (fun C=>?_);refine mg (X:=Unit) (fun _=>[(2, .ov 2 0),(3, .ov 3 0),(4, .ov 4 0)]) (fun _=>[(2,some (.o 101 [.d (vI (cD p)), .d (vI (cE p)), .d (cB p)] true)),(3,some (.o 101 [.d (vI (cD q)), .d (vI (cE q)), .d (cB q)] true)),(4,some (.o 101 [.d (.v (.int .i64 0)), .d (.v (.int .i64 0)), .d (.v (.pointer none))] true))]) (fun _=>True) [2,3,4] [2,3,4] rfl ?_ (fun _=>J) (fun _ _=>?_)
 .
  refine gx J<|?_;refine cs 10 J J J (fun hg10=>?_) (fun hg10=>?_)
  .
   refine cs 15 J J J (fun hg15=>?_) (fun hg15=>?_)
   .
    have hp:=kH hg10;have hq:=kH hg15;have p1:=ir hp;have p2:=i7 hp;have p3:=jy hp;have p4:=jD hp;have p5:=p.den_nz;have q1:=ir hq;have q2:=i7 hq;have q3:=jy hq;have q4:=jD hq;have q5:=q.den_nz;refine cs 20 J J J (fun hg20=>?_) (fun hg20=>?_)
    .
     refine br (fu1:=⟨4⟩) J J J (fun hc24=>?_) (fun hc24=>?_)
     .
      have hg:=Fa p3 q3;refine aF 26 (.d (vI p.num)) J (by rw[p1]) ?_;refine gx J<|cl (fu:=⟨2⟩) J (pU (m:=p.num) (by omega)) J<|?_;refine aF 29 (.d (vI q.num)) J (by rw[q1]) ?_;refine gx J<|cl J (pU (m:=q.num) (by omega)) J<|cl (hv:=by simp only[ah];exact⟨by omega,by kernel_rfl⟩) J (A4 (a:=p.num.natAbs) (b:=q.num.natAbs) (by omega) (by omega)) J<|?_;exact fA J (by rw[Fx (p:=p) (q:=q) (by omega) (by omega)];exact xe (by rw[iZ];exact hg))
     .
      exact at_ () trivial
    .
     exact at_ () trivial
   .
    exact at_ () trivial
  .
   exact at_ () trivial
 .
  refine cl J (jk (q:=p) (by omega)) J<|cl J (jk (q:=q) (by omega)) J<|cl J (o9 (a:=p.den) (b:=q.den) (by omega) (by omega)) J<|?_;refine cl J (nP (q:=p) (by omega)) J<|cl J (jk (q:=q) (by omega)) J<|cl J (o9 (a:=p.num.natAbs) (b:=q.den) (by omega) (by omega)) J<|?_;refine cl J (nP (q:=q) (by omega)) J<|cl J (jk (q:=p) (by omega)) J<|cl J (o9 (a:=q.num.natAbs) (b:=p.den) (by omega) (by omega)) J<|?_;refine cl J (uv (a:=p.num.natAbs*q.den) (b:=q.num.natAbs*p.den) (i:=i+j) (j:=j+i) (by omega) (by omega)) J<|cl J (nM (n:=false) (a:=Nat.gcd (p.num.natAbs*q.den) (q.num.natAbs*p.den)) (d:=p.den*q.den) (i:=i+j+(j+i)) (j:=i+j) (by omega) (by omega)) J<|?_;exact rz J J
end Go.Sx
end
section
namespace Go.Sx
open Go
def crossI(l m:ab):Int:=l.a*m.b-m.a*l.b
def meetX(l m:ab):Int:=l.b*m.c-m.b*l.c
def meetY(l m:ab):Int:=m.a*l.c-l.a*m.c
def jr(l m:ab):aa:=if crossI l m=0 then⟨0,0⟩ else⟨(meetX l m:Rat)/(crossI l m:Rat),(meetY l m:Rat)/(crossI l m:Rat)⟩
def dq(l:ab)(p:aa):Rat:=p.dot l.dir/l.dir.dot l.dir
def Au(l:ab):l.dir.dot l.dir=l.nor.dot l.nor:=by
 simp only[ab.dir,ab.nor,aa.dot];grind
def xd{l:ab}(h:l.Ne):0<l.dir.dot l.dir:=by rw[Au];exact rU h
def MB{l:ab}:(⟨-((l.c:Rat)/l.dir.dot l.dir)*(l.a:Rat), -((l.c:Rat)/l.dir.dot l.dir)*(l.b:Rat)⟩:aa)=l.base:=by
 unfold ab.base;rw[Au];simp only[ab.nor,aa.scale,aa.mk.injEq];constructor<;>grind
def L9(l:ab)(t:Rat):ee l.base l.dir t=l.at t:=by
 simp only[ee,ab.at,aa.add,aa.scale,aa.mk.injEq];constructor<;>grind
def KC(v:aP)(t:Rat):aP:=if v.nl=true\/0<bw t v.lo then⟨t,v.hi,false,v.nh⟩ else v
def HC(v:aP)(t:Rat):aP:=if v.nh=true\/bw t v.hi<0 then⟨v.lo,t,v.nl,false⟩ else v
structure rQ (v:aP):Prop where
 lo:v.nl=true->v.lo=0
 hi:v.nh=true->v.hi=0
def ME(a b:Rat):0<bw a b↔b<a:=by
 unfold bw;split
 ·constructor
  ·intro h;exact absurd h (by decide)
  ·intro h;grind
 ·split
  ·exact⟨fun _=>by assumption,fun _=>by decide⟩
  ·constructor
   ·intro h;exact absurd h (by decide)
   ·intro h;exact absurd h (by assumption)
end Go.Sx
end
section
namespace Go.Sx
open Go Go.Proofs Tryz
variable {GB:Gh}

def cT:Tr->List DV
 | .leaf b=>[.v (.bool true), .v (.bool b), .v (.bool false), .sl [], .v (.bool false), .sl [], .v (.bool false), .sl [], .v (.pointer none), .v (.pointer none)]
 | .node l x y=>[.v (.bool false), .v (.bool false), .v (.bool (decide (l.a<0))),dN l.a.natAbs, .v (.bool (decide (l.b<0))),dN l.b.natAbs, .v (.bool (decide (l.c<0))),dN l.c.natAbs, .pt (cT x), .pt (cT y)]
def eT(t:Tr):DV:= .pt (cT t)
def eN(n:NQ):DV:= .ag [.v (.bool (decide (n.l.a<0))),dN n.l.a.natAbs, .v (.bool (decide (n.l.b<0))),dN n.l.b.natAbs, .v (.bool (decide (n.l.c<0))),dN n.l.c.natAbs, .v (.int .i64 n.a), .v (.int .i64 n.b)]
def eA(t:Tr):DV:= .ag [.v (.int .i64 (t.num 0)), .sl ((t.wr 0).map eN)]
structure BL (l:ab) (k:Nat):Prop where
 a:l.a.natAbs<2^k
 b:l.b.natAbs<2^k
 c:l.c.natAbs<2^k
structure LS (l:ab):Prop where
 ok:l.ok
 a:l.a.natAbs<=4
 b:l.b.natAbs<=4
 c:l.c.natAbs<=40000
instance:DecidableEq NQ:=fun x y=>decidable_of_iff (x.l=y.l/\x.a=y.a/\x.b=y.b) (by
 cases x;cases y;simp)
class LB (l:ab):Prop where bl:BL l 96
instance LB.a (l:ab) [h:LB l]:BI l.a 96:=⟨h.bl.a⟩
instance LB.b (l:ab) [h:LB l]:BI l.b 96:=⟨h.bl.b⟩
instance LB.c (l:ab) [h:LB l]:BI l.c 96:=⟨h.bl.c⟩
class av (p:aa) (k:outParam Nat):Prop where
 x:BQ p.x k
 y:BQ p.y k
instance av.ix (p:aa) (k:Nat) [h:av p k]:BQ p.x k:=h.x
instance av.iy (p:aa) (k:Nat) [h:av p k]:BQ p.y k:=h.y
instance av.dir (l:ab) [LB l]:av l.dir 97:=⟨inferInstanceAs (BQ (l.b:Rat) 97),inferInstanceAs (BQ (-(l.a:Rat)) 97)⟩
instance BQ.dot (p q:aa) (i j:Nat) [av p i] [av q j]:BQ (p.dot q) (i+j+(i+j)+1):=inferInstanceAs (BQ (p.x*q.x+p.y*q.y) _)
instance BQ.cross (p q:aa) (i j:Nat) [av p i] [av q j]:BQ (p.cross q) (i+j+(i+j)+1):=inferInstanceAs (BQ (p.x*q.y-p.y*q.x) _)
instance av.mov (p q:aa) (c:Rat) (i j k:Nat) [av p i] [av q j] [BQ c k]:av (ee p q c) (i+(k+j)+1):=⟨inferInstanceAs (BQ (p.x+c*q.x) _),inferInstanceAs (BQ (p.y+c*q.y) _)⟩
instance BQ.value (l:ab) (p:aa) (i:Nat) [LB l] [av p i]:BQ (l.value p) (96+1+i+(96+1+i)+1+(96+1)+1):=inferInstanceAs (BQ ((l.a:Rat)*p.x+(l.b:Rat)*p.y+(l.c:Rat)) _)
instance av.base (l:ab) [LB l]:av l.base 900:=by
 rw[<-MB];constructor
 ·exact BQ.mono (inferInstance:BQ (-((l.c:Rat)/l.dir.dot l.dir)*(l.a:Rat)) _) (by decide)
 ·exact BQ.mono (inferInstance:BQ (-((l.c:Rat)/l.dir.dot l.dir)*(l.b:Rat)) _) (by decide)
instance BI.crossI (l m:ab) [LB l] [LB m]:BI (crossI l m) 385:=inferInstanceAs (BI (l.a*m.b-m.a*l.b) 385)
instance BI.meetX (l m:ab) [LB l] [LB m]:BI (meetX l m) 385:=inferInstanceAs (BI (l.b*m.c-m.b*l.c) 385)
instance BI.meetY (l m:ab) [LB l] [LB m]:BI (meetY l m) 385:=inferInstanceAs (BI (m.a*l.c-l.a*m.c) 385)
instance av.imeet (l m:ab) [LB l] [LB m]:av (jr l m) 772:=by
 unfold jr;split
 ·exact⟨BQ.mono (k:=1) ⟨by decide,by decide⟩ (by decide),BQ.mono (k:=1) ⟨by decide,by decide⟩ (by decide)⟩
 ·exact⟨inferInstanceAs (BQ ((meetX l m:Rat)/(crossI l m:Rat)) 772),inferInstanceAs (BQ ((meetY l m:Rat)/(crossI l m:Rat)) 772)⟩
def Ig(l m:ab):Int:=if(l.a-m.a).sign≠0 then(l.a-m.a).sign else if(l.b-m.b).sign≠0 then(l.b-m.b).sign else(l.c-m.c).sign
def Mt(z:Int): -1<=z.sign/\z.sign<=1:=by
 rcases Int.lt_trichotomy z 0 with h|h|h
 ·rw[fS h];omega
 ·rw[h];decide
 ·rw[gL h];omega
instance BQ.i1:BQ (((1:Int):Rat)) 2:=⟨by decide,by decide⟩
def eV(v:aP):DV:= .ag [.v (.bool (decide (v.lo.num<0))),dN v.lo.num.natAbs,dD v.lo.den, .v (.bool (decide (v.hi.num<0))),dN v.hi.num.natAbs,dD v.hi.den, .v (.bool v.nl), .v (.bool v.nh)]
def K9(v:aP):Rat:=if v.nl=true/\v.nh=true then 0 else if v.nl=true then v.hi-1 else if v.nh=true then v.lo+1 else(v.lo+v.hi)/2
theorem BQ.of_fracI{q:Rat}{n D:Int}{i:Nat}(hd:0<D.natAbs)(h:q*((D.natAbs:Nat):Rat)=(n:Rat))(hn:BI n i)(hD:BI D i):BQ q i:=BQ.of_frac hd h hn.h hD.h
theorem yc{m:Int}{i j:Nat}(h:BI m i)(hij:i<=j):BI m j:=⟨cN h.h (bW (by decide) hij)⟩
def nW(l:ab):List ab->aP->aP×Bool
 |[],v=>(v,true)
 |m::t,v=>if m=l then nW l t v else if l.cutB v m=true then nW l t (l.cutV v m) else(l.cutV v m,false)
structure P6 (l:ab) (c:List ab) (k:Nat) (v:aP):Prop where
 le:k<=c.length
 p:oA l (c.drop k) v=oA l c aP.all
 e:nW l (c.drop k) v=nW l c aP.all
 z:rQ v
 lo:BQ v.lo 1200
 hi:BQ v.hi 1200
def Oc(l m:ab)(v:aP):aP:=if 0<(m.dir.cross l.dir).num.sign then KC v (dq l (jr l m)) else HC v (dq l (jr l m))
def jn(l:ab):DV:= .ag [vI (cD (l.a:Rat)),vI (cE (l.a:Rat)),cB (l.a:Rat),vI (cD (l.b:Rat)),vI (cE (l.b:Rat)),cB (l.b:Rat),vI (cD (l.c:Rat)),vI (cE (l.c:Rat)),cB (l.c:Rat)]
def eZ(p:aa):DV:= .ag [vI (cD p.x),vI (cE p.x),cB p.x,vI (cD p.y),vI (cE p.y),cB p.y]
def eW(v:aP):DV:= .ag [vI (cD v.lo),vI (cE v.lo),cB v.lo,vI (cD v.hi),vI (cE v.hi),cB v.hi, .v (.bool v.nl), .v (.bool v.nh)]
def A9:List Int->Int
 |[]=>0
 |a::t=>if a≠0 then a else A9 t
theorem av.nor(l:ab)[LB l]:av l.nor 97:=⟨inferInstanceAs (BQ (l.a:Rat) 97),inferInstanceAs (BQ (l.b:Rat) 97)⟩
attribute [instance] av.nor
instance av.scale (p:aa) (c:Rat) (i k:Nat) [av p i] [BQ c k]:av (p.scale c) (i+k):=⟨inferInstanceAs (BQ (p.x*c) _),inferInstanceAs (BQ (p.y*c) _)⟩
instance av.add (p q:aa) (i j:Nat) [av p i] [av q j]:av (p.add q) (i+j+1):=⟨inferInstanceAs (BQ (p.x+q.x) _),inferInstanceAs (BQ (p.y+q.y) _)⟩
instance LB.revA (l:ab) [h:LB l]:LB l.rev:=⟨⟨by rw[show l.rev.a= -l.a from J,fW];exact h.bl.a,by rw[show l.rev.b= -l.b from J,fW];exact h.bl.b,by rw[show l.rev.c= -l.c from J,fW];exact h.bl.c⟩⟩
def w8{l:ab}:PF GB prog 198 [jn l] (eZ l.nor):=by
 refine fn func198 J J ntmps198 J J (fun C=>?_);exact rz J J
def sH{l:ab}[hl:LB l]:PF GB prog 138 [jn l] (eZ l.dir):=by
 refine fn func138 J J ntmps138 J J (fun C=>?_);refine cl J (ml (q:=(l.a:Rat))) J<|?_;exact rz J J
def kr{p q:aa}{i j:Nat}[hp:av p i][hq:av q j](hi:i<=40000000:=by decide)(hj:j<=40000000:=by decide):PF GB prog 199 [eZ p,eZ q] (eF (p.dot q)):=by
 refine fn func199 J J ntmps199 J J (fun C=>?_);refine cl J (lg (p:=p.x) (q:=q.x) (by omega) (by omega)) J<|cl J (lg (p:=p.y) (q:=q.y) (by omega) (by omega)) J<|cl J (pD (p:=p.x*q.x) (q:=p.y*q.y) (by omega) (by omega)) J<|?_;exact rz J J
def x8{p q:aa}{i j:Nat}[hp:av p i][hq:av q j](hi:i<=40000000:=by decide)(hj:j<=40000000:=by decide):PF GB prog 193 [eZ p,eZ q] (eF (p.cross q)):=by
 refine fn func193 J J ntmps193 J J (fun C=>?_);refine cl J (lg (p:=p.x) (q:=q.y) (by omega) (by omega)) J<|cl J (lg (p:=p.y) (q:=q.x) (by omega) (by omega)) J<|cl J (oM (p:=p.x*q.y) (q:=p.y*q.x) (by omega) (by omega)) J<|?_;exact rz J J
def qf{p:aa}{c:Rat}{i j:Nat}[hp:av p i][hc:BQ c j](hi:i<=40000000:=by decide)(hj:j<=40000000:=by decide):PF GB prog 147 [eZ p,eF c] (eZ (p.scale c)):=by
 refine fn func147 J J ntmps147 J J (fun C=>?_);refine cl J (lg (p:=p.x) (q:=c) (by omega) (by omega)) J<|cl J (lg (p:=p.y) (q:=c) (by omega) (by omega)) J<|?_;exact rz J J
def sJ{p q:aa}{i j:Nat}[hp:av p i][hq:av q j](hi:i<=40000000:=by decide)(hj:j<=40000000:=by decide):PF GB prog 146 [eZ p,eZ q] (eZ (p.add q)):=by
 refine fn func146 J J ntmps146 J J (fun C=>?_);refine cl J (pD (by omega) (by omega)) J<|cl J (pD (by omega) (by omega)) J<|?_;exact rz J J
def Ib{l:ab}[hl:LB l]:PF GB prog 227 [jn l] (eZ l.base):=by
 refine fn func227 J J ntmps227 J J (fun C=>?_);refine cl J w8 J<|cl J (ml (q:=(l.c:Rat))) J<|cl J (kr (p:=l.nor) (q:=l.nor)) J<|cl J (pg (p:= -(l.c:Rat)) (q:=l.nor.dot l.nor)) J<|?_;refine cl J (qf (p:=l.nor)) J<|?_;exact rz J J
def yq{l:ab}{p:aa}{i:Nat}[hl:LB l][hp:av p i](hi:i<=10000000:=by decide):PF GB prog 191 [jn l,eZ p] (eF (l.value p)):=by
 refine fn func191 J J ntmps191 J J (fun C=>?_);refine cl J (w8 (l:=l)) J<|cl J (kr (p:=l.nor) (q:=p) (by omega) (by omega)) J<|cl J (pD (p:=l.nor.dot p) (q:=(l.c:Rat)) (by omega) (by omega)) J<|?_;exact rz J J
def tG{l:ab}{p:aa}{i:Nat}[hl:LB l][hp:av p i](hi:i<=10000000:=by decide):PF GB prog 139 [jn l,eZ p] (vI (l.value p).num.sign):=by
 refine fn func139 J J ntmps139 J J (fun C=>?_);refine cl J (yq (l:=l) (p:=p) hi) J<|cl J (ik (q:=l.value p) (by omega)) J<|?_;exact rz J J
def BE{l:ab}{t:Rat}{i:Nat}[hl:LB l][ht:BQ t i](hi:i<=10000000:=by decide):PF GB prog 192 [jn l,eF t] (eZ (l.at t)):=by
 refine fn func192 J J ntmps192 J J (fun C=>?_);refine cl J (Ib (l:=l)) J<|cl J (sH (l:=l)) J<|cl J (qf (p:=l.dir) (c:=t) (by omega) (by omega)) J<|cl J (sJ (p:=l.base) (q:=l.dir.scale t) (by omega) (by omega)) J<|?_;exact rz J J
instance aP.meet_lo (v w:aP) (i j:Nat) [h1:BQ v.lo i] [h3:BQ w.lo j]:BQ (v.meet w).lo (i+j):=by
 have a:=h1.mono (lJ i j);have b:=h3.mono (Nat.le_add_left j i);unfold aP.meet;dsimp only;(repeat' split)<;>assumption
instance aP.meet_hi (v w:aP) (i j:Nat) [h1:BQ v.hi i] [h3:BQ w.hi j]:BQ (v.meet w).hi (i+j):=by
 have a:=h1.mono (lJ i j);have b:=h3.mono (Nat.le_add_left j i);unfold aP.meet;dsimp only;(repeat' split)<;>assumption
instance BQ.cutK (l m:ab) [LB l] [LB m]:BQ (l.cutK m) 400:=BQ.mono (inferInstance:BQ (m.nor.dot l.dir) _) (by decide)
instance BQ.cutC (l m:ab) [LB l] [LB m]:BQ (l.cutC m) 2500:=BQ.mono (inferInstance:BQ (m.value l.base) _) (by decide)
def qY(p q:aa):DV:= .ag [vI (cD p.x),vI (cE p.x),cB p.x,vI (cD p.y),vI (cE p.y),cB p.y,vI (cD q.x),vI (cE q.x),cB q.x,vI (cD q.y),vI (cE q.y),cB q.y]
def oQ{C:au}{n:Nat}{Q0:Exit->Act->World->Prop}{fr:ak}{own:aw}{ops:Array Oper}{r:List Oper}{K:List Kt}(k:Nat){l:List DV}(hl:aA fr k=some (.d (.pt l)))(h:aj prog GB C n Q0 ((k, .ep l)::fr) own (.ops ops r K)):aj prog GB C n Q0 fr own (.ops ops r K):=
 ld hl (fun ρ G y hy=>by
  obtain⟨b,m,rfl,h1,h2⟩:=mp.1 hy;have e:=h2.len;exact⟨b,0,m,m,J,h1,by rw[i5 m 0 l.length (by omega),mX,<-e,dX],h2⟩) h
def zF{G:Gh}{m:List Value}(h:IsLs G [vI 0,vI 0, .v (.pointer none)] m):IsLs G [vI (cD 0),vI (cE 0),cB 0] m:=by
 obtain⟨l,e,k⟩:=du.1 (oL G (.agg ⟨m⟩) (du.2 ⟨m,rfl,h⟩))
 cases e;exact k
section
variable {GB:Gh} {C:au} {n:Nat} {Q0:Exit->Act->World->Prop} {fr fr':ak} {own own':aw} {cf cf':Cf} {vc:List Prop} {ops:Array Oper} {r:List Oper} {K:List Kt}
def nT(k:Nat){d:DV}(hl:aA fr k=some (.d d))(h: ∀(GB':Gh) (pv:Value),aO GB GB'->Is GB' d pv->aj prog GB' C n Q0 ((k, .d (.v pv))::fr) own (.ops ops r K)):aj prog GB C n Q0 fr own (.ops ops r K):=by
 refine⟨fun ρ G ov a w r0=>?_⟩;obtain⟨y,hy,hy'⟩:=r0.fx k _ hl;refine(h G y r0.gb hy').run ρ G ov a w ⟨aO.refl _,r0.h,r0.sz,r0.df,fun j f e=>?_,r0.bx,r0.dj,r0.fxd⟩;rw[fw] at e;split at e
 ·rename_i hj
  cases e;subst hj
  exact⟨y,hy,(bh (G:=G)).2 J⟩
 ·exact r0.fx j f e
def P'(fr:ak)(cf:Cf):Option (FuncId×Value):=match bt fr cf with
 |some ⟨_, .makeFunc (.func f) ⟨[x]⟩ ⟨[]⟩,_,_,_,_⟩=>match az (aH fr cf) x with
  |some (.d (.v pv))=>some (f,pv)
  |_=>none
 |_=>none
def M6(fr:ak)(cf:Cf):Option (FuncId×List Value×List DV):=match bt fr cf with
 |some ⟨_, .call ⟨.value fo,args,_⟩,_,_,_,_⟩=>match az (aH fr cf) fo,evDs (aH fr cf) args.toList with
  |some (.d (.v (.func (.func f) ⟨c1⟩ ⟨[]⟩))),some ds=>some (f,c1,ds)
  |_,_=>none
 |_=>none
def D0:List (Nat×Operand)->Option (List (Nat×Value))
 |[]=>some []
 |(i, .const v)::t=>match D0 t with
  |some l=>some ((i,v)::l)
  |none=>none
 |_::_=>none
def OI(cf:Cf)(fr:ak):Option (TypeId×List (Nat×Value)):=match bt fr cf with
 |some ⟨_, .build t ⟨ps⟩,_,_,_,_⟩=>match D0 ps with
  |some vs=>some (t,vs)
  |none=>none
 |_=>none
def xv(fr:ak)(own:aw)(cf:Cf):Option (TypeId×Nat×Nat×List FX×Bool×FX):=match bt fr cf with
 |some ⟨_, .store t x y,_,_,_,_⟩=>match az (aH fr cf) x with
  |some (.ov nm 0)=>match dG fr own cf nm with
   |some (.o ty cs lo)=>match az (aH fr cf) y with
    |some fv=>some (t,nm,ty,cs,lo,fv)
    |_=>none
   |_=>none
  |_=>none
 |_=>none
def y6[fu:Fu]{t nm ty len e:Nat}{cs:List FX}{lo:Bool}{fv:FX}{j:TypeInfo}(h:xv fr own cf=some (t,nm,ty,cs,lo,fv))(hu:prog.underlying t=some (.array len e))(hj:prog.info? t=some j)(hc:fv.okc=true/\fv.cells.length=j.size/\j.size=cs.length)
  (hgo:b7 tt n fu.n fr own cf .un [(nm,some (.o ty (nI cs 0 fv.cells) lo))] []=⟨vc,fr',own',cf'⟩)(k:aj prog GB C n Q0 fr' own' cf')
  (hv:ah vc:=by first|exact trivial|(simp only[ah];kernel_rfl)|(simp only[ah];omega)):aj prog GB C n Q0 fr own cf:=by
 unfold xv at h;split at h<;>try (cases h;done)
 rename_i hh;split at h<;>try (cases h;done)
 rename_i e1;split at h<;>try (cases h;done)
 rename_i hb;split at h<;>cases h;rename_i e2;obtain⟨c1,c2,c3⟩:=hc;have:kg prog t j.size:=⟨fun w=>qC hu w,fun w=>mm hj w⟩;refine us hh ?_ hgo hv k;intro hd tl tb K s1 s2 hf hk;refine⟨fun ρ G ov a w r Q=>?_⟩;have r1:=r.mono s1 s2;obtain⟨p,h1,h2⟩:=r1.ev e1;obtain⟨q,h3,h4⟩:=r1.ev e2;obtain⟨b,m,rfl,ha,h5,h6⟩:=r1.own h2 hb;obtain⟨h7,h8⟩:=h4.cells c1;obtain⟨own',u1,u2,u3⟩:=e7.of_mem (cs':=cp m 0 (aC q)) h6;exact uB h1 h3 u1 (by rw[h7.len,c2]) (by rw[h5.len,c3];omega) (cW.2 h8) hd (fun a' w' rl=>r.wrote (m:=m) (s2 _ _ hb) ha (h5.ov h7) u2 u3 hk rl) a w Q ⟨r.h,r.sz,ck a,r.df⟩
def Ed(fr:ak)(cf:Cf):Option An:=match bt fr cf with
 |some ⟨some d, .buildSlice t len parts,_,_,_,_⟩=>match b6 tt t with
  |some ⟨.sl e s _,_,_,_⟩=>match nF (aH fr cf) 0 parts.toList with
   |some ds=>bif qJ s ds&&(Nat.beq parts.toList.length len&&(Nat.ble (len*s) 1000&&Nat.blt 0 (len*s))) then some ⟨d,e,s,ds⟩ else none
   |none=>none
  |_=>none
 |_=>none
def Mv[fu:Fu]{d e s:Nat}{ds:List DV}{i:TI}{z:DV}(h:Ed fr cf=some ⟨d,e,s,ds⟩)(hi:dh prog e=some i)(hz:iE i=some z)(hs:Nat.beq z.cells.length s=true)(hgo:b7 tt n fu.n fr own cf (.d (.sl ds)) [(d,none)] [d]=⟨vc,fr',own',cf'⟩)(k:aj prog GB C n Q0 fr' own' cf')
  (hv:ah vc:=by first|exact trivial|(simp only[ah];kernel_rfl)|(simp only[ah];omega)):aj prog GB C n Q0 fr own cf:=by
 unfold Ed at h;split at h<;>try (cases h;done)
 rename_i hh;split at h<;>try (cases h;done)
 rename_i hT;split at h<;>try (cases h;done)
 rename_i hr;rw[cond_eq_ite] at h;split at h<;>cases h;rename_i hc;simp only[aR] at hc;have:=fG (c' _ _ hT) J;exact us hh ((xy hi hz hs hr hc.1 hc.2.1 hc.2.2.1 hc.2.2.2).frzRow J) hgo hv k
def BP(fr:ak)(cf:Cf):Option (TypeId×List DV):=match bt fr cf with
 |some ⟨_, .load t x,_,_,_,_⟩=>match az (aH fr cf) x with
  |some (.ep l)=>some (t,l)
  |_=>none
 |_=>none
def ML:TypeDesc->Bool
 | .struct _=>false
 | .array _ _=>false
 |_=>true
def Ds[fu:Fu]{t:TypeId}{d:DV}{l:List DV}{D:TypeDesc}{j:TypeInfo}(h:BP fr cf=some (t,d::l))(hu:prog.underlying t=some D)(hD:ML D=true)(hj:prog.info? t=some j)(hs:j.size=1)
  (hgo:b7 tt n fu.n fr own cf (.d d) [] []=⟨vc,fr',own',cf'⟩)(k:aj prog GB C n Q0 fr' own' cf')
  (hv:ah vc:=by first|exact trivial|(simp only[ah];kernel_rfl)|(simp only[ah];omega)):aj prog GB C n Q0 fr own cf:=by
 unfold BP at h;split at h<;>try (cases h;done)
 rename_i hh;split at h<;>cases h;rename_i hx;have:gH prog t:=⟨fun w=>by(rw[qC hu w];cases D<;>first|rfl|(cases hD;done)),fun w=>by rw[mm hj w,hs]⟩;exact us hh (.x1 hx fun ρ G ov a w y _ r h1 h2=>by
  obtain⟨b,o,ms,m,rfl,hb,ht,hm⟩:=h2;obtain⟨l',h3,h4⟩:=hm.get (i:=0) rfl;have:=u9 ht (i:=0) (Nat.succ_pos _);rw[dQ] at this;exact⟨l',h4,uC h1 hb (by rw[this];exact h3)⟩) hgo hv k
end
end Go.Sx
end
