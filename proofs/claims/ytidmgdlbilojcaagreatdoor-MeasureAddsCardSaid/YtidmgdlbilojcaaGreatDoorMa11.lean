import Derived.Test.YtidmgdlbilojcaaGreatDoorMa10
set_option linter.all false
set_option maxHeartbeats 4000000
set_option maxRecDepth 100000
section
namespace Go.Sx
open Go Go.Proofs Tryz
variable {GB:Gh}
def Ov{G:Gh}{ds:List Nat}{v:Value}(hd:bp ds)(h:Is G (fA ds) v): ∃x:SV,v=x.v/\cj G x ds:=by
 obtain⟨x,rfl,h1⟩:=KN.1 h;exact⟨x,J,hd,h1⟩
def fP.is{G:Gh}{k n:Nat}{z:SV}(h:fP k G z n):Is G (dN n) z.v:=(Gp h.lt).2 ⟨z,J,h⟩
def AF{G:Gh}{ds:List Nat}{vs:List Value}(hd:bp ds)(h:IsLs G [fA ds] vs): ∃x:SV,vs=[x.v]/\cj G x ds:=by
 obtain⟨v,m,rfl,h1,h2⟩:=aH.1 h
 cases er.1 h2
 obtain⟨x,rfl,h3⟩:=Ov hd h1;exact⟨x,J,h3⟩
def zS{G:Gh}{a b:Nat}{vs:List Value}(h:IsLs G [dN a,dN b] vs): ∃x y:SV,vs=[x.v,y.v]/\cj G x (dg a)/\cj G y (dg b):=by
 obtain⟨v,m,rfl,h1,h2⟩:=aH.1 h;obtain⟨y,rfl,h4⟩:=AF (eo b).2.1 h2;obtain⟨x,rfl,h3⟩:=Ov (eo a).2.1 h1;exact⟨x,y,J,h3,h4⟩
section
variable {GB:Gh} {a b i j:Nat}
def nH[h:BN a i](hi:i<=1000000000):(dg a).length<=31250001:=by have:=lB h.h;omega
def ayx{ds:List Nat}(hd:bp ds)(hl:ds.length<=1125899906842624):PF GB prog 265 [fA ds] (vB (decide (d4 ds))):=fun G vs _ hv=>by
 obtain⟨x,rfl,hx⟩:=AF hd hv;exact(SP hx hl).mono fun v G' _ h=>aD.2 h
def wl[h:BN a i](hi:i<=1000000000:=by decide):PF GB prog 200 [dN a] (vI (bl a:Nat)):=fun G vs _ hv=>by
 obtain⟨x,rfl,hx⟩:=AF (eo a).2.1 hv;have:=nH (a:=a) hi;exact(SF hx (by omega)).mono fun v G' _ h=>aD.2 (by rw[h,cd])
def x9[h:BN a i](hi:i<=1000000000:=by decide):PF GB prog 164 [dN a] (dN a):=fun G vs _ hv=>by
 obtain⟨x,rfl,hx⟩:=AF (eo a).2.1 hv;have:=nH (a:=a) hi;refine(FE (k:=i) hx (by rw[cd];exact h.h) (by omega)).mono fun v G' _ h=>?_;obtain⟨z,rfl,h⟩:=h;rw[cd] at h;exact h.is
def Hr(h:a<18446744073709551616):PF GB prog 165 [.v (.int .u64 (a:Nat))] (dN a):=fun G vs _ hv=>by
 obtain⟨v,m,rfl,h1,h2⟩:=aH.1 hv
 cases er.1 h2
 rw[aD.1 h1];refine(E4 h).mono fun v G' _ h=>?_;obtain⟨z,rfl,h⟩:=h;exact h.is
def EA(h:a<18446744073709551616):PF GB prog 204 [dN a] (.tp [.v (.int .u64 (a:Nat)),vB true]):=fun G vs _ hv=>by
 obtain⟨x,rfl,hx⟩:=AF (eo a).2.1 hv;have:BN a 64:=⟨h⟩;have:=nH (a:=a) (i:=64) (by decide);refine(Hm hx (by omega)).mono fun v G' _ e=>?_;rw[cd,if_pos h,decide_eq_true h] at e;subst e;exact jt.2 ⟨_,J, .cons (aD.2 J) (.cons (aD.2 J) .nil)⟩
def Z0[h:BN a i][k:BN b j](hi:i<=1000000000:=by decide)(hj:j<=1000000000:=by decide):PF GB prog 216 [dN a,dN b] (dN (a+b)):=fun G vs _ hv=>by
 obtain⟨x,y,rfl,hx,hy⟩:=zS hv;have:=nH (a:=a) hi;have:=nH (a:=b) hj;refine(WQ (kk:=i+j+1) hx hy (by rw[cd,cd];exact Dx h.h k.h) (by omega) (by omega)).mono fun v G' _ h=>?_;obtain⟨z,rfl,h⟩:=h;rw[cd,cd] at h;exact h.is
def JR[h:BN a i][k:BN b j](hi:i<=1000000000:=by decide)(hj:j<=1000000000:=by decide):PF GB prog 217 [dN a,dN b] (.tp [dN (a-b),vB (decide (b<=a))]):=fun G vs _ hv=>by
 obtain⟨x,y,rfl,hx,hy⟩:=zS hv;have:=nH (a:=a) hi;have:=nH (a:=b) hj;refine(Vv (kk:=i) hx hy (by rw[cd];exact h.h) (by omega) (by omega)).mono fun v G' _ h=>?_;obtain⟨z,rfl,h⟩:=h;rw[cd,cd] at h⊢;exact jt.2 ⟨_,J, .cons h.is (.cons (aD.2 J) .nil)⟩
def xl[h:BN a i][k:BN b j](hi:i<=1000000000:=by decide)(hj:j<=1000000000:=by decide):PF GB prog 161 [dN a,dN b] (dN (a*b)):=fun G vs _ hv=>by
 obtain⟨x,y,rfl,hx,hy⟩:=zS hv;have:=nH (a:=a) hi;have:=nH (a:=b) hj;refine(Uy (kk:=i+j) hx hy (by rw[cd,cd];exact pw h.h k.h) (by omega) (by omega)).mono fun v G' _ h=>?_;obtain⟨z,rfl,h⟩:=h;rw[cd,cd] at h;exact h.is
def Ra[h:BN a i][k:BN b j](hb:0<b)(hi:i<=1000000000:=by decide)(hj:j<=1000000000:=by decide):PF GB prog 202 [dN a,dN b] (.tp [dN (a/b),dN (a%b),vB true]):=fun G vs _ hv=>by
 obtain⟨x,y,rfl,hx,hy⟩:=zS hv;have:=nH (a:=a) hi;have:=nH (a:=b) hj;refine(H7 (k1:=i) (k2:=j) hx hy (by rw[cd];exact hb) (by rw[cd,cd];exact fJ (kR _ _) h.h) (by rw[cd,cd];exact pN (dQ _ hb) k.h) (by omega) (by omega)).mono fun v G' _ h=>?_;obtain⟨z,r,rfl,h,h'⟩:=h;rw[cd,cd] at h h';exact jt.2 ⟨_,J, .cons h.is (.cons h'.is (.cons (aD.2 J) .nil))⟩
def MZ[h:BN a i][k:BN b j](hi:i<=1000000000:=by decide)(hj:j<=1000000000:=by decide):PF GB prog 201 [dN a,dN b] (dN (Nat.gcd a b)):=fun G vs _ hv=>by
 obtain⟨x,y,rfl,hx,hy⟩:=zS hv;have:=nH (a:=a) hi;have:=nH (a:=b) hj;have e: ∀k',k'<=i+j->(2:Nat)^k'<=2^(i+j):=fun k' h=>bY (by decide) h;have:=e i (by omega);have:=e j (by omega);have:=h.h;have:=k.h;refine(aBe (k:=i+j) (k0:=i+j) hx hy (by rw[cd];omega) (by rw[cd];omega) (by omega) (by rw[cd,cd];exact GM h.h k.h) (by omega) (by omega)).mono fun v G' _ h=>?_;obtain⟨z,rfl,h⟩:=h;rw[cd,cd] at h;exact h.is
end
section
variable {GB:Gh} {C:az} {n:Nat} {Q0:Exit->Act->World->Prop} {fr fr' fr1 fr2:ay} {own own' own1 own2:aE} {cf cf' cf1 cf2:Cf} {vc vc1 vc2:List Prop}
def jn{fb:Func}{e:Exit}{ds:List DV}{rv:DV}(hr:sk tt fr own fb.results.toList=some ds)(hd: ∀G y,Is G (eE ds) y->Is G rv y)(he:CT e=true:=by rfl):av prog GB C n (fI C prog fb (lO C (fun v G'=>Is G' rv v))) fr own (.ex e []):=by
 refine⟨fun ρ G ov a w r=>?_⟩;obtain⟨vs,h1,h2⟩:=CM r hr;have hk:Is G rv (gF vs):=hd _ _ (Ca h2)
 cases e with
 |ret=>exact zD (C:=C) (n:=n) (fr:=cB a) (own:=ov) (G:=G) (K:=fun v G'=>Is G' rv v) h1 hk a w ⟨r.h,r.sz,c7 a,r.df⟩
 |normal=>exact Qj (C:=C) (n:=n) (fr:=cB a) (own:=ov) (G:=G) (K:=fun v G'=>Is G' rv v) h1 hk a w ⟨r.h,r.sz,c7 a,r.df⟩
 |_=>cases he
def M7(fr:ay)(cf:Cf):Option (Int×IntKind):=match cw fr cf with
 |some ⟨_, .convert t t' x,_,_,_,_⟩=>match c9 tt t,c9 tt t',aG (bO fr cf) x with
  |some ⟨.int k,_,_,_⟩,some ⟨.int k',_,_,_⟩,some (.d (.v (.int j p)))=>bif kq k j then some (p,k') else none
  |_,_,_=>none
 |_=>none
def cu[fu:Fu]{p:Int}{k':IntKind}(u:Int)(h:M7 fr cf=some (p,k'))(e:k'.wrap p=u)(hgo:cP tt n fu.n fr own cf (.d (.v (.int k' u))) [] []=⟨vc,fr',own',cf'⟩)(k:av prog GB C n Q0 fr' own' cf')
  (hv:ac vc:=by first|exact trivial|(simp only[ac];kernel_rfl)|(simp only[ac];omega)):av prog GB C n Q0 fr own cf:=by
 unfold M7 at h;split at h<;>try (cases h;done)
 rename_i hh;split at h<;>try (cases h;done)
 rename_i k0 _ _ _ k1 _ _ _ j p0 hT hT' hx
 cases hk:kq k0 j with
 |false=>rw[hk] at h;cases h
 |true=>
  rw[hk,cond_true] at h;cases h;cases Cp hk;have:=xo (ew _ _ hT) J;have:=xo (ew _ _ hT') J;subst e;refine us hh (.x1 hx fun ρ G ov a w y _ r h1 h2=>?_) hgo hv k;rw[dk] at h2;subst h2;exact⟨_,dk.2 J,Bn h1⟩
def Qr(fr:ay)(cf:Cf):Option (Int×IntKind):=match cw fr cf with
 |some ⟨_, .unOp .neg _ x,_,_,_,_⟩=>match aG (bO fr cf) x with
  |some (.d (.v (.int j p)))=>some (p,j)
  |_=>none
 |_=>none
def nu[fu:Fu]{p:Int}{k':IntKind}(u:Int)(h:Qr fr cf=some (p,k'))(e:k'.wrap (0-p)=u)(hgo:cP tt n fu.n fr own cf (.d (.v (.int k' u))) [] []=⟨vc,fr',own',cf'⟩)(k:av prog GB C n Q0 fr' own' cf')
  (hv:ac vc:=by first|exact trivial|(simp only[ac];kernel_rfl)|(simp only[ac];omega)):av prog GB C n Q0 fr own cf:=by
 unfold Qr at h;split at h<;>try (cases h;done)
 rename_i hh;split at h<;>cases h;rename_i hx;subst e;exact us hh (.x1 hx fun ρ G ov a w y _ r h1 h2=>by
  rw[dk] at h2;subst h2;exact⟨_,dk.2 J,FA h1⟩) hgo hv k
end
def Jc{x:Nat}:bl x=0↔x=0:=by
 have:= @oo x 0;simp at this;omega
def xA{a:Nat}:0<(dg a).length↔0<a:=by
 have:= @vW a;omega
def eS(neg:Bool)(a:Nat):DV:= .ag [.v (.bool neg),dN a]
def Dp(neg:Bool)(a:Nat):eI (zv neg a)= .ag [.v (.bool (neg&&decide (0<a))),dN a]:=by unfold eI;rw[sB,LY]
def VP{n:Bool}{u:Nat}{b:Int}(h:n≠decide (b<0))(hle:b.natAbs<=u):zv n (u-b.natAbs)=zv n u+b:=by cases n<;>simp[zv] at* <;>omega
def R9{n:Bool}{u:Nat}{b:Int}(h:n≠decide (b<0))(hle:u<=b.natAbs):zv (decide (b<0)) (b.natAbs-u)=zv n u+b:=by cases n<;>simp[zv] at* <;>(try rw[if_pos h])<;>(try rw[if_neg (by omega)])<;>omega
def QA{neg:Bool}{ds:List Nat}(hd:bp ds)(hl:ds.length<=1125899906842624):PF GB prog 221 [.ag [.v (.bool neg),fA ds]] (vB (decide (d4 ds/\(neg=true->0<ds.length)))):=by
 refine fn func221 J J ntmps221 J J (fun C=>?_);refine cl J (ayx hd hl) J<|?_;refine csd 6 J J J (fun hg6=>?_) (fun hg6=>?_)
 .
  refine jy 10 J J J (fun hg10=>?_) (fun hg10=>?_)
  .
   exact rz J (by unfold vB;congr 2;simp_all [eE])
  .
   exact rz J (by unfold vB;congr 2;simp_all [eE])
 .
  exact rz J (by unfold vB;congr 2;simp_all [eE])
def Mw{n:Bool}{a i:Nat}[h:BN a i](hi:i<=1000000000:=by decide):PF GB prog 198 [eS n a] (vI (zv n a).sign):=by
 refine fn func198 J J ntmps198 J J (fun C=>?_);refine cl J (wl (a:=a) hi) J<|?_;refine br J J J (fun hc3=>?_) (fun hc3=>?_)
 .
  exact rz J (by have:=Jc.1 (Int.ofNat.inj hc3);subst this;cases n<;>rfl)
 .
  refine bb J J J (fun hc8=>?_) (fun hc8=>?_)
  .
   exact rz J (by subst hc8;rw[fM (by have:a≠0:=(fun e=>hc3 (by rw[e];rfl));simp[zv];omega)];rfl)
  .
   exact rz J (by subst hc8;rw[iZ (by have:a≠0:=(fun e=>hc3 (by rw[e];rfl));simp[zv];omega)];rfl)
def F6{m:Int}(h0: -9223372036854775808<=m)(h1:m<=9223372036854775807):PF GB prog 163 [vI m] (eI m):=by
 refine fn (fu:=⟨8⟩) func163 J J ntmps163 J J (fun C=>?_);refine cu ((m%18446744073709551616:Int)) J (nE _) J<|?_;refine br (fu1:=⟨2⟩) (fu2:=⟨0⟩) J J J (fun hc7=>?_) (fun hc7=>?_)
 .
  refine nu ((m.natAbs:Nat)) J (by rw[nE];omega) J<|cl J (Hr (a:=m.natAbs) (by omega)) J<|?_;exact rz J J
 .
  refine aj 3 (.d (.v (.int .u64 (m.natAbs:Nat)))) J (by congr 3;omega) ?_;refine gx J<|cl J (Hr (a:=m.natAbs) (by omega)) J<|?_;exact rz J J
def Ke{n:Bool}{a:Nat}(h:a<4611686018427387904):PF GB prog 203 [eS n a] (.tp [vI (zv n a),vB true]):=by
 refine fn func203 J J ntmps203 J J (fun C=>?_);refine cl (fu:=⟨2⟩) J (EA (a:=a) (by omega)) J<|dm J J J<|?_;refine jy 18 J J J (fun hg18=>?_) (fun hg18=>?_)
 .
  refine br (fu1:=⟨3⟩) J J J (fun hc12=>?_) (fun hc12=>?_)
  .
   refine nu (fu:=⟨0⟩) (((18446744073709551616-a)%18446744073709551616:Int)) J (by rw[nE];omega) J<|cu (zv n a) J (by subst hg18;rw[Gk];simp only[zv,if_true];omega) J<|?_;exact rz J J
  .
   exact absurd (by omega) hc12
 .
  refine jy 32 J J J (fun hg32=>?_) (fun hg32=>?_)
  .
   refine br J J J (fun hc25=>?_) (fun hc25=>?_)
   .
    exact rz J (by subst hg18;rfl)
   .
    exact absurd (by omega) hc25
  .
   subst hg18;cases hg32
def xB{neg:Bool}{a i:Nat}[h:BN a i](hi:i<=1000000000:=by decide):PF GB prog 162 [eS neg a] (eI (zv neg a)):=by
 refine fn func162 J J ntmps162 J J (fun C=>?_);refine cl J (x9 hi) J<|?_;refine jy 9 J J J (fun hg9=>?_) (fun hg9=>?_)
 .
  exact rz J (by rw[Dp];simp[hg9,xA,eE])
 .
  exact rz J (by rw[Dp];simp[hg9,xA,eE])
def Ei{neg:Bool}{a:Nat}:PF GB prog 215 [.v (.bool neg),dN a] (eI (zv neg a)):=by
 refine fn func215 J J ntmps215 J J (fun C=>?_);refine jy 6 J J J (fun hg6=>?_) (fun hg6=>?_)
 .
  exact rz J (by rw[Dp];simp[hg6,xA,eE])
 .
  exact rz J (by rw[Dp];simp[hg6,xA,eE])
def VF{m:Int}{i:Nat}[h:BI m i](hi:i<=1000000000:=by decide):PF GB prog 249 [eI m] (eI (-m)):=by
 refine fn func249 J J ntmps249 J J (fun C=>?_);refine cl J (xB (neg:=!decide (m<0)) (a:=m.natAbs) hi) J<|?_;exact rz J (by rw[aGo,mD];rfl)
def Ey{a b:Int}{i j:Nat}[h:BI a i][k:BI b j](hi:i<=1000000000:=by decide)(hj:j<=1000000000:=by decide):PF GB prog 160 [eI a,eI b] (eI (a*b)):=by
 refine fn func160 J J ntmps160 J J (fun C=>?_);refine cl J (xl (a:=a.natAbs) (b:=b.natAbs) hi hj) J<|cl J Ei J<|?_;exact rz J (by rw[show(!(decide (a<0)==decide (b<0)))=(decide (a<0) !=decide (b<0)) from J,J5,mD,mD];rfl)
def Zm{n1:Bool}{u:Nat}{b:Int}{i j:Nat}[h:BN u i][k:BI b j](hi:i<=1000000000:=by decide)(hj:j<=1000000000:=by decide):PF GB prog 159 [eS n1 u,eI b] (eI (zv n1 u+b)):=by
 refine fn func159 J J ntmps159 J J (fun C=>?_);refine bb J J J (fun hc13=>?_) (fun hc13=>?_)
 .
  refine cl J (Z0 (b:=b.natAbs) hi hj) J<|cl J Ei J<|?_;exact rz J (by rw[UV,show n1=decide (b<0) from by simpa using hc13,mD];rfl)
 .
  refine cl J (JR (b:=b.natAbs) hi hj) J<|?_;refine bd J J J (fun hc30=>?_) (fun hc30=>?_)
  .
   refine cl J Ei J<|?_;exact rz J (by rw[VP (by simpa using hc13) hc30];rfl)
  .
   refine cl J (JR (a:=b.natAbs) hj hi) J<|cl J Ei J<|?_;exact rz J (by rw[R9 (by simpa using hc13) (by omega)];rfl)
def aFJ{a b:Int}{i j:Nat}[h:BI a i][k:BI b j](hi:i<=1000000000:=by decide)(hj:j<=1000000000:=by decide):PF GB prog 159 [eI a,eI b] (eI (a+b)):=(Zm (n1:=decide (a<0)) (u:=a.natAbs) hi hj).to (by rw[mD])
def jA(q:Rat):Prop:= ¬(q.num.natAbs<4611686018427387904/\q.den<4611686018427387904)
instance (q:Rat):Decidable (jA q):=inferInstanceAs (Decidable (¬_))
def ce(q:Rat):Int:=if jA q then 0 else q.num
def cg(q:Rat):Int:=if jA q then 0 else(q.den:Int)-1
def co(q:Rat):DV:= .op (decide (jA q)) [.v (.bool (decide (q.num<0))),dN q.num.natAbs,dN q.den]
def eF(q:Rat):DV:= .ag [vI (ce q),vI (cg q),co q]
abbrev WT {q:Rat} (h:decide (jA q)=true):jA q:=of_decide_eq_true h
abbrev s9 {q:Rat} (h:decide (jA q)=false): ¬jA q:=of_decide_eq_false h
abbrev Xe {q:Rat} (h: ¬decide (jA q)=false):jA q:=by simpa using h
abbrev o8 {q:Rat} (h: ¬decide (jA q)=true): ¬jA q:=by simpa using h
def nF{q:Rat}(h: ¬jA q):ce q=q.num:=if_neg h
def pO{q:Rat}(h: ¬jA q):cg q=(q.den:Int)-1:=if_neg h
def qO{q:Rat}(h: ¬jA q):q.num.natAbs<4611686018427387904:=(Decidable.not_not.1 h).1
def qq{q:Rat}(h: ¬jA q):q.den<4611686018427387904:=(Decidable.not_not.1 h).2
def HR{q:Rat}(h:jA q):q≠0:=fun e=>by subst e;exact h ⟨by decide,by decide⟩
def tL{q:Rat}{m d:Int}{r:DV}(h: ¬jA q)(h1:q.num=m)(h2:(q.den:Int)-1=d)(e:r= .ag [vI m,vI d, .v (.pointer none)])(G:Gh)(y:Value)(k:Is G r y):Is G (eF q) y:=by
 subst e h1 h2;obtain⟨l,rfl,g⟩:=d7.1 k;obtain⟨y1,l1,rfl,k1,g1⟩:=aH.1 g;obtain⟨y2,l2,rfl,k2,g2⟩:=aH.1 g1;obtain⟨y3,l3,rfl,k3,g3⟩:=aH.1 g2;exact d7.2 ⟨_,J, .cons (by rw[nF h];exact k1) (.cons (by rw[pO h];exact k2) (.cons (wo.2 (.inl ⟨decide_eq_false h,aD.1 k3⟩)) g3))⟩
def Lp{q:Rat}{n:Bool}{a d:Nat}{r:DV}(h:jA q)(h1:decide (q.num<0)=n)(h2:q.num.natAbs=a)(h3:q.den=d)(e:r= .ag [vI 0,vI 0, .pt [.v (.bool n),dN a,dN d]])(G:Gh)(y:Value)(k:Is G r y):Is G (eF q) y:=by
 subst e h1 h2 h3;obtain⟨l,rfl,g⟩:=d7.1 k;obtain⟨y1,l1,rfl,k1,g1⟩:=aH.1 g;obtain⟨y2,l2,rfl,k2,g2⟩:=aH.1 g1;obtain⟨y3,l3,rfl,k3,g3⟩:=aH.1 g2;exact d7.2 ⟨_,J, .cons (by unfold ce;rw[if_pos h];exact k1) (.cons (by unfold cg;rw[if_pos h];exact k2) (.cons (wo.2 (.inr ⟨decide_eq_true h,k3⟩)) g3))⟩
def AS(G:Gh)(y:Value)(k:Is G (.ag [vI 0,vI 0, .v (.pointer none)]) y):Is G (eF 0) y:=tL (fun h=>HR h J) J J J G y k
def RK{m:Int}(h:m.natAbs<4611686018427387904)(G:Gh)(y:Value)(k:Is G (.ag [vI m,vI 0, .v (.pointer none)]) y):Is G (eF (m:Rat)) y:=
 tL (fun k=>k ⟨by simpa using h,by rw[rQ];decide⟩) (qN m) (by rw[rQ];rfl) J G y k
def Kh{n:Bool}{a d:Nat}(hd:0<d):(mkRat (zv n a) d).num=zv n (a/Nat.gcd a d)/\(mkRat (zv n a) d).den=d/Nat.gcd a d:=by
 obtain⟨h1,h2⟩:=O' (m:=zv n a) hd;rw[sB] at h1 h2;exact⟨by rw[h1,aEK (mS _ _)],h2⟩
def Qk{n:Bool}{a d a' d':Nat}(hd:0<d)(ha:a'=a/Nat.gcd a d)(hd':d'=d/Nat.gcd a d)(h1:a'<4611686018427387904)(h2:d'<4611686018427387904)(G:Gh)(y:Value)(k:Is G (.ag [vI (zv n a'),vI ((d':Int)-1), .v (.pointer none)]) y):Is G (eF (mkRat (zv n a) d)) y:=by
 obtain⟨e1,e2⟩:=Kh (n:=n) (a:=a) hd;rw[<-ha] at e1;rw[<-hd'] at e2;exact tL (fun k=>k ⟨by rw[e1,sB];exact h1,by rw[e2];exact h2⟩) e1 (by rw[e2]) J G y k
def DR{n:Bool}{a d a' d':Nat}(hd:0<d)(ha:a'=a/Nat.gcd a d)(hd':d'=d/Nat.gcd a d)(h: ¬(a'<4611686018427387904/\d'<4611686018427387904))(G:Gh)(y:Value)(k:Is G (.ag [vI 0,vI 0, .pt [.v (.bool (decide (zv n a'<0))),dN (zv n a').natAbs,dN d']]) y):Is G (eF (mkRat (zv n a) d)) y:=by
 obtain⟨e1,e2⟩:=Kh (n:=n) (a:=a) hd;rw[<-ha] at e1;rw[<-hd'] at e2;exact Lp (fun k=>h ⟨by rw[e1,sB] at k;exact k.1,by rw[e2] at k;exact k.2⟩) (by rw[e1]) (by rw[e1]) e2 J G y k
def aJB{a d:Nat}(hd:0<d)(h: ¬(1:Int)<(bl (Nat.gcd a d):Nat)):Nat.gcd a d=1:=by
 have h1:Nat.gcd a d≠0:=fun e=>by rw[Nat.gcd_eq_zero_iff] at e;omega
 have h2:Nat.gcd a d<2^1:=oo.1 (by omega);omega
def nP{x:Nat}:(((bl x:Nat):Int)<=62)↔x<4611686018427387904:=aCM
def PF.ofI{P:Program}{f:FuncId}{ds ds':List DV}{r:DV}(h:PF GB P f ds r)(k: ∀G vs,IsLs G ds' vs->IsLs G ds vs):PF GB P f ds' r:=fun G vs hg hv=>h G vs hg (k G vs hv)
def vz{n:Bool}{a d i j:Nat}[h:BN a i][k:BN d j](hi:i<=450000000:=by decide)(hj:j<=450000000:=by decide):PF GB prog 149 [eS n a,dN d] (eF (mkRat (zv n a) d)):=by
 refine fn func149 J J ntmps149 J J (fun C=>?_);refine cl J (wl (a:=d) (by omega)) J<|?_;refine cs 13 J J J (fun hg13=>?_) (fun hg13=>?_)
 .
  exact jn rfl (by obtain rfl:=Jc.1 (Int.ofNat.inj hg13);rw[Rat.mkRat_zero];exact AS)
 .
  have hd0:0<d:=by have:= @Jc d;omega
  have hg0:0<Nat.gcd a d:=qT _ hd0;refine cl J (Mw (n:=n) (a:=a) (by omega)) J<|?_;refine br J J J (fun hc17=>?_) (fun hc17=>?_)
  .
   exact jn J (by rw[jW.1 hc17,Rat.zero_mkRat];exact AS)
  .
   refine cl J (MZ (a:=a) (b:=d) (by omega) (by omega)) J<|cl J (wl (a:=Nat.gcd a d) (i:=i+j) (by omega)) J<|?_;refine br J J J (fun hc25=>?_) (fun hc25=>?_)
   .
    obtain⟨a',ea⟩: ∃a',a'=a/Nat.gcd a d:=⟨_,rfl⟩;obtain⟨d',ed⟩: ∃d',d'=d/Nat.gcd a d:=⟨_,rfl⟩;have hba:BN a' i:=ea▸inferInstance;have hbd:BN d' j:=ed▸inferInstance;refine cl (fu:=⟨2⟩) J (Ra (a:=a) (b:=Nat.gcd a d) (j:=i+j) hg0 (by omega) (by omega)) J<|?_;refine aj 31 (.d (dN a')) J (by rw[ea]) ?_;refine gx J<|cl (fu:=⟨2⟩) J (Ra (a:=d) (b:=Nat.gcd a d) (j:=i+j) hg0 (by omega) (by omega)) J<|?_;refine aj 39 (.d (dN d')) J (by rw[ed]) ?_;refine gx J<|cl J (wl (h:=hba) (by omega)) J<|?_;refine cs 46 J J J (fun hg46=>?_) (fun hg46=>?_)
    .
     refine cl J (wl (h:=hbd) (by omega)) J<|?_;refine br J J J (fun hc50=>?_) (fun hc50=>?_)
     .
      have hs2:=nP.1 hc50;refine cl J (Ke (nP.1 hg46)) J<|cl J (EA (by have:=nP.1 hc50;omega)) J<|?_;exact jn J (Qk hd0 ea ed (nP.1 hg46) (nP.1 hc50))
     .
      refine cl J (xB (neg:=n) (h:=hba) (by omega)) J<|cl J (x9 (h:=hbd) (by omega)) J<|fz 71 J J<|?_;exact jn J (DR hd0 ea ed (fun e=>hc50 (nP.2 e.2)))
    .
     refine cl J (xB (neg:=n) (h:=hba) (by omega)) J<|cl J (x9 (h:=hbd) (by omega)) J<|fz 71 J J<|?_;exact jn J (DR hd0 ea ed (fun e=>hg46 (nP.2 e.1)))
   .
    have hg1:=aJB hd0 hc25;have ea:a=a/Nat.gcd a d:=by rw[hg1,tK]
    have ed:d=d/Nat.gcd a d:=by rw[hg1,tK]
    have hba:=h;have hbd:=k;refine cl J (wl (h:=hba) (by omega)) J<|?_;refine cs 46 J J J (fun hg46=>?_) (fun hg46=>?_)
    .
     refine cl J (wl (h:=hbd) (by omega)) J<|?_;refine br J J J (fun hc50=>?_) (fun hc50=>?_)
     .
      have hs2:=nP.1 hc50;refine cl J (Ke (nP.1 hg46)) J<|cl J (EA (by have:=nP.1 hc50;omega)) J<|?_;exact jn J (Qk hd0 ea ed (nP.1 hg46) (nP.1 hc50))
     .
      refine cl J (xB (neg:=n) (h:=hba) (by omega)) J<|cl J (x9 (h:=hbd) (by omega)) J<|fz 71 J J<|?_;exact jn J (DR hd0 ea ed (fun e=>hc50 (nP.2 e.2)))
    .
     refine cl J (xB (neg:=n) (h:=hba) (by omega)) J<|cl J (x9 (h:=hbd) (by omega)) J<|fz 71 J J<|?_;exact jn J (DR hd0 ea ed (fun e=>hg46 (nP.2 e.1)))
def tC{m:Int}{i:Nat}[h:BI m i](hi:i<=400000000:=by decide):PF GB prog 222 [eI m] (eF (m:Rat)):=by
 refine fn func222 J J ntmps222 J J (fun C=>?_);refine rf (fu:=⟨0⟩) J J<|?_;refine aj 4 (.d (dN 1)) J (by unfold dN;rw[Ar];rfl) ?_;refine gx J<|cl J (vz (n:=decide (m<0)) (a:=m.natAbs) (d:=1) (by omega)) J<|?_;exact rz J (by rw[mD,show mkRat m 1=(m:Rat) from sX ..];rfl)
def wU{q:Rat}:PF GB prog 199 [eF q] (vB (decide (q=0))):=by
 refine fn func199 J J ntmps199 J J (fun C=>?_);refine cs 6 J J J (fun hg6=>?_) (fun hg6=>?_)
 .
  exact rz J (by rw[nF (s9 hg6)];show DV.v (.bool (decide _))= .v (.bool _);congr 2;exact decide_eq_decide.2 ⟨fun e=>pQ.1 e,fun e=>by rw[e];rfl⟩)
 .
  exact rz J (by rw[decide_eq_false (HR (Xe hg6))];rfl)
def yU{m:Int}(h:m.natAbs<9223372036854775808):PF GB prog 213 [vI m] (.v (.int .u64 (m.natAbs:Nat))):=by
 refine fn func213 J J ntmps213 J J (fun C=>?_);refine br J J J (fun hc4=>?_) (fun hc4=>?_)
 .
  exact rz J (by show DV.v (.int _ _)=_;congr 2;omega)
 .
  exact rz J (by show DV.v (.int _ _)=_;congr 2;omega)
def qH{q:Rat}{i:Nat}[h:BQ q i](hi:i<=900000000:=by decide):PF GB prog 101 [eF q] (dN q.den):=by
 refine fn func101 J J ntmps101 J J (fun C=>?_);refine br (v1:=fun hc5=>by simp only[ac];exact hc5) (fu2:=⟨6⟩) J J J (fun hc5=>?_) (fun hc5=>?_)
 .
  refine cl J (x9 (a:=q.den) (by omega)) J<|?_;exact rz J J
 .
  have hd:=q.den_nz;have hs:=qq (o8 hc5);refine aj 13 (.d (vI ((q.den:Int)-1))) J (by rw[pO (o8 hc5)]) ?_;refine gx (fu:=⟨2⟩) J<|?_;refine aj 15 (.d (.v (.int .u64 (q.den:Nat)))) J (by congr 3;omega) ?_;refine gx J<|cl J (Hr (a:=q.den) (by omega)) J<|?_;exact rz J J
def rh{q:Rat}{i:Nat}[h:BQ q i](hi:i<=900000000:=by decide):PF GB prog 100 [eF q] (eI q.num):=by
 refine fn func100 J J ntmps100 J J (fun C=>?_);refine br (v1:=fun hc5=>by simp only[ac];exact hc5) (fu2:=⟨6⟩) J J J (fun hc5=>?_) (fun hc5=>?_)
 .
  refine cl J (xB (neg:=decide (q.num<0)) (a:=q.num.natAbs) (by omega)) J<|?_;exact rz J (by rw[mD];rfl)
 .
  have hs:=qO (o8 hc5);refine aj 13 (.d (vI q.num)) J (by rw[nF (o8 hc5)]) ?_;refine gx J<|cl J (F6 (by omega) (by omega)) J<|?_;exact rz J J
def uY{q:Rat}{i:Nat}[h:BQ q i](hi:i<=900000000:=by decide):PF GB prog 196 [eF q] (eF (-q)):=by
 refine fn func196 J J ntmps196 J J (fun C=>?_);refine br (v1:=fun hc5=>by simp only[ac];exact hc5) (fu2:=⟨6⟩) J J J (fun hc5=>?_) (fun hc5=>?_)
 .
  refine cl (fu:=⟨6⟩) (hv:=by simp only[ac];exact hc5) J (VF (m:=q.num) (by omega)) J<|GT J J<|?_;exact jn J (Lp (q:= -q) (fun k=>WT hc5 (by rw[oY,iS,sY] at k;exact k)) (by rw[oY]) (by rw[oY]) (sY q) J)
 .
  have hs:=qO (o8 hc5);refine aj 21 (.d (vI q.num)) J (by rw[nF (o8 hc5)]) ?_;refine gx J<|?_;exact jn J (tL (q:= -q) (fun k=>k (by rw[oY,iS,sY];exact⟨hs,qq (o8 hc5)⟩)) (by rw[oY]) (by rw[sY,pO (o8 hc5)]) J)
def po{q:Rat}{i:Nat}[h:BQ q i](hi:i<=900000000:=by decide):PF GB prog 145 [eF q] (vI q.num.sign):=by
 refine fn func145 J J ntmps145 J J (fun C=>?_);refine br (v1:=fun hc3=>by simp only[ac];exact hc3) J J J (fun hc3=>?_) (fun hc3=>?_)
 .
  refine cl J (Mw (n:=decide (q.num<0)) (a:=q.num.natAbs) (by omega)) J<|?_;exact rz J (by rw[mD];rfl)
 .
  have hs:=nF (o8 hc3);refine br J J J (fun hc13=>?_) (fun hc13=>?_)
  .
   exact rz J (by rw[fM (by omega)];rfl)
  .
   refine br J J J (fun hc17=>?_) (fun hc17=>?_)
   .
    exact rz J (by rw[iZ (by omega)];rfl)
   .
    exact rz J (by rw[show q.num=0 by omega];rfl)
def TB{h l y:Nat}(hh:h<y)(hl:l<4294967296)(hy:y<4294967296):PF GB prog 173 [.v (.int .u32 (h:Int)), .v (.int .u32 (l:Int)), .v (.int .u32 (y:Int))] (.tp [dU ((h*4294967296+l)/y),dU ((h*4294967296+l)%y)]):=by
 refine fn (fu:=⟨11⟩) func173 J J ntmps173 J J (fun C=>?_);refine kT 10 J (by omega) ?_;refine gx (fu:=⟨4⟩) J<|?_;refine kF 14 J (by omega) ?_;refine gx (fu:=⟨11⟩) (hv:=by simp only[ac];exact⟨by omega,(by decide)⟩) J<|?_;refine aj 19 (.d (.v (.int .u64 (h*2^32:Nat)))) J (by show FX.d (.v (.int _ _))= .d (.v (.int _ _));rw[sj _ 32 (by decide) (by show _*4294967296<_;omega) J]) ?_;refine gx (fu:=⟨3⟩) J<|?_;refine aj 22 (.d (.v (.int .u64 (l+h*2^32:Nat)))) J (congrArg (fun z:Nat=>FX.d (.v (.int .u64 (z:Int)))) (by rw[BitVec.or_comm];exact yu 64 l h 32 hl (by show _+_*4294967296<18446744073709551616;omega))) ?_;obtain⟨t,ht⟩: ∃t,t=h*4294967296+l:=⟨_,rfl⟩;have hq:t/y<4294967296:=by rw[kV (by omega)];have:=dS 4294967296 (show h+1<=y from hh);omega
 have hr:t%y<y:=dQ _ (by omega);refine aj 22 (.d (.v (.int .u64 (t:Nat)))) J (by show FX.d (.v (.int _ _))= .d (.v (.int _ _));congr 3;rw[ht];omega) ?_;refine gx (hv:=by simp only[ac];exact⟨⟨⟨⟨by omega,⟨(by omega),(by omega),(by omega)⟩⟩,by omega⟩,⟨(by omega),(by omega)⟩⟩,by kernel_rfl⟩) J<|?_;exact rz J (by show DV.tp [.v (.int _ _), .v (.int _ _)]= .tp [.v (.int _ _), .v (.int _ _)];rw[<-ht,<-qZ,<-oZ];generalize t/y=q at*;generalize t%y=r at*;congr 4<;>(first|omega|(congr 3;omega)))
def X4{A r i b:Nat}(d:Nat)(hb:0<b):(A*4294967296+d)/b=A/b*4294967296+(A%b*4294967296+d)/b/\(A*4294967296+d)%b=(A%b*4294967296+d)%b:=by
 have h:=qL A b;have e:A*4294967296+d=(A%b*4294967296+d)+b*(A/b*4294967296):=by
  rw[<-cX,Nat.add_right_comm,<-cS,jY (A%b),h]
 rw[e,mQ _ _ hb,nJ];exact⟨jY _ _,J⟩
def LE{ds:List Nat}{i:Nat}(h:i<ds.length):dv (ds.drop i)=dv (ds.drop (i+1))*4294967296+ds.getD i 0:=by
 rw[bX h,aX,aZ h];simp only[dv,lU];omega
def Lc{W:List Nat}{i q:Nat}(h:i<W.length):dv ((W.set i q).drop i)=dv (W.drop (i+1))*4294967296+q:=by
 rw[LE (by rw[bQ];exact h),sN (by omega),KC h]
def avn{a b k:Nat}{W:List Nat}(hb:0<b)(hk:k<(dg a).length)(hl:W.length=(dg a).length)(h:dv (W.drop (k+1))=dv ((dg a).drop (k+1))/b):
  dv ((W.set k ((dv ((dg a).drop (k+1))%b*4294967296+(dg a).getD k 0)/b)).drop k)=dv ((dg a).drop k)/b/\dv ((dg a).drop k)%b=(dv ((dg a).drop (k+1))%b*4294967296+(dg a).getD k 0)%b:=by
 have:=X4 (A:=dv ((dg a).drop (k+1))) (r:=0) (i:=0) ((dg a).getD k 0) hb;rw[Lc (by omega),h,LE hk,this.1,this.2];exact⟨J,J⟩
def xz{a b:Nat}:gy a b<0↔a<b:=by unfold gy;split<;>(try split)<;>omega
def zj{a b:Nat}:0<gy a b↔b<a:=by unfold gy;split<;>(try split)<;>omega
def ZD{x:Nat}(hx:x<4294967296):PF GB prog 231 [dU x] (vI (32-(bl x:Int))):=by
 intro G vs hg hv;obtain⟨v,m,rfl,h1,h2⟩:=aH.1 hv;rw[er] at h2;subst h2;rw[aD.1 h1];exact(EW hx).mono fun v G' _ h=>aD.2 h
def N5{a k:Nat}(h:4294967296^k<=a):k<(dg a).length:=by
 have h1:=vq a;rcases iR k (dg a).length with q|q
 ·exact q
 ·have:4294967296^(dg a).length<=4294967296^k:=bY (by decide) q
  omega
def JI{v L:Nat}(hL:L=(dg v).length)(h1:1<=L):(dg v).getD (L-1) 0=v/4294967296^(L-1)/\0<v/4294967296^(L-1):=by
 have h:=GJ (kI v) (L-1);rw[vk (by omega:(dg v).length<=L-1+1),cd,pL,eY] at h;have h2:=vq v;rw[<-hL] at h2;rw[kZ (show v<4294967296^(L-1+2) from dJ h2 (bY (by decide) (by omega))),pL,eY] at h;have h3:=r4 (eo v).2.2 (by intro e;rw[e] at hL;simp at hL;omega);rw[cd,<-hL] at h3;exact⟨h.symm,Nat.div_pos h3 (fZ (by decide))⟩
def F3{R n:Nat}(h1:1<=n)(h:R<4294967296^(n+1)):R/4294967296^(n-1)=(dg R).getD (n-1) 0+(dg R).getD n 0*4294967296:=by
 have e:=GJ (kI R) (n-1);rw[cd,show n-1+1=n by omega,kZ (show R<4294967296^(n-1+2) by rwa [show n-1+2=n+1 by omega]),pL,eY,cZ] at e;exact e
def ay4{R v j L:Nat}(hL:L=(dg v).length)(h1:1<=L)(hR:R<v*4294967296^(j+1)):R/(v*4294967296^j)<=min (R/4294967296^(L+j-1)/(v/4294967296^(L-1))) 4294967295:=by
 have ht:=(JI hL h1).2;have hp:0<4294967296^j:=fZ (by decide);have hv0:0<v:=by
  rcases fR v with q|q
  ·subst q;simp at ht
  ·exact q
 have hvp:0<v*4294967296^j:=iJ hv0 hp;refine Nat.le_min.2 ⟨?_,?_⟩
 ·rw[rN ht,rN (fZ (by decide))]
  have h3:v/4294967296^(L-1)*4294967296^(L-1)<=v:=Nat.div_mul_le_self _ _;have h4:R/(v*4294967296^j)*(v*4294967296^j)<=R:=Nat.div_mul_le_self _ _;rw[show L+j-1=L-1+j by omega,eJ]
  calc R/(v*4294967296^j)*(v/4294967296^(L-1))*(4294967296^(L-1)*4294967296^j)
    =R/(v*4294967296^j)*((v/4294967296^(L-1)*4294967296^(L-1))*4294967296^j):=by simp only[cX]
   _<=R/(v*4294967296^j)*(v*4294967296^j):=dS _ (bK _ h3)
   _<=R:=h4
 ·have:R/(v*4294967296^j)<4294967296:=by
   rw[kV hvp];rw[fV] at hR;rwa [cZ,cX]
  omega
def BU{R V g:Nat}(hV:0<V)(h:R<V*g):R/V<g:=by
 rw[kV hV,cZ];exact h
def S1{R V g:Nat}(hV:0<V)(h1:R/V<=g)(h2:V*g<=R):g=R/V:=by
 have:g<=R/V:=by rw[rN hV,cZ];exact h2
 omega
def Rt{R0 R v j g:Nat}{W:List Nat}(hj:j<W.length)(h:R0=R+dv (W.drop (j+1))*4294967296^(j+1)*v)(hv:0<v*4294967296^j)(hg:g=R/(v*4294967296^j)):
  R0=(R-v*4294967296^j*g)+dv ((W.set j g).drop j)*4294967296^j*v/\R-v*4294967296^j*g<v*4294967296^j:=by
 have h1:=qL R (v*4294967296^j);have h2:=dQ R hv;rw[<-hg] at h1;refine⟨?_,by omega⟩;rw[Lc hj,cS,cS,h,fV];have e:g*4294967296^j*v=v*4294967296^j*g:=by simp only[cX,lX,cZ]
 have e2:dv (W.drop (j+1))*(4294967296^j*4294967296)*v=dv (W.drop (j+1))*4294967296*4294967296^j*v:=by simp only[cX,lX,cZ]
 rw[e,e2];omega
def Xq{a b s R:Nat}{D:Nat}(hR:R<b*2^s)(h:a*2^s=R+D*(b*2^s)):D=a/b/\R/2^s=a%b:=by
 have hp:0<2^s:=fZ (by decide);have hb:0<b:=by
  rcases fR b with q|q
  ·subst q;simp at hR
  ·exact q
 have h1:a=R/2^s+D*b:=by
  have:=congrArg (· /2^s) h;rw[Nat.mul_div_cancel _ hp,<-cX,Nat.add_mul_div_right _ _ hp] at this;exact this
 have h2:R/2^s<b:=by rw[kV hp];exact hR
 have h3:R/2^s+b*D=a:=by rw[cZ b];exact h1.symm
 have:=(Nat.div_mod_unique hb).2 ⟨h3,h2⟩;exact⟨this.1.symm,this.2.symm⟩
def U5{a b s:Nat}(hl:(dg b).length<=(dg a).length)(h2:1<=(dg b).length):a*2^s<b*2^s*4294967296^((dg a).length-(dg b).length+1):=by
 have h1:=vq a;have h3:=r4 (eo b).2.2 (by intro e;rw[e] at h2;simp at h2);rw[cd] at h3;have h4:4294967296^(dg a).length<=b*4294967296^((dg a).length-(dg b).length+1):=by
  rw[show(dg a).length=((dg b).length-1)+((dg a).length-(dg b).length+1) by omega,eJ];rw[show(dg b).length-1+((dg a).length-(dg b).length+1)-(dg b).length+1=(dg a).length-(dg b).length+1 by omega];exact bK _ h3
 rw[rX];exact kN (dJ h1 h4) (fZ (by decide))
def M2(x j:Nat):x*2^(32*j)=x*4294967296^j:=by rw[pT]
def aBh{R L j:Nat}(h:R<4294967296^(L+j+1))(h1:1<=L):R/4294967296^(L+j-1)<18446744073709551616:=by
 rw[kV (fZ (by decide)),show(18446744073709551616:Nat)=4294967296^2 from J,<-eJ];rwa [show 2+(L+j-1)=L+j+1 by omega]
def VR{R v j L:Nat}(hL:L=(dg v).length)(hR:R<v*4294967296^(j+1)):R<4294967296^(L+j+1):=by
 have h:=vq v;rw[<-hL] at h;rw[jN,eJ];exact dJ hR (bK _ (lL h))
def Wb{a b ia ib:Nat}[ha:BN a ia][hb:BN b ib](hi:ia<=500000000)(hj:ib<=500000000)(h2:1<=(dg b).length)(hl:(dg b).length<=(dg a).length):PF GB prog 174 [dN a,dN b] (.tp [dN (a/b),dN (a%b)]):=by
 have hla:=fi (dg a);have hlb:=fi (dg b);have hba:=lB ha.h;have hba':(dg a).length<=20000000:=by omega
 refine fn func174 J J ntmps174 J J (fun C=>?_);refine ix _ J (gz (k:=(dg b).length-1) (by omega) (by omega)) J<|cl (fu:=⟨0⟩) J (ZD (ig b ((dg b).length-1))) J<|?_;obtain⟨s,hs⟩: ∃s:Nat,s=32-bl ((dg b).getD ((dg b).length-1) 0):=⟨_,rfl⟩;have hs32:s<=32:=by omega
 refine aj 22 (.d (vI (s:Nat))) J (by show FX.d (.v (.int _ _))= .d (.v (.int _ _));congr 3;have:=oo.2 (show(dg b).getD ((dg b).length-1) 0<2^32 from ig b _);omega) ?_;refine gx J<|cl J (Eh (a:=b) (k:=s) (ia:=ib) (by omega) (by omega)) J<|cl (fu:=⟨0⟩) J (Eh (a:=a) (k:=s) (ia:=ia) (by omega) (by omega)) J<|?_;obtain⟨v,hv⟩: ∃v,v=b*2^s:=⟨_,rfl⟩;obtain⟨R0,hR0⟩: ∃R0,R0=a*2^s:=⟨_,rfl⟩;refine aj 25 (.d (dN v)) J (by rw[hv]) ?_;refine aj 28 (.d (dN R0)) J (by rw[hR0]) ?_;obtain⟨L,hL⟩: ∃L,L=(dg v).length:=⟨_,rfl⟩;have hlv:((dg v).map dU).length=L:=by rw[fi,hL]
 have hps:2^s<=2^32:=bY (by decide) hs32;have hpp:0<2^s:=fZ (by decide);have hst:=U5 (a:=a) (b:=b) (s:=s) hl h2;rw[<-hv,<-hR0] at hst;have hvb:v<2^(ib+32):=by rw[hv,eJ];exact mN hb.h hps (by decide)
 have hRb:R0<2^(ia+32):=by rw[hR0,eJ];exact mN ha.h hps (by decide)
 have hbp:0<b:=iM (fun q=>by subst q;rw[yr] at h2;simp at h2);have hvp:0<v:=hv▸iJ hbp hpp;have hLp:1<=L:=by rw[hL];exact N5 (k:=0) (by rw[rU];exact hvp)
 have htop:=JI hL hLp;haveI hvB:BN v (ib+32):=⟨hvb⟩;have hLb:=lB hvb;have hLb':L<=20000000:=by omega
 have htl:=ig v (L-1);refine gx (fu:=⟨9⟩) J<|?_;refine aj 31 (.d (vI (L:Nat))) J (by rw[hlv];rfl) ?_;refine gx J<|ix (fu:=⟨2⟩) _ J (gz (k:=L-1) (by omega) (by omega)) J<|?_;refine aj 35 (.d (.v (.int .u64 (v/4294967296^(L-1):Nat)))) J (by rw[htop.1]) ?_;rw[htop.1] at htl;refine gx (fu:=⟨11⟩) J<|?_;obtain⟨m,hm⟩: ∃m,m=(dg a).length-(dg b).length+1:=⟨_,rfl⟩;rw[<-hm] at hst;have hrl:(List.replicate ((m:Nat):Int).toNat (DV.v (.int .u32 0))).length=m:=by rw[aU,aM]
 refine aj 41 (.d (vI (m:Nat))) J (by show FX.d (.v (.int _ _))= .d (.v (.int _ _));congr 3;omega) ?_;refine gx J<|mk ((List.replicate m 0).map dU) J J (by rw[<-vD];rfl) J<|?_;refine lp (X:=List Nat×Nat×Nat) (fun⟨W,R,k⟩=>[(6, .d (vI (s:Nat))),(7, .d (dN v)),(8, .d (dN R)),(9, .d (.v (.int .u64 (v/4294967296^(L-1):Nat)))),(10, .rw 42),(11, .d (vI ((k:Nat)-1)))]) (fun⟨W,R,k⟩=>[(42,some (.b 215 1 (W.map dU) true))]) (fun⟨W,R,k⟩=>W.length=m/\bp W/\k<=m/\R0=R+dv (W.drop k)*4294967296^k*v/\R<v*4294967296^k/\R<=R0) (fun⟨W,R,k⟩=>k) ⟨List.replicate m 0,R0,m⟩ J ⟨by simp, .replicate _,aN _,by simp[dv],hst,aN _⟩ (fun _=>J) (fun⟨W,R,k⟩ hk=>?_);dsimp only at hk⊢;obtain⟨h1,h2',h3,h4,h5,h6⟩:=hk;have hlw:=fi W;refine br (fu1:=⟨10⟩) J J J (fun hc47=>?_) (fun hc47=>?_)
 .
  obtain⟨j,rfl⟩: ∃j,k=j+1:=⟨k-1,by omega⟩;have hvj:0<v*4294967296^j:=iJ hvp (fZ (by decide));have hge:=ay4 hL hLp h5;have hlen:=VR hL h5;have hlr:((dg R).map dU).length=(dg R).length:=fi _;haveI hRB:BN R (ia+32):=⟨by omega⟩;have hq32:R/(v*4294967296^j)<4294967296:=by omega
  have hz1:=rJ (R/4294967296^(L+j-1));have hz2:=rJ (R/4294967296^(L+j-1)/(v/4294967296^(L-1)));refine aj 11 (.d (vI (j:Nat))) J (by show FX.d (.v (.int _ _))= .d (.v (.int _ _));congr 3;omega) ?_;refine mg (fu:=⟨6⟩) (hv:=fun _ _=>by simp only[ac];exact⟨(by omega),(by have:=aBh hlen hLp;omega),(by omega)⟩) (X:=Unit) (fun _=>[(6, .d (vI (s:Nat))),(7, .d (dN v)),(8, .d (dN R)),(9, .d (.v (.int .u64 (v/4294967296^(L-1):Nat)))),(10, .rw 42),(11, .d (vI (j:Nat))),(12, .d (.v (.int .u64 (R/4294967296^(L+j-1):Nat))))]) (fun _=>[(42,some (.b 215 1 (W.map dU) true))]) (fun _=>True) [6,7,8,9,10,11,12] [42] rfl ?_ (fun _=>J) (fun _ hm=>?_)
  .
   refine gx (fu:=⟨4⟩) J<|?_;refine aj 51 (.d (vI (L:Nat))) J (by rw[hlv];rfl) ?_;refine gx (fu:=⟨2⟩) J<|?_;refine aj 53 (.d (vI (L+j:Nat))) J (by show FX.d (.v (.int _ _))= .d (.v (.int _ _));congr 3) ?_;refine gx (fu:=⟨8⟩) J<|?_;refine aj 56 (.d (vI ((dg R).length:Nat))) J (by rw[hlr];rfl) ?_;refine gx J<|?_;refine br (fu2:=⟨6⟩) J J J (fun hc57=>?_) (fun hc57=>?_)
   .
    have hd0:=ig R (L+j-1);have hd1:=ig R (L+j);refine ix (hv:=by simp only[ac];exact⟨⟨by omega,(by decide)⟩,by omega⟩) _ J (gz (k:=L+j) (by omega) (by omega)) J<|ix (fu:=⟨3⟩) _ J (gz (k:=L+j-1) (by omega) (by omega)) J<|?_;refine aj 70 (.d (.v (.int .u64 ((dg R).getD (L+j-1) 0+(dg R).getD (L+j) 0*4294967296:Nat)))) J (congrArg (fun z:Nat=>FX.d (.v (.int .u64 (z:Int)))) (by rw[sj _ 32 (by decide) (by show _*4294967296<_;omega) J,BitVec.or_comm];exact yu 64 ((dg R).getD (L+j-1) 0) ((dg R).getD (L+j) 0) 32 hd0 (by show _+_*4294967296<18446744073709551616;omega))) ?_;refine gx J<|?_;refine aj 12 (.d (.v (.int .u64 (R/4294967296^(L+j-1):Nat)))) J (by rw[F3 (by omega) hlen]) ?_;exact at_ () trivial
   .
    refine aj 74 (.d (vI ((dg R).length:Nat))) J (by rw[hlr];rfl) ?_;refine gx J<|?_;refine br J J J (fun hc75=>?_) (fun hc75=>?_)
    .
     have hd0:=ig R (L+j-1);refine ix _ J (gz (k:=L+j-1) (by omega) (by omega)) J<|?_;refine aj 12 (.d (.v (.int .u64 (R/4294967296^(L+j-1):Nat)))) J (by rw[F3 (by omega) hlen,vk (by omega:(dg R).length<=L+j),kY,eY]) ?_;exact at_ () trivial
    .
     refine aj 12 (.d (.v (.int .u64 (R/4294967296^(L+j-1):Nat)))) J (by rw[F3 (by omega) hlen,vk (by omega:(dg R).length<=L+j),vk (by omega:(dg R).length<=L+j-1)];rfl) ?_;exact at_ () trivial
  .
   obtain⟨g0,hg0'⟩: ∃g0,g0=min (R/4294967296^(L+j-1)/(v/4294967296^(L-1))) 4294967295:=⟨_,rfl⟩;rw[<-hg0'] at hge;have hg0:=hge;have hg1:g0<=4294967295:=by omega
   refine aj 85 (.d (.v (.int .u64 (g0:Nat)))) J (by show FX.d (.v (.int _ _))= .d (.v (.int _ _));congr 3;rw[<-qZ];split<;>omega) ?_;refine gx J<|cl J (t6 (u:=g0) (by omega)) J<|cl (fu:=⟨2⟩) J (sC (ia:=ib+32) (ib:=32) (hb:=⟨by show _<4294967296;omega⟩) (by omega) (by decide)) J<|?_;refine aj 91 (.d (vI (32*j:Nat))) J (by show FX.d (.v (.int _ _))= .d (.v (.int _ _));congr 3) ?_;refine gx J<|cl (fu:=⟨0⟩) J (Eh (k:=32*j) (ia:=ib+64) (ha:=⟨by rw[show ib+64=ib+32+32 by omega,eJ];exact oX hvb (by show _<4294967296;omega)⟩) (by omega) (by omega)) J<|?_;refine aj 92 (.d (dN (v*4294967296^j*g0))) J (by rw[M2,rX]) ?_;refine gx J<|?_;refine lp (X:=Nat) (fun g=>[(6, .d (vI (s:Nat))),(7, .d (dN v)),(8, .d (dN R)),(9, .d (.v (.int .u64 (v/4294967296^(L-1):Nat)))),(10, .rw 42),(11, .d (vI (j:Nat))),(14, .d (.v (.int .u64 (g:Nat)))),(15, .d (dN (v*4294967296^j*g)))]) (fun g=>[(42,some (.b 215 1 (W.map dU) true))]) (fun g=>R/(v*4294967296^j)<=g/\g<=4294967295) (fun g=>g) g0 J ⟨hg0,by omega⟩ (fun _=>J) (fun g hk=>?_);obtain⟨g1,g2⟩:=hk;have hlw:=fi W;refine cl J (y9 (a:=v*4294967296^j*g) (b:=R) (by have:=Ef (a:=v*4294967296^j*g) (k:=L+j+1) (by have h1:=vq v;rw[<-hL] at h1;rw[fV,eJ];exact oX (kN h1 (fZ (by decide))) (by omega));omega) (by have:=Ef hlen;omega)) J<|?_;refine br (fu1:=⟨7⟩) (v1:=fun hc96=>by simp only[ac];exact(by have h:=BU hvj (zj.1 hc96);have h1:1<=g:=fJ (bJ _) h;omega)) (fu2:=⟨11⟩) J J J (fun hc96=>?_) (fun hc96=>?_)
   .
    have hgd:=BU hvj (zj.1 hc96);have hg1p:1<=g:=fJ (bJ _) hgd;refine aj 98 (.d (.v (.int .u64 ((g-1:Nat):Int)))) J (by show FX.d (.v (.int _ _))= .d (.v (.int _ _));congr 3;omega) ?_;refine gx J<|cl J (t6 (u:=g-1) (by omega)) J<|cl (fu:=⟨2⟩) J (sC (ia:=ib+32) (ib:=32) (hb:=⟨by show _<4294967296;omega⟩) (by omega) (by decide)) J<|?_;refine aj 104 (.d (vI (32*j:Nat))) J (by show FX.d (.v (.int _ _))= .d (.v (.int _ _));congr 3) ?_;refine gx J<|cl (fu:=⟨0⟩) J (Eh (k:=32*j) (ia:=ib+64) (ha:=⟨by rw[show ib+64=ib+32+32 by omega,eJ];exact oX hvb (by show _<4294967296;omega)⟩) (by omega) (by omega)) J<|?_;refine aj 105 (.d (dN (v*4294967296^j*(g-1)))) J (by rw[M2,rX]) ?_;refine gx J<|?_;exact at_ (g-1) ⟨⟨by have h:=BU hvj (zj.1 hc96);omega,by omega⟩,(by have:=BU hvj (zj.1 hc96);omega)⟩
   .
    have hgq:=S1 hvj g1 (sZ fun q=>hc96 (zj.2 q));refine aj 109 (.d (dU g)) J (by show FX.d (.v (.int _ _))= .d (.v (.int _ _));congr 3;omega) ?_;refine gx J<|sb _ ((W.set j (R/(v*4294967296^j))).map dU) J (gz (k:=j) (by omega) (by omega)) J (by(rw[<-hgq,aM,<-uP])<;>rfl) J<|?_;refine cl (fu:=⟨0⟩) J (Hv (a:=R) (b:=v*4294967296^j*g) (ia:=ia+32) (by rw[hgq];exact Nat.mul_div_le _ _) (by omega)) J<|?_;refine aj 113 (.d (dN (R-v*4294967296^j*(R/(v*4294967296^j))))) J (by rw[hgq]) ?_;refine gx J<|?_;exact at_ ⟨W.set j (R/(v*4294967296^j)),R-v*4294967296^j*(R/(v*4294967296^j)),j⟩ (by dsimp only;exact⟨⟨by simpa using h1,h2'.set _ (by omega),by omega,(Rt (by omega) h4 hvj J).1,(Rt (by omega) h4 hvj J).2,by omega⟩,(by omega)⟩)
 .
  obtain rfl:k=0:=by omega
  rw[rU,iX] at h5;rw[rU,iX,iQ,hR0,hv] at h4;rw[hv] at h5;have hend:=Xq h5 h4;haveI hRB:BN R (ia+32):=⟨by omega⟩;refine fz 42 J J<|cl J (sA (ds:=W) (by omega)) J<|cl J (XS (a:=R) (k:=s) (ia:=ia+32) (by omega) (by omega)) J<|?_;exact rz J (by show DV.tp [fA _,dN _]= .tp [dN _,dN _];rw[sG h2' hend.1,hend.2])
def VE{a b:Nat}(h:b<=a):(dg b).length<=(dg a).length:=Ef (fJ h (vq a))
def x6{a b ia ib:Nat}[ha:BN a ia][hb:BN b ib](hb0:0<b)(hi:ia<=500000000:=by decide)(hj:ib<=500000000:=by decide):PF GB prog 113 [dN a,dN b] (.tp [dN (a/b),dN (a%b)]):=by
 have hla:=fi (dg a);have hlb:=fi (dg b);have hba:=lB ha.h;have hbb:=lB hb.h;have hba':(dg a).length<=20000000:=by omega
 have hbb':(dg b).length<=20000000:=by omega
 have hlb1:1<=(dg b).length:=N5 (k:=0) (by rw[rU];exact hb0);refine fn (fu:=⟨7⟩) func113 J J ntmps113 J J (fun C=>?_);refine mg (X:=Unit) (fun _=>[(0, .d (dN a)),(1, .d (dN b))]) (fun _=>[]) (fun _=>True) [0,1] [] rfl ?_ (fun _=>J) (fun _ hm=>?_)
 .
  refine gx J<|cl J (Bg (a:=a) (ia:=ia) (by omega)) J<|?_;refine bd (fu1:=⟨0⟩) J J J (fun hc18=>?_) (fun hc18=>?_)
  .
   refine aj 6 (.d (.v (.int .u64 (a:Nat)))) J (by rw[if_pos hc18]) ?_;refine gx J<|cl J (Bg (a:=b) (ia:=ib) (by omega)) J<|?_;refine bd (fu1:=⟨0⟩) J J J (fun hc24=>?_) (fun hc24=>?_)
   .
    refine aj 8 (.d (.v (.int .u64 (b:Nat)))) J (by rw[if_pos hc24]) ?_;have hdl:=kR a b;have hml:=Nat.mod_le a b;refine gx (hv:=by simp only[ac];exact⟨(by omega),(by omega),(by omega)⟩) J<|cl (hv:=by simp only[ac];exact⟨(by omega),(by omega)⟩) J (t6 (u:=a/b) (by omega)) J<|cl J (t6 (u:=a%b) (by omega)) J<|?_;exact rz J J
   .
    exact at_ () trivial
  .
   exact at_ () trivial
 .
  refine cl J (y9 (by omega) (by omega)) J<|?_;refine br J J J (fun hc36=>?_) (fun hc36=>?_)
  .
   have hab:=xz.1 hc36;refine rH J J<|ap _ J J (vh _) J<|?_;refine i9 39 J ?_;exact rz J (by show DV.tp [_, .sl ([]++_)]= .tp [_,_];rw[kZ hab,fW hab,oE];rfl)
  .
   have hab:b<=a:=sZ fun q=>hc36 (xz.2 q);have hlab:(dg b).length<=(dg a).length:=VE hab;refine br (fu1:=⟨4⟩) J J J (fun hc42=>?_) (fun hc42=>?_)
   .
    have hb1:b<4294967296:=by have:=vq b;rw[show(dg b).length=1 by omega] at this;omega
    have hbd:(dg b).getD 0 0=b:=ya (by omega);refine aj 44 (.d (vI ((dg a).length:Nat))) J (by rw[hla];rfl) ?_;refine gx J<|mk (fu:=⟨13⟩) ((List.replicate (dg a).length 0).map dU) J J (by rw[<-vD];rfl) J<|?_;refine aj 47 (.d (vI ((dg a).length:Nat))) J (by rw[hla];rfl) ?_;refine gx J<|?_;refine lp (X:=List Nat×Nat) (fun⟨W,k⟩=>[(0, .d (dN a)),(1, .d (dN b)),(10, .rw 45),(11, .d (dU (dv ((dg a).drop k)%b))),(12, .d (vI ((k:Nat)-1)))]) (fun⟨W,k⟩=>[(45,some (.b 215 1 (W.map dU) true))]) (fun⟨W,k⟩=>W.length=(dg a).length/\bp W/\k<=(dg a).length/\dv (W.drop k)=dv ((dg a).drop k)/b) (fun⟨W,k⟩=>k) ⟨List.replicate (dg a).length 0,(dg a).length⟩ J ⟨by simp, .replicate _,aN _,by simp[dv]⟩ (fun _=>J) (fun⟨W,k⟩ hk=>?_) (hF:=(by refine⟨J,J,J,pE J (by simp[dv,dU]),pE J (by simp[vI]),?_⟩;repeat (first|exact trivial|refine And.intro J ?_)))
    try dsimp only at hk⊢
    obtain⟨h1,h2,h3,h4⟩:=hk;have hlw:=fi W;refine br (fu1:=⟨0⟩) J J J (fun hc50=>?_) (fun hc50=>?_)
    .
     obtain⟨k,rfl⟩: ∃j,k=j+1:=⟨k-1,by omega⟩;have hsi:=avn hb0 (by omega) h1 h4;have hrm:=dQ (dv ((dg a).drop (k+1))) hb0;have hdk:=ig a k;have hqd:(dv ((dg a).drop (k+1))%b*4294967296+(dg a).getD k 0)/b<4294967296:=by rw[kV hb0];have:=dS 4294967296 (show dv ((dg a).drop (k+1))%b+1<=b from hrm);omega
     refine aj 12 (.d (vI (k:Nat))) J (by show FX.d (.v (.int _ _))= .d (.v (.int _ _));congr 3;omega) ?_;refine gx J<|ix _ J (gz (k:=k) (by omega) (by omega)) J<|ix _ J (gz (k:=0) J (by omega)) J<|cl J (TB (h:=dv ((dg a).drop (k+1))%b) (l:=(dg a).getD k 0) (y:=(dg b).getD 0 0) (by omega) hdk (by omega)) J<|?_;refine sb (hv:=by simp only[ac];exact⟨by kernel_rfl,by omega⟩) _ ((W.set k ((dv ((dg a).drop (k+1))%b*4294967296+(dg a).getD k 0)/b)).map dU) J (gz (k:=k) (by omega) (by omega)) J (by(rw[hbd,aM,<-uP])<;>rfl) J<|?_;exact at_ ⟨W.set k ((dv ((dg a).drop (k+1))%b*4294967296+(dg a).getD k 0)/b),k⟩ (by dsimp only;exact⟨⟨by simpa using h1,h2.set _ hqd,by omega,hsi.1⟩,(by omega)⟩) (by refine⟨J,J,J,pE J (by rw[hsi.2,hbd]),pE J (by first|(simp[vI];done)|(simp[vI];omega)),?_⟩;repeat (first|exact trivial|refine And.intro J ?_))
    .
     refine fz 45 J J<|cl J (sA (ds:=W) (by omega)) J<|rf J J<|cl J (sA (ds:=[dv ((dg a).drop k)%b]) (by simp)) J<|?_;exact rz rfl (by show DV.tp [fA _,fA _]= .tp [_,_];obtain rfl:k=0:=(by omega);rw[iQ,iQ,cd] at h4;rw[iQ,cd];rw[sG h2 h4,sG (.cons (by have:=dQ a hb0;omega) .nil) (n:=a%b) (by simp[dv])])
   .
    refine cl J (Wb (by omega) (by omega) hlb1 hlab) J<|?_;exact rz J J
def Lr(x y:Nat):Nat.gcd y (x%y)=Nat.gcd x y:=by rw[jZ x y,tJ y x,jZ]
def IB{a b ia ib:Nat}[ha:BN a ia][hb:BN b ib](hi:ia<=240000000:=by decide)(hj:ib<=240000000:=by decide):PF GB prog 111 [dN a,dN b] (dN (Nat.gcd a b)):=by
 refine fn (fu:=⟨6⟩) func111 J J ntmps111 J J (fun C=>?_);refine mg (X:=Unit) (fun _=>[(0, .d (dN a)),(1, .d (dN b))]) (fun _=>[]) (fun _=>True) [0,1] [] rfl ?_ (fun _=>J) (fun _ hm=>?_)
 .
  refine gx J<|cl J (Bg (a:=a) (ia:=ia) (by omega)) J<|?_;refine bd (fu1:=⟨0⟩) J J J (fun hc16=>?_) (fun hc16=>?_)
  .
   refine aj 5 (.d (.v (.int .u64 (a:Nat)))) J (by rw[if_pos hc16]) ?_;refine gx J<|cl J (Bg (a:=b) (ia:=ib) (by omega)) J<|?_;refine bd (fu1:=⟨0⟩) J J J (fun hc22=>?_) (fun hc22=>?_)
   .
    refine aj 7 (.d (.v (.int .u64 (b:Nat)))) J (by rw[if_pos hc22]) ?_;refine gx J<|?_;refine lp (X:=Nat×Nat) (fun⟨x,y⟩=>[(5, .d (.v (.int .u64 (x:Nat)))),(7, .d (.v (.int .u64 (y:Nat))))]) (fun⟨x,y⟩=>[]) (fun⟨x,y⟩=>x<18446744073709551616/\y<18446744073709551616/\Nat.gcd x y=Nat.gcd a b) (fun⟨x,y⟩=>y) ⟨a,b⟩ J ⟨hc16,hc22,J⟩ (fun _=>J) (fun⟨x,y⟩ hk=>?_)
    try dsimp only at hk⊢
    obtain⟨h1,h2,h3⟩:=hk;refine br (v1:=fun hc24=>by simp only[ac];exact⟨⟨(by omega),(by omega)⟩,by kernel_rfl⟩) J J J (fun hc24=>?_) (fun hc24=>?_)
    .
     exact at_ ⟨y,x%y⟩ (by dsimp only;exact⟨⟨h2,by have:=dQ x (show 0<y by omega);omega,by rw[Lr,h3]⟩,(by exact dQ _ (by omega))⟩)
    .
     refine cl J (t6 (u:=x) h1) J<|?_;exact rz J (by show dN x=_;rw[<-h3,show y=0 by omega,mM])
   .
    exact at_ () trivial
  .
   exact at_ () trivial
 .
  refine lp (fu:=⟨5⟩) (X:=Nat×Nat) (fun⟨x,y⟩=>[(0, .d (dN x)),(1, .d (dN y))]) (fun⟨x,y⟩=>[]) (fun⟨x,y⟩=>x<2^(ia+ib)/\y<2^(ia+ib)/\Nat.gcd x y=Nat.gcd a b) (fun⟨x,y⟩=>y) ⟨a,b⟩ J ⟨(ha.mono (by omega)).h,(hb.mono (by omega)).h,J⟩ (fun _=>J) (fun⟨x,y⟩ hk=>?_)
  try dsimp only at hk⊢
  obtain⟨h1,h2,h3⟩:=hk;have hly:=fi (dg y);haveI hx':BN x (ia+ib):=⟨h1⟩;haveI hy':BN y (ia+ib):=⟨h2⟩;refine aj 32 (.d (vI ((dg y).length:Nat))) J (by rw[hly];rfl) ?_;refine gx J<|?_;refine br J J J (fun hc33=>?_) (fun hc33=>?_)
  .
   have hy0:0<y:=iM fun q=>by subst q;rw[yr] at hc33;simp at hc33
   refine cl J (x6 (a:=x) (b:=y) (ia:=ia+ib) (ib:=ia+ib) hy0 (by omega) (by omega)) J<|?_;exact at_ ⟨y,x%y⟩ (by dsimp only;exact⟨⟨h2,by have:=dQ x hy0;omega,by rw[Lr,h3]⟩,(by exact dQ _ hy0)⟩)
  .
   have hy0:y=0:=vW.1 (by omega);have hlx:=lB h1;have hmx:=fi (dg x);refine rH J J<|ap _ J J (vh _) J<|?_;refine i9 44 J ?_;exact rz J (by show DV.sl ([]++_)=_;rw[<-h3,hy0,mM];rfl)
def Qb(neg:Bool)(m:Nat):eI (zv neg m)= .ag [.v (.bool (neg&&decide (0<m))),dN m]:=by unfold eI;rw[sB,LY]
def Yg(z:Int):zv (!decide (z<0)) z.natAbs= -z:=by
 unfold zv;by_cases h:z<0<;>simp[h]<;>omega
def Wn(a b:Int):zv (!(decide (a<0)==decide (b<0))) (a.natAbs*b.natAbs)=a*b:=by
 have h:=J5 (decide (a<0)) (decide (b<0)) a.natAbs b.natAbs;rw[mD,mD] at h;exact h
def ku{neg:Bool}{m:Nat}:PF GB prog 49 [.v (.bool neg),dN m] (eI (zv neg m)):=by
 have hl:=fi (dg m);have hz:= @vW m;refine fn func49 J J ntmps49 J J (fun C=>?_);refine jy 6 J J J (fun hg6=>?_) (fun hg6=>?_)
 .
  exact rz J (by rw[Qb,hg6];show DV.ag [.v (.bool _),_]= .ag [.v (.bool _),_];congr 4;rw[Bool.true_and];exact decide_eq_decide.2 (by omega))
 .
  exact rz J (by rw[Qb,hg6];rfl)
structure BZ where
 lo:RV
 hi:RV
 nl:Bool
 nh:Bool
def BZ.v(z:BZ):Value:= .agg ⟨[.int .i64 z.lo.n, .int .i64 z.lo.d, .pointer z.lo.p, .int .i64 z.hi.n, .int .i64 z.hi.d, .pointer z.hi.p, .bool z.nl, .bool z.nh]⟩
section
variable {P:Program} {C:az} {n:Nat} {fr:Fr} {own own' own1:List ak} {G:Gh} {Φ:Act->World->Prop}
variable {dst:Option Nat} {t t' ty':TypeId} {pos:String} {af:Array Edge} {gd:Option (Nat×Bool)} {x y:Operand} {e s by_:Nat}
end
structure Yq (k:Nat) (G:Gh) (z:BZ) (v:ah):Prop where
 lo:vX k G z.lo v.lo
 hi:vX k G z.hi v.hi
 nl:z.nl=v.nl
 nh:z.nh=v.nh
def M3:List Int->Int
 |[]=>0
 |x::t=>if x≠0 then x else M3 t
def aJ0(l m:aa):Int:=M3 [bm l.a m.a,bm l.b m.b,bm l.c m.c]
structure zQ where
 l:LV
 v:BZ
def zQ.val(z:zQ):Value:= .agg ⟨[.int .i64 z.l.a.n, .int .i64 z.l.a.d, .pointer z.l.a.p, .int .i64 z.l.b.n, .int .i64 z.l.b.d, .pointer z.l.b.p, .int .i64 z.l.c.n, .int .i64 z.l.c.d, .pointer z.l.c.p, .int .i64 z.v.lo.n, .int .i64 z.v.lo.d, .pointer z.v.lo.p, .int .i64 z.v.hi.n, .int .i64 z.v.hi.d, .pointer z.v.hi.p, .bool z.v.nl, .bool z.v.nh]⟩
structure WC (k:Nat) (G:Gh) (z:zQ) (f:bj):Prop where
 l:Fi k G z.l f.l
 v:Yq (25*k+6) G z.v f.v
inductive gk {α β:Type} (R:α->β->Prop):List α->List β->Prop
 |nil:gk R [] []
 |cons {a b us bs} (h:R a b) (t:gk R us bs):gk R (a::us) (b::bs)
def gk.len{α β:Type}{R:α->β->Prop}{us:List α}{bs:List β}(h:gk R us bs):us.length=bs.length:=by
 induction h with
 |nil=>rfl
 |cons _ _ ih=>simp[ih]
def gk.imp{α β:Type}{R S:α->β->Prop}{us:List α}{bs:List β}(h:gk R us bs)(k: ∀a b,R a b->S a b):gk S us bs:=by
 induction h with
 |nil=>exact .nil
 |cons h _ ih=>exact .cons (k _ _ h) ih
def gk.get{α β:Type}{R:α->β->Prop}{us:List α}{bs:List β}(h:gk R us bs){i:Nat}{b:β}(hi:bs[i]? =some b): ∃a,us[i]? =some a/\R a b:=by
 induction h generalizing i with
 |nil=>simp at hi
 | @cons a b' us bs h t ih=>
  cases i with
  |zero=>simp at hi;subst hi;exact⟨a,J,h⟩
  |succ i=>simpa using ih (i:=i) (by simpa using hi)
def gk.app{α β:Type}{R:α->β->Prop}{us us':List α}{bs bs':List β}(h:gk R us bs)(k:gk R us' bs'):gk R (us++us') (bs++bs'):=by
 induction h with
 |nil=>exact k
 |cons h _ ih=>exact .cons h ih
structure ZS (k:Nat) (G:Gh) (x:SV) (c:ao):Prop where
 ex: ∃fs:List zQ,d8 G 17 x (fs.map zQ.val)/\gk (WC k G) fs c

section
variable {P:Program} {C:az} {n:Nat} {fr:Fr} {own own':List ak} {G:Gh} {Φ:Act->World->Prop}
variable {dst:Option Nat} {t t' ty':TypeId} {pos:String} {af:Array Edge} {gd:Option (Nat×Bool)} {x y:Operand} {e s by_:Nat}
def Zx{o1 o2:ak}{rest:List ak}(h:o1.b≠o2.b->St C n fr (o1::o2::rest) G Φ):St C n fr (o1::o2::rest) G Φ:=
 fun a w rl=>h ((cK.1 rl.h.nd).1 _ aQ) a w rl
def Bo[hT:cx P t e s by_]{k:IntKind}{b off len cap:Nat}{l:Int}(hx:ax fr x=some (.slice (some ⟨b,off,none⟩) len cap))(hy:ax fr y=some (.int k l))(h0:0<=l)(h1:l<=len)(h2:l<cap):
  Yd P C fr own G ⟨dst, .slice t x (some y) none none,ty',pos,af,gd⟩ (.slice (some ⟨b,off+l.toNat*s,none⟩) (len-l.toNat) (cap-l.toNat)):=by
 have h:=HB (P:=P) (C:=C) (own:=own) (G:=G) (t:=t) (dst:=dst) (ty':=ty') (pos:=pos) (af:=af) (gd:=gd) (by_:=by_) hx hy h0 h1;unfold nn at h;rw[if_neg (by omega)] at h;simpa[q9] using h
end

section
variable {P:Program} {C:az} {n:Nat} {fr:Fr} {own own':List ak} {G:Gh} {Φ:Act->World->Prop}
variable {dst:Option Nat} {t t' ty':TypeId} {pos:String} {af:Array Edge} {gd:Option (Nat×Bool)} {x y:Operand} {e s by_:Nat}
end

def Ix(k:Nat)(G:Gh):Tr->Option Addr->Prop
 | .leaf b,p=> ∃n,p=some ⟨n,0,none⟩/\G n=some [.int .i64 0, .int .i64 0, .pointer none, .int .i64 0, .int .i64 0, .pointer none, .int .i64 0, .int .i64 0, .pointer none, .pointer none, .pointer none, .bool b]
 | .node l x y,p=> ∃(n:Nat) (z:LV) (q r:Option Addr),p=some ⟨n,0,none⟩/\G n=some [.int .i64 z.a.n, .int .i64 z.a.d, .pointer z.a.p, .int .i64 z.b.n, .int .i64 z.b.d, .pointer z.b.p, .int .i64 z.c.n, .int .i64 z.c.d, .pointer z.c.p, .pointer q, .pointer r, .bool false]/\Fi k G z l/\Ix k G x q/\Ix k G y r
structure ND where
 a:IV
 b:IV
 c:IV
 l:Int
 r:Int
def ND.val(z:ND):Value:= .agg ⟨[.bool z.a.neg, .slice z.a.a.a z.a.a.n z.a.a.c, .bool z.b.neg, .slice z.b.a.a z.b.a.n z.b.a.c, .bool z.c.neg, .slice z.c.a.a z.c.a.n z.c.a.c, .int .i64 z.l, .int .i64 z.r]⟩
structure sr (k:Nat) (G:Gh) (z:ND) (n:NQ):Prop where
 a:mr k G z.a n.l.a
 b:mr k G z.b n.l.b
 c:mr k G z.c n.l.c
 l:z.l=n.a
 r:z.r=n.b
def sr.up{k:Nat}{A G:Gh}{z:ND}{n:NQ}(h:sr k A z n)[GL A G]:sr k G z n:=⟨h.a.up,h.b.up,h.c.up,h.l,h.r⟩
structure SO (k:Nat) (G:Gh) (x:SV) (ns:List NQ):Prop where
 ex: ∃zs:List ND,d8 G 8 x (zs.map ND.val)/\gk (sr k G) zs ns
def aJE(n i:Nat):List Value:=(List.range n).map fun j=> .bool (decide (j<i))

def ND.len8(zs:List ND): ∀v∈zs.map ND.val,(aA v).length=8:=fun v hv=>by
 obtain⟨f,_,rfl⟩:=bV.1 hv;rfl
def ND.flat(zs:List ND): ∀v∈zs.map ND.val,∀c∈aA v,Sx.flat c=true:=fun v hv c hc=>by
 obtain⟨f,_,rfl⟩:=bV.1 hv;simp only[ND.val,aA,aY,iT,or_false] at hc;rcases hc with rfl|rfl|rfl|rfl|rfl|rfl|rfl|rfl<;>rfl
def gk.set{α β:Type}{R:α->β->Prop}{us:List α}{bs:List β}(h:gk R us bs){a:α}{b:β}(hr:R a b)(i:Nat):gk R (us.set i a) (bs.set i b):=by
 induction h generalizing i with
 |nil=>simp;exact .nil
 |cons h t ih=>
  cases i with
  |zero=>exact .cons hr t
  |succ i=>exact .cons h (ih i)
def Of(zs:List ND)(rest:List Value)(i j:Nat)(x:Value)(z:ND)(hi:i<zs.length)(hj:j<8)(hz:aA z.val=(aA (zs[i]).val).set j x):
  (aC (zs.map ND.val)++rest).set (i*8+j) x=aC ((zs.set i z).map ND.val)++rest:=by
 have hi':i<(zs.map ND.val).length:=by simpa using hi
 rw[Q5 hj _ i hi' (ND.len8 zs),oQ,<-hz,kU,List.set_eq_take_append_cons_drop,if_pos hi',px];have e:aC (z.val::(zs.map ND.val).drop (i+1))=aA z.val++aC ((zs.map ND.val).drop (i+1)):=by simp[aC]
 rw[e];simp[dV]
def od(ob wb:Nat):Value:= .func (.func 129) #[] #[.pointer (some ⟨ob,0,none⟩), .pointer (some ⟨wb,0,none⟩)]
structure Av where
 x:SV
 p:Option Addr
def Av.val(z:Av):Value:= .agg ⟨[.slice z.x.a z.x.n z.x.c, .pointer z.p]⟩
structure Xk (k:Nat) (G:Gh) (z:Av) (b:Bool×ao):Prop where
 c:ZS k G z.x b.2
 t:Ix k G (.leaf b.1) z.p
structure aKv (k:Nat) (G:Gh) (w:SV) (ps:List (Bool×ao)):Prop where
 ex: ∃zs:List Av,d8 G 2 w (zs.map Av.val)/\gk (Xk k G) zs ps
structure LI where
 a:IV
 b:IV
 c:IV
def LI.val(z:LI):Value:= .agg ⟨[.bool z.a.neg, .slice z.a.a.a z.a.a.n z.a.a.c, .bool z.b.neg, .slice z.b.a.a z.b.a.n z.b.a.c, .bool z.c.neg, .slice z.c.a.a z.c.a.n z.c.a.c]⟩
structure SL (k:Nat) (G:Gh) (z:LI) (l:aa):Prop where
 a:mr k G z.a l.a
 b:mr k G z.b l.b
 c:mr k G z.c l.c
structure aJD (k:Nat) (G:Gh) (x:SV) (ls:List aa):Prop where
 ex: ∃zs:List LI,d8 G 6 x (zs.map LI.val)/\gk (SL k G) zs ls
structure aJQ (k:Nat) (G:Gh) (x:SV) (ls:List aa):Prop where
 ex: ∃zs:List LV,d8 G 9 x (zs.map LV.v)/\gk (Fi k G) zs ls
def vE{a b:Int}(h:a=b):eI a=eI b:=by rw[h]
def Bd(z:Int):eQ (z:Rat)= .ag [.v (.bool (decide (z<0))),dN z.natAbs, .sl []]:=by unfold eQ;rw[qN,rQ];rfl
def BF{a:Rat}(h:a.den=1):((a.num:Int):Rat)=a:=Rat.ext (qN _) (by rw[rQ,h])
def VW{a b:Rat}(ha:a.den=1)(hb:b.den=1):a+b=((a.num+b.num:Int):Rat):=by
 rw[pZ,BF ha,BF hb]
def awn{a b:Rat}(ha:a.den=1)(hb:b.den=1):a*b=((a.num*b.num:Int):Rat):=by
 rw[cW,BF ha,BF hb]
def yB(n:Nat)(h:0<n):(if n=1 then [] else(dg n).map dU).length=0↔n=1:=by
 by_cases q:n=1
 ·simp[q]
 ·rw[if_neg q,aK,vW];omega
def NC{n:Nat}(h:n≠1):dD n=dN n:=by unfold dD;rw[if_neg h];rfl
def F4{g:Nat}:(gy g 1=0)↔g=1:=by
 unfold gy;constructor
 ·intro h;split at h
  ·exact absurd h (by decide)
  ·split at h
   ·assumption
   ·exact absurd h (by decide)
 ·rintro rfl;rfl
def JQ{x:Int}{d:Nat}(hd:0<d):zv (decide (x<0)) (x.natAbs/Nat.gcd x.natAbs d)=(mkRat x d).num:=by
 rw[Rat.num_mkRat,if_neg (by omega),jZ];have hg:0<Nat.gcd d x.natAbs:=oK _ hd;obtain⟨c,hc⟩:Nat.gcd d x.natAbs∣x.natAbs:=nU _ _;generalize Nat.gcd d x.natAbs=g at*;rw[hc,Nat.mul_div_cancel_left _ hg];unfold zv;by_cases q:x<0
 ·rw[if_pos (by simpa using q),show x=(g:Int)*(-(c:Int)) by rw[sV,<-jX];omega,Int.mul_ediv_cancel_left _ (by omega)]
 ·rw[if_neg (by simpa using q),show x=(g:Int)*(c:Int) by rw[<-jX];omega,Int.mul_ediv_cancel_left _ (by omega)]
def N'{x:Int}{d:Nat}(hd:0<d):d/Nat.gcd x.natAbs d=(mkRat x d).den:=by
 rw[Rat.den_mkRat,if_neg (by omega),jZ]
def aFw{x:Int}{d:Nat}(hd:0<d)(h:Nat.gcd x.natAbs d=1):(mkRat x d).num=x/\(mkRat x d).den=d:=by
 rw[<-JQ hd,<-N' hd,h,tK,tK];exact⟨mD x,J⟩
instance BI.zv (neg:Bool) (m i:Nat) [h:BN m i]:BI (zv neg m) i:=⟨by rw[sB];exact h.h⟩
section
variable {GB:Gh} {C:az} {n:Nat} {Q0:Exit->Act->World->Prop} {fr fr':ay} {own own':aE} {cf cf':Cf} {vc:List Prop}
def Q2(fr:ay)(cf:Cf):Option Int:=match cw fr cf with
 |some ⟨_, .convert t t' x,_,_,_,_⟩=>match c9 tt t,c9 tt t' with
  |some ⟨.int .i64,_,_,_⟩,some ⟨.int .u64,_,_,_⟩=>match aG (bO fr cf) x with
   |some (.d (.v (.int .i64 p)))=>some p
   |_=>none
  |_,_=>none
 |_=>none
def UR[fu:Fu]{p:Int}(q:Int)(h:Q2 fr cf=some p)(e:p%18446744073709551616=q)(hgo:cP tt n fu.n fr own cf (.d (.v (.int .u64 q))) [] []=⟨vc,fr',own',cf'⟩)(k:av prog GB C n Q0 fr' own' cf')
  (hv:ac vc:=by first|exact trivial|(simp only[ac];omega)):av prog GB C n Q0 fr own cf:=by
 unfold Q2 at h;split at h<;>try (cases h;done)
 rename_i hh;split at h<;>try (cases h;done)
 rename_i hT hT';split at h<;>cases h;rename_i hx;have:=xo (ew _ _ hT) J;have:=xo (ew _ _ hT') J;refine us hh (.x1 hx fun ρ G ov a w y _ r h1 h2=>?_) hgo hv k;rw[dk] at h2;subst h2;refine⟨_,dk.2 J,?_⟩;rw[<-e,<-nE];exact Bn h1
def OJ(fr:ay)(cf:Cf):Option Int:=match cw fr cf with
 |some ⟨_, .unOp .neg _ x,_,_,_,_⟩=>match aG (bO fr cf) x with
  |some (.d (.v (.int .u64 p)))=>some p
  |_=>none
 |_=>none
def Uv[fu:Fu]{p:Int}(q:Int)(h:OJ fr cf=some p)(e:(0-p)%18446744073709551616=q)(hgo:cP tt n fu.n fr own cf (.d (.v (.int .u64 q))) [] []=⟨vc,fr',own',cf'⟩)(k:av prog GB C n Q0 fr' own' cf')
  (hv:ac vc:=by first|exact trivial|(simp only[ac];omega)):av prog GB C n Q0 fr own cf:=by
 unfold OJ at h;split at h<;>try (cases h;done)
 rename_i hh;split at h<;>cases h;rename_i hx;refine us hh (.x1 hx fun ρ G ov a w y _ r h1 h2=>?_) hgo hv k;rw[dk] at h2;subst h2;refine⟨_,dk.2 J,?_⟩;rw[<-e,<-nE];exact FA h1
end
def Lo{n:Int}(h0: -4611686018427387904<=n)(h1:n<=4611686018427387904):PF GB prog 70 [.v (.int .i64 n)] (eI n):=by
 refine fn func70 J J ntmps70 J J (fun C=>?_);refine br (fu1:=⟨3⟩) (fu2:=⟨6⟩) J J J (fun hc4=>?_) (fun hc4=>?_)
 .
  refine UR (fu:=⟨0⟩) (18446744073709551616+n) J (by omega) J<|Uv (n.natAbs:Nat) J (by omega) J<|cl J (t6 (u:=n.natAbs) (by omega)) J<|?_;refine cl J ku J<|?_;exact rz J (vE (by unfold zv;rw[if_pos J];omega))
 .
  refine aj 11 (.d (.v (.int .u64 (n.natAbs:Nat)))) J (by show FX.d (.v (.int _ _))= .d (.v (.int _ _));congr 3;omega) ?_;refine gx J<|cl J (t6 (u:=n.natAbs) (by omega)) J<|cl J ku J<|?_;exact rz J (vE (by unfold zv;rw[if_neg (by decide)];omega))
def Cz{z:Int}:PF GB prog 63 [eI z] (vI z.sign):=by
 have hl:=fi (dg z.natAbs);have hz:= @vW z.natAbs;refine fn func63 J J ntmps63 J J (fun C=>?_);refine br J J J (fun hc6=>?_) (fun hc6=>?_)
 .
  exact rz J (by show DV.v (.int _ 0)=DV.v (.int _ _);rw[show z=0 by omega];rfl)
 .
  refine bd J J J (fun hc8=>?_) (fun hc8=>?_)
  .
   exact rz J (by show DV.v (.int _ (-1))=DV.v (.int _ _);rw[fM (by omega)])
  .
   exact rz J (by show DV.v (.int _ 1)=DV.v (.int _ _);rw[iZ (by omega)])
def Ad{z:Int}:PF GB prog 152 [eI z] (eI (-z)):=by
 refine fn func152 J J ntmps152 J J (fun C=>?_);refine cl J ku J<|?_;exact rz J (vE (Yg z))
def ayr{a b:Int}(h:decide (a<0)=decide (b<0)):zv (decide (a<0)) (a.natAbs+b.natAbs)=a+b:=by
 unfold zv;have h':a<0↔b<0:=by simpa using h
 by_cases q:a<0
 ·have:=h'.1 q
  simp[q];omega
 ·have: ¬b<0:=fun w=>q (h'.2 w)
  simp[q];omega
def Yt{a b:Int}(h: ¬decide (a<0)=decide (b<0))(k:a.natAbs<b.natAbs):zv (decide (b<0)) (b.natAbs-a.natAbs)=a+b:=by
 unfold zv;have h': ¬(a<0↔b<0):=by simpa using h
 by_cases q:b<0
 ·have: ¬a<0:=fun w=>h' ⟨fun _=>q,fun _=>w⟩
  simp[q];omega
 ·have:a<0:=Int.not_le.1 fun w=>h' ⟨fun e=>by omega,fun e=>absurd e q⟩
  simp[q];omega
def aCe{a b:Int}(h: ¬decide (a<0)=decide (b<0))(k:b.natAbs<=a.natAbs):zv (decide (a<0)) (a.natAbs-b.natAbs)=a+b:=by
 unfold zv;have h': ¬(a<0↔b<0):=by simpa using h
 by_cases q:a<0
 ·have: ¬b<0:=fun w=>h' ⟨fun _=>w,fun _=>q⟩
  simp[q];omega
 ·have:b<0:=Int.not_le.1 fun w=>h' ⟨fun e=>absurd e q,fun e=>by omega⟩
  simp[q];omega
def B4{a b:Int}{i j:Nat}[ha:BI a i][hb:BI b j](hi:i<=400000000:=by decide)(hj:j<=400000000:=by decide):PF GB prog 46 [eI a,eI b] (eI (a+b)):=by
 have hba:=lB ha.h;have hbb:=lB hb.h;refine fn (fu:=⟨15⟩) func46 J J ntmps46 J J (fun C=>?_);refine aj 9 (.d (.v (.bool (decide (decide (a<0)=decide (b<0)))))) J (by congr 2) ?_;refine gx J<|?_;refine bd J J J (fun hc9=>?_) (fun hc9=>?_)
 .
  refine cl J (aHQ (by omega) (by omega)) J<|cl J ku J<|?_;exact rz J (vE (ayr hc9))
 .
  refine cl J (y9 (by omega) (by omega)) J<|?_;refine br J J J (fun hc23=>?_) (fun hc23=>?_)
  .
   refine cl J (Hv (by have:=xz.1 hc23;omega) (by omega)) J<|cl J ku J<|?_;exact rz J (vE (Yt hc9 (xz.1 hc23)))
  .
   refine cl J (Hv (sZ fun q=>hc23 (xz.2 q)) (by omega)) J<|cl J ku J<|?_;exact rz J (vE (aCe hc9 (sZ fun q=>hc23 (xz.2 q))))
def uH{a b:Int}{i j:Nat}[ha:BI a i][hb:BI b j](hi:i<=400000000:=by decide)(hj:j<=400000000:=by decide):PF GB prog 48 [eI a,eI b] (eI (a*b)):=by
 refine fn func48 J J ntmps48 J J (fun C=>?_);refine cl J (sC (by omega) (by omega)) J<|cl J ku J<|?_;exact rz J (vE (Wn a b))
def IT{a b:Int}{i j:Nat}[ha:BI a i][hb:BI b j](hi:i<=400000000:=by decide)(hj:j<=400000000:=by decide):PF GB prog 240 [eI a,eI b] (vI (a-b).sign):=by
 refine fn func240 J J ntmps240 J J (fun C=>?_);refine cl J Ad J<|cl J (B4 (by omega) (by omega)) J<|cl J Cz J<|?_;exact rz J (by rw[Int.sub_eq_add_neg];rfl)
def kO{q:Rat}:PF GB prog 50 [eQ q] (dN q.den):=by
 refine fn func50 J J ntmps50 J J (fun C=>?_);refine br J J J (fun hc6=>?_) (fun hc6=>?_)
 .
  refine cl J E1 J<|?_;exact rz J (by rw[(yB q.den (m6 q)).1 (by omega)];rfl)
 .
  exact rz J (by exact NC (fun e=>hc6 (by exact congrArg Int.ofNat ((yB q.den (m6 q)).2 e))))
def NV{n k:Nat}[h:BN n k](hk:k<=500000000):(dg n).length<=100000000:=by have:=lB h.h;omega
def vH{x:Int}{d i j:Nat}[hx:BI x i][hd:BN d j](hd0:0<d)(hi:i<=200000000:=by decide)(hj:j<=200000000:=by decide):PF GB prog 47 [eI x,dN d] (eQ (mkRat x d)):=by
 obtain⟨q,hq⟩: ∃q,q=mkRat x d:=⟨_,rfl⟩;obtain⟨g,hg⟩: ∃g,g=Nat.gcd x.natAbs d:=⟨_,rfl⟩;have hg0:0<g:=hg▸qT _ hd0;haveI hgB:BN g (i+j):=hg▸inferInstance;have hg1:(dg g).length<=100000000:=NV (k:=i+j) (by omega);have ho1:(dg 1).length<=100000000:=by rw[Ar];decide
 haveI hqB:BQ q (i+j):=hq▸zk hd0 (dJ hx.h (bY (by decide) (by omega))) (dJ hd.h (bY (by decide) (by omega)));refine fn func47 J J ntmps47 J J (fun C=>?_);refine cl (fu:=⟨0⟩) J (IB (by omega) (by omega)) J<|?_;refine aj 11 (.d (dN g)) J (by rw[hg]) ?_;refine gx (fu:=⟨4⟩) J<|?_;refine mg (fu:=⟨1⟩) (X:=Unit) (fun _=>[(1, .d (dN q.den)),(2, .ov 2 0),(4, .ov 4 0)]) (fun _=>[(4,some (.o 48 [.ff, .nl, .nl] true)),(2,some (.o 46 [.d (.v (.bool (decide (q.num<0)))), .d (dN q.num.natAbs)] true))]) (fun _=>True) [1,2,4] [4,2] rfl ?_ (fun _=>J) (fun _ hm=>?_)
 .
  refine gx J<|cl J E1 J<|cl J (y9 hg1 ho1) J<|?_;refine br J J J (fun hc15=>?_) (fun hc15=>?_)
  .
   refine cl J (x6 hg0 (by omega) (by omega)) J<|cl (fu:=⟨0⟩) J ku J<|?_;refine aj 26 (.d (eI q.num)) J (by show FX.d (eI (zv _ _))=_;rw[hg,JQ hd0,hq]) ?_;refine gx J<|cl (fu:=⟨2⟩) J (x6 hg0 (by omega) (by omega)) J<|?_;refine aj 31 (.d (dN q.den)) J (by rw[hg,N' hd0,hq]) ?_;refine gx J<|?_;exact at_ () trivial
  .
   have hm:=aFw (x:=x) hd0 (by rw[<-hg];exact F4.1 (Decidable.not_not.1 hc15));rw[<-hq] at hm;refine aj 1 (.d (dN q.den)) J (by rw[hm.2]) ?_;exact at_ () trivial (hO:=⟨J,by rw[hm.1];rfl,trivial⟩)
 .
  refine mg (X:=Unit) (fun _=>[(1, .d (dD q.den)),(2, .ov 2 0),(4, .ov 4 0)]) (fun _=>[(4,some (.o 48 [.ff, .nl, .nl] true)),(2,some (.o 46 [.d (.v (.bool (decide (q.num<0)))), .d (dN q.num.natAbs)] true))]) (fun _=>True) [1,2,4] [4,2] rfl ?_ (fun _=>J) (fun _ hm=>?_)
  .
   refine gx J<|cl J E1 J<|cl J (y9 (NV (k:=i+j) (by omega)) ho1) J<|?_;refine br J J J (fun hc36=>?_) (fun hc36=>?_)
   .
    refine Wq 1 J ?_;refine aj 1 (.d (dD q.den)) J (by rw[F4.1 hc36];rfl) ?_;exact at_ () trivial
   .
    refine aj 1 (.d (dD q.den)) J (by rw[NC (fun e=>hc36 (F4.2 e))]) ?_;exact at_ () trivial
  .
   exact rz J (by rw[<-hq];rfl)
def M0(a:Rat):mkRat a.num a.den=a:=by simp[Rat.mkRat_self]
def NY{a b:Rat}(h:b≠0):a/b=mkRat (a.num*zv (decide (b.num<0)) b.den) (a.den*b.num.natAbs):=by
 rw[qX];have ha:(a.num:Rat)/(a.den:Rat)=a:=by rw[<-qX,M0]
 have hb:(b.num:Rat)/(b.den:Rat)=b:=by rw[<-qX,M0]
 have h1:(a.den:Rat)≠0:=by have:=a.den_nz;exact_mod_cast this
 have h2:(b.den:Rat)≠0:=by have:=b.den_nz;exact_mod_cast this
 have h3:(b.num:Rat)≠0:=by
  intro e;rw[e] at hb;apply h;rw[<-hb];grind
 rw[cW,Rat.natCast_mul];by_cases q:b.num<0
 ·have e1:((zv (decide (b.num<0)) b.den:Int):Rat)= -(b.den:Rat):=by
   unfold zv;rw[if_pos (by simpa using q),jR];rfl
  have e2:((b.num.natAbs:Nat):Rat)= -(b.num:Rat):=by
   have:((b.num.natAbs:Nat):Int)= -b.num:=by omega
   rw[<-jR,<-this];rfl
  rw[e1,e2];generalize (a.num:Rat)=an at*;generalize (a.den:Rat)=ad at*;generalize (b.num:Rat)=bn at*;generalize (b.den:Rat)=bd at*;subst ha hb;grind
 ·have e1:((zv (decide (b.num<0)) b.den:Int):Rat)=(b.den:Rat):=by
   unfold zv;rw[if_neg (by simpa using q)];rfl
  have e2:((b.num.natAbs:Nat):Rat)=(b.num:Rat):=by
   have:((b.num.natAbs:Nat):Int)=b.num:=by omega
   rw[<-this];rfl
  rw[e1,e2];generalize (a.num:Rat)=an at*;generalize (a.den:Rat)=ad at*;generalize (b.num:Rat)=bn at*;generalize (b.den:Rat)=bd at*;subst ha hb;grind
def VS{q:Rat}{n:Int}{d:Nat}(hd:0<d)(h:q*(d:Rat)=(n:Rat)):q.num.natAbs<=n.natAbs/\q.den<=d:=by
 have e:q=mkRat n d:=by
  rw[qX];have:(d:Rat)≠0:=by exact_mod_cast (by omega:d≠0)
  rw[<-h];grind
 rw[e,Rat.num_mkRat,Rat.den_mkRat,if_neg (by omega),if_neg (by omega)];exact⟨nK n (d.gcd n.natAbs:Nat),kR ..⟩
theorem BQ.of_frac{q:Rat}{n:Int}{d i:Nat}(hd:0<d)(h:q*(d:Rat)=(n:Rat))(hn:n.natAbs<2^i)(hdi:d<2^i):BQ q i:=by
 have:=VS hd h;exact⟨by omega,by omega⟩
def Nd{b:Rat}(h:b≠0):0<b.num.natAbs:=by
 have:b.num≠0:=fun e=>h (pQ.1 e);omega
instance BQ.over (a b:Rat) (i j:Nat) [ha:BQ a i] [hb:BQ b j]:BQ (a/b) (i+j):=by
 by_cases h:b=0
 ·subst h
  rw[Rat.div_def,Rat.inv_zero,Rat.mul_zero];have h2:=ha.hd;have h3:0<a.den:=m6 a;have h4:2^i*1<=2^i*2^j:=dS _ (fZ (by decide));rw[<-eJ] at h4;exact⟨by show 0<_;omega,by show 1<_;omega⟩
 ·rw[NY h]
  have hb0:=Nd h;refine zk (iJ (m6 a) hb0) ?_ (pw ha.hd hb.hn);rw[jK,sB];exact pw ha.hn hb.hd
def lc{n:Int}(h0: -4611686018427387904<=n)(h1:n<=4611686018427387904):PF GB prog 20 [.v (.int .i64 n)] (eQ (n:Rat)):=by
 refine fn func20 J J ntmps20 J J (fun C=>?_);refine cl J (Lo (by omega) (by omega)) J<|?_;exact rz J (by rw[Bd];rfl)
def qa{q:Rat}:PF GB prog 17 [eQ q] (vI q.num.sign):=by
 refine fn func17 J J ntmps17 J J (fun C=>?_);refine cl J Cz J<|?_;exact rz J J
def wF{q:Rat}:PF GB prog 180 [eQ q] (eQ (-q)):=by
 refine fn func180 J J ntmps180 J J (fun C=>?_);refine cl J Ad J<|?_;exact rz J (by unfold eQ;rw[oY,sY];rfl)
def i6{a b:Rat}{i j:Nat}[ha:BQ a i][hb:BQ b j](hi:i<=20000000:=by decide)(hj:j<=20000000:=by decide):PF GB prog 21 [eQ a,eQ b] (eQ (a*b)):=by
 have had:=m6 a;have hbd:=m6 b;have hdp:=iJ had hbd;have e1:=yB a.den had;have e2:=yB b.den hbd;refine fn func21 J J ntmps21 J J (fun C=>?_);refine cs 9 J J J (fun hg9=>?_) (fun hg9=>?_)
 .
  refine br J J J (fun hc14=>?_) (fun hc14=>?_)
  .
   refine cl J (uH (a:=a.num) (b:=b.num) (by omega) (by omega)) J<|?_;exact rz J (by rw[awn (e1.1 (by omega)) (e2.1 (by omega)),Bd];rfl)
  .
   refine cl J (uH (a:=a.num) (b:=b.num) (by omega) (by omega)) J<|cl J kO J<|cl J kO J<|cl J (sC (by omega) (by omega)) J<|?_;refine cl J (vH hdp (by omega) (by omega)) J<|?_;exact rz J (by rw[zY];rfl)
 .
  refine cl J (uH (a:=a.num) (b:=b.num) (by omega) (by omega)) J<|cl J kO J<|cl J kO J<|cl J (sC (by omega) (by omega)) J<|?_;refine cl J (vH hdp (by omega) (by omega)) J<|?_;exact rz J (by rw[zY];rfl)
def oD{a b:Rat}{i j:Nat}[ha:BQ a i][hb:BQ b j](hi:i<=20000000:=by decide)(hj:j<=20000000:=by decide):PF GB prog 13 [eQ a,eQ b] (eQ (a+b)):=by
 have had:=m6 a;have hbd:=m6 b;have hdp:=iJ had hbd;have e1:=yB a.den had;have e2:=yB b.den hbd;refine fn func13 J J ntmps13 J J (fun C=>?_);refine cs 9 J J J (fun hg9=>?_) (fun hg9=>?_)
 .
  refine br J J J (fun hc14=>?_) (fun hc14=>?_)
  .
   refine cl J (B4 (by omega) (by omega)) J<|?_;exact rz J (by rw[VW (e1.1 (by omega)) (e2.1 (by omega)),Bd];rfl)
  .
   refine cl J kO J<|cl J ku J<|cl J (uH (a:=a.num) (b:=zv false b.den) (by omega) (by omega)) J<|cl J kO J<|cl J ku J<|?_;refine cl J (uH (a:=b.num) (b:=zv false a.den) (by omega) (by omega)) J<|cl J (B4 (by omega) (by omega)) J<|cl J kO J<|?_;refine cl J kO J<|cl J (sC (by omega) (by omega)) J<|cl J (vH hdp (by omega) (by omega)) J<|?_;exact rz J (by rw[Am];rfl)
 .
  refine cl J kO J<|cl J ku J<|cl J (uH (a:=a.num) (b:=zv false b.den) (by omega) (by omega)) J<|cl J kO J<|?_;refine cl J ku J<|cl J (uH (a:=b.num) (b:=zv false a.den) (by omega) (by omega)) J<|cl J (B4 (by omega) (by omega)) J<|?_;refine cl J kO J<|cl J kO J<|cl J (sC (by omega) (by omega)) J<|cl J (vH hdp (by omega) (by omega)) J<|?_;exact rz J (by rw[Am];rfl)
def tD{a b:Rat}{i j:Nat}[ha:BQ a i][hb:BQ b j](hi:i<=20000000:=by decide)(hj:j<=20000000:=by decide):PF GB prog 122 [eQ a,eQ b] (eQ (a-b)):=by
 refine fn func122 J J ntmps122 J J (fun C=>?_);refine cl J (wF (q:=b)) J<|cl J (oD (a:=a) (b:= -b) hi hj) J<|?_;exact rz J (by rw[Rat.sub_eq_add_neg];rfl)
def xO{a b:Rat}{i j:Nat}[ha:BQ a i][hb:BQ b j](hb0:b≠0)(hi:i<=20000000:=by decide)(hj:j<=20000000:=by decide):PF GB prog 259 [eQ a,eQ b] (eQ (a/b)):=by
 have hbp:=Nd hb0;have hdp:=iJ (m6 a) hbp;refine fn func259 J J ntmps259 J J (fun C=>?_);refine cl J kO J<|cl J ku J<|cl J (uH (a:=a.num) (b:=zv (decide (b.num<0)) b.den) (by omega) (by omega)) J<|cl J kO J<|?_;refine cl J (sC (a:=a.den) (b:=b.num.natAbs) (by omega) (by omega)) J<|cl J (vH (x:=a.num*zv (decide (b.num<0)) b.den) (d:=a.den*b.num.natAbs) hdp (by omega) (by omega)) J<|?_;exact rz J (by rw[NY hb0];rfl)
def lu{a b:Rat}{i j:Nat}[ha:BQ a i][hb:BQ b j](hi:i<=20000000:=by decide)(hj:j<=20000000:=by decide):PF GB prog 59 [eQ a,eQ b] (vI (bm a b)):=by
 refine fn func59 J J ntmps59 J J (fun C=>?_);refine cl J (tD hi hj) J<|cl J qa J<|?_;exact rz J (by show vI _=vI _;rw[Ck])
def Xt:((2:Int):Rat)≠0:=by decide
instance BI.two:BI 2 2:=⟨by decide⟩
def IC{a:Rat}{i:Nat}[ha:BQ a i](hi:i<=20000000:=by decide):PF GB prog 260 [eQ a] (eQ (a/2)):=by
 refine fn func260 J J ntmps260 J J (fun C=>?_);refine cl J (lc (n:=2) (by decide) (by decide)) J<|cl J (xO (a:=a) (b:=((2:Int):Rat)) Xt hi (by decide)) J<|?_;exact rz J J
def Ii{a b:Rat}{i j:Nat}[ha:BQ a i][hb:BQ b j](hi:i<=2000000:=by decide)(hj:j<=2000000:=by decide):PF GB prog 261 [eQ a,eQ b] (eQ ((a+b)/2)):=by
 refine fn func261 J J ntmps261 J J (fun C=>?_);refine cl J (oD (by omega) (by omega)) J<|cl J (IC (a:=a+b) (by omega)) J<|?_;exact rz J J
end Go.Sx
end
