import Derived.Test.YtmbbejdimfkkcaaGreatDoorMo19
import Derived.Shelf.SlicesQ.Reverse
import Derived.Test.YtmbbejdimfkkcaaGreatDoorProg
set_option linter.all false
set_option maxHeartbeats 2000000
set_option maxRecDepth 100000
section
namespace Go.Sx
open Go Go.Proofs Tryz
variable {GB:Gh}




def aKy{a:ah}{t:List ah}:um (a::t) a=((0:Nat):Int):=GV (k:=0) (q:=a) J J ⟨J,J⟩
def Y9{a b c:ah}{t:List ah}(h1:a≠b)(h2:a≠c)(h3:b≠c):3<=fP (a::b::c::t) (a::b::c::t).length:=by
 have ne: ∀{x y:ah},x≠y->(!decide (x.x=y.x/\x.y=y.y))=true:=fun{x y} h=>by
  rw[decide_eq_false (fun k=>h (by cases x;cases y;simp only[ah.mk.injEq] at*;exact k))];rfl
 have e0:=HX (l:=a::b::c::t) (k:=0) (p:=a) J aKy;have e1:=HX (l:=a::b::c::t) (k:=1) (p:=b) J (GV (k:=1) (q:=b) J (by simp only[List.take,tW,List.all_nil,Bool.and_true,ne h1]) ⟨J,J⟩);have e2:=HX (l:=a::b::c::t) (k:=2) (p:=c) J (GV (k:=2) (q:=c) J (by simp only[List.take,tW,List.all_nil,Bool.and_true,ne h2,ne h3]) ⟨J,J⟩);have mono: ∀n m,n<=m->fP (a::b::c::t) n<=fP (a::b::c::t) m:=by
  intro n m h
  induction m with
  |zero=>rw[show n=0 by omega];exact bV _
  |succ m ih=>
   by_cases k:n=m+1
   .rw[k];exact bV _
   .exact cX (ih we) No
 have:=mono 3 (a::b::c::t).length omc;have z:fP (a::b::c::t) 0=0:=J;rw[fX] at e0;rw[show 1+1=2 from J] at e1;rw[show 2+1=3 from J] at e2;omega
def M1{a b c:ZP}{t:List ZP}(ho:gE (a::b::c::t))(h1:a≠b)(h2:a≠c)(h3:b≠c):tj (a::b::c::t):=
 ⟨ho,Y9 (t:=t.map ZP.q) (fun e=>h1 (EE e)) (fun e=>h2 (EE e)) (fun e=>h3 (EE e))⟩
def SP{a b c d:Int}(ho:gE (dG a b c d))(h1:a<c)(h2:b<d):tj (dG a b c d):=
 M1 ho (fun e=>by have:=congrArg Prod.fst e;dsimp only at this;omega) (fun e=>by have:=congrArg Prod.fst e;dsimp only at this;omega) (fun e=>by have:=congrArg Prod.snd e;dsimp only at this;omega)
def aHz{p u v:ZP}(ho:gE (gq p u v))(h:jd u v≠0):tj (gq p u v):=by
 have hu: ∀{a b:ZP},(a=(0,0)\/b=(0,0)\/a=b)->jd a b=0:=fun{a b} k=>by
  unfold jd;rcases k with rfl|rfl|rfl
  .simp
  .simp
  .rw[sJ];omega
 refine M1 ho (fun e=>h (hu (.inl ?_))) (fun e=>h (hu (.inr (.inl ?_)))) (fun e=>h (hu (.inr (.inr ?_))))
 .have e1:=congrArg Prod.fst e
  have e2:=congrArg Prod.snd e;unfold kt at e1 e2;dsimp only at e1 e2;exact Prod.ext oks oks
 .have e1:=congrArg Prod.fst e
  have e2:=congrArg Prod.snd e;unfold kt at e1 e2;dsimp only at e1 e2;exact Prod.ext oks oks
 .have e1:=congrArg Prod.fst e
  have e2:=congrArg Prod.snd e;unfold kt at e1 e2;dsimp only at e1 e2;exact Prod.ext we we
def Ym{es:List Int}{a:Nat}(ha:a<=es.length):tj (cg es a).1:=by
 have hok:=(xv ha).1;unfold cg at*;dsimp only at*;split
 .rename_i h
  rw[if_pos h] at hok;unfold x7 at*;dsimp only at*;exact SP hok we we
 .rename_i h
  rw[if_neg h] at hok;dsimp only at*;split
  .rename_i k
   rw[if_pos k] at hok;exact aHz hok we
  .exact M1 UT oma oma oma







section
variable {r:List ZP} {p:ah} {L:List aa}
end



section
variable {GB:Gh} {C:aH} {n:Nat} {Q0:Exit->Act->World->Prop} {fr fr' fr1 fr2:aF} {own own' own1 own2:bh} {cf cf' cf1 cf2:Cf} {vc vc1 vc2:List Prop}
end





def KW{a R D g x:Rat}(hg:g≠0)(hR:R*D=g)(ha:a*D=x):a*R⁻¹=x*g⁻¹:=by
 have h1:g*g⁻¹=1:=Rat.mul_inv_cancel g hg;have hR0:R≠0:=fun e=>hg (by rw[<-hR,e];grind);have h2:R*R⁻¹=1:=Rat.mul_inv_cancel R hR0;generalize R⁻¹=r at*;generalize g⁻¹=s at*;have:r=D*s:=by
  have h3:R*(r-D*s)=0:=by grind
  have:=(dY.1 h3).resolve_left hR0;grind
 grind
def aIU{a b c:Rat}(h0: ¬(a=0/\b=0)):a*(rgcd (rgcd a b) c)⁻¹=((dE a b c).a:Rat)/\b*(rgcd (rgcd a b) c)⁻¹=((dE a b c).b:Rat)/\c*(rgcd (rgcd a b) c)⁻¹=((dE a b c).c:Rat):=by
 obtain⟨k1,k2,k3⟩:=Lc a b c;have hn:=Eq (c:=c) h0;have hD:=TN a b c;have hr:=Qk hD (Qk hD k1 k2) k3;unfold dE;generalize a.num*(b.den*c.den:Nat)=x at*;generalize b.num*(a.den*c.den:Nat)=y at*;generalize c.num*(a.den*b.den:Nat)=z at*;rw[fT] at hr;have hgn:Nat.gcd x.natAbs y.natAbs≠0:=fun h=>hn ⟨lQ.1 (mR h),lQ.1 (mW h)⟩;have hgp:0<Nat.gcd (Nat.gcd x.natAbs y.natAbs) z.natAbs:=nJ _ (iM hgn);have hg:(((Nat.gcd (Nat.gcd x.natAbs y.natAbs) z.natAbs:Nat):Int):Rat)≠0:=fun e=>by
  have:((Nat.gcd (Nat.gcd x.natAbs y.natAbs) z.natAbs:Nat):Int)=0:=by exact_mod_cast e
  omega
 refine⟨?_,?_,?_⟩
 .rw[KW hg hr k1];exact Le hgp (rK (lK _ _) (lK _ _))
 .rw[KW hg hr k2];exact Le hgp (rK (lK _ _) (mK _ _))
 .rw[KW hg hr k3];exact Le hgp (mK _ _)
theorem omW{p:Prop}(h:p:=by intro q hq;simp only[aW,dK,or_false] at hq;rcases hq with rfl|rfl|rfl;exact ha.mono oma;exact hb.mono oma;exact hc.mono oma):p:=h
theorem okd{p:Prop}(h:p:=by intro q hq;simp only[aW,dK,or_false] at hq;rcases hq with rfl|rfl|rfl;exact At ha;exact At hb;exact At hc):p:=h
def Od{a b c:Rat}[ha:BQ a 62][hb:BQ b 62][hc:BQ c 62](h0: ¬(a=0/\b=0)):PF GB prog 113 [eF a,eF b,eF c] (.tp [de (dE a b c),vB true]):=by
 obtain⟨e1,e2,e3⟩:=aIU (c:=c) h0;haveI:BQ (rgcd a b) 260:=BQ.mono (inferInstance:BQ (rgcd a b) _);haveI:BQ (rgcd (rgcd a b) c) 700:=BQ.mono (inferInstance:BQ (rgcd (rgcd a b) c) _);haveI:BQ (rgcd (rgcd a b) c)⁻¹ 700:=BQ.mono (inferInstance:BQ (rgcd (rgcd a b) c)⁻¹ _);have hl4:([((dE a b c).a:Rat),((dE a b c).b:Rat),((dE a b c).c:Rat)].map eF).length=3:=J;have hl3:[((dE a b c).a:Rat),((dE a b c).b:Rat),((dE a b c).c:Rat)].length=3:=J;refine fn func113 J J ntmps113 J J (fun C=>?_);refine cl J (Dj (q:=a)) J<|csd 11 J J J (fun hg11=>?_) (fun hg11=>?_)
 .
  refine cl J (Dj (q:=b)) J<|bd J J J (fun hc14=>?_) (fun hc14=>?_)
  .
   exact absurd ⟨hg11,hc14⟩ h0
  .
   refine cl rfl (vU (p:=a) (q:=b) (i:=62) (j:=62)) rfl<|cl rfl (vU (p:=rgcd a b) (q:=c) (i:=260) (j:=62)) rfl<|cl rfl (Kx (q:=rgcd (rgcd a b) c) (i:=700)) rfl<|ro (fu:=⟨0⟩) J J<|cq (hv:=by simp only[ak];exact⟨omd,we⟩) ([((dE a b c).a:Rat),((dE a b c).b:Rat),((dE a b c).c:Rat)].map eF) rfl (OS (L:=[a,b,c]) (k:=(rgcd (rgcd a b) c)⁻¹) (i:=700) okd omW (nb rfl)) (by simp only[bY,iU,e1,e2,e3]) rfl<|lb _ J J J<|lb _ J J J<|lb _ J J J<|rz J J
 .
  refine cl rfl (vU (p:=a) (q:=b) (i:=62) (j:=62)) rfl<|cl rfl (vU (p:=rgcd a b) (q:=c) (i:=260) (j:=62)) rfl<|cl rfl (Kx (q:=rgcd (rgcd a b) c) (i:=700)) rfl<|ro (fu:=⟨0⟩) J J<|cq (hv:=by simp only[ak];exact⟨omd,we⟩) ([((dE a b c).a:Rat),((dE a b c).b:Rat),((dE a b c).c:Rat)].map eF) rfl (OS (L:=[a,b,c]) (k:=(rgcd (rgcd a b) c)⁻¹) (i:=700) okd omW (nb rfl)) (by simp only[bY,iU,e1,e2,e3]) rfl<|lb _ J J J<|lb _ J J J<|lb _ J J J<|rz J J
def AZ{a b c:Rat}{i j k:Nat}(ha:BQ a i)(hb:BQ b j)(hc:BQ c k):(a.num*(b.den*c.den:Nat)).natAbs<2^(i+(j+k)):=by
 rw[fU,fT];exact lI ha.hn (lI hb.hd hc.hd)
theorem ZL{p q:ah}[hp:aD p 5][hq:aD q 5]:LB (ew p q):=by
 have h1:BQ (p.y-q.y) 11:=inferInstance;have h2:BQ (q.x-p.x) 11:=inferInstance;have h3:BQ (-((p.y-q.y)*p.x+(q.x-p.x)*p.y)) 33:=inferInstance;unfold ew dE;obtain⟨k1,k2,k3⟩:=xo ((p.y-q.y).num*((q.x-p.x).den*(-((p.y-q.y)*p.x+(q.x-p.x)*p.y)).den:Nat)) ((q.x-p.x).num*((p.y-q.y).den*(-((p.y-q.y)*p.x+(q.x-p.x)*p.y)).den:Nat)) ((-((p.y-q.y)*p.x+(q.x-p.x)*p.y)).num*((p.y-q.y).den*(q.x-p.x).den:Nat));have pw:(2:Nat)^(11+(11+33))<=2^96:=bR oma oma;have EB:(2:Nat)^(33+(11+11))<=2^96:=bR oma oma;exact⟨⟨dR k1 (cS (AZ h1 h2 h3) pw),dR k2 (cS (AZ h2 h1 h3) pw),dR k3 (cS (AZ h3 h1 h2) EB)⟩⟩
def YQ{a b c:ah}{i j k:Nat}[ha:aD a i][hb:aD b j][hc:aD c k](hi:i<=80000:=by decide)(hj:j<=80000:=by decide)(hk:k<=80000:=by decide):PF GB prog 163 [eZ a,eZ b,eZ c] (vI (bB a b c).num.sign):=by
 haveI h1:=HD b a;haveI h2:=HD c a;have e:(⟨b.x-a.x,b.y-a.y⟩:ah).cross ⟨c.x-a.x,c.y-a.y⟩=bB a b c:=by unfold ah.cross bB;grind
 refine fn func163 J J ntmps163 J J (fun C=>?_);refine cl J (Iz (p:=b) (q:=a) (i:=j) (j:=i) we we) J<|cl J (Iz (p:=c) (q:=a) (i:=k) (j:=i) we we) J<|cl J (FA (p:=⟨b.x-a.x,b.y-a.y⟩) (q:=⟨c.x-a.x,c.y-a.y⟩) (i:=j+i+1) (j:=k+i+1) (hp:=h1) (hq:=h2) we we) J<|cl J (nv (q:=(⟨b.x-a.x,b.y-a.y⟩:ah).cross ⟨c.x-a.x,c.y-a.y⟩) (h:= @BQ.cross _ _ _ _ h1 h2) we) J<|rz J (by rw[e]<;>rfl)
def rH(n p:ah)(t:List ah)(k:Nat):Rat:=(t.take k).foldl (fun b q=>if n.dot q<b then n.dot q else b) (n.dot p)
def Of{n p q:ah}{t:List ah}{k:Nat}(h:t[k]? =some q):rH n p t (k+1)=if n.dot q<rH n p t k then n.dot q else rH n p t k:=by
 unfold rH;rw[dJ,h];simp only[lZ,mV,iQ,List.foldl_nil]
theorem Fp{n p:ah}{t:List ah}{i j:Nat}[hn:aD n i](hb: ∀q∈p::t,aD q j): ∀k,BQ (rH n p t k) (i+j+(i+j)+1)
 |0=>by
  haveI:=hb p aQ;exact(inferInstance:BQ (n.dot p) _)
 |k+1=>by
  cases h:t[k]? with
  |none=>
   have e:rH n p t (k+1)=rH n p t k:=by
    unfold rH;rw[dJ,h];simp
   rw[e];exact Fp hb k
  |some q=>
   rw[Of h];haveI:=hb q (aJ _ (aK h));split
   .exact(inferInstance:BQ (n.dot q) _)
   .exact Fp hb k
theorem OX{n:ah}{l:List ah}{i j:Nat}[aD n i](hb: ∀q∈l,aD q j)(hne:l≠[]):BQ (jb n l) (i+j+(i+j)+1):=by
 cases l with
 |nil=>exact absurd J hne
 |cons p t=>
  have:=Fp (n:=n) (i:=i) hb t.length;unfold rH at this;rwa [cN] at this
def Eg(l:List ah):cO 6 (l.map eZ):=fun d hd=>by
 obtain⟨x,_,rfl⟩:=aU.1 hd;exact⟨J,J⟩
def R2{n:ah}{l:List ah}{i j:Nat}[hn:aD n i](hb: ∀q∈l,aD q j)(hne:l≠[])(hi:i<=20000)(hj:j<=20000)(hk:l.length<=100000):PF GB prog 115 [eZ n, .sl (l.map eZ)] (eF (jb n l)):=by
 obtain⟨p,t,rfl⟩: ∃p t,l=p::t:=by cases l with|nil=>exact absurd rfl hne|cons p t=>exact⟨p,t,rfl⟩
 have hml:((p::t).map eZ).length=t.length+1:=by simp
 have hml2:(t.map eZ).length=t.length:=aX ..;rw[aS] at hk;have hp:=hb p aQ;obtain⟨S,hS⟩: ∃S,S=rH n p t:=⟨_,rfl⟩;have hSb: ∀k,BQ (S k) (i+j+(i+j)+1):=by rw[hS];exact Fp hb
 have hS0:n.dot p=S 0:=by rw[hS];rfl
 refine fn func115 J J ntmps115 J J (fun C=>?_);refine ix _ J J J<|cl (fu:=⟨0⟩) J (vO (p:=n) (q:=p) (i:=i) (j:=j) we we) J<|aj 12 (.d (eF (S 0))) J (by rw[hS0])<|gx J<|kp (fu:=⟨1⟩) 1 (t.length+1) (t.map eZ) J J (by rw[hml]) (by rw[bM (by rw[hml];exact bV _)];rfl) (Eg _) we we J<|aj 15 (.d (vI (t.length:Nat))) J (by rw[hml2]<;>rfl)<|gx J<|lp (X:=Nat) (fun k=>[(16, .d (vI (k:Nat))),(5, .ov 5 0)]) (fun k=>[(5,some (.o 191 [.d (vI (dP (S k))), .d (vI (dO (S k))), .d (dC (S k))] true))]) (fun k=>k<=t.length) (fun k=>t.length-k) 0 J (aN _) (fun _=>J) (fun k hk=>?_);haveI:=hSb k;refine br J J J (fun hc17=>?_) (fun hc17=>?_)
 .
  obtain⟨q,hx⟩: ∃u,t[k]? =some u:=⟨_,aZ we⟩;haveI:=hb q (aJ _ (aK hx));have eS:S (k+1)=if n.dot q<S k then n.dot q else S k:=by rw[hS];exact Of hx
  refine ix _ J (cp hx) J<|cl J (vO (p:=n) (q:=q) (i:=i) (j:=j) we we) J<|cl (fu:=⟨0⟩) J (SI (p:=S k) (q:=n.dot q) (i:=i+j+(i+j)+1) (j:=i+j+(i+j)+1) we we) J<|aj 24 (.d (eF (S (k+1)))) J (by rw[eS])<|gx (hv:=by simp only[ak];exact⟨omd,we⟩) J<|at_ (k+1) ⟨we,we⟩
 .
  obtain rfl:k=t.length:=by omega
  exact rz J (by rw[hS];unfold rH;rw[cN]<;>rfl)
def aNg:Option Rat->DV
 |some m=> .tp [eF m,vB true]
 |none=> .tp [.ag [vI 0,vI 0, .v (.pointer none)],vB false]
theorem NZ{c:ao}(hc:eE c): ∀q∈i5 c,aD q 3500:=fun q hq=>by
 rcases bZ.1 hq with h|h
 .obtain⟨s,hs,rfl⟩:=aU.1 h
  exact azW (hc s hs)
 .have hlb: ∀l∈c.map (fun s=>s.l),LB l:=fun l hl=>by
   obtain⟨s,hs,rfl⟩:=aU.1 hl;exact(hc s hs).lb
  exact aD.mono (Sz hlb q h) oma
def Pj{c:ao}{n:ah}(h:c=[]\/r5 n c=true):fD c n=none:=by
 unfold fD;rw[if_pos];rcases h with h|h
 .rw[h];rfl
 .rw[h,sM]
def IC{c:ao}{n:ah}{s:bD}(hs:s∈c)(h:gv n s=true):fD c n=none:=by
 unfold fD;split
 .rfl
 .rw[if_pos (gK.2 ⟨s,hs,h⟩)]
def aFx{c:ao}{n:ah}(h0:c≠[])(h1:r5 n c=false)(h: ∀s∈c,gv n s=false):fD c n=some (jb n (i5 c)):=by
 unfold fD;have e:c.isEmpty=false:=by cases c with|nil=>exact absurd J h0|cons s t=>rfl
 rw[e,h1,if_neg oma,if_neg (fun k=>by obtain⟨s,hs,k⟩:=gK.1 k;rw[h s hs] at k;cases k)]
def r7(c:ao):List ah:=c.map fun s=>s.l.at s.v.sample
def aAo{c:ao}{k:Nat}{s:bD}(h:c[k]? =some s):((r7 (c.take k)).map eZ)++[eZ (s.l.at s.v.sample)]=(r7 (c.take (k+1))).map eZ:=by
 unfold r7;rw[dJ,h,aL,aL];rfl
def Y0{n:ah}{c:ao}(h:c.length≠1):r5 n c=false:=by
 match c,h with
 |[],_=>rfl
 |[s],h=>exact absurd J h
 |_::_::_,_=>rfl
def E3{x:Rat}:x.num.sign<0↔x<0:=by
 rw[<-Rat.not_le,<-sY];constructor
 .intro h k
  rcases(show x.num=0\/0<x.num by omega) with e|e
  .rw[e] at h;exact absurd h oma
  .rw[gQ e] at h;omega
 .intro h
  rw[fQ we];decide
def WO{x:Rat}:0<x.num↔0<x:=by
 constructor
 .intro h
  refine Rat.not_le.1 fun k=>?_;have h2:=sY.2 (show 0<= -x by grind);rw[oW] at h2;omega
 .intro h
  have h1:=sY.2 (dZ h);have h2:x.num≠0:=fun e=>by rw[mT.1 e] at h;exact absurd h oma
  omega
def E1{x:Rat}:0<x.num.sign↔0<x:=by
 rw[<-WO];constructor
 .intro h
  refine Decidable.not_not.1 fun k=>?_;rcases(show x.num=0\/x.num<0 by omega) with e|e
  .rw[e] at h;exact absurd h oma
  .rw[fQ e] at h;exact absurd h oma
 .intro h
  rw[gQ h];decide
def aM7{n:ah}{s:bD}(h:s.v.nh=true)(k:(s.l.dir.dot n).num.sign<0):gv n s=true:=by
 unfold gv;rw[h,decide_eq_true (E3.1 k)];rfl
def QE{n:ah}{s:bD}(h:s.v.nl=true)(k:0<(s.l.dir.dot n).num.sign):gv n s=true:=by
 unfold gv;rw[h,decide_eq_true (E1.1 k),pS,sM]
def GP{n:ah}{s:bD}(h1:s.v.nh=false\/ ¬(s.l.dir.dot n).num.sign<0)(h2:s.v.nl=false\/ ¬0<(s.l.dir.dot n).num.sign):gv n s=false:=by
 unfold gv;have e1:(s.v.nh&&decide (s.l.dir.dot n<0))=false:=by
  rcases h1 with h|h
  .rw[h];rfl
  .rw[decide_eq_false fun k=>h (E3.2 k),Bool.and_false]
 have e2:(s.v.nl&&decide (0<s.l.dir.dot n))=false:=by
  rcases h2 with h|h
  .rw[h];rfl
  .rw[decide_eq_false fun k=>h (E1.2 k),Bool.and_false]
 rw[e1,e2];rfl
def aD5{n:ah}{c:ao}{k:Nat}{s:bD}(h:c[k]? =some s)(hk: ∀s∈c.take k,gv n s=false)(hs:gv n s=false): ∀s∈c.take (k+1),gv n s=false:=fun u hu=>by
 rw[dJ,h] at hu;rcases bZ.1 hu with hu|hu
 .exact hk u hu
 .rw[show u=s by simpa using hu];exact hs
def QH{c:ao}(h:c≠[]):i5 c≠[]:=fun e=>h (by
 have:=(List.append_eq_nil_iff.1 e).1;exact uJ.1 this)
def ZK(c:ao)(h:c.length<=20000):(i5 c).length<=100000:=by
 unfold i5;have:=Ll (c.map (·.l));rw[aY,aX];rw[aX] at this;omega
def Sw{c:ao}{n:ah}{j:Nat}[hn:aD n j](hc:eE c)(hj:j<=10000)(hk:c.length<=20000):PF GB prog 119 [eC c,eZ n] (aNg (fD c n)):=by
 have hml:(c.map dq).length=c.length:=aX ..;have hback: ∀s,c[0]? =some s->c.length=1->r5 n c=decide (s.l.nor.dot n<0):=fun s h1 h2=>by match c,h1,h2 with|[u],h1,_=>cases h1;rfl
 refine fn (fu:=⟨8⟩) func119 J J ntmps119 J J (fun C=>?_);refine mg (X:=Unit) (fun _=>[]) (fun _=>[]) (fun _=>c≠[]/\r5 n c=false) [] [] rfl ?_ (fun _=>J) (fun _ hm=>?_)
 .
  refine gx (fu:=⟨4⟩) J<|aj 11 (.d (vI (c.length:Nat))) J omo<|gx (fu:=⟨0⟩) J<|jP (v1:=fun hg12=>by simp only[ak];kernel_rfl) (fu2:=⟨3⟩) J J J J (fun hg12=>?_) (fun hg12=>?_)
  .
   exact rz J (by rw[Pj (.inl (cY we))]<;>rfl)
  .
   have hc0:c≠[]:=fun e=>hg12 (by rw[e];rfl);refine aj 15 (.d (vI (c.length:Nat))) J omo<|gx (fu:=⟨0⟩) J<|jP (v2:=fun hg16=>by simp only[ak];kernel_rfl) J J J J (fun hg16=>?_) (fun hg16=>?_)
   .
    obtain⟨s,hx⟩: ∃s,c[0]? =some s:=⟨_,aZ we⟩;have hbe:=hback s hx we;haveI:=(hc s (aK hx)).lb;haveI:=(hc s (aK hx)).v.lo;haveI:=(hc s (aK hx)).v.hi;refine ix _ J (Ju hx) J<|cl J (zt (l:=s.l)) J<|cl J (vO (p:=s.l.nor) (q:=n) (i:=97) (j:=j) oma we) J<|cl J (nv (q:=s.l.nor.dot n) we) J<|br J J J (fun hc28=>?_) (fun hc28=>?_)
    .
     exact rz J (by rw[Pj (.inr (by rw[hbe];exact decide_eq_true (E3.1 hc28)))]<;>rfl)
    .
     exact at_ () ⟨hc0,by rw[hbe];exact decide_eq_false fun k=>hc28 (E3.2 k)⟩
   .
    exact at_ () ⟨hc0,Y0 we⟩
 .
  obtain⟨hne,hbk⟩:=hm;refine nr 6 6 199 6 J J J<|lp (X:=Nat) (fun k=>[(32, .d (vI (k:Nat))),(6, .rw 6)]) (fun k=>[(6,some (.b 199 6 ((r7 (c.take k)).map eZ) true))]) (fun k=>k<=c.length/\ ∀s∈c.take k,gv n s=false) (fun k=>c.length-k) 0 J ⟨aN _,fun s hs=>by simp at hs⟩ (fun _=>J) (fun k hk=>?_);obtain⟨hk1,hk2⟩:=hk;have hm4:(r7 (c.take k)).length<=k:=by unfold r7;rw[aX,bL];omega
  have hm3:((r7 (c.take k)).map eZ).length<=k:=by rw[aX];exact hm4
  refine br J J J (fun hc33=>?_) (fun hc33=>?_)
  .
   obtain⟨s,hx⟩: ∃u,c[k]? =some u:=⟨_,aZ we⟩;haveI:=(hc s (aK hx)).lb;haveI:=(hc s (aK hx)).v.lo;haveI:=(hc s (aK hx)).v.hi;refine ix _ J (cp hx) J<|cl J (z7 (l:=s.l)) J<|cl J (vO (p:=s.l.dir) (q:=n) (i:=97) (j:=j) oma we) J<|cl (fu:=⟨4⟩) J (nv (q:=s.l.dir.dot n) we) J<|mg (X:=Unit) (fun _=>[]) (fun _=>[]) (fun _=>gv n s=false) [] [] rfl ?_ (fun _=>J) (fun _ hop=>?_)
   .
    refine gx J<|ja 45 J J J (fun hg45=>?_) (fun hg45=>?_)
    .
     refine cs 49 J J J (fun hg49=>?_) (fun hg49=>?_)
     .
      exact rz J (by rw[IC (aK hx) (aM7 hg45 hg49)]<;>rfl)
     .
      refine ja 53 J J J (fun hg53=>?_) (fun hg53=>?_)
      .
       refine br J J J (fun hc57=>?_) (fun hc57=>?_)
       .
        exact rz J (by rw[IC (aK hx) (QE hg53 hc57)]<;>rfl)
       .
        exact at_ () (GP (.inr hg49) (.inr hc57))
      .
       exact at_ () (GP (.inr hg49) (.inl hg53))
    .
     refine ja 53 J J J (fun hg53=>?_) (fun hg53=>?_)
     .
      refine br J J J (fun hc57=>?_) (fun hc57=>?_)
      .
       exact rz J (by rw[IC (aK hx) (QE hg53 hc57)]<;>rfl)
      .
       exact at_ () (GP (.inl hg45) (.inr hc57))
     .
      exact at_ () (GP (.inl hg45) (.inl hg53))
   .
    refine cl J (NT (v:=s.v) (i:=1200)) J<|cl J (VB (l:=s.l) (t:=s.v.sample)) J<|rf J J<|ap (hv:=by simp only[ak];exact⟨omd,we⟩) ((r7 (c.take (k+1))).map eZ) J (aAo hx) (Eg [_]) J<|ek 67 6 J<|at_ (k+1) ⟨⟨we,aD5 hx hk2 hop⟩,we⟩
  .
   obtain rfl:k=c.length:=by omega
   rw[cN] at hk2⊢;have hm5:(r7 c).length=c.length:=aX ..;have hm6:=Ll (c.map (·.l));rw[aX] at hm6;refine cl J (aEY (c:=c) (fun s hs=>(hc s hs).lb) we) J<|kz ((i5 c).map eZ) J (by unfold i5 r7;rw[aL]<;>rfl) (Eg _) J<|cl J (R2 (n:=n) (l:=i5 c) (i:=j) (j:=3500) (NZ hc) (QH hne) we oma (ZK c we)) J<|rz J (by rw[aFx hne hbk hk2]<;>rfl)
def aHS{c:ao}{n:ah}{j:Nat}{m:Rat}[hn:aD n j](hc:eE c)(hj:j<=10000)(hk:c.length<=20000)(h:fD c n=some m):PF GB prog 119 [eC c,eZ n] (.tp [eF m, .v (.bool true)]):=by
 have:=Sw (GB:=GB) (n:=n) hc hj hk;rw[h] at this;exact this
def aI0{c:ao}{n:ah}{j:Nat}[hn:aD n j](hc:eE c)(hj:j<=10000)(hk:c.length<=20000)(h:fD c n=none):PF GB prog 119 [eC c,eZ n] (.tp [.ag [vI 0,vI 0, .v (.pointer none)], .v (.bool false)]):=by
 have:=Sw (GB:=GB) (n:=n) hc hj hk;rw[h] at this;exact this
def aAL{l:List ah}{k:Nat}{q:ah}(h:l[k]? =some q):(((l.take k).map aG).map eZ)++[eZ (aG q)]=((l.take (k+1)).map aG).map eZ:=by
 rw[dJ,h,aL,aL];rfl
def Zb{l:List ah}{j:Nat}(hb: ∀q∈l,aD q j)(hj:j<=20000)(hk:l.length<=100000):PF GB prog 59 [.sl (l.map eZ)] (.sl ((l.map aG).map eZ)):=by
 have hml:(l.map eZ).length=l.length:=aX ..;refine fn (fu:=⟨15⟩) func59 J J ntmps59 J J (fun C=>?_);refine aj 7 (.d (vI (l.length:Nat))) J omo<|gx J<|nr 3 3 199 6 J J J<|lp (X:=Nat) (fun k=>[(8, .d (vI (k:Nat))),(3, .rw 3)]) (fun k=>[(3,some (.b 199 6 (((l.take k).map aG).map eZ) true))]) (fun k=>k<=l.length) (fun k=>l.length-k) 0 J (aN _) (fun _=>J) (fun k hk=>?_);have hm3:(((l.take k).map aG).map eZ).length<=k:=by rw[aX,aX,bL];omega
 refine br J J J (fun hc9=>?_) (fun hc9=>?_)
 .
  obtain⟨q,hx⟩: ∃u,l[k]? =some u:=⟨_,aZ we⟩;haveI:=hb q (aK hx);refine ix _ J (cp hx) J<|cl J (aH7 (p:=q) (i:=j) we) J<|rf J J<|ap ((((l.take (k+1)).map aG)).map eZ) J (aAL hx) (Eg [_]) J<|ek 16 3 J<|at_ (k+1) ⟨we,we⟩
 .
  obtain rfl:k=l.length:=by omega
  rw[cN];refine gw 3 J<|rz J J
def Fe{P:Nat->Prop}{k:Nat}(h: ∀i<k,P i)(hk:P k): ∀i<k+1,P i:=fun i hi=>by
 rcases Nat.lt_succ_iff_lt_or_eq.1 hi with h1|h1
 .exact h i h1
 .rw[h1];exact hk
def X5{v:List ah}{i:Nat}(hb: ∀u∈v,aD u i)(hi:i<=80000)(hn:v.length<=100000):PF GB prog 104 [.sl (v.map eZ)] (vB (ln v)):=by
 have hrl:(od v).length=v.length:=by unfold od;rw[aX,jY]
 have hml:(v.map eZ).length=v.length:=aX ..;refine Ii func104 J J ntmps104 J J (fun C h0=>?_);refine Lq J J J Iq (fun _=>J) (fun GB1 pv hg1 hpv=>?_);refine AO 1 2000001 h0.fx J<|AO 2 2000002 h0.fx J ?_;refine If (σ:=Unit) (fun _=>[(2000001,some (.o 122 [.d (.sl (v.map eZ))] true)),(2000002,some (.o 4 [.ff] true))]) (fun k=> ∀k'<k,∀i<v.length,ue v k' i=true) (fun _=>[(2000001,some (.o 122 [.d (.sl (v.map eZ))] true)),(2000002,some (.o 4 [.ff] true))]) (fun _=>ln v=false) [(1, .ov 2000001 0),(2, .ov 2000002 0)] h0 J (Kd) (.cons hpv .nil) ⟨J,J,trivial⟩ J ⟨J,J,trivial⟩ (fun k hk=>absurd hk (tT k)) M0 J J (fun k e GB' hE hg hp=>?_) (fun D hD hx hp=>?_) (fun D s hD hx hq=>?_)
 .obtain⟨q1,q2,hpx,hqx,rfl⟩:=JV hE
  haveI:=hb q1 (aK hpx);haveI:=hb q2 (aK hqx);have hkn:=(aR.1 hpx).1;refine⟨?_,?_,fun C2=>?_,fun C2=>?_⟩
  rotate_left 2
  .refine gx J<|JQ J J J ⟨J,J,J⟩ J ?_
   exact atR
  .skip
   refine gx (fu:=⟨5⟩) J<|aj 12 (.d (vI (v.length:Nat))) J omo<|gx J<|lp (X:=Nat) (fun j=>[(13, .d (vI (j:Nat)))]) (fun j=>[]) (fun j=>j<=v.length/\ ∀i<j,ue v k i=true) (fun j=>v.length-j) 0 J ⟨aN _,fun i hi=>absurd hi (tT i)⟩ (fun _=>J) (fun j hk=>?_);obtain⟨hk1,hk2⟩:=hk;refine br J J J (fun hc14=>?_) (fun hc14=>?_)
   .
    obtain⟨w,hx⟩: ∃u,v[j]? =some u:=⟨_,aZ we⟩;haveI:=hb w (aK hx);have hcv:=aLr hpx hqx hx;refine ix _ J (cp hx) J<|cs (fu1:=⟨5⟩) 21 J J J (fun hg21=>?_) (fun hg21=>?_)
    .
     refine aj 26 (.d (vI (v.length:Nat))) J omo<|gx (fu:=⟨1⟩) J<|aj 27 (.d (vI (((k+1)%v.length:Nat):Int))) J J<|gx J<|cs 30 J J J (fun hg30=>?_) (fun hg30=>?_)
     .
      refine pC 0 (e:=199) (len:=2) (s:=6) J omd omd oma J<|pC 1 (e:=199) (len:=2) (s:=6) J omd omd oma J<|cl J (YQ (a:=q1) (b:=q2) (c:=w) (i:=i) (j:=i) (k:=i) we we we) J<|br J J J (fun hc38=>?_) (fun hc38=>?_)
      .
       exact rqX () (aHX hkn (aR.1 hx).1 (by rw[hcv,decide_eq_false we,decide_eq_false we,decide_eq_false (fun q=>by have:=E1.2 q;omega)]<;>rfl))
      .
       exact at_ (j+1) ⟨⟨we,Fe hk2 (by rw[hcv,decide_eq_true (E1.1 we),sM,sM])⟩,we⟩
     .
      exact at_ (j+1) ⟨⟨we,Fe hk2 (by rw[hcv,decide_eq_true (show j=(k+1)%v.length by omega),Bool.true_or,sM])⟩,we⟩
    .
     exact at_ (j+1) ⟨⟨we,Fe hk2 (by rw[hcv,decide_eq_true (show j=k by omega),Bool.true_or])⟩,we⟩
   .
    obtain rfl:j=v.length:=by omega
    exact rq (Fe hp hk2) ⟨J,J,trivial⟩
 .refine gx J<|?_
  rw[hrl] at hp;exact Ff hD hx J (by rw[Nr.2 hp]<;>rfl)
 .refine gx J<|?_
  exact Ff hD hx J (by rw[hq]<;>rfl)
section
variable {GB:Gh} {ai al ae:Addr} (hE:EG GB ai al ae)
include hE
section
variable {t:Tr} (h:t.gd) (hs:t.size<=65536) (hd:t.depth<=1000)
include h hs hd
end
end
def aun{c:List aa}(hok: ∀l∈c,l.ok):l7 c=true↔ ∃p,d8 c p:=by
 rw[<-Bj hok];unfold l7 jv
 cases c with
 |nil=>simp
 |cons a b=>
  rw[if_neg omq];simp only[decide_eq_true_eq,aX,List.isEmpty_cons,pR,gK];constructor
  .intro h
   obtain⟨m,hm⟩:=List.exists_mem_of_length_pos (l:=cj (a::b)) we;exact⟨m,ke.1 hm⟩
  .rintro ⟨m,hm⟩
   have:=pY (ke.2 hm);omega
structure RL.wd (r:RL):Prop where
 a:bH r.da
 b:bH r.db
 c:bH r.dc
def O2{ls:List aa}{b:Bool}(h:l7 ls=b)(hc: ∀m∈ls,LB m)(hok: ∀m∈ls,m.ok)(hn:ls.length<=1000:=by omega):PF GB prog 80 [.sl (ls.map eL)] (.tp [.sl ((cj ls).map eL),vB b]):=by
 subst h;exact DL hc hok hn

def ql(c:List aa):Tr:=if l7 c then jB (cj c) else .leaf false
def Su{L:List aa}{j:Nat}{l:aa}(h:L[j]? =some l):jB (L.drop j)= .node l (jB (L.drop (j+1))) (.leaf false):=by
 obtain⟨h1,h2⟩:=aR.1 h;rw[bK h1,h2];rfl
def aBU{c:ao}{j:Nat}{s:bD}(h:c[j]? =some s):(c.map (·.l))[j]? =some s.l:=by rw[cJ,h];rfl
def axu{c:ao}(hn:c.length<=100000):PF GB prog 64 [.sl (c.map dq)] (eU (jB (c.map (·.l)))):=by
 have hml:(c.map dq).length=c.length:=aX ..;refine fn func64 J J ntmps64 J J (fun C=>?_);refine cl (fu:=⟨8⟩) J (sA (b:=true)) J<|aj 7 (.d (vI (c.length:Nat))) J omo<|gx J<|aj 3 (.d (eU (jB ((c.map (·.l)).drop c.length)))) J (by rw[iN omc]<;>rfl)<|lp (X:=Nat) (fun k=>[(4, .d (vI ((k:Int)-1))),(3, .d (eU (jB ((c.map (·.l)).drop k))))]) (fun k=>[]) (fun k=>k<=c.length) (fun k=>k) c.length J (bV _) (fun _=>J) (fun k hk=>?_);refine br (fu1:=⟨7⟩) J J J (fun hc10=>?_) (fun hc10=>?_)
 .
  obtain⟨j,rfl⟩: ∃j,k=j+1:=⟨k-1,we⟩;obtain⟨s,hx⟩: ∃u,c[j]? =some u:=⟨_,aZ we⟩;refine aj 14 (.d (vI (j:Nat))) J omI<|gx J<|ix _ J (cp hx) J<|cl J (sA (b:=false)) J<|cl (hv:=by simp only[ak];exact⟨omd,we⟩) J (Bo (l:=s.l)) J<|aj 4 (.d (vI ((j:Int)-1))) J omI<|aj 3 (.d (eU (jB ((c.map (·.l)).drop j)))) J (by rw[Su (aBU hx)]<;>rfl)<|at_ j ⟨we,we⟩
 .
  obtain rfl:k=0:=by omega
  exact rz J J
def WC{c:List aa}(hb: ∀l∈c,LB l)(hok: ∀l∈c,l.ok)(hn:c.length<=200)(h:l7 c=true):PF GB prog 40 [.sl (c.map eL)] (eT (ql c)):=by
 have hcl:=pI c;have hcb: ∀l∈cj c,LB l:=fun l hl=>hb l (ke.1 hl).1;have hml:((cj c).map eL).length=(cj c).length:=aX ..;refine fn func40 J J ntmps40 J J (fun C=>?_);refine cl (fu:=⟨12⟩) J (O2 h hb hok) J<|aj 12 (.d (.v (.bool false))) J J<|th 12 J<|gx J<|cl (fu:=⟨8⟩) J oC J<|aj 16 (.d (vI ((cj c).length:Nat))) J omo<|gx J<|aj 4 (.d (eT (jB ((cj c).drop (cj c).length)))) J (by rw[iN omc]<;>rfl)<|lp (X:=Nat) (fun k=>[(5, .d (vI ((k:Int)-1))),(4, .d (eT (jB ((cj c).drop k))))]) (fun k=>[]) (fun k=>k<=(cj c).length) (fun k=>k) (cj c).length J (bV _) (fun _=>J) (fun k hk=>?_);refine br (fu1:=⟨7⟩) J J J (fun hc19=>?_) (fun hc19=>?_)
 .
  obtain⟨j,rfl⟩: ∃j,k=j+1:=⟨k-1,we⟩;obtain⟨s,hx⟩: ∃u,(cj c)[j]? =some u:=⟨_,aZ we⟩;refine aj 23 (.d (vI (j:Nat))) J omI<|gx J<|ix _ J (cp hx) J<|cl (hv:=by simp only[ak];exact⟨omd,we⟩) J oC J<|aj 5 (.d (vI ((j:Int)-1))) J omI<|gw 29 J<|aj 4 (.d (eT (jB ((cj c).drop j)))) J (by rw[Su hx]<;>rfl)<|at_ j ⟨we,we⟩
 .
  obtain rfl:k=0:=by omega
  exact rz J (by unfold ql;rw[if_pos h]<;>rfl)
def aKZ{c:List aa}(hb: ∀l∈c,LB l)(hok: ∀l∈c,l.ok)(hn:c.length<=200)(h:l7 c=false):PF GB prog 40 [.sl (c.map eL)] (eT (ql c)):=by
 have hcl:=pI c;have hcb: ∀l∈cj c,LB l:=fun l hl=>hb l (ke.1 hl).1;have hml:((cj c).map eL).length=(cj c).length:=aX ..;refine fn func40 J J ntmps40 J J (fun C=>?_);refine cl (fu:=⟨12⟩) J (O2 h hb hok) J<|aj 12 (.d (.v (.bool true))) J J<|ld 12 J<|gx J<|cl J oC J<|rz J (by unfold ql;rw[h]<;>rfl)
def aLL{c:List aa}(hb: ∀l∈c,LB l)(hok: ∀l∈c,l.ok)(hn:c.length<=200):PF GB prog 40 [.sl (c.map eL)] (eT (ql c)):=by
 cases h:l7 c with
 |false=>exact aKZ hb hok hn h
 |true=>exact WC hb hok hn h
def EW(p q:ah):cD p q (((1:Int):Int):Rat)=p.add q:=by
 unfold cD ah.add;have e:(((1:Int):Int):Rat)=1:=J;rw[e];simp only[ah.mk.injEq];constructor<;>grind
def aIn(p q:ah):cD q p (-1)=⟨q.x-p.x,q.y-p.y⟩:=by
 unfold cD;simp only[ah.mk.injEq];constructor<;>grind
def aHf(z:Int):eQ ((z:Int):Rat)= .ag [.v (.bool (decide (z<0))),dN z.natAbs,dD 1]:=by
 unfold eQ;rw[lL,lM]
def Ja{a:Rat}{m:Nat}{z:Int}(h:a*((m:Int):Rat)=(z:Rat)):eQ (a*((m:Int):Rat))=eQ (z:Rat):=by rw[h]
def EC{p q:ah}{i:Nat}[hp:aD p i][hq:aD q i](hi:i<=20000)(h: ¬(p.x=q.x/\p.y=q.y)):PF GB prog 45 [eP p,eP q] (.tp [eL (ew p q), .v (.bool true)]):=by
 obtain⟨a,ha⟩: ∃a,a=p.y-q.y:=⟨_,rfl⟩;obtain⟨b,hb⟩: ∃b,b=q.x-p.x:=⟨_,rfl⟩;obtain⟨c,hc⟩: ∃c,c= -(a*p.x+b*p.y):=⟨_,rfl⟩;haveI b1:BQ a (2*i+1):=by rw[ha];exact BQ.mono (inferInstance:BQ (p.y-q.y) _) we
 haveI b2:BQ b (2*i+1):=by rw[hb];exact BQ.mono (inferInstance:BQ (q.x-p.x) _) we
 haveI b3:BQ c (8*i+9):=by rw[hc];exact BQ.mono (inferInstance:BQ (-(a*p.x+b*p.y)) _) we
 have hne: ¬(a=0/\b=0):=fun⟨u,v⟩=>h ⟨by rw[hb] at v;grind,by rw[ha] at u;grind⟩;obtain⟨o1,o2,o3⟩:=Lc a b c;obtain⟨m,hm⟩: ∃m,m=lC a b c:=⟨_,rfl⟩;rw[<-hm] at o1 o2 o3;have hm2:a.den*b.den*c.den=m:=by rw[hm,lC,cR]
 obtain⟨x,hx⟩: ∃x,x=a.num*(b.den*c.den:Nat):=⟨_,rfl⟩;obtain⟨y,hy⟩: ∃y,y=b.num*(a.den*c.den:Nat):=⟨_,rfl⟩;obtain⟨z,hz⟩: ∃z,z=c.num*(a.den*b.den:Nat):=⟨_,rfl⟩;rw[<-hx] at o1;rw[<-hy] at o2;rw[<-hz] at o3;have hthr:ew p q=m7 x y z:=by rw[hx,hy,hz,hc,ha,hb];rfl
 have hok: ¬(x=0/\y=0):=by rw[hx,hy];exact Eq hne
 haveI bm:BI (m:Int) (16*i+40):=⟨by rw[hm];exact cS (lI b1.hd (lI b2.hd b3.hd)) (bR oma we)⟩;haveI bx:BI x (16*i+40):=⟨by rw[hx];exact cS (AZ b1 b2 b3) (bR oma we)⟩;haveI by_:BI y (16*i+40):=⟨by rw[hy];exact cS (AZ b2 b1 b3) (bR oma we)⟩;haveI bz:BI z (16*i+40):=⟨by rw[hz];exact cS (AZ b3 b1 b2) (bR oma we)⟩;haveI n1:BN a.den (2*i+1):=⟨b1.hd⟩;haveI n2:BN b.den (2*i+1):=⟨b2.hd⟩;haveI n3:BN c.den (8*i+9):=⟨b3.hd⟩;refine fn func45 J J ntmps45 J J (fun C=>?_);refine cl J (PF.eq (Mr (p:=q) (q:=p) (i:=i) (j:=i) we we) (show _=eP ⟨q.x-p.x,q.y-p.y⟩ by rw[aIn])) J<|cl (fu:=⟨2⟩) J (PF.eq (pz (q:=q.y-p.y)) (show eQ (-(q.y-p.y))=eQ a by rw[ha];congr 1;grind)) J<|aj 19 (.d (eQ b)) J (by rw[hb]<;>rfl)<|gx J<|cl J (ik (a:=a) (b:=p.x) (i:=2*i+1) (j:=i) we we) J<|cl J (ik (a:=b) (b:=p.y) (i:=2*i+1) (j:=i) we we) J<|cl J (m8 (a:=a*p.x) (b:=b*p.y) (i:=2*i+1+i) (j:=2*i+1+i) we we) J<|cl J (PF.eq (pz (q:=a*p.x+b*p.y)) (show _=eQ c by rw[hc])) J<|cl J (jx (q:=a)) J<|cl J (jx (q:=b)) J<|cl J (qi (a:=a.den) (b:=b.den) (ia:=2*i+1) (ib:=2*i+1) we we) J<|cl J (jx (q:=c)) J<|cl J (PF.eq (qi (a:=a.den*b.den) (b:=c.den) (ia:=2*i+1+(2*i+1)) (ib:=8*i+9) we we) (show _=dN m by rw[hm2])) J<|cl (fu:=⟨1⟩) J (kG (neg:=false) (m:=m)) J<|aj 40 (.d (eQ ((m:Int):Rat))) J (by rw[aHf];simp[zv,eI];rfl)<|gx J<|cl J (PF.eq (ik (a:=a) (b:=((m:Int):Rat)) (i:=2*i+1) (j:=16*i+41) we we) (Ja o1)) J<|cl J (PF.eq (ik (a:=b) (b:=((m:Int):Rat)) (i:=2*i+1) (j:=16*i+41) we we) (Ja o2)) J<|cl J (PF.eq (ik (a:=c) (b:=((m:Int):Rat)) (i:=8*i+9) (j:=16*i+41) we we) (Ja o3)) J<|cl J (Ut (a:=x) (b:=y) (c:=z) (i:=16*i+40) bx by_ bz we hok) J<|rz J (by rw[hthr];rfl)
def lG(n:ah)(V:List ah)(k:Nat):ah:=(V.take k).foldl (fun b q=>if n.dot q<n.dot b then q else b) (V.getD 0 ⟨0,0⟩)
def P5{n q:ah}{V:List ah}{k:Nat}(h:V[k]? =some q):lG n V (k+1)=if n.dot q<n.dot (lG n V k) then q else lG n V k:=by
 unfold lG;rw[dJ,h];simp only[lZ,mV,iQ,List.foldl_nil]
def OE{n:ah}{V:List ah}(h:V≠[]):lG n V V.length=lB n V:=by
 cases V with
 |nil=>exact absurd J h
 |cons p t=>
  unfold lG lB;rw[cN,iQ];show List.foldl _ (if n.dot p<n.dot p then p else p) t=_;rw[if_neg omb]
def Eu{n:ah}{V:List ah}{P:ah->Prop}(h0:P (V.getD 0 ⟨0,0⟩))(h: ∀v∈V,P v): ∀k,P (lG n V k)
 |0=>h0
 |k+1=>by
  cases hk:V[k]? with
  |none=>
   have e:lG n V (k+1)=lG n V k:=by unfold lG;rw[dJ,hk];simp
   rw[e];exact Eu h0 h k
  |some q=>
   rw[P5 hk];split
   .exact h q (aK hk)
   .exact Eu h0 h k
def Ny(l:aa)(p:ah):l.dir.cross p=l.nor.dot p:=by unfold aa.dir aa.nor ah.cross ah.dot;dsimp only;grind
def R6{l:aa}{V:List ah}{k:Nat}{q:ah}(h:V[k]? =some q):(bE (l.dir.cross q) (l.dir.cross (lG l.nor V k))<0->lG l.nor V (k+1)=q)/\(¬bE (l.dir.cross q) (l.dir.cross (lG l.nor V k))<0->lG l.nor V (k+1)=lG l.nor V k):=by
 rw[P5 h,LF,Ny,Ny];exact⟨fun k=>if_pos k,fun k=>if_neg k⟩
def TD{l:aa}(h:l.ok)(Q:ah): ¬(Q.x=(Q.add l.dir).x/\Q.y=(Q.add l.dir).y):=fun⟨h1,h2⟩=>BB h (by
 unfold ah.add aa.dir at h1 h2;dsimp only at h1 h2;exact⟨omb,omb⟩)
def aFw{l:aa}{V:List ah}{j:Nat}[hl:LB l](hlo:l.ok)(hV:V≠[])(hb: ∀v∈V,aD v j)(hj:j<=10000)(hn:V.length<=100000):PF GB prog 81 [eL l, .sl (V.map eP)] (eL (oI l V)):=by
 have hml:(V.map eP).length=V.length:=aX ..;have hV0:0<V.length:=mU.2 hV;obtain⟨p0,h0⟩: ∃p,V[0]? =some p:=⟨_,aZ hV0⟩;obtain⟨S,hS⟩: ∃S,S=lG l.nor V:=⟨_,rfl⟩;have hg0:V.getD 0 ⟨0,0⟩=p0:=by rw[aV,h0];rfl
 have hS0:p0=S 0:=by rw[hS];show p0=(V.take 0).foldl _ _;rw[hg0];rfl
 have hSb: ∀k,aD (S k) j:=by rw[hS];exact Eu (by rw[hg0];exact hb p0 (aK h0)) hb
 have hSn:S V.length=lB l.nor V:=by rw[hS];exact OE hV
 refine fn func81 J J ntmps81 J J (fun C=>?_);refine ix (fu:=⟨1⟩) _ J (Ju h0) J<|aj 13 (.d (eP (S 0))) J (by rw[hS0]<;>rfl)<|gx (fu:=⟨9⟩) J<|aj 15 (.d (vI (V.length:Nat))) J omo<|gx J<|lp (X:=Nat) (fun k=>[(16, .d (vI (k:Nat))),(5, .ov 5 0)]) (fun k=>[(5,some (.o 63 [.d (.v (.bool (decide ((S k).x.num<0)))), .d (dN (S k).x.num.natAbs), .d (dD (S k).x.den), .d (.v (.bool (decide ((S k).y.num<0)))), .d (dN (S k).y.num.natAbs), .d (dD (S k).y.den)] true))]) (fun k=>k<=V.length) (fun k=>V.length-k) 0 J (aN _) (fun _=>J) (fun k hk=>?_);haveI:=hSb k;refine br J J J (fun hc17=>?_) (fun hc17=>?_)
 .
  obtain⟨q,hx⟩: ∃u,V[k]? =some u:=⟨_,aZ we⟩;haveI:=hb q (aK hx);obtain⟨e1,e2⟩:=R6 (l:=l) hx;rw[<-hS] at e1 e2;refine ix _ J (cp hx) J<|cl J (i8 (l:=l)) J<|cl J (rE (p:=l.dir) (q:=q) (i:=97) (j:=j) we we) J<|cl J (i8 (l:=l)) J<|cl J (rE (p:=l.dir) (q:=S k) (i:=97) (j:=j) we we) J<|cl J (lm (a:=l.dir.cross q) (b:=l.dir.cross (S k)) (i:=97+j+(97+j)+1) (j:=97+j+(97+j)+1) we we) J<|br (fu1:=⟨2⟩) J J J (fun hc29=>?_) (fun hc29=>?_)
  .
   refine aj 30 (.d (eP (S (k+1)))) J (by rw[e1 hc29]<;>rfl)<|gx J<|at_ (k+1) ⟨we,we⟩
  .
   rw[<-e2 hc29];exact at_ (k+1) ⟨we,we⟩
 .
  obtain rfl:k=V.length:=by omega
  obtain⟨Q,hQ⟩: ∃Q,Q=l.base.add (lB l.nor V):=⟨_,rfl⟩;haveI hb2:=hSb V.length;haveI hQb:aD Q (j+1000):=by rw[hQ,<-hSn];exact aD.mono (inferInstance:aD (l.base.add (S V.length)) _)
  haveI hQ2:aD (Q.add l.dir) (j+1200):=aD.mono (inferInstance:aD (Q.add l.dir) _);haveI hQ1:aD Q (j+1200):=aD.mono hQb;refine cl J (BA (l:=l) hlo.ne) J<|cl J (jh (n:=1)) J<|cl J (PF.eq (uE (p:=l.base) (q:=S V.length) (c:=(((1:Int):Int):Rat)) (i:=900) (j:=j) (k:=2) we we oma) (show _=eP Q by rw[EW,hSn,<-hQ])) J<|cl J (jh (n:=1)) J<|cl J (i8 (l:=l)) J<|cl J (PF.eq (uE (p:=Q) (q:=l.dir) (c:=(((1:Int):Int):Rat)) (i:=j+1200) (j:=97) (k:=2) we oma oma) (show _=eP (Q.add l.dir) by rw[EW])) J<|cl J (EC (p:=Q) (q:=Q.add l.dir) (i:=j+1200) we (TD hlo Q)) J<|rz J (by unfold oI;rw[<-hQ]<;>rfl)
theorem u'{m:Int}{k:Nat}(h:m.natAbs<2^k)(hk:0<k:=by decide):BQ (m:Rat) k:=⟨by rw[lL];exact h,by rw[lM];exact cS (show 1<2^1 by decide) (bR oma hk)⟩
theorem Gv{V:List ah}(h: ∀v∈V,ZB v): ∀v∈V,aD v 4:=fun v hv=>by
 obtain⟨m,n,rfl,h1,h2⟩:=h v hv;exact⟨u' we,u' we⟩
theorem aI4{k:Nat}{l:aa}(hk:BL l k)(h62:k+5<=62){V:List ah}(hV:V≠[])(hz: ∀v∈V,ZB v):BQ (l.a:Rat) 62/\BQ (l.b:Rat) 62/\BQ ((l.c:Rat)-jb l.nor V) 62:=by
 obtain⟨v,hv,e⟩:=(o9 (n:=l.nor) hV).2;obtain⟨m,n,rfl,h1,h2⟩:=hz v hv;have e2:(l.c:Rat)-jb l.nor V=((l.c-(l.a*m+l.b*n):Int):Rat):=by
  rw[e];unfold ah.dot aa.nor iP;rw[iX,lS,bS,bS]
 have b1:=i7 (gS hk.a) h1;have b2:=i7 (gS hk.b) h2;have ka:=hk.a;have kb:=hk.b;have kc:=hk.c;have hp:2^k*32<=2^62:=by
  rw[show 2^k*32=2^(k+5) by rw[fY]];exact bR oma h62
 rw[e2];generalize 2^k=w at*;refine⟨u' we,u' we,u' we⟩
def aDE{k:Nat}{c:ao}(hc:bw c)(hk: ∀s∈c,BL s.l k){q:ah}(hq:q∈lx (c.map fun s=>s.l)):QD (2*k+1) q:=by
 unfold lx at hq;split at hq
 .obtain⟨l,hl,rfl⟩:=aU.1 hq
  obtain⟨s,hs,rfl⟩:=aU.1 hl;exact TF (hk s hs) (hc.ok s hs)
 .obtain⟨l,hl,m,hm,hx,rfl⟩:=MJ hq
  obtain⟨s,hs,rfl⟩:=aU.1 hl;obtain⟨u,hu,rfl⟩:=aU.1 hm;exact NY (hk s hs) (hk u hu) hx
theorem aHt{a:Rat}{D:Nat}{z:Int}{k:Nat}(hD:0<D)(h:a*((D:Int):Rat)=(z:Rat))(h1:z.natAbs<2^k)(h2:D<2^k):BQ a k:=by
 have e:=Jt hD h;have d1:a.den∣D:=by
  have e2:a.num.natAbs*D=z.natAbs*a.den:=by
   have:=congrArg Int.natAbs e;rwa [fU,fU,fT,fT] at this
  exact a.reduced.symm.dvd_of_dvd_mul_left ⟨z.natAbs,by rw[e2,cW]⟩
 obtain⟨m,hm⟩:=d1;have hden:=Nat.le_of_dvd hD ⟨m,hm⟩;have hm0:0<m:=iM fun k=>by rw[k] at hm;omega
 have e2:a.num*(m:Int)=z:=by
  rw[hm] at e;have hdn:(a.den:Int)≠0:=by have:=a.den_pos;omega
  refine Int.eq_of_mul_eq_mul_right hdn ?_;rw[<-e];push_cast;rw[Int.mul_assoc,sJ (m:Int)]
 refine⟨dR ?_ h1,dR hden h2⟩;rw[<-e2,fU,fT];exact nZ _ hm0
theorem Y7{k:Nat}{c:ao}(hc:bw c)(ha:fk c)(hk: ∀s∈c,BL s.l k)(h62:2*k+10<=62){f:ah×ah}(hn: ¬((aB f).x=0/\(aB f).y=0))(h1:ZB f.1)(h2:ZB f.2){m:Rat}(hf:fD c (aB f)=some m):BQ (aB f).x 62/\BQ (aB f).y 62/\BQ (-(m+(aB f).dot f.1)) 62:=by
 obtain⟨e1,e2⟩:=LQ hc ha hn hf;obtain⟨q,hq,e3⟩:=(o9 (n:=aB f) e2).2;rw[e1] at e3;obtain⟨D,X,Y,hD0,hD,hX,hY,x1,y1⟩:=aDE hc hk hq;obtain⟨m1,n1,p1,a1,a2⟩:=h1;obtain⟨m2,n2,p2,a3,a4⟩:=h2;have nx:(aB f).x=((n1-n2:Int):Rat):=by unfold aB;rw[p1,p2];unfold iP;rw[iX];grind
 have ny:(aB f).y=((m2-m1:Int):Rat):=by unfold aB;rw[p1,p2];unfold iP;rw[iX]
 generalize hA:n1-n2=A at nx;generalize hB:m2-m1=B at ny;have key: -(m+(aB f).dot f.1)*((D:Int):Rat)=((-(A*X+B*Y+(A*m1+B*n1)*D):Int):Rat):=by
  rw[e3,p1];unfold ah.dot iP;dsimp only;rw[nx,ny];simp only[bS,gW,lS];rw[<-x1,<-y1];grind
 have hA16:A.natAbs<=16:=by omega
 have hB16:B.natAbs<=16:=by omega
 have b0:(D:Int).natAbs<=2^(2*k+1):=hD;have b3:=i7 hA16 hX;have b4:=i7 hB16 hY;have b5:(A*m1+B*n1).natAbs<=256:=by
  have:=i7 hA16 a1;have:=i7 hB16 a2;omega
 have b6:=i7 b5 b0;have e8:2^(2*k+10)=2^(2*k+1)*512:=by rw[show 2*k+10=2*k+1+9 by omega,fY]
 have e9:2^(2*k+1)*512<=2^62:=by
  rw[<-e8];exact bR oma h62
 have w0:0<2^(2*k+1):=gU oma;rw[nx,ny];refine⟨u' we,u' we,aHt hD0 key ?_ ?_⟩
 .generalize 2^(2*k+1)=w at*;omega
 .generalize 2^(2*k+1)=w at*;omega
theorem Vd{r:List ZP}(h:gE r): ∀u∈r.map ZP.q,aD u 8:=fun u hu=>by
 obtain⟨p,hp,rfl⟩:=aU.1 hu;obtain⟨h1,h2⟩:=h.le p hp;exact⟨u' we,u' we⟩
def Ya{r:List ZP}(h:tj r)(hc:ln (r.map ZP.q)=true):PF GB prog 56 [rG r] (.tp [.sl ((r.map ZP.q).map eZ), .v .nilIface]):=by
 have hn:=h.ok.n6;have hl:(r.map ZP.q).length=r.length:=aX ..;refine fn func56 J J ntmps56 J J (fun C=>?_);refine cl (fu:=⟨12⟩) J (az5 h.ok h.c3) J<|cv J J J<|cl (fu:=⟨0⟩) J (X5 (v:=r.map ZP.q) (i:=8) (Vd h.ok) oma we) J<|aj 17 (.d (.v (.bool true))) J (by rw[hc]<;>rfl)<|ld 17 J<|gx J<|rz J J
def nA(c:ao)(V:List ah)(k:Nat):List aa:=(c.map fun s=>f9 s.l V)++((aC V).take k).filterMap (gp c)
def aEo(c:ao)(V:List ah):nA c V 0=c.map fun s=>f9 s.l V:=by unfold nA;simp
def Cg(c:ao)(V:List ah):nA c V (aC V).length=fH c V (aC V):=by unfold nA fH;rw[cN]
def Cr(c:ao)(V:List ah)(k:Nat):(nA c V k).length<=c.length+V.length:=by
 unfold nA;rw[aY,aX];have h1:=kU (gp c) ((aC V).take k);have h2:((aC V).take k).length<=V.length:=by rw[bL];unfold aC;rw[aX,jY];omega
 omega
def auE{c:ao}{V:List ah}{k:Nat}{f:ah×ah}{m:Rat}(h:(aC V)[k]? =some f)(hf:fD c (aB f)=some m):(nA c V k).map de++[de (dE (aB f).x (aB f).y (-(m+(aB f).dot f.1)))]=(nA c V (k+1)).map de:=by
 unfold nA;rw[dJ,h];simp only[lZ,pM,lY,rL];rw[show gp c f=some (dE (aB f).x (aB f).y (-(m+(aB f).dot f.1))) by unfold gp;rw[hf];rfl];simp
def W7{c:ao}{V:List ah}{k:Nat}{f:ah×ah}(h:(aC V)[k]? =some f)(hf:fD c (aB f)=none):nA c V k=nA c V (k+1):=by
 unfold nA;rw[dJ,h];simp only[lZ,pM,lY,rL];rw[show gp c f=none by unfold gp;rw[hf];rfl];simp
def X0{c:ao}{V:List ah}{k:Nat}{s:bD}(h:c[k]? =some s):((c.take k).map fun s=>f9 s.l V).map de++[de (f9 s.l V)]=((c.take (k+1)).map fun s=>f9 s.l V).map de:=by
 rw[dJ,h,aL,aL];rfl
def Qf(l:List aa):cO 9 (l.map de):=fun d hd=>by
 obtain⟨x,_,rfl⟩:=aU.1 hd;exact⟨J,J⟩
def Pe{V:List ah}{k:Nat}{p q:ah}(h1:V[k]? =some p)(h2:V[(k+1)%V.length]? =some q):(aC V)[k]? =some (p,q):=by
 have hk:=(aR.1 h1).1;unfold aC;rw[cJ,qR hk];show some (V.getD k ⟨0,0⟩,V.getD ((k+1)%V.length) ⟨0,0⟩)=_;rw[aV,aV,h1,h2];rfl
theorem aIK{c:ao}(hc:eE c){n:ah}[hn:aD n 9]{m:Rat}(h:fD c n=some m):BQ m 7019:=by
 unfold fD at h;split at h
 .cases h
 .rename_i h0
  split at h
  .cases h
  .cases h
   have hne:c≠[]:=fun e=>h0 (by rw[e];rfl);exact OX (n:=n) (i:=9) (NZ hc) (QH hne)
theorem aNi{p q:ah}[hp:aD p 4][hq:aD q 4]:aD (aB (p,q)) 9:=by
 have h:=HD q p (i:=4) (j:=4);exact⟨inferInstanceAs (BQ (-(q.y-p.y)) 9),inferInstanceAs (BQ (q.x-p.x) 9)⟩
def aGO{c d:ao}{V:List ah}{kb:Nat}(hV:eO V)(hc:eE c)(hg:bw c)(ha:fk c)(hk: ∀s∈c,BL s.l kb)(h62:2*kb+10<=62)(hn:c.length<=900)(hd:js (fH c V (aC V)) []=some d):PF GB prog 63 [eC c, .sl (V.map eZ)] (eC d):=by
 have hVb:=Gv hV.zb;have hV4:=hV.le;have hml:(c.map dq).length=c.length:=aX ..;have hpl:(aC V).length=V.length:=by unfold aC;rw[aX,jY]
 have hrl:(od V).length=(aC V).length:=by unfold od;rw[aX,jY,hpl]
 refine Ii func63 J J ntmps63 J J (fun C h0=>?_);refine JB 5 0 50 193 9 J J J J J<|lp (X:=Nat) (fun k=>[(22, .d (vI (k:Nat))),(5, .ov 5 0)]) (fun k=>[(5,some (.o 205 [.rw 50] true)),(50,some (.b 193 9 (((c.take k).map fun s=>f9 s.l V).map de) true))]) (fun k=>k<=c.length) (fun k=>c.length-k) 0 J (aN _) (fun _=>J) (fun k hkc=>?_);have hm3:(((c.take k).map fun s=>f9 s.l V).map de).length<=k:=by rw[aX,aX,bL];omega
 refine br J J J (fun hc23=>?_) (fun hc23=>?_)
 .obtain⟨s,hx⟩: ∃u,c[k]? =some u:=⟨_,aZ we⟩
  have hsm:=aK hx;haveI:=(hc s hsm).lb;obtain⟨q1,q2,q3⟩:=aI4 (hk s hsm) we hV.br.vne hV.zb;haveI hl0:=OX (n:=s.l.nor) (i:=97) hVb hV.br.vne;have hne:=BB (hg.ok s hsm);refine ix _ J (cp hx) J<|cl J (zt (l:=s.l)) J<|cl J (R2 (n:=s.l.nor) (l:=V) (i:=97) (j:=4) hVb hV.br.vne oma oma we) J<|cl J (q7 (p:=(s.l.c:Rat)) (q:=jb s.l.nor V) (i:=97) (j:=97+4+(97+4)+1)) J<|cl J (Od (a:=(s.l.a:Rat)) (b:=(s.l.b:Rat)) (c:=(s.l.c:Rat)-jb s.l.nor V) hne) J<|rf J J<|ap (((c.take (k+1)).map fun s=>f9 s.l V).map de) J (X0 hx) (Qf [_]) J<|ek 47 50 J<|at_ (k+1) ⟨we,we⟩
 .obtain rfl:k=c.length:=by omega
  rw[cN,<-aEo c V];refine Lq J J J Iq (fun _=>J) (fun GB1 pv hg1 hpv=>?_);refine AO 2 2000002 h0.fx J<|AO 5 2000005 h0.fx J ?_;refine If (σ:=Empty) (fun k=>[(2000002,some (.o 134 [.d (eC c)] true)),(2000005,some (.o 205 [.rw 50] true)),(50,some (.b 193 9 ((nA c V k).map de) true))]) (fun _=>True) (fun _=>[]) (fun _=>False) [(2, .ov 2000002 0),(5, .ov 2000005 0)]
   h0 J (Kd) (.cons hpv .nil) ⟨J,J,trivial⟩ J ⟨J,J,J,trivial⟩ trivial M0 J J (fun k e GB' hE hg2 hp=>?_) (fun D hD hx hp=>?_) (fun D s hD hx hq=>hq.elim)
  .obtain⟨q1,q2,hpx,hqx,rfl⟩:=JV hE
   haveI:=hVb q1 (aK hpx);haveI:=hVb q2 (aK hqx);have z1:=hV.zb q1 (aK hpx);have z2:=hV.zb q2 (aK hqx);have hpr:=Pe hpx hqx;have hnz:=hV.br.nz (aK hpr);haveI hn9:aD (aB (q1,q2)) 9:=aNi;refine⟨?_,?_,fun C2=>?_,fun C2=>?_⟩
   rotate_left 2
   .refine gx J<|JQ J J J ⟨J,J,J⟩ J ?_
    exact atR
   .skip
    refine gx J<|pC 1 (e:=199) (len:=2) (s:=6) J omd omd oma J<|pC 0 (e:=199) (len:=2) (s:=6) J omd omd oma J<|cl J (Iz (p:=q2) (q:=q1) (i:=4) (j:=4)) J<|cl (fu:=⟨0⟩) J (YZ (p:=⟨q2.x-q1.x,q2.y-q1.y⟩) (i:=9) (h:=HD q2 q1)) J<|aj 58 (.d (eZ (aB (q1,q2)))) J J<|gx J<|?_;rcases hf:fD c (aB (q1,q2)) with _|m
    .
     rw[W7 hpr hf];refine cl (fu:=⟨3⟩) J (aI0 (c:=c) (n:=aB (q1,q2)) (j:=9) hc oma we hf) J<|th 64 J<|gx J<|?_;exact rq trivial ⟨J,J,J,trivial⟩
    .
     obtain⟨u1,u2,u3⟩:=Y7 hg ha hk h62 hnz z1 z2 hf;haveI:BQ m 7019:=aIK hc hf;have hm4:=Cr c V k;have hm5:((nA c V k).map de).length<=c.length+V.length:=by rw[aX];exact hm4
     refine cl (fu:=⟨3⟩) J (aHS (c:=c) (n:=aB (q1,q2)) (j:=9) hc oma we hf) J<|ld 64 J<|gx J<|pC 0 (e:=199) (len:=2) (s:=6) J omd omd oma J<|cl J (vO (p:=aB (q1,q2)) (q:=q1) (i:=9) (j:=4)) J<|cl J (s6 (p:=m) (q:=(aB (q1,q2)).dot q1) (i:=7019) (j:=27)) J<|cl J (qg (q:=m+(aB (q1,q2)).dot q1) (i:=7047)) J<|cl J (Od (a:=(aB (q1,q2)).x) (b:=(aB (q1,q2)).y) (c:= -(m+(aB (q1,q2)).dot q1)) hnz) J<|rf J J<|ap ((nA c V (k+1)).map de) J (auE hpr hf) (Qf [_]) J<|ek 84 50 J ?_;exact rq trivial ⟨J,J,J,trivial⟩
  .rw[hrl,Cg]
   refine gx J<|fz 50 J J<|cl J (azR (ls:=fH c V (aC V)) (fun l hl=>⟨(Ah hV.br hV.zb hg ha hk l hl).mono we⟩) (Fy hV.br hg) (by have:=Cr c V (aC V).length;rw[Cg] at this;omega) hd) J<|?_;exact Ff hD hx J J
def aDL{V:List ah}(hV:eO V){t:Tr}{kb:Nat}(ho:t.all aa.ok)(hrk:(t.restrict []).all fun l=>BL l kb)(hrb:(t.restrict []).all LB)(h62:2*kb+10<=62)(hd:t.depth<=800){u:Tr}(hu:u∈(bO (t.restrict [])).map (dk V (aC V))):u.gd/\u.size<=65536:=by
 obtain⟨c,hc,rfl⟩:=aU.1 hu;obtain⟨g1,g2⟩:=n7 ho c hc;have hbk:=tG (P:=fun l=>BL l kb) (fun l h=>h.rev) hrk (fun s hs=>by cases hs) (nC.1 hc);have h1:=Ah hV.br hV.zb g1 g2 hbk;refine⟨⟨vw fun l hl=>⟨(h1 l hl).mono we⟩,z' hV.br g1 g2⟩,?_⟩;unfold dk;rw[Pg];have h2:=pI (fH c V (aC V));have h3:=Cr c V (aC V).length;rw[Cg] at h3;have h4:=Ac hrb (t.restrict_all aa.ok [] ho) c hc;have:=t.restrict_depth [];have:=hV.le;omega
def aBx{V:List ah}{cs:List ao}{k:Nat}{c:ao}(h:cs[k]? =some c):((cs.take k).map (dk V (aC V))).map eU++[eU (dk V (aC V) c)]=((cs.take (k+1)).map (dk V (aC V))).map eU:=by
 rw[dJ,h,aL,aL];rfl
def M5{ai al ae:Addr}(hE:EG GB ai al ae){V:List ah}(hV:eO V){t u:Tr}{kb:Nat}(hb:t.all LB)(ho:t.all aa.ok)(hk:t.all fun l=>BL l kb)(h62:2*kb+10<=62)(hd:t.depth<=800)(hs:t.size<=60000)(hq:mP 1 (Tr.leaf false) ((bO (t.restrict [])).map (dk V (aC V)))=some u):PF GB prog 29 [eU t, .sl (V.map eZ)] (.tp [eU u, .v .nilIface]):=by
 obtain⟨cs,hcs⟩: ∃cs,cs=bO (t.restrict []):=⟨_,rfl⟩;rw[<-hcs] at hq;have hrs:=t.restrict_size [];have hrd:=t.restrict_depth [];have hrb:=t.restrict_all LB [] hb;have hro:=t.restrict_all aa.ok [] ho;have hrk:=t.restrict_all _ [] hk;have hcl:cs.length<=60001:=by rw[hcs];exact cX (Dy _) we
 have hml:(cs.map eC).length=cs.length:=aX ..;refine fn func29 J J ntmps29 J J (fun C=>?_);refine cl (fu:=⟨0⟩) J (AJ (t:=t) we) J<|cv J (omh we) J<|cl J (PS (t:=t) hb ho) J<|cl (fu:=⟨0⟩) J (aGn (t:=t.restrict []) hrb hro we we) J<|aj 16 (.d (.sl (cs.map eC))) J (by rw[hcs])<|gx (fu:=⟨1⟩) J<|aj 17 (.d (vI (cs.length:Nat))) J omo<|gx J<|nr 6 6 81 1 J J J<|lp (X:=Nat) (fun k=>[(18, .d (vI (k:Nat))),(6, .rw 6)]) (fun k=>[(6,some (.b 81 1 (((cs.take k).map (dk V (aC V))).map eU) true))]) (fun k=>k<=cs.length) (fun k=>cs.length-k) 0 J (aN _) (fun _=>J) (fun k hk=>?_);have hm3:(((cs.take k).map (dk V (aC V))).map eU).length<=k:=by rw[aX,aX,bL];omega
 refine br (fu2:=⟨0⟩) J J J (fun hc19=>?_) (fun hc19=>?_)
 .
  obtain⟨c,hx⟩: ∃u,cs[k]? =some u:=⟨_,aZ we⟩;have hcm:c∈bO (t.restrict []):=by rw[<-hcs];exact aK hx
  obtain⟨g1,g2⟩:=n7 ho c hcm;have hck:=(DA hrb hro eE.nil (nC.1 hcm)).1;have hbk:=tG (P:=fun l=>BL l kb) (fun l h=>h.rev) hrk (fun s hs=>by cases hs) (nC.1 hcm);have hsh:=Ac hrb hro c hcm;obtain⟨d,d1,d2,d3,d4,d5⟩:=EU hV.br g1 g2;have hdl:d.length<=c.length+4:=by have h1:=pI (fH c V (aC V));have h2:=Cr c V (aC V).length;rw[Cg] at h2;rw[d5,aX] at h1;have:=hV.le;omega
  have hml2:(d.map dq).length=d.length:=aX ..;refine ix _ J (cp hx) J<|cl (fu:=⟨8⟩) J (aGO (c:=c) (d:=d) (V:=V) (kb:=kb) hV hck g1 g2 hbk h62 we d1) J<|aj 26 (.d (vI (d.length:Nat))) J (by rw[hml2]<;>rfl)<|gx (fu:=⟨0⟩) J<|cv J (omh we) J<|cl (fu:=⟨0⟩) J (axu (c:=d) we) J<|aj 31 (.d (eU (dk V (aC V) c))) J (by unfold dk;rw[d5])<|gx J<|rf J J<|ap (((cs.take (k+1)).map (dk V (aC V))).map eU) J (aBx hx) (aI7 [_]) J<|ek 33 6 J<|at_ (k+1) ⟨we,we⟩
 .
  obtain rfl:k=cs.length:=by omega
  rw[cN];refine nj 6 J<|gx J<|cl J (sA (b:=false)) J<|cl J (YR hE (op:=1) (a:= .leaf false) (us:=cs.map (dk V (aC V))) ⟨trivial,trivial⟩ oma (fun u hu=>aDL hV ho hrk hrb h62 hd (hcs▸hu)) okF (by rw[if_neg oma];exact hq)) J<|rz J J
def QA{ai al ae:Addr}(hE:EG GB ai al ae){V:List ah}(hV:eO V){t u:Tr}{kb:Nat}(hb:t.all LB)(ho:t.all aa.ok)(hk:t.all fun l=>BL l kb)(h62:2*kb+10<=62)(hd:t.depth<=800)(hs:t.size<=60000)(hq:mP 1 (Tr.leaf false) ((bO (t.compl.restrict [])).map (dk (V.map aG) (aC (V.map aG))))=some u):PF GB prog 28 [eU t, .sl (V.map eZ)] (.tp [eU u.compl, .v .nilIface]):=by
 have hVb:=Gv hV.zb;have hV4:=hV.le;refine fn func28 J J ntmps28 J J (fun C=>?_);refine cl J (vN (t:=t)) J<|cl J (Zb (l:=V) (j:=4) hVb oma we) J<|cl (fu:=⟨11⟩) J (M5 hE hV.neg (t:=t.compl) (u:=u) (kb:=kb) (t.compl_all _ hb) (t.compl_all _ ho) (t.compl_all _ hk) h62 (by rw[t.compl_depth];exact hd) (by rw[t.compl_size];exact hs) hq) J<|cv J J J<|cl J (vN (t:=u)) J<|rz J J
section
variable {GB:Gh} {C:aH} {n:Nat} {Q0:Exit->Act->World->Prop} {fr fr':aF} {own own':bh} {cf cf':Cf} {vc:List Prop} {ops:Array Oper} {r:List Oper} {K:List Kt}
def TL(fr:aF)(cf:Cf):Option (TypeId×DV):=match di fr cf with
 |some ⟨_, .load t x,_,_,_,_⟩=>match bt (ck fr cf) x with
  |some (.ep (d::_))=>some (t,d)
  |_=>none
 |_=>none
def Zy[fu:Fu]{t:TypeId}{d:DV}{D:TypeDesc}{j:TypeInfo}(h:TL fr cf=some (t,d))(hu:prog.underlying t=some D)(hD:aNd D=true)(hj:prog.info? t=some j)(hs:j.size=1)
  (hgo:c6 tt n fu.n fr own cf (.d d) [] []=⟨vc,fr',own',cf'⟩)(k':av prog GB C n Q0 fr' own' cf')
  (hv:autoParam (ak vc) cL._auto_1):av prog GB C n Q0 fr own cf:=by
 unfold TL at h;split at h<;>try (cases h;done)
 rename_i hh;split at h<;>cases h;rename_i hx;have:kO prog t:=⟨fun w=>by(rw[Cd hu w];cases D<;>first|rfl|(cases hD;done)),fun w=>by rw[w8 hj w,hs]⟩;refine us hh ?_ hgo hv k';refine .yd fun ρ G ov a w r=>?_;obtain⟨y,h1,h2⟩:=r.ev hx;obtain⟨b,o,ms,m,rfl,hb,ht,hm⟩:=h2;obtain⟨l',h3,h4⟩:=hm.get (i:=0) rfl;have:=JD ht (i:=0) (Nat.succ_pos _);rw[gV] at this;exact⟨l',h4,tA h1 hb (by rw[this];exact h3)⟩
def T4(i:TI)(fr:aF)(cf:Cf):Option P6:=match di fr cf with
 |some ⟨some d, .buildSlice t len parts,_,_,_,_⟩=>match eo tt t with
  |some ⟨.sl e s _,_,_,_⟩=>match po i with
   |some z=>match y5 (ck fr cf) 0 parts.toList with
    |some ds=>bif Nat.beq z.cells.length s&&(Ey s ds&&(Nat.beq parts.toList.length len&&(Nat.ble (len*s) 1000&&Nat.blt 0 (len*s)))) then some ⟨d,e,s,ds⟩ else none
    |none=>none
   |none=>none
  |_=>none
 |_=>none
def LC[fu:Fu](i:TI){d e s:Nat}{ds:List DV}(h:T4 i fr cf=some ⟨d,e,s,ds⟩)(hi:fq prog e=some i)(hgo:c6 tt n fu.n fr own cf (.d (.sl ds)) [(d,none)] [d]=⟨vc,fr',own',cf'⟩)(k:av prog GB C n Q0 fr' own' cf')
  (hv:autoParam (ak vc) cL._auto_1):av prog GB C n Q0 fr own cf:=by
 unfold T4 at h;split at h<;>try (cases h;done)
 rename_i hh;split at h<;>try (cases h;done)
 rename_i hT;split at h<;>try (cases h;done)
 rename_i hz;split at h<;>try (cases h;done)
 rename_i hr;rw[cond_eq_ite] at h;split at h<;>cases h;rename_i hc;simp only[bT] at hc;have:=lh (fi _ _ hT) J;exact us hh ((Rp (GB:=GB) (C:=C) (n:=n) (bk:=jo fr own cf) hi hz hc.1 hr hc.2.1 hc.2.2.1 hc.2.2.2.1 hc.2.2.2.2).frzRow J) hgo hv k
def nlU(d:Nat)(hl:bi fr d=some (.d (.v (.slice none 0 0)))){c:Code}(h:av prog GB C n Q0 ((d, .nl)::fr) own (.code c K)):av prog GB C n Q0 fr own (.code c K):=
 oq (g:= .nl) hl (fun ρ G y hy=>(aP (G:=G)).1 hy) h
def nlV(d:Nat)(hl:bi fr d=some .nl){e:Exit}(h:av prog GB C n Q0 ((d, .d (.v (.slice none 0 0)))::fr) own (.ex e K)):av prog GB C n Q0 fr own (.ex e K):=
 oq (g:= .d (.v (.slice none 0 0))) hl (fun ρ G y hy=>(aP (G:=G)).2 hy) h
end
def Qe(f:FuncId):DV:= .v (.func (.func f) #[] #[])
def MB{fs:List FuncId}{ts:Nat->Tr}{k0:Nat}(h0:gF k0 (ts 0)){r:List ZP}(hr:tj r)(hc:ln (r.map ZP.q)=true)(hF: ∀k f,fs[k]? =some f->PF GB prog f [eU (ts k), .sl ((r.map ZP.q).map eZ)] (.tp [eU (ts (k+1)), .v .nilIface]))(hb:(ts fs.length).all LB)(hs:(ts fs.length).size<=1000000)(hn:fs.length<=1000):PF GB prog 27 [eA (ts 0),rG r, .sl (fs.map Qe)] (.tp [eA (ts fs.length), .v .nilIface]):=by
 have hml:(fs.map Qe).length=fs.length:=aX ..;refine fn func27 J J ntmps27 J J (fun C=>?_);refine cl (fu:=⟨12⟩) J (aKz (t:=ts 0) h0) J<|aj 20 (.d (.v (.bool false))) J J<|th 20 J<|gx J<|cl (fu:=⟨11⟩) J (Ya hr hc) J<|cv (fu:=⟨10⟩) J J J<|aj 33 (.d (vI (fs.length:Nat))) J omo<|gx J<|lp (X:=Nat) (fun k=>[(34, .d (vI (k:Nat))),(8, .d (eU (ts k)))]) (fun k=>[]) (fun k=>k<=fs.length) (fun k=>fs.length-k) 0 J (aN _) (fun _=>J) (fun k hk=>?_);refine br J J J (fun hc35=>?_) (fun hc35=>?_)
 .
  obtain⟨f,hx⟩: ∃u,fs[k]? =some u:=⟨_,aZ we⟩;refine ix (fu:=⟨0⟩) _ J (cp hx) J<|Zy (fu:=⟨8⟩) (d:= .v (.func (.func f) #[] #[])) J J J J J J<|Xu (fu:=⟨10⟩) J .nil .nil (hF k f hx) J<|cv J J J<|at_ (k+1) ⟨we,we⟩
 .
  obtain rfl:k=fs.length:=by omega
  refine cl J (aLy (t:=ts fs.length) hb hs) J<|rz J J
def YL(t u:Tr):Nat->Tr
 |0=>t
 |_=>u
def iq(V:List ah)(t:Tr):Tr:=dx V (aC V) t
def m9(V:List ah)(t:Tr):Tr:=(iq (V.map aG) t.compl).compl
def Bh{V:List ah}(hV:eO V){t:Tr}(h:ij t):gF 54 (iq V t)/\(iq V t).Red []/\(iq V t).all (fun l=>BL l 26):=(CZ hV h).2
def VZ{V:List ah}(hV:eO V){t:Tr}(h:ij t):gF 54 (m9 V t)/\(m9 V t).Red []/\(m9 V t).all (fun l=>BL l 26):=by
 obtain⟨h1,h2,h3⟩:=Bh hV.neg h.compl;exact⟨h1.compl,Tr.compl_red h2,Tr.compl_all _ _ h3⟩
def O9{ai al ae:Addr}(hE:EG GB ai al ae){V:List ah}(hV:eO V){t:Tr}(h:ij t):PF GB prog 29 [eU t, .sl (V.map eZ)] (.tp [eU (iq V t), .v .nilIface]):=
 M5 hE hV h.x.lb h.x.ok h.bl oma (by have:=h.dp;omega) (by have:=h.x.s;omega) (CZ hV h).1
def aIw{ai al ae:Addr}(hE:EG GB ai al ae){V:List ah}(hV:eO V){t:Tr}(h:ij t):PF GB prog 28 [eU t, .sl (V.map eZ)] (.tp [eU (m9 V t), .v .nilIface]):=
 QA hE hV h.x.lb h.x.ok h.bl oma (by have:=h.dp;omega) (by have:=h.x.s;omega) (CZ hV.neg h.compl).1
def aII{ai al ae:Addr}(hE:EG GB ai al ae){r:List ZP}(hr:tj r)(hc:ln (r.map ZP.q)=true)(hV:eO (r.map ZP.q)){t:Tr}(h:ij t):PF GB prog 33 [eA t,rG r] (.tp [eA (iq (r.map ZP.q) t), .v .nilIface]):=by
 have hx:=(Bh hV h).1;have hst:PF GB prog 27 [eA t,rG r, .sl [.v (.func (.func 29) #[] #[])]] (.tp [eA (iq (r.map ZP.q) t), .v .nilIface]):=MB (fs:=[29]) (ts:=YL t (iq (r.map ZP.q) t)) h.x hr hc (fun k f hk=>by match k,hk with|0,hk=>cases hk;exact O9 hE hV h|k+1,hk=>simp at hk) hx.lb (by have:=hx.s;show(iq (r.map ZP.q) t).size<=_;omega) omc;refine fn (fu:=⟨11⟩) func33 J J ntmps33 J J (fun C=>?_);refine LC ⟨.o,1,some [.d (.v .nilFunc)],false⟩ J omd J<|cl J hst J<|rz J J
def axD{L:List aa}{k:Nat}{l m:aa}(h:gj L=[])(h1:L[k]? =some l)(h2:L[(k+1)%L.length]? =some m): ¬0<Int.sign (l.dir.cross m.dir).num:=fun hc=>by
 have e:=tz h1 h2;rw[if_pos hc] at e;have hm:cx l m∈gj L:=fJ.2 ⟨k,kZ.2 (aR.1 h1).1,by rw[e];simp⟩;rw[h] at hm;cases hm
def aBc{c:List aa}{k:Nat}{m:aa}(h:c[k]? =some m):((c.take k).map aa.base).map eP++[eP m.base]=((c.take (k+1)).map aa.base).map eP:=by
 rw[dJ,h,aL,aL];rfl
def aBN{L:List aa}(hb: ∀l∈L,LB l)(hn:L.length<=100000)(h:gj L=[]):PF GB prog 82 [.sl (L.map eL)] (.v (.slice none 0 0)):=by
 have hml:(L.map eL).length=L.length:=aX ..;refine fn (fu:=⟨15⟩) func82 J J ntmps82 J J (fun C=>?_);refine aj 10 (.d (vI (L.length:Nat))) J omo<|gx J<|lp (X:=Nat) (fun k=>[(11, .d (vI (k:Nat))),(3, .nl)]) (fun k=>[]) (fun k=>k<=L.length) (fun k=>L.length-k) 0 J (aN _) (fun _=>J) (fun k hk=>?_);refine br J J J (fun hc12=>?_) (fun hc12=>?_)
 .
  obtain⟨l,hx⟩: ∃u,L[k]? =some u:=⟨_,aZ we⟩;obtain⟨m,hw⟩: ∃w,L[(k+1)%L.length]? =some w:=⟨_,aZ (dW _ we)⟩;haveI:=hb l (aK hx);haveI:=hb m (aK hw);refine ix (fu:=⟨13⟩) _ J (cp hx) J<|aj 20 (.d (vI (L.length:Nat))) J omo<|gx (fu:=⟨1⟩) J<|aj 21 (.d (vI (((k+1)%L.length:Nat):Int))) J J<|gx J<|ix _ J (cp hw) J<|cl J (i8 (l:=l)) J<|cl J (i8 (l:=m)) J<|cl J (rE (p:=l.dir) (q:=m.dir) (i:=97) (j:=97)) J<|cl J (n5 (q:=l.dir.cross m.dir)) J<|br J J J (fun hc30=>?_) (fun hc30=>?_)
  .
   exact absurd hc30 (axD h hx hw)
  .
   exact at_ (k+1) ⟨we,we⟩
 .
  refine nlV 2 J<|rz J J
def aLs{l:aa}{p:ah}{cd:DV}{V:List ah}{c:List aa}{j:Nat}[hl:LB l](hlo:l.ok)[hp:aD p 900](hcd:cd= .sl (V.map eP)/\V≠[]\/cd= .v (.slice none 0 0)/\V=c.map aa.base/\c≠[])(hb: ∀v∈V,aD v j)(hcb: ∀m∈c,LB m/\m.ok)(hj:j<=10000)(hn:V.length<=100000)(hnc:c.length<=100000):PF GB prog 84 [eL l,eP p,cd, .sl (c.map eL)] (eL (ew (p.add (lB l.nor V)) ((p.add (lB l.nor V)).add l.dir))):=by
 have hV:V≠[]:=by
  rcases hcd with h|⟨_,h1,h2⟩
  .exact h.2
  .rw[h1];exact fun e=>h2 (uJ.1 e)
 have hml:(V.map eP).length=V.length:=aX ..;have hmc:(c.map eL).length=c.length:=aX ..;have hV0:0<V.length:=mU.2 hV;obtain⟨p0,h0⟩: ∃p,V[0]? =some p:=⟨_,aZ hV0⟩;obtain⟨S,hS⟩: ∃S,S=lG l.nor V:=⟨_,rfl⟩;have hg0:V.getD 0 ⟨0,0⟩=p0:=by rw[aV,h0];rfl
 have hS0:p0=S 0:=by rw[hS];show p0=(V.take 0).foldl _ _;rw[hg0];rfl
 have hSb: ∀k,aD (S k) j:=by rw[hS];exact Eu (by rw[hg0];exact hb p0 (aK h0)) hb
 have hSn:S V.length=lB l.nor V:=by rw[hS];exact OE hV
 refine fn (fu:=⟨8⟩) func84 J J ntmps84 J J (fun C=>?_);refine mg (X:=Unit) (fun _=>[(2, .d (.sl (V.map eP)))]) (fun _=>[]) (fun _=>True) [2] [] rfl ?_ (fun _=>J) (fun _ _=>?_)
 .rcases hcd with⟨rfl,_⟩|⟨rfl,hvs,hcn⟩
  .refine gx (fu:=⟨4⟩) J<|cv J (omh we) J<|at_ () trivial
  .refine nlU 2 J<|gx (fu:=⟨4⟩) J<|d7 (fu:=⟨7⟩) J J J<|aj 21 (.d (vI (c.length:Nat))) J omZ<|gx J<|nr 2 2 63 6 J J J<|lp (X:=Nat) (fun k=>[(22, .d (vI (k:Nat))),(2, .rw 2)]) (fun k=>[(2,some (.b 63 6 (((c.take k).map aa.base).map eP) true))]) (fun k=>k<=c.length) (fun k=>c.length-k) 0 J (aN _) (fun _=>J) (fun k hk=>?_)
   have hm3:(((c.take k).map aa.base).map eP).length<=k:=by rw[aX,aX,bL];omega
   refine br J J J (fun hc23=>?_) (fun hc23=>?_)
   .
    obtain⟨m,hx⟩: ∃u,c[k]? =some u:=⟨_,aZ we⟩;haveI:=(hcb m (aK hx)).1;refine ix _ J (cp hx) J<|cl J (BA (l:=m) (hcb m (aK hx)).2.ne) J<|rf J J<|ap (((c.take (k+1)).map aa.base).map eP) J (aBc hx) (Dv [_]) J<|ek 30 2 J<|at_ (k+1) ⟨we,we⟩
   .
    obtain rfl:k=c.length:=by omega
    rw[cN,<-hvs];refine gw 2 J<|at_ () trivial
 .refine gx J<|ix (fu:=⟨1⟩) _ J (Ju h0) J<|aj 34 (.d (eP (S 0))) J (by rw[hS0]<;>rfl)<|gx (fu:=⟨9⟩) J<|aj 36 (.d (vI (V.length:Nat))) J omo<|gx J<|lp (X:=Nat) (fun k=>[(37, .d (vI (k:Nat))),(11, .ov 11 0)]) (fun k=>[(11,some (.o 63 [.d (.v (.bool (decide ((S k).x.num<0)))), .d (dN (S k).x.num.natAbs), .d (dD (S k).x.den), .d (.v (.bool (decide ((S k).y.num<0)))), .d (dN (S k).y.num.natAbs), .d (dD (S k).y.den)] true))]) (fun k=>k<=V.length) (fun k=>V.length-k) 0 J (aN _) (fun _=>J) (fun k hk=>?_)
  haveI:=hSb k;refine br J J J (fun hc38=>?_) (fun hc38=>?_)
  .
   obtain⟨q,hx⟩: ∃u,V[k]? =some u:=⟨_,aZ we⟩;haveI:=hb q (aK hx);obtain⟨e1,e2⟩:=R6 (l:=l) hx;rw[<-hS] at e1 e2;refine ix _ J (cp hx) J<|cl J (i8 (l:=l)) J<|cl J (rE (p:=l.dir) (q:=q) (i:=97) (j:=j) we we) J<|cl J (i8 (l:=l)) J<|cl J (rE (p:=l.dir) (q:=S k) (i:=97) (j:=j) we we) J<|cl J (lm (a:=l.dir.cross q) (b:=l.dir.cross (S k)) (i:=97+j+(97+j)+1) (j:=97+j+(97+j)+1) we we) J<|br (fu1:=⟨2⟩) J J J (fun hc50=>?_) (fun hc50=>?_)
   .
    refine aj 51 (.d (eP (S (k+1)))) J (by rw[e1 hc50]<;>rfl)<|gx J<|at_ (k+1) ⟨we,we⟩
   .
    rw[<-e2 hc50];exact at_ (k+1) ⟨we,we⟩
  .
   obtain rfl:k=V.length:=by omega
   obtain⟨Q,hQ⟩: ∃Q,Q=p.add (lB l.nor V):=⟨_,rfl⟩;haveI hb2:=hSb V.length;haveI hQb:aD Q (j+1000):=by rw[hQ,<-hSn];exact aD.mono (inferInstance:aD (p.add (S V.length)) _)
   haveI hQ2:aD (Q.add l.dir) (j+1200):=aD.mono (inferInstance:aD (Q.add l.dir) _);haveI hQ1:aD Q (j+1200):=aD.mono hQb;refine cl J (jh (n:=1)) J<|cl J (PF.eq (uE (p:=p) (q:=S V.length) (c:=(((1:Int):Int):Rat)) (i:=900) (j:=j) (k:=2) we we oma) (show _=eP Q by rw[EW,hSn,<-hQ])) J<|cl J (jh (n:=1)) J<|cl J (i8 (l:=l)) J<|cl J (PF.eq (uE (p:=Q) (q:=l.dir) (c:=(((1:Int):Int):Rat)) (i:=j+1200) (j:=97) (k:=2) we oma oma) (show _=eP (Q.add l.dir) by rw[EW])) J<|cl J (EC (p:=Q) (q:=Q.add l.dir) (i:=j+1200) we (TD hlo Q)) J<|rz J (by rw[<-hQ]<;>rfl)
def qA(l:aa)(c:List aa)(v:ah):Bool:=!(ul c v&&decide (Int.sign (l.dir.cross v).num<0))
def Wm(l:aa)(c:List aa):l5 l c=(!c.isEmpty&&(tu l c).all (qA l c)):=rfl
def awH(l:aa)(c:List aa):(tu l c).length=2*c.length+1:=by
 unfold tu;rw[aY,H6];rfl
theorem aBE{l:aa}{c:List aa}[hl:LB l](hb: ∀m∈c,LB m): ∀d∈tu l c,aD d 97:=fun d hd=>by
 rcases bZ.1 hd with h|h
 .exact aFE hb d h
 .rw[aT.1 h]
  have:=(inferInstance:aD l.dir 97);exact⟨this.y, @BQ.neg _ _ this.x⟩
def XC{l:aa}{c:List aa}[hl:LB l](hb: ∀m∈c,LB m)(hn:c.length<=100000):PF GB prog 83 [eL l, .sl (c.map eL)] (vB (l5 l c)):=by
 have hml:(c.map eL).length=c.length:=aX ..;obtain⟨ds,hds⟩: ∃ds,ds=tu l c:=⟨_,rfl⟩;have hdl:ds.length=2*c.length+1:=by rw[hds];exact awH l c
 have hdb: ∀d∈ds,aD d 97:=by rw[hds];exact aBE hb
 have hbl:l5 l c=(!c.isEmpty&&ds.all (qA l c)):=by rw[Wm,<-hds]
 have hdm:(ds.map eP).length=ds.length:=aX ..;refine fn func83 J J ntmps83 J J (fun C=>?_);refine oG (fu:=⟨8⟩) J J<|aj 15 (.d (vI (c.length:Nat))) J omo<|gx J<|lp (X:=List ah×Nat) (fun⟨acc,k⟩=>[(16, .d (vI (k:Nat))),(5, .rw 13)]) (fun⟨acc,k⟩=>[(13,some (.b 63 6 (acc.map eP) true))]) (fun⟨acc,k⟩=>acc=(c.take k).flatMap (fun l=>[l.dir,aG l.dir])/\k<=c.length) (fun⟨acc,k⟩=>c.length-k) ⟨[],0⟩ J ⟨J,aN _⟩ (fun _=>J) (fun⟨acc,k⟩ hk=>?_)
 try dsimp only at hk⊢
 obtain⟨h1,h2⟩:=hk;have hal:acc.length=2*k:=by rw[h1,H6,bL];omega
 have ham:(acc.map eP).length=acc.length:=aX ..;refine br (fu2:=⟨10⟩) J J J (fun hc17=>?_) (fun hc17=>?_)
 .
  obtain⟨m,hx⟩: ∃u,c[k]? =some u:=⟨_,aZ we⟩;haveI:=hb m (aK hx);refine ix _ J (cp hx) J<|cl J (i8 (l:=m)) J<|cl J (i8 (l:=m)) J<|cl J (TZ (p:=m.dir)) J<|rf J J<|ap (hv:=by simp only[ak];exact⟨omd,we⟩) ((acc++[m.dir,aG m.dir]).map eP) J okb (Dv [m.dir,aG m.dir]) J<|ek 27 13 J<|at_ ⟨acc++[m.dir,aG m.dir],k+1⟩ (by dsimp only;exact⟨⟨by rw[dJ,hx,qN,<-h1];rfl,we⟩,we⟩)
 .
  obtain rfl:k=c.length:=by omega
  refine aj 30 (.d (vI (c.length:Nat))) J omo<|gx J<|br J J J (fun hc31=>?_) (fun hc31=>?_)
  .
   have hF:l5 l c=false:=by rw[hbl,qY.2 (cY we)];rfl
   exact rz J (by rw[hF];rfl)
  .
   have hT:l5 l c=ds.all (qA l c):=by rw[hbl];cases c with|nil=>exact absurd J hc31|cons a b=>rfl
   refine cl J (i8 (l:=l)) J<|cl J (i8 (l:=l)) J<|cl J (pz (q:=l.dir.x)) J<|rf J J<|ap (fu:=⟨8⟩) (ds.map eP) J (by rw[hds,tu,aL,h1,cN]<;>rfl) (Dv [⟨l.dir.y, -l.dir.x⟩]) J<|aj 44 (.d (vI (ds.length:Nat))) J (by rw[hdm]<;>rfl)<|gx J<|lp (X:=Nat) (fun k=>[(45, .d (vI (k:Nat)))]) (fun k=>[]) (fun k=>(ds.drop k).all (qA l c)=ds.all (qA l c)/\k<=ds.length) (fun k=>ds.length-k) 0 J ⟨J,aN _⟩ (fun _=>J) (fun k hk=>?_);obtain⟨h3,h4⟩:=hk;refine br J J J (fun hc46=>?_) (fun hc46=>?_)
   .
    obtain⟨v,hv⟩: ∃u,ds[k]? =some u:=⟨_,aZ we⟩;haveI:=hdb v (aK hv);refine lb (fu:=⟨14⟩) _ J (cp hv) J<|aj 50 (.d (vI (c.length:Nat))) J omo<|gx J<|Nd 10 _ J J<|lp (X:=Bool×Nat) (fun⟨b,j⟩=>[(51, .d (vI (j:Nat))),(10, .d (vB b))]) (fun⟨b,j⟩=>[]) (fun⟨b,j⟩=>(b&&(c.drop j).all fun m=>decide (0<=Int.sign (m.dir.cross v).num))=ul c v/\j<=c.length) (fun⟨b,j⟩=>c.length-j) ⟨true,0⟩ J ⟨by simp[ul],aN _⟩ (fun _=>J) (fun⟨b,j⟩ hk=>?_)
    try dsimp only at hk⊢
    obtain⟨g1,g2⟩:=hk;refine br (fu1:=⟨6⟩) (fu2:=⟨7⟩) J J J (fun hc52=>?_) (fun hc52=>?_)
    .
     obtain⟨m,hy⟩: ∃u,c[j]? =some u:=⟨_,aZ we⟩;haveI:=hb m (aK hy)
     cases b
     .
      refine gx J<|ix (fu:=⟨7⟩) _ J (cp hy) J<|cv (hv:=by simp only[ak];exact⟨omd,we⟩) J J J<|N7 10 _ J J<|at_ ⟨false,j+1⟩ (by dsimp only;exact⟨⟨by rw[<-g1];simp,we⟩,we⟩)
     .
      refine gx J<|ix (fu:=⟨7⟩) _ J (cp hy) J<|d7 J J J<|cl J (i8 (l:=m)) J<|cl J (rE (p:=m.dir) (q:=v) (i:=97) (j:=97)) J<|cl (hv:=by simp only[ak];exact⟨omd,we⟩) J (n5 (q:=m.dir.cross v)) J<|N7 10 _ J J<|at_ ⟨decide (0<=Int.sign (m.dir.cross v).num),j+1⟩ (by dsimp only;exact⟨⟨by rw[<-g1,F5 hy];simp,we⟩,we⟩)
    .
     obtain rfl:j=c.length:=by omega
     rw[fL] at g1;have hst:ul c v=b:=by rw[<-g1];simp
     cases b
     .
      refine gx (fu:=⟨1⟩) J<|cv (hv:=by simp only[ak];exact⟨omd,we⟩) J J J<|at_ (k+1) ⟨⟨by rw[<-h3,F5 hv,show qA l c v=true by unfold qA;rw[hst]<;>rfl]<;>rfl,we⟩,we⟩
     .
      refine gx (fu:=⟨1⟩) J<|d7 J J J<|cl J (i8 (l:=l)) J<|cl J (rE (p:=l.dir) (q:=v) (i:=97) (j:=97)) J<|cl J (n5 (q:=l.dir.cross v)) J<|br J J J (fun hc73=>?_) (fun hc73=>?_)
      .
       have hF:l5 l c=false:=by rw[hT,<-h3,F5 hv,show qA l c v=false by unfold qA;rw[hst,decide_eq_true hc73]<;>rfl]<;>rfl
       exact rz J (by rw[hF];rfl)
      .
       exact at_ (k+1) ⟨⟨by rw[<-h3,F5 hv,show qA l c v=true by unfold qA;rw[decide_eq_false hc73,Bool.and_false]<;>rfl]<;>rfl,we⟩,we⟩
   .
    have hT2:l5 l c=true:=by rw[hT,<-h3,jQ we];rfl
    exact rz J (by rw[hT2];rfl)
end Go.Sx
end
