import Derived.Test.YtmdgdhokaffbkaaGreatDoorMu19
import Derived.Test.YtmdgdhokaffbkaaGreatDoorCards
import Derived.Test.YtmdgdhokaffbkaaGreatDoorTie
import Derived.WalkKit
import Derived.ProofKit
import Derived.OpenShut
import Derived.Deep.DeepHandedRow
import Derived.Deep.DeepWitnessRowRef
import Derived.LaidMore
import Derived.Lib.LaidTab
import Derived.SizedLaws
import Derived.Stop.LaidErr
import Derived.MakeChecks
set_option linter.all false
set_option maxHeartbeats 2000000
set_option maxRecDepth 100000
section
namespace Go.Sx
open Go Go.Proofs Tryz
variable {GB:Gh}{n p q:ah}{t u y:Tr}{k i j kb e k0 a':Nat}{l v V:List ah}{x m:Rat}{ai ae:Addr}{z op:Int}{r:List ZP}{es es0:List Int}
def zQ(n p:ah)(t:List ah)(k:Nat):Rat:=(t.take k).foldl (fun b q=>if n.dot q<b then n.dot q else b) (n.dot p)
def zV{t:List ah}(h:t[k]? =some q):zQ n p t (k+1)=if n.dot q<zQ n p t k then n.dot q else zQ n p t k:=by
 unfold zQ;rw[eK,h];simp only[oL,nL,kY,List.foldl_nil]
theorem zL{n p:ah}{t:List ah}{i j:Nat}[hn:aI n i](hb: ∀q∈p::t,aI q j): ∀k,BQ (zQ n p t k) (i+j+(i+j)+1)
 |0=>by
  haveI:=hb p aQ;exact(inferInstance:BQ (n.dot p) _)
 |k+1=>by
  cases h:t[k]? with
  |none=>
   have e:zQ n p t (k+1)=zQ n p t k:=by
    unfold zQ;rw[eK,h];simp
   rw[e];exact zL hb k
  |some q=>
   rw[zV h];haveI:=hb q (aJ _ (aV h));split
   .exact(inferInstance:BQ (n.dot q) _)
   .exact zL hb k
theorem yZ[aI n i](hb: ∀q∈l,aI q j)(hne:l≠[]):BQ (jm n l) (i+j+(i+j)+1):=by
 cases l with
 |nil=>exact absurd J hne
 |cons p t=>
  have:=zL (n:=n) (i:=i) hb t.length;unfold zQ at this;rwa [dQ] at this
def yC(l:List ah):cA 6 (l.map eZ):=fun d hd=>by
 obtain⟨x,_,rfl⟩:=aR.1 hd;exact⟨J,J⟩
def zY[hn:aI n i](hb: ∀q∈l,aI q j)(hne:l≠[])(hi:i<=20000)(hj:j<=20000)(hk:l.length<=100000):PF GB prog 218 [eZ n, .sl (l.map eZ)] (eF (jm n l)):=by
 obtain⟨p,t,rfl⟩: ∃p t,l=p::t:=by cases l with|nil=>exact absurd rfl hne|cons p t=>exact⟨p,t,rfl⟩
 have hml:((p::t).map eZ).length=t.length+1:=by simp
 have hml2:(t.map eZ).length=t.length:=aX ..;rw[bQ] at hk;have hp:=hb p aQ;obtain⟨S,hS⟩: ∃S,S=zQ n p t:=⟨_,rfl⟩;have hSb: ∀k,BQ (S k) (i+j+(i+j)+1):=by rw[hS];exact zL hb
 have hS0:n.dot p=S 0:=by rw[hS];rfl
 refine fn func218 J J ntmps218 J J (fun C=>?_);refine ix _ J J J<|cl (fu:=⟨0⟩) J (tj (p:=n) (q:=p) (i:=i) (j:=j) (by omega) (by omega)) J<|aj 12 (.d (eF (S 0))) J (by rw[hS0])<|gx J<|km (fu:=⟨1⟩) 1 (t.length+1) (t.map eZ) J J (by rw[hml]) (by rw[cZ (by rw[hml];exact bW _)];rfl) (yC _) (by omega) (by omega) J<|aj 15 (.d (vI (t.length:Nat))) J (by rw[hml2]<;>rfl)<|gx J<|lp (X:=Nat) (fun k=>[(16, .d (vI (k:Nat))),(5, .ov 5 0)]) (fun k=>[(5,some (.o 101 [.d (vI (di (S k))), .d (vI (dh (S k))), .d (c9 (S k))] true))]) (fun k=>k<=t.length) (fun k=>t.length-k) 0 J (bJ _) (fun _=>J) (fun k hk=>?_);haveI:=hSb k;refine br J J J (fun hc17=>?_) (fun hc17=>?_)
 .
  obtain⟨q,hx⟩: ∃u,t[k]? =some u:=⟨_,aZ (by omega)⟩;haveI:=hb q (aJ _ (aV hx));have eS:S (k+1)=if n.dot q<S k then n.dot q else S k:=by rw[hS];exact zV hx
  refine ix _ J (cO hx) J<|cl J (tj (p:=n) (q:=q) (i:=i) (j:=j) (by omega) (by omega)) J<|cl (fu:=⟨0⟩) J (K7 (p:=S k) (q:=n.dot q) (i:=i+j+(i+j)+1) (j:=i+j+(i+j)+1) (by omega) (by omega)) J<|aj 24 (.d (eF (S (k+1)))) J (by rw[eS])<|gx (hv:=by simp only[ak];exact⟨by kernel_rfl,by omega⟩) J<|at_ (k+1) ⟨(by omega),(by omega)⟩
 .
  obtain rfl:k=t.length:=by omega
  exact rz J (by rw[hS];unfold zQ;rw[dQ]<;>rfl)
def wW:Option Rat->DV
 |some m=> .tp [eF m,vB true]
 |none=> .tp [.ag [vI 0,vI 0, .v (.pointer none)],vB false]
theorem yW{c:ar}(hc:dP c): ∀q∈i9 c,aI q 3500:=fun q hq=>by
 rcases aM.1 hq with h|h
 .obtain⟨s,hs,rfl⟩:=aR.1 h
  exact Xn (hc s hs)
 .have hlb: ∀l∈c.map (fun s=>s.l),LB l:=fun l hl=>by
   obtain⟨s,hs,rfl⟩:=aR.1 hl;exact(hc s hs).lb
  exact aI.mono (S8 hlb q h)
def zZ{c:ar}(h:c=[]\/rx n c=true):gz c n=none:=by
 unfold gz;rw[if_pos];rcases h with h|h
 .rw[h];rfl
 .rw[h,rL]
def zR{c:ar}{s:bt}(hs:s∈c)(h:iz n s=true):gz c n=none:=by
 unfold gz;split
 .rfl
 .rw[if_pos (jY.2 ⟨s,hs,h⟩)]
def xR{c:ar}(h0:c≠[])(h1:rx n c=false)(h: ∀s∈c,iz n s=false):gz c n=some (jm n (i9 c)):=by
 unfold gz;have e:c.isEmpty=false:=by cases c with|nil=>exact absurd J h0|cons s t=>rfl
 rw[e,h1,if_neg (by decide),if_neg (fun k=>by obtain⟨s,hs,k⟩:=jY.1 k;rw[h s hs] at k;cases k)]
def zS(c:ar):List ah:=c.map fun s=>s.l.at s.v.sample
def yT{c:ar}{s:bt}(h:c[k]? =some s):((zS (c.take k)).map eZ)++[eZ (s.l.at s.v.sample)]=(zS (c.take (k+1))).map eZ:=by
 unfold zS;rw[eK,h,bX,bX];rfl
def xC{c:ar}(h:c.length≠1):rx n c=false:=by
 match c,h with
 |[],_=>rfl
 |[s],h=>exact absurd J h
 |_::_::_,_=>rfl
def sgn_ltq:x.num.sign<0↔x<0:=by
 rw[<-Rat.not_le,<-rU];constructor
 .intro h k
  rcases(show x.num=0\/0<x.num by omega) with e|e
  .rw[e] at h;exact absurd h (by decide)
  .rw[fY e] at h;omega
 .intro h
  rw[dS (by omega)];decide
def wH:0<x.num↔0<x:=by
 constructor
 .intro h
  refine Rat.not_le.1 fun k=>?_;have h2:=rU.2 (show 0<= -x by grind);rw[nR] at h2;omega
 .intro h
  have h1:=rU.2 (cM h);have h2:x.num≠0:=fun e=>by rw[lL.1 e] at h;exact absurd h (by decide)
  omega
def sgn_gtq:0<x.num.sign↔0<x:=by
 rw[<-wH];constructor
 .intro h
  refine Decidable.not_not.1 fun k=>?_;rcases(show x.num=0\/x.num<0 by omega) with e|e
  .rw[e] at h;exact absurd h (by decide)
  .rw[dS e] at h;exact absurd h (by decide)
 .intro h
  rw[fY h];decide
def wU{s:bt}(h:s.v.nh=true)(k:(s.l.dir.dot n).num.sign<0):iz n s=true:=by
 unfold iz;rw[h,decide_eq_true (sgn_ltq.1 k)];rfl
def wR{s:bt}(h:s.v.nl=true)(k:0<(s.l.dir.dot n).num.sign):iz n s=true:=by
 unfold iz;rw[h,decide_eq_true (sgn_gtq.1 k),sX,rL]
def xP{s:bt}(h1:s.v.nh=false\/ ¬(s.l.dir.dot n).num.sign<0)(h2:s.v.nl=false\/ ¬0<(s.l.dir.dot n).num.sign):iz n s=false:=by
 unfold iz;have e1:(s.v.nh&&decide (s.l.dir.dot n<0))=false:=by
  rcases h1 with h|h
  .rw[h];rfl
  .rw[decide_eq_false fun k=>h (sgn_ltq.2 k),Bool.and_false]
 have e2:(s.v.nl&&decide (0<s.l.dir.dot n))=false:=by
  rcases h2 with h|h
  .rw[h];rfl
  .rw[decide_eq_false fun k=>h (sgn_gtq.2 k),Bool.and_false]
 rw[e1,e2];rfl
def xD{c:ar}{s:bt}(h:c[k]? =some s)(hk: ∀s∈c.take k,iz n s=false)(hs:iz n s=false): ∀s∈c.take (k+1),iz n s=false:=fun u hu=>by
 rw[eK,h] at hu;rcases aM.1 hu with hu|hu
 .exact hk u hu
 .rw[show u=s by simpa using hu];exact hs
def yV{c:ar}(h:c≠[]):i9 c≠[]:=fun e=>h (by
 have:=(List.append_eq_nil_iff.1 e).1;exact List.map_eq_nil_iff.1 this)
def xK(c:ar)(h:c.length<=20000):(i9 c).length<=100000:=by
 unfold i9;have:=MN (c.map (·.l));rw[aY,aX];rw[aX] at this;omega
def yJ{c:ar}[hn:aI n j](hc:dP c)(hj:j<=10000)(hk:c.length<=20000):PF GB prog 220 [eC c,eZ n] (wW (gz c n)):=by
 have hml:(c.map cI).length=c.length:=aX ..;have hback: ∀s,c[0]? =some s->c.length=1->rx n c=decide (s.l.nor.dot n<0):=fun s h1 h2=>by match c,h1,h2 with|[u],h1,_=>cases h1;rfl
 refine fn (fu:=⟨8⟩) func220 J J ntmps220 J J (fun C=>?_);refine mg (X:=Unit) (fun _=>[]) (fun _=>[]) (fun _=>c≠[]/\rx n c=false) [] [] rfl ?_ (fun _=>J) (fun _ hm=>?_)
 .
  refine gx (fu:=⟨4⟩) J<|aj 11 (.d (vI (c.length:Nat))) J (by rw[hml]<;>rfl)<|gx (fu:=⟨0⟩) J<|i7 (v1:=fun hg12=>by simp only[ak];kernel_rfl) (fu2:=⟨3⟩) J J J J (fun hg12=>?_) (fun hg12=>?_)
  .
   exact rz J (by rw[zZ (.inl (cR (by omega)))]<;>rfl)
  .
   have hc0:c≠[]:=fun e=>hg12 (by rw[e];rfl);refine aj 15 (.d (vI (c.length:Nat))) J (by rw[hml]<;>rfl)<|gx (fu:=⟨0⟩) J<|i7 (v2:=fun hg16=>by simp only[ak];kernel_rfl) J J J J (fun hg16=>?_) (fun hg16=>?_)
   .
    obtain⟨s,hx⟩: ∃s,c[0]? =some s:=⟨_,aZ (by omega)⟩;have hbe:=hback s hx (by omega);haveI:=(hc s (aV hx)).lb;haveI:=(hc s (aV hx)).v.lo;haveI:=(hc s (aV hx)).v.hi;refine ix _ J (Vh hx) J<|cl J (uY (l:=s.l)) J<|cl J (tj (p:=s.l.nor) (q:=n) (i:=97) (j:=j) (by decide) (by omega)) J<|cl J (ma (q:=s.l.nor.dot n) (by omega)) J<|br J J J (fun hc28=>?_) (fun hc28=>?_)
    .
     exact rz J (by rw[zZ (.inr (by rw[hbe];exact decide_eq_true (sgn_ltq.1 hc28)))]<;>rfl)
    .
     exact at_ () ⟨hc0,by rw[hbe];exact decide_eq_false fun k=>hc28 (sgn_ltq.2 k)⟩
   .
    exact at_ () ⟨hc0,xC (by omega)⟩
 .
  obtain⟨hne,hbk⟩:=hm;refine nr 6 6 103 6 J J J<|lp (X:=Nat) (fun k=>[(32, .d (vI (k:Nat))),(6, .rw 6)]) (fun k=>[(6,some (.b 103 6 ((zS (c.take k)).map eZ) true))]) (fun k=>k<=c.length/\ ∀s∈c.take k,iz n s=false) (fun k=>c.length-k) 0 J ⟨bJ _,fun s hs=>by simp at hs⟩ (fun _=>J) (fun k hk=>?_);obtain⟨hk1,hk2⟩:=hk;have hm4:(zS (c.take k)).length<=k:=by unfold zS;rw[aX,bL];omega
  have hm3:((zS (c.take k)).map eZ).length<=k:=by rw[aX];exact hm4
  refine br J J J (fun hc33=>?_) (fun hc33=>?_)
  .
   obtain⟨s,hx⟩: ∃u,c[k]? =some u:=⟨_,aZ (by omega)⟩;haveI:=(hc s (aV hx)).lb;haveI:=(hc s (aV hx)).v.lo;haveI:=(hc s (aV hx)).v.hi;refine ix _ J (cO hx) J<|cl J (vV (l:=s.l)) J<|cl J (tj (p:=s.l.dir) (q:=n) (i:=97) (j:=j) (by decide) (by omega)) J<|cl (fu:=⟨4⟩) J (ma (q:=s.l.dir.dot n) (by omega)) J<|mg (X:=Unit) (fun _=>[]) (fun _=>[]) (fun _=>iz n s=false) [] [] rfl ?_ (fun _=>J) (fun _ hop=>?_)
   .
    refine gx J<|iq 45 J J J (fun hg45=>?_) (fun hg45=>?_)
    .
     refine cs 49 J J J (fun hg49=>?_) (fun hg49=>?_)
     .
      exact rz J (by rw[zR (aV hx) (wU hg45 hg49)]<;>rfl)
     .
      refine iq 53 J J J (fun hg53=>?_) (fun hg53=>?_)
      .
       refine br J J J (fun hc57=>?_) (fun hc57=>?_)
       .
        exact rz J (by rw[zR (aV hx) (wR hg53 hc57)]<;>rfl)
       .
        exact at_ () (xP (.inr hg49) (.inr hc57))
      .
       exact at_ () (xP (.inr hg49) (.inl hg53))
    .
     refine iq 53 J J J (fun hg53=>?_) (fun hg53=>?_)
     .
      refine br J J J (fun hc57=>?_) (fun hc57=>?_)
      .
       exact rz J (by rw[zR (aV hx) (wR hg53 hc57)]<;>rfl)
      .
       exact at_ () (xP (.inl hg45) (.inr hc57))
     .
      exact at_ () (xP (.inl hg45) (.inl hg53))
   .
    refine cl J (ML (v:=s.v) (i:=1200)) J<|cl J (MJ (l:=s.l) (t:=s.v.sample)) J<|rf J J<|ap (hv:=by simp only[ak];exact⟨by kernel_rfl,by omega⟩) ((zS (c.take (k+1))).map eZ) J (yT hx) (yC [_]) J<|fm 67 6 J<|at_ (k+1) ⟨⟨by omega,xD hx hk2 hop⟩,(by omega)⟩
  .
   obtain rfl:k=c.length:=by omega
   rw[dQ] at hk2⊢;have hm5:(zS c).length=c.length:=aX ..;have hm6:=MN (c.map (·.l));rw[aX] at hm6;refine cl J (aBV (c:=c) (fun s hs=>(hc s hs).lb) (by omega)) J<|kI ((i9 c).map eZ) J (by unfold i9 zS;rw[bX]<;>rfl) (yC _) J<|cl J (zY (n:=n) (l:=i9 c) (i:=j) (j:=3500) (yW hc) (yV hne) (by omega) (by decide) (xK c (by omega))) J<|rz J (by rw[xR hne hbk hk2]<;>rfl)
def wE{c:ar}[hn:aI n j](hc:dP c)(hj:j<=10000)(hk:c.length<=20000)(h:gz c n=some m):PF GB prog 220 [eC c,eZ n] (.tp [eF m, .v (.bool true)]):=by
 have:=yJ (GB:=GB) (n:=n) hc hj hk;rw[h] at this;exact this
def wF{c:ar}[hn:aI n j](hc:dP c)(hj:j<=10000)(hk:c.length<=20000)(h:gz c n=none):PF GB prog 220 [eC c,eZ n] (.tp [.ag [vI 0,vI 0, .v (.pointer none)], .v (.bool false)]):=by
 have:=yJ (GB:=GB) (n:=n) hc hj hk;rw[h] at this;exact this
def zJ{P:Nat->Prop}(h: ∀i<k,P i)(hk:P k): ∀i<k+1,P i:=fun i hi=>by
 rcases Nat.lt_succ_iff_lt_or_eq.1 hi with h1|h1
 .exact h i h1
 .rw[h1];exact hk
def xN(hb: ∀u∈v,aI u i)(hi:i<=80000)(hn:v.length<=100000):PF GB prog 101 [.sl (v.map eZ)] (vB (kH v)):=by
 have hrl:(mG v).length=v.length:=by unfold mG;rw[aX,lT]
 have hml:(v.map eZ).length=v.length:=aX ..;refine FK func101 J J ntmps101 J J (fun C h0=>?_);refine Hb J J J Gj (fun _=>J) (fun GB1 pv hg1 hpv=>?_);refine wg 1 2000001 h0.fx J<|wg 2 2000002 h0.fx J ?_;refine Ii (σ:=Unit) (fun _=>[(2000001,some (.o 106 [.d (.sl (v.map eZ))] true)),(2000002,some (.o 4 [.ff] true))]) (fun k=> ∀k'<k,∀i<v.length,ta v k' i=true) (fun _=>[(2000001,some (.o 106 [.d (.sl (v.map eZ))] true)),(2000002,some (.o 4 [.ff] true))]) (fun _=>kH v=false) [(1, .ov 2000001 0),(2, .ov 2000002 0)] h0 J (HU) (.cons hpv .nil) ⟨J,J,trivial⟩ J ⟨J,J,trivial⟩ (fun k hk=>absurd hk (sY k)) IQ J J (fun k e GB' hE hg hp=>?_) (fun D hD hx hp=>?_) (fun D s hD hx hq=>?_)
 .obtain⟨q1,q2,hpx,hqx,rfl⟩:=I9 hE
  haveI:=hb q1 (aV hpx);haveI:=hb q2 (aV hqx);have hkn:=(aT.1 hpx).1;refine⟨?_,?_,fun C2=>?_,fun C2=>?_⟩
  rotate_left 2
  .refine gx J<|Gg J J J ⟨J,J,J⟩ J ?_
   exact atR
  .skip
   refine gx (fu:=⟨5⟩) J<|aj 12 (.d (vI (v.length:Nat))) J (by rw[hml]<;>rfl)<|gx J<|lp (X:=Nat) (fun j=>[(13, .d (vI (j:Nat)))]) (fun j=>[]) (fun j=>j<=v.length/\ ∀i<j,ta v k i=true) (fun j=>v.length-j) 0 J ⟨bJ _,fun i hi=>absurd hi (sY i)⟩ (fun _=>J) (fun j hk=>?_);obtain⟨hk1,hk2⟩:=hk;refine br J J J (fun hc14=>?_) (fun hc14=>?_)
   .
    obtain⟨w,hx⟩: ∃u,v[j]? =some u:=⟨_,aZ (by omega)⟩;haveI:=hb w (aV hx);have hcv:=aHC hpx hqx hx;refine ix _ J (cO hx) J<|cs (fu1:=⟨5⟩) 21 J J J (fun hg21=>?_) (fun hg21=>?_)
    .
     refine aj 26 (.d (vI (v.length:Nat))) J (by rw[hml]<;>rfl)<|gx (fu:=⟨1⟩) J<|aj 27 (.d (vI (((k+1)%v.length:Nat):Int))) J J<|gx J<|cs 30 J J J (fun hg30=>?_) (fun hg30=>?_)
     .
      refine nB 0 (e:=103) (len:=2) (s:=6) J (by kernel_rfl) (by kernel_rfl) (by decide) J<|nB 1 (e:=103) (len:=2) (s:=6) J (by kernel_rfl) (by kernel_rfl) (by decide) J<|cl J (Xo (a:=q1) (b:=q2) (c:=w) (i:=i) (j:=i) (k:=i) (by omega) (by omega) (by omega)) J<|br J J J (fun hc38=>?_) (fun hc38=>?_)
      .
       exact Wd () (YS hkn (aT.1 hx).1 (by rw[hcv,decide_eq_false (by omega),decide_eq_false (by omega),decide_eq_false (fun q=>by have:=sgn_gtq.2 q;omega)]<;>rfl))
      .
       exact at_ (j+1) ⟨⟨by omega,zJ hk2 (by rw[hcv,decide_eq_true (sgn_gtq.1 (by omega)),rL,rL])⟩,(by omega)⟩
     .
      exact at_ (j+1) ⟨⟨by omega,zJ hk2 (by rw[hcv,decide_eq_true (show j=(k+1)%v.length by omega),Bool.true_or,rL])⟩,(by omega)⟩
    .
     exact at_ (j+1) ⟨⟨by omega,zJ hk2 (by rw[hcv,decide_eq_true (show j=k by omega),Bool.true_or])⟩,(by omega)⟩
   .
    obtain rfl:j=v.length:=by omega
    exact rq (zJ hp hk2) ⟨J,J,trivial⟩
 .refine gx J<|?_
  rw[hrl] at hp;exact Dx hD hx J (by rw[KH.2 hp]<;>rfl)
 .refine gx J<|?_
  exact Dx hD hx J (by rw[hq]<;>rfl)
section
variable {al:Addr}(hE:EG GB ai al ae)
include hE
section
variable (h:t.gd)(hs:t.size<=65536)(hd:t.depth<=1000)
include h hs hd
end
end
structure RL.wd (r:RL):Prop where
 a:bB r.da
 b:bB r.db
 c:bB r.dc

def yX{L:List aa}{l:aa}(h:L[j]? =some l):kA (L.drop j)= .node l (kA (L.drop (j+1))) (.leaf false):=by
 obtain⟨h1,h2⟩:=aT.1 h;rw[bK h1,h2];rfl
def yY{c:ar}{s:bt}(h:c[j]? =some s):(c.map (·.l))[j]? =some s.l:=by rw[cY,h];rfl
def yN{c:ar}(hn:c.length<=100000):PF GB prog 147 [.sl (c.map cI)] (eU (kA (c.map (·.l)))):=by
 have hml:(c.map cI).length=c.length:=aX ..;refine fn func147 J J ntmps147 J J (fun C=>?_);refine cl (fu:=⟨8⟩) J (rh (b:=true)) J<|aj 7 (.d (vI (c.length:Nat))) J (by rw[hml]<;>rfl)<|gx J<|aj 3 (.d (eU (kA ((c.map (·.l)).drop c.length)))) J (by rw[iS (by simp)]<;>rfl)<|lp (X:=Nat) (fun k=>[(4, .d (vI ((k:Int)-1))),(3, .d (eU (kA ((c.map (·.l)).drop k))))]) (fun k=>[]) (fun k=>k<=c.length) (fun k=>k) c.length J (bW _) (fun _=>J) (fun k hk=>?_);refine br (fu1:=⟨7⟩) J J J (fun hc10=>?_) (fun hc10=>?_)
 .
  obtain⟨j,rfl⟩: ∃j,k=j+1:=⟨k-1,by omega⟩;obtain⟨s,hx⟩: ∃u,c[j]? =some u:=⟨_,aZ (by omega)⟩;refine aj 14 (.d (vI (j:Nat))) J (by congr 3;omega)<|gx J<|ix _ J (cO hx) J<|cl J (rh (b:=false)) J<|cl (hv:=by simp only[ak];exact⟨by kernel_rfl,by omega⟩) J (wc (l:=s.l)) J<|aj 4 (.d (vI ((j:Int)-1))) J (by congr 3;omega)<|aj 3 (.d (eU (kA ((c.map (·.l)).drop j)))) J (by rw[yX (yY hx)]<;>rfl)<|at_ j ⟨(by omega),(by omega)⟩
 .
  obtain rfl:k=0:=by omega
  exact rz J J

theorem zI{m:Int}(h:m.natAbs<2^k)(hk:0<k:=by decide):BQ (m:Rat) k:=⟨by rw[nY];exact h,by rw[nU];exact dZ (show 1<2^1 by decide) (bR (by decide) hk)⟩
theorem wM(h: ∀v∈V,ZB v): ∀v∈V,aI v 4:=fun v hv=>by
 obtain⟨m,n,rfl,h1,h2⟩:=h v hv;exact⟨zI (by omega),zI (by omega)⟩
theorem wI{l:aa}(hk:BL l k)(h62:k+5<=62)(hV:V≠[])(hz: ∀v∈V,ZB v):BQ (l.a:Rat) 62/\BQ (l.b:Rat) 62/\BQ ((l.c:Rat)-jm l.nor V) 62:=by
 obtain⟨v,hv,e⟩:=(qo (n:=l.nor) hV).2;obtain⟨m,n,rfl,h1,h2⟩:=hz v hv;have e2:(l.c:Rat)-jm l.nor V=((l.c-(l.a*m+l.b*n):Int):Rat):=by
  rw[e];unfold ah.dot aa.nor iP;rw[iJ,lZ,bM,bM]
 have b1:=im (gJ hk.a) h1;have b2:=im (gJ hk.b) h2;have ka:=hk.a;have kb:=hk.b;have kc:=hk.c;have hp:2^k*32<=2^62:=by
  rw[show 2^k*32=2^(k+5) by rw[fX]];exact bR (by decide) h62
 rw[e2];generalize 2^k=w at*;refine⟨zI (by omega),zI (by omega),zI (by omega)⟩
def xS{c:ar}(hc:bu c)(hk: ∀s∈c,BL s.l k)(hq:q∈x8 (c.map fun s=>s.l)):QD (2*k+1) q:=by
 unfold x8 at hq;split at hq
 .obtain⟨l,hl,rfl⟩:=aR.1 hq
  obtain⟨s,hs,rfl⟩:=aR.1 hl;exact Lg (hk s hs) (hc.ok s hs)
 .obtain⟨l,hl,m,hm,hx,rfl⟩:=Le hq
  obtain⟨s,hs,rfl⟩:=aR.1 hl;obtain⟨u,hu,rfl⟩:=aR.1 hm;exact KD (hk s hs) (hk u hu) hx
theorem wL{a:Rat}{D:Nat}(hD:0<D)(h:a*((D:Int):Rat)=(z:Rat))(h1:z.natAbs<2^k)(h2:D<2^k):BQ a k:=by
 have e:=FU hD h;have d1:a.den∣D:=by
  have e2:a.num.natAbs*D=z.natAbs*a.den:=by
   have:=congrArg Int.natAbs e;rwa [fW,fW,fT,fT] at this
  exact a.reduced.symm.dvd_of_dvd_mul_left ⟨z.natAbs,by rw[e2,cJ]⟩
 obtain⟨m,hm⟩:=d1;have hden:=Nat.le_of_dvd hD ⟨m,hm⟩;have hm0:0<m:=iK fun k=>by rw[k] at hm;omega
 have e2:a.num*(m:Int)=z:=by
  rw[hm] at e;have hdn:(a.den:Int)≠0:=by have:=a.den_pos;omega
  refine Int.eq_of_mul_eq_mul_right hdn ?_;rw[<-e];push_cast;rw[Int.mul_assoc,rK (m:Int)]
 refine⟨fK ?_ h1,fK hden h2⟩;rw[<-e2,fW,fT];exact mK _ hm0
theorem wK{c:ar}(hc:bu c)(ha:gg c)(hk: ∀s∈c,BL s.l k)(h62:2*k+10<=62){f:ah×ah}(hn: ¬((bD f).x=0/\(bD f).y=0))(h1:ZB f.1)(h2:ZB f.2)(hf:gz c (bD f)=some m):BQ (bD f).x 62/\BQ (bD f).y 62/\BQ (-(m+(bD f).dot f.1)) 62:=by
 obtain⟨e1,e2⟩:=QJ hc ha hn hf;obtain⟨q,hq,e3⟩:=(qo (n:=bD f) e2).2;rw[e1] at e3;obtain⟨D,X,Y,hD0,hD,hX,hY,x1,y1⟩:=xS hc hk hq;obtain⟨m1,n1,p1,a1,a2⟩:=h1;obtain⟨m2,n2,p2,a3,a4⟩:=h2;have nx:(bD f).x=((n1-n2:Int):Rat):=by unfold bD;rw[p1,p2];unfold iP;rw[iJ];grind
 have ny:(bD f).y=((m2-m1:Int):Rat):=by unfold bD;rw[p1,p2];unfold iP;rw[iJ]
 generalize hA:n1-n2=A at nx;generalize hB:m2-m1=B at ny;have key: -(m+(bD f).dot f.1)*((D:Int):Rat)=((-(A*X+B*Y+(A*m1+B*n1)*D):Int):Rat):=by
  rw[e3,p1];unfold ah.dot iP;dsimp only;rw[nx,ny];simp only[bM,jJ,lZ];rw[<-x1,<-y1];grind
 have hA16:A.natAbs<=16:=by omega
 have hB16:B.natAbs<=16:=by omega
 have b0:(D:Int).natAbs<=2^(2*k+1):=hD;have b3:=im hA16 hX;have b4:=im hB16 hY;have b5:(A*m1+B*n1).natAbs<=256:=by
  have:=im hA16 a1;have:=im hB16 a2;omega
 have b6:=im b5 b0;have e8:2^(2*k+10)=2^(2*k+1)*512:=by rw[show 2*k+10=2*k+1+9 by omega,fX]
 have e9:2^(2*k+1)*512<=2^62:=by
  rw[<-e8];exact bR (by decide) h62
 have w0:0<2^(2*k+1):=fN (by decide);rw[nx,ny];refine⟨zI (by omega),zI (by omega),wL hD0 key ?_ ?_⟩
 .generalize 2^(2*k+1)=w at*;omega
 .generalize 2^(2*k+1)=w at*;omega
theorem yG(h:eg r): ∀u∈r.map ZP.q,aI u 8:=fun u hu=>by
 obtain⟨p,hp,rfl⟩:=aR.1 hu;obtain⟨h1,h2⟩:=h.le p hp;exact⟨zI (by omega),zI (by omega)⟩
def xO(h:sE r)(hc:kH (r.map ZP.q)=true):PF GB prog 142 [lw r] (.tp [.sl ((r.map ZP.q).map eZ), .v .nilIface]):=by
 have hn:=h.ok.n6;have hl:(r.map ZP.q).length=r.length:=aX ..;refine fn func142 J J ntmps142 J J (fun C=>?_);refine cl (fu:=⟨12⟩) J (ayu h.ok h.c3) J<|cF J J J<|cl (fu:=⟨0⟩) J (xN (v:=r.map ZP.q) (i:=8) (yG h.ok) (by decide) (by omega)) J<|aj 17 (.d (.v (.bool true))) J (by rw[hc]<;>rfl)<|jp 17 J<|gx J<|rz J J
def zA(c:ar)(V:List ah)(k:Nat):List aa:=(c.map fun s=>jx s.l V)++((bC V).take k).filterMap (lv c)
def xI(c:ar)(V:List ah):zA c V 0=c.map fun s=>jx s.l V:=by unfold zA;simp
def zH(c:ar)(V:List ah):zA c V (bC V).length=jd c V (bC V):=by unfold zA jd;rw[dQ]
def zG(c:ar)(V:List ah)(k:Nat):(zA c V k).length<=c.length+V.length:=by
 unfold zA;rw[aY,aX];have h1:=mX (lv c) ((bC V).take k);have h2:((bC V).take k).length<=V.length:=by rw[bL];unfold bC;rw[aX,lT];omega
 omega
def yD{c:ar}{f:ah×ah}(h:(bC V)[k]? =some f)(hf:gz c (bD f)=some m):(zA c V k).map cB++[cB (dH (bD f).x (bD f).y (-(m+(bD f).dot f.1)))]=(zA c V (k+1)).map cB:=by
 unfold zA;rw[eK,h];simp only[oL,List.filterMap_append,qX,List.filterMap_nil];rw[show lv c f=some (dH (bD f).x (bD f).y (-(m+(bD f).dot f.1))) by unfold lv;rw[hf];rfl];simp
def yE{c:ar}{f:ah×ah}(h:(bC V)[k]? =some f)(hf:gz c (bD f)=none):zA c V k=zA c V (k+1):=by
 unfold zA;rw[eK,h];simp only[oL,List.filterMap_append,qX,List.filterMap_nil];rw[show lv c f=none by unfold lv;rw[hf];rfl];simp
def yO{c:ar}{s:bt}(h:c[k]? =some s):((c.take k).map fun s=>jx s.l V).map cB++[cB (jx s.l V)]=((c.take (k+1)).map fun s=>jx s.l V).map cB:=by
 rw[eK,h,bX,bX];rfl
def yU(l:List aa):cA 9 (l.map cB):=fun d hd=>by
 obtain⟨x,_,rfl⟩:=aR.1 hd;exact⟨J,J⟩
def xL(h1:V[k]? =some p)(h2:V[(k+1)%V.length]? =some q):(bC V)[k]? =some (p,q):=by
 have hk:=(aT.1 h1).1;unfold bC;rw[cY,pM hk];show some (V.getD k ⟨0,0⟩,V.getD ((k+1)%V.length) ⟨0,0⟩)=_;rw[aW,aW,h1,h2];rfl
theorem wJ{c:ar}(hc:dP c)[hn:aI n 9](h:gz c n=some m):BQ m 7019:=by
 unfold gz at h;split at h
 .cases h
 .rename_i h0
  split at h
  .cases h
  .cases h
   have hne:c≠[]:=fun e=>h0 (by rw[e];rfl);exact yZ (n:=n) (i:=9) (yW hc) (yV hne)
theorem wV[hp:aI p 4][hq:aI q 4]:aI (bD (p,q)) 9:=by
 have h:=Ct q p (i:=4) (j:=4);exact⟨inferInstanceAs (BQ (-(q.y-p.y)) 9),inferInstanceAs (BQ (q.x-p.x) 9)⟩
def wD{c d:ar}(hV:mD V)(hc:dP c)(hg:bu c)(ha:gg c)(hk: ∀s∈c,BL s.l kb)(h62:2*kb+10<=62)(hn:c.length<=900)(hd:iI (jd c V (bC V)) []=some d):PF GB prog 146 [eC c, .sl (V.map eZ)] (eC d):=by
 have hVb:=wM hV.zb;have hV4:=hV.le;have hml:(c.map cI).length=c.length:=aX ..;have hpl:(bC V).length=V.length:=by unfold bC;rw[aX,lT]
 have hrl:(mG V).length=(bC V).length:=by unfold mG;rw[aX,lT,hpl]
 refine FK func146 J J ntmps146 J J (fun C h0=>?_);refine IB 5 0 50 243 9 J J J J J<|lp (X:=Nat) (fun k=>[(22, .d (vI (k:Nat))),(5, .ov 5 0)]) (fun k=>[(5,some (.o 326 [.rw 50] true)),(50,some (.b 243 9 (((c.take k).map fun s=>jx s.l V).map cB) true))]) (fun k=>k<=c.length) (fun k=>c.length-k) 0 J (bJ _) (fun _=>J) (fun k hkc=>?_);have hm3:(((c.take k).map fun s=>jx s.l V).map cB).length<=k:=by rw[aX,aX,bL];omega
 refine br J J J (fun hc23=>?_) (fun hc23=>?_)
 .obtain⟨s,hx⟩: ∃u,c[k]? =some u:=⟨_,aZ (by omega)⟩
  have hsm:=aV hx;haveI:=(hc s hsm).lb;obtain⟨q1,q2,q3⟩:=wI (hk s hsm) (by omega) hV.br.vne hV.zb;haveI hl0:=yZ (n:=s.l.nor) (i:=97) hVb hV.br.vne;have hne:=Fx (hg.ok s hsm);refine ix _ J (cO hx) J<|cl J (uY (l:=s.l)) J<|cl J (zY (n:=s.l.nor) (l:=V) (i:=97) (j:=4) hVb hV.br.vne (by decide) (by decide) (by omega)) J<|cl J (pu (p:=(s.l.c:Rat)) (q:=jm s.l.nor V) (i:=97) (j:=97+4+(97+4)+1)) J<|cl J (M8 (a:=(s.l.a:Rat)) (b:=(s.l.b:Rat)) (c:=(s.l.c:Rat)-jm s.l.nor V) hne) J<|rf J J<|ap (((c.take (k+1)).map fun s=>jx s.l V).map cB) J (yO hx) (yU [_]) J<|fm 47 50 J<|at_ (k+1) ⟨(by omega),(by omega)⟩
 .obtain rfl:k=c.length:=by omega
  rw[dQ,<-xI c V];refine Hb J J J Gj (fun _=>J) (fun GB1 pv hg1 hpv=>?_);refine wg 2 2000002 h0.fx J<|wg 5 2000005 h0.fx J ?_;refine Ii (σ:=Empty) (fun k=>[(2000002,some (.o 254 [.d (eC c)] true)),(2000005,some (.o 326 [.rw 50] true)),(50,some (.b 243 9 ((zA c V k).map cB) true))]) (fun _=>True) (fun _=>[]) (fun _=>False) [(2, .ov 2000002 0),(5, .ov 2000005 0)]
   h0 J (HU) (.cons hpv .nil) ⟨J,J,trivial⟩ J ⟨J,J,J,trivial⟩ trivial IQ J J (fun k e GB' hE hg2 hp=>?_) (fun D hD hx hp=>?_) (fun D s hD hx hq=>hq.elim)
  .obtain⟨q1,q2,hpx,hqx,rfl⟩:=I9 hE
   haveI:=hVb q1 (aV hpx);haveI:=hVb q2 (aV hqx);have z1:=hV.zb q1 (aV hpx);have z2:=hV.zb q2 (aV hqx);have hpr:=xL hpx hqx;have hnz:=hV.br.nz (aV hpr);haveI hn9:aI (bD (q1,q2)) 9:=wV;refine⟨?_,?_,fun C2=>?_,fun C2=>?_⟩
   rotate_left 2
   .refine gx J<|Gg J J J ⟨J,J,J⟩ J ?_
    exact atR
   .skip
    refine gx J<|nB 1 (e:=103) (len:=2) (s:=6) J (by kernel_rfl) (by kernel_rfl) (by decide) J<|nB 0 (e:=103) (len:=2) (s:=6) J (by kernel_rfl) (by kernel_rfl) (by decide) J<|cl J (FM (p:=q2) (q:=q1) (i:=4) (j:=4)) J<|cl (fu:=⟨0⟩) J (Wa (p:=⟨q2.x-q1.x,q2.y-q1.y⟩) (i:=9) (h:=Ct q2 q1)) J<|aj 58 (.d (eZ (bD (q1,q2)))) J J<|gx J<|?_;rcases hf:gz c (bD (q1,q2)) with _|m
    .
     rw[yE hpr hf];refine cl (fu:=⟨3⟩) J (wF (c:=c) (n:=bD (q1,q2)) (j:=9) hc (by decide) (by omega) hf) J<|rA 64 J<|gx J<|?_;exact rq trivial ⟨J,J,J,trivial⟩
    .
     obtain⟨u1,u2,u3⟩:=wK hg ha hk h62 hnz z1 z2 hf;haveI:BQ m 7019:=wJ hc hf;have hm4:=zG c V k;have hm5:((zA c V k).map cB).length<=c.length+V.length:=by rw[aX];exact hm4
     refine cl (fu:=⟨3⟩) J (wE (c:=c) (n:=bD (q1,q2)) (j:=9) hc (by decide) (by omega) hf) J<|jp 64 J<|gx J<|nB 0 (e:=103) (len:=2) (s:=6) J (by kernel_rfl) (by kernel_rfl) (by decide) J<|cl J (tj (p:=bD (q1,q2)) (q:=q1) (i:=9) (j:=4)) J<|cl J (qf (p:=m) (q:=(bD (q1,q2)).dot q1) (i:=7019) (j:=27)) J<|cl J (p9 (q:=m+(bD (q1,q2)).dot q1) (i:=7047)) J<|cl J (M8 (a:=(bD (q1,q2)).x) (b:=(bD (q1,q2)).y) (c:= -(m+(bD (q1,q2)).dot q1)) hnz) J<|rf J J<|ap ((zA c V (k+1)).map cB) J (yD hpr hf) (yU [_]) J<|fm 84 50 J ?_;exact rq trivial ⟨J,J,J,trivial⟩
  .rw[hrl,zH]
   refine gx J<|fz 50 J J<|cl J (Vd (ls:=jd c V (bC V)) (fun l hl=>⟨(I1 hV.br hV.zb hg ha hk l hl).mono (by omega)⟩) (MM hV.br hg) (by have:=zG c V (bC V).length;rw[zH] at this;omega) hd) J<|?_;exact Dx hD hx J J
def xE(hV:mD V)(ho:t.all aa.ok)(hrk:(t.restrict []).all fun l=>BL l kb)(hrb:(t.restrict []).all LB)(h62:2*kb+10<=62)(hd:t.depth<=800)(hu:u∈(de (t.restrict [])).map (eu V (bC V))):u.gd/\u.size<=65536:=by
 obtain⟨c,hc,rfl⟩:=aR.1 hu;obtain⟨g1,g2⟩:=t7 ho c hc;have hbk:=wk (P:=fun l=>BL l kb) (fun l h=>h.rev) hrk (fun s hs=>by cases hs) (q9.1 hc);have h1:=I1 hV.br hV.zb g1 g2 hbk;refine⟨⟨Gz fun l hl=>⟨(h1 l hl).mono (by omega)⟩,EB hV.br g1 g2⟩,?_⟩;unfold eu;rw[NA];have h2:=Ai (jd c V (bC V));have h3:=zG c V (bC V).length;rw[zH] at h3;have h4:=EO hrb (t.restrict_all aa.ok [] ho) c hc;have:=t.restrict_depth [];have:=hV.le;omega
def xA{cs:List ar}{c:ar}(h:cs[k]? =some c):((cs.take k).map (eu V (bC V))).map eU++[eU (eu V (bC V) c)]=((cs.take (k+1)).map (eu V (bC V))).map eU:=by
 rw[eK,h,bX,bX];rfl
def xV{al:Addr}(hE:EG GB ai al ae)(hV:mD V)(hb:t.all LB)(ho:t.all aa.ok)(hk:t.all fun l=>BL l kb)(h62:2*kb+10<=62)(hd:t.depth<=800)(hs:t.size<=60000)(hq:m8 1 (Tr.leaf false) ((de (t.restrict [])).map (eu V (bC V)))=some u):PF GB prog 78 [eU t, .sl (V.map eZ)] (.tp [eU u, .v .nilIface]):=by
 obtain⟨cs,hcs⟩: ∃cs,cs=de (t.restrict []):=⟨_,rfl⟩;rw[<-hcs] at hq;have hrs:=t.restrict_size [];have hrd:=t.restrict_depth [];have hrb:=t.restrict_all LB [] hb;have hro:=t.restrict_all aa.ok [] ho;have hrk:=t.restrict_all _ [] hk;have hcl:cs.length<=60001:=by rw[hcs];exact cS (HV _) (by omega)
 have hml:(cs.map eC).length=cs.length:=aX ..;refine fn func78 J J ntmps78 J J (fun C=>?_);refine cl (fu:=⟨0⟩) J (wi (t:=t) (by omega)) J<|cF J (by show some (decide _)=some false;rw[decide_eq_false (by omega)]) J<|cl J (Qi (t:=t) hb ho) J<|cl (fu:=⟨0⟩) J (Xt (t:=t.restrict []) hrb hro (by omega) (by omega)) J<|aj 16 (.d (.sl (cs.map eC))) J (by rw[hcs])<|gx (fu:=⟨1⟩) J<|aj 17 (.d (vI (cs.length:Nat))) J (by rw[hml]<;>rfl)<|gx J<|nr 6 6 143 1 J J J<|lp (X:=Nat) (fun k=>[(18, .d (vI (k:Nat))),(6, .rw 6)]) (fun k=>[(6,some (.b 143 1 (((cs.take k).map (eu V (bC V))).map eU) true))]) (fun k=>k<=cs.length) (fun k=>cs.length-k) 0 J (bJ _) (fun _=>J) (fun k hk=>?_);have hm3:(((cs.take k).map (eu V (bC V))).map eU).length<=k:=by rw[aX,aX,bL];omega
 refine br (fu2:=⟨0⟩) J J J (fun hc19=>?_) (fun hc19=>?_)
 .
  obtain⟨c,hx⟩: ∃u,cs[k]? =some u:=⟨_,aZ (by omega)⟩;have hcm:c∈de (t.restrict []):=by rw[<-hcs];exact aV hx
  obtain⟨g1,g2⟩:=t7 ho c hcm;have hck:=(BW hrb hro dP.nil (q9.1 hcm)).1;have hbk:=wk (P:=fun l=>BL l kb) (fun l h=>h.rev) hrk (fun s hs=>by cases hs) (q9.1 hcm);have hsh:=EO hrb hro c hcm;obtain⟨d,d1,d2,d3,d4,d5⟩:=FB hV.br g1 g2;have hdl:d.length<=c.length+4:=by have h1:=Ai (jd c V (bC V));have h2:=zG c V (bC V).length;rw[zH] at h2;rw[d5,aX] at h1;have:=hV.le;omega
  have hml2:(d.map cI).length=d.length:=aX ..;refine ix _ J (cO hx) J<|cl (fu:=⟨8⟩) J (wD (c:=c) (d:=d) (V:=V) (kb:=kb) hV hck g1 g2 hbk h62 (by omega) d1) J<|aj 26 (.d (vI (d.length:Nat))) J (by rw[hml2]<;>rfl)<|gx (fu:=⟨0⟩) J<|cF J (by show some (decide _)=some false;rw[decide_eq_false (by omega)]) J<|cl (fu:=⟨0⟩) J (yN (c:=d) (by omega)) J<|aj 31 (.d (eU (eu V (bC V) c))) J (by unfold eu;rw[d5])<|gx J<|rf J J<|ap (((cs.take (k+1)).map (eu V (bC V))).map eU) J (xA hx) (aDR [_]) J<|fm 33 6 J<|at_ (k+1) ⟨(by omega),(by omega)⟩
 .
  obtain rfl:k=cs.length:=by omega
  rw[dQ];refine pO 6 J<|gx J<|cl J (rh (b:=false)) J<|cl J (SA hE (op:=1) (a:= .leaf false) (us:=cs.map (eu V (bC V))) ⟨trivial,trivial⟩ (by decide) (fun u hu=>xE hV ho hrk hrb h62 hd (hcs▸hu)) (by rw[aX];omega) (by rw[if_neg (by decide)];exact hq)) J<|rz J J
section
variable {C:aE}{n:Nat}{Q0:Exit->Act->World->Prop}{fr fr':aC}{own own':aG}{cf cf':Cf}{vc:List Prop}{ops:Array Oper}{r:List Oper}{K:List Kt}
def wS(fr:aC)(cf:Cf):Option (TypeId×DV):=match cE fr cf with
 |some ⟨_, .load t x,_,_,_,_⟩=>match bh (b7 fr cf) x with
  |some (.ep (d::_))=>some (t,d)
  |_=>none
 |_=>none
def vA[fu:Fu]{t:TypeId}{d:DV}{D:TypeDesc}{j:TypeInfo}(h:wS fr cf=some (t,d))(hu:prog.underlying t=some D)(hD:ZO D=true)(hj:prog.info? t=some j)(hs:j.size=1)
  (hgo:cx tt n fu.n fr own cf (.d d) [] []=⟨vc,fr',own',cf'⟩)(k':aA prog GB C n Q0 fr' own' cf')
  (hv:autoParam (ak vc) cL._auto_1):aA prog GB C n Q0 fr own cf:=by
 unfold wS at h;split at h<;>try (cases h;done)
 rename_i hh;split at h<;>cases h;rename_i hx;have:jB prog t:=⟨fun w=>by(rw[Bz hu w];cases D<;>first|rfl|(cases hD;done)),fun w=>by rw[ul hj w,hs]⟩;refine us hh ?_ hgo hv k';refine .yd fun ρ G ov a w r=>?_;obtain⟨y,h1,h2⟩:=r.ev hx;obtain⟨b,o,ms,m,rfl,hb,ht,hm⟩:=h2;obtain⟨l',h3,h4⟩:=hm.get (i:=0) rfl;have:=Ha ht (i:=0) (Nat.succ_pos _);rw[gX] at this;exact⟨l',h4,qv h1 hb (by rw[this];exact h3)⟩
def xT(i:TI)(fr:aC)(cf:Cf):Option KU:=match cE fr cf with
 |some ⟨some d, .buildSlice t len parts,_,_,_,_⟩=>match dE tt t with
  |some ⟨.sl e s _,_,_,_⟩=>match nA i with
   |some z=>match vL (b7 fr cf) 0 parts.toList with
    |some ds=>bif Nat.beq z.cells.length s&&(DJ s ds&&(Nat.beq parts.toList.length len&&(Nat.ble (len*s) 1000&&Nat.blt 0 (len*s)))) then some ⟨d,e,s,ds⟩ else none
    |none=>none
   |none=>none
  |_=>none
 |_=>none
def wY[fu:Fu](i:TI){d s:Nat}{ds:List DV}(h:xT i fr cf=some ⟨d,e,s,ds⟩)(hi:et prog e=some i)(hgo:cx tt n fu.n fr own cf (.d (.sl ds)) [(d,none)] [d]=⟨vc,fr',own',cf'⟩)(k:aA prog GB C n Q0 fr' own' cf')
  (hv:autoParam (ak vc) cL._auto_1):aA prog GB C n Q0 fr own cf:=by
 unfold xT at h;split at h<;>try (cases h;done)
 rename_i hh;split at h<;>try (cases h;done)
 rename_i hT;split at h<;>try (cases h;done)
 rename_i hz;split at h<;>try (cases h;done)
 rename_i hr;rw[cond_eq_ite] at h;split at h<;>cases h;rename_i hc;simp only[bU] at hc;have:=ke (eh _ _ hT) J;exact us hh ((Kk (GB:=GB) (C:=C) (n:=n) (bk:=iH fr own cf) hi hz hc.1 hr hc.2.1 hc.2.2.1 hc.2.2.2.1 hc.2.2.2.2).frzRow J) hgo hv k
end
def wZ(f:FuncId):DV:= .v (.func (.func f) #[] #[])
def yI{fs:List FuncId}{ts:Nat->Tr}(h0:fA k0 (ts 0))(hr:sE r)(hc:kH (r.map ZP.q)=true)(hF: ∀k f,fs[k]? =some f->PF GB prog f [eU (ts k), .sl ((r.map ZP.q).map eZ)] (.tp [eU (ts (k+1)), .v .nilIface]))(hb:(ts fs.length).all LB)(hs:(ts fs.length).size<=1000000)(hn:fs.length<=1000):PF GB prog 77 [eA (ts 0),lw r, .sl (fs.map wZ)] (.tp [eA (ts fs.length), .v .nilIface]):=by
 have hml:(fs.map wZ).length=fs.length:=aX ..;refine fn func77 J J ntmps77 J J (fun C=>?_);refine cl (fu:=⟨12⟩) J (TS (t:=ts 0) h0) J<|aj 20 (.d (.v (.bool false))) J J<|rA 20 J<|gx J<|cl (fu:=⟨11⟩) J (xO hr hc) J<|cF (fu:=⟨10⟩) J J J<|aj 33 (.d (vI (fs.length:Nat))) J (by rw[hml]<;>rfl)<|gx J<|lp (X:=Nat) (fun k=>[(34, .d (vI (k:Nat))),(8, .d (eU (ts k)))]) (fun k=>[]) (fun k=>k<=fs.length) (fun k=>fs.length-k) 0 J (bJ _) (fun _=>J) (fun k hk=>?_);refine br J J J (fun hc35=>?_) (fun hc35=>?_)
 .
  obtain⟨f,hx⟩: ∃u,fs[k]? =some u:=⟨_,aZ (by omega)⟩;refine ix (fu:=⟨0⟩) _ J (cO hx) J<|vA (fu:=⟨8⟩) (d:= .v (.func (.func f) #[] #[])) J J J J J J<|cfw (fu:=⟨10⟩) J .nil .nil (hF k f hx) J<|cF J J J<|at_ (k+1) ⟨(by omega),(by omega)⟩
 .
  obtain rfl:k=fs.length:=by omega
  refine cl J (Pn (t:=ts fs.length) hb hs) J<|rz J J
def wX(t u:Tr):Nat->Tr
 |0=>t
 |_=>u
def zB(V:List ah)(t:Tr):Tr:=dB V (bC V) t
def zM(hV:mD V)(h:ip t):fA 54 (zB V t)/\(zB V t).Red []/\(zB V t).all (fun l=>BL l 26):=(Et hV h).2
def wG{al:Addr}(hE:EG GB ai al ae)(hV:mD V)(h:ip t):PF GB prog 78 [eU t, .sl (V.map eZ)] (.tp [eU (zB V t), .v .nilIface]):=
 xV hE hV h.x.lb h.x.ok h.bl (by decide) (by have:=h.dp;omega) (by have:=h.x.s;omega) (Et hV h).1
def yF{al:Addr}(hE:EG GB ai al ae)(hr:sE r)(hc:kH (r.map ZP.q)=true)(hV:mD (r.map ZP.q))(h:ip t):PF GB prog 27 [eA t,lw r] (.tp [eA (zB (r.map ZP.q) t), .v .nilIface]):=by
 have hx:=(zM hV h).1;have hst:PF GB prog 77 [eA t,lw r, .sl [.v (.func (.func 78) #[] #[])]] (.tp [eA (zB (r.map ZP.q) t), .v .nilIface]):=yI (fs:=[78]) (ts:=wX t (zB (r.map ZP.q) t)) h.x hr hc (fun k f hk=>by match k,hk with|0,hk=>cases hk;exact wG hE hV h|k+1,hk=>simp at hk) hx.lb (by have:=hx.s;show(zB (r.map ZP.q) t).size<=_;omega) (by simp);refine fn (fu:=⟨11⟩) func27 J J ntmps27 J J (fun C=>?_);refine wY ⟨.o,1,some [.d (.v .nilFunc)],false⟩ J (by kernel_rfl) J<|cl J hst J<|rz J J


def Tr.partsF:Tr->ar->List (Bool×ar)
 | .leaf b,c=>[(b,c)]
 | .node l x y,c=>(if cg c l then x.partsF (xh c l) else [])++(if cg c l.rev then y.partsF (xh c l.rev) else [])
def Tr.parts_F: ∀(t:Tr) (c:ar),t.parts c=t.partsF c
 | .leaf _,_=>rfl
 | .node l x y,c=>by rw[Tr.parts,Tr.partsF,Ey,Ey,x.parts_F,y.parts_F]
def yR(V:List ah)(E:List (ah×ah))(c:ar):tH V E [c] (.leaf false)=(eu V E c).restrict []:=by
 show(Tr.leaf false).mergeQ 1 (eu V E c) []=_;rw[Tr.mergeQ];unfold Tr.chooseQ;rw[if_pos (.inl J),if_neg (by decide)]
def wT:List ah:=(dO 0 0 1 1).map ZP.q
def sqC:List ar:=((((((sB [dO 0 0 1 1] 2).restrictF []).restrictF []).partsF []).filter (·.1)).map (·.2))
def xZ:de ((fq [dO 0 0 1 1] 2).restrict [])=sqC:=by
 unfold de fq sqC;rw[Tr.restrict_F,Tr.restrict_F,Tr.parts_F]
def zX:Tr->Tr->Bool
 | .leaf a, .leaf b=>a==b
 | .node l x y, .node m u v=>decide (l=m)&&(zX x u&&zX y v)
 |_,_=>false
def zN: ∀{t u:Tr},zX t u=true->t=u
 | .leaf a, .leaf b,h=>by rw[eq_of_beq (show(a==b)=true from h)]
 | .node l x y, .node m u v,h=>by
  simp only[zX,bU,decide_eq_true_eq] at h;rw[h.1,zN h.2.1,zN h.2.2]
 | .leaf _, .node ..,h=>by cases h
 | .node .., .leaf _,h=>by cases h
def xQ{α:Type}{f:α->Bool}{l:List α}(h:l.map f=[true]): ∃c,l=[c]/\f c=true:=by
 cases l with
 |nil=>cases h
 |cons a t=>
  rw[bY,List.cons.injEq] at h;exact⟨a,by rw[List.map_eq_nil_iff.1 h.2],h.1⟩
def xH:(sqC.map fun c=>zX ((eu wT (bC wT) c).restrictF []) ((sB [dO 0 0 2 2] 2).restrictF []))=[true]:=by decide+kernel
def xG:dB wT (bC wT) (fq [dO 0 0 1 1] 2)=fq [dO 0 0 2 2] 2:=by
 obtain⟨c,hc,hr⟩:=xQ xH;unfold dB;rw[xZ,hc,yR,Tr.restrict_F,zN hr,<-Tr.restrict_F];rfl
section
variable {a b c:Tr}(ha:a.all aa.ok)(hb:b.all aa.ok)(hc:c.all aa.ok)
include ha hb
end
def xJ(h:fA k t):PF GB prog 82 [eA t] (.tp [eT t,vB true]):=aCf h.lb h.ok (by have:=h.s;omega)
def zP(h:eg r): ∀q∈[r],eg q:=fun q hq=>by rw[aU.1 hq];exact h
def yH(h:eg r):PF GB prog 11 [js r] (lw r):=by
 have hn:=h.n6;have:=L1 (GB:=GB) (ps:=r.map ZP.q) (fun p hp=>aI.mono (yG h p hp)) (by rw[aX];omega);rw[JY] at this;exact this
def zF(h:eg r):PF GB prog 30 [js r] (eT (fq [r] 2)):=by
 refine fn func30 J J ntmps30 J J (fun C=>?_);refine rf (fu:=⟨0⟩) J J<|aj 4 (.d (.sl ([r].map js))) J J<|gx J<|cl J (Yp (rs:=[r]) (zP h) (by simp)) J<|cl J (TD (rs:=[r]) (fill:=2) (zP h) (by simp)) J<|cl J (aCv (rs:=[r]) (fill:=2) (zP h) (by simp)) J<|rz J J
def zO{a b:Int}(h1:a.natAbs<=50:=by decide)(h2:b.natAbs<=50:=by decide):PF GB prog 81 [.v (.int .i64 a), .v (.int .i64 b)] (js (dO a a b b)):=by
 refine fn func81 J J ntmps81 J J (fun C=>?_);refine cl J (iF (m:=a) (n:=a)) J<|cl J (iF (m:=b) (n:=a)) J<|cl J (iF (m:=b) (n:=b)) J<|cl J (iF (m:=a) (n:=b)) J<|rf J J<|rz J J
def yS:eg (dO 0 0 1 1):=I'
def wA:eg (dO 0 0 2 2):=I'
def sq01_br:mD ((dO 0 0 1 1).map ZP.q)/\kH ((dO 0 0 1 1).map ZP.q)=true:=NS (a:=0) (b:=0) (c:=1) (d:=1)
def sq01_sm:ip (fq [dO 0 0 1 1] 2):=by
 have h1: ∀p∈dO 0 0 1 1,p.1.natAbs<=3/\p.2.natAbs<=3:=fun p hp=>by
  simp only[dO,aK,dT,or_false] at hp;rcases hp with rfl|rfl|rfl|rfl<;>exact⟨by decide,by decide⟩
 have:=KZ yS (by decide);exact IK yS h1 (by rw[show(dO 0 0 1 1).length=4 from J];omega)
def xX:oC (zB ((dO 0 0 1 1).map ZP.q) (fq [dO 0 0 1 1] 2)) (fq [dO 0 0 2 2] 2):=by
 have h1:=(zM sq01_br.1 sq01_sm).1;have h2:=H2 (fill:=2) (zP wA) (by simp);exact⟨h1.gd,h2.gd,h1.s,(h2.x (Cc _ _) (by decide)).s⟩
def xY:rD (zB ((dO 0 0 1 1).map ZP.q) (fq [dO 0 0 1 1] 2)) (fq [dO 0 0 2 2] 2)=true:=by
 rw[show zB ((dO 0 0 1 1).map ZP.q) (fq [dO 0 0 1 1] 2)=fq [dO 0 0 2 2] 2 from xG];have h2:=(H2 (fill:=2) (zP wA) (by simp)).gd.ok;exact Ta h2 h2 (L:=(fq [dO 0 0 2 2] 2).lns) (nP h2) (fun l hl=>hl) (fun l hl=>hl) fun p _=>J
def yK{al:Addr}(hE:EG GB ai al ae):PF GB prog 29 [] (.v (.bool true)):=by
 have hx:=(zM sq01_br.1 sq01_sm).1;refine fn func29 J J ntmps29 J J (fun C=>?_);refine cl J (zO (a:=0) (b:=1)) J<|cl J (zF yS) J<|cl J (HA sq01_sm.x) J<|cl J (zO (a:=0) (b:=1)) J<|cl J (yH yS) J<|cl J (yF hE (PK yS (by decide) (by decide)) sq01_br.2 sq01_br.1 sq01_sm) J<|cl (fu:=⟨10⟩) J (xJ hx) J<|dm (fu:=⟨2⟩) J J J<|jp 22 J<|gx J<|cl J (zO (a:=0) (b:=2)) J<|cl J (zF wA) J<|cl (fu:=⟨0⟩) J (Y5 xX) J<|aj 28 (.d (.v (.bool true))) J (by rw[xY]<;>rfl)<|gx J<|rz J J
def yL{b:Nat}(hes:es.length<=400){a:Nat}(ha:a<=es.length):PM GB prog 24 (ku [none] b) b 85 [.sl (es.map vI), .v (.int .i64 (a:Nat))] (eT (jG es a).1) [.sl (es.map vI), .v (.int .i64 ((jG es a).2:Nat))]:=by
 have hk0:=gO (n:=4) ha;obtain⟨hl,hl2⟩:=QC hk0;obtain⟨hv,hv2⟩:=BO hk0;refine yg func24 J J ntmps24 J J (fun C b m lo hmb=>?_);refine cm J (fun b=>(mv (n:=4) hes ha)) J<|br J J J (fun hc5=>?_) (fun hc5=>?_)
 .
  refine cm J (fun b=>(Wf hes hk0)) J<|cl J (B4 (p:=true)) J<|cl (fu:=⟨1⟩) J (B4 (p:=false)) J<|Cd J J<|cl J (NZ (t:= .node (lF es (au es 4 a).2).1 (.leaf true) (.leaf false)) ⟨⟨hl.bl⟩,trivial,trivial⟩ ⟨hl.ok,trivial,trivial⟩ (by simp[Tr.depth])) J<|?_;exact m5 hmb J J (by rw[show jG es a=_ from if_pos hc5];rfl) (by rw[show jG es a=_ from if_pos hc5])
 .
  refine br J J J (fun hc14=>?_) (fun hc14=>?_)
  .
   refine cm J (fun b=>(Fz hes hk0)) J<|cl J (zF hv) J<|?_;exact m5 hmb J J (by rw[show jG es a=_ from(if_neg hc5).trans (if_pos hc14)];rfl) (by rw[show jG es a=_ from(if_neg hc5).trans (if_pos hc14)])
  .
   refine br J J J (fun hc19=>?_) (fun hc19=>?_)
   .
    refine cm J (fun b=>(Fz hes hk0)) J<|cl J (zF hv) J<|cl J (JM (t:=fq [(f8 es (au es 4 a).2).1] 2)) J<|?_;exact m5 hmb J J (by rw[show jG es a=_ from(if_neg hc5).trans ((if_neg hc14).trans (if_pos hc19))];rfl) (by rw[show jG es a=_ from(if_neg hc5).trans ((if_neg hc14).trans (if_pos hc19))])
   .
    refine cl J (iF (m:=0) (n:=0) (by decide) (by decide)) J<|cl J (iF (m:=3) (n:=0) (by decide) (by decide)) J<|cl J (iF (m:=3) (n:=1) (by decide) (by decide)) J<|cl J (iF (m:=1) (n:=1) (by decide) (by decide)) J<|cl J (iF (m:=1) (n:=3) (by decide) (by decide)) J<|cl J (iF (m:=0) (n:=3) (by decide) (by decide)) J<|rf (fu:=⟨0⟩) J J<|aj 31 (.d (js tG)) J J<|gx J<|cl J (zF Lu) J<|?_;exact m5 hmb J J (by rw[show jG es a=_ from(if_neg hc5).trans ((if_neg hc14).trans (if_neg hc19))];rfl) (by rw[show jG es a=_ from(if_neg hc5).trans ((if_neg hc14).trans (if_neg hc19))])
def xU{b:Nat}(hes:es.length<=400){a:Nat}(ha:a<=es.length)(hr:t=(jG es a).1)(ha':a'=(jG es a).2):PM GB prog 24 (ku [none] b) b 85 [.sl (es.map vI), .v (.int .i64 (a:Nat))] (eT t) [.sl (es.map vI), .v (.int .i64 (a':Nat))]:=by
 subst hr;subst ha';exact yL hes ha
def wP{b:Nat}(hes:es.length<=400){a:Nat}(ha:a<=es.length)(hr:r=(f8 es a).1)(ha':a'=(f8 es a).2):PM GB prog 25 (ku [none] b) b 85 [.sl (es.map vI), .v (.int .i64 (a:Nat))] (js r) [.sl (es.map vI), .v (.int .i64 (a':Nat))]:=by
 subst hr;subst ha';exact Fz hes ha
def wN{x:Tr}(hx:ip x)(hy:ip y): ∃K:List aa,K.length<=12/\(∀l∈K,l.ok)/\oI K (x.mergeQ 1 y []):=by
 obtain⟨K,_,h2,h3,h4⟩:=hx.k;obtain⟨M,_,k2,k3,k4⟩:=hy.k;exact⟨K++M,by rw[aY];omega,fun l hl=>(aM.1 hl).elim (h3 l) (k3 l),oI.merge ⟨hx.x.ok,h4.mono fun l hl=>⟨l,bV _ hl, .inl J⟩,hx.rd⟩ hy.x.ok (k4.mono fun l hl=>⟨l,bZ _ hl, .inl J⟩)⟩
def yQ{x:Tr}(hx:ip x)(hy:ip y):(x.mergeQ 1 y []).all (fun l=>BL l 8):=Tr.mergeQ_all _ 1 hy.bl x [] hx.bl
def yB{x:Tr}(hx:ip x)(hy:ip y):fA 36 (x.mergeQ 1 y []):=hx.x.merge hy.x (by decide)
structure UniX (V:List ah) (u:Tr):Prop where
 al:m8 1 (Tr.leaf false) ((de (u.restrict [])).map (eu V (bC V)))=some (dB V (bC V) u)
 gd:(dB V (bC V) u).gd
 dp:(dB V (bC V) u).depth<=340
 s:(dB V (bC V) u).size<=60000
def yP(hV:mD V){x:Tr}(hx:ip x)(hy:ip y):UniX V (x.mergeQ 1 y []):=by
 obtain⟨K,h1,h3,hr⟩:=wN hx hy;obtain⟨g1,g2⟩:=hr.size h3;have hbl:=yQ hx hy;have hlb:=(yB hx hy).lb;generalize x.mergeQ 1 y []=u at*;have hE:(bC V).length<=4:=by unfold bC;rw[aX,lT];exact hV.le
 have hs0:K.length*(K.length+1)<=12*13:=fJ h1 (by omega);have hcl:(de (u.restrict [])).length<=79:=by
  have:=HV (u.restrict []);have:=u.restrict_size [];omega
 have hKl:(oe V (bC V) K (de (u.restrict []))).length<=340:=by
  have:=NB (V:=V) (E:=bC V) (K:=K) (cs:=de (u.restrict []));have:(de (u.restrict [])).length*(bC V).length<=79*4:=fJ hcl hE;omega
 have hs: ∀c∈de (u.restrict []),c.length+(bC V).length<=600:=fun c hc=>by
  have:=EO (u.restrict_all LB [] hlb) (u.restrict_all aa.ok [] hr.ok) c hc;have:=u.restrict_depth [];omega
 obtain⟨a1,a2⟩:=N5 hV.br hr.ok h3 hr.am hs;have hb:=K5 hV.br hV.zb hr.ok hbl;obtain⟨b1,b2⟩:=a2.size (Dr hV.br h3);have b3:(oe V (bC V) K (de (u.restrict []))).length*((oe V (bC V) K (de (u.restrict []))).length+1)<=340*341:=fJ hKl (by omega);exact⟨a1,⟨Tr.all_imp (fun l h=>⟨h.mono (by decide)⟩) hb,a2.ok⟩,by omega,by omega⟩
def zW{E:List (ah×ah)}(hB:gD V E)(ht:t.all aa.ok): ∀l∈kC V E t,l.ok:=fun l hl=>by
 obtain⟨c,hc,hlc⟩:=iX.1 hl;obtain⟨g,a⟩:=t7 ht c hc;exact nP (EB hB g a) l hlc
def xW(hV:mD V){x:Tr}(hx:ip x)(hy:ip y):hH 4 (dB V (bC V) (x.mergeQ 1 y [])) ((dB V (bC V) x).mergeQ 1 (dB V (bC V) y) [])=some (.leaf false):=by
 have hu:=yP hV hx hy;have hut:=yB hx hy;have ho:(x.mergeQ 1 y []).all aa.ok:=hut.ok;obtain⟨a1,a2,_⟩:=BU hV.br hx.x.ok;obtain⟨b1,b2,_⟩:=BU hV.br hy.x.ok;obtain⟨c1,c2,_⟩:=BU hV.br ho;have k1:=fun p=>aBk hV.br (p:=p) hx.x.ok hy.x.ok;have d1:=(Et hV hx).2.1.dp;have d2:=(Et hV hy).2.1.dp;have d3:=hu.dp;have e1:=zW hV.br hx.x.ok;have e2:=zW hV.br hy.x.ok;have e3:=zW hV.br ho;clear hu hut ho;generalize x.mergeQ 1 y []=u at*;have hv: ∀l∈((dB V (bC V) x).mergeQ 1 (dB V (bC V) y) []).lns,l∈kC V (bC V) x++(kC V (bC V) y++kC V (bC V) u):=
  j'.1 (Tr.mergeQ_all (fun l=>l∈kC V (bC V) x++(kC V (bC V) y++kC V (bC V) u)) 1 (j'.2 fun l hl=>bZ _ (bV _ (b2 l hl))) _ [] (j'.2 fun l hl=>bV _ (a2 l hl)))
 have hg:rB (kC V (bC V) x++(kC V (bC V) y++kC V (bC V) u)) (dB V (bC V) u) ((dB V (bC V) x).mergeQ 1 (dB V (bC V) y) []):=
  ⟨c1,Tr.mergeQ_all aa.ok 1 b1 _ [] a1,fun l hl=>(aM.1 hl).elim (e1 l) fun hl=>(aM.1 hl).elim (e2 l) (e3 l),fun l hl=>bZ _ (bZ _ (c2 l hl)),hv⟩
 have hm:(dB V (bC V) u).mergeQ 4 ((dB V (bC V) x).mergeQ 1 (dB V (bC V) y) []) []= .leaf false:=hg.leaf.2 fun p hp=>by
  obtain⟨o1,o2⟩:=b9.app.1 hp;obtain⟨o2,o3⟩:=b9.app.1 o2;rw[Tr.val_merge 1 _ b1 (dB V (bC V) x) [] p a1 bu.nil (fun s hs=>absurd hs (by simp)) (fun l hl=>o1 l (a2 l hl)) (fun l hl=>o2 l (b2 l hl))];have key:=k1 p o1 o2 o3
  cases ha:(dB V (bC V) u).val p<;>cases hb:(dB V (bC V) x).val p<;>cases hc:(dB V (bC V) y).val p<;>simp[ha,hb,hc] at key<;>rfl
 have h4:=IG (op:=4) (a:=dB V (bC V) u) (b:=(dB V (bC V) x).mergeQ 1 (dB V (bC V) y) []) (by have:=Tr.mergeQ_depth 1 (dB V (bC V) y) (dB V (bC V) x) [];omega) (by rw[hm];exact bJ _);rw[h4,hm]
def zU{al:Addr}(hE:EG GB ai al ae)(ho:1<=op/\op<=4){a b:Tr}(ha:a.gd)(hb:b.gd)(hsa:a.size<=65536)(hsb:b.size<=65536)(h:hH op a b=some t):PF GB prog 26 [vI op,eA a,eA b] (.tp [eA t, .v .nilIface]):=by
 have gt:=Ja ha hb h;refine fn func26 J J ntmps26 J J (fun C=>?_);refine cl (fu:=⟨3⟩) J (Aw ha.lb ha.ok hsa) J<|jp 18 J<|gx J<|cl (fu:=⟨3⟩) J (Aw hb.lb hb.ok hsb) J<|jp 23 J<|gx J<|cl (fu:=⟨0⟩) J (Sj ho) J<|jp 32 J<|gx J<|cl J (Qj hE ha hb hsa hsb h) J<|cl J (Pn (t:=t) gt.1.lb (by omega)) J<|rz J J
def wQ{a b:Tr}(ha:a.gd)(hb:b.gd)(hsa:a.size<=65536)(hsb:b.size<=65536):PF GB prog 79 [eA a,eA b] (.tp [Jb a b, .v .nilIface]):=by
 refine fn func79 J J ntmps79 J J (fun C=>?_);refine cl (fu:=⟨3⟩) J (Aw ha.lb ha.ok hsa) J<|jp 14 J<|gx J<|cl (fu:=⟨3⟩) J (Aw hb.lb hb.ok hsb) J<|jp 19 J<|gx J<|rz J J
def xM{al:Addr}(hE:EG GB ai al ae){a b:Tr}(ha:a.gd)(hb:b.gd)(hsa:a.size<=65536)(hsb:b.size<=65536)(h:hH op a b=some (.leaf false)):PF GB prog 150 [Jb a b,vI op] (.tp [vB true, .v .nilIface]):=by
 refine fn func150 J J ntmps150 J J (fun C=>?_);refine cl J (Qj hE ha hb hsa hsb h) J<|cl (fu:=⟨0⟩) J oq J<|jp 21 J<|gx J<|rz J J
def yM{al:Addr}(hE:EG GB ai al ae){a b:Tr}(ha:a.gd)(hb:b.gd)(hsa:a.size<=65536)(hsb:b.size<=65536)(h:hH 4 a b=some (.leaf false)):PF GB prog 80 [Jb a b] (.tp [vB true, .v .nilIface]):=by
 refine fn func80 J J ntmps80 J J (fun C=>?_);refine cl J (xM hE (op:=4) ha hb hsa hsb h) J<|rz J J
def wC{al:Addr}(hE:EG GB ai al ae){a b:Tr}(ha:a.gd)(hb:b.gd)(hsa:a.size<=65536)(hsb:b.size<=65536)(h:hH 4 a b=some (.leaf false)):PF GB prog 28 [eA a,eA b] (.tp [vB true, .v .nilIface]):=by
 refine fn func28 J J ntmps28 J J (fun C=>?_);refine cl J (wQ ha hb hsa hsb) J<|cl J (yM hE ha hb hsa hsb h) J<|rz J J
def wB{al:Addr}(hE:EG GB ai al ae)(hr:sE r)(hc:kH (r.map ZP.q)=true)(hV:mD (r.map ZP.q)){x:Tr}(hx:ip x)(hy:ip y):PF GB prog 27 [eA (x.mergeQ 1 y []),lw r] (.tp [eA (zB (r.map ZP.q) (x.mergeQ 1 y [])), .v .nilIface]):=by
 have hu:=yP hV hx hy;have ht:=yB hx hy;have hb:=yQ hx hy;generalize x.mergeQ 1 y []=u at*;have hD:PF GB prog 78 [eU u, .sl ((r.map ZP.q).map eZ)] (.tp [eU (zB (r.map ZP.q) u), .v .nilIface]):=xV hE hV ht.lb ht.ok hb (by decide) (by have:=ht.dp;omega) (by have:=ht.s;omega) hu.al;have hst:PF GB prog 77 [eA u,lw r, .sl [.v (.func (.func 78) #[] #[])]] (.tp [eA (zB (r.map ZP.q) u), .v .nilIface]):=yI (fs:=[78]) (ts:=wX u (zB (r.map ZP.q) u)) ht hr hc (fun k f hk=>by match k,hk with|0,hk=>cases hk;exact hD|k+1,hk=>simp at hk) hu.gd.lb (by have:=hu.s;show(zB (r.map ZP.q) u).size<=_;unfold zB;omega) (by simp);refine fn (fu:=⟨11⟩) func27 J J ntmps27 J J (fun C=>?_);refine wY ⟨.o,1,some [.d (.v .nilFunc)],false⟩ J (by kernel_rfl) J<|cl J hst J<|rz J J
def zT{al:Addr}(hE:EG GB ai al ae)(hb:es0.length<=1125899906842624):PF GB prog 4 [.sl (es0.map vI)] (.v (.bool true)):=by
 obtain⟨es,hee⟩: ∃es,es=es0.take 400:=⟨_,rfl⟩;have hes:es.length<=400:=by rw[hee];simp;omega
 obtain⟨A,hA⟩: ∃A,A=(jG es 0).1:=⟨_,rfl⟩;obtain⟨a1,ha1⟩: ∃a,a=(jG es 0).2:=⟨_,rfl⟩;obtain⟨hs,hl1⟩:=LY (bJ es.length);rw[<-hA] at hs;rw[<-ha1] at hl1;obtain⟨B,hB⟩: ∃A,A=(jG es a1).1:=⟨_,rfl⟩;obtain⟨a2,ha2⟩: ∃a,a=(jG es a1).2:=⟨_,rfl⟩;obtain⟨hs2,hl2⟩:=LY hl1;rw[<-hB] at hs2;rw[<-ha2] at hl2;obtain⟨r,hr⟩: ∃r,r=(f8 es a2).1:=⟨_,rfl⟩;obtain⟨a3,ha3⟩: ∃a,a=(f8 es a2).2:=⟨_,rfl⟩;have hrg:sE r:=by rw[hr];exact YJ hl2
 obtain⟨hV,hcv⟩:=Vf hl2;rw[<-hr] at hV hcv;have x1:=(zM hV hs).1;have x2:=(zM hV hs2).1;have hux:=yP hV hs hs2;have hm1:hH 1 A B=some (A.mergeQ 1 B []):=hs.x.lim hs2.x (by decide);have hm2:hH 1 (zB (r.map ZP.q) A) (zB (r.map ZP.q) B)=some ((zB (r.map ZP.q) A).mergeQ 1 (zB (r.map ZP.q) B) []):=x1.lim x2 (by decide);have gv:=Ja x1.gd x2.gd hm2;have s1:=hs.x.s;have s2:=hs2.x.s;have s3:=x1.s;have s4:=x2.s;have s5:(zB (r.map ZP.q) (A.mergeQ 1 B [])).size<=60000:=hux.s;refine fn func4 J J ntmps4 J J (fun C=>?_);refine cn J ((aDF hb hee)) (fun _=>J) (fun _=>?_);refine cm J (fun b=>(xU hes (bJ _) hA ha1)) J<|cl J (HA hs.x) J<|cm J (fun b=>(xU hes hl1 hB ha2)) J<|cl J (HA hs2.x) J<|cm J (fun b=>(wP hes hl2 hr ha3)) J<|cl J (yH hrg.ok) J<|cl J (zU hE (by decide) hs.x.gd hs2.x.gd (by omega) (by omega) hm1) J<|cl J (wB hE hrg hcv hV hs hs2) J<|cl J (yF hE hrg hcv hV hs) J<|cl J (yF hE hrg hcv hV hs2) J<|cl J (zU hE (by decide) x1.gd x2.gd (by omega) (by omega) hm2) J<|cl (fu:=⟨9⟩) J (wC hE hux.gd gv.1 (by omega) gv.2 (xW hV hs hs2)) J<|X9 (fu:=⟨2⟩) J (yK hE) J<|dm (fu:=⟨3⟩) J J J<|dm (fu:=⟨3⟩) J J J<|dm (fu:=⟨3⟩) J J J<|dm (fu:=⟨3⟩) J J J<|dm (fu:=⟨3⟩) J J J<|dm J J J<|rz J J
end Go.Sx
end
section
namespace Go.Sx
open Go Go.Proofs Go.ChangeShapes Go.WideShapes Go.ChangeAt Go.RowKit
variable {w w' W:World}{off base g:Nat}{v:Value}{H:Type}{P:Program}
def GW(w:World):Gh:=fun b=>match w.heap[b]? with|some (.cells cs _ _)=>some cs.toList|_=>none
def GW.sub{b:Nat}{cs:List Value}(h:GW w b=some cs): ∃ty fz,w.heap[b]? =some (.cells ⟨cs⟩ ty fz):=by
 unfold GW at h;split at h
 .rename_i c t f e
  cases h
  exact⟨t,f,by rw[e]⟩
 .cases h
def GW.of_cell{b:Nat}(h:w.cell? ⟨b,off,none⟩=some v): ∃cs,GW w b=some cs/\cs[off]? =some v:=by
 unfold World.cell? at h;unfold GW;split at h
 .rename_i c t f e
  simp only at e;refine⟨c.toList,by rw[e],?_⟩;simpa using h
 all_goals first|(rename_i e;cases h)|cases h
def bE.below{G G':Gh}{own:List av}(h:bE ⟨w,G,[],[],[],none,fun _=>none⟩ own G' w'):Below w.heap.size w w':=
 ⟨h.os,h.tape,h.output,h.size,fun k hk=>h.keep k hk (by simp)⟩
def isLs_vI{G:Gh}: ∀es:List Int,IsLs G (es.map vI) (es.map fun n=>Value.int .i64 n)
 |[]=> .nil
 |n::t=> .cons (aH.2 J) (isLs_vI t)
def open_vI{enc:TypeId×Value->H}{t e:TypeId}{d:DataW H}{ps:List MemPlace}(ht:P.underlying t=some (.slice e))(he:P.underlying e=some (.int .i64))(hc:P.cellsOf e=1)
  (hv:Value.okWide P w .any base t v)(h:DataW.Trod enc P w 0 (fun _=>true) true t v d ps):
  ∃es:List Int,Is (GW w) (.sl (es.map vI)) v/\(d= .nil/\es=[]\/ ∃sp,d= .slice (lits .i64 es) sp)/\(∀n∈es,(Lit.int .i64 n).wf=true):=by
 obtain⟨a0,len,cap,rfl⟩:=okWide_slice ht hv;obtain⟨fuel,hf⟩:=h;rcases open_ints ht he hc hf with⟨hcs,hx⟩|⟨a,len',cap',zs,hcs,_,hl,hm,hz,hx,hcell,hwz⟩
 .simp[Value.cells] at hcs
  obtain⟨rfl,rfl,rfl⟩:=hcs;simp only[Prod.mk.injEq] at hx;exact⟨[],gp.2 ⟨0,⟨none,0,0⟩,[],J,f7.nil _ 0, .nil⟩, .inl ⟨hx.1,J⟩,by simp⟩
 .simp[Value.cells] at hcs
  obtain⟨rfl,rfl,rfl⟩:=hcs;simp only[Prod.mk.injEq] at hx;simp only[if_true] at hz;refine⟨zs.take len,gp.2 ⟨1,⟨some a,len,cap⟩,(zs.take len).map fun n=>Value.int .i64 n,J,⟨by simp;omega,hl,?_⟩,isLs_vI _⟩, .inr ⟨_,hx.1⟩,fun n hn=>hwz n (eM hn)⟩;by_cases h0:len=0
  .exact .inl (by simp[h0])
  .right
   obtain⟨b,off,spot⟩:=a;have hspot:spot=none:=by simpa[Addr.add] using World.cell?_spot (hcell 0 (by omega))
   subst hspot;have c0: ∀i,i<zs.length->w.cell? ⟨b,off+i,none⟩=some (.int .i64 (zs.getD i 0)):=fun i hi=>by
    have:=hcell i hi;rwa [Go.WideShapes.add_plain] at this
   obtain⟨cs,hcs,_⟩:=GW.of_cell (by have h9:=c0 0 (by omega);rw[gX] at h9;exact h9);refine⟨b,off,cs,J,hcs,fun i hi=>?_⟩;simp only[aX,bL] at hi;obtain⟨cs',hcs',hi'⟩:=GW.of_cell (c0 i (by omega));rw[hcs] at hcs'
   cases hcs'
   rw[iN,Sq.2 hi'];simp[aF,List.getD,aZ (show i<zs.length by omega)]
inductive CSh where
 |b
 |i (k:IntKind)
 |sl (ag:Bool) (l:List CSh)
mutual
def Fit:CSh->DV->Prop
 | .b,d=> ∃b,d= .v (.bool b)
 | .i k,d=> ∃n,d= .v (.int k n)/\(Lit.int k n).wf=true
 | .sl ag l,d=> ∃m:List DV,d= .sl m/\m.length<=maxLen/\ ∀x∈m,∃ys,FitL l ys/\((ag=true/\x= .ag ys)\/(ag=false/\ys=[x]))
def FitL:List CSh->List DV->Prop
 |[],ds=>ds=[]
 |s::l,ds=> ∃d t,ds=d::t/\Fit s d/\FitL l t
end
section
variable {enc:TypeId×Value->H}
end
def es_star: "*" ++ "errors.errorString" = "*errors.errorString" :=by decide
def es_row(u:TypeId)(h:Tryz.prog.typeName? 3 u=some "*errors.errorString"):u=441:=
 typeName_ptr_named (nm:= "errors.errorString") (by rw[es_star];kernel_rfl) (by kernel_rfl) (by decide) u (by rw[es_star];exact h)
def sent_of{n:String}{text:List UInt8}{r:List (String×DataW Unit)}(h:laidMet Tryz.prog ((n, .iface "*errors.errorString" (.ptr (.agg [.lit (.string text)])))::r) W)(hg:Tryz.prog.globalNamed n=some g)(ht:(Tryz.prog.globals[g]?).map (·.type)=some 41):
  ∃a,GW W g=some [.iface 441 (.pointer (some a))]:=by
 obtain⟨a,s,hv,_⟩:=laid_sentinel h hg ht Tryz.underlying41 es_row Tryz.underlying441 Tryz.underlying466 rfl rfl Tryz.underlying9 (by kernel_rfl) (by kernel_rfl);refine⟨a,?_⟩;unfold World.var? at hv;rw[hg,Option.bind_some] at hv;unfold GW;split at hv
 .rename_i c t f e
  rw[e];cases hv;rfl
 .cases hv
def laid_plain{l:List (String×DataW Unit)}(h:laidMetH Tryz.prog l W)(hp:(l.all fun x=>x.2.handleName?.isNone)=true):laidMet Tryz.prog l W:=by rwa [Go.MakeChecks.laidMetH_plain _ _ _ hp] at h
end Go.Sx
end
section
namespace Go.Proofs.YtmdgdhokaffbkaaGreatDoor
open Go.ChangeShapes Go.WideShapes Go.ChangeAt Go.RowKit Go.Sx
theorem js1:mapsRowed Tryz.pinned.checked.prog=true:=by kernel_rfl
theorem js2:Tryz.pinned.checked.prog.stopsHeard=true:=by kernel_rfl
theorem js3:Tryz.pinned.checked.prog.mayEnter=true:=by kernel_rfl
theorem js4:laidOutB Tryz.prog=true:=by kernel_rfl
end Go.Proofs.YtmdgdhokaffbkaaGreatDoor
end
section
namespace Go.Proofs.YtmdgdhokaffbkaaGreatDoor.morphUnites
open Go.ChangeShapes Go.WideShapes Go.ChangeAt Go.RowKit Go.Sx
theorem own:ownKnob Tryz.prog.godebug=none:=by kernel_rfl
theorem laidOut:laidOutB Tryz.prog=true:=js4
theorem cellsI:Tryz.prog.cellsOf 3=1:=by kernel_rfl
theorem bytesI:Tryz.prog.bytesOf 3=8:=by kernel_rfl
theorem door_met(os:Os)(args:Array Value):laidMetH Tryz.prog Rows.morphUnitesRow.laid ((World.doorLaid Tryz.prog 100 os).forCall (fun _ _=>0) ⟨#[],args,[]⟩).memory:=
 laidMetH_of_parts3 (fuel:=8) (laidMet_of_run' 8 (by kernel_rfl) (by kernel_rfl)) (by kernel_rfl) (by kernel_rfl)
theorem eg_of{W:World}(h:laidMetH Tryz.prog Rows.morphUnitesRow.laid W): ∃ai al ae,EG (GW W) ai al ae:=by
 have h1:=laid_plain h J;obtain⟨ai,hi⟩:=sent_of (g:=1) h1.tail.tail.tail (by kernel_rfl) (by kernel_rfl);obtain⟨al,hl⟩:=sent_of (g:=2) h1.tail.tail.tail.tail.tail (by kernel_rfl) (by kernel_rfl);exact⟨ai,al,al,hi,hl⟩
theorem contract(H:Type)(enc:TypeId×Value->H)(W:World)(base:Nat)(args:Array Value)(ds gs:List (DataW H))(before:List MemPlace)
  (hval: ∀(j:Nat) t v,Tryz.f4.params[j]? =some t->args[j]? =some v->Value.okWide Tryz.prog W .any base t v)
  (hW:DataW.Whole enc Tryz.prog Tryz.f4.params.toList Rows.morphUnitesSpec.vars false W args.toList ds gs before)
  (hz:(DataW.weightsEach Tryz.prog (Tryz.f4.params.toList++(OpenSpec.ofChange Rows.morphUnitesSpec).bare.plain.varTypes Tryz.prog) (ds++gs)).all (· <=reachBytes)=true)(hlaid:laidMetH Tryz.prog Rows.morphUnitesRow.laid W):
  Calls Tryz.prog 4 args W fun e W'=> ∃v,e= .returned v/\Rows.morphUnitesSpec.post enc Tryz.prog Tryz.f4 false true false false W args v W':=by
 have hW':=hW;obtain⟨p,q,hA0,hV,rfl,_,_⟩:=hW;have hA:DataW.TrodAll enc Tryz.prog W 0 (fun _=>true) true Tryz.f4.params.toList args.toList ds p:=hA0;rw[Tryz.params4] at hA hval hz;obtain⟨v0,d0,hargs,rfl,h0⟩:=trodAll_one hA;obtain rfl:args= #[v0]:=by cases args;simp_all
 obtain⟨rfl,rfl⟩:=trodVars_none hV;clear hA0;simp only[List.append_nil] at hW';have hlt: ∀x∈p,x.block<W.heap.size:=fun x hx=>by simpa using hW'.lt x hx
 obtain⟨es,hI,hd,_⟩:=open_vI Tryz.underlying22 Tryz.underlying3 cellsI (hval 0 22 v0 rfl rfl) h0;have hb:es.length<=1125899906842624:=by
  rcases hd with⟨rfl,rfl⟩|⟨sp,rfl⟩
  .exact Nat.zero_le _
  .have:=sized_slice hz (j:=0) (t:=22) (e:=3) J J Tryz.underlying22
   rw[bytesI] at this;have hr:=reachBytes_lt;have hl:(lits (H:=H) .i64 es).length=es.length:=by simp[lits]
   rw[hl] at this;omega
 obtain⟨ai,al,ae,hE⟩:=eg_of hlaid;have hf:=(zT hE (es0:=es) hb) (GW W) [v0] (bH.refl _) (.cons hI .nil);refine(hf.run W (fun b cs hg=>GW.sub hg)).mono fun e W' ⟨v,G',he,hr,hv⟩=>?_;rw[aH] at hv;subst hv;subst he;have hn:=hr.below;have t2:=trodAll_mk1 (Below.trod laidOut (by kernel_rfl) (of_decide_eq_true (by kernel_rfl)) h0 hn hlt);exact⟨_,J,⟨_,_,_,[],_,[],hW',trodAll_mk1 (shut_bool Tryz.underlying4 _),t2,J,hn.frame _,fun h=>by cases h⟩⟩
theorem reads(os:Os){H:Type}(enc:TypeId×Value->H): ∃places,DataW.whole enc Tryz.prog ((World.doorLaid Tryz.prog 100 os).forCall (fun _ _=>0) ⟨#[], #[.slice none 0 0],[]⟩).memory Tryz.f4.params.toList Rows.morphUnitesSpec.vars false #[Value.slice none 0 0].toList 8=some ([.nil],[],places):=
 ⟨[],by kernel_rfl⟩
theorem lifted(os:Os)(started:os.Started)(H:Type)(enc:TypeId×Value->H)(F:Stop.Interp):
  ReturnsInHanded {} Tryz.checked os 4 .any ((OpenSpec.ofChange Rows.morphUnitesSpec).preRow enc Tryz.prog Tryz.f4 Rows.morphUnitesRow.domain false Rows.morphUnitesRow.laid) (((OpenSpec.ofChange Rows.morphUnitesSpec).at F).post enc Tryz.prog Tryz.f4 false true false false):=by
 obtain⟨places,hx⟩:=reads os enc;refine returnsInHanded_of_row (C:=Tryz.checked) (s:=OpenSpec.ofChange Rows.morphUnitesSpec) own started (by kernel_rfl) Tryz.func4
  (witness_row_atRef (enc:=enc) (C:=Tryz.checked) false (World.doorLaid Tryz.prog 100 os) #[.slice none 0 0] rfl (by kernel_rfl) (by kernel_rfl) (by kernel_rfl)
   (OpenSpec.preRow_of_cond 8 hx (by kernel_rfl) (fun k hk=>by cases hk) (by kernel_rfl) (door_met os _))) ?_
 intro W base args ds gs before hval hW _ _ hz hlaid _ _;exact contract H enc W base args ds gs before hval hW hz hlaid
theorem j1:(Rows.morphUnitesRow.inPlace==Tryz.pinned.checked.prog.inPlace 4)=true:=by kernel_rfl
theorem j2:(Rows.morphUnitesRow.unfollowed==Tryz.pinned.checked.prog.unfollowed 4)=true:=by kernel_rfl
theorem j3:(Rows.morphUnitesRow.recurses==Tryz.pinned.checked.prog.recurses 4)=true:=by kernel_rfl
theorem j4:(Rows.morphUnitesRow.named==Tryz.pinned.checked.prog.varsNamed 4)=true:=by kernel_rfl
theorem j5:laidOutB Tryz.pinned.checked.prog=true:=laidOut
theorem j6:mapsRowed Tryz.pinned.checked.prog=true:=js1
theorem j7:Tryz.pinned.checked.prog.mainIs=some (Rows.morphUnitesCard.stood.harness.1,Rows.morphUnitesCard.stood.harness.2.toList):=by kernel_rfl
theorem j8:false=Rows.morphUnitesRow.goesBy Tryz.pinned.checked.prog:=by kernel_rfl
theorem j9:(Rows.morphUnitesRow.plainKeys==Tryz.pinned.checked.prog.plainKeys)=true:=by kernel_rfl
theorem j10:(Rows.morphUnitesRow.lifted==Tryz.pinned.checked.prog.liftsFinal)=true:=by kernel_rfl
theorem j11:(Tryz.pinned.checked.prog.make==some Rows.morphUnitesRow.make)=true:=by kernel_rfl
theorem closed:joinedFacts Tryz.pinned.checked.prog 4 Tryz.f4 (OpenSpec.ofChange Rows.morphUnitesSpec).bare Rows.morphUnitesRow=true:=by
 unfold joinedFacts;rw[j1,j2,j3,j4,j5,j6,j9,j10,j11,js2,js3]
 kernel_rfl
theorem said:Rows.MorphUnitesSaid:=
 OpenClaim.holds_of_cond 4 Tryz.f4 J J J J J J J ⟨J,J,J,J,J⟩ J J J J J (by kernel_rfl) Tryz.func4 closed
  (of_decide_eq_true (by kernel_rfl)) (by unfold Func.isWrapper;first|(rw[if_pos (by decide+kernel)];kernel_rfl)|(rw[if_neg (by decide+kernel)];exact⟨J,J⟩))
  (fun os started H enc _ F=>by rw[OpenClaim.pre_eq_preRow];exact lifted os started H enc F)
theorem plain(f:FuncId)(fn:Func)(hf:Tryz.pinned.checked.prog.funcNamed "bspregion/bspregionlaw29.MorphUnites" =some f)(hfn:Tryz.pinned.checked.prog.funcs[f]? =some fn):
  true=Tryz.pinned.checked.prog.looks []/\ ∀(j:Nat) t,fn.params[j]? =some t->Tryz.pinned.checked.prog.wantsStandIn t=false:=by
 obtain rfl:f=4:=Option.some.inj ((show Tryz.prog.funcNamed "bspregion/bspregionlaw29.MorphUnites" =some 4 by kernel_rfl).symm.trans hf) |>.symm;obtain rfl:fn=Tryz.f4:=(Option.some.inj (Tryz.func4.symm.trans hfn)).symm;refine⟨by kernel_rfl,fun j t ht=>?_⟩;rw[Tryz.params4] at ht;have hm:=Array.mem_of_getElem? ht;simp only[List.mem_toArray,List.mem_cons,List.not_mem_nil,or_false] at hm;subst hm;exact(show Tryz.prog.wantsStandIn 22=false by kernel_rfl)
theorem card:Rows.MorphUnitesCardSaid:=
 Claim7.holds_tied_plain_at .later [] _ _ _ _ said (fun _ h=>by cases h) (by kernel_rfl) (fun _ h=>by cases h) morphUnites_row_tie J ⟨J,J⟩ j7 J plain j8
#print axioms card
end Go.Proofs.YtmdgdhokaffbkaaGreatDoor.morphUnites
end
