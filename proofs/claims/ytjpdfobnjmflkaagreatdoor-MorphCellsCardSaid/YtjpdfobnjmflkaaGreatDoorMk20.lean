import Derived.Test.YtjpdfobnjmflkaaGreatDoorMk19
import Derived.Shelf.SlSortCmp.NoneTotal
import Derived.Test.YtjpdfobnjmflkaaGreatDoorProg
import Derived.Shelf.SlicesQ.Reverse
set_option linter.all false
set_option maxHeartbeats 2000000
set_option maxRecDepth 100000
section
namespace Go.Sx
open Go Go.Proofs Tryz
variable {a i k:Nat}{q p:ah}{l v:List ah}{r:List ZP}
variable {GB:Gh}
def VT[h:BN a i](hi:i<=1000000000:=by decide):PF GB prog 246 [dN a] (.v (.bool true)):=
 (Kg (ds:=dg a) (fI _).2.1 (by have:=i5 (a:=a) hi;omega)).to (by unfold vB;rw[decide_eq_true (fI a).2.2])
def Oj{q:Rat}[hq:BQ q i](hi:i<=1000000:=by decide):PF GB prog 252 [eR q] (.v (.bool true)):=by
 have hd:=q.den_pos;have hdl:0<(dg q.den).length:=iV fun e=>by have:=vq.1 e;omega
 have hml:((dg q.den).map dU).length=(dg q.den).length:=aX ..;have hco:Nat.gcd q.num.natAbs q.den=1:=q.reduced;refine fn func252 J J ntmps252 J J (fun C=>?_);refine cl (fu:=⟨0⟩) J (EH (m:=q.num) (i:=i) (h:=⟨hq.hn⟩) (by omega)) J<|jO 5 J<|gx J<|cl (fu:=⟨0⟩) J (VT (a:=q.den) (i:=i) (h:=⟨hq.hd⟩) (by omega)) J<|jO 10 J<|gx (fu:=⟨6⟩) J<|cC J (by show some (decide _)=some false;rw[decide_eq_false (by omega)]) J<|cl (fu:=⟨0⟩) J (Hv (a:=q.num.natAbs) (b:=q.den) (i:=i) (j:=i) (h:=⟨hq.hn⟩) (k:=⟨hq.hd⟩) (by omega) (by omega)) J<|aj 24 (.d (dN 1)) J (by rw[hco])<|gx J<|cl J (vd (a:=1) (i:=1) (h:=⟨by decide⟩)) J<|rz J J
def VC[hp:aD p i](hi:i<=1000000:=by decide):PF GB prog 186 [nO p] (.v (.bool true)):=by
 refine fn func186 J J ntmps186 J J (fun C=>?_);refine cl (fu:=⟨0⟩) J (Oj (q:=p.x) (i:=i) (by omega)) J<|jO 5 J<|gx J<|cl J (Oj (q:=p.y) (i:=i) (by omega)) J<|rz J J
def tv(l:List ah)(p:ah):Int:=match l.findIdx? (fun q=>decide (q.x=p.x/\q.y=p.y)) with
 |some i=>(i:Nat)
 |none=> -1
def Eb(hx:l[k]? =some q)(h:(l.take k).all (fun q=>!decide (q.x=p.x/\q.y=p.y))=true)(hq:q.x=p.x/\q.y=p.y):tv l p=(k:Nat):=by
 have hk:=(aR.1 hx).1;have e:l.findIdx? (fun q=>decide (q.x=p.x/\q.y=p.y))=some k:=by
  rw[List.findIdx?_eq_some_iff_getElem];refine⟨hk,?_,fun j hj=>?_⟩
  .rw[(aR.1 hx).2];exact decide_eq_true hq
  .have:=dJ.1 h l[j] (by rw[List.mem_take_iff_getElem];exact⟨j,by omega,J⟩)
   simp at this⊢;intro a b;rcases this with k|k
   .exact k a
   .exact k b
 unfold tv;rw[e]
def W1(h:l.all (fun q=>!decide (q.x=p.x/\q.y=p.y))=true):tv l p= -1:=by
 have e:l.findIdx? (fun q=>decide (q.x=p.x/\q.y=p.y))=none:=by
  rw[List.findIdx?_eq_none_iff];intro x hx;have:=dJ.1 h x hx;simp at this⊢;intro a b;rcases this with k|k
  .exact k a
  .exact k b
 unfold tv;rw[e]
def axY{g:ah->Bool}(hx:l[k]? =some q)(h:(l.take k).all g=true)(hq:g q=true):(l.take (k+1)).all g=true:=by
 rw[dZ,hx,List.all_append,h];simp[hq]
def aC4[hp:aD p i](hl: ∀q∈l,aD q i)(hn:l.length<=100000)(hi:i<=1000000:=by decide):PF GB prog 188 [.sl (l.map eZ),eZ p] (vI (tv l p)):=by
 have hml:(l.map eZ).length=l.length:=aX ..;refine fn (fu:=⟨11⟩) func188 J J ntmps188 J J (fun C=>?_);refine aj 8 (.d (vI (l.length:Nat))) J (by rw[hml]<;>rfl)<|gx J<|lp (X:=Nat) (fun k=>[(9, .d (vI (k:Nat)))]) (fun k=>[]) (fun k=>k<=l.length/\(l.take k).all (fun q=>!decide (q.x=p.x/\q.y=p.y))=true) (fun k=>l.length-k) 0 J ⟨aM _,J⟩ (fun _=>J) (fun k hk=>?_);obtain⟨hk,hall⟩:=hk;refine br J J J (fun hc10=>?_) (fun hc10=>?_)
 .
  obtain⟨q,hx⟩: ∃u,l[k]? =some u:=⟨_,aZ (by omega)⟩;haveI:=hl q (aK hx);refine ix _ J (cg hx) J<|cl J (Ss (p:=q) (q:=p) (i:=i) hi) J<|bd J J J (fun hc16=>?_) (fun hc16=>?_)
  .
   exact rz J (by rw[Eb hx hall hc16];rfl)
  .
   exact at_ (k+1) ⟨⟨by omega,axY hx hall (by rw[decide_eq_false hc16];rfl)⟩,(by omega)⟩
 .
  obtain rfl:k=l.length:=by omega
  rw[cS] at hall;exact rz J (by rw[W1 hall];rfl)
def fq(l:List ah):Nat->Nat
 |0=>0
 |k+1=>fq l k+if tv l (l.getD k ⟨0,0⟩)=(k:Nat) then 1 else 0
def kh(l:List ah)(k:Nat):Nat:=if 3<=fq l k then 3 else fq l k
def X1(h:kh l k<3)(e:fq l (k+1)=fq l k+1):((kh l k:Nat):Int)+1=((kh l (k+1):Nat):Int):=by
 have a:kh l k=if 3<=fq l k then 3 else fq l k:=J
 have b:kh l (k+1)=if 3<=fq l (k+1) then 3 else fq l (k+1):=J
 split at a<;>split at b<;>omega
def Or(h: ¬kh l k<3\/fq l (k+1)=fq l k)(m:fq l k<=fq l (k+1)):((kh l k:Nat):Int)=((kh l (k+1):Nat):Int):=by
 have a:kh l k=if 3<=fq l k then 3 else fq l k:=J
 have b:kh l (k+1)=if 3<=fq l (k+1) then 3 else fq l (k+1):=J
 split at a<;>split at b<;>omega
def Y6(l:List ah)(k:Nat):kh l k<=3:=by unfold kh;split<;>omega
def azt(h:3<=fq l k):kh l k=3:=by unfold kh;rw[if_pos h]
def Dz(hx:l[k]? =some p)(h:tv l p=(k:Nat)):fq l (k+1)=fq l k+1:=by
 rw[fq,aV,hx,lU,if_pos h]
def S8(hx:l[k]? =some p)(h: ¬tv l p=(k:Nat)):fq l (k+1)=fq l k:=by
 rw[fq,aV,hx,lU,if_neg h];rfl
def OM:fq l k<=fq l (k+1):=by rw[fq];split<;>omega
def YX(h:v[k]? =some p):((v.take k).map eZ)++[eZ p]=(v.take (k+1)).map eZ:=by
 rw[dZ,h,aL];rfl
def aCs(h:ew r)(hk:k<r.length):decide ((r.getD k (0,0)).q.x=(i6 r k).q.x/\(r.getD k (0,0)).q.y=(i6 r k).q.y)=false:=decide_eq_false fun e=>h.ne k hk (Cy (by
 obtain⟨e1,e2⟩:=e;generalize (r.getD k (0,0)).q=a at*;generalize (i6 r k).q=b at*
 cases a;cases b
 simp only[ah.mk.injEq];exact⟨e1,e2⟩))
def TB(h:ew r)(h3:3<=fq (r.map ZP.q) (r.map ZP.q).length):PF GB prog 120 [lD r] (.tp [.sl ((r.map ZP.q).map eZ), .v .nilIface]):=by
 have hn:=h.n6;obtain⟨v,hv⟩: ∃v,v=r.map ZP.q:=⟨_,rfl⟩;have hvl:v.length=r.length:=by rw[hv,aX]
 have hb: ∀p∈v,aD p 22:=fun p hp=>by rw[hv] at hp;obtain⟨z,hz,rfl⟩:=aT.1 hp;exact Ij (h.le z hz)
 unfold lD;rw[<-hv] at h3⊢;have hm1:(v.map nO).length=v.length:=aX ..;have hm2:(v.map eZ).length=v.length:=aX ..;have hrl:(mp v).length=v.length:=by unfold mp;rw[aX,kV]
 refine GQ (fu:=⟨11⟩) func120 J J ntmps120 J J (fun C h0=>?_);refine aj 13 (.d (vI (v.length:Nat))) J (by rw[hm1]<;>rfl)<|gx (fu:=⟨0⟩) J<|cC (fu:=⟨15⟩) J (by show some (decide _)=some false;rw[decide_eq_false (by omega)]) J<|aj 20 (.d (vI (v.length:Nat))) J (by rw[hm1]<;>rfl)<|gx J<|nr 4 4 160 6 J J J<|lp (X:=Nat) (fun k=>[(21, .d (vI (k:Nat))),(4, .rw 4)]) (fun k=>[(4,some (.b 160 6 ((v.take k).map eZ) true))]) (fun k=>k<=v.length) (fun k=>v.length-k) 0 J (aM _) (fun _=>J) (fun k hk=>?_);have hm3:((v.take k).map eZ).length<=k:=by rw[aX,bT];omega
 refine br (fu2:=⟨0⟩) J J J (fun hc22=>?_) (fun hc22=>?_)
 .
  obtain⟨p,hx⟩: ∃u,v[k]? =some u:=⟨_,aZ (by omega)⟩;haveI:=hb p (aK hx);refine ix _ J (cg hx) J<|cl (fu:=⟨0⟩) J (VC (p:=p) (i:=22)) J<|jO 27 J<|gx J<|cl J (aHb (p:=p) (i:=22)) J<|rf J J<|ap ((v.take (k+1)).map eZ) J (YX hx) (Ud [p]) J<|d6 41 4 J<|at_ (k+1) ⟨(by omega),(by omega)⟩
 .
  obtain rfl:k=v.length:=by omega
  rw[cS];refine nC 4 J<|gx (fu:=⟨15⟩) J<|aj 44 (.d (vI (v.length:Nat))) J (by rw[hm2]<;>rfl)<|gx J<|lp (X:=Nat) (fun k=>[(45, .d (vI (k:Nat))),(7, .d (vI ((kh v k):Nat)))]) (fun k=>[]) (fun k=>k<=v.length) (fun k=>v.length-k) 0 J (aM _) (fun _=>J) (fun k hk=>?_);have hdm:=Y6 v k;refine br (fu2:=⟨9⟩) J J J (fun hc46=>?_) (fun hc46=>?_)
  .
   obtain⟨p,hx⟩: ∃u,v[k]? =some u:=⟨_,aZ (by omega)⟩;haveI:=hb p (aK hx);have hcm:=OM (l:=v) (k:=k);refine ix _ J (cg hx) J<|cs 52 J J J (fun hg52=>?_) (fun hg52=>?_)
   .
    refine cl J (aC4 (l:=v) (p:=p) (i:=22) hb (by omega)) J<|br J J J (fun hc58=>?_) (fun hc58=>?_)
    .
     have he7:=X1 (by omega) (Dz hx (by omega));refine aj 7 (.d (vI (kh v (k+1):Nat))) J (by rw[he7]<;>rfl)<|at_ (k+1) ⟨(by omega),(by omega)⟩
    .
     have he7:=Or (.inr (S8 hx (by omega))) hcm;refine aj 7 (.d (vI (kh v (k+1):Nat))) J (by rw[he7]<;>rfl)<|at_ (k+1) ⟨(by omega),(by omega)⟩
   .
    have he7:=Or (l:=v) (k:=k) (.inl (by omega)) hcm;refine aj 7 (.d (vI (kh v (k+1):Nat))) J (by rw[he7]<;>rfl)<|at_ (k+1) ⟨(by omega),(by omega)⟩
  .
   obtain rfl:k=v.length:=by omega
   have hd3:=azt h3;refine cC (fu:=⟨9⟩) J (by show some (decide _)=some false;rw[decide_eq_false (by omega)]) J<|IX J J J ID (fun _=>J) (fun GB1 pv hg1 hpv=>?_);refine wU 2 2000002 h0.fx J<|wU 3 2000003 h0.fx J ?_;refine Jz (σ:=Empty) (fun _=>[(2000002,some (.o 123 [.nl] true)),(2000003,some (.o 33 [.d (.v .nilIface)] true))]) (fun _=>True) (fun _=>[]) (fun _=>False) [(2, .ov 2000002 0),(3, .ov 2000003 0),(4, .d (.sl (v.map eZ)))] h0 J (FN) (.cons hpv .nil) ⟨J,J,J,trivial⟩ J ⟨J,J,trivial⟩ trivial GJ J J (fun k e GB' hE hg hp=>?_) (fun D hD hx hp=>?_) (fun D s hD hx hq=>hq.elim)
   .obtain⟨p,q,hpx,hqx,rfl⟩:=JF hE
    rw[hvl] at hqx;rw[hv] at hpx hqx;obtain⟨hk,rfl⟩:=QE hpx;obtain⟨hk2,rfl⟩:=QE hqx;haveI:=Ij (h.le _ (uO hk));haveI:=Ij (h.le _ (xP hk));have hne:=aCs h hk;refine⟨?_,?_,fun C2=>?_,fun C2=>?_⟩
    rotate_left 2
    .refine gx J<|GT J J J ⟨J,J,J⟩ J ?_
     exact atR
    .refine gx J<|ol 0 (e:=160) (len:=2) (s:=6) J (by kernel_rfl) (by kernel_rfl) (by decide) J<|ol 1 (e:=160) (len:=2) (s:=6) J (by kernel_rfl) (by kernel_rfl) (by decide) J<|cl J (Ss (p:=(r.getD k (0,0)).q) (q:=(i6 r k).q) (i:=22)) J<|bd J J J (fun hc=>absurd (decide_eq_true hc) (by rw[hne];decide)) (fun hc=>?_)
     exact rq trivial ⟨J,J,trivial⟩
   .refine gx J<|?_
    exact Ed hD hx J J
structure rp (r:List ZP):Prop where
 ok:ew r
 c3:3<=fq (r.map ZP.q) (r.map ZP.q).length




section
variable {α:Type}[Inhabited α]
end

end Go.Sx
end
section
namespace Go.Proofs
open Go.Shelf

end Go.Proofs
end
section
namespace Go.Sx
open Go Go.Proofs Tryz
variable {GB:Gh}{t u:Tr}{r:List ZP}{p n q:ah}{L ls:List aa}{C:aF}{Q0:Exit->Act->World->Prop}{fr fr' fr1 fr2:aC}{own' own1 own2:aI}{cf cf' cf1 cf2:Cf}{vc vc1 vc2:List Prop}{R g x m:Rat}{i j k kb k0:Nat}{l:aa}{s:bA}{v V:List ah}{ai al ae:Addr}{z:Int}





def aH4{a:ah}{t:List ah}:tv (a::t) a=((0:Nat):Int):=Eb (k:=0) (q:=a) J J ⟨J,J⟩
def Xe{a b c:ah}{t:List ah}(h1:a≠b)(h2:a≠c)(h3:b≠c):3<=fq (a::b::c::t) (a::b::c::t).length:=by
 have ne: ∀{x y:ah},x≠y->(!decide (x.x=y.x/\x.y=y.y))=true:=fun{x y} h=>by
  rw[decide_eq_false (fun k=>h (by cases x;cases y;simp only[ah.mk.injEq] at*;exact k))];rfl
 have e0:=Dz (l:=a::b::c::t) (k:=0) (p:=a) J aH4;have e1:=Dz (l:=a::b::c::t) (k:=1) (p:=b) J (Eb (k:=1) (q:=b) J (by simp only[List.take,sL,List.all_nil,Bool.and_true,ne h1]) ⟨J,J⟩);have e2:=Dz (l:=a::b::c::t) (k:=2) (p:=c) J (Eb (k:=2) (q:=c) J (by simp only[List.take,sL,List.all_nil,Bool.and_true,ne h2,ne h3]) ⟨J,J⟩);have mono: ∀n m,n<=m->fq (a::b::c::t) n<=fq (a::b::c::t) m:=by
  intro n m h
  induction m with
  |zero=>rw[show n=0 by omega];exact bW _
  |succ m ih=>
   by_cases k:n=m+1
   .rw[k];exact bW _
   .exact cN (ih (by omega)) OM
 have:=mono 3 (a::b::c::t).length (by simp);have z:fq (a::b::c::t) 0=0:=J;rw[eJ] at e0;rw[show 1+1=2 from J] at e1;rw[show 2+1=3 from J] at e2;omega
def Ic{a b c:ZP}{t:List ZP}(ho:ew (a::b::c::t))(h1:a≠b)(h2:a≠c)(h3:b≠c):rp (a::b::c::t):=
 ⟨ho,Xe (t:=t.map ZP.q) (fun e=>h1 (Cy e)) (fun e=>h2 (Cy e)) (fun e=>h3 (Cy e))⟩
def SS{a b c d:Int}(ho:ew (eo a b c d))(h1:a<c)(h2:b<d):rp (eo a b c d):=
 Ic ho (fun e=>by have:=congrArg Prod.fst e;dsimp only at this;omega) (fun e=>by have:=congrArg Prod.fst e;dsimp only at this;omega) (fun e=>by have:=congrArg Prod.snd e;dsimp only at this;omega)
def YF{p u v:ZP}(ho:ew (gE p u v))(h:ji u v≠0):rp (gE p u v):=by
 have hu: ∀{a b:ZP},(a=(0,0)\/b=(0,0)\/a=b)->ji a b=0:=fun{a b} k=>by
  unfold ji;rcases k with rfl|rfl|rfl
  .simp
  .simp
  .rw[rS];omega
 refine Ic ho (fun e=>h (hu (.inl ?_))) (fun e=>h (hu (.inr (.inl ?_)))) (fun e=>h (hu (.inr (.inr ?_))))
 .have e1:=congrArg Prod.fst e
  have e2:=congrArg Prod.snd e;unfold kj at e1 e2;dsimp only at e1 e2;exact Prod.ext (by dsimp only;omega) (by dsimp only;omega)
 .have e1:=congrArg Prod.fst e
  have e2:=congrArg Prod.snd e;unfold kj at e1 e2;dsimp only at e1 e2;exact Prod.ext (by dsimp only;omega) (by dsimp only;omega)
 .have e1:=congrArg Prod.fst e
  have e2:=congrArg Prod.snd e;unfold kj at e1 e2;dsimp only at e1 e2;exact Prod.ext (by omega) (by omega)
def Uw{es:List Int}{a:Nat}(ha:a<=es.length):rp (jj es a).1:=by
 have hok:=(Rx ha).1;unfold jj at*;dsimp only at*;split
 .rename_i h
  rw[if_pos h] at hok;unfold Ax at*;dsimp only at*;exact SS hok (by omega) (by omega)
 .rename_i h
  rw[if_neg h] at hok;dsimp only at*;split
  .rename_i k
   rw[if_pos k] at hok;exact YF hok (by omega)
  .exact Ic Pm (by decide) (by decide) (by decide)







section
end





section
variable {n:Nat}{own:aI}
end





def IE{a D:Rat}(hg:g≠0)(hR:R*D=g)(ha:a*D=x):a*R⁻¹=x*g⁻¹:=by
 have h1:g*g⁻¹=1:=Rat.mul_inv_cancel g hg;have hR0:R≠0:=fun e=>hg (by rw[<-hR,e];grind);have h2:R*R⁻¹=1:=Rat.mul_inv_cancel R hR0;generalize R⁻¹=r at*;generalize g⁻¹=s at*;have:r=D*s:=by
  have h3:R*(r-D*s)=0:=by grind
  have:=(fJ.1 h3).resolve_left hR0;grind
 grind
def Vk{a b c:Rat}(h0: ¬(a=0/\b=0)):a*(rgcd (rgcd a b) c)⁻¹=((dC a b c).a:Rat)/\b*(rgcd (rgcd a b) c)⁻¹=((dC a b c).b:Rat)/\c*(rgcd (rgcd a b) c)⁻¹=((dC a b c).c:Rat):=by
 obtain⟨k1,k2,k3⟩:=Ha a b c;have hn:=BR (c:=c) h0;have hD:=O1 a b c;have hr:=Qh hD (Qh hD k1 k2) k3;unfold dC;generalize a.num*(b.den*c.den:Nat)=x at*;generalize b.num*(a.den*c.den:Nat)=y at*;generalize c.num*(a.den*b.den:Nat)=z at*;rw[fX] at hr;have hgn:Nat.gcd x.natAbs y.natAbs≠0:=fun h=>hn ⟨kU.1 (mJ h),kU.1 (mQ h)⟩;have hgp:0<Nat.gcd (Nat.gcd x.natAbs y.natAbs) z.natAbs:=mS _ (iV hgn);have hg:(((Nat.gcd (Nat.gcd x.natAbs y.natAbs) z.natAbs:Nat):Int):Rat)≠0:=fun e=>by
  have:((Nat.gcd (Nat.gcd x.natAbs y.natAbs) z.natAbs:Nat):Int)=0:=by exact_mod_cast e
  omega
 refine⟨?_,?_,?_⟩
 .rw[IE hg hr k1];exact JY hgp (qS (kS _ _) (kS _ _))
 .rw[IE hg hr k2];exact JY hgp (qS (kS _ _) (lN _ _))
 .rw[IE hg hr k3];exact JY hgp (lN _ _)
def Qp{a b c:Rat}[ha:BQ a 62][hb:BQ b 62][hc:BQ c 62](h0: ¬(a=0/\b=0)):PF GB prog 124 [eF a,eF b,eF c] (.tp [ck (dC a b c),vB true]):=by
 obtain⟨e1,e2,e3⟩:=Vk (c:=c) h0;haveI:BQ (rgcd a b) 260:=BQ.mono (inferInstance:BQ (rgcd a b) _);haveI:BQ (rgcd (rgcd a b) c) 700:=BQ.mono (inferInstance:BQ (rgcd (rgcd a b) c) _);haveI:BQ (rgcd (rgcd a b) c)⁻¹ 700:=BQ.mono (inferInstance:BQ (rgcd (rgcd a b) c)⁻¹ _);have hl4:([((dC a b c).a:Rat),((dC a b c).b:Rat),((dC a b c).c:Rat)].map eF).length=3:=J;have hl3:[((dC a b c).a:Rat),((dC a b c).b:Rat),((dC a b c).c:Rat)].length=3:=J;refine fn func124 J J ntmps124 J J (fun C=>?_);refine cl J (z7 (q:=a)) J<|csd 11 J J J (fun hg11=>?_) (fun hg11=>?_)
 .
  refine cl J (z7 (q:=b)) J<|bd J J J (fun hc14=>?_) (fun hc14=>?_)
  .
   exact absurd ⟨hg11,hc14⟩ h0
  .
   refine cl rfl (u9 (p:=a) (q:=b) (i:=62) (j:=62)) rfl<|cl rfl (u9 (p:=rgcd a b) (q:=c) (i:=260) (j:=62)) rfl<|cl rfl (HF (q:=rgcd (rgcd a b) c) (i:=700)) rfl<|ro (fu:=⟨0⟩) J J<|cq (hv:=by simp only[ak];exact⟨by kernel_rfl,by omega⟩) ([((dC a b c).a:Rat),((dC a b c).b:Rat),((dC a b c).c:Rat)].map eF) rfl (Re (L:=[a,b,c]) (k:=(rgcd (rgcd a b) c)⁻¹) (i:=700) (by intro q hq;simp only[aW,fK,or_false] at hq;rcases hq with rfl|rfl|rfl;exact xb ha;exact xb hb;exact xb hc) (by intro q hq;simp only[aW,fK,or_false] at hq;rcases hq with rfl|rfl|rfl;exact ha.mono (by decide);exact hb.mono (by decide);exact hc.mono (by decide)) (nb rfl)) (by simp only[bU,iZ,e1,e2,e3]) rfl<|lb _ J J J<|lb _ J J J<|lb _ J J J<|rz J J
 .
  refine cl rfl (u9 (p:=a) (q:=b) (i:=62) (j:=62)) rfl<|cl rfl (u9 (p:=rgcd a b) (q:=c) (i:=260) (j:=62)) rfl<|cl rfl (HF (q:=rgcd (rgcd a b) c) (i:=700)) rfl<|ro (fu:=⟨0⟩) J J<|cq (hv:=by simp only[ak];exact⟨by kernel_rfl,by omega⟩) ([((dC a b c).a:Rat),((dC a b c).b:Rat),((dC a b c).c:Rat)].map eF) rfl (Re (L:=[a,b,c]) (k:=(rgcd (rgcd a b) c)⁻¹) (i:=700) (by intro q hq;simp only[aW,fK,or_false] at hq;rcases hq with rfl|rfl|rfl;exact xb ha;exact xb hb;exact xb hc) (by intro q hq;simp only[aW,fK,or_false] at hq;rcases hq with rfl|rfl|rfl;exact ha.mono (by decide);exact hb.mono (by decide);exact hc.mono (by decide)) (nb rfl)) (by simp only[bU,iZ,e1,e2,e3]) rfl<|lb _ J J J<|lb _ J J J<|lb _ J J J<|rz J J
def wQ{a b c:Rat}(ha:BQ a i)(hb:BQ b j)(hc:BQ c k):(a.num*(b.den*c.den:Nat)).natAbs<2^(i+(j+k)):=by
 rw[fV,fX];exact mn ha.hn (mn hb.hd hc.hd)
theorem Y4[hp:aD p 5][hq:aD q 5]:LB (fE p q):=by
 have h1:BQ (p.y-q.y) 11:=inferInstance;have h2:BQ (q.x-p.x) 11:=inferInstance;have h3:BQ (-((p.y-q.y)*p.x+(q.x-p.x)*p.y)) 33:=inferInstance;unfold fE dC;obtain⟨k1,k2,k3⟩:=zc ((p.y-q.y).num*((q.x-p.x).den*(-((p.y-q.y)*p.x+(q.x-p.x)*p.y)).den:Nat)) ((q.x-p.x).num*((p.y-q.y).den*(-((p.y-q.y)*p.x+(q.x-p.x)*p.y)).den:Nat)) ((-((p.y-q.y)*p.x+(q.x-p.x)*p.y)).num*((p.y-q.y).den*(q.x-p.x).den:Nat));have pw:(2:Nat)^(11+(11+33))<=2^96:=bY (by decide) (by decide);have P8:(2:Nat)^(33+(11+11))<=2^96:=bY (by decide) (by decide);exact⟨⟨dR k1 (cM (wQ h1 h2 h3) pw),dR k2 (cM (wQ h2 h1 h3) pw),dR k3 (cM (wQ h3 h1 h2) P8)⟩⟩
def Wx{a b c:ah}[ha:aD a i][hb:aD b j][hc:aD c k](hi:i<=80000:=by decide)(hj:j<=80000:=by decide)(hk:k<=80000:=by decide):PF GB prog 190 [eZ a,eZ b,eZ c] (vI (bG a b c).num.sign):=by
 haveI h1:=DH b a;haveI h2:=DH c a;have e:(⟨b.x-a.x,b.y-a.y⟩:ah).cross ⟨c.x-a.x,c.y-a.y⟩=bG a b c:=by unfold ah.cross bG;grind
 refine fn func190 J J ntmps190 J J (fun C=>?_);refine cl J (JR (p:=b) (q:=a) (i:=j) (j:=i) (by omega) (by omega)) J<|cl J (JR (p:=c) (q:=a) (i:=k) (j:=i) (by omega) (by omega)) J<|cl J (CJ (p:=⟨b.x-a.x,b.y-a.y⟩) (q:=⟨c.x-a.x,c.y-a.y⟩) (i:=j+i+1) (j:=k+i+1) (hp:=h1) (hq:=h2) (by omega) (by omega)) J<|cl J (mi (q:=(⟨b.x-a.x,b.y-a.y⟩:ah).cross ⟨c.x-a.x,c.y-a.y⟩) (h:= @BQ.cross _ _ _ _ h1 h2) (by omega)) J<|rz J (by rw[e]<;>rfl)
def qe(n p:ah)(t:List ah)(k:Nat):Rat:=(t.take k).foldl (fun b q=>if n.dot q<b then n.dot q else b) (n.dot p)
def K3{t:List ah}(h:t[k]? =some q):qe n p t (k+1)=if n.dot q<qe n p t k then n.dot q else qe n p t k:=by
 unfold qe;rw[dZ,h];simp only[lY,mL,iS,List.foldl_nil]
theorem Ei{n p:ah}{t:List ah}{i j:Nat}[hn:aD n i](hb: ∀q∈p::t,aD q j): ∀k,BQ (qe n p t k) (i+j+(i+j)+1)
 |0=>by
  haveI:=hb p aQ;exact(inferInstance:BQ (n.dot p) _)
 |k+1=>by
  cases h:t[k]? with
  |none=>
   have e:qe n p t (k+1)=qe n p t k:=by
    unfold qe;rw[dZ,h];simp
   rw[e];exact Ei hb k
  |some q=>
   rw[K3 h];haveI:=hb q (aJ _ (aK h));split
   .exact(inferInstance:BQ (n.dot q) _)
   .exact Ei hb k
theorem LD{l:List ah}[aD n i](hb: ∀q∈l,aD q j)(hne:l≠[]):BQ (i7 n l) (i+j+(i+j)+1):=by
 cases l with
 |nil=>exact absurd J hne
 |cons p t=>
  have:=Ei (n:=n) (i:=i) hb t.length;unfold qe at this;rwa [cS] at this
def FT(l:List ah):cE 6 (l.map eZ):=fun d hd=>by
 obtain⟨x,_,rfl⟩:=aT.1 hd;exact⟨J,J⟩
def PO{l:List ah}[hn:aD n i](hb: ∀q∈l,aD q j)(hne:l≠[])(hi:i<=20000)(hj:j<=20000)(hk:l.length<=100000):PF GB prog 126 [eZ n, .sl (l.map eZ)] (eF (i7 n l)):=by
 obtain⟨p,t,rfl⟩: ∃p t,l=p::t:=by cases l with|nil=>exact absurd rfl hne|cons p t=>exact⟨p,t,rfl⟩
 have hml:((p::t).map eZ).length=t.length+1:=by simp
 have hml2:(t.map eZ).length=t.length:=aX ..;rw[bZ] at hk;have hp:=hb p aQ;obtain⟨S,hS⟩: ∃S,S=qe n p t:=⟨_,rfl⟩;have hSb: ∀k,BQ (S k) (i+j+(i+j)+1):=by rw[hS];exact Ei hb
 have hS0:n.dot p=S 0:=by rw[hS];rfl
 refine fn func126 J J ntmps126 J J (fun C=>?_);refine ix _ J J J<|cl (fu:=⟨0⟩) J (uW (p:=n) (q:=p) (i:=i) (j:=j) (by omega) (by omega)) J<|aj 12 (.d (eF (S 0))) J (by rw[hS0])<|gx J<|kn (fu:=⟨1⟩) 1 (t.length+1) (t.map eZ) J J (by rw[hml]) (by rw[cX (by rw[hml];exact bW _)];rfl) (FT _) (by omega) (by omega) J<|aj 15 (.d (vI (t.length:Nat))) J (by rw[hml2]<;>rfl)<|gx J<|lp (X:=Nat) (fun k=>[(16, .d (vI (k:Nat))),(5, .ov 5 0)]) (fun k=>[(5,some (.o 158 [.d (vI (du (S k))), .d (vI (dt (S k))), .d (di (S k))] true))]) (fun k=>k<=t.length) (fun k=>t.length-k) 0 J (aM _) (fun _=>J) (fun k hk=>?_);haveI:=hSb k;refine br J J J (fun hc17=>?_) (fun hc17=>?_)
 .
  obtain⟨q,hx⟩: ∃u,t[k]? =some u:=⟨_,aZ (by omega)⟩;haveI:=hb q (aJ _ (aK hx));have eS:S (k+1)=if n.dot q<S k then n.dot q else S k:=by rw[hS];exact K3 hx
  refine ix _ J (cg hx) J<|cl J (uW (p:=n) (q:=q) (i:=i) (j:=j) (by omega) (by omega)) J<|cl (fu:=⟨0⟩) J (RT (p:=S k) (q:=n.dot q) (i:=i+j+(i+j)+1) (j:=i+j+(i+j)+1) (by omega) (by omega)) J<|aj 24 (.d (eF (S (k+1)))) J (by rw[eS])<|gx (hv:=by simp only[ak];exact⟨by kernel_rfl,by omega⟩) J<|at_ (k+1) ⟨(by omega),(by omega)⟩
 .
  obtain rfl:k=t.length:=by omega
  exact rz J (by rw[hS];unfold qe;rw[cS]<;>rfl)
def Zl:Option Rat->DV
 |some m=> .tp [eF m,vB true]
 |none=> .tp [.ag [vI 0,vI 0, .v (.pointer none)],vB false]
theorem RW{c:ao}(hc:dE c): ∀q∈jh c,aD q 3500:=fun q hq=>by
 rcases bJ.1 hq with h|h
 .obtain⟨s,hs,rfl⟩:=aT.1 h
  exact azV (hc s hs)
 .have hlb: ∀l∈c.map (fun s=>s.l),LB l:=fun l hl=>by
   obtain⟨s,hs,rfl⟩:=aT.1 hl;exact(hc s hs).lb
  exact aD.mono (Pi hlb q h) (by decide)
def P1{c:ao}(h:c=[]\/sG n c=true):fG c n=none:=by
 unfold fG;rw[if_pos];rcases h with h|h
 .rw[h];rfl
 .rw[h,sV]
def GY{c:ao}(hs:s∈c)(h:ir n s=true):fG c n=none:=by
 unfold fG;split
 .rfl
 .rw[if_pos (iR.2 ⟨s,hs,h⟩)]
def aDp{c:ao}(h0:c≠[])(h1:sG n c=false)(h: ∀s∈c,ir n s=false):fG c n=some (i7 n (jh c)):=by
 unfold fG;have e:c.isEmpty=false:=by cases c with|nil=>exact absurd J h0|cons s t=>rfl
 rw[e,h1,if_neg (by decide),if_neg (fun k=>by obtain⟨s,hs,k⟩:=iR.1 k;rw[h s hs] at k;cases k)]
def qv(c:ao):List ah:=c.map fun s=>s.l.at s.v.sample
def YA{c:ao}(h:c[k]? =some s):((qv (c.take k)).map eZ)++[eZ (s.l.at s.v.sample)]=(qv (c.take (k+1))).map eZ:=by
 unfold qv;rw[dZ,h,aL,aL];rfl
def ayo{c:ao}(h:c.length≠1):sG n c=false:=by
 match c,h with
 |[],_=>rfl
 |[s],h=>exact absurd J h
 |_::_::_,_=>rfl
def C8:x.num.sign<0↔x<0:=by
 rw[<-Rat.not_le,<-rN];constructor
 .intro h k
  rcases(show x.num=0\/0<x.num by omega) with e|e
  .rw[e] at h;exact absurd h (by decide)
  .rw[fU e] at h;omega
 .intro h
  rw[eX (by omega)];decide
def VQ:0<x.num↔0<x:=by
 constructor
 .intro h
  refine Rat.not_le.1 fun k=>?_;have h2:=rN.2 (show 0<= -x by grind);rw[oZ] at h2;omega
 .intro h
  have h1:=rN.2 (dQ h);have h2:x.num≠0:=fun e=>by rw[mX.1 e] at h;exact absurd h (by decide)
  omega
def Ef:0<x.num.sign↔0<x:=by
 rw[<-VQ];constructor
 .intro h
  refine Decidable.not_not.1 fun k=>?_;rcases(show x.num=0\/x.num<0 by omega) with e|e
  .rw[e] at h;exact absurd h (by decide)
  .rw[eX e] at h;exact absurd h (by decide)
 .intro h
  rw[fU h];decide
def ZZ(h:s.v.nh=true)(k:(s.l.dir.dot n).num.sign<0):ir n s=true:=by
 unfold ir;rw[h,decide_eq_true (C8.1 k)];rfl
def Md(h:s.v.nl=true)(k:0<(s.l.dir.dot n).num.sign):ir n s=true:=by
 unfold ir;rw[h,decide_eq_true (Ef.1 k),sT,sV]
def Et(h1:s.v.nh=false\/ ¬(s.l.dir.dot n).num.sign<0)(h2:s.v.nl=false\/ ¬0<(s.l.dir.dot n).num.sign):ir n s=false:=by
 unfold ir;have e1:(s.v.nh&&decide (s.l.dir.dot n<0))=false:=by
  rcases h1 with h|h
  .rw[h];rfl
  .rw[decide_eq_false fun k=>h (C8.2 k),Bool.and_false]
 have e2:(s.v.nl&&decide (0<s.l.dir.dot n))=false:=by
  rcases h2 with h|h
  .rw[h];rfl
  .rw[decide_eq_false fun k=>h (Ef.2 k),Bool.and_false]
 rw[e1,e2];rfl
def VA{c:ao}(h:c[k]? =some s)(hk: ∀s∈c.take k,ir n s=false)(hs:ir n s=false): ∀s∈c.take (k+1),ir n s=false:=fun u hu=>by
 rw[dZ,h] at hu;rcases bJ.1 hu with hu|hu
 .exact hk u hu
 .rw[show u=s by simpa using hu];exact hs
def LX{c:ao}(h:c≠[]):jh c≠[]:=fun e=>h (by
 have:=(List.append_eq_nil_iff.1 e).1;exact tW.1 this)
def aBC(c:ao)(h:c.length<=20000):(jh c).length<=100000:=by
 unfold jh;have:=I' (c.map (·.l));rw[aY,aX];rw[aX] at this;omega
def P5{c:ao}[hn:aD n j](hc:dE c)(hj:j<=10000)(hk:c.length<=20000):PF GB prog 130 [eC c,eZ n] (Zl (fG c n)):=by
 have hml:(c.map cO).length=c.length:=aX ..;have hback: ∀s,c[0]? =some s->c.length=1->sG n c=decide (s.l.nor.dot n<0):=fun s h1 h2=>by match c,h1,h2 with|[u],h1,_=>cases h1;rfl
 refine fn (fu:=⟨8⟩) func130 J J ntmps130 J J (fun C=>?_);refine mg (X:=Unit) (fun _=>[]) (fun _=>[]) (fun _=>c≠[]/\sG n c=false) [] [] rfl ?_ (fun _=>J) (fun _ hm=>?_)
 .
  refine gx (fu:=⟨4⟩) J<|aj 11 (.d (vI (c.length:Nat))) J (by rw[hml]<;>rfl)<|gx (fu:=⟨0⟩) J<|jD (v1:=fun hg12=>by simp only[ak];kernel_rfl) (fu2:=⟨3⟩) J J J J (fun hg12=>?_) (fun hg12=>?_)
  .
   exact rz J (by rw[P1 (.inl (cV (by omega)))]<;>rfl)
  .
   have hc0:c≠[]:=fun e=>hg12 (by rw[e];rfl);refine aj 15 (.d (vI (c.length:Nat))) J (by rw[hml]<;>rfl)<|gx (fu:=⟨0⟩) J<|jD (v2:=fun hg16=>by simp only[ak];kernel_rfl) J J J J (fun hg16=>?_) (fun hg16=>?_)
   .
    obtain⟨s,hx⟩: ∃s,c[0]? =some s:=⟨_,aZ (by omega)⟩;have hbe:=hback s hx (by omega);haveI:=(hc s (aK hx)).lb;haveI:=(hc s (aK hx)).v.lo;haveI:=(hc s (aK hx)).v.hi;refine ix _ J (IQ hx) J<|cl J (vu (l:=s.l)) J<|cl J (uW (p:=s.l.nor) (q:=n) (i:=97) (j:=j) (by decide) (by omega)) J<|cl J (mi (q:=s.l.nor.dot n) (by omega)) J<|br J J J (fun hc28=>?_) (fun hc28=>?_)
    .
     exact rz J (by rw[P1 (.inr (by rw[hbe];exact decide_eq_true (C8.1 hc28)))]<;>rfl)
    .
     exact at_ () ⟨hc0,by rw[hbe];exact decide_eq_false fun k=>hc28 (C8.2 k)⟩
   .
    exact at_ () ⟨hc0,ayo (by omega)⟩
 .
  obtain⟨hne,hbk⟩:=hm;refine nr 6 6 160 6 J J J<|lp (X:=Nat) (fun k=>[(32, .d (vI (k:Nat))),(6, .rw 6)]) (fun k=>[(6,some (.b 160 6 ((qv (c.take k)).map eZ) true))]) (fun k=>k<=c.length/\ ∀s∈c.take k,ir n s=false) (fun k=>c.length-k) 0 J ⟨aM _,fun s hs=>by simp at hs⟩ (fun _=>J) (fun k hk=>?_);obtain⟨hk1,hk2⟩:=hk;have hm4:(qv (c.take k)).length<=k:=by unfold qv;rw[aX,bT];omega
  have hm3:((qv (c.take k)).map eZ).length<=k:=by rw[aX];exact hm4
  refine br J J J (fun hc33=>?_) (fun hc33=>?_)
  .
   obtain⟨s,hx⟩: ∃u,c[k]? =some u:=⟨_,aZ (by omega)⟩;haveI:=(hc s (aK hx)).lb;haveI:=(hc s (aK hx)).v.lo;haveI:=(hc s (aK hx)).v.hi;refine ix _ J (cg hx) J<|cl J (wI (l:=s.l)) J<|cl J (uW (p:=s.l.dir) (q:=n) (i:=97) (j:=j) (by decide) (by omega)) J<|cl (fu:=⟨4⟩) J (mi (q:=s.l.dir.dot n) (by omega)) J<|mg (X:=Unit) (fun _=>[]) (fun _=>[]) (fun _=>ir n s=false) [] [] rfl ?_ (fun _=>J) (fun _ hop=>?_)
   .
    refine gx J<|iF 45 J J J (fun hg45=>?_) (fun hg45=>?_)
    .
     refine cs 49 J J J (fun hg49=>?_) (fun hg49=>?_)
     .
      exact rz J (by rw[GY (aK hx) (ZZ hg45 hg49)]<;>rfl)
     .
      refine iF 53 J J J (fun hg53=>?_) (fun hg53=>?_)
      .
       refine br J J J (fun hc57=>?_) (fun hc57=>?_)
       .
        exact rz J (by rw[GY (aK hx) (Md hg53 hc57)]<;>rfl)
       .
        exact at_ () (Et (.inr hg49) (.inr hc57))
      .
       exact at_ () (Et (.inr hg49) (.inl hg53))
    .
     refine iF 53 J J J (fun hg53=>?_) (fun hg53=>?_)
     .
      refine br J J J (fun hc57=>?_) (fun hc57=>?_)
      .
       exact rz J (by rw[GY (aK hx) (Md hg53 hc57)]<;>rfl)
      .
       exact at_ () (Et (.inl hg45) (.inr hc57))
     .
      exact at_ () (Et (.inl hg45) (.inl hg53))
   .
    refine cl J (MI (v:=s.v) (i:=1200)) J<|cl J (Oy (l:=s.l) (t:=s.v.sample)) J<|rf J J<|ap (hv:=by simp only[ak];exact⟨by kernel_rfl,by omega⟩) ((qv (c.take (k+1))).map eZ) J (YA hx) (FT [_]) J<|d6 67 6 J<|at_ (k+1) ⟨⟨by omega,VA hx hk2 hop⟩,(by omega)⟩
  .
   obtain rfl:k=c.length:=by omega
   rw[cS] at hk2⊢;have hm5:(qv c).length=c.length:=aX ..;have hm6:=I' (c.map (·.l));rw[aX] at hm6;refine cl J (TJ (c:=c) (fun s hs=>(hc s hs).lb) (by omega)) J<|kD ((jh c).map eZ) J (by unfold jh qv;rw[aL]<;>rfl) (FT _) J<|cl J (PO (n:=n) (l:=jh c) (i:=j) (j:=3500) (RW hc) (LX hne) (by omega) (by decide) (aBC c (by omega))) J<|rz J (by rw[aDp hne hbk hk2]<;>rfl)
def aEx{c:ao}[hn:aD n j](hc:dE c)(hj:j<=10000)(hk:c.length<=20000)(h:fG c n=some m):PF GB prog 130 [eC c,eZ n] (.tp [eF m, .v (.bool true)]):=by
 have:=P5 (GB:=GB) (n:=n) hc hj hk;rw[h] at this;exact this
def VB{c:ao}[hn:aD n j](hc:dE c)(hj:j<=10000)(hk:c.length<=20000)(h:fG c n=none):PF GB prog 130 [eC c,eZ n] (.tp [.ag [vI 0,vI 0, .v (.pointer none)], .v (.bool false)]):=by
 have:=P5 (GB:=GB) (n:=n) hc hj hk;rw[h] at this;exact this
def Dn{P:Nat->Prop}(h: ∀i<k,P i)(hk:P k): ∀i<k+1,P i:=fun i hi=>by
 rcases Nat.lt_succ_iff_lt_or_eq.1 hi with h1|h1
 .exact h i h1
 .rw[h1];exact hk
def XE(hb: ∀u∈v,aD u i)(hi:i<=80000)(hn:v.length<=100000):PF GB prog 121 [.sl (v.map eZ)] (vB (kw v)):=by
 have hrl:(mp v).length=v.length:=by unfold mp;rw[aX,kV]
 have hml:(v.map eZ).length=v.length:=aX ..;refine GQ func121 J J ntmps121 J J (fun C h0=>?_);refine IX J J J ID (fun _=>J) (fun GB1 pv hg1 hpv=>?_);refine wU 1 2000001 h0.fx J<|wU 2 2000002 h0.fx J ?_;refine Jz (σ:=Unit) (fun _=>[(2000001,some (.o 123 [.d (.sl (v.map eZ))] true)),(2000002,some (.o 4 [.ff] true))]) (fun k=> ∀k'<k,∀i<v.length,sD v k' i=true) (fun _=>[(2000001,some (.o 123 [.d (.sl (v.map eZ))] true)),(2000002,some (.o 4 [.ff] true))]) (fun _=>kw v=false) [(1, .ov 2000001 0),(2, .ov 2000002 0)] h0 J (FN) (.cons hpv .nil) ⟨J,J,trivial⟩ J ⟨J,J,trivial⟩ (fun k hk=>absurd hk (tQ k)) GJ J J (fun k e GB' hE hg hp=>?_) (fun D hD hx hp=>?_) (fun D s hD hx hq=>?_)
 .obtain⟨q1,q2,hpx,hqx,rfl⟩:=JF hE
  haveI:=hb q1 (aK hpx);haveI:=hb q2 (aK hqx);have hkn:=(aR.1 hpx).1;refine⟨?_,?_,fun C2=>?_,fun C2=>?_⟩
  rotate_left 2
  .refine gx J<|GT J J J ⟨J,J,J⟩ J ?_
   exact atR
  .skip
   refine gx (fu:=⟨5⟩) J<|aj 12 (.d (vI (v.length:Nat))) J (by rw[hml]<;>rfl)<|gx J<|lp (X:=Nat) (fun j=>[(13, .d (vI (j:Nat)))]) (fun j=>[]) (fun j=>j<=v.length/\ ∀i<j,sD v k i=true) (fun j=>v.length-j) 0 J ⟨aM _,fun i hi=>absurd hi (tQ i)⟩ (fun _=>J) (fun j hk=>?_);obtain⟨hk1,hk2⟩:=hk;refine br J J J (fun hc14=>?_) (fun hc14=>?_)
   .
    obtain⟨w,hx⟩: ∃u,v[j]? =some u:=⟨_,aZ (by omega)⟩;haveI:=hb w (aK hx);have hcv:=XZ hpx hqx hx;refine ix _ J (cg hx) J<|cs (fu1:=⟨5⟩) 21 J J J (fun hg21=>?_) (fun hg21=>?_)
    .
     refine aj 26 (.d (vI (v.length:Nat))) J (by rw[hml]<;>rfl)<|gx (fu:=⟨1⟩) J<|aj 27 (.d (vI (((k+1)%v.length:Nat):Int))) J J<|gx J<|cs 30 J J J (fun hg30=>?_) (fun hg30=>?_)
     .
      refine ol 0 (e:=160) (len:=2) (s:=6) J (by kernel_rfl) (by kernel_rfl) (by decide) J<|ol 1 (e:=160) (len:=2) (s:=6) J (by kernel_rfl) (by kernel_rfl) (by decide) J<|cl J (Wx (a:=q1) (b:=q2) (c:=w) (i:=i) (j:=i) (k:=i) (by omega) (by omega) (by omega)) J<|br J J J (fun hc38=>?_) (fun hc38=>?_)
      .
       exact WR () (Vg hkn (aR.1 hx).1 (by rw[hcv,decide_eq_false (by omega),decide_eq_false (by omega),decide_eq_false (fun q=>by have:=Ef.2 q;omega)]<;>rfl))
      .
       exact at_ (j+1) ⟨⟨by omega,Dn hk2 (by rw[hcv,decide_eq_true (Ef.1 (by omega)),sV,sV])⟩,(by omega)⟩
     .
      exact at_ (j+1) ⟨⟨by omega,Dn hk2 (by rw[hcv,decide_eq_true (show j=(k+1)%v.length by omega),Bool.true_or,sV])⟩,(by omega)⟩
    .
     exact at_ (j+1) ⟨⟨by omega,Dn hk2 (by rw[hcv,decide_eq_true (show j=k by omega),Bool.true_or])⟩,(by omega)⟩
   .
    obtain rfl:j=v.length:=by omega
    exact rq (Dn hp hk2) ⟨J,J,trivial⟩
 .refine gx J<|?_
  rw[hrl] at hp;exact Ed hD hx J (by rw[K2.2 hp]<;>rfl)
 .refine gx J<|?_
  exact Ed hD hx J (by rw[hq]<;>rfl)
section
variable (hE:EG GB ai al ae)
include hE
section
variable (h:t.gd)(hs:t.size<=65536)(hd:t.depth<=1000)
include h hs hd
end
end
structure RL.wd (r:RL):Prop where
 a:bD r.da
 b:bD r.db
 c:bD r.dc
def N5{b:Bool}(h:te ls=b)(hc: ∀m∈ls,LB m)(hok: ∀m∈ls,m.ok)(hn:ls.length<=1000:=by omega):PF GB prog 24 [.sl (ls.map eL)] (.tp [.sl ((fP ls).map eL),vB b]):=by
 subst h;exact F9 hc hok hn
def uF(L:List aa):DV:= .ag [.sl (L.map eL)]
def Vw(l:List aa):cE 6 (l.map eL):=fun d hd=>by
 obtain⟨x,_,rfl⟩:=aT.1 hd;exact⟨J,J⟩
def Un{c:ao}(hb: ∀s∈c,LB s.l)(hn:c.length<=100000):PF GB prog 62 [eC c] (uF (c.map (·.l))):=by
 have hml:(c.map cO).length=c.length:=aX ..;refine fn (fu:=⟨15⟩) func62 J J ntmps62 J J (fun C=>?_);refine aj 7 (.d (vI (c.length:Nat))) J (by rw[hml]<;>rfl)<|gx J<|C6 3 0 33 103 6 J J J J J<|lp (X:=Nat) (fun k=>[(8, .d (vI (k:Nat))),(3, .ov 3 0)]) (fun k=>[(3,some (.o 61 [.rw 33] true)),(33,some (.b 103 6 (((c.take k).map (·.l)).map eL) true))]) (fun k=>k<=c.length) (fun k=>c.length-k) 0 J (aM _) (fun _=>J) (fun k hk=>?_);have hkl:(((c.take k).map (·.l)).map eL).length<=k:=by rw[aX,aX,bT];omega
 refine br (fu2:=⟨0⟩) J J J (fun hc9=>?_) (fun hc9=>?_)
 .
  obtain⟨s,hx⟩: ∃u,c[k]? =some u:=⟨_,aZ (by omega)⟩;haveI:=hb s (aK hx);refine ix _ J (cg hx) J<|cl J (NL (l:=s.l)) J<|rf J J<|ap (hv:=by simp only[ak];exact⟨by kernel_rfl,by omega⟩) (((c.take (k+1)).map (·.l)).map eL) J (by rw[dZ,hx];simp only[aL];rfl) (Vw [s.l]) J<|d6 18 33 J<|at_ (k+1) ⟨(by omega),(by omega)⟩
 .
  obtain rfl:k=c.length:=by omega
  rw[cS];refine nC 33 J<|gx J<|rz J J
def Ww(h:L[k]? =some l):((L.take k).map ck)++[ck l]=(L.take (k+1)).map ck:=by
 rw[dZ,h,aL];rfl
def Rh(hb: ∀l∈L,LB l)(ho: ∀l∈L,l.ok)(hn:L.length<=1000:=by omega):PF GB prog 58 [uF L] (.tp [.sl (L.map ck),vB true]):=by
 have hm:=qq eL L;refine fn (fu:=⟨13⟩) func58 J J ntmps58 J J (fun C=>?_);refine aj 11 (.d (vI (L.length:Nat))) J (by rw[hm]<;>rfl)<|gx J<|br (fu2:=⟨13⟩) J J J (fun hc12=>?_) (fun hc12=>?_)
 .
  exact rz J (absurd hc12 (by omega))
 .
  refine aj 15 (.d (vI (L.length:Nat))) J (by rw[hm]<;>rfl)<|gx J<|nr 4 4 213 9 J J J<|lp (X:=Nat) (fun k=>[(16, .d (vI (k:Nat))),(4, .rw 4)]) (fun k=>[(4,some (.b 213 9 ((L.take k).map ck) true))]) (fun k=>k<=L.length) (fun k=>L.length-k) 0 J (aM _) (fun _=>J) (fun k hk=>?_);have hml:=qq ck (L.take k);rw[bT] at hml;refine br J J J (fun hc17=>?_) (fun hc17=>?_)
  .
   obtain⟨l,hx⟩: ∃s,L[k]? =some s:=⟨_,aZ (by omega)⟩;haveI:=hb l (aK hx);refine ix _ J (cg hx) J<|cl (fu:=⟨3⟩) J (Q4 (l:=l) (ho l (aK hx))) J<|jO 24 J<|gx J<|rf J J<|ap ((L.take (k+1)).map ck) J (Ww hx) (Xg [l]) J<|d6 30 4 J<|at_ (k+1) ⟨(by omega),(by omega)⟩
  .
   obtain rfl:k=L.length:=by omega
   rw[cS];refine gp 4 J<|rz J J
def ax6(h:L[j]? =some l):l6 (L.drop j)= .node l (l6 (L.drop (j+1))) (.leaf false):=by
 obtain⟨h1,h2⟩:=aR.1 h;rw[bX h1,h2];rfl
def WF{c:ao}(h:c[j]? =some s):(c.map (·.l))[j]? =some s.l:=by rw[cR,h];rfl
def awY{c:ao}(hn:c.length<=100000):PF GB prog 94 [.sl (c.map cO)] (eU (l6 (c.map (·.l)))):=by
 have hml:(c.map cO).length=c.length:=aX ..;refine fn func94 J J ntmps94 J J (fun C=>?_);refine cl (fu:=⟨8⟩) J (qE (b:=true)) J<|aj 7 (.d (vI (c.length:Nat))) J (by rw[hml]<;>rfl)<|gx J<|aj 3 (.d (eU (l6 ((c.map (·.l)).drop c.length)))) J (by rw[jZ (by simp)]<;>rfl)<|lp (X:=Nat) (fun k=>[(4, .d (vI ((k:Int)-1))),(3, .d (eU (l6 ((c.map (·.l)).drop k))))]) (fun k=>[]) (fun k=>k<=c.length) (fun k=>k) c.length J (bW _) (fun _=>J) (fun k hk=>?_);refine br (fu1:=⟨7⟩) J J J (fun hc10=>?_) (fun hc10=>?_)
 .
  obtain⟨j,rfl⟩: ∃j,k=j+1:=⟨k-1,by omega⟩;obtain⟨s,hx⟩: ∃u,c[j]? =some u:=⟨_,aZ (by omega)⟩;refine aj 14 (.d (vI (j:Nat))) J (by congr 3;omega)<|gx J<|ix _ J (cg hx) J<|cl J (qE (b:=false)) J<|cl (hv:=by simp only[ak];exact⟨by kernel_rfl,by omega⟩) J (ym (l:=s.l)) J<|aj 4 (.d (vI ((j:Int)-1))) J (by congr 3;omega)<|aj 3 (.d (eU (l6 ((c.map (·.l)).drop j)))) J (by rw[ax6 (WF hx)]<;>rfl)<|at_ j ⟨(by omega),(by omega)⟩
 .
  obtain rfl:k=0:=by omega
  exact rz J J
def CE(p q:ah):cF p q (((1:Int):Int):Rat)=p.add q:=by
 unfold cF ah.add;have e:(((1:Int):Int):Rat)=1:=J;rw[e];simp only[ah.mk.injEq];constructor<;>grind
def aET(p q:ah):cF q p (-1)=⟨q.x-p.x,q.y-p.y⟩:=by
 unfold cF;simp only[ah.mk.injEq];constructor<;>grind
def Vr(z:Int):eQ ((z:Int):Rat)= .ag [.v (.bool (decide (z<0))),dN z.natAbs,dD 1]:=by
 unfold eQ;rw[mN,nQ]
def J1{a:Rat}{m:Nat}(h:a*((m:Int):Rat)=(z:Rat)):eQ (a*((m:Int):Rat))=eQ (z:Rat):=by rw[h]
def FJ[hp:aD p i][hq:aD q i](hi:i<=20000)(h: ¬(p.x=q.x/\p.y=q.y)):PF GB prog 73 [eP p,eP q] (.tp [eL (fE p q), .v (.bool true)]):=by
 obtain⟨a,ha⟩: ∃a,a=p.y-q.y:=⟨_,rfl⟩;obtain⟨b,hb⟩: ∃b,b=q.x-p.x:=⟨_,rfl⟩;obtain⟨c,hc⟩: ∃c,c= -(a*p.x+b*p.y):=⟨_,rfl⟩;haveI b1:BQ a (2*i+1):=by rw[ha];exact BQ.mono (inferInstance:BQ (p.y-q.y) _) (by omega)
 haveI b2:BQ b (2*i+1):=by rw[hb];exact BQ.mono (inferInstance:BQ (q.x-p.x) _) (by omega)
 haveI b3:BQ c (8*i+9):=by rw[hc];exact BQ.mono (inferInstance:BQ (-(a*p.x+b*p.y)) _) (by omega)
 have hne: ¬(a=0/\b=0):=fun⟨u,v⟩=>h ⟨by rw[hb] at v;grind,by rw[ha] at u;grind⟩;obtain⟨o1,o2,o3⟩:=Ha a b c;obtain⟨m,hm⟩: ∃m,m=k8 a b c:=⟨_,rfl⟩;rw[<-hm] at o1 o2 o3;have hm2:a.den*b.den*c.den=m:=by rw[hm,k8,cW]
 obtain⟨x,hx⟩: ∃x,x=a.num*(b.den*c.den:Nat):=⟨_,rfl⟩;obtain⟨y,hy⟩: ∃y,y=b.num*(a.den*c.den:Nat):=⟨_,rfl⟩;obtain⟨z,hz⟩: ∃z,z=c.num*(a.den*b.den:Nat):=⟨_,rfl⟩;rw[<-hx] at o1;rw[<-hy] at o2;rw[<-hz] at o3;have hthr:fE p q=my x y z:=by rw[hx,hy,hz,hc,ha,hb];rfl
 have hok: ¬(x=0/\y=0):=by rw[hx,hy];exact BR hne
 haveI bm:BI (m:Int) (16*i+40):=⟨by rw[hm];exact cM (mn b1.hd (mn b2.hd b3.hd)) (bY (by decide) (by omega))⟩;haveI bx:BI x (16*i+40):=⟨by rw[hx];exact cM (wQ b1 b2 b3) (bY (by decide) (by omega))⟩;haveI by_:BI y (16*i+40):=⟨by rw[hy];exact cM (wQ b2 b1 b3) (bY (by decide) (by omega))⟩;haveI bz:BI z (16*i+40):=⟨by rw[hz];exact cM (wQ b3 b1 b2) (bY (by decide) (by omega))⟩;haveI n1:BN a.den (2*i+1):=⟨b1.hd⟩;haveI n2:BN b.den (2*i+1):=⟨b2.hd⟩;haveI n3:BN c.den (8*i+9):=⟨b3.hd⟩;refine fn func73 J J ntmps73 J J (fun C=>?_);refine cl J (PF.eq (FE (p:=q) (q:=p) (i:=i) (j:=i) (by omega) (by omega)) (show _=eP ⟨q.x-p.x,q.y-p.y⟩ by rw[aET])) J<|cl (fu:=⟨2⟩) J (PF.eq (nE (q:=q.y-p.y)) (show eQ (-(q.y-p.y))=eQ a by rw[ha];congr 1;grind)) J<|aj 19 (.d (eQ b)) J (by rw[hb]<;>rfl)<|gx J<|cl J (gr (a:=a) (b:=p.x) (i:=2*i+1) (j:=i) (by omega) (by omega)) J<|cl J (gr (a:=b) (b:=p.y) (i:=2*i+1) (j:=i) (by omega) (by omega)) J<|cl J (ml (a:=a*p.x) (b:=b*p.y) (i:=2*i+1+i) (j:=2*i+1+i) (by omega) (by omega)) J<|cl J (PF.eq (nE (q:=a*p.x+b*p.y)) (show _=eQ c by rw[hc])) J<|cl J (je (q:=a)) J<|cl J (je (q:=b)) J<|cl J (pc (a:=a.den) (b:=b.den) (ia:=2*i+1) (ib:=2*i+1) (by omega) (by omega)) J<|cl J (je (q:=c)) J<|cl J (PF.eq (pc (a:=a.den*b.den) (b:=c.den) (ia:=2*i+1+(2*i+1)) (ib:=8*i+9) (by omega) (by omega)) (show _=dN m by rw[hm2])) J<|cl (fu:=⟨1⟩) J (jF (neg:=false) (m:=m)) J<|aj 40 (.d (eQ ((m:Int):Rat))) J (by rw[Vr];simp[zv,eI];rfl)<|gx J<|cl J (PF.eq (gr (a:=a) (b:=((m:Int):Rat)) (i:=2*i+1) (j:=16*i+41) (by omega) (by omega)) (J1 o1)) J<|cl J (PF.eq (gr (a:=b) (b:=((m:Int):Rat)) (i:=2*i+1) (j:=16*i+41) (by omega) (by omega)) (J1 o2)) J<|cl J (PF.eq (gr (a:=c) (b:=((m:Int):Rat)) (i:=8*i+9) (j:=16*i+41) (by omega) (by omega)) (J1 o3)) J<|cl J (Qe (a:=x) (b:=y) (c:=z) (i:=16*i+40) bx by_ bz (by omega) hok) J<|rz J (by rw[hthr];rfl)
def k9(n:ah)(V:List ah)(k:Nat):ah:=(V.take k).foldl (fun b q=>if n.dot q<n.dot b then q else b) (V.getD 0 ⟨0,0⟩)
def R4(h:V[k]? =some q):k9 n V (k+1)=if n.dot q<n.dot (k9 n V k) then q else k9 n V k:=by
 unfold k9;rw[dZ,h];simp only[lY,mL,iS,List.foldl_nil]
def Q5(h:V≠[]):k9 n V V.length=ld n V:=by
 cases V with
 |nil=>exact absurd J h
 |cons p t=>
  unfold k9 ld;rw[cS,iS];show List.foldl _ (if n.dot p<n.dot p then p else p) t=_;rw[if_neg (by grind)]
def Ez{n:ah}{V:List ah}{P:ah->Prop}(h0:P (V.getD 0 ⟨0,0⟩))(h: ∀v∈V,P v): ∀k,P (k9 n V k)
 |0=>h0
 |k+1=>by
  cases hk:V[k]? with
  |none=>
   have e:k9 n V (k+1)=k9 n V k:=by unfold k9;rw[dZ,hk];simp
   rw[e];exact Ez h0 h k
  |some q=>
   rw[R4 hk];split
   .exact h q (aK hk)
   .exact Ez h0 h k
def KH(l:aa)(p:ah):l.dir.cross p=l.nor.dot p:=by unfold aa.dir aa.nor ah.cross ah.dot;dsimp only;grind
def Mo(h:V[k]? =some q):(bw (l.dir.cross q) (l.dir.cross (k9 l.nor V k))<0->k9 l.nor V (k+1)=q)/\(¬bw (l.dir.cross q) (l.dir.cross (k9 l.nor V k))<0->k9 l.nor V (k+1)=k9 l.nor V k):=by
 rw[R4 h,FO,KH,KH];exact⟨fun k=>if_pos k,fun k=>if_neg k⟩
def Mx(h:l.ok)(Q:ah): ¬(Q.x=(Q.add l.dir).x/\Q.y=(Q.add l.dir).y):=fun⟨h1,h2⟩=>yl h (by
 unfold ah.add aa.dir at h1 h2;dsimp only at h1 h2;exact⟨by grind,by grind⟩)
def aBV[hl:LB l](hlo:l.ok)(hV:V≠[])(hb: ∀v∈V,aD v j)(hj:j<=10000)(hn:V.length<=100000):PF GB prog 71 [eL l, .sl (V.map eP)] (eL (om l V)):=by
 have hml:(V.map eP).length=V.length:=aX ..;have hV0:0<V.length:=mZ.2 hV;obtain⟨p0,h0⟩: ∃p,V[0]? =some p:=⟨_,aZ hV0⟩;obtain⟨S,hS⟩: ∃S,S=k9 l.nor V:=⟨_,rfl⟩;have hg0:V.getD 0 ⟨0,0⟩=p0:=by rw[aV,h0];rfl
 have hS0:p0=S 0:=by rw[hS];show p0=(V.take 0).foldl _ _;rw[hg0];rfl
 have hSb: ∀k,aD (S k) j:=by rw[hS];exact Ez (by rw[hg0];exact hb p0 (aK h0)) hb
 have hSn:S V.length=ld l.nor V:=by rw[hS];exact Q5 hV
 refine fn func71 J J ntmps71 J J (fun C=>?_);refine ix (fu:=⟨1⟩) _ J (IQ h0) J<|aj 13 (.d (eP (S 0))) J (by rw[hS0]<;>rfl)<|gx (fu:=⟨9⟩) J<|aj 15 (.d (vI (V.length:Nat))) J (by rw[hml]<;>rfl)<|gx J<|lp (X:=Nat) (fun k=>[(16, .d (vI (k:Nat))),(5, .ov 5 0)]) (fun k=>[(5,some (.o 53 [.d (.v (.bool (decide ((S k).x.num<0)))), .d (dN (S k).x.num.natAbs), .d (dD (S k).x.den), .d (.v (.bool (decide ((S k).y.num<0)))), .d (dN (S k).y.num.natAbs), .d (dD (S k).y.den)] true))]) (fun k=>k<=V.length) (fun k=>V.length-k) 0 J (aM _) (fun _=>J) (fun k hk=>?_);haveI:=hSb k;refine br J J J (fun hc17=>?_) (fun hc17=>?_)
 .
  obtain⟨q,hx⟩: ∃u,V[k]? =some u:=⟨_,aZ (by omega)⟩;haveI:=hb q (aK hx);obtain⟨e1,e2⟩:=Mo (l:=l) hx;rw[<-hS] at e1 e2;refine ix _ J (cg hx) J<|cl J (iu (l:=l)) J<|cl J (pC (p:=l.dir) (q:=q) (i:=97) (j:=j) (by omega) (by omega)) J<|cl J (iu (l:=l)) J<|cl J (pC (p:=l.dir) (q:=S k) (i:=97) (j:=j) (by omega) (by omega)) J<|cl J (ki (a:=l.dir.cross q) (b:=l.dir.cross (S k)) (i:=97+j+(97+j)+1) (j:=97+j+(97+j)+1) (by omega) (by omega)) J<|br (fu1:=⟨2⟩) J J J (fun hc29=>?_) (fun hc29=>?_)
  .
   refine aj 30 (.d (eP (S (k+1)))) J (by rw[e1 hc29]<;>rfl)<|gx J<|at_ (k+1) ⟨(by omega),(by omega)⟩
  .
   rw[<-e2 hc29];exact at_ (k+1) ⟨(by omega),(by omega)⟩
 .
  obtain rfl:k=V.length:=by omega
  obtain⟨Q,hQ⟩: ∃Q,Q=l.base.add (ld l.nor V):=⟨_,rfl⟩;haveI hb2:=hSb V.length;haveI hQb:aD Q (j+1000):=by rw[hQ,<-hSn];exact aD.mono (inferInstance:aD (l.base.add (S V.length)) _)
  haveI hQ2:aD (Q.add l.dir) (j+1200):=aD.mono (inferInstance:aD (Q.add l.dir) _);haveI hQ1:aD Q (j+1200):=aD.mono hQb;refine cl J (y5 (l:=l) hlo.ne) J<|cl J (iD (n:=1)) J<|cl J (PF.eq (sB (p:=l.base) (q:=S V.length) (c:=(((1:Int):Int):Rat)) (i:=900) (j:=j) (k:=2) (by omega) (by omega) (by decide)) (show _=eP Q by rw[CE,hSn,<-hQ])) J<|cl J (iD (n:=1)) J<|cl J (iu (l:=l)) J<|cl J (PF.eq (sB (p:=Q) (q:=l.dir) (c:=(((1:Int):Int):Rat)) (i:=j+1200) (j:=97) (k:=2) (by omega) (by decide) (by decide)) (show _=eP (Q.add l.dir) by rw[CE])) J<|cl J (FJ (p:=Q) (q:=Q.add l.dir) (i:=j+1200) (by omega) (Mx hlo Q)) J<|rz J (by unfold om;rw[<-hQ]<;>rfl)
theorem tF{m:Int}(h:m.natAbs<2^k)(hk:0<k:=by decide):BQ (m:Rat) k:=⟨by rw[mN];exact h,by rw[nQ];exact cM (show 1<2^1 by decide) (bY (by decide) hk)⟩
theorem SE(h: ∀v∈V,ZB v): ∀v∈V,aD v 4:=fun v hv=>by
 obtain⟨m,n,rfl,h1,h2⟩:=h v hv;exact⟨tF (by omega),tF (by omega)⟩
theorem VK(hk:BL l k)(h62:k+5<=62)(hV:V≠[])(hz: ∀v∈V,ZB v):BQ (l.a:Rat) 62/\BQ (l.b:Rat) 62/\BQ ((l.c:Rat)-i7 l.nor V) 62:=by
 obtain⟨v,hv,e⟩:=(oD (n:=l.nor) hV).2;obtain⟨m,n,rfl,h1,h2⟩:=hz v hv;have e2:(l.c:Rat)-i7 l.nor V=((l.c-(l.a*m+l.b*n):Int):Rat):=by
  rw[e];unfold ah.dot aa.nor iP;rw[iK,lV,cZ,cZ]
 have b1:=io (gK hk.a) h1;have b2:=io (gK hk.b) h2;have ka:=hk.a;have kb:=hk.b;have kc:=hk.c;have hp:2^k*32<=2^62:=by
  rw[show 2^k*32=2^(k+5) by rw[fZ]];exact bY (by decide) h62
 rw[e2];generalize 2^k=w at*;refine⟨tF (by omega),tF (by omega),tF (by omega)⟩
def TE{c:ao}(hc:bC c)(hk: ∀s∈c,BL s.l k)(hq:q∈kv (c.map fun s=>s.l)):QD (2*k+1) q:=by
 unfold kv at hq;split at hq
 .obtain⟨l,hl,rfl⟩:=aT.1 hq
  obtain⟨s,hs,rfl⟩:=aT.1 hl;exact Mi (hk s hs) (hc.ok s hs)
 .obtain⟨l,hl,m,hm,hx,rfl⟩:=N8 hq
  obtain⟨s,hs,rfl⟩:=aT.1 hl;obtain⟨u,hu,rfl⟩:=aT.1 hm;exact LT (hk s hs) (hk u hu) hx
theorem Wi{a:Rat}{D:Nat}(hD:0<D)(h:a*((D:Int):Rat)=(z:Rat))(h1:z.natAbs<2^k)(h2:D<2^k):BQ a k:=by
 have e:=Ik hD h;have d1:a.den∣D:=by
  have e2:a.num.natAbs*D=z.natAbs*a.den:=by
   have:=congrArg Int.natAbs e;rwa [fV,fV,fX,fX] at this
  exact a.reduced.symm.dvd_of_dvd_mul_left ⟨z.natAbs,by rw[e2,cK]⟩
 obtain⟨m,hm⟩:=d1;have hden:=Nat.le_of_dvd hD ⟨m,hm⟩;have hm0:0<m:=iV fun k=>by rw[k] at hm;omega
 have e2:a.num*(m:Int)=z:=by
  rw[hm] at e;have hdn:(a.den:Int)≠0:=by have:=a.den_pos;omega
  refine Int.eq_of_mul_eq_mul_right hdn ?_;rw[<-e];push_cast;rw[Int.mul_assoc,rS (m:Int)]
 refine⟨dR ?_ h1,dR hden h2⟩;rw[<-e2,fV,fX];exact mU _ hm0
theorem Ti{c:ao}(hc:bC c)(ha:fD c)(hk: ∀s∈c,BL s.l k)(h62:2*k+10<=62){f:ah×ah}(hn: ¬((bj f).x=0/\(bj f).y=0))(h1:ZB f.1)(h2:ZB f.2)(hf:fG c (bj f)=some m):BQ (bj f).x 62/\BQ (bj f).y 62/\BQ (-(m+(bj f).dot f.1)) 62:=by
 obtain⟨e1,e2⟩:=GI hc ha hn hf;obtain⟨q,hq,e3⟩:=(oD (n:=bj f) e2).2;rw[e1] at e3;obtain⟨D,X,Y,hD0,hD,hX,hY,x1,y1⟩:=TE hc hk hq;obtain⟨m1,n1,p1,a1,a2⟩:=h1;obtain⟨m2,n2,p2,a3,a4⟩:=h2;have nx:(bj f).x=((n1-n2:Int):Rat):=by unfold bj;rw[p1,p2];unfold iP;rw[iK];grind
 have ny:(bj f).y=((m2-m1:Int):Rat):=by unfold bj;rw[p1,p2];unfold iP;rw[iK]
 generalize hA:n1-n2=A at nx;generalize hB:m2-m1=B at ny;have key: -(m+(bj f).dot f.1)*((D:Int):Rat)=((-(A*X+B*Y+(A*m1+B*n1)*D):Int):Rat):=by
  rw[e3,p1];unfold ah.dot iP;dsimp only;rw[nx,ny];simp only[cZ,jY,lV];rw[<-x1,<-y1];grind
 have hA16:A.natAbs<=16:=by omega
 have hB16:B.natAbs<=16:=by omega
 have b0:(D:Int).natAbs<=2^(2*k+1):=hD;have b3:=io hA16 hX;have b4:=io hB16 hY;have b5:(A*m1+B*n1).natAbs<=256:=by
  have:=io hA16 a1;have:=io hB16 a2;omega
 have b6:=io b5 b0;have e8:2^(2*k+10)=2^(2*k+1)*512:=by rw[show 2*k+10=2*k+1+9 by omega,fZ]
 have e9:2^(2*k+1)*512<=2^62:=by
  rw[<-e8];exact bY (by decide) h62
 have w0:0<2^(2*k+1):=gQ (by decide);rw[nx,ny];refine⟨tF (by omega),tF (by omega),Wi hD0 key ?_ ?_⟩
 .generalize 2^(2*k+1)=w at*;omega
 .generalize 2^(2*k+1)=w at*;omega
theorem Mm(h:ew r): ∀u∈r.map ZP.q,aD u 8:=fun u hu=>by
 obtain⟨p,hp,rfl⟩:=aT.1 hu;obtain⟨h1,h2⟩:=h.le p hp;exact⟨tF (by omega),tF (by omega)⟩
def Fx(h:rp r)(hc:kw (r.map ZP.q)=true):PF GB prog 59 [lD r] (.tp [.sl ((r.map ZP.q).map eZ), .v .nilIface]):=by
 have hn:=h.ok.n6;have hl:(r.map ZP.q).length=r.length:=aX ..;refine fn func59 J J ntmps59 J J (fun C=>?_);refine cl (fu:=⟨12⟩) J (TB h.ok h.c3) J<|cC J J J<|cl (fu:=⟨0⟩) J (XE (v:=r.map ZP.q) (i:=8) (Mm h.ok) (by decide) (by omega)) J<|aj 17 (.d (.v (.bool true))) J (by rw[hc]<;>rfl)<|jO 17 J<|gx J<|rz J J
def mh(c:ao)(V:List ah)(k:Nat):List aa:=(c.map fun s=>i8 s.l V)++((b8 V).take k).filterMap (ku c)
def Y3(c:ao)(V:List ah):mh c V 0=c.map fun s=>i8 s.l V:=by unfold mh;simp
def AR(c:ao)(V:List ah):mh c V (b8 V).length=gw c V (b8 V):=by unfold mh gw;rw[cS]
def AP(c:ao)(V:List ah)(k:Nat):(mh c V k).length<=c.length+V.length:=by
 unfold mh;rw[aY,aX];have h1:=lJ (ku c) ((b8 V).take k);have h2:((b8 V).take k).length<=V.length:=by rw[bT];unfold b8;rw[aX,kV];omega
 omega
def UI{c:ao}{f:ah×ah}(h:(b8 V)[k]? =some f)(hf:fG c (bj f)=some m):(mh c V k).map ck++[ck (dC (bj f).x (bj f).y (-(m+(bj f).dot f.1)))]=(mh c V (k+1)).map ck:=by
 unfold mh;rw[dZ,h];simp only[lY,pK,kN,rW];rw[show ku c f=some (dC (bj f).x (bj f).y (-(m+(bj f).dot f.1))) by unfold ku;rw[hf];rfl];simp
def asZ{c:ao}{f:ah×ah}(h:(b8 V)[k]? =some f)(hf:fG c (bj f)=none):mh c V k=mh c V (k+1):=by
 unfold mh;rw[dZ,h];simp only[lY,pK,kN,rW];rw[show ku c f=none by unfold ku;rw[hf];rfl];simp
def UZ{c:ao}(h:c[k]? =some s):((c.take k).map fun s=>i8 s.l V).map ck++[ck (i8 s.l V)]=((c.take (k+1)).map fun s=>i8 s.l V).map ck:=by
 rw[dZ,h,aL,aL];rfl
def LR(l:List aa):cE 9 (l.map ck):=fun d hd=>by
 obtain⟨x,_,rfl⟩:=aT.1 hd;exact⟨J,J⟩
def Kb(h1:V[k]? =some p)(h2:V[(k+1)%V.length]? =some q):(b8 V)[k]? =some (p,q):=by
 have hk:=(aR.1 h1).1;unfold b8;rw[cR,qJ hk];show some (V.getD k ⟨0,0⟩,V.getD ((k+1)%V.length) ⟨0,0⟩)=_;rw[aV,aV,h1,h2];rfl
theorem ZG{c:ao}(hc:dE c)[hn:aD n 9](h:fG c n=some m):BQ m 7019:=by
 unfold fG at h;split at h
 .cases h
 .rename_i h0
  split at h
  .cases h
  .cases h
   have hne:c≠[]:=fun e=>h0 (by rw[e];rfl);exact LD (n:=n) (i:=9) (RW hc) (LX hne)
theorem S'[hp:aD p 4][hq:aD q 4]:aD (bj (p,q)) 9:=by
 have h:=DH q p (i:=4) (j:=4);exact⟨inferInstanceAs (BQ (-(q.y-p.y)) 9),inferInstanceAs (BQ (q.x-p.x) 9)⟩
def On{c d:ao}(hV:mc V)(hc:dE c)(hg:bC c)(ha:fD c)(hk: ∀s∈c,BL s.l kb)(h62:2*kb+10<=62)(hn:c.length<=900)(hd:fj (gw c V (b8 V)) []=some d):PF GB prog 61 [eC c, .sl (V.map eZ)] (eC d):=by
 have hVb:=SE hV.zb;have hV4:=hV.le;have hml:(c.map cO).length=c.length:=aX ..;have hpl:(b8 V).length=V.length:=by unfold b8;rw[aX,kV]
 have hrl:(mp V).length=(b8 V).length:=by unfold mp;rw[aX,kV,hpl]
 refine GQ func61 J J ntmps61 J J (fun C h0=>?_);refine C6 5 0 50 213 9 J J J J J<|lp (X:=Nat) (fun k=>[(22, .d (vI (k:Nat))),(5, .ov 5 0)]) (fun k=>[(5,some (.o 119 [.rw 50] true)),(50,some (.b 213 9 (((c.take k).map fun s=>i8 s.l V).map ck) true))]) (fun k=>k<=c.length) (fun k=>c.length-k) 0 J (aM _) (fun _=>J) (fun k hkc=>?_);have hm3:(((c.take k).map fun s=>i8 s.l V).map ck).length<=k:=by rw[aX,aX,bT];omega
 refine br J J J (fun hc23=>?_) (fun hc23=>?_)
 .obtain⟨s,hx⟩: ∃u,c[k]? =some u:=⟨_,aZ (by omega)⟩
  have hsm:=aK hx;haveI:=(hc s hsm).lb;obtain⟨q1,q2,q3⟩:=VK (hk s hsm) (by omega) hV.br.vne hV.zb;haveI hl0:=LD (n:=s.l.nor) (i:=97) hVb hV.br.vne;have hne:=yl (hg.ok s hsm);refine ix _ J (cg hx) J<|cl J (vu (l:=s.l)) J<|cl J (PO (n:=s.l.nor) (l:=V) (i:=97) (j:=4) hVb hV.br.vne (by decide) (by decide) (by omega)) J<|cl J (py (p:=(s.l.c:Rat)) (q:=i7 s.l.nor V) (i:=97) (j:=97+4+(97+4)+1)) J<|cl J (Qp (a:=(s.l.a:Rat)) (b:=(s.l.b:Rat)) (c:=(s.l.c:Rat)-i7 s.l.nor V) hne) J<|rf J J<|ap (((c.take (k+1)).map fun s=>i8 s.l V).map ck) J (UZ hx) (LR [_]) J<|d6 47 50 J<|at_ (k+1) ⟨(by omega),(by omega)⟩
 .obtain rfl:k=c.length:=by omega
  rw[cS,<-Y3 c V];refine IX J J J ID (fun _=>J) (fun GB1 pv hg1 hpv=>?_);refine wU 2 2000002 h0.fx J<|wU 5 2000005 h0.fx J ?_;refine Jz (σ:=Empty) (fun k=>[(2000002,some (.o 127 [.d (eC c)] true)),(2000005,some (.o 119 [.rw 50] true)),(50,some (.b 213 9 ((mh c V k).map ck) true))]) (fun _=>True) (fun _=>[]) (fun _=>False) [(2, .ov 2000002 0),(5, .ov 2000005 0)]
   h0 J (FN) (.cons hpv .nil) ⟨J,J,trivial⟩ J ⟨J,J,J,trivial⟩ trivial GJ J J (fun k e GB' hE hg2 hp=>?_) (fun D hD hx hp=>?_) (fun D s hD hx hq=>hq.elim)
  .obtain⟨q1,q2,hpx,hqx,rfl⟩:=JF hE
   haveI:=hVb q1 (aK hpx);haveI:=hVb q2 (aK hqx);have z1:=hV.zb q1 (aK hpx);have z2:=hV.zb q2 (aK hqx);have hpr:=Kb hpx hqx;have hnz:=hV.br.nz (aK hpr);haveI hn9:aD (bj (q1,q2)) 9:=S';refine⟨?_,?_,fun C2=>?_,fun C2=>?_⟩
   rotate_left 2
   .refine gx J<|GT J J J ⟨J,J,J⟩ J ?_
    exact atR
   .skip
    refine gx J<|ol 1 (e:=160) (len:=2) (s:=6) J (by kernel_rfl) (by kernel_rfl) (by decide) J<|ol 0 (e:=160) (len:=2) (s:=6) J (by kernel_rfl) (by kernel_rfl) (by decide) J<|cl J (JR (p:=q2) (q:=q1) (i:=4) (j:=4)) J<|cl (fu:=⟨0⟩) J (WQ (p:=⟨q2.x-q1.x,q2.y-q1.y⟩) (i:=9) (h:=DH q2 q1)) J<|aj 58 (.d (eZ (bj (q1,q2)))) J J<|gx J<|?_;rcases hf:fG c (bj (q1,q2)) with _|m
    .
     rw[asZ hpr hf];refine cl (fu:=⟨3⟩) J (VB (c:=c) (n:=bj (q1,q2)) (j:=9) hc (by decide) (by omega) hf) J<|qc 64 J<|gx J<|?_;exact rq trivial ⟨J,J,J,trivial⟩
    .
     obtain⟨u1,u2,u3⟩:=Ti hg ha hk h62 hnz z1 z2 hf;haveI:BQ m 7019:=ZG hc hf;have hm4:=AP c V k;have hm5:((mh c V k).map ck).length<=c.length+V.length:=by rw[aX];exact hm4
     refine cl (fu:=⟨3⟩) J (aEx (c:=c) (n:=bj (q1,q2)) (j:=9) hc (by decide) (by omega) hf) J<|jO 64 J<|gx J<|ol 0 (e:=160) (len:=2) (s:=6) J (by kernel_rfl) (by kernel_rfl) (by decide) J<|cl J (uW (p:=bj (q1,q2)) (q:=q1) (i:=9) (j:=4)) J<|cl J (qP (p:=m) (q:=(bj (q1,q2)).dot q1) (i:=7019) (j:=27)) J<|cl J (qC (q:=m+(bj (q1,q2)).dot q1) (i:=7047)) J<|cl J (Qp (a:=(bj (q1,q2)).x) (b:=(bj (q1,q2)).y) (c:= -(m+(bj (q1,q2)).dot q1)) hnz) J<|rf J J<|ap ((mh c V (k+1)).map ck) J (UI hpr hf) (LR [_]) J<|d6 84 50 J ?_;exact rq trivial ⟨J,J,J,trivial⟩
  .rw[hrl,AR]
   refine gx J<|fz 50 J J<|cl J (N1 (ls:=gw c V (b8 V)) (fun l hl=>⟨(BJ hV.br hV.zb hg ha hk l hl).mono (by omega)⟩) (GF hV.br hg) (by have:=AP c V (b8 V).length;rw[AR] at this;omega) hd) J<|?_;exact Ed hD hx J J
def aCA(hV:mc V)(ho:t.all aa.ok)(hrk:(t.restrict []).all fun l=>BL l kb)(hrb:(t.restrict []).all LB)(h62:2*kb+10<=62)(hd:t.depth<=800)(hu:u∈(fh (t.restrict [])).map (gA V (b8 V))):u.gd/\u.size<=65536:=by
 obtain⟨c,hc,rfl⟩:=aT.1 hu;obtain⟨g1,g2⟩:=Eh ho c hc;have hbk:=wN (P:=fun l=>BL l kb) (fun l h=>h.rev) hrk (fun s hs=>by cases hs) (t8.1 hc);have h1:=BJ hV.br hV.zb g1 g2 hbk;refine⟨⟨HK fun l hl=>⟨(h1 l hl).mono (by omega)⟩,Ru hV.br g1 g2⟩,?_⟩;unfold gA;rw[RI];have h2:=vr (gw c V (b8 V));have h3:=AP c V (b8 V).length;rw[AR] at h3;have h4:=Ig hrb (t.restrict_all aa.ok [] ho) c hc;have:=t.restrict_depth [];have:=hV.le;omega
def ZF{cs:List ao}{c:ao}(h:cs[k]? =some c):((cs.take k).map (gA V (b8 V))).map eU++[eU (gA V (b8 V) c)]=((cs.take (k+1)).map (gA V (b8 V))).map eU:=by
 rw[dZ,h,aL,aL];rfl
def UB(hE:EG GB ai al ae)(hV:mc V)(hb:t.all LB)(ho:t.all aa.ok)(hk:t.all fun l=>BL l kb)(h62:2*kb+10<=62)(hd:t.depth<=800)(hs:t.size<=60000)(hq:pi 1 (Tr.leaf false) ((fh (t.restrict [])).map (gA V (b8 V)))=some u):PF GB prog 41 [eU t, .sl (V.map eZ)] (.tp [eU u, .v .nilIface]):=by
 obtain⟨cs,hcs⟩: ∃cs,cs=fh (t.restrict []):=⟨_,rfl⟩;rw[<-hcs] at hq;have hrs:=t.restrict_size [];have hrd:=t.restrict_depth [];have hrb:=t.restrict_all LB [] hb;have hro:=t.restrict_all aa.ok [] ho;have hrk:=t.restrict_all _ [] hk;have hcl:cs.length<=60001:=by rw[hcs];exact cN (O2 _) (by omega)
 have hml:(cs.map eC).length=cs.length:=aX ..;refine fn func41 J J ntmps41 J J (fun C=>?_);refine cl (fu:=⟨0⟩) J (wS (t:=t) (by omega)) J<|cC J (by show some (decide _)=some false;rw[decide_eq_false (by omega)]) J<|cl J (Nc (t:=t) hb ho) J<|cl (fu:=⟨0⟩) J (Wt (t:=t.restrict []) hrb hro (by omega) (by omega)) J<|aj 16 (.d (.sl (cs.map eC))) J (by rw[hcs])<|gx (fu:=⟨1⟩) J<|aj 17 (.d (vI (cs.length:Nat))) J (by rw[hml]<;>rfl)<|gx J<|nr 6 6 152 1 J J J<|lp (X:=Nat) (fun k=>[(18, .d (vI (k:Nat))),(6, .rw 6)]) (fun k=>[(6,some (.b 152 1 (((cs.take k).map (gA V (b8 V))).map eU) true))]) (fun k=>k<=cs.length) (fun k=>cs.length-k) 0 J (aM _) (fun _=>J) (fun k hk=>?_);have hm3:(((cs.take k).map (gA V (b8 V))).map eU).length<=k:=by rw[aX,aX,bT];omega
 refine br (fu2:=⟨0⟩) J J J (fun hc19=>?_) (fun hc19=>?_)
 .
  obtain⟨c,hx⟩: ∃u,cs[k]? =some u:=⟨_,aZ (by omega)⟩;have hcm:c∈fh (t.restrict []):=by rw[<-hcs];exact aK hx
  obtain⟨g1,g2⟩:=Eh ho c hcm;have hck:=(Dy hrb hro dE.nil (t8.1 hcm)).1;have hbk:=wN (P:=fun l=>BL l kb) (fun l h=>h.rev) hrk (fun s hs=>by cases hs) (t8.1 hcm);have hsh:=Ig hrb hro c hcm;obtain⟨d,d1,d2,d3,d4,d5⟩:=Iq hV.br g1 g2;have hdl:d.length<=c.length+4:=by have h1:=vr (gw c V (b8 V));have h2:=AP c V (b8 V).length;rw[AR] at h2;rw[d5,aX] at h1;have:=hV.le;omega
  have hml2:(d.map cO).length=d.length:=aX ..;refine ix _ J (cg hx) J<|cl (fu:=⟨8⟩) J (On (c:=c) (d:=d) (V:=V) (kb:=kb) hV hck g1 g2 hbk h62 (by omega) d1) J<|aj 26 (.d (vI (d.length:Nat))) J (by rw[hml2]<;>rfl)<|gx (fu:=⟨0⟩) J<|cC J (by show some (decide _)=some false;rw[decide_eq_false (by omega)]) J<|cl (fu:=⟨0⟩) J (awY (c:=d) (by omega)) J<|aj 31 (.d (eU (gA V (b8 V) c))) J (by unfold gA;rw[d5])<|gx J<|rf J J<|ap (((cs.take (k+1)).map (gA V (b8 V))).map eU) J (ZF hx) (VF [_]) J<|d6 33 6 J<|at_ (k+1) ⟨(by omega),(by omega)⟩
 .
  obtain rfl:k=cs.length:=by omega
  rw[cS];refine nC 6 J<|gx J<|cl J (qE (b:=false)) J<|cl J (UT hE (op:=1) (a:= .leaf false) (us:=cs.map (gA V (b8 V))) ⟨trivial,trivial⟩ (by decide) (fun u hu=>aCA hV ho hrk hrb h62 hd (hcs▸hu)) (by rw[aX];omega) (by rw[if_neg (by decide)];exact hq)) J<|rz J J
section
variable {n:Nat}{own:aI}{ops:Array Oper}{r:List Oper}{K:List Kt}
def Ok(fr:aC)(cf:Cf):Option (TypeId×DV):=match cI fr cf with
 |some ⟨_, .load t x,_,_,_,_⟩=>match bh (b9 fr cf) x with
  |some (.ep (d::_))=>some (t,d)
  |_=>none
 |_=>none
def Xi[fu:Fu]{t:TypeId}{d:DV}{D:TypeDesc}{j:TypeInfo}(h:Ok fr cf=some (t,d))(hu:prog.underlying t=some D)(hD:Tu D=true)(hj:prog.info? t=some j)(hs:j.size=1)
  (hgo:cH tt n fu.n fr own cf (.d d) [] []=⟨vc,fr',own',cf'⟩)(k':av prog GB C n Q0 fr' own' cf')
  (hv:autoParam (ak vc) cL._auto_1):av prog GB C n Q0 fr own cf:=by
 unfold Ok at h;split at h<;>try (cases h;done)
 rename_i hh;split at h<;>cases h;rename_i hx;have:j' prog t:=⟨fun w=>by(rw[Ah hu w];cases D<;>first|rfl|(cases hD;done)),fun w=>by rw[uC hj w,hs]⟩;refine us hh ?_ hgo hv k';refine .yd fun ρ G ov a w r=>?_;obtain⟨y,h1,h2⟩:=r.ev hx;obtain⟨b,o,ms,m,rfl,hb,ht,hm⟩:=h2;obtain⟨l',h3,h4⟩:=hm.get (i:=0) rfl;have:=I5 ht (i:=0) (Nat.succ_pos _);rw[gJ] at this;exact⟨l',h4,qD h1 hb (by rw[this];exact h3)⟩
def Ot(i:TI)(fr:aC)(cf:Cf):Option Q7:=match cI fr cf with
 |some ⟨some d, .buildSlice t len parts,_,_,_,_⟩=>match dO tt t with
  |some ⟨.sl e s _,_,_,_⟩=>match nq i with
   |some z=>match wn (b9 fr cf) 0 parts.toList with
    |some ds=>bif Nat.beq z.cells.length s&&(BS s ds&&(Nat.beq parts.toList.length len&&(Nat.ble (len*s) 1000&&Nat.blt 0 (len*s)))) then some ⟨d,e,s,ds⟩ else none
    |none=>none
   |none=>none
  |_=>none
 |_=>none
def Uj[fu:Fu](i:TI){d e s:Nat}{ds:List DV}(h:Ot i fr cf=some ⟨d,e,s,ds⟩)(hi:eH prog e=some i)(hgo:cH tt n fu.n fr own cf (.d (.sl ds)) [(d,none)] [d]=⟨vc,fr',own',cf'⟩)(k:av prog GB C n Q0 fr' own' cf')
  (hv:autoParam (ak vc) cL._auto_1):av prog GB C n Q0 fr own cf:=by
 unfold Ot at h;split at h<;>try (cases h;done)
 rename_i hh;split at h<;>try (cases h;done)
 rename_i hT;split at h<;>try (cases h;done)
 rename_i hz;split at h<;>try (cases h;done)
 rename_i hr;rw[cond_eq_ite] at h;split at h<;>cases h;rename_i hc;simp only[bK] at hc;have:=kt (et _ _ hT) J;exact us hh ((PE (GB:=GB) (C:=C) (n:=n) (bk:=iH fr own cf) hi hz hc.1 hr hc.2.1 hc.2.2.1 hc.2.2.2.1 hc.2.2.2.2).frzRow J) hgo hv k
def Zs(d:Nat)(hl:aO fr d=some (.d (.v (.slice none 0 0)))){c:Code}(h:av prog GB C n Q0 ((d, .nl)::fr) own (.code c K)):av prog GB C n Q0 fr own (.code c K):=
 mo (g:= .nl) hl (fun ρ G y hy=>(aH (G:=G)).1 hy) h
def nlV(d:Nat)(hl:aO fr d=some .nl){e:Exit}(h:av prog GB C n Q0 ((d, .d (.v (.slice none 0 0)))::fr) own (.ex e K)):av prog GB C n Q0 fr own (.ex e K):=
 mo (g:= .d (.v (.slice none 0 0))) hl (fun ρ G y hy=>(aH (G:=G)).2 hy) h
end
def Oq(f:FuncId):DV:= .v (.func (.func f) #[] #[])
def aCw{fs:List FuncId}{ts:Nat->Tr}(h0:kg k0 (ts 0))(hr:rp r)(hc:kw (r.map ZP.q)=true)(hF: ∀k f,fs[k]? =some f->PF GB prog f [eU (ts k), .sl ((r.map ZP.q).map eZ)] (.tp [eU (ts (k+1)), .v .nilIface]))(hb:(ts fs.length).all LB)(hs:(ts fs.length).size<=1000000)(hn:fs.length<=1000):PF GB prog 40 [eA (ts 0),lD r, .sl (fs.map Oq)] (.tp [eA (ts fs.length), .v .nilIface]):=by
 have hml:(fs.map Oq).length=fs.length:=aX ..;refine fn func40 J J ntmps40 J J (fun C=>?_);refine cl (fu:=⟨12⟩) J (XG (t:=ts 0) h0) J<|aj 20 (.d (.v (.bool false))) J J<|qc 20 J<|gx J<|cl (fu:=⟨11⟩) J (Fx hr hc) J<|cC (fu:=⟨10⟩) J J J<|aj 33 (.d (vI (fs.length:Nat))) J (by rw[hml]<;>rfl)<|gx J<|lp (X:=Nat) (fun k=>[(34, .d (vI (k:Nat))),(8, .d (eU (ts k)))]) (fun k=>[]) (fun k=>k<=fs.length) (fun k=>fs.length-k) 0 J (aM _) (fun _=>J) (fun k hk=>?_);refine br J J J (fun hc35=>?_) (fun hc35=>?_)
 .
  obtain⟨f,hx⟩: ∃u,fs[k]? =some u:=⟨_,aZ (by omega)⟩;refine ix (fu:=⟨0⟩) _ J (cg hx) J<|Xi (fu:=⟨8⟩) (d:= .v (.func (.func f) #[] #[])) J J J J J J<|cfw (fu:=⟨10⟩) J .nil .nil (hF k f hx) J<|cC J J J<|at_ (k+1) ⟨(by omega),(by omega)⟩
 .
  obtain rfl:k=fs.length:=by omega
  refine cl J (ZL (t:=ts fs.length) hb hs) J<|rz J J
def ts2(t u:Tr):Nat->Tr
 |0=>t
 |_=>u
def qo(V:List ah)(t:Tr):Tr:=p6 V (b8 V) t
def Fv(hV:mc V)(h:xe t):kg 54 (qo V t)/\(qo V t).Red []/\(qo V t).all (fun l=>BL l 26):=(O9 hV h).2
def YT(hE:EG GB ai al ae)(hV:mc V)(h:xe t):PF GB prog 41 [eU t, .sl (V.map eZ)] (.tp [eU (qo V t), .v .nilIface]):=
 UB hE hV h.x.lb h.x.ok h.bl (by decide) (by have:=h.dp;omega) (by have:=h.x.s;omega) (O9 hV h).1
def VG(hE:EG GB ai al ae)(hr:rp r)(hc:kw (r.map ZP.q)=true)(hV:mc (r.map ZP.q))(h:xe t):PF GB prog 9 [eA t,lD r] (.tp [eA (qo (r.map ZP.q) t), .v .nilIface]):=by
 have hx:=(Fv hV h).1;have hst:PF GB prog 40 [eA t,lD r, .sl [.v (.func (.func 41) #[] #[])]] (.tp [eA (qo (r.map ZP.q) t), .v .nilIface]):=aCw (fs:=[41]) (ts:=ts2 t (qo (r.map ZP.q) t)) h.x hr hc (fun k f hk=>by match k,hk with|0,hk=>cases hk;exact YT hE hV h|k+1,hk=>simp at hk) hx.lb (by have:=hx.s;show(qo (r.map ZP.q) t).size<=_;omega) (by simp);refine fn (fu:=⟨11⟩) func9 J J ntmps9 J J (fun C=>?_);refine Uj ⟨.o,1,some [.d (.v .nilFunc)],false⟩ J (by kernel_rfl) J<|cl J hst J<|rz J J
end Go.Sx
end
