import Derived.Test.YtjpdfobnjmflkaaGreatDoorMs19
import Derived.Shelf.SlSortCmp.NoneTotal
import Derived.Test.YtjpdfobnjmflkaaGreatDoorProg
import Derived.Shelf.SlicesQ.Reverse
set_option linter.all false
set_option maxHeartbeats 2000000
set_option maxRecDepth 100000
section
namespace Go.Sx
open Go Go.Proofs Tryz
variable {a i k:Nat}{q p:ah}{l v:List ah}{r:List ZP}
variable {GB:Gh}
def aEm[h:BN a i](hi:i<=1000000000:=by decide):PF GB prog 246 [dN a] (.v (.bool true)):=
 (S3 (ds:=dg a) (fH _).2.1 (by have:=jb (a:=a) hi;omega)).to (by unfold vB;rw[decide_eq_true (fH a).2.2])
def Sv{q:Rat}[hq:BQ q i](hi:i<=1000000:=by decide):PF GB prog 252 [eR q] (.v (.bool true)):=by
 have hd:=q.den_pos;have hdl:0<(dg q.den).length:=iW fun e=>by have:=vg.1 e;omega
 have hml:((dg q.den).map dU).length=(dg q.den).length:=aX ..;have hco:Nat.gcd q.num.natAbs q.den=1:=q.reduced;refine fn func252 J J ntmps252 J J (fun C=>?_);refine cl (fu:=⟨0⟩) J (CQ (m:=q.num) (i:=i) (h:=⟨hq.hn⟩) (by omega)) J<|mn 5 J<|gx J<|cl (fu:=⟨0⟩) J (aEm (a:=q.den) (i:=i) (h:=⟨hq.hd⟩) (by omega)) J<|mn 10 J<|gx (fu:=⟨6⟩) J<|cB J (by show some (decide _)=some false;rw[decide_eq_false (by omega)]) J<|cl (fu:=⟨0⟩) J (Gl (a:=q.num.natAbs) (b:=q.den) (i:=i) (j:=i) (h:=⟨hq.hn⟩) (k:=⟨hq.hd⟩) (by omega) (by omega)) J<|aj 24 (.d (dN 1)) J (by rw[hco])<|gx J<|cl J (uw (a:=1) (i:=1) (h:=⟨by decide⟩)) J<|rz J J
def aBP[hp:aC p i](hi:i<=1000000:=by decide):PF GB prog 186 [n9 p] (.v (.bool true)):=by
 refine fn func186 J J ntmps186 J J (fun C=>?_);refine cl (fu:=⟨0⟩) J (Sv (q:=p.x) (i:=i) (by omega)) J<|mn 5 J<|gx J<|cl J (Sv (q:=p.y) (i:=i) (by omega)) J<|rz J J
def tu(l:List ah)(p:ah):Int:=match l.findIdx? (fun q=>decide (q.x=p.x/\q.y=p.y)) with
 |some i=>(i:Nat)
 |none=> -1
def EP(hx:l[k]? =some q)(h:(l.take k).all (fun q=>!decide (q.x=p.x/\q.y=p.y))=true)(hq:q.x=p.x/\q.y=p.y):tu l p=(k:Nat):=by
 have hk:=(aR.1 hx).1;have e:l.findIdx? (fun q=>decide (q.x=p.x/\q.y=p.y))=some k:=by
  rw[List.findIdx?_eq_some_iff_getElem];refine⟨hk,?_,fun j hj=>?_⟩
  .rw[(aR.1 hx).2];exact decide_eq_true hq
  .have:=dJ.1 h l[j] (by rw[List.mem_take_iff_getElem];exact⟨j,by omega,J⟩)
   simp at this⊢;intro a b;rcases this with k|k
   .exact k a
   .exact k b
 unfold tu;rw[e]
def aGT(h:l.all (fun q=>!decide (q.x=p.x/\q.y=p.y))=true):tu l p= -1:=by
 have e:l.findIdx? (fun q=>decide (q.x=p.x/\q.y=p.y))=none:=by
  rw[List.findIdx?_eq_none_iff];intro x hx;have:=dJ.1 h x hx;simp at this⊢;intro a b;rcases this with k|k
  .exact k a
  .exact k b
 unfold tu;rw[e]
def aAi{g:ah->Bool}(hx:l[k]? =some q)(h:(l.take k).all g=true)(hq:g q=true):(l.take (k+1)).all g=true:=by
 rw[dZ,hx,List.all_append,h];simp[hq]
def aDl[hp:aC p i](hl: ∀q∈l,aC q i)(hn:l.length<=100000)(hi:i<=1000000:=by decide):PF GB prog 188 [.sl (l.map eZ),eZ p] (vI (tu l p)):=by
 have hml:(l.map eZ).length=l.length:=aX ..;refine fn (fu:=⟨11⟩) func188 J J ntmps188 J J (fun C=>?_);refine aj 8 (.d (vI (l.length:Nat))) J (by rw[hml]<;>rfl)<|gx J<|lp (X:=Nat) (fun k=>[(9, .d (vI (k:Nat)))]) (fun k=>[]) (fun k=>k<=l.length/\(l.take k).all (fun q=>!decide (q.x=p.x/\q.y=p.y))=true) (fun k=>l.length-k) 0 J ⟨aM _,J⟩ (fun _=>J) (fun k hk=>?_);obtain⟨hk,hall⟩:=hk;refine br J J J (fun hc10=>?_) (fun hc10=>?_)
 .
  obtain⟨q,hx⟩: ∃u,l[k]? =some u:=⟨_,aZ (by omega)⟩;haveI:=hl q (aK hx);refine ix _ J (ck hx) J<|cl J (MY (p:=q) (q:=p) (i:=i) hi) J<|bd J J J (fun hc16=>?_) (fun hc16=>?_)
  .
   exact rz J (by rw[EP hx hall hc16];rfl)
  .
   exact at_ (k+1) ⟨⟨by omega,aAi hx hall (by rw[decide_eq_false hc16];rfl)⟩,(by omega)⟩
 .
  obtain rfl:k=l.length:=by omega
  rw[cS] at hall;exact rz J (by rw[aGT hall];rfl)
def fw(l:List ah):Nat->Nat
 |0=>0
 |k+1=>fw l k+if tu l (l.getD k ⟨0,0⟩)=(k:Nat) then 1 else 0
def ks(l:List ah)(k:Nat):Nat:=if 3<=fw l k then 3 else fw l k
def YG(h:ks l k<3)(e:fw l (k+1)=fw l k+1):((ks l k:Nat):Int)+1=((ks l (k+1):Nat):Int):=by
 have a:ks l k=if 3<=fw l k then 3 else fw l k:=J
 have b:ks l (k+1)=if 3<=fw l (k+1) then 3 else fw l (k+1):=J
 split at a<;>split at b<;>omega
def LY(h: ¬ks l k<3\/fw l (k+1)=fw l k)(m:fw l k<=fw l (k+1)):((ks l k:Nat):Int)=((ks l (k+1):Nat):Int):=by
 have a:ks l k=if 3<=fw l k then 3 else fw l k:=J
 have b:ks l (k+1)=if 3<=fw l (k+1) then 3 else fw l (k+1):=J
 split at a<;>split at b<;>omega
def Xo(l:List ah)(k:Nat):ks l k<=3:=by unfold ks;split<;>omega
def azW(h:3<=fw l k):ks l k=3:=by unfold ks;rw[if_pos h]
def DN(hx:l[k]? =some p)(h:tu l p=(k:Nat)):fw l (k+1)=fw l k+1:=by
 rw[fw,aV,hx,lU,if_pos h]
def Zx(hx:l[k]? =some p)(h: ¬tu l p=(k:Nat)):fw l (k+1)=fw l k:=by
 rw[fw,aV,hx,lU,if_neg h];rfl
def QR:fw l k<=fw l (k+1):=by rw[fw];split<;>omega
def WM(h:v[k]? =some p):((v.take k).map eZ)++[eZ p]=(v.take (k+1)).map eZ:=by
 rw[dZ,h,aS];rfl
def Xm(h:eD r)(hk:k<r.length):decide ((r.getD k (0,0)).q.x=(i7 r k).q.x/\(r.getD k (0,0)).q.y=(i7 r k).q.y)=false:=decide_eq_false fun e=>h.ne k hk (DQ (by
 obtain⟨e1,e2⟩:=e;generalize (r.getD k (0,0)).q=a at*;generalize (i7 r k).q=b at*
 cases a;cases b
 simp only[ah.mk.injEq];exact⟨e1,e2⟩))
def Zh(h:eD r)(h3:3<=fw (r.map ZP.q) (r.map ZP.q).length):PF GB prog 120 [lz r] (.tp [.sl ((r.map ZP.q).map eZ), .v .nilIface]):=by
 have hn:=h.n6;obtain⟨v,hv⟩: ∃v,v=r.map ZP.q:=⟨_,rfl⟩;have hvl:v.length=r.length:=by rw[hv,aX]
 have hb: ∀p∈v,aC p 22:=fun p hp=>by rw[hv] at hp;obtain⟨z,hz,rfl⟩:=aT.1 hp;exact F6 (h.le z hz)
 unfold lz;rw[<-hv] at h3⊢;have hm1:(v.map n9).length=v.length:=aX ..;have hm2:(v.map eZ).length=v.length:=aX ..;have hrl:(mC v).length=v.length:=by unfold mC;rw[aX,kV]
 refine IR (fu:=⟨11⟩) func120 J J ntmps120 J J (fun C h0=>?_);refine aj 13 (.d (vI (v.length:Nat))) J (by rw[hm1]<;>rfl)<|gx (fu:=⟨0⟩) J<|cB (fu:=⟨15⟩) J (by show some (decide _)=some false;rw[decide_eq_false (by omega)]) J<|aj 20 (.d (vI (v.length:Nat))) J (by rw[hm1]<;>rfl)<|gx J<|nr 4 4 160 6 J J J<|lp (X:=Nat) (fun k=>[(21, .d (vI (k:Nat))),(4, .rw 4)]) (fun k=>[(4,some (.b 160 6 ((v.take k).map eZ) true))]) (fun k=>k<=v.length) (fun k=>v.length-k) 0 J (aM _) (fun _=>J) (fun k hk=>?_);have hm3:((v.take k).map eZ).length<=k:=by rw[aX,bT];omega
 refine br (fu2:=⟨0⟩) J J J (fun hc22=>?_) (fun hc22=>?_)
 .
  obtain⟨p,hx⟩: ∃u,v[k]? =some u:=⟨_,aZ (by omega)⟩;haveI:=hb p (aK hx);refine ix _ J (ck hx) J<|cl (fu:=⟨0⟩) J (aBP (p:=p) (i:=22)) J<|mn 27 J<|gx J<|cl J (WJ (p:=p) (i:=22)) J<|rf J J<|ap ((v.take (k+1)).map eZ) J (WM hx) (YK [p]) J<|d8 41 4 J<|at_ (k+1) ⟨(by omega),(by omega)⟩
 .
  obtain rfl:k=v.length:=by omega
  rw[cS];refine oe 4 J<|gx (fu:=⟨15⟩) J<|aj 44 (.d (vI (v.length:Nat))) J (by rw[hm2]<;>rfl)<|gx J<|lp (X:=Nat) (fun k=>[(45, .d (vI (k:Nat))),(7, .d (vI ((ks v k):Nat)))]) (fun k=>[]) (fun k=>k<=v.length) (fun k=>v.length-k) 0 J (aM _) (fun _=>J) (fun k hk=>?_);have hdm:=Xo v k;refine br (fu2:=⟨9⟩) J J J (fun hc46=>?_) (fun hc46=>?_)
  .
   obtain⟨p,hx⟩: ∃u,v[k]? =some u:=⟨_,aZ (by omega)⟩;haveI:=hb p (aK hx);have hcm:=QR (l:=v) (k:=k);refine ix _ J (ck hx) J<|cs 52 J J J (fun hg52=>?_) (fun hg52=>?_)
   .
    refine cl J (aDl (l:=v) (p:=p) (i:=22) hb (by omega)) J<|br J J J (fun hc58=>?_) (fun hc58=>?_)
    .
     have he7:=YG (by omega) (DN hx (by omega));refine aj 7 (.d (vI (ks v (k+1):Nat))) J (by rw[he7]<;>rfl)<|at_ (k+1) ⟨(by omega),(by omega)⟩
    .
     have he7:=LY (.inr (Zx hx (by omega))) hcm;refine aj 7 (.d (vI (ks v (k+1):Nat))) J (by rw[he7]<;>rfl)<|at_ (k+1) ⟨(by omega),(by omega)⟩
   .
    have he7:=LY (l:=v) (k:=k) (.inl (by omega)) hcm;refine aj 7 (.d (vI (ks v (k+1):Nat))) J (by rw[he7]<;>rfl)<|at_ (k+1) ⟨(by omega),(by omega)⟩
  .
   obtain rfl:k=v.length:=by omega
   have hd3:=azW h3;refine cB (fu:=⟨9⟩) J (by show some (decide _)=some false;rw[decide_eq_false (by omega)]) J<|GQ J J J Hd (fun _=>J) (fun GB1 pv hg1 hpv=>?_);refine ya 2 2000002 h0.fx J<|ya 3 2000003 h0.fx J ?_;refine Gg (σ:=Empty) (fun _=>[(2000002,some (.o 123 [.nl] true)),(2000003,some (.o 33 [.d (.v .nilIface)] true))]) (fun _=>True) (fun _=>[]) (fun _=>False) [(2, .ov 2000002 0),(3, .ov 2000003 0),(4, .d (.sl (v.map eZ)))] h0 J (F8) (.cons hpv .nil) ⟨J,J,J,trivial⟩ J ⟨J,J,trivial⟩ trivial Ir J J (fun k e GB' hE hg hp=>?_) (fun D hD hx hp=>?_) (fun D s hD hx hq=>hq.elim)
   .obtain⟨p,q,hpx,hqx,rfl⟩:=JA hE
    rw[hvl] at hqx;rw[hv] at hpx hqx;obtain⟨hk,rfl⟩:=Sk hpx;obtain⟨hk2,rfl⟩:=Sk hqx;haveI:=F6 (h.le _ (uI hk));haveI:=F6 (h.le _ (wZ hk));have hne:=Xm h hk;refine⟨?_,?_,fun C2=>?_,fun C2=>?_⟩
    rotate_left 2
    .refine gx J<|He J J J ⟨J,J,J⟩ J ?_
     exact atR
    .refine gx J<|n7 0 (e:=160) (len:=2) (s:=6) J (by kernel_rfl) (by kernel_rfl) (by decide) J<|n7 1 (e:=160) (len:=2) (s:=6) J (by kernel_rfl) (by kernel_rfl) (by decide) J<|cl J (MY (p:=(r.getD k (0,0)).q) (q:=(i7 r k).q) (i:=22)) J<|bd J J J (fun hc=>absurd (decide_eq_true hc) (by rw[hne];decide)) (fun hc=>?_)
     exact rq trivial ⟨J,J,trivial⟩
   .refine gx J<|?_
    exact DS hD hx J J
structure s6 (r:List ZP):Prop where
 ok:eD r
 c3:3<=fw (r.map ZP.q) (r.map ZP.q).length




section
variable {α:Type}[Inhabited α]
end

end Go.Sx
end
section
namespace Go.Proofs
open Go.Shelf

end Go.Proofs
end
section
namespace Go.Sx
open Go Go.Proofs Tryz
variable {GB:Gh}{t u:Tr}{r:List ZP}{p n q:ah}{L ls:List aa}{C:aE}{Q0:Exit->Act->World->Prop}{fr fr' fr1 fr2:aD}{own' own1 own2:aI}{cf cf' cf1 cf2:Cf}{vc vc1 vc2:List Prop}{R g x m:Rat}{i j k kb k0:Nat}{l v V:List ah}{s:bw}{ai al ae:Addr}{z:Int}





def aJw{a:ah}{t:List ah}:tu (a::t) a=((0:Nat):Int):=EP (k:=0) (q:=a) J J ⟨J,J⟩
def Wv{a b c:ah}{t:List ah}(h1:a≠b)(h2:a≠c)(h3:b≠c):3<=fw (a::b::c::t) (a::b::c::t).length:=by
 have ne: ∀{x y:ah},x≠y->(!decide (x.x=y.x/\x.y=y.y))=true:=fun{x y} h=>by
  rw[decide_eq_false (fun k=>h (by cases x;cases y;simp only[ah.mk.injEq] at*;exact k))];rfl
 have e0:=DN (l:=a::b::c::t) (k:=0) (p:=a) J aJw;have e1:=DN (l:=a::b::c::t) (k:=1) (p:=b) J (EP (k:=1) (q:=b) J (by simp only[List.take,sN,List.all_nil,Bool.and_true,ne h1]) ⟨J,J⟩);have e2:=DN (l:=a::b::c::t) (k:=2) (p:=c) J (EP (k:=2) (q:=c) J (by simp only[List.take,sN,List.all_nil,Bool.and_true,ne h2,ne h3]) ⟨J,J⟩);have mono: ∀n m,n<=m->fw (a::b::c::t) n<=fw (a::b::c::t) m:=by
  intro n m h
  induction m with
  |zero=>rw[show n=0 by omega];exact bK _
  |succ m ih=>
   by_cases k:n=m+1
   .rw[k];exact bK _
   .exact cM (ih (by omega)) QR
 have:=mono 3 (a::b::c::t).length (by simp);have z:fw (a::b::c::t) 0=0:=J;rw[eY] at e0;rw[show 1+1=2 from J] at e1;rw[show 2+1=3 from J] at e2;omega
def I7{a b c:ZP}{t:List ZP}(ho:eD (a::b::c::t))(h1:a≠b)(h2:a≠c)(h3:b≠c):s6 (a::b::c::t):=
 ⟨ho,Wv (t:=t.map ZP.q) (fun e=>h1 (DQ e)) (fun e=>h2 (DQ e)) (fun e=>h3 (DQ e))⟩
def SU{a b c d:Int}(ho:eD (eg a b c d))(h1:a<c)(h2:b<d):s6 (eg a b c d):=
 I7 ho (fun e=>by have:=congrArg Prod.fst e;dsimp only at this;omega) (fun e=>by have:=congrArg Prod.fst e;dsimp only at this;omega) (fun e=>by have:=congrArg Prod.snd e;dsimp only at this;omega)
def aHS{p u v:ZP}(ho:eD (gp p u v))(h:jv u v≠0):s6 (gp p u v):=by
 have hu: ∀{a b:ZP},(a=(0,0)\/b=(0,0)\/a=b)->jv a b=0:=fun{a b} k=>by
  unfold jv;rcases k with rfl|rfl|rfl
  .simp
  .simp
  .rw[rR];omega
 refine I7 ho (fun e=>h (hu (.inl ?_))) (fun e=>h (hu (.inr (.inl ?_)))) (fun e=>h (hu (.inr (.inr ?_))))
 .have e1:=congrArg Prod.fst e
  have e2:=congrArg Prod.snd e;unfold j0 at e1 e2;dsimp only at e1 e2;exact Prod.ext (by dsimp only;omega) (by dsimp only;omega)
 .have e1:=congrArg Prod.fst e
  have e2:=congrArg Prod.snd e;unfold j0 at e1 e2;dsimp only at e1 e2;exact Prod.ext (by dsimp only;omega) (by dsimp only;omega)
 .have e1:=congrArg Prod.fst e
  have e2:=congrArg Prod.snd e;unfold j0 at e1 e2;dsimp only at e1 e2;exact Prod.ext (by omega) (by omega)
def aEx{es:List Int}{a:Nat}(ha:a<=es.length):s6 (gn es a).1:=by
 have hok:=(A5 ha).1;unfold gn at*;dsimp only at*;split
 .rename_i h
  rw[if_pos h] at hok;unfold zk at*;dsimp only at*;exact SU hok (by omega) (by omega)
 .rename_i h
  rw[if_neg h] at hok;dsimp only at*;split
  .rename_i k
   rw[if_pos k] at hok;exact aHS hok (by omega)
  .exact I7 NG (by decide) (by decide) (by decide)







section
end





section
variable {n:Nat}{own:aI}
end





def GA{a D:Rat}(hg:g≠0)(hR:R*D=g)(ha:a*D=x):a*R⁻¹=x*g⁻¹:=by
 have h1:g*g⁻¹=1:=Rat.mul_inv_cancel g hg;have hR0:R≠0:=fun e=>hg (by rw[<-hR,e];grind);have h2:R*R⁻¹=1:=Rat.mul_inv_cancel R hR0;generalize R⁻¹=r at*;generalize g⁻¹=s at*;have:r=D*s:=by
  have h3:R*(r-D*s)=0:=by grind
  have:=(fK.1 h3).resolve_left hR0;grind
 grind
def Wf{a b c:Rat}(h0: ¬(a=0/\b=0)):a*(rgcd (rgcd a b) c)⁻¹=((dC a b c).a:Rat)/\b*(rgcd (rgcd a b) c)⁻¹=((dC a b c).b:Rat)/\c*(rgcd (rgcd a b) c)⁻¹=((dC a b c).c:Rat):=by
 obtain⟨k1,k2,k3⟩:=J' a b c;have hn:=CH (c:=c) h0;have hD:=M6 a b c;have hr:=OQ hD (OQ hD k1 k2) k3;unfold dC;generalize a.num*(b.den*c.den:Nat)=x at*;generalize b.num*(a.den*c.den:Nat)=y at*;generalize c.num*(a.den*b.den:Nat)=z at*;rw[fW] at hr;have hgn:Nat.gcd x.natAbs y.natAbs≠0:=fun h=>hn ⟨kU.1 (mJ h),kU.1 (mQ h)⟩;have hgp:0<Nat.gcd (Nat.gcd x.natAbs y.natAbs) z.natAbs:=mR _ (iW hgn);have hg:(((Nat.gcd (Nat.gcd x.natAbs y.natAbs) z.natAbs:Nat):Int):Rat)≠0:=fun e=>by
  have:((Nat.gcd (Nat.gcd x.natAbs y.natAbs) z.natAbs:Nat):Int)=0:=by exact_mod_cast e
  omega
 refine⟨?_,?_,?_⟩
 .rw[GA hg hr k1];exact IE hgp (qS (kL _ _) (kL _ _))
 .rw[GA hg hr k2];exact IE hgp (qS (kL _ _) (lM _ _))
 .rw[GA hg hr k3];exact IE hgp (lM _ _)
def PL{a b c:Rat}[ha:BQ a 62][hb:BQ b 62][hc:BQ c 62](h0: ¬(a=0/\b=0)):PF GB prog 124 [eF a,eF b,eF c] (.tp [cP (dC a b c),vB true]):=by
 obtain⟨e1,e2,e3⟩:=Wf (c:=c) h0;haveI:BQ (rgcd a b) 260:=BQ.mono (inferInstance:BQ (rgcd a b) _);haveI:BQ (rgcd (rgcd a b) c) 700:=BQ.mono (inferInstance:BQ (rgcd (rgcd a b) c) _);haveI:BQ (rgcd (rgcd a b) c)⁻¹ 700:=BQ.mono (inferInstance:BQ (rgcd (rgcd a b) c)⁻¹ _);have hl4:([((dC a b c).a:Rat),((dC a b c).b:Rat),((dC a b c).c:Rat)].map eF).length=3:=J;have hl3:[((dC a b c).a:Rat),((dC a b c).b:Rat),((dC a b c).c:Rat)].length=3:=J;refine fn func124 J J ntmps124 J J (fun C=>?_);refine cl J (Au (q:=a)) J<|csd 11 J J J (fun hg11=>?_) (fun hg11=>?_)
 .
  refine cl J (Au (q:=b)) J<|bd J J J (fun hc14=>?_) (fun hc14=>?_)
  .
   exact absurd ⟨hg11,hc14⟩ h0
  .
   refine cl rfl (ui (p:=a) (q:=b) (i:=62) (j:=62)) rfl<|cl rfl (ui (p:=rgcd a b) (q:=c) (i:=260) (j:=62)) rfl<|cl rfl (Ii (q:=rgcd (rgcd a b) c) (i:=700)) rfl<|ro (fu:=⟨0⟩) J J<|cq (hv:=by simp only[ak];exact⟨by kernel_rfl,by omega⟩) ([((dC a b c).a:Rat),((dC a b c).b:Rat),((dC a b c).c:Rat)].map eF) rfl (MN (L:=[a,b,c]) (k:=(rgcd (rgcd a b) c)⁻¹) (i:=700) (by intro q hq;simp only[aW,dT,or_false] at hq;rcases hq with rfl|rfl|rfl;exact yw ha;exact yw hb;exact yw hc) (by intro q hq;simp only[aW,dT,or_false] at hq;rcases hq with rfl|rfl|rfl;exact ha.mono (by decide);exact hb.mono (by decide);exact hc.mono (by decide)) (nb rfl)) (by simp only[bU,iZ,e1,e2,e3]) rfl<|lb _ J J J<|lb _ J J J<|lb _ J J J<|rz J J
 .
  refine cl rfl (ui (p:=a) (q:=b) (i:=62) (j:=62)) rfl<|cl rfl (ui (p:=rgcd a b) (q:=c) (i:=260) (j:=62)) rfl<|cl rfl (Ii (q:=rgcd (rgcd a b) c) (i:=700)) rfl<|ro (fu:=⟨0⟩) J J<|cq (hv:=by simp only[ak];exact⟨by kernel_rfl,by omega⟩) ([((dC a b c).a:Rat),((dC a b c).b:Rat),((dC a b c).c:Rat)].map eF) rfl (MN (L:=[a,b,c]) (k:=(rgcd (rgcd a b) c)⁻¹) (i:=700) (by intro q hq;simp only[aW,dT,or_false] at hq;rcases hq with rfl|rfl|rfl;exact yw ha;exact yw hb;exact yw hc) (by intro q hq;simp only[aW,dT,or_false] at hq;rcases hq with rfl|rfl|rfl;exact ha.mono (by decide);exact hb.mono (by decide);exact hc.mono (by decide)) (nb rfl)) (by simp only[bU,iZ,e1,e2,e3]) rfl<|lb _ J J J<|lb _ J J J<|lb _ J J J<|rz J J
def y4{a b c:Rat}(ha:BQ a i)(hb:BQ b j)(hc:BQ c k):(a.num*(b.den*c.den:Nat)).natAbs<2^(i+(j+k)):=by
 rw[fV,fW];exact me ha.hn (me hb.hd hc.hd)
theorem aFr[hp:aC p 5][hq:aC q 5]:LB (fE p q):=by
 have h1:BQ (p.y-q.y) 11:=inferInstance;have h2:BQ (q.x-p.x) 11:=inferInstance;have h3:BQ (-((p.y-q.y)*p.x+(q.x-p.x)*p.y)) 33:=inferInstance;unfold fE dC;obtain⟨k1,k2,k3⟩:=yz ((p.y-q.y).num*((q.x-p.x).den*(-((p.y-q.y)*p.x+(q.x-p.x)*p.y)).den:Nat)) ((q.x-p.x).num*((p.y-q.y).den*(-((p.y-q.y)*p.x+(q.x-p.x)*p.y)).den:Nat)) ((-((p.y-q.y)*p.x+(q.x-p.x)*p.y)).num*((p.y-q.y).den*(q.x-p.x).den:Nat));have pw:(2:Nat)^(11+(11+33))<=2^96:=bW (by decide) (by decide);have Qm:(2:Nat)^(33+(11+11))<=2^96:=bW (by decide) (by decide);exact⟨⟨eX k1 (cN (y4 h1 h2 h3) pw),eX k2 (cN (y4 h2 h1 h3) pw),eX k3 (cN (y4 h3 h1 h2) Qm)⟩⟩
def aAo{a b c:ah}[ha:aC a i][hb:aC b j][hc:aC c k](hi:i<=80000:=by decide)(hj:j<=80000:=by decide)(hk:k<=80000:=by decide):PF GB prog 190 [eZ a,eZ b,eZ c] (vI (bI a b c).num.sign):=by
 haveI h1:=CZ b a;haveI h2:=CZ c a;have e:(⟨b.x-a.x,b.y-a.y⟩:ah).cross ⟨c.x-a.x,c.y-a.y⟩=bI a b c:=by unfold ah.cross bI;grind
 refine fn func190 J J ntmps190 J J (fun C=>?_);refine cl J (IS (p:=b) (q:=a) (i:=j) (j:=i) (by omega) (by omega)) J<|cl J (IS (p:=c) (q:=a) (i:=k) (j:=i) (by omega) (by omega)) J<|cl J (Cs (p:=⟨b.x-a.x,b.y-a.y⟩) (q:=⟨c.x-a.x,c.y-a.y⟩) (i:=j+i+1) (j:=k+i+1) (hp:=h1) (hq:=h2) (by omega) (by omega)) J<|cl J (mc (q:=(⟨b.x-a.x,b.y-a.y⟩:ah).cross ⟨c.x-a.x,c.y-a.y⟩) (h:= @BQ.cross _ _ _ _ h1 h2) (by omega)) J<|rz J (by rw[e]<;>rfl)
def qf(n p:ah)(t:List ah)(k:Nat):Rat:=(t.take k).foldl (fun b q=>if n.dot q<b then n.dot q else b) (n.dot p)
def Rj{t:List ah}(h:t[k]? =some q):qf n p t (k+1)=if n.dot q<qf n p t k then n.dot q else qf n p t k:=by
 unfold qf;rw[dZ,h];simp only[kR,lN,iK,List.foldl_nil]
theorem Da{n p:ah}{t:List ah}{i j:Nat}[hn:aC n i](hb: ∀q∈p::t,aC q j): ∀k,BQ (qf n p t k) (i+j+(i+j)+1)
 |0=>by
  haveI:=hb p aQ;exact(inferInstance:BQ (n.dot p) _)
 |k+1=>by
  cases h:t[k]? with
  |none=>
   have e:qf n p t (k+1)=qf n p t k:=by
    unfold qf;rw[dZ,h];simp
   rw[e];exact Da hb k
  |some q=>
   rw[Rj h];haveI:=hb q (aJ _ (aK h));split
   .exact(inferInstance:BQ (n.dot q) _)
   .exact Da hb k
theorem PS[aC n i](hb: ∀q∈l,aC q j)(hne:l≠[]):BQ (i5 n l) (i+j+(i+j)+1):=by
 cases l with
 |nil=>exact absurd J hne
 |cons p t=>
  have:=Da (n:=n) (i:=i) hb t.length;unfold qf at this;rwa [cS] at this
def Dc(l:List ah):cO 6 (l.map eZ):=fun d hd=>by
 obtain⟨x,_,rfl⟩:=aT.1 hd;exact⟨J,J⟩
def LR[hn:aC n i](hb: ∀q∈l,aC q j)(hne:l≠[])(hi:i<=20000)(hj:j<=20000)(hk:l.length<=100000):PF GB prog 126 [eZ n, .sl (l.map eZ)] (eF (i5 n l)):=by
 obtain⟨p,t,rfl⟩: ∃p t,l=p::t:=by cases l with|nil=>exact absurd rfl hne|cons p t=>exact⟨p,t,rfl⟩
 have hml:((p::t).map eZ).length=t.length+1:=by simp
 have hml2:(t.map eZ).length=t.length:=aX ..;rw[bZ] at hk;have hp:=hb p aQ;obtain⟨S,hS⟩: ∃S,S=qf n p t:=⟨_,rfl⟩;have hSb: ∀k,BQ (S k) (i+j+(i+j)+1):=by rw[hS];exact Da hb
 have hS0:n.dot p=S 0:=by rw[hS];rfl
 refine fn func126 J J ntmps126 J J (fun C=>?_);refine ix _ J J J<|cl (fu:=⟨0⟩) J (uF (p:=n) (q:=p) (i:=i) (j:=j) (by omega) (by omega)) J<|aj 12 (.d (eF (S 0))) J (by rw[hS0])<|gx J<|kD (fu:=⟨1⟩) 1 (t.length+1) (t.map eZ) J J (by rw[hml]) (by rw[cZ (by rw[hml];exact bK _)];rfl) (Dc _) (by omega) (by omega) J<|aj 15 (.d (vI (t.length:Nat))) J (by rw[hml2]<;>rfl)<|gx J<|lp (X:=Nat) (fun k=>[(16, .d (vI (k:Nat))),(5, .ov 5 0)]) (fun k=>[(5,some (.o 158 [.d (vI (dm (S k))), .d (vI (dw (S k))), .d (dl (S k))] true))]) (fun k=>k<=t.length) (fun k=>t.length-k) 0 J (aM _) (fun _=>J) (fun k hk=>?_);haveI:=hSb k;refine br J J J (fun hc17=>?_) (fun hc17=>?_)
 .
  obtain⟨q,hx⟩: ∃u,t[k]? =some u:=⟨_,aZ (by omega)⟩;haveI:=hb q (aJ _ (aK hx));have eS:S (k+1)=if n.dot q<S k then n.dot q else S k:=by rw[hS];exact Rj hx
  refine ix _ J (ck hx) J<|cl J (uF (p:=n) (q:=q) (i:=i) (j:=j) (by omega) (by omega)) J<|cl (fu:=⟨0⟩) J (RH (p:=S k) (q:=n.dot q) (i:=i+j+(i+j)+1) (j:=i+j+(i+j)+1) (by omega) (by omega)) J<|aj 24 (.d (eF (S (k+1)))) J (by rw[eS])<|gx (hv:=by simp only[ak];exact⟨by kernel_rfl,by omega⟩) J<|at_ (k+1) ⟨(by omega),(by omega)⟩
 .
  obtain rfl:k=t.length:=by omega
  exact rz J (by rw[hS];unfold qf;rw[cS]<;>rfl)
def ZS:Option Rat->DV
 |some m=> .tp [eF m,vB true]
 |none=> .tp [.ag [vI 0,vI 0, .v (.pointer none)],vB false]
theorem MQ{c:ao}(hc:d9 c): ∀q∈jj c,aC q 3500:=fun q hq=>by
 rcases bJ.1 hq with h|h
 .obtain⟨s,hs,rfl⟩:=aT.1 h
  exact Tu (hc s hs)
 .have hlb: ∀l∈c.map (fun s=>s.l),LB l:=fun l hl=>by
   obtain⟨s,hs,rfl⟩:=aT.1 hl;exact(hc s hs).lb
  exact aC.mono (Mw hlb q h) (by decide)
def QN{c:ao}(h:c=[]\/tB n c=true):f7 c n=none:=by
 unfold f7;rw[if_pos];rcases h with h|h
 .rw[h];rfl
 .rw[h,sJ]
def Gz{c:ao}(hs:s∈c)(h:io n s=true):f7 c n=none:=by
 unfold f7;split
 .rfl
 .rw[if_pos (iJ.2 ⟨s,hs,h⟩)]
def Tk{c:ao}(h0:c≠[])(h1:tB n c=false)(h: ∀s∈c,io n s=false):f7 c n=some (i5 n (jj c)):=by
 unfold f7;have e:c.isEmpty=false:=by cases c with|nil=>exact absurd J h0|cons s t=>rfl
 rw[e,h1,if_neg (by decide),if_neg (fun k=>by obtain⟨s,hs,k⟩:=iJ.1 k;rw[h s hs] at k;cases k)]
def rD(c:ao):List ah:=c.map fun s=>s.l.at s.v.sample
def Ua{c:ao}(h:c[k]? =some s):((rD (c.take k)).map eZ)++[eZ (s.l.at s.v.sample)]=(rD (c.take (k+1))).map eZ:=by
 unfold rD;rw[dZ,h,aS,aS];rfl
def ayv{c:ao}(h:c.length≠1):tB n c=false:=by
 match c,h with
 |[],_=>rfl
 |[s],h=>exact absurd J h
 |_::_::_,_=>rfl
def Cp:x.num.sign<0↔x<0:=by
 rw[<-Rat.not_le,<-rM];constructor
 .intro h k
  rcases(show x.num=0\/0<x.num by omega) with e|e
  .rw[e] at h;exact absurd h (by decide)
  .rw[fT e] at h;omega
 .intro h
  rw[eK (by omega)];decide
def Zi:0<x.num↔0<x:=by
 constructor
 .intro h
  refine Rat.not_le.1 fun k=>?_;have h2:=rM.2 (show 0<= -x by grind);rw[oZ] at h2;omega
 .intro h
  have h1:=rM.2 (dQ h);have h2:x.num≠0:=fun e=>by rw[mX.1 e] at h;exact absurd h (by decide)
  omega
def DT:0<x.num.sign↔0<x:=by
 rw[<-Zi];constructor
 .intro h
  refine Decidable.not_not.1 fun k=>?_;rcases(show x.num=0\/x.num<0 by omega) with e|e
  .rw[e] at h;exact absurd h (by decide)
  .rw[eK e] at h;exact absurd h (by decide)
 .intro h
  rw[fT h];decide
def aKV(h:s.v.nh=true)(k:(s.l.dir.dot n).num.sign<0):io n s=true:=by
 unfold io;rw[h,decide_eq_true (Cp.1 k)];rfl
def RB(h:s.v.nl=true)(k:0<(s.l.dir.dot n).num.sign):io n s=true:=by
 unfold io;rw[h,decide_eq_true (DT.1 k),sL,sJ]
def CC(h1:s.v.nh=false\/ ¬(s.l.dir.dot n).num.sign<0)(h2:s.v.nl=false\/ ¬0<(s.l.dir.dot n).num.sign):io n s=false:=by
 unfold io;have e1:(s.v.nh&&decide (s.l.dir.dot n<0))=false:=by
  rcases h1 with h|h
  .rw[h];rfl
  .rw[decide_eq_false fun k=>h (Cp.2 k),Bool.and_false]
 have e2:(s.v.nl&&decide (0<s.l.dir.dot n))=false:=by
  rcases h2 with h|h
  .rw[h];rfl
  .rw[decide_eq_false fun k=>h (DT.2 k),Bool.and_false]
 rw[e1,e2];rfl
def UZ{c:ao}(h:c[k]? =some s)(hk: ∀s∈c.take k,io n s=false)(hs:io n s=false): ∀s∈c.take (k+1),io n s=false:=fun u hu=>by
 rw[dZ,h] at hu;rcases bJ.1 hu with hu|hu
 .exact hk u hu
 .rw[show u=s by simpa using hu];exact hs
def Nv{c:ao}(h:c≠[]):jj c≠[]:=fun e=>h (by
 have:=(List.append_eq_nil_iff.1 e).1;exact tU.1 this)
def WN(c:ao)(h:c.length<=20000):(jj c).length<=100000:=by
 unfold jj;have:=Kw (c.map (·.l));rw[aY,aX];rw[aX] at this;omega
def PH{c:ao}[hn:aC n j](hc:d9 c)(hj:j<=10000)(hk:c.length<=20000):PF GB prog 130 [eC c,eZ n] (ZS (f7 c n)):=by
 have hml:(c.map dd).length=c.length:=aX ..;have hback: ∀s,c[0]? =some s->c.length=1->tB n c=decide (s.l.nor.dot n<0):=fun s h1 h2=>by match c,h1,h2 with|[u],h1,_=>cases h1;rfl
 refine fn (fu:=⟨8⟩) func130 J J ntmps130 J J (fun C=>?_);refine mg (X:=Unit) (fun _=>[]) (fun _=>[]) (fun _=>c≠[]/\tB n c=false) [] [] rfl ?_ (fun _=>J) (fun _ hm=>?_)
 .
  refine gx (fu:=⟨4⟩) J<|aj 11 (.d (vI (c.length:Nat))) J (by rw[hml]<;>rfl)<|gx (fu:=⟨0⟩) J<|kj (v1:=fun hg12=>by simp only[ak];kernel_rfl) (fu2:=⟨3⟩) J J J J (fun hg12=>?_) (fun hg12=>?_)
  .
   exact rz J (by rw[QN (.inl (cV (by omega)))]<;>rfl)
  .
   have hc0:c≠[]:=fun e=>hg12 (by rw[e];rfl);refine aj 15 (.d (vI (c.length:Nat))) J (by rw[hml]<;>rfl)<|gx (fu:=⟨0⟩) J<|kj (v2:=fun hg16=>by simp only[ak];kernel_rfl) J J J J (fun hg16=>?_) (fun hg16=>?_)
   .
    obtain⟨s,hx⟩: ∃s,c[0]? =some s:=⟨_,aZ (by omega)⟩;have hbe:=hback s hx (by omega);haveI:=(hc s (aK hx)).lb;haveI:=(hc s (aK hx)).v.lo;haveI:=(hc s (aK hx)).v.hi;refine ix _ J (JG hx) J<|cl J (wz (l:=s.l)) J<|cl J (uF (p:=s.l.nor) (q:=n) (i:=97) (j:=j) (by decide) (by omega)) J<|cl J (mc (q:=s.l.nor.dot n) (by omega)) J<|br J J J (fun hc28=>?_) (fun hc28=>?_)
    .
     exact rz J (by rw[QN (.inr (by rw[hbe];exact decide_eq_true (Cp.1 hc28)))]<;>rfl)
    .
     exact at_ () ⟨hc0,by rw[hbe];exact decide_eq_false fun k=>hc28 (Cp.2 k)⟩
   .
    exact at_ () ⟨hc0,ayv (by omega)⟩
 .
  obtain⟨hne,hbk⟩:=hm;refine nr 6 6 160 6 J J J<|lp (X:=Nat) (fun k=>[(32, .d (vI (k:Nat))),(6, .rw 6)]) (fun k=>[(6,some (.b 160 6 ((rD (c.take k)).map eZ) true))]) (fun k=>k<=c.length/\ ∀s∈c.take k,io n s=false) (fun k=>c.length-k) 0 J ⟨aM _,fun s hs=>by simp at hs⟩ (fun _=>J) (fun k hk=>?_);obtain⟨hk1,hk2⟩:=hk;have hm4:(rD (c.take k)).length<=k:=by unfold rD;rw[aX,bT];omega
  have hm3:((rD (c.take k)).map eZ).length<=k:=by rw[aX];exact hm4
  refine br J J J (fun hc33=>?_) (fun hc33=>?_)
  .
   obtain⟨s,hx⟩: ∃u,c[k]? =some u:=⟨_,aZ (by omega)⟩;haveI:=(hc s (aK hx)).lb;haveI:=(hc s (aK hx)).v.lo;haveI:=(hc s (aK hx)).v.hi;refine ix _ J (ck hx) J<|cl J (vK (l:=s.l)) J<|cl J (uF (p:=s.l.dir) (q:=n) (i:=97) (j:=j) (by decide) (by omega)) J<|cl (fu:=⟨4⟩) J (mc (q:=s.l.dir.dot n) (by omega)) J<|mg (X:=Unit) (fun _=>[]) (fun _=>[]) (fun _=>io n s=false) [] [] rfl ?_ (fun _=>J) (fun _ hop=>?_)
   .
    refine gx J<|iC 45 J J J (fun hg45=>?_) (fun hg45=>?_)
    .
     refine cs 49 J J J (fun hg49=>?_) (fun hg49=>?_)
     .
      exact rz J (by rw[Gz (aK hx) (aKV hg45 hg49)]<;>rfl)
     .
      refine iC 53 J J J (fun hg53=>?_) (fun hg53=>?_)
      .
       refine br J J J (fun hc57=>?_) (fun hc57=>?_)
       .
        exact rz J (by rw[Gz (aK hx) (RB hg53 hc57)]<;>rfl)
       .
        exact at_ () (CC (.inr hg49) (.inr hc57))
      .
       exact at_ () (CC (.inr hg49) (.inl hg53))
    .
     refine iC 53 J J J (fun hg53=>?_) (fun hg53=>?_)
     .
      refine br J J J (fun hc57=>?_) (fun hc57=>?_)
      .
       exact rz J (by rw[Gz (aK hx) (RB hg53 hc57)]<;>rfl)
      .
       exact at_ () (CC (.inl hg45) (.inr hc57))
     .
      exact at_ () (CC (.inl hg45) (.inl hg53))
   .
    refine cl J (RZ (v:=s.v) (i:=1200)) J<|cl J (Ml (l:=s.l) (t:=s.v.sample)) J<|rf J J<|ap (hv:=by simp only[ak];exact⟨by kernel_rfl,by omega⟩) ((rD (c.take (k+1))).map eZ) J (Ua hx) (Dc [_]) J<|d8 67 6 J<|at_ (k+1) ⟨⟨by omega,UZ hx hk2 hop⟩,(by omega)⟩
  .
   obtain rfl:k=c.length:=by omega
   rw[cS] at hk2⊢;have hm5:(rD c).length=c.length:=aX ..;have hm6:=Kw (c.map (·.l));rw[aX] at hm6;refine cl J (aEn (c:=c) (fun s hs=>(hc s hs).lb) (by omega)) J<|jC ((jj c).map eZ) J (by unfold jj rD;rw[aS]<;>rfl) (Dc _) J<|cl J (LR (n:=n) (l:=jj c) (i:=j) (j:=3500) (MQ hc) (Nv hne) (by omega) (by decide) (WN c (by omega))) J<|rz J (by rw[Tk hne hbk hk2]<;>rfl)
def UU{c:ao}[hn:aC n j](hc:d9 c)(hj:j<=10000)(hk:c.length<=20000)(h:f7 c n=some m):PF GB prog 130 [eC c,eZ n] (.tp [eF m, .v (.bool true)]):=by
 have:=PH (GB:=GB) (n:=n) hc hj hk;rw[h] at this;exact this
def Wx{c:ao}[hn:aC n j](hc:d9 c)(hj:j<=10000)(hk:c.length<=20000)(h:f7 c n=none):PF GB prog 130 [eC c,eZ n] (.tp [.ag [vI 0,vI 0, .v (.pointer none)], .v (.bool false)]):=by
 have:=PH (GB:=GB) (n:=n) hc hj hk;rw[h] at this;exact this
def ayf(h:l[k]? =some q):(((l.take k).map bF).map eZ)++[eZ (bF q)]=((l.take (k+1)).map bF).map eZ:=by
 rw[dZ,h,aS,aS];rfl
def Wo(hb: ∀q∈l,aC q j)(hj:j<=20000)(hk:l.length<=100000):PF GB prog 99 [.sl (l.map eZ)] (.sl ((l.map bF).map eZ)):=by
 have hml:(l.map eZ).length=l.length:=aX ..;refine fn (fu:=⟨15⟩) func99 J J ntmps99 J J (fun C=>?_);refine aj 7 (.d (vI (l.length:Nat))) J (by rw[hml]<;>rfl)<|gx J<|nr 3 3 160 6 J J J<|lp (X:=Nat) (fun k=>[(8, .d (vI (k:Nat))),(3, .rw 3)]) (fun k=>[(3,some (.b 160 6 (((l.take k).map bF).map eZ) true))]) (fun k=>k<=l.length) (fun k=>l.length-k) 0 J (aM _) (fun _=>J) (fun k hk=>?_);have hm3:(((l.take k).map bF).map eZ).length<=k:=by rw[aX,aX,bT];omega
 refine br J J J (fun hc9=>?_) (fun hc9=>?_)
 .
  obtain⟨q,hx⟩: ∃u,l[k]? =some u:=⟨_,aZ (by omega)⟩;haveI:=hb q (aK hx);refine ix _ J (ck hx) J<|cl J (aGC (p:=q) (i:=j) (by omega)) J<|rf J J<|ap ((((l.take (k+1)).map bF)).map eZ) J (ayf hx) (Dc [_]) J<|d8 16 3 J<|at_ (k+1) ⟨(by omega),(by omega)⟩
 .
  obtain rfl:k=l.length:=by omega
  rw[cS];refine gm 3 J<|rz J J
def EZ{P:Nat->Prop}(h: ∀i<k,P i)(hk:P k): ∀i<k+1,P i:=fun i hi=>by
 rcases Nat.lt_succ_iff_lt_or_eq.1 hi with h1|h1
 .exact h i h1
 .rw[h1];exact hk
def aEE(hb: ∀u∈v,aC u i)(hi:i<=80000)(hn:v.length<=100000):PF GB prog 121 [.sl (v.map eZ)] (vB (kI v)):=by
 have hrl:(mC v).length=v.length:=by unfold mC;rw[aX,kV]
 have hml:(v.map eZ).length=v.length:=aX ..;refine IR func121 J J ntmps121 J J (fun C h0=>?_);refine GQ J J J Hd (fun _=>J) (fun GB1 pv hg1 hpv=>?_);refine ya 1 2000001 h0.fx J<|ya 2 2000002 h0.fx J ?_;refine Gg (σ:=Unit) (fun _=>[(2000001,some (.o 123 [.d (.sl (v.map eZ))] true)),(2000002,some (.o 4 [.ff] true))]) (fun k=> ∀k'<k,∀i<v.length,tD v k' i=true) (fun _=>[(2000001,some (.o 123 [.d (.sl (v.map eZ))] true)),(2000002,some (.o 4 [.ff] true))]) (fun _=>kI v=false) [(1, .ov 2000001 0),(2, .ov 2000002 0)] h0 J (F8) (.cons hpv .nil) ⟨J,J,trivial⟩ J ⟨J,J,trivial⟩ (fun k hk=>absurd hk (tX k)) Ir J J (fun k e GB' hE hg hp=>?_) (fun D hD hx hp=>?_) (fun D s hD hx hq=>?_)
 .obtain⟨q1,q2,hpx,hqx,rfl⟩:=JA hE
  haveI:=hb q1 (aK hpx);haveI:=hb q2 (aK hqx);have hkn:=(aR.1 hpx).1;refine⟨?_,?_,fun C2=>?_,fun C2=>?_⟩
  rotate_left 2
  .refine gx J<|He J J J ⟨J,J,J⟩ J ?_
   exact atR
  .skip
   refine gx (fu:=⟨5⟩) J<|aj 12 (.d (vI (v.length:Nat))) J (by rw[hml]<;>rfl)<|gx J<|lp (X:=Nat) (fun j=>[(13, .d (vI (j:Nat)))]) (fun j=>[]) (fun j=>j<=v.length/\ ∀i<j,tD v k i=true) (fun j=>v.length-j) 0 J ⟨aM _,fun i hi=>absurd hi (tX i)⟩ (fun _=>J) (fun j hk=>?_);obtain⟨hk1,hk2⟩:=hk;refine br J J J (fun hc14=>?_) (fun hc14=>?_)
   .
    obtain⟨w,hx⟩: ∃u,v[j]? =some u:=⟨_,aZ (by omega)⟩;haveI:=hb w (aK hx);have hcv:=aIu hpx hqx hx;refine ix _ J (ck hx) J<|cs (fu1:=⟨5⟩) 21 J J J (fun hg21=>?_) (fun hg21=>?_)
    .
     refine aj 26 (.d (vI (v.length:Nat))) J (by rw[hml]<;>rfl)<|gx (fu:=⟨1⟩) J<|aj 27 (.d (vI (((k+1)%v.length:Nat):Int))) J J<|gx J<|cs 30 J J J (fun hg30=>?_) (fun hg30=>?_)
     .
      refine n7 0 (e:=160) (len:=2) (s:=6) J (by kernel_rfl) (by kernel_rfl) (by decide) J<|n7 1 (e:=160) (len:=2) (s:=6) J (by kernel_rfl) (by kernel_rfl) (by decide) J<|cl J (aAo (a:=q1) (b:=q2) (c:=w) (i:=i) (j:=i) (k:=i) (by omega) (by omega) (by omega)) J<|br J J J (fun hc38=>?_) (fun hc38=>?_)
      .
       exact Vc () (aHo hkn (aR.1 hx).1 (by rw[hcv,decide_eq_false (by omega),decide_eq_false (by omega),decide_eq_false (fun q=>by have:=DT.2 q;omega)]<;>rfl))
      .
       exact at_ (j+1) ⟨⟨by omega,EZ hk2 (by rw[hcv,decide_eq_true (DT.1 (by omega)),sJ,sJ])⟩,(by omega)⟩
     .
      exact at_ (j+1) ⟨⟨by omega,EZ hk2 (by rw[hcv,decide_eq_true (show j=(k+1)%v.length by omega),Bool.true_or,sJ])⟩,(by omega)⟩
    .
     exact at_ (j+1) ⟨⟨by omega,EZ hk2 (by rw[hcv,decide_eq_true (show j=k by omega),Bool.true_or])⟩,(by omega)⟩
   .
    obtain rfl:j=v.length:=by omega
    exact rq (EZ hp hk2) ⟨J,J,trivial⟩
 .refine gx J<|?_
  rw[hrl] at hp;exact DS hD hx J (by rw[QT.2 hp]<;>rfl)
 .refine gx J<|?_
  exact DS hD hx J (by rw[hq]<;>rfl)
section
variable (hE:EG GB ai al ae)
include hE
section
variable (h:t.gd)(hs:t.size<=65536)(hd:t.depth<=1000)
include h hs hd
end
end
def ate{c:List aa}(hok: ∀l∈c,l.ok):lv c=true↔ ∃p,dE c p:=by
 rw[<-yc hok];unfold lv i0
 cases c with
 |nil=>simp
 |cons a b=>
  rw[if_neg (by simp;omega)];simp only[decide_eq_true_eq,aX,List.isEmpty_cons,sS,iJ];constructor
  .intro h
   obtain⟨m,hm⟩:=List.exists_mem_of_length_pos (l:=ce (a::b)) (by omega);exact⟨m,jw.1 hm⟩
  .rintro ⟨m,hm⟩
   have:=sV (jw.2 hm);omega
structure RL.wd (r:RL):Prop where
 a:bE r.da
 b:bE r.db
 c:bE r.dc
def RG{b:Bool}(h:lv ls=b)(hc: ∀m∈ls,LB m)(hok: ∀m∈ls,m.ok)(hn:ls.length<=1000:=by omega):PF GB prog 24 [.sl (ls.map eL)] (.tp [.sl ((ce ls).map eL),vB b]):=by
 subst h;exact BX hc hok hn

def qc(c:List aa):Tr:=if lv c then jP (ce c) else .leaf false
def aE2{c:List aa}(hb: ∀l∈c,LB l)(hok: ∀l∈c,l.ok)(hn:c.length<=18):gc 18 (qc c):=by
 unfold qc;split
 .have hm: ∀m∈ce c,m∈c:=fun m hm=>(jw.1 hm).1
  have hlen:=oO c;refine⟨⟨⟨Ai fun l hl=>hb l (hm l hl),Ai fun l hl=>hok l (hm l hl)⟩,by rw[Kz];omega,ce c,by omega,fun l hl=>hok l (hm l hl),Ai fun l hl=>⟨l,hl, .inl J⟩⟩,by rw[Js];omega⟩
 .exact⟨⟨⟨trivial,trivial⟩,aM _,[],aM _,fun m hm=>(by cases hm),trivial⟩,aM _⟩
def N6{l:aa}(h:L[j]? =some l):jP (L.drop j)= .node l (jP (L.drop (j+1))) (.leaf false):=by
 obtain⟨h1,h2⟩:=aR.1 h;rw[bX h1,h2];rfl
def ayG{c:ao}(h:c[j]? =some s):(c.map (·.l))[j]? =some s.l:=by rw[cY,h];rfl
def VN{c:ao}(hn:c.length<=100000):PF GB prog 94 [.sl (c.map dd)] (eU (jP (c.map (·.l)))):=by
 have hml:(c.map dd).length=c.length:=aX ..;refine fn func94 J J ntmps94 J J (fun C=>?_);refine cl (fu:=⟨8⟩) J (rB (b:=true)) J<|aj 7 (.d (vI (c.length:Nat))) J (by rw[hml]<;>rfl)<|gx J<|aj 3 (.d (eU (jP ((c.map (·.l)).drop c.length)))) J (by rw[iU (by simp)]<;>rfl)<|lp (X:=Nat) (fun k=>[(4, .d (vI ((k:Int)-1))),(3, .d (eU (jP ((c.map (·.l)).drop k))))]) (fun k=>[]) (fun k=>k<=c.length) (fun k=>k) c.length J (bK _) (fun _=>J) (fun k hk=>?_);refine br (fu1:=⟨7⟩) J J J (fun hc10=>?_) (fun hc10=>?_)
 .
  obtain⟨j,rfl⟩: ∃j,k=j+1:=⟨k-1,by omega⟩;obtain⟨s,hx⟩: ∃u,c[j]? =some u:=⟨_,aZ (by omega)⟩;refine aj 14 (.d (vI (j:Nat))) J (by congr 3;omega)<|gx J<|ix _ J (ck hx) J<|cl J (rB (b:=false)) J<|cl (hv:=by simp only[ak];exact⟨by kernel_rfl,by omega⟩) J (xp (l:=s.l)) J<|aj 4 (.d (vI ((j:Int)-1))) J (by congr 3;omega)<|aj 3 (.d (eU (jP ((c.map (·.l)).drop j)))) J (by rw[N6 (ayG hx)]<;>rfl)<|at_ j ⟨(by omega),(by omega)⟩
 .
  obtain rfl:k=0:=by omega
  exact rz J J
def Zf{c:List aa}(hb: ∀l∈c,LB l)(hok: ∀l∈c,l.ok)(hn:c.length<=18)(h:lv c=true):PF GB prog 50 [.sl (c.map eL)] (eT (qc c)):=by
 have hcl:=oO c;have hcb: ∀l∈ce c,LB l:=fun l hl=>hb l (jw.1 hl).1;have hml:((ce c).map eL).length=(ce c).length:=aX ..;refine fn func50 J J ntmps50 J J (fun C=>?_);refine cl (fu:=⟨12⟩) J (RG h hb hok) J<|aj 12 (.d (.v (.bool false))) J J<|sh 12 J<|gx J<|cl (fu:=⟨8⟩) J n4 J<|aj 16 (.d (vI ((ce c).length:Nat))) J (by rw[hml]<;>rfl)<|gx J<|aj 4 (.d (eT (jP ((ce c).drop (ce c).length)))) J (by rw[iU (by simp)]<;>rfl)<|lp (X:=Nat) (fun k=>[(5, .d (vI ((k:Int)-1))),(4, .d (eT (jP ((ce c).drop k))))]) (fun k=>[]) (fun k=>k<=(ce c).length) (fun k=>k) (ce c).length J (bK _) (fun _=>J) (fun k hk=>?_);refine br (fu1:=⟨7⟩) J J J (fun hc19=>?_) (fun hc19=>?_)
 .
  obtain⟨j,rfl⟩: ∃j,k=j+1:=⟨k-1,by omega⟩;obtain⟨s,hx⟩: ∃u,(ce c)[j]? =some u:=⟨_,aZ (by omega)⟩;refine aj 23 (.d (vI (j:Nat))) J (by congr 3;omega)<|gx J<|ix _ J (ck hx) J<|cl (hv:=by simp only[ak];exact⟨by kernel_rfl,by omega⟩) J n4 J<|aj 5 (.d (vI ((j:Int)-1))) J (by congr 3;omega)<|gm 29 J<|aj 4 (.d (eT (jP ((ce c).drop j)))) J (by rw[N6 hx]<;>rfl)<|at_ j ⟨(by omega),(by omega)⟩
 .
  obtain rfl:k=0:=by omega
  exact rz J (by unfold qc;rw[if_pos h]<;>rfl)
def TL{c:List aa}(hb: ∀l∈c,LB l)(hok: ∀l∈c,l.ok)(hn:c.length<=18)(h:lv c=false):PF GB prog 50 [.sl (c.map eL)] (eT (qc c)):=by
 have hcl:=oO c;have hcb: ∀l∈ce c,LB l:=fun l hl=>hb l (jw.1 hl).1;have hml:((ce c).map eL).length=(ce c).length:=aX ..;refine fn func50 J J ntmps50 J J (fun C=>?_);refine cl (fu:=⟨12⟩) J (RG h hb hok) J<|aj 12 (.d (.v (.bool true))) J J<|mn 12 J<|gx J<|cl J n4 J<|rz J (by unfold qc;rw[h]<;>rfl)
def YW{c:List aa}(hb: ∀l∈c,LB l)(hok: ∀l∈c,l.ok)(hn:c.length<=18):PF GB prog 50 [.sl (c.map eL)] (eT (qc c)):=by
 cases h:lv c with
 |false=>exact TL hb hok hn h
 |true=>exact Zf hb hok hn h
def Em(p q:ah):cF p q (((1:Int):Int):Rat)=p.add q:=by
 unfold cF ah.add;have e:(((1:Int):Int):Rat)=1:=J;rw[e];simp only[ah.mk.injEq];constructor<;>grind
def T1(p q:ah):cF q p (-1)=⟨q.x-p.x,q.y-p.y⟩:=by
 unfold cF;simp only[ah.mk.injEq];constructor<;>grind
def V8(z:Int):eQ ((z:Int):Rat)= .ag [.v (.bool (decide (z<0))),dN z.natAbs,dD 1]:=by
 unfold eQ;rw[mL,mM]
def I8{a:Rat}{m:Nat}(h:a*((m:Int):Rat)=(z:Rat)):eQ (a*((m:Int):Rat))=eQ (z:Rat):=by rw[h]
def IK[hp:aC p i][hq:aC q i](hi:i<=20000)(h: ¬(p.x=q.x/\p.y=q.y)):PF GB prog 73 [eP p,eP q] (.tp [eL (fE p q), .v (.bool true)]):=by
 obtain⟨a,ha⟩: ∃a,a=p.y-q.y:=⟨_,rfl⟩;obtain⟨b,hb⟩: ∃b,b=q.x-p.x:=⟨_,rfl⟩;obtain⟨c,hc⟩: ∃c,c= -(a*p.x+b*p.y):=⟨_,rfl⟩;haveI b1:BQ a (2*i+1):=by rw[ha];exact BQ.mono (inferInstance:BQ (p.y-q.y) _) (by omega)
 haveI b2:BQ b (2*i+1):=by rw[hb];exact BQ.mono (inferInstance:BQ (q.x-p.x) _) (by omega)
 haveI b3:BQ c (8*i+9):=by rw[hc];exact BQ.mono (inferInstance:BQ (-(a*p.x+b*p.y)) _) (by omega)
 have hne: ¬(a=0/\b=0):=fun⟨u,v⟩=>h ⟨by rw[hb] at v;grind,by rw[ha] at u;grind⟩;obtain⟨o1,o2,o3⟩:=J' a b c;obtain⟨m,hm⟩: ∃m,m=kP a b c:=⟨_,rfl⟩;rw[<-hm] at o1 o2 o3;have hm2:a.den*b.den*c.den=m:=by rw[hm,kP,cW]
 obtain⟨x,hx⟩: ∃x,x=a.num*(b.den*c.den:Nat):=⟨_,rfl⟩;obtain⟨y,hy⟩: ∃y,y=b.num*(a.den*c.den:Nat):=⟨_,rfl⟩;obtain⟨z,hz⟩: ∃z,z=c.num*(a.den*b.den:Nat):=⟨_,rfl⟩;rw[<-hx] at o1;rw[<-hy] at o2;rw[<-hz] at o3;have hthr:fE p q=m5 x y z:=by rw[hx,hy,hz,hc,ha,hb];rfl
 have hok: ¬(x=0/\y=0):=by rw[hx,hy];exact CH hne
 haveI bm:BI (m:Int) (16*i+40):=⟨by rw[hm];exact cN (me b1.hd (me b2.hd b3.hd)) (bW (by decide) (by omega))⟩;haveI bx:BI x (16*i+40):=⟨by rw[hx];exact cN (y4 b1 b2 b3) (bW (by decide) (by omega))⟩;haveI by_:BI y (16*i+40):=⟨by rw[hy];exact cN (y4 b2 b1 b3) (bW (by decide) (by omega))⟩;haveI bz:BI z (16*i+40):=⟨by rw[hz];exact cN (y4 b3 b1 b2) (bW (by decide) (by omega))⟩;haveI n1:BN a.den (2*i+1):=⟨b1.hd⟩;haveI n2:BN b.den (2*i+1):=⟨b2.hd⟩;haveI n3:BN c.den (8*i+9):=⟨b3.hd⟩;refine fn func73 J J ntmps73 J J (fun C=>?_);refine cl J (PF.eq (Gf (p:=q) (q:=p) (i:=i) (j:=i) (by omega) (by omega)) (show _=eP ⟨q.x-p.x,q.y-p.y⟩ by rw[T1])) J<|cl (fu:=⟨2⟩) J (PF.eq (og (q:=q.y-p.y)) (show eQ (-(q.y-p.y))=eQ a by rw[ha];congr 1;grind)) J<|aj 19 (.d (eQ b)) J (by rw[hb]<;>rfl)<|gx J<|cl J (gy (a:=a) (b:=p.x) (i:=2*i+1) (j:=i) (by omega) (by omega)) J<|cl J (gy (a:=b) (b:=p.y) (i:=2*i+1) (j:=i) (by omega) (by omega)) J<|cl J (mr (a:=a*p.x) (b:=b*p.y) (i:=2*i+1+i) (j:=2*i+1+i) (by omega) (by omega)) J<|cl J (PF.eq (og (q:=a*p.x+b*p.y)) (show _=eQ c by rw[hc])) J<|cl J (jf (q:=a)) J<|cl J (jf (q:=b)) J<|cl J (ph (a:=a.den) (b:=b.den) (ia:=2*i+1) (ib:=2*i+1) (by omega) (by omega)) J<|cl J (jf (q:=c)) J<|cl J (PF.eq (ph (a:=a.den*b.den) (b:=c.den) (ia:=2*i+1+(2*i+1)) (ib:=8*i+9) (by omega) (by omega)) (show _=dN m by rw[hm2])) J<|cl (fu:=⟨1⟩) J (ki (neg:=false) (m:=m)) J<|aj 40 (.d (eQ ((m:Int):Rat))) J (by rw[V8];simp[zv,eI];rfl)<|gx J<|cl J (PF.eq (gy (a:=a) (b:=((m:Int):Rat)) (i:=2*i+1) (j:=16*i+41) (by omega) (by omega)) (I8 o1)) J<|cl J (PF.eq (gy (a:=b) (b:=((m:Int):Rat)) (i:=2*i+1) (j:=16*i+41) (by omega) (by omega)) (I8 o2)) J<|cl J (PF.eq (gy (a:=c) (b:=((m:Int):Rat)) (i:=8*i+9) (j:=16*i+41) (by omega) (by omega)) (I8 o3)) J<|cl J (KV (a:=x) (b:=y) (c:=z) (i:=16*i+40) bx by_ bz (by omega) hok) J<|rz J (by rw[hthr];rfl)
def kO(n:ah)(V:List ah)(k:Nat):ah:=(V.take k).foldl (fun b q=>if n.dot q<n.dot b then q else b) (V.getD 0 ⟨0,0⟩)
def Ra(h:V[k]? =some q):kO n V (k+1)=if n.dot q<n.dot (kO n V k) then q else kO n V k:=by
 unfold kO;rw[dZ,h];simp only[kR,lN,iK,List.foldl_nil]
def Mv(h:V≠[]):kO n V V.length=lf n V:=by
 cases V with
 |nil=>exact absurd J h
 |cons p t=>
  unfold kO lf;rw[cS,iK];show List.foldl _ (if n.dot p<n.dot p then p else p) t=_;rw[if_neg (by grind)]
def Eg{n:ah}{V:List ah}{P:ah->Prop}(h0:P (V.getD 0 ⟨0,0⟩))(h: ∀v∈V,P v): ∀k,P (kO n V k)
 |0=>h0
 |k+1=>by
  cases hk:V[k]? with
  |none=>
   have e:kO n V (k+1)=kO n V k:=by unfold kO;rw[dZ,hk];simp
   rw[e];exact Eg h0 h k
  |some q=>
   rw[Ra hk];split
   .exact h q (aK hk)
   .exact Eg h0 h k
def Qx(l:aa)(p:ah):l.dir.cross p=l.nor.dot p:=by unfold aa.dir aa.nor ah.cross ah.dot;dsimp only;grind
def RO{l:aa}(h:V[k]? =some q):(bA (l.dir.cross q) (l.dir.cross (kO l.nor V k))<0->kO l.nor V (k+1)=q)/\(¬bA (l.dir.cross q) (l.dir.cross (kO l.nor V k))<0->kO l.nor V (k+1)=kO l.nor V k):=by
 rw[Ra h,Hy,Qx,Qx];exact⟨fun k=>if_pos k,fun k=>if_neg k⟩
def L9{l:aa}(h:l.ok)(Q:ah): ¬(Q.x=(Q.add l.dir).x/\Q.y=(Q.add l.dir).y):=fun⟨h1,h2⟩=>yk h (by
 unfold ah.add aa.dir at h1 h2;dsimp only at h1 h2;exact⟨by grind,by grind⟩)
def UJ{l:aa}[hl:LB l](hlo:l.ok)(hV:V≠[])(hb: ∀v∈V,aC v j)(hj:j<=10000)(hn:V.length<=100000):PF GB prog 71 [eL l, .sl (V.map eP)] (eL (nP l V)):=by
 have hml:(V.map eP).length=V.length:=aX ..;have hV0:0<V.length:=mZ.2 hV;obtain⟨p0,h0⟩: ∃p,V[0]? =some p:=⟨_,aZ hV0⟩;obtain⟨S,hS⟩: ∃S,S=kO l.nor V:=⟨_,rfl⟩;have hg0:V.getD 0 ⟨0,0⟩=p0:=by rw[aV,h0];rfl
 have hS0:p0=S 0:=by rw[hS];show p0=(V.take 0).foldl _ _;rw[hg0];rfl
 have hSb: ∀k,aC (S k) j:=by rw[hS];exact Eg (by rw[hg0];exact hb p0 (aK h0)) hb
 have hSn:S V.length=lf l.nor V:=by rw[hS];exact Mv hV
 refine fn func71 J J ntmps71 J J (fun C=>?_);refine ix (fu:=⟨1⟩) _ J (JG h0) J<|aj 13 (.d (eP (S 0))) J (by rw[hS0]<;>rfl)<|gx (fu:=⟨9⟩) J<|aj 15 (.d (vI (V.length:Nat))) J (by rw[hml]<;>rfl)<|gx J<|lp (X:=Nat) (fun k=>[(16, .d (vI (k:Nat))),(5, .ov 5 0)]) (fun k=>[(5,some (.o 53 [.d (.v (.bool (decide ((S k).x.num<0)))), .d (dN (S k).x.num.natAbs), .d (dD (S k).x.den), .d (.v (.bool (decide ((S k).y.num<0)))), .d (dN (S k).y.num.natAbs), .d (dD (S k).y.den)] true))]) (fun k=>k<=V.length) (fun k=>V.length-k) 0 J (aM _) (fun _=>J) (fun k hk=>?_);haveI:=hSb k;refine br J J J (fun hc17=>?_) (fun hc17=>?_)
 .
  obtain⟨q,hx⟩: ∃u,V[k]? =some u:=⟨_,aZ (by omega)⟩;haveI:=hb q (aK hx);obtain⟨e1,e2⟩:=RO (l:=l) hx;rw[<-hS] at e1 e2;refine ix _ J (ck hx) J<|cl J (il (l:=l)) J<|cl J (pG (p:=l.dir) (q:=q) (i:=97) (j:=j) (by omega) (by omega)) J<|cl J (il (l:=l)) J<|cl J (pG (p:=l.dir) (q:=S k) (i:=97) (j:=j) (by omega) (by omega)) J<|cl J (ku (a:=l.dir.cross q) (b:=l.dir.cross (S k)) (i:=97+j+(97+j)+1) (j:=97+j+(97+j)+1) (by omega) (by omega)) J<|br (fu1:=⟨2⟩) J J J (fun hc29=>?_) (fun hc29=>?_)
  .
   refine aj 30 (.d (eP (S (k+1)))) J (by rw[e1 hc29]<;>rfl)<|gx J<|at_ (k+1) ⟨(by omega),(by omega)⟩
  .
   rw[<-e2 hc29];exact at_ (k+1) ⟨(by omega),(by omega)⟩
 .
  obtain rfl:k=V.length:=by omega
  obtain⟨Q,hQ⟩: ∃Q,Q=l.base.add (lf l.nor V):=⟨_,rfl⟩;haveI hb2:=hSb V.length;haveI hQb:aC Q (j+1000):=by rw[hQ,<-hSn];exact aC.mono (inferInstance:aC (l.base.add (S V.length)) _)
  haveI hQ2:aC (Q.add l.dir) (j+1200):=aC.mono (inferInstance:aC (Q.add l.dir) _);haveI hQ1:aC Q (j+1200):=aC.mono hQb;refine cl J (yv (l:=l) hlo.ne) J<|cl J (iw (n:=1)) J<|cl J (PF.eq (te (p:=l.base) (q:=S V.length) (c:=(((1:Int):Int):Rat)) (i:=900) (j:=j) (k:=2) (by omega) (by omega) (by decide)) (show _=eP Q by rw[Em,hSn,<-hQ])) J<|cl J (iw (n:=1)) J<|cl J (il (l:=l)) J<|cl J (PF.eq (te (p:=Q) (q:=l.dir) (c:=(((1:Int):Int):Rat)) (i:=j+1200) (j:=97) (k:=2) (by omega) (by decide) (by decide)) (show _=eP (Q.add l.dir) by rw[Em])) J<|cl J (IK (p:=Q) (q:=Q.add l.dir) (i:=j+1200) (by omega) (L9 hlo Q)) J<|rz J (by unfold nP;rw[<-hQ]<;>rfl)
theorem tz{m:Int}(h:m.natAbs<2^k)(hk:0<k:=by decide):BQ (m:Rat) k:=⟨by rw[mL];exact h,by rw[mM];exact cN (show 1<2^1 by decide) (bW (by decide) hk)⟩
theorem FE(h: ∀v∈V,ZB v): ∀v∈V,aC v 4:=fun v hv=>by
 obtain⟨m,n,rfl,h1,h2⟩:=h v hv;exact⟨tz (by omega),tz (by omega)⟩
theorem U5{l:aa}(hk:BL l k)(h62:k+5<=62)(hV:V≠[])(hz: ∀v∈V,ZB v):BQ (l.a:Rat) 62/\BQ (l.b:Rat) 62/\BQ ((l.c:Rat)-i5 l.nor V) 62:=by
 obtain⟨v,hv,e⟩:=(pf (n:=l.nor) hV).2;obtain⟨m,n,rfl,h1,h2⟩:=hz v hv;have e2:(l.c:Rat)-i5 l.nor V=((l.c-(l.a*m+l.b*n):Int):Rat):=by
  rw[e];unfold ah.dot aa.nor iP;rw[iV,lW,bM,bM]
 have b1:=iv (gV hk.a) h1;have b2:=iv (gV hk.b) h2;have ka:=hk.a;have kb:=hk.b;have kc:=hk.c;have hp:2^k*32<=2^62:=by
  rw[show 2^k*32=2^(k+5) by rw[fJ]];exact bW (by decide) h62
 rw[e2];generalize 2^k=w at*;refine⟨tz (by omega),tz (by omega),tz (by omega)⟩
def WR{c:ao}(hc:bC c)(hk: ∀s∈c,BL s.l k)(hq:q∈kE (c.map fun s=>s.l)):QD (2*k+1) q:=by
 unfold kE at hq;split at hq
 .obtain⟨l,hl,rfl⟩:=aT.1 hq
  obtain⟨s,hs,rfl⟩:=aT.1 hl;exact Lq (hk s hs) (hc.ok s hs)
 .obtain⟨l,hl,m,hm,hx,rfl⟩:=Ot hq
  obtain⟨s,hs,rfl⟩:=aT.1 hl;obtain⟨u,hu,rfl⟩:=aT.1 hm;exact QG (hk s hs) (hk u hu) hx
theorem aFe{a:Rat}{D:Nat}(hD:0<D)(h:a*((D:Int):Rat)=(z:Rat))(h1:z.natAbs<2^k)(h2:D<2^k):BQ a k:=by
 have e:=Iu hD h;have d1:a.den∣D:=by
  have e2:a.num.natAbs*D=z.natAbs*a.den:=by
   have:=congrArg Int.natAbs e;rwa [fV,fV,fW,fW] at this
  exact a.reduced.symm.dvd_of_dvd_mul_left ⟨z.natAbs,by rw[e2,cJ]⟩
 obtain⟨m,hm⟩:=d1;have hden:=Nat.le_of_dvd hD ⟨m,hm⟩;have hm0:0<m:=iW fun k=>by rw[k] at hm;omega
 have e2:a.num*(m:Int)=z:=by
  rw[hm] at e;have hdn:(a.den:Int)≠0:=by have:=a.den_pos;omega
  refine Int.eq_of_mul_eq_mul_right hdn ?_;rw[<-e];push_cast;rw[Int.mul_assoc,rR (m:Int)]
 refine⟨eX ?_ h1,eX hden h2⟩;rw[<-e2,fV,fW];exact mU _ hm0
theorem WF{c:ao}(hc:bC c)(ha:fq c)(hk: ∀s∈c,BL s.l k)(h62:2*k+10<=62){f:ah×ah}(hn: ¬((bj f).x=0/\(bj f).y=0))(h1:ZB f.1)(h2:ZB f.2)(hf:f7 c (bj f)=some m):BQ (bj f).x 62/\BQ (bj f).y 62/\BQ (-(m+(bj f).dot f.1)) 62:=by
 obtain⟨e1,e2⟩:=GG hc ha hn hf;obtain⟨q,hq,e3⟩:=(pf (n:=bj f) e2).2;rw[e1] at e3;obtain⟨D,X,Y,hD0,hD,hX,hY,x1,y1⟩:=WR hc hk hq;obtain⟨m1,n1,p1,a1,a2⟩:=h1;obtain⟨m2,n2,p2,a3,a4⟩:=h2;have nx:(bj f).x=((n1-n2:Int):Rat):=by unfold bj;rw[p1,p2];unfold iP;rw[iV];grind
 have ny:(bj f).y=((m2-m1:Int):Rat):=by unfold bj;rw[p1,p2];unfold iP;rw[iV]
 generalize hA:n1-n2=A at nx;generalize hB:m2-m1=B at ny;have key: -(m+(bj f).dot f.1)*((D:Int):Rat)=((-(A*X+B*Y+(A*m1+B*n1)*D):Int):Rat):=by
  rw[e3,p1];unfold ah.dot iP;dsimp only;rw[nx,ny];simp only[bM,iN,lW];rw[<-x1,<-y1];grind
 have hA16:A.natAbs<=16:=by omega
 have hB16:B.natAbs<=16:=by omega
 have b0:(D:Int).natAbs<=2^(2*k+1):=hD;have b3:=iv hA16 hX;have b4:=iv hB16 hY;have b5:(A*m1+B*n1).natAbs<=256:=by
  have:=iv hA16 a1;have:=iv hB16 a2;omega
 have b6:=iv b5 b0;have e8:2^(2*k+10)=2^(2*k+1)*512:=by rw[show 2*k+10=2*k+1+9 by omega,fJ]
 have e9:2^(2*k+1)*512<=2^62:=by
  rw[<-e8];exact bW (by decide) h62
 have w0:0<2^(2*k+1):=gX (by decide);rw[nx,ny];refine⟨tz (by omega),tz (by omega),aFe hD0 key ?_ ?_⟩
 .generalize 2^(2*k+1)=w at*;omega
 .generalize 2^(2*k+1)=w at*;omega
theorem Si(h:eD r): ∀u∈r.map ZP.q,aC u 8:=fun u hu=>by
 obtain⟨p,hp,rfl⟩:=aT.1 hu;obtain⟨h1,h2⟩:=h.le p hp;exact⟨tz (by omega),tz (by omega)⟩
def Vs(h:s6 r)(hc:kI (r.map ZP.q)=true):PF GB prog 59 [lz r] (.tp [.sl ((r.map ZP.q).map eZ), .v .nilIface]):=by
 have hn:=h.ok.n6;have hl:(r.map ZP.q).length=r.length:=aX ..;refine fn func59 J J ntmps59 J J (fun C=>?_);refine cl (fu:=⟨12⟩) J (Zh h.ok h.c3) J<|cB J J J<|cl (fu:=⟨0⟩) J (aEE (v:=r.map ZP.q) (i:=8) (Si h.ok) (by decide) (by omega)) J<|aj 17 (.d (.v (.bool true))) J (by rw[hc]<;>rfl)<|mn 17 J<|gx J<|rz J J
def mh(c:ao)(V:List ah)(k:Nat):List aa:=(c.map fun s=>jd s.l V)++((bG V).take k).filterMap (kG c)
def Uq(c:ao)(V:List ah):mh c V 0=c.map fun s=>jd s.l V:=by unfold mh;simp
def BT(c:ao)(V:List ah):mh c V (bG V).length=fD c V (bG V):=by unfold mh fD;rw[cS]
def BK(c:ao)(V:List ah)(k:Nat):(mh c V k).length<=c.length+V.length:=by
 unfold mh;rw[aY,aX];have h1:=lK (kG c) ((bG V).take k);have h2:((bG V).take k).length<=V.length:=by rw[bT];unfold bG;rw[aX,kV];omega
 omega
def as8{c:ao}{f:ah×ah}(h:(bG V)[k]? =some f)(hf:f7 c (bj f)=some m):(mh c V k).map cP++[cP (dC (bj f).x (bj f).y (-(m+(bj f).dot f.1)))]=(mh c V (k+1)).map cP:=by
 unfold mh;rw[dZ,h];simp only[kR,pV,lQ,rK];rw[show kG c f=some (dC (bj f).x (bj f).y (-(m+(bj f).dot f.1))) by unfold kG;rw[hf];rfl];simp
def Z8{c:ao}{f:ah×ah}(h:(bG V)[k]? =some f)(hf:f7 c (bj f)=none):mh c V k=mh c V (k+1):=by
 unfold mh;rw[dZ,h];simp only[kR,pV,lQ,rK];rw[show kG c f=none by unfold kG;rw[hf];rfl];simp
def av8{c:ao}(h:c[k]? =some s):((c.take k).map fun s=>jd s.l V).map cP++[cP (jd s.l V)]=((c.take (k+1)).map fun s=>jd s.l V).map cP:=by
 rw[dZ,h,aS,aS];rfl
def Sn(l:List aa):cO 9 (l.map cP):=fun d hd=>by
 obtain⟨x,_,rfl⟩:=aT.1 hd;exact⟨J,J⟩
def Ma(h1:V[k]? =some p)(h2:V[(k+1)%V.length]? =some q):(bG V)[k]? =some (p,q):=by
 have hk:=(aR.1 h1).1;unfold bG;rw[cY,qJ hk];show some (V.getD k ⟨0,0⟩,V.getD ((k+1)%V.length) ⟨0,0⟩)=_;rw[aV,aV,h1,h2];rfl
theorem ZI{c:ao}(hc:d9 c)[hn:aC n 9](h:f7 c n=some m):BQ m 7019:=by
 unfold f7 at h;split at h
 .cases h
 .rename_i h0
  split at h
  .cases h
  .cases h
   have hne:c≠[]:=fun e=>h0 (by rw[e];rfl);exact PS (n:=n) (i:=9) (MQ hc) (Nv hne)
theorem TO[hp:aC p 4][hq:aC q 4]:aC (bj (p,q)) 9:=by
 have h:=CZ q p (i:=4) (j:=4);exact⟨inferInstanceAs (BQ (-(q.y-p.y)) 9),inferInstanceAs (BQ (q.x-p.x) 9)⟩
def aFt{c d:ao}(hV:iu V)(hc:d9 c)(hg:bC c)(ha:fq c)(hk: ∀s∈c,BL s.l kb)(h62:2*kb+10<=62)(hn:c.length<=900)(hd:iI (fD c V (bG V)) []=some d):PF GB prog 61 [eC c, .sl (V.map eZ)] (eC d):=by
 have hVb:=FE hV.zb;have hV4:=hV.le;have hml:(c.map dd).length=c.length:=aX ..;have hpl:(bG V).length=V.length:=by unfold bG;rw[aX,kV]
 have hrl:(mC V).length=(bG V).length:=by unfold mC;rw[aX,kV,hpl]
 refine IR func61 J J ntmps61 J J (fun C h0=>?_);refine Hm 5 0 50 213 9 J J J J J<|lp (X:=Nat) (fun k=>[(22, .d (vI (k:Nat))),(5, .ov 5 0)]) (fun k=>[(5,some (.o 119 [.rw 50] true)),(50,some (.b 213 9 (((c.take k).map fun s=>jd s.l V).map cP) true))]) (fun k=>k<=c.length) (fun k=>c.length-k) 0 J (aM _) (fun _=>J) (fun k hkc=>?_);have hm3:(((c.take k).map fun s=>jd s.l V).map cP).length<=k:=by rw[aX,aX,bT];omega
 refine br J J J (fun hc23=>?_) (fun hc23=>?_)
 .obtain⟨s,hx⟩: ∃u,c[k]? =some u:=⟨_,aZ (by omega)⟩
  have hsm:=aK hx;haveI:=(hc s hsm).lb;obtain⟨q1,q2,q3⟩:=U5 (hk s hsm) (by omega) hV.br.vne hV.zb;haveI hl0:=PS (n:=s.l.nor) (i:=97) hVb hV.br.vne;have hne:=yk (hg.ok s hsm);refine ix _ J (ck hx) J<|cl J (wz (l:=s.l)) J<|cl J (LR (n:=s.l.nor) (l:=V) (i:=97) (j:=4) hVb hV.br.vne (by decide) (by decide) (by omega)) J<|cl J (p7 (p:=(s.l.c:Rat)) (q:=i5 s.l.nor V) (i:=97) (j:=97+4+(97+4)+1)) J<|cl J (PL (a:=(s.l.a:Rat)) (b:=(s.l.b:Rat)) (c:=(s.l.c:Rat)-i5 s.l.nor V) hne) J<|rf J J<|ap (((c.take (k+1)).map fun s=>jd s.l V).map cP) J (av8 hx) (Sn [_]) J<|d8 47 50 J<|at_ (k+1) ⟨(by omega),(by omega)⟩
 .obtain rfl:k=c.length:=by omega
  rw[cS,<-Uq c V];refine GQ J J J Hd (fun _=>J) (fun GB1 pv hg1 hpv=>?_);refine ya 2 2000002 h0.fx J<|ya 5 2000005 h0.fx J ?_;refine Gg (σ:=Empty) (fun k=>[(2000002,some (.o 127 [.d (eC c)] true)),(2000005,some (.o 119 [.rw 50] true)),(50,some (.b 213 9 ((mh c V k).map cP) true))]) (fun _=>True) (fun _=>[]) (fun _=>False) [(2, .ov 2000002 0),(5, .ov 2000005 0)]
   h0 J (F8) (.cons hpv .nil) ⟨J,J,trivial⟩ J ⟨J,J,J,trivial⟩ trivial Ir J J (fun k e GB' hE hg2 hp=>?_) (fun D hD hx hp=>?_) (fun D s hD hx hq=>hq.elim)
  .obtain⟨q1,q2,hpx,hqx,rfl⟩:=JA hE
   haveI:=hVb q1 (aK hpx);haveI:=hVb q2 (aK hqx);have z1:=hV.zb q1 (aK hpx);have z2:=hV.zb q2 (aK hqx);have hpr:=Ma hpx hqx;have hnz:=hV.br.nz (aK hpr);haveI hn9:aC (bj (q1,q2)) 9:=TO;refine⟨?_,?_,fun C2=>?_,fun C2=>?_⟩
   rotate_left 2
   .refine gx J<|He J J J ⟨J,J,J⟩ J ?_
    exact atR
   .skip
    refine gx J<|n7 1 (e:=160) (len:=2) (s:=6) J (by kernel_rfl) (by kernel_rfl) (by decide) J<|n7 0 (e:=160) (len:=2) (s:=6) J (by kernel_rfl) (by kernel_rfl) (by decide) J<|cl J (IS (p:=q2) (q:=q1) (i:=4) (j:=4)) J<|cl (fu:=⟨0⟩) J (VM (p:=⟨q2.x-q1.x,q2.y-q1.y⟩) (i:=9) (h:=CZ q2 q1)) J<|aj 58 (.d (eZ (bj (q1,q2)))) J J<|gx J<|?_;rcases hf:f7 c (bj (q1,q2)) with _|m
    .
     rw[Z8 hpr hf];refine cl (fu:=⟨3⟩) J (Wx (c:=c) (n:=bj (q1,q2)) (j:=9) hc (by decide) (by omega) hf) J<|sh 64 J<|gx J<|?_;exact rq trivial ⟨J,J,J,trivial⟩
    .
     obtain⟨u1,u2,u3⟩:=WF hg ha hk h62 hnz z1 z2 hf;haveI:BQ m 7019:=ZI hc hf;have hm4:=BK c V k;have hm5:((mh c V k).map cP).length<=c.length+V.length:=by rw[aX];exact hm4
     refine cl (fu:=⟨3⟩) J (UU (c:=c) (n:=bj (q1,q2)) (j:=9) hc (by decide) (by omega) hf) J<|mn 64 J<|gx J<|n7 0 (e:=160) (len:=2) (s:=6) J (by kernel_rfl) (by kernel_rfl) (by decide) J<|cl J (uF (p:=bj (q1,q2)) (q:=q1) (i:=9) (j:=4)) J<|cl J (r9 (p:=m) (q:=(bj (q1,q2)).dot q1) (i:=7019) (j:=27)) J<|cl J (pC (q:=m+(bj (q1,q2)).dot q1) (i:=7047)) J<|cl J (PL (a:=(bj (q1,q2)).x) (b:=(bj (q1,q2)).y) (c:= -(m+(bj (q1,q2)).dot q1)) hnz) J<|rf J J<|ap ((mh c V (k+1)).map cP) J (as8 hpr hf) (Sn [_]) J<|d8 84 50 J ?_;exact rq trivial ⟨J,J,J,trivial⟩
  .rw[hrl,BT]
   refine gx J<|fz 50 J J<|cl J (WX (ls:=fD c V (bG V)) (fun l hl=>⟨(xZ hV.br hV.zb hg ha hk l hl).mono (by omega)⟩) (BR hV.br hg) (by have:=BK c V (bG V).length;rw[BT] at this;omega) hd) J<|?_;exact DS hD hx J J
def ZM(hV:iu V)(ho:t.all aa.ok)(hrk:(t.restrict []).all fun l=>BL l kb)(hrb:(t.restrict []).all LB)(h62:2*kb+10<=62)(hd:t.depth<=800)(hu:u∈(cD (t.restrict [])).map (eG V (bG V))):u.gd/\u.size<=65536:=by
 obtain⟨c,hc,rfl⟩:=aT.1 hu;obtain⟨g1,g2⟩:=zj ho c hc;have hbk:=uR (P:=fun l=>BL l kb) (fun l h=>h.rev) hrk (fun s hs=>by cases hs) (qp.1 hc);have h1:=xZ hV.br hV.zb g1 g2 hbk;refine⟨⟨Bn fun l hl=>⟨(h1 l hl).mono (by omega)⟩,GF hV.br g1 g2⟩,?_⟩;unfold eG;rw[Js];have h2:=oO (fD c V (bG V));have h3:=BK c V (bG V).length;rw[BT] at h3;have h4:=A' hrb (t.restrict_all aa.ok [] ho) c hc;have:=t.restrict_depth [];have:=hV.le;omega
def ZT{cs:List ao}{c:ao}(h:cs[k]? =some c):((cs.take k).map (eG V (bG V))).map eU++[eU (eG V (bG V) c)]=((cs.take (k+1)).map (eG V (bG V))).map eU:=by
 rw[dZ,h,aS,aS];rfl
def Ox(hE:EG GB ai al ae)(hV:iu V)(hb:t.all LB)(ho:t.all aa.ok)(hk:t.all fun l=>BL l kb)(h62:2*kb+10<=62)(hd:t.depth<=800)(hs:t.size<=60000)(hq:om 1 (Tr.leaf false) ((cD (t.restrict [])).map (eG V (bG V)))=some u):PF GB prog 41 [eU t, .sl (V.map eZ)] (.tp [eU u, .v .nilIface]):=by
 obtain⟨cs,hcs⟩: ∃cs,cs=cD (t.restrict []):=⟨_,rfl⟩;rw[<-hcs] at hq;have hrs:=t.restrict_size [];have hrd:=t.restrict_depth [];have hrb:=t.restrict_all LB [] hb;have hro:=t.restrict_all aa.ok [] ho;have hrk:=t.restrict_all _ [] hk;have hcl:cs.length<=60001:=by rw[hcs];exact cM (Ft _) (by omega)
 have hml:(cs.map eC).length=cs.length:=aX ..;refine fn func41 J J ntmps41 J J (fun C=>?_);refine cl (fu:=⟨0⟩) J (yr (t:=t) (by omega)) J<|cB J (by show some (decide _)=some false;rw[decide_eq_false (by omega)]) J<|cl J (Ry (t:=t) hb ho) J<|cl (fu:=⟨0⟩) J (aCq (t:=t.restrict []) hrb hro (by omega) (by omega)) J<|aj 16 (.d (.sl (cs.map eC))) J (by rw[hcs])<|gx (fu:=⟨1⟩) J<|aj 17 (.d (vI (cs.length:Nat))) J (by rw[hml]<;>rfl)<|gx J<|nr 6 6 152 1 J J J<|lp (X:=Nat) (fun k=>[(18, .d (vI (k:Nat))),(6, .rw 6)]) (fun k=>[(6,some (.b 152 1 (((cs.take k).map (eG V (bG V))).map eU) true))]) (fun k=>k<=cs.length) (fun k=>cs.length-k) 0 J (aM _) (fun _=>J) (fun k hk=>?_);have hm3:(((cs.take k).map (eG V (bG V))).map eU).length<=k:=by rw[aX,aX,bT];omega
 refine br (fu2:=⟨0⟩) J J J (fun hc19=>?_) (fun hc19=>?_)
 .
  obtain⟨c,hx⟩: ∃u,cs[k]? =some u:=⟨_,aZ (by omega)⟩;have hcm:c∈cD (t.restrict []):=by rw[<-hcs];exact aK hx
  obtain⟨g1,g2⟩:=zj ho c hcm;have hck:=(B7 hrb hro d9.nil (qp.1 hcm)).1;have hbk:=uR (P:=fun l=>BL l kb) (fun l h=>h.rev) hrk (fun s hs=>by cases hs) (qp.1 hcm);have hsh:=A' hrb hro c hcm;obtain⟨d,d1,d2,d3,d4,d5⟩:=Ho hV.br g1 g2;have hdl:d.length<=c.length+4:=by have h1:=oO (fD c V (bG V));have h2:=BK c V (bG V).length;rw[BT] at h2;rw[d5,aX] at h1;have:=hV.le;omega
  have hml2:(d.map dd).length=d.length:=aX ..;refine ix _ J (ck hx) J<|cl (fu:=⟨8⟩) J (aFt (c:=c) (d:=d) (V:=V) (kb:=kb) hV hck g1 g2 hbk h62 (by omega) d1) J<|aj 26 (.d (vI (d.length:Nat))) J (by rw[hml2]<;>rfl)<|gx (fu:=⟨0⟩) J<|cB J (by show some (decide _)=some false;rw[decide_eq_false (by omega)]) J<|cl (fu:=⟨0⟩) J (VN (c:=d) (by omega)) J<|aj 31 (.d (eU (eG V (bG V) c))) J (by unfold eG;rw[d5])<|gx J<|rf J J<|ap (((cs.take (k+1)).map (eG V (bG V))).map eU) J (ZT hx) (UY [_]) J<|d8 33 6 J<|at_ (k+1) ⟨(by omega),(by omega)⟩
 .
  obtain rfl:k=cs.length:=by omega
  rw[cS];refine oe 6 J<|gx J<|cl J (rB (b:=false)) J<|cl J (aEC hE (op:=1) (a:= .leaf false) (us:=cs.map (eG V (bG V))) ⟨trivial,trivial⟩ (by decide) (fun u hu=>ZM hV ho hrk hrb h62 hd (hcs▸hu)) (by rw[aX];omega) (by rw[if_neg (by decide)];exact hq)) J<|rz J J
def WG(hE:EG GB ai al ae)(hV:iu V)(hb:t.all LB)(ho:t.all aa.ok)(hk:t.all fun l=>BL l kb)(h62:2*kb+10<=62)(hd:t.depth<=800)(hs:t.size<=60000)(hq:om 1 (Tr.leaf false) ((cD (t.compl.restrict [])).map (eG (V.map bF) (bG (V.map bF))))=some u):PF GB prog 43 [eU t, .sl (V.map eZ)] (.tp [eU u.compl, .v .nilIface]):=by
 have hVb:=FE hV.zb;have hV4:=hV.le;refine fn func43 J J ntmps43 J J (fun C=>?_);refine cl J (uh (t:=t)) J<|cl J (Wo (l:=V) (j:=4) hVb (by decide) (by omega)) J<|cl (fu:=⟨11⟩) J (Ox hE hV.neg (t:=t.compl) (u:=u) (kb:=kb) (t.compl_all _ hb) (t.compl_all _ ho) (t.compl_all _ hk) h62 (by rw[t.compl_depth];exact hd) (by rw[t.compl_size];exact hs) hq) J<|cB J J J<|cl J (uh (t:=u)) J<|rz J J
section
variable {n:Nat}{own:aI}{ops:Array Oper}{r:List Oper}{K:List Kt}
def OV(fr:aD)(cf:Cf):Option (TypeId×DV):=match c6 fr cf with
 |some ⟨_, .load t x,_,_,_,_⟩=>match bh (cg fr cf) x with
  |some (.ep (d::_))=>some (t,d)
  |_=>none
 |_=>none
def VC[fu:Fu]{t:TypeId}{d:DV}{D:TypeDesc}{j:TypeInfo}(h:OV fr cf=some (t,d))(hu:prog.underlying t=some D)(hD:W9 D=true)(hj:prog.info? t=some j)(hs:j.size=1)
  (hgo:cH tt n fu.n fr own cf (.d d) [] []=⟨vc,fr',own',cf'⟩)(k':av prog GB C n Q0 fr' own' cf')
  (hv:autoParam (ak vc) cL._auto_1):av prog GB C n Q0 fr own cf:=by
 unfold OV at h;split at h<;>try (cases h;done)
 rename_i hh;split at h<;>cases h;rename_i hx;have:j' prog t:=⟨fun w=>by(rw[Ay hu w];cases D<;>first|rfl|(cases hD;done)),fun w=>by rw[vt hj w,hs]⟩;refine us hh ?_ hgo hv k';refine .yd fun ρ G ov a w r=>?_;obtain⟨y,h1,h2⟩:=r.ev hx;obtain⟨b,o,ms,m,rfl,hb,ht,hm⟩:=h2;obtain⟨l',h3,h4⟩:=hm.get (i:=0) rfl;have:=Jj ht (i:=0) (Nat.succ_pos _);rw[gK] at this;exact⟨l',h4,si h1 hb (by rw[this];exact h3)⟩
def Rh(i:TI)(fr:aD)(cf:Cf):Option SO:=match c6 fr cf with
 |some ⟨some d, .buildSlice t len parts,_,_,_,_⟩=>match d6 tt t with
  |some ⟨.sl e s _,_,_,_⟩=>match oF i with
   |some z=>match wx (cg fr cf) 0 parts.toList with
    |some ds=>bif Nat.beq z.cells.length s&&(CV s ds&&(Nat.beq parts.toList.length len&&(Nat.ble (len*s) 1000&&Nat.blt 0 (len*s)))) then some ⟨d,e,s,ds⟩ else none
    |none=>none
   |none=>none
  |_=>none
 |_=>none
def Ow[fu:Fu](i:TI){d e s:Nat}{ds:List DV}(h:Rh i fr cf=some ⟨d,e,s,ds⟩)(hi:eO prog e=some i)(hgo:cH tt n fu.n fr own cf (.d (.sl ds)) [(d,none)] [d]=⟨vc,fr',own',cf'⟩)(k:av prog GB C n Q0 fr' own' cf')
  (hv:autoParam (ak vc) cL._auto_1):av prog GB C n Q0 fr own cf:=by
 unfold Rh at h;split at h<;>try (cases h;done)
 rename_i hh;split at h<;>try (cases h;done)
 rename_i hT;split at h<;>try (cases h;done)
 rename_i hz;split at h<;>try (cases h;done)
 rename_i hr;rw[cond_eq_ite] at h;split at h<;>cases h;rename_i hc;simp only[bV] at hc;have:=kr (ez _ _ hT) J;exact us hh ((S' (GB:=GB) (C:=C) (n:=n) (bk:=iO fr own cf) hi hz hc.1 hr hc.2.1 hc.2.2.1 hc.2.2.2.1 hc.2.2.2.2).frzRow J) hgo hv k
def Vi(d:Nat)(hl:aO fr d=some (.d (.v (.slice none 0 0)))){c:Code}(h:av prog GB C n Q0 ((d, .nl)::fr) own (.code c K)):av prog GB C n Q0 fr own (.code c K):=
 nv (g:= .nl) hl (fun ρ G y hy=>(aH (G:=G)).1 hy) h
def nlV(d:Nat)(hl:aO fr d=some .nl){e:Exit}(h:av prog GB C n Q0 ((d, .d (.v (.slice none 0 0)))::fr) own (.ex e K)):av prog GB C n Q0 fr own (.ex e K):=
 nv (g:= .d (.v (.slice none 0 0))) hl (fun ρ G y hy=>(aH (G:=G)).2 hy) h
end
def Sp(f:FuncId):DV:= .v (.func (.func f) #[] #[])
def Te{fs:List FuncId}{ts:Nat->Tr}(h0:gc k0 (ts 0))(hr:s6 r)(hc:kI (r.map ZP.q)=true)(hF: ∀k f,fs[k]? =some f->PF GB prog f [eU (ts k), .sl ((r.map ZP.q).map eZ)] (.tp [eU (ts (k+1)), .v .nilIface]))(hb:(ts fs.length).all LB)(hs:(ts fs.length).size<=1000000)(hn:fs.length<=1000):PF GB prog 40 [eA (ts 0),lz r, .sl (fs.map Sp)] (.tp [eA (ts fs.length), .v .nilIface]):=by
 have hml:(fs.map Sp).length=fs.length:=aX ..;refine fn func40 J J ntmps40 J J (fun C=>?_);refine cl (fu:=⟨12⟩) J (Wa (t:=ts 0) h0) J<|aj 20 (.d (.v (.bool false))) J J<|sh 20 J<|gx J<|cl (fu:=⟨11⟩) J (Vs hr hc) J<|cB (fu:=⟨10⟩) J J J<|aj 33 (.d (vI (fs.length:Nat))) J (by rw[hml]<;>rfl)<|gx J<|lp (X:=Nat) (fun k=>[(34, .d (vI (k:Nat))),(8, .d (eU (ts k)))]) (fun k=>[]) (fun k=>k<=fs.length) (fun k=>fs.length-k) 0 J (aM _) (fun _=>J) (fun k hk=>?_);refine br J J J (fun hc35=>?_) (fun hc35=>?_)
 .
  obtain⟨f,hx⟩: ∃u,fs[k]? =some u:=⟨_,aZ (by omega)⟩;refine ix (fu:=⟨0⟩) _ J (ck hx) J<|VC (fu:=⟨8⟩) (d:= .v (.func (.func f) #[] #[])) J J J J J J<|XU (fu:=⟨10⟩) J .nil .nil (hF k f hx) J<|cB J J J<|at_ (k+1) ⟨(by omega),(by omega)⟩
 .
  obtain rfl:k=fs.length:=by omega
  refine cl J (aID (t:=ts fs.length) hb hs) J<|rz J J
def OF(t u:Tr):Nat->Tr
 |0=>t
 |_=>u
def ma(V:List ah)(t:Tr):Tr:=pP V (bG V) t
def qD(V:List ah)(t:Tr):Tr:=(ma (V.map bF) t.compl).compl
def Ci(hV:iu V)(h:jA t):gc 54 (ma V t)/\(ma V t).Red []/\(ma V t).all (fun l=>BL l 26):=(JK hV h).2
def NS(hV:iu V)(h:jA t):gc 54 (qD V t)/\(qD V t).Red []/\(qD V t).all (fun l=>BL l 26):=by
 obtain⟨h1,h2,h3⟩:=Ci hV.neg h.compl;exact⟨h1.compl,Tr.compl_red h2,Tr.compl_all _ _ h3⟩
def W8(hE:EG GB ai al ae)(hV:iu V)(h:jA t):PF GB prog 41 [eU t, .sl (V.map eZ)] (.tp [eU (ma V t), .v .nilIface]):=
 Ox hE hV h.x.lb h.x.ok h.bl (by decide) (by have:=h.dp;omega) (by have:=h.x.s;omega) (JK hV h).1
def aHb(hE:EG GB ai al ae)(hV:iu V)(h:jA t):PF GB prog 43 [eU t, .sl (V.map eZ)] (.tp [eU (qD V t), .v .nilIface]):=
 WG hE hV h.x.lb h.x.ok h.bl (by decide) (by have:=h.dp;omega) (by have:=h.x.s;omega) (JK hV.neg h.compl).1
def QO(hE:EG GB ai al ae)(hr:s6 r)(hc:kI (r.map ZP.q)=true)(hV:iu (r.map ZP.q))(h:jA t):PF GB prog 9 [eA t,lz r] (.tp [eA (ma (r.map ZP.q) t), .v .nilIface]):=by
 have hx:=(Ci hV h).1;have hst:PF GB prog 40 [eA t,lz r, .sl [.v (.func (.func 41) #[] #[])]] (.tp [eA (ma (r.map ZP.q) t), .v .nilIface]):=Te (fs:=[41]) (ts:=OF t (ma (r.map ZP.q) t)) h.x hr hc (fun k f hk=>by match k,hk with|0,hk=>cases hk;exact W8 hE hV h|k+1,hk=>simp at hk) hx.lb (by have:=hx.s;show(ma (r.map ZP.q) t).size<=_;omega) (by simp);refine fn (fu:=⟨11⟩) func9 J J ntmps9 J J (fun C=>?_);refine Ow ⟨.o,1,some [.d (.v .nilFunc)],false⟩ J (by kernel_rfl) J<|cl J hst J<|rz J J
def Yi(hE:EG GB ai al ae)(hr:s6 r)(hc:kI (r.map ZP.q)=true)(hV:iu (r.map ZP.q))(h:jA t):PF GB prog 12 [eA t,lz r] (.tp [eA (qD (r.map ZP.q) t), .v .nilIface]):=by
 have hx:=(NS hV h).1;have hst:PF GB prog 40 [eA t,lz r, .sl [.v (.func (.func 43) #[] #[])]] (.tp [eA (qD (r.map ZP.q) t), .v .nilIface]):=Te (fs:=[43]) (ts:=OF t (qD (r.map ZP.q) t)) h.x hr hc (fun k f hk=>by match k,hk with|0,hk=>cases hk;exact aHb hE hV h|k+1,hk=>simp at hk) hx.lb (by have:=hx.s;show(qD (r.map ZP.q) t).size<=_;omega) (by simp);refine fn (fu:=⟨11⟩) func12 J J ntmps12 J J (fun C=>?_);refine Ow ⟨.o,1,some [.d (.v .nilFunc)],false⟩ J (by kernel_rfl) J<|cl J hst J<|rz J J
end Go.Sx
end
