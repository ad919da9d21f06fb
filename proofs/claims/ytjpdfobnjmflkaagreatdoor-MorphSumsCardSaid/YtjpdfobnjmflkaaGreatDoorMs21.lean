import Derived.Test.YtjpdfobnjmflkaaGreatDoorMs20
import Derived.Test.YtjpdfobnjmflkaaGreatDoorCards
import Derived.Test.YtjpdfobnjmflkaaGreatDoorTie
import Derived.WalkKit
import Derived.ProofKit
import Derived.OpenShut
import Derived.Deep.DeepHandedRow
import Derived.Deep.DeepWitnessRowRef
import Derived.LaidMore
import Derived.Lib.LaidTab
import Derived.SizedLaws
import Derived.Stop.LaidErr
import Derived.MakeChecks
set_option linter.all false
set_option maxHeartbeats 2000000
set_option maxRecDepth 100000
section
namespace Go.Sx
open Go Go.Proofs Tryz
variable {L c:List aa}{k j kb a b a':Nat}{l m:aa}{p q:ah}{V:List ah}{t:Tr}{r:List ZP}{ai al ae:Addr}{es es0:List Int}
variable {GB:Gh}
def zS(h:gi L=[])(h1:L[k]? =some l)(h2:L[(k+1)%L.length]? =some m): ¬0<Int.sign (l.dir.cross m.dir).num:=fun hc=>by
 have e:=qF h1 h2;rw[if_pos hc] at e;have hm:c8 l m∈gi L:=iQ.2 ⟨k,kQ.2 (aR.1 h1).1,by rw[e];simp⟩;rw[h] at hm;cases hm
def yM(h:c[k]? =some m):((c.take k).map aa.base).map eP++[eP m.base]=((c.take (k+1)).map aa.base).map eP:=by
 rw[dZ,h,aS,aS];rfl
def yI(hb: ∀l∈L,LB l)(hn:L.length<=100000)(h:gi L=[]):PF GB prog 72 [.sl (L.map eL)] (.v (.slice none 0 0)):=by
 have hml:(L.map eL).length=L.length:=aX ..;refine fn (fu:=⟨15⟩) func72 J J ntmps72 J J (fun C=>?_);refine aj 10 (.d (vI (L.length:Nat))) J (by rw[hml]<;>rfl)<|gx J<|lp (X:=Nat) (fun k=>[(11, .d (vI (k:Nat))),(3, .nl)]) (fun k=>[]) (fun k=>k<=L.length) (fun k=>L.length-k) 0 J (aM _) (fun _=>J) (fun k hk=>?_);refine br J J J (fun hc12=>?_) (fun hc12=>?_)
 .
  obtain⟨l,hx⟩: ∃u,L[k]? =some u:=⟨_,aZ (by omega)⟩;obtain⟨m,hw⟩: ∃w,L[(k+1)%L.length]? =some w:=⟨_,aZ (dV _ (by omega))⟩;haveI:=hb l (aK hx);haveI:=hb m (aK hw);refine ix (fu:=⟨13⟩) _ J (ck hx) J<|aj 20 (.d (vI (L.length:Nat))) J (by rw[hml]<;>rfl)<|gx (fu:=⟨1⟩) J<|aj 21 (.d (vI (((k+1)%L.length:Nat):Int))) J J<|gx J<|ix _ J (ck hw) J<|cl J (il (l:=l)) J<|cl J (il (l:=m)) J<|cl J (pG (p:=l.dir) (q:=m.dir) (i:=97) (j:=97)) J<|cl J (mD (q:=l.dir.cross m.dir)) J<|br J J J (fun hc30=>?_) (fun hc30=>?_)
  .
   exact absurd hc30 (zS h hx hw)
  .
   exact at_ (k+1) ⟨(by omega),(by omega)⟩
 .
  refine nlV 2 J<|rz J J
def xJ{cd:DV}[hl:LB l](hlo:l.ok)[hp:aC p 900](hcd:cd= .sl (V.map eP)/\V≠[]\/cd= .v (.slice none 0 0)/\V=c.map aa.base/\c≠[])(hb: ∀v∈V,aC v j)(hcb: ∀m∈c,LB m/\m.ok)(hj:j<=10000)(hn:V.length<=100000)(hnc:c.length<=100000):PF GB prog 75 [eL l,eP p,cd, .sl (c.map eL)] (eL (fE (p.add (lf l.nor V)) ((p.add (lf l.nor V)).add l.dir))):=by
 have hV:V≠[]:=by
  rcases hcd with h|⟨_,h1,h2⟩
  .exact h.2
  .rw[h1];exact fun e=>h2 (tU.1 e)
 have hml:(V.map eP).length=V.length:=aX ..;have hmc:(c.map eL).length=c.length:=aX ..;have hV0:0<V.length:=mZ.2 hV;obtain⟨p0,h0⟩: ∃p,V[0]? =some p:=⟨_,aZ hV0⟩;obtain⟨S,hS⟩: ∃S,S=kO l.nor V:=⟨_,rfl⟩;have hg0:V.getD 0 ⟨0,0⟩=p0:=by rw[aV,h0];rfl
 have hS0:p0=S 0:=by rw[hS];show p0=(V.take 0).foldl _ _;rw[hg0];rfl
 have hSb: ∀k,aC (S k) j:=by rw[hS];exact Eg (by rw[hg0];exact hb p0 (aK h0)) hb
 have hSn:S V.length=lf l.nor V:=by rw[hS];exact Mv hV
 refine fn (fu:=⟨8⟩) func75 J J ntmps75 J J (fun C=>?_);refine mg (X:=Unit) (fun _=>[(2, .d (.sl (V.map eP)))]) (fun _=>[]) (fun _=>True) [2] [] rfl ?_ (fun _=>J) (fun _ _=>?_)
 .rcases hcd with⟨rfl,_⟩|⟨rfl,hvs,hcn⟩
  .refine gx (fu:=⟨4⟩) J<|cB J (by show some (decide _)=some false;rw[decide_eq_false (by omega)]) J<|at_ () trivial
  .refine Vi 2 J<|gx (fu:=⟨4⟩) J<|du (fu:=⟨7⟩) J J J<|aj 21 (.d (vI (c.length:Nat))) J (by rw[hmc]<;>rfl)<|gx J<|nr 2 2 53 6 J J J<|lp (X:=Nat) (fun k=>[(22, .d (vI (k:Nat))),(2, .rw 2)]) (fun k=>[(2,some (.b 53 6 (((c.take k).map aa.base).map eP) true))]) (fun k=>k<=c.length) (fun k=>c.length-k) 0 J (aM _) (fun _=>J) (fun k hk=>?_)
   have hm3:(((c.take k).map aa.base).map eP).length<=k:=by rw[aX,aX,bT];omega
   refine br J J J (fun hc23=>?_) (fun hc23=>?_)
   .
    obtain⟨m,hx⟩: ∃u,c[k]? =some u:=⟨_,aZ (by omega)⟩;haveI:=(hcb m (aK hx)).1;refine ix _ J (ck hx) J<|cl J (yv (l:=m) (hcb m (aK hx)).2.ne) J<|rf J J<|ap (((c.take (k+1)).map aa.base).map eP) J (yM hx) (Ae [_]) J<|d8 30 2 J<|at_ (k+1) ⟨(by omega),(by omega)⟩
   .
    obtain rfl:k=c.length:=by omega
    rw[cS,<-hvs];refine gm 2 J<|at_ () trivial
 .refine gx J<|ix (fu:=⟨1⟩) _ J (JG h0) J<|aj 34 (.d (eP (S 0))) J (by rw[hS0]<;>rfl)<|gx (fu:=⟨9⟩) J<|aj 36 (.d (vI (V.length:Nat))) J (by rw[hml]<;>rfl)<|gx J<|lp (X:=Nat) (fun k=>[(37, .d (vI (k:Nat))),(11, .ov 11 0)]) (fun k=>[(11,some (.o 53 [.d (.v (.bool (decide ((S k).x.num<0)))), .d (dN (S k).x.num.natAbs), .d (dD (S k).x.den), .d (.v (.bool (decide ((S k).y.num<0)))), .d (dN (S k).y.num.natAbs), .d (dD (S k).y.den)] true))]) (fun k=>k<=V.length) (fun k=>V.length-k) 0 J (aM _) (fun _=>J) (fun k hk=>?_)
  haveI:=hSb k;refine br J J J (fun hc38=>?_) (fun hc38=>?_)
  .
   obtain⟨q,hx⟩: ∃u,V[k]? =some u:=⟨_,aZ (by omega)⟩;haveI:=hb q (aK hx);obtain⟨e1,e2⟩:=RO (l:=l) hx;rw[<-hS] at e1 e2;refine ix _ J (ck hx) J<|cl J (il (l:=l)) J<|cl J (pG (p:=l.dir) (q:=q) (i:=97) (j:=j) (by omega) (by omega)) J<|cl J (il (l:=l)) J<|cl J (pG (p:=l.dir) (q:=S k) (i:=97) (j:=j) (by omega) (by omega)) J<|cl J (ku (a:=l.dir.cross q) (b:=l.dir.cross (S k)) (i:=97+j+(97+j)+1) (j:=97+j+(97+j)+1) (by omega) (by omega)) J<|br (fu1:=⟨2⟩) J J J (fun hc50=>?_) (fun hc50=>?_)
   .
    refine aj 51 (.d (eP (S (k+1)))) J (by rw[e1 hc50]<;>rfl)<|gx J<|at_ (k+1) ⟨(by omega),(by omega)⟩
   .
    rw[<-e2 hc50];exact at_ (k+1) ⟨(by omega),(by omega)⟩
  .
   obtain rfl:k=V.length:=by omega
   obtain⟨Q,hQ⟩: ∃Q,Q=p.add (lf l.nor V):=⟨_,rfl⟩;haveI hb2:=hSb V.length;haveI hQb:aC Q (j+1000):=by rw[hQ,<-hSn];exact aC.mono (inferInstance:aC (p.add (S V.length)) _)
   haveI hQ2:aC (Q.add l.dir) (j+1200):=aC.mono (inferInstance:aC (Q.add l.dir) _);haveI hQ1:aC Q (j+1200):=aC.mono hQb;refine cl J (iw (n:=1)) J<|cl J (PF.eq (te (p:=p) (q:=S V.length) (c:=(((1:Int):Int):Rat)) (i:=900) (j:=j) (k:=2) (by omega) (by omega) (by decide)) (show _=eP Q by rw[Em,hSn,<-hQ])) J<|cl J (iw (n:=1)) J<|cl J (il (l:=l)) J<|cl J (PF.eq (te (p:=Q) (q:=l.dir) (c:=(((1:Int):Int):Rat)) (i:=j+1200) (j:=97) (k:=2) (by omega) (by decide) (by decide)) (show _=eP (Q.add l.dir) by rw[Em])) J<|cl J (IK (p:=Q) (q:=Q.add l.dir) (i:=j+1200) (by omega) (L9 hlo Q)) J<|rz J (by rw[<-hQ]<;>rfl)
def zL(l:aa)(c:List aa)(v:ah):Bool:=!(sD c v&&decide (Int.sign (l.dir.cross v).num<0))
def xH(l:aa)(c:List aa):lw l c=(!c.isEmpty&&(r6 l c).all (zL l c)):=rfl
def yC(l:aa)(c:List aa):(r6 l c).length=2*c.length+1:=by
 unfold r6;rw[aY,Hh];rfl
theorem yL[hl:LB l](hb: ∀m∈c,LB m): ∀d∈r6 l c,aC d 97:=fun d hd=>by
 rcases bJ.1 hd with h|h
 .exact aD4 hb d h
 .rw[aU.1 h]
  have:=(inferInstance:aC l.dir 97);exact⟨this.y, @BQ.neg _ _ this.x⟩
def yK[hl:LB l](hb: ∀m∈c,LB m)(hn:c.length<=100000):PF GB prog 74 [eL l, .sl (c.map eL)] (vB (lw l c)):=by
 have hml:(c.map eL).length=c.length:=aX ..;obtain⟨ds,hds⟩: ∃ds,ds=r6 l c:=⟨_,rfl⟩;have hdl:ds.length=2*c.length+1:=by rw[hds];exact yC l c
 have hdb: ∀d∈ds,aC d 97:=by rw[hds];exact yL hb
 have hbl:lw l c=(!c.isEmpty&&ds.all (zL l c)):=by rw[xH,<-hds]
 have hdm:(ds.map eP).length=ds.length:=aX ..;refine fn func74 J J ntmps74 J J (fun C=>?_);refine oE (fu:=⟨8⟩) J J<|aj 15 (.d (vI (c.length:Nat))) J (by rw[hml]<;>rfl)<|gx J<|lp (X:=List ah×Nat) (fun⟨acc,k⟩=>[(16, .d (vI (k:Nat))),(5, .rw 13)]) (fun⟨acc,k⟩=>[(13,some (.b 53 6 (acc.map eP) true))]) (fun⟨acc,k⟩=>acc=(c.take k).flatMap (fun l=>[l.dir,bF l.dir])/\k<=c.length) (fun⟨acc,k⟩=>c.length-k) ⟨[],0⟩ J ⟨J,aM _⟩ (fun _=>J) (fun⟨acc,k⟩ hk=>?_)
 try dsimp only at hk⊢
 obtain⟨h1,h2⟩:=hk;have hal:acc.length=2*k:=by rw[h1,Hh,bT];omega
 have ham:(acc.map eP).length=acc.length:=aX ..;refine br (fu2:=⟨10⟩) J J J (fun hc17=>?_) (fun hc17=>?_)
 .
  obtain⟨m,hx⟩: ∃u,c[k]? =some u:=⟨_,aZ (by omega)⟩;haveI:=hb m (aK hx);refine ix _ J (ck hx) J<|cl J (il (l:=m)) J<|cl J (il (l:=m)) J<|cl J (Sy (p:=m.dir)) J<|rf J J<|ap (hv:=by simp only[ak];exact⟨by kernel_rfl,by omega⟩) ((acc++[m.dir,bF m.dir]).map eP) J (by rw[aS]<;>rfl) (Ae [m.dir,bF m.dir]) J<|d8 27 13 J<|at_ ⟨acc++[m.dir,bF m.dir],k+1⟩ (by dsimp only;exact⟨⟨by rw[dZ,hx,qY,<-h1];rfl,by omega⟩,(by omega)⟩)
 .
  obtain rfl:k=c.length:=by omega
  refine aj 30 (.d (vI (c.length:Nat))) J (by rw[hml]<;>rfl)<|gx J<|br J J J (fun hc31=>?_) (fun hc31=>?_)
  .
   have hF:lw l c=false:=by rw[hbl,pN.2 (cV (by omega))];rfl
   exact rz J (by rw[hF];rfl)
  .
   have hT:lw l c=ds.all (zL l c):=by rw[hbl];cases c with|nil=>exact absurd J hc31|cons a b=>rfl
   refine cl J (il (l:=l)) J<|cl J (il (l:=l)) J<|cl J (og (q:=l.dir.x)) J<|rf J J<|ap (fu:=⟨8⟩) (ds.map eP) J (by rw[hds,r6,aS,h1,cS]<;>rfl) (Ae [⟨l.dir.y, -l.dir.x⟩]) J<|aj 44 (.d (vI (ds.length:Nat))) J (by rw[hdm]<;>rfl)<|gx J<|lp (X:=Nat) (fun k=>[(45, .d (vI (k:Nat)))]) (fun k=>[]) (fun k=>(ds.drop k).all (zL l c)=ds.all (zL l c)/\k<=ds.length) (fun k=>ds.length-k) 0 J ⟨J,aM _⟩ (fun _=>J) (fun k hk=>?_);obtain⟨h3,h4⟩:=hk;refine br J J J (fun hc46=>?_) (fun hc46=>?_)
   .
    obtain⟨v,hv⟩: ∃u,ds[k]? =some u:=⟨_,aZ (by omega)⟩;haveI:=hdb v (aK hv);refine lb (fu:=⟨14⟩) _ J (ck hv) J<|aj 50 (.d (vI (c.length:Nat))) J (by rw[hml]<;>rfl)<|gx J<|S4 10 _ J J<|lp (X:=Bool×Nat) (fun⟨b,j⟩=>[(51, .d (vI (j:Nat))),(10, .d (vB b))]) (fun⟨b,j⟩=>[]) (fun⟨b,j⟩=>(b&&(c.drop j).all fun m=>decide (0<=Int.sign (m.dir.cross v).num))=sD c v/\j<=c.length) (fun⟨b,j⟩=>c.length-j) ⟨true,0⟩ J ⟨by simp[sD],aM _⟩ (fun _=>J) (fun⟨b,j⟩ hk=>?_)
    try dsimp only at hk⊢
    obtain⟨g1,g2⟩:=hk;refine br (fu1:=⟨6⟩) (fu2:=⟨7⟩) J J J (fun hc52=>?_) (fun hc52=>?_)
    .
     obtain⟨m,hy⟩: ∃u,c[j]? =some u:=⟨_,aZ (by omega)⟩;haveI:=hb m (aK hy)
     cases b
     .
      refine gx J<|ix (fu:=⟨7⟩) _ J (ck hy) J<|cB (hv:=by simp only[ak];exact⟨by kernel_rfl,by omega⟩) J J J<|S7 10 _ J J<|at_ ⟨false,j+1⟩ (by dsimp only;exact⟨⟨by rw[<-g1];simp,by omega⟩,(by omega)⟩)
     .
      refine gx J<|ix (fu:=⟨7⟩) _ J (ck hy) J<|du J J J<|cl J (il (l:=m)) J<|cl J (pG (p:=m.dir) (q:=v) (i:=97) (j:=97)) J<|cl (hv:=by simp only[ak];exact⟨by kernel_rfl,by omega⟩) J (mD (q:=m.dir.cross v)) J<|S7 10 _ J J<|at_ ⟨decide (0<=Int.sign (m.dir.cross v).num),j+1⟩ (by dsimp only;exact⟨⟨by rw[<-g1,Fg hy];simp,by omega⟩,(by omega)⟩)
    .
     obtain rfl:j=c.length:=by omega
     rw[fY] at g1;have hst:sD c v=b:=by rw[<-g1];simp
     cases b
     .
      refine gx (fu:=⟨1⟩) J<|cB (hv:=by simp only[ak];exact⟨by kernel_rfl,by omega⟩) J J J<|at_ (k+1) ⟨⟨by rw[<-h3,Fg hv,show zL l c v=true by unfold zL;rw[hst]<;>rfl]<;>rfl,by omega⟩,(by omega)⟩
     .
      refine gx (fu:=⟨1⟩) J<|du J J J<|cl J (il (l:=l)) J<|cl J (pG (p:=l.dir) (q:=v) (i:=97) (j:=97)) J<|cl J (mD (q:=l.dir.cross v)) J<|br J J J (fun hc73=>?_) (fun hc73=>?_)
      .
       have hF:lw l c=false:=by rw[hT,<-h3,Fg hv,show zL l c v=false by unfold zL;rw[hst,decide_eq_true hc73]<;>rfl]<;>rfl
       exact rz J (by rw[hF];rfl)
      .
       exact at_ (k+1) ⟨⟨by rw[<-h3,Fg hv,show zL l c v=true by unfold zL;rw[decide_eq_false hc73,Bool.and_false]<;>rfl]<;>rfl,by omega⟩,(by omega)⟩
   .
    have hT2:lw l c=true:=by rw[hT,<-h3,iT (by omega)];rfl
    exact rz J (by rw[hT2];rfl)
def yD(L:List aa):DV:=if gi L=[] then .v (.slice none 0 0) else .sl ((gi L).map eP)
def yH(hb: ∀l∈L,LB l)(hn:L.length<=100000):PF GB prog 72 [.sl (L.map eL)] (yD L):=by
 unfold yD;split
 .rename_i h;exact yI hb hn h
 .exact ZR hb hn
def xD(h:L≠[]):yD L= .sl ((kE L).map eP)/\kE L≠[]\/yD L= .v (.slice none 0 0)/\kE L=L.map aa.base/\L≠[]:=by
 unfold yD kE;by_cases e:gi L=[]
 .rw[if_pos e,e];exact .inr ⟨J,J,h⟩
 .rw[if_neg e,if_neg (fun k=>e (pN.1 k))];exact .inl ⟨J,e⟩
theorem xE(hb: ∀l∈L,LB l): ∀v∈kE L,aC v 1200:=fun v hv=>by
 unfold kE at hv;split at hv
 .obtain⟨l,hl,rfl⟩:=aT.1 hv
  haveI:=hb l hl;exact aC.mono (inferInstance:aC l.base 900) (by decide)
 .exact Mw hb v hv
def yT(L:List aa):(kE L).length<=L.length:=by
 unfold kE;split
 .rw[aX];exact bK _
 .exact Kw L
def xG(h:lw l c=true):c≠[]:=fun e=>by rw[e] at h;cases h
def zA(c:List aa)(V:List ah)(k:Nat):List aa:=(c.map fun l=>nP l V)++((bG V).take k).filterMap (sv c)
def yG(c:List aa)(V:List ah):zA c V 0=c.map fun l=>nP l V:=by unfold zA;simp
def zG(c:List aa)(V:List ah):zA c V (bG V).length=Fh c V (bG V):=by unfold zA Fh;rw[cS]
def zF(c:List aa)(V:List ah)(k:Nat):(zA c V k).length<=c.length+V.length:=by
 unfold zA;rw[aY,aX];have h1:=lK (sv c) ((bG V).take k);have h2:((bG V).take k).length<=V.length:=by rw[bT];unfold bG;rw[aX,kV];omega
 omega
def zN{f:ah×ah}(h:(bG V)[k]? =some f)(hf:lw (fE f.1 f.2) c=true):(zA c V k).map eL++[eL (vR (fE f.1 f.2) f.1 c)]=(zA c V (k+1)).map eL:=by
 unfold zA;rw[dZ,h];simp only[kR,pV,lQ,rK];rw[show sv c f=some (vR (fE f.1 f.2) f.1 c) by unfold sv;rw[if_pos hf]];simp
def zO{f:ah×ah}(h:(bG V)[k]? =some f)(hf:lw (fE f.1 f.2) c=false):zA c V k=zA c V (k+1):=by
 unfold zA;rw[dZ,h];simp only[kR,pV,lQ,rK];rw[show sv c f=none by unfold sv;rw[if_neg (by rw[hf];decide)]];simp
def zV(h:(bG V)[k]? =some (p,q))(hf:lw (fE p q) c=true):(zA c V k).map eL++[eL (vR (fE p q) p c)]=(zA c V (k+1)).map eL:=zN (f:=(p,q)) h hf
def xA[hl:LB l](hlo:l.ok)[hp:aC p 900](hne:c≠[])(hb: ∀m∈c,LB m)(hok: ∀m∈c,m.ok)(hn:c.length<=100000):PF GB prog 75 [eL l,eP p,yD c, .sl (c.map eL)] (eL (vR l p c)):=
 xJ hlo (xD hne) (xE hb) (fun m hm=>⟨hb m hm,hok m hm⟩) (by decide) (cM (yT c) hn) hn
def yB(h:c[k]? =some l):((c.take k).map fun l=>nP l V).map eL++[eL (nP l V)]=((c.take (k+1)).map fun l=>nP l V).map eL:=by
 rw[dZ,h,aS,aS];rfl
def xL(h: ¬((bj (p,q)).x=0/\(bj (p,q)).y=0)): ¬(p.x=q.x/\p.y=q.y):=fun⟨h1,h2⟩=>h (by
 unfold bj;dsimp only;exact⟨by grind,by grind⟩)
theorem xC{c:ao}(h: ∀s∈c,LB s.l): ∀l∈c.map (fun s=>s.l),LB l:=fun l hl=>by
 obtain⟨s,hs,rfl⟩:=aT.1 hl;exact h s hs
def zR{c:ao}(h:bC c): ∀l∈c.map (fun s=>s.l),l.ok:=fun l hl=>by
 obtain⟨s,hs,rfl⟩:=aT.1 hl;exact h.ok s hs
def zX(hV:iu V){cc:ao}(hce:c=cc.map fun s=>s.l)(hg:bC cc)(ha:fq cc)(hb: ∀l∈c,LB l)(hkb: ∀s∈cc,BL s.l kb)(h62:2*kb+10<=62)(hn:c.length<=900):PF GB prog 27 [.sl (c.map eL), .sl (V.map eP)] (.sl ((ce (fD cc V (bG V))).map eL)):=by
 have hml:(c.map eL).length=c.length:=aX ..;have hmv:(V.map eP).length=V.length:=aX ..;have hV4:=hV.le;have hVb:=FE hV.zb;have hok: ∀l∈c,l.ok:=by rw[hce];exact zR hg
 have hss:=atl hg ha hV.br.vne (E:=bG V) (fun f hf=>hV.br.nz hf);rw[<-hce] at hss;refine fn (fu:=⟨15⟩) func27 J J ntmps27 J J (fun C=>?_);refine aj 14 (.d (vI (c.length:Nat))) J (by rw[hml]<;>rfl)<|gx J<|nr 5 5 55 6 J J J<|lp (X:=Nat) (fun k=>[(15, .d (vI (k:Nat))),(5, .rw 5)]) (fun k=>[(5,some (.b 55 6 (((c.take k).map fun l=>nP l V).map eL) true))]) (fun k=>k<=c.length) (fun k=>c.length-k) 0 J (aM _) (fun _=>J) (fun k hk=>?_);have hm3:(((c.take k).map fun l=>nP l V).map eL).length<=k:=by rw[aX,aX,bT];omega
 refine br J J J (fun hc16=>?_) (fun hc16=>?_)
 .
  obtain⟨l,hx⟩: ∃u,c[k]? =some u:=⟨_,aZ (by omega)⟩;haveI:=hb l (aK hx);refine ix _ J (ck hx) J<|cl J (UJ (l:=l) (V:=V) (j:=4) (hok l (aK hx)) hV.br.vne hVb (by decide) (by omega)) J<|rf J J<|ap (((c.take (k+1)).map fun l=>nP l V).map eL) J (yB hx) (eu [_]) J<|d8 24 5 J<|at_ (k+1) ⟨(by omega),(by omega)⟩
 .
  obtain rfl:k=c.length:=by omega
  rw[cS,<-yG c V];refine cl (fu:=⟨8⟩) J (yH (L:=c) hb (by omega)) J<|aj 29 (.d (vI (V.length:Nat))) J (by rw[hmv]<;>rfl)<|gx J<|lp (X:=Nat) (fun k=>[(30, .d (vI (k:Nat))),(5, .rw 5)]) (fun k=>[(5,some (.b 55 6 ((zA c V k).map eL) true))]) (fun k=>k<=V.length) (fun k=>V.length-k) 0 J (aM _) (fun _=>J) (fun k hk=>?_);have hm4:=zF c V k;have hm3:((zA c V k).map eL).length<=c.length+V.length:=by rw[aX];exact hm4
  refine br (fu2:=⟨0⟩) J J J (fun hc31=>?_) (fun hc31=>?_)
  .
   obtain⟨p,hx⟩: ∃u,V[k]? =some u:=⟨_,aZ (by omega)⟩;obtain⟨q,hw⟩: ∃u,V[(k+1)%V.length]? =some u:=⟨_,aZ (dV _ (by omega))⟩;have hpr:=Ma hx hw;have hnz:=hV.br.nz (aK hpr);haveI hp4:=hVb p (aK hx);haveI hq4:=hVb q (aK hw);haveI hlb:LB (fE p q):=aFr (hp:=hp4.mono (by decide)) (hq:=hq4.mono (by decide));have htok:(fE p q).ok:=(Nb (f:=(p,q)) hnz).1;refine ix (fu:=⟨14⟩) _ J (ck hx) J<|aj 41 (.d (vI (V.length:Nat))) J (by rw[hmv]<;>rfl)<|gx (fu:=⟨1⟩) J<|aj 42 (.d (vI (((k+1)%V.length:Nat):Int))) J J<|gx J<|ix _ J (ck hw) J<|cl J (IK (p:=p) (q:=q) (i:=4) (by decide) (xL hnz)) J<|cl J (yK (l:=fE p q) (c:=c) hb (by omega)) J<|bb J J J (fun hc50=>?_) (fun hc50=>?_)
   .
    refine cl J (xA (l:=fE p q) (p:=p) (c:=c) htok (hp:=hp4.mono (by decide)) (xG hc50) hb hok (by omega)) J<|rf J J<|ap ((zA c V (k+1)).map eL) J (zV hpr hc50) (eu [_]) J<|d8 58 5 J<|at_ (k+1) ⟨(by omega),(by omega)⟩
   .
    rw[zO hpr hc50];exact at_ (k+1) ⟨(by omega),(by omega)⟩
  .
   obtain rfl:k=V.length:=by omega
   rw[show V.length=(bG V).length by unfold bG;rw[aX,kV],zG,hss];refine oe 5 J<|gx J<|cl J (BX (c:=fD cc V (bG V)) (fun l hl=>⟨(xZ hV.br hV.zb hg ha hkb l hl).mono (by omega)⟩) (BR hV.br hg) (by rw[<-hss,<-zG];have:=zF c V (bG V).length;omega)) J<|rz J J
def zU{E:List (ah×ah)}(hB:iD V E){c:ao}(hc:bC c)(ha:fq c):qc (ce (fD c V E))=eG V E c:=by
 obtain⟨d,d1,d2,d3,d4,d5⟩:=Ho hB hc ha;have hL: ∀p,bt d p↔dE (d.map (·.l)) p:=fun p=>by unfold bt dE;simp
 have hok: ∀l∈d.map (·.l),l.ok:=zR d2;have e:=Gw hok d2 d3 hL;obtain⟨p,hp⟩:=QE hB hc ha;unfold qc eG;rw[d5,if_pos ((ate hok).2 ⟨p,(hL p).1 ((d4 p).2 hp)⟩),e]
def yU(hV:iu V)(h:jA t)(k:Nat):gc 54 (qP V (bG V) ((cD (t.restrict [])).take k) (.leaf false)):=by
 obtain⟨K,h1,h2,h3,h4⟩:=h.k;have hE:(bG V).length<=4:=by unfold bG;rw[aX,kV];exact hV.le
 have ho:=h.x.ok;have hcl:(cD (t.restrict [])).length<=t.size+1:=cM (Ft _) (Nat.succ_le_succ (t.restrict_size []));have hKl:(m6 V (bG V) K (cD (t.restrict []))).length<=52:=by
  have:=LA (V:=V) (E:=bG V) (K:=K) (cs:=cD (t.restrict []));have:(cD (t.restrict [])).length*(bG V).length<=(t.size+1)*4:=fM hcl hE;omega
 have hsub: ∀c∈(cD (t.restrict [])).take k,c∈cD (t.restrict []):=fun c hc=>eM hc;have hgd: ∀c∈cD (t.restrict []),(eG V (bG V) c).all aa.ok/\fP (m6 V (bG V) K (cD (t.restrict []))) (eG V (bG V) c)/\(eG V (bG V) c).depth<=600/\(eG V (bG V) c).all LB:=fun c hc=>by
  obtain⟨g1,g2⟩:=zj ho c hc;have hs:=A' (t.restrict_all LB [] h.x.lb) (t.restrict_all aa.ok [] ho) c hc;have:=t.restrict_depth [];have:=h.dp;have hbk:=uR (P:=fun l=>BL l 8) (fun l h=>h.rev) (t.restrict_all _ [] h.bl) (fun s hs=>by cases hs) (qp.1 hc);exact⟨GF hV.br g1 g2,Bn fun l hl=>⟨l,M5 hc (OI (h4.restrict []) hc) l hl, .inl J⟩,cM Qi (by omega),Bn fun l hl=>⟨(xZ hV.br hV.zb g1 g2 hbk l hl).mono (by decide)⟩⟩
 have a:=(Jw (y8 hV.br h3 (cs:=cD (t.restrict []))) (by omega) (op:=1) (us:=((cD (t.restrict [])).take k).map (eG V (bG V))) (t:= .leaf false) (fun u hu=>by
  obtain⟨c,hc,rfl⟩:=aT.1 hu;obtain⟨b1,b2,b3,_⟩:=hgd c (hsub c hc);exact⟨b1,b2,b3⟩) ⟨trivial,trivial,trivial⟩).2
 rw[List.foldl_map] at a;have hlb: ∀(cs:List ao) (u:Tr),(∀c∈cs,(eG V (bG V) c).all LB)->u.all LB->(qP V (bG V) cs u).all LB:=fun cs=>by
  induction cs with
  |nil=>intro u _ hu;exact hu
  |cons c cs ih=>
   intro u h hu;exact ih _ (fun d hd=>h d (aJ _ hd)) (Tr.mergeQ_all _ 1 (h c aQ) u [] hu)
 obtain⟨b1,b2⟩:=a.size (y8 hV.br h3);have b3:(m6 V (bG V) K (cD (t.restrict []))).length*((m6 V (bG V) K (cD (t.restrict []))).length+1)<=52*53:=fM hKl (by omega);unfold qP;exact⟨⟨⟨hlb _ (.leaf false) (fun c hc=>(hgd c (hsub c hc)).2.2.2) trivial,a.ok⟩,by omega,_,by omega,y8 hV.br h3,a.am⟩,by omega⟩
def zT{E:List (ah×ah)}{cs:List ao}{c:ao}(h:cs[k]? =some c)(t:Tr):qP V E (cs.take (k+1)) t=(qP V E (cs.take k) t).mergeQ 1 (eG V E c) []:=by
 unfold qP;rw[dZ,h];simp only[kR,lN,iK,List.foldl_nil]
def yJ(hV:iu V)(h:jA t):PF GB prog 15 [eT t, .sl (V.map eP)] (eT (ma V t)):=by
 obtain⟨cs,hcs⟩: ∃cs,cs=cD (t.restrict []):=⟨_,rfl⟩;have hrb:=t.restrict_all LB [] h.x.lb;have hro:=t.restrict_all aa.ok [] h.x.ok;have hrk:=t.restrict_all _ [] h.bl;have hrd:=t.restrict_depth [];have hrs:=t.restrict_size [];have hdp:=h.dp;have hsz:=h.x.s;obtain⟨S,hS⟩: ∃S,S=fun k=>qP V (bG V) (cs.take k) (.leaf false):=⟨_,rfl⟩;have hSx: ∀k,gc 54 (S k):=fun k=>by rw[hS,hcs];exact yU hV h k
 have hS0:S 0= .leaf false:=by rw[hS];rfl
 have hml:(cs.map fun c=>vJ (c.map fun s=>s.l)).length=cs.length:=aX ..;have hcl:cs.length<=3001:=by rw[hcs];exact cM (Ft _) (by omega)
 refine fn func15 J J ntmps15 J J (fun C=>?_);refine cl (fu:=⟨0⟩) J (n4 (p:=false)) J<|aj 8 (.d (eT (S 0))) J (by rw[hS0]<;>rfl)<|gx J<|cl J (IT (t:=t) h.x.lb h.x.ok (by omega)) J<|cl (fu:=⟨1⟩) J (PF.eq (Vl (t:=t.restrict []) hrb hro (by omega) (by omega)) (show _=DV.sl (cs.map fun c=>vJ (c.map fun s=>s.l)) by rw[Vy hro,<-hcs,qQ]<;>rfl)) J<|aj 12 (.d (vI (cs.length:Nat))) J (by rw[hml]<;>rfl)<|gx J<|lp (X:=Nat) (fun k=>[(13, .d (vI (k:Nat))),(5, .d (eT (S k)))]) (fun k=>[]) (fun k=>k<=cs.length) (fun k=>cs.length-k) 0 J (aM _) (fun _=>J) (fun k hk=>?_);refine br J J J (fun hc14=>?_) (fun hc14=>?_)
 .
  obtain⟨c,hx⟩: ∃u,cs[k]? =some u:=⟨_,aZ (by omega)⟩;have hcm:c∈cD (t.restrict []):=by rw[<-hcs];exact aK hx
  obtain⟨g1,g2⟩:=zj h.x.ok c hcm;have hbk:=uR (P:=fun l=>BL l 8) (fun l h=>h.rev) hrk (fun s hs=>by cases hs) (qp.1 hcm);have hsh:=A' hrb hro c hcm;have hlb: ∀s∈c,LB s.l:=ax8 hrb hro c hcm;have hsb:=xZ hV.br hV.zb g1 g2 hbk;have hle:(ce (fD c V (bG V))).length<=10:=by have h1:=oO (fD c V (bG V));have h2:=BK c V (bG V).length;rw[BT] at h2;have:=hV.le;omega
  have hcc:=aE2 (c:=ce (fD c V (bG V))) (fun l hl=>⟨(hsb l (Ad l hl)).mono (by decide)⟩) (fun l hl=>BR hV.br g1 l (Ad l hl)) (by omega);have eS:S (k+1)=(S k).mergeQ 1 (qc (ce (fD c V (bG V)))) []:=by rw[hS,zU hV.br g1 g2];exact zT hx _
  refine ix _ J (ck hx) J<|cl J (zX hV (cc:=c) (c:=c.map fun s=>s.l) J g1 g2 (xC hlb) (kb:=8) hbk (by decide) (by rw[aX];omega)) J<|cl J (YW (c:=ce (fD c V (bG V))) (fun l hl=>⟨(hsb l (Ad l hl)).mono (by decide)⟩) (fun l hl=>BR hV.br g1 l (Ad l hl)) (by omega)) J<|cl (fu:=⟨0⟩) J (V' (op:=1) (a:=S k) (b:=qc (ce (fD c V (bG V)))) (by decide) (hSx k) hcc (by decide)) J<|aj 22 (.d (eT (S (k+1)))) J (by rw[eS])<|gx J<|at_ (k+1) ⟨(by omega),(by omega)⟩
 .
  obtain rfl:k=cs.length:=by omega
  exact rz J (by rw[hS];dsimp only;rw[cS,hcs]<;>rfl)
def zZ{l:List ah}(h:l[k]? =some q):(((l.take k).map bF).map eP)++[eP (bF q)]=((l.take (k+1)).map bF).map eP:=by
 rw[dZ,h,aS,aS];rfl
def yZ(hV:iu V)(h:jA t):PF GB prog 16 [eT t, .sl (V.map eP)] (eT (qD V t)):=by
 have hml:(V.map eP).length=V.length:=aX ..;have hV4:=hV.le;have hVb:=FE hV.zb;refine fn (fu:=⟨15⟩) func16 J J ntmps16 J J (fun C=>?_);refine aj 9 (.d (vI (V.length:Nat))) J (by rw[hml]<;>rfl)<|gx J<|nr 5 5 53 6 J J J<|lp (X:=Nat) (fun k=>[(10, .d (vI (k:Nat))),(5, .rw 5)]) (fun k=>[(5,some (.b 53 6 (((V.take k).map bF).map eP) true))]) (fun k=>k<=V.length) (fun k=>V.length-k) 0 J (aM _) (fun _=>J) (fun k hk=>?_);have hm3:(((V.take k).map bF).map eP).length<=k:=by rw[aX,aX,bT];omega
 refine br (fu2:=⟨0⟩) J J J (fun hc11=>?_) (fun hc11=>?_)
 .
  obtain⟨q,hx⟩: ∃u,V[k]? =some u:=⟨_,aZ (by omega)⟩;haveI:=hVb q (aK hx);refine ix _ J (ck hx) J<|cl J (Sy (p:=q)) J<|rf J J<|ap (((V.take (k+1)).map bF).map eP) J (zZ hx) (Ae [_]) J<|d8 18 5 J<|at_ (k+1) ⟨(by omega),(by omega)⟩
 .
  obtain rfl:k=V.length:=by omega
  rw[cS];refine oe 5 J<|gx J<|cl J (li (t:=t)) J<|cl J (yJ hV.neg h.compl) J<|cl J (li (t:=ma (V.map bF) t.compl)) J<|rz J J
def Tr.partsF:Tr->ao->List (Bool×ao)
 | .leaf b,c=>[(b,c)]
 | .node l x y,c=>(if co c l then x.partsF (zp c l) else [])++(if co c l.rev then y.partsF (zp c l.rev) else [])
def Tr.parts_F: ∀(t:Tr) (c:ao),t.parts c=t.partsF c
 | .leaf _,_=>rfl
 | .node l x y,c=>by rw[Tr.parts,Tr.partsF,ES,ES,x.parts_F,y.parts_F]
def yE(V:List ah)(E:List (ah×ah))(c:ao):qP V E [c] (.leaf false)=(eG V E c).restrict []:=by
 show(Tr.leaf false).mergeQ 1 (eG V E c) []=_;rw[Tr.mergeQ];unfold Tr.chooseQ;rw[if_pos (.inl J),if_neg (by decide)]
def xM:List ah:=(eg 0 0 1 1).map ZP.q
def sqC:List ao:=((((((sC [eg 0 0 1 1] 2).restrictF []).restrictF []).partsF []).filter (·.1)).map (·.2))
def yX:cD ((fC [eg 0 0 1 1] 2).restrict [])=sqC:=by
 unfold cD fC sqC;rw[Tr.restrict_F,Tr.restrict_F,Tr.parts_F]
def zP:Tr->Tr->Bool
 | .leaf a, .leaf b=>a==b
 | .node l x y, .node m u v=>decide (l=m)&&(zP x u&&zP y v)
 |_,_=>false
def zH: ∀{t u:Tr},zP t u=true->t=u
 | .leaf a, .leaf b,h=>by rw[eq_of_beq (show(a==b)=true from h)]
 | .node l x y, .node m u v,h=>by
  simp only[zP,bV,decide_eq_true_eq] at h;rw[h.1,zH h.2.1,zH h.2.2]
 | .leaf _, .node ..,h=>by cases h
 | .node .., .leaf _,h=>by cases h
def yS{α:Type}{f:α->Bool}{l:List α}(h:l.map f=[true]): ∃c,l=[c]/\f c=true:=by
 cases l with
 |nil=>cases h
 |cons a t=>
  rw[bU,List.cons.injEq] at h;exact⟨a,by rw[tU.1 h.2],h.1⟩
def yO:(sqC.map fun c=>zP ((eG xM (bG xM) c).restrictF []) ((sC [eg 0 0 2 2] 2).restrictF []))=[true]:=by decide+kernel
def yN:pP xM (bG xM) (fC [eg 0 0 1 1] 2)=fC [eg 0 0 2 2] 2:=by
 obtain⟨c,hc,hr⟩:=yS yO;unfold pP;rw[yX,hc,yE,Tr.restrict_F,zH hr,<-Tr.restrict_F];rfl
section
variable {a b c:Tr}(ha:a.all aa.ok)(hb:b.all aa.ok)(hc:c.all aa.ok)
include ha hb
end
def yP(h:gc k t):PF GB prog 45 [eA t] (.tp [eT t,vB true]):=Wk h.lb h.ok (by have:=h.s;omega)
def zJ(h:eD r): ∀q∈[r],eD q:=fun q hq=>by rw[aU.1 hq];exact h
def zM(h:eD r):PF GB prog 11 [jg r] (lz r):=by
 have hn:=h.n6;have:=Qc (GB:=GB) (ps:=r.map ZP.q) (fun p hp=>aC.mono (Si h p hp) (by decide)) (by rw[aX];omega);rw[AW] at this;exact this
def yQ(hV:iu (r.map ZP.q))(h:jA t):PF GB prog 15 [eT t,jg r] (eT (ma (r.map ZP.q) t)):=by
 rw[<-AW];exact yJ hV h
def yR(hV:iu (r.map ZP.q))(h:jA t):PF GB prog 16 [eT t,jg r] (eT (qD (r.map ZP.q) t)):=by
 rw[<-AW];exact yZ hV h
def zB(h:eD r):PF GB prog 36 [jg r] (eT (fC [r] 2)):=by
 refine fn func36 J J ntmps36 J J (fun C=>?_);refine rf (fu:=⟨0⟩) J J<|aj 4 (.d (.sl ([r].map jg))) J J<|gx J<|cl J (Z6 (rs:=[r]) (zJ h) (by simp)) J<|cl J (X9 (rs:=[r]) (fill:=2) (zJ h) (by simp)) J<|cl J (aC6 (rs:=[r]) (fill:=2) (zJ h) (by simp)) J<|rz J J
def zI{a b:Int}(h1:a.natAbs<=50:=by decide)(h2:b.natAbs<=50:=by decide):PF GB prog 44 [.v (.int .i64 a), .v (.int .i64 b)] (jg (eg a a b b)):=by
 refine fn func44 J J ntmps44 J J (fun C=>?_);refine cl J (i8 (m:=a) (n:=a)) J<|cl J (i8 (m:=b) (n:=a)) J<|cl J (i8 (m:=b) (n:=b)) J<|cl J (i8 (m:=a) (n:=b)) J<|rf J J<|rz J J
def yF:eD (eg 0 0 1 1):=FO
def yY:eD (eg 0 0 2 2):=FO
def sq01_br:iu ((eg 0 0 1 1).map ZP.q)/\kI ((eg 0 0 1 1).map ZP.q)=true:=SL (a:=0) (b:=0) (c:=1) (d:=1)
def sq01_sm:jA (fC [eg 0 0 1 1] 2):=by
 have h1: ∀p∈eg 0 0 1 1,p.1.natAbs<=3/\p.2.natAbs<=3:=fun p hp=>by
  simp only[eg,aW,dT,or_false] at hp;rcases hp with rfl|rfl|rfl|rfl<;>exact⟨by decide,by decide⟩
 have:=Ls yF (by decide);exact HG yF h1 (by rw[show(eg 0 0 1 1).length=4 from J];omega)
def yV:pD (ma ((eg 0 0 1 1).map ZP.q) (fC [eg 0 0 1 1] 2)) (fC [eg 0 0 2 2] 2):=by
 have h1:=(Ci sq01_br.1 sq01_sm).1;have h2:=Ia (fill:=2) (zJ yY) (by simp);exact⟨h1.gd,h2.gd,h1.s,(h2.x (C0 _ _) (by decide)).s⟩
def yW:sA (ma ((eg 0 0 1 1).map ZP.q) (fC [eg 0 0 1 1] 2)) (fC [eg 0 0 2 2] 2)=true:=by
 rw[show ma ((eg 0 0 1 1).map ZP.q) (fC [eg 0 0 1 1] 2)=fC [eg 0 0 2 2] 2 from yN];have h2:=(Ia (fill:=2) (zJ yY) (by simp)).gd.ok;exact TB h2 h2 (L:=(fC [eg 0 0 2 2] 2).lns) (uu h2) (fun l hl=>hl) (fun l hl=>hl) fun p _=>J
def zW(hE:EG GB ai al ae):PF GB prog 13 [] (.v (.bool true)):=by
 have hx:=(Ci sq01_br.1 sq01_sm).1;refine fn func13 J J ntmps13 J J (fun C=>?_);refine cl J (zI (a:=0) (b:=1)) J<|cl J (zB yF) J<|cl J (AX sq01_sm.x) J<|cl J (zI (a:=0) (b:=1)) J<|cl J (zM yF) J<|cl J (QO hE (SU yF (by decide) (by decide)) sq01_br.2 sq01_br.1 sq01_sm) J<|cl (fu:=⟨10⟩) J (yP hx) J<|du (fu:=⟨2⟩) J J J<|mn 22 J<|gx J<|cl J (zI (a:=0) (b:=2)) J<|cl J (zB yY) J<|cl (fu:=⟨0⟩) J (UN yV) J<|aj 28 (.d (.v (.bool true))) J (by rw[yW]<;>rfl)<|gx J<|rz J J
def zY(hes:es.length<=400)(ha:a<=es.length):PM GB prog 7 (kv [none] b) b 84 [.sl (es.map vI), .v (.int .i64 (a:Nat))] (eT (lj es a).1) [.sl (es.map vI), .v (.int .i64 ((lj es a).2:Nat))]:=by
 have hk0:=hH (n:=4) ha;obtain⟨hl,hl2⟩:=L3 hk0;obtain⟨hv,hv2⟩:=A5 hk0;refine xW func7 J J ntmps7 J J (fun C b m lo hmb=>?_);refine cm J (fun b=>(nF (n:=4) hes ha)) J<|br J J J (fun hc5=>?_) (fun hc5=>?_)
 .
  refine cm J (fun b=>(aKM hes hk0)) J<|cl J (n4 (p:=true)) J<|cl (fu:=⟨1⟩) J (n4 (p:=false)) J<|CF J J<|cl J (IT (t:= .node (lF es (au es 4 a).2).1 (.leaf true) (.leaf false)) ⟨⟨hl.bl⟩,trivial,trivial⟩ ⟨hl.ok,trivial,trivial⟩ (by simp[Tr.depth])) J<|?_;exact mF hmb J J (by rw[show lj es a=_ from if_pos hc5];rfl) (by rw[show lj es a=_ from if_pos hc5])
 .
  refine br J J J (fun hc14=>?_) (fun hc14=>?_)
  .
   refine cm J (fun b=>(H4 hes hk0)) J<|cl J (zB hv) J<|?_;exact mF hmb J J (by rw[show lj es a=_ from(if_neg hc5).trans (if_pos hc14)];rfl) (by rw[show lj es a=_ from(if_neg hc5).trans (if_pos hc14)])
  .
   refine br J J J (fun hc19=>?_) (fun hc19=>?_)
   .
    refine cm J (fun b=>(H4 hes hk0)) J<|cl J (zB hv) J<|cl J (li (t:=fC [(gn es (au es 4 a).2).1] 2)) J<|?_;exact mF hmb J J (by rw[show lj es a=_ from(if_neg hc5).trans ((if_neg hc14).trans (if_pos hc19))];rfl) (by rw[show lj es a=_ from(if_neg hc5).trans ((if_neg hc14).trans (if_pos hc19))])
   .
    refine cl J (i8 (m:=0) (n:=0) (by decide) (by decide)) J<|cl J (i8 (m:=3) (n:=0) (by decide) (by decide)) J<|cl J (i8 (m:=3) (n:=1) (by decide) (by decide)) J<|cl J (i8 (m:=1) (n:=1) (by decide) (by decide)) J<|cl J (i8 (m:=1) (n:=3) (by decide) (by decide)) J<|cl J (i8 (m:=0) (n:=3) (by decide) (by decide)) J<|rf (fu:=⟨0⟩) J J<|aj 31 (.d (jg ul)) J J<|gx J<|cl J (zB Sz) J<|?_;exact mF hmb J J (by rw[show lj es a=_ from(if_neg hc5).trans ((if_neg hc14).trans (if_neg hc19))];rfl) (by rw[show lj es a=_ from(if_neg hc5).trans ((if_neg hc14).trans (if_neg hc19))])
def xI(hes:es.length<=400)(ha:a<=es.length)(hr:t=(lj es a).1)(ha':a'=(lj es a).2):PM GB prog 7 (kv [none] b) b 84 [.sl (es.map vI), .v (.int .i64 (a:Nat))] (eT t) [.sl (es.map vI), .v (.int .i64 (a':Nat))]:=by
 subst hr;subst ha';exact zY hes ha
def xK(hes:es.length<=400)(ha:a<=es.length)(hr:r=(gn es a).1)(ha':a'=(gn es a).2):PM GB prog 8 (kv [none] b) b 84 [.sl (es.map vI), .v (.int .i64 (a:Nat))] (jg r) [.sl (es.map vI), .v (.int .i64 (a':Nat))]:=by
 subst hr;subst ha';exact H4 hes ha
def zQ(hE:EG GB ai al ae)(hb:es0.length<=1125899906842624):PF GB prog 3 [.sl (es0.map vI)] (.v (.bool true)):=by
 obtain⟨es,hee⟩: ∃es,es=es0.take 400:=⟨_,rfl⟩;have hes:es.length<=400:=by rw[hee];simp;omega
 obtain⟨A,hA⟩: ∃A,A=(lj es 0).1:=⟨_,rfl⟩;obtain⟨a1,ha1⟩: ∃a,a=(lj es 0).2:=⟨_,rfl⟩;obtain⟨hs,hl1⟩:=aAk (aM es.length);rw[<-hA] at hs;rw[<-ha1] at hl1;obtain⟨r,hr⟩: ∃r,r=(gn es a1).1:=⟨_,rfl⟩;obtain⟨a2,ha2⟩: ∃a,a=(gn es a1).2:=⟨_,rfl⟩;have hrg:s6 r:=by rw[hr];exact aEx hl1
 obtain⟨hV,hcv⟩:=aDz hl1;rw[<-hr] at hV hcv;have x1:=(Ci hV hs).1;have x2:=(NS hV hs).1;refine fn func3 J J ntmps3 J J (fun C=>?_);refine cn J ((aGb hb hee)) (fun _=>J) (fun _=>?_);refine cm J (fun b=>(xI hes (aM _) hA ha1)) J<|cm J (fun b=>(xK hes hl1 hr ha2)) J<|cl J (AX hs.x) J<|cl J (zM hrg.ok) J<|cl J (QO hE hrg hcv hV hs) J<|cl J (AX hs.x) J<|cl J (zM hrg.ok) J<|cl (fu:=⟨10⟩) J (Yi hE hrg hcv hV hs) J<|Lc (fu:=⟨2⟩) J (zW hE) J<|du (fu:=⟨3⟩) J J J<|du J J J<|cl J (yQ hV hs) J<|cl (fu:=⟨0⟩) J (AX x1) J<|Lc J (Nz x1 J) J<|cl J (yR hV hs) J<|cl J (AX x2) J<|cl J (Nz x2 J) J<|rz J J
end Go.Sx
end
section
namespace Go.Sx
open Go Go.Proofs Go.ChangeShapes Go.WideShapes Go.ChangeAt Go.RowKit
variable {w w' W:World}{off base g:Nat}{v:Value}{H:Type}{P:Program}
def GW(w:World):Gh:=fun b=>match w.heap[b]? with|some (.cells cs _ _)=>some cs.toList|_=>none
def GW.sub{b:Nat}{cs:List Value}(h:GW w b=some cs): ∃ty fz,w.heap[b]? =some (.cells ⟨cs⟩ ty fz):=by
 unfold GW at h;split at h
 .rename_i c t f e
  cases h
  exact⟨t,f,by rw[e]⟩
 .cases h
def GW.of_cell{b:Nat}(h:w.cell? ⟨b,off,none⟩=some v): ∃cs,GW w b=some cs/\cs[off]? =some v:=by
 unfold World.cell? at h;unfold GW;split at h
 .rename_i c t f e
  simp only at e;refine⟨c.toList,by rw[e],?_⟩;simpa using h
 all_goals first|(rename_i e;cases h)|cases h
def bH.below{G G':Gh}{own:List aA}(h:bH ⟨w,G,[],[],[],none,fun _=>none⟩ own G' w'):Below w.heap.size w w':=
 ⟨h.os,h.tape,h.output,h.size,fun k hk=>h.keep k hk (by simp)⟩
def isLs_vI{G:Gh}: ∀es:List Int,IsLs G (es.map vI) (es.map fun n=>Value.int .i64 n)
 |[]=> .nil
 |n::t=> .cons (aH.2 J) (isLs_vI t)
def open_vI{enc:TypeId×Value->H}{t e:TypeId}{d:DataW H}{ps:List MemPlace}(ht:P.underlying t=some (.slice e))(he:P.underlying e=some (.int .i64))(hc:P.cellsOf e=1)
  (hv:Value.okWide P w .any base t v)(h:DataW.Trod enc P w 0 (fun _=>true) true t v d ps):
  ∃es:List Int,Is (GW w) (.sl (es.map vI)) v/\(d= .nil/\es=[]\/ ∃sp,d= .slice (lits .i64 es) sp)/\(∀n∈es,(Lit.int .i64 n).wf=true):=by
 obtain⟨a0,len,cap,rfl⟩:=okWide_slice ht hv;obtain⟨fuel,hf⟩:=h;rcases open_ints ht he hc hf with⟨hcs,hx⟩|⟨a,len',cap',zs,hcs,_,hl,hm,hz,hx,hcell,hwz⟩
 .simp[Value.cells] at hcs
  obtain⟨rfl,rfl,rfl⟩:=hcs;simp only[Prod.mk.injEq] at hx;exact⟨[],gw.2 ⟨0,⟨none,0,0⟩,[],J,gg.nil _ 0, .nil⟩, .inl ⟨hx.1,J⟩,by simp⟩
 .simp[Value.cells] at hcs
  obtain⟨rfl,rfl,rfl⟩:=hcs;simp only[Prod.mk.injEq] at hx;simp only[if_true] at hz;refine⟨zs.take len,gw.2 ⟨1,⟨some a,len,cap⟩,(zs.take len).map fun n=>Value.int .i64 n,J,⟨by simp;omega,hl,?_⟩,isLs_vI _⟩, .inr ⟨_,hx.1⟩,fun n hn=>hwz n (eM hn)⟩;by_cases h0:len=0
  .exact .inl (by simp[h0])
  .right
   obtain⟨b,off,spot⟩:=a;have hspot:spot=none:=by simpa[Addr.add] using World.cell?_spot (hcell 0 (by omega))
   subst hspot;have c0: ∀i,i<zs.length->w.cell? ⟨b,off+i,none⟩=some (.int .i64 (zs.getD i 0)):=fun i hi=>by
    have:=hcell i hi;rwa [Go.WideShapes.add_plain] at this
   obtain⟨cs,hcs,_⟩:=GW.of_cell (by have h9:=c0 0 (by omega);rw[gK] at h9;exact h9);refine⟨b,off,cs,J,hcs,fun i hi=>?_⟩;simp only[aX,bT] at hi;obtain⟨cs',hcs',hi'⟩:=GW.of_cell (c0 i (by omega));rw[hcs] at hcs'
   cases hcs'
   rw[jJ,TQ.2 hi'];simp[aG,List.getD,aZ (show i<zs.length by omega)]
inductive CSh where
 |b
 |i (k:IntKind)
 |sl (ag:Bool) (l:List CSh)
mutual
def Fit:CSh->DV->Prop
 | .b,d=> ∃b,d= .v (.bool b)
 | .i k,d=> ∃n,d= .v (.int k n)/\(Lit.int k n).wf=true
 | .sl ag l,d=> ∃m:List DV,d= .sl m/\m.length<=maxLen/\ ∀x∈m,∃ys,FitL l ys/\((ag=true/\x= .ag ys)\/(ag=false/\ys=[x]))
def FitL:List CSh->List DV->Prop
 |[],ds=>ds=[]
 |s::l,ds=> ∃d t,ds=d::t/\Fit s d/\FitL l t
end
section
variable {enc:TypeId×Value->H}
end
def es_star: "*" ++ "errors.errorString" = "*errors.errorString" :=by decide
def es_row(u:TypeId)(h:Tryz.prog.typeName? 3 u=some "*errors.errorString"):u=433:=
 typeName_ptr_named (nm:= "errors.errorString") (by rw[es_star];kernel_rfl) (by kernel_rfl) (by decide) u (by rw[es_star];exact h)
def sent_of{n:String}{text:List UInt8}{r:List (String×DataW Unit)}(h:laidMet Tryz.prog ((n, .iface "*errors.errorString" (.ptr (.agg [.lit (.string text)])))::r) W)(hg:Tryz.prog.globalNamed n=some g)(ht:(Tryz.prog.globals[g]?).map (·.type)=some 33):
  ∃a,GW W g=some [.iface 433 (.pointer (some a))]:=by
 obtain⟨a,s,hv,_⟩:=laid_sentinel h hg ht Tryz.underlying33 es_row Tryz.underlying433 Tryz.underlying458 rfl rfl Tryz.underlying9 (by kernel_rfl) (by kernel_rfl);refine⟨a,?_⟩;unfold World.var? at hv;rw[hg,Option.bind_some] at hv;unfold GW;split at hv
 .rename_i c t f e
  rw[e];cases hv;rfl
 .cases hv
def laid_plain{l:List (String×DataW Unit)}(h:laidMetH Tryz.prog l W)(hp:(l.all fun x=>x.2.handleName?.isNone)=true):laidMet Tryz.prog l W:=by rwa [Go.MakeChecks.laidMetH_plain _ _ _ hp] at h
end Go.Sx
end
section
namespace Go.Proofs.YtjpdfobnjmflkaaGreatDoor
open Go.ChangeShapes Go.WideShapes Go.ChangeAt Go.RowKit Go.Sx
theorem js1:mapsRowed Tryz.pinned.checked.prog=true:=by kernel_rfl
theorem js2:Tryz.pinned.checked.prog.stopsHeard=true:=by kernel_rfl
theorem js3:Tryz.pinned.checked.prog.mayEnter=true:=by kernel_rfl
theorem js4:laidOutB Tryz.prog=true:=by kernel_rfl
end Go.Proofs.YtjpdfobnjmflkaaGreatDoor
end
section
namespace Go.Proofs.YtjpdfobnjmflkaaGreatDoor.morphSums
open Go.ChangeShapes Go.WideShapes Go.ChangeAt Go.RowKit Go.Sx
theorem own:ownKnob Tryz.prog.godebug=none:=by kernel_rfl
theorem laidOut:laidOutB Tryz.prog=true:=js4
theorem cellsI:Tryz.prog.cellsOf 3=1:=by kernel_rfl
theorem bytesI:Tryz.prog.bytesOf 3=8:=by kernel_rfl
theorem door_met(os:Os)(args:Array Value):laidMetH Tryz.prog Rows.morphSumsRow.laid ((World.doorLaid Tryz.prog 100 os).forCall (fun _ _=>0) ⟨#[],args,[]⟩).memory:=
 laidMetH_of_parts3 (fuel:=8) (laidMet_of_run' 8 (by kernel_rfl) (by kernel_rfl)) (by kernel_rfl) (by kernel_rfl)
theorem eg_of{W:World}(h:laidMetH Tryz.prog Rows.morphSumsRow.laid W): ∃ai al ae,EG (GW W) ai al ae:=by
 have h1:=laid_plain h J;obtain⟨ai,hi⟩:=sent_of (g:=1) h1.tail.tail.tail (by kernel_rfl) (by kernel_rfl);obtain⟨al,hl⟩:=sent_of (g:=2) h1.tail.tail.tail.tail.tail (by kernel_rfl) (by kernel_rfl);exact⟨ai,al,al,hi,hl⟩
theorem contract(H:Type)(enc:TypeId×Value->H)(W:World)(base:Nat)(args:Array Value)(ds gs:List (DataW H))(before:List MemPlace)
  (hval: ∀(j:Nat) t v,Tryz.f3.params[j]? =some t->args[j]? =some v->Value.okWide Tryz.prog W .any base t v)
  (hW:DataW.Whole enc Tryz.prog Tryz.f3.params.toList Rows.morphSumsSpec.vars false W args.toList ds gs before)
  (hz:(DataW.weightsEach Tryz.prog (Tryz.f3.params.toList++(OpenSpec.ofChange Rows.morphSumsSpec).bare.plain.varTypes Tryz.prog) (ds++gs)).all (· <=reachBytes)=true)(hlaid:laidMetH Tryz.prog Rows.morphSumsRow.laid W):
  Calls Tryz.prog 3 args W fun e W'=> ∃v,e= .returned v/\Rows.morphSumsSpec.post enc Tryz.prog Tryz.f3 false true false false W args v W':=by
 have hW':=hW;obtain⟨p,q,hA0,hV,rfl,_,_⟩:=hW;have hA:DataW.TrodAll enc Tryz.prog W 0 (fun _=>true) true Tryz.f3.params.toList args.toList ds p:=hA0;rw[Tryz.params3] at hA hval hz;obtain⟨v0,d0,hargs,rfl,h0⟩:=trodAll_one hA;obtain rfl:args= #[v0]:=by cases args;simp_all
 obtain⟨rfl,rfl⟩:=trodVars_none hV;clear hA0;simp only[List.append_nil] at hW';have hlt: ∀x∈p,x.block<W.heap.size:=fun x hx=>by simpa using hW'.lt x hx
 obtain⟨es,hI,hd,_⟩:=open_vI Tryz.underlying22 Tryz.underlying3 cellsI (hval 0 22 v0 rfl rfl) h0;have hb:es.length<=1125899906842624:=by
  rcases hd with⟨rfl,rfl⟩|⟨sp,rfl⟩
  .exact Nat.zero_le _
  .have:=sized_slice hz (j:=0) (t:=22) (e:=3) J J Tryz.underlying22
   rw[bytesI] at this;have hr:=reachBytes_lt;have hl:(lits (H:=H) .i64 es).length=es.length:=by simp[lits]
   rw[hl] at this;omega
 obtain⟨ai,al,ae,hE⟩:=eg_of hlaid;have hf:=(zQ hE (es0:=es) hb) (GW W) [v0] (bP.refl _) (.cons hI .nil);refine(hf.run W (fun b cs hg=>GW.sub hg)).mono fun e W' ⟨v,G',he,hr,hv⟩=>?_;rw[aH] at hv;subst hv;subst he;have hn:=hr.below;have t2:=trodAll_mk1 (Below.trod laidOut (by kernel_rfl) (of_decide_eq_true (by kernel_rfl)) h0 hn hlt);exact⟨_,J,⟨_,_,_,[],_,[],hW',trodAll_mk1 (shut_bool Tryz.underlying4 _),t2,J,hn.frame _,fun h=>by cases h⟩⟩
theorem reads(os:Os){H:Type}(enc:TypeId×Value->H): ∃places,DataW.whole enc Tryz.prog ((World.doorLaid Tryz.prog 100 os).forCall (fun _ _=>0) ⟨#[], #[.slice none 0 0],[]⟩).memory Tryz.f3.params.toList Rows.morphSumsSpec.vars false #[Value.slice none 0 0].toList 8=some ([.nil],[],places):=
 ⟨[],by kernel_rfl⟩
theorem lifted(os:Os)(started:os.Started)(H:Type)(enc:TypeId×Value->H)(F:Stop.Interp):
  ReturnsInHanded {} Tryz.checked os 3 .any ((OpenSpec.ofChange Rows.morphSumsSpec).preRow enc Tryz.prog Tryz.f3 Rows.morphSumsRow.domain false Rows.morphSumsRow.laid) (((OpenSpec.ofChange Rows.morphSumsSpec).at F).post enc Tryz.prog Tryz.f3 false true false false):=by
 obtain⟨places,hx⟩:=reads os enc;refine returnsInHanded_of_row (C:=Tryz.checked) (s:=OpenSpec.ofChange Rows.morphSumsSpec) own started (by kernel_rfl) Tryz.func3
  (witness_row_atRef (enc:=enc) (C:=Tryz.checked) false (World.doorLaid Tryz.prog 100 os) #[.slice none 0 0] rfl (by kernel_rfl) (by kernel_rfl) (by kernel_rfl)
   (OpenSpec.preRow_of_cond 8 hx (by kernel_rfl) (fun k hk=>by cases hk) (by kernel_rfl) (door_met os _))) ?_
 intro W base args ds gs before hval hW _ _ hz hlaid _ _;exact contract H enc W base args ds gs before hval hW hz hlaid
theorem j1:(Rows.morphSumsRow.inPlace==Tryz.pinned.checked.prog.inPlace 3)=true:=by kernel_rfl
theorem j2:(Rows.morphSumsRow.unfollowed==Tryz.pinned.checked.prog.unfollowed 3)=true:=by kernel_rfl
theorem j3:(Rows.morphSumsRow.recurses==Tryz.pinned.checked.prog.recurses 3)=true:=by kernel_rfl
theorem j4:(Rows.morphSumsRow.named==Tryz.pinned.checked.prog.varsNamed 3)=true:=by kernel_rfl
theorem j5:laidOutB Tryz.pinned.checked.prog=true:=laidOut
theorem j6:mapsRowed Tryz.pinned.checked.prog=true:=js1
theorem j7:Tryz.pinned.checked.prog.mainIs=some (Rows.morphSumsCard.stood.harness.1,Rows.morphSumsCard.stood.harness.2.toList):=by kernel_rfl
theorem j8:false=Rows.morphSumsRow.goesBy Tryz.pinned.checked.prog:=by kernel_rfl
theorem j9:(Rows.morphSumsRow.plainKeys==Tryz.pinned.checked.prog.plainKeys)=true:=by kernel_rfl
theorem j10:(Rows.morphSumsRow.lifted==Tryz.pinned.checked.prog.liftsFinal)=true:=by kernel_rfl
theorem j11:(Tryz.pinned.checked.prog.make==some Rows.morphSumsRow.make)=true:=by kernel_rfl
theorem closed:joinedFacts Tryz.pinned.checked.prog 3 Tryz.f3 (OpenSpec.ofChange Rows.morphSumsSpec).bare Rows.morphSumsRow=true:=by
 unfold joinedFacts;rw[j1,j2,j3,j4,j5,j6,j9,j10,j11,js2,js3]
 kernel_rfl
theorem said:Rows.MorphSumsSaid:=
 OpenClaim.holds_of_cond 3 Tryz.f3 J J J J J J J ⟨J,J,J,J,J⟩ J J J J J (by kernel_rfl) Tryz.func3 closed
  (of_decide_eq_true (by kernel_rfl)) (by unfold Func.isWrapper;first|(rw[if_pos (by decide+kernel)];kernel_rfl)|(rw[if_neg (by decide+kernel)];exact⟨J,J⟩))
  (fun os started H enc _ F=>by rw[OpenClaim.pre_eq_preRow];exact lifted os started H enc F)
theorem plain(f:FuncId)(fn:Func)(hf:Tryz.pinned.checked.prog.funcNamed "bspregion/bspregionlaw29.MorphSums" =some f)(hfn:Tryz.pinned.checked.prog.funcs[f]? =some fn):
  true=Tryz.pinned.checked.prog.looks []/\ ∀(j:Nat) t,fn.params[j]? =some t->Tryz.pinned.checked.prog.wantsStandIn t=false:=by
 obtain rfl:f=3:=Option.some.inj ((show Tryz.prog.funcNamed "bspregion/bspregionlaw29.MorphSums" =some 3 by kernel_rfl).symm.trans hf) |>.symm;obtain rfl:fn=Tryz.f3:=(Option.some.inj (Tryz.func3.symm.trans hfn)).symm;refine⟨by kernel_rfl,fun j t ht=>?_⟩;rw[Tryz.params3] at ht;have hm:=Array.mem_of_getElem? ht;simp only[List.mem_toArray,List.mem_cons,List.not_mem_nil,or_false] at hm;subst hm;exact(show Tryz.prog.wantsStandIn 22=false by kernel_rfl)
theorem card:Rows.MorphSumsCardSaid:=
 Claim7.holds_tied_plain_at .later [] _ _ _ _ said (fun _ h=>by cases h) (by kernel_rfl) (fun _ h=>by cases h) morphSums_row_tie J ⟨J,J⟩ j7 J plain j8
#print axioms card
end Go.Proofs.YtjpdfobnjmflkaaGreatDoor.morphSums
end
