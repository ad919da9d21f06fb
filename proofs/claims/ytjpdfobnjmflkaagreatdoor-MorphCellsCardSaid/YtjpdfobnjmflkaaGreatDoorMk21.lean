import Derived.Test.YtjpdfobnjmflkaaGreatDoorMk20
import Derived.Test.YtjpdfobnjmflkaaGreatDoorCards
import Derived.Test.YtjpdfobnjmflkaaGreatDoorTie
import Derived.WalkKit
import Derived.ProofKit
import Derived.OpenShut
import Derived.Deep.DeepHandedRow
import Derived.Deep.DeepWitnessRowRef
import Derived.LaidMore
import Derived.Lib.LaidTab
import Derived.SizedLaws
import Derived.Stop.LaidErr
import Derived.MakeChecks
set_option linter.all false
set_option maxHeartbeats 4000000
set_option maxRecDepth 100000
section
namespace Go.Sx
open Go Go.Proofs Tryz
variable {L c W ls:List aa}{k j kb b a':Nat}{l m:aa}{p q:ah}{V:List ah}{cc d:ao}{r:List ZP}{ai al ae:Addr}{es es0:List Int}
variable {GB:Gh}
def zT(h:gh L=[])(h1:L[k]? =some l)(h2:L[(k+1)%L.length]? =some m): ¬0<Int.sign (l.dir.cross m.dir).num:=fun hc=>by
 have e:=rC h1 h2;rw[if_pos hc] at e;have hm:cP l m∈gh L:=iQ.2 ⟨k,kQ.2 (aR.1 h1).1,by rw[e];simp⟩;rw[h] at hm;cases hm
def yN(h:c[k]? =some m):((c.take k).map aa.base).map eP++[eP m.base]=((c.take (k+1)).map aa.base).map eP:=by
 rw[dZ,h,aL,aL];rfl
def yH(hb: ∀l∈L,LB l)(hn:L.length<=100000)(h:gh L=[]):PF GB prog 72 [.sl (L.map eL)] (.v (.slice none 0 0)):=by
 have hml:(L.map eL).length=L.length:=aX ..;refine fn (fu:=⟨15⟩) func72 J J ntmps72 J J (fun C=>?_);refine aj 10 (.d (vI (L.length:Nat))) J (by rw[hml]<;>rfl)<|gx J<|lp (X:=Nat) (fun k=>[(11, .d (vI (k:Nat))),(3, .nl)]) (fun k=>[]) (fun k=>k<=L.length) (fun k=>L.length-k) 0 J (aM _) (fun _=>J) (fun k hk=>?_);refine br J J J (fun hc12=>?_) (fun hc12=>?_)
 .
  obtain⟨l,hx⟩: ∃u,L[k]? =some u:=⟨_,aZ (by omega)⟩;obtain⟨m,hw⟩: ∃w,L[(k+1)%L.length]? =some w:=⟨_,aZ (dK _ (by omega))⟩;haveI:=hb l (aK hx);haveI:=hb m (aK hw);refine ix (fu:=⟨13⟩) _ J (cg hx) J<|aj 20 (.d (vI (L.length:Nat))) J (by rw[hml]<;>rfl)<|gx (fu:=⟨1⟩) J<|aj 21 (.d (vI (((k+1)%L.length:Nat):Int))) J J<|gx J<|ix _ J (cg hw) J<|cl J (iu (l:=l)) J<|cl J (iu (l:=m)) J<|cl J (pC (p:=l.dir) (q:=m.dir) (i:=97) (j:=97)) J<|cl J (mE (q:=l.dir.cross m.dir)) J<|br J J J (fun hc30=>?_) (fun hc30=>?_)
  .
   exact absurd hc30 (zT h hx hw)
  .
   exact at_ (k+1) ⟨(by omega),(by omega)⟩
 .
  refine nlV 2 J<|rz J J
def xL{cd:DV}[hl:LB l](hlo:l.ok)[hp:aD p 900](hcd:cd= .sl (V.map eP)/\V≠[]\/cd= .v (.slice none 0 0)/\V=c.map aa.base/\c≠[])(hb: ∀v∈V,aD v j)(hcb: ∀m∈c,LB m/\m.ok)(hj:j<=10000)(hn:V.length<=100000)(hnc:c.length<=100000):PF GB prog 75 [eL l,eP p,cd, .sl (c.map eL)] (eL (fE (p.add (ld l.nor V)) ((p.add (ld l.nor V)).add l.dir))):=by
 have hV:V≠[]:=by
  rcases hcd with h|⟨_,h1,h2⟩
  .exact h.2
  .rw[h1];exact fun e=>h2 (tW.1 e)
 have hml:(V.map eP).length=V.length:=aX ..;have hmc:(c.map eL).length=c.length:=aX ..;have hV0:0<V.length:=mZ.2 hV;obtain⟨p0,h0⟩: ∃p,V[0]? =some p:=⟨_,aZ hV0⟩;obtain⟨S,hS⟩: ∃S,S=k9 l.nor V:=⟨_,rfl⟩;have hg0:V.getD 0 ⟨0,0⟩=p0:=by rw[aV,h0];rfl
 have hS0:p0=S 0:=by rw[hS];show p0=(V.take 0).foldl _ _;rw[hg0];rfl
 have hSb: ∀k,aD (S k) j:=by rw[hS];exact Ez (by rw[hg0];exact hb p0 (aK h0)) hb
 have hSn:S V.length=ld l.nor V:=by rw[hS];exact Q5 hV
 refine fn (fu:=⟨8⟩) func75 J J ntmps75 J J (fun C=>?_);refine mg (X:=Unit) (fun _=>[(2, .d (.sl (V.map eP)))]) (fun _=>[]) (fun _=>True) [2] [] rfl ?_ (fun _=>J) (fun _ _=>?_)
 .rcases hcd with⟨rfl,_⟩|⟨rfl,hvs,hcn⟩
  .refine gx (fu:=⟨4⟩) J<|cC J (by show some (decide _)=some false;rw[decide_eq_false (by omega)]) J<|at_ () trivial
  .refine Zs 2 J<|gx (fu:=⟨4⟩) J<|dP (fu:=⟨7⟩) J J J<|aj 21 (.d (vI (c.length:Nat))) J (by rw[hmc]<;>rfl)<|gx J<|nr 2 2 53 6 J J J<|lp (X:=Nat) (fun k=>[(22, .d (vI (k:Nat))),(2, .rw 2)]) (fun k=>[(2,some (.b 53 6 (((c.take k).map aa.base).map eP) true))]) (fun k=>k<=c.length) (fun k=>c.length-k) 0 J (aM _) (fun _=>J) (fun k hk=>?_)
   have hm3:(((c.take k).map aa.base).map eP).length<=k:=by rw[aX,aX,bT];omega
   refine br J J J (fun hc23=>?_) (fun hc23=>?_)
   .
    obtain⟨m,hx⟩: ∃u,c[k]? =some u:=⟨_,aZ (by omega)⟩;haveI:=(hcb m (aK hx)).1;refine ix _ J (cg hx) J<|cl J (y5 (l:=m) (hcb m (aK hx)).2.ne) J<|rf J J<|ap (((c.take (k+1)).map aa.base).map eP) J (yN hx) (E6 [_]) J<|d6 30 2 J<|at_ (k+1) ⟨(by omega),(by omega)⟩
   .
    obtain rfl:k=c.length:=by omega
    rw[cS,<-hvs];refine gp 2 J<|at_ () trivial
 .refine gx J<|ix (fu:=⟨1⟩) _ J (IQ h0) J<|aj 34 (.d (eP (S 0))) J (by rw[hS0]<;>rfl)<|gx (fu:=⟨9⟩) J<|aj 36 (.d (vI (V.length:Nat))) J (by rw[hml]<;>rfl)<|gx J<|lp (X:=Nat) (fun k=>[(37, .d (vI (k:Nat))),(11, .ov 11 0)]) (fun k=>[(11,some (.o 53 [.d (.v (.bool (decide ((S k).x.num<0)))), .d (dN (S k).x.num.natAbs), .d (dD (S k).x.den), .d (.v (.bool (decide ((S k).y.num<0)))), .d (dN (S k).y.num.natAbs), .d (dD (S k).y.den)] true))]) (fun k=>k<=V.length) (fun k=>V.length-k) 0 J (aM _) (fun _=>J) (fun k hk=>?_)
  haveI:=hSb k;refine br J J J (fun hc38=>?_) (fun hc38=>?_)
  .
   obtain⟨q,hx⟩: ∃u,V[k]? =some u:=⟨_,aZ (by omega)⟩;haveI:=hb q (aK hx);obtain⟨e1,e2⟩:=Mo (l:=l) hx;rw[<-hS] at e1 e2;refine ix _ J (cg hx) J<|cl J (iu (l:=l)) J<|cl J (pC (p:=l.dir) (q:=q) (i:=97) (j:=j) (by omega) (by omega)) J<|cl J (iu (l:=l)) J<|cl J (pC (p:=l.dir) (q:=S k) (i:=97) (j:=j) (by omega) (by omega)) J<|cl J (ki (a:=l.dir.cross q) (b:=l.dir.cross (S k)) (i:=97+j+(97+j)+1) (j:=97+j+(97+j)+1) (by omega) (by omega)) J<|br (fu1:=⟨2⟩) J J J (fun hc50=>?_) (fun hc50=>?_)
   .
    refine aj 51 (.d (eP (S (k+1)))) J (by rw[e1 hc50]<;>rfl)<|gx J<|at_ (k+1) ⟨(by omega),(by omega)⟩
   .
    rw[<-e2 hc50];exact at_ (k+1) ⟨(by omega),(by omega)⟩
  .
   obtain rfl:k=V.length:=by omega
   obtain⟨Q,hQ⟩: ∃Q,Q=p.add (ld l.nor V):=⟨_,rfl⟩;haveI hb2:=hSb V.length;haveI hQb:aD Q (j+1000):=by rw[hQ,<-hSn];exact aD.mono (inferInstance:aD (p.add (S V.length)) _)
   haveI hQ2:aD (Q.add l.dir) (j+1200):=aD.mono (inferInstance:aD (Q.add l.dir) _);haveI hQ1:aD Q (j+1200):=aD.mono hQb;refine cl J (iD (n:=1)) J<|cl J (PF.eq (sB (p:=p) (q:=S V.length) (c:=(((1:Int):Int):Rat)) (i:=900) (j:=j) (k:=2) (by omega) (by omega) (by decide)) (show _=eP Q by rw[CE,hSn,<-hQ])) J<|cl J (iD (n:=1)) J<|cl J (iu (l:=l)) J<|cl J (PF.eq (sB (p:=Q) (q:=l.dir) (c:=(((1:Int):Int):Rat)) (i:=j+1200) (j:=97) (k:=2) (by omega) (by decide) (by decide)) (show _=eP (Q.add l.dir) by rw[CE])) J<|cl J (FJ (p:=Q) (q:=Q.add l.dir) (i:=j+1200) (by omega) (Mx hlo Q)) J<|rz J (by rw[<-hQ]<;>rfl)
def zJ(l:aa)(c:List aa)(v:ah):Bool:=!(tr c v&&decide (Int.sign (l.dir.cross v).num<0))
def xJ(l:aa)(c:List aa):kA l c=(!c.isEmpty&&(r7 l c).all (zJ l c)):=rfl
def zY(l:aa)(c:List aa):(r7 l c).length=2*c.length+1:=by
 unfold r7;rw[aY,IR];rfl
theorem yL[hl:LB l](hb: ∀m∈c,LB m): ∀d∈r7 l c,aD d 97:=fun d hd=>by
 rcases bJ.1 hd with h|h
 .exact Y5 hb d h
 .rw[aU.1 h]
  have:=(inferInstance:aD l.dir 97);exact⟨this.y, @BQ.neg _ _ this.x⟩
def yI[hl:LB l](hb: ∀m∈c,LB m)(hn:c.length<=100000):PF GB prog 74 [eL l, .sl (c.map eL)] (vB (kA l c)):=by
 have hml:(c.map eL).length=c.length:=aX ..;obtain⟨ds,hds⟩: ∃ds,ds=r7 l c:=⟨_,rfl⟩;have hdl:ds.length=2*c.length+1:=by rw[hds];exact zY l c
 have hdb: ∀d∈ds,aD d 97:=by rw[hds];exact yL hb
 have hbl:kA l c=(!c.isEmpty&&ds.all (zJ l c)):=by rw[xJ,<-hds]
 have hdm:(ds.map eP).length=ds.length:=aX ..;refine fn func74 J J ntmps74 J J (fun C=>?_);refine pI (fu:=⟨8⟩) J J<|aj 15 (.d (vI (c.length:Nat))) J (by rw[hml]<;>rfl)<|gx J<|lp (X:=List ah×Nat) (fun⟨acc,k⟩=>[(16, .d (vI (k:Nat))),(5, .rw 13)]) (fun⟨acc,k⟩=>[(13,some (.b 53 6 (acc.map eP) true))]) (fun⟨acc,k⟩=>acc=(c.take k).flatMap (fun l=>[l.dir,dh l.dir])/\k<=c.length) (fun⟨acc,k⟩=>c.length-k) ⟨[],0⟩ J ⟨J,aM _⟩ (fun _=>J) (fun⟨acc,k⟩ hk=>?_)
 try dsimp only at hk⊢
 obtain⟨h1,h2⟩:=hk;have hal:acc.length=2*k:=by rw[h1,IR,bT];omega
 have ham:(acc.map eP).length=acc.length:=aX ..;refine br (fu2:=⟨10⟩) J J J (fun hc17=>?_) (fun hc17=>?_)
 .
  obtain⟨m,hx⟩: ∃u,c[k]? =some u:=⟨_,aZ (by omega)⟩;haveI:=hb m (aK hx);refine ix _ J (cg hx) J<|cl J (iu (l:=m)) J<|cl J (iu (l:=m)) J<|cl J (aF6 (p:=m.dir)) J<|rf J J<|ap (hv:=by simp only[ak];exact⟨by kernel_rfl,by omega⟩) ((acc++[m.dir,dh m.dir]).map eP) J (by rw[aL]<;>rfl) (E6 [m.dir,dh m.dir]) J<|d6 27 13 J<|at_ ⟨acc++[m.dir,dh m.dir],k+1⟩ (by dsimp only;exact⟨⟨by rw[dZ,hx,qY,<-h1];rfl,by omega⟩,(by omega)⟩)
 .
  obtain rfl:k=c.length:=by omega
  refine aj 30 (.d (vI (c.length:Nat))) J (by rw[hml]<;>rfl)<|gx J<|br J J J (fun hc31=>?_) (fun hc31=>?_)
  .
   have hF:kA l c=false:=by rw[hbl,pM.2 (cV (by omega))];rfl
   exact rz J (by rw[hF];rfl)
  .
   have hT:kA l c=ds.all (zJ l c):=by rw[hbl];cases c with|nil=>exact absurd J hc31|cons a b=>rfl
   refine cl J (iu (l:=l)) J<|cl J (iu (l:=l)) J<|cl J (nE (q:=l.dir.x)) J<|rf J J<|ap (fu:=⟨8⟩) (ds.map eP) J (by rw[hds,r7,aL,h1,cS]<;>rfl) (E6 [⟨l.dir.y, -l.dir.x⟩]) J<|aj 44 (.d (vI (ds.length:Nat))) J (by rw[hdm]<;>rfl)<|gx J<|lp (X:=Nat) (fun k=>[(45, .d (vI (k:Nat)))]) (fun k=>[]) (fun k=>(ds.drop k).all (zJ l c)=ds.all (zJ l c)/\k<=ds.length) (fun k=>ds.length-k) 0 J ⟨J,aM _⟩ (fun _=>J) (fun k hk=>?_);obtain⟨h3,h4⟩:=hk;refine br J J J (fun hc46=>?_) (fun hc46=>?_)
   .
    obtain⟨v,hv⟩: ∃u,ds[k]? =some u:=⟨_,aZ (by omega)⟩;haveI:=hdb v (aK hv);refine lb (fu:=⟨14⟩) _ J (cg hv) J<|aj 50 (.d (vI (c.length:Nat))) J (by rw[hml]<;>rfl)<|gx J<|QT 10 _ J J<|lp (X:=Bool×Nat) (fun⟨b,j⟩=>[(51, .d (vI (j:Nat))),(10, .d (vB b))]) (fun⟨b,j⟩=>[]) (fun⟨b,j⟩=>(b&&(c.drop j).all fun m=>decide (0<=Int.sign (m.dir.cross v).num))=tr c v/\j<=c.length) (fun⟨b,j⟩=>c.length-j) ⟨true,0⟩ J ⟨by simp[tr],aM _⟩ (fun _=>J) (fun⟨b,j⟩ hk=>?_)
    try dsimp only at hk⊢
    obtain⟨g1,g2⟩:=hk;refine br (fu1:=⟨6⟩) (fu2:=⟨7⟩) J J J (fun hc52=>?_) (fun hc52=>?_)
    .
     obtain⟨m,hy⟩: ∃u,c[j]? =some u:=⟨_,aZ (by omega)⟩;haveI:=hb m (aK hy)
     cases b
     .
      refine gx J<|ix (fu:=⟨7⟩) _ J (cg hy) J<|cC (hv:=by simp only[ak];exact⟨by kernel_rfl,by omega⟩) J J J<|Rw 10 _ J J<|at_ ⟨false,j+1⟩ (by dsimp only;exact⟨⟨by rw[<-g1];simp,by omega⟩,(by omega)⟩)
     .
      refine gx J<|ix (fu:=⟨7⟩) _ J (cg hy) J<|dP J J J<|cl J (iu (l:=m)) J<|cl J (pC (p:=m.dir) (q:=v) (i:=97) (j:=97)) J<|cl (hv:=by simp only[ak];exact⟨by kernel_rfl,by omega⟩) J (mE (q:=m.dir.cross v)) J<|Rw 10 _ J J<|at_ ⟨decide (0<=Int.sign (m.dir.cross v).num),j+1⟩ (by dsimp only;exact⟨⟨by rw[<-g1,Dh hy];simp,by omega⟩,(by omega)⟩)
    .
     obtain rfl:j=c.length:=by omega
     rw[fL] at g1;have hst:tr c v=b:=by rw[<-g1];simp
     cases b
     .
      refine gx (fu:=⟨1⟩) J<|cC (hv:=by simp only[ak];exact⟨by kernel_rfl,by omega⟩) J J J<|at_ (k+1) ⟨⟨by rw[<-h3,Dh hv,show zJ l c v=true by unfold zJ;rw[hst]<;>rfl]<;>rfl,by omega⟩,(by omega)⟩
     .
      refine gx (fu:=⟨1⟩) J<|dP J J J<|cl J (iu (l:=l)) J<|cl J (pC (p:=l.dir) (q:=v) (i:=97) (j:=97)) J<|cl J (mE (q:=l.dir.cross v)) J<|br J J J (fun hc73=>?_) (fun hc73=>?_)
      .
       have hF:kA l c=false:=by rw[hT,<-h3,Dh hv,show zJ l c v=false by unfold zJ;rw[hst,decide_eq_true hc73]<;>rfl]<;>rfl
       exact rz J (by rw[hF];rfl)
      .
       exact at_ (k+1) ⟨⟨by rw[<-h3,Dh hv,show zJ l c v=true by unfold zJ;rw[decide_eq_false hc73,Bool.and_false]<;>rfl]<;>rfl,by omega⟩,(by omega)⟩
   .
    have hT2:kA l c=true:=by rw[hT,<-h3,iY (by omega)];rfl
    exact rz J (by rw[hT2];rfl)
def zZ(L:List aa):DV:=if gh L=[] then .v (.slice none 0 0) else .sl ((gh L).map eP)
def yG(hb: ∀l∈L,LB l)(hn:L.length<=100000):PF GB prog 72 [.sl (L.map eL)] (zZ L):=by
 unfold zZ;split
 .rename_i h;exact yH hb hn h
 .exact aDm hb hn
def xG(h:L≠[]):zZ L= .sl ((kv L).map eP)/\kv L≠[]\/zZ L= .v (.slice none 0 0)/\kv L=L.map aa.base/\L≠[]:=by
 unfold zZ kv;by_cases e:gh L=[]
 .rw[if_pos e,e];exact .inr ⟨J,J,h⟩
 .rw[if_neg e,if_neg (fun k=>e (pM.1 k))];exact .inl ⟨J,e⟩
theorem xH(hb: ∀l∈L,LB l): ∀v∈kv L,aD v 1200:=fun v hv=>by
 unfold kv at hv;split at hv
 .obtain⟨l,hl,rfl⟩:=aT.1 hv
  haveI:=hb l hl;exact aD.mono (inferInstance:aD l.base 900) (by decide)
 .exact Pi hb v hv
def yV(L:List aa):(kv L).length<=L.length:=by
 unfold kv;split
 .rw[aX];exact bW _
 .exact I' L
def xI(h:kA l c=true):c≠[]:=fun e=>by rw[e] at h;cases h
def zA(c:List aa)(V:List ah)(k:Nat):List aa:=(c.map fun l=>om l V)++((b8 V).take k).filterMap (s5 c)
def yF(c:List aa)(V:List ah):zA c V 0=c.map fun l=>om l V:=by unfold zA;simp
def zF(c:List aa)(V:List ah):zA c V (b8 V).length=CA c V (b8 V):=by unfold zA CA;rw[cS]
def zB(c:List aa)(V:List ah)(k:Nat):(zA c V k).length<=c.length+V.length:=by
 unfold zA;rw[aY,aX];have h1:=lJ (s5 c) ((b8 V).take k);have h2:((b8 V).take k).length<=V.length:=by rw[bT];unfold b8;rw[aX,kV];omega
 omega
def zO{f:ah×ah}(h:(b8 V)[k]? =some f)(hf:kA (fE f.1 f.2) c=true):(zA c V k).map eL++[eL (wq (fE f.1 f.2) f.1 c)]=(zA c V (k+1)).map eL:=by
 unfold zA;rw[dZ,h];simp only[lY,pK,kN,rW];rw[show s5 c f=some (wq (fE f.1 f.2) f.1 c) by unfold s5;rw[if_pos hf]];simp
def zP{f:ah×ah}(h:(b8 V)[k]? =some f)(hf:kA (fE f.1 f.2) c=false):zA c V k=zA c V (k+1):=by
 unfold zA;rw[dZ,h];simp only[lY,pK,kN,rW];rw[show s5 c f=none by unfold s5;rw[if_neg (by rw[hf];decide)]];simp
def zU(h:(b8 V)[k]? =some (p,q))(hf:kA (fE p q) c=true):(zA c V k).map eL++[eL (wq (fE p q) p c)]=(zA c V (k+1)).map eL:=zO (f:=(p,q)) h hf
def xD[hl:LB l](hlo:l.ok)[hp:aD p 900](hne:c≠[])(hb: ∀m∈c,LB m)(hok: ∀m∈c,m.ok)(hn:c.length<=100000):PF GB prog 75 [eL l,eP p,zZ c, .sl (c.map eL)] (eL (wq l p c)):=
 xL hlo (xG hne) (xH hb) (fun m hm=>⟨hb m hm,hok m hm⟩) (by decide) (cN (yV c) hn) hn
def zX(h:c[k]? =some l):((c.take k).map fun l=>om l V).map eL++[eL (om l V)]=((c.take (k+1)).map fun l=>om l V).map eL:=by
 rw[dZ,h,aL,aL];rfl
def xN(h: ¬((bj (p,q)).x=0/\(bj (p,q)).y=0)): ¬(p.x=q.x/\p.y=q.y):=fun⟨h1,h2⟩=>h (by
 unfold bj;dsimp only;exact⟨by grind,by grind⟩)
def yT{c:ao}(h:bC c): ∀l∈c.map (fun s=>s.l),l.ok:=fun l hl=>by
 obtain⟨s,hs,rfl⟩:=aT.1 hl;exact h.ok s hs
def zV(hV:mc V)(hce:c=cc.map fun s=>s.l)(hg:bC cc)(ha:fD cc)(hb: ∀l∈c,LB l)(hkb: ∀s∈cc,BL s.l kb)(h62:2*kb+10<=62)(hn:c.length<=900):PF GB prog 27 [.sl (c.map eL), .sl (V.map eP)] (.sl ((fP (gw cc V (b8 V))).map eL)):=by
 have hml:(c.map eL).length=c.length:=aX ..;have hmv:(V.map eP).length=V.length:=aX ..;have hV4:=hV.le;have hVb:=SE hV.zb;have hok: ∀l∈c,l.ok:=by rw[hce];exact yT hg
 have hss:=XP hg ha hV.br.vne (E:=b8 V) (fun f hf=>hV.br.nz hf);rw[<-hce] at hss;refine fn (fu:=⟨15⟩) func27 J J ntmps27 J J (fun C=>?_);refine aj 14 (.d (vI (c.length:Nat))) J (by rw[hml]<;>rfl)<|gx J<|nr 5 5 55 6 J J J<|lp (X:=Nat) (fun k=>[(15, .d (vI (k:Nat))),(5, .rw 5)]) (fun k=>[(5,some (.b 55 6 (((c.take k).map fun l=>om l V).map eL) true))]) (fun k=>k<=c.length) (fun k=>c.length-k) 0 J (aM _) (fun _=>J) (fun k hk=>?_);have hm3:(((c.take k).map fun l=>om l V).map eL).length<=k:=by rw[aX,aX,bT];omega
 refine br J J J (fun hc16=>?_) (fun hc16=>?_)
 .
  obtain⟨l,hx⟩: ∃u,c[k]? =some u:=⟨_,aZ (by omega)⟩;haveI:=hb l (aK hx);refine ix _ J (cg hx) J<|cl J (aBV (l:=l) (V:=V) (j:=4) (hok l (aK hx)) hV.br.vne hVb (by decide) (by omega)) J<|rf J J<|ap (((c.take (k+1)).map fun l=>om l V).map eL) J (zX hx) (ez [_]) J<|d6 24 5 J<|at_ (k+1) ⟨(by omega),(by omega)⟩
 .
  obtain rfl:k=c.length:=by omega
  rw[cS,<-yF c V];refine cl (fu:=⟨8⟩) J (yG (L:=c) hb (by omega)) J<|aj 29 (.d (vI (V.length:Nat))) J (by rw[hmv]<;>rfl)<|gx J<|lp (X:=Nat) (fun k=>[(30, .d (vI (k:Nat))),(5, .rw 5)]) (fun k=>[(5,some (.b 55 6 ((zA c V k).map eL) true))]) (fun k=>k<=V.length) (fun k=>V.length-k) 0 J (aM _) (fun _=>J) (fun k hk=>?_);have hm4:=zB c V k;have hm3:((zA c V k).map eL).length<=c.length+V.length:=by rw[aX];exact hm4
  refine br (fu2:=⟨0⟩) J J J (fun hc31=>?_) (fun hc31=>?_)
  .
   obtain⟨p,hx⟩: ∃u,V[k]? =some u:=⟨_,aZ (by omega)⟩;obtain⟨q,hw⟩: ∃u,V[(k+1)%V.length]? =some u:=⟨_,aZ (dK _ (by omega))⟩;have hpr:=Kb hx hw;have hnz:=hV.br.nz (aK hpr);haveI hp4:=hVb p (aK hx);haveI hq4:=hVb q (aK hw);haveI hlb:LB (fE p q):=Y4 (hp:=hp4.mono (by decide)) (hq:=hq4.mono (by decide));have htok:(fE p q).ok:=(OW (f:=(p,q)) hnz).1;refine ix (fu:=⟨14⟩) _ J (cg hx) J<|aj 41 (.d (vI (V.length:Nat))) J (by rw[hmv]<;>rfl)<|gx (fu:=⟨1⟩) J<|aj 42 (.d (vI (((k+1)%V.length:Nat):Int))) J J<|gx J<|ix _ J (cg hw) J<|cl J (FJ (p:=p) (q:=q) (i:=4) (by decide) (xN hnz)) J<|cl J (yI (l:=fE p q) (c:=c) hb (by omega)) J<|bb J J J (fun hc50=>?_) (fun hc50=>?_)
   .
    refine cl J (xD (l:=fE p q) (p:=p) (c:=c) htok (hp:=hp4.mono (by decide)) (xI hc50) hb hok (by omega)) J<|rf J J<|ap ((zA c V (k+1)).map eL) J (zU hpr hc50) (ez [_]) J<|d6 58 5 J<|at_ (k+1) ⟨(by omega),(by omega)⟩
   .
    rw[zP hpr hc50];exact at_ (k+1) ⟨(by omega),(by omega)⟩
  .
   obtain rfl:k=V.length:=by omega
   rw[show V.length=(b8 V).length by unfold b8;rw[aX,kV],zF,hss];refine nC 5 J<|gx J<|cl J (F9 (c:=gw cc V (b8 V)) (fun l hl=>⟨(BJ hV.br hV.zb hg ha hkb l hl).mono (by omega)⟩) (GF hV.br hg) (by rw[<-hss,<-zF];have:=zB c V (b8 V).length;omega)) J<|rz J J
def Tr.partsF:Tr->ao->List (Bool×ao)
 | .leaf b,c=>[(b,c)]
 | .node l x y,c=>(if cp c l then x.partsF (xy c l) else [])++(if cp c l.rev then y.partsF (xy c l.rev) else [])
def Tr.parts_F: ∀(t:Tr) (c:ao),t.parts c=t.partsF c
 | .leaf _,_=>rfl
 | .node l x y,c=>by rw[Tr.parts,Tr.partsF,EN,EN,x.parts_F,y.parts_F]
def yD(V:List ah)(E:List (ah×ah))(c:ao):II V E [c] (.leaf false)=(gA V E c).restrict []:=by
 show(Tr.leaf false).mergeQ 1 (gA V E c) []=_;rw[Tr.mergeQ];unfold Tr.chooseQ;rw[if_pos (.inl J),if_neg (by decide)]
def xO:List ah:=(eo 0 0 1 1).map ZP.q
def sqC:List ao:=((((((tD [eo 0 0 1 1] 2).restrictF []).restrictF []).partsF []).filter (·.1)).map (·.2))
def yZ:fh ((ie [eo 0 0 1 1] 2).restrict [])=sqC:=by
 unfold fh ie sqC;rw[Tr.restrict_F,Tr.restrict_F,Tr.parts_F]
def zQ:Tr->Tr->Bool
 | .leaf a, .leaf b=>a==b
 | .node l x y, .node m u v=>decide (l=m)&&(zQ x u&&zQ y v)
 |_,_=>false
def zG: ∀{t u:Tr},zQ t u=true->t=u
 | .leaf a, .leaf b,h=>by rw[eq_of_beq (show(a==b)=true from h)]
 | .node l x y, .node m u v,h=>by
  simp only[zQ,bK,decide_eq_true_eq] at h;rw[h.1,zG h.2.1,zG h.2.2]
 | .leaf _, .node ..,h=>by cases h
 | .node .., .leaf _,h=>by cases h
def yS{α:Type}{f:α->Bool}{l:List α}(h:l.map f=[true]): ∃c,l=[c]/\f c=true:=by
 cases l with
 |nil=>cases h
 |cons a t=>
  rw[bU,List.cons.injEq] at h;exact⟨a,by rw[tW.1 h.2],h.1⟩
def yP:(sqC.map fun c=>zQ ((gA xO (b8 xO) c).restrictF []) ((tD [eo 0 0 2 2] 2).restrictF []))=[true]:=by decide+kernel
def yO:p6 xO (b8 xO) (ie [eo 0 0 1 1] 2)=ie [eo 0 0 2 2] 2:=by
 obtain⟨c,hc,hr⟩:=yS yP;unfold p6;rw[yZ,hc,yD,Tr.restrict_F,zG hr,<-Tr.restrict_F];rfl
section
variable {a b c:Tr}(ha:a.all aa.ok)(hb:b.all aa.ok)(hc:c.all aa.ok)
include ha hb
end
def yQ{t:Tr}(h:kg k t):PF GB prog 45 [eA t] (.tp [eT t,vB true]):=aBY h.lb h.ok (by have:=h.s;omega)
def zI(h:ew r): ∀q∈[r],ew q:=fun q hq=>by rw[aU.1 hq];exact h
def zS(h:ew r):PF GB prog 11 [jA r] (lD r):=by
 have hn:=h.n6;have:=O4 (GB:=GB) (ps:=r.map ZP.q) (fun p hp=>aD.mono (Mm h p hp) (by decide)) (by rw[aX];omega);rw[DY] at this;exact this
def zM(h:ew r):PF GB prog 36 [jA r] (eT (ie [r] 2)):=by
 refine fn func36 J J ntmps36 J J (fun C=>?_);refine rf (fu:=⟨0⟩) J J<|aj 4 (.d (.sl ([r].map jA))) J J<|gx J<|cl J (aIY (rs:=[r]) (zI h) (by simp)) J<|cl J (aDj (rs:=[r]) (fill:=2) (zI h) (by simp)) J<|cl J (Yy (rs:=[r]) (fill:=2) (zI h) (by simp)) J<|rz J J
def zH{a b:Int}(h1:a.natAbs<=50:=by decide)(h2:b.natAbs<=50:=by decide):PF GB prog 44 [.v (.int .i64 a), .v (.int .i64 b)] (jA (eo a a b b)):=by
 refine fn func44 J J ntmps44 J J (fun C=>?_);refine cl J (ll (m:=a) (n:=a)) J<|cl J (ll (m:=b) (n:=a)) J<|cl J (ll (m:=b) (n:=b)) J<|cl J (ll (m:=a) (n:=b)) J<|rf J J<|rz J J
def yE:ew (eo 0 0 1 1):=H7
def xA:ew (eo 0 0 2 2):=H7
def sq01_br:mc ((eo 0 0 1 1).map ZP.q)/\kw ((eo 0 0 1 1).map ZP.q)=true:=Ln (a:=0) (b:=0) (c:=1) (d:=1)
def sq01_sm:xe (ie [eo 0 0 1 1] 2):=by
 have h1: ∀p∈eo 0 0 1 1,p.1.natAbs<=3/\p.2.natAbs<=3:=fun p hp=>by
  simp only[eo,aW,fK,or_false] at hp;rcases hp with rfl|rfl|rfl|rfl<;>exact⟨by decide,by decide⟩
 have:=Tb yE (by decide);exact X' yE h1 (by rw[show(eo 0 0 1 1).length=4 from J];omega)
def yX:oz (qo ((eo 0 0 1 1).map ZP.q) (ie [eo 0 0 1 1] 2)) (ie [eo 0 0 2 2] 2):=by
 have h1:=(Fv sq01_br.1 sq01_sm).1;have h2:=HE (fill:=2) (zI xA) (by simp);exact⟨h1.gd,h2.gd,h1.s,(h2.x (Ck _ _) (by decide)).s⟩
def yY:s6 (qo ((eo 0 0 1 1).map ZP.q) (ie [eo 0 0 1 1] 2)) (ie [eo 0 0 2 2] 2)=true:=by
 rw[show qo ((eo 0 0 1 1).map ZP.q) (ie [eo 0 0 1 1] 2)=ie [eo 0 0 2 2] 2 from yO];have h2:=(HE (fill:=2) (zI xA) (by simp)).gd.ok;exact Vm h2 h2 (L:=(ie [eo 0 0 2 2] 2).lns) (vy h2) (fun l hl=>hl) (fun l hl=>hl) fun p _=>J
def zL(hE:EG GB ai al ae):PF GB prog 13 [] (.v (.bool true)):=by
 have hx:=(Fv sq01_br.1 sq01_sm).1;refine fn func13 J J ntmps13 J J (fun C=>?_);refine cl J (zH (a:=0) (b:=1)) J<|cl J (zM yE) J<|cl J (ax3 sq01_sm.x) J<|cl J (zH (a:=0) (b:=1)) J<|cl J (zS yE) J<|cl J (VG hE (SS yE (by decide) (by decide)) sq01_br.2 sq01_br.1 sq01_sm) J<|cl (fu:=⟨10⟩) J (yQ hx) J<|dP (fu:=⟨2⟩) J J J<|jO 22 J<|gx J<|cl J (zH (a:=0) (b:=2)) J<|cl J (zM xA) J<|cl (fu:=⟨0⟩) J (axG yX) J<|aj 28 (.d (.v (.bool true))) J (by rw[yY]<;>rfl)<|gx J<|rz J J
def xM(hes:es.length<=400){a:Nat}(ha:a<=es.length)(hr:r=(jj es a).1)(ha':a'=(jj es a).2):PM GB prog 8 (i9 [none] b) b 84 [.sl (es.map vI), .v (.int .i64 (a:Nat))] (jA r) [.sl (es.map vI), .v (.int .i64 (a':Nat))]:=by
 subst hr;subst ha';exact Zy hes ha
def yC{c:ao}(ho: ∀l∈L,l.ok)(hc:fj L []=some c):bC c/\fD c/\fP L=c.map (·.l):=by
 obtain⟨g1,g2⟩:=Bl bC.nil ho hc;have g2: ∀p,bu c p↔f9 L p:=fun p=>by
  rw[g2];exact⟨fun h=>h.2,fun h=>⟨fun s hs=>absurd hs (by simp),h⟩⟩
 have g3:=HO bC.nil .nil ho hc;exact⟨g1,g3,QI ho g1 g3 g2⟩
structure CSum (V:List ah) (L:List aa) (kb:Nat) (c d:ao):Prop where
 cok:dE c
 gd:bC c
 asc:fD c
 bl: ∀s∈c,BL s.l kb
 len:c.length<=800
 cl:fP L=c.map (·.l)
 dq:fj (gw c V (b8 V)) []=some d
 dl:fP (gw c V (b8 V))=d.map (·.l)
 dlb: ∀s∈d,LB s.l
 dn:d.length<=1000
def yU(hV:mc V)(hb: ∀l∈L,LB l)(ho: ∀l∈L,l.ok)(hk: ∀l∈L,BL l kb)(h62:2*kb+10<=62)(hn:L.length<=800){c:ao}(hc:fj L []=some c): ∃d,CSum V L kb c d:=by
 obtain⟨g1,g2,g3⟩:=yC ho hc;obtain⟨d,hd,_,_,_,e⟩:=Iq hV.br g1 g2;have hin: ∀s∈c,s.l∈L:=fun s hs=>Cw _ (by rw[g3];exact aT.2 ⟨s,hs,J⟩);have hcl:c.length<=L.length:=by have:=vr L;rw[g3,aX] at this;exact this
 have hbk: ∀s∈c,BL s.l kb:=fun s hs=>hk _ (hin s hs);have h1:=BJ hV.br hV.zb g1 g2 hbk;have h2:=vr (gw c V (b8 V));have h3:=AP c V (b8 V).length;rw[AR] at h3;rw[e,aX] at h2;have hpl:(b8 V).length=V.length:=by unfold b8;rw[aX,kV]
 have:=hV.le;exact⟨d,KW hb ho dE.nil hc,g1,g2,hbk,by omega,g3,hd,e,fun s hs=>⟨(h1 s.l (Cw _ (by rw[e];exact aT.2 ⟨s,hs,J⟩))).mono (by omega)⟩,by omega⟩
def yJ(hE:D0 GB ai al ae)(h:rp r)(hcv:kw (r.map ZP.q)=true)(hV:mc (r.map ZP.q))(hb: ∀l∈L,LB l)(ho: ∀l∈L,l.ok)(hn:L.length<=800)(h62:2*kb+10<=62){c:ao}(hc:fj L []=some c)(S:CSum (r.map ZP.q) L kb c d):PF GB prog 22 [uF L,lD r] (.tp [uF (d.map (·.l)), .v .nilIface]):=by
 have hdl:(d.map cO).length=d.length:=aX ..;have hdn:=S.dn;refine fn func22 J J ntmps22 J J (fun C=>?_);refine cl (fu:=⟨3⟩) J (Rh hb ho) J<|jO 16 J<|gx J<|cl J (Fx h hcv) J<|cl (fu:=⟨3⟩) J (N1 hb ho (by omega) hc) J<|jO 34 J<|gx J<|cl (fu:=⟨8⟩) J (On (c:=c) (d:=d) hV S.cok S.gd S.asc S.bl h62 (by have:=S.len;omega) S.dq) J<|aj 43 (.d (vI (d.length:Nat))) J (by rw[hdl]<;>rfl)<|gx (fu:=⟨0⟩) J<|cC J (by show some (decide _)=some false;rw[decide_eq_false (by omega)]) J<|cl J (Un (c:=d) S.dlb (by omega)) J<|rz J J
def yK(hE:D0 GB ai al ae)(h:rp r)(hcv:kw (r.map ZP.q)=true)(hb: ∀l∈L,LB l)(ho: ∀l∈L,l.ok)(hn:L.length<=800)(hc:fj L []=none):PF GB prog 22 [uF L,lD r] (.tp [uF [],Aw ae]):=by
 refine fn func22 J J ntmps22 J J (fun C=>?_);refine cl (fu:=⟨3⟩) J (Rh hb ho) J<|jO 16 J<|gx J<|cl J (Fx h hcv) J<|cl (fu:=⟨3⟩) J (Uo hb ho (by omega) hc) J<|qc 34 J<|gx J<|gl J hE.ErrEmpty J<|rz J J
def yB{c:ao}(ho: ∀l∈W,l.ok)(h:fj W []=some c):te W=true:=by
 obtain⟨g1,g2⟩:=Bl bC.nil ho h;obtain⟨q,hq⟩:=g1.ne;exact(Pp ho).2 ⟨q,((g2 q).1 hq).2⟩
def yM(ho: ∀l∈W,l.ok)(h:fj W []=none):te W=false:=by
 cases hb:te W with
 |false=>rfl
 |true=>
  obtain⟨p,hp⟩:=(Pp ho).1 hb;obtain⟨d,hd⟩:=De bC.nil ho ⟨p,fun s hs=>absurd hs (by simp),hp⟩;rw[hd] at h;cases h
def xE(h:LS l):LS l.rev:=by
 constructor
 .exact h.ok.rev
 .have:=h.a;unfold aa.rev;dsimp only;omega
 .have:=h.b;unfold aa.rev;dsimp only;omega
 .have:=h.c;unfold aa.rev;dsimp only;omega
def zW(hb: ∀l∈ls,LB l)(hn:ls.length<=1000000):PF GB prog 70 [.sl (ls.map eL), .sl (ls.map eL)] (.v (.bool true)):=by
 have hml:(ls.map eL).length=ls.length:=aX ..;refine fn (fu:=⟨10⟩) func70 J J ntmps70 J J (fun C=>?_);refine aj 7 (.d (vI (ls.length:Nat))) J (by rw[hml]<;>rfl)<|gx (fu:=⟨2⟩) J<|aj 9 (.d (vI (ls.length:Nat))) J (by rw[hml]<;>rfl)<|gx J<|br (fu2:=⟨7⟩) J J J (fun hc10=>?_) (fun hc10=>?_)
 .
  exact absurd J hc10
 .
  refine aj 12 (.d (vI (ls.length:Nat))) J (by rw[hml]<;>rfl)<|gx J<|lp (X:=Nat) (fun k=>[(13, .d (vI (k:Nat)))]) (fun k=>[]) (fun k=>k<=ls.length) (fun k=>ls.length-k) 0 J (aM _) (fun _=>J) (fun k hk=>?_);refine br J J J (fun hc14=>?_) (fun hc14=>?_)
  .
   obtain⟨l,hx⟩: ∃u,ls[k]? =some u:=⟨_,aZ (by omega)⟩;have hl:=hb l (aK hx);refine ix _ J (cg hx) J<|ix _ J (cg hx) J<|cl (fu:=⟨0⟩) J (Xx (l:=l) (m:=l) hl.bl hl.bl) J<|cC (hv:=by simp only[ak];exact⟨by kernel_rfl,by omega⟩) J (by show some (!decide _)=some false;rw[decide_eq_true J];rfl) J<|at_ (k+1) ⟨(by omega),(by omega)⟩
  .
   exact rz J J
def yR(hb: ∀l∈L,LB l)(hn:L.length<=1000000):PF GB prog 26 [uF L,uF L] (.v (.bool true)):=by
 refine fn func26 J J ntmps26 J J (fun C=>?_);refine cl J (zW hb hn) J<|rz J J
def xK(hes:es.length<=400)(hr:W=(ot es 5 0).1)(ha':a'=(ot es 5 0).2):Bx GB prog 17 (i9 [none,some (.v (.int .i64 (5:Nat)))] b) b 84 [.sl (es.map vI), .v (.int .i64 (0:Nat))] 6 55 Unit (fun _=>W.map eL) (fun _=>[.sl (es.map vI), .v (.int .i64 (a':Nat))]):=by
 subst hr;subst ha';exact TO hes (aM _) (by decide)
def zR(hV:mc (r.map ZP.q)){c:ao}(hb: ∀l∈W,LB l)(hn:W.length<=800)(S:CSum (r.map ZP.q) W 16 c d):PF GB prog 27 [.sl ((fP W).map eL),jA r] (.sl ((d.map (·.l)).map eL)):=by
 rw[<-DY,<-S.dl];exact zV hV (cc:=c) S.cl S.gd S.asc (fun l h=>hb l (Cw _ h)) (kb:=16) S.bl (by decide) (by have:=vr W;omega)
theorem yW{c:ao}(S:CSum V W 16 c d): ∀l∈d.map (·.l),LB l:=fun l h=>by
 obtain⟨s,hs,rfl⟩:=aT.1 h;exact S.dlb s hs
def xC(hW: ∀l∈W,LS l)(hl:LS l): ∀m∈W.set k l.rev,LS m:=fun m hm=>by
 rcases qQ hm with h|rfl
 .exact hW m h
 .exact xE hl
def zN(hE:D0 GB ai al ae)(hb:es0.length<=1125899906842624):PF GB prog 4 [.sl (es0.map vI)] (.v (.bool true)):=by
 obtain⟨es,hee⟩: ∃es,es=es0.take 400:=⟨_,rfl⟩;have hes:es.length<=400:=by rw[hee];simp;omega
 obtain⟨W0,hW0⟩: ∃z,z=(ot es 5 0).1:=⟨_,rfl⟩;obtain⟨a1,ha1⟩: ∃a,a=(ot es 5 0).2:=⟨_,rfl⟩;obtain⟨hl0,hn0,hl1⟩:=aGe (es:=es) (most:=5) (aM es.length);rw[<-hW0] at hl0 hn0;rw[<-ha1] at hl1;obtain⟨r,hr⟩: ∃r,r=(jj es a1).1:=⟨_,rfl⟩;obtain⟨a2,ha2⟩: ∃a,a=(jj es a1).2:=⟨_,rfl⟩;have hrg:rp r:=by rw[hr];exact Uw hl1
 obtain⟨hV,hcv⟩:=V0 hl1;rw[<-hr] at hV hcv;have hl2:a2<=es.length:=by rw[ha2];exact(Rx hl1).2
 obtain⟨p,hp⟩: ∃p:ah,p=⟨mkRat 1 7,mkRat 1 5⟩:=⟨_,rfl⟩;haveI:aD p 8:=by rw[hp];exact⟨⟨by decide,by decide⟩,⟨by decide,by decide⟩⟩
 refine fn func4 J J ntmps4 J J (fun C=>?_);refine cn J ((YK hb hee)) (fun _=>J) (fun _=>?_);refine Yw J J (fun b=>(xK hes hW0 ha1)) (fun _=>J) (fun _=>?_);refine cm J (fun b=>(xM hes hl1 hr ha2)) J<|cl J (MJ (n:=1) (d:=7)) J<|cl (fu:=⟨1⟩) J (MJ (n:=1) (d:=5)) J<|aj 21 (.d (eP p)) J (by rw[hp];rfl)<|gx (fu:=⟨9⟩) J<|aj 23 (.d (vI (W0.length:Nat))) J (by rw[aX]<;>rfl)<|gx J<|lp (X:=List aa×Nat×Nat) (fun⟨W,k,a⟩=>[(24, .d (vI (k:Nat)))]) (fun⟨W,k,a⟩=>[(14,some (.o 84 [.d (.sl (es.map vI)), .d (.v (.int .i64 (a:Nat)))] true)),(16,some (.b 55 6 (W.map eL) true))]) (fun⟨W,k,a⟩=>W.length=W0.length/\(∀l∈W,LS l)/\k<=W0.length/\a<=es.length) (fun⟨W,k,a⟩=>W0.length-k) ⟨W0,0,a2⟩ J ⟨J,hl0,aM _,hl2⟩ (fun _=>J) (fun⟨W,k,a⟩ hk=>?_)
 try dsimp only at hk⊢
 obtain⟨hWl,hWs,hk2,hka⟩:=hk;have hml:(W.map eL).length=W.length:=aX ..;refine br J J J (fun hc25=>?_) (fun hc25=>?_)
 .
  obtain⟨l,hx⟩: ∃l,W[k]? =some l:=⟨_,aZ (by omega)⟩;have hls:=hWs l (aK hx);haveI hlb:LB l:=⟨hls.bl⟩;refine lb _ J (cg hx) J<|cl J (wP (l:=l) (p:=p) (i:=8)) J<|cs 33 J J J (fun hg33=>?_) (fun hg33=>?_)
  .
   refine cm J (fun b=>(lH (n:=8) hes hka)) J<|br J J J (fun hc37=>?_) (fun hc37=>?_)
   .
    refine cl J (xk (l:=l)) J<|sb _ ((W.set k l.rev).map eL) J (cg hx) J (by rw[bM,jW];rfl) J<|at_ ⟨W.set k l.rev,k+1,(au es 8 a).2⟩ (by dsimp only;exact⟨⟨by rw[bQ];exact hWl,xC hWs hls,by omega,gD hka⟩,(by omega)⟩)
   .
    exact at_ ⟨W,k+1,(au es 8 a).2⟩ (by dsimp only;exact⟨⟨hWl,hWs,by omega,gD hka⟩,(by omega)⟩)
  .
   exact at_ ⟨W,k+1,a⟩ (by dsimp only;exact⟨⟨hWl,hWs,by omega,hka⟩,(by omega)⟩)
 .
  have hbW: ∀l∈W,LB l:=fun l h=>⟨(hWs l h).bl⟩;have hoW: ∀l∈W,l.ok:=fun l h=>(hWs l h).ok;have hkW: ∀l∈W,BL l 16:=fun l h=>⟨by have:=(hWs l h).a;omega,by have:=(hWs l h).b;omega,by have:=(hWs l h).c;omega⟩;refine fz 16 J J<|cl J (Ol (fun l h=>(hbW l h).bl) (by omega)) J<|cl J (zS hrg.ok) J<|?_;rcases hq:fj W [] with _|c
  .
   refine cl J (yK hE hrg hcv hbW hoW (by omega) hq) J<|cl (fu:=⟨3⟩) J (N5 (yM hoW hq) hbW hoW) J<|qc 56 J<|gx (fu:=⟨14⟩) J<|GP J (zL hE.toEG) J<|gl (fu:=⟨0⟩) J hE.ErrEmpty J<|GP (fu:=⟨5⟩) J V4 J<|dP J J J<|rz J J
  .
   obtain⟨d,S⟩:=yU hV hbW hoW hkW (by decide) (by omega) hq;refine cl J (yJ hE hrg hcv hV hbW hoW (by omega) (kb:=16) (by decide) hq S) J<|cl (fu:=⟨3⟩) J (N5 (yB hoW hq) hbW hoW) J<|jO 56 J<|gx (fu:=⟨16⟩) J<|GP (fu:=⟨2⟩) J (zL hE.toEG) J<|dP J J J<|cl J (zR hV hbW (by omega) S) J<|cl J (Ol (ls:=d.map (·.l)) (fun l h=>(yW S l h).bl) (by have:=S.dn;rw[aX];omega)) J<|cl J (yR (L:=d.map (·.l)) (yW S) (by have:=S.dn;rw[aX];omega)) J<|rz J J
end Go.Sx
end
section
namespace Go.Sx
open Go Go.Proofs Go.ChangeShapes Go.WideShapes Go.ChangeAt Go.RowKit
variable {w w' W:World}{off base g:Nat}{v:Value}{H:Type}{P:Program}
def GW(w:World):Gh:=fun b=>match w.heap[b]? with|some (.cells cs _ _)=>some cs.toList|_=>none
def GW.sub{b:Nat}{cs:List Value}(h:GW w b=some cs): ∃ty fz,w.heap[b]? =some (.cells ⟨cs⟩ ty fz):=by
 unfold GW at h;split at h
 .rename_i c t f e
  cases h
  exact⟨t,f,by rw[e]⟩
 .cases h
def GW.of_cell{b:Nat}(h:w.cell? ⟨b,off,none⟩=some v): ∃cs,GW w b=some cs/\cs[off]? =some v:=by
 unfold World.cell? at h;unfold GW;split at h
 .rename_i c t f e
  simp only at e;refine⟨c.toList,by rw[e],?_⟩;simpa using h
 all_goals first|(rename_i e;cases h)|cases h
def bF.below{G G':Gh}{own:List aA}(h:bF ⟨w,G,[],[],[],none,fun _=>none⟩ own G' w'):Below w.heap.size w w':=
 ⟨h.os,h.tape,h.output,h.size,fun k hk=>h.keep k hk (by simp)⟩
def isLs_vI{G:Gh}: ∀es:List Int,IsLs G (es.map vI) (es.map fun n=>Value.int .i64 n)
 |[]=> .nil
 |n::t=> .cons (aH.2 J) (isLs_vI t)
def open_vI{enc:TypeId×Value->H}{t e:TypeId}{d:DataW H}{ps:List MemPlace}(ht:P.underlying t=some (.slice e))(he:P.underlying e=some (.int .i64))(hc:P.cellsOf e=1)
  (hv:Value.okWide P w .any base t v)(h:DataW.Trod enc P w 0 (fun _=>true) true t v d ps):
  ∃es:List Int,Is (GW w) (.sl (es.map vI)) v/\(d= .nil/\es=[]\/ ∃sp,d= .slice (lits .i64 es) sp)/\(∀n∈es,(Lit.int .i64 n).wf=true):=by
 obtain⟨a0,len,cap,rfl⟩:=okWide_slice ht hv;obtain⟨fuel,hf⟩:=h;rcases open_ints ht he hc hf with⟨hcs,hx⟩|⟨a,len',cap',zs,hcs,_,hl,hm,hz,hx,hcell,hwz⟩
 .simp[Value.cells] at hcs
  obtain⟨rfl,rfl,rfl⟩:=hcs;simp only[Prod.mk.injEq] at hx;exact⟨[],gv.2 ⟨0,⟨none,0,0⟩,[],J,gg.nil _ 0, .nil⟩, .inl ⟨hx.1,J⟩,by simp⟩
 .simp[Value.cells] at hcs
  obtain⟨rfl,rfl,rfl⟩:=hcs;simp only[Prod.mk.injEq] at hx;simp only[if_true] at hz;refine⟨zs.take len,gv.2 ⟨1,⟨some a,len,cap⟩,(zs.take len).map fun n=>Value.int .i64 n,J,⟨by simp;omega,hl,?_⟩,isLs_vI _⟩, .inr ⟨_,hx.1⟩,fun n hn=>hwz n (eM hn)⟩;by_cases h0:len=0
  .exact .inl (by simp[h0])
  .right
   obtain⟨b,off,spot⟩:=a;have hspot:spot=none:=by simpa[Addr.add] using World.cell?_spot (hcell 0 (by omega))
   subst hspot;have c0: ∀i,i<zs.length->w.cell? ⟨b,off+i,none⟩=some (.int .i64 (zs.getD i 0)):=fun i hi=>by
    have:=hcell i hi;rwa [Go.WideShapes.add_plain] at this
   obtain⟨cs,hcs,_⟩:=GW.of_cell (by have h9:=c0 0 (by omega);rw[gJ] at h9;exact h9);refine⟨b,off,cs,J,hcs,fun i hi=>?_⟩;simp only[aX,bT] at hi;obtain⟨cs',hcs',hi'⟩:=GW.of_cell (c0 i (by omega));rw[hcs] at hcs'
   cases hcs'
   rw[jX,au9.2 hi'];simp[aG,List.getD,aZ (show i<zs.length by omega)]
inductive CSh where
 |b
 |i (k:IntKind)
 |sl (ag:Bool) (l:List CSh)
mutual
def Fit:CSh->DV->Prop
 | .b,d=> ∃b,d= .v (.bool b)
 | .i k,d=> ∃n,d= .v (.int k n)/\(Lit.int k n).wf=true
 | .sl ag l,d=> ∃m:List DV,d= .sl m/\m.length<=maxLen/\ ∀x∈m,∃ys,FitL l ys/\((ag=true/\x= .ag ys)\/(ag=false/\ys=[x]))
def FitL:List CSh->List DV->Prop
 |[],ds=>ds=[]
 |s::l,ds=> ∃d t,ds=d::t/\Fit s d/\FitL l t
end
section
variable {enc:TypeId×Value->H}
end
def es_star: "*" ++ "errors.errorString" = "*errors.errorString" :=by decide
def es_row(u:TypeId)(h:Tryz.prog.typeName? 3 u=some "*errors.errorString"):u=433:=
 typeName_ptr_named (nm:= "errors.errorString") (by rw[es_star];kernel_rfl) (by kernel_rfl) (by decide) u (by rw[es_star];exact h)
def sent_of{n:String}{text:List UInt8}{r:List (String×DataW Unit)}(h:laidMet Tryz.prog ((n, .iface "*errors.errorString" (.ptr (.agg [.lit (.string text)])))::r) W)(hg:Tryz.prog.globalNamed n=some g)(ht:(Tryz.prog.globals[g]?).map (·.type)=some 33):
  ∃a,GW W g=some [.iface 433 (.pointer (some a))]:=by
 obtain⟨a,s,hv,_⟩:=laid_sentinel h hg ht Tryz.underlying33 es_row Tryz.underlying433 Tryz.underlying458 rfl rfl Tryz.underlying9 (by kernel_rfl) (by kernel_rfl);refine⟨a,?_⟩;unfold World.var? at hv;rw[hg,Option.bind_some] at hv;unfold GW;split at hv
 .rename_i c t f e
  rw[e];cases hv;rfl
 .cases hv
def laid_plain{l:List (String×DataW Unit)}(h:laidMetH Tryz.prog l W)(hp:(l.all fun x=>x.2.handleName?.isNone)=true):laidMet Tryz.prog l W:=by rwa [Go.MakeChecks.laidMetH_plain _ _ _ hp] at h
end Go.Sx
end
section
namespace Go.Proofs.YtjpdfobnjmflkaaGreatDoor
open Go.ChangeShapes Go.WideShapes Go.ChangeAt Go.RowKit Go.Sx
theorem js1:mapsRowed Tryz.pinned.checked.prog=true:=by kernel_rfl
theorem js2:Tryz.pinned.checked.prog.stopsHeard=true:=by kernel_rfl
theorem js3:Tryz.pinned.checked.prog.mayEnter=true:=by kernel_rfl
theorem js4:laidOutB Tryz.prog=true:=by kernel_rfl
end Go.Proofs.YtjpdfobnjmflkaaGreatDoor
end
section
namespace Go.Proofs.YtjpdfobnjmflkaaGreatDoor.morphCells
open Go.ChangeShapes Go.WideShapes Go.ChangeAt Go.RowKit Go.Sx
theorem own:ownKnob Tryz.prog.godebug=none:=by kernel_rfl
theorem laidOut:laidOutB Tryz.prog=true:=js4
theorem cellsI:Tryz.prog.cellsOf 3=1:=by kernel_rfl
theorem bytesI:Tryz.prog.bytesOf 3=8:=by kernel_rfl
theorem door_met(os:Os)(args:Array Value):laidMetH Tryz.prog Rows.morphCellsRow.laid ((World.doorLaid Tryz.prog 100 os).forCall (fun _ _=>0) ⟨#[],args,[]⟩).memory:=
 laidMetH_of_parts3 (fuel:=8) (laidMet_of_run' 8 (by kernel_rfl) (by kernel_rfl)) (by kernel_rfl) (by kernel_rfl)
theorem eg_of{W:World}(h:laidMetH Tryz.prog Rows.morphCellsRow.laid W): ∃ai al ae,D0 (GW W) ai al ae:=by
 have h1:=laid_plain h J;obtain⟨ai,hi⟩:=sent_of (g:=1) h1.tail.tail.tail (by kernel_rfl) (by kernel_rfl);obtain⟨al,hl⟩:=sent_of (g:=2) h1.tail.tail.tail.tail.tail.tail (by kernel_rfl) (by kernel_rfl);obtain⟨ae,he⟩:=sent_of (g:=0) h1.tail.tail.tail.tail.tail (by kernel_rfl) (by kernel_rfl);exact⟨ai,al,ae,⟨hi,hl⟩,he⟩
theorem contract(H:Type)(enc:TypeId×Value->H)(W:World)(base:Nat)(args:Array Value)(ds gs:List (DataW H))(before:List MemPlace)
  (hval: ∀(j:Nat) t v,Tryz.f4.params[j]? =some t->args[j]? =some v->Value.okWide Tryz.prog W .any base t v)
  (hW:DataW.Whole enc Tryz.prog Tryz.f4.params.toList Rows.morphCellsSpec.vars false W args.toList ds gs before)
  (hz:(DataW.weightsEach Tryz.prog (Tryz.f4.params.toList++(OpenSpec.ofChange Rows.morphCellsSpec).bare.plain.varTypes Tryz.prog) (ds++gs)).all (· <=reachBytes)=true)(hlaid:laidMetH Tryz.prog Rows.morphCellsRow.laid W):
  Calls Tryz.prog 4 args W fun e W'=> ∃v,e= .returned v/\Rows.morphCellsSpec.post enc Tryz.prog Tryz.f4 false true false false W args v W':=by
 have hW':=hW;obtain⟨p,q,hA0,hV,rfl,_,_⟩:=hW;have hA:DataW.TrodAll enc Tryz.prog W 0 (fun _=>true) true Tryz.f4.params.toList args.toList ds p:=hA0;rw[Tryz.params4] at hA hval hz;obtain⟨v0,d0,hargs,rfl,h0⟩:=trodAll_one hA;obtain rfl:args= #[v0]:=by cases args;simp_all
 obtain⟨rfl,rfl⟩:=trodVars_none hV;clear hA0;simp only[List.append_nil] at hW';have hlt: ∀x∈p,x.block<W.heap.size:=fun x hx=>by simpa using hW'.lt x hx
 obtain⟨es,hI,hd,_⟩:=open_vI Tryz.underlying22 Tryz.underlying3 cellsI (hval 0 22 v0 rfl rfl) h0;have hb:es.length<=1125899906842624:=by
  rcases hd with⟨rfl,rfl⟩|⟨sp,rfl⟩
  .exact Nat.zero_le _
  .have:=sized_slice hz (j:=0) (t:=22) (e:=3) J J Tryz.underlying22
   rw[bytesI] at this;have hr:=reachBytes_lt;have hl:(lits (H:=H) .i64 es).length=es.length:=by simp[lits]
   rw[hl] at this;omega
 obtain⟨ai,al,ae,hE⟩:=eg_of hlaid;have hf:=(zN hE (es0:=es) hb) (GW W) [v0] (bI.refl _) (.cons hI .nil);refine(hf.run W (fun b cs hg=>GW.sub hg)).mono fun e W' ⟨v,G',he,hr,hv⟩=>?_;rw[aH] at hv;subst hv;subst he;have hn:=hr.below;have t2:=trodAll_mk1 (Below.trod laidOut (by kernel_rfl) (of_decide_eq_true (by kernel_rfl)) h0 hn hlt);exact⟨_,J,⟨_,_,_,[],_,[],hW',trodAll_mk1 (shut_bool Tryz.underlying4 _),t2,J,hn.frame _,fun h=>by cases h⟩⟩
theorem reads(os:Os){H:Type}(enc:TypeId×Value->H): ∃places,DataW.whole enc Tryz.prog ((World.doorLaid Tryz.prog 100 os).forCall (fun _ _=>0) ⟨#[], #[.slice none 0 0],[]⟩).memory Tryz.f4.params.toList Rows.morphCellsSpec.vars false #[Value.slice none 0 0].toList 8=some ([.nil],[],places):=
 ⟨[],by kernel_rfl⟩
theorem lifted(os:Os)(started:os.Started)(H:Type)(enc:TypeId×Value->H)(F:Stop.Interp):
  ReturnsInHanded {} Tryz.checked os 4 .any ((OpenSpec.ofChange Rows.morphCellsSpec).preRow enc Tryz.prog Tryz.f4 Rows.morphCellsRow.domain false Rows.morphCellsRow.laid) (((OpenSpec.ofChange Rows.morphCellsSpec).at F).post enc Tryz.prog Tryz.f4 false true false false):=by
 obtain⟨places,hx⟩:=reads os enc;refine returnsInHanded_of_row (C:=Tryz.checked) (s:=OpenSpec.ofChange Rows.morphCellsSpec) own started (by kernel_rfl) Tryz.func4
  (witness_row_atRef (enc:=enc) (C:=Tryz.checked) false (World.doorLaid Tryz.prog 100 os) #[.slice none 0 0] rfl (by kernel_rfl) (by kernel_rfl) (by kernel_rfl)
   (OpenSpec.preRow_of_cond 8 hx (by kernel_rfl) (fun k hk=>by cases hk) (by kernel_rfl) (door_met os _))) ?_
 intro W base args ds gs before hval hW _ _ hz hlaid _ _;exact contract H enc W base args ds gs before hval hW hz hlaid
theorem j1:(Rows.morphCellsRow.inPlace==Tryz.pinned.checked.prog.inPlace 4)=true:=by kernel_rfl
theorem j2:(Rows.morphCellsRow.unfollowed==Tryz.pinned.checked.prog.unfollowed 4)=true:=by kernel_rfl
theorem j3:(Rows.morphCellsRow.recurses==Tryz.pinned.checked.prog.recurses 4)=true:=by kernel_rfl
theorem j4:(Rows.morphCellsRow.named==Tryz.pinned.checked.prog.varsNamed 4)=true:=by kernel_rfl
theorem j5:laidOutB Tryz.pinned.checked.prog=true:=laidOut
theorem j6:mapsRowed Tryz.pinned.checked.prog=true:=js1
theorem j7:Tryz.pinned.checked.prog.mainIs=some (Rows.morphCellsCard.stood.harness.1,Rows.morphCellsCard.stood.harness.2.toList):=by kernel_rfl
theorem j8:false=Rows.morphCellsRow.goesBy Tryz.pinned.checked.prog:=by kernel_rfl
theorem j9:(Rows.morphCellsRow.plainKeys==Tryz.pinned.checked.prog.plainKeys)=true:=by kernel_rfl
theorem j10:(Rows.morphCellsRow.lifted==Tryz.pinned.checked.prog.liftsFinal)=true:=by kernel_rfl
theorem j11:(Tryz.pinned.checked.prog.make==some Rows.morphCellsRow.make)=true:=by kernel_rfl
theorem closed:joinedFacts Tryz.pinned.checked.prog 4 Tryz.f4 (OpenSpec.ofChange Rows.morphCellsSpec).bare Rows.morphCellsRow=true:=by
 unfold joinedFacts;rw[j1,j2,j3,j4,j5,j6,j9,j10,j11,js2,js3]
 kernel_rfl
theorem said:Rows.MorphCellsSaid:=
 OpenClaim.holds_of_cond 4 Tryz.f4 J J J J J J J ⟨J,J,J,J,J⟩ J J J J J (by kernel_rfl) Tryz.func4 closed
  (of_decide_eq_true (by kernel_rfl)) (by unfold Func.isWrapper;first|(rw[if_pos (by decide+kernel)];kernel_rfl)|(rw[if_neg (by decide+kernel)];exact⟨J,J⟩))
  (fun os started H enc _ F=>by rw[OpenClaim.pre_eq_preRow];exact lifted os started H enc F)
theorem plain(f:FuncId)(fn:Func)(hf:Tryz.pinned.checked.prog.funcNamed "bspregion/bspregionlaw29.MorphCells" =some f)(hfn:Tryz.pinned.checked.prog.funcs[f]? =some fn):
  true=Tryz.pinned.checked.prog.looks []/\ ∀(j:Nat) t,fn.params[j]? =some t->Tryz.pinned.checked.prog.wantsStandIn t=false:=by
 obtain rfl:f=4:=Option.some.inj ((show Tryz.prog.funcNamed "bspregion/bspregionlaw29.MorphCells" =some 4 by kernel_rfl).symm.trans hf) |>.symm;obtain rfl:fn=Tryz.f4:=(Option.some.inj (Tryz.func4.symm.trans hfn)).symm;refine⟨by kernel_rfl,fun j t ht=>?_⟩;rw[Tryz.params4] at ht;have hm:=Array.mem_of_getElem? ht;simp only[List.mem_toArray,List.mem_cons,List.not_mem_nil,or_false] at hm;subst hm;exact(show Tryz.prog.wantsStandIn 22=false by kernel_rfl)
theorem card:Rows.MorphCellsCardSaid:=
 Claim7.holds_tied_plain_at .later [] _ _ _ _ said (fun _ h=>by cases h) (by kernel_rfl) (fun _ h=>by cases h) morphCells_row_tie J ⟨J,J⟩ j7 J plain j8
#print axioms card
end Go.Proofs.YtjpdfobnjmflkaaGreatDoor.morphCells
end
