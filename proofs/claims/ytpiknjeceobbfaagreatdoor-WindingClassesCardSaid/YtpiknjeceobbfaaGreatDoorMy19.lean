import Derived.Test.YtpiknjeceobbfaaGreatDoorMy18
import Derived.Test.YtpiknjeceobbfaaGreatDoorCards
import Derived.Test.YtpiknjeceobbfaaGreatDoorTie
import Derived.WalkKit
import Derived.ProofKit
import Derived.OpenShut
import Derived.Deep.DeepHandedRow
import Derived.Deep.DeepWitnessRowRef
import Derived.LaidMore
import Derived.Lib.LaidTab
import Derived.SizedLaws
import Derived.Stop.LaidErr
import Derived.MakeChecks
set_option linter.all false
set_option maxHeartbeats 4000000
set_option maxRecDepth 100000
section
namespace Go.Sx
open Go Go.Proofs Tryz
variable {GB:Gh}
def zG(S:List aa)(x:aa)(R:List aa)(k:Nat):List aa:=S.take k++x::(S.drop k++R)
def zN{S:List aa}{m:Nat}(h:m<S.length): ∃A s B,S=A++s::B/\A.length=m/\S.getD m ⟨0,0⟩=s:=⟨S.take m,S[m],S.drop (m+1),by rw[<-bL h,jX],by rw[cJ];omega,i6 h⟩
def zM{A:List aa}{s:aa}{B:List aa}{x:aa}{R:List aa}:zG (A++s::B) x R (A.length+1)=A++s::x::(B++R):=by
 have q1:(A++s::B).take (A.length+1)=A++[s]:=by rw[show A++s::B=(A++[s])++B by simp];exact List.take_left' (by simp)
 have q2:(A++s::B).drop (A.length+1)=B:=by rw[show A++s::B=(A++[s])++B by simp];exact List.drop_left' (by simp)
 unfold zG;rw[q1,q2];simp
def yT(m:Nat):((((m+1:Nat)):Int)-1).toNat=m:=by omega
def zT{S:List aa}{x:aa}{R:List aa}{m:Nat}(h:m<S.length):((zG S x R (m+1)).map eP)[((((m+1:Nat)):Int)-1).toNat]? =some (eP (S.getD m ⟨0,0⟩)):=by
 obtain⟨A,s,B,rfl,rfl,e⟩:=zN h;rw[yT,e,zM];simp
def yE{S:List aa}{x:aa}{R:List aa}{m:Nat}(h:m<S.length):((zG S x R (m+1)).map eP)[(((m+1:Nat)):Int).toNat]? =some (eP x):=by
 obtain⟨A,s,B,rfl,rfl,e⟩:=zN h;rw[bW,zM];simp
def zQ(S:List aa)(x:aa)(R:List aa)(m:Nat):List aa:=S.take m++x::x::(S.drop (m+1)++R)
def xA{S:List aa}{x:aa}{R:List aa}{m:Nat}(h:m<S.length):((zG S x R (m+1)).map eP).set ((((m+1:Nat)):Int)-1).toNat (eP x)=(zQ S x R m).map eP:=by
 obtain⟨A,s,B,rfl,rfl,e⟩:=zN h;rw[yT,zM];unfold zQ;simp
def xB{S:List aa}{x:aa}{R:List aa}{m:Nat}(h:m<S.length):((zQ S x R m).map eP)[(((m+1:Nat)):Int).toNat]? =some (eP x):=by
 obtain⟨A,s,B,rfl,rfl,e⟩:=zN h;rw[bW];unfold zQ;simp
def yZ{S:List aa}{x:aa}{R:List aa}{m:Nat}(h:m<S.length):((zQ S x R m).map eP).set (((m+1:Nat)):Int).toNat (eP (S.getD m ⟨0,0⟩))=(zG S x R m).map eP:=by
 obtain⟨A,s,B,rfl,rfl,e⟩:=zN h;rw[bW,e];unfold zG zQ;simp
def zB: ∀(ds o:List aa),(ds.foldl jB o).length=o.length+ds.length
 |[],o=>rfl
 |x::ds,o=>by rw[fY,zB ds,RC,bU];omega
def yD(ds:List aa)(x:aa):fm (ds++[x])=jB (fm ds) x:=by unfold fm;rw[nZ];rfl
def mem_sortV{ds:List aa}{y:aa}:y∈fm ds↔y∈ds:=by
 have key: ∀(ds o:List aa),y∈ds.foldl jB o↔y∈o\/y∈ds:=fun ds=>by
  induction ds with
  |nil=>intro o;simp
  |cons x ds ih=>
   intro o;rw[fY,ih,Cz,aU];constructor
   ·rintro ((h|h)|h)
    ·exact .inr (.inl h)
    ·exact .inl h
    ·exact .inr (.inr h)
   ·rintro (h|h|h)
    ·exact .inl (.inr h)
    ·exact .inl (.inl h)
    ·exact .inr h
 unfold fm;rw[key];simp
def yY{S D:List aa}{x:aa}{i:Nat}(hS:S=fm (D.take i))(hx:D[i]? =some x)(hl:S.length=i):fm (D.take i)++D.drop i=zG S x (D.drop (i+1)) i:=by
 obtain⟨h1,h2⟩:=aM.1 hx;unfold zG;rw[<-hS,aL (l:=S) (by omega),gJ (l:=S) (by omega),bL h1,h2];rfl
def zW{S D:List aa}{x:aa}{i k:Nat}(hS:S=fm (D.take i))(hx:D[i]? =some x)(hk:k<=i)(hl:S.length=i)(hb:kw S x i=kw S x k)(he:k=0\/ ∃m,k=m+1/\ ¬0<ce (S.getD m ⟨0,0⟩) x):zG S x (D.drop (i+1)) k=fm (D.take (i+1))++D.drop (i+1):=by
 obtain⟨h1,h2⟩:=aM.1 hx;have hk2:kw S x k=k:=by
  rcases he with rfl|⟨m,rfl,hm⟩
  ·rfl
  ·rw[kw,if_neg hm]
 rw[dW,hx,Option.toList_some,yD,<-hS];unfold jB zG;rw[hl,hb,hk2];simp
def zV{S D:List aa}{x:aa}{i k:Nat}(hl:S.length=i)(hi:i<D.length)(hk:k<=i):(zG S x (D.drop (i+1)) k).length=D.length:=by
 unfold zG;simp only[bQ,bU,cJ,jU];omega
def yP{S D:List aa}{x:aa}{i m:Nat}(hl:S.length=i)(hi:i<D.length)(hk:m+1<=i):(zQ S x (D.drop (i+1)) m).length=D.length:=by
 unfold zQ;simp only[bQ,bU,cJ,jU];omega
def zZ{E:List aa}{k:Nat}(h:k<E.length):(E.map eP)[((k:Nat):Int).toNat]? =some (eP (E.getD k ⟨0,0⟩)):=by
 rw[bW,fS,aZ h,i6 h];rfl
def xM{C:az}{n:Nat}{Q0:Exit->Act->World->Prop}{fr:au}{own:aB}{c:Code}{K:List Kt}(nm:Nat){b:Option Bk}(h:uh ((nm,b)::own.tail) own)(k:ak prog GB C n Q0 fr ((nm,b)::own.tail) (.code c K)):ak prog GB C n Q0 fr own (.code c K):=
 ⟨fun ρ G ov a w r=>k.run ρ G ov a w (r.mono (fun _ _ h=>h) (sA h))⟩
def yN{E:List aa}{k:Nat}(h:k<E.length):((List.range E.length).drop k).flatMap (iO E)=iO E k++((List.range E.length).drop (k+1)).flatMap (iO E):=by
 rw[bL (by rw[lT];exact h),mN,List.getElem_range]
def yO(E:List aa)(k:Nat):(iO E k).length<=1:=by
 unfold iO;split
 ·simp
 ·split<;>simp
def zR(E:List aa):(mC E).length<=E.length+1:=by
 have key: ∀l:List Nat,(l.flatMap (iO E)).length<=l.length:=fun l=>by
  induction l with
  |nil=>simp
  |cons a l ih=>rw[mN,bQ,bU];have:=yO E a;omega
 unfold mC;split
 ·simp
 ·have:=key (List.range E.length);rw[lT] at this;omega
def yM{E vs r:List aa}(h:vs++r=mC E):vs.length<=2*E.length+1:=by
 have h1:=congrArg List.length h;have h2:=zR E;rw[bQ] at h1;omega
theorem zL{v:aa}{i:Nat}[hv:aq v i](h:v.half≠0):aq (er v) (i+i+1):=by
 rw[LG h];have hX:=(BN.prx v.x.num v.y.den i i).h;have hY:=(BN.prx v.y.num v.x.den i i).h;haveI:BI (zv (decide (fH v.x.num v.y.den<0)) ((fH v.x.num v.y.den).natAbs/e6 v)) (i+i):=⟨by rw[my];exact dL (iR ..) hX⟩;haveI:BI (zv (decide (fH v.y.num v.x.den<0)) ((fH v.y.num v.x.den).natAbs/e6 v)) (i+i):=⟨by rw[my];exact dL (iR ..) hY⟩;exact⟨inferInstance,inferInstance⟩
def xE(a b:Nat):Int.tmod ((a:Int)+1) (b:Int)=(((a+1)%b:Nat):Int):=by
 rw[Int.tmod_eq_emod_of_nonneg (by omega)];simp
def zJ(L:List ab)(p:aa):(dE L p).length<=2*L.length:=by
 unfold dE
 induction L with
 |nil=>exact aN _
 |cons l L ih=>rw[mN,bQ,bU];split<;>simp only[bU,gV]<;>omega
def zS{L:List ab}{p:aa}{k:Nat}{l:ab}(h:L[k]? =some l):dE (L.drop k) p=(if Int.sign (l.value p).num=0 then [l.dir,ba l.dir] else [])++dE (L.drop (k+1)) p:=by
 obtain⟨h1,h2⟩:=aM.1 h;rw[bL h1,h2];rfl
theorem yC{L:List ab}(hL: ∀l∈L,LB l){p d:aa}(h:d∈dE L p):aq d 97:=by
 obtain⟨l,hl,_,rfl|rfl⟩:=rp.1 h
 ·haveI:=hL l hl;exact inferInstance
 ·haveI:=hL l hl
  have:=(inferInstance:aq l.dir 97);exact⟨(inferInstance:BQ (-l.dir.x) _),(inferInstance:BQ (-l.dir.y) _)⟩
def xH{L:List ab}{p:aa}{i0:Nat}[hp:aq p i0](hc:kP L)(hL: ∀l∈L,LB l)(hn:L.length<=100000)(hi0:i0<=300000:=by decide):PF GB prog 52 [.sl (L.map eL),eP p, .v (.bool false)] (.sl ((gq L p).map eP)):=by
 have hml:(L.map eL).length=L.length:=aK ..;refine fn (fu:=⟨16⟩) func52 J J ntmps52 J J (fun C=>?_);refine aj 17 (.d (vI (L.length:Nat))) J (by rw[hml]<;>rfl) ?_;refine gx J<|?_;refine nr 7 7 36 6 J J J ?_;refine lp (X:=List aa×Nat) (fun⟨acc,k⟩=>[(18, .d (vI (k:Nat))),(7, .rw 7)]) (fun⟨acc,k⟩=>[(7,some (.b 36 6 ((acc).map eP) true))]) (fun⟨acc,k⟩=>acc++dE (L.drop k) p=dE L p/\k<=L.length) (fun⟨acc,k⟩=>L.length-k) ⟨[],0⟩ J ⟨J,bN _⟩ (fun _=>J) (fun⟨acc,k⟩ hk=>?_)
 try dsimp only at hk⊢
 obtain⟨h1,h2⟩:=hk;have hal:acc.length<=2*L.length:=by
  have q1:=congrArg List.length h1;have q2:=zJ L p;rw[bQ] at q1;omega
 have ham:(acc.map eP).length=acc.length:=aK ..;refine br (fu2:=⟨10⟩) J J J (fun hc19=>?_) (fun hc19=>?_)
 .
  obtain⟨l,hx⟩: ∃l,L[k]? =some l:=⟨_,aZ (by omega)⟩;have hll:=hL l (aS hx);refine ix _ J (ee hx) J<|cl J (K1 (l:=l) (p:=p) (i:=i0) (by omega)) J<|?_;refine br J J J (fun hc25=>?_) (fun hc25=>?_)
  .
   refine cl J (wU (l:=l)) J<|cl J (wU (l:=l)) J<|cl J (Xr (p:=l.dir)) J<|rf J J<|ap (hv:=by simp only[ah];exact⟨by kernel_rfl,by omega⟩) ((acc++[l.dir,ba l.dir]).map eP) J (by rw[cN]<;>rfl) (kG [l.dir,ba l.dir]) J<|?_;refine gr 33 7 J ?_;exact at_ ⟨acc++[l.dir,ba l.dir],k+1⟩ (by dsimp only;exact⟨⟨by rw[<-h1,zS hx,if_pos hc25];simp,by omega⟩,(by omega)⟩)
  .
   exact at_ ⟨acc,k+1⟩ (by dsimp only;exact⟨⟨by rw[<-h1,zS hx,if_neg hc25];rfl,by omega⟩,(by omega)⟩)
 .
  obtain rfl:k=L.length:=by omega
  obtain⟨D,hD⟩: ∃D,D=dE L p:=⟨_,rfl⟩;have hDl:D.length<=2*L.length:=by rw[hD];exact zJ L p
  obtain rfl:D=acc:=by rw[iL] at h1;rw[hD,<-h1];simp[dE]
  have hmD:(D.map eP).length=D.length:=aK ..;have hDb: ∀d∈D,aq d 97:=fun d hd=>yC hL (by rw[<-hD];exact hd);refine aj 36 (.d (vI (D.length:Nat))) J (by rw[hmD]<;>rfl) ?_;refine gx J<|?_;refine lp (X:=Nat) (fun i=>[(37, .d (vI (i:Nat))),(7, .rw 7)]) (fun i=>[(7,some (.b 36 6 (((fm (D.take i))++D.drop i).map eP) true))]) (fun i=>i<=D.length) (fun i=>D.length-i) 0 J (bN _) (fun _=>J) (fun i hk=>?_);refine br (fu2:=⟨0⟩) J J J (fun hc38=>?_) (fun hc38=>?_)
  .
   obtain⟨x,hx⟩: ∃x,D[i]? =some x:=⟨_,aZ (by omega)⟩;obtain⟨S,hS⟩: ∃S,S=fm (D.take i):=⟨_,rfl⟩;have hSl:S.length=i:=by rw[hS];show((D.take i).foldl jB []).length=i;rw[zB,gV,cJ];omega
   have hSb: ∀d∈S,aq d 97:=fun d hd=>hDb d (eY ((mem_sortV.1 (hS▸hd))));haveI hxb:=hDb x (aS hx);refine lp (fu:=⟨4⟩) (X:=Nat) (fun k=>[(11, .d (vI (k:Nat))),(7, .rw 7)]) (fun k=>[(7,some (.b 36 6 ((zG S x (D.drop (i+1)) k).map eP) true))]) (fun k=>k<=i/\kw S x i=kw S x k) (fun k=>k) i J ⟨aN _,J⟩ (fun _=>J) (fun k hk=>?_) (hO:=⟨by rw[<-yY hS hx hSl];rfl,J,trivial⟩);obtain⟨k1,k2⟩:=hk;have hrl:=zV (x:=x) hSl (show i<D.length by omega) k1;have hrm:((zG S x (D.drop (i+1)) k).map eP).length=D.length:=by rw[aK,hrl]
   refine pB (v2:=fun hg42=>by simp only[ah];exact⟨by kernel_rfl,by omega⟩) J J J J (fun hg42=>?_) (fun hg42=>?_)
   .
    obtain⟨m,rfl⟩: ∃m,k=m+1:=⟨k-1,by omega⟩;have hsl2:=yP (x:=x) hSl (show i<D.length by omega) k1;have hsm2:((zQ S x (D.drop (i+1)) m).map eP).length=D.length:=by rw[aK,hsl2]
    have hrl0:=zV (x:=x) hSl (show i<D.length by omega) (Nat.le_of_succ_le k1);haveI hsb:aq (S.getD m ⟨0,0⟩) 97:=by rw[i6 (by omega)];exact hSb _ (cK _)
    refine lb (eP (S.getD m ⟨0,0⟩)) J (zT (by omega)) J<|lb (eP x) J (yE (by omega)) J<|cl J (O9 (u:=S.getD m ⟨0,0⟩) (v:=x)) J<|?_;refine br J J J (fun hc55=>?_) (fun hc55=>?_)
    .
     refine lb (eP x) J (yE (by omega)) J<|lb (eP (S.getD m ⟨0,0⟩)) J (zT (by omega)) J<|sb (eP (S.getD m ⟨0,0⟩)) ((zQ S x (D.drop (i+1)) m).map eP) J (zT (by omega)) J (xA (by omega)) J<|?_;refine sb (hv:=by simp only[ah];exact⟨by kernel_rfl,by omega⟩) (eP x) ((zG S x (D.drop (i+1)) m).map eP) J (xB (by omega)) J (yZ (by omega)) J<|?_;exact at_ m ⟨⟨by omega,by rw[k2,kw,if_pos hc55]⟩,(by omega)⟩
    .
     exact at_ (i+1) ⟨(by omega),(by omega)⟩ (hO:=⟨by rw[zW hS hx k1 hSl k2 (.inr ⟨m,J,hc55⟩)];rfl,J,trivial⟩)
   .
    exact at_ (i+1) ⟨(by omega),(by omega)⟩ (hO:=⟨by rw[zW hS hx k1 hSl k2 (.inl (by omega))];rfl,J,trivial⟩)
  .
   obtain rfl:i=D.length:=by omega
   obtain⟨E,hE⟩: ∃E,E=fm D:=⟨_,rfl⟩;refine xM 7 (b:=some (.b 36 6 (E.map eP) true)) (by exact⟨by rw[dX,iL,mU,<-hE];rfl,J,trivial⟩) ?_;obtain⟨sd1,sd2,sd3⟩:=vT hc p;rw[<-hD,<-hE] at sd1 sd2 sd3;have hvq:gq L p=mC E:=by unfold gq;rw[<-hD,<-hE]
   have hmE:(E.map eP).length=E.length:=aK ..;have hEl:E.length=D.length:=by rw[hE];show(D.foldl jB []).length=_;rw[zB,gV,eJ]
   have hEb: ∀d∈E,aq d 97:=fun d hd=>hDb d ((sd3 d).1 hd);refine gx (fu:=⟨10⟩) J<|?_;refine aj 76 (.d (vI (E.length:Nat))) J (by rw[hmE]<;>rfl) ?_;refine gx J<|?_;refine br (fu2:=⟨12⟩) J J J (fun hc77=>?_) (fun hc77=>?_)
   .
    have hE0:E.length=0:=by omega
    have hv0:mC E=[⟨1,0⟩]:=if_pos hE0;refine cl J (kg (by omega) (by omega)) J<|rf J J<|?_;exact rz J (by rw[hvq,hv0];rfl)
   .
    have hE0: ¬E.length=0:=by omega
    refine aj 81 (.d (vI (E.length:Nat))) J (by rw[hmE]<;>rfl) ?_;refine gx J<|?_;refine nr 12 12 36 6 J J J ?_;refine lp (X:=List aa×Nat) (fun⟨vs,k⟩=>[(82, .d (vI (k:Nat))),(12, .rw 12)]) (fun⟨vs,k⟩=>[(12,some (.b 36 6 ((vs).map eP) true))]) (fun⟨vs,k⟩=>vs++((List.range E.length).drop k).flatMap (iO E)=mC E/\k<=E.length) (fun⟨vs,k⟩=>E.length-k) ⟨[],0⟩ J ⟨(by unfold mC;rw[if_neg hE0];rfl),bN _⟩ (fun _=>J) (fun⟨vs,k⟩ hk=>?_)
    try dsimp only at hk⊢
    obtain⟨h1,h2⟩:=hk;have hvl:vs.length<=2*E.length+1:=yM h1;have hvm:(vs.map eP).length=vs.length:=aK ..;refine br J J J (fun hc83=>?_) (fun hc83=>?_)
    .
     have hk3:k<E.length:=by omega
     have hw3:(k+1)%E.length<E.length:=cL _ (by omega);have hu:=sd2.nz E[k] (cK hk3);have hw:=sd2.nz E[(k+1)%E.length] (cK hw3);rw[<-i6 hk3] at hu;rw[<-i6 hw3] at hw;haveI hub:aq (E.getD k ⟨0,0⟩) 97:=by rw[i6 hk3];exact hEb _ (cK _)
     haveI hwb:aq (E.getD ((k+1)%E.length) ⟨0,0⟩) 97:=by rw[i6 hw3];exact hEb _ (cK _)
     haveI hup:=zL hu;haveI hwp:=zL hw;have hst:=yN hk3;refine lb (fu:=⟨9⟩) (eP (E.getD k ⟨0,0⟩)) J (zZ hk3) J<|?_;refine ui 87 J ?_;refine gx (fu:=⟨12⟩) J<|?_;refine aj 96 (.d (vI (E.length:Nat))) J (by rw[hmE]<;>rfl) ?_;refine gx (fu:=⟨1⟩) J<|?_;refine aj 97 (.d (vI ((k+1)%E.length:Nat))) J (by rw[xE]<;>rfl) ?_;refine gx J<|lb (eP (E.getD ((k+1)%E.length) ⟨0,0⟩)) J (zZ hw3) J<|cl J (O9 (u:=(E.getD k ⟨0,0⟩)) (v:=(E.getD ((k+1)%E.length) ⟨0,0⟩))) J<|?_;refine cs 104 J J J (fun hg104=>?_) (fun hg104=>?_)
     .
      refine br J J J (fun hc108=>?_) (fun hc108=>?_)
      .
       exact at_ ⟨vs,k+1⟩ (by dsimp only;exact⟨⟨by rw[<-h1,hst,show iO E k=[] from if_pos ⟨hg104,by omega⟩];rfl,by omega⟩,(by omega)⟩)
      .
       refine cl J (xV (p:=(E.getD k ⟨0,0⟩)) (q:=(E.getD ((k+1)%E.length) ⟨0,0⟩))) J<|cl J (oF (q:=aa.cross (E.getD k ⟨0,0⟩) (E.getD ((k+1)%E.length) ⟨0,0⟩))) J<|?_;refine br J J J (fun hc113=>?_) (fun hc113=>?_)
       .
        refine cl J (qb (q:=((E.getD k ⟨0,0⟩)).y)) J<|rf J J<|ap (hv:=by simp only[ah];exact⟨by kernel_rfl,by omega⟩) ((vs++[d6 (E.getD k ⟨0,0⟩)]).map eP) J (by rw[cN]<;>rfl) (kG [d6 (E.getD k ⟨0,0⟩)]) J<|?_;refine gr 122 12 J ?_;exact at_ ⟨vs++[d6 (E.getD k ⟨0,0⟩)],k+1⟩ (by dsimp only;exact⟨⟨by rw[<-h1,hst,show iO E k=[d6 (E.getD k ⟨0,0⟩)] from(if_neg (fun q=>by omega)).trans (if_pos hc113)];simp,by omega⟩,(by omega)⟩)
       .
        refine cl J (A9 (v:=(E.getD k ⟨0,0⟩)) hu) J<|cl J (nH (by omega) (by omega)) J<|cl J (A9 (v:=(E.getD ((k+1)%E.length) ⟨0,0⟩)) hw) J<|?_;refine cl J (u6 (p:=er (E.getD k ⟨0,0⟩)) (q:=er (E.getD ((k+1)%E.length) ⟨0,0⟩)) (c:=((1:Int):Rat)) (k:=2)) J<|rf J J<|?_;refine ap (hv:=by simp only[ah];exact⟨by kernel_rfl,by omega⟩) ((vs++[aD (er (E.getD k ⟨0,0⟩)) (er (E.getD ((k+1)%E.length) ⟨0,0⟩)) 1]).map eP) J (by rw[cN]<;>rfl) (kG [aD (er (E.getD k ⟨0,0⟩)) (er (E.getD ((k+1)%E.length) ⟨0,0⟩)) 1]) J<|?_;refine gr 131 12 J ?_;exact at_ ⟨vs++[aD (er (E.getD k ⟨0,0⟩)) (er (E.getD ((k+1)%E.length) ⟨0,0⟩)) 1],k+1⟩ (by dsimp only;exact⟨⟨by rw[<-h1,hst,show iO E k=[aD (er (E.getD k ⟨0,0⟩)) (er (E.getD ((k+1)%E.length) ⟨0,0⟩)) 1] from(if_neg (fun q=>by omega)).trans (if_neg hc113)];simp,by omega⟩,(by omega)⟩)
     .
      refine cl J (xV (p:=(E.getD k ⟨0,0⟩)) (q:=(E.getD ((k+1)%E.length) ⟨0,0⟩))) J<|cl J (oF (q:=aa.cross (E.getD k ⟨0,0⟩) (E.getD ((k+1)%E.length) ⟨0,0⟩))) J<|?_;refine br J J J (fun hc113=>?_) (fun hc113=>?_)
      .
       refine cl J (qb (q:=((E.getD k ⟨0,0⟩)).y)) J<|rf J J<|ap (hv:=by simp only[ah];exact⟨by kernel_rfl,by omega⟩) ((vs++[d6 (E.getD k ⟨0,0⟩)]).map eP) J (by rw[cN]<;>rfl) (kG [d6 (E.getD k ⟨0,0⟩)]) J<|?_;refine gr 122 12 J ?_;exact at_ ⟨vs++[d6 (E.getD k ⟨0,0⟩)],k+1⟩ (by dsimp only;exact⟨⟨by rw[<-h1,hst,show iO E k=[d6 (E.getD k ⟨0,0⟩)] from(if_neg (fun q=>hg104 q.1)).trans (if_pos hc113)];simp,by omega⟩,(by omega)⟩)
      .
       refine cl J (A9 (v:=(E.getD k ⟨0,0⟩)) hu) J<|cl J (nH (by omega) (by omega)) J<|cl J (A9 (v:=(E.getD ((k+1)%E.length) ⟨0,0⟩)) hw) J<|?_;refine cl J (u6 (p:=er (E.getD k ⟨0,0⟩)) (q:=er (E.getD ((k+1)%E.length) ⟨0,0⟩)) (c:=((1:Int):Rat)) (k:=2)) J<|rf J J<|?_;refine ap (hv:=by simp only[ah];exact⟨by kernel_rfl,by omega⟩) ((vs++[aD (er (E.getD k ⟨0,0⟩)) (er (E.getD ((k+1)%E.length) ⟨0,0⟩)) 1]).map eP) J (by rw[cN]<;>rfl) (kG [aD (er (E.getD k ⟨0,0⟩)) (er (E.getD ((k+1)%E.length) ⟨0,0⟩)) 1]) J<|?_;refine gr 131 12 J ?_;exact at_ ⟨vs++[aD (er (E.getD k ⟨0,0⟩)) (er (E.getD ((k+1)%E.length) ⟨0,0⟩)) 1],k+1⟩ (by dsimp only;exact⟨⟨by rw[<-h1,hst,show iO E k=[aD (er (E.getD k ⟨0,0⟩)) (er (E.getD ((k+1)%E.length) ⟨0,0⟩)) 1] from(if_neg (fun q=>hg104 q.1)).trans (if_neg hc113)];simp,by omega⟩,(by omega)⟩)
    .
     obtain rfl:k=E.length:=by omega
     obtain rfl:vs=mC E:=by rw[gJ (by rw[lT];exact aN _)] at h1;simpa using h1
     refine mf 12 J ?_;exact rz J (by rw[hvq];rfl)
theorem yX{L:List ab}(hc:kP L)(hL: ∀l∈L,LB l){p v:aa}(hv:v∈gq L p):aq v 500:=by
 obtain⟨h1,h2,h3⟩:=vT hc p;have hE: ∀d∈fm (dE L p),aq d 97:=fun d hd=>yC hL ((h3 d).1 hd);unfold gq at hv;generalize fm (dE L p)=E at*;unfold mC at hv;split at hv
 ·rw[aV] at hv;subst hv
  exact⟨BQ.mono (k:=2) ⟨by decide,by decide⟩ (by decide),BQ.mono (k:=2) ⟨by decide,by decide⟩ (by decide)⟩
 ·rename_i hn
  obtain⟨i,hi,hs⟩:=cY.1 hv;rw[fN] at hi;have hj:(i+1)%E.length<E.length:=cL _ (by omega);haveI b1:=hE _ (cK hi);haveI b2:=hE _ (cK hj);unfold iO at hs;rw[i6 hi,i6 hj] at hs;split at hs
  ·cases hs
  ·split at hs
   ·rw[aV] at hs;subst hs
    exact⟨(inferInstance:BQ (-(E[i]).y) 97).mono (by decide),(inferInstance:BQ (E[i]).x 97).mono (by decide)⟩
   ·rw[aV] at hs;subst hs
    haveI q1:=zL (h2.nz _ (cK hi));haveI q2:=zL (h2.nz _ (cK hj));haveI q3:BQ (1:Rat) 2:=⟨by decide,by decide⟩;have:=(inferInstance:aq (aD (er E[i]) (er E[(i+1)%E.length]) 1) _);exact⟨this.x.mono (by decide),this.y.mono (by decide)⟩
def yF(L:List ab)(p:aa):(gq L p).length<=2*L.length+1:=by
 have h1:=zR (fm (dE L p));have h2:=zB (dE L p) [];have h3:=zJ L p;unfold gq;rw[gV,eJ] at h2;rw[show fm (dE L p)=(dE L p).foldl jB [] from J] at*;omega
def xN(t:Tr)(p:aa):Int:=if XK t p then 2 else if X7 t p then 1 else 0
def xQ(t:Tr)(p:aa)(V:List aa)(k:Nat):Bool:=(V.take k).any fun v=>(fI t p v).1
def xS(t:Tr)(p:aa)(V:List aa)(k:Nat):Bool:=(V.take k).all fun v=>(fI t p v).1
def zU{l:List aa}{x:aa}(h:x∈l): ∃i:Nat,i<l.length/\lB l x=(i:Int)/\l.getD i ⟨0,0⟩=x:=by
 cases e:l.findIdx? (fun q=>decide (q.x=x.x/\q.y=x.y)) with
 |none=>
  rw[List.findIdx?_eq_none_iff] at e;have:=e x h;simp at this
 |some i=>
  have e0:=e;rw[List.findIdx?_eq_some_iff_getElem] at e;obtain⟨h1,h2,_⟩:=e;refine⟨i,h1,by unfold lB;rw[e0],?_⟩;have h3:=of_decide_eq_true h2;rw[aX,aZ h1,gK];generalize l[i]=q at*
  cases q;cases x
  simp only[aa.mk.injEq] at*;exact h3
def zP(l:List aa): ∀n,d7 l n=((List.range n).filter fun k=>decide (lB l (l.getD k ⟨0,0⟩)=((k:Nat):Int))).length
 |0=>rfl
 |n+1=>by
  rw[d7,List.range_succ,List.filter_append,bQ,zP l n];congr 1;by_cases h:lB l (l.getD n ⟨0,0⟩)=((n:Nat):Int)
  ·rw[if_pos h];simp only[pQ,decide_eq_true h,if_true];rfl
  ·rw[if_neg h];simp only[pQ,decide_eq_false h];rfl
def yJ{F:List Nat}{i j k:Nat}(hi:i∈F)(hj:j∈F)(hk:k∈F)(h1:i≠j)(h2:i≠k)(h3:j≠k):3<=F.length:=by
 match F with
 |[]=>cases hi
 |[a]=>simp at hi hj;omega
 |[a,b]=>simp at hi hj hk;omega
 |a::b::c::t=>simp
def yW{l:List aa}{a b c:aa}(ha:a∈l)(hb:b∈l)(hc:c∈l)(h1:a≠b)(h2:a≠c)(h3:b≠c):3<=d7 l l.length:=by
 obtain⟨i,i1,i2,i3⟩:=zU ha;obtain⟨j,j1,j2,j3⟩:=zU hb;obtain⟨k,k1,k2,k3⟩:=zU hc;rw[zP];have mk: ∀{x:aa} {m:Nat},m<l.length->lB l x=(m:Int)->l.getD m ⟨0,0⟩=x->m∈(List.range l.length).filter fun k=>decide (lB l (l.getD k ⟨0,0⟩)=((k:Nat):Int)):=fun{x m} q1 q2 q3=>iJ.2 ⟨fN.2 q1,decide_eq_true (by rw[q3];exact q2)⟩;exact yJ (mk i1 i2 i3) (mk j1 j2 j3) (mk k1 k2 k3) (fun e=>h1 (by rw[<-i3,<-j3,e])) (fun e=>h2 (by rw[<-i3,<-k3,e])) (fun e=>h3 (by rw[<-j3,<-k3,e]))
def cmpZ_lt{p q:ZP}:jF p q<0↔p.1<q.1\/(p.1=q.1/\p.2<q.2):=by
 unfold jF
 repeat' split
 all_goals (constructor<;>intro h<;>omega)
def yK{p q:ZP}:jF p q=0↔p.1=q.1/\p.2=q.2:=by
 unfold jF
 repeat' split
 all_goals (constructor<;>intro h<;>omega)
def zO{x y:ZP}: ∀{l:List ZP},y∈jq x l->y=x\/y∈l
 |[],h=>by simp[jq] at h;exact .inl h
 |u::t,h=>by
  rw[jq] at h;split at h
  ·rcases aU.1 h with rfl|h
   ·exact .inr aQ
   ·exact(zO h).imp id fun k=>aJ _ k
  ·split at h
   ·exact .inr h
   ·rcases aU.1 h with rfl|h
    ·exact .inl J
    ·exact .inr h
def yB{x:ZP}: ∀{l:List ZP},l.Pairwise (fun a b=>jF a b<0)->(jq x l).Pairwise (fun a b=>jF a b<0)
 |[],_=>by simp[jq]
 |u::t,h=>by
  obtain⟨h1,h2⟩:=bX.1 h;rw[jq];split
  ·rename_i hu
   refine bX.2 ⟨fun y hy=>?_,yB h2⟩;rcases zO hy with rfl|hy
   ·exact hu
   ·exact h1 y hy
  ·split
   ·exact h
   ·rename_i k1 k2
    rw[cmpZ_lt] at k1;rw[yK] at k2;refine bX.2 ⟨fun y hy=>?_,h⟩;rw[cmpZ_lt];rcases aU.1 hy with rfl|hy
    ·omega
    ·have:=cmpZ_lt.1 (h1 y hy);omega
def yG(l:List ZP):(og l).Pairwise (fun a b=>jF a b<0)/\ ∀y∈og l,y∈l:=by
 have key: ∀(l o:List ZP),o.Pairwise (fun a b=>jF a b<0)->(l.foldl (fun out x=>jq x out) o).Pairwise (fun a b=>jF a b<0)/\ ∀y∈l.foldl (fun out x=>jq x out) o,y∈l\/y∈o:=by
  intro l
  induction l with
  |nil=>intro o ho;exact⟨ho,fun y hy=> .inr hy⟩
  |cons x t ih=>
   intro o ho;obtain⟨i1,i2⟩:=ih (jq x o) (yB ho);refine⟨i1,fun y hy=>?_⟩;rcases i2 y hy with h|h
   ·exact .inl (aJ _ h)
   ·rcases zO h with rfl|h
    ·exact .inl aQ
    ·exact .inr h
 obtain⟨k1,k2⟩:=key l [] .nil;exact⟨k1,fun y hy=>(k2 y hy).resolve_right (by simp)⟩
def xC{r:List ZP}(ho:b9 r)(h:3<=(og r).length):jl r:=by
 refine⟨ho,?_⟩;obtain⟨k1,k2⟩:=yG r
 match hs:og r with
 |[]=>rw[hs] at h;simp at h
 |[a]=>rw[hs] at h;simp at h
 |[a,b]=>rw[hs] at h;simp at h
 |a::b::c::t=>
  rw[hs] at k1 k2;obtain⟨p1,p2⟩:=bX.1 k1;obtain⟨p3,_⟩:=bX.1 p2;have ne: ∀{x y:ZP},jF x y<0->x.q≠y.q:=fun{x y} q e=>by
   have:=wH e;subst this;have:=cmpZ_lt.1 q;omega
  exact yW (jQ (k2 a (by simp))) (jQ (k2 b (by simp))) (jQ (k2 c (by simp))) (ne (p1 b (by simp))) (ne (p1 c (by simp))) (ne (p3 c (by simp)))
def yQ{es:List Int}{a:Nat}(ha:a<=es.length):jl (oc es a).1:=by
 have hok:=(Eb ha).1;unfold oc at*;dsimp only at*;split
 ·exact FI Ny (by decide) (by decide) (by decide)
 ·rename_i h
  rw[if_neg h] at hok;exact xC hok (by omega)
def xD{es:List Int}{a:Nat}(ha:a<=es.length):jl (gn es a).1:=by
 have hok:=(HT ha).1;have h0:=f9 (n:=4) ha;unfold gn at*;dsimp only at*;split
 ·rename_i h
  rw[if_pos h] at hok;unfold Ac at*;dsimp only at*;exact Zp hok (by omega) (by omega)
 ·rename_i h
  rw[if_neg h] at hok;split
  ·rename_i k
   rw[if_pos k] at hok;obtain⟨p1,p2,p3⟩:=uH h0;obtain⟨u1,u2,u3,u4⟩:=vX p3;obtain⟨v1,v2,v3,v4⟩:=vX u4;split
   ·rename_i hc
    rw[if_pos hc] at hok;exact Q6 hok hc
   ·exact yQ v4
  ·exact yQ h0
structure EGW (GB:Gh) (ar:Addr):Prop where
 ErrRange:GB 1=some [.iface 340 (.pointer (some ar))]
def zH(es:List Int):Nat->Nat->List (List ZP)->List (List ZP)×Nat
 |0,a,out=>(out,a)
 |n+1,a,out=>zH es n (gn es a).2 (out++[(gn es a).1])
def zA(es:List Int)(m a:Nat):List (List ZP)×Nat:=zH es (ao es (m+1) a).1 (ao es (m+1) a).2 []
def zX{es:List Int}: ∀{n a:Nat} {out:List (List ZP)},a<=es.length->(∀r∈out,jl r)->(∀r∈(zH es n a out).1,jl r)/\(zH es n a out).1.length=out.length+n/\(zH es n a out).2<=es.length
 |0,a,out,ha,h=>⟨h,J,ha⟩
 |n+1,a,out,ha,h=>by
  have h1:=(HT ha).2;obtain⟨i1,i2,i3⟩:=zX (n:=n) (out:=out++[(gn es a).1]) h1 fun r hr=>by
   rcases bT.1 hr with hr|hr
   ·exact h r hr
   ·rw[aV.1 hr];exact xD ha
  exact⟨i1,by rw[zH,i2,bQ];simp;omega,i3⟩
def yH{es:List Int}{m a:Nat}(ha:a<=es.length):(∀r∈(zA es m a).1,jl r)/\(zA es m a).1.length<=m/\(zA es m a).2<=es.length:=by
 have h1:=iA (es:=es) (n:=m+1) (a:=a) (by omega);obtain⟨i1,i2,i3⟩:=zX (es:=es) (n:=(ao es (m+1) a).1) (out:=[]) (f9 (n:=m+1) ha) (fun r hr=>by cases hr);exact⟨i1,by unfold zA;rw[i2];simp;omega,i3⟩
def yR{b:Nat}{es:List Int}(hes:es.length<=400){a:Nat}(ha:a<=es.length){md:Nat}(hmd:md<=100):PM GB prog 11 (jh [none,some (.v (.int .i64 (md:Nat)))] b) b 89 [.sl (es.map vI), .v (.int .i64 (a:Nat))] (.sl ((zA es md a).1.map i7)) [.sl (es.map vI), .v (.int .i64 ((zA es md a).2:Nat))]:=by
 have hj1:=iA (es:=es) (n:=md+1) (a:=a) (by omega);have hj2:=f9 (n:=md+1) ha;refine u5 func11 J J ntmps11 J J (fun C b m lo hmb=>?_);refine cm J (fun b=>(lz (n:=(md:Int)+1) hes ha (by omega) (by omega))) J<|?_;refine nr 5 5 41 1 J J J ?_;refine lp (X:=List (List ZP)×Nat×Nat) (fun⟨rs,i,b⟩=>[(6, .d (vI (i:Nat))),(5, .rw 5)]) (fun⟨rs,i,b⟩=>[(1000000,some (.o 89 [.d (.sl (es.map vI)), .d (.v (.int .i64 (b:Nat)))] false)),(5,some (.b 41 1 (rs.map i7) true))]) (fun⟨rs,i,b⟩=>zH es i b rs=zA es md a/\b<=es.length/\rs.length+i<=100) (fun⟨rs,i,b⟩=>i) ⟨[],(ao es (md+1) a).1,(ao es (md+1) a).2⟩ J ⟨J,hj2,by simp;omega⟩ (fun _=>J) (fun⟨rs,i,b⟩ hk=>?_)
 try dsimp only at hk⊢
 obtain⟨h1,h2,h3⟩:=hk;have hrl:(rs.map i7).length=rs.length:=by simp
 refine br (fu2:=⟨0⟩) J J J (fun hc12=>?_) (fun hc12=>?_)
 .
  obtain⟨j,rfl⟩: ∃j,i=j+1:=⟨i-1,by omega⟩;have hq:=(HT h2).2;refine cm J (fun b=>(Wk hes h2)) J<|rf J J<|ap ((rs++[(gn es b).1]).map i7) J (by rw[cN];rfl) (KW [_]) J<|?_;refine gr 19 5 J ?_;exact at_ ⟨rs++[(gn es b).1],j,(gn es b).2⟩ (by dsimp only;exact⟨⟨by rw[<-h1,zH],hq,by simp;omega⟩,(by omega)⟩)
 .
  obtain rfl:i=0:=by omega
  have hfin:zA es md a=(rs,b):=by rw[<-h1,zH]
  refine yu 5 J ?_;refine gx J<|?_;exact jO hmb J J (by rw[hfin];rfl) (by rw[hfin])
def xG{c:List ab}{p v:aa}(hc: ∀m∈c,LB m)(hn:c.length<=1000)(hp:aq p 4500)(hv:aq v 500):PF GB prog 54 [.sl (c.map eL),eP p,eP v] (eP (js c p v)):=by
 have hcl:=R7 c;refine fn func54 J J ntmps54 J J (fun C=>?_);refine cl (fu:=⟨9⟩) J (nH (n:=1) (by decide) (by decide)) J<|?_;refine aj 14 (.d (vI (c.length:Nat))) J (by rw[hcl];rfl) ?_;refine gx J<|?_;refine lp (X:=Rat×Nat) (fun⟨s,k⟩=>[(15, .d (vI (k:Nat))),(14, .d (vI (c.length:Nat))),(13, .d (.sl (c.map eL))),(4, .ov 4 0),(5, .ov 5 0),(7, .ov 7 0),(6, .ov 6 0)]) (fun⟨s,k⟩=>[(7,some (.o 34 [.d ((.v (.bool (decide (s.num<0))))), .d (dN s.num.natAbs), .d (dD s.den)] true)),(6,some (.o 36 [.ff, .nl, .nl, .ff, .nl, .nl] true)),(5,some (.o 36 [.d ((.v (.bool (decide (v.x.num<0))))), .d (dN v.x.num.natAbs), .d (dD v.x.den), .d ((.v (.bool (decide (v.y.num<0))))), .d (dN v.y.num.natAbs), .d (dD v.y.den)] true)),(4,some (.o 36 [.d ((.v (.bool (decide (p.x.num<0))))), .d (dN p.x.num.natAbs), .d (dD p.x.den), .d ((.v (.bool (decide (p.y.num<0))))), .d (dN p.y.num.natAbs), .d (dD p.y.den)] true))]) (fun⟨s,k⟩=>k<=c.length/\BQ s 60000/\jG p v (c.drop k) s=jG p v c ((1:Int):Rat)) (fun⟨s,k⟩=>c.length-k) ⟨((1:Int):Rat),0⟩ J ⟨bN _,BQ.i1.mono (by decide),J⟩ (fun _=>J) (fun⟨s,k⟩ hk=>?_)
 try dsimp only at hk⊢
 obtain⟨hle,hsb,hns⟩:=hk;refine br J J J (fun hc16=>?_) (fun hc16=>?_)
 .
  have hk:k<c.length:=by omega
  obtain⟨m,hm⟩: ∃m,m=c[k]:=⟨_,rfl⟩;haveI hmb:LB m:=hm▸hc _ (cK hk);have hinv:=hsb;refine ix (fu:=⟨1⟩) _ J (X5 hk) J<|?_;refine aj 18 (.d (eL m)) J (by rw[hm];rfl) ?_;refine gx J<|cl J (nH (n:=1) (by decide) (by decide)) J<|cl J (u6 (p:=p) (q:=v) (c:=((1:Int):Rat))) J<|cl J (A6 (l:=m) (p:=aD p v ((1:Int):Rat))) J<|?_;refine cl J (A6 (l:=m) (p:=p)) J<|cl J (HQ (a:=m.value (aD p v ((1:Int):Rat))) (b:=m.value p)) J<|cl J (oF (q:=m.value (aD p v ((1:Int):Rat))-m.value p)) J<|?_;refine cs 32 J J J (fun hg32=>?_) (fun hg32=>?_)
  .
   exact at_ ⟨s,k+1⟩ (by dsimp only;exact⟨⟨by omega,hinv,(yf hns hk hm (by unfold lD;rw[if_pos hg32]))⟩,(by omega)⟩)
  .
   refine cl J (K1 (l:=m) (p:=p)) J<|?_;refine br J J J (fun hc37=>?_) (fun hc37=>?_)
   .
    exact at_ ⟨s,k+1⟩ (by dsimp only;exact⟨⟨by omega,hinv,(yf hns hk hm (by unfold lD;rw[if_neg hg32,if_pos hc37]))⟩,(by omega)⟩)
   .
    refine cl J (A6 (l:=m) (p:=p)) J<|cl J (AN (a:=m.value p) (b:=m.value (aD p v ((1:Int):Rat))-m.value p) (S9 hg32)) J<|?_;refine cl J (qb (q:=m.value p/(m.value (aD p v ((1:Int):Rat))-m.value p))) J<|cl (fu:=⟨0⟩) J (oF (q:= -(m.value p/(m.value (aD p v ((1:Int):Rat))-m.value p)))) J<|?_;refine pB (v2:=fun hg46=>by simp only[ah];exact⟨by kernel_rfl,by omega⟩) J J J J (fun hg46=>?_) (fun hg46=>?_)
    .
     refine cl J (Mk (a:= -(m.value p/(m.value (aD p v ((1:Int):Rat))-m.value p)))) J<|cl J (ud (a:= -(m.value p/(m.value (aD p v ((1:Int):Rat))-m.value p))/2) (b:=s)) J<|?_;refine br J J J (fun hc53=>?_) (fun hc53=>?_)
     .
      obtain⟨t,ht⟩: ∃t,t= -(m.value p/(m.value (aD p v ((1:Int):Rat))-m.value p)):=⟨_,rfl⟩;haveI htb:BQ t 45000:=ht▸BQ.mono inferInstance (by decide);have hinv:BQ (t/2) 60000:=BQ.mono inferInstance (by decide);rw[<-ht];refine cl J (Mk (a:=t)) J<|?_;exact at_ ⟨t/2,k+1⟩ (by dsimp only;exact⟨⟨by omega,hinv,(yf hns hk hm (by unfold lD;rw[if_neg hg32,if_neg hc37,show pk p v m=t from ht.symm,if_pos (by rw[ht];exact hg46),if_pos (by rw[ht];exact hc53)]))⟩,(by omega)⟩)
     .
      exact at_ ⟨s,k+1⟩ (by dsimp only;exact⟨⟨by omega,hinv,(yf hns hk hm (by unfold lD;rw[if_neg hg32,if_neg hc37,if_pos (show 0<(pk p v m).num.sign from hg46),if_neg (show¬bE (pk p v m/2) s<0 from hc53)]))⟩,(by omega)⟩)
    .
     exact at_ ⟨s,k+1⟩ (by dsimp only;exact⟨⟨by omega,hinv,(yf hns hk hm (by unfold lD;rw[if_neg hg32,if_neg hc37,if_neg (show¬0<(pk p v m).num.sign from hg46)]))⟩,(by omega)⟩)
 .
  refine cl J (u6 (p:=p) (q:=v) (c:=s)) J<|?_;exact rz J (by unfold js;rw[<-hns,nM (by omega)];rfl)
theorem yV{c:List ab}{p v:aa}(hc: ∀m∈c,LB m)(hp:aq p 4500)(hv:aq v 500):aq (js c p v) 70000:=by
 have key: ∀(c:List ab),(∀m∈c,LB m)-> ∀s,BQ s 60000->BQ (jG p v c s) 60000:=by
  intro c
  induction c with
  |nil=>intro _ s h;exact h
  |cons m t ih=>
   intro hc s h;refine ih (fun q hq=>hc q (aJ _ hq)) _ ?_;haveI:=hc m aQ;unfold lD pk;have hb:BQ (-(m.value p/(m.value (aD p v ((1:Int):Rat))-m.value p))/2) 60000:=BQ.mono inferInstance (by decide)
   repeat' split
   all_goals first|exact h|exact hb
 haveI:=key c hc ((1:Int):Rat) (BQ.mono (k:=3) ⟨by decide,by decide⟩ (by decide));have hb:aq (aD p v (jG p v c ((1:Int):Rat))) _:=inferInstance;exact aq.mono (show aq (js c p v) _ from hb) (by decide)
def xR(rs:List (List ZP))(fill:Int)(L:List ab)(p:aa)(vs:List aa):Bool:=vs.any fun v=>dP rs fill (js L p v)
def xT(rs:List (List ZP))(fill:Int)(L:List ab)(p:aa)(vs:List aa):Bool:=vs.all fun v=>dP rs fill (js L p v)
def xI{L:List ab}{rs:List (List ZP)}(hL:L=ki (qC rs)){fill:Int}{p:aa}{i:Nat}[hp:aq p i](h: ∀r∈rs,b9 r)(hn:rs.length<=100)(hi:i<=80000):PF GB prog 53 [.ag [.sl (rs.map i7), .v (.int .i64 fill), .sl (L.map eL)],eP p] (vB (dP rs fill p)):=by
 subst hL;exact Qv h hn hi
def yL{rs:List (List ZP)}(h: ∀r∈rs,b9 r){L:List ab}(hca:kP L)(hld:lO L (ER rs)){fill:Int}{p:aa}:jn (gg rs fill) p=if(gq L p).all (fun v=>dP rs fill (js L p v)) then 2 else if(gq L p).any (fun v=>dP rs fill (js L p v)) then 1 else 0:=by
 rw[Ju h hca hld (vs:=gq L p) (q:=fun v=>js L p v) fun b=>Rk h hca hld b];have hne:=Xm hca p;generalize gq L p=W at*
 cases h1:W.all fun v=>dP rs fill (js L p v) with
 |false=>simp
 |true=>
  have h2:W.any (fun v=>dP rs fill (js L p v))=true:=by
   cases W with
   |nil=>exact absurd J hne
   |cons v t=>
    rw[List.any_cons];rw[List.all_cons,bJ] at h1;rw[h1.1];rfl
  rw[h2];rfl
def zY{rs:List (List ZP)}(h: ∀r∈rs,b9 r)(hn:rs.length<=100){fill:Int}{p:aa}(hp:aq p 4500):PF GB prog 22 [AG rs fill,eP p] (vI (jn (gg rs fill) p)):=by
 obtain⟨L,hL⟩: ∃L,L=ki (qC rs):=⟨_,rfl⟩;have hlo: ∀l∈qC rs,l.ok:=fun l hl=>by obtain⟨f,hf,rfl⟩:=bZ.1 hl;exact((mF h).2 f hf).ok
 have hlb: ∀l∈qC rs,LB l:=fun l hl=>by obtain⟨f,hf,rfl⟩:=bZ.1 hl;exact((mF h).2 f hf).lb
 have hca:kP L:=by rw[hL];exact NY hlo
 have hLb: ∀l∈L,LB l:=by rw[hL];exact Qt hlb
 have hLn:L.length<=600:=by rw[hL];exact fU (Ya _) (by unfold qC;rw[aK];have:=(mF h).1;omega)
 have hld:lO L (ER rs):=by rw[hL];exact IM h fun f hf=>jQ hf
 obtain⟨W,hW⟩: ∃W,W=gq L p:=⟨_,rfl⟩;have hWb: ∀v∈W,aq v 500:=fun v hv=>by rw[hW] at hv;exact yX hca hLb hv
 have hWl:W.length<=2*L.length+1:=by rw[hW];exact yF L p
 have hwm:(W.map eP).length=W.length:=aK ..;obtain⟨acc,hac⟩: ∃acc:aa->Bool,acc=fun v=>dP rs fill (js L p v):=⟨_,rfl⟩;have hcl:jn (gg rs fill) p=if W.all acc then 2 else if W.any acc then 1 else 0:=by rw[hW,hac];exact yL h hca hld
 haveI:=hp;unfold AG;rw[<-hL];refine fn func22 J J ntmps22 J J (fun C=>?_);refine cl (fu:=⟨0⟩) J (xH (L:=L) (p:=p) (i0:=4500) hca hLb (by omega)) J<|?_;refine aj 13 (.d (.sl (W.map eP))) J (by rw[hW]) ?_;refine gx (fu:=⟨1⟩) J<|?_;refine aj 14 (.d (vI (W.length:Nat))) J (by rw[hwm]<;>rfl) ?_;refine gx J<|?_;refine wX 5 _ J J ?_;refine wX 6 _ J J ?_;refine lp (X:=Nat) (fun k=>[(15, .d (vI (k:Nat))),(5, .d (vB ((W.take k).any acc))),(6, .d (vB ((W.take k).all acc)))]) (fun k=>[]) (fun k=>k<=W.length) (fun k=>W.length-k) 0 J (bN _) (fun _=>J) (fun k hk=>?_);refine br J J J (fun hc16=>?_) (fun hc16=>?_)
 .
  obtain⟨v,hx⟩: ∃u,W[k]? =some u:=⟨_,aZ (by omega)⟩;have hvb:=hWb v (aS hx);haveI:=yV hLb hp hvb;refine ix _ J (ee hx) J<|cl J (xG (c:=L) (p:=p) (v:=v) hLb (by omega) hp hvb) J<|cl (fu:=⟨0⟩) J (xI hL (rs:=rs) (fill:=fill) (p:=js L p v) (i:=70000) h hn (by decide)) J<|?_;refine aj 25 (.d (vB (acc v))) J (by rw[hac]) ?_;refine gx J<|?_;refine kA 27 J J J (fun hg27=>?_) (fun hg27=>?_)
  .
   refine kA 31 J J J (fun hg31=>?_) (fun hg31=>?_)
   .
    refine mm 5 _ J J ?_;refine mm 6 _ J J ?_;refine aj 5 (.d (vB ((W.take (k+1)).any acc))) J (by rw[wG hx,hg27,Bool.true_or]<;>rfl) ?_;refine aj 6 (.d (vB ((W.take (k+1)).all acc))) J (by rw[vO hx,hg31,pS]<;>rfl) ?_;exact at_ (k+1) ⟨(by omega),(by omega)⟩
   .
    refine mm 5 _ J J ?_;refine mm 6 _ J J ?_;refine aj 5 (.d (vB ((W.take (k+1)).any acc))) J (by rw[wG hx,hg27,Bool.true_or]<;>rfl) ?_;refine aj 6 (.d (vB ((W.take (k+1)).all acc))) J (by rw[vO hx,hg31,sU]<;>rfl) ?_;exact at_ (k+1) ⟨(by omega),(by omega)⟩
  .
   refine kA 31 J J J (fun hg31=>?_) (fun hg31=>?_)
   .
    refine mm 5 _ J J ?_;refine mm 6 _ J J ?_;refine aj 5 (.d (vB ((W.take (k+1)).any acc))) J (by rw[wG hx,hg27,pT]<;>rfl) ?_;refine aj 6 (.d (vB ((W.take (k+1)).all acc))) J (by rw[vO hx,hg31,pS]<;>rfl) ?_;exact at_ (k+1) ⟨(by omega),(by omega)⟩
   .
    refine mm 5 _ J J ?_;refine mm 6 _ J J ?_;refine aj 5 (.d (vB ((W.take (k+1)).any acc))) J (by rw[wG hx,hg27,pT]<;>rfl) ?_;refine aj 6 (.d (vB ((W.take (k+1)).all acc))) J (by rw[vO hx,hg31,sU]<;>rfl) ?_;exact at_ (k+1) ⟨(by omega),(by omega)⟩
 .
  obtain rfl:k=W.length:=by omega
  rw[dX];refine bb J J J (fun hc35=>?_) (fun hc35=>?_)
  .
   exact rz J (by rw[hcl,if_pos hc35];rfl)
  .
   refine bb J J J (fun hc36=>?_) (fun hc36=>?_)
   .
    exact rz J (by rw[hcl,if_neg (by rw[hc35];decide),if_pos hc36];rfl)
   .
    exact rz J (by rw[hcl,if_neg (by rw[hc35];decide),if_neg (by rw[hc36];decide)];rfl)
def xO(p:Int):IntKind.i64.wrap ((BitVec.ofInt 64 p &&& BitVec.ofInt 64 1).toNat:Int)=p%2:=by
 have e:(BitVec.ofInt 64 p &&& BitVec.ofInt 64 1).toNat=(BitVec.ofInt 64 p).toNat%2:=by
  rw[BitVec.toNat_and,show(BitVec.ofInt 64 1).toNat=2^1-1 from J,Nat.and_two_pow_sub_one_eq_mod]
 rw[e];have h1:((BitVec.ofInt 64 p).toNat:Int)=p%18446744073709551616:=by
  rw[BitVec.toNat_ofInt];omega
 rw[show(((BitVec.ofInt 64 p).toNat%2:Nat):Int)=p%2 by omega];exact rk ⟨by show(-9223372036854775808:Int)<=_;omega,by show _<=(9223372036854775807:Int);omega⟩
section
variable {GB:Gh} {C:az} {n:Nat} {Q0:Exit->Act->World->Prop} {fr fr' fr1 fr2:au} {own own' own1 own2:aB} {cf cf' cf1 cf2:Cf} {vc vc1 vc2:List Prop}
def xL(fr:au)(cf:Cf):Option Int:=match bH fr cf with
 |some ⟨_, .binOp .and _ x (.const (.int .i64 1)) _,_,_,_,_⟩=>match aE (bj fr cf) x with
  |some (.d (.v (.int .i64 p)))=>some p
  |_=>none
 |_=>none
def xP[fu:Fu]{p:Int}(u:Int)(h:xL fr cf=some p)(e:p%2=u)(hgo:cd tt n fu.n fr own cf (.d (.v (.int .i64 u))) [] []=⟨vc,fr',own',cf'⟩)(k:ak prog GB C n Q0 fr' own' cf')
  (hv:ah vc:=by first|exact trivial|(simp only[ah];kernel_rfl)|(simp only[ah];omega)):ak prog GB C n Q0 fr own cf:=by
 unfold xL at h;split at h<;>try (cases h;done)
 rename_i hh;split at h<;>cases h;rename_i hx;subst e;exact us hh (.x1 hx fun ρ G ov a w y _ r h1 h2=>by
  rw[cA] at h2;subst h2;refine⟨_,cA.2 J,gk h1 (q:=1) J fun w=>?_⟩;show(pure (Value.int .i64 (IntKind.i64.wrap ((BitVec.ofInt 64 p &&& BitVec.ofInt 64 1).toNat:Int))):Sem Value).run _ w=_;rw[xO];rfl) hgo hv k
end
structure EGX (GB:Gh) (ai:Addr):Prop where
 ErrInvalid:GB 0=some [.iface 340 (.pointer (some ai))]
def yS{b:Nat}{es:List Int}(hes:es.length<=400){rs:List (List ZP)}{a':Nat}(hr:rs=(zA es 3 0).1)(ha:a'=(zA es 3 0).2):PM GB prog 11 (jh [none,some (vI 3)] b) b 89 [.sl (es.map vI), .v (.int .i64 (0:Nat))] (.sl (rs.map i7)) [.sl (es.map vI), .v (.int .i64 (a':Nat))]:=by
 subst hr ha;exact yR hes (bN _) (md:=3) (by decide)
def yI{ai:Addr}(hE:EGX GB ai){rs:List (List ZP)}(h: ∀r∈rs,jl r)(hn:rs.length<=200){fill:Int}(hfill: ¬(fill=1\/fill=2)){p:aa}:PF GB prog 17 [.sl (rs.map ky),vI fill,i9 p] (.tp [vI 0,tw ai]):=by
 have hel:=FU h hn;refine fn func17 J J ntmps17 J J (fun C=>?_);refine cl (fu:=⟨13⟩) J (Eh h hn) J<|gw J J J<|?_;refine cs (fu2:=⟨12⟩) 23 J J J (fun hg23=>?_) (fun hg23=>?_)
 .
  refine br (fu2:=⟨5⟩) J J J (fun hc20=>?_) (fun hc20=>?_)
  .
   refine gl J hE.ErrInvalid J<|?_;exact rz J J
  .
   exact absurd (show fill=1\/fill=2 by omega) hfill
 .
  exact absurd (show fill=1\/fill=2 by omega) hfill
def xJ{b:Nat}{es:List Int}(hes:es.length<=400){a:Nat}(ha:a<=es.length){p:aa}{a':Nat}(hp:p=(oy es a).1)(h':a'=(oy es a).2):PM GB prog 12 (jh [none] b) b 89 [.sl (es.map vI), .v (.int .i64 (a:Nat))] (eP p) [.sl (es.map vI), .v (.int .i64 (a':Nat))]:=by
 subst hp h';exact TV hes ha
theorem yU{l:ab}{t:Rat}{k:Nat}(hl:LB l)(ht:BQ t k)(hk:k<=1200):aq (l.at t) 4500:=by
 haveI:=hl;haveI:=BQ.mono ht hk;exact aq.mono (inferInstance:aq (l.at t) _) (by decide)
def xK{r:List ZP}{f:aH}{k:Nat}(h:jl r)(hx:(cP r)[k]? =some f):FE f:=PJ h.ok f (aS hx)
def zI{ai:Addr}(hE:EGX GB ai){es0:List Int}{fill0:Int}(hb:es0.length<=1125899906842624)(hfr: -9223372036854775808<=fill0/\fill0<9223372036854775808):PF GB prog 4 [.sl (es0.map vI),vI fill0] (.v (.bool true)):=by
 obtain⟨es,hee⟩: ∃es,es=es0.take 400:=⟨_,rfl⟩;have hes:es.length<=400:=by rw[hee];simp;omega
 obtain⟨rs,hre⟩: ∃rs,rs=(zA es 3 0).1:=⟨_,rfl⟩;obtain⟨a1,ha1⟩: ∃a,a=(zA es 3 0).2:=⟨_,rfl⟩;obtain⟨hrg,hrn,hal⟩:(∀r∈rs,jl r)/\rs.length<=3/\a1<=es.length:=by rw[hre,ha1];exact yH (bN _)
 have hr1: ∀r∈rs,b9 r:=fun r hr=>(hrg r hr).ok;obtain⟨p,hpe⟩: ∃p,p=(oy es a1).1:=⟨_,rfl⟩;have hpb:aq p 4500:=by rw[hpe];exact((Lp hal).1).mono (by decide)
 have hb2:=(Lp hal).2;obtain⟨b2,hb2e⟩: ∃b,b=(oy es a1).2:=⟨_,rfl⟩;rw[<-hb2e] at hb2;have hml:(rs.map i7).length=rs.length:=aK ..;have htm:0<=(fill0%2+2).tmod 2/\(fill0%2+2).tmod 2<=1:=by rcases(show fill0%2=0\/fill0%2=1 by omega) with e|e<;>rw[e]<;>decide
 refine fn func4 J J ntmps4 J J (fun C=>?_);refine cn J ((Wj hb hee)) (fun _=>J) (fun _=>?_);refine cm J (fun b=>(yS hes hre ha1)) J<|cm (fu:=⟨6⟩) J (fun b=>(xJ hes hal hpe hb2e)) J<|?_;refine mg (fu:=⟨1⟩) (X:=aa×Nat) (fun⟨q,b⟩=>[(7, .ov 7 0)]) (fun⟨q,b⟩=>[(13,some (.o 89 [.d (.sl (es.map vI)), .d (.v (.int .i64 (b:Nat)))] true)),(7,some (.o 36 [.d (.v (.bool (decide (q.x.num<0)))), .d (dN q.x.num.natAbs), .d (dD q.x.den), .d (.v (.bool (decide (q.y.num<0)))), .d (dN q.y.num.natAbs), .d (dD q.y.den)] true))]) (fun⟨q,b⟩=>aq q 4500) [7] [13,7] rfl ?_ (fun _=>J) (fun⟨q,b⟩ hqb=>?_)
 .
  refine gx (fu:=⟨4⟩) J<|?_;refine aj 19 (.d (vI (rs.length:Nat))) J (by rw[hml]<;>rfl) ?_;refine gx J<|?_;refine cs 21 J J J (fun hg21=>?_) (fun hg21=>?_)
  .
   refine cm J (fun b=>(lz (n:=2) hes hb2 (by decide) (by decide))) J<|?_;refine br (fu1:=⟨6⟩) J J J (fun hc25=>?_) (fun hc25=>?_)
   .
    have hn2:=f9 (es:=es) (n:=2) hb2;have hn3:=iA (es:=es) (n:=(rs.length:Int)) (a:=(ao es 2 b2).2) (by omega);have hn3l:=f9 (es:=es) (n:=(rs.length:Int)) hn2;obtain⟨r,hrx⟩: ∃r,rs[(ao es (rs.length:Int) (ao es 2 b2).2).1]? =some r:=⟨_,aZ (by omega)⟩;have hrk:=hrg r (aS hrx);have hel:=(qz hrk.ok).1;have h3:=hrk.ok.n3;have h6:=hrk.ok.n6;have hn4:=iA (es:=es) (n:=((cP r).length:Int)) (a:=(ao es (rs.length:Int) (ao es 2 b2).2).2) (by omega);have hn4l:=f9 (es:=es) (n:=((cP r).length:Int)) hn3l;obtain⟨f,hfx⟩: ∃f,(cP r)[(ao es ((cP r).length:Int) (ao es (rs.length:Int) (ao es 2 b2).2).2).1]? =some f:=⟨_,aZ (by omega)⟩;have hf:=xK hrk hfx;haveI:=hf.fo.lb;haveI:=hf.fo.lo;have hn5l:=f9 (es:=es) (n:=2) hn4l;have hqo:=A2 hn5l;haveI:=hqo.1;have hme:((cP r).map si).length=(cP r).length:=aK ..;refine aj 29 (.d (vI (rs.length:Nat))) J (by rw[hml]<;>rfl) ?_;refine gx J<|cm J (fun b=>(lz (n:=(rs.length:Int)) hes hn2 (by omega) (by omega))) J<|ix _ J (ee hrx) J<|cl (fu:=⟨9⟩) J (Jw hrk.ok) J<|?_;refine aj 37 (.d (vI ((cP r).length:Nat))) J (by rw[hme]<;>rfl) ?_;refine gx J<|cm J (fun b=>(lz (n:=((cP r).length:Int)) hes hn3l (by omega) (by omega))) J<|ix _ J (ee hfx) J<|cl J (P4 (l:=f.l) (t:=f.v.lo) hf.fo.ok.ne) J<|?_;refine cm J (fun b=>(lz (n:=2) hes hn4l (by decide) (by decide))) J<|?_;refine br J J J (fun hc49=>?_) (fun hc49=>?_)
    .
     refine cm J (fun b=>(HP hes hn5l)) J<|cl J (P4 (l:=f.l) (t:=(qF es (ao es 2 (ao es ((cP r).length:Int) (ao es (rs.length:Int) (ao es 2 b2).2).2).2).2).1) hf.fo.ok.ne) J<|?_;exact at_ ⟨f.l.at (qF es (ao es 2 (ao es ((cP r).length:Int) (ao es (rs.length:Int) (ao es 2 b2).2).2).2).2).1,(qF es (ao es 2 (ao es ((cP r).length:Int) (ao es (rs.length:Int) (ao es 2 b2).2).2).2).2).2⟩ (yU hf.fo.lb hqo.1 (by decide))
    .
     exact at_ ⟨f.l.at f.v.lo,(ao es 2 (ao es ((cP r).length:Int) (ao es (rs.length:Int) (ao es 2 b2).2).2).2).2⟩ (yU hf.fo.lb hf.fo.lo (by decide))
   .
    exact at_ ⟨p,(ao es 2 b2).2⟩ hpb
  .
   exact at_ ⟨p,b2⟩ hpb
 .
  try dsimp only at hqb⊢
  refine mg (fu:=⟨2⟩) (X:=Int) (fun fl=>[(1, .d (vI fl))]) (fun fl=>[]) (fun fl=>True) [1] [] rfl ?_ (fun _=>J) (fun fl hfl=>?_)
  .
   refine gx J<|?_;refine cs (fu1:=⟨8⟩) 57 J J J (fun hg57=>?_) (fun hg57=>?_)
   .
    refine xP (fill0%2) J J J<|?_;exact at_ (1+(fill0%2+2).tmod 2) trivial
   .
    refine br (fu1:=⟨2⟩) J J J (fun hc60=>?_) (fun hc60=>?_)
    .
     refine xP (fill0%2) J J J<|?_;exact at_ (1+(fill0%2+2).tmod 2) trivial
    .
     exact at_ fill0 trivial
  .
   haveI:=hqb;rcases(show fl=1\/fl=2\/(fl≠1/\fl≠2) by omega) with hA|hA|hA
   .
    refine gx J<|cl J (z6 (rs:=rs) hr1 (by omega)) J<|cl J (BT (p:=q) (i:=4500)) J<|cl (fu:=⟨0⟩) J (Gj (rs:=rs) hrg (by omega) (fill:=fl) (by omega) (p:=q) (i:=4500) (by decide)) J<|?_;refine aj 72 (.d (.tp [vI (jn (gg rs fl) q), .v .nilIface])) J (by rw[Px hr1]) ?_;refine gx (fu:=⟨11⟩) J<|gw (fu:=⟨11⟩) J (by show some (decide _)=some false;rw[decide_eq_false (by omega)]) J<|Py (fu:=⟨2⟩) J D0 J<|gH J J J<|?_;refine cl J (z6 (rs:=rs) hr1 (by omega)) J<|cl J (OP (rs:=rs) (fill:=fl) hr1 (by omega)) J<|cl (fu:=⟨0⟩) J (zY (rs:=rs) hr1 (by omega) (fill:=fl) hqb) J<|?_;refine gH J (by show some (decide (_=_))=some true;rw[decide_eq_true J]) J<|?_;exact rz J J
   .
    refine gx J<|cl J (z6 (rs:=rs) hr1 (by omega)) J<|cl J (BT (p:=q) (i:=4500)) J<|cl (fu:=⟨0⟩) J (Gj (rs:=rs) hrg (by omega) (fill:=fl) (by omega) (p:=q) (i:=4500) (by decide)) J<|?_;refine aj 72 (.d (.tp [vI (jn (gg rs fl) q), .v .nilIface])) J (by rw[Px hr1]) ?_;refine gx (fu:=⟨11⟩) J<|gH (fu:=⟨2⟩) J (by show some (decide _)=some true;rw[decide_eq_true (by omega)]) J<|gw (fu:=⟨8⟩) J (by show some (decide _)=some false;rw[decide_eq_false (by omega)]) J<|?_;refine Py (fu:=⟨2⟩) J D0 J<|gH J J J<|cl J (z6 (rs:=rs) hr1 (by omega)) J<|cl J (OP (rs:=rs) (fill:=fl) hr1 (by omega)) J<|?_;refine cl (fu:=⟨0⟩) J (zY (rs:=rs) hr1 (by omega) (fill:=fl) hqb) J<|gH J (by show some (decide (_=_))=some true;rw[decide_eq_true J]) J<|?_;exact rz J J
   .
    refine gx J<|cl J (z6 (rs:=rs) hr1 (by omega)) J<|cl J (BT (p:=q) (i:=4500)) J<|cl (fu:=⟨11⟩) J (yI hE (rs:=rs) hrg (by omega) (fill:=fl) (by omega) (p:=q)) J<|?_;refine gH (fu:=⟨2⟩) J (by show some (decide _)=some true;rw[decide_eq_true (by omega)]) J<|gH J (by show some (decide _)=some true;rw[decide_eq_true (by omega)]) J<|?_;refine cl (fu:=⟨0⟩) J D0 J<|?_;refine mt 81 J ?_;refine gx J<|gl J hE.ErrInvalid J<|cl (fu:=⟨0⟩) J Ye J<|?_;refine mt 85 J ?_;refine gx (fu:=⟨3⟩) J<|gH J J J<|?_;exact rz J J
end Go.Sx
end
section
namespace Go.Sx
open Go Go.Proofs Go.ChangeShapes Go.WideShapes Go.ChangeAt Go.RowKit
def GW(w:World):Gh:=fun b=>match w.heap[b]? with|some (.cells cs _ _)=>some cs.toList|_=>none
def GW.sub{w:World}{b:Nat}{cs:List Value}(h:GW w b=some cs): ∃ty fz,w.heap[b]? =some (.cells ⟨cs⟩ ty fz):=by
 unfold GW at h;split at h
 ·rename_i c t f e
  cases h
  exact⟨t,f,by rw[e]⟩
 ·cases h
def GW.of_cell{w:World}{b off:Nat}{v:Value}(h:w.cell? ⟨b,off,none⟩=some v): ∃cs,GW w b=some cs/\cs[off]? =some v:=by
 unfold World.cell? at h;unfold GW;split at h
 ·rename_i c t f e
  simp only at e;refine⟨c.toList,by rw[e],?_⟩;simpa using h
 all_goals first|(rename_i e;cases h)|cases h
def bm.below{w w':World}{G G':Gh}{own:List av}(h:bm ⟨w,G,[],[],[],none,fun _=>none⟩ own G' w'):Below w.heap.size w w':=
 ⟨h.os,h.tape,h.output,h.size,fun k hk=>h.keep k hk (by simp)⟩
def isLs_vI{G:Gh}: ∀es:List Int,IsLs G (es.map vI) (es.map fun n=>Value.int .i64 n)
 |[]=> .nil
 |n::t=> .cons (bi.2 J) (isLs_vI t)
def open_vI{base:Nat}{H:Type}{enc:TypeId×Value->H}{P:Program}{w:World}{t e:TypeId}{v:Value}{d:DataW H}{ps:List MemPlace}(ht:P.underlying t=some (.slice e))(he:P.underlying e=some (.int .i64))(hc:P.cellsOf e=1)
  (hv:Value.okWide P w .any base t v)(h:DataW.Trod enc P w 0 (fun _=>true) true t v d ps):
  ∃es:List Int,Is (GW w) (.sl (es.map vI)) v/\(d= .nil/\es=[]\/ ∃sp,d= .slice (lits .i64 es) sp)/\(∀n∈es,(Lit.int .i64 n).wf=true):=by
 obtain⟨a0,len,cap,rfl⟩:=okWide_slice ht hv;obtain⟨fuel,hf⟩:=h;rcases open_ints ht he hc hf with⟨hcs,hx⟩|⟨a,len',cap',zs,hcs,_,hl,hm,hz,hx,hcell,hwz⟩
 ·simp[Value.cells] at hcs
  obtain⟨rfl,rfl,rfl⟩:=hcs;simp only[Prod.mk.injEq] at hx;exact⟨[],jm.2 ⟨0,⟨none,0,0⟩,[],J,ey.nil _ 0, .nil⟩, .inl ⟨hx.1,J⟩,by simp⟩
 ·simp[Value.cells] at hcs
  obtain⟨rfl,rfl,rfl⟩:=hcs;simp only[Prod.mk.injEq] at hx;simp only[if_true] at hz;refine⟨zs.take len,jm.2 ⟨1,⟨some a,len,cap⟩,(zs.take len).map fun n=>Value.int .i64 n,J,⟨by simp;omega,hl,?_⟩,isLs_vI _⟩, .inr ⟨_,hx.1⟩,fun n hn=>hwz n (eY hn)⟩;by_cases h0:len=0
  ·exact .inl (by simp[h0])
  ·right
   obtain⟨b,off,spot⟩:=a;have hspot:spot=none:=by simpa[Addr.add] using World.cell?_spot (hcell 0 (by omega))
   subst hspot;have c0: ∀i,i<zs.length->w.cell? ⟨b,off+i,none⟩=some (.int .i64 (zs.getD i 0)):=fun i hi=>by
    have:=hcell i hi;rwa [Go.WideShapes.add_plain] at this
   obtain⟨cs,hcs,_⟩:=GW.of_cell (by have h9:=c0 0 (by omega);rw[eX] at h9;exact h9);refine⟨b,off,cs,J,hcs,fun i hi=>?_⟩;simp only[aK,cJ] at hi;obtain⟨cs',hcs',hi'⟩:=GW.of_cell (c0 i (by omega));rw[hcs] at hcs'
   cases hcs'
   rw[kZ,Xp.2 hi'];simp[aI,List.getD,aZ (show i<zs.length by omega)]
inductive CSh where
 |b
 |i (k:IntKind)
 |sl (ag:Bool) (l:List CSh)
mutual
def Fit:CSh->DV->Prop
 | .b,d=> ∃b,d= .v (.bool b)
 | .i k,d=> ∃n,d= .v (.int k n)/\(Lit.int k n).wf=true
 | .sl ag l,d=> ∃m:List DV,d= .sl m/\m.length<=maxLen/\ ∀x∈m,∃ys,FitL l ys/\((ag=true/\x= .ag ys)\/(ag=false/\ys=[x]))
def FitL:List CSh->List DV->Prop
 |[],ds=>ds=[]
 |s::l,ds=> ∃d t,ds=d::t/\Fit s d/\FitL l t
end
def flatF(r:TypeId->Option (Bool×List CSh))(P:Program):List Field->Nat->Option (List CSh)
 |[],_=>some []
 |f::fs,o=>match r f.type with
  |some (_,l)=>if f.offset=o/\P.cellsOf f.type=l.length then(flatF r P fs (o+l.length)).map (l++ ·) else none
  |none=>none
def flatT(P:Program):Nat->TypeId->Option (Bool×List CSh)
 |0,_=>none
 |n+1,t=>match P.underlying t with
  |some .bool=>some (false,[.b])
  |some (.int k)=>some (false,[.i k])
  |some (.slice e)=>match flatT P n e with
   |some (a,l)=>if P.cellsOf e=l.length/\0<l.length then some (false,[.sl a l]) else none
   |none=>none
  |some (.struct fs)=>match flatF (flatT P n) P fs.toList 0 with
   |some l=>if P.cellsOf t=l.length then some (true,l) else none
   |none=>none
  |_=>none
section
variable {H:Type} {enc:TypeId×Value->H} {P:Program} {w:World}
end
def shI:List CSh:=[.b, .sl false [.i .u32]]
def shL:List CSh:=shI++(shI++shI)
def es_star: "*" ++ "errors.errorString" = "*errors.errorString" :=by decide
def es_row(u:TypeId)(h:Tryz.prog.typeName? 3 u=some "*errors.errorString"):u=340:=
 typeName_ptr_named (nm:= "errors.errorString") (by rw[es_star];kernel_rfl) (by kernel_rfl) (by decide) u (by rw[es_star];exact h)
def sent_of{W:World}{n:String}{g:Nat}{text:List UInt8}{r:List (String×DataW Unit)}(h:laidMet Tryz.prog ((n, .iface "*errors.errorString" (.ptr (.agg [.lit (.string text)])))::r) W)(hg:Tryz.prog.globalNamed n=some g)(ht:(Tryz.prog.globals[g]?).map (·.type)=some 51):
  ∃a,GW W g=some [.iface 340 (.pointer (some a))]:=by
 obtain⟨a,s,hv,_⟩:=laid_sentinel h hg ht Tryz.underlying51 es_row Tryz.underlying340 Tryz.underlying365 rfl rfl Tryz.underlying9 (by kernel_rfl) (by kernel_rfl);refine⟨a,?_⟩;unfold World.var? at hv;rw[hg,Option.bind_some] at hv;unfold GW;split at hv
 ·rename_i c t f e
  rw[e];cases hv;rfl
 ·cases hv
def laid_plain{W:World}{l:List (String×DataW Unit)}(h:laidMetH Tryz.prog l W)(hp:(l.all fun x=>x.2.handleName?.isNone)=true):laidMet Tryz.prog l W:=by rwa [Go.MakeChecks.laidMetH_plain _ _ _ hp] at h
end Go.Sx
end
section
namespace Go.Proofs.YtpiknjeceobbfaaGreatDoor.windingClasses
open Go.ChangeShapes Go.WideShapes Go.ChangeAt Go.RowKit Go.Sx
theorem own:ownKnob Tryz.prog.godebug=none:=by kernel_rfl
theorem laidOut:laidOutB Tryz.prog=true:=by kernel_rfl
theorem cellsI:Tryz.prog.cellsOf 3=1:=by kernel_rfl
theorem bytesI:Tryz.prog.bytesOf 3=8:=by kernel_rfl
theorem door_met(os:Os)(args:Array Value):laidMetH Tryz.prog Rows.windingClassesRow.laid ((World.doorLaid Tryz.prog 100 os).forCall (fun _ _=>0) ⟨#[],args,[]⟩).memory:=
 laidMetH_of_parts3 (fuel:=8) (laidMet_of_run' 8 (by kernel_rfl) (by kernel_rfl)) (by kernel_rfl) (by kernel_rfl)
theorem wf_i64{n:Int}(h:(Lit.int .i64 n).wf=true): -9223372036854775808<=n/\n<9223372036854775808:=by
 simp only[Lit.wf,Bool.and_eq_true,decide_eq_true_eq] at h;have e1:IntKind.i64.min= -9223372036854775808:=J;have e2:IntKind.i64.max=9223372036854775807:=J;omega
theorem eg_of{W:World}(h:laidMetH Tryz.prog Rows.windingClassesRow.laid W): ∃ai,EGX (GW W) ai:=by
 have h1:=laid_plain h J;obtain⟨ai,hi⟩:=sent_of (g:=0) h1.tail.tail.tail (by kernel_rfl) (by kernel_rfl);exact⟨ai,⟨hi⟩⟩
theorem contract(H:Type)(enc:TypeId×Value->H)(W:World)(base:Nat)(args:Array Value)(ds gs:List (DataW H))(before:List MemPlace)
  (hval: ∀(j:Nat) t v,Tryz.f4.params[j]? =some t->args[j]? =some v->Value.okWide Tryz.prog W .any base t v)
  (hW:DataW.Whole enc Tryz.prog Tryz.f4.params.toList Rows.windingClassesSpec.vars false W args.toList ds gs before)
  (hz:(DataW.weightsEach Tryz.prog (Tryz.f4.params.toList++(OpenSpec.ofChange Rows.windingClassesSpec).bare.plain.varTypes Tryz.prog) (ds++gs)).all (· <=reachBytes)=true)(hlaid:laidMetH Tryz.prog Rows.windingClassesRow.laid W):
  Calls Tryz.prog 4 args W fun e W'=> ∃v,e= .returned v/\Rows.windingClassesSpec.post enc Tryz.prog Tryz.f4 false true false false W args v W':=by
 have hW':=hW;obtain⟨p,q,hA0,hV,rfl,_,_⟩:=hW;have hA:DataW.TrodAll enc Tryz.prog W 0 (fun _=>true) true Tryz.f4.params.toList args.toList ds p:=hA0;rw[Tryz.params4] at hA hval hz;obtain⟨v0,v1,d0,d1,p0,p1,hargs,rfl,rfl,h0,h1⟩:=trodAll_two hA;subst hargs;obtain⟨rfl,rfl⟩:=trodVars_none hV;obtain⟨n1,rfl,rfl,rfl,w1⟩:=open_int Tryz.underlying3 (hval 1 3 v1 rfl rfl) h1;clear hA0;simp only[List.append_nil] at hW';have hlt: ∀x∈p0,x.block<W.heap.size:=fun x hx=>by simpa using hW'.lt x hx
 obtain⟨es,hI,hd,_⟩:=open_vI Tryz.underlying24 Tryz.underlying3 cellsI (hval 0 24 v0 rfl rfl) h0;have hb:es.length<=1125899906842624:=by
  rcases hd with⟨rfl,rfl⟩|⟨sp,rfl⟩
  ·exact Nat.zero_le _
  ·have:=sized_slice hz (j:=0) (t:=24) (e:=3) J J Tryz.underlying24
   rw[bytesI] at this;have hr:=reachBytes_lt;have hl:(lits (H:=H) .i64 es).length=es.length:=by simp[lits]
   rw[hl] at this;omega
 obtain⟨ai,hE⟩:=eg_of hlaid;have hf:=(zI hE (es0:=es) (fill0:=n1) hb (wf_i64 w1)) (GW W) [v0, .int .i64 n1] (bp.refl _) (.cons hI (.cons (bi.2 J) .nil));refine(hf.run W (fun b cs hg=>GW.sub hg)).mono fun e W' ⟨v,G',he,hr,hv⟩=>?_;rw[bi] at hv;subst hv;subst he;have hn:=hr.below;have t2:=trodAll_mk2 (Below.trod laidOut (by kernel_rfl) (of_decide_eq_true (by kernel_rfl)) h0 hn hlt) (shut_int Tryz.underlying3 w1);simp only[List.append_nil] at t2;exact⟨_,J,⟨_,_,_,[],_,[],hW',trodAll_mk1 (shut_bool Tryz.underlying4 _),t2,J,hn.frame _,fun h=>by cases h⟩⟩
theorem reads(os:Os){H:Type}(enc:TypeId×Value->H): ∃places,DataW.whole enc Tryz.prog ((World.doorLaid Tryz.prog 100 os).forCall (fun _ _=>0) ⟨#[], #[.slice none 0 0, .int .i64 0],[]⟩).memory Tryz.f4.params.toList Rows.windingClassesSpec.vars false #[Value.slice none 0 0, .int .i64 0].toList 8=some ([.nil, .lit (.int .i64 0)],[],places):=
 ⟨[],by kernel_rfl⟩
theorem lifted(os:Os)(started:os.Started)(H:Type)(enc:TypeId×Value->H)(F:Stop.Interp):
  ReturnsInHanded {} Tryz.checked os 4 .any ((OpenSpec.ofChange Rows.windingClassesSpec).preRow enc Tryz.prog Tryz.f4 Rows.windingClassesRow.domain false Rows.windingClassesRow.laid) (((OpenSpec.ofChange Rows.windingClassesSpec).at F).post enc Tryz.prog Tryz.f4 false true false false):=by
 obtain⟨places,hx⟩:=reads os enc;refine returnsInHanded_of_row (C:=Tryz.checked) (s:=OpenSpec.ofChange Rows.windingClassesSpec) own started (by kernel_rfl) Tryz.func4
  (witness_row_atRef (enc:=enc) (C:=Tryz.checked) false (World.doorLaid Tryz.prog 100 os) #[.slice none 0 0, .int .i64 0] rfl (by kernel_rfl) (by kernel_rfl) (by kernel_rfl)
   (OpenSpec.preRow_of_cond 8 hx (by kernel_rfl) (fun k hk=>by cases hk) (by kernel_rfl) (door_met os _))) ?_
 intro W base args ds gs before hval hW _ _ hz hlaid _ _;exact contract H enc W base args ds gs before hval hW hz hlaid
theorem j1:(Rows.windingClassesRow.inPlace==Tryz.pinned.checked.prog.inPlace 4)=true:=by kernel_rfl
theorem j2:(Rows.windingClassesRow.unfollowed==Tryz.pinned.checked.prog.unfollowed 4)=true:=by kernel_rfl
theorem j3:(Rows.windingClassesRow.recurses==Tryz.pinned.checked.prog.recurses 4)=true:=by kernel_rfl
theorem j4:(Rows.windingClassesRow.named==Tryz.pinned.checked.prog.varsNamed 4)=true:=by kernel_rfl
theorem j5:laidOutB Tryz.pinned.checked.prog=true:=laidOut
theorem j6:mapsRowed Tryz.pinned.checked.prog=true:=by kernel_rfl
theorem j7:Tryz.pinned.checked.prog.mainIs=some (Rows.windingClassesCard.stood.harness.1,Rows.windingClassesCard.stood.harness.2.toList):=by kernel_rfl
theorem j8:false=Rows.windingClassesRow.goesBy Tryz.pinned.checked.prog:=by kernel_rfl
theorem closed:joinedFacts Tryz.pinned.checked.prog 4 Tryz.f4 (OpenSpec.ofChange Rows.windingClassesSpec).bare Rows.windingClassesRow=true:=by
 unfold joinedFacts;rw[j1,j2,j3,j4,j5,j6]
 kernel_rfl
theorem said:Rows.WindingClassesSaid:=
 OpenClaim.holds_of_cond 4 Tryz.f4 J J J J J J J ⟨J,J,J,J,J⟩ J J J J J (by kernel_rfl) Tryz.func4 closed
  (of_decide_eq_true (by kernel_rfl)) (by unfold Func.isWrapper;first|(rw[if_pos (by decide+kernel)];kernel_rfl)|(rw[if_neg (by decide+kernel)];exact⟨J,J⟩))
  (fun os started H enc _ F=>by rw[OpenClaim.pre_eq_preRow];exact lifted os started H enc F)
theorem plain(f:FuncId)(fn:Func)(hf:Tryz.pinned.checked.prog.funcNamed "bspregion/bspregionlaw10.WindingClasses" =some f)(hfn:Tryz.pinned.checked.prog.funcs[f]? =some fn):
  true=Tryz.pinned.checked.prog.looks []/\ ∀(j:Nat) t,fn.params[j]? =some t->Tryz.pinned.checked.prog.wantsStandIn t=false:=by
 obtain rfl:f=4:=Option.some.inj ((show Tryz.prog.funcNamed "bspregion/bspregionlaw10.WindingClasses" =some 4 by kernel_rfl).symm.trans hf) |>.symm;obtain rfl:fn=Tryz.f4:=(Option.some.inj (Tryz.func4.symm.trans hfn)).symm;refine⟨by kernel_rfl,fun j t ht=>?_⟩;rw[Tryz.params4] at ht;have hm:=Array.mem_of_getElem? ht;simp only[List.mem_toArray,List.mem_cons,List.not_mem_nil,or_false] at hm;rcases hm with rfl|rfl
 ·exact(show Tryz.prog.wantsStandIn 24=false by kernel_rfl)
 ·exact(show Tryz.prog.wantsStandIn 3=false by kernel_rfl)
theorem card:Rows.WindingClassesCardSaid:=
 Claim7.holds_tied_plain_at .later [] _ _ _ _ said (fun _ h=>by cases h) (by kernel_rfl) (fun _ h=>by cases h) windingClasses_row_tie J ⟨J,J⟩ j7 J plain j8
#print axioms card
end Go.Proofs.YtpiknjeceobbfaaGreatDoor.windingClasses
end
