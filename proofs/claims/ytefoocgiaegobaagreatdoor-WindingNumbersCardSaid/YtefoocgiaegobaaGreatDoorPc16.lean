import Derived.Test.YtefoocgiaegobaaGreatDoorPc15
import Derived.Shelf.SlSortCmp.NoneTotal
import Derived.Test.YtefoocgiaegobaaGreatDoorProg
import Derived.Shelf.SlicesQ.Reverse
import Derived.Shelf.SlLaysE0
set_option linter.all false
set_option maxHeartbeats 2000000
set_option maxRecDepth 100000
section
namespace Go.Proofs
open Go.Shelf
def Tryz.sortPt_ren:Go.Shelf.Ren:=⟨fun|6=>316|15=>231|14=>370|28=>332|29=>333|20=>391|21=>392|22=>393|23=>394|24=>395|25=>396|26=>397|27=>398|46=>405|47=>372|48=>373|49=>406|50=>407|57=>410|n=>n,fun|22=>131|24=>141|25=>393|3=>3|39=>355|0=>0|53=>366|55=>251|4=>4|46=>429|45=>428|50=>391|5=>5|9=>9|66=>467|70=>471|76=>486|77=>487|n=>n,fun|n=>n⟩
def Tryz.sortPt:Go.Proofs.SlLaysF0.n6 Tryz.prog Tryz.sortPt_ren:={
 mixed:=by kernel_rfl
 f6:=⟨Tryz.f316.name,by decide,Tryz.func316.trans (congrArg some (by kernel_rfl))⟩
 f14:=⟨Tryz.f370.name,by decide,Tryz.func370.trans (congrArg some (by kernel_rfl))⟩
 f15:=Tryz.func231.trans (congrArg some (by kernel_rfl))
 f20:=⟨Tryz.f391.name,by decide,Tryz.func391.trans (congrArg some (by kernel_rfl))⟩
 f21:=⟨Tryz.f392.name,by decide,Tryz.func392.trans (congrArg some (by kernel_rfl))⟩
 f22:=⟨Tryz.f393.name,by decide,Tryz.func393.trans (congrArg some (by kernel_rfl))⟩
 f23:=⟨Tryz.f394.name,by decide,Tryz.func394.trans (congrArg some (by kernel_rfl))⟩
 f24:=⟨Tryz.f395.name,by decide,Tryz.func395.trans (congrArg some (by kernel_rfl))⟩
 f25:=⟨Tryz.f396.name,by decide,Tryz.func396.trans (congrArg some (by kernel_rfl))⟩
 f26:=⟨Tryz.f397.name,by decide,Tryz.func397.trans (congrArg some (by kernel_rfl))⟩
 f27:=⟨Tryz.f398.name,by decide,Tryz.func398.trans (congrArg some (by kernel_rfl))⟩
 f28:=Tryz.func332.trans (congrArg some (by kernel_rfl))
 f29:=Tryz.func333.trans (congrArg some (by kernel_rfl))
 f46:=⟨Tryz.f405.name,by decide,Tryz.func405.trans (congrArg some (by kernel_rfl))⟩
 f47:=Tryz.func372.trans (congrArg some (by kernel_rfl))
 f48:=Tryz.func373.trans (congrArg some (by kernel_rfl))
 f49:=⟨Tryz.f406.name,by decide,Tryz.func406.trans (congrArg some (by kernel_rfl))⟩
 f50:=⟨Tryz.f407.name,by decide,Tryz.func407.trans (congrArg some (by kernel_rfl))⟩
 f57:=⟨Tryz.f410.name,by decide,Tryz.func410.trans (congrArg some (by kernel_rfl))⟩
 t0:=Tryz.underlying0
 a0:=Tryz.isAgg0
 z0:=Tryz.sizeOf0
 v0:=Tryz.zeroValue0
 t3:=Tryz.underlying3
 a3:=Tryz.isAgg3
 z3:=Tryz.sizeOf3
 v3:=Tryz.zeroValue3
 t4:=Tryz.underlying4
 a4:=Tryz.isAgg4
 z4:=Tryz.sizeOf4
 v4:=Tryz.zeroValue4
 t5:=Tryz.underlying5
 a5:=Tryz.isAgg5
 z5:=Tryz.sizeOf5
 v5:=Tryz.zeroValue5
 t9:=Tryz.underlying9
 a9:=Tryz.isAgg9
 z9:=Tryz.sizeOf9
 v9:=Tryz.zeroValue9
 t22:=Tryz.underlying131
 a22:=Tryz.isAgg131
 z22:=Tryz.sizeOf131
 v22:=Tryz.zeroValue131
 t25:=Tryz.underlying393
 a25:=Tryz.isAgg393
 z25:=Tryz.sizeOf393
 v25:=Tryz.zeroValue393
 t39:=Tryz.underlying355
 a39:=Tryz.isAgg355
 z39:=Tryz.sizeOf355
 v39:=Tryz.zeroValue355
 t45:=Tryz.underlying428
 a45:=Tryz.isAgg428
 z45:=Tryz.sizeOf428
 v45:=Tryz.zeroValue428
 t46:=Tryz.underlying429
 a46:=Tryz.isAgg429
 z46:=Tryz.sizeOf429
 v46:=Tryz.zeroValue429
 t50:=Tryz.underlying391
 a50:=Tryz.isAgg391
 z50:=Tryz.sizeOf391
 v50:=Tryz.zeroValue391
 t53:=Tryz.underlying366
 a53:=Tryz.isAgg366
 z53:=Tryz.sizeOf366
 v53:=Tryz.zeroValue366
 t55:=Tryz.underlying251
 a55:=Tryz.isAgg251
 z55:=Tryz.sizeOf251
 v55:=Tryz.zeroValue251
 t66:=Tryz.underlying467
 a66:=Tryz.isAgg467
 z66:=Tryz.sizeOf467
 v66:=Tryz.zeroValue467
 t70:=Tryz.underlying471
 a70:=Tryz.isAgg471
 z70:=Tryz.sizeOf471
 v70:=Tryz.zeroValue471
 t76:=Tryz.underlying486
 a76:=Tryz.isAgg486
 z76:=Tryz.sizeOf486
 v76:=Tryz.zeroValue486
 t77:=Tryz.underlying487
 a77:=Tryz.isAgg487
 z77:=Tryz.sizeOf487
 v77:=Tryz.zeroValue487}
end Go.Proofs
end
section
namespace Go.Sx
open Go Go.Proofs Tryz
variable {GB:Gh}
def MK{ds:List aa}{i:Nat}(hb: ∀d∈ds,aw d i)(hi:i<=10000000)(hn:ds.length<=10000000)(ht:sZ ds):PW GB prog 316 [none,some (.v (.func (.func 279) #[] #[]))] 6 141 (ds.map eZ) (.tp []) ((fk ci ds).map eZ):=
 IU (GB:=GB) Tryz.sortPt ⟨_,func316,J,J⟩ isAgg141 sizeOf141 eZ (fun d=>aw d i) (fun x=>⟨_,J,J,J⟩) ci IH ⟨_,func279,J,J⟩ (fun x y hx hy=>Fl (i:=i) (j:=i) hi hi) hb (by omega)
  (fun x hx y hy h k=>ht x hx y hy (Dy (by rw[<-mw];exact h) (by rw[<-mw];exact k)))
def NR{ds:List aa}{i:Nat}(hb: ∀d∈ds,aw d i)(hi:i<=10000000)(hn:ds.length<=10000000)(ht:sZ ds):PB GB prog 221 (iv [none]) 6 141 (ds.map eZ) (fun w=> .v (.slice w.a w.n w.c)) ((ml ds).map eZ):=by
 have hsm: ∀d∈fk ci ds,aw d i:=fun d hd=>hb d ((ol ci ds).mem_iff.1 hd);have hsl:(fk ci ds).length=ds.length:=(ol ci ds).length_eq;refine ww func221 J J ntmps221 J J (fun C=>?_);refine cw _ J (MK hb hi hn ht) J J<|cq ((ml ds).map eZ) J (RY (i0:=i) hsm (by omega) hi) (by rw[P1 ht]) J<|?_;exact pP J J J J
theorem DY{ds:List aa}{i:Nat}(h: ∀d∈ds,aw d i)(h2:2<=i): ∀v∈gz ds,aw v (i+i+1):=fun v hv=>by
 have up: ∀{q:aa},aw q i->aw q (i+i+1):=fun hq=>⟨hq.x.mono (by omega),hq.y.mono (by omega)⟩;unfold gz at hv;split at hv
 ·rw[aN] at hv
  subst hv;exact⟨BQ.mono (k:=2) ⟨by decide,by decide⟩ (by omega),BQ.mono (k:=2) ⟨by decide,by decide⟩ (by omega)⟩
 ·obtain⟨k,hk,rfl⟩:=bY.1 hv
  have hk':=iX.1 hk;have g: ∀{j:Nat},j<ds.length->aw (ds.getD j ⟨0,0⟩) i:=fun{j} hj=>by
   rw[aJ,aQ hj];exact h _ (gT hj)
  haveI:=g hk';haveI:=g (cV (k+1) (show 0<ds.length by omega));unfold pf;split
  ·exact inferInstance
  ·exact up inferInstance
def FU(ds:List aa):(gz ds).length<=ds.length+1:=by
 unfold gz;split
 ·simp
 ·rw[aX,pV];omega
def QD{b c:Bool}:PF GB prog 197 [vB b,vB c] (vI (if b&&c then 2 else if b then 1 else 0)):=by
 refine fn func197 J J ntmps197 J J (fun C=>?_);refine kB 7 J J J (fun hg7=>?_) (fun hg7=>?_)
 ·refine bb J J J (fun hc5=>?_) (fun hc5=>?_)
  ·exact rz J (by subst hg7 hc5;rfl)
  ·refine bb J J J (fun hc10=>?_) (fun hc10=>?_)
   ·exact rz J (by subst hg7 hc5;rfl)
   ·subst hg7;cases hc10
 ·refine bb J J J (fun hc10=>?_) (fun hc10=>?_)
  ·subst hg7;cases hc10
  ·exact rz J (by subst hg7;rfl)
def LM{C:aA}{n:Nat}{Q0:Exit->Act->World->Prop}{fr:ao}{own:aB}{ops:Array Oper}{r:List Oper}{K:List Kt}(k:Nat)(hl:aD fr k=some (.d (.ag [vI 0,vI 0, .v (.pointer none)])))(h:ak prog GB C n Q0 ((k, .d (eF 0))::fr) own (.ops ops r K)):ak prog GB C n Q0 fr own (.ops ops r K):=
 kt (g:= .d (eF 0)) hl (fun _ G y hy=>sI G y hy) h
theorem Kk{p:aa}{f:aI}(hf:FE f): ∀d∈fE p f,aw d 500:=fun d hd=>by
 haveI:=hf.fo.lb;rcases(A5 hd).2 with rfl|rfl
 ·exact inferInstance
 ·exact inferInstance
def tN{E:List aI}{p:aa}{k:Nat}{f:aI}(h:E[k]? =some f):(E.drop k).flatMap (fE p)=fE p f++(E.drop (k+1)).flatMap (fE p):=by
 obtain⟨hk,e⟩:=aL.1 h;rw[bS hk,e,List.flatMap_cons]
def Sf(p:aa)(f:aI):(fE p f).length<=2:=by
 unfold fE
 repeat' split
 all_goals simp
def Cm(p:aa): ∀E:List aI,(E.flatMap (fE p)).length<=2*E.length
 |[]=>aS _
 |f::E=>by
  have:=Cm p E;have:=Sf p f;rw[List.flatMap_cons,bK,bL];omega
def QB{p:aa}{f:aI}(h:ir f p=false):fE p f=[]:=by unfold fE;rw[h];rfl
def yh{p:aa}{f:aI}(hf:FE f)(h:ir f p=true):fE p f=(if bt (dl f.l p) f.v.hi<0 then [cA f.l.dir] else [])++(if 0<bt (dl f.l p) f.v.lo then [d4 (cA f.l.dir)] else []):=by
 unfold fE IX Ew;rw[if_pos h,hf.nl,hf.nh];simp only[Bool.false_or,decide_eq_true_eq]
def Vc{E:List aI}(hE: ∀f∈E,FE f)(hn:E.length<=100000){p:aa}{i:Nat}[hp:aw p i](hi:i<=100000:=by decide):PF GB prog 286 [.sl (E.map b6),eZ p] (.sl ((kl E p).map eZ)):=by
 have hml:(E.map b6).length=E.length:=aX ..;have hrl:=Cm p E;refine fn (fu:=⟨16⟩) func286 J J ntmps286 J J (fun C=>?_);refine aj 11 (.d (vI (E.length:Nat))) J (by rw[hml]<;>rfl) ?_;refine gx J<|?_;refine nr 5 5 141 6 J J J ?_;refine lp (X:=List aa×Nat) (fun⟨acc,k⟩=>[(12, .d (vI (k:Nat))),(5, .rw 5)]) (fun⟨acc,k⟩=>[(5,some (.b 141 6 (acc.map eZ) true))]) (fun⟨acc,k⟩=>acc++(E.drop k).flatMap (fE p)=E.flatMap (fE p)/\k<=E.length) (fun⟨acc,k⟩=>E.length-k) ⟨[],0⟩ J ⟨by simp,bJ _⟩ (fun _=>J) (fun⟨acc,k⟩ hk=>?_)
 try dsimp only at hk⊢
 obtain⟨h1,h2⟩:=hk;have hal:acc.length<=2*E.length:=by
  have q1:=congrArg List.length h1;rw[bK] at q1;omega
 have ham:(acc.map eZ).length=acc.length:=aX ..;refine br J J J (fun hc13=>?_) (fun hc13=>?_)
 .
  obtain⟨f,hx⟩: ∃u,E[k]? =some u:=⟨_,aQ (by omega)⟩;have hf:=hE f (aU hx);haveI:=hf.fo.lb;haveI:=hf.fo.lo;haveI:=hf.fo.hi;haveI:=xc (p:=p) (i:=i) hf.fo.lb;refine ix _ J (cO hx) J<|cl J (Bj hf (p:=p) (i:=i) hi) J<|?_;refine bb J J J (fun hc19=>?_) (fun hc19=>?_)
  .
   exact at_ ⟨acc,k+1⟩ (by dsimp only;exact⟨⟨by rw[<-h1,tN hx,QB (by simpa using hc19)];simp,by omega⟩,(by omega)⟩)
  .
   have hha:ir f p=true:=by simpa using hc19
   refine cl J (tH (l:=f.l) (p:=p) (i:=i) (by omega)) J<|cl J (vQ (l:=f.l)) J<|cl (fu:=⟨12⟩) J (QU (p:=f.l.dir) (i:=97)) J<|?_;refine aj 30 (.d (vB false)) J (by rw[hf.nh]<;>rfl) ?_;refine qE 30 J ?_;refine gx (fu:=⟨0⟩) J<|?_;rcases Classical.em (bt (dl f.l p) f.v.hi<0) with hA|hA
   .
    refine gx J<|cl (fu:=⟨0⟩) J (ij (p:=dl f.l p) (q:=f.v.hi) (i:=2*i+600) (j:=1200) (by omega) (by decide)) J<|iB J (by show some (decide _)=some true;rw[decide_eq_true (by omega)]) J<|?_;refine rf J J<|ap (fu:=⟨8⟩) ((acc++[cA f.l.dir]).map eZ) J (by rw[cX]<;>rfl) (qP [cA f.l.dir]) J<|?_;refine aj 45 (.d (vB false)) J (by rw[hf.nl]<;>rfl) ?_;refine qE 45 J ?_;refine gx J<|cl J (ij (p:=dl f.l p) (q:=f.v.lo) (i:=2*i+600) (j:=1200) (by omega) (by decide)) J<|?_;refine br J J J (fun hc53=>?_) (fun hc53=>?_)
    .
     refine cl J (I9 (p:=cA f.l.dir) (i:=500)) J<|rf J J<|ap ((acc++[cA f.l.dir]++[d4 (cA f.l.dir)]).map eZ) J (by simp only[cX,fX,jZ,jL]<;>rfl) (qP [d4 (cA f.l.dir)]) J<|?_;refine fA 58 5 J ?_;exact at_ ⟨acc++[cA f.l.dir]++[d4 (cA f.l.dir)],k+1⟩ (by dsimp only;exact⟨⟨by rw[<-h1,tN hx,yh hf hha,if_pos hA,if_pos (by omega)];simp,by omega⟩,(by omega)⟩)
    .
     refine fA 42 5 J ?_;exact at_ ⟨acc++[cA f.l.dir],k+1⟩ (by dsimp only;exact⟨⟨by rw[<-h1,tN hx,yh hf hha,if_pos hA,if_neg (by omega)];simp,by omega⟩,(by omega)⟩)
   .
    refine gx J<|cl (fu:=⟨0⟩) J (ij (p:=dl f.l p) (q:=f.v.hi) (i:=2*i+600) (j:=1200) (by omega) (by decide)) J<|fq (fu:=⟨11⟩) J (by show some (decide _)=some false;rw[decide_eq_false (by omega)]) J<|?_;refine aj 45 (.d (vB false)) J (by rw[hf.nl]<;>rfl) ?_;refine qE 45 J ?_;refine gx J<|cl J (ij (p:=dl f.l p) (q:=f.v.lo) (i:=2*i+600) (j:=1200) (by omega) (by decide)) J<|?_;refine br J J J (fun hc53=>?_) (fun hc53=>?_)
    .
     refine cl J (I9 (p:=cA f.l.dir) (i:=500)) J<|rf J J<|ap ((acc++[d4 (cA f.l.dir)]).map eZ) J (by simp only[cX,fX,jZ,jL]<;>rfl) (qP [d4 (cA f.l.dir)]) J<|?_;refine fA 58 5 J ?_;exact at_ ⟨acc++[d4 (cA f.l.dir)],k+1⟩ (by dsimp only;exact⟨⟨by rw[<-h1,tN hx,yh hf hha,if_neg hA,if_pos (by omega)];simp,by omega⟩,(by omega)⟩)
    .
     exact at_ ⟨acc,k+1⟩ (by dsimp only;exact⟨⟨by rw[<-h1,tN hx,yh hf hha,if_neg hA,if_neg (by omega)];simp,by omega⟩,(by omega)⟩)
 .
  obtain rfl:k=E.length:=by omega
  have hacc:acc=E.flatMap (fE p):=by rw[gR] at h1;simpa using h1
  refine cq ((kl E p).map eZ) rfl (NR (ds:=acc) (i:=500) (fun d hd=>by rw[hacc] at hd;obtain⟨f,h3,h4⟩:=gL.1 hd;exact Kk (hE f h3) d h4) (by decide) (by omega) (by rw[hacc];exact Ea (fun f hf=>(hE f hf).fo.ok) p)) (by rw[hacc]<;>rfl) rfl<|?_;refine jw 61 J ?_;exact rz J J
def vJ(p d:aa)(s:Rat):p.add (d.scale s)=cC p d s:=by
 unfold aa.add aa.scale cC;simp only[aa.mk.injEq];constructor<;>grind
def pd(x:Rat×Bool)(s:Rat):Rat×Bool:=if 0<Int.sign s.num/\(x.2=false\/bt s x.1<0) then(s,true) else x
def wq(a b:Rat):pd (pd (0,false) a) b=sv a b:=by
 unfold pd sv;by_cases ha:0<Int.sign a.num
 ·simp only[ha,true_and,not_true_eq_false,false_or]
  simp
 ·simp only[ha,false_and,if_false,not_false_eq_true,true_or,and_true]
def v7{b s:Rat}{x:Bool}(h:0<Int.sign s.num)(k:x=false\/bt s b<0):pd (b,x) s=(s,true):=by unfold pd;rw[if_pos ⟨h,k⟩]
def xa{b s:Rat}{x:Bool}(h: ¬0<Int.sign s.num\/(x=true/\ ¬bt s b<0)):pd (b,x) s=(b,x):=by
 unfold pd;rw[if_neg];rintro ⟨h1,h2⟩;rcases h with h|⟨h,k⟩
 ·exact h h1
 ·rcases h2 with e|e
  ·rw[h] at e;cases e
  ·exact k e
theorem y7{m:Nat}(hm:1<=m):BQ (0:Rat) m:=BQ.mono (k:=1) ⟨by decide,by decide⟩ hm
theorem Cg{p q:aa}{i j:Nat}(hp:aw p i)[aw q j]:BQ (p.dot q) (i+j+(i+j)+1):=by
 haveI:=hp;exact inferInstance
theorem xZ{p d q:aa}{i j m:Nat}[aw p i][aw d j][aw q 3000](hm:2*i+6*j+6100<=m):BQ (qb p d q) m:=by
 haveI:=Cg (q:=d) (tk q p (i:=3000) (j:=i));have h:BQ ((⟨q.x-p.x,q.y-p.y⟩:aa).dot d/d.dot d) _:=inferInstance;exact BQ.mono (show BQ (qb p d q) _ from h) (by omega)
def H0{f:aI}{p d:aa}(h:f.l.nor.dot d≠0):i4 f p d=(-(f.l.value p/f.l.nor.dot d),decide (0<Int.sign (-(f.l.value p/f.l.nor.dot d)).num)&&l8 f.v (dl f.l (cC p d (-(f.l.value p/f.l.nor.dot d))))):=by unfold i4;rw[if_neg h]
def Lr{f:aI}{p d:aa}(h:f.l.nor.dot d=0)(k:f.l.value p=0):i4 f p d=sv (qb p d (f.l.at f.v.lo)) (qb p d (f.l.at f.v.hi)):=by unfold i4;rw[if_pos h,if_pos k]
def Ve{f:aI}{p d:aa}(h:f.l.nor.dot d=0)(k:f.l.value p≠0):i4 f p d=(0,false):=by unfold i4;rw[if_pos h,if_neg k]
def R1{f:aI}(hf:FE f){p d:aa}{i j:Nat}[hp:aw p i][hd:aw d j](hi:i<=30000:=by decide)(hj:j<=10000:=by decide):PF GB prog 287 [b6 f,eZ p,eZ d] (.tp [eF (i4 f p d).1,vB (i4 f p d).2]):=by
 haveI:=hf.fo.lb;haveI:=hf.fo.lo;haveI:=hf.fo.hi;obtain⟨k0,hk0⟩: ∃k0,k0=f.l.nor.dot d:=⟨_,rfl⟩;obtain⟨c0,hc0⟩: ∃c0,c0=f.l.value p:=⟨_,rfl⟩;haveI:BQ k0 (2*j+600):=by rw[hk0];exact BQ.mono (inferInstance:BQ (f.l.nor.dot d) _) (by omega)
 haveI:BQ c0 (2*i+900):=by rw[hc0];exact BQ.mono (inferInstance:BQ (f.l.value p) _) (by omega)
 obtain⟨s,hs⟩: ∃s,s= -(c0/k0):=⟨_,rfl⟩;haveI:BQ (c0/k0) (2*i+2*j+1500):=BQ.mono (inferInstance:BQ (c0/k0) _) (by omega);haveI:BQ s (2*i+2*j+1500):=by rw[hs];exact inferInstance
 haveI:aw (cC p d s) (3*i+3*j+1600):=by rw[<-vJ];exact aw.mono (inferInstance:aw (p.add (d.scale s)) _) (by omega)
 obtain⟨nO,hslo⟩: ∃s,s=qb p d (f.l.at f.v.lo):=⟨_,rfl⟩;obtain⟨shi,hshi⟩: ∃s,s=qb p d (f.l.at f.v.hi):=⟨_,rfl⟩;haveI:aw (f.l.at f.v.hi) 3000:=sQ hf.fo.lb hf.fo.hi;haveI:aw (f.l.at f.v.lo) 3000:=sQ hf.fo.lb hf.fo.lo;haveI:BQ nO (2*i+6*j+9000):=by rw[hslo];exact xZ (by omega)
 haveI:BQ shi (2*i+6*j+9000):=by rw[hshi];exact xZ (by omega)
 haveI:BQ f.v.lo (6*i+6*j+4000):=hf.fo.lo.mono (by omega);haveI:BQ f.v.hi (6*i+6*j+4000):=hf.fo.hi.mono (by omega);haveI:BQ (dl f.l (cC p d s)) (6*i+6*j+4000):=(xc (p:=cC p d s) (i:=3*i+3*j+1600) hf.fo.lb).mono (by omega);refine fn func287 J J ntmps287 J J (fun C=>?_);refine cl J (Ay (l:=f.l)) J<|cl (fu:=⟨0⟩) J (nv (p:=f.l.nor) (q:=d) (i:=97) (j:=j) (by decide) (by omega)) J<|?_;refine aj 22 (.d (eF k0)) J (by rw[hk0]) ?_;refine gx J<|cl (fu:=⟨0⟩) J (Ef (l:=f.l) (p:=p) (i:=i) (by omega)) J<|?_;refine aj 26 (.d (eF c0)) J (by rw[hc0]) ?_;refine gx J<|cl J (yk (q:=k0)) J<|?_;refine bb J J J (fun hc29=>?_) (fun hc29=>?_)
 .
  have hkn:f.l.nor.dot d≠0:=by rw[<-hk0];simpa using hc29
  refine cl J (vp (p:=c0) (q:=k0) (i:=2*i+900) (j:=2*j+600) (by omega) (by omega)) J<|cl (fu:=⟨0⟩) J (lO (q:=c0/k0) (i:=2*i+2*j+1500) (by omega)) J<|?_;refine aj 33 (.d (eF s)) J (by rw[hs]) ?_;refine gx J<|cl (fu:=⟨0⟩) J (jj (q:=s) (i:=2*i+2*j+1500) (by omega)) J<|?_;refine oB (v2:=fun hg37=>by simp only[ah];kernel_rfl) J J J J (fun hg37=>?_) (fun hg37=>?_)
  .
   refine cl J (uC (p:=d) (c:=s) (i:=j) (j:=2*i+2*j+1500) (by omega) (by omega)) J<|cl (fu:=⟨0⟩) J (wV (p:=p) (q:=d.scale s) (i:=i) (j:=j+(2*i+2*j+1500)) (by omega) (by omega)) J<|?_;refine aj 47 (.d (eZ (cC p d s))) J (by rw[vJ]) ?_;refine gx J<|cl J (tH (l:=f.l) (p:=cC p d s) (i:=3*i+3*j+1600) (by omega)) J<|cl J (K5 (v:=f.v) (t:=dl f.l (cC p d s)) (i:=6*i+6*j+4000) (by omega)) J<|?_;exact rz J (by rw[H0 hkn,<-hk0,<-hc0,<-hs];show DV.tp [_, .v (.bool _)]= .tp [_, .v (.bool _)];simp only[hg37,decide_true,Bool.true_and];rfl)
  .
   exact rz J (by rw[H0 hkn,<-hk0,<-hc0,<-hs];show DV.tp [_, .v (.bool _)]= .tp [_, .v (.bool _)];simp only[hg37,decide_false,Bool.false_and];rfl)
 .
  have hkz:f.l.nor.dot d=0:=by rw[<-hk0];simpa using hc29
  refine cl J (yk (q:=c0)) J<|?_;refine bb (fu1:=⟨3⟩) (fu2:=⟨16⟩) J J J (fun hc53=>?_) (fun hc53=>?_)
  .
   have hcn:f.l.value p≠0:=by rw[<-hc0];simpa using hc53
   refine LM 54 J ?_;refine gx J<|?_;exact rz J (by rw[Ve hkz hcn];rfl)
  .
   have hcz:f.l.value p=0:=by rw[<-hc0];simpa using hc53
   refine s4 (fu:=⟨1⟩) (po f) J (fun G y hy=>rW hf.sm hy) J<|s4 (fu:=⟨0⟩) (po f) J (fun G y hy=>rW hf.sm hy) J<|OO (fu:=⟨1⟩) (i:=⟨.o,1,some [.d (.v .nilFunc)],false⟩) (z:= .v .nilFunc) J (by kernel_rfl) J J J<|?_;refine aj 60 (.d (vI 2)) J J ?_;refine gx J<|?_;refine Di 12 _ J J ?_;refine Te 11 [vI (di 0),vI (c7 0),cH 0] rfl (fun G m=>zF) J ?_;refine lp (X:=Nat×Rat×Bool) (fun⟨t,bst,fnd⟩=>[(61, .d (vI (t:Nat))),(12, .d (vB fnd)),(11, .ov 11 0)]) (fun⟨t,bst,fnd⟩=>[(11,some (.o 139 [.d (vI (di bst)), .d (vI (c7 bst)), .d (cH bst)] true))]) (fun⟨t,bst,fnd⟩=>t<=2/\BQ bst (2*i+6*j+9000)/\(t=0->(bst,fnd)=(0,false))/\(t=1->(bst,fnd)=pd (0,false) nO)/\(t=2->(bst,fnd)=sv nO shi)) (fun⟨t,bst,fnd⟩=>2-t) ⟨0,0,false⟩ J ⟨by omega,y7 (by omega),fun _=>J,fun e=>by omega,fun e=>by omega⟩ (fun _=>J) (fun⟨t,bst,fnd⟩ hk=>?_)
   try dsimp only at hk⊢
   obtain⟨hk2,hbb,q0,q1,q2⟩:=hk;haveI:=hbb;refine br (fu1:=⟨6⟩) J J J (fun hc62=>?_) (fun hc62=>?_)
   .
    rcases(show t=0\/t=1 by omega) with rfl|rfl
    .
     refine gx J<|ix (fu:=⟨0⟩) _ J J J<|DT (fu:=⟨6⟩) J J J J J J<|qm (ds1:=[b6 f]) (ds2:=[]) J (.cons (tj hf.sm) (cp.2 J)) (cp.2 J) (yQ hf) J<|?_;refine cl J (Dc (p:=f.l.at f.v.lo) (q:=p) (i:=3000) (j:=i) (by decide) (by omega)) J<|cl J (nv (p:=⟨(f.l.at f.v.lo).x-p.x,(f.l.at f.v.lo).y-p.y⟩) (q:=d) (i:=3000+i+1) (j:=j) (hp:=tk _ _) (by omega) (by omega)) J<|?_;refine cl J (nv (p:=d) (q:=d) (i:=j) (j:=j) (by omega) (by omega)) J<|cl (fu:=⟨0⟩) J (vp (p:=(⟨(f.l.at f.v.lo).x-p.x,(f.l.at f.v.lo).y-p.y⟩:aa).dot d) (q:=d.dot d) (i:=3000+i+1+j+(3000+i+1+j)+1) (j:=j+j+(j+j)+1) (h:=Cg (tk _ _)) (by omega) (by omega)) J<|?_;refine aj 78 (.d (eF nO)) J (by rw[hslo];rfl) ?_;refine gx (fu:=⟨8⟩) J<|?_;refine ke 80 J ?_;refine gx J<|cl J (jj (q:=nO) (i:=(2*i+6*j+9000)) (by omega)) J<|?_;refine cs 85 J J J (fun hg85=>?_) (fun hg85=>?_)
     .
      refine kB 88 J J J (fun hg88=>?_) (fun hg88=>?_)
      .
       refine tB 12 _ J J ?_;exact at_ ⟨0+1,nO,true⟩ (by dsimp only;exact⟨⟨by omega,by first|exact inferInstance|assumption,fun e=>by omega,fun _=>by rw[<-q0 J];exact(v7 hg85 (.inl (by simpa using hg88))).symm,fun e=>by omega⟩,(by omega)⟩)
      .
       refine cl J (ij (p:=nO) (q:=bst) (i:=(2*i+6*j+9000)) (j:=(2*i+6*j+9000)) (by omega) (by omega)) J<|?_;refine br J J J (fun hc94=>?_) (fun hc94=>?_)
       .
        refine tB 12 _ J J ?_;exact at_ ⟨0+1,nO,true⟩ (by dsimp only;exact⟨⟨by omega,by first|exact inferInstance|assumption,fun e=>by omega,fun _=>by rw[<-q0 J];exact(v7 hg85 (.inr hc94)).symm,fun e=>by omega⟩,(by omega)⟩)
       .
        exact at_ ⟨0+1,bst,fnd⟩ (by dsimp only;exact⟨⟨by omega,by first|exact inferInstance|assumption,fun e=>by omega,fun _=>by rw[<-q0 J];exact(xa (.inr ⟨by simpa using hg88,hc94⟩)).symm,fun e=>by omega⟩,(by omega)⟩)
     .
      exact at_ ⟨0+1,bst,fnd⟩ (by dsimp only;exact⟨⟨by omega,by first|exact inferInstance|assumption,fun e=>by omega,fun _=>by rw[<-q0 J];exact(xa (.inl hg85)).symm,fun e=>by omega⟩,(by omega)⟩)
    .
     refine gx J<|ix (fu:=⟨0⟩) _ J J J<|DT (fu:=⟨6⟩) J J J J J J<|qm (ds1:=[b6 f]) (ds2:=[]) J (.cons (tj hf.sm) (cp.2 J)) (cp.2 J) (A1 hf) J<|?_;refine cl J (Dc (p:=f.l.at f.v.hi) (q:=p) (i:=3000) (j:=i) (by decide) (by omega)) J<|cl J (nv (p:=⟨(f.l.at f.v.hi).x-p.x,(f.l.at f.v.hi).y-p.y⟩) (q:=d) (i:=3000+i+1) (j:=j) (hp:=tk _ _) (by omega) (by omega)) J<|?_;refine cl J (nv (p:=d) (q:=d) (i:=j) (j:=j) (by omega) (by omega)) J<|cl (fu:=⟨0⟩) J (vp (p:=(⟨(f.l.at f.v.hi).x-p.x,(f.l.at f.v.hi).y-p.y⟩:aa).dot d) (q:=d.dot d) (i:=3000+i+1+j+(3000+i+1+j)+1) (j:=j+j+(j+j)+1) (h:=Cg (tk _ _)) (by omega) (by omega)) J<|?_;refine aj 78 (.d (eF shi)) J (by rw[hshi];rfl) ?_;refine gx (fu:=⟨8⟩) J<|?_;refine ke 80 J ?_;refine gx J<|cl J (jj (q:=shi) (i:=(2*i+6*j+9000)) (by omega)) J<|?_;refine cs 85 J J J (fun hg85=>?_) (fun hg85=>?_)
     .
      refine kB 88 J J J (fun hg88=>?_) (fun hg88=>?_)
      .
       refine tB 12 _ J J ?_;exact at_ ⟨1+1,shi,true⟩ (by dsimp only;exact⟨⟨by omega,by first|exact inferInstance|assumption,fun e=>by omega,fun e=>by omega,fun _=>by rw[<-wq,<-q1 J];exact(v7 hg85 (.inl (by simpa using hg88))).symm⟩,(by omega)⟩)
      .
       refine cl J (ij (p:=shi) (q:=bst) (i:=(2*i+6*j+9000)) (j:=(2*i+6*j+9000)) (by omega) (by omega)) J<|?_;refine br J J J (fun hc94=>?_) (fun hc94=>?_)
       .
        refine tB 12 _ J J ?_;exact at_ ⟨1+1,shi,true⟩ (by dsimp only;exact⟨⟨by omega,by first|exact inferInstance|assumption,fun e=>by omega,fun e=>by omega,fun _=>by rw[<-wq,<-q1 J];exact(v7 hg85 (.inr hc94)).symm⟩,(by omega)⟩)
       .
        exact at_ ⟨1+1,bst,fnd⟩ (by dsimp only;exact⟨⟨by omega,by first|exact inferInstance|assumption,fun e=>by omega,fun e=>by omega,fun _=>by rw[<-wq,<-q1 J];exact(xa (.inr ⟨by simpa using hg88,hc94⟩)).symm⟩,(by omega)⟩)
     .
      exact at_ ⟨1+1,bst,fnd⟩ (by dsimp only;exact⟨⟨by omega,by first|exact inferInstance|assumption,fun e=>by omega,fun e=>by omega,fun _=>by rw[<-wq,<-q1 J];exact(xa (.inl hg85)).symm⟩,(by omega)⟩)
   .
    obtain rfl:t=2:=by omega
    exact rz J (by rw[Lr hkz hcz,<-hslo,<-hshi,<-q2 J];rfl)
theorem Cp{E:List aI}(hE: ∀f∈E,FE f)(p:aa): ∀d∈kl E p,aw d 500:=fun d hd=>by
 obtain⟨f,h3,h4⟩:=gL.1 ((Tk (Ea (fun f hf=>(hE f hf).fo.ok) p) d).1 hd);exact Kk (hE f h3) d h4
def EP(E:List aI)(p:aa):(kl E p).length<=2*E.length:=by
 have h1:=Cm p E;have h2:=A' ci (E.flatMap (fE p)) [];show((E.flatMap (fE p)).foldl (fun out x=>c9 ci x out) []).length<=_;simp only[iS] at h2;omega
theorem Ey{f:aI}(hf:FE f){p d:aa}{i j:Nat}[hp:aw p i][hd:aw d j]:BQ (i4 f p d).1 (2*i+6*j+9000):=by
 haveI:=hf.fo.lb;haveI:aw (f.l.at f.v.hi) 3000:=sQ hf.fo.lb hf.fo.hi;haveI:aw (f.l.at f.v.lo) 3000:=sQ hf.fo.lb hf.fo.lo;unfold i4;split
 ·split
  ·unfold sv
   split
   ·exact xZ (by omega)
   ·split
    ·exact xZ (by omega)
    ·exact y7 (by omega)
  ·exact y7 (by omega)
 ·exact BQ.mono (inferInstance:BQ (-(f.l.value p/f.l.nor.dot d)) _) (by omega)
theorem Et{f:aI}(hf:FE f){p d:aa}{i j:Nat}[hp:aw p i][hd:aw d j]{s:Rat}(hs:BQ s (2*i+6*j+9000)):BQ (ky p d s f) (2*i+6*j+9000):=by
 unfold ky;split
 ·exact hs
 ·split
  ·split
   ·exact Ey hf
   ·exact hs
  ·exact hs
def zw{E:List aI}{p d:aa}{k:Nat}{f:aI}(h:E[k]? =some f)(s:Rat):(E.take (k+1)).foldl (ky p d) s=ky p d ((E.take k).foldl (ky p d) s) f:=by
 rw[cJ,h,nV];rfl
def O2{L:List aa}{g:aa->aa}{k:Nat}{l:aa}(h:L[k]? =some l):(((L.take k).map g).map eZ)++[eZ (g l)]=((L.take (k+1)).map g).map eZ:=by
 rw[cJ,h];simp
theorem Hl{m:Nat}(hm:3<=m):BQ (1:Rat) m:=BQ.mono (k:=3) ⟨by decide,by decide⟩ hm
theorem Ur{E:List aI}(hE: ∀f∈E,FE f){p d:aa}{i j:Nat}[hp:aw p i][hd:aw d j]:aw (lj E p d) (3*i+7*j+9010):=by
 have key: ∀(E:List aI),(∀f∈E,FE f)-> ∀s,BQ s (2*i+6*j+9000)->BQ (E.foldl (ky p d) s) (2*i+6*j+9000):=by
  intro E
  induction E with
  |nil=>intro _ s h;exact h
  |cons f E ih=>intro hE s h;exact ih (fun g hg=>hE g (aK _ hg)) _ (Et (hE f aZ) h)
 haveI:=key E hE 1 (Hl (by omega));unfold lj;rw[<-vJ];exact aw.mono (inferInstance:aw (p.add (d.scale (E.foldl (ky p d) 1*mkRat 1 2))) _) (by omega)
def Rw{E:List aI}(hE: ∀f∈E,FE f)(hn:E.length<=100000){p:aa}{i:Nat}[hp:aw p i](hi:i<=20000:=by decide):PF GB prog 196 [.sl (E.map b6),eZ p] (.sl (((gz (kl E p)).map (lj E p)).map eZ)):=by
 have hml:(E.map b6).length=E.length:=aX ..;have hrl:=EP E p;obtain⟨W,hW⟩: ∃W,W=gz (kl E p):=⟨_,rfl⟩;have hWl:W.length<=(kl E p).length+1:=by rw[hW];exact FU _
 have hWb: ∀d∈W,aw d 1001:=fun d hd=>by rw[hW] at hd;exact DY (Cp hE p) (by decide) d hd
 have hwm:(W.map eZ).length=W.length:=aX ..;rw[<-hW];refine fn func196 J J ntmps196 J J (fun C=>?_);refine cl J (Vc hE hn (p:=p) (i:=i) (by omega)) J<|cl (fu:=⟨0⟩) J (U9 (ds:=kl E p) (i:=500) (Cp hE p) (by omega)) J<|?_;refine aj 16 (.d (.sl (W.map eZ))) J (by rw[hW]) ?_;refine gx (fu:=⟨1⟩) J<|?_;refine aj 17 (.d (vI (W.length:Nat))) J (by rw[hwm]<;>rfl) ?_;refine gx J<|?_;refine nr 5 5 141 6 J J J ?_;refine lp (X:=Nat) (fun k=>[(18, .d (vI (k:Nat))),(5, .rw 5)]) (fun k=>[(5,some (.b 141 6 (((W.take k).map (lj E p)).map eZ) true))]) (fun k=>k<=W.length) (fun k=>W.length-k) 0 J (bJ _) (fun _=>J) (fun k hk=>?_);have hm3:(((W.take k).map (lj E p)).map eZ).length<=k:=by rw[aX,aX,bR];omega
 refine br J J J (fun hc19=>?_) (fun hc19=>?_)
 .
  obtain⟨d,hx⟩: ∃u,W[k]? =some u:=⟨_,aQ (by omega)⟩;haveI:=hWb d (aU hx);have hko:=hk;refine ix _ J (cO hx) J<|cl (fu:=⟨0⟩) J (tF (m:=1) (by decide)) J<|?_;refine aj 22 (.d (eF 1)) J J ?_;refine gx (fu:=⟨9⟩) J<|?_;refine aj 24 (.d (vI (E.length:Nat))) J (by rw[hml]<;>rfl) ?_;refine gx J<|?_;refine lp (X:=Nat×Rat) (fun⟨t,s⟩=>[(25, .d (vI (t:Nat))),(8, .ov 8 0)]) (fun⟨t,s⟩=>[(8,some (.o 139 [.d (vI (di s)), .d (vI (c7 s)), .d (cH s)] true))]) (fun⟨t,s⟩=>t<=E.length/\s=(E.take t).foldl (ky p d) 1/\BQ s (2*i+6*1001+9000)) (fun⟨t,s⟩=>E.length-t) ⟨0,1⟩ J ⟨bJ _,J,Hl (by omega)⟩ (fun _=>J) (fun⟨t,s⟩ hk=>?_)
  try dsimp only at hk⊢
  obtain⟨g1,g2,g3⟩:=hk;haveI:=g3;refine br J J J (fun hc26=>?_) (fun hc26=>?_)
  .
   obtain⟨f,hx2⟩: ∃u,E[t]? =some u:=⟨_,aQ (by omega)⟩;have hf:=hE f (aU hx2);haveI:=Ey hf (p:=p) (d:=d) (i:=i) (j:=1001);refine ix _ J (cO hx2) J<|cl J (Bj hf (p:=p) (i:=i) (by omega)) J<|?_;refine bb J J J (fun hc31=>?_) (fun hc31=>?_)
   .
    exact at_ ⟨t+1,s⟩ (by dsimp only;exact⟨⟨by omega,by rw[zw hx2,<-g2];unfold ky;rw[if_pos hc31],g3⟩,(by omega)⟩)
   .
    refine cl J (R1 hf (p:=p) (d:=d) (i:=i) (j:=1001) (by omega) (by decide)) J<|?_;refine bb J J J (fun hc39=>?_) (fun hc39=>?_)
    .
     refine cl J (QM (p:=s) (q:=(i4 f p d).1) (i:=(2*i+6*1001+9000)) (j:=(2*i+6*1001+9000)) (by omega) (by omega)) J<|?_;exact at_ ⟨t+1,if(i4 f p d).1<s then(i4 f p d).1 else s⟩ (by dsimp only;exact⟨⟨by omega,by rw[zw hx2,<-g2];unfold ky;simp[show ir f p=false by simpa using hc31,hc39],by have h9:=Et hf (p:=p) (d:=d) (i:=i) (j:=1001) g3;unfold ky at h9;simpa[show ir f p=false by simpa using hc31,hc39] using h9⟩,(by omega)⟩)
    .
     exact at_ ⟨t+1,s⟩ (by dsimp only;exact⟨⟨by omega,by rw[zw hx2,<-g2];unfold ky;simp[show(i4 f p d).2=false by simpa using hc39],g3⟩,(by omega)⟩)
  .
   obtain rfl:t=E.length:=by omega
   rw[bN] at g2;refine cl J (MI (q:=s) (i:=(2*i+6*1001+9000)) (by omega)) J<|cl J (uC (p:=d) (c:=s*mkRat 1 2) (i:=1001) (j:=(2*i+6*1001+9000)+2) (by decide) (by omega)) J<|?_;refine cl (fu:=⟨0⟩) J (wV (p:=p) (q:=d.scale (s*mkRat 1 2)) (i:=i) (j:=1001+((2*i+6*1001+9000)+2)) (by omega) (by omega)) J<|?_;refine aj 50 (.d (eZ (lj E p d))) J (by rw[vJ,g2];rfl) ?_;refine gx J<|rf J J<|ap (hv:=by simp only[ah];exact⟨by kernel_rfl,by omega⟩) (((W.take (k+1)).map (lj E p)).map eZ) J (O2 hx) (qP [lj E p d]) J<|?_;refine fA 52 5 J ?_;exact at_ (k+1) ⟨(by omega),(by omega)⟩
 .
  obtain rfl:k=W.length:=by omega
  rw[bN];refine jw 5 J ?_;exact rz J J
def FK{W:List aa}{g:aa->Bool}{k:Nat}{d:aa}(h:W[k]? =some d):(W.take (k+1)).any g=((W.take k).any g||g d):=by
 rw[cJ,h,List.any_append];simp
def GR{W:List aa}{g:aa->Bool}{k:Nat}{d:aa}(h:W[k]? =some d):(W.take (k+1)).all g=((W.take k).all g&&g d):=by
 rw[cJ,h,List.all_append];simp
def J'{E:List aI}(hE: ∀f∈E,FE f)(hn:E.length<=100000){p:aa}{i:Nat}[hp:aw p i](hi:i<=20000){f:FuncId}{c2:List Value}{ds2:List DV}(hc:IsLs GB ds2 c2){acc:aa->Bool}(hF: ∀q,aw q 80000->PF GB prog f (eZ q::ds2) (vB (acc q))):PF GB prog 109 [.sl (E.map b6),eZ p, .v (.func (.func f) ⟨[]⟩ ⟨c2⟩)] (vI (u6 E p acc)):=by
 obtain⟨W,hW⟩: ∃W,W=(gz (kl E p)).map (lj E p):=⟨_,rfl⟩;have hwm:(W.map eZ).length=W.length:=aX ..;have hrl:=EP E p;have hsl:=FU (kl E p);have hWl:W.length=(gz (kl E p)).length:=by rw[hW,aX]
 have hWb: ∀q∈W,aw q 80000:=fun q hq=>by
  rw[hW] at hq;obtain⟨d,hd,rfl⟩:=bY.1 hq;haveI:=DY (Cp hE p) (by decide) d hd;exact(Ur hE (p:=p) (d:=d) (i:=i) (j:=1001)).mono (by omega)
 have hcl:u6 E p acc=if(W.any acc&&W.all acc) then 2 else if W.any acc then 1 else 0:=by
  unfold u6;rw[hW,List.any_map,List.all_map];rfl
 refine fn func109 J J ntmps109 J J (fun C=>?_);refine cl (fu:=⟨0⟩) J (Rw hE hn (p:=p) (i:=i) hi) J<|?_;refine aj 13 (.d (.sl (W.map eZ))) J (by rw[hW]) ?_;refine gx (fu:=⟨1⟩) J<|?_;refine aj 14 (.d (vI (W.length:Nat))) J (by rw[hwm]<;>rfl) ?_;refine gx J<|?_;refine Di 7 _ J J ?_;refine Di 8 _ J J ?_;refine lp (X:=Nat) (fun k=>[(15, .d (vI (k:Nat))),(7, .d (vB ((W.take k).any acc))),(8, .d (vB ((W.take k).all acc)))]) (fun k=>[]) (fun k=>k<=W.length) (fun k=>W.length-k) 0 J (bJ _) (fun _=>J) (fun k hk=>?_);refine br J J J (fun hc16=>?_) (fun hc16=>?_)
 .
  obtain⟨q,hx⟩: ∃u,W[k]? =some u:=⟨_,aQ (by omega)⟩;haveI:=hWb q (aU hx);refine ix (fu:=⟨9⟩) _ J (cO hx) J<|qm (ds1:=[]) (ds2:=ds2) J (cp.2 J) hc (hF q (hWb q (aU hx))) J<|?_;refine bb J J J (fun hc21=>?_) (fun hc21=>?_)
  .
   refine tB 7 _ J J ?_;refine aj 7 (.d (vB ((W.take (k+1)).any acc))) J (by rw[FK hx,hc21,Bool.or_true]<;>rfl) ?_;refine aj 8 (.d (vB ((W.take (k+1)).all acc))) J (by rw[GR hx,hc21,Bool.and_true]<;>rfl) ?_;exact at_ (k+1) ⟨(by omega),(by omega)⟩
  .
   refine tB 8 _ J J ?_;refine aj 7 (.d (vB ((W.take (k+1)).any acc))) J (by rw[FK hx,hc21,Bool.or_false]<;>rfl) ?_;refine aj 8 (.d (vB ((W.take (k+1)).all acc))) J (by rw[GR hx,hc21,Bool.and_false]<;>rfl) ?_;exact at_ (k+1) ⟨(by omega),(by omega)⟩
 .
  obtain rfl:k=W.length:=by omega
  rw[bN];refine cl J (QD (b:=W.any acc) (c:=W.all acc)) J<|?_;exact rz J (by rw[hcl];rfl)
def HP{C:aA}{n:Nat}{Q0:Exit->Act->World->Prop}{fr:ao}{own:aB}{ops:Array Oper}{r:List Oper}{K:List Kt}(k:Nat){d:DV}{pv:Value}(hl:aD fr k=some (.d (.v pv)))(hp:Is GB d pv)(h:ak prog GB C n Q0 ((k, .d d)::fr) own (.ops ops r K)):ak prog GB C n Q0 fr own (.ops ops r K):=by
 refine⟨fun ρ G ov a w r0=>?_⟩;obtain⟨y,hy,hy'⟩:=r0.fx k _ hl;obtain rfl:=(bc (G:=G)).1 hy';refine h.run ρ G ov a w ⟨r0.gb,r0.h,r0.sz,r0.df,fun j f e=>?_,r0.bx,r0.dj,r0.fxd⟩;rw[gi] at e;split at e
 ·rename_i hj
  cases e;subst hj
  exact⟨y,hy,hp.up r0.gb⟩
 ·exact r0.fx j f e
def Ju{E:List aI}(hE: ∀f∈E,FE f)(hn:E.length<=100000){fill:Int}{q:aa}{i:Nat}[hq:aw q i](hi:i<=80000):PF GB prog 108 [eZ q, .pt [vI fill], .pt [.sl (E.map b6)]] (vB (mz fill (eo E q))):=by
 refine fn (fu:=⟨3⟩) func108 J J ntmps108 J J (fun C=>?_);refine sE 1 J<|sE 2 J<|gx J<|cl J (Dz hE (by omega) (p:=q) (i:=i) (by omega)) J<|cl J (OK (fill:=fill) (n:=eo E q)) J<|?_;exact rz J J
def Mf{rs:List (List ZP)}(h: ∀r∈rs,gr r)(hn:rs.length<=200){fill:Int}(hfill:fill=1\/fill=2){p:aa}{i:Nat}[hp:aw p i](hi:i<=20000):PF GB prog 37 [.sl (rs.map ic),vI fill,gh p] (.tp [vI (u6 (ck rs) p fun q=>mz fill (eo (ck rs) q)), .v .nilIface]):=by
 have hel:=uI h hn;have hfe:=yi fun r hr=>(h r hr).ok;refine fn func37 J J ntmps37 J J (fun C=>?_);refine cl (fu:=⟨13⟩) J (tG h hn) J<|fq J J J<|?_;refine cs (fu2:=⟨12⟩) 23 J J J (fun hg23=>?_) (fun hg23=>?_)
 .
  refine br (fu2:=⟨5⟩) J J J (fun hc20=>?_) (fun hc20=>?_)
  .
   exact absurd hfill (by omega)
  .
   refine fz 4 J J<|fz 8 J J ?_;refine tg 4 J (fun GB1 pv1 hg1 hp1=>?_);refine tg 8 J (fun GB2 pv2 hg2 hp2=>?_);refine KA (fu:=⟨0⟩) J J ?_;refine HP 8 J hp2<|sE 8 J<|gx J ?_;refine cl J (sG (p:=p) (i:=i) (by omega)) J ?_;refine cl J (J' hfe (by omega) (p:=p) (i:=i) (by omega) (f:=108) (c2:=[pv1,pv2]) (ds2:=[.pt [vI fill], .pt [.sl ((ck rs).map b6)]]) (.cons (hp1.up hg2) (.cons hp2 (cp.2 J))) (acc:=fun q=>mz fill (eo (ck rs) q)) (fun q hq=>Ju hfe (by omega) (by decide))) J ?_;exact rz J J
 .
  refine fz 4 J J<|fz 8 J J ?_;refine tg 4 J (fun GB1 pv1 hg1 hp1=>?_);refine tg 8 J (fun GB2 pv2 hg2 hp2=>?_);refine KA (fu:=⟨0⟩) J J ?_;refine HP 8 J hp2<|sE 8 J<|gx J ?_;refine cl J (sG (p:=p) (i:=i) (by omega)) J ?_;refine cl J (J' hfe (by omega) (p:=p) (i:=i) (by omega) (f:=108) (c2:=[pv1,pv2]) (ds2:=[.pt [vI fill], .pt [.sl ((ck rs).map b6)]]) (.cons (hp1.up hg2) (.cons hp2 (cp.2 J))) (acc:=fun q=>mz fill (eo (ck rs) q)) (fun q hq=>Ju hfe (by omega) (by decide))) J ?_;exact rz J J
def qc:List ZP:=m9 0 0 2 2
def GU: ∀r∈[qc],gr r:=fun r hr=>by
 rw[aN.1 hr];exact⟨GX (by decide) (by decide) (by decide) (by decide) (by decide) (by decide),by decide+kernel⟩
def LA:ma [qc] (iP 1 1)=false:=by decide+kernel
def Q7:eo (ck [qc]) (iP 1 1)=1:=by decide+kernel
def LZ:u6 (ck [qc]) (iP 1 0) (fun q=>mz 2 (eo (ck [qc]) q))=1:=by decide+kernel
theorem Qq: ∀p∈[iP 0 0,iP 2 0,iP 2 2,iP 0 2],aw p 1200:=fun p hp=>by
 simp only[aR,kZ,or_false] at hp;rcases hp with rfl|rfl|rfl|rfl<;>exact⟨BQ.int1200 (by decide),BQ.int1200 (by decide)⟩
def HA:PF GB prog 38 [] (.v (.bool true)):=by
 haveI:aw (iP 1 1) 22:=⟨fC (by decide),fC (by decide)⟩;haveI:aw (iP 1 0) 22:=⟨fC (by decide),fC (by decide)⟩;refine fn func38 J J ntmps38 J J (fun C=>?_);refine cl J (ja (m:=0) (n:=0) (by decide) (by decide)) J<|cl J (ja (m:=2) (n:=0) (by decide) (by decide)) J<|cl J (ja (m:=2) (n:=2) (by decide) (by decide)) J<|?_;refine cl J (ja (m:=0) (n:=2) (by decide) (by decide)) J<|rf (fu:=⟨0⟩) J J<|?_;refine aj 10 (.d (.sl ([iP 0 0,iP 2 0,iP 2 2,iP 0 2].map eP))) J J ?_;refine gx J<|cl J (El (ps:=[iP 0 0,iP 2 0,iP 2 2,iP 0 2]) Qq (by decide)) J<|rf (fu:=⟨0⟩) J J<|?_;refine aj 12 (.d (.sl ([qc].map ic))) J J ?_;refine gx J<|cl J (Jq (m:=1) (n:=1) (by decide) (by decide)) J<|cl (fu:=⟨0⟩) J (JV (rs:=[qc]) GU (by decide) (p:=iP 1 1) (i:=22) LA (by decide)) J<|?_;refine aj 16 (.d (.tp [vI 1, .v .nilIface])) J (by rw[Q7]) ?_;refine gx J<|cl J (Jq (m:=1) (n:=0) (by decide) (by decide)) J<|cl (fu:=⟨0⟩) J (Mf (rs:=[qc]) GU (by decide) (fill:=2) (.inr J) (p:=iP 1 0) (i:=22) (by decide)) J<|?_;refine aj 22 (.d (.tp [vI 1, .v .nilIface])) J (by rw[LZ]) ?_;refine gx (fu:=⟨10⟩) J<|iB (fu:=⟨2⟩) J J J<|iB (fu:=⟨3⟩) J J J<|iB (fu:=⟨3⟩) J J J<|iB J J J<|?_;exact rz J J
structure Wn (r:List ZP):Prop where
 ok:dt r
 cen: ∃c:aa,∀f∈mA r,0<fh f.1 f.2 c
 one: ∀p,(∀f∈mA r,0<fh f.1 f.2 p)->f9 r p=1
 zer: ∀p,(∃f∈mA r,fh f.1 f.2 p<0)->f9 r p=0
 cvx: ∀f∈mA r,∀g∈mA r,0<=fh f.1 f.2 g.1/\0<=fh f.1 f.2 g.2
 onE: ∀p,(∀f∈mA r,0<=fh f.1 f.2 p)-> ∀f∈mA r,fh f.1 f.2 p=0->qj f.1 f.2 p
section
variable {r:List ZP} {p:aa}
def Lo{a b x:aa}(h:qj a b x):fh a b x=0:=by
 obtain⟨s,_,_,rfl⟩:=h;unfold fh kg;dsimp only;grind
end
def wS(x y O:Rat):Int:=(if x<=0/\ ¬y<=0/\0<O then 1 else 0)-(if¬x<=0/\y<=0/\O<0 then 1 else 0)
def Li(r:List ZP)(p:aa):Nat->Bool
 |0=>true
 |k+1=>Li r p k&&decide (0<=oz (r.getD k (0,0)).q (dF r k).q p)
def Nt(r:List ZP)(p:aa):Nat->Bool
 |0=>false
 |k+1=>Nt r p k||decide (oz (r.getD k (0,0)).q (dF r k).q p=0)
def Sq{r:List ZP}{P:aa×aa->Prop}:(∃f∈mA r,P f)↔ ∃k,k<r.length/\P ((r.getD k (0,0)).q,(dF r k).q):=by
 constructor
 ·rintro ⟨f,hf,h⟩
  obtain⟨k,hk,rfl⟩:=bY.1 hf;exact⟨k,iX.1 hk,h⟩
 ·rintro ⟨k,hk,h⟩
  exact⟨_,bY.2 ⟨k,iX.2 hk,J⟩,h⟩
def Lw{rs:List (List ZP)}(hr: ∀r∈rs,dt r)(p:aa):ma rs p=true↔ ∃f∈ER rs,qj f.1 f.2 p:=by
 unfold ma;rw[jJ];constructor
 ·rintro ⟨f,hf,h⟩
  obtain⟨v,w,h1,h2,rfl,h4⟩:=Ld hr hf;exact⟨_,h4,(Hc h1 h2).1 h⟩
 ·rintro ⟨f,hf,h⟩
  obtain⟨v,w,h1,h2,h3,rfl⟩:=PS hr hf;exact⟨_,h3,(Hc h1 h2).2 h⟩
def S0{a:aa}{t:List aa}:jC (a::t) a=((0:Nat):Int):=w4 (k:=0) (q:=a) J J ⟨J,J⟩
def Lz{a b c:aa}{t:List aa}(h1:a≠b)(h2:a≠c)(h3:b≠c):3<=dz (a::b::c::t) (a::b::c::t).length:=by
 have ne: ∀{x y:aa},x≠y->(!decide (x.x=y.x/\x.y=y.y))=true:=fun{x y} h=>by
  rw[decide_eq_false (fun k=>h (by cases x;cases y;simp only[aa.mk.injEq] at*;exact k))];rfl
 have e0:=vM (l:=a::b::c::t) (k:=0) (p:=a) J S0;have e1:=vM (l:=a::b::c::t) (k:=1) (p:=b) J (w4 (k:=1) (q:=b) J (by simp only[List.take,List.all_cons,List.all_nil,Bool.and_true,ne h1]) ⟨J,J⟩);have e2:=vM (l:=a::b::c::t) (k:=2) (p:=c) J (w4 (k:=2) (q:=c) J (by simp only[List.take,List.all_cons,List.all_nil,Bool.and_true,ne h2,ne h3]) ⟨J,J⟩);have mono: ∀n m,n<=m->dz (a::b::c::t) n<=dz (a::b::c::t) m:=by
  intro n m h
  induction m with
  |zero=>rw[show n=0 by omega];exact aS _
  |succ m ih=>
   by_cases k:n=m+1
   ·rw[k];exact aS _
   ·exact fQ (ih (by omega)) Jd
 have:=mono 3 (a::b::c::t).length (by simp);have z:dz (a::b::c::t) 0=0:=J;rw[dV] at e0;rw[show 1+1=2 from J] at e1;rw[show 2+1=3 from J] at e2;omega
def Dl{a b c:ZP}{t:List ZP}(ho:dt (a::b::c::t))(h1:a≠b)(h2:a≠c)(h3:b≠c):gr (a::b::c::t):=
 ⟨ho,Lz (t:=t.map ZP.q) (fun e=>h1 (qA e)) (fun e=>h2 (qA e)) (fun e=>h3 (qA e))⟩
def Q2{a b c d:Int}(ho:dt (m9 a b c d))(h1:a<c)(h2:b<d):gr (m9 a b c d):=
 Dl ho (fun e=>by have:=congrArg Prod.fst e;dsimp only at this;omega) (fun e=>by have:=congrArg Prod.fst e;dsimp only at this;omega) (fun e=>by have:=congrArg Prod.snd e;dsimp only at this;omega)
def Oi{p u v:ZP}(ho:dt (mn p u v))(h:mF u v≠0):gr (mn p u v):=by
 have hu: ∀{a b:ZP},(a=(0,0)\/b=(0,0)\/a=b)->mF a b=0:=fun{a b} k=>by
  unfold mF;rcases k with rfl|rfl|rfl
  ·simp
  ·simp
  ·rw[Int.mul_comm];omega
 refine Dl ho (fun e=>h (hu (.inl ?_))) (fun e=>h (hu (.inr (.inl ?_)))) (fun e=>h (hu (.inr (.inr ?_))))
 ·have e1:=congrArg Prod.fst e
  have e2:=congrArg Prod.snd e;unfold q6 at e1 e2;dsimp only at e1 e2;exact Prod.ext (by dsimp only;omega) (by dsimp only;omega)
 ·have e1:=congrArg Prod.fst e
  have e2:=congrArg Prod.snd e;unfold q6 at e1 e2;dsimp only at e1 e2;exact Prod.ext (by dsimp only;omega) (by dsimp only;omega)
 ·have e1:=congrArg Prod.fst e
  have e2:=congrArg Prod.snd e;unfold q6 at e1 e2;dsimp only at e1 e2;exact Prod.ext (by omega) (by omega)
def Cq(n:Int)(d:Nat):Int:=n*zv false d
def P6(n:Int)(d:Nat):(Cq n d).natAbs=n.natAbs*d:=by unfold Cq;rw[gQ,mj]
instance BN.prx (n:Int) (d i j:Nat) [h:BI n i] [k:BN d j]:BN (Cq n d).natAbs (i+j):=⟨by rw[P6,dJ];exact lZ h.h k.h⟩
def Wx(S:List aa)(x:aa)(R:List aa)(k:Nat):List aa:=S.take k++x::(S.drop k++R)
def XM(S:List aa)(x:aa)(R:List aa)(m:Nat):List aa:=S.take m++x::x::(S.drop (m+1)++R)
def XF(t:Tr)(p:aa):Int:=if Rl t p then 2 else if R6 t p then 1 else 0
def VN(t:Tr)(p:aa)(V:List aa)(k:Nat):Bool:=(V.take k).any fun v=>(nP t p v).1
def Wv(t:Tr)(p:aa)(V:List aa)(k:Nat):Bool:=(V.take k).all fun v=>(nP t p v).1
def zi{l:List aa}{x:aa}(h:x∈l): ∃i:Nat,i<l.length/\jC l x=(i:Int)/\l.getD i ⟨0,0⟩=x:=by
 cases e:l.findIdx? (fun q=>decide (q.x=x.x/\q.y=x.y)) with
 |none=>
  rw[List.findIdx?_eq_none_iff] at e;have:=e x h;simp at this
 |some i=>
  have e0:=e;rw[List.findIdx?_eq_some_iff_getElem] at e;obtain⟨h1,h2,_⟩:=e;refine⟨i,h1,by unfold jC;rw[e0],?_⟩;have h3:=of_decide_eq_true h2;rw[aJ,aQ h1,gU];generalize l[i]=q at*
  cases q;cases x
  simp only[aa.mk.injEq] at*;exact h3
def KG(l:List aa): ∀n,dz l n=((List.range n).filter fun k=>decide (jC l (l.getD k ⟨0,0⟩)=((k:Nat):Int))).length
 |0=>rfl
 |n+1=>by
  rw[dz,List.range_succ,List.filter_append,bK,KG l n];congr 1;by_cases h:jC l (l.getD n ⟨0,0⟩)=((n:Nat):Int)
  ·rw[if_pos h];simp only[nS,decide_eq_true h,if_true];rfl
  ·rw[if_neg h];simp only[nS,decide_eq_false h];rfl
def UI{F:List Nat}{i j k:Nat}(hi:i∈F)(hj:j∈F)(hk:k∈F)(h1:i≠j)(h2:i≠k)(h3:j≠k):3<=F.length:=by
 match F with
 |[]=>cases hi
 |[a]=>simp at hi hj;omega
 |[a,b]=>simp at hi hj hk;omega
 |a::b::c::t=>simp
def N8{l:List aa}{a b c:aa}(ha:a∈l)(hb:b∈l)(hc:c∈l)(h1:a≠b)(h2:a≠c)(h3:b≠c):3<=dz l l.length:=by
 obtain⟨i,i1,i2,i3⟩:=zi ha;obtain⟨j,j1,j2,j3⟩:=zi hb;obtain⟨k,k1,k2,k3⟩:=zi hc;rw[KG];have mk: ∀{x:aa} {m:Nat},m<l.length->jC l x=(m:Int)->l.getD m ⟨0,0⟩=x->m∈(List.range l.length).filter fun k=>decide (jC l (l.getD k ⟨0,0⟩)=((k:Nat):Int)):=fun{x m} q1 q2 q3=>List.mem_filter.2 ⟨iX.2 q1,decide_eq_true (by rw[q3];exact q2)⟩;exact UI (mk i1 i2 i3) (mk j1 j2 j3) (mk k1 k2 k3) (fun e=>h1 (by rw[<-i3,<-j3,e])) (fun e=>h2 (by rw[<-i3,<-k3,e])) (fun e=>h3 (by rw[<-j3,<-k3,e]))
def w7{p q:ZP}:iF p q<0↔p.1<q.1\/(p.1=q.1/\p.2<q.2):=by
 unfold iF
 repeat' split
 all_goals (constructor<;>intro h<;>omega)
def QL{p q:ZP}:iF p q=0↔p.1=q.1/\p.2=q.2:=by
 unfold iF
 repeat' split
 all_goals (constructor<;>intro h<;>omega)
def CC{x y:ZP}: ∀{l:List ZP},y∈gI x l->y=x\/y∈l
 |[],h=>by simp[gI] at h;exact .inl h
 |u::t,h=>by
  rw[gI] at h;split at h
  ·rcases aR.1 h with rfl|h
   ·exact .inr aZ
   ·exact(CC h).imp id fun k=>aK _ k
  ·split at h
   ·exact .inr h
   ·rcases aR.1 h with rfl|h
    ·exact .inl J
    ·exact .inr h
def IA{x:ZP}: ∀{l:List ZP},l.Pairwise (fun a b=>iF a b<0)->(gI x l).Pairwise (fun a b=>iF a b<0)
 |[],_=>by simp[gI]
 |u::t,h=>by
  obtain⟨h1,h2⟩:=bU.1 h;rw[gI];split
  ·rename_i hu
   refine bU.2 ⟨fun y hy=>?_,IA h2⟩;rcases CC hy with rfl|hy
   ·exact hu
   ·exact h1 y hy
  ·split
   ·exact h
   ·rename_i k1 k2
    rw[w7] at k1;rw[QL] at k2;refine bU.2 ⟨fun y hy=>?_,h⟩;rw[w7];rcases aR.1 hy with rfl|hy
    ·omega
    ·have:=w7.1 (h1 y hy);omega
def Tv(l:List ZP):(kP l).Pairwise (fun a b=>iF a b<0)/\ ∀y∈kP l,y∈l:=by
 have key: ∀(l o:List ZP),o.Pairwise (fun a b=>iF a b<0)->(l.foldl (fun out x=>gI x out) o).Pairwise (fun a b=>iF a b<0)/\ ∀y∈l.foldl (fun out x=>gI x out) o,y∈l\/y∈o:=by
  intro l
  induction l with
  |nil=>intro o ho;exact⟨ho,fun y hy=> .inr hy⟩
  |cons x t ih=>
   intro o ho;obtain⟨i1,i2⟩:=ih (gI x o) (IA ho);refine⟨i1,fun y hy=>?_⟩;rcases i2 y hy with h|h
   ·exact .inl (aK _ h)
   ·rcases CC h with rfl|h
    ·exact .inl aZ
    ·exact .inr h
 obtain⟨k1,k2⟩:=key l [] .nil;exact⟨k1,fun y hy=>(k2 y hy).resolve_right (by simp)⟩
def U4{r:List ZP}(ho:dt r)(h:3<=(kP r).length):gr r:=by
 refine⟨ho,?_⟩;obtain⟨k1,k2⟩:=Tv r
 match hs:kP r with
 |[]=>rw[hs] at h;simp at h
 |[a]=>rw[hs] at h;simp at h
 |[a,b]=>rw[hs] at h;simp at h
 |a::b::c::t=>
  rw[hs] at k1 k2;obtain⟨p1,p2⟩:=bU.1 k1;obtain⟨p3,_⟩:=bU.1 p2;have ne: ∀{x y:ZP},iF x y<0->x.q≠y.q:=fun{x y} q e=>by
   have:=qA e;subst this;have:=w7.1 q;omega
  exact N8 (mK (k2 a (by simp))) (mK (k2 b (by simp))) (mK (k2 c (by simp))) (ne (p1 b (by simp))) (ne (p1 c (by simp))) (ne (p3 c (by simp)))
def E5{es:List Int}{a:Nat}(ha:a<=es.length):gr (kI es a).1:=by
 have hok:=(Ak ha).1;unfold kI at*;dsimp only at*;split
 ·exact Dl EU (by decide) (by decide) (by decide)
 ·rename_i h
  rw[if_neg h] at hok;exact U4 hok (by omega)
def Me{es:List Int}{a:Nat}(ha:a<=es.length):gr (fg es a).1:=by
 have hok:=(CG ha).1;have h0:=fH (n:=4) ha;unfold fg at*;dsimp only at*;split
 ·rename_i h
  rw[if_pos h] at hok;unfold uV at*;dsimp only at*;exact Q2 hok (by omega) (by omega)
 ·rename_i h
  rw[if_neg h] at hok;split
  ·rename_i k
   rw[if_pos k] at hok;obtain⟨p1,p2,p3⟩:=qp h0;obtain⟨u1,u2,u3,u4⟩:=te p3;obtain⟨v1,v2,v3,v4⟩:=te u4;split
   ·rename_i hc
    rw[if_pos hc] at hok;exact Oi hok hc
   ·exact E5 v4
  ·exact E5 h0
structure Be (GB:Gh) (ar:Addr):Prop where
 ErrRange:GB 2=some [.iface 499 (.pointer (some ar))]
def Vr{ar:Addr}(hE:Be GB ar){rs:List (List ZP)}(h: ∀r∈rs,gr r)(hn:rs.length<=200){p:aa}{i:Nat}[hp:aw p i](hno:ma rs p=true)(hi:i<=100000:=by decide):PF GB prog 50 [.sl (rs.map ic),gh p] (.tp [vI 0,qh ar]):=by
 have hel:=uI h hn;have hfe:=yi fun r hr=>(h r hr).ok;refine fn func50 J J ntmps50 J J (fun C=>?_);refine cl J (tG h hn) J<|cl (fu:=⟨9⟩) J (sG (p:=p) (i:=i) (by omega)) J<|fq J J J<|cl (fu:=⟨0⟩) J (y4 (E:=ck rs) hfe (by omega) (p:=p) (i:=i) hi) J<|?_;refine aj 23 (.d (vB true)) J (by rw[show(ck rs).any (fun f=>ir f p)=true from hno]) ?_;refine ke 23 J ?_;refine gx J<|gl J hE.ErrRange J<|?_;exact rz J J
def TV{b:Nat}{es:List Int}(hes:es.length<=400){a:Nat}(ha:a<=es.length){p:aa}(hp:p=(nA es a).1):PM GB prog 36 (gv [none] b) b 126 [.sl (es.map vI), .v (.int .i64 (a:Nat))] (eP p) [.sl (es.map vI), .v (.int .i64 ((nA es a).2:Nat))]:=by
 subst hp;exact NF hes ha
def nI(es:List Int):Nat->Nat->List (List ZP)->List (List ZP)×Nat
 |0,a,out=>(out,a)
 |n+1,a,out=>nI es n (fg es a).2 (out++[(fg es a).1])
def lu(es:List Int)(m a:Nat):List (List ZP)×Nat:=nI es (aq es (m+1) a).1 (aq es (m+1) a).2 []
def EA{es:List Int}: ∀{n a:Nat} {out:List (List ZP)},a<=es.length->(∀r∈out,gr r)->(∀r∈(nI es n a out).1,gr r)/\(nI es n a out).1.length=out.length+n/\(nI es n a out).2<=es.length
 |0,a,out,ha,h=>⟨h,J,ha⟩
 |n+1,a,out,ha,h=>by
  have h1:=(CG ha).2;obtain⟨i1,i2,i3⟩:=EA (n:=n) (out:=out++[(fg es a).1]) h1 fun r hr=>by
   rcases dK.1 hr with hr|hr
   ·exact h r hr
   ·rw[aN.1 hr];exact Me ha
  exact⟨i1,by rw[nI,i2,bK];simp;omega,i3⟩
def Uy{es:List Int}{m a:Nat}(ha:a<=es.length):(∀r∈(lu es m a).1,gr r)/\(lu es m a).1.length<=m/\(lu es m a).2<=es.length:=by
 have h1:=iu (es:=es) (n:=m+1) (a:=a) (by omega);obtain⟨i1,i2,i3⟩:=EA (es:=es) (n:=(aq es (m+1) a).1) (out:=[]) (fH (n:=m+1) ha) (fun r hr=>by cases hr);exact⟨i1,by unfold lu;rw[i2];simp;omega,i3⟩
def NW{b:Nat}{es:List Int}(hes:es.length<=400){a:Nat}(ha:a<=es.length){md:Nat}(hmd:md<=100):PM GB prog 17 (gv [none,some (.v (.int .i64 (md:Nat)))] b) b 126 [.sl (es.map vI), .v (.int .i64 (a:Nat))] (.sl ((lu es md a).1.map gk)) [.sl (es.map vI), .v (.int .i64 ((lu es md a).2:Nat))]:=by
 have hj1:=iu (es:=es) (n:=md+1) (a:=a) (by omega);have hj2:=fH (n:=md+1) ha;refine qI func17 J J ntmps17 J J (fun C b m lo hmb=>?_);refine cm J (fun b=>(lz (n:=(md:Int)+1) hes ha (by omega) (by omega))) J<|?_;refine nr 5 5 62 1 J J J ?_;refine lp (X:=List (List ZP)×Nat×Nat) (fun⟨rs,i,b⟩=>[(6, .d (vI (i:Nat))),(5, .rw 5)]) (fun⟨rs,i,b⟩=>[(1000000,some (.o 126 [.d (.sl (es.map vI)), .d (.v (.int .i64 (b:Nat)))] false)),(5,some (.b 62 1 (rs.map gk) true))]) (fun⟨rs,i,b⟩=>nI es i b rs=lu es md a/\b<=es.length/\rs.length+i<=100) (fun⟨rs,i,b⟩=>i) ⟨[],(aq es (md+1) a).1,(aq es (md+1) a).2⟩ J ⟨J,hj2,by simp;omega⟩ (fun _=>J) (fun⟨rs,i,b⟩ hk=>?_)
 try dsimp only at hk⊢
 obtain⟨h1,h2,h3⟩:=hk;have hrl:(rs.map gk).length=rs.length:=by simp
 refine br (fu2:=⟨0⟩) J J J (fun hc12=>?_) (fun hc12=>?_)
 .
  obtain⟨j,rfl⟩: ∃j,i=j+1:=⟨i-1,by omega⟩;have hq:=(CG h2).2;refine cm J (fun b=>(Lb hes h2)) J<|rf J J<|ap ((rs++[(fg es b).1]).map gk) J (by rw[cX];rfl) (ES [_]) J<|?_;refine fA 19 5 J ?_;exact at_ ⟨rs++[(fg es b).1],j,(fg es b).2⟩ (by dsimp only;exact⟨⟨by rw[<-h1,nI],hq,by simp;omega⟩,(by omega)⟩)
 .
  obtain rfl:i=0:=by omega
  have hfin:lu es md a=(rs,b):=by rw[<-h1,nI]
  refine uq 5 J ?_;refine gx J<|?_;exact i5 hmb J J (by rw[hfin];rfl) (by rw[hfin])
def JJ(a b:aa)(s:Rat):(a.x-(kg a b s).x)*(b.x-(kg a b s).x)+(a.y-(kg a b s).y)*(b.y-(kg a b s).y)= -(s*(1-s))*((b.x-a.x)*(b.x-a.x)+(b.y-a.y)*(b.y-a.y)):=by
 unfold kg;dsimp only;grind
def Ss{a b p:aa}(hab:a≠b):qj a b p↔fh a b p=0/\(a.x-p.x)*(b.x-p.x)+(a.y-p.y)*(b.y-p.y)<=0:=by
 have hN:=SK (Sm hab);constructor
 ·intro h
  refine⟨Lo h,?_⟩;obtain⟨s,s0,s1,rfl⟩:=h;rw[JJ];have h1:=lx s0 (show 0<=1-s by grind);have h2:=lx h1 (qR hN);grind
 ·rintro ⟨h1,h2⟩
  obtain⟨dx,hdx⟩: ∃dx,dx=b.x-a.x:=⟨_,rfl⟩;obtain⟨dy,hdy⟩: ∃dy,dy=b.y-a.y:=⟨_,rfl⟩;obtain⟨T,hT⟩: ∃T,T=(p.x-a.x)*dx+(p.y-a.y)*dy:=⟨_,rfl⟩;unfold fh at h1;rw[<-hdx,<-hdy] at h1 hN;have e1:(p.x-a.x)*(dx*dx+dy*dy)=T*dx:=by rw[hT];grind
  have e2:(p.y-a.y)*(dx*dx+dy*dy)=T*dy:=by rw[hT];grind
  have eT:T/(dx*dx+dy*dy)*(dx*dx+dy*dy)=T:=Fa (by grind);have ep:p=kg a b (T/(dx*dx+dy*dy)):=by
   unfold kg;rw[<-hdx,<-hdy];generalize dx*dx+dy*dy=N at*;generalize T/N=q at*;have n0:N≠0:=by grind
   have f1:N*(p.x-(a.x+q*dx))=0:=by grind
   have f2:N*(p.y-(a.y+q*dy))=0:=by grind
   have g1:=(oR.1 f1).resolve_left n0;have g2:=(oR.1 f2).resolve_left n0
   cases p
   simp only[aa.mk.injEq] at*;constructor<;>grind
  generalize T/(dx*dx+dy*dy)=s at*;rw[ep,JJ,<-hdx,<-hdy] at h2;have h3:=(y8 (s:=s*(1-s)) hN).1 (by grind);refine⟨s,?_,?_,ep⟩
  ·rcases tY s with k|k|k
   ·rw[k];exact Rat.le_refl
   ·exact qR k
   ·have:=fw (show 0< -s by grind) (show 0<1-s by grind);grind
  ·rcases tY (1-s) with k|k|k
   ·grind
   ·grind
   ·have:=fw (show 0<s by grind) (show 0< -(1-s) by grind);grind
def Ha{rs:List (List ZP)}(h: ∀r∈rs,gr r)(hn:rs.length<=200){p:aa}{i:Nat}[hp:aw p i](hi:i<=100000:=by decide):PF GB prog 51 [.sl (rs.map ic),gh p] (.tp [vB (ma rs p), .v .nilIface]):=by
 have hel:=uI h hn;have hfe:=yi fun r hr=>(h r hr).ok;refine fn func51 J J ntmps51 J J (fun C=>?_);refine cl (fu:=⟨10⟩) J (tG h hn) J<|iB J J J<|cl J (sG (p:=p) (i:=i) (by omega)) J<|cl J (y4 (E:=ck rs) hfe (by omega) (p:=p) (i:=i) hi) J<|?_;exact rz J J
def rJ(a b p:aa):Bool:=decide (oz a b p=0)&&decide ((aa.dot (cC a p (-1)) (cC b p (-1))).num.sign<=0)
def lv(r:List ZP)(p:aa):Bool:=(List.range r.length).any fun k=>rJ (r.getD k (0,0)).q (dF r k).q p
def IF{a b p:aa}(hab:a≠b):rJ a b p=true↔qj a b p:=by
 have e:aa.dot (cC a p (-1)) (cC b p (-1))=(a.x-p.x)*(b.x-p.x)+(a.y-p.y)*(b.y-p.y):=by unfold aa.dot cC;dsimp only;push_cast;grind
 unfold rJ;rw[bZ,decide_eq_true_eq,decide_eq_true_eq,KZ,qr,e,Ss hab,Nq];constructor<;>(rintro ⟨h1,h2⟩;exact⟨h1,by grind⟩)
def J9{r:List ZP}(h:dt r)(p:aa):lv r p=true↔ ∃f∈mA r,qj f.1 f.2 p:=by
 unfold lv;rw[jJ,Sq];constructor
 ·rintro ⟨k,hk,hb⟩
  have hk:=iX.1 hk;exact⟨k,hk,(IF fun e=>h.ne k hk (qA e)).1 hb⟩
 ·rintro ⟨k,hk,ho⟩
  exact⟨k,iX.2 hk,(IF fun e=>h.ne k hk (qA e)).2 ho⟩
def Fv{rs:List (List ZP)}(h: ∀r∈rs,dt r)(p:aa):ma rs p=rs.any fun r=>lv r p:=by
 rw[pN,Lw h,jJ];constructor
 ·rintro ⟨f,hf,ho⟩
  obtain⟨r,h1,h2⟩:=gL.1 hf;exact⟨r,h1,(J9 (h r h1) p).2 ⟨f,h2,ho⟩⟩
 ·rintro ⟨r,h1,h2⟩
  obtain⟨f,hf,ho⟩:=(J9 (h r h1) p).1 h2;exact⟨f,gL.2 ⟨r,h1,hf⟩,ho⟩
def Pe{a b p:aa}{i j:Nat}[ha:aw a i][hb:aw b i][hp:aw p j](hi:i<=20000:=by decide)(hj:j<=20000:=by decide):PF GB prog 233 [eP a,eP b,eP p] (vB (rJ a b p)):=by
 refine fn func233 J J ntmps233 J J (fun C=>?_);refine cl (fu:=⟨0⟩) J (Az (a:=a) (b:=b) (c:=p) (i:=i) (j:=i) (k:=j) (by omega) (by omega) (by omega)) J<|?_;refine oB (v2:=fun hg11=>by simp only[ah];kernel_rfl) J J J J (fun hg11=>?_) (fun hg11=>?_)
 .
  refine cl J (vS (p:=a) (q:=p) (i:=i) (j:=j) (by omega) (by omega)) J<|cl J (vS (p:=b) (q:=p) (i:=i) (j:=j) (by omega) (by omega)) J<|?_;refine cl J (Ar (p:=cC a p (-1)) (q:=cC b p (-1)) (i:=i+(2+j)+1) (j:=i+(2+j)+1) (by omega) (by omega)) J<|cl J wh J<|?_;exact rz J (by show DV.v (.bool _)= .v (.bool _);unfold rJ;simp_all)
 .
  exact rz J (by show DV.v (.bool _)= .v (.bool _);unfold rJ;simp_all)
def UA{g:Nat->Bool}{n k:Nat}(hk:k<n)(h:g k=true):(List.range n).any g=true:=jJ.2 ⟨k,iX.2 hk,h⟩
def Sk{g:Nat->Bool}{n:Nat}(h: ∀k,k<n->g k=false):(List.range n).any g=false:=by
 rw[pX];intro k hk;rw[h k (iX.1 hk)];decide
def DA{rs:List (List ZP)}{p:aa}{k:Nat}{r:List ZP}(h:rs[k]? =some r):(rs.take (k+1)).foldl (fun n r=>n+f9 r p) 0=(rs.take k).foldl (fun n r=>n+f9 r p) 0+f9 r p:=by
 rw[cJ,h,nV];rfl
def Ny{r:List ZP}(h:dt r){p:aa}{j:Nat}[hp:aw p j](hj:j<=20000:=by decide):PF GB prog 138 [.sl (r.map ew),eP p] (vB (lv r p)):=by
 have h6:=h.n6;have hml:(r.map ew).length=r.length:=aX ..;refine fn (fu:=⟨11⟩) func138 J J ntmps138 J J (fun C=>?_);refine aj 7 (.d (vI (r.length:Nat))) J (by rw[hml]<;>rfl) ?_;refine gx J<|?_;refine lp (X:=Nat) (fun k=>[(8, .d (vI (k:Nat)))]) (fun k=>[]) (fun k=>k<=r.length/\ ∀m,m<k->rJ (r.getD m (0,0)).q (dF r m).q p=false) (fun k=>r.length-k) 0 J ⟨bJ _,fun m hm=>by omega⟩ (fun _=>J) (fun k hk=>?_);obtain⟨hk,hno⟩:=hk;refine br J J J (fun hc9=>?_) (fun hc9=>?_)
 .
  haveI:=n9 (h.le _ (pD (show k<r.length by omega)));haveI:=n9 (h.le _ (rm (show k<r.length by omega)));refine ix (fu:=⟨6⟩) _ J (wU (show k<r.length by omega)) J<|?_;refine aj 19 (.d (vI (r.length:Nat))) J (by rw[hml]<;>rfl) ?_;refine gx (fu:=⟨1⟩) J<|?_;refine aj 20 (.d (vI (((k+1)%r.length:Nat):Int))) J J ?_;refine gx J<|ix _ J (Bt (show k<r.length by omega)) J<|cl J (Pe (a:=(r.getD k (0,0)).q) (b:=(dF r k).q) (p:=p) (i:=22) (j:=j) (by decide) hj) J<|?_;refine bb J J J (fun hc24=>?_) (fun hc24=>?_)
  .
   exact rz J (by unfold lv;rw[UA (show k<r.length by omega) hc24];rfl)
  .
   exact at_ (k+1) ⟨⟨by omega,fun m hm=>by by_cases e:m=k;(· subst e;exact hc24);exact hno m (by omega)⟩,(by omega)⟩
 .
  obtain rfl:k=r.length:=by omega
  exact rz J (by unfold lv;rw[Sk hno];rfl)
def PA{rs:List (List ZP)}(h: ∀r∈rs,dt r)(hn:rs.length<=100){p:aa}{j:Nat}[hp:aw p j](hj:j<=80000:=by decide):PF GB prog 56 [.sl (rs.map gk),eP p] (vI (rs.foldl (fun n r=>n+f9 r p) 0)):=by
 have hml:(rs.map gk).length=rs.length:=aX ..;refine fn (fu:=⟨16⟩) func56 J J ntmps56 J J (fun C=>?_);refine aj 9 (.d (vI (rs.length:Nat))) J (by rw[hml]<;>rfl) ?_;refine gx J<|?_;refine lp (X:=Nat) (fun k=>[(10, .d (vI (k:Nat))),(5, .d (vI ((rs.take k).foldl (fun n r=>n+f9 r p) 0)))]) (fun k=>[]) (fun k=>k<=rs.length) (fun k=>rs.length-k) 0 J (bJ _) (fun _=>J) (fun k hk=>?_);have hw:=JR (p:=p) h k;refine br J J J (fun hc11=>?_) (fun hc11=>?_)
 .
  obtain⟨r,hx⟩: ∃u,rs[k]? =some u:=⟨_,aQ (by omega)⟩;have hw2:=JR (p:=p) h (k+1);rw[DA hx] at hw2;refine ix _ J (cO hx) J<|cl J (Py (r:=r) (p:=p) (i:=j) (h r (aU hx)) hj) J<|?_;refine aj 5 (.d (vI ((rs.take (k+1)).foldl (fun n r=>n+f9 r p) 0))) J (by rw[DA hx]<;>rfl) ?_;exact at_ (k+1) ⟨(by omega),(by omega)⟩
 .
  obtain rfl:k=rs.length:=by omega
  rw[bN];exact rz J J
def GZ{rs:List (List ZP)}(h: ∀r∈rs,dt r)(hn:rs.length<=100){p:aa}{j:Nat}[hp:aw p j](hj:j<=20000:=by decide):PF GB prog 53 [.sl (rs.map gk),eP p] (vB (rs.any fun r=>lv r p)):=by
 have hml:(rs.map gk).length=rs.length:=aX ..;refine fn (fu:=⟨11⟩) func53 J J ntmps53 J J (fun C=>?_);refine aj 8 (.d (vI (rs.length:Nat))) J (by rw[hml]<;>rfl) ?_;refine gx J<|?_;refine lp (X:=Nat) (fun k=>[(9, .d (vI (k:Nat)))]) (fun k=>[]) (fun k=>k<=rs.length/\(rs.take k).any (fun r=>lv r p)=false) (fun k=>rs.length-k) 0 J ⟨bJ _,J⟩ (fun _=>J) (fun k hk=>?_);obtain⟨hk,hany⟩:=hk;refine br J J J (fun hc10=>?_) (fun hc10=>?_)
 .
  obtain⟨r,hx⟩: ∃u,rs[k]? =some u:=⟨_,aQ (by omega)⟩;refine ix _ J (cO hx) J<|cl J (Ny (r:=r) (h r (aU hx)) (p:=p) (j:=j) hj) J<|?_;refine bb J J J (fun hc15=>?_) (fun hc15=>?_)
  .
   exact rz J (by rw[Ip (g:=fun r=>lv r p) hx hc15];rfl)
  .
   exact at_ (k+1) ⟨⟨by omega,by rw[EY (g:=fun r=>lv r p) hx hany];exact hc15⟩,(by omega)⟩
 .
  obtain rfl:k=rs.length:=by omega
  rw[bN] at hany;exact rz J (by rw[hany];rfl)
section
variable {GB:Gh} {C:aA} {n:Nat} {Q0:Exit->Act->World->Prop} {fr fr':ao} {own own':aB} {cf cf':Cf} {vc:List Prop} {lk:LK} {bk:BM}
variable {dst:Option Nat} {t t' ty':TypeId} {pos:String} {af:Array Edge} {gd:Option (Nat×Bool)} {x y:Operand}
def VZ(fr:ao)(cf:Cf):Option (List DV):=match bw fr cf with
 |some ⟨_, .binOp .eql t x (.const (.slice none _ _)) _,_,_,_,_⟩=>match cd tt t with
  |some ⟨.sl _ _ _,_,_,_⟩=>match aC (ba fr cf) x with
   |some (.d (.sl l))=>some l
   |_=>none
  |_=>none
 |_=>none
def Wr(GB:Gh)(P:Program)(f:FuncId)(s off m:Nat)(ty:TypeId)(dsi dso:List DV):Prop:=
 ∀G w b c B,bg GB G->cD G ⟨w,s,ty,dsi,false⟩ B->w.a=some ⟨b,0,none⟩->m<=c->j' P f [.slice (some ⟨b,off*s,none⟩) m c] B G (fun v own' G'=>Is G' (.tp []) v/\cD G' ⟨w,s,ty,dso,false⟩ own')
structure CV where
 f:FuncId
 nm:Nat
 s:Nat
 off:Nat
 m:Nat
 ty:TypeId
 ds:List DV
 lo:Bool
def Wm(fr:ao)(own:aB)(cf:Cf):Option CV:=match bw fr cf with
 |some ⟨_, .call ⟨.value fo,⟨[x]⟩,_⟩,_,_,_,_⟩=>match aC (ba fr cf) fo with
  |some (.d (.v (.func (.func f) ⟨[]⟩ ⟨[]⟩)))=>match aC (ba fr cf) x with
   |some (.rs nm s off m)=>match eG fr own cf nm with
    |some (.b ty s' ds lo)=>bif Nat.beq s s' then some ⟨f,nm,s,off,m,ty,ds,lo⟩ else none
    |_=>none
   |_=>none
  |_=>none
 |_=>none
end

def VL(r:List ZP):List ZP:=r.take 1++(r.drop 1).reverse
section
variable {r:List ZP} {p:aa} {L:List ab}
end
end Go.Sx
end
section
namespace Go.Proofs
open Go.Shelf
def Tryz.RevPt_ren:Go.Shelf.Ren:=⟨fun|35=>104|n=>n,fun|22=>132|23=>141|3=>3|4=>4|0=>0|n=>n,fun|n=>n⟩
end Go.Proofs
end
section
namespace Go.Sx
open Go Go.Proofs

def HF:Go.Sort.SWO (Go.Proofs.ltOf bv):=by
 have e: ∀x y,Go.Proofs.ltOf bv x y=true↔bv x y<0:=fun x y=>by simp[Go.Proofs.ltOf]
 have e2: ∀x y,Go.Proofs.ltOf bv x y=false↔ ¬bv x y<0:=fun x y=>by rw[<-e];simp
 refine⟨fun x=>(e2 x x).2 ?_,fun x y z h k=>(e x z).2 ?_,fun x y z h k=>(e2 x z).2 ?_⟩
 ·rw[oo];omega
 ·have h:=(e x y).1 h
  have k:=(e y z).1 k;rw[oo] at*;omega
 ·have h:=(e2 x y).1 h
  have k:=(e2 y z).1 k;rw[oo] at*;omega
def ik(x:ab):List ab->List ab
 |[]=>[]
 |y::l=>if y=x then ik y l else y::ik y l
def mh:List ab->List ab
 |[]=>[]
 |x::l=>x::ik x l
def Hf: ∀{l m:List ab},l.Pairwise (fun a b=>bv a b<0)->m.Pairwise (fun a b=>bv a b<0)->(∀x,x∈l↔x∈m)->l=m
 |[],[],_,_,_=>rfl
 |[],b::m,_,_,h=>absurd ((h b).2 aZ) (by simp)
 |a::l,[],_,_,h=>absurd ((h a).1 aZ) (by simp)
 |a::l,b::m,h1,h2,h=>by
  have ay: ∀{u v:ab},bv u v<0->bv v u<0->False:=fun h k=>by rw[oo] at*;omega
  obtain⟨p1,p2⟩:=bU.1 h1;obtain⟨q1,q2⟩:=bU.1 h2;have e:a=b:=by
   rcases aR.1 ((h a).1 aZ) with e|e
   ·exact e
   ·rcases aR.1 ((h b).2 aZ) with f|f
    ·exact f.symm
    ·exact(ay (q1 a e) (p1 b f)).elim
  subst e;congr 1;refine Hf p2 q2 fun x=>⟨fun hx=>?_,fun hx=>?_⟩
  ·rcases aR.1 ((h x).1 (aK _ hx)) with e|e
   ·subst e;exact(ay (p1 _ hx) (p1 _ hx)).elim
   ·exact e
  ·rcases aR.1 ((h x).2 (aK _ hx)) with e|e
   ·subst e;exact(ay (q1 _ hx) (q1 _ hx)).elim
   ·exact e
def Uv{x z:ab}(h: ¬bv z x<0)(k:z≠x):bv x z<0:=by
 have k: ¬bv z x=0:=fun e=>k ((CI z x).1 e);rw[Cv] at k;rw[oo] at*;omega
def J2: ∀{l:List ab} {x:ab},(x::l).Pairwise (fun a b=> ¬bv b a<0)->(ik x l).Pairwise (fun a b=>bv a b<0)/\(∀y∈ik x l,bv x y<0)/\ ∀y,y∈x::ik x l↔y∈x::l
 |[],_,_=>⟨.nil,(fun y hy=>by cases hy),fun _=>Iff.rfl⟩
 |z::l,x,h=>by
  obtain⟨p1,p2⟩:=bU.1 h;obtain⟨i1,i2,i3⟩:=J2 p2;rw[ik];by_cases e:z=x
  ·rw[if_pos e]
   subst e;exact⟨i1,i2,fun y=>by rw[i3];simp⟩
  ·rw[if_neg e]
   have hb:bv x z<0:=Uv (p1 z aZ) e;refine⟨bU.2 ⟨i2,i1⟩,fun y hy=>?_,fun y=>?_⟩
   ·rcases aR.1 hy with rfl|hy
    ·exact hb
    ·have:=i2 y hy
     rw[oo] at*;omega
   ·rw[aR,i3,aR (b:=x) (l:=z::l)]
def HV: ∀(l:List ab) (x:ab),(ik x l).length<=l.length
 |[],_=>aS _
 |y::l,x=>by
  have:=HV l y;rw[ik];split<;>simp only[bL]<;>omega
def Ei(l:List ab):(mh l).length<=l.length:=by
 cases l with
 |nil=>exact aS _
 |cons x l=>have:=HV l x;simp only[mh,bL];omega
def FA(ls:List ab):mh (fk bv (ls.map ab.canon))=jr ls:=by
 have hm: ∀y,y∈fk bv (ls.map ab.canon)↔y∈ls.map ab.canon:=fun y=>(ol bv _).mem_iff;have h1:=Bu HF (ls.map ab.canon);have hc:(mh (fk bv (ls.map ab.canon))).Pairwise (fun a b=>bv a b<0)/\ ∀y,y∈mh (fk bv (ls.map ab.canon))↔y∈fk bv (ls.map ab.canon):=by
  generalize fk bv (ls.map ab.canon)=l at*
  cases l with
  |nil=>exact⟨.nil,fun _=>Iff.rfl⟩
  |cons x l=>
   obtain⟨i1,i2,i3⟩:=J2 h1;exact⟨bU.2 ⟨i2,i1⟩,i3⟩
 refine Hf hc.1 (UL ls) fun x=>?_;rw[hc.2,hm];constructor
 ·intro h
  obtain⟨l,hl,rfl⟩:=bY.1 h;exact Th hl
 ·intro h
  obtain⟨l,hl,rfl⟩:=B5 h;exact mK hl
def xY{l:List ab}{k:Nat}{x y:ab}(h:l[k]? =some y):ik x (l.drop k)=if y=x then ik y (l.drop (k+1)) else y::ik y (l.drop (k+1)):=by
 obtain⟨h1,h2⟩:=aL.1 h;rw[bS h1,h2,ik]
def OM{l:List ab}(h:l.length<2):mh l=l:=by
 cases l with
 |nil=>rfl
 |cons x l=>cases l with
  |nil=>rfl
  |cons y l=>simp at h;omega
def N0{l:List ab}{x:ab}(h:l[0]? =some x):mh l=l.take 1++ik x (l.drop 1):=by
 cases l with
 |nil=>cases h
 |cons y l=>cases h;rfl
end Go.Sx
end
section
namespace Go.Proofs
open Go.Shelf
def Tryz.SortLn_ren:Go.Shelf.Ren:=⟨fun|6=>133|15=>231|14=>230|28=>332|29=>333|20=>324|21=>325|22=>326|23=>327|24=>328|25=>329|26=>330|27=>331|46=>371|47=>372|48=>373|49=>374|50=>375|57=>399|n=>n,fun|22=>171|24=>218|25=>226|3=>3|39=>355|0=>0|53=>366|55=>251|4=>4|46=>429|45=>428|50=>391|5=>5|9=>9|66=>467|70=>471|76=>486|77=>487|n=>n,fun|n=>n⟩
def Tryz.SortLn:Go.Proofs.SlLaysF0.n6 Tryz.prog Tryz.SortLn_ren:={
 mixed:=by kernel_rfl
 f6:=⟨Tryz.f133.name,by decide,Tryz.func133.trans (congrArg some (by kernel_rfl))⟩
 f14:=⟨Tryz.f230.name,by decide,Tryz.func230.trans (congrArg some (by kernel_rfl))⟩
 f15:=Tryz.func231.trans (congrArg some (by kernel_rfl))
 f20:=⟨Tryz.f324.name,by decide,Tryz.func324.trans (congrArg some (by kernel_rfl))⟩
 f21:=⟨Tryz.f325.name,by decide,Tryz.func325.trans (congrArg some (by kernel_rfl))⟩
 f22:=⟨Tryz.f326.name,by decide,Tryz.func326.trans (congrArg some (by kernel_rfl))⟩
 f23:=⟨Tryz.f327.name,by decide,Tryz.func327.trans (congrArg some (by kernel_rfl))⟩
 f24:=⟨Tryz.f328.name,by decide,Tryz.func328.trans (congrArg some (by kernel_rfl))⟩
 f25:=⟨Tryz.f329.name,by decide,Tryz.func329.trans (congrArg some (by kernel_rfl))⟩
 f26:=⟨Tryz.f330.name,by decide,Tryz.func330.trans (congrArg some (by kernel_rfl))⟩
 f27:=⟨Tryz.f331.name,by decide,Tryz.func331.trans (congrArg some (by kernel_rfl))⟩
 f28:=Tryz.func332.trans (congrArg some (by kernel_rfl))
 f29:=Tryz.func333.trans (congrArg some (by kernel_rfl))
 f46:=⟨Tryz.f371.name,by decide,Tryz.func371.trans (congrArg some (by kernel_rfl))⟩
 f47:=Tryz.func372.trans (congrArg some (by kernel_rfl))
 f48:=Tryz.func373.trans (congrArg some (by kernel_rfl))
 f49:=⟨Tryz.f374.name,by decide,Tryz.func374.trans (congrArg some (by kernel_rfl))⟩
 f50:=⟨Tryz.f375.name,by decide,Tryz.func375.trans (congrArg some (by kernel_rfl))⟩
 f57:=⟨Tryz.f399.name,by decide,Tryz.func399.trans (congrArg some (by kernel_rfl))⟩
 t0:=Tryz.underlying0
 a0:=Tryz.isAgg0
 z0:=Tryz.sizeOf0
 v0:=Tryz.zeroValue0
 t3:=Tryz.underlying3
 a3:=Tryz.isAgg3
 z3:=Tryz.sizeOf3
 v3:=Tryz.zeroValue3
 t4:=Tryz.underlying4
 a4:=Tryz.isAgg4
 z4:=Tryz.sizeOf4
 v4:=Tryz.zeroValue4
 t5:=Tryz.underlying5
 a5:=Tryz.isAgg5
 z5:=Tryz.sizeOf5
 v5:=Tryz.zeroValue5
 t9:=Tryz.underlying9
 a9:=Tryz.isAgg9
 z9:=Tryz.sizeOf9
 v9:=Tryz.zeroValue9
 t22:=Tryz.underlying171
 a22:=Tryz.isAgg171
 z22:=Tryz.sizeOf171
 v22:=Tryz.zeroValue171
 t25:=Tryz.underlying226
 a25:=Tryz.isAgg226
 z25:=Tryz.sizeOf226
 v25:=Tryz.zeroValue226
 t39:=Tryz.underlying355
 a39:=Tryz.isAgg355
 z39:=Tryz.sizeOf355
 v39:=Tryz.zeroValue355
 t45:=Tryz.underlying428
 a45:=Tryz.isAgg428
 z45:=Tryz.sizeOf428
 v45:=Tryz.zeroValue428
 t46:=Tryz.underlying429
 a46:=Tryz.isAgg429
 z46:=Tryz.sizeOf429
 v46:=Tryz.zeroValue429
 t50:=Tryz.underlying391
 a50:=Tryz.isAgg391
 z50:=Tryz.sizeOf391
 v50:=Tryz.zeroValue391
 t53:=Tryz.underlying366
 a53:=Tryz.isAgg366
 z53:=Tryz.sizeOf366
 v53:=Tryz.zeroValue366
 t55:=Tryz.underlying251
 a55:=Tryz.isAgg251
 z55:=Tryz.sizeOf251
 v55:=Tryz.zeroValue251
 t66:=Tryz.underlying467
 a66:=Tryz.isAgg467
 z66:=Tryz.sizeOf467
 v66:=Tryz.zeroValue467
 t70:=Tryz.underlying471
 a70:=Tryz.isAgg471
 z70:=Tryz.sizeOf471
 v70:=Tryz.zeroValue471
 t76:=Tryz.underlying486
 a76:=Tryz.isAgg486
 z76:=Tryz.sizeOf486
 v76:=Tryz.zeroValue486
 t77:=Tryz.underlying487
 a77:=Tryz.isAgg487
 z77:=Tryz.sizeOf487
 v77:=Tryz.zeroValue487}
end Go.Proofs
end
