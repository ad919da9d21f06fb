import Derived.Test.YtochlbkonkgedaaGreatDoorQb20
import Derived.Shelf.SlicesQ.Reverse
import Derived.Test.YtochlbkonkgedaaGreatDoorProg
import Derived.Test.YtochlbkonkgedaaGreatDoorCards
import Derived.Test.YtochlbkonkgedaaGreatDoorTie
import Derived.WalkKit
import Derived.ProofKit
import Derived.OpenShut
import Derived.Deep.DeepHandedRow
import Derived.Deep.DeepWitnessRowRef
import Derived.LaidMore
import Derived.Lib.LaidTab
import Derived.SizedLaws
import Derived.Stop.LaidErr
import Derived.MakeChecks
set_option linter.all false
set_option maxHeartbeats 4000000
set_option maxRecDepth 100000
section
namespace Go.Sx
open Go Go.Proofs Tryz
variable {GB:Gh}
def xE{ds:List aa}{i:Nat}(hb: ∀d∈ds,aB d i)(hi:i<=10000000)(hn:ds.length<=10000000)(ht:yr ds):PW GB prog 127 [none,some (.v (.func (.func 128) #[] #[]))] 6 89 (ds.map eZ) (.tp []) ((pf cO ds).map eZ):=
 Ux (GB:=GB) Tryz.sortPt ⟨_,func127,J,J⟩ isAgg89 sizeOf89 eZ (fun d=>aB d i) (fun x=>⟨_,J,J,J⟩) cO LF ⟨_,func128,J,J⟩ (fun x y hx hy=>Li (i:=i) (j:=i) hi hi) hb (by omega)
  (fun x hx y hy h k=>ht x hx y hy (OE (by rw[<-ta];exact h) (by rw[<-ta];exact k)))
def xG{ds:List aa}{i:Nat}(hb: ∀d∈ds,aB d i)(hi:i<=10000000)(hn:ds.length<=10000000)(ht:yr ds):PB GB prog 80 (ij [none]) 6 89 (ds.map eZ) (fun w=> .v (.slice w.a w.n w.c)) ((gl ds).map eZ):=by
 have hsm: ∀d∈pf cO ds,aB d i:=fun d hd=>hb d ((zr cO ds).mem_iff.1 hd);have hsl:(pf cO ds).length=ds.length:=(zr cO ds).length_eq;refine xb func80 J J ntmps80 J J (fun C=>?_);refine cw _ J (xE hb hi hn ht) J J<|cq ((gl ds).map eZ) J (aud (i0:=i) hsm (by omega) hi) (by rw[Mj ht]) J<|?_;exact tf J J J J
theorem xR{t:Tr}(hb:t.all LB)(p:aa): ∀d∈dO t p,aB d 500:=fun d hd=>by
 obtain⟨l,h1,h2⟩:=pC.1 hd;haveI:=uk.1 hb l (oE h1).1;rcases h2 with rfl|rfl<;>infer_instance
theorem yL{ds:List aa}{i:Nat}(h: ∀d∈ds,aB d i)(h2:2<=i): ∀v∈fy ds,aB v (i+i+1):=fun v hv=>by
 have up: ∀{q:aa},aB q i->aB q (i+i+1):=fun hq=>⟨hq.x.mono (by omega),hq.y.mono (by omega)⟩;unfold fy at hv;split at hv
 ·rw[aV] at hv
  subst hv;exact⟨BQ.mono (k:=2) ⟨by decide,by decide⟩ (by omega),BQ.mono (k:=2) ⟨by decide,by decide⟩ (by omega)⟩
 ·obtain⟨k,hk,rfl⟩:=bJ.1 hv
  have hk':=jY.1 hk;have g: ∀{j:Nat},j<ds.length->aB (ds.getD j ⟨0,0⟩) i:=fun{j} hj=>by
   rw[aK,aX hj];exact h _ (gV hj)
  haveI:=g hk';haveI:=g (dW (k+1) (show 0<ds.length by omega));unfold l5;split
  ·exact inferInstance
  ·exact up inferInstance
def zX(ds:List aa):(fy ds).length<=ds.length+1:=by
 unfold fy;split
 ·simp
 ·rw[aJ,oX];omega
def yI{vs:List aa}{f:aa->Bool}{k:Nat}{v:aa}(h:vs[k]? =some v):(vs.drop k).any f=(f v||(vs.drop (k+1)).any f):=by
 obtain⟨h1,h2⟩:=aS.1 h;rw[cX h1,h2,List.any_cons]
def yK{vs:List aa}{f:aa->Bool}{k:Nat}{v:aa}(h:vs[k]? =some v):(vs.drop k).all f=(f v&&(vs.drop (k+1)).all f):=by
 obtain⟨h1,h2⟩:=aS.1 h;rw[cX h1,h2,sS]
def zV{b c:Bool}:PF GB prog 83 [vB b,vB c] (vI (if b&&c then 2 else if b then 1 else 0)):=by
 refine fn func83 J J ntmps83 J J (fun C=>?_);refine ml 7 J J J (fun hg7=>?_) (fun hg7=>?_)
 ·refine bb J J J (fun hc5=>?_) (fun hc5=>?_)
  ·exact rz J (by subst hg7 hc5;rfl)
  ·refine bb J J J (fun hc10=>?_) (fun hc10=>?_)
   ·exact rz J (by subst hg7 hc5;rfl)
   ·subst hg7;cases hc10
 ·refine bb J J J (fun hc10=>?_) (fun hc10=>?_)
  ·subst hg7;cases hc10
  ·exact rz J (by subst hg7;rfl)
def xD{t:Tr}{p:aa}{i:Nat}[hp:aB p i](hb:t.all LB)(ho:t.all ab.ok)(hs:t.size<=400000)(hi:i<=10000000:=by decide):PF GB prog 41 [eU t,eZ p] (vI (mE t p)):=by
 have hrl:=DX t p;have hrb:=xR hb p;have hrt:=axN ho p;have hdb: ∀d∈gl (dO t p),aB d 500:=fun d hd=>hrb d ((SZ hrt d).1 hd);have hdl:(gl (dO t p)).length<=(dO t p).length:=by rw[<-Mj hrt];exact eY (avG _) (Nat.le_of_eq (zr cO _).length_eq)
 have hsb:=yL hdb (by decide);obtain⟨vs,hvs⟩: ∃vs,vs=fy (gl (dO t p)):=⟨_,rfl⟩;have hvl:vs.length<=(gl (dO t p)).length+1:=by rw[hvs];exact zX _
 rw[<-hvs] at hsb;have hml:(vs.map eZ).length=vs.length:=aJ ..;refine fn func41 J J ntmps41 J J (fun C=>?_);refine cqn ((dO t p).map eZ) J (Bt (p:=p) (o:=[]) hi hb (by rw[gM];omega)) J J<|cq ((gl (dO t p)).map eZ) J (xG hrb (by decide) (by omega) hrt) J J<|?_;refine fz 14 J J<|cl (fu:=⟨0⟩) J (OO (ds:=gl (dO t p)) (i:=500) hdb (by omega)) J<|?_;refine ao 15 (.d (.sl (vs.map eZ))) J (by rw[hvs]) ?_;refine gx (fu:=⟨1⟩) J<|?_;refine ao 16 (.d (vI (vs.length:Nat))) J (by rw[hml]<;>rfl) ?_;refine gx J<|?_;refine Bx 5 _ J J ?_;refine Bx 6 _ J J ?_;refine lp (X:=Bool×Bool×Nat) (fun⟨a,c,k⟩=>[(17, .d (vI (k:Nat))),(5, .d (vB a)),(6, .d (vB c))]) (fun⟨a,c,k⟩=>[]) (fun⟨a,c,k⟩=>(a||(vs.drop k).any (fun v=>(fj t p v).1))=uu t p/\(c&&(vs.drop k).all (fun v=>(fj t p v).1))=AX t p/\k<=vs.length) (fun⟨a,c,k⟩=>vs.length-k) ⟨false,true,0⟩ J ⟨by rw[hvs];simp[uu],by rw[hvs];simp[AX],bT _⟩ (fun _=>J) (fun⟨a,c,k⟩ hk=>?_)
 try dsimp only at hk⊢
 obtain⟨h1,h2,h3⟩:=hk;refine br J J J (fun hc18=>?_) (fun hc18=>?_)
 .
  obtain⟨v,hx⟩: ∃v,vs[k]? =some v:=⟨_,aX (by omega)⟩;haveI:=hsb v (aM hx);refine ix _ J (ee hx) J<|cl J (asG (t:=t) (p:=p) (v:=v) (i:=i) (j:=500+500+1) hb hi (by decide)) J<|?_;refine bb J J J (fun hc28=>?_) (fun hc28=>?_)
  .
   refine wj 5 _ J J ?_;exact at_ ⟨true,c,k+1⟩ (by dsimp only;exact⟨⟨by rw[<-h1,yI hx,hc28];simp,by rw[<-h2,yK hx,hc28];simp,by omega⟩,(by omega)⟩)
  .
   refine wj 6 _ J J ?_;exact at_ ⟨a,false,k+1⟩ (by dsimp only;exact⟨⟨by rw[<-h1,yI hx,hc28];simp,by rw[<-h2,yK hx,hc28];simp,by omega⟩,(by omega)⟩)
 .
  obtain rfl:k=vs.length:=by omega
  rw[iM] at h1 h2;have e1:a=uu t p:=by simpa using h1
  have e2:c=AX t p:=by simpa using h2
  refine cl J (zV (b:=a) (c:=c)) J<|?_;exact rz J (by rw[e1,e2];rfl)
def wD{k i:Nat}{t:Tr}{p:aa}[hp:aB p i](h:t7 k t)(hi:i<=10000000:=by decide):PF GB prog 14 [eA t,mv p] (.tp [vI (mE t p), .v .nilIface]):=by
 have hts:=h.s;refine fn func14 J J ntmps14 J J (fun C=>?_);refine cl (fu:=⟨11⟩) J (VI h) J<|?_;refine lx 13 J ?_;refine gx J<|cl J (DM (p:=p) (i:=i) (by omega)) J<|cl J (xD (t:=t) (p:=p) (i:=i) h.lb h.ok (by omega) hi) J<|?_;exact rz J J
def wU{C:aD}{n:Nat}{Q0:Exit->Act->World->Prop}{fr:aA}{own:aI}{ops:Array Oper}{r:List Oper}{K:List Kt}(k:Nat)(hl:bg fr k=some (.d (.ag [vI 0,vI 0, .v (.pointer none)])))(h:aj prog GB C n Q0 ((k, .d (eF 0))::fr) own (.ops ops r K)):aj prog GB C n Q0 fr own (.ops ops r K):=
 oB (g:= .d (eF 0)) hl (fun _ G y hy=>ut G y hy) h
theorem yM{p:aa}{f:aE}(hf:FE f): ∀d∈iC p f,aB d 500:=fun d hd=>by
 haveI:=hf.fo.lb;rcases(F6 hd).2 with rfl|rfl
 ·exact inferInstance
 ·exact inferInstance
def zB{E:List aE}{p:aa}{k:Nat}{f:aE}(h:E[k]? =some f):(E.drop k).flatMap (iC p)=iC p f++(E.drop (k+1)).flatMap (iC p):=by
 obtain⟨hk,e⟩:=aS.1 h;rw[cX hk,e,lT]
def yX(p:aa)(f:aE):(iC p f).length<=2:=by
 unfold iC
 repeat' split
 all_goals simp
def zP(p:aa): ∀E:List aE,(E.flatMap (iC p)).length<=2*E.length
 |[]=>bQ _
 |f::E=>by
  have:=zP p E;have:=yX p f;rw[lT,aR,bV];omega
def xX{p:aa}{f:aE}(h:kl f p=false):iC p f=[]:=by unfold iC;rw[h];rfl
def zY{p:aa}{f:aE}(hf:FE f)(h:kl f p=true):iC p f=(if cg (cB f.l p) f.v.hi<0 then [ck f.l.dir] else [])++(if 0<cg (cB f.l p) f.v.lo then [bp (ck f.l.dir)] else []):=by
 unfold iC Iu Hu;rw[if_pos h,hf.nl,hf.nh];simp only[sU,decide_eq_true_eq]
def wB{E:List aE}(hE: ∀f∈E,FE f)(hn:E.length<=100000){p:aa}{i:Nat}[hp:aB p i](hi:i<=100000:=by decide):PF GB prog 136 [.sl (E.map bh),eZ p] (.sl ((lm E p).map eZ)):=by
 have hml:(E.map bh).length=E.length:=aJ ..;have hrl:=zP p E;refine fn (fu:=⟨16⟩) func136 J J ntmps136 J J (fun C=>?_);refine ao 11 (.d (vI (E.length:Nat))) J (by rw[hml]<;>rfl) ?_;refine gx J<|?_;refine nr 5 5 89 6 J J J ?_;refine lp (X:=List aa×Nat) (fun⟨acc,k⟩=>[(12, .d (vI (k:Nat))),(5, .rw 5)]) (fun⟨acc,k⟩=>[(5,some (.b 89 6 (acc.map eZ) true))]) (fun⟨acc,k⟩=>acc++(E.drop k).flatMap (iC p)=E.flatMap (iC p)/\k<=E.length) (fun⟨acc,k⟩=>E.length-k) ⟨[],0⟩ J ⟨by simp,bT _⟩ (fun _=>J) (fun⟨acc,k⟩ hk=>?_)
 try dsimp only at hk⊢
 obtain⟨h1,h2⟩:=hk;have hal:acc.length<=2*E.length:=by
  have q1:=congrArg List.length h1;rw[aR] at q1;omega
 have ham:(acc.map eZ).length=acc.length:=aJ ..;refine br J J J (fun hc13=>?_) (fun hc13=>?_)
 .
  obtain⟨f,hx⟩: ∃u,E[k]? =some u:=⟨_,aX (by omega)⟩;have hf:=hE f (aM hx);haveI:=hf.fo.lb;haveI:=hf.fo.lo;haveI:=hf.fo.hi;haveI:=DO (p:=p) (i:=i) hf.fo.lb;refine ix _ J (ee hx) J<|cl J (Uf hf (p:=p) (i:=i) hi) J<|?_;refine bb J J J (fun hc19=>?_) (fun hc19=>?_)
  .
   exact at_ ⟨acc,k+1⟩ (by dsimp only;exact⟨⟨by rw[<-h1,zB hx,xX (by simpa using hc19)];simp,by omega⟩,(by omega)⟩)
  .
   have hha:kl f p=true:=by simpa using hc19
   refine cl J (Dm (l:=f.l) (p:=p) (i:=i) (by omega)) J<|cl J (vQ (l:=f.l)) J<|cl (fu:=⟨12⟩) J (Qv (p:=f.l.dir) (i:=97)) J<|?_;refine ao 30 (.d (vB false)) J (by rw[hf.nh]<;>rfl) ?_;refine s9 30 J ?_;refine gx (fu:=⟨0⟩) J<|?_;rcases Classical.em (cg (cB f.l p) f.v.hi<0) with hA|hA
   .
    refine gx J<|cl (fu:=⟨0⟩) J (jE (p:=cB f.l p) (q:=f.v.hi) (i:=2*i+600) (j:=1200) (by omega) (by decide)) J<|gj J (by show some (decide _)=some true;rw[decide_eq_true (by omega)]) J<|?_;refine rf J J<|ap (fu:=⟨8⟩) ((acc++[ck f.l.dir]).map eZ) J (by rw[dV]<;>rfl) (wg [ck f.l.dir]) J<|?_;refine ao 45 (.d (vB false)) J (by rw[hf.nl]<;>rfl) ?_;refine s9 45 J ?_;refine gx J<|cl J (jE (p:=cB f.l p) (q:=f.v.lo) (i:=2*i+600) (j:=1200) (by omega) (by decide)) J<|?_;refine br J J J (fun hc53=>?_) (fun hc53=>?_)
    .
     refine cl J (IC (p:=ck f.l.dir) (i:=500)) J<|rf J J<|ap ((acc++[ck f.l.dir]++[bp (ck f.l.dir)]).map eZ) J (by simp only[dV,dX,cR,cY]<;>rfl) (wg [bp (ck f.l.dir)]) J<|?_;refine iv 58 5 J ?_;exact at_ ⟨acc++[ck f.l.dir]++[bp (ck f.l.dir)],k+1⟩ (by dsimp only;exact⟨⟨by rw[<-h1,zB hx,zY hf hha,if_pos hA,if_pos (by omega)];simp,by omega⟩,(by omega)⟩)
    .
     refine iv 42 5 J ?_;exact at_ ⟨acc++[ck f.l.dir],k+1⟩ (by dsimp only;exact⟨⟨by rw[<-h1,zB hx,zY hf hha,if_pos hA,if_neg (by omega)];simp,by omega⟩,(by omega)⟩)
   .
    refine gx J<|cl (fu:=⟨0⟩) J (jE (p:=cB f.l p) (q:=f.v.hi) (i:=2*i+600) (j:=1200) (by omega) (by decide)) J<|ek (fu:=⟨11⟩) J (by show some (decide _)=some false;rw[decide_eq_false (by omega)]) J<|?_;refine ao 45 (.d (vB false)) J (by rw[hf.nl]<;>rfl) ?_;refine s9 45 J ?_;refine gx J<|cl J (jE (p:=cB f.l p) (q:=f.v.lo) (i:=2*i+600) (j:=1200) (by omega) (by decide)) J<|?_;refine br J J J (fun hc53=>?_) (fun hc53=>?_)
    .
     refine cl J (IC (p:=ck f.l.dir) (i:=500)) J<|rf J J<|ap ((acc++[bp (ck f.l.dir)]).map eZ) J (by simp only[dV,dX,cR,cY]<;>rfl) (wg [bp (ck f.l.dir)]) J<|?_;refine iv 58 5 J ?_;exact at_ ⟨acc++[bp (ck f.l.dir)],k+1⟩ (by dsimp only;exact⟨⟨by rw[<-h1,zB hx,zY hf hha,if_neg hA,if_pos (by omega)];simp,by omega⟩,(by omega)⟩)
    .
     exact at_ ⟨acc,k+1⟩ (by dsimp only;exact⟨⟨by rw[<-h1,zB hx,zY hf hha,if_neg hA,if_neg (by omega)];simp,by omega⟩,(by omega)⟩)
 .
  obtain rfl:k=E.length:=by omega
  have hacc:acc=E.flatMap (iC p):=by rw[iM] at h1;simpa using h1
  refine cq ((lm E p).map eZ) rfl (xG (ds:=acc) (i:=500) (fun d hd=>by rw[hacc] at hd;obtain⟨f,h3,h4⟩:=cN.1 hd;exact yM (hE f h3) d h4) (by decide) (by omega) (by rw[hacc];exact BJ (fun f hf=>(hE f hf).fo.ok) p)) (by rw[hacc]<;>rfl) rfl<|?_;refine mD 61 J ?_;exact rz J J
def zJ(p d:aa)(s:Rat):p.add (d.scale s)=bt p d s:=by
 unfold aa.add aa.scale bt;simp only[aa.mk.injEq];constructor<;>grind
def yG(x:Rat×Bool)(s:Rat):Rat×Bool:=if 0<Int.sign s.num/\(x.2=false\/cg s x.1<0) then(s,true) else x
def zL(a b:Rat):yG (yG (0,false) a) b=q8 a b:=by
 unfold yG q8;by_cases ha:0<Int.sign a.num
 ·simp only[ha,true_and,not_true_eq_false,false_or]
  simp
 ·simp only[ha,false_and,if_false,not_false_eq_true,true_or,and_true]
def zH{b s:Rat}{x:Bool}(h:0<Int.sign s.num)(k:x=false\/cg s b<0):yG (b,x) s=(s,true):=by unfold yG;rw[if_pos ⟨h,k⟩]
def zN{b s:Rat}{x:Bool}(h: ¬0<Int.sign s.num\/(x=true/\ ¬cg s b<0)):yG (b,x) s=(b,x):=by
 unfold yG;rw[if_neg];rintro ⟨h1,h2⟩;rcases h with h|⟨h,k⟩
 ·exact h h1
 ·rcases h2 with e|e
  ·rw[h] at e;cases e
  ·exact k e
theorem zW{m:Nat}(hm:1<=m):BQ (0:Rat) m:=BQ.mono (k:=1) ⟨by decide,by decide⟩ hm
theorem wH{p q:aa}{i j:Nat}(hp:aB p i)[aB q j]:BQ (p.dot q) (i+j+(i+j)+1):=by
 haveI:=hp;exact inferInstance
theorem zM{p d q:aa}{i j m:Nat}[aB p i][aB d j][aB q 3000](hm:2*i+6*j+6100<=m):BQ (p8 p d q) m:=by
 haveI:=wH (q:=d) (yz q p (i:=3000) (j:=i));have h:BQ ((⟨q.x-p.x,q.y-p.y⟩:aa).dot d/d.dot d) _:=inferInstance;exact BQ.mono (show BQ (p8 p d q) _ from h) (by omega)
def yO{f:aE}{p d:aa}(h:f.l.nor.dot d≠0):gm f p d=(-(f.l.value p/f.l.nor.dot d),decide (0<Int.sign (-(f.l.value p/f.l.nor.dot d)).num)&&qD f.v (cB f.l (bt p d (-(f.l.value p/f.l.nor.dot d))))):=by unfold gm;rw[if_neg h]
def wE{f:aE}{p d:aa}(h:f.l.nor.dot d=0)(k:f.l.value p=0):gm f p d=q8 (p8 p d (f.l.at f.v.lo)) (p8 p d (f.l.at f.v.hi)):=by unfold gm;rw[if_pos h,if_pos k]
def wF{f:aE}{p d:aa}(h:f.l.nor.dot d=0)(k:f.l.value p≠0):gm f p d=(0,false):=by unfold gm;rw[if_pos h,if_neg k]
def wJ{f:aE}(hf:FE f){p d:aa}{i j:Nat}[hp:aB p i][hd:aB d j](hi:i<=30000:=by decide)(hj:j<=10000:=by decide):PF GB prog 138 [bh f,eZ p,eZ d] (.tp [eF (gm f p d).1,vB (gm f p d).2]):=by
 haveI:=hf.fo.lb;haveI:=hf.fo.lo;haveI:=hf.fo.hi;obtain⟨k0,hk0⟩: ∃k0,k0=f.l.nor.dot d:=⟨_,rfl⟩;obtain⟨c0,hc0⟩: ∃c0,c0=f.l.value p:=⟨_,rfl⟩;haveI:BQ k0 (2*j+600):=by rw[hk0];exact BQ.mono (inferInstance:BQ (f.l.nor.dot d) _) (by omega)
 haveI:BQ c0 (2*i+900):=by rw[hc0];exact BQ.mono (inferInstance:BQ (f.l.value p) _) (by omega)
 obtain⟨s,hs⟩: ∃s,s= -(c0/k0):=⟨_,rfl⟩;haveI:BQ (c0/k0) (2*i+2*j+1500):=BQ.mono (inferInstance:BQ (c0/k0) _) (by omega);haveI:BQ s (2*i+2*j+1500):=by rw[hs];exact inferInstance
 haveI:aB (bt p d s) (3*i+3*j+1600):=by rw[<-zJ];exact aB.mono (inferInstance:aB (p.add (d.scale s)) _) (by omega)
 obtain⟨pI,hslo⟩: ∃s,s=p8 p d (f.l.at f.v.lo):=⟨_,rfl⟩;obtain⟨shi,hshi⟩: ∃s,s=p8 p d (f.l.at f.v.hi):=⟨_,rfl⟩;haveI:aB (f.l.at f.v.hi) 3000:=AR hf.fo.lb hf.fo.hi;haveI:aB (f.l.at f.v.lo) 3000:=AR hf.fo.lb hf.fo.lo;haveI:BQ pI (2*i+6*j+9000):=by rw[hslo];exact zM (by omega)
 haveI:BQ shi (2*i+6*j+9000):=by rw[hshi];exact zM (by omega)
 haveI:BQ f.v.lo (6*i+6*j+4000):=hf.fo.lo.mono (by omega);haveI:BQ f.v.hi (6*i+6*j+4000):=hf.fo.hi.mono (by omega);haveI:BQ (cB f.l (bt p d s)) (6*i+6*j+4000):=(DO (p:=bt p d s) (i:=3*i+3*j+1600) hf.fo.lb).mono (by omega);refine fn func138 J J ntmps138 J J (fun C=>?_);refine cl J (wz (l:=f.l)) J<|cl (fu:=⟨0⟩) J (oA (p:=f.l.nor) (q:=d) (i:=97) (j:=j) (by decide) (by omega)) J<|?_;refine ao 22 (.d (eF k0)) J (by rw[hk0]) ?_;refine gx J<|cl (fu:=⟨0⟩) J (DR (l:=f.l) (p:=p) (i:=i) (by omega)) J<|?_;refine ao 26 (.d (eF c0)) J (by rw[hc0]) ?_;refine gx J<|cl J (rP (q:=k0)) J<|?_;refine bb J J J (fun hc29=>?_) (fun hc29=>?_)
 .
  have hkn:f.l.nor.dot d≠0:=by rw[<-hk0];simpa using hc29
  refine cl J (uD (p:=c0) (q:=k0) (i:=2*i+900) (j:=2*j+600) (by omega) (by omega)) J<|cl (fu:=⟨0⟩) J (n4 (q:=c0/k0) (i:=2*i+2*j+1500) (by omega)) J<|?_;refine ao 33 (.d (eF s)) J (by rw[hs]) ?_;refine gx J<|cl (fu:=⟨0⟩) J (kv (q:=s) (i:=2*i+2*j+1500) (by omega)) J<|?_;refine qt (v2:=fun hg37=>by simp only[ah];kernel_rfl) J J J J (fun hg37=>?_) (fun hg37=>?_)
  .
   refine cl J (y9 (p:=d) (c:=s) (i:=j) (j:=2*i+2*j+1500) (by omega) (by omega)) J<|cl (fu:=⟨0⟩) J (C9 (p:=p) (q:=d.scale s) (i:=i) (j:=j+(2*i+2*j+1500)) (by omega) (by omega)) J<|?_;refine ao 47 (.d (eZ (bt p d s))) J (by rw[zJ]) ?_;refine gx J<|cl J (Dm (l:=f.l) (p:=bt p d s) (i:=3*i+3*j+1600) (by omega)) J<|cl J (QE (v:=f.v) (t:=cB f.l (bt p d s)) (i:=6*i+6*j+4000) (by omega)) J<|?_;exact rz J (by rw[yO hkn,<-hk0,<-hc0,<-hs];show DV.tp [_, .v (.bool _)]= .tp [_, .v (.bool _)];simp only[hg37,decide_true,Bool.true_and];rfl)
  .
   exact rz J (by rw[yO hkn,<-hk0,<-hc0,<-hs];show DV.tp [_, .v (.bool _)]= .tp [_, .v (.bool _)];simp only[hg37,decide_false,Bool.false_and];rfl)
 .
  have hkz:f.l.nor.dot d=0:=by rw[<-hk0];simpa using hc29
  refine cl J (rP (q:=c0)) J<|?_;refine bb (fu1:=⟨3⟩) (fu2:=⟨16⟩) J J J (fun hc53=>?_) (fun hc53=>?_)
  .
   have hcn:f.l.value p≠0:=by rw[<-hc0];simpa using hc53
   refine wU 54 J ?_;refine gx J<|?_;exact rz J (by rw[wF hkz hcn];rfl)
  .
   have hcz:f.l.value p=0:=by rw[<-hc0];simpa using hc53
   refine AJ (fu:=⟨1⟩) (wh f) J (fun G y hy=>Av hf.sm hy) J<|AJ (fu:=⟨0⟩) (wh f) J (fun G y hy=>Av hf.sm hy) J<|Vh (fu:=⟨1⟩) (i:=⟨.o,1,some [.d (.v .nilFunc)],false⟩) (z:= .v .nilFunc) J (by kernel_rfl) J J J<|?_;refine ao 60 (.d (vI 2)) J J ?_;refine gx J<|?_;refine Bx 12 _ J J ?_;refine imB 11 [vI (dq 0),vI (dm 0),dh 0] rfl (fun G m=>zF) J ?_;refine lp (X:=Nat×Rat×Bool) (fun⟨t,bst,fnd⟩=>[(61, .d (vI (t:Nat))),(12, .d (vB fnd)),(11, .ov 11 0)]) (fun⟨t,bst,fnd⟩=>[(11,some (.o 87 [.d (vI (dq bst)), .d (vI (dm bst)), .d (dh bst)] true))]) (fun⟨t,bst,fnd⟩=>t<=2/\BQ bst (2*i+6*j+9000)/\(t=0->(bst,fnd)=(0,false))/\(t=1->(bst,fnd)=yG (0,false) pI)/\(t=2->(bst,fnd)=q8 pI shi)) (fun⟨t,bst,fnd⟩=>2-t) ⟨0,0,false⟩ J ⟨by omega,zW (by omega),fun _=>J,fun e=>by omega,fun e=>by omega⟩ (fun _=>J) (fun⟨t,bst,fnd⟩ hk=>?_)
   try dsimp only at hk⊢
   obtain⟨hk2,hbb,q0,q1,q2⟩:=hk;haveI:=hbb;refine br (fu1:=⟨6⟩) J J J (fun hc62=>?_) (fun hc62=>?_)
   .
    rcases(show t=0\/t=1 by omega) with rfl|rfl
    .
     refine gx J<|ix (fu:=⟨0⟩) _ J J J<|T8 (fu:=⟨6⟩) J J J J J J<|uK (ds1:=[bh f]) (ds2:=[]) J (.cons (A7 hf.sm) (co.2 J)) (co.2 J) (Ic hf) J<|?_;refine cl J (LA (p:=f.l.at f.v.lo) (q:=p) (i:=3000) (j:=i) (by decide) (by omega)) J<|cl J (oA (p:=⟨(f.l.at f.v.lo).x-p.x,(f.l.at f.v.lo).y-p.y⟩) (q:=d) (i:=3000+i+1) (j:=j) (hp:=yz _ _) (by omega) (by omega)) J<|?_;refine cl J (oA (p:=d) (q:=d) (i:=j) (j:=j) (by omega) (by omega)) J<|cl (fu:=⟨0⟩) J (uD (p:=(⟨(f.l.at f.v.lo).x-p.x,(f.l.at f.v.lo).y-p.y⟩:aa).dot d) (q:=d.dot d) (i:=3000+i+1+j+(3000+i+1+j)+1) (j:=j+j+(j+j)+1) (h:=wH (yz _ _)) (by omega) (by omega)) J<|?_;refine ao 78 (.d (eF pI)) J (by rw[hslo];rfl) ?_;refine gx (fu:=⟨8⟩) J<|?_;refine lx 80 J ?_;refine gx J<|cl J (kv (q:=pI) (i:=(2*i+6*j+9000)) (by omega)) J<|?_;refine cs 85 J J J (fun hg85=>?_) (fun hg85=>?_)
     .
      refine ml 88 J J J (fun hg88=>?_) (fun hg88=>?_)
      .
       refine wj 12 _ J J ?_;exact at_ ⟨0+1,pI,true⟩ (by dsimp only;exact⟨⟨by omega,by first|exact inferInstance|assumption,fun e=>by omega,fun _=>by rw[<-q0 J];exact(zH hg85 (.inl (by simpa using hg88))).symm,fun e=>by omega⟩,(by omega)⟩)
      .
       refine cl J (jE (p:=pI) (q:=bst) (i:=(2*i+6*j+9000)) (j:=(2*i+6*j+9000)) (by omega) (by omega)) J<|?_;refine br J J J (fun hc94=>?_) (fun hc94=>?_)
       .
        refine wj 12 _ J J ?_;exact at_ ⟨0+1,pI,true⟩ (by dsimp only;exact⟨⟨by omega,by first|exact inferInstance|assumption,fun e=>by omega,fun _=>by rw[<-q0 J];exact(zH hg85 (.inr hc94)).symm,fun e=>by omega⟩,(by omega)⟩)
       .
        exact at_ ⟨0+1,bst,fnd⟩ (by dsimp only;exact⟨⟨by omega,by first|exact inferInstance|assumption,fun e=>by omega,fun _=>by rw[<-q0 J];exact(zN (.inr ⟨by simpa using hg88,hc94⟩)).symm,fun e=>by omega⟩,(by omega)⟩)
     .
      exact at_ ⟨0+1,bst,fnd⟩ (by dsimp only;exact⟨⟨by omega,by first|exact inferInstance|assumption,fun e=>by omega,fun _=>by rw[<-q0 J];exact(zN (.inl hg85)).symm,fun e=>by omega⟩,(by omega)⟩)
    .
     refine gx J<|ix (fu:=⟨0⟩) _ J J J<|T8 (fu:=⟨6⟩) J J J J J J<|uK (ds1:=[bh f]) (ds2:=[]) J (.cons (A7 hf.sm) (co.2 J)) (co.2 J) (IF hf) J<|?_;refine cl J (LA (p:=f.l.at f.v.hi) (q:=p) (i:=3000) (j:=i) (by decide) (by omega)) J<|cl J (oA (p:=⟨(f.l.at f.v.hi).x-p.x,(f.l.at f.v.hi).y-p.y⟩) (q:=d) (i:=3000+i+1) (j:=j) (hp:=yz _ _) (by omega) (by omega)) J<|?_;refine cl J (oA (p:=d) (q:=d) (i:=j) (j:=j) (by omega) (by omega)) J<|cl (fu:=⟨0⟩) J (uD (p:=(⟨(f.l.at f.v.hi).x-p.x,(f.l.at f.v.hi).y-p.y⟩:aa).dot d) (q:=d.dot d) (i:=3000+i+1+j+(3000+i+1+j)+1) (j:=j+j+(j+j)+1) (h:=wH (yz _ _)) (by omega) (by omega)) J<|?_;refine ao 78 (.d (eF shi)) J (by rw[hshi];rfl) ?_;refine gx (fu:=⟨8⟩) J<|?_;refine lx 80 J ?_;refine gx J<|cl J (kv (q:=shi) (i:=(2*i+6*j+9000)) (by omega)) J<|?_;refine cs 85 J J J (fun hg85=>?_) (fun hg85=>?_)
     .
      refine ml 88 J J J (fun hg88=>?_) (fun hg88=>?_)
      .
       refine wj 12 _ J J ?_;exact at_ ⟨1+1,shi,true⟩ (by dsimp only;exact⟨⟨by omega,by first|exact inferInstance|assumption,fun e=>by omega,fun e=>by omega,fun _=>by rw[<-zL,<-q1 J];exact(zH hg85 (.inl (by simpa using hg88))).symm⟩,(by omega)⟩)
      .
       refine cl J (jE (p:=shi) (q:=bst) (i:=(2*i+6*j+9000)) (j:=(2*i+6*j+9000)) (by omega) (by omega)) J<|?_;refine br J J J (fun hc94=>?_) (fun hc94=>?_)
       .
        refine wj 12 _ J J ?_;exact at_ ⟨1+1,shi,true⟩ (by dsimp only;exact⟨⟨by omega,by first|exact inferInstance|assumption,fun e=>by omega,fun e=>by omega,fun _=>by rw[<-zL,<-q1 J];exact(zH hg85 (.inr hc94)).symm⟩,(by omega)⟩)
       .
        exact at_ ⟨1+1,bst,fnd⟩ (by dsimp only;exact⟨⟨by omega,by first|exact inferInstance|assumption,fun e=>by omega,fun e=>by omega,fun _=>by rw[<-zL,<-q1 J];exact(zN (.inr ⟨by simpa using hg88,hc94⟩)).symm⟩,(by omega)⟩)
     .
      exact at_ ⟨1+1,bst,fnd⟩ (by dsimp only;exact⟨⟨by omega,by first|exact inferInstance|assumption,fun e=>by omega,fun e=>by omega,fun _=>by rw[<-zL,<-q1 J];exact(zN (.inl hg85)).symm⟩,(by omega)⟩)
   .
    obtain rfl:t=2:=by omega
    exact rz J (by rw[wE hkz hcz,<-hslo,<-hshi,<-q2 J];rfl)
theorem zQ{E:List aE}(hE: ∀f∈E,FE f)(p:aa): ∀d∈lm E p,aB d 500:=fun d hd=>by
 obtain⟨f,h3,h4⟩:=cN.1 ((F1 (BJ (fun f hf=>(hE f hf).fo.ok) p) d).1 hd);exact yM (hE f h3) d h4
def zU(E:List aE)(p:aa):(lm E p).length<=2*E.length:=by
 have h1:=zP p E;have h2:=Gt cO (E.flatMap (iC p)) [];show((E.flatMap (iC p)).foldl (fun out x=>eE cO x out) []).length<=_;simp only[gM] at h2;omega
theorem xI{f:aE}(hf:FE f){p d:aa}{i j:Nat}[hp:aB p i][hd:aB d j]:BQ (gm f p d).1 (2*i+6*j+9000):=by
 haveI:=hf.fo.lb;haveI:aB (f.l.at f.v.hi) 3000:=AR hf.fo.lb hf.fo.hi;haveI:aB (f.l.at f.v.lo) 3000:=AR hf.fo.lb hf.fo.lo;unfold gm;split
 ·split
  ·unfold q8
   split
   ·exact zM (by omega)
   ·split
    ·exact zM (by omega)
    ·exact zW (by omega)
  ·exact zW (by omega)
 ·exact BQ.mono (inferInstance:BQ (-(f.l.value p/f.l.nor.dot d)) _) (by omega)
theorem yN{f:aE}(hf:FE f){p d:aa}{i j:Nat}[hp:aB p i][hd:aB d j]{s:Rat}(hs:BQ s (2*i+6*j+9000)):BQ (jl p d s f) (2*i+6*j+9000):=by
 unfold jl;split
 ·exact hs
 ·split
  ·split
   ·exact xI hf
   ·exact hs
  ·exact hs
def zI{E:List aE}{p d:aa}{k:Nat}{f:aE}(h:E[k]? =some f)(s:Rat):(E.take (k+1)).foldl (jl p d) s=jl p d ((E.take k).foldl (jl p d) s) f:=by
 rw[fN,h,List.foldl_append];rfl
def yB{L:List aa}{g:aa->aa}{k:Nat}{l:aa}(h:L[k]? =some l):(((L.take k).map g).map eZ)++[eZ (g l)]=((L.take (k+1)).map g).map eZ:=by
 rw[fN,h];simp
theorem xH{m:Nat}(hm:3<=m):BQ (1:Rat) m:=BQ.mono (k:=3) ⟨by decide,by decide⟩ hm
theorem xT{E:List aE}(hE: ∀f∈E,FE f){p d:aa}{i j:Nat}[hp:aB p i][hd:aB d j]:aB (ny E p d) (3*i+7*j+9010):=by
 have key: ∀(E:List aE),(∀f∈E,FE f)-> ∀s,BQ s (2*i+6*j+9000)->BQ (E.foldl (jl p d) s) (2*i+6*j+9000):=by
  intro E
  induction E with
  |nil=>intro _ s h;exact h
  |cons f E ih=>intro hE s h;exact ih (fun g hg=>hE g (aZ _ hg)) _ (yN (hE f aQ) h)
 haveI:=key E hE 1 (xH (by omega));unfold ny;rw[<-zJ];exact aB.mono (inferInstance:aB (p.add (d.scale (E.foldl (jl p d) 1*mkRat 1 2))) _) (by omega)
def wC{E:List aE}(hE: ∀f∈E,FE f)(hn:E.length<=100000){p:aa}{i:Nat}[hp:aB p i](hi:i<=20000:=by decide):PF GB prog 87 [.sl (E.map bh),eZ p] (.sl (((fy (lm E p)).map (ny E p)).map eZ)):=by
 have hml:(E.map bh).length=E.length:=aJ ..;have hrl:=zU E p;obtain⟨W,hW⟩: ∃W,W=fy (lm E p):=⟨_,rfl⟩;have hWl:W.length<=(lm E p).length+1:=by rw[hW];exact zX _
 have hWb: ∀d∈W,aB d 1001:=fun d hd=>by rw[hW] at hd;exact yL (zQ hE p) (by decide) d hd
 have hwm:(W.map eZ).length=W.length:=aJ ..;rw[<-hW];refine fn func87 J J ntmps87 J J (fun C=>?_);refine cl J (wB hE hn (p:=p) (i:=i) (by omega)) J<|cl (fu:=⟨0⟩) J (OO (ds:=lm E p) (i:=500) (zQ hE p) (by omega)) J<|?_;refine ao 16 (.d (.sl (W.map eZ))) J (by rw[hW]) ?_;refine gx (fu:=⟨1⟩) J<|?_;refine ao 17 (.d (vI (W.length:Nat))) J (by rw[hwm]<;>rfl) ?_;refine gx J<|?_;refine nr 5 5 89 6 J J J ?_;refine lp (X:=Nat) (fun k=>[(18, .d (vI (k:Nat))),(5, .rw 5)]) (fun k=>[(5,some (.b 89 6 (((W.take k).map (ny E p)).map eZ) true))]) (fun k=>k<=W.length) (fun k=>W.length-k) 0 J (bT _) (fun _=>J) (fun k hk=>?_);have hm3:(((W.take k).map (ny E p)).map eZ).length<=k:=by rw[aJ,aJ,cK];omega
 refine br J J J (fun hc19=>?_) (fun hc19=>?_)
 .
  obtain⟨d,hx⟩: ∃u,W[k]? =some u:=⟨_,aX (by omega)⟩;haveI:=hWb d (aM hx);have hko:=hk;refine ix _ J (ee hx) J<|cl (fu:=⟨0⟩) J (ph (m:=1) (by decide)) J<|?_;refine ao 22 (.d (eF 1)) J J ?_;refine gx (fu:=⟨9⟩) J<|?_;refine ao 24 (.d (vI (E.length:Nat))) J (by rw[hml]<;>rfl) ?_;refine gx J<|?_;refine lp (X:=Nat×Rat) (fun⟨t,s⟩=>[(25, .d (vI (t:Nat))),(8, .ov 8 0)]) (fun⟨t,s⟩=>[(8,some (.o 87 [.d (vI (dq s)), .d (vI (dm s)), .d (dh s)] true))]) (fun⟨t,s⟩=>t<=E.length/\s=(E.take t).foldl (jl p d) 1/\BQ s (2*i+6*1001+9000)) (fun⟨t,s⟩=>E.length-t) ⟨0,1⟩ J ⟨bT _,J,xH (by omega)⟩ (fun _=>J) (fun⟨t,s⟩ hk=>?_)
  try dsimp only at hk⊢
  obtain⟨g1,g2,g3⟩:=hk;haveI:=g3;refine br J J J (fun hc26=>?_) (fun hc26=>?_)
  .
   obtain⟨f,hx2⟩: ∃u,E[t]? =some u:=⟨_,aX (by omega)⟩;have hf:=hE f (aM hx2);haveI:=xI hf (p:=p) (d:=d) (i:=i) (j:=1001);refine ix _ J (ee hx2) J<|cl J (Uf hf (p:=p) (i:=i) (by omega)) J<|?_;refine bb J J J (fun hc31=>?_) (fun hc31=>?_)
   .
    exact at_ ⟨t+1,s⟩ (by dsimp only;exact⟨⟨by omega,by rw[zI hx2,<-g2];unfold jl;rw[if_pos hc31],g3⟩,(by omega)⟩)
   .
    refine cl J (wJ hf (p:=p) (d:=d) (i:=i) (j:=1001) (by omega) (by decide)) J<|?_;refine bb J J J (fun hc39=>?_) (fun hc39=>?_)
    .
     refine cl J (Jz (p:=s) (q:=(gm f p d).1) (i:=(2*i+6*1001+9000)) (j:=(2*i+6*1001+9000)) (by omega) (by omega)) J<|?_;exact at_ ⟨t+1,if(gm f p d).1<s then(gm f p d).1 else s⟩ (by dsimp only;exact⟨⟨by omega,by rw[zI hx2,<-g2];unfold jl;simp[show kl f p=false by simpa using hc31,hc39],by have h9:=yN hf (p:=p) (d:=d) (i:=i) (j:=1001) g3;unfold jl at h9;simpa[show kl f p=false by simpa using hc31,hc39] using h9⟩,(by omega)⟩)
    .
     exact at_ ⟨t+1,s⟩ (by dsimp only;exact⟨⟨by omega,by rw[zI hx2,<-g2];unfold jl;simp[show(gm f p d).2=false by simpa using hc39],g3⟩,(by omega)⟩)
  .
   obtain rfl:t=E.length:=by omega
   rw[dS] at g2;refine cl J (Ec (q:=s) (i:=(2*i+6*1001+9000)) (by omega)) J<|cl J (y9 (p:=d) (c:=s*mkRat 1 2) (i:=1001) (j:=(2*i+6*1001+9000)+2) (by decide) (by omega)) J<|?_;refine cl (fu:=⟨0⟩) J (C9 (p:=p) (q:=d.scale (s*mkRat 1 2)) (i:=i) (j:=1001+((2*i+6*1001+9000)+2)) (by omega) (by omega)) J<|?_;refine ao 50 (.d (eZ (ny E p d))) J (by rw[zJ,g2];rfl) ?_;refine gx J<|rf J J<|ap (hv:=by simp only[ah];exact⟨by kernel_rfl,by omega⟩) (((W.take (k+1)).map (ny E p)).map eZ) J (yB hx) (wg [ny E p d]) J<|?_;refine iv 52 5 J ?_;exact at_ (k+1) ⟨(by omega),(by omega)⟩
 .
  obtain rfl:k=W.length:=by omega
  rw[dS];refine mD 5 J ?_;exact rz J J
def yH{W:List aa}{g:aa->Bool}{k:Nat}{d:aa}(h:W[k]? =some d):(W.take (k+1)).any g=((W.take k).any g||g d):=by
 rw[fN,h,List.any_append];simp
def yJ{W:List aa}{g:aa->Bool}{k:Nat}{d:aa}(h:W[k]? =some d):(W.take (k+1)).all g=((W.take k).all g&&g d):=by
 rw[fN,h,List.all_append];simp
def yD{E:List aE}(hE: ∀f∈E,FE f)(hn:E.length<=100000){p:aa}{i:Nat}[hp:aB p i](hi:i<=20000){f:FuncId}{c2:List Value}{ds2:List DV}(hc:IsLs GB ds2 c2){acc:aa->Bool}(hF: ∀q,aB q 80000->PF GB prog f (eZ q::ds2) (vB (acc q))):PF GB prog 46 [.sl (E.map bh),eZ p, .v (.func (.func f) ⟨[]⟩ ⟨c2⟩)] (vI (zj E p acc)):=by
 obtain⟨W,hW⟩: ∃W,W=(fy (lm E p)).map (ny E p):=⟨_,rfl⟩;have hwm:(W.map eZ).length=W.length:=aJ ..;have hrl:=zU E p;have hsl:=zX (lm E p);have hWl:W.length=(fy (lm E p)).length:=by rw[hW,aJ]
 have hWb: ∀q∈W,aB q 80000:=fun q hq=>by
  rw[hW] at hq;obtain⟨d,hd,rfl⟩:=bJ.1 hq;haveI:=yL (zQ hE p) (by decide) d hd;exact(xT hE (p:=p) (d:=d) (i:=i) (j:=1001)).mono (by omega)
 have hcl:zj E p acc=if(W.any acc&&W.all acc) then 2 else if W.any acc then 1 else 0:=by
  unfold zj;rw[hW,List.any_map,List.all_map];rfl
 refine fn func46 J J ntmps46 J J (fun C=>?_);refine cl (fu:=⟨0⟩) J (wC hE hn (p:=p) (i:=i) hi) J<|?_;refine ao 13 (.d (.sl (W.map eZ))) J (by rw[hW]) ?_;refine gx (fu:=⟨1⟩) J<|?_;refine ao 14 (.d (vI (W.length:Nat))) J (by rw[hwm]<;>rfl) ?_;refine gx J<|?_;refine Bx 7 _ J J ?_;refine Bx 8 _ J J ?_;refine lp (X:=Nat) (fun k=>[(15, .d (vI (k:Nat))),(7, .d (vB ((W.take k).any acc))),(8, .d (vB ((W.take k).all acc)))]) (fun k=>[]) (fun k=>k<=W.length) (fun k=>W.length-k) 0 J (bT _) (fun _=>J) (fun k hk=>?_);refine br J J J (fun hc16=>?_) (fun hc16=>?_)
 .
  obtain⟨q,hx⟩: ∃u,W[k]? =some u:=⟨_,aX (by omega)⟩;haveI:=hWb q (aM hx);refine ix (fu:=⟨9⟩) _ J (ee hx) J<|uK (ds1:=[]) (ds2:=ds2) J (co.2 J) hc (hF q (hWb q (aM hx))) J<|?_;refine bb J J J (fun hc21=>?_) (fun hc21=>?_)
  .
   refine wj 7 _ J J ?_;refine ao 7 (.d (vB ((W.take (k+1)).any acc))) J (by rw[yH hx,hc21,Bool.or_true]<;>rfl) ?_;refine ao 8 (.d (vB ((W.take (k+1)).all acc))) J (by rw[yJ hx,hc21,Bool.and_true]<;>rfl) ?_;exact at_ (k+1) ⟨(by omega),(by omega)⟩
  .
   refine wj 8 _ J J ?_;refine ao 7 (.d (vB ((W.take (k+1)).any acc))) J (by rw[yH hx,hc21,sT]<;>rfl) ?_;refine ao 8 (.d (vB ((W.take (k+1)).all acc))) J (by rw[yJ hx,hc21,Bool.and_false]<;>rfl) ?_;exact at_ (k+1) ⟨(by omega),(by omega)⟩
 .
  obtain rfl:k=W.length:=by omega
  rw[dS];refine cl J (zV (b:=W.any acc) (c:=W.all acc)) J<|?_;exact rz J (by rw[hcl];rfl)
def wR{C:aD}{n:Nat}{Q0:Exit->Act->World->Prop}{fr:aA}{own:aI}{ops:Array Oper}{r:List Oper}{K:List Kt}(k:Nat){d:DV}{pv:Value}(hl:bg fr k=some (.d (.v pv)))(hp:Is GB d pv)(h:aj prog GB C n Q0 ((k, .d d)::fr) own (.ops ops r K)):aj prog GB C n Q0 fr own (.ops ops r K):=by
 refine⟨fun ρ G ov a w r0=>?_⟩;obtain⟨y,hy,hy'⟩:=r0.fx k _ hl;obtain rfl:=(aH (G:=G)).1 hy';refine h.run ρ G ov a w ⟨r0.gb,r0.h,r0.sz,r0.df,fun j f e=>?_,r0.bx,r0.dj,r0.fxd⟩;rw[ju] at e;split at e
 ·rename_i hj
  cases e;subst hj
  exact⟨y,hy,hp.up r0.gb⟩
 ·exact r0.fx j f e
def xV{E:List aE}(hE: ∀f∈E,FE f)(hn:E.length<=100000){fill:Int}{q:aa}{i:Nat}[hq:aB q i](hi:i<=80000):PF GB prog 45 [eZ q, .pt [vI fill], .pt [.sl (E.map bh)]] (vB (oG fill (gn E q))):=by
 refine fn (fu:=⟨3⟩) func45 J J ntmps45 J J (fun C=>?_);refine yo 1 J<|yo 2 J<|gx J<|cl J (Py hE (by omega) (p:=q) (i:=i) (by omega)) J<|cl J (Nc (fill:=fill) (n:=gn E q)) J<|?_;exact rz J J
def xC{rs:List (List ZP)}(h: ∀r∈rs,lB r)(hn:rs.length<=200){fill:Int}(hfill:fill=1\/fill=2){p:aa}{i:Nat}[hp:aB p i](hi:i<=20000):PF GB prog 16 [.sl (rs.map mF),vI fill,mv p] (.tp [vI (zj (bO rs) p fun q=>oG fill (gn (bO rs) q)), .v .nilIface]):=by
 have hel:=ar3 h hn;have hfe:=QF fun r hr=>(h r hr).ok;refine fn func16 J J ntmps16 J J (fun C=>?_);refine cl (fu:=⟨13⟩) J (aCi h hn) J<|ek J J J<|?_;refine cs (fu2:=⟨12⟩) 23 J J J (fun hg23=>?_) (fun hg23=>?_)
 .
  refine br (fu2:=⟨5⟩) J J J (fun hc20=>?_) (fun hc20=>?_)
  .
   exact absurd hfill (by omega)
  .
   refine fz 4 J J<|fz 8 J J ?_;refine tC 4 J (fun GB1 pv1 hg1 hp1=>?_);refine tC 8 J (fun GB2 pv2 hg2 hp2=>?_);refine Fh (fu:=⟨0⟩) J J ?_;refine wR 8 J hp2<|yo 8 J<|gx J ?_;refine cl J (DM (p:=p) (i:=i) (by omega)) J ?_;refine cl J (yD hfe (by omega) (p:=p) (i:=i) (by omega) (f:=45) (c2:=[pv1,pv2]) (ds2:=[.pt [vI fill], .pt [.sl ((bO rs).map bh)]]) (.cons (hp1.up hg2) (.cons hp2 (co.2 J))) (acc:=fun q=>oG fill (gn (bO rs) q)) (fun q hq=>xV hfe (by omega) (by decide))) J ?_;exact rz J J
 .
  refine fz 4 J J<|fz 8 J J ?_;refine tC 4 J (fun GB1 pv1 hg1 hp1=>?_);refine tC 8 J (fun GB2 pv2 hg2 hp2=>?_);refine Fh (fu:=⟨0⟩) J J ?_;refine wR 8 J hp2<|yo 8 J<|gx J ?_;refine cl J (DM (p:=p) (i:=i) (by omega)) J ?_;refine cl J (yD hfe (by omega) (p:=p) (i:=i) (by omega) (f:=45) (c2:=[pv1,pv2]) (ds2:=[.pt [vI fill], .pt [.sl ((bO rs).map bh)]]) (.cons (hp1.up hg2) (.cons hp2 (co.2 J))) (acc:=fun q=>oG fill (gn (bO rs) q)) (fun q hq=>xV hfe (by omega) (by decide))) J ?_;exact rz J J
def wW:List ZP:=r6 0 0 2 2
structure CvR (r:List ZP):Prop where
 ok:cp r
 cen: ∃c:aa,∀f∈vq r,0<dE f.1 f.2 c
 one: ∀p,(∀f∈vq r,0<dE f.1 f.2 p)->om r p=1
 zer: ∀p,(∃f∈vq r,dE f.1 f.2 p<0)->om r p=0
 cvx: ∀f∈vq r,∀g∈vq r,0<=dE f.1 f.2 g.1/\0<=dE f.1 f.2 g.2
 onE: ∀p,(∀f∈vq r,0<=dE f.1 f.2 p)-> ∀f∈vq r,dE f.1 f.2 p=0->iH f.1 f.2 p
section
variable {r:List ZP} {p:aa}
end
def wS(x y O:Rat):Int:=(if x<=0/\ ¬y<=0/\0<O then 1 else 0)-(if¬x<=0/\y<=0/\O<0 then 1 else 0)
def vD(r:List ZP)(p:aa):Nat->Bool
 |0=>true
 |k+1=>vD r p k&&decide (0<=vl (r.getD k (0,0)).q (dP r k).q p)
def wX(r:List ZP)(p:aa):Nat->Bool
 |0=>false
 |k+1=>wX r p k||decide (vl (r.getD k (0,0)).q (dP r k).q p=0)
def xU{rs:List (List ZP)}(hr: ∀r∈rs,cp r)(fill:Int):(fun q=>oG fill (gn (bO rs) q))=fe rs fill:=by
 funext q;rw[KK hr];rfl
def yV{rs:List (List ZP)}(hr: ∀r∈rs,cp r)(fill:Int)(p:aa):(zj (bO rs) p fun q=>oG fill (gn (bO rs) q))=mE (fm rs fill) p:=by
 rw[xU hr];exact Vq hr (Ze (ls:=um rs) fun l hl=>by
  obtain⟨f,hf,rfl⟩:=bJ.1 hl;exact((lj hr).2 f hf).ok) (auN hr fun f hf=>gN hf)
def wK{a:aa}{t:List aa}:mP (a::t) a=((0:Nat):Int):=Fp (k:=0) (q:=a) J J ⟨J,J⟩
def yT{a b c:aa}{t:List aa}(h1:a≠b)(h2:a≠c)(h3:b≠c):3<=fh (a::b::c::t) (a::b::c::t).length:=by
 have ne: ∀{x y:aa},x≠y->(!decide (x.x=y.x/\x.y=y.y))=true:=fun{x y} h=>by
  rw[decide_eq_false (fun k=>h (by cases x;cases y;simp only[aa.mk.injEq] at*;exact k))];rfl
 have e0:=FQ (l:=a::b::c::t) (k:=0) (p:=a) J wK;have e1:=FQ (l:=a::b::c::t) (k:=1) (p:=b) J (Fp (k:=1) (q:=b) J (by simp only[List.take,sS,List.all_nil,Bool.and_true,ne h1]) ⟨J,J⟩);have e2:=FQ (l:=a::b::c::t) (k:=2) (p:=c) J (Fp (k:=2) (q:=c) J (by simp only[List.take,sS,List.all_nil,Bool.and_true,ne h2,ne h3]) ⟨J,J⟩);have mono: ∀n m,n<=m->fh (a::b::c::t) n<=fh (a::b::c::t) m:=by
  intro n m h
  induction m with
  |zero=>rw[show n=0 by omega];exact bQ _
  |succ m ih=>
   by_cases k:n=m+1
   ·rw[k];exact bQ _
   ·exact eY (ih (by omega)) Mw
 have:=mono 3 (a::b::c::t).length (by simp);have z:fh (a::b::c::t) 0=0:=J;rw[fQ] at e0;rw[show 1+1=2 from J] at e1;rw[show 2+1=3 from J] at e2;omega
def zO{a b c:ZP}{t:List ZP}(ho:cp (a::b::c::t))(h1:a≠b)(h2:a≠c)(h3:b≠c):lB (a::b::c::t):=
 ⟨ho,yT (t:=t.map ZP.q) (fun e=>h1 (Bc e)) (fun e=>h2 (Bc e)) (fun e=>h3 (Bc e))⟩
def wI{a b c d:Int}(ho:cp (r6 a b c d))(h1:a<c)(h2:b<d):lB (r6 a b c d):=
 zO ho (fun e=>by have:=congrArg Prod.fst e;dsimp only at this;omega) (fun e=>by have:=congrArg Prod.fst e;dsimp only at this;omega) (fun e=>by have:=congrArg Prod.snd e;dsimp only at this;omega)
def xW{p u v:ZP}(ho:cp (s5 p u v))(h:sF u v≠0):lB (s5 p u v):=by
 have hu: ∀{a b:ZP},(a=(0,0)\/b=(0,0)\/a=b)->sF a b=0:=fun{a b} k=>by
  unfold sF;rcases k with rfl|rfl|rfl
  ·simp
  ·simp
  ·rw[tV];omega
 refine zO ho (fun e=>h (hu (.inl ?_))) (fun e=>h (hu (.inr (.inl ?_)))) (fun e=>h (hu (.inr (.inr ?_))))
 ·have e1:=congrArg Prod.fst e
  have e2:=congrArg Prod.snd e;unfold xe at e1 e2;dsimp only at e1 e2;exact Prod.ext (by dsimp only;omega) (by dsimp only;omega)
 ·have e1:=congrArg Prod.fst e
  have e2:=congrArg Prod.snd e;unfold xe at e1 e2;dsimp only at e1 e2;exact Prod.ext (by dsimp only;omega) (by dsimp only;omega)
 ·have e1:=congrArg Prod.fst e
  have e2:=congrArg Prod.snd e;unfold xe at e1 e2;dsimp only at e1 e2;exact Prod.ext (by omega) (by omega)
def wN(n:Int)(d:Nat):Int:=n*zv false d
def xS(n:Int)(d:Nat):(wN n d).natAbs=n.natAbs*d:=by unfold wN;rw[jU,q7]
instance BN.prx (n:Int) (d i j:Nat) [h:BI n i] [k:BN d j]:BN (wN n d).natAbs (i+j):=⟨by rw[xS,gJ];exact nJ h.h k.h⟩
def wZ(S:List aa)(x:aa)(R:List aa)(k:Nat):List aa:=S.take k++x::(S.drop k++R)
def wY(S:List aa)(x:aa)(R:List aa)(m:Nat):List aa:=S.take m++x::x::(S.drop (m+1)++R)
def wP(t:Tr)(p:aa):Int:=if aI1 t p then 2 else if aJF t p then 1 else 0
def vH(t:Tr)(p:aa)(V:List aa)(k:Nat):Bool:=(V.take k).any fun v=>(fj t p v).1
def vK(t:Tr)(p:aa)(V:List aa)(k:Nat):Bool:=(V.take k).all fun v=>(fj t p v).1
def zZ{l:List aa}{x:aa}(h:x∈l): ∃i:Nat,i<l.length/\mP l x=(i:Int)/\l.getD i ⟨0,0⟩=x:=by
 cases e:l.findIdx? (fun q=>decide (q.x=x.x/\q.y=x.y)) with
 |none=>
  rw[List.findIdx?_eq_none_iff] at e;have:=e x h;simp at this
 |some i=>
  have e0:=e;rw[List.findIdx?_eq_some_iff_getElem] at e;obtain⟨h1,h2,_⟩:=e;refine⟨i,h1,by unfold mP;rw[e0],?_⟩;have h3:=of_decide_eq_true h2;rw[aK,aX h1,jK];generalize l[i]=q at*
  cases q;cases x
  simp only[aa.mk.injEq] at*;exact h3
def zT(l:List aa): ∀n,fh l n=((List.range n).filter fun k=>decide (mP l (l.getD k ⟨0,0⟩)=((k:Nat):Int))).length
 |0=>rfl
 |n+1=>by
  rw[fh,List.range_succ,List.filter_append,aR,zT l n];congr 1;by_cases h:mP l (l.getD n ⟨0,0⟩)=((n:Nat):Int)
  ·rw[if_pos h];simp only[nX,decide_eq_true h,if_true];rfl
  ·rw[if_neg h];simp only[nX,decide_eq_false h];rfl
def yS{F:List Nat}{i j k:Nat}(hi:i∈F)(hj:j∈F)(hk:k∈F)(h1:i≠j)(h2:i≠k)(h3:j≠k):3<=F.length:=by
 match F with
 |[]=>cases hi
 |[a]=>simp at hi hj;omega
 |[a,b]=>simp at hi hj hk;omega
 |a::b::c::t=>simp
def xL{l:List aa}{a b c:aa}(ha:a∈l)(hb:b∈l)(hc:c∈l)(h1:a≠b)(h2:a≠c)(h3:b≠c):3<=fh l l.length:=by
 obtain⟨i,i1,i2,i3⟩:=zZ ha;obtain⟨j,j1,j2,j3⟩:=zZ hb;obtain⟨k,k1,k2,k3⟩:=zZ hc;rw[zT];have mk: ∀{x:aa} {m:Nat},m<l.length->mP l x=(m:Int)->l.getD m ⟨0,0⟩=x->m∈(List.range l.length).filter fun k=>decide (mP l (l.getD k ⟨0,0⟩)=((k:Nat):Int)):=fun{x m} q1 q2 q3=>jJ.2 ⟨jY.2 q1,decide_eq_true (by rw[q3];exact q2)⟩;exact yS (mk i1 i2 i3) (mk j1 j2 j3) (mk k1 k2 k3) (fun e=>h1 (by rw[<-i3,<-j3,e])) (fun e=>h2 (by rw[<-i3,<-k3,e])) (fun e=>h3 (by rw[<-j3,<-k3,e]))
def cmpZ_lt{p q:ZP}:l6 p q<0↔p.1<q.1\/(p.1=q.1/\p.2<q.2):=by
 unfold l6
 repeat' split
 all_goals (constructor<;>intro h<;>omega)
def yU{p q:ZP}:l6 p q=0↔p.1=q.1/\p.2=q.2:=by
 unfold l6
 repeat' split
 all_goals (constructor<;>intro h<;>omega)
def zS{x y:ZP}: ∀{l:List ZP},y∈ld x l->y=x\/y∈l
 |[],h=>by simp[ld] at h;exact .inl h
 |u::t,h=>by
  rw[ld] at h;split at h
  ·rcases aW.1 h with rfl|h
   ·exact .inr aQ
   ·exact(zS h).imp id fun k=>aZ _ k
  ·split at h
   ·exact .inr h
   ·rcases aW.1 h with rfl|h
    ·exact .inl J
    ·exact .inr h
def yF{x:ZP}: ∀{l:List ZP},l.Pairwise (fun a b=>l6 a b<0)->(ld x l).Pairwise (fun a b=>l6 a b<0)
 |[],_=>by simp[ld]
 |u::t,h=>by
  obtain⟨h1,h2⟩:=bK.1 h;rw[ld];split
  ·rename_i hu
   refine bK.2 ⟨fun y hy=>?_,yF h2⟩;rcases zS hy with rfl|hy
   ·exact hu
   ·exact h1 y hy
  ·split
   ·exact h
   ·rename_i k1 k2
    rw[cmpZ_lt] at k1;rw[yU] at k2;refine bK.2 ⟨fun y hy=>?_,h⟩;rw[cmpZ_lt];rcases aW.1 hy with rfl|hy
    ·omega
    ·have:=cmpZ_lt.1 (h1 y hy);omega
def yP(l:List ZP):(pj l).Pairwise (fun a b=>l6 a b<0)/\ ∀y∈pj l,y∈l:=by
 have key: ∀(l o:List ZP),o.Pairwise (fun a b=>l6 a b<0)->(l.foldl (fun out x=>ld x out) o).Pairwise (fun a b=>l6 a b<0)/\ ∀y∈l.foldl (fun out x=>ld x out) o,y∈l\/y∈o:=by
  intro l
  induction l with
  |nil=>intro o ho;exact⟨ho,fun y hy=> .inr hy⟩
  |cons x t ih=>
   intro o ho;obtain⟨i1,i2⟩:=ih (ld x o) (yF ho);refine⟨i1,fun y hy=>?_⟩;rcases i2 y hy with h|h
   ·exact .inl (aZ _ h)
   ·rcases zS h with rfl|h
    ·exact .inl aQ
    ·exact .inr h
 obtain⟨k1,k2⟩:=key l [] .nil;exact⟨k1,fun y hy=>(k2 y hy).resolve_right (by simp)⟩
def xP{r:List ZP}(ho:cp r)(h:3<=(pj r).length):lB r:=by
 refine⟨ho,?_⟩;obtain⟨k1,k2⟩:=yP r
 match hs:pj r with
 |[]=>rw[hs] at h;simp at h
 |[a]=>rw[hs] at h;simp at h
 |[a,b]=>rw[hs] at h;simp at h
 |a::b::c::t=>
  rw[hs] at k1 k2;obtain⟨p1,p2⟩:=bK.1 k1;obtain⟨p3,_⟩:=bK.1 p2;have ne: ∀{x y:ZP},l6 x y<0->x.q≠y.q:=fun{x y} q e=>by
   have:=Bc e;subst this;have:=cmpZ_lt.1 q;omega
  exact xL (gN (k2 a (by simp))) (gN (k2 b (by simp))) (gN (k2 c (by simp))) (ne (p1 b (by simp))) (ne (p1 c (by simp))) (ne (p3 c (by simp)))
def yW{es:List Int}{a:Nat}(ha:a<=es.length):lB (pA es a).1:=by
 have hok:=(Js ha).1;unfold pA at*;dsimp only at*;split
 ·exact zO Rv (by decide) (by decide) (by decide)
 ·rename_i h
  rw[if_neg h] at hok;exact xP hok (by omega)
def xQ{es:List Int}{a:Nat}(ha:a<=es.length):lB (iG es a).1:=by
 have hok:=(Lu ha).1;have h0:=iq (n:=4) ha;unfold iG at*;dsimp only at*;split
 ·rename_i h
  rw[if_pos h] at hok;unfold CE at*;dsimp only at*;exact wI hok (by omega) (by omega)
 ·rename_i h
  rw[if_neg h] at hok;split
  ·rename_i k
   rw[if_pos k] at hok;obtain⟨p1,p2,p3⟩:=x5 h0;obtain⟨u1,u2,u3,u4⟩:=Ak p3;obtain⟨v1,v2,v3,v4⟩:=Ak u4;split
   ·rename_i hc
    rw[if_pos hc] at hok;exact xW hok hc
   ·exact yW v4
  ·exact yW h0

def zG(es:List Int):Nat->Nat->List (List ZP)->List (List ZP)×Nat
 |0,a,out=>(out,a)
 |n+1,a,out=>zG es n (iG es a).2 (out++[(iG es a).1])
def zA(es:List Int)(m a:Nat):List (List ZP)×Nat:=zG es (au es (m+1) a).1 (au es (m+1) a).2 []
def yC{es:List Int}: ∀{n a:Nat} {out:List (List ZP)},a<=es.length->(∀r∈out,lB r)->(∀r∈(zG es n a out).1,lB r)/\(zG es n a out).1.length=out.length+n/\(zG es n a out).2<=es.length
 |0,a,out,ha,h=>⟨h,J,ha⟩
 |n+1,a,out,ha,h=>by
  have h1:=(Lu ha).2;obtain⟨i1,i2,i3⟩:=yC (n:=n) (out:=out++[(iG es a).1]) h1 fun r hr=>by
   rcases bW.1 hr with hr|hr
   ·exact h r hr
   ·rw[aV.1 hr];exact xQ ha
  exact⟨i1,by rw[zG,i2,aR];simp;omega,i3⟩
def yQ{es:List Int}{m a:Nat}(ha:a<=es.length):(∀r∈(zA es m a).1,lB r)/\(zA es m a).1.length<=m/\(zA es m a).2<=es.length:=by
 have h1:=jq (es:=es) (n:=m+1) (a:=a) (by omega);obtain⟨i1,i2,i3⟩:=yC (es:=es) (n:=(au es (m+1) a).1) (out:=[]) (iq (n:=m+1) ha) (fun r hr=>by cases hr);exact⟨i1,by unfold zA;rw[i2];simp;omega,i3⟩
def yY{b:Nat}{es:List Int}(hes:es.length<=400){a:Nat}(ha:a<=es.length){md:Nat}(hmd:md<=100):PM GB prog 6 (ip [none,some (.v (.int .i64 (md:Nat)))] b) b 70 [.sl (es.map vI), .v (.int .i64 (a:Nat))] (.sl ((zA es md a).1.map mt)) [.sl (es.map vI), .v (.int .i64 ((zA es md a).2:Nat))]:=by
 have hj1:=jq (es:=es) (n:=md+1) (a:=a) (by omega);have hj2:=iq (n:=md+1) ha;refine ui func6 J J ntmps6 J J (fun C b m lo hmb=>?_);refine cm J (fun b=>(nC (n:=(md:Int)+1) hes ha (by omega) (by omega))) J<|?_;refine nr 5 5 71 1 J J J ?_;refine lp (X:=List (List ZP)×Nat×Nat) (fun⟨rs,i,b⟩=>[(6, .d (vI (i:Nat))),(5, .rw 5)]) (fun⟨rs,i,b⟩=>[(1000000,some (.o 70 [.d (.sl (es.map vI)), .d (.v (.int .i64 (b:Nat)))] false)),(5,some (.b 71 1 (rs.map mt) true))]) (fun⟨rs,i,b⟩=>zG es i b rs=zA es md a/\b<=es.length/\rs.length+i<=100) (fun⟨rs,i,b⟩=>i) ⟨[],(au es (md+1) a).1,(au es (md+1) a).2⟩ J ⟨J,hj2,by simp;omega⟩ (fun _=>J) (fun⟨rs,i,b⟩ hk=>?_)
 try dsimp only at hk⊢
 obtain⟨h1,h2,h3⟩:=hk;have hrl:(rs.map mt).length=rs.length:=by simp
 refine br (fu2:=⟨0⟩) J J J (fun hc12=>?_) (fun hc12=>?_)
 .
  obtain⟨j,rfl⟩: ∃j,i=j+1:=⟨i-1,by omega⟩;have hq:=(Lu h2).2;refine cm J (fun b=>(aCh hes h2)) J<|rf J J<|ap ((rs++[(iG es b).1]).map mt) J (by rw[dV];rfl) (OL [_]) J<|?_;refine iv 19 5 J ?_;exact at_ ⟨rs++[(iG es b).1],j,(iG es b).2⟩ (by dsimp only;exact⟨⟨by rw[<-h1,zG],hq,by simp;omega⟩,(by omega)⟩)
 .
  obtain rfl:i=0:=by omega
  have hfin:zA es md a=(rs,b):=by rw[<-h1,zG]
  refine uA 5 J ?_;refine gx J<|?_;exact kg hmb J J (by rw[hfin];rfl) (by rw[hfin])
def wQ(a b p:aa):Bool:=decide (vl a b p=0)&&decide ((aa.dot (bt a p (-1)) (bt b p (-1))).num.sign<=0)
def vG(r:List ZP)(p:aa):Bool:=(List.range r.length).any fun k=>wQ (r.getD k (0,0)).q (dP r k).q p

def vA(r:List ZP):List ZP:=r.take 1++(r.drop 1).reverse
section
variable {r:List ZP} {p:aa} {L:List ab}
end


def wG(x:ab):List ab->List ab
 |[]=>[]
 |y::l=>if y=x then wG y l else y::wG y l
def wT:List ab->List ab
 |[]=>[]
 |x::l=>x::wG x l

def vC(E:List aE):List ab:=E.map (·.l)
theorem xM{l:ab}(h:LB l):LB l.canon:=by unfold ab.canon;split;exact h.rev;exact h
def vJ(rs:List (List ZP))(fill:Int)(L:List ab)(p:aa)(vs:List aa):Bool:=vs.any fun v=>fe rs fill (Bz L p v)
def vL(rs:List (List ZP))(fill:Int)(L:List ab)(p:aa)(vs:List aa):Bool:=vs.all fun v=>fe rs fill (Bz L p v)
section
variable {GB:Gh} {C:aD} {n:Nat} {Q0:Exit->Act->World->Prop} {fr fr' fr1 fr2:aA} {own own' own1 own2:aI} {cf cf' cf1 cf2:Cf} {vc vc1 vc2:List Prop}
def vE(fr:aA)(cf:Cf):Option Int:=match ce fr cf with
 |some ⟨_, .binOp .and _ x (.const (.int .i64 1)) _,_,_,_,_⟩=>match aO (bE fr cf) x with
  |some (.d (.v (.int .i64 p)))=>some p
  |_=>none
 |_=>none
end
structure EGX (GB:Gh) (ai:Addr):Prop where
 ErrInvalid:GB 0=some [.iface 334 (.pointer (some ai))]
def yZ{b:Nat}{es:List Int}(hes:es.length<=400){rs:List (List ZP)}{a':Nat}(hr:rs=(zA es 3 0).1)(ha:a'=(zA es 3 0).2):PM GB prog 6 (ip [none,some (vI 3)] b) b 70 [.sl (es.map vI), .v (.int .i64 (0:Nat))] (.sl (rs.map mt)) [.sl (es.map vI), .v (.int .i64 (a':Nat))]:=by
 subst hr ha;exact yY hes (bT _) (md:=3) (by decide)
def xY{b:Nat}{es:List Int}(hes:es.length<=400){a:Nat}(ha:a<=es.length){p:aa}{a':Nat}(hp:p=(qr es a).1)(h':a'=(qr es a).2):PM GB prog 10 (ip [none] b) b 70 [.sl (es.map vI), .v (.int .i64 (a:Nat))] (eP p) [.sl (es.map vI), .v (.int .i64 (a':Nat))]:=by
 subst hp h';exact YR hes ha
theorem wA{l:ab}{t:Rat}{k:Nat}(hl:LB l)(ht:BQ t k)(hk:k<=1200):aB (l.at t) 4500:=by
 haveI:=hl;haveI:=BQ.mono ht hk;exact aB.mono (inferInstance:aB (l.at t) _) (by decide)
def wV(rs:List (List ZP))(p:aa):Int:=rs.foldl (fun n r=>n+om r p) 0

def wM:fm [] 1= .leaf false:=by kernel_rfl
def wL:(fm [xw] 2).size=3:=by kernel_rfl
def xN: ∀r∈[xw],lB r:=fun r hr=>by
 rw[aV.1 hr];exact⟨Vg,by decide+kernel⟩
theorem xO: ∀p∈[iP 0 0,iP 1 0,iP 0 1],aB p 1200:=fun p hp=>by
 simp only[aW,kV,or_false] at hp;rcases hp with rfl|rfl|rfl<;>exact⟨BQ.int1200 (by decide),BQ.int1200 (by decide)⟩
def yE{rs:List (List ZP)}(h: ∀r∈rs,lB r)(hn:rs.length<=3){fill:Int}(hfill:fill=1\/fill=2){t:Tr}(ht:fm rs fill=t):PF GB prog 8 [.sl (rs.map mF),vI fill] (.tp [eA t, .v .nilIface]):=by
 subst ht;exact MU h hn hfill
def yR:PF GB prog 17 [] (.v (.bool true)):=by
 obtain⟨u,hu⟩: ∃u,fm [xw] 2=u:=⟨_,rfl⟩;have hus:u.size=3:=by rw[<-hu];exact wL
 have hwl:((u.wr 0).map eN).length=3:=by rw[aJ,Tr.wr_len,hus]
 refine fn func17 J J ntmps17 J J (fun C=>?_);refine cl J (yE (rs:=[]) (by simp) (by decide) (fill:=1) (.inl J) wM) J<|cl J (nD (m:=0) (n:=0) (by decide) (by decide)) J<|?_;refine cl J (nD (m:=1) (n:=0) (by decide) (by decide)) J<|cl J (nD (m:=0) (n:=1) (by decide) (by decide)) J<|rf (fu:=⟨0⟩) J J<|?_;refine ao 13 (.d (.sl ([iP 0 0,iP 1 0,iP 0 1].map eP))) J J ?_;refine gx J<|cl J (L4 (ps:=[iP 0 0,iP 1 0,iP 0 1]) xO (by decide)) J<|rf (fu:=⟨0⟩) J J<|?_;refine ao 15 (.d (.sl ([xw].map mF))) J J ?_;refine gx J<|cl (fu:=⟨11⟩) J (yE (rs:=[xw]) xN (by decide) (fill:=2) (.inr J) hu) J<|gj (fu:=⟨2⟩) J J J<|gj (fu:=⟨4⟩) J J J<|gj (fu:=⟨5⟩) J J J<|?_;refine ao 33 (.d (vI 3)) J (by rw[hwl]<;>rfl) ?_;refine gx (fu:=⟨0⟩) J<|gj J J J<|?_;exact rz J J
theorem xK{rs:List (List ZP)}(hr: ∀r∈rs,cp r): ∀l∈lz (um rs),LB l/\l.ok:=fun l hl=>by
 obtain⟨m,hm,rfl⟩:=Ld hl;obtain⟨f,hf,rfl⟩:=bJ.1 hm;have hfo:=(lj hr).2 f hf;exact⟨xM hfo.lb,OR hfo.ok⟩
def xJ{rs:List (List ZP)}(hr: ∀r∈rs,cp r)(hn:rs.length<=3):(lz (um rs)).length<=18:=by
 have h1:=Vr (um rs);have h2:=(lj hr).1;unfold um at h1⊢;rw[aJ] at h1;omega
def xZ{b:Nat}{es:List Int}(hes:es.length<=400){a:Nat}(ha:a<=es.length){n:Int}(hn:1<=n)(hn2:n<=1000){v a':Nat}(hv:v=(au es n a).1)(h':a'=(au es n a).2):PM GB prog 7 (ip [none,some (.v (.int .i64 n))] b) b 70 [.sl (es.map vI), .v (.int .i64 (a:Nat))] (.v (.int .i64 (v:Nat))) [.sl (es.map vI), .v (.int .i64 (a':Nat))]:=by
 subst hv h';exact nC hes ha hn hn2
theorem xA{l m:ab}(hl:LB l)(hm:LB m):aB (gg l m) 4500:=by
 haveI:=hl;haveI:=hm;exact aB.mono (inferInstance:aB (gg l m) _) (by decide)
def zR{es0:List Int}(hb:es0.length<=1125899906842624):PF GB prog 3 [.sl (es0.map vI)] (.v (.bool true)):=by
 obtain⟨es,hee⟩: ∃es,es=es0.take 400:=⟨_,rfl⟩;have hes:es.length<=400:=by rw[hee];simp;omega
 obtain⟨rs,hre⟩: ∃rs,rs=(zA es 3 0).1:=⟨_,rfl⟩;obtain⟨a1,ha1⟩: ∃a,a=(zA es 3 0).2:=⟨_,rfl⟩;obtain⟨hrg,hrn,hal⟩:(∀r∈rs,lB r)/\rs.length<=3/\a1<=es.length:=by rw[hre,ha1];exact yQ (bT _)
 have hr1: ∀r∈rs,cp r:=fun r hr=>(hrg r hr).ok;obtain⟨fl,hfe⟩: ∃fl:Int,fl=1+((au es 2 a1).1:Nat):=⟨_,rfl⟩;have hnl:=jq (es:=es) (n:=2) (a:=a1) (by decide);have hfl:fl=1\/fl=2:=by omega
 obtain⟨b2,hb2e⟩: ∃b,b=(au es 2 a1).2:=⟨_,rfl⟩;have hb2:b2<=es.length:=by rw[hb2e];exact iq hal
 have hx:=(O9 (fill:=fl) hr1 hrn).x (R1 _ _) (by decide);obtain⟨L,hL⟩: ∃L,L=lz (um rs):=⟨_,rfl⟩;have hdl:=xK hr1;have hd18:=xJ hr1 hrn;rw[<-hL] at hdl hd18;have hml:(L.map eL).length=L.length:=aJ ..;obtain⟨p,hpe⟩: ∃p,p=(qr es b2).1:=⟨_,rfl⟩;have hpb:aB p 4500:=by rw[hpe];exact((RW hb2).1).mono (by decide)
 have hb3:=(RW hb2).2;obtain⟨b3,hb3e⟩: ∃b,b=(qr es b2).2:=⟨_,rfl⟩;rw[<-hb3e] at hb3;refine fn func3 J J ntmps3 J J (fun C=>?_);refine cn J ((Yy hb hee)) (fun _=>J) (fun _=>?_);refine cm J (fun b=>(yZ hes hre ha1)) J<|cl J (aF9 (rs:=rs) hr1 (by omega)) J<|cm (fu:=⟨1⟩) J (fun b=>(xZ (n:=2) hes hal (by decide) (by decide) J hb2e)) J<|?_;refine ao 25 (.d (vI fl)) J (by rw[hfe]<;>rfl) ?_;refine gx J<|cl (fu:=⟨12⟩) J (MU (rs:=rs) hrg hrn (fill:=fl) hfl) J<|ek J J J<|cl (fu:=⟨1⟩) J (Xq (rs:=rs) (fill:=fl) hr1 (by omega)) J<|?_;refine ao 37 (.d (.sl (L.map eL))) J (by rw[hL]) ?_;refine gx J<|cm (fu:=⟨5⟩) J (fun b=>(xY hes hb2 hpe hb3e)) J<|?_;refine mg (X:=aa×Nat) (fun⟨q,b⟩=>[(9, .ov 9 0)]) (fun⟨q,b⟩=>[(19,some (.o 70 [.d (.sl (es.map vI)), .d (.v (.int .i64 (b:Nat)))] true)),(9,some (.o 48 [.d (.v (.bool (decide (q.x.num<0)))), .d (dN q.x.num.natAbs), .d (dD q.x.den), .d (.v (.bool (decide (q.y.num<0)))), .d (dN q.y.num.natAbs), .d (dD q.y.den)] true))]) (fun⟨q,b⟩=>aB q 4500) [9] [19,9] rfl ?_ (fun _=>J) (fun⟨q,b⟩ hqb=>?_)
 .
  refine gx (fu:=⟨4⟩) J<|?_;refine ao 41 (.d (vI (L.length:Nat))) J (by rw[hml]<;>rfl) ?_;refine gx J<|?_;refine br (fu1:=⟨6⟩) J J J (fun hc42=>?_) (fun hc42=>?_)
  .
   have hn1:=jq (es:=es) (n:=(L.length:Int)) (a:=b3) (by omega);have hn1l:=iq (es:=es) (n:=(L.length:Int)) hb3;have hn2:=jq (es:=es) (n:=(L.length:Int)) (a:=(au es (L.length:Int) b3).2) (by omega);have hn2l:=iq (es:=es) (n:=(L.length:Int)) hn1l;have hn3l:=iq (es:=es) (n:=3) hn2l;obtain⟨l,hlx⟩: ∃u,L[(au es (L.length:Int) b3).1]? =some u:=⟨_,aX (by omega)⟩;obtain⟨m,hmx⟩: ∃u,L[(au es (L.length:Int) (au es (L.length:Int) b3).2).1]? =some u:=⟨_,aX (by omega)⟩;obtain⟨hlb,hlo⟩:=hdl l (aM hlx);obtain⟨hmb,hmo⟩:=hdl m (aM hmx);haveI:=hlb;haveI:=hmb;refine ao 46 (.d (vI (L.length:Nat))) J (by rw[hml]<;>rfl) ?_;refine gx J<|cm J (fun b=>(nC (n:=(L.length:Int)) hes hb3 (by omega) (by omega))) J<|ix (fu:=⟨5⟩) _ J (ee hlx) J<|?_;refine ao 53 (.d (vI (L.length:Nat))) J (by rw[hml]<;>rfl) ?_;refine gx J<|cm J (fun b=>(nC (n:=(L.length:Int)) hes hn1l (by omega) (by omega))) J<|ix _ J (ee hmx) J<|cm J (fun b=>(nC (n:=3) hes hn2l (by decide) (by decide))) J<|?_;refine br J J J (fun hc59=>?_) (fun hc59=>?_)
   .
    refine cl J (aDM (l:=l) (m:=m)) J<|?_;refine bd J J J (fun hc67=>?_) (fun hc67=>?_)
    .
     exact at_ ⟨gg l m,(au es 3 (au es (L.length:Int) (au es (L.length:Int) b3).2).2).2⟩ (xA hlb hmb)
    .
     exact at_ ⟨p,(au es 3 (au es (L.length:Int) (au es (L.length:Int) b3).2).2).2⟩ hpb
   .
    refine br J J J (fun hc69=>?_) (fun hc69=>?_)
    .
     have hqo:=F4 hn3l;haveI:=hqo.1;refine cm J (fun b=>(If hes hn3l)) J<|cl J (UI (l:=l) (t:=(qF es (au es 3 (au es (L.length:Int) (au es (L.length:Int) b3).2).2).2).1) hlo.ne) J<|?_;exact at_ ⟨l.at (qF es (au es 3 (au es (L.length:Int) (au es (L.length:Int) b3).2).2).2).1,(qF es (au es 3 (au es (L.length:Int) (au es (L.length:Int) b3).2).2).2).2⟩ (wA hlb hqo.1 (by decide))
    .
     exact at_ ⟨p,(au es 3 (au es (L.length:Int) (au es (L.length:Int) b3).2).2).2⟩ hpb
  .
   exact at_ ⟨p,b3⟩ hpb
 .
  try dsimp only at hqb⊢
  haveI:=hqb;refine cl J (HD (p:=q) (i:=4500)) J<|cl J (wD (k:=18) (t:=fm rs fl) (p:=q) (i:=4500) hx) J<|cl J (HD (p:=q) (i:=4500)) J<|?_;refine cl (fu:=⟨0⟩) J (xC (rs:=rs) hrg (by omega) (fill:=fl) hfl (p:=q) (i:=4500) (by decide)) J<|?_;refine ao 87 (.d (.tp [vI (mE (fm rs fl) q), .v .nilIface])) J (by rw[yV hr1]) ?_;refine gx J<|cl (fu:=⟨0⟩) J yR J<|?_;refine lx 90 J ?_;refine gx (fu:=⟨2⟩) J<|gj (fu:=⟨3⟩) J J J<|gj (fu:=⟨4⟩) J J J<|gj J (by show some (decide (_=_))=some true;rw[decide_eq_true J]) J<|?_;exact rz J J
end Go.Sx
end
section
namespace Go.Sx
open Go Go.Proofs Go.ChangeShapes Go.WideShapes Go.ChangeAt Go.RowKit
def GW(w:World):Gh:=fun b=>match w.heap[b]? with|some (.cells cs _ _)=>some cs.toList|_=>none
def GW.sub{w:World}{b:Nat}{cs:List Value}(h:GW w b=some cs): ∃ty fz,w.heap[b]? =some (.cells ⟨cs⟩ ty fz):=by
 unfold GW at h;split at h
 ·rename_i c t f e
  cases h
  exact⟨t,f,by rw[e]⟩
 ·cases h
def GW.of_cell{w:World}{b off:Nat}{v:Value}(h:w.cell? ⟨b,off,none⟩=some v): ∃cs,GW w b=some cs/\cs[off]? =some v:=by
 unfold World.cell? at h;unfold GW;split at h
 ·rename_i c t f e
  simp only at e;refine⟨c.toList,by rw[e],?_⟩;simpa using h
 all_goals first|(rename_i e;cases h)|cases h
def bu.below{w w':World}{G G':Gh}{own:List ak}(h:bu ⟨w,G,[],[],[],none,fun _=>none⟩ own G' w'):Below w.heap.size w w':=
 ⟨h.os,h.tape,h.output,h.size,fun k hk=>h.keep k hk (by simp)⟩
def isLs_vI{G:Gh}: ∀es:List Int,IsLs G (es.map vI) (es.map fun n=>Value.int .i64 n)
 |[]=> .nil
 |n::t=> .cons (aH.2 J) (isLs_vI t)
def open_vI{base:Nat}{H:Type}{enc:TypeId×Value->H}{P:Program}{w:World}{t e:TypeId}{v:Value}{d:DataW H}{ps:List MemPlace}(ht:P.underlying t=some (.slice e))(he:P.underlying e=some (.int .i64))(hc:P.cellsOf e=1)
  (hv:Value.okWide P w .any base t v)(h:DataW.Trod enc P w 0 (fun _=>true) true t v d ps):
  ∃es:List Int,Is (GW w) (.sl (es.map vI)) v/\(d= .nil/\es=[]\/ ∃sp,d= .slice (lits .i64 es) sp)/\(∀n∈es,(Lit.int .i64 n).wf=true):=by
 obtain⟨a0,len,cap,rfl⟩:=okWide_slice ht hv;obtain⟨fuel,hf⟩:=h;rcases open_ints ht he hc hf with⟨hcs,hx⟩|⟨a,len',cap',zs,hcs,_,hl,hm,hz,hx,hcell,hwz⟩
 ·simp[Value.cells] at hcs
  obtain⟨rfl,rfl,rfl⟩:=hcs;simp only[Prod.mk.injEq] at hx;exact⟨[],iu.2 ⟨0,⟨none,0,0⟩,[],J,eH.nil _ 0, .nil⟩, .inl ⟨hx.1,J⟩,by simp⟩
 ·simp[Value.cells] at hcs
  obtain⟨rfl,rfl,rfl⟩:=hcs;simp only[Prod.mk.injEq] at hx;simp only[if_true] at hz;refine⟨zs.take len,iu.2 ⟨1,⟨some a,len,cap⟩,(zs.take len).map fun n=>Value.int .i64 n,J,⟨by simp;omega,hl,?_⟩,isLs_vI _⟩, .inr ⟨_,hx.1⟩,fun n hn=>hwz n (fL hn)⟩;by_cases h0:len=0
  ·exact .inl (by simp[h0])
  ·right
   obtain⟨b,off,spot⟩:=a;have hspot:spot=none:=by simpa[Addr.add] using World.cell?_spot (hcell 0 (by omega))
   subst hspot;have c0: ∀i,i<zs.length->w.cell? ⟨b,off+i,none⟩=some (.int .i64 (zs.getD i 0)):=fun i hi=>by
    have:=hcell i hi;rwa [Go.WideShapes.add_plain] at this
   obtain⟨cs,hcs,_⟩:=GW.of_cell (by have h9:=c0 0 (by omega);rw[fJ] at h9;exact h9);refine⟨b,off,cs,J,hcs,fun i hi=>?_⟩;simp only[aJ,cK] at hi;obtain⟨cs',hcs',hi'⟩:=GW.of_cell (c0 i (by omega));rw[hcs] at hcs'
   cases hcs'
   rw[iR,UH.2 hi'];simp[aF,List.getD,aX (show i<zs.length by omega)]
inductive CSh where
 |b
 |i (k:IntKind)
 |sl (ag:Bool) (l:List CSh)
mutual
def Fit:CSh->DV->Prop
 | .b,d=> ∃b,d= .v (.bool b)
 | .i k,d=> ∃n,d= .v (.int k n)/\(Lit.int k n).wf=true
 | .sl ag l,d=> ∃m:List DV,d= .sl m/\m.length<=maxLen/\ ∀x∈m,∃ys,FitL l ys/\((ag=true/\x= .ag ys)\/(ag=false/\ys=[x]))
def FitL:List CSh->List DV->Prop
 |[],ds=>ds=[]
 |s::l,ds=> ∃d t,ds=d::t/\Fit s d/\FitL l t
end
def flatF(r:TypeId->Option (Bool×List CSh))(P:Program):List Field->Nat->Option (List CSh)
 |[],_=>some []
 |f::fs,o=>match r f.type with
  |some (_,l)=>if f.offset=o/\P.cellsOf f.type=l.length then(flatF r P fs (o+l.length)).map (l++ ·) else none
  |none=>none
def flatT(P:Program):Nat->TypeId->Option (Bool×List CSh)
 |0,_=>none
 |n+1,t=>match P.underlying t with
  |some .bool=>some (false,[.b])
  |some (.int k)=>some (false,[.i k])
  |some (.slice e)=>match flatT P n e with
   |some (a,l)=>if P.cellsOf e=l.length/\0<l.length then some (false,[.sl a l]) else none
   |none=>none
  |some (.struct fs)=>match flatF (flatT P n) P fs.toList 0 with
   |some l=>if P.cellsOf t=l.length then some (true,l) else none
   |none=>none
  |_=>none
section
variable {H:Type} {enc:TypeId×Value->H} {P:Program} {w:World}
end
def shI:List CSh:=[.b, .sl false [.i .u32]]
def shL:List CSh:=shI++(shI++shI)
end Go.Sx
end
section
namespace Go.Proofs.YtochlbkonkgedaaGreatDoor
open Go.ChangeShapes Go.WideShapes Go.ChangeAt Go.RowKit Go.Sx
theorem js1:mapsRowed Tryz.pinned.checked.prog=true:=by kernel_rfl
theorem js2:Tryz.pinned.checked.prog.stopsHeard=true:=by kernel_rfl
theorem js3:Tryz.pinned.checked.prog.mayEnter=true:=by kernel_rfl
theorem js4:laidOutB Tryz.prog=true:=by kernel_rfl
end Go.Proofs.YtochlbkonkgedaaGreatDoor
end
section
namespace Go.Proofs.YtochlbkonkgedaaGreatDoor.buildDenotes
open Go.ChangeShapes Go.WideShapes Go.ChangeAt Go.RowKit Go.Sx
theorem own:ownKnob Tryz.prog.godebug=none:=by kernel_rfl
theorem laidOut:laidOutB Tryz.prog=true:=js4
theorem cellsI:Tryz.prog.cellsOf 3=1:=by kernel_rfl
theorem bytesI:Tryz.prog.bytesOf 3=8:=by kernel_rfl
theorem door_met(os:Os)(args:Array Value):laidMetH Tryz.prog Rows.buildDenotesRow.laid ((World.doorLaid Tryz.prog 81 os).forCall (fun _ _=>0) ⟨#[],args,[]⟩).memory:=
 laidMetH_of_parts3 (fuel:=8) (laidMet_of_run' 8 (by kernel_rfl) (by kernel_rfl)) (by kernel_rfl) (by kernel_rfl)
theorem contract(H:Type)(enc:TypeId×Value->H)(W:World)(base:Nat)(args:Array Value)(ds gs:List (DataW H))(before:List MemPlace)
  (hval: ∀(j:Nat) t v,Tryz.f3.params[j]? =some t->args[j]? =some v->Value.okWide Tryz.prog W .any base t v)
  (hW:DataW.Whole enc Tryz.prog Tryz.f3.params.toList Rows.buildDenotesSpec.vars false W args.toList ds gs before)
  (hz:(DataW.weightsEach Tryz.prog (Tryz.f3.params.toList++(OpenSpec.ofChange Rows.buildDenotesSpec).bare.plain.varTypes Tryz.prog) (ds++gs)).all (· <=reachBytes)=true)(hlaid:laidMetH Tryz.prog Rows.buildDenotesRow.laid W):
  Calls Tryz.prog 3 args W fun e W'=> ∃v,e= .returned v/\Rows.buildDenotesSpec.post enc Tryz.prog Tryz.f3 false true false false W args v W':=by
 have hW':=hW;obtain⟨p,q,hA0,hV,rfl,_,_⟩:=hW;have hA:DataW.TrodAll enc Tryz.prog W 0 (fun _=>true) true Tryz.f3.params.toList args.toList ds p:=hA0;rw[Tryz.params3] at hA hval hz;obtain⟨v0,d0,hargs,rfl,h0⟩:=trodAll_one hA;obtain rfl:args= #[v0]:=by cases args;simp_all
 obtain⟨rfl,rfl⟩:=trodVars_none hV;clear hA0;simp only[List.append_nil] at hW';have hlt: ∀x∈p,x.block<W.heap.size:=fun x hx=>by simpa using hW'.lt x hx
 obtain⟨es,hI,hd,_⟩:=open_vI Tryz.underlying22 Tryz.underlying3 cellsI (hval 0 22 v0 rfl rfl) h0;have hb:es.length<=1125899906842624:=by
  rcases hd with⟨rfl,rfl⟩|⟨sp,rfl⟩
  ·exact Nat.zero_le _
  ·have:=sized_slice hz (j:=0) (t:=22) (e:=3) J J Tryz.underlying22
   rw[bytesI] at this;have hr:=reachBytes_lt;have hl:(lits (H:=H) .i64 es).length=es.length:=by simp[lits]
   rw[hl] at this;omega
 have hf:=(zR (es0:=es) hb) (GW W) [v0] (bD.refl _) (.cons hI .nil);refine(hf.run W (fun b cs hg=>GW.sub hg)).mono fun e W' ⟨v,G',he,hr,hv⟩=>?_;rw[aH] at hv;subst hv;subst he;have hn:=hr.below;have t2:=trodAll_mk1 (Below.trod laidOut (by kernel_rfl) (of_decide_eq_true (by kernel_rfl)) h0 hn hlt);exact⟨_,J,⟨_,_,_,[],_,[],hW',trodAll_mk1 (shut_bool Tryz.underlying4 _),t2,J,hn.frame _,fun h=>by cases h⟩⟩
theorem reads(os:Os){H:Type}(enc:TypeId×Value->H): ∃places,DataW.whole enc Tryz.prog ((World.doorLaid Tryz.prog 81 os).forCall (fun _ _=>0) ⟨#[], #[.slice none 0 0],[]⟩).memory Tryz.f3.params.toList Rows.buildDenotesSpec.vars false #[Value.slice none 0 0].toList 8=some ([.nil],[],places):=
 ⟨[],by kernel_rfl⟩
theorem lifted(os:Os)(started:os.Started)(H:Type)(enc:TypeId×Value->H)(F:Stop.Interp):
  ReturnsInHanded {} Tryz.checked os 3 .any ((OpenSpec.ofChange Rows.buildDenotesSpec).preRow enc Tryz.prog Tryz.f3 Rows.buildDenotesRow.domain false Rows.buildDenotesRow.laid) (((OpenSpec.ofChange Rows.buildDenotesSpec).at F).post enc Tryz.prog Tryz.f3 false true false false):=by
 obtain⟨places,hx⟩:=reads os enc;refine returnsInHanded_of_row (C:=Tryz.checked) (s:=OpenSpec.ofChange Rows.buildDenotesSpec) own started (by kernel_rfl) Tryz.func3
  (witness_row_atRef (enc:=enc) (C:=Tryz.checked) false (World.doorLaid Tryz.prog 81 os) #[.slice none 0 0] rfl (by kernel_rfl) (by kernel_rfl) (by kernel_rfl)
   (OpenSpec.preRow_of_cond 8 hx (by kernel_rfl) (fun k hk=>by cases hk) (by kernel_rfl) (door_met os _))) ?_
 intro W base args ds gs before hval hW _ _ hz hlaid _ _;exact contract H enc W base args ds gs before hval hW hz hlaid
theorem j1:(Rows.buildDenotesRow.inPlace==Tryz.pinned.checked.prog.inPlace 3)=true:=by kernel_rfl
theorem j2:(Rows.buildDenotesRow.unfollowed==Tryz.pinned.checked.prog.unfollowed 3)=true:=by kernel_rfl
theorem j3:(Rows.buildDenotesRow.recurses==Tryz.pinned.checked.prog.recurses 3)=true:=by kernel_rfl
theorem j4:(Rows.buildDenotesRow.named==Tryz.pinned.checked.prog.varsNamed 3)=true:=by kernel_rfl
theorem j5:laidOutB Tryz.pinned.checked.prog=true:=laidOut
theorem j6:mapsRowed Tryz.pinned.checked.prog=true:=js1
theorem j7:Tryz.pinned.checked.prog.mainIs=some (Rows.buildDenotesCard.stood.harness.1,Rows.buildDenotesCard.stood.harness.2.toList):=by kernel_rfl
theorem j8:false=Rows.buildDenotesRow.goesBy Tryz.pinned.checked.prog:=by kernel_rfl
theorem j9:(Rows.buildDenotesRow.plainKeys==Tryz.pinned.checked.prog.plainKeys)=true:=by kernel_rfl
theorem j10:(Rows.buildDenotesRow.lifted==Tryz.pinned.checked.prog.liftsFinal)=true:=by kernel_rfl
theorem j11:(Tryz.pinned.checked.prog.make==some Rows.buildDenotesRow.make)=true:=by kernel_rfl
theorem closed:joinedFacts Tryz.pinned.checked.prog 3 Tryz.f3 (OpenSpec.ofChange Rows.buildDenotesSpec).bare Rows.buildDenotesRow=true:=by
 unfold joinedFacts;rw[j1,j2,j3,j4,j5,j6,j9,j10,j11,js2,js3]
 kernel_rfl
theorem said:Rows.BuildDenotesSaid:=
 OpenClaim.holds_of_cond 3 Tryz.f3 J J J J J J J ⟨J,J,J,J,J⟩ J J J J J (by kernel_rfl) Tryz.func3 closed
  (of_decide_eq_true (by kernel_rfl)) (by unfold Func.isWrapper;first|(rw[if_pos (by decide+kernel)];kernel_rfl)|(rw[if_neg (by decide+kernel)];exact⟨J,J⟩))
  (fun os started H enc _ F=>by rw[OpenClaim.pre_eq_preRow];exact lifted os started H enc F)
theorem plain(f:FuncId)(fn:Func)(hf:Tryz.pinned.checked.prog.funcNamed "bspregion/bspregionlaw18.BuildDenotes" =some f)(hfn:Tryz.pinned.checked.prog.funcs[f]? =some fn):
  true=Tryz.pinned.checked.prog.looks []/\ ∀(j:Nat) t,fn.params[j]? =some t->Tryz.pinned.checked.prog.wantsStandIn t=false:=by
 obtain rfl:f=3:=Option.some.inj ((show Tryz.prog.funcNamed "bspregion/bspregionlaw18.BuildDenotes" =some 3 by kernel_rfl).symm.trans hf) |>.symm;obtain rfl:fn=Tryz.f3:=(Option.some.inj (Tryz.func3.symm.trans hfn)).symm;refine⟨by kernel_rfl,fun j t ht=>?_⟩;rw[Tryz.params3] at ht;have hm:=Array.mem_of_getElem? ht;simp only[List.mem_toArray,List.mem_cons,List.not_mem_nil,or_false] at hm;subst hm;exact(show Tryz.prog.wantsStandIn 22=false by kernel_rfl)
theorem card:Rows.BuildDenotesCardSaid:=
 Claim7.holds_tied_plain_at .later [] _ _ _ _ said (fun _ h=>by cases h) (by kernel_rfl) (fun _ h=>by cases h) buildDenotes_row_tie J ⟨J,J⟩ j7 J plain j8
#print axioms card
end Go.Proofs.YtochlbkonkgedaaGreatDoor.buildDenotes
end
