import Derived.Test.YtbllnkhngjedjaaGreatDoorPt21
import Derived.Test.YtbllnkhngjedjaaGreatDoorCards
import Derived.Test.YtbllnkhngjedjaaGreatDoorTie
import Derived.WalkKit
import Derived.ProofKit
import Derived.OpenShut
import Derived.Deep.DeepHandedRow
import Derived.Deep.DeepWitnessRowRef
import Derived.LaidMore
import Derived.Lib.LaidTab
import Derived.SizedLaws
import Derived.Stop.LaidErr
import Derived.MakeChecks
set_option linter.all false
set_option maxHeartbeats 4000000
set_option maxRecDepth 100000
section
namespace Go.Sx
open Go Go.Proofs Tryz
variable {GB:Gh}
def zP{ds:List aa}{i:Nat}(hb: ∀d∈ds,aC d i)(hi:i<=10000000)(hn:ds.length<=10000000)(ht:wb ds):PW GB prog 143 [none,some (.v (.func (.func 144) #[] #[]))] 6 92 (ds.map eZ) (.tp []) ((pn co ds).map eZ):=
 WK (GB:=GB) Tryz.sortPt ⟨_,func143,J,J⟩ isAgg92 sizeOf92 eZ (fun d=>aC d i) (fun x=>⟨_,J,J,J⟩) co SM ⟨_,func144,J,J⟩ (fun x y hx hy=>Hc (i:=i) (j:=i) hi hi) hb (by omega)
  (fun x hx y hy h k=>ht x hx y hy (ES (by rw[<-m6];exact h) (by rw[<-m6];exact k)))
def yD{ds:List aa}{i:Nat}(hb: ∀d∈ds,aC d i)(hi:i<=10000000)(hn:ds.length<=10000000)(ht:wb ds):PB GB prog 82 (dP [none]) 6 92 (ds.map eZ) (fun w=> .v (.slice w.a w.n w.c)) ((ij ds).map eZ):=by
 have hsm: ∀d∈pn co ds,aC d i:=fun d hd=>hb d ((x5 co ds).mem_iff.1 hd);have hsl:(pn co ds).length=ds.length:=(x5 co ds).length_eq;refine vp func82 J J ntmps82 J J (fun C=>?_);refine cw _ J (zP hb hi hn ht) J J<|cq ((ij ds).map eZ) J (Uk (i0:=i) hsm (by omega) hi) (by rw[Rz ht]) J<|?_;exact oz J J J J
theorem zS{t:Tr}(hb:t.all LB)(p:aa): ∀d∈dH t p,aC d 500:=fun d hd=>by
 obtain⟨l,h1,h2⟩:=qf.1 hd;haveI:=r6.1 hb l (o5 h1).1;rcases h2 with rfl|rfl<;>infer_instance
theorem zZ{ds:List aa}{i:Nat}(h: ∀d∈ds,aC d i)(h2:2<=i): ∀v∈js ds,aC v (i+i+1):=fun v hv=>by
 have up: ∀{q:aa},aC q i->aC q (i+i+1):=fun hq=>⟨hq.x.mono (by omega),hq.y.mono (by omega)⟩;unfold js at hv;split at hv
 .rw[aU] at hv
  subst hv;exact⟨BQ.mono (k:=2) ⟨by decide,by decide⟩ (by omega),BQ.mono (k:=2) ⟨by decide,by decide⟩ (by omega)⟩
 .obtain⟨k,hk,rfl⟩:=bQ.1 hv
  have hk':=jS.1 hk;have g: ∀{j:Nat},j<ds.length->aC (ds.getD j ⟨0,0⟩) i:=fun{j} hj=>by
   rw[aX,aQ hj];exact h _ (bL hj)
  haveI:=g hk';haveI:=g (cS (k+1) (show 0<ds.length by omega));unfold oO;split
  .exact inferInstance
  .exact up inferInstance
def zR(ds:List aa):(js ds).length<=ds.length+1:=by
 unfold js;split
 .simp
 .rw[aJ,lR];omega
def zH{vs:List aa}{f:aa->Bool}{k:Nat}{v:aa}(h:vs[k]? =some v):(vs.drop k).any f=(f v||(vs.drop (k+1)).any f):=by
 obtain⟨h1,h2⟩:=aY.1 h;rw[bX h1,h2,List.any_cons]
def zI{vs:List aa}{f:aa->Bool}{k:Nat}{v:aa}(h:vs[k]? =some v):(vs.drop k).all f=(f v&&(vs.drop (k+1)).all f):=by
 obtain⟨h1,h2⟩:=aY.1 h;rw[bX h1,h2,List.all_cons]
def zM{b c:Bool}:PF GB prog 85 [vB b,vB c] (vI (if b&&c then 2 else if b then 1 else 0)):=by
 refine fn func85 J J ntmps85 J J (fun C=>?_);refine ji 7 J J J (fun hg7=>?_) (fun hg7=>?_)
 .refine bb J J J (fun hc5=>?_) (fun hc5=>?_)
  .exact rz J (by subst hg7 hc5;rfl)
  .refine bb J J J (fun hc10=>?_) (fun hc10=>?_)
   .exact rz J (by subst hg7 hc5;rfl)
   .subst hg7;cases hc10
 .refine bb J J J (fun hc10=>?_) (fun hc10=>?_)
  .subst hg7;cases hc10
  .exact rz J (by subst hg7;rfl)
def zO{t:Tr}{p:aa}{i:Nat}[hp:aC p i](hb:t.all LB)(ho:t.all ab.ok)(hs:t.size<=400000)(hi:i<=10000000:=by decide):PF GB prog 33 [eU t,eZ p] (vI (xq t p)):=by
 have hrl:=Dp t p;have hrb:=zS hb p;have hrt:=ayL ho p;have hdb: ∀d∈ij (dH t p),aC d 500:=fun d hd=>hrb d ((NL hrt d).1 hd);have hdl:(ij (dH t p)).length<=(dH t p).length:=by rw[<-Rz hrt];exact cY (auH _) (Nat.le_of_eq (x5 co _).length_eq)
 have hsb:=zZ hdb (by decide);obtain⟨vs,hvs⟩: ∃vs,vs=js (ij (dH t p)):=⟨_,rfl⟩;have hvl:vs.length<=(ij (dH t p)).length+1:=by rw[hvs];exact zR _
 rw[<-hvs] at hsb;have hml:(vs.map eZ).length=vs.length:=aJ ..;refine fn func33 J J ntmps33 J J (fun C=>?_);refine Kx ((dH t p).map eZ) J (Bt (p:=p) (o:=[]) hi hb (by rw[fV];omega)) J J<|cq ((ij (dH t p)).map eZ) J (yD hrb (by decide) (by omega) hrt) J J<|?_;refine fz 14 J J<|cl (fu:=⟨0⟩) J (XL (ds:=ij (dH t p)) (i:=500) hdb (by omega)) J<|?_;refine ak 15 (.d (.sl (vs.map eZ))) J (by rw[hvs]) ?_;refine gx (fu:=⟨1⟩) J<|?_;refine ak 16 (.d (vI (vs.length:Nat))) J (by rw[hml]<;>rfl) ?_;refine gx J<|?_;refine Lx 5 _ J J ?_;refine Lx 6 _ J J ?_;refine lp (X:=Bool×Bool×Nat) (fun⟨a,c,k⟩=>[(17, .d (vI (k:Nat))),(5, .d (vB a)),(6, .d (vB c))]) (fun⟨a,c,k⟩=>[]) (fun⟨a,c,k⟩=>(a||(vs.drop k).any (fun v=>(gk t p v).1))=tq t p/\(c&&(vs.drop k).all (fun v=>(gk t p v).1))=EP t p/\k<=vs.length) (fun⟨a,c,k⟩=>vs.length-k) ⟨false,true,0⟩ J ⟨by rw[hvs];simp[tq],by rw[hvs];simp[EP],aN _⟩ (fun _=>J) (fun⟨a,c,k⟩ hk=>?_)
 try dsimp only at hk⊢
 obtain⟨h1,h2,h3⟩:=hk;refine br J J J (fun hc18=>?_) (fun hc18=>?_)
 .
  obtain⟨v,hx⟩: ∃v,vs[k]? =some v:=⟨_,aQ (by omega)⟩;haveI:=hsb v (aV hx);refine ix _ J (cA hx) J<|cl J (Wz (t:=t) (p:=p) (v:=v) (i:=i) (j:=500+500+1) hb hi (by decide)) J<|?_;refine bb J J J (fun hc28=>?_) (fun hc28=>?_)
  .
   refine Py 5 _ J J ?_;exact at_ ⟨true,c,k+1⟩ (by dsimp only;exact⟨⟨by rw[<-h1,zH hx,hc28];simp,by rw[<-h2,zI hx,hc28];simp,by omega⟩,(by omega)⟩)
  .
   refine Py 6 _ J J ?_;exact at_ ⟨a,false,k+1⟩ (by dsimp only;exact⟨⟨by rw[<-h1,zH hx,hc28];simp,by rw[<-h2,zI hx,hc28];simp,by omega⟩,(by omega)⟩)
 .
  obtain rfl:k=vs.length:=by omega
  rw[fY] at h1 h2;have e1:a=tq t p:=by simpa using h1
  have e2:c=EP t p:=by simpa using h2
  refine cl J (zM (b:=a) (c:=c)) J<|?_;exact rz J (by rw[e1,e2];rfl)
def yC{k i:Nat}{t:Tr}{p:aa}[hp:aC p i](h:ie k t)(hi:i<=10000000:=by decide):PF GB prog 13 [eA t,jr p] (.tp [vI (xq t p), .v .nilIface]):=by
 have hts:=h.s;refine fn func13 J J ntmps13 J J (fun C=>?_);refine cl (fu:=⟨11⟩) J (Hm h) J<|?_;refine lG 13 J ?_;refine gx J<|cl J (IZ (p:=p) (i:=i) (by omega)) J<|cl J (zO (t:=t) (p:=p) (i:=i) h.lb h.ok (by omega) hi) J<|?_;exact rz J J
def zT{b:Nat}{es:List Int}(hes:es.length<=400){A:Tr}(hA:A=(eD es 1 0).1):PM GB prog 6 (iH [none,some (vI 1)] b) b 64 [.sl (es.map vI), .v (.int .i64 (0:Nat))] (eT A) [.sl (es.map vI), .v (.int .i64 ((eD es 1 0).2:Nat))]:=by
 subst hA;exact aCO hes (aN _) (d:=1) (by decide)
def zJ{ts:List (List aa)}{i:Nat}(ht: ∀r∈ts,∃a b d,r=[a,b,d]/\0<bD a b d)(hb: ∀r∈ts,∀p∈r,aC p i)(hi:i<=20000)(hn:ts.length<=100000000):PF GB prog 24 [.sl (ts.map pz)] (.tp [.sl (ts.map l9), .v .nilIface]):=by
 have hm1:(ts.map pz).length=ts.length:=aJ ..;have hm2:(ts.map l9).length=ts.length:=aJ ..;refine fn (fu:=⟨16⟩) func24 J J ntmps24 J J (fun C=>?_);refine ak 12 (.d (vI (ts.length:Nat))) J (by rw[hm1]<;>rfl) ?_;refine gx J<|?_;refine nr 4 4 76 1 J J J ?_;refine lp (X:=Nat) (fun k=>[(13, .d (vI (k:Nat))),(4, .rw 4)]) (fun k=>[(4,some (.b 76 1 ((ts.take k).map l9) true))]) (fun k=>k<=ts.length) (fun k=>ts.length-k) 0 J (aN _) (fun _=>J) (fun k hk=>?_);have hm3:((ts.take k).map l9).length<=k:=by rw[aJ,cJ];omega
 refine br (fu2:=⟨0⟩) J J J (fun hc14=>?_) (fun hc14=>?_)
 .
  obtain⟨r,hx⟩: ∃u,ts[k]? =some u:=⟨_,aQ (by omega)⟩;obtain⟨a,b,d,hr,hpos⟩:=ht r (aV hx);have hrb:=hb r (aV hx);subst hr;obtain⟨hg1,hg2⟩:=aHc (fun e=>by rw[e] at hpos;exact absurd hpos (by decide));refine ix _ J (cA hx) J<|cl (fu:=⟨11⟩) J (WU (v:=[a,b,d]) (i:=i) hrb (by omega) (by simp) hg1 hg2) J<|ck J J J<|rf J J<|?_;refine ap ((ts.take (k+1)).map l9) J (by rw[eY,hx,bY]<;>rfl) (Sf [[a,b,d]]) J<|?_;refine fE 28 4 J ?_;exact at_ (k+1) ⟨(by omega),(by omega)⟩
 .
  obtain rfl:k=ts.length:=by omega
  rw[dW];refine u' 4 J ?_;refine gx (fu:=⟨10⟩) J<|?_;refine ak 31 (.d (vI (ts.length:Nat))) J (by rw[hm2]<;>rfl) ?_;refine gx J<|?_;refine lp (X:=Nat) (fun k=>[(32, .d (vI (k:Nat)))]) (fun k=>[]) (fun k=>k<=ts.length) (fun k=>ts.length-k) 0 J (aN _) (fun _=>J) (fun k hk=>?_);refine br J J J (fun hc33=>?_) (fun hc33=>?_)
  .
   obtain⟨r,hx⟩: ∃u,ts[k]? =some u:=⟨_,aQ (by omega)⟩;obtain⟨a,b,d,hr,hpos⟩:=ht r (aV hx);have hrb:=hb r (aV hx);subst hr;refine ix (fu:=⟨8⟩) _ J (cA hx) J<|?_;refine ak 37 (.d (vI 3)) J J ?_;refine gx (fu:=⟨0⟩) J<|ck J (by show some (decide _)=some false;rw[decide_eq_false (by omega)]) J<|cl (fu:=⟨0⟩) J (aDw (a:=a) (b:=b) (d:=d) (i:=i) hrb (by omega) hpos) J<|?_;refine lG 41 J ?_;refine gx J<|?_;exact at_ (k+1) ⟨(by omega),(by omega)⟩
  .
   obtain rfl:k=ts.length:=by omega
   exact rz J J
def zX{p:aa}{ts:List (List aa)}{k:Nat}{r:List aa}(hx:ts[k]? =some r)(h:oc p r=true):lg p ts (k+1)=lg p ts k++[(k:Int)]:=by
 rw[lg,aX,hx,iK,if_pos h]
def yE{p:aa}{ts:List (List aa)}{k:Nat}{r:List aa}(hx:ts[k]? =some r)(h:oc p r=false):lg p ts k=lg p ts (k+1):=by
 rw[lg,aX,hx,iK,h];simp
def zU{ts:List (List aa)}{i:Nat}(ht: ∀r∈ts,∃a b d,r=[a,b,d]/\0<bD a b d)(hb: ∀r∈ts,∀p∈r,aC p i)(hi:i<=20000)(hn:ts.length<=100000000){p:aa}[hp:aC p i]:PF GB prog 12 [.sl (ts.map pz),jr p] (.tp [.sl ((lg p ts ts.length).map vI), .v .nilIface]):=by
 have hm1:(ts.map pz).length=ts.length:=aJ ..;have hm2:(ts.map l9).length=ts.length:=aJ ..;refine fn func12 J J ntmps12 J J (fun C=>?_);refine cl (fu:=⟨11⟩) J (zJ ht hb hi hn) J<|ck J J J<|cl (fu:=⟨14⟩) J (IZ (p:=p) (i:=i) (by omega)) J<|?_;refine ak 23 (.d (vI (ts.length:Nat))) J (by rw[hm2]<;>rfl) ?_;refine gx J<|?_;refine nr 9 9 3 1 J J J ?_;refine lp (X:=Nat) (fun k=>[(24, .d (vI (k:Nat))),(9, .rw 9)]) (fun k=>[(9,some (.b 3 1 ((lg p ts k).map vI) true))]) (fun k=>k<=ts.length) (fun k=>ts.length-k) 0 J (aN _) (fun _=>J) (fun k hk=>?_);have hfl:=LR p ts k;have hm3:((lg p ts k).map vI).length<=k:=by rw[aJ];exact hfl
 refine br J J J (fun hc25=>?_) (fun hc25=>?_)
 .
  obtain⟨r,hx⟩: ∃u,ts[k]? =some u:=⟨_,aQ (by omega)⟩;obtain⟨a,b,d,hr,hpos⟩:=ht r (aV hx);have hrb:=hb r (aV hx);subst hr;refine ix _ J (cA hx) J<|cl J (aF8 (a:=a) (b:=b) (d:=d) (p:=p) (i:=i) hrb (by omega)) J<|?_;refine bb J J J (fun hc31=>?_) (fun hc31=>?_)
  .
   refine rf J J<|ap ((lg p ts (k+1)).map vI) J (by rw[zX hx hc31,bY]<;>rfl) (Y7 [(k:Int)]) J<|?_;refine fE 35 9 J ?_;exact at_ (k+1) ⟨(by omega),(by omega)⟩
  .
   rw[yE hx hc31];exact at_ (k+1) ⟨(by omega),(by omega)⟩
 .
  obtain rfl:k=ts.length:=by omega
  refine gI 9 J ?_;exact rz J J
theorem zG{a b d:aa}{i:Nat}(hb: ∀u∈[a,b,d],aC u i)(k:Nat):BQ (b7 (fun x:aa×aa=>x.1.cross x.2) ((jc [a,b,d]).take k)) (16*i+20):=by
 haveI:=hb a (by simp);haveI:=hb b (by simp);haveI:=hb d (by simp);rw[show jc [a,b,d]=[(a,b),(b,d),(d,a)] by unfold jc;simp[pU]];haveI z:BQ (0:Rat) 1:=⟨by decide,by decide⟩
 match k with
 |0=>exact z.mono (by omega)
 |1=>
  show BQ (a.cross b+0) _;exact BQ.mono (inferInstance:BQ (a.cross b+0) _) (by omega)
 |2=>
  show BQ (a.cross b+(b.cross d+0)) _;exact BQ.mono (inferInstance:BQ (a.cross b+(b.cross d+0)) _) (by omega)
 |k+3=>
  rw[aS (by simp)];show BQ (a.cross b+(b.cross d+(d.cross a+0))) _;exact BQ.mono (inferInstance:BQ (a.cross b+(b.cross d+(d.cross a+0))) _) (by omega)
theorem zQ{a b d:aa}{i:Nat}(hb: ∀u∈[a,b,d],aC u i):BQ (iC [a,b,d]) (16*i+20):=by
 have:=zG hb 3;rwa [aS (by unfold jc;simp)] at this
def zA(ts:List (List aa))(k:Nat):Rat:=b7 (fun r=>iC r*mkRat 1 2) (ts.take k)
def zN{ts:List (List aa)}{k:Nat}{r:List aa}(hx:ts[k]? =some r):zA ts (k+1)=zA ts k+iC r*mkRat 1 2:=F2 _ hx
def zV{ts:List (List aa)}{i:Nat}(ht: ∀r∈ts,∃a b d,r=[a,b,d]/\0<bD a b d)(hb: ∀r∈ts,∀p∈r,aC p i)(hi:i<=20000)(hn:ts.length<=100000000){m:Nat}(hs: ∀k,BQ (zA ts k) m)(hm:m<=100000000):PF GB prog 10 [.sl (ts.map pz)] (.tp [eR (zA ts ts.length), .v .nilIface]):=by
 have hm1:(ts.map pz).length=ts.length:=aJ ..;have hm2:(ts.map l9).length=ts.length:=aJ ..;obtain⟨S,hS⟩: ∃S:Nat->Rat,S=zA ts:=⟨_,rfl⟩;have hSk: ∀k,BQ (S k) m:=by rw[hS];exact hs
 have h00:S 0=0:=by rw[hS];rfl
 rw[<-hS];refine fn func10 J J ntmps10 J J (fun C=>?_);refine cl (fu:=⟨11⟩) J (zJ ht hb hi hn) J<|ck (fu:=⟨15⟩) J J J<|?_;refine ak 19 (.d (vI (ts.length:Nat))) J (by rw[hm2]<;>rfl) ?_;refine gx J<|?_;refine IQ 6 [vI (cH (S 0)),vI (cG (S 0)),cP (S 0)] rfl (fun G m=>by rw[h00];exact zF) J ?_;refine lp (X:=Nat) (fun k=>[(20, .d (vI (k:Nat))),(6, .ov 6 0)]) (fun k=>[(6,some (.o 83 [.d (vI (cH (S k))), .d (vI (cG (S k))), .d (cP (S k))] true))]) (fun k=>k<=ts.length) (fun k=>ts.length-k) 0 J (aN _) (fun _=>J) (fun k hk=>?_);haveI:=hSk k;refine br J J J (fun hc21=>?_) (fun hc21=>?_)
 .
  obtain⟨r,hx⟩: ∃u,ts[k]? =some u:=⟨_,aQ (by omega)⟩;obtain⟨a,b,d,hr,hpos⟩:=ht r (aV hx);have hrb:=hb r (aV hx);subst hr;have eS:S (k+1)=S k+iC [a,b,d]*mkRat 1 2:=by rw[hS];exact zN hx
  haveI hab:=zQ hrb;haveI:BQ (iC [a,b,d]*mkRat 1 2) (16*i+22):=BQ.mono (inferInstance:BQ (iC [a,b,d]*mkRat 1 2) _) (by omega);refine ix _ J (cA hx) J<|cl J (Vo (v:=[a,b,d]) (b:=i) (m:=16*i+20) hrb (by simp) (zG hrb) (by omega) (by omega)) J<|?_;refine cl (fu:=⟨0⟩) J (pj (p:=S k) (q:=iC [a,b,d]*mkRat 1 2) (i:=m) (j:=16*i+22) (by omega) (by omega)) J<|?_;refine ak 27 (.d (eF (S (k+1)))) J (by rw[eS]) ?_;refine gx (hv:=by simp only[ah];exact⟨by kernel_rfl,by omega⟩) J<|?_;exact at_ (k+1) ⟨(by omega),(by omega)⟩
 .
  obtain rfl:k=ts.length:=by omega
  haveI:=hSk ts.length;refine cl J (CS (q:=S ts.length) (i:=m) (by omega)) J<|?_;exact rz J J
def zL{k0:Nat}{t:Tr}(h:ie k0 t)(hk:k0<=48):((ce t).flatMap gl).length<=2^18:=by
 have h1:=Cb (f:=gl) (k:=48) (l:=ce t) fun c hc=>cY (Na c) (cY (vY h.lb h.ok c hc) (cY h.dp hk));have h2:=wA t;have h3:=h.s;have:(ce t).length*48<=3001*48:=bW 48 (by omega);omega
theorem zY{k0:Nat}{t:Tr}(h:ie k0 t)(hk:k0<=48):Ha (ce t) 1200/\(∀k,BQ (b7 (fun x=>x.1.cross x.2) ((gr (fi (ce t))).take k)) 2000000)/\ ∀k,BQ (zA ((ce t).flatMap gl) k) 2000010:=by
 obtain⟨D,hD0,hD1,hv⟩:=WR h;have hDa:D<=2^887040:=by
  generalize hE:887040=kE;exact cY hD1 (bU (by decide) (by
   have:k0*k0<=48*48:=iW hk hk;omega))
 obtain⟨B,hB⟩: ∃B,B=2^385:=⟨_,rfl⟩;rw[<-hB] at hv;have sqp: ∀X a b:Nat,X=2^a->a+a=b->X*X=2^b:=fun X a b h k=>by rw[h,<-k,fK]
 have hBB:B*B=2^770:=sqp B 385 770 hB J;have ha: ∀r∈(ce t).flatMap gl,DQ (D*D) (3*(2*(B*B))) (iC r):=fun r hr=>by
  obtain⟨c,hc,hr⟩:=fZ.1 hr;have hm:=QS (show r∈rA (gh (c.map (·.l))) from hr);obtain⟨i,_,hri⟩:=bQ.1 (show r∈(List.range ((gh (c.map (·.l))).length-2)).map (pC (gh (c.map (·.l)))) from hr);obtain⟨a,b,d,habd⟩: ∃a b d,r=[a,b,d]:=⟨_,_,_,hri.symm⟩;subst habd;have ha:=hm a (by simp);have hb:=hm b (by simp);have hd:=hm d (by simp);rw[Lq];unfold xl;exact(((((hv c hc a ha).cross (hv c hc b hb)).add ((hv c hc b hb).cross (hv c hc d hd))).add ((hv c hc d hd).cross (hv c hc a ha)))).mono (by omega)
 have hx: ∀x∈gr (fi (ce t)),DQ (D*D) (3*(2*(B*B))) (x.1.cross x.2)/\aC x.1 1200/\aC x.2 1200:=fun x hx=>by
  obtain⟨c,hc,h1,h2⟩:=aC9 hx;have hb: ∀l∈c.map (·.l),LB l:=fun l hl=>by
   obtain⟨s,hs,rfl⟩:=bQ.1 hl;exact Ax h.lb h.ok c hc s hs
  exact⟨((hv c hc _ h1).cross (hv c hc _ h2)).mono (by omega),HV hb _ h1,HV hb _ h2⟩
 have hn:2^18*(3*(2*(B*B)))<=2^792:=by rw[hBB];decide+kernel
 refine⟨⟨Ax h.lb h.ok,fun c hc=>?_,?_,fun x h=>(hx x h).2⟩,fun k=>Nm (Pz (fun x h=>(hx x h).1) (Vf h hk) k) (iT hD0 hD0) (Ma hDa hDa) hn,fun k=>?_⟩
 .have:=vY h.lb h.ok c hc;have:=h.dp;omega
 .have:=wA t;have:=h.s;omega
 .have hq:BQ (b7 iC (((ce t).flatMap gl).take k)) 2000000:=Nm (Pz ha (zL h hk) k) (iT hD0 hD0) (Ma hDa hDa) hn
  have e:zA ((ce t).flatMap gl) k=b7 iC (((ce t).flatMap gl).take k)*mkRat 1 2:=by
   unfold zA;rw[qW,<-B7];exact yo fun r _=>qW _ _
  rw[e];haveI:=hq;exact BQ.mono (inferInstance:BQ (b7 iC (((ce t).flatMap gl).take k)*mkRat 1 2) _)
def zW{k0:Nat}{t:Tr}(h:ie k0 t)(hk0:k0<=48)(hbd:(ce t).all dE=true)(ha:BQ (vy t) 2000010):PF GB prog 11 [eA t] (.tp [eR (vy t), .v .nilIface]):=by
 obtain⟨hed,har,_⟩:=zY h hk0;refine fn func11 J J ntmps11 J J (fun C=>?_);refine cl J (Zx h (by omega) hbd) J<|cl J (YZ hed (by decide) har (by decide) (fun x hx=>by
  haveI:=(hed.pt x hx).1;haveI:=(hed.pt x hx).2;exact BQ.mono (inferInstance:BQ (x.1.cross x.2) _))) J<|cl J (CS (q:=vy t) (i:=2000010)) J<|?_
 exact rz J J
def yB{b:Nat}{es:List Int}(hes:es.length<=400){a:Nat}(ha:a<=es.length){p:aa}(hp:p=(si es a).1):PM GB prog 8 (iH [none] b) b 64 [.sl (es.map vI), .v (.int .i64 (a:Nat))] (eP p) [.sl (es.map vI), .v (.int .i64 ((si es a).2:Nat))]:=by
 subst hp;exact Un hes ha
def zB{ai al ae au:Addr}(hE:yz GB ai al ae au){es0:List Int}(hb:es0.length<=1125899906842624):PF GB prog 3 [.sl (es0.map vI)] (.v (.bool true)):=by
 obtain⟨es,hee⟩: ∃es,es=es0.take 400:=⟨_,rfl⟩;have hes:es.length<=400:=by rw[hee];simp;omega
 obtain⟨A,hAe⟩: ∃A,A=(eD es 1 0).1:=⟨_,rfl⟩;obtain⟨hA,hbd,hal,hr⟩:=aFd (es:=es) (a:=0) (d:=1) (aN _) (by decide);rw[<-hAe] at hA hbd hr;obtain⟨ts,hts⟩: ∃ts,ts=(ce A).flatMap gl:=⟨_,rfl⟩;have htb:=LA hA;rw[<-hts] at htb;have hpos:=ayi hA.ok hbd hts;have hsum:zA ts ts.length=vy A:=by unfold zA;rw[dW];exact UH hA.ok hbd hts
 have hsb: ∀k,BQ (zA ts k) 2000010:=fun k=>by rw[hts];exact(zY hA (by decide)).2.2 k
 obtain⟨p,hpe⟩: ∃p,p=(si es (eD es 1 0).2).1:=⟨_,rfl⟩;haveI hpb:aC p 1200:=by rw[hpe];exact(Yl hal).1
 have har:BQ (vy A) 2000010:=by rw[<-hsum];exact hsb _
 haveI:=har;have hany:=Xq hA.ok hbd hts p;have hfa:=QG p ts ts.length (aM _);rw[dW,hany] at hfa;have hfl:((lg p ts ts.length).map vI).length=(lg p ts ts.length).length:=aJ ..;refine fn func3 J J ntmps3 J J (fun C=>?_);refine cn J ((V' hb hee)) (fun _=>J) (fun _=>?_);refine cm J (fun b=>(zT hes hAe)) J<|cl J (SU hA) J<|cm J (fun b=>(yB hes hal hpe)) J<|cl J (LL (p:=p) (i:=1200)) J<|?_;refine cl J (SW hE hA (by decide) hr hbd hts (fun r hr=>⟨(htb.2 r hr).1,by rw[(htb.2 r hr).2];decide⟩) (by omega)) J<|cl J (zV hpos (i:=1200) (fun r hr=>(htb.2 r hr).1) (by decide) (by omega) hsb (by decide)) J<|?_;refine cl J (zW hA (by decide) hbd har) J<|cl J (zU hpos (i:=1200) (fun r hr=>(htb.2 r hr).1) (by decide) (by omega) (p:=p)) J<|?_;refine cl J (yC (p:=p) (i:=1200) hA) J<|cl (fu:=⟨0⟩) J (awi hE) J<|?_;refine lG 51 J ?_;refine gx (fu:=⟨2⟩) J<|cB (fu:=⟨3⟩) J J J<|cB (fu:=⟨3⟩) J J J<|cB (fu:=⟨3⟩) J J J<|cB (fu:=⟨3⟩) J J J<|cB J J J<|cl (fu:=⟨0⟩) J (Uz (p:=zA ts ts.length) (q:=vy A) (i:=2000010) (j:=2000010) (hp:=hsb _) (by decide)) J<|?_;refine ak 75 (.d (.v (.bool true))) J (by rw[decide_eq_true hsum]<;>rfl) ?_;refine lG 75 J ?_;refine gx (fu:=⟨4⟩) J<|?_;refine ak 79 (.d (vI ((lg p ts ts.length).length:Nat))) J (by rw[hfl]<;>rfl) ?_;refine gx J<|?_;exact rz J (by show DV.v (.bool (decide _==decide _))= .v (.bool true);rw[hfa];simp)
end Go.Sx
end
section
namespace Go.Sx
open Go Go.Proofs Go.ChangeShapes Go.WideShapes Go.ChangeAt Go.RowKit
def GW(w:World):Gh:=fun b=>match w.heap[b]? with|some (.cells cs _ _)=>some cs.toList|_=>none
def GW.sub{w:World}{b:Nat}{cs:List Value}(h:GW w b=some cs): ∃ty fz,w.heap[b]? =some (.cells ⟨cs⟩ ty fz):=by
 unfold GW at h;split at h
 .rename_i c t f e
  cases h
  exact⟨t,f,by rw[e]⟩
 .cases h
def GW.of_cell{w:World}{b off:Nat}{v:Value}(h:w.cell? ⟨b,off,none⟩=some v): ∃cs,GW w b=some cs/\cs[off]? =some v:=by
 unfold World.cell? at h;unfold GW;split at h
 .rename_i c t f e
  simp only at e;refine⟨c.toList,by rw[e],?_⟩;simpa using h
 all_goals first|(rename_i e;cases h)|cases h
def bt.below{w w':World}{G G':Gh}{own:List aw}(h:bt ⟨w,G,[],[],[],none,fun _=>none⟩ own G' w'):Below w.heap.size w w':=
 ⟨h.os,h.tape,h.output,h.size,fun k hk=>h.keep k hk (by simp)⟩
def isLs_vI{G:Gh}: ∀es:List Int,IsLs G (es.map vI) (es.map fun n=>Value.int .i64 n)
 |[]=> .nil
 |n::t=> .cons (bc.2 J) (isLs_vI t)
def open_vI{base:Nat}{H:Type}{enc:TypeId×Value->H}{P:Program}{w:World}{t e:TypeId}{v:Value}{d:DataW H}{ps:List MemPlace}(ht:P.underlying t=some (.slice e))(he:P.underlying e=some (.int .i64))(hc:P.cellsOf e=1)
  (hv:Value.okWide P w .any base t v)(h:DataW.Trod enc P w 0 (fun _=>true) true t v d ps):
  ∃es:List Int,Is (GW w) (.sl (es.map vI)) v/\(d= .nil/\es=[]\/ ∃sp,d= .slice (lits .i64 es) sp)/\(∀n∈es,(Lit.int .i64 n).wf=true):=by
 obtain⟨a0,len,cap,rfl⟩:=okWide_slice ht hv;obtain⟨fuel,hf⟩:=h;rcases open_ints ht he hc hf with⟨hcs,hx⟩|⟨a,len',cap',zs,hcs,_,hl,hm,hz,hx,hcell,hwz⟩
 .simp[Value.cells] at hcs
  obtain⟨rfl,rfl,rfl⟩:=hcs;simp only[Prod.mk.injEq] at hx;exact⟨[],iG.2 ⟨0,⟨none,0,0⟩,[],J,fe.nil _ 0, .nil⟩, .inl ⟨hx.1,J⟩,by simp⟩
 .simp[Value.cells] at hcs
  obtain⟨rfl,rfl,rfl⟩:=hcs;simp only[Prod.mk.injEq] at hx;simp only[if_true] at hz;refine⟨zs.take len,iG.2 ⟨1,⟨some a,len,cap⟩,(zs.take len).map fun n=>Value.int .i64 n,J,⟨by simp;omega,hl,?_⟩,isLs_vI _⟩, .inr ⟨_,hx.1⟩,fun n hn=>hwz n (dJ hn)⟩;by_cases h0:len=0
  .exact .inl (by simp[h0])
  .right
   obtain⟨b,off,spot⟩:=a;have hspot:spot=none:=by simpa[Addr.add] using World.cell?_spot (hcell 0 (by omega))
   subst hspot;have c0: ∀i,i<zs.length->w.cell? ⟨b,off+i,none⟩=some (.int .i64 (zs.getD i 0)):=fun i hi=>by
    have:=hcell i hi;rwa [Go.WideShapes.add_plain] at this
   obtain⟨cs,hcs,_⟩:=GW.of_cell (by have h9:=c0 0 (by omega);rw[fX] at h9;exact h9);refine⟨b,off,cs,J,hcs,fun i hi=>?_⟩;simp only[aJ,cJ] at hi;obtain⟨cs',hcs',hi'⟩:=GW.of_cell (c0 i (by omega));rw[hcs] at hcs'
   cases hcs'
   rw[iU,Ww.2 hi'];simp[aG,List.getD,aQ (show i<zs.length by omega)]
inductive CSh where
 |b
 |i (k:IntKind)
 |sl (ag:Bool) (l:List CSh)
mutual
def Fit:CSh->DV->Prop
 | .b,d=> ∃b,d= .v (.bool b)
 | .i k,d=> ∃n,d= .v (.int k n)/\(Lit.int k n).wf=true
 | .sl ag l,d=> ∃m:List DV,d= .sl m/\m.length<=maxLen/\ ∀x∈m,∃ys,FitL l ys/\((ag=true/\x= .ag ys)\/(ag=false/\ys=[x]))
def FitL:List CSh->List DV->Prop
 |[],ds=>ds=[]
 |s::l,ds=> ∃d t,ds=d::t/\Fit s d/\FitL l t
end
def flatF(r:TypeId->Option (Bool×List CSh))(P:Program):List Field->Nat->Option (List CSh)
 |[],_=>some []
 |f::fs,o=>match r f.type with
  |some (_,l)=>if f.offset=o/\P.cellsOf f.type=l.length then(flatF r P fs (o+l.length)).map (l++ ·) else none
  |none=>none
def flatT(P:Program):Nat->TypeId->Option (Bool×List CSh)
 |0,_=>none
 |n+1,t=>match P.underlying t with
  |some .bool=>some (false,[.b])
  |some (.int k)=>some (false,[.i k])
  |some (.slice e)=>match flatT P n e with
   |some (a,l)=>if P.cellsOf e=l.length/\0<l.length then some (false,[.sl a l]) else none
   |none=>none
  |some (.struct fs)=>match flatF (flatT P n) P fs.toList 0 with
   |some l=>if P.cellsOf t=l.length then some (true,l) else none
   |none=>none
  |_=>none
section
variable {H:Type} {enc:TypeId×Value->H} {P:Program} {w:World}
end
def shI:List CSh:=[.b, .sl false [.i .u32]]
def shL:List CSh:=shI++(shI++shI)
def es_star: "*" ++ "errors.errorString" = "*errors.errorString" :=by decide
def es_row(u:TypeId)(h:Tryz.prog.typeName? 3 u=some "*errors.errorString"):u=378:=
 typeName_ptr_named (nm:= "errors.errorString") (by rw[es_star];kernel_rfl) (by kernel_rfl) (by decide) u (by rw[es_star];exact h)
def sent_of{W:World}{n:String}{g:Nat}{text:List UInt8}{r:List (String×DataW Unit)}(h:laidMet Tryz.prog ((n, .iface "*errors.errorString" (.ptr (.agg [.lit (.string text)])))::r) W)(hg:Tryz.prog.globalNamed n=some g)(ht:(Tryz.prog.globals[g]?).map (·.type)=some 50):
  ∃a,GW W g=some [.iface 378 (.pointer (some a))]:=by
 obtain⟨a,s,hv,_⟩:=laid_sentinel h hg ht Tryz.underlying50 es_row Tryz.underlying378 Tryz.underlying396 rfl rfl Tryz.underlying9 (by kernel_rfl) (by kernel_rfl);refine⟨a,?_⟩;unfold World.var? at hv;rw[hg,Option.bind_some] at hv;unfold GW;split at hv
 .rename_i c t f e
  rw[e];cases hv;rfl
 .cases hv
def laid_plain{W:World}{l:List (String×DataW Unit)}(h:laidMetH Tryz.prog l W)(hp:(l.all fun x=>x.2.handleName?.isNone)=true):laidMet Tryz.prog l W:=by rwa [Go.MakeChecks.laidMetH_plain _ _ _ hp] at h
end Go.Sx
end
section
namespace Go.Proofs.YtbllnkhngjedjaaGreatDoor
open Go.ChangeShapes Go.WideShapes Go.ChangeAt Go.RowKit Go.Sx
theorem js1:mapsRowed Tryz.pinned.checked.prog=true:=by kernel_rfl
theorem js2:Tryz.pinned.checked.prog.stopsHeard=true:=by kernel_rfl
theorem js3:Tryz.pinned.checked.prog.mayEnter=true:=by kernel_rfl
theorem js4:laidOutB Tryz.prog=true:=by kernel_rfl
end Go.Proofs.YtbllnkhngjedjaaGreatDoor
end
section
namespace Go.Proofs.YtbllnkhngjedjaaGreatDoor.tilingCovers
open Go.ChangeShapes Go.WideShapes Go.ChangeAt Go.RowKit Go.Sx
theorem own:ownKnob Tryz.prog.godebug=none:=by kernel_rfl
theorem laidOut:laidOutB Tryz.prog=true:=js4
theorem cellsI:Tryz.prog.cellsOf 3=1:=by kernel_rfl
theorem bytesI:Tryz.prog.bytesOf 3=8:=by kernel_rfl
theorem door_met(os:Os)(args:Array Value):laidMetH Tryz.prog Rows.tilingCoversRow.laid ((World.doorLaid Tryz.prog 100 os).forCall (fun _ _=>0) ⟨#[],args,[]⟩).memory:=
 laidMetH_of_parts3 (fuel:=8) (laidMet_of_run' 8 (by kernel_rfl) (by kernel_rfl)) (by kernel_rfl) (by kernel_rfl)
theorem eg_of{W:World}(h:laidMetH Tryz.prog Rows.tilingCoversRow.laid W): ∃ai al ae au,yz (GW W) ai al ae au:=by
 have h1:=laid_plain h J;obtain⟨ai,hi⟩:=sent_of (g:=0) h1.tail.tail.tail (by kernel_rfl) (by kernel_rfl);obtain⟨au,hu⟩:=sent_of (g:=2) h1.tail.tail.tail.tail.tail (by kernel_rfl) (by kernel_rfl);obtain⟨al,hl⟩:=sent_of (g:=1) h1.tail.tail.tail.tail.tail.tail (by kernel_rfl) (by kernel_rfl);exact⟨ai,al,al,au,⟨hi,hl⟩,hu⟩
theorem contract(H:Type)(enc:TypeId×Value->H)(W:World)(base:Nat)(args:Array Value)(ds gs:List (DataW H))(before:List MemPlace)
  (hval: ∀(j:Nat) t v,Tryz.f3.params[j]? =some t->args[j]? =some v->Value.okWide Tryz.prog W .any base t v)
  (hW:DataW.Whole enc Tryz.prog Tryz.f3.params.toList Rows.tilingCoversSpec.vars false W args.toList ds gs before)
  (hz:(DataW.weightsEach Tryz.prog (Tryz.f3.params.toList++(OpenSpec.ofChange Rows.tilingCoversSpec).bare.plain.varTypes Tryz.prog) (ds++gs)).all (· <=reachBytes)=true)(hlaid:laidMetH Tryz.prog Rows.tilingCoversRow.laid W):
  Calls Tryz.prog 3 args W fun e W'=> ∃v,e= .returned v/\Rows.tilingCoversSpec.post enc Tryz.prog Tryz.f3 false true false false W args v W':=by
 have hW':=hW;obtain⟨p,q,hA0,hV,rfl,_,_⟩:=hW;have hA:DataW.TrodAll enc Tryz.prog W 0 (fun _=>true) true Tryz.f3.params.toList args.toList ds p:=hA0;rw[Tryz.params3] at hA hval hz;obtain⟨v0,d0,hargs,rfl,h0⟩:=trodAll_one hA;obtain rfl:args= #[v0]:=by cases args;simp_all
 obtain⟨rfl,rfl⟩:=trodVars_none hV;clear hA0;simp only[List.append_nil] at hW';have hlt: ∀x∈p,x.block<W.heap.size:=fun x hx=>by simpa using hW'.lt x hx
 obtain⟨es,hI,hd,_⟩:=open_vI Tryz.underlying22 Tryz.underlying3 cellsI (hval 0 22 v0 rfl rfl) h0;have hb:es.length<=1125899906842624:=by
  rcases hd with⟨rfl,rfl⟩|⟨sp,rfl⟩
  .exact Nat.zero_le _
  .have:=sized_slice hz (j:=0) (t:=22) (e:=3) J J Tryz.underlying22
   rw[bytesI] at this;have hr:=reachBytes_lt;have hl:(lits (H:=H) .i64 es).length=es.length:=by simp[lits]
   rw[hl] at this;omega
 obtain⟨ai,al,ae,au,hE⟩:=eg_of hlaid;have hf:=(zB hE (es0:=es) hb) (GW W) [v0] (bp.refl _) (.cons hI .nil);refine(hf.run W (fun b cs hg=>GW.sub hg)).mono fun e W' ⟨v,G',he,hr,hv⟩=>?_;rw[bc] at hv;subst hv;subst he;have hn:=hr.below;have t2:=trodAll_mk1 (Below.trod laidOut (by kernel_rfl) (of_decide_eq_true (by kernel_rfl)) h0 hn hlt);exact⟨_,J,⟨_,_,_,[],_,[],hW',trodAll_mk1 (shut_bool Tryz.underlying4 _),t2,J,hn.frame _,fun h=>by cases h⟩⟩
theorem reads(os:Os){H:Type}(enc:TypeId×Value->H): ∃places,DataW.whole enc Tryz.prog ((World.doorLaid Tryz.prog 100 os).forCall (fun _ _=>0) ⟨#[], #[.slice none 0 0],[]⟩).memory Tryz.f3.params.toList Rows.tilingCoversSpec.vars false #[Value.slice none 0 0].toList 8=some ([.nil],[],places):=
 ⟨[],by kernel_rfl⟩
theorem lifted(os:Os)(started:os.Started)(H:Type)(enc:TypeId×Value->H)(F:Stop.Interp):
  ReturnsInHanded {} Tryz.checked os 3 .any ((OpenSpec.ofChange Rows.tilingCoversSpec).preRow enc Tryz.prog Tryz.f3 Rows.tilingCoversRow.domain false Rows.tilingCoversRow.laid) (((OpenSpec.ofChange Rows.tilingCoversSpec).at F).post enc Tryz.prog Tryz.f3 false true false false):=by
 obtain⟨places,hx⟩:=reads os enc;refine returnsInHanded_of_row (C:=Tryz.checked) (s:=OpenSpec.ofChange Rows.tilingCoversSpec) own started (by kernel_rfl) Tryz.func3
  (witness_row_atRef (enc:=enc) (C:=Tryz.checked) false (World.doorLaid Tryz.prog 100 os) #[.slice none 0 0] rfl (by kernel_rfl) (by kernel_rfl) (by kernel_rfl)
   (OpenSpec.preRow_of_cond 8 hx (by kernel_rfl) (fun k hk=>by cases hk) (by kernel_rfl) (door_met os _))) ?_
 intro W base args ds gs before hval hW _ _ hz hlaid _ _;exact contract H enc W base args ds gs before hval hW hz hlaid
theorem j1:(Rows.tilingCoversRow.inPlace==Tryz.pinned.checked.prog.inPlace 3)=true:=by kernel_rfl
theorem j2:(Rows.tilingCoversRow.unfollowed==Tryz.pinned.checked.prog.unfollowed 3)=true:=by kernel_rfl
theorem j3:(Rows.tilingCoversRow.recurses==Tryz.pinned.checked.prog.recurses 3)=true:=by kernel_rfl
theorem j4:(Rows.tilingCoversRow.named==Tryz.pinned.checked.prog.varsNamed 3)=true:=by kernel_rfl
theorem j5:laidOutB Tryz.pinned.checked.prog=true:=laidOut
theorem j6:mapsRowed Tryz.pinned.checked.prog=true:=js1
theorem j7:Tryz.pinned.checked.prog.mainIs=some (Rows.tilingCoversCard.stood.harness.1,Rows.tilingCoversCard.stood.harness.2.toList):=by kernel_rfl
theorem j8:false=Rows.tilingCoversRow.goesBy Tryz.pinned.checked.prog:=by kernel_rfl
theorem j9:(Rows.tilingCoversRow.plainKeys==Tryz.pinned.checked.prog.plainKeys)=true:=by kernel_rfl
theorem j10:(Rows.tilingCoversRow.lifted==Tryz.pinned.checked.prog.liftsFinal)=true:=by kernel_rfl
theorem j11:(Tryz.pinned.checked.prog.make==some Rows.tilingCoversRow.make)=true:=by kernel_rfl
theorem closed:joinedFacts Tryz.pinned.checked.prog 3 Tryz.f3 (OpenSpec.ofChange Rows.tilingCoversSpec).bare Rows.tilingCoversRow=true:=by
 unfold joinedFacts;rw[j1,j2,j3,j4,j5,j6,j9,j10,j11,js2,js3]
 kernel_rfl
theorem said:Rows.TilingCoversSaid:=
 OpenClaim.holds_of_cond 3 Tryz.f3 J J J J J J J ⟨J,J,J,J,J⟩ J J J J J (by kernel_rfl) Tryz.func3 closed
  (of_decide_eq_true (by kernel_rfl)) (by unfold Func.isWrapper;first|(rw[if_pos (by decide+kernel)];kernel_rfl)|(rw[if_neg (by decide+kernel)];exact⟨J,J⟩))
  (fun os started H enc _ F=>by rw[OpenClaim.pre_eq_preRow];exact lifted os started H enc F)
theorem plain(f:FuncId)(fn:Func)(hf:Tryz.pinned.checked.prog.funcNamed "bspregion/bspregionlaw30.TilingCovers" =some f)(hfn:Tryz.pinned.checked.prog.funcs[f]? =some fn):
  false=Tryz.pinned.checked.prog.looks []/\ ∀(j:Nat) t,fn.params[j]? =some t->Tryz.pinned.checked.prog.wantsStandIn t=false:=by
 obtain rfl:f=3:=Option.some.inj ((show Tryz.prog.funcNamed "bspregion/bspregionlaw30.TilingCovers" =some 3 by kernel_rfl).symm.trans hf) |>.symm;obtain rfl:fn=Tryz.f3:=(Option.some.inj (Tryz.func3.symm.trans hfn)).symm;refine⟨by kernel_rfl,fun j t ht=>?_⟩;rw[Tryz.params3] at ht;have hm:=Array.mem_of_getElem? ht;simp only[List.mem_toArray,List.mem_cons,List.not_mem_nil,or_false] at hm;subst hm;exact(show Tryz.prog.wantsStandIn 22=false by kernel_rfl)
theorem card:Rows.TilingCoversCardSaid:=
 Claim7.holds_tied_plain_at .later [] _ _ _ _ said (fun _ h=>by cases h) (by kernel_rfl) (fun _ h=>by cases h) tilingCovers_row_tie J ⟨J,J⟩ j7 J plain j8
#print axioms card
end Go.Proofs.YtbllnkhngjedjaaGreatDoor.tilingCovers
end
