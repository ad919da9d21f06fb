import Derived.Test.YtfccecinjmbfhaaGreatDoorMd19
import Derived.Test.YtfccecinjmbfhaaGreatDoorCards
import Derived.Test.YtfccecinjmbfhaaGreatDoorTie
import Derived.WalkKit
import Derived.ProofKit
import Derived.OpenShut
import Derived.Deep.DeepHandedRow
import Derived.Deep.DeepWitnessRowRef
import Derived.LaidMore
import Derived.Lib.LaidTab
import Derived.SizedLaws
import Derived.Stop.LaidErr
import Derived.MakeChecks
set_option linter.unusedSimpArgs false
set_option maxHeartbeats 16000000
set_option maxRecDepth 100000
set_option linter.unusedVariables false
section
namespace Go.Sx
open Go Go.Proofs Tryz
variable {GB:Gh}
def boxL(s p:PtQ):PtQ:=⟨if p.x<s.x then p.x else s.x,if p.y<s.y then p.y else s.y⟩
def boxH(s p:PtQ):PtQ:=⟨if s.x<p.x then p.x else s.x,if s.y<p.y then p.y else s.y⟩
theorem BPt.boxL{s p:PtQ}{i:Nat}(h:BPt s i)(k:BPt p i):BPt (boxL s p) i:=by
 unfold Sx.boxL
 exact⟨by show BQ (if p.x<s.x then p.x else s.x) i;split;exact k.x;exact h.x,by show BQ (if p.y<s.y then p.y else s.y) i;split;exact k.y;exact h.y⟩
theorem BPt.boxH{s p:PtQ}{i:Nat}(h:BPt s i)(k:BPt p i):BPt (boxH s p) i:=by
 unfold Sx.boxH
 exact⟨by show BQ (if s.x<p.x then p.x else s.x) i;split;exact k.x;exact h.x,by show BQ (if s.y<p.y then p.y else s.y) i;split;exact k.y;exact h.y⟩
theorem zG{f:PtQ→PtQ→PtQ}{i:Nat}(hf: ∀s p,BPt s i→BPt p i→BPt (f s p) i): ∀{l:List (PtQ×PtQ)} {a:PtQ},BPt a i→(∀x∈l,BPt x.1 i)→BPt (l.foldl (fun s x=>f s x.1) a) i
 |[],_,h,_=>h
 |x::t,a,h,k=>zG (l:=t) (a:=f a x.1) hf (hf a x.1 h (k x aZ)) fun y hy=>k y (aK _ hy)
theorem zA{α β:Type}(f:β→α→β)(a:β){l:List α}{k:Nat}{x:α}(h:l[k]? =some x):(l.take (k+1)).foldl f a=f ((l.take k).foldl f a) x:=by
 have:l.take (k+1)=l.take k++[x]:=by rw[iX,h];rfl
 rw[this,pZ];rfl
def zP(cs:List aag):PtQ:=((ach ((cs.getD 0 []).map (·.l))).getD 0 ⟨0,0⟩)
def zM(t:Tr):PtQ:=(adY (ab8 (aai t))).foldl (fun s x=>boxL s x.1) (zP (aai t))
def zB(t:Tr):PtQ:=(adY (ab8 (aai t))).foldl (fun s x=>boxH s x.1) (zP (aai t))
theorem yL{k0:Nat}{t:Tr}(h:TrX k0 t)(hk0:k0≤900)(hbd:(aai t).all ad1=true)(hm:asj (aai t))(h0l:(aai t).length≠0):PF GB prog 37 [eA t] (.tp [ePt (zM t),ePt (zB t), .v .nilIface]):=by
 obtain⟨cs,hcs⟩: ∃cs,cs=aai t:=⟨_,rfl⟩
 obtain⟨L,hL⟩: ∃L,L=adY (ab8 cs):=⟨_,rfl⟩
 have hms:=hm
 rw[←hcs] at hm h0l
 have hml:(cs.map eC).length=cs.length:=aJ ..
 obtain⟨c0,hc0⟩: ∃u,cs[0]? =some u:=⟨_,aQ (by omega)⟩
 have hcm:c0∈cs:=aY hc0
 have hcq:c0∈aai t:=by rw[←hcs];exact hcm
 have hve:=akX (adM h.ok c0 hcq) (agT h.ok c0 hcq) (dZ.1 hbd c0 hcq)
 have h3:=ajt (adM h.ok c0 hcq) (agT h.ok c0 hcq) (dZ.1 hbd c0 hcq)
 obtain⟨v,hv⟩: ∃v,v=ach (c0.map (·.l)):=⟨_,rfl⟩
 have hvl:0<v.length:=by rw[hv,hve,aJ];exact h3
 obtain⟨p0,hp0⟩: ∃u,v[0]? =some u:=⟨_,aQ hvl⟩
 have hf0:zP cs=p0:=by
  unfold zP
  rw[aX,aX,hc0]
  show(ach (c0.map (·.l)))[0]?.getD _=_
  rw[←hv,hp0];rfl
 have hbp0:BPt p0 1200:=aiC (fun l hl=>by
  obtain⟨s,hs,rfl⟩:=bK.1 hl
  exact hm.ed.lb c0 hcm s hs) _ (by rw[←hv];exact aY hp0)
 obtain⟨Lo,hLo⟩: ∃S:Nat→PtQ,S=fun k=>(L.take k).foldl (fun s x=>boxL s x.1) p0:=⟨_,rfl⟩
 obtain⟨Hi,hHi⟩: ∃S:Nat→PtQ,S=fun k=>(L.take k).foldl (fun s x=>boxH s x.1) p0:=⟨_,rfl⟩
 have hpt: ∀x∈L,BPt x.1 1200:=fun x hx=>(hm.ed.pt x (by rw[←hL];exact hx)).1
 have hl0:Lo 0=p0:=by rw[hLo];rfl
 have hh0:Hi 0=p0:=by rw[hHi];rfl
 have hLk: ∀k,BPt (Lo k) 1200:=fun k=>by rw[hLo];exact zG (fun s p=>BPt.boxL) hbp0 fun x hx=>hpt x (dK hx)
 have hHk: ∀k,BPt (Hi k) 1200:=fun k=>by rw[hHi];exact zG (fun s p=>BPt.boxH) hbp0 fun x hx=>hpt x (dK hx)
 refine fnI func37 J J ntmps37 J J (fun C h0=>?_)
 refine cl (fu:=⟨0⟩) rfl (aiF h hk0 hbd) rfl ?_
 refine eqF 13 (.d (.tp [.sl (cs.map eC), .v .nilIface])) rfl (by rw[hcs]) ?_
 refine gx rfl ?_
 refine br J J J (fun hc22=>absurd hc22 (by rw[hml];omega)) (fun hc22=>?_) (v1:=fun hc22=>absurd hc22 (by rw[hml];omega))
 refine ix _ rfl (aHb hc0) rfl<|cl (fu:=⟨0⟩) rfl (au1 (c:=c0) (hm.ed.lb c0 hcm) (hm.ed.sh c0 hcm)) rfl<|?_
 refine eqF 32 (.d (.sl (v.map eZ))) rfl (by rw[hv]) ?_
 refine gx rfl<|ix _ rfl (aHb hp0) rfl<|?_
 refine cmk J J J apz (fun _=>rfl) (fun GB1 pv hg1 hpv=>?_)
 refine rnF 2 2000002 h0.fx rfl<|rnF 3 2000003 h0.fx rfl<|rnF 7 2000007 h0.fx rfl<|rnF 8 2000008 h0.fx rfl ?_
 refine aGM (σ:=Empty) (fun k=>[(2000002,some (.o 65 [.ff, .nl, .nl, .ff, .nl, .nl] true)),(2000003,some (.o 65 [.ff, .nl, .nl, .ff, .nl, .nl] true)),(2000007,some (.o 145 [.d (vI (fn_ (Lo k).x)), .d (vI (fd_ (Lo k).x)), .d (fp_ (Lo k).x), .d (vI (fn_ (Lo k).y)), .d (vI (fd_ (Lo k).y)), .d (fp_ (Lo k).y)] true)),(2000008,some (.o 145 [.d (vI (fn_ (Hi k).x)), .d (vI (fd_ (Hi k).x)), .d (fp_ (Hi k).x), .d (vI (fn_ (Hi k).y)), .d (vI (fd_ (Hi k).y)), .d (fp_ (Hi k).y)] true))]) (fun _=>True) (fun _=>[]) (fun _=>False) [(2, .ov 2000002 0),(3, .ov 2000003 0),(7, .ov 2000007 0),(8, .ov 2000008 0)]
  h0 rfl (amk (cs:=cs) hm.ed.lb hm.ed.sh hm.ed.ln hm.ed.pt (by decide)) (.cons hpv .nil) ⟨rfl,rfl,rfl,rfl,trivial⟩ rfl (by rw[hl0,hh0];exact⟨rfl,rfl,rfl,rfl,trivial⟩) trivial apr J J (fun k e GB' hE hg hp=>?_) (fun D hD hx hp=>?_) (fun D s hD hx hq=>hq.elim)
 ·obtain⟨x,hx,rfl⟩:=aoy hE
  refine⟨?_,?_,fun C2=>?_,fun C2=>?_⟩
  rotate_left 2
  ·refine gx rfl<|sta J J J ⟨rfl,rfl,rfl⟩ rfl ?_
   exact atR
  ·rw[←hL] at hx
   haveI k1:=hLk k
   haveI k2:=hHk k
   haveI k3:=hpt x (aY hx)
   haveI:=k1.x
   haveI:=k1.y
   haveI:=k2.x
   haveI:=k2.y
   haveI:=k3.x
   haveI:=k3.y
   refine gx rfl<|ixa 0 (e:=145) (len:=2) (s:=6) rfl (by kernel_rfl) (by kernel_rfl) (by decide) rfl<|?_
   refine cl rfl (at1 (p:=(Lo k).x) (q:=x.1.x) (i:=1200) (j:=1200)) rfl<|cl rfl (at1 (p:=(Lo k).y) (q:=x.1.y) (i:=1200) (j:=1200)) rfl<|?_
   refine cl rfl (auM (p:=(Hi k).x) (q:=x.1.x) (i:=1200) (j:=1200)) rfl<|cl rfl (auM (p:=(Hi k).y) (q:=x.1.y) (i:=1200) (j:=1200)) rfl<|?_
   have e1:Lo (k+1)=boxL (Lo k) x.1:=by rw[hLo];exact zA _ _ hx
   have e2:Hi (k+1)=boxH (Hi k) x.1:=by rw[hHi];exact zA _ _ hx
   exact rq trivial (by rw[e1,e2];exact⟨rfl,rfl,rfl,rfl,trivial⟩)
 ·have eN:((adY (ab8 cs)).map edE).length=L.length:=by rw[aJ,←hL]
  have ea:Lo L.length=zM t:=by rw[hLo];show List.foldl _ _ (List.take _ _)=_;rw[dX];unfold zM;rw[←hcs,hf0,←hL]
  have eb:Hi L.length=zB t:=by rw[hHi];show List.foldl _ _ (List.take _ _)=_;rw[dX];unfold zB;rw[←hcs,hf0,←hL]
  haveI:BPt (zM t) 1200:=by rw[←ea];exact hLk _
  haveI:BPt (zB t) 1200:=by rw[←eb];exact hHk _
  rw[eN,ea,eb]
  refine gx rfl<|cl rfl (avr (p:=zM t) (i:=1200)) rfl<|cl rfl (avr (p:=zB t) (i:=1200)) rfl<|?_
  exact rzD hD hx J J
theorem yJ{ai al ae au:Addr}(hE:EGV GB ai al ae au){k0:Nat}{t:Tr}(h:TrX k0 t)(hk0:k0≤900)(hbd:(aai t).all ad1=false):PF GB prog 37 [eA t] (.tp [zP0,zP0,aql au]):=by
 refine fn func37 J J ntmps37 J J (fun C=>?_)
 refine cl rfl (agV hE h hk0 hbd) rfl<|?_
 exact rz J J
theorem yK{ai al ae au:Addr}(hE:EGV GB ai al ae au){k0:Nat}{t:Tr}(h:TrX k0 t)(hk0:k0≤900)(hbd:(aai t).all ad1=true)(h0:(aai t).length=0):PF GB prog 37 [eA t] (.tp [zP0,zP0,aql ae]):=by
 have hml:((aai t).map eC).length=(aai t).length:=aJ ..
 refine fn func37 J J ntmps37 J J (fun C=>?_)
 refine cl (fu:=⟨21⟩) rfl (aiF h hk0 hbd) rfl<|?_
 refine eqF 24 (.d (vI ((aai t).length:Nat))) rfl (by rw[hml]<;>rfl) ?_
 refine gx (fu:=⟨0⟩) rfl<|knT rfl (by show some (decide _)=some true;rw[decide_eq_true (by omega)]) rfl<|gl rfl hE.ErrEmpty rfl<|?_
 exact rz J J
theorem yI{ai al ae au:Addr}(hE:EGV GB ai al ae au){k0:Nat}{t:Tr}(h:TrX k0 t)(hk0:k0≤900)(hbd:(aai t).all ad1=false):PF GB prog 31 [eA t] (.tp [zR0,zR0,zR0,aql au]):=by
 refine fn func31 J J ntmps31 J J (fun C=>?_)
 refine cl rfl (agV hE h hk0 hbd) rfl<|?_
 exact rz J J
def zN(cs:List (List LnQ)):List PtQ:=cs.flatMap ach
theorem zX(v:List PtQ):(aip v).map (·.1)=v:=by
 unfold aip
 rw[pM]
 apply jN
 intro i
 rw[cW]
 by_cases h:i<v.length
 ·rw[pN h,aQ h]
  show some (v.getD i ⟨0,0⟩)=_
  rw[aX,aQ h];rfl
 ·rw[cM (by simpa using h),cM (by omega)];rfl
theorem zT(cs:List (List LnQ)):(adY cs).map (·.1)=zN cs:=by
 unfold adY zN
 rw[List.map_flatMap]
 exact ah2 fun c _=>zX _
theorem zO{f:PtQ→PtQ→PtQ}: ∀{l:List (PtQ×PtQ)} {a:PtQ},l.foldl (fun s x=>f s x.1) a=(l.map (·.1)).foldl f a
 |[],_=>rfl
 |x::t,a=>zO (l:=t) (a:=f a x.1)
theorem zU(p:PtQ):boxL p p=p:=by unfold boxL;rw[if_neg (by grind),if_neg (by grind)]
theorem zV(p:PtQ):boxH p p=p:=by unfold boxH;rw[if_neg (by grind),if_neg (by grind)]
def zJ(W:List PtQ)(n:Nat):PtQ:=if n=0 then⟨0,0⟩ else(W.take n).foldl boxL (W.getD 0 ⟨0,0⟩)
def zL(W:List PtQ)(n:Nat):PtQ:=if n=0 then⟨0,0⟩ else(W.take n).foldl boxH (W.getD 0 ⟨0,0⟩)
theorem yD{W:List PtQ}{p:PtQ}(h:W[0]? =some p):zJ W 1=p:=by
 unfold zJ
 rw[if_neg (by decide),zA _ _ h,aX,h]
 exact zU p
theorem yF{W:List PtQ}{p:PtQ}(h:W[0]? =some p):zL W 1=p:=by
 unfold zL
 rw[if_neg (by decide),zA _ _ h,aX,h]
 exact zV p
theorem zY{W:List PtQ}{n:Nat}{p:PtQ}(h:W[n]? =some p)(hn:n≠0):zJ W (n+1)=boxL (zJ W n) p:=by
 unfold zJ
 rw[if_neg (by omega),if_neg hn,zA _ _ h]
theorem yB{W:List PtQ}{n:Nat}{p:PtQ}(h:W[n]? =some p)(hn:n≠0):zL W (n+1)=boxH (zL W n) p:=by
 unfold zL
 rw[if_neg (by omega),if_neg hn,zA _ _ h]
theorem zI{f:PtQ→PtQ→PtQ}{i:Nat}(hf: ∀s p,BPt s i→BPt p i→BPt (f s p) i): ∀{l:List PtQ} {a:PtQ},BPt a i→(∀x∈l,BPt x i)→BPt (l.foldl f a) i
 |[],_,h,_=>h
 |x::t,a,h,k=>zI (l:=t) (a:=f a x) hf (hf a x h (k x aZ)) fun y hy=>k y (aK _ hy)
theorem zQ{W:List PtQ}(h: ∀p∈W,BPt p 1200):BPt (W.getD 0 ⟨0,0⟩) 1200:=by
 rw[aX]
 cases hW:W[0]? with
 |none=>exact at4
 |some p=>exact h p (aY hW)
theorem yE{W:List PtQ}(h: ∀p∈W,BPt p 1200)(n:Nat):BPt (zJ W n) 1200:=by
 unfold zJ
 split
 ·exact at4
 ·exact zI (fun s p=>BPt.boxL) (zQ h) fun x hx=>h x (dK hx)
theorem yG{W:List PtQ}(h: ∀p∈W,BPt p 1200)(n:Nat):BPt (zL W n) 1200:=by
 unfold zL
 split
 ·exact at4
 ·exact zI (fun s p=>BPt.boxH) (zQ h) fun x hx=>h x (dK hx)
theorem zW{k0:Nat}{t:Tr}(h:TrX k0 t)(hk0:k0≤900):PF GB prog 38 [eT t] (.tp [eP (zJ (zN (ab8 (aai t))) (zN (ab8 (aai t))).length),eP (zL (zN (ab8 (aai t))) (zN (ab8 (aai t))).length),vB (decide (0<(zN (ab8 (aai t))).length))]):=by
 have hlb:=azz h.lb h.ok
 have hcl:=atF h.ok
 rw[aiZ h.ok] at hlb hcl
 obtain⟨cs,hcs⟩: ∃cs,cs=ab8 (aai t):=⟨_,rfl⟩
 rw[←hcs] at hlb hcl⊢
 obtain⟨W,hW⟩: ∃W,W=zN cs:=⟨_,rfl⟩
 rw[←hW]
 have hts:=h.s
 have htd:=h.dp
 have hml:(cs.map eSd).length=cs.length:=aJ ..
 have hWb: ∀p∈W,BPt p 1200:=fun p hp=>by
  rw[hW] at hp
  obtain⟨c,hc,hpc⟩:=fX.1 hp
  exact aiC (hlb c hc).1 p hpc
 obtain⟨n0,hn0⟩: ∃n0:Nat→Nat,n0=fun k=>((cs.take k).flatMap ach).length:=⟨_,rfl⟩
 refine fn func38 J J ntmps38 J J (fun C=>?_)
 refine cl (fu:=⟨0⟩) rfl (aEr (t:=t) h.lb h.ok (by omega) (by omega)) rfl<|?_
 refine eqF 13 (.d (.sl (cs.map eSd))) rfl (by rw[aiZ h.ok,hcs]) ?_
 refine gx (fu:=⟨1⟩) rfl<|?_
 refine eqF 14 (.d (vI (cs.length:Nat))) rfl (by rw[hml]<;>rfl) ?_
 refine gx rfl<|?_
 refine imD 5 (zq3++zq3) J J (fun G m h=>by rw[ayU];exact h) rfl<|imD 6 (zq3++zq3) J J (fun G m h=>by rw[ayU];exact h) rfl ?_
 refine dvC 7 (vB false) J J ?_
 refine lp (X:=Nat) (fun k=>[(15, .d (vI (k:Nat))),(5, .ov 5 0),(6, .ov 6 0),(7, .d (vB (decide (0<n0 k))))]) (fun k=>[(5,some (.o 54 [.d (.v (.bool (decide (((zJ W (n0 k)).x).num<0)))), .d (dN ((zJ W (n0 k)).x).num.natAbs), .d (dD ((zJ W (n0 k)).x).den), .d (.v (.bool (decide (((zJ W (n0 k)).y).num<0)))), .d (dN ((zJ W (n0 k)).y).num.natAbs), .d (dD ((zJ W (n0 k)).y).den)] true)),(6,some (.o 54 [.d (.v (.bool (decide (((zL W (n0 k)).x).num<0)))), .d (dN ((zL W (n0 k)).x).num.natAbs), .d (dD ((zL W (n0 k)).x).den), .d (.v (.bool (decide (((zL W (n0 k)).y).num<0)))), .d (dN ((zL W (n0 k)).y).num.natAbs), .d (dD ((zL W (n0 k)).y).den)] true))]) (fun k=>k≤cs.length) (fun k=>cs.length-k) 0 rfl (bQ _) (fun _=>rfl) (fun k hk=>?_) (hF:=by
  rw[show n0 0=0 by rw[hn0];rfl]
  repeat (first|exact trivial|refine And.intro rfl ?_)) (hO:=by
  rw[show n0 0=0 by rw[hn0];rfl,show zJ W 0=⟨0,0⟩ from rfl,show zL W 0=⟨0,0⟩ from rfl]
  repeat (first|exact trivial|refine And.intro rfl ?_))
 refine br J J J (fun hc16=>?_) (fun hc16=>?_) (v2:=fun _=>by simp only[aah];kernel_rfl)
 ·obtain⟨c,hx⟩: ∃u,cs[k]? =some u:=⟨_,aQ (by omega)⟩
  have hcb:=hlb c (aY hx)
  refine ix _ rfl (aas hx) rfl<|cl rfl (azH (L:=c) hcb.1 (by omega)) rfl<|?_
  obtain⟨v,hv⟩: ∃v,v=ach c:=⟨_,rfl⟩
  rw[←hv]
  have hvm:(v.map eP).length=v.length:=aJ ..
  have hvl:v.length≤1000:=by have:=anx c;rw[←hv] at this;omega
  refine eqF 21 (.d (vI (v.length:Nat))) rfl (by rw[hvm]<;>rfl) ?_
  refine lp (X:=Nat) (fun i=>[(22, .d (vI (i:Nat))),(5, .ov 5 0),(6, .ov 6 0),(7, .d (vB (decide (0<n0 k+i))))]) (fun i=>[(5,some (.o 54 [.d (.v (.bool (decide (((zJ W (n0 k+i)).x).num<0)))), .d (dN ((zJ W (n0 k+i)).x).num.natAbs), .d (dD ((zJ W (n0 k+i)).x).den), .d (.v (.bool (decide (((zJ W (n0 k+i)).y).num<0)))), .d (dN ((zJ W (n0 k+i)).y).num.natAbs), .d (dD ((zJ W (n0 k+i)).y).den)] true)),(6,some (.o 54 [.d (.v (.bool (decide (((zL W (n0 k+i)).x).num<0)))), .d (dN ((zL W (n0 k+i)).x).num.natAbs), .d (dD ((zL W (n0 k+i)).x).den), .d (.v (.bool (decide (((zL W (n0 k+i)).y).num<0)))), .d (dN ((zL W (n0 k+i)).y).num.natAbs), .d (dD ((zL W (n0 k+i)).y).den)] true))]) (fun i=>i≤v.length) (fun i=>v.length-i) 0 rfl (bQ _) (fun _=>rfl) (fun i hi=>?_)
  refine br J J J (fun hc23=>?_) (fun hc23=>?_)
  ·obtain⟨p,hpx⟩: ∃u,v[i]? =some u:=⟨_,aQ (by omega)⟩
   have hWp:W[n0 k+i]? =some p:=by
    rw[hn0,hW]
    exact amd ach hx (by rw[←hv];exact hpx)
   haveI hp1:BPt p 1200:=hWb p (aY hWp)
   haveI:=hp1.x
   haveI:=hp1.y
   have e1:n0 k+(i+1)=n0 k+i+1:=by omega
   refine ix _ rfl (aas hpx) rfl<|?_
   refine bb J J J (fun hc27=>?_) (fun hc27=>?_) (v1:=fun _=>by simp only[aah];kernel_rfl)
   ·have hz:n0 k+i=0:=by simpa using hc27
    have hW0:W[0]? =some p:=by rw[←hz];exact hWp
    have q1: ¬aa9 p.x p.x<0:=fun e=>by have:=(agJ _ _).1 e;grind
    have q2: ¬aa9 p.y p.y<0:=fun e=>by have:=(agJ _ _).1 e;grind
    have q3: ¬0<aa9 p.x p.x:=fun e=>by have:=(ag9 _ _).1 e;grind
    have q4: ¬0<aa9 p.y p.y:=fun e=>by have:=(ag9 _ _).1 e;grind
    refine cl rfl (q_C (a:=p.x) (b:=p.x) (i:=1200) (j:=1200)) rfl<|?_
    refine br J J J (fun hc=>absurd hc q1) (fun _=>?_)
    refine cl rfl (q_C (a:=p.y) (b:=p.y) (i:=1200) (j:=1200)) rfl<|?_
    refine br J J J (fun hc=>absurd hc q2) (fun _=>?_)
    refine cl rfl (q_C (a:=p.x) (b:=p.x) (i:=1200) (j:=1200)) rfl<|?_
    refine br J J J (fun hc=>absurd hc q3) (fun _=>?_)
    refine cl rfl (q_C (a:=p.y) (b:=p.y) (i:=1200) (j:=1200)) rfl<|?_
    refine br J J J (fun hc=>absurd hc q4) (fun _=>?_)
    have hn1:n0 k+(i+1)=1:=by omega
    refine dvE 7 (vB true) J J ?_
    exact at_ (i+1) ⟨by omega,by omega⟩ (hF:=by
     rw[hn1]
     repeat (first|exact trivial|refine And.intro rfl ?_)) (hO:=by
     rw[hn1,yD hW0,yF hW0]
     repeat (first|exact trivial|refine And.intro rfl ?_))
   ·have hz:n0 k+i≠0:=by
     have:0<n0 k+i:=by simpa using hc27
     omega
    haveI hl1:=yE hWb (n0 k+i)
    haveI hh1:=yG hWb (n0 k+i)
    haveI:=hl1.x
    haveI:=hl1.y
    haveI:=hh1.x
    haveI:=hh1.y
    have sl:=zY hWp hz
    have sh:=yB hWp hz
    unfold boxL at sl
    unfold boxH at sh
    refine cl rfl (q_C (a:=p.x) (b:=(zJ W (n0 k+i)).x) (i:=1200) (j:=1200)) rfl<|?_
    refine br J J J (fun d0=>?_) (fun d0=>?_)
    all_goals refine cl rfl (q_C (a:=p.y) (b:=(zJ W (n0 k+i)).y) (i:=1200) (j:=1200)) rfl<|?_
    all_goals refine br J J J (fun d1=>?_) (fun d1=>?_)
    all_goals refine cl rfl (q_C (a:=p.x) (b:=(zL W (n0 k+i)).x) (i:=1200) (j:=1200)) rfl<|?_
    all_goals refine br J J J (fun d2=>?_) (fun d2=>?_)
    all_goals refine cl rfl (q_C (a:=p.y) (b:=(zL W (n0 k+i)).y) (i:=1200) (j:=1200)) rfl<|?_
    all_goals refine br J J J (fun d3=>?_) (fun d3=>?_)
    all_goals simp only[agJ,ag9] at d0 d1 d2 d3
    all_goals simp only[d0,d1,d2,d3,if_true,if_false] at sl sh
    all_goals exact at_ (i+1) ⟨by omega,by omega⟩ (hF:=by
     rw[e1,show decide (0<n0 k+i+1)=true from decide_eq_true (by omega),show decide (0<n0 k+i)=true from decide_eq_true (by omega)]
     repeat (first|exact trivial|refine And.intro rfl ?_)) (hO:=by
     rw[e1,sl,sh]
     repeat (first|exact trivial|refine And.intro rfl ?_))
  ·have hi2:i=v.length:=by omega
   have e:n0 (k+1)=n0 k+i:=by
    rw[hn0]
    show _=_+i
    rw[hi2]
    have:=am9 ach hx
    rw[←hv] at this
    exact this
   exact at_ (k+1) ⟨by omega,by omega⟩ (hF:=by
    rw[e]
    repeat (first|exact trivial|refine And.intro rfl ?_)) (hO:=by
    rw[e]
    repeat (first|exact trivial|refine And.intro rfl ?_))
 ·have eN:n0 k=W.length:=by
   rw[hn0,hW]
   show((List.take k cs).flatMap _).length=_
   rw[aT (by omega)];rfl
  rw[eN]
  exact rz J J
theorem zS{t:Tr}(hm:asj (aai t))(h:BPt (zP (aai t)) 1200):BPt (zM t) 1200∧BPt (zB t) 1200:=
 ⟨zG (fun s p=>BPt.boxL) h fun x hx=>(hm.ed.pt x hx).1,zG (fun s p=>BPt.boxH) h fun x hx=>(hm.ed.pt x hx).1⟩
theorem zR{t:Tr}(ho:t.all LnQ.ok)(hbd:(aai t).all ad1=true)(h0:(aai t).length≠0):(zN (ab8 (aai t))).getD 0 ⟨0,0⟩=zP (aai t)∧0<(zN (ab8 (aai t))).length∧zP (aai t)∈zN (ab8 (aai t)):=by
 cases hc:aai t with
 |nil=>rw[hc] at h0;exact absurd rfl h0
 |cons c l=>
  have hcm:c∈aai t:=by rw[hc];exact aZ
  have hve:=akX (adM ho c hcm) (agT ho c hcm) (dZ.1 hbd c hcm)
  have h3:=ajt (adM ho c hcm) (agT ho c hcm) (dZ.1 hbd c hcm)
  have hl:0<(ach (c.map (·.l))).length:=by rw[hve,aJ];exact h3
  have e:zN (ab8 (c::l))=ach (c.map (·.l))++zN (ab8 l):=rfl
  have hf:zP (c::l)=(ach (c.map (·.l))).getD 0 ⟨0,0⟩:=rfl
  rw[e,hf]
  rw[aX,aX,dT hl,aQ hl]
  exact⟨rfl,by rw[aW];omega,cZ _ (bN _)⟩
theorem yN{t:Tr}(ho:t.all LnQ.ok)(hbd:(aai t).all ad1=true)(h0:(aai t).length≠0):zJ (zN (ab8 (aai t))) (zN (ab8 (aai t))).length=zM t∧zL (zN (ab8 (aai t))) (zN (ab8 (aai t))).length=zB t∧decide (0<(zN (ab8 (aai t))).length)=true:=by
 obtain⟨h1,h2,_⟩:=zR ho hbd h0
 unfold zJ zL zM zB
 rw[if_neg (by omega),if_neg (by omega),dX,h1,zO,zO,zT]
 exact⟨rfl,rfl,decide_eq_true h2⟩
theorem yH{t:Tr}(ho:t.all LnQ.ok)(hbd:(aai t).all ad1=true)(h0:(aai t).length≠0)(hm:asj (aai t)):BPt (zP (aai t)) 1200:=by
 have hq:=(zR ho hbd h0).2.2
 rw[←zT] at hq
 obtain⟨x,hx,e⟩:=bK.1 hq
 rw[←e];exact(hm.ed.pt x hx).1
theorem yM{t:Tr}(h0:(aai t).length=0):decide (0<(zN (ab8 (aai t))).length)=false:=by
 rw[bU h0];rfl
theorem yC(t:Tr):(aai t).all ad1=false∨((aai t).all ad1=true∧(aai t).length=0)∨((aai t).all ad1=true∧(aai t).length≠0):=by
 cases (aai t).all ad1 with
 |false=>exact .inl rfl
 |true=>by_cases h:(aai t).length=0<;>simp[h]
theorem zH{ai al ae au:Addr}(hE:EGV GB ai al ae au){es0:List Int}(hb:es0.length≤1125899906842624):PF GB prog 6 [.sl (es0.map vI)] (.v (.bool true)):=by
 obtain⟨es,hee⟩: ∃es,es=es0.take 400:=⟨_,rfl⟩
 have hes:es.length≤400:=by rw[hee];simp;omega
 obtain⟨A,hAe⟩: ∃A,A=(aar es 1 0).1:=⟨_,rfl⟩
 obtain⟨hA,_,hr⟩:=ar0 (es:=es) (a:=0) (bQ _)
 rw[←hAe] at hA hr
 have hm:=aEV hA (by decide)
 refine fn func6 J J ntmps6 J J (fun C=>?_)
 refine cn rfl ((aEg hb hee)) (fun _=>rfl) (fun _=>?_)
 refine cm rfl (fun b=>(avz hes hAe)) rfl<|cl rfl (apO hA) rfl<|?_
 rcases yC A with hbd|⟨hbd,h0⟩|⟨hbd,h0⟩
 ·
  refine cl (fu:=⟨0⟩) rfl (aho hA (by decide)) rfl<|?_
  refine eqF 30 (.d (.tp [vB false, .v .nilIface])) rfl (by rw[hbd]) ?_
  refine gx rfl<|cl rfl (yJ hE hA (by decide) hbd) rfl<|cl (fu:=⟨0⟩) rfl (at8 hA (by decide)) rfl<|?_
  refine eqF 44 (.d (vB false)) rfl (by rw[hbd]) ?_
  refine gx (fu:=⟨0⟩) rfl<|knF (fu:=⟨10⟩) J J J<|knT J J J<|cl rfl (aBR hE hA (by decide) hbd) rfl<|cl rfl (aEZ hE hA (by decide) hbd) rfl<|?_
  refine cl rfl (aDy hE hA (by decide) hbd) rfl<|cl rfl (yI hE hA (by decide) hbd) rfl<|clT rfl aiV rfl<|gl rfl hE.ErrUnbounded rfl<|?_
  refine cl (fu:=⟨0⟩) rfl arU rfl<|?_
  refine kbT 75 rfl ?_
  refine gx rfl<|gl rfl hE.ErrUnbounded rfl<|cl (fu:=⟨0⟩) rfl arU rfl<|?_
  refine kbT 80 rfl ?_
  refine gx rfl<|gl rfl hE.ErrUnbounded rfl<|cl (fu:=⟨0⟩) rfl arU rfl<|?_
  refine kbT 85 rfl ?_
  refine gx rfl<|gl rfl hE.ErrUnbounded rfl<|cl (fu:=⟨0⟩) rfl arU rfl<|?_
  refine kbT 90 rfl ?_
  refine gx rfl<|gl rfl hE.ErrUnbounded rfl<|cl (fu:=⟨0⟩) rfl arU rfl<|?_
  refine kbT 95 rfl ?_
  refine gx rfl<|?_
  exact rz J J
 ·
  refine cl (fu:=⟨0⟩) rfl (aho hA (by decide)) rfl<|?_
  refine eqF 30 (.d (.tp [vB true, .v .nilIface])) rfl (by rw[hbd]) ?_
  refine gx rfl<|cl rfl (yK hE hA (by decide) hbd h0) rfl<|cl (fu:=⟨0⟩) rfl (at8 hA (by decide)) rfl<|?_
  refine eqF 44 (.d (vB true)) rfl (by rw[hbd]) ?_
  refine gx (fu:=⟨0⟩) rfl<|knF (fu:=⟨10⟩) J J J<|knF J J J<|cl (fu:=⟨0⟩) rfl (zW hA (by decide)) rfl<|?_
  refine eqF 99 (.d (.tp [eP (zJ (zN (ab8 (aai A))) (zN (ab8 (aai A))).length),eP (zL (zN (ab8 (aai A))) (zN (ab8 (aai A))).length),vB false])) rfl (by rw[yM h0]) ?_
  refine gx (fu:=⟨15⟩) rfl<|knT J J J<|clT rfl aiV rfl<|gl rfl hE.ErrEmpty rfl<|cl (fu:=⟨0⟩) rfl arU rfl<|?_
  refine kbT 109 rfl ?_
  refine gx rfl<|?_
  exact rz J J
 ·
  obtain⟨z1,z2,z3⟩:=yN hA.ok hbd h0
  have hfb:=yH hA.ok hbd h0 hm
  haveI:=(zS hm hfb).1
  haveI:=(zS hm hfb).2
  refine cl (fu:=⟨0⟩) rfl (aho hA (by decide)) rfl<|?_
  refine eqF 30 (.d (.tp [vB true, .v .nilIface])) rfl (by rw[hbd]) ?_
  refine gx rfl<|cl rfl (yL hA (by decide) hbd hm h0) rfl<|cl (fu:=⟨0⟩) rfl (at8 hA (by decide)) rfl<|?_
  refine eqF 44 (.d (vB true)) rfl (by rw[hbd]) ?_
  refine gx (fu:=⟨0⟩) rfl<|knF (fu:=⟨10⟩) J J J<|knF J J J<|cl (fu:=⟨0⟩) rfl (zW hA (by decide)) rfl<|?_
  refine eqF 99 (.d (.tp [eP (zM A),eP (zB A),vB true])) rfl (by rw[z1,z2,z3]) ?_
  refine gx (fu:=⟨15⟩) rfl<|knF J J J<|clT rfl aiV rfl<|cl rfl (ay3 (p:=zM A) (i:=1200)) rfl<|clT rfl (aqJ (p:=zM A) (q:=zM A) (i:=1200) (j:=1200) (by decide) rfl) rfl<|?_
  refine cl rfl (ay3 (p:=zB A) (i:=1200)) rfl<|clT rfl (aqJ (p:=zB A) (q:=zB A) (i:=1200) (j:=1200) (by decide) rfl) rfl<|?_
  exact rz J J
end Go.Sx
end
section
namespace Go.Sx
open Go Go.Proofs Go.ChangeShapes Go.WideShapes Go.ChangeAt Go.RowKit
def GW(w:World):Gh:=fun b=>match w.heap[b]? with|some (.cells cs _ _)=>some cs.toList|_=>none
theorem GW.sub{w:World}{b:Nat}{cs:List Value}(h:GW w b=some cs): ∃ty fz,w.heap[b]? =some (.cells ⟨cs⟩ ty fz):=by
 unfold GW at h
 split at h
 ·rename_i c t f e
  cases h
  exact⟨t,f,by rw[e]⟩
 ·cases h
theorem GW.of_cell{w:World}{b off:Nat}{v:Value}(h:w.cell? ⟨b,off,none⟩=some v): ∃cs,GW w b=some cs∧cs[off]? =some v:=by
 unfold World.cell? at h
 unfold GW
 split at h
 ·rename_i c t f e
  simp only at e
  refine⟨c.toList,by rw[e],?_⟩
  simpa using h
 all_goals first|(rename_i e;cases h)|cases h
theorem abk.below{w w':World}{G G':Gh}{own:List Own}(h:abk ⟨w,G,[],[],[],none,fun _=>none⟩ own G' w'):Below w.heap.size w w':=
 ⟨h.os,h.tape,h.output,h.size,fun k hk=>h.keep k hk (by simp)⟩
theorem isLs_vI{G:Gh}: ∀es:List Int,IsLs G (es.map vI) (es.map fun n=>Value.int .i64 n)
 |[]=> .nil
 |n::t=> .cons (aaX.2 rfl) (isLs_vI t)
theorem open_vI{base:Nat}{H:Type}{enc:TypeId×Value→H}{P:Program}{w:World}{t e:TypeId}{v:Value}{d:DataW H}{ps:List MemPlace}(ht:P.underlying t=some (.slice e))(he:P.underlying e=some (.int .i64))(hc:P.cellsOf e=1)
  (hv:Value.okWide P w .any base t v)(h:DataW.Trod enc P w 0 (fun _=>true) true t v d ps):
  ∃es:List Int,Is (GW w) (.sl (es.map vI)) v∧(d= .nil∧es=[]∨ ∃sp,d= .slice (lits .i64 es) sp)∧(∀n∈es,(Lit.int .i64 n).wf=true):=by
 obtain⟨a0,len,cap,rfl⟩:=okWide_slice ht hv
 obtain⟨fuel,hf⟩:=h
 rcases open_ints ht he hc hf with⟨hcs,hx⟩|⟨a,len',cap',zs,hcs,_,hl,hm,hz,hx,hcell,hwz⟩
 ·simp[Value.cells] at hcs
  obtain⟨rfl,rfl,rfl⟩:=hcs
  simp only[Prod.mk.injEq] at hx
  exact⟨[],ad5.2 ⟨0,⟨none,0,0⟩,[],rfl,afw.nil _ 0, .nil⟩, .inl ⟨hx.1,rfl⟩,by simp⟩
 ·simp[Value.cells] at hcs
  obtain⟨rfl,rfl,rfl⟩:=hcs
  simp only[Prod.mk.injEq] at hx
  simp only[if_true] at hz
  refine⟨zs.take len,ad5.2 ⟨1,⟨some a,len,cap⟩,(zs.take len).map fun n=>Value.int .i64 n,rfl,⟨by simp;omega,hl,?_⟩,isLs_vI _⟩, .inr ⟨_,hx.1⟩,fun n hn=>hwz n (dK hn)⟩
  by_cases h0:len=0
  ·exact .inl (by simp[h0])
  ·right
   obtain⟨b,off,spot⟩:=a
   have hspot:spot=none:=by simpa[Addr.add] using World.cell?_spot (hcell 0 (by omega))
   subst hspot
   have c0: ∀i,i<zs.length→w.cell? ⟨b,off+i,none⟩=some (.int .i64 (zs.getD i 0)):=fun i hi=>by
    have:=hcell i hi
    rwa [Go.WideShapes.add_plain] at this
   obtain⟨cs,hcs,_⟩:=GW.of_cell (by have h9:=c0 0 (by omega);rw[fK] at h9;exact h9)
   refine⟨b,off,cs,rfl,hcs,fun i hi=>?_⟩
   simp only[aJ,cR] at hi
   obtain⟨cs',hcs',hi'⟩:=GW.of_cell (c0 i (by omega))
   rw[hcs] at hcs'
   cases hcs'
   rw[iK,asM.2 hi']
   simp[aaf,List.getD,aQ (show i<zs.length by omega)]
inductive CSh where
 |b
 |i (k:IntKind)
 |sl (ag:Bool) (l:List CSh)
mutual
def Fit:CSh→DV→Prop
 | .b,d=> ∃b,d= .v (.bool b)
 | .i k,d=> ∃n,d= .v (.int k n)∧(Lit.int k n).wf=true
 | .sl ag l,d=> ∃m:List DV,d= .sl m∧m.length≤maxLen∧ ∀x∈m,∃ys,FitL l ys∧((ag=true∧x= .ag ys)∨(ag=false∧ys=[x]))
def FitL:List CSh→List DV→Prop
 |[],ds=>ds=[]
 |s::l,ds=> ∃d t,ds=d::t∧Fit s d∧FitL l t
end
def flatF(r:TypeId→Option (Bool×List CSh))(P:Program):List Field→Nat→Option (List CSh)
 |[],_=>some []
 |f::fs,o=>match r f.type with
  |some (_,l)=>if f.offset=o∧P.cellsOf f.type=l.length then(flatF r P fs (o+l.length)).map (l++ ·) else none
  |none=>none
def flatT(P:Program):Nat→TypeId→Option (Bool×List CSh)
 |0,_=>none
 |n+1,t=>match P.underlying t with
  |some .bool=>some (false,[.b])
  |some (.int k)=>some (false,[.i k])
  |some (.slice e)=>match flatT P n e with
   |some (a,l)=>if P.cellsOf e=l.length∧0<l.length then some (false,[.sl a l]) else none
   |none=>none
  |some (.struct fs)=>match flatF (flatT P n) P fs.toList 0 with
   |some l=>if P.cellsOf t=l.length then some (true,l) else none
   |none=>none
  |_=>none
section
variable {H:Type} {enc:TypeId×Value→H} {P:Program} {w:World}
end
def shI:List CSh:=[.b, .sl false [.i .u32]]
def shL:List CSh:=shI++(shI++shI)
theorem es_star: "*" ++ "errors.errorString" = "*errors.errorString" :=by decide
theorem es_row(u:TypeId)(h:Tryz.prog.typeName? 3 u=some "*errors.errorString"):u=427:=
 typeName_ptr_named (nm:= "errors.errorString") (by rw[es_star];kernel_rfl) (by kernel_rfl) (by decide) u (by rw[es_star];exact h)
theorem sent_of{W:World}{n:String}{g:Nat}{text:List UInt8}{r:List (String×DataW Unit)}(h:laidMet Tryz.prog ((n, .iface "*errors.errorString" (.ptr (.agg [.lit (.string text)])))::r) W)(hg:Tryz.prog.globalNamed n=some g)(ht:(Tryz.prog.globals[g]?).map (·.type)=some 29):
  ∃a,GW W g=some [.iface 427 (.pointer (some a))]:=by
 obtain⟨a,s,hv,_⟩:=laid_sentinel h hg ht Tryz.underlying29 es_row Tryz.underlying427 Tryz.underlying452 rfl rfl Tryz.underlying9 (by kernel_rfl) (by kernel_rfl)
 refine⟨a,?_⟩
 unfold World.var? at hv
 rw[hg,Option.bind_some] at hv
 unfold GW
 split at hv
 ·rename_i c t f e
  rw[e];cases hv;rfl
 ·cases hv
theorem laid_plain{W:World}{l:List (String×DataW Unit)}(h:laidMetH Tryz.prog l W)(hp:(l.all fun x=>x.2.handleName?.isNone)=true):laidMet Tryz.prog l W:=by rwa [Go.MakeChecks.laidMetH_plain _ _ _ hp] at h
end Go.Sx
end
section
namespace Go.Proofs.YtfccecinjmbfhaaGreatDoor.measureBounded
open Go.ChangeShapes Go.WideShapes Go.ChangeAt Go.RowKit Go.Sx
theorem own:ownKnob Tryz.prog.godebug=none:=by kernel_rfl
theorem laidOut:laidOutB Tryz.prog=true:=by kernel_rfl
theorem cellsI:Tryz.prog.cellsOf 3=1:=by kernel_rfl
theorem bytesI:Tryz.prog.bytesOf 3=8:=by kernel_rfl
theorem door_met(os:Os)(args:Array Value):laidMetH Tryz.prog Rows.measureBoundedRow.laid ((World.doorLaid Tryz.prog 104 os).forCall (fun _ _=>0) ⟨#[],args,[]⟩).memory:=
 laidMetH_of_parts3 (fuel:=8) (laidMet_of_run' 8 (by kernel_rfl) (by kernel_rfl)) (by kernel_rfl) (by kernel_rfl)
theorem eg_of{W:World}(h:laidMetH Tryz.prog Rows.measureBoundedRow.laid W): ∃ai al ae au,EGV (GW W) ai al ae au:=by
 have h1:=laid_plain h rfl
 obtain⟨ai,hi⟩:=sent_of (g:=3) h1 (by kernel_rfl) (by kernel_rfl)
 obtain⟨au,hu⟩:=sent_of (g:=0) h1.tail (by kernel_rfl) (by kernel_rfl)
 obtain⟨ae,he⟩:=sent_of (g:=2) h1.tail.tail (by kernel_rfl) (by kernel_rfl)
 obtain⟨al,hl⟩:=sent_of (g:=4) h1.tail.tail.tail (by kernel_rfl) (by kernel_rfl)
 exact⟨ai,al,ae,au,⟨⟨hi,hl⟩,hu⟩,he⟩
theorem contract(H:Type)(enc:TypeId×Value→H)(W:World)(base:Nat)(args:Array Value)(ds gs:List (DataW H))(before:List MemPlace)
  (hval: ∀(j:Nat) t v,Tryz.f6.params[j]? =some t→args[j]? =some v→Value.okWide Tryz.prog W .any base t v)
  (hW:DataW.Whole enc Tryz.prog Tryz.f6.params.toList Rows.measureBoundedSpec.vars false W args.toList ds gs before)
  (hz:(DataW.weightsEach Tryz.prog (Tryz.f6.params.toList++(OpenSpec.ofChange Rows.measureBoundedSpec).bare.plain.varTypes Tryz.prog) (ds++gs)).all (· ≤reachBytes)=true)(hlaid:laidMetH Tryz.prog Rows.measureBoundedRow.laid W):
  Calls Tryz.prog 6 args W fun e W'=> ∃v,e= .returned v∧Rows.measureBoundedSpec.post enc Tryz.prog Tryz.f6 false true false false W args v W':=by
 have hW':=hW
 obtain⟨p,q,hA0,hV,rfl,_,_⟩:=hW
 have hA:DataW.TrodAll enc Tryz.prog W 0 (fun _=>true) true Tryz.f6.params.toList args.toList ds p:=hA0
 rw[Tryz.params6] at hA hval hz
 obtain⟨v0,d0,hargs,rfl,h0⟩:=trodAll_one hA
 obtain rfl:args= #[v0]:=by cases args;simp_all
 obtain⟨rfl,rfl⟩:=trodVars_none hV
 clear hA0
 simp only[List.append_nil] at hW'
 have hlt: ∀x∈p,x.block<W.heap.size:=fun x hx=>by simpa using hW'.lt x hx
 obtain⟨es,hI,hd,_⟩:=open_vI Tryz.underlying22 Tryz.underlying3 cellsI (hval 0 22 v0 rfl rfl) h0
 have hb:es.length≤1125899906842624:=by
  rcases hd with⟨rfl,rfl⟩|⟨sp,rfl⟩
  ·exact Nat.zero_le _
  ·have:=sized_slice hz (j:=0) (t:=22) (e:=3) J J Tryz.underlying22
   rw[bytesI] at this
   have hr:=reachBytes_lt
   have hl:(lits (H:=H) .i64 es).length=es.length:=by simp[lits]
   rw[hl] at this
   omega
 obtain⟨ai,al,ae,au,hE⟩:=eg_of hlaid
 have hf:=(zH hE (es0:=es) hb) (GW W) [v0] (GLe.refl _) (.cons hI .nil)
 refine(hf.run W (fun b cs hg=>GW.sub hg)).mono fun e W' ⟨v,G',he,hr,hv⟩=>?_
 rw[aaX] at hv
 subst hv
 subst he
 have hn:=hr.below
 have t2:=trodAll_mk1 (Below.trod laidOut (by kernel_rfl) (of_decide_eq_true (by kernel_rfl)) h0 hn hlt)
 exact⟨_,rfl,⟨_,_,_,[],_,[],hW',trodAll_mk1 (shut_bool Tryz.underlying4 _),t2,rfl,hn.frame _,fun h=>by cases h⟩⟩
theorem reads(os:Os){H:Type}(enc:TypeId×Value→H): ∃places,DataW.whole enc Tryz.prog ((World.doorLaid Tryz.prog 104 os).forCall (fun _ _=>0) ⟨#[], #[.slice none 0 0],[]⟩).memory Tryz.f6.params.toList Rows.measureBoundedSpec.vars false #[Value.slice none 0 0].toList 8=some ([.nil],[],places):=
 ⟨[],by kernel_rfl⟩
theorem lifted(os:Os)(started:os.Started)(H:Type)(enc:TypeId×Value→H)(F:Stop.Interp):
  ReturnsInHanded {} Tryz.checked os 6 .any ((OpenSpec.ofChange Rows.measureBoundedSpec).preRow enc Tryz.prog Tryz.f6 Rows.measureBoundedRow.domain false Rows.measureBoundedRow.laid) (((OpenSpec.ofChange Rows.measureBoundedSpec).at F).post enc Tryz.prog Tryz.f6 false true false false):=by
 obtain⟨places,hx⟩:=reads os enc
 refine returnsInHanded_of_row (C:=Tryz.checked) (s:=OpenSpec.ofChange Rows.measureBoundedSpec) own started (by kernel_rfl) Tryz.func6
  (witness_row_atRef (enc:=enc) (C:=Tryz.checked) false (World.doorLaid Tryz.prog 104 os) #[.slice none 0 0] rfl (by kernel_rfl) (by kernel_rfl) (by kernel_rfl)
   (OpenSpec.preRow_of_cond 8 hx (by kernel_rfl) (fun k hk=>by cases hk) (by kernel_rfl) (door_met os _))) ?_
 intro W base args ds gs before hval hW _ _ hz hlaid _ _
 exact contract H enc W base args ds gs before hval hW hz hlaid
theorem j1:(Rows.measureBoundedRow.inPlace==Tryz.pinned.checked.prog.inPlace 6)=true:=by kernel_rfl
theorem j2:(Rows.measureBoundedRow.unfollowed==Tryz.pinned.checked.prog.unfollowed 6)=true:=by kernel_rfl
theorem j3:(Rows.measureBoundedRow.recurses==Tryz.pinned.checked.prog.recurses 6)=true:=by kernel_rfl
theorem j4:(Rows.measureBoundedRow.named==Tryz.pinned.checked.prog.varsNamed 6)=true:=by kernel_rfl
theorem j5:laidOutB Tryz.pinned.checked.prog=true:=laidOut
theorem j6:mapsRowed Tryz.pinned.checked.prog=true:=by kernel_rfl
theorem j7:Tryz.pinned.checked.prog.mainIs=some (Rows.measureBoundedCard.stood.harness.1,Rows.measureBoundedCard.stood.harness.2.toList):=by kernel_rfl
theorem j8:false=Rows.measureBoundedRow.goesBy Tryz.pinned.checked.prog:=by kernel_rfl
theorem closed:joinedFacts Tryz.pinned.checked.prog 6 Tryz.f6 (OpenSpec.ofChange Rows.measureBoundedSpec).bare Rows.measureBoundedRow=true:=by
 unfold joinedFacts
 rw[j1,j2,j3,j4,j5,j6]
 kernel_rfl
theorem said:Rows.MeasureBoundedSaid:=
 OpenClaim.holds_of_cond 6 Tryz.f6 J J J J J J J ⟨rfl,rfl,rfl,rfl,rfl⟩ J J J J J (by kernel_rfl) Tryz.func6 closed
  (of_decide_eq_true (by kernel_rfl)) (by unfold Func.isWrapper;first|(rw[if_pos (by decide+kernel)];kernel_rfl)|(rw[if_neg (by decide+kernel)];exact⟨rfl,rfl⟩))
  (fun os started H enc _ F=>by rw[OpenClaim.pre_eq_preRow];exact lifted os started H enc F)
theorem plain(f:FuncId)(fn:Func)(hf:Tryz.pinned.checked.prog.funcNamed "bspregion/bspregionlaw21.MeasureBounded" =some f)(hfn:Tryz.pinned.checked.prog.funcs[f]? =some fn):
  true=Tryz.pinned.checked.prog.looks []∧ ∀(j:Nat) t,fn.params[j]? =some t→Tryz.pinned.checked.prog.wantsStandIn t=false:=by
 obtain rfl:f=6:=Option.some.inj ((show Tryz.prog.funcNamed "bspregion/bspregionlaw21.MeasureBounded" =some 6 by kernel_rfl).symm.trans hf) |>.symm
 obtain rfl:fn=Tryz.f6:=(Option.some.inj (Tryz.func6.symm.trans hfn)).symm
 refine⟨by kernel_rfl,fun j t ht=>?_⟩
 rw[Tryz.params6] at ht
 have hm:=Array.mem_of_getElem? ht
 simp only[List.mem_toArray,List.mem_cons,List.not_mem_nil,or_false] at hm
 subst hm
 exact(show Tryz.prog.wantsStandIn 22=false by kernel_rfl)
theorem card:Rows.MeasureBoundedCardSaid:=
 Claim7.holds_tied_plain_at .later [] _ _ _ _ said (fun _ h=>by cases h) (by kernel_rfl) (fun _ h=>by cases h) measureBounded_row_tie rfl ⟨rfl,rfl⟩ j7 rfl plain j8
#print axioms card
end Go.Proofs.YtfccecinjmbfhaaGreatDoor.measureBounded
end
