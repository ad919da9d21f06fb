import Derived.Test.YtefoocgiaegobaaGreatDoorPh13
import Derived.WalkKit
import Derived.LaidEql
import Derived.Stop.Asserts
import Derived.RowKitTokens
set_option linter.all false
set_option maxHeartbeats 2000000
set_option maxRecDepth 100000
section
namespace Go.Sx
open Go Go.Proofs Tryz
variable {GB:Gh}
def al9{vs rest:List Value}(h: ∀v∈vs,(aD v).length=17){i:Nat}(hi:i<=vs.length):cx (aB vs++rest) (i*17) ((vs.length-i)*17)=some (aB (vs.drop i)):=by
 have hl:=d6 vs h;have hd:(aB (vs.drop i)).length=(vs.length-i)*17:=by
  rw[d6 (s:=17) _ (fun v hv=>h v (jN hv)),gN]
 rw[lh _ _ _ (by simp only[aT];omega)];congr 1;rw[jV (by omega),zJ vs i h hi,eJ (by omega),bQ (by omega)]
def TU{vs rest vcs:List Value}(h: ∀v∈vs,(aD v).length=17)(hv:vcs.length=17){i:Nat}(hi:i<vs.length)(hr:17<=rest.length):
  co (co (aB vs++rest) ((i+1)*17) (aB (vs.drop i))) (i*17) vcs=aB (vs.take i)++vcs++aB (vs.drop i)++rest.drop 17:=by
 have hl:=d6 vs h;have hd:(aB (vs.drop i)).length=(vs.length-i)*17:=by
  rw[d6 (s:=17) _ (fun v hv=>h v (jN hv)),gN]
 have ht:(aB (vs.take i)).length=i*17:=by
  rw[d6 (s:=17) _ (fun v hv=>h v (gT hv)),cK,fM (by omega)]
 rw[oc (aB (vs.drop i)) (aB vs++rest) _ (by rw[aT];omega)];rw[oc vcs _ _ (by simp only[aT,cK,gN];omega)];have e1:(aB vs++rest).drop ((i+1)*17+(aB (vs.drop i)).length)=rest.drop 17:=by
  rw[hd,show(i+1)*17+(vs.length-i)*17=(aB vs).length+17 by omega,mT,oW (by omega),cV];congr 1;omega
 have e2:((aB vs++rest).take ((i+1)*17)++aB (vs.drop i)++rest.drop 17).take (i*17)=aB (vs.take i):=by
  rw[dQ,eJ (by simp only[cK,aT];omega),List.take_take,fM (by omega),eJ (by omega),AR vs i h (by omega)]
 have e3:((aB vs++rest).take ((i+1)*17)++aB (vs.drop i)++rest.drop 17).drop (i*17+vcs.length)=aB (vs.drop i)++rest.drop 17:=by
  rw[hv,dQ,show i*17+17=((aB vs++rest).take ((i+1)*17)).length by simp only[cK,aT];omega,List.drop_left]
 rw[e1,e2,e3];simp[dQ]
def aqb{vs rest vcs:List Value}(h: ∀v∈vs,(aD v).length=17)(hv:vcs.length=17)(hr:17<=rest.length):co (aB vs++rest) (vs.length*17) vcs=aB vs++vcs++rest.drop 17:=by
 have hl:=d6 vs h;rw[oc _ _ _ (by simp only[aT];omega),hv,<-hl,List.take_left,mT];simp
def SY{G:Gh}{b bv cap i c2:Nat}{vs rest vcs r2:List Value}{lo lo2:Bool}(hvs: ∀v∈vs,(aD v).length=17)(hfl: ∀v∈vs,∀c∈aD v,flat c=true)(hv:vcs.length=17)(hvf: ∀c∈vcs,flat c=true)
  (hcap:vs.length*17+rest.length=cap*17)(hroom:vs.length+1<=cap)(hi:i<=vs.length)(hb:vs.length<=1125899906842624):
  jn prog 280 [.slice (some ⟨b,0,none⟩) vs.length cap, .int .i64 i, .slice (some ⟨bv,0,none⟩) 1 c2] [⟨b,aB vs++rest,222,lo⟩,⟨bv,vcs++r2,222,lo2⟩] G
   (fun u css _=>u= .slice (some ⟨b,0,none⟩) (vs.length+1) cap/\css=[aB (vs.take i)++vcs++aB (vs.drop i)++rest.drop 17,vcs++r2]):=by
 have hL:(aB vs++rest).length=cap*17:=by rw[aT,d6 vs hvs];exact hcap
 have hr:17<=rest.length:=by omega
 have hD:(aB (vs.drop i)).length=(vs.length-i)*17:=by
  rw[d6 (s:=17) _ (fun v hv=>hvs v (jN hv)),gN]
 have hDf: ∀c∈aB (vs.drop i),flat c=true:=fun c hc=>by
  obtain⟨l,hl,hcl⟩:=List.mem_flatten.1 hc;obtain⟨v,hv,rfl⟩:=bW.1 hl;exact hfl v (jN hv) c hcl
 have hvt:cx (vcs++r2) 0 (1*17)=some vcs:=by rw[lh _ _ _ (by rw[aT];omega),jY,eJ (by omega),bQ (by omega)]
 refine jn.intro func280 J J ntmps280 J ?_;intro C _ _;show St C _ _ [⟨b,aB vs++rest,222,false⟩,⟨bv,vcs++r2,222,false⟩] _ _;refine Qe (fun hne=>?_);simp only[] at hne;refine sR<|sa J J<|zE<|sR<|sm J J<|sm J J<|sy (A3 J J (by omega) (by omega)) J<|zE<|sR<|?_;refine sm J J<|cH J J<|sa J J<|zE<|bm<|sR<|sm J J<|sy (ik J J) J<|zE<|uI J<|?_;refine zK<|sR<|sm J J<|cH J J<|sa J J<|zE<|bm<|sR<|sm J J<|sm J J<|sy (ik J J) J<|zE<|?_;refine fB J (fun hc=>?_) (fun hc=>?_) -- slot 22
 ·have hin:i=vs.length:=by omega
  subst hin;refine sR<|sm J J<|sm J J<|?_;refine sc (OD (s:=17) (m:=1) (ys:=vcs) J J (.hd ..) hL (vo inferInstance hvt) (by omega) hvf hroom J ?_);refine sa J J<|zE<|c6<|?_;refine ql (css:=[co (aB vs++rest) (vs.length*17) vcs,vcs++r2]) (.tmp J .nil) J _ (List.Perm.refl _) (List.Sublist.refl _) ⟨J,?_⟩;rw[aqb hvs hv hr,iQ,jJ];simp[aB]
 have hin:i<vs.length:=by omega
 have hn1:((vs.length:Int)+((1:Nat):Int)).toNat=vs.length+1:=by omega
 have ht1:((i:Int)+((1:Nat):Int)).toNat=i+1:=by omega
 refine zK<|bm<|sR<|sm J J<|sm J J<|sy (dO J J) J<|sm J J<|?_;refine sy (Yp J) J<|sy (rg J J) J<|zE<|?_;refine fB J (fun hc2=>?_) (fun hc2=>?_) -- slot 31
 ·exact absurd hc2 (by omega)
 refine zK<|sR<|sm J J<|sm J J<|sm J J<|sy (dO J J) J<|sy (vU J J (by omega) (by omega)) J<|?_;rw[hn1];refine sa J J<|zE<|bm<|sR<|sm J J<|sm J J<|sm J J<|sm J J<|sy (dO J J) J<|sy (BH J J (by omega) (by omega) (by omega)) J<|?_;refine sy (RI (tS:=130) (tR:=4) func355 (by kernel_rfl) (by kernel_rfl) (by kernel_rfl) (by kernel_rfl) J J (Ne.symm hne) (fun h=>by rw[h] at hL;simp at hL;omega)) J<|?_;refine sy (zH J) J<|zE<|og J<|?_;refine bm<|WP (b:=b) (fun _=>false) [(0,true),(1,true),(2,true),(3,true),(4,true),(5,true),(6,true),(7,true),(8,false)] follows (.hd ..) (by kernel_rfl)<|dM J J J<|?_;refine dM J J J<|dM J J J<|dy J (fun _=>dO J J (by omega) (by omega)) J J<|dy J (fun _=>BH J J (by omega) (by omega) (by omega)) J J<|?_;refine dM J J J<|dM J J J<|dy J (fun _=>BH J J (by omega) (by omega) (by omega)) J J<|?_;rw[ht1,aM,dR,dR];refine dc J J (Ps (s:=17) (m:=vs.length-i) (ys:=aB (vs.drop i)) J J (by show min _ _=_;omega) (vo inferInstance (al9 hvs hi)) hDf (by rw[hD,hL];omega) (.hd ..) J ?_);refine l9<|dn<|sR<|sm J J<|sm J J<|sy (BH J J (by omega) (by omega) (by omega)) J<|sm J J<|?_;rw[aM,dR];refine sc (Ps (s:=17) (m:=1) (ys:=vcs) J J (by show min _ _=_;omega) (vo inferInstance hvt) hvf (by rw[yG,hL,hv];omega) (.hd ..) J ?_);refine zE<|sR<|sm J J<|sa J J<|zE<|c6<|?_;refine ql (css:=[co (co (aB vs++rest) ((i+1)*17) (aB (vs.drop i))) (i*17) vcs,vcs++r2]) (.tmp J .nil) J _ (List.Perm.refl _) (List.Sublist.refl _) ⟨J,?_⟩;rw[TU hvs hv hin hr]
def jn.toO{P:Program}{f:FuncId}{vs:List Value}{M:List aj}{G:Gh}{K:Value->List (List Value)->Gh->Prop}{K':Value->List aj->Gh->Prop}(h:jn P f vs M G K)(hk: ∀v css G',bz G G'->css.length=M.length->K v css G'-> ∃o,o.Sublist (jz (asB M) css)/\K' v o G'):iq P f vs M G K':=
 ⟨h.able,fun w hw=>(h.run w hw).mono fun _ _ ⟨v,css,G',he,hl,hh,hK⟩=>let⟨o,h1,h2⟩:=hk v css G' hh.gle hl hK;⟨v,o,G',he,hh.drop h1,h2⟩⟩
def NF(c:aE):fm 17 (c.map bj):=fun d hd=>by
 obtain⟨f,_,rfl⟩:=bW.1 hd;exact⟨rfl,rfl⟩
def Mp{G:Gh}{s:Nat}{ds:List DV}{vs:List Value}(hk:fm s ds)(h:IsLs G ds vs): ∀v∈vs,∀c∈aD v,flat c=true:=fun v hv=>by
 obtain⟨d,hd,h3⟩:=h.all v hv;exact(h3.cells (hk d hd).1).2
def U5{c:aE}{x:aP}{i cap:Nat}(hi:i<=c.length)(hc:c.length+1<=cap)(hn:c.length<=1000000):PI GB prog 280 (i:Nat) 17 222 222 (c.map bj) (bj x) cap ((c.take i++x::c.drop i).map bj):=by
 intro G w w2 B B2 _ hB hcap hB2;obtain⟨vs,q1,q2,q3,_⟩:=hB;obtain⟨us,u1,u2,u3,_⟩:=hB2;dsimp only at q1 q2 q3 u1 u2 u3;have hl:=q2.len;rw[aJ] at hl;obtain⟨v,m,rfl,hv,hm⟩:=aO.1 u2
 cases cB.1 hm
 rcases q1 with⟨_,e,_⟩|⟨b,rest,lo,e,rfl,h5,h6,h7⟩
 ·rw[e] at hcap;simp at hcap;omega
 rcases u1 with⟨h,_⟩|⟨bv,r2,lo2,e2,rfl,h8,h9,h10⟩
 ·cases h
 have hx:(aD v).length=17:=u3 v aQ;have hxf:=Mp (s:=17) (ds:=[bj x]) (fun d hd=>by rw[aV.1 hd];exact⟨J,J⟩) u2 v aQ;have key:=SY (G:=G) (b:=b) (bv:=bv) (cap:=w.c) (i:=i) (c2:=w2.c) (vs:=vs) (rest:=rest) (vcs:=aD v) (r2:=r2) (lo:=lo) (lo2:=lo2) q3 (Mp (NF c) q2) hx hxf (by rw[<-h5];exact h6) (by omega) (by omega) (by omega);rw[e,e2];rw[t6];refine key.toO fun u css G' hg hl2 ⟨k1,k2⟩=>?_;subst k1 k2;have hall: ∀u∈vs.take i++v::vs.drop i,(aD u).length=17:=fun u hu=>by
  rcases bV.1 hu with hu|hu
  ·exact q3 u (gT hu)
  ·rcases aU.1 hu with rfl|hu
   ·exact hx
   ·exact q3 u (jN hu)
 have hlen:(vs.take i++v::vs.drop i).length=vs.length+1:=by
  rw[aT,bK,cK,gN];omega
 refine⟨[⟨b,aB (vs.take i)++aD v++aB (vs.drop i)++rest.drop 17,222,false⟩], .cons_cons _ (kZ _),⟨some ⟨b,0,none⟩,vs.length+1,w.c⟩,J,vs.take i++v::vs.drop i, .inr ⟨b,rest.drop 17,false,by rw[hlen],?_,d6 _ hall,?_,?_⟩,?_,hall,fun h=>by cases h⟩
 ·rw[lG];simp[aB]
 ·rw[d6 _ hall,hlen,gN]
  rw[h5] at h6;have:=bX 17 (show vs.length+1<=w.c by omega);simp only[cY] at this⊢;omega
 ·rw[hlen];show vs.length+1<=w.c;omega
 ·rw[iJ,bR,rL,List.map_drop]
  exact((q2.take i).up hg).app (.cons (hv.up hg) ((q2.drop i).up hg))
def LD{s:aP}{l:ab}[hs:LB s.l][hl:LB l]:PF GB prog 278 [bj s,d8 l] (vI (di s.l.dir l.dir)):=by
 refine fn func278 J J ntmps278 J J (fun C=>?_);refine cl J (ul (l:=s.l)) J<|cl J (ul (l:=l)) J<|cl J (E' (u:=s.l.dir) (v:=l.dir)) J<|?_;exact rz J J
def ze(c:aE)(l:ab)(i:Nat):Bool:=match c[i]? with
 |some s=>decide (di s.l.dir l.dir=0)
 |none=>false
def Qc(i j:Nat):((i:Int)+(j:Int)).fdiv (2^min (1:Int).toNat IntKind.u64.bits)=((i+j)/2:Nat):=by
 rw[show(2:Int)^min (1:Int).toNat IntKind.u64.bits=((2:Nat):Int) from J,gR _ (by decide)];omega
def UW{c:aE}{l:ab}{k:Nat}{s:aP}(h:c[k]? =some s):mc c l k=decide (di s.l.dir l.dir<0):=by unfold mc;rw[h]
def aFj{c:aE}{l:ab}{k:Nat}{s:aP}(h:c[k]? =some s):ze c l k=decide (di s.l.dir l.dir=0):=by unfold ze;rw[h]
def TN{c:aE}{l:ab}{k:Nat}(h: ¬k<c.length):ze c l k=false:=by unfold ze;rw[dJ (by omega)]
def V1{p:Nat->Bool}{i j:Nat}(h:i<j)(hp:p ((i+j)/2)=true):ip p i j=ip p ((i+j)/2+1) j:=by rw[ip,dif_pos h,if_pos hp]
def W6{p:Nat->Bool}{i j:Nat}(h:i<j)(hp: ¬p ((i+j)/2)=true):ip p i j=ip p i ((i+j)/2):=by rw[ip,dif_pos h,if_neg hp]
def O3{p:Nat->Bool}{i j:Nat}(h: ¬i<j):ip p i j=i:=by rw[ip,dif_neg h]
def Sa{c:aE}{l:ab}[hl:LB l](hc:jb c)(hn:c.length<=1000000):PF GB prog 277 [.sl (c.map bj),d8 l, .v (.func (.func 278) #[] #[])] (.tp [vI (ip (mc c l) 0 c.length:Nat),vB (ze c l (ip (mc c l) 0 c.length))]):=by
 have hm:=ue bj c;refine fn (fu:=⟨11⟩) func277 J J ntmps277 J J (fun C=>?_);refine aA 13 (.d (vI (c.length:Nat))) J (by rw[hm]<;>rfl) ?_;refine gx J<|?_;refine lp (X:=Nat×Nat) (fun⟨i,j⟩=>[(9, .d (vI (i:Nat))),(10, .d (vI (j:Nat)))]) (fun⟨i,j⟩=>[]) (fun⟨i,j⟩=>i<=j/\j<=c.length/\ip (mc c l) i j=ip (mc c l) 0 c.length) (fun⟨i,j⟩=>j-i) (0,c.length) J ⟨cJ _,aN _,J⟩ (fun _=>J) (fun⟨i,j⟩ hk=>?_);dsimp only at hk⊢;obtain⟨h1,h2,h3⟩:=hk;refine br (fu1:=⟨10⟩) (fu2:=⟨11⟩) J J J (fun hc17=>?_) (fun hc17=>?_)
 .
  obtain⟨s,hs0⟩: ∃s,c[(i+j)/2]? =some s:=⟨_,aX (by omega)⟩;haveI:=(hc s (bU hs0)).lb;have hang:=UW (l:=l) hs0;refine aA 22 (.d (.v (.int .u64 ((i+j)/2:Nat)))) J (by rw[Qc]) ?_;refine gx J<|ix _ J (ge hs0) J<|cl J (LD (s:=s) (l:=l)) J<|?_;refine br J J J (fun hc31=>?_) (fun hc31=>?_)
  .
   exact at_ ((i+j)/2+1,j) (by dsimp only;exact⟨⟨by omega,h2,by rw[<-h3,V1 (i:=i) (j:=j) (by omega) (by rw[hang];exact decide_eq_true hc31)]⟩,(by omega)⟩)
  .
   exact at_ (i,(i+j)/2) (by dsimp only;exact⟨⟨by omega,by omega,by rw[<-h3,W6 (i:=i) (j:=j) (by omega) (by rw[hang,decide_eq_false hc31];exact Bool.false_ne_true)]⟩,(by omega)⟩)
 .
  refine DG (v2:=fun hg39=>by simp only[ah];kernel_rfl) J J J J (fun hg39=>?_) (fun hg39=>?_)
  .
   have he:=O3 (p:=mc c l) (i:=i) (j:=j) (by omega);obtain⟨s,hs0⟩: ∃s,c[i]? =some s:=⟨_,aX (by omega)⟩;haveI:=(hc s (bU hs0)).lb;refine ix _ J (ge hs0) J<|cl J (LD (s:=s) (l:=l)) J<|?_;exact rz J (by rw[<-h3,he,aFj hs0];rfl)
  .
   have he:=O3 (p:=mc c l) (i:=i) (j:=j) (by omega);exact rz J (by rw[<-h3,he,TN (by omega)];rfl)
def MM{l:ab}[LB l](hlo:l.ok): ∀{c:aE} {v w:ao},jb c->qI v->mf l c v=some w->qI w
 |[],v,w,_,hv,h=>by cases h;exact hv
 |s::t,v,w,hc,hv,h=>by
  haveI:=(hc s aQ).lb;simp only[mf] at h;split at h
  ·exact MM hlo (fun x hx=>hc x (aZ _ hx)) (hv.cut hlo.1) h
  ·cases h
def AA{l:ab}[LB l]: ∀{c:aE},jb c->jb (fA l c)
 |[],_,s,h=>by cases h
 |a::t,hc,s,h=>by
  have ha:=hc a aQ;haveI:=ha.lb;have ht:=AA (l:=l) (fun x hx=>hc x (aZ _ hx));unfold fA at h;split at h
  ·rcases aU.1 h with rfl|h
   ·exact⟨ha.lb,ha.ok,ha.v.cut ha.ok.1⟩
   ·exact ht s h
  ·exact ht s h
def Ca{l:ab}[hl:LB l](hlo:l.ok){c:aE}(hc:jb c):jb (bF c l):=by
 unfold bF;split
 ·rename_i v hv
  intro s hs;unfold om at hs;rcases bV.1 hs with h|h
  ·exact AA hc s (gT h)
  ·rcases aU.1 h with rfl|h
   ·exact⟨hl,hlo,MM hlo hc .all hv⟩
   ·exact AA hc s (jN h)
 ·exact hc
def MV{l:ab}{c:aE}{k:Nat}{s:aP}(h:c[k]? =some s):fA l (c.drop k)=if s.l.cutB s.v l then⟨s.l,s.l.cutV s.v l⟩::fA l (c.drop (k+1)) else fA l (c.drop (k+1)):=by
 rw[Hl h];rfl
def HD{c:aE}{l:ab}[hl:LB l](hlo:l.ok)(hc:jb c)(hn:c.length<=100000):PF GB prog 183 [.sl (c.map bj),d8 l] (.tp [.sl ((bF c l).map bj),vB (cP c l)]):=by
 have hm:=ue bj c;refine fn func183 J J ntmps183 J J (fun C=>?_);refine cl J (JV (c:=c) (l:=l) hlo hc (by omega)) J<|?_;refine bb (fu2:=⟨6⟩) J J J (fun hc22=>?_) (fun hc22=>?_)
 .
  have hp:lc c l=none:=by simpa using hc22
  refine cl J (ZT (c:=c) (l:=l) hlo hc (by omega)) J<|?_;exact rz J (by unfold bF cP;rw[hp];rfl)
 .
  obtain⟨v,hv⟩: ∃v,lc c l=some v:=Option.isSome_iff_exists.1 (by simpa using hc22);have hvd:Gd (lc c l)=v:=by rw[hv];rfl
  rw[hvd];refine aA 29 (.d (vI (c.length:Nat))) J (by rw[hm]<;>rfl) ?_;refine gx J<|YW (fu:=⟨8⟩) (c.length+1) J J J<|?_;refine aA 33 (.d (vI (c.length:Nat))) J (by rw[hm]<;>rfl) ?_;refine gx J<|?_;refine lp (X:=aE×Nat) (fun⟨o,k⟩=>[(34, .d (vI (k:Nat))),(8, .rw 31)]) (fun⟨o,k⟩=>[(31,some (.c 222 17 (o.map bj) (c.length+1)))]) (fun⟨o,k⟩=>k<=c.length/\o.length<=k/\o++fA l (c.drop k)=fA l c) (fun⟨o,k⟩=>c.length-k) ([],0) J ⟨cJ _,aN _,J⟩ (fun _=>J) (fun⟨o,k⟩ hk=>?_);dsimp only at hk⊢;obtain⟨h1,h2,h3⟩:=hk;have hmo:=ue bj o;refine br J J J (fun hc35=>?_) (fun hc35=>?_)
  .
   obtain⟨s,hs0⟩: ∃s,c[k]? =some s:=⟨_,aX (by omega)⟩;have hs:=hc s (bU hs0);haveI:=hs.lb;haveI:=hs.v.lo;haveI:=hs.v.hi;refine ix _ J (ge hs0) J<|cl (fu:=⟨0⟩) J (xH (l:=s.l) (m:=l) (v:=s.v)) J<|?_;generalize hw:s.l.cutV s.v l=w;generalize hb:s.l.cutB s.v l=b;refine gx J<|?_;refine bb J J J (fun hc47=>?_) (fun hc47=>?_)
   .
    refine rf J J<|Y2 ((o++[aP.mk s.l w]).map bj) J (by rw[iJ];rfl) (NF [aP.mk s.l w]) (by rw[hmo];simp;omega) J<|?_;refine pe 54 31 J ?_;exact at_ (o++[aP.mk s.l w],k+1) (by dsimp only;exact⟨⟨by omega,by simp;omega,by rw[<-h3,MV hs0,hb,if_pos hc47,hw,dQ];rfl⟩,(by omega)⟩)
   .
    exact at_ (o,k+1) (by dsimp only;exact⟨⟨by omega,by omega,by rw[<-h3,MV hs0,hb,if_neg (by simp[hc47])]⟩,(by omega)⟩)
  .
   obtain rfl:k=c.length:=by omega
   have ho:o=fA l c:=by rw[<-h3,jJ];simp[fA]
   subst ho;have hbl:=(Bh (mc (fA l c) l) (fA l c).length 0 (fA l c).length (by omega) (by omega)).2;refine cL J (Sa (c:=fA l c) (l:=l) (AA hc) (by omega)) J J<|ro J J<|ci ((om (fA l c) l v).map bj) J (U5 (c:=fA l c) (x:=⟨l,v⟩) (i:=ip (mc (fA l c) l) 0 (fA l c).length) (cap:=c.length+1) hbl (by omega) (by omega)) J J<|?_;refine qi 68 J ?_;exact rz J (by unfold bF cP;rw[hv];rfl)
def J1{c:aE}{l:ab}[hl:LB l](hlo:l.ok)(hc:jb c)(hn:c.length<=100000):PF GB prog 257 [.sl (c.map bj),d8 l] (.tp [.sl ((bF c l).map bj), .sl ((bF c l.rev).map bj),vB (cP c l),vB (cP c l.rev)]):=by
 refine fn func257 J J ntmps257 J J (fun C=>?_);refine cl J (HD (c:=c) (l:=l) hlo hc hn) J<|cl J (EP (l:=l)) J<|cl J (HD (c:=c) (l:=l.rev) hlo.rev hc hn) J<|?_;exact rz J J
def cU:Tr->List DV
 | .leaf b=>[vI 0,vI 0, .v (.pointer none),vI 0,vI 0, .v (.pointer none),vI 0,vI 0, .v (.pointer none), .v (.pointer none), .v (.pointer none), .v (.bool b)]
 | .node l x y=>[vI (dt (l.a:Rat)),vI (du (l.a:Rat)),dl (l.a:Rat),vI (dt (l.b:Rat)),vI (du (l.b:Rat)),dl (l.b:Rat),vI (dt (l.c:Rat)),vI (du (l.c:Rat)),dl (l.c:Rat), .pt (cU x), .pt (cU y), .v (.bool false)]
def eU(t:Tr):DV:= .pt (cU t)
def q8{b:Bool}:PF GB prog 153 [.v (.bool b)] (eU (.leaf b)):=by
 refine fn func153 J J ntmps153 J J (fun C=>?_);refine qi 5 J ?_;exact rz J J
def wP{l:ab}{x y:Tr}:PF GB prog 152 [d8 l,eU x,eU y] (eU (.node l x y)):=by
 refine fn func152 J J ntmps152 J J (fun C=>?_);refine qi 11 J ?_;exact rz J J
def uz{b:Bool}:PF GB prog 171 [eU (.leaf b)] (.v (.bool true)):=by
 refine fn func171 J J ntmps171 J J (fun C=>?_);exact rz J J
def sv{l:ab}{x y:Tr}:PF GB prog 171 [eU (.node l x y)] (.v (.bool false)):=by
 refine fn func171 J J ntmps171 J J (fun C=>?_);exact rz J J
def Vh{l l1:ab}{x y u:Tr}:PF GB prog 335 [d8 l,eU (.node l1 x y),eU u] (eU (.node l (.node l1 x y) u)):=by
 refine fn func335 J J ntmps335 J J (fun C=>?_);refine cl (fu:=⟨0⟩) J sv J<|eo J J J<|cl J wP J<|?_;exact rz J J
def X4{l l1:ab}{x y:Tr}{p:Bool}:PF GB prog 335 [d8 l,eU (.leaf p),eU (.node l1 x y)] (eU (.node l (.leaf p) (.node l1 x y))):=by
 refine fn func335 J J ntmps335 J J (fun C=>?_);refine cl (fu:=⟨0⟩) J uz J<|fD J J J<|cl (fu:=⟨1⟩) J sv J<|eo J J J<|cl J wP J<|?_;exact rz J J
def Zm{l:ab}{p q:Bool}:PF GB prog 335 [d8 l,eU (.leaf p),eU (.leaf q)] (eU (Tr.joinQ l (.leaf p) (.leaf q))):=by
 refine fn func335 J J ntmps335 J J (fun C=>?_);refine cl (fu:=⟨0⟩) J uz J<|fD J J J<|cl (fu:=⟨1⟩) J uz J<|fD J J J<|?_;refine bb J J J (fun hc23=>?_) (fun hc23=>?_)
 .
  exact rz J (by rw[show Tr.joinQ l (.leaf p) (.leaf q)= .leaf p by simp[Tr.joinQ,Tr.isLeaf,Tr.code,hc23]];rfl)
 .
  refine cl J wP J<|?_;exact rz J (by rw[show Tr.joinQ l (.leaf p) (.leaf q)= .node l (.leaf p) (.leaf q) by simp[Tr.joinQ,Tr.isLeaf,Tr.code,hc23]];rfl)
def Xk{l:ab}: ∀{x y:Tr},PF GB prog 335 [d8 l,eU x,eU y] (eU (Tr.joinQ l x y))
 | .leaf _, .leaf _=>Zm
 | .leaf _, .node .. =>X4
 | .node ..,_=>Vh
def ZS{b:Bool}{c:aE}:PF GB prog 235 [eU (.leaf b), .sl (c.map bj)] (eU (Tr.restrict (.leaf b) c)):=by
 refine fn func235 J J ntmps235 J J (fun C=>?_);refine cl (fu:=⟨0⟩) J uz J<|?_;refine jH 10 J ?_;refine gx J<|?_;exact rz J J
def XM{l:ab}{x y:Tr}{c:aE}(hl:LB l)(hlo:l.ok)(hc:jb c)(hn:c.length+(Tr.node l x y).depth<=100000)(ihx: ∀{c:aE},jb c->c.length+x.depth<=100000->PF GB prog 235 [eU x, .sl (c.map bj)] (eU (Tr.restrict x c)))(ihy: ∀{c:aE},jb c->c.length+y.depth<=100000->PF GB prog 235 [eU y, .sl (c.map bj)] (eU (Tr.restrict y c))):PF GB prog 235 [eU (.node l x y), .sl (c.map bj)] (eU (Tr.restrict (.node l x y) c)):=by
 have hdp:(Tr.node l x y).depth=1+max x.depth y.depth:=J;have hdx:=Nat.le_max_left x.depth y.depth;have hdy:=Nat.le_max_right x.depth y.depth;have hca:=Bj c l;have hcb:=Bj c l.rev;refine fn func235 J J ntmps235 J J (fun C=>?_);refine cl (fu:=⟨0⟩) J sv J<|?_;refine qD 10 J ?_;refine gx J<|cl J (J1 (c:=c) (l:=l) hlo hc (by omega)) J<|?_;refine bb J J J (fun hc23=>?_) (fun hc23=>?_)
 .
  refine cl J (ihx hc (by omega)) J<|?_;exact rz J (by rw[Tr.restrict,if_pos hc23];rfl)
 .
  refine bb J J J (fun hc32=>?_) (fun hc32=>?_)
  .
   refine cl J (ihy hc (by omega)) J<|?_;exact rz J (by rw[Tr.restrict,if_neg (by simp[hc23]),if_pos hc32];rfl)
  .
   refine cl J (ihx (c:=bF c l) (Ca hlo hc) (by omega)) J<|cl J (ihy (c:=bF c l.rev) (Ca hlo.rev hc) (by omega)) J<|cl J Xk J<|?_;exact rz J (by rw[Tr.restrict,if_neg (by simp[hc23]),if_neg (by simp[hc32])];rfl)
def F0: ∀{t:Tr} {c:aE},t.all LB->t.all ab.ok->jb c->c.length+t.depth<=100000->PF GB prog 235 [eU t, .sl (c.map bj)] (eU (Tr.restrict t c))
 | .leaf _,_,_,_,_,_=>ZS
 | .node l x y,c,hb,ho,hc,hn=>XM hb.1 ho.1 hc hn (fun h1 h2=>F0 hb.2.1 ho.2.1 h1 h2) (fun h1 h2=>F0 hb.2.2 ho.2.2 h1 h2)
def Ua{t:Tr}(hb:t.all LB)(ho:t.all ab.ok)(hd:t.depth<=100000):PF GB prog 143 [eU t] (eU (t.restrict [])):=by
 refine fn func143 J J ntmps143 J J (fun C=>?_);refine cl J (F0 (t:=t) (c:=[]) hb ho (fun s h=>by cases h) (by simpa using hd)) J<|?_;exact rz J J
def Tr.compl:Tr->Tr
 | .leaf b=> .leaf !b
 | .node l x y=> .node l x.compl y.compl
def Tr.chooseQ(op:Int)(b:Bool)(t:Tr)(c:aE):Tr:=
 if op=1\/op=2 then(if b=decide (op=1) then .leaf b else t.restrict c)
 else if op=3/\b=false then .leaf false
 else if b then(t.restrict c).compl else t.restrict c
def Tr.mergeQ(op:Int):Tr->Tr->aE->Tr
 | .leaf b,u,c=>u.chooseQ op b c
 | .node l x y,u,c=>if !cP c l.rev then x.mergeQ op u c else if !cP c l then y.mergeQ op u c else joinQ l (x.mergeQ op u (bF c l)) (y.mergeQ op u (bF c l.rev))
def lnZ:DV:= .ag [vI 0,vI 0, .v (.pointer none),vI 0,vI 0, .v (.pointer none),vI 0,vI 0, .v (.pointer none)]
def sB:Option ab->DV
 |some l=> .tp [d8 l,vB true]
 |none=> .tp [lnZ,vB false]
def JA{l:ab}(h: ¬l.ok)(hz: ¬(l.a=0/\l.b=0)):decide (rgcd (rgcd (l.a:Rat) (l.b:Rat)) (l.c:Rat)=((1:Int):Rat))=false:=by
 rw[uh,uh];refine decide_eq_false fun e=>h ⟨hz,?_⟩;simp only[fL] at e;have:=qU.1 e;omega
def Zg{l:ab}[hl:LB l](ha:l.a=0)(hb:l.b=0):PF GB prog 182 [eL l] (sB none):=by
 refine fn func182 J J ntmps182 J J (fun C=>?_);refine cl (fu:=⟨0⟩) J (qv (m:=l.a)) J<|eo J J J<|cl (fu:=⟨0⟩) J (qv (m:=l.b)) J<|eo J J J<|cl (fu:=⟨0⟩) J (qv (m:=l.c)) J<|?_;refine eo J J J<|cl J (r4 (m:=l.a)) J<|cl J (r4 (m:=l.b)) J<|cl J (r4 (m:=l.c)) J<|cl (fu:=⟨0⟩) J (nG (q:=(l.a:Rat))) J<|?_;refine fD J (by show some (decide _)=some true;rw[ha];rfl) J<|cl (fu:=⟨0⟩) J (nG (q:=(l.b:Rat))) J<|fD J (by show some (decide _)=some true;rw[hb];rfl) J<|?_;exact rz J J
def QE{l:ab}[hl:LB l](hz: ¬(l.a=0/\l.b=0))(ho: ¬l.ok):PF GB prog 182 [eL l] (sB none):=by
 refine fn func182 J J ntmps182 J J (fun C=>?_);refine cl (fu:=⟨0⟩) J (qv (m:=l.a)) J<|eo J J J<|cl (fu:=⟨0⟩) J (qv (m:=l.b)) J<|eo J J J<|cl (fu:=⟨0⟩) J (qv (m:=l.c)) J<|?_;refine eo J J J<|cl J (r4 (m:=l.a)) J<|cl J (r4 (m:=l.b)) J<|cl J (r4 (m:=l.c)) J<|cl (fu:=⟨0⟩) J (nG (q:=(l.a:Rat))) J<|?_;refine DG (fu2:=⟨4⟩) J J J J (fun hg35=>?_) (fun hg35=>?_)
 .
  have ha:l.a=0:=dV.1 hg35;refine cl (fu:=⟨1⟩) J (nG (q:=(l.b:Rat))) J<|eo J (by first|rfl|(show some (decide _)=some false;rw[decide_eq_false (fun e=>hz ⟨ha,dV.1 e⟩)])) J<|?_;refine cl J (kC (p:=(l.a:Rat)) (q:=(l.b:Rat))) J<|cl J (kC (p:=rgcd l.a l.b) (q:=(l.c:Rat))) J<|cl J (o9 (m:=1) (by decide)) J<|?_;refine cl (fu:=⟨0⟩) J (vM (p:=rgcd (rgcd l.a l.b) l.c) (q:=((1:Int):Rat))) J<|fD J (by show some (!decide _)=some true;rw[JA ho hz];rfl) J<|?_;exact rz J J
 .
  refine eo J (by first|rfl|(show some (decide _)=some false;rw[decide_eq_false (fun e=>hz ⟨ha,dV.1 e⟩)])) J<|cl J (kC (p:=(l.a:Rat)) (q:=(l.b:Rat))) J<|?_;refine cl J (kC (p:=rgcd l.a l.b) (q:=(l.c:Rat))) J<|cl J (o9 (m:=1) (by decide)) J<|cl (fu:=⟨0⟩) J (vM (p:=rgcd (rgcd l.a l.b) l.c) (q:=((1:Int):Rat))) J<|?_;refine fD J (by show some (!decide _)=some true;rw[JA ho hz];rfl) J<|?_;exact rz J J
def ayn{l:ab}[hl:LB l][Decidable l.ok]:PF GB prog 182 [eL l] (sB (if l.ok then some l else none)):=by
 split
 ·rename_i h;exact UY h
 ·rename_i h
  by_cases hz:l.a=0/\l.b=0
  ·exact Zg hz.1 hz.2
  ·exact QE hz h
def ld(n:Bool)(ds:List Nat):Prop:=d4 ds/\(n=true->0<ds.length)
instance (n:Bool) (ds:List Nat):Decidable (ld n ds):=inferInstanceAs (Decidable (_/\_))
def vQ{neg:Bool}{ds:List Nat}(h:bu ds/\ds.length<=3):PF GB prog 269 [.ag [.v (.bool neg),fk ds]] (vB (decide (ld neg ds))):=Ou h.1 (by have:=h.2;omega)
structure RL where
 na:Bool
 da:List Nat
 nb:Bool
 db:List Nat
 nc:Bool
 dc:List Nat
def RL.d(r:RL):DV:= .ag [.v (.bool r.na),fk r.da, .v (.bool r.nb),fk r.db, .v (.bool r.nc),fk r.dc]
def qt(n:Bool)(ds:List Nat):Int:=if n then-(dv ds:Int) else dv ds
def RL.l(r:RL):ab:=⟨qt r.na r.da,qt r.nb r.db,qt r.nc r.dc⟩
def RL.nm(r:RL):Prop:=ld r.na r.da/\ld r.nb r.db/\ld r.nc r.dc
instance (l:ab):Decidable l.ok:=inferInstanceAs (Decidable (_/\_))
instance (r:RL):Decidable r.nm:=inferInstanceAs (Decidable (_/\_/\_))
def RL.ln(r:RL):Option ab:=if r.nm/\r.l.ok then some r.l else none
structure RL.sm (r:RL):Prop where
 a:bu r.da/\r.da.length<=3
 b:bu r.db/\r.db.length<=3
 c:bu r.dc/\r.dc.length<=3
def LX(n:Bool)(ds:List Nat):(qt n ds).natAbs=dv ds:=by unfold qt;cases n<;>simp
def Dj{n:Bool}{ds:List Nat}(hd:bu ds)(h:ld n ds):decide (qt n ds<0)=n:=by
 unfold qt
 cases n with
 |false=>simp
 |true=>
  have h0:0<dv ds:=by
   refine iZ fun e=>?_;have:=vJ hd h.1;rw[e,vP] at this;have h2:=h.2 J;rw[<-this] at h2;exact absurd h2 (by decide)
  simp only[if_true,decide_eq_true_eq];omega
def RL.eL{r:RL}(s:r.sm)(h:r.nm):r.d=Go.Sx.eL r.l:=by
 unfold RL.d Go.Sx.eL RL.l;simp only[LX,Dj s.a.1 h.1,Dj s.b.1 h.2.1,Dj s.c.1 h.2.2,dN,vJ s.a.1 h.1.1,vJ s.b.1 h.2.1.1,vJ s.c.1 h.2.2.1];rfl
theorem RL.lb{r:RL}(s:r.sm):LB r.l:=by
 have key: ∀(n:Bool) (ds:List Nat),bu ds/\ds.length<=3->(qt n ds).natAbs<2^96:=fun n ds h=>by
  rw[LX];refine cS (i6 h.1) ?_;rw[show(2:Nat)^96=4294967296^3 by decide];exact bZ (by decide) h.2
 exact⟨key _ _ s.a,key _ _ s.b,key _ _ s.c⟩
def Rh{r:RL}(s:r.sm)(h: ¬ld r.na r.da):PF GB prog 182 [r.d] (sB none):=by
 refine fn func182 J J ntmps182 J J (fun C=>?_);refine cl (fu:=⟨0⟩) J (vQ (neg:=r.na) (ds:=r.da) s.a) J<|fD J (by show some (!decide _)=some true;rw[decide_eq_false h];rfl) J<|?_;exact rz J J
def VV{r:RL}(s:r.sm)(h1:ld r.na r.da)(h: ¬ld r.nb r.db):PF GB prog 182 [r.d] (sB none):=by
 refine fn func182 J J ntmps182 J J (fun C=>?_);refine cl (fu:=⟨0⟩) J (vQ (neg:=r.na) (ds:=r.da) s.a) J<|eo J (by show some (!decide _)=some false;rw[decide_eq_true h1];rfl) J<|cl (fu:=⟨0⟩) J (vQ (neg:=r.nb) (ds:=r.db) s.b) J<|?_;refine fD J (by show some (!decide _)=some true;rw[decide_eq_false h];rfl) J<|?_;exact rz J J
def SE{r:RL}(s:r.sm)(h1:ld r.na r.da)(h2:ld r.nb r.db)(h: ¬ld r.nc r.dc):PF GB prog 182 [r.d] (sB none):=by
 refine fn func182 J J ntmps182 J J (fun C=>?_);refine cl (fu:=⟨0⟩) J (vQ (neg:=r.na) (ds:=r.da) s.a) J<|eo J (by show some (!decide _)=some false;rw[decide_eq_true h1];rfl) J<|cl (fu:=⟨0⟩) J (vQ (neg:=r.nb) (ds:=r.db) s.b) J<|?_;refine eo J (by show some (!decide _)=some false;rw[decide_eq_true h2];rfl) J<|cl (fu:=⟨0⟩) J (vQ (neg:=r.nc) (ds:=r.dc) s.c) J<|fD J (by show some (!decide _)=some true;rw[decide_eq_false h];rfl) J<|?_;exact rz J J
def LG{r:RL}(s:r.sm):PF GB prog 182 [r.d] (sB r.ln):=by
 by_cases h1:ld r.na r.da
 ·by_cases h2:ld r.nb r.db
  ·by_cases h3:ld r.nc r.dc
   ·haveI:=RL.lb s
    rw[RL.eL s ⟨h1,h2,h3⟩,show r.ln=if r.l.ok then some r.l else none by unfold RL.ln;simp[show r.nm from⟨h1,h2,h3⟩]];exact ayn
   ·rw[show r.ln=none from if_neg fun e=>h3 e.1.2.2]
    exact SE s h1 h2 h3
  ·rw[show r.ln=none from if_neg fun e=>h2 e.1.2.1]
   exact VV s h1 h2
 ·rw[show r.ln=none from if_neg fun e=>h1 e.1.1]
  exact Rh s h1
def lm(n:Nat)(f:Nat->Bool):List Value:=(List.range n).map fun j=> .bool (f j)
def kz(f:Nat->Bool)(i:Nat):Nat->Bool:=fun j=>f j||Nat.beq j i
def ES(n:Nat)(f:Nat->Bool):(lm n f).length=n:=by simp[lm]
def BX{n i:Nat}{f:Nat->Bool}{b:Bool}(h:i<n)(hf:f i=b):(lm n f)[i]? =some (.bool b):=by simp[lm,h,hf]
def yr{f:Nat->Bool}{i j:Nat}(e:j≠i):kz f i j=f j:=by
 unfold kz
 cases hb:Nat.beq j i with
 |false=>rw[rS]
 |true=>exact absurd (aY hb) e
def Iv{f:Nat->Bool}{i:Nat}:kz f i i=true:=by
 unfold kz;rw[oU,Bool.or_true]
def L'(n i:Nat)(f:Nat->Bool):(lm n f).set i (.bool true)=lm n (kz f i):=by
 apply lQ;intro j;rw[nW];simp only[lm,aJ,nU,fR];by_cases hj:j<n
 ·rw[pL hj]
  simp only[jW];by_cases e:i=j
  ·subst e;simp[hj,Iv]
  ·rw[yr (fun h=>e h.symm)];simp[e]
 ·rw[dJ (by simpa using hj)]
  by_cases e:i=j
  ·subst e;simp[hj]
  ·simp[e]
def anH(n:Nat):cE (.bool false) n=lm n (fun _=>false):=by
 apply lQ;intro j;by_cases hj:j<n
 ·rw[BX hj J]
  unfold cE;rw[DX (aD (.bool false)) n j (by simpa[aD] using hj)];simp[aD,Nat.mod_one]
 ·rw[dJ (by rw[ml];simp[aD];omega),dJ (by rw[ES];omega)]
structure RN where
 g:RL
 l:Int
 r:Int
def RN.d(n:RN):DV:= .ag [.v (.bool n.g.na),fk n.g.da, .v (.bool n.g.nb),fk n.g.db, .v (.bool n.g.nc),fk n.g.dc, .v (.int .i64 n.l), .v (.int .i64 n.r)]
structure RS where
 f:Nat->Bool
 c:Nat
 b:Bool
inductive RR (ns:List RN):Int->RS->Tr->RS->Prop where
 |leaf (b:Bool) (s:RS):RR ns (qe b) s (.leaf b) s
 |bad (rt:Int) (s:RS) (h1:rt≠ -1) (h2:rt≠ -2) (h:rt<0\/(ns.length:Int)<=rt\/(∃k:Nat,rt=k/\k<ns.length/\s.f k=true)):RR ns rt s (.leaf false) ⟨s.f,s.c,true⟩
 |line (k:Nat) (n:RN) (s:RS) (h:ns[k]? =some n) (hf:s.f k=false) (hl:n.g.ln=none):RR ns (k:Int) s (.leaf false) ⟨kz s.f k,s.c+1,true⟩
 |node (k:Nat) (n:RN) (l:ab) (s s2 s3:RS) (x y:Tr) (h:ns[k]? =some n) (hf:s.f k=false) (hl:n.g.ln=some l) (h1:RR ns n.l ⟨kz s.f k,s.c+1,s.b⟩ x s2) (h2:RR ns n.r s2 y s3):RR ns (k:Int) s (.node l x y) s3
def RR.mono{ns:List RN}{rt:Int}{s s':RS}{t:Tr}(h:RR ns rt s t s'):s.c<=s'.c:=by
 induction h with
 |leaf=>exact aN _
 |bad=>exact aN _
 |line=>exact Nat.le_succ _
 |node k n l s s2 s3 x y h hf hl h1 h2 i1 i2=>simp only at i1;omega
def wo{G:Gh}{q:Rat}{v:Value}(h:Is G (dl q) v): ∃p,v= .pointer p:=by
 rcases rA.1 h with⟨_,h⟩|⟨_,h⟩
 ·exact⟨_,h⟩
 ·obtain⟨b,m,h,_⟩:=nP.1 h;exact⟨_,h⟩
def U7{G:Gh}{l:ab}{v:Value}(h:Is G (d8 l) v): ∃n1 d1 p1 n2 d2 p2 n3 d3 p3,v= .agg ⟨[.int .i64 n1, .int .i64 d1, .pointer p1, .int .i64 n2, .int .i64 d2, .pointer p2, .int .i64 n3, .int .i64 d3, .pointer p3]⟩:=by
 obtain⟨m,rfl,g⟩:=cO.1 h;clear h;obtain⟨v1,m,rfl,h1,h⟩:=aO.1 g;obtain⟨v2,m,rfl,h2,h⟩:=aO.1 h;obtain⟨v3,m,rfl,h3,h⟩:=aO.1 h;obtain⟨v4,m,rfl,h4,h⟩:=aO.1 h;obtain⟨v5,m,rfl,h5,h⟩:=aO.1 h;obtain⟨v6,m,rfl,h6,h⟩:=aO.1 h;obtain⟨v7,m,rfl,h7,h⟩:=aO.1 h;obtain⟨v8,m,rfl,h8,h⟩:=aO.1 h;obtain⟨v9,m,rfl,h9,h⟩:=aO.1 h;rw[cB] at h;subst h;obtain⟨_,rfl⟩:=wo h3;obtain⟨_,rfl⟩:=wo h6;obtain⟨_,rfl⟩:=wo h9;rw[aF.1 h1,aF.1 h2,aF.1 h4,aF.1 h5,aF.1 h7,aF.1 h8];exact⟨_,_,_,_,_,_,_,_,_,J⟩
def II{G:Gh}{o:Option ab}{v:Value}(h:Is G (sB o) v): ∃n1 d1 p1 n2 d2 p2 n3 d3 p3,v= .tuple #[.agg ⟨[.int .i64 n1, .int .i64 d1, .pointer p1, .int .i64 n2, .int .i64 d2, .pointer p2, .int .i64 n3, .int .i64 d3, .pointer p3]⟩, .bool o.isSome]/\
  ∀l,o=some l->Is G (d8 l) (.agg ⟨[.int .i64 n1, .int .i64 d1, .pointer p1, .int .i64 n2, .int .i64 d2, .pointer p2, .int .i64 n3, .int .i64 d3, .pointer p3]⟩):=by
 cases o with
 |some l=>
  obtain⟨m,rfl,g⟩:=je.1 h;obtain⟨v1,m,rfl,h1,h⟩:=aO.1 g;obtain⟨v2,m,rfl,h2,h⟩:=aO.1 h;rw[cB] at h;subst h;obtain⟨n1,d1,p1,n2,d2,p2,n3,d3,p3,rfl⟩:=U7 h1;rw[aF.1 h2];exact⟨n1,d1,p1,n2,d2,p2,n3,d3,p3,J,fun k e=>by cases e;exact h1⟩
 |none=>
  obtain⟨m,rfl,g⟩:=je.1 h;obtain⟨v1,m,rfl,h1,h⟩:=aO.1 g;obtain⟨v2,m,rfl,h2,h⟩:=aO.1 h;rw[cB] at h;subst h;clear g h;obtain⟨m,rfl,g⟩:=cO.1 h1;obtain⟨w1,m,rfl,k1,h⟩:=aO.1 g;obtain⟨w2,m,rfl,k2,h⟩:=aO.1 h;obtain⟨w3,m,rfl,k3,h⟩:=aO.1 h;obtain⟨w4,m,rfl,k4,h⟩:=aO.1 h;obtain⟨w5,m,rfl,k5,h⟩:=aO.1 h;obtain⟨w6,m,rfl,k6,h⟩:=aO.1 h;obtain⟨w7,m,rfl,k7,h⟩:=aO.1 h;obtain⟨w8,m,rfl,k8,h⟩:=aO.1 h;obtain⟨w9,m,rfl,k9,h⟩:=aO.1 h;rw[cB] at h;subst h;rw[aF.1 k1,aF.1 k2,aF.1 k3,aF.1 k4,aF.1 k5,aF.1 k6,aF.1 k7,aF.1 k8,aF.1 k9];rw[aF.1 h2];exact⟨_,_,_,_,_,_,_,_,_,J,fun k e=>by cases e⟩
def Ly{G:Gh}{n:RN}{v:Value}(h:Is G n.d v): ∃x1 x2 x3:SV,v= .agg ⟨[.bool n.g.na, .slice x1.a x1.n x1.c, .bool n.g.nb, .slice x2.a x2.n x2.c, .bool n.g.nc, .slice x3.a x3.n x3.c, .int .i64 n.l, .int .i64 n.r]⟩/\
  Is G n.g.d (.agg ⟨[.bool n.g.na, .slice x1.a x1.n x1.c, .bool n.g.nb, .slice x2.a x2.n x2.c, .bool n.g.nc, .slice x3.a x3.n x3.c]⟩):=by
 obtain⟨m,rfl,g⟩:=cO.1 h;clear h;obtain⟨v1,m,rfl,h1,h⟩:=aO.1 g;obtain⟨v2,m,rfl,h2,h⟩:=aO.1 h;obtain⟨v3,m,rfl,h3,h⟩:=aO.1 h;obtain⟨v4,m,rfl,h4,h⟩:=aO.1 h;obtain⟨v5,m,rfl,h5,h⟩:=aO.1 h;obtain⟨v6,m,rfl,h6,h⟩:=aO.1 h;obtain⟨v7,m,rfl,h7,h⟩:=aO.1 h;obtain⟨v8,m,rfl,h8,h⟩:=aO.1 h;rw[cB] at h;subst h;obtain⟨_,x1,_,rfl,_,_⟩:=gG.1 (id h2);obtain⟨_,x2,_,rfl,_,_⟩:=gG.1 (id h4);obtain⟨_,x3,_,rfl,_,_⟩:=gG.1 (id h6)
 cases aF.1 h1;cases aF.1 h3;cases aF.1 h5;cases aF.1 h7;cases aF.1 h8
 exact⟨x1,x2,x3,J,cO.2 ⟨_,J, .cons h1 (.cons h2 (.cons h3 (.cons h4 (.cons h5 (.cons h6 .nil)))))⟩⟩
def pD{G:Gh}{t:Tr}{v:Value}(h:Is G (eU t) v): ∃p,v= .pointer p:=by
 obtain⟨b,m,h,_⟩:=nP.1 h;exact⟨_,h⟩
def PF.fn0{P:Program}{f:FuncId}{ds:List DV}{r:DV}(h: ∀{GB:Gh},PF GB P f ds r){G:Gh}{vs:List Value}(hv:IsLs G ds vs):Fn P f vs G (fun v G'=>Is G' r v):=h (GB:=G) G vs (bz.refl G) hv
abbrev OQ (x:SV) (ns:List RN) (A:Gh):Prop:= ∃es,ee A 8 x es/\IsLs A (ns.map RN.d) es
def YV{A:Gh}{ns:List RN}{x:SV}(hx:OQ x ns A)(hs: ∀n∈ns,n.g.sm)(hn:ns.length<=1000000){rt:Int}{s s':RS}{t:Tr}(h:RR ns rt s t s'): ∀{G:Gh} {rb sb:Nat} {lo lo2:Bool},[GL A G]->s'.c<=1000000->
  jn prog 219 [.pointer (some ⟨rb,0,none⟩), .int .i64 rt] [⟨rb,[.slice x.a x.n x.c, .slice (some ⟨sb,0,none⟩) ns.length ns.length, .int .i64 s.c, .bool s.b],342,lo⟩,⟨sb,lm ns.length s.f,4,lo2⟩] G
   (fun v css G'=> ∃p,v= .pointer p/\Is G' (eU t) (.pointer p)/\css=[[.slice x.a x.n x.c, .slice (some ⟨sb,0,none⟩) ns.length ns.length, .int .i64 s'.c, .bool s'.b],lm ns.length s'.f]):=by
 obtain⟨es,hx,hes⟩:=hx;have hel:=hes.len;rw[aJ] at hel;have hlen:=hx.len;rw[hel] at hlen;obtain⟨xa,xn,xc⟩:=x;simp only[] at hlen;subst hlen
 induction h with
 |leaf bb s=>
  intro G rb sb lo lo2 _ hc;refine jn.intro func219 J J ntmps219 J ?_;intro C _ _;show St C _ _ [⟨rb,_,_,false⟩,⟨sb,_,_,false⟩] _ _
  cases bb
  case true=>
   refine sR<|sa J J<|zE<|bm<|dP<|sR<|sm J J<|sy (ik J J) J<|sm J J<|ss J J J J<|ss J J J J<|?_;refine sy (qr J J) J<|sa J J<|zE<|og J<|sR<|sm J J<|sy (ik J J) J<|?_;refine sc (zC J J (PF.fn0 (q8 (b:=true)) (.cons (aF.2 J) .nil)) J ?_);rintro _ G1 _ hp;obtain⟨p,rfl⟩:=pD hp;refine sa J J<|zE<|c6<|?_;exact ql (css:=[_,_]) (.tmp J .nil) J _ (List.Perm.refl _) (List.Sublist.refl _) ⟨p,J,hp,J⟩
  refine sR<|sa J J<|zE<|bm<|dP<|sR<|sm J J<|sy (ik J J) J<|sm J J<|bG J J (e8 J) J<|bG J J (ik J J) J<|?_;refine sy (lj J J) J<|sa J J<|zE<|og J<|sR<|sm J J<|sy (ik J J) J<|?_;refine sc (zC J J (PF.fn0 (q8 (b:=false)) (.cons (aF.2 J) .nil)) J ?_);rintro _ G1 _ hp;obtain⟨p,rfl⟩:=pD hp;refine sa J J<|zE<|c6<|?_;exact ql (css:=[_,_]) (.tmp J .nil) J _ (List.Perm.refl _) (List.Sublist.refl _) ⟨p,J,hp,J⟩
 |bad rt s h1 h2 h=>
  intro G rb sb lo lo2 _ hc;refine jn.intro func219 J J ntmps219 J ?_;intro C _ _;show St C _ [(0, .pointer (some ⟨rb,0,none⟩)),(1, .int .i64 rt)] [⟨rb,[.slice xa ns.length xc, .slice (some ⟨sb,0,none⟩) ns.length ns.length, .int .i64 s.c, .bool s.b],_,false⟩,⟨sb,lm ns.length s.f,_,false⟩] _ _;refine sR<|sa J J<|zE<|bm<|dP<|sR<|sm J J<|sy (ik J J) J<|sm J J<|?_;refine mP 12 J (fun hg=>absurd hg (by omega)) (fun hg=>?_);refine bG J J (e8 J) J<|bG J J (ik J J) J<|sy (lj J J) J<|sa J J<|zE<|?_;refine fB J (fun hc=>absurd hc (by omega)) (fun _=>?_);refine sR<|sm J J<|sy (i5 J J) J<|sm J J<|?_;refine mP 22 J (fun hg=>?_) (fun hg=>?_)
  ·refine ss J J J J<|ss J J J J<|ss J J J J<|ss J J J J<|ss J J J J<|ss J J J J<|ss J J J J<|sy (qr J J) J<|sm J J<|ss J J J J<|ss J J J J<|?_
   refine ss J J J J<|ss J J J J<|ss J J J J<|ss J J J J<|ss J J J J<|sy (qr J J) J<|sa J J<|zE<|og J<|bm<|?_;refine dH<|sm J J<|sn J J<|sf J J<|?_;refine sc (rI J J J (.hd ..) (nb J) J J ?_);refine zE<|sR<|?_;refine sc (zC J J (PF.fn0 (q8 (b:=false)) (.cons (aF.2 J) .nil)) J ?_);rintro _ G1 _ hp;obtain⟨p,rfl⟩:=pD hp;refine sa J J<|zE<|c6<|?_;exact ql (css:=[_,_]) (.tmp J .nil) J _ (List.Perm.refl _) (List.Sublist.refl _) ⟨p,J,hp,J⟩
  refine bG J J (e8 J) J<|bG J J (e8 J) J<|bG J J (kj J) J<|bG J J (mG J) J<|bG J J (kA J J) J<|bG J J (m8 J) J<|bG J J (ti J J) J<|sy (lj J J) J<|sm J J<|?_;refine mP 31 J (fun hg=>?_) (fun hg=>?_)
  ·refine ss J J J J<|ss J J J J<|ss J J J J<|ss J J J J<|ss J J J J<|ss J J J J<|ss J J J J<|?_
   refine sy (qr J J) J<|sa J J<|zE<|og J<|sR<|sm J J<|sn J J<|sf J J<|?_;refine sc (rI J J J (.hd ..) (nb J) J J ?_);refine zE<|sR<|?_;refine sc (zC J J (PF.fn0 (q8 (b:=false)) (.cons (aF.2 J) .nil)) J ?_);rintro _ G1 _ hp;obtain⟨p,rfl⟩:=pD hp;refine sa J J<|zE<|c6<|?_;exact ql (css:=[_,_]) (.tmp J .nil) J _ (List.Perm.refl _) (List.Sublist.refl _) ⟨p,J,hp,J⟩
  obtain⟨k,rfl,hk,hf⟩: ∃k:Nat,rt=k/\k<ns.length/\s.f k=true:=by
   rcases h with h|h|h
   ·omega
   ·exact absurd h hg
   ·exact h
  refine bG J J (e8 J) J<|bG J J (kj J) J<|bG J J (mG J) J<|bG J J (kA J J) J<|bG J J (e8 J) J<|bG J J (e7 J J (by omega) (by omega)) J<|?_;refine bG J J (kA (v:= .bool true) J (by rw[aM,iW];exact BX hk hf)) J<|sy (lj J J) J<|sa J J<|zE<|og J<|?_;refine sR<|sm J J<|sn J J<|sf J J<|?_;refine sc (rI J J J (.hd ..) (nb J) J J ?_);refine zE<|sR<|?_;refine sc (zC J J (PF.fn0 (q8 (b:=false)) (.cons (aF.2 J) .nil)) J ?_);rintro _ G1 _ hp;obtain⟨p,rfl⟩:=pD hp;refine sa J J<|zE<|c6<|?_;exact ql (css:=[_,_]) (.tmp J .nil) J _ (List.Perm.refl _) (List.Sublist.refl _) ⟨p,J,hp,J⟩
 |line base n s h0 hfb hl=>
  intro G rb sb lo lo2 _ hc;have hbn:base<ns.length:=(aS.1 h0).1;simp only at hc;obtain⟨z,hzi,hz⟩:=hes.get (i:=base) (d:=n.d) (by rw[fR,h0];rfl);obtain⟨x1,x2,x3,rfl,hzg⟩:=Ly hz;refine jn.intro func219 J J ntmps219 J ?_;intro C _ _;show St C _ [(0, .pointer (some ⟨rb,0,none⟩)),(1, .int .i64 (base:Int))] [⟨rb,[.slice xa ns.length xc, .slice (some ⟨sb,0,none⟩) ns.length ns.length, .int .i64 s.c, .bool s.b],_,false⟩,⟨sb,lm ns.length s.f,_,false⟩] _ _;refine sR<|sa J J<|zE<|bm<|dP<|sR<|sm J J<|sy (ik J J) J<|sm J J<|?_;refine mP 12 J (fun hg=>absurd hg (by omega)) (fun hg=>?_);refine bG J J (e8 J) J<|bG J J (ik J J) J<|sy (lj J J) J<|sa J J<|zE<|?_;refine fB J (fun hc=>absurd hc (by omega)) (fun _=>?_);refine sR<|sm J J<|sy (i5 J J) J<|sm J J<|?_;refine mP 22 J (fun hg=>absurd hg (by omega)) (fun hg=>?_);refine bG J J (e8 J) J<|bG J J (e8 J) J<|bG J J (kj J) J<|bG J J (mG J) J<|bG J J (kA J J) J<|bG J J (m8 J) J<|bG J J (ti J J) J<|sy (lj J J) J<|sm J J<|?_;refine mP 31 J (fun hg=>absurd hg (by omega)) (fun hg=>?_);refine bG J J (e8 J) J<|bG J J (kj J) J<|bG J J (mG J) J<|bG J J (kA J J) J<|bG J J (e8 J) J<|bG J J (e7 J J (by omega) (by omega)) J<|?_;refine bG J J (kA (v:= .bool false) J (by rw[aM,iW];exact BX hbn hfb)) J<|sy (lj J J) J<|sa J J<|zE<|uI J<|zK<|?_;refine sR<|sm J J<|sn J J<|sf J J<|o6 J J J<|sm J J<|sy (e7 J J (by omega) (by omega)) J<|?_;refine sc (rH J J (.tl _ _ _ _ _ _ _ _ (.hd ..)) (by rw[ES,aM,iW];exact hbn) J J ?_);rw[aM,iW,L'];refine zE<|sR<|sm J J<|sn J J<|sf J J<|o6 J J J<|sy (dO J J) J<|sn J J<|sf J J<|?_
  refine sc (rI J J J (by repeat (first|exact .hd .. |apply fh.tl)) (nb J) J J ?_);rw[show(s.c:Int)+1=((s.c+1:Nat):Int) by omega];refine zE<|sR<|sm J J<|sn J J<|sf J J<|o6 J J J<|sm J J<|sy (GS (z:=⟨xa,ns.length,xc⟩) hx J J (by omega) (by show(base:Int)<(ns.length:Int);omega)) J<|?_;rw[aM];refine sy (Oe (i:=base) hx J (by rw[hel];exact hbn) hzi) J<|?_;refine sc (tO J ?_);intro b5;refine sc (zj J J J (by repeat (first|exact .hd .. |apply fh.tl)) J (nb J) J J ?_);refine zE<|sR<|sf J J<|Dd J J J<|?_;refine sc (zC J J (PF.fn0 (LG (hs n (bU h0))) (.cons (hzg.up GL.le) .nil)) J ?_);rintro _ G6 _ hw;rw[hl] at hw;obtain⟨n1,d1,p1,n2,d2,p2,n3,d3,p3,rfl,hw⟩:=II hw;refine sm J J<|sx J J J<|sx J J J<|?_;refine sc (tO J ?_);intro b6;refine sc (zj J J J (by repeat (first|exact .hd .. |apply fh.tl)) J (nb J) J J ?_);refine sa J J<|zE<|bm<|sR<|sm J J<|sy (zH J) J<|zE<|og J<|?_;refine sR<|sm J J<|sn J J<|sf J J<|?_;refine sc (rI J J J (by repeat (first|exact .hd .. |apply fh.tl)) (nb J) J J ?_);refine zE<|sR<|?_;refine sc (zC J J (PF.fn0 (q8 (b:=false)) (.cons (aF.2 J) .nil)) J ?_);rintro _ G7 _ hp;obtain⟨p,rfl⟩:=pD hp;refine sa J J<|zE<|c6<|?_;exact ql (css:=[_,_]) (.tmp J .nil) J _ (lR (l₁:=[_,_]) (l₂:=[_,_])) (.cons_cons _ (.cons_cons _ (kZ _))) ⟨p,J,hp,J⟩
 |node base n l s s2 s3 tx ty h0 hfb hl h1 h2 ih1 ih2=>
  intro G rb sb lo lo2 _ hc;have hbn:base<ns.length:=(aS.1 h0).1;have hm1:=h1.mono;have hm2:=h2.mono;simp only at hm1;obtain⟨z,hzi,hz⟩:=hes.get (i:=base) (d:=n.d) (by rw[fR,h0];rfl);obtain⟨x1,x2,x3,rfl,hzg⟩:=Ly hz;refine jn.intro func219 J J ntmps219 J ?_;intro C _ _;show St C _ [(0, .pointer (some ⟨rb,0,none⟩)),(1, .int .i64 (base:Int))] [⟨rb,[.slice xa ns.length xc, .slice (some ⟨sb,0,none⟩) ns.length ns.length, .int .i64 s.c, .bool s.b],_,false⟩,⟨sb,lm ns.length s.f,_,false⟩] _ _;refine sR<|sa J J<|zE<|bm<|dP<|sR<|sm J J<|sy (ik J J) J<|sm J J<|?_;refine mP 12 J (fun hg=>absurd hg (by omega)) (fun hg=>?_);refine bG J J (e8 J) J<|bG J J (ik J J) J<|sy (lj J J) J<|sa J J<|zE<|?_;refine fB J (fun hc=>absurd hc (by omega)) (fun _=>?_);refine sR<|sm J J<|sy (i5 J J) J<|sm J J<|?_;refine mP 22 J (fun hg=>absurd hg (by omega)) (fun hg=>?_);refine bG J J (e8 J) J<|bG J J (e8 J) J<|bG J J (kj J) J<|bG J J (mG J) J<|bG J J (kA J J) J<|bG J J (m8 J) J<|bG J J (ti J J) J<|sy (lj J J) J<|sm J J<|?_;refine mP 31 J (fun hg=>absurd hg (by omega)) (fun hg=>?_);refine bG J J (e8 J) J<|bG J J (kj J) J<|bG J J (mG J) J<|bG J J (kA J J) J<|bG J J (e8 J) J<|bG J J (e7 J J (by omega) (by omega)) J<|?_;refine bG J J (kA (v:= .bool false) J (by rw[aM,iW];exact BX hbn hfb)) J<|sy (lj J J) J<|sa J J<|zE<|uI J<|zK<|?_;refine sR<|sm J J<|sn J J<|sf J J<|o6 J J J<|sm J J<|sy (e7 J J (by omega) (by omega)) J<|?_;refine sc (rH J J (.tl _ _ _ _ _ _ _ _ (.hd ..)) (by rw[ES,aM,iW];exact hbn) J J ?_);rw[aM,iW,L']
  refine zE<|sR<|sm J J<|sn J J<|sf J J<|o6 J J J<|sy (dO J J) J<|sn J J<|sf J J<|?_;refine sc (rI J J J (by repeat (first|exact .hd .. |apply fh.tl)) (nb J) J J ?_);rw[show(s.c:Int)+1=((s.c+1:Nat):Int) by omega];refine zE<|sR<|sm J J<|sn J J<|sf J J<|o6 J J J<|sm J J<|sy (GS (z:=⟨xa,ns.length,xc⟩) hx J J (by omega) (by show(base:Int)<(ns.length:Int);omega)) J<|?_;rw[aM];refine sy (Oe (i:=base) hx J (by rw[hel];exact hbn) hzi) J<|?_;refine sc (tO J ?_);intro b5;refine sc (zj J J J (by repeat (first|exact .hd .. |apply fh.tl)) J (nb J) J J ?_);refine zE<|sR<|sf J J<|Dd J J J<|?_;refine sc (zC J J (PF.fn0 (LG (hs n (bU h0))) (.cons (hzg.up GL.le) .nil)) J ?_);rintro _ G6 _ hw;rw[hl] at hw;obtain⟨n1,d1,p1,n2,d2,p2,n3,d3,p3,rfl,hw'⟩:=II hw;replace hw:=hw' l J;refine sm J J<|sx J J J<|sx J J J<|?_;refine sc (tO J ?_);intro b6;refine sc (zj J J J (by repeat (first|exact .hd .. |apply fh.tl)) J (nb J) J J ?_);refine sa J J<|zE<|bm<|sR<|sm J J<|sy (zH J) J<|zE<|uI J<|zK<|?_;refine sR<|sm J J<|sf J J<|o6 J J J<|?_;have hrp:=ih1 (G:=G6) (rb:=rb) (sb:=sb) (lo:=false) (lo2:=false) (by omega);refine sc (AL J J (lR (l₁:=[_,_]) (l₂:=[_,_])) hrp J ?_);rintro _ css G7 _ _ ⟨q1,rfl,hp1,rfl⟩;show St C _ _ [⟨rb,[.slice xa ns.length xc, .slice (some ⟨sb,0,none⟩) ns.length ns.length, .int .i64 s2.c, .bool s2.b],342,false⟩,⟨sb,lm ns.length s2.f,4,false⟩,⟨b6,[.int .i64 n1, .int .i64 d1, .pointer p1, .int .i64 n2, .int .i64 d2, .pointer p2, .int .i64 n3, .int .i64 d3, .pointer p3],218,true⟩,⟨b5,[.bool n.g.na, .slice x1.a x1.n x1.c, .bool n.g.nb, .slice x2.a x2.n x2.c, .bool n.g.nc, .slice x3.a x3.n x3.c, .int .i64 n.l, .int .i64 n.r],149,true⟩] _ _
  refine sa J J<|zE<|bm<|?_;refine zq [⟨b6,[.int .i64 n1, .int .i64 d1, .pointer p1, .int .i64 n2, .int .i64 d2, .pointer p2, .int .i64 n3, .int .i64 d3, .pointer p3],218,true⟩,⟨b5,[.bool n.g.na, .slice x1.a x1.n x1.c, .bool n.g.nb, .slice x2.a x2.n x2.c, .bool n.g.nc, .slice x3.a x3.n x3.c, .int .i64 n.l, .int .i64 n.r],149,true⟩] (fun _=>false) [(0,true),(1,true),(2,true),(3,true),(4,true),(5,false),(6,false),(7,true)] follows (by kernel_rfl)<|?_;refine dL J J J J<|dM J J J<|dM J J J<|dF J J J<|p8 J J J J<|?_;have hrp:=ih2 (G:=G7) (rb:=rb) (sb:=sb) (lo:=false) (lo2:=false) hc;refine dc J J (AL J J (M:=[_,_]) (rest:=[_,_]) (List.Perm.refl _) hrp J ?_);rintro _ css G8 _ _ ⟨q2,rfl,hp2,rfl⟩;show St C _ _ [⟨rb,[.slice xa ns.length xc, .slice (some ⟨sb,0,none⟩) ns.length ns.length, .int .i64 s3.c, .bool s3.b],342,false⟩,⟨sb,lm ns.length s3.f,4,false⟩,⟨b6,[.int .i64 n1, .int .i64 d1, .pointer p1, .int .i64 n2, .int .i64 d2, .pointer p2, .int .i64 n3, .int .i64 d3, .pointer p3],218,true⟩,⟨b5,[.bool n.g.na, .slice x1.a x1.n x1.c, .bool n.g.nb, .slice x2.a x2.n x2.c, .bool n.g.nc, .slice x3.a x3.n x3.c, .int .i64 n.l, .int .i64 n.r],149,true⟩] _ _;refine l9<|?_;refine dc J J (zC J J (PF.fn0 (wP (l:=l) (x:=tx) (y:=ty)) (.cons (hw.up GL.le) (.cons (hp1.up GL.le) (.cons hp2 .nil)))) J ?_);rintro _ G9 _ hp;obtain⟨p,rfl⟩:=pD hp;refine l9<|dA J J J<|dn<|c6<|?_;exact ql (css:=[_,_]) (.tmp J .nil) J _ (List.Perm.refl _) (.cons_cons _ (.cons_cons _ (kZ _))) ⟨p,J,hp,J⟩
def py:RS:=⟨fun _=>false,0,false⟩
def yf(ns:List RN)(t:Tr)(s:RS):DV:=if s.b=false/\s.c=ns.length then .tp [eU t,vB true] else .tp [.v (.pointer none),vB false]
def vm(rt:Int)(ns:List RN):DV:= .ag [vI rt, .sl (ns.map RN.d)]
def Vv{ns:List RN}{rt:Int}{t:Tr}{s:RS}(hs: ∀n∈ns,n.g.sm)(hn:ns.length<=65536)(h:RR ns rt py t s)(hc:s.c<=1000000):PF GB prog 129 [vm rt ns] (yf ns t s):=by
 intro G vs _ hv;obtain⟨v0,m,rfl,h0,hm⟩:=aO.1 hv;rw[cB] at hm;subst hm;obtain⟨m,rfl,g⟩:=cO.1 h0;obtain⟨v1,m,rfl,h1,hm⟩:=aO.1 g;obtain⟨v2,m,rfl,h2,hm⟩:=aO.1 hm;rw[cB] at hm;subst hm;obtain⟨s0,x,es,rfl,hsl,hes⟩:=gG.1 h2;rw[aF.1 h1];have hel:=hes.len;rw[aJ] at hel;have hlen:=hsl.len;rw[hel] at hlen;have hx:OQ x ns G:=by
  refine⟨es,?_,hes⟩;rcases zh (s:=8) hsl hes (fun d hd=>by obtain⟨n,_,rfl⟩:=bW.1 hd;exact⟨rfl,rfl⟩) with e|e
  ·exact⟨hsl.len,hsl.cap, .inl e⟩
  ·rw[e] at hsl;exact hsl
 obtain⟨xa,xn,xc⟩:=x;simp only[] at hlen;subst hlen;show Fn _ _ [.agg ⟨[.int .i64 rt, .slice xa ns.length xc]⟩] _ _;refine Fn.intro func129 J J ntmps129 J ?_;intro C _ _;refine sR<|?_;refine sc (GX J J ?_);intro b1;refine sa J J<|sa J J<|zE<|bm<|sR<|sf J J<|o6 J J J<|cH J J<|sy (rg J J) J<|zE<|?_;refine fB J (fun hc=>absurd hc (by omega)) (fun _=>?_);refine zK<|bm<|dr (fun _=>false) [(0,true),(1,true),(2,true),(3,true),(4,true),(5,false),(6,true),(7,false),(8,true)] follows (by kernel_rfl)<|dF J J J<|?_;refine p8 J J J J<|dF J J J<|p8 J J J J<|dy J (fun _=>m8 J) J J<|?_;refine dc J J (qz J J (by omega) (by omega) (by omega) (by rfl) J ?_);intro b2;rw[aM,anH];refine l9<|dy J (fun _=>CP J) J J<|?_;refine dc J J (GX J J ?_);intro b3;refine l9<|dA J J J<|dn<|sR<|sm J J<|sf J J<|o6 J J J<|?_;have hrp:=YV hx hs (by omega) h (G:=G) (rb:=b3) (sb:=b2) (lo:=true) (lo2:=true) hc;refine sc (AL J J (M:=[_,_]) (rest:=[_]) (List.Perm.refl _) hrp J ?_);rintro _ css G4 _ _ ⟨p,rfl,hp,rfl⟩;show St C _ _ [⟨b3,[.slice xa ns.length xc, .slice (some ⟨b2,0,none⟩) ns.length ns.length, .int .i64 s.c, .bool s.b],342,true⟩,⟨b2,lm ns.length s.f,4,true⟩,⟨b1,[.int .i64 rt, .slice xa ns.length xc],32,true⟩] _ _;refine sa J J<|zE<|bm<|bm<|dr (fun _=>false) [(0,true),(1,true),(2,true),(3,true),(4,true),(5,true),(6,true),(7,true),(8,true),(9,true),(10,true),(11,true),(12,true),(13,true)] follows (by kernel_rfl)<|?_;obtain⟨sf_,sc_,sb_⟩:=s
 cases sb_
 case true=>
  refine dM J J J<|dy J (fun _=>kj J) J J<|dF J J J<|p8 J J J J<|dM J J J<|?_;refine si J J J J J J<|si J J J J J J<|si J J J J J J<|si J J J J J J<|si J J J J J J<|si J J J J J J<|?_;refine si J J J J J J<|si J J J J J J<|dy J (fun _=>qr J J) J J<|dn<|og J<|?_;refine sR<|sa J J<|sa J J<|zE<|c6<|?_;refine zD (.tmp J (.tmp J .nil)) ?_;rw[yf,if_neg (fun e=>by cases e.1)];exact je.2 ⟨_,J, .cons (aF.2 J) (.cons (aF.2 J) .nil)⟩
 refine dM J J J<|dy J (fun _=>kj J) J J<|dF J J J<|p8 J J J J<|dM J J J<|?_;refine tN J J J J (fun _=>e8 J) J<|tN J J J J (fun _=>kj J) J<|tN J J J J (fun _=>mG J) J<|tN J J J J (fun _=>kA J J) J<|?_;refine tN J J J J (fun _=>mG J) J<|tN J J J J (fun _=>kA J J) J<|tN J J J J (fun _=>m8 J) J<|tN J J J J (fun _=>tg J J) J<|?_;refine dy J (fun _=>lj J J) J J<|dn<|?_;refine fB J (fun hc=>?_) (fun hc=>?_) -- slot 35
 ·refine sR<|sa J J<|sa J J<|zE<|c6<|?_
  refine zD (.tmp J (.tmp J .nil)) ?_;rw[yf,if_neg (fun e=>hc (by have:=e.2;simp only at this;omega))];exact je.2 ⟨_,J, .cons (aF.2 J) (.cons (aF.2 J) .nil)⟩
 refine zK<|sR<|sm J J<|sa J J<|sa J J<|zE<|c6<|?_;refine zD (.tmp J (.tmp J .nil)) ?_;rw[yf,if_pos ⟨J,by have h9:=hc;simp at h9;show sc_=_;omega⟩];exact je.2 ⟨_,J, .cons hp (.cons (aF.2 J) .nil)⟩
def ayl{G:Gh}{l:ab}{x y:Tr}{m:List Value}(h:IsLs G (cU (.node l x y)) m): ∃n1 d1 p1 n2 d2 p2 n3 d3 p3 q r,m=[.int .i64 n1, .int .i64 d1, .pointer p1, .int .i64 n2, .int .i64 d2, .pointer p2, .int .i64 n3, .int .i64 d3, .pointer p3, .pointer q, .pointer r, .bool false]/\
  Is G (d8 l) (.agg ⟨[.int .i64 n1, .int .i64 d1, .pointer p1, .int .i64 n2, .int .i64 d2, .pointer p2, .int .i64 n3, .int .i64 d3, .pointer p3]⟩)/\Is G (eU x) (.pointer q)/\Is G (eU y) (.pointer r):=by
 obtain⟨v1,m,rfl,h1,h⟩:=aO.1 h;obtain⟨v2,m,rfl,h2,h⟩:=aO.1 h;obtain⟨v3,m,rfl,h3,h⟩:=aO.1 h;obtain⟨v4,m,rfl,h4,h⟩:=aO.1 h;obtain⟨v5,m,rfl,h5,h⟩:=aO.1 h;obtain⟨v6,m,rfl,h6,h⟩:=aO.1 h;obtain⟨v7,m,rfl,h7,h⟩:=aO.1 h;obtain⟨v8,m,rfl,h8,h⟩:=aO.1 h;obtain⟨v9,m,rfl,h9,h⟩:=aO.1 h;obtain⟨va,m,rfl,ha,h⟩:=aO.1 h;obtain⟨vb,m,rfl,hb,h⟩:=aO.1 h;obtain⟨vc,m,rfl,hc,h⟩:=aO.1 h;rw[cB] at h;subst h;obtain⟨_,rfl⟩:=wo h3;obtain⟨_,rfl⟩:=wo h6;obtain⟨_,rfl⟩:=wo h9;obtain⟨_,rfl⟩:=pD ha;obtain⟨_,rfl⟩:=pD hb
 cases aF.1 h1;cases aF.1 h2;cases aF.1 h4;cases aF.1 h5;cases aF.1 h7;cases aF.1 h8;cases aF.1 hc
 exact⟨_,_,_,_,_,_,_,_,_,_,_,J,cO.2 ⟨_,J, .cons h1 (.cons h2 (.cons h3 (.cons h4 (.cons h5 (.cons h6 (.cons h7 (.cons h8 (.cons h9 .nil))))))))⟩,ha,hb⟩
def Rt{G:Gh}{b:Bool}{m:List Value}(h:IsLs G (cU (.leaf b)) m):m=[.int .i64 0, .int .i64 0, .pointer none, .int .i64 0, .int .i64 0, .pointer none, .int .i64 0, .int .i64 0, .pointer none, .pointer none, .pointer none, .bool b]:=by
 obtain⟨v1,m,rfl,h1,h⟩:=aO.1 h;obtain⟨v2,m,rfl,h2,h⟩:=aO.1 h;obtain⟨v3,m,rfl,h3,h⟩:=aO.1 h;obtain⟨v4,m,rfl,h4,h⟩:=aO.1 h;obtain⟨v5,m,rfl,h5,h⟩:=aO.1 h;obtain⟨v6,m,rfl,h6,h⟩:=aO.1 h;obtain⟨v7,m,rfl,h7,h⟩:=aO.1 h;obtain⟨v8,m,rfl,h8,h⟩:=aO.1 h;obtain⟨v9,m,rfl,h9,h⟩:=aO.1 h;obtain⟨va,m,rfl,ha,h⟩:=aO.1 h;obtain⟨vb,m,rfl,hb,h⟩:=aO.1 h;obtain⟨vc,m,rfl,hc,h⟩:=aO.1 h;rw[cB] at h;subst h
 cases aF.1 h1;cases aF.1 h2;cases aF.1 h3;cases aF.1 h4;cases aF.1 h5;cases aF.1 h6;cases aF.1 h7;cases aF.1 h8;cases aF.1 h9;cases aF.1 ha;cases aF.1 hb;cases aF.1 hc
 rfl
def C7: ∀{t:Tr} {A A2 G:Gh} {p:Option Addr} {ob wb:Nat} {lo lo2:Bool} {x:SV} {zs:List ND} {ns:List NQ} {B:List aj},Is A (eU t) (.pointer p)->t.all LB->[GL A G]->[GL A2 G]->gI 8 149 x (zs.map ND.val) B->f4 (qp 96 A2) zs ns->zs.length+t.size<=1000000->
  iq prog 170 [.pointer p, .pointer (some ⟨ob,0,none⟩), .pointer (some ⟨wb,0,none⟩)] (⟨ob,[.int .i64 0, .slice x.a x.n x.c],32,lo⟩::⟨wb,[nk ob wb],274,lo2⟩::B) G
   (fun v own' G'=> ∃x' zs' B',v= .int .i64 (t.num zs.length)/\own'=⟨ob,[.int .i64 0, .slice x'.a x'.n x'.c],32,false⟩::⟨wb,[nk ob wb],274,false⟩::B'/\gI 8 149 x' (zs'.map ND.val) B'/\f4 (qp 96 G') zs' (ns++t.wr zs.length))
 | .leaf bb,A,A2,G,p,ob,wb,lo,lo2,x,zs,ns,B,h,_,_,_,hB,hz,hle=>by
  obtain⟨n,m,e,hg,hm⟩:=nP.1 (id h)
  cases e
  cases Rt hm
  have hG:sr A n _:=⟨hg⟩;have hz':f4 (qp 96 G) zs (ns++[]):=by rw[iK];exact hz.imp fun _ _ h=>h.up
  refine iq.intro func170 J J ntmps170 J ?_;intro C _ _;show St C _ _ (⟨ob,[.int .i64 0, .slice x.a x.n x.c],32,false⟩::⟨wb,[nk ob wb],274,false⟩::asB B) _ _;refine sR<|sa J J<|zE<|bm<|sR<|sm J J<|?_;refine sc (zC J J (PF.fn0 uz (.cons (h.up GL.le) .nil)) J ?_);rintro _ G1 _ hv
  cases aF.1 hv
  refine zE<|og J<|?_;refine bm<|sR<|sm J J<|sn J J<|sf J J<|V' J J J<|zE<|?_
  cases bb
  case true=>
   refine og J<|sR<|sa J J<|zE<|c6<|?_;exact AU (.tmp J .nil) _ _ (List.Perm.refl _) (List.Sublist.refl _) ⟨x,zs,_,J,J,hB.asB,hz'.imp fun _ _ h=>h.up⟩
  refine uI J<|zK<|sR<|sa J J<|zE<|c6<|?_;exact AU (.tmp J .nil) _ _ (List.Perm.refl _) (List.Sublist.refl _) ⟨x,zs,_,J,J,hB.asB,hz'.imp fun _ _ h=>h.up⟩
 | .node l s u,A,A2,G,p,ob,wb,lo,lo2,x,zs,ns,B,h,hall,_,_,hB,hz,hle=>by
  obtain⟨hlb,hall1,hall2⟩:=id hall;haveI:LB l:=hlb;obtain⟨n,m,e,hg,hm⟩:=nP.1 (id h)
  cases e
  obtain⟨n1,d1,p1,n2,d2,p2,n3,d3,p3,q,r,rfl,hzl,hs,hu⟩:=ayl hm;have hG:sr A n _:=⟨hg⟩;have hxn:=hB.len;have hzn:=hz.len;simp only[Tr.size] at hle;obtain⟨xa,xn,xc⟩:=x;rw[aJ] at hxn;simp only[] at hxn;subst hxn;refine iq.intro func170 J J ntmps170 J ?_;intro C _ _;show St C _ _ (⟨ob,[.int .i64 0, .slice xa zs.length xc],32,false⟩::⟨wb,[nk ob wb],274,false⟩::asB B) _ _;replace hB:=hB.asB;generalize asB B=B at hB;refine sR<|sa J J<|zE<|bm<|sR<|sm J J<|?_;refine sc (zC J J (PF.fn0 sv (.cons (h.up GL.le) .nil)) J ?_);rintro _ G1 _ hv
  cases aF.1 hv
  refine zE<|uI J<|?_;refine zK<|sR<|sf J J<|o6 J J J<|cH J J<|sa J J<|zE<|bm<|?_;refine zq [⟨ob,[.int .i64 0, .slice xa zs.length xc],32,false⟩] (fun i=>Nat.beq i 11) [(0,true),(1,true),(2,true),(3,true),(4,true),(5,true),(6,false),(7,true),(8,false),(9,false),(10,true),(11,false)] follows (by kernel_rfl)<|?_;refine dF J J J<|p8 J J J J<|dM J J J<|dy J (fun _=>kj J) J J<|?_;refine dF J J J<|dy J (fun _=>Fx J A9 J) J J<|?_;refine dc J J (zC J J (PF.fn0 (VU (l:=l)) (.cons (hzl.up GL.le) .nil)) J ?_);rintro _ G2 _ hv;obtain⟨ia,ib,ic,rfl,hia,hib,hic⟩:=VF hlb.bl hv;refine l9<|dy J (fun _=>CP J) J J<|?_;refine dc J J (atp J (by rfl) (by rfl) (by decide) (by decide) J ?_);intro b3;refine l9<|?_;refine dc J J (Y7 (v:=ND.val ⟨ia,ib,ic,0,0⟩) (vs:=zs.map ND.val) [_,_,_] rfl hB J J (vo inferInstance J) J (ND.flat [⟨ia,ib,ic,0,0⟩] _ aQ) (by decide) (by rw[aJ];omega) J J ?_);intro x1 B1 hB1;rw[show zs.map ND.val++[ND.val ⟨ia,ib,ic,0,0⟩]=(zs++[(⟨ia,ib,ic,0,0⟩:ND)]).map ND.val by simp] at hB1;show St C _ _ (⟨b3,_,_,true⟩::⟨ob,[.int .i64 0, .slice xa zs.length xc],32,false⟩::⟨wb,[nk ob wb],274,false⟩::B1) _ _;refine l9<|dF J J J<|?_;refine dc J J (rI (cs':=[.int .i64 0, .slice x1.a x1.n x1.c]) J J J (.tl _ _ _ _ _ _ _ _ (.hd ..)) (nb J) J J ?_);refine Xy J<|dn<|?_;refine O2 _ (qN _ _) ?_;have hz1:f4 (qp 96 G2) (zs++[(⟨ia,ib,ic,0,0⟩:ND)]) (ns++[⟨l,0,0⟩]):=(hz.imp fun _ _ h=>h.up).app (.cons ⟨hia,hib,hic,J,J⟩ .nil);refine bm<|zq [⟨wb,[nk ob wb],274,false⟩] (fun _=>false) [(0,true),(1,true),(2,true),(3,true),(4,true),(5,false),(6,true)] follows (by kernel_rfl)<|?_
  refine p8 J J J J<|dM J J J<|dy J (fun _=>kj J) J J<|dF J J J<|dy J (fun _=>vu J A9 J) J J<|?_;refine dc J J (Ho (c1:=[]) (M:=_::_::B1) (rest:=[]) J J (by rw[iK]) (C7 (lo:=false) (lo2:=false) hs hall1 hB1 hz1 (by simp;omega)) J ?_);rintro _ _ G3 fl _ hf _ ⟨x2,Mb,B2,rfl,rfl,hB2,hz2⟩;have e1:fl ob=false:=hf _ aQ J;have e2:fl wb=false:=hf _ (aZ _ aQ) J;replace hB2:=hB2.relo fl;refine EU (own':=⟨ob,[.int .i64 0, .slice x2.a x2.n x2.c],32,false⟩::⟨wb,[nk ob wb],274,false⟩::B2.map (relo fl)) (by simp only[bR,relo,e1,e2,iK]) ?_;generalize B2.map (relo fl)=B2 at hB2;have hl2:=hz2.len;simp only[aT,Tr.wr_len,rW] at hl2;refine l9<|dA J J J<|dn<|bm<|zq [⟨wb,[nk ob wb],274,false⟩] (fun _=>false) [(0,true),(1,true),(2,true),(3,true),(4,true),(5,false),(6,true)] follows (by kernel_rfl)<|?_;refine p8 J J J J<|dM J J J<|dy J (fun _=>kj J) J J<|dF J J J<|dy J (fun _=>vu J A9 J) J J<|?_;refine dc J J (Ho (c1:=[]) (M:=_::_::B2) (rest:=[]) J J (by rw[iK]) (C7 (lo:=false) (lo2:=false) hu hall2 hB2 hz2 (by omega)) J ?_);rintro _ _ G4 fl _ hf _ ⟨x3,wx,B3,rfl,rfl,hB3,hz3⟩;have e3:fl ob=false:=hf _ aQ J;have e4:fl wb=false:=hf _ (aZ _ aQ) J;replace hB3:=hB3.relo fl;refine EU (own':=⟨ob,[.int .i64 0, .slice x3.a x3.n x3.c],32,false⟩::⟨wb,[nk ob wb],274,false⟩::B3.map (relo fl)) (by simp only[bR,relo,e3,e4,iK]) ?_;generalize B3.map (relo fl)=B3 at hB3;have hl3:=hz3.len;simp only[aT,Tr.wr_len,rW] at hl3;have hn3:zs.length<wx.length:=by omega
  rcases hB3 with⟨h1,_,_⟩|⟨nb,rest,lo3,hx3,rfl,hf1,hf2,hf3⟩
  ·have:=congrArg List.length h1;rw[aJ,iU] at this;omega
  obtain⟨x3a,x3n,x3c⟩:=x3;simp only[SV.mk.injEq] at hx3;obtain⟨rfl,rfl,_⟩:=hx3;rw[aJ] at hf3;have hzz:ns.length=zs.length:=hzn.symm;obtain⟨zn,hzn1,hzn2⟩:=hz3.get (i:=zs.length) (b:=⟨l,0,0⟩) (by rw[dQ,dQ,<-hzz,fT (aN _),sY];rfl);obtain⟨_,hzn3⟩:=aS.1 hzn1;have hL1:(zs++[(⟨ia,ib,ic,0,0⟩:ND)]).length=zs.length+1:=by simp
  have hL2:Mb.length=zs.length+1+s.size:=by omega
  rw[hL1] at hz3;rw[hL1,hL2];rw[hL2] at hz3;refine l9<|dA J J J<|dn<|?_;refine bm<|zq [⟨ob,[.int .i64 0, .slice (some ⟨nb,0,none⟩) (wx.map ND.val).length x3c],32,false⟩] (fun _=>false) [(0,true),(1,true),(2,true),(3,true),(4,true),(5,true),(6,true),(7,true),(8,true),(9,true),(10,false),(11,true),(12,true),(13,false)] follows (by kernel_rfl)<|?_;refine dF J J J<|p8 J J J J<|dM J J J<|dF J J J<|?_;refine p8 J J J J<|dM J J J<|dM J J J<|dM J J J<|dy J (fun _=>e7 J J (by omega) (by rw[aJ];omega)) J J<|?_;refine dF J J J<|?_;refine dc J J (rH J J (.tl _ _ _ _ _ _ _ _ (.tl _ _ _ _ _ _ _ _ (.hd ..))) (by rw[aT,hf1,aJ,aM];omega) J J ?_);rw[aM,KF wx rest zs.length 6 _ {zn with l:=s.num (zs.length+1)} hn3 (by decide) (by rw[hzn3];rfl)];refine l9<|dy J (fun _=>e7 J J (by omega) (by rw[aJ];omega)) J J<|dF J J J<|?_;refine dc J J (rH J J (.tl _ _ _ _ _ _ _ _ (.tl _ _ _ _ _ _ _ _ (.hd ..))) (by rw[aT,d6 (s:=8) _ (ND.len8 _),aJ,aR,aM];omega) J J ?_);rw[aM,KF (wx.set zs.length _) rest zs.length 7 _ {zn with l:=s.num (zs.length+1),r:=u.num (zs.length+1+s.size)} (by rw[aR];exact hn3) (by decide) (by rw[List.getElem_set_self];rfl)];refine l9<|dn<|sR<|sm J J<|sa J J<|zE<|c6<|?_;have hfin:=hz3.set (a:={zn with l:=s.num (zs.length+1),r:=u.num (zs.length+1+s.size)}) (b:=⟨l,s.num (zs.length+1),u.num (zs.length+1+s.size)⟩) ⟨hzn2.a,hzn2.b,hzn2.c,J,J⟩ zs.length;have hns:(ns++[(⟨l,0,0⟩:NQ)]++s.wr (zs.length+1)++u.wr (zs.length+1+s.size)).set zs.length ⟨l,s.num (zs.length+1),u.num (zs.length+1+s.size)⟩=ns++(Tr.node l s u).wr zs.length:=by
   rw[dQ,dQ,nZ _ _ (by omega),hzz,sY];simp[Tr.wr]
  rw[hns] at hfin;refine AU (.tmp J .nil) _ _ (List.Perm.refl _) (List.Sublist.refl _) ⟨⟨some ⟨nb,0,none⟩,(wx.map ND.val).length,x3c⟩,_,_,J,J,?_,hfin⟩;refine .inr ⟨nb,rest,lo3,by simp,by rw[List.set_set],?_,?_,?_⟩
  ·rw[d6 (s:=8) _ (ND.len8 _)]
  ·rw[d6 (s:=8) _ (ND.len8 _),aJ,aR];rw[hf1,aJ] at hf2;exact hf2
  ·rw[aJ,aR];exact hf3
def DY{t:Tr}(hb:t.all LB)(hs:t.size<=1000000):PF GB prog 78 [eU t] (eA t):=by
 intro G vs _ hv;obtain⟨v0,m,rfl,h,hm⟩:=aO.1 hv;rw[cB] at hm;subst hm;obtain⟨p,rfl⟩:=pD h;refine Fn.intro func78 J J ntmps78 J ?_;intro C _ hC;refine sR<|?_;refine sc (tO J ?_);intro b1;refine zE<|sR<|?_;refine sc (tO J ?_);intro b2;refine zE<|sR<|?_;refine sc (tO J ?_);intro b3;refine zE<|sR<|sy (xQ J J) J<|?_;refine sc (rI (cs':=[nk b2 b3]) J J J (.hd ..) (nb J) J J ?_);refine zE<|sR<|o6 J J J<|sm J J<|?_;refine sc (Ho (c1:=[]) (M:=[⟨b2,[.int .i64 0, .slice none 0 0],32,true⟩,⟨b3,[nk b2 b3],274,true⟩]) (rest:=[⟨b1,[.int .i64 0, .slice none 0 0],32,true⟩]) J J (List.Perm.swap ..) (C7 (A:=G) (A2:=G) (x:=⟨none,0,0⟩) (zs:=[]) (ns:=[]) (B:=[]) h hb (gI.nil ..) .nil (by simpa using hs)) J ?_);rintro _ _ G4 fl _ _ hf ⟨x,zs,B,rfl,rfl,hB,hz⟩;have e1:=hf (by simp) b2;have e2:=hf (by simp) b3;replace hB:=hB.relo fl;refine EU (own':=⟨b2,[.int .i64 0, .slice x.a x.n x.c],32,true⟩::⟨b3,[nk b2 b3],274,true⟩::(B.map (relo fl)++[⟨b1,[.int .i64 0, .slice none 0 0],32,true⟩])) (by simp only[bR,relo,e1,e2,cW]) ?_;generalize B.map (relo fl)=B at hB;refine Bs (⟨b2,[.int .i64 0, .slice x.a x.n x.c],32,true⟩::⟨b3,[nk b2 b3],274,true⟩::⟨b1,[.int .i64 0, .slice none 0 0],32,true⟩::B) ((lR (l₁:=B) (l₂:=[_])).cons _ |>.cons _) ?_;refine sf J J<|?_;refine sc (rI (cs':=[.int .i64 (t.num 0), .slice x.a x.n x.c]) J J J (.hd ..) (nb J) J J ?_);refine zE<|sR<|Dd J J J<|?_;refine sc (zj (cs':=[.int .i64 (t.num 0), .slice x.a x.n x.c]) J J J (.tl _ _ _ _ _ _ _ _ (.tl _ _ _ _ _ _ _ _ (.hd ..))) J (nb J) J J ?_)
 refine zE<|?_;refine QM (L:=[_,_,_]) hC hB (ND.len8 _) ?_;intro G5 _ hsl;show St C _ _ [⟨b2,_,_,true⟩,⟨b3,_,_,true⟩,⟨b1,[.int .i64 (t.num 0), .slice x.a x.n x.c],32,true⟩] _ _;refine c6<|?_;exact zD (.agg J ii ii J .nil) (Vr (k:=96) ⟨zs,hsl,by rw[cV] at hz;exact hz.imp fun _ _ h=>h.up⟩)
def Tr.pre:Tr->List Tr
 | .leaf b=>[.leaf b]
 | .node l x y=> .node l x y::(x.pre++y.pre)
structure Vis (f:FuncId) (c2:List Value) (σ:Type) (step:σ->Tr->σ) (ok:σ->Tr->Prop) (Inv:σ->List aj->Gh->Prop):Prop where
 up: ∀{s B G G'},bz G G'->Inv s B G->Inv s B G'
 re: ∀{s B G} (fl:Nat->Bool),Inv s B G->Inv s (B.map (relo fl)) G
 go: ∀{s t p B G},ok s t->Inv s B G->Is G (eU t) (.pointer p)->iq prog f (.pointer p::c2) B G (fun _ B' G'=>Inv (step s t) B' G')
section
variable {P:Program} {C:aC} {n:Nat} {fr:Fr} {own:List aj} {G:Gh}
end
def HC{σ:Type}(step:σ->Tr->σ)(ok:σ->Tr->Prop):σ->List Tr->Prop
 |_,[]=>True
 |s,t::ts=>ok s t/\HC step ok (step s t) ts
structure EX (σ:Type) where
 ts:List Tr
 vs:List Value
 rest:List Value
 b:Nat
 cap:Nat
 lo:Bool
 s:σ
 B:List aj
def X1(t:Tr):Nat:=2*t.size+1
def O5(ts:List Tr):List Tr:=ts.reverse.flatMap Tr.pre
structure EI (A:Gh) {σ:Type} (step:σ->Tr->σ) (ok:σ->Tr->Prop) (Inv:σ->List aj->Gh->Prop) (N:Nat) (fin:σ) (x:EX σ) (G:Gh):Prop where
 rel:f4 (fun v t=> ∃p,v= .pointer p/\Is A (eU t) (.pointer p)) x.vs x.ts
 cap:x.vs.length+x.rest.length=x.cap
 inv:Inv x.s x.B G
 mu:(x.ts.map X1).sum<=N
 okf:HC step ok x.s (O5 x.ts)
 fin:(O5 x.ts).foldl step x.s=fin
def szI(nbk:Nat)(s:Nat)(B:List aj)(_:Gh):Prop:= ∃lo,B=[⟨nbk,[.int .i64 s],3,lo⟩]
def szS(s:Nat):Tr->Nat
 | .leaf _=>s
 | .node .. =>s+1
def s7(n:Nat)(f:Nat->Bool):Nat:=((List.range n).filter fun j=>!f j).length
def Zq{n k:Nat}{f:Nat->Bool}(hk:k<n)(hf:f k=false):s7 n (kz f k)+1=s7 n f:=by
 unfold s7;have key: ∀l:List Nat,l.Nodup->((l.filter fun j=>!kz f k j).length+(if k∈l then 1 else 0)=(l.filter fun j=>!f j).length):=fun l=>by
  induction l with
  |nil=>intro _;rfl
  |cons a l ih=>
   intro hn;obtain⟨h1,h2⟩:=List.nodup_cons.1 hn;have:=ih h2;by_cases e:a=k
   ·subst e
    simp only[pW,Iv,hf,aU,true_or,if_true] at this⊢;rw[if_neg h1] at this;simp at this⊢;omega
   ·have e': ¬k=a:=fun h=>e h.symm
    simp only[pW,yr e,aU,e',false_or] at this⊢
    cases f a<;>simp at this⊢ <;>omega
 have:=key (List.range n) List.nodup_range;rwa [if_pos (oZ.2 hk)] at this
def qH(ns:List RN):Nat->Int->RS->Tr×RS
 |0,_,s=>(.leaf false,s)
 |m+1,rt,s=>
  if rt= -1 then(.leaf false,s) else if rt= -2 then(.leaf true,s) else
  match ns[rt.toNat]? with
  |none=>(.leaf false,⟨s.f,s.c,true⟩)
  |some n=>if rt<0\/s.f rt.toNat=true then(.leaf false,⟨s.f,s.c,true⟩) else
   match n.g.ln with
   |none=>(.leaf false,⟨kz s.f rt.toNat,s.c+1,true⟩)
   |some l=>let a:=qH ns m n.l ⟨kz s.f rt.toNat,s.c+1,s.b⟩;let b:=qH ns m n.r a.2;(.node l a.1 b.1,b.2)
def AT{ns:List RN}: ∀{m:Nat} {rt:Int} {s:RS},s7 ns.length s.f<m->RR ns rt s (qH ns m rt s).1 (qH ns m rt s).2/\(qH ns m rt s).2.c+s7 ns.length (qH ns m rt s).2.f=s.c+s7 ns.length s.f
 |0,_,_,h=>absurd h (Nat.not_lt_zero _)
 |m+1,rt,s,h=>by
  rw[qH];split
  ·rename_i e;subst e;exact⟨.leaf false s,rfl⟩
  rename_i e1;split
  ·rename_i e;subst e;exact⟨.leaf true s,rfl⟩
  rename_i e2;split
  ·rename_i hn
   have:=List.getElem?_eq_none_iff.1 hn;exact⟨.bad rt s e1 e2 (by omega),J⟩
  rename_i n hn;have hlt:=(aS.1 hn).1;split
  ·rename_i hb
   refine⟨.bad rt s e1 e2 ?_,J⟩;rcases hb with hb|hb
   ·exact .inl hb
   ·by_cases h0:rt<0
    ·exact .inl h0
    ·exact .inr (.inr ⟨rt.toNat,by omega,hlt,hb⟩)
  rename_i hb;obtain⟨k,rfl⟩: ∃k:Nat,rt=k:=⟨rt.toNat,by omega⟩;rw[aM] at hn hlt hb⊢;have hf:s.f k=false:=by
   cases hh:s.f k with
   |false=>rfl
   |true=>exact absurd (Or.inr hh) hb
  have hu:=Zq hlt hf;split
  ·rename_i hl;exact⟨.line k n s hn hf hl,by simp only;omega⟩
  rename_i l hl;have h1:=AT (ns:=ns) (m:=m) (rt:=n.l) (s:=⟨kz s.f k,s.c+1,s.b⟩) (by simp only;omega);have hc:=h1.1.mono;simp only at h1 hc;have h2:=AT (ns:=ns) (m:=m) (rt:=n.r) (s:=(qH ns m n.l ⟨kz s.f k,s.c+1,s.b⟩).2) (by omega);exact⟨.node k n l s _ _ _ _ hn hf hl h1.1 h2.1,by have:=h1.2;have:=h2.2;dsimp only;omega⟩
def uE(ns:List RN)(rt:Int):Option Tr:=
 let r:=qH ns (ns.length+1) rt py
 if r.2.b=false/\r.2.c=ns.length then some r.1 else none
def Ta:Option Tr->DV
 |some t=> .tp [eU t,vB true]
 |none=> .tp [.v (.pointer none),vB false]
def Du(n:Nat)(f:Nat->Bool):s7 n f<=n:=by
 unfold s7;refine dT (rY _ _) ?_;rw[nU];exact aN _
def YR{ns:List RN}{rt:Int}(hs: ∀n∈ns,n.g.sm)(hn:ns.length<=65536):PF GB prog 129 [vm rt ns] (Ta (uE ns rt)):=by
 have h:=AT (ns:=ns) (m:=ns.length+1) (rt:=rt) (s:=py) (by have:=Du ns.length py.f;omega);have hu:=Du ns.length py.f;have h0:py.c=0:=J;have h2:=Vv (GB:=GB) hs hn h.1 (by have:=h.2;omega);unfold yf at h2;unfold uE;simp only;split
 ·rename_i e;rw[if_pos e] at h2;exact h2
 ·rename_i e;rw[if_neg e] at h2;exact h2
end Go.Sx
end
section
namespace Go.Sx
open Go Go.Proofs Go.RowKit Go.Extern.Stop Go.Stop Go.Extern
def R4(v:Value)(w:World):(Extern.ReflectliteType.typeOf #[.iface 499 v]).run Tryz.prog w= .ok (.iface 291 (.agg #[.pointer (some ⟨Tryz.prog.globals.size,499,none⟩)])) w:=by kernel_rfl
def Nl:TypeId->Sem Value:=fun t=>do Go.Extern.Rtype.noPackHeld "Comparable" t;pure (.bool (<-typeInfo t).comparable)
def RX(w:World):((Extern.ReflectliteType.method Nl) #[.agg #[.pointer (some ⟨Tryz.prog.globals.size,499,none⟩)]]).run Tryz.prog w= .ok (.bool true) w:=by kernel_rfl
def Wg:(Tryz.prog.info? 499).map (·.comparable)=some true:=by kernel_rfl
def RA:(Tryz.prog.info? 524).map (·.size)=some 1:=by kernel_rfl
def agy(n:Nat)(v:Value)(w:World):(Go.method (n+1) 291 v "Comparable").run Tryz.prog w= .ok (437,v) w:=by
 kernel_rfl
def Sc(a:Addr)(w:World):Calls Tryz.prog 28 #[.iface 499 (.pointer (some a)), .iface 499 (.pointer (some a))] w fun e w'=>e= .returned (.bool true)/\w'=w:=by
 obtain⟨i,hi,hcmp⟩:=Option.map_eq_some_iff.1 Wg;obtain⟨j,hj,hjs⟩:=Option.map_eq_some_iff.1 RA;have h8:= @run_callFunc_extern Tryz.prog 91 _ Extern.ReflectliteType.typeOf Tryz.func91 (by kernel_rfl) (by kernel_rfl) (by kernel_rfl) (by kernel_rfl);have h32:= @run_callFunc_extern Tryz.prog 437 _ (Extern.ReflectliteType.method Nl) Tryz.func437 (by kernel_rfl) (by kernel_rfl) (by kernel_rfl) (by kernel_rfl);have tT:=R4;have cT:=RX;obtain⟨g,hg⟩: ∃g,g=Tryz.prog.globals.size:=⟨_,rfl⟩;simp only[<-hg] at tT cT;clear hg;have mR:=agy;have heq:=run_eql_iface_ptr_same (P:=Tryz.prog) w a Tryz.underlying34 Tryz.underlying499 hi hcmp hj
 go_enter Tryz.func28,Tryz.ntmps28
 go_wp2
 refine wp_loop_rounds 1 ?_;rw[rounds_succ]
 go_wp2
 go_ret
 exact⟨J,J⟩
def Ro:nv Tryz.prog 28:=⟨_,Tryz.func28,by kernel_rfl,by kernel_rfl⟩
def tE(a:Addr):DV:= .v (.iface 499 (.pointer (some a)))
def V6{GB:Gh}{a:Addr}:PF GB Tryz.prog 28 [tE a,tE a] (.v (.bool true)):=by
 intro G vs _ hv;obtain⟨v1,m,rfl,h1,hm⟩:=aO.1 hv;obtain⟨v2,m,rfl,h2,hm⟩:=aO.1 hm;rw[cB] at hm;subst hm
 cases aF.1 h1;cases aF.1 h2
 exact(Fn.of_calls Ro (Sc a)).mono fun v G' _ h=>aF.2 h
end Go.Sx
end
section
namespace Go.Sx
open Go Go.Proofs Tryz
structure EG (GB:Gh) (ai al ae:Addr):Prop where
 ErrInvalid:GB 0=some [.iface 499 (.pointer (some ai))]
 ErrLimit:GB 1=some [.iface 499 (.pointer (some al))]
structure EGE (GB:Gh) (ai al ae:Addr):Prop extends EG GB ai al ae where
 ErrEmpty:GB 4=some [.iface 499 (.pointer (some ae))]
structure Tr.gd (t:Tr):Prop where
 lb:t.all LB
 ok:t.all ab.ok
def LR(op:Int)(a b:Tr):Option Tr:=if 1024<a.depth+b.depth then none else if 65536<(a.mergeQ op b []).size then none else some (a.mergeQ op b [])
def aIe(al:Addr):Option Tr->DV
 |some t=> .tp [eU t, .v .nilIface]
 |none=> .tp [.v (.pointer none),tE al]
def IM(op:Int):Tr->List Tr->Option Tr
 |t,[]=>some t
 |t,u::us=>match LR op t u with
  |none=>none
  |some r=>IM op r us
def Qi{t:Tr}(h:t.gd)(c:aE):(t.restrict c).gd:=⟨t.restrict_all LB c h.lb,t.restrict_all ab.ok c h.ok⟩
def Vd{GB:Gh}{ns:List RN}{rt:Int}{t:Tr}(hs: ∀n∈ns,n.g.sm)(hn:ns.length<=65536)(h:uE ns rt=some t):PF GB prog 129 [vm rt ns] (.tp [eU t,vB true]):=by
 have:=YR (GB:=GB) (rt:=rt) hs hn;rw[h] at this;exact this
def Ek:DV:= .ag [vI 0, .sl []]
def aIo:Tr ⊕ Addr->DV
 | .inl t=> .tp [eA t, .v .nilIface]
 | .inr e=> .tp [Ek,tE e]
def aGM(ai:Addr):Option Tr->Tr ⊕ Addr
 |some t=> .inl t.compl
 |none=> .inr ai
def H5(al:Addr):Option Tr->Tr ⊕ Addr
 |some t=> .inl t
 |none=> .inr al
def aFN(ai al:Addr)(op:Int):Option Tr->Option Tr->Tr ⊕ Addr
 |some a,some b=>if 1<=op/\op<=4 then H5 al (LR op a b) else .inr ai
 |_,_=> .inr ai
abbrev pI:=Int×List RN
def pI.d(x:pI):DV:=vm x.1 x.2
def pI.q(x:pI):Option Tr:=uE x.2 x.1
def W7:Option Tr->DV
 |some t=>eU t
 |none=> .v (.pointer none)
def T6(op:Int)(ts:List pI):Bool:=decide (1<=op/\op<=4)&&ts.all fun x=>x.q.isSome
def aIY(ai al ae:Addr)(op:Int)(ts:List pI):Tr ⊕ Addr:=
 if T6 op ts then(match ts.filterMap pI.q with
  |[]=> .inr ae
  |a::us=>if 1024<a.depth then .inr al else H5 al (IM op (a.restrict []) us)) else .inr ai
def aIB(ts:List pI):List DV:=ts.map fun x=>W7 x.q
structure pI.ok (x:pI):Prop where
 s: ∀n∈x.2,n.g.sm
 n:x.2.length<=65536
end Go.Sx
end
