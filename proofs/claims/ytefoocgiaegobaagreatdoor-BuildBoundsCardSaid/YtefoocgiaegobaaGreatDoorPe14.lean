import Derived.Test.YtefoocgiaegobaaGreatDoorPe13
import Derived.WalkKit
import Derived.LaidEql
import Derived.Stop.Asserts
import Derived.RowKitTokens
set_option linter.all false
set_option maxHeartbeats 2000000
set_option maxRecDepth 100000
section
namespace Go.Sx
open Go Go.Proofs Tryz
variable {GB:Gh}
def ZI{vs rest:List Value}(h: ∀v∈vs,(aE v).length=17){i:Nat}(hi:i<=vs.length):cv (aC vs++rest) (i*17) ((vs.length-i)*17)=some (aC (vs.drop i)):=by
 have hl:=d8 vs h;have hd:(aC (vs.drop i)).length=(vs.length-i)*17:=by
  rw[d8 (s:=17) _ (fun v hv=>h v (jQ hv)),gM]
 rw[ku _ _ _ (by simp only[aR];omega)];congr 1;rw[jZ (by omega),B9 vs i h hi,eX (by omega),bQ (by omega)]
def Sm{vs rest vcs:List Value}(h: ∀v∈vs,(aE v).length=17)(hv:vcs.length=17){i:Nat}(hi:i<vs.length)(hr:17<=rest.length):
  ck (ck (aC vs++rest) ((i+1)*17) (aC (vs.drop i))) (i*17) vcs=aC (vs.take i)++vcs++aC (vs.drop i)++rest.drop 17:=by
 have hl:=d8 vs h;have hd:(aC (vs.drop i)).length=(vs.length-i)*17:=by
  rw[d8 (s:=17) _ (fun v hv=>h v (jQ hv)),gM]
 have ht:(aC (vs.take i)).length=i*17:=by
  rw[d8 (s:=17) _ (fun v hv=>h v (eK hv)),bM,fN (by omega)]
 rw[nC (aC (vs.drop i)) (aC vs++rest) _ (by rw[aR];omega)];rw[nC vcs _ _ (by simp only[aR,bM,gM];omega)];have e1:(aC vs++rest).drop ((i+1)*17+(aC (vs.drop i)).length)=rest.drop 17:=by
  rw[hd,show(i+1)*17+(vs.length-i)*17=(aC vs).length+17 by omega,lN,oX (by omega),cK];congr 1;omega
 have e2:((aC vs++rest).take ((i+1)*17)++aC (vs.drop i)++rest.drop 17).take (i*17)=aC (vs.take i):=by
  rw[dQ,eX (by simp only[bM,aR];omega),List.take_take,fN (by omega),eX (by omega),Da vs i h (by omega)]
 have e3:((aC vs++rest).take ((i+1)*17)++aC (vs.drop i)++rest.drop 17).drop (i*17+vcs.length)=aC (vs.drop i)++rest.drop 17:=by
  rw[hv,dQ,show i*17+17=((aC vs++rest).take ((i+1)*17)).length by simp only[bM,aR];omega,List.drop_left]
 rw[e1,e2,e3];simp[dQ]
def Yo{vs rest vcs:List Value}(h: ∀v∈vs,(aE v).length=17)(hv:vcs.length=17)(hr:17<=rest.length):ck (aC vs++rest) (vs.length*17) vcs=aC vs++vcs++rest.drop 17:=by
 have hl:=d8 vs h;rw[nC _ _ _ (by simp only[aR];omega),hv,<-hl,List.take_left,lN];simp
def VO{G:Gh}{b bv cap i c2:Nat}{vs rest vcs r2:List Value}{lo lo2:Bool}(hvs: ∀v∈vs,(aE v).length=17)(hfl: ∀v∈vs,∀c∈aE v,flat c=true)(hv:vcs.length=17)(hvf: ∀c∈vcs,flat c=true)
  (hcap:vs.length*17+rest.length=cap*17)(hroom:vs.length+1<=cap)(hi:i<=vs.length)(hb:vs.length<=1125899906842624):
  jb prog 280 [.slice (some ⟨b,0,none⟩) vs.length cap, .int .i64 i, .slice (some ⟨bv,0,none⟩) 1 c2] [⟨b,aC vs++rest,222,lo⟩,⟨bv,vcs++r2,222,lo2⟩] G
   (fun u css _=>u= .slice (some ⟨b,0,none⟩) (vs.length+1) cap/\css=[aC (vs.take i)++vcs++aC (vs.drop i)++rest.drop 17,vcs++r2]):=by
 have hL:(aC vs++rest).length=cap*17:=by rw[aR,d8 vs hvs];exact hcap
 have hr:17<=rest.length:=by omega
 have hD:(aC (vs.drop i)).length=(vs.length-i)*17:=by
  rw[d8 (s:=17) _ (fun v hv=>hvs v (jQ hv)),gM]
 have hDf: ∀c∈aC (vs.drop i),flat c=true:=fun c hc=>by
  obtain⟨l,hl,hcl⟩:=List.mem_flatten.1 hc;obtain⟨v,hv,rfl⟩:=bJ.1 hl;exact hfl v (jQ hv) c hcl
 have hvt:cv (vcs++r2) 0 (1*17)=some vcs:=by rw[ku _ _ _ (by rw[aR];omega),iM,eX (by omega),bQ (by omega)]
 refine jb.intro func280 J J ntmps280 J ?_;intro C _ _;show St C _ _ [⟨b,aC vs++rest,222,false⟩,⟨bv,vcs++r2,222,false⟩] _ _;refine Xh (fun hne=>?_);simp only[] at hne;refine sR<|sa J J<|zE<|sR<|sm J J<|sm J J<|sy (A4 J J (by omega) (by omega)) J<|zE<|sR<|?_;refine sm J J<|cD J J<|sa J J<|zE<|bt<|sR<|sm J J<|sy (gE J J) J<|zE<|tP J<|?_;refine zK<|sR<|sm J J<|cD J J<|sa J J<|zE<|bt<|sR<|sm J J<|sm J J<|sy (gE J J) J<|zE<|?_;refine fi J (fun hc=>?_) (fun hc=>?_) -- slot 22
 ·have hin:i=vs.length:=by omega
  subst hin;refine sR<|sm J J<|sm J J<|?_;refine sc (Ja (s:=17) (m:=1) (ys:=vcs) J J (.hd ..) hL (wZ inferInstance hvt) (by omega) hvf hroom J ?_);refine sa J J<|zE<|cG<|?_;refine qp (css:=[ck (aC vs++rest) (vs.length*17) vcs,vcs++r2]) (.tmp J .nil) J _ (List.Perm.refl _) (List.Sublist.refl _) ⟨J,?_⟩;rw[Yo hvs hv hr,dY,jY];simp[aC]
 have hin:i<vs.length:=by omega
 have hn1:((vs.length:Int)+((1:Nat):Int)).toNat=vs.length+1:=by omega
 have ht1:((i:Int)+((1:Nat):Int)).toNat=i+1:=by omega
 refine zK<|bt<|sR<|sm J J<|sm J J<|sy (dx J J) J<|sm J J<|?_;refine sy (Uy J) J<|sy (rg J J) J<|zE<|?_;refine fi J (fun hc2=>?_) (fun hc2=>?_) -- slot 31
 ·exact absurd hc2 (by omega)
 refine zK<|sR<|sm J J<|sm J J<|sm J J<|sy (dx J J) J<|sy (uX J J (by omega) (by omega)) J<|?_;rw[hn1];refine sa J J<|zE<|bt<|sR<|sm J J<|sm J J<|sm J J<|sm J J<|sy (dx J J) J<|sy (CF J J (by omega) (by omega) (by omega)) J<|?_;refine sy (UA (tS:=130) (tR:=4) func355 (by kernel_rfl) (by kernel_rfl) (by kernel_rfl) (by kernel_rfl) J J (Ne.symm hne) (fun h=>by rw[h] at hL;simp at hL;omega)) J<|?_;refine sy (BC J) J<|zE<|od J<|?_;refine bt<|QC (b:=b) (fun _=>false) [(0,true),(1,true),(2,true),(3,true),(4,true),(5,true),(6,true),(7,true),(8,false)] follows (.hd ..) (by kernel_rfl)<|dM J J J<|?_;refine dM J J J<|dM J J J<|dy J (fun _=>dx J J (by omega) (by omega)) J J<|dy J (fun _=>CF J J (by omega) (by omega) (by omega)) J J<|?_;refine dM J J J<|dM J J J<|dy J (fun _=>CF J J (by omega) (by omega) (by omega)) J J<|?_;rw[ht1,aM,dK,dK];refine dc J J (Jk (s:=17) (m:=vs.length-i) (ys:=aC (vs.drop i)) J J (by show min _ _=_;omega) (wZ inferInstance (ZI hvs hi)) hDf (by rw[hD,hL];omega) (.hd ..) J ?_);refine lH<|dn<|sR<|sm J J<|sm J J<|sy (CF J J (by omega) (by omega) (by omega)) J<|sm J J<|?_;rw[aM,dK];refine sc (Jk (s:=17) (m:=1) (ys:=vcs) J J (by show min _ _=_;omega) (wZ inferInstance hvt) hvf (by rw[zc,hL,hv];omega) (.hd ..) J ?_);refine zE<|sR<|sm J J<|sa J J<|zE<|cG<|?_;refine qp (css:=[ck (ck (aC vs++rest) ((i+1)*17) (aC (vs.drop i))) (i*17) vcs,vcs++r2]) (.tmp J .nil) J _ (List.Perm.refl _) (List.Sublist.refl _) ⟨J,?_⟩;rw[Sm hvs hv hin hr]
def jb.toO{P:Program}{f:FuncId}{vs:List Value}{M:List aj}{G:Gh}{K:Value->List (List Value)->Gh->Prop}{K':Value->List aj->Gh->Prop}(h:jb P f vs M G K)(hk: ∀v css G',bz G G'->css.length=M.length->K v css G'-> ∃o,o.Sublist (jm (asB M) css)/\K' v o G'):gF P f vs M G K':=
 ⟨h.able,fun w hw=>(h.run w hw).mono fun _ _ ⟨v,css,G',he,hl,hh,hK⟩=>let⟨o,h1,h2⟩:=hk v css G' hh.gle hl hK;⟨v,o,G',he,hh.drop h1,h2⟩⟩
def M7(c:aF):dB 17 (c.map bi):=fun d hd=>by
 obtain⟨f,_,rfl⟩:=bJ.1 hd;exact⟨rfl,rfl⟩
def JV{G:Gh}{s:Nat}{ds:List DV}{vs:List Value}(hk:dB s ds)(h:IsLs G ds vs): ∀v∈vs,∀c∈aE v,flat c=true:=fun v hv=>by
 obtain⟨d,hd,h3⟩:=h.all v hv;exact(h3.cells (hk d hd).1).2
def QJ{c:aF}{x:aO}{i cap:Nat}(hi:i<=c.length)(hc:c.length+1<=cap)(hn:c.length<=1000000):PI GB prog 280 (i:Nat) 17 222 222 (c.map bi) (bi x) cap ((c.take i++x::c.drop i).map bi):=by
 intro G w w2 B B2 _ hB hcap hB2;obtain⟨vs,q1,q2,q3,_⟩:=hB;obtain⟨us,u1,u2,u3,_⟩:=hB2;dsimp only at q1 q2 q3 u1 u2 u3;have hl:=q2.len;rw[aJ] at hl;obtain⟨v,m,rfl,hv,hm⟩:=ba.1 u2
 cases cA.1 hm
 rcases q1 with⟨_,e,_⟩|⟨b,rest,lo,e,rfl,h5,h6,h7⟩
 ·rw[e] at hcap;simp at hcap;omega
 rcases u1 with⟨h,_⟩|⟨bv,r2,lo2,e2,rfl,h8,h9,h10⟩
 ·cases h
 have hx:(aE v).length=17:=u3 v aQ;have hxf:=JV (s:=17) (ds:=[bi x]) (fun d hd=>by rw[aU.1 hd];exact⟨J,J⟩) u2 v aQ;have key:=VO (G:=G) (b:=b) (bv:=bv) (cap:=w.c) (i:=i) (c2:=w2.c) (vs:=vs) (rest:=rest) (vcs:=aE v) (r2:=r2) (lo:=lo) (lo2:=lo2) q3 (JV (M7 c) q2) hx hxf (by rw[<-h5];exact h6) (by omega) (by omega) (by omega);rw[e,e2];rw[uv];refine key.toO fun u css G' hg hl2 ⟨k1,k2⟩=>?_;subst k1 k2;have hall: ∀u∈vs.take i++v::vs.drop i,(aE u).length=17:=fun u hu=>by
  rcases cX.1 hu with hu|hu
  ·exact q3 u (eK hu)
  ·rcases aW.1 hu with rfl|hu
   ·exact hx
   ·exact q3 u (jQ hu)
 have hlen:(vs.take i++v::vs.drop i).length=vs.length+1:=by
  rw[aR,bT,bM,gM];omega
 refine⟨[⟨b,aC (vs.take i)++aE v++aC (vs.drop i)++rest.drop 17,222,false⟩], .cons_cons _ (jS _),⟨some ⟨b,0,none⟩,vs.length+1,w.c⟩,J,vs.take i++v::vs.drop i, .inr ⟨b,rest.drop 17,false,by rw[hlen],?_,d8 _ hall,?_,?_⟩,?_,hall,fun h=>by cases h⟩
 ·rw[l5];simp[aC]
 ·rw[d8 _ hall,hlen,gM]
  rw[h5] at h6;have:=bK 17 (show vs.length+1<=w.c by omega);simp only[cY] at this⊢;omega
 ·rw[hlen];show vs.length+1<=w.c;omega
 ·rw[fQ,bW,nY,List.map_drop]
  exact((q2.take i).up hg).app (.cons (hv.up hg) ((q2.drop i).up hg))
def Of{s:aO}{l:aa}[hs:LB s.l][hl:LB l]:PF GB prog 278 [bi s,cb l] (vI (kG s.l.dir l.dir)):=by
 refine fn func278 J J ntmps278 J J (fun C=>?_);refine cl J (vH (l:=s.l)) J<|cl J (vH (l:=l)) J<|cl J (XM (u:=s.l.dir) (v:=l.dir)) J<|?_;exact rz J J
def Ag(c:aF)(l:aa)(i:Nat):Bool:=match c[i]? with
 |some s=>decide (kG s.l.dir l.dir=0)
 |none=>false
def Rm(i j:Nat):((i:Int)+(j:Int)).fdiv (2^min (1:Int).toNat IntKind.u64.bits)=((i+j)/2:Nat):=by
 rw[show(2:Int)^min (1:Int).toNat IntKind.u64.bits=((2:Nat):Int) from J,gS _ (by decide)];omega
def Rg{c:aF}{l:aa}{k:Nat}{s:aO}(h:c[k]? =some s):lP c l k=decide (kG s.l.dir l.dir<0):=by unfold lP;rw[h]
def QG{c:aF}{l:aa}{k:Nat}{s:aO}(h:c[k]? =some s):Ag c l k=decide (kG s.l.dir l.dir=0):=by unfold Ag;rw[h]
def VF{c:aF}{l:aa}{k:Nat}(h: ¬k<c.length):Ag c l k=false:=by unfold Ag;rw[dJ (by omega)]
def P5{p:Nat->Bool}{i j:Nat}(h:i<j)(hp:p ((i+j)/2)=true):ig p i j=ig p ((i+j)/2+1) j:=by rw[ig,dif_pos h,if_pos hp]
def Ut{p:Nat->Bool}{i j:Nat}(h:i<j)(hp: ¬p ((i+j)/2)=true):ig p i j=ig p i ((i+j)/2):=by rw[ig,dif_pos h,if_neg hp]
def JA{p:Nat->Bool}{i j:Nat}(h: ¬i<j):ig p i j=i:=by rw[ig,dif_neg h]
def R7{c:aF}{l:aa}[hl:LB l](hc:iH c)(hn:c.length<=1000000):PF GB prog 277 [.sl (c.map bi),cb l, .v (.func (.func 278) #[] #[])] (.tp [vI (ig (lP c l) 0 c.length:Nat),vB (Ag c l (ig (lP c l) 0 c.length))]):=by
 have hm:=ul bi c;refine fn (fu:=⟨11⟩) func277 J J ntmps277 J J (fun C=>?_);refine aB 13 (.d (vI (c.length:Nat))) J (by rw[hm]<;>rfl) ?_;refine gx J<|?_;refine lp (X:=Nat×Nat) (fun⟨i,j⟩=>[(9, .d (vI (i:Nat))),(10, .d (vI (j:Nat)))]) (fun⟨i,j⟩=>[]) (fun⟨i,j⟩=>i<=j/\j<=c.length/\ig (lP c l) i j=ig (lP c l) 0 c.length) (fun⟨i,j⟩=>j-i) (0,c.length) J ⟨bL _,aL _,J⟩ (fun _=>J) (fun⟨i,j⟩ hk=>?_);dsimp only at hk⊢;obtain⟨h1,h2,h3⟩:=hk;refine br (fu1:=⟨10⟩) (fu2:=⟨11⟩) J J J (fun hc17=>?_) (fun hc17=>?_)
 .
  obtain⟨s,hs0⟩: ∃s,c[(i+j)/2]? =some s:=⟨_,aX (by omega)⟩;haveI:=(hc s (bZ hs0)).lb;have hang:=Rg (l:=l) hs0;refine aB 22 (.d (.v (.int .u64 ((i+j)/2:Nat)))) J (by rw[Rm]) ?_;refine gx J<|ix _ J (eH hs0) J<|cl J (Of (s:=s) (l:=l)) J<|?_;refine br J J J (fun hc31=>?_) (fun hc31=>?_)
  .
   exact at_ ((i+j)/2+1,j) (by dsimp only;exact⟨⟨by omega,h2,by rw[<-h3,P5 (i:=i) (j:=j) (by omega) (by rw[hang];exact decide_eq_true hc31)]⟩,(by omega)⟩)
  .
   exact at_ (i,(i+j)/2) (by dsimp only;exact⟨⟨by omega,by omega,by rw[<-h3,Ut (i:=i) (j:=j) (by omega) (by rw[hang,decide_eq_false hc31];exact Bool.false_ne_true)]⟩,(by omega)⟩)
 .
  refine ud (v2:=fun hg39=>by simp only[ah];kernel_rfl) J J J J (fun hg39=>?_) (fun hg39=>?_)
  .
   have he:=JA (p:=lP c l) (i:=i) (j:=j) (by omega);obtain⟨s,hs0⟩: ∃s,c[i]? =some s:=⟨_,aX (by omega)⟩;haveI:=(hc s (bZ hs0)).lb;refine ix _ J (eH hs0) J<|cl J (Of (s:=s) (l:=l)) J<|?_;exact rz J (by rw[<-h3,he,QG hs0];rfl)
  .
   have he:=JA (p:=lP c l) (i:=i) (j:=j) (by omega);exact rz J (by rw[<-h3,he,VF (by omega)];rfl)
def Ji{l:aa}[LB l](hlo:l.ok): ∀{c:aF} {v w:ao},iH c->qD v->l7 l c v=some w->qD w
 |[],v,w,_,hv,h=>by cases h;exact hv
 |s::t,v,w,hc,hv,h=>by
  haveI:=(hc s aQ).lb;simp only[l7] at h;split at h
  ·exact Ji hlo (fun x hx=>hc x (aZ _ hx)) (hv.cut hlo.1) h
  ·cases h
def Dn{l:aa}[LB l]: ∀{c:aF},iH c->iH (e8 l c)
 |[],_,s,h=>by cases h
 |a::t,hc,s,h=>by
  have ha:=hc a aQ;haveI:=ha.lb;have ht:=Dn (l:=l) (fun x hx=>hc x (aZ _ hx));unfold e8 at h;split at h
  ·rcases aW.1 h with rfl|h
   ·exact⟨ha.lb,ha.ok,ha.v.cut ha.ok.1⟩
   ·exact ht s h
  ·exact ht s h
def BE{l:aa}[hl:LB l](hlo:l.ok){c:aF}(hc:iH c):iH (bF c l):=by
 unfold bF;split
 ·rename_i v hv
  intro s hs;unfold nF at hs;rcases cX.1 hs with h|h
  ·exact Dn hc s (eK h)
  ·rcases aW.1 h with rfl|h
   ·exact⟨hl,hlo,Ji hlo hc .all hv⟩
   ·exact Dn hc s (jQ h)
 ·exact hc
def J4{l:aa}{c:aF}{k:Nat}{s:aO}(h:c[k]? =some s):e8 l (c.drop k)=if s.l.cutB s.v l then⟨s.l,s.l.cutV s.v l⟩::e8 l (c.drop (k+1)) else e8 l (c.drop (k+1)):=by
 rw[Fe h];rfl
def KM{c:aF}{l:aa}[hl:LB l](hlo:l.ok)(hc:iH c)(hn:c.length<=100000):PF GB prog 183 [.sl (c.map bi),cb l] (.tp [.sl ((bF c l).map bi),vB (cE c l)]):=by
 have hm:=ul bi c;refine fn func183 J J ntmps183 J J (fun C=>?_);refine cl J (IT (c:=c) (l:=l) hlo hc (by omega)) J<|?_;refine bb (fu2:=⟨6⟩) J J J (fun hc22=>?_) (fun hc22=>?_)
 .
  have hp:kw c l=none:=by simpa using hc22
  refine cl J (QH (c:=c) (l:=l) hlo hc (by omega)) J<|?_;exact rz J (by unfold bF cE;rw[hp];rfl)
 .
  obtain⟨v,hv⟩: ∃v,kw c l=some v:=Option.isSome_iff_exists.1 (by simpa using hc22);have hvd:Em (kw c l)=v:=by rw[hv];rfl
  rw[hvd];refine aB 29 (.d (vI (c.length:Nat))) J (by rw[hm]<;>rfl) ?_;refine gx J<|QI (fu:=⟨8⟩) (c.length+1) J J J<|?_;refine aB 33 (.d (vI (c.length:Nat))) J (by rw[hm]<;>rfl) ?_;refine gx J<|?_;refine lp (X:=aF×Nat) (fun⟨o,k⟩=>[(34, .d (vI (k:Nat))),(8, .rw 31)]) (fun⟨o,k⟩=>[(31,some (.c 222 17 (o.map bi) (c.length+1)))]) (fun⟨o,k⟩=>k<=c.length/\o.length<=k/\o++e8 l (c.drop k)=e8 l c) (fun⟨o,k⟩=>c.length-k) ([],0) J ⟨bL _,aL _,J⟩ (fun _=>J) (fun⟨o,k⟩ hk=>?_);dsimp only at hk⊢;obtain⟨h1,h2,h3⟩:=hk;have hmo:=ul bi o;refine br J J J (fun hc35=>?_) (fun hc35=>?_)
  .
   obtain⟨s,hs0⟩: ∃s,c[k]? =some s:=⟨_,aX (by omega)⟩;have hs:=hc s (bZ hs0);haveI:=hs.lb;haveI:=hs.v.lo;haveI:=hs.v.hi;refine ix _ J (eH hs0) J<|cl (fu:=⟨0⟩) J (Au (l:=s.l) (m:=l) (v:=s.v)) J<|?_;generalize hw:s.l.cutV s.v l=w;generalize hb:s.l.cutB s.v l=b;refine gx J<|?_;refine bb J J J (fun hc47=>?_) (fun hc47=>?_)
   .
    refine rf J J<|Se ((o++[aO.mk s.l w]).map bi) J (by rw[fQ];rfl) (M7 [aO.mk s.l w]) (by rw[hmo];simp;omega) J<|?_;refine kr 54 31 J ?_;exact at_ (o++[aO.mk s.l w],k+1) (by dsimp only;exact⟨⟨by omega,by simp;omega,by rw[<-h3,J4 hs0,hb,if_pos hc47,hw,dQ];rfl⟩,(by omega)⟩)
   .
    exact at_ (o,k+1) (by dsimp only;exact⟨⟨by omega,by omega,by rw[<-h3,J4 hs0,hb,if_neg (by simp[hc47])]⟩,(by omega)⟩)
  .
   obtain rfl:k=c.length:=by omega
   have ho:o=e8 l c:=by rw[<-h3,jY];simp[e8]
   subst ho;have hbl:=(Do (lP (e8 l c) l) (e8 l c).length 0 (e8 l c).length (by omega) (by omega)).2;refine cL J (R7 (c:=e8 l c) (l:=l) (Dn hc) (by omega)) J J<|ro J J<|ci ((nF (e8 l c) l v).map bi) J (QJ (c:=e8 l c) (x:=⟨l,v⟩) (i:=ig (lP (e8 l c) l) 0 (e8 l c).length) (cap:=c.length+1) hbl (by omega) (by omega)) J J<|?_;refine nv 68 J ?_;exact rz J (by unfold bF cE;rw[hv];rfl)
def Lk{c:aF}{l:aa}[hl:LB l](hlo:l.ok)(hc:iH c)(hn:c.length<=100000):PF GB prog 257 [.sl (c.map bi),cb l] (.tp [.sl ((bF c l).map bi), .sl ((bF c l.rev).map bi),vB (cE c l),vB (cE c l.rev)]):=by
 refine fn func257 J J ntmps257 J J (fun C=>?_);refine cl J (KM (c:=c) (l:=l) hlo hc hn) J<|cl J (Bs (l:=l)) J<|cl J (KM (c:=c) (l:=l.rev) hlo.rev hc hn) J<|?_;exact rz J J
def cU:Tr->List DV
 | .leaf b=>[vI 0,vI 0, .v (.pointer none),vI 0,vI 0, .v (.pointer none),vI 0,vI 0, .v (.pointer none), .v (.pointer none), .v (.pointer none), .v (.bool b)]
 | .node l x y=>[vI (dm (l.a:Rat)),vI (dq (l.a:Rat)),di (l.a:Rat),vI (dm (l.b:Rat)),vI (dq (l.b:Rat)),di (l.b:Rat),vI (dm (l.c:Rat)),vI (dq (l.c:Rat)),di (l.c:Rat), .pt (cU x), .pt (cU y), .v (.bool false)]
def eU(t:Tr):DV:= .pt (cU t)
def tW{b:Bool}:PF GB prog 153 [.v (.bool b)] (eU (.leaf b)):=by
 refine fn func153 J J ntmps153 J J (fun C=>?_);refine nv 5 J ?_;exact rz J J
def Ap{l:aa}{x y:Tr}:PF GB prog 152 [cb l,eU x,eU y] (eU (.node l x y)):=by
 refine fn func152 J J ntmps152 J J (fun C=>?_);refine nv 11 J ?_;exact rz J J
def rp{b:Bool}:PF GB prog 171 [eU (.leaf b)] (.v (.bool true)):=by
 refine fn func171 J J ntmps171 J J (fun C=>?_);exact rz J J
def sv{l:aa}{x y:Tr}:PF GB prog 171 [eU (.node l x y)] (.v (.bool false)):=by
 refine fn func171 J J ntmps171 J J (fun C=>?_);exact rz J J
def Qg{l l1:aa}{x y u:Tr}:PF GB prog 335 [cb l,eU (.node l1 x y),eU u] (eU (.node l (.node l1 x y) u)):=by
 refine fn func335 J J ntmps335 J J (fun C=>?_);refine cl (fu:=⟨0⟩) J sv J<|ee J J J<|cl J Ap J<|?_;exact rz J J
def Z8{l l1:aa}{x y:Tr}{p:Bool}:PF GB prog 335 [cb l,eU (.leaf p),eU (.node l1 x y)] (eU (.node l (.leaf p) (.node l1 x y))):=by
 refine fn func335 J J ntmps335 J J (fun C=>?_);refine cl (fu:=⟨0⟩) J rp J<|gu J J J<|cl (fu:=⟨1⟩) J sv J<|ee J J J<|cl J Ap J<|?_;exact rz J J
def XI{l:aa}{p q:Bool}:PF GB prog 335 [cb l,eU (.leaf p),eU (.leaf q)] (eU (Tr.joinQ l (.leaf p) (.leaf q))):=by
 refine fn func335 J J ntmps335 J J (fun C=>?_);refine cl (fu:=⟨0⟩) J rp J<|gu J J J<|cl (fu:=⟨1⟩) J rp J<|gu J J J<|?_;refine bb J J J (fun hc23=>?_) (fun hc23=>?_)
 .
  exact rz J (by rw[show Tr.joinQ l (.leaf p) (.leaf q)= .leaf p by simp[Tr.joinQ,Tr.isLeaf,Tr.code,hc23]];rfl)
 .
  refine cl J Ap J<|?_;exact rz J (by rw[show Tr.joinQ l (.leaf p) (.leaf q)= .node l (.leaf p) (.leaf q) by simp[Tr.joinQ,Tr.isLeaf,Tr.code,hc23]];rfl)
def P2{l:aa}: ∀{x y:Tr},PF GB prog 335 [cb l,eU x,eU y] (eU (Tr.joinQ l x y))
 | .leaf _, .leaf _=>XI
 | .leaf _, .node .. =>Z8
 | .node ..,_=>Qg
def X6{b:Bool}:PF GB prog 234 [eU (.leaf b)] (vI (Tr.depth (.leaf b):Nat)):=by
 refine fn func234 J J ntmps234 J J (fun C=>?_);refine cl (fu:=⟨0⟩) J rp J<|?_;refine kd 4 J ?_;refine gx J<|?_;exact rz J J
def Xv{l:aa}{x y:Tr}(hd:(Tr.node l x y).depth<=1000000)(ihx:PF GB prog 234 [eU x] (vI (Tr.depth x:Nat)))(ihy:PF GB prog 234 [eU y] (vI (Tr.depth y:Nat))):PF GB prog 234 [eU (.node l x y)] (vI (Tr.depth (.node l x y):Nat)):=by
 have hdp:(Tr.node l x y).depth=1+max x.depth y.depth:=J;have hdx:=Nat.le_max_left x.depth y.depth;have hdy:=Nat.le_max_right x.depth y.depth;refine fn func234 J J ntmps234 J J (fun C=>?_);refine cl (fu:=⟨0⟩) J sv J<|?_;refine sL 4 J ?_;refine gx J<|cl J ihx J<|cl (hv:=by simp only[ah];exact⟨by omega,by kernel_rfl⟩) J ihy J<|?_;exact rz J (by show DV.v (.int _ _)= .v (.int _ _);congr 2;split<;>omega)
def Gd: ∀{t:Tr},t.depth<=1000000->PF GB prog 234 [eU t] (vI (Tr.depth t:Nat))
 | .leaf _,_=>X6
 | .node l x y,h=>Xv h (Gd (by have:=Nat.le_max_left x.depth y.depth;have:(Tr.node l x y).depth=1+max x.depth y.depth:=J;omega)) (Gd (by have:=Nat.le_max_right x.depth y.depth;have:(Tr.node l x y).depth=1+max x.depth y.depth:=J;omega))
def X7{b:Bool}{c:aF}:PF GB prog 235 [eU (.leaf b), .sl (c.map bi)] (eU (Tr.restrict (.leaf b) c)):=by
 refine fn func235 J J ntmps235 J J (fun C=>?_);refine cl (fu:=⟨0⟩) J rp J<|?_;refine kd 10 J ?_;refine gx J<|?_;exact rz J J
def Tz{l:aa}{x y:Tr}{c:aF}(hl:LB l)(hlo:l.ok)(hc:iH c)(hn:c.length+(Tr.node l x y).depth<=100000)(ihx: ∀{c:aF},iH c->c.length+x.depth<=100000->PF GB prog 235 [eU x, .sl (c.map bi)] (eU (Tr.restrict x c)))(ihy: ∀{c:aF},iH c->c.length+y.depth<=100000->PF GB prog 235 [eU y, .sl (c.map bi)] (eU (Tr.restrict y c))):PF GB prog 235 [eU (.node l x y), .sl (c.map bi)] (eU (Tr.restrict (.node l x y) c)):=by
 have hdp:(Tr.node l x y).depth=1+max x.depth y.depth:=J;have hdx:=Nat.le_max_left x.depth y.depth;have hdy:=Nat.le_max_right x.depth y.depth;have hca:=Ca c l;have hcb:=Ca c l.rev;refine fn func235 J J ntmps235 J J (fun C=>?_);refine cl (fu:=⟨0⟩) J sv J<|?_;refine sL 10 J ?_;refine gx J<|cl J (Lk (c:=c) (l:=l) hlo hc (by omega)) J<|?_;refine bb J J J (fun hc23=>?_) (fun hc23=>?_)
 .
  refine cl J (ihx hc (by omega)) J<|?_;exact rz J (by rw[Tr.restrict,if_pos hc23];rfl)
 .
  refine bb J J J (fun hc32=>?_) (fun hc32=>?_)
  .
   refine cl J (ihy hc (by omega)) J<|?_;exact rz J (by rw[Tr.restrict,if_neg (by simp[hc23]),if_pos hc32];rfl)
  .
   refine cl J (ihx (c:=bF c l) (BE hlo hc) (by omega)) J<|cl J (ihy (c:=bF c l.rev) (BE hlo.rev hc) (by omega)) J<|cl J P2 J<|?_;exact rz J (by rw[Tr.restrict,if_neg (by simp[hc23]),if_neg (by simp[hc32])];rfl)
def Fz: ∀{t:Tr} {c:aF},t.all LB->t.all aa.ok->iH c->c.length+t.depth<=100000->PF GB prog 235 [eU t, .sl (c.map bi)] (eU (Tr.restrict t c))
 | .leaf _,_,_,_,_,_=>X7
 | .node l x y,c,hb,ho,hc,hn=>Tz hb.1 ho.1 hc hn (fun h1 h2=>Fz hb.2.1 ho.2.1 h1 h2) (fun h1 h2=>Fz hb.2.2 ho.2.2 h1 h2)
def Kv{t:Tr}(hb:t.all LB)(ho:t.all aa.ok)(hd:t.depth<=100000):PF GB prog 143 [eU t] (eU (t.restrict [])):=by
 refine fn func143 J J ntmps143 J J (fun C=>?_);refine cl J (Fz (t:=t) (c:=[]) hb ho (fun s h=>by cases h) (by simpa using hd)) J<|?_;exact rz J J
def Tr.compl:Tr->Tr
 | .leaf b=> .leaf !b
 | .node l x y=> .node l x.compl y.compl
def Tr.chooseQ(op:Int)(b:Bool)(t:Tr)(c:aF):Tr:=
 if op=1\/op=2 then(if b=decide (op=1) then .leaf b else t.restrict c)
 else if op=3/\b=false then .leaf false
 else if b then(t.restrict c).compl else t.restrict c
def Tr.mergeQ(op:Int):Tr->Tr->aF->Tr
 | .leaf b,u,c=>u.chooseQ op b c
 | .node l x y,u,c=>if !cE c l.rev then x.mergeQ op u c else if !cE c l then y.mergeQ op u c else joinQ l (x.mergeQ op u (bF c l)) (y.mergeQ op u (bF c l.rev))
def Tw:DV:= .ag [vI 0,vI 0, .v (.pointer none),vI 0,vI 0, .v (.pointer none),vI 0,vI 0, .v (.pointer none)]
def sB:Option aa->DV
 |some l=> .tp [cb l,vB true]
 |none=> .tp [Tw,vB false]
def KP{l:aa}(h: ¬l.ok)(hz: ¬(l.a=0/\l.b=0)):decide (rgcd (rgcd (l.a:Rat) (l.b:Rat)) (l.c:Rat)=((1:Int):Rat))=false:=by
 rw[uh,uh];refine decide_eq_false fun e=>h ⟨hz,?_⟩;simp only[jR] at e;have:=mM.1 e;omega
def TC{l:aa}[hl:LB l](ha:l.a=0)(hb:l.b=0):PF GB prog 182 [eL l] (sB none):=by
 refine fn func182 J J ntmps182 J J (fun C=>?_);refine cl (fu:=⟨0⟩) J (pO (m:=l.a)) J<|ee J J J<|cl (fu:=⟨0⟩) J (pO (m:=l.b)) J<|ee J J J<|cl (fu:=⟨0⟩) J (pO (m:=l.c)) J<|?_;refine ee J J J<|cl J (qE (m:=l.a)) J<|cl J (qE (m:=l.b)) J<|cl J (qE (m:=l.c)) J<|cl (fu:=⟨0⟩) J (r6 (q:=(l.a:Rat))) J<|?_;refine gu J (by show some (decide _)=some true;rw[ha];rfl) J<|cl (fu:=⟨0⟩) J (r6 (q:=(l.b:Rat))) J<|gu J (by show some (decide _)=some true;rw[hb];rfl) J<|?_;exact rz J J
def Xb{l:aa}[hl:LB l](hz: ¬(l.a=0/\l.b=0))(ho: ¬l.ok):PF GB prog 182 [eL l] (sB none):=by
 refine fn func182 J J ntmps182 J J (fun C=>?_);refine cl (fu:=⟨0⟩) J (pO (m:=l.a)) J<|ee J J J<|cl (fu:=⟨0⟩) J (pO (m:=l.b)) J<|ee J J J<|cl (fu:=⟨0⟩) J (pO (m:=l.c)) J<|?_;refine ee J J J<|cl J (qE (m:=l.a)) J<|cl J (qE (m:=l.b)) J<|cl J (qE (m:=l.c)) J<|cl (fu:=⟨0⟩) J (r6 (q:=(l.a:Rat))) J<|?_;refine ud (fu2:=⟨4⟩) J J J J (fun hg35=>?_) (fun hg35=>?_)
 .
  have ha:l.a=0:=fZ.1 hg35;refine cl (fu:=⟨1⟩) J (r6 (q:=(l.b:Rat))) J<|ee J (by first|rfl|(show some (decide _)=some false;rw[decide_eq_false (fun e=>hz ⟨ha,fZ.1 e⟩)])) J<|?_;refine cl J (nH (p:=(l.a:Rat)) (q:=(l.b:Rat))) J<|cl J (nH (p:=rgcd l.a l.b) (q:=(l.c:Rat))) J<|cl J (qf (m:=1) (by decide)) J<|?_;refine cl (fu:=⟨0⟩) J (uJ (p:=rgcd (rgcd l.a l.b) l.c) (q:=((1:Int):Rat))) J<|gu J (by show some (!decide _)=some true;rw[KP ho hz];rfl) J<|?_;exact rz J J
 .
  refine ee J (by first|rfl|(show some (decide _)=some false;rw[decide_eq_false (fun e=>hz ⟨ha,fZ.1 e⟩)])) J<|cl J (nH (p:=(l.a:Rat)) (q:=(l.b:Rat))) J<|?_;refine cl J (nH (p:=rgcd l.a l.b) (q:=(l.c:Rat))) J<|cl J (qf (m:=1) (by decide)) J<|cl (fu:=⟨0⟩) J (uJ (p:=rgcd (rgcd l.a l.b) l.c) (q:=((1:Int):Rat))) J<|?_;refine gu J (by show some (!decide _)=some true;rw[KP ho hz];rfl) J<|?_;exact rz J J
def Zt{l:aa}[hl:LB l][Decidable l.ok]:PF GB prog 182 [eL l] (sB (if l.ok then some l else none)):=by
 split
 ·rename_i h;exact Vl h
 ·rename_i h
  by_cases hz:l.a=0/\l.b=0
  ·exact TC hz.1 hz.2
  ·exact Xb hz h
def km(n:Bool)(ds:List Nat):Prop:=dO ds/\(n=true->0<ds.length)
instance (n:Bool) (ds:List Nat):Decidable (km n ds):=inferInstanceAs (Decidable (_/\_))
def wc{neg:Bool}{ds:List Nat}(h:bu ds/\ds.length<=3):PF GB prog 269 [.ag [.v (.bool neg),eB ds]] (vB (decide (km neg ds))):=Mh h.1 (by have:=h.2;omega)
structure RL where
 na:Bool
 da:List Nat
 nb:Bool
 db:List Nat
 nc:Bool
 dc:List Nat
def RL.d(r:RL):DV:= .ag [.v (.bool r.na),eB r.da, .v (.bool r.nb),eB r.db, .v (.bool r.nc),eB r.dc]
def pn(n:Bool)(ds:List Nat):Int:=if n then-(dv ds:Int) else dv ds
def RL.l(r:RL):aa:=⟨pn r.na r.da,pn r.nb r.db,pn r.nc r.dc⟩
def RL.nm(r:RL):Prop:=km r.na r.da/\km r.nb r.db/\km r.nc r.dc
instance (l:aa):Decidable l.ok:=inferInstanceAs (Decidable (_/\_))
instance (r:RL):Decidable r.nm:=inferInstanceAs (Decidable (_/\_/\_))
def RL.ln(r:RL):Option aa:=if r.nm/\r.l.ok then some r.l else none
structure RL.sm (r:RL):Prop where
 a:bu r.da/\r.da.length<=3
 b:bu r.db/\r.db.length<=3
 c:bu r.dc/\r.dc.length<=3
def Ma(n:Bool)(ds:List Nat):(pn n ds).natAbs=dv ds:=by unfold pn;cases n<;>simp
def DM{n:Bool}{ds:List Nat}(hd:bu ds)(h:km n ds):decide (pn n ds<0)=n:=by
 unfold pn
 cases n with
 |false=>simp
 |true=>
  have h0:0<dv ds:=by
   refine iX fun e=>?_;have:=wv hd h.1;rw[e,vr] at this;have h2:=h.2 J;rw[<-this] at h2;exact absurd h2 (by decide)
  simp only[if_true,decide_eq_true_eq];omega
def RL.eL{r:RL}(s:r.sm)(h:r.nm):r.d=Go.Sx.eL r.l:=by
 unfold RL.d Go.Sx.eL RL.l;simp only[Ma,DM s.a.1 h.1,DM s.b.1 h.2.1,DM s.c.1 h.2.2,dN,wv s.a.1 h.1.1,wv s.b.1 h.2.1.1,wv s.c.1 h.2.2.1];rfl
theorem RL.lb{r:RL}(s:r.sm):LB r.l:=by
 have key: ∀(n:Bool) (ds:List Nat),bu ds/\ds.length<=3->(pn n ds).natAbs<2^96:=fun n ds h=>by
  rw[Ma];refine cN (iw h.1) ?_;rw[show(2:Nat)^96=4294967296^3 by decide];exact bV (by decide) h.2
 exact⟨key _ _ s.a,key _ _ s.b,key _ _ s.c⟩
def Yq{r:RL}(s:r.sm)(h: ¬km r.na r.da):PF GB prog 182 [r.d] (sB none):=by
 refine fn func182 J J ntmps182 J J (fun C=>?_);refine cl (fu:=⟨0⟩) J (wc (neg:=r.na) (ds:=r.da) s.a) J<|gu J (by show some (!decide _)=some true;rw[decide_eq_false h];rfl) J<|?_;exact rz J J
def W3{r:RL}(s:r.sm)(h1:km r.na r.da)(h: ¬km r.nb r.db):PF GB prog 182 [r.d] (sB none):=by
 refine fn func182 J J ntmps182 J J (fun C=>?_);refine cl (fu:=⟨0⟩) J (wc (neg:=r.na) (ds:=r.da) s.a) J<|ee J (by show some (!decide _)=some false;rw[decide_eq_true h1];rfl) J<|cl (fu:=⟨0⟩) J (wc (neg:=r.nb) (ds:=r.db) s.b) J<|?_;refine gu J (by show some (!decide _)=some true;rw[decide_eq_false h];rfl) J<|?_;exact rz J J
def S8{r:RL}(s:r.sm)(h1:km r.na r.da)(h2:km r.nb r.db)(h: ¬km r.nc r.dc):PF GB prog 182 [r.d] (sB none):=by
 refine fn func182 J J ntmps182 J J (fun C=>?_);refine cl (fu:=⟨0⟩) J (wc (neg:=r.na) (ds:=r.da) s.a) J<|ee J (by show some (!decide _)=some false;rw[decide_eq_true h1];rfl) J<|cl (fu:=⟨0⟩) J (wc (neg:=r.nb) (ds:=r.db) s.b) J<|?_;refine ee J (by show some (!decide _)=some false;rw[decide_eq_true h2];rfl) J<|cl (fu:=⟨0⟩) J (wc (neg:=r.nc) (ds:=r.dc) s.c) J<|gu J (by show some (!decide _)=some true;rw[decide_eq_false h];rfl) J<|?_;exact rz J J
def MY{r:RL}(s:r.sm):PF GB prog 182 [r.d] (sB r.ln):=by
 by_cases h1:km r.na r.da
 ·by_cases h2:km r.nb r.db
  ·by_cases h3:km r.nc r.dc
   ·haveI:=RL.lb s
    rw[RL.eL s ⟨h1,h2,h3⟩,show r.ln=if r.l.ok then some r.l else none by unfold RL.ln;simp[show r.nm from⟨h1,h2,h3⟩]];exact Zt
   ·rw[show r.ln=none from if_neg fun e=>h3 e.1.2.2]
    exact S8 s h1 h2 h3
  ·rw[show r.ln=none from if_neg fun e=>h2 e.1.2.1]
   exact W3 s h1 h2
 ·rw[show r.ln=none from if_neg fun e=>h1 e.1.1]
  exact Yq s h1
def ke(n:Nat)(f:Nat->Bool):List Value:=(List.range n).map fun j=> .bool (f j)
def kb(f:Nat->Bool)(i:Nat):Nat->Bool:=fun j=>f j||Nat.beq j i
def Hv(n:Nat)(f:Nat->Bool):(ke n f).length=n:=by simp[ke]
def Ay{n i:Nat}{f:Nat->Bool}{b:Bool}(h:i<n)(hf:f i=b):(ke n f)[i]? =some (.bool b):=by simp[ke,h,hf]
def Aw{f:Nat->Bool}{i j:Nat}(e:j≠i):kb f i j=f j:=by
 unfold kb
 cases hb:Nat.beq j i with
 |false=>rw[Bool.or_false]
 |true=>exact absurd (aY hb) e
def Mw{f:Nat->Bool}{i:Nat}:kb f i i=true:=by
 unfold kb;rw[oK,Bool.or_true]
def J1(n i:Nat)(f:Nat->Bool):(ke n f).set i (.bool true)=ke n (kb f i):=by
 apply kY;intro j;rw[nQ];simp only[ke,aJ,rX,fU];by_cases hj:j<n
 ·rw[pU hj]
  simp only[jJ];by_cases e:i=j
  ·subst e;simp[hj,Mw]
  ·rw[Aw (fun h=>e h.symm)];simp[e]
 ·rw[dJ (by simpa using hj)]
  by_cases e:i=j
  ·subst e;simp[hj]
  ·simp[e]
def Yz(n:Nat):cC (.bool false) n=ke n (fun _=>false):=by
 apply kY;intro j;by_cases hj:j<n
 ·rw[Ay hj J]
  unfold cC;rw[Ed (aE (.bool false)) n j (by simpa[aE] using hj)];simp[aE,Nat.mod_one]
 ·rw[dJ (by rw[ml];simp[aE];omega),dJ (by rw[Hv];omega)]
structure RN where
 g:RL
 l:Int
 r:Int
def RN.d(n:RN):DV:= .ag [.v (.bool n.g.na),eB n.g.da, .v (.bool n.g.nb),eB n.g.db, .v (.bool n.g.nc),eB n.g.dc, .v (.int .i64 n.l), .v (.int .i64 n.r)]
structure RS where
 f:Nat->Bool
 c:Nat
 b:Bool
inductive RR (ns:List RN):Int->RS->Tr->RS->Prop where
 |leaf (b:Bool) (s:RS):RR ns (qi b) s (.leaf b) s
 |bad (rt:Int) (s:RS) (h1:rt≠ -1) (h2:rt≠ -2) (h:rt<0\/(ns.length:Int)<=rt\/(∃k:Nat,rt=k/\k<ns.length/\s.f k=true)):RR ns rt s (.leaf false) ⟨s.f,s.c,true⟩
 |line (k:Nat) (n:RN) (s:RS) (h:ns[k]? =some n) (hf:s.f k=false) (hl:n.g.ln=none):RR ns (k:Int) s (.leaf false) ⟨kb s.f k,s.c+1,true⟩
 |node (k:Nat) (n:RN) (l:aa) (s s2 s3:RS) (x y:Tr) (h:ns[k]? =some n) (hf:s.f k=false) (hl:n.g.ln=some l) (h1:RR ns n.l ⟨kb s.f k,s.c+1,s.b⟩ x s2) (h2:RR ns n.r s2 y s3):RR ns (k:Int) s (.node l x y) s3
def RR.mono{ns:List RN}{rt:Int}{s s':RS}{t:Tr}(h:RR ns rt s t s'):s.c<=s'.c:=by
 induction h with
 |leaf=>exact aL _
 |bad=>exact aL _
 |line=>exact Nat.le_succ _
 |node k n l s s2 s3 x y h hf hl h1 h2 i1 i2=>simp only at i1;omega
def vy{G:Gh}{q:Rat}{v:Value}(h:Is G (di q) v): ∃p,v= .pointer p:=by
 rcases qI.1 h with⟨_,h⟩|⟨_,h⟩
 ·exact⟨_,h⟩
 ·obtain⟨b,m,h,_⟩:=nI.1 h;exact⟨_,h⟩
def Xi{G:Gh}{l:aa}{v:Value}(h:Is G (cb l) v): ∃n1 d1 p1 n2 d2 p2 n3 d3 p3,v= .agg ⟨[.int .i64 n1, .int .i64 d1, .pointer p1, .int .i64 n2, .int .i64 d2, .pointer p2, .int .i64 n3, .int .i64 d3, .pointer p3]⟩:=by
 obtain⟨m,rfl,g⟩:=c6.1 h;clear h;obtain⟨v1,m,rfl,h1,h⟩:=ba.1 g;obtain⟨v2,m,rfl,h2,h⟩:=ba.1 h;obtain⟨v3,m,rfl,h3,h⟩:=ba.1 h;obtain⟨v4,m,rfl,h4,h⟩:=ba.1 h;obtain⟨v5,m,rfl,h5,h⟩:=ba.1 h;obtain⟨v6,m,rfl,h6,h⟩:=ba.1 h;obtain⟨v7,m,rfl,h7,h⟩:=ba.1 h;obtain⟨v8,m,rfl,h8,h⟩:=ba.1 h;obtain⟨v9,m,rfl,h9,h⟩:=ba.1 h;rw[cA] at h;subst h;obtain⟨_,rfl⟩:=vy h3;obtain⟨_,rfl⟩:=vy h6;obtain⟨_,rfl⟩:=vy h9;rw[aG.1 h1,aG.1 h2,aG.1 h4,aG.1 h5,aG.1 h7,aG.1 h8];exact⟨_,_,_,_,_,_,_,_,_,J⟩
def Je{G:Gh}{o:Option aa}{v:Value}(h:Is G (sB o) v): ∃n1 d1 p1 n2 d2 p2 n3 d3 p3,v= .tuple #[.agg ⟨[.int .i64 n1, .int .i64 d1, .pointer p1, .int .i64 n2, .int .i64 d2, .pointer p2, .int .i64 n3, .int .i64 d3, .pointer p3]⟩, .bool o.isSome]/\
  ∀l,o=some l->Is G (cb l) (.agg ⟨[.int .i64 n1, .int .i64 d1, .pointer p1, .int .i64 n2, .int .i64 d2, .pointer p2, .int .i64 n3, .int .i64 d3, .pointer p3]⟩):=by
 cases o with
 |some l=>
  obtain⟨m,rfl,g⟩:=iD.1 h;obtain⟨v1,m,rfl,h1,h⟩:=ba.1 g;obtain⟨v2,m,rfl,h2,h⟩:=ba.1 h;rw[cA] at h;subst h;obtain⟨n1,d1,p1,n2,d2,p2,n3,d3,p3,rfl⟩:=Xi h1;rw[aG.1 h2];exact⟨n1,d1,p1,n2,d2,p2,n3,d3,p3,J,fun k e=>by cases e;exact h1⟩
 |none=>
  obtain⟨m,rfl,g⟩:=iD.1 h;obtain⟨v1,m,rfl,h1,h⟩:=ba.1 g;obtain⟨v2,m,rfl,h2,h⟩:=ba.1 h;rw[cA] at h;subst h;clear g h;obtain⟨m,rfl,g⟩:=c6.1 h1;obtain⟨w1,m,rfl,k1,h⟩:=ba.1 g;obtain⟨w2,m,rfl,k2,h⟩:=ba.1 h;obtain⟨w3,m,rfl,k3,h⟩:=ba.1 h;obtain⟨w4,m,rfl,k4,h⟩:=ba.1 h;obtain⟨w5,m,rfl,k5,h⟩:=ba.1 h;obtain⟨w6,m,rfl,k6,h⟩:=ba.1 h;obtain⟨w7,m,rfl,k7,h⟩:=ba.1 h;obtain⟨w8,m,rfl,k8,h⟩:=ba.1 h;obtain⟨w9,m,rfl,k9,h⟩:=ba.1 h;rw[cA] at h;subst h;rw[aG.1 k1,aG.1 k2,aG.1 k3,aG.1 k4,aG.1 k5,aG.1 k6,aG.1 k7,aG.1 k8,aG.1 k9];rw[aG.1 h2];exact⟨_,_,_,_,_,_,_,_,_,J,fun k e=>by cases e⟩
def M8{G:Gh}{n:RN}{v:Value}(h:Is G n.d v): ∃x1 x2 x3:SV,v= .agg ⟨[.bool n.g.na, .slice x1.a x1.n x1.c, .bool n.g.nb, .slice x2.a x2.n x2.c, .bool n.g.nc, .slice x3.a x3.n x3.c, .int .i64 n.l, .int .i64 n.r]⟩/\
  Is G n.g.d (.agg ⟨[.bool n.g.na, .slice x1.a x1.n x1.c, .bool n.g.nb, .slice x2.a x2.n x2.c, .bool n.g.nc, .slice x3.a x3.n x3.c]⟩):=by
 obtain⟨m,rfl,g⟩:=c6.1 h;clear h;obtain⟨v1,m,rfl,h1,h⟩:=ba.1 g;obtain⟨v2,m,rfl,h2,h⟩:=ba.1 h;obtain⟨v3,m,rfl,h3,h⟩:=ba.1 h;obtain⟨v4,m,rfl,h4,h⟩:=ba.1 h;obtain⟨v5,m,rfl,h5,h⟩:=ba.1 h;obtain⟨v6,m,rfl,h6,h⟩:=ba.1 h;obtain⟨v7,m,rfl,h7,h⟩:=ba.1 h;obtain⟨v8,m,rfl,h8,h⟩:=ba.1 h;rw[cA] at h;subst h;obtain⟨_,x1,_,rfl,_,_⟩:=gz.1 (id h2);obtain⟨_,x2,_,rfl,_,_⟩:=gz.1 (id h4);obtain⟨_,x3,_,rfl,_,_⟩:=gz.1 (id h6)
 cases aG.1 h1;cases aG.1 h3;cases aG.1 h5;cases aG.1 h7;cases aG.1 h8
 exact⟨x1,x2,x3,J,c6.2 ⟨_,J, .cons h1 (.cons h2 (.cons h3 (.cons h4 (.cons h5 (.cons h6 .nil)))))⟩⟩
def pC{G:Gh}{t:Tr}{v:Value}(h:Is G (eU t) v): ∃p,v= .pointer p:=by
 obtain⟨b,m,h,_⟩:=nI.1 h;exact⟨_,h⟩
def PF.fn0{P:Program}{f:FuncId}{ds:List DV}{r:DV}(h: ∀{GB:Gh},PF GB P f ds r){G:Gh}{vs:List Value}(hv:IsLs G ds vs):Fn P f vs G (fun v G'=>Is G' r v):=h (GB:=G) G vs (bz.refl G) hv
abbrev LD (x:SV) (ns:List RN) (A:Gh):Prop:= ∃es,d5 A 8 x es/\IsLs A (ns.map RN.d) es
def WB{A:Gh}{ns:List RN}{x:SV}(hx:LD x ns A)(hs: ∀n∈ns,n.g.sm)(hn:ns.length<=1000000){rt:Int}{s s':RS}{t:Tr}(h:RR ns rt s t s'): ∀{G:Gh} {rb sb:Nat} {lo lo2:Bool},[GL A G]->s'.c<=1000000->
  jb prog 219 [.pointer (some ⟨rb,0,none⟩), .int .i64 rt] [⟨rb,[.slice x.a x.n x.c, .slice (some ⟨sb,0,none⟩) ns.length ns.length, .int .i64 s.c, .bool s.b],342,lo⟩,⟨sb,ke ns.length s.f,4,lo2⟩] G
   (fun v css G'=> ∃p,v= .pointer p/\Is G' (eU t) (.pointer p)/\css=[[.slice x.a x.n x.c, .slice (some ⟨sb,0,none⟩) ns.length ns.length, .int .i64 s'.c, .bool s'.b],ke ns.length s'.f]):=by
 obtain⟨es,hx,hes⟩:=hx;have hel:=hes.len;rw[aJ] at hel;have hlen:=hx.len;rw[hel] at hlen;obtain⟨xa,xn,xc⟩:=x;simp only[] at hlen;subst hlen
 induction h with
 |leaf bb s=>
  intro G rb sb lo lo2 _ hc;refine jb.intro func219 J J ntmps219 J ?_;intro C _ _;show St C _ _ [⟨rb,_,_,false⟩,⟨sb,_,_,false⟩] _ _
  cases bb
  case true=>
   refine sR<|sa J J<|zE<|bt<|dE<|sR<|sm J J<|sy (gE J J) J<|sm J J<|ss J J J J<|ss J J J J<|?_;refine sy (qa J J) J<|sa J J<|zE<|od J<|sR<|sm J J<|sy (gE J J) J<|?_;refine sc (zC J J (PF.fn0 (tW (b:=true)) (.cons (aG.2 J) .nil)) J ?_);rintro _ G1 _ hp;obtain⟨p,rfl⟩:=pC hp;refine sa J J<|zE<|cG<|?_;exact qp (css:=[_,_]) (.tmp J .nil) J _ (List.Perm.refl _) (List.Sublist.refl _) ⟨p,J,hp,J⟩
  refine sR<|sa J J<|zE<|bt<|dE<|sR<|sm J J<|sy (gE J J) J<|sm J J<|bG J J (eG J) J<|bG J J (gE J J) J<|?_;refine sy (kh J J) J<|sa J J<|zE<|od J<|sR<|sm J J<|sy (gE J J) J<|?_;refine sc (zC J J (PF.fn0 (tW (b:=false)) (.cons (aG.2 J) .nil)) J ?_);rintro _ G1 _ hp;obtain⟨p,rfl⟩:=pC hp;refine sa J J<|zE<|cG<|?_;exact qp (css:=[_,_]) (.tmp J .nil) J _ (List.Perm.refl _) (List.Sublist.refl _) ⟨p,J,hp,J⟩
 |bad rt s h1 h2 h=>
  intro G rb sb lo lo2 _ hc;refine jb.intro func219 J J ntmps219 J ?_;intro C _ _;show St C _ [(0, .pointer (some ⟨rb,0,none⟩)),(1, .int .i64 rt)] [⟨rb,[.slice xa ns.length xc, .slice (some ⟨sb,0,none⟩) ns.length ns.length, .int .i64 s.c, .bool s.b],_,false⟩,⟨sb,ke ns.length s.f,_,false⟩] _ _;refine sR<|sa J J<|zE<|bt<|dE<|sR<|sm J J<|sy (gE J J) J<|sm J J<|?_;refine mi 12 J (fun hg=>absurd hg (by omega)) (fun hg=>?_);refine bG J J (eG J) J<|bG J J (gE J J) J<|sy (kh J J) J<|sa J J<|zE<|?_;refine fi J (fun hc=>absurd hc (by omega)) (fun _=>?_);refine sR<|sm J J<|sy (io J J) J<|sm J J<|?_;refine mi 22 J (fun hg=>?_) (fun hg=>?_)
  ·refine ss J J J J<|ss J J J J<|ss J J J J<|ss J J J J<|ss J J J J<|ss J J J J<|ss J J J J<|sy (qa J J) J<|sm J J<|ss J J J J<|ss J J J J<|?_
   refine ss J J J J<|ss J J J J<|ss J J J J<|ss J J J J<|ss J J J J<|sy (qa J J) J<|sa J J<|zE<|od J<|bt<|?_;refine dz<|sm J J<|sn J J<|sf J J<|?_;refine sc (q0 J J J (.hd ..) (nb J) J J ?_);refine zE<|sR<|?_;refine sc (zC J J (PF.fn0 (tW (b:=false)) (.cons (aG.2 J) .nil)) J ?_);rintro _ G1 _ hp;obtain⟨p,rfl⟩:=pC hp;refine sa J J<|zE<|cG<|?_;exact qp (css:=[_,_]) (.tmp J .nil) J _ (List.Perm.refl _) (List.Sublist.refl _) ⟨p,J,hp,J⟩
  refine bG J J (eG J) J<|bG J J (eG J) J<|bG J J (jC J) J<|bG J J (mF J) J<|bG J J (jx J J) J<|bG J J (mv J) J<|bG J J (sH J J) J<|sy (kh J J) J<|sm J J<|?_;refine mi 31 J (fun hg=>?_) (fun hg=>?_)
  ·refine ss J J J J<|ss J J J J<|ss J J J J<|ss J J J J<|ss J J J J<|ss J J J J<|ss J J J J<|?_
   refine sy (qa J J) J<|sa J J<|zE<|od J<|sR<|sm J J<|sn J J<|sf J J<|?_;refine sc (q0 J J J (.hd ..) (nb J) J J ?_);refine zE<|sR<|?_;refine sc (zC J J (PF.fn0 (tW (b:=false)) (.cons (aG.2 J) .nil)) J ?_);rintro _ G1 _ hp;obtain⟨p,rfl⟩:=pC hp;refine sa J J<|zE<|cG<|?_;exact qp (css:=[_,_]) (.tmp J .nil) J _ (List.Perm.refl _) (List.Sublist.refl _) ⟨p,J,hp,J⟩
  obtain⟨k,rfl,hk,hf⟩: ∃k:Nat,rt=k/\k<ns.length/\s.f k=true:=by
   rcases h with h|h|h
   ·omega
   ·exact absurd h hg
   ·exact h
  refine bG J J (eG J) J<|bG J J (jC J) J<|bG J J (mF J) J<|bG J J (jx J J) J<|bG J J (eG J) J<|bG J J (ew J J (by omega) (by omega)) J<|?_;refine bG J J (jx (v:= .bool true) J (by rw[aM,iK];exact Ay hk hf)) J<|sy (kh J J) J<|sa J J<|zE<|od J<|?_;refine sR<|sm J J<|sn J J<|sf J J<|?_;refine sc (q0 J J J (.hd ..) (nb J) J J ?_);refine zE<|sR<|?_;refine sc (zC J J (PF.fn0 (tW (b:=false)) (.cons (aG.2 J) .nil)) J ?_);rintro _ G1 _ hp;obtain⟨p,rfl⟩:=pC hp;refine sa J J<|zE<|cG<|?_;exact qp (css:=[_,_]) (.tmp J .nil) J _ (List.Perm.refl _) (List.Sublist.refl _) ⟨p,J,hp,J⟩
 |line base n s h0 hfb hl=>
  intro G rb sb lo lo2 _ hc;have hbn:base<ns.length:=(aS.1 h0).1;simp only at hc;obtain⟨z,hzi,hz⟩:=hes.get (i:=base) (d:=n.d) (by rw[fU,h0];rfl);obtain⟨x1,x2,x3,rfl,hzg⟩:=M8 hz;refine jb.intro func219 J J ntmps219 J ?_;intro C _ _;show St C _ [(0, .pointer (some ⟨rb,0,none⟩)),(1, .int .i64 (base:Int))] [⟨rb,[.slice xa ns.length xc, .slice (some ⟨sb,0,none⟩) ns.length ns.length, .int .i64 s.c, .bool s.b],_,false⟩,⟨sb,ke ns.length s.f,_,false⟩] _ _;refine sR<|sa J J<|zE<|bt<|dE<|sR<|sm J J<|sy (gE J J) J<|sm J J<|?_;refine mi 12 J (fun hg=>absurd hg (by omega)) (fun hg=>?_);refine bG J J (eG J) J<|bG J J (gE J J) J<|sy (kh J J) J<|sa J J<|zE<|?_;refine fi J (fun hc=>absurd hc (by omega)) (fun _=>?_);refine sR<|sm J J<|sy (io J J) J<|sm J J<|?_;refine mi 22 J (fun hg=>absurd hg (by omega)) (fun hg=>?_);refine bG J J (eG J) J<|bG J J (eG J) J<|bG J J (jC J) J<|bG J J (mF J) J<|bG J J (jx J J) J<|bG J J (mv J) J<|bG J J (sH J J) J<|sy (kh J J) J<|sm J J<|?_;refine mi 31 J (fun hg=>absurd hg (by omega)) (fun hg=>?_);refine bG J J (eG J) J<|bG J J (jC J) J<|bG J J (mF J) J<|bG J J (jx J J) J<|bG J J (eG J) J<|bG J J (ew J J (by omega) (by omega)) J<|?_;refine bG J J (jx (v:= .bool false) J (by rw[aM,iK];exact Ay hbn hfb)) J<|sy (kh J J) J<|sa J J<|zE<|tP J<|zK<|?_;refine sR<|sm J J<|sn J J<|sf J J<|pc J J J<|sm J J<|sy (ew J J (by omega) (by omega)) J<|?_;refine sc (q9 J J (.tl _ _ _ _ _ _ _ _ (.hd ..)) (by rw[Hv,aM,iK];exact hbn) J J ?_);rw[aM,iK,J1];refine zE<|sR<|sm J J<|sn J J<|sf J J<|pc J J J<|sy (dx J J) J<|sn J J<|sf J J<|?_
  refine sc (q0 J J J (by repeat (first|exact .hd .. |apply eE.tl)) (nb J) J J ?_);rw[show(s.c:Int)+1=((s.c+1:Nat):Int) by omega];refine zE<|sR<|sm J J<|sn J J<|sf J J<|pc J J J<|sm J J<|sy (F8 (z:=⟨xa,ns.length,xc⟩) hx J J (by omega) (by show(base:Int)<(ns.length:Int);omega)) J<|?_;rw[aM];refine sy (Oa (i:=base) hx J (by rw[hel];exact hbn) hzi) J<|?_;refine sc (ta J ?_);intro b5;refine sc (zf J J J (by repeat (first|exact .hd .. |apply eE.tl)) J (nb J) J J ?_);refine zE<|sR<|sf J J<|Gb J J J<|?_;refine sc (zC J J (PF.fn0 (MY (hs n (bZ h0))) (.cons (hzg.up GL.le) .nil)) J ?_);rintro _ G6 _ hw;rw[hl] at hw;obtain⟨n1,d1,p1,n2,d2,p2,n3,d3,p3,rfl,hw⟩:=Je hw;refine sm J J<|sx J J J<|sx J J J<|?_;refine sc (ta J ?_);intro b6;refine sc (zf J J J (by repeat (first|exact .hd .. |apply eE.tl)) J (nb J) J J ?_);refine sa J J<|zE<|bt<|sR<|sm J J<|sy (BC J) J<|zE<|od J<|?_;refine sR<|sm J J<|sn J J<|sf J J<|?_;refine sc (q0 J J J (by repeat (first|exact .hd .. |apply eE.tl)) (nb J) J J ?_);refine zE<|sR<|?_;refine sc (zC J J (PF.fn0 (tW (b:=false)) (.cons (aG.2 J) .nil)) J ?_);rintro _ G7 _ hp;obtain⟨p,rfl⟩:=pC hp;refine sa J J<|zE<|cG<|?_;exact qp (css:=[_,_]) (.tmp J .nil) J _ (lX (l₁:=[_,_]) (l₂:=[_,_])) (.cons_cons _ (.cons_cons _ (jS _))) ⟨p,J,hp,J⟩
 |node base n l s s2 s3 tx ty h0 hfb hl h1 h2 ih1 ih2=>
  intro G rb sb lo lo2 _ hc;have hbn:base<ns.length:=(aS.1 h0).1;have hm1:=h1.mono;have hm2:=h2.mono;simp only at hm1;obtain⟨z,hzi,hz⟩:=hes.get (i:=base) (d:=n.d) (by rw[fU,h0];rfl);obtain⟨x1,x2,x3,rfl,hzg⟩:=M8 hz;refine jb.intro func219 J J ntmps219 J ?_;intro C _ _;show St C _ [(0, .pointer (some ⟨rb,0,none⟩)),(1, .int .i64 (base:Int))] [⟨rb,[.slice xa ns.length xc, .slice (some ⟨sb,0,none⟩) ns.length ns.length, .int .i64 s.c, .bool s.b],_,false⟩,⟨sb,ke ns.length s.f,_,false⟩] _ _;refine sR<|sa J J<|zE<|bt<|dE<|sR<|sm J J<|sy (gE J J) J<|sm J J<|?_;refine mi 12 J (fun hg=>absurd hg (by omega)) (fun hg=>?_);refine bG J J (eG J) J<|bG J J (gE J J) J<|sy (kh J J) J<|sa J J<|zE<|?_;refine fi J (fun hc=>absurd hc (by omega)) (fun _=>?_);refine sR<|sm J J<|sy (io J J) J<|sm J J<|?_;refine mi 22 J (fun hg=>absurd hg (by omega)) (fun hg=>?_);refine bG J J (eG J) J<|bG J J (eG J) J<|bG J J (jC J) J<|bG J J (mF J) J<|bG J J (jx J J) J<|bG J J (mv J) J<|bG J J (sH J J) J<|sy (kh J J) J<|sm J J<|?_;refine mi 31 J (fun hg=>absurd hg (by omega)) (fun hg=>?_);refine bG J J (eG J) J<|bG J J (jC J) J<|bG J J (mF J) J<|bG J J (jx J J) J<|bG J J (eG J) J<|bG J J (ew J J (by omega) (by omega)) J<|?_;refine bG J J (jx (v:= .bool false) J (by rw[aM,iK];exact Ay hbn hfb)) J<|sy (kh J J) J<|sa J J<|zE<|tP J<|zK<|?_;refine sR<|sm J J<|sn J J<|sf J J<|pc J J J<|sm J J<|sy (ew J J (by omega) (by omega)) J<|?_;refine sc (q9 J J (.tl _ _ _ _ _ _ _ _ (.hd ..)) (by rw[Hv,aM,iK];exact hbn) J J ?_);rw[aM,iK,J1]
  refine zE<|sR<|sm J J<|sn J J<|sf J J<|pc J J J<|sy (dx J J) J<|sn J J<|sf J J<|?_;refine sc (q0 J J J (by repeat (first|exact .hd .. |apply eE.tl)) (nb J) J J ?_);rw[show(s.c:Int)+1=((s.c+1:Nat):Int) by omega];refine zE<|sR<|sm J J<|sn J J<|sf J J<|pc J J J<|sm J J<|sy (F8 (z:=⟨xa,ns.length,xc⟩) hx J J (by omega) (by show(base:Int)<(ns.length:Int);omega)) J<|?_;rw[aM];refine sy (Oa (i:=base) hx J (by rw[hel];exact hbn) hzi) J<|?_;refine sc (ta J ?_);intro b5;refine sc (zf J J J (by repeat (first|exact .hd .. |apply eE.tl)) J (nb J) J J ?_);refine zE<|sR<|sf J J<|Gb J J J<|?_;refine sc (zC J J (PF.fn0 (MY (hs n (bZ h0))) (.cons (hzg.up GL.le) .nil)) J ?_);rintro _ G6 _ hw;rw[hl] at hw;obtain⟨n1,d1,p1,n2,d2,p2,n3,d3,p3,rfl,hw'⟩:=Je hw;replace hw:=hw' l J;refine sm J J<|sx J J J<|sx J J J<|?_;refine sc (ta J ?_);intro b6;refine sc (zf J J J (by repeat (first|exact .hd .. |apply eE.tl)) J (nb J) J J ?_);refine sa J J<|zE<|bt<|sR<|sm J J<|sy (BC J) J<|zE<|tP J<|zK<|?_;refine sR<|sm J J<|sf J J<|pc J J J<|?_;have hrp:=ih1 (G:=G6) (rb:=rb) (sb:=sb) (lo:=false) (lo2:=false) (by omega);refine sc (BZ J J (lX (l₁:=[_,_]) (l₂:=[_,_])) hrp J ?_);rintro _ css G7 _ _ ⟨q1,rfl,hp1,rfl⟩;show St C _ _ [⟨rb,[.slice xa ns.length xc, .slice (some ⟨sb,0,none⟩) ns.length ns.length, .int .i64 s2.c, .bool s2.b],342,false⟩,⟨sb,ke ns.length s2.f,4,false⟩,⟨b6,[.int .i64 n1, .int .i64 d1, .pointer p1, .int .i64 n2, .int .i64 d2, .pointer p2, .int .i64 n3, .int .i64 d3, .pointer p3],218,true⟩,⟨b5,[.bool n.g.na, .slice x1.a x1.n x1.c, .bool n.g.nb, .slice x2.a x2.n x2.c, .bool n.g.nc, .slice x3.a x3.n x3.c, .int .i64 n.l, .int .i64 n.r],149,true⟩] _ _
  refine sa J J<|zE<|bt<|?_;refine Ae [⟨b6,[.int .i64 n1, .int .i64 d1, .pointer p1, .int .i64 n2, .int .i64 d2, .pointer p2, .int .i64 n3, .int .i64 d3, .pointer p3],218,true⟩,⟨b5,[.bool n.g.na, .slice x1.a x1.n x1.c, .bool n.g.nb, .slice x2.a x2.n x2.c, .bool n.g.nc, .slice x3.a x3.n x3.c, .int .i64 n.l, .int .i64 n.r],149,true⟩] (fun _=>false) [(0,true),(1,true),(2,true),(3,true),(4,true),(5,false),(6,false),(7,true)] follows (by kernel_rfl)<|?_;refine dL J J J J<|dM J J J<|dM J J J<|dF J J J<|px J J J J<|?_;have hrp:=ih2 (G:=G7) (rb:=rb) (sb:=sb) (lo:=false) (lo2:=false) hc;refine dc J J (BZ J J (M:=[_,_]) (rest:=[_,_]) (List.Perm.refl _) hrp J ?_);rintro _ css G8 _ _ ⟨q2,rfl,hp2,rfl⟩;show St C _ _ [⟨rb,[.slice xa ns.length xc, .slice (some ⟨sb,0,none⟩) ns.length ns.length, .int .i64 s3.c, .bool s3.b],342,false⟩,⟨sb,ke ns.length s3.f,4,false⟩,⟨b6,[.int .i64 n1, .int .i64 d1, .pointer p1, .int .i64 n2, .int .i64 d2, .pointer p2, .int .i64 n3, .int .i64 d3, .pointer p3],218,true⟩,⟨b5,[.bool n.g.na, .slice x1.a x1.n x1.c, .bool n.g.nb, .slice x2.a x2.n x2.c, .bool n.g.nc, .slice x3.a x3.n x3.c, .int .i64 n.l, .int .i64 n.r],149,true⟩] _ _;refine lH<|?_;refine dc J J (zC J J (PF.fn0 (Ap (l:=l) (x:=tx) (y:=ty)) (.cons (hw.up GL.le) (.cons (hp1.up GL.le) (.cons hp2 .nil)))) J ?_);rintro _ G9 _ hp;obtain⟨p,rfl⟩:=pC hp;refine lH<|dA J J J<|dn<|cG<|?_;exact qp (css:=[_,_]) (.tmp J .nil) J _ (List.Perm.refl _) (.cons_cons _ (.cons_cons _ (jS _))) ⟨p,J,hp,J⟩
def me:RS:=⟨fun _=>false,0,false⟩
def z'(ns:List RN)(t:Tr)(s:RS):DV:=if s.b=false/\s.c=ns.length then .tp [eU t,vB true] else .tp [.v (.pointer none),vB false]
def qu(rt:Int)(ns:List RN):DV:= .ag [vI rt, .sl (ns.map RN.d)]
def QT{ns:List RN}{rt:Int}{t:Tr}{s:RS}(hs: ∀n∈ns,n.g.sm)(hn:ns.length<=65536)(h:RR ns rt me t s)(hc:s.c<=1000000):PF GB prog 129 [qu rt ns] (z' ns t s):=by
 intro G vs _ hv;obtain⟨v0,m,rfl,h0,hm⟩:=ba.1 hv;rw[cA] at hm;subst hm;obtain⟨m,rfl,g⟩:=c6.1 h0;obtain⟨v1,m,rfl,h1,hm⟩:=ba.1 g;obtain⟨v2,m,rfl,h2,hm⟩:=ba.1 hm;rw[cA] at hm;subst hm;obtain⟨s0,x,es,rfl,hsl,hes⟩:=gz.1 h2;rw[aG.1 h1];have hel:=hes.len;rw[aJ] at hel;have hlen:=hsl.len;rw[hel] at hlen;have hx:LD x ns G:=by
  refine⟨es,?_,hes⟩;rcases Af (s:=8) hsl hes (fun d hd=>by obtain⟨n,_,rfl⟩:=bJ.1 hd;exact⟨rfl,rfl⟩) with e|e
  ·exact⟨hsl.len,hsl.cap, .inl e⟩
  ·rw[e] at hsl;exact hsl
 obtain⟨xa,xn,xc⟩:=x;simp only[] at hlen;subst hlen;show Fn _ _ [.agg ⟨[.int .i64 rt, .slice xa ns.length xc]⟩] _ _;refine Fn.intro func129 J J ntmps129 J ?_;intro C _ _;refine sR<|?_;refine sc (H8 J J ?_);intro b1;refine sa J J<|sa J J<|zE<|bt<|sR<|sf J J<|pc J J J<|cD J J<|sy (rg J J) J<|zE<|?_;refine fi J (fun hc=>absurd hc (by omega)) (fun _=>?_);refine zK<|bt<|dr (fun _=>false) [(0,true),(1,true),(2,true),(3,true),(4,true),(5,false),(6,true),(7,false),(8,true)] follows (by kernel_rfl)<|dF J J J<|?_;refine px J J J J<|dF J J J<|px J J J J<|dy J (fun _=>mv J) J J<|?_;refine dc J J (rk J J (by omega) (by omega) (by omega) (by rfl) J ?_);intro b2;rw[aM,Yz];refine lH<|dy J (fun _=>EU J) J J<|?_;refine dc J J (H8 J J ?_);intro b3;refine lH<|dA J J J<|dn<|sR<|sm J J<|sf J J<|pc J J J<|?_;have hrp:=WB hx hs (by omega) h (G:=G) (rb:=b3) (sb:=b2) (lo:=true) (lo2:=true) hc;refine sc (BZ J J (M:=[_,_]) (rest:=[_]) (List.Perm.refl _) hrp J ?_);rintro _ css G4 _ _ ⟨p,rfl,hp,rfl⟩;show St C _ _ [⟨b3,[.slice xa ns.length xc, .slice (some ⟨b2,0,none⟩) ns.length ns.length, .int .i64 s.c, .bool s.b],342,true⟩,⟨b2,ke ns.length s.f,4,true⟩,⟨b1,[.int .i64 rt, .slice xa ns.length xc],32,true⟩] _ _;refine sa J J<|zE<|bt<|bt<|dr (fun _=>false) [(0,true),(1,true),(2,true),(3,true),(4,true),(5,true),(6,true),(7,true),(8,true),(9,true),(10,true),(11,true),(12,true),(13,true)] follows (by kernel_rfl)<|?_;obtain⟨sf_,sc_,sb_⟩:=s
 cases sb_
 case true=>
  refine dM J J J<|dy J (fun _=>jC J) J J<|dF J J J<|px J J J J<|dM J J J<|?_;refine sM J J J J J J<|sM J J J J J J<|sM J J J J J J<|sM J J J J J J<|sM J J J J J J<|sM J J J J J J<|?_;refine sM J J J J J J<|sM J J J J J J<|dy J (fun _=>qa J J) J J<|dn<|od J<|?_;refine sR<|sa J J<|sa J J<|zE<|cG<|?_;refine zD (.tmp J (.tmp J .nil)) ?_;rw[z',if_neg (fun e=>by cases e.1)];exact iD.2 ⟨_,J, .cons (aG.2 J) (.cons (aG.2 J) .nil)⟩
 refine dM J J J<|dy J (fun _=>jC J) J J<|dF J J J<|px J J J J<|dM J J J<|?_;refine tk J J J J (fun _=>eG J) J<|tk J J J J (fun _=>jC J) J<|tk J J J J (fun _=>mF J) J<|tk J J J J (fun _=>jx J J) J<|?_;refine tk J J J J (fun _=>mF J) J<|tk J J J J (fun _=>jx J J) J<|tk J J J J (fun _=>mv J) J<|tk J J J J (fun _=>tc J J) J<|?_;refine dy J (fun _=>kh J J) J J<|dn<|?_;refine fi J (fun hc=>?_) (fun hc=>?_) -- slot 35
 ·refine sR<|sa J J<|sa J J<|zE<|cG<|?_
  refine zD (.tmp J (.tmp J .nil)) ?_;rw[z',if_neg (fun e=>hc (by have:=e.2;simp only at this;omega))];exact iD.2 ⟨_,J, .cons (aG.2 J) (.cons (aG.2 J) .nil)⟩
 refine zK<|sR<|sm J J<|sa J J<|sa J J<|zE<|cG<|?_;refine zD (.tmp J (.tmp J .nil)) ?_;rw[z',if_pos ⟨J,by have h9:=hc;simp at h9;show sc_=_;omega⟩];exact iD.2 ⟨_,J, .cons hp (.cons (aG.2 J) .nil)⟩
def Ql{G:Gh}{l:aa}{x y:Tr}{m:List Value}(h:IsLs G (cU (.node l x y)) m): ∃n1 d1 p1 n2 d2 p2 n3 d3 p3 q r,m=[.int .i64 n1, .int .i64 d1, .pointer p1, .int .i64 n2, .int .i64 d2, .pointer p2, .int .i64 n3, .int .i64 d3, .pointer p3, .pointer q, .pointer r, .bool false]/\
  Is G (cb l) (.agg ⟨[.int .i64 n1, .int .i64 d1, .pointer p1, .int .i64 n2, .int .i64 d2, .pointer p2, .int .i64 n3, .int .i64 d3, .pointer p3]⟩)/\Is G (eU x) (.pointer q)/\Is G (eU y) (.pointer r):=by
 obtain⟨v1,m,rfl,h1,h⟩:=ba.1 h;obtain⟨v2,m,rfl,h2,h⟩:=ba.1 h;obtain⟨v3,m,rfl,h3,h⟩:=ba.1 h;obtain⟨v4,m,rfl,h4,h⟩:=ba.1 h;obtain⟨v5,m,rfl,h5,h⟩:=ba.1 h;obtain⟨v6,m,rfl,h6,h⟩:=ba.1 h;obtain⟨v7,m,rfl,h7,h⟩:=ba.1 h;obtain⟨v8,m,rfl,h8,h⟩:=ba.1 h;obtain⟨v9,m,rfl,h9,h⟩:=ba.1 h;obtain⟨va,m,rfl,ha,h⟩:=ba.1 h;obtain⟨vb,m,rfl,hb,h⟩:=ba.1 h;obtain⟨vc,m,rfl,hc,h⟩:=ba.1 h;rw[cA] at h;subst h;obtain⟨_,rfl⟩:=vy h3;obtain⟨_,rfl⟩:=vy h6;obtain⟨_,rfl⟩:=vy h9;obtain⟨_,rfl⟩:=pC ha;obtain⟨_,rfl⟩:=pC hb
 cases aG.1 h1;cases aG.1 h2;cases aG.1 h4;cases aG.1 h5;cases aG.1 h7;cases aG.1 h8;cases aG.1 hc
 exact⟨_,_,_,_,_,_,_,_,_,_,_,J,c6.2 ⟨_,J, .cons h1 (.cons h2 (.cons h3 (.cons h4 (.cons h5 (.cons h6 (.cons h7 (.cons h8 (.cons h9 .nil))))))))⟩,ha,hb⟩
def QD{G:Gh}{b:Bool}{m:List Value}(h:IsLs G (cU (.leaf b)) m):m=[.int .i64 0, .int .i64 0, .pointer none, .int .i64 0, .int .i64 0, .pointer none, .int .i64 0, .int .i64 0, .pointer none, .pointer none, .pointer none, .bool b]:=by
 obtain⟨v1,m,rfl,h1,h⟩:=ba.1 h;obtain⟨v2,m,rfl,h2,h⟩:=ba.1 h;obtain⟨v3,m,rfl,h3,h⟩:=ba.1 h;obtain⟨v4,m,rfl,h4,h⟩:=ba.1 h;obtain⟨v5,m,rfl,h5,h⟩:=ba.1 h;obtain⟨v6,m,rfl,h6,h⟩:=ba.1 h;obtain⟨v7,m,rfl,h7,h⟩:=ba.1 h;obtain⟨v8,m,rfl,h8,h⟩:=ba.1 h;obtain⟨v9,m,rfl,h9,h⟩:=ba.1 h;obtain⟨va,m,rfl,ha,h⟩:=ba.1 h;obtain⟨vb,m,rfl,hb,h⟩:=ba.1 h;obtain⟨vc,m,rfl,hc,h⟩:=ba.1 h;rw[cA] at h;subst h
 cases aG.1 h1;cases aG.1 h2;cases aG.1 h3;cases aG.1 h4;cases aG.1 h5;cases aG.1 h6;cases aG.1 h7;cases aG.1 h8;cases aG.1 h9;cases aG.1 ha;cases aG.1 hb;cases aG.1 hc
 rfl
def HV: ∀{t:Tr} {A A2 G:Gh} {p:Option Addr} {ob wb:Nat} {lo lo2:Bool} {x:SV} {zs:List ND} {ns:List NQ} {B:List aj},Is A (eU t) (.pointer p)->t.all LB->[GL A G]->[GL A2 G]->gq 8 149 x (zs.map ND.val) B->fm (p8 96 A2) zs ns->zs.length+t.size<=1000000->
  gF prog 170 [.pointer p, .pointer (some ⟨ob,0,none⟩), .pointer (some ⟨wb,0,none⟩)] (⟨ob,[.int .i64 0, .slice x.a x.n x.c],32,lo⟩::⟨wb,[mp ob wb],274,lo2⟩::B) G
   (fun v own' G'=> ∃x' zs' B',v= .int .i64 (t.num zs.length)/\own'=⟨ob,[.int .i64 0, .slice x'.a x'.n x'.c],32,false⟩::⟨wb,[mp ob wb],274,false⟩::B'/\gq 8 149 x' (zs'.map ND.val) B'/\fm (p8 96 G') zs' (ns++t.wr zs.length))
 | .leaf bb,A,A2,G,p,ob,wb,lo,lo2,x,zs,ns,B,h,_,_,_,hB,hz,hle=>by
  obtain⟨n,m,e,hg,hm⟩:=nI.1 (id h)
  cases e
  cases QD hm
  have hG:rB A n _:=⟨hg⟩;have hz':fm (p8 96 G) zs (ns++[]):=by rw[iS];exact hz.imp fun _ _ h=>h.up
  refine gF.intro func170 J J ntmps170 J ?_;intro C _ _;show St C _ _ (⟨ob,[.int .i64 0, .slice x.a x.n x.c],32,false⟩::⟨wb,[mp ob wb],274,false⟩::asB B) _ _;refine sR<|sa J J<|zE<|bt<|sR<|sm J J<|?_;refine sc (zC J J (PF.fn0 rp (.cons (h.up GL.le) .nil)) J ?_);rintro _ G1 _ hv
  cases aG.1 hv
  refine zE<|od J<|?_;refine bt<|sR<|sm J J<|sn J J<|sf J J<|Ze J J J<|zE<|?_
  cases bb
  case true=>
   refine od J<|sR<|sa J J<|zE<|cG<|?_;exact Bx (.tmp J .nil) _ _ (List.Perm.refl _) (List.Sublist.refl _) ⟨x,zs,_,J,J,hB.asB,hz'.imp fun _ _ h=>h.up⟩
  refine tP J<|zK<|sR<|sa J J<|zE<|cG<|?_;exact Bx (.tmp J .nil) _ _ (List.Perm.refl _) (List.Sublist.refl _) ⟨x,zs,_,J,J,hB.asB,hz'.imp fun _ _ h=>h.up⟩
 | .node l s u,A,A2,G,p,ob,wb,lo,lo2,x,zs,ns,B,h,hall,_,_,hB,hz,hle=>by
  obtain⟨hlb,hall1,hall2⟩:=id hall;haveI:LB l:=hlb;obtain⟨n,m,e,hg,hm⟩:=nI.1 (id h)
  cases e
  obtain⟨n1,d1,p1,n2,d2,p2,n3,d3,p3,q,r,rfl,hzl,hs,hu⟩:=Ql hm;have hG:rB A n _:=⟨hg⟩;have hxn:=hB.len;have hzn:=hz.len;simp only[Tr.size] at hle;obtain⟨xa,xn,xc⟩:=x;rw[aJ] at hxn;simp only[] at hxn;subst hxn;refine gF.intro func170 J J ntmps170 J ?_;intro C _ _;show St C _ _ (⟨ob,[.int .i64 0, .slice xa zs.length xc],32,false⟩::⟨wb,[mp ob wb],274,false⟩::asB B) _ _;replace hB:=hB.asB;generalize asB B=B at hB;refine sR<|sa J J<|zE<|bt<|sR<|sm J J<|?_;refine sc (zC J J (PF.fn0 sv (.cons (h.up GL.le) .nil)) J ?_);rintro _ G1 _ hv
  cases aG.1 hv
  refine zE<|tP J<|?_;refine zK<|sR<|sf J J<|pc J J J<|cD J J<|sa J J<|zE<|bt<|?_;refine Ae [⟨ob,[.int .i64 0, .slice xa zs.length xc],32,false⟩] (fun i=>Nat.beq i 11) [(0,true),(1,true),(2,true),(3,true),(4,true),(5,true),(6,false),(7,true),(8,false),(9,false),(10,true),(11,false)] follows (by kernel_rfl)<|?_;refine dF J J J<|px J J J J<|dM J J J<|dy J (fun _=>jC J) J J<|?_;refine dF J J J<|dy J (fun _=>Hu J Cw J) J J<|?_;refine dc J J (zC J J (PF.fn0 (IW (l:=l)) (.cons (hzl.up GL.le) .nil)) J ?_);rintro _ G2 _ hv;obtain⟨ia,ib,ic,rfl,hia,hib,hic⟩:=QP hlb.bl hv;refine lH<|dy J (fun _=>EU J) J J<|?_;refine dc J J (Vc J (by rfl) (by rfl) (by decide) (by decide) J ?_);intro b3;refine lH<|?_;refine dc J J (TP (v:=ND.val ⟨ia,ib,ic,0,0⟩) (vs:=zs.map ND.val) [_,_,_] rfl hB J J (wZ inferInstance J) J (ND.flat [⟨ia,ib,ic,0,0⟩] _ aQ) (by decide) (by rw[aJ];omega) J J ?_);intro x1 B1 hB1;rw[show zs.map ND.val++[ND.val ⟨ia,ib,ic,0,0⟩]=(zs++[(⟨ia,ib,ic,0,0⟩:ND)]).map ND.val by simp] at hB1;show St C _ _ (⟨b3,_,_,true⟩::⟨ob,[.int .i64 0, .slice xa zs.length xc],32,false⟩::⟨wb,[mp ob wb],274,false⟩::B1) _ _;refine lH<|dF J J J<|?_;refine dc J J (q0 (cs':=[.int .i64 0, .slice x1.a x1.n x1.c]) J J J (.tl _ _ _ _ _ _ _ _ (.hd ..)) (nb J) J J ?_);refine WS J<|dn<|?_;refine JO _ (qM _ _) ?_;have hz1:fm (p8 96 G2) (zs++[(⟨ia,ib,ic,0,0⟩:ND)]) (ns++[⟨l,0,0⟩]):=(hz.imp fun _ _ h=>h.up).app (.cons ⟨hia,hib,hic,J,J⟩ .nil);refine bt<|Ae [⟨wb,[mp ob wb],274,false⟩] (fun _=>false) [(0,true),(1,true),(2,true),(3,true),(4,true),(5,false),(6,true)] follows (by kernel_rfl)<|?_
  refine px J J J J<|dM J J J<|dy J (fun _=>jC J) J J<|dF J J J<|dy J (fun _=>vd J Cw J) J J<|?_;refine dc J J (Gr (c1:=[]) (M:=_::_::B1) (rest:=[]) J J (by rw[iS]) (HV (lo:=false) (lo2:=false) hs hall1 hB1 hz1 (by simp;omega)) J ?_);rintro _ _ G3 fl _ hf _ ⟨x2,NP,B2,rfl,rfl,hB2,hz2⟩;have e1:fl ob=false:=hf _ aQ J;have e2:fl wb=false:=hf _ (aZ _ aQ) J;replace hB2:=hB2.relo fl;refine F3 (own':=⟨ob,[.int .i64 0, .slice x2.a x2.n x2.c],32,false⟩::⟨wb,[mp ob wb],274,false⟩::B2.map (relo fl)) (by simp only[bW,relo,e1,e2,iS]) ?_;generalize B2.map (relo fl)=B2 at hB2;have hl2:=hz2.len;simp only[aR,Tr.wr_len,mT] at hl2;refine lH<|dA J J J<|dn<|bt<|Ae [⟨wb,[mp ob wb],274,false⟩] (fun _=>false) [(0,true),(1,true),(2,true),(3,true),(4,true),(5,false),(6,true)] follows (by kernel_rfl)<|?_;refine px J J J J<|dM J J J<|dy J (fun _=>jC J) J J<|dF J J J<|dy J (fun _=>vd J Cw J) J J<|?_;refine dc J J (Gr (c1:=[]) (M:=_::_::B2) (rest:=[]) J J (by rw[iS]) (HV (lo:=false) (lo2:=false) hu hall2 hB2 hz2 (by omega)) J ?_);rintro _ _ G4 fl _ hf _ ⟨x3,vh,B3,rfl,rfl,hB3,hz3⟩;have e3:fl ob=false:=hf _ aQ J;have e4:fl wb=false:=hf _ (aZ _ aQ) J;replace hB3:=hB3.relo fl;refine F3 (own':=⟨ob,[.int .i64 0, .slice x3.a x3.n x3.c],32,false⟩::⟨wb,[mp ob wb],274,false⟩::B3.map (relo fl)) (by simp only[bW,relo,e3,e4,iS]) ?_;generalize B3.map (relo fl)=B3 at hB3;have hl3:=hz3.len;simp only[aR,Tr.wr_len,mT] at hl3;have hn3:zs.length<vh.length:=by omega
  rcases hB3 with⟨h1,_,_⟩|⟨nb,rest,lo3,hx3,rfl,hf1,hf2,hf3⟩
  ·have:=congrArg List.length h1;rw[aJ,jK] at this;omega
  obtain⟨x3a,x3n,x3c⟩:=x3;simp only[SV.mk.injEq] at hx3;obtain⟨rfl,rfl,_⟩:=hx3;rw[aJ] at hf3;have hzz:ns.length=zs.length:=hzn.symm;obtain⟨zn,hzn1,hzn2⟩:=hz3.get (i:=zs.length) (b:=⟨l,0,0⟩) (by rw[dQ,dQ,<-hzz,fV (aL _),qL];rfl);obtain⟨_,hzn3⟩:=aS.1 hzn1;have hL1:(zs++[(⟨ia,ib,ic,0,0⟩:ND)]).length=zs.length+1:=by simp
  have hL2:NP.length=zs.length+1+s.size:=by omega
  rw[hL1] at hz3;rw[hL1,hL2];rw[hL2] at hz3;refine lH<|dA J J J<|dn<|?_;refine bt<|Ae [⟨ob,[.int .i64 0, .slice (some ⟨nb,0,none⟩) (vh.map ND.val).length x3c],32,false⟩] (fun _=>false) [(0,true),(1,true),(2,true),(3,true),(4,true),(5,true),(6,true),(7,true),(8,true),(9,true),(10,false),(11,true),(12,true),(13,false)] follows (by kernel_rfl)<|?_;refine dF J J J<|px J J J J<|dM J J J<|dF J J J<|?_;refine px J J J J<|dM J J J<|dM J J J<|dM J J J<|dy J (fun _=>ew J J (by omega) (by rw[aJ];omega)) J J<|?_;refine dF J J J<|?_;refine dc J J (q9 J J (.tl _ _ _ _ _ _ _ _ (.tl _ _ _ _ _ _ _ _ (.hd ..))) (by rw[aR,hf1,aJ,aM];omega) J J ?_);rw[aM,I2 vh rest zs.length 6 _ {zn with l:=s.num (zs.length+1)} hn3 (by decide) (by rw[hzn3];rfl)];refine lH<|dy J (fun _=>ew J J (by omega) (by rw[aJ];omega)) J J<|dF J J J<|?_;refine dc J J (q9 J J (.tl _ _ _ _ _ _ _ _ (.tl _ _ _ _ _ _ _ _ (.hd ..))) (by rw[aR,d8 (s:=8) _ (ND.len8 _),aJ,aT,aM];omega) J J ?_);rw[aM,I2 (vh.set zs.length _) rest zs.length 7 _ {zn with l:=s.num (zs.length+1),r:=u.num (zs.length+1+s.size)} (by rw[aT];exact hn3) (by decide) (by rw[List.getElem_set_self];rfl)];refine lH<|dn<|sR<|sm J J<|sa J J<|zE<|cG<|?_;have hfin:=hz3.set (a:={zn with l:=s.num (zs.length+1),r:=u.num (zs.length+1+s.size)}) (b:=⟨l,s.num (zs.length+1),u.num (zs.length+1+s.size)⟩) ⟨hzn2.a,hzn2.b,hzn2.c,J,J⟩ zs.length;have hns:(ns++[(⟨l,0,0⟩:NQ)]++s.wr (zs.length+1)++u.wr (zs.length+1+s.size)).set zs.length ⟨l,s.num (zs.length+1),u.num (zs.length+1+s.size)⟩=ns++(Tr.node l s u).wr zs.length:=by
   rw[dQ,dQ,mY _ _ (by omega),hzz,qL];simp[Tr.wr]
  rw[hns] at hfin;refine Bx (.tmp J .nil) _ _ (List.Perm.refl _) (List.Sublist.refl _) ⟨⟨some ⟨nb,0,none⟩,(vh.map ND.val).length,x3c⟩,_,_,J,J,?_,hfin⟩;refine .inr ⟨nb,rest,lo3,by simp,by rw[List.set_set],?_,?_,?_⟩
  ·rw[d8 (s:=8) _ (ND.len8 _)]
  ·rw[d8 (s:=8) _ (ND.len8 _),aJ,aT];rw[hf1,aJ] at hf2;exact hf2
  ·rw[aJ,aT];exact hf3
def N2{t:Tr}(hb:t.all LB)(hs:t.size<=1000000):PF GB prog 78 [eU t] (eA t):=by
 intro G vs _ hv;obtain⟨v0,m,rfl,h,hm⟩:=ba.1 hv;rw[cA] at hm;subst hm;obtain⟨p,rfl⟩:=pC h;refine Fn.intro func78 J J ntmps78 J ?_;intro C _ hC;refine sR<|?_;refine sc (ta J ?_);intro b1;refine zE<|sR<|?_;refine sc (ta J ?_);intro b2;refine zE<|sR<|?_;refine sc (ta J ?_);intro b3;refine zE<|sR<|sy (zl J J) J<|?_;refine sc (q0 (cs':=[mp b2 b3]) J J J (.hd ..) (nb J) J J ?_);refine zE<|sR<|pc J J J<|sm J J<|?_;refine sc (Gr (c1:=[]) (M:=[⟨b2,[.int .i64 0, .slice none 0 0],32,true⟩,⟨b3,[mp b2 b3],274,true⟩]) (rest:=[⟨b1,[.int .i64 0, .slice none 0 0],32,true⟩]) J J (List.Perm.swap ..) (HV (A:=G) (A2:=G) (x:=⟨none,0,0⟩) (zs:=[]) (ns:=[]) (B:=[]) h hb (gq.nil ..) .nil (by simpa using hs)) J ?_);rintro _ _ G4 fl _ _ hf ⟨x,zs,B,rfl,rfl,hB,hz⟩;have e1:=hf (by simp) b2;have e2:=hf (by simp) b3;replace hB:=hB.relo fl;refine F3 (own':=⟨b2,[.int .i64 0, .slice x.a x.n x.c],32,true⟩::⟨b3,[mp b2 b3],274,true⟩::(B.map (relo fl)++[⟨b1,[.int .i64 0, .slice none 0 0],32,true⟩])) (by simp only[bW,relo,e1,e2,cV]) ?_;generalize B.map (relo fl)=B at hB;refine CM (⟨b2,[.int .i64 0, .slice x.a x.n x.c],32,true⟩::⟨b3,[mp b2 b3],274,true⟩::⟨b1,[.int .i64 0, .slice none 0 0],32,true⟩::B) ((lX (l₁:=B) (l₂:=[_])).cons _ |>.cons _) ?_;refine sf J J<|?_;refine sc (q0 (cs':=[.int .i64 (t.num 0), .slice x.a x.n x.c]) J J J (.hd ..) (nb J) J J ?_);refine zE<|sR<|Gb J J J<|?_;refine sc (zf (cs':=[.int .i64 (t.num 0), .slice x.a x.n x.c]) J J J (.tl _ _ _ _ _ _ _ _ (.tl _ _ _ _ _ _ _ _ (.hd ..))) J (nb J) J J ?_)
 refine zE<|?_;refine ZW (L:=[_,_,_]) hC hB (ND.len8 _) ?_;intro G5 _ hsl;show St C _ _ [⟨b2,_,_,true⟩,⟨b3,_,_,true⟩,⟨b1,[.int .i64 (t.num 0), .slice x.a x.n x.c],32,true⟩] _ _;refine cG<|?_;exact zD (.agg J ii ii J .nil) (QV (k:=96) ⟨zs,hsl,by rw[cK] at hz;exact hz.imp fun _ _ h=>h.up⟩)
def Tr.pre:Tr->List Tr
 | .leaf b=>[.leaf b]
 | .node l x y=> .node l x y::(x.pre++y.pre)
structure Vis (f:FuncId) (c2:List Value) (σ:Type) (step:σ->Tr->σ) (ok:σ->Tr->Prop) (Inv:σ->List aj->Gh->Prop):Prop where
 up: ∀{s B G G'},bz G G'->Inv s B G->Inv s B G'
 re: ∀{s B G} (fl:Nat->Bool),Inv s B G->Inv s (B.map (relo fl)) G
 go: ∀{s t p B G},ok s t->Inv s B G->Is G (eU t) (.pointer p)->gF prog f (.pointer p::c2) B G (fun _ B' G'=>Inv (step s t) B' G')
section
variable {P:Program} {C:aD} {n:Nat} {fr:Fr} {own:List aj} {G:Gh}
end
def OM{σ:Type}(step:σ->Tr->σ)(ok:σ->Tr->Prop):σ->List Tr->Prop
 |_,[]=>True
 |s,t::ts=>ok s t/\OM step ok (step s t) ts
structure EX (σ:Type) where
 ts:List Tr
 vs:List Value
 rest:List Value
 b:Nat
 cap:Nat
 lo:Bool
 s:σ
 B:List aj
def TH(t:Tr):Nat:=2*t.size+1
def M3(ts:List Tr):List Tr:=ts.reverse.flatMap Tr.pre
structure EI (A:Gh) {σ:Type} (step:σ->Tr->σ) (ok:σ->Tr->Prop) (Inv:σ->List aj->Gh->Prop) (N:Nat) (fin:σ) (x:EX σ) (G:Gh):Prop where
 rel:fm (fun v t=> ∃p,v= .pointer p/\Is A (eU t) (.pointer p)) x.vs x.ts
 cap:x.vs.length+x.rest.length=x.cap
 inv:Inv x.s x.B G
 mu:(x.ts.map TH).sum<=N
 okf:OM step ok x.s (M3 x.ts)
 fin:(M3 x.ts).foldl step x.s=fin
def szI(nbk:Nat)(s:Nat)(B:List aj)(_:Gh):Prop:= ∃lo,B=[⟨nbk,[.int .i64 s],3,lo⟩]
def szS(s:Nat):Tr->Nat
 | .leaf _=>s
 | .node .. =>s+1
def s8(n:Nat)(f:Nat->Bool):Nat:=((List.range n).filter fun j=>!f j).length
def SM{n k:Nat}{f:Nat->Bool}(hk:k<n)(hf:f k=false):s8 n (kb f k)+1=s8 n f:=by
 unfold s8;have key: ∀l:List Nat,l.Nodup->((l.filter fun j=>!kb f k j).length+(if k∈l then 1 else 0)=(l.filter fun j=>!f j).length):=fun l=>by
  induction l with
  |nil=>intro _;rfl
  |cons a l ih=>
   intro hn;obtain⟨h1,h2⟩:=List.nodup_cons.1 hn;have:=ih h2;by_cases e:a=k
   ·subst e
    simp only[mQ,Mw,hf,aW,true_or,if_true] at this⊢;rw[if_neg h1] at this;simp at this⊢;omega
   ·have e': ¬k=a:=fun h=>e h.symm
    simp only[mQ,Aw e,aW,e',false_or] at this⊢
    cases f a<;>simp at this⊢ <;>omega
 have:=key (List.range n) List.nodup_range;rwa [if_pos (qN.2 hk)] at this
def rm(ns:List RN):Nat->Int->RS->Tr×RS
 |0,_,s=>(.leaf false,s)
 |m+1,rt,s=>
  if rt= -1 then(.leaf false,s) else if rt= -2 then(.leaf true,s) else
  match ns[rt.toNat]? with
  |none=>(.leaf false,⟨s.f,s.c,true⟩)
  |some n=>if rt<0\/s.f rt.toNat=true then(.leaf false,⟨s.f,s.c,true⟩) else
   match n.g.ln with
   |none=>(.leaf false,⟨kb s.f rt.toNat,s.c+1,true⟩)
   |some l=>let a:=rm ns m n.l ⟨kb s.f rt.toNat,s.c+1,s.b⟩;let b:=rm ns m n.r a.2;(.node l a.1 b.1,b.2)
def x5{ns:List RN}: ∀{m:Nat} {rt:Int} {s:RS},s8 ns.length s.f<m->RR ns rt s (rm ns m rt s).1 (rm ns m rt s).2/\(rm ns m rt s).2.c+s8 ns.length (rm ns m rt s).2.f=s.c+s8 ns.length s.f
 |0,_,_,h=>absurd h (Nat.not_lt_zero _)
 |m+1,rt,s,h=>by
  rw[rm];split
  ·rename_i e;subst e;exact⟨.leaf false s,rfl⟩
  rename_i e1;split
  ·rename_i e;subst e;exact⟨.leaf true s,rfl⟩
  rename_i e2;split
  ·rename_i hn
   have:=List.getElem?_eq_none_iff.1 hn;exact⟨.bad rt s e1 e2 (by omega),J⟩
  rename_i n hn;have hlt:=(aS.1 hn).1;split
  ·rename_i hb
   refine⟨.bad rt s e1 e2 ?_,J⟩;rcases hb with hb|hb
   ·exact .inl hb
   ·by_cases h0:rt<0
    ·exact .inl h0
    ·exact .inr (.inr ⟨rt.toNat,by omega,hlt,hb⟩)
  rename_i hb;obtain⟨k,rfl⟩: ∃k:Nat,rt=k:=⟨rt.toNat,by omega⟩;rw[aM] at hn hlt hb⊢;have hf:s.f k=false:=by
   cases hh:s.f k with
   |false=>rfl
   |true=>exact absurd (Or.inr hh) hb
  have hu:=SM hlt hf;split
  ·rename_i hl;exact⟨.line k n s hn hf hl,by simp only;omega⟩
  rename_i l hl;have h1:=x5 (ns:=ns) (m:=m) (rt:=n.l) (s:=⟨kb s.f k,s.c+1,s.b⟩) (by simp only;omega);have hc:=h1.1.mono;simp only at h1 hc;have h2:=x5 (ns:=ns) (m:=m) (rt:=n.r) (s:=(rm ns m n.l ⟨kb s.f k,s.c+1,s.b⟩).2) (by omega);exact⟨.node k n l s _ _ _ _ hn hf hl h1.1 h2.1,by have:=h1.2;have:=h2.2;dsimp only;omega⟩
def lI(ns:List RN)(rt:Int):Option Tr:=
 let r:=rm ns (ns.length+1) rt me
 if r.2.b=false/\r.2.c=ns.length then some r.1 else none
def US:Option Tr->DV
 |some t=> .tp [eU t,vB true]
 |none=> .tp [.v (.pointer none),vB false]
def Dg(n:Nat)(f:Nat->Bool):s8 n f<=n:=by
 unfold s8;refine dW (rW _ _) ?_;rw[rX];exact aL _
def Nc{ns:List RN}{rt:Int}(hs: ∀n∈ns,n.g.sm)(hn:ns.length<=65536):PF GB prog 129 [qu rt ns] (US (lI ns rt)):=by
 have h:=x5 (ns:=ns) (m:=ns.length+1) (rt:=rt) (s:=me) (by have:=Dg ns.length me.f;omega);have hu:=Dg ns.length me.f;have h0:me.c=0:=J;have h2:=QT (GB:=GB) hs hn h.1 (by have:=h.2;omega);unfold z' at h2;unfold lI;simp only;split
 ·rename_i e;rw[if_pos e] at h2;exact h2
 ·rename_i e;rw[if_neg e] at h2;exact h2
def RL.ln_some{r:RL}{l:aa}(h:r.ln=some l):r.nm/\l.ok/\r.l=l:=by
 unfold RL.ln at h;split at h
 ·rename_i e;cases h;exact⟨e.1,e.2,rfl⟩
 ·cases h
def RR.good{ns:List RN}(hs: ∀n∈ns,n.g.sm){rt:Int}{s s':RS}{t:Tr}(h:RR ns rt s t s'):t.all LB/\t.all aa.ok/\(s'.b=false->s.b=false/\s'.c=s.c+t.size):=by
 induction h with
 |leaf=>exact⟨trivial,trivial,fun h=>⟨h,J⟩⟩
 |bad=>exact⟨trivial,trivial,fun h=>by cases h⟩
 |line=>exact⟨trivial,trivial,fun h=>by cases h⟩
 |node k n l s s2 s3 x y h hf hl h1 h2 i1 i2=>
  obtain⟨_,h3,rfl⟩:=RL.ln_some hl;refine⟨⟨RL.lb (hs n (bZ h)),i1.1,i2.1⟩,⟨h3,i1.2.1,i2.2.1⟩,fun hb=>?_⟩;obtain⟨e1,e2⟩:=i2.2.2 hb;obtain⟨e3,e4⟩:=i1.2.2 e1;simp only[Tr.size] at e3 e4⊢;exact⟨e3,by omega⟩
def ZT{ns:List RN}{rt:Int}{t:Tr}(hs: ∀n∈ns,n.g.sm)(h:lI ns rt=some t):t.all LB/\t.all aa.ok/\t.size=ns.length:=by
 have hr:=x5 (ns:=ns) (m:=ns.length+1) (rt:=rt) (s:=me) (by have:=Dg ns.length me.f;omega);have hg:=hr.1.good hs;unfold lI at h;simp only at h;split at h
 ·rename_i e
  cases h
  refine⟨hg.1,hg.2.1,?_⟩;have:=(hg.2.2 e.1).2;have h0:me.c=0:=J;omega
 ·cases h
end Go.Sx
end
section
namespace Go.Sx
open Go Go.Proofs Go.RowKit Go.Extern.Stop Go.Stop Go.Extern
def aF8:TypeId->Sem Value:=fun t=>do Go.Extern.Rtype.noPackHeld "Comparable" t;pure (.bool (<-typeInfo t).comparable)
def yi(a:Addr):DV:= .v (.iface 499 (.pointer (some a)))
end Go.Sx
end
section
namespace Go.Sx
open Go Go.Proofs Tryz
structure EG (GB:Gh) (ai al ae:Addr):Prop where
 ErrInvalid:GB 0=some [.iface 499 (.pointer (some ai))]
 ErrLimit:GB 1=some [.iface 499 (.pointer (some al))]
structure EGE (GB:Gh) (ai al ae:Addr):Prop extends EG GB ai al ae where
 ErrEmpty:GB 4=some [.iface 499 (.pointer (some ae))]
structure Tr.gd (t:Tr):Prop where
 lb:t.all LB
 ok:t.all aa.ok
def Tr.depth_size: ∀t:Tr,t.depth<=t.size
 | .leaf _=>aL _
 | .node l x y=>by
  have h1:=x.depth_size;have h2:=y.depth_size;simp only[Tr.depth,Tr.size];omega
def O6(op:Int)(a b:Tr):Option Tr:=if 1024<a.depth+b.depth then none else if 65536<(a.mergeQ op b []).size then none else some (a.mergeQ op b [])
def aFU(al:Addr):Option Tr->DV
 |some t=> .tp [eU t, .v .nilIface]
 |none=> .tp [.v (.pointer none),yi al]
def Mk(op:Int):Tr->List Tr->Option Tr
 |t,[]=>some t
 |t,u::us=>match O6 op t u with
  |none=>none
  |some r=>Mk op r us
def P'{t:Tr}(h:t.gd)(c:aF):(t.restrict c).gd:=⟨t.restrict_all LB c h.lb,t.restrict_all aa.ok c h.ok⟩
def R3{GB:Gh}{ns:List RN}{rt:Int}{t:Tr}(hs: ∀n∈ns,n.g.sm)(hn:ns.length<=65536)(h:lI ns rt=some t):PF GB prog 129 [qu rt ns] (.tp [eU t,vB true]):=by
 have:=Nc (GB:=GB) (rt:=rt) hs hn;rw[h] at this;exact this
def XW{GB:Gh}{ns:List RN}{rt:Int}(hs: ∀n∈ns,n.g.sm)(hn:ns.length<=65536)(h:lI ns rt=none):PF GB prog 129 [qu rt ns] (.tp [.v (.pointer none),vB false]):=by
 have:=Nc (GB:=GB) (rt:=rt) hs hn;rw[h] at this;exact this
def FF:DV:= .ag [vI 0, .sl []]
def aGx:Tr ⊕ Addr->DV
 | .inl t=> .tp [eA t, .v .nilIface]
 | .inr e=> .tp [FF,yi e]
def aFb(ai:Addr):Option Tr->Tr ⊕ Addr
 |some t=> .inl t.compl
 |none=> .inr ai
def Lx(al:Addr):Option Tr->Tr ⊕ Addr
 |some t=> .inl t
 |none=> .inr al
def aEo(ai al:Addr)(op:Int):Option Tr->Option Tr->Tr ⊕ Addr
 |some a,some b=>if 1<=op/\op<=4 then Lx al (O6 op a b) else .inr ai
 |_,_=> .inr ai
def Xw{ns:List RN}{rt:Int}{t:Tr}(hs: ∀n∈ns,n.g.sm)(hn:ns.length<=65536)(h:lI ns rt=some t):t.gd/\t.size<=65536:=by
 obtain⟨h1,h2,h3⟩:=ZT hs h;exact⟨⟨h1,h2⟩,by omega⟩
abbrev py:=Int×List RN
def py.d(x:py):DV:=qu x.1 x.2
def py.q(x:py):Option Tr:=lI x.2 x.1
def TX:Option Tr->DV
 |some t=>eU t
 |none=> .v (.pointer none)
def Qd(op:Int)(ts:List py):Bool:=decide (1<=op/\op<=4)&&ts.all fun x=>x.q.isSome
def aGH(ai al ae:Addr)(op:Int)(ts:List py):Tr ⊕ Addr:=
 if Qd op ts then(match ts.filterMap py.q with
  |[]=> .inr ae
  |a::us=>if 1024<a.depth then .inr al else Lx al (Mk op (a.restrict []) us)) else .inr ai
def aGh(ts:List py):List DV:=ts.map fun x=>TX x.q
structure py.ok (x:py):Prop where
 s: ∀n∈x.2,n.g.sm
 n:x.2.length<=65536
end Go.Sx
end
