import Derived.Test.YtmdgdhokaffbkaaGreatDoorMu11
import Derived.WalkKit
import Derived.LaidEql
import Derived.Stop.Asserts
import Derived.RowKitTokens
set_option linter.all false
set_option maxHeartbeats 2000000
set_option maxRecDepth 100000
section
namespace Go.Sx
open Go Go.Proofs Tryz
variable {GB G:Gh}{α σ:Type}{m vcs c2 r2:List Value}{i k bv j n:Nat}{P:Program}{f:FuncId}{M:List av}{K K':Value->List av->Gh->Prop}{ds:List DV}{x y u t:Tr}{p:Nat->Bool}{l1:aa}{op:Int}{C:aE}{fr:Fr}
def cI(f:bt):DV:= .ag [vI (di (f.l.a:Rat)),vI (dh (f.l.a:Rat)),c9 (f.l.a:Rat),vI (di (f.l.b:Rat)),vI (dh (f.l.b:Rat)),c9 (f.l.b:Rat),vI (di (f.l.c:Rat)),vI (dh (f.l.c:Rat)),c9 (f.l.c:Rat),vI (di f.v.lo),vI (dh f.v.lo),c9 f.v.lo,vI (di f.v.hi),vI (dh f.v.hi),c9 f.v.hi, .v (.bool f.v.nl), .v (.bool f.v.nh)]
structure sF (v:ao):Prop where
 z:gA v
 lo:BQ v.lo 1200
 hi:BQ v.hi 1200
structure Qs (s:bt):Prop where
 lb:LB s.l
 ok:s.l.ok
 v:sF s.v
abbrev dP (c:ar):Prop:= ∀s∈c,Qs s
def r7(f:α->DV)(l:List α):(l.map f).length=l.length:=by simp
def sF.all:sF ao.all:=⟨⟨fun _=>J,fun _=>J⟩,BQ.z1.mono (by decide),BQ.z1.mono (by decide)⟩
def sF.cut{l m:aa}{v:ao}[LB l][LB m](hn:l.Ne)(h:sF v):sF (l.cutV v m):=by
 by_cases h0:crossI l m=0
 .rw[(AQ (v:=v) h0).1];exact h
 .obtain⟨u1,_,u3,u4,u5⟩:=GO (v:=v) hn h.z h.lo h.hi h0
  rw[u1];exact⟨u3,u4,u5⟩
def Ia(o:Option ao):ao:=o.getD ⟨0,0,false,false⟩
def aD7(G:Gh)(y:Value)(k:Is G (.tp [.ag [vI 0,vI 0, .v (.pointer none),vI 0,vI 0, .v (.pointer none), .v (.bool false), .v (.bool false)], .v (.bool false)]) y):Is G (.tp [eW (Ia none),vB false]) y:=by
 obtain⟨m,rfl,g⟩:=lj.1 k;exact lj.2 ⟨m,J,Ph (fun y hy=>by
  obtain⟨l,rfl,g⟩:=d9.1 hy;exact d9.2 ⟨l,J,Ec (Ip [vI 0,vI 0, .v (.pointer none)] g)⟩) g⟩
def cO{f:α->DV}{l:List α}{s:α}(h:l[i]? =some s):(l.map f)[(i:Int).toNat]? =some (f s):=by simp[h]
def Dh{l:List α}{s:α}(h:l[k]? =some s):l.drop k=s::l.drop (k+1):=by
 obtain⟨h1,h2⟩:=aT.1 h;rw[bK h1,h2]
def Ml{l:aa}{c:ar}{v:ao}{s:bt}(h:c[k]? =some s):mA l (c.drop k) v=if l.cutB v s.l then mA l (c.drop (k+1)) (l.cutV v s.l) else none:=by
 rw[Dh h];rfl
def Jz{l:aa}{c:ar}{s:bt}(h:c[k]? =some s):nq l (c.drop k)=if nF l s≠0 then nF l s else if s.l=l then 1 else nq l (c.drop (k+1)):=by
 rw[Dh h];rfl
instance BQ.sample (v:ao) [h1:BQ v.lo 1200] [h2:BQ v.hi 1200]:BQ v.sample 2500:=by
 unfold ao.sample;split
 .exact BQ.mono (k:=1) ⟨by decide,by decide⟩
 .split
  .exact BQ.mono (inferInstance:BQ (v.hi-((1:Int):Rat)) _)
  .split
   .exact BQ.mono (inferInstance:BQ (v.lo+((1:Int):Rat)) _)
   .exact BQ.mono (inferInstance:BQ ((v.lo+v.hi)*mkRat 1 2) _)
def OF{c:ar}{l:aa}[hl:LB l](hlo:l.ok)(hc:dP c)(hn:c.length<=1000000):PF GB prog 305 [.sl (c.map cI),cB l] (.tp [eW (Ia (jC c l)),vB (jC c l).isSome]):=by
 have hm:=r7 cI c;refine fn func305 J J ntmps305 J J (fun C=>?_);refine cl (fu:=⟨10⟩) J W3 J<|aj 12 (.d (vI (c.length:Nat))) J (by rw[r7]<;>rfl)<|gx J<|lp (X:=ao×Nat) (fun⟨v,k⟩=>[(13, .d (vI (k:Nat))),(6, .ov 6 0)]) (fun⟨v,k⟩=>[(6,some (.o 328 [.d (vI (di v.lo)), .d (vI (dh v.lo)), .d (c9 v.lo), .d (vI (di v.hi)), .d (vI (dh v.hi)), .d (c9 v.hi), .d (.v (.bool v.nl)), .d (.v (.bool v.nh))] true))]) (fun⟨v,k⟩=>k<=c.length/\sF v/\mA l (c.drop k) v=jC c l) (fun⟨v,k⟩=>c.length-k) (ao.all,0) J ⟨bJ _, .all,J⟩ (fun _=>J) (fun⟨v,k⟩ hk=>?_);dsimp only at hk⊢;obtain⟨h1,h2,h3⟩:=hk;haveI:=h2.lo;haveI:=h2.hi;refine br J J J (fun hc14=>?_) (fun hc14=>?_)
 .
  obtain⟨s,hs0⟩: ∃s,c[k]? =some s:=⟨_,aZ (by omega)⟩;have hs:=hc s (aV hs0);haveI:=hs.lb;refine ix _ J (cO hs0) J<|cl (fu:=⟨0⟩) J (NX (l:=l) (m:=s.l) (v:=v)) J<|?_;generalize hw:l.cutV v s.l=w;generalize hb:l.cutB v s.l=b;refine gx J<|bb J J J (fun hc26=>?_) (fun hc26=>?_)
  .
   exact jh J (by rw[<-h3,Ml hs0,hb,if_neg (by simpa using hc26)];exact aD7)
  .
   exact at_ (w,k+1) (by dsimp only;exact⟨⟨by omega,hw▸h2.cut hlo.1,by rw[<-h3,Ml hs0,hb,hw,if_pos (by simpa using hc26)]⟩,(by omega)⟩)
 .
  exact rz J (by rw[<-h3,iM (by omega)];rfl)
def WG{c:ar}{l:aa}[hl:LB l](hlo:l.ok)(hc:dP c)(hn:c.length<=1000000):PF GB prog 306 [.sl (c.map cI),cB l] (vI (vr c l)):=by
 have hm:=r7 cI c;refine fn func306 J J ntmps306 J J (fun C=>?_);refine cl J (OF (c:=c) (l:=l) hlo hc hn) J<|bb (fu2:=⟨7⟩) J J J (fun hc16=>?_) (fun hc16=>?_)
 .
  exact rz J (by unfold vr;rw[if_pos hc16];rfl)
 .
  have hp:vr c l=nq l c:=by unfold vr;rw[if_neg (by simp[hc16])]
  refine aj 18 (.d (vI (c.length:Nat))) J (by rw[r7]<;>rfl)<|gx J<|lp (X:=Nat) (fun k=>[(19, .d (vI (k:Nat)))]) (fun k=>[]) (fun k=>k<=c.length/\nq l (c.drop k)=nq l c) (fun k=>c.length-k) 0 J ⟨bJ _,J⟩ (fun _=>J) (fun k hk=>?_);obtain⟨h1,h2⟩:=hk;refine br J J J (fun hc20=>?_) (fun hc20=>?_)
  .
   obtain⟨s,hs0⟩: ∃s,c[k]? =some s:=⟨_,aZ (by omega)⟩;have hs:=hc s (aV hs0);haveI:=hs.lb;haveI:=hs.v.lo;haveI:=hs.v.hi;haveI:=BQ.sample s.v;refine ix _ J (cO hs0) J<|cl (fu:=⟨0⟩) J (ML (v:=s.v)) J<|?_;generalize ht:s.v.sample=t at*;refine gx J<|cl J (MJ (l:=s.l) (t:=t)) J<|cl J (Z' (l:=l) (p:=s.l.at t)) J<|br J J J (fun hc32=>?_) (fun hc32=>?_)
   .
    have hsd:nF l s=(l.value (s.l.at t)).num.sign:=by unfold nF;rw[ht]
    exact rz J (by rw[hp,<-h2,Jz hs0,hsd,if_pos hc32];rfl)
   .
    refine cl J (Wj (l:=s.l) (m:=l)) J<|bd J J J (fun hc37=>?_) (fun hc37=>?_)
    .
     have hsd:nF l s=(l.value (s.l.at t)).num.sign:=by unfold nF;rw[ht]
     exact rz J (by rw[hp,<-h2,Jz hs0,hsd,if_neg hc32,if_pos hc37];rfl)
    .
     have hsd:nF l s=(l.value (s.l.at t)).num.sign:=by unfold nF;rw[ht]
     exact at_ (k+1) ⟨⟨by omega,by rw[<-h2,Jz hs0,hsd,if_neg hc32,if_neg hc37]⟩,(by omega)⟩
  .
   exact rz J (by rw[hp,<-h2,iM (by omega)];rfl)
def anE{vs rest:List Value}(h: ∀v∈vs,(aF v).length=17)(hi:i<=vs.length):co (aD vs++rest) (i*17) ((vs.length-i)*17)=some (aD (vs.drop i)):=by
 have hl:=ek vs h;have hd:(aD (vs.drop i)).length=(vs.length-i)*17:=by
  rw[ek (s:=17) _ (fun v hv=>h v (gU hv)),gK]
 rw[k9 _ _ _ (by simp only[aY];omega)];congr 1;rw[kM (by omega),EK vs i h hi,gQ (by omega),cZ (by omega)]
def XQ{vs rest:List Value}(h: ∀v∈vs,(aF v).length=17)(hv:vcs.length=17)(hi:i<vs.length)(hr:17<=rest.length):
  cp (cp (aD vs++rest) ((i+1)*17) (aD (vs.drop i))) (i*17) vcs=aD (vs.take i)++vcs++aD (vs.drop i)++rest.drop 17:=by
 have hl:=ek vs h;have hd:(aD (vs.drop i)).length=(vs.length-i)*17:=by
  rw[ek (s:=17) _ (fun v hv=>h v (gU hv)),gK]
 have ht:(aD (vs.take i)).length=i*17:=by
  rw[ek (s:=17) _ (fun v hv=>h v (eM hv)),bL,jM (by omega)]
 rw[py (aD (vs.drop i)) (aD vs++rest) _ (by rw[aY];omega)];rw[py vcs _ _ (by simp only[aY,bL,gK];omega)];have e1:(aD vs++rest).drop ((i+1)*17+(aD (vs.drop i)).length)=rest.drop 17:=by
  rw[hd,show(i+1)*17+(vs.length-i)*17=(aD vs).length+17 by omega,mS,iS (by omega),jL];congr 1;omega
 have e2:((aD vs++rest).take ((i+1)*17)++aD (vs.drop i)++rest.drop 17).take (i*17)=aD (vs.take i):=by
  rw[dX,gQ (by simp only[bL,aY];omega),List.take_take,jM (by omega),gQ (by omega),HR vs i h (by omega)]
 have e3:((aD vs++rest).take ((i+1)*17)++aD (vs.drop i)++rest.drop 17).drop (i*17+vcs.length)=aD (vs.drop i)++rest.drop 17:=by
  rw[hv,dX,show i*17+17=((aD vs++rest).take ((i+1)*17)).length by simp only[bL,aY];omega,List.drop_left]
 rw[e1,e2,e3];simp[dX]
def WK{vs rest:List Value}(h: ∀v∈vs,(aF v).length=17)(hv:vcs.length=17)(hr:17<=rest.length):cp (aD vs++rest) (vs.length*17) vcs=aD vs++vcs++rest.drop 17:=by
 have hl:=ek vs h;rw[py _ _ _ (by simp only[aY];omega),hv,<-hl,List.take_left,mS];simp
def amj{b cap c2:Nat}{vs rest:List Value}{lo lo2:Bool}(hvs: ∀v∈vs,(aF v).length=17)(hfl: ∀v∈vs,∀c∈aF v,flat c=true)(hv:vcs.length=17)(hvf: ∀c∈vcs,flat c=true)
  (hcap:vs.length*17+rest.length=cap*17)(hroom:vs.length+1<=cap)(hi:i<=vs.length)(hb:vs.length<=1125899906842624):
  jI prog 310 [.slice (some ⟨b,0,none⟩) vs.length cap, .int .i64 i, .slice (some ⟨bv,0,none⟩) 1 c2] [⟨b,aD vs++rest,330,lo⟩,⟨bv,vcs++r2,330,lo2⟩] G
   (fun u css _=>u= .slice (some ⟨b,0,none⟩) (vs.length+1) cap/\css=[aD (vs.take i)++vcs++aD (vs.drop i)++rest.drop 17,vcs++r2]):=by
 have hL:(aD vs++rest).length=cap*17:=by rw[aY,ek vs hvs];exact hcap
 have hr:17<=rest.length:=by omega
 have hD:(aD (vs.drop i)).length=(vs.length-i)*17:=by
  rw[ek (s:=17) _ (fun v hv=>hvs v (gU hv)),gK]
 have hDf: ∀c∈aD (vs.drop i),flat c=true:=fun c hc=>by
  obtain⟨l,hl,hcl⟩:=List.mem_flatten.1 hc;obtain⟨v,hv,rfl⟩:=aR.1 hl;exact hfl v (gU hv) c hcl
 have hvt:co (vcs++r2) 0 (1*17)=some vcs:=by rw[k9 _ _ _ (by rw[aY];omega),iQ,gQ (by omega),cZ (by omega)]
 refine jI.intro func310 J J ntmps310 J ?_;intro C _ _;show St C _ _ [⟨b,aD vs++rest,330,false⟩,⟨bv,vcs++r2,330,false⟩] _ _;refine S5 (fun hne=>?_);simp only[] at hne;refine sR<|sa J J<|zE<|sR<|sm J J<|sm J J<|sy (Fv J J) J<|zE<|sR<|?_;refine sm J J<|rF J J<|sa J J<|zE<|eE<|sR<|sm J J<|sy (ly J J) J<|zE<|qD J<|?_;refine zK<|sR<|sm J J<|rF J J<|sa J J<|zE<|eE<|sR<|sm J J<|sm J J<|sy (ly J J) J<|zE<|?_;refine uB J (fun hc=>?_) (fun hc=>?_) -- slot 22
 .have hin:i=vs.length:=by omega
  subst hin;refine sR<|sm J J<|sm J J<|?_;refine sc (KP (s:=17) (m:=1) (ys:=vcs) J J (.hd ..) hL (xy inferInstance hvt) (by omega) hvf hroom J ?_);refine sa J J<|zE<|kD<|?_;refine rO (css:=[cp (aD vs++rest) (vs.length*17) vcs,vcs++r2]) (.tmp J .nil) J _ (List.Perm.refl _) (List.Sublist.refl _) ⟨J,?_⟩;rw[WK hvs hv hr,dQ,gV];simp[aD]
 have hin:i<vs.length:=by omega
 have hn1:((vs.length:Int)+((1:Nat):Int)).toNat=vs.length+1:=by omega
 have ht1:((i:Int)+((1:Nat):Int)).toNat=i+1:=by omega
 refine zK<|eE<|sR<|sm J J<|sm J J<|sy (u9 J J) J<|sm J J<|?_;refine sy (aEL J) J<|sy (Bs J J) J<|zE<|?_;refine uB J (fun hc2=>?_) (fun hc2=>?_) -- slot 31
 .exact absurd hc2 (by omega)
 refine zK<|sR<|sm J J<|sm J J<|sm J J<|sy (u9 J J) J<|sy (EN J J) J<|?_;rw[hn1];refine sa J J<|zE<|eE<|sR<|sm J J<|sm J J<|sm J J<|sm J J<|sy (u9 J J) J<|sy (B5 J J) J<|?_;refine sy (Sk (tS:=253) (tR:=4) func329 (by kernel_rfl) (by kernel_rfl) (by kernel_rfl) (by kernel_rfl) J J (Ne.symm hne) (fun h=>by rw[h] at hL;simp at hL;omega)) J<|?_;refine sy (r4 J) J<|zE<|sC J<|?_;refine eE<|Yh (b:=b) (fun _=>false) [(0,true),(1,true),(2,true),(3,true),(4,true),(5,true),(6,true),(7,true),(8,false)] follows (.hd ..) (by kernel_rfl)<|dM J J J<|?_;refine dM J J J<|dM J J J<|dy J (fun _=>u9 J J (by omega) (by omega)) J J<|dy J (fun _=>B5 J J) J J<|?_;refine dM J J J<|dM J J J<|dy J (fun _=>B5 J J) J J<|?_;rw[ht1,cK,eX,eX];refine dc J J (KG (s:=17) (m:=vs.length-i) (ys:=aD (vs.drop i)) J J (by show min _ _=_;omega) (xy inferInstance (anE hvs hi)) hDf (by rw[hD,hL];omega) (.hd ..) J ?_);refine ln<|dn<|sR<|sm J J<|sm J J<|sy (B5 J J) J<|sm J J<|?_;rw[cK,eX];refine sc (KG (s:=17) (m:=1) (ys:=vcs) J J (by show min _ _=_;omega) (xy inferInstance hvt) hvf (by rw[Bv,hL,hv];omega) (.hd ..) J ?_);refine zE<|sR<|sm J J<|sa J J<|zE<|kD<|?_;refine rO (css:=[cp (cp (aD vs++rest) ((i+1)*17) (aD (vs.drop i))) (i*17) vcs,vcs++r2]) (.tmp J .nil) J _ (List.Perm.refl _) (List.Sublist.refl _) ⟨J,?_⟩;rw[XQ hvs hv hin hr]
def jI.toO{vs:List Value}{K:Value->List (List Value)->Gh->Prop}(h:jI P f vs M G K)(hk: ∀v css G',bH G G'->css.length=M.length->K v css G'-> ∃o,o.Sublist (kr (asB M) css)/\K' v o G'):gG P f vs M G K':=
 ⟨h.able,fun w hw=>(h.run w hw).mono fun _ _ ⟨v,css,G',he,hl,hh,hK⟩=>let⟨o,h1,h2⟩:=hk v css G' hh.gle hl hK;⟨v,o,G',he,hh.drop h1,h2⟩⟩
def Nk(c:ar):cA 17 (c.map cI):=fun d hd=>by
 obtain⟨f,_,rfl⟩:=aR.1 hd;exact⟨rfl,rfl⟩
def Oa{s:Nat}{vs:List Value}(hk:cA s ds)(h:IsLs G ds vs): ∀v∈vs,∀c∈aF v,flat c=true:=fun v hv=>by
 obtain⟨d,hd,h3⟩:=h.all v hv;exact(h3.cells (hk d hd).1).2
def ayq{c:ar}{x:bt}{cap:Nat}(hi:i<=c.length)(hc:c.length+1<=cap)(hn:c.length<=1000000):PI GB prog 310 (i:Nat) 17 330 330 (c.map cI) (cI x) cap ((c.take i++x::c.drop i).map cI):=by
 intro G w w2 B B2 _ hB hcap hB2;obtain⟨vs,q1,q2,q3,_⟩:=hB;obtain⟨us,u1,u2,u3,_⟩:=hB2;dsimp only at q1 q2 q3 u1 u2 u3;have hl:=q2.len;rw[aX] at hl;obtain⟨v,m,rfl,hv,hm⟩:=bi.1 u2
 cases d8.1 hm
 rcases q1 with⟨_,e,_⟩|⟨b,rest,lo,e,rfl,h5,h6,h7⟩
 .rw[e] at hcap;simp at hcap;omega
 rcases u1 with⟨h,_⟩|⟨bv,r2,lo2,e2,rfl,h8,h9,h10⟩
 .cases h
 have hx:(aF v).length=17:=u3 v aQ;have hxf:=Oa (s:=17) (ds:=[cI x]) (fun d hd=>by rw[aU.1 hd];exact⟨J,J⟩) u2 v aQ;have key:=amj (G:=G) (b:=b) (bv:=bv) (cap:=w.c) (i:=i) (c2:=w2.c) (vs:=vs) (rest:=rest) (vcs:=aF v) (r2:=r2) (lo:=lo) (lo2:=lo2) q3 (Oa (Nk c) q2) hx hxf (by rw[<-h5];exact h6) (by omega) (by omega) (by omega);rw[e,e2];rw[vP];refine key.toO fun u css G' hg hl2 ⟨k1,k2⟩=>?_;subst k1 k2;have hall: ∀u∈vs.take i++v::vs.drop i,(aF u).length=17:=fun u hu=>by
  rcases aM.1 hu with hu|hu
  .exact q3 u (eM hu)
  .rcases aK.1 hu with rfl|hu
   .exact hx
   .exact q3 u (gU hu)
 have hlen:(vs.take i++v::vs.drop i).length=vs.length+1:=by
  rw[aY,bQ,bL,gK];omega
 refine⟨[⟨b,aD (vs.take i)++aF v++aD (vs.drop i)++rest.drop 17,330,false⟩], .cons_cons _ (jK _),⟨some ⟨b,0,none⟩,vs.length+1,w.c⟩,J,vs.take i++v::vs.drop i, .inr ⟨b,rest.drop 17,false,by rw[hlen],?_,ek _ hall,?_,?_⟩,?_,hall,fun h=>by cases h⟩
 .rw[ni];simp[aD]
 .rw[ek _ hall,hlen,gK]
  rw[h5] at h6;have:=bT 17 (show vs.length+1<=w.c by omega);simp only[dV] at this⊢;omega
 .rw[hlen];show vs.length+1<=w.c;omega
 .rw[bX,bY,iW,iR]
  exact((q2.take i).up hg).app (.cons (hv.up hg) ((q2.drop i).up hg))
def Pb{s:bt}{l:aa}[hs:LB s.l][hl:LB l]:PF GB prog 309 [cI s,cB l] (vI (fG s.l.dir l.dir)):=by
 refine fn func309 J J ntmps309 J J (fun C=>?_);refine cl J (vV (l:=s.l)) J<|cl J (vV (l:=l)) J<|cl J (aA6 (u:=s.l.dir) (v:=l.dir)) J<|rz J J
def Ba(c:ar)(l:aa)(i:Nat):Bool:=match c[i]? with
 |some s=>decide (fG s.l.dir l.dir=0)
 |none=>false
def Yt(i j:Nat):((i:Int)+(j:Int)).fdiv (2^min (1:Int).toNat IntKind.u64.bits)=((i+j)/2:Nat):=by
 rw[show(2:Int)^min (1:Int).toNat IntKind.u64.bits=((2:Nat):Int) from J,kK _ (by decide)];omega
def ZR{c:ar}{l:aa}{s:bt}(h:c[k]? =some s):iO c l k=decide (fG s.l.dir l.dir<0):=by unfold iO;rw[h]
def aGC{c:ar}{l:aa}{s:bt}(h:c[k]? =some s):Ba c l k=decide (fG s.l.dir l.dir=0):=by unfold Ba;rw[h]
def Zt{c:ar}{l:aa}(h: ¬k<c.length):Ba c l k=false:=by unfold Ba;rw[eJ (by omega)]
def Tb(h:i<j)(hp:p ((i+j)/2)=true):fy p i j=fy p ((i+j)/2+1) j:=by rw[fy,dif_pos h,if_pos hp]
def aGY(h:i<j)(hp: ¬p ((i+j)/2)=true):fy p i j=fy p i ((i+j)/2):=by rw[fy,dif_pos h,if_neg hp]
def OG(h: ¬i<j:=by omega):fy p i j=i:=by rw[fy,dif_neg h]
def ZK{c:ar}{l:aa}[hl:LB l](hc:dP c)(hn:c.length<=1000000):PF GB prog 308 [.sl (c.map cI),cB l, .v (.func (.func 309) #[] #[])] (.tp [vI (fy (iO c l) 0 c.length:Nat),vB (Ba c l (fy (iO c l) 0 c.length))]):=by
 have hm:=r7 cI c;refine fn (fu:=⟨11⟩) func308 J J ntmps308 J J (fun C=>?_);refine aj 13 (.d (vI (c.length:Nat))) J (by rw[hm]<;>rfl)<|gx J<|lp (X:=Nat×Nat) (fun⟨i,j⟩=>[(9, .d (vI (i:Nat))),(10, .d (vI (j:Nat)))]) (fun⟨i,j⟩=>[]) (fun⟨i,j⟩=>i<=j/\j<=c.length/\fy (iO c l) i j=fy (iO c l) 0 c.length) (fun⟨i,j⟩=>j-i) (0,c.length) J ⟨bJ _,bW _,J⟩ (fun _=>J) (fun⟨i,j⟩ hk=>?_);dsimp only at hk⊢;obtain⟨h1,h2,h3⟩:=hk;refine br (fu1:=⟨10⟩) (fu2:=⟨11⟩) J J J (fun hc17=>?_) (fun hc17=>?_)
 .
  obtain⟨s,hs0⟩: ∃s,c[(i+j)/2]? =some s:=⟨_,aZ (by omega)⟩;haveI:=(hc s (aV hs0)).lb;have hang:=ZR (l:=l) hs0;refine aj 22 (.d (.v (.int .u64 ((i+j)/2:Nat)))) J (by rw[Yt])<|gx J<|ix _ J (cO hs0) J<|cl J (Pb (s:=s) (l:=l)) J<|br J J J (fun hc31=>?_) (fun hc31=>?_)
  .
   exact at_ ((i+j)/2+1,j) (by dsimp only;exact⟨⟨by omega,h2,by rw[<-h3,Tb (i:=i) (j:=j) (by omega) (by rw[hang];exact decide_eq_true hc31)]⟩,(by omega)⟩)
  .
   exact at_ (i,(i+j)/2) (by dsimp only;exact⟨⟨by omega,by omega,by rw[<-h3,aGY (i:=i) (j:=j) (by omega) (by rw[hang,decide_eq_false hc31];exact Bool.false_ne_true)]⟩,(by omega)⟩)
 .
  refine i7 (v2:=fun hg39=>by simp only[ak];kernel_rfl) J J J J (fun hg39=>?_) (fun hg39=>?_)
  .
   have he:=OG (p:=iO c l) (i:=i) (j:=j);obtain⟨s,hs0⟩: ∃s,c[i]? =some s:=⟨_,aZ (by omega)⟩;haveI:=(hc s (aV hs0)).lb;refine ix _ J (cO hs0) J<|cl J (Pb (s:=s) (l:=l)) J<|rz J (by rw[<-h3,he,aGC hs0];rfl)
  .
   have he:=OG (p:=iO c l) (i:=i) (j:=j);exact rz J (by rw[<-h3,he,Zt (by omega)];rfl)
def Qv{l:aa}[LB l](hlo:l.ok): ∀{c:ar} {v w:ao},dP c->sF v->mA l c v=some w->sF w
 |[],v,w,_,hv,h=>by cases h;exact hv
 |s::t,v,w,hc,hv,h=>by
  haveI:=(hc s aQ).lb;simp only[mA] at h;split at h
  .exact Qv hlo (fun x hx=>hc x (aJ _ hx)) (hv.cut hlo.1) h
  .cases h
def Dl{l:aa}[LB l]: ∀{c:ar},dP c->dP (dC l c)
 |[],_,s,h=>by cases h
 |a::t,hc,s,h=>by
  have ha:=hc a aQ;haveI:=ha.lb;have ht:=Dl (l:=l) (fun x hx=>hc x (aJ _ hx));unfold dC at h;split at h
  .rcases aK.1 h with rfl|h
   .exact⟨ha.lb,ha.ok,ha.v.cut ha.ok.1⟩
   .exact ht s h
  .exact ht s h
def qH{l:aa}[hl:LB l](hlo:l.ok){c:ar}(hc:dP c):dP (bz c l):=by
 unfold bz;split
 .rename_i v hv
  intro s hs;unfold kO at hs;rcases aM.1 hs with h|h
  .exact Dl hc s (eM h)
  .rcases aK.1 h with rfl|h
   .exact⟨hl,hlo,Qv hlo hc .all hv⟩
   .exact Dl hc s (gU h)
 .exact hc
def KI{l:aa}{c:ar}{s:bt}(h:c[k]? =some s):dC l (c.drop k)=if s.l.cutB s.v l then⟨s.l,s.l.cutV s.v l⟩::dC l (c.drop (k+1)) else dC l (c.drop (k+1)):=by
 rw[Dh h];rfl
def Gs{c:ar}{l:aa}[hl:LB l](hlo:l.ok)(hc:dP c)(hn:c.length<=100000):PF GB prog 280 [.sl (c.map cI),cB l] (.tp [.sl ((bz c l).map cI),vB (cg c l)]):=by
 have hm:=r7 cI c;refine fn func280 J J ntmps280 J J (fun C=>?_);refine cl J (OF (c:=c) (l:=l) hlo hc (by omega)) J<|bb (fu2:=⟨6⟩) J J J (fun hc22=>?_) (fun hc22=>?_)
 .
  have hp:jC c l=none:=by simpa using hc22
  refine cl J (WG (c:=c) (l:=l) hlo hc (by omega)) J<|rz J (by unfold bz cg;rw[hp];rfl)
 .
  obtain⟨v,hv⟩: ∃v,jC c l=some v:=qJ.1 (by simpa using hc22);have hvd:Ia (jC c l)=v:=by rw[hv];rfl
  rw[hvd];refine aj 29 (.d (vI (c.length:Nat))) J (by rw[hm]<;>rfl)<|gx J<|SU (fu:=⟨8⟩) (c.length+1) J J J<|aj 33 (.d (vI (c.length:Nat))) J (by rw[hm]<;>rfl)<|gx J<|lp (X:=ar×Nat) (fun⟨o,k⟩=>[(34, .d (vI (k:Nat))),(8, .rw 31)]) (fun⟨o,k⟩=>[(31,some (.c 330 17 (o.map cI) (c.length+1)))]) (fun⟨o,k⟩=>k<=c.length/\o.length<=k/\o++dC l (c.drop k)=dC l c) (fun⟨o,k⟩=>c.length-k) ([],0) J ⟨bJ _,bW _,J⟩ (fun _=>J) (fun⟨o,k⟩ hk=>?_);dsimp only at hk⊢;obtain⟨h1,h2,h3⟩:=hk;have hmo:=r7 cI o;refine br J J J (fun hc35=>?_) (fun hc35=>?_)
  .
   obtain⟨s,hs0⟩: ∃s,c[k]? =some s:=⟨_,aZ (by omega)⟩;have hs:=hc s (aV hs0);haveI:=hs.lb;haveI:=hs.v.lo;haveI:=hs.v.hi;refine ix _ J (cO hs0) J<|cl (fu:=⟨0⟩) J (NX (l:=s.l) (m:=l) (v:=s.v)) J<|?_;generalize hw:s.l.cutV s.v l=w;generalize hb:s.l.cutB s.v l=b;refine gx J<|bb J J J (fun hc47=>?_) (fun hc47=>?_)
   .
    refine rf J J<|Uc ((o++[bt.mk s.l w]).map cI) J (by rw[bX];rfl) (Nk [bt.mk s.l w]) (by rw[hmo];simp;omega) J<|fm 54 31 J<|at_ (o++[bt.mk s.l w],k+1) (by dsimp only;exact⟨⟨by omega,by simp;omega,by rw[<-h3,KI hs0,hb,if_pos hc47,hw,dX];rfl⟩,(by omega)⟩)
   .
    exact at_ (o,k+1) (by dsimp only;exact⟨⟨by omega,by omega,by rw[<-h3,KI hs0,hb,if_neg (by simp[hc47])]⟩,(by omega)⟩)
  .
   obtain rfl:k=c.length:=by omega
   have ho:o=dC l c:=by rw[<-h3,gV];simp[dC]
   subst ho;have hbl:=(Db (iO (dC l c) l) (dC l c).length 0 (dC l c).length (by omega) (by omega)).2;refine cL J (ZK (c:=dC l c) (l:=l) (Dl hc) (by omega)) J J<|ro J J<|ci ((kO (dC l c) l v).map cI) J (ayq (c:=dC l c) (x:=⟨l,v⟩) (i:=fy (iO (dC l c) l) 0 (dC l c).length) (cap:=c.length+1) hbl (by omega) (by omega)) J J<|ik 68 J<|rz J (by unfold bz cg;rw[hv];rfl)
def FQ{c:ar}{l:aa}[hl:LB l](hlo:l.ok)(hc:dP c)(hn:c.length<=100000:=by omega):PF GB prog 269 [.sl (c.map cI),cB l] (.tp [.sl ((bz c l).map cI), .sl ((bz c l.rev).map cI),vB (cg c l),vB (cg c l.rev)]):=by
 refine fn func269 J J ntmps269 J J (fun C=>?_);refine cl J (Gs (c:=c) (l:=l) hlo hc hn) J<|cl J (T3 (l:=l)) J<|cl J (Gs (c:=c) (l:=l.rev) hlo.rev hc hn) J<|rz J J
def cU:Tr->List DV
 | .leaf b=>[vI 0,vI 0, .v (.pointer none),vI 0,vI 0, .v (.pointer none),vI 0,vI 0, .v (.pointer none), .v (.pointer none), .v (.pointer none), .v (.bool b)]
 | .node l x y=>[vI (di (l.a:Rat)),vI (dh (l.a:Rat)),c9 (l.a:Rat),vI (di (l.b:Rat)),vI (dh (l.b:Rat)),c9 (l.b:Rat),vI (di (l.c:Rat)),vI (dh (l.c:Rat)),c9 (l.c:Rat), .pt (cU x), .pt (cU y), .v (.bool false)]
def eU(t:Tr):DV:= .pt (cU t)
def rh{b:Bool}:PF GB prog 149 [.v (.bool b)] (eU (.leaf b)):=by
 refine fn func149 J J ntmps149 J J (fun C=>?_);refine ik 5 J<|rz J J
def wc{l:aa}:PF GB prog 211 [cB l,eU x,eU y] (eU (.node l x y)):=by
 refine fn func211 J J ntmps211 J J (fun C=>?_);refine ik 11 J<|rz J J
def oq{b:Bool}:PF GB prog 140 [eU (.leaf b)] (.v (.bool true)):=by
 refine fn func140 J J ntmps140 J J (fun C=>?_);exact rz J J
def qm{l:aa}:PF GB prog 140 [eU (.node l x y)] (.v (.bool false)):=by
 refine fn func140 J J ntmps140 J J (fun C=>?_);exact rz J J
def ZH{l:aa}:PF GB prog 270 [cB l,eU (.node l1 x y),eU u] (eU (.node l (.node l1 x y) u)):=by
 refine fn func270 J J ntmps270 J J (fun C=>?_);refine cl (fu:=⟨0⟩) J qm J<|cF J J J<|cl J wc J<|rz J J
def at3{l:aa}{p:Bool}:PF GB prog 270 [cB l,eU (.leaf p),eU (.node l1 x y)] (eU (.node l (.leaf p) (.node l1 x y))):=by
 refine fn func270 J J ntmps270 J J (fun C=>?_);refine cl (fu:=⟨0⟩) J oq J<|dm J J J<|cl (fu:=⟨1⟩) J qm J<|cF J J J<|cl J wc J<|rz J J
def Zv{l:aa}{p q:Bool}:PF GB prog 270 [cB l,eU (.leaf p),eU (.leaf q)] (eU (Tr.joinQ l (.leaf p) (.leaf q))):=by
 refine fn func270 J J ntmps270 J J (fun C=>?_);refine cl (fu:=⟨0⟩) J oq J<|dm J J J<|cl (fu:=⟨1⟩) J oq J<|dm J J J<|bb J J J (fun hc23=>?_) (fun hc23=>?_)
 .
  exact rz J (by rw[show Tr.joinQ l (.leaf p) (.leaf q)= .leaf p by simp[Tr.joinQ,Tr.isLeaf,Tr.code,hc23]];rfl)
 .
  refine cl J wc J<|rz J (by rw[show Tr.joinQ l (.leaf p) (.leaf q)= .node l (.leaf p) (.leaf q) by simp[Tr.joinQ,Tr.isLeaf,Tr.code,hc23]];rfl)
def Ny{l:aa}: ∀{x y:Tr},PF GB prog 270 [cB l,eU x,eU y] (eU (Tr.joinQ l x y))
 | .leaf _, .leaf _=>Zv
 | .leaf _, .node .. =>at3
 | .node ..,_=>ZH
def Sm{b:Bool}:PF GB prog 143 [eU (.leaf b)] (vI (Tr.depth (.leaf b):Nat)):=by
 refine fn func143 J J ntmps143 J J (fun C=>?_);refine cl (fu:=⟨0⟩) J oq J<|jp 4 J<|gx J<|rz J J
def anR{l:aa}(hd:(Tr.node l x y).depth<=1000000)(ihx:PF GB prog 143 [eU x] (vI (Tr.depth x:Nat)))(ihy:PF GB prog 143 [eU y] (vI (Tr.depth y:Nat))):PF GB prog 143 [eU (.node l x y)] (vI (Tr.depth (.node l x y):Nat)):=by
 have hdp:(Tr.node l x y).depth=1+max x.depth y.depth:=J;have hdx:=qS x.depth y.depth;have hdy:=pR x.depth y.depth;refine fn func143 J J ntmps143 J J (fun C=>?_);refine cl (fu:=⟨0⟩) J qm J<|rA 4 J<|gx J<|cl J ihx J<|cl (hv:=by simp only[ak];exact⟨by omega,by kernel_rfl⟩) J ihy J<|rz J (by show DV.v (.int _ _)= .v (.int _ _);congr 2;split<;>omega)
def wi: ∀{t:Tr},t.depth<=1000000->PF GB prog 143 [eU t] (vI (Tr.depth t:Nat))
 | .leaf _,_=>Sm
 | .node l x y,h=>anR h (wi (by have:=qS x.depth y.depth;have:(Tr.node l x y).depth=1+max x.depth y.depth:=J;omega)) (wi (by have:=pR x.depth y.depth;have:(Tr.node l x y).depth=1+max x.depth y.depth:=J;omega))
def Vj{b:Bool}{c:ar}:PF GB prog 214 [eU (.leaf b), .sl (c.map cI)] (eU (Tr.restrict (.leaf b) c)):=by
 refine fn func214 J J ntmps214 J J (fun C=>?_);refine cl (fu:=⟨0⟩) J oq J<|jp 10 J<|gx J<|rz J J
def YI{l:aa}{c:ar}(hl:LB l)(hlo:l.ok)(hc:dP c)(hn:c.length+(Tr.node l x y).depth<=100000)(ihx: ∀{c:ar},dP c->c.length+x.depth<=100000->PF GB prog 214 [eU x, .sl (c.map cI)] (eU (Tr.restrict x c)))(ihy: ∀{c:ar},dP c->c.length+y.depth<=100000->PF GB prog 214 [eU y, .sl (c.map cI)] (eU (Tr.restrict y c))):PF GB prog 214 [eU (.node l x y), .sl (c.map cI)] (eU (Tr.restrict (.node l x y) c)):=by
 have hdp:(Tr.node l x y).depth=1+max x.depth y.depth:=J;have hdx:=qS x.depth y.depth;have hdy:=pR x.depth y.depth;have hca:=rG c l;have hcb:=rG c l.rev;refine fn func214 J J ntmps214 J J (fun C=>?_);refine cl (fu:=⟨0⟩) J qm J<|rA 10 J<|gx J<|cl J (FQ (c:=c) (l:=l) hlo hc) J<|bb J J J (fun hc23=>?_) (fun hc23=>?_)
 .
  refine cl J (ihx hc (by omega)) J<|rz J (by rw[Tr.restrict,if_pos hc23];rfl)
 .
  refine bb J J J (fun hc32=>?_) (fun hc32=>?_)
  .
   refine cl J (ihy hc (by omega)) J<|rz J (by rw[Tr.restrict,if_neg (by simp[hc23]),if_pos hc32];rfl)
  .
   refine cl J (ihx (c:=bz c l) (qH hlo hc) (by omega)) J<|cl J (ihy (c:=bz c l.rev) (qH hlo.rev hc) (by omega)) J<|cl J Ny J<|rz J (by rw[Tr.restrict,if_neg (by simp[hc23]),if_neg (by simp[hc32])];rfl)
def n0: ∀{t:Tr} {c:ar},t.all LB->t.all aa.ok->dP c->c.length+t.depth<=100000->PF GB prog 214 [eU t, .sl (c.map cI)] (eU (Tr.restrict t c))
 | .leaf _,_,_,_,_,_=>Vj
 | .node l x y,c,hb,ho,hc,hn=>YI hb.1 ho.1 hc hn (fun h1 h2=>n0 hb.2.1 ho.2.1 h1 h2) (fun h1 h2=>n0 hb.2.2 ho.2.2 h1 h2)
def Qi(hb:t.all LB)(ho:t.all aa.ok)(hd:t.depth<=100000:=by omega):PF GB prog 144 [eU t] (eU (t.restrict [])):=by
 refine fn func144 J J ntmps144 J J (fun C=>?_);refine cl J (n0 (t:=t) (c:=[]) hb ho (fun s h=>by cases h) (by simpa using hd)) J<|rz J J
def Tr.compl:Tr->Tr
 | .leaf b=> .leaf !b
 | .node l x y=> .node l x.compl y.compl
def Tr.chooseQ(op:Int)(b:Bool)(t:Tr)(c:ar):Tr:=
 if op=1\/op=2 then(if b=decide (op=1) then .leaf b else t.restrict c)
 else if op=3/\b=false then .leaf false
 else if b then(t.restrict c).compl else t.restrict c
def Tr.mergeQ(op:Int):Tr->Tr->ar->Tr
 | .leaf b,u,c=>u.chooseQ op b c
 | .node l x y,u,c=>if !cg c l.rev then x.mergeQ op u c else if !cg c l then y.mergeQ op u c else joinQ l (x.mergeQ op u (bz c l)) (y.mergeQ op u (bz c l.rev))
def SK{b:Bool}:PF GB prog 302 [eU (.leaf b)] (eU (Tr.compl (.leaf b))):=by
 refine fn func302 J J ntmps302 J J (fun C=>?_);refine cl (fu:=⟨0⟩) J oq J<|jp 4 J<|gx J<|cl J rh J<|rz J J
def Ye{l:aa}(ihx:PF GB prog 302 [eU x] (eU (Tr.compl x)))(ihy:PF GB prog 302 [eU y] (eU (Tr.compl y))):PF GB prog 302 [eU (.node l x y)] (eU (Tr.compl (.node l x y))):=by
 refine fn func302 J J ntmps302 J J (fun C=>?_);refine cl (fu:=⟨0⟩) J qm J<|rA 4 J<|gx J<|cl J ihx J<|cl J ihy J<|cl J (wc (l:=l) (x:=x.compl) (y:=y.compl)) J<|rz J J
def xd: ∀{t:Tr},PF GB prog 302 [eU t] (eU (Tr.compl t))
 | .leaf _=>SK
 | .node _ _ _=>Ye xd xd
def U1{b:Bool}{c:ar}(hb:t.all LB)(ho:t.all aa.ok)(hc:dP c)(hn:c.length+t.depth<=100000):PF GB prog 268 [vI op, .v (.bool b),eU t, .sl (c.map cI)] (eU (t.chooseQ op b c)):=by
 refine fn func268 J J ntmps268 J J (fun C=>?_);refine br J J J (fun hc10=>?_) (fun hc10=>?_)
 .
  refine br J J J (fun hc10=>?_) (fun hc10=>?_)
  .
   refine bb J J J (fun hc18=>?_) (fun hc18=>?_)
   .
    refine cl J rh J<|rz J (by unfold Tr.chooseQ;simp_all [eO]<;>omega)
   .
    refine cl J (n0 (by assumption) (by assumption) (by assumption) (by omega)) J<|rz J (by unfold Tr.chooseQ;simp_all [eO]<;>omega)
  .
   refine br J J J (fun hc13=>?_) (fun hc13=>?_)
   .
    refine bb J J J (fun hc22=>?_) (fun hc22=>?_)
    .
     refine cl J rh J<|rz J (by unfold Tr.chooseQ;simp_all [eO]<;>omega)
    .
     refine bb J J J (fun hc24=>?_) (fun hc24=>?_)
     .
      refine cl J (n0 (by assumption) (by assumption) (by assumption) (by omega)) J<|cl J (xd (t:=t.restrict c)) J<|rz J (by unfold Tr.chooseQ;simp_all [eO]<;>omega)
     .
      refine cl J (n0 (by assumption) (by assumption) (by assumption) (by omega)) J<|rz J (by unfold Tr.chooseQ;simp_all [eO]<;>omega)
   .
    refine bb J J J (fun hc24=>?_) (fun hc24=>?_)
    .
     refine cl J (n0 (by assumption) (by assumption) (by assumption) (by omega)) J<|cl J (xd (t:=t.restrict c)) J<|rz J (by unfold Tr.chooseQ;simp_all [eO]<;>omega)
    .
     refine cl J (n0 (by assumption) (by assumption) (by assumption) (by omega)) J<|rz J (by unfold Tr.chooseQ;simp_all [eO]<;>omega)
 .
  refine br J J J (fun hc10=>?_) (fun hc10=>?_)
  .
   refine bb J J J (fun hc18=>?_) (fun hc18=>?_)
   .
    refine cl J rh J<|rz J (by unfold Tr.chooseQ;simp_all [eO]<;>omega)
   .
    refine cl J (n0 (by assumption) (by assumption) (by assumption) (by omega)) J<|rz J (by unfold Tr.chooseQ;simp_all [eO]<;>omega)
  .
   refine br J J J (fun hc13=>?_) (fun hc13=>?_)
   .
    refine bb J J J (fun hc22=>?_) (fun hc22=>?_)
    .
     refine cl J rh J<|rz J (by unfold Tr.chooseQ;simp_all [eO]<;>omega)
    .
     refine bb J J J (fun hc24=>?_) (fun hc24=>?_)
     .
      refine cl J (n0 (by assumption) (by assumption) (by assumption) (by omega)) J<|cl J (xd (t:=t.restrict c)) J<|rz J (by unfold Tr.chooseQ;simp_all [eO]<;>omega)
     .
      refine cl J (n0 (by assumption) (by assumption) (by assumption) (by omega)) J<|rz J (by unfold Tr.chooseQ;simp_all [eO]<;>omega)
   .
    refine bb J J J (fun hc24=>?_) (fun hc24=>?_)
    .
     refine cl J (n0 (by assumption) (by assumption) (by assumption) (by omega)) J<|cl J (xd (t:=t.restrict c)) J<|rz J (by unfold Tr.chooseQ;simp_all [eO]<;>omega)
    .
     refine cl J (n0 (by assumption) (by assumption) (by assumption) (by omega)) J<|rz J (by unfold Tr.chooseQ;simp_all [eO]<;>omega)
def U0{b:Bool}{c:ar}(hbu:u.all LB)(hou:u.all aa.ok)(hc:dP c)(hn:c.length+u.depth<=100000):PF GB prog 212 [vI op,eU (.leaf b),eU u, .sl (c.map cI)] (eU (Tr.mergeQ op (.leaf b) u c)):=by
 refine fn func212 J J ntmps212 J J (fun C=>?_);refine cl (fu:=⟨0⟩) J oq J<|jp 14 J<|gx J<|cl J (U1 (t:=u) hbu hou hc hn) J<|rz J J
def ans{l:aa}{c:ar}(hl:LB l)(hlo:l.ok)(hc:dP c)(hn:c.length+(Tr.node l x y).depth+u.depth<=100000)(ihx: ∀{c:ar},dP c->c.length+x.depth+u.depth<=100000->PF GB prog 212 [vI op,eU x,eU u, .sl (c.map cI)] (eU (Tr.mergeQ op x u c)))(ihy: ∀{c:ar},dP c->c.length+y.depth+u.depth<=100000->PF GB prog 212 [vI op,eU y,eU u, .sl (c.map cI)] (eU (Tr.mergeQ op y u c))):PF GB prog 212 [vI op,eU (.node l x y),eU u, .sl (c.map cI)] (eU (Tr.mergeQ op (.node l x y) u c)):=by
 have hdp:(Tr.node l x y).depth=1+max x.depth y.depth:=J;have hdx:=qS x.depth y.depth;have hdy:=pR x.depth y.depth;have hca:=rG c l;have hcb:=rG c l.rev;refine fn func212 J J ntmps212 J J (fun C=>?_);refine cl (fu:=⟨0⟩) J qm J<|rA 14 J<|gx J<|cl J (FQ (c:=c) (l:=l) hlo hc) J<|bb J J J (fun hc34=>?_) (fun hc34=>?_)
 .
  refine cl J (ihx hc (by omega)) J<|rz J (by rw[Tr.mergeQ,if_pos hc34];rfl)
 .
  refine bb J J J (fun hc45=>?_) (fun hc45=>?_)
  .
   refine cl J (ihy hc (by omega)) J<|rz J (by rw[Tr.mergeQ,if_neg (by simp[hc34]),if_pos hc45];rfl)
  .
   refine cl J (ihx (c:=bz c l) (qH hlo hc) (by omega)) J<|cl J (ihy (c:=bz c l.rev) (qH hlo.rev hc) (by omega)) J<|cl J Ny J<|rz J (by rw[Tr.mergeQ,if_neg (by simp[hc34]),if_neg (by simp[hc45])];rfl)
def JO{op:Int}{u:Tr}(hbu:u.all LB)(hou:u.all aa.ok): ∀{t:Tr} {c:ar},t.all LB->t.all aa.ok->dP c->c.length+t.depth+u.depth<=100000->PF GB prog 212 [vI op,eU t,eU u, .sl (c.map cI)] (eU (Tr.mergeQ op t u c))
 | .leaf _,_,_,_,hc,hn=>U0 hbu hou hc (by simp only[Tr.depth] at hn;omega)
 | .node l x y,c,hb,ho,hc,hn=>ans hb.1 ho.1 hc hn (fun h1 h2=>JO hbu hou hb.2.1 ho.2.1 h1 h2) (fun h1 h2=>JO hbu hou hb.2.2 ho.2.2 h1 h2)
def sr(n:Bool)(ds:List Nat):Prop:=ew ds/\(n=true->0<ds.length)
instance (n:Bool) (ds:List Nat):Decidable (sr n ds):=inferInstanceAs (Decidable (_/\_))
structure RL where
 na:Bool
 da:List Nat
 nb:Bool
 db:List Nat
 nc:Bool
 dc:List Nat
def RL.d(r:RL):DV:= .ag [.v (.bool r.na),dk r.da, .v (.bool r.nb),dk r.db, .v (.bool r.nc),dk r.dc]
def pp(n:Bool)(ds:List Nat):Int:=if n then-(dv ds:Int) else dv ds
def RL.l(r:RL):aa:=⟨pp r.na r.da,pp r.nb r.db,pp r.nc r.dc⟩
def RL.nm(r:RL):Prop:=sr r.na r.da/\sr r.nb r.db/\sr r.nc r.dc
instance (l:aa):Decidable l.ok:=inferInstanceAs (Decidable (_/\_))
instance (r:RL):Decidable r.nm:=inferInstanceAs (Decidable (_/\_/\_))
structure RL.sm (r:RL):Prop where
 a:bB r.da/\r.da.length<=3
 b:bB r.db/\r.db.length<=3
 c:bB r.dc/\r.dc.length<=3
def as8(n:Bool)(ds:List Nat):(pp n ds).natAbs=dv ds:=by unfold pp;cases n<;>simp
theorem RL.lb{r:RL}(s:r.sm):LB r.l:=by
 have key: ∀(n:Bool) (ds:List Nat),bB ds/\ds.length<=3->(pp n ds).natAbs<2^96:=fun n ds h=>by
  rw[as8];refine dZ (l8 h.1) ?_;rw[show(2:Nat)^96=4294967296^3 by decide];exact bR (by decide) h.2
 exact⟨key _ _ s.a,key _ _ s.b,key _ _ s.c⟩
def rH(n:Nat)(f:Nat->Bool):List Value:=(List.range n).map fun j=> .bool (f j)
def yi(f:Nat->Bool)(i:Nat):Nat->Bool:=fun j=>f j||Nat.beq j i
def R3(n:Nat)(f:Nat->Bool):(rH n f).length=n:=by simp[rH]
def Iy{f:Nat->Bool}{b:Bool}(h:i<n)(hf:f i=b):(rH n f)[i]? =some (.bool b):=by simp[rH,h,hf]
def XS{f:Nat->Bool}(e:j≠i):yi f i j=f j:=by
 unfold yi
 cases hb:Nat.beq j i with
 |false=>rw[Bool.or_false]
 |true=>exact absurd (aL hb) e
def Zc{f:Nat->Bool}:yi f i i=true:=by
 unfold yi;rw[nS,rL]
def SJ(n i:Nat)(f:Nat->Bool):(rH n f).set i (.bool true)=rH n (yi f i):=by
 apply lW;intro j;rw[pK];simp only[rH,aX,lT,cY];by_cases hj:j<n
 .rw[pM hj]
  simp only[lQ];by_cases e:i=j
  .subst e;simp[hj,Zc]
  .rw[XS (fun h=>e h.symm)];simp[e]
 .rw[eJ (by simpa using hj)]
  by_cases e:i=j
  .subst e;simp[hj]
  .simp[e]
def Kz(n:Nat):dl (.bool false) n=rH n (fun _=>false):=by
 apply lW;intro j;by_cases hj:j<n
 .rw[Iy hj J]
  unfold dl;rw[Jg (aF (.bool false)) n j (by simpa[aF] using hj)];simp[aF,Nat.mod_one]
 .rw[eJ (by rw[nk];simp[aF];omega),eJ (by rw[R3];omega)]
structure RN where
 g:RL
 l:Int
 r:Int
def RN.d(n:RN):DV:= .ag [.v (.bool n.g.na),dk n.g.da, .v (.bool n.g.nb),dk n.g.db, .v (.bool n.g.nc),dk n.g.dc, .v (.int .i64 n.l), .v (.int .i64 n.r)]
def yb{q:Rat}{v:Value}(h:Is G (c9 q) v): ∃p,v= .pointer p:=by
 rcases s7.1 h with⟨_,h⟩|⟨_,h⟩
 .exact⟨_,h⟩
 .obtain⟨b,m,h,_⟩:=lm.1 h;exact⟨_,h⟩
def aET{l:aa}{v:Value}(h:Is G (cB l) v): ∃n1 d1 p1 n2 d2 p2 n3 d3 p3,v= .agg ⟨[.int .i64 n1, .int .i64 d1, .pointer p1, .int .i64 n2, .int .i64 d2, .pointer p2, .int .i64 n3, .int .i64 d3, .pointer p3]⟩:=by
 obtain⟨m,rfl,g⟩:=d9.1 h;clear h;obtain⟨v1,m,rfl,h1,h⟩:=bi.1 g;obtain⟨v2,m,rfl,h2,h⟩:=bi.1 h;obtain⟨v3,m,rfl,h3,h⟩:=bi.1 h;obtain⟨v4,m,rfl,h4,h⟩:=bi.1 h;obtain⟨v5,m,rfl,h5,h⟩:=bi.1 h;obtain⟨v6,m,rfl,h6,h⟩:=bi.1 h;obtain⟨v7,m,rfl,h7,h⟩:=bi.1 h;obtain⟨v8,m,rfl,h8,h⟩:=bi.1 h;obtain⟨v9,m,rfl,h9,h⟩:=bi.1 h;rw[d8] at h;subst h;obtain⟨_,rfl⟩:=yb h3;obtain⟨_,rfl⟩:=yb h6;obtain⟨_,rfl⟩:=yb h9;rw[aH.1 h1,aH.1 h2,aH.1 h4,aH.1 h5,aH.1 h7,aH.1 h8];exact⟨_,_,_,_,_,_,_,_,_,J⟩
def Yw{n:RN}{v:Value}(h:Is G n.d v): ∃x1 x2 x3:SV,v= .agg ⟨[.bool n.g.na, .slice x1.a x1.n x1.c, .bool n.g.nb, .slice x2.a x2.n x2.c, .bool n.g.nc, .slice x3.a x3.n x3.c, .int .i64 n.l, .int .i64 n.r]⟩/\
  Is G n.g.d (.agg ⟨[.bool n.g.na, .slice x1.a x1.n x1.c, .bool n.g.nb, .slice x2.a x2.n x2.c, .bool n.g.nc, .slice x3.a x3.n x3.c]⟩):=by
 obtain⟨m,rfl,g⟩:=d9.1 h;clear h;obtain⟨v1,m,rfl,h1,h⟩:=bi.1 g;obtain⟨v2,m,rfl,h2,h⟩:=bi.1 h;obtain⟨v3,m,rfl,h3,h⟩:=bi.1 h;obtain⟨v4,m,rfl,h4,h⟩:=bi.1 h;obtain⟨v5,m,rfl,h5,h⟩:=bi.1 h;obtain⟨v6,m,rfl,h6,h⟩:=bi.1 h;obtain⟨v7,m,rfl,h7,h⟩:=bi.1 h;obtain⟨v8,m,rfl,h8,h⟩:=bi.1 h;rw[d8] at h;subst h;obtain⟨_,x1,_,rfl,_,_⟩:=gp.1 (id h2);obtain⟨_,x2,_,rfl,_,_⟩:=gp.1 (id h4);obtain⟨_,x3,_,rfl,_,_⟩:=gp.1 (id h6)
 cases aH.1 h1;cases aH.1 h3;cases aH.1 h5;cases aH.1 h7;cases aH.1 h8
 exact⟨x1,x2,x3,J,d9.2 ⟨_,J, .cons h1 (.cons h2 (.cons h3 (.cons h4 (.cons h5 (.cons h6 .nil)))))⟩⟩
def u'{v:Value}(h:Is G (eU t) v): ∃p,v= .pointer p:=by
 obtain⟨b,m,h,_⟩:=lm.1 h;exact⟨_,h⟩
def PF.fn0{r:DV}(h: ∀{GB:Gh},PF GB P f ds r){vs:List Value}(hv:IsLs G ds vs):Fn P f vs G (fun v G'=>Is G' r v):=h (GB:=G) G vs (bH.refl G) hv
def eRT(rt:Int)(ns:List RN):DV:= .ag [vI rt, .sl (ns.map RN.d)]
def Md{l:aa}(h:IsLs G (cU (.node l x y)) m): ∃n1 d1 p1 n2 d2 p2 n3 d3 p3 q r,m=[.int .i64 n1, .int .i64 d1, .pointer p1, .int .i64 n2, .int .i64 d2, .pointer p2, .int .i64 n3, .int .i64 d3, .pointer p3, .pointer q, .pointer r, .bool false]/\
  Is G (cB l) (.agg ⟨[.int .i64 n1, .int .i64 d1, .pointer p1, .int .i64 n2, .int .i64 d2, .pointer p2, .int .i64 n3, .int .i64 d3, .pointer p3]⟩)/\Is G (eU x) (.pointer q)/\Is G (eU y) (.pointer r):=by
 obtain⟨v1,m,rfl,h1,h⟩:=bi.1 h;obtain⟨v2,m,rfl,h2,h⟩:=bi.1 h;obtain⟨v3,m,rfl,h3,h⟩:=bi.1 h;obtain⟨v4,m,rfl,h4,h⟩:=bi.1 h;obtain⟨v5,m,rfl,h5,h⟩:=bi.1 h;obtain⟨v6,m,rfl,h6,h⟩:=bi.1 h;obtain⟨v7,m,rfl,h7,h⟩:=bi.1 h;obtain⟨v8,m,rfl,h8,h⟩:=bi.1 h;obtain⟨v9,m,rfl,h9,h⟩:=bi.1 h;obtain⟨va,m,rfl,ha,h⟩:=bi.1 h;obtain⟨vb,m,rfl,hb,h⟩:=bi.1 h;obtain⟨vc,m,rfl,hc,h⟩:=bi.1 h;rw[d8] at h;subst h;obtain⟨_,rfl⟩:=yb h3;obtain⟨_,rfl⟩:=yb h6;obtain⟨_,rfl⟩:=yb h9;obtain⟨_,rfl⟩:=u' ha;obtain⟨_,rfl⟩:=u' hb
 cases aH.1 h1;cases aH.1 h2;cases aH.1 h4;cases aH.1 h5;cases aH.1 h7;cases aH.1 h8;cases aH.1 hc
 exact⟨_,_,_,_,_,_,_,_,_,_,_,J,d9.2 ⟨_,J, .cons h1 (.cons h2 (.cons h3 (.cons h4 (.cons h5 (.cons h6 (.cons h7 (.cons h8 (.cons h9 .nil))))))))⟩,ha,hb⟩
def X5{b:Bool}(h:IsLs G (cU (.leaf b)) m):m=[.int .i64 0, .int .i64 0, .pointer none, .int .i64 0, .int .i64 0, .pointer none, .int .i64 0, .int .i64 0, .pointer none, .pointer none, .pointer none, .bool b]:=by
 obtain⟨v1,m,rfl,h1,h⟩:=bi.1 h;obtain⟨v2,m,rfl,h2,h⟩:=bi.1 h;obtain⟨v3,m,rfl,h3,h⟩:=bi.1 h;obtain⟨v4,m,rfl,h4,h⟩:=bi.1 h;obtain⟨v5,m,rfl,h5,h⟩:=bi.1 h;obtain⟨v6,m,rfl,h6,h⟩:=bi.1 h;obtain⟨v7,m,rfl,h7,h⟩:=bi.1 h;obtain⟨v8,m,rfl,h8,h⟩:=bi.1 h;obtain⟨v9,m,rfl,h9,h⟩:=bi.1 h;obtain⟨va,m,rfl,ha,h⟩:=bi.1 h;obtain⟨vb,m,rfl,hb,h⟩:=bi.1 h;obtain⟨vc,m,rfl,hc,h⟩:=bi.1 h;rw[d8] at h;subst h
 cases aH.1 h1;cases aH.1 h2;cases aH.1 h3;cases aH.1 h4;cases aH.1 h5;cases aH.1 h6;cases aH.1 h7;cases aH.1 h8;cases aH.1 h9;cases aH.1 ha;cases aH.1 hb;cases aH.1 hc
 rfl
def Ic: ∀{t:Tr} {A A2 G:Gh} {p:Option Addr} {ob wb:Nat} {lo lo2:Bool} {x:SV} {zs:List ND} {ns:List NQ} {B:List av},Is A (eU t) (.pointer p)->t.all LB->[GL A G]->[GL A2 G]->ig 8 233 x (zs.map ND.val) B->gw (rk 96 A2) zs ns->zs.length+t.size<=1000000->
  gG prog 139 [.pointer p, .pointer (some ⟨ob,0,none⟩), .pointer (some ⟨wb,0,none⟩)] (⟨ob,[.int .i64 0, .slice x.a x.n x.c],69,lo⟩::⟨wb,[nG ob wb],241,lo2⟩::B) G
   (fun v own' G'=> ∃x' zs' B',v= .int .i64 (t.num zs.length)/\own'=⟨ob,[.int .i64 0, .slice x'.a x'.n x'.c],69,false⟩::⟨wb,[nG ob wb],241,false⟩::B'/\ig 8 233 x' (zs'.map ND.val) B'/\gw (rk 96 G') zs' (ns++t.wr zs.length))
 | .leaf bb,A,A2,G,p,ob,wb,lo,lo2,x,zs,ns,B,h,_,_,_,hB,hz,hle=>by
  obtain⟨n,m,e,hg,hm⟩:=lm.1 (id h)
  cases e
  cases X5 hm
  have hG:s8 A n _:=⟨hg⟩;have hz':gw (rk 96 G) zs (ns++[]):=by rw[fL];exact hz.imp fun _ _ h=>h.up
  refine gG.intro func139 J J ntmps139 J ?_;intro C _ _;show St C _ _ (⟨ob,[.int .i64 0, .slice x.a x.n x.c],69,false⟩::⟨wb,[nG ob wb],241,false⟩::asB B) _ _;refine sR<|sa J J<|zE<|eE<|sR<|sm J J<|?_;refine sc (zC J J (PF.fn0 oq (.cons (h.up GL.le) .nil)) J ?_);rintro _ G1 _ hv
  cases aH.1 hv
  refine zE<|sC J<|?_;refine eE<|sR<|sm J J<|sn J J<|sf J J<|YU J J J<|zE<|?_
  cases bb
  case true=>
   refine sC J<|sR<|sa J J<|zE<|kD<|?_;exact vE (.tmp J .nil) _ _ (List.Perm.refl _) (List.Sublist.refl _) ⟨x,zs,_,J,J,hB.asB,hz'.imp fun _ _ h=>h.up⟩
  refine qD J<|zK<|sR<|sa J J<|zE<|kD<|?_;exact vE (.tmp J .nil) _ _ (List.Perm.refl _) (List.Sublist.refl _) ⟨x,zs,_,J,J,hB.asB,hz'.imp fun _ _ h=>h.up⟩
 | .node l s u,A,A2,G,p,ob,wb,lo,lo2,x,zs,ns,B,h,hall,_,_,hB,hz,hle=>by
  obtain⟨hlb,hall1,hall2⟩:=id hall;haveI:LB l:=hlb;obtain⟨n,m,e,hg,hm⟩:=lm.1 (id h)
  cases e
  obtain⟨n1,d1,p1,n2,d2,p2,n3,d3,p3,q,r,rfl,hzl,hs,hu⟩:=Md hm;have hG:s8 A n _:=⟨hg⟩;have hxn:=hB.len;have hzn:=hz.len;simp only[Tr.size] at hle;obtain⟨xa,xn,xc⟩:=x;rw[aX] at hxn;simp only[] at hxn;subst hxn;refine gG.intro func139 J J ntmps139 J ?_;intro C _ _;show St C _ _ (⟨ob,[.int .i64 0, .slice xa zs.length xc],69,false⟩::⟨wb,[nG ob wb],241,false⟩::asB B) _ _;replace hB:=hB.asB;generalize asB B=B at hB;refine sR<|sa J J<|zE<|eE<|sR<|sm J J<|?_;refine sc (zC J J (PF.fn0 qm (.cons (h.up GL.le) .nil)) J ?_);rintro _ G1 _ hv
  cases aH.1 hv
  refine zE<|qD J<|?_;refine zK<|sR<|sf J J<|mz J J J<|rF J J<|sa J J<|zE<|eE<|?_;refine tF [⟨ob,[.int .i64 0, .slice xa zs.length xc],69,false⟩] (fun i=>Nat.beq i 11) [(0,true),(1,true),(2,true),(3,true),(4,true),(5,true),(6,false),(7,true),(8,false),(9,false),(10,true),(11,false)] follows (by kernel_rfl)<|?_;refine dF J J J<|pH J J J J<|dM J J J<|dy J (fun _=>mI J) J J<|?_;refine dF J J J<|dy J (fun _=>EP J tw J) J J<|?_;refine dc J J (zC J J (PF.fn0 (V9 (l:=l)) (.cons (hzl.up GL.le) .nil)) J ?_);rintro _ G2 _ hv;obtain⟨ia,ib,ic,rfl,hia,hib,hic⟩:=aDK hlb.bl hv;refine ln<|dy J (fun _=>vk J) J J<|?_;refine dc J J (J6 J (by rfl) (by rfl) (by decide) (by decide) J ?_);intro b3;refine ln<|?_;refine dc J J (amx (v:=ND.val ⟨ia,ib,ic,0,0⟩) (vs:=zs.map ND.val) [_,_,_] rfl hB J J (xy inferInstance J) J (ND.flat [⟨ia,ib,ic,0,0⟩] _ aQ) (by decide) (by rw[aX];omega) J J ?_);intro x1 B1 hB1;rw[show zs.map ND.val++[ND.val ⟨ia,ib,ic,0,0⟩]=(zs++[(⟨ia,ib,ic,0,0⟩:ND)]).map ND.val by simp] at hB1;show St C _ _ (⟨b3,_,_,true⟩::⟨ob,[.int .i64 0, .slice xa zs.length xc],69,false⟩::⟨wb,[nG ob wb],241,false⟩::B1) _ _;refine ln<|dF J J J<|?_;refine dc J J (ym (cs':=[.int .i64 0, .slice x1.a x1.n x1.c]) J J J (.tl _ _ _ _ _ _ _ _ (.hd ..)) (nb J) J J ?_);refine So J<|dn<|?_;refine M' _ (mU _ _) ?_;have hz1:gw (rk 96 G2) (zs++[(⟨ia,ib,ic,0,0⟩:ND)]) (ns++[⟨l,0,0⟩]):=(hz.imp fun _ _ h=>h.up).app (.cons ⟨hia,hib,hic,J,J⟩ .nil);refine eE<|tF [⟨wb,[nG ob wb],241,false⟩] (fun _=>false) [(0,true),(1,true),(2,true),(3,true),(4,true),(5,false),(6,true)] follows (by kernel_rfl)<|?_
  refine pH J J J J<|dM J J J<|dy J (fun _=>mI J) J J<|dF J J J<|dy J (fun _=>qv J tw J) J J<|?_;refine dc J J (By (c1:=[]) (M:=_::_::B1) (rest:=[]) J J (by rw[fL]) (Ic (lo:=false) (lo2:=false) hs hall1 hB1 hz1 (by simp;omega)) J ?_);rintro _ _ G3 fl _ hf _ ⟨x2,QU,B2,rfl,rfl,hB2,hz2⟩;have e1:fl ob=false:=hf _ aQ J;have e2:fl wb=false:=hf _ (aJ _ aQ) J;replace hB2:=hB2.relo fl;refine JU (own':=⟨ob,[.int .i64 0, .slice x2.a x2.n x2.c],69,false⟩::⟨wb,[nG ob wb],241,false⟩::B2.map (relo fl)) (by simp only[bY,relo,e1,e2,fL]) ?_;generalize B2.map (relo fl)=B2 at hB2;have hl2:=hz2.len;simp only[aY,Tr.wr_len,fM] at hl2;refine ln<|dA J J J<|dn<|eE<|tF [⟨wb,[nG ob wb],241,false⟩] (fun _=>false) [(0,true),(1,true),(2,true),(3,true),(4,true),(5,false),(6,true)] follows (by kernel_rfl)<|?_;refine pH J J J J<|dM J J J<|dy J (fun _=>mI J) J J<|dF J J J<|dy J (fun _=>qv J tw J) J J<|?_;refine dc J J (By (c1:=[]) (M:=_::_::B2) (rest:=[]) J J (by rw[fL]) (Ic (lo:=false) (lo2:=false) hu hall2 hB2 hz2 (by omega)) J ?_);rintro _ _ G4 fl _ hf _ ⟨x3,yn,B3,rfl,rfl,hB3,hz3⟩;have e3:fl ob=false:=hf _ aQ J;have e4:fl wb=false:=hf _ (aJ _ aQ) J;replace hB3:=hB3.relo fl;refine JU (own':=⟨ob,[.int .i64 0, .slice x3.a x3.n x3.c],69,false⟩::⟨wb,[nG ob wb],241,false⟩::B3.map (relo fl)) (by simp only[bY,relo,e3,e4,fL]) ?_;generalize B3.map (relo fl)=B3 at hB3;have hl3:=hz3.len;simp only[aY,Tr.wr_len,fM] at hl3;have hn3:zs.length<yn.length:=by omega
  rcases hB3 with⟨h1,_,_⟩|⟨nb,rest,lo3,hx3,rfl,hf1,hf2,hf3⟩
  .have:=congrArg List.length h1;rw[aX,eY] at this;omega
  obtain⟨x3a,x3n,x3c⟩:=x3;simp only[SV.mk.injEq] at hx3;obtain⟨rfl,rfl,_⟩:=hx3;rw[aX] at hf3;have hzz:ns.length=zs.length:=hzn.symm;obtain⟨zn,hzn1,hzn2⟩:=hz3.get (i:=zs.length) (b:=⟨l,0,0⟩) (by rw[dX,dX,<-hzz,jV (bW _),pY];rfl);obtain⟨_,hzn3⟩:=aT.1 hzn1;have hL1:(zs++[(⟨ia,ib,ic,0,0⟩:ND)]).length=zs.length+1:=by simp
  have hL2:QU.length=zs.length+1+s.size:=by omega
  rw[hL1] at hz3;rw[hL1,hL2];rw[hL2] at hz3;refine ln<|dA J J J<|dn<|?_;refine eE<|tF [⟨ob,[.int .i64 0, .slice (some ⟨nb,0,none⟩) (yn.map ND.val).length x3c],69,false⟩] (fun _=>false) [(0,true),(1,true),(2,true),(3,true),(4,true),(5,true),(6,true),(7,true),(8,true),(9,true),(10,false),(11,true),(12,true),(13,false)] follows (by kernel_rfl)<|?_;refine dF J J J<|pH J J J J<|dM J J J<|dF J J J<|?_;refine pH J J J J<|dM J J J<|dM J J J<|dM J J J<|dy J (fun _=>tn J J (by omega) (by rw[aX];omega)) J J<|?_;refine dF J J J<|?_;refine dc J J (uH J J (.tl _ _ _ _ _ _ _ _ (.tl _ _ _ _ _ _ _ _ (.hd ..))) (by rw[aY,hf1,aX,cK];omega) J J ?_);rw[cK,Ql yn rest zs.length 6 _ {zn with l:=s.num (zs.length+1)} hn3 (by decide) (by rw[hzn3];rfl)];refine ln<|dy J (fun _=>tn J J (by omega) (by rw[aX];omega)) J J<|dF J J J<|?_;refine dc J J (uH J J (.tl _ _ _ _ _ _ _ _ (.tl _ _ _ _ _ _ _ _ (.hd ..))) (by rw[aY,ek (s:=8) _ (ND.len8 _),aX,aN,cK];omega) J J ?_);rw[cK,Ql (yn.set zs.length _) rest zs.length 7 _ {zn with l:=s.num (zs.length+1),r:=u.num (zs.length+1+s.size)} (by rw[aN];exact hn3) (by decide) (by rw[List.getElem_set_self];rfl)];refine ln<|dn<|sR<|sm J J<|sa J J<|zE<|kD<|?_;have hfin:=hz3.set (a:={zn with l:=s.num (zs.length+1),r:=u.num (zs.length+1+s.size)}) (b:=⟨l,s.num (zs.length+1),u.num (zs.length+1+s.size)⟩) ⟨hzn2.a,hzn2.b,hzn2.c,J,J⟩ zs.length;have hns:(ns++[(⟨l,0,0⟩:NQ)]++s.wr (zs.length+1)++u.wr (zs.length+1+s.size)).set zs.length ⟨l,s.num (zs.length+1),u.num (zs.length+1+s.size)⟩=ns++(Tr.node l s u).wr zs.length:=by
   rw[dX,dX,nX _ _ (by omega),hzz,pY];simp[Tr.wr]
  rw[hns] at hfin;refine vE (.tmp J .nil) _ _ (List.Perm.refl _) (List.Sublist.refl _) ⟨⟨some ⟨nb,0,none⟩,(yn.map ND.val).length,x3c⟩,_,_,J,J,?_,hfin⟩;refine .inr ⟨nb,rest,lo3,by simp,by rw[List.set_set],?_,?_,?_⟩
  .rw[ek (s:=8) _ (ND.len8 _)]
  .rw[ek (s:=8) _ (ND.len8 _),aX,aN];rw[hf1,aX] at hf2;exact hf2
  .rw[aX,aN];exact hf3
def Pn(hb:t.all LB)(hs:t.size<=1000000):PF GB prog 76 [eU t] (eA t):=by
 intro G vs _ hv;obtain⟨v0,m,rfl,h,hm⟩:=bi.1 hv;rw[d8] at hm;subst hm;obtain⟨p,rfl⟩:=u' h;refine Fn.intro func76 J J ntmps76 J ?_;intro C _ hC;refine sR<|?_;refine sc (ug J ?_);intro b1;refine zE<|sR<|?_;refine sc (ug J ?_);intro b2;refine zE<|sR<|?_;refine sc (ug J ?_);intro b3;refine zE<|sR<|sy (F' J J) J<|?_;refine sc (ym (cs':=[nG b2 b3]) J J J (.hd ..) (nb J) J J ?_);refine zE<|sR<|mz J J J<|sm J J<|?_;refine sc (By (c1:=[]) (M:=[⟨b2,[.int .i64 0, .slice none 0 0],69,true⟩,⟨b3,[nG b2 b3],241,true⟩]) (rest:=[⟨b1,[.int .i64 0, .slice none 0 0],69,true⟩]) J J (List.Perm.swap ..) (Ic (A:=G) (A2:=G) (x:=⟨none,0,0⟩) (zs:=[]) (ns:=[]) (B:=[]) h hb (ig.nil ..) .nil (by simpa using hs)) J ?_);rintro _ _ G4 fl _ _ hf ⟨x,zs,B,rfl,rfl,hB,hz⟩;have e1:=hf (by simp) b2;have e2:=hf (by simp) b3;replace hB:=hB.relo fl;refine JU (own':=⟨b2,[.int .i64 0, .slice x.a x.n x.c],69,true⟩::⟨b3,[nG b2 b3],241,true⟩::(B.map (relo fl)++[⟨b1,[.int .i64 0, .slice none 0 0],69,true⟩])) (by simp only[bY,relo,e1,e2,gL]) ?_;generalize B.map (relo fl)=B at hB;refine AD (⟨b2,[.int .i64 0, .slice x.a x.n x.c],69,true⟩::⟨b3,[nG b2 b3],241,true⟩::⟨b1,[.int .i64 0, .slice none 0 0],69,true⟩::B) ((iT (l₁:=B) (l₂:=[_])).cons _ |>.cons _) ?_;refine sf J J<|?_;refine sc (ym (cs':=[.int .i64 (t.num 0), .slice x.a x.n x.c]) J J J (.hd ..) (nb J) J J ?_);refine zE<|sR<|B9 J J J<|?_;refine sc (DY (cs':=[.int .i64 (t.num 0), .slice x.a x.n x.c]) J J J (.tl _ _ _ _ _ _ _ _ (.tl _ _ _ _ _ _ _ _ (.hd ..))) J (nb J) J J ?_)
 refine zE<|?_;refine VA (L:=[_,_,_]) hC hB (ND.len8 _) ?_;intro G5 _ hsl;show St C _ _ [⟨b2,_,_,true⟩,⟨b3,_,_,true⟩,⟨b1,[.int .i64 (t.num 0), .slice x.a x.n x.c],69,true⟩] _ _;refine kD<|?_;exact zD (.agg J ii ii J .nil) (aD1 (k:=96) ⟨zs,hsl,by rw[jL] at hz;exact hz.imp fun _ _ h=>h.up⟩)
def Tr.pre:Tr->List Tr
 | .leaf b=>[.leaf b]
 | .node l x y=> .node l x y::(x.pre++y.pre)
structure Kh (f:FuncId) (c2:List Value) (σ:Type) (step:σ->Tr->σ) (ok:σ->Tr->Prop) (Inv:σ->List av->Gh->Prop):Prop where
 up: ∀{s B G G'},bH G G'->Inv s B G->Inv s B G'
 re: ∀{s B G} (fl:Nat->Bool),Inv s B G->Inv s (B.map (relo fl)) G
 go: ∀{s t p B G},ok s t->Inv s B G->Is G (eU t) (.pointer p)->gG prog f (.pointer p::c2) B G (fun _ B' G'=>Inv (step s t) B' G')
section
variable {own:List av}
def JT{fn:Func}{vs:List Value}(hr:j0 P fr own fn.results.toList vs)(own2 own3:List av)(hp:own.Perm own2)(hs:own3.Sublist own2)(hk:K (nv vs) own3 G):St C n fr own G (eH C P fn (qa C K) .normal):=
 fun a w rl hmk=>⟨rl.df.trans hmk,_,sv hr rl.fr rl.h,_,own3,G,J,(rl.h.perm hp).drop hs,hk⟩
end
def vi{σ:Type}(step:σ->Tr->σ)(ok:σ->Tr->Prop):σ->List Tr->Prop
 |_,[]=>True
 |s,t::ts=>ok s t/\vi step ok (step s t) ts
structure EX (σ:Type) where
 ts:List Tr
 vs:List Value
 rest:List Value
 b:Nat
 cap:Nat
 lo:Bool
 s:σ
 B:List av
def q6(t:Tr):Nat:=2*t.size+1
def TG(ts:List Tr):ts.length<=(ts.map q6).sum:=by
 induction ts with
 |nil=>exact bW _
 |cons t ts ih=>simp only[bQ,bY,sV,q6];omega
def px(ts:List Tr):List Tr:=ts.reverse.flatMap Tr.pre
structure EI (A:Gh) {σ:Type} (step:σ->Tr->σ) (ok:σ->Tr->Prop) (Inv:σ->List av->Gh->Prop) (N:Nat) (fin:σ) (x:EX σ) (G:Gh):Prop where
 rel:gw (fun v t=> ∃p,v= .pointer p/\Is A (eU t) (.pointer p)) x.vs x.ts
 cap:x.vs.length+x.rest.length=x.cap
 inv:Inv x.s x.B G
 mu:(x.ts.map q6).sum<=N
 okf:vi step ok x.s (px x.ts)
 fin:(px x.ts).foldl step x.s=fin
def HG{α β:Type}{R:α->β->Prop}{v:α}{t:β}: ∀{vs:List α} {ts:List β},gw R (vs++[v]) (ts++[t])->gw R vs ts/\R v t
 |[],[], .cons h .nil=>⟨.nil,h⟩
 |[],_::b, .cons _ h=>by cases b<;>cases h
 |_::a,[], .cons _ h=>by cases a<;>cases h
 |_::_,_::_, .cons h k=>⟨.cons h (HG k).1,(HG k).2⟩
def Si{step:σ->Tr->σ}{ok:σ->Tr->Prop}{Inv:σ->List av->Gh->Prop}(V:Kh f c2 σ step ok Inv){p:Option Addr}{s:σ}{B:List av}
  (h:Is G (eU t) (.pointer p))(hI:Inv s B G)(hok:vi step ok s t.pre)(hs:t.size<=1000000000000):
  gG prog 271 [.pointer p, .func (.func f) #[] ⟨c2⟩] B G (fun _ B' G'=>Inv (t.pre.foldl step s) B' G'):=by
 refine gG.intro func271 J J ntmps271 J ?_;intro C _ _;refine sR<|sm J J<|?_;refine sc (J6 J (by rfl) (by rfl) (by decide) (by decide) J ?_);intro b1;refine sa J J<|zE<|uQ<|?_;refine Nn (X:=EX σ) (fun x=>[(4, .slice (some ⟨x.b,0,none⟩) x.vs.length x.cap),(1, .func (.func f) #[] ⟨c2⟩)]) (fun x=>⟨x.b,x.vs++x.rest,143,x.lo⟩::x.B) (EI G step ok Inv (q6 t) (t.pre.foldl step s)) (fun x=>(x.ts.map q6).sum)
  ⟨[t],[.pointer p],[],b1,1,true,s,asB B⟩ ⟨.cons ⟨p,J,h⟩ .nil,J,V.re (fun _=>false) hI,by simp,by simpa[px] using hok,by simp[px]⟩ (.cons J (.cons J .nil)) J ?_
 rintro ⟨ts,vs,rest,b,cap,lo,s1,B1⟩ Gx _ ⟨hrel,hcap,hinv,hmu,hokf,hfin⟩;simp only at hrel hcap hinv hmu hokf hfin;have hln:=hrel.len;have hlt:=TG ts;unfold q6 at hmu hlt;refine eE<|sR<|sm J J<|rF J J<|sy (Bs J J) J<|zE<|?_;refine P' J (fun hc=>?_) (fun hc=>?_)
 .refine Kv<|D4<|D4<|Lk<|?_
  refine JT .nil _ _ (List.Perm.refl _) (mU _ _) ?_;obtain rfl:ts=[]:=by
   cases ts with
   |nil=>rfl
   |cons a l=>simp only[bQ] at hln;exfalso;apply hc;show(0:Int)<(vs.length:Int);omega
  have:s1=t.pre.foldl step s:=hfin;rw[<-this];exact hinv
 refine zK<|?_;obtain⟨vs,v,rfl⟩: ∃vs' v',vs=vs'++[v']:=by
  rcases nJ vs with e|⟨a,b,e⟩
  .subst e;simp at hc
  .exact⟨a,b,by rw[e,nK]⟩
 obtain⟨ts,u,rfl⟩: ∃vs' v',ts=vs'++[v']:=by
  rcases nJ ts with e|⟨a,b,e⟩
  .subst e;simp at hln
  .exact⟨a,b,by rw[e,nK]⟩
 obtain⟨hrel1,q,rfl,hq⟩:=HG hrel;have hl1:(vs++[Value.pointer q]).length=vs.length+1:=by simp
 have hst:px (ts++[u])=u.pre++px ts:=by simp[px]
 rw[hst] at hokf hfin;simp only[bX,sU,bY,gN,sV,List.sum_nil,gX,aY,fM] at hmu hlt hln hcap;refine Sp [(4,Value.slice (some ⟨b,0,none⟩) (vs.length+1:Nat) cap),(1, .func (.func f) #[] ⟨c2⟩)] (.cons (by show some (Value.slice _ (vs++[Value.pointer q]).length _)=_;rw[hl1]) (.cons J .nil)) ?_;refine uQ<|sR<|sm J J<|rF J J<|sy (XF J J) J<|sa J J<|zE<|sR<|sm J J<|?_;rw[show((vs.length+1:Nat):Int)-1=(vs.length:Nat) by omega];refine sm J J<|sy (tn J J) J<|?_;refine sy (nn (v:=Value.pointer q) J (by rw[cK,iN,dX,jV (bW _),pY];rfl)) J<|sa J J<|zE<|sR<|sm J J<|sm J J<|sy (EN J J) J<|?_;rw[cK];refine sa J J<|zE<|sR<|sm J J<|sm J J<|?_;have hokq:ok s1 u/\vi step ok (step s1 u) (u.pre.tail++px ts):=by cases u<;>exact hokf
 refine sc (By (c1:=[]) (M:=B1) (rest:=[⟨b,vs++[Value.pointer q]++rest,143,lo⟩]) J J (iT (l₁:=[_])) (V.go hokq.1 hinv (hq.up GL.le)) J ?_);rintro _ B2 G2 fl _ _ _ hinv2;replace hinv2:=V.re fl hinv2;refine AD (⟨b,vs++Value.pointer q::rest,143,lo⟩::B2.map (relo fl)) (by rw[dX];exact(iT (l₂:=[_]))) ?_;generalize B2.map (relo fl)=B2 at*;refine zE<|sR<|sm J J<|?_
 cases u with
 |leaf bb=>
  refine sc (zC J J (PF.fn0 oq (.cons (hq.up GL.le) .nil)) J ?_);rintro _ G3 _ hv
  cases aH.1 hv
  refine sy (r4 J) J<|zE<|qD J<|zK<|?_;exact Fi ⟨ts,vs,Value.pointer q::rest,b,cap,lo,step s1 (.leaf bb),B2⟩ ⟨hrel1,by simp only[bQ];omega,V.up GL.le hinv2,by simp only;unfold q6;omega,hokq.2,hfin⟩ (by simp only[bX,sU,bY,gN,sV,List.sum_nil];unfold q6;omega) (.cons J (.cons J .nil)) J
 |node l x y=>
  obtain⟨nbk,m,e,hg,hm⟩:=lm.1 (id hq)
  cases e
  obtain⟨n1,d1,p1,n2,d2,p2,n3,d3,p3,q1,q2,rfl,_,hx,hy⟩:=Md hm;have hgg:s8 G nbk _:=⟨hg⟩;refine sc (zC J J (PF.fn0 qm (.cons (hq.up GL.le) .nil)) J ?_);rintro _ G3 _ hv
  cases aH.1 hv
  refine sy (r4 J) J<|zE<|sC J<|?_;refine tF [] (fun _=>false) [(0,true),(1,true),(2,true),(3,true),(4,true),(5,true),(6,true),(7,true),(8,true),(9,false),(10,false),(11,true)] follows (by kernel_rfl)<|dM J J J<|?_;refine dM J J J<|dy J (fun _=>mI J) J J<|dF J J J<|dy J (fun _=>qv J tw J) J J<|?_;refine dM J J J<|dy J (fun _=>mI J) J J<|dF J J J<|dy J (fun _=>qv J tw J) J J<|?_;refine dc J J (LC (by rfl) (by rfl) (by rfl) (by rfl) J ?_);intro b3;refine ln<|?_;refine dc J J (Hh (m:=2) (xs:=vs) (ys:=[Value.pointer q2,Value.pointer q1]) (rest:=Value.pointer (some ⟨nbk,0,none⟩)::rest) J J (.tl _ _ _ _ (.hd ..)) (by omega) (by simp only[bQ];omega) (by omega) (xy inferInstance J) J (by simp[Sx.flat]) (by decide) (by omega) (by rfl) J ?_);intro b4 lo4 cap4 rest4 h1 h2;refine ln<|dA J J J<|dn<|?_;have hsz:(Tr.node l x y).size=1+x.size+y.size:=J;refine M' (⟨b4,vs++[Value.pointer q2,Value.pointer q1]++rest4,143,lo4⟩::B2) (.cons_cons _ (mU _ _)) ?_;have hs2:px (ts++[y,x])=x.pre++y.pre++px ts:=by simp[px]
  refine Fi ⟨ts++[y,x],vs++[Value.pointer q2,Value.pointer q1],rest4,b4,cap4,lo4,step s1 (.node l x y),B2⟩ ⟨hrel1.app (.cons ⟨_,J,hy⟩ (.cons ⟨_,J,hx⟩ .nil)),by simp only[aY,bQ,eY];omega,V.up GL.le hinv2,?_,?_,?_⟩ ?_ (.cons (by show some (Value.slice _ (vs.length+2) _)=some (Value.slice _ (vs++[_,_]).length _);rw[aY];rfl) (.cons J .nil)) J
  .simp only[bX,sU,bY,gN,sV,List.sum_nil];unfold q6;omega
  .simp only;rw[hs2];exact hokq.2
  .simp only;rw[hs2];exact hfin
  .simp only[bX,sU,bY,gN,sV,List.sum_nil];unfold q6;omega
def avL{own:List av}{Φ:Act->World->Prop}{dst:Option Nat}{ty':TypeId}{pos:String}{af:Array Edge}{gd:Option (Nat×Bool)}{fo:Operand}{args:Array Operand}{tys:Array TypeId}{vs:List Value}{rest:List av}(ho:aB fr fo=some (.func (.func f) #[] #[]))(hv:fg fr args.toList=some vs)
  (hp:own.Perm (M++rest))(hF:gG P f vs M G K)(hd:b8 n dst=true)
  (h: ∀v own1 (G':Gh) (fl:Nat->Bool),[GE G G']->(∀m∈M,m.lo=false->fl m.b=false)->((∀m∈M,m.lo=true)-> ∀b,fl b=true)->K v own1 G'->St C n (put fr dst v) (own1.map (relo fl)++rest) G' Φ):
  Ch P C n fr own G ⟨dst, .call ⟨.value fo,args,tys⟩,ty',pos,af,gd⟩ Φ:=
 By (c1:=[]) (c2:=[]) ho hv hp (by simpa using hF) hd h
def szI(nbk:Nat)(s:Nat)(B:List av)(_:Gh):Prop:= ∃lo,B=[⟨nbk,[.int .i64 s],3,lo⟩]
def sP(s:Nat):Tr->Nat
 | .leaf _=>s
 | .node .. =>s+1
def SM(nbk:Nat):Kh 272 [.pointer (some ⟨nbk,0,none⟩)] Nat sP (fun s _=>s<1000000000000) (szI nbk) where
 up:=fun _ h=>h
 re:=fun{s B G} fl h=>by obtain⟨lo,rfl⟩:=h;exact⟨_,rfl⟩
 go:=by
  intro s t p B G hs hI ht;obtain⟨lo,rfl⟩:=hI;refine gG.intro func272 J J ntmps272 J ?_;intro C _ _;show St C _ _ [⟨nbk,_,_,false⟩] _ _
  cases t with
  |node l x y=>
   refine sR<|sm J J<|?_;refine sc (zC J J (PF.fn0 qm (.cons ht .nil)) J ?_);rintro _ G1 _ hv
   cases aH.1 hv
   refine sy (r4 J) J<|zE<|sC J<|EF<|mz J J J<|sy (u9 J J) J<|?_;refine sc (ym J J J (.hd ..) (nb J) J J ?_);refine zE<|?_;exact JT .nil _ _ (List.Perm.refl _) (List.Sublist.refl _) ⟨false,by show [_]=[_];rfl⟩
  |leaf b=>
   refine sR<|sm J J<|?_;refine sc (zC J J (PF.fn0 oq (.cons ht .nil)) J ?_);rintro _ G1 _ hv
   cases aH.1 hv
   refine sy (r4 J) J<|zE<|qD J<|zK<|?_;exact JT .nil _ _ (List.Perm.refl _) (List.Sublist.refl _) ⟨false,J⟩
def IS: ∀(t:Tr) (s:Nat),t.pre.foldl sP s=s+t.size
 | .leaf _,s=>rfl
 | .node l x y,s=>by
  simp only[Tr.pre,kY,nL,sP,IS x,IS y,Tr.size];omega
def HO: ∀(t:Tr) (s:Nat) (L:List Tr),s+t.size<1000000000000->(∀s',s'=s+t.size->vi sP (fun s _=>s<1000000000000) s' L)->vi sP (fun s _=>s<1000000000000) s (t.pre++L)
 | .leaf _,s,L,h,k=>⟨by simp only[Tr.size] at h;omega,k _ J⟩
 | .node l x y,s,L,h,k=>by
  simp only[Tr.size] at h k;simp only[Tr.pre,gL,dX];exact⟨by omega,HO x _ _ (by simp only[sP];omega) fun s1 e1=>HO y _ _ (by subst e1;simp only[sP];omega) fun s2 e2=>k _ (by subst e1 e2;simp only[sP];omega)⟩
def Xu(hs:t.size<1000000000000):PF GB prog 213 [eU t] (vI (t.size:Nat)):=by
 intro G vs _ hv;obtain⟨v0,m,rfl,h,hm⟩:=bi.1 hv;rw[d8] at hm;subst hm;obtain⟨p,rfl⟩:=u' h;refine Fn.intro func213 J J ntmps213 J ?_;intro C _ _;refine sR<|sa J J<|zE<|sR<|?_;refine sc (ug J ?_);intro b1;refine sc (ym J J J (.hd ..) (nb J) J J ?_);refine zE<|sR<|sm J J<|sy (F' J J) J<|?_;have hok:vi sP (fun s _=>s<1000000000000) 0 t.pre:=by
  have:=HO t 0 [] (by omega) (fun _ _=>trivial);rwa [fL] at this
 refine sc (avL (M:=[⟨b1,[.int .i64 0],3,true⟩]) (rest:=[]) J J (List.Perm.refl _) (Si (SM b1) h ⟨true,J⟩ hok (by omega)) J ?_);rintro _ B G2 fl _ _ _ ⟨lo,rfl⟩;rw[IS,eX];show St C _ _ [⟨b1,[.int .i64 t.size],3,_⟩] _ _;refine zE<|sR<|mz J J J<|sa J J<|zE<|kD<|?_;exact zD (.tmp J .nil) (aH.2 J)

end Go.Sx
end
section
namespace Go.Sx
open Go Go.Proofs Go.RowKit Go.Extern.Stop Go.Stop Go.Extern
def PQ(a:Addr):DV:= .v (.iface 441 (.pointer (some a)))
end Go.Sx
end
section
namespace Go.Sx
open Go Go.Proofs Tryz
variable {GB:Gh}{own' own1:aG}{g nm0 nm k ty:Nat}{f:FX}{Φ:Act->World->Prop}{c:Code}{K:List Kt}{ty0:TypeId}{lo:Bool}{op:Int}{a b t u:Tr}{ai al ae:Addr}
section
variable {C:aE}{n:Nat}{Q0:Exit->Act->World->Prop}{fr fr':aC}{own:aG}{cf cf':Cf}{vc:List Prop}
def Q4(fr:aC)(cf:Cf):Option Nat:=match cE fr cf with
 |some ⟨_, .load t (.global g),_,_,_,_⟩=>(match dE tt t with
  |some i=>match i.ag with
   |some none=>some g
   |_=>none
  |none=>none)
 |_=>none
def gl[fu:Fu]{v:Value}(h:Q4 fr cf=some g)(hg:GB g=some [v])(hgo:cx tt n fu.n fr own cf (.d (.v v)) [] []=⟨vc,fr',own',cf'⟩)(k:aA prog GB C n Q0 fr' own' cf')
  (hv:autoParam (ak vc) cL._auto_1):aA prog GB C n Q0 fr own cf:=by
 unfold Q4 at h;split at h<;>try (cases h;done)
 rename_i hh;split at h<;>try (cases h;done)
 rename_i i hT;split at h<;>cases h;rename_i ha;haveI:=vd (eh _ _ hT) ha;refine us (f:= .d (.v v)) hh (bP.yd fun ρ G ov a w r=>⟨v,(aH (G:=G)).2 J,?_⟩) hgo hv k;haveI:s8 G g [v]:=⟨r.gb _ _ hg⟩;exact qv (b:=g) (off:=0) J tw J
def W6{d:Nat}{x:DV}(hl:aP fr d=some f)(e:ju f=some x)(h:SX GB C n (aP ((d, .d x)::fr)) (bj own) Φ):SX GB C n (aP fr) (bj own) Φ:=oG (g:= .d x) hl (fun _ _ _ k=>lE k e) h
def ZU(d:Nat)(x:DV)(hl:aP fr d=some f)(e1:ju f=some x)(k:aA prog GB C n Q0 ((d, .d x)::fr) own (.code c K)):aA prog GB C n Q0 fr own (.code c K):=W6 hl e1 k
def aHh{B1 B2:Option Bk}:bj (oc (oc own nm0 B1) nm B2)=upB (upB (bj own) [(nm0,B1)]) [(nm,B2)]:=by
 funext j;rw[Ae];simp only[upB];rw[Ae]
def WU(hnm:Nat.blt nm 2000000=true){cs:List FX}(hb:bj own nm0=some (.o ty0 cs lo))(hk:cs[k]? =some .nl)(hne:nm0≠nm){s:Nat}(hf:jw [nm] none (aP fr) (bj own))
  (h:SX GB C n (aP fr) (bj (oc (oc own nm0 (some (.o ty0 (cs.set k (.rw nm)) lo))) nm (some (.b ty s [] true)))) Φ):SX GB C n (aP fr) (bj own) Φ:=by
 refine⟨fun ρ G ov a w r=>?_⟩;obtain⟨f1,f2⟩:=hf nm aQ;rw[aHh] at h;refine h.run (fun k=>if k=nm then⟨none,0,0⟩ else ρ k) G ov a w ⟨r.gb,r.h,r.sz,r.df,fun k f e=>?_,fun m B e=>?_,fun m m' B B' e e' hne=>?_,fun m p h1 h2 e=>by
  have:nm<2000000:=by simpa[kS] using hnm
  show(if m=nm then(⟨none,0,0⟩:SV) else ρ m).a=_;rw[if_neg (by omega)];exact r.fxd m p h1 h2 e⟩
 .obtain⟨v,h1,h2⟩:=r.fx k f e
  exact⟨v,h1,h2.ren fun m hm=>th _ fun hc=>f1 k f (by simp) e (by rw[hm,hc])⟩
 .simp only[upB] at e
  by_cases hm:m=nm
  .subst hm;simp only[if_true] at e;cases e
   exact⟨[],⟨[],by simp only[if_true];exact .inl ⟨J,J,J⟩, .nil,by simp,fun _ o ho=>by cases ho⟩,fun o ho=>by cases ho⟩
  .simp only[hm,if_false] at e
   by_cases hm0:m=nm0
   .subst hm0;simp only[if_true] at e;cases e
    obtain⟨os,h1,h2⟩:=r.bx m _ hb;have h1':kz (fun k=>if k=nm then⟨none,0,0⟩ else ρ k) G m (.o ty0 cs lo) os:=h1.ren (if_neg hm) fun q hq=>th _ fun hc=>f2 m _ hm hb (by rw[<-hc];exact hq);obtain⟨b,ms,k1,k2,k3⟩:=h1';refine⟨os,⟨b,ms,k1,k2,?_⟩,h2⟩;obtain⟨y,e1,e2⟩:=k3.get hk;have:=k3.set (f:= .rw nm) (y:=y) k (by show y=_;simp only[if_true];exact e2);rwa [show ms.set k y=ms by apply lW;intro j;rw[pK];split<;>(try rfl);rename_i hj;subst hj;split<;>simp_all] at this
   .simp only[hm0,if_false] at e
    obtain⟨os,h1,h2⟩:=r.bx m B e;exact⟨os,h1.ren (if_neg hm) fun q hq=>th _ fun hc=>f2 m B hm e (by rw[<-hc];exact hq),h2⟩
 .intro b hbb hb'
  have key: ∀q B,upB (upB (bj own) [(nm0,some (.o ty0 (cs.set k (.rw nm)) lo))]) [(nm,some (.b ty s [] true))] q=some B->q≠nm-> ∃B0,bj own q=some B0:=fun q B eq hq=>by
   simp only[upB,hq,if_false] at eq;by_cases hq0:q=nm0
   .subst hq0;exact⟨_,hb⟩
   .simp only[hq0,if_false] at eq;exact⟨_,eq⟩
  by_cases hm:m=nm
  .simp[hm] at hbb
  .by_cases hm':m'=nm
   .simp[hm'] at hb'
   .obtain⟨B0,g0⟩:=key m B e hm
    obtain⟨B1,g1⟩:=key m' B' e' hm';simp only[hm,hm',if_false] at hbb hb';exact r.dj m m' B0 B1 g0 g1 hne b hbb hb'
def IB(nm0 k nm ty s:Nat){cs:List FX}(hb:bj own nm0=some (.o ty0 cs lo))(hk:cs[k]? =some .nl)(hf:uq [nm] none fr own=true)(hne:Nat.beq nm0 nm=false)
  (ho:oc (oc own nm0 (some (.o ty0 (cs.set k (.rw nm)) lo))) nm (some (.b ty s [] true))=own1)(h:aA prog GB C n Q0 fr own1 (.code c K))(hnm:Nat.blt nm 2000000=true:=by rfl):aA prog GB C n Q0 fr own (.code c K):=by
 subst ho;exact WU hnm hb hk (fun e=>by subst e;rw[nS] at hne;cases hne) (A5 hf) h
def NR{ρ:NE}{G:Gh}: ∀{a b:List FX} {m:List Value},c6 ρ G (a++b) m-> ∃m1 m2,m=m1++m2/\c6 ρ G a m1/\c6 ρ G b m2
 |[],b,m,h=>⟨[],m,J,J,h⟩
 |f::t,b,m,⟨y,n,e,h1,h2⟩=>by
  obtain⟨m1,m2,rfl,k1,k2⟩:=NR h2;exact⟨y::m1,m2,e,⟨y,m1,J,h1,k1⟩,k2⟩
end
structure EG (GB:Gh) (ai al ae:Addr):Prop where
 ErrInvalid:GB 1=some [.iface 441 (.pointer (some ai))]
 ErrLimit:GB 2=some [.iface 441 (.pointer (some al))]
structure Tr.gd (t:Tr):Prop where
 lb:t.all LB
 ok:t.all aa.ok
def Tr.restrict_size: ∀(t:Tr) (c:ar),(t.restrict c).size<=t.size
 | .leaf _,_=>bW _
 | .node l x y,c=>by
  rw[Tr.restrict];have hx:=fun c=>x.restrict_size c;have hy:=fun c=>y.restrict_size c;split
  .have:=hx c;simp only[Tr.size];omega
  .split
   .have:=hy c;simp only[Tr.size];omega
   .have h1:=hx (bz c l)
    have h2:=hy (bz c l.rev);rcases Tr.joinQ_cases l (x.restrict (bz c l)) (y.restrict (bz c l.rev)) with⟨h,_⟩|⟨h,_⟩<;>rw[h]<;>(try simp only[Tr.size])<;>omega
def Tr.compl_size: ∀t:Tr,t.compl.size=t.size
 | .leaf _=>rfl
 | .node l x y=>by simp only[Tr.compl,Tr.size,x.compl_size,y.compl_size]
def Tr.compl_all(p:aa->Prop): ∀t:Tr,t.all p->t.compl.all p
 | .leaf _,h=>h
 | .node l x y,⟨h0,h1,h2⟩=>⟨h0,x.compl_all p h1,y.compl_all p h2⟩
def Tr.compl_depth: ∀t:Tr,t.compl.depth=t.depth
 | .leaf _=>rfl
 | .node l x y=>by simp only[Tr.compl,Tr.depth,x.compl_depth,y.compl_depth]
def Tr.chooseQ_all(p:aa->Prop)(op:Int)(b:Bool)(t:Tr)(c:ar)(h:t.all p):(t.chooseQ op b c).all p:=by
 have:=t.restrict_all p c h;unfold chooseQ;split
 .split
  .trivial
  .exact this
 .split
  .trivial
  .split
   .exact(t.restrict c).compl_all p this
   .exact this
def Tr.chooseQ_size(op:Int)(b:Bool)(t:Tr)(c:ar):(t.chooseQ op b c).size<=t.size:=by
 have:=t.restrict_size c;unfold chooseQ;split
 .split
  .exact bJ _
  .exact this
 .split
  .exact bJ _
  .split
   .rw[(t.restrict c).compl_size];exact this
   .exact this
def Tr.mergeQ_all(p:aa->Prop)(op:Int){u:Tr}(hu:u.all p): ∀(t:Tr) (c:ar),t.all p->(t.mergeQ op u c).all p
 | .leaf b,c,_=>u.chooseQ_all p op b c hu
 | .node l x y,c,⟨h0,h1,h2⟩=>by
  rw[Tr.mergeQ];split
  .exact Tr.mergeQ_all p op hu x c h1
  .split
   .exact Tr.mergeQ_all p op hu y c h2
   .rcases Tr.joinQ_cases l (x.mergeQ op u (bz c l)) (y.mergeQ op u (bz c l.rev)) with⟨h,_⟩|⟨h,_⟩
    .rw[h];exact Tr.mergeQ_all p op hu x _ h1
    .rw[h];exact⟨h0,Tr.mergeQ_all p op hu x _ h1,Tr.mergeQ_all p op hu y _ h2⟩
def Tr.mergeQ_size(op:Int)(u:Tr): ∀(t:Tr) (c:ar),(t.mergeQ op u c).size+1<=(t.size+1)*(u.size+1)
 | .leaf b,c=>by
  have:=u.chooseQ_size op b c;show(u.chooseQ op b c).size+1<=(0+1)*(u.size+1);omega
 | .node l x y,c=>by
  have hx:=fun c=>Tr.mergeQ_size op u x c;have hy:=fun c=>Tr.mergeQ_size op u y c;have e:((Tr.node l x y).size+1)*(u.size+1)=(x.size+1)*(u.size+1)+(y.size+1)*(u.size+1):=by
   rw[<-dV];congr 1;simp only[Tr.size];omega
  rw[e,Tr.mergeQ];split
  .have:=hx c;omega
  .split
   .have:=hy c;omega
   .have h1:=hx (bz c l)
    have h2:=hy (bz c l.rev);rcases Tr.joinQ_cases l (x.mergeQ op u (bz c l)) (y.mergeQ op u (bz c l.rev)) with⟨h,_⟩|⟨h,_⟩<;>rw[h]<;>(try simp only[Tr.size])<;>omega
def Tr.depth_size: ∀t:Tr,t.depth<=t.size
 | .leaf _=>bW _
 | .node l x y=>by
  have h1:=x.depth_size;have h2:=y.depth_size;simp only[Tr.depth,Tr.size];omega
def hH(op:Int)(a b:Tr):Option Tr:=if 1024<a.depth+b.depth then none else if 65536<(a.mergeQ op b []).size then none else some (a.mergeQ op b [])
def Qt(al:Addr):Option Tr->DV
 |some t=> .tp [eU t, .v .nilIface]
 |none=> .tp [.v (.pointer none),PQ al]
def Ja(ha:a.gd)(hb:b.gd)(h:hH op a b=some t):t.gd/\t.size<=65536:=by
 unfold hH at h;split at h
 .cases h
 .split at h
  .cases h
  .cases h
   exact⟨⟨Tr.mergeQ_all LB op hb.lb a [] ha.lb,Tr.mergeQ_all aa.ok op hb.ok a [] ha.ok⟩,by omega⟩
def RC(hE:EG GB ai al ae)(ha:a.gd)(hb:b.gd)(hsa:a.size<=65536)(hsb:b.size<=65536):PF GB prog 138 [vI op,eU a,eU b] (Qt al (hH op a b)):=by
 have hda:=a.depth_size;have hdb:=b.depth_size;have hms:=Tr.mergeQ_size op b a [];have hmm:(a.size+1)*(b.size+1)<=65537*65537:=fJ (by omega) (by omega);refine fn func138 J J ntmps138 J J (fun C=>?_);refine cl J (wi (t:=a) (by omega)) J<|cl J (wi (t:=b) (by omega)) J<|br J J J (fun hc14=>?_) (fun hc14=>?_)
 .
  refine gl J hE.ErrLimit J<|rz J (by unfold hH;rw[if_pos (by omega)];rfl)
 .
  refine cl J (JO (op:=op) (t:=a) (u:=b) (c:=[]) hb.lb hb.ok ha.lb ha.ok (fun s h=>by cases h) (by simp only[eY];omega)) J<|cl J (Xu (t:=a.mergeQ op b []) (by omega)) J<|br J J J (fun hc22=>?_) (fun hc22=>?_)
  .
   refine gl J hE.ErrLimit J<|rz J (by unfold hH;rw[if_neg (by omega),if_pos (by omega)];rfl)
  .
   exact rz J (by unfold hH;rw[if_neg (by omega),if_neg (by omega)];rfl)
def Lh(hE:EG GB ai al ae)(ha:a.gd)(hb:b.gd)(hsa:a.size<=65536)(hsb:b.size<=65536)(h:hH op a b=some t):PF GB prog 138 [vI op,eU a,eU b] (.tp [eU t, .v .nilIface]):=by
 have:=RC hE (op:=op) ha hb hsa hsb;rw[h] at this;exact this
def VQ(hE:EG GB ai al ae)(ha:a.gd)(hb:b.gd)(hsa:a.size<=65536)(hsb:b.size<=65536)(h:hH op a b=none):PF GB prog 138 [vI op,eU a,eU b] (.tp [.v (.pointer none),PQ al]):=by
 have:=RC hE (op:=op) ha hb hsa hsb;rw[h] at this;exact this
def Qj(hE:EG GB ai al ae)(ha:a.gd)(hb:b.gd)(hsa:a.size<=65536)(hsb:b.size<=65536)(h:hH op a b=some t):PF GB prog 75 [vI op,eU a,eU b] (.tp [eU t, .v .nilIface]):=by
 refine fn func75 J J ntmps75 J J (fun C=>?_);refine cl J (Lh hE ha hb hsa hsb h) J<|rz J J
def m8(op:Int):Tr->List Tr->Option Tr
 |t,[]=>some t
 |t,u::us=>match hH op t u with
  |none=>none
  |some r=>m8 op r us
def K9{us:List Tr}(h:us[k]? =some u):m8 op t (us.drop k)=match hH op t u with|none=>none|some r=>m8 op r (us.drop (k+1)):=by
 rw[Dh h];rfl
def Mp(h:t.gd)(c:ar):(t.restrict c).gd:=⟨t.restrict_all LB c h.lb,t.restrict_all aa.ok c h.ok⟩
def U4(hE:EG GB ai al ae){us:List Tr}(ha:a.gd)(hsa:a.size<=65536)(hus: ∀u∈us,u.gd/\u.size<=65536)(hn:us.length<=1000000):PF GB prog 148 [vI op,eU a, .sl (us.map eU)] (Qt al (if 1024<a.depth then none else m8 op (a.restrict []) us)):=by
 have hda:=a.depth_size;have hm:=r7 eU us;have hrs:=a.restrict_size [];have hrg:=Mp ha [];refine fn func148 J J ntmps148 J J (fun C=>?_);refine cl J (wi (t:=a) (by omega)) J<|br J J J (fun hc14=>?_) (fun hc14=>?_)
 .
  refine gl J hE.ErrLimit J<|rz J (by rw[if_pos (by omega)];rfl)
 .
  refine cl (fu:=⟨8⟩) J (Qi (t:=a) ha.lb ha.ok) J<|aj 19 (.d (vI (us.length:Nat))) J (by rw[hm]<;>rfl)<|gx J<|lp (X:=Tr×Nat) (fun⟨t,k⟩=>[(20, .d (vI (k:Nat))),(8, .d (eU t))]) (fun⟨t,k⟩=>[]) (fun⟨t,k⟩=>k<=us.length/\t.gd/\t.size<=65536/\m8 op t (us.drop k)=m8 op (a.restrict []) us) (fun⟨t,k⟩=>us.length-k) (a.restrict [],0) J ⟨bJ _,hrg,by omega,J⟩ (fun _=>J) (fun⟨t,k⟩ hk=>?_);dsimp only at hk⊢;obtain⟨h1,h2,h3,h4⟩:=hk;refine br J J J (fun hc21=>?_) (fun hc21=>?_)
  .
   obtain⟨u,hu0⟩: ∃s,us[k]? =some s:=⟨_,aZ (by omega)⟩;have hu:=hus u (aV hu0);refine ix _ J (cO hu0) J<|?_;rcases hr:hH op t u with _|r
   .
    refine cl J (VQ hE h2 hu.1 h3 hu.2 hr) J<|rz J (by rw[if_neg (by omega),<-h4,K9 hu0,hr];rfl)
   .
    have hrr:=Ja h2 hu.1 hr;refine cl J (Lh hE h2 hu.1 h3 hu.2 hr) J<|at_ (r,k+1) (by dsimp only;exact⟨⟨by omega,hrr.1,hrr.2,by rw[<-h4,K9 hu0,hr]⟩,(by omega)⟩)
  .
   exact rz J (by rw[if_neg (by omega),<-h4,iM (by omega)];rfl)
def Xd:PF GB prog 74 [vI op] (vB (decide (1<=op/\op<=4))):=by
 refine fn (fu:=⟨8⟩) func74 J J ntmps74 J J (fun C=>?_);refine i7 (fu1:=⟨2⟩) J J J J (fun hg4=>?_) (fun hg4=>?_)
 .
  refine i7 J J J J (fun hg7=>?_) (fun hg7=>?_)
  .
   exact rz J (by show DV.v (.bool _)= .v (.bool _);congr 2;simp;omega)
  .
   exact rz J (by show DV.v (.bool _)= .v (.bool _);congr 2;simp;omega)
 .
  exact rz J (by show DV.v (.bool _)= .v (.bool _);congr 2;simp;omega)
def Sj(h:1<=op/\op<=4):PF GB prog 74 [vI op] (vB true):=by
 have:=Xd (GB:=GB) (op:=op);rw[decide_eq_true h] at this;exact this
def Y2(h:t.gd):t.compl.gd:=⟨t.compl_all LB h.lb,t.compl_all aa.ok h.ok⟩
abbrev Eu:=Int×List RN
def Eu.d(x:Eu):DV:=eRT x.1 x.2
def aDR: ∀(us:List Tr),cA 1 (us.map eU):=fun us d hd=>by
 obtain⟨u,_,rfl⟩:=aR.1 hd;exact⟨rfl,rfl⟩
structure Eu.ok (x:Eu):Prop where
 s: ∀n∈x.2,n.g.sm
 n:x.2.length<=65536
def SA(hE:EG GB ai al ae){us:List Tr}(ha:a.gd)(hsa:a.size<=65536)(hus: ∀u∈us,u.gd/\u.size<=65536)(hn:us.length<=1000000)(h:(if 1024<a.depth then none else m8 op (a.restrict []) us)=some t):PF GB prog 148 [vI op,eU a, .sl (us.map eU)] (.tp [eU t, .v .nilIface]):=by
 have:=U4 hE (op:=op) ha hsa hus hn;rw[h] at this;exact this
end Go.Sx
end
