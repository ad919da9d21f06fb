import Derived.Test.YthhjilnhmkheeaaGreatDoorMr11
import Derived.WalkKit
import Derived.LaidEql
import Derived.Stop.Asserts
import Derived.RowKitTokens
set_option linter.all false
set_option maxHeartbeats 2000000
set_option maxRecDepth 100000
section
namespace Go.Sx
open Go Go.Proofs Tryz
variable {GB:Gh}
def gF(f:aI):DV:= .ag [vI (cC (f.l.a:Rat)),vI (cD (f.l.a:Rat)),cE (f.l.a:Rat),vI (cC (f.l.b:Rat)),vI (cD (f.l.b:Rat)),cE (f.l.b:Rat),vI (cC (f.l.c:Rat)),vI (cD (f.l.c:Rat)),cE (f.l.c:Rat),vI (cC f.v.lo),vI (cD f.v.lo),cE f.v.lo,vI (cC f.v.hi),vI (cD f.v.hi),cE f.v.hi, .v (.bool f.v.nl), .v (.bool f.v.nh)]
structure u6 (v:ai):Prop where
 z:iF v
 lo:BQ v.lo 1200
 hi:BQ v.hi 1200
structure aMe (s:aI):Prop where
 lb:LB s.l
 ok:s.l.ok
 v:u6 s.v
abbrev jG (c:au):Prop:= ∀s∈c,aMe s
def xZ{α:Type}(f:α->DV)(l:List α):(l.map f).length=l.length:=by simp
def u6.all:u6 ai.all:=⟨⟨fun _=>J,fun _=>J⟩,BQ.z1.mono oma,BQ.z1.mono oma⟩
def u6.cut{l m:ab}{v:ai}[LB l][LB m](hn:l.Ne)(h:u6 v):u6 (l.cutV v m):=by
 by_cases h0:crossI l m=0
 .rw[(Cp (v:=v) h0).1];exact h
 .obtain⟨u1,_,u3,u4,u5⟩:=Kq (v:=v) hn h.z h.lo h.hi h0
  rw[u1];exact⟨u3,u4,u5⟩
def GF(o:Option ai):ai:=o.getD ⟨0,0,false,false⟩
def aJm(G:Gh)(y:Value)(k:Is G (.tp [.ag [vI 0,vI 0, .v (.pointer none),vI 0,vI 0, .v (.pointer none), .v (.bool false), .v (.bool false)], .v (.bool false)]) y):Is G (.tp [eW (GF none),vB false]) y:=by
 obtain⟨m,rfl,g⟩:=mm.1 k;exact mm.2 ⟨m,J,Na (fun y hy=>by
  obtain⟨l,rfl,g⟩:=fC.1 hy;exact fC.2 ⟨l,J,Et (IG [vI 0,vI 0, .v (.pointer none)] g)⟩) g⟩
def dP{α:Type}{f:α->DV}{l:List α}{i:Nat}{s:α}(h:l[i]? =some s):(l.map f)[(i:Int).toNat]? =some (f s):=by simp[h]
def HH{α:Type}{l:List α}{k:Nat}{s:α}(h:l[k]? =some s):l.drop k=s::l.drop (k+1):=by
 obtain⟨h1,h2⟩:=bQ.1 h;rw[bU h1,h2]
def Oa{l:ab}{c:au}{v:ai}{k:Nat}{s:aI}(h:c[k]? =some s):oG l (c.drop k) v=if l.cutB v s.l then oG l (c.drop (k+1)) (l.cutV v s.l) else none:=by
 rw[HH h];rfl
def I7{l:ab}{c:au}{k:Nat}{s:aI}(h:c[k]? =some s):po l (c.drop k)=if pH l s≠0 then pH l s else if s.l=l then 1 else po l (c.drop (k+1)):=by
 rw[HH h];rfl
instance BQ.sample (v:ai) [h1:BQ v.lo 1200] [h2:BQ v.hi 1200]:BQ v.sample 2500:=by
 unfold ai.sample;split
 .exact BQ.mono (k:=1) ⟨oma,oma⟩
 .split
  .exact BQ.mono (inferInstance:BQ (v.hi-((1:Int):Rat)) _)
  .split
   .exact BQ.mono (inferInstance:BQ (v.lo+((1:Int):Rat)) _)
   .exact BQ.mono (inferInstance:BQ ((v.lo+v.hi)*mkRat 1 2) _)
def RM{c:au}{l:ab}[hl:LB l](hlo:l.ok)(hc:jG c)(hn:c.length<=1000000):PF GB prog 252 [.sl (c.map gF),iq l] (.tp [eW (GF (kC c l)),vB (kC c l).isSome]):=by
 have hm:=xZ gF c;refine fn func252 J J ntmps252 J J (fun C=>?_);refine cl (fu:=⟨10⟩) J VO J<|ah 12 (.d (vI (c.length:Nat))) J (by rw[xZ]<;>rfl)<|gx J<|lp (X:=ai×Nat) (fun⟨v,k⟩=>[(13, .d (vI (k:Nat))),(6, .ov 6 0)]) (fun⟨v,k⟩=>[(6,some (.o 271 [.d (vI (cC v.lo)), .d (vI (cD v.lo)), .d (cE v.lo), .d (vI (cC v.hi)), .d (vI (cD v.hi)), .d (cE v.hi), .d (.v (.bool v.nl)), .d (.v (.bool v.nh))] true))]) (fun⟨v,k⟩=>k<=c.length/\u6 v/\oG l (c.drop k) v=kC c l) (fun⟨v,k⟩=>c.length-k) (ai.all,0) J ⟨bS _, .all,J⟩ (fun _=>J) (fun⟨v,k⟩ hk=>?_);dsimp only at hk⊢;obtain⟨h1,h2,h3⟩:=hk;haveI:=h2.lo;haveI:=h2.hi;refine br J J J (fun hc14=>?_) (fun hc14=>?_)
 .
  obtain⟨s,hs0⟩: ∃s,c[k]? =some s:=⟨_,aZ we⟩;have hs:=hc s (aT hs0);haveI:=hs.lb;refine ix _ J (dP hs0) J<|cl (fu:=⟨0⟩) J (Ud (l:=l) (m:=s.l) (v:=v)) J<|?_;generalize hw:l.cutV v s.l=w;generalize hb:l.cutB v s.l=b;refine gx J<|bb J J J (fun hc26=>?_) (fun hc26=>?_)
  .
   exact jE J (by rw[<-h3,Oa hs0,hb,if_neg ozf];exact aJm)
  .
   exact at_ (w,k+1) (by dsimp only;exact⟨⟨we,hw▸h2.cut hlo.1,by rw[<-h3,Oa hs0,hb,hw,if_pos ozf]⟩,we⟩)
 .
  exact rz J (by rw[<-h3,gT we];rfl)
def V3{c:au}{l:ab}[hl:LB l](hlo:l.ok)(hc:jG c)(hn:c.length<=1000000):PF GB prog 253 [.sl (c.map gF),iq l] (vI (wH c l)):=by
 have hm:=xZ gF c;refine fn func253 J J ntmps253 J J (fun C=>?_);refine cl J (RM (c:=c) (l:=l) hlo hc hn) J<|bb (fu2:=⟨7⟩) J J J (fun hc16=>?_) (fun hc16=>?_)
 .
  exact rz J (by unfold wH;rw[if_pos hc16];rfl)
 .
  have hp:wH c l=po l c:=by unfold wH;rw[if_neg (by simp[hc16])]
  refine ah 18 (.d (vI (c.length:Nat))) J (by rw[xZ]<;>rfl)<|gx J<|lp (X:=Nat) (fun k=>[(19, .d (vI (k:Nat)))]) (fun k=>[]) (fun k=>k<=c.length/\po l (c.drop k)=po l c) (fun k=>c.length-k) 0 J ⟨bS _,J⟩ (fun _=>J) (fun k hk=>?_);obtain⟨h1,h2⟩:=hk;refine br J J J (fun hc20=>?_) (fun hc20=>?_)
  .
   obtain⟨s,hs0⟩: ∃s,c[k]? =some s:=⟨_,aZ we⟩;have hs:=hc s (aT hs0);haveI:=hs.lb;haveI:=hs.v.lo;haveI:=hs.v.hi;haveI:=BQ.sample s.v;refine ix _ J (dP hs0) J<|cl (fu:=⟨0⟩) J (aBt (v:=s.v)) J<|?_;generalize ht:s.v.sample=t at*;refine gx J<|cl J (aK2 (l:=s.l) (t:=t)) J<|cl J (Cd (l:=l) (p:=s.l.at t)) J<|br J J J (fun hc32=>?_) (fun hc32=>?_)
   .
    have hsd:pH l s=(l.value (s.l.at t)).num.sign:=by unfold pH;rw[ht]
    exact rz J (by rw[hp,<-h2,I7 hs0,hsd,if_pos hc32];rfl)
   .
    refine cl J (Z8 (l:=s.l) (m:=l)) J<|bd J J J (fun hc37=>?_) (fun hc37=>?_)
    .
     have hsd:pH l s=(l.value (s.l.at t)).num.sign:=by unfold pH;rw[ht]
     exact rz J (by rw[hp,<-h2,I7 hs0,hsd,if_neg hc32,if_pos hc37];rfl)
    .
     have hsd:pH l s=(l.value (s.l.at t)).num.sign:=by unfold pH;rw[ht]
     exact at_ (k+1) ⟨⟨we,by rw[<-h2,I7 hs0,hsd,if_neg hc32,if_neg hc37]⟩,we⟩
  .
   exact rz J (by rw[hp,<-h2,gT we];rfl)
def an9{vs rest:List Value}(h: ∀v∈vs,(aP v).length=17){i:Nat}(hi:i<=vs.length):dh (aG vs++rest) (i*17) ((vs.length-i)*17)=some (aG (vs.drop i)):=by
 have hl:=f7 vs h;have hd:(aG (vs.drop i)).length=(vs.length-i)*17:=by
  rw[f7 (s:=17) _ (fun v hv=>h v (gS hv)),gN]
 rw[m9 _ _ _ okP];congr 1;rw[jT we,Cy vs i h hi,fK we,cZ we]
def UL{vs rest vcs:List Value}(h: ∀v∈vs,(aP v).length=17)(hv:vcs.length=17){i:Nat}(hi:i<vs.length)(hr:17<=rest.length):
  dd (dd (aG vs++rest) ((i+1)*17) (aG (vs.drop i))) (i*17) vcs=aG (vs.take i)++vcs++aG (vs.drop i)++rest.drop 17:=by
 have hl:=f7 vs h;have hd:(aG (vs.drop i)).length=(vs.length-i)*17:=by
  rw[f7 (s:=17) _ (fun v hv=>h v (gS hv)),gN]
 have ht:(aG (vs.take i)).length=i*17:=by
  rw[f7 (s:=17) _ (fun v hv=>h v (dT hv)),cR,iU we]
 rw[qg (aG (vs.drop i)) (aG vs++rest) _ oks];rw[qg vcs _ _ (by simp only[aR,cR,gN];omega)];have e1:(aG vs++rest).drop ((i+1)*17+(aG (vs.drop i)).length)=rest.drop 17:=by
  rw[hd,show(i+1)*17+(vs.length-i)*17=(aG vs).length+17 by omega,nZ,kU we,lQ];congr 1;omega
 have e2:((aG vs++rest).take ((i+1)*17)++aG (vs.drop i)++rest.drop 17).take (i*17)=aG (vs.take i):=by
  rw[gX,fK (by simp only[cR,aR];omega),List.take_take,iU we,fK we,EJ vs i h we]
 have e3:((aG vs++rest).take ((i+1)*17)++aG (vs.drop i)++rest.drop 17).drop (i*17+vcs.length)=aG (vs.drop i)++rest.drop 17:=by
  rw[hv,gX,show i*17+17=((aG vs++rest).take ((i+1)*17)).length by simp only[cR,aR];omega,List.drop_left]
 rw[e1,e2,e3];simp[gX]
def Vq{vs rest vcs:List Value}(h: ∀v∈vs,(aP v).length=17)(hv:vcs.length=17)(hr:17<=rest.length):dd (aG vs++rest) (vs.length*17) vcs=aG vs++vcs++rest.drop 17:=by
 have hl:=f7 vs h;rw[qg _ _ _ okP,hv,<-hl,List.take_left,nZ];simp
def amN{G:Gh}{b bv cap i c2:Nat}{vs rest vcs r2:List Value}{lo lo2:Bool}(hvs: ∀v∈vs,(aP v).length=17)(hfl: ∀v∈vs,∀c∈aP v,flat c=true)(hv:vcs.length=17)(hvf: ∀c∈vcs,flat c=true)
  (hcap:vs.length*17+rest.length=cap*17)(hroom:vs.length+1<=cap)(hi:i<=vs.length)(hb:vs.length<=1125899906842624):
  nv prog 257 [.slice (some ⟨b,0,none⟩) vs.length cap, .int .i64 i, .slice (some ⟨bv,0,none⟩) 1 c2] [⟨b,aG vs++rest,273,lo⟩,⟨bv,vcs++r2,273,lo2⟩] G
   (fun u css _=>u= .slice (some ⟨b,0,none⟩) (vs.length+1) cap/\css=[aG (vs.take i)++vcs++aG (vs.drop i)++rest.drop 17,vcs++r2]):=by
 have hL:(aG vs++rest).length=cap*17:=by rw[aR,f7 vs hvs];exact hcap
 have hr:17<=rest.length:=by omega
 have hD:(aG (vs.drop i)).length=(vs.length-i)*17:=by
  rw[f7 (s:=17) _ (fun v hv=>hvs v (gS hv)),gN]
 have hDf: ∀c∈aG (vs.drop i),flat c=true:=fun c hc=>by
  obtain⟨l,hl,hcl⟩:=List.mem_flatten.1 hc;obtain⟨v,hv,rfl⟩:=aS.1 hl;exact hfl v (gS hv) c hcl
 have hvt:dh (vcs++r2) 0 (1*17)=some vcs:=by rw[m9 _ _ _ oks,gJ,fK we,cZ we]
 refine nv.intro func257 J J ntmps257 J ?_;intro C _ _;show St C _ _ [⟨b,aG vs++rest,273,false⟩,⟨bv,vcs++r2,273,false⟩] _ _;refine U0 (fun hne=>?_);simp only[] at hne;refine sR<|sa J J<|zE<|sR<|sm J J<|sm J J<|sy (EH J J) J<|zE<|sR<|?_;refine sm J J<|FY J J<|sa J J<|zE<|mG<|sR<|sm J J<|sy (tu J J) J<|zE<|Jy J<|?_;refine zK<|sR<|sm J J<|FY J J<|sa J J<|zE<|mG<|sR<|sm J J<|sm J J<|sy (tu J J) J<|zE<|?_;refine Aj J (fun hc=>?_) (fun hc=>?_) -- slot 22
 .have hin:i=vs.length:=by omega
  subst hin;refine sR<|sm J J<|sm J J<|?_;refine sc (OW (s:=17) (m:=1) (ys:=vcs) J J (.hd ..) hL (FC inferInstance hvt) we hvf hroom J ?_);refine sa J J<|zE<|vG<|?_;refine zn (css:=[dd (aG vs++rest) (vs.length*17) vcs,vcs++r2]) (.tmp J .nil) J _ (List.Perm.refl _) (List.Sublist.refl _) ⟨J,?_⟩;rw[Vq hvs hv hr,dV,fR];simp[aG]
 have hin:i<vs.length:=by omega
 have hn1:((vs.length:Int)+((1:Nat):Int)).toNat=vs.length+1:=by omega
 have ht1:((i:Int)+((1:Nat):Int)).toNat=i+1:=by omega
 refine zK<|mG<|sR<|sm J J<|sm J J<|sy (Bx J J) J<|sm J J<|?_;refine sy (aIe J) J<|sy (F7 J J) J<|zE<|?_;refine Aj J (fun hc2=>?_) (fun hc2=>?_) -- slot 31
 .exact absurd hc2 we
 refine zK<|sR<|sm J J<|sm J J<|sm J J<|sy (Bx J J) J<|sy (JN J J) J<|?_;rw[hn1];refine sa J J<|zE<|mG<|sR<|sm J J<|sm J J<|sm J J<|sm J J<|sy (Bx J J) J<|sy (DB J J) J<|?_;refine sy (V0 (tS:=213) (tR:=4) func264 omd omd omd omd J J (Ne.symm hne) (fun h=>by rw[h] at hL;simp at hL;omega)) J<|?_;refine sy (HE J) J<|zE<|Jz J<|?_;refine mG<|Us (b:=b) (fun _=>false) [(0,true),(1,true),(2,true),(3,true),(4,true),(5,true),(6,true),(7,true),(8,false)] follows (.hd ..) omd<|dM J J J<|?_;refine dM J J J<|dM J J J<|dy J (fun _=>Bx J J we we) J J<|dy J (fun _=>DB J J) J J<|?_;refine dM J J J<|dM J J J<|dy J (fun _=>DB J J) J J<|?_;rw[ht1,dR,fX,fX];refine dc J J (Q4 (s:=17) (m:=vs.length-i) (ys:=aG (vs.drop i)) J J (by show min _ _=_;omega) (FC inferInstance (an9 hvs hi)) hDf (by rw[hD,hL];omega) (.hd ..) J ?_);refine Am<|dn<|sR<|sm J J<|sm J J<|sy (DB J J) J<|sm J J<|?_;rw[dR,fX];refine sc (Q4 (s:=17) (m:=1) (ys:=vcs) J J (by show min _ _=_;omega) (FC inferInstance hvt) hvf (by rw[Ax,hL,hv];omega) (.hd ..) J ?_);refine zE<|sR<|sm J J<|sa J J<|zE<|vG<|?_;refine zn (css:=[dd (dd (aG vs++rest) ((i+1)*17) (aG (vs.drop i))) (i*17) vcs,vcs++r2]) (.tmp J .nil) J _ (List.Perm.refl _) (List.Sublist.refl _) ⟨J,?_⟩;rw[UL hvs hv hin hr]
def nv.toO{P:Program}{f:FuncId}{vs:List Value}{M:List az}{G:Gh}{K:Value->List (List Value)->Gh->Prop}{K':Value->List az->Gh->Prop}(h:nv P f vs M G K)(hk: ∀v css G',cc G G'->css.length=M.length->K v css G'-> ∃o,o.Sublist (l6 (asB M) css)/\K' v o G'):oO P f vs M G K':=
 ⟨h.able,fun w hw=>(h.run w hw).mono fun _ _ ⟨v,css,G',he,hl,hh,hK⟩=>let⟨o,h1,h2⟩:=hk v css G' hh.gle hl hK;⟨v,o,G',he,hh.drop h1,h2⟩⟩
def MY(c:au):dH 17 (c.map gF):=fun d hd=>by
 obtain⟨f,_,rfl⟩:=aS.1 hd;exact⟨rfl,rfl⟩
def P7{G:Gh}{s:Nat}{ds:List DV}{vs:List Value}(hk:dH s ds)(h:IsLs G ds vs): ∀v∈vs,∀c∈aP v,flat c=true:=fun v hv=>by
 obtain⟨d,hd,h3⟩:=h.all v hv;exact(h3.cells (hk d hd).1).2
def aBw{c:au}{x:aI}{i cap:Nat}(hi:i<=c.length)(hc:c.length+1<=cap)(hn:c.length<=1000000):PI GB prog 257 (i:Nat) 17 273 273 (c.map gF) (gF x) cap ((c.take i++x::c.drop i).map gF):=by
 intro G w w2 B B2 _ hB hcap hB2;obtain⟨vs,q1,q2,q3,_⟩:=hB;obtain⟨us,u1,u2,u3,_⟩:=hB2;dsimp only at q1 q2 q3 u1 u2 u3;have hl:=q2.len;rw[aK] at hl;obtain⟨v,m,rfl,hv,hm⟩:=bO.1 u2
 cases gw.1 hm
 rcases q1 with⟨_,e,_⟩|⟨b,rest,lo,e,rfl,h5,h6,h7⟩
 .rw[e] at hcap;simp at hcap;omega
 rcases u1 with⟨h,_⟩|⟨bv,r2,lo2,e2,rfl,h8,h9,h10⟩
 .cases h
 have hx:(aP v).length=17:=u3 v aQ;have hxf:=P7 (s:=17) (ds:=[gF x]) (fun d hd=>by rw[aV.1 hd];exact⟨J,J⟩) u2 v aQ;have key:=amN (G:=G) (b:=b) (bv:=bv) (cap:=w.c) (i:=i) (c2:=w2.c) (vs:=vs) (rest:=rest) (vcs:=aP v) (r2:=r2) (lo:=lo) (lo2:=lo2) q3 (P7 (MY c) q2) hx hxf (by rw[<-h5];exact h6) we we we;rw[e,e2];rw[Jh];refine key.toO fun u css G' hg hl2 ⟨k1,k2⟩=>?_;subst k1 k2;have hall: ∀u∈vs.take i++v::vs.drop i,(aP u).length=17:=fun u hu=>by
  rcases bJ.1 hu with hu|hu
  .exact q3 u (dT hu)
  .rcases aW.1 hu with rfl|hu
   .exact hx
   .exact q3 u (gS hu)
 have hlen:(vs.take i++v::vs.drop i).length=vs.length+1:=by
  rw[aR,bZ,cR,gN];omega
 refine⟨[⟨b,aG (vs.take i)++aP v++aG (vs.drop i)++rest.drop 17,273,false⟩], .cons_cons _ (lN _),⟨some ⟨b,0,none⟩,vs.length+1,w.c⟩,J,vs.take i++v::vs.drop i, .inr ⟨b,rest.drop 17,false,by rw[hlen],?_,f7 _ hall,?_,?_⟩,?_,hall,fun h=>by cases h⟩
 .rw[rB];simp[aG]
 .rw[f7 _ hall,hlen,gN]
  rw[h5] at h6;have:=bR 17 (show vs.length+1<=w.c by omega);simp only[dW] at this⊢;omega
 .rw[hlen];show vs.length+1<=w.c;omega
 .rw[bL,cJ,gR,jQ]
  exact((q2.take i).up hg).app (.cons (hv.up hg) ((q2.drop i).up hg))
def Rp{s:aI}{l:ab}[hs:LB s.l][hl:LB l]:PF GB prog 256 [gF s,iq l] (vI (cF s.l.dir l.dir)):=by
 refine fn func256 J J ntmps256 J J (fun C=>?_);refine cl J (xY (l:=s.l)) J<|cl J (xY (l:=l)) J<|cl J (JS (u:=s.l.dir) (v:=l.dir)) J<|rz J J
def AT(c:au)(l:ab)(i:Nat):Bool:=match c[i]? with
 |some s=>decide (cF s.l.dir l.dir=0)
 |none=>false
def azq(i j:Nat):((i:Int)+(j:Int)).fdiv (2^min (1:Int).toNat IntKind.u64.bits)=((i+j)/2:Nat):=by
 rw[show(2:Int)^min (1:Int).toNat IntKind.u64.bits=((2:Nat):Int) from J,kV _ oma];omega
def aF0{c:au}{l:ab}{k:Nat}{s:aI}(h:c[k]? =some s):jw c l k=decide (cF s.l.dir l.dir<0):=by unfold jw;rw[h]
def Y8{c:au}{l:ab}{k:Nat}{s:aI}(h:c[k]? =some s):AT c l k=decide (cF s.l.dir l.dir=0):=by unfold AT;rw[h]
def aJ5{c:au}{l:ab}{k:Nat}(h: ¬k<c.length):AT c l k=false:=by unfold AT;rw[eJ we]
def Wa{p:Nat->Bool}{i j:Nat}(h:i<j)(hp:p ((i+j)/2)=true):ic p i j=ic p ((i+j)/2+1) j:=by rw[ic,dif_pos h,if_pos hp]
def aKz{p:Nat->Bool}{i j:Nat}(h:i<j)(hp: ¬p ((i+j)/2)=true):ic p i j=ic p i ((i+j)/2):=by rw[ic,dif_pos h,if_neg hp]
def So{p:Nat->Bool}{i j:Nat}(h: ¬i<j:=by omega):ic p i j=i:=by rw[ic,dif_neg h]
theorem omu{p:Prop}(h:p:=by rw[hm]<;>rfl):p:=h
def aKQ{c:au}{l:ab}[hl:LB l](hc:jG c)(hn:c.length<=1000000):PF GB prog 255 [.sl (c.map gF),iq l, .v (.func (.func 256) #[] #[])] (.tp [vI (ic (jw c l) 0 c.length:Nat),vB (AT c l (ic (jw c l) 0 c.length))]):=by
 have hm:=xZ gF c;refine fn (fu:=⟨11⟩) func255 J J ntmps255 J J (fun C=>?_);refine ah 13 (.d (vI (c.length:Nat))) J omu<|gx J<|lp (X:=Nat×Nat) (fun⟨i,j⟩=>[(9, .d (vI (i:Nat))),(10, .d (vI (j:Nat)))]) (fun⟨i,j⟩=>[]) (fun⟨i,j⟩=>i<=j/\j<=c.length/\ic (jw c l) i j=ic (jw c l) 0 c.length) (fun⟨i,j⟩=>j-i) (0,c.length) J ⟨bS _,bV _,J⟩ (fun _=>J) (fun⟨i,j⟩ hk=>?_);dsimp only at hk⊢;obtain⟨h1,h2,h3⟩:=hk;refine br (fu1:=⟨10⟩) (fu2:=⟨11⟩) J J J (fun hc17=>?_) (fun hc17=>?_)
 .
  obtain⟨s,hs0⟩: ∃s,c[(i+j)/2]? =some s:=⟨_,aZ we⟩;haveI:=(hc s (aT hs0)).lb;have hang:=aF0 (l:=l) hs0;refine ah 22 (.d (.v (.int .u64 ((i+j)/2:Nat)))) J (by rw[azq])<|gx J<|ix _ J (dP hs0) J<|cl J (Rp (s:=s) (l:=l)) J<|br J J J (fun hc31=>?_) (fun hc31=>?_)
  .
   exact at_ ((i+j)/2+1,j) (by dsimp only;exact⟨⟨we,h2,by rw[<-h3,Wa (i:=i) (j:=j) we (by rw[hang];exact decide_eq_true hc31)]⟩,we⟩)
  .
   exact at_ (i,(i+j)/2) (by dsimp only;exact⟨⟨we,we,by rw[<-h3,aKz (i:=i) (j:=j) we (by rw[hang,decide_eq_false hc31];exact Bool.false_ne_true)]⟩,we⟩)
 .
  refine ji (v2:=fun hg39=>by simp only[ae];kernel_rfl) J J J J (fun hg39=>?_) (fun hg39=>?_)
  .
   have he:=So (p:=jw c l) (i:=i) (j:=j);obtain⟨s,hs0⟩: ∃s,c[i]? =some s:=⟨_,aZ we⟩;haveI:=(hc s (aT hs0)).lb;refine ix _ J (dP hs0) J<|cl J (Rp (s:=s) (l:=l)) J<|rz J (by rw[<-h3,he,Y8 hs0];rfl)
  .
   have he:=So (p:=jw c l) (i:=i) (j:=j);exact rz J (by rw[<-h3,he,aJ5 we];rfl)
def Qh{l:ab}[LB l](hlo:l.ok): ∀{c:au} {v w:ai},jG c->u6 v->oG l c v=some w->u6 w
 |[],v,w,_,hv,h=>by cases h;exact hv
 |s::t,v,w,hc,hv,h=>by
  haveI:=(hc s aQ).lb;simp only[oG] at h;split at h
  .exact Qh hlo (fun x hx=>hc x (aX _ hx)) (hv.cut hlo.1) h
  .cases h
def EU{l:ab}[LB l]: ∀{c:au},jG c->jG (eO l c)
 |[],_,s,h=>by cases h
 |a::t,hc,s,h=>by
  have ha:=hc a aQ;haveI:=ha.lb;have ht:=EU (l:=l) (fun x hx=>hc x (aX _ hx));unfold eO at h;split at h
  .rcases aW.1 h with rfl|h
   .exact⟨ha.lb,ha.ok,ha.v.cut ha.ok.1⟩
   .exact ht s h
  .exact ht s h
def BK{l:ab}[hl:LB l](hlo:l.ok){c:au}(hc:jG c):jG (b9 c l):=by
 unfold b9;split
 .rename_i v hv
  intro s hs;unfold k8 at hs;rcases bJ.1 hs with h|h
  .exact EU hc s (dT h)
  .rcases aW.1 h with rfl|h
   .exact⟨hl,hlo,Qh hlo hc .all hv⟩
   .exact EU hc s (gS h)
 .exact hc
def OG{l:ab}{c:au}{k:Nat}{s:aI}(h:c[k]? =some s):eO l (c.drop k)=if s.l.cutB s.v l then⟨s.l,s.l.cutV s.v l⟩::eO l (c.drop (k+1)) else eO l (c.drop (k+1)):=by
 rw[HH h];rfl
theorem omO{p:Prop}(h:p:=by rw[bL];rfl):p:=h
def TU{c:au}{l:ab}[hl:LB l](hlo:l.ok)(hc:jG c)(hn:c.length<=100000):PF GB prog 249 [.sl (c.map gF),iq l] (.tp [.sl ((b9 c l).map gF),vB (bG c l)]):=by
 have hm:=xZ gF c;refine fn func249 J J ntmps249 J J (fun C=>?_);refine cl J (RM (c:=c) (l:=l) hlo hc we) J<|bb (fu2:=⟨6⟩) J J J (fun hc22=>?_) (fun hc22=>?_)
 .
  have hp:kC c l=none:=by simpa using hc22
  refine cl J (V3 (c:=c) (l:=l) hlo hc we) J<|rz J (by unfold b9 bG;rw[hp];rfl)
 .
  obtain⟨v,hv⟩: ∃v,kC c l=some v:=qR.1 (by simpa using hc22);have hvd:GF (kC c l)=v:=by rw[hv];rfl
  rw[hvd];refine ah 29 (.d (vI (c.length:Nat))) J omu<|gx J<|Xp (fu:=⟨8⟩) (c.length+1) J J J<|ah 33 (.d (vI (c.length:Nat))) J omu<|gx J<|lp (X:=au×Nat) (fun⟨o,k⟩=>[(34, .d (vI (k:Nat))),(8, .rw 31)]) (fun⟨o,k⟩=>[(31,some (.c 273 17 (o.map gF) (c.length+1)))]) (fun⟨o,k⟩=>k<=c.length/\o.length<=k/\o++eO l (c.drop k)=eO l c) (fun⟨o,k⟩=>c.length-k) ([],0) J ⟨bS _,bV _,J⟩ (fun _=>J) (fun⟨o,k⟩ hk=>?_);dsimp only at hk⊢;obtain⟨h1,h2,h3⟩:=hk;have hmo:=xZ gF o;refine br J J J (fun hc35=>?_) (fun hc35=>?_)
  .
   obtain⟨s,hs0⟩: ∃s,c[k]? =some s:=⟨_,aZ we⟩;have hs:=hc s (aT hs0);haveI:=hs.lb;haveI:=hs.v.lo;haveI:=hs.v.hi;refine ix _ J (dP hs0) J<|cl (fu:=⟨0⟩) J (Ud (l:=s.l) (m:=l) (v:=s.v)) J<|?_;generalize hw:s.l.cutV s.v l=w;generalize hb:s.l.cutB s.v l=b;refine gx J<|bb J J J (fun hc47=>?_) (fun hc47=>?_)
   .
    refine rf J J<|apc ((o++[aI.mk s.l w]).map gF) J omO (MY [aI.mk s.l w]) (by rw[hmo];simp;omega) J<|iE 54 31 J<|at_ (o++[aI.mk s.l w],k+1) (by dsimp only;exact⟨⟨we,by simp;omega,by rw[<-h3,OG hs0,hb,if_pos hc47,hw,gX];rfl⟩,we⟩)
   .
    exact at_ (o,k+1) (by dsimp only;exact⟨⟨we,we,by rw[<-h3,OG hs0,hb,if_neg (by simp[hc47])]⟩,we⟩)
  .
   obtain rfl:k=c.length:=by omega
   have ho:o=eO l c:=by rw[<-h3,fR];simp[eO]
   subst ho;have hbl:=(CU (jw (eO l c) l) (eO l c).length 0 (eO l c).length we we).2;refine cL J (aKQ (c:=eO l c) (l:=l) (EU hc) we) J J<|ro J J<|ci ((k8 (eO l c) l v).map gF) J (aBw (c:=eO l c) (x:=⟨l,v⟩) (i:=ic (jw (eO l c) l) 0 (eO l c).length) (cap:=c.length+1) hbl we we) J J<|jd 68 J<|rz J (by unfold b9 bG;rw[hv];rfl)
def aA4{c:au}{l:ab}[hl:LB l](hlo:l.ok)(hc:jG c)(hn:c.length<=100000):PF GB prog 243 [.sl (c.map gF),iq l] (.tp [.sl ((b9 c l).map gF), .sl ((b9 c l.rev).map gF),vB (bG c l),vB (bG c l.rev)]):=by
 refine fn func243 J J ntmps243 J J (fun C=>?_);refine cl J (TU (c:=c) (l:=l) hlo hc hn) J<|cl J (aHR (l:=l)) J<|cl J (TU (c:=c) (l:=l.rev) hlo.rev hc hn) J<|rz J J
def cU:Tr->List DV
 | .leaf b=>[vI 0,vI 0, .v (.pointer none),vI 0,vI 0, .v (.pointer none),vI 0,vI 0, .v (.pointer none), .v (.pointer none), .v (.pointer none), .v (.bool b)]
 | .node l x y=>[vI (cC (l.a:Rat)),vI (cD (l.a:Rat)),cE (l.a:Rat),vI (cC (l.b:Rat)),vI (cD (l.b:Rat)),cE (l.b:Rat),vI (cC (l.c:Rat)),vI (cD (l.c:Rat)),cE (l.c:Rat), .pt (cU x), .pt (cU y), .v (.bool false)]
def eU(t:Tr):DV:= .pt (cU t)
def Rd{b:Bool}:PF GB prog 166 [.v (.bool b)] (eU (.leaf b)):=by
 refine fn func166 J J ntmps166 J J (fun C=>?_);refine jd 5 J<|rz J J
def WZ{l:ab}{x y:Tr}:PF GB prog 168 [iq l,eU x,eU y] (eU (.node l x y)):=by
 refine fn func168 J J ntmps168 J J (fun C=>?_);refine jd 11 J<|rz J J
def FE{b:Bool}:PF GB prog 175 [eU (.leaf b)] (.v (.bool true)):=by
 refine fn func175 J J ntmps175 J J (fun C=>?_);exact rz J J
def zq{l:ab}{x y:Tr}:PF GB prog 175 [eU (.node l x y)] (.v (.bool false)):=by
 refine fn func175 J J ntmps175 J J (fun C=>?_);exact rz J J
def aoN{b:Bool}:PF GB prog 153 [eU (.leaf b)] (vI (Tr.depth (.leaf b):Nat)):=by
 refine fn func153 J J ntmps153 J J (fun C=>?_);refine cl (fu:=⟨0⟩) J FE J<|rk 4 J<|gx J<|rz J J
def Xf{l:ab}{x y:Tr}(hd:(Tr.node l x y).depth<=1000000)(ihx:PF GB prog 153 [eU x] (vI (Tr.depth x:Nat)))(ihy:PF GB prog 153 [eU y] (vI (Tr.depth y:Nat))):PF GB prog 153 [eU (.node l x y)] (vI (Tr.depth (.node l x y):Nat)):=by
 have hdp:(Tr.node l x y).depth=1+max x.depth y.depth:=J;have hdx:=Nat.le_max_left x.depth y.depth;have hdy:=Nat.le_max_right x.depth y.depth;refine fn func153 J J ntmps153 J J (fun C=>?_);refine cl (fu:=⟨0⟩) J zq J<|xM 4 J<|gx J<|cl J ihx J<|cl (hv:=by simp only[ae];exact⟨we,omd⟩) J ihy J<|rz J (by show DV.v (.int _ _)= .v (.int _ _);congr 2;split<;>omega)
def GV: ∀{t:Tr},t.depth<=1000000->PF GB prog 153 [eU t] (vI (Tr.depth t:Nat))
 | .leaf _,_=>aoN
 | .node l x y,h=>Xf h (GV (by have:=Nat.le_max_left x.depth y.depth;have:(Tr.node l x y).depth=1+max x.depth y.depth:=J;omega)) (GV (by have:=Nat.le_max_right x.depth y.depth;have:(Tr.node l x y).depth=1+max x.depth y.depth:=J;omega))
def IZ(n:Bool)(ds:List Nat):Prop:=gG ds/\(n=true->0<ds.length)
structure RL where
 na:Bool
 da:List Nat
 nb:Bool
 db:List Nat
 nc:Bool
 dc:List Nat
def RL.d(r:RL):DV:= .ag [.v (.bool r.na),fm r.da, .v (.bool r.nb),fm r.db, .v (.bool r.nc),fm r.dc]
def yz(n:Bool)(ds:List Nat):Int:=if n then-(dv ds:Int) else dv ds
def RL.l(r:RL):ab:=⟨yz r.na r.da,yz r.nb r.db,yz r.nc r.dc⟩
def RL.nm(r:RL):Prop:=IZ r.na r.da/\IZ r.nb r.db/\IZ r.nc r.dc
structure RL.sm (r:RL):Prop where
 a:bB r.da/\r.da.length<=3
 b:bB r.db/\r.db.length<=3
 c:bB r.dc/\r.dc.length<=3
def uX(n:Nat)(f:Nat->Bool):List Value:=(List.range n).map fun j=> .bool (f j)
def yg(f:Nat->Bool)(i:Nat):Nat->Bool:=fun j=>f j||Nat.beq j i
def Mx(n:Nat)(f:Nat->Bool):(uX n f).length=n:=by simp[uX]
def Tb{n i:Nat}{f:Nat->Bool}{b:Bool}(h:i<n)(hf:f i=b):(uX n f)[i]? =some (.bool b):=by simp[uX,h,hf]
def aFW{f:Nat->Bool}{i j:Nat}(e:j≠i):yg f i j=f j:=by
 unfold yg
 cases hb:Nat.beq j i with
 |false=>rw[sY]
 |true=>exact absurd (aL hb) e
def Ye{f:Nat->Bool}{i:Nat}:yg f i i=true:=by
 unfold yg;rw[nN,Bool.or_true]
def avE(n i:Nat)(f:Nat->Bool):(uX n f).set i (.bool true)=uX n (yg f i):=by
 apply kZ;intro j;rw[pM];simp only[uX,aK,pN,cV];by_cases hj:j<n
 .rw[oU hj]
  simp only[jN];by_cases e:i=j
  .subst e;simp[hj,Ye]
  .rw[aFW (fun h=>e h.symm)];simp[e]
 .rw[eJ omQ]
  by_cases e:i=j
  .subst e;simp[hj]
  .simp[e]
def aqt(n:Nat):fe (.bool false) n=uX n (fun _=>false):=by
 apply kZ;intro j;by_cases hj:j<n
 .rw[Tb hj J]
  unfold fe;rw[IT (aP (.bool false)) n j (by simpa[aP] using hj)];simp[aP,Nat.mod_one]
 .rw[eJ (by rw[qy];simp[aP];omega),eJ (by rw[Mx];omega)]
structure RN where
 g:RL
 l:Int
 r:Int
def RN.d(n:RN):DV:= .ag [.v (.bool n.g.na),fm n.g.da, .v (.bool n.g.nb),fm n.g.db, .v (.bool n.g.nc),fm n.g.dc, .v (.int .i64 n.l), .v (.int .i64 n.r)]
def Ij{G:Gh}{q:Rat}{v:Value}(h:Is G (cE q) v): ∃p,v= .pointer p:=by
 rcases xh.1 h with⟨_,h⟩|⟨_,h⟩
 .exact⟨_,h⟩
 .obtain⟨b,m,h,_⟩:=tk.1 h;exact⟨_,h⟩
def Xi{G:Gh}{l:ab}{v:Value}(h:Is G (iq l) v): ∃n1 d1 p1 n2 d2 p2 n3 d3 p3,v= .agg ⟨[.int .i64 n1, .int .i64 d1, .pointer p1, .int .i64 n2, .int .i64 d2, .pointer p2, .int .i64 n3, .int .i64 d3, .pointer p3]⟩:=by
 obtain⟨m,rfl,g⟩:=fC.1 h;clear h;obtain⟨v1,m,rfl,h1,h⟩:=bO.1 g;obtain⟨v2,m,rfl,h2,h⟩:=bO.1 h;obtain⟨v3,m,rfl,h3,h⟩:=bO.1 h;obtain⟨v4,m,rfl,h4,h⟩:=bO.1 h;obtain⟨v5,m,rfl,h5,h⟩:=bO.1 h;obtain⟨v6,m,rfl,h6,h⟩:=bO.1 h;obtain⟨v7,m,rfl,h7,h⟩:=bO.1 h;obtain⟨v8,m,rfl,h8,h⟩:=bO.1 h;obtain⟨v9,m,rfl,h9,h⟩:=bO.1 h;rw[gw] at h;subst h;obtain⟨_,rfl⟩:=Ij h3;obtain⟨_,rfl⟩:=Ij h6;obtain⟨_,rfl⟩:=Ij h9;rw[bE.1 h1,bE.1 h2,bE.1 h4,bE.1 h5,bE.1 h7,bE.1 h8];exact⟨_,_,_,_,_,_,_,_,_,J⟩
def Y5{G:Gh}{n:RN}{v:Value}(h:Is G n.d v): ∃x1 x2 x3:SV,v= .agg ⟨[.bool n.g.na, .slice x1.a x1.n x1.c, .bool n.g.nb, .slice x2.a x2.n x2.c, .bool n.g.nc, .slice x3.a x3.n x3.c, .int .i64 n.l, .int .i64 n.r]⟩/\
  Is G n.g.d (.agg ⟨[.bool n.g.na, .slice x1.a x1.n x1.c, .bool n.g.nb, .slice x2.a x2.n x2.c, .bool n.g.nc, .slice x3.a x3.n x3.c]⟩):=by
 obtain⟨m,rfl,g⟩:=fC.1 h;clear h;obtain⟨v1,m,rfl,h1,h⟩:=bO.1 g;obtain⟨v2,m,rfl,h2,h⟩:=bO.1 h;obtain⟨v3,m,rfl,h3,h⟩:=bO.1 h;obtain⟨v4,m,rfl,h4,h⟩:=bO.1 h;obtain⟨v5,m,rfl,h5,h⟩:=bO.1 h;obtain⟨v6,m,rfl,h6,h⟩:=bO.1 h;obtain⟨v7,m,rfl,h7,h⟩:=bO.1 h;obtain⟨v8,m,rfl,h8,h⟩:=bO.1 h;rw[gw] at h;subst h;obtain⟨_,x1,_,rfl,_,_⟩:=je.1 (id h2);obtain⟨_,x2,_,rfl,_,_⟩:=je.1 (id h4);obtain⟨_,x3,_,rfl,_,_⟩:=je.1 (id h6)
 cases bE.1 h1;cases bE.1 h3;cases bE.1 h5;cases bE.1 h7;cases bE.1 h8
 exact⟨x1,x2,x3,J,fC.2 ⟨_,J, .cons h1 (.cons h2 (.cons h3 (.cons h4 (.cons h5 (.cons h6 .nil)))))⟩⟩
def Jg{G:Gh}{t:Tr}{v:Value}(h:Is G (eU t) v): ∃p,v= .pointer p:=by
 obtain⟨b,m,h,_⟩:=tk.1 h;exact⟨_,h⟩
def PF.fn0{P:Program}{f:FuncId}{ds:List DV}{r:DV}(h: ∀{GB:Gh},PF GB P f ds r){G:Gh}{vs:List Value}(hv:IsLs G ds vs):Fn P f vs G (fun v G'=>Is G' r v):=h (GB:=G) G vs (cc.refl G) hv
def YY(rt:Int)(ns:List RN):DV:= .ag [vI rt, .sl (ns.map RN.d)]

def Tr.pre:Tr->List Tr
 | .leaf b=>[.leaf b]
 | .node l x y=> .node l x y::(x.pre++y.pre)
section
variable {P:Program} {C:aH} {n:Nat} {fr:Fr} {own:List az} {G:Gh}
end

end Go.Sx
end
section
namespace Go.Sx
open Go Go.Proofs Go.RowKit Go.Extern.Stop Go.Stop Go.Extern

end Go.Sx
end
section
namespace Go.Sx
open Go Go.Proofs Tryz
variable {GB:Gh}
section
variable {GB:Gh} {C:aH} {n:Nat} {Q0:Exit->Act->World->Prop} {fr fr':aD} {own own':aO} {cf cf':Cf} {vc:List Prop}
def QT{d:Nat}{f:FX}{x:DV}(hl:bh fr d=some f)(e:ki f=some x){Φ:Act->World->Prop}(h:SX GB C n (bh ((d, .d x)::fr)) (bj own) Φ):SX GB C n (bh fr) (bj own) Φ:=qO (g:= .d x) hl (fun _ _ _ k=>og k e) h
def RC(d:Nat){f:FX}(x:DV){e:Exit}{K:List Kt}(hl:bh fr d=some f)(e1:ki f=some x)(k:ao prog GB C n Q0 ((d, .d x)::fr) own (.ex e K)):ao prog GB C n Q0 fr own (.ex e K):=QT hl e1 k
def Sj(d:Nat){f:FX}(x:DV){c:Code}{K:List Kt}(hl:bh fr d=some f)(e1:ki f=some x)(k:ao prog GB C n Q0 ((d, .d x)::fr) own (.code c K)):ao prog GB C n Q0 fr own (.code c K):=QT hl e1 k
def Wl{nm0 nm:Nat}{B1 B2:Option Bk}:bj (kP (kP own nm0 B1) nm B2)=upB (upB (bj own) [(nm0,B1)]) [(nm,B2)]:=by
 funext j;rw[uU];simp only[upB];rw[uU]
def Wx{nm0 nm k:Nat}(hnm:Nat.blt nm 2000000=true){ty0:TypeId}{cs:List FX}{lo:Bool}(hb:bj own nm0=some (.o ty0 cs lo))(hk:cs[k]? =some .nl)(hne:nm0≠nm){Φ:Act->World->Prop}{ty s:Nat}(hf:kO [nm] none (bh fr) (bj own))
  (h:SX GB C n (bh fr) (bj (kP (kP own nm0 (some (.o ty0 (cs.set k (.rw nm)) lo))) nm (some (.b ty s [] true)))) Φ):SX GB C n (bh fr) (bj own) Φ:=by
 refine⟨fun ρ G ov a w r=>?_⟩;obtain⟨f1,f2⟩:=hf nm aQ;rw[Wl] at h;refine h.run (fun k=>if k=nm then⟨none,0,0⟩ else ρ k) G ov a w ⟨r.gb,r.h,r.sz,r.df,fun k f e=>?_,fun m B e=>?_,fun m m' B B' e e' hne=>?_,fun m p h1 h2 e=>by
  have:nm<2000000:=by simpa[lJ] using hnm
  show(if m=nm then(⟨none,0,0⟩:SV) else ρ m).a=_;rw[if_neg we];exact r.fxd m p h1 h2 e⟩
 .obtain⟨v,h1,h2⟩:=r.fx k f e
  exact⟨v,h1,h2.ren fun m hm=>vn _ fun hc=>f1 k f omc e (by rw[hm,hc])⟩
 .simp only[upB] at e
  by_cases hm:m=nm
  .subst hm;simp only[if_true] at e;cases e
   exact⟨[],⟨[],by simp only[if_true];exact .inl ⟨J,J,J⟩, .nil,omc,fun _ o ho=>by cases ho⟩,fun o ho=>by cases ho⟩
  .simp only[hm,if_false] at e
   by_cases hm0:m=nm0
   .subst hm0;simp only[if_true] at e;cases e
    obtain⟨os,h1,h2⟩:=r.bx m _ hb;have h1':mp (fun k=>if k=nm then⟨none,0,0⟩ else ρ k) G m (.o ty0 cs lo) os:=h1.ren (if_neg hm) fun q hq=>vn _ fun hc=>f2 m _ hm hb oza;obtain⟨b,ms,k1,k2,k3⟩:=h1';refine⟨os,⟨b,ms,k1,k2,?_⟩,h2⟩;obtain⟨y,e1,e2⟩:=k3.get hk;have:=k3.set (f:= .rw nm) (y:=y) k (by show y=_;simp only[if_true];exact e2);rwa [show ms.set k y=ms by apply kZ;intro j;rw[pM];split<;>(try rfl);rename_i hj;subst hj;split<;>simp_all] at this
   .simp only[hm0,if_false] at e
    obtain⟨os,h1,h2⟩:=r.bx m B e;exact⟨os,h1.ren (if_neg hm) fun q hq=>vn _ fun hc=>f2 m B hm e oza,h2⟩
 .intro b hbb hb'
  have key: ∀q B,upB (upB (bj own) [(nm0,some (.o ty0 (cs.set k (.rw nm)) lo))]) [(nm,some (.b ty s [] true))] q=some B->q≠nm-> ∃B0,bj own q=some B0:=fun q B eq hq=>by
   simp only[upB,hq,if_false] at eq;by_cases hq0:q=nm0
   .subst hq0;exact⟨_,hb⟩
   .simp only[hq0,if_false] at eq;exact⟨_,eq⟩
  by_cases hm:m=nm
  .simp[hm] at hbb
  .by_cases hm':m'=nm
   .simp[hm'] at hb'
   .obtain⟨B0,g0⟩:=key m B e hm
    obtain⟨B1,g1⟩:=key m' B' e' hm';simp only[hm,hm',if_false] at hbb hb';exact r.dj m m' B0 B1 g0 g1 hne b hbb hb'
def LJ(nm0 k nm ty s:Nat){ty0:TypeId}{cs:List FX}{lo:Bool}{own1:aO}{c:Code}{K:List Kt}(hb:bj own nm0=some (.o ty0 cs lo))(hk:cs[k]? =some .nl)(hf:wi [nm] none fr own=true)(hne:Nat.beq nm0 nm=false)
  (ho:kP (kP own nm0 (some (.o ty0 (cs.set k (.rw nm)) lo))) nm (some (.b ty s [] true))=own1)(h:ao prog GB C n Q0 fr own1 (.code c K))(hnm:Nat.blt nm 2000000=true:=by rfl):ao prog GB C n Q0 fr own (.code c K):=by
 subst ho;exact Wx hnm hb hk (fun e=>by subst e;rw[nN] at hne;cases hne) (Ao hf) h
def PE{ρ:NE}{G:Gh}: ∀{a b:List FX} {m:List Value},eh ρ G (a++b) m-> ∃m1 m2,m=m1++m2/\eh ρ G a m1/\eh ρ G b m2
 |[],b,m,h=>⟨[],m,J,J,h⟩
 |f::t,b,m,⟨y,n,e,h1,h2⟩=>by
  obtain⟨m1,m2,rfl,k1,k2⟩:=PE h2;exact⟨y::m1,m2,e,⟨y,m1,J,h1,k1⟩,k2⟩
def Sq{ρ:NE}{G:Gh}: ∀{l:List DV} {m:List Value},eh ρ G (l.map .d) m->IsLs G l m
 |[],m,h=>gw.2 h
 |d::t,m,⟨y,n,e,h1,h2⟩=>by subst e;exact .cons h1 (Sq h2)
end
structure Tr.gd (t:Tr):Prop where
 lb:t.all LB
 ok:t.all ab.ok
def YZ{t:Tr}(h:t.gd)(c:au):(t.restrict c).gd:=⟨t.restrict_all LB c h.lb,t.restrict_all ab.ok c h.ok⟩
abbrev Eh:=Int×List RN
def Eh.d(x:Eh):DV:=YY x.1 x.2
structure Eh.ok (x:Eh):Prop where
 s: ∀n∈x.2,n.g.sm
 n:x.2.length<=65536
def Tr.val:Tr->aa->Bool
 | .leaf b,_=>b
 | .node l x y,p=>if 0<l.value p then x.val p else y.val p
def Tr.lns:Tr->List ab
 | .leaf _=>[]
 | .node l x y=>l::(x.lns++y.lns)
def sB{P:ab->Prop}: ∀{t:Tr},t.all P↔ ∀l∈t.lns,P l
 | .leaf _=>⟨fun _ l hl=>(by cases hl),fun _=>trivial⟩
 | .node l x y=>by
  show(P l/\x.all P/\y.all P)↔ ∀m∈l::(x.lns++y.lns),P m;rw[sB (t:=x),sB (t:=y)];constructor
  .rintro ⟨h0,h1,h2⟩ m hm
   rcases aW.1 hm with rfl|hm
   .exact h0
   .rcases bJ.1 hm with hm|hm
    .exact h1 m hm
    .exact h2 m hm
  .intro h
   exact⟨h l aQ,fun m hm=>h m (aX _ (bK _ hm)),fun m hm=>h m (aX _ (bW _ hm))⟩
def jO{t:Tr}(h:t.all ab.ok): ∀l∈t.lns,l.ok:=sB.1 h
def fy(L:List ab)(p:aa):Prop:= ∀l∈L,l.value p≠0
def fy.sub{L M:List ab}{p:aa}(h:fy L p)(k: ∀l∈M,l∈L):fy M p:=fun l hl=>h l (k l hl)
def fy.l{l:ab}{x y:Tr}{p:aa}(h:fy (Tr.node l x y).lns p):l.value p≠0:=h l aQ
def fy.x{l:ab}{x y:Tr}{p:aa}(h:fy (Tr.node l x y).lns p):fy x.lns p:=h.sub fun m hm=>aX _ (bK _ hm)
def fy.y{l:ab}{x y:Tr}{p:aa}(h:fy (Tr.node l x y).lns p):fy y.lns p:=h.sub fun m hm=>aX _ (bW _ hm)
def Tr.val_join(l:ab)(X Y:Tr)(p:aa):(Tr.joinQ l X Y).val p=(Tr.node l X Y).val p:=by
 unfold Tr.joinQ;split
 .rename_i h
  cases X<;>cases Y<;>simp[Tr.isLeaf,Tr.code] at h
  subst h;simp[Tr.val]
 .rfl
def Tr.val_pos{l:ab}{x y:Tr}{p:aa}(h:0<l.value p):(Tr.node l x y).val p=x.val p:=by rw[Tr.val,if_pos h]
def Tr.val_neg{l:ab}{x y:Tr}{p:aa}(h: ¬0<l.value p):(Tr.node l x y).val p=y.val p:=by rw[Tr.val,if_neg h]
def Wn{c:au}{l:ab}(hc:bw c)(hl:l.ok)(hb:bG c l.rev=false){p:aa}(hp:bm c p)(h0:l.value p≠0):0<l.value p:=by
 by_cases h:0<l.value p
 .exact h
 .exfalso
  have:bG c l.rev=true:=(fE hc hl.rev).2 ⟨p,hp,by rw[fg];grind⟩;rw[hb] at this;cases this
def YA{c:au}{l:ab}(hc:bw c)(hl:l.ok)(hb:bG c l=false){p:aa}(hp:bm c p): ¬0<l.value p:=fun h=>by
 have:bG c l=true:=(fE hc hl).2 ⟨p,hp,h⟩;rw[hb] at this;cases this
def Tr.val_restrict: ∀(t:Tr) (c:au) (p:aa),t.all ab.ok->bw c->bm c p->fy t.lns p->(t.restrict c).val p=t.val p
 | .leaf _,_,_,_,_,_,_=>rfl
 | .node l x y,c,p,⟨hl,hx,hy⟩,hc,hp,ho=>by
  cases hb:bG c l.rev with
  |false=>rw[Tr.restrict_A _ _ hb,x.val_restrict c p hx hc hp ho.x,Tr.val_pos (Wn hc hl hb hp ho.l)]
  |true=>
   cases hb2:bG c l with
   |false=>rw[Tr.restrict_B _ _ hb hb2,y.val_restrict c p hy hc hp ho.y,Tr.val_neg (YA hc hl hb2 hp)]
   |true=>
    rw[Tr.restrict_C _ _ hb hb2,Tr.val_join];obtain⟨g1,i1⟩:=gg hc hl hb2;obtain⟨g2,i2⟩:=gg hc hl.rev hb;by_cases h:0<l.value p
    .rw[Tr.val_pos h,Tr.val_pos h,x.val_restrict _ p hx g1 ((i1 p).2 ⟨hp,h⟩) ho.x]
    .rw[Tr.val_neg h,Tr.val_neg h,y.val_restrict _ p hy g2 ((i2 p).2 ⟨hp,by rw[fg];have:=ho.l;grind⟩) ho.y]
def Tc: ∀(L:List ab) (u:aa) (p:aa),fy L p-> ∃e:Rat,0<e/\ ∀d,0<=d->d<=e->fy L (av p u d)
 |[],u,p,_=>⟨1,oma,fun d _ _ l hl=>by cases hl⟩
 |l::L,u,p,h=>by
  obtain⟨e,he,hm⟩:=Tc L u p (h.sub fun m hm=>aX _ hm);have h0:=h l aQ;have key: ∃f:Rat,0<f/\ ∀d,0<=d->d<=f->l.value (av p u d)≠0:=by
   by_cases hk:l.nor.dot u=0
   .exact⟨1,oma,fun d _ _=>by rw[iw,hk];grind⟩
   .generalize hA:l.value p=A at*
    generalize hB:l.nor.dot u=B at*;rcases cP A with h|h|h
    .exact absurd h h0
    .rcases cP B with k|k|k
     .exact absurd k hk
     .exact⟨1,oma,fun d hd _=>by rw[iw,hA,hB];have:=bz hd (aN k);grind⟩
     .refine⟨A/(-B)/2,?_,fun d hd h2=>?_⟩
      .have:0<A/(-B):=by
        have e1:A/(-B)*(-B)=A:=by grind
        exact(gi (k:= -B) omb).1 (by rw[e1];exact h)
       grind
      .rw[iw,hA,hB]
       have e1:A/(-B)*(-B)=A:=by grind
       generalize A/(-B)=q at*;have h4:=bz (a:=q/2-d) (b:= -B) omb omb;grind
    .rcases cP B with k|k|k
     .exact absurd k hk
     .refine⟨(-A)/B/2,?_,fun d hd h2=>?_⟩
      .have:0<(-A)/B:=by
        have e1:(-A)/B*B= -A:=by grind
        exact(gi (k:=B) k).1 (by rw[e1];grind)
       grind
      .rw[iw,hA,hB]
       have e1:(-A)/B*B= -A:=by grind
       generalize (-A)/B=q at*;have h4:=bz (a:=q/2-d) (b:=B) omb omb;grind
     .exact⟨1,oma,fun d hd _=>by rw[iw,hA,hB];have:=bz hd (b:= -B) omb;grind⟩
  obtain⟨f,hf,hk⟩:=key;refine⟨if e<=f then e else f,by split<;>assumption,fun d hd hde m hm'=>?_⟩;have h1:d<=e/\d<=f:=by split at hde<;>grind
  rcases aW.1 hm' with rfl|hm'
  .exact hk d hd h1.2
  .exact hm d hd h1.1 m hm'
def FS{c:au}{p:aa}(hp:bm c p): ∀(L:List ab),(∀l∈L,l.ok)-> ∃q,bm c q/\fy L q
 |[],_=>⟨p,hp,fun l hl=>by cases hl⟩
 |l::L,h=>by
  obtain⟨q,hq,ho⟩:=FS hp L fun m hm=>h m (aX _ hm);by_cases h0:l.value q=0
  .have hn:=q9 (h l aQ).ne
   obtain⟨e,he,hm⟩:=hq.open l.nor;obtain⟨f,hf,hk⟩:=Tc L l.nor q ho;refine⟨av q l.nor (if e<=f then e else f),hm _ (by split<;>grind) (by split<;>grind),fun m hm'=>?_⟩;rcases aW.1 hm' with rfl|hm'
   .rw[iw,h0]
    have:=bg (a:=if e<=f then e else f) (b:=m.nor.dot m.nor) (by split<;>assumption) hn;grind
   .exact hk _ (by split<;>grind) (by split<;>grind) m hm'
  .exact⟨q,hq,fun m hm=>by rcases aW.1 hm with rfl|hm;exact h0;exact ho m hm⟩
def AM{c:au}(hc:bw c)(L:List ab)(h: ∀l∈L,l.ok): ∃q,bm c q/\fy L q:=by
 obtain⟨p,hp⟩:=hc.ne;exact FS hp L h
def Tr.Red:Tr->au->Prop
 | .leaf _,_=>True
 | .node l x y,c=>bG c l=true/\bG c l.rev=true/\x.Red (b9 c l)/\y.Red (b9 c l.rev)/\ ¬(x.isLeaf=true/\y.isLeaf=true/\x.code=y.code)
def Tr.red_leaf{t:Tr}(h:t.isLeaf=true)(c:au):t.Red c:=by
 cases t with
 |leaf b=>trivial
 |node l x y=>cases h
def Tr.join_red{l:ab}{x y:Tr}{c:au}(h1:bG c l=true)(h2:bG c l.rev=true)(hx:x.Red (b9 c l))(hy:y.Red (b9 c l.rev)):(Tr.joinQ l x y).Red c:=by
 rcases Tr.joinQ_cases l x y with⟨e,h⟩|⟨e,h⟩
 .rw[e];exact Tr.red_leaf h c
 .rw[e];exact⟨h1,h2,hx,hy,h⟩
def Tr.restrict_red: ∀(t:Tr) (c:au),(t.restrict c).Red c
 | .leaf _,_=>trivial
 | .node l x y,c=>by
  cases hb:bG c l.rev with
  |false=>rw[Tr.restrict_A _ _ hb];exact x.restrict_red c
  |true=>
   cases hb2:bG c l with
   |false=>rw[Tr.restrict_B _ _ hb hb2];exact y.restrict_red c
   |true=>rw[Tr.restrict_C _ _ hb hb2];exact Tr.join_red hb2 hb (x.restrict_red _) (y.restrict_red _)
def aFs(p:aa):bm [] p:=fun s hs=>(by cases hs)
def ab.same(l m:ab):Prop:=m=l\/m=l.rev
instance (l m:ab):Decidable (l.same m):=inferInstanceAs (Decidable (_\/_))
def Tr.cnt(l:ab):Tr->Nat
 | .leaf _=>0
 | .node m x y=>(if l.same m then 1 else 0)+(x.cnt l+y.cnt l)
def CW{l m:ab}(h:l.same m){p:aa}(hp:l.value p=0):m.value p=0:=by
 rcases h with rfl|rfl
 .exact hp
 .rw[fg,hp];rfl
def HF(l:ab)(c:au):Prop:= ∃p,bm c p/\l.value p=0
def Tr.cnt_zero{l:ab}: ∀{t:Tr} {c:au},t.Red c->t.all ab.ok->bw c-> ¬HF l c->t.cnt l=0
 | .leaf _,_,_,_,_,_=>rfl
 | .node m x y,c,⟨h1,h2,h3,h4,_⟩,⟨hm,hx,hy⟩,hc,hn=>by
  obtain⟨g1,i1⟩:=gg hc hm h1;obtain⟨g2,i2⟩:=gg hc hm.rev h2;have e1:=Tr.cnt_zero (l:=l) h3 hx g1 (fun⟨p,hp,h0⟩=>hn ⟨p,((i1 p).1 hp).1,h0⟩);have e2:=Tr.cnt_zero (l:=l) h4 hy g2 (fun⟨p,hp,h0⟩=>hn ⟨p,((i2 p).1 hp).1,h0⟩);rw[Tr.cnt,e1,e2];by_cases hs:l.same m
  .exfalso
   -- m crosses the cell
   obtain⟨p,hp,k1⟩:=(fE hc hm).1 h1;obtain⟨q,hq,k2⟩:=(fE hc hm.rev).1 h2;rw[fg] at k2;generalize hA:m.value p=A at*;generalize hB:m.value q=B at*;have hAB:0<A-B:=by grind
   have e:A/(A-B)*(A-B)=A:=by grind
   generalize A/(A-B)=r at*;have r0:0<=r:=(ja hAB).1 (by rw[e];exact aN k1);have r1:r<=1:=by
    have:=(ja (s:=1-r) hAB).1 omb;grind
   have hz:=hp.seg hq r0 r1;have hv:m.value (aA p q r)=0:=by rw[mz,hA,hB];grind
   refine hn ⟨_,hz,?_⟩;rcases hs with rfl|rfl
   .exact hv
   .rw[fg] at hv;grind
  .rw[if_neg hs]
def t6(c:au)(p:aa):Bool:=c.all fun s=>decide (0<s.l.value p)
def uv{c:au}{p:aa}:t6 c p=true↔bm c p:=by
 unfold t6 bm;rw[cN];simp
def S2(P:List aa)(l:ab)(t:Tr):Prop:=t.all fun m=>l.same m\/ ∀p,l.value p=0->m.value p=0->p∈P
def JA{α:Type}{p q r:α->Bool}: ∀(P:List α),(∀x∈P,q x=true->p x=true)->(∀x∈P,r x=true->p x=true)->(∀x∈P,¬(q x=true/\r x=true))->P.countP q+P.countP r<=P.countP p
 |[],_,_,_=>bV _
 |x::P,h1,h2,h3=>by
  have ih:=JA (p:=p) (q:=q) (r:=r) P (fun y hy=>h1 y (aX _ hy)) (fun y hy=>h2 y (aX _ hy)) (fun y hy=>h3 y (aX _ hy));have a:=h1 x aQ;have b:=h2 x aQ;have c:=h3 x aQ;rw[pK,pK,pK]
  cases hq:q x<;>cases hr:r x<;>simp_all<;>omega
def Nx{α:Type}{p q r:α->Bool}: ∀(P:List α),(∀x∈P,q x=true->p x=true)->(∀x∈P,r x=true->p x=true)->(∀x∈P,¬(q x=true/\r x=true))->(∃x∈P,p x=true/\q x=false/\r x=false)->P.countP q+P.countP r+1<=P.countP p
 |[],_,_,_,⟨x,hx,_⟩=>by cases hx
 |x::P,h1,h2,h3,h4=>by
  have i2:=JA (p:=p) (q:=q) (r:=r) P (fun y hy=>h1 y (aX _ hy)) (fun y hy=>h2 y (aX _ hy)) (fun y hy=>h3 y (aX _ hy));have a:=h1 x aQ;have b:=h2 x aQ;have c:=h3 x aQ;rw[pK,pK,pK];obtain⟨z,hz,k1,k2,k3⟩:=h4;rcases aW.1 hz with rfl|hz
  .simp only[k1,k2,k3];simp;omega
  .have ih:=Nx (p:=p) (q:=q) (r:=r) P (fun y hy=>h1 y (aX _ hy)) (fun y hy=>h2 y (aX _ hy)) (fun y hy=>h3 y (aX _ hy)) ⟨z,hz,k1,k2,k3⟩
   cases hq:q x<;>cases hr:r x<;>simp_all<;>omega
def Tr.cnt_le{l:ab}(hl:l.ok){P:List aa}: ∀{t:Tr} {c:au},t.Red c->t.all ab.ok->bw c->S2 P l t->t.cnt l<=1+P.countP (t6 c)
 | .leaf _,_,_,_,_,_=>bS _
 | .node m x y,c,⟨h1,h2,h3,h4,_⟩,⟨hm,hx,hy⟩,hc,⟨v0,v1,v2⟩=>by
  obtain⟨g1,i1⟩:=gg hc hm h1;obtain⟨g2,i2⟩:=gg hc hm.rev h2;have q1: ∀p∈P,t6 (b9 c m) p=true->t6 c p=true:=fun p _ h=>uv.2 ((i1 p).1 (uv.1 h)).1;have q2: ∀p∈P,t6 (b9 c m.rev) p=true->t6 c p=true:=fun p _ h=>uv.2 ((i2 p).1 (uv.1 h)).1;have q3: ∀p∈P,¬(t6 (b9 c m) p=true/\t6 (b9 c m.rev) p=true):=fun p _ ⟨a,b⟩=>by
   have a:=((i1 p).1 (uv.1 a)).2;have b:=((i2 p).1 (uv.1 b)).2;rw[fg] at b;grind
  have ct:=JA P q1 q2 q3;rw[Tr.cnt];by_cases hs:l.same m
  .have e1:=Tr.cnt_zero (l:=l) h3 hx g1 (fun⟨p,hp,h0⟩=>by have:=((i1 p).1 hp).2;rw[CW hs h0] at this;grind)
   have e2:=Tr.cnt_zero (l:=l) h4 hy g2 (fun⟨p,hp,h0⟩=>by have:=((i2 p).1 hp).2;rw[fg,CW hs h0] at this;grind);rw[e1,e2,if_pos hs];omega
  .rw[if_neg hs]
   have b1:=Tr.cnt_le hl h3 hx g1 v1;have b2:=Tr.cnt_le hl h4 hy g2 v2;by_cases w1:HF l (b9 c m)
   .by_cases w2:HF l (b9 c m.rev)
    .-- the crossing uJ in the cell
     obtain⟨p,hp,k1⟩:=w1;obtain⟨q,hq,k2⟩:=w2;obtain⟨hp,ap⟩:=(i1 p).1 hp;obtain⟨hq,aq⟩:=(i2 q).1 hq;rw[fg] at aq;generalize hA:m.value p=A at*;generalize hB:m.value q=B at*;have hAB:0<A-B:=by grind
     have e:A/(A-B)*(A-B)=A:=by grind
     generalize A/(A-B)=r at*;have r0:0<=r:=(ja hAB).1 (by rw[e];exact aN ap);have r1:r<=1:=by
      have:=(ja (s:=1-r) hAB).1 omb;grind
     have hz:=hp.seg hq r0 r1;have hv:m.value (aA p q r)=0:=by rw[mz,hA,hB];grind
     have hv2:l.value (aA p q r)=0:=by rw[mz,k1,k2];grind
     have hmem:aA p q r∈P:=by
      rcases v0 with h|h
      .exact absurd h hs
      .exact h _ hv2 hv
     have c3:=Nx P q1 q2 q3 ⟨_,hmem,uv.2 hz,by
      rw[<-nX,uv,i1];rintro ⟨_,h⟩;rw[hv] at h;grind,by
      rw[<-nX,uv,i2];rintro ⟨_,h⟩;rw[fg,hv] at h;grind⟩
     omega
    .rw[Tr.cnt_zero h4 hy g2 w2];omega
   .rw[Tr.cnt_zero h3 hx g1 w1];omega
def xe(l:ab):l.rev.rev=l:=by cases l;simp[ab.rev]
def ab.same.symm{l m:ab}(h:l.same m):m.same l:=by
 rcases h with rfl|rfl
 .exact .inl J
 .exact .inr (xe l).symm
def ab.same.trans{l m n:ab}(h:l.same m)(k:m.same n):l.same n:=by
 rcases h with rfl|rfl
 .exact k
 .rcases k with rfl|rfl
  .exact .inr J
  .exact .inl (xe l)
def sD(K:List ab)(t:Tr):Prop:=t.all fun n=> ∃m∈K,m.same n
def Ec(l m:ab):aa:=l.at (-(l.cutC m/l.cutK m))
def X7{l m:ab}(hl:l.ok)(hm:m.ok){p:aa}(h1:l.value p=0)(h2:m.value p=0):l.same m\/p=Ec l m:=by
 obtain⟨t,rfl⟩:=Cq hl.ne h1;rw[jx] at h2;by_cases hk:l.cutK m=0
 .left
  have hc:l.cutC m=0:=by rw[hk] at h2;grind
  rcases vN hm hl (fun s=>by rw[jx,hk,hc];grind) with h|h
  .exact .inl h
  .exact .inr h
 .right
  unfold Ec;congr 1;grind
def sD.covers{K:List ab}(hK: ∀m∈K,m.ok){l:ab}(hl:l.ok): ∀{t:Tr},sD K t->S2 (K.map (Ec l)) l t
 | .leaf _,_=>trivial
 | .node n x y,⟨⟨m,hm,hs⟩,h1,h2⟩=>by
  refine⟨?_,sD.covers hK hl h1,sD.covers hK hl h2⟩;by_cases h:l.same n
  .exact .inl h
  .right
   intro p k1 k2;rcases X7 hl (hK m hm) k1 (CW hs.symm k2) with h3|h3
   .exact absurd (h3.trans hs) h
   .rw[h3];exact eX hm
def Kc(t:Tr):List ab->Nat
 |[]=>0
 |l::K=>t.cnt l+Kc t K
def Ks(n:ab):List ab->Nat
 |[]=>0
 |l::K=>(if l.same n then 1 else 0)+Ks n K
def Qc{n:ab}{x y:Tr}: ∀K,Kc (.node n x y) K=Ks n K+(Kc x K+Kc y K)
 |[]=>rfl
 |l::K=>by
  have:=Qc (n:=n) (x:=x) (y:=y) K;show(Tr.node n x y).cnt l+Kc (.node n x y) K=_;rw[this,Tr.cnt];show _=(if l.same n then 1 else 0)+Ks n K+(x.cnt l+Kc x K+(y.cnt l+Kc y K));omega
def Ny{n m:ab}(hs:m.same n): ∀{K:List ab},m∈K->1<=Ks n K
 |[],h=>by cases h
 |l::K,h=>by
  show 1<=(if l.same n then 1 else 0)+Ks n K;rcases aW.1 h with rfl|h
  .rw[if_pos hs];omega
  .have:=Ny hs h;omega
def Jk{K:List ab}: ∀{t:Tr},sD K t->t.size<=Kc t K
 | .leaf _,_=>bS _
 | .node n x y,⟨⟨m,hm,hs⟩,h1,h2⟩=>by
  have a:=Jk h1;have b:=Jk h2;have c:=Ny hs hm;rw[Qc,Tr.size];omega
def OM{t:Tr}{B:Nat}: ∀{K:List ab},(∀l∈K,t.cnt l<=B)->Kc t K<=K.length*B
 |[],_=>bS _
 |l::K,h=>by
  have:=OM (t:=t) (B:=B) (K:=K) fun m hm=>h m (aX _ hm);have:=h l aQ;show t.cnt l+Kc t K<=(K.length+1)*B;rw[iN];omega
def Tr.size_le{K:List ab}(hK: ∀m∈K,m.ok){t:Tr}{c:au}(hr:t.Red c)(ht:t.all ab.ok)(hc:bw c)(h:sD K t):t.size<=K.length*(1+K.length):=by
 refine dJ (Jk h) (OM fun l hl=>?_);refine dJ (Tr.cnt_le (hK l hl) hr ht hc (h.covers hK (hK l hl))) ?_;have:=List.countP_le_length (p:=t6 c) (l:=K.map (Ec l));rw[aK] at this;omega
def sD.restrict{K:List ab}{t:Tr}(h:sD K t)(c:au):sD K (t.restrict c):=t.restrict_all _ c h

def oI(x:Rat):List Rat->List Rat
 |[]=>[x]
 |u::t=>if u<x then u::oI x t else if u=x then u::t else x::u::t
def jn:List Rat->List Rat
 |a::b::t=>(a+b)/2::jn (b::t)
 |_=>[]
def gt:List Rat->List Rat
 |[]=>[0]
 |a::t=>(a-1)::(jn (a::t)++[(a::t).getLast omc+1])
def rP{x y:Rat}: ∀{l:List Rat},y∈oI x l↔y=x\/y∈l
 |[]=>by simp[oI]
 |u::t=>by
  rw[oI];split
  .rw[aW,rP (l:=t),aW];grind
  .split
   .rename_i h;subst h;simp
   .simp
def BG{x:Rat}: ∀{l:List Rat},l.Pairwise (· < ·)->(oI x l).Pairwise (· < ·)
 |[],_=>by simp[oI]
 |u::t,h=>by
  rw[bM] at h;rw[oI];split
  .rename_i hu
   rw[bM];refine⟨fun y hy=>?_,BG h.2⟩;rcases rP.1 hy with rfl|hy
   .exact hu
   .exact h.1 y hy
  .rename_i hu
   split
   .rw[bM];exact h
   .rename_i hn
    have hx:x<u:=by grind
    rw[bM,bM];refine⟨fun y hy=>?_,h⟩;rcases aW.1 hy with rfl|hy
    .exact hx
    .have:=h.1 y hy;grind
def Mb: ∀{l:List Rat} (h:l.Pairwise (· < ·)) (hn:l≠[]),∀y∈l,y<=l.getLast hn
 |[a],_,_,y,hy=>by rw[aV] at hy;subst hy;exact dX
 |a::b::t,h,_,y,hy=>by
  rw[bM] at h;rw[List.getLast_cons omc];have ih:=Mb h.2 omc;rcases aW.1 hy with rfl|hy
  .have:=h.1 b aQ
   have:=ih b aQ;grind
  .exact ih y hy

def ml(out:List Rat)(s:ai):List Rat:=if s.nh then(if s.nl then out else oI s.lo out) else oI s.hi (if s.nl then out else oI s.lo out)
def iI(l:List ai):List Rat:=l.foldl ml []
def p9:List ai->Rat->Int
 |[],_=>0
 |s::t,x=>
  let a:=if s.nl then 1 else bt x s.lo
  let b:=if s.nh then-1 else bt x s.hi
  if 0<a/\b<0 then 2 else if(a=0/\b<=0)\/(b=0/\0<=a) then 1 else p9 t x
def gy(l:List ai)(x:Rat):Bool:=decide (p9 l x=2)
def eE(cuts:List Rat)(i:Nat):ai:=⟨if i=0 then 0 else cuts.getD (i-1) 0,if i<cuts.length then cuts.getD i 0 else 0,decide (i=0),decide (i=cuts.length)⟩
def wj(v w:ai):ai:=⟨v.lo,w.hi,v.nl,w.nh⟩
def gz(cuts:List Rat)(marks:List Bool):Nat->List ai
 |0=>[]
 |k+1=>
  let out:=gz cuts marks k
  if marks.getD k false then
   (if 0<k/\marks.getD (k-1) false=true then(match out.getLast? with
    |some v=>out.dropLast++[wj v (eE cuts k)]
    |none=>out++[eE cuts k]) else out++[eE cuts k])
  else out
def wo(cuts:List Rat)(marks:List Bool):List ai:=gz cuts marks marks.length
def o9(op:Int)(x y:Bool):Bool:=if op=2 then x&&y else if op=3 then x&&!y else if op=4 then x !=y else x||y
def ke(op:Int)(a b:List ai):List ai:=wo (iI (a++b)) ((gt (iI (a++b))).map fun t=>o9 op (gy a t) (gy b t))
def jk(l m:ab)(side:Int):List ai:=
 if crossI l m=0 then(if(m.value l.base).num.sign=side then [ai.all] else [])
 else if(m.value (l.at (fI l (c9 l m)+1))).num.sign=side then [⟨fI l (c9 l m),0,false,true⟩] else [⟨0,fI l (c9 l m),true,false⟩]
def l7(l m:ab):Bool:=decide (crossI l m=0/\(m.value l.base).num.sign=0)
def fG(f:aI)(m:ab)(side:Int):List aI:=if l7 f.l m then [] else(ke 2 [f.v] (jk f.l m side)).map fun v=>⟨f.l,v⟩
def Jr(l:List ai):(iI l).Pairwise (· < ·)/\ ∀y∈iI l,∃s∈l,(s.nl=false/\y=s.lo)\/(s.nh=false/\y=s.hi):=by
 have key: ∀(l:List ai) (o:List Rat),o.Pairwise (· < ·)->(l.foldl ml o).Pairwise (· < ·)/\ ∀y∈l.foldl ml o,y∈o\/ ∃s∈l,(s.nl=false/\y=s.lo)\/(s.nh=false/\y=s.hi):=by
  intro l
  induction l with
  |nil=>intro o h;exact⟨h,fun y hy=> .inl hy⟩
  |cons s t ih=>
   intro o h;have h1:(ml o s).Pairwise (· < ·)/\ ∀y∈ml o s,y∈o\/(s.nl=false/\y=s.lo)\/(s.nh=false/\y=s.hi):=by
    unfold ml
    cases e1:s.nl<;>cases e2:s.nh<;>simp only[if_true,fT,if_false]
    .refine⟨BG (BG h),fun y hy=>?_⟩
     rcases rP.1 hy with h|h
     .exact .inr (.inr ⟨trivial,h⟩)
     .rcases rP.1 h with h|h
      .exact .inr (.inl ⟨trivial,h⟩)
      .exact .inl h
    .refine⟨BG h,fun y hy=>?_⟩
     rcases rP.1 hy with h|h
     .exact .inr (.inl ⟨trivial,h⟩)
     .exact .inl h
    .refine⟨BG h,fun y hy=>?_⟩
     rcases rP.1 hy with h|h
     .exact .inr (.inr ⟨trivial,h⟩)
     .exact .inl h
    .exact⟨h,fun y hy=> .inl hy⟩
   obtain⟨k1,k2⟩:=ih (ml o s) h1.1;refine⟨k1,fun y hy=>?_⟩;rcases k2 y hy with h2|⟨q,hq,h2⟩
   .rcases h1.2 y h2 with h3|h3
    .exact .inl h3
    .exact .inr ⟨s,aQ,h3⟩
   .exact .inr ⟨q,aX _ hq,h2⟩
 have:=key l [] List.Pairwise.nil;refine⟨this.1,fun y hy=>?_⟩;rcases this.2 y hy with h|h
 .cases h
 .exact h
structure IP (cuts:List Rat) (v:ai):Prop where
 z:iF v
 lo:v.nl=true\/v.lo∈cuts
 hi:v.nh=true\/v.hi∈cuts
def XQ{cuts:List Rat}{i:Nat}(h:i<=cuts.length):IP cuts (eE cuts i):=by
 unfold eE;refine⟨⟨fun e=>?_,fun e=>?_⟩,?_,?_⟩
 .simp only[decide_eq_true_eq] at e;simp[e]
 .simp only[decide_eq_true_eq] at e;simp[e]
 .by_cases h0:i=0
  .left;simp[h0]
  .right
   simp only[if_neg h0];rw[aJ,aZ we];exact bN _
 .by_cases h0:i=cuts.length
  .left;simp[h0]
  .right
   simp only[if_pos (show i<cuts.length by omega)];rw[aJ,aZ we];exact bN _
def PK{cuts:List Rat}{marks:List Bool}: ∀{k:Nat},k<=cuts.length+1-> ∀v∈gz cuts marks k,IP cuts v
 |0,_,v,hv=>by cases hv
 |k+1,hk,v,hv=>by
  have ih:=PK (cuts:=cuts) (marks:=marks) (k:=k) we;have hg:=XQ (cuts:=cuts) (i:=k) we;rw[gz] at hv;split at hv
  .split at hv
   .split at hv
    .rename_i w hw
     rcases bJ.1 hv with h|h
     .exact ih v ((sX _).subset h)
     .rw[aV] at h;subst h
      have hw':=ih w (oX hw);exact⟨⟨hw'.z.1,hg.z.2⟩,hw'.lo,hg.hi⟩
    .rcases bJ.1 hv with h|h
     .exact ih v h
     .rw[aV] at h;subst h;exact hg
   .rcases bJ.1 hv with h|h
    .exact ih v h
    .rw[aV] at h;subst h;exact hg
  .exact ih v hv
def A'{l:List Rat}:(gt l).length=l.length+1:=by
 have key: ∀(l:List Rat) (a:Rat),(jn (a::l)).length=l.length:=by
  intro l
  induction l with
  |nil=>intro a;rfl
  |cons b t ih=>intro a;rw[jn,bZ,ih b,bZ]
 cases l with
 |nil=>rfl
 |cons a t=>rw[gt,bZ,aR,key];simp
def aAx{op:Int}{a b:List ai}: ∀v∈ke op a b,IP (iI (a++b)) v:=fun v hv=>by
 unfold ke wo at hv;refine PK ?_ v hv;rw[aK,A'];omega
def F1{cuts:List Rat}{marks:List Bool}: ∀{k:Nat},(gz cuts marks k).length<=k
 |0=>bV _
 |k+1=>by
  have ih:=F1 (cuts:=cuts) (marks:=marks) (k:=k);rw[gz];split
  .split
   .split
    .rename_i w hw
     have:=rT (oX hw);rw[aR,iV];simp;omega
    .rw[aR];simp;omega
   .rw[aR];simp;omega
  .omega
structure mP (f:aI):Prop where
 lb:LB f.l
 ok:f.l.ok
 z:iF f.v
 lo:BQ f.v.lo 1200
 hi:BQ f.v.hi 1200
theorem BQ.zero1200:BQ (0:Rat) 1200:=BQ.mono (k:=1) ⟨oma,oma⟩
def Ke{l m:ab}(hl:LB l)(hm:LB m)(hlo:l.ok){side:Int}: ∀v∈jk l m side,iF v/\BQ v.lo 1200/\BQ v.hi 1200:=fun v hv=>by
 unfold jk at hv;split at hv
 .split at hv
  .rw[aV] at hv;subst hv;exact⟨iF.all,BQ.zero1200,BQ.zero1200⟩
  .cases hv
 .rename_i hc
  have:=zW hlo.ne hc;split at hv
  .rw[aV] at hv;subst hv;exact⟨⟨fun h=>okS,fun _=>J⟩,this,BQ.zero1200⟩
  .rw[aV] at hv;subst hv;exact⟨⟨fun _=>J,fun h=>okS⟩,BQ.zero1200,this⟩
def Dd{f:aI}{m:ab}(h:mP f)(hm:LB m){side:Int}: ∀g∈fG f m side,mP g/\g.l=f.l/\l7 f.l m=false:=fun g hg=>by
 unfold fG at hg;split at hg
 .cases hg
 .rename_i ho
  obtain⟨v,hv,rfl⟩:=aS.1 hg;have hi:=aAx v hv;have bd: ∀y∈iI ([f.v]++jk f.l m side),BQ y 1200:=fun y hy=>by
   obtain⟨s,hs,h1⟩:=(Jr _).2 y hy;rcases bJ.1 hs with hs|hs
   .rw[aV] at hs;subst hs
    rcases h1 with⟨_,rfl⟩|⟨_,rfl⟩
    .exact h.lo
    .exact h.hi
   .have:=Ke h.lb hm h.ok s hs
    rcases h1 with⟨_,rfl⟩|⟨_,rfl⟩
    .exact this.2.1
    .exact this.2.2
  refine⟨⟨h.lb,h.ok,hi.z,?_,?_⟩,J,by simpa using ho⟩
  .rcases hi.lo with e|e
   .rw[hi.z.1 e];exact BQ.zero1200
   .exact bd _ e
  .rcases hi.hi with e|e
   .rw[hi.z.2 e];exact BQ.zero1200
   .exact bd _ e
def jA(acc:aa->Bool):Nat->List aI->List ab->Tr
 |_,[],c=> .leaf (acc (jo c c))
 |0,_::_,_=> .leaf false
 |n+1,f::t,c=> .node f.l (jA acc n ((f::t).flatMap fun g=>fG g f.l 1) (c++[f.l])) (jA acc n ((f::t).flatMap fun g=>fG g f.l (-1)) (c++[f.l.rev]))
def WH{f g:aI}{m:ab}{side:Int}(h:g∈fG f m side):g.l=f.l:=by
 unfold fG at h;split at h
 .cases h
 .obtain⟨v,_,rfl⟩:=aS.1 h;rfl
def w4{acc:aa->Bool}{P:ab->Prop}: ∀{n:Nat} {l:List aI} {c:List ab},(∀f∈l,P f.l)->(jA acc n l c).all P
 |n,[],c,_=>by unfold jA;trivial
 |0,_::_,_,_=>by unfold jA;trivial
 |n+1,f::t,c,h=>by
  rw[jA];refine⟨h f aQ,w4 fun g hg=>?_,w4 fun g hg=>?_⟩<;>
  .obtain⟨q,hq,hg⟩:=dK.1 hg
   rw[WH hg];exact h q hq
def JY{acc:aa->Bool}: ∀{n:Nat} {l:List aI} {c:List ab},(jA acc n l c).depth<=n
 |n,[],c=>by unfold jA;exact bS _
 |0,_::_,_=>by unfold jA;exact bS _
 |n+1,f::t,c=>by
  rw[jA,Tr.depth];have h1:=JY (acc:=acc) (n:=n) (l:=(f::t).flatMap fun g=>fG g f.l 1) (c:=c++[f.l]);have h2:=JY (acc:=acc) (n:=n) (l:=(f::t).flatMap fun g=>fG g f.l (-1)) (c:=c++[f.l.rev]);omega
def sE(n:Nat)(l:List aI):Prop:= ∃K:List ab,K.length<=n/\ ∀f∈l,∃m∈K,m.same f.l
def apN{m:ab}(hm:m.Ne):m.value m.base=0:=by
 have h:=jB hm 0;rw[<-uT,iw] at h;grind
def azD{l m:ab}(h:l.same m)(hm:m.Ne):l7 m l=true:=by
 unfold l7;rw[decide_eq_true_iff];refine⟨?_,?_⟩
 .rcases h with rfl|rfl
  .unfold crossI;omega
  .unfold crossI ab.rev
   show(-l.a)*l.b-l.a*(-l.b)=0;grind
 .rw[l5]
  exact CW h.symm (apN hm)
def sE.split{n:Nat}{f:aI}{t:List aI}(h:sE (n+1) (f::t))(hok: ∀g∈f::t,mP g){side:Int}:sE n ((f::t).flatMap fun g=>fG g f.l side):=by
 obtain⟨K,hK,hs⟩:=h;refine⟨K.filter fun m=>!decide (m.same f.l),?_,fun g hg=>?_⟩
 .obtain⟨m,hm,hm2⟩:=hs f aQ
  have:(K.filter fun m=>!decide (m.same f.l)).length<K.length:=by
   refine List.length_filter_lt_length_iff_exists.2 ⟨m,hm,by simp[hm2]⟩
  omega
 .obtain⟨q,hq,hg⟩:=dK.1 hg
  obtain⟨_,e,ho⟩:=Dd (hok q hq) (hok f aQ).lb g hg;obtain⟨m,hm,hm2⟩:=hs q hq;refine⟨m,iZ.2 ⟨hm,?_⟩,by rw[e];exact hm2⟩;simp only[fM,decide_eq_false_iff_not];intro h;have:=azD (h.symm.trans hm2) (hok q hq).ok.ne;rw[this] at ho;cases ho
def Vt{p q r:Bool}{a b c:Nat}(h:Nat.gcd a b≠0):ab.ok ⟨zv p (a/Nat.gcd (Nat.gcd a b) c),zv q (b/Nat.gcd (Nat.gcd a b) c),zv r (c/Nat.gcd (Nat.gcd a b) c)⟩:=by
 have hg:0<Nat.gcd (Nat.gcd a b) c:=mV _ (jM h);have d0:Nat.gcd (Nat.gcd a b) c∣Nat.gcd a b:=nK _ _;have d1:Nat.gcd (Nat.gcd a b) c∣a:=sT d0 (nK _ _);have d2:Nat.gcd (Nat.gcd a b) c∣b:=sT d0 (oZ _ _);have d3:Nat.gcd (Nat.gcd a b) c∣c:=oZ _ _;refine⟨?_,?_⟩
 .rintro ⟨h1,h2⟩
  have h1':=congrArg Int.natAbs h1;have h2':=congrArg Int.natAbs h2;simp only[tn,kY] at h1' h2';have e1:=Nat.div_mul_cancel d1;have e2:=Nat.div_mul_cancel d2;rw[h1',kN] at e1;rw[h2',kN] at e2;exact h (by rw[<-e1,<-e2];rfl)
 .simp only[tn]
  rw[Nat.gcd_div d1 d2,Nat.gcd_div d0 d3,Nat.div_self hg]
def Gr(p:Bool)(a g:Nat):(zv p (a/g)).natAbs<=a:=by rw[tn];exact mU ..
def PF.eq{P:Program}{f:FuncId}{vs:List DV}{r r':DV}(h:PF GB P f vs r)(e:r=r'):PF GB P f vs r':=e▸h
def iP(m n:Int):aa:=⟨(m:Rat),(n:Rat)⟩
theorem BV{m:Int}{k:Nat}(h:m.natAbs<2^k:=by omega):BI m k:=⟨h⟩
theorem jz{m:Int}{k:Nat}(h:m.natAbs<=1000)(hk:10<=k:=by decide):BI m k:=⟨eY (show m.natAbs<2^10 by omega) (cY oma hk)⟩
instance aE.int (m n:Int) (i:Nat) [h:BI m i] [k:BI n i]:aE (iP m n) (i+1):=⟨inferInstanceAs (BQ (m:Rat) (i+1)),inferInstanceAs (BQ (n:Rat) (i+1))⟩
def vP{q:Rat}{k:Int}(h:q=(k:Rat)):eQ q=eQ (k:Rat):=by rw[h]
def W5{p:aa}{m n:Int}(h1:p.x=(m:Rat))(h2:p.y=(n:Rat)):eP p=eP (iP m n):=by
 obtain⟨x,y⟩:=p;simp only at h1 h2;subst h1 h2;rfl
def rE(a b c:Int):ab:=
 ⟨zv (decide (a<0)) (a.natAbs/Nat.gcd (Nat.gcd a.natAbs b.natAbs) c.natAbs),zv (decide (b<0)) (b.natAbs/Nat.gcd (Nat.gcd a.natAbs b.natAbs) c.natAbs),zv (decide (c<0)) (c.natAbs/Nat.gcd (Nat.gcd a.natAbs b.natAbs) c.natAbs)⟩
def WY{a b c:Int}(h: ¬(a=0/\b=0)):(rE a b c).ok:=
 Vt fun e=>h ⟨nY.1 (oY e),nY.1 (oJ e)⟩
def aIo(a b c:Int):(rE a b c).a.natAbs<=a.natAbs/\(rE a b c).b.natAbs<=b.natAbs/\(rE a b c).c.natAbs<=c.natAbs:=⟨Gr ..,Gr ..,Gr ..⟩
def iG{m n:Int}(hm:m.natAbs<=1000:=by omega)(hn:n.natAbs<=1000:=by omega):PF GB prog 22 [.v (.int .i64 m), .v (.int .i64 n)] (eP (iP m n)):=by
 refine fn func22 J J ntmps22 J J (fun C=>?_);refine cl J (lh (n:=m) we we) J<|cl J (lh (n:=n) we we) J<|rz J J
def Ai{m n m' n' k:Int}(hm:m.natAbs<=1000)(hn:n.natAbs<=1000)(hm':m'.natAbs<=1000)(hn':n'.natAbs<=1000)(hk:k.natAbs<=1000:=by decide):PF GB prog 26 [eP (iP m n),eQ (k:Rat),eP (iP m' n')] (eP (iP (m+k*m') (n+k*n'))):=by
 haveI:=jz (k:=10) hm;haveI:=jz (k:=10) hn;haveI:=jz (k:=10) hm';haveI:=jz (k:=10) hn';haveI:=jz (k:=10) hk;exact PF.eq (Cu (p:=iP m n) (q:=iP m' n') (c:=(k:Rat))) (W5 (by show(m:Rat)+(k:Rat)*(m':Rat)=_;push_cast;rfl) (by show(n:Rat)+(k:Rat)*(n':Rat)=_;push_cast;rfl))
def aIl{m n m' n':Int}(hm:m.natAbs<=1000)(hn:n.natAbs<=1000)(hm':m'.natAbs<=1000)(hn':n'.natAbs<=1000):PF GB prog 112 [eP (iP m n),eP (iP m' n')] (eP (iP (m-m') (n-n'))):=by
 refine fn func112 J J ntmps112 J J (fun C=>?_);refine cl J (lh (n:= -1)) J<|cl J (Ai (m:=m) (n:=n) (m':=m') (n':=n') (k:= -1) hm hn hm' hn') J<|rz J (by rw[show m-m'=m+ -1*m' by omega,show n-n'=n+ -1*n' by omega];rfl)
def IA{m n m' n':Int}(hm:m.natAbs<=1000:=by omega)(hn:n.natAbs<=1000:=by omega)(hm':m'.natAbs<=1000:=by omega)(hn':n'.natAbs<=1000:=by omega):PF GB prog 28 [eP (iP m n),eP (iP m' n')] (.v (.bool (decide (m=m'/\n=n')))):=by
 haveI:=jz (k:=10) hm;haveI:=jz (k:=10) hn;haveI:=jz (k:=10) hm';haveI:=jz (k:=10) hn';refine fn func28 J J ntmps28 J J (fun C=>?_);refine cl J (lg (a:=(m:Rat)) (b:=(m':Rat))) J<|cs 11 J J J (fun hg11=>?_) (fun hg11=>?_)
 .
  refine cl J (lg (a:=(n:Rat)) (b:=(n':Rat))) J<|rz J (by rw[ou] at hg11;have e:m=m':=(by exact_mod_cast hg11);exact congrArg (fun z=>DV.v (.bool z)) (decide_eq_decide.2 (by rw[ou,pU];simp[e])))
 .
  exact rz J (by rw[ou] at hg11;have e: ¬m=m':=(fun e=>hg11 okC);show DV.v (.bool false)=DV.v (.bool _);rw[decide_eq_false (fun h=>e h.1)])
def Oj{a b k:Nat}(ha:a<k)(hb:b<k):Nat.gcd a b<k:=by
 rcases fW a with rfl|p
 .simpa using hb
 .exact gU (Nat.gcd_le_left b p) ha
def aE8{a b c:Int}{i:Nat}(ha:BI a i)(hb:BI b i)(hc:BI c i)(hi:i<=100000000)(h0: ¬(a=0/\b=0)):PF GB prog 184 [eI a,eI b,eI c] (.tp [eL (rE a b c), .v (.bool true)]):=by
 have hgn:Nat.gcd a.natAbs b.natAbs≠0:=fun h=>h0 ⟨nY.1 (oY h),nY.1 (oJ h)⟩;have hgp:0<Nat.gcd (Nat.gcd a.natAbs b.natAbs) c.natAbs:=mV _ (jM hgn);haveI hb1:BN (Nat.gcd a.natAbs b.natAbs) i:=⟨Oj ha.h hb.h⟩;haveI hb2:BN (Nat.gcd (Nat.gcd a.natAbs b.natAbs) c.natAbs) i:=⟨Oj hb1.h hc.h⟩;refine fn func184 J J ntmps184 J J (fun C=>?_);refine cl J (Kl (a:=a.natAbs) (b:=b.natAbs) we we) J<|br J J J (fun hc22=>?_) (fun hc22=>?_)
 .
  exact absurd hc22 (by rw[aK];intro h;exact hgn (wR.1 we))
 .
  refine cl J (Kl (a:=Nat.gcd a.natAbs b.natAbs) (b:=c.natAbs) we we) J<|cl J (yk (a:=a.natAbs) (b:=Nat.gcd (Nat.gcd a.natAbs b.natAbs) c.natAbs) hgp we we) J<|cl J (yk (a:=b.natAbs) (b:=Nat.gcd (Nat.gcd a.natAbs b.natAbs) c.natAbs) hgp we we) J<|cl J (yk (a:=c.natAbs) (b:=Nat.gcd (Nat.gcd a.natAbs b.natAbs) c.natAbs) hgp we we) J<|cl J (lw (m:=a.natAbs/(Nat.gcd (Nat.gcd a.natAbs b.natAbs) c.natAbs)) (neg:=decide (a<0))) J<|cl J (lw (m:=b.natAbs/(Nat.gcd (Nat.gcd a.natAbs b.natAbs) c.natAbs)) (neg:=decide (b<0))) J<|cl J (lw (m:=c.natAbs/(Nat.gcd (Nat.gcd a.natAbs b.natAbs) c.natAbs)) (neg:=decide (c<0))) J<|rz J J
def qr(n n':Int):Int:= -(n'-n)
def q7(m m':Int):Int:=m'-m
def w9(m n m' n':Int):Int:= -(qr n n'*m+q7 m m'*n)
def lC(m n m' n':Int):ab:=rE (qr n n') (q7 m m') (w9 m n m' n')
def Em{a b:Int}(ha:a.natAbs<=2000)(hb:b.natAbs<=1000):(a*b).natAbs<=2000000:=by
 rw[iR];exact iK ha hb
def Zt{m n m' n':Int}(hm:m.natAbs<=1000)(hn:n.natAbs<=1000)(hm':m'.natAbs<=1000)(hn':n'.natAbs<=1000)(h0: ¬(m=m'/\n=n')):PF GB prog 116 [eP (iP m n),eP (iP m' n')] (.tp [eL (lC m n m' n'), .v (.bool true)]):=by
 obtain⟨a,hA⟩: ∃a,a=qr n n':=⟨_,rfl⟩;obtain⟨b,hB⟩: ∃b,b=q7 m m':=⟨_,rfl⟩;have hA':a= -(n'-n):=hA;have hB':b=m'-m:=hB;obtain⟨c,hC⟩: ∃c,c= -(a*m+b*n):=⟨_,rfl⟩;have e1:=Em (a:=a) (b:=m) we hm;have e2:=Em (a:=b) (b:=n) we hn;haveI hm0:=jz (k:=10) hm;haveI hn0:=jz (k:=10) hn;haveI ha:BI a 30:=BV;haveI hb:BI b 30:=BV;haveI hc:BI c 30:=BV;have hthr:lC m n m' n'=rE a b c:=by rw[hC,hA,hB];rfl
 have hne: ¬(a=0/\b=0):=fun h=>h0 we;refine fn func116 J J ntmps116 J J (fun C=>?_);refine cl J (aIl (m:=m') (n:=n') (m':=m) (n':=n) hm' hn' hm hn) J<|cl J (PF.eq (sA (q:=(((n'-n):Int):Rat))) (vP (k:=a) (by rw[hA'];push_cast;rfl))) J<|cl J (PF.eq (jP (a:=(a:Rat)) (b:=(m:Rat))) (vP (k:=a*m) (by push_cast;rfl))) J<|cl J (PF.eq (by haveI:BI (m'-m) 30:=(by rw[<-hB'];exact hb);exact jP (a:=(((m'-m):Int):Rat)) (b:=(n:Rat))) (vP (k:=b*n) (by rw[hB'];push_cast;rfl))) J<|cl J (PF.eq (qf (a:=((a*m:Int):Rat)) (b:=((b*n:Int):Rat))) (vP (k:=a*m+b*n) (by push_cast;rfl))) J<|cl J (PF.eq (sA (q:=((a*m+b*n:Int):Rat))) (vP (k:=c) (by rw[hC];push_cast;rfl))) J<|cl J (lu (q:=(a:Rat))) J<|cl J (lu (q:=(((m'-m):Int):Rat))) J<|cl J (PF.eq (tv (a:=1) (b:=1)) J) J<|cl J (lu (q:=(c:Rat))) J<|cl J (PF.eq (tv (a:=1) (b:=1)) J) J<|cl (fu:=⟨1⟩) J (lw (neg:=false) (m:=1)) J<|ah 40 (.d (eQ ((1:Int):Rat))) J J<|gx J<|cl J (PF.eq (jP (a:=(a:Rat)) (b:=((1:Int):Rat))) (vP (k:=a) (by push_cast;grind))) J<|cl J (PF.eq (by haveI:BI (m'-m) 30:=(by rw[<-hB'];exact hb);exact jP (a:=(((m'-m):Int):Rat)) (b:=((1:Int):Rat))) (vP (k:=b) (by rw[hB'];push_cast;grind))) J<|cl J (PF.eq (jP (a:=(c:Rat)) (b:=((1:Int):Rat))) (vP (k:=c) (by push_cast;grind))) J<|cl J (aE8 (a:=a) (b:=b) (c:=c) ha hb hc oma hne) J<|rz J (by rw[hthr];rfl)
def W1{es:List Int}{a:Nat}(h:a<es.length):(es.map vI)[(a:Int).toNat]? =some (vI es[a]):=by simp[h]
def ay7:eP (iP 0 0)= .ag [.v (.bool false), .sl [], .sl [], .v (.bool false), .sl [], .sl []]:=by
 unfold eP iP;simp[me,dD]
def aj(es:List Int)(n:Int)(a:Nat):Nat×Nat:=
 if h:a<es.length then((if Int.tmod es[a] n<0 then Int.tmod es[a] n+n else Int.tmod es[a] n).toNat,a+1) else(0,a)
def il{es:List Int}{n:Int}{a:Nat}(hn:1<=n:=by decide):((aj es n a).1:Int)<n:=by
 unfold aj;split
 .rename_i h
  have q2:=Int.tmod_lt_of_pos es[a] (show 0<n by omega);dsimp only;split<;>omega
 .exact hn
def gO{es:List Int}{n:Int}{a:Nat}(ha:a<=es.length):(aj es n a).2<=es.length:=by
 unfold aj;split
 .assumption
 .exact ha
def pF(es:List Int)(a:Nat):(Int×Int)×Nat:=((((aj es 9 a).1:Int)-4,((aj es 9 (aj es 9 a).2).1:Int)-4),(aj es 9 (aj es 9 a).2).2)
def zk{es:List Int}{a:Nat}(ha:a<=es.length):(pF es a).1.1.natAbs<=4/\(pF es a).1.2.natAbs<=4/\(pF es a).2<=es.length:=by
 have h1:=il (es:=es) (n:=9) (a:=a);have h2:=il (es:=es) (n:=9) (a:=(aj es 9 a).2);have h3:=gO (n:=9) (gO (es:=es) (n:=9) ha);unfold pF;exact⟨by dsimp only;omega,by dsimp only;omega,h3⟩
def vF(es:List Int)(a:Nat):(Int×Int)×Nat:=if(pF es a).1.1=0/\(pF es a).1.2=0 then((1,0),(pF es a).2) else pF es a
def DW{es:List Int}{a:Nat}(ha:a<=es.length):(vF es a).1.1.natAbs<=4/\(vF es a).1.2.natAbs<=4/\ ¬((vF es a).1.1=0/\(vF es a).1.2=0)/\(vF es a).2<=es.length:=by
 obtain⟨h1,h2,h3⟩:=zk ha;unfold vF;split
 .exact⟨show(1:Int).natAbs<=4 by decide,show(0:Int).natAbs<=4 by decide,show¬((1:Int)=0/\(0:Int)=0) by decide,h3⟩
 .rename_i h;exact⟨h1,h2,h,h3⟩
theorem okE{p:Prop}(h:p:=by rw[hf]<;>rfl):p:=h
theorem okR{p:Prop}(h:p:=by rw[hf];show DV.v (.int .i64 _)=DV.v (.int .i64 _);rw[qW we]):p:=h
def kw{b:Nat}{es:List Int}(hes:es.length<=400){a:Nat}(ha:a<=es.length){n:Int}(hn:1<=n:=by decide)(hn2:n<=1000:=by decide):PM GB prog 6 (mO [none,some (.v (.int .i64 n))] b) b 70 [.sl (es.map vI), .v (.int .i64 (a:Nat))] (.v (.int .i64 ((aj es n a).1:Nat))) [.sl (es.map vI), .v (.int .i64 ((aj es n a).2:Nat))]:=by
 have hel:(es.map vI).length=es.length:=by simp
 refine AC func6 J J ntmps6 J J (fun C b m lo hmb=>?_);refine br J J J (fun hc15=>?_) (fun hc15=>?_)
 .
  have hf:aj es n a=(0,a):=by unfold aj;rw[dif_neg we]
  exact nH hmb J J okE okE
 .
  have hal:a<es.length:=by omega
  obtain⟨e,he⟩: ∃e,e=es[a]:=⟨_,rfl⟩;have q2:=Int.tmod_lt_of_pos e (show 0<n by omega);have q3: -n<Int.tmod e n:=by have:=Int.lt_tmod_of_pos e (show 0<n by omega);omega
  refine ix (fu:=⟨1⟩) _ J (W1 hal) J<|ah 25 (.d (vI e)) J (by rw[he]<;>rfl)<|gx (hv:=by simp only[ae];exact⟨⟨we,omd⟩,we⟩) J<|br J J J (fun hc36=>?_) (fun hc36=>?_)
  .
   have hf:aj es n a=((Int.tmod e n+n).toNat,a+1):=by unfold aj;rw[dif_pos hal,<-he,if_pos hc36]
   exact nH hmb J J okR okE
  .
   have hf:aj es n a=((Int.tmod e n).toNat,a+1):=by unfold aj;rw[dif_pos hal,<-he,if_neg hc36]
   exact nH hmb J J okR okE
def Gd{b:Nat}{es:List Int}(hes:es.length<=400){a:Nat}(ha:a<=es.length):PM GB prog 23 (mO [none] b) b 70 [.sl (es.map vI), .v (.int .i64 (a:Nat))] (eP (iP (pF es a).1.1 (pF es a).1.2)) [.sl (es.map vI), .v (.int .i64 ((pF es a).2:Nat))]:=by
 have h1:=il (es:=es) (n:=9) (a:=a);have h2:=il (es:=es) (n:=9) (a:=(aj es 9 a).2);refine AC func23 J J ntmps23 J J (fun C b m lo hmb=>?_);refine cm J (fun b=>(kw (n:=9) hes ha)) J<|cm J (fun b=>(kw (n:=9) hes (gO ha))) J<|cl J (iG (m:=((aj es 9 a).1:Int)-4) (n:=((aj es 9 (aj es 9 a).2).1:Int)-4)) J<|?_;exact nH hmb J J J J
def NI{b:Nat}{es:List Int}(hes:es.length<=400){a:Nat}(ha:a<=es.length):PM GB prog 24 (mO [none] b) b 70 [.sl (es.map vI), .v (.int .i64 (a:Nat))] (eP (iP (vF es a).1.1 (vF es a).1.2)) [.sl (es.map vI), .v (.int .i64 ((vF es a).2:Nat))]:=by
 obtain⟨hm,hn,ha1⟩:=zk ha;refine AC func24 J J ntmps24 J J (fun C b m lo hmb=>?_);refine cm (fu:=⟨9⟩) J (fun b=>(Gd hes ha)) J<|ah 7 (.d (eP (iP 0 0))) J (by rw[ay7]<;>rfl)<|gx J<|cl J (IA (m:=(pF es a).1.1) (n:=(pF es a).1.2) (m':=0) (n':=0) we we oma oma) J<|bd J J J (fun hc8=>?_) (fun hc8=>?_)
 .
  have hf:vF es a=((1,0),(pF es a).2):=by unfold vF;rw[if_pos hc8]
  refine cl J (iG (m:=1) (n:=0) oma oma) J<|?_;exact nH hmb J J okE (by rw[hf])
 .
  have hf:vF es a=pF es a:=by unfold vF;rw[if_neg hc8]
  exact nH hmb J J okE (by rw[hf])
def aDw{p:Bool}:PF GB prog 90 [.v (.bool p)] (eT (.leaf p)):=by
 refine fn func90 J J ntmps90 J J (fun C=>?_);refine jd 5 J<|rz J J
end Go.Sx
end
