import Derived.Test.YtochlbkonkgedaaGreatDoorQb13
import Derived.WalkKit
import Derived.LaidEql
import Derived.Stop.Asserts
import Derived.RowKitTokens
set_option linter.all false
set_option maxHeartbeats 2000000
set_option maxRecDepth 100000
section
namespace Go.Sx
open Go Go.Proofs Tryz
variable {GB:Gh}
def bh(f:aE):DV:= .ag [vI (dq (f.l.a:Rat)),vI (dm (f.l.a:Rat)),dh (f.l.a:Rat),vI (dq (f.l.b:Rat)),vI (dm (f.l.b:Rat)),dh (f.l.b:Rat),vI (dq (f.l.c:Rat)),vI (dm (f.l.c:Rat)),dh (f.l.c:Rat),vI (dq f.v.lo),vI (dm f.v.lo),dh f.v.lo,vI (dq f.v.hi),vI (dm f.v.hi),dh f.v.hi, .v (.bool f.v.nl), .v (.bool f.v.nh)]
structure ur (v:av):Prop where
 z:jx v
 lo:BQ v.lo 1200
 hi:BQ v.hi 1200
structure GH (s:aE):Prop where
 lb:LB s.l
 ok:s.l.ok
 v:ur s.v
abbrev jG (c:aG):Prop:= ∀s∈c,GH s
def wk{α:Type}(f:α->DV)(l:List α):(l.map f).length=l.length:=by simp
def ur.all:ur av.all:=⟨⟨fun _=>J,fun _=>J⟩,BQ.z1.mono (by decide),BQ.z1.mono (by decide)⟩
def ur.cut{l m:ab}{v:av}[LB l][LB m](hn:l.Ne)(h:ur v):ur (l.cutV v m):=by
 by_cases h0:crossI l m=0
 ·rw[(axE (v:=v) h0).1];exact h
 ·obtain⟨u1,_,u3,u4,u5⟩:=atZ (v:=v) hn h.z h.lo h.hi h0
  rw[u1];exact⟨u3,u4,u5⟩
def Ix(o:Option av):av:=o.getD ⟨0,0,false,false⟩
def aDK(G:Gh)(y:Value)(k:Is G (.tp [.ag [vI 0,vI 0, .v (.pointer none),vI 0,vI 0, .v (.pointer none), .v (.bool false), .v (.bool false)], .v (.bool false)]) y):Is G (.tp [eW (Ix none),vB false]) y:=by
 obtain⟨m,rfl,g⟩:=jv.1 k;exact jv.2 ⟨m,J,NU (fun y hy=>by
  obtain⟨l,rfl,g⟩:=c7.1 hy;exact c7.2 ⟨l,J,GD (Jr [vI 0,vI 0, .v (.pointer none)] g)⟩) g⟩
def ee{α:Type}{f:α->DV}{l:List α}{i:Nat}{s:α}(h:l[i]? =some s):(l.map f)[(i:Int).toNat]? =some (f s):=by simp[h]
def IG{α:Type}{l:List α}{k:Nat}{s:α}(h:l[k]? =some s):l.drop k=s::l.drop (k+1):=by
 obtain⟨h1,h2⟩:=aS.1 h;rw[cX h1,h2]
def Sk{l:ab}{c:aG}{v:av}{k:Nat}{s:aE}(h:c[k]? =some s):od l (c.drop k) v=if l.cutB v s.l then od l (c.drop (k+1)) (l.cutV v s.l) else none:=by
 rw[IG h];rfl
def Hj{l:ab}{c:aG}{k:Nat}{s:aE}(h:c[k]? =some s):oD l (c.drop k)=if o7 l s≠0 then o7 l s else if s.l=l then 1 else oD l (c.drop (k+1)):=by
 rw[IG h];rfl
instance BQ.sample (v:av) [h1:BQ v.lo 1200] [h2:BQ v.hi 1200]:BQ v.sample 2500:=by
 unfold av.sample;split
 ·exact BQ.mono (k:=1) ⟨by decide,by decide⟩ (by decide)
 ·split
  ·exact BQ.mono (inferInstance:BQ (v.hi-((1:Int):Rat)) _) (by decide)
  ·split
   ·exact BQ.mono (inferInstance:BQ (v.lo+((1:Int):Rat)) _) (by decide)
   ·exact BQ.mono (inferInstance:BQ ((v.lo+v.hi)*mkRat 1 2) _) (by decide)
def Pw{c:aG}{l:ab}[hl:LB l](hlo:l.ok)(hc:jG c)(hn:c.length<=1000000):PF GB prog 193 [.sl (c.map bh),e7 l] (.tp [eW (Ix (mh c l)),vB (mh c l).isSome]):=by
 have hm:=wk bh c;refine fn func193 J J ntmps193 J J (fun C=>?_);refine cl (fu:=⟨10⟩) J aGz J<|?_;refine ao 12 (.d (vI (c.length:Nat))) J (by rw[wk]<;>rfl) ?_;refine gx J<|?_;refine lp (X:=av×Nat) (fun⟨v,k⟩=>[(13, .d (vI (k:Nat))),(6, .ov 6 0)]) (fun⟨v,k⟩=>[(6,some (.o 134 [.d (vI (dq v.lo)), .d (vI (dm v.lo)), .d (dh v.lo), .d (vI (dq v.hi)), .d (vI (dm v.hi)), .d (dh v.hi), .d (.v (.bool v.nl)), .d (.v (.bool v.nh))] true))]) (fun⟨v,k⟩=>k<=c.length/\ur v/\od l (c.drop k) v=mh c l) (fun⟨v,k⟩=>c.length-k) (av.all,0) J ⟨bT _, .all,J⟩ (fun _=>J) (fun⟨v,k⟩ hk=>?_);dsimp only at hk⊢;obtain⟨h1,h2,h3⟩:=hk;haveI:=h2.lo;haveI:=h2.hi;refine br J J J (fun hc14=>?_) (fun hc14=>?_)
 .
  obtain⟨s,hs0⟩: ∃s,c[k]? =some s:=⟨_,aX (by omega)⟩;have hs:=hc s (aM hs0);haveI:=hs.lb;refine ix _ J (ee hs0) J<|cl (fu:=⟨0⟩) J (B6 (l:=l) (m:=s.l) (v:=v)) J<|?_;generalize hw:l.cutV v s.l=w;generalize hb:l.cutB v s.l=b;refine gx J<|?_;refine bb J J J (fun hc26=>?_) (fun hc26=>?_)
  .
   exact jf J (by rw[<-h3,Sk hs0,hb,if_neg (by simpa using hc26)];exact aDK)
  .
   exact at_ (w,k+1) (by dsimp only;exact⟨⟨by omega,hw▸h2.cut hlo.1,by rw[<-h3,Sk hs0,hb,hw,if_pos (by simpa using hc26)]⟩,(by omega)⟩)
 .
  exact rz J (by rw[<-h3,iQ (by omega)];rfl)
def Wu{c:aG}{l:ab}[hl:LB l](hlo:l.ok)(hc:jG c)(hn:c.length<=1000000):PF GB prog 194 [.sl (c.map bh),e7 l] (vI (x9 c l)):=by
 have hm:=wk bh c;refine fn func194 J J ntmps194 J J (fun C=>?_);refine cl J (Pw (c:=c) (l:=l) hlo hc hn) J<|?_;refine bb (fu2:=⟨7⟩) J J J (fun hc16=>?_) (fun hc16=>?_)
 .
  exact rz J (by unfold x9;rw[if_pos hc16];rfl)
 .
  have hp:x9 c l=oD l c:=by unfold x9;rw[if_neg (by simp[hc16])]
  refine ao 18 (.d (vI (c.length:Nat))) J (by rw[wk]<;>rfl) ?_;refine gx J<|?_;refine lp (X:=Nat) (fun k=>[(19, .d (vI (k:Nat)))]) (fun k=>[]) (fun k=>k<=c.length/\oD l (c.drop k)=oD l c) (fun k=>c.length-k) 0 J ⟨bT _,J⟩ (fun _=>J) (fun k hk=>?_);obtain⟨h1,h2⟩:=hk;refine br J J J (fun hc20=>?_) (fun hc20=>?_)
  .
   obtain⟨s,hs0⟩: ∃s,c[k]? =some s:=⟨_,aX (by omega)⟩;have hs:=hc s (aM hs0);haveI:=hs.lb;haveI:=hs.v.lo;haveI:=hs.v.hi;haveI:=BQ.sample s.v;refine ix _ J (ee hs0) J<|cl (fu:=⟨0⟩) J (Oq (v:=s.v)) J<|?_;generalize ht:s.v.sample=t at*;refine gx J<|cl J (Ey (l:=s.l) (t:=t)) J<|cl J (vM (l:=l) (p:=s.l.at t)) J<|?_;refine br J J J (fun hc32=>?_) (fun hc32=>?_)
   .
    have hsd:o7 l s=(l.value (s.l.at t)).num.sign:=by unfold o7;rw[ht]
    exact rz J (by rw[hp,<-h2,Hj hs0,hsd,if_pos hc32];rfl)
   .
    refine cl J (Wo (l:=s.l) (m:=l)) J<|?_;refine bd J J J (fun hc37=>?_) (fun hc37=>?_)
    .
     have hsd:o7 l s=(l.value (s.l.at t)).num.sign:=by unfold o7;rw[ht]
     exact rz J (by rw[hp,<-h2,Hj hs0,hsd,if_neg hc32,if_pos hc37];rfl)
    .
     have hsd:o7 l s=(l.value (s.l.at t)).num.sign:=by unfold o7;rw[ht]
     exact at_ (k+1) ⟨⟨by omega,by rw[<-h2,Hj hs0,hsd,if_neg hc32,if_neg hc37]⟩,(by omega)⟩
  .
   exact rz J (by rw[hp,<-h2,iQ (by omega)];rfl)
def YZ{vs rest:List Value}(h: ∀v∈vs,(aF v).length=17){i:Nat}(hi:i<=vs.length):cH (aC vs++rest) (i*17) ((vs.length-i)*17)=some (aC (vs.drop i)):=by
 have hl:=ew vs h;have hd:(aC (vs.drop i)).length=(vs.length-i)*17:=by
  rw[ew (s:=17) _ (fun v hv=>h v (jT hv)),iW]
 rw[ma _ _ _ (by simp only[aR];omega)];congr 1;rw[jR (by omega),Fo vs i h hi,fV (by omega),bX (by omega)]
def U7{vs rest vcs:List Value}(h: ∀v∈vs,(aF v).length=17)(hv:vcs.length=17){i:Nat}(hi:i<vs.length)(hr:17<=rest.length):
  cE (cE (aC vs++rest) ((i+1)*17) (aC (vs.drop i))) (i*17) vcs=aC (vs.take i)++vcs++aC (vs.drop i)++rest.drop 17:=by
 have hl:=ew vs h;have hd:(aC (vs.drop i)).length=(vs.length-i)*17:=by
  rw[ew (s:=17) _ (fun v hv=>h v (jT hv)),iW]
 have ht:(aC (vs.take i)).length=i*17:=by
  rw[ew (s:=17) _ (fun v hv=>h v (fL hv)),cK,gT (by omega)]
 rw[pD (aC (vs.drop i)) (aC vs++rest) _ (by rw[aR];omega)];rw[pD vcs _ _ (by simp only[aR,cK,iW];omega)];have e1:(aC vs++rest).drop ((i+1)*17+(aC (vs.drop i)).length)=rest.drop 17:=by
  rw[hd,show(i+1)*17+(vs.length-i)*17=(aC vs).length+17 by omega,nZ,pQ (by omega),cY];congr 1;omega
 have e2:((aC vs++rest).take ((i+1)*17)++aC (vs.drop i)++rest.drop 17).take (i*17)=aC (vs.take i):=by
  rw[dX,fV (by simp only[cK,aR];omega),List.take_take,gT (by omega),fV (by omega),E9 vs i h (by omega)]
 have e3:((aC vs++rest).take ((i+1)*17)++aC (vs.drop i)++rest.drop 17).drop (i*17+vcs.length)=aC (vs.drop i)++rest.drop 17:=by
  rw[hv,dX,show i*17+17=((aC vs++rest).take ((i+1)*17)).length by simp only[cK,aR];omega,List.drop_left]
 rw[e1,e2,e3];simp[dX]
def asp{vs rest vcs:List Value}(h: ∀v∈vs,(aF v).length=17)(hv:vcs.length=17)(hr:17<=rest.length):cE (aC vs++rest) (vs.length*17) vcs=aC vs++vcs++rest.drop 17:=by
 have hl:=ew vs h;rw[pD _ _ _ (by simp only[aR];omega),hv,<-hl,List.take_left,nZ];simp
def amK{G:Gh}{b bv cap i c2:Nat}{vs rest vcs r2:List Value}{lo lo2:Bool}(hvs: ∀v∈vs,(aF v).length=17)(hfl: ∀v∈vs,∀c∈aF v,flat c=true)(hv:vcs.length=17)(hvf: ∀c∈vcs,flat c=true)
  (hcap:vs.length*17+rest.length=cap*17)(hroom:vs.length+1<=cap)(hi:i<=vs.length)(hb:vs.length<=1125899906842624):
  j0 prog 197 [.slice (some ⟨b,0,none⟩) vs.length cap, .int .i64 i, .slice (some ⟨bv,0,none⟩) 1 c2] [⟨b,aC vs++rest,136,lo⟩,⟨bv,vcs++r2,136,lo2⟩] G
   (fun u css _=>u= .slice (some ⟨b,0,none⟩) (vs.length+1) cap/\css=[aC (vs.take i)++vcs++aC (vs.drop i)++rest.drop 17,vcs++r2]):=by
 have hL:(aC vs++rest).length=cap*17:=by rw[aR,ew vs hvs];exact hcap
 have hr:17<=rest.length:=by omega
 have hD:(aC (vs.drop i)).length=(vs.length-i)*17:=by
  rw[ew (s:=17) _ (fun v hv=>hvs v (jT hv)),iW]
 have hDf: ∀c∈aC (vs.drop i),flat c=true:=fun c hc=>by
  obtain⟨l,hl,hcl⟩:=List.mem_flatten.1 hc;obtain⟨v,hv,rfl⟩:=bJ.1 hl;exact hfl v (jT hv) c hcl
 have hvt:cH (vcs++r2) 0 (1*17)=some vcs:=by rw[ma _ _ _ (by rw[aR];omega),jW,fV (by omega),bX (by omega)]
 refine j0.intro func197 J J ntmps197 J ?_;intro C _ _;show St C _ _ [⟨b,aC vs++rest,136,false⟩,⟨bv,vcs++r2,136,false⟩] _ _;refine axJ (fun hne=>?_);simp only[] at hne;refine sR<|sa J J<|zE<|sR<|sm J J<|sm J J<|sy (D0 J J (by omega) (by omega)) J<|zE<|sR<|?_;refine sm J J<|c8 J J<|sa J J<|zE<|bz<|sR<|sm J J<|sy (i7 J J) J<|zE<|wl J<|?_;refine zK<|sR<|sm J J<|c8 J J<|sa J J<|zE<|bz<|sR<|sm J J<|sm J J<|sy (i7 J J) J<|zE<|?_;refine f8 J (fun hc=>?_) (fun hc=>?_) -- slot 22
 ·have hin:i=vs.length:=by omega
  subst hin;refine sR<|sm J J<|sm J J<|?_;refine sc (Nm (s:=17) (m:=1) (ys:=vcs) J J (.hd ..) hL (y7 inferInstance hvt) (by omega) hvf hroom J ?_);refine sa J J<|zE<|di<|?_;refine rH (css:=[cE (aC vs++rest) (vs.length*17) vcs,vcs++r2]) (.tmp J .nil) J _ (List.Perm.refl _) (List.Sublist.refl _) ⟨J,?_⟩;rw[asp hvs hv hr,dS,iM];simp[aC]
 have hin:i<vs.length:=by omega
 have hn1:((vs.length:Int)+((1:Nat):Int)).toNat=vs.length+1:=by omega
 have ht1:((i:Int)+((1:Nat):Int)).toNat=i+1:=by omega
 refine zK<|bz<|sR<|sm J J<|sm J J<|sy (d6 J J) J<|sm J J<|?_;refine sy (Wb J) J<|sy (tA J J) J<|zE<|?_;refine f8 J (fun hc2=>?_) (fun hc2=>?_) -- slot 31
 ·exact absurd hc2 (by omega)
 refine zK<|sR<|sm J J<|sm J J<|sm J J<|sy (d6 J J) J<|sy (Bo J J (by omega) (by omega)) J<|?_;rw[hn1];refine sa J J<|zE<|bz<|sR<|sm J J<|sm J J<|sm J J<|sm J J<|sy (d6 J J) J<|sy (DK J J (by omega) (by omega) (by omega)) J<|?_;refine sy (UV (tS:=78) (tR:=4) func235 (by kernel_rfl) (by kernel_rfl) (by kernel_rfl) (by kernel_rfl) J J (Ne.symm hne) (fun h=>by rw[h] at hL;simp at hL;omega)) J<|?_;refine sy (GS J) J<|zE<|pm J<|?_;refine bz<|XF (b:=b) (fun _=>false) [(0,true),(1,true),(2,true),(3,true),(4,true),(5,true),(6,true),(7,true),(8,false)] follows (.hd ..) (by kernel_rfl)<|dM J J J<|?_;refine dM J J J<|dM J J J<|dy J (fun _=>d6 J J (by omega) (by omega)) J J<|dy J (fun _=>DK J J (by omega) (by omega) (by omega)) J J<|?_;refine dM J J J<|dM J J J<|dy J (fun _=>DK J J (by omega) (by omega) (by omega)) J J<|?_;rw[ht1,bZ,fQ,fQ];refine dc J J (OX (s:=17) (m:=vs.length-i) (ys:=aC (vs.drop i)) J J (by show min _ _=_;omega) (y7 inferInstance (YZ hvs hi)) hDf (by rw[hD,hL];omega) (.hd ..) J ?_);refine nF<|dn<|sR<|sm J J<|sm J J<|sy (DK J J (by omega) (by omega) (by omega)) J<|sm J J<|?_;rw[bZ,fQ];refine sc (OX (s:=17) (m:=1) (ys:=vcs) J J (by show min _ _=_;omega) (y7 inferInstance hvt) hvf (by rw[Dq,hL,hv];omega) (.hd ..) J ?_);refine zE<|sR<|sm J J<|sa J J<|zE<|di<|?_;refine rH (css:=[cE (cE (aC vs++rest) ((i+1)*17) (aC (vs.drop i))) (i*17) vcs,vcs++r2]) (.tmp J .nil) J _ (List.Perm.refl _) (List.Sublist.refl _) ⟨J,?_⟩;rw[U7 hvs hv hin hr]
def j0.toO{P:Program}{f:FuncId}{vs:List Value}{M:List ak}{G:Gh}{K:Value->List (List Value)->Gh->Prop}{K':Value->List ak->Gh->Prop}(h:j0 P f vs M G K)(hk: ∀v css G',bD G G'->css.length=M.length->K v css G'-> ∃o,o.Sublist (kE (asB M) css)/\K' v o G'):je P f vs M G K':=
 ⟨h.able,fun w hw=>(h.run w hw).mono fun _ _ ⟨v,css,G',he,hl,hh,hK⟩=>let⟨o,h1,h2⟩:=hk v css G' hh.gle hl hK;⟨v,o,G',he,hh.drop h1,h2⟩⟩
def OU(c:aG):dH 17 (c.map bh):=fun d hd=>by
 obtain⟨f,_,rfl⟩:=bJ.1 hd;exact⟨rfl,rfl⟩
def RD{G:Gh}{s:Nat}{ds:List DV}{vs:List Value}(hk:dH s ds)(h:IsLs G ds vs): ∀v∈vs,∀c∈aF v,flat c=true:=fun v hv=>by
 obtain⟨d,hd,h3⟩:=h.all v hv;exact(h3.cells (hk d hd).1).2
def XK{c:aG}{x:aE}{i cap:Nat}(hi:i<=c.length)(hc:c.length+1<=cap)(hn:c.length<=1000000):PI GB prog 197 (i:Nat) 17 136 136 (c.map bh) (bh x) cap ((c.take i++x::c.drop i).map bh):=by
 intro G w w2 B B2 _ hB hcap hB2;obtain⟨vs,q1,q2,q3,_⟩:=hB;obtain⟨us,u1,u2,u3,_⟩:=hB2;dsimp only at q1 q2 q3 u1 u2 u3;have hl:=q2.len;rw[aJ] at hl;obtain⟨v,m,rfl,hv,hm⟩:=aP.1 u2
 cases co.1 hm
 rcases q1 with⟨_,e,_⟩|⟨b,rest,lo,e,rfl,h5,h6,h7⟩
 ·rw[e] at hcap;simp at hcap;omega
 rcases u1 with⟨h,_⟩|⟨bv,r2,lo2,e2,rfl,h8,h9,h10⟩
 ·cases h
 have hx:(aF v).length=17:=u3 v aQ;have hxf:=RD (s:=17) (ds:=[bh x]) (fun d hd=>by rw[aV.1 hd];exact⟨J,J⟩) u2 v aQ;have key:=amK (G:=G) (b:=b) (bv:=bv) (cap:=w.c) (i:=i) (c2:=w2.c) (vs:=vs) (rest:=rest) (vcs:=aF v) (r2:=r2) (lo:=lo) (lo2:=lo2) q3 (RD (OU c) q2) hx hxf (by rw[<-h5];exact h6) (by omega) (by omega) (by omega);rw[e,e2];rw[wm];refine key.toO fun u css G' hg hl2 ⟨k1,k2⟩=>?_;subst k1 k2;have hall: ∀u∈vs.take i++v::vs.drop i,(aF u).length=17:=fun u hu=>by
  rcases bW.1 hu with hu|hu
  ·exact q3 u (fL hu)
  ·rcases aW.1 hu with rfl|hu
   ·exact hx
   ·exact q3 u (jT hu)
 have hlen:(vs.take i++v::vs.drop i).length=vs.length+1:=by
  rw[aR,bV,cK,iW];omega
 refine⟨[⟨b,aC (vs.take i)++aF v++aC (vs.drop i)++rest.drop 17,136,false⟩], .cons_cons _ (kJ _),⟨some ⟨b,0,none⟩,vs.length+1,w.c⟩,J,vs.take i++v::vs.drop i, .inr ⟨b,rest.drop 17,false,by rw[hlen],?_,ew _ hall,?_,?_⟩,?_,hall,fun h=>by cases h⟩
 ·rw[nq];simp[aC]
 ·rw[ew _ hall,hlen,iW]
  rw[h5] at h6;have:=bR 17 (show vs.length+1<=w.c by omega);simp only[dQ] at this⊢;omega
 ·rw[hlen];show vs.length+1<=w.c;omega
 ·rw[dV,bL,mW,qM]
  exact((q2.take i).up hg).app (.cons (hv.up hg) ((q2.drop i).up hg))
def QV{s:aE}{l:ab}[hs:LB s.l][hl:LB l]:PF GB prog 196 [bh s,e7 l] (vI (cO s.l.dir l.dir)):=by
 refine fn func196 J J ntmps196 J J (fun C=>?_);refine cl J (vQ (l:=s.l)) J<|cl J (vQ (l:=l)) J<|cl J (Li (u:=s.l.dir) (v:=l.dir)) J<|?_;exact rz J J
def Do(c:aG)(l:ab)(i:Nat):Bool:=match c[i]? with
 |some s=>decide (cO s.l.dir l.dir=0)
 |none=>false
def Zv(i j:Nat):((i:Int)+(j:Int)).fdiv (2^min (1:Int).toNat IntKind.u64.bits)=((i+j)/2:Nat):=by
 rw[show(2:Int)^min (1:Int).toNat IntKind.u64.bits=((2:Nat):Int) from J,iJ _ (by decide)];omega
def W8{c:aG}{l:ab}{k:Nat}{s:aE}(h:c[k]? =some s):ol c l k=decide (cO s.l.dir l.dir<0):=by unfold ol;rw[h]
def aGj{c:aG}{l:ab}{k:Nat}{s:aE}(h:c[k]? =some s):Do c l k=decide (cO s.l.dir l.dir=0):=by unfold Do;rw[h]
def VN{c:aG}{l:ab}{k:Nat}(h: ¬k<c.length):Do c l k=false:=by unfold Do;rw[eK (by omega)]
def Xv{p:Nat->Bool}{i j:Nat}(h:i<j)(hp:p ((i+j)/2)=true):jb p i j=jb p ((i+j)/2+1) j:=by rw[jb,dif_pos h,if_pos hp]
def XR{p:Nat->Bool}{i j:Nat}(h:i<j)(hp: ¬p ((i+j)/2)=true):jb p i j=jb p i ((i+j)/2):=by rw[jb,dif_pos h,if_neg hp]
def Pr{p:Nat->Bool}{i j:Nat}(h: ¬i<j):jb p i j=i:=by rw[jb,dif_neg h]
def Zb{c:aG}{l:ab}[hl:LB l](hc:jG c)(hn:c.length<=1000000):PF GB prog 195 [.sl (c.map bh),e7 l, .v (.func (.func 196) #[] #[])] (.tp [vI (jb (ol c l) 0 c.length:Nat),vB (Do c l (jb (ol c l) 0 c.length))]):=by
 have hm:=wk bh c;refine fn (fu:=⟨11⟩) func195 J J ntmps195 J J (fun C=>?_);refine ao 13 (.d (vI (c.length:Nat))) J (by rw[hm]<;>rfl) ?_;refine gx J<|?_;refine lp (X:=Nat×Nat) (fun⟨i,j⟩=>[(9, .d (vI (i:Nat))),(10, .d (vI (j:Nat)))]) (fun⟨i,j⟩=>[]) (fun⟨i,j⟩=>i<=j/\j<=c.length/\jb (ol c l) i j=jb (ol c l) 0 c.length) (fun⟨i,j⟩=>j-i) (0,c.length) J ⟨bT _,bQ _,J⟩ (fun _=>J) (fun⟨i,j⟩ hk=>?_);dsimp only at hk⊢;obtain⟨h1,h2,h3⟩:=hk;refine br (fu1:=⟨10⟩) (fu2:=⟨11⟩) J J J (fun hc17=>?_) (fun hc17=>?_)
 .
  obtain⟨s,hs0⟩: ∃s,c[(i+j)/2]? =some s:=⟨_,aX (by omega)⟩;haveI:=(hc s (aM hs0)).lb;have hang:=W8 (l:=l) hs0;refine ao 22 (.d (.v (.int .u64 ((i+j)/2:Nat)))) J (by rw[Zv]) ?_;refine gx J<|ix _ J (ee hs0) J<|cl J (QV (s:=s) (l:=l)) J<|?_;refine br J J J (fun hc31=>?_) (fun hc31=>?_)
  .
   exact at_ ((i+j)/2+1,j) (by dsimp only;exact⟨⟨by omega,h2,by rw[<-h3,Xv (i:=i) (j:=j) (by omega) (by rw[hang];exact decide_eq_true hc31)]⟩,(by omega)⟩)
  .
   exact at_ (i,(i+j)/2) (by dsimp only;exact⟨⟨by omega,by omega,by rw[<-h3,XR (i:=i) (j:=j) (by omega) (by rw[hang,decide_eq_false hc31];exact Bool.false_ne_true)]⟩,(by omega)⟩)
 .
  refine qt (v2:=fun hg39=>by simp only[ah];kernel_rfl) J J J J (fun hg39=>?_) (fun hg39=>?_)
  .
   have he:=Pr (p:=ol c l) (i:=i) (j:=j) (by omega);obtain⟨s,hs0⟩: ∃s,c[i]? =some s:=⟨_,aX (by omega)⟩;haveI:=(hc s (aM hs0)).lb;refine ix _ J (ee hs0) J<|cl J (QV (s:=s) (l:=l)) J<|?_;exact rz J (by rw[<-h3,he,aGj hs0];rfl)
  .
   have he:=Pr (p:=ol c l) (i:=i) (j:=j) (by omega);exact rz J (by rw[<-h3,he,VN (by omega)];rfl)
def LE{l:ab}[LB l](hlo:l.ok): ∀{c:aG} {v w:av},jG c->ur v->od l c v=some w->ur w
 |[],v,w,_,hv,h=>by cases h;exact hv
 |s::t,v,w,hc,hv,h=>by
  haveI:=(hc s aQ).lb;simp only[od] at h;split at h
  ·exact LE hlo (fun x hx=>hc x (aZ _ hx)) (hv.cut hlo.1) h
  ·cases h
def Ew{l:ab}[LB l]: ∀{c:aG},jG c->jG (f7 l c)
 |[],_,s,h=>by cases h
 |a::t,hc,s,h=>by
  have ha:=hc a aQ;haveI:=ha.lb;have ht:=Ew (l:=l) (fun x hx=>hc x (aZ _ hx));unfold f7 at h;split at h
  ·rcases aW.1 h with rfl|h
   ·exact⟨ha.lb,ha.ok,ha.v.cut ha.ok.1⟩
   ·exact ht s h
  ·exact ht s h
def E5{l:ab}[hl:LB l](hlo:l.ok){c:aG}(hc:jG c):jG (bP c l):=by
 unfold bP;split
 ·rename_i v hv
  intro s hs;unfold pg at hs;rcases bW.1 hs with h|h
  ·exact Ew hc s (fL h)
  ·rcases aW.1 h with rfl|h
   ·exact⟨hl,hlo,LE hlo hc .all hv⟩
   ·exact Ew hc s (jT h)
 ·exact hc
def MB{l:ab}{c:aG}{k:Nat}{s:aE}(h:c[k]? =some s):f7 l (c.drop k)=if s.l.cutB s.v l then⟨s.l,s.l.cutV s.v l⟩::f7 l (c.drop (k+1)) else f7 l (c.drop (k+1)):=by
 rw[IG h];rfl
def Nq{c:aG}{l:ab}[hl:LB l](hlo:l.ok)(hc:jG c)(hn:c.length<=100000):PF GB prog 154 [.sl (c.map bh),e7 l] (.tp [.sl ((bP c l).map bh),vB (de c l)]):=by
 have hm:=wk bh c;refine fn func154 J J ntmps154 J J (fun C=>?_);refine cl J (Pw (c:=c) (l:=l) hlo hc (by omega)) J<|?_;refine bb (fu2:=⟨6⟩) J J J (fun hc22=>?_) (fun hc22=>?_)
 .
  have hp:mh c l=none:=by simpa using hc22
  refine cl J (Wu (c:=c) (l:=l) hlo hc (by omega)) J<|?_;exact rz J (by unfold bP de;rw[hp];rfl)
 .
  obtain⟨v,hv⟩: ∃v,mh c l=some v:=Option.isSome_iff_exists.1 (by simpa using hc22);have hvd:Ix (mh c l)=v:=by rw[hv];rfl
  rw[hvd];refine ao 29 (.d (vI (c.length:Nat))) J (by rw[hm]<;>rfl) ?_;refine gx J<|mkc (fu:=⟨8⟩) (c.length+1) J J J<|?_;refine ao 33 (.d (vI (c.length:Nat))) J (by rw[hm]<;>rfl) ?_;refine gx J<|?_;refine lp (X:=aG×Nat) (fun⟨o,k⟩=>[(34, .d (vI (k:Nat))),(8, .rw 31)]) (fun⟨o,k⟩=>[(31,some (.c 136 17 (o.map bh) (c.length+1)))]) (fun⟨o,k⟩=>k<=c.length/\o.length<=k/\o++f7 l (c.drop k)=f7 l c) (fun⟨o,k⟩=>c.length-k) ([],0) J ⟨bT _,bQ _,J⟩ (fun _=>J) (fun⟨o,k⟩ hk=>?_);dsimp only at hk⊢;obtain⟨h1,h2,h3⟩:=hk;have hmo:=wk bh o;refine br J J J (fun hc35=>?_) (fun hc35=>?_)
  .
   obtain⟨s,hs0⟩: ∃s,c[k]? =some s:=⟨_,aX (by omega)⟩;have hs:=hc s (aM hs0);haveI:=hs.lb;haveI:=hs.v.lo;haveI:=hs.v.hi;refine ix _ J (ee hs0) J<|cl (fu:=⟨0⟩) J (B6 (l:=s.l) (m:=l) (v:=s.v)) J<|?_;generalize hw:s.l.cutV s.v l=w;generalize hb:s.l.cutB s.v l=b;refine gx J<|?_;refine bb J J J (fun hc47=>?_) (fun hc47=>?_)
   .
    refine rf J J<|Uq ((o++[aE.mk s.l w]).map bh) J (by rw[dV];rfl) (OU [aE.mk s.l w]) (by rw[hmo];simp;omega) J<|?_;refine iv 54 31 J ?_;exact at_ (o++[aE.mk s.l w],k+1) (by dsimp only;exact⟨⟨by omega,by simp;omega,by rw[<-h3,MB hs0,hb,if_pos hc47,hw,dX];rfl⟩,(by omega)⟩)
   .
    exact at_ (o,k+1) (by dsimp only;exact⟨⟨by omega,by omega,by rw[<-h3,MB hs0,hb,if_neg (by simp[hc47])]⟩,(by omega)⟩)
  .
   obtain rfl:k=c.length:=by omega
   have ho:o=f7 l c:=by rw[<-h3,iM];simp[f7]
   subst ho;have hbl:=(E1 (ol (f7 l c) l) (f7 l c).length 0 (f7 l c).length (by omega) (by omega)).2;refine cL J (Zb (c:=f7 l c) (l:=l) (Ew hc) (by omega)) J J<|ro J J<|ci ((pg (f7 l c) l v).map bh) J (XK (c:=f7 l c) (x:=⟨l,v⟩) (i:=jb (ol (f7 l c) l) 0 (f7 l c).length) (cap:=c.length+1) hbl (by omega) (by omega)) J J<|?_;refine mD 68 J ?_;exact rz J (by unfold bP de;rw[hv];rfl)
def MZ{c:aG}{l:ab}[hl:LB l](hlo:l.ok)(hc:jG c)(hn:c.length<=100000):PF GB prog 100 [.sl (c.map bh),e7 l] (.tp [.sl ((bP c l).map bh), .sl ((bP c l.rev).map bh),vB (de c l),vB (de c l.rev)]):=by
 refine fn func100 J J ntmps100 J J (fun C=>?_);refine cl J (Nq (c:=c) (l:=l) hlo hc hn) J<|cl J (Hb (l:=l)) J<|cl J (Nq (c:=c) (l:=l.rev) hlo.rev hc hn) J<|?_;exact rz J J
def cU:Tr->List DV
 | .leaf b=>[vI 0,vI 0, .v (.pointer none),vI 0,vI 0, .v (.pointer none),vI 0,vI 0, .v (.pointer none), .v (.pointer none), .v (.pointer none), .v (.bool b)]
 | .node l x y=>[vI (dq (l.a:Rat)),vI (dm (l.a:Rat)),dh (l.a:Rat),vI (dq (l.b:Rat)),vI (dm (l.b:Rat)),dh (l.b:Rat),vI (dq (l.c:Rat)),vI (dm (l.c:Rat)),dh (l.c:Rat), .pt (cU x), .pt (cU y), .v (.bool false)]
def eU(t:Tr):DV:= .pt (cU t)
def x7{b:Bool}:PF GB prog 97 [.v (.bool b)] (eU (.leaf b)):=by
 refine fn func97 J J ntmps97 J J (fun C=>?_);refine mD 5 J ?_;exact rz J J
def C4{l:ab}{x y:Tr}:PF GB prog 101 [e7 l,eU x,eU y] (eU (.node l x y)):=by
 refine fn func101 J J ntmps101 J J (fun C=>?_);refine mD 11 J ?_;exact rz J J
def xo{b:Bool}:PF GB prog 61 [eU (.leaf b)] (.v (.bool true)):=by
 refine fn func61 J J ntmps61 J J (fun C=>?_);exact rz J J
def vY{l:ab}{x y:Tr}:PF GB prog 61 [eU (.node l x y)] (.v (.bool false)):=by
 refine fn func61 J J ntmps61 J J (fun C=>?_);exact rz J J
def axe{l l1:ab}{x y u:Tr}:PF GB prog 155 [e7 l,eU (.node l1 x y),eU u] (eU (.node l (.node l1 x y) u)):=by
 refine fn func155 J J ntmps155 J J (fun C=>?_);refine cl (fu:=⟨0⟩) J vY J<|ek J J J<|cl J C4 J<|?_;exact rz J J
def ZM{l l1:ab}{x y:Tr}{p:Bool}:PF GB prog 155 [e7 l,eU (.leaf p),eU (.node l1 x y)] (eU (.node l (.leaf p) (.node l1 x y))):=by
 refine fn func155 J J ntmps155 J J (fun C=>?_);refine cl (fu:=⟨0⟩) J xo J<|gj J J J<|cl (fu:=⟨1⟩) J vY J<|ek J J J<|cl J C4 J<|?_;exact rz J J
def WP{l:ab}{p q:Bool}:PF GB prog 155 [e7 l,eU (.leaf p),eU (.leaf q)] (eU (Tr.joinQ l (.leaf p) (.leaf q))):=by
 refine fn func155 J J ntmps155 J J (fun C=>?_);refine cl (fu:=⟨0⟩) J xo J<|gj J J J<|cl (fu:=⟨1⟩) J xo J<|gj J J J<|?_;refine bb J J J (fun hc23=>?_) (fun hc23=>?_)
 .
  exact rz J (by rw[show Tr.joinQ l (.leaf p) (.leaf q)= .leaf p by simp[Tr.joinQ,Tr.isLeaf,Tr.code,hc23]];rfl)
 .
  refine cl J C4 J<|?_;exact rz J (by rw[show Tr.joinQ l (.leaf p) (.leaf q)= .node l (.leaf p) (.leaf q) by simp[Tr.joinQ,Tr.isLeaf,Tr.code,hc23]];rfl)
def aDH{l:ab}: ∀{x y:Tr},PF GB prog 155 [e7 l,eU x,eU y] (eU (Tr.joinQ l x y))
 | .leaf _, .leaf _=>WP
 | .leaf _, .node .. =>ZM
 | .node ..,_=>axe
def ajx{b:Bool}{c:aG}:PF GB prog 102 [eU (.leaf b), .sl (c.map bh)] (eU (Tr.restrict (.leaf b) c)):=by
 refine fn func102 J J ntmps102 J J (fun C=>?_);refine cl (fu:=⟨0⟩) J xo J<|?_;refine lx 10 J ?_;refine gx J<|?_;exact rz J J
def akp{l:ab}{x y:Tr}{c:aG}(hl:LB l)(hlo:l.ok)(hc:jG c)(hn:c.length+(Tr.node l x y).depth<=100000)(ihx: ∀{c:aG},jG c->c.length+x.depth<=100000->PF GB prog 102 [eU x, .sl (c.map bh)] (eU (Tr.restrict x c)))(ihy: ∀{c:aG},jG c->c.length+y.depth<=100000->PF GB prog 102 [eU y, .sl (c.map bh)] (eU (Tr.restrict y c))):PF GB prog 102 [eU (.node l x y), .sl (c.map bh)] (eU (Tr.restrict (.node l x y) c)):=by
 have hdp:(Tr.node l x y).depth=1+max x.depth y.depth:=J;have hdx:=Nat.le_max_left x.depth y.depth;have hdy:=Nat.le_max_right x.depth y.depth;have hca:=DA c l;have hcb:=DA c l.rev;refine fn func102 J J ntmps102 J J (fun C=>?_);refine cl (fu:=⟨0⟩) J vY J<|?_;refine s9 10 J ?_;refine gx J<|cl J (MZ (c:=c) (l:=l) hlo hc (by omega)) J<|?_;refine bb J J J (fun hc23=>?_) (fun hc23=>?_)
 .
  refine cl J (ihx hc (by omega)) J<|?_;exact rz J (by rw[Tr.restrict,if_pos hc23];rfl)
 .
  refine bb J J J (fun hc32=>?_) (fun hc32=>?_)
  .
   refine cl J (ihy hc (by omega)) J<|?_;exact rz J (by rw[Tr.restrict,if_neg (by simp[hc23]),if_pos hc32];rfl)
  .
   refine cl J (ihx (c:=bP c l) (E5 hlo hc) (by omega)) J<|cl J (ihy (c:=bP c l.rev) (E5 hlo.rev hc) (by omega)) J<|cl J aDH J<|?_;exact rz J (by rw[Tr.restrict,if_neg (by simp[hc23]),if_neg (by simp[hc32])];rfl)
def J4: ∀{t:Tr} {c:aG},t.all LB->t.all ab.ok->jG c->c.length+t.depth<=100000->PF GB prog 102 [eU t, .sl (c.map bh)] (eU (Tr.restrict t c))
 | .leaf _,_,_,_,_,_=>ajx
 | .node l x y,c,hb,ho,hc,hn=>akp hb.1 ho.1 hc hn (fun h1 h2=>J4 hb.2.1 ho.2.1 h1 h2) (fun h1 h2=>J4 hb.2.2 ho.2.2 h1 h2)
def awC{t:Tr}(hb:t.all LB)(ho:t.all ab.ok)(hd:t.depth<=100000):PF GB prog 58 [eU t] (eU (t.restrict [])):=by
 refine fn func58 J J ntmps58 J J (fun C=>?_);refine cl J (J4 (t:=t) (c:=[]) hb ho (fun s h=>by cases h) (by simpa using hd)) J<|?_;exact rz J J
def Tr.compl:Tr->Tr
 | .leaf b=> .leaf !b
 | .node l x y=> .node l x.compl y.compl
def Tr.chooseQ(op:Int)(b:Bool)(t:Tr)(c:aG):Tr:=
 if op=1\/op=2 then(if b=decide (op=1) then .leaf b else t.restrict c)
 else if op=3/\b=false then .leaf false
 else if b then(t.restrict c).compl else t.restrict c
def Tr.mergeQ(op:Int):Tr->Tr->aG->Tr
 | .leaf b,u,c=>u.chooseQ op b c
 | .node l x y,u,c=>if !de c l.rev then x.mergeQ op u c else if !de c l then y.mergeQ op u c else joinQ l (x.mergeQ op u (bP c l)) (y.mergeQ op u (bP c l.rev))
def UL:DV:= .ag [vI 0,vI 0, .v (.pointer none),vI 0,vI 0, .v (.pointer none),vI 0,vI 0, .v (.pointer none)]
def uW:Option ab->DV
 |some l=> .tp [e7 l,vB true]
 |none=> .tp [UL,vB false]
def T'{l:ab}(h: ¬l.ok)(hz: ¬(l.a=0/\l.b=0)):decide (rgcd (rgcd (l.a:Rat) (l.b:Rat)) (l.c:Rat)=((1:Int):Rat))=false:=by
 rw[yu,yu];refine decide_eq_false fun e=>h ⟨hz,?_⟩;simp only[kX] at e;have:=nM.1 e;omega
def axd{l:ab}[hl:LB l](ha:l.a=0)(hb:l.b=0):PF GB prog 122 [eL l] (uW none):=by
 refine fn func122 J J ntmps122 J J (fun C=>?_);refine cl (fu:=⟨0⟩) J (tc (m:=l.a)) J<|ek J J J<|cl (fu:=⟨0⟩) J (tc (m:=l.b)) J<|ek J J J<|cl (fu:=⟨0⟩) J (tc (m:=l.c)) J<|?_;refine ek J J J<|cl J (uj (m:=l.a)) J<|cl J (uj (m:=l.b)) J<|cl J (uj (m:=l.c)) J<|cl (fu:=⟨0⟩) J (rP (q:=(l.a:Rat))) J<|?_;refine gj J (by show some (decide _)=some true;rw[ha];rfl) J<|cl (fu:=⟨0⟩) J (rP (q:=(l.b:Rat))) J<|gj J (by show some (decide _)=some true;rw[hb];rfl) J<|?_;exact rz J J
def awK{l:ab}[hl:LB l](hz: ¬(l.a=0/\l.b=0))(ho: ¬l.ok):PF GB prog 122 [eL l] (uW none):=by
 refine fn func122 J J ntmps122 J J (fun C=>?_);refine cl (fu:=⟨0⟩) J (tc (m:=l.a)) J<|ek J J J<|cl (fu:=⟨0⟩) J (tc (m:=l.b)) J<|ek J J J<|cl (fu:=⟨0⟩) J (tc (m:=l.c)) J<|?_;refine ek J J J<|cl J (uj (m:=l.a)) J<|cl J (uj (m:=l.b)) J<|cl J (uj (m:=l.c)) J<|cl (fu:=⟨0⟩) J (rP (q:=(l.a:Rat))) J<|?_;refine qt (fu2:=⟨4⟩) J J J J (fun hg35=>?_) (fun hg35=>?_)
 .
  have ha:l.a=0:=dY.1 hg35;refine cl (fu:=⟨1⟩) J (rP (q:=(l.b:Rat))) J<|ek J (by first|rfl|(show some (decide _)=some false;rw[decide_eq_false (fun e=>hz ⟨ha,dY.1 e⟩)])) J<|?_;refine cl J (oC (p:=(l.a:Rat)) (q:=(l.b:Rat))) J<|cl J (oC (p:=rgcd l.a l.b) (q:=(l.c:Rat))) J<|cl J (ph (m:=1) (by decide)) J<|?_;refine cl (fu:=⟨0⟩) J (Aw (p:=rgcd (rgcd l.a l.b) l.c) (q:=((1:Int):Rat))) J<|gj J (by show some (!decide _)=some true;rw[T' ho hz];rfl) J<|?_;exact rz J J
 .
  refine ek J (by first|rfl|(show some (decide _)=some false;rw[decide_eq_false (fun e=>hz ⟨ha,dY.1 e⟩)])) J<|cl J (oC (p:=(l.a:Rat)) (q:=(l.b:Rat))) J<|?_;refine cl J (oC (p:=rgcd l.a l.b) (q:=(l.c:Rat))) J<|cl J (ph (m:=1) (by decide)) J<|cl (fu:=⟨0⟩) J (Aw (p:=rgcd (rgcd l.a l.b) l.c) (q:=((1:Int):Rat))) J<|?_;refine gj J (by show some (!decide _)=some true;rw[T' ho hz];rfl) J<|?_;exact rz J J
def aA7{l:ab}[hl:LB l][Decidable l.ok]:PF GB prog 122 [eL l] (uW (if l.ok then some l else none)):=by
 split
 ·rename_i h;exact VK h
 ·rename_i h
  by_cases hz:l.a=0/\l.b=0
  ·exact axd hz.1 hz.2
  ·exact awK hz h
def mm(n:Bool)(ds:List Nat):Prop:=er ds/\(n=true->0<ds.length)
instance (n:Bool) (ds:List Nat):Decidable (mm n ds):=inferInstanceAs (Decidable (_/\_))
def AN{neg:Bool}{ds:List Nat}(h:bw ds/\ds.length<=3):PF GB prog 170 [.ag [.v (.bool neg),fk ds]] (vB (decide (mm neg ds))):=Rr h.1 (by have:=h.2;omega)
structure RL where
 na:Bool
 da:List Nat
 nb:Bool
 db:List Nat
 nc:Bool
 dc:List Nat
def RL.d(r:RL):DV:= .ag [.v (.bool r.na),fk r.da, .v (.bool r.nb),fk r.db, .v (.bool r.nc),fk r.dc]
def o4(n:Bool)(ds:List Nat):Int:=if n then-(dv ds:Int) else dv ds
def RL.l(r:RL):ab:=⟨o4 r.na r.da,o4 r.nb r.db,o4 r.nc r.dc⟩
def RL.nm(r:RL):Prop:=mm r.na r.da/\mm r.nb r.db/\mm r.nc r.dc
instance (l:ab):Decidable l.ok:=inferInstanceAs (Decidable (_/\_))
instance (r:RL):Decidable r.nm:=inferInstanceAs (Decidable (_/\_/\_))
def RL.ln(r:RL):Option ab:=if r.nm/\r.l.ok then some r.l else none
structure RL.sm (r:RL):Prop where
 a:bw r.da/\r.da.length<=3
 b:bw r.db/\r.db.length<=3
 c:bw r.dc/\r.dc.length<=3
def PC(n:Bool)(ds:List Nat):(o4 n ds).natAbs=dv ds:=by unfold o4;cases n<;>simp
def JT{n:Bool}{ds:List Nat}(hd:bw ds)(h:mm n ds):decide (o4 n ds<0)=n:=by
 unfold o4
 cases n with
 |false=>simp
 |true=>
  have h0:0<dv ds:=by
   refine iY fun e=>?_;have:=Aj hd h.1;rw[e,AP] at this;have h2:=h.2 J;rw[<-this] at h2;exact absurd h2 (by decide)
  simp only[if_true,decide_eq_true_eq];omega
def RL.eL{r:RL}(s:r.sm)(h:r.nm):r.d=Go.Sx.eL r.l:=by
 unfold RL.d Go.Sx.eL RL.l;simp only[PC,JT s.a.1 h.1,JT s.b.1 h.2.1,JT s.c.1 h.2.2,dN,Aj s.a.1 h.1.1,Aj s.b.1 h.2.1.1,Aj s.c.1 h.2.2.1];rfl
theorem RL.lb{r:RL}(s:r.sm):LB r.l:=by
 have key: ∀(n:Bool) (ds:List Nat),bw ds/\ds.length<=3->(o4 n ds).natAbs<2^96:=fun n ds h=>by
  rw[PC];refine dR (jz h.1) ?_;rw[show(2:Nat)^96=4294967296^3 by decide];exact bS (by decide) h.2
 exact⟨key _ _ s.a,key _ _ s.b,key _ _ s.c⟩
def ayH{r:RL}(s:r.sm)(h: ¬mm r.na r.da):PF GB prog 122 [r.d] (uW none):=by
 refine fn func122 J J ntmps122 J J (fun C=>?_);refine cl (fu:=⟨0⟩) J (AN (neg:=r.na) (ds:=r.da) s.a) J<|gj J (by show some (!decide _)=some true;rw[decide_eq_false h];rfl) J<|?_;exact rz J J
def XA{r:RL}(s:r.sm)(h1:mm r.na r.da)(h: ¬mm r.nb r.db):PF GB prog 122 [r.d] (uW none):=by
 refine fn func122 J J ntmps122 J J (fun C=>?_);refine cl (fu:=⟨0⟩) J (AN (neg:=r.na) (ds:=r.da) s.a) J<|ek J (by show some (!decide _)=some false;rw[decide_eq_true h1];rfl) J<|cl (fu:=⟨0⟩) J (AN (neg:=r.nb) (ds:=r.db) s.b) J<|?_;refine gj J (by show some (!decide _)=some true;rw[decide_eq_false h];rfl) J<|?_;exact rz J J
def Xf{r:RL}(s:r.sm)(h1:mm r.na r.da)(h2:mm r.nb r.db)(h: ¬mm r.nc r.dc):PF GB prog 122 [r.d] (uW none):=by
 refine fn func122 J J ntmps122 J J (fun C=>?_);refine cl (fu:=⟨0⟩) J (AN (neg:=r.na) (ds:=r.da) s.a) J<|ek J (by show some (!decide _)=some false;rw[decide_eq_true h1];rfl) J<|cl (fu:=⟨0⟩) J (AN (neg:=r.nb) (ds:=r.db) s.b) J<|?_;refine ek J (by show some (!decide _)=some false;rw[decide_eq_true h2];rfl) J<|cl (fu:=⟨0⟩) J (AN (neg:=r.nc) (ds:=r.dc) s.c) J<|gj J (by show some (!decide _)=some true;rw[decide_eq_false h];rfl) J<|?_;exact rz J J
def TN{r:RL}(s:r.sm):PF GB prog 122 [r.d] (uW r.ln):=by
 by_cases h1:mm r.na r.da
 ·by_cases h2:mm r.nb r.db
  ·by_cases h3:mm r.nc r.dc
   ·haveI:=RL.lb s
    rw[RL.eL s ⟨h1,h2,h3⟩,show r.ln=if r.l.ok then some r.l else none by unfold RL.ln;simp[show r.nm from⟨h1,h2,h3⟩]];exact aA7
   ·rw[show r.ln=none from if_neg fun e=>h3 e.1.2.2]
    exact Xf s h1 h2 h3
  ·rw[show r.ln=none from if_neg fun e=>h2 e.1.2.1]
   exact XA s h1 h2
 ·rw[show r.ln=none from if_neg fun e=>h1 e.1.1]
  exact ayH s h1
def mA(n:Nat)(f:Nat->Bool):List Value:=(List.range n).map fun j=> .bool (f j)
def lO(f:Nat->Bool)(i:Nat):Nat->Bool:=fun j=>f j||Nat.beq j i
def IJ(n:Nat)(f:Nat->Bool):(mA n f).length=n:=by simp[mA]
def Ex{n i:Nat}{f:Nat->Bool}{b:Bool}(h:i<n)(hf:f i=b):(mA n f)[i]? =some (.bool b):=by simp[mA,h,hf]
def CF{f:Nat->Bool}{i j:Nat}(e:j≠i):lO f i j=f j:=by
 unfold lO
 cases hb:Nat.beq j i with
 |false=>rw[sT]
 |true=>exact absurd (aT hb) e
def Sf{f:Nat->Bool}{i:Nat}:lO f i i=true:=by
 unfold lO;rw[pX,Bool.or_true]
def RJ(n i:Nat)(f:Nat->Bool):(mA n f).set i (.bool true)=mA n (lO f i):=by
 apply lQ;intro j;rw[oQ];simp only[mA,aJ,oX,fS];by_cases hj:j<n
 ·rw[qV hj]
  simp only[jM];by_cases e:i=j
  ·subst e;simp[hj,Sf]
  ·rw[CF (fun h=>e h.symm)];simp[e]
 ·rw[eK (by simpa using hj)]
  by_cases e:i=j
  ·subst e;simp[hj]
  ·simp[e]
def WM(n:Nat):cP (.bool false) n=mA n (fun _=>false):=by
 apply lQ;intro j;by_cases hj:j<n
 ·rw[Ex hj J]
  unfold cP;rw[In (aF (.bool false)) n j (by simpa[aF] using hj)];simp[aF,Nat.mod_one]
 ·rw[eK (by rw[nG];simp[aF];omega),eK (by rw[IJ];omega)]
structure RN where
 g:RL
 l:Int
 r:Int
def RN.d(n:RN):DV:= .ag [.v (.bool n.g.na),fk n.g.da, .v (.bool n.g.nb),fk n.g.db, .v (.bool n.g.nc),fk n.g.dc, .v (.int .i64 n.l), .v (.int .i64 n.r)]
structure RS where
 f:Nat->Bool
 c:Nat
 b:Bool
inductive RR (ns:List RN):Int->RS->Tr->RS->Prop where
 |leaf (b:Bool) (s:RS):RR ns (sB b) s (.leaf b) s
 |bad (rt:Int) (s:RS) (h1:rt≠ -1) (h2:rt≠ -2) (h:rt<0\/(ns.length:Int)<=rt\/(∃k:Nat,rt=k/\k<ns.length/\s.f k=true)):RR ns rt s (.leaf false) ⟨s.f,s.c,true⟩
 |line (k:Nat) (n:RN) (s:RS) (h:ns[k]? =some n) (hf:s.f k=false) (hl:n.g.ln=none):RR ns (k:Int) s (.leaf false) ⟨lO s.f k,s.c+1,true⟩
 |node (k:Nat) (n:RN) (l:ab) (s s2 s3:RS) (x y:Tr) (h:ns[k]? =some n) (hf:s.f k=false) (hl:n.g.ln=some l) (h1:RR ns n.l ⟨lO s.f k,s.c+1,s.b⟩ x s2) (h2:RR ns n.r s2 y s3):RR ns (k:Int) s (.node l x y) s3
def RR.mono{ns:List RN}{rt:Int}{s s':RS}{t:Tr}(h:RR ns rt s t s'):s.c<=s'.c:=by
 induction h with
 |leaf=>exact bQ _
 |bad=>exact bQ _
 |line=>exact Nat.le_succ _
 |node k n l s s2 s3 x y h hf hl h1 h2 i1 i2=>simp only at i1;omega
def zt{G:Gh}{q:Rat}{v:Value}(h:Is G (dh q) v): ∃p,v= .pointer p:=by
 rcases tj.1 h with⟨_,h⟩|⟨_,h⟩
 ·exact⟨_,h⟩
 ·obtain⟨b,m,h,_⟩:=pH.1 h;exact⟨_,h⟩
def W3{G:Gh}{l:ab}{v:Value}(h:Is G (e7 l) v): ∃n1 d1 p1 n2 d2 p2 n3 d3 p3,v= .agg ⟨[.int .i64 n1, .int .i64 d1, .pointer p1, .int .i64 n2, .int .i64 d2, .pointer p2, .int .i64 n3, .int .i64 d3, .pointer p3]⟩:=by
 obtain⟨m,rfl,g⟩:=c7.1 h;clear h;obtain⟨v1,m,rfl,h1,h⟩:=aP.1 g;obtain⟨v2,m,rfl,h2,h⟩:=aP.1 h;obtain⟨v3,m,rfl,h3,h⟩:=aP.1 h;obtain⟨v4,m,rfl,h4,h⟩:=aP.1 h;obtain⟨v5,m,rfl,h5,h⟩:=aP.1 h;obtain⟨v6,m,rfl,h6,h⟩:=aP.1 h;obtain⟨v7,m,rfl,h7,h⟩:=aP.1 h;obtain⟨v8,m,rfl,h8,h⟩:=aP.1 h;obtain⟨v9,m,rfl,h9,h⟩:=aP.1 h;rw[co] at h;subst h;obtain⟨_,rfl⟩:=zt h3;obtain⟨_,rfl⟩:=zt h6;obtain⟨_,rfl⟩:=zt h9;rw[aH.1 h1,aH.1 h2,aH.1 h4,aH.1 h5,aH.1 h7,aH.1 h8];exact⟨_,_,_,_,_,_,_,_,_,J⟩
def S5{G:Gh}{o:Option ab}{v:Value}(h:Is G (uW o) v): ∃n1 d1 p1 n2 d2 p2 n3 d3 p3,v= .tuple #[.agg ⟨[.int .i64 n1, .int .i64 d1, .pointer p1, .int .i64 n2, .int .i64 d2, .pointer p2, .int .i64 n3, .int .i64 d3, .pointer p3]⟩, .bool o.isSome]/\
  ∀l,o=some l->Is G (e7 l) (.agg ⟨[.int .i64 n1, .int .i64 d1, .pointer p1, .int .i64 n2, .int .i64 d2, .pointer p2, .int .i64 n3, .int .i64 d3, .pointer p3]⟩):=by
 cases o with
 |some l=>
  obtain⟨m,rfl,g⟩:=jv.1 h;obtain⟨v1,m,rfl,h1,h⟩:=aP.1 g;obtain⟨v2,m,rfl,h2,h⟩:=aP.1 h;rw[co] at h;subst h;obtain⟨n1,d1,p1,n2,d2,p2,n3,d3,p3,rfl⟩:=W3 h1;rw[aH.1 h2];exact⟨n1,d1,p1,n2,d2,p2,n3,d3,p3,J,fun k e=>by cases e;exact h1⟩
 |none=>
  obtain⟨m,rfl,g⟩:=jv.1 h;obtain⟨v1,m,rfl,h1,h⟩:=aP.1 g;obtain⟨v2,m,rfl,h2,h⟩:=aP.1 h;rw[co] at h;subst h;clear g h;obtain⟨m,rfl,g⟩:=c7.1 h1;obtain⟨w1,m,rfl,k1,h⟩:=aP.1 g;obtain⟨w2,m,rfl,k2,h⟩:=aP.1 h;obtain⟨w3,m,rfl,k3,h⟩:=aP.1 h;obtain⟨w4,m,rfl,k4,h⟩:=aP.1 h;obtain⟨w5,m,rfl,k5,h⟩:=aP.1 h;obtain⟨w6,m,rfl,k6,h⟩:=aP.1 h;obtain⟨w7,m,rfl,k7,h⟩:=aP.1 h;obtain⟨w8,m,rfl,k8,h⟩:=aP.1 h;obtain⟨w9,m,rfl,k9,h⟩:=aP.1 h;rw[co] at h;subst h;rw[aH.1 k1,aH.1 k2,aH.1 k3,aH.1 k4,aH.1 k5,aH.1 k6,aH.1 k7,aH.1 k8,aH.1 k9];rw[aH.1 h2];exact⟨_,_,_,_,_,_,_,_,_,J,fun k e=>by cases e⟩
def MM{G:Gh}{n:RN}{v:Value}(h:Is G n.d v): ∃x1 x2 x3:SV,v= .agg ⟨[.bool n.g.na, .slice x1.a x1.n x1.c, .bool n.g.nb, .slice x2.a x2.n x2.c, .bool n.g.nc, .slice x3.a x3.n x3.c, .int .i64 n.l, .int .i64 n.r]⟩/\
  Is G n.g.d (.agg ⟨[.bool n.g.na, .slice x1.a x1.n x1.c, .bool n.g.nb, .slice x2.a x2.n x2.c, .bool n.g.nc, .slice x3.a x3.n x3.c]⟩):=by
 obtain⟨m,rfl,g⟩:=c7.1 h;clear h;obtain⟨v1,m,rfl,h1,h⟩:=aP.1 g;obtain⟨v2,m,rfl,h2,h⟩:=aP.1 h;obtain⟨v3,m,rfl,h3,h⟩:=aP.1 h;obtain⟨v4,m,rfl,h4,h⟩:=aP.1 h;obtain⟨v5,m,rfl,h5,h⟩:=aP.1 h;obtain⟨v6,m,rfl,h6,h⟩:=aP.1 h;obtain⟨v7,m,rfl,h7,h⟩:=aP.1 h;obtain⟨v8,m,rfl,h8,h⟩:=aP.1 h;rw[co] at h;subst h;obtain⟨_,x1,_,rfl,_,_⟩:=iu.1 (id h2);obtain⟨_,x2,_,rfl,_,_⟩:=iu.1 (id h4);obtain⟨_,x3,_,rfl,_,_⟩:=iu.1 (id h6)
 cases aH.1 h1;cases aH.1 h3;cases aH.1 h5;cases aH.1 h7;cases aH.1 h8
 exact⟨x1,x2,x3,J,c7.2 ⟨_,J, .cons h1 (.cons h2 (.cons h3 (.cons h4 (.cons h5 (.cons h6 .nil)))))⟩⟩
def sO{G:Gh}{t:Tr}{v:Value}(h:Is G (eU t) v): ∃p,v= .pointer p:=by
 obtain⟨b,m,h,_⟩:=pH.1 h;exact⟨_,h⟩
def PF.fn0{P:Program}{f:FuncId}{ds:List DV}{r:DV}(h: ∀{GB:Gh},PF GB P f ds r){G:Gh}{vs:List Value}(hv:IsLs G ds vs):Fn P f vs G (fun v G'=>Is G' r v):=h (GB:=G) G vs (bD.refl G) hv
abbrev TL (x:SV) (ns:List RN) (A:Gh):Prop:= ∃es,eH A 8 x es/\IsLs A (ns.map RN.d) es
def ZY{A:Gh}{ns:List RN}{x:SV}(hx:TL x ns A)(hs: ∀n∈ns,n.g.sm)(hn:ns.length<=1000000){rt:Int}{s s':RS}{t:Tr}(h:RR ns rt s t s'): ∀{G:Gh} {rb sb:Nat} {lo lo2:Bool},[GL A G]->s'.c<=1000000->
  j0 prog 78 [.pointer (some ⟨rb,0,none⟩), .int .i64 rt] [⟨rb,[.slice x.a x.n x.c, .slice (some ⟨sb,0,none⟩) ns.length ns.length, .int .i64 s.c, .bool s.b],174,lo⟩,⟨sb,mA ns.length s.f,4,lo2⟩] G
   (fun v css G'=> ∃p,v= .pointer p/\Is G' (eU t) (.pointer p)/\css=[[.slice x.a x.n x.c, .slice (some ⟨sb,0,none⟩) ns.length ns.length, .int .i64 s'.c, .bool s'.b],mA ns.length s'.f]):=by
 obtain⟨es,hx,hes⟩:=hx;have hel:=hes.len;rw[aJ] at hel;have hlen:=hx.len;rw[hel] at hlen;obtain⟨xa,xn,xc⟩:=x;simp only[] at hlen;subst hlen
 induction h with
 |leaf bb s=>
  intro G rb sb lo lo2 _ hc;refine j0.intro func78 J J ntmps78 J ?_;intro C _ _;show St C _ _ [⟨rb,_,_,false⟩,⟨sb,_,_,false⟩] _ _
  cases bb
  case true=>
   refine sR<|sa J J<|zE<|bz<|eh<|sR<|sm J J<|sy (i7 J J) J<|sm J J<|ss J J J J<|ss J J J J<|?_;refine sy (s7 J J) J<|sa J J<|zE<|pm J<|sR<|sm J J<|sy (i7 J J) J<|?_;refine sc (zC J J (PF.fn0 (x7 (b:=true)) (.cons (aH.2 J) .nil)) J ?_);rintro _ G1 _ hp;obtain⟨p,rfl⟩:=sO hp;refine sa J J<|zE<|di<|?_;exact rH (css:=[_,_]) (.tmp J .nil) J _ (List.Perm.refl _) (List.Sublist.refl _) ⟨p,J,hp,J⟩
  refine sR<|sa J J<|zE<|bz<|eh<|sR<|sm J J<|sy (i7 J J) J<|sm J J<|b7 J J (fD J) J<|b7 J J (i7 J J) J<|?_;refine sy (mf J J) J<|sa J J<|zE<|pm J<|sR<|sm J J<|sy (i7 J J) J<|?_;refine sc (zC J J (PF.fn0 (x7 (b:=false)) (.cons (aH.2 J) .nil)) J ?_);rintro _ G1 _ hp;obtain⟨p,rfl⟩:=sO hp;refine sa J J<|zE<|di<|?_;exact rH (css:=[_,_]) (.tmp J .nil) J _ (List.Perm.refl _) (List.Sublist.refl _) ⟨p,J,hp,J⟩
 |bad rt s h1 h2 h=>
  intro G rb sb lo lo2 _ hc;refine j0.intro func78 J J ntmps78 J ?_;intro C _ _;show St C _ [(0, .pointer (some ⟨rb,0,none⟩)),(1, .int .i64 rt)] [⟨rb,[.slice xa ns.length xc, .slice (some ⟨sb,0,none⟩) ns.length ns.length, .int .i64 s.c, .bool s.b],_,false⟩,⟨sb,mA ns.length s.f,_,false⟩] _ _;refine sR<|sa J J<|zE<|bz<|eh<|sR<|sm J J<|sy (i7 J J) J<|sm J J<|?_;refine oz 12 J (fun hg=>absurd hg (by omega)) (fun hg=>?_);refine b7 J J (fD J) J<|b7 J J (i7 J J) J<|sy (mf J J) J<|sa J J<|zE<|?_;refine f8 J (fun hc=>absurd hc (by omega)) (fun _=>?_);refine sR<|sm J J<|sy (jo J J) J<|sm J J<|?_;refine oz 22 J (fun hg=>?_) (fun hg=>?_)
  ·refine ss J J J J<|ss J J J J<|ss J J J J<|ss J J J J<|ss J J J J<|ss J J J J<|ss J J J J<|sy (s7 J J) J<|sm J J<|ss J J J J<|ss J J J J<|?_
   refine ss J J J J<|ss J J J J<|ss J J J J<|ss J J J J<|ss J J J J<|sy (s7 J J) J<|sa J J<|zE<|pm J<|bz<|?_;refine d7<|sm J J<|sn J J<|sf J J<|?_;refine sc (uw J J J (.hd ..) (nb J) J J ?_);refine zE<|sR<|?_;refine sc (zC J J (PF.fn0 (x7 (b:=false)) (.cons (aH.2 J) .nil)) J ?_);rintro _ G1 _ hp;obtain⟨p,rfl⟩:=sO hp;refine sa J J<|zE<|di<|?_;exact rH (css:=[_,_]) (.tmp J .nil) J _ (List.Perm.refl _) (List.Sublist.refl _) ⟨p,J,hp,J⟩
  refine b7 J J (fD J) J<|b7 J J (fD J) J<|b7 J J (lw J) J<|b7 J J (oF J) J<|b7 J J (lE J J) J<|b7 J J (o8 J) J<|b7 J J (uC J J) J<|sy (mf J J) J<|sm J J<|?_;refine oz 31 J (fun hg=>?_) (fun hg=>?_)
  ·refine ss J J J J<|ss J J J J<|ss J J J J<|ss J J J J<|ss J J J J<|ss J J J J<|ss J J J J<|?_
   refine sy (s7 J J) J<|sa J J<|zE<|pm J<|sR<|sm J J<|sn J J<|sf J J<|?_;refine sc (uw J J J (.hd ..) (nb J) J J ?_);refine zE<|sR<|?_;refine sc (zC J J (PF.fn0 (x7 (b:=false)) (.cons (aH.2 J) .nil)) J ?_);rintro _ G1 _ hp;obtain⟨p,rfl⟩:=sO hp;refine sa J J<|zE<|di<|?_;exact rH (css:=[_,_]) (.tmp J .nil) J _ (List.Perm.refl _) (List.Sublist.refl _) ⟨p,J,hp,J⟩
  obtain⟨k,rfl,hk,hf⟩: ∃k:Nat,rt=k/\k<ns.length/\s.f k=true:=by
   rcases h with h|h|h
   ·omega
   ·exact absurd h hg
   ·exact h
  refine b7 J J (fD J) J<|b7 J J (lw J) J<|b7 J J (oF J) J<|b7 J J (lE J J) J<|b7 J J (fD J) J<|b7 J J (fq J J (by omega) (by omega)) J<|?_;refine b7 J J (lE (v:= .bool true) J (by rw[bZ,iR];exact Ex hk hf)) J<|sy (mf J J) J<|sa J J<|zE<|pm J<|?_;refine sR<|sm J J<|sn J J<|sf J J<|?_;refine sc (uw J J J (.hd ..) (nb J) J J ?_);refine zE<|sR<|?_;refine sc (zC J J (PF.fn0 (x7 (b:=false)) (.cons (aH.2 J) .nil)) J ?_);rintro _ G1 _ hp;obtain⟨p,rfl⟩:=sO hp;refine sa J J<|zE<|di<|?_;exact rH (css:=[_,_]) (.tmp J .nil) J _ (List.Perm.refl _) (List.Sublist.refl _) ⟨p,J,hp,J⟩
 |line base n s h0 hfb hl=>
  intro G rb sb lo lo2 _ hc;have hbn:base<ns.length:=(aS.1 h0).1;simp only at hc;obtain⟨z,hzi,hz⟩:=hes.get (i:=base) (d:=n.d) (by rw[fS,h0];rfl);obtain⟨x1,x2,x3,rfl,hzg⟩:=MM hz;refine j0.intro func78 J J ntmps78 J ?_;intro C _ _;show St C _ [(0, .pointer (some ⟨rb,0,none⟩)),(1, .int .i64 (base:Int))] [⟨rb,[.slice xa ns.length xc, .slice (some ⟨sb,0,none⟩) ns.length ns.length, .int .i64 s.c, .bool s.b],_,false⟩,⟨sb,mA ns.length s.f,_,false⟩] _ _;refine sR<|sa J J<|zE<|bz<|eh<|sR<|sm J J<|sy (i7 J J) J<|sm J J<|?_;refine oz 12 J (fun hg=>absurd hg (by omega)) (fun hg=>?_);refine b7 J J (fD J) J<|b7 J J (i7 J J) J<|sy (mf J J) J<|sa J J<|zE<|?_;refine f8 J (fun hc=>absurd hc (by omega)) (fun _=>?_);refine sR<|sm J J<|sy (jo J J) J<|sm J J<|?_;refine oz 22 J (fun hg=>absurd hg (by omega)) (fun hg=>?_);refine b7 J J (fD J) J<|b7 J J (fD J) J<|b7 J J (lw J) J<|b7 J J (oF J) J<|b7 J J (lE J J) J<|b7 J J (o8 J) J<|b7 J J (uC J J) J<|sy (mf J J) J<|sm J J<|?_;refine oz 31 J (fun hg=>absurd hg (by omega)) (fun hg=>?_);refine b7 J J (fD J) J<|b7 J J (lw J) J<|b7 J J (oF J) J<|b7 J J (lE J J) J<|b7 J J (fD J) J<|b7 J J (fq J J (by omega) (by omega)) J<|?_;refine b7 J J (lE (v:= .bool false) J (by rw[bZ,iR];exact Ex hbn hfb)) J<|sy (mf J J) J<|sa J J<|zE<|wl J<|zK<|?_;refine sR<|sm J J<|sn J J<|sf J J<|qI J J J<|sm J J<|sy (fq J J (by omega) (by omega)) J<|?_;refine sc (tM J J (.tl _ _ _ _ _ _ _ _ (.hd ..)) (by rw[IJ,bZ,iR];exact hbn) J J ?_);rw[bZ,iR,RJ];refine zE<|sR<|sm J J<|sn J J<|sf J J<|qI J J J<|sy (d6 J J) J<|sn J J<|sf J J<|?_
  refine sc (uw J J J (by repeat (first|exact .hd .. |apply fG.tl)) (nb J) J J ?_);rw[show(s.c:Int)+1=((s.c+1:Nat):Int) by omega];refine zE<|sR<|sm J J<|sn J J<|sf J J<|qI J J J<|sm J J<|sy (JJ (z:=⟨xa,ns.length,xc⟩) hx J J (by omega) (by show(base:Int)<(ns.length:Int);omega)) J<|?_;rw[bZ];refine sy (LO (i:=base) hx J (by rw[hel];exact hbn) hzi) J<|?_;refine sc (vp J ?_);intro b5;refine sc (CZ J J J (by repeat (first|exact .hd .. |apply fG.tl)) J (nb J) J J ?_);refine zE<|sR<|sf J J<|pI J J J<|?_;refine sc (zC J J (PF.fn0 (TN (hs n (aM h0))) (.cons (hzg.up GL.le) .nil)) J ?_);rintro _ G6 _ hw;rw[hl] at hw;obtain⟨n1,d1,p1,n2,d2,p2,n3,d3,p3,rfl,hw⟩:=S5 hw;refine sm J J<|sx J J J<|sx J J J<|?_;refine sc (vp J ?_);intro b6;refine sc (CZ J J J (by repeat (first|exact .hd .. |apply fG.tl)) J (nb J) J J ?_);refine sa J J<|zE<|bz<|sR<|sm J J<|sy (GS J) J<|zE<|pm J<|?_;refine sR<|sm J J<|sn J J<|sf J J<|?_;refine sc (uw J J J (by repeat (first|exact .hd .. |apply fG.tl)) (nb J) J J ?_);refine zE<|sR<|?_;refine sc (zC J J (PF.fn0 (x7 (b:=false)) (.cons (aH.2 J) .nil)) J ?_);rintro _ G7 _ hp;obtain⟨p,rfl⟩:=sO hp;refine sa J J<|zE<|di<|?_;exact rH (css:=[_,_]) (.tmp J .nil) J _ (lN (l₁:=[_,_]) (l₂:=[_,_])) (.cons_cons _ (.cons_cons _ (kJ _))) ⟨p,J,hp,J⟩
 |node base n l s s2 s3 tx ty h0 hfb hl h1 h2 ih1 ih2=>
  intro G rb sb lo lo2 _ hc;have hbn:base<ns.length:=(aS.1 h0).1;have hm1:=h1.mono;have hm2:=h2.mono;simp only at hm1;obtain⟨z,hzi,hz⟩:=hes.get (i:=base) (d:=n.d) (by rw[fS,h0];rfl);obtain⟨x1,x2,x3,rfl,hzg⟩:=MM hz;refine j0.intro func78 J J ntmps78 J ?_;intro C _ _;show St C _ [(0, .pointer (some ⟨rb,0,none⟩)),(1, .int .i64 (base:Int))] [⟨rb,[.slice xa ns.length xc, .slice (some ⟨sb,0,none⟩) ns.length ns.length, .int .i64 s.c, .bool s.b],_,false⟩,⟨sb,mA ns.length s.f,_,false⟩] _ _;refine sR<|sa J J<|zE<|bz<|eh<|sR<|sm J J<|sy (i7 J J) J<|sm J J<|?_;refine oz 12 J (fun hg=>absurd hg (by omega)) (fun hg=>?_);refine b7 J J (fD J) J<|b7 J J (i7 J J) J<|sy (mf J J) J<|sa J J<|zE<|?_;refine f8 J (fun hc=>absurd hc (by omega)) (fun _=>?_);refine sR<|sm J J<|sy (jo J J) J<|sm J J<|?_;refine oz 22 J (fun hg=>absurd hg (by omega)) (fun hg=>?_);refine b7 J J (fD J) J<|b7 J J (fD J) J<|b7 J J (lw J) J<|b7 J J (oF J) J<|b7 J J (lE J J) J<|b7 J J (o8 J) J<|b7 J J (uC J J) J<|sy (mf J J) J<|sm J J<|?_;refine oz 31 J (fun hg=>absurd hg (by omega)) (fun hg=>?_);refine b7 J J (fD J) J<|b7 J J (lw J) J<|b7 J J (oF J) J<|b7 J J (lE J J) J<|b7 J J (fD J) J<|b7 J J (fq J J (by omega) (by omega)) J<|?_;refine b7 J J (lE (v:= .bool false) J (by rw[bZ,iR];exact Ex hbn hfb)) J<|sy (mf J J) J<|sa J J<|zE<|wl J<|zK<|?_;refine sR<|sm J J<|sn J J<|sf J J<|qI J J J<|sm J J<|sy (fq J J (by omega) (by omega)) J<|?_;refine sc (tM J J (.tl _ _ _ _ _ _ _ _ (.hd ..)) (by rw[IJ,bZ,iR];exact hbn) J J ?_);rw[bZ,iR,RJ]
  refine zE<|sR<|sm J J<|sn J J<|sf J J<|qI J J J<|sy (d6 J J) J<|sn J J<|sf J J<|?_;refine sc (uw J J J (by repeat (first|exact .hd .. |apply fG.tl)) (nb J) J J ?_);rw[show(s.c:Int)+1=((s.c+1:Nat):Int) by omega];refine zE<|sR<|sm J J<|sn J J<|sf J J<|qI J J J<|sm J J<|sy (JJ (z:=⟨xa,ns.length,xc⟩) hx J J (by omega) (by show(base:Int)<(ns.length:Int);omega)) J<|?_;rw[bZ];refine sy (LO (i:=base) hx J (by rw[hel];exact hbn) hzi) J<|?_;refine sc (vp J ?_);intro b5;refine sc (CZ J J J (by repeat (first|exact .hd .. |apply fG.tl)) J (nb J) J J ?_);refine zE<|sR<|sf J J<|pI J J J<|?_;refine sc (zC J J (PF.fn0 (TN (hs n (aM h0))) (.cons (hzg.up GL.le) .nil)) J ?_);rintro _ G6 _ hw;rw[hl] at hw;obtain⟨n1,d1,p1,n2,d2,p2,n3,d3,p3,rfl,hw'⟩:=S5 hw;replace hw:=hw' l J;refine sm J J<|sx J J J<|sx J J J<|?_;refine sc (vp J ?_);intro b6;refine sc (CZ J J J (by repeat (first|exact .hd .. |apply fG.tl)) J (nb J) J J ?_);refine sa J J<|zE<|bz<|sR<|sm J J<|sy (GS J) J<|zE<|wl J<|zK<|?_;refine sR<|sm J J<|sf J J<|qI J J J<|?_;have hrp:=ih1 (G:=G6) (rb:=rb) (sb:=sb) (lo:=false) (lo2:=false) (by omega);refine sc (GM J J (lN (l₁:=[_,_]) (l₂:=[_,_])) hrp J ?_);rintro _ css G7 _ _ ⟨q1,rfl,hp1,rfl⟩;show St C _ _ [⟨rb,[.slice xa ns.length xc, .slice (some ⟨sb,0,none⟩) ns.length ns.length, .int .i64 s2.c, .bool s2.b],174,false⟩,⟨sb,mA ns.length s2.f,4,false⟩,⟨b6,[.int .i64 n1, .int .i64 d1, .pointer p1, .int .i64 n2, .int .i64 d2, .pointer p2, .int .i64 n3, .int .i64 d3, .pointer p3],132,true⟩,⟨b5,[.bool n.g.na, .slice x1.a x1.n x1.c, .bool n.g.nb, .slice x2.a x2.n x2.c, .bool n.g.nc, .slice x3.a x3.n x3.c, .int .i64 n.l, .int .i64 n.r],154,true⟩] _ _
  refine sa J J<|zE<|bz<|?_;refine CI [⟨b6,[.int .i64 n1, .int .i64 d1, .pointer p1, .int .i64 n2, .int .i64 d2, .pointer p2, .int .i64 n3, .int .i64 d3, .pointer p3],132,true⟩,⟨b5,[.bool n.g.na, .slice x1.a x1.n x1.c, .bool n.g.nb, .slice x2.a x2.n x2.c, .bool n.g.nc, .slice x3.a x3.n x3.c, .int .i64 n.l, .int .i64 n.r],154,true⟩] (fun _=>false) [(0,true),(1,true),(2,true),(3,true),(4,true),(5,false),(6,false),(7,true)] follows (by kernel_rfl)<|?_;refine dL J J J J<|dM J J J<|dM J J J<|dF J J J<|te J J J J<|?_;have hrp:=ih2 (G:=G7) (rb:=rb) (sb:=sb) (lo:=false) (lo2:=false) hc;refine dc J J (GM J J (M:=[_,_]) (rest:=[_,_]) (List.Perm.refl _) hrp J ?_);rintro _ css G8 _ _ ⟨q2,rfl,hp2,rfl⟩;show St C _ _ [⟨rb,[.slice xa ns.length xc, .slice (some ⟨sb,0,none⟩) ns.length ns.length, .int .i64 s3.c, .bool s3.b],174,false⟩,⟨sb,mA ns.length s3.f,4,false⟩,⟨b6,[.int .i64 n1, .int .i64 d1, .pointer p1, .int .i64 n2, .int .i64 d2, .pointer p2, .int .i64 n3, .int .i64 d3, .pointer p3],132,true⟩,⟨b5,[.bool n.g.na, .slice x1.a x1.n x1.c, .bool n.g.nb, .slice x2.a x2.n x2.c, .bool n.g.nc, .slice x3.a x3.n x3.c, .int .i64 n.l, .int .i64 n.r],154,true⟩] _ _;refine nF<|?_;refine dc J J (zC J J (PF.fn0 (C4 (l:=l) (x:=tx) (y:=ty)) (.cons (hw.up GL.le) (.cons (hp1.up GL.le) (.cons hp2 .nil)))) J ?_);rintro _ G9 _ hp;obtain⟨p,rfl⟩:=sO hp;refine nF<|dA J J J<|dn<|di<|?_;exact rH (css:=[_,_]) (.tmp J .nil) J _ (List.Perm.refl _) (.cons_cons _ (.cons_cons _ (kJ _))) ⟨p,J,hp,J⟩
def td:RS:=⟨fun _=>false,0,false⟩
def C6(ns:List RN)(t:Tr)(s:RS):DV:=if s.b=false/\s.c=ns.length then .tp [eU t,vB true] else .tp [.v (.pointer none),vB false]
def Ay(rt:Int)(ns:List RN):DV:= .ag [vI rt, .sl (ns.map RN.d)]
def aIP{ns:List RN}{rt:Int}{t:Tr}{s:RS}(hs: ∀n∈ns,n.g.sm)(hn:ns.length<=65536)(h:RR ns rt td t s)(hc:s.c<=1000000):PF GB prog 40 [Ay rt ns] (C6 ns t s):=by
 intro G vs _ hv;obtain⟨v0,m,rfl,h0,hm⟩:=aP.1 hv;rw[co] at hm;subst hm;obtain⟨m,rfl,g⟩:=c7.1 h0;obtain⟨v1,m,rfl,h1,hm⟩:=aP.1 g;obtain⟨v2,m,rfl,h2,hm⟩:=aP.1 hm;rw[co] at hm;subst hm;obtain⟨s0,x,es,rfl,hsl,hes⟩:=iu.1 h2;rw[aH.1 h1];have hel:=hes.len;rw[aJ] at hel;have hlen:=hsl.len;rw[hel] at hlen;have hx:TL x ns G:=by
  refine⟨es,?_,hes⟩;rcases C7 (s:=8) hsl hes (fun d hd=>by obtain⟨n,_,rfl⟩:=bJ.1 hd;exact⟨rfl,rfl⟩) with e|e
  ·exact⟨hsl.len,hsl.cap, .inl e⟩
  ·rw[e] at hsl;exact hsl
 obtain⟨xa,xn,xc⟩:=x;simp only[] at hlen;subst hlen;show Fn _ _ [.agg ⟨[.int .i64 rt, .slice xa ns.length xc]⟩] _ _;refine Fn.intro func40 J J ntmps40 J ?_;intro C _ _;refine sR<|?_;refine sc (Jt J J ?_);intro b1;refine sa J J<|sa J J<|zE<|bz<|sR<|sf J J<|qI J J J<|c8 J J<|sy (tA J J) J<|zE<|?_;refine f8 J (fun hc=>absurd hc (by omega)) (fun _=>?_);refine zK<|bz<|dr (fun _=>false) [(0,true),(1,true),(2,true),(3,true),(4,true),(5,false),(6,true),(7,false),(8,true)] follows (by kernel_rfl)<|dF J J J<|?_;refine te J J J J<|dF J J J<|te J J J J<|dy J (fun _=>o8 J) J J<|?_;refine dc J J (ud J J (by omega) (by omega) (by omega) (by rfl) J ?_);intro b2;rw[bZ,WM];refine nF<|dy J (fun _=>F7 J) J J<|?_;refine dc J J (Jt J J ?_);intro b3;refine nF<|dA J J J<|dn<|sR<|sm J J<|sf J J<|qI J J J<|?_;have hrp:=ZY hx hs (by omega) h (G:=G) (rb:=b3) (sb:=b2) (lo:=true) (lo2:=true) hc;refine sc (GM J J (M:=[_,_]) (rest:=[_]) (List.Perm.refl _) hrp J ?_);rintro _ css G4 _ _ ⟨p,rfl,hp,rfl⟩;show St C _ _ [⟨b3,[.slice xa ns.length xc, .slice (some ⟨b2,0,none⟩) ns.length ns.length, .int .i64 s.c, .bool s.b],174,true⟩,⟨b2,mA ns.length s.f,4,true⟩,⟨b1,[.int .i64 rt, .slice xa ns.length xc],32,true⟩] _ _;refine sa J J<|zE<|bz<|bz<|dr (fun _=>false) [(0,true),(1,true),(2,true),(3,true),(4,true),(5,true),(6,true),(7,true),(8,true),(9,true),(10,true),(11,true),(12,true),(13,true)] follows (by kernel_rfl)<|?_;obtain⟨sf_,sc_,sb_⟩:=s
 cases sb_
 case true=>
  refine dM J J J<|dy J (fun _=>lw J) J J<|dF J J J<|te J J J J<|dM J J J<|?_;refine vt J J J J J J<|vt J J J J J J<|vt J J J J J J<|vt J J J J J J<|vt J J J J J J<|vt J J J J J J<|?_;refine vt J J J J J J<|vt J J J J J J<|dy J (fun _=>s7 J J) J J<|dn<|pm J<|?_;refine sR<|sa J J<|sa J J<|zE<|di<|?_;refine zD (.tmp J (.tmp J .nil)) ?_;rw[C6,if_neg (fun e=>by cases e.1)];exact jv.2 ⟨_,J, .cons (aH.2 J) (.cons (aH.2 J) .nil)⟩
 refine dM J J J<|dy J (fun _=>lw J) J J<|dF J J J<|te J J J J<|dM J J J<|?_;refine uF J J J J (fun _=>fD J) J<|uF J J J J (fun _=>lw J) J<|uF J J J J (fun _=>oF J) J<|uF J J J J (fun _=>lE J J) J<|?_;refine uF J J J J (fun _=>oF J) J<|uF J J J J (fun _=>lE J J) J<|uF J J J J (fun _=>o8 J) J<|uF J J J J (fun _=>vh J J) J<|?_;refine dy J (fun _=>mf J J) J J<|dn<|?_;refine f8 J (fun hc=>?_) (fun hc=>?_) -- slot 35
 ·refine sR<|sa J J<|sa J J<|zE<|di<|?_
  refine zD (.tmp J (.tmp J .nil)) ?_;rw[C6,if_neg (fun e=>hc (by have:=e.2;simp only at this;omega))];exact jv.2 ⟨_,J, .cons (aH.2 J) (.cons (aH.2 J) .nil)⟩
 refine zK<|sR<|sm J J<|sa J J<|sa J J<|zE<|di<|?_;refine zD (.tmp J (.tmp J .nil)) ?_;rw[C6,if_pos ⟨J,by have h9:=hc;simp at h9;show sc_=_;omega⟩];exact jv.2 ⟨_,J, .cons hp (.cons (aH.2 J) .nil)⟩
def aBr{G:Gh}{l:ab}{x y:Tr}{m:List Value}(h:IsLs G (cU (.node l x y)) m): ∃n1 d1 p1 n2 d2 p2 n3 d3 p3 q r,m=[.int .i64 n1, .int .i64 d1, .pointer p1, .int .i64 n2, .int .i64 d2, .pointer p2, .int .i64 n3, .int .i64 d3, .pointer p3, .pointer q, .pointer r, .bool false]/\
  Is G (e7 l) (.agg ⟨[.int .i64 n1, .int .i64 d1, .pointer p1, .int .i64 n2, .int .i64 d2, .pointer p2, .int .i64 n3, .int .i64 d3, .pointer p3]⟩)/\Is G (eU x) (.pointer q)/\Is G (eU y) (.pointer r):=by
 obtain⟨v1,m,rfl,h1,h⟩:=aP.1 h;obtain⟨v2,m,rfl,h2,h⟩:=aP.1 h;obtain⟨v3,m,rfl,h3,h⟩:=aP.1 h;obtain⟨v4,m,rfl,h4,h⟩:=aP.1 h;obtain⟨v5,m,rfl,h5,h⟩:=aP.1 h;obtain⟨v6,m,rfl,h6,h⟩:=aP.1 h;obtain⟨v7,m,rfl,h7,h⟩:=aP.1 h;obtain⟨v8,m,rfl,h8,h⟩:=aP.1 h;obtain⟨v9,m,rfl,h9,h⟩:=aP.1 h;obtain⟨va,m,rfl,ha,h⟩:=aP.1 h;obtain⟨vb,m,rfl,hb,h⟩:=aP.1 h;obtain⟨vc,m,rfl,hc,h⟩:=aP.1 h;rw[co] at h;subst h;obtain⟨_,rfl⟩:=zt h3;obtain⟨_,rfl⟩:=zt h6;obtain⟨_,rfl⟩:=zt h9;obtain⟨_,rfl⟩:=sO ha;obtain⟨_,rfl⟩:=sO hb
 cases aH.1 h1;cases aH.1 h2;cases aH.1 h4;cases aH.1 h5;cases aH.1 h7;cases aH.1 h8;cases aH.1 hc
 exact⟨_,_,_,_,_,_,_,_,_,_,_,J,c7.2 ⟨_,J, .cons h1 (.cons h2 (.cons h3 (.cons h4 (.cons h5 (.cons h6 (.cons h7 (.cons h8 (.cons h9 .nil))))))))⟩,ha,hb⟩
def aBk{G:Gh}{b:Bool}{m:List Value}(h:IsLs G (cU (.leaf b)) m):m=[.int .i64 0, .int .i64 0, .pointer none, .int .i64 0, .int .i64 0, .pointer none, .int .i64 0, .int .i64 0, .pointer none, .pointer none, .pointer none, .bool b]:=by
 obtain⟨v1,m,rfl,h1,h⟩:=aP.1 h;obtain⟨v2,m,rfl,h2,h⟩:=aP.1 h;obtain⟨v3,m,rfl,h3,h⟩:=aP.1 h;obtain⟨v4,m,rfl,h4,h⟩:=aP.1 h;obtain⟨v5,m,rfl,h5,h⟩:=aP.1 h;obtain⟨v6,m,rfl,h6,h⟩:=aP.1 h;obtain⟨v7,m,rfl,h7,h⟩:=aP.1 h;obtain⟨v8,m,rfl,h8,h⟩:=aP.1 h;obtain⟨v9,m,rfl,h9,h⟩:=aP.1 h;obtain⟨va,m,rfl,ha,h⟩:=aP.1 h;obtain⟨vb,m,rfl,hb,h⟩:=aP.1 h;obtain⟨vc,m,rfl,hc,h⟩:=aP.1 h;rw[co] at h;subst h
 cases aH.1 h1;cases aH.1 h2;cases aH.1 h3;cases aH.1 h4;cases aH.1 h5;cases aH.1 h6;cases aH.1 h7;cases aH.1 h8;cases aH.1 h9;cases aH.1 ha;cases aH.1 hb;cases aH.1 hc
 rfl
def KU: ∀{t:Tr} {A A2 G:Gh} {p:Option Addr} {ob wb:Nat} {lo lo2:Bool} {x:SV} {zs:List ND} {ns:List NQ} {B:List ak},Is A (eU t) (.pointer p)->t.all LB->[GL A G]->[GL A2 G]->iF 8 154 x (zs.map ND.val) B->gi (si 96 A2) zs ns->zs.length+t.size<=1000000->
  je prog 60 [.pointer p, .pointer (some ⟨ob,0,none⟩), .pointer (some ⟨wb,0,none⟩)] (⟨ob,[.int .i64 0, .slice x.a x.n x.c],32,lo⟩::⟨wb,[o5 ob wb],147,lo2⟩::B) G
   (fun v own' G'=> ∃x' zs' B',v= .int .i64 (t.num zs.length)/\own'=⟨ob,[.int .i64 0, .slice x'.a x'.n x'.c],32,false⟩::⟨wb,[o5 ob wb],147,false⟩::B'/\iF 8 154 x' (zs'.map ND.val) B'/\gi (si 96 G') zs' (ns++t.wr zs.length))
 | .leaf bb,A,A2,G,p,ob,wb,lo,lo2,x,zs,ns,B,h,_,_,_,hB,hz,hle=>by
  obtain⟨n,m,e,hg,hm⟩:=pH.1 (id h)
  cases e
  cases aBk hm
  have hG:yt A n _:=⟨hg⟩;have hz':gi (si 96 G) zs (ns++[]):=by rw[iU];exact hz.imp fun _ _ h=>h.up
  refine je.intro func60 J J ntmps60 J ?_;intro C _ _;show St C _ _ (⟨ob,[.int .i64 0, .slice x.a x.n x.c],32,false⟩::⟨wb,[o5 ob wb],147,false⟩::asB B) _ _;refine sR<|sa J J<|zE<|bz<|sR<|sm J J<|?_;refine sc (zC J J (PF.fn0 xo (.cons (h.up GL.le) .nil)) J ?_);rintro _ G1 _ hv
  cases aH.1 hv
  refine zE<|pm J<|?_;refine bz<|sR<|sm J J<|sn J J<|sf J J<|aIT J J J<|zE<|?_
  cases bb
  case true=>
   refine pm J<|sR<|sa J J<|zE<|di<|?_;exact DB (.tmp J .nil) _ _ (List.Perm.refl _) (List.Sublist.refl _) ⟨x,zs,_,J,J,hB.asB,hz'.imp fun _ _ h=>h.up⟩
  refine wl J<|zK<|sR<|sa J J<|zE<|di<|?_;exact DB (.tmp J .nil) _ _ (List.Perm.refl _) (List.Sublist.refl _) ⟨x,zs,_,J,J,hB.asB,hz'.imp fun _ _ h=>h.up⟩
 | .node l s u,A,A2,G,p,ob,wb,lo,lo2,x,zs,ns,B,h,hall,_,_,hB,hz,hle=>by
  obtain⟨hlb,hall1,hall2⟩:=id hall;haveI:LB l:=hlb;obtain⟨n,m,e,hg,hm⟩:=pH.1 (id h)
  cases e
  obtain⟨n1,d1,p1,n2,d2,p2,n3,d3,p3,q,r,rfl,hzl,hs,hu⟩:=aBr hm;have hG:yt A n _:=⟨hg⟩;have hxn:=hB.len;have hzn:=hz.len;simp only[Tr.size] at hle;obtain⟨xa,xn,xc⟩:=x;rw[aJ] at hxn;simp only[] at hxn;subst hxn;refine je.intro func60 J J ntmps60 J ?_;intro C _ _;show St C _ _ (⟨ob,[.int .i64 0, .slice xa zs.length xc],32,false⟩::⟨wb,[o5 ob wb],147,false⟩::asB B) _ _;replace hB:=hB.asB;generalize asB B=B at hB;refine sR<|sa J J<|zE<|bz<|sR<|sm J J<|?_;refine sc (zC J J (PF.fn0 vY (.cons (h.up GL.le) .nil)) J ?_);rintro _ G1 _ hv
  cases aH.1 hv
  refine zE<|wl J<|?_;refine zK<|sR<|sf J J<|qI J J J<|c8 J J<|sa J J<|zE<|bz<|?_;refine CI [⟨ob,[.int .i64 0, .slice xa zs.length xc],32,false⟩] (fun i=>Nat.beq i 11) [(0,true),(1,true),(2,true),(3,true),(4,true),(5,true),(6,false),(7,true),(8,false),(9,false),(10,true),(11,false)] follows (by kernel_rfl)<|?_;refine dF J J J<|te J J J J<|dM J J J<|dy J (fun _=>lw J) J J<|?_;refine dF J J J<|dy J (fun _=>Hx J KS J) J J<|?_;refine dc J J (zC J J (PF.fn0 (WW (l:=l)) (.cons (hzl.up GL.le) .nil)) J ?_);rintro _ G2 _ hv;obtain⟨ia,ib,ic,rfl,hia,hib,hic⟩:=aFc hlb.bl hv;refine nF<|dy J (fun _=>F7 J) J J<|?_;refine dc J J (Vx J (by rfl) (by rfl) (by decide) (by decide) J ?_);intro b3;refine nF<|?_;refine dc J J (XD (v:=ND.val ⟨ia,ib,ic,0,0⟩) (vs:=zs.map ND.val) [_,_,_] rfl hB J J (y7 inferInstance J) J (ND.flat [⟨ia,ib,ic,0,0⟩] _ aQ) (by decide) (by rw[aJ];omega) J J ?_);intro x1 B1 hB1;rw[show zs.map ND.val++[ND.val ⟨ia,ib,ic,0,0⟩]=(zs++[(⟨ia,ib,ic,0,0⟩:ND)]).map ND.val by simp] at hB1;show St C _ _ (⟨b3,_,_,true⟩::⟨ob,[.int .i64 0, .slice xa zs.length xc],32,false⟩::⟨wb,[o5 ob wb],147,false⟩::B1) _ _;refine nF<|dF J J J<|?_;refine dc J J (uw (cs':=[.int .i64 0, .slice x1.a x1.n x1.c]) J J J (.tl _ _ _ _ _ _ _ _ (.hd ..)) (nb J) J J ?_);refine aIX J<|dn<|?_;refine Qg _ (rL _ _) ?_;have hz1:gi (si 96 G2) (zs++[(⟨ia,ib,ic,0,0⟩:ND)]) (ns++[⟨l,0,0⟩]):=(hz.imp fun _ _ h=>h.up).app (.cons ⟨hia,hib,hic,J,J⟩ .nil);refine bz<|CI [⟨wb,[o5 ob wb],147,false⟩] (fun _=>false) [(0,true),(1,true),(2,true),(3,true),(4,true),(5,false),(6,true)] follows (by kernel_rfl)<|?_
  refine te J J J J<|dM J J J<|dy J (fun _=>lw J) J J<|dF J J J<|dy J (fun _=>AB J KS J) J J<|?_;refine dc J J (ID (c1:=[]) (M:=_::_::B1) (rest:=[]) J J (by rw[iU]) (KU (lo:=false) (lo2:=false) hs hall1 hB1 hz1 (by simp;omega)) J ?_);rintro _ _ G3 fl _ hf _ ⟨x2,zs2,B2,rfl,rfl,hB2,hz2⟩;have e1:fl ob=false:=hf _ aQ J;have e2:fl wb=false:=hf _ (aZ _ aQ) J;replace hB2:=hB2.relo fl;refine Ii (own':=⟨ob,[.int .i64 0, .slice x2.a x2.n x2.c],32,false⟩::⟨wb,[o5 ob wb],147,false⟩::B2.map (relo fl)) (by simp only[bL,relo,e1,e2,iU]) ?_;generalize B2.map (relo fl)=B2 at hB2;have hl2:=hz2.len;simp only[aR,Tr.wr_len,nU] at hl2;refine nF<|dA J J J<|dn<|bz<|CI [⟨wb,[o5 ob wb],147,false⟩] (fun _=>false) [(0,true),(1,true),(2,true),(3,true),(4,true),(5,false),(6,true)] follows (by kernel_rfl)<|?_;refine te J J J J<|dM J J J<|dy J (fun _=>lw J) J J<|dF J J J<|dy J (fun _=>AB J KS J) J J<|?_;refine dc J J (ID (c1:=[]) (M:=_::_::B2) (rest:=[]) J J (by rw[iU]) (KU (lo:=false) (lo2:=false) hu hall2 hB2 hz2 (by omega)) J ?_);rintro _ _ G4 fl _ hf _ ⟨x3,zs3,B3,rfl,rfl,hB3,hz3⟩;have e3:fl ob=false:=hf _ aQ J;have e4:fl wb=false:=hf _ (aZ _ aQ) J;replace hB3:=hB3.relo fl;refine Ii (own':=⟨ob,[.int .i64 0, .slice x3.a x3.n x3.c],32,false⟩::⟨wb,[o5 ob wb],147,false⟩::B3.map (relo fl)) (by simp only[bL,relo,e3,e4,iU]) ?_;generalize B3.map (relo fl)=B3 at hB3;have hl3:=hz3.len;simp only[aR,Tr.wr_len,nU] at hl3;have hn3:zs.length<zs3.length:=by omega
  rcases hB3 with⟨h1,_,_⟩|⟨nb,rest,lo3,hx3,rfl,hf1,hf2,hf3⟩
  ·have:=congrArg List.length h1;rw[aJ,gM] at this;omega
  obtain⟨x3a,x3n,x3c⟩:=x3;simp only[SV.mk.injEq] at hx3;obtain⟨rfl,rfl,_⟩:=hx3;rw[aJ] at hf3;have hzz:ns.length=zs.length:=hzn.symm;obtain⟨zn,hzn1,hzn2⟩:=hz3.get (i:=zs.length) (b:=⟨l,0,0⟩) (by rw[dX,dX,<-hzz,gX (bQ _),rS];rfl);obtain⟨_,hzn3⟩:=aS.1 hzn1;have hL1:(zs++[(⟨ia,ib,ic,0,0⟩:ND)]).length=zs.length+1:=by simp
  have hL2:zs2.length=zs.length+1+s.size:=by omega
  rw[hL1] at hz3;rw[hL1,hL2];rw[hL2] at hz3;refine nF<|dA J J J<|dn<|?_;refine bz<|CI [⟨ob,[.int .i64 0, .slice (some ⟨nb,0,none⟩) (zs3.map ND.val).length x3c],32,false⟩] (fun _=>false) [(0,true),(1,true),(2,true),(3,true),(4,true),(5,true),(6,true),(7,true),(8,true),(9,true),(10,false),(11,true),(12,true),(13,false)] follows (by kernel_rfl)<|?_;refine dF J J J<|te J J J J<|dM J J J<|dF J J J<|?_;refine te J J J J<|dM J J J<|dM J J J<|dM J J J<|dy J (fun _=>fq J J (by omega) (by rw[aJ];omega)) J J<|?_;refine dF J J J<|?_;refine dc J J (tM J J (.tl _ _ _ _ _ _ _ _ (.tl _ _ _ _ _ _ _ _ (.hd ..))) (by rw[aR,hf1,aJ,bZ];omega) J J ?_);rw[bZ,LG zs3 rest zs.length 6 _ {zn with l:=s.num (zs.length+1)} hn3 (by decide) (by rw[hzn3];rfl)];refine nF<|dy J (fun _=>fq J J (by omega) (by rw[aJ];omega)) J J<|dF J J J<|?_;refine dc J J (tM J J (.tl _ _ _ _ _ _ _ _ (.tl _ _ _ _ _ _ _ _ (.hd ..))) (by rw[aR,ew (s:=8) _ (ND.len8 _),aJ,aN,bZ];omega) J J ?_);rw[bZ,LG (zs3.set zs.length _) rest zs.length 7 _ {zn with l:=s.num (zs.length+1),r:=u.num (zs.length+1+s.size)} (by rw[aN];exact hn3) (by decide) (by rw[List.getElem_set_self];rfl)];refine nF<|dn<|sR<|sm J J<|sa J J<|zE<|di<|?_;have hfin:=hz3.set (a:={zn with l:=s.num (zs.length+1),r:=u.num (zs.length+1+s.size)}) (b:=⟨l,s.num (zs.length+1),u.num (zs.length+1+s.size)⟩) ⟨hzn2.a,hzn2.b,hzn2.c,J,J⟩ zs.length;have hns:(ns++[(⟨l,0,0⟩:NQ)]++s.wr (zs.length+1)++u.wr (zs.length+1+s.size)).set zs.length ⟨l,s.num (zs.length+1),u.num (zs.length+1+s.size)⟩=ns++(Tr.node l s u).wr zs.length:=by
   rw[dX,dX,nY _ _ (by omega),hzz,rS];simp[Tr.wr]
  rw[hns] at hfin;refine DB (.tmp J .nil) _ _ (List.Perm.refl _) (List.Sublist.refl _) ⟨⟨some ⟨nb,0,none⟩,(zs3.map ND.val).length,x3c⟩,_,_,J,J,?_,hfin⟩;refine .inr ⟨nb,rest,lo3,by simp,by rw[List.set_set],?_,?_,?_⟩
  ·rw[ew (s:=8) _ (ND.len8 _)]
  ·rw[ew (s:=8) _ (ND.len8 _),aJ,aN];rw[hf1,aJ] at hf2;exact hf2
  ·rw[aJ,aN];exact hf3
def Mp{t:Tr}(hb:t.all LB)(hs:t.size<=1000000):PF GB prog 26 [eU t] (eA t):=by
 intro G vs _ hv;obtain⟨v0,m,rfl,h,hm⟩:=aP.1 hv;rw[co] at hm;subst hm;obtain⟨p,rfl⟩:=sO h;refine Fn.intro func26 J J ntmps26 J ?_;intro C _ hC;refine sR<|?_;refine sc (vp J ?_);intro b1;refine zE<|sR<|?_;refine sc (vp J ?_);intro b2;refine zE<|sR<|?_;refine sc (vp J ?_);intro b3;refine zE<|sR<|sy (BB J J) J<|?_;refine sc (uw (cs':=[o5 b2 b3]) J J J (.hd ..) (nb J) J J ?_);refine zE<|sR<|qI J J J<|sm J J<|?_;refine sc (ID (c1:=[]) (M:=[⟨b2,[.int .i64 0, .slice none 0 0],32,true⟩,⟨b3,[o5 b2 b3],147,true⟩]) (rest:=[⟨b1,[.int .i64 0, .slice none 0 0],32,true⟩]) J J (List.Perm.swap ..) (KU (A:=G) (A2:=G) (x:=⟨none,0,0⟩) (zs:=[]) (ns:=[]) (B:=[]) h hb (iF.nil ..) .nil (by simpa using hs)) J ?_);rintro _ _ G4 fl _ _ hf ⟨x,zs,B,rfl,rfl,hB,hz⟩;have e1:=hf (by simp) b2;have e2:=hf (by simp) b3;replace hB:=hB.relo fl;refine Ii (own':=⟨b2,[.int .i64 0, .slice x.a x.n x.c],32,true⟩::⟨b3,[o5 b2 b3],147,true⟩::(B.map (relo fl)++[⟨b1,[.int .i64 0, .slice none 0 0],32,true⟩])) (by simp only[bL,relo,e1,e2,cR]) ?_;generalize B.map (relo fl)=B at hB;refine E3 (⟨b2,[.int .i64 0, .slice x.a x.n x.c],32,true⟩::⟨b3,[o5 b2 b3],147,true⟩::⟨b1,[.int .i64 0, .slice none 0 0],32,true⟩::B) ((lN (l₁:=B) (l₂:=[_])).cons _ |>.cons _) ?_;refine sf J J<|?_;refine sc (uw (cs':=[.int .i64 (t.num 0), .slice x.a x.n x.c]) J J J (.hd ..) (nb J) J J ?_);refine zE<|sR<|pI J J J<|?_;refine sc (CZ (cs':=[.int .i64 (t.num 0), .slice x.a x.n x.c]) J J J (.tl _ _ _ _ _ _ _ _ (.tl _ _ _ _ _ _ _ _ (.hd ..))) J (nb J) J J ?_)
 refine zE<|?_;refine Wl (L:=[_,_,_]) hC hB (ND.len8 _) ?_;intro G5 _ hsl;show St C _ _ [⟨b2,_,_,true⟩,⟨b3,_,_,true⟩,⟨b1,[.int .i64 (t.num 0), .slice x.a x.n x.c],32,true⟩] _ _;refine di<|?_;exact zD (.agg J ii ii J .nil) (aC9 (k:=96) ⟨zs,hsl,by rw[cY] at hz;exact hz.imp fun _ _ h=>h.up⟩)
def Tr.pre:Tr->List Tr
 | .leaf b=>[.leaf b]
 | .node l x y=> .node l x y::(x.pre++y.pre)
structure Vis (f:FuncId) (c2:List Value) (σ:Type) (step:σ->Tr->σ) (ok:σ->Tr->Prop) (Inv:σ->List ak->Gh->Prop):Prop where
 up: ∀{s B G G'},bD G G'->Inv s B G->Inv s B G'
 re: ∀{s B G} (fl:Nat->Bool),Inv s B G->Inv s (B.map (relo fl)) G
 go: ∀{s t p B G},ok s t->Inv s B G->Is G (eU t) (.pointer p)->je prog f (.pointer p::c2) B G (fun _ B' G'=>Inv (step s t) B' G')
section
variable {P:Program} {C:aD} {n:Nat} {fr:Fr} {own:List ak} {G:Gh}
end
def Oi{σ:Type}(step:σ->Tr->σ)(ok:σ->Tr->Prop):σ->List Tr->Prop
 |_,[]=>True
 |s,t::ts=>ok s t/\Oi step ok (step s t) ts
structure EX (σ:Type) where
 ts:List Tr
 vs:List Value
 rest:List Value
 b:Nat
 cap:Nat
 lo:Bool
 s:σ
 B:List ak
def U1(t:Tr):Nat:=2*t.size+1
def SA(ts:List Tr):List Tr:=ts.reverse.flatMap Tr.pre
structure EI (A:Gh) {σ:Type} (step:σ->Tr->σ) (ok:σ->Tr->Prop) (Inv:σ->List ak->Gh->Prop) (N:Nat) (fin:σ) (x:EX σ) (G:Gh):Prop where
 rel:gi (fun v t=> ∃p,v= .pointer p/\Is A (eU t) (.pointer p)) x.vs x.ts
 cap:x.vs.length+x.rest.length=x.cap
 inv:Inv x.s x.B G
 mu:(x.ts.map U1).sum<=N
 okf:Oi step ok x.s (SA x.ts)
 fin:(SA x.ts).foldl step x.s=fin
def szI(nbk:Nat)(s:Nat)(B:List ak)(_:Gh):Prop:= ∃lo,B=[⟨nbk,[.int .i64 s],3,lo⟩]
def szS(s:Nat):Tr->Nat
 | .leaf _=>s
 | .node .. =>s+1
def vN(n:Nat)(f:Nat->Bool):Nat:=((List.range n).filter fun j=>!f j).length
def WI{n k:Nat}{f:Nat->Bool}(hk:k<n)(hf:f k=false):vN n (lO f k)+1=vN n f:=by
 unfold vN;have key: ∀l:List Nat,l.Nodup->((l.filter fun j=>!lO f k j).length+(if k∈l then 1 else 0)=(l.filter fun j=>!f j).length):=fun l=>by
  induction l with
  |nil=>intro _;rfl
  |cons a l ih=>
   intro hn;obtain⟨h1,h2⟩:=List.nodup_cons.1 hn;have:=ih h2;by_cases e:a=k
   ·subst e
    simp only[nX,Sf,hf,aW,true_or,if_true] at this⊢;rw[if_neg h1] at this;simp at this⊢;omega
   ·have e': ¬k=a:=fun h=>e h.symm
    simp only[nX,CF e,aW,e',false_or] at this⊢
    cases f a<;>simp at this⊢ <;>omega
 have:=key (List.range n) List.nodup_range;rwa [if_pos (jY.2 hk)] at this
def tG(ns:List RN):Nat->Int->RS->Tr×RS
 |0,_,s=>(.leaf false,s)
 |m+1,rt,s=>
  if rt= -1 then(.leaf false,s) else if rt= -2 then(.leaf true,s) else
  match ns[rt.toNat]? with
  |none=>(.leaf false,⟨s.f,s.c,true⟩)
  |some n=>if rt<0\/s.f rt.toNat=true then(.leaf false,⟨s.f,s.c,true⟩) else
   match n.g.ln with
   |none=>(.leaf false,⟨lO s.f rt.toNat,s.c+1,true⟩)
   |some l=>let a:=tG ns m n.l ⟨lO s.f rt.toNat,s.c+1,s.b⟩;let b:=tG ns m n.r a.2;(.node l a.1 b.1,b.2)
def F2{ns:List RN}: ∀{m:Nat} {rt:Int} {s:RS},vN ns.length s.f<m->RR ns rt s (tG ns m rt s).1 (tG ns m rt s).2/\(tG ns m rt s).2.c+vN ns.length (tG ns m rt s).2.f=s.c+vN ns.length s.f
 |0,_,_,h=>absurd h (Nat.not_lt_zero _)
 |m+1,rt,s,h=>by
  rw[tG];split
  ·rename_i e;subst e;exact⟨.leaf false s,rfl⟩
  rename_i e1;split
  ·rename_i e;subst e;exact⟨.leaf true s,rfl⟩
  rename_i e2;split
  ·rename_i hn
   have:=List.getElem?_eq_none_iff.1 hn;exact⟨.bad rt s e1 e2 (by omega),J⟩
  rename_i n hn;have hlt:=(aS.1 hn).1;split
  ·rename_i hb
   refine⟨.bad rt s e1 e2 ?_,J⟩;rcases hb with hb|hb
   ·exact .inl hb
   ·by_cases h0:rt<0
    ·exact .inl h0
    ·exact .inr (.inr ⟨rt.toNat,by omega,hlt,hb⟩)
  rename_i hb;obtain⟨k,rfl⟩: ∃k:Nat,rt=k:=⟨rt.toNat,by omega⟩;rw[bZ] at hn hlt hb⊢;have hf:s.f k=false:=by
   cases hh:s.f k with
   |false=>rfl
   |true=>exact absurd (Or.inr hh) hb
  have hu:=WI hlt hf;split
  ·rename_i hl;exact⟨.line k n s hn hf hl,by simp only;omega⟩
  rename_i l hl;have h1:=F2 (ns:=ns) (m:=m) (rt:=n.l) (s:=⟨lO s.f k,s.c+1,s.b⟩) (by simp only;omega);have hc:=h1.1.mono;simp only at h1 hc;have h2:=F2 (ns:=ns) (m:=m) (rt:=n.r) (s:=(tG ns m n.l ⟨lO s.f k,s.c+1,s.b⟩).2) (by omega);exact⟨.node k n l s _ _ _ _ hn hf hl h1.1 h2.1,by have:=h1.2;have:=h2.2;dsimp only;omega⟩
def xj(ns:List RN)(rt:Int):Option Tr:=
 let r:=tG ns (ns.length+1) rt td
 if r.2.b=false/\r.2.c=ns.length then some r.1 else none
def YX:Option Tr->DV
 |some t=> .tp [eU t,vB true]
 |none=> .tp [.v (.pointer none),vB false]
def KL(n:Nat)(f:Nat->Bool):vN n f<=n:=by
 unfold vN;refine eY (sJ _ _) ?_;rw[oX];exact bQ _
def X6{ns:List RN}{rt:Int}(hs: ∀n∈ns,n.g.sm)(hn:ns.length<=65536):PF GB prog 40 [Ay rt ns] (YX (xj ns rt)):=by
 have h:=F2 (ns:=ns) (m:=ns.length+1) (rt:=rt) (s:=td) (by have:=KL ns.length td.f;omega);have hu:=KL ns.length td.f;have h0:td.c=0:=J;have h2:=aIP (GB:=GB) hs hn h.1 (by have:=h.2;omega);unfold C6 at h2;unfold xj;simp only;split
 ·rename_i e;rw[if_pos e] at h2;exact h2
 ·rename_i e;rw[if_neg e] at h2;exact h2
end Go.Sx
end
section
namespace Go.Sx
open Go Go.Proofs Go.RowKit Go.Extern.Stop Go.Stop Go.Extern
def aKo:TypeId->Sem Value:=fun t=>do Go.Extern.Rtype.noPackHeld "Comparable" t;pure (.bool (<-typeInfo t).comparable)
def Cc(a:Addr):DV:= .v (.iface 334 (.pointer (some a)))
end Go.Sx
end
section
namespace Go.Sx
open Go Go.Proofs Tryz
structure EG (GB:Gh) (ai al ae:Addr):Prop where
 ErrInvalid:GB 0=some [.iface 334 (.pointer (some ai))]
 ErrLimit:GB 1=some [.iface 334 (.pointer (some al))]
structure Tr.gd (t:Tr):Prop where
 lb:t.all LB
 ok:t.all ab.ok
def QP(op:Int)(a b:Tr):Option Tr:=if 1024<a.depth+b.depth then none else if 65536<(a.mergeQ op b []).size then none else some (a.mergeQ op b [])
def aKk(al:Addr):Option Tr->DV
 |some t=> .tp [eU t, .v .nilIface]
 |none=> .tp [.v (.pointer none),Cc al]
def OI(op:Int):Tr->List Tr->Option Tr
 |t,[]=>some t
 |t,u::us=>match QP op t u with
  |none=>none
  |some r=>OI op r us
def Xz{t:Tr}(h:t.gd)(c:aG):(t.restrict c).gd:=⟨t.restrict_all LB c h.lb,t.restrict_all ab.ok c h.ok⟩
def aGq{GB:Gh}{ns:List RN}{rt:Int}{t:Tr}(hs: ∀n∈ns,n.g.sm)(hn:ns.length<=65536)(h:xj ns rt=some t):PF GB prog 40 [Ay rt ns] (.tp [eU t,vB true]):=by
 have:=X6 (GB:=GB) (rt:=rt) hs hn;rw[h] at this;exact this
def Ia:DV:= .ag [vI 0, .sl []]
def aKf:Tr ⊕ Addr->DV
 | .inl t=> .tp [eA t, .v .nilIface]
 | .inr e=> .tp [Ia,Cc e]
def aJt(ai:Addr):Option Tr->Tr ⊕ Addr
 |some t=> .inl t.compl
 |none=> .inr ai
def Pa(al:Addr):Option Tr->Tr ⊕ Addr
 |some t=> .inl t
 |none=> .inr al
def aHR(ai al:Addr)(op:Int):Option Tr->Option Tr->Tr ⊕ Addr
 |some a,some b=>if 1<=op/\op<=4 then Pa al (QP op a b) else .inr ai
 |_,_=> .inr ai
abbrev sj:=Int×List RN
def sj.d(x:sj):DV:=Ay x.1 x.2
def sj.q(x:sj):Option Tr:=xj x.2 x.1
def U3:Option Tr->DV
 |some t=>eU t
 |none=> .v (.pointer none)
def Xx(op:Int)(ts:List sj):Bool:=decide (1<=op/\op<=4)&&ts.all fun x=>x.q.isSome
def aJL(ai al ae:Addr)(op:Int)(ts:List sj):Tr ⊕ Addr:=
 if Xx op ts then(match ts.filterMap sj.q with
  |[]=> .inr ae
  |a::us=>if 1024<a.depth then .inr al else Pa al (OI op (a.restrict []) us)) else .inr ai
def aJO(ts:List sj):List DV:=ts.map fun x=>U3 x.q
structure sj.ok (x:sj):Prop where
 s: ∀n∈x.2,n.g.sm
 n:x.2.length<=65536
end Go.Sx
end
