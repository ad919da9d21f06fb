import Derived.Test.YtliglnbeohlnnaaGreatDoorMq11
import Derived.WalkKit
import Derived.LaidEql
import Derived.Stop.Asserts
import Derived.RowKitTokens
set_option linter.all false
set_option maxHeartbeats 2000000
set_option maxRecDepth 100000
section
namespace Go.Sx
open Go Go.Proofs Tryz
variable {GB G:Gh}{α σ:Type}{m vcs c2 r2:List Value}{i k bv j n:Nat}{lo2 neg:Bool}{P:Program}{f:FuncId}{M:List aB}{K K':Value->List aB->Gh->Prop}{ds:List Nat}{x y u t:Tr}{p:Nat->Bool}{l1:aa}{op:Int}{C:aF}{fr:Fr}
def di(f:bB):DV:= .ag [vI (ew (f.l.a:Rat)),vI (et (f.l.a:Rat)),ez (f.l.a:Rat),vI (ew (f.l.b:Rat)),vI (et (f.l.b:Rat)),ez (f.l.b:Rat),vI (ew (f.l.c:Rat)),vI (et (f.l.c:Rat)),ez (f.l.c:Rat),vI (ew f.v.lo),vI (et f.v.lo),ez f.v.lo,vI (ew f.v.hi),vI (et f.v.hi),ez f.v.hi, .v (.bool f.v.nl), .v (.bool f.v.nh)]
structure uH (v:au):Prop where
 z:ik v
 lo:BQ v.lo 1200
 hi:BQ v.hi 1200
structure NH (s:bB):Prop where
 lb:LB s.l
 ok:s.l.ok
 v:uH s.v
abbrev d5 (c:av):Prop:= ∀s∈c,NH s
def nj(f:α->DV)(l:List α):(l.map f).length=l.length:=by simp
def uH.all:uH au.all:=⟨⟨fun _=>J,fun _=>J⟩,BQ.z1.mono oma,BQ.z1.mono oma⟩
def uH.cut{l m:aa}{v:au}[LB l][LB m](hn:l.Ne)(h:uH v):uH (l.cutV v m):=by
 by_cases h0:crossI l m=0
 .rw[(BT (v:=v) h0).1];exact h
 .obtain⟨u1,_,u3,u4,u5⟩:=Ll (v:=v) hn h.z h.lo h.hi h0
  rw[u1];exact⟨u3,u4,u5⟩
def HO(o:Option au):au:=o.getD ⟨0,0,false,false⟩
def aJi(G:Gh)(y:Value)(k:Is G (.tp [.ag [vI 0,vI 0, .v (.pointer none),vI 0,vI 0, .v (.pointer none), .v (.bool false), .v (.bool false)], .v (.bool false)]) y):Is G (.tp [eW (HO none),vB false]) y:=by
 obtain⟨m,rfl,g⟩:=mo.1 k;exact mo.2 ⟨m,J,Nd (fun y hy=>by
  obtain⟨l,rfl,g⟩:=eG.1 hy;exact eG.2 ⟨l,J,DT (I7 [vI 0,vI 0, .v (.pointer none)] g)⟩) g⟩
def ce{f:α->DV}{l:List α}{s:α}(h:l[i]? =some s):(l.map f)[(i:Int).toNat]? =some (f s):=by simp[h]
def yi{l:List α}{s:α}(h:l[k]? =some s):l.drop k=s::l.drop (k+1):=by
 obtain⟨h1,h2⟩:=aT.1 h;rw[bK h1,h2]
def Mt{l:aa}{c:av}{v:au}{s:bB}(h:c[k]? =some s):oh l (c.drop k) v=if l.cutB v s.l then oh l (c.drop (k+1)) (l.cutV v s.l) else none:=by
 rw[yi h];rfl
def Jo{l:aa}{c:av}{s:bB}(h:c[k]? =some s):o9 l (c.drop k)=if pf l s≠0 then pf l s else if s.l=l then 1 else o9 l (c.drop (k+1)):=by
 rw[yi h];rfl
instance BQ.sample (v:au) [h1:BQ v.lo 1200] [h2:BQ v.hi 1200]:BQ v.sample 2500:=by
 unfold au.sample;split
 .exact BQ.mono (k:=1) ⟨oma,oma⟩
 .split
  .exact BQ.mono (inferInstance:BQ (v.hi-((1:Int):Rat)) _)
  .split
   .exact BQ.mono (inferInstance:BQ (v.lo+((1:Int):Rat)) _)
   .exact BQ.mono (inferInstance:BQ ((v.lo+v.hi)*mkRat 1 2) _)
def L6{c:av}{l:aa}[hl:LB l](hlo:l.ok)(hc:d5 c)(hn:c.length<=1000000):PF GB prog 157 [.sl (c.map di),co l] (.tp [eW (HO (kv c l)),vB (kv c l).isSome]):=by
 have hm:=nj di c;refine fn func157 J J ntmps157 J J (fun C=>?_);refine cl (fu:=⟨10⟩) J aLj J<|aj 12 (.d (vI (c.length:Nat))) J (by rw[nj]<;>rfl)<|gx J<|lp (X:=au×Nat) (fun⟨v,k⟩=>[(13, .d (vI (k:Nat))),(6, .ov 6 0)]) (fun⟨v,k⟩=>[(6,some (.o 177 [.d (vI (ew v.lo)), .d (vI (et v.lo)), .d (ez v.lo), .d (vI (ew v.hi)), .d (vI (et v.hi)), .d (ez v.hi), .d (.v (.bool v.nl)), .d (.v (.bool v.nh))] true))]) (fun⟨v,k⟩=>k<=c.length/\uH v/\oh l (c.drop k) v=kv c l) (fun⟨v,k⟩=>c.length-k) (au.all,0) J ⟨aS _, .all,J⟩ (fun _=>J) (fun⟨v,k⟩ hk=>?_);dsimp only at hk⊢;obtain⟨h1,h2,h3⟩:=hk;haveI:=h2.lo;haveI:=h2.hi;refine br J J J (fun hc14=>?_) (fun hc14=>?_)
 .
  obtain⟨s,hs0⟩: ∃s,c[k]? =some s:=⟨_,aQ we⟩;have hs:=hc s (aK hs0);haveI:=hs.lb;refine ix _ J (ce hs0) J<|cl (fu:=⟨0⟩) J (Rd (l:=l) (m:=s.l) (v:=v)) J<|?_;generalize hw:l.cutV v s.l=w;generalize hb:l.cutB v s.l=b;refine gx J<|bb J J J (fun hc26=>?_) (fun hc26=>?_)
  .
   exact jP J (by rw[<-h3,Mt hs0,hb,if_neg ozp];exact aJi)
  .
   exact at_ (w,k+1) (by dsimp only;exact⟨⟨we,hw▸h2.cut hlo.1,by rw[<-h3,Mt hs0,hb,hw,if_pos ozp]⟩,we⟩)
 .
  exact rz J (by rw[<-h3,iW we];rfl)
def aFa{c:av}{l:aa}[hl:LB l](hlo:l.ok)(hc:d5 c)(hn:c.length<=1000000):PF GB prog 158 [.sl (c.map di),co l] (vI (w6 c l)):=by
 have hm:=nj di c;refine fn func158 J J ntmps158 J J (fun C=>?_);refine cl J (L6 (c:=c) (l:=l) hlo hc hn) J<|bb (fu2:=⟨7⟩) J J J (fun hc16=>?_) (fun hc16=>?_)
 .
  exact rz J (by unfold w6;rw[if_pos hc16];rfl)
 .
  have hp:w6 c l=o9 l c:=by unfold w6;rw[if_neg (by simp[hc16])]
  refine aj 18 (.d (vI (c.length:Nat))) J (by rw[nj]<;>rfl)<|gx J<|lp (X:=Nat) (fun k=>[(19, .d (vI (k:Nat)))]) (fun k=>[]) (fun k=>k<=c.length/\o9 l (c.drop k)=o9 l c) (fun k=>c.length-k) 0 J ⟨aS _,J⟩ (fun _=>J) (fun k hk=>?_);obtain⟨h1,h2⟩:=hk;refine br J J J (fun hc20=>?_) (fun hc20=>?_)
  .
   obtain⟨s,hs0⟩: ∃s,c[k]? =some s:=⟨_,aQ we⟩;have hs:=hc s (aK hs0);haveI:=hs.lb;haveI:=hs.v.lo;haveI:=hs.v.hi;haveI:=BQ.sample s.v;refine ix _ J (ce hs0) J<|cl (fu:=⟨0⟩) J (MW (v:=s.v)) J<|?_;generalize ht:s.v.sample=t at*;refine gx J<|cl J (QM (l:=s.l) (t:=t)) J<|cl J (aFR (l:=l) (p:=s.l.at t)) J<|br J J J (fun hc32=>?_) (fun hc32=>?_)
   .
    have hsd:pf l s=(l.value (s.l.at t)).num.sign:=by unfold pf;rw[ht]
    exact rz J (by rw[hp,<-h2,Jo hs0,hsd,if_pos hc32];rfl)
   .
    refine cl J (aB4 (l:=s.l) (m:=l)) J<|bd J J J (fun hc37=>?_) (fun hc37=>?_)
    .
     have hsd:pf l s=(l.value (s.l.at t)).num.sign:=by unfold pf;rw[ht]
     exact rz J (by rw[hp,<-h2,Jo hs0,hsd,if_neg hc32,if_pos hc37];rfl)
    .
     have hsd:pf l s=(l.value (s.l.at t)).num.sign:=by unfold pf;rw[ht]
     exact at_ (k+1) ⟨⟨we,by rw[<-h2,Jo hs0,hsd,if_neg hc32,if_neg hc37]⟩,we⟩
  .
   exact rz J (by rw[hp,<-h2,iW we];rfl)
def ao6{vs rest:List Value}(h: ∀v∈vs,(aG v).length=17)(hi:i<=vs.length):cw (aH vs++rest) (i*17) ((vs.length-i)*17)=some (aH (vs.drop i)):=by
 have hl:=fp vs h;have hd:(aH (vs.drop i)).length=(vs.length-i)*17:=by
  rw[fp (s:=17) _ (fun v hv=>h v (gS hv)),gW]
 rw[ld _ _ _ okW];congr 1;rw[lS we,Ea vs i h hi,gJ we,bS we]
def atX{vs rest:List Value}(h: ∀v∈vs,(aG v).length=17)(hv:vcs.length=17)(hi:i<vs.length)(hr:17<=rest.length):
  cH (cH (aH vs++rest) ((i+1)*17) (aH (vs.drop i))) (i*17) vcs=aH (vs.take i)++vcs++aH (vs.drop i)++rest.drop 17:=by
 have hl:=fp vs h;have hd:(aH (vs.drop i)).length=(vs.length-i)*17:=by
  rw[fp (s:=17) _ (fun v hv=>h v (gS hv)),gW]
 have ht:(aH (vs.take i)).length=i*17:=by
  rw[fp (s:=17) _ (fun v hv=>h v (fW hv)),bT,kW we]
 rw[rE (aH (vs.drop i)) (aH vs++rest) _ okD];rw[rE vcs _ _ (by simp only[aY,bT,gW];omega)];have e1:(aH vs++rest).drop ((i+1)*17+(aH (vs.drop i)).length)=rest.drop 17:=by
  rw[hd,show(i+1)*17+(vs.length-i)*17=(aH vs).length+17 by omega,nT,jW we,kV];congr 1;omega
 have e2:((aH vs++rest).take ((i+1)*17)++aH (vs.drop i)++rest.drop 17).take (i*17)=aH (vs.take i):=by
  rw[dV,gJ (by simp only[bT,aY];omega),List.take_take,kW we,gJ we,Li vs i h we]
 have e3:((aH vs++rest).take ((i+1)*17)++aH (vs.drop i)++rest.drop 17).drop (i*17+vcs.length)=aH (vs.drop i)++rest.drop 17:=by
  rw[hv,dV,show i*17+17=((aH vs++rest).take ((i+1)*17)).length by simp only[bT,aY];omega,List.drop_left]
 rw[e1,e2,e3];simp[dV]
def V1{vs rest:List Value}(h: ∀v∈vs,(aG v).length=17)(hv:vcs.length=17)(hr:17<=rest.length):cH (aH vs++rest) (vs.length*17) vcs=aH vs++vcs++rest.drop 17:=by
 have hl:=fp vs h;rw[rE _ _ _ okW,hv,<-hl,List.take_left,nT];simp
def Z4{b cap c2:Nat}{vs rest:List Value}{lo:Bool}(hvs: ∀v∈vs,(aG v).length=17)(hfl: ∀v∈vs,∀c∈aG v,flat c=true)(hv:vcs.length=17)(hvf: ∀c∈vcs,flat c=true)
  (hcap:vs.length*17+rest.length=cap*17)(hroom:vs.length+1<=cap)(hi:i<=vs.length)(hb:vs.length<=1125899906842624):
  kG prog 164 [.slice (some ⟨b,0,none⟩) vs.length cap, .int .i64 i, .slice (some ⟨bv,0,none⟩) 1 c2] [⟨b,aH vs++rest,179,lo⟩,⟨bv,vcs++r2,179,lo2⟩] G
   (fun u css _=>u= .slice (some ⟨b,0,none⟩) (vs.length+1) cap/\css=[aH (vs.take i)++vcs++aH (vs.drop i)++rest.drop 17,vcs++r2]):=by
 have hL:(aH vs++rest).length=cap*17:=by rw[aY,fp vs hvs];exact hcap
 have hr:17<=rest.length:=by omega
 have hD:(aH (vs.drop i)).length=(vs.length-i)*17:=by
  rw[fp (s:=17) _ (fun v hv=>hvs v (gS hv)),gW]
 have hDf: ∀c∈aH (vs.drop i),flat c=true:=fun c hc=>by
  obtain⟨l,hl,hcl⟩:=List.mem_flatten.1 hc;obtain⟨v,hv,rfl⟩:=aU.1 hl;exact hfl v (gS hv) c hcl
 have hvt:cw (vcs++r2) 0 (1*17)=some vcs:=by rw[ld _ _ _ okD,iZ,gJ we,bS we]
 refine kG.intro func164 J J ntmps164 J ?_;intro C _ _;show St C _ _ [⟨b,aH vs++rest,179,false⟩,⟨bv,vcs++r2,179,false⟩] _ _;refine X8 (fun hne=>?_);simp only[] at hne;refine sR<|sa J J<|zE<|sR<|sm J J<|sm J J<|sy (K0 J J) J<|zE<|sR<|?_;refine sm J J<|uC J J<|sa J J<|zE<|fy<|sR<|sm J J<|sy (mH J J) J<|zE<|tq J<|?_;refine zK<|sR<|sm J J<|uC J J<|sa J J<|zE<|fy<|sR<|sm J J<|sm J J<|sy (mH J J) J<|zE<|?_;refine vZ J (fun hc=>?_) (fun hc=>?_) -- slot 22
 .have hin:i=vs.length:=by omega
  subst hin;refine sR<|sm J J<|sm J J<|?_;refine sc (PO (s:=17) (m:=1) (ys:=vcs) J J (.hd ..) hL (zN inferInstance hvt) we hvf hroom J ?_);refine sa J J<|zE<|me<|?_;refine u6 (css:=[cH (aH vs++rest) (vs.length*17) vcs,vcs++r2]) (.tmp J .nil) J _ (List.Perm.refl _) (List.Sublist.refl _) ⟨J,?_⟩;rw[V1 hvs hv hr,dQ,gT];simp[aH]
 have hin:i<vs.length:=by omega
 have hn1:((vs.length:Int)+((1:Nat):Int)).toNat=vs.length+1:=by omega
 have ht1:((i:Int)+((1:Nat):Int)).toNat=i+1:=by omega
 refine zK<|fy<|sR<|sm J J<|sm J J<|sy (xG J J) J<|sm J J<|?_;refine sy (YL J) J<|sy (AQ J J) J<|zE<|?_;refine vZ J (fun hc2=>?_) (fun hc2=>?_) -- slot 31
 .exact absurd hc2 we
 refine zK<|sR<|sm J J<|sm J J<|sm J J<|sy (xG J J) J<|sy (Eo J J) J<|?_;rw[hn1];refine sa J J<|zE<|fy<|sR<|sm J J<|sm J J<|sm J J<|sm J J<|sy (xG J J) J<|sy (C5 J J) J<|?_;refine sy (Vo (tS:=111) (tR:=4) func226 omd omd omd omd J J (Ne.symm hne) (fun h=>by rw[h] at hL;simp at hL;omega)) J<|?_;refine sy (uh J) J<|zE<|uc J<|?_;refine fy<|dr0 (b:=b) (fun _=>false) [(0,true),(1,true),(2,true),(3,true),(4,true),(5,true),(6,true),(7,true),(8,false)] follows (.hd ..) omd<|dM J J J<|?_;refine dM J J J<|dM J J J<|dy J (fun _=>xG J J we we) J J<|dy J (fun _=>C5 J J) J J<|?_;refine dM J J J<|dM J J J<|dy J (fun _=>C5 J J) J J<|?_;rw[ht1,cK,eM,eM];refine dc J J (T7 (s:=17) (m:=vs.length-i) (ys:=aH (vs.drop i)) J J (by show min _ _=_;omega) (zN inferInstance (ao6 hvs hi)) hDf (by rw[hD,hL];omega) (.hd ..) J ?_);refine mr<|dn<|sR<|sm J J<|sm J J<|sy (C5 J J) J<|sm J J<|?_;rw[cK,eM];refine sc (T7 (s:=17) (m:=1) (ys:=vcs) J J (by show min _ _=_;omega) (zN inferInstance hvt) hvf (by rw[BC,hL,hv];omega) (.hd ..) J ?_);refine zE<|sR<|sm J J<|sa J J<|zE<|me<|?_;refine u6 (css:=[cH (cH (aH vs++rest) ((i+1)*17) (aH (vs.drop i))) (i*17) vcs,vcs++r2]) (.tmp J .nil) J _ (List.Perm.refl _) (List.Sublist.refl _) ⟨J,?_⟩;rw[atX hvs hv hin hr]
def kG.toO{vs:List Value}{K:Value->List (List Value)->Gh->Prop}(h:kG P f vs M G K)(hk: ∀v css G',bI G G'->css.length=M.length->K v css G'-> ∃o,o.Sublist (li (asB M) css)/\K' v o G'):iu P f vs M G K':=
 ⟨h.able,fun w hw=>(h.run w hw).mono fun _ _ ⟨v,css,G',he,hl,hh,hK⟩=>let⟨o,h1,h2⟩:=hk v css G' hh.gle hl hK;⟨v,o,G',he,hh.drop h1,h2⟩⟩
def U1(c:av):cI 17 (c.map di):=fun d hd=>by
 obtain⟨f,_,rfl⟩:=aU.1 hd;exact⟨rfl,rfl⟩
def TP{s:Nat}{ds:List DV}{vs:List Value}(hk:cI s ds)(h:IsLs G ds vs): ∀v∈vs,∀c∈aG v,flat c=true:=fun v hv=>by
 obtain⟨d,hd,h3⟩:=h.all v hv;exact(h3.cells (hk d hd).1).2
def Vc{c:av}{x:bB}{cap:Nat}(hi:i<=c.length)(hc:c.length+1<=cap)(hn:c.length<=1000000):PI GB prog 164 (i:Nat) 17 179 179 (c.map di) (di x) cap ((c.take i++x::c.drop i).map di):=by
 intro G w w2 B B2 _ hB hcap hB2;obtain⟨vs,q1,q2,q3,_⟩:=hB;obtain⟨us,u1,u2,u3,_⟩:=hB2;dsimp only at q1 q2 q3 u1 u2 u3;have hl:=q2.len;rw[aX] at hl;obtain⟨v,m,rfl,hv,hm⟩:=bh.1 u2
 cases dm.1 hm
 rcases q1 with⟨_,e,_⟩|⟨b,rest,lo,e,rfl,h5,h6,h7⟩
 .rw[e] at hcap;simp at hcap;omega
 rcases u1 with⟨h,_⟩|⟨bv,r2,lo2,e2,rfl,h8,h9,h10⟩
 .cases h
 have hx:(aG v).length=17:=u3 v aZ;have hxf:=TP (s:=17) (ds:=[di x]) (fun d hd=>by rw[aR.1 hd];exact⟨J,J⟩) u2 v aZ;have key:=Z4 (G:=G) (b:=b) (bv:=bv) (cap:=w.c) (i:=i) (c2:=w2.c) (vs:=vs) (rest:=rest) (vcs:=aG v) (r2:=r2) (lo:=lo) (lo2:=lo2) q3 (TP (U1 c) q2) hx hxf (by rw[<-h5];exact h6) we we we;rw[e,e2];rw[xv];refine key.toO fun u css G' hg hl2 ⟨k1,k2⟩=>?_;subst k1 k2;have hall: ∀u∈vs.take i++v::vs.drop i,(aG u).length=17:=fun u hu=>by
  rcases bX.1 hu with hu|hu
  .exact q3 u (fW hu)
  .rcases aW.1 hu with rfl|hu
   .exact hx
   .exact q3 u (gS hu)
 have hlen:(vs.take i++v::vs.drop i).length=vs.length+1:=by
  rw[aY,bZ,bT,gW];omega
 refine⟨[⟨b,aH (vs.take i)++aG v++aH (vs.drop i)++rest.drop 17,179,false⟩], .cons_cons _ (jV _),⟨some ⟨b,0,none⟩,vs.length+1,w.c⟩,J,vs.take i++v::vs.drop i, .inr ⟨b,rest.drop 17,false,by rw[hlen],?_,fp _ hall,?_,?_⟩,?_,hall,fun h=>by cases h⟩
 .rw[oE];simp[aH]
 .rw[fp _ hall,hlen,gW]
  rw[h5] at h6;have:=bR 17 (show vs.length+1<=w.c by omega);simp only[dY] at this⊢;omega
 .rw[hlen];show vs.length+1<=w.c;omega
 .rw[aM,bV,fN,gL]
  exact((q2.take i).up hg).app (.cons (hv.up hg) ((q2.drop i).up hg))
def Px{s:bB}{l:aa}[hs:LB s.l][hl:LB l]:PF GB prog 161 [di s,co l] (vI (gm s.l.dir l.dir)):=by
 refine fn func161 J J ntmps161 J J (fun C=>?_);refine cl J (xh (l:=s.l)) J<|cl J (xh (l:=l)) J<|cl J (VK (u:=s.l.dir) (v:=l.dir)) J<|rz J J
def A8(c:av)(l:aa)(i:Nat):Bool:=match c[i]? with
 |some s=>decide (gm s.l.dir l.dir=0)
 |none=>false
def aBR(i j:Nat):((i:Int)+(j:Int)).fdiv (2^min (1:Int).toNat IntKind.u64.bits)=((i+j)/2:Nat):=by
 rw[show(2:Int)^min (1:Int).toNat IntKind.u64.bits=((2:Nat):Int) from J,lX _ oma];omega
def aEL{c:av}{l:aa}{s:bB}(h:c[k]? =some s):jf c l k=decide (gm s.l.dir l.dir<0):=by unfold jf;rw[h]
def aLE{c:av}{l:aa}{s:bB}(h:c[k]? =some s):A8 c l k=decide (gm s.l.dir l.dir=0):=by unfold A8;rw[h]
def aLX{c:av}{l:aa}(h: ¬k<c.length):A8 c l k=false:=by unfold A8;rw[dT we]
def aMg(h:i<j)(hp:p ((i+j)/2)=true):gg p i j=gg p ((i+j)/2+1) j:=by rw[gg,dif_pos h,if_pos hp]
def VS(h:i<j)(hp: ¬p ((i+j)/2)=true):gg p i j=gg p i ((i+j)/2):=by rw[gg,dif_pos h,if_neg hp]
def Nf(h: ¬i<j:=by omega):gg p i j=i:=by rw[gg,dif_neg h]
theorem omn{p:Prop}(h:p:=by rw[hm]<;>rfl):p:=h
def aMr{c:av}{l:aa}[hl:LB l](hc:d5 c)(hn:c.length<=1000000):PF GB prog 160 [.sl (c.map di),co l, .v (.func (.func 161) #[] #[])] (.tp [vI (gg (jf c l) 0 c.length:Nat),vB (A8 c l (gg (jf c l) 0 c.length))]):=by
 have hm:=nj di c;refine fn (fu:=⟨11⟩) func160 J J ntmps160 J J (fun C=>?_);refine aj 13 (.d (vI (c.length:Nat))) J omn<|gx J<|lp (X:=Nat×Nat) (fun⟨i,j⟩=>[(9, .d (vI (i:Nat))),(10, .d (vI (j:Nat)))]) (fun⟨i,j⟩=>[]) (fun⟨i,j⟩=>i<=j/\j<=c.length/\gg (jf c l) i j=gg (jf c l) 0 c.length) (fun⟨i,j⟩=>j-i) (0,c.length) J ⟨aS _,bJ _,J⟩ (fun _=>J) (fun⟨i,j⟩ hk=>?_);dsimp only at hk⊢;obtain⟨h1,h2,h3⟩:=hk;refine br (fu1:=⟨10⟩) (fu2:=⟨11⟩) J J J (fun hc17=>?_) (fun hc17=>?_)
 .
  obtain⟨s,hs0⟩: ∃s,c[(i+j)/2]? =some s:=⟨_,aQ we⟩;haveI:=(hc s (aK hs0)).lb;have hang:=aEL (l:=l) hs0;refine aj 22 (.d (.v (.int .u64 ((i+j)/2:Nat)))) J (by rw[aBR])<|gx J<|ix _ J (ce hs0) J<|cl J (Px (s:=s) (l:=l)) J<|br J J J (fun hc31=>?_) (fun hc31=>?_)
  .
   exact at_ ((i+j)/2+1,j) (by dsimp only;exact⟨⟨we,h2,by rw[<-h3,aMg (i:=i) (j:=j) we (by rw[hang];exact decide_eq_true hc31)]⟩,we⟩)
  .
   exact at_ (i,(i+j)/2) (by dsimp only;exact⟨⟨we,we,by rw[<-h3,VS (i:=i) (j:=j) we (by rw[hang,decide_eq_false hc31];exact Bool.false_ne_true)]⟩,we⟩)
 .
  refine gF (v2:=fun hg39=>by simp only[ak];kernel_rfl) J J J J (fun hg39=>?_) (fun hg39=>?_)
  .
   have he:=Nf (p:=jf c l) (i:=i) (j:=j);obtain⟨s,hs0⟩: ∃s,c[i]? =some s:=⟨_,aQ we⟩;haveI:=(hc s (aK hs0)).lb;refine ix _ J (ce hs0) J<|cl J (Px (s:=s) (l:=l)) J<|rz J (by rw[<-h3,he,aLE hs0];rfl)
  .
   have he:=Nf (p:=jf c l) (i:=i) (j:=j);exact rz J (by rw[<-h3,he,aLX we];rfl)
def Sc{l:aa}[LB l](hlo:l.ok): ∀{c:av} {v w:au},d5 c->uH v->oh l c v=some w->uH w
 |[],v,w,_,hv,h=>by cases h;exact hv
 |s::t,v,w,hc,hv,h=>by
  haveI:=(hc s aZ).lb;simp only[oh] at h;split at h
  .exact Sc hlo (fun x hx=>hc x (aJ _ hx)) (hv.cut hlo.1) h
  .cases h
def Ct{l:aa}[LB l]: ∀{c:av},d5 c->d5 (eu l c)
 |[],_,s,h=>by cases h
 |a::t,hc,s,h=>by
  have ha:=hc a aZ;haveI:=ha.lb;have ht:=Ct (l:=l) (fun x hx=>hc x (aJ _ hx));unfold eu at h;split at h
  .rcases aW.1 h with rfl|h
   .exact⟨ha.lb,ha.ok,ha.v.cut ha.ok.1⟩
   .exact ht s h
  .exact ht s h
def qC{l:aa}[hl:LB l](hlo:l.ok){c:av}(hc:d5 c):d5 (bE c l):=by
 unfold bE;split
 .rename_i v hv
  intro s hs;unfold ma at hs;rcases bX.1 hs with h|h
  .exact Ct hc s (fW h)
  .rcases aW.1 h with rfl|h
   .exact⟨hl,hlo,Sc hlo hc .all hv⟩
   .exact Ct hc s (gS h)
 .exact hc
def NN{l:aa}{c:av}{s:bB}(h:c[k]? =some s):eu l (c.drop k)=if s.l.cutB s.v l then⟨s.l,s.l.cutV s.v l⟩::eu l (c.drop (k+1)) else eu l (c.drop (k+1)):=by
 rw[yi h];rfl
theorem omJ{p:Prop}(h:p:=by rw[aM];rfl):p:=h
def HQ{c:av}{l:aa}[hl:LB l](hlo:l.ok)(hc:d5 c)(hn:c.length<=100000):PF GB prog 90 [.sl (c.map di),co l] (.tp [.sl ((bE c l).map di),vB (cx c l)]):=by
 have hm:=nj di c;refine fn func90 J J ntmps90 J J (fun C=>?_);refine cl J (L6 (c:=c) (l:=l) hlo hc we) J<|bb (fu2:=⟨6⟩) J J J (fun hc22=>?_) (fun hc22=>?_)
 .
  have hp:kv c l=none:=by simpa using hc22
  refine cl J (aFa (c:=c) (l:=l) hlo hc we) J<|rz J (by unfold bE cx;rw[hp];rfl)
 .
  obtain⟨v,hv⟩: ∃v,kv c l=some v:=qM.1 (by simpa using hc22);have hvd:HO (kv c l)=v:=by rw[hv];rfl
  rw[hvd];refine aj 29 (.d (vI (c.length:Nat))) J omn<|gx J<|mkc (fu:=⟨8⟩) (c.length+1) J J J<|aj 33 (.d (vI (c.length:Nat))) J omn<|gx J<|lp (X:=av×Nat) (fun⟨o,k⟩=>[(34, .d (vI (k:Nat))),(8, .rw 31)]) (fun⟨o,k⟩=>[(31,some (.c 179 17 (o.map di) (c.length+1)))]) (fun⟨o,k⟩=>k<=c.length/\o.length<=k/\o++eu l (c.drop k)=eu l c) (fun⟨o,k⟩=>c.length-k) ([],0) J ⟨aS _,bJ _,J⟩ (fun _=>J) (fun⟨o,k⟩ hk=>?_);dsimp only at hk⊢;obtain⟨h1,h2,h3⟩:=hk;have hmo:=nj di o;refine br J J J (fun hc35=>?_) (fun hc35=>?_)
  .
   obtain⟨s,hs0⟩: ∃s,c[k]? =some s:=⟨_,aQ we⟩;have hs:=hc s (aK hs0);haveI:=hs.lb;haveI:=hs.v.lo;haveI:=hs.v.hi;refine ix _ J (ce hs0) J<|cl (fu:=⟨0⟩) J (Rd (l:=s.l) (m:=l) (v:=s.v)) J<|?_;generalize hw:s.l.cutV s.v l=w;generalize hb:s.l.cutB s.v l=b;refine gx J<|bb J J J (fun hc47=>?_) (fun hc47=>?_)
   .
    refine rf J J<|apc ((o++[bB.mk s.l w]).map di) J omJ (U1 [bB.mk s.l w]) (by rw[hmo];simp;omega) J<|d8 54 31 J<|at_ (o++[bB.mk s.l w],k+1) (by dsimp only;exact⟨⟨we,by simp;omega,by rw[<-h3,NN hs0,hb,if_pos hc47,hw,dV];rfl⟩,we⟩)
   .
    exact at_ (o,k+1) (by dsimp only;exact⟨⟨we,we,by rw[<-h3,NN hs0,hb,if_neg (by simp[hc47])]⟩,we⟩)
  .
   obtain rfl:k=c.length:=by omega
   have ho:o=eu l c:=by rw[<-h3,gT];simp[eu]
   subst ho;have hbl:=(DC (jf (eu l c) l) (eu l c).length 0 (eu l c).length we we).2;refine cL J (aMr (c:=eu l c) (l:=l) (Ct hc) we) J J<|ro J J<|ci ((ma (eu l c) l v).map di) J (Vc (c:=eu l c) (x:=⟨l,v⟩) (i:=gg (jf (eu l c) l) 0 (eu l c).length) (cap:=c.length+1) hbl we we) J J<|gD 68 J<|rz J (by unfold bE cx;rw[hv];rfl)
def HM{c:av}{l:aa}[hl:LB l](hlo:l.ok)(hc:d5 c)(hn:c.length<=100000:=by omega):PF GB prog 202 [.sl (c.map di),co l] (.tp [.sl ((bE c l).map di), .sl ((bE c l.rev).map di),vB (cx c l),vB (cx c l.rev)]):=by
 refine fn func202 J J ntmps202 J J (fun C=>?_);refine cl J (HQ (c:=c) (l:=l) hlo hc hn) J<|cl J (WF (l:=l)) J<|cl J (HQ (c:=c) (l:=l.rev) hlo.rev hc hn) J<|rz J J
def cU:Tr->List DV
 | .leaf b=>[vI 0,vI 0, .v (.pointer none),vI 0,vI 0, .v (.pointer none),vI 0,vI 0, .v (.pointer none), .v (.pointer none), .v (.pointer none), .v (.bool b)]
 | .node l x y=>[vI (ew (l.a:Rat)),vI (et (l.a:Rat)),ez (l.a:Rat),vI (ew (l.b:Rat)),vI (et (l.b:Rat)),ez (l.b:Rat),vI (ew (l.c:Rat)),vI (et (l.c:Rat)),ez (l.c:Rat), .pt (cU x), .pt (cU y), .v (.bool false)]
def eU(t:Tr):DV:= .pt (cU t)
def rg{b:Bool}:PF GB prog 81 [.v (.bool b)] (eU (.leaf b)):=by
 refine fn func81 J J ntmps81 J J (fun C=>?_);refine gD 5 J<|rz J J
def yq{l:aa}:PF GB prog 137 [co l,eU x,eU y] (eU (.node l x y)):=by
 refine fn func137 J J ntmps137 J J (fun C=>?_);refine gD 11 J<|rz J J
def qD{b:Bool}:PF GB prog 134 [eU (.leaf b)] (.v (.bool true)):=by
 refine fn func134 J J ntmps134 J J (fun C=>?_);exact rz J J
def ti{l:aa}:PF GB prog 134 [eU (.node l x y)] (.v (.bool false)):=by
 refine fn func134 J J ntmps134 J J (fun C=>?_);exact rz J J
def Xq{l:aa}:PF GB prog 203 [co l,eU (.node l1 x y),eU u] (eU (.node l (.node l1 x y) u)):=by
 refine fn func203 J J ntmps203 J J (fun C=>?_);refine cl (fu:=⟨0⟩) J ti J<|bO J J J<|cl J yq J<|rz J J
def X5{l:aa}{p:Bool}:PF GB prog 203 [co l,eU (.leaf p),eU (.node l1 x y)] (eU (.node l (.leaf p) (.node l1 x y))):=by
 refine fn func203 J J ntmps203 J J (fun C=>?_);refine cl (fu:=⟨0⟩) J qD J<|cF J J J<|cl (fu:=⟨1⟩) J ti J<|bO J J J<|cl J yq J<|rz J J
def awG{l:aa}{p q:Bool}:PF GB prog 203 [co l,eU (.leaf p),eU (.leaf q)] (eU (Tr.joinQ l (.leaf p) (.leaf q))):=by
 refine fn func203 J J ntmps203 J J (fun C=>?_);refine cl (fu:=⟨0⟩) J qD J<|cF J J J<|cl (fu:=⟨1⟩) J qD J<|cF J J J<|bb J J J (fun hc23=>?_) (fun hc23=>?_)
 .
  exact rz J (by rw[show Tr.joinQ l (.leaf p) (.leaf q)= .leaf p by simp[Tr.joinQ,Tr.isLeaf,Tr.code,hc23]];rfl)
 .
  refine cl J yq J<|rz J (by rw[show Tr.joinQ l (.leaf p) (.leaf q)= .node l (.leaf p) (.leaf q) by simp[Tr.joinQ,Tr.isLeaf,Tr.code,hc23]];rfl)
def SY{l:aa}: ∀{x y:Tr},PF GB prog 203 [co l,eU x,eU y] (eU (Tr.joinQ l x y))
 | .leaf _, .leaf _=>awG
 | .leaf _, .node .. =>X5
 | .node ..,_=>Xq
def aoO{b:Bool}:PF GB prog 76 [eU (.leaf b)] (vI (Tr.depth (.leaf b):Nat)):=by
 refine fn func76 J J ntmps76 J J (fun C=>?_);refine cl (fu:=⟨0⟩) J qD J<|fD 4 J<|gx J<|rz J J
def ao2{l:aa}(hd:(Tr.node l x y).depth<=1000000)(ihx:PF GB prog 76 [eU x] (vI (Tr.depth x:Nat)))(ihy:PF GB prog 76 [eU y] (vI (Tr.depth y:Nat))):PF GB prog 76 [eU (.node l x y)] (vI (Tr.depth (.node l x y):Nat)):=by
 have hdp:(Tr.node l x y).depth=1+max x.depth y.depth:=J;have hdx:=rK x.depth y.depth;have hdy:=qV x.depth y.depth;refine fn func76 J J ntmps76 J J (fun C=>?_);refine cl (fu:=⟨0⟩) J ti J<|iG 4 J<|gx J<|cl J ihx J<|cl (hv:=by simp only[ak];exact⟨we,omd⟩) J ihy J<|rz J (by show DV.v (.int _ _)= .v (.int _ _);congr 2;split<;>omega)
def yB: ∀{t:Tr},t.depth<=1000000->PF GB prog 76 [eU t] (vI (Tr.depth t:Nat))
 | .leaf _,_=>aoO
 | .node l x y,h=>ao2 h (yB (by have:=rK x.depth y.depth;have:(Tr.node l x y).depth=1+max x.depth y.depth:=J;omega)) (yB (by have:=qV x.depth y.depth;have:(Tr.node l x y).depth=1+max x.depth y.depth:=J;omega))
def VV{b:Bool}{c:av}:PF GB prog 135 [eU (.leaf b), .sl (c.map di)] (eU (Tr.restrict (.leaf b) c)):=by
 refine fn func135 J J ntmps135 J J (fun C=>?_);refine cl (fu:=⟨0⟩) J qD J<|fD 10 J<|gx J<|rz J J
def Z5{l:aa}{c:av}(hl:LB l)(hlo:l.ok)(hc:d5 c)(hn:c.length+(Tr.node l x y).depth<=100000)(ihx: ∀{c:av},d5 c->c.length+x.depth<=100000->PF GB prog 135 [eU x, .sl (c.map di)] (eU (Tr.restrict x c)))(ihy: ∀{c:av},d5 c->c.length+y.depth<=100000->PF GB prog 135 [eU y, .sl (c.map di)] (eU (Tr.restrict y c))):PF GB prog 135 [eU (.node l x y), .sl (c.map di)] (eU (Tr.restrict (.node l x y) c)):=by
 have hdp:(Tr.node l x y).depth=1+max x.depth y.depth:=J;have hdx:=rK x.depth y.depth;have hdy:=qV x.depth y.depth;have hca:=sh c l;have hcb:=sh c l.rev;refine fn func135 J J ntmps135 J J (fun C=>?_);refine cl (fu:=⟨0⟩) J ti J<|iG 10 J<|gx J<|cl J (HM (c:=c) (l:=l) hlo hc) J<|bb J J J (fun hc23=>?_) (fun hc23=>?_)
 .
  refine cl J (ihx hc we) J<|rz J (by rw[Tr.restrict,if_pos hc23];rfl)
 .
  refine bb J J J (fun hc32=>?_) (fun hc32=>?_)
  .
   refine cl J (ihy hc we) J<|rz J (by rw[Tr.restrict,if_neg (by simp[hc23]),if_pos hc32];rfl)
  .
   refine cl J (ihx (c:=bE c l) (qC hlo hc) we) J<|cl J (ihy (c:=bE c l.rev) (qC hlo.rev hc) we) J<|cl J SY J<|rz J (by rw[Tr.restrict,if_neg (by simp[hc23]),if_neg (by simp[hc32])];rfl)
def oC: ∀{t:Tr} {c:av},t.all LB->t.all aa.ok->d5 c->c.length+t.depth<=100000->PF GB prog 135 [eU t, .sl (c.map di)] (eU (Tr.restrict t c))
 | .leaf _,_,_,_,_,_=>VV
 | .node l x y,c,hb,ho,hc,hn=>Z5 hb.1 ho.1 hc hn (fun h1 h2=>oC hb.2.1 ho.2.1 h1 h2) (fun h1 h2=>oC hb.2.2 ho.2.2 h1 h2)
def PA(hb:t.all LB)(ho:t.all aa.ok)(hd:t.depth<=100000:=by omega):PF GB prog 77 [eU t] (eU (t.restrict [])):=by
 refine fn func77 J J ntmps77 J J (fun C=>?_);refine cl J (oC (t:=t) (c:=[]) hb ho (fun s h=>by cases h) (by simpa using hd)) J<|rz J J
def Tr.compl:Tr->Tr
 | .leaf b=> .leaf !b
 | .node l x y=> .node l x.compl y.compl
def Tr.chooseQ(op:Int)(b:Bool)(t:Tr)(c:av):Tr:=
 if op=1\/op=2 then(if b=decide (op=1) then .leaf b else t.restrict c)
 else if op=3/\b=false then .leaf false
 else if b then(t.restrict c).compl else t.restrict c
def Tr.mergeQ(op:Int):Tr->Tr->av->Tr
 | .leaf b,u,c=>u.chooseQ op b c
 | .node l x y,u,c=>if !cx c l.rev then x.mergeQ op u c else if !cx c l then y.mergeQ op u c else joinQ l (x.mergeQ op u (bE c l)) (y.mergeQ op u (bE c l.rev))
def Za{b:Bool}:PF GB prog 85 [eU (.leaf b)] (eU (Tr.compl (.leaf b))):=by
 refine fn func85 J J ntmps85 J J (fun C=>?_);refine cl (fu:=⟨0⟩) J qD J<|fD 4 J<|gx J<|cl J rg J<|rz J J
def Vn{l:aa}(ihx:PF GB prog 85 [eU x] (eU (Tr.compl x)))(ihy:PF GB prog 85 [eU y] (eU (Tr.compl y))):PF GB prog 85 [eU (.node l x y)] (eU (Tr.compl (.node l x y))):=by
 refine fn func85 J J ntmps85 J J (fun C=>?_);refine cl (fu:=⟨0⟩) J ti J<|iG 4 J<|gx J<|cl J ihx J<|cl J ihy J<|cl J (yq (l:=l) (x:=x.compl) (y:=y.compl)) J<|rz J J
def yh: ∀{t:Tr},PF GB prog 85 [eU t] (eU (Tr.compl t))
 | .leaf _=>Za
 | .node _ _ _=>Vn yh yh
theorem omm{p:Prop}(h:p:=by unfold Tr.chooseQ;simp_all [fg]<;>omega):p:=h
def Wj{b:Bool}{c:av}(hb:t.all LB)(ho:t.all aa.ok)(hc:d5 c)(hn:c.length+t.depth<=100000):PF GB prog 262 [vI op, .v (.bool b),eU t, .sl (c.map di)] (eU (t.chooseQ op b c)):=by
 refine fn func262 J J ntmps262 J J (fun C=>?_);refine br J J J (fun hc10=>?_) (fun hc10=>?_)
 .
  refine br J J J (fun hc10=>?_) (fun hc10=>?_)
  .
   refine bb J J J (fun hc18=>?_) (fun hc18=>?_)
   .
    refine cl J rg J<|rz J omm
   .
    refine cl J (oC ome ome ome we) J<|rz J omm
  .
   refine br J J J (fun hc13=>?_) (fun hc13=>?_)
   .
    refine bb J J J (fun hc22=>?_) (fun hc22=>?_)
    .
     refine cl J rg J<|rz J omm
    .
     refine bb J J J (fun hc24=>?_) (fun hc24=>?_)
     .
      refine cl J (oC ome ome ome we) J<|cl J (yh (t:=t.restrict c)) J<|rz J omm
     .
      refine cl J (oC ome ome ome we) J<|rz J omm
   .
    refine bb J J J (fun hc24=>?_) (fun hc24=>?_)
    .
     refine cl J (oC ome ome ome we) J<|cl J (yh (t:=t.restrict c)) J<|rz J omm
    .
     refine cl J (oC ome ome ome we) J<|rz J omm
 .
  refine br J J J (fun hc10=>?_) (fun hc10=>?_)
  .
   refine bb J J J (fun hc18=>?_) (fun hc18=>?_)
   .
    refine cl J rg J<|rz J omm
   .
    refine cl J (oC ome ome ome we) J<|rz J omm
  .
   refine br J J J (fun hc13=>?_) (fun hc13=>?_)
   .
    refine bb J J J (fun hc22=>?_) (fun hc22=>?_)
    .
     refine cl J rg J<|rz J omm
    .
     refine bb J J J (fun hc24=>?_) (fun hc24=>?_)
     .
      refine cl J (oC ome ome ome we) J<|cl J (yh (t:=t.restrict c)) J<|rz J omm
     .
      refine cl J (oC ome ome ome we) J<|rz J omm
   .
    refine bb J J J (fun hc24=>?_) (fun hc24=>?_)
    .
     refine cl J (oC ome ome ome we) J<|cl J (yh (t:=t.restrict c)) J<|rz J omm
    .
     refine cl J (oC ome ome ome we) J<|rz J omm
def Zi{b:Bool}{c:av}(hbu:u.all LB)(hou:u.all aa.ok)(hc:d5 c)(hn:c.length+u.depth<=100000):PF GB prog 205 [vI op,eU (.leaf b),eU u, .sl (c.map di)] (eU (Tr.mergeQ op (.leaf b) u c)):=by
 refine fn func205 J J ntmps205 J J (fun C=>?_);refine cl (fu:=⟨0⟩) J qD J<|fD 14 J<|gx J<|cl J (Wj (t:=u) hbu hou hc hn) J<|rz J J
def apl{l:aa}{c:av}(hl:LB l)(hlo:l.ok)(hc:d5 c)(hn:c.length+(Tr.node l x y).depth+u.depth<=100000)(ihx: ∀{c:av},d5 c->c.length+x.depth+u.depth<=100000->PF GB prog 205 [vI op,eU x,eU u, .sl (c.map di)] (eU (Tr.mergeQ op x u c)))(ihy: ∀{c:av},d5 c->c.length+y.depth+u.depth<=100000->PF GB prog 205 [vI op,eU y,eU u, .sl (c.map di)] (eU (Tr.mergeQ op y u c))):PF GB prog 205 [vI op,eU (.node l x y),eU u, .sl (c.map di)] (eU (Tr.mergeQ op (.node l x y) u c)):=by
 have hdp:(Tr.node l x y).depth=1+max x.depth y.depth:=J;have hdx:=rK x.depth y.depth;have hdy:=qV x.depth y.depth;have hca:=sh c l;have hcb:=sh c l.rev;refine fn func205 J J ntmps205 J J (fun C=>?_);refine cl (fu:=⟨0⟩) J ti J<|iG 14 J<|gx J<|cl J (HM (c:=c) (l:=l) hlo hc) J<|bb J J J (fun hc34=>?_) (fun hc34=>?_)
 .
  refine cl J (ihx hc we) J<|rz J (by rw[Tr.mergeQ,if_pos hc34];rfl)
 .
  refine bb J J J (fun hc45=>?_) (fun hc45=>?_)
  .
   refine cl J (ihy hc we) J<|rz J (by rw[Tr.mergeQ,if_neg (by simp[hc34]),if_pos hc45];rfl)
  .
   refine cl J (ihx (c:=bE c l) (qC hlo hc) we) J<|cl J (ihy (c:=bE c l.rev) (qC hlo.rev hc) we) J<|cl J SY J<|rz J (by rw[Tr.mergeQ,if_neg (by simp[hc34]),if_neg (by simp[hc45])];rfl)
def Gq{op:Int}{u:Tr}(hbu:u.all LB)(hou:u.all aa.ok): ∀{t:Tr} {c:av},t.all LB->t.all aa.ok->d5 c->c.length+t.depth+u.depth<=100000->PF GB prog 205 [vI op,eU t,eU u, .sl (c.map di)] (eU (Tr.mergeQ op t u c))
 | .leaf _,_,_,_,hc,hn=>Zi hbu hou hc (by simp only[Tr.depth] at hn;omega)
 | .node l x y,c,hb,ho,hc,hn=>apl hb.1 ho.1 hc hn (fun h1 h2=>Gq hbu hou hb.2.1 ho.2.1 h1 h2) (fun h1 h2=>Gq hbu hou hb.2.2 ho.2.2 h1 h2)
def SQ:DV:= .ag [vI 0,vI 0, .v (.pointer none),vI 0,vI 0, .v (.pointer none),vI 0,vI 0, .v (.pointer none)]
def xF:Option aa->DV
 |some l=> .tp [co l,vB true]
 |none=> .tp [SQ,vB false]
def PX{l:aa}(h: ¬l.ok)(hz: ¬(l.a=0/\l.b=0)):decide (rgcd (rgcd (l.a:Rat) (l.b:Rat)) (l.c:Rat)=((1:Int):Rat))=false:=by
 rw[BB,BB];refine decide_eq_false fun e=>h ⟨hz,?_⟩;simp only[dS] at e;have:=mY.1 e;omega
def aAT{l:aa}[hl:LB l](ha:l.a=0)(hb:l.b=0):PF GB prog 87 [eL l] (xF none):=by
 refine fn func87 J J ntmps87 J J (fun C=>?_);refine cl (fu:=⟨0⟩) J (sE (m:=l.a)) J<|bO J J J<|cl (fu:=⟨0⟩) J (sE (m:=l.b)) J<|bO J J J<|cl (fu:=⟨0⟩) J (sE (m:=l.c)) J<|bO J J J<|cl J (uD (m:=l.a)) J<|cl J (uD (m:=l.b)) J<|cl J (uD (m:=l.c)) J<|cl (fu:=⟨0⟩) J (uI (q:=(l.a:Rat))) J<|cF J (by show some (decide _)=some true;rw[ha];rfl) J<|cl (fu:=⟨0⟩) J (uI (q:=(l.b:Rat))) J<|cF J (by show some (decide _)=some true;rw[hb];rfl) J<|rz J J
theorem okw{p:Prop}(h:p:=by first|rfl|(show some (decide _)=some false;rw[decide_eq_false (fun e=>hz ⟨ha,cX.1 e⟩)])):p:=h
theorem ozz{p:Prop}(h:p:=by show some (!decide _)=some true;rw[PX ho hz];rfl):p:=h
def aBy{l:aa}[hl:LB l](hz: ¬(l.a=0/\l.b=0))(ho: ¬l.ok):PF GB prog 87 [eL l] (xF none):=by
 refine fn func87 J J ntmps87 J J (fun C=>?_);refine cl (fu:=⟨0⟩) J (sE (m:=l.a)) J<|bO J J J<|cl (fu:=⟨0⟩) J (sE (m:=l.b)) J<|bO J J J<|cl (fu:=⟨0⟩) J (sE (m:=l.c)) J<|bO J J J<|cl J (uD (m:=l.a)) J<|cl J (uD (m:=l.b)) J<|cl J (uD (m:=l.c)) J<|cl (fu:=⟨0⟩) J (uI (q:=(l.a:Rat))) J<|gF (fu2:=⟨4⟩) J J J J (fun hg35=>?_) (fun hg35=>?_)
 .
  have ha:l.a=0:=cX.1 hg35;refine cl (fu:=⟨1⟩) J (uI (q:=(l.b:Rat))) J<|bO J okw J<|cl J (p9 (p:=(l.a:Rat)) (q:=(l.b:Rat))) J<|cl J (p9 (p:=rgcd l.a l.b) (q:=(l.c:Rat))) J<|cl J (ug (m:=1)) J<|cl (fu:=⟨0⟩) J (yv (p:=rgcd (rgcd l.a l.b) l.c) (q:=((1:Int):Rat))) J<|cF J ozz J<|rz J J
 .
  refine bO J okw J<|cl J (p9 (p:=(l.a:Rat)) (q:=(l.b:Rat))) J<|cl J (p9 (p:=rgcd l.a l.b) (q:=(l.c:Rat))) J<|cl J (ug (m:=1)) J<|cl (fu:=⟨0⟩) J (yv (p:=rgcd (rgcd l.a l.b) l.c) (q:=((1:Int):Rat))) J<|cF J ozz J<|rz J J
def aDV{l:aa}[hl:LB l][Decidable l.ok]:PF GB prog 87 [eL l] (xF (if l.ok then some l else none)):=by
 split
 .rename_i h;exact Qx h
 .rename_i h
  by_cases hz:l.a=0/\l.b=0
  .exact aAT hz.1 hz.2
  .exact aBy hz h
def fj(n:Bool)(ds:List Nat):Prop:=dG ds/\(n=true->0<ds.length)
instance (n:Bool) (ds:List Nat):Decidable (fj n ds):=inferInstanceAs (Decidable (_/\_))
theorem okP{p:Prop}(h:p:=by have:=h.2;omega):p:=h
def vE(h:bt ds/\ds.length<=21):PF GB prog 145 [.ag [.v (.bool neg),bD ds]] (vB (decide (fj neg ds))):=RC h.1 okP
structure RL where
 na:Bool
 da:List Nat
 nb:Bool
 db:List Nat
 nc:Bool
 dc:List Nat
def RL.d(r:RL):DV:= .ag [.v (.bool r.na),bD r.da, .v (.bool r.nb),bD r.db, .v (.bool r.nc),bD r.dc]
def mD(n:Bool)(ds:List Nat):Int:=if n then-(dv ds:Int) else dv ds
def RL.l(r:RL):aa:=⟨mD r.na r.da,mD r.nb r.db,mD r.nc r.dc⟩
def RL.nm(r:RL):Prop:=fj r.na r.da/\fj r.nb r.db/\fj r.nc r.dc
instance (l:aa):Decidable l.ok:=inferInstanceAs (Decidable (_/\_))
instance (r:RL):Decidable r.nm:=inferInstanceAs (Decidable (_/\_/\_))
def RL.ln(r:RL):Option aa:=if r.nm/\r.l.ok then some r.l else none
structure RL.sm (r:RL):Prop where
 a:bt r.da/\r.da.length<=21
 b:bt r.db/\r.db.length<=21
 c:bt r.dc/\r.dc.length<=21
def DJ(n:Bool)(ds:List Nat):(mD n ds).natAbs=dv ds:=by unfold mD;cases n<;>simp
def GV{n:Bool}(hd:bt ds)(h:fj n ds):decide (mD n ds<0)=n:=by
 unfold mD
 cases n with
 |false=>simp
 |true=>
  have h0:0<dv ds:=by
   refine fZ fun e=>?_;have:=qk hd h.1;rw[e,sj] at this;have h2:=h.2 J;rw[<-this] at h2;exact absurd h2 oma
  simp only[if_true,decide_eq_true_eq];omega
def RL.eL{r:RL}(s:r.sm)(h:r.nm):r.d=Go.Sx.eL r.l:=by
 unfold RL.d Go.Sx.eL RL.l;simp only[DJ,GV s.a.1 h.1,GV s.b.1 h.2.1,GV s.c.1 h.2.2,dN,qk s.a.1 h.1.1,qk s.b.1 h.2.1.1,qk s.c.1 h.2.2.1];rfl
theorem RL.lb{r:RL}(s:r.sm):LB r.l:=by
 have key: ∀(n:Bool) (ds:List Nat),bt ds/\ds.length<=21->(mD n ds).natAbs<2^672:=fun n ds h=>by
  rw[DJ];refine cM (k8 h.1) ?_;rw[Zo];exact AN (m:=32*ds.length) (k:=672) okP
 exact⟨key _ _ s.a,key _ _ s.b,key _ _ s.c⟩
theorem omy{p:Prop}(h:p:=by show some (!decide _)=some true;rw[decide_eq_false h];rfl):p:=h
def aAX{r:RL}(s:r.sm)(h: ¬fj r.na r.da):PF GB prog 87 [r.d] (xF none):=by
 refine fn func87 J J ntmps87 J J (fun C=>?_);refine cl (fu:=⟨0⟩) J (vE (neg:=r.na) (ds:=r.da) s.a) J<|cF J omy J<|rz J J
theorem omH{p:Prop}(h:p:=by show some (!decide _)=some false;rw[decide_eq_true h1];rfl):p:=h
def azS{r:RL}(s:r.sm)(h1:fj r.na r.da)(h: ¬fj r.nb r.db):PF GB prog 87 [r.d] (xF none):=by
 refine fn func87 J J ntmps87 J J (fun C=>?_);refine cl (fu:=⟨0⟩) J (vE (neg:=r.na) (ds:=r.da) s.a) J<|bO J omH J<|cl (fu:=⟨0⟩) J (vE (neg:=r.nb) (ds:=r.db) s.b) J<|cF J omy J<|rz J J
theorem oza{p:Prop}(h:p:=by show some (!decide _)=some false;rw[decide_eq_true h2];rfl):p:=h
def WK{r:RL}(s:r.sm)(h1:fj r.na r.da)(h2:fj r.nb r.db)(h: ¬fj r.nc r.dc):PF GB prog 87 [r.d] (xF none):=by
 refine fn func87 J J ntmps87 J J (fun C=>?_);refine cl (fu:=⟨0⟩) J (vE (neg:=r.na) (ds:=r.da) s.a) J<|bO J omH J<|cl (fu:=⟨0⟩) J (vE (neg:=r.nb) (ds:=r.db) s.b) J<|bO J oza J<|cl (fu:=⟨0⟩) J (vE (neg:=r.nc) (ds:=r.dc) s.c) J<|cF J omy J<|rz J J
def QV{r:RL}(s:r.sm):PF GB prog 87 [r.d] (xF r.ln):=by
 by_cases h1:fj r.na r.da
 .by_cases h2:fj r.nb r.db
  .by_cases h3:fj r.nc r.dc
   .haveI:=RL.lb s
    rw[RL.eL s ⟨h1,h2,h3⟩,show r.ln=if r.l.ok then some r.l else none by unfold RL.ln;simp[show r.nm from⟨h1,h2,h3⟩]];exact aDV
   .rw[show r.ln=none from if_neg fun e=>h3 e.1.2.2]
    exact WK s h1 h2 h3
  .rw[show r.ln=none from if_neg fun e=>h2 e.1.2.1]
   exact azS s h1 h2
 .rw[show r.ln=none from if_neg fun e=>h1 e.1.1]
  exact aAX s h1
def ue(n:Nat)(f:Nat->Bool):List Value:=(List.range n).map fun j=> .bool (f j)
def yk(f:Nat->Bool)(i:Nat):Nat->Bool:=fun j=>f j||Nat.beq j i
def L3(n:Nat)(f:Nat->Bool):(ue n f).length=n:=by simp[ue]
def HF{f:Nat->Bool}{b:Bool}(h:i<n)(hf:f i=b):(ue n f)[i]? =some (.bool b):=by simp[ue,h,hf]
def VA{f:Nat->Bool}(e:j≠i):yk f i j=f j:=by
 unfold yk
 cases hb:Nat.beq j i with
 |false=>rw[Bool.or_false]
 |true=>exact absurd (aN hb) e
def aFT{f:Nat->Bool}:yk f i i=true:=by
 unfold yk;rw[oJ,sJ]
def avA(n i:Nat)(f:Nat->Bool):(ue n f).set i (.bool true)=ue n (yk f i):=by
 apply lR;intro j;rw[qQ];simp only[ue,aX,kL,bL];by_cases hj:j<n
 .rw[qU hj]
  simp only[lM];by_cases e:i=j
  .subst e;simp[hj,aFT]
  .rw[VA (fun h=>e h.symm)];simp[e]
 .rw[dT okq]
  by_cases e:i=j
  .subst e;simp[hj]
  .simp[e]
def LO(n:Nat):dH (.bool false) n=ue n (fun _=>false):=by
 apply lR;intro j;by_cases hj:j<n
 .rw[HF hj J]
  unfold dH;rw[GF (aG (.bool false)) n j (by simpa[aG] using hj)];simp[aG,Nat.mod_one]
 .rw[dT (by rw[pu];simp[aG];omega),dT (by rw[L3];omega)]
structure RN where
 g:RL
 l:Int
 r:Int
def RN.d(n:RN):DV:= .ag [.v (.bool n.g.na),bD n.g.da, .v (.bool n.g.nb),bD n.g.db, .v (.bool n.g.nc),bD n.g.dc, .v (.int .i64 n.l), .v (.int .i64 n.r)]
def zQ{q:Rat}{v:Value}(h:Is G (ez q) v): ∃p,v= .pointer p:=by
 rcases xi.1 h with⟨_,h⟩|⟨_,h⟩
 .exact⟨_,h⟩
 .obtain⟨b,m,h,_⟩:=lG.1 h;exact⟨_,h⟩
def aKx{l:aa}{v:Value}(h:Is G (co l) v): ∃n1 d1 p1 n2 d2 p2 n3 d3 p3,v= .agg ⟨[.int .i64 n1, .int .i64 d1, .pointer p1, .int .i64 n2, .int .i64 d2, .pointer p2, .int .i64 n3, .int .i64 d3, .pointer p3]⟩:=by
 obtain⟨m,rfl,g⟩:=eG.1 h;clear h;obtain⟨v1,m,rfl,h1,h⟩:=bh.1 g;obtain⟨v2,m,rfl,h2,h⟩:=bh.1 h;obtain⟨v3,m,rfl,h3,h⟩:=bh.1 h;obtain⟨v4,m,rfl,h4,h⟩:=bh.1 h;obtain⟨v5,m,rfl,h5,h⟩:=bh.1 h;obtain⟨v6,m,rfl,h6,h⟩:=bh.1 h;obtain⟨v7,m,rfl,h7,h⟩:=bh.1 h;obtain⟨v8,m,rfl,h8,h⟩:=bh.1 h;obtain⟨v9,m,rfl,h9,h⟩:=bh.1 h;rw[dm] at h;subst h;obtain⟨_,rfl⟩:=zQ h3;obtain⟨_,rfl⟩:=zQ h6;obtain⟨_,rfl⟩:=zQ h9;rw[aI.1 h1,aI.1 h2,aI.1 h4,aI.1 h5,aI.1 h7,aI.1 h8];exact⟨_,_,_,_,_,_,_,_,_,J⟩
def aLC{n:RN}{v:Value}(h:Is G n.d v): ∃x1 x2 x3:SV,v= .agg ⟨[.bool n.g.na, .slice x1.a x1.n x1.c, .bool n.g.nb, .slice x2.a x2.n x2.c, .bool n.g.nc, .slice x3.a x3.n x3.c, .int .i64 n.l, .int .i64 n.r]⟩/\
  Is G n.g.d (.agg ⟨[.bool n.g.na, .slice x1.a x1.n x1.c, .bool n.g.nb, .slice x2.a x2.n x2.c, .bool n.g.nc, .slice x3.a x3.n x3.c]⟩):=by
 obtain⟨m,rfl,g⟩:=eG.1 h;clear h;obtain⟨v1,m,rfl,h1,h⟩:=bh.1 g;obtain⟨v2,m,rfl,h2,h⟩:=bh.1 h;obtain⟨v3,m,rfl,h3,h⟩:=bh.1 h;obtain⟨v4,m,rfl,h4,h⟩:=bh.1 h;obtain⟨v5,m,rfl,h5,h⟩:=bh.1 h;obtain⟨v6,m,rfl,h6,h⟩:=bh.1 h;obtain⟨v7,m,rfl,h7,h⟩:=bh.1 h;obtain⟨v8,m,rfl,h8,h⟩:=bh.1 h;rw[dm] at h;subst h;obtain⟨_,x1,_,rfl,_,_⟩:=gr.1 (id h2);obtain⟨_,x2,_,rfl,_,_⟩:=gr.1 (id h4);obtain⟨_,x3,_,rfl,_,_⟩:=gr.1 (id h6)
 cases aI.1 h1;cases aI.1 h3;cases aI.1 h5;cases aI.1 h7;cases aI.1 h8
 exact⟨x1,x2,x3,J,eG.2 ⟨_,J, .cons h1 (.cons h2 (.cons h3 (.cons h4 (.cons h5 (.cons h6 .nil)))))⟩⟩
def xH{v:Value}(h:Is G (eU t) v): ∃p,v= .pointer p:=by
 obtain⟨b,m,h,_⟩:=lG.1 h;exact⟨_,h⟩
def PF.fn0{ds:List DV}{r:DV}(h: ∀{GB:Gh},PF GB P f ds r){vs:List Value}(hv:IsLs G ds vs):Fn P f vs G (fun v G'=>Is G' r v):=h (GB:=G) G vs (bI.refl G) hv
def YN(rt:Int)(ns:List RN):DV:= .ag [vI rt, .sl (ns.map RN.d)]
def QL{l:aa}(h:IsLs G (cU (.node l x y)) m): ∃n1 d1 p1 n2 d2 p2 n3 d3 p3 q r,m=[.int .i64 n1, .int .i64 d1, .pointer p1, .int .i64 n2, .int .i64 d2, .pointer p2, .int .i64 n3, .int .i64 d3, .pointer p3, .pointer q, .pointer r, .bool false]/\
  Is G (co l) (.agg ⟨[.int .i64 n1, .int .i64 d1, .pointer p1, .int .i64 n2, .int .i64 d2, .pointer p2, .int .i64 n3, .int .i64 d3, .pointer p3]⟩)/\Is G (eU x) (.pointer q)/\Is G (eU y) (.pointer r):=by
 obtain⟨v1,m,rfl,h1,h⟩:=bh.1 h;obtain⟨v2,m,rfl,h2,h⟩:=bh.1 h;obtain⟨v3,m,rfl,h3,h⟩:=bh.1 h;obtain⟨v4,m,rfl,h4,h⟩:=bh.1 h;obtain⟨v5,m,rfl,h5,h⟩:=bh.1 h;obtain⟨v6,m,rfl,h6,h⟩:=bh.1 h;obtain⟨v7,m,rfl,h7,h⟩:=bh.1 h;obtain⟨v8,m,rfl,h8,h⟩:=bh.1 h;obtain⟨v9,m,rfl,h9,h⟩:=bh.1 h;obtain⟨va,m,rfl,ha,h⟩:=bh.1 h;obtain⟨vb,m,rfl,hb,h⟩:=bh.1 h;obtain⟨vc,m,rfl,hc,h⟩:=bh.1 h;rw[dm] at h;subst h;obtain⟨_,rfl⟩:=zQ h3;obtain⟨_,rfl⟩:=zQ h6;obtain⟨_,rfl⟩:=zQ h9;obtain⟨_,rfl⟩:=xH ha;obtain⟨_,rfl⟩:=xH hb
 cases aI.1 h1;cases aI.1 h2;cases aI.1 h4;cases aI.1 h5;cases aI.1 h7;cases aI.1 h8;cases aI.1 hc
 exact⟨_,_,_,_,_,_,_,_,_,_,_,J,eG.2 ⟨_,J, .cons h1 (.cons h2 (.cons h3 (.cons h4 (.cons h5 (.cons h6 (.cons h7 (.cons h8 (.cons h9 .nil))))))))⟩,ha,hb⟩
def aGi{b:Bool}(h:IsLs G (cU (.leaf b)) m):m=[.int .i64 0, .int .i64 0, .pointer none, .int .i64 0, .int .i64 0, .pointer none, .int .i64 0, .int .i64 0, .pointer none, .pointer none, .pointer none, .bool b]:=by
 obtain⟨v1,m,rfl,h1,h⟩:=bh.1 h;obtain⟨v2,m,rfl,h2,h⟩:=bh.1 h;obtain⟨v3,m,rfl,h3,h⟩:=bh.1 h;obtain⟨v4,m,rfl,h4,h⟩:=bh.1 h;obtain⟨v5,m,rfl,h5,h⟩:=bh.1 h;obtain⟨v6,m,rfl,h6,h⟩:=bh.1 h;obtain⟨v7,m,rfl,h7,h⟩:=bh.1 h;obtain⟨v8,m,rfl,h8,h⟩:=bh.1 h;obtain⟨v9,m,rfl,h9,h⟩:=bh.1 h;obtain⟨va,m,rfl,ha,h⟩:=bh.1 h;obtain⟨vb,m,rfl,hb,h⟩:=bh.1 h;obtain⟨vc,m,rfl,hc,h⟩:=bh.1 h;rw[dm] at h;subst h
 cases aI.1 h1;cases aI.1 h2;cases aI.1 h3;cases aI.1 h4;cases aI.1 h5;cases aI.1 h6;cases aI.1 h7;cases aI.1 h8;cases aI.1 h9;cases aI.1 ha;cases aI.1 hb;cases aI.1 hc
 rfl
theorem okL{p:Prop}(h:p:=by rfl):p:=h
theorem ozl{p:Prop}(h:p:=by rw[aX];omega):p:=h
def Hl: ∀{t:Tr} {A A2 G:Gh} {p:Option Addr} {ob wb:Nat} {lo lo2:Bool} {x:SV} {zs:List ND} {ns:List NQ} {B:List aB},Is A (eU t) (.pointer p)->t.all LB->[GL A G]->[GL A2 G]->io 8 164 x (zs.map ND.val) B->ie (tc 672 A2) zs ns->zs.length+t.size<=1000000->
  iu prog 133 [.pointer p, .pointer (some ⟨ob,0,none⟩), .pointer (some ⟨wb,0,none⟩)] (⟨ob,[.int .i64 0, .slice x.a x.n x.c],39,lo⟩::⟨wb,[pw ob wb],244,lo2⟩::B) G
   (fun v own' G'=> ∃x' zs' B',v= .int .i64 (t.num zs.length)/\own'=⟨ob,[.int .i64 0, .slice x'.a x'.n x'.c],39,false⟩::⟨wb,[pw ob wb],244,false⟩::B'/\io 8 164 x' (zs'.map ND.val) B'/\ie (tc 672 G') zs' (ns++t.wr zs.length))
 | .leaf bb,A,A2,G,p,ob,wb,lo,lo2,x,zs,ns,B,h,_,_,_,hB,hz,hle=>by
  obtain⟨n,m,e,hg,hm⟩:=lG.1 (id h)
  cases e
  cases aGi hm
  have hG:vd A n _:=⟨hg⟩;have hz':ie (tc 672 G) zs (ns++[]):=by rw[gX];exact hz.imp fun _ _ h=>h.up
  refine iu.intro func133 J J ntmps133 J ?_;intro C _ _;show St C _ _ (⟨ob,[.int .i64 0, .slice x.a x.n x.c],39,false⟩::⟨wb,[pw ob wb],244,false⟩::asB B) _ _;refine sR<|sa J J<|zE<|fy<|sR<|sm J J<|?_;refine sc (zC J J (PF.fn0 qD (.cons (h.up GL.le) .nil)) J ?_);rintro _ G1 _ hv
  cases aI.1 hv
  refine zE<|uc J<|?_;refine fy<|sR<|sm J J<|sn J J<|sf J J<|aNJ J J J<|zE<|?_
  cases bb
  case true=>
   refine uc J<|sR<|sa J J<|zE<|me<|?_;exact xQ (.tmp J .nil) _ _ (List.Perm.refl _) (List.Sublist.refl _) ⟨x,zs,_,J,J,hB.asB,hz'.imp fun _ _ h=>h.up⟩
  refine tq J<|zK<|sR<|sa J J<|zE<|me<|?_;exact xQ (.tmp J .nil) _ _ (List.Perm.refl _) (List.Sublist.refl _) ⟨x,zs,_,J,J,hB.asB,hz'.imp fun _ _ h=>h.up⟩
 | .node l s u,A,A2,G,p,ob,wb,lo,lo2,x,zs,ns,B,h,hall,_,_,hB,hz,hle=>by
  obtain⟨hlb,hall1,hall2⟩:=id hall;haveI:LB l:=hlb;obtain⟨n,m,e,hg,hm⟩:=lG.1 (id h)
  cases e
  obtain⟨n1,d1,p1,n2,d2,p2,n3,d3,p3,q,r,rfl,hzl,hs,hu⟩:=QL hm;have hG:vd A n _:=⟨hg⟩;have hxn:=hB.len;have hzn:=hz.len;simp only[Tr.size] at hle;obtain⟨xa,xn,xc⟩:=x;rw[aX] at hxn;simp only[] at hxn;subst hxn;refine iu.intro func133 J J ntmps133 J ?_;intro C _ _;show St C _ _ (⟨ob,[.int .i64 0, .slice xa zs.length xc],39,false⟩::⟨wb,[pw ob wb],244,false⟩::asB B) _ _;replace hB:=hB.asB;generalize asB B=B at hB;refine sR<|sa J J<|zE<|fy<|sR<|sm J J<|?_;refine sc (zC J J (PF.fn0 ti (.cons (h.up GL.le) .nil)) J ?_);rintro _ G1 _ hv
  cases aI.1 hv
  refine zE<|tq J<|?_;refine zK<|sR<|sf J J<|ol J J J<|uC J J<|sa J J<|zE<|fy<|?_;refine wH [⟨ob,[.int .i64 0, .slice xa zs.length xc],39,false⟩] (fun i=>Nat.beq i 11) [(0,true),(1,true),(2,true),(3,true),(4,true),(5,true),(6,false),(7,true),(8,false),(9,false),(10,true),(11,false)] follows omd<|?_;refine dF J J J<|rO J J J J<|dM J J J<|dy J (fun _=>oc J) J J<|?_;refine dF J J J<|dy J (fun _=>CL J vu J) J J<|?_;refine dc J J (zC J J (PF.fn0 (Ny (l:=l)) (.cons (hzl.up GL.le) .nil)) J ?_);rintro _ G2 _ hv;obtain⟨ia,ib,ic,rfl,hia,hib,hic⟩:=WS hlb.bl hv;refine mr<|dy J (fun _=>xZ J) J J<|?_;refine dc J J (QF J okL okL oma oma J ?_);intro b3;refine mr<|?_;refine dc J J (Vd (v:=ND.val ⟨ia,ib,ic,0,0⟩) (vs:=zs.map ND.val) [_,_,_] rfl hB J J (zN inferInstance J) J (ND.flat [⟨ia,ib,ic,0,0⟩] _ aZ) oma ozl J J ?_);intro x1 B1 hB1;rw[show zs.map ND.val++[ND.val ⟨ia,ib,ic,0,0⟩]=(zs++[(⟨ia,ib,ic,0,0⟩:ND)]).map ND.val by simp] at hB1;show St C _ _ (⟨b3,_,_,true⟩::⟨ob,[.int .i64 0, .slice xa zs.length xc],39,false⟩::⟨wb,[pw ob wb],244,false⟩::B1) _ _;refine mr<|dF J J J<|?_;refine dc J J (zR (cs':=[.int .i64 0, .slice x1.a x1.n x1.c]) J J J (.tl _ _ _ _ _ _ _ _ (.hd ..)) (nb J) J J ?_);refine Wd J<|dn<|?_;refine NO _ (nK _ _) ?_;have hz1:ie (tc 672 G2) (zs++[(⟨ia,ib,ic,0,0⟩:ND)]) (ns++[⟨l,0,0⟩]):=(hz.imp fun _ _ h=>h.up).app (.cons ⟨hia,hib,hic,J,J⟩ .nil);refine fy<|wH [⟨wb,[pw ob wb],244,false⟩] (fun _=>false) [(0,true),(1,true),(2,true),(3,true),(4,true),(5,false),(6,true)] follows omd<|?_
  refine rO J J J J<|dM J J J<|dy J (fun _=>oc J) J J<|dF J J J<|dy J (fun _=>si J vu J) J J<|?_;refine dc J J (AA (c1:=[]) (M:=_::_::B1) (rest:=[]) J J (by rw[gX]) (Hl (lo:=false) (lo2:=false) hs hall1 hB1 hz1 omp) J ?_);rintro _ _ G3 fl _ hf _ ⟨x2,O1,B2,rfl,rfl,hB2,hz2⟩;have e1:fl ob=false:=hf _ aZ J;have e2:fl wb=false:=hf _ (aJ _ aZ) J;replace hB2:=hB2.relo fl;refine I8 (own':=⟨ob,[.int .i64 0, .slice x2.a x2.n x2.c],39,false⟩::⟨wb,[pw ob wb],244,false⟩::B2.map (relo fl)) (by simp only[bV,relo,e1,e2,gX]) ?_;generalize B2.map (relo fl)=B2 at hB2;have hl2:=hz2.len;simp only[aY,Tr.wr_len,fY] at hl2;refine mr<|dA J J J<|dn<|fy<|wH [⟨wb,[pw ob wb],244,false⟩] (fun _=>false) [(0,true),(1,true),(2,true),(3,true),(4,true),(5,false),(6,true)] follows omd<|?_;refine rO J J J J<|dM J J J<|dy J (fun _=>oc J) J J<|dF J J J<|dy J (fun _=>si J vu J) J J<|?_;refine dc J J (AA (c1:=[]) (M:=_::_::B2) (rest:=[]) J J (by rw[gX]) (Hl (lo:=false) (lo2:=false) hu hall2 hB2 hz2 we) J ?_);rintro _ _ G4 fl _ hf _ ⟨x3,zt,B3,rfl,rfl,hB3,hz3⟩;have e3:fl ob=false:=hf _ aZ J;have e4:fl wb=false:=hf _ (aJ _ aZ) J;replace hB3:=hB3.relo fl;refine I8 (own':=⟨ob,[.int .i64 0, .slice x3.a x3.n x3.c],39,false⟩::⟨wb,[pw ob wb],244,false⟩::B3.map (relo fl)) (by simp only[bV,relo,e3,e4,gX]) ?_;generalize B3.map (relo fl)=B3 at hB3;have hl3:=hz3.len;simp only[aY,Tr.wr_len,fY] at hl3;have hn3:zs.length<zt.length:=by omega
  rcases hB3 with⟨h1,_,_⟩|⟨nb,rest,lo3,hx3,rfl,hf1,hf2,hf3⟩
  .have:=congrArg List.length h1;rw[aX,fX] at this;omega
  obtain⟨x3a,x3n,x3c⟩:=x3;simp only[SV.mk.injEq] at hx3;obtain⟨rfl,rfl,_⟩:=hx3;rw[aX] at hf3;have hzz:ns.length=zs.length:=hzn.symm;obtain⟨zn,hzn1,hzn2⟩:=hz3.get (i:=zs.length) (b:=⟨l,0,0⟩) (by rw[dV,dV,<-hzz,jZ (bJ _),pK];rfl);obtain⟨_,hzn3⟩:=aT.1 hzn1;have hL1:(zs++[(⟨ia,ib,ic,0,0⟩:ND)]).length=zs.length+1:=by simp
  have hL2:O1.length=zs.length+1+s.size:=by omega
  rw[hL1] at hz3;rw[hL1,hL2];rw[hL2] at hz3;refine mr<|dA J J J<|dn<|?_;refine fy<|wH [⟨ob,[.int .i64 0, .slice (some ⟨nb,0,none⟩) (zt.map ND.val).length x3c],39,false⟩] (fun _=>false) [(0,true),(1,true),(2,true),(3,true),(4,true),(5,true),(6,true),(7,true),(8,true),(9,true),(10,false),(11,true),(12,true),(13,false)] follows omd<|?_;refine dF J J J<|rO J J J J<|dM J J J<|dF J J J<|?_;refine rO J J J J<|dM J J J<|dM J J J<|dM J J J<|dy J (fun _=>wC J J we ozl) J J<|?_;refine dF J J J<|?_;refine dc J J (vW J J (.tl _ _ _ _ _ _ _ _ (.tl _ _ _ _ _ _ _ _ (.hd ..))) (by rw[aY,hf1,aX,cK];omega) J J ?_);rw[cK,Uy zt rest zs.length 6 _ {zn with l:=s.num (zs.length+1)} hn3 oma (by rw[hzn3];rfl)];refine mr<|dy J (fun _=>wC J J we ozl) J J<|dF J J J<|?_;refine dc J J (vW J J (.tl _ _ _ _ _ _ _ _ (.tl _ _ _ _ _ _ _ _ (.hd ..))) (by rw[aY,fp (s:=8) _ (ND.len8 _),aX,bQ,cK];omega) J J ?_);rw[cK,Uy (zt.set zs.length _) rest zs.length 7 _ {zn with l:=s.num (zs.length+1),r:=u.num (zs.length+1+s.size)} (by rw[bQ];exact hn3) oma (by rw[List.getElem_set_self];rfl)];refine mr<|dn<|sR<|sm J J<|sa J J<|zE<|me<|?_;have hfin:=hz3.set (a:={zn with l:=s.num (zs.length+1),r:=u.num (zs.length+1+s.size)}) (b:=⟨l,s.num (zs.length+1),u.num (zs.length+1+s.size)⟩) ⟨hzn2.a,hzn2.b,hzn2.c,J,J⟩ zs.length;have hns:(ns++[(⟨l,0,0⟩:NQ)]++s.wr (zs.length+1)++u.wr (zs.length+1+s.size)).set zs.length ⟨l,s.num (zs.length+1),u.num (zs.length+1+s.size)⟩=ns++(Tr.node l s u).wr zs.length:=by
   rw[dV,dV,nM _ _ we,hzz,pK];simp[Tr.wr]
  rw[hns] at hfin;refine xQ (.tmp J .nil) _ _ (List.Perm.refl _) (List.Sublist.refl _) ⟨⟨some ⟨nb,0,none⟩,(zt.map ND.val).length,x3c⟩,_,_,J,J,?_,hfin⟩;refine .inr ⟨nb,rest,lo3,omc,by rw[List.set_set],?_,?_,?_⟩
  .rw[fp (s:=8) _ (ND.len8 _)]
  .rw[fp (s:=8) _ (ND.len8 _),aX,bQ];rw[hf1,aX] at hf2;exact hf2
  .rw[aX,bQ];exact hf3
def aLm(hb:t.all LB)(hs:t.size<=1000000):PF GB prog 75 [eU t] (eA t):=by
 intro G vs _ hv;obtain⟨v0,m,rfl,h,hm⟩:=bh.1 hv;rw[dm] at hm;subst hm;obtain⟨p,rfl⟩:=xH h;refine Fn.intro func75 J J ntmps75 J ?_;intro C _ hC;refine sR<|?_;refine sc (wF J ?_);intro b1;refine zE<|sR<|?_;refine sc (wF J ?_);intro b2;refine zE<|sR<|?_;refine sc (wF J ?_);intro b3;refine zE<|sR<|sy (Gs J J) J<|?_;refine sc (zR (cs':=[pw b2 b3]) J J J (.hd ..) (nb J) J J ?_);refine zE<|sR<|ol J J J<|sm J J<|?_;refine sc (AA (c1:=[]) (M:=[⟨b2,[.int .i64 0, .slice none 0 0],39,true⟩,⟨b3,[pw b2 b3],244,true⟩]) (rest:=[⟨b1,[.int .i64 0, .slice none 0 0],39,true⟩]) J J (List.Perm.swap ..) (Hl (A:=G) (A2:=G) (x:=⟨none,0,0⟩) (zs:=[]) (ns:=[]) (B:=[]) h hb (io.nil ..) .nil (by simpa using hs)) J ?_);rintro _ _ G4 fl _ _ hf ⟨x,zs,B,rfl,rfl,hB,hz⟩;have e1:=hf omc b2;have e2:=hf omc b3;replace hB:=hB.relo fl;refine I8 (own':=⟨b2,[.int .i64 0, .slice x.a x.n x.c],39,true⟩::⟨b3,[pw b2 b3],244,true⟩::(B.map (relo fl)++[⟨b1,[.int .i64 0, .slice none 0 0],39,true⟩])) (by simp only[bV,relo,e1,e2,iJ]) ?_;generalize B.map (relo fl)=B at hB;refine AV (⟨b2,[.int .i64 0, .slice x.a x.n x.c],39,true⟩::⟨b3,[pw b2 b3],244,true⟩::⟨b1,[.int .i64 0, .slice none 0 0],39,true⟩::B) ((jK (l₁:=B) (l₂:=[_])).cons _ |>.cons _) ?_;refine sf J J<|?_;refine sc (zR (cs':=[.int .i64 (t.num 0), .slice x.a x.n x.c]) J J J (.hd ..) (nb J) J J ?_);refine zE<|sR<|Ev J J J<|?_;refine sc (FK (cs':=[.int .i64 (t.num 0), .slice x.a x.n x.c]) J J J (.tl _ _ _ _ _ _ _ _ (.tl _ _ _ _ _ _ _ _ (.hd ..))) J (nb J) J J ?_)
 refine zE<|?_;refine ao0 (L:=[_,_,_]) hC hB (ND.len8 _) ?_;intro G5 _ hsl;show St C _ _ [⟨b2,_,_,true⟩,⟨b3,_,_,true⟩,⟨b1,[.int .i64 (t.num 0), .slice x.a x.n x.c],39,true⟩] _ _;refine me<|?_;exact zD (.agg J ii ii J .nil) (X0 (k:=672) ⟨zs,hsl,by rw[kV] at hz;exact hz.imp fun _ _ h=>h.up⟩)
def Tr.pre:Tr->List Tr
 | .leaf b=>[.leaf b]
 | .node l x y=> .node l x y::(x.pre++y.pre)
structure M1 (f:FuncId) (c2:List Value) (σ:Type) (step:σ->Tr->σ) (ok:σ->Tr->Prop) (Inv:σ->List aB->Gh->Prop):Prop where
 up: ∀{s B G G'},bI G G'->Inv s B G->Inv s B G'
 re: ∀{s B G} (fl:Nat->Bool),Inv s B G->Inv s (B.map (relo fl)) G
 go: ∀{s t p B G},ok s t->Inv s B G->Is G (eU t) (.pointer p)->iu prog f (.pointer p::c2) B G (fun _ B' G'=>Inv (step s t) B' G')
section
variable {own:List aB}
def KQ{fn:Func}{vs:List Value}(hr:kh P fr own fn.results.toList vs)(own2 own3:List aB)(hp:own.Perm own2)(hs:own3.Sublist own2)(hk:K (m9 vs) own3 G):St C n fr own G (eH C P fn (s7 C K) .normal):=
 fun a w rl hmk=>⟨rl.df.trans hmk,_,r8 hr rl.fr rl.h,_,own3,G,J,(rl.h.perm hp).drop hs,hk⟩
end
def xq{σ:Type}(step:σ->Tr->σ)(ok:σ->Tr->Prop):σ->List Tr->Prop
 |_,[]=>True
 |s,t::ts=>ok s t/\xq step ok (step s t) ts
structure EX (σ:Type) where
 ts:List Tr
 vs:List Value
 rest:List Value
 b:Nat
 cap:Nat
 lo:Bool
 s:σ
 B:List aB
def tg(t:Tr):Nat:=2*t.size+1
def Wt(ts:List Tr):ts.length<=(ts.map tg).sum:=by
 induction ts with
 |nil=>exact bJ _
 |cons t ts ih=>simp only[bZ,bV,tX,tg];omega
def qH(ts:List Tr):List Tr:=ts.reverse.flatMap Tr.pre
structure EI (A:Gh) {σ:Type} (step:σ->Tr->σ) (ok:σ->Tr->Prop) (Inv:σ->List aB->Gh->Prop) (N:Nat) (fin:σ) (x:EX σ) (G:Gh):Prop where
 rel:ie (fun v t=> ∃p,v= .pointer p/\Is A (eU t) (.pointer p)) x.vs x.ts
 cap:x.vs.length+x.rest.length=x.cap
 inv:Inv x.s x.B G
 mu:(x.ts.map tg).sum<=N
 okf:xq step ok x.s (qH x.ts)
 fin:(qH x.ts).foldl step x.s=fin
def La{α β:Type}{R:α->β->Prop}{v:α}{t:β}: ∀{vs:List α} {ts:List β},ie R (vs++[v]) (ts++[t])->ie R vs ts/\R v t
 |[],[], .cons h .nil=>⟨.nil,h⟩
 |[],_::b, .cons _ h=>by cases b<;>cases h
 |_::a,[], .cons _ h=>by cases a<;>cases h
 |_::_,_::_, .cons h k=>⟨.cons h (La k).1,(La k).2⟩
theorem okC{p:Prop}(h:p:=by simp only[bZ];omega):p:=h
def WG{step:σ->Tr->σ}{ok:σ->Tr->Prop}{Inv:σ->List aB->Gh->Prop}(V:M1 f c2 σ step ok Inv){p:Option Addr}{s:σ}{B:List aB}
  (h:Is G (eU t) (.pointer p))(hI:Inv s B G)(hok:xq step ok s t.pre)(hs:t.size<=1000000000000):
  iu prog 263 [.pointer p, .func (.func f) #[] ⟨c2⟩] B G (fun _ B' G'=>Inv (t.pre.foldl step s) B' G'):=by
 refine iu.intro func263 J J ntmps263 J ?_;intro C _ _;refine sR<|sm J J<|?_;refine sc (QF J okL okL oma oma J ?_);intro b1;refine sa J J<|zE<|xE<|?_;refine P8 (X:=EX σ) (fun x=>[(4, .slice (some ⟨x.b,0,none⟩) x.vs.length x.cap),(1, .func (.func f) #[] ⟨c2⟩)]) (fun x=>⟨x.b,x.vs++x.rest,149,x.lo⟩::x.B) (EI G step ok Inv (tg t) (t.pre.foldl step s)) (fun x=>(x.ts.map tg).sum)
  ⟨[t],[.pointer p],[],b1,1,true,s,asB B⟩ ⟨.cons ⟨p,J,h⟩ .nil,J,V.re (fun _=>false) hI,omc,by simpa[qH] using hok,by simp[qH]⟩ (.cons J (.cons J .nil)) J ?_
 rintro ⟨ts,vs,rest,b,cap,lo,s1,B1⟩ Gx _ ⟨hrel,hcap,hinv,hmu,hokf,hfin⟩;simp only at hrel hcap hinv hmu hokf hfin;have hln:=hrel.len;have hlt:=Wt ts;unfold tg at hmu hlt;refine fy<|sR<|sm J J<|uC J J<|sy (AQ J J) J<|zE<|?_;refine PJ J (fun hc=>?_) (fun hc=>?_)
 .refine TS<|E6<|E6<|Od<|?_
  refine KQ .nil _ _ (List.Perm.refl _) (nK _ _) ?_;obtain rfl:ts=[]:=by
   cases ts with
   |nil=>rfl
   |cons a l=>simp only[bZ] at hln;exfalso;apply hc;show(0:Int)<(vs.length:Int);omega
  have:s1=t.pre.foldl step s:=hfin;rw[<-this];exact hinv
 refine zK<|?_;obtain⟨vs,v,rfl⟩: ∃vs' v',vs=vs'++[v']:=by
  rcases nN vs with e|⟨a,b,e⟩
  .subst e;simp at hc
  .exact⟨a,b,by rw[e,oQ]⟩
 obtain⟨ts,u,rfl⟩: ∃vs' v',ts=vs'++[v']:=by
  rcases nN ts with e|⟨a,b,e⟩
  .subst e;simp at hln
  .exact⟨a,b,by rw[e,oQ]⟩
 obtain⟨hrel1,q,rfl,hq⟩:=La hrel;have hl1:(vs++[Value.pointer q]).length=vs.length+1:=by simp
 have hst:qH (ts++[u])=u.pre++qH ts:=by simp[qH]
 rw[hst] at hokf hfin;simp only[aM,tY,bV,iU,tX,List.sum_nil,gK,aY,fY] at hmu hlt hln hcap;refine aB8 [(4,Value.slice (some ⟨b,0,none⟩) (vs.length+1:Nat) cap),(1, .func (.func f) #[] ⟨c2⟩)] (.cons (by show some (Value.slice _ (vs++[Value.pointer q]).length _)=_;rw[hl1]) (.cons J .nil)) ?_;refine xE<|sR<|sm J J<|uC J J<|sy (XU J J) J<|sa J J<|zE<|sR<|sm J J<|?_;rw[show((vs.length+1:Nat):Int)-1=(vs.length:Nat) by omega];refine sm J J<|sy (wC J J) J<|?_;refine sy (pk (v:=Value.pointer q) J (by rw[cK,jS,dV,jZ (bJ _),pK];rfl)) J<|sa J J<|zE<|sR<|sm J J<|sm J J<|sy (Eo J J) J<|?_;rw[cK];refine sa J J<|zE<|sR<|sm J J<|sm J J<|?_;have hokq:ok s1 u/\xq step ok (step s1 u) (u.pre.tail++qH ts):=by cases u<;>exact hokf
 refine sc (AA (c1:=[]) (M:=B1) (rest:=[⟨b,vs++[Value.pointer q]++rest,149,lo⟩]) J J (jK (l₁:=[_])) (V.go hokq.1 hinv (hq.up GL.le)) J ?_);rintro _ B2 G2 fl _ _ _ hinv2;replace hinv2:=V.re fl hinv2;refine AV (⟨b,vs++Value.pointer q::rest,149,lo⟩::B2.map (relo fl)) (by rw[dV];exact(jK (l₂:=[_]))) ?_;generalize B2.map (relo fl)=B2 at*;refine zE<|sR<|sm J J<|?_
 cases u with
 |leaf bb=>
  refine sc (zC J J (PF.fn0 qD (.cons (hq.up GL.le) .nil)) J ?_);rintro _ G3 _ hv
  cases aI.1 hv
  refine sy (uh J) J<|zE<|tq J<|zK<|?_;exact Iy ⟨ts,vs,Value.pointer q::rest,b,cap,lo,step s1 (.leaf bb),B2⟩ ⟨hrel1,by simp only[bZ];omega,V.up GL.le hinv2,by simp only;unfold tg;omega,hokq.2,hfin⟩ (by simp only[aM,tY,bV,iU,tX,List.sum_nil];unfold tg;omega) (.cons J (.cons J .nil)) J
 |node l x y=>
  obtain⟨nbk,m,e,hg,hm⟩:=lG.1 (id hq)
  cases e
  obtain⟨n1,d1,p1,n2,d2,p2,n3,d3,p3,q1,q2,rfl,_,hx,hy⟩:=QL hm;have hgg:vd G nbk _:=⟨hg⟩;refine sc (zC J J (PF.fn0 ti (.cons (hq.up GL.le) .nil)) J ?_);rintro _ G3 _ hv
  cases aI.1 hv
  refine sy (uh J) J<|zE<|uc J<|?_;refine wH [] (fun _=>false) [(0,true),(1,true),(2,true),(3,true),(4,true),(5,true),(6,true),(7,true),(8,true),(9,false),(10,false),(11,true)] follows omd<|dM J J J<|?_;refine dM J J J<|dy J (fun _=>oc J) J J<|dF J J J<|dy J (fun _=>si J vu J) J J<|?_;refine dM J J J<|dy J (fun _=>oc J) J J<|dF J J J<|dy J (fun _=>si J vu J) J J<|?_;refine dc J J (TM okL okL okL okL J ?_);intro b3;refine mr<|?_;refine dc J J (Km (m:=2) (xs:=vs) (ys:=[Value.pointer q2,Value.pointer q1]) (rest:=Value.pointer (some ⟨nbk,0,none⟩)::rest) J J (.tl _ _ _ _ (.hd ..)) we okC we (zN inferInstance J) J (by simp[Sx.flat]) oma we okL J ?_);intro b4 lo4 cap4 rest4 h1 h2;refine mr<|dA J J J<|dn<|?_;have hsz:(Tr.node l x y).size=1+x.size+y.size:=J;refine NO (⟨b4,vs++[Value.pointer q2,Value.pointer q1]++rest4,149,lo4⟩::B2) (.cons_cons _ (nK _ _)) ?_;have hs2:qH (ts++[y,x])=x.pre++y.pre++qH ts:=by simp[qH]
  refine Iy ⟨ts++[y,x],vs++[Value.pointer q2,Value.pointer q1],rest4,b4,cap4,lo4,step s1 (.node l x y),B2⟩ ⟨hrel1.app (.cons ⟨_,J,hy⟩ (.cons ⟨_,J,hx⟩ .nil)),by simp only[aY,bZ,fX];omega,V.up GL.le hinv2,?_,?_,?_⟩ ?_ (.cons (by show some (Value.slice _ (vs.length+2) _)=some (Value.slice _ (vs++[_,_]).length _);rw[aY];rfl) (.cons J .nil)) J
  .simp only[aM,tY,bV,iU,tX,List.sum_nil];unfold tg;omega
  .simp only;rw[hs2];exact hokq.2
  .simp only;rw[hs2];exact hfin
  .simp only[aM,tY,bV,iU,tX,List.sum_nil];unfold tg;omega
def axa{own:List aB}{Φ:Act->World->Prop}{dst:Option Nat}{ty':TypeId}{pos:String}{af:Array Edge}{gd:Option (Nat×Bool)}{fo:Operand}{args:Array Operand}{tys:Array TypeId}{vs:List Value}{rest:List aB}(ho:aD fr fo=some (.func (.func f) #[] #[]))(hv:fG fr args.toList=some vs)
  (hp:own.Perm (M++rest))(hF:iu P f vs M G K)(hd:cg n dst=true)
  (h: ∀v own1 (G':Gh) (fl:Nat->Bool),[GE G G']->(∀m∈M,m.lo=false->fl m.b=false)->((∀m∈M,m.lo=true)-> ∀b,fl b=true)->K v own1 G'->St C n (put fr dst v) (own1.map (relo fl)++rest) G' Φ):
  Ch P C n fr own G ⟨dst, .call ⟨.value fo,args,tys⟩,ty',pos,af,gd⟩ Φ:=
 AA (c1:=[]) (c2:=[]) ho hv hp ozE hd h
def szI(nbk:Nat)(s:Nat)(B:List aB)(_:Gh):Prop:= ∃lo,B=[⟨nbk,[.int .i64 s],3,lo⟩]
def t7(s:Nat):Tr->Nat
 | .leaf _=>s
 | .node .. =>s+1
def aAY(nbk:Nat):M1 264 [.pointer (some ⟨nbk,0,none⟩)] Nat t7 (fun s _=>s<1000000000000) (szI nbk) where
 up:=fun _ h=>h
 re:=fun{s B G} fl h=>by obtain⟨lo,rfl⟩:=h;exact⟨_,rfl⟩
 go:=by
  intro s t p B G hs hI ht;obtain⟨lo,rfl⟩:=hI;refine iu.intro func264 J J ntmps264 J ?_;intro C _ _;show St C _ _ [⟨nbk,_,_,false⟩] _ _
  cases t with
  |node l x y=>
   refine sR<|sm J J<|?_;refine sc (zC J J (PF.fn0 ti (.cons ht .nil)) J ?_);rintro _ G1 _ hv
   cases aI.1 hv
   refine sy (uh J) J<|zE<|uc J<|D9<|ol J J J<|sy (xG J J) J<|?_;refine sc (zR J J J (.hd ..) (nb J) J J ?_);refine zE<|?_;exact KQ .nil _ _ (List.Perm.refl _) (List.Sublist.refl _) ⟨false,by show [_]=[_];rfl⟩
  |leaf b=>
   refine sR<|sm J J<|?_;refine sc (zC J J (PF.fn0 qD (.cons ht .nil)) J ?_);rintro _ G1 _ hv
   cases aI.1 hv
   refine sy (uh J) J<|zE<|tq J<|zK<|?_;exact KQ .nil _ _ (List.Perm.refl _) (List.Sublist.refl _) ⟨false,J⟩
def K1: ∀(t:Tr) (s:Nat),t.pre.foldl t7 s=s+t.size
 | .leaf _,s=>rfl
 | .node l x y,s=>by
  simp only[Tr.pre,iK,oK,t7,K1 x,K1 y,Tr.size];omega
def Hr: ∀(t:Tr) (s:Nat) (L:List Tr),s+t.size<1000000000000->(∀s',s'=s+t.size->xq t7 (fun s _=>s<1000000000000) s' L)->xq t7 (fun s _=>s<1000000000000) s (t.pre++L)
 | .leaf _,s,L,h,k=>⟨by simp only[Tr.size] at h;omega,k _ J⟩
 | .node l x y,s,L,h,k=>by
  simp only[Tr.size] at h k;simp only[Tr.pre,iJ,dV];exact⟨we,Hr x _ _ (by simp only[t7];omega) fun s1 e1=>Hr y _ _ (by subst e1;simp only[t7];omega) fun s2 e2=>k _ (by subst e1 e2;simp only[t7];omega)⟩
def Wu(hs:t.size<1000000000000):PF GB prog 206 [eU t] (vI (t.size:Nat)):=by
 intro G vs _ hv;obtain⟨v0,m,rfl,h,hm⟩:=bh.1 hv;rw[dm] at hm;subst hm;obtain⟨p,rfl⟩:=xH h;refine Fn.intro func206 J J ntmps206 J ?_;intro C _ _;refine sR<|sa J J<|zE<|sR<|?_;refine sc (wF J ?_);intro b1;refine sc (zR J J J (.hd ..) (nb J) J J ?_);refine zE<|sR<|sm J J<|sy (Gs J J) J<|?_;have hok:xq t7 (fun s _=>s<1000000000000) 0 t.pre:=by
  have:=Hr t 0 [] we (fun _ _=>trivial);rwa [gX] at this
 refine sc (axa (M:=[⟨b1,[.int .i64 0],3,true⟩]) (rest:=[]) J J (List.Perm.refl _) (WG (aAY b1) h ⟨true,J⟩ hok we) J ?_);rintro _ B G2 fl _ _ _ ⟨lo,rfl⟩;rw[K1,eM];show St C _ _ [⟨b1,[.int .i64 t.size],3,_⟩] _ _;refine zE<|sR<|ol J J J<|sa J J<|zE<|me<|?_;exact zD (.tmp J .nil) (aI.2 J)

end Go.Sx
end
section
namespace Go.Sx
open Go Go.Proofs Go.RowKit Go.Extern.Stop Go.Stop Go.Extern
def Rk(v:Value)(w:World):(Extern.ReflectliteType.typeOf #[.iface 395 v]).run Tryz.prog w= .ok (.iface 202 (.agg #[.pointer (some ⟨Tryz.prog.globals.size,395,none⟩)])) w:=by kernel_rfl
def Hz:TypeId->Sem Value:=fun t=>do Go.Extern.Rtype.noPackHeld "Comparable" t;pure (.bool (<-typeInfo t).comparable)
def MI(w:World):((Extern.ReflectliteType.method Hz) #[.agg #[.pointer (some ⟨Tryz.prog.globals.size,395,none⟩)]]).run Tryz.prog w= .ok (.bool true) w:=by kernel_rfl
def O3:(Tryz.prog.info? 395).map (·.comparable)=some true:=by kernel_rfl
def S7:(Tryz.prog.info? 420).map (·.size)=some 1:=by kernel_rfl
def N'(n:Nat)(v:Value)(w:World):(Go.method (n+1) 202 v "Comparable").run Tryz.prog w= .ok (326,v) w:=by
 kernel_rfl
def aGD(a:Addr)(w:World):Calls Tryz.prog 17 #[.iface 395 (.pointer (some a)), .iface 395 (.pointer (some a))] w fun e w'=>e= .returned (.bool true)/\w'=w:=by
 obtain⟨i,hi,hcmp⟩:=nY.1 O3;obtain⟨j,hj,hjs⟩:=nY.1 S7;have h8:= @run_callFunc_extern Tryz.prog 53 _ Extern.ReflectliteType.typeOf Tryz.func53 omd omd omd omd;have h32:= @run_callFunc_extern Tryz.prog 326 _ (Extern.ReflectliteType.method Hz) Tryz.func326 omd omd omd omd;have tT:=Rk;have cT:=MI;obtain⟨g,hg⟩: ∃g,g=Tryz.prog.globals.size:=⟨_,rfl⟩;simp only[<-hg] at tT cT;clear hg;have mR:=N';have heq:=run_eql_iface_ptr_same (P:=Tryz.prog) w a Tryz.underlying41 Tryz.underlying395 hi hcmp hj
 go_enter Tryz.func17,Tryz.ntmps17
 go_wp2
 refine wp_loop_rounds 1 ?_;rw[rounds_succ]
 go_wp2
 go_ret
 exact⟨J,J⟩
def LQ:s6 Tryz.prog 17:=⟨_,Tryz.func17,omd,omd⟩
def mc(a:Addr):DV:= .v (.iface 395 (.pointer (some a)))
def pA{GB:Gh}{a:Addr}:PF GB Tryz.prog 17 [mc a,mc a] (.v (.bool true)):=by
 intro G vs _ hv;obtain⟨v1,m,rfl,h1,hm⟩:=bh.1 hv;obtain⟨v2,m,rfl,h2,hm⟩:=bh.1 hm;rw[dm] at hm;subst hm
 cases aI.1 h1;cases aI.1 h2
 exact(Fn.of_calls LQ (aGD a)).mono fun v G' _ h=>aI.2 h
end Go.Sx
end
section
namespace Go.Sx
open Go Go.Proofs Tryz
variable {n g d nm0 nm k ty s:Nat}{own' own1:aO}{f:FX}{Φ:Act->World->Prop}{c:Code}{K:List Kt}{ty0:TypeId}{lo:Bool}
section
variable {GB:Gh}{C:aF}{Q0:Exit->Act->World->Prop}{fr fr':aC}{own:aO}{cf cf':Cf}{vc:List Prop}
def Qt(fr:aC)(cf:Cf):Option Nat:=match c6 fr cf with
 |some ⟨_, .load t (.global g),_,_,_,_⟩=>(match eo tt t with
  |some i=>match i.ag with
   |some none=>some g
   |_=>none
  |none=>none)
 |_=>none
def gl[fu:Fu]{v:Value}(h:Qt fr cf=some g)(hg:GB g=some [v])(hgo:cB tt n fu.n fr own cf (.d (.v v)) [] []=⟨vc,fr',own',cf'⟩)(k:aA prog GB C n Q0 fr' own' cf')
  (hv:autoParam (ak vc) cL._auto_1):aA prog GB C n Q0 fr own cf:=by
 unfold Qt at h;split at h<;>try (cases h;done)
 rename_i hh;split at h<;>try (cases h;done)
 rename_i i hT;split at h<;>cases h;rename_i ha;haveI:=xy (fi _ _ hT) ha;refine us (f:= .d (.v v)) hh (b8.yd fun ρ G ov a w r=>⟨v,(aI (G:=G)).2 J,?_⟩) hgo hv k;haveI:vd G g [v]:=⟨r.gb _ _ hg⟩;exact si (b:=g) (off:=0) J vu J
def axd{x:DV}(hl:bi fr d=some f)(e:ke f=some x)(h:SX GB C n (bi ((d, .d x)::fr)) (bu own) Φ):SX GB C n (bi fr) (bu own) Φ:=ql (g:= .d x) hl (fun _ _ _ k=>nq k e) h
def YO(d:Nat)(x:DV)(hl:bi fr d=some f)(e1:ke f=some x)(k:aA prog GB C n Q0 ((d, .d x)::fr) own (.code c K)):aA prog GB C n Q0 fr own (.code c K):=axd hl e1 k
def aLp{B1 B2:Option Bk}:bu (oP (oP own nm0 B1) nm B2)=upB (upB (bu own) [(nm0,B1)]) [(nm,B2)]:=by
 funext j;rw[Cc];simp only[upB];rw[Cc]
def aBa(hnm:Nat.blt nm 2000000=true){cs:List FX}(hb:bu own nm0=some (.o ty0 cs lo))(hk:cs[k]? =some .nl)(hne:nm0≠nm)(hf:kE [nm] none (bi fr) (bu own))
  (h:SX GB C n (bi fr) (bu (oP (oP own nm0 (some (.o ty0 (cs.set k (.rw nm)) lo))) nm (some (.b ty s [] true)))) Φ):SX GB C n (bi fr) (bu own) Φ:=by
 refine⟨fun ρ G ov a w r=>?_⟩;obtain⟨f1,f2⟩:=hf nm aZ;rw[aLp] at h;refine h.run (fun k=>if k=nm then⟨none,0,0⟩ else ρ k) G ov a w ⟨r.gb,r.h,r.sz,r.df,fun k f e=>?_,fun m B e=>?_,fun m m' B B' e e' hne=>?_,fun m p h1 h2 e=>by
  have:nm<2000000:=by simpa[lU] using hnm
  show(if m=nm then(⟨none,0,0⟩:SV) else ρ m).a=_;rw[if_neg we];exact r.fxd m p h1 h2 e⟩
 .obtain⟨v,h1,h2⟩:=r.fx k f e
  exact⟨v,h1,h2.ren fun m hm=>vH _ fun hc=>f1 k f omc e (by rw[hm,hc])⟩
 .simp only[upB] at e
  by_cases hm:m=nm
  .subst hm;simp only[if_true] at e;cases e
   exact⟨[],⟨[],by simp only[if_true];exact .inl ⟨J,J,J⟩, .nil,omc,fun _ o ho=>by cases ho⟩,fun o ho=>by cases ho⟩
  .simp only[hm,if_false] at e
   by_cases hm0:m=nm0
   .subst hm0;simp only[if_true] at e;cases e
    obtain⟨os,h1,h2⟩:=r.bx m _ hb;have h1':lI (fun k=>if k=nm then⟨none,0,0⟩ else ρ k) G m (.o ty0 cs lo) os:=h1.ren (if_neg hm) fun q hq=>vH _ fun hc=>f2 m _ hm hb ozh;obtain⟨b,ms,k1,k2,k3⟩:=h1';refine⟨os,⟨b,ms,k1,k2,?_⟩,h2⟩;obtain⟨y,e1,e2⟩:=k3.get hk;have:=k3.set (f:= .rw nm) (y:=y) k (by show y=_;simp only[if_true];exact e2);rwa [show ms.set k y=ms by apply lR;intro j;rw[qQ];split<;>(try rfl);rename_i hj;subst hj;split<;>simp_all] at this
   .simp only[hm0,if_false] at e
    obtain⟨os,h1,h2⟩:=r.bx m B e;exact⟨os,h1.ren (if_neg hm) fun q hq=>vH _ fun hc=>f2 m B hm e ozh,h2⟩
 .intro b hbb hb'
  have key: ∀q B,upB (upB (bu own) [(nm0,some (.o ty0 (cs.set k (.rw nm)) lo))]) [(nm,some (.b ty s [] true))] q=some B->q≠nm-> ∃B0,bu own q=some B0:=fun q B eq hq=>by
   simp only[upB,hq,if_false] at eq;by_cases hq0:q=nm0
   .subst hq0;exact⟨_,hb⟩
   .simp only[hq0,if_false] at eq;exact⟨_,eq⟩
  by_cases hm:m=nm
  .simp[hm] at hbb
  .by_cases hm':m'=nm
   .simp[hm'] at hb'
   .obtain⟨B0,g0⟩:=key m B e hm
    obtain⟨B1,g1⟩:=key m' B' e' hm';simp only[hm,hm',if_false] at hbb hb';exact r.dj m m' B0 B1 g0 g1 hne b hbb hb'
def FP(nm0 k nm ty s:Nat){cs:List FX}(hb:bu own nm0=some (.o ty0 cs lo))(hk:cs[k]? =some .nl)(hf:uw [nm] none fr own=true)(hne:Nat.beq nm0 nm=false)
  (ho:oP (oP own nm0 (some (.o ty0 (cs.set k (.rw nm)) lo))) nm (some (.b ty s [] true))=own1)(h:aA prog GB C n Q0 fr own1 (.code c K))(hnm:Nat.blt nm 2000000=true:=by rfl):aA prog GB C n Q0 fr own (.code c K):=by
 subst ho;exact aBa hnm hb hk (fun e=>by subst e;rw[oJ] at hne;cases hne) (AF hf) h
def RH{ρ:NE}{G:Gh}: ∀{a b:List FX} {m:List Value},du ρ G (a++b) m-> ∃m1 m2,m=m1++m2/\du ρ G a m1/\du ρ G b m2
 |[],b,m,h=>⟨[],m,J,J,h⟩
 |f::t,b,m,⟨y,n,e,h1,h2⟩=>by
  obtain⟨m1,m2,rfl,k1,k2⟩:=RH h2;exact⟨y::m1,m2,e,⟨y,m1,J,h1,k1⟩,k2⟩
end
end Go.Sx
end
