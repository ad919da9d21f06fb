import Derived.Test.YtefoocgiaegobaaGreatDoorPf13
import Derived.WalkKit
import Derived.LaidEql
import Derived.Stop.Asserts
import Derived.RowKitTokens
set_option linter.all false
set_option maxHeartbeats 2000000
set_option maxRecDepth 100000
section
namespace Go.Sx
open Go Go.Proofs Tryz
variable {GB:Gh}
def bh(f:aH):DV:= .ag [vI (dx (f.l.a:Rat)),vI (dB (f.l.a:Rat)),c9 (f.l.a:Rat),vI (dx (f.l.b:Rat)),vI (dB (f.l.b:Rat)),c9 (f.l.b:Rat),vI (dx (f.l.c:Rat)),vI (dB (f.l.c:Rat)),c9 (f.l.c:Rat),vI (dx f.v.lo),vI (dB f.v.lo),c9 f.v.lo,vI (dx f.v.hi),vI (dB f.v.hi),c9 f.v.hi, .v (.bool f.v.nl), .v (.bool f.v.nh)]
structure s9 (v:av):Prop where
 z:jv v
 lo:BQ v.lo 1200
 hi:BQ v.hi 1200
structure Dr (s:aH):Prop where
 lb:LB s.l
 ok:s.l.ok
 v:s9 s.v
abbrev jj (c:aF):Prop:= ∀s∈c,Dr s
def vj{α:Type}(f:α->DV)(l:List α):(l.map f).length=l.length:=by simp
def s9.all:s9 av.all:=⟨⟨fun _=>J,fun _=>J⟩,BQ.z1.mono (by decide),BQ.z1.mono (by decide)⟩
def s9.cut{l m:ab}{v:av}[LB l][LB m](hn:l.Ne)(h:s9 v):s9 (l.cutV v m):=by
 by_cases h0:crossI l m=0
 ·rw[(awU (v:=v) h0).1];exact h
 ·obtain⟨u1,_,u3,u4,u5⟩:=XC (v:=v) hn h.z h.lo h.hi h0
  rw[u1];exact⟨u3,u4,u5⟩
def If(o:Option av):av:=o.getD ⟨0,0,false,false⟩
def aDn(G:Gh)(y:Value)(k:Is G (.tp [.ag [vI 0,vI 0, .v (.pointer none),vI 0,vI 0, .v (.pointer none), .v (.bool false), .v (.bool false)], .v (.bool false)]) y):Is G (.tp [eW (If none),vB false]) y:=by
 obtain⟨m,rfl,g⟩:=js.1 k;exact js.2 ⟨m,J,Qc (fun y hy=>by
  obtain⟨l,rfl,g⟩:=cO.1 hy;exact cO.2 ⟨l,J,Bx (Hu [vI 0,vI 0, .v (.pointer none)] g)⟩) g⟩
def d6{α:Type}{f:α->DV}{l:List α}{i:Nat}{s:α}(h:l[i]? =some s):(l.map f)[(i:Int).toNat]? =some (f s):=by simp[h]
def H7{α:Type}{l:List α}{k:Nat}{s:α}(h:l[k]? =some s):l.drop k=s::l.drop (k+1):=by
 obtain⟨h1,h2⟩:=aU.1 h;rw[bY h1,h2]
def N4{l:ab}{c:aF}{v:av}{k:Nat}{s:aH}(h:c[k]? =some s):nf l (c.drop k) v=if l.cutB v s.l then nf l (c.drop (k+1)) (l.cutV v s.l) else none:=by
 rw[H7 h];rfl
def F9{l:ab}{c:aF}{k:Nat}{s:aH}(h:c[k]? =some s):n0 l (c.drop k)=if ow l s≠0 then ow l s else if s.l=l then 1 else n0 l (c.drop (k+1)):=by
 rw[H7 h];rfl
instance BQ.sample (v:av) [h1:BQ v.lo 1200] [h2:BQ v.hi 1200]:BQ v.sample 2500:=by
 unfold av.sample;split
 ·exact BQ.mono (k:=1) ⟨by decide,by decide⟩ (by decide)
 ·split
  ·exact BQ.mono (inferInstance:BQ (v.hi-((1:Int):Rat)) _) (by decide)
  ·split
   ·exact BQ.mono (inferInstance:BQ (v.lo+((1:Int):Rat)) _) (by decide)
   ·exact BQ.mono (inferInstance:BQ ((v.lo+v.hi)*mkRat 1 2) _) (by decide)
def Jh{c:aF}{l:ab}[hl:LB l](hlo:l.ok)(hc:jj c)(hn:c.length<=1000000):PF GB prog 274 [.sl (c.map bh),eH l] (.tp [eW (If (lP c l)),vB (lP c l).isSome]):=by
 have hm:=vj bh c;refine fn func274 J J ntmps274 J J (fun C=>?_);refine cl (fu:=⟨10⟩) J Vc J<|?_;refine ao 12 (.d (vI (c.length:Nat))) J (by rw[vj]<;>rfl) ?_;refine gx J<|?_;refine lp (X:=av×Nat) (fun⟨v,k⟩=>[(13, .d (vI (k:Nat))),(6, .ov 6 0)]) (fun⟨v,k⟩=>[(6,some (.o 220 [.d (vI (dx v.lo)), .d (vI (dB v.lo)), .d (c9 v.lo), .d (vI (dx v.hi)), .d (vI (dB v.hi)), .d (c9 v.hi), .d (.v (.bool v.nl)), .d (.v (.bool v.nh))] true))]) (fun⟨v,k⟩=>k<=c.length/\s9 v/\nf l (c.drop k) v=lP c l) (fun⟨v,k⟩=>c.length-k) (av.all,0) J ⟨bK _, .all,J⟩ (fun _=>J) (fun⟨v,k⟩ hk=>?_);dsimp only at hk⊢;obtain⟨h1,h2,h3⟩:=hk;haveI:=h2.lo;haveI:=h2.hi;refine br J J J (fun hc14=>?_) (fun hc14=>?_)
 .
  obtain⟨s,hs0⟩: ∃s,c[k]? =some s:=⟨_,aX (by omega)⟩;have hs:=hc s (aS hs0);haveI:=hs.lb;refine ix _ J (d6 hs0) J<|cl (fu:=⟨0⟩) J (zo (l:=l) (m:=s.l) (v:=v)) J<|?_;generalize hw:l.cutV v s.l=w;generalize hb:l.cutB v s.l=b;refine gx J<|?_;refine bb J J J (fun hc26=>?_) (fun hc26=>?_)
  .
   exact i4 J (by rw[<-h3,N4 hs0,hb,if_neg (by simpa using hc26)];exact aDn)
  .
   exact at_ (w,k+1) (by dsimp only;exact⟨⟨by omega,hw▸h2.cut hlo.1,by rw[<-h3,N4 hs0,hb,hw,if_pos (by simpa using hc26)]⟩,(by omega)⟩)
 .
  exact rz J (by rw[<-h3,gL (by omega)];rfl)
def Uq{c:aF}{l:ab}[hl:LB l](hlo:l.ok)(hc:jj c)(hn:c.length<=1000000):PF GB prog 275 [.sl (c.map bh),eH l] (vI (vK c l)):=by
 have hm:=vj bh c;refine fn func275 J J ntmps275 J J (fun C=>?_);refine cl J (Jh (c:=c) (l:=l) hlo hc hn) J<|?_;refine bb (fu2:=⟨7⟩) J J J (fun hc16=>?_) (fun hc16=>?_)
 .
  exact rz J (by unfold vK;rw[if_pos hc16];rfl)
 .
  have hp:vK c l=n0 l c:=by unfold vK;rw[if_neg (by simp[hc16])]
  refine ao 18 (.d (vI (c.length:Nat))) J (by rw[vj]<;>rfl) ?_;refine gx J<|?_;refine lp (X:=Nat) (fun k=>[(19, .d (vI (k:Nat)))]) (fun k=>[]) (fun k=>k<=c.length/\n0 l (c.drop k)=n0 l c) (fun k=>c.length-k) 0 J ⟨bK _,J⟩ (fun _=>J) (fun k hk=>?_);obtain⟨h1,h2⟩:=hk;refine br J J J (fun hc20=>?_) (fun hc20=>?_)
  .
   obtain⟨s,hs0⟩: ∃s,c[k]? =some s:=⟨_,aX (by omega)⟩;have hs:=hc s (aS hs0);haveI:=hs.lb;haveI:=hs.v.lo;haveI:=hs.v.hi;haveI:=BQ.sample s.v;refine ix _ J (d6 hs0) J<|cl (fu:=⟨0⟩) J (OA (v:=s.v)) J<|?_;generalize ht:s.v.sample=t at*;refine gx J<|cl J (Br (l:=s.l) (t:=t)) J<|cl J (vf (l:=l) (p:=s.l.at t)) J<|?_;refine br J J J (fun hc32=>?_) (fun hc32=>?_)
   .
    have hsd:ow l s=(l.value (s.l.at t)).num.sign:=by unfold ow;rw[ht]
    exact rz J (by rw[hp,<-h2,F9 hs0,hsd,if_pos hc32];rfl)
   .
    refine cl J (Tb (l:=s.l) (m:=l)) J<|?_;refine bd J J J (fun hc37=>?_) (fun hc37=>?_)
    .
     have hsd:ow l s=(l.value (s.l.at t)).num.sign:=by unfold ow;rw[ht]
     exact rz J (by rw[hp,<-h2,F9 hs0,hsd,if_neg hc32,if_pos hc37];rfl)
    .
     have hsd:ow l s=(l.value (s.l.at t)).num.sign:=by unfold ow;rw[ht]
     exact at_ (k+1) ⟨⟨by omega,by rw[<-h2,F9 hs0,hsd,if_neg hc32,if_neg hc37]⟩,(by omega)⟩
  .
   exact rz J (by rw[hp,<-h2,gL (by omega)];rfl)
def Xl{vs rest:List Value}(h: ∀v∈vs,(aE v).length=17){i:Nat}(hi:i<=vs.length):cF (aC vs++rest) (i*17) ((vs.length-i)*17)=some (aC (vs.drop i)):=by
 have hl:=ek vs h;have hd:(aC (vs.drop i)).length=(vs.length-i)*17:=by
  rw[ek (s:=17) _ (fun v hv=>h v (iL hv)),gR]
 rw[ma _ _ _ (by simp only[aT];omega)];congr 1;rw[jY (by omega),AX vs i h hi,eY (by omega),bQ (by omega)]
def YU{vs rest vcs:List Value}(h: ∀v∈vs,(aE v).length=17)(hv:vcs.length=17){i:Nat}(hi:i<vs.length)(hr:17<=rest.length):
  cp (cp (aC vs++rest) ((i+1)*17) (aC (vs.drop i))) (i*17) vcs=aC (vs.take i)++vcs++aC (vs.drop i)++rest.drop 17:=by
 have hl:=ek vs h;have hd:(aC (vs.drop i)).length=(vs.length-i)*17:=by
  rw[ek (s:=17) _ (fun v hv=>h v (iL hv)),gR]
 have ht:(aC (vs.take i)).length=i*17:=by
  rw[ek (s:=17) _ (fun v hv=>h v (fV hv)),bM,gV (by omega)]
 rw[px (aC (vs.drop i)) (aC vs++rest) _ (by rw[aT];omega)];rw[px vcs _ _ (by simp only[aT,bM,gR];omega)];have e1:(aC vs++rest).drop ((i+1)*17+(aC (vs.drop i)).length)=rest.drop 17:=by
  rw[hd,show(i+1)*17+(vs.length-i)*17=(aC vs).length+17 by omega,mL,oS (by omega),cY];congr 1;omega
 have e2:((aC vs++rest).take ((i+1)*17)++aC (vs.drop i)++rest.drop 17).take (i*17)=aC (vs.take i):=by
  rw[dQ,eY (by simp only[bM,aT];omega),List.take_take,gV (by omega),eY (by omega),DR vs i h (by omega)]
 have e3:((aC vs++rest).take ((i+1)*17)++aC (vs.drop i)++rest.drop 17).drop (i*17+vcs.length)=aC (vs.drop i)++rest.drop 17:=by
  rw[hv,dQ,show i*17+17=((aC vs++rest).take ((i+1)*17)).length by simp only[bM,aT];omega,List.drop_left]
 rw[e1,e2,e3];simp[dQ]
def SM{vs rest vcs:List Value}(h: ∀v∈vs,(aE v).length=17)(hv:vcs.length=17)(hr:17<=rest.length):cp (aC vs++rest) (vs.length*17) vcs=aC vs++vcs++rest.drop 17:=by
 have hl:=ek vs h;rw[px _ _ _ (by simp only[aT];omega),hv,<-hl,List.take_left,mL];simp
def Z8{G:Gh}{b bv cap i c2:Nat}{vs rest vcs r2:List Value}{lo lo2:Bool}(hvs: ∀v∈vs,(aE v).length=17)(hfl: ∀v∈vs,∀c∈aE v,flat c=true)(hv:vcs.length=17)(hvf: ∀c∈vcs,flat c=true)
  (hcap:vs.length*17+rest.length=cap*17)(hroom:vs.length+1<=cap)(hi:i<=vs.length)(hb:vs.length<=1125899906842624):
  jB prog 280 [.slice (some ⟨b,0,none⟩) vs.length cap, .int .i64 i, .slice (some ⟨bv,0,none⟩) 1 c2] [⟨b,aC vs++rest,222,lo⟩,⟨bv,vcs++r2,222,lo2⟩] G
   (fun u css _=>u= .slice (some ⟨b,0,none⟩) (vs.length+1) cap/\css=[aC (vs.take i)++vcs++aC (vs.drop i)++rest.drop 17,vcs++r2]):=by
 have hL:(aC vs++rest).length=cap*17:=by rw[aT,ek vs hvs];exact hcap
 have hr:17<=rest.length:=by omega
 have hD:(aC (vs.drop i)).length=(vs.length-i)*17:=by
  rw[ek (s:=17) _ (fun v hv=>hvs v (iL hv)),gR]
 have hDf: ∀c∈aC (vs.drop i),flat c=true:=fun c hc=>by
  obtain⟨l,hl,hcl⟩:=List.mem_flatten.1 hc;obtain⟨v,hv,rfl⟩:=bV.1 hl;exact hfl v (iL hv) c hcl
 have hvt:cF (vcs++r2) 0 (1*17)=some vcs:=by rw[ma _ _ _ (by rw[aT];omega),jJ,eY (by omega),bQ (by omega)]
 refine jB.intro func280 J J ntmps280 J ?_;intro C _ _;show St C _ _ [⟨b,aC vs++rest,222,false⟩,⟨bv,vcs++r2,222,false⟩] _ _;refine ayn (fun hne=>?_);simp only[] at hne;refine sR<|sa J J<|zE<|sR<|sm J J<|sm J J<|sy (CQ J J (by omega) (by omega)) J<|zE<|sR<|?_;refine sm J J<|cI J J<|sa J J<|zE<|bt<|sR<|sm J J<|sy (iF J J) J<|zE<|vQ J<|?_;refine zK<|sR<|sm J J<|cI J J<|sa J J<|zE<|bt<|sR<|sm J J<|sm J J<|sy (iF J J) J<|zE<|?_;refine f7 J (fun hc=>?_) (fun hc=>?_) -- slot 22
 ·have hin:i=vs.length:=by omega
  subst hin;refine sR<|sm J J<|sm J J<|?_;refine sc (N0 (s:=17) (m:=1) (ys:=vcs) J J (.hd ..) hL (xJ inferInstance hvt) (by omega) hvf hroom J ?_);refine sa J J<|zE<|c6<|?_;refine r8 (css:=[cp (aC vs++rest) (vs.length*17) vcs,vcs++r2]) (.tmp J .nil) J _ (List.Perm.refl _) (List.Sublist.refl _) ⟨J,?_⟩;rw[SM hvs hv hr,dT,jK];simp[aC]
 have hin:i<vs.length:=by omega
 have hn1:((vs.length:Int)+((1:Nat):Int)).toNat=vs.length+1:=by omega
 have ht1:((i:Int)+((1:Nat):Int)).toNat=i+1:=by omega
 refine zK<|bt<|sR<|sm J J<|sm J J<|sy (d9 J J) J<|sm J J<|?_;refine sy (Ye J) J<|sy (sO J J) J<|zE<|?_;refine f7 J (fun hc2=>?_) (fun hc2=>?_) -- slot 31
 ·exact absurd hc2 (by omega)
 refine zK<|sR<|sm J J<|sm J J<|sm J J<|sy (d9 J J) J<|sy (xZ J J (by omega) (by omega)) J<|?_;rw[hn1];refine sa J J<|zE<|bt<|sR<|sm J J<|sm J J<|sm J J<|sm J J<|sy (d9 J J) J<|sy (By J J (by omega) (by omega) (by omega)) J<|?_;refine sy (RJ (tS:=130) (tR:=4) func355 (by kernel_rfl) (by kernel_rfl) (by kernel_rfl) (by kernel_rfl) J J (Ne.symm hne) (fun h=>by rw[h] at hL;simp at hL;omega)) J<|?_;refine sy (Dt J) J<|zE<|pj J<|?_;refine bt<|dr0 (b:=b) (fun _=>false) [(0,true),(1,true),(2,true),(3,true),(4,true),(5,true),(6,true),(7,true),(8,false)] follows (.hd ..) (by kernel_rfl)<|dM J J J<|?_;refine dM J J J<|dM J J J<|dy J (fun _=>d9 J J (by omega) (by omega)) J J<|dy J (fun _=>By J J (by omega) (by omega) (by omega)) J J<|?_;refine dM J J J<|dM J J J<|dy J (fun _=>By J J (by omega) (by omega) (by omega)) J J<|?_;rw[ht1,bZ,dS,dS];refine dc J J (LF (s:=17) (m:=vs.length-i) (ys:=aC (vs.drop i)) J J (by show min _ _=_;omega) (xJ inferInstance (Xl hvs hi)) hDf (by rw[hD,hL];omega) (.hd ..) J ?_);refine mO<|dn<|sR<|sm J J<|sm J J<|sy (By J J (by omega) (by omega) (by omega)) J<|sm J J<|?_;rw[bZ,dS];refine sc (LF (s:=17) (m:=1) (ys:=vcs) J J (by show min _ _=_;omega) (xJ inferInstance hvt) hvf (by rw[An,hL,hv];omega) (.hd ..) J ?_);refine zE<|sR<|sm J J<|sa J J<|zE<|c6<|?_;refine r8 (css:=[cp (cp (aC vs++rest) ((i+1)*17) (aC (vs.drop i))) (i*17) vcs,vcs++r2]) (.tmp J .nil) J _ (List.Perm.refl _) (List.Sublist.refl _) ⟨J,?_⟩;rw[YU hvs hv hin hr]
def jB.toO{P:Program}{f:FuncId}{vs:List Value}{M:List ak}{G:Gh}{K:Value->List (List Value)->Gh->Prop}{K':Value->List ak->Gh->Prop}(h:jB P f vs M G K)(hk: ∀v css G',bw G G'->css.length=M.length->K v css G'-> ∃o,o.Sublist (kw (asB M) css)/\K' v o G'):i8 P f vs M G K':=
 ⟨h.able,fun w hw=>(h.run w hw).mono fun _ _ ⟨v,css,G',he,hl,hh,hK⟩=>let⟨o,h1,h2⟩:=hk v css G' hh.gle hl hK;⟨v,o,G',he,hh.drop h1,h2⟩⟩
def QZ(c:aF):dG 17 (c.map bh):=fun d hd=>by
 obtain⟨f,_,rfl⟩:=bV.1 hd;exact⟨rfl,rfl⟩
def Q1{G:Gh}{s:Nat}{ds:List DV}{vs:List Value}(hk:dG s ds)(h:IsLs G ds vs): ∀v∈vs,∀c∈aE v,flat c=true:=fun v hv=>by
 obtain⟨d,hd,h3⟩:=h.all v hv;exact(h3.cells (hk d hd).1).2
def WB{c:aF}{x:aH}{i cap:Nat}(hi:i<=c.length)(hc:c.length+1<=cap)(hn:c.length<=1000000):PI GB prog 280 (i:Nat) 17 222 222 (c.map bh) (bh x) cap ((c.take i++x::c.drop i).map bh):=by
 intro G w w2 B B2 _ hB hcap hB2;obtain⟨vs,q1,q2,q3,_⟩:=hB;obtain⟨us,u1,u2,u3,_⟩:=hB2;dsimp only at q1 q2 q3 u1 u2 u3;have hl:=q2.len;rw[aJ] at hl;obtain⟨v,m,rfl,hv,hm⟩:=ba.1 u2
 cases cD.1 hm
 rcases q1 with⟨_,e,_⟩|⟨b,rest,lo,e,rfl,h5,h6,h7⟩
 ·rw[e] at hcap;simp at hcap;omega
 rcases u1 with⟨h,_⟩|⟨bv,r2,lo2,e2,rfl,h8,h9,h10⟩
 ·cases h
 have hx:(aE v).length=17:=u3 v aQ;have hxf:=Q1 (s:=17) (ds:=[bh x]) (fun d hd=>by rw[aY.1 hd];exact⟨J,J⟩) u2 v aQ;have key:=Z8 (G:=G) (b:=b) (bv:=bv) (cap:=w.c) (i:=i) (c2:=w2.c) (vs:=vs) (rest:=rest) (vcs:=aE v) (r2:=r2) (lo:=lo) (lo2:=lo2) q3 (Q1 (QZ c) q2) hx hxf (by rw[<-h5];exact h6) (by omega) (by omega) (by omega);rw[e,e2];rw[wo];refine key.toO fun u css G' hg hl2 ⟨k1,k2⟩=>?_;subst k1 k2;have hall: ∀u∈vs.take i++v::vs.drop i,(aE u).length=17:=fun u hu=>by
  rcases bS.1 hu with hu|hu
  ·exact q3 u (fV hu)
  ·rcases aV.1 hu with rfl|hu
   ·exact hx
   ·exact q3 u (iL hu)
 have hlen:(vs.take i++v::vs.drop i).length=vs.length+1:=by
  rw[aT,bX,bM,gR];omega
 refine⟨[⟨b,aC (vs.take i)++aE v++aC (vs.drop i)++rest.drop 17,222,false⟩], .cons_cons _ (kQ _),⟨some ⟨b,0,none⟩,vs.length+1,w.c⟩,J,vs.take i++v::vs.drop i, .inr ⟨b,rest.drop 17,false,by rw[hlen],?_,ek _ hall,?_,?_⟩,?_,hall,fun h=>by cases h⟩
 ·rw[mE];simp[aC]
 ·rw[ek _ hall,hlen,gR]
  rw[h5] at h6;have:=bU 17 (show vs.length+1<=w.c by omega);simp only[cS] at this⊢;omega
 ·rw[hlen];show vs.length+1<=w.c;omega
 ·rw[cR,bW,kK,mS]
  exact((q2.take i).up hg).app (.cons (hv.up hg) ((q2.drop i).up hg))
def LJ{s:aH}{l:ab}[hs:LB s.l][hl:LB l]:PF GB prog 278 [bh s,eH l] (vI (di s.l.dir l.dir)):=by
 refine fn func278 J J ntmps278 J J (fun C=>?_);refine cl J (vC (l:=s.l)) J<|cl J (vC (l:=l)) J<|cl J (IN (u:=s.l.dir) (v:=l.dir)) J<|?_;exact rz J J
def Ak(c:aF)(l:ab)(i:Nat):Bool:=match c[i]? with
 |some s=>decide (di s.l.dir l.dir=0)
 |none=>false
def Wn(i j:Nat):((i:Int)+(j:Int)).fdiv (2^min (1:Int).toNat IntKind.u64.bits)=((i+j)/2:Nat):=by
 rw[show(2:Int)^min (1:Int).toNat IntKind.u64.bits=((2:Nat):Int) from J,iQ _ (by decide)];omega
def aBv{c:aF}{l:ab}{k:Nat}{s:aH}(h:c[k]? =some s):nG c l k=decide (di s.l.dir l.dir<0):=by unfold nG;rw[h]
def Ur{c:aF}{l:ab}{k:Nat}{s:aH}(h:c[k]? =some s):Ak c l k=decide (di s.l.dir l.dir=0):=by unfold Ak;rw[h]
def aGj{c:aF}{l:ab}{k:Nat}(h: ¬k<c.length):Ak c l k=false:=by unfold Ak;rw[dY (by omega)]
def V1{p:Nat->Bool}{i j:Nat}(h:i<j)(hp:p ((i+j)/2)=true):i6 p i j=i6 p ((i+j)/2+1) j:=by rw[i6,dif_pos h,if_pos hp]
def Sy{p:Nat->Bool}{i j:Nat}(h:i<j)(hp: ¬p ((i+j)/2)=true):i6 p i j=i6 p i ((i+j)/2):=by rw[i6,dif_pos h,if_neg hp]
def Nm{p:Nat->Bool}{i j:Nat}(h: ¬i<j):i6 p i j=i:=by rw[i6,dif_neg h]
def UZ{c:aF}{l:ab}[hl:LB l](hc:jj c)(hn:c.length<=1000000):PF GB prog 277 [.sl (c.map bh),eH l, .v (.func (.func 278) #[] #[])] (.tp [vI (i6 (nG c l) 0 c.length:Nat),vB (Ak c l (i6 (nG c l) 0 c.length))]):=by
 have hm:=vj bh c;refine fn (fu:=⟨11⟩) func277 J J ntmps277 J J (fun C=>?_);refine ao 13 (.d (vI (c.length:Nat))) J (by rw[hm]<;>rfl) ?_;refine gx J<|?_;refine lp (X:=Nat×Nat) (fun⟨i,j⟩=>[(9, .d (vI (i:Nat))),(10, .d (vI (j:Nat)))]) (fun⟨i,j⟩=>[]) (fun⟨i,j⟩=>i<=j/\j<=c.length/\i6 (nG c l) i j=i6 (nG c l) 0 c.length) (fun⟨i,j⟩=>j-i) (0,c.length) J ⟨bK _,aM _,J⟩ (fun _=>J) (fun⟨i,j⟩ hk=>?_);dsimp only at hk⊢;obtain⟨h1,h2,h3⟩:=hk;refine br (fu1:=⟨10⟩) (fu2:=⟨11⟩) J J J (fun hc17=>?_) (fun hc17=>?_)
 .
  obtain⟨s,hs0⟩: ∃s,c[(i+j)/2]? =some s:=⟨_,aX (by omega)⟩;haveI:=(hc s (aS hs0)).lb;have hang:=aBv (l:=l) hs0;refine ao 22 (.d (.v (.int .u64 ((i+j)/2:Nat)))) J (by rw[Wn]) ?_;refine gx J<|ix _ J (d6 hs0) J<|cl J (LJ (s:=s) (l:=l)) J<|?_;refine br J J J (fun hc31=>?_) (fun hc31=>?_)
  .
   exact at_ ((i+j)/2+1,j) (by dsimp only;exact⟨⟨by omega,h2,by rw[<-h3,V1 (i:=i) (j:=j) (by omega) (by rw[hang];exact decide_eq_true hc31)]⟩,(by omega)⟩)
  .
   exact at_ (i,(i+j)/2) (by dsimp only;exact⟨⟨by omega,by omega,by rw[<-h3,Sy (i:=i) (j:=j) (by omega) (by rw[hang,decide_eq_false hc31];exact Bool.false_ne_true)]⟩,(by omega)⟩)
 .
  refine pi (v2:=fun hg39=>by simp only[ah];kernel_rfl) J J J J (fun hg39=>?_) (fun hg39=>?_)
  .
   have he:=Nm (p:=nG c l) (i:=i) (j:=j) (by omega);obtain⟨s,hs0⟩: ∃s,c[i]? =some s:=⟨_,aX (by omega)⟩;haveI:=(hc s (aS hs0)).lb;refine ix _ J (d6 hs0) J<|cl J (LJ (s:=s) (l:=l)) J<|?_;exact rz J (by rw[<-h3,he,Ur hs0];rfl)
  .
   have he:=Nm (p:=nG c l) (i:=i) (j:=j) (by omega);exact rz J (by rw[<-h3,he,aGj (by omega)];rfl)
def Oa{l:ab}[LB l](hlo:l.ok): ∀{c:aF} {v w:av},jj c->s9 v->nf l c v=some w->s9 w
 |[],v,w,_,hv,h=>by cases h;exact hv
 |s::t,v,w,hc,hv,h=>by
  haveI:=(hc s aQ).lb;simp only[nf] at h;split at h
  ·exact Oa hlo (fun x hx=>hc x (aZ _ hx)) (hv.cut hlo.1) h
  ·cases h
def Ct{l:ab}[LB l]: ∀{c:aF},jj c->jj (fI l c)
 |[],_,s,h=>by cases h
 |a::t,hc,s,h=>by
  have ha:=hc a aQ;haveI:=ha.lb;have ht:=Ct (l:=l) (fun x hx=>hc x (aZ _ hx));unfold fI at h;split at h
  ·rcases aV.1 h with rfl|h
   ·exact⟨ha.lb,ha.ok,ha.v.cut ha.ok.1⟩
   ·exact ht s h
  ·exact ht s h
def Dj{l:ab}[hl:LB l](hlo:l.ok){c:aF}(hc:jj c):jj (bF c l):=by
 unfold bF;split
 ·rename_i v hv
  intro s hs;unfold oI at hs;rcases bS.1 hs with h|h
  ·exact Ct hc s (fV h)
  ·rcases aV.1 h with rfl|h
   ·exact⟨hl,hlo,Oa hlo hc .all hv⟩
   ·exact Ct hc s (iL h)
 ·exact hc
def ML{l:ab}{c:aF}{k:Nat}{s:aH}(h:c[k]? =some s):fI l (c.drop k)=if s.l.cutB s.v l then⟨s.l,s.l.cutV s.v l⟩::fI l (c.drop (k+1)) else fI l (c.drop (k+1)):=by
 rw[H7 h];rfl
def QJ{c:aF}{l:ab}[hl:LB l](hlo:l.ok)(hc:jj c)(hn:c.length<=100000):PF GB prog 183 [.sl (c.map bh),eH l] (.tp [.sl ((bF c l).map bh),vB (cP c l)]):=by
 have hm:=vj bh c;refine fn func183 J J ntmps183 J J (fun C=>?_);refine cl J (Jh (c:=c) (l:=l) hlo hc (by omega)) J<|?_;refine bb (fu2:=⟨6⟩) J J J (fun hc22=>?_) (fun hc22=>?_)
 .
  have hp:lP c l=none:=by simpa using hc22
  refine cl J (Uq (c:=c) (l:=l) hlo hc (by omega)) J<|?_;exact rz J (by unfold bF cP;rw[hp];rfl)
 .
  obtain⟨v,hv⟩: ∃v,lP c l=some v:=Option.isSome_iff_exists.1 (by simpa using hc22);have hvd:If (lP c l)=v:=by rw[hv];rfl
  rw[hvd];refine ao 29 (.d (vI (c.length:Nat))) J (by rw[hm]<;>rfl) ?_;refine gx J<|Tt (fu:=⟨8⟩) (c.length+1) J J J<|?_;refine ao 33 (.d (vI (c.length:Nat))) J (by rw[hm]<;>rfl) ?_;refine gx J<|?_;refine lp (X:=aF×Nat) (fun⟨o,k⟩=>[(34, .d (vI (k:Nat))),(8, .rw 31)]) (fun⟨o,k⟩=>[(31,some (.c 222 17 (o.map bh) (c.length+1)))]) (fun⟨o,k⟩=>k<=c.length/\o.length<=k/\o++fI l (c.drop k)=fI l c) (fun⟨o,k⟩=>c.length-k) ([],0) J ⟨bK _,aM _,J⟩ (fun _=>J) (fun⟨o,k⟩ hk=>?_);dsimp only at hk⊢;obtain⟨h1,h2,h3⟩:=hk;have hmo:=vj bh o;refine br J J J (fun hc35=>?_) (fun hc35=>?_)
  .
   obtain⟨s,hs0⟩: ∃s,c[k]? =some s:=⟨_,aX (by omega)⟩;have hs:=hc s (aS hs0);haveI:=hs.lb;haveI:=hs.v.lo;haveI:=hs.v.hi;refine ix _ J (d6 hs0) J<|cl (fu:=⟨0⟩) J (zo (l:=s.l) (m:=l) (v:=s.v)) J<|?_;generalize hw:s.l.cutV s.v l=w;generalize hb:s.l.cutB s.v l=b;refine gx J<|?_;refine bb J J J (fun hc47=>?_) (fun hc47=>?_)
   .
    refine rf J J<|WQ ((o++[aH.mk s.l w]).map bh) J (by rw[cR];rfl) (QZ [aH.mk s.l w]) (by rw[hmo];simp;omega) J<|?_;refine gI 54 31 J ?_;exact at_ (o++[aH.mk s.l w],k+1) (by dsimp only;exact⟨⟨by omega,by simp;omega,by rw[<-h3,ML hs0,hb,if_pos hc47,hw,dQ];rfl⟩,(by omega)⟩)
   .
    exact at_ (o,k+1) (by dsimp only;exact⟨⟨by omega,by omega,by rw[<-h3,ML hs0,hb,if_neg (by simp[hc47])]⟩,(by omega)⟩)
  .
   obtain rfl:k=c.length:=by omega
   have ho:o=fI l c:=by rw[<-h3,jK];simp[fI]
   subst ho;have hbl:=(Bo (nG (fI l c) l) (fI l c).length 0 (fI l c).length (by omega) (by omega)).2;refine cL J (UZ (c:=fI l c) (l:=l) (Ct hc) (by omega)) J J<|ro J J<|ci ((oI (fI l c) l v).map bh) J (WB (c:=fI l c) (x:=⟨l,v⟩) (i:=i6 (nG (fI l c) l) 0 (fI l c).length) (cap:=c.length+1) hbl (by omega) (by omega)) J J<|?_;refine lB 68 J ?_;exact rz J (by unfold bF cP;rw[hv];rfl)
def Lm{c:aF}{l:ab}[hl:LB l](hlo:l.ok)(hc:jj c)(hn:c.length<=100000):PF GB prog 257 [.sl (c.map bh),eH l] (.tp [.sl ((bF c l).map bh), .sl ((bF c l.rev).map bh),vB (cP c l),vB (cP c l.rev)]):=by
 refine fn func257 J J ntmps257 J J (fun C=>?_);refine cl J (QJ (c:=c) (l:=l) hlo hc hn) J<|cl J (FQ (l:=l)) J<|cl J (QJ (c:=c) (l:=l.rev) hlo.rev hc hn) J<|?_;exact rz J J
def cU:Tr->List DV
 | .leaf b=>[vI 0,vI 0, .v (.pointer none),vI 0,vI 0, .v (.pointer none),vI 0,vI 0, .v (.pointer none), .v (.pointer none), .v (.pointer none), .v (.bool b)]
 | .node l x y=>[vI (dx (l.a:Rat)),vI (dB (l.a:Rat)),c9 (l.a:Rat),vI (dx (l.b:Rat)),vI (dB (l.b:Rat)),c9 (l.b:Rat),vI (dx (l.c:Rat)),vI (dB (l.c:Rat)),c9 (l.c:Rat), .pt (cU x), .pt (cU y), .v (.bool false)]
def eU(t:Tr):DV:= .pt (cU t)
def vL{b:Bool}:PF GB prog 153 [.v (.bool b)] (eU (.leaf b)):=by
 refine fn func153 J J ntmps153 J J (fun C=>?_);refine lB 5 J ?_;exact rz J J
def yU{l:ab}{x y:Tr}:PF GB prog 152 [eH l,eU x,eU y] (eU (.node l x y)):=by
 refine fn func152 J J ntmps152 J J (fun C=>?_);refine lB 11 J ?_;exact rz J J
def vo{b:Bool}:PF GB prog 171 [eU (.leaf b)] (.v (.bool true)):=by
 refine fn func171 J J ntmps171 J J (fun C=>?_);exact rz J J
def uW{l:ab}{x y:Tr}:PF GB prog 171 [eU (.node l x y)] (.v (.bool false)):=by
 refine fn func171 J J ntmps171 J J (fun C=>?_);exact rz J J
def Y6{l l1:ab}{x y u:Tr}:PF GB prog 335 [eH l,eU (.node l1 x y),eU u] (eU (.node l (.node l1 x y) u)):=by
 refine fn func335 J J ntmps335 J J (fun C=>?_);refine cl (fu:=⟨0⟩) J uW J<|dt J J J<|cl J yU J<|?_;exact rz J J
def auB{l l1:ab}{x y:Tr}{p:Bool}:PF GB prog 335 [eH l,eU (.leaf p),eU (.node l1 x y)] (eU (.node l (.leaf p) (.node l1 x y))):=by
 refine fn func335 J J ntmps335 J J (fun C=>?_);refine cl (fu:=⟨0⟩) J vo J<|ie J J J<|cl (fu:=⟨1⟩) J uW J<|dt J J J<|cl J yU J<|?_;exact rz J J
def asS{l:ab}{p q:Bool}:PF GB prog 335 [eH l,eU (.leaf p),eU (.leaf q)] (eU (Tr.joinQ l (.leaf p) (.leaf q))):=by
 refine fn func335 J J ntmps335 J J (fun C=>?_);refine cl (fu:=⟨0⟩) J vo J<|ie J J J<|cl (fu:=⟨1⟩) J vo J<|ie J J J<|?_;refine bb J J J (fun hc23=>?_) (fun hc23=>?_)
 .
  exact rz J (by rw[show Tr.joinQ l (.leaf p) (.leaf q)= .leaf p by simp[Tr.joinQ,Tr.isLeaf,Tr.code,hc23]];rfl)
 .
  refine cl J yU J<|?_;exact rz J (by rw[show Tr.joinQ l (.leaf p) (.leaf q)= .node l (.leaf p) (.leaf q) by simp[Tr.joinQ,Tr.isLeaf,Tr.code,hc23]];rfl)
def US{l:ab}: ∀{x y:Tr},PF GB prog 335 [eH l,eU x,eU y] (eU (Tr.joinQ l x y))
 | .leaf _, .leaf _=>asS
 | .leaf _, .node .. =>auB
 | .node ..,_=>Y6
def Yy{b:Bool}{c:aF}:PF GB prog 235 [eU (.leaf b), .sl (c.map bh)] (eU (Tr.restrict (.leaf b) c)):=by
 refine fn func235 J J ntmps235 J J (fun C=>?_);refine cl (fu:=⟨0⟩) J vo J<|?_;refine mf 10 J ?_;refine gx J<|?_;exact rz J J
def ajO{l:ab}{x y:Tr}{c:aF}(hl:LB l)(hlo:l.ok)(hc:jj c)(hn:c.length+(Tr.node l x y).depth<=100000)(ihx: ∀{c:aF},jj c->c.length+x.depth<=100000->PF GB prog 235 [eU x, .sl (c.map bh)] (eU (Tr.restrict x c)))(ihy: ∀{c:aF},jj c->c.length+y.depth<=100000->PF GB prog 235 [eU y, .sl (c.map bh)] (eU (Tr.restrict y c))):PF GB prog 235 [eU (.node l x y), .sl (c.map bh)] (eU (Tr.restrict (.node l x y) c)):=by
 have hdp:(Tr.node l x y).depth=1+max x.depth y.depth:=J;have hdx:=Nat.le_max_left x.depth y.depth;have hdy:=Nat.le_max_right x.depth y.depth;have hca:=B8 c l;have hcb:=B8 c l.rev;refine fn func235 J J ntmps235 J J (fun C=>?_);refine cl (fu:=⟨0⟩) J uW J<|?_;refine qn 10 J ?_;refine gx J<|cl J (Lm (c:=c) (l:=l) hlo hc (by omega)) J<|?_;refine bb J J J (fun hc23=>?_) (fun hc23=>?_)
 .
  refine cl J (ihx hc (by omega)) J<|?_;exact rz J (by rw[Tr.restrict,if_pos hc23];rfl)
 .
  refine bb J J J (fun hc32=>?_) (fun hc32=>?_)
  .
   refine cl J (ihy hc (by omega)) J<|?_;exact rz J (by rw[Tr.restrict,if_neg (by simp[hc23]),if_pos hc32];rfl)
  .
   refine cl J (ihx (c:=bF c l) (Dj hlo hc) (by omega)) J<|cl J (ihy (c:=bF c l.rev) (Dj hlo.rev hc) (by omega)) J<|cl J US J<|?_;exact rz J (by rw[Tr.restrict,if_neg (by simp[hc23]),if_neg (by simp[hc32])];rfl)
def HP: ∀{t:Tr} {c:aF},t.all LB->t.all ab.ok->jj c->c.length+t.depth<=100000->PF GB prog 235 [eU t, .sl (c.map bh)] (eU (Tr.restrict t c))
 | .leaf _,_,_,_,_,_=>Yy
 | .node l x y,c,hb,ho,hc,hn=>ajO hb.1 ho.1 hc hn (fun h1 h2=>HP hb.2.1 ho.2.1 h1 h2) (fun h1 h2=>HP hb.2.2 ho.2.2 h1 h2)
def Xp{t:Tr}(hb:t.all LB)(ho:t.all ab.ok)(hd:t.depth<=100000):PF GB prog 143 [eU t] (eU (t.restrict [])):=by
 refine fn func143 J J ntmps143 J J (fun C=>?_);refine cl J (HP (t:=t) (c:=[]) hb ho (fun s h=>by cases h) (by simpa using hd)) J<|?_;exact rz J J
def Tr.compl:Tr->Tr
 | .leaf b=> .leaf !b
 | .node l x y=> .node l x.compl y.compl
def Tr.chooseQ(op:Int)(b:Bool)(t:Tr)(c:aF):Tr:=
 if op=1\/op=2 then(if b=decide (op=1) then .leaf b else t.restrict c)
 else if op=3/\b=false then .leaf false
 else if b then(t.restrict c).compl else t.restrict c
def Tr.mergeQ(op:Int):Tr->Tr->aF->Tr
 | .leaf b,u,c=>u.chooseQ op b c
 | .node l x y,u,c=>if !cP c l.rev then x.mergeQ op u c else if !cP c l then y.mergeQ op u c else joinQ l (x.mergeQ op u (bF c l)) (y.mergeQ op u (bF c l.rev))
def Uh:DV:= .ag [vI 0,vI 0, .v (.pointer none),vI 0,vI 0, .v (.pointer none),vI 0,vI 0, .v (.pointer none)]
def uj:Option ab->DV
 |some l=> .tp [eH l,vB true]
 |none=> .tp [Uh,vB false]
def Pz{l:ab}(h: ¬l.ok)(hz: ¬(l.a=0/\l.b=0)):decide (rgcd (rgcd (l.a:Rat) (l.b:Rat)) (l.c:Rat)=((1:Int):Rat))=false:=by
 rw[ww,ww];refine decide_eq_false fun e=>h ⟨hz,?_⟩;simp only[jM] at e;have:=nT.1 e;omega
def ZC{l:ab}[hl:LB l](ha:l.a=0)(hb:l.b=0):PF GB prog 182 [eL l] (uj none):=by
 refine fn func182 J J ntmps182 J J (fun C=>?_);refine cl (fu:=⟨0⟩) J (rG (m:=l.a)) J<|dt J J J<|cl (fu:=⟨0⟩) J (rG (m:=l.b)) J<|dt J J J<|cl (fu:=⟨0⟩) J (rG (m:=l.c)) J<|?_;refine dt J J J<|cl J (tk (m:=l.a)) J<|cl J (tk (m:=l.b)) J<|cl J (tk (m:=l.c)) J<|cl (fu:=⟨0⟩) J (u9 (q:=(l.a:Rat))) J<|?_;refine ie J (by show some (decide _)=some true;rw[ha];rfl) J<|cl (fu:=⟨0⟩) J (u9 (q:=(l.b:Rat))) J<|ie J (by show some (decide _)=some true;rw[hb];rfl) J<|?_;exact rz J J
def awA{l:ab}[hl:LB l](hz: ¬(l.a=0/\l.b=0))(ho: ¬l.ok):PF GB prog 182 [eL l] (uj none):=by
 refine fn func182 J J ntmps182 J J (fun C=>?_);refine cl (fu:=⟨0⟩) J (rG (m:=l.a)) J<|dt J J J<|cl (fu:=⟨0⟩) J (rG (m:=l.b)) J<|dt J J J<|cl (fu:=⟨0⟩) J (rG (m:=l.c)) J<|?_;refine dt J J J<|cl J (tk (m:=l.a)) J<|cl J (tk (m:=l.b)) J<|cl J (tk (m:=l.c)) J<|cl (fu:=⟨0⟩) J (u9 (q:=(l.a:Rat))) J<|?_;refine pi (fu2:=⟨4⟩) J J J J (fun hg35=>?_) (fun hg35=>?_)
 .
  have ha:l.a=0:=cW.1 hg35;refine cl (fu:=⟨1⟩) J (u9 (q:=(l.b:Rat))) J<|dt J (by first|rfl|(show some (decide _)=some false;rw[decide_eq_false (fun e=>hz ⟨ha,cW.1 e⟩)])) J<|?_;refine cl J (od (p:=(l.a:Rat)) (q:=(l.b:Rat))) J<|cl J (od (p:=rgcd l.a l.b) (q:=(l.c:Rat))) J<|cl J (qt (m:=1) (by decide)) J<|?_;refine cl (fu:=⟨0⟩) J (yl (p:=rgcd (rgcd l.a l.b) l.c) (q:=((1:Int):Rat))) J<|ie J (by show some (!decide _)=some true;rw[Pz ho hz];rfl) J<|?_;exact rz J J
 .
  refine dt J (by first|rfl|(show some (decide _)=some false;rw[decide_eq_false (fun e=>hz ⟨ha,cW.1 e⟩)])) J<|cl J (od (p:=(l.a:Rat)) (q:=(l.b:Rat))) J<|?_;refine cl J (od (p:=rgcd l.a l.b) (q:=(l.c:Rat))) J<|cl J (qt (m:=1) (by decide)) J<|cl (fu:=⟨0⟩) J (yl (p:=rgcd (rgcd l.a l.b) l.c) (q:=((1:Int):Rat))) J<|?_;refine ie J (by show some (!decide _)=some true;rw[Pz ho hz];rfl) J<|?_;exact rz J J
def Ty{l:ab}[hl:LB l][Decidable l.ok]:PF GB prog 182 [eL l] (uj (if l.ok then some l else none)):=by
 split
 ·rename_i h;exact Sj h
 ·rename_i h
  by_cases hz:l.a=0/\l.b=0
  ·exact ZC hz.1 hz.2
  ·exact awA hz h
def l8(n:Bool)(ds:List Nat):Prop:=eo ds/\(n=true->0<ds.length)
instance (n:Bool) (ds:List Nat):Decidable (l8 n ds):=inferInstanceAs (Decidable (_/\_))
def yx{neg:Bool}{ds:List Nat}(h:bp ds/\ds.length<=3):PF GB prog 269 [.ag [.v (.bool neg),fk ds]] (vB (decide (l8 neg ds))):=I7 h.1 (by have:=h.2;omega)
structure RL where
 na:Bool
 da:List Nat
 nb:Bool
 db:List Nat
 nc:Bool
 dc:List Nat
def RL.d(r:RL):DV:= .ag [.v (.bool r.na),fk r.da, .v (.bool r.nb),fk r.db, .v (.bool r.nc),fk r.dc]
def n7(n:Bool)(ds:List Nat):Int:=if n then-(dv ds:Int) else dv ds
def RL.l(r:RL):ab:=⟨n7 r.na r.da,n7 r.nb r.db,n7 r.nc r.dc⟩
def RL.nm(r:RL):Prop:=l8 r.na r.da/\l8 r.nb r.db/\l8 r.nc r.dc
instance (l:ab):Decidable l.ok:=inferInstanceAs (Decidable (_/\_))
instance (r:RL):Decidable r.nm:=inferInstanceAs (Decidable (_/\_/\_))
def RL.ln(r:RL):Option ab:=if r.nm/\r.l.ok then some r.l else none
structure RL.sm (r:RL):Prop where
 a:bp r.da/\r.da.length<=3
 b:bp r.db/\r.db.length<=3
 c:bp r.dc/\r.dc.length<=3
def K2(n:Bool)(ds:List Nat):(n7 n ds).natAbs=dv ds:=by unfold n7;cases n<;>simp
def Ee{n:Bool}{ds:List Nat}(hd:bp ds)(h:l8 n ds):decide (n7 n ds<0)=n:=by
 unfold n7
 cases n with
 |false=>simp
 |true=>
  have h0:0<dv ds:=by
   refine iV fun e=>?_;have:=xk hd h.1;rw[e,xh] at this;have h2:=h.2 J;rw[<-this] at h2;exact absurd h2 (by decide)
  simp only[if_true,decide_eq_true_eq];omega
def RL.eL{r:RL}(s:r.sm)(h:r.nm):r.d=Go.Sx.eL r.l:=by
 unfold RL.d Go.Sx.eL RL.l;simp only[K2,Ee s.a.1 h.1,Ee s.b.1 h.2.1,Ee s.c.1 h.2.2,dN,xk s.a.1 h.1.1,xk s.b.1 h.2.1.1,xk s.c.1 h.2.2.1];rfl
theorem RL.lb{r:RL}(s:r.sm):LB r.l:=by
 have key: ∀(n:Bool) (ds:List Nat),bp ds/\ds.length<=3->(n7 n ds).natAbs<2^96:=fun n ds h=>by
  rw[K2];refine dK (jw h.1) ?_;rw[show(2:Nat)^96=4294967296^3 by decide];exact bR (by decide) h.2
 exact⟨key _ _ s.a,key _ _ s.b,key _ _ s.c⟩
def V9{r:RL}(s:r.sm)(h: ¬l8 r.na r.da):PF GB prog 182 [r.d] (uj none):=by
 refine fn func182 J J ntmps182 J J (fun C=>?_);refine cl (fu:=⟨0⟩) J (yx (neg:=r.na) (ds:=r.da) s.a) J<|ie J (by show some (!decide _)=some true;rw[decide_eq_false h];rfl) J<|?_;exact rz J J
def T3{r:RL}(s:r.sm)(h1:l8 r.na r.da)(h: ¬l8 r.nb r.db):PF GB prog 182 [r.d] (uj none):=by
 refine fn func182 J J ntmps182 J J (fun C=>?_);refine cl (fu:=⟨0⟩) J (yx (neg:=r.na) (ds:=r.da) s.a) J<|dt J (by show some (!decide _)=some false;rw[decide_eq_true h1];rfl) J<|cl (fu:=⟨0⟩) J (yx (neg:=r.nb) (ds:=r.db) s.b) J<|?_;refine ie J (by show some (!decide _)=some true;rw[decide_eq_false h];rfl) J<|?_;exact rz J J
def Vx{r:RL}(s:r.sm)(h1:l8 r.na r.da)(h2:l8 r.nb r.db)(h: ¬l8 r.nc r.dc):PF GB prog 182 [r.d] (uj none):=by
 refine fn func182 J J ntmps182 J J (fun C=>?_);refine cl (fu:=⟨0⟩) J (yx (neg:=r.na) (ds:=r.da) s.a) J<|dt J (by show some (!decide _)=some false;rw[decide_eq_true h1];rfl) J<|cl (fu:=⟨0⟩) J (yx (neg:=r.nb) (ds:=r.db) s.b) J<|?_;refine dt J (by show some (!decide _)=some false;rw[decide_eq_true h2];rfl) J<|cl (fu:=⟨0⟩) J (yx (neg:=r.nc) (ds:=r.dc) s.c) J<|ie J (by show some (!decide _)=some true;rw[decide_eq_false h];rfl) J<|?_;exact rz J J
def Jg{r:RL}(s:r.sm):PF GB prog 182 [r.d] (uj r.ln):=by
 by_cases h1:l8 r.na r.da
 ·by_cases h2:l8 r.nb r.db
  ·by_cases h3:l8 r.nc r.dc
   ·haveI:=RL.lb s
    rw[RL.eL s ⟨h1,h2,h3⟩,show r.ln=if r.l.ok then some r.l else none by unfold RL.ln;simp[show r.nm from⟨h1,h2,h3⟩]];exact Ty
   ·rw[show r.ln=none from if_neg fun e=>h3 e.1.2.2]
    exact Vx s h1 h2 h3
  ·rw[show r.ln=none from if_neg fun e=>h2 e.1.2.1]
   exact T3 s h1 h2
 ·rw[show r.ln=none from if_neg fun e=>h1 e.1.1]
  exact V9 s h1
def lE(n:Nat)(f:Nat->Bool):List Value:=(List.range n).map fun j=> .bool (f j)
def lg(f:Nat->Bool)(i:Nat):Nat->Bool:=fun j=>f j||Nat.beq j i
def GT(n:Nat)(f:Nat->Bool):(lE n f).length=n:=by simp[lE]
def C9{n i:Nat}{f:Nat->Bool}{b:Bool}(h:i<n)(hf:f i=b):(lE n f)[i]? =some (.bool b):=by simp[lE,h,hf]
def zh{f:Nat->Bool}{i j:Nat}(e:j≠i):lg f i j=f j:=by
 unfold lg
 cases hb:Nat.beq j i with
 |false=>rw[Bool.or_false]
 |true=>exact absurd (aR hb) e
def Lv{f:Nat->Bool}{i:Nat}:lg f i i=true:=by
 unfold lg;rw[oM,Bool.or_true]
def Ov(n i:Nat)(f:Nat->Bool):(lE n f).set i (.bool true)=lE n (lg f i):=by
 apply kN;intro j;rw[nS];simp only[lE,aJ,nN,eX];by_cases hj:j<n
 ·rw[qQ hj]
  simp only[jT];by_cases e:i=j
  ·subst e;simp[hj,Lv]
  ·rw[zh (fun h=>e h.symm)];simp[e]
 ·rw[dY (by simpa using hj)]
  by_cases e:i=j
  ·subst e;simp[hj]
  ·simp[e]
def apb(n:Nat):cG (.bool false) n=lE n (fun _=>false):=by
 apply kN;intro j;by_cases hj:j<n
 ·rw[C9 hj J]
  unfold cG;rw[HK (aE (.bool false)) n j (by simpa[aE] using hj)];simp[aE,Nat.mod_one]
 ·rw[dY (by rw[ny];simp[aE];omega),dY (by rw[GT];omega)]
structure RN where
 g:RL
 l:Int
 r:Int
def RN.d(n:RN):DV:= .ag [.v (.bool n.g.na),fk n.g.da, .v (.bool n.g.nb),fk n.g.db, .v (.bool n.g.nc),fk n.g.dc, .v (.int .i64 n.l), .v (.int .i64 n.r)]
structure RS where
 f:Nat->Bool
 c:Nat
 b:Bool
inductive RR (ns:List RN):Int->RS->Tr->RS->Prop where
 |leaf (b:Bool) (s:RS):RR ns (q8 b) s (.leaf b) s
 |bad (rt:Int) (s:RS) (h1:rt≠ -1) (h2:rt≠ -2) (h:rt<0\/(ns.length:Int)<=rt\/(∃k:Nat,rt=k/\k<ns.length/\s.f k=true)):RR ns rt s (.leaf false) ⟨s.f,s.c,true⟩
 |line (k:Nat) (n:RN) (s:RS) (h:ns[k]? =some n) (hf:s.f k=false) (hl:n.g.ln=none):RR ns (k:Int) s (.leaf false) ⟨lg s.f k,s.c+1,true⟩
 |node (k:Nat) (n:RN) (l:ab) (s s2 s3:RS) (x y:Tr) (h:ns[k]? =some n) (hf:s.f k=false) (hl:n.g.ln=some l) (h1:RR ns n.l ⟨lg s.f k,s.c+1,s.b⟩ x s2) (h2:RR ns n.r s2 y s3):RR ns (k:Int) s (.node l x y) s3
def RR.mono{ns:List RN}{rt:Int}{s s':RS}{t:Tr}(h:RR ns rt s t s'):s.c<=s'.c:=by
 induction h with
 |leaf=>exact aM _
 |bad=>exact aM _
 |line=>exact Nat.le_succ _
 |node k n l s s2 s3 x y h hf hl h1 h2 i1 i2=>simp only at i1;omega
def yr{G:Gh}{q:Rat}{v:Value}(h:Is G (c9 q) v): ∃p,v= .pointer p:=by
 rcases tc.1 h with⟨_,h⟩|⟨_,h⟩
 ·exact⟨_,h⟩
 ·obtain⟨b,m,h,_⟩:=ph.1 h;exact⟨_,h⟩
def Y'{G:Gh}{l:ab}{v:Value}(h:Is G (eH l) v): ∃n1 d1 p1 n2 d2 p2 n3 d3 p3,v= .agg ⟨[.int .i64 n1, .int .i64 d1, .pointer p1, .int .i64 n2, .int .i64 d2, .pointer p2, .int .i64 n3, .int .i64 d3, .pointer p3]⟩:=by
 obtain⟨m,rfl,g⟩:=cO.1 h;clear h;obtain⟨v1,m,rfl,h1,h⟩:=ba.1 g;obtain⟨v2,m,rfl,h2,h⟩:=ba.1 h;obtain⟨v3,m,rfl,h3,h⟩:=ba.1 h;obtain⟨v4,m,rfl,h4,h⟩:=ba.1 h;obtain⟨v5,m,rfl,h5,h⟩:=ba.1 h;obtain⟨v6,m,rfl,h6,h⟩:=ba.1 h;obtain⟨v7,m,rfl,h7,h⟩:=ba.1 h;obtain⟨v8,m,rfl,h8,h⟩:=ba.1 h;obtain⟨v9,m,rfl,h9,h⟩:=ba.1 h;rw[cD] at h;subst h;obtain⟨_,rfl⟩:=yr h3;obtain⟨_,rfl⟩:=yr h6;obtain⟨_,rfl⟩:=yr h9;rw[aG.1 h1,aG.1 h2,aG.1 h4,aG.1 h5,aG.1 h7,aG.1 h8];exact⟨_,_,_,_,_,_,_,_,_,J⟩
def KI{G:Gh}{o:Option ab}{v:Value}(h:Is G (uj o) v): ∃n1 d1 p1 n2 d2 p2 n3 d3 p3,v= .tuple #[.agg ⟨[.int .i64 n1, .int .i64 d1, .pointer p1, .int .i64 n2, .int .i64 d2, .pointer p2, .int .i64 n3, .int .i64 d3, .pointer p3]⟩, .bool o.isSome]/\
  ∀l,o=some l->Is G (eH l) (.agg ⟨[.int .i64 n1, .int .i64 d1, .pointer p1, .int .i64 n2, .int .i64 d2, .pointer p2, .int .i64 n3, .int .i64 d3, .pointer p3]⟩):=by
 cases o with
 |some l=>
  obtain⟨m,rfl,g⟩:=js.1 h;obtain⟨v1,m,rfl,h1,h⟩:=ba.1 g;obtain⟨v2,m,rfl,h2,h⟩:=ba.1 h;rw[cD] at h;subst h;obtain⟨n1,d1,p1,n2,d2,p2,n3,d3,p3,rfl⟩:=Y' h1;rw[aG.1 h2];exact⟨n1,d1,p1,n2,d2,p2,n3,d3,p3,J,fun k e=>by cases e;exact h1⟩
 |none=>
  obtain⟨m,rfl,g⟩:=js.1 h;obtain⟨v1,m,rfl,h1,h⟩:=ba.1 g;obtain⟨v2,m,rfl,h2,h⟩:=ba.1 h;rw[cD] at h;subst h;clear g h;obtain⟨m,rfl,g⟩:=cO.1 h1;obtain⟨w1,m,rfl,k1,h⟩:=ba.1 g;obtain⟨w2,m,rfl,k2,h⟩:=ba.1 h;obtain⟨w3,m,rfl,k3,h⟩:=ba.1 h;obtain⟨w4,m,rfl,k4,h⟩:=ba.1 h;obtain⟨w5,m,rfl,k5,h⟩:=ba.1 h;obtain⟨w6,m,rfl,k6,h⟩:=ba.1 h;obtain⟨w7,m,rfl,k7,h⟩:=ba.1 h;obtain⟨w8,m,rfl,k8,h⟩:=ba.1 h;obtain⟨w9,m,rfl,k9,h⟩:=ba.1 h;rw[cD] at h;subst h;rw[aG.1 k1,aG.1 k2,aG.1 k3,aG.1 k4,aG.1 k5,aG.1 k6,aG.1 k7,aG.1 k8,aG.1 k9];rw[aG.1 h2];exact⟨_,_,_,_,_,_,_,_,_,J,fun k e=>by cases e⟩
def Ps{G:Gh}{n:RN}{v:Value}(h:Is G n.d v): ∃x1 x2 x3:SV,v= .agg ⟨[.bool n.g.na, .slice x1.a x1.n x1.c, .bool n.g.nb, .slice x2.a x2.n x2.c, .bool n.g.nc, .slice x3.a x3.n x3.c, .int .i64 n.l, .int .i64 n.r]⟩/\
  Is G n.g.d (.agg ⟨[.bool n.g.na, .slice x1.a x1.n x1.c, .bool n.g.nb, .slice x2.a x2.n x2.c, .bool n.g.nc, .slice x3.a x3.n x3.c]⟩):=by
 obtain⟨m,rfl,g⟩:=cO.1 h;clear h;obtain⟨v1,m,rfl,h1,h⟩:=ba.1 g;obtain⟨v2,m,rfl,h2,h⟩:=ba.1 h;obtain⟨v3,m,rfl,h3,h⟩:=ba.1 h;obtain⟨v4,m,rfl,h4,h⟩:=ba.1 h;obtain⟨v5,m,rfl,h5,h⟩:=ba.1 h;obtain⟨v6,m,rfl,h6,h⟩:=ba.1 h;obtain⟨v7,m,rfl,h7,h⟩:=ba.1 h;obtain⟨v8,m,rfl,h8,h⟩:=ba.1 h;rw[cD] at h;subst h;obtain⟨_,x1,_,rfl,_,_⟩:=gO.1 (id h2);obtain⟨_,x2,_,rfl,_,_⟩:=gO.1 (id h4);obtain⟨_,x3,_,rfl,_,_⟩:=gO.1 (id h6)
 cases aG.1 h1;cases aG.1 h3;cases aG.1 h5;cases aG.1 h7;cases aG.1 h8
 exact⟨x1,x2,x3,J,cO.2 ⟨_,J, .cons h1 (.cons h2 (.cons h3 (.cons h4 (.cons h5 (.cons h6 .nil)))))⟩⟩
def rH{G:Gh}{t:Tr}{v:Value}(h:Is G (eU t) v): ∃p,v= .pointer p:=by
 obtain⟨b,m,h,_⟩:=ph.1 h;exact⟨_,h⟩
def PF.fn0{P:Program}{f:FuncId}{ds:List DV}{r:DV}(h: ∀{GB:Gh},PF GB P f ds r){G:Gh}{vs:List Value}(hv:IsLs G ds vs):Fn P f vs G (fun v G'=>Is G' r v):=h (GB:=G) G vs (bw.refl G) hv
abbrev Nw (x:SV) (ns:List RN) (A:Gh):Prop:= ∃es,eB A 8 x es/\IsLs A (ns.map RN.d) es
def T0{A:Gh}{ns:List RN}{x:SV}(hx:Nw x ns A)(hs: ∀n∈ns,n.g.sm)(hn:ns.length<=1000000){rt:Int}{s s':RS}{t:Tr}(h:RR ns rt s t s'): ∀{G:Gh} {rb sb:Nat} {lo lo2:Bool},[GL A G]->s'.c<=1000000->
  jB prog 219 [.pointer (some ⟨rb,0,none⟩), .int .i64 rt] [⟨rb,[.slice x.a x.n x.c, .slice (some ⟨sb,0,none⟩) ns.length ns.length, .int .i64 s.c, .bool s.b],342,lo⟩,⟨sb,lE ns.length s.f,4,lo2⟩] G
   (fun v css G'=> ∃p,v= .pointer p/\Is G' (eU t) (.pointer p)/\css=[[.slice x.a x.n x.c, .slice (some ⟨sb,0,none⟩) ns.length ns.length, .int .i64 s'.c, .bool s'.b],lE ns.length s'.f]):=by
 obtain⟨es,hx,hes⟩:=hx;have hel:=hes.len;rw[aJ] at hel;have hlen:=hx.len;rw[hel] at hlen;obtain⟨xa,xn,xc⟩:=x;simp only[] at hlen;subst hlen
 induction h with
 |leaf bb s=>
  intro G rb sb lo lo2 _ hc;refine jB.intro func219 J J ntmps219 J ?_;intro C _ _;show St C _ _ [⟨rb,_,_,false⟩,⟨sb,_,_,false⟩] _ _
  cases bb
  case true=>
   refine sR<|sa J J<|zE<|bt<|ee<|sR<|sm J J<|sy (iF J J) J<|sm J J<|ss J J J J<|ss J J J J<|?_;refine sy (r7 J J) J<|sa J J<|zE<|pj J<|sR<|sm J J<|sy (iF J J) J<|?_;refine sc (zC J J (PF.fn0 (vL (b:=true)) (.cons (aG.2 J) .nil)) J ?_);rintro _ G1 _ hp;obtain⟨p,rfl⟩:=rH hp;refine sa J J<|zE<|c6<|?_;exact r8 (css:=[_,_]) (.tmp J .nil) J _ (List.Perm.refl _) (List.Sublist.refl _) ⟨p,J,hp,J⟩
  refine sR<|sa J J<|zE<|bt<|ee<|sR<|sm J J<|sy (iF J J) J<|sm J J<|bG J J (fE J) J<|bG J J (iF J J) J<|?_;refine sy (me J J) J<|sa J J<|zE<|pj J<|sR<|sm J J<|sy (iF J J) J<|?_;refine sc (zC J J (PF.fn0 (vL (b:=false)) (.cons (aG.2 J) .nil)) J ?_);rintro _ G1 _ hp;obtain⟨p,rfl⟩:=rH hp;refine sa J J<|zE<|c6<|?_;exact r8 (css:=[_,_]) (.tmp J .nil) J _ (List.Perm.refl _) (List.Sublist.refl _) ⟨p,J,hp,J⟩
 |bad rt s h1 h2 h=>
  intro G rb sb lo lo2 _ hc;refine jB.intro func219 J J ntmps219 J ?_;intro C _ _;show St C _ [(0, .pointer (some ⟨rb,0,none⟩)),(1, .int .i64 rt)] [⟨rb,[.slice xa ns.length xc, .slice (some ⟨sb,0,none⟩) ns.length ns.length, .int .i64 s.c, .bool s.b],_,false⟩,⟨sb,lE ns.length s.f,_,false⟩] _ _;refine sR<|sa J J<|zE<|bt<|ee<|sR<|sm J J<|sy (iF J J) J<|sm J J<|?_;refine n5 12 J (fun hg=>absurd hg (by omega)) (fun hg=>?_);refine bG J J (fE J) J<|bG J J (iF J J) J<|sy (me J J) J<|sa J J<|zE<|?_;refine f7 J (fun hc=>absurd hc (by omega)) (fun _=>?_);refine sR<|sm J J<|sy (jg J J) J<|sm J J<|?_;refine n5 22 J (fun hg=>?_) (fun hg=>?_)
  ·refine ss J J J J<|ss J J J J<|ss J J J J<|ss J J J J<|ss J J J J<|ss J J J J<|ss J J J J<|sy (r7 J J) J<|sm J J<|ss J J J J<|ss J J J J<|?_
   refine ss J J J J<|ss J J J J<|ss J J J J<|ss J J J J<|ss J J J J<|sy (r7 J J) J<|sa J J<|zE<|pj J<|bt<|?_;refine d7<|sm J J<|sn J J<|sf J J<|?_;refine sc (sj J J J (.hd ..) (nb J) J J ?_);refine zE<|sR<|?_;refine sc (zC J J (PF.fn0 (vL (b:=false)) (.cons (aG.2 J) .nil)) J ?_);rintro _ G1 _ hp;obtain⟨p,rfl⟩:=rH hp;refine sa J J<|zE<|c6<|?_;exact r8 (css:=[_,_]) (.tmp J .nil) J _ (List.Perm.refl _) (List.Sublist.refl _) ⟨p,J,hp,J⟩
  refine bG J J (fE J) J<|bG J J (fE J) J<|bG J J (lf J) J<|bG J J (ou J) J<|bG J J (lm J J) J<|bG J J (oh J) J<|bG J J (tM J J) J<|sy (me J J) J<|sm J J<|?_;refine n5 31 J (fun hg=>?_) (fun hg=>?_)
  ·refine ss J J J J<|ss J J J J<|ss J J J J<|ss J J J J<|ss J J J J<|ss J J J J<|ss J J J J<|?_
   refine sy (r7 J J) J<|sa J J<|zE<|pj J<|sR<|sm J J<|sn J J<|sf J J<|?_;refine sc (sj J J J (.hd ..) (nb J) J J ?_);refine zE<|sR<|?_;refine sc (zC J J (PF.fn0 (vL (b:=false)) (.cons (aG.2 J) .nil)) J ?_);rintro _ G1 _ hp;obtain⟨p,rfl⟩:=rH hp;refine sa J J<|zE<|c6<|?_;exact r8 (css:=[_,_]) (.tmp J .nil) J _ (List.Perm.refl _) (List.Sublist.refl _) ⟨p,J,hp,J⟩
  obtain⟨k,rfl,hk,hf⟩: ∃k:Nat,rt=k/\k<ns.length/\s.f k=true:=by
   rcases h with h|h|h
   ·omega
   ·exact absurd h hg
   ·exact h
  refine bG J J (fE J) J<|bG J J (lf J) J<|bG J J (ou J) J<|bG J J (lm J J) J<|bG J J (fE J) J<|bG J J (fm J J (by omega) (by omega)) J<|?_;refine bG J J (lm (v:= .bool true) J (by rw[bZ,iU];exact C9 hk hf)) J<|sy (me J J) J<|sa J J<|zE<|pj J<|?_;refine sR<|sm J J<|sn J J<|sf J J<|?_;refine sc (sj J J J (.hd ..) (nb J) J J ?_);refine zE<|sR<|?_;refine sc (zC J J (PF.fn0 (vL (b:=false)) (.cons (aG.2 J) .nil)) J ?_);rintro _ G1 _ hp;obtain⟨p,rfl⟩:=rH hp;refine sa J J<|zE<|c6<|?_;exact r8 (css:=[_,_]) (.tmp J .nil) J _ (List.Perm.refl _) (List.Sublist.refl _) ⟨p,J,hp,J⟩
 |line base n s h0 hfb hl=>
  intro G rb sb lo lo2 _ hc;have hbn:base<ns.length:=(aU.1 h0).1;simp only at hc;obtain⟨z,hzi,hz⟩:=hes.get (i:=base) (d:=n.d) (by rw[eX,h0];rfl);obtain⟨x1,x2,x3,rfl,hzg⟩:=Ps hz;refine jB.intro func219 J J ntmps219 J ?_;intro C _ _;show St C _ [(0, .pointer (some ⟨rb,0,none⟩)),(1, .int .i64 (base:Int))] [⟨rb,[.slice xa ns.length xc, .slice (some ⟨sb,0,none⟩) ns.length ns.length, .int .i64 s.c, .bool s.b],_,false⟩,⟨sb,lE ns.length s.f,_,false⟩] _ _;refine sR<|sa J J<|zE<|bt<|ee<|sR<|sm J J<|sy (iF J J) J<|sm J J<|?_;refine n5 12 J (fun hg=>absurd hg (by omega)) (fun hg=>?_);refine bG J J (fE J) J<|bG J J (iF J J) J<|sy (me J J) J<|sa J J<|zE<|?_;refine f7 J (fun hc=>absurd hc (by omega)) (fun _=>?_);refine sR<|sm J J<|sy (jg J J) J<|sm J J<|?_;refine n5 22 J (fun hg=>absurd hg (by omega)) (fun hg=>?_);refine bG J J (fE J) J<|bG J J (fE J) J<|bG J J (lf J) J<|bG J J (ou J) J<|bG J J (lm J J) J<|bG J J (oh J) J<|bG J J (tM J J) J<|sy (me J J) J<|sm J J<|?_;refine n5 31 J (fun hg=>absurd hg (by omega)) (fun hg=>?_);refine bG J J (fE J) J<|bG J J (lf J) J<|bG J J (ou J) J<|bG J J (lm J J) J<|bG J J (fE J) J<|bG J J (fm J J (by omega) (by omega)) J<|?_;refine bG J J (lm (v:= .bool false) J (by rw[bZ,iU];exact C9 hbn hfb)) J<|sy (me J J) J<|sa J J<|zE<|vQ J<|zK<|?_;refine sR<|sm J J<|sn J J<|sf J J<|qy J J J<|sm J J<|sy (fm J J (by omega) (by omega)) J<|?_;refine sc (tn J J (.tl _ _ _ _ _ _ _ _ (.hd ..)) (by rw[GT,bZ,iU];exact hbn) J J ?_);rw[bZ,iU,Ov];refine zE<|sR<|sm J J<|sn J J<|sf J J<|qy J J J<|sy (d9 J J) J<|sn J J<|sf J J<|?_
  refine sc (sj J J J (by repeat (first|exact .hd .. |apply fD.tl)) (nb J) J J ?_);rw[show(s.c:Int)+1=((s.c+1:Nat):Int) by omega];refine zE<|sR<|sm J J<|sn J J<|sf J J<|qy J J J<|sm J J<|sy (Fe (z:=⟨xa,ns.length,xc⟩) hx J J (by omega) (by show(base:Int)<(ns.length:Int);omega)) J<|?_;rw[bZ];refine sy (Pm (i:=base) hx J (by rw[hel];exact hbn) hzi) J<|?_;refine sc (uG J ?_);intro b5;refine sc (AL J J J (by repeat (first|exact .hd .. |apply fD.tl)) J (nb J) J J ?_);refine zE<|sR<|sf J J<|Hv J J J<|?_;refine sc (zC J J (PF.fn0 (Jg (hs n (aS h0))) (.cons (hzg.up GL.le) .nil)) J ?_);rintro _ G6 _ hw;rw[hl] at hw;obtain⟨n1,d1,p1,n2,d2,p2,n3,d3,p3,rfl,hw⟩:=KI hw;refine sm J J<|sx J J J<|sx J J J<|?_;refine sc (uG J ?_);intro b6;refine sc (AL J J J (by repeat (first|exact .hd .. |apply fD.tl)) J (nb J) J J ?_);refine sa J J<|zE<|bt<|sR<|sm J J<|sy (Dt J) J<|zE<|pj J<|?_;refine sR<|sm J J<|sn J J<|sf J J<|?_;refine sc (sj J J J (by repeat (first|exact .hd .. |apply fD.tl)) (nb J) J J ?_);refine zE<|sR<|?_;refine sc (zC J J (PF.fn0 (vL (b:=false)) (.cons (aG.2 J) .nil)) J ?_);rintro _ G7 _ hp;obtain⟨p,rfl⟩:=rH hp;refine sa J J<|zE<|c6<|?_;exact r8 (css:=[_,_]) (.tmp J .nil) J _ (lS (l₁:=[_,_]) (l₂:=[_,_])) (.cons_cons _ (.cons_cons _ (kQ _))) ⟨p,J,hp,J⟩
 |node base n l s s2 s3 tx ty h0 hfb hl h1 h2 ih1 ih2=>
  intro G rb sb lo lo2 _ hc;have hbn:base<ns.length:=(aU.1 h0).1;have hm1:=h1.mono;have hm2:=h2.mono;simp only at hm1;obtain⟨z,hzi,hz⟩:=hes.get (i:=base) (d:=n.d) (by rw[eX,h0];rfl);obtain⟨x1,x2,x3,rfl,hzg⟩:=Ps hz;refine jB.intro func219 J J ntmps219 J ?_;intro C _ _;show St C _ [(0, .pointer (some ⟨rb,0,none⟩)),(1, .int .i64 (base:Int))] [⟨rb,[.slice xa ns.length xc, .slice (some ⟨sb,0,none⟩) ns.length ns.length, .int .i64 s.c, .bool s.b],_,false⟩,⟨sb,lE ns.length s.f,_,false⟩] _ _;refine sR<|sa J J<|zE<|bt<|ee<|sR<|sm J J<|sy (iF J J) J<|sm J J<|?_;refine n5 12 J (fun hg=>absurd hg (by omega)) (fun hg=>?_);refine bG J J (fE J) J<|bG J J (iF J J) J<|sy (me J J) J<|sa J J<|zE<|?_;refine f7 J (fun hc=>absurd hc (by omega)) (fun _=>?_);refine sR<|sm J J<|sy (jg J J) J<|sm J J<|?_;refine n5 22 J (fun hg=>absurd hg (by omega)) (fun hg=>?_);refine bG J J (fE J) J<|bG J J (fE J) J<|bG J J (lf J) J<|bG J J (ou J) J<|bG J J (lm J J) J<|bG J J (oh J) J<|bG J J (tM J J) J<|sy (me J J) J<|sm J J<|?_;refine n5 31 J (fun hg=>absurd hg (by omega)) (fun hg=>?_);refine bG J J (fE J) J<|bG J J (lf J) J<|bG J J (ou J) J<|bG J J (lm J J) J<|bG J J (fE J) J<|bG J J (fm J J (by omega) (by omega)) J<|?_;refine bG J J (lm (v:= .bool false) J (by rw[bZ,iU];exact C9 hbn hfb)) J<|sy (me J J) J<|sa J J<|zE<|vQ J<|zK<|?_;refine sR<|sm J J<|sn J J<|sf J J<|qy J J J<|sm J J<|sy (fm J J (by omega) (by omega)) J<|?_;refine sc (tn J J (.tl _ _ _ _ _ _ _ _ (.hd ..)) (by rw[GT,bZ,iU];exact hbn) J J ?_);rw[bZ,iU,Ov]
  refine zE<|sR<|sm J J<|sn J J<|sf J J<|qy J J J<|sy (d9 J J) J<|sn J J<|sf J J<|?_;refine sc (sj J J J (by repeat (first|exact .hd .. |apply fD.tl)) (nb J) J J ?_);rw[show(s.c:Int)+1=((s.c+1:Nat):Int) by omega];refine zE<|sR<|sm J J<|sn J J<|sf J J<|qy J J J<|sm J J<|sy (Fe (z:=⟨xa,ns.length,xc⟩) hx J J (by omega) (by show(base:Int)<(ns.length:Int);omega)) J<|?_;rw[bZ];refine sy (Pm (i:=base) hx J (by rw[hel];exact hbn) hzi) J<|?_;refine sc (uG J ?_);intro b5;refine sc (AL J J J (by repeat (first|exact .hd .. |apply fD.tl)) J (nb J) J J ?_);refine zE<|sR<|sf J J<|Hv J J J<|?_;refine sc (zC J J (PF.fn0 (Jg (hs n (aS h0))) (.cons (hzg.up GL.le) .nil)) J ?_);rintro _ G6 _ hw;rw[hl] at hw;obtain⟨n1,d1,p1,n2,d2,p2,n3,d3,p3,rfl,hw'⟩:=KI hw;replace hw:=hw' l J;refine sm J J<|sx J J J<|sx J J J<|?_;refine sc (uG J ?_);intro b6;refine sc (AL J J J (by repeat (first|exact .hd .. |apply fD.tl)) J (nb J) J J ?_);refine sa J J<|zE<|bt<|sR<|sm J J<|sy (Dt J) J<|zE<|vQ J<|zK<|?_;refine sR<|sm J J<|sf J J<|qy J J J<|?_;have hrp:=ih1 (G:=G6) (rb:=rb) (sb:=sb) (lo:=false) (lo2:=false) (by omega);refine sc (Cz J J (lS (l₁:=[_,_]) (l₂:=[_,_])) hrp J ?_);rintro _ css G7 _ _ ⟨q1,rfl,hp1,rfl⟩;show St C _ _ [⟨rb,[.slice xa ns.length xc, .slice (some ⟨sb,0,none⟩) ns.length ns.length, .int .i64 s2.c, .bool s2.b],342,false⟩,⟨sb,lE ns.length s2.f,4,false⟩,⟨b6,[.int .i64 n1, .int .i64 d1, .pointer p1, .int .i64 n2, .int .i64 d2, .pointer p2, .int .i64 n3, .int .i64 d3, .pointer p3],218,true⟩,⟨b5,[.bool n.g.na, .slice x1.a x1.n x1.c, .bool n.g.nb, .slice x2.a x2.n x2.c, .bool n.g.nc, .slice x3.a x3.n x3.c, .int .i64 n.l, .int .i64 n.r],149,true⟩] _ _
  refine sa J J<|zE<|bt<|?_;refine zq [⟨b6,[.int .i64 n1, .int .i64 d1, .pointer p1, .int .i64 n2, .int .i64 d2, .pointer p2, .int .i64 n3, .int .i64 d3, .pointer p3],218,true⟩,⟨b5,[.bool n.g.na, .slice x1.a x1.n x1.c, .bool n.g.nb, .slice x2.a x2.n x2.c, .bool n.g.nc, .slice x3.a x3.n x3.c, .int .i64 n.l, .int .i64 n.r],149,true⟩] (fun _=>false) [(0,true),(1,true),(2,true),(3,true),(4,true),(5,false),(6,false),(7,true)] follows (by kernel_rfl)<|?_;refine dL J J J J<|dM J J J<|dM J J J<|dF J J J<|rP J J J J<|?_;have hrp:=ih2 (G:=G7) (rb:=rb) (sb:=sb) (lo:=false) (lo2:=false) hc;refine dc J J (Cz J J (M:=[_,_]) (rest:=[_,_]) (List.Perm.refl _) hrp J ?_);rintro _ css G8 _ _ ⟨q2,rfl,hp2,rfl⟩;show St C _ _ [⟨rb,[.slice xa ns.length xc, .slice (some ⟨sb,0,none⟩) ns.length ns.length, .int .i64 s3.c, .bool s3.b],342,false⟩,⟨sb,lE ns.length s3.f,4,false⟩,⟨b6,[.int .i64 n1, .int .i64 d1, .pointer p1, .int .i64 n2, .int .i64 d2, .pointer p2, .int .i64 n3, .int .i64 d3, .pointer p3],218,true⟩,⟨b5,[.bool n.g.na, .slice x1.a x1.n x1.c, .bool n.g.nb, .slice x2.a x2.n x2.c, .bool n.g.nc, .slice x3.a x3.n x3.c, .int .i64 n.l, .int .i64 n.r],149,true⟩] _ _;refine mO<|?_;refine dc J J (zC J J (PF.fn0 (yU (l:=l) (x:=tx) (y:=ty)) (.cons (hw.up GL.le) (.cons (hp1.up GL.le) (.cons hp2 .nil)))) J ?_);rintro _ G9 _ hp;obtain⟨p,rfl⟩:=rH hp;refine mO<|dA J J J<|dn<|c6<|?_;exact r8 (css:=[_,_]) (.tmp J .nil) J _ (List.Perm.refl _) (.cons_cons _ (.cons_cons _ (kQ _))) ⟨p,J,hp,J⟩
def q7:RS:=⟨fun _=>false,0,false⟩
def zN(ns:List RN)(t:Tr)(s:RS):DV:=if s.b=false/\s.c=ns.length then .tp [eU t,vB true] else .tp [.v (.pointer none),vB false]
def yM(rt:Int)(ns:List RN):DV:= .ag [vI rt, .sl (ns.map RN.d)]
def Sg{ns:List RN}{rt:Int}{t:Tr}{s:RS}(hs: ∀n∈ns,n.g.sm)(hn:ns.length<=65536)(h:RR ns rt q7 t s)(hc:s.c<=1000000):PF GB prog 129 [yM rt ns] (zN ns t s):=by
 intro G vs _ hv;obtain⟨v0,m,rfl,h0,hm⟩:=ba.1 hv;rw[cD] at hm;subst hm;obtain⟨m,rfl,g⟩:=cO.1 h0;obtain⟨v1,m,rfl,h1,hm⟩:=ba.1 g;obtain⟨v2,m,rfl,h2,hm⟩:=ba.1 hm;rw[cD] at hm;subst hm;obtain⟨s0,x,es,rfl,hsl,hes⟩:=gO.1 h2;rw[aG.1 h1];have hel:=hes.len;rw[aJ] at hel;have hlen:=hsl.len;rw[hel] at hlen;have hx:Nw x ns G:=by
  refine⟨es,?_,hes⟩;rcases zM (s:=8) hsl hes (fun d hd=>by obtain⟨n,_,rfl⟩:=bV.1 hd;exact⟨rfl,rfl⟩) with e|e
  ·exact⟨hsl.len,hsl.cap, .inl e⟩
  ·rw[e] at hsl;exact hsl
 obtain⟨xa,xn,xc⟩:=x;simp only[] at hlen;subst hlen;show Fn _ _ [.agg ⟨[.int .i64 rt, .slice xa ns.length xc]⟩] _ _;refine Fn.intro func129 J J ntmps129 J ?_;intro C _ _;refine sR<|?_;refine sc (Hz J J ?_);intro b1;refine sa J J<|sa J J<|zE<|bt<|sR<|sf J J<|qy J J J<|cI J J<|sy (sO J J) J<|zE<|?_;refine f7 J (fun hc=>absurd hc (by omega)) (fun _=>?_);refine zK<|bt<|dr (fun _=>false) [(0,true),(1,true),(2,true),(3,true),(4,true),(5,false),(6,true),(7,false),(8,true)] follows (by kernel_rfl)<|dF J J J<|?_;refine rP J J J J<|dF J J J<|rP J J J J<|dy J (fun _=>oh J) J J<|?_;refine dc J J (sB J J (by omega) (by omega) (by omega) (by rfl) J ?_);intro b2;rw[bZ,apb];refine mO<|dy J (fun _=>Ds J) J J<|?_;refine dc J J (Hz J J ?_);intro b3;refine mO<|dA J J J<|dn<|sR<|sm J J<|sf J J<|qy J J J<|?_;have hrp:=T0 hx hs (by omega) h (G:=G) (rb:=b3) (sb:=b2) (lo:=true) (lo2:=true) hc;refine sc (Cz J J (M:=[_,_]) (rest:=[_]) (List.Perm.refl _) hrp J ?_);rintro _ css G4 _ _ ⟨p,rfl,hp,rfl⟩;show St C _ _ [⟨b3,[.slice xa ns.length xc, .slice (some ⟨b2,0,none⟩) ns.length ns.length, .int .i64 s.c, .bool s.b],342,true⟩,⟨b2,lE ns.length s.f,4,true⟩,⟨b1,[.int .i64 rt, .slice xa ns.length xc],32,true⟩] _ _;refine sa J J<|zE<|bt<|bt<|dr (fun _=>false) [(0,true),(1,true),(2,true),(3,true),(4,true),(5,true),(6,true),(7,true),(8,true),(9,true),(10,true),(11,true),(12,true),(13,true)] follows (by kernel_rfl)<|?_;obtain⟨sf_,sc_,sb_⟩:=s
 cases sb_
 case true=>
  refine dM J J J<|dy J (fun _=>lf J) J J<|dF J J J<|rP J J J J<|dM J J J<|?_;refine tP J J J J J J<|tP J J J J J J<|tP J J J J J J<|tP J J J J J J<|tP J J J J J J<|tP J J J J J J<|?_;refine tP J J J J J J<|tP J J J J J J<|dy J (fun _=>r7 J J) J J<|dn<|pj J<|?_;refine sR<|sa J J<|sa J J<|zE<|c6<|?_;refine zD (.tmp J (.tmp J .nil)) ?_;rw[zN,if_neg (fun e=>by cases e.1)];exact js.2 ⟨_,J, .cons (aG.2 J) (.cons (aG.2 J) .nil)⟩
 refine dM J J J<|dy J (fun _=>lf J) J J<|dF J J J<|rP J J J J<|dM J J J<|?_;refine uI J J J J (fun _=>fE J) J<|uI J J J J (fun _=>lf J) J<|uI J J J J (fun _=>ou J) J<|uI J J J J (fun _=>lm J J) J<|?_;refine uI J J J J (fun _=>ou J) J<|uI J J J J (fun _=>lm J J) J<|uI J J J J (fun _=>oh J) J<|uI J J J J (fun _=>tG J J) J<|?_;refine dy J (fun _=>me J J) J J<|dn<|?_;refine f7 J (fun hc=>?_) (fun hc=>?_) -- slot 35
 ·refine sR<|sa J J<|sa J J<|zE<|c6<|?_
  refine zD (.tmp J (.tmp J .nil)) ?_;rw[zN,if_neg (fun e=>hc (by have:=e.2;simp only at this;omega))];exact js.2 ⟨_,J, .cons (aG.2 J) (.cons (aG.2 J) .nil)⟩
 refine zK<|sR<|sm J J<|sa J J<|sa J J<|zE<|c6<|?_;refine zD (.tmp J (.tmp J .nil)) ?_;rw[zN,if_pos ⟨J,by have h9:=hc;simp at h9;show sc_=_;omega⟩];exact js.2 ⟨_,J, .cons hp (.cons (aG.2 J) .nil)⟩
def aBR{G:Gh}{l:ab}{x y:Tr}{m:List Value}(h:IsLs G (cU (.node l x y)) m): ∃n1 d1 p1 n2 d2 p2 n3 d3 p3 q r,m=[.int .i64 n1, .int .i64 d1, .pointer p1, .int .i64 n2, .int .i64 d2, .pointer p2, .int .i64 n3, .int .i64 d3, .pointer p3, .pointer q, .pointer r, .bool false]/\
  Is G (eH l) (.agg ⟨[.int .i64 n1, .int .i64 d1, .pointer p1, .int .i64 n2, .int .i64 d2, .pointer p2, .int .i64 n3, .int .i64 d3, .pointer p3]⟩)/\Is G (eU x) (.pointer q)/\Is G (eU y) (.pointer r):=by
 obtain⟨v1,m,rfl,h1,h⟩:=ba.1 h;obtain⟨v2,m,rfl,h2,h⟩:=ba.1 h;obtain⟨v3,m,rfl,h3,h⟩:=ba.1 h;obtain⟨v4,m,rfl,h4,h⟩:=ba.1 h;obtain⟨v5,m,rfl,h5,h⟩:=ba.1 h;obtain⟨v6,m,rfl,h6,h⟩:=ba.1 h;obtain⟨v7,m,rfl,h7,h⟩:=ba.1 h;obtain⟨v8,m,rfl,h8,h⟩:=ba.1 h;obtain⟨v9,m,rfl,h9,h⟩:=ba.1 h;obtain⟨va,m,rfl,ha,h⟩:=ba.1 h;obtain⟨vb,m,rfl,hb,h⟩:=ba.1 h;obtain⟨vc,m,rfl,hc,h⟩:=ba.1 h;rw[cD] at h;subst h;obtain⟨_,rfl⟩:=yr h3;obtain⟨_,rfl⟩:=yr h6;obtain⟨_,rfl⟩:=yr h9;obtain⟨_,rfl⟩:=rH ha;obtain⟨_,rfl⟩:=rH hb
 cases aG.1 h1;cases aG.1 h2;cases aG.1 h4;cases aG.1 h5;cases aG.1 h7;cases aG.1 h8;cases aG.1 hc
 exact⟨_,_,_,_,_,_,_,_,_,_,_,J,cO.2 ⟨_,J, .cons h1 (.cons h2 (.cons h3 (.cons h4 (.cons h5 (.cons h6 (.cons h7 (.cons h8 (.cons h9 .nil))))))))⟩,ha,hb⟩
def VC{G:Gh}{b:Bool}{m:List Value}(h:IsLs G (cU (.leaf b)) m):m=[.int .i64 0, .int .i64 0, .pointer none, .int .i64 0, .int .i64 0, .pointer none, .int .i64 0, .int .i64 0, .pointer none, .pointer none, .pointer none, .bool b]:=by
 obtain⟨v1,m,rfl,h1,h⟩:=ba.1 h;obtain⟨v2,m,rfl,h2,h⟩:=ba.1 h;obtain⟨v3,m,rfl,h3,h⟩:=ba.1 h;obtain⟨v4,m,rfl,h4,h⟩:=ba.1 h;obtain⟨v5,m,rfl,h5,h⟩:=ba.1 h;obtain⟨v6,m,rfl,h6,h⟩:=ba.1 h;obtain⟨v7,m,rfl,h7,h⟩:=ba.1 h;obtain⟨v8,m,rfl,h8,h⟩:=ba.1 h;obtain⟨v9,m,rfl,h9,h⟩:=ba.1 h;obtain⟨va,m,rfl,ha,h⟩:=ba.1 h;obtain⟨vb,m,rfl,hb,h⟩:=ba.1 h;obtain⟨vc,m,rfl,hc,h⟩:=ba.1 h;rw[cD] at h;subst h
 cases aG.1 h1;cases aG.1 h2;cases aG.1 h3;cases aG.1 h4;cases aG.1 h5;cases aG.1 h6;cases aG.1 h7;cases aG.1 h8;cases aG.1 h9;cases aG.1 ha;cases aG.1 hb;cases aG.1 hc
 rfl
def EQ: ∀{t:Tr} {A A2 G:Gh} {p:Option Addr} {ob wb:Nat} {lo lo2:Bool} {x:SV} {zs:List ND} {ns:List NQ} {B:List ak},Is A (eU t) (.pointer p)->t.all LB->[GL A G]->[GL A2 G]->iw 8 149 x (zs.map ND.val) B->gi (qB 96 A2) zs ns->zs.length+t.size<=1000000->
  i8 prog 170 [.pointer p, .pointer (some ⟨ob,0,none⟩), .pointer (some ⟨wb,0,none⟩)] (⟨ob,[.int .i64 0, .slice x.a x.n x.c],32,lo⟩::⟨wb,[oo ob wb],274,lo2⟩::B) G
   (fun v own' G'=> ∃x' zs' B',v= .int .i64 (t.num zs.length)/\own'=⟨ob,[.int .i64 0, .slice x'.a x'.n x'.c],32,false⟩::⟨wb,[oo ob wb],274,false⟩::B'/\iw 8 149 x' (zs'.map ND.val) B'/\gi (qB 96 G') zs' (ns++t.wr zs.length))
 | .leaf bb,A,A2,G,p,ob,wb,lo,lo2,x,zs,ns,B,h,_,_,_,hB,hz,hle=>by
  obtain⟨n,m,e,hg,hm⟩:=ph.1 (id h)
  cases e
  cases VC hm
  have hG:vV A n _:=⟨hg⟩;have hz':gi (qB 96 G) zs (ns++[]):=by rw[iW];exact hz.imp fun _ _ h=>h.up
  refine i8.intro func170 J J ntmps170 J ?_;intro C _ _;show St C _ _ (⟨ob,[.int .i64 0, .slice x.a x.n x.c],32,false⟩::⟨wb,[oo ob wb],274,false⟩::asB B) _ _;refine sR<|sa J J<|zE<|bt<|sR<|sm J J<|?_;refine sc (zC J J (PF.fn0 vo (.cons (h.up GL.le) .nil)) J ?_);rintro _ G1 _ hv
  cases aG.1 hv
  refine zE<|pj J<|?_;refine bt<|sR<|sm J J<|sn J J<|sf J J<|aJu J J J<|zE<|?_
  cases bb
  case true=>
   refine pj J<|sR<|sa J J<|zE<|c6<|?_;exact A0 (.tmp J .nil) _ _ (List.Perm.refl _) (List.Sublist.refl _) ⟨x,zs,_,J,J,hB.asB,hz'.imp fun _ _ h=>h.up⟩
  refine vQ J<|zK<|sR<|sa J J<|zE<|c6<|?_;exact A0 (.tmp J .nil) _ _ (List.Perm.refl _) (List.Sublist.refl _) ⟨x,zs,_,J,J,hB.asB,hz'.imp fun _ _ h=>h.up⟩
 | .node l s u,A,A2,G,p,ob,wb,lo,lo2,x,zs,ns,B,h,hall,_,_,hB,hz,hle=>by
  obtain⟨hlb,hall1,hall2⟩:=id hall;haveI:LB l:=hlb;obtain⟨n,m,e,hg,hm⟩:=ph.1 (id h)
  cases e
  obtain⟨n1,d1,p1,n2,d2,p2,n3,d3,p3,q,r,rfl,hzl,hs,hu⟩:=aBR hm;have hG:vV A n _:=⟨hg⟩;have hxn:=hB.len;have hzn:=hz.len;simp only[Tr.size] at hle;obtain⟨xa,xn,xc⟩:=x;rw[aJ] at hxn;simp only[] at hxn;subst hxn;refine i8.intro func170 J J ntmps170 J ?_;intro C _ _;show St C _ _ (⟨ob,[.int .i64 0, .slice xa zs.length xc],32,false⟩::⟨wb,[oo ob wb],274,false⟩::asB B) _ _;replace hB:=hB.asB;generalize asB B=B at hB;refine sR<|sa J J<|zE<|bt<|sR<|sm J J<|?_;refine sc (zC J J (PF.fn0 uW (.cons (h.up GL.le) .nil)) J ?_);rintro _ G1 _ hv
  cases aG.1 hv
  refine zE<|vQ J<|?_;refine zK<|sR<|sf J J<|qy J J J<|cI J J<|sa J J<|zE<|bt<|?_;refine zq [⟨ob,[.int .i64 0, .slice xa zs.length xc],32,false⟩] (fun i=>Nat.beq i 11) [(0,true),(1,true),(2,true),(3,true),(4,true),(5,true),(6,false),(7,true),(8,false),(9,false),(10,true),(11,false)] follows (by kernel_rfl)<|?_;refine dF J J J<|rP J J J J<|dM J J J<|dy J (fun _=>lf J) J J<|?_;refine dF J J J<|dy J (fun _=>Eq J D7 J) J J<|?_;refine dc J J (zC J J (PF.fn0 (VR (l:=l)) (.cons (hzl.up GL.le) .nil)) J ?_);rintro _ G2 _ hv;obtain⟨ia,ib,ic,rfl,hia,hib,hic⟩:=aFn hlb.bl hv;refine mO<|dy J (fun _=>Ds J) J J<|?_;refine dc J J (VZ J (by rfl) (by rfl) (by decide) (by decide) J ?_);intro b3;refine mO<|?_;refine dc J J (alc (v:=ND.val ⟨ia,ib,ic,0,0⟩) (vs:=zs.map ND.val) [_,_,_] rfl hB J J (xJ inferInstance J) J (ND.flat [⟨ia,ib,ic,0,0⟩] _ aQ) (by decide) (by rw[aJ];omega) J J ?_);intro x1 B1 hB1;rw[show zs.map ND.val++[ND.val ⟨ia,ib,ic,0,0⟩]=(zs++[(⟨ia,ib,ic,0,0⟩:ND)]).map ND.val by simp] at hB1;show St C _ _ (⟨b3,_,_,true⟩::⟨ob,[.int .i64 0, .slice xa zs.length xc],32,false⟩::⟨wb,[oo ob wb],274,false⟩::B1) _ _;refine mO<|dF J J J<|?_;refine dc J J (sj (cs':=[.int .i64 0, .slice x1.a x1.n x1.c]) J J J (.tl _ _ _ _ _ _ _ _ (.hd ..)) (nb J) J J ?_);refine S8 J<|dn<|?_;refine Ky _ (rU _ _) ?_;have hz1:gi (qB 96 G2) (zs++[(⟨ia,ib,ic,0,0⟩:ND)]) (ns++[⟨l,0,0⟩]):=(hz.imp fun _ _ h=>h.up).app (.cons ⟨hia,hib,hic,J,J⟩ .nil);refine bt<|zq [⟨wb,[oo ob wb],274,false⟩] (fun _=>false) [(0,true),(1,true),(2,true),(3,true),(4,true),(5,false),(6,true)] follows (by kernel_rfl)<|?_
  refine rP J J J J<|dM J J J<|dy J (fun _=>lf J) J J<|dF J J J<|dy J (fun _=>Aw J D7 J) J J<|?_;refine dc J J (Ey (c1:=[]) (M:=_::_::B1) (rest:=[]) J J (by rw[iW]) (EQ (lo:=false) (lo2:=false) hs hall1 hB1 hz1 (by simp;omega)) J ?_);rintro _ _ G3 fl _ hf _ ⟨x2,MT,B2,rfl,rfl,hB2,hz2⟩;have e1:fl ob=false:=hf _ aQ J;have e2:fl wb=false:=hf _ (aZ _ aQ) J;replace hB2:=hB2.relo fl;refine II (own':=⟨ob,[.int .i64 0, .slice x2.a x2.n x2.c],32,false⟩::⟨wb,[oo ob wb],274,false⟩::B2.map (relo fl)) (by simp only[bW,relo,e1,e2,iW]) ?_;generalize B2.map (relo fl)=B2 at hB2;have hl2:=hz2.len;simp only[aT,Tr.wr_len,nK] at hl2;refine mO<|dA J J J<|dn<|bt<|zq [⟨wb,[oo ob wb],274,false⟩] (fun _=>false) [(0,true),(1,true),(2,true),(3,true),(4,true),(5,false),(6,true)] follows (by kernel_rfl)<|?_;refine rP J J J J<|dM J J J<|dy J (fun _=>lf J) J J<|dF J J J<|dy J (fun _=>Aw J D7 J) J J<|?_;refine dc J J (Ey (c1:=[]) (M:=_::_::B2) (rest:=[]) J J (by rw[iW]) (EQ (lo:=false) (lo2:=false) hu hall2 hB2 hz2 (by omega)) J ?_);rintro _ _ G4 fl _ hf _ ⟨x3,wP,B3,rfl,rfl,hB3,hz3⟩;have e3:fl ob=false:=hf _ aQ J;have e4:fl wb=false:=hf _ (aZ _ aQ) J;replace hB3:=hB3.relo fl;refine II (own':=⟨ob,[.int .i64 0, .slice x3.a x3.n x3.c],32,false⟩::⟨wb,[oo ob wb],274,false⟩::B3.map (relo fl)) (by simp only[bW,relo,e3,e4,iW]) ?_;generalize B3.map (relo fl)=B3 at hB3;have hl3:=hz3.len;simp only[aT,Tr.wr_len,nK] at hl3;have hn3:zs.length<wP.length:=by omega
  rcases hB3 with⟨h1,_,_⟩|⟨nb,rest,lo3,hx3,rfl,hf1,hf2,hf3⟩
  ·have:=congrArg List.length h1;rw[aJ,iK] at this;omega
  obtain⟨x3a,x3n,x3c⟩:=x3;simp only[SV.mk.injEq] at hx3;obtain⟨rfl,rfl,_⟩:=hx3;rw[aJ] at hf3;have hzz:ns.length=zs.length:=hzn.symm;obtain⟨zn,hzn1,hzn2⟩:=hz3.get (i:=zs.length) (b:=⟨l,0,0⟩) (by rw[dQ,dQ,<-hzz,fR (aM _),rY];rfl);obtain⟨_,hzn3⟩:=aU.1 hzn1;have hL1:(zs++[(⟨ia,ib,ic,0,0⟩:ND)]).length=zs.length+1:=by simp
  have hL2:MT.length=zs.length+1+s.size:=by omega
  rw[hL1] at hz3;rw[hL1,hL2];rw[hL2] at hz3;refine mO<|dA J J J<|dn<|?_;refine bt<|zq [⟨ob,[.int .i64 0, .slice (some ⟨nb,0,none⟩) (wP.map ND.val).length x3c],32,false⟩] (fun _=>false) [(0,true),(1,true),(2,true),(3,true),(4,true),(5,true),(6,true),(7,true),(8,true),(9,true),(10,false),(11,true),(12,true),(13,false)] follows (by kernel_rfl)<|?_;refine dF J J J<|rP J J J J<|dM J J J<|dF J J J<|?_;refine rP J J J J<|dM J J J<|dM J J J<|dM J J J<|dy J (fun _=>fm J J (by omega) (by rw[aJ];omega)) J J<|?_;refine dF J J J<|?_;refine dc J J (tn J J (.tl _ _ _ _ _ _ _ _ (.tl _ _ _ _ _ _ _ _ (.hd ..))) (by rw[aT,hf1,aJ,bZ];omega) J J ?_);rw[bZ,OK wP rest zs.length 6 _ {zn with l:=s.num (zs.length+1)} hn3 (by decide) (by rw[hzn3];rfl)];refine mO<|dy J (fun _=>fm J J (by omega) (by rw[aJ];omega)) J J<|dF J J J<|?_;refine dc J J (tn J J (.tl _ _ _ _ _ _ _ _ (.tl _ _ _ _ _ _ _ _ (.hd ..))) (by rw[aT,ek (s:=8) _ (ND.len8 _),aJ,aL,bZ];omega) J J ?_);rw[bZ,OK (wP.set zs.length _) rest zs.length 7 _ {zn with l:=s.num (zs.length+1),r:=u.num (zs.length+1+s.size)} (by rw[aL];exact hn3) (by decide) (by rw[List.getElem_set_self];rfl)];refine mO<|dn<|sR<|sm J J<|sa J J<|zE<|c6<|?_;have hfin:=hz3.set (a:={zn with l:=s.num (zs.length+1),r:=u.num (zs.length+1+s.size)}) (b:=⟨l,s.num (zs.length+1),u.num (zs.length+1+s.size)⟩) ⟨hzn2.a,hzn2.b,hzn2.c,J,J⟩ zs.length;have hns:(ns++[(⟨l,0,0⟩:NQ)]++s.wr (zs.length+1)++u.wr (zs.length+1+s.size)).set zs.length ⟨l,s.num (zs.length+1),u.num (zs.length+1+s.size)⟩=ns++(Tr.node l s u).wr zs.length:=by
   rw[dQ,dQ,nJ _ _ (by omega),hzz,rY];simp[Tr.wr]
  rw[hns] at hfin;refine A0 (.tmp J .nil) _ _ (List.Perm.refl _) (List.Sublist.refl _) ⟨⟨some ⟨nb,0,none⟩,(wP.map ND.val).length,x3c⟩,_,_,J,J,?_,hfin⟩;refine .inr ⟨nb,rest,lo3,by simp,by rw[List.set_set],?_,?_,?_⟩
  ·rw[ek (s:=8) _ (ND.len8 _)]
  ·rw[ek (s:=8) _ (ND.len8 _),aJ,aL];rw[hf1,aJ] at hf2;exact hf2
  ·rw[aJ,aL];exact hf3
def NO{t:Tr}(hb:t.all LB)(hs:t.size<=1000000):PF GB prog 78 [eU t] (eA t):=by
 intro G vs _ hv;obtain⟨v0,m,rfl,h,hm⟩:=ba.1 hv;rw[cD] at hm;subst hm;obtain⟨p,rfl⟩:=rH h;refine Fn.intro func78 J J ntmps78 J ?_;intro C _ hC;refine sR<|?_;refine sc (uG J ?_);intro b1;refine zE<|sR<|?_;refine sc (uG J ?_);intro b2;refine zE<|sR<|?_;refine sc (uG J ?_);intro b3;refine zE<|sR<|sy (zG J J) J<|?_;refine sc (sj (cs':=[oo b2 b3]) J J J (.hd ..) (nb J) J J ?_);refine zE<|sR<|qy J J J<|sm J J<|?_;refine sc (Ey (c1:=[]) (M:=[⟨b2,[.int .i64 0, .slice none 0 0],32,true⟩,⟨b3,[oo b2 b3],274,true⟩]) (rest:=[⟨b1,[.int .i64 0, .slice none 0 0],32,true⟩]) J J (List.Perm.swap ..) (EQ (A:=G) (A2:=G) (x:=⟨none,0,0⟩) (zs:=[]) (ns:=[]) (B:=[]) h hb (iw.nil ..) .nil (by simpa using hs)) J ?_);rintro _ _ G4 fl _ _ hf ⟨x,zs,B,rfl,rfl,hB,hz⟩;have e1:=hf (by simp) b2;have e2:=hf (by simp) b3;replace hB:=hB.relo fl;refine II (own':=⟨b2,[.int .i64 0, .slice x.a x.n x.c],32,true⟩::⟨b3,[oo b2 b3],274,true⟩::(B.map (relo fl)++[⟨b1,[.int .i64 0, .slice none 0 0],32,true⟩])) (by simp only[bW,relo,e1,e2,cK]) ?_;generalize B.map (relo fl)=B at hB;refine A4 (⟨b2,[.int .i64 0, .slice x.a x.n x.c],32,true⟩::⟨b3,[oo b2 b3],274,true⟩::⟨b1,[.int .i64 0, .slice none 0 0],32,true⟩::B) ((lS (l₁:=B) (l₂:=[_])).cons _ |>.cons _) ?_;refine sf J J<|?_;refine sc (sj (cs':=[.int .i64 (t.num 0), .slice x.a x.n x.c]) J J J (.hd ..) (nb J) J J ?_);refine zE<|sR<|Hv J J J<|?_;refine sc (AL (cs':=[.int .i64 (t.num 0), .slice x.a x.n x.c]) J J J (.tl _ _ _ _ _ _ _ _ (.tl _ _ _ _ _ _ _ _ (.hd ..))) J (nb J) J J ?_)
 refine zE<|?_;refine U6 (L:=[_,_,_]) hC hB (ND.len8 _) ?_;intro G5 _ hsl;show St C _ _ [⟨b2,_,_,true⟩,⟨b3,_,_,true⟩,⟨b1,[.int .i64 (t.num 0), .slice x.a x.n x.c],32,true⟩] _ _;refine c6<|?_;exact zD (.agg J ii ii J .nil) (aDe (k:=96) ⟨zs,hsl,by rw[cY] at hz;exact hz.imp fun _ _ h=>h.up⟩)
def Tr.pre:Tr->List Tr
 | .leaf b=>[.leaf b]
 | .node l x y=> .node l x y::(x.pre++y.pre)
structure Vis (f:FuncId) (c2:List Value) (σ:Type) (step:σ->Tr->σ) (ok:σ->Tr->Prop) (Inv:σ->List ak->Gh->Prop):Prop where
 up: ∀{s B G G'},bw G G'->Inv s B G->Inv s B G'
 re: ∀{s B G} (fl:Nat->Bool),Inv s B G->Inv s (B.map (relo fl)) G
 go: ∀{s t p B G},ok s t->Inv s B G->Is G (eU t) (.pointer p)->i8 prog f (.pointer p::c2) B G (fun _ B' G'=>Inv (step s t) B' G')
section
variable {P:Program} {C:aD} {n:Nat} {fr:Fr} {own:List ak} {G:Gh}
end
def Ow{σ:Type}(step:σ->Tr->σ)(ok:σ->Tr->Prop):σ->List Tr->Prop
 |_,[]=>True
 |s,t::ts=>ok s t/\Ow step ok (step s t) ts
structure EX (σ:Type) where
 ts:List Tr
 vs:List Value
 rest:List Value
 b:Nat
 cap:Nat
 lo:Bool
 s:σ
 B:List ak
def Ux(t:Tr):Nat:=2*t.size+1
def LC(ts:List Tr):List Tr:=ts.reverse.flatMap Tr.pre
structure EI (A:Gh) {σ:Type} (step:σ->Tr->σ) (ok:σ->Tr->Prop) (Inv:σ->List ak->Gh->Prop) (N:Nat) (fin:σ) (x:EX σ) (G:Gh):Prop where
 rel:gi (fun v t=> ∃p,v= .pointer p/\Is A (eU t) (.pointer p)) x.vs x.ts
 cap:x.vs.length+x.rest.length=x.cap
 inv:Inv x.s x.B G
 mu:(x.ts.map Ux).sum<=N
 okf:Ow step ok x.s (LC x.ts)
 fin:(LC x.ts).foldl step x.s=fin
def szI(nbk:Nat)(s:Nat)(B:List ak)(_:Gh):Prop:= ∃lo,B=[⟨nbk,[.int .i64 s],3,lo⟩]
def szS(s:Nat):Tr->Nat
 | .leaf _=>s
 | .node .. =>s+1
def uO(n:Nat)(f:Nat->Bool):Nat:=((List.range n).filter fun j=>!f j).length
def T7{n k:Nat}{f:Nat->Bool}(hk:k<n)(hf:f k=false):uO n (lg f k)+1=uO n f:=by
 unfold uO;have key: ∀l:List Nat,l.Nodup->((l.filter fun j=>!lg f k j).length+(if k∈l then 1 else 0)=(l.filter fun j=>!f j).length):=fun l=>by
  induction l with
  |nil=>intro _;rfl
  |cons a l ih=>
   intro hn;obtain⟨h1,h2⟩:=List.nodup_cons.1 hn;have:=ih h2;by_cases e:a=k
   ·subst e
    simp only[mM,Lv,hf,aV,true_or,if_true] at this⊢;rw[if_neg h1] at this;simp at this⊢;omega
   ·have e': ¬k=a:=fun h=>e h.symm
    simp only[mM,zh e,aV,e',false_or] at this⊢
    cases f a<;>simp at this⊢ <;>omega
 have:=key (List.range n) List.nodup_range;rwa [if_pos (nQ.2 hk)] at this
def tv(ns:List RN):Nat->Int->RS->Tr×RS
 |0,_,s=>(.leaf false,s)
 |m+1,rt,s=>
  if rt= -1 then(.leaf false,s) else if rt= -2 then(.leaf true,s) else
  match ns[rt.toNat]? with
  |none=>(.leaf false,⟨s.f,s.c,true⟩)
  |some n=>if rt<0\/s.f rt.toNat=true then(.leaf false,⟨s.f,s.c,true⟩) else
   match n.g.ln with
   |none=>(.leaf false,⟨lg s.f rt.toNat,s.c+1,true⟩)
   |some l=>let a:=tv ns m n.l ⟨lg s.f rt.toNat,s.c+1,s.b⟩;let b:=tv ns m n.r a.2;(.node l a.1 b.1,b.2)
def C8{ns:List RN}: ∀{m:Nat} {rt:Int} {s:RS},uO ns.length s.f<m->RR ns rt s (tv ns m rt s).1 (tv ns m rt s).2/\(tv ns m rt s).2.c+uO ns.length (tv ns m rt s).2.f=s.c+uO ns.length s.f
 |0,_,_,h=>absurd h (Nat.not_lt_zero _)
 |m+1,rt,s,h=>by
  rw[tv];split
  ·rename_i e;subst e;exact⟨.leaf false s,rfl⟩
  rename_i e1;split
  ·rename_i e;subst e;exact⟨.leaf true s,rfl⟩
  rename_i e2;split
  ·rename_i hn
   have:=List.getElem?_eq_none_iff.1 hn;exact⟨.bad rt s e1 e2 (by omega),J⟩
  rename_i n hn;have hlt:=(aU.1 hn).1;split
  ·rename_i hb
   refine⟨.bad rt s e1 e2 ?_,J⟩;rcases hb with hb|hb
   ·exact .inl hb
   ·by_cases h0:rt<0
    ·exact .inl h0
    ·exact .inr (.inr ⟨rt.toNat,by omega,hlt,hb⟩)
  rename_i hb;obtain⟨k,rfl⟩: ∃k:Nat,rt=k:=⟨rt.toNat,by omega⟩;rw[bZ] at hn hlt hb⊢;have hf:s.f k=false:=by
   cases hh:s.f k with
   |false=>rfl
   |true=>exact absurd (Or.inr hh) hb
  have hu:=T7 hlt hf;split
  ·rename_i hl;exact⟨.line k n s hn hf hl,by simp only;omega⟩
  rename_i l hl;have h1:=C8 (ns:=ns) (m:=m) (rt:=n.l) (s:=⟨lg s.f k,s.c+1,s.b⟩) (by simp only;omega);have hc:=h1.1.mono;simp only at h1 hc;have h2:=C8 (ns:=ns) (m:=m) (rt:=n.r) (s:=(tv ns m n.l ⟨lg s.f k,s.c+1,s.b⟩).2) (by omega);exact⟨.node k n l s _ _ _ _ hn hf hl h1.1 h2.1,by have:=h1.2;have:=h2.2;dsimp only;omega⟩
def vG(ns:List RN)(rt:Int):Option Tr:=
 let r:=tv ns (ns.length+1) rt q7
 if r.2.b=false/\r.2.c=ns.length then some r.1 else none
def Xd:Option Tr->DV
 |some t=> .tp [eU t,vB true]
 |none=> .tp [.v (.pointer none),vB false]
def El(n:Nat)(f:Nat->Bool):uO n f<=n:=by
 unfold uO;refine dR (sQ _ _) ?_;rw[nN];exact aM _
def VS{ns:List RN}{rt:Int}(hs: ∀n∈ns,n.g.sm)(hn:ns.length<=65536):PF GB prog 129 [yM rt ns] (Xd (vG ns rt)):=by
 have h:=C8 (ns:=ns) (m:=ns.length+1) (rt:=rt) (s:=q7) (by have:=El ns.length q7.f;omega);have hu:=El ns.length q7.f;have h0:q7.c=0:=J;have h2:=Sg (GB:=GB) hs hn h.1 (by have:=h.2;omega);unfold zN at h2;unfold vG;simp only;split
 ·rename_i e;rw[if_pos e] at h2;exact h2
 ·rename_i e;rw[if_neg e] at h2;exact h2
end Go.Sx
end
section
namespace Go.Sx
open Go Go.Proofs Go.RowKit Go.Extern.Stop Go.Stop Go.Extern
def aJ9:TypeId->Sem Value:=fun t=>do Go.Extern.Rtype.noPackHeld "Comparable" t;pure (.bool (<-typeInfo t).comparable)
def Ad(a:Addr):DV:= .v (.iface 499 (.pointer (some a)))
end Go.Sx
end
section
namespace Go.Sx
open Go Go.Proofs Tryz
structure EG (GB:Gh) (ai al ae:Addr):Prop where
 ErrInvalid:GB 0=some [.iface 499 (.pointer (some ai))]
 ErrLimit:GB 1=some [.iface 499 (.pointer (some al))]
structure EGE (GB:Gh) (ai al ae:Addr):Prop extends EG GB ai al ae where
 ErrEmpty:GB 4=some [.iface 499 (.pointer (some ae))]
structure Tr.gd (t:Tr):Prop where
 lb:t.all LB
 ok:t.all ab.ok
def JU(op:Int)(a b:Tr):Option Tr:=if 1024<a.depth+b.depth then none else if 65536<(a.mergeQ op b []).size then none else some (a.mergeQ op b [])
def aKA(al:Addr):Option Tr->DV
 |some t=> .tp [eU t, .v .nilIface]
 |none=> .tp [.v (.pointer none),Ad al]
def PC(op:Int):Tr->List Tr->Option Tr
 |t,[]=>some t
 |t,u::us=>match JU op t u with
  |none=>none
  |some r=>PC op r us
def RZ{t:Tr}(h:t.gd)(c:aF):(t.restrict c).gd:=⟨t.restrict_all LB c h.lb,t.restrict_all ab.ok c h.ok⟩
def aHC{GB:Gh}{ns:List RN}{rt:Int}{t:Tr}(hs: ∀n∈ns,n.g.sm)(hn:ns.length<=65536)(h:vG ns rt=some t):PF GB prog 129 [yM rt ns] (.tp [eU t,vB true]):=by
 have:=VS (GB:=GB) (rt:=rt) hs hn;rw[h] at this;exact this
def Ij:DV:= .ag [vI 0, .sl []]
def aKi:Tr ⊕ Addr->DV
 | .inl t=> .tp [eA t, .v .nilIface]
 | .inr e=> .tp [Ij,Ad e]
def aIU(ai:Addr):Option Tr->Tr ⊕ Addr
 |some t=> .inl t.compl
 |none=> .inr ai
def NB(al:Addr):Option Tr->Tr ⊕ Addr
 |some t=> .inl t
 |none=> .inr al
def aIg(ai al:Addr)(op:Int):Option Tr->Option Tr->Tr ⊕ Addr
 |some a,some b=>if 1<=op/\op<=4 then NB al (JU op a b) else .inr ai
 |_,_=> .inr ai
abbrev rA:=Int×List RN
def rA.d(x:rA):DV:=yM x.1 x.2
def rA.q(x:rA):Option Tr:=vG x.2 x.1
def ofP:Option Tr->DV
 |some t=>eU t
 |none=> .v (.pointer none)
def Vq(op:Int)(ts:List rA):Bool:=decide (1<=op/\op<=4)&&ts.all fun x=>x.q.isSome
def aKm(ai al ae:Addr)(op:Int)(ts:List rA):Tr ⊕ Addr:=
 if Vq op ts then(match ts.filterMap rA.q with
  |[]=> .inr ae
  |a::us=>if 1024<a.depth then .inr al else NB al (PC op (a.restrict []) us)) else .inr ai
def aKD(ts:List rA):List DV:=ts.map fun x=>ofP x.q
structure rA.ok (x:rA):Prop where
 s: ∀n∈x.2,n.g.sm
 n:x.2.length<=65536
end Go.Sx
end
