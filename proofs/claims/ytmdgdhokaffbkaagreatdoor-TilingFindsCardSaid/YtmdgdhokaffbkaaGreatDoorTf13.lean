import Derived.Test.YtmdgdhokaffbkaaGreatDoorTf12
import Derived.WalkKit
import Derived.LaidEql
import Derived.Stop.Asserts
import Derived.RowKitTokens
set_option linter.all false
set_option maxHeartbeats 2000000
set_option maxRecDepth 100000
section
namespace Go.Sx
open Go Go.Proofs Tryz
variable {GB G:Gh}{es:List Int}{i j k bv cap c2 n:Nat}{m:Int}{p f:Nat->Bool}{α:Type}{s:bi}{vs rest vcs r2:List Value}{P:Program}{ds:List DV}{x y t:Tr}{l1:aa}
def Ec(es:List Int):cd 1 (es.map vI):=fun d hd=>by
 obtain⟨n,_,rfl⟩:=aN.1 hd;exact⟨rfl,rfl⟩
def Tw(h:i<es.length):(es.map vI)[(i:Int).toNat]? =some (vI (es.getD i 0)):=by simp[h]
def H2(h:i<es.length:=by omega):nn (es.drop i)=if es.getD i 0≠0 then es.getD i 0 else nn (es.drop (i+1)):=by
 rw[bW h,nn,aJ,aQ h];rfl
def Zh(hn:es.length<=1000000):PF GB prog 347 [.sl (es.map vI)] (vI (nn es)):=by
 have hel:(es.map vI).length=es.length:=by simp
 refine fn (fu:=⟨15⟩) func347 J J ntmps347 J J (fun C=>?_);refine ah 7 (.d (vI (es.length:Nat))) J (by rw[hel]<;>rfl)<|gx J<|lp (X:=Nat) (fun i=>[(8, .d (vI (i:Nat)))]) (fun i=>[]) (fun i=>i<=es.length/\nn es=nn (es.drop i)) (fun i=>es.length-i) 0 J ⟨aL _,J⟩ (fun _=>J) (fun i hk=>?_);obtain⟨h1,h2⟩:=hk;refine br J J J (fun hc9=>?_) (fun hc9=>?_)
 .
  refine ix _ J (Tw pb) J<|br J J J (fun hc14=>?_) (fun hc14=>?_)
  .
   exact rz J (by rw[h2,H2,if_pos hc14];rfl)
  .
   exact at_ (i+1) ⟨⟨pb,by rw[h2,H2,if_neg hc14]⟩,pb⟩
 .
  exact rz J (by rw[h2,gS pb];rfl)
def GU(l m:aa):Int:=nn [bm l.a m.a,bm l.b m.b,bm l.c m.c]
def WQ(l m:aa):GU l m=0↔l=m:=by
 unfold GU nn nn nn nn;have ha:=qh (l.a:Rat) m.a;have hb:=qh (l.b:Rat) m.b;have hc:=qh (l.c:Rat) m.c;rw[oY] at ha hb hc;constructor
 .intro h
  repeat' (split at h<;>try contradiction)
  all_goals exact aa.ext'
 .rintro rfl
  rw[if_neg (by simp[ha.2 J]),if_neg (by simp[hb.2 J]),if_neg (by simp[hc.2 J])]
def WJ{l m:aa}[hl:LB l][hm:LB m]:PF GB prog 340 [fj l,fj m] (vI (GU l m)):=by
 refine fn func340 J J ntmps340 J J (fun C=>?_);refine cl J (tv (p:=(l.a:Rat)) (q:=(m.a:Rat))) J<|cl J (tv (p:=(l.b:Rat)) (q:=(m.b:Rat))) J<|cl J (tv (p:=(l.c:Rat)) (q:=(m.c:Rat))) J<|rf J J<|cl J (Zh (es:=[bm l.a m.a,bm l.b m.b,bm l.c m.c]) (nb J)) J<|rz J J
def Ra{l m:aa}[hl:LB l][hm:LB m]:PF GB prog 327 [fj l,fj m] (vB (decide (l=m))):=by
 refine fn func327 J J ntmps327 J J (fun C=>?_);refine cl J (WJ (l:=l) (m:=m)) J<|rz J (by show DV.v (.bool (decide _))= .v (.bool _);congr 2;exact decide_eq_decide.2 (WQ l m))
def aD3{l:aa}[hl:LB l]:PF GB prog 303 [fj l] (fj l.rev):=by
 refine fn func303 J J ntmps303 J J (fun C=>?_);refine cl J (rx (q:=(l.a:Rat))) J<|cl J (rx (q:=(l.b:Rat))) J<|cl J (rx (q:=(l.c:Rat))) J<|rz J (by unfold fj aa.rev;simp only[lN];rfl)
theorem omm{p:Prop}(h:p:=by unfold ab.half;(repeat' split)<;>first|rfl|(exfalso;omega)):p:=h
def Mu{p:ab}[hp:aE p i](hi:i<=10000000:=by decide):PF GB prog 285 [eZ p] (vI p.half):=by
 refine fn func285 J J ntmps285 J J (fun C=>?_);refine cl J (mz (q:=p.y) pb) J<|cs 10 J J J (fun hg10=>?_) (fun hg10=>?_)
 .
  exact rz J omm
 .
  refine cs 13 J J J (fun hg13=>?_) (fun hg13=>?_)
  .
   refine cl J (mz (q:=p.x) pb) J<|br J J J (fun hc7=>?_) (fun hc7=>?_)
   .
    exact rz J omm
   .
    refine cs 23 J J J (fun hg23=>?_) (fun hg23=>?_)
    .
     exact rz J omm
    .
     refine cl J (mz (q:=p.x) pb) J<|br J J J (fun hc20=>?_) (fun hc20=>?_)
     .
      exact rz J omm
     .
      exact rz J omm
  .
   refine cs 23 J J J (fun hg23=>?_) (fun hg23=>?_)
   .
    exact rz J omm
   .
    refine cl J (mz (q:=p.x) pb) J<|br J J J (fun hc20=>?_) (fun hc20=>?_)
    .
     exact rz J omm
    .
     exact rz J omm
def TL{u v:ab}[hp:aE u i][hq:aE v j](hi:i<=10000000:=by decide)(hj:j<=10000000:=by decide):PF GB prog 227 [eZ u,eZ v] (vI (fq u v)):=by
 refine fn func227 J J ntmps227 J J (fun C=>?_);refine cl J (Mu (p:=u) hi) J<|cl J (Mu (p:=v) hj) J<|br J J J (fun hc11=>?_) (fun hc11=>?_)
 .
  exact rz J (by unfold fq;rw[if_pos hc11];rfl)
 .
  refine br J J J (fun hc15=>?_) (fun hc15=>?_)
  .
   exact rz J (by unfold fq;rw[if_neg hc11,if_pos hc15];rfl)
  .
   refine cl J (yy (p:=u) (q:=v) pb pb) J<|cl (fu:=⟨0⟩) J (mz (q:=u.cross v) pb) J<|?_;have hs:=sT (u.cross v).num;refine gx J<|rz J (by unfold fq;rw[if_neg hc11,if_neg hc15];rfl)
def Su:fk (dg m.natAbs)/\(decide (m<0)=true->0<(dg m.natAbs).length):=⟨(f6 _).2.2,fun h=>by
 have:0<m.natAbs:=by have:=of_decide_eq_true h;omega
 exact xu.2 this⟩
def Bd[h:BI m i](hi:i<=1000000000:=by decide):PF GB prog 264 [eI m] (.v (.bool true)):=(WR (neg:=decide (m<0)) (ds:=dg m.natAbs) (f6 _).2.1 (by have:=gP (a:=m.natAbs) hi;omega)).to (by unfold vB;rw[decide_eq_true Su])
def HV{l:aa}(h:l.ok):rgcd (rgcd (l.a:Rat) (l.b:Rat)) (l.c:Rat)=((1:Int):Rat):=by
 rw[Gn,Gn];have:=h.2;simp only[jR];rw[this];rfl
instance BQ.rgcd (p q:Rat) (i j:Nat) [h:BQ p i] [k:BQ q j]:BQ (rgcd p q) (i+j+(i+j)):=by
 unfold Sx.rgcd;refine ub (jJ (ld p) (ld q)) ?_ ?_
 .rw[jR]
  have h1:=oy h.hn k.hd;have h2:=oy k.hn h.hd;rw[jW j i] at h2;exact J1 h1 h2
 .have h1:=oy h.hd k.hd
  have:2^(i+j)<=2^(i+j+(i+j)):=bU v6 pb;omega
theorem okm{p:Prop}(h:p:=by first|rfl|(show some (decide _)=some false;rw[decide_eq_false (fun e=>ho.1 ⟨ha,dK.1 e⟩)])):p:=h
theorem okL{p:Prop}(h:p:=by show some (!decide _)=some false;rw[HV ho,decide_eq_true J];rfl):p:=h
def T2{l:aa}[hl:LB l](ho:l.ok):PF GB prog 210 [eL l] (.tp [fj l,vB true]):=by
 refine fn func210 J J ntmps210 J J (fun C=>?_);refine cl (fu:=⟨0⟩) J (Bd (m:=l.a)) J<|bG J J J<|cl (fu:=⟨0⟩) J (Bd (m:=l.b)) J<|bG J J J<|cl (fu:=⟨0⟩) J (Bd (m:=l.c)) J<|bG J J J<|cl J (DE (m:=l.a)) J<|cl J (DE (m:=l.b)) J<|cl J (DE (m:=l.c)) J<|cl (fu:=⟨0⟩) J (Gc (q:=(l.a:Rat))) J<|jk (fu2:=⟨4⟩) J J J J (fun hg35=>?_) (fun hg35=>?_)
 .
  have ha:l.a=0:=dK.1 hg35;refine cl (fu:=⟨1⟩) J (Gc (q:=(l.b:Rat))) J<|bG J okm J<|cl J (Ck (p:=(l.a:Rat)) (q:=(l.b:Rat))) J<|cl J (Ck (p:=rgcd l.a l.b) (q:=(l.c:Rat))) J<|cl J (uH (m:=1)) J<|cl (fu:=⟨0⟩) J (Ad (p:=rgcd (rgcd l.a l.b) l.c) (q:=((1:Int):Rat))) J<|bG J okL J<|rz J J
 .
  refine bG J okm J<|cl J (Ck (p:=(l.a:Rat)) (q:=(l.b:Rat))) J<|cl J (Ck (p:=rgcd l.a l.b) (q:=(l.c:Rat))) J<|cl J (uH (m:=1)) J<|cl (fu:=⟨0⟩) J (Ad (p:=rgcd (rgcd l.a l.b) l.c) (q:=((1:Int):Rat))) J<|bG J okL J<|rz J J
def d4(f:bi):DV:= .ag [vI (cF (f.l.a:Rat)),vI (cD (f.l.a:Rat)),cI (f.l.a:Rat),vI (cF (f.l.b:Rat)),vI (cD (f.l.b:Rat)),cI (f.l.b:Rat),vI (cF (f.l.c:Rat)),vI (cD (f.l.c:Rat)),cI (f.l.c:Rat),vI (cF f.v.lo),vI (cD f.v.lo),cI f.v.lo,vI (cF f.v.hi),vI (cD f.v.hi),cI f.v.hi, .v (.bool f.v.nl), .v (.bool f.v.nh)]
structure qk (v:ak):Prop where
 z:gg v
 lo:BQ v.lo 1200
 hi:BQ v.hi 1200
structure To (s:bi):Prop where
 lb:LB s.l
 ok:s.l.ok
 v:qk s.v
abbrev gn (c:az):Prop:= ∀s∈c,To s
def uJ(f:α->DV)(l:List α):(l.map f).length=l.length:=by simp
def qk.all:qk ak.all:=⟨⟨fun _=>J,fun _=>J⟩,BQ.z1.mono v6,BQ.z1.mono v6⟩
def qk.cut{l m:aa}{v:ak}[LB l][LB m](hn:l.Ne)(h:qk v):qk (l.cutV v m):=by
 by_cases h0:crossI l m=0
 .rw[(xE (v:=v) h0).1];exact h
 .obtain⟨u1,_,u3,u4,u5⟩:=FA (v:=v) hn h.z h.lo h.hi h0
  rw[u1];exact⟨u3,u4,u5⟩
def Gl(o:Option ak):ak:=o.getD ⟨0,0,false,false⟩
def Xs(G:Gh)(y:Value)(k:Is G (.tp [.ag [vI 0,vI 0, .v (.pointer none),vI 0,vI 0, .v (.pointer none), .v (.bool false), .v (.bool false)], .v (.bool false)]) y):Is G (.tp [eW (Gl none),vB false]) y:=by
 obtain⟨m,rfl,g⟩:=mj.1 k;exact mj.2 ⟨m,J,O3 (fun y hy=>by
  obtain⟨l,rfl,g⟩:=eO.1 hy;exact eO.2 ⟨l,J,C0 (Ga [vI 0,vI 0, .v (.pointer none)] g)⟩) g⟩
def bF{f:α->DV}{l:List α}{s:α}(h:l[i]? =some s):(l.map f)[(i:Int).toNat]? =some (f s):=by simp[h]
def Gj{l:List α}{s:α}(h:l[k]? =some s):l.drop k=s::l.drop (k+1):=by
 obtain⟨h1,h2⟩:=aS.1 h;rw[bW h1,h2]
def Js{l:aa}{c:az}{v:ak}(h:c[k]? =some s):lz l (c.drop k) v=if l.cutB v s.l then lz l (c.drop (k+1)) (l.cutV v s.l) else none:=by
 rw[Gj h];rfl
def Eo{l:aa}{c:az}(h:c[k]? =some s):mI l (c.drop k)=if mO l s≠0 then mO l s else if s.l=l then 1 else mI l (c.drop (k+1)):=by
 rw[Gj h];rfl
instance BQ.sample (v:ak) [h1:BQ v.lo 1200] [h2:BQ v.hi 1200]:BQ v.sample 2500:=by
 unfold ak.sample;split
 .exact BQ.mono (k:=1) ⟨v6,v6⟩
 .split
  .exact BQ.mono (inferInstance:BQ (v.hi-((1:Int):Rat)) _)
  .split
   .exact BQ.mono (inferInstance:BQ (v.lo+((1:Int):Rat)) _)
   .exact BQ.mono (inferInstance:BQ ((v.lo+v.hi)*mkRat 1 2) _)
def H5{c:az}{l:aa}[hl:LB l](hlo:l.ok)(hc:gn c)(hn:c.length<=1000000):PF GB prog 305 [.sl (c.map d4),fj l] (.tp [eW (Gl (jP c l)),vB (jP c l).isSome]):=by
 have hm:=uJ d4 c;refine fn func305 J J ntmps305 J J (fun C=>?_);refine cl (fu:=⟨10⟩) J RD J<|ah 12 (.d (vI (c.length:Nat))) J (by rw[uJ]<;>rfl)<|gx J<|lp (X:=ak×Nat) (fun⟨v,k⟩=>[(13, .d (vI (k:Nat))),(6, .ov 6 0)]) (fun⟨v,k⟩=>[(6,some (.o 328 [.d (vI (cF v.lo)), .d (vI (cD v.lo)), .d (cI v.lo), .d (vI (cF v.hi)), .d (vI (cD v.hi)), .d (cI v.hi), .d (.v (.bool v.nl)), .d (.v (.bool v.nh))] true))]) (fun⟨v,k⟩=>k<=c.length/\qk v/\lz l (c.drop k) v=jP c l) (fun⟨v,k⟩=>c.length-k) (ak.all,0) J ⟨aL _, .all,J⟩ (fun _=>J) (fun⟨v,k⟩ hk=>?_);dsimp only at hk⊢;obtain⟨h1,h2,h3⟩:=hk;haveI:=h2.lo;haveI:=h2.hi;refine br J J J (fun hc14=>?_) (fun hc14=>?_)
 .
  obtain⟨s,hs0⟩: ∃s,c[k]? =some s:=⟨_,aQ pb⟩;have hs:=hc s (aV hs0);haveI:=hs.lb;refine ix _ J (bF hs0) J<|cl (fu:=⟨0⟩) J (Kn (l:=l) (m:=s.l) (v:=v)) J<|?_;generalize hw:l.cutV v s.l=w;generalize hb:l.cutB v s.l=b;refine gx J<|bb J J J (fun hc26=>?_) (fun hc26=>?_)
  .
   exact iB J (by rw[<-h3,Js hs0,hb,if_neg ozc];exact Xs)
  .
   exact at_ (w,k+1) (by dsimp only;exact⟨⟨pb,hw▸h2.cut hlo.1,by rw[<-h3,Js hs0,hb,hw,if_pos ozc]⟩,pb⟩)
 .
  exact rz J (by rw[<-h3,gS pb];rfl)
def Sg{c:az}{l:aa}[hl:LB l](hlo:l.ok)(hc:gn c)(hn:c.length<=1000000):PF GB prog 306 [.sl (c.map d4),fj l] (vI (tL c l)):=by
 have hm:=uJ d4 c;refine fn func306 J J ntmps306 J J (fun C=>?_);refine cl J (H5 (c:=c) (l:=l) hlo hc hn) J<|bb (fu2:=⟨7⟩) J J J (fun hc16=>?_) (fun hc16=>?_)
 .
  exact rz J (by unfold tL;rw[if_pos hc16];rfl)
 .
  have hp:tL c l=mI l c:=by unfold tL;rw[if_neg (by simp[hc16])]
  refine ah 18 (.d (vI (c.length:Nat))) J (by rw[uJ]<;>rfl)<|gx J<|lp (X:=Nat) (fun k=>[(19, .d (vI (k:Nat)))]) (fun k=>[]) (fun k=>k<=c.length/\mI l (c.drop k)=mI l c) (fun k=>c.length-k) 0 J ⟨aL _,J⟩ (fun _=>J) (fun k hk=>?_);obtain⟨h1,h2⟩:=hk;refine br J J J (fun hc20=>?_) (fun hc20=>?_)
  .
   obtain⟨s,hs0⟩: ∃s,c[k]? =some s:=⟨_,aQ pb⟩;have hs:=hc s (aV hs0);haveI:=hs.lb;haveI:=hs.v.lo;haveI:=hs.v.hi;haveI:=BQ.sample s.v;refine ix _ J (bF hs0) J<|cl (fu:=⟨0⟩) J (Ue (v:=s.v)) J<|?_;generalize ht:s.v.sample=t at*;refine gx J<|cl J (Qi (l:=s.l) (t:=t)) J<|cl J (Ye (l:=l) (p:=s.l.at t)) J<|br J J J (fun hc32=>?_) (fun hc32=>?_)
   .
    have hsd:mO l s=(l.value (s.l.at t)).num.sign:=by unfold mO;rw[ht]
    exact rz J (by rw[hp,<-h2,Eo hs0,hsd,if_pos hc32];rfl)
   .
    refine cl J (Ra (l:=s.l) (m:=l)) J<|bd J J J (fun hc37=>?_) (fun hc37=>?_)
    .
     have hsd:mO l s=(l.value (s.l.at t)).num.sign:=by unfold mO;rw[ht]
     exact rz J (by rw[hp,<-h2,Eo hs0,hsd,if_neg hc32,if_pos hc37];rfl)
    .
     have hsd:mO l s=(l.value (s.l.at t)).num.sign:=by unfold mO;rw[ht]
     exact at_ (k+1) ⟨⟨pb,by rw[<-h2,Eo hs0,hsd,if_neg hc32,if_neg hc37]⟩,pb⟩
  .
   exact rz J (by rw[hp,<-h2,gS pb];rfl)
def Tb(h: ∀v∈vs,(aH v).length=17)(hi:i<=vs.length):co (aG vs++rest) (i*17) ((vs.length-i)*17)=some (aG (vs.drop i)):=by
 have hl:=d6 vs h;have hd:(aG (vs.drop i)).length=(vs.length-i)*17:=by
  rw[d6 (s:=17) _ (fun v hv=>h v (gK hv)),gU]
 rw[ks _ _ _ okO];congr 1;rw[kZ pb,BC vs i h hi,fY pb,bK pb]
def X5(h: ∀v∈vs,(aH v).length=17)(hv:vcs.length=17)(hi:i<vs.length)(hr:17<=rest.length):
  ck (ck (aG vs++rest) ((i+1)*17) (aG (vs.drop i))) (i*17) vcs=aG (vs.take i)++vcs++aG (vs.drop i)++rest.drop 17:=by
 have hl:=d6 vs h;have hd:(aG (vs.drop i)).length=(vs.length-i)*17:=by
  rw[d6 (s:=17) _ (fun v hv=>h v (gK hv)),gU]
 have ht:(aG (vs.take i)).length=i*17:=by
  rw[d6 (s:=17) _ (fun v hv=>h v (dW hv)),bR,iN pb]
 rw[n4 (aG (vs.drop i)) (aG vs++rest) _ oku];rw[n4 vcs _ _ (by simp only[aU,bR,gU];omega)];have e1:(aG vs++rest).drop ((i+1)*17+(aG (vs.drop i)).length)=rest.drop 17:=by
  rw[hd,show(i+1)*17+(vs.length-i)*17=(aG vs).length+17 by omega,mX,jL pb,kN];congr 1;omega
 have e2:((aG vs++rest).take ((i+1)*17)++aG (vs.drop i)++rest.drop 17).take (i*17)=aG (vs.take i):=by
  rw[fK,fY (by simp only[bR,aU];omega),List.take_take,iN pb,fY pb,FB vs i h pb]
 have e3:((aG vs++rest).take ((i+1)*17)++aG (vs.drop i)++rest.drop 17).drop (i*17+vcs.length)=aG (vs.drop i)++rest.drop 17:=by
  rw[hv,fK,show i*17+17=((aG vs++rest).take ((i+1)*17)).length by simp only[bR,aU];omega,List.drop_left]
 rw[e1,e2,e3];simp[fK]
def Rb(h: ∀v∈vs,(aH v).length=17)(hv:vcs.length=17)(hr:17<=rest.length):ck (aG vs++rest) (vs.length*17) vcs=aG vs++vcs++rest.drop 17:=by
 have hl:=d6 vs h;rw[n4 _ _ _ okO,hv,<-hl,List.take_left,mX];simp
def Ry{b:Nat}{lo lo2:Bool}(hvs: ∀v∈vs,(aH v).length=17)(hfl: ∀v∈vs,∀c∈aH v,flat c=true)(hv:vcs.length=17)(hvf: ∀c∈vcs,flat c=true)
  (hcap:vs.length*17+rest.length=cap*17)(hroom:vs.length+1<=cap)(hi:i<=vs.length)(hb:vs.length<=1125899906842624):
  kl prog 310 [.slice (some ⟨b,0,none⟩) vs.length cap, .int .i64 i, .slice (some ⟨bv,0,none⟩) 1 c2] [⟨b,aG vs++rest,330,lo⟩,⟨bv,vcs++r2,330,lo2⟩] G
   (fun u css _=>u= .slice (some ⟨b,0,none⟩) (vs.length+1) cap/\css=[aG (vs.take i)++vcs++aG (vs.drop i)++rest.drop 17,vcs++r2]):=by
 have hL:(aG vs++rest).length=cap*17:=by rw[aU,d6 vs hvs];exact hcap
 have hr:17<=rest.length:=by omega
 have hD:(aG (vs.drop i)).length=(vs.length-i)*17:=by
  rw[d6 (s:=17) _ (fun v hv=>hvs v (gK hv)),gU]
 have hDf: ∀c∈aG (vs.drop i),flat c=true:=fun c hc=>by
  obtain⟨l,hl,hcl⟩:=List.mem_flatten.1 hc;obtain⟨v,hv,rfl⟩:=aN.1 hl;exact hfl v (gK hv) c hcl
 have hvt:co (vcs++r2) 0 (1*17)=some vcs:=by rw[ks _ _ _ oku,fM,fY pb,bK pb]
 refine kl.intro func310 J J ntmps310 J ?_;intro C _ _;show St C _ _ [⟨b,aG vs++rest,330,false⟩,⟨bv,vcs++r2,330,false⟩] _ _;refine SB (fun hne=>?_);simp only[] at hne;refine sR<|sa J J<|zE<|sR<|sm J J<|sm J J<|sy (Hu J J) J<|zE<|sR<|?_;refine sm J J<|Ft J J<|sa J J<|zE<|kg<|sR<|sm J J<|sy (py J J) J<|zE<|Ej J<|?_;refine zK<|sR<|sm J J<|Ft J J<|sa J J<|zE<|kg<|sR<|sm J J<|sm J J<|sy (py J J) J<|zE<|?_;refine yg J (fun hc=>?_) (fun hc=>?_) -- slot 22
 .have hin:i=vs.length:=by omega
  subst hin;refine sR<|sm J J<|sm J J<|?_;refine sc (MJ (s:=17) (m:=1) (ys:=vcs) J J (.hd ..) hL (AX inferInstance hvt) pb hvf hroom J ?_);refine sa J J<|zE<|s8<|?_;refine wh (css:=[ck (aG vs++rest) (vs.length*17) vcs,vcs++r2]) (.tmp J .nil) J _ (List.Perm.refl _) (List.Sublist.refl _) ⟨J,?_⟩;rw[Rb hvs hv hr,cS,fU];simp[aG]
 have hin:i<vs.length:=by omega
 have hn1:((vs.length:Int)+((1:Nat):Int)).toNat=vs.length+1:=by omega
 have ht1:((i:Int)+((1:Nat):Int)).toNat=i+1:=by omega
 refine zK<|kg<|sR<|sm J J<|sm J J<|sy (wS J J) J<|sm J J<|?_;refine sy (Qj J) J<|sy (Ef J J) J<|zE<|?_;refine yg J (fun hc2=>?_) (fun hc2=>?_) -- slot 31
 .exact absurd hc2 pb
 refine zK<|sR<|sm J J<|sm J J<|sm J J<|sy (wS J J) J<|sy (HL J J) J<|?_;rw[hn1];refine sa J J<|zE<|kg<|sR<|sm J J<|sm J J<|sm J J<|sm J J<|sy (wS J J) J<|sy (Bg J J) J<|?_;refine sy (RA (tS:=253) (tR:=4) func329 we we we we J J (Ne.symm hne) (fun h=>by rw[h] at hL;simp at hL;omega)) J<|?_;refine sy (EH J) J<|zE<|Fw J<|?_;refine kg<|Ub (b:=b) (fun _=>false) [(0,true),(1,true),(2,true),(3,true),(4,true),(5,true),(6,true),(7,true),(8,false)] follows (.hd ..) we<|dM J J J<|?_;refine dM J J J<|dM J J J<|dy J (fun _=>wS J J pb pb) J J<|dy J (fun _=>Bg J J) J J<|?_;refine dM J J J<|dM J J J<|dy J (fun _=>Bg J J) J J<|?_;rw[ht1,dQ,eX,eX];refine dc J J (Kw (s:=17) (m:=vs.length-i) (ys:=aG (vs.drop i)) J J (by show min _ _=_;omega) (AX inferInstance (Tb hvs hi)) hDf (by rw[hD,hL];omega) (.hd ..) J ?_);refine xe<|dn<|sR<|sm J J<|sm J J<|sy (Bg J J) J<|sm J J<|?_;rw[dQ,eX];refine sc (Kw (s:=17) (m:=1) (ys:=vcs) J J (by show min _ _=_;omega) (AX inferInstance hvt) hvf (by rw[xf,hL,hv];omega) (.hd ..) J ?_);refine zE<|sR<|sm J J<|sa J J<|zE<|s8<|?_;refine wh (css:=[ck (ck (aG vs++rest) ((i+1)*17) (aG (vs.drop i))) (i*17) vcs,vcs++r2]) (.tmp J .nil) J _ (List.Perm.refl _) (List.Sublist.refl _) ⟨J,?_⟩;rw[X5 hvs hv hin hr]
def kl.toO{f:FuncId}{M:List av}{K:Value->List (List Value)->Gh->Prop}{K':Value->List av->Gh->Prop}(h:kl P f vs M G K)(hk: ∀v css G',bA G G'->css.length=M.length->K v css G'-> ∃o,o.Sublist (jz (asB M) css)/\K' v o G'):lc P f vs M G K':=
 ⟨h.able,fun w hw=>(h.run w hw).mono fun _ _ ⟨v,css,G',he,hl,hh,hK⟩=>let⟨o,h1,h2⟩:=hk v css G' hh.gle hl hK;⟨v,o,G',he,hh.drop h1,h2⟩⟩
def Ly(c:az):cd 17 (c.map d4):=fun d hd=>by
 obtain⟨f,_,rfl⟩:=aN.1 hd;exact⟨rfl,rfl⟩
def J6{s:Nat}(hk:cd s ds)(h:IsLs G ds vs): ∀v∈vs,∀c∈aH v,flat c=true:=fun v hv=>by
 obtain⟨d,hd,h3⟩:=h.all v hv;exact(h3.cells (hk d hd).1).2
def YH{c:az}{x:bi}(hi:i<=c.length)(hc:c.length+1<=cap)(hn:c.length<=1000000):PI GB prog 310 (i:Nat) 17 330 330 (c.map d4) (d4 x) cap ((c.take i++x::c.drop i).map d4):=by
 intro G w w2 B B2 _ hB hcap hB2;obtain⟨vs,q1,q2,q3,_⟩:=hB;obtain⟨us,u1,u2,u3,_⟩:=hB2;dsimp only at q1 q2 q3 u1 u2 u3;have hl:=q2.len;rw[aX] at hl;obtain⟨v,m,rfl,hv,hm⟩:=bE.1 u2
 cases eD.1 hm
 rcases q1 with⟨_,e,_⟩|⟨b,rest,lo,e,rfl,h5,h6,h7⟩
 .rw[e] at hcap;simp at hcap;omega
 rcases u1 with⟨h,_⟩|⟨bv,r2,lo2,e2,rfl,h8,h9,h10⟩
 .cases h
 have hx:(aH v).length=17:=u3 v aZ;have hxf:=J6 (s:=17) (ds:=[d4 x]) (fun d hd=>by rw[aW.1 hd];exact⟨J,J⟩) u2 v aZ;have key:=Ry (G:=G) (b:=b) (bv:=bv) (cap:=w.c) (i:=i) (c2:=w2.c) (vs:=vs) (rest:=rest) (vcs:=aH v) (r2:=r2) (lo:=lo) (lo2:=lo2) q3 (J6 (Ly c) q2) hx hxf (by rw[<-h5];exact h6) pb pb pb;rw[e,e2];rw[DB];refine key.toO fun u css G' hg hl2 ⟨k1,k2⟩=>?_;subst k1 k2;have hall: ∀u∈vs.take i++v::vs.drop i,(aH u).length=17:=fun u hu=>by
  rcases bJ.1 hu with hu|hu
  .exact q3 u (dW hu)
  .rcases aT.1 hu with rfl|hu
   .exact hx
   .exact q3 u (gK hu)
 have hlen:(vs.take i++v::vs.drop i).length=vs.length+1:=by
  rw[aU,bY,bR,gU];omega
 refine⟨[⟨b,aG (vs.take i)++aH v++aG (vs.drop i)++rest.drop 17,330,false⟩], .cons_cons _ (kW _),⟨some ⟨b,0,none⟩,vs.length+1,w.c⟩,J,vs.take i++v::vs.drop i, .inr ⟨b,rest.drop 17,false,by rw[hlen],?_,d6 _ hall,?_,?_⟩,?_,hall,fun h=>by cases h⟩
 .rw[pg];simp[aG]
 .rw[d6 _ hall,hlen,gU]
  rw[h5] at h6;have:=bX 17 (show vs.length+1<=w.c by omega);simp only[cN] at this⊢;omega
 .rw[hlen];show vs.length+1<=w.c;omega
 .rw[bQ,cZ,gT,iW]
  exact((q2.take i).up hg).app (.cons (hv.up hg) ((q2.drop i).up hg))
def M6{l:aa}[hs:LB s.l][hl:LB l]:PF GB prog 309 [d4 s,fj l] (vI (fq s.l.dir l.dir)):=by
 refine fn func309 J J ntmps309 J J (fun C=>?_);refine cl J (vk (l:=s.l)) J<|cl J (vk (l:=l)) J<|cl J (TL (u:=s.l.dir) (v:=l.dir)) J<|rz J J
def wN(c:az)(l:aa)(i:Nat):Bool:=match c[i]? with
 |some s=>decide (fq s.l.dir l.dir=0)
 |none=>false
def Vh(i j:Nat):((i:Int)+(j:Int)).fdiv (2^min (1:Int).toNat IntKind.u64.bits)=((i+j)/2:Nat):=by
 rw[show(2:Int)^min (1:Int).toNat IntKind.u64.bits=((2:Nat):Int) from J,jT _ v6];omega
def RK{c:az}{l:aa}(h:c[k]? =some s):iI c l k=decide (fq s.l.dir l.dir<0):=by unfold iI;rw[h]
def US{c:az}{l:aa}(h:c[k]? =some s):wN c l k=decide (fq s.l.dir l.dir=0):=by unfold wN;rw[h]
def PS{c:az}{l:aa}(h: ¬k<c.length):wN c l k=false:=by unfold wN;rw[dR pb]
def Zb(h:i<j)(hp:p ((i+j)/2)=true):fG p i j=fG p ((i+j)/2+1) j:=by rw[fG,dif_pos h,if_pos hp]
def Rv(h:i<j)(hp: ¬p ((i+j)/2)=true):fG p i j=fG p i ((i+j)/2):=by rw[fG,dif_pos h,if_neg hp]
def I0(h: ¬i<j:=by omega):fG p i j=i:=by rw[fG,dif_neg h]
theorem omr{p:Prop}(h:p:=by rw[hm]<;>rfl):p:=h
def Vg{c:az}{l:aa}[hl:LB l](hc:gn c)(hn:c.length<=1000000):PF GB prog 308 [.sl (c.map d4),fj l, .v (.func (.func 309) #[] #[])] (.tp [vI (fG (iI c l) 0 c.length:Nat),vB (wN c l (fG (iI c l) 0 c.length))]):=by
 have hm:=uJ d4 c;refine fn (fu:=⟨11⟩) func308 J J ntmps308 J J (fun C=>?_);refine ah 13 (.d (vI (c.length:Nat))) J omr<|gx J<|lp (X:=Nat×Nat) (fun⟨i,j⟩=>[(9, .d (vI (i:Nat))),(10, .d (vI (j:Nat)))]) (fun⟨i,j⟩=>[]) (fun⟨i,j⟩=>i<=j/\j<=c.length/\fG (iI c l) i j=fG (iI c l) 0 c.length) (fun⟨i,j⟩=>j-i) (0,c.length) J ⟨aL _,bZ _,J⟩ (fun _=>J) (fun⟨i,j⟩ hk=>?_);dsimp only at hk⊢;obtain⟨h1,h2,h3⟩:=hk;refine br (fu1:=⟨10⟩) (fu2:=⟨11⟩) J J J (fun hc17=>?_) (fun hc17=>?_)
 .
  obtain⟨s,hs0⟩: ∃s,c[(i+j)/2]? =some s:=⟨_,aQ pb⟩;haveI:=(hc s (aV hs0)).lb;have hang:=RK (l:=l) hs0;refine ah 22 (.d (.v (.int .u64 ((i+j)/2:Nat)))) J (by rw[Vh])<|gx J<|ix _ J (bF hs0) J<|cl J (M6 (s:=s) (l:=l)) J<|br J J J (fun hc31=>?_) (fun hc31=>?_)
  .
   exact at_ ((i+j)/2+1,j) (by dsimp only;exact⟨⟨pb,h2,by rw[<-h3,Zb (i:=i) (j:=j) pb (by rw[hang];exact decide_eq_true hc31)]⟩,pb⟩)
  .
   exact at_ (i,(i+j)/2) (by dsimp only;exact⟨⟨pb,pb,by rw[<-h3,Rv (i:=i) (j:=j) pb (by rw[hang,decide_eq_false hc31];exact Bool.false_ne_true)]⟩,pb⟩)
 .
  refine jk (v2:=fun hg39=>by simp only[aj];kernel_rfl) J J J J (fun hg39=>?_) (fun hg39=>?_)
  .
   have he:=I0 (p:=iI c l) (i:=i) (j:=j);obtain⟨s,hs0⟩: ∃s,c[i]? =some s:=⟨_,aQ pb⟩;haveI:=(hc s (aV hs0)).lb;refine ix _ J (bF hs0) J<|cl J (M6 (s:=s) (l:=l)) J<|rz J (by rw[<-h3,he,US hs0];rfl)
  .
   have he:=I0 (p:=iI c l) (i:=i) (j:=j);exact rz J (by rw[<-h3,he,PS pb];rfl)
def L6{l:aa}[LB l](hlo:l.ok): ∀{c:az} {v w:ak},gn c->qk v->lz l c v=some w->qk w
 |[],v,w,_,hv,h=>by cases h;exact hv
 |s::t,v,w,hc,hv,h=>by
  haveI:=(hc s aZ).lb;simp only[lz] at h;split at h
  .exact L6 hlo (fun x hx=>hc x (aK _ hx)) (hv.cut hlo.1) h
  .cases h
def Aa{l:aa}[LB l]: ∀{c:az},gn c->gn (dO l c)
 |[],_,s,h=>by cases h
 |a::t,hc,s,h=>by
  have ha:=hc a aZ;haveI:=ha.lb;have ht:=Aa (l:=l) (fun x hx=>hc x (aK _ hx));unfold dO at h;split at h
  .rcases aT.1 h with rfl|h
   .exact⟨ha.lb,ha.ok,ha.v.cut ha.ok.1⟩
   .exact ht s h
  .exact ht s h
def tr{l:aa}[hl:LB l](hlo:l.ok){c:az}(hc:gn c):gn (b4 c l):=by
 unfold b4;split
 .rename_i v hv
  intro s hs;unfold kG at hs;rcases bJ.1 hs with h|h
  .exact Aa hc s (dW h)
  .rcases aT.1 h with rfl|h
   .exact⟨hl,hlo,L6 hlo hc .all hv⟩
   .exact Aa hc s (gK h)
 .exact hc
def LU{l:aa}{c:az}(h:c[k]? =some s):dO l (c.drop k)=if s.l.cutB s.v l then⟨s.l,s.l.cutV s.v l⟩::dO l (c.drop (k+1)) else dO l (c.drop (k+1)):=by
 rw[Gj h];rfl
theorem omO{p:Prop}(h:p:=by rw[bQ];rfl):p:=h
def Lz{c:az}{l:aa}[hl:LB l](hlo:l.ok)(hc:gn c)(hn:c.length<=100000):PF GB prog 280 [.sl (c.map d4),fj l] (.tp [.sl ((b4 c l).map d4),vB (c6 c l)]):=by
 have hm:=uJ d4 c;refine fn func280 J J ntmps280 J J (fun C=>?_);refine cl J (H5 (c:=c) (l:=l) hlo hc pb) J<|bb (fu2:=⟨6⟩) J J J (fun hc22=>?_) (fun hc22=>?_)
 .
  have hp:jP c l=none:=by simpa using hc22
  refine cl J (Sg (c:=c) (l:=l) hlo hc pb) J<|rz J (by unfold b4 c6;rw[hp];rfl)
 .
  obtain⟨v,hv⟩: ∃v,jP c l=some v:=pM.1 (by simpa using hc22);have hvd:Gl (jP c l)=v:=by rw[hv];rfl
  rw[hvd];refine ah 29 (.d (vI (c.length:Nat))) J omr<|gx J<|Rm (fu:=⟨8⟩) (c.length+1) J J J<|ah 33 (.d (vI (c.length:Nat))) J omr<|gx J<|lp (X:=az×Nat) (fun⟨o,k⟩=>[(34, .d (vI (k:Nat))),(8, .rw 31)]) (fun⟨o,k⟩=>[(31,some (.c 330 17 (o.map d4) (c.length+1)))]) (fun⟨o,k⟩=>k<=c.length/\o.length<=k/\o++dO l (c.drop k)=dO l c) (fun⟨o,k⟩=>c.length-k) ([],0) J ⟨aL _,bZ _,J⟩ (fun _=>J) (fun⟨o,k⟩ hk=>?_);dsimp only at hk⊢;obtain⟨h1,h2,h3⟩:=hk;have hmo:=uJ d4 o;refine br J J J (fun hc35=>?_) (fun hc35=>?_)
  .
   obtain⟨s,hs0⟩: ∃s,c[k]? =some s:=⟨_,aQ pb⟩;have hs:=hc s (aV hs0);haveI:=hs.lb;haveI:=hs.v.lo;haveI:=hs.v.hi;refine ix _ J (bF hs0) J<|cl (fu:=⟨0⟩) J (Kn (l:=s.l) (m:=l) (v:=s.v)) J<|?_;generalize hw:s.l.cutV s.v l=w;generalize hb:s.l.cutB s.v l=b;refine gx J<|bb J J J (fun hc47=>?_) (fun hc47=>?_)
   .
    refine rf J J<|QR ((o++[bi.mk s.l w]).map d4) J omO (Ly [bi.mk s.l w]) (by rw[hmo];simp;omega) J<|dq 54 31 J<|at_ (o++[bi.mk s.l w],k+1) (by dsimp only;exact⟨⟨pb,by simp;omega,by rw[<-h3,LU hs0,hb,if_pos hc47,hw,fK];rfl⟩,pb⟩)
   .
    exact at_ (o,k+1) (by dsimp only;exact⟨⟨pb,pb,by rw[<-h3,LU hs0,hb,if_neg (by simp[hc47])]⟩,pb⟩)
  .
   obtain rfl:k=c.length:=by omega
   have ho:o=dO l c:=by rw[<-h3,fU];simp[dO]
   subst ho;have hbl:=(Ba (iI (dO l c) l) (dO l c).length 0 (dO l c).length pb pb).2;refine cL J (Vg (c:=dO l c) (l:=l) (Aa hc) pb) J J<|ro J J<|ci ((kG (dO l c) l v).map d4) J (YH (c:=dO l c) (x:=⟨l,v⟩) (i:=fG (iI (dO l c) l) 0 (dO l c).length) (cap:=c.length+1) hbl pb pb) J J<|fD 68 J<|rz J (by unfold b4 c6;rw[hv];rfl)
def LP{c:az}{l:aa}[hl:LB l](hlo:l.ok)(hc:gn c)(hn:c.length<=100000:=by omega):PF GB prog 269 [.sl (c.map d4),fj l] (.tp [.sl ((b4 c l).map d4), .sl ((b4 c l.rev).map d4),vB (c6 c l),vB (c6 c l.rev)]):=by
 refine fn func269 J J ntmps269 J J (fun C=>?_);refine cl J (Lz (c:=c) (l:=l) hlo hc hn) J<|cl J (aD3 (l:=l)) J<|cl J (Lz (c:=c) (l:=l.rev) hlo.rev hc hn) J<|rz J J
def cU:Tr->List DV
 | .leaf b=>[vI 0,vI 0, .v (.pointer none),vI 0,vI 0, .v (.pointer none),vI 0,vI 0, .v (.pointer none), .v (.pointer none), .v (.pointer none), .v (.bool b)]
 | .node l x y=>[vI (cF (l.a:Rat)),vI (cD (l.a:Rat)),cI (l.a:Rat),vI (cF (l.b:Rat)),vI (cD (l.b:Rat)),cI (l.b:Rat),vI (cF (l.c:Rat)),vI (cD (l.c:Rat)),cI (l.c:Rat), .pt (cU x), .pt (cU y), .v (.bool false)]
def eU(t:Tr):DV:= .pt (cU t)
def Ou{b:Bool}:PF GB prog 149 [.v (.bool b)] (eU (.leaf b)):=by
 refine fn func149 J J ntmps149 J J (fun C=>?_);refine fD 5 J<|rz J J
def Cy{l:aa}:PF GB prog 211 [fj l,eU x,eU y] (eU (.node l x y)):=by
 refine fn func211 J J ntmps211 J J (fun C=>?_);refine fD 11 J<|rz J J
def wm{b:Bool}:PF GB prog 140 [eU (.leaf b)] (.v (.bool true)):=by
 refine fn func140 J J ntmps140 J J (fun C=>?_);exact rz J J
def yu{l:aa}:PF GB prog 140 [eU (.node l x y)] (.v (.bool false)):=by
 refine fn func140 J J ntmps140 J J (fun C=>?_);exact rz J J
def ZQ{l:aa}{u:Tr}:PF GB prog 270 [fj l,eU (.node l1 x y),eU u] (eU (.node l (.node l1 x y) u)):=by
 refine fn func270 J J ntmps270 J J (fun C=>?_);refine cl (fu:=⟨0⟩) J yu J<|bG J J J<|cl J Cy J<|rz J J
def QV{l:aa}{p:Bool}:PF GB prog 270 [fj l,eU (.leaf p),eU (.node l1 x y)] (eU (.node l (.leaf p) (.node l1 x y))):=by
 refine fn func270 J J ntmps270 J J (fun C=>?_);refine cl (fu:=⟨0⟩) J wm J<|cj J J J<|cl (fu:=⟨1⟩) J yu J<|bG J J J<|cl J Cy J<|rz J J
def S9{l:aa}{p q:Bool}:PF GB prog 270 [fj l,eU (.leaf p),eU (.leaf q)] (eU (Tr.joinQ l (.leaf p) (.leaf q))):=by
 refine fn func270 J J ntmps270 J J (fun C=>?_);refine cl (fu:=⟨0⟩) J wm J<|cj J J J<|cl (fu:=⟨1⟩) J wm J<|cj J J J<|bb J J J (fun hc23=>?_) (fun hc23=>?_)
 .
  exact rz J (by rw[show Tr.joinQ l (.leaf p) (.leaf q)= .leaf p by simp[Tr.joinQ,Tr.isLeaf,Tr.code,hc23]];rfl)
 .
  refine cl J Cy J<|rz J (by rw[show Tr.joinQ l (.leaf p) (.leaf q)= .node l (.leaf p) (.leaf q) by simp[Tr.joinQ,Tr.isLeaf,Tr.code,hc23]];rfl)
def Ro{l:aa}: ∀{x y:Tr},PF GB prog 270 [fj l,eU x,eU y] (eU (Tr.joinQ l x y))
 | .leaf _, .leaf _=>S9
 | .leaf _, .node .. =>QV
 | .node ..,_=>ZQ
def amZ{b:Bool}:PF GB prog 143 [eU (.leaf b)] (vI (Tr.depth (.leaf b):Nat)):=by
 refine fn func143 J J ntmps143 J J (fun C=>?_);refine cl (fu:=⟨0⟩) J wm J<|ii 4 J<|gx J<|rz J J
def RC{l:aa}(hd:(Tr.node l x y).depth<=1000000)(ihx:PF GB prog 143 [eU x] (vI (Tr.depth x:Nat)))(ihy:PF GB prog 143 [eU y] (vI (Tr.depth y:Nat))):PF GB prog 143 [eU (.node l x y)] (vI (Tr.depth (.node l x y):Nat)):=by
 have hdp:(Tr.node l x y).depth=1+max x.depth y.depth:=J;have hdx:=qV x.depth y.depth;have hdy:=pW x.depth y.depth;refine fn func143 J J ntmps143 J J (fun C=>?_);refine cl (fu:=⟨0⟩) J yu J<|Bn 4 J<|gx J<|cl J ihx J<|cl (hv:=by simp only[aj];exact⟨pb,we⟩) J ihy J<|rz J (by show DV.v (.int _ _)= .v (.int _ _);congr 2;split<;>omega)
def Gg: ∀{t:Tr},t.depth<=1000000->PF GB prog 143 [eU t] (vI (Tr.depth t:Nat))
 | .leaf _,_=>amZ
 | .node l x y,h=>RC h (Gg (by have:=qV x.depth y.depth;have:(Tr.node l x y).depth=1+max x.depth y.depth:=J;omega)) (Gg (by have:=pW x.depth y.depth;have:(Tr.node l x y).depth=1+max x.depth y.depth:=J;omega))
def UU{b:Bool}{c:az}:PF GB prog 214 [eU (.leaf b), .sl (c.map d4)] (eU (Tr.restrict (.leaf b) c)):=by
 refine fn func214 J J ntmps214 J J (fun C=>?_);refine cl (fu:=⟨0⟩) J wm J<|ii 10 J<|gx J<|rz J J
def T1{l:aa}{c:az}(hl:LB l)(hlo:l.ok)(hc:gn c)(hn:c.length+(Tr.node l x y).depth<=100000)(ihx: ∀{c:az},gn c->c.length+x.depth<=100000->PF GB prog 214 [eU x, .sl (c.map d4)] (eU (Tr.restrict x c)))(ihy: ∀{c:az},gn c->c.length+y.depth<=100000->PF GB prog 214 [eU y, .sl (c.map d4)] (eU (Tr.restrict y c))):PF GB prog 214 [eU (.node l x y), .sl (c.map d4)] (eU (Tr.restrict (.node l x y) c)):=by
 have hdp:(Tr.node l x y).depth=1+max x.depth y.depth:=J;have hdx:=qV x.depth y.depth;have hdy:=pW x.depth y.depth;have hca:=vo c l;have hcb:=vo c l.rev;refine fn func214 J J ntmps214 J J (fun C=>?_);refine cl (fu:=⟨0⟩) J yu J<|Bn 10 J<|gx J<|cl J (LP (c:=c) (l:=l) hlo hc) J<|bb J J J (fun hc23=>?_) (fun hc23=>?_)
 .
  refine cl J (ihx hc pb) J<|rz J (by rw[Tr.restrict,if_pos hc23];rfl)
 .
  refine bb J J J (fun hc32=>?_) (fun hc32=>?_)
  .
   refine cl J (ihy hc pb) J<|rz J (by rw[Tr.restrict,if_neg (by simp[hc23]),if_pos hc32];rfl)
  .
   refine cl J (ihx (c:=b4 c l) (tr hlo hc) pb) J<|cl J (ihy (c:=b4 c l.rev) (tr hlo.rev hc) pb) J<|cl J Ro J<|rz J (by rw[Tr.restrict,if_neg (by simp[hc23]),if_neg (by simp[hc32])];rfl)
def Hc: ∀{t:Tr} {c:az},t.all LB->t.all aa.ok->gn c->c.length+t.depth<=100000->PF GB prog 214 [eU t, .sl (c.map d4)] (eU (Tr.restrict t c))
 | .leaf _,_,_,_,_,_=>UU
 | .node l x y,c,hb,ho,hc,hn=>T1 hb.1 ho.1 hc hn (fun h1 h2=>Hc hb.2.1 ho.2.1 h1 h2) (fun h1 h2=>Hc hb.2.2 ho.2.2 h1 h2)
def VO(hb:t.all LB)(ho:t.all aa.ok)(hd:t.depth<=100000):PF GB prog 144 [eU t] (eU (t.restrict [])):=by
 refine fn func144 J J ntmps144 J J (fun C=>?_);refine cl J (Hc (t:=t) (c:=[]) hb ho (fun s h=>by cases h) (by simpa using hd)) J<|rz J J
def Tr.compl:Tr->Tr
 | .leaf b=> .leaf !b
 | .node l x y=> .node l x.compl y.compl
def Tr.chooseQ(op:Int)(b:Bool)(t:Tr)(c:az):Tr:=
 if op=1\/op=2 then(if b=decide (op=1) then .leaf b else t.restrict c)
 else if op=3/\b=false then .leaf false
 else if b then(t.restrict c).compl else t.restrict c
def Tr.mergeQ(op:Int):Tr->Tr->az->Tr
 | .leaf b,u,c=>u.chooseQ op b c
 | .node l x y,u,c=>if !c6 c l.rev then x.mergeQ op u c else if !c6 c l then y.mergeQ op u c else joinQ l (x.mergeQ op u (b4 c l)) (y.mergeQ op u (b4 c l.rev))
def DD(n:Bool)(ds:List Nat):Prop:=fk ds/\(n=true->0<ds.length)
structure RL where
 na:Bool
 da:List Nat
 nb:Bool
 db:List Nat
 nc:Bool
 dc:List Nat
def RL.d(r:RL):DV:= .ag [.v (.bool r.na),dt r.da, .v (.bool r.nb),dt r.db, .v (.bool r.nc),dt r.dc]
def vA(n:Bool)(ds:List Nat):Int:=if n then-(dv ds:Int) else dv ds
def RL.l(r:RL):aa:=⟨vA r.na r.da,vA r.nb r.db,vA r.nc r.dc⟩
def RL.nm(r:RL):Prop:=DD r.na r.da/\DD r.nb r.db/\DD r.nc r.dc
structure RL.sm (r:RL):Prop where
 a:bt r.da/\r.da.length<=3
 b:bt r.db/\r.db.length<=3
 c:bt r.dc/\r.dc.length<=3
def qE(n:Nat)(f:Nat->Bool):List Value:=(List.range n).map fun j=> .bool (f j)
def uX(f:Nat->Bool)(i:Nat):Nat->Bool:=fun j=>f j||Nat.beq j i
def MH(n:Nat)(f:Nat->Bool):(qE n f).length=n:=by simp[qE]
def Nn{b:Bool}(h:i<n)(hf:f i=b):(qE n f)[i]? =some (.bool b):=by simp[qE,h,hf]
def QF(e:j≠i):uX f i j=f j:=by
 unfold uX
 cases hb:Nat.beq j i with
 |false=>rw[Bool.or_false]
 |true=>exact absurd (aR hb) e
def UL:uX f i i=true:=by
 unfold uX;rw[kS,Bool.or_true]
def ZN(n i:Nat)(f:Nat->Bool):(qE n f).set i (.bool true)=qE n (uX f i):=by
 apply lR;intro j;rw[pQ];simp only[qE,aX,lS,cY];by_cases hj:j<n
 .rw[nU hj]
  simp only[jS];by_cases e:i=j
  .subst e;simp[hj,UL]
  .rw[QF (fun h=>e h.symm)];simp[e]
 .rw[dR omV]
  by_cases e:i=j
  .subst e;simp[hj]
  .simp[e]
def We(n:Nat):dE (.bool false) n=qE n (fun _=>false):=by
 apply lR;intro j;by_cases hj:j<n
 .rw[Nn hj J]
  unfold dE;rw[EO (aH (.bool false)) n j (by simpa[aH] using hj)];simp[aH,Nat.mod_one]
 .rw[dR (by rw[nA];simp[aH];omega),dR (by rw[MH];omega)]
structure RN where
 g:RL
 l:Int
 r:Int
def RN.d(n:RN):DV:= .ag [.v (.bool n.g.na),dt n.g.da, .v (.bool n.g.nb),dt n.g.db, .v (.bool n.g.nc),dt n.g.dc, .v (.int .i64 n.l), .v (.int .i64 n.r)]
def Fq{q:Rat}{v:Value}(h:Is G (cI q) v): ∃p,v= .pointer p:=by
 rcases ur.1 h with⟨_,h⟩|⟨_,h⟩
 .exact⟨_,h⟩
 .obtain⟨b,m,h,_⟩:=oh.1 h;exact⟨_,h⟩
def VX{l:aa}{v:Value}(h:Is G (fj l) v): ∃n1 d1 p1 n2 d2 p2 n3 d3 p3,v= .agg ⟨[.int .i64 n1, .int .i64 d1, .pointer p1, .int .i64 n2, .int .i64 d2, .pointer p2, .int .i64 n3, .int .i64 d3, .pointer p3]⟩:=by
 obtain⟨m,rfl,g⟩:=eO.1 h;clear h;obtain⟨v1,m,rfl,h1,h⟩:=bE.1 g;obtain⟨v2,m,rfl,h2,h⟩:=bE.1 h;obtain⟨v3,m,rfl,h3,h⟩:=bE.1 h;obtain⟨v4,m,rfl,h4,h⟩:=bE.1 h;obtain⟨v5,m,rfl,h5,h⟩:=bE.1 h;obtain⟨v6,m,rfl,h6,h⟩:=bE.1 h;obtain⟨v7,m,rfl,h7,h⟩:=bE.1 h;obtain⟨v8,m,rfl,h8,h⟩:=bE.1 h;obtain⟨v9,m,rfl,h9,h⟩:=bE.1 h;rw[eD] at h;subst h;obtain⟨_,rfl⟩:=Fq h3;obtain⟨_,rfl⟩:=Fq h6;obtain⟨_,rfl⟩:=Fq h9;rw[bh.1 h1,bh.1 h2,bh.1 h4,bh.1 h5,bh.1 h7,bh.1 h8];exact⟨_,_,_,_,_,_,_,_,_,J⟩
def Qt{n:RN}{v:Value}(h:Is G n.d v): ∃x1 x2 x3:SV,v= .agg ⟨[.bool n.g.na, .slice x1.a x1.n x1.c, .bool n.g.nb, .slice x2.a x2.n x2.c, .bool n.g.nc, .slice x3.a x3.n x3.c, .int .i64 n.l, .int .i64 n.r]⟩/\
  Is G n.g.d (.agg ⟨[.bool n.g.na, .slice x1.a x1.n x1.c, .bool n.g.nb, .slice x2.a x2.n x2.c, .bool n.g.nc, .slice x3.a x3.n x3.c]⟩):=by
 obtain⟨m,rfl,g⟩:=eO.1 h;clear h;obtain⟨v1,m,rfl,h1,h⟩:=bE.1 g;obtain⟨v2,m,rfl,h2,h⟩:=bE.1 h;obtain⟨v3,m,rfl,h3,h⟩:=bE.1 h;obtain⟨v4,m,rfl,h4,h⟩:=bE.1 h;obtain⟨v5,m,rfl,h5,h⟩:=bE.1 h;obtain⟨v6,m,rfl,h6,h⟩:=bE.1 h;obtain⟨v7,m,rfl,h7,h⟩:=bE.1 h;obtain⟨v8,m,rfl,h8,h⟩:=bE.1 h;rw[eD] at h;subst h;obtain⟨_,x1,_,rfl,_,_⟩:=ie.1 (id h2);obtain⟨_,x2,_,rfl,_,_⟩:=ie.1 (id h4);obtain⟨_,x3,_,rfl,_,_⟩:=ie.1 (id h6)
 cases bh.1 h1;cases bh.1 h3;cases bh.1 h5;cases bh.1 h7;cases bh.1 h8
 exact⟨x1,x2,x3,J,eO.2 ⟨_,J, .cons h1 (.cons h2 (.cons h3 (.cons h4 (.cons h5 (.cons h6 .nil)))))⟩⟩
def D5{v:Value}(h:Is G (eU t) v): ∃p,v= .pointer p:=by
 obtain⟨b,m,h,_⟩:=oh.1 h;exact⟨_,h⟩
def PF.fn0{f:FuncId}{r:DV}(h: ∀{GB:Gh},PF GB P f ds r)(hv:IsLs G ds vs):Fn P f vs G (fun v G'=>Is G' r v):=h (GB:=G) G vs (bA.refl G) hv
def PX(rt:Int)(ns:List RN):DV:= .ag [vI rt, .sl (ns.map RN.d)]

def Tr.pre:Tr->List Tr
 | .leaf b=>[.leaf b]
 | .node l x y=> .node l x y::(x.pre++y.pre)
section
variable {C:aD}{fr:Fr}{own:List av}
end

end Go.Sx
end
section
namespace Go.Sx
open Go Go.Proofs Go.RowKit Go.Extern.Stop Go.Stop Go.Extern
def Ip(v:Value)(w:World):(Extern.ReflectliteType.typeOf #[.iface 441 v]).run Tryz.prog w= .ok (.iface 209 (.agg #[.pointer (some ⟨Tryz.prog.globals.size,441,none⟩)])) w:=by kernel_rfl
def Gz:TypeId->Sem Value:=fun t=>do Go.Extern.Rtype.noPackHeld "Comparable" t;pure (.bool (<-typeInfo t).comparable)
def MQ(w:World):((Extern.ReflectliteType.method Gz) #[.agg #[.pointer (some ⟨Tryz.prog.globals.size,441,none⟩)]]).run Tryz.prog w= .ok (.bool true) w:=by kernel_rfl
def Jw:(Tryz.prog.info? 441).map (·.comparable)=some true:=by kernel_rfl
def HW:(Tryz.prog.info? 466).map (·.size)=some 1:=by kernel_rfl
def L3(n:Nat)(v:Value)(w:World):(Go.method (n+1) 209 v "Comparable").run Tryz.prog w= .ok (371,v) w:=by
 kernel_rfl
def SO(a:Addr)(w:World):Calls Tryz.prog 17 #[.iface 441 (.pointer (some a)), .iface 441 (.pointer (some a))] w fun e w'=>e= .returned (.bool true)/\w'=w:=by
 obtain⟨i,hi,hcmp⟩:=oK.1 Jw;obtain⟨j,hj,hjs⟩:=oK.1 HW;have h8:= @run_callFunc_extern Tryz.prog 51 _ Extern.ReflectliteType.typeOf Tryz.func51 we we we we;have h32:= @run_callFunc_extern Tryz.prog 371 _ (Extern.ReflectliteType.method Gz) Tryz.func371 we we we we;have tT:=Ip;have cT:=MQ;obtain⟨g,hg⟩: ∃g,g=Tryz.prog.globals.size:=⟨_,rfl⟩;simp only[<-hg] at tT cT;clear hg;have mR:=L3;have heq:=run_eql_iface_ptr_same (P:=Tryz.prog) w a Tryz.underlying41 Tryz.underlying441 hi hcmp hj
 go_enter Tryz.func17,Tryz.ntmps17
 go_wp2
 refine wp_loop_rounds 1 ?_;rw[rounds_succ]
 go_wp2
 go_ret
 exact⟨J,J⟩
def Oy:qm Tryz.prog 17:=⟨_,Tryz.func17,we,we⟩
def ux(a:Addr):DV:= .v (.iface 441 (.pointer (some a)))
def Cb{GB:Gh}{a:Addr}:PF GB Tryz.prog 17 [ux a,ux a] (.v (.bool true)):=by
 intro G vs _ hv;obtain⟨v1,m,rfl,h1,hm⟩:=bE.1 hv;obtain⟨v2,m,rfl,h2,hm⟩:=bE.1 hm;rw[eD] at hm;subst hm
 cases bh.1 h1;cases bh.1 h2
 exact(Fn.of_calls Oy (SO a)).mono fun v G' _ h=>bh.2 h
end Go.Sx
end
section
namespace Go.Sx
open Go Go.Proofs Tryz
variable {t u:Tr}{a i:Nat}{z op:Int}{ds:List Nat}{L M K:List aa}{p:ab}{c:az}{m:aa}
variable {GB:Gh}
structure EG (GB:Gh) (ai al ae:Addr):Prop where
 ErrInvalid:GB 1=some [.iface 441 (.pointer (some ai))]
 ErrLimit:GB 2=some [.iface 441 (.pointer (some al))]
structure Tr.gd (t:Tr):Prop where
 lb:t.all LB
 ok:t.all aa.ok
def Tr.compl_all(p:aa->Prop): ∀t:Tr,t.all p->t.compl.all p
 | .leaf _,h=>h
 | .node l x y,⟨h0,h1,h2⟩=>⟨h0,x.compl_all p h1,y.compl_all p h2⟩
def Tr.compl_depth: ∀t:Tr,t.compl.depth=t.depth
 | .leaf _=>rfl
 | .node l x y=>by simp only[Tr.compl,Tr.depth,x.compl_depth,y.compl_depth]
def Tr.chooseQ_all(p:aa->Prop)(op:Int)(b:Bool)(t:Tr)(c:az)(h:t.all p):(t.chooseQ op b c).all p:=by
 have:=t.restrict_all p c h;unfold chooseQ;split
 .split
  .trivial
  .exact this
 .split
  .trivial
  .split
   .exact(t.restrict c).compl_all p this
   .exact this
def Tr.mergeQ_all(p:aa->Prop)(op:Int){u:Tr}(hu:u.all p): ∀(t:Tr) (c:az),t.all p->(t.mergeQ op u c).all p
 | .leaf b,c,_=>u.chooseQ_all p op b c hu
 | .node l x y,c,⟨h0,h1,h2⟩=>by
  rw[Tr.mergeQ];split
  .exact Tr.mergeQ_all p op hu x c h1
  .split
   .exact Tr.mergeQ_all p op hu y c h2
   .rcases Tr.joinQ_cases l (x.mergeQ op u (b4 c l)) (y.mergeQ op u (b4 c l.rev)) with⟨h,_⟩|⟨h,_⟩
    .rw[h];exact Tr.mergeQ_all p op hu x _ h1
    .rw[h];exact⟨h0,Tr.mergeQ_all p op hu x _ h1,Tr.mergeQ_all p op hu y _ h2⟩
def Qc(h:t.gd)(c:az):(t.restrict c).gd:=⟨t.restrict_all LB c h.lb,t.restrict_all aa.ok c h.ok⟩
abbrev BF:=Int×List RN
def BF.d(x:BF):DV:=PX x.1 x.2
structure BF.ok (x:BF):Prop where
 s: ∀n∈x.2,n.g.sm
 n:x.2.length<=65536
def RN.of(n:NQ):RN:=⟨⟨decide (n.l.a<0),dg n.l.a.natAbs,decide (n.l.b<0),dg n.l.b.natAbs,decide (n.l.c<0),dg n.l.c.natAbs⟩,n.a,n.b⟩
def Ie[ha:BN a i](hi:i<=400000000:=by decide):PF GB prog 66 [dN a] (dN a):=by
 have hl:=bC (dg a);have hb:=k9 ha.h;refine fn func66 J J ntmps66 J J (fun C=>?_);refine nD J J<|ap ((dg a).map dU) J J (pn _) J<|fD 5 J<|rz J J
def zq[hz:BI z i](hi:i<=400000000:=by decide):PF GB prog 65 [eI z] (eI z):=by
 refine fn func65 J J ntmps65 J J (fun C=>?_);refine cl J (Ie (a:=z.natAbs) (i:=i) (ha:=⟨hz.h⟩) hi) J<|rz J J
def Yt{l:aa}(hl:BL l 96):PF GB prog 133 [eL l] (eL l):=by
 haveI h1:BI l.a 96:=⟨hl.a⟩;haveI h2:BI l.b 96:=⟨hl.b⟩;haveI h3:BI l.c 96:=⟨hl.c⟩;refine fn func133 J J ntmps133 J J (fun C=>?_);refine cl J (zq (z:=l.a)) J<|cl J (zq (z:=l.b)) J<|cl J (zq (z:=l.c)) J<|rz J J
def MU(hd:bt ds)(hn:ds.length<=1000000):PF GB prog 301 [dt ds] (dN (dv ds)):=by
 have hm:=bC ds;refine fn func301 J J ntmps301 J J (fun C=>?_);refine nD J J<|ap (ds.map dU) J J (pn _) J<|fz 5 J J<|cl J (pp (ds:=ds)) J<|rz J (by unfold dN;rw[B6 hd];rfl)
def PZ{neg:Bool}(hd:bt ds)(hn:ds.length<=1000000):PF GB prog 282 [.ag [.v (.bool neg),dt ds]] (eI (vA neg ds)):=by
 refine fn func282 J J ntmps282 J J (fun C=>?_);refine cl J (MU hd hn) J<|cl J jr J<|rz J J
def gn.nil:gn []:=fun s hs=>by cases hs

def Tr.val:Tr->ab->Bool
 | .leaf b,_=>b
 | .node l x y,p=>if 0<l.value p then x.val p else y.val p
def Tr.lns:Tr->List aa
 | .leaf _=>[]
 | .node l x y=>l::(x.lns++y.lns)
def sD{P:aa->Prop}: ∀{t:Tr},t.all P↔ ∀l∈t.lns,P l
 | .leaf _=>⟨fun _ l hl=>(by cases hl),fun _=>trivial⟩
 | .node l x y=>by
  show(P l/\x.all P/\y.all P)↔ ∀m∈l::(x.lns++y.lns),P m;rw[sD (t:=x),sD (t:=y)];constructor
  .rintro ⟨h0,h1,h2⟩ m hm
   rcases aT.1 hm with rfl|hm
   .exact h0
   .rcases bJ.1 hm with hm|hm
    .exact h1 m hm
    .exact h2 m hm
  .intro h
   exact⟨h l aZ,fun m hm=>h m (aK _ (bS _ hm)),fun m hm=>h m (aK _ (cW _ hm))⟩
def vm(h:t.all aa.ok): ∀l∈t.lns,l.ok:=sD.1 h
def dP(L:List aa)(p:ab):Prop:= ∀l∈L,l.value p≠0
def dP.sub(h:dP L p)(k: ∀l∈M,l∈L):dP M p:=fun l hl=>h l (k l hl)
def dP.l{l:aa}{x y:Tr}{p:ab}(h:dP (Tr.node l x y).lns p):l.value p≠0:=h l aZ
def dP.x{l:aa}{x y:Tr}{p:ab}(h:dP (Tr.node l x y).lns p):dP x.lns p:=h.sub fun m hm=>aK _ (bS _ hm)
def dP.y{l:aa}{x y:Tr}{p:ab}(h:dP (Tr.node l x y).lns p):dP y.lns p:=h.sub fun m hm=>aK _ (cW _ hm)
def dP.app:dP (L++M) p↔dP L p/\dP M p:=by
 unfold dP;constructor
 .intro h;exact⟨fun l hl=>h l (bS _ hl),fun l hl=>h l (cW _ hl)⟩
 .rintro ⟨h1,h2⟩ l hl;rcases bJ.1 hl with h|h;exact h1 l h;exact h2 l h
def xz(op:Int)(a b:Bool):Bool:=if op=1 then a||b else if op=2 then a&&b else if op=3 then a&&!b else a !=b
def Tr.val_join(l:aa)(X Y:Tr)(p:ab):(Tr.joinQ l X Y).val p=(Tr.node l X Y).val p:=by
 unfold Tr.joinQ;split
 .rename_i h
  cases X<;>cases Y<;>simp[Tr.isLeaf,Tr.code] at h
  subst h;simp[Tr.val]
 .rfl
def Tr.val_pos{l:aa}{x y:Tr}(h:0<l.value p):(Tr.node l x y).val p=x.val p:=by rw[Tr.val,if_pos h]
def Tr.val_neg{l:aa}{x y:Tr}(h: ¬0<l.value p):(Tr.node l x y).val p=y.val p:=by rw[Tr.val,if_neg h]
def Tr.val_compl: ∀(t:Tr) (p:ab),t.compl.val p=!t.val p
 | .leaf b,p=>rfl
 | .node l x y,p=>by
  rw[Tr.compl];by_cases h:0<l.value p
  .rw[Tr.val_pos h,Tr.val_pos h,x.val_compl]
  .rw[Tr.val_neg h,Tr.val_neg h,y.val_compl]
def Ky{l:aa}(hc:bO c)(hl:l.ok)(hb:c6 c l.rev=false)(hp:bw c p)(h0:l.value p≠0):0<l.value p:=by
 by_cases h:0<l.value p
 .exact h
 .exfalso
  have:c6 c l.rev=true:=(r7 hc hl.rev).2 ⟨p,hp,by rw[fE];grind⟩;rw[hb] at this;cases this
def Ml{l:aa}(hc:bO c)(hl:l.ok)(hb:c6 c l=false)(hp:bw c p): ¬0<l.value p:=fun h=>by
 have:c6 c l=true:=(r7 hc hl).2 ⟨p,hp,h⟩;rw[hb] at this;cases this
def Tr.val_restrict: ∀(t:Tr) (c:az) (p:ab),t.all aa.ok->bO c->bw c p->dP t.lns p->(t.restrict c).val p=t.val p
 | .leaf _,_,_,_,_,_,_=>rfl
 | .node l x y,c,p,⟨hl,hx,hy⟩,hc,hp,ho=>by
  cases hb:c6 c l.rev with
  |false=>rw[Tr.restrict_A _ _ hb,x.val_restrict c p hx hc hp ho.x,Tr.val_pos (Ky hc hl hb hp ho.l)]
  |true=>
   cases hb2:c6 c l with
   |false=>rw[Tr.restrict_B _ _ hb hb2,y.val_restrict c p hy hc hp ho.y,Tr.val_neg (Ml hc hl hb2 hp)]
   |true=>
    rw[Tr.restrict_C _ _ hb hb2,Tr.val_join];obtain⟨g1,i1⟩:=jp hc hl hb2;obtain⟨g2,i2⟩:=jp hc hl.rev hb;by_cases h:0<l.value p
    .rw[Tr.val_pos h,Tr.val_pos h,x.val_restrict _ p hx g1 ((i1 p).2 ⟨hp,h⟩) ho.x]
    .rw[Tr.val_neg h,Tr.val_neg h,y.val_restrict _ p hy g2 ((i2 p).2 ⟨hp,by rw[fE];have:=ho.l;grind⟩) ho.y]
def Tr.val_choose(op:Int)(b:Bool)(t:Tr)(c:az)(p:ab)(ht:t.all aa.ok)(hc:bO c)(hp:bw c p)(ho:dP t.lns p):(t.chooseQ op b c).val p=xz op b (t.val p):=by
 have hr:=t.val_restrict c p ht hc hp ho;unfold Tr.chooseQ xz;by_cases h1:op=1
 .subst h1;cases b<;>simp[hr,Tr.val]
 .by_cases h2:op=2
  .subst h2;cases b<;>simp[hr,Tr.val]
  .by_cases h3:op=3
   .subst h3;cases b<;>simp[hr,Tr.val,Tr.val_compl]
   .cases b<;>simp[h1,h2,h3,hr,Tr.val_compl]
def Tr.val_merge(op:Int)(u:Tr)(hu:u.all aa.ok): ∀(t:Tr) (c:az) (p:ab),t.all aa.ok->bO c->bw c p->dP t.lns p->dP u.lns p->(t.mergeQ op u c).val p=xz op (t.val p) (u.val p)
 | .leaf b,c,p,_,hc,hp,_,ho=>u.val_choose op b c p hu hc hp ho
 | .node l x y,c,p,⟨hl,hx,hy⟩,hc,hp,ho,hou=>by
  rw[Tr.mergeQ]
  cases hb:c6 c l.rev with
  |false=>
   rw[if_pos (show(!false)=true from J),Tr.val_merge op u hu x c p hx hc hp ho.x hou,Tr.val_pos (Ky hc hl hb hp ho.l)]
  |true=>
   rw[if_neg v6]
   cases hb2:c6 c l with
   |false=>rw[if_pos (show(!false)=true from J),Tr.val_merge op u hu y c p hy hc hp ho.y hou,Tr.val_neg (Ml hc hl hb2 hp)]
   |true=>
    rw[if_neg v6,Tr.val_join];obtain⟨g1,i1⟩:=jp hc hl hb2;obtain⟨g2,i2⟩:=jp hc hl.rev hb;by_cases h:0<l.value p
    .rw[Tr.val_pos h,Tr.val_pos h,Tr.val_merge op u hu x _ p hx g1 ((i1 p).2 ⟨hp,h⟩) ho.x hou]
    .rw[Tr.val_neg h,Tr.val_neg h,Tr.val_merge op u hu y _ p hy g2 ((i2 p).2 ⟨hp,by rw[fE];have:=ho.l;grind⟩) ho.y hou]
def Jo: ∀(L:List aa) (u:ab) (p:ab),dP L p-> ∃e:Rat,0<e/\ ∀d,0<=d->d<=e->dP L (ce p u d)
 |[],u,p,_=>⟨1,v6,fun d _ _ l hl=>by cases hl⟩
 |l::L,u,p,h=>by
  obtain⟨e,he,hm⟩:=Jo L u p (h.sub fun m hm=>aK _ hm);have h0:=h l aZ;have key: ∃f:Rat,0<f/\ ∀d,0<=d->d<=f->l.value (ce p u d)≠0:=by
   by_cases hk:l.nor.dot u=0
   .exact⟨1,v6,fun d _ _=>by rw[gD,hk];grind⟩
   .generalize hA:l.value p=A at*
    generalize hB:l.nor.dot u=B at*;rcases mn A with h|h|h
    .exact absurd h h0
    .rcases mn B with k|k|k
     .exact absurd k hk
     .exact⟨1,v6,fun d hd _=>by rw[gD,hA,hB];have:=cB hd (cM k);grind⟩
     .refine⟨A/(-B)/2,?_,fun d hd h2=>?_⟩
      .have:0<A/(-B):=by
        have e1:A/(-B)*(-B)=A:=by grind
        exact(im (k:= -B) v7).1 (by rw[e1];exact h)
       grind
      .rw[gD,hA,hB]
       have e1:A/(-B)*(-B)=A:=by grind
       generalize A/(-B)=q at*;have h4:=cB (a:=q/2-d) (b:= -B) v7 v7;grind
    .rcases mn B with k|k|k
     .exact absurd k hk
     .refine⟨(-A)/B/2,?_,fun d hd h2=>?_⟩
      .have:0<(-A)/B:=by
        have e1:(-A)/B*B= -A:=by grind
        exact(im (k:=B) k).1 (by rw[e1];grind)
       grind
      .rw[gD,hA,hB]
       have e1:(-A)/B*B= -A:=by grind
       generalize (-A)/B=q at*;have h4:=cB (a:=q/2-d) (b:=B) v7 v7;grind
     .exact⟨1,v6,fun d hd _=>by rw[gD,hA,hB];have:=cB hd (b:= -B) v7;grind⟩
  obtain⟨f,hf,hk⟩:=key;refine⟨if e<=f then e else f,by split<;>assumption,fun d hd hde m hm'=>?_⟩;have h1:d<=e/\d<=f:=by split at hde<;>grind
  rcases aT.1 hm' with rfl|hm'
  .exact hk d hd h1.2
  .exact hm d hd h1.1 m hm'
theorem okB{p:Prop}(h:p:=by split<;>grind):p:=h
def IW{c:az}{p:ab}(hp:bw c p): ∀(L:List aa),(∀l∈L,l.ok)-> ∃q,bw c q/\dP L q
 |[],_=>⟨p,hp,fun l hl=>by cases hl⟩
 |l::L,h=>by
  obtain⟨q,hq,ho⟩:=IW hp L fun m hm=>h m (aK _ hm);by_cases h0:l.value q=0
  .have hn:=o8 (h l aZ).ne
   obtain⟨e,he,hm⟩:=hq.open l.nor;obtain⟨f,hf,hk⟩:=Jo L l.nor q ho;refine⟨ce q l.nor (if e<=f then e else f),hm _ okB okB,fun m hm'=>?_⟩;rcases aT.1 hm' with rfl|hm'
   .rw[gD,h0]
    have:=eE (a:=if e<=f then e else f) (b:=m.nor.dot m.nor) (by split<;>assumption) hn;grind
   .exact hk _ okB okB m hm'
  .exact⟨q,hq,fun m hm=>by rcases aT.1 hm with rfl|hm;exact h0;exact ho m hm⟩
def JZ(hc:bO c)(L:List aa)(h: ∀l∈L,l.ok): ∃q,bw c q/\dP L q:=by
 obtain⟨p,hp⟩:=hc.ne;exact IW hp L h
def Tr.Red:Tr->az->Prop
 | .leaf _,_=>True
 | .node l x y,c=>c6 c l=true/\c6 c l.rev=true/\x.Red (b4 c l)/\y.Red (b4 c l.rev)/\ ¬(x.isLeaf=true/\y.isLeaf=true/\x.code=y.code)
def Tr.red_leaf(h:t.isLeaf=true)(c:az):t.Red c:=by
 cases t with
 |leaf b=>trivial
 |node l x y=>cases h
def Tr.join_red{l:aa}{x y:Tr}(h1:c6 c l=true)(h2:c6 c l.rev=true)(hx:x.Red (b4 c l))(hy:y.Red (b4 c l.rev)):(Tr.joinQ l x y).Red c:=by
 rcases Tr.joinQ_cases l x y with⟨e,h⟩|⟨e,h⟩
 .rw[e];exact Tr.red_leaf h c
 .rw[e];exact⟨h1,h2,hx,hy,h⟩
def Tr.restrict_red: ∀(t:Tr) (c:az),(t.restrict c).Red c
 | .leaf _,_=>trivial
 | .node l x y,c=>by
  cases hb:c6 c l.rev with
  |false=>rw[Tr.restrict_A _ _ hb];exact x.restrict_red c
  |true=>
   cases hb2:c6 c l with
   |false=>rw[Tr.restrict_B _ _ hb hb2];exact y.restrict_red c
   |true=>rw[Tr.restrict_C _ _ hb hb2];exact Tr.join_red hb2 hb (x.restrict_red _) (y.restrict_red _)
def Tr.compl_leaf:t.compl.isLeaf=t.isLeaf:=by cases t<;>rfl
def Tr.compl_code(h:t.isLeaf=true):t.compl.code=!t.code:=by
 cases t with
 |leaf b=>rfl
 |node l x y=>cases h
def Tr.compl_red: ∀{t:Tr} {c:az},t.Red c->t.compl.Red c
 | .leaf _,_,_=>trivial
 | .node l x y,c,⟨h1,h2,h3,h4,h5⟩=>by
  refine⟨h1,h2,Tr.compl_red h3,Tr.compl_red h4,fun⟨a,b,e⟩=>?_⟩;rw[Tr.compl_leaf] at a b;rw[Tr.compl_code a,Tr.compl_code b] at e;exact h5 ⟨a,b,by simpa using e⟩
def Tr.choose_red(op:Int)(b:Bool)(t:Tr)(c:az):(t.chooseQ op b c).Red c:=by
 have h:=t.restrict_red c;unfold Tr.chooseQ;split
 .split
  .trivial
  .exact h
 .split
  .trivial
  .split
   .exact Tr.compl_red h
   .exact h
def Tr.merge_red(op:Int)(u:Tr): ∀(t:Tr) (c:az),(t.mergeQ op u c).Red c
 | .leaf b,c=>u.choose_red op b c
 | .node l x y,c=>by
  rw[Tr.mergeQ]
  cases hb:c6 c l.rev with
  |false=>rw[if_pos (show(!false)=true from J)];exact Tr.merge_red op u x c
  |true=>
   rw[if_neg v6]
   cases hb2:c6 c l with
   |false=>rw[if_pos (show(!false)=true from J)];exact Tr.merge_red op u y c
   |true=>rw[if_neg v6];exact Tr.join_red hb2 hb (Tr.merge_red op u x _) (Tr.merge_red op u y _)
def Tr.red_restrict: ∀{t:Tr} {c:az},t.Red c->t.restrict c=t
 | .leaf _,_,_=>rfl
 | .node l x y,c,⟨h1,h2,h3,h4,h5⟩=>by
  rw[Tr.restrict_C _ _ h2 h1,Tr.red_restrict h3,Tr.red_restrict h4];rcases Tr.joinQ_cases l x y with⟨e,h⟩|⟨e,h⟩
  .exfalso
   unfold Tr.joinQ at e;split at e
   .rename_i k;simp at k;exact h5 k
   .cases x with
    |leaf b=>cases e
    |node a b d=>cases h
  .exact e
def aa.same(l m:aa):Prop:=m=l\/m=l.rev
instance (l m:aa):Decidable (l.same m):=inferInstanceAs (Decidable (_\/_))
def Tr.cnt(l:aa):Tr->Nat
 | .leaf _=>0
 | .node m x y=>(if l.same m then 1 else 0)+(x.cnt l+y.cnt l)
def Av{l:aa}(h:l.same m)(hp:l.value p=0):m.value p=0:=by
 rcases h with rfl|rfl
 .exact hp
 .rw[fE,hp];rfl
def Eq(l:aa)(c:az):Prop:= ∃p,bw c p/\l.value p=0
def Tr.cnt_zero{l:aa}: ∀{t:Tr} {c:az},t.Red c->t.all aa.ok->bO c-> ¬Eq l c->t.cnt l=0
 | .leaf _,_,_,_,_,_=>rfl
 | .node m x y,c,⟨h1,h2,h3,h4,_⟩,⟨hm,hx,hy⟩,hc,hn=>by
  obtain⟨g1,i1⟩:=jp hc hm h1;obtain⟨g2,i2⟩:=jp hc hm.rev h2;have e1:=Tr.cnt_zero (l:=l) h3 hx g1 (fun⟨p,hp,h0⟩=>hn ⟨p,((i1 p).1 hp).1,h0⟩);have e2:=Tr.cnt_zero (l:=l) h4 hy g2 (fun⟨p,hp,h0⟩=>hn ⟨p,((i2 p).1 hp).1,h0⟩);rw[Tr.cnt,e1,e2];by_cases hs:l.same m
  .exfalso
   -- m crosses the cell
   obtain⟨p,hp,k1⟩:=(r7 hc hm).1 h1;obtain⟨q,hq,k2⟩:=(r7 hc hm.rev).1 h2;rw[fE] at k2;generalize hA:m.value p=A at*;generalize hB:m.value q=B at*;have hAB:0<A-B:=by grind
   have e:A/(A-B)*(A-B)=A:=by grind
   generalize A/(A-B)=r at*;have r0:0<=r:=(jm hAB).1 (by rw[e];exact cM k1);have r1:r<=1:=by
    have:=(jm (s:=1-r) hAB).1 v7;grind
   have hz:=hp.seg hq r0 r1;have hv:m.value (bj p q r)=0:=by rw[lD,hA,hB];grind
   refine hn ⟨_,hz,?_⟩;rcases hs with rfl|rfl
   .exact hv
   .rw[fE] at hv;grind
  .rw[if_neg hs]
def qc(c:az)(p:ab):Bool:=c.all fun s=>decide (0<s.l.value p)
def qO:qc c p=true↔bw c p:=by
 unfold qc bw;rw[dZ];simp
def OW(P:List ab)(l:aa)(t:Tr):Prop:=t.all fun m=>l.same m\/ ∀p,l.value p=0->m.value p=0->p∈P
def Eh{α:Type}{p q r:α->Bool}: ∀(P:List α),(∀x∈P,q x=true->p x=true)->(∀x∈P,r x=true->p x=true)->(∀x∈P,¬(q x=true/\r x=true))->P.countP q+P.countP r<=P.countP p
 |[],_,_,_=>bZ _
 |x::P,h1,h2,h3=>by
  have ih:=Eh (p:=p) (q:=q) (r:=r) P (fun y hy=>h1 y (aK _ hy)) (fun y hy=>h2 y (aK _ hy)) (fun y hy=>h3 y (aK _ hy));have a:=h1 x aZ;have b:=h2 x aZ;have c:=h3 x aZ;rw[nN,nN,nN]
  cases hq:q x<;>cases hr:r x<;>simp_all<;>omega
def Lq{α:Type}{p q r:α->Bool}: ∀(P:List α),(∀x∈P,q x=true->p x=true)->(∀x∈P,r x=true->p x=true)->(∀x∈P,¬(q x=true/\r x=true))->(∃x∈P,p x=true/\q x=false/\r x=false)->P.countP q+P.countP r+1<=P.countP p
 |[],_,_,_,⟨x,hx,_⟩=>by cases hx
 |x::P,h1,h2,h3,h4=>by
  have i2:=Eh (p:=p) (q:=q) (r:=r) P (fun y hy=>h1 y (aK _ hy)) (fun y hy=>h2 y (aK _ hy)) (fun y hy=>h3 y (aK _ hy));have a:=h1 x aZ;have b:=h2 x aZ;have c:=h3 x aZ;rw[nN,nN,nN];obtain⟨z,hz,k1,k2,k3⟩:=h4;rcases aT.1 hz with rfl|hz
  .simp only[k1,k2,k3];simp;omega
  .have ih:=Lq (p:=p) (q:=q) (r:=r) P (fun y hy=>h1 y (aK _ hy)) (fun y hy=>h2 y (aK _ hy)) (fun y hy=>h3 y (aK _ hy)) ⟨z,hz,k1,k2,k3⟩
   cases hq:q x<;>cases hr:r x<;>simp_all<;>omega
def Tr.cnt_le{l:aa}(hl:l.ok){P:List ab}: ∀{t:Tr} {c:az},t.Red c->t.all aa.ok->bO c->OW P l t->t.cnt l<=1+P.countP (qc c)
 | .leaf _,_,_,_,_,_=>aL _
 | .node m x y,c,⟨h1,h2,h3,h4,_⟩,⟨hm,hx,hy⟩,hc,⟨v0,v1,v2⟩=>by
  obtain⟨g1,i1⟩:=jp hc hm h1;obtain⟨g2,i2⟩:=jp hc hm.rev h2;have q1: ∀p∈P,qc (b4 c m) p=true->qc c p=true:=fun p _ h=>qO.2 ((i1 p).1 (qO.1 h)).1;have q2: ∀p∈P,qc (b4 c m.rev) p=true->qc c p=true:=fun p _ h=>qO.2 ((i2 p).1 (qO.1 h)).1;have q3: ∀p∈P,¬(qc (b4 c m) p=true/\qc (b4 c m.rev) p=true):=fun p _ ⟨a,b⟩=>by
   have a:=((i1 p).1 (qO.1 a)).2;have b:=((i2 p).1 (qO.1 b)).2;rw[fE] at b;grind
  have ct:=Eh P q1 q2 q3;rw[Tr.cnt];by_cases hs:l.same m
  .have e1:=Tr.cnt_zero (l:=l) h3 hx g1 (fun⟨p,hp,h0⟩=>by have:=((i1 p).1 hp).2;rw[Av hs h0] at this;grind)
   have e2:=Tr.cnt_zero (l:=l) h4 hy g2 (fun⟨p,hp,h0⟩=>by have:=((i2 p).1 hp).2;rw[fE,Av hs h0] at this;grind);rw[e1,e2,if_pos hs];omega
  .rw[if_neg hs]
   have b1:=Tr.cnt_le hl h3 hx g1 v1;have b2:=Tr.cnt_le hl h4 hy g2 v2;by_cases w1:Eq l (b4 c m)
   .by_cases w2:Eq l (b4 c m.rev)
    .-- the crossing uQ in the cell
     obtain⟨p,hp,k1⟩:=w1;obtain⟨q,hq,k2⟩:=w2;obtain⟨hp,ap⟩:=(i1 p).1 hp;obtain⟨hq,aq⟩:=(i2 q).1 hq;rw[fE] at aq;generalize hA:m.value p=A at*;generalize hB:m.value q=B at*;have hAB:0<A-B:=by grind
     have e:A/(A-B)*(A-B)=A:=by grind
     generalize A/(A-B)=r at*;have r0:0<=r:=(jm hAB).1 (by rw[e];exact cM ap);have r1:r<=1:=by
      have:=(jm (s:=1-r) hAB).1 v7;grind
     have hz:=hp.seg hq r0 r1;have hv:m.value (bj p q r)=0:=by rw[lD,hA,hB];grind
     have hv2:l.value (bj p q r)=0:=by rw[lD,k1,k2];grind
     have hmem:bj p q r∈P:=by
      rcases v0 with h|h
      .exact absurd h hs
      .exact h _ hv2 hv
     have c3:=Lq P q1 q2 q3 ⟨_,hmem,qO.2 hz,by
      rw[<-jM,qO,i1];rintro ⟨_,h⟩;rw[hv] at h;grind,by
      rw[<-jM,qO,i2];rintro ⟨_,h⟩;rw[fE,hv] at h;grind⟩
     omega
    .rw[Tr.cnt_zero h4 hy g2 w2];omega
   .rw[Tr.cnt_zero h3 hx g1 w1];omega
def PG(l:aa):l.rev.rev=l:=by cases l;simp[aa.rev]
def aa.same.symm{l m:aa}(h:l.same m):m.same l:=by
 rcases h with rfl|rfl
 .exact .inl J
 .exact .inr (PG l).symm
def aa.same.trans{l n:aa}(h:l.same m)(k:m.same n):l.same n:=by
 rcases h with rfl|rfl
 .exact k
 .rcases k with rfl|rfl
  .exact .inr J
  .exact .inl (PG l)
def jG(K:List aa)(t:Tr):Prop:=t.all fun n=> ∃m∈K,m.same n
def CK(l m:aa):ab:=l.at (-(l.cutC m/l.cutK m))
def anQ{l:aa}(hl:l.ok)(hm:m.ok)(h1:l.value p=0)(h2:m.value p=0):l.same m\/p=CK l m:=by
 obtain⟨t,rfl⟩:=CE hl.ne h1;rw[jq] at h2;by_cases hk:l.cutK m=0
 .left
  have hc:l.cutC m=0:=by rw[hk] at h2;grind
  rcases wD hm hl (fun s=>by rw[jq,hk,hc];grind) with h|h
  .exact .inl h
  .exact .inr h
 .right
  unfold CK;congr 1;grind
def jG.covers{K:List aa}(hK: ∀m∈K,m.ok){l:aa}(hl:l.ok): ∀{t:Tr},jG K t->OW (K.map (CK l)) l t
 | .leaf _,_=>trivial
 | .node n x y,⟨⟨m,hm,hs⟩,h1,h2⟩=>by
  refine⟨?_,jG.covers hK hl h1,jG.covers hK hl h2⟩;by_cases h:l.same n
  .exact .inl h
  .right
   intro p k1 k2;rcases anQ hl (hK m hm) k1 (Av hs.symm k2) with h3|h3
   .exact absurd (h3.trans hs) h
   .rw[h3];exact eK hm
def Kc(t:Tr):List aa->Nat
 |[]=>0
 |l::K=>t.cnt l+Kc t K
def Ks(n:aa):List aa->Nat
 |[]=>0
 |l::K=>(if l.same n then 1 else 0)+Ks n K
def Kq{n:aa}{x y:Tr}: ∀K,Kc (.node n x y) K=Ks n K+(Kc x K+Kc y K)
 |[]=>rfl
 |l::K=>by
  have:=Kq (n:=n) (x:=x) (y:=y) K;show(Tr.node n x y).cnt l+Kc (.node n x y) K=_;rw[this,Tr.cnt];show _=(if l.same n then 1 else 0)+Ks n K+(x.cnt l+Kc x K+(y.cnt l+Kc y K));omega
def IG{n m:aa}(hs:m.same n): ∀{K:List aa},m∈K->1<=Ks n K
 |[],h=>by cases h
 |l::K,h=>by
  show 1<=(if l.same n then 1 else 0)+Ks n K;rcases aT.1 h with rfl|h
  .rw[if_pos hs];omega
  .have:=IG hs h;omega
def Ek{K:List aa}: ∀{t:Tr},jG K t->t.size<=Kc t K
 | .leaf _,_=>aL _
 | .node n x y,⟨⟨m,hm,hs⟩,h1,h2⟩=>by
  have a:=Ek h1;have b:=Ek h2;have c:=IG hs hm;rw[Kq,Tr.size];omega
def NN{t:Tr}{B:Nat}: ∀{K:List aa},(∀l∈K,t.cnt l<=B)->Kc t K<=K.length*B
 |[],_=>aL _
 |l::K,h=>by
  have:=NN (t:=t) (B:=B) (K:=K) fun m hm=>h m (aK _ hm);have:=h l aZ;show t.cnt l+Kc t K<=(K.length+1)*B;rw[iX];omega
def Tr.size_le(hK: ∀m∈K,m.ok)(hr:t.Red c)(ht:t.all aa.ok)(hc:bO c)(h:jG K t):t.size<=K.length*(1+K.length):=by
 refine cJ (Ek h) (NN fun l hl=>?_);refine cJ (Tr.cnt_le (hK l hl) hr ht hc (h.covers hK (hK l hl))) ?_;have:=List.countP_le_length (p:=qc c) (l:=K.map (CK l));rw[aX] at this;omega
def jG.mono(h:jG K t)(k: ∀l∈K,∃m∈M,m.same l):jG M t:=sD.2 fun l hl=>by
 obtain⟨m,hm,hs⟩:=sD.1 h l hl;obtain⟨n,hn,hs2⟩:=k m hm;exact⟨n,hn,hs2.trans hs⟩
def jG.restrict{K:List aa}{t:Tr}(h:jG K t)(c:az):jG K (t.restrict c):=t.restrict_all _ c h
def jG.merge(h:jG K t)(hu:jG K u)(c:az):jG K (t.mergeQ op u c):=Tr.mergeQ_all _ op hu t c h
def Tr.chooseL(op:Int)(b:Bool)(t:Tr)(c:List aa):Tr:=
 if op=1/\b=true then .leaf true
 else if(op=2\/op=3)/\b=false then .leaf false
 else if(op=3\/op=4)/\b=true then(t.restrictL c).compl else t.restrictL c
def Tr.mergeL(op:Int):Tr->Tr->List aa->Tr
 | .leaf b,u,c=>u.chooseL op b c
 | .node l x y,u,c=>if lB c l=1 then x.mergeL op u c else if lB c l= -1 then y.mergeL op u c else joinQ l (x.mergeL op u (c7 (c++[l]))) (y.mergeL op u (c7 (c++[l.rev])))
def Tr.chooseL_eq(ho:1<=op/\op<=4)(b:Bool)(t:Tr)(c:List aa)(d:az)(ht:t.all aa.ok)(hc: ∀l∈c,l.ok)(hd:bO d)(he: ∀p,bw d p↔cw c p):t.chooseL op b c=t.chooseQ op b d:=by
 have h:=t.restrictL_eq c d ht hc hd he;unfold Tr.chooseL Tr.chooseQ;rw[h];have:op=1\/op=2\/op=3\/op=4:=by omega
 rcases this with rfl|rfl|rfl|rfl<;>cases b<;>simp
def Tr.mergeL_eq{op:Int}(ho:1<=op/\op<=4)(u:Tr)(hu:u.all aa.ok): ∀(t:Tr) (c:List aa) (d:az),t.all aa.ok->(∀l∈c,l.ok)->bO d->(∀p,bw d p↔cw c p)->t.mergeL op u c=t.mergeQ op u d
 | .leaf b,c,d,_,hc,hd,he=>u.chooseL_eq ho b c d hu hc hd he
 | .node l x y,c,d,h,hc,hd,he=>by
  obtain⟨hl,hx,hy⟩:=h;have i1:=vj (gu hc hl);have i2:=vj (gu hc hl.rev);obtain⟨p0,hp0⟩:=hd.ne;rcases uQ hd hl with⟨a1,a⟩|⟨a1,a2,a⟩|⟨a1,a2,ag1,ag2,ae1,ae2⟩
  .have b1:gG (c++[l])=true:=i1.2 ⟨p0,i5.2 ⟨(he p0).1 hp0,a p0 hp0⟩⟩
   have b2:gG (c++[l.rev])=false:=by
    rw[<-jM,i2];rintro ⟨p,hp⟩;have hp:=i5.1 hp;have:=a p ((he p).2 hp.1);rw[fE] at hp;grind
   rw[Tr.mergeQ,a1,if_pos (show(!false)=true from J),Tr.mergeL,lB,b1,b2];exact Tr.mergeL_eq ho u hu x c d hx hc hd he
  .have b2:gG (c++[l.rev])=true:=i2.2 ⟨p0,i5.2 ⟨(he p0).1 hp0,by rw[fE];have:=a p0 hp0;grind⟩⟩
   have b1:gG (c++[l])=false:=by
    rw[<-jM,i1];rintro ⟨p,hp⟩;have hp:=i5.1 hp;have:=a p ((he p).2 hp.1);grind
   rw[Tr.mergeQ,a1,a2,if_neg v6,if_pos (show(!false)=true from J),Tr.mergeL,lB,b1,b2];exact Tr.mergeL_eq ho u hu y c d hy hc hd he
  .have n1: ∃p,cw (c++[l]) p:=by
    obtain⟨p,hp⟩:=ag1.ne;exact⟨p,i5.2 ⟨(he p).1 ((ae1 p).1 hp).1,((ae1 p).1 hp).2⟩⟩
   have n2: ∃p,cw (c++[l.rev]) p:=by
    obtain⟨p,hp⟩:=ag2.ne;exact⟨p,i5.2 ⟨(he p).1 ((ae2 p).1 hp).1,by rw[fE];have:=((ae2 p).1 hp).2;grind⟩⟩
   rw[Tr.mergeQ,a1,a2,if_neg v6,if_neg v6,Tr.mergeL,lB,i1.2 n1,i2.2 n2];have k1:=Tr.mergeL_eq ho u hu x (c7 (c++[l])) (b4 d l) hx (fun m hm=>gu hc hl m (lF.1 hm).1) ag1 fun p=>by
    rw[wH (gu hc hl) n1,ae1,i5,he]
   have k2:=Tr.mergeL_eq ho u hu y (c7 (c++[l.rev])) (b4 d l.rev) hy (fun m hm=>gu hc hl.rev m (lF.1 hm).1) ag2 fun p=>by
    rw[wH (gu hc hl.rev) n2,ae2,i5,he,fE];constructor<;>rintro ⟨a,b⟩<;>exact⟨a,v7⟩
   rw[k1,k2];rfl
def Tu(p:ab):bw [] p↔cw [] p:=by unfold bw cw;simp
def Tr.mergeL_nil(ho:1<=op/\op<=4)(ht:t.all aa.ok)(hu:u.all aa.ok):t.mergeL op u []=t.mergeQ op u []:=
 Tr.mergeL_eq ho u hu t [] [] ht (fun l hl=>by cases hl) bO.nil Tu
def Tr.mergeQ_depth(op:Int)(u:Tr): ∀(t:Tr) (c:az),(t.mergeQ op u c).depth<=t.depth+u.depth
 | .leaf b,c=>by
  have:=u.restrict_depth c;have h2:=(u.restrict c).compl_depth;show(u.chooseQ op b c).depth<=_;unfold Tr.chooseQ;split
  .split
   .exact aL _
   .simp only[Tr.depth];omega
  .split
   .exact aL _
   .split
    .simp only[Tr.depth];omega
    .simp only[Tr.depth];omega
 | .node l x y,c=>by
  have hx:=fun c=>Tr.mergeQ_depth op u x c;have hy:=fun c=>Tr.mergeQ_depth op u y c;rw[Tr.mergeQ];simp only[Tr.depth];split
  .have:=hx c;omega
  .split
   .have:=hy c;omega
   .have h1:=hx (b4 c l)
    have h2:=hy (b4 c l.rev);rcases Tr.joinQ_cases l (x.mergeQ op u (b4 c l)) (y.mergeQ op u (b4 c l.rev)) with⟨h,_⟩|⟨h,_⟩<;>rw[h]<;>(try simp only[Tr.depth])<;>omega
def lG(x:Rat):List Rat->List Rat
 |[]=>[x]
 |u::t=>if u<x then u::lG x t else if u=x then u::t else x::u::t
def gF:List Rat->List Rat
 |a::b::t=>(a+b)/2::gF (b::t)
 |_=>[]
def fg:List Rat->List Rat
 |[]=>[0]
 |a::t=>(a-1)::(gF (a::t)++[(a::t).getLast v8+1])
def ot{x y:Rat}: ∀{l:List Rat},y∈lG x l↔y=x\/y∈l
 |[]=>by simp[lG]
 |u::t=>by
  rw[lG];split
  .rw[aT,ot (l:=t),aT];grind
  .split
   .rename_i h;subst h;simp
   .simp
def xU{x:Rat}: ∀{l:List Rat},l.Pairwise (· < ·)->(lG x l).Pairwise (· < ·)
 |[],_=>by simp[lG]
 |u::t,h=>by
  rw[bN] at h;rw[lG];split
  .rename_i hu
   rw[bN];refine⟨fun y hy=>?_,xU h.2⟩;rcases ot.1 hy with rfl|hy
   .exact hu
   .exact h.1 y hy
  .rename_i hu
   split
   .rw[bN];exact h
   .rename_i hn
    have hx:x<u:=by grind
    rw[bN,bN];refine⟨fun y hy=>?_,h⟩;rcases aT.1 hy with rfl|hy
    .exact hx
    .have:=h.1 y hy;grind
def Nh: ∀{l:List Rat} (h:l.Pairwise (· < ·)) (hn:l≠[]),∀y∈l,y<=l.getLast hn
 |[a],_,_,y,hy=>by rw[aW] at hy;subst hy;exact fR
 |a::b::t,h,_,y,hy=>by
  rw[bN] at h;rw[List.getLast_cons v8];have ih:=Nh h.2 v8;rcases aT.1 hy with rfl|hy
  .have:=h.1 b aZ
   have:=ih b aZ;grind
  .exact ih y hy

end Go.Sx
end
