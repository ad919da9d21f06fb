import Derived.Test.YtidmgdlbilojcaaGreatDoorMa12
set_option linter.all false
set_option maxHeartbeats 2000000
set_option maxRecDepth 100000
section
namespace Go.Sx
open Go Go.Proofs Tryz
variable {GB:Gh}
def Y8{es:List Int}{i:Nat}(h:i<es.length):(es.map vI)[(i:Int).toNat]? =some (vI (es.getD i 0)):=by simp[h]
def J6{es:List Int}{i:Nat}(h:i<es.length):p8 (es.drop i)=if es.getD i 0≠0 then es.getD i 0 else p8 (es.drop (i+1)):=by
 rw[bX h,p8,aX,aZ h];rfl
def U6{es:List Int}(hn:es.length<=1000000):PF GB prog 304 [.sl (es.map vI)] (vI (p8 es)):=by
 have hel:(es.map vI).length=es.length:=by simp
 refine fn (fu:=⟨15⟩) func304 J J ntmps304 J J (fun C=>?_);refine aj 7 (.d (vI (es.length:Nat))) J (by rw[hel]<;>rfl) ?_;refine gx J<|?_;refine lp (X:=Nat) (fun i=>[(8, .d (vI (i:Nat)))]) (fun i=>[]) (fun i=>i<=es.length/\p8 es=p8 (es.drop i)) (fun i=>es.length-i) 0 J ⟨bJ _,J⟩ (fun _=>J) (fun i hk=>?_);obtain⟨h1,h2⟩:=hk;refine br J J J (fun hc9=>?_) (fun hc9=>?_)
 .
  refine ix _ J (Y8 (by omega)) J<|?_;refine br J J J (fun hc14=>?_) (fun hc14=>?_)
  .
   exact rz J (by rw[h2,J6 (by omega),if_pos hc14];rfl)
  .
   exact at_ (i+1) ⟨⟨by omega,by rw[h2,J6 (by omega),if_neg hc14]⟩,(by omega)⟩
 .
  exact rz J (by rw[h2,fL (by omega)];rfl)
def IL(l m:aa):Int:=p8 [bm l.a m.a,bm l.b m.b,bm l.c m.c]
def ayf(l m:aa):IL l m=0↔l=m:=by
 unfold IL p8 p8 p8 p8;have ha:=tw (l.a:Rat) m.a;have hb:=tw (l.b:Rat) m.b;have hc:=tw (l.c:Rat) m.c;rw[nW] at ha hb hc;constructor
 ·intro h
  repeat' (split at h<;>try contradiction)
  all_goals exact aa.ext' (by omega) (by omega) (by omega)
 ·rintro rfl
  rw[if_neg (by simp[ha.2 J]),if_neg (by simp[hb.2 J]),if_neg (by simp[hc.2 J])]
def aFa{l m:aa}[hl:LB l][hm:LB m]:PF GB prog 295 [eG l,eG m] (vI (IL l m)):=by
 refine fn func295 J J ntmps295 J J (fun C=>?_);refine cl J (vG (p:=(l.a:Rat)) (q:=(m.a:Rat))) J<|cl J (vG (p:=(l.b:Rat)) (q:=(m.b:Rat))) J<|cl J (vG (p:=(l.c:Rat)) (q:=(m.c:Rat))) J<|?_;refine rf J J<|cl J (U6 (es:=[bm l.a m.a,bm l.b m.b,bm l.c m.c]) (nb J)) J<|?_;exact rz J J
def WS{l m:aa}[hl:LB l][hm:LB m]:PF GB prog 269 [eG l,eG m] (vB (decide (l=m))):=by
 refine fn func269 J J ntmps269 J J (fun C=>?_);refine cl J (aFa (l:=l) (m:=m)) J<|?_;exact rz J (by show DV.v (.bool (decide _))= .v (.bool _);congr 2;exact decide_eq_decide.2 (ayf l m))
def Uw{l:aa}[hl:LB l]:PF GB prog 264 [eG l] (eG l.rev):=by
 refine fn func264 J J ntmps264 J J (fun C=>?_);refine cl J (uY (q:=(l.a:Rat))) J<|cl J (uY (q:=(l.b:Rat))) J<|cl J (uY (q:=(l.c:Rat))) J<|?_;exact rz J (by unfold eG aa.rev;simp only[jR];rfl)
def Z7{l:aa}[hl:LB l]:PF GB prog 104 [eG l] (eL l):=by
 refine fn func104 J J ntmps104 J J (fun C=>?_);refine cl J (rh (q:=(l.a:Rat))) J<|cl J (rh (q:=(l.b:Rat))) J<|cl J (rh (q:=(l.c:Rat))) J<|?_;exact rz J J
def OX{p:ab}{i:Nat}[hp:aO p i](hi:i<=10000000:=by decide):PF GB prog 247 [eZ p] (vI p.half):=by
 refine fn func247 J J ntmps247 J J (fun C=>?_);refine cl J (po (q:=p.y) (by omega)) J<|?_;refine cs 10 J J J (fun hg10=>?_) (fun hg10=>?_)
 .
  exact rz J (by unfold ab.half;(repeat' split)<;>first|rfl|(exfalso;omega))
 .
  refine cs 13 J J J (fun hg13=>?_) (fun hg13=>?_)
  .
   refine cl J (po (q:=p.x) (by omega)) J<|?_;refine br J J J (fun hc7=>?_) (fun hc7=>?_)
   .
    exact rz J (by unfold ab.half;(repeat' split)<;>first|rfl|(exfalso;omega))
   .
    refine cs 23 J J J (fun hg23=>?_) (fun hg23=>?_)
    .
     exact rz J (by unfold ab.half;(repeat' split)<;>first|rfl|(exfalso;omega))
    .
     refine cl J (po (q:=p.x) (by omega)) J<|?_;refine br J J J (fun hc20=>?_) (fun hc20=>?_)
     .
      exact rz J (by unfold ab.half;(repeat' split)<;>first|rfl|(exfalso;omega))
     .
      exact rz J (by unfold ab.half;(repeat' split)<;>first|rfl|(exfalso;omega))
  .
   refine cs 23 J J J (fun hg23=>?_) (fun hg23=>?_)
   .
    exact rz J (by unfold ab.half;(repeat' split)<;>first|rfl|(exfalso;omega))
   .
    refine cl J (po (q:=p.x) (by omega)) J<|?_;refine br J J J (fun hc20=>?_) (fun hc20=>?_)
    .
     exact rz J (by unfold ab.half;(repeat' split)<;>first|rfl|(exfalso;omega))
    .
     exact rz J (by unfold ab.half;(repeat' split)<;>first|rfl|(exfalso;omega))
def aDF{u v:ab}{i j:Nat}[hp:aO u i][hq:aO v j](hi:i<=10000000:=by decide)(hj:j<=10000000:=by decide):PF GB prog 188 [eZ u,eZ v] (vI (fp u v)):=by
 refine fn func188 J J ntmps188 J J (fun C=>?_);refine cl J (OX (p:=u) hi) J<|cl J (OX (p:=v) hj) J<|?_;refine br J J J (fun hc11=>?_) (fun hc11=>?_)
 .
  exact rz J (by unfold fp;rw[if_pos hc11];rfl)
 .
  refine br J J J (fun hc15=>?_) (fun hc15=>?_)
  .
   exact rz J (by unfold fp;rw[if_neg hc11,if_pos hc15];rfl)
  .
   refine cl J (BP (p:=u) (q:=v) (by omega) (by omega)) J<|cl (fu:=⟨0⟩) J (po (q:=u.cross v) (by omega)) J<|?_;have hs:=tX (u.cross v).num;refine gx J<|?_;exact rz J (by unfold fp;rw[if_neg hc11,if_neg hc15];rfl)
def aEG{m:Int}:d4 (dg m.natAbs)/\(decide (m<0)=true->0<(dg m.natAbs).length):=⟨(eo _).2.2,fun h=>by
 have:0<m.natAbs:=by have:=of_decide_eq_true h;omega
 exact xA.2 this⟩
def tu{m:Int}{i:Nat}[h:BI m i](hi:i<=1000000000:=by decide):PF GB prog 221 [eI m] (.v (.bool true)):=(QA (neg:=decide (m<0)) (ds:=dg m.natAbs) (eo _).2.1 (by have:=nH (a:=m.natAbs) hi;omega)).to (by unfold vB;rw[decide_eq_true aEG])
def Ph{l:aa}(h:l.ok):rgcd (rgcd (l.a:Rat) (l.b:Rat)) (l.c:Rat)=((1:Int):Rat):=by
 rw[zd,zd];have:=h.2;simp only[iN];rw[this];rfl
instance BQ.rgcd (p q:Rat) (i j:Nat) [h:BQ p i] [k:BQ q j]:BQ (rgcd p q) (i+j+(i+j)):=by
 unfold Sx.rgcd;refine zk (iJ (m6 p) (m6 q)) ?_ ?_
 ·rw[iN]
  have h1:=pw h.hn k.hd;have h2:=pw k.hn h.hd;rw[jY j i] at h2;exact GM h1 h2
 ·have h1:=pw h.hd k.hd
  have:2^(i+j)<=2^(i+j+(i+j)):=bY (by decide) (by omega);omega
def aFq{l:aa}[hl:LB l](ho:l.ok):PF GB prog 167 [eL l] (.tp [eG l,vB true]):=by
 refine fn func167 J J ntmps167 J J (fun C=>?_);refine cl (fu:=⟨0⟩) J (tu (m:=l.a)) J<|cO J J J<|cl (fu:=⟨0⟩) J (tu (m:=l.b)) J<|cO J J J<|cl (fu:=⟨0⟩) J (tu (m:=l.c)) J<|?_;refine cO J J J<|cl J (tC (m:=l.a)) J<|cl J (tC (m:=l.b)) J<|cl J (tC (m:=l.c)) J<|cl (fu:=⟨0⟩) J (wU (q:=(l.a:Rat))) J<|?_;refine kG (fu2:=⟨4⟩) J J J J (fun hg35=>?_) (fun hg35=>?_)
 .
  have ha:l.a=0:=cN.1 hg35;refine cl (fu:=⟨1⟩) J (wU (q:=(l.b:Rat))) J<|cO J (by first|rfl|(show some (decide _)=some false;rw[decide_eq_false (fun e=>ho.1 ⟨ha,cN.1 e⟩)])) J<|?_;refine cl J (vd (p:=(l.a:Rat)) (q:=(l.b:Rat))) J<|cl J (vd (p:=rgcd l.a l.b) (q:=(l.c:Rat))) J<|cl J (qp (m:=1) (by decide)) J<|?_;refine cl (fu:=⟨0⟩) J (DG (p:=rgcd (rgcd l.a l.b) l.c) (q:=((1:Int):Rat))) J<|cO J (by show some (!decide _)=some false;rw[Ph ho,decide_eq_true J];rfl) J<|?_;exact rz J J
 .
  refine cO J (by first|rfl|(show some (decide _)=some false;rw[decide_eq_false (fun e=>ho.1 ⟨ha,cN.1 e⟩)])) J<|cl J (vd (p:=(l.a:Rat)) (q:=(l.b:Rat))) J<|?_;refine cl J (vd (p:=rgcd l.a l.b) (q:=(l.c:Rat))) J<|cl J (qp (m:=1) (by decide)) J<|cl (fu:=⟨0⟩) J (DG (p:=rgcd (rgcd l.a l.b) l.c) (q:=((1:Int):Rat))) J<|?_;refine cO J (by show some (!decide _)=some false;rw[Ph ho,decide_eq_true J];rfl) J<|?_;exact rz J J
def dt(f:bj):DV:= .ag [vI (ce (f.l.a:Rat)),vI (cg (f.l.a:Rat)),co (f.l.a:Rat),vI (ce (f.l.b:Rat)),vI (cg (f.l.b:Rat)),co (f.l.b:Rat),vI (ce (f.l.c:Rat)),vI (cg (f.l.c:Rat)),co (f.l.c:Rat),vI (ce f.v.lo),vI (cg f.v.lo),co f.v.lo,vI (ce f.v.hi),vI (cg f.v.hi),co f.v.hi, .v (.bool f.v.nl), .v (.bool f.v.nh)]
structure sF (v:ah):Prop where
 z:gE v
 lo:BQ v.lo 1200
 hi:BQ v.hi 1200
structure aJc (s:bj):Prop where
 lb:LB s.l
 ok:s.l.ok
 v:sF s.v
abbrev f5 (c:ao):Prop:= ∀s∈c,aJc s
def wC{α:Type}(f:α->DV)(l:List α):(l.map f).length=l.length:=by simp
def sF.all:sF ah.all:=⟨⟨fun _=>J,fun _=>J⟩,BQ.z1.mono (by decide),BQ.z1.mono (by decide)⟩
def sF.cut{l m:aa}{v:ah}[LB l][LB m](hn:l.Ne)(h:sF v):sF (l.cutV v m):=by
 by_cases h0:crossI l m=0
 ·rw[(A1 (v:=v) h0).1];exact h
 ·obtain⟨u1,_,u3,u4,u5⟩:=EC (v:=v) hn h.z h.lo h.hi h0
  rw[u1];exact⟨u3,u4,u5⟩
def Eu(o:Option ah):ah:=o.getD ⟨0,0,false,false⟩
def Sj(G:Gh)(y:Value)(k:Is G (.tp [.ag [vI 0,vI 0, .v (.pointer none),vI 0,vI 0, .v (.pointer none), .v (.bool false), .v (.bool false)], .v (.bool false)]) y):Is G (.tp [eW (Eu none),vB false]) y:=by
 obtain⟨m,rfl,g⟩:=jt.1 k;exact jt.2 ⟨m,J,Rv (fun y hy=>by
  obtain⟨l,rfl,g⟩:=d7.1 hy;exact d7.2 ⟨l,J,A9 (F8 [vI 0,vI 0, .v (.pointer none)] g)⟩) g⟩
def fe{α:Type}{f:α->DV}{l:List α}{i:Nat}{s:α}(h:l[i]? =some s):(l.map f)[(i:Int).toNat]? =some (f s):=by simp[h]
def He{α:Type}{l:List α}{k:Nat}{s:α}(h:l[k]? =some s):l.drop k=s::l.drop (k+1):=by
 obtain⟨h1,h2⟩:=aS.1 h;rw[bX h1,h2]
def QS{l:aa}{c:ao}{v:ah}{k:Nat}{s:bj}(h:c[k]? =some s):nq l (c.drop k) v=if l.cutB v s.l then nq l (c.drop (k+1)) (l.cutV v s.l) else none:=by
 rw[He h];rfl
def F5{l:aa}{c:ao}{k:Nat}{s:bj}(h:c[k]? =some s):oy l (c.drop k)=if oc l s≠0 then oc l s else if s.l=l then 1 else oy l (c.drop (k+1)):=by
 rw[He h];rfl
instance BQ.sample (v:ah) [h1:BQ v.lo 1200] [h2:BQ v.hi 1200]:BQ v.sample 2500:=by
 unfold ah.sample;split
 ·exact BQ.z1.mono (by decide)
 ·split
  ·exact BQ.mono (inferInstance:BQ (v.hi-((1:Int):Rat)) _) (by decide)
  ·split
   ·exact BQ.mono (inferInstance:BQ (v.lo+((1:Int):Rat)) _) (by decide)
   ·exact BQ.mono (inferInstance:BQ ((v.lo+v.hi)*mkRat 1 2) _) (by decide)
def MF{c:ao}{l:aa}[hl:LB l](hlo:l.ok)(hc:f5 c)(hn:c.length<=1000000):PF GB prog 225 [.sl (c.map dt),eG l] (.tp [eW (Eu (jw c l)),vB (jw c l).isSome]):=by
 have hm:=wC dt c;refine fn func225 J J ntmps225 J J (fun C=>?_);refine cl (fu:=⟨10⟩) J aG0 J<|?_;refine aj 12 (.d (vI (c.length:Nat))) J (by rw[wC]<;>rfl) ?_;refine gx J<|?_;refine lp (X:=ah×Nat) (fun⟨v,k⟩=>[(13, .d (vI (k:Nat))),(6, .ov 6 0)]) (fun⟨v,k⟩=>[(6,some (.o 199 [.d (vI (ce v.lo)), .d (vI (cg v.lo)), .d (co v.lo), .d (vI (ce v.hi)), .d (vI (cg v.hi)), .d (co v.hi), .d (.v (.bool v.nl)), .d (.v (.bool v.nh))] true))]) (fun⟨v,k⟩=>k<=c.length/\sF v/\nq l (c.drop k) v=jw c l) (fun⟨v,k⟩=>c.length-k) (ah.all,0) J ⟨bJ _, .all,J⟩ (fun _=>J) (fun⟨v,k⟩ hk=>?_);dsimp only at hk⊢;obtain⟨h1,h2,h3⟩:=hk;haveI:=h2.lo;haveI:=h2.hi;refine br J J J (fun hc14=>?_) (fun hc14=>?_)
 .
  obtain⟨s,hs0⟩: ∃s,c[k]? =some s:=⟨_,aZ (by omega)⟩;have hs:=hc s (aL hs0);haveI:=hs.lb;refine ix _ J (fe hs0) J<|cl (fu:=⟨0⟩) J (P5 (l:=l) (m:=s.l) (v:=v)) J<|?_;generalize hw:l.cutV v s.l=w;generalize hb:l.cutB v s.l=b;refine gx J<|?_;refine bb J J J (fun hc26=>?_) (fun hc26=>?_)
  .
   exact jn J (by rw[<-h3,QS hs0,hb,if_neg (by simpa using hc26)];exact Sj)
  .
   exact at_ (w,k+1) (by dsimp only;exact⟨⟨by omega,hw▸h2.cut hlo.1,by rw[<-h3,QS hs0,hb,hw,if_pos (by simpa using hc26)]⟩,(by omega)⟩)
 .
  exact rz J (by rw[<-h3,fL (by omega)];rfl)
def aBt{c:ao}{l:aa}[hl:LB l](hlo:l.ok)(hc:f5 c)(hn:c.length<=1000000):PF GB prog 226 [.sl (c.map dt),eG l] (vI (vJ c l)):=by
 have hm:=wC dt c;refine fn func226 J J ntmps226 J J (fun C=>?_);refine cl J (MF (c:=c) (l:=l) hlo hc hn) J<|?_;refine bb (fu2:=⟨7⟩) J J J (fun hc16=>?_) (fun hc16=>?_)
 .
  exact rz J (by unfold vJ;rw[if_pos hc16];rfl)
 .
  have hp:vJ c l=oy l c:=by unfold vJ;rw[if_neg (by simp[hc16])]
  refine aj 18 (.d (vI (c.length:Nat))) J (by rw[wC]<;>rfl) ?_;refine gx J<|?_;refine lp (X:=Nat) (fun k=>[(19, .d (vI (k:Nat)))]) (fun k=>[]) (fun k=>k<=c.length/\oy l (c.drop k)=oy l c) (fun k=>c.length-k) 0 J ⟨bJ _,J⟩ (fun _=>J) (fun k hk=>?_);obtain⟨h1,h2⟩:=hk;refine br J J J (fun hc20=>?_) (fun hc20=>?_)
  .
   obtain⟨s,hs0⟩: ∃s,c[k]? =some s:=⟨_,aZ (by omega)⟩;have hs:=hc s (aL hs0);haveI:=hs.lb;haveI:=hs.v.lo;haveI:=hs.v.hi;haveI:=BQ.sample s.v;refine ix _ J (fe hs0) J<|cl (fu:=⟨0⟩) J (Ul (v:=s.v)) J<|?_;generalize ht:s.v.sample=t at*;refine gx J<|cl J (Za (l:=s.l) (t:=t)) J<|cl J (aCV (l:=l) (p:=s.l.at t)) J<|?_;refine br J J J (fun hc32=>?_) (fun hc32=>?_)
   .
    have hsd:oc l s=(l.value (s.l.at t)).num.sign:=by unfold oc;rw[ht]
    exact rz J (by rw[hp,<-h2,F5 hs0,hsd,if_pos hc32];rfl)
   .
    refine cl J (WS (l:=s.l) (m:=l)) J<|?_;refine bd J J J (fun hc37=>?_) (fun hc37=>?_)
    .
     have hsd:oc l s=(l.value (s.l.at t)).num.sign:=by unfold oc;rw[ht]
     exact rz J (by rw[hp,<-h2,F5 hs0,hsd,if_neg hc32,if_pos hc37];rfl)
    .
     have hsd:oc l s=(l.value (s.l.at t)).num.sign:=by unfold oc;rw[ht]
     exact at_ (k+1) ⟨⟨by omega,by rw[<-h2,F5 hs0,hsd,if_neg hc32,if_neg hc37]⟩,(by omega)⟩
  .
   exact rz J (by rw[hp,<-h2,fL (by omega)];rfl)
def XP{vs rest:List Value}(h: ∀v∈vs,(aA v).length=17){i:Nat}(hi:i<=vs.length):cD (aC vs++rest) (i*17) ((vs.length-i)*17)=some (aC (vs.drop i)):=by
 have hl:=ez vs h;have hd:(aC (vs.drop i)).length=(vs.length-i)*17:=by
  rw[ez (s:=17) _ (fun v hv=>h v (gT hv)),gM]
 rw[ml _ _ _ (by simp only[aV];omega)];congr 1;rw[kJ (by omega),DN vs i h hi,fT (by omega),aT (by omega)]
def Z5{vs rest vcs:List Value}(h: ∀v∈vs,(aA v).length=17)(hv:vcs.length=17){i:Nat}(hi:i<vs.length)(hr:17<=rest.length):
  cA (cA (aC vs++rest) ((i+1)*17) (aC (vs.drop i))) (i*17) vcs=aC (vs.take i)++vcs++aC (vs.drop i)++rest.drop 17:=by
 have hl:=ez vs h;have hd:(aC (vs.drop i)).length=(vs.length-i)*17:=by
  rw[ez (s:=17) _ (fun v hv=>h v (gT hv)),gM]
 have ht:(aC (vs.take i)).length=i*17:=by
  rw[ez (s:=17) _ (fun v hv=>h v (fK hv)),cR,iY (by omega)]
 rw[qv (aC (vs.drop i)) (aC vs++rest) _ (by rw[aV];omega)];rw[qv vcs _ _ (by simp only[aV,cR,gM];omega)];have e1:(aC vs++rest).drop ((i+1)*17+(aC (vs.drop i)).length)=rest.drop 17:=by
  rw[hd,show(i+1)*17+(vs.length-i)*17=(aC vs).length+17 by omega,mU,kQ (by omega),jT];congr 1;omega
 have e2:((aC vs++rest).take ((i+1)*17)++aC (vs.drop i)++rest.drop 17).take (i*17)=aC (vs.take i):=by
  rw[dV,fT (by simp only[cR,aV];omega),List.take_take,iY (by omega),fT (by omega),Hl vs i h (by omega)]
 have e3:((aC vs++rest).take ((i+1)*17)++aC (vs.drop i)++rest.drop 17).drop (i*17+vcs.length)=aC (vs.drop i)++rest.drop 17:=by
  rw[hv,dV,show i*17+17=((aC vs++rest).take ((i+1)*17)).length by simp only[cR,aV];omega,List.drop_left]
 rw[e1,e2,e3];simp[dV]
def T4{vs rest vcs:List Value}(h: ∀v∈vs,(aA v).length=17)(hv:vcs.length=17)(hr:17<=rest.length):cA (aC vs++rest) (vs.length*17) vcs=aC vs++vcs++rest.drop 17:=by
 have hl:=ez vs h;rw[qv _ _ _ (by simp only[aV];omega),hv,<-hl,List.take_left,mU];simp
def WW{G:Gh}{b bv cap i c2:Nat}{vs rest vcs r2:List Value}{lo lo2:Bool}(hvs: ∀v∈vs,(aA v).length=17)(hfl: ∀v∈vs,∀c∈aA v,flat c=true)(hv:vcs.length=17)(hvf: ∀c∈vcs,flat c=true)
  (hcap:vs.length*17+rest.length=cap*17)(hroom:vs.length+1<=cap)(hi:i<=vs.length)(hb:vs.length<=1125899906842624):
  jI prog 230 [.slice (some ⟨b,0,none⟩) vs.length cap, .int .i64 i, .slice (some ⟨bv,0,none⟩) 1 c2] [⟨b,aC vs++rest,201,lo⟩,⟨bv,vcs++r2,201,lo2⟩] G
   (fun u css _=>u= .slice (some ⟨b,0,none⟩) (vs.length+1) cap/\css=[aC (vs.take i)++vcs++aC (vs.drop i)++rest.drop 17,vcs++r2]):=by
 have hL:(aC vs++rest).length=cap*17:=by rw[aV,ez vs hvs];exact hcap
 have hr:17<=rest.length:=by omega
 have hD:(aC (vs.drop i)).length=(vs.length-i)*17:=by
  rw[ez (s:=17) _ (fun v hv=>hvs v (gT hv)),gM]
 have hDf: ∀c∈aC (vs.drop i),flat c=true:=fun c hc=>by
  obtain⟨l,hl,hcl⟩:=List.mem_flatten.1 hc;obtain⟨v,hv,rfl⟩:=bV.1 hl;exact hfl v (gT hv) c hcl
 have hvt:cD (vcs++r2) 0 (1*17)=some vcs:=by rw[ml _ _ _ (by rw[aV];omega),iQ,fT (by omega),aT (by omega)]
 refine jI.intro func230 J J ntmps230 J ?_;intro C _ _;show St C _ _ [⟨b,aC vs++rest,201,false⟩,⟨bv,vcs++r2,201,false⟩] _ _;refine Zx (fun hne=>?_);simp only[] at hne;refine sR<|sa J J<|zE<|sR<|sm J J<|sm J J<|sy (HB J J (by omega) (by omega)) J<|zE<|sR<|?_;refine sm J J<|cE J J<|sa J J<|zE<|bt<|sR<|sm J J<|sy (iO J J) J<|zE<|td J<|?_;refine zK<|sR<|sm J J<|cE J J<|sa J J<|zE<|bt<|sR<|sm J J<|sm J J<|sy (iO J J) J<|zE<|?_;refine gm J (fun hc=>?_) (fun hc=>?_) -- slot 22
 ·have hin:i=vs.length:=by omega
  subst hin;refine sR<|sm J J<|sm J J<|?_;refine sc (Qu (s:=17) (m:=1) (ys:=vcs) J J (.hd ..) hL (wj inferInstance hvt) (by omega) hvf hroom J ?_);refine sa J J<|zE<|cH<|?_;refine sg (css:=[cA (aC vs++rest) (vs.length*17) vcs,vcs++r2]) (.tmp J .nil) J _ (List.Perm.refl _) (List.Sublist.refl _) ⟨J,?_⟩;rw[T4 hvs hv hr,dZ,gQ];simp[aC]
 have hin:i<vs.length:=by omega
 have hn1:((vs.length:Int)+((1:Nat):Int)).toNat=vs.length+1:=by omega
 have ht1:((i:Int)+((1:Nat):Int)).toNat=i+1:=by omega
 refine zK<|bt<|sR<|sm J J<|sm J J<|sy (dC J J) J<|sm J J<|?_;refine sy (XC J) J<|sy (ru J J) J<|zE<|?_;refine gm J (fun hc2=>?_) (fun hc2=>?_) -- slot 31
 ·exact absurd hc2 (by omega)
 refine zK<|sR<|sm J J<|sm J J<|sm J J<|sy (dC J J) J<|sy (xh J J (by omega) (by omega)) J<|?_;rw[hn1];refine sa J J<|zE<|bt<|sR<|sm J J<|sm J J<|sm J J<|sm J J<|sy (dC J J) J<|sy (Bo J J (by omega) (by omega) (by omega)) J<|?_;refine sy (Yx (tS:=102) (tR:=4) func272 (by kernel_rfl) (by kernel_rfl) (by kernel_rfl) (by kernel_rfl) J J (Ne.symm hne) (fun h=>by rw[h] at hL;simp at hL;omega)) J<|?_;refine sy (uR J) J<|zE<|n7 J<|?_;refine bt<|dr0 (b:=b) (fun _=>false) [(0,true),(1,true),(2,true),(3,true),(4,true),(5,true),(6,true),(7,true),(8,false)] follows (.hd ..) (by kernel_rfl)<|dM J J J<|?_;refine dM J J J<|dM J J J<|dy J (fun _=>dC J J (by omega) (by omega)) J J<|dy J (fun _=>Bo J J (by omega) (by omega) (by omega)) J J<|?_;refine dM J J J<|dM J J J<|dy J (fun _=>Bo J J (by omega) (by omega) (by omega)) J J<|?_;rw[ht1,aM,dT,dT];refine dc J J (MK (s:=17) (m:=vs.length-i) (ys:=aC (vs.drop i)) J J (by show min _ _=_;omega) (wj inferInstance (XP hvs hi)) hDf (by rw[hD,hL];omega) (.hd ..) J ?_);refine l5<|dn<|sR<|sm J J<|sm J J<|sy (Bo J J (by omega) (by omega) (by omega)) J<|sm J J<|?_;rw[aM,dT];refine sc (MK (s:=17) (m:=1) (ys:=vcs) J J (by show min _ _=_;omega) (wj inferInstance hvt) hvf (by rw[y6,hL,hv];omega) (.hd ..) J ?_);refine zE<|sR<|sm J J<|sa J J<|zE<|cH<|?_;refine sg (css:=[cA (cA (aC vs++rest) ((i+1)*17) (aC (vs.drop i))) (i*17) vcs,vcs++r2]) (.tmp J .nil) J _ (List.Perm.refl _) (List.Sublist.refl _) ⟨J,?_⟩;rw[Z5 hvs hv hin hr]
def jI.toO{P:Program}{f:FuncId}{vs:List Value}{M:List ak}{G:Gh}{K:Value->List (List Value)->Gh->Prop}{K':Value->List ak->Gh->Prop}(h:jI P f vs M G K)(hk: ∀v css G',bD G G'->css.length=M.length->K v css G'-> ∃o,o.Sublist (kD (asB M) css)/\K' v o G'):gO P f vs M G K':=
 ⟨h.able,fun w hw=>(h.run w hw).mono fun _ _ ⟨v,css,G',he,hl,hh,hK⟩=>let⟨o,h1,h2⟩:=hk v css G' hh.gle hl hK;⟨v,o,G',he,hh.drop h1,h2⟩⟩
def Pu(c:ao):cI 17 (c.map dt):=fun d hd=>by
 obtain⟨f,_,rfl⟩:=bV.1 hd;exact⟨rfl,rfl⟩
def LG{G:Gh}{s:Nat}{ds:List DV}{vs:List Value}(hk:cI s ds)(h:IsLs G ds vs): ∀v∈vs,∀c∈aA v,flat c=true:=fun v hv=>by
 obtain⟨d,hd,h3⟩:=h.all v hv;exact(h3.cells (hk d hd).1).2
def XR{c:ao}{x:bj}{i cap:Nat}(hi:i<=c.length)(hc:c.length+1<=cap)(hn:c.length<=1000000):PI GB prog 230 (i:Nat) 17 201 201 (c.map dt) (dt x) cap ((c.take i++x::c.drop i).map dt):=by
 intro G w w2 B B2 _ hB hcap hB2;obtain⟨vs,q1,q2,q3,_⟩:=hB;obtain⟨us,u1,u2,u3,_⟩:=hB2;dsimp only at q1 q2 q3 u1 u2 u3;have hl:=q2.len;rw[aK] at hl;obtain⟨v,m,rfl,hv,hm⟩:=aH.1 u2
 cases er.1 hm
 rcases q1 with⟨_,e,_⟩|⟨b,rest,lo,e,rfl,h5,h6,h7⟩
 ·rw[e] at hcap;simp at hcap;omega
 rcases u1 with⟨h,_⟩|⟨bv,r2,lo2,e2,rfl,h8,h9,h10⟩
 ·cases h
 have hx:(aA v).length=17:=u3 v aQ;have hxf:=LG (s:=17) (ds:=[dt x]) (fun d hd=>by rw[aW.1 hd];exact⟨J,J⟩) u2 v aQ;have key:=WW (G:=G) (b:=b) (bv:=bv) (cap:=w.c) (i:=i) (c2:=w2.c) (vs:=vs) (rest:=rest) (vcs:=aA v) (r2:=r2) (lo:=lo) (lo2:=lo2) q3 (LG (Pu c) q2) hx hxf (by rw[<-h5];exact h6) (by omega) (by omega) (by omega);rw[e,e2];rw[vK];refine key.toO fun u css G' hg hl2 ⟨k1,k2⟩=>?_;subst k1 k2;have hall: ∀u∈vs.take i++v::vs.drop i,(aA u).length=17:=fun u hu=>by
  rcases bW.1 hu with hu|hu
  ·exact q3 u (fK hu)
  ·rcases aY.1 hu with rfl|hu
   ·exact hx
   ·exact q3 u (gT hu)
 have hlen:(vs.take i++v::vs.drop i).length=vs.length+1:=by
  rw[aV,bZ,cR,gM];omega
 refine⟨[⟨b,aC (vs.take i)++aA v++aC (vs.drop i)++rest.drop 17,201,false⟩], .cons_cons _ (kM _),⟨some ⟨b,0,none⟩,vs.length+1,w.c⟩,J,vs.take i++v::vs.drop i, .inr ⟨b,rest.drop 17,false,by rw[hlen],?_,ez _ hall,?_,?_⟩,?_,hall,fun h=>by cases h⟩
 ·rw[px];simp[aC]
 ·rw[ez _ hall,hlen,gM]
  rw[h5] at h6;have:=bK 17 (show vs.length+1<=w.c by omega);simp only[cS] at this⊢;omega
 ·rw[hlen];show vs.length+1<=w.c;omega
 ·rw[bR,bT,gN,jQ]
  exact((q2.take i).up hg).app (.cons (hv.up hg) ((q2.drop i).up hg))
def NZ{s:bj}{l:aa}[hs:LB s.l][hl:LB l]:PF GB prog 229 [dt s,eG l] (vI (fp s.l.dir l.dir)):=by
 refine fn func229 J J ntmps229 J J (fun C=>?_);refine cl J (xR (l:=s.l)) J<|cl J (xR (l:=l)) J<|cl J (aDF (u:=s.l.dir) (v:=l.dir)) J<|?_;exact rz J J
def A4(c:ao)(l:aa)(i:Nat):Bool:=match c[i]? with
 |some s=>decide (fp s.l.dir l.dir=0)
 |none=>false
def ayL(i j:Nat):((i:Int)+(j:Int)).fdiv (2^min (1:Int).toNat IntKind.u64.bits)=((i+j)/2:Nat):=by
 rw[show(2:Int)^min (1:Int).toNat IntKind.u64.bits=((2:Nat):Int) from J,gR _ (by decide)];omega
def WP{c:ao}{l:aa}{k:Nat}{s:bj}(h:c[k]? =some s):jb c l k=decide (fp s.l.dir l.dir<0):=by unfold jb;rw[h]
def Xd{c:ao}{l:aa}{k:Nat}{s:bj}(h:c[k]? =some s):A4 c l k=decide (fp s.l.dir l.dir=0):=by unfold A4;rw[h]
def XE{c:ao}{l:aa}{k:Nat}(h: ¬k<c.length):A4 c l k=false:=by unfold A4;rw[dX (by omega)]
def ZC{p:Nat->Bool}{i j:Nat}(h:i<j)(hp:p ((i+j)/2)=true):gg p i j=gg p ((i+j)/2+1) j:=by rw[gg,dif_pos h,if_pos hp]
def WO{p:Nat->Bool}{i j:Nat}(h:i<j)(hp: ¬p ((i+j)/2)=true):gg p i j=gg p i ((i+j)/2):=by rw[gg,dif_pos h,if_neg hp]
def Pe{p:Nat->Bool}{i j:Nat}(h: ¬i<j):gg p i j=i:=by rw[gg,dif_neg h]
def Up{c:ao}{l:aa}[hl:LB l](hc:f5 c)(hn:c.length<=1000000):PF GB prog 228 [.sl (c.map dt),eG l, .v (.func (.func 229) #[] #[])] (.tp [vI (gg (jb c l) 0 c.length:Nat),vB (A4 c l (gg (jb c l) 0 c.length))]):=by
 have hm:=wC dt c;refine fn (fu:=⟨11⟩) func228 J J ntmps228 J J (fun C=>?_);refine aj 13 (.d (vI (c.length:Nat))) J (by rw[hm]<;>rfl) ?_;refine gx J<|?_;refine lp (X:=Nat×Nat) (fun⟨i,j⟩=>[(9, .d (vI (i:Nat))),(10, .d (vI (j:Nat)))]) (fun⟨i,j⟩=>[]) (fun⟨i,j⟩=>i<=j/\j<=c.length/\gg (jb c l) i j=gg (jb c l) 0 c.length) (fun⟨i,j⟩=>j-i) (0,c.length) J ⟨bJ _,aN _,J⟩ (fun _=>J) (fun⟨i,j⟩ hk=>?_);dsimp only at hk⊢;obtain⟨h1,h2,h3⟩:=hk;refine br (fu1:=⟨10⟩) (fu2:=⟨11⟩) J J J (fun hc17=>?_) (fun hc17=>?_)
 .
  obtain⟨s,hs0⟩: ∃s,c[(i+j)/2]? =some s:=⟨_,aZ (by omega)⟩;haveI:=(hc s (aL hs0)).lb;have hang:=WP (l:=l) hs0;refine aj 22 (.d (.v (.int .u64 ((i+j)/2:Nat)))) J (by rw[ayL]) ?_;refine gx J<|ix _ J (fe hs0) J<|cl J (NZ (s:=s) (l:=l)) J<|?_;refine br J J J (fun hc31=>?_) (fun hc31=>?_)
  .
   exact at_ ((i+j)/2+1,j) (by dsimp only;exact⟨⟨by omega,h2,by rw[<-h3,ZC (i:=i) (j:=j) (by omega) (by rw[hang];exact decide_eq_true hc31)]⟩,(by omega)⟩)
  .
   exact at_ (i,(i+j)/2) (by dsimp only;exact⟨⟨by omega,by omega,by rw[<-h3,WO (i:=i) (j:=j) (by omega) (by rw[hang,decide_eq_false hc31];exact Bool.false_ne_true)]⟩,(by omega)⟩)
 .
  refine kG (v2:=fun hg39=>by simp only[ac];kernel_rfl) J J J J (fun hg39=>?_) (fun hg39=>?_)
  .
   have he:=Pe (p:=jb c l) (i:=i) (j:=j) (by omega);obtain⟨s,hs0⟩: ∃s,c[i]? =some s:=⟨_,aZ (by omega)⟩;haveI:=(hc s (aL hs0)).lb;refine ix _ J (fe hs0) J<|cl J (NZ (s:=s) (l:=l)) J<|?_;exact rz J (by rw[<-h3,he,Xd hs0];rfl)
  .
   have he:=Pe (p:=jb c l) (i:=i) (j:=j) (by omega);exact rz J (by rw[<-h3,he,XE (by omega)];rfl)
def Po{l:aa}[LB l](hlo:l.ok): ∀{c:ao} {v w:ah},f5 c->sF v->nq l c v=some w->sF w
 |[],v,w,_,hv,h=>by cases h;exact hv
 |s::t,v,w,hc,hv,h=>by
  haveI:=(hc s aQ).lb;simp only[nq] at h;split at h
  ·exact Po hlo (fun x hx=>hc x (aJ _ hx)) (hv.cut hlo.1) h
  ·cases h
def Cn{l:aa}[LB l]: ∀{c:ao},f5 c->f5 (dq l c)
 |[],_,s,h=>by cases h
 |a::t,hc,s,h=>by
  have ha:=hc a aQ;haveI:=ha.lb;have ht:=Cn (l:=l) (fun x hx=>hc x (aJ _ hx));unfold dq at h;split at h
  ·rcases aY.1 h with rfl|h
   ·exact⟨ha.lb,ha.ok,ha.v.cut ha.ok.1⟩
   ·exact ht s h
  ·exact ht s h
def t8{l:aa}[hl:LB l](hlo:l.ok){c:ao}(hc:f5 c):f5 (bg c l):=by
 unfold bg;split
 ·rename_i v hv
  intro s hs;unfold j' at hs;rcases bW.1 hs with h|h
  ·exact Cn hc s (fK h)
  ·rcases aY.1 h with rfl|h
   ·exact⟨hl,hlo,Po hlo hc .all hv⟩
   ·exact Cn hc s (gT h)
 ·exact hc
def Rk{l:aa}{c:ao}{k:Nat}{s:bj}(h:c[k]? =some s):dq l (c.drop k)=if s.l.cutB s.v l then⟨s.l,s.l.cutV s.v l⟩::dq l (c.drop (k+1)) else dq l (c.drop (k+1)):=by
 rw[He h];rfl
def MN{c:ao}{l:aa}[hl:LB l](hlo:l.ok)(hc:f5 c)(hn:c.length<=100000):PF GB prog 168 [.sl (c.map dt),eG l] (.tp [.sl ((bg c l).map dt),vB (bC c l)]):=by
 have hm:=wC dt c;refine fn func168 J J ntmps168 J J (fun C=>?_);refine cl J (MF (c:=c) (l:=l) hlo hc (by omega)) J<|?_;refine bb (fu2:=⟨6⟩) J J J (fun hc22=>?_) (fun hc22=>?_)
 .
  have hp:jw c l=none:=by simpa using hc22
  refine cl J (aBt (c:=c) (l:=l) hlo hc (by omega)) J<|?_;exact rz J (by unfold bg bC;rw[hp];rfl)
 .
  obtain⟨v,hv⟩: ∃v,jw c l=some v:=qW.1 (by simpa using hc22);have hvd:Eu (jw c l)=v:=by rw[hv];rfl
  rw[hvd];refine aj 29 (.d (vI (c.length:Nat))) J (by rw[hm]<;>rfl) ?_;refine gx J<|UC (fu:=⟨8⟩) (c.length+1) J J J<|?_;refine aj 33 (.d (vI (c.length:Nat))) J (by rw[hm]<;>rfl) ?_;refine gx J<|?_;refine lp (X:=ao×Nat) (fun⟨o,k⟩=>[(34, .d (vI (k:Nat))),(8, .rw 31)]) (fun⟨o,k⟩=>[(31,some (.c 201 17 (o.map dt) (c.length+1)))]) (fun⟨o,k⟩=>k<=c.length/\o.length<=k/\o++dq l (c.drop k)=dq l c) (fun⟨o,k⟩=>c.length-k) ([],0) J ⟨bJ _,aN _,J⟩ (fun _=>J) (fun⟨o,k⟩ hk=>?_);dsimp only at hk⊢;obtain⟨h1,h2,h3⟩:=hk;have hmo:=wC dt o;refine br J J J (fun hc35=>?_) (fun hc35=>?_)
  .
   obtain⟨s,hs0⟩: ∃s,c[k]? =some s:=⟨_,aZ (by omega)⟩;have hs:=hc s (aL hs0);haveI:=hs.lb;haveI:=hs.v.lo;haveI:=hs.v.hi;refine ix _ J (fe hs0) J<|cl (fu:=⟨0⟩) J (P5 (l:=s.l) (m:=l) (v:=s.v)) J<|?_;generalize hw:s.l.cutV s.v l=w;generalize hb:s.l.cutB s.v l=b;refine gx J<|?_;refine bb J J J (fun hc47=>?_) (fun hc47=>?_)
   .
    refine rf J J<|Wd ((o++[bj.mk s.l w]).map dt) J (by rw[bR];rfl) (Pu [bj.mk s.l w]) (by rw[hmo];simp;omega) J<|?_;refine iv 54 31 J ?_;exact at_ (o++[bj.mk s.l w],k+1) (by dsimp only;exact⟨⟨by omega,by simp;omega,by rw[<-h3,Rk hs0,hb,if_pos hc47,hw,dV];rfl⟩,(by omega)⟩)
   .
    exact at_ (o,k+1) (by dsimp only;exact⟨⟨by omega,by omega,by rw[<-h3,Rk hs0,hb,if_neg (by simp[hc47])]⟩,(by omega)⟩)
  .
   obtain rfl:k=c.length:=by omega
   have ho:o=dq l c:=by rw[<-h3,gQ];simp[dq]
   subst ho;have hbl:=(D8 (jb (dq l c) l) (dq l c).length 0 (dq l c).length (by omega) (by omega)).2;refine cL J (Up (c:=dq l c) (l:=l) (Cn hc) (by omega)) J J<|ro J J<|ci ((j' (dq l c) l v).map dt) J (XR (c:=dq l c) (x:=⟨l,v⟩) (i:=gg (jb (dq l c) l) 0 (dq l c).length) (cap:=c.length+1) hbl (by omega) (by omega)) J J<|?_;refine i9 68 J ?_;exact rz J (by unfold bg bC;rw[hv];rfl)
def Eq{c:ao}{l:aa}[hl:LB l](hlo:l.ok)(hc:f5 c)(hn:c.length<=100000):PF GB prog 220 [.sl (c.map dt),eG l] (.tp [.sl ((bg c l).map dt), .sl ((bg c l.rev).map dt),vB (bC c l),vB (bC c l.rev)]):=by
 refine fn func220 J J ntmps220 J J (fun C=>?_);refine cl J (MN (c:=c) (l:=l) hlo hc hn) J<|cl J (Uw (l:=l)) J<|cl J (MN (c:=c) (l:=l.rev) hlo.rev hc hn) J<|?_;exact rz J J
def cU:Tr->List DV
 | .leaf b=>[vI 0,vI 0, .v (.pointer none),vI 0,vI 0, .v (.pointer none),vI 0,vI 0, .v (.pointer none), .v (.pointer none), .v (.pointer none), .v (.bool b)]
 | .node l x y=>[vI (ce (l.a:Rat)),vI (cg (l.a:Rat)),co (l.a:Rat),vI (ce (l.b:Rat)),vI (cg (l.b:Rat)),co (l.b:Rat),vI (ce (l.c:Rat)),vI (cg (l.c:Rat)),co (l.c:Rat), .pt (cU x), .pt (cU y), .v (.bool false)]
def eU(t:Tr):DV:= .pt (cU t)
def qo{b:Bool}:PF GB prog 181 [.v (.bool b)] (eU (.leaf b)):=by
 refine fn func181 J J ntmps181 J J (fun C=>?_);refine i9 5 J ?_;exact rz J J
def zW{l:aa}{x y:Tr}:PF GB prog 182 [eG l,eU x,eU y] (eU (.node l x y)):=by
 refine fn func182 J J ntmps182 J J (fun C=>?_);refine i9 11 J ?_;exact rz J J
def qI{b:Bool}:PF GB prog 130 [eU (.leaf b)] (.v (.bool true)):=by
 refine fn func130 J J ntmps130 J J (fun C=>?_);exact rz J J
def rC{l:aa}{x y:Tr}:PF GB prog 130 [eU (.node l x y)] (.v (.bool false)):=by
 refine fn func130 J J ntmps130 J J (fun C=>?_);exact rz J J
def axF{l l1:aa}{x y u:Tr}:PF GB prog 242 [eG l,eU (.node l1 x y),eU u] (eU (.node l (.node l1 x y) u)):=by
 refine fn func242 J J ntmps242 J J (fun C=>?_);refine cl (fu:=⟨0⟩) J rC J<|cO J J J<|cl J zW J<|?_;exact rz J J
def atE{l l1:aa}{x y:Tr}{p:Bool}:PF GB prog 242 [eG l,eU (.leaf p),eU (.node l1 x y)] (eU (.node l (.leaf p) (.node l1 x y))):=by
 refine fn func242 J J ntmps242 J J (fun C=>?_);refine cl (fu:=⟨0⟩) J qI J<|dm J J J<|cl (fu:=⟨1⟩) J rC J<|cO J J J<|cl J zW J<|?_;exact rz J J
def W8{l:aa}{p q:Bool}:PF GB prog 242 [eG l,eU (.leaf p),eU (.leaf q)] (eU (Tr.joinQ l (.leaf p) (.leaf q))):=by
 refine fn func242 J J ntmps242 J J (fun C=>?_);refine cl (fu:=⟨0⟩) J qI J<|dm J J J<|cl (fu:=⟨1⟩) J qI J<|dm J J J<|?_;refine bb J J J (fun hc23=>?_) (fun hc23=>?_)
 .
  exact rz J (by rw[show Tr.joinQ l (.leaf p) (.leaf q)= .leaf p by simp[Tr.joinQ,Tr.isLeaf,Tr.code,hc23]];rfl)
 .
  refine cl J zW J<|?_;exact rz J (by rw[show Tr.joinQ l (.leaf p) (.leaf q)= .node l (.leaf p) (.leaf q) by simp[Tr.joinQ,Tr.isLeaf,Tr.code,hc23]];rfl)
def JE{l:aa}: ∀{x y:Tr},PF GB prog 242 [eG l,eU x,eU y] (eU (Tr.joinQ l x y))
 | .leaf _, .leaf _=>W8
 | .leaf _, .node .. =>atE
 | .node ..,_=>axF
def Tm{b:Bool}:PF GB prog 102 [eU (.leaf b)] (vI (Tr.depth (.leaf b):Nat)):=by
 refine fn func102 J J ntmps102 J J (fun C=>?_);refine cl (fu:=⟨0⟩) J qI J<|?_;refine pi 4 J ?_;refine gx J<|?_;exact rz J J
def Vf{l:aa}{x y:Tr}(hd:(Tr.node l x y).depth<=1000000)(ihx:PF GB prog 102 [eU x] (vI (Tr.depth x:Nat)))(ihy:PF GB prog 102 [eU y] (vI (Tr.depth y:Nat))):PF GB prog 102 [eU (.node l x y)] (vI (Tr.depth (.node l x y):Nat)):=by
 have hdp:(Tr.node l x y).depth=1+max x.depth y.depth:=J;have hdx:=pX x.depth y.depth;have hdy:=oV x.depth y.depth;refine fn func102 J J ntmps102 J J (fun C=>?_);refine cl (fu:=⟨0⟩) J rC J<|?_;refine rB 4 J ?_;refine gx J<|cl J ihx J<|cl (hv:=by simp only[ac];exact⟨by omega,by kernel_rfl⟩) J ihy J<|?_;exact rz J (by show DV.v (.int _ _)= .v (.int _ _);congr 2;split<;>omega)
def ze: ∀{t:Tr},t.depth<=1000000->PF GB prog 102 [eU t] (vI (Tr.depth t:Nat))
 | .leaf _,_=>Tm
 | .node l x y,h=>Vf h (ze (by have:=pX x.depth y.depth;have:(Tr.node l x y).depth=1+max x.depth y.depth:=J;omega)) (ze (by have:=oV x.depth y.depth;have:(Tr.node l x y).depth=1+max x.depth y.depth:=J;omega))
def Sp{b:Bool}{c:ao}:PF GB prog 185 [eU (.leaf b), .sl (c.map dt)] (eU (Tr.restrict (.leaf b) c)):=by
 refine fn func185 J J ntmps185 J J (fun C=>?_);refine cl (fu:=⟨0⟩) J qI J<|?_;refine pi 10 J ?_;refine gx J<|?_;exact rz J J
def ajz{l:aa}{x y:Tr}{c:ao}(hl:LB l)(hlo:l.ok)(hc:f5 c)(hn:c.length+(Tr.node l x y).depth<=100000)(ihx: ∀{c:ao},f5 c->c.length+x.depth<=100000->PF GB prog 185 [eU x, .sl (c.map dt)] (eU (Tr.restrict x c)))(ihy: ∀{c:ao},f5 c->c.length+y.depth<=100000->PF GB prog 185 [eU y, .sl (c.map dt)] (eU (Tr.restrict y c))):PF GB prog 185 [eU (.node l x y), .sl (c.map dt)] (eU (Tr.restrict (.node l x y) c)):=by
 have hdp:(Tr.node l x y).depth=1+max x.depth y.depth:=J;have hdx:=pX x.depth y.depth;have hdy:=oV x.depth y.depth;have hca:=vt c l;have hcb:=vt c l.rev;refine fn func185 J J ntmps185 J J (fun C=>?_);refine cl (fu:=⟨0⟩) J rC J<|?_;refine rB 10 J ?_;refine gx J<|cl J (Eq (c:=c) (l:=l) hlo hc (by omega)) J<|?_;refine bb J J J (fun hc23=>?_) (fun hc23=>?_)
 .
  refine cl J (ihx hc (by omega)) J<|?_;exact rz J (by rw[Tr.restrict,if_pos hc23];rfl)
 .
  refine bb J J J (fun hc32=>?_) (fun hc32=>?_)
  .
   refine cl J (ihy hc (by omega)) J<|?_;exact rz J (by rw[Tr.restrict,if_neg (by simp[hc23]),if_pos hc32];rfl)
  .
   refine cl J (ihx (c:=bg c l) (t8 hlo hc) (by omega)) J<|cl J (ihy (c:=bg c l.rev) (t8 hlo.rev hc) (by omega)) J<|cl J JE J<|?_;exact rz J (by rw[Tr.restrict,if_neg (by simp[hc23]),if_neg (by simp[hc32])];rfl)
def ph: ∀{t:Tr} {c:ao},t.all LB->t.all aa.ok->f5 c->c.length+t.depth<=100000->PF GB prog 185 [eU t, .sl (c.map dt)] (eU (Tr.restrict t c))
 | .leaf _,_,_,_,_,_=>Sp
 | .node l x y,c,hb,ho,hc,hn=>ajz hb.1 ho.1 hc hn (fun h1 h2=>ph hb.2.1 ho.2.1 h1 h2) (fun h1 h2=>ph hb.2.2 ho.2.2 h1 h2)
def Tr.compl:Tr->Tr
 | .leaf b=> .leaf !b
 | .node l x y=> .node l x.compl y.compl
def Tr.chooseQ(op:Int)(b:Bool)(t:Tr)(c:ao):Tr:=
 if op=1\/op=2 then(if b=decide (op=1) then .leaf b else t.restrict c)
 else if op=3/\b=false then .leaf false
 else if b then(t.restrict c).compl else t.restrict c
def Tr.mergeQ(op:Int):Tr->Tr->ao->Tr
 | .leaf b,u,c=>u.chooseQ op b c
 | .node l x y,u,c=>if !bC c l.rev then x.mergeQ op u c else if !bC c l then y.mergeQ op u c else joinQ l (x.mergeQ op u (bg c l)) (y.mergeQ op u (bg c l.rev))
def Y6{b:Bool}:PF GB prog 283 [eU (.leaf b)] (eU (Tr.compl (.leaf b))):=by
 refine fn func283 J J ntmps283 J J (fun C=>?_);refine cl (fu:=⟨0⟩) J qI J<|?_;refine pi 4 J ?_;refine gx J<|cl J qo J<|?_;exact rz J J
def aof{l:aa}{x y:Tr}(ihx:PF GB prog 283 [eU x] (eU (Tr.compl x)))(ihy:PF GB prog 283 [eU y] (eU (Tr.compl y))):PF GB prog 283 [eU (.node l x y)] (eU (Tr.compl (.node l x y))):=by
 refine fn func283 J J ntmps283 J J (fun C=>?_);refine cl (fu:=⟨0⟩) J rC J<|?_;refine rB 4 J ?_;refine gx J<|cl J ihx J<|cl J ihy J<|cl J (zW (l:=l) (x:=x.compl) (y:=y.compl)) J<|?_;exact rz J J
def yL: ∀{t:Tr},PF GB prog 283 [eU t] (eU (Tr.compl t))
 | .leaf _=>Y6
 | .node _ _ _=>aof yL yL
def UJ{op:Int}{b:Bool}{t:Tr}{c:ao}(hb:t.all LB)(ho:t.all aa.ok)(hc:f5 c)(hn:c.length+t.depth<=100000):PF GB prog 241 [vI op, .v (.bool b),eU t, .sl (c.map dt)] (eU (t.chooseQ op b c)):=by
 refine fn func241 J J ntmps241 J J (fun C=>?_);refine br J J J (fun hc10=>?_) (fun hc10=>?_)
 .
  refine br J J J (fun hc10=>?_) (fun hc10=>?_)
  .
   refine bb J J J (fun hc18=>?_) (fun hc18=>?_)
   .
    refine cl J qo J<|?_;exact rz J (by unfold Tr.chooseQ;simp_all [eE]<;>omega)
   .
    refine cl J (ph (by assumption) (by assumption) (by assumption) (by omega)) J<|?_;exact rz J (by unfold Tr.chooseQ;simp_all [eE]<;>omega)
  .
   refine br J J J (fun hc13=>?_) (fun hc13=>?_)
   .
    refine bb J J J (fun hc22=>?_) (fun hc22=>?_)
    .
     refine cl J qo J<|?_;exact rz J (by unfold Tr.chooseQ;simp_all [eE]<;>omega)
    .
     refine bb J J J (fun hc24=>?_) (fun hc24=>?_)
     .
      refine cl J (ph (by assumption) (by assumption) (by assumption) (by omega)) J<|cl J (yL (t:=t.restrict c)) J<|?_;exact rz J (by unfold Tr.chooseQ;simp_all [eE]<;>omega)
     .
      refine cl J (ph (by assumption) (by assumption) (by assumption) (by omega)) J<|?_;exact rz J (by unfold Tr.chooseQ;simp_all [eE]<;>omega)
   .
    refine bb J J J (fun hc24=>?_) (fun hc24=>?_)
    .
     refine cl J (ph (by assumption) (by assumption) (by assumption) (by omega)) J<|cl J (yL (t:=t.restrict c)) J<|?_;exact rz J (by unfold Tr.chooseQ;simp_all [eE]<;>omega)
    .
     refine cl J (ph (by assumption) (by assumption) (by assumption) (by omega)) J<|?_;exact rz J (by unfold Tr.chooseQ;simp_all [eE]<;>omega)
 .
  refine br J J J (fun hc10=>?_) (fun hc10=>?_)
  .
   refine bb J J J (fun hc18=>?_) (fun hc18=>?_)
   .
    refine cl J qo J<|?_;exact rz J (by unfold Tr.chooseQ;simp_all [eE]<;>omega)
   .
    refine cl J (ph (by assumption) (by assumption) (by assumption) (by omega)) J<|?_;exact rz J (by unfold Tr.chooseQ;simp_all [eE]<;>omega)
  .
   refine br J J J (fun hc13=>?_) (fun hc13=>?_)
   .
    refine bb J J J (fun hc22=>?_) (fun hc22=>?_)
    .
     refine cl J qo J<|?_;exact rz J (by unfold Tr.chooseQ;simp_all [eE]<;>omega)
    .
     refine bb J J J (fun hc24=>?_) (fun hc24=>?_)
     .
      refine cl J (ph (by assumption) (by assumption) (by assumption) (by omega)) J<|cl J (yL (t:=t.restrict c)) J<|?_;exact rz J (by unfold Tr.chooseQ;simp_all [eE]<;>omega)
     .
      refine cl J (ph (by assumption) (by assumption) (by assumption) (by omega)) J<|?_;exact rz J (by unfold Tr.chooseQ;simp_all [eE]<;>omega)
   .
    refine bb J J J (fun hc24=>?_) (fun hc24=>?_)
    .
     refine cl J (ph (by assumption) (by assumption) (by assumption) (by omega)) J<|cl J (yL (t:=t.restrict c)) J<|?_;exact rz J (by unfold Tr.chooseQ;simp_all [eE]<;>omega)
    .
     refine cl J (ph (by assumption) (by assumption) (by assumption) (by omega)) J<|?_;exact rz J (by unfold Tr.chooseQ;simp_all [eE]<;>omega)
def anI{b:Bool}{op:Int}{u:Tr}{c:ao}(hbu:u.all LB)(hou:u.all aa.ok)(hc:f5 c)(hn:c.length+u.depth<=100000):PF GB prog 183 [vI op,eU (.leaf b),eU u, .sl (c.map dt)] (eU (Tr.mergeQ op (.leaf b) u c)):=by
 refine fn func183 J J ntmps183 J J (fun C=>?_);refine cl (fu:=⟨0⟩) J qI J<|?_;refine pi 14 J ?_;refine gx J<|cl J (UJ (t:=u) hbu hou hc hn) J<|?_;exact rz J J
def an3{l:aa}{x y:Tr}{op:Int}{u:Tr}{c:ao}(hl:LB l)(hlo:l.ok)(hc:f5 c)(hn:c.length+(Tr.node l x y).depth+u.depth<=100000)(ihx: ∀{c:ao},f5 c->c.length+x.depth+u.depth<=100000->PF GB prog 183 [vI op,eU x,eU u, .sl (c.map dt)] (eU (Tr.mergeQ op x u c)))(ihy: ∀{c:ao},f5 c->c.length+y.depth+u.depth<=100000->PF GB prog 183 [vI op,eU y,eU u, .sl (c.map dt)] (eU (Tr.mergeQ op y u c))):PF GB prog 183 [vI op,eU (.node l x y),eU u, .sl (c.map dt)] (eU (Tr.mergeQ op (.node l x y) u c)):=by
 have hdp:(Tr.node l x y).depth=1+max x.depth y.depth:=J;have hdx:=pX x.depth y.depth;have hdy:=oV x.depth y.depth;have hca:=vt c l;have hcb:=vt c l.rev;refine fn func183 J J ntmps183 J J (fun C=>?_);refine cl (fu:=⟨0⟩) J rC J<|?_;refine rB 14 J ?_;refine gx J<|cl J (Eq (c:=c) (l:=l) hlo hc (by omega)) J<|?_;refine bb J J J (fun hc34=>?_) (fun hc34=>?_)
 .
  refine cl J (ihx hc (by omega)) J<|?_;exact rz J (by rw[Tr.mergeQ,if_pos hc34];rfl)
 .
  refine bb J J J (fun hc45=>?_) (fun hc45=>?_)
  .
   refine cl J (ihy hc (by omega)) J<|?_;exact rz J (by rw[Tr.mergeQ,if_neg (by simp[hc34]),if_pos hc45];rfl)
  .
   refine cl J (ihx (c:=bg c l) (t8 hlo hc) (by omega)) J<|cl J (ihy (c:=bg c l.rev) (t8 hlo.rev hc) (by omega)) J<|cl J JE J<|?_;exact rz J (by rw[Tr.mergeQ,if_neg (by simp[hc34]),if_neg (by simp[hc45])];rfl)
def Fl{op:Int}{u:Tr}(hbu:u.all LB)(hou:u.all aa.ok): ∀{t:Tr} {c:ao},t.all LB->t.all aa.ok->f5 c->c.length+t.depth+u.depth<=100000->PF GB prog 183 [vI op,eU t,eU u, .sl (c.map dt)] (eU (Tr.mergeQ op t u c))
 | .leaf _,_,_,_,hc,hn=>anI hbu hou hc (by simp only[Tr.depth] at hn;omega)
 | .node l x y,c,hb,ho,hc,hn=>an3 hb.1 ho.1 hc hn (fun h1 h2=>Fl hbu hou hb.2.1 ho.2.1 h1 h2) (fun h1 h2=>Fl hbu hou hb.2.2 ho.2.2 h1 h2)
def lnZ:DV:= .ag [vI 0,vI 0, .v (.pointer none),vI 0,vI 0, .v (.pointer none),vI 0,vI 0, .v (.pointer none)]
def um:Option aa->DV
 |some l=> .tp [eG l,vB true]
 |none=> .tp [lnZ,vB false]
def M'{l:aa}(h: ¬l.ok)(hz: ¬(l.a=0/\l.b=0)):decide (rgcd (rgcd (l.a:Rat) (l.b:Rat)) (l.c:Rat)=((1:Int):Rat))=false:=by
 rw[zd,zd];refine decide_eq_false fun e=>h ⟨hz,?_⟩;simp only[iN] at e;have:=nW.1 e;omega
def VB{l:aa}[hl:LB l](ha:l.a=0)(hb:l.b=0):PF GB prog 167 [eL l] (um none):=by
 refine fn func167 J J ntmps167 J J (fun C=>?_);refine cl (fu:=⟨0⟩) J (tu (m:=l.a)) J<|cO J J J<|cl (fu:=⟨0⟩) J (tu (m:=l.b)) J<|cO J J J<|cl (fu:=⟨0⟩) J (tu (m:=l.c)) J<|?_;refine cO J J J<|cl J (tC (m:=l.a)) J<|cl J (tC (m:=l.b)) J<|cl J (tC (m:=l.c)) J<|cl (fu:=⟨0⟩) J (wU (q:=(l.a:Rat))) J<|?_;refine dm J (by show some (decide _)=some true;rw[ha];rfl) J<|cl (fu:=⟨0⟩) J (wU (q:=(l.b:Rat))) J<|dm J (by show some (decide _)=some true;rw[hb];rfl) J<|?_;exact rz J J
def Xg{l:aa}[hl:LB l](hz: ¬(l.a=0/\l.b=0))(ho: ¬l.ok):PF GB prog 167 [eL l] (um none):=by
 refine fn func167 J J ntmps167 J J (fun C=>?_);refine cl (fu:=⟨0⟩) J (tu (m:=l.a)) J<|cO J J J<|cl (fu:=⟨0⟩) J (tu (m:=l.b)) J<|cO J J J<|cl (fu:=⟨0⟩) J (tu (m:=l.c)) J<|?_;refine cO J J J<|cl J (tC (m:=l.a)) J<|cl J (tC (m:=l.b)) J<|cl J (tC (m:=l.c)) J<|cl (fu:=⟨0⟩) J (wU (q:=(l.a:Rat))) J<|?_;refine kG (fu2:=⟨4⟩) J J J J (fun hg35=>?_) (fun hg35=>?_)
 .
  have ha:l.a=0:=cN.1 hg35;refine cl (fu:=⟨1⟩) J (wU (q:=(l.b:Rat))) J<|cO J (by first|rfl|(show some (decide _)=some false;rw[decide_eq_false (fun e=>hz ⟨ha,cN.1 e⟩)])) J<|?_;refine cl J (vd (p:=(l.a:Rat)) (q:=(l.b:Rat))) J<|cl J (vd (p:=rgcd l.a l.b) (q:=(l.c:Rat))) J<|cl J (qp (m:=1) (by decide)) J<|?_;refine cl (fu:=⟨0⟩) J (DG (p:=rgcd (rgcd l.a l.b) l.c) (q:=((1:Int):Rat))) J<|dm J (by show some (!decide _)=some true;rw[M' ho hz];rfl) J<|?_;exact rz J J
 .
  refine cO J (by first|rfl|(show some (decide _)=some false;rw[decide_eq_false (fun e=>hz ⟨ha,cN.1 e⟩)])) J<|cl J (vd (p:=(l.a:Rat)) (q:=(l.b:Rat))) J<|?_;refine cl J (vd (p:=rgcd l.a l.b) (q:=(l.c:Rat))) J<|cl J (qp (m:=1) (by decide)) J<|cl (fu:=⟨0⟩) J (DG (p:=rgcd (rgcd l.a l.b) l.c) (q:=((1:Int):Rat))) J<|?_;refine dm J (by show some (!decide _)=some true;rw[M' ho hz];rfl) J<|?_;exact rz J J
def aA7{l:aa}[hl:LB l][Decidable l.ok]:PF GB prog 167 [eL l] (um (if l.ok then some l else none)):=by
 split
 ·rename_i h;exact aFq h
 ·rename_i h
  by_cases hz:l.a=0/\l.b=0
  ·exact VB hz.1 hz.2
  ·exact Xg hz h
def l9(n:Bool)(ds:List Nat):Prop:=d4 ds/\(n=true->0<ds.length)
instance (n:Bool) (ds:List Nat):Decidable (l9 n ds):=inferInstanceAs (Decidable (_/\_))
def xj{neg:Bool}{ds:List Nat}(h:bp ds/\ds.length<=3):PF GB prog 221 [.ag [.v (.bool neg),fA ds]] (vB (decide (l9 neg ds))):=QA h.1 (by have:=h.2;omega)
structure RL where
 na:Bool
 da:List Nat
 nb:Bool
 db:List Nat
 nc:Bool
 dc:List Nat
def RL.d(r:RL):DV:= .ag [.v (.bool r.na),fA r.da, .v (.bool r.nb),fA r.db, .v (.bool r.nc),fA r.dc]
def o4(n:Bool)(ds:List Nat):Int:=if n then-(dv ds:Int) else dv ds
def RL.l(r:RL):aa:=⟨o4 r.na r.da,o4 r.nb r.db,o4 r.nc r.dc⟩
def RL.nm(r:RL):Prop:=l9 r.na r.da/\l9 r.nb r.db/\l9 r.nc r.dc
instance (l:aa):Decidable l.ok:=inferInstanceAs (Decidable (_/\_))
instance (r:RL):Decidable r.nm:=inferInstanceAs (Decidable (_/\_/\_))
def RL.ln(r:RL):Option aa:=if r.nm/\r.l.ok then some r.l else none
structure RL.sm (r:RL):Prop where
 a:bp r.da/\r.da.length<=3
 b:bp r.db/\r.db.length<=3
 c:bp r.dc/\r.dc.length<=3
def Kn(n:Bool)(ds:List Nat):(o4 n ds).natAbs=dv ds:=by unfold o4;cases n<;>simp
def EF{n:Bool}{ds:List Nat}(hd:bp ds)(h:l9 n ds):decide (o4 n ds<0)=n:=by
 unfold o4
 cases n with
 |false=>simp
 |true=>
  have h0:0<dv ds:=by
   refine iM fun e=>?_;have:=xY hd h.1;rw[e,yr] at this;have h2:=h.2 J;rw[<-this] at h2;exact absurd h2 (by decide)
  simp only[if_true,decide_eq_true_eq];omega
def RL.eL{r:RL}(s:r.sm)(h:r.nm):r.d=Go.Sx.eL r.l:=by
 unfold RL.d Go.Sx.eL RL.l;simp only[Kn,EF s.a.1 h.1,EF s.b.1 h.2.1,EF s.c.1 h.2.2,dN,xY s.a.1 h.1.1,xY s.b.1 h.2.1.1,xY s.c.1 h.2.2.1];rfl
theorem RL.lb{r:RL}(s:r.sm):LB r.l:=by
 have key: ∀(n:Bool) (ds:List Nat),bp ds/\ds.length<=3->(o4 n ds).natAbs<2^96:=fun n ds h=>by
  rw[Kn];refine dJ (jx h.1) ?_;rw[show(2:Nat)^96=4294967296^3 by decide];exact bY (by decide) h.2
 exact⟨key _ _ s.a,key _ _ s.b,key _ _ s.c⟩
def Ud{r:RL}(s:r.sm)(h: ¬l9 r.na r.da):PF GB prog 167 [r.d] (um none):=by
 refine fn func167 J J ntmps167 J J (fun C=>?_);refine cl (fu:=⟨0⟩) J (xj (neg:=r.na) (ds:=r.da) s.a) J<|dm J (by show some (!decide _)=some true;rw[decide_eq_false h];rfl) J<|?_;exact rz J J
def ay8{r:RL}(s:r.sm)(h1:l9 r.na r.da)(h: ¬l9 r.nb r.db):PF GB prog 167 [r.d] (um none):=by
 refine fn func167 J J ntmps167 J J (fun C=>?_);refine cl (fu:=⟨0⟩) J (xj (neg:=r.na) (ds:=r.da) s.a) J<|cO J (by show some (!decide _)=some false;rw[decide_eq_true h1];rfl) J<|cl (fu:=⟨0⟩) J (xj (neg:=r.nb) (ds:=r.db) s.b) J<|?_;refine dm J (by show some (!decide _)=some true;rw[decide_eq_false h];rfl) J<|?_;exact rz J J
def ayA{r:RL}(s:r.sm)(h1:l9 r.na r.da)(h2:l9 r.nb r.db)(h: ¬l9 r.nc r.dc):PF GB prog 167 [r.d] (um none):=by
 refine fn func167 J J ntmps167 J J (fun C=>?_);refine cl (fu:=⟨0⟩) J (xj (neg:=r.na) (ds:=r.da) s.a) J<|cO J (by show some (!decide _)=some false;rw[decide_eq_true h1];rfl) J<|cl (fu:=⟨0⟩) J (xj (neg:=r.nb) (ds:=r.db) s.b) J<|?_;refine cO J (by show some (!decide _)=some false;rw[decide_eq_true h2];rfl) J<|cl (fu:=⟨0⟩) J (xj (neg:=r.nc) (ds:=r.dc) s.c) J<|dm J (by show some (!decide _)=some true;rw[decide_eq_false h];rfl) J<|?_;exact rz J J
def KS{r:RL}(s:r.sm):PF GB prog 167 [r.d] (um r.ln):=by
 by_cases h1:l9 r.na r.da
 ·by_cases h2:l9 r.nb r.db
  ·by_cases h3:l9 r.nc r.dc
   ·haveI:=RL.lb s
    rw[RL.eL s ⟨h1,h2,h3⟩,show r.ln=if r.l.ok then some r.l else none by unfold RL.ln;simp[show r.nm from⟨h1,h2,h3⟩]];exact aA7
   ·rw[show r.ln=none from if_neg fun e=>h3 e.1.2.2]
    exact ayA s h1 h2 h3
  ·rw[show r.ln=none from if_neg fun e=>h2 e.1.2.1]
   exact ay8 s h1 h2
 ·rw[show r.ln=none from if_neg fun e=>h1 e.1.1]
  exact Ud s h1
def lH(n:Nat)(f:Nat->Bool):List Value:=(List.range n).map fun j=> .bool (f j)
def lj(f:Nat->Bool)(i:Nat):Nat->Bool:=fun j=>f j||Nat.beq j i
def Ft(n:Nat)(f:Nat->Bool):(lH n f).length=n:=by simp[lH]
def CK{n i:Nat}{f:Nat->Bool}{b:Bool}(h:i<n)(hf:f i=b):(lH n f)[i]? =some (.bool b):=by simp[lH,h,hf]
def An{f:Nat->Bool}{i j:Nat}(e:j≠i):lj f i j=f j:=by
 unfold lj
 cases hb:Nat.beq j i with
 |false=>rw[Bool.or_false]
 |true=>exact absurd (aR hb) e
def O0{f:Nat->Bool}{i:Nat}:lj f i i=true:=by
 unfold lj;rw[oS,Bool.or_true]
def P2(n i:Nat)(f:Nat->Bool):(lH n f).set i (.bool true)=lH n (lj f i):=by
 apply lZ;intro j;rw[mJ];simp only[lH,aK,List.length_range,cV];by_cases hj:j<n
 ·rw[sM hj]
  simp only[kW];by_cases e:i=j
  ·subst e;simp[hj,O0]
  ·rw[An (fun h=>e h.symm)];simp[e]
 ·rw[dX (by simpa using hj)]
  by_cases e:i=j
  ·subst e;simp[hj]
  ·simp[e]
def ap4(n:Nat):de (.bool false) n=lH n (fun _=>false):=by
 apply lZ;intro j;by_cases hj:j<n
 ·rw[CK hj J]
  unfold de;rw[Jm (aA (.bool false)) n j (by simpa[aA] using hj)];simp[aA,Nat.mod_one]
 ·rw[dX (by rw[o5];simp[aA];omega),dX (by rw[Ft];omega)]
structure RN where
 g:RL
 l:Int
 r:Int
def RN.d(n:RN):DV:= .ag [.v (.bool n.g.na),fA n.g.da, .v (.bool n.g.nb),fA n.g.db, .v (.bool n.g.nc),fA n.g.dc, .v (.int .i64 n.l), .v (.int .i64 n.r)]
structure RS where
 f:Nat->Bool
 c:Nat
 b:Bool
inductive RR (ns:List RN):Int->RS->Tr->RS->Prop where
 |leaf (b:Bool) (s:RS):RR ns (r5 b) s (.leaf b) s
 |bad (rt:Int) (s:RS) (h1:rt≠ -1) (h2:rt≠ -2) (h:rt<0\/(ns.length:Int)<=rt\/(∃k:Nat,rt=k/\k<ns.length/\s.f k=true)):RR ns rt s (.leaf false) ⟨s.f,s.c,true⟩
 |line (k:Nat) (n:RN) (s:RS) (h:ns[k]? =some n) (hf:s.f k=false) (hl:n.g.ln=none):RR ns (k:Int) s (.leaf false) ⟨lj s.f k,s.c+1,true⟩
 |node (k:Nat) (n:RN) (l:aa) (s s2 s3:RS) (x y:Tr) (h:ns[k]? =some n) (hf:s.f k=false) (hl:n.g.ln=some l) (h1:RR ns n.l ⟨lj s.f k,s.c+1,s.b⟩ x s2) (h2:RR ns n.r s2 y s3):RR ns (k:Int) s (.node l x y) s3
def RR.mono{ns:List RN}{rt:Int}{s s':RS}{t:Tr}(h:RR ns rt s t s'):s.c<=s'.c:=by
 induction h with
 |leaf=>exact aN _
 |bad=>exact aN _
 |line=>exact Nat.le_succ _
 |node k n l s s2 s3 x y h hf hl h1 h2 i1 i2=>simp only at i1;omega
def xC{G:Gh}{q:Rat}{v:Value}(h:Is G (co q) v): ∃p,v= .pointer p:=by
 rcases wo.1 h with⟨_,h⟩|⟨_,h⟩
 ·exact⟨_,h⟩
 ·obtain⟨b,m,h,_⟩:=oP.1 h;exact⟨_,h⟩
def VD{G:Gh}{l:aa}{v:Value}(h:Is G (eG l) v): ∃n1 d1 p1 n2 d2 p2 n3 d3 p3,v= .agg ⟨[.int .i64 n1, .int .i64 d1, .pointer p1, .int .i64 n2, .int .i64 d2, .pointer p2, .int .i64 n3, .int .i64 d3, .pointer p3]⟩:=by
 obtain⟨m,rfl,g⟩:=d7.1 h;clear h;obtain⟨v1,m,rfl,h1,h⟩:=aH.1 g;obtain⟨v2,m,rfl,h2,h⟩:=aH.1 h;obtain⟨v3,m,rfl,h3,h⟩:=aH.1 h;obtain⟨v4,m,rfl,h4,h⟩:=aH.1 h;obtain⟨v5,m,rfl,h5,h⟩:=aH.1 h;obtain⟨v6,m,rfl,h6,h⟩:=aH.1 h;obtain⟨v7,m,rfl,h7,h⟩:=aH.1 h;obtain⟨v8,m,rfl,h8,h⟩:=aH.1 h;obtain⟨v9,m,rfl,h9,h⟩:=aH.1 h;rw[er] at h;subst h;obtain⟨_,rfl⟩:=xC h3;obtain⟨_,rfl⟩:=xC h6;obtain⟨_,rfl⟩:=xC h9;rw[aD.1 h1,aD.1 h2,aD.1 h4,aD.1 h5,aD.1 h7,aD.1 h8];exact⟨_,_,_,_,_,_,_,_,_,J⟩
def Pv{G:Gh}{o:Option aa}{v:Value}(h:Is G (um o) v): ∃n1 d1 p1 n2 d2 p2 n3 d3 p3,v= .tuple #[.agg ⟨[.int .i64 n1, .int .i64 d1, .pointer p1, .int .i64 n2, .int .i64 d2, .pointer p2, .int .i64 n3, .int .i64 d3, .pointer p3]⟩, .bool o.isSome]/\
  ∀l,o=some l->Is G (eG l) (.agg ⟨[.int .i64 n1, .int .i64 d1, .pointer p1, .int .i64 n2, .int .i64 d2, .pointer p2, .int .i64 n3, .int .i64 d3, .pointer p3]⟩):=by
 cases o with
 |some l=>
  obtain⟨m,rfl,g⟩:=jt.1 h;obtain⟨v1,m,rfl,h1,h⟩:=aH.1 g;obtain⟨v2,m,rfl,h2,h⟩:=aH.1 h;rw[er] at h;subst h;obtain⟨n1,d1,p1,n2,d2,p2,n3,d3,p3,rfl⟩:=VD h1;rw[aD.1 h2];exact⟨n1,d1,p1,n2,d2,p2,n3,d3,p3,J,fun k e=>by cases e;exact h1⟩
 |none=>
  obtain⟨m,rfl,g⟩:=jt.1 h;obtain⟨v1,m,rfl,h1,h⟩:=aH.1 g;obtain⟨v2,m,rfl,h2,h⟩:=aH.1 h;rw[er] at h;subst h;clear g h;obtain⟨m,rfl,g⟩:=d7.1 h1;obtain⟨w1,m,rfl,k1,h⟩:=aH.1 g;obtain⟨w2,m,rfl,k2,h⟩:=aH.1 h;obtain⟨w3,m,rfl,k3,h⟩:=aH.1 h;obtain⟨w4,m,rfl,k4,h⟩:=aH.1 h;obtain⟨w5,m,rfl,k5,h⟩:=aH.1 h;obtain⟨w6,m,rfl,k6,h⟩:=aH.1 h;obtain⟨w7,m,rfl,k7,h⟩:=aH.1 h;obtain⟨w8,m,rfl,k8,h⟩:=aH.1 h;obtain⟨w9,m,rfl,k9,h⟩:=aH.1 h;rw[er] at h;subst h;rw[aD.1 k1,aD.1 k2,aD.1 k3,aD.1 k4,aD.1 k5,aD.1 k6,aD.1 k7,aD.1 k8,aD.1 k9];rw[aD.1 h2];exact⟨_,_,_,_,_,_,_,_,_,J,fun k e=>by cases e⟩
def MG{G:Gh}{n:RN}{v:Value}(h:Is G n.d v): ∃x1 x2 x3:SV,v= .agg ⟨[.bool n.g.na, .slice x1.a x1.n x1.c, .bool n.g.nb, .slice x2.a x2.n x2.c, .bool n.g.nc, .slice x3.a x3.n x3.c, .int .i64 n.l, .int .i64 n.r]⟩/\
  Is G n.g.d (.agg ⟨[.bool n.g.na, .slice x1.a x1.n x1.c, .bool n.g.nb, .slice x2.a x2.n x2.c, .bool n.g.nc, .slice x3.a x3.n x3.c]⟩):=by
 obtain⟨m,rfl,g⟩:=d7.1 h;clear h;obtain⟨v1,m,rfl,h1,h⟩:=aH.1 g;obtain⟨v2,m,rfl,h2,h⟩:=aH.1 h;obtain⟨v3,m,rfl,h3,h⟩:=aH.1 h;obtain⟨v4,m,rfl,h4,h⟩:=aH.1 h;obtain⟨v5,m,rfl,h5,h⟩:=aH.1 h;obtain⟨v6,m,rfl,h6,h⟩:=aH.1 h;obtain⟨v7,m,rfl,h7,h⟩:=aH.1 h;obtain⟨v8,m,rfl,h8,h⟩:=aH.1 h;rw[er] at h;subst h;obtain⟨_,x1,_,rfl,_,_⟩:=iH.1 (id h2);obtain⟨_,x2,_,rfl,_,_⟩:=iH.1 (id h4);obtain⟨_,x3,_,rfl,_,_⟩:=iH.1 (id h6)
 cases aD.1 h1;cases aD.1 h3;cases aD.1 h5;cases aD.1 h7;cases aD.1 h8
 exact⟨x1,x2,x3,J,d7.2 ⟨_,J, .cons h1 (.cons h2 (.cons h3 (.cons h4 (.cons h5 (.cons h6 .nil)))))⟩⟩
def qt{G:Gh}{t:Tr}{v:Value}(h:Is G (eU t) v): ∃p,v= .pointer p:=by
 obtain⟨b,m,h,_⟩:=oP.1 h;exact⟨_,h⟩
def PF.fn0{P:Program}{f:FuncId}{ds:List DV}{r:DV}(h: ∀{GB:Gh},PF GB P f ds r){G:Gh}{vs:List Value}(hv:IsLs G ds vs):Fn P f vs G (fun v G'=>Is G' r v):=h (GB:=G) G vs (bD.refl G) hv
abbrev Rn (x:SV) (ns:List RN) (A:Gh):Prop:= ∃es,d8 A 8 x es/\IsLs A (ns.map RN.d) es
def aA3{A:Gh}{ns:List RN}{x:SV}(hx:Rn x ns A)(hs: ∀n∈ns,n.g.sm)(hn:ns.length<=1000000){rt:Int}{s s':RS}{t:Tr}(h:RR ns rt s t s'): ∀{G:Gh} {rb sb:Nat} {lo lo2:Bool},[GL A G]->s'.c<=1000000->
  jI prog 127 [.pointer (some ⟨rb,0,none⟩), .int .i64 rt] [⟨rb,[.slice x.a x.n x.c, .slice (some ⟨sb,0,none⟩) ns.length ns.length, .int .i64 s.c, .bool s.b],235,lo⟩,⟨sb,lH ns.length s.f,4,lo2⟩] G
   (fun v css G'=> ∃p,v= .pointer p/\Is G' (eU t) (.pointer p)/\css=[[.slice x.a x.n x.c, .slice (some ⟨sb,0,none⟩) ns.length ns.length, .int .i64 s'.c, .bool s'.b],lH ns.length s'.f]):=by
 obtain⟨es,hx,hes⟩:=hx;have hel:=hes.len;rw[aK] at hel;have hlen:=hx.len;rw[hel] at hlen;obtain⟨xa,xn,xc⟩:=x;simp only[] at hlen;subst hlen
 induction h with
 |leaf bb s=>
  intro G rb sb lo lo2 _ hc;refine jI.intro func127 J J ntmps127 J ?_;intro C _ _;show St C _ _ [⟨rb,_,_,false⟩,⟨sb,_,_,false⟩] _ _
  cases bb
  case true=>
   refine sR<|sa J J<|zE<|bt<|dE<|sR<|sm J J<|sy (iO J J) J<|sm J J<|ss J J J J<|ss J J J J<|?_;refine sy (r8 J J) J<|sa J J<|zE<|n7 J<|sR<|sm J J<|sy (iO J J) J<|?_;refine sc (zC J J (PF.fn0 (qo (b:=true)) (.cons (aD.2 J) .nil)) J ?_);rintro _ G1 _ hp;obtain⟨p,rfl⟩:=qt hp;refine sa J J<|zE<|cH<|?_;exact sg (css:=[_,_]) (.tmp J .nil) J _ (List.Perm.refl _) (List.Sublist.refl _) ⟨p,J,hp,J⟩
  refine sR<|sa J J<|zE<|bt<|dE<|sR<|sm J J<|sy (iO J J) J<|sm J J<|bG J J (f6 J) J<|bG J J (iO J J) J<|?_;refine sy (l8 J J) J<|sa J J<|zE<|n7 J<|sR<|sm J J<|sy (iO J J) J<|?_;refine sc (zC J J (PF.fn0 (qo (b:=false)) (.cons (aD.2 J) .nil)) J ?_);rintro _ G1 _ hp;obtain⟨p,rfl⟩:=qt hp;refine sa J J<|zE<|cH<|?_;exact sg (css:=[_,_]) (.tmp J .nil) J _ (List.Perm.refl _) (List.Sublist.refl _) ⟨p,J,hp,J⟩
 |bad rt s h1 h2 h=>
  intro G rb sb lo lo2 _ hc;refine jI.intro func127 J J ntmps127 J ?_;intro C _ _;show St C _ [(0, .pointer (some ⟨rb,0,none⟩)),(1, .int .i64 rt)] [⟨rb,[.slice xa ns.length xc, .slice (some ⟨sb,0,none⟩) ns.length ns.length, .int .i64 s.c, .bool s.b],_,false⟩,⟨sb,lH ns.length s.f,_,false⟩] _ _;refine sR<|sa J J<|zE<|bt<|dE<|sR<|sm J J<|sy (iO J J) J<|sm J J<|?_;refine oh 12 J (fun hg=>absurd hg (by omega)) (fun hg=>?_);refine bG J J (f6 J) J<|bG J J (iO J J) J<|sy (l8 J J) J<|sa J J<|zE<|?_;refine gm J (fun hc=>absurd hc (by omega)) (fun _=>?_);refine sR<|sm J J<|sy (jh J J) J<|sm J J<|?_;refine oh 22 J (fun hg=>?_) (fun hg=>?_)
  ·refine ss J J J J<|ss J J J J<|ss J J J J<|ss J J J J<|ss J J J J<|ss J J J J<|ss J J J J<|sy (r8 J J) J<|sm J J<|ss J J J J<|ss J J J J<|?_
   refine ss J J J J<|ss J J J J<|ss J J J J<|ss J J J J<|ss J J J J<|sy (r8 J J) J<|sa J J<|zE<|n7 J<|bt<|?_;refine dB<|sm J J<|sn J J<|sf J J<|?_;refine sc (qr J J J (.hd ..) (nb J) J J ?_);refine zE<|sR<|?_;refine sc (zC J J (PF.fn0 (qo (b:=false)) (.cons (aD.2 J) .nil)) J ?_);rintro _ G1 _ hp;obtain⟨p,rfl⟩:=qt hp;refine sa J J<|zE<|cH<|?_;exact sg (css:=[_,_]) (.tmp J .nil) J _ (List.Perm.refl _) (List.Sublist.refl _) ⟨p,J,hp,J⟩
  refine bG J J (f6 J) J<|bG J J (f6 J) J<|bG J J (kc J) J<|bG J J (oe J) J<|bG J J (lA J J) J<|bG J J (pH J) J<|bG J J (uX J J) J<|sy (l8 J J) J<|sm J J<|?_;refine oh 31 J (fun hg=>?_) (fun hg=>?_)
  ·refine ss J J J J<|ss J J J J<|ss J J J J<|ss J J J J<|ss J J J J<|ss J J J J<|ss J J J J<|?_
   refine sy (r8 J J) J<|sa J J<|zE<|n7 J<|sR<|sm J J<|sn J J<|sf J J<|?_;refine sc (qr J J J (.hd ..) (nb J) J J ?_);refine zE<|sR<|?_;refine sc (zC J J (PF.fn0 (qo (b:=false)) (.cons (aD.2 J) .nil)) J ?_);rintro _ G1 _ hp;obtain⟨p,rfl⟩:=qt hp;refine sa J J<|zE<|cH<|?_;exact sg (css:=[_,_]) (.tmp J .nil) J _ (List.Perm.refl _) (List.Sublist.refl _) ⟨p,J,hp,J⟩
  obtain⟨k,rfl,hk,hf⟩: ∃k:Nat,rt=k/\k<ns.length/\s.f k=true:=by
   rcases h with h|h|h
   ·omega
   ·exact absurd h hg
   ·exact h
  refine bG J J (f6 J) J<|bG J J (kc J) J<|bG J J (oe J) J<|bG J J (lA J J) J<|bG J J (f6 J) J<|bG J J (fq J J (by omega) (by omega)) J<|?_;refine bG J J (lA (v:= .bool true) J (by rw[aM,iX];exact CK hk hf)) J<|sy (l8 J J) J<|sa J J<|zE<|n7 J<|?_;refine sR<|sm J J<|sn J J<|sf J J<|?_;refine sc (qr J J J (.hd ..) (nb J) J J ?_);refine zE<|sR<|?_;refine sc (zC J J (PF.fn0 (qo (b:=false)) (.cons (aD.2 J) .nil)) J ?_);rintro _ G1 _ hp;obtain⟨p,rfl⟩:=qt hp;refine sa J J<|zE<|cH<|?_;exact sg (css:=[_,_]) (.tmp J .nil) J _ (List.Perm.refl _) (List.Sublist.refl _) ⟨p,J,hp,J⟩
 |line base n s h0 hfb hl=>
  intro G rb sb lo lo2 _ hc;have hbn:base<ns.length:=(aS.1 h0).1;simp only at hc;obtain⟨z,hzi,hz⟩:=hes.get (i:=base) (d:=n.d) (by rw[cV,h0];rfl);obtain⟨x1,x2,x3,rfl,hzg⟩:=MG hz;refine jI.intro func127 J J ntmps127 J ?_;intro C _ _;show St C _ [(0, .pointer (some ⟨rb,0,none⟩)),(1, .int .i64 (base:Int))] [⟨rb,[.slice xa ns.length xc, .slice (some ⟨sb,0,none⟩) ns.length ns.length, .int .i64 s.c, .bool s.b],_,false⟩,⟨sb,lH ns.length s.f,_,false⟩] _ _;refine sR<|sa J J<|zE<|bt<|dE<|sR<|sm J J<|sy (iO J J) J<|sm J J<|?_;refine oh 12 J (fun hg=>absurd hg (by omega)) (fun hg=>?_);refine bG J J (f6 J) J<|bG J J (iO J J) J<|sy (l8 J J) J<|sa J J<|zE<|?_;refine gm J (fun hc=>absurd hc (by omega)) (fun _=>?_);refine sR<|sm J J<|sy (jh J J) J<|sm J J<|?_;refine oh 22 J (fun hg=>absurd hg (by omega)) (fun hg=>?_);refine bG J J (f6 J) J<|bG J J (f6 J) J<|bG J J (kc J) J<|bG J J (oe J) J<|bG J J (lA J J) J<|bG J J (pH J) J<|bG J J (uX J J) J<|sy (l8 J J) J<|sm J J<|?_;refine oh 31 J (fun hg=>absurd hg (by omega)) (fun hg=>?_);refine bG J J (f6 J) J<|bG J J (kc J) J<|bG J J (oe J) J<|bG J J (lA J J) J<|bG J J (f6 J) J<|bG J J (fq J J (by omega) (by omega)) J<|?_;refine bG J J (lA (v:= .bool false) J (by rw[aM,iX];exact CK hbn hfb)) J<|sy (l8 J J) J<|sa J J<|zE<|td J<|zK<|?_;refine sR<|sm J J<|sn J J<|sf J J<|oF J J J<|sm J J<|sy (fq J J (by omega) (by omega)) J<|?_;refine sc (sO J J (.tl _ _ _ _ _ _ _ _ (.hd ..)) (by rw[Ft,aM,iX];exact hbn) J J ?_);rw[aM,iX,P2];refine zE<|sR<|sm J J<|sn J J<|sf J J<|oF J J J<|sy (dC J J) J<|sn J J<|sf J J<|?_
  refine sc (qr J J J (by repeat (first|exact .hd .. |apply f8.tl)) (nb J) J J ?_);rw[show(s.c:Int)+1=((s.c+1:Nat):Int) by omega];refine zE<|sR<|sm J J<|sn J J<|sf J J<|oF J J J<|sm J J<|sy (EL (z:=⟨xa,ns.length,xc⟩) hx J J (by omega) (by show(base:Int)<(ns.length:Int);omega)) J<|?_;rw[aM];refine sy (PD (i:=base) hx J (by rw[hel];exact hbn) hzi) J<|?_;refine sc (tN J ?_);intro b5;refine sc (zU J J J (by repeat (first|exact .hd .. |apply f8.tl)) J (nb J) J J ?_);refine zE<|sR<|sf J J<|HN J J J<|?_;refine sc (zC J J (PF.fn0 (KS (hs n (aL h0))) (.cons (hzg.up GL.le) .nil)) J ?_);rintro _ G6 _ hw;rw[hl] at hw;obtain⟨n1,d1,p1,n2,d2,p2,n3,d3,p3,rfl,hw⟩:=Pv hw;refine sm J J<|sx J J J<|sx J J J<|?_;refine sc (tN J ?_);intro b6;refine sc (zU J J J (by repeat (first|exact .hd .. |apply f8.tl)) J (nb J) J J ?_);refine sa J J<|zE<|bt<|sR<|sm J J<|sy (uR J) J<|zE<|n7 J<|?_;refine sR<|sm J J<|sn J J<|sf J J<|?_;refine sc (qr J J J (by repeat (first|exact .hd .. |apply f8.tl)) (nb J) J J ?_);refine zE<|sR<|?_;refine sc (zC J J (PF.fn0 (qo (b:=false)) (.cons (aD.2 J) .nil)) J ?_);rintro _ G7 _ hp;obtain⟨p,rfl⟩:=qt hp;refine sa J J<|zE<|cH<|?_;exact sg (css:=[_,_]) (.tmp J .nil) J _ (jM (l₁:=[_,_]) (l₂:=[_,_])) (.cons_cons _ (.cons_cons _ (kM _))) ⟨p,J,hp,J⟩
 |node base n l s s2 s3 tx ty h0 hfb hl h1 h2 ih1 ih2=>
  intro G rb sb lo lo2 _ hc;have hbn:base<ns.length:=(aS.1 h0).1;have hm1:=h1.mono;have hm2:=h2.mono;simp only at hm1;obtain⟨z,hzi,hz⟩:=hes.get (i:=base) (d:=n.d) (by rw[cV,h0];rfl);obtain⟨x1,x2,x3,rfl,hzg⟩:=MG hz;refine jI.intro func127 J J ntmps127 J ?_;intro C _ _;show St C _ [(0, .pointer (some ⟨rb,0,none⟩)),(1, .int .i64 (base:Int))] [⟨rb,[.slice xa ns.length xc, .slice (some ⟨sb,0,none⟩) ns.length ns.length, .int .i64 s.c, .bool s.b],_,false⟩,⟨sb,lH ns.length s.f,_,false⟩] _ _;refine sR<|sa J J<|zE<|bt<|dE<|sR<|sm J J<|sy (iO J J) J<|sm J J<|?_;refine oh 12 J (fun hg=>absurd hg (by omega)) (fun hg=>?_);refine bG J J (f6 J) J<|bG J J (iO J J) J<|sy (l8 J J) J<|sa J J<|zE<|?_;refine gm J (fun hc=>absurd hc (by omega)) (fun _=>?_);refine sR<|sm J J<|sy (jh J J) J<|sm J J<|?_;refine oh 22 J (fun hg=>absurd hg (by omega)) (fun hg=>?_);refine bG J J (f6 J) J<|bG J J (f6 J) J<|bG J J (kc J) J<|bG J J (oe J) J<|bG J J (lA J J) J<|bG J J (pH J) J<|bG J J (uX J J) J<|sy (l8 J J) J<|sm J J<|?_;refine oh 31 J (fun hg=>absurd hg (by omega)) (fun hg=>?_);refine bG J J (f6 J) J<|bG J J (kc J) J<|bG J J (oe J) J<|bG J J (lA J J) J<|bG J J (f6 J) J<|bG J J (fq J J (by omega) (by omega)) J<|?_;refine bG J J (lA (v:= .bool false) J (by rw[aM,iX];exact CK hbn hfb)) J<|sy (l8 J J) J<|sa J J<|zE<|td J<|zK<|?_;refine sR<|sm J J<|sn J J<|sf J J<|oF J J J<|sm J J<|sy (fq J J (by omega) (by omega)) J<|?_;refine sc (sO J J (.tl _ _ _ _ _ _ _ _ (.hd ..)) (by rw[Ft,aM,iX];exact hbn) J J ?_);rw[aM,iX,P2]
  refine zE<|sR<|sm J J<|sn J J<|sf J J<|oF J J J<|sy (dC J J) J<|sn J J<|sf J J<|?_;refine sc (qr J J J (by repeat (first|exact .hd .. |apply f8.tl)) (nb J) J J ?_);rw[show(s.c:Int)+1=((s.c+1:Nat):Int) by omega];refine zE<|sR<|sm J J<|sn J J<|sf J J<|oF J J J<|sm J J<|sy (EL (z:=⟨xa,ns.length,xc⟩) hx J J (by omega) (by show(base:Int)<(ns.length:Int);omega)) J<|?_;rw[aM];refine sy (PD (i:=base) hx J (by rw[hel];exact hbn) hzi) J<|?_;refine sc (tN J ?_);intro b5;refine sc (zU J J J (by repeat (first|exact .hd .. |apply f8.tl)) J (nb J) J J ?_);refine zE<|sR<|sf J J<|HN J J J<|?_;refine sc (zC J J (PF.fn0 (KS (hs n (aL h0))) (.cons (hzg.up GL.le) .nil)) J ?_);rintro _ G6 _ hw;rw[hl] at hw;obtain⟨n1,d1,p1,n2,d2,p2,n3,d3,p3,rfl,hw'⟩:=Pv hw;replace hw:=hw' l J;refine sm J J<|sx J J J<|sx J J J<|?_;refine sc (tN J ?_);intro b6;refine sc (zU J J J (by repeat (first|exact .hd .. |apply f8.tl)) J (nb J) J J ?_);refine sa J J<|zE<|bt<|sR<|sm J J<|sy (uR J) J<|zE<|td J<|zK<|?_;refine sR<|sm J J<|sf J J<|oF J J J<|?_;have hrp:=ih1 (G:=G6) (rb:=rb) (sb:=sb) (lo:=false) (lo2:=false) (by omega);refine sc (BO J J (jM (l₁:=[_,_]) (l₂:=[_,_])) hrp J ?_);rintro _ css G7 _ _ ⟨q1,rfl,hp1,rfl⟩;show St C _ _ [⟨rb,[.slice xa ns.length xc, .slice (some ⟨sb,0,none⟩) ns.length ns.length, .int .i64 s2.c, .bool s2.b],235,false⟩,⟨sb,lH ns.length s2.f,4,false⟩,⟨b6,[.int .i64 n1, .int .i64 d1, .pointer p1, .int .i64 n2, .int .i64 d2, .pointer p2, .int .i64 n3, .int .i64 d3, .pointer p3],108,true⟩,⟨b5,[.bool n.g.na, .slice x1.a x1.n x1.c, .bool n.g.nb, .slice x2.a x2.n x2.c, .bool n.g.nc, .slice x3.a x3.n x3.c, .int .i64 n.l, .int .i64 n.r],182,true⟩] _ _
  refine sa J J<|zE<|bt<|?_;refine yg [⟨b6,[.int .i64 n1, .int .i64 d1, .pointer p1, .int .i64 n2, .int .i64 d2, .pointer p2, .int .i64 n3, .int .i64 d3, .pointer p3],108,true⟩,⟨b5,[.bool n.g.na, .slice x1.a x1.n x1.c, .bool n.g.nb, .slice x2.a x2.n x2.c, .bool n.g.nc, .slice x3.a x3.n x3.c, .int .i64 n.l, .int .i64 n.r],182,true⟩] (fun _=>false) [(0,true),(1,true),(2,true),(3,true),(4,true),(5,false),(6,false),(7,true)] follows (by kernel_rfl)<|?_;refine dL J J J J<|dM J J J<|dM J J J<|dF J J J<|r7 J J J J<|?_;have hrp:=ih2 (G:=G7) (rb:=rb) (sb:=sb) (lo:=false) (lo2:=false) hc;refine dc J J (BO J J (M:=[_,_]) (rest:=[_,_]) (List.Perm.refl _) hrp J ?_);rintro _ css G8 _ _ ⟨q2,rfl,hp2,rfl⟩;show St C _ _ [⟨rb,[.slice xa ns.length xc, .slice (some ⟨sb,0,none⟩) ns.length ns.length, .int .i64 s3.c, .bool s3.b],235,false⟩,⟨sb,lH ns.length s3.f,4,false⟩,⟨b6,[.int .i64 n1, .int .i64 d1, .pointer p1, .int .i64 n2, .int .i64 d2, .pointer p2, .int .i64 n3, .int .i64 d3, .pointer p3],108,true⟩,⟨b5,[.bool n.g.na, .slice x1.a x1.n x1.c, .bool n.g.nb, .slice x2.a x2.n x2.c, .bool n.g.nc, .slice x3.a x3.n x3.c, .int .i64 n.l, .int .i64 n.r],182,true⟩] _ _;refine l5<|?_;refine dc J J (zC J J (PF.fn0 (zW (l:=l) (x:=tx) (y:=ty)) (.cons (hw.up GL.le) (.cons (hp1.up GL.le) (.cons hp2 .nil)))) J ?_);rintro _ G9 _ hp;obtain⟨p,rfl⟩:=qt hp;refine l5<|dA J J J<|dn<|cH<|?_;exact sg (css:=[_,_]) (.tmp J .nil) J _ (List.Perm.refl _) (.cons_cons _ (.cons_cons _ (kM _))) ⟨p,J,hp,J⟩
def oG:RS:=⟨fun _=>false,0,false⟩
def zh(ns:List RN)(t:Tr)(s:RS):DV:=if s.b=false/\s.c=ns.length then .tp [eU t,vB true] else .tp [.v (.pointer none),vB false]
def tY(rt:Int)(ns:List RN):DV:= .ag [vI rt, .sl (ns.map RN.d)]
def S8{ns:List RN}{rt:Int}{t:Tr}{s:RS}(hs: ∀n∈ns,n.g.sm)(hn:ns.length<=65536)(h:RR ns rt oG t s)(hc:s.c<=1000000):PF GB prog 64 [tY rt ns] (zh ns t s):=by
 intro G vs _ hv;obtain⟨v0,m,rfl,h0,hm⟩:=aH.1 hv;rw[er] at hm;subst hm;obtain⟨m,rfl,g⟩:=d7.1 h0;obtain⟨v1,m,rfl,h1,hm⟩:=aH.1 g;obtain⟨v2,m,rfl,h2,hm⟩:=aH.1 hm;rw[er] at hm;subst hm;obtain⟨s0,x,es,rfl,hsl,hes⟩:=iH.1 h2;rw[aD.1 h1];have hel:=hes.len;rw[aK] at hel;have hlen:=hsl.len;rw[hel] at hlen;have hx:Rn x ns G:=by
  refine⟨es,?_,hes⟩;rcases zG (s:=8) hsl hes (fun d hd=>by obtain⟨n,_,rfl⟩:=bV.1 hd;exact⟨rfl,rfl⟩) with e|e
  ·exact⟨hsl.len,hsl.cap, .inl e⟩
  ·rw[e] at hsl;exact hsl
 obtain⟨xa,xn,xc⟩:=x;simp only[] at hlen;subst hlen;show Fn _ _ [.agg ⟨[.int .i64 rt, .slice xa ns.length xc]⟩] _ _;refine Fn.intro func64 J J ntmps64 J ?_;intro C _ _;refine sR<|?_;refine sc (Ig J J ?_);intro b1;refine sa J J<|sa J J<|zE<|bt<|sR<|sf J J<|oF J J J<|cE J J<|sy (ru J J) J<|zE<|?_;refine gm J (fun hc=>absurd hc (by omega)) (fun _=>?_);refine zK<|bt<|dr (fun _=>false) [(0,true),(1,true),(2,true),(3,true),(4,true),(5,false),(6,true),(7,false),(8,true)] follows (by kernel_rfl)<|dF J J J<|?_;refine r7 J J J J<|dF J J J<|r7 J J J J<|dy J (fun _=>pH J) J J<|?_;refine dc J J (sH J J (by omega) (by omega) (by omega) (by rfl) J ?_);intro b2;rw[aM,ap4];refine l5<|dy J (fun _=>Cu J) J J<|?_;refine dc J J (Ig J J ?_);intro b3;refine l5<|dA J J J<|dn<|sR<|sm J J<|sf J J<|oF J J J<|?_;have hrp:=aA3 hx hs (by omega) h (G:=G) (rb:=b3) (sb:=b2) (lo:=true) (lo2:=true) hc;refine sc (BO J J (M:=[_,_]) (rest:=[_]) (List.Perm.refl _) hrp J ?_);rintro _ css G4 _ _ ⟨p,rfl,hp,rfl⟩;show St C _ _ [⟨b3,[.slice xa ns.length xc, .slice (some ⟨b2,0,none⟩) ns.length ns.length, .int .i64 s.c, .bool s.b],235,true⟩,⟨b2,lH ns.length s.f,4,true⟩,⟨b1,[.int .i64 rt, .slice xa ns.length xc],25,true⟩] _ _;refine sa J J<|zE<|bt<|bt<|dr (fun _=>false) [(0,true),(1,true),(2,true),(3,true),(4,true),(5,true),(6,true),(7,true),(8,true),(9,true),(10,true),(11,true),(12,true),(13,true)] follows (by kernel_rfl)<|?_;obtain⟨sf_,sc_,sb_⟩:=s
 cases sb_
 case true=>
  refine dM J J J<|dy J (fun _=>kc J) J J<|dF J J J<|r7 J J J J<|dM J J J<|?_;refine uI J J J J J J<|uI J J J J J J<|uI J J J J J J<|uI J J J J J J<|uI J J J J J J<|uI J J J J J J<|?_;refine uI J J J J J J<|uI J J J J J J<|dy J (fun _=>r8 J J) J J<|dn<|n7 J<|?_;refine sR<|sa J J<|sa J J<|zE<|cH<|?_;refine zD (.tmp J (.tmp J .nil)) ?_;rw[zh,if_neg (fun e=>by cases e.1)];exact jt.2 ⟨_,J, .cons (aD.2 J) (.cons (aD.2 J) .nil)⟩
 refine dM J J J<|dy J (fun _=>kc J) J J<|dF J J J<|r7 J J J J<|dM J J J<|?_;refine u6 J J J J (fun _=>f6 J) J<|u6 J J J J (fun _=>kc J) J<|u6 J J J J (fun _=>oe J) J<|u6 J J J J (fun _=>lA J J) J<|?_;refine u6 J J J J (fun _=>oe J) J<|u6 J J J J (fun _=>lA J J) J<|u6 J J J J (fun _=>pH J) J<|u6 J J J J (fun _=>u9 J J) J<|?_;refine dy J (fun _=>l8 J J) J J<|dn<|?_;refine gm J (fun hc=>?_) (fun hc=>?_) -- slot 35
 ·refine sR<|sa J J<|sa J J<|zE<|cH<|?_
  refine zD (.tmp J (.tmp J .nil)) ?_;rw[zh,if_neg (fun e=>hc (by have:=e.2;simp only at this;omega))];exact jt.2 ⟨_,J, .cons (aD.2 J) (.cons (aD.2 J) .nil)⟩
 refine zK<|sR<|sm J J<|sa J J<|sa J J<|zE<|cH<|?_;refine zD (.tmp J (.tmp J .nil)) ?_;rw[zh,if_pos ⟨J,by have h9:=hc;simp at h9;show sc_=_;omega⟩];exact jt.2 ⟨_,J, .cons hp (.cons (aD.2 J) .nil)⟩
end Go.Sx
end
