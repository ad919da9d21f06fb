import Derived.Test.YtjpdfobnjmflkaaGreatDoorMs11
import Derived.WalkKit
import Derived.LaidEql
import Derived.Stop.Asserts
import Derived.RowKitTokens
set_option linter.all false
set_option maxHeartbeats 2000000
set_option maxRecDepth 100000
section
namespace Go.Sx
open Go Go.Proofs Tryz
variable {GB G:Gh}{es:List Int}{i j k bv n:Nat}{m vcs c2 r2:List Value}{p:Nat->Bool}{u x y t:Tr}{α σ:Type}{P:Program}{f:FuncId}{M:List aA}{K K':Value->List aA->Gh->Prop}{ds:List DV}{l1:aa}{op:Int}{C:aE}{fr:Fr}
def VH(h:i<es.length):(es.map vI)[(i:Int).toNat]? =some (vI (es.getD i 0)):=by simp[h]
def OA(h:i<es.length:=by omega):pk (es.drop i)=if es.getD i 0≠0 then es.getD i 0 else pk (es.drop (i+1)):=by
 rw[bX h,pk,aV,aZ h];rfl
def WL(hn:es.length<=1000000):PF GB prog 323 [.sl (es.map vI)] (vI (pk es)):=by
 have hel:(es.map vI).length=es.length:=by simp
 refine fn (fu:=⟨15⟩) func323 J J ntmps323 J J (fun C=>?_);refine aj 7 (.d (vI (es.length:Nat))) J (by rw[hel]<;>rfl)<|gx J<|lp (X:=Nat) (fun i=>[(8, .d (vI (i:Nat)))]) (fun i=>[]) (fun i=>i<=es.length/\pk es=pk (es.drop i)) (fun i=>es.length-i) 0 J ⟨aM _,J⟩ (fun _=>J) (fun i hk=>?_);obtain⟨h1,h2⟩:=hk;refine br J J J (fun hc9=>?_) (fun hc9=>?_)
 .
  refine ix _ J (VH (by omega)) J<|br J J J (fun hc14=>?_) (fun hc14=>?_)
  .
   exact rz J (by rw[h2,OA,if_pos hc14];rfl)
  .
   exact at_ (i+1) ⟨⟨by omega,by rw[h2,OA,if_neg hc14]⟩,(by omega)⟩
 .
  exact rz J (by rw[h2,iT (by omega)];rfl)
def JL(l m:aa):Int:=pk [bA l.a m.a,bA l.b m.b,bA l.c m.c]
def U1(l m:aa):JL l m=0↔l=m:=by
 unfold JL pk pk pk pk;have ha:=vu (l.a:Rat) m.a;have hb:=vu (l.b:Rat) m.b;have hc:=vu (l.c:Rat) m.c;rw[rQ] at ha hb hc;constructor
 .intro h
  repeat' (split at h<;>try contradiction)
  all_goals exact aa.ext'
 .rintro rfl
  rw[if_neg (by simp[ha.2 J]),if_neg (by simp[hb.2 J]),if_neg (by simp[hc.2 J])]
def VL{l m:aa}[hl:LB l][hm:LB m]:PF GB prog 297 [cP l,cP m] (vI (JL l m)):=by
 refine fn func297 J J ntmps297 J J (fun C=>?_);refine cl J (wD (p:=(l.a:Rat)) (q:=(m.a:Rat))) J<|cl J (wD (p:=(l.b:Rat)) (q:=(m.b:Rat))) J<|cl J (wD (p:=(l.c:Rat)) (q:=(m.c:Rat))) J<|rf J J<|cl J (WL (es:=[bA l.a m.a,bA l.b m.b,bA l.c m.c]) (nb J)) J<|rz J J
def Z4{l m:aa}[hl:LB l][hm:LB m]:PF GB prog 255 [cP l,cP m] (vB (decide (l=m))):=by
 refine fn func255 J J ntmps255 J J (fun C=>?_);refine cl J (VL (l:=l) (m:=m)) J<|rz J (by show DV.v (.bool (decide _))= .v (.bool _);congr 2;exact decide_eq_decide.2 (U1 l m))
def aG0{l:aa}[hl:LB l]:PF GB prog 288 [cP l] (cP l.rev):=by
 refine fn func288 J J ntmps288 J J (fun C=>?_);refine cl J (pC (q:=(l.a:Rat))) J<|cl J (pC (q:=(l.b:Rat))) J<|cl J (pC (q:=(l.c:Rat))) J<|rz J (by unfold cP aa.rev;simp only[iN];rfl)
def aFJ{l:aa}[hl:LB l]:PF GB prog 134 [cP l] (eL l):=by
 refine fn func134 J J ntmps134 J J (fun C=>?_);refine cl J (s7 (q:=(l.a:Rat))) J<|cl J (s7 (q:=(l.b:Rat))) J<|cl J (s7 (q:=(l.c:Rat))) J<|rz J J
def Rx{p:ah}[hp:aC p i](hi:i<=10000000:=by decide):PF GB prog 260 [eZ p] (vI p.half):=by
 refine fn func260 J J ntmps260 J J (fun C=>?_);refine cl J (mc (q:=p.y) (by omega)) J<|cs 10 J J J (fun hg10=>?_) (fun hg10=>?_)
 .
  exact rz J (by unfold ah.half;(repeat' split)<;>first|rfl|(exfalso;omega))
 .
  refine cs 13 J J J (fun hg13=>?_) (fun hg13=>?_)
  .
   refine cl J (mc (q:=p.x) (by omega)) J<|br J J J (fun hc7=>?_) (fun hc7=>?_)
   .
    exact rz J (by unfold ah.half;(repeat' split)<;>first|rfl|(exfalso;omega))
   .
    refine cs 23 J J J (fun hg23=>?_) (fun hg23=>?_)
    .
     exact rz J (by unfold ah.half;(repeat' split)<;>first|rfl|(exfalso;omega))
    .
     refine cl J (mc (q:=p.x) (by omega)) J<|br J J J (fun hc20=>?_) (fun hc20=>?_)
     .
      exact rz J (by unfold ah.half;(repeat' split)<;>first|rfl|(exfalso;omega))
     .
      exact rz J (by unfold ah.half;(repeat' split)<;>first|rfl|(exfalso;omega))
  .
   refine cs 23 J J J (fun hg23=>?_) (fun hg23=>?_)
   .
    exact rz J (by unfold ah.half;(repeat' split)<;>first|rfl|(exfalso;omega))
   .
    refine cl J (mc (q:=p.x) (by omega)) J<|br J J J (fun hc20=>?_) (fun hc20=>?_)
    .
     exact rz J (by unfold ah.half;(repeat' split)<;>first|rfl|(exfalso;omega))
    .
     exact rz J (by unfold ah.half;(repeat' split)<;>first|rfl|(exfalso;omega))
def UP{u v:ah}[hp:aC u i][hq:aC v j](hi:i<=10000000:=by decide)(hj:j<=10000000:=by decide):PF GB prog 196 [eZ u,eZ v] (vI (ge u v)):=by
 refine fn func196 J J ntmps196 J J (fun C=>?_);refine cl J (Rx (p:=u) hi) J<|cl J (Rx (p:=v) hj) J<|br J J J (fun hc11=>?_) (fun hc11=>?_)
 .
  exact rz J (by unfold ge;rw[if_pos hc11];rfl)
 .
  refine br J J J (fun hc15=>?_) (fun hc15=>?_)
  .
   exact rz J (by unfold ge;rw[if_neg hc11,if_pos hc15];rfl)
  .
   refine cl J (Cs (p:=u) (q:=v) (by omega) (by omega)) J<|cl (fu:=⟨0⟩) J (mc (q:=u.cross v) (by omega)) J<|?_;have hs:=Int.sign_trichotomy (u.cross v).num;refine gx J<|rz J (by unfold ge;rw[if_neg hc11,if_neg hc15];rfl)
def VW{m:Int}:fe (dg m.natAbs)/\(decide (m<0)=true->0<(dg m.natAbs).length):=⟨(fH _).2.2,fun h=>by
 have:0<m.natAbs:=by have:=of_decide_eq_true h;omega
 exact ua.2 this⟩
def CQ{m:Int}[h:BI m i](hi:i<=1000000000:=by decide):PF GB prog 180 [eI m] (.v (.bool true)):=(auC (neg:=decide (m<0)) (ds:=dg m.natAbs) (fH _).2.1 (by have:=jb (a:=m.natAbs) hi;omega)).to (by unfold vB;rw[decide_eq_true VW])
def Li{l:aa}(h:l.ok):rgcd (rgcd (l.a:Rat) (l.b:Rat)) (l.c:Rat)=((1:Int):Rat):=by
 rw[JY,JY];have:=h.2;simp only[fW];rw[this];rfl
instance BQ.rgcd (p q:Rat) (i j:Nat) [h:BQ p i] [k:BQ q j]:BQ (rgcd p q) (i+j+(i+j)):=by
 unfold Sx.rgcd;refine AP (jK (mf p) (mf q)) ?_ ?_
 .rw[fW]
  have h1:=me h.hn k.hd;have h2:=me k.hn h.hd;rw[kS j i] at h2;exact NW h1 h2
 .have h1:=me h.hd k.hd
  have:2^(i+j)<=2^(i+j+(i+j)):=bW (by decide) (by omega);omega
def aGx{l:aa}[hl:LB l](ho:l.ok):PF GB prog 119 [eL l] (.tp [cP l,vB true]):=by
 refine fn func119 J J ntmps119 J J (fun C=>?_);refine cl (fu:=⟨0⟩) J (CQ (m:=l.a)) J<|cB J J J<|cl (fu:=⟨0⟩) J (CQ (m:=l.b)) J<|cB J J J<|cl (fu:=⟨0⟩) J (CQ (m:=l.c)) J<|cB J J J<|cl J (I5 (m:=l.a)) J<|cl J (I5 (m:=l.b)) J<|cl J (I5 (m:=l.c)) J<|cl (fu:=⟨0⟩) J (Au (q:=(l.a:Rat))) J<|kj (fu2:=⟨4⟩) J J J J (fun hg35=>?_) (fun hg35=>?_)
 .
  have ha:l.a=0:=cR.1 hg35;refine cl (fu:=⟨1⟩) J (Au (q:=(l.b:Rat))) J<|cB J (by first|rfl|(show some (decide _)=some false;rw[decide_eq_false (fun e=>ho.1 ⟨ha,cR.1 e⟩)])) J<|cl J (ui (p:=(l.a:Rat)) (q:=(l.b:Rat))) J<|cl J (ui (p:=rgcd l.a l.b) (q:=(l.c:Rat))) J<|cl J (wJ (m:=1)) J<|cl (fu:=⟨0⟩) J (EH (p:=rgcd (rgcd l.a l.b) l.c) (q:=((1:Int):Rat))) J<|cB J (by show some (!decide _)=some false;rw[Li ho,decide_eq_true J];rfl) J<|rz J J
 .
  refine cB J (by first|rfl|(show some (decide _)=some false;rw[decide_eq_false (fun e=>ho.1 ⟨ha,cR.1 e⟩)])) J<|cl J (ui (p:=(l.a:Rat)) (q:=(l.b:Rat))) J<|cl J (ui (p:=rgcd l.a l.b) (q:=(l.c:Rat))) J<|cl J (wJ (m:=1)) J<|cl (fu:=⟨0⟩) J (EH (p:=rgcd (rgcd l.a l.b) l.c) (q:=((1:Int):Rat))) J<|cB J (by show some (!decide _)=some false;rw[Li ho,decide_eq_true J];rfl) J<|rz J J
def dd(f:bw):DV:= .ag [vI (dm (f.l.a:Rat)),vI (dw (f.l.a:Rat)),dl (f.l.a:Rat),vI (dm (f.l.b:Rat)),vI (dw (f.l.b:Rat)),dl (f.l.b:Rat),vI (dm (f.l.c:Rat)),vI (dw (f.l.c:Rat)),dl (f.l.c:Rat),vI (dm f.v.lo),vI (dw f.v.lo),dl f.v.lo,vI (dm f.v.hi),vI (dw f.v.hi),dl f.v.hi, .v (.bool f.v.nl), .v (.bool f.v.nh)]
structure t8 (v:ar):Prop where
 z:gG v
 lo:BQ v.lo 1200
 hi:BQ v.hi 1200
structure Ob (s:bw):Prop where
 lb:LB s.l
 ok:s.l.ok
 v:t8 s.v
abbrev d9 (c:ao):Prop:= ∀s∈c,Ob s
def tI(f:α->DV)(l:List α):(l.map f).length=l.length:=by simp
def t8.all:t8 ar.all:=⟨⟨fun _=>J,fun _=>J⟩,BQ.z1.mono (by decide),BQ.z1.mono (by decide)⟩
def t8.cut{l m:aa}{v:ar}[LB l][LB m](hn:l.Ne)(h:t8 v):t8 (l.cutV v m):=by
 by_cases h0:crossI l m=0
 .rw[(AS (v:=v) h0).1];exact h
 .obtain⟨u1,_,u3,u4,u5⟩:=HO (v:=v) hn h.z h.lo h.hi h0
  rw[u1];exact⟨u3,u4,u5⟩
def F4(o:Option ar):ar:=o.getD ⟨0,0,false,false⟩
def ZC(G:Gh)(y:Value)(k:Is G (.tp [.ag [vI 0,vI 0, .v (.pointer none),vI 0,vI 0, .v (.pointer none), .v (.bool false), .v (.bool false)], .v (.bool false)]) y):Is G (.tp [eW (F4 none),vB false]) y:=by
 obtain⟨m,rfl,g⟩:=l5.1 k;exact l5.2 ⟨m,J,RW (fun y hy=>by
  obtain⟨l,rfl,g⟩:=ew.1 hy;exact ew.2 ⟨l,J,Fm (JT [vI 0,vI 0, .v (.pointer none)] g)⟩) g⟩
def ck{f:α->DV}{l:List α}{s:α}(h:l[i]? =some s):(l.map f)[(i:Int).toNat]? =some (f s):=by simp[h]
def FJ{l:List α}{s:α}(h:l[k]? =some s):l.drop k=s::l.drop (k+1):=by
 obtain⟨h1,h2⟩:=aR.1 h;rw[bX h1,h2]
def Lm{l:aa}{c:ao}{v:ar}{s:bw}(h:c[k]? =some s):m8 l (c.drop k) v=if l.cutB v s.l then m8 l (c.drop (k+1)) (l.cutV v s.l) else none:=by
 rw[FJ h];rfl
def Jy{l:aa}{c:ao}{s:bw}(h:c[k]? =some s):od l (c.drop k)=if ot l s≠0 then ot l s else if s.l=l then 1 else od l (c.drop (k+1)):=by
 rw[FJ h];rfl
instance BQ.sample (v:ar) [h1:BQ v.lo 1200] [h2:BQ v.hi 1200]:BQ v.sample 2500:=by
 unfold ar.sample;split
 .exact BQ.mono (k:=1) ⟨by decide,by decide⟩
 .split
  .exact BQ.mono (inferInstance:BQ (v.hi-((1:Int):Rat)) _)
  .split
   .exact BQ.mono (inferInstance:BQ (v.lo+((1:Int):Rat)) _)
   .exact BQ.mono (inferInstance:BQ ((v.lo+v.hi)*mkRat 1 2) _)
def Rb{c:ao}{l:aa}[hl:LB l](hlo:l.ok)(hc:d9 c)(hn:c.length<=1000000):PF GB prog 191 [.sl (c.map dd),cP l] (.tp [eW (F4 (kh c l)),vB (kh c l).isSome]):=by
 have hm:=tI dd c;refine fn func191 J J ntmps191 J J (fun C=>?_);refine cl (fu:=⟨10⟩) J aIx J<|aj 12 (.d (vI (c.length:Nat))) J (by rw[tI]<;>rfl)<|gx J<|lp (X:=ar×Nat) (fun⟨v,k⟩=>[(13, .d (vI (k:Nat))),(6, .ov 6 0)]) (fun⟨v,k⟩=>[(6,some (.o 218 [.d (vI (dm v.lo)), .d (vI (dw v.lo)), .d (dl v.lo), .d (vI (dm v.hi)), .d (vI (dw v.hi)), .d (dl v.hi), .d (.v (.bool v.nl)), .d (.v (.bool v.nh))] true))]) (fun⟨v,k⟩=>k<=c.length/\t8 v/\m8 l (c.drop k) v=kh c l) (fun⟨v,k⟩=>c.length-k) (ar.all,0) J ⟨aM _, .all,J⟩ (fun _=>J) (fun⟨v,k⟩ hk=>?_);dsimp only at hk⊢;obtain⟨h1,h2,h3⟩:=hk;haveI:=h2.lo;haveI:=h2.hi;refine br J J J (fun hc14=>?_) (fun hc14=>?_)
 .
  obtain⟨s,hs0⟩: ∃s,c[k]? =some s:=⟨_,aZ (by omega)⟩;have hs:=hc s (aK hs0);haveI:=hs.lb;refine ix _ J (ck hs0) J<|cl (fu:=⟨0⟩) J (Lg (l:=l) (m:=s.l) (v:=v)) J<|?_;generalize hw:l.cutV v s.l=w;generalize hb:l.cutB v s.l=b;refine gx J<|bb J J J (fun hc26=>?_) (fun hc26=>?_)
  .
   exact ju J (by rw[<-h3,Lm hs0,hb,if_neg (by simpa using hc26)];exact ZC)
  .
   exact at_ (w,k+1) (by dsimp only;exact⟨⟨by omega,hw▸h2.cut hlo.1,by rw[<-h3,Lm hs0,hb,hw,if_pos (by simpa using hc26)]⟩,(by omega)⟩)
 .
  exact rz J (by rw[<-h3,iT (by omega)];rfl)
def aDT{c:ao}{l:aa}[hl:LB l](hlo:l.ok)(hc:d9 c)(hn:c.length<=1000000):PF GB prog 192 [.sl (c.map dd),cP l] (vI (vE c l)):=by
 have hm:=tI dd c;refine fn func192 J J ntmps192 J J (fun C=>?_);refine cl J (Rb (c:=c) (l:=l) hlo hc hn) J<|bb (fu2:=⟨7⟩) J J J (fun hc16=>?_) (fun hc16=>?_)
 .
  exact rz J (by unfold vE;rw[if_pos hc16];rfl)
 .
  have hp:vE c l=od l c:=by unfold vE;rw[if_neg (by simp[hc16])]
  refine aj 18 (.d (vI (c.length:Nat))) J (by rw[tI]<;>rfl)<|gx J<|lp (X:=Nat) (fun k=>[(19, .d (vI (k:Nat)))]) (fun k=>[]) (fun k=>k<=c.length/\od l (c.drop k)=od l c) (fun k=>c.length-k) 0 J ⟨aM _,J⟩ (fun _=>J) (fun k hk=>?_);obtain⟨h1,h2⟩:=hk;refine br J J J (fun hc20=>?_) (fun hc20=>?_)
  .
   obtain⟨s,hs0⟩: ∃s,c[k]? =some s:=⟨_,aZ (by omega)⟩;have hs:=hc s (aK hs0);haveI:=hs.lb;haveI:=hs.v.lo;haveI:=hs.v.hi;haveI:=BQ.sample s.v;refine ix _ J (ck hs0) J<|cl (fu:=⟨0⟩) J (RZ (v:=s.v)) J<|?_;generalize ht:s.v.sample=t at*;refine gx J<|cl J (Ml (l:=s.l) (t:=t)) J<|cl J (aDa (l:=l) (p:=s.l.at t)) J<|br J J J (fun hc32=>?_) (fun hc32=>?_)
   .
    have hsd:ot l s=(l.value (s.l.at t)).num.sign:=by unfold ot;rw[ht]
    exact rz J (by rw[hp,<-h2,Jy hs0,hsd,if_pos hc32];rfl)
   .
    refine cl J (Z4 (l:=s.l) (m:=l)) J<|bd J J J (fun hc37=>?_) (fun hc37=>?_)
    .
     have hsd:ot l s=(l.value (s.l.at t)).num.sign:=by unfold ot;rw[ht]
     exact rz J (by rw[hp,<-h2,Jy hs0,hsd,if_neg hc32,if_pos hc37];rfl)
    .
     have hsd:ot l s=(l.value (s.l.at t)).num.sign:=by unfold ot;rw[ht]
     exact at_ (k+1) ⟨⟨by omega,by rw[<-h2,Jy hs0,hsd,if_neg hc32,if_neg hc37]⟩,(by omega)⟩
  .
   exact rz J (by rw[hp,<-h2,iT (by omega)];rfl)
def XS{vs rest:List Value}(h: ∀v∈vs,(aG v).length=17)(hi:i<=vs.length):cx (aF vs++rest) (i*17) ((vs.length-i)*17)=some (aF (vs.drop i)):=by
 have hl:=eH vs h;have hd:(aF (vs.drop i)).length=(vs.length-i)*17:=by
  rw[eH (s:=17) _ (fun v hv=>h v (gR hv)),gU]
 rw[ln _ _ _ (by simp only[aY];omega)];congr 1;rw[lZ (by omega),Ei vs i h hi,gJ (by omega),cZ (by omega)]
def Wq{vs rest:List Value}(h: ∀v∈vs,(aG v).length=17)(hv:vcs.length=17)(hi:i<vs.length)(hr:17<=rest.length):
  cC (cC (aF vs++rest) ((i+1)*17) (aF (vs.drop i))) (i*17) vcs=aF (vs.take i)++vcs++aF (vs.drop i)++rest.drop 17:=by
 have hl:=eH vs h;have hd:(aF (vs.drop i)).length=(vs.length-i)*17:=by
  rw[eH (s:=17) _ (fun v hv=>h v (gR hv)),gU]
 have ht:(aF (vs.take i)).length=i*17:=by
  rw[eH (s:=17) _ (fun v hv=>h v (eM hv)),bT,jN (by omega)]
 rw[ql (aF (vs.drop i)) (aF vs++rest) _ (by rw[aY];omega)];rw[ql vcs _ _ (by simp only[aY,bT,gU];omega)];have e1:(aF vs++rest).drop ((i+1)*17+(aF (vs.drop i)).length)=rest.drop 17:=by
  rw[hd,show(i+1)*17+(vs.length-i)*17=(aF vs).length+17 by omega,nX,iU (by omega),jM];congr 1;omega
 have e2:((aF vs++rest).take ((i+1)*17)++aF (vs.drop i)++rest.drop 17).take (i*17)=aF (vs.take i):=by
  rw[dW,gJ (by simp only[bT,aY];omega),List.take_take,jN (by omega),gJ (by omega),Gn vs i h (by omega)]
 have e3:((aF vs++rest).take ((i+1)*17)++aF (vs.drop i)++rest.drop 17).drop (i*17+vcs.length)=aF (vs.drop i)++rest.drop 17:=by
  rw[hv,dW,show i*17+17=((aF vs++rest).take ((i+1)*17)).length by simp only[bT,aY];omega,List.drop_left]
 rw[e1,e2,e3];simp[dW]
def as3{vs rest:List Value}(h: ∀v∈vs,(aG v).length=17)(hv:vcs.length=17)(hr:17<=rest.length):cC (aF vs++rest) (vs.length*17) vcs=aF vs++vcs++rest.drop 17:=by
 have hl:=eH vs h;rw[ql _ _ _ (by simp only[aY];omega),hv,<-hl,List.take_left,nX];simp
def TC{b cap c2:Nat}{vs rest:List Value}{lo lo2:Bool}(hvs: ∀v∈vs,(aG v).length=17)(hfl: ∀v∈vs,∀c∈aG v,flat c=true)(hv:vcs.length=17)(hvf: ∀c∈vcs,flat c=true)
  (hcap:vs.length*17+rest.length=cap*17)(hroom:vs.length+1<=cap)(hi:i<=vs.length)(hb:vs.length<=1125899906842624):
  kg prog 198 [.slice (some ⟨b,0,none⟩) vs.length cap, .int .i64 i, .slice (some ⟨bv,0,none⟩) 1 c2] [⟨b,aF vs++rest,220,lo⟩,⟨bv,vcs++r2,220,lo2⟩] G
   (fun u css _=>u= .slice (some ⟨b,0,none⟩) (vs.length+1) cap/\css=[aF (vs.take i)++vcs++aF (vs.drop i)++rest.drop 17,vcs++r2]):=by
 have hL:(aF vs++rest).length=cap*17:=by rw[aY,eH vs hvs];exact hcap
 have hr:17<=rest.length:=by omega
 have hD:(aF (vs.drop i)).length=(vs.length-i)*17:=by
  rw[eH (s:=17) _ (fun v hv=>hvs v (gR hv)),gU]
 have hDf: ∀c∈aF (vs.drop i),flat c=true:=fun c hc=>by
  obtain⟨l,hl,hcl⟩:=List.mem_flatten.1 hc;obtain⟨v,hv,rfl⟩:=aT.1 hl;exact hfl v (gR hv) c hcl
 have hvt:cx (vcs++r2) 0 (1*17)=some vcs:=by rw[ln _ _ _ (by rw[aY];omega),iX,gJ (by omega),cZ (by omega)]
 refine kg.intro func198 J J ntmps198 J ?_;intro C _ _;show St C _ _ [⟨b,aF vs++rest,220,false⟩,⟨bv,vcs++r2,220,false⟩] _ _;refine ay6 (fun hne=>?_);simp only[] at hne;refine sR<|sa J J<|zE<|sR<|sm J J<|sm J J<|sy (Iv J J) J<|zE<|sR<|?_;refine sm J J<|sO J J<|sa J J<|zE<|fj<|sR<|sm J J<|sy (ly J J) J<|zE<|rg J<|?_;refine zK<|sR<|sm J J<|sO J J<|sa J J<|zE<|fj<|sR<|sm J J<|sm J J<|sy (ly J J) J<|zE<|?_;refine vv J (fun hc=>?_) (fun hc=>?_) -- slot 22
 .have hin:i=vs.length:=by omega
  subst hin;refine sR<|sm J J<|sm J J<|?_;refine sc (Qt (s:=17) (m:=1) (ys:=vcs) J J (.hd ..) hL (xV inferInstance hvt) (by omega) hvf hroom J ?_);refine sa J J<|zE<|lu<|?_;refine tH (css:=[cC (aF vs++rest) (vs.length*17) vcs,vcs++r2]) (.tmp J .nil) J _ (List.Perm.refl _) (List.Sublist.refl _) ⟨J,?_⟩;rw[as3 hvs hv hr,cS,fY];simp[aF]
 have hin:i<vs.length:=by omega
 have hn1:((vs.length:Int)+((1:Nat):Int)).toNat=vs.length+1:=by omega
 have ht1:((i:Int)+((1:Nat):Int)).toNat=i+1:=by omega
 refine zK<|fj<|sR<|sm J J<|sm J J<|sy (wj J J) J<|sm J J<|?_;refine sy (YR J) J<|sy (Ah J J) J<|zE<|?_;refine vv J (fun hc2=>?_) (fun hc2=>?_) -- slot 31
 .exact absurd hc2 (by omega)
 refine zK<|sR<|sm J J<|sm J J<|sm J J<|sy (wj J J) J<|sy (DP J J) J<|?_;rw[hn1];refine sa J J<|zE<|fj<|sR<|sm J J<|sm J J<|sm J J<|sm J J<|sy (wj J J) J<|sy (Fk J J) J<|?_;refine sy (apY (tS:=126) (tR:=4) func261 (by kernel_rfl) (by kernel_rfl) (by kernel_rfl) (by kernel_rfl) J J (Ne.symm hne) (fun h=>by rw[h] at hL;simp at hL;omega)) J<|?_;refine sy (t6 J) J<|zE<|tc J<|?_;refine fj<|ZE (b:=b) (fun _=>false) [(0,true),(1,true),(2,true),(3,true),(4,true),(5,true),(6,true),(7,true),(8,false)] follows (.hd ..) (by kernel_rfl)<|dM J J J<|?_;refine dM J J J<|dM J J J<|dy J (fun _=>wj J J (by omega) (by omega)) J J<|dy J (fun _=>Fk J J) J J<|?_;refine dM J J J<|dM J J J<|dy J (fun _=>Fk J J) J J<|?_;rw[ht1,cK,eY,eY];refine dc J J (Qz (s:=17) (m:=vs.length-i) (ys:=aF (vs.drop i)) J J (by show min _ _=_;omega) (xV inferInstance (XS hvs hi)) hDf (by rw[hD,hL];omega) (.hd ..) J ?_);refine lA<|dn<|sR<|sm J J<|sm J J<|sy (Fk J J) J<|sm J J<|?_;rw[cK,eY];refine sc (Qz (s:=17) (m:=1) (ys:=vcs) J J (by show min _ _=_;omega) (xV inferInstance hvt) hvf (by rw[Bq,hL,hv];omega) (.hd ..) J ?_);refine zE<|sR<|sm J J<|sa J J<|zE<|lu<|?_;refine tH (css:=[cC (cC (aF vs++rest) ((i+1)*17) (aF (vs.drop i))) (i*17) vcs,vcs++r2]) (.tmp J .nil) J _ (List.Perm.refl _) (List.Sublist.refl _) ⟨J,?_⟩;rw[Wq hvs hv hin hr]
def kg.toO{vs:List Value}{K:Value->List (List Value)->Gh->Prop}(h:kg P f vs M G K)(hk: ∀v css G',bP G G'->css.length=M.length->K v css G'-> ∃o,o.Sublist (kC (asB M) css)/\K' v o G'):ij P f vs M G K':=
 ⟨h.able,fun w hw=>(h.run w hw).mono fun _ _ ⟨v,css,G',he,hl,hh,hK⟩=>let⟨o,h1,h2⟩:=hk v css G' hh.gle hl hK;⟨v,o,G',he,hh.drop h1,h2⟩⟩
def QW(c:ao):cO 17 (c.map dd):=fun d hd=>by
 obtain⟨f,_,rfl⟩:=aT.1 hd;exact⟨rfl,rfl⟩
def O7{s:Nat}{vs:List Value}(hk:cO s ds)(h:IsLs G ds vs): ∀v∈vs,∀c∈aG v,flat c=true:=fun v hv=>by
 obtain⟨d,hd,h3⟩:=h.all v hv;exact(h3.cells (hk d hd).1).2
def Zw{c:ao}{x:bw}{cap:Nat}(hi:i<=c.length)(hc:c.length+1<=cap)(hn:c.length<=1000000):PI GB prog 198 (i:Nat) 17 220 220 (c.map dd) (dd x) cap ((c.take i++x::c.drop i).map dd):=by
 intro G w w2 B B2 _ hB hcap hB2;obtain⟨vs,q1,q2,q3,_⟩:=hB;obtain⟨us,u1,u2,u3,_⟩:=hB2;dsimp only at q1 q2 q3 u1 u2 u3;have hl:=q2.len;rw[aX] at hl;obtain⟨v,m,rfl,hv,hm⟩:=bi.1 u2
 cases en.1 hm
 rcases q1 with⟨_,e,_⟩|⟨b,rest,lo,e,rfl,h5,h6,h7⟩
 .rw[e] at hcap;simp at hcap;omega
 rcases u1 with⟨h,_⟩|⟨bv,r2,lo2,e2,rfl,h8,h9,h10⟩
 .cases h
 have hx:(aG v).length=17:=u3 v aQ;have hxf:=O7 (s:=17) (ds:=[dd x]) (fun d hd=>by rw[aU.1 hd];exact⟨J,J⟩) u2 v aQ;have key:=TC (G:=G) (b:=b) (bv:=bv) (cap:=w.c) (i:=i) (c2:=w2.c) (vs:=vs) (rest:=rest) (vcs:=aG v) (r2:=r2) (lo:=lo) (lo2:=lo2) q3 (O7 (QW c) q2) hx hxf (by rw[<-h5];exact h6) (by omega) (by omega) (by omega);rw[e,e2];rw[wA];refine key.toO fun u css G' hg hl2 ⟨k1,k2⟩=>?_;subst k1 k2;have hall: ∀u∈vs.take i++v::vs.drop i,(aG u).length=17:=fun u hu=>by
  rcases bJ.1 hu with hu|hu
  .exact q3 u (eM hu)
  .rcases aW.1 hu with rfl|hu
   .exact hx
   .exact q3 u (gR hu)
 have hlen:(vs.take i++v::vs.drop i).length=vs.length+1:=by
  rw[aY,bZ,bT,gU];omega
 refine⟨[⟨b,aF (vs.take i)++aG v++aF (vs.drop i)++rest.drop 17,220,false⟩], .cons_cons _ (jY _),⟨some ⟨b,0,none⟩,vs.length+1,w.c⟩,J,vs.take i++v::vs.drop i, .inr ⟨b,rest.drop 17,false,by rw[hlen],?_,eH _ hall,?_,?_⟩,?_,hall,fun h=>by cases h⟩
 .rw[oy];simp[aF]
 .rw[eH _ hall,hlen,gU]
  rw[h5] at h6;have:=bR 17 (show vs.length+1<=w.c by omega);simp only[dY] at this⊢;omega
 .rw[hlen];show vs.length+1<=w.c;omega
 .rw[aS,bU,iR,jZ]
  exact((q2.take i).up hg).app (.cons (hv.up hg) ((q2.drop i).up hg))
def Py{s:bw}{l:aa}[hs:LB s.l][hl:LB l]:PF GB prog 195 [dd s,cP l] (vI (ge s.l.dir l.dir)):=by
 refine fn func195 J J ntmps195 J J (fun C=>?_);refine cl J (vK (l:=s.l)) J<|cl J (vK (l:=l)) J<|cl J (UP (u:=s.l.dir) (v:=l.dir)) J<|rz J J
def Ag(c:ao)(l:aa)(i:Nat):Bool:=match c[i]? with
 |some s=>decide (ge s.l.dir l.dir=0)
 |none=>false
def Xe(i j:Nat):((i:Int)+(j:Int)).fdiv (2^min (1:Int).toNat IntKind.u64.bits)=((i+j)/2:Nat):=by
 rw[show(2:Int)^min (1:Int).toNat IntKind.u64.bits=((2:Nat):Int) from J,kY _ (by decide)];omega
def VI{c:ao}{l:aa}{s:bw}(h:c[k]? =some s):ja c l k=decide (ge s.l.dir l.dir<0):=by unfold ja;rw[h]
def Tn{c:ao}{l:aa}{s:bw}(h:c[k]? =some s):Ag c l k=decide (ge s.l.dir l.dir=0):=by unfold Ag;rw[h]
def aJI{c:ao}{l:aa}(h: ¬k<c.length):Ag c l k=false:=by unfold Ag;rw[fQ (by omega)]
def aI2(h:i<j)(hp:p ((i+j)/2)=true):fG p i j=fG p ((i+j)/2+1) j:=by rw[fG,dif_pos h,if_pos hp]
def aJF(h:i<j)(hp: ¬p ((i+j)/2)=true):fG p i j=fG p i ((i+j)/2):=by rw[fG,dif_pos h,if_neg hp]
def PZ(h: ¬i<j:=by omega):fG p i j=i:=by rw[fG,dif_neg h]
def Yb{c:ao}{l:aa}[hl:LB l](hc:d9 c)(hn:c.length<=1000000):PF GB prog 194 [.sl (c.map dd),cP l, .v (.func (.func 195) #[] #[])] (.tp [vI (fG (ja c l) 0 c.length:Nat),vB (Ag c l (fG (ja c l) 0 c.length))]):=by
 have hm:=tI dd c;refine fn (fu:=⟨11⟩) func194 J J ntmps194 J J (fun C=>?_);refine aj 13 (.d (vI (c.length:Nat))) J (by rw[hm]<;>rfl)<|gx J<|lp (X:=Nat×Nat) (fun⟨i,j⟩=>[(9, .d (vI (i:Nat))),(10, .d (vI (j:Nat)))]) (fun⟨i,j⟩=>[]) (fun⟨i,j⟩=>i<=j/\j<=c.length/\fG (ja c l) i j=fG (ja c l) 0 c.length) (fun⟨i,j⟩=>j-i) (0,c.length) J ⟨aM _,bK _,J⟩ (fun _=>J) (fun⟨i,j⟩ hk=>?_);dsimp only at hk⊢;obtain⟨h1,h2,h3⟩:=hk;refine br (fu1:=⟨10⟩) (fu2:=⟨11⟩) J J J (fun hc17=>?_) (fun hc17=>?_)
 .
  obtain⟨s,hs0⟩: ∃s,c[(i+j)/2]? =some s:=⟨_,aZ (by omega)⟩;haveI:=(hc s (aK hs0)).lb;have hang:=VI (l:=l) hs0;refine aj 22 (.d (.v (.int .u64 ((i+j)/2:Nat)))) J (by rw[Xe])<|gx J<|ix _ J (ck hs0) J<|cl J (Py (s:=s) (l:=l)) J<|br J J J (fun hc31=>?_) (fun hc31=>?_)
  .
   exact at_ ((i+j)/2+1,j) (by dsimp only;exact⟨⟨by omega,h2,by rw[<-h3,aI2 (i:=i) (j:=j) (by omega) (by rw[hang];exact decide_eq_true hc31)]⟩,(by omega)⟩)
  .
   exact at_ (i,(i+j)/2) (by dsimp only;exact⟨⟨by omega,by omega,by rw[<-h3,aJF (i:=i) (j:=j) (by omega) (by rw[hang,decide_eq_false hc31];exact Bool.false_ne_true)]⟩,(by omega)⟩)
 .
  refine kj (v2:=fun hg39=>by simp only[ak];kernel_rfl) J J J J (fun hg39=>?_) (fun hg39=>?_)
  .
   have he:=PZ (p:=ja c l) (i:=i) (j:=j);obtain⟨s,hs0⟩: ∃s,c[i]? =some s:=⟨_,aZ (by omega)⟩;haveI:=(hc s (aK hs0)).lb;refine ix _ J (ck hs0) J<|cl J (Py (s:=s) (l:=l)) J<|rz J (by rw[<-h3,he,Tn hs0];rfl)
  .
   have he:=PZ (p:=ja c l) (i:=i) (j:=j);exact rz J (by rw[<-h3,he,aJI (by omega)];rfl)
def Pd{l:aa}[LB l](hlo:l.ok): ∀{c:ao} {v w:ar},d9 c->t8 v->m8 l c v=some w->t8 w
 |[],v,w,_,hv,h=>by cases h;exact hv
 |s::t,v,w,hc,hv,h=>by
  haveI:=(hc s aQ).lb;simp only[m8] at h;split at h
  .exact Pd hlo (fun x hx=>hc x (aJ _ hx)) (hv.cut hlo.1) h
  .cases h
def Fl{l:aa}[LB l]: ∀{c:ao},d9 c->d9 (d7 l c)
 |[],_,s,h=>by cases h
 |a::t,hc,s,h=>by
  have ha:=hc a aQ;haveI:=ha.lb;have ht:=Fl (l:=l) (fun x hx=>hc x (aJ _ hx));unfold d7 at h;split at h
  .rcases aW.1 h with rfl|h
   .exact⟨ha.lb,ha.ok,ha.v.cut ha.ok.1⟩
   .exact ht s h
  .exact ht s h
def qI{l:aa}[hl:LB l](hlo:l.ok){c:ao}(hc:d9 c):d9 (bD c l):=by
 unfold bD;split
 .rename_i v hv
  intro s hs;unfold ld at hs;rcases bJ.1 hs with h|h
  .exact Fl hc s (eM h)
  .rcases aW.1 h with rfl|h
   .exact⟨hl,hlo,Pd hlo hc .all hv⟩
   .exact Fl hc s (gR h)
 .exact hc
def Qn{l:aa}{c:ao}{s:bw}(h:c[k]? =some s):d7 l (c.drop k)=if s.l.cutB s.v l then⟨s.l,s.l.cutV s.v l⟩::d7 l (c.drop (k+1)) else d7 l (c.drop (k+1)):=by
 rw[FJ h];rfl
def HF{c:ao}{l:aa}[hl:LB l](hlo:l.ok)(hc:d9 c)(hn:c.length<=100000):PF GB prog 122 [.sl (c.map dd),cP l] (.tp [.sl ((bD c l).map dd),vB (co c l)]):=by
 have hm:=tI dd c;refine fn func122 J J ntmps122 J J (fun C=>?_);refine cl J (Rb (c:=c) (l:=l) hlo hc (by omega)) J<|bb (fu2:=⟨6⟩) J J J (fun hc22=>?_) (fun hc22=>?_)
 .
  have hp:kh c l=none:=by simpa using hc22
  refine cl J (aDT (c:=c) (l:=l) hlo hc (by omega)) J<|rz J (by unfold bD co;rw[hp];rfl)
 .
  obtain⟨v,hv⟩: ∃v,kh c l=some v:=qU.1 (by simpa using hc22);have hvd:F4 (kh c l)=v:=by rw[hv];rfl
  rw[hvd];refine aj 29 (.d (vI (c.length:Nat))) J (by rw[hm]<;>rfl)<|gx J<|mkc (fu:=⟨8⟩) (c.length+1) J J J<|aj 33 (.d (vI (c.length:Nat))) J (by rw[hm]<;>rfl)<|gx J<|lp (X:=ao×Nat) (fun⟨o,k⟩=>[(34, .d (vI (k:Nat))),(8, .rw 31)]) (fun⟨o,k⟩=>[(31,some (.c 220 17 (o.map dd) (c.length+1)))]) (fun⟨o,k⟩=>k<=c.length/\o.length<=k/\o++d7 l (c.drop k)=d7 l c) (fun⟨o,k⟩=>c.length-k) ([],0) J ⟨aM _,bK _,J⟩ (fun _=>J) (fun⟨o,k⟩ hk=>?_);dsimp only at hk⊢;obtain⟨h1,h2,h3⟩:=hk;have hmo:=tI dd o;refine br J J J (fun hc35=>?_) (fun hc35=>?_)
  .
   obtain⟨s,hs0⟩: ∃s,c[k]? =some s:=⟨_,aZ (by omega)⟩;have hs:=hc s (aK hs0);haveI:=hs.lb;haveI:=hs.v.lo;haveI:=hs.v.hi;refine ix _ J (ck hs0) J<|cl (fu:=⟨0⟩) J (Lg (l:=s.l) (m:=l) (v:=s.v)) J<|?_;generalize hw:s.l.cutV s.v l=w;generalize hb:s.l.cutB s.v l=b;refine gx J<|bb J J J (fun hc47=>?_) (fun hc47=>?_)
   .
    refine rf J J<|TD ((o++[bw.mk s.l w]).map dd) J (by rw[aS];rfl) (QW [bw.mk s.l w]) (by rw[hmo];simp;omega) J<|d8 54 31 J<|at_ (o++[bw.mk s.l w],k+1) (by dsimp only;exact⟨⟨by omega,by simp;omega,by rw[<-h3,Qn hs0,hb,if_pos hc47,hw,dW];rfl⟩,(by omega)⟩)
   .
    exact at_ (o,k+1) (by dsimp only;exact⟨⟨by omega,by omega,by rw[<-h3,Qn hs0,hb,if_neg (by simp[hc47])]⟩,(by omega)⟩)
  .
   obtain rfl:k=c.length:=by omega
   have ho:o=d7 l c:=by rw[<-h3,fY];simp[d7]
   subst ho;have hbl:=(Dy (ja (d7 l c) l) (d7 l c).length 0 (d7 l c).length (by omega) (by omega)).2;refine cL J (Yb (c:=d7 l c) (l:=l) (Fl hc) (by omega)) J J<|ro J J<|ci ((ld (d7 l c) l v).map dd) J (Zw (c:=d7 l c) (x:=⟨l,v⟩) (i:=fG (ja (d7 l c) l) 0 (d7 l c).length) (cap:=c.length+1) hbl (by omega) (by omega)) J J<|gm 68 J<|rz J (by unfold bD co;rw[hv];rfl)
def Iy{c:ao}{l:aa}[hl:LB l](hlo:l.ok)(hc:d9 c)(hn:c.length<=100000:=by omega):PF GB prog 232 [.sl (c.map dd),cP l] (.tp [.sl ((bD c l).map dd), .sl ((bD c l.rev).map dd),vB (co c l),vB (co c l.rev)]):=by
 refine fn func232 J J ntmps232 J J (fun C=>?_);refine cl J (HF (c:=c) (l:=l) hlo hc hn) J<|cl J (aG0 (l:=l)) J<|cl J (HF (c:=c) (l:=l.rev) hlo.rev hc hn) J<|rz J J
def cU:Tr->List DV
 | .leaf b=>[vI 0,vI 0, .v (.pointer none),vI 0,vI 0, .v (.pointer none),vI 0,vI 0, .v (.pointer none), .v (.pointer none), .v (.pointer none), .v (.bool b)]
 | .node l x y=>[vI (dm (l.a:Rat)),vI (dw (l.a:Rat)),dl (l.a:Rat),vI (dm (l.b:Rat)),vI (dw (l.b:Rat)),dl (l.b:Rat),vI (dm (l.c:Rat)),vI (dw (l.c:Rat)),dl (l.c:Rat), .pt (cU x), .pt (cU y), .v (.bool false)]
def eU(t:Tr):DV:= .pt (cU t)
def rB{b:Bool}:PF GB prog 96 [.v (.bool b)] (eU (.leaf b)):=by
 refine fn func96 J J ntmps96 J J (fun C=>?_);refine gm 5 J<|rz J J
def xp{l:aa}:PF GB prog 166 [cP l,eU x,eU y] (eU (.node l x y)):=by
 refine fn func166 J J ntmps166 J J (fun C=>?_);refine gm 11 J<|rz J J
def qd{b:Bool}:PF GB prog 163 [eU (.leaf b)] (.v (.bool true)):=by
 refine fn func163 J J ntmps163 J J (fun C=>?_);exact rz J J
def ry{l:aa}:PF GB prog 163 [eU (.node l x y)] (.v (.bool false)):=by
 refine fn func163 J J ntmps163 J J (fun C=>?_);exact rz J J
def Yn{l:aa}:PF GB prog 233 [cP l,eU (.node l1 x y),eU u] (eU (.node l (.node l1 x y) u)):=by
 refine fn func233 J J ntmps233 J J (fun C=>?_);refine cl (fu:=⟨0⟩) J ry J<|cB J J J<|cl J xp J<|rz J J
def awm{l:aa}{p:Bool}:PF GB prog 233 [cP l,eU (.leaf p),eU (.node l1 x y)] (eU (.node l (.leaf p) (.node l1 x y))):=by
 refine fn func233 J J ntmps233 J J (fun C=>?_);refine cl (fu:=⟨0⟩) J qd J<|du J J J<|cl (fu:=⟨1⟩) J ry J<|cB J J J<|cl J xp J<|rz J J
def avv{l:aa}{p q:Bool}:PF GB prog 233 [cP l,eU (.leaf p),eU (.leaf q)] (eU (Tr.joinQ l (.leaf p) (.leaf q))):=by
 refine fn func233 J J ntmps233 J J (fun C=>?_);refine cl (fu:=⟨0⟩) J qd J<|du J J J<|cl (fu:=⟨1⟩) J qd J<|du J J J<|bb J J J (fun hc23=>?_) (fun hc23=>?_)
 .
  exact rz J (by rw[show Tr.joinQ l (.leaf p) (.leaf q)= .leaf p by simp[Tr.joinQ,Tr.isLeaf,Tr.code,hc23]];rfl)
 .
  refine cl J xp J<|rz J (by rw[show Tr.joinQ l (.leaf p) (.leaf q)= .node l (.leaf p) (.leaf q) by simp[Tr.joinQ,Tr.isLeaf,Tr.code,hc23]];rfl)
def Th{l:aa}: ∀{x y:Tr},PF GB prog 233 [cP l,eU x,eU y] (eU (Tr.joinQ l x y))
 | .leaf _, .leaf _=>avv
 | .leaf _, .node .. =>awm
 | .node ..,_=>Yn
def WE{b:Bool}:PF GB prog 91 [eU (.leaf b)] (vI (Tr.depth (.leaf b):Nat)):=by
 refine fn func91 J J ntmps91 J J (fun C=>?_);refine cl (fu:=⟨0⟩) J qd J<|mn 4 J<|gx J<|rz J J
def VA{l:aa}(hd:(Tr.node l x y).depth<=1000000)(ihx:PF GB prog 91 [eU x] (vI (Tr.depth x:Nat)))(ihy:PF GB prog 91 [eU y] (vI (Tr.depth y:Nat))):PF GB prog 91 [eU (.node l x y)] (vI (Tr.depth (.node l x y):Nat)):=by
 have hdp:(Tr.node l x y).depth=1+max x.depth y.depth:=J;have hdx:=pJ x.depth y.depth;have hdy:=oS x.depth y.depth;refine fn func91 J J ntmps91 J J (fun C=>?_);refine cl (fu:=⟨0⟩) J ry J<|sh 4 J<|gx J<|cl J ihx J<|cl (hv:=by simp only[ak];exact⟨by omega,by kernel_rfl⟩) J ihy J<|rz J (by show DV.v (.int _ _)= .v (.int _ _);congr 2;split<;>omega)
def yr: ∀{t:Tr},t.depth<=1000000->PF GB prog 91 [eU t] (vI (Tr.depth t:Nat))
 | .leaf _,_=>WE
 | .node l x y,h=>VA h (yr (by have:=pJ x.depth y.depth;have:(Tr.node l x y).depth=1+max x.depth y.depth:=J;omega)) (yr (by have:=oS x.depth y.depth;have:(Tr.node l x y).depth=1+max x.depth y.depth:=J;omega))
def aj1{b:Bool}{c:ao}:PF GB prog 164 [eU (.leaf b), .sl (c.map dd)] (eU (Tr.restrict (.leaf b) c)):=by
 refine fn func164 J J ntmps164 J J (fun C=>?_);refine cl (fu:=⟨0⟩) J qd J<|mn 10 J<|gx J<|rz J J
def akI{l:aa}{c:ao}(hl:LB l)(hlo:l.ok)(hc:d9 c)(hn:c.length+(Tr.node l x y).depth<=100000)(ihx: ∀{c:ao},d9 c->c.length+x.depth<=100000->PF GB prog 164 [eU x, .sl (c.map dd)] (eU (Tr.restrict x c)))(ihy: ∀{c:ao},d9 c->c.length+y.depth<=100000->PF GB prog 164 [eU y, .sl (c.map dd)] (eU (Tr.restrict y c))):PF GB prog 164 [eU (.node l x y), .sl (c.map dd)] (eU (Tr.restrict (.node l x y) c)):=by
 have hdp:(Tr.node l x y).depth=1+max x.depth y.depth:=J;have hdx:=pJ x.depth y.depth;have hdy:=oS x.depth y.depth;have hca:=tC c l;have hcb:=tC c l.rev;refine fn func164 J J ntmps164 J J (fun C=>?_);refine cl (fu:=⟨0⟩) J ry J<|sh 10 J<|gx J<|cl J (Iy (c:=c) (l:=l) hlo hc) J<|bb J J J (fun hc23=>?_) (fun hc23=>?_)
 .
  refine cl J (ihx hc (by omega)) J<|rz J (by rw[Tr.restrict,if_pos hc23];rfl)
 .
  refine bb J J J (fun hc32=>?_) (fun hc32=>?_)
  .
   refine cl J (ihy hc (by omega)) J<|rz J (by rw[Tr.restrict,if_neg (by simp[hc23]),if_pos hc32];rfl)
  .
   refine cl J (ihx (c:=bD c l) (qI hlo hc) (by omega)) J<|cl J (ihy (c:=bD c l.rev) (qI hlo.rev hc) (by omega)) J<|cl J Th J<|rz J (by rw[Tr.restrict,if_neg (by simp[hc23]),if_neg (by simp[hc32])];rfl)
def oB: ∀{t:Tr} {c:ao},t.all LB->t.all aa.ok->d9 c->c.length+t.depth<=100000->PF GB prog 164 [eU t, .sl (c.map dd)] (eU (Tr.restrict t c))
 | .leaf _,_,_,_,_,_=>aj1
 | .node l x y,c,hb,ho,hc,hn=>akI hb.1 ho.1 hc hn (fun h1 h2=>oB hb.2.1 ho.2.1 h1 h2) (fun h1 h2=>oB hb.2.2 ho.2.2 h1 h2)
def Ry(hb:t.all LB)(ho:t.all aa.ok)(hd:t.depth<=100000:=by omega):PF GB prog 92 [eU t] (eU (t.restrict [])):=by
 refine fn func92 J J ntmps92 J J (fun C=>?_);refine cl J (oB (t:=t) (c:=[]) hb ho (fun s h=>by cases h) (by simpa using hd)) J<|rz J J
def Tr.compl:Tr->Tr
 | .leaf b=> .leaf !b
 | .node l x y=> .node l x.compl y.compl
def Tr.chooseQ(op:Int)(b:Bool)(t:Tr)(c:ao):Tr:=
 if op=1\/op=2 then(if b=decide (op=1) then .leaf b else t.restrict c)
 else if op=3/\b=false then .leaf false
 else if b then(t.restrict c).compl else t.restrict c
def Tr.mergeQ(op:Int):Tr->Tr->ao->Tr
 | .leaf b,u,c=>u.chooseQ op b c
 | .node l x y,u,c=>if !co c l.rev then x.mergeQ op u c else if !co c l then y.mergeQ op u c else joinQ l (x.mergeQ op u (bD c l)) (y.mergeQ op u (bD c l.rev))
def Xt{b:Bool}:PF GB prog 98 [eU (.leaf b)] (eU (Tr.compl (.leaf b))):=by
 refine fn func98 J J ntmps98 J J (fun C=>?_);refine cl (fu:=⟨0⟩) J qd J<|mn 4 J<|gx J<|cl J rB J<|rz J J
def V3{l:aa}(ihx:PF GB prog 98 [eU x] (eU (Tr.compl x)))(ihy:PF GB prog 98 [eU y] (eU (Tr.compl y))):PF GB prog 98 [eU (.node l x y)] (eU (Tr.compl (.node l x y))):=by
 refine fn func98 J J ntmps98 J J (fun C=>?_);refine cl (fu:=⟨0⟩) J ry J<|sh 4 J<|gx J<|cl J ihx J<|cl J ihy J<|cl J (xp (l:=l) (x:=x.compl) (y:=y.compl)) J<|rz J J
def uh: ∀{t:Tr},PF GB prog 98 [eU t] (eU (Tr.compl t))
 | .leaf _=>Xt
 | .node _ _ _=>V3 uh uh
def azz{b:Bool}{c:ao}(hb:t.all LB)(ho:t.all aa.ok)(hc:d9 c)(hn:c.length+t.depth<=100000):PF GB prog 289 [vI op, .v (.bool b),eU t, .sl (c.map dd)] (eU (t.chooseQ op b c)):=by
 refine fn func289 J J ntmps289 J J (fun C=>?_);refine br J J J (fun hc10=>?_) (fun hc10=>?_)
 .
  refine br J J J (fun hc10=>?_) (fun hc10=>?_)
  .
   refine bb J J J (fun hc18=>?_) (fun hc18=>?_)
   .
    refine cl J rB J<|rz J (by unfold Tr.chooseQ;simp_all [fh]<;>omega)
   .
    refine cl J (oB (by assumption) (by assumption) (by assumption) (by omega)) J<|rz J (by unfold Tr.chooseQ;simp_all [fh]<;>omega)
  .
   refine br J J J (fun hc13=>?_) (fun hc13=>?_)
   .
    refine bb J J J (fun hc22=>?_) (fun hc22=>?_)
    .
     refine cl J rB J<|rz J (by unfold Tr.chooseQ;simp_all [fh]<;>omega)
    .
     refine bb J J J (fun hc24=>?_) (fun hc24=>?_)
     .
      refine cl J (oB (by assumption) (by assumption) (by assumption) (by omega)) J<|cl J (uh (t:=t.restrict c)) J<|rz J (by unfold Tr.chooseQ;simp_all [fh]<;>omega)
     .
      refine cl J (oB (by assumption) (by assumption) (by assumption) (by omega)) J<|rz J (by unfold Tr.chooseQ;simp_all [fh]<;>omega)
   .
    refine bb J J J (fun hc24=>?_) (fun hc24=>?_)
    .
     refine cl J (oB (by assumption) (by assumption) (by assumption) (by omega)) J<|cl J (uh (t:=t.restrict c)) J<|rz J (by unfold Tr.chooseQ;simp_all [fh]<;>omega)
    .
     refine cl J (oB (by assumption) (by assumption) (by assumption) (by omega)) J<|rz J (by unfold Tr.chooseQ;simp_all [fh]<;>omega)
 .
  refine br J J J (fun hc10=>?_) (fun hc10=>?_)
  .
   refine bb J J J (fun hc18=>?_) (fun hc18=>?_)
   .
    refine cl J rB J<|rz J (by unfold Tr.chooseQ;simp_all [fh]<;>omega)
   .
    refine cl J (oB (by assumption) (by assumption) (by assumption) (by omega)) J<|rz J (by unfold Tr.chooseQ;simp_all [fh]<;>omega)
  .
   refine br J J J (fun hc13=>?_) (fun hc13=>?_)
   .
    refine bb J J J (fun hc22=>?_) (fun hc22=>?_)
    .
     refine cl J rB J<|rz J (by unfold Tr.chooseQ;simp_all [fh]<;>omega)
    .
     refine bb J J J (fun hc24=>?_) (fun hc24=>?_)
     .
      refine cl J (oB (by assumption) (by assumption) (by assumption) (by omega)) J<|cl J (uh (t:=t.restrict c)) J<|rz J (by unfold Tr.chooseQ;simp_all [fh]<;>omega)
     .
      refine cl J (oB (by assumption) (by assumption) (by assumption) (by omega)) J<|rz J (by unfold Tr.chooseQ;simp_all [fh]<;>omega)
   .
    refine bb J J J (fun hc24=>?_) (fun hc24=>?_)
    .
     refine cl J (oB (by assumption) (by assumption) (by assumption) (by omega)) J<|cl J (uh (t:=t.restrict c)) J<|rz J (by unfold Tr.chooseQ;simp_all [fh]<;>omega)
    .
     refine cl J (oB (by assumption) (by assumption) (by assumption) (by omega)) J<|rz J (by unfold Tr.chooseQ;simp_all [fh]<;>omega)
def aor{b:Bool}{c:ao}(hbu:u.all LB)(hou:u.all aa.ok)(hc:d9 c)(hn:c.length+u.depth<=100000):PF GB prog 235 [vI op,eU (.leaf b),eU u, .sl (c.map dd)] (eU (Tr.mergeQ op (.leaf b) u c)):=by
 refine fn func235 J J ntmps235 J J (fun C=>?_);refine cl (fu:=⟨0⟩) J qd J<|mn 14 J<|gx J<|cl J (azz (t:=u) hbu hou hc hn) J<|rz J J
def WP{l:aa}{c:ao}(hl:LB l)(hlo:l.ok)(hc:d9 c)(hn:c.length+(Tr.node l x y).depth+u.depth<=100000)(ihx: ∀{c:ao},d9 c->c.length+x.depth+u.depth<=100000->PF GB prog 235 [vI op,eU x,eU u, .sl (c.map dd)] (eU (Tr.mergeQ op x u c)))(ihy: ∀{c:ao},d9 c->c.length+y.depth+u.depth<=100000->PF GB prog 235 [vI op,eU y,eU u, .sl (c.map dd)] (eU (Tr.mergeQ op y u c))):PF GB prog 235 [vI op,eU (.node l x y),eU u, .sl (c.map dd)] (eU (Tr.mergeQ op (.node l x y) u c)):=by
 have hdp:(Tr.node l x y).depth=1+max x.depth y.depth:=J;have hdx:=pJ x.depth y.depth;have hdy:=oS x.depth y.depth;have hca:=tC c l;have hcb:=tC c l.rev;refine fn func235 J J ntmps235 J J (fun C=>?_);refine cl (fu:=⟨0⟩) J ry J<|sh 14 J<|gx J<|cl J (Iy (c:=c) (l:=l) hlo hc) J<|bb J J J (fun hc34=>?_) (fun hc34=>?_)
 .
  refine cl J (ihx hc (by omega)) J<|rz J (by rw[Tr.mergeQ,if_pos hc34];rfl)
 .
  refine bb J J J (fun hc45=>?_) (fun hc45=>?_)
  .
   refine cl J (ihy hc (by omega)) J<|rz J (by rw[Tr.mergeQ,if_neg (by simp[hc34]),if_pos hc45];rfl)
  .
   refine cl J (ihx (c:=bD c l) (qI hlo hc) (by omega)) J<|cl J (ihy (c:=bD c l.rev) (qI hlo.rev hc) (by omega)) J<|cl J Th J<|rz J (by rw[Tr.mergeQ,if_neg (by simp[hc34]),if_neg (by simp[hc45])];rfl)
def Hv{op:Int}{u:Tr}(hbu:u.all LB)(hou:u.all aa.ok): ∀{t:Tr} {c:ao},t.all LB->t.all aa.ok->d9 c->c.length+t.depth+u.depth<=100000->PF GB prog 235 [vI op,eU t,eU u, .sl (c.map dd)] (eU (Tr.mergeQ op t u c))
 | .leaf _,_,_,_,hc,hn=>aor hbu hou hc (by simp only[Tr.depth] at hn;omega)
 | .node l x y,c,hb,ho,hc,hn=>WP hb.1 ho.1 hc hn (fun h1 h2=>Hv hbu hou hb.2.1 ho.2.1 h1 h2) (fun h1 h2=>Hv hbu hou hb.2.2 ho.2.2 h1 h2)
def sk(n:Bool)(ds:List Nat):Prop:=fe ds/\(n=true->0<ds.length)
instance (n:Bool) (ds:List Nat):Decidable (sk n ds):=inferInstanceAs (Decidable (_/\_))
structure RL where
 na:Bool
 da:List Nat
 nb:Bool
 db:List Nat
 nc:Bool
 dc:List Nat
def RL.d(r:RL):DV:= .ag [.v (.bool r.na),dq r.da, .v (.bool r.nb),dq r.db, .v (.bool r.nc),dq r.dc]
def qb(n:Bool)(ds:List Nat):Int:=if n then-(dv ds:Int) else dv ds
def RL.l(r:RL):aa:=⟨qb r.na r.da,qb r.nb r.db,qb r.nc r.dc⟩
def RL.nm(r:RL):Prop:=sk r.na r.da/\sk r.nb r.db/\sk r.nc r.dc
instance (l:aa):Decidable l.ok:=inferInstanceAs (Decidable (_/\_))
instance (r:RL):Decidable r.nm:=inferInstanceAs (Decidable (_/\_/\_))
structure RL.sm (r:RL):Prop where
 a:bE r.da/\r.da.length<=3
 b:bE r.db/\r.db.length<=3
 c:bE r.dc/\r.dc.length<=3
def avN(n:Bool)(ds:List Nat):(qb n ds).natAbs=dv ds:=by unfold qb;cases n<;>simp
theorem RL.lb{r:RL}(s:r.sm):LB r.l:=by
 have key: ∀(n:Bool) (ds:List Nat),bE ds/\ds.length<=3->(qb n ds).natAbs<2^96:=fun n ds h=>by
  rw[avN];refine cN (mi h.1) ?_;rw[show(2:Nat)^96=4294967296^3 by decide];exact bW (by decide) h.2
 exact⟨key _ _ s.a,key _ _ s.b,key _ _ s.c⟩
def tn(n:Nat)(f:Nat->Bool):List Value:=(List.range n).map fun j=> .bool (f j)
def yl(f:Nat->Bool)(i:Nat):Nat->Bool:=fun j=>f j||Nat.beq j i
def Qb(n:Nat)(f:Nat->Bool):(tn n f).length=n:=by simp[tn]
def HI{f:Nat->Bool}{b:Bool}(h:i<n)(hf:f i=b):(tn n f)[i]? =some (.bool b):=by simp[tn,h,hf]
def Ze{f:Nat->Bool}(e:j≠i):yl f i j=f j:=by
 unfold yl
 cases hb:Nat.beq j i with
 |false=>rw[Bool.or_false]
 |true=>exact absurd (aN hb) e
def Zr{f:Nat->Bool}:yl f i i=true:=by
 unfold yl;rw[oX,sJ]
def VG(n i:Nat)(f:Nat->Bool):(tn n f).set i (.bool true)=tn n (yl f i):=by
 apply lS;intro j;rw[pU];simp only[tn,aX,kV,cY];by_cases hj:j<n
 .rw[qJ hj]
  simp only[lV];by_cases e:i=j
  .subst e;simp[hj,Zr]
  .rw[Ze (fun h=>e h.symm)];simp[e]
 .rw[fQ (by simpa using hj)]
  by_cases e:i=j
  .subst e;simp[hj]
  .simp[e]
def LE(n:Nat):dt (.bool false) n=tn n (fun _=>false):=by
 apply lS;intro j;by_cases hj:j<n
 .rw[HI hj J]
  unfold dt;rw[Hr (aG (.bool false)) n j (by simpa[aG] using hj)];simp[aG,Nat.mod_one]
 .rw[fQ (by rw[oD];simp[aG];omega),fQ (by rw[Qb];omega)]
structure RN where
 g:RL
 l:Int
 r:Int
def RN.d(n:RN):DV:= .ag [.v (.bool n.g.na),dq n.g.da, .v (.bool n.g.nb),dq n.g.db, .v (.bool n.g.nc),dq n.g.dc, .v (.int .i64 n.l), .v (.int .i64 n.r)]
def y7{q:Rat}{v:Value}(h:Is G (dl q) v): ∃p,v= .pointer p:=by
 rcases tq.1 h with⟨_,h⟩|⟨_,h⟩
 .exact⟨_,h⟩
 .obtain⟨b,m,h,_⟩:=lO.1 h;exact⟨_,h⟩
def aFp{l:aa}{v:Value}(h:Is G (cP l) v): ∃n1 d1 p1 n2 d2 p2 n3 d3 p3,v= .agg ⟨[.int .i64 n1, .int .i64 d1, .pointer p1, .int .i64 n2, .int .i64 d2, .pointer p2, .int .i64 n3, .int .i64 d3, .pointer p3]⟩:=by
 obtain⟨m,rfl,g⟩:=ew.1 h;clear h;obtain⟨v1,m,rfl,h1,h⟩:=bi.1 g;obtain⟨v2,m,rfl,h2,h⟩:=bi.1 h;obtain⟨v3,m,rfl,h3,h⟩:=bi.1 h;obtain⟨v4,m,rfl,h4,h⟩:=bi.1 h;obtain⟨v5,m,rfl,h5,h⟩:=bi.1 h;obtain⟨v6,m,rfl,h6,h⟩:=bi.1 h;obtain⟨v7,m,rfl,h7,h⟩:=bi.1 h;obtain⟨v8,m,rfl,h8,h⟩:=bi.1 h;obtain⟨v9,m,rfl,h9,h⟩:=bi.1 h;rw[en] at h;subst h;obtain⟨_,rfl⟩:=y7 h3;obtain⟨_,rfl⟩:=y7 h6;obtain⟨_,rfl⟩:=y7 h9;rw[aH.1 h1,aH.1 h2,aH.1 h4,aH.1 h5,aH.1 h7,aH.1 h8];exact⟨_,_,_,_,_,_,_,_,_,J⟩
def aJh{n:RN}{v:Value}(h:Is G n.d v): ∃x1 x2 x3:SV,v= .agg ⟨[.bool n.g.na, .slice x1.a x1.n x1.c, .bool n.g.nb, .slice x2.a x2.n x2.c, .bool n.g.nc, .slice x3.a x3.n x3.c, .int .i64 n.l, .int .i64 n.r]⟩/\
  Is G n.g.d (.agg ⟨[.bool n.g.na, .slice x1.a x1.n x1.c, .bool n.g.nb, .slice x2.a x2.n x2.c, .bool n.g.nc, .slice x3.a x3.n x3.c]⟩):=by
 obtain⟨m,rfl,g⟩:=ew.1 h;clear h;obtain⟨v1,m,rfl,h1,h⟩:=bi.1 g;obtain⟨v2,m,rfl,h2,h⟩:=bi.1 h;obtain⟨v3,m,rfl,h3,h⟩:=bi.1 h;obtain⟨v4,m,rfl,h4,h⟩:=bi.1 h;obtain⟨v5,m,rfl,h5,h⟩:=bi.1 h;obtain⟨v6,m,rfl,h6,h⟩:=bi.1 h;obtain⟨v7,m,rfl,h7,h⟩:=bi.1 h;obtain⟨v8,m,rfl,h8,h⟩:=bi.1 h;rw[en] at h;subst h;obtain⟨_,x1,_,rfl,_,_⟩:=gw.1 (id h2);obtain⟨_,x2,_,rfl,_,_⟩:=gw.1 (id h4);obtain⟨_,x3,_,rfl,_,_⟩:=gw.1 (id h6)
 cases aH.1 h1;cases aH.1 h3;cases aH.1 h5;cases aH.1 h7;cases aH.1 h8
 exact⟨x1,x2,x3,J,ew.2 ⟨_,J, .cons h1 (.cons h2 (.cons h3 (.cons h4 (.cons h5 (.cons h6 .nil)))))⟩⟩
def wV{v:Value}(h:Is G (eU t) v): ∃p,v= .pointer p:=by
 obtain⟨b,m,h,_⟩:=lO.1 h;exact⟨_,h⟩
def PF.fn0{r:DV}(h: ∀{GB:Gh},PF GB P f ds r){vs:List Value}(hv:IsLs G ds vs):Fn P f vs G (fun v G'=>Is G' r v):=h (GB:=G) G vs (bP.refl G) hv
def Vn(rt:Int)(ns:List RN):DV:= .ag [vI rt, .sl (ns.map RN.d)]
def Q4{l:aa}(h:IsLs G (cU (.node l x y)) m): ∃n1 d1 p1 n2 d2 p2 n3 d3 p3 q r,m=[.int .i64 n1, .int .i64 d1, .pointer p1, .int .i64 n2, .int .i64 d2, .pointer p2, .int .i64 n3, .int .i64 d3, .pointer p3, .pointer q, .pointer r, .bool false]/\
  Is G (cP l) (.agg ⟨[.int .i64 n1, .int .i64 d1, .pointer p1, .int .i64 n2, .int .i64 d2, .pointer p2, .int .i64 n3, .int .i64 d3, .pointer p3]⟩)/\Is G (eU x) (.pointer q)/\Is G (eU y) (.pointer r):=by
 obtain⟨v1,m,rfl,h1,h⟩:=bi.1 h;obtain⟨v2,m,rfl,h2,h⟩:=bi.1 h;obtain⟨v3,m,rfl,h3,h⟩:=bi.1 h;obtain⟨v4,m,rfl,h4,h⟩:=bi.1 h;obtain⟨v5,m,rfl,h5,h⟩:=bi.1 h;obtain⟨v6,m,rfl,h6,h⟩:=bi.1 h;obtain⟨v7,m,rfl,h7,h⟩:=bi.1 h;obtain⟨v8,m,rfl,h8,h⟩:=bi.1 h;obtain⟨v9,m,rfl,h9,h⟩:=bi.1 h;obtain⟨va,m,rfl,ha,h⟩:=bi.1 h;obtain⟨vb,m,rfl,hb,h⟩:=bi.1 h;obtain⟨vc,m,rfl,hc,h⟩:=bi.1 h;rw[en] at h;subst h;obtain⟨_,rfl⟩:=y7 h3;obtain⟨_,rfl⟩:=y7 h6;obtain⟨_,rfl⟩:=y7 h9;obtain⟨_,rfl⟩:=wV ha;obtain⟨_,rfl⟩:=wV hb
 cases aH.1 h1;cases aH.1 h2;cases aH.1 h4;cases aH.1 h5;cases aH.1 h7;cases aH.1 h8;cases aH.1 hc
 exact⟨_,_,_,_,_,_,_,_,_,_,_,J,ew.2 ⟨_,J, .cons h1 (.cons h2 (.cons h3 (.cons h4 (.cons h5 (.cons h6 (.cons h7 (.cons h8 (.cons h9 .nil))))))))⟩,ha,hb⟩
def Vh{b:Bool}(h:IsLs G (cU (.leaf b)) m):m=[.int .i64 0, .int .i64 0, .pointer none, .int .i64 0, .int .i64 0, .pointer none, .int .i64 0, .int .i64 0, .pointer none, .pointer none, .pointer none, .bool b]:=by
 obtain⟨v1,m,rfl,h1,h⟩:=bi.1 h;obtain⟨v2,m,rfl,h2,h⟩:=bi.1 h;obtain⟨v3,m,rfl,h3,h⟩:=bi.1 h;obtain⟨v4,m,rfl,h4,h⟩:=bi.1 h;obtain⟨v5,m,rfl,h5,h⟩:=bi.1 h;obtain⟨v6,m,rfl,h6,h⟩:=bi.1 h;obtain⟨v7,m,rfl,h7,h⟩:=bi.1 h;obtain⟨v8,m,rfl,h8,h⟩:=bi.1 h;obtain⟨v9,m,rfl,h9,h⟩:=bi.1 h;obtain⟨va,m,rfl,ha,h⟩:=bi.1 h;obtain⟨vb,m,rfl,hb,h⟩:=bi.1 h;obtain⟨vc,m,rfl,hc,h⟩:=bi.1 h;rw[en] at h;subst h
 cases aH.1 h1;cases aH.1 h2;cases aH.1 h3;cases aH.1 h4;cases aH.1 h5;cases aH.1 h6;cases aH.1 h7;cases aH.1 h8;cases aH.1 h9;cases aH.1 ha;cases aH.1 hb;cases aH.1 hc
 rfl
def KD: ∀{t:Tr} {A A2 G:Gh} {p:Option Addr} {ob wb:Nat} {lo lo2:Bool} {x:SV} {zs:List ND} {ns:List NQ} {B:List aA},Is A (eU t) (.pointer p)->t.all LB->[GL A G]->[GL A2 G]->ip 8 105 x (zs.map ND.val) B->gO (rH 96 A2) zs ns->zs.length+t.size<=1000000->
  ij prog 162 [.pointer p, .pointer (some ⟨ob,0,none⟩), .pointer (some ⟨wb,0,none⟩)] (⟨ob,[.int .i64 0, .slice x.a x.n x.c],31,lo⟩::⟨wb,[ol ob wb],275,lo2⟩::B) G
   (fun v own' G'=> ∃x' zs' B',v= .int .i64 (t.num zs.length)/\own'=⟨ob,[.int .i64 0, .slice x'.a x'.n x'.c],31,false⟩::⟨wb,[ol ob wb],275,false⟩::B'/\ip 8 105 x' (zs'.map ND.val) B'/\gO (rH 96 G') zs' (ns++t.wr zs.length))
 | .leaf bb,A,A2,G,p,ob,wb,lo,lo2,x,zs,ns,B,h,_,_,_,hB,hz,hle=>by
  obtain⟨n,m,e,hg,hm⟩:=lO.1 (id h)
  cases e
  cases Vh hm
  have hG:th A n _:=⟨hg⟩;have hz':gO (rH 96 G) zs (ns++[]):=by rw[fR];exact hz.imp fun _ _ h=>h.up
  refine ij.intro func162 J J ntmps162 J ?_;intro C _ _;show St C _ _ (⟨ob,[.int .i64 0, .slice x.a x.n x.c],31,false⟩::⟨wb,[ol ob wb],275,false⟩::asB B) _ _;refine sR<|sa J J<|zE<|fj<|sR<|sm J J<|?_;refine sc (zC J J (PF.fn0 qd (.cons (h.up GL.le) .nil)) J ?_);rintro _ G1 _ hv
  cases aH.1 hv
  refine zE<|tc J<|?_;refine fj<|sR<|sm J J<|sn J J<|sf J J<|WU J J J<|zE<|?_
  cases bb
  case true=>
   refine tc J<|sR<|sa J J<|zE<|lu<|?_;exact wG (.tmp J .nil) _ _ (List.Perm.refl _) (List.Sublist.refl _) ⟨x,zs,_,J,J,hB.asB,hz'.imp fun _ _ h=>h.up⟩
  refine rg J<|zK<|sR<|sa J J<|zE<|lu<|?_;exact wG (.tmp J .nil) _ _ (List.Perm.refl _) (List.Sublist.refl _) ⟨x,zs,_,J,J,hB.asB,hz'.imp fun _ _ h=>h.up⟩
 | .node l s u,A,A2,G,p,ob,wb,lo,lo2,x,zs,ns,B,h,hall,_,_,hB,hz,hle=>by
  obtain⟨hlb,hall1,hall2⟩:=id hall;haveI:LB l:=hlb;obtain⟨n,m,e,hg,hm⟩:=lO.1 (id h)
  cases e
  obtain⟨n1,d1,p1,n2,d2,p2,n3,d3,p3,q,r,rfl,hzl,hs,hu⟩:=Q4 hm;have hG:th A n _:=⟨hg⟩;have hxn:=hB.len;have hzn:=hz.len;simp only[Tr.size] at hle;obtain⟨xa,xn,xc⟩:=x;rw[aX] at hxn;simp only[] at hxn;subst hxn;refine ij.intro func162 J J ntmps162 J ?_;intro C _ _;show St C _ _ (⟨ob,[.int .i64 0, .slice xa zs.length xc],31,false⟩::⟨wb,[ol ob wb],275,false⟩::asB B) _ _;replace hB:=hB.asB;generalize asB B=B at hB;refine sR<|sa J J<|zE<|fj<|sR<|sm J J<|?_;refine sc (zC J J (PF.fn0 ry (.cons (h.up GL.le) .nil)) J ?_);rintro _ G1 _ hv
  cases aH.1 hv
  refine zE<|rg J<|?_;refine zK<|sR<|sf J J<|nB J J J<|sO J J<|sa J J<|zE<|fj<|?_;refine uM [⟨ob,[.int .i64 0, .slice xa zs.length xc],31,false⟩] (fun i=>Nat.beq i 11) [(0,true),(1,true),(2,true),(3,true),(4,true),(5,true),(6,false),(7,true),(8,false),(9,false),(10,true),(11,false)] follows (by kernel_rfl)<|?_;refine dF J J J<|qA J J J J<|dM J J J<|dy J (fun _=>nE J) J J<|?_;refine dF J J J<|dy J (fun _=>Fa J vz J) J J<|?_;refine dc J J (zC J J (PF.fn0 (aFJ (l:=l)) (.cons (hzl.up GL.le) .nil)) J ?_);rintro _ G2 _ hv;obtain⟨ia,ib,ic,rfl,hia,hib,hic⟩:=XD hlb.bl hv;refine lA<|dy J (fun _=>wM J) J J<|?_;refine dc J J (Qy J (by rfl) (by rfl) (by decide) (by decide) J ?_);intro b3;refine lA<|?_;refine dc J J (amX (v:=ND.val ⟨ia,ib,ic,0,0⟩) (vs:=zs.map ND.val) [_,_,_] rfl hB J J (xV inferInstance J) J (ND.flat [⟨ia,ib,ic,0,0⟩] _ aQ) (by decide) (by rw[aX];omega) J J ?_);intro x1 B1 hB1;rw[show zs.map ND.val++[ND.val ⟨ia,ib,ic,0,0⟩]=(zs++[(⟨ia,ib,ic,0,0⟩:ND)]).map ND.val by simp] at hB1;show St C _ _ (⟨b3,_,_,true⟩::⟨ob,[.int .i64 0, .slice xa zs.length xc],31,false⟩::⟨wb,[ol ob wb],275,false⟩::B1) _ _;refine lA<|dF J J J<|?_;refine dc J J (yq (cs':=[.int .i64 0, .slice x1.a x1.n x1.c]) J J J (.tl _ _ _ _ _ _ _ _ (.hd ..)) (nb J) J J ?_);refine UG J<|dn<|?_;refine Mn _ (mN _ _) ?_;have hz1:gO (rH 96 G2) (zs++[(⟨ia,ib,ic,0,0⟩:ND)]) (ns++[⟨l,0,0⟩]):=(hz.imp fun _ _ h=>h.up).app (.cons ⟨hia,hib,hic,J,J⟩ .nil);refine fj<|uM [⟨wb,[ol ob wb],275,false⟩] (fun _=>false) [(0,true),(1,true),(2,true),(3,true),(4,true),(5,false),(6,true)] follows (by kernel_rfl)<|?_
  refine qA J J J J<|dM J J J<|dy J (fun _=>nE J) J J<|dF J J J<|dy J (fun _=>si J vz J) J J<|?_;refine dc J J (Bv (c1:=[]) (M:=_::_::B1) (rest:=[]) J J (by rw[fR]) (KD (lo:=false) (lo2:=false) hs hall1 hB1 hz1 (by simp;omega)) J ?_);rintro _ _ G3 fl _ hf _ ⟨x2,PJ,B2,rfl,rfl,hB2,hz2⟩;have e1:fl ob=false:=hf _ aQ J;have e2:fl wb=false:=hf _ (aJ _ aQ) J;replace hB2:=hB2.relo fl;refine HK (own':=⟨ob,[.int .i64 0, .slice x2.a x2.n x2.c],31,false⟩::⟨wb,[ol ob wb],275,false⟩::B2.map (relo fl)) (by simp only[bU,relo,e1,e2,fR]) ?_;generalize B2.map (relo fl)=B2 at hB2;have hl2:=hz2.len;simp only[aY,Tr.wr_len,fZ] at hl2;refine lA<|dA J J J<|dn<|fj<|uM [⟨wb,[ol ob wb],275,false⟩] (fun _=>false) [(0,true),(1,true),(2,true),(3,true),(4,true),(5,false),(6,true)] follows (by kernel_rfl)<|?_;refine qA J J J J<|dM J J J<|dy J (fun _=>nE J) J J<|dF J J J<|dy J (fun _=>si J vz J) J J<|?_;refine dc J J (Bv (c1:=[]) (M:=_::_::B2) (rest:=[]) J J (by rw[fR]) (KD (lo:=false) (lo2:=false) hu hall2 hB2 hz2 (by omega)) J ?_);rintro _ _ G4 fl _ hf _ ⟨x3,zm,B3,rfl,rfl,hB3,hz3⟩;have e3:fl ob=false:=hf _ aQ J;have e4:fl wb=false:=hf _ (aJ _ aQ) J;replace hB3:=hB3.relo fl;refine HK (own':=⟨ob,[.int .i64 0, .slice x3.a x3.n x3.c],31,false⟩::⟨wb,[ol ob wb],275,false⟩::B3.map (relo fl)) (by simp only[bU,relo,e3,e4,fR]) ?_;generalize B3.map (relo fl)=B3 at hB3;have hl3:=hz3.len;simp only[aY,Tr.wr_len,fZ] at hl3;have hn3:zs.length<zm.length:=by omega
  rcases hB3 with⟨h1,_,_⟩|⟨nb,rest,lo3,hx3,rfl,hf1,hf2,hf3⟩
  .have:=congrArg List.length h1;rw[aX,dS] at this;omega
  obtain⟨x3a,x3n,x3c⟩:=x3;simp only[SV.mk.injEq] at hx3;obtain⟨rfl,rfl,_⟩:=hx3;rw[aX] at hf3;have hzz:ns.length=zs.length:=hzn.symm;obtain⟨zn,hzn1,hzn2⟩:=hz3.get (i:=zs.length) (b:=⟨l,0,0⟩) (by rw[dW,dW,<-hzz,jU (bK _),pS];rfl);obtain⟨_,hzn3⟩:=aR.1 hzn1;have hL1:(zs++[(⟨ia,ib,ic,0,0⟩:ND)]).length=zs.length+1:=by simp
  have hL2:PJ.length=zs.length+1+s.size:=by omega
  rw[hL1] at hz3;rw[hL1,hL2];rw[hL2] at hz3;refine lA<|dA J J J<|dn<|?_;refine fj<|uM [⟨ob,[.int .i64 0, .slice (some ⟨nb,0,none⟩) (zm.map ND.val).length x3c],31,false⟩] (fun _=>false) [(0,true),(1,true),(2,true),(3,true),(4,true),(5,true),(6,true),(7,true),(8,true),(9,true),(10,false),(11,true),(12,true),(13,false)] follows (by kernel_rfl)<|?_;refine dF J J J<|qA J J J J<|dM J J J<|dF J J J<|?_;refine qA J J J J<|dM J J J<|dM J J J<|dM J J J<|dy J (fun _=>ux J J (by omega) (by rw[aX];omega)) J J<|?_;refine dF J J J<|?_;refine dc J J (ut J J (.tl _ _ _ _ _ _ _ _ (.tl _ _ _ _ _ _ _ _ (.hd ..))) (by rw[aY,hf1,aX,cK];omega) J J ?_);rw[cK,Mr zm rest zs.length 6 _ {zn with l:=s.num (zs.length+1)} hn3 (by decide) (by rw[hzn3];rfl)];refine lA<|dy J (fun _=>ux J J (by omega) (by rw[aX];omega)) J J<|dF J J J<|?_;refine dc J J (ut J J (.tl _ _ _ _ _ _ _ _ (.tl _ _ _ _ _ _ _ _ (.hd ..))) (by rw[aY,eH (s:=8) _ (ND.len8 _),aX,bQ,cK];omega) J J ?_);rw[cK,Mr (zm.set zs.length _) rest zs.length 7 _ {zn with l:=s.num (zs.length+1),r:=u.num (zs.length+1+s.size)} (by rw[bQ];exact hn3) (by decide) (by rw[List.getElem_set_self];rfl)];refine lA<|dn<|sR<|sm J J<|sa J J<|zE<|lu<|?_;have hfin:=hz3.set (a:={zn with l:=s.num (zs.length+1),r:=u.num (zs.length+1+s.size)}) (b:=⟨l,s.num (zs.length+1),u.num (zs.length+1+s.size)⟩) ⟨hzn2.a,hzn2.b,hzn2.c,J,J⟩ zs.length;have hns:(ns++[(⟨l,0,0⟩:NQ)]++s.wr (zs.length+1)++u.wr (zs.length+1+s.size)).set zs.length ⟨l,s.num (zs.length+1),u.num (zs.length+1+s.size)⟩=ns++(Tr.node l s u).wr zs.length:=by
   rw[dW,dW,nT _ _ (by omega),hzz,pS];simp[Tr.wr]
  rw[hns] at hfin;refine wG (.tmp J .nil) _ _ (List.Perm.refl _) (List.Sublist.refl _) ⟨⟨some ⟨nb,0,none⟩,(zm.map ND.val).length,x3c⟩,_,_,J,J,?_,hfin⟩;refine .inr ⟨nb,rest,lo3,by simp,by rw[List.set_set],?_,?_,?_⟩
  .rw[eH (s:=8) _ (ND.len8 _)]
  .rw[eH (s:=8) _ (ND.len8 _),aX,bQ];rw[hf1,aX] at hf2;exact hf2
  .rw[aX,bQ];exact hf3
def aID(hb:t.all LB)(hs:t.size<=1000000):PF GB prog 90 [eU t] (eA t):=by
 intro G vs _ hv;obtain⟨v0,m,rfl,h,hm⟩:=bi.1 hv;rw[en] at hm;subst hm;obtain⟨p,rfl⟩:=wV h;refine Fn.intro func90 J J ntmps90 J ?_;intro C _ hC;refine sR<|?_;refine sc (uD J ?_);intro b1;refine zE<|sR<|?_;refine sc (uD J ?_);intro b2;refine zE<|sR<|?_;refine sc (uD J ?_);intro b3;refine zE<|sR<|sy (I6 J J) J<|?_;refine sc (yq (cs':=[ol b2 b3]) J J J (.hd ..) (nb J) J J ?_);refine zE<|sR<|nB J J J<|sm J J<|?_;refine sc (Bv (c1:=[]) (M:=[⟨b2,[.int .i64 0, .slice none 0 0],31,true⟩,⟨b3,[ol b2 b3],275,true⟩]) (rest:=[⟨b1,[.int .i64 0, .slice none 0 0],31,true⟩]) J J (List.Perm.swap ..) (KD (A:=G) (A2:=G) (x:=⟨none,0,0⟩) (zs:=[]) (ns:=[]) (B:=[]) h hb (ip.nil ..) .nil (by simpa using hs)) J ?_);rintro _ _ G4 fl _ _ hf ⟨x,zs,B,rfl,rfl,hB,hz⟩;have e1:=hf (by simp) b2;have e2:=hf (by simp) b3;replace hB:=hB.relo fl;refine HK (own':=⟨b2,[.int .i64 0, .slice x.a x.n x.c],31,true⟩::⟨b3,[ol b2 b3],275,true⟩::(B.map (relo fl)++[⟨b1,[.int .i64 0, .slice none 0 0],31,true⟩])) (by simp only[bU,relo,e1,e2,gW]) ?_;generalize B.map (relo fl)=B at hB;refine AI (⟨b2,[.int .i64 0, .slice x.a x.n x.c],31,true⟩::⟨b3,[ol b2 b3],275,true⟩::⟨b1,[.int .i64 0, .slice none 0 0],31,true⟩::B) ((jQ (l₁:=B) (l₂:=[_])).cons _ |>.cons _) ?_;refine sf J J<|?_;refine sc (yq (cs':=[.int .i64 (t.num 0), .slice x.a x.n x.c]) J J J (.hd ..) (nb J) J J ?_);refine zE<|sR<|EB J J J<|?_;refine sc (DI (cs':=[.int .i64 (t.num 0), .slice x.a x.n x.c]) J J J (.tl _ _ _ _ _ _ _ _ (.tl _ _ _ _ _ _ _ _ (.hd ..))) J (nb J) J J ?_)
 refine zE<|?_;refine XP (L:=[_,_,_]) hC hB (ND.len8 _) ?_;intro G5 _ hsl;show St C _ _ [⟨b2,_,_,true⟩,⟨b3,_,_,true⟩,⟨b1,[.int .i64 (t.num 0), .slice x.a x.n x.c],31,true⟩] _ _;refine lu<|?_;exact zD (.agg J ii ii J .nil) (Vj (k:=96) ⟨zs,hsl,by rw[jM] at hz;exact hz.imp fun _ _ h=>h.up⟩)
def Tr.pre:Tr->List Tr
 | .leaf b=>[.leaf b]
 | .node l x y=> .node l x y::(x.pre++y.pre)
structure LJ (f:FuncId) (c2:List Value) (σ:Type) (step:σ->Tr->σ) (ok:σ->Tr->Prop) (Inv:σ->List aA->Gh->Prop):Prop where
 up: ∀{s B G G'},bP G G'->Inv s B G->Inv s B G'
 re: ∀{s B G} (fl:Nat->Bool),Inv s B G->Inv s (B.map (relo fl)) G
 go: ∀{s t p B G},ok s t->Inv s B G->Is G (eU t) (.pointer p)->ij prog f (.pointer p::c2) B G (fun _ B' G'=>Inv (step s t) B' G')
section
variable {own:List aA}
def Jt{fn:Func}{vs:List Value}(hr:jG P fr own fn.results.toList vs)(own2 own3:List aA)(hp:own.Perm own2)(hs:own3.Sublist own2)(hk:K (nO vs) own3 G):St C n fr own G (fg C P fn (r4 C K) .normal):=
 fun a w rl hmk=>⟨rl.df.trans hmk,_,tg hr rl.fr rl.h,_,own3,G,J,(rl.h.perm hp).drop hs,hk⟩
end
def wE{σ:Type}(step:σ->Tr->σ)(ok:σ->Tr->Prop):σ->List Tr->Prop
 |_,[]=>True
 |s,t::ts=>ok s t/\wE step ok (step s t) ts
structure EX (σ:Type) where
 ts:List Tr
 vs:List Value
 rest:List Value
 b:Nat
 cap:Nat
 lo:Bool
 s:σ
 B:List aA
def qG(t:Tr):Nat:=2*t.size+1
def aCM(ts:List Tr):ts.length<=(ts.map qG).sum:=by
 induction ts with
 |nil=>exact bK _
 |cons t ts ih=>simp only[bZ,bU,tQ,qG];omega
def pE(ts:List Tr):List Tr:=ts.reverse.flatMap Tr.pre
structure EI (A:Gh) {σ:Type} (step:σ->Tr->σ) (ok:σ->Tr->Prop) (Inv:σ->List aA->Gh->Prop) (N:Nat) (fin:σ) (x:EX σ) (G:Gh):Prop where
 rel:gO (fun v t=> ∃p,v= .pointer p/\Is A (eU t) (.pointer p)) x.vs x.ts
 cap:x.vs.length+x.rest.length=x.cap
 inv:Inv x.s x.B G
 mu:(x.ts.map qG).sum<=N
 okf:wE step ok x.s (pE x.ts)
 fin:(pE x.ts).foldl step x.s=fin
def FU{α β:Type}{R:α->β->Prop}{v:α}{t:β}: ∀{vs:List α} {ts:List β},gO R (vs++[v]) (ts++[t])->gO R vs ts/\R v t
 |[],[], .cons h .nil=>⟨.nil,h⟩
 |[],_::b, .cons _ h=>by cases b<;>cases h
 |_::a,[], .cons _ h=>by cases a<;>cases h
 |_::_,_::_, .cons h k=>⟨.cons h (FU k).1,(FU k).2⟩
def aFU{step:σ->Tr->σ}{ok:σ->Tr->Prop}{Inv:σ->List aA->Gh->Prop}(V:LJ f c2 σ step ok Inv){p:Option Addr}{s:σ}{B:List aA}
  (h:Is G (eU t) (.pointer p))(hI:Inv s B G)(hok:wE step ok s t.pre)(hs:t.size<=1000000000000):
  ij prog 290 [.pointer p, .func (.func f) #[] ⟨c2⟩] B G (fun _ B' G'=>Inv (t.pre.foldl step s) B' G'):=by
 refine ij.intro func290 J J ntmps290 J ?_;intro C _ _;refine sR<|sm J J<|?_;refine sc (Qy J (by rfl) (by rfl) (by decide) (by decide) J ?_);intro b1;refine sa J J<|zE<|vL<|?_;refine K9 (X:=EX σ) (fun x=>[(4, .slice (some ⟨x.b,0,none⟩) x.vs.length x.cap),(1, .func (.func f) #[] ⟨c2⟩)]) (fun x=>⟨x.b,x.vs++x.rest,152,x.lo⟩::x.B) (EI G step ok Inv (qG t) (t.pre.foldl step s)) (fun x=>(x.ts.map qG).sum)
  ⟨[t],[.pointer p],[],b1,1,true,s,asB B⟩ ⟨.cons ⟨p,J,h⟩ .nil,J,V.re (fun _=>false) hI,by simp,by simpa[pE] using hok,by simp[pE]⟩ (.cons J (.cons J .nil)) J ?_
 rintro ⟨ts,vs,rest,b,cap,lo,s1,B1⟩ Gx _ ⟨hrel,hcap,hinv,hmu,hokf,hfin⟩;simp only at hrel hcap hinv hmu hokf hfin;have hln:=hrel.len;have hlt:=aCM ts;unfold qG at hmu hlt;refine fj<|sR<|sm J J<|sO J J<|sy (Ah J J) J<|zE<|?_;refine O' J (fun hc=>?_) (fun hc=>?_)
 .refine NV<|Dd<|Dd<|KT<|?_
  refine Jt .nil _ _ (List.Perm.refl _) (mN _ _) ?_;obtain rfl:ts=[]:=by
   cases ts with
   |nil=>rfl
   |cons a l=>simp only[bZ] at hln;exfalso;apply hc;show(0:Int)<(vs.length:Int);omega
  have:s1=t.pre.foldl step s:=hfin;rw[<-this];exact hinv
 refine zK<|?_;obtain⟨vs,v,rfl⟩: ∃vs' v',vs=vs'++[v']:=by
  rcases nR vs with e|⟨a,b,e⟩
  .subst e;simp at hc
  .exact⟨a,b,by rw[e,nS]⟩
 obtain⟨ts,u,rfl⟩: ∃vs' v',ts=vs'++[v']:=by
  rcases nR ts with e|⟨a,b,e⟩
  .subst e;simp at hln
  .exact⟨a,b,by rw[e,nS]⟩
 obtain⟨hrel1,q,rfl,hq⟩:=FU hrel;have hl1:(vs++[Value.pointer q]).length=vs.length+1:=by simp
 have hst:pE (ts++[u])=u.pre++pE ts:=by simp[pE]
 rw[hst] at hokf hfin;simp only[aS,tJ,bU,iZ,tQ,List.sum_nil,gK,aY,fZ] at hmu hlt hln hcap;refine aAb [(4,Value.slice (some ⟨b,0,none⟩) (vs.length+1:Nat) cap),(1, .func (.func f) #[] ⟨c2⟩)] (.cons (by show some (Value.slice _ (vs++[Value.pointer q]).length _)=_;rw[hl1]) (.cons J .nil)) ?_;refine vL<|sR<|sm J J<|sO J J<|sy (azA J J) J<|sa J J<|zE<|sR<|sm J J<|?_;rw[show((vs.length+1:Nat):Int)-1=(vs.length:Nat) by omega];refine sm J J<|sy (ux J J) J<|?_;refine sy (nH (v:=Value.pointer q) J (by rw[cK,jJ,dW,jU (bK _),pS];rfl)) J<|sa J J<|zE<|sR<|sm J J<|sm J J<|sy (DP J J) J<|?_;rw[cK];refine sa J J<|zE<|sR<|sm J J<|sm J J<|?_;have hokq:ok s1 u/\wE step ok (step s1 u) (u.pre.tail++pE ts):=by cases u<;>exact hokf
 refine sc (Bv (c1:=[]) (M:=B1) (rest:=[⟨b,vs++[Value.pointer q]++rest,152,lo⟩]) J J (jQ (l₁:=[_])) (V.go hokq.1 hinv (hq.up GL.le)) J ?_);rintro _ B2 G2 fl _ _ _ hinv2;replace hinv2:=V.re fl hinv2;refine AI (⟨b,vs++Value.pointer q::rest,152,lo⟩::B2.map (relo fl)) (by rw[dW];exact(jQ (l₂:=[_]))) ?_;generalize B2.map (relo fl)=B2 at*;refine zE<|sR<|sm J J<|?_
 cases u with
 |leaf bb=>
  refine sc (zC J J (PF.fn0 qd (.cons (hq.up GL.le) .nil)) J ?_);rintro _ G3 _ hv
  cases aH.1 hv
  refine sy (t6 J) J<|zE<|rg J<|zK<|?_;exact H9 ⟨ts,vs,Value.pointer q::rest,b,cap,lo,step s1 (.leaf bb),B2⟩ ⟨hrel1,by simp only[bZ];omega,V.up GL.le hinv2,by simp only;unfold qG;omega,hokq.2,hfin⟩ (by simp only[aS,tJ,bU,iZ,tQ,List.sum_nil];unfold qG;omega) (.cons J (.cons J .nil)) J
 |node l x y=>
  obtain⟨nbk,m,e,hg,hm⟩:=lO.1 (id hq)
  cases e
  obtain⟨n1,d1,p1,n2,d2,p2,n3,d3,p3,q1,q2,rfl,_,hx,hy⟩:=Q4 hm;have hgg:th G nbk _:=⟨hg⟩;refine sc (zC J J (PF.fn0 ry (.cons (hq.up GL.le) .nil)) J ?_);rintro _ G3 _ hv
  cases aH.1 hv
  refine sy (t6 J) J<|zE<|tc J<|?_;refine uM [] (fun _=>false) [(0,true),(1,true),(2,true),(3,true),(4,true),(5,true),(6,true),(7,true),(8,true),(9,false),(10,false),(11,true)] follows (by kernel_rfl)<|dM J J J<|?_;refine dM J J J<|dy J (fun _=>nE J) J J<|dF J J J<|dy J (fun _=>si J vz J) J J<|?_;refine dM J J J<|dy J (fun _=>nE J) J J<|dF J J J<|dy J (fun _=>si J vz J) J J<|?_;refine dc J J (Rv (by rfl) (by rfl) (by rfl) (by rfl) J ?_);intro b3;refine lA<|?_;refine dc J J (Hn (m:=2) (xs:=vs) (ys:=[Value.pointer q2,Value.pointer q1]) (rest:=Value.pointer (some ⟨nbk,0,none⟩)::rest) J J (.tl _ _ _ _ (.hd ..)) (by omega) (by simp only[bZ];omega) (by omega) (xV inferInstance J) J (by simp[Sx.flat]) (by decide) (by omega) (by rfl) J ?_);intro b4 lo4 cap4 rest4 h1 h2;refine lA<|dA J J J<|dn<|?_;have hsz:(Tr.node l x y).size=1+x.size+y.size:=J;refine Mn (⟨b4,vs++[Value.pointer q2,Value.pointer q1]++rest4,152,lo4⟩::B2) (.cons_cons _ (mN _ _)) ?_;have hs2:pE (ts++[y,x])=x.pre++y.pre++pE ts:=by simp[pE]
  refine H9 ⟨ts++[y,x],vs++[Value.pointer q2,Value.pointer q1],rest4,b4,cap4,lo4,step s1 (.node l x y),B2⟩ ⟨hrel1.app (.cons ⟨_,J,hy⟩ (.cons ⟨_,J,hx⟩ .nil)),by simp only[aY,bZ,dS];omega,V.up GL.le hinv2,?_,?_,?_⟩ ?_ (.cons (by show some (Value.slice _ (vs.length+2) _)=some (Value.slice _ (vs++[_,_]).length _);rw[aY];rfl) (.cons J .nil)) J
  .simp only[aS,tJ,bU,iZ,tQ,List.sum_nil];unfold qG;omega
  .simp only;rw[hs2];exact hokq.2
  .simp only;rw[hs2];exact hfin
  .simp only[aS,tJ,bU,iZ,tQ,List.sum_nil];unfold qG;omega
def U6{own:List aA}{Φ:Act->World->Prop}{dst:Option Nat}{ty':TypeId}{pos:String}{af:Array Edge}{gd:Option (Nat×Bool)}{fo:Operand}{args:Array Operand}{tys:Array TypeId}{vs:List Value}{rest:List aA}(ho:aB fr fo=some (.func (.func f) #[] #[]))(hv:fm fr args.toList=some vs)
  (hp:own.Perm (M++rest))(hF:ij P f vs M G K)(hd:cj n dst=true)
  (h: ∀v own1 (G':Gh) (fl:Nat->Bool),[GE G G']->(∀m∈M,m.lo=false->fl m.b=false)->((∀m∈M,m.lo=true)-> ∀b,fl b=true)->K v own1 G'->St C n (put fr dst v) (own1.map (relo fl)++rest) G' Φ):
  Ch P C n fr own G ⟨dst, .call ⟨.value fo,args,tys⟩,ty',pos,af,gd⟩ Φ:=
 Bv (c1:=[]) (c2:=[]) ho hv hp (by simpa using hF) hd h
def V5(nbk:Nat)(s:Nat)(B:List aA)(_:Gh):Prop:= ∃lo,B=[⟨nbk,[.int .i64 s],3,lo⟩]
def sF(s:Nat):Tr->Nat
 | .leaf _=>s
 | .node .. =>s+1
def Wl(nbk:Nat):LJ 291 [.pointer (some ⟨nbk,0,none⟩)] Nat sF (fun s _=>s<1000000000000) (V5 nbk) where
 up:=fun _ h=>h
 re:=fun{s B G} fl h=>by obtain⟨lo,rfl⟩:=h;exact⟨_,rfl⟩
 go:=by
  intro s t p B G hs hI ht;obtain⟨lo,rfl⟩:=hI;refine ij.intro func291 J J ntmps291 J ?_;intro C _ _;show St C _ _ [⟨nbk,_,_,false⟩] _ _
  cases t with
  |node l x y=>
   refine sR<|sm J J<|?_;refine sc (zC J J (PF.fn0 ry (.cons ht .nil)) J ?_);rintro _ G1 _ hv
   cases aH.1 hv
   refine sy (t6 J) J<|zE<|tc J<|CD<|nB J J J<|sy (wj J J) J<|?_;refine sc (yq J J J (.hd ..) (nb J) J J ?_);refine zE<|?_;exact Jt .nil _ _ (List.Perm.refl _) (List.Sublist.refl _) ⟨false,by show [_]=[_];rfl⟩
  |leaf b=>
   refine sR<|sm J J<|?_;refine sc (zC J J (PF.fn0 qd (.cons ht .nil)) J ?_);rintro _ G1 _ hv
   cases aH.1 hv
   refine sy (t6 J) J<|zE<|rg J<|zK<|?_;exact Jt .nil _ _ (List.Perm.refl _) (List.Sublist.refl _) ⟨false,J⟩
def J2: ∀(t:Tr) (s:Nat),t.pre.foldl sF s=s+t.size
 | .leaf _,s=>rfl
 | .node l x y,s=>by
  simp only[Tr.pre,iK,lN,sF,J2 x,J2 y,Tr.size];omega
def JR: ∀(t:Tr) (s:Nat) (L:List Tr),s+t.size<1000000000000->(∀s',s'=s+t.size->wE sF (fun s _=>s<1000000000000) s' L)->wE sF (fun s _=>s<1000000000000) s (t.pre++L)
 | .leaf _,s,L,h,k=>⟨by simp only[Tr.size] at h;omega,k _ J⟩
 | .node l x y,s,L,h,k=>by
  simp only[Tr.size] at h k;simp only[Tr.pre,gW,dW];exact⟨by omega,JR x _ _ (by simp only[sF];omega) fun s1 e1=>JR y _ _ (by subst e1;simp only[sF];omega) fun s2 e2=>k _ (by subst e1 e2;simp only[sF];omega)⟩
def aFa(hs:t.size<1000000000000):PF GB prog 236 [eU t] (vI (t.size:Nat)):=by
 intro G vs _ hv;obtain⟨v0,m,rfl,h,hm⟩:=bi.1 hv;rw[en] at hm;subst hm;obtain⟨p,rfl⟩:=wV h;refine Fn.intro func236 J J ntmps236 J ?_;intro C _ _;refine sR<|sa J J<|zE<|sR<|?_;refine sc (uD J ?_);intro b1;refine sc (yq J J J (.hd ..) (nb J) J J ?_);refine zE<|sR<|sm J J<|sy (I6 J J) J<|?_;have hok:wE sF (fun s _=>s<1000000000000) 0 t.pre:=by
  have:=JR t 0 [] (by omega) (fun _ _=>trivial);rwa [fR] at this
 refine sc (U6 (M:=[⟨b1,[.int .i64 0],3,true⟩]) (rest:=[]) J J (List.Perm.refl _) (aFU (Wl b1) h ⟨true,J⟩ hok (by omega)) J ?_);rintro _ B G2 fl _ _ _ ⟨lo,rfl⟩;rw[J2,eY];show St C _ _ [⟨b1,[.int .i64 t.size],3,_⟩] _ _;refine zE<|sR<|nB J J J<|sa J J<|zE<|lu<|?_;exact zD (.tmp J .nil) (aH.2 J)

end Go.Sx
end
section
namespace Go.Sx
open Go Go.Proofs Go.RowKit Go.Extern.Stop Go.Stop Go.Extern
def K0(a:Addr):DV:= .v (.iface 433 (.pointer (some a)))
end Go.Sx
end
section
namespace Go.Sx
open Go Go.Proofs Tryz
variable {n g d nm0 nm k ty s:Nat}{own' own1:aI}{f:FX}{Φ:Act->World->Prop}{K:List Kt}{c:Code}{ty0:TypeId}{lo:Bool}
section
variable {GB:Gh}{C:aE}{Q0:Exit->Act->World->Prop}{fr fr':aD}{own:aI}{cf cf':Cf}{vc:List Prop}
def Sf(fr:aD)(cf:Cf):Option Nat:=match c6 fr cf with
 |some ⟨_, .load t (.global g),_,_,_,_⟩=>(match d6 tt t with
  |some i=>match i.ag with
   |some none=>some g
   |_=>none
  |none=>none)
 |_=>none
def gl[fu:Fu]{v:Value}(h:Sf fr cf=some g)(hg:GB g=some [v])(hgo:cH tt n fu.n fr own cf (.d (.v v)) [] []=⟨vc,fr',own',cf'⟩)(k:av prog GB C n Q0 fr' own' cf')
  (hv:autoParam (ak vc) cL._auto_1):av prog GB C n Q0 fr own cf:=by
 unfold Sf at h;split at h<;>try (cases h;done)
 rename_i hh;split at h<;>try (cases h;done)
 rename_i i hT;split at h<;>cases h;rename_i ha;haveI:=wC (ez _ _ hT) ha;refine us (f:= .d (.v v)) hh (b8.yd fun ρ G ov a w r=>⟨v,(aH (G:=G)).2 J,?_⟩) hgo hv k;haveI:th G g [v]:=⟨r.gb _ _ hg⟩;exact si (b:=g) (off:=0) J vz J
def S8{x:DV}(hl:aO fr d=some f)(e:jp f=some x)(h:SX GB C n (aO ((d, .d x)::fr)) (bu own) Φ):SX GB C n (aO fr) (bu own) Φ:=nv (g:= .d x) hl (fun _ _ _ k=>mv k e) h
def S7(d:Nat)(x:DV){e:Exit}(hl:aO fr d=some f)(e1:jp f=some x)(k:av prog GB C n Q0 ((d, .d x)::fr) own (.ex e K)):av prog GB C n Q0 fr own (.ex e K):=S8 hl e1 k
def S4(d:Nat)(x:DV)(hl:aO fr d=some f)(e1:jp f=some x)(k:av prog GB C n Q0 ((d, .d x)::fr) own (.code c K)):av prog GB C n Q0 fr own (.code c K):=S8 hl e1 k
def Z'{B1 B2:Option Bk}:bu (n5 (n5 own nm0 B1) nm B2)=upB (upB (bu own) [(nm0,B1)]) [(nm,B2)]:=by
 funext j;rw[AF];simp only[upB];rw[AF]
def Zg(hnm:Nat.blt nm 2000000=true){cs:List FX}(hb:bu own nm0=some (.o ty0 cs lo))(hk:cs[k]? =some .nl)(hne:nm0≠nm)(hf:ke [nm] none (aO fr) (bu own))
  (h:SX GB C n (aO fr) (bu (n5 (n5 own nm0 (some (.o ty0 (cs.set k (.rw nm)) lo))) nm (some (.b ty s [] true)))) Φ):SX GB C n (aO fr) (bu own) Φ:=by
 refine⟨fun ρ G ov a w r=>?_⟩;obtain⟨f1,f2⟩:=hf nm aQ;rw[Z'] at h;refine h.run (fun k=>if k=nm then⟨none,0,0⟩ else ρ k) G ov a w ⟨r.gb,r.h,r.sz,r.df,fun k f e=>?_,fun m B e=>?_,fun m m' B B' e e' hne=>?_,fun m p h1 h2 e=>by
  have:nm<2000000:=by simpa[kM] using hnm
  show(if m=nm then(⟨none,0,0⟩:SV) else ρ m).a=_;rw[if_neg (by omega)];exact r.fxd m p h1 h2 e⟩
 .obtain⟨v,h1,h2⟩:=r.fx k f e
  exact⟨v,h1,h2.ren fun m hm=>uC _ fun hc=>f1 k f (by simp) e (by rw[hm,hc])⟩
 .simp only[upB] at e
  by_cases hm:m=nm
  .subst hm;simp only[if_true] at e;cases e
   exact⟨[],⟨[],by simp only[if_true];exact .inl ⟨J,J,J⟩, .nil,by simp,fun _ o ho=>by cases ho⟩,fun o ho=>by cases ho⟩
  .simp only[hm,if_false] at e
   by_cases hm0:m=nm0
   .subst hm0;simp only[if_true] at e;cases e
    obtain⟨os,h1,h2⟩:=r.bx m _ hb;have h1':k9 (fun k=>if k=nm then⟨none,0,0⟩ else ρ k) G m (.o ty0 cs lo) os:=h1.ren (if_neg hm) fun q hq=>uC _ fun hc=>f2 m _ hm hb (by rw[<-hc];exact hq);obtain⟨b,ms,k1,k2,k3⟩:=h1';refine⟨os,⟨b,ms,k1,k2,?_⟩,h2⟩;obtain⟨y,e1,e2⟩:=k3.get hk;have:=k3.set (f:= .rw nm) (y:=y) k (by show y=_;simp only[if_true];exact e2);rwa [show ms.set k y=ms by apply lS;intro j;rw[pU];split<;>(try rfl);rename_i hj;subst hj;split<;>simp_all] at this
   .simp only[hm0,if_false] at e
    obtain⟨os,h1,h2⟩:=r.bx m B e;exact⟨os,h1.ren (if_neg hm) fun q hq=>uC _ fun hc=>f2 m B hm e (by rw[<-hc];exact hq),h2⟩
 .intro b hbb hb'
  have key: ∀q B,upB (upB (bu own) [(nm0,some (.o ty0 (cs.set k (.rw nm)) lo))]) [(nm,some (.b ty s [] true))] q=some B->q≠nm-> ∃B0,bu own q=some B0:=fun q B eq hq=>by
   simp only[upB,hq,if_false] at eq;by_cases hq0:q=nm0
   .subst hq0;exact⟨_,hb⟩
   .simp only[hq0,if_false] at eq;exact⟨_,eq⟩
  by_cases hm:m=nm
  .simp[hm] at hbb
  .by_cases hm':m'=nm
   .simp[hm'] at hb'
   .obtain⟨B0,g0⟩:=key m B e hm
    obtain⟨B1,g1⟩:=key m' B' e' hm';simp only[hm,hm',if_false] at hbb hb';exact r.dj m m' B0 B1 g0 g1 hne b hbb hb'
def Hm(nm0 k nm ty s:Nat){cs:List FX}(hb:bu own nm0=some (.o ty0 cs lo))(hk:cs[k]? =some .nl)(hf:uO [nm] none fr own=true)(hne:Nat.beq nm0 nm=false)
  (ho:n5 (n5 own nm0 (some (.o ty0 (cs.set k (.rw nm)) lo))) nm (some (.b ty s [] true))=own1)(h:av prog GB C n Q0 fr own1 (.code c K))(hnm:Nat.blt nm 2000000=true:=by rfl):av prog GB C n Q0 fr own (.code c K):=by
 subst ho;exact Zg hnm hb hk (fun e=>by subst e;rw[oX] at hne;cases hne) (AQ hf) h
def Pt{ρ:NE}{G:Gh}: ∀{a b:List FX} {m:List Value},dk ρ G (a++b) m-> ∃m1 m2,m=m1++m2/\dk ρ G a m1/\dk ρ G b m2
 |[],b,m,h=>⟨[],m,J,J,h⟩
 |f::t,b,m,⟨y,n,e,h1,h2⟩=>by
  obtain⟨m1,m2,rfl,k1,k2⟩:=Pt h2;exact⟨y::m1,m2,e,⟨y,m1,J,h1,k1⟩,k2⟩
end
end Go.Sx
end
