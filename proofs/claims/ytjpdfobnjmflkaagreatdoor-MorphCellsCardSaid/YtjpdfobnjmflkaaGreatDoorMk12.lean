import Derived.Test.YtjpdfobnjmflkaaGreatDoorMk11
import Derived.WalkKit
import Derived.LaidEql
import Derived.Stop.Asserts
import Derived.RowKitTokens
set_option linter.all false
set_option maxHeartbeats 2000000
set_option maxRecDepth 100000
section
namespace Go.Sx
open Go Go.Proofs Tryz
variable {GB G:Gh}{es:List Int}{i j k bv n:Nat}{m vcs c2 r2:List Value}{p:Nat->Bool}{u x y t:Tr}{α σ:Type}{P:Program}{f:FuncId}{M:List aA}{K K':Value->List aA->Gh->Prop}{ds:List DV}{l1:aa}{op:Int}{C:aF}{fr:Fr}
def atY(h:i<es.length):(es.map vI)[(i:Int).toNat]? =some (vI (es.getD i 0)):=by simp[h]
def QK(h:i<es.length:=by omega):pd (es.drop i)=if es.getD i 0≠0 then es.getD i 0 else pd (es.drop (i+1)):=by
 rw[bX h,pd,aV,aZ h];rfl
def Uq(hn:es.length<=1000000):PF GB prog 323 [.sl (es.map vI)] (vI (pd es)):=by
 have hel:(es.map vI).length=es.length:=by simp
 refine fn (fu:=⟨15⟩) func323 J J ntmps323 J J (fun C=>?_);refine aj 7 (.d (vI (es.length:Nat))) J (by rw[hel]<;>rfl)<|gx J<|lp (X:=Nat) (fun i=>[(8, .d (vI (i:Nat)))]) (fun i=>[]) (fun i=>i<=es.length/\pd es=pd (es.drop i)) (fun i=>es.length-i) 0 J ⟨aM _,J⟩ (fun _=>J) (fun i hk=>?_);obtain⟨h1,h2⟩:=hk;refine br J J J (fun hc9=>?_) (fun hc9=>?_)
 .
  refine ix _ J (atY (by omega)) J<|br J J J (fun hc14=>?_) (fun hc14=>?_)
  .
   exact rz J (by rw[h2,QK,if_pos hc14];rfl)
  .
   exact at_ (i+1) ⟨⟨by omega,by rw[h2,QK,if_neg hc14]⟩,(by omega)⟩
 .
  exact rz J (by rw[h2,iY (by omega)];rfl)
def Jl(l m:aa):Int:=pd [bw l.a m.a,bw l.b m.b,bw l.c m.c]
def azy(l m:aa):Jl l m=0↔l=m:=by
 unfold Jl pd pd pd pd;have ha:=u7 (l.a:Rat) m.a;have hb:=u7 (l.b:Rat) m.b;have hc:=u7 (l.c:Rat) m.c;rw[rQ] at ha hb hc;constructor
 .intro h
  repeat' (split at h<;>try contradiction)
  all_goals exact aa.ext'
 .rintro rfl
  rw[if_neg (by simp[ha.2 J]),if_neg (by simp[hb.2 J]),if_neg (by simp[hc.2 J])]
def aEC{l m:aa}[hl:LB l][hm:LB m]:PF GB prog 297 [ck l,ck m] (vI (Jl l m)):=by
 refine fn func297 J J ntmps297 J J (fun C=>?_);refine cl J (wH (p:=(l.a:Rat)) (q:=(m.a:Rat))) J<|cl J (wH (p:=(l.b:Rat)) (q:=(m.b:Rat))) J<|cl J (wH (p:=(l.c:Rat)) (q:=(m.c:Rat))) J<|rf J J<|cl J (Uq (es:=[bw l.a m.a,bw l.b m.b,bw l.c m.c]) (nb J)) J<|rz J J
def Wq{l m:aa}[hl:LB l][hm:LB m]:PF GB prog 255 [ck l,ck m] (vB (decide (l=m))):=by
 refine fn func255 J J ntmps255 J J (fun C=>?_);refine cl J (aEC (l:=l) (m:=m)) J<|rz J (by show DV.v (.bool (decide _))= .v (.bool _);congr 2;exact decide_eq_decide.2 (azy l m))
def Vv{l:aa}[hl:LB l]:PF GB prog 288 [ck l] (ck l.rev):=by
 refine fn func288 J J ntmps288 J J (fun C=>?_);refine cl J (qC (q:=(l.a:Rat))) J<|cl J (qC (q:=(l.b:Rat))) J<|cl J (qC (q:=(l.c:Rat))) J<|rz J (by unfold ck aa.rev;simp only[jY];rfl)
def NL{l:aa}[hl:LB l]:PF GB prog 134 [ck l] (eL l):=by
 refine fn func134 J J ntmps134 J J (fun C=>?_);refine cl J (sI (q:=(l.a:Rat))) J<|cl J (sI (q:=(l.b:Rat))) J<|cl J (sI (q:=(l.c:Rat))) J<|rz J J
def KE{p:ah}[hp:aD p i](hi:i<=10000000:=by decide):PF GB prog 260 [eZ p] (vI p.half):=by
 refine fn func260 J J ntmps260 J J (fun C=>?_);refine cl J (mi (q:=p.y) (by omega)) J<|cs 10 J J J (fun hg10=>?_) (fun hg10=>?_)
 .
  exact rz J (by unfold ah.half;(repeat' split)<;>first|rfl|(exfalso;omega))
 .
  refine cs 13 J J J (fun hg13=>?_) (fun hg13=>?_)
  .
   refine cl J (mi (q:=p.x) (by omega)) J<|br J J J (fun hc7=>?_) (fun hc7=>?_)
   .
    exact rz J (by unfold ah.half;(repeat' split)<;>first|rfl|(exfalso;omega))
   .
    refine cs 23 J J J (fun hg23=>?_) (fun hg23=>?_)
    .
     exact rz J (by unfold ah.half;(repeat' split)<;>first|rfl|(exfalso;omega))
    .
     refine cl J (mi (q:=p.x) (by omega)) J<|br J J J (fun hc20=>?_) (fun hc20=>?_)
     .
      exact rz J (by unfold ah.half;(repeat' split)<;>first|rfl|(exfalso;omega))
     .
      exact rz J (by unfold ah.half;(repeat' split)<;>first|rfl|(exfalso;omega))
  .
   refine cs 23 J J J (fun hg23=>?_) (fun hg23=>?_)
   .
    exact rz J (by unfold ah.half;(repeat' split)<;>first|rfl|(exfalso;omega))
   .
    refine cl J (mi (q:=p.x) (by omega)) J<|br J J J (fun hc20=>?_) (fun hc20=>?_)
    .
     exact rz J (by unfold ah.half;(repeat' split)<;>first|rfl|(exfalso;omega))
    .
     exact rz J (by unfold ah.half;(repeat' split)<;>first|rfl|(exfalso;omega))
def VS{u v:ah}[hp:aD u i][hq:aD v j](hi:i<=10000000:=by decide)(hj:j<=10000000:=by decide):PF GB prog 196 [eZ u,eZ v] (vI (gc u v)):=by
 refine fn func196 J J ntmps196 J J (fun C=>?_);refine cl J (KE (p:=u) hi) J<|cl J (KE (p:=v) hj) J<|br J J J (fun hc11=>?_) (fun hc11=>?_)
 .
  exact rz J (by unfold gc;rw[if_pos hc11];rfl)
 .
  refine br J J J (fun hc15=>?_) (fun hc15=>?_)
  .
   exact rz J (by unfold gc;rw[if_neg hc11,if_pos hc15];rfl)
  .
   refine cl J (CJ (p:=u) (q:=v) (by omega) (by omega)) J<|cl (fu:=⟨0⟩) J (mi (q:=u.cross v) (by omega)) J<|?_;have hs:=Int.sign_trichotomy (u.cross v).num;refine gx J<|rz J (by unfold gc;rw[if_neg hc11,if_neg hc15];rfl)
def ZJ{m:Int}:e7 (dg m.natAbs)/\(decide (m<0)=true->0<(dg m.natAbs).length):=⟨(fI _).2.2,fun h=>by
 have:0<m.natAbs:=by have:=of_decide_eq_true h;omega
 exact ux.2 this⟩
def EH{m:Int}[h:BI m i](hi:i<=1000000000:=by decide):PF GB prog 180 [eI m] (.v (.bool true)):=(S1 (neg:=decide (m<0)) (ds:=dg m.natAbs) (fI _).2.1 (by have:=i5 (a:=m.natAbs) hi;omega)).to (by unfold vB;rw[decide_eq_true ZJ])
def MF{l:aa}(h:l.ok):rgcd (rgcd (l.a:Rat) (l.b:Rat)) (l.c:Rat)=((1:Int):Rat):=by
 rw[JV,JV];have:=h.2;simp only[fX];rw[this];rfl
instance BQ.rgcd (p q:Rat) (i j:Nat) [h:BQ p i] [k:BQ q j]:BQ (rgcd p q) (i+j+(i+j)):=by
 unfold Sx.rgcd;refine Aa (jJ (l5 p) (l5 q)) ?_ ?_
 .rw[fX]
  have h1:=mn h.hn k.hd;have h2:=mn k.hn h.hd;rw[kR j i] at h2;exact Nz h1 h2
 .have h1:=mn h.hd k.hd
  have:2^(i+j)<=2^(i+j+(i+j)):=bY (by decide) (by omega);omega
def Q4{l:aa}[hl:LB l](ho:l.ok):PF GB prog 119 [eL l] (.tp [ck l,vB true]):=by
 refine fn func119 J J ntmps119 J J (fun C=>?_);refine cl (fu:=⟨0⟩) J (EH (m:=l.a)) J<|cC J J J<|cl (fu:=⟨0⟩) J (EH (m:=l.b)) J<|cC J J J<|cl (fu:=⟨0⟩) J (EH (m:=l.c)) J<|cC J J J<|cl J (Hm (m:=l.a)) J<|cl J (Hm (m:=l.b)) J<|cl J (Hm (m:=l.c)) J<|cl (fu:=⟨0⟩) J (z7 (q:=(l.a:Rat))) J<|jD (fu2:=⟨4⟩) J J J J (fun hg35=>?_) (fun hg35=>?_)
 .
  have ha:l.a=0:=cY.1 hg35;refine cl (fu:=⟨1⟩) J (z7 (q:=(l.b:Rat))) J<|cC J (by first|rfl|(show some (decide _)=some false;rw[decide_eq_false (fun e=>ho.1 ⟨ha,cY.1 e⟩)])) J<|cl J (u9 (p:=(l.a:Rat)) (q:=(l.b:Rat))) J<|cl J (u9 (p:=rgcd l.a l.b) (q:=(l.c:Rat))) J<|cl J (wG (m:=1)) J<|cl (fu:=⟨0⟩) J (CS (p:=rgcd (rgcd l.a l.b) l.c) (q:=((1:Int):Rat))) J<|cC J (by show some (!decide _)=some false;rw[MF ho,decide_eq_true J];rfl) J<|rz J J
 .
  refine cC J (by first|rfl|(show some (decide _)=some false;rw[decide_eq_false (fun e=>ho.1 ⟨ha,cY.1 e⟩)])) J<|cl J (u9 (p:=(l.a:Rat)) (q:=(l.b:Rat))) J<|cl J (u9 (p:=rgcd l.a l.b) (q:=(l.c:Rat))) J<|cl J (wG (m:=1)) J<|cl (fu:=⟨0⟩) J (CS (p:=rgcd (rgcd l.a l.b) l.c) (q:=((1:Int):Rat))) J<|cC J (by show some (!decide _)=some false;rw[MF ho,decide_eq_true J];rfl) J<|rz J J
def cO(f:bA):DV:= .ag [vI (du (f.l.a:Rat)),vI (dt (f.l.a:Rat)),di (f.l.a:Rat),vI (du (f.l.b:Rat)),vI (dt (f.l.b:Rat)),di (f.l.b:Rat),vI (du (f.l.c:Rat)),vI (dt (f.l.c:Rat)),di (f.l.c:Rat),vI (du f.v.lo),vI (dt f.v.lo),di f.v.lo,vI (du f.v.hi),vI (dt f.v.hi),di f.v.hi, .v (.bool f.v.nl), .v (.bool f.v.nh)]
structure sj (v:ar):Prop where
 z:gy v
 lo:BQ v.lo 1200
 hi:BQ v.hi 1200
structure OK (s:bA):Prop where
 lb:LB s.l
 ok:s.l.ok
 v:sj s.v
abbrev dE (c:ao):Prop:= ∀s∈c,OK s
def qq(f:α->DV)(l:List α):(l.map f).length=l.length:=by simp
def sj.all:sj ar.all:=⟨⟨fun _=>J,fun _=>J⟩,BQ.z1.mono (by decide),BQ.z1.mono (by decide)⟩
def sj.cut{l m:aa}{v:ar}[LB l][LB m](hn:l.Ne)(h:sj v):sj (l.cutV v m):=by
 by_cases h0:crossI l m=0
 .rw[(At (v:=v) h0).1];exact h
 .obtain⟨u1,_,u3,u4,u5⟩:=Fz (v:=v) hn h.z h.lo h.hi h0
  rw[u1];exact⟨u3,u4,u5⟩
def Gk(o:Option ar):ar:=o.getD ⟨0,0,false,false⟩
def ZD(G:Gh)(y:Value)(k:Is G (.tp [.ag [vI 0,vI 0, .v (.pointer none),vI 0,vI 0, .v (.pointer none), .v (.bool false), .v (.bool false)], .v (.bool false)]) y):Is G (.tp [eW (Gk none),vB false]) y:=by
 obtain⟨m,rfl,g⟩:=lv.1 k;exact lv.2 ⟨m,J,Pz (fun y hy=>by
  obtain⟨l,rfl,g⟩:=en.1 hy;exact en.2 ⟨l,J,EQ (F4 [vI 0,vI 0, .v (.pointer none)] g)⟩) g⟩
def cg{f:α->DV}{l:List α}{s:α}(h:l[i]? =some s):(l.map f)[(i:Int).toNat]? =some (f s):=by simp[h]
def DN{l:List α}{s:α}(h:l[k]? =some s):l.drop k=s::l.drop (k+1):=by
 obtain⟨h1,h2⟩:=aR.1 h;rw[bX h1,h2]
def KB{l:aa}{c:ao}{v:ar}{s:bA}(h:c[k]? =some s):mD l (c.drop k) v=if l.cutB v s.l then mD l (c.drop (k+1)) (l.cutV v s.l) else none:=by
 rw[DN h];rfl
def FZ{l:aa}{c:ao}{s:bA}(h:c[k]? =some s):nB l (c.drop k)=if nG l s≠0 then nG l s else if s.l=l then 1 else nB l (c.drop (k+1)):=by
 rw[DN h];rfl
instance BQ.sample (v:ar) [h1:BQ v.lo 1200] [h2:BQ v.hi 1200]:BQ v.sample 2500:=by
 unfold ar.sample;split
 .exact BQ.mono (k:=1) ⟨by decide,by decide⟩
 .split
  .exact BQ.mono (inferInstance:BQ (v.hi-((1:Int):Rat)) _)
  .split
   .exact BQ.mono (inferInstance:BQ (v.lo+((1:Int):Rat)) _)
   .exact BQ.mono (inferInstance:BQ ((v.lo+v.hi)*mkRat 1 2) _)
def NR{c:ao}{l:aa}[hl:LB l](hlo:l.ok)(hc:dE c)(hn:c.length<=1000000):PF GB prog 191 [.sl (c.map cO),ck l] (.tp [eW (Gk (jz c l)),vB (jz c l).isSome]):=by
 have hm:=qq cO c;refine fn func191 J J ntmps191 J J (fun C=>?_);refine cl (fu:=⟨10⟩) J aIT J<|aj 12 (.d (vI (c.length:Nat))) J (by rw[qq]<;>rfl)<|gx J<|lp (X:=ar×Nat) (fun⟨v,k⟩=>[(13, .d (vI (k:Nat))),(6, .ov 6 0)]) (fun⟨v,k⟩=>[(6,some (.o 218 [.d (vI (du v.lo)), .d (vI (dt v.lo)), .d (di v.lo), .d (vI (du v.hi)), .d (vI (dt v.hi)), .d (di v.hi), .d (.v (.bool v.nl)), .d (.v (.bool v.nh))] true))]) (fun⟨v,k⟩=>k<=c.length/\sj v/\mD l (c.drop k) v=jz c l) (fun⟨v,k⟩=>c.length-k) (ar.all,0) J ⟨aM _, .all,J⟩ (fun _=>J) (fun⟨v,k⟩ hk=>?_);dsimp only at hk⊢;obtain⟨h1,h2,h3⟩:=hk;haveI:=h2.lo;haveI:=h2.hi;refine br J J J (fun hc14=>?_) (fun hc14=>?_)
 .
  obtain⟨s,hs0⟩: ∃s,c[k]? =some s:=⟨_,aZ (by omega)⟩;have hs:=hc s (aK hs0);haveI:=hs.lb;refine ix _ J (cg hs0) J<|cl (fu:=⟨0⟩) J (Kk (l:=l) (m:=s.l) (v:=v)) J<|?_;generalize hw:l.cutV v s.l=w;generalize hb:l.cutB v s.l=b;refine gx J<|bb J J J (fun hc26=>?_) (fun hc26=>?_)
  .
   exact jk J (by rw[<-h3,KB hs0,hb,if_neg (by simpa using hc26)];exact ZD)
  .
   exact at_ (w,k+1) (by dsimp only;exact⟨⟨by omega,hw▸h2.cut hlo.1,by rw[<-h3,KB hs0,hb,hw,if_pos (by simpa using hc26)]⟩,(by omega)⟩)
 .
  exact rz J (by rw[<-h3,iY (by omega)];rfl)
def TC{c:ao}{l:aa}[hl:LB l](hlo:l.ok)(hc:dE c)(hn:c.length<=1000000):PF GB prog 192 [.sl (c.map cO),ck l] (vI (vX c l)):=by
 have hm:=qq cO c;refine fn func192 J J ntmps192 J J (fun C=>?_);refine cl J (NR (c:=c) (l:=l) hlo hc hn) J<|bb (fu2:=⟨7⟩) J J J (fun hc16=>?_) (fun hc16=>?_)
 .
  exact rz J (by unfold vX;rw[if_pos hc16];rfl)
 .
  have hp:vX c l=nB l c:=by unfold vX;rw[if_neg (by simp[hc16])]
  refine aj 18 (.d (vI (c.length:Nat))) J (by rw[qq]<;>rfl)<|gx J<|lp (X:=Nat) (fun k=>[(19, .d (vI (k:Nat)))]) (fun k=>[]) (fun k=>k<=c.length/\nB l (c.drop k)=nB l c) (fun k=>c.length-k) 0 J ⟨aM _,J⟩ (fun _=>J) (fun k hk=>?_);obtain⟨h1,h2⟩:=hk;refine br J J J (fun hc20=>?_) (fun hc20=>?_)
  .
   obtain⟨s,hs0⟩: ∃s,c[k]? =some s:=⟨_,aZ (by omega)⟩;have hs:=hc s (aK hs0);haveI:=hs.lb;haveI:=hs.v.lo;haveI:=hs.v.hi;haveI:=BQ.sample s.v;refine ix _ J (cg hs0) J<|cl (fu:=⟨0⟩) J (MI (v:=s.v)) J<|?_;generalize ht:s.v.sample=t at*;refine gx J<|cl J (Oy (l:=s.l) (t:=t)) J<|cl J (Yv (l:=l) (p:=s.l.at t)) J<|br J J J (fun hc32=>?_) (fun hc32=>?_)
   .
    have hsd:nG l s=(l.value (s.l.at t)).num.sign:=by unfold nG;rw[ht]
    exact rz J (by rw[hp,<-h2,FZ hs0,hsd,if_pos hc32];rfl)
   .
    refine cl J (Wq (l:=s.l) (m:=l)) J<|bd J J J (fun hc37=>?_) (fun hc37=>?_)
    .
     have hsd:nG l s=(l.value (s.l.at t)).num.sign:=by unfold nG;rw[ht]
     exact rz J (by rw[hp,<-h2,FZ hs0,hsd,if_neg hc32,if_pos hc37];rfl)
    .
     have hsd:nG l s=(l.value (s.l.at t)).num.sign:=by unfold nG;rw[ht]
     exact at_ (k+1) ⟨⟨by omega,by rw[<-h2,FZ hs0,hsd,if_neg hc32,if_neg hc37]⟩,(by omega)⟩
  .
   exact rz J (by rw[hp,<-h2,iY (by omega)];rfl)
def Vi{vs rest:List Value}(h: ∀v∈vs,(aG v).length=17)(hi:i<=vs.length):cx (aE vs++rest) (i*17) ((vs.length-i)*17)=some (aE (vs.drop i)):=by
 have hl:=eD vs h;have hd:(aE (vs.drop i)).length=(vs.length-i)*17:=by
  rw[eD (s:=17) _ (fun v hv=>h v (gW hv)),gV]
 rw[kH _ _ _ (by simp only[aY];omega)];congr 1;rw[lQ (by omega),EP vs i h hi,gX (by omega),cX (by omega)]
def YG{vs rest:List Value}(h: ∀v∈vs,(aG v).length=17)(hv:vcs.length=17)(hi:i<vs.length)(hr:17<=rest.length):
  cA (cA (aE vs++rest) ((i+1)*17) (aE (vs.drop i))) (i*17) vcs=aE (vs.take i)++vcs++aE (vs.drop i)++rest.drop 17:=by
 have hl:=eD vs h;have hd:(aE (vs.drop i)).length=(vs.length-i)*17:=by
  rw[eD (s:=17) _ (fun v hv=>h v (gW hv)),gV]
 have ht:(aE (vs.take i)).length=i*17:=by
  rw[eD (s:=17) _ (fun v hv=>h v (eM hv)),bT,jN (by omega)]
 rw[pq (aE (vs.drop i)) (aE vs++rest) _ (by rw[aY];omega)];rw[pq vcs _ _ (by simp only[aY,bT,gV];omega)];have e1:(aE vs++rest).drop ((i+1)*17+(aE (vs.drop i)).length)=rest.drop 17:=by
  rw[hd,show(i+1)*17+(vs.length-i)*17=(aE vs).length+17 by omega,nK,jZ (by omega),jM];congr 1;omega
 have e2:((aE vs++rest).take ((i+1)*17)++aE (vs.drop i)++rest.drop 17).take (i*17)=aE (vs.take i):=by
  rw[dV,gX (by simp only[bT,aY];omega),List.take_take,jN (by omega),gX (by omega),Fq vs i h (by omega)]
 have e3:((aE vs++rest).take ((i+1)*17)++aE (vs.drop i)++rest.drop 17).drop (i*17+vcs.length)=aE (vs.drop i)++rest.drop 17:=by
  rw[hv,dV,show i*17+17=((aE vs++rest).take ((i+1)*17)).length by simp only[bT,aY];omega,List.drop_left]
 rw[e1,e2,e3];simp[dV]
def asD{vs rest:List Value}(h: ∀v∈vs,(aG v).length=17)(hv:vcs.length=17)(hr:17<=rest.length):cA (aE vs++rest) (vs.length*17) vcs=aE vs++vcs++rest.drop 17:=by
 have hl:=eD vs h;rw[pq _ _ _ (by simp only[aY];omega),hv,<-hl,List.take_left,nK];simp
def XI{b cap c2:Nat}{vs rest:List Value}{lo lo2:Bool}(hvs: ∀v∈vs,(aG v).length=17)(hfl: ∀v∈vs,∀c∈aG v,flat c=true)(hv:vcs.length=17)(hvf: ∀c∈vcs,flat c=true)
  (hcap:vs.length*17+rest.length=cap*17)(hroom:vs.length+1<=cap)(hi:i<=vs.length)(hb:vs.length<=1125899906842624):
  jx prog 198 [.slice (some ⟨b,0,none⟩) vs.length cap, .int .i64 i, .slice (some ⟨bv,0,none⟩) 1 c2] [⟨b,aE vs++rest,220,lo⟩,⟨bv,vcs++r2,220,lo2⟩] G
   (fun u css _=>u= .slice (some ⟨b,0,none⟩) (vs.length+1) cap/\css=[aE (vs.take i)++vcs++aE (vs.drop i)++rest.drop 17,vcs++r2]):=by
 have hL:(aE vs++rest).length=cap*17:=by rw[aY,eD vs hvs];exact hcap
 have hr:17<=rest.length:=by omega
 have hD:(aE (vs.drop i)).length=(vs.length-i)*17:=by
  rw[eD (s:=17) _ (fun v hv=>hvs v (gW hv)),gV]
 have hDf: ∀c∈aE (vs.drop i),flat c=true:=fun c hc=>by
  obtain⟨l,hl,hcl⟩:=List.mem_flatten.1 hc;obtain⟨v,hv,rfl⟩:=aT.1 hl;exact hfl v (gW hv) c hcl
 have hvt:cx (vcs++r2) 0 (1*17)=some vcs:=by rw[kH _ _ _ (by rw[aY];omega),iX,gX (by omega),cX (by omega)]
 refine jx.intro func198 J J ntmps198 J ?_;intro C _ _;show St C _ _ [⟨b,aE vs++rest,220,false⟩,⟨bv,vcs++r2,220,false⟩] _ _;refine WK (fun hne=>?_);simp only[] at hne;refine sR<|sa J J<|zE<|sR<|sm J J<|sm J J<|sy (IP J J) J<|zE<|sR<|?_;refine sm J J<|sP J J<|sa J J<|zE<|eO<|sR<|sm J J<|sy (lm J J) J<|zE<|ri J<|?_;refine zK<|sR<|sm J J<|sP J J<|sa J J<|zE<|eO<|sR<|sm J J<|sm J J<|sy (lm J J) J<|zE<|?_;refine ut J (fun hc=>?_) (fun hc=>?_) -- slot 22
 .have hin:i=vs.length:=by omega
  subst hin;refine sR<|sm J J<|sm J J<|?_;refine sc (QL (s:=17) (m:=1) (ys:=vcs) J J (.hd ..) hL (zg inferInstance hvt) (by omega) hvf hroom J ?_);refine sa J J<|zE<|lf<|?_;refine sh (css:=[cA (aE vs++rest) (vs.length*17) vcs,vcs++r2]) (.tmp J .nil) J _ (List.Perm.refl _) (List.Sublist.refl _) ⟨J,?_⟩;rw[asD hvs hv hr,cS,fL];simp[aE]
 have hin:i<vs.length:=by omega
 have hn1:((vs.length:Int)+((1:Nat):Int)).toNat=vs.length+1:=by omega
 have ht1:((i:Int)+((1:Nat):Int)).toNat=i+1:=by omega
 refine zK<|eO<|sR<|sm J J<|sm J J<|sy (vK J J) J<|sm J J<|?_;refine sy (Zm J) J<|sy (A' J J) J<|zE<|?_;refine ut J (fun hc2=>?_) (fun hc2=>?_) -- slot 31
 .exact absurd hc2 (by omega)
 refine zK<|sR<|sm J J<|sm J J<|sm J J<|sy (vK J J) J<|sy (EM J J) J<|?_;rw[hn1];refine sa J J<|zE<|eO<|sR<|sm J J<|sm J J<|sm J J<|sm J J<|sy (vK J J) J<|sy (B8 J J) J<|?_;refine sy (apU (tS:=126) (tR:=4) func261 (by kernel_rfl) (by kernel_rfl) (by kernel_rfl) (by kernel_rfl) J J (Ne.symm hne) (fun h=>by rw[h] at hL;simp at hL;omega)) J<|?_;refine sy (ti J) J<|zE<|sg J<|?_;refine eO<|YQ (b:=b) (fun _=>false) [(0,true),(1,true),(2,true),(3,true),(4,true),(5,true),(6,true),(7,true),(8,false)] follows (.hd ..) (by kernel_rfl)<|dM J J J<|?_;refine dM J J J<|dM J J J<|dy J (fun _=>vK J J (by omega) (by omega)) J J<|dy J (fun _=>B8 J J) J J<|?_;refine dM J J J<|dM J J J<|dy J (fun _=>B8 J J) J J<|?_;rw[ht1,bM,eJ,eJ];refine dc J J (SL (s:=17) (m:=vs.length-i) (ys:=aE (vs.drop i)) J J (by show min _ _=_;omega) (zg inferInstance (Vi hvs hi)) hDf (by rw[hD,hL];omega) (.hd ..) J ?_);refine lG<|dn<|sR<|sm J J<|sm J J<|sy (B8 J J) J<|sm J J<|?_;rw[bM,eJ];refine sc (SL (s:=17) (m:=1) (ys:=vcs) J J (by show min _ _=_;omega) (zg inferInstance hvt) hvf (by rw[AG,hL,hv];omega) (.hd ..) J ?_);refine zE<|sR<|sm J J<|sa J J<|zE<|lf<|?_;refine sh (css:=[cA (cA (aE vs++rest) ((i+1)*17) (aE (vs.drop i))) (i*17) vcs,vcs++r2]) (.tmp J .nil) J _ (List.Perm.refl _) (List.Sublist.refl _) ⟨J,?_⟩;rw[YG hvs hv hin hr]
def jx.toO{vs:List Value}{K:Value->List (List Value)->Gh->Prop}(h:jx P f vs M G K)(hk: ∀v css G',bI G G'->css.length=M.length->K v css G'-> ∃o,o.Sublist (kz (asB M) css)/\K' v o G'):gt P f vs M G K':=
 ⟨h.able,fun w hw=>(h.run w hw).mono fun _ _ ⟨v,css,G',he,hl,hh,hK⟩=>let⟨o,h1,h2⟩:=hk v css G' hh.gle hl hK;⟨v,o,G',he,hh.drop h1,h2⟩⟩
def MD(c:ao):cE 17 (c.map cO):=fun d hd=>by
 obtain⟨f,_,rfl⟩:=aT.1 hd;exact⟨rfl,rfl⟩
def Sy{s:Nat}{vs:List Value}(hk:cE s ds)(h:IsLs G ds vs): ∀v∈vs,∀c∈aG v,flat c=true:=fun v hv=>by
 obtain⟨d,hd,h3⟩:=h.all v hv;exact(h3.cells (hk d hd).1).2
def X4{c:ao}{x:bA}{cap:Nat}(hi:i<=c.length)(hc:c.length+1<=cap)(hn:c.length<=1000000):PI GB prog 198 (i:Nat) 17 220 220 (c.map cO) (cO x) cap ((c.take i++x::c.drop i).map cO):=by
 intro G w w2 B B2 _ hB hcap hB2;obtain⟨vs,q1,q2,q3,_⟩:=hB;obtain⟨us,u1,u2,u3,_⟩:=hB2;dsimp only at q1 q2 q3 u1 u2 u3;have hl:=q2.len;rw[aX] at hl;obtain⟨v,m,rfl,hv,hm⟩:=bi.1 u2
 cases ef.1 hm
 rcases q1 with⟨_,e,_⟩|⟨b,rest,lo,e,rfl,h5,h6,h7⟩
 .rw[e] at hcap;simp at hcap;omega
 rcases u1 with⟨h,_⟩|⟨bv,r2,lo2,e2,rfl,h8,h9,h10⟩
 .cases h
 have hx:(aG v).length=17:=u3 v aQ;have hxf:=Sy (s:=17) (ds:=[cO x]) (fun d hd=>by rw[aU.1 hd];exact⟨J,J⟩) u2 v aQ;have key:=XI (G:=G) (b:=b) (bv:=bv) (cap:=w.c) (i:=i) (c2:=w2.c) (vs:=vs) (rest:=rest) (vcs:=aG v) (r2:=r2) (lo:=lo) (lo2:=lo2) q3 (Sy (MD c) q2) hx hxf (by rw[<-h5];exact h6) (by omega) (by omega) (by omega);rw[e,e2];rw[vG];refine key.toO fun u css G' hg hl2 ⟨k1,k2⟩=>?_;subst k1 k2;have hall: ∀u∈vs.take i++v::vs.drop i,(aG u).length=17:=fun u hu=>by
  rcases bJ.1 hu with hu|hu
  .exact q3 u (eM hu)
  .rcases aW.1 hu with rfl|hu
   .exact hx
   .exact q3 u (gW hu)
 have hlen:(vs.take i++v::vs.drop i).length=vs.length+1:=by
  rw[aY,bZ,bT,gV];omega
 refine⟨[⟨b,aE (vs.take i)++aG v++aE (vs.drop i)++rest.drop 17,220,false⟩], .cons_cons _ (jQ _),⟨some ⟨b,0,none⟩,vs.length+1,w.c⟩,J,vs.take i++v::vs.drop i, .inr ⟨b,rest.drop 17,false,by rw[hlen],?_,eD _ hall,?_,?_⟩,?_,hall,fun h=>by cases h⟩
 .rw[n7];simp[aE]
 .rw[eD _ hall,hlen,gV]
  rw[h5] at h6;have:=bS 17 (show vs.length+1<=w.c by omega);simp only[dY] at this⊢;omega
 .rw[hlen];show vs.length+1<=w.c;omega
 .rw[aL,bU,iU,iN]
  exact((q2.take i).up hg).app (.cons (hv.up hg) ((q2.drop i).up hg))
def Sq{s:bA}{l:aa}[hs:LB s.l][hl:LB l]:PF GB prog 195 [cO s,ck l] (vI (gc s.l.dir l.dir)):=by
 refine fn func195 J J ntmps195 J J (fun C=>?_);refine cl J (wI (l:=s.l)) J<|cl J (wI (l:=l)) J<|cl J (VS (u:=s.l.dir) (v:=l.dir)) J<|rz J J
def zk(c:ao)(l:aa)(i:Nat):Bool:=match c[i]? with
 |some s=>decide (gc s.l.dir l.dir=0)
 |none=>false
def axz(i j:Nat):((i:Int)+(j:Int)).fdiv (2^min (1:Int).toNat IntKind.u64.bits)=((i+j)/2:Nat):=by
 rw[show(2:Int)^min (1:Int).toNat IntKind.u64.bits=((2:Nat):Int) from J,kY _ (by decide)];omega
def aBX{c:ao}{l:aa}{s:bA}(h:c[k]? =some s):i0 c l k=decide (gc s.l.dir l.dir<0):=by unfold i0;rw[h]
def Xz{c:ao}{l:aa}{s:bA}(h:c[k]? =some s):zk c l k=decide (gc s.l.dir l.dir=0):=by unfold zk;rw[h]
def Ve{c:ao}{l:aa}(h: ¬k<c.length):zk c l k=false:=by unfold zk;rw[eK (by omega)]
def Yx(h:i<j)(hp:p ((i+j)/2)=true):f7 p i j=f7 p ((i+j)/2+1) j:=by rw[f7,dif_pos h,if_pos hp]
def TS(h:i<j)(hp: ¬p ((i+j)/2)=true):f7 p i j=f7 p i ((i+j)/2):=by rw[f7,dif_pos h,if_neg hp]
def M7(h: ¬i<j:=by omega):f7 p i j=i:=by rw[f7,dif_neg h]
def aIf{c:ao}{l:aa}[hl:LB l](hc:dE c)(hn:c.length<=1000000):PF GB prog 194 [.sl (c.map cO),ck l, .v (.func (.func 195) #[] #[])] (.tp [vI (f7 (i0 c l) 0 c.length:Nat),vB (zk c l (f7 (i0 c l) 0 c.length))]):=by
 have hm:=qq cO c;refine fn (fu:=⟨11⟩) func194 J J ntmps194 J J (fun C=>?_);refine aj 13 (.d (vI (c.length:Nat))) J (by rw[hm]<;>rfl)<|gx J<|lp (X:=Nat×Nat) (fun⟨i,j⟩=>[(9, .d (vI (i:Nat))),(10, .d (vI (j:Nat)))]) (fun⟨i,j⟩=>[]) (fun⟨i,j⟩=>i<=j/\j<=c.length/\f7 (i0 c l) i j=f7 (i0 c l) 0 c.length) (fun⟨i,j⟩=>j-i) (0,c.length) J ⟨aM _,bW _,J⟩ (fun _=>J) (fun⟨i,j⟩ hk=>?_);dsimp only at hk⊢;obtain⟨h1,h2,h3⟩:=hk;refine br (fu1:=⟨10⟩) (fu2:=⟨11⟩) J J J (fun hc17=>?_) (fun hc17=>?_)
 .
  obtain⟨s,hs0⟩: ∃s,c[(i+j)/2]? =some s:=⟨_,aZ (by omega)⟩;haveI:=(hc s (aK hs0)).lb;have hang:=aBX (l:=l) hs0;refine aj 22 (.d (.v (.int .u64 ((i+j)/2:Nat)))) J (by rw[axz])<|gx J<|ix _ J (cg hs0) J<|cl J (Sq (s:=s) (l:=l)) J<|br J J J (fun hc31=>?_) (fun hc31=>?_)
  .
   exact at_ ((i+j)/2+1,j) (by dsimp only;exact⟨⟨by omega,h2,by rw[<-h3,Yx (i:=i) (j:=j) (by omega) (by rw[hang];exact decide_eq_true hc31)]⟩,(by omega)⟩)
  .
   exact at_ (i,(i+j)/2) (by dsimp only;exact⟨⟨by omega,by omega,by rw[<-h3,TS (i:=i) (j:=j) (by omega) (by rw[hang,decide_eq_false hc31];exact Bool.false_ne_true)]⟩,(by omega)⟩)
 .
  refine jD (v2:=fun hg39=>by simp only[ak];kernel_rfl) J J J J (fun hg39=>?_) (fun hg39=>?_)
  .
   have he:=M7 (p:=i0 c l) (i:=i) (j:=j);obtain⟨s,hs0⟩: ∃s,c[i]? =some s:=⟨_,aZ (by omega)⟩;haveI:=(hc s (aK hs0)).lb;refine ix _ J (cg hs0) J<|cl J (Sq (s:=s) (l:=l)) J<|rz J (by rw[<-h3,he,Xz hs0];rfl)
  .
   have he:=M7 (p:=i0 c l) (i:=i) (j:=j);exact rz J (by rw[<-h3,he,Ve (by omega)];rfl)
def LO{l:aa}[LB l](hlo:l.ok): ∀{c:ao} {v w:ar},dE c->sj v->mD l c v=some w->sj w
 |[],v,w,_,hv,h=>by cases h;exact hv
 |s::t,v,w,hc,hv,h=>by
  haveI:=(hc s aQ).lb;simp only[mD] at h;split at h
  .exact LO hlo (fun x hx=>hc x (aJ _ hx)) (hv.cut hlo.1) h
  .cases h
def Ea{l:aa}[LB l]: ∀{c:ao},dE c->dE (d7 l c)
 |[],_,s,h=>by cases h
 |a::t,hc,s,h=>by
  have ha:=hc a aQ;haveI:=ha.lb;have ht:=Ea (l:=l) (fun x hx=>hc x (aJ _ hx));unfold d7 at h;split at h
  .rcases aW.1 h with rfl|h
   .exact⟨ha.lb,ha.ok,ha.v.cut ha.ok.1⟩
   .exact ht s h
  .exact ht s h
def pG{l:aa}[hl:LB l](hlo:l.ok){c:ao}(hc:dE c):dE (bE c l):=by
 unfold bE;split
 .rename_i v hv
  intro s hs;unfold kI at hs;rcases bJ.1 hs with h|h
  .exact Ea hc s (eM h)
  .rcases aW.1 h with rfl|h
   .exact⟨hl,hlo,LO hlo hc .all hv⟩
   .exact Ea hc s (gW h)
 .exact hc
def KL{l:aa}{c:ao}{s:bA}(h:c[k]? =some s):d7 l (c.drop k)=if s.l.cutB s.v l then⟨s.l,s.l.cutV s.v l⟩::d7 l (c.drop (k+1)) else d7 l (c.drop (k+1)):=by
 rw[DN h];rfl
def JT{c:ao}{l:aa}[hl:LB l](hlo:l.ok)(hc:dE c)(hn:c.length<=100000):PF GB prog 122 [.sl (c.map cO),ck l] (.tp [.sl ((bE c l).map cO),vB (cp c l)]):=by
 have hm:=qq cO c;refine fn func122 J J ntmps122 J J (fun C=>?_);refine cl J (NR (c:=c) (l:=l) hlo hc (by omega)) J<|bb (fu2:=⟨6⟩) J J J (fun hc22=>?_) (fun hc22=>?_)
 .
  have hp:jz c l=none:=by simpa using hc22
  refine cl J (TC (c:=c) (l:=l) hlo hc (by omega)) J<|rz J (by unfold bE cp;rw[hp];rfl)
 .
  obtain⟨v,hv⟩: ∃v,jz c l=some v:=qU.1 (by simpa using hc22);have hvd:Gk (jz c l)=v:=by rw[hv];rfl
  rw[hvd];refine aj 29 (.d (vI (c.length:Nat))) J (by rw[hm]<;>rfl)<|gx J<|Tv (fu:=⟨8⟩) (c.length+1) J J J<|aj 33 (.d (vI (c.length:Nat))) J (by rw[hm]<;>rfl)<|gx J<|lp (X:=ao×Nat) (fun⟨o,k⟩=>[(34, .d (vI (k:Nat))),(8, .rw 31)]) (fun⟨o,k⟩=>[(31,some (.c 220 17 (o.map cO) (c.length+1)))]) (fun⟨o,k⟩=>k<=c.length/\o.length<=k/\o++d7 l (c.drop k)=d7 l c) (fun⟨o,k⟩=>c.length-k) ([],0) J ⟨aM _,bW _,J⟩ (fun _=>J) (fun⟨o,k⟩ hk=>?_);dsimp only at hk⊢;obtain⟨h1,h2,h3⟩:=hk;have hmo:=qq cO o;refine br J J J (fun hc35=>?_) (fun hc35=>?_)
  .
   obtain⟨s,hs0⟩: ∃s,c[k]? =some s:=⟨_,aZ (by omega)⟩;have hs:=hc s (aK hs0);haveI:=hs.lb;haveI:=hs.v.lo;haveI:=hs.v.hi;refine ix _ J (cg hs0) J<|cl (fu:=⟨0⟩) J (Kk (l:=s.l) (m:=l) (v:=s.v)) J<|?_;generalize hw:s.l.cutV s.v l=w;generalize hb:s.l.cutB s.v l=b;refine gx J<|bb J J J (fun hc47=>?_) (fun hc47=>?_)
   .
    refine rf J J<|YI ((o++[bA.mk s.l w]).map cO) J (by rw[aL];rfl) (MD [bA.mk s.l w]) (by rw[hmo];simp;omega) J<|d6 54 31 J<|at_ (o++[bA.mk s.l w],k+1) (by dsimp only;exact⟨⟨by omega,by simp;omega,by rw[<-h3,KL hs0,hb,if_pos hc47,hw,dV];rfl⟩,(by omega)⟩)
   .
    exact at_ (o,k+1) (by dsimp only;exact⟨⟨by omega,by omega,by rw[<-h3,KL hs0,hb,if_neg (by simp[hc47])]⟩,(by omega)⟩)
  .
   obtain rfl:k=c.length:=by omega
   have ho:o=d7 l c:=by rw[<-h3,fL];simp[d7]
   subst ho;have hbl:=(Fi (i0 (d7 l c) l) (d7 l c).length 0 (d7 l c).length (by omega) (by omega)).2;refine cL J (aIf (c:=d7 l c) (l:=l) (Ea hc) (by omega)) J J<|ro J J<|ci ((kI (d7 l c) l v).map cO) J (X4 (c:=d7 l c) (x:=⟨l,v⟩) (i:=f7 (i0 (d7 l c) l) 0 (d7 l c).length) (cap:=c.length+1) hbl (by omega) (by omega)) J J<|gp 68 J<|rz J (by unfold bE cp;rw[hv];rfl)
def IY{c:ao}{l:aa}[hl:LB l](hlo:l.ok)(hc:dE c)(hn:c.length<=100000:=by omega):PF GB prog 232 [.sl (c.map cO),ck l] (.tp [.sl ((bE c l).map cO), .sl ((bE c l.rev).map cO),vB (cp c l),vB (cp c l.rev)]):=by
 refine fn func232 J J ntmps232 J J (fun C=>?_);refine cl J (JT (c:=c) (l:=l) hlo hc hn) J<|cl J (Vv (l:=l)) J<|cl J (JT (c:=c) (l:=l.rev) hlo.rev hc hn) J<|rz J J
def cU:Tr->List DV
 | .leaf b=>[vI 0,vI 0, .v (.pointer none),vI 0,vI 0, .v (.pointer none),vI 0,vI 0, .v (.pointer none), .v (.pointer none), .v (.pointer none), .v (.bool b)]
 | .node l x y=>[vI (du (l.a:Rat)),vI (dt (l.a:Rat)),di (l.a:Rat),vI (du (l.b:Rat)),vI (dt (l.b:Rat)),di (l.b:Rat),vI (du (l.c:Rat)),vI (dt (l.c:Rat)),di (l.c:Rat), .pt (cU x), .pt (cU y), .v (.bool false)]
def eU(t:Tr):DV:= .pt (cU t)
def qE{b:Bool}:PF GB prog 96 [.v (.bool b)] (eU (.leaf b)):=by
 refine fn func96 J J ntmps96 J J (fun C=>?_);refine gp 5 J<|rz J J
def ym{l:aa}:PF GB prog 166 [ck l,eU x,eU y] (eU (.node l x y)):=by
 refine fn func166 J J ntmps166 J J (fun C=>?_);refine gp 11 J<|rz J J
def qd{b:Bool}:PF GB prog 163 [eU (.leaf b)] (.v (.bool true)):=by
 refine fn func163 J J ntmps163 J J (fun C=>?_);exact rz J J
def ru{l:aa}:PF GB prog 163 [eU (.node l x y)] (.v (.bool false)):=by
 refine fn func163 J J ntmps163 J J (fun C=>?_);exact rz J J
def Ul{l:aa}:PF GB prog 233 [ck l,eU (.node l1 x y),eU u] (eU (.node l (.node l1 x y) u)):=by
 refine fn func233 J J ntmps233 J J (fun C=>?_);refine cl (fu:=⟨0⟩) J ru J<|cC J J J<|cl J ym J<|rz J J
def auJ{l:aa}{p:Bool}:PF GB prog 233 [ck l,eU (.leaf p),eU (.node l1 x y)] (eU (.node l (.leaf p) (.node l1 x y))):=by
 refine fn func233 J J ntmps233 J J (fun C=>?_);refine cl (fu:=⟨0⟩) J qd J<|dP J J J<|cl (fu:=⟨1⟩) J ru J<|cC J J J<|cl J ym J<|rz J J
def TA{l:aa}{p q:Bool}:PF GB prog 233 [ck l,eU (.leaf p),eU (.leaf q)] (eU (Tr.joinQ l (.leaf p) (.leaf q))):=by
 refine fn func233 J J ntmps233 J J (fun C=>?_);refine cl (fu:=⟨0⟩) J qd J<|dP J J J<|cl (fu:=⟨1⟩) J qd J<|dP J J J<|bb J J J (fun hc23=>?_) (fun hc23=>?_)
 .
  exact rz J (by rw[show Tr.joinQ l (.leaf p) (.leaf q)= .leaf p by simp[Tr.joinQ,Tr.isLeaf,Tr.code,hc23]];rfl)
 .
  refine cl J ym J<|rz J (by rw[show Tr.joinQ l (.leaf p) (.leaf q)= .node l (.leaf p) (.leaf q) by simp[Tr.joinQ,Tr.isLeaf,Tr.code,hc23]];rfl)
def SG{l:aa}: ∀{x y:Tr},PF GB prog 233 [ck l,eU x,eU y] (eU (Tr.joinQ l x y))
 | .leaf _, .leaf _=>TA
 | .leaf _, .node .. =>auJ
 | .node ..,_=>Ul
def Ug{b:Bool}:PF GB prog 91 [eU (.leaf b)] (vI (Tr.depth (.leaf b):Nat)):=by
 refine fn func91 J J ntmps91 J J (fun C=>?_);refine cl (fu:=⟨0⟩) J qd J<|jO 4 J<|gx J<|rz J J
def aoV{l:aa}(hd:(Tr.node l x y).depth<=1000000)(ihx:PF GB prog 91 [eU x] (vI (Tr.depth x:Nat)))(ihy:PF GB prog 91 [eU y] (vI (Tr.depth y:Nat))):PF GB prog 91 [eU (.node l x y)] (vI (Tr.depth (.node l x y):Nat)):=by
 have hdp:(Tr.node l x y).depth=1+max x.depth y.depth:=J;have hdx:=rZ x.depth y.depth;have hdy:=pN x.depth y.depth;refine fn func91 J J ntmps91 J J (fun C=>?_);refine cl (fu:=⟨0⟩) J ru J<|qc 4 J<|gx J<|cl J ihx J<|cl (hv:=by simp only[ak];exact⟨by omega,by kernel_rfl⟩) J ihy J<|rz J (by show DV.v (.int _ _)= .v (.int _ _);congr 2;split<;>omega)
def wS: ∀{t:Tr},t.depth<=1000000->PF GB prog 91 [eU t] (vI (Tr.depth t:Nat))
 | .leaf _,_=>Ug
 | .node l x y,h=>aoV h (wS (by have:=rZ x.depth y.depth;have:(Tr.node l x y).depth=1+max x.depth y.depth:=J;omega)) (wS (by have:=pN x.depth y.depth;have:(Tr.node l x y).depth=1+max x.depth y.depth:=J;omega))
def ajB{b:Bool}{c:ao}:PF GB prog 164 [eU (.leaf b), .sl (c.map cO)] (eU (Tr.restrict (.leaf b) c)):=by
 refine fn func164 J J ntmps164 J J (fun C=>?_);refine cl (fu:=⟨0⟩) J qd J<|jO 10 J<|gx J<|rz J J
def TZ{l:aa}{c:ao}(hl:LB l)(hlo:l.ok)(hc:dE c)(hn:c.length+(Tr.node l x y).depth<=100000)(ihx: ∀{c:ao},dE c->c.length+x.depth<=100000->PF GB prog 164 [eU x, .sl (c.map cO)] (eU (Tr.restrict x c)))(ihy: ∀{c:ao},dE c->c.length+y.depth<=100000->PF GB prog 164 [eU y, .sl (c.map cO)] (eU (Tr.restrict y c))):PF GB prog 164 [eU (.node l x y), .sl (c.map cO)] (eU (Tr.restrict (.node l x y) c)):=by
 have hdp:(Tr.node l x y).depth=1+max x.depth y.depth:=J;have hdx:=rZ x.depth y.depth;have hdy:=pN x.depth y.depth;have hca:=tw c l;have hcb:=tw c l.rev;refine fn func164 J J ntmps164 J J (fun C=>?_);refine cl (fu:=⟨0⟩) J ru J<|qc 10 J<|gx J<|cl J (IY (c:=c) (l:=l) hlo hc) J<|bb J J J (fun hc23=>?_) (fun hc23=>?_)
 .
  refine cl J (ihx hc (by omega)) J<|rz J (by rw[Tr.restrict,if_pos hc23];rfl)
 .
  refine bb J J J (fun hc32=>?_) (fun hc32=>?_)
  .
   refine cl J (ihy hc (by omega)) J<|rz J (by rw[Tr.restrict,if_neg (by simp[hc23]),if_pos hc32];rfl)
  .
   refine cl J (ihx (c:=bE c l) (pG hlo hc) (by omega)) J<|cl J (ihy (c:=bE c l.rev) (pG hlo.rev hc) (by omega)) J<|cl J SG J<|rz J (by rw[Tr.restrict,if_neg (by simp[hc23]),if_neg (by simp[hc32])];rfl)
def oo: ∀{t:Tr} {c:ao},t.all LB->t.all aa.ok->dE c->c.length+t.depth<=100000->PF GB prog 164 [eU t, .sl (c.map cO)] (eU (Tr.restrict t c))
 | .leaf _,_,_,_,_,_=>ajB
 | .node l x y,c,hb,ho,hc,hn=>TZ hb.1 ho.1 hc hn (fun h1 h2=>oo hb.2.1 ho.2.1 h1 h2) (fun h1 h2=>oo hb.2.2 ho.2.2 h1 h2)
def Nc(hb:t.all LB)(ho:t.all aa.ok)(hd:t.depth<=100000:=by omega):PF GB prog 92 [eU t] (eU (t.restrict [])):=by
 refine fn func92 J J ntmps92 J J (fun C=>?_);refine cl J (oo (t:=t) (c:=[]) hb ho (fun s h=>by cases h) (by simpa using hd)) J<|rz J J
def Tr.compl:Tr->Tr
 | .leaf b=> .leaf !b
 | .node l x y=> .node l x.compl y.compl
def Tr.chooseQ(op:Int)(b:Bool)(t:Tr)(c:ao):Tr:=
 if op=1\/op=2 then(if b=decide (op=1) then .leaf b else t.restrict c)
 else if op=3/\b=false then .leaf false
 else if b then(t.restrict c).compl else t.restrict c
def Tr.mergeQ(op:Int):Tr->Tr->ao->Tr
 | .leaf b,u,c=>u.chooseQ op b c
 | .node l x y,u,c=>if !cp c l.rev then x.mergeQ op u c else if !cp c l then y.mergeQ op u c else joinQ l (x.mergeQ op u (bE c l)) (y.mergeQ op u (bE c l.rev))
def an2{b:Bool}:PF GB prog 98 [eU (.leaf b)] (eU (Tr.compl (.leaf b))):=by
 refine fn func98 J J ntmps98 J J (fun C=>?_);refine cl (fu:=⟨0⟩) J qd J<|jO 4 J<|gx J<|cl J qE J<|rz J J
def aoI{l:aa}(ihx:PF GB prog 98 [eU x] (eU (Tr.compl x)))(ihy:PF GB prog 98 [eU y] (eU (Tr.compl y))):PF GB prog 98 [eU (.node l x y)] (eU (Tr.compl (.node l x y))):=by
 refine fn func98 J J ntmps98 J J (fun C=>?_);refine cl (fu:=⟨0⟩) J ru J<|qc 4 J<|gx J<|cl J ihx J<|cl J ihy J<|cl J (ym (l:=l) (x:=x.compl) (y:=y.compl)) J<|rz J J
def xW: ∀{t:Tr},PF GB prog 98 [eU t] (eU (Tr.compl t))
 | .leaf _=>an2
 | .node _ _ _=>aoI xW xW
def ayr{b:Bool}{c:ao}(hb:t.all LB)(ho:t.all aa.ok)(hc:dE c)(hn:c.length+t.depth<=100000):PF GB prog 289 [vI op, .v (.bool b),eU t, .sl (c.map cO)] (eU (t.chooseQ op b c)):=by
 refine fn func289 J J ntmps289 J J (fun C=>?_);refine br J J J (fun hc10=>?_) (fun hc10=>?_)
 .
  refine br J J J (fun hc10=>?_) (fun hc10=>?_)
  .
   refine bb J J J (fun hc18=>?_) (fun hc18=>?_)
   .
    refine cl J qE J<|rz J (by unfold Tr.chooseQ;simp_all [eG]<;>omega)
   .
    refine cl J (oo (by assumption) (by assumption) (by assumption) (by omega)) J<|rz J (by unfold Tr.chooseQ;simp_all [eG]<;>omega)
  .
   refine br J J J (fun hc13=>?_) (fun hc13=>?_)
   .
    refine bb J J J (fun hc22=>?_) (fun hc22=>?_)
    .
     refine cl J qE J<|rz J (by unfold Tr.chooseQ;simp_all [eG]<;>omega)
    .
     refine bb J J J (fun hc24=>?_) (fun hc24=>?_)
     .
      refine cl J (oo (by assumption) (by assumption) (by assumption) (by omega)) J<|cl J (xW (t:=t.restrict c)) J<|rz J (by unfold Tr.chooseQ;simp_all [eG]<;>omega)
     .
      refine cl J (oo (by assumption) (by assumption) (by assumption) (by omega)) J<|rz J (by unfold Tr.chooseQ;simp_all [eG]<;>omega)
   .
    refine bb J J J (fun hc24=>?_) (fun hc24=>?_)
    .
     refine cl J (oo (by assumption) (by assumption) (by assumption) (by omega)) J<|cl J (xW (t:=t.restrict c)) J<|rz J (by unfold Tr.chooseQ;simp_all [eG]<;>omega)
    .
     refine cl J (oo (by assumption) (by assumption) (by assumption) (by omega)) J<|rz J (by unfold Tr.chooseQ;simp_all [eG]<;>omega)
 .
  refine br J J J (fun hc10=>?_) (fun hc10=>?_)
  .
   refine bb J J J (fun hc18=>?_) (fun hc18=>?_)
   .
    refine cl J qE J<|rz J (by unfold Tr.chooseQ;simp_all [eG]<;>omega)
   .
    refine cl J (oo (by assumption) (by assumption) (by assumption) (by omega)) J<|rz J (by unfold Tr.chooseQ;simp_all [eG]<;>omega)
  .
   refine br J J J (fun hc13=>?_) (fun hc13=>?_)
   .
    refine bb J J J (fun hc22=>?_) (fun hc22=>?_)
    .
     refine cl J qE J<|rz J (by unfold Tr.chooseQ;simp_all [eG]<;>omega)
    .
     refine bb J J J (fun hc24=>?_) (fun hc24=>?_)
     .
      refine cl J (oo (by assumption) (by assumption) (by assumption) (by omega)) J<|cl J (xW (t:=t.restrict c)) J<|rz J (by unfold Tr.chooseQ;simp_all [eG]<;>omega)
     .
      refine cl J (oo (by assumption) (by assumption) (by assumption) (by omega)) J<|rz J (by unfold Tr.chooseQ;simp_all [eG]<;>omega)
   .
    refine bb J J J (fun hc24=>?_) (fun hc24=>?_)
    .
     refine cl J (oo (by assumption) (by assumption) (by assumption) (by omega)) J<|cl J (xW (t:=t.restrict c)) J<|rz J (by unfold Tr.chooseQ;simp_all [eG]<;>omega)
    .
     refine cl J (oo (by assumption) (by assumption) (by assumption) (by omega)) J<|rz J (by unfold Tr.chooseQ;simp_all [eG]<;>omega)
def aob{b:Bool}{c:ao}(hbu:u.all LB)(hou:u.all aa.ok)(hc:dE c)(hn:c.length+u.depth<=100000):PF GB prog 235 [vI op,eU (.leaf b),eU u, .sl (c.map cO)] (eU (Tr.mergeQ op (.leaf b) u c)):=by
 refine fn func235 J J ntmps235 J J (fun C=>?_);refine cl (fu:=⟨0⟩) J qd J<|jO 14 J<|gx J<|cl J (ayr (t:=u) hbu hou hc hn) J<|rz J J
def anm{l:aa}{c:ao}(hl:LB l)(hlo:l.ok)(hc:dE c)(hn:c.length+(Tr.node l x y).depth+u.depth<=100000)(ihx: ∀{c:ao},dE c->c.length+x.depth+u.depth<=100000->PF GB prog 235 [vI op,eU x,eU u, .sl (c.map cO)] (eU (Tr.mergeQ op x u c)))(ihy: ∀{c:ao},dE c->c.length+y.depth+u.depth<=100000->PF GB prog 235 [vI op,eU y,eU u, .sl (c.map cO)] (eU (Tr.mergeQ op y u c))):PF GB prog 235 [vI op,eU (.node l x y),eU u, .sl (c.map cO)] (eU (Tr.mergeQ op (.node l x y) u c)):=by
 have hdp:(Tr.node l x y).depth=1+max x.depth y.depth:=J;have hdx:=rZ x.depth y.depth;have hdy:=pN x.depth y.depth;have hca:=tw c l;have hcb:=tw c l.rev;refine fn func235 J J ntmps235 J J (fun C=>?_);refine cl (fu:=⟨0⟩) J ru J<|qc 14 J<|gx J<|cl J (IY (c:=c) (l:=l) hlo hc) J<|bb J J J (fun hc34=>?_) (fun hc34=>?_)
 .
  refine cl J (ihx hc (by omega)) J<|rz J (by rw[Tr.mergeQ,if_pos hc34];rfl)
 .
  refine bb J J J (fun hc45=>?_) (fun hc45=>?_)
  .
   refine cl J (ihy hc (by omega)) J<|rz J (by rw[Tr.mergeQ,if_neg (by simp[hc34]),if_pos hc45];rfl)
  .
   refine cl J (ihx (c:=bE c l) (pG hlo hc) (by omega)) J<|cl J (ihy (c:=bE c l.rev) (pG hlo.rev hc) (by omega)) J<|cl J SG J<|rz J (by rw[Tr.mergeQ,if_neg (by simp[hc34]),if_neg (by simp[hc45])];rfl)
def Hs{op:Int}{u:Tr}(hbu:u.all LB)(hou:u.all aa.ok): ∀{t:Tr} {c:ao},t.all LB->t.all aa.ok->dE c->c.length+t.depth+u.depth<=100000->PF GB prog 235 [vI op,eU t,eU u, .sl (c.map cO)] (eU (Tr.mergeQ op t u c))
 | .leaf _,_,_,_,hc,hn=>aob hbu hou hc (by simp only[Tr.depth] at hn;omega)
 | .node l x y,c,hb,ho,hc,hn=>anm hb.1 ho.1 hc hn (fun h1 h2=>Hs hbu hou hb.2.1 ho.2.1 h1 h2) (fun h1 h2=>Hs hbu hou hb.2.2 ho.2.2 h1 h2)
def ta(n:Bool)(ds:List Nat):Prop:=e7 ds/\(n=true->0<ds.length)
instance (n:Bool) (ds:List Nat):Decidable (ta n ds):=inferInstanceAs (Decidable (_/\_))
structure RL where
 na:Bool
 da:List Nat
 nb:Bool
 db:List Nat
 nc:Bool
 dc:List Nat
def RL.d(r:RL):DV:= .ag [.v (.bool r.na),dk r.da, .v (.bool r.nb),dk r.db, .v (.bool r.nc),dk r.dc]
def pA(n:Bool)(ds:List Nat):Int:=if n then-(dv ds:Int) else dv ds
def RL.l(r:RL):aa:=⟨pA r.na r.da,pA r.nb r.db,pA r.nc r.dc⟩
def RL.nm(r:RL):Prop:=ta r.na r.da/\ta r.nb r.db/\ta r.nc r.dc
instance (l:aa):Decidable l.ok:=inferInstanceAs (Decidable (_/\_))
instance (r:RL):Decidable r.nm:=inferInstanceAs (Decidable (_/\_/\_))
structure RL.sm (r:RL):Prop where
 a:bD r.da/\r.da.length<=3
 b:bD r.db/\r.db.length<=3
 c:bD r.dc/\r.dc.length<=3
def auy(n:Bool)(ds:List Nat):(pA n ds).natAbs=dv ds:=by unfold pA;cases n<;>simp
theorem RL.lb{r:RL}(s:r.sm):LB r.l:=by
 have key: ∀(n:Bool) (ds:List Nat),bD ds/\ds.length<=3->(pA n ds).natAbs<2^96:=fun n ds h=>by
  rw[auy];refine cM (l7 h.1) ?_;rw[show(2:Nat)^96=4294967296^3 by decide];exact bY (by decide) h.2
 exact⟨key _ _ s.a,key _ _ s.b,key _ _ s.c⟩
def tu(n:Nat)(f:Nat->Bool):List Value:=(List.range n).map fun j=> .bool (f j)
def xZ(f:Nat->Bool)(i:Nat):Nat->Bool:=fun j=>f j||Nat.beq j i
def LW(n:Nat)(f:Nat->Bool):(tu n f).length=n:=by simp[tu]
def HL{f:Nat->Bool}{b:Bool}(h:i<n)(hf:f i=b):(tu n f)[i]? =some (.bool b):=by simp[tu,h,hf]
def aBI{f:Nat->Bool}(e:j≠i):xZ f i j=f j:=by
 unfold xZ
 cases hb:Nat.beq j i with
 |false=>rw[Bool.or_false]
 |true=>exact absurd (aN hb) e
def aCy{f:Nat->Bool}:xZ f i i=true:=by
 unfold xZ;rw[lM,sV]
def avD(n i:Nat)(f:Nat->Bool):(tu n f).set i (.bool true)=tu n (xZ f i):=by
 apply lS;intro j;rw[pY];simp only[tu,aX,kV,cR];by_cases hj:j<n
 .rw[qJ hj]
  simp only[lK];by_cases e:i=j
  .subst e;simp[hj,aCy]
  .rw[aBI (fun h=>e h.symm)];simp[e]
 .rw[eK (by simpa using hj)]
  by_cases e:i=j
  .subst e;simp[hj]
  .simp[e]
def RK(n:Nat):dm (.bool false) n=tu n (fun _=>false):=by
 apply lS;intro j;by_cases hj:j<n
 .rw[HL hj J]
  unfold dm;rw[Gr (aG (.bool false)) n j (by simpa[aG] using hj)];simp[aG,Nat.mod_one]
 .rw[eK (by rw[oh];simp[aG];omega),eK (by rw[LW];omega)]
structure RN where
 g:RL
 l:Int
 r:Int
def RN.d(n:RN):DV:= .ag [.v (.bool n.g.na),dk n.g.da, .v (.bool n.g.nb),dk n.g.db, .v (.bool n.g.nc),dk n.g.dc, .v (.int .i64 n.l), .v (.int .i64 n.r)]
def xX{q:Rat}{v:Value}(h:Is G (di q) v): ∃p,v= .pointer p:=by
 rcases sE.1 h with⟨_,h⟩|⟨_,h⟩
 .exact⟨_,h⟩
 .obtain⟨b,m,h,_⟩:=lA.1 h;exact⟨_,h⟩
def aGx{l:aa}{v:Value}(h:Is G (ck l) v): ∃n1 d1 p1 n2 d2 p2 n3 d3 p3,v= .agg ⟨[.int .i64 n1, .int .i64 d1, .pointer p1, .int .i64 n2, .int .i64 d2, .pointer p2, .int .i64 n3, .int .i64 d3, .pointer p3]⟩:=by
 obtain⟨m,rfl,g⟩:=en.1 h;clear h;obtain⟨v1,m,rfl,h1,h⟩:=bi.1 g;obtain⟨v2,m,rfl,h2,h⟩:=bi.1 h;obtain⟨v3,m,rfl,h3,h⟩:=bi.1 h;obtain⟨v4,m,rfl,h4,h⟩:=bi.1 h;obtain⟨v5,m,rfl,h5,h⟩:=bi.1 h;obtain⟨v6,m,rfl,h6,h⟩:=bi.1 h;obtain⟨v7,m,rfl,h7,h⟩:=bi.1 h;obtain⟨v8,m,rfl,h8,h⟩:=bi.1 h;obtain⟨v9,m,rfl,h9,h⟩:=bi.1 h;rw[ef] at h;subst h;obtain⟨_,rfl⟩:=xX h3;obtain⟨_,rfl⟩:=xX h6;obtain⟨_,rfl⟩:=xX h9;rw[aH.1 h1,aH.1 h2,aH.1 h4,aH.1 h5,aH.1 h7,aH.1 h8];exact⟨_,_,_,_,_,_,_,_,_,J⟩
def We{n:RN}{v:Value}(h:Is G n.d v): ∃x1 x2 x3:SV,v= .agg ⟨[.bool n.g.na, .slice x1.a x1.n x1.c, .bool n.g.nb, .slice x2.a x2.n x2.c, .bool n.g.nc, .slice x3.a x3.n x3.c, .int .i64 n.l, .int .i64 n.r]⟩/\
  Is G n.g.d (.agg ⟨[.bool n.g.na, .slice x1.a x1.n x1.c, .bool n.g.nb, .slice x2.a x2.n x2.c, .bool n.g.nc, .slice x3.a x3.n x3.c]⟩):=by
 obtain⟨m,rfl,g⟩:=en.1 h;clear h;obtain⟨v1,m,rfl,h1,h⟩:=bi.1 g;obtain⟨v2,m,rfl,h2,h⟩:=bi.1 h;obtain⟨v3,m,rfl,h3,h⟩:=bi.1 h;obtain⟨v4,m,rfl,h4,h⟩:=bi.1 h;obtain⟨v5,m,rfl,h5,h⟩:=bi.1 h;obtain⟨v6,m,rfl,h6,h⟩:=bi.1 h;obtain⟨v7,m,rfl,h7,h⟩:=bi.1 h;obtain⟨v8,m,rfl,h8,h⟩:=bi.1 h;rw[ef] at h;subst h;obtain⟨_,x1,_,rfl,_,_⟩:=gv.1 (id h2);obtain⟨_,x2,_,rfl,_,_⟩:=gv.1 (id h4);obtain⟨_,x3,_,rfl,_,_⟩:=gv.1 (id h6)
 cases aH.1 h1;cases aH.1 h3;cases aH.1 h5;cases aH.1 h7;cases aH.1 h8
 exact⟨x1,x2,x3,J,en.2 ⟨_,J, .cons h1 (.cons h2 (.cons h3 (.cons h4 (.cons h5 (.cons h6 .nil)))))⟩⟩
def wv{v:Value}(h:Is G (eU t) v): ∃p,v= .pointer p:=by
 obtain⟨b,m,h,_⟩:=lA.1 h;exact⟨_,h⟩
def PF.fn0{r:DV}(h: ∀{GB:Gh},PF GB P f ds r){vs:List Value}(hv:IsLs G ds vs):Fn P f vs G (fun v G'=>Is G' r v):=h (GB:=G) G vs (bI.refl G) hv
def eRT(rt:Int)(ns:List RN):DV:= .ag [vI rt, .sl (ns.map RN.d)]
def Rj{l:aa}(h:IsLs G (cU (.node l x y)) m): ∃n1 d1 p1 n2 d2 p2 n3 d3 p3 q r,m=[.int .i64 n1, .int .i64 d1, .pointer p1, .int .i64 n2, .int .i64 d2, .pointer p2, .int .i64 n3, .int .i64 d3, .pointer p3, .pointer q, .pointer r, .bool false]/\
  Is G (ck l) (.agg ⟨[.int .i64 n1, .int .i64 d1, .pointer p1, .int .i64 n2, .int .i64 d2, .pointer p2, .int .i64 n3, .int .i64 d3, .pointer p3]⟩)/\Is G (eU x) (.pointer q)/\Is G (eU y) (.pointer r):=by
 obtain⟨v1,m,rfl,h1,h⟩:=bi.1 h;obtain⟨v2,m,rfl,h2,h⟩:=bi.1 h;obtain⟨v3,m,rfl,h3,h⟩:=bi.1 h;obtain⟨v4,m,rfl,h4,h⟩:=bi.1 h;obtain⟨v5,m,rfl,h5,h⟩:=bi.1 h;obtain⟨v6,m,rfl,h6,h⟩:=bi.1 h;obtain⟨v7,m,rfl,h7,h⟩:=bi.1 h;obtain⟨v8,m,rfl,h8,h⟩:=bi.1 h;obtain⟨v9,m,rfl,h9,h⟩:=bi.1 h;obtain⟨va,m,rfl,ha,h⟩:=bi.1 h;obtain⟨vb,m,rfl,hb,h⟩:=bi.1 h;obtain⟨vc,m,rfl,hc,h⟩:=bi.1 h;rw[ef] at h;subst h;obtain⟨_,rfl⟩:=xX h3;obtain⟨_,rfl⟩:=xX h6;obtain⟨_,rfl⟩:=xX h9;obtain⟨_,rfl⟩:=wv ha;obtain⟨_,rfl⟩:=wv hb
 cases aH.1 h1;cases aH.1 h2;cases aH.1 h4;cases aH.1 h5;cases aH.1 h7;cases aH.1 h8;cases aH.1 hc
 exact⟨_,_,_,_,_,_,_,_,_,_,_,J,en.2 ⟨_,J, .cons h1 (.cons h2 (.cons h3 (.cons h4 (.cons h5 (.cons h6 (.cons h7 (.cons h8 (.cons h9 .nil))))))))⟩,ha,hb⟩
def aBN{b:Bool}(h:IsLs G (cU (.leaf b)) m):m=[.int .i64 0, .int .i64 0, .pointer none, .int .i64 0, .int .i64 0, .pointer none, .int .i64 0, .int .i64 0, .pointer none, .pointer none, .pointer none, .bool b]:=by
 obtain⟨v1,m,rfl,h1,h⟩:=bi.1 h;obtain⟨v2,m,rfl,h2,h⟩:=bi.1 h;obtain⟨v3,m,rfl,h3,h⟩:=bi.1 h;obtain⟨v4,m,rfl,h4,h⟩:=bi.1 h;obtain⟨v5,m,rfl,h5,h⟩:=bi.1 h;obtain⟨v6,m,rfl,h6,h⟩:=bi.1 h;obtain⟨v7,m,rfl,h7,h⟩:=bi.1 h;obtain⟨v8,m,rfl,h8,h⟩:=bi.1 h;obtain⟨v9,m,rfl,h9,h⟩:=bi.1 h;obtain⟨va,m,rfl,ha,h⟩:=bi.1 h;obtain⟨vb,m,rfl,hb,h⟩:=bi.1 h;obtain⟨vc,m,rfl,hc,h⟩:=bi.1 h;rw[ef] at h;subst h
 cases aH.1 h1;cases aH.1 h2;cases aH.1 h3;cases aH.1 h4;cases aH.1 h5;cases aH.1 h6;cases aH.1 h7;cases aH.1 h8;cases aH.1 h9;cases aH.1 ha;cases aH.1 hb;cases aH.1 hc
 rfl
def J6: ∀{t:Tr} {A A2 G:Gh} {p:Option Addr} {ob wb:Nat} {lo lo2:Bool} {x:SV} {zs:List ND} {ns:List NQ} {B:List aA},Is A (eU t) (.pointer p)->t.all LB->[GL A G]->[GL A2 G]->il 8 105 x (zs.map ND.val) B->gz (rk 96 A2) zs ns->zs.length+t.size<=1000000->
  gt prog 162 [.pointer p, .pointer (some ⟨ob,0,none⟩), .pointer (some ⟨wb,0,none⟩)] (⟨ob,[.int .i64 0, .slice x.a x.n x.c],31,lo⟩::⟨wb,[nA ob wb],275,lo2⟩::B) G
   (fun v own' G'=> ∃x' zs' B',v= .int .i64 (t.num zs.length)/\own'=⟨ob,[.int .i64 0, .slice x'.a x'.n x'.c],31,false⟩::⟨wb,[nA ob wb],275,false⟩::B'/\il 8 105 x' (zs'.map ND.val) B'/\gz (rk 96 G') zs' (ns++t.wr zs.length))
 | .leaf bb,A,A2,G,p,ob,wb,lo,lo2,x,zs,ns,B,h,_,_,_,hB,hz,hle=>by
  obtain⟨n,m,e,hg,hm⟩:=lA.1 (id h)
  cases e
  cases aBN hm
  have hG:r8 A n _:=⟨hg⟩;have hz':gz (rk 96 G) zs (ns++[]):=by rw[fW];exact hz.imp fun _ _ h=>h.up
  refine gt.intro func162 J J ntmps162 J ?_;intro C _ _;show St C _ _ (⟨ob,[.int .i64 0, .slice x.a x.n x.c],31,false⟩::⟨wb,[nA ob wb],275,false⟩::asB B) _ _;refine sR<|sa J J<|zE<|eO<|sR<|sm J J<|?_;refine sc (zC J J (PF.fn0 qd (.cons (h.up GL.le) .nil)) J ?_);rintro _ G1 _ hv
  cases aH.1 hv
  refine zE<|sg J<|?_;refine eO<|sR<|sm J J<|sn J J<|sf J J<|Vt J J J<|zE<|?_
  cases bb
  case true=>
   refine sg J<|sR<|sa J J<|zE<|lf<|?_;exact vQ (.tmp J .nil) _ _ (List.Perm.refl _) (List.Sublist.refl _) ⟨x,zs,_,J,J,hB.asB,hz'.imp fun _ _ h=>h.up⟩
  refine ri J<|zK<|sR<|sa J J<|zE<|lf<|?_;exact vQ (.tmp J .nil) _ _ (List.Perm.refl _) (List.Sublist.refl _) ⟨x,zs,_,J,J,hB.asB,hz'.imp fun _ _ h=>h.up⟩
 | .node l s u,A,A2,G,p,ob,wb,lo,lo2,x,zs,ns,B,h,hall,_,_,hB,hz,hle=>by
  obtain⟨hlb,hall1,hall2⟩:=id hall;haveI:LB l:=hlb;obtain⟨n,m,e,hg,hm⟩:=lA.1 (id h)
  cases e
  obtain⟨n1,d1,p1,n2,d2,p2,n3,d3,p3,q,r,rfl,hzl,hs,hu⟩:=Rj hm;have hG:r8 A n _:=⟨hg⟩;have hxn:=hB.len;have hzn:=hz.len;simp only[Tr.size] at hle;obtain⟨xa,xn,xc⟩:=x;rw[aX] at hxn;simp only[] at hxn;subst hxn;refine gt.intro func162 J J ntmps162 J ?_;intro C _ _;show St C _ _ (⟨ob,[.int .i64 0, .slice xa zs.length xc],31,false⟩::⟨wb,[nA ob wb],275,false⟩::asB B) _ _;replace hB:=hB.asB;generalize asB B=B at hB;refine sR<|sa J J<|zE<|eO<|sR<|sm J J<|?_;refine sc (zC J J (PF.fn0 ru (.cons (h.up GL.le) .nil)) J ?_);rintro _ G1 _ hv
  cases aH.1 hv
  refine zE<|ri J<|?_;refine zK<|sR<|sf J J<|mF J J J<|sP J J<|sa J J<|zE<|eO<|?_;refine uM [⟨ob,[.int .i64 0, .slice xa zs.length xc],31,false⟩] (fun i=>Nat.beq i 11) [(0,true),(1,true),(2,true),(3,true),(4,true),(5,true),(6,false),(7,true),(8,false),(9,false),(10,true),(11,false)] follows (by kernel_rfl)<|?_;refine dF J J J<|pn J J J J<|dM J J J<|dy J (fun _=>m8 J) J J<|?_;refine dF J J J<|dy J (fun _=>CG J ve J) J J<|?_;refine dc J J (zC J J (PF.fn0 (NL (l:=l)) (.cons (hzl.up GL.le) .nil)) J ?_);rintro _ G2 _ hv;obtain⟨ia,ib,ic,rfl,hia,hib,hic⟩:=VV hlb.bl hv;refine lG<|dy J (fun _=>vO J) J J<|?_;refine dc J J (Rp J (by rfl) (by rfl) (by decide) (by decide) J ?_);intro b3;refine lG<|?_;refine dc J J (Xh (v:=ND.val ⟨ia,ib,ic,0,0⟩) (vs:=zs.map ND.val) [_,_,_] rfl hB J J (zg inferInstance J) J (ND.flat [⟨ia,ib,ic,0,0⟩] _ aQ) (by decide) (by rw[aX];omega) J J ?_);intro x1 B1 hB1;rw[show zs.map ND.val++[ND.val ⟨ia,ib,ic,0,0⟩]=(zs++[(⟨ia,ib,ic,0,0⟩:ND)]).map ND.val by simp] at hB1;show St C _ _ (⟨b3,_,_,true⟩::⟨ob,[.int .i64 0, .slice xa zs.length xc],31,false⟩::⟨wb,[nA ob wb],275,false⟩::B1) _ _;refine lG<|dF J J J<|?_;refine dc J J (zh (cs':=[.int .i64 0, .slice x1.a x1.n x1.c]) J J J (.tl _ _ _ _ _ _ _ _ (.hd ..)) (nb J) J J ?_);refine aKp J<|dn<|?_;refine R8 _ (nZ _ _) ?_;have hz1:gz (rk 96 G2) (zs++[(⟨ia,ib,ic,0,0⟩:ND)]) (ns++[⟨l,0,0⟩]):=(hz.imp fun _ _ h=>h.up).app (.cons ⟨hia,hib,hic,J,J⟩ .nil);refine eO<|uM [⟨wb,[nA ob wb],275,false⟩] (fun _=>false) [(0,true),(1,true),(2,true),(3,true),(4,true),(5,false),(6,true)] follows (by kernel_rfl)<|?_
  refine pn J J J J<|dM J J J<|dy J (fun _=>m8 J) J J<|dF J J J<|dy J (fun _=>qD J ve J) J J<|?_;refine dc J J (Af (c1:=[]) (M:=_::_::B1) (rest:=[]) J J (by rw[fW]) (J6 (lo:=false) (lo2:=false) hs hall1 hB1 hz1 (by simp;omega)) J ?_);rintro _ _ G3 fl _ hf _ ⟨x2,NU,B2,rfl,rfl,hB2,hz2⟩;have e1:fl ob=false:=hf _ aQ J;have e2:fl wb=false:=hf _ (aJ _ aQ) J;replace hB2:=hB2.relo fl;refine JK (own':=⟨ob,[.int .i64 0, .slice x2.a x2.n x2.c],31,false⟩::⟨wb,[nA ob wb],275,false⟩::B2.map (relo fl)) (by simp only[bU,relo,e1,e2,fW]) ?_;generalize B2.map (relo fl)=B2 at hB2;have hl2:=hz2.len;simp only[aY,Tr.wr_len,gS] at hl2;refine lG<|dA J J J<|dn<|eO<|uM [⟨wb,[nA ob wb],275,false⟩] (fun _=>false) [(0,true),(1,true),(2,true),(3,true),(4,true),(5,false),(6,true)] follows (by kernel_rfl)<|?_;refine pn J J J J<|dM J J J<|dy J (fun _=>m8 J) J J<|dF J J J<|dy J (fun _=>qD J ve J) J J<|?_;refine dc J J (Af (c1:=[]) (M:=_::_::B2) (rest:=[]) J J (by rw[fW]) (J6 (lo:=false) (lo2:=false) hu hall2 hB2 hz2 (by omega)) J ?_);rintro _ _ G4 fl _ hf _ ⟨x3,xg,B3,rfl,rfl,hB3,hz3⟩;have e3:fl ob=false:=hf _ aQ J;have e4:fl wb=false:=hf _ (aJ _ aQ) J;replace hB3:=hB3.relo fl;refine JK (own':=⟨ob,[.int .i64 0, .slice x3.a x3.n x3.c],31,false⟩::⟨wb,[nA ob wb],275,false⟩::B3.map (relo fl)) (by simp only[bU,relo,e3,e4,fW]) ?_;generalize B3.map (relo fl)=B3 at hB3;have hl3:=hz3.len;simp only[aY,Tr.wr_len,gS] at hl3;have hn3:zs.length<xg.length:=by omega
  rcases hB3 with⟨h1,_,_⟩|⟨nb,rest,lo3,hx3,rfl,hf1,hf2,hf3⟩
  .have:=congrArg List.length h1;rw[aX,eY] at this;omega
  obtain⟨x3a,x3n,x3c⟩:=x3;simp only[SV.mk.injEq] at hx3;obtain⟨rfl,rfl,_⟩:=hx3;rw[aX] at hf3;have hzz:ns.length=zs.length:=hzn.symm;obtain⟨zn,hzn1,hzn2⟩:=hz3.get (i:=zs.length) (b:=⟨l,0,0⟩) (by rw[dV,dV,<-hzz,jU (bW _),pR];rfl);obtain⟨_,hzn3⟩:=aR.1 hzn1;have hL1:(zs++[(⟨ia,ib,ic,0,0⟩:ND)]).length=zs.length+1:=by simp
  have hL2:NU.length=zs.length+1+s.size:=by omega
  rw[hL1] at hz3;rw[hL1,hL2];rw[hL2] at hz3;refine lG<|dA J J J<|dn<|?_;refine eO<|uM [⟨ob,[.int .i64 0, .slice (some ⟨nb,0,none⟩) (xg.map ND.val).length x3c],31,false⟩] (fun _=>false) [(0,true),(1,true),(2,true),(3,true),(4,true),(5,true),(6,true),(7,true),(8,true),(9,true),(10,false),(11,true),(12,true),(13,false)] follows (by kernel_rfl)<|?_;refine dF J J J<|pn J J J J<|dM J J J<|dF J J J<|?_;refine pn J J J J<|dM J J J<|dM J J J<|dM J J J<|dy J (fun _=>t7 J J (by omega) (by rw[aX];omega)) J J<|?_;refine dF J J J<|?_;refine dc J J (ur J J (.tl _ _ _ _ _ _ _ _ (.tl _ _ _ _ _ _ _ _ (.hd ..))) (by rw[aY,hf1,aX,bM];omega) J J ?_);rw[bM,Om xg rest zs.length 6 _ {zn with l:=s.num (zs.length+1)} hn3 (by decide) (by rw[hzn3];rfl)];refine lG<|dy J (fun _=>t7 J J (by omega) (by rw[aX];omega)) J J<|dF J J J<|?_;refine dc J J (ur J J (.tl _ _ _ _ _ _ _ _ (.tl _ _ _ _ _ _ _ _ (.hd ..))) (by rw[aY,eD (s:=8) _ (ND.len8 _),aX,bQ,bM];omega) J J ?_);rw[bM,Om (xg.set zs.length _) rest zs.length 7 _ {zn with l:=s.num (zs.length+1),r:=u.num (zs.length+1+s.size)} (by rw[bQ];exact hn3) (by decide) (by rw[List.getElem_set_self];rfl)];refine lG<|dn<|sR<|sm J J<|sa J J<|zE<|lf<|?_;have hfin:=hz3.set (a:={zn with l:=s.num (zs.length+1),r:=u.num (zs.length+1+s.size)}) (b:=⟨l,s.num (zs.length+1),u.num (zs.length+1+s.size)⟩) ⟨hzn2.a,hzn2.b,hzn2.c,J,J⟩ zs.length;have hns:(ns++[(⟨l,0,0⟩:NQ)]++s.wr (zs.length+1)++u.wr (zs.length+1+s.size)).set zs.length ⟨l,s.num (zs.length+1),u.num (zs.length+1+s.size)⟩=ns++(Tr.node l s u).wr zs.length:=by
   rw[dV,dV,nR _ _ (by omega),hzz,pR];simp[Tr.wr]
  rw[hns] at hfin;refine vQ (.tmp J .nil) _ _ (List.Perm.refl _) (List.Sublist.refl _) ⟨⟨some ⟨nb,0,none⟩,(xg.map ND.val).length,x3c⟩,_,_,J,J,?_,hfin⟩;refine .inr ⟨nb,rest,lo3,by simp,by rw[List.set_set],?_,?_,?_⟩
  .rw[eD (s:=8) _ (ND.len8 _)]
  .rw[eD (s:=8) _ (ND.len8 _),aX,bQ];rw[hf1,aX] at hf2;exact hf2
  .rw[aX,bQ];exact hf3
def ZL(hb:t.all LB)(hs:t.size<=1000000):PF GB prog 90 [eU t] (eA t):=by
 intro G vs _ hv;obtain⟨v0,m,rfl,h,hm⟩:=bi.1 hv;rw[ef] at hm;subst hm;obtain⟨p,rfl⟩:=wv h;refine Fn.intro func90 J J ntmps90 J ?_;intro C _ hC;refine sR<|?_;refine sc (vm J ?_);intro b1;refine zE<|sR<|?_;refine sc (vm J ?_);intro b2;refine zE<|sR<|?_;refine sc (vm J ?_);intro b3;refine zE<|sR<|sy (JW J J) J<|?_;refine sc (zh (cs':=[nA b2 b3]) J J J (.hd ..) (nb J) J J ?_);refine zE<|sR<|mF J J J<|sm J J<|?_;refine sc (Af (c1:=[]) (M:=[⟨b2,[.int .i64 0, .slice none 0 0],31,true⟩,⟨b3,[nA b2 b3],275,true⟩]) (rest:=[⟨b1,[.int .i64 0, .slice none 0 0],31,true⟩]) J J (List.Perm.swap ..) (J6 (A:=G) (A2:=G) (x:=⟨none,0,0⟩) (zs:=[]) (ns:=[]) (B:=[]) h hb (il.nil ..) .nil (by simpa using hs)) J ?_);rintro _ _ G4 fl _ _ hf ⟨x,zs,B,rfl,rfl,hB,hz⟩;have e1:=hf (by simp) b2;have e2:=hf (by simp) b3;replace hB:=hB.relo fl;refine JK (own':=⟨b2,[.int .i64 0, .slice x.a x.n x.c],31,true⟩::⟨b3,[nA b2 b3],275,true⟩::(B.map (relo fl)++[⟨b1,[.int .i64 0, .slice none 0 0],31,true⟩])) (by simp only[bU,relo,e1,e2,gN]) ?_;generalize B.map (relo fl)=B at hB;refine AN (⟨b2,[.int .i64 0, .slice x.a x.n x.c],31,true⟩::⟨b3,[nA b2 b3],275,true⟩::⟨b1,[.int .i64 0, .slice none 0 0],31,true⟩::B) ((iM (l₁:=B) (l₂:=[_])).cons _ |>.cons _) ?_;refine sf J J<|?_;refine sc (zh (cs':=[.int .i64 (t.num 0), .slice x.a x.n x.c]) J J J (.hd ..) (nb J) J J ?_);refine zE<|sR<|Df J J J<|?_;refine sc (D2 (cs':=[.int .i64 (t.num 0), .slice x.a x.n x.c]) J J J (.tl _ _ _ _ _ _ _ _ (.tl _ _ _ _ _ _ _ _ (.hd ..))) J (nb J) J J ?_)
 refine zE<|?_;refine ZR (L:=[_,_,_]) hC hB (ND.len8 _) ?_;intro G5 _ hsl;show St C _ _ [⟨b2,_,_,true⟩,⟨b3,_,_,true⟩,⟨b1,[.int .i64 (t.num 0), .slice x.a x.n x.c],31,true⟩] _ _;refine lf<|?_;exact zD (.agg J ii ii J .nil) (aHc (k:=96) ⟨zs,hsl,by rw[jM] at hz;exact hz.imp fun _ _ h=>h.up⟩)
def Tr.pre:Tr->List Tr
 | .leaf b=>[.leaf b]
 | .node l x y=> .node l x y::(x.pre++y.pre)
structure MB (f:FuncId) (c2:List Value) (σ:Type) (step:σ->Tr->σ) (ok:σ->Tr->Prop) (Inv:σ->List aA->Gh->Prop):Prop where
 up: ∀{s B G G'},bI G G'->Inv s B G->Inv s B G'
 re: ∀{s B G} (fl:Nat->Bool),Inv s B G->Inv s (B.map (relo fl)) G
 go: ∀{s t p B G},ok s t->Inv s B G->Is G (eU t) (.pointer p)->gt prog f (.pointer p::c2) B G (fun _ B' G'=>Inv (step s t) B' G')
section
variable {own:List aA}
def F'{fn:Func}{vs:List Value}(hr:jE P fr own fn.results.toList vs)(own2 own3:List aA)(hp:own.Perm own2)(hs:own3.Sublist own2)(hk:K (nv vs) own3 G):St C n fr own G (eg C P fn (qj C K) .normal):=
 fun a w rl hmk=>⟨rl.df.trans hmk,_,sA hr rl.fr rl.h,_,own3,G,J,(rl.h.perm hp).drop hs,hk⟩
end
def vz{σ:Type}(step:σ->Tr->σ)(ok:σ->Tr->Prop):σ->List Tr->Prop
 |_,[]=>True
 |s,t::ts=>ok s t/\vz step ok (step s t) ts
structure EX (σ:Type) where
 ts:List Tr
 vs:List Value
 rest:List Value
 b:Nat
 cap:Nat
 lo:Bool
 s:σ
 B:List aA
def qt(t:Tr):Nat:=2*t.size+1
def YW(ts:List Tr):ts.length<=(ts.map qt).sum:=by
 induction ts with
 |nil=>exact bW _
 |cons t ts ih=>simp only[bZ,bU,sM,qt];omega
def pP(ts:List Tr):List Tr:=ts.reverse.flatMap Tr.pre
structure EI (A:Gh) {σ:Type} (step:σ->Tr->σ) (ok:σ->Tr->Prop) (Inv:σ->List aA->Gh->Prop) (N:Nat) (fin:σ) (x:EX σ) (G:Gh):Prop where
 rel:gz (fun v t=> ∃p,v= .pointer p/\Is A (eU t) (.pointer p)) x.vs x.ts
 cap:x.vs.length+x.rest.length=x.cap
 inv:Inv x.s x.B G
 mu:(x.ts.map qt).sum<=N
 okf:vz step ok x.s (pP x.ts)
 fin:(pP x.ts).foldl step x.s=fin
def Hw{α β:Type}{R:α->β->Prop}{v:α}{t:β}: ∀{vs:List α} {ts:List β},gz R (vs++[v]) (ts++[t])->gz R vs ts/\R v t
 |[],[], .cons h .nil=>⟨.nil,h⟩
 |[],_::b, .cons _ h=>by cases b<;>cases h
 |_::a,[], .cons _ h=>by cases a<;>cases h
 |_::_,_::_, .cons h k=>⟨.cons h (Hw k).1,(Hw k).2⟩
def Xk{step:σ->Tr->σ}{ok:σ->Tr->Prop}{Inv:σ->List aA->Gh->Prop}(V:MB f c2 σ step ok Inv){p:Option Addr}{s:σ}{B:List aA}
  (h:Is G (eU t) (.pointer p))(hI:Inv s B G)(hok:vz step ok s t.pre)(hs:t.size<=1000000000000):
  gt prog 290 [.pointer p, .func (.func f) #[] ⟨c2⟩] B G (fun _ B' G'=>Inv (t.pre.foldl step s) B' G'):=by
 refine gt.intro func290 J J ntmps290 J ?_;intro C _ _;refine sR<|sm J J<|?_;refine sc (Rp J (by rfl) (by rfl) (by decide) (by decide) J ?_);intro b1;refine sa J J<|zE<|wA<|?_;refine K7 (X:=EX σ) (fun x=>[(4, .slice (some ⟨x.b,0,none⟩) x.vs.length x.cap),(1, .func (.func f) #[] ⟨c2⟩)]) (fun x=>⟨x.b,x.vs++x.rest,152,x.lo⟩::x.B) (EI G step ok Inv (qt t) (t.pre.foldl step s)) (fun x=>(x.ts.map qt).sum)
  ⟨[t],[.pointer p],[],b1,1,true,s,asB B⟩ ⟨.cons ⟨p,J,h⟩ .nil,J,V.re (fun _=>false) hI,by simp,by simpa[pP] using hok,by simp[pP]⟩ (.cons J (.cons J .nil)) J ?_
 rintro ⟨ts,vs,rest,b,cap,lo,s1,B1⟩ Gx _ ⟨hrel,hcap,hinv,hmu,hokf,hfin⟩;simp only at hrel hcap hinv hmu hokf hfin;have hln:=hrel.len;have hlt:=YW ts;unfold qt at hmu hlt;refine eO<|sR<|sm J J<|sP J J<|sy (A' J J) J<|zE<|?_;refine O5 J (fun hc=>?_) (fun hc=>?_)
 .refine Pk<|Dd<|Dd<|M'<|?_
  refine F' .nil _ _ (List.Perm.refl _) (nZ _ _) ?_;obtain rfl:ts=[]:=by
   cases ts with
   |nil=>rfl
   |cons a l=>simp only[bZ] at hln;exfalso;apply hc;show(0:Int)<(vs.length:Int);omega
  have:s1=t.pre.foldl step s:=hfin;rw[<-this];exact hinv
 refine zK<|?_;obtain⟨vs,v,rfl⟩: ∃vs' v',vs=vs'++[v']:=by
  rcases nS vs with e|⟨a,b,e⟩
  .subst e;simp at hc
  .exact⟨a,b,by rw[e,nL]⟩
 obtain⟨ts,u,rfl⟩: ∃vs' v',ts=vs'++[v']:=by
  rcases nS ts with e|⟨a,b,e⟩
  .subst e;simp at hln
  .exact⟨a,b,by rw[e,nL]⟩
 obtain⟨hrel1,q,rfl,hq⟩:=Hw hrel;have hl1:(vs++[Value.pointer q]).length=vs.length+1:=by simp
 have hst:pP (ts++[u])=u.pre++pP ts:=by simp[pP]
 rw[hst] at hokf hfin;simp only[aL,tZ,bU,iZ,sM,List.sum_nil,gJ,aY,gS] at hmu hlt hln hcap;refine axx [(4,Value.slice (some ⟨b,0,none⟩) (vs.length+1:Nat) cap),(1, .func (.func f) #[] ⟨c2⟩)] (.cons (by show some (Value.slice _ (vs++[Value.pointer q]).length _)=_;rw[hl1]) (.cons J .nil)) ?_;refine wA<|sR<|sm J J<|sP J J<|sy (Vd J J) J<|sa J J<|zE<|sR<|sm J J<|?_;rw[show((vs.length+1:Nat):Int)-1=(vs.length:Nat) by omega];refine sm J J<|sy (t7 J J) J<|?_;refine sy (n8 (v:=Value.pointer q) J (by rw[bM,jX,dV,jU (bW _),pR];rfl)) J<|sa J J<|zE<|sR<|sm J J<|sm J J<|sy (EM J J) J<|?_;rw[bM];refine sa J J<|zE<|sR<|sm J J<|sm J J<|?_;have hokq:ok s1 u/\vz step ok (step s1 u) (u.pre.tail++pP ts):=by cases u<;>exact hokf
 refine sc (Af (c1:=[]) (M:=B1) (rest:=[⟨b,vs++[Value.pointer q]++rest,152,lo⟩]) J J (iM (l₁:=[_])) (V.go hokq.1 hinv (hq.up GL.le)) J ?_);rintro _ B2 G2 fl _ _ _ hinv2;replace hinv2:=V.re fl hinv2;refine AN (⟨b,vs++Value.pointer q::rest,152,lo⟩::B2.map (relo fl)) (by rw[dV];exact(iM (l₂:=[_]))) ?_;generalize B2.map (relo fl)=B2 at*;refine zE<|sR<|sm J J<|?_
 cases u with
 |leaf bb=>
  refine sc (zC J J (PF.fn0 qd (.cons (hq.up GL.le) .nil)) J ?_);rintro _ G3 _ hv
  cases aH.1 hv
  refine sy (ti J) J<|zE<|ri J<|zK<|?_;exact Iw ⟨ts,vs,Value.pointer q::rest,b,cap,lo,step s1 (.leaf bb),B2⟩ ⟨hrel1,by simp only[bZ];omega,V.up GL.le hinv2,by simp only;unfold qt;omega,hokq.2,hfin⟩ (by simp only[aL,tZ,bU,iZ,sM,List.sum_nil];unfold qt;omega) (.cons J (.cons J .nil)) J
 |node l x y=>
  obtain⟨nbk,m,e,hg,hm⟩:=lA.1 (id hq)
  cases e
  obtain⟨n1,d1,p1,n2,d2,p2,n3,d3,p3,q1,q2,rfl,_,hx,hy⟩:=Rj hm;have hgg:r8 G nbk _:=⟨hg⟩;refine sc (zC J J (PF.fn0 ru (.cons (hq.up GL.le) .nil)) J ?_);rintro _ G3 _ hv
  cases aH.1 hv
  refine sy (ti J) J<|zE<|sg J<|?_;refine uM [] (fun _=>false) [(0,true),(1,true),(2,true),(3,true),(4,true),(5,true),(6,true),(7,true),(8,true),(9,false),(10,false),(11,true)] follows (by kernel_rfl)<|dM J J J<|?_;refine dM J J J<|dy J (fun _=>m8 J) J J<|dF J J J<|dy J (fun _=>qD J ve J) J J<|?_;refine dM J J J<|dy J (fun _=>m8 J) J J<|dF J J J<|dy J (fun _=>qD J ve J) J J<|?_;refine dc J J (RY (by rfl) (by rfl) (by rfl) (by rfl) J ?_);intro b3;refine lG<|?_;refine dc J J (JM (m:=2) (xs:=vs) (ys:=[Value.pointer q2,Value.pointer q1]) (rest:=Value.pointer (some ⟨nbk,0,none⟩)::rest) J J (.tl _ _ _ _ (.hd ..)) (by omega) (by simp only[bZ];omega) (by omega) (zg inferInstance J) J (by simp[Sx.flat]) (by decide) (by omega) (by rfl) J ?_);intro b4 lo4 cap4 rest4 h1 h2;refine lG<|dA J J J<|dn<|?_;have hsz:(Tr.node l x y).size=1+x.size+y.size:=J;refine R8 (⟨b4,vs++[Value.pointer q2,Value.pointer q1]++rest4,152,lo4⟩::B2) (.cons_cons _ (nZ _ _)) ?_;have hs2:pP (ts++[y,x])=x.pre++y.pre++pP ts:=by simp[pP]
  refine Iw ⟨ts++[y,x],vs++[Value.pointer q2,Value.pointer q1],rest4,b4,cap4,lo4,step s1 (.node l x y),B2⟩ ⟨hrel1.app (.cons ⟨_,J,hy⟩ (.cons ⟨_,J,hx⟩ .nil)),by simp only[aY,bZ,eY];omega,V.up GL.le hinv2,?_,?_,?_⟩ ?_ (.cons (by show some (Value.slice _ (vs.length+2) _)=some (Value.slice _ (vs++[_,_]).length _);rw[aY];rfl) (.cons J .nil)) J
  .simp only[aL,tZ,bU,iZ,sM,List.sum_nil];unfold qt;omega
  .simp only;rw[hs2];exact hokq.2
  .simp only;rw[hs2];exact hfin
  .simp only[aL,tZ,bU,iZ,sM,List.sum_nil];unfold qt;omega
def awF{own:List aA}{Φ:Act->World->Prop}{dst:Option Nat}{ty':TypeId}{pos:String}{af:Array Edge}{gd:Option (Nat×Bool)}{fo:Operand}{args:Array Operand}{tys:Array TypeId}{vs:List Value}{rest:List aA}(ho:aB fr fo=some (.func (.func f) #[] #[]))(hv:fi fr args.toList=some vs)
  (hp:own.Perm (M++rest))(hF:gt P f vs M G K)(hd:ce n dst=true)
  (h: ∀v own1 (G':Gh) (fl:Nat->Bool),[GE G G']->(∀m∈M,m.lo=false->fl m.b=false)->((∀m∈M,m.lo=true)-> ∀b,fl b=true)->K v own1 G'->St C n (put fr dst v) (own1.map (relo fl)++rest) G' Φ):
  Ch P C n fr own G ⟨dst, .call ⟨.value fo,args,tys⟩,ty',pos,af,gd⟩ Φ:=
 Af (c1:=[]) (c2:=[]) ho hv hp (by simpa using hF) hd h
def szI(nbk:Nat)(s:Nat)(B:List aA)(_:Gh):Prop:= ∃lo,B=[⟨nbk,[.int .i64 s],3,lo⟩]
def th(s:Nat):Tr->Nat
 | .leaf _=>s
 | .node .. =>s+1
def Yi(nbk:Nat):MB 291 [.pointer (some ⟨nbk,0,none⟩)] Nat th (fun s _=>s<1000000000000) (szI nbk) where
 up:=fun _ h=>h
 re:=fun{s B G} fl h=>by obtain⟨lo,rfl⟩:=h;exact⟨_,rfl⟩
 go:=by
  intro s t p B G hs hI ht;obtain⟨lo,rfl⟩:=hI;refine gt.intro func291 J J ntmps291 J ?_;intro C _ _;show St C _ _ [⟨nbk,_,_,false⟩] _ _
  cases t with
  |node l x y=>
   refine sR<|sm J J<|?_;refine sc (zC J J (PF.fn0 ru (.cons ht .nil)) J ?_);rintro _ G1 _ hv
   cases aH.1 hv
   refine sy (ti J) J<|zE<|sg J<|Dl<|mF J J J<|sy (vK J J) J<|?_;refine sc (zh J J J (.hd ..) (nb J) J J ?_);refine zE<|?_;exact F' .nil _ _ (List.Perm.refl _) (List.Sublist.refl _) ⟨false,by show [_]=[_];rfl⟩
  |leaf b=>
   refine sR<|sm J J<|?_;refine sc (zC J J (PF.fn0 qd (.cons ht .nil)) J ?_);rintro _ G1 _ hv
   cases aH.1 hv
   refine sy (ti J) J<|zE<|ri J<|zK<|?_;exact F' .nil _ _ (List.Perm.refl _) (List.Sublist.refl _) ⟨false,J⟩
def I6: ∀(t:Tr) (s:Nat),t.pre.foldl th s=s+t.size
 | .leaf _,s=>rfl
 | .node l x y,s=>by
  simp only[Tr.pre,iS,mL,th,I6 x,I6 y,Tr.size];omega
def Hy: ∀(t:Tr) (s:Nat) (L:List Tr),s+t.size<1000000000000->(∀s',s'=s+t.size->vz th (fun s _=>s<1000000000000) s' L)->vz th (fun s _=>s<1000000000000) s (t.pre++L)
 | .leaf _,s,L,h,k=>⟨by simp only[Tr.size] at h;omega,k _ J⟩
 | .node l x y,s,L,h,k=>by
  simp only[Tr.size] at h k;simp only[Tr.pre,gN,dV];exact⟨by omega,Hy x _ _ (by simp only[th];omega) fun s1 e1=>Hy y _ _ (by subst e1;simp only[th];omega) fun s2 e2=>k _ (by subst e1 e2;simp only[th];omega)⟩
def Vx(hs:t.size<1000000000000):PF GB prog 236 [eU t] (vI (t.size:Nat)):=by
 intro G vs _ hv;obtain⟨v0,m,rfl,h,hm⟩:=bi.1 hv;rw[ef] at hm;subst hm;obtain⟨p,rfl⟩:=wv h;refine Fn.intro func236 J J ntmps236 J ?_;intro C _ _;refine sR<|sa J J<|zE<|sR<|?_;refine sc (vm J ?_);intro b1;refine sc (zh J J J (.hd ..) (nb J) J J ?_);refine zE<|sR<|sm J J<|sy (JW J J) J<|?_;have hok:vz th (fun s _=>s<1000000000000) 0 t.pre:=by
  have:=Hy t 0 [] (by omega) (fun _ _=>trivial);rwa [fW] at this
 refine sc (awF (M:=[⟨b1,[.int .i64 0],3,true⟩]) (rest:=[]) J J (List.Perm.refl _) (Xk (Yi b1) h ⟨true,J⟩ hok (by omega)) J ?_);rintro _ B G2 fl _ _ _ ⟨lo,rfl⟩;rw[I6,eJ];show St C _ _ [⟨b1,[.int .i64 t.size],3,_⟩] _ _;refine zE<|sR<|mF J J J<|sa J J<|zE<|lf<|?_;exact zD (.tmp J .nil) (aH.2 J)

end Go.Sx
end
section
namespace Go.Sx
open Go Go.Proofs Go.RowKit Go.Extern.Stop Go.Stop Go.Extern
def azO(v:Value)(w:World):(Extern.ReflectliteType.typeOf #[.iface 433 v]).run Tryz.prog w= .ok (.iface 243 (.agg #[.pointer (some ⟨Tryz.prog.globals.size,433,none⟩)])) w:=by kernel_rfl
def KR:TypeId->Sem Value:=fun t=>do Go.Extern.Rtype.noPackHeld "Comparable" t;pure (.bool (<-typeInfo t).comparable)
def Zj(w:World):((Extern.ReflectliteType.method KR) #[.agg #[.pointer (some ⟨Tryz.prog.globals.size,433,none⟩)]]).run Tryz.prog w= .ok (.bool true) w:=by kernel_rfl
def Zk:(Tryz.prog.info? 433).map (·.comparable)=some true:=by kernel_rfl
def Uh:(Tryz.prog.info? 458).map (·.size)=some 1:=by kernel_rfl
def Wh(n:Nat)(v:Value)(w:World):(Go.method (n+1) 243 v "Comparable").run Tryz.prog w= .ok (364,v) w:=by
 kernel_rfl
def aD3(a:Addr)(w:World):Calls Tryz.prog 25 #[.iface 433 (.pointer (some a)), .iface 433 (.pointer (some a))] w fun e w'=>e= .returned (.bool true)/\w'=w:=by
 obtain⟨i,hi,hcmp⟩:=Option.map_eq_some_iff.1 Zk;obtain⟨j,hj,hjs⟩:=Option.map_eq_some_iff.1 Uh;have h8:= @run_callFunc_extern Tryz.prog 68 _ Extern.ReflectliteType.typeOf Tryz.func68 (by kernel_rfl) (by kernel_rfl) (by kernel_rfl) (by kernel_rfl);have h32:= @run_callFunc_extern Tryz.prog 364 _ (Extern.ReflectliteType.method KR) Tryz.func364 (by kernel_rfl) (by kernel_rfl) (by kernel_rfl) (by kernel_rfl);have tT:=azO;have cT:=Zj;obtain⟨g,hg⟩: ∃g,g=Tryz.prog.globals.size:=⟨_,rfl⟩;simp only[<-hg] at tT cT;clear hg;have mR:=Wh;have heq:=run_eql_iface_ptr_same (P:=Tryz.prog) w a Tryz.underlying33 Tryz.underlying433 hi hcmp hj
 go_enter Tryz.func25,Tryz.ntmps25
 go_wp2
 refine wp_loop_rounds 1 ?_;rw[rounds_succ]
 go_wp2
 go_ret
 exact⟨J,J⟩
def WI:rB Tryz.prog 25:=⟨_,Tryz.func25,by kernel_rfl,by kernel_rfl⟩
def Aw(a:Addr):DV:= .v (.iface 433 (.pointer (some a)))
def V4{GB:Gh}{a:Addr}:PF GB Tryz.prog 25 [Aw a,Aw a] (.v (.bool true)):=by
 intro G vs _ hv;obtain⟨v1,m,rfl,h1,hm⟩:=bi.1 hv;obtain⟨v2,m,rfl,h2,hm⟩:=bi.1 hm;rw[ef] at hm;subst hm
 cases aH.1 h1;cases aH.1 h2
 exact(Fn.of_calls WI (aD3 a)).mono fun v G' _ h=>aH.2 h
end Go.Sx
end
section
namespace Go.Sx
open Go Go.Proofs Tryz
variable {n g d nm0 nm k ty s:Nat}{own' own1:aI}{f:FX}{Φ:Act->World->Prop}{K:List Kt}{c:Code}{ty0:TypeId}{lo:Bool}
section
variable {GB:Gh}{C:aF}{Q0:Exit->Act->World->Prop}{fr fr':aC}{own:aI}{cf cf':Cf}{vc:List Prop}
def Q2(fr:aC)(cf:Cf):Option Nat:=match cI fr cf with
 |some ⟨_, .load t (.global g),_,_,_,_⟩=>(match dO tt t with
  |some i=>match i.ag with
   |some none=>some g
   |_=>none
  |none=>none)
 |_=>none
def gl[fu:Fu]{v:Value}(h:Q2 fr cf=some g)(hg:GB g=some [v])(hgo:cH tt n fu.n fr own cf (.d (.v v)) [] []=⟨vc,fr',own',cf'⟩)(k:av prog GB C n Q0 fr' own' cf')
  (hv:autoParam (ak vc) cL._auto_1):av prog GB C n Q0 fr own cf:=by
 unfold Q2 at h;split at h<;>try (cases h;done)
 rename_i hh;split at h<;>try (cases h;done)
 rename_i i hT;split at h<;>cases h;rename_i ha;haveI:=vR (et _ _ hT) ha;refine us (f:= .d (.v v)) hh (b7.yd fun ρ G ov a w r=>⟨v,(aH (G:=G)).2 J,?_⟩) hgo hv k;haveI:r8 G g [v]:=⟨r.gb _ _ hg⟩;exact qD (b:=g) (off:=0) J ve J
def N7{x:DV}(hl:aO fr d=some f)(e:jm f=some x)(h:SX GB C n (aO ((d, .d x)::fr)) (bt own) Φ):SX GB C n (aO fr) (bt own) Φ:=mo (g:= .d x) hl (fun _ _ _ k=>l8 k e) h
def Rw(d:Nat)(x:DV){e:Exit}(hl:aO fr d=some f)(e1:jm f=some x)(k:av prog GB C n Q0 ((d, .d x)::fr) own (.ex e K)):av prog GB C n Q0 fr own (.ex e K):=N7 hl e1 k
def QT(d:Nat)(x:DV)(hl:aO fr d=some f)(e1:jm f=some x)(k:av prog GB C n Q0 ((d, .d x)::fr) own (.code c K)):av prog GB C n Q0 fr own (.code c K):=N7 hl e1 k
def aHQ{B1 B2:Option Bk}:bt (og (og own nm0 B1) nm B2)=upB (upB (bt own) [(nm0,B1)]) [(nm,B2)]:=by
 funext j;rw[Br];simp only[upB];rw[Br]
def ay5(hnm:Nat.blt nm 2000000=true){cs:List FX}(hb:bt own nm0=some (.o ty0 cs lo))(hk:cs[k]? =some .nl)(hne:nm0≠nm)(hf:jp [nm] none (aO fr) (bt own))
  (h:SX GB C n (aO fr) (bt (og (og own nm0 (some (.o ty0 (cs.set k (.rw nm)) lo))) nm (some (.b ty s [] true)))) Φ):SX GB C n (aO fr) (bt own) Φ:=by
 refine⟨fun ρ G ov a w r=>?_⟩;obtain⟨f1,f2⟩:=hf nm aQ;rw[aHQ] at h;refine h.run (fun k=>if k=nm then⟨none,0,0⟩ else ρ k) G ov a w ⟨r.gb,r.h,r.sz,r.df,fun k f e=>?_,fun m B e=>?_,fun m m' B B' e e' hne=>?_,fun m p h1 h2 e=>by
  have:nm<2000000:=by simpa[kL] using hnm
  show(if m=nm then(⟨none,0,0⟩:SV) else ρ m).a=_;rw[if_neg (by omega)];exact r.fxd m p h1 h2 e⟩
 .obtain⟨v,h1,h2⟩:=r.fx k f e
  exact⟨v,h1,h2.ren fun m hm=>uw _ fun hc=>f1 k f (by simp) e (by rw[hm,hc])⟩
 .simp only[upB] at e
  by_cases hm:m=nm
  .subst hm;simp only[if_true] at e;cases e
   exact⟨[],⟨[],by simp only[if_true];exact .inl ⟨J,J,J⟩, .nil,by simp,fun _ o ho=>by cases ho⟩,fun o ho=>by cases ho⟩
  .simp only[hm,if_false] at e
   by_cases hm0:m=nm0
   .subst hm0;simp only[if_true] at e;cases e
    obtain⟨os,h1,h2⟩:=r.bx m _ hb;have h1':kG (fun k=>if k=nm then⟨none,0,0⟩ else ρ k) G m (.o ty0 cs lo) os:=h1.ren (if_neg hm) fun q hq=>uw _ fun hc=>f2 m _ hm hb (by rw[<-hc];exact hq);obtain⟨b,ms,k1,k2,k3⟩:=h1';refine⟨os,⟨b,ms,k1,k2,?_⟩,h2⟩;obtain⟨y,e1,e2⟩:=k3.get hk;have:=k3.set (f:= .rw nm) (y:=y) k (by show y=_;simp only[if_true];exact e2);rwa [show ms.set k y=ms by apply lS;intro j;rw[pY];split<;>(try rfl);rename_i hj;subst hj;split<;>simp_all] at this
   .simp only[hm0,if_false] at e
    obtain⟨os,h1,h2⟩:=r.bx m B e;exact⟨os,h1.ren (if_neg hm) fun q hq=>uw _ fun hc=>f2 m B hm e (by rw[<-hc];exact hq),h2⟩
 .intro b hbb hb'
  have key: ∀q B,upB (upB (bt own) [(nm0,some (.o ty0 (cs.set k (.rw nm)) lo))]) [(nm,some (.b ty s [] true))] q=some B->q≠nm-> ∃B0,bt own q=some B0:=fun q B eq hq=>by
   simp only[upB,hq,if_false] at eq;by_cases hq0:q=nm0
   .subst hq0;exact⟨_,hb⟩
   .simp only[hq0,if_false] at eq;exact⟨_,eq⟩
  by_cases hm:m=nm
  .simp[hm] at hbb
  .by_cases hm':m'=nm
   .simp[hm'] at hb'
   .obtain⟨B0,g0⟩:=key m B e hm
    obtain⟨B1,g1⟩:=key m' B' e' hm';simp only[hm,hm',if_false] at hbb hb';exact r.dj m m' B0 B1 g0 g1 hne b hbb hb'
def C6(nm0 k nm ty s:Nat){cs:List FX}(hb:bt own nm0=some (.o ty0 cs lo))(hk:cs[k]? =some .nl)(hf:uP [nm] none fr own=true)(hne:Nat.beq nm0 nm=false)
  (ho:og (og own nm0 (some (.o ty0 (cs.set k (.rw nm)) lo))) nm (some (.b ty s [] true))=own1)(h:av prog GB C n Q0 fr own1 (.code c K))(hnm:Nat.blt nm 2000000=true:=by rfl):av prog GB C n Q0 fr own (.code c K):=by
 subst ho;exact ay5 hnm hb hk (fun e=>by subst e;rw[lM] at hne;cases hne) (AH hf) h
def Ql{ρ:NE}{G:Gh}: ∀{a b:List FX} {m:List Value},de ρ G (a++b) m-> ∃m1 m2,m=m1++m2/\de ρ G a m1/\de ρ G b m2
 |[],b,m,h=>⟨[],m,J,J,h⟩
 |f::t,b,m,⟨y,n,e,h1,h2⟩=>by
  obtain⟨m1,m2,rfl,k1,k2⟩:=Ql h2;exact⟨y::m1,m2,e,⟨y,m1,J,h1,k1⟩,k2⟩
end
end Go.Sx
end
