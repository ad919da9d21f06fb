import Derived.Test.YtmdgdhokaffbkaaGreatDoorTf18
import Derived.RecoverIn
import Derived.Shelf.SlSortCmp.NoneTotal
import Derived.Test.YtmdgdhokaffbkaaGreatDoorProg
import Derived.Shelf.SlicesQ.Reverse
set_option linter.all false
set_option maxHeartbeats 2000000
set_option maxRecDepth 100000
section
namespace Go.Sx
open Go Go.Proofs Tryz
variable {a q p b d q1 q2:ab}{i k j m k0:Nat}{l v r:List ab}{c:az}{s w:bi}{t:Tr}{ts:List (List ab)}{o x:Rat}
variable {GB:Gh}
def Zg{a:Nat}[h:BN a i](hi:i<=1000000000:=by decide):PF GB prog 290 [dN a] (.v (.bool true)):=
 (Oa (ds:=dg a) (f6 _).2.1 (by have:=gP (a:=a) hi;omega)).to (by unfold vB;rw[decide_eq_true (f6 a).2.2])
def KP{q:Rat}[hq:BQ q i](hi:i<=1000000:=by decide):PF GB prog 245 [eR q] (.v (.bool true)):=by
 have hd:=q.den_pos;have hdl:0<(dg q.den).length:=iV fun e=>by have:=sj.1 e;omega
 have hml:((dg q.den).map dU).length=(dg q.den).length:=aX ..;have hco:Nat.gcd q.num.natAbs q.den=1:=q.reduced;refine fn func245 J J ntmps245 J J (fun C=>?_);refine cl (fu:=⟨0⟩) J (Bd (m:=q.num) (i:=i) (h:=⟨hq.hn⟩) pb) J<|ii 5 J<|gx J<|cl (fu:=⟨0⟩) J (Zg (a:=q.den) (i:=i) (h:=⟨hq.hd⟩) pb) J<|ii 10 J<|gx (fu:=⟨6⟩) J<|bG J (omd pb) J<|cl (fu:=⟨0⟩) J (Fd (a:=q.num.natAbs) (b:=q.den) (i:=i) (j:=i) (h:=⟨hq.hn⟩) (k:=⟨hq.hd⟩) pb pb) J<|ah 24 (.d (dN 1)) J (by rw[hco])<|gx J<|cl J (rH (a:=1) (i:=1) (h:=⟨v6⟩)) J<|rz J J
def M4[hp:aE p i](hi:i<=1000000:=by decide):PF GB prog 170 [fe p] (.v (.bool true)):=by
 refine fn func170 J J ntmps170 J J (fun C=>?_);refine cl (fu:=⟨0⟩) J (KP (q:=p.x) (i:=i) pb) J<|ii 5 J<|gx J<|cl J (KP (q:=p.y) (i:=i) pb) J<|rz J J
def pC(l:List ab)(p:ab):Int:=match l.findIdx? (fun q=>decide (q.x=p.x/\q.y=p.y)) with
 |some i=>(i:Nat)
 |none=> -1
def Ay(hx:l[k]? =some q)(h:(l.take k).all (fun q=>!decide (q.x=p.x/\q.y=p.y))=true)(hq:q.x=p.x/\q.y=p.y):pC l p=(k:Nat):=by
 have hk:=(aS.1 hx).1;have e:l.findIdx? (fun q=>decide (q.x=p.x/\q.y=p.y))=some k:=by
  rw[List.findIdx?_eq_some_iff_getElem];refine⟨hk,?_,fun j hj=>?_⟩
  .rw[(aS.1 hx).2];exact decide_eq_true hq
  .have:=dZ.1 h l[j] (by rw[List.mem_take_iff_getElem];exact⟨j,pb,J⟩)
   simp at this⊢;intro a b;rcases this with k|k
   .exact k a
   .exact k b
 unfold pC;rw[e]
def Wc(h:l.all (fun q=>!decide (q.x=p.x/\q.y=p.y))=true):pC l p= -1:=by
 have e:l.findIdx? (fun q=>decide (q.x=p.x/\q.y=p.y))=none:=by
  rw[List.findIdx?_eq_none_iff];intro x hx;have:=dZ.1 h x hx;simp at this⊢;intro a b;rcases this with k|k
  .exact k a
  .exact k b
 unfold pC;rw[e]
def SY{g:ab->Bool}(hx:l[k]? =some q)(h:(l.take k).all g=true)(hq:g q=true):(l.take (k+1)).all g=true:=by
 rw[eM,hx,List.all_append,h];simp[hq]
def Lk[hp:aE p i](hl: ∀q∈l,aE q i)(hn:l.length<=100000)(hi:i<=1000000:=by decide):PF GB prog 172 [.sl (l.map eZ),eZ p] (vI (pC l p)):=by
 have hml:(l.map eZ).length=l.length:=aX ..;refine fn (fu:=⟨11⟩) func172 J J ntmps172 J J (fun C=>?_);refine ah 8 (.d (vI (l.length:Nat))) J omj<|gx J<|lp (X:=Nat) (fun k=>[(9, .d (vI (k:Nat)))]) (fun k=>[]) (fun k=>k<=l.length/\(l.take k).all (fun q=>!decide (q.x=p.x/\q.y=p.y))=true) (fun k=>l.length-k) 0 J ⟨aL _,J⟩ (fun _=>J) (fun k hk=>?_);obtain⟨hk,hall⟩:=hk;refine br J J J (fun hc10=>?_) (fun hc10=>?_)
 .
  obtain⟨q,hx⟩: ∃u,l[k]? =some u:=⟨_,aQ pb⟩;haveI:=hl q (aV hx);refine ix _ J (bF hx) J<|cl J (Ph (p:=q) (q:=p) (i:=i) hi) J<|bd J J J (fun hc16=>?_) (fun hc16=>?_)
  .
   exact rz J (by rw[Ay hx hall hc16];rfl)
  .
   exact at_ (k+1) ⟨⟨pb,SY hx hall (by rw[decide_eq_false hc16];rfl)⟩,pb⟩
 .
  obtain rfl:k=l.length:=by omega
  rw[cS] at hall;exact rz J (by rw[Wc hall];rfl)
def dH(l:List ab):Nat->Nat
 |0=>0
 |k+1=>dH l k+if pC l (l.getD k ⟨0,0⟩)=(k:Nat) then 1 else 0
def gk(l:List ab)(k:Nat):Nat:=if 3<=dH l k then 3 else dH l k
def KX(h:gk l k<3)(e:dH l (k+1)=dH l k+1):((gk l k:Nat):Int)+1=((gk l (k+1):Nat):Int):=by
 have a:gk l k=if 3<=dH l k then 3 else dH l k:=J
 have b:gk l (k+1)=if 3<=dH l (k+1) then 3 else dH l (k+1):=J
 split at a<;>split at b<;>omega
def Cl(h: ¬gk l k<3\/dH l (k+1)=dH l k)(m:dH l k<=dH l (k+1)):((gk l k:Nat):Int)=((gk l (k+1):Nat):Int):=by
 have a:gk l k=if 3<=dH l k then 3 else dH l k:=J
 have b:gk l (k+1)=if 3<=dH l (k+1) then 3 else dH l (k+1):=J
 split at a<;>split at b<;>omega
def L7(l:List ab)(k:Nat):gk l k<=3:=by unfold gk;split<;>omega
def avS(h:3<=dH l k):gk l k=3:=by unfold gk;rw[if_pos h]
def cnt_le(l:List ab): ∀k,dH l k<=k
 |0=>bZ _
 |k+1=>by
  have:=cnt_le l k;rw[dH];split<;>omega
def xR(hx:l[k]? =some p)(h:pC l p=(k:Nat):=by omega):dH l (k+1)=dH l k+1:=by
 rw[dH,aJ,hx,jZ,if_pos h]
def Kz(hx:l[k]? =some p)(h: ¬pC l p=(k:Nat):=by omega):dH l (k+1)=dH l k:=by
 rw[dH,aJ,hx,jZ,if_neg h];rfl
def Dn:dH l k<=dH l (k+1):=by rw[dH];split<;>omega
def Pb(h:v[k]? =some p):((v.take k).map eZ)++[eZ p]=(v.take (k+1)).map eZ:=by
 rw[eM,h,bQ];rfl

theorem omA{p:Prop}(h:p:=by rw[hm1]<;>rfl):p:=h
theorem okC{p:Prop}(h:p:=by rw[he7]<;>rfl):p:=h
def N0(hb: ∀p∈v,aE p i)(hi:i<=100000)(hn:v.length<=4000)(h3:3<=dH v v.length)(hne: ∀(k:Nat) (p q:ab),v[k]? =some p->v[(k+1)%v.length]? =some q-> ¬(p.x=q.x/\p.y=q.y)):PF GB prog 100 [.sl (v.map fe)] (.tp [.sl (v.map eZ), .v .nilIface]):=by
 have hm1:(v.map fe).length=v.length:=aX ..;have hm2:(v.map eZ).length=v.length:=aX ..;have hrl:(kv v).length=v.length:=by unfold kv;rw[aX,lS]
 refine A1 (fu:=⟨11⟩) func100 J J ntmps100 J J (fun C h0=>?_);refine ah 13 (.d (vI (v.length:Nat))) J omA<|gx (fu:=⟨0⟩) J<|bG (fu:=⟨15⟩) J (omd pb) J<|ah 20 (.d (vI (v.length:Nat))) J omA<|gx J<|nr 4 4 103 6 J J J<|lp (X:=Nat) (fun k=>[(21, .d (vI (k:Nat))),(4, .rw 4)]) (fun k=>[(4,some (.b 103 6 ((v.take k).map eZ) true))]) (fun k=>k<=v.length) (fun k=>v.length-k) 0 J (aL _) (fun _=>J) (fun k hk=>?_);have hm3:((v.take k).map eZ).length<=k:=by rw[aX,bR];omega
 refine br (fu2:=⟨0⟩) J J J (fun hc22=>?_) (fun hc22=>?_)
 .
  obtain⟨p,hx⟩: ∃u,v[k]? =some u:=⟨_,aQ pb⟩;haveI:=hb p (aV hx);refine ix _ J (bF hx) J<|cl (fu:=⟨0⟩) J (M4 (p:=p) (i:=i) pb) J<|ii 27 J<|gx J<|cl J (EA (p:=p) (i:=i) pb) J<|rf J J<|ap ((v.take (k+1)).map eZ) J (Pb hx) (MF [p]) J<|dq 41 4 J<|at_ (k+1) ⟨pb,pb⟩
 .
  obtain rfl:k=v.length:=by omega
  rw[cS];refine lm 4 J<|gx (fu:=⟨15⟩) J<|ah 44 (.d (vI (v.length:Nat))) J omH<|gx J<|lp (X:=Nat) (fun k=>[(45, .d (vI (k:Nat))),(7, .d (vI ((gk v k):Nat)))]) (fun k=>[]) (fun k=>k<=v.length) (fun k=>v.length-k) 0 J (aL _) (fun _=>J) (fun k hk=>?_);have hdm:=L7 v k;refine br (fu2:=⟨9⟩) J J J (fun hc46=>?_) (fun hc46=>?_)
  .
   obtain⟨p,hx⟩: ∃u,v[k]? =some u:=⟨_,aQ pb⟩;haveI:=hb p (aV hx);have hcm:=Dn (l:=v) (k:=k);refine ix _ J (bF hx) J<|cs 52 J J J (fun hg52=>?_) (fun hg52=>?_)
   .
    refine cl J (Lk (l:=v) (p:=p) (i:=i) hb pb pb) J<|br J J J (fun hc58=>?_) (fun hc58=>?_)
    .
     have he7:=KX pb (xR hx);refine ah 7 (.d (vI (gk v (k+1):Nat))) J okC<|at_ (k+1) ⟨pb,pb⟩
    .
     have he7:=Cl (.inr (Kz hx)) hcm;refine ah 7 (.d (vI (gk v (k+1):Nat))) J okC<|at_ (k+1) ⟨pb,pb⟩
   .
    have he7:=Cl (l:=v) (k:=k) (.inl pb) hcm;refine ah 7 (.d (vI (gk v (k+1):Nat))) J okC<|at_ (k+1) ⟨pb,pb⟩
  .
   obtain rfl:k=v.length:=by omega
   have hd3:=avS h3;refine bG (fu:=⟨9⟩) J (omd pb) J<|Ag J J J CI (fun _=>J) (fun GB1 pv hg1 hpv=>?_);refine sI 2 2000002 h0.fx J<|sI 3 2000003 h0.fx J ?_;refine BY (σ:=Empty) (fun _=>[(2000002,some (.o 106 [.nl] true)),(2000003,some (.o 41 [.d (.v .nilIface)] true))]) (fun _=>True) (fun _=>[]) (fun _=>False) [(2, .ov 2000002 0),(3, .ov 2000003 0),(4, .d (.sl (v.map eZ)))] h0 J (Ac) (.cons hpv .nil) ⟨J,J,J,trivial⟩ J ⟨J,J,trivial⟩ trivial Di J J (fun k e GB' hE hg hp=>?_) (fun D hD hx hp=>?_) (fun D s hD hx hq=>hq.elim)
   .obtain⟨p,q,hpx,hqx,rfl⟩:=At hE
    haveI:=hb p (aV hpx);haveI:=hb q (aV hqx);have hne2:=hne k p q hpx hqx;refine⟨?_,?_,fun C2=>?_,fun C2=>?_⟩
    rotate_left 2
    .refine gx J<|B9 J J J ⟨J,J,J⟩ J ?_
     exact atR
    .refine gx J<|l8 0 (e:=103) (len:=2) (s:=6) J we we v6 J<|l8 1 (e:=103) (len:=2) (s:=6) J we we v6 J<|cl J (Ph (p:=p) (q:=q) (i:=i) pb) J<|bd J J J (fun hc=>absurd hc hne2) (fun hc=>?_)
     exact rq trivial ⟨J,J,trivial⟩
   .refine gx J<|?_
    exact vz hD hx J J
theorem omL{p:Prop}(h:p:=by unfold bc;rw[k1,k2];grind):p:=h
def Gu{c:ab}(h:bc a b c≠0):3<=dH [a,b,c] [a,b,c].length/\ ∀(k:Nat) (p q:ab),[a,b,c][k]? =some p->[a,b,c][(k+1)% [a,b,c].length]? =some q-> ¬(p.x=q.x/\p.y=q.y):=by
 have e1: ¬(a.x=b.x/\a.y=b.y):=fun⟨k1,k2⟩=>h omL;have e2: ¬(b.x=c.x/\b.y=c.y):=fun⟨k1,k2⟩=>h omL;have e3: ¬(c.x=a.x/\c.y=a.y):=fun⟨k1,k2⟩=>h omL;refine⟨?_,fun k p q hp hq=>?_⟩
 .have f1: ¬(b.x=a.x/\b.y=a.y):=fun k=>e1 ⟨k.1.symm,k.2.symm⟩
  have f2: ¬(c.x=b.x/\c.y=b.y):=fun k=>e2 ⟨k.1.symm,k.2.symm⟩;have f3: ¬(a.x=c.x/\a.y=c.y):=fun k=>e3 ⟨k.1.symm,k.2.symm⟩;simp[dH,pC,List.findIdx?_cons,e1,e2,f3,aJ]
 .match k with
  |0=>obtain rfl:a=p:=Option.some.inj hp;obtain rfl:b=q:=Option.some.inj hq;exact e1
  |1=>obtain rfl:b=p:=Option.some.inj hp;obtain rfl:c=q:=Option.some.inj hq;exact e2
  |2=>obtain rfl:c=p:=Option.some.inj hp;obtain rfl:a=q:=(by simpa using hq);exact e3
  |k+3=>simp at hp
def Gd{c:ab}[ha:aE a i][hb:aE b j][hc:aE c k](hi:i<=80000:=by decide)(hj:j<=80000:=by decide)(hk:k<=80000:=by decide):PF GB prog 104 [eZ a,eZ b,eZ c] (vI (bc a b c).num.sign):=by
 haveI h1:=JA b a;haveI h2:=JA c a;have e:(⟨b.x-a.x,b.y-a.y⟩:ab).cross ⟨c.x-a.x,c.y-a.y⟩=bc a b c:=by unfold ab.cross bc;grind
 refine fn func104 J J ntmps104 J J (fun C=>?_);refine cl J (Ka (p:=b) (q:=a) (i:=j) (j:=i) pb pb) J<|cl J (Ka (p:=c) (q:=a) (i:=k) (j:=i) pb pb) J<|cl J (yy (p:=⟨b.x-a.x,b.y-a.y⟩) (q:=⟨c.x-a.x,c.y-a.y⟩) (i:=j+i+1) (j:=k+i+1) (hp:=h1) (hq:=h2) pb pb) J<|cl J (mz (q:=(⟨b.x-a.x,b.y-a.y⟩:ab).cross ⟨c.x-a.x,c.y-a.y⟩) (h:= @BQ.cross _ _ _ _ h1 h2) pb) J<|rz J (by rw[e]<;>rfl)
def Vz(l:aa)(a b:Rat)(p:ab):bc (l.at a) (l.at b) p=(b-a)*(l.value p-l.value (l.at a)):=by
 have e:l.at b=ce (l.at a) l.dir (b-a):=by rw[<-xF];congr 1;grind
 rw[e];unfold bc ce aa.value aa.nor aa.dir ab.dot;dsimp only;grind
def N2(a b p:ab):bc b a p= -bc a b p:=by unfold bc;grind
def GV(a b p:ab):bc a b p=bc b p a:=by unfold bc;grind
def ZG(l:aa)(a b d p:ab):bc a b d*l.value p=bc b d p*l.value a+bc d a p*l.value b+bc a b p*l.value d:=by
 unfold bc aa.value aa.nor ab.dot;grind
def dd(c:az)(i:Nat):ab:=(fA (c.map (·.l))).getD i ⟨0,0⟩
section
variable (hc:bO c)(ha:jO c)(hb:ek c=true)
include hc ha hb
def Aw(h:c[i]? =some s):dd c i=s.l.at s.v.hi:=by
 unfold dd;rw[Kd hc ha hb,aJ,cY,h];rfl
def KJ(hw:c[(i+1)%c.length]? =some w)(hi:i<c.length)(p:ab):bc (dd c i) (dd c ((i+1)%c.length)) p=(w.v.hi-w.v.lo)*w.l.value p:=by
 obtain⟨s,hs⟩: ∃s,c[i]? =some s:=⟨_,aQ hi⟩;obtain⟨_,_,h3⟩:=wQ hc ha hb hs hw;rw[Aw hc ha hb hs,Aw hc ha hb hw,<-h3,Vz,kC (hc.ok w (aV hw)).ne];grind
def W4:3<=c.length:=by
 have h0:=TN hc ha hb;obtain⟨s,hs⟩: ∃s,c[0]? =some s:=⟨_,aQ h0⟩;obtain⟨w,hw⟩: ∃w,c[(0+1)%c.length]? =some w:=⟨_,aQ (cR _ h0)⟩;have k1:=(wQ hc ha hb hs hw).1;by_cases e1:c.length=1
 .rw[show(0+1)%c.length=0 by rw[e1]] at hw
  rw[hs] at hw;cases hw;unfold ab.cross at k1;grind
 .by_cases e2:c.length=2
  .obtain⟨u,hu⟩: ∃u,c[(1+1)%c.length]? =some u:=⟨_,aQ (cR _ h0)⟩
   rw[show(0+1)%c.length=1 by rw[e2]] at hw;have k2:=(wQ hc ha hb hw hu).1;rw[show(1+1)%c.length=0 by rw[e2]] at hu;rw[hs] at hu;cases hu;unfold ab.cross at k1 k2;grind
  .omega
def FC(hk:k+2<c.length):0<bc (dd c 0) (dd c (k+1)) (dd c (k+2)):=by
 obtain⟨w,hw⟩: ∃w,c[(k+1+1)%c.length]? =some w:=⟨_,aQ (cR _ pb)⟩;have e:=KJ hc ha hb hw pb (dd c 0);rw[show(k+1+1)%c.length=k+2 from gQ hk] at e hw;obtain⟨s,hs⟩: ∃s,c[0]? =some s:=⟨_,aQ pb⟩;obtain⟨s',hs'⟩: ∃s,c[(0+1)%c.length]? =some s:=⟨_,aQ (cR _ pb)⟩;have hlt:=Mc hc hb (aV hw);have hv:0<w.l.value (dd c 0):=by
  rw[Aw hc ha hb hs];have h1:0<=w.l.value (s.l.at s.v.hi):=((hc.edge s (aV hs)).2 _).1 (wB (hc.edge s (aV hs)).1 ((sE hb).2 s (aV hs)).2) w (aV hw);by_cases h0:w.l.value (s.l.at s.v.hi)=0
  .have:=ZI hc ha hb hs hs' hw h0
   rw[gQ (show 0+1<c.length by omega)] at this;omega
  .grind
 rw[GV,e];exact eE v7 hv
def GX(hi:i<c.length)(hs:s∈c):0<=s.l.value (dd c i):=by
 obtain⟨w,hw⟩: ∃w,c[i]? =some w:=⟨_,aQ hi⟩;have hm:=aV hw;rw[Aw hc ha hb hw];exact((hc.edge w hm).2 _).1 (wB (hc.edge w hm).1 ((sE hb).2 w hm).2) s hs
def U'(p:ab):lH c p↔ ∃k,k+2<c.length/\0<=bc (dd c 0) (dd c (k+1)) p/\0<=bc (dd c (k+1)) (dd c (k+2)) p/\0<=bc (dd c (k+2)) (dd c 0) p:=by
 have hn:=W4 hc ha hb;constructor
 .intro hp
  have side: ∀i,i<c.length->0<=bc (dd c i) (dd c ((i+1)%c.length)) p:=fun i hi=>by
   obtain⟨w,hw⟩: ∃w,c[(i+1)%c.length]? =some w:=⟨_,aQ (cR _ pb)⟩;rw[KJ hc ha hb hw hi];have hlt:=Mc hc hb (aV hw);exact cB v7 (hp w (aV hw))
  have last:bc (dd c 0) (dd c (c.length-1)) p<=0:=by
   have:=side (c.length-1) pb;rw[show(c.length-1+1)%c.length=0 by rw[Nat.sub_add_cancel pb,Nat.mod_self],N2] at this;grind
  have first:0<=bc (dd c 0) (dd c 1) p:=by
   have:=side 0 pb;rwa [show(0+1)%c.length=1 from gQ pb] at this
  -- the first place where the sign has changed
  have ivt: ∀m,m+1<=c.length-1->bc (dd c 0) (dd c (m+1)) p<=0->(∃k,k+1<m+1/\0<=bc (dd c 0) (dd c (k+1)) p/\bc (dd c 0) (dd c (k+2)) p<=0)\/m=0:=by
   intro m
   induction m with
   |zero=>intro _ _;exact .inr rfl
   |succ m ih=>
    intro hm h;left;by_cases q:0<=bc (dd c 0) (dd c (m+1)) p
    .exact⟨m,pb,q,h⟩
    .rcases ih pb v7 with⟨k,h1,h2⟩|rfl
     .exact⟨k,pb,h2⟩
     .exact absurd first q
  obtain⟨k,k1,k2,k3⟩: ∃k,k+2<c.length/\0<=bc (dd c 0) (dd c (k+1)) p/\bc (dd c 0) (dd c (k+2)) p<=0:=by
   rcases ivt (c.length-2) pb (by rw[show c.length-2+1=c.length-1 by omega];exact last) with⟨k,h1,h2⟩|h
   .exact⟨k,pb,h2⟩
   .omega
  refine⟨k,k1,k2,?_,by rw[N2];grind⟩;have:=side (k+1) pb;rwa [show(k+1+1)%c.length=k+2 from gQ k1] at this
 .rintro ⟨k,hk,h1,h2,h3⟩ s hs
  have hp:=FC hc ha hb hk;have e:=ZG s.l (dd c 0) (dd c (k+1)) (dd c (k+2)) p;have a0:=GX hc ha hb (i:=0) pb hs;have a1:=GX hc ha hb (i:=k+1) pb hs;have a2:=GX hc ha hb (i:=k+2) hk hs;have m0:=cB h2 a0;have m1:=cB h3 a1;have m2:=cB h1 a2;exact(jm hp).1 v7
end
def AW(a b d:ab):Rat:=a.cross b+b.cross d+d.cross a
def fy(v:List ab):Rat:=d5 (fun x=>x.1.cross x.2) (fP v)
def ZJ(h1:v[k]? =some p)(h2:v[(k+1)%v.length]? =some q):d5 (fun x=>x.1.cross x.2) ((fP v).take (k+1))=d5 (fun x=>x.1.cross x.2) ((fP v).take k)+p.cross q:=GR _ (XY v h1 h2)
def QS{b:Nat}(hv: ∀p∈v,aE p b)(hn:v.length<=100000)(hs: ∀k,BQ (d5 (fun x=>x.1.cross x.2) ((fP v).take k)) m)(hb4:b<=10000000)(hm0:m<=100000000):PF GB prog 46 [.sl (v.map eZ)] (eF (fy v*mkRat 1 2)):=by
 have hml:(v.map eZ).length=v.length:=aX ..;obtain⟨S,hS⟩: ∃S:Nat->Rat,S=fun k=>d5 (fun x=>x.1.cross x.2) ((fP v).take k):=⟨_,rfl⟩;have hSk: ∀k,BQ (S k) m:=by rw[hS];exact hs
 have h00:S 0=0:=by rw[hS];rfl
 refine fn (fu:=⟨15⟩) func46 J J ntmps46 J J (fun C=>?_);refine ah 7 (.d (vI (v.length:Nat))) J omj<|gx J<|Kx 3 [vI (cF (S 0)),vI (cD (S 0)),cI (S 0)] rfl (fun G m=>by rw[h00];exact zF) J<|lp (X:=Nat) (fun k=>[(8, .d (vI (k:Nat))),(3, .ov 3 0)]) (fun k=>[(3,some (.o 101 [.d (vI (cF (S k))), .d (vI (cD (S k))), .d (cI (S k))] true))]) (fun k=>k<=v.length) (fun k=>v.length-k) 0 J (aL _) (fun _=>J) (fun k hk=>?_);haveI:=hSk k;refine br J J J (fun hc9=>?_) (fun hc9=>?_)
 .
  obtain⟨p,hx⟩: ∃u,v[k]? =some u:=⟨_,aQ pb⟩;obtain⟨q,hw⟩: ∃w,v[(k+1)%v.length]? =some w:=⟨_,aQ (cR _ pb)⟩;haveI:=hv p (aV hx);haveI:=hv q (aV hw);have eS:S (k+1)=S k+p.cross q:=by rw[hS];exact ZJ hx hw
  haveI:BQ (p.cross q) (2*b+2*b+1):=BQ.mono (inferInstance:BQ (p.cross q) _) pb;refine ix (fu:=⟨14⟩) _ J (bF hx) J<|ah 19 (.d (vI (v.length:Nat))) J omj<|gx (fu:=⟨1⟩) J<|ah 20 (.d (vI (((k+1)%v.length:Nat):Int))) J J<|gx J<|ix _ J (bF hw) J<|cl J (yy (p:=p) (q:=q) (i:=b) (j:=b) pb pb) J<|cl (fu:=⟨0⟩) J (n8 (p:=S k) (q:=p.cross q) (i:=m) (j:=2*b+2*b+1) pb pb) J<|ah 24 (.d (eF (S (k+1)))) J (by rw[eS])<|gx (hv:=by simp only[aj];exact⟨we,pb⟩) J<|at_ (k+1) ⟨pb,pb⟩
 .
  obtain rfl:k=v.length:=by omega
  have eN:S v.length=fy v:=by rw[hS];show d5 _ (List.take _ _)=_;rw[bK (by rw[Ow];exact bZ _)];rfl
  refine cl J (E2 (q:=S v.length) (i:=m) pb) J<|rz J (by rw[eN];rfl)
def mC(p:ab):List ab->Bool
 |[a,b,d]=>decide (0<=bc a b p)&&(decide (0<=bc b d p)&&decide (0<=bc d a p))
 |_=>false
def J'(ht:t.all aa.ok)(hc:c∈b7 t):bO c/\jO c:=
 ⟨(xX ht bO.nil (tY.1 hc)).1,Gq ht bO.nil .nil _ (tY.1 hc)⟩
def P'(hc:bO c)(ha:jO c)(hb:ek c=true):(fA (c.map (·.l))).length=c.length:=by
 rw[Kd hc ha hb,aX]
def Xi:oe (fA (c.map (·.l))) k=[dd c 0,dd c (k+1),dd c (k+2)]:=rfl
def I2(hc:bO c)(ha:jO c)(hb:ek c=true):r∈d9 c↔ ∃k,k+2<c.length/\r=[dd c 0,dd c (k+1),dd c (k+2)]:=by
 unfold d9 mp;rw[P' hc ha hb];simp only[aN,lU,Xi];constructor
 .rintro ⟨k,hk,rfl⟩;exact⟨k,pb,rfl⟩
 .rintro ⟨k,hk,rfl⟩;exact⟨k,pb,rfl⟩
def z'(ht:t.all aa.ok)(hbd:(b7 t).all ek=true)(hts:ts=(b7 t).flatMap d9): ∀r∈ts,∃a b d,r=[a,b,d]/\0<bc a b d:=fun r hr=>by
 subst hts;obtain⟨c,hc,hr⟩:=fQ.1 hr;obtain⟨g,a⟩:=J' ht hc;have hb:=dZ.1 hbd c hc;obtain⟨k,hk,rfl⟩:=(I2 g a hb).1 hr;exact⟨_,_,_,J,FC g a hb hk⟩
def SN(a b d:ab):fy [a,b,d]=AW a b d:=by
 unfold fy;rw[show fP [a,b,d]=[(a,b),(b,d),(d,a)] by unfold fP;simp[sJ]];show a.cross b+(b.cross d+(d.cross a+0))=AW a b d;unfold AW;grind
def d8(p:ab)(ts:List (List ab)):Nat->List Int
 |0=>[]
 |k+1=>d8 p ts k++(if mC p (ts.getD k []) then [(k:Int)] else [])
def wF(p:ab)(ts:List (List ab)): ∀k,(d8 p ts k).length<=k
 |0=>bZ _
 |k+1=>by
  have:=wF p ts k;rw[d8,aU];split<;>simp<;>omega
def yh(a b d p:ab)(k:Nat):Rat:=bc ([a,b,d].getD k ⟨0,0⟩) ([a,b,d].getD ((k+1)%3) ⟨0,0⟩) p
def aw9(h: ∀j,j<3->0<=yh a b d p j):mC p [a,b,d]=true:=by
 unfold mC;simp only[bV,decide_eq_true_eq];exact⟨h 0 v6,h 1 v6,h 2 v6⟩
def YQ(hk:k<3)(h:yh a b d p k<0):mC p [a,b,d]=false:=by
 rw[<-jM];unfold mC;simp only[bV,decide_eq_true_eq];rintro ⟨h0,h1,h2⟩
 match k,hk with
 |0,_=>exact rY.2 h h0
 |1,_=>exact rY.2 h h1
 |2,_=>exact rY.2 h h2
def QI(h1:[a,b,d][k]? =some q1)(h2:[a,b,d][(k+1)% [a,b,d].length]? =some q2):bc q1 q2 p=yh a b d p k/\k<3:=by
 have hk:=(aS.1 h1).1;refine⟨?_,hk⟩;unfold yh;have h2':[a,b,d][(k+1)%3]? =some q2:=h2;rw[aJ,aJ,h1,h2'];rfl
def Yf(h:0<o):0<o.num:=by
 have h1:=pZ.2 (show 0<=o by grind);have h2:o.num≠0:=fun e=>by have:=lM.1 e;grind
 omega
def E6:x.num.sign<0↔x<0:=by
 rw[<-rY,<-pZ];constructor
 .intro h k
  rcases(show x.num=0\/0<x.num by omega) with e|e
  .rw[e] at h;exact absurd h v6
  .rw[fX e] at h;omega
 .intro h
  rw[dT pb];decide
def Ss(hb: ∀u∈[a,b,d],aE u i)[hp0:aE p i](hi:i<=80000):PF GB prog 44 [.sl ([a,b,d].map eZ),eZ p] (vB (mC p [a,b,d])):=by
 obtain⟨v,hv⟩: ∃v,v=[a,b,d]:=⟨_,rfl⟩;have hrl:(kv v).length=3:=by rw[hv];unfold kv;rw[aX,lS];rfl
 have hvl:v.length=3:=by rw[hv];rfl
 rw[<-hv] at hb⊢;refine A1 func44 J J ntmps44 J J (fun C h0=>?_);refine Ag J J J CI (fun _=>J) (fun GB1 pv hg1 hpv=>?_);refine sI 3 2000003 h0.fx J<|sI 4 2000004 h0.fx J ?_;refine BY (σ:=Unit) (fun _=>[(2000003,some (.o 103 [.d (vI (cF p.x)), .d (vI (cD p.x)), .d (cI p.x), .d (vI (cF p.y)), .d (vI (cD p.y)), .d (cI p.y)] true)),(2000004,some (.o 4 [.ff] true))]) (fun k=> ∀j,j<k->0<=yh a b d p j) (fun _=>[(2000003,some (.o 103 [.d (vI (cF p.x)), .d (vI (cD p.x)), .d (cI p.x), .d (vI (cF p.y)), .d (vI (cD p.y)), .d (cI p.y)] true)),(2000004,some (.o 4 [.ff] true))]) (fun _=>mC p v=false) [(3, .ov 2000003 0),(4, .ov 2000004 0)] h0 J (Ac) (.cons hpv .nil) ⟨J,J,trivial⟩ J ⟨J,J,trivial⟩ (fun j hj=>absurd hj (pN j)) Di J J (fun k e GB' hE hg hp=>?_) (fun D hD hx hp=>?_) (fun D s hD hx hq=>?_)
 .obtain⟨q1,q2,hpx,hqx,rfl⟩:=At hE
  haveI:=hb q1 (aV hpx);haveI:=hb q2 (aV hqx);rw[hv] at hpx hqx;obtain⟨hts,hk3⟩:=QI (p:=p) hpx hqx;refine⟨?_,?_,fun C2=>?_,fun C2=>?_⟩
  rotate_left 2
  .refine gx J<|B9 J J J ⟨J,J,J⟩ J ?_
   exact atR
  .refine gx J<|l8 0 (e:=103) (len:=2) (s:=6) J we we v6 J<|l8 1 (e:=103) (len:=2) (s:=6) J we we v6 J<|cl J (Gd (a:=q1) (b:=q2) (c:=p) (i:=i) (j:=i) (k:=i) pb pb pb) J<|br J J J (fun hc=>?_) (fun hc=>?_)
   .exact J9 () (by rw[hv];exact YQ hk3 (by rw[<-hts];exact E6.1 hc))
   .exact rq (fun j hj=>by
     rcases Nat.lt_succ_iff_lt_or_eq.1 hj with h|h
     .exact hp j h
     .rw[h,<-hts];exact rU.1 fun k=>hc (E6.2 k))
 .refine gx J<|?_
  rw[hrl] at hp;exact vz hD hx J (by rw[hv,aw9 hp]<;>rfl)
 .refine gx J<|?_
  exact vz hD hx J (by rw[hq]<;>rfl)
def Y7(h:0<x):0<x.num.sign:=by rw[fX (Yf h)];decide
def ZK{w:ab}(h:0<bc a b d)(h1:[a,b,d][k]? =some q1)(h2:[a,b,d][(k+1)% [a,b,d].length]? =some q2)(h3:[a,b,d][j]? =some w)(n1:j≠k)(n2:j≠(k+1)%3):0<bc q1 q2 w:=by
 have hk:=(aS.1 h1).1;have hj:=(aS.1 h3).1;have h2':[a,b,d][(k+1)%3]? =some q2:=h2;have c1:=GV a b d;have c2:=GV b d a;simp only[bY,iQ] at hk hj
 match k,j,hk,hj with
 |0,0,_,_=>exact absurd J n1
 |0,1,_,_=>exact absurd J n2
 |0,2,_,_=>simp at h1 h2' h3;subst h1 h2' h3;exact h
 |1,0,_,_=>simp at h1 h2' h3;subst h1 h2' h3;rw[<-c1];exact h
 |1,1,_,_=>exact absurd J n1
 |1,2,_,_=>exact absurd J n2
 |2,0,_,_=>exact absurd J n2
 |2,1,_,_=>simp at h1 h2' h3;subst h1 h2' h3;rw[<-c2,<-c1];exact h
 |2,2,_,_=>exact absurd J n1
def Yh(hb: ∀u∈[a,b,d],aE u i)(hi:i<=80000)(h0p:0<bc a b d):PF GB prog 101 [.sl ([a,b,d].map eZ)] (.v (.bool true)):=by
 obtain⟨v,hv⟩: ∃v,v=[a,b,d]:=⟨_,rfl⟩;have hrl:(kv v).length=3:=by rw[hv];unfold kv;rw[aX,lS];rfl
 have hvl:v.length=3:=by rw[hv];rfl
 have hml:(v.map eZ).length=3:=by rw[aX,hvl]
 rw[<-hv] at hb⊢;refine A1 func101 J J ntmps101 J J (fun C h0=>?_);refine Ag J J J CI (fun _=>J) (fun GB1 pv hg1 hpv=>?_);refine sI 1 2000001 h0.fx J<|sI 2 2000002 h0.fx J ?_;refine BY (σ:=Empty) (fun _=>[(2000001,some (.o 106 [.d (.sl (v.map eZ))] true)),(2000002,some (.o 4 [.ff] true))]) (fun _=>True) (fun _=>[]) (fun _=>False) [(1, .ov 2000001 0),(2, .ov 2000002 0)] h0 J (Ac) (.cons hpv .nil) ⟨J,J,trivial⟩ J ⟨J,J,trivial⟩ trivial Di J J (fun k e GB' hE hg hp=>?_) (fun D hD hx hp=>?_) (fun D s hD hx hq=>hq.elim)
 .obtain⟨q1,q2,hpx,hqx,rfl⟩:=At hE
  haveI:=hb q1 (aV hpx);haveI:=hb q2 (aV hqx);have hk3:k<3:=by have:=(aS.1 hpx).1;omega
  refine⟨?_,?_,fun C2=>?_,fun C2=>?_⟩
  rotate_left 2
  .refine gx J<|B9 J J J ⟨J,J,J⟩ J ?_
   exact atR
  .skip
   refine gx (fu:=⟨5⟩) J<|ah 12 (.d (vI 3)) J omj<|gx J<|lp (X:=Nat) (fun j=>[(13, .d (vI (j:Nat)))]) (fun j=>[]) (fun j=>j<=3) (fun j=>3-j) 0 J (aL _) (fun _=>J) (fun j hk=>?_);refine br J J J (fun hc14=>?_) (fun hc14=>?_)
   .
    obtain⟨w,hx⟩: ∃u,v[j]? =some u:=⟨_,aQ pb⟩;haveI:=hb w (aV hx);refine ix _ J (bF hx) J<|cs (fu1:=⟨5⟩) 21 J J J (fun hg21=>?_) (fun hg21=>?_)
    .
     refine ah 26 (.d (vI 3)) J omj<|gx (fu:=⟨1⟩) J<|ah 27 (.d (vI (((k+1)%3:Nat):Int))) J J<|gx J<|cs 30 J J J (fun hg30=>?_) (fun hg30=>?_)
     .
      have hpos:=ZK h0p (by rw[<-hv];exact hpx) (by rw[<-hv];exact hqx) (by rw[<-hv];exact hx) (fun e=>hg21 okE) (fun e=>hg30 okE);refine l8 0 (e:=103) (len:=2) (s:=6) J we we v6 J<|l8 1 (e:=103) (len:=2) (s:=6) J we we v6 J<|cl J (Gd (a:=q1) (b:=q2) (c:=w) (i:=i) (j:=i) (k:=i) pb pb pb) J<|br J J J (fun hc38=>?_) (fun hc38=>?_)
      .
       exact absurd hc38 (by have:=Y7 hpos;omega)
      .
       exact at_ (j+1) ⟨pb,pb⟩
     .
      exact at_ (j+1) ⟨pb,pb⟩
    .
     exact at_ (j+1) ⟨pb,pb⟩
   .
    obtain rfl:j=3:=by omega
    exact rq trivial ⟨J,J,trivial⟩
 .refine gx J<|?_
  exact vz hD hx J J
def OX(ht: ∀r∈ts,∃a b d,r=[a,b,d]/\0<bc a b d)(hb: ∀r∈ts,∀p∈r,aE p i)(hi:i<=20000)(hn:ts.length<=100000000):PF GB prog 42 [.sl (ts.map c9)] (.tp [.sl (ts.map jd), .v .nilIface]):=by
 have hm1:(ts.map c9).length=ts.length:=aX ..;have hm2:(ts.map jd).length=ts.length:=aX ..;refine fn (fu:=⟨16⟩) func42 J J ntmps42 J J (fun C=>?_);refine ah 12 (.d (vI (ts.length:Nat))) J omA<|gx J<|nr 4 4 106 1 J J J<|lp (X:=Nat) (fun k=>[(13, .d (vI (k:Nat))),(4, .rw 4)]) (fun k=>[(4,some (.b 106 1 ((ts.take k).map jd) true))]) (fun k=>k<=ts.length) (fun k=>ts.length-k) 0 J (aL _) (fun _=>J) (fun k hk=>?_);have hm3:((ts.take k).map jd).length<=k:=by rw[aX,bR];omega
 refine br (fu2:=⟨0⟩) J J J (fun hc14=>?_) (fun hc14=>?_)
 .
  obtain⟨r,hx⟩: ∃u,ts[k]? =some u:=⟨_,aQ pb⟩;obtain⟨a,b,d,hr,hpos⟩:=ht r (aV hx);have hrb:=hb r (aV hx);subst hr;obtain⟨hg1,hg2⟩:=Gu (fun e=>by rw[e] at hpos;exact absurd hpos v6);refine ix _ J (bF hx) J<|cl (fu:=⟨11⟩) J (N0 (v:=[a,b,d]) (i:=i) hrb pb v8 hg1 hg2) J<|bG J J J<|rf J J<|ap ((ts.take (k+1)).map jd) J okT (Fv [[a,b,d]]) J<|dq 28 4 J<|at_ (k+1) ⟨pb,pb⟩
 .
  obtain rfl:k=ts.length:=by omega
  rw[cS];refine lm 4 J<|gx (fu:=⟨10⟩) J<|ah 31 (.d (vI (ts.length:Nat))) J omH<|gx J<|lp (X:=Nat) (fun k=>[(32, .d (vI (k:Nat)))]) (fun k=>[]) (fun k=>k<=ts.length) (fun k=>ts.length-k) 0 J (aL _) (fun _=>J) (fun k hk=>?_);refine br J J J (fun hc33=>?_) (fun hc33=>?_)
  .
   obtain⟨r,hx⟩: ∃u,ts[k]? =some u:=⟨_,aQ pb⟩;obtain⟨a,b,d,hr,hpos⟩:=ht r (aV hx);have hrb:=hb r (aV hx);subst hr;refine ix (fu:=⟨8⟩) _ J (bF hx) J<|ah 37 (.d (vI 3)) J J<|gx (fu:=⟨0⟩) J<|bG J (omd pb) J<|cl (fu:=⟨0⟩) J (Yh (a:=a) (b:=b) (d:=d) (i:=i) hrb pb hpos) J<|ii 41 J<|gx J<|at_ (k+1) ⟨pb,pb⟩
  .
   obtain rfl:k=ts.length:=by omega
   exact rz J J
def FF(hx:ts[k]? =some r)(h:mC p r=true):d8 p ts (k+1)=d8 p ts k++[(k:Int)]:=by
 rw[d8,aJ,hx,jZ,if_pos h]
def uj(hx:ts[k]? =some r)(h:mC p r=false):d8 p ts k=d8 p ts (k+1):=by
 rw[d8,aJ,hx,jZ,h];simp
def Ji(ht: ∀r∈ts,∃a b d,r=[a,b,d]/\0<bc a b d)(hb: ∀r∈ts,∀p∈r,aE p i)(hi:i<=20000)(hn:ts.length<=100000000)[hp:aE p i]:PF GB prog 14 [.sl (ts.map c9),fe p] (.tp [.sl ((d8 p ts ts.length).map vI), .v .nilIface]):=by
 have hm1:(ts.map c9).length=ts.length:=aX ..;have hm2:(ts.map jd).length=ts.length:=aX ..;refine fn func14 J J ntmps14 J J (fun C=>?_);refine cl (fu:=⟨11⟩) J (OX ht hb hi hn) J<|bG J J J<|cl (fu:=⟨14⟩) J (EA (p:=p) (i:=i) pb) J<|ah 23 (.d (vI (ts.length:Nat))) J omH<|gx J<|nr 9 9 3 1 J J J<|lp (X:=Nat) (fun k=>[(24, .d (vI (k:Nat))),(9, .rw 9)]) (fun k=>[(9,some (.b 3 1 ((d8 p ts k).map vI) true))]) (fun k=>k<=ts.length) (fun k=>ts.length-k) 0 J (aL _) (fun _=>J) (fun k hk=>?_);have hfl:=wF p ts k;have hm3:((d8 p ts k).map vI).length<=k:=by rw[aX];exact hfl
 refine br J J J (fun hc25=>?_) (fun hc25=>?_)
 .
  obtain⟨r,hx⟩: ∃u,ts[k]? =some u:=⟨_,aQ pb⟩;obtain⟨a,b,d,hr,hpos⟩:=ht r (aV hx);have hrb:=hb r (aV hx);subst hr;refine ix _ J (bF hx) J<|cl J (Ss (a:=a) (b:=b) (d:=d) (p:=p) (i:=i) hrb pb) J<|bb J J J (fun hc31=>?_) (fun hc31=>?_)
  .
   refine rf J J<|ap ((d8 p ts (k+1)).map vI) J (by rw[FF hx hc31,bQ]<;>rfl) (Ec [(k:Int)]) J<|dq 35 9 J<|at_ (k+1) ⟨pb,pb⟩
  .
   rw[uj hx hc31];exact at_ (k+1) ⟨pb,pb⟩
 .
  obtain rfl:k=ts.length:=by omega
  refine fD 9 J<|rz J J
theorem A7(hb: ∀u∈[a,b,d],aE u i)(k:Nat):BQ (d5 (fun x:ab×ab=>x.1.cross x.2) ((fP [a,b,d]).take k)) (16*i+20):=by
 haveI:=hb a v8;haveI:=hb b v8;haveI:=hb d v8;rw[show fP [a,b,d]=[(a,b),(b,d),(d,a)] by unfold fP;simp[sJ]];haveI z:BQ (0:Rat) 1:=⟨v6,v6⟩
 match k with
 |0=>exact z.mono pb
 |1=>
  show BQ (a.cross b+0) _;exact BQ.mono (inferInstance:BQ (a.cross b+0) _) pb
 |2=>
  show BQ (a.cross b+(b.cross d+0)) _;exact BQ.mono (inferInstance:BQ (a.cross b+(b.cross d+0)) _) pb
 |k+3=>
  rw[bK v8];show BQ (a.cross b+(b.cross d+(d.cross a+0))) _;exact BQ.mono (inferInstance:BQ (a.cross b+(b.cross d+(d.cross a+0))) _) pb
theorem F8(hb: ∀u∈[a,b,d],aE u i):BQ (fy [a,b,d]) (16*i+20):=by
 have:=A7 hb 3;rwa [bK (by unfold fP;simp)] at this
def m5(ts:List (List ab))(k:Nat):Rat:=d5 (fun r=>fy r*mkRat 1 2) (ts.take k)
def FN(hx:ts[k]? =some r):m5 ts (k+1)=m5 ts k+fy r*mkRat 1 2:=GR _ hx
def Kl(ht: ∀r∈ts,∃a b d,r=[a,b,d]/\0<bc a b d)(hb: ∀r∈ts,∀p∈r,aE p i)(hi:i<=20000)(hn:ts.length<=100000000)(hs: ∀k,BQ (m5 ts k) m)(hm:m<=100000000:=by decide):PF GB prog 15 [.sl (ts.map c9)] (.tp [eR (m5 ts ts.length), .v .nilIface]):=by
 have hm1:(ts.map c9).length=ts.length:=aX ..;have hm2:(ts.map jd).length=ts.length:=aX ..;obtain⟨S,hS⟩: ∃S:Nat->Rat,S=m5 ts:=⟨_,rfl⟩;have hSk: ∀k,BQ (S k) m:=by rw[hS];exact hs
 have h00:S 0=0:=by rw[hS];rfl
 rw[<-hS];refine fn func15 J J ntmps15 J J (fun C=>?_);refine cl (fu:=⟨11⟩) J (OX ht hb hi hn) J<|bG (fu:=⟨15⟩) J J J<|ah 19 (.d (vI (ts.length:Nat))) J omH<|gx J<|Kx 6 [vI (cF (S 0)),vI (cD (S 0)),cI (S 0)] rfl (fun G m=>by rw[h00];exact zF) J<|lp (X:=Nat) (fun k=>[(20, .d (vI (k:Nat))),(6, .ov 6 0)]) (fun k=>[(6,some (.o 101 [.d (vI (cF (S k))), .d (vI (cD (S k))), .d (cI (S k))] true))]) (fun k=>k<=ts.length) (fun k=>ts.length-k) 0 J (aL _) (fun _=>J) (fun k hk=>?_);haveI:=hSk k;refine br J J J (fun hc21=>?_) (fun hc21=>?_)
 .
  obtain⟨r,hx⟩: ∃u,ts[k]? =some u:=⟨_,aQ pb⟩;obtain⟨a,b,d,hr,hpos⟩:=ht r (aV hx);have hrb:=hb r (aV hx);subst hr;have eS:S (k+1)=S k+fy [a,b,d]*mkRat 1 2:=by rw[hS];exact FN hx
  haveI hab:=F8 hrb;haveI:BQ (fy [a,b,d]*mkRat 1 2) (16*i+22):=BQ.mono (inferInstance:BQ (fy [a,b,d]*mkRat 1 2) _) pb;refine ix _ J (bF hx) J<|cl J (QS (v:=[a,b,d]) (b:=i) (m:=16*i+20) hrb v8 (A7 hrb) pb pb) J<|cl (fu:=⟨0⟩) J (n8 (p:=S k) (q:=fy [a,b,d]*mkRat 1 2) (i:=m) (j:=16*i+22) pb pb) J<|ah 27 (.d (eF (S (k+1)))) J (by rw[eS])<|gx (hv:=by simp only[aj];exact⟨we,pb⟩) J<|at_ (k+1) ⟨pb,pb⟩
 .
  obtain rfl:k=ts.length:=by omega
  haveI:=hSk ts.length;refine cl J (HI (q:=S ts.length) (i:=m) pb) J<|rz J J
def VS(h:gj k0 t)(hk:k0<=48):((b7 t).flatMap d9).length<=2^18:=by
 have h1:=Db (f:=d9) (k:=48) (l:=b7 t) fun c hc=>cJ (Nj c) (cJ (uR h.lb h.ok c hc) (cJ h.dp hk));have h2:=tq t;have h3:=h.s;have:(b7 t).length*48<=3001*48:=bX 48 pb;omega
theorem UY{k0:Nat}{t:Tr}(h:gj k0 t)(hk:k0<=48):WA (b7 t) 1200/\(∀k,BQ (d5 (fun x=>x.1.cross x.2) ((vU (tB (b7 t))).take k)) 2000000)/\ ∀k,BQ (m5 ((b7 t).flatMap d9) k) 2000010:=by
 obtain⟨D,hD0,hD1,hv⟩:=RU h;have hDa:D<=2^887040:=by
  generalize hE:887040=kE;exact cJ hD1 (bU v6 (by
   have:k0*k0<=48*48:=iK hk hk;omega))
 obtain⟨B,hB⟩: ∃B,B=2^385:=⟨_,rfl⟩;rw[<-hB] at hv;have sqp: ∀X a b:Nat,X=2^a->a+a=b->X*X=2^b:=fun X a b h k=>by rw[h,<-k,fW]
 have hBB:B*B=2^770:=sqp B 385 770 hB J;have ha: ∀r∈(b7 t).flatMap d9,DQ (D*D) (3*(2*(B*B))) (fy r):=fun r hr=>by
  obtain⟨c,hc,hr⟩:=fQ.1 hr;have hm:=Jq (show r∈mp (fA (c.map (·.l))) from hr);obtain⟨i,_,hri⟩:=aN.1 (show r∈(List.range ((fA (c.map (·.l))).length-2)).map (oe (fA (c.map (·.l)))) from hr);obtain⟨a,b,d,habd⟩: ∃a b d,r=[a,b,d]:=⟨_,_,_,hri.symm⟩;subst habd;have ha:=hm a v8;have hb:=hm b v8;have hd:=hm d v8;rw[SN];unfold AW;exact(((((hv c hc a ha).cross (hv c hc b hb)).add ((hv c hc b hb).cross (hv c hc d hd))).add ((hv c hc d hd).cross (hv c hc a ha)))).mono pb
 have hx: ∀x∈vU (tB (b7 t)),DQ (D*D) (3*(2*(B*B))) (x.1.cross x.2)/\aE x.1 1200/\aE x.2 1200:=fun x hx=>by
  obtain⟨c,hc,h1,h2⟩:=Xe hx;have hb: ∀l∈c.map (·.l),LB l:=fun l hl=>by
   obtain⟨s,hs,rfl⟩:=aN.1 hl;exact vd h.lb h.ok c hc s hs
  exact⟨((hv c hc _ h1).cross (hv c hc _ h2)).mono pb,Hw hb _ h1,Hw hb _ h2⟩
 have hn:2^18*(3*(2*(B*B)))<=2^792:=by rw[hBB];decide+kernel
 refine⟨⟨vd h.lb h.ok,fun c hc=>?_,?_,fun x h=>(hx x h).2⟩,fun k=>OJ (H4 (fun x h=>(hx x h).1) (X1 h hk) k) (jJ hD0 hD0) (Ko hDa hDa) hn,fun k=>?_⟩
 .have:=uR h.lb h.ok c hc;have:=h.dp;omega
 .have:=tq t;have:=h.s;omega
 .have hq:BQ (d5 fy (((b7 t).flatMap d9).take k)) 2000000:=OJ (H4 ha (VS h hk) k) (jJ hD0 hD0) (Ko hDa hDa) hn
  have e:m5 ((b7 t).flatMap d9) k=d5 fy (((b7 t).flatMap d9).take k)*mkRat 1 2:=by
   unfold m5;rw[Rat.mul_comm,<-HT];exact O2 fun r _=>Rat.mul_comm _ _
  rw[e];haveI:=hq;exact BQ.mono (inferInstance:BQ (d5 fy (((b7 t).flatMap d9).take k)*mkRat 1 2) _)
end Go.Sx
end
section
namespace Go.Sx
open Go Go.Proofs Go.RowKit Go.Extern.Stop Go.Stop Go.Extern
def Vk(v:Value)(xT:TypeId)(w:World):(Instr.typeAssert (.iface 277 v) xT 211 true).run Tryz.prog w= .ok (.tuple #[.nilIface, .bool false]) w:=run_typeAssert_lacksB Tryz.underlying211 we we v xT w
def PW(v:Value)(xT:TypeId)(w:World):(Instr.typeAssert (.iface 277 v) xT 214 true).run Tryz.prog w= .ok (.tuple #[.iface 277 v, .bool true]) w:=run_typeAssert_hasB Tryz.underlying214 we v xT w
def WL(n:Nat)(v:Value)(w:World):(Go.method (n+1) 277 v "Unwrap").run Tryz.prog w= .ok (381,v) w:=by kernel_rfl
def Uz(b po:Nat)(a:Addr)(w:World)(h1:w.cell? ⟨b,po,none⟩=some (.iface 441 (.pointer (some a)))):Calls Tryz.prog 17 #[.iface 277 (.pointer (some ⟨b,po,none⟩)), .iface 441 (.pointer (some a))] w fun e w'=>e= .returned (.bool true)/\w'=w:=by
 obtain⟨i,hi,hcmp⟩:=oK.1 Jw;obtain⟨j,hj,hjs⟩:=oK.1 HW;have h8:= @run_callFunc_extern Tryz.prog 51 _ Extern.ReflectliteType.typeOf Tryz.func51 we we we we;have h32:= @run_callFunc_extern Tryz.prog 371 _ (Extern.ReflectliteType.method Gz) Tryz.func371 we we we we;have tT:=Ip;have cT:=MQ;obtain⟨g,hg⟩: ∃g,g=Tryz.prog.globals.size:=⟨_,rfl⟩;simp only[<-hg] at tT cT;clear hg;have mR:=L3;have nW:=Vk;have uW:=PW;have mU:=WL;have heq:=run_eql_iface_ptr_same (P:=Tryz.prog) w a Tryz.underlying41 Tryz.underlying441 hi hcmp hj;have hty:=run_eql_iface_types (P:=Tryz.prog) 277 441 (.pointer (some ⟨b,po,none⟩)) (.pointer (some a)) Tryz.underlying41 v6 w
 go_enter Tryz.func17,Tryz.ntmps17
 go_wp2
 refine wp_loop_rounds 2 ?_;rw[rounds_succ]
 go_wp2
 rw[rounds_succ]
 go_wp2
 go_ret
 exact⟨J,J⟩
end Go.Sx
end
section
namespace Go.Sx
open Go Go.Proofs Tryz
variable {GB:Gh}{C:aD}{n m k i j:Nat}{Q0 Q:Exit->Act->World->Prop}{fr fr':aA}{own':aF}{cf cf':Cf}{vc:List Prop}{ops:Array Oper}{r:List Oper}{K:List Kt}{dst:Option Nat}{ty t t' ty':TypeId}{pos:String}{af:Array Edge}{lk:LK}{bk:BM}{fo x y:Operand}{args:Array Operand}{tys:Array TypeId}{f:FuncId}{ds l:List DV}{d:DV}{rv:Value->DV}{fb:Func}{e:Exit}{a ai al ae:Addr}{p q1 q2 w:ab}{v:List ab}
def PE(GB:Gh)(P:Program)(f:FuncId)(ds:List DV)(d:DV)(rv:Value->DV):Prop:=
 ∀G vs,bA GB G->IsLs G ds vs->Fn P f vs G (fun v G'=> ∃u,Is G' d u/\Is G' (rv u) v)
section
variable {own:aF}
def WV{P:Program}(ha:n9 lk fo args=some (f,ds))(hF:PE GB P f ds d rv)(hd:bP n dst=true)
  (hk: ∀GB' u,bA GB GB'->Is GB' d u->SX GB' C n (dm lk dst (.d (rv u))) bk (wpListIn (FW C.rd) 0 P ops Q r)):SX GB C n lk bk (wpListIn (FW C.rd) 0 P ops Q (⟨dst, .call ⟨.value fo,args,tys⟩,ty,pos,af,none⟩::r)):=by
 refine⟨fun ρ G ov a w rl0=>?_⟩;obtain⟨h1,h2⟩:=vX ha;obtain⟨y,hy,hy'⟩:=rl0.ev h1;rw[(bh (G:=G)).1 hy'] at hy;obtain⟨vs,h3,h4⟩:=rl0.evDs h2;have hch:=zC (n:=n) (dst:=dst) (tys:=tys) (ty':=ty) (pos:=pos) (af:=af) (gd:=none) (Φ:=fun a w=>a.defers=C.mks/\wpListIn (FW C.rd) 0 P ops Q r a w) hy h3 (hF G vs rl0.gb h4) hd (fun v G' hG hK a' w' rl=>by
  obtain⟨x,hu,hx⟩:=hK;exact⟨rl.df,(hk G' x (rl0.gb.trans hG.le) hu).run ρ G' ov a' w' ⟨bA.refl _,rl.h,rl.sz,rl.df,(iA rl).fx (fun k g _ e=>by obtain⟨u,h5,h6⟩:=rl0.fx k g e;exact⟨u,h5,h6.up hG.le⟩) hx,
   fun nm B e=>by obtain⟨os,h5,h6⟩:=rl0.bx nm B e;exact⟨os,h5.up hG.le,h6⟩,rl0.dj,rl0.fxd⟩⟩)
 have:=fun Q=>hch a w Q ⟨rl0.h,rl0.sz,b9 a,rl0.df⟩;simp only[wpListIn,Region.wanted,if_true];exact CQ this fun a' w' k=>⟨k.1.trans rl0.df.symm,k.2⟩
def cE[fu:Fu]{vc:Value->List Prop}{fr':Value->aA}{own':Value->aF}{cf':Value->Cf}(ha:n9 (aI fr) fo args=some (f,ds))(hF:PE GB prog f ds d rv)
  (hgo: ∀x,cv tt n fu.n fr own (.ops ops (⟨dst, .call ⟨.value fo,args,tys⟩,ty,pos,af,none⟩::r) K) (.d (rv x)) [] []=⟨vc x,fr' x,own' x,cf' x⟩)(k: ∀GB' x,bA GB GB'->Is GB' d x->ao prog GB' C n Q0 (fr' x) (own' x) (cf' x))
  (hd:bP n dst=true:=by rfl)(hv: ∀x,aj (vc x):=by intro;first|exact trivial|(simp only[aj];kernel_rfl)|(simp only[aj];omega)):ao prog GB C n Q0 fr own (.ops ops (⟨dst, .call ⟨.value fo,args,tys⟩,ty,pos,af,none⟩::r) K):=by
 refine WV ha hF hd fun GB' x hg hx=>?_;have h1:=hgo x;unfold cv at h1;simp only[oP,List.all_nil,hd,Bool.and_true,cond_true,oo,vM] at h1;have:=eo (GB:=GB') (C:=C) (Q0:=Q0) h1 (hv x) (k GB' x hg hx);show SX GB' C n _ _ _;rw[<-BE];exact this
def Br[fu:Fu]{c:Code}(hf:prog.funcs[f]? =some fb)(hb:fb.body=some c)(hn:(fb.name== "runtime.NumGoroutine")=false)(hm:fb.ntmps=m)(hlen:Nat.ble ds.length m=true)
  (hgo:go tt m fu.n [] (nH 0 ds) [] (.code c [])=⟨vc,fr,own,cf⟩)(k: ∀C:aD,ao prog GB C m (dx C prog fb (je C (fun v G'=> ∃u,Is G' d u/\Is G' (rv u) v))) fr own cf)
  (hv:autoParam (aj vc) cL._auto_1):PE GB prog f ds d rv:=by
 intro G vs hg hvs;refine Fn.introR hf hb hn hm omS fun C _ _ hrd hfx=>?_;intro a w rl;refine o7 hrd ?_;have h:=eo (GB:=GB) (C:=C) (Q0:=dx C prog fb (je C (fun v G'=> ∃u,Is G' d u/\Is G' (rv u) v))) hgo hv (k C);exact h.run (fun _=>⟨none,0,0⟩) G [] a w ⟨hg,rl.h,rl.sz,rl.df,(fun k f e=>tc hvs rl.fr k f e),(fun nm B e=>by cases e),(fun nm nm' B B' e=>by cases e),fun nm p _ _ e=>by rw[hfx] at e;cases e⟩
def zz(u:Value)(hu:Is GB d u)(hr:og tt fr own fb.results.toList=some ds)(hd:ic ds=rv u)(he:y9 e=true:=by rfl):ao prog GB C n (dx C prog fb (je C (fun v G'=> ∃u,Is G' d u/\Is G' (rv u) v))) fr own (.ex e []):=by
 refine⟨fun ρ G ov a w r=>?_⟩;obtain⟨vs,h1,h2⟩:=yb r hr;have hk: ∃u,Is G d u/\Is G (rv u) (my vs):=⟨u,hu.up r.gb,hd▸xI h2⟩
 cases e with
 |ret=>exact zD (C:=C) (n:=n) (fr:=b8 a) (own:=ov) (G:=G) (K:=fun v G'=> ∃u,Is G' d u/\Is G' (rv u) v) h1 hk a w ⟨r.h,r.sz,b9 a,r.df⟩
 |normal=>exact FG (C:=C) (n:=n) (fr:=b8 a) (own:=ov) (G:=G) (K:=fun v G'=> ∃u,Is G' d u/\Is G' (rv u) v) h1 hk a w ⟨r.h,r.sz,b9 a,r.df⟩
 |_=>cases he
def U9{gd:Option (Nat×Bool)}(ht:FI t)(hx:ba lk x=some (.d (.pt l))):bD prog GB C n lk bk ⟨dst, .makeInterface t x,ty,pos,af,gd⟩ (.ip t l) [] []:=
 bD.yd fun ρ G ov a w r=>by
  obtain⟨y,hy,hy'⟩:=r.ev hx;refine⟨_,⟨y,J,hy'⟩,fun a' w' hf _=>?_⟩;refine cA (f:=Next.value) ?_;rw[bg hf hy];exact ht _ _
def Kf(fr:aA)(cf:Cf):Option (TypeId×List DV):=match cO fr cf with
 |some ⟨_, .makeInterface t x,_,_,_,_⟩=>match ba (bH fr cf) x with
  |some (.d (.pt l))=>some (t,l)
  |_=>none
 |_=>none
def U0[fu:Fu](ha:Kf fr cf=some (t,l))(ht:FI t)(hgo:cv tt n fu.n fr own cf (.ip t l) [] []=⟨vc,fr',own',cf'⟩)(k:ao prog GB C n Q0 fr' own' cf')
  (hv:autoParam (aj vc) cL._auto_1):ao prog GB C n Q0 fr own cf:=by
 unfold Kf at ha;split at ha<;>try (cases ha;done)
 rename_i hh;split at ha<;>cases ha;rename_i hx;exact us hh (U9 ht hx) hgo hv k
def Zq(nm:Nat){lo:Bool}(hl:aO own nm=some (.o ty [.ip t l] lo))(h: ∀(GB':Gh) (u:Value),bA GB GB'->Is GB' (.pt l) u->ao prog GB' C n Q0 fr ((nm,some (.o ty [.d (.v (.iface t u))] lo))::own) (.ex e K)):ao prog GB C n Q0 fr own (.ex e K):=by
 refine⟨fun ρ G ov a w r0=>?_⟩;obtain⟨os,⟨b,m,hb,rfl,hm⟩,h2⟩:=r0.bx nm _ hl;obtain⟨y,m',rfl,⟨u,rfl,hu⟩,hm'⟩:=hm;refine(h G u r0.gb hu).run ρ G ov a w ⟨bA.refl _,r0.h,r0.sz,r0.df,r0.fx,fun k B e=>?_,fun k k' B B' e e' hne=>?_,r0.fxd⟩
 .rw[f7] at e
  split at e
  .rename_i hj
   cases e;subst hj
   exact⟨_,⟨b,_,hb,J,_,m',J,(bh (G:=G)).2 J,hm'⟩,h2⟩
  .exact r0.bx k B e
 .have f: ∀(j:Nat) (B:Bk),aO ((nm,some (.o ty [.d (.v (.iface t u))] lo))::own) j=some B-> ∃B0,aO own j=some B0:=fun j B e=>by
   rw[f7] at e;split at e
   .rename_i hj;exact⟨_,hj▸hl⟩
   .exact⟨_,e⟩
  obtain⟨B1,e1⟩:=f k B e;obtain⟨B2,e2⟩:=f k' B' e';exact r0.dj k k' B1 B2 e1 e2 hne
end
def Tf:FI 277:=fun x w=>by kernel_rfl
def zb(u:Value):DV:= .v (.iface 277 u)
def wA(a:Addr)(s:Value):DV:= .pt [ux a,vI 0,vI 0, .v s]
def KS{s u:Value}(h:Is GB (wA a s) u):PF GB prog 17 [zb u,ux a] (.v (.bool true)):=by
 intro G vs hg hv;obtain⟨v1,m,rfl,h1,hm⟩:=bE.1 hv;obtain⟨v2,m,rfl,h2,hm⟩:=bE.1 hm;rw[eD] at hm;subst hm
 cases bh.1 h1;cases bh.1 h2
 obtain⟨b,cs,rfl,hb,hc⟩:=oh.1 (h.up hg);obtain⟨y,t,rfl,hy,_⟩:=bE.1 hc
 cases bh.1 hy
 refine⟨Oy,fun w hw=>(Uz b 0 a w ?_).mono fun e w' ⟨he,hww⟩=>⟨_,G,he,by
  subst hww;exact⟨J,J,J,bZ _,fun _ _ _=>J,hw,bA.refl _,fun _ _=>J,fun o ho=>(by cases ho), .nil,bZ _,fun p hp=>by cases hp⟩,bh.2 J⟩⟩
 obtain⟨ty,fz,hw2⟩:=hw b _ hb;simp[World.cell?,hw2]

section
variable {r:List ZP}
end
def tW(v:List ab)(k i:Nat):Bool:=decide (i=k)||(decide (i=(k+1)%v.length)||decide (0<bc (v.getD k ⟨0,0⟩) (v.getD ((k+1)%v.length) ⟨0,0⟩) (v.getD i ⟨0,0⟩)))
def oG(v:List ab):Bool:=(List.range v.length).all fun k=>(List.range v.length).all fun i=>tW v k i
def KG:oG v=true↔ ∀k<v.length,∀i<v.length,tW v k i=true:=by
 unfold oG;simp only[dZ,lU]
def MI(hk:k<v.length)(hi:i<v.length)(h:tW v k i=false):oG v=false:=by
 rw[<-jM,KG];exact fun f=>by rw[f k hk i hi] at h;cases h
def Ys(h1:v[k]? =some q1)(h2:v[(k+1)%v.length]? =some q2)(h3:v[i]? =some w):tW v k i=(decide (i=k)||(decide (i=(k+1)%v.length)||decide (0<bc q1 q2 w))):=by
 unfold tW;rw[aJ,aJ,aJ,h1,h2,h3];rfl
section
variable {own:aF}
variable {gd:Option (Nat×Bool)}
end
section
variable {own:aF}
end
section
variable (hE:EG GB ai al ae){a b:Tr}(ha:gj j a)(hb:gj k b)
include hE ha
include hb
end
section
variable (hE:EG GB ai al ae)
include hE
end





section
variable {α:Type}[Inhabited α]
end

end Go.Sx
end
section
namespace Go.Proofs
open Go.Shelf

end Go.Proofs
end
section
namespace Go.Sx
open Go Go.Proofs Tryz
variable {GB G:Gh}{a p q:ab}{t v V:List ab}{x:Rat}{k i j:Nat}{ai al au ar:Addr}{rs:List DV}{ts:List (List ab)}





def YA:pC (a::t) a=((0:Nat):Int):=Ay (k:=0) (q:=a) J J ⟨J,J⟩
def YR{b c:ab}(h1:a≠b)(h2:a≠c)(h3:b≠c):3<=dH (a::b::c::t) (a::b::c::t).length:=by
 have ne: ∀{x y:ab},x≠y->(!decide (x.x=y.x/\x.y=y.y))=true:=fun{x y} h=>by
  rw[decide_eq_false (fun k=>h (by cases x;cases y;simp only[ab.mk.injEq] at*;exact k))];rfl
 have e0:=xR (l:=a::b::c::t) (k:=0) (p:=a) J YA;have e1:=xR (l:=a::b::c::t) (k:=1) (p:=b) J (Ay (k:=1) (q:=b) J (by simp only[List.take,rR,List.all_nil,Bool.and_true,ne h1]) ⟨J,J⟩);have e2:=xR (l:=a::b::c::t) (k:=2) (p:=c) J (Ay (k:=2) (q:=c) J (by simp only[List.take,rR,List.all_nil,Bool.and_true,ne h2,ne h3]) ⟨J,J⟩);have mono: ∀n m,n<=m->dH (a::b::c::t) n<=dH (a::b::c::t) m:=by
  intro n m h
  induction m with
  |zero=>rw[show n=0 by omega];exact bZ _
  |succ m ih=>
   by_cases k:n=m+1
   .rw[k];exact bZ _
   .exact cJ (ih pb) Dn
 have:=mono 3 (a::b::c::t).length v8;have z:dH (a::b::c::t) 0=0:=J;rw[eX] at e0;rw[show 1+1=2 from J] at e1;rw[show 2+1=3 from J] at e2;omega







section
variable {r:List ZP}{L:List aa}
end





section
variable {C:aD}{n:Nat}{Q0:Exit->Act->World->Prop}{fr fr' fr1 fr2:aA}{own own' own1 own2:aF}{cf cf' cf1 cf2:Cf}{vc vc1 vc2:List Prop}
end






def WX:0<x.num↔0<x:=by
 constructor
 .intro h
  refine rY.1 fun k=>?_;have h2:=pZ.2 (show 0<= -x by grind);rw[mM] at h2;omega
 .intro h
  have h1:=pZ.2 (cM h);have h2:x.num≠0:=fun e=>by rw[lM.1 e] at h;exact absurd h v6
  omega
def MP:0<x.num.sign↔0<x:=by
 rw[<-WX];constructor
 .intro h
  refine Decidable.not_not.1 fun k=>?_;rcases(show x.num=0\/x.num<0 by omega) with e|e
  .rw[e] at h;exact absurd h v6
  .rw[dT e] at h;exact absurd h v6
 .intro h
  rw[fX h];decide
def Ah{P:Nat->Prop}(h: ∀i<k,P i)(hk:P k): ∀i<k+1,P i:=fun i hi=>by
 rcases Nat.lt_succ_iff_lt_or_eq.1 hi with h1|h1
 .exact h i h1
 .rw[h1];exact hk
def X3(hb: ∀u∈v,aE u i)(hi:i<=80000)(hn:v.length<=100000):PF GB prog 101 [.sl (v.map eZ)] (vB (oG v)):=by
 have hrl:(kv v).length=v.length:=by unfold kv;rw[aX,lS]
 have hml:(v.map eZ).length=v.length:=aX ..;refine A1 func101 J J ntmps101 J J (fun C h0=>?_);refine Ag J J J CI (fun _=>J) (fun GB1 pv hg1 hpv=>?_);refine sI 1 2000001 h0.fx J<|sI 2 2000002 h0.fx J ?_;refine BY (σ:=Unit) (fun _=>[(2000001,some (.o 106 [.d (.sl (v.map eZ))] true)),(2000002,some (.o 4 [.ff] true))]) (fun k=> ∀k'<k,∀i<v.length,tW v k' i=true) (fun _=>[(2000001,some (.o 106 [.d (.sl (v.map eZ))] true)),(2000002,some (.o 4 [.ff] true))]) (fun _=>oG v=false) [(1, .ov 2000001 0),(2, .ov 2000002 0)] h0 J (Ac) (.cons hpv .nil) ⟨J,J,trivial⟩ J ⟨J,J,trivial⟩ (fun k hk=>absurd hk (pN k)) Di J J (fun k e GB' hE hg hp=>?_) (fun D hD hx hp=>?_) (fun D s hD hx hq=>?_)
 .obtain⟨q1,q2,hpx,hqx,rfl⟩:=At hE
  haveI:=hb q1 (aV hpx);haveI:=hb q2 (aV hqx);have hkn:=(aS.1 hpx).1;refine⟨?_,?_,fun C2=>?_,fun C2=>?_⟩
  rotate_left 2
  .refine gx J<|B9 J J J ⟨J,J,J⟩ J ?_
   exact atR
  .skip
   refine gx (fu:=⟨5⟩) J<|ah 12 (.d (vI (v.length:Nat))) J omj<|gx J<|lp (X:=Nat) (fun j=>[(13, .d (vI (j:Nat)))]) (fun j=>[]) (fun j=>j<=v.length/\ ∀i<j,tW v k i=true) (fun j=>v.length-j) 0 J ⟨aL _,fun i hi=>absurd hi (pN i)⟩ (fun _=>J) (fun j hk=>?_);obtain⟨hk1,hk2⟩:=hk;refine br J J J (fun hc14=>?_) (fun hc14=>?_)
   .
    obtain⟨w,hx⟩: ∃u,v[j]? =some u:=⟨_,aQ pb⟩;haveI:=hb w (aV hx);have hcv:=Ys hpx hqx hx;refine ix _ J (bF hx) J<|cs (fu1:=⟨5⟩) 21 J J J (fun hg21=>?_) (fun hg21=>?_)
    .
     refine ah 26 (.d (vI (v.length:Nat))) J omj<|gx (fu:=⟨1⟩) J<|ah 27 (.d (vI (((k+1)%v.length:Nat):Int))) J J<|gx J<|cs 30 J J J (fun hg30=>?_) (fun hg30=>?_)
     .
      refine l8 0 (e:=103) (len:=2) (s:=6) J we we v6 J<|l8 1 (e:=103) (len:=2) (s:=6) J we we v6 J<|cl J (Gd (a:=q1) (b:=q2) (c:=w) (i:=i) (j:=i) (k:=i) pb pb pb) J<|br J J J (fun hc38=>?_) (fun hc38=>?_)
      .
       exact J9 () (MI hkn (aS.1 hx).1 (by rw[hcv,decide_eq_false pb,decide_eq_false pb,decide_eq_false (fun q=>by have:=MP.2 q;omega)]<;>rfl))
      .
       exact at_ (j+1) ⟨⟨pb,Ah hk2 (by rw[hcv,decide_eq_true (MP.1 pb),Bool.or_true,Bool.or_true])⟩,pb⟩
     .
      exact at_ (j+1) ⟨⟨pb,Ah hk2 (by rw[hcv,decide_eq_true (show j=(k+1)%v.length by omega),Bool.true_or,Bool.or_true])⟩,pb⟩
    .
     exact at_ (j+1) ⟨⟨pb,Ah hk2 (by rw[hcv,decide_eq_true (show j=k by omega),Bool.true_or])⟩,pb⟩
   .
    obtain rfl:j=v.length:=by omega
    exact rq (Ah hp hk2) ⟨J,J,trivial⟩
 .refine gx J<|?_
  rw[hrl] at hp;exact vz hD hx J (by rw[KG.2 hp]<;>rfl)
 .refine gx J<|?_
  exact vz hD hx J (by rw[hq]<;>rfl)
structure kt (GB:Gh) (ai al au ar:Addr):Prop extends BV GB ai al al au where
 ErrRing:GB 0=some [.iface 441 (.pointer (some ar))]
def Ms:DV:= .ag [.v (.bool false), .sl [], .sl []]
def Q1(p q:ab):gk [p,q] [p,q].length<3:=by
 have:=cnt_le [p,q] 2;have e:[p,q].length=2:=J;unfold gk;rw[e];split<;>omega
def Wd(hE:kt GB ai al au ar)(hb: ∀p∈v,aE p i)(hi:i<=100000)(hn:v.length<=4000)(hd3:gk v v.length<3): ∃s,PE GB prog 100 [.sl (v.map fe)] (wA ar s) (fun u=> .tp [.sl [],zb u]):=by
 apply Exists.intro;have hm1:(v.map fe).length=v.length:=aX ..;have hm2:(v.map eZ).length=v.length:=aX ..;refine Br (fu:=⟨11⟩) func100 J J ntmps100 J J (fun C=>?_);refine ah 13 (.d (vI (v.length:Nat))) J omA<|gx (fu:=⟨0⟩) J<|bG (fu:=⟨15⟩) J (omd pb) J<|ah 20 (.d (vI (v.length:Nat))) J omA<|gx J<|nr 4 4 103 6 J J J<|lp (X:=Nat) (fun k=>[(21, .d (vI (k:Nat))),(4, .rw 4)]) (fun k=>[(4,some (.b 103 6 ((v.take k).map eZ) true))]) (fun k=>k<=v.length) (fun k=>v.length-k) 0 J (aL _) (fun _=>J) (fun k hk=>?_);have hm3:((v.take k).map eZ).length<=k:=by rw[aX,bR];omega
 refine br (fu2:=⟨0⟩) J J J (fun hc22=>?_) (fun hc22=>?_)
 .
  obtain⟨p,hx⟩: ∃u,v[k]? =some u:=⟨_,aQ pb⟩;haveI:=hb p (aV hx);refine ix _ J (bF hx) J<|cl (fu:=⟨0⟩) J (M4 (p:=p) (i:=i) pb) J<|ii 27 J<|gx J<|cl J (EA (p:=p) (i:=i) pb) J<|rf J J<|ap ((v.take (k+1)).map eZ) J (Pb hx) (MF [p]) J<|dq 41 4 J<|at_ (k+1) ⟨pb,pb⟩
 .
  obtain rfl:k=v.length:=by omega
  rw[cS];refine lm 4 J<|gx (fu:=⟨15⟩) J<|ah 44 (.d (vI (v.length:Nat))) J omH<|gx J<|lp (X:=Nat) (fun k=>[(45, .d (vI (k:Nat))),(7, .d (vI ((gk v k):Nat)))]) (fun k=>[]) (fun k=>k<=v.length) (fun k=>v.length-k) 0 J (aL _) (fun _=>J) (fun k hk=>?_);have hdm:=L7 v k;refine br (fu2:=⟨9⟩) J J J (fun hc46=>?_) (fun hc46=>?_)
  .
   obtain⟨p,hx⟩: ∃u,v[k]? =some u:=⟨_,aQ pb⟩;haveI:=hb p (aV hx);have hcm:=Dn (l:=v) (k:=k);refine ix _ J (bF hx) J<|cs 52 J J J (fun hg52=>?_) (fun hg52=>?_)
   .
    refine cl J (Lk (l:=v) (p:=p) (i:=i) hb pb pb) J<|br J J J (fun hc58=>?_) (fun hc58=>?_)
    .
     have he7:=KX pb (xR hx);refine ah 7 (.d (vI (gk v (k+1):Nat))) J okC<|at_ (k+1) ⟨pb,pb⟩
    .
     have he7:=Cl (.inr (Kz hx)) hcm;refine ah 7 (.d (vI (gk v (k+1):Nat))) J okC<|at_ (k+1) ⟨pb,pb⟩
   .
    have he7:=Cl (l:=v) (k:=k) (.inl pb) hcm;refine ah 7 (.d (vI (gk v (k+1):Nat))) J okC<|at_ (k+1) ⟨pb,pb⟩
  .
   obtain rfl:k=v.length:=by omega
   refine cj J (omc pb) J<|gl (fu:=⟨1⟩) J hE.ErrRing J<|CX (fu:=⟨0⟩) J J<|U0 J Tf J<|Zq 3 J (fun GB1 u hg1 hu=>?_);exact zz u hu J J
def IU(hE:kt GB ai al au ar)(hp:aE p i)(hq:aE q i)(hi:i<=20000)(hn:rs.length<=100000000): ∃s,PE GB prog 42 [.sl (c9 [p,q]::rs)] (wA ar s) (fun u=> .tp [.sl [],zb u]):=by
 obtain⟨s,hF⟩:=Wd hE (v:=[p,q]) (i:=i) (by intro u hu;simp at hu;rcases hu with rfl|rfl<;>assumption) pb v8 (Q1 p q);refine⟨s,?_⟩;have hm1:(c9 [p,q]::rs).length=rs.length+1:=J;refine Br (fu:=⟨16⟩) func42 J J ntmps42 J J (fun C=>?_);refine ah 12 (.d (vI (rs.length+1:Nat))) J omA<|gx J<|nr 4 4 106 1 J J J<|lp (X:=Nat) (fun k=>[(13, .d (vI (k:Nat))),(4, .rw 4)]) (fun k=>[(4,some (.b 106 1 [] true))]) (fun k=>k=0) (fun k=>0) 0 J J (fun _=>J) (fun k hk=>?_);refine br J J J (fun hc14=>?_) (fun hc14=>?_)
 .
  obtain rfl:k=0:=by omega
  refine ix (fu:=⟨7⟩) _ J (show(c9 [p,q]::rs)[0]? =some (c9 [p,q]) from J) J<|cE J hF (fun _=>J) (fun GB1 u hg1 hu=>?_);exact zz u hu J J
 .
  exact absurd hc14 pb
def WN(hE:kt GB ai al au ar){x:ab}(hp:aE p i)(hq:aE q i)(hi:i<=20000)(hn:rs.length<=100000000): ∃s,PE GB prog 14 [.sl (c9 [p,q]::rs),fe x] (wA ar s) (fun u=> .tp [.sl [],zb u]):=by
 obtain⟨s,hF⟩:=IU hE (rs:=rs) hp hq hi hn;refine⟨s,?_⟩;refine Br (fu:=⟨10⟩) func14 J J ntmps14 J J (fun C=>?_);refine cE J hF (fun _=>J) (fun GB1 u hg1 hu=>?_);exact zz u hu J J
def QT(hE:kt GB ai al au ar)(hp:aE p i)(hq:aE q i)(hi:i<=20000)(hn:rs.length<=100000000): ∃s,PE GB prog 15 [.sl (c9 [p,q]::rs)] (wA ar s) (fun u=> .tp [Ms,zb u]):=by
 obtain⟨s,hF⟩:=IU hE (rs:=rs) hp hq hi hn;refine⟨s,?_⟩;refine Br (fu:=⟨9⟩) func15 J J ntmps15 J J (fun C=>?_);refine cE J hF (fun _=>J) (fun GB1 u hg1 hu=>?_);exact zz u hu J J
structure pu (i:Nat) (r:List ab):Prop where
 b: ∀p∈r,aE p i
 n:r.length<=4000
 c:3<=dH r r.length
 e: ∀(k:Nat) (p q:ab),r[k]? =some p->r[(k+1)%r.length]? =some q-> ¬(p.x=q.x/\p.y=q.y)
def HY(hE:kt GB ai al au ar)(ht: ∀r∈ts,pu i r)(hi:i<=20000)(hn:ts.length<=100000000)(hj:j<ts.length)(hbad: ∀r,ts[j]? =some r->r.length=3->oG r=false):PF GB prog 42 [.sl (ts.map c9)] (.tp [.sl [],ux ar]):=by
 have hm1:(ts.map c9).length=ts.length:=aX ..;have hm2:(ts.map jd).length=ts.length:=aX ..;refine fn (fu:=⟨16⟩) func42 J J ntmps42 J J (fun C=>?_);refine ah 12 (.d (vI (ts.length:Nat))) J omA<|gx J<|nr 4 4 106 1 J J J<|lp (X:=Nat) (fun k=>[(13, .d (vI (k:Nat))),(4, .rw 4)]) (fun k=>[(4,some (.b 106 1 ((ts.take k).map jd) true))]) (fun k=>k<=ts.length) (fun k=>ts.length-k) 0 J (aL _) (fun _=>J) (fun k hk=>?_);have hm3:((ts.take k).map jd).length<=k:=by rw[aX,bR];omega
 refine br (fu2:=⟨0⟩) J J J (fun hc14=>?_) (fun hc14=>?_)
 .
  obtain⟨r,hx⟩: ∃u,ts[k]? =some u:=⟨_,aQ pb⟩;obtain⟨hrb,hrn,hg1,hg2⟩:=ht r (aV hx);refine ix _ J (bF hx) J<|cl (fu:=⟨11⟩) J (N0 (v:=r) (i:=i) hrb pb hrn hg1 hg2) J<|bG J J J<|rf J J<|ap ((ts.take (k+1)).map jd) J okT (Fv [r]) J<|dq 28 4 J<|at_ (k+1) ⟨pb,pb⟩
 .
  obtain rfl:k=ts.length:=by omega
  rw[cS];refine lm 4 J<|gx (fu:=⟨10⟩) J<|ah 31 (.d (vI (ts.length:Nat))) J omH<|gx J<|lp (X:=Nat) (fun k=>[(32, .d (vI (k:Nat)))]) (fun k=>[]) (fun k=>k<=j) (fun k=>ts.length-k) 0 J (aL _) (fun _=>J) (fun k hk=>?_);refine br J J J (fun hc33=>?_) (fun hc33=>?_)
  .
   obtain⟨r,hx⟩: ∃u,ts[k]? =some u:=⟨_,aQ pb⟩;obtain⟨hrb,hrn,hg1,hg2⟩:=ht r (aV hx);have hm4:(r.map eZ).length=r.length:=aX ..;refine ix (fu:=⟨8⟩) _ J (bF hx) J<|ah 37 (.d (vI (r.length:Nat))) J (by rw[hm4]<;>rfl)<|gx J<|cs 39 J J J (fun hg39=>?_) (fun hg39=>?_)
   .
    refine gl J hE.ErrRing J<|rz J J
   .
    refine cl J (X3 (v:=r) (i:=i) hrb pb pb) J<|bb J J J (fun hc43=>?_) (fun hc43=>?_)
    .
     refine gl J hE.ErrRing J<|rz J J
    .
     have hk1:k+1<=j:=Nat.lt_of_le_of_ne hk (fun e=>by rw[hbad r (e▸hx) pb] at hc43;cases hc43);exact at_ (k+1) ⟨hk1,pb⟩
  .
   exact absurd hc33 pb
def OF(hE:kt GB ai al au ar)(ht: ∀r∈ts,pu i r)(hi:i<=20000)(hn:ts.length<=100000000)(hj:j<ts.length)(hbad: ∀r,ts[j]? =some r->r.length=3->oG r=false):PF GB prog 14 [.sl (ts.map c9),fe p] (.tp [.sl [],ux ar]):=by
 refine fn func14 J J ntmps14 J J (fun C=>?_);refine cl (fu:=⟨11⟩) J (HY hE ht hi hn hj hbad) J<|cj J J J<|rz J J
def OY(hE:kt GB ai al au ar)(ht: ∀r∈ts,pu i r)(hi:i<=20000)(hn:ts.length<=100000000)(hj:j<ts.length)(hbad: ∀r,ts[j]? =some r->r.length=3->oG r=false):PF GB prog 15 [.sl (ts.map c9)] (.tp [Ms,ux ar]):=by
 refine fn func15 J J ntmps15 J J (fun C=>?_);refine cl (fu:=⟨11⟩) J (HY hE ht hi hn hj hbad) J<|cj J J J<|rz J J
def Hs{m:List Value}(h:IsLs G [vB false, .sl [], .sl []] m):IsLs G [.v (.bool (decide ((0:Rat).num<0))),dN (0:Rat).num.natAbs,dD (0:Rat).den] m:=by
 have:=Yg;unfold Dr at this;rw[this];exact h
def P8(h1:V[k]? =some p)(h2:V[(k+1)%V.length]? =some q):(fP V)[k]? =some (p,q):=by
 have hk:=(aS.1 h1).1;unfold fP;rw[cY,nU hk];show some (V.getD k ⟨0,0⟩,V.getD ((k+1)%V.length) ⟨0,0⟩)=_;rw[aJ,aJ,h1,h2];rfl
def ZB{m:Nat}(hb: ∀p∈v,aE p i)(hi:i<=80000)(hn:v.length<=1000000)(hs: ∀k,BQ (d5 (fun x=>x.1.cross x.2) ((fP v).take k)) m)(hm:m<=10000000):PF GB prog 60 [.sl (v.map eP)] (eQ (fy v)):=by
 have hm1:(v.map eP).length=v.length:=aX ..;have hpl:(fP v).length=v.length:=by unfold fP;rw[aX,lS]
 obtain⟨S,hS⟩: ∃S:Nat->Rat,S=fun k=>d5 (fun x:ab×ab=>x.1.cross x.2) ((fP v).take k):=⟨_,rfl⟩;have hSk: ∀k,BQ (S k) m:=by rw[hS];exact hs
 have h00:S 0=0:=by rw[hS];rfl
 have hSn:S v.length=fy v:=by rw[hS];show d5 _ ((fP v).take v.length)=_;rw[<-hpl,cS];rfl
 rw[<-hSn];refine fn (fu:=⟨15⟩) func60 J J ntmps60 J J (fun C=>?_);refine ah 7 (.d (vI (v.length:Nat))) J omA<|gx J<|GZ 3 [.v (.bool (decide ((S 0).num<0))),dN (S 0).num.natAbs,dD (S 0).den] J J (fun G m=>by rw[h00];exact Hs) J<|lp (X:=Nat) (fun k=>[(8, .d (vI (k:Nat))),(3, .ov 3 0)]) (fun k=>[(3,some (.o 34 [.d (.v (.bool (decide ((S k).num<0)))), .d (dN (S k).num.natAbs), .d (dD (S k).den)] true))]) (fun k=>k<=v.length) (fun k=>v.length-k) 0 J (aL _) (fun _=>J) (fun k hk=>?_);haveI:=hSk k;refine br J J J (fun hc9=>?_) (fun hc9=>?_)
 .
  obtain⟨p,hx⟩: ∃u,v[k]? =some u:=⟨_,aQ pb⟩;obtain⟨q,hy⟩: ∃u,v[(k+1)%v.length]? =some u:=⟨_,aQ (cR _ pb)⟩;haveI:=hb p (aV hx);haveI:=hb q (aV hy);have eS:S (k+1)=S k+p.cross q:=by rw[hS];exact GR _ (P8 hx hy)
  haveI hcr:BQ (p.cross q) (16*i+20):=BQ.mono (inferInstance:BQ (p.cross q) _) pb;refine ix (fu:=⟨14⟩) _ J (bF hx) J<|ah 19 (.d (vI (v.length:Nat))) J omA<|gx (fu:=⟨1⟩) J<|ah 20 (.d (vI (((k+1)%v.length:Nat):Int))) J (by rw[<-QL]<;>rfl)<|gx J<|ix _ J (bF hy) J<|cl J (vK (p:=p) (q:=q) (i:=i) (j:=i) pb pb) J<|cl (fu:=⟨0⟩) J (ll (a:=S k) (b:=p.cross q) (i:=m) (j:=16*i+20) pb pb) J<|ah 24 (.d (eQ (S (k+1)))) J (by rw[eS])<|gx (hv:=by simp only[aj];exact⟨we,pb⟩) J<|at_ (k+1) ⟨pb,pb⟩
 .
  obtain rfl:k=v.length:=by omega
  exact rz J J
def Od{m:Nat}(hb: ∀p∈v,aE p i)(hi:i<=80000)(hn:v.length<=1000000)(hs: ∀k,BQ (d5 (fun x=>x.1.cross x.2) ((fP v).take k)) m)(hm:m<=10000000:=by decide):PF GB prog 19 [.sl (v.map eP)] (eQ (fy v*mkRat 1 2)):=by
 haveI har:BQ (fy v) m:=by have:=hs v.length;rwa [bK (by unfold fP;simp)] at this
 have e2:fy v/2=fy v*mkRat 1 2:=by rw[tV];exact congrArg _ (by decide+kernel)
 refine fn func19 J J ntmps19 J J (fun C=>?_);refine cl J (ZB (m:=m) hb hi hn hs hm) J<|cl J (CA (a:=fy v) (i:=m) pb) J<|rz J (by rw[e2]<;>rfl)
def DX(hb: ∀r∈ts,(∀p∈r,aE p 1200)/\r.length<=1000)(hn:ts.length<=100000000:=by omega):PR GB prog 10 [.sl (ts.map jy)] 1 45 (ts.map c9):=by
 have hm1:(ts.map jy).length=ts.length:=aX ..;refine xC (fu:=⟨15⟩) func10 J J ntmps10 J J (fun C hmb=>?_);refine ah 7 (.d (vI (ts.length:Nat))) J omA<|gx J<|nr 3 3 45 1 J J J<|lp (X:=Nat) (fun k=>[(8, .d (vI (k:Nat))),(3, .rw 3)]) (fun k=>[(3,some (.b 45 1 ((ts.take k).map c9) true))]) (fun k=>k<=ts.length) (fun k=>ts.length-k) 0 J (aL _) (fun _=>J) (fun k hk=>?_);have hm3:((ts.take k).map c9).length<=k:=by rw[aX,bR];omega
 refine br J J J (fun hc9=>?_) (fun hc9=>?_)
 .
  obtain⟨r,hx⟩: ∃u,ts[k]? =some u:=⟨_,aQ pb⟩;obtain⟨h1,h2⟩:=hb r (aV hx);refine ix (fu:=⟨1⟩) _ J (bF hx) J<|ah 11 (.d (.sl (r.map eP))) J J<|gx J<|cl J (w5 (ps:=r) h1) J<|rf J J<|ap ((ts.take (k+1)).map c9) J (oI hx) (E0 [r]) J<|dq 16 3 J<|at_ (k+1) ⟨pb,pb⟩
 .
  obtain rfl:k=ts.length:=by omega
  rw[cS];exact ze J J J J
end Go.Sx
end
