import Derived.Test.YtmdgdhokaffbkaaGreatDoorMz11
set_option linter.all false
set_option maxHeartbeats 4000000
set_option maxRecDepth 100000
section
namespace Go.Sx
open Go Go.Proofs Tryz
variable {GB G:Gh}{i k j bv cap c2:Nat}{q s':Rat}{p f:Nat->Bool}{s:bt}{m l1:ah}{es:List Int}{u x y t:Tr}{α:Type}{vs rest vcs r2:List Value}{P:Program}{ds:List DV}{op:Int}
instance BQ.i1':BQ (1:Rat) 2:=⟨pb,pb⟩
instance BQ.i2':BQ (2:Rat) 2:=⟨pb,pb⟩
theorem Se{v:ao}[BQ v.lo i][BQ v.hi i]:BQ (kA v) (i+i+5):=by
 unfold kA;split
 .exact BQ.mono (k:=1) ⟨pb,pb⟩ m5
 .split
  .exact BQ.mono (inferInstance:BQ (v.hi-1) _) m5
  .split
   .exact BQ.mono (inferInstance:BQ (v.lo+1) _) m5
   .exact BQ.mono (inferInstance:BQ ((v.lo+v.hi)/2) _) m5
instance aC.at (l:ah) (t:Rat) (k:Nat) [LB l] [BQ t k]:aC (l.at t) (900+(k+97)+1):=by
 rw[<-tf];infer_instance
def axB(h: ¬q.num.sign=0):q≠0:=fun e=>h ((mm q).2 e)
def f9(d:aa):aa:=⟨-d.y,d.x⟩
instance aC.turn (d:aa) (k:Nat) [aC d k]:aC (f9 d) k:=⟨inferInstanceAs (BQ (-d.y) k),inferInstanceAs (BQ d.x k)⟩
def uz(p v:aa)(m:ah):Rat:= -(m.value p/(m.value (cd p v ((1:Int):Rat))-m.value p))
def ph(p v:aa)(m:ah)(s:Rat):Rat:=if(m.value (cd p v ((1:Int):Rat))-m.value p).num.sign=0 then s else if(m.value p).num.sign=0 then s else if 0<(uz p v m).num.sign then(if bB (uz p v m/2) s<0 then uz p v m/2 else s) else s
def nv(p v:aa):List ah->Rat->Rat
 |[],s=>s
 |m::t,s=>nv p v t (ph p v m s)
def Ab(c:List ah)(p v:aa):aa:=cd p v (nv p v c ((1:Int):Rat))
def Cg{c:List ah}{p v:aa}{s r:Rat}(h:nv p v (c.drop k) s=r)(hk:k<c.length)(hm:m=c[k])(e:ph p v m s=s'):nv p v (c.drop (k+1)) s'=r:=by
 rw[bV hk] at h;rw[<-h,nv,<-hm,e]
def aKj{c:List ah}{p v:aa}(hc: ∀m∈c,LB m)(hn:c.length<=1000)(hp:aC p 4500)(hv:aC v 97):PF GB prog 241 [.sl (c.map eL),eP p,eP v] (eP (Ab c p v)):=by
 have hcl:=xR c;refine fn func241 J J ntmps241 J J (fun C=>?_);refine cl (fu:=⟨9⟩) J (lB (n:=1)) J<|aj 14 (.d (vI (c.length:Nat))) J (by rw[hcl];rfl)<|gx J<|lp (X:=Rat×Nat) (fun⟨s,k⟩=>[(15, .d (vI (k:Nat))),(14, .d (vI (c.length:Nat))),(13, .d (.sl (c.map eL))),(4, .ov 4 0),(5, .ov 5 0),(7, .ov 7 0),(6, .ov 6 0)]) (fun⟨s,k⟩=>[(7,some (.o 34 [.d ((.v (.bool (decide (s.num<0))))), .d (dN s.num.natAbs), .d (dD s.den)] true)),(6,some (.o 36 [.ff, .nl, .nl, .ff, .nl, .nl] true)),(5,some (.o 36 [.d ((.v (.bool (decide (v.x.num<0))))), .d (dN v.x.num.natAbs), .d (dD v.x.den), .d ((.v (.bool (decide (v.y.num<0))))), .d (dN v.y.num.natAbs), .d (dD v.y.den)] true)),(4,some (.o 36 [.d ((.v (.bool (decide (p.x.num<0))))), .d (dN p.x.num.natAbs), .d (dD p.x.den), .d ((.v (.bool (decide (p.y.num<0))))), .d (dN p.y.num.natAbs), .d (dD p.y.den)] true))]) (fun⟨s,k⟩=>k<=c.length/\BQ s 60000/\nv p v (c.drop k) s=nv p v c ((1:Int):Rat)) (fun⟨s,k⟩=>c.length-k) ⟨((1:Int):Rat),0⟩ J ⟨bK _,BQ.i1.mono pb,J⟩ (fun _=>J) (fun⟨s,k⟩ hk=>?_)
 try dsimp only at hk⊢
 obtain⟨hle,hsb,hns⟩:=hk;refine br J J J (fun hc16=>?_) (fun hc16=>?_)
 .
  have hk:k<c.length:=by omega
  obtain⟨m,hm⟩: ∃m,m=c[k]:=⟨_,rfl⟩;haveI hmb:LB m:=hm▸hc _ (cK hk);have hinv:=hsb;refine ix (fu:=⟨1⟩) _ J (xh hk) J<|aj 18 (.d (eL m)) J okN<|gx J<|cl J (lB (n:=1)) J<|cl J (AA (p:=p) (q:=v) (c:=((1:Int):Rat))) J<|cl J (E3 (l:=m) (p:=cd p v ((1:Int):Rat))) J<|cl J (E3 (l:=m) (p:=p)) J<|cl J (sG (a:=m.value (cd p v ((1:Int):Rat))) (b:=m.value p)) J<|cl J (t6 (q:=m.value (cd p v ((1:Int):Rat))-m.value p)) J<|cs 32 J J J (fun hg32=>?_) (fun hg32=>?_)
  .
   exact at_ ⟨s,k+1⟩ (by dsimp only;exact⟨⟨m5,hinv,(Cg hns hk hm (by unfold ph;rw[if_pos hg32]))⟩,m5⟩)
  .
   refine cl J (BE (l:=m) (p:=p)) J<|br J J J (fun hc37=>?_) (fun hc37=>?_)
   .
    exact at_ ⟨s,k+1⟩ (by dsimp only;exact⟨⟨m5,hinv,(Cg hns hk hm (by unfold ph;rw[if_neg hg32,if_pos hc37]))⟩,m5⟩)
   .
    refine cl J (E3 (l:=m) (p:=p)) J<|cl J (xH (a:=m.value p) (b:=m.value (cd p v ((1:Int):Rat))-m.value p) (axB hg32)) J<|cl J (vQ (q:=m.value p/(m.value (cd p v ((1:Int):Rat))-m.value p))) J<|cl (fu:=⟨0⟩) J (t6 (q:= -(m.value p/(m.value (cd p v ((1:Int):Rat))-m.value p)))) J<|kC (v2:=fun hg46=>by simp only[ak];exact⟨v6,m5⟩) J J J J (fun hg46=>?_) (fun hg46=>?_)
    .
     refine cl J (JW (a:= -(m.value p/(m.value (cd p v ((1:Int):Rat))-m.value p)))) J<|cl J (od (a:= -(m.value p/(m.value (cd p v ((1:Int):Rat))-m.value p))/2) (b:=s)) J<|br J J J (fun hc53=>?_) (fun hc53=>?_)
     .
      obtain⟨t,ht⟩: ∃t,t= -(m.value p/(m.value (cd p v ((1:Int):Rat))-m.value p)):=⟨_,rfl⟩;haveI htb:BQ t 45000:=ht▸BQ.mono inferInstance;have hinv:BQ (t/2) 60000:=BQ.mono inferInstance;rw[<-ht];refine cl J (JW (a:=t)) J<|at_ ⟨t/2,k+1⟩ (by dsimp only;exact⟨⟨m5,hinv,(Cg hns hk hm (by unfold ph;rw[if_neg hg32,if_neg hc37,show uz p v m=t from ht.symm,if_pos (by rw[ht];exact hg46),if_pos (by rw[ht];exact hc53)]))⟩,m5⟩)
     .
      exact at_ ⟨s,k+1⟩ (by dsimp only;exact⟨⟨m5,hinv,(Cg hns hk hm (by unfold ph;rw[if_neg hg32,if_neg hc37,if_pos (show 0<(uz p v m).num.sign from hg46),if_neg (show¬bB (uz p v m/2) s<0 from hc53)]))⟩,m5⟩)
    .
     exact at_ ⟨s,k+1⟩ (by dsimp only;exact⟨⟨m5,hinv,(Cg hns hk hm (by unfold ph;rw[if_neg hg32,if_neg hc37,if_neg (show¬0<(uz p v m).num.sign from hg46)]))⟩,m5⟩)
 .
  refine cl J (AA (p:=p) (q:=v) (c:=s)) J<|rz J (by unfold Ab;rw[<-hns,jW m5];rfl)
def jx(c:List ah):List ah->aa
 |[]=>⟨0,0⟩
 |m::t=>if(gt m c ao.all).2=true then Ab c (m.at (kA (gt m c ao.all).1)) (f9 m.dir) else jx c t
def auF{c:List ah}(h:jx c (c.drop k)=jx c c)(hk:k<c.length)(hm:m=c[k])(e:(gt m c ao.all).2=true):jx c c=Ab c (m.at (kA (gt m c ao.all).1)) (f9 m.dir):=by
 rw[<-h,bV hk,jx,<-hm,if_pos e]
def ayW{c:List ah}(h:jx c (c.drop k)=jx c c)(hk:k<c.length)(hm:m=c[k])(e: ¬(gt m c ao.all).2=true):jx c (c.drop (k+1))=jx c c:=by
 rw[<-h,bV hk,jx,<-hm,if_neg e]
def awc{c:List ah}(h:m∈c)(h2:(gp m c ao.all).isSome=true):lF c=true:=by
 unfold lF;rw[gS,iU];exact .inr ⟨m,h,h2⟩
def axo{c:List ah}(h:c=[]):lF c=true:=by subst h;rfl
def Zz{c:List ah}(h:c≠[])(h2: ∀m∈c,(gp m c ao.all).isSome=false):lF c=false:=by
 rw[<-kJ];unfold lF;rw[gS,iU,tQ];rintro (e|⟨m,h3,h4⟩)
 .exact h e
 .rw[h2 m h3] at h4;exact absurd h4 pb
def Pv:eP ⟨0,0⟩= .ag [.v (.bool false), .sl [], .sl [], .v (.bool false), .sl [], .sl []]:=by
 unfold eP dD;simp only[show(0:Rat).num=0 from J,show(0:Rat).den=1 from J,lN,pe];rfl
def Jn{c:List ah}(hc: ∀m∈c,LB m)(hok: ∀m∈c,m.ok)(hn:c.length<=1000):PF GB prog 166 [.sl (c.map eL)] (.tp [eP (jx c c),vB (lF c)]):=by
 have hcl:=xR c;refine fn func166 J J ntmps166 J J (fun C=>?_);refine br (fu2:=⟨7⟩) J J J (fun hc11=>?_) (fun hc11=>?_)
 .
  exact rz J (by rw[cJ (l:=c) m5,axo J];show _=DV.tp [eP ⟨0,0⟩,_];rw[Pv];rfl)
 .
  refine aj 14 (.d (vI (c.length:Nat))) J (by rw[hcl];rfl)<|gx J<|lp (X:=Nat) (fun k=>[(15, .d (vI (k:Nat))),(14, .d (vI (c.length:Nat))),(13, .d (.sl (c.map eL))),(0, .d (.sl (c.map eL))),(2, .ov 2 0)]) (fun k=>[(2,some (.o 36 [.ff, .nl, .nl, .ff, .nl, .nl] true))]) (fun k=>k<=c.length/\(∀m∈c.take k,(gp m c ao.all).isSome=false)/\jx c (c.drop k)=jx c c) (fun k=>c.length-k) 0 J ⟨bK _,fun m hm=>absurd hm vb,J⟩ (fun _=>J) (fun k hk=>?_);obtain⟨hle,hno,hip⟩:=hk;refine br J J J (fun hc16=>?_) (fun hc16=>?_)
  .
   have hk:k<c.length:=by omega
   obtain⟨m,hm⟩: ∃m,m=c[k]:=⟨_,rfl⟩;haveI hmb:LB m:=hm▸hc _ (cK hk);have hmo:m.ok:=hm▸hok _ (cK hk);refine ix (fu:=⟨1⟩) _ J (xh hk) J<|aj 19 (.d (eL m)) J okN<|gx J<|cl (fu:=⟨0⟩) J (T8 hc hok hn hk) J<|aj 23 (.d (.tp [eV (gt m c ao.all).1,vB (gt m c ao.all).2])) J (by rw[hm])<|gx J<|bb J J J (fun hc26=>?_) (fun hc26=>?_)
   .
    have hbd:=Cz (v:=ao.all) hmo.ne hc jc.all (BQ.mono (k:=1) ⟨pb,pb⟩) (BQ.mono (k:=1) ⟨pb,pb⟩);obtain⟨s,hs⟩: ∃s,s=(gt m c ao.all).1:=⟨_,rfl⟩;rw[<-hs] at hbd;haveI:=hbd.1;haveI:=hbd.2;haveI hsb:=Se (v:=s) (i:=1200);have hpt:aC (m.at (kA s)) 4500:=by have:=aC.at m (kA s) (1200+1200+5);exact⟨this.x.mono pb,this.y.mono pb⟩
    have hin:lF c=true:=awc (hm▸cK hk) (by rw[<-xQ];exact hc26);have hpn:=auF hip hk hm hc26;rw[<-hs] at hpn⊢;refine cl J (vX (l:=m)) J<|cl J (aBC (v:=s)) J<|cl J (Sp (l:=m) (t:=kA s) hmo.ne) J<|cl J (vQ (q:=m.dir.y)) J<|cl J (aKj (p:=m.at (kA s)) (v:=f9 m.dir) hc hn (hpt) inferInstance) J<|rz J (by rw[hin,hpn];rfl)
   .
    exact at_ (k+1) ⟨⟨m5,avP hno hk (by rw[<-hm,<-xQ];exact hc26),ayW hip hk hm (by rw[hc26];decide)⟩,m5⟩
  .
   exact rz J (by rw[Zz (fun e=>hc11 (by rw[e];rfl)) (fun m hm=>hno m (by rw[bM m5];exact hm)),<-hip,jW m5];show _=DV.tp [eP ⟨0,0⟩,_];rw[Pv];rfl)
def axd(h:i<es.length):(es.map vI)[(i:Int).toNat]? =some (vI (es.getD i 0)):=by simp[h]
def UL(h:i<es.length:=by omega):qB (es.drop i)=if es.getD i 0≠0 then es.getD i 0 else qB (es.drop (i+1)):=by
 rw[bV h,qB,aK,aZ h];rfl
def Wm(hn:es.length<=1000000):PF GB prog 347 [.sl (es.map vI)] (vI (qB es)):=by
 have hel:(es.map vI).length=es.length:=by simp
 refine fn (fu:=⟨15⟩) func347 J J ntmps347 J J (fun C=>?_);refine aj 7 (.d (vI (es.length:Nat))) J (by rw[hel]<;>rfl)<|gx J<|lp (X:=Nat) (fun i=>[(8, .d (vI (i:Nat)))]) (fun i=>[]) (fun i=>i<=es.length/\qB es=qB (es.drop i)) (fun i=>es.length-i) 0 J ⟨bK _,J⟩ (fun _=>J) (fun i hk=>?_);obtain⟨h1,h2⟩:=hk;refine br J J J (fun hc9=>?_) (fun hc9=>?_)
 .
  refine ix _ J (axd m5) J<|br J J J (fun hc14=>?_) (fun hc14=>?_)
  .
   exact rz J (by rw[h2,UL,if_pos hc14];rfl)
  .
   exact at_ (i+1) ⟨⟨m5,by rw[h2,UL,if_neg hc14]⟩,m5⟩
 .
  exact rz J (by rw[h2,iL m5];rfl)
def K1(l m:ah):Int:=qB [bB l.a m.a,bB l.b m.b,bB l.c m.c]
def aBc(l m:ah):K1 l m=0↔l=m:=by
 unfold K1 qB qB qB qB;have ha:=Ce (l.a:Rat) m.a;have hb:=Ce (l.b:Rat) m.b;have hc:=Ce (l.c:Rat) m.c;rw[nW] at ha hb hc;constructor
 .intro h
  repeat' (split at h<;>try contradiction)
  all_goals exact ah.ext'
 .rintro rfl
  rw[if_neg (by simp[ha.2 J]),if_neg (by simp[hb.2 J]),if_neg (by simp[hc.2 J])]
def Yb{l:ah}[hl:LB l][hm:LB m]:PF GB prog 340 [dt l,dt m] (vI (K1 l m)):=by
 refine fn func340 J J ntmps340 J J (fun C=>?_);refine cl J (xZ (p:=(l.a:Rat)) (q:=(m.a:Rat))) J<|cl J (xZ (p:=(l.b:Rat)) (q:=(m.b:Rat))) J<|cl J (xZ (p:=(l.c:Rat)) (q:=(m.c:Rat))) J<|rf J J<|cl J (Wm (es:=[bB l.a m.a,bB l.b m.b,bB l.c m.c]) (nb J)) J<|rz J J
def aCE{l:ah}[hl:LB l][hm:LB m]:PF GB prog 327 [dt l,dt m] (vB (decide (l=m))):=by
 refine fn func327 J J ntmps327 J J (fun C=>?_);refine cl J (Yb (l:=l) (m:=m)) J<|rz J (by show DV.v (.bool (decide _))= .v (.bool _);congr 2;exact decide_eq_decide.2 (aBc l m))
def aIV{l:ah}[hl:LB l]:PF GB prog 303 [dt l] (dt l.rev):=by
 refine fn func303 J J ntmps303 J J (fun C=>?_);refine cl J (qi (q:=(l.a:Rat))) J<|cl J (qi (q:=(l.b:Rat))) J<|cl J (qi (q:=(l.c:Rat))) J<|rz J (by unfold dt ah.rev;simp only[jV];rfl)
def aIr{l:ah}[hl:LB l]:PF GB prog 141 [dt l] (eL l):=by
 refine fn func141 J J ntmps141 J J (fun C=>?_);refine cl J (vt (q:=(l.a:Rat))) J<|cl J (vt (q:=(l.b:Rat))) J<|cl J (vt (q:=(l.c:Rat))) J<|rz J J
theorem omj{p:Prop}(h:p:=by unfold aa.half;(repeat' split)<;>first|rfl|(exfalso;omega)):p:=h
def Qh{p:aa}[hp:aC p i](hi:i<=10000000:=by decide):PF GB prog 285 [eZ p] (vI p.half):=by
 refine fn func285 J J ntmps285 J J (fun C=>?_);refine cl J (l6 (q:=p.y) m5) J<|cs 10 J J J (fun hg10=>?_) (fun hg10=>?_)
 .
  exact rz J omj
 .
  refine cs 13 J J J (fun hg13=>?_) (fun hg13=>?_)
  .
   refine cl J (l6 (q:=p.x) m5) J<|br J J J (fun hc7=>?_) (fun hc7=>?_)
   .
    exact rz J omj
   .
    refine cs 23 J J J (fun hg23=>?_) (fun hg23=>?_)
    .
     exact rz J omj
    .
     refine cl J (l6 (q:=p.x) m5) J<|br J J J (fun hc20=>?_) (fun hc20=>?_)
     .
      exact rz J omj
     .
      exact rz J omj
  .
   refine cs 23 J J J (fun hg23=>?_) (fun hg23=>?_)
   .
    exact rz J omj
   .
    refine cl J (l6 (q:=p.x) m5) J<|br J J J (fun hc20=>?_) (fun hc20=>?_)
    .
     exact rz J omj
    .
     exact rz J omj
def Id{u v:aa}[hp:aC u i][hq:aC v j](hi:i<=10000000:=by decide)(hj:j<=10000000:=by decide):PF GB prog 227 [eZ u,eZ v] (vI (cE u v)):=by
 refine fn func227 J J ntmps227 J J (fun C=>?_);refine cl J (Qh (p:=u) hi) J<|cl J (Qh (p:=v) hj) J<|br J J J (fun hc11=>?_) (fun hc11=>?_)
 .
  exact rz J (by unfold cE;rw[if_pos hc11];rfl)
 .
  refine br J J J (fun hc15=>?_) (fun hc15=>?_)
  .
   exact rz J (by unfold cE;rw[if_neg hc11,if_pos hc15];rfl)
  .
   refine cl J (A8 (p:=u) (q:=v) m5 m5) J<|cl (fu:=⟨0⟩) J (l6 (q:=u.cross v) m5) J<|?_;have hs:=rK (u.cross v).num;refine gx J<|rz J (by unfold cE;rw[if_neg hc11,if_neg hc15];rfl)
def aHY{m:Int}:gi (dg m.natAbs)/\(decide (m<0)=true->0<(dg m.natAbs).length):=⟨(gE _).2.2,fun h=>by
 have:0<m.natAbs:=by have:=of_decide_eq_true h;omega
 exact w9.2 this⟩
def Fa{m:Int}[h:BI m i](hi:i<=1000000000:=by decide):PF GB prog 264 [eI m] (.v (.bool true)):=(avi (neg:=decide (m<0)) (ds:=dg m.natAbs) (gE _).2.1 (by have:=jH (a:=m.natAbs) hi;omega)).to (by unfold vB;rw[decide_eq_true aHY])
def Tm{l:ah}(h:l.ok):rgcd (rgcd (l.a:Rat) (l.b:Rat)) (l.c:Rat)=((1:Int):Rat):=by
 rw[KQ,KQ];have:=h.2;simp only[fK];rw[this];rfl
instance BQ.rgcd (p q:Rat) (i j:Nat) [h:BQ p i] [k:BQ q j]:BQ (rgcd p q) (i+j+(i+j)):=by
 unfold Sx.rgcd;refine uT (iM (nE p) (nE q)) ?_ ?_
 .rw[fK]
  have h1:=mv h.hn k.hd;have h2:=mv k.hn h.hd;rw[lK j i] at h2;exact NT h1 h2
 .have h1:=mv h.hd k.hd
  have:2^(i+j)<=2^(i+j+(i+j)):=bT pb m5;omega
theorem oke{p:Prop}(h:p:=by first|rfl|(show some (decide _)=some false;rw[decide_eq_false (fun e=>ho.1 ⟨ha,cS.1 e⟩)])):p:=h
theorem okz{p:Prop}(h:p:=by show some (!decide _)=some false;rw[Tm ho,decide_eq_true J];rfl):p:=h
def aHW{l:ah}[hl:LB l](ho:l.ok):PF GB prog 210 [eL l] (.tp [dt l,vB true]):=by
 refine fn func210 J J ntmps210 J J (fun C=>?_);refine cl (fu:=⟨0⟩) J (Fa (m:=l.a)) J<|c9 J J J<|cl (fu:=⟨0⟩) J (Fa (m:=l.b)) J<|c9 J J J<|cl (fu:=⟨0⟩) J (Fa (m:=l.c)) J<|c9 J J J<|cl J (I' (m:=l.a)) J<|cl J (I' (m:=l.b)) J<|cl J (I' (m:=l.c)) J<|cl (fu:=⟨0⟩) J (A6 (q:=(l.a:Rat))) J<|kC (fu2:=⟨4⟩) J J J J (fun hg35=>?_) (fun hg35=>?_)
 .
  have ha:l.a=0:=cS.1 hg35;refine cl (fu:=⟨1⟩) J (A6 (q:=(l.b:Rat))) J<|c9 J oke J<|cl J (vr (p:=(l.a:Rat)) (q:=(l.b:Rat))) J<|cl J (vr (p:=rgcd l.a l.b) (q:=(l.c:Rat))) J<|cl J (vN (m:=1)) J<|cl (fu:=⟨0⟩) J (DO (p:=rgcd (rgcd l.a l.b) l.c) (q:=((1:Int):Rat))) J<|c9 J okz J<|rz J J
 .
  refine c9 J oke J<|cl J (vr (p:=(l.a:Rat)) (q:=(l.b:Rat))) J<|cl J (vr (p:=rgcd l.a l.b) (q:=(l.c:Rat))) J<|cl J (vN (m:=1)) J<|cl (fu:=⟨0⟩) J (DO (p:=rgcd (rgcd l.a l.b) l.c) (q:=((1:Int):Rat))) J<|c9 J okz J<|rz J J
def dx(f:bt):DV:= .ag [vI (ek (f.l.a:Rat)),vI (eo (f.l.a:Rat)),dH (f.l.a:Rat),vI (ek (f.l.b:Rat)),vI (eo (f.l.b:Rat)),dH (f.l.b:Rat),vI (ek (f.l.c:Rat)),vI (eo (f.l.c:Rat)),dH (f.l.c:Rat),vI (ek f.v.lo),vI (eo f.v.lo),dH f.v.lo,vI (ek f.v.hi),vI (eo f.v.hi),dH f.v.hi, .v (.bool f.v.nl), .v (.bool f.v.nh)]
structure uA (v:ao):Prop where
 z:jc v
 lo:BQ v.lo 1200
 hi:BQ v.hi 1200
structure Ny (s:bt):Prop where
 lb:LB s.l
 ok:s.l.ok
 v:uA s.v
abbrev fE (c:ar):Prop:= ∀s∈c,Ny s
def vj(f:α->DV)(l:List α):(l.map f).length=l.length:=by simp
def uA.all:uA ao.all:=⟨⟨fun _=>J,fun _=>J⟩,BQ.z1.mono pb,BQ.z1.mono pb⟩
def uA.cut{l:ah}{v:ao}[LB l][LB m](hn:l.Ne)(h:uA v):uA (l.cutV v m):=by
 by_cases h0:crossI l m=0
 .rw[(BA (v:=v) h0).1];exact h
 .obtain⟨u1,_,u3,u4,u5⟩:=Jw (v:=v) hn h.z h.lo h.hi h0
  rw[u1];exact⟨u3,u4,u5⟩
def HE(o:Option ao):ao:=o.getD ⟨0,0,false,false⟩
def aJE(G:Gh)(y:Value)(k:Is G (.tp [.ag [vI 0,vI 0, .v (.pointer none),vI 0,vI 0, .v (.pointer none), .v (.bool false), .v (.bool false)], .v (.bool false)]) y):Is G (.tp [eW (HE none),vB false]) y:=by
 obtain⟨m,rfl,g⟩:=lh.1 k;exact lh.2 ⟨m,J,Ti (fun y hy=>by
  obtain⟨l,rfl,g⟩:=eD.1 hy;exact eD.2 ⟨l,J,Fj (IC [vI 0,vI 0, .v (.pointer none)] g)⟩) g⟩
def cO{f:α->DV}{l:List α}{s:α}(h:l[i]? =some s):(l.map f)[(i:Int).toNat]? =some (f s):=by simp[h]
def Dn{l:List α}{s:α}(h:l[k]? =some s):l.drop k=s::l.drop (k+1):=by
 obtain⟨h1,h2⟩:=aS.1 h;rw[bV h1,h2]
def Vi{l:ah}{c:ar}{v:ao}(h:c[k]? =some s):oD l (c.drop k) v=if l.cutB v s.l then oD l (c.drop (k+1)) (l.cutV v s.l) else none:=by
 rw[Dn h];rfl
def Iw{l:ah}{c:ar}(h:c[k]? =some s):qa l (c.drop k)=if pn l s≠0 then pn l s else if s.l=l then 1 else qa l (c.drop (k+1)):=by
 rw[Dn h];rfl
instance BQ.sample (v:ao) [h1:BQ v.lo 1200] [h2:BQ v.hi 1200]:BQ v.sample 2500:=by
 unfold ao.sample;split
 .exact BQ.mono (k:=1) ⟨pb,pb⟩
 .split
  .exact BQ.mono (inferInstance:BQ (v.hi-((1:Int):Rat)) _)
  .split
   .exact BQ.mono (inferInstance:BQ (v.lo+((1:Int):Rat)) _)
   .exact BQ.mono (inferInstance:BQ ((v.lo+v.hi)*mkRat 1 2) _)
def N5{c:ar}{l:ah}[hl:LB l](hlo:l.ok)(hc:fE c)(hn:c.length<=1000000):PF GB prog 305 [.sl (c.map dx),dt l] (.tp [eW (HE (lc c l)),vB (lc c l).isSome]):=by
 have hm:=vj dx c;refine fn func305 J J ntmps305 J J (fun C=>?_);refine cl (fu:=⟨10⟩) J aME J<|aj 12 (.d (vI (c.length:Nat))) J (by rw[vj]<;>rfl)<|gx J<|lp (X:=ao×Nat) (fun⟨v,k⟩=>[(13, .d (vI (k:Nat))),(6, .ov 6 0)]) (fun⟨v,k⟩=>[(6,some (.o 328 [.d (vI (ek v.lo)), .d (vI (eo v.lo)), .d (dH v.lo), .d (vI (ek v.hi)), .d (vI (eo v.hi)), .d (dH v.hi), .d (.v (.bool v.nl)), .d (.v (.bool v.nh))] true))]) (fun⟨v,k⟩=>k<=c.length/\uA v/\oD l (c.drop k) v=lc c l) (fun⟨v,k⟩=>c.length-k) (ao.all,0) J ⟨bK _, .all,J⟩ (fun _=>J) (fun⟨v,k⟩ hk=>?_);dsimp only at hk⊢;obtain⟨h1,h2,h3⟩:=hk;haveI:=h2.lo;haveI:=h2.hi;refine br J J J (fun hc14=>?_) (fun hc14=>?_)
 .
  obtain⟨s,hs0⟩: ∃s,c[k]? =some s:=⟨_,aZ m5⟩;have hs:=hc s (aW hs0);haveI:=hs.lb;refine ix _ J (cO hs0) J<|cl (fu:=⟨0⟩) J (PK (l:=l) (m:=s.l) (v:=v)) J<|?_;generalize hw:l.cutV v s.l=w;generalize hb:l.cutB v s.l=b;refine gx J<|bb J J J (fun hc26=>?_) (fun hc26=>?_)
  .
   exact jO J (by rw[<-h3,Vi hs0,hb,if_neg okY];exact aJE)
  .
   exact at_ (w,k+1) (by dsimp only;exact⟨⟨m5,hw▸h2.cut hlo.1,by rw[<-h3,Vi hs0,hb,hw,if_pos okY]⟩,m5⟩)
 .
  exact rz J (by rw[<-h3,iL m5];rfl)
def XC{c:ar}{l:ah}[hl:LB l](hlo:l.ok)(hc:fE c)(hn:c.length<=1000000):PF GB prog 306 [.sl (c.map dx),dt l] (vI (xC c l)):=by
 have hm:=vj dx c;refine fn func306 J J ntmps306 J J (fun C=>?_);refine cl J (N5 (c:=c) (l:=l) hlo hc hn) J<|bb (fu2:=⟨7⟩) J J J (fun hc16=>?_) (fun hc16=>?_)
 .
  exact rz J (by unfold xC;rw[if_pos hc16];rfl)
 .
  have hp:xC c l=qa l c:=by unfold xC;rw[if_neg (by simp[hc16])]
  refine aj 18 (.d (vI (c.length:Nat))) J (by rw[vj]<;>rfl)<|gx J<|lp (X:=Nat) (fun k=>[(19, .d (vI (k:Nat)))]) (fun k=>[]) (fun k=>k<=c.length/\qa l (c.drop k)=qa l c) (fun k=>c.length-k) 0 J ⟨bK _,J⟩ (fun _=>J) (fun k hk=>?_);obtain⟨h1,h2⟩:=hk;refine br J J J (fun hc20=>?_) (fun hc20=>?_)
  .
   obtain⟨s,hs0⟩: ∃s,c[k]? =some s:=⟨_,aZ m5⟩;have hs:=hc s (aW hs0);haveI:=hs.lb;haveI:=hs.v.lo;haveI:=hs.v.hi;haveI:=BQ.sample s.v;refine ix _ J (cO hs0) J<|cl (fu:=⟨0⟩) J (RZ (v:=s.v)) J<|?_;generalize ht:s.v.sample=t at*;refine gx J<|cl J (Rl (l:=s.l) (t:=t)) J<|cl J (Aw (l:=l) (p:=s.l.at t)) J<|br J J J (fun hc32=>?_) (fun hc32=>?_)
   .
    have hsd:pn l s=(l.value (s.l.at t)).num.sign:=by unfold pn;rw[ht]
    exact rz J (by rw[hp,<-h2,Iw hs0,hsd,if_pos hc32];rfl)
   .
    refine cl J (aCE (l:=s.l) (m:=l)) J<|bd J J J (fun hc37=>?_) (fun hc37=>?_)
    .
     have hsd:pn l s=(l.value (s.l.at t)).num.sign:=by unfold pn;rw[ht]
     exact rz J (by rw[hp,<-h2,Iw hs0,hsd,if_neg hc32,if_pos hc37];rfl)
    .
     have hsd:pn l s=(l.value (s.l.at t)).num.sign:=by unfold pn;rw[ht]
     exact at_ (k+1) ⟨⟨m5,by rw[<-h2,Iw hs0,hsd,if_neg hc32,if_neg hc37]⟩,m5⟩
  .
   exact rz J (by rw[hp,<-h2,iL m5];rfl)
def YC(h: ∀v∈vs,(aH v).length=17)(hi:i<=vs.length):dd (aF vs++rest) (i*17) ((vs.length-i)*17)=some (aF (vs.drop i)):=by
 have hl:=fC vs h;have hd:(aF (vs.drop i)).length=(vs.length-i)*17:=by
  rw[fC (s:=17) _ (fun v hv=>h v (gL hv)),gT]
 rw[l5 _ _ _ okF];congr 1;rw[kV m5,Fz vs i h hi,fV m5,bM m5]
def auj(h: ∀v∈vs,(aH v).length=17)(hv:vcs.length=17)(hi:i<vs.length)(hr:17<=rest.length):
  cP (cP (aF vs++rest) ((i+1)*17) (aF (vs.drop i))) (i*17) vcs=aF (vs.take i)++vcs++aF (vs.drop i)++rest.drop 17:=by
 have hl:=fC vs h;have hd:(aF (vs.drop i)).length=(vs.length-i)*17:=by
  rw[fC (s:=17) _ (fun v hv=>h v (gL hv)),gT]
 have ht:(aF (vs.take i)).length=i*17:=by
  rw[fC (s:=17) _ (fun v hv=>h v (dS hv)),bL,jZ m5]
 rw[qj (aF (vs.drop i)) (aF vs++rest) _ okm];rw[qj vcs _ _ (by simp only[aU,bL,gT];omega)];have e1:(aF vs++rest).drop ((i+1)*17+(aF (vs.drop i)).length)=rest.drop 17:=by
  rw[hd,show(i+1)*17+(vs.length-i)*17=(aF vs).length+17 by omega,nN,jW m5,kQ];congr 1;omega
 have e2:((aF vs++rest).take ((i+1)*17)++aF (vs.drop i)++rest.drop 17).take (i*17)=aF (vs.take i):=by
  rw[dK,fV (by simp only[bL,aU];omega),List.take_take,jZ m5,fV m5,Df vs i h m5]
 have e3:((aF vs++rest).take ((i+1)*17)++aF (vs.drop i)++rest.drop 17).drop (i*17+vcs.length)=aF (vs.drop i)++rest.drop 17:=by
  rw[hv,dK,show i*17+17=((aF vs++rest).take ((i+1)*17)).length by simp only[bL,aU];omega,List.drop_left]
 rw[e1,e2,e3];simp[dK]
def auM(h: ∀v∈vs,(aH v).length=17)(hv:vcs.length=17)(hr:17<=rest.length):cP (aF vs++rest) (vs.length*17) vcs=aF vs++vcs++rest.drop 17:=by
 have hl:=fC vs h;rw[qj _ _ _ okF,hv,<-hl,List.take_left,nN];simp
def anC{b:Nat}{lo lo2:Bool}(hvs: ∀v∈vs,(aH v).length=17)(hfl: ∀v∈vs,∀c∈aH v,flat c=true)(hv:vcs.length=17)(hvf: ∀c∈vcs,flat c=true)
  (hcap:vs.length*17+rest.length=cap*17)(hroom:vs.length+1<=cap)(hi:i<=vs.length)(hb:vs.length<=1125899906842624):
  lg prog 310 [.slice (some ⟨b,0,none⟩) vs.length cap, .int .i64 i, .slice (some ⟨bv,0,none⟩) 1 c2] [⟨b,aF vs++rest,330,lo⟩,⟨bv,vcs++r2,330,lo2⟩] G
   (fun u css _=>u= .slice (some ⟨b,0,none⟩) (vs.length+1) cap/\css=[aF (vs.take i)++vcs++aF (vs.drop i)++rest.drop 17,vcs++r2]):=by
 have hL:(aF vs++rest).length=cap*17:=by rw[aU,fC vs hvs];exact hcap
 have hr:17<=rest.length:=by omega
 have hD:(aF (vs.drop i)).length=(vs.length-i)*17:=by
  rw[fC (s:=17) _ (fun v hv=>hvs v (gL hv)),gT]
 have hDf: ∀c∈aF (vs.drop i),flat c=true:=fun c hc=>by
  obtain⟨l,hl,hcl⟩:=List.mem_flatten.1 hc;obtain⟨v,hv,rfl⟩:=aT.1 hl;exact hfl v (gL hv) c hcl
 have hvt:dd (vcs++r2) 0 (1*17)=some vcs:=by rw[l5 _ _ _ okm,iW,fV m5,bM m5]
 refine lg.intro func310 J J ntmps310 J ?_;intro C _ _;show St C _ _ [⟨b,aF vs++rest,330,false⟩,⟨bv,vcs++r2,330,false⟩] _ _;refine aB2 (fun hne=>?_);simp only[] at hne;refine sR<|sa J J<|zE<|sR<|sm J J<|sm J J<|sy (Du J J) J<|zE<|sR<|?_;refine sm J J<|uL J J<|sa J J<|zE<|gh<|sR<|sm J J<|sy (nn J J) J<|zE<|td J<|?_;refine zK<|sR<|sm J J<|uL J J<|sa J J<|zE<|gh<|sR<|sm J J<|sm J J<|sy (nn J J) J<|zE<|?_;refine w5 J (fun hc=>?_) (fun hc=>?_) -- slot 22
 .have hin:i=vs.length:=by omega
  subst hin;refine sR<|sm J J<|sm J J<|?_;refine sc (Nd (s:=17) (m:=1) (ys:=vcs) J J (.hd ..) hL (z' inferInstance hvt) m5 hvf hroom J ?_);refine sa J J<|zE<|ml<|?_;refine uH (css:=[cP (aF vs++rest) (vs.length*17) vcs,vcs++r2]) (.tmp J .nil) J _ (List.Perm.refl _) (List.Sublist.refl _) ⟨J,?_⟩;rw[auM hvs hv hr,dX,fR];simp[aF]
 have hin:i<vs.length:=by omega
 have hn1:((vs.length:Int)+((1:Nat):Int)).toNat=vs.length+1:=by omega
 have ht1:((i:Int)+((1:Nat):Int)).toNat=i+1:=by omega
 refine zK<|gh<|sR<|sm J J<|sm J J<|sy (xp J J) J<|sm J J<|?_;refine sy (VB J) J<|sy (Cd J J) J<|zE<|?_;refine w5 J (fun hc2=>?_) (fun hc2=>?_) -- slot 31
 .exact absurd hc2 m5
 refine zK<|sR<|sm J J<|sm J J<|sm J J<|sy (xp J J) J<|sy (DD J J) J<|?_;rw[hn1];refine sa J J<|zE<|gh<|sR<|sm J J<|sm J J<|sm J J<|sm J J<|sy (xp J J) J<|sy (Fg J J) J<|?_;refine sy (ard (tS:=253) (tR:=4) func329 v6 v6 v6 v6 J J (Ne.symm hne) (fun h=>by rw[h] at hL;simp at hL;omega)) J<|?_;refine sy (uO J) J<|zE<|vq J<|?_;refine gh<|dr0 (b:=b) (fun _=>false) [(0,true),(1,true),(2,true),(3,true),(4,true),(5,true),(6,true),(7,true),(8,false)] follows (.hd ..) v6<|dM J J J<|?_;refine dM J J J<|dM J J J<|dy J (fun _=>xp J J m5 m5) J J<|dy J (fun _=>Fg J J) J J<|?_;refine dM J J J<|dM J J J<|dy J (fun _=>Fg J J) J J<|?_;rw[ht1,cX,eM,eM];refine dc J J (QA (s:=17) (m:=vs.length-i) (ys:=aF (vs.drop i)) J J (by show min _ _=_;omega) (z' inferInstance (YC hvs hi)) hDf (by rw[hD,hL];omega) (.hd ..) J ?_);refine ng<|dn<|sR<|sm J J<|sm J J<|sy (Fg J J) J<|sm J J<|?_;rw[cX,eM];refine sc (QA (s:=17) (m:=1) (ys:=vcs) J J (by show min _ _=_;omega) (z' inferInstance hvt) hvf (by rw[AN,hL,hv];omega) (.hd ..) J ?_);refine zE<|sR<|sm J J<|sa J J<|zE<|ml<|?_;refine uH (css:=[cP (cP (aF vs++rest) ((i+1)*17) (aF (vs.drop i))) (i*17) vcs,vcs++r2]) (.tmp J .nil) J _ (List.Perm.refl _) (List.Sublist.refl _) ⟨J,?_⟩;rw[auj hvs hv hin hr]
def lg.toO{f:FuncId}{M:List aA}{K:Value->List (List Value)->Gh->Prop}{K':Value->List aA->Gh->Prop}(h:lg P f vs M G K)(hk: ∀v css G',b9 G G'->css.length=M.length->K v css G'-> ∃o,o.Sublist (ln (asB M) css)/\K' v o G'):iO P f vs M G K':=
 ⟨h.able,fun w hw=>(h.run w hw).mono fun _ _ ⟨v,css,G',he,hl,hh,hK⟩=>let⟨o,h1,h2⟩:=hk v css G' hh.gle hl hK;⟨v,o,G',he,hh.drop h1,h2⟩⟩
def MW(c:ar):dm 17 (c.map dx):=fun d hd=>by
 obtain⟨f,_,rfl⟩:=aT.1 hd;exact⟨rfl,rfl⟩
def My{s:Nat}(hk:dm s ds)(h:IsLs G ds vs): ∀v∈vs,∀c∈aH v,flat c=true:=fun v hv=>by
 obtain⟨d,hd,h3⟩:=h.all v hv;exact(h3.cells (hk d hd).1).2
def Yi{c:ar}{x:bt}(hi:i<=c.length)(hc:c.length+1<=cap)(hn:c.length<=1000000):PI GB prog 310 (i:Nat) 17 330 330 (c.map dx) (dx x) cap ((c.take i++x::c.drop i).map dx):=by
 intro G w w2 B B2 _ hB hcap hB2;obtain⟨vs,q1,q2,q3,_⟩:=hB;obtain⟨us,u1,u2,u3,_⟩:=hB2;dsimp only at q1 q2 q3 u1 u2 u3;have hl:=q2.len;rw[aX] at hl;obtain⟨v,m,rfl,hv,hm⟩:=bj.1 u2
 cases fj.1 hm
 rcases q1 with⟨_,e,_⟩|⟨b,rest,lo,e,rfl,h5,h6,h7⟩
 .rw[e] at hcap;simp at hcap;omega
 rcases u1 with⟨h,_⟩|⟨bv,r2,lo2,e2,rfl,h8,h9,h10⟩
 .cases h
 have hx:(aH v).length=17:=u3 v aQ;have hxf:=My (s:=17) (ds:=[dx x]) (fun d hd=>by rw[aY.1 hd];exact⟨J,J⟩) u2 v aQ;have key:=anC (G:=G) (b:=b) (bv:=bv) (cap:=w.c) (i:=i) (c2:=w2.c) (vs:=vs) (rest:=rest) (vcs:=aH v) (r2:=r2) (lo:=lo) (lo2:=lo2) q3 (My (MW c) q2) hx hxf (by rw[<-h5];exact h6) m5 m5 m5;rw[e,e2];rw[yk];refine key.toO fun u css G' hg hl2 ⟨k1,k2⟩=>?_;subst k1 k2;have hall: ∀u∈vs.take i++v::vs.drop i,(aH u).length=17:=fun u hu=>by
  rcases aL.1 hu with hu|hu
  .exact q3 u (dS hu)
  .rcases aV.1 hu with rfl|hu
   .exact hx
   .exact q3 u (gL hu)
 have hlen:(vs.take i++v::vs.drop i).length=vs.length+1:=by
  rw[aU,aN,bL,gT];omega
 refine⟨[⟨b,aF (vs.take i)++aH v++aF (vs.drop i)++rest.drop 17,330,false⟩], .cons_cons _ (kX _),⟨some ⟨b,0,none⟩,vs.length+1,w.c⟩,J,vs.take i++v::vs.drop i, .inr ⟨b,rest.drop 17,false,by rw[hlen],?_,fC _ hall,?_,?_⟩,?_,hall,fun h=>by cases h⟩
 .rw[nA];simp[aF]
 .rw[fC _ hall,hlen,gT]
  rw[h5] at h6;have:=bS 17 (show vs.length+1<=w.c by omega);simp only[dV] at this⊢;omega
 .rw[hlen];show vs.length+1<=w.c;omega
 .rw[bX,bY,gM,iT]
  exact((q2.take i).up hg).app (.cons (hv.up hg) ((q2.drop i).up hg))
def MT{l:ah}[hs:LB s.l][hl:LB l]:PF GB prog 309 [dx s,dt l] (vI (cE s.l.dir l.dir)):=by
 refine fn func309 J J ntmps309 J J (fun C=>?_);refine cl J (wC (l:=s.l)) J<|cl J (wC (l:=l)) J<|cl J (Id (u:=s.l.dir) (v:=l.dir)) J<|rz J J
def Bc(c:ar)(l:ah)(i:Nat):Bool:=match c[i]? with
 |some s=>decide (cE s.l.dir l.dir=0)
 |none=>false
def aBE(i j:Nat):((i:Int)+(j:Int)).fdiv (2^min (1:Int).toNat IntKind.u64.bits)=((i+j)/2:Nat):=by
 rw[show(2:Int)^min (1:Int).toNat IntKind.u64.bits=((2:Nat):Int) from J,lQ _ pb];omega
def WE{c:ar}{l:ah}(h:c[k]? =some s):jC c l k=decide (cE s.l.dir l.dir<0):=by unfold jC;rw[h]
def YT{c:ar}{l:ah}(h:c[k]? =some s):Bc c l k=decide (cE s.l.dir l.dir=0):=by unfold Bc;rw[h]
def aL1{c:ar}{l:ah}(h: ¬k<c.length):Bc c l k=false:=by unfold Bc;rw[dR m5]
def aMU(h:i<j)(hp:p ((i+j)/2)=true):gG p i j=gG p ((i+j)/2+1) j:=by rw[gG,dif_pos h,if_pos hp]
def Vy(h:i<j)(hp: ¬p ((i+j)/2)=true):gG p i j=gG p i ((i+j)/2):=by rw[gG,dif_pos h,if_neg hp]
def Mg(h: ¬i<j:=by omega):gG p i j=i:=by rw[gG,dif_neg h]
theorem oml{p:Prop}(h:p:=by rw[hm]<;>rfl):p:=h
def Vv{c:ar}{l:ah}[hl:LB l](hc:fE c)(hn:c.length<=1000000):PF GB prog 308 [.sl (c.map dx),dt l, .v (.func (.func 309) #[] #[])] (.tp [vI (gG (jC c l) 0 c.length:Nat),vB (Bc c l (gG (jC c l) 0 c.length))]):=by
 have hm:=vj dx c;refine fn (fu:=⟨11⟩) func308 J J ntmps308 J J (fun C=>?_);refine aj 13 (.d (vI (c.length:Nat))) J oml<|gx J<|lp (X:=Nat×Nat) (fun⟨i,j⟩=>[(9, .d (vI (i:Nat))),(10, .d (vI (j:Nat)))]) (fun⟨i,j⟩=>[]) (fun⟨i,j⟩=>i<=j/\j<=c.length/\gG (jC c l) i j=gG (jC c l) 0 c.length) (fun⟨i,j⟩=>j-i) (0,c.length) J ⟨bK _,bW _,J⟩ (fun _=>J) (fun⟨i,j⟩ hk=>?_);dsimp only at hk⊢;obtain⟨h1,h2,h3⟩:=hk;refine br (fu1:=⟨10⟩) (fu2:=⟨11⟩) J J J (fun hc17=>?_) (fun hc17=>?_)
 .
  obtain⟨s,hs0⟩: ∃s,c[(i+j)/2]? =some s:=⟨_,aZ m5⟩;haveI:=(hc s (aW hs0)).lb;have hang:=WE (l:=l) hs0;refine aj 22 (.d (.v (.int .u64 ((i+j)/2:Nat)))) J (by rw[aBE])<|gx J<|ix _ J (cO hs0) J<|cl J (MT (s:=s) (l:=l)) J<|br J J J (fun hc31=>?_) (fun hc31=>?_)
  .
   exact at_ ((i+j)/2+1,j) (by dsimp only;exact⟨⟨m5,h2,by rw[<-h3,aMU (i:=i) (j:=j) m5 (by rw[hang];exact decide_eq_true hc31)]⟩,m5⟩)
  .
   exact at_ (i,(i+j)/2) (by dsimp only;exact⟨⟨m5,m5,by rw[<-h3,Vy (i:=i) (j:=j) m5 (by rw[hang,decide_eq_false hc31];exact Bool.false_ne_true)]⟩,m5⟩)
 .
  refine kC (v2:=fun hg39=>by simp only[ak];kernel_rfl) J J J J (fun hg39=>?_) (fun hg39=>?_)
  .
   have he:=Mg (p:=jC c l) (i:=i) (j:=j);obtain⟨s,hs0⟩: ∃s,c[i]? =some s:=⟨_,aZ m5⟩;haveI:=(hc s (aW hs0)).lb;refine ix _ J (cO hs0) J<|cl J (MT (s:=s) (l:=l)) J<|rz J (by rw[<-h3,he,YT hs0];rfl)
  .
   have he:=Mg (p:=jC c l) (i:=i) (j:=j);exact rz J (by rw[<-h3,he,aL1 m5];rfl)
def Si{l:ah}[LB l](hlo:l.ok): ∀{c:ar} {v w:ao},fE c->uA v->oD l c v=some w->uA w
 |[],v,w,_,hv,h=>by cases h;exact hv
 |s::t,v,w,hc,hv,h=>by
  haveI:=(hc s aQ).lb;simp only[oD] at h;split at h
  .exact Si hlo (fun x hx=>hc x (aJ _ hx)) (hv.cut hlo.1) h
  .cases h
def FH{l:ah}[LB l]: ∀{c:ar},fE c->fE (fk l c)
 |[],_,s,h=>by cases h
 |a::t,hc,s,h=>by
  have ha:=hc a aQ;haveI:=ha.lb;have ht:=FH (l:=l) (fun x hx=>hc x (aJ _ hx));unfold fk at h;split at h
  .rcases aV.1 h with rfl|h
   .exact⟨ha.lb,ha.ok,ha.v.cut ha.ok.1⟩
   .exact ht s h
  .exact ht s h
def tA{l:ah}[hl:LB l](hlo:l.ok){c:ar}(hc:fE c):fE (bH c l):=by
 unfold bH;split
 .rename_i v hv
  intro s hs;unfold me at hs;rcases aL.1 hs with h|h
  .exact FH hc s (dS h)
  .rcases aV.1 h with rfl|h
   .exact⟨hl,hlo,Si hlo hc .all hv⟩
   .exact FH hc s (gL h)
 .exact hc
def Uj{l:ah}{c:ar}(h:c[k]? =some s):fk l (c.drop k)=if s.l.cutB s.v l then⟨s.l,s.l.cutV s.v l⟩::fk l (c.drop (k+1)) else fk l (c.drop (k+1)):=by
 rw[Dn h];rfl
theorem omD{p:Prop}(h:p:=by rw[bX];rfl):p:=h
def JN{c:ar}{l:ah}[hl:LB l](hlo:l.ok)(hc:fE c)(hn:c.length<=100000):PF GB prog 280 [.sl (c.map dx),dt l] (.tp [.sl ((bH c l).map dx),vB (cH c l)]):=by
 have hm:=vj dx c;refine fn func280 J J ntmps280 J J (fun C=>?_);refine cl J (N5 (c:=c) (l:=l) hlo hc m5) J<|bb (fu2:=⟨6⟩) J J J (fun hc22=>?_) (fun hc22=>?_)
 .
  have hp:lc c l=none:=by simpa using hc22
  refine cl J (XC (c:=c) (l:=l) hlo hc m5) J<|rz J (by unfold bH cH;rw[hp];rfl)
 .
  obtain⟨v,hv⟩: ∃v,lc c l=some v:=rY.1 (by simpa using hc22);have hvd:HE (lc c l)=v:=by rw[hv];rfl
  rw[hvd];refine aj 29 (.d (vI (c.length:Nat))) J oml<|gx J<|mkc (fu:=⟨8⟩) (c.length+1) J J J<|aj 33 (.d (vI (c.length:Nat))) J oml<|gx J<|lp (X:=ar×Nat) (fun⟨o,k⟩=>[(34, .d (vI (k:Nat))),(8, .rw 31)]) (fun⟨o,k⟩=>[(31,some (.c 330 17 (o.map dx) (c.length+1)))]) (fun⟨o,k⟩=>k<=c.length/\o.length<=k/\o++fk l (c.drop k)=fk l c) (fun⟨o,k⟩=>c.length-k) ([],0) J ⟨bK _,bW _,J⟩ (fun _=>J) (fun⟨o,k⟩ hk=>?_);dsimp only at hk⊢;obtain⟨h1,h2,h3⟩:=hk;have hmo:=vj dx o;refine br J J J (fun hc35=>?_) (fun hc35=>?_)
  .
   obtain⟨s,hs0⟩: ∃s,c[k]? =some s:=⟨_,aZ m5⟩;have hs:=hc s (aW hs0);haveI:=hs.lb;haveI:=hs.v.lo;haveI:=hs.v.hi;refine ix _ J (cO hs0) J<|cl (fu:=⟨0⟩) J (PK (l:=s.l) (m:=l) (v:=s.v)) J<|?_;generalize hw:s.l.cutV s.v l=w;generalize hb:s.l.cutB s.v l=b;refine gx J<|bb J J J (fun hc47=>?_) (fun hc47=>?_)
   .
    refine rf J J<|W6 ((o++[bt.mk s.l w]).map dx) J omD (MW [bt.mk s.l w]) (by rw[hmo];simp;omega) J<|fI 54 31 J<|at_ (o++[bt.mk s.l w],k+1) (by dsimp only;exact⟨⟨m5,by simp;omega,by rw[<-h3,Uj hs0,hb,if_pos hc47,hw,dK];rfl⟩,m5⟩)
   .
    exact at_ (o,k+1) (by dsimp only;exact⟨⟨m5,m5,by rw[<-h3,Uj hs0,hb,if_neg (by simp[hc47])]⟩,m5⟩)
  .
   obtain rfl:k=c.length:=by omega
   have ho:o=fk l c:=by rw[<-h3,fR];simp[fk]
   subst ho;have hbl:=(CP (jC (fk l c) l) (fk l c).length 0 (fk l c).length m5 m5).2;refine cL J (Vv (c:=fk l c) (l:=l) (FH hc) m5) J J<|ro J J<|ci ((me (fk l c) l v).map dx) J (Yi (c:=fk l c) (x:=⟨l,v⟩) (i:=gG (jC (fk l c) l) 0 (fk l c).length) (cap:=c.length+1) hbl m5 m5) J J<|iH 68 J<|rz J (by unfold bH cH;rw[hv];rfl)
def Ig{c:ar}{l:ah}[hl:LB l](hlo:l.ok)(hc:fE c)(hn:c.length<=100000:=by omega):PF GB prog 269 [.sl (c.map dx),dt l] (.tp [.sl ((bH c l).map dx), .sl ((bH c l.rev).map dx),vB (cH c l),vB (cH c l.rev)]):=by
 refine fn func269 J J ntmps269 J J (fun C=>?_);refine cl J (JN (c:=c) (l:=l) hlo hc hn) J<|cl J (aIV (l:=l)) J<|cl J (JN (c:=c) (l:=l.rev) hlo.rev hc hn) J<|rz J J
def cU:Tr->List DV
 | .leaf b=>[vI 0,vI 0, .v (.pointer none),vI 0,vI 0, .v (.pointer none),vI 0,vI 0, .v (.pointer none), .v (.pointer none), .v (.pointer none), .v (.bool b)]
 | .node l x y=>[vI (ek (l.a:Rat)),vI (eo (l.a:Rat)),dH (l.a:Rat),vI (ek (l.b:Rat)),vI (eo (l.b:Rat)),dH (l.b:Rat),vI (ek (l.c:Rat)),vI (eo (l.c:Rat)),dH (l.c:Rat), .pt (cU x), .pt (cU y), .v (.bool false)]
def eU(t:Tr):DV:= .pt (cU t)
def uc{b:Bool}:PF GB prog 149 [.v (.bool b)] (eU (.leaf b)):=by
 refine fn func149 J J ntmps149 J J (fun C=>?_);refine iH 5 J<|rz J J
def Af{l:ah}:PF GB prog 211 [dt l,eU x,eU y] (eU (.node l x y)):=by
 refine fn func211 J J ntmps211 J J (fun C=>?_);refine iH 11 J<|rz J J
def pq{b:Bool}:PF GB prog 140 [eU (.leaf b)] (.v (.bool true)):=by
 refine fn func140 J J ntmps140 J J (fun C=>?_);exact rz J J
def pc{l:ah}:PF GB prog 140 [eU (.node l x y)] (.v (.bool false)):=by
 refine fn func140 J J ntmps140 J J (fun C=>?_);exact rz J J
def aAH{l:ah}:PF GB prog 270 [dt l,eU (.node l1 x y),eU u] (eU (.node l (.node l1 x y) u)):=by
 refine fn func270 J J ntmps270 J J (fun C=>?_);refine cl (fu:=⟨0⟩) J pc J<|c9 J J J<|cl J Af J<|rz J J
def azx{l:ah}{p:Bool}:PF GB prog 270 [dt l,eU (.leaf p),eU (.node l1 x y)] (eU (.node l (.leaf p) (.node l1 x y))):=by
 refine fn func270 J J ntmps270 J J (fun C=>?_);refine cl (fu:=⟨0⟩) J pq J<|d7 J J J<|cl (fu:=⟨1⟩) J pc J<|c9 J J J<|cl J Af J<|rz J J
def aw0{l:ah}{p q:Bool}:PF GB prog 270 [dt l,eU (.leaf p),eU (.leaf q)] (eU (Tr.joinQ l (.leaf p) (.leaf q))):=by
 refine fn func270 J J ntmps270 J J (fun C=>?_);refine cl (fu:=⟨0⟩) J pq J<|d7 J J J<|cl (fu:=⟨1⟩) J pq J<|d7 J J J<|bb J J J (fun hc23=>?_) (fun hc23=>?_)
 .
  exact rz J (by rw[show Tr.joinQ l (.leaf p) (.leaf q)= .leaf p by simp[Tr.joinQ,Tr.isLeaf,Tr.code,hc23]];rfl)
 .
  refine cl J Af J<|rz J (by rw[show Tr.joinQ l (.leaf p) (.leaf q)= .node l (.leaf p) (.leaf q) by simp[Tr.joinQ,Tr.isLeaf,Tr.code,hc23]];rfl)
def MS{l:ah}: ∀{x y:Tr},PF GB prog 270 [dt l,eU x,eU y] (eU (Tr.joinQ l x y))
 | .leaf _, .leaf _=>aw0
 | .leaf _, .node .. =>azx
 | .node ..,_=>aAH
def aoE{b:Bool}:PF GB prog 143 [eU (.leaf b)] (vI (Tr.depth (.leaf b):Nat)):=by
 refine fn func143 J J ntmps143 J J (fun C=>?_);refine cl (fu:=⟨0⟩) J pq J<|mo 4 J<|gx J<|rz J J
def aoC{l:ah}(hd:(Tr.node l x y).depth<=1000000)(ihx:PF GB prog 143 [eU x] (vI (Tr.depth x:Nat)))(ihy:PF GB prog 143 [eU y] (vI (Tr.depth y:Nat))):PF GB prog 143 [eU (.node l x y)] (vI (Tr.depth (.node l x y):Nat)):=by
 have hdp:(Tr.node l x y).depth=1+max x.depth y.depth:=J;have hdx:=rL x.depth y.depth;have hdy:=qN x.depth y.depth;refine fn func143 J J ntmps143 J J (fun C=>?_);refine cl (fu:=⟨0⟩) J pc J<|p6 4 J<|gx J<|cl J ihx J<|cl (hv:=by simp only[ak];exact⟨m5,v6⟩) J ihy J<|rz J (by show DV.v (.int _ _)= .v (.int _ _);congr 2;split<;>omega)
def z6: ∀{t:Tr},t.depth<=1000000->PF GB prog 143 [eU t] (vI (Tr.depth t:Nat))
 | .leaf _,_=>aoE
 | .node l x y,h=>aoC h (z6 (by have:=rL x.depth y.depth;have:(Tr.node l x y).depth=1+max x.depth y.depth:=J;omega)) (z6 (by have:=qN x.depth y.depth;have:(Tr.node l x y).depth=1+max x.depth y.depth:=J;omega))
def Yf{b:Bool}{c:ar}:PF GB prog 214 [eU (.leaf b), .sl (c.map dx)] (eU (Tr.restrict (.leaf b) c)):=by
 refine fn func214 J J ntmps214 J J (fun C=>?_);refine cl (fu:=⟨0⟩) J pq J<|mo 10 J<|gx J<|rz J J
def akU{l:ah}{c:ar}(hl:LB l)(hlo:l.ok)(hc:fE c)(hn:c.length+(Tr.node l x y).depth<=100000)(ihx: ∀{c:ar},fE c->c.length+x.depth<=100000->PF GB prog 214 [eU x, .sl (c.map dx)] (eU (Tr.restrict x c)))(ihy: ∀{c:ar},fE c->c.length+y.depth<=100000->PF GB prog 214 [eU y, .sl (c.map dx)] (eU (Tr.restrict y c))):PF GB prog 214 [eU (.node l x y), .sl (c.map dx)] (eU (Tr.restrict (.node l x y) c)):=by
 have hdp:(Tr.node l x y).depth=1+max x.depth y.depth:=J;have hdx:=rL x.depth y.depth;have hdy:=qN x.depth y.depth;have hca:=uB c l;have hcb:=uB c l.rev;refine fn func214 J J ntmps214 J J (fun C=>?_);refine cl (fu:=⟨0⟩) J pc J<|p6 10 J<|gx J<|cl J (Ig (c:=c) (l:=l) hlo hc) J<|bb J J J (fun hc23=>?_) (fun hc23=>?_)
 .
  refine cl J (ihx hc m5) J<|rz J (by rw[Tr.restrict,if_pos hc23];rfl)
 .
  refine bb J J J (fun hc32=>?_) (fun hc32=>?_)
  .
   refine cl J (ihy hc m5) J<|rz J (by rw[Tr.restrict,if_neg (by simp[hc23]),if_pos hc32];rfl)
  .
   refine cl J (ihx (c:=bH c l) (tA hlo hc) m5) J<|cl J (ihy (c:=bH c l.rev) (tA hlo.rev hc) m5) J<|cl J MS J<|rz J (by rw[Tr.restrict,if_neg (by simp[hc23]),if_neg (by simp[hc32])];rfl)
def pp: ∀{t:Tr} {c:ar},t.all LB->t.all ah.ok->fE c->c.length+t.depth<=100000->PF GB prog 214 [eU t, .sl (c.map dx)] (eU (Tr.restrict t c))
 | .leaf _,_,_,_,_,_=>Yf
 | .node l x y,c,hb,ho,hc,hn=>akU hb.1 ho.1 hc hn (fun h1 h2=>pp hb.2.1 ho.2.1 h1 h2) (fun h1 h2=>pp hb.2.2 ho.2.2 h1 h2)
def Ug(hb:t.all LB)(ho:t.all ah.ok)(hd:t.depth<=100000:=by omega):PF GB prog 144 [eU t] (eU (t.restrict [])):=by
 refine fn func144 J J ntmps144 J J (fun C=>?_);refine cl J (pp (t:=t) (c:=[]) hb ho (fun s h=>by cases h) (by simpa using hd)) J<|rz J J
def Tr.compl:Tr->Tr
 | .leaf b=> .leaf !b
 | .node l x y=> .node l x.compl y.compl
def Tr.chooseQ(op:Int)(b:Bool)(t:Tr)(c:ar):Tr:=
 if op=1\/op=2 then(if b=decide (op=1) then .leaf b else t.restrict c)
 else if op=3/\b=false then .leaf false
 else if b then(t.restrict c).compl else t.restrict c
def Tr.mergeQ(op:Int):Tr->Tr->ar->Tr
 | .leaf b,u,c=>u.chooseQ op b c
 | .node l x y,u,c=>if !cH c l.rev then x.mergeQ op u c else if !cH c l then y.mergeQ op u c else joinQ l (x.mergeQ op u (bH c l)) (y.mergeQ op u (bH c l.rev))
def apk{b:Bool}:PF GB prog 302 [eU (.leaf b)] (eU (Tr.compl (.leaf b))):=by
 refine fn func302 J J ntmps302 J J (fun C=>?_);refine cl (fu:=⟨0⟩) J pq J<|mo 4 J<|gx J<|cl J uc J<|rz J J
def Xc{l:ah}(ihx:PF GB prog 302 [eU x] (eU (Tr.compl x)))(ihy:PF GB prog 302 [eU y] (eU (Tr.compl y))):PF GB prog 302 [eU (.node l x y)] (eU (Tr.compl (.node l x y))):=by
 refine fn func302 J J ntmps302 J J (fun C=>?_);refine cl (fu:=⟨0⟩) J pc J<|p6 4 J<|gx J<|cl J ihx J<|cl J ihy J<|cl J (Af (l:=l) (x:=x.compl) (y:=y.compl)) J<|rz J J
def zR: ∀{t:Tr},PF GB prog 302 [eU t] (eU (Tr.compl t))
 | .leaf _=>apk
 | .node _ _ _=>Xc zR zR
theorem omf{p:Prop}(h:p:=by unfold Tr.chooseQ;simp_all [gg]<;>omega):p:=h
def aAZ{b:Bool}{c:ar}(hb:t.all LB)(ho:t.all ah.ok)(hc:fE c)(hn:c.length+t.depth<=100000):PF GB prog 268 [vI op, .v (.bool b),eU t, .sl (c.map dx)] (eU (t.chooseQ op b c)):=by
 refine fn func268 J J ntmps268 J J (fun C=>?_);refine br J J J (fun hc10=>?_) (fun hc10=>?_)
 .
  refine br J J J (fun hc10=>?_) (fun hc10=>?_)
  .
   refine bb J J J (fun hc18=>?_) (fun hc18=>?_)
   .
    refine cl J uc J<|rz J omf
   .
    refine cl J (pp v7 v7 v7 m5) J<|rz J omf
  .
   refine br J J J (fun hc13=>?_) (fun hc13=>?_)
   .
    refine bb J J J (fun hc22=>?_) (fun hc22=>?_)
    .
     refine cl J uc J<|rz J omf
    .
     refine bb J J J (fun hc24=>?_) (fun hc24=>?_)
     .
      refine cl J (pp v7 v7 v7 m5) J<|cl J (zR (t:=t.restrict c)) J<|rz J omf
     .
      refine cl J (pp v7 v7 v7 m5) J<|rz J omf
   .
    refine bb J J J (fun hc24=>?_) (fun hc24=>?_)
    .
     refine cl J (pp v7 v7 v7 m5) J<|cl J (zR (t:=t.restrict c)) J<|rz J omf
    .
     refine cl J (pp v7 v7 v7 m5) J<|rz J omf
 .
  refine br J J J (fun hc10=>?_) (fun hc10=>?_)
  .
   refine bb J J J (fun hc18=>?_) (fun hc18=>?_)
   .
    refine cl J uc J<|rz J omf
   .
    refine cl J (pp v7 v7 v7 m5) J<|rz J omf
  .
   refine br J J J (fun hc13=>?_) (fun hc13=>?_)
   .
    refine bb J J J (fun hc22=>?_) (fun hc22=>?_)
    .
     refine cl J uc J<|rz J omf
    .
     refine bb J J J (fun hc24=>?_) (fun hc24=>?_)
     .
      refine cl J (pp v7 v7 v7 m5) J<|cl J (zR (t:=t.restrict c)) J<|rz J omf
     .
      refine cl J (pp v7 v7 v7 m5) J<|rz J omf
   .
    refine bb J J J (fun hc24=>?_) (fun hc24=>?_)
    .
     refine cl J (pp v7 v7 v7 m5) J<|cl J (zR (t:=t.restrict c)) J<|rz J omf
    .
     refine cl J (pp v7 v7 v7 m5) J<|rz J omf
def aqh{b:Bool}{c:ar}(hbu:u.all LB)(hou:u.all ah.ok)(hc:fE c)(hn:c.length+u.depth<=100000):PF GB prog 212 [vI op,eU (.leaf b),eU u, .sl (c.map dx)] (eU (Tr.mergeQ op (.leaf b) u c)):=by
 refine fn func212 J J ntmps212 J J (fun C=>?_);refine cl (fu:=⟨0⟩) J pq J<|mo 14 J<|gx J<|cl J (aAZ (t:=u) hbu hou hc hn) J<|rz J J
def aou{l:ah}{c:ar}(hl:LB l)(hlo:l.ok)(hc:fE c)(hn:c.length+(Tr.node l x y).depth+u.depth<=100000)(ihx: ∀{c:ar},fE c->c.length+x.depth+u.depth<=100000->PF GB prog 212 [vI op,eU x,eU u, .sl (c.map dx)] (eU (Tr.mergeQ op x u c)))(ihy: ∀{c:ar},fE c->c.length+y.depth+u.depth<=100000->PF GB prog 212 [vI op,eU y,eU u, .sl (c.map dx)] (eU (Tr.mergeQ op y u c))):PF GB prog 212 [vI op,eU (.node l x y),eU u, .sl (c.map dx)] (eU (Tr.mergeQ op (.node l x y) u c)):=by
 have hdp:(Tr.node l x y).depth=1+max x.depth y.depth:=J;have hdx:=rL x.depth y.depth;have hdy:=qN x.depth y.depth;have hca:=uB c l;have hcb:=uB c l.rev;refine fn func212 J J ntmps212 J J (fun C=>?_);refine cl (fu:=⟨0⟩) J pc J<|p6 14 J<|gx J<|cl J (Ig (c:=c) (l:=l) hlo hc) J<|bb J J J (fun hc34=>?_) (fun hc34=>?_)
 .
  refine cl J (ihx hc m5) J<|rz J (by rw[Tr.mergeQ,if_pos hc34];rfl)
 .
  refine bb J J J (fun hc45=>?_) (fun hc45=>?_)
  .
   refine cl J (ihy hc m5) J<|rz J (by rw[Tr.mergeQ,if_neg (by simp[hc34]),if_pos hc45];rfl)
  .
   refine cl J (ihx (c:=bH c l) (tA hlo hc) m5) J<|cl J (ihy (c:=bH c l.rev) (tA hlo.rev hc) m5) J<|cl J MS J<|rz J (by rw[Tr.mergeQ,if_neg (by simp[hc34]),if_neg (by simp[hc45])];rfl)
def IU{op:Int}{u:Tr}(hbu:u.all LB)(hou:u.all ah.ok): ∀{t:Tr} {c:ar},t.all LB->t.all ah.ok->fE c->c.length+t.depth+u.depth<=100000->PF GB prog 212 [vI op,eU t,eU u, .sl (c.map dx)] (eU (Tr.mergeQ op t u c))
 | .leaf _,_,_,_,hc,hn=>aqh hbu hou hc (by simp only[Tr.depth] at hn;omega)
 | .node l x y,c,hb,ho,hc,hn=>aou hb.1 ho.1 hc hn (fun h1 h2=>IU hbu hou hb.2.1 ho.2.1 h1 h2) (fun h1 h2=>IU hbu hou hb.2.2 ho.2.2 h1 h2)
def uS(n:Bool)(ds:List Nat):Prop:=gi ds/\(n=true->0<ds.length)
instance (n:Bool) (ds:List Nat):Decidable (uS n ds):=inferInstanceAs (Decidable (_/\_))
structure RL where
 na:Bool
 da:List Nat
 nb:Bool
 db:List Nat
 nc:Bool
 dc:List Nat
def RL.d(r:RL):DV:= .ag [.v (.bool r.na),et r.da, .v (.bool r.nb),et r.db, .v (.bool r.nc),et r.dc]
def sh(n:Bool)(ds:List Nat):Int:=if n then-(dv ds:Int) else dv ds
def RL.l(r:RL):ah:=⟨sh r.na r.da,sh r.nb r.db,sh r.nc r.dc⟩
def RL.nm(r:RL):Prop:=uS r.na r.da/\uS r.nb r.db/\uS r.nc r.dc
instance (l:ah):Decidable l.ok:=inferInstanceAs (Decidable (_/\_))
instance (r:RL):Decidable r.nm:=inferInstanceAs (Decidable (_/\_/\_))
structure RL.sm (r:RL):Prop where
 a:bF r.da/\r.da.length<=3
 b:bF r.db/\r.db.length<=3
 c:bF r.dc/\r.dc.length<=3
def VJ(n:Bool)(ds:List Nat):(sh n ds).natAbs=dv ds:=by unfold sh;cases n<;>simp
theorem RL.lb{r:RL}(s:r.sm):LB r.l:=by
 have key: ∀(n:Bool) (ds:List Nat),bF ds/\ds.length<=3->(sh n ds).natAbs<2^96:=fun n ds h=>by
  rw[VJ];refine cN (nq h.1) ?_;rw[show(2:Nat)^96=4294967296^3 by decide];exact bT pb h.2
 exact⟨key _ _ s.a,key _ _ s.b,key _ _ s.c⟩
def uF(n:Nat)(f:Nat->Bool):List Value:=(List.range n).map fun j=> .bool (f j)
def yy(f:Nat->Bool)(i:Nat):Nat->Bool:=fun j=>f j||Nat.beq j i
def Rr(n:Nat)(f:Nat->Bool):(uF n f).length=n:=by simp[uF]
def J1{n:Nat}{b:Bool}(h:i<n)(hf:f i=b):(uF n f)[i]? =some (.bool b):=by simp[uF,h,hf]
def aEN(e:j≠i):yy f i j=f j:=by
 unfold yy
 cases hb:Nat.beq j i with
 |false=>rw[Bool.or_false]
 |true=>exact absurd (bQ hb) e
def We:yy f i i=true:=by
 unfold yy;rw[oL,sS]
def Zh(n i:Nat)(f:Nat->Bool):(uF n f).set i (.bool true)=uF n (yy f i):=by
 apply kL;intro j;rw[qW];simp only[uF,aX,lT,cZ];by_cases hj:j<n
 .rw[pJ hj]
  simp only[kU];by_cases e:i=j
  .subst e;simp[hj,We]
  .rw[aEN (fun h=>e h.symm)];simp[e]
 .rw[dR omK]
  by_cases e:i=j
  .subst e;simp[hj]
  .simp[e]
def S5(n:Nat):du (.bool false) n=uF n (fun _=>false):=by
 apply kL;intro j;by_cases hj:j<n
 .rw[J1 hj J]
  unfold du;rw[Hg (aH (.bool false)) n j (by simpa[aH] using hj)];simp[aH,Nat.mod_one]
 .rw[dR (by rw[oP];simp[aH];omega),dR (by rw[Rr];omega)]
structure RN where
 g:RL
 l:Int
 r:Int
def RN.d(n:RN):DV:= .ag [.v (.bool n.g.na),et n.g.da, .v (.bool n.g.nb),et n.g.db, .v (.bool n.g.nc),et n.g.dc, .v (.int .i64 n.l), .v (.int .i64 n.r)]
def zi{v:Value}(h:Is G (dH q) v): ∃p,v= .pointer p:=by
 rcases vg.1 h with⟨_,h⟩|⟨_,h⟩
 .exact⟨_,h⟩
 .obtain⟨b,m,h,_⟩:=mO.1 h;exact⟨_,h⟩
def aJy{l:ah}{v:Value}(h:Is G (dt l) v): ∃n1 d1 p1 n2 d2 p2 n3 d3 p3,v= .agg ⟨[.int .i64 n1, .int .i64 d1, .pointer p1, .int .i64 n2, .int .i64 d2, .pointer p2, .int .i64 n3, .int .i64 d3, .pointer p3]⟩:=by
 obtain⟨m,rfl,g⟩:=eD.1 h;clear h;obtain⟨v1,m,rfl,h1,h⟩:=bj.1 g;obtain⟨v2,m,rfl,h2,h⟩:=bj.1 h;obtain⟨v3,m,rfl,h3,h⟩:=bj.1 h;obtain⟨v4,m,rfl,h4,h⟩:=bj.1 h;obtain⟨v5,m,rfl,h5,h⟩:=bj.1 h;obtain⟨v6,m,rfl,h6,h⟩:=bj.1 h;obtain⟨v7,m,rfl,h7,h⟩:=bj.1 h;obtain⟨v8,m,rfl,h8,h⟩:=bj.1 h;obtain⟨v9,m,rfl,h9,h⟩:=bj.1 h;rw[fj] at h;subst h;obtain⟨_,rfl⟩:=zi h3;obtain⟨_,rfl⟩:=zi h6;obtain⟨_,rfl⟩:=zi h9;rw[aO.1 h1,aO.1 h2,aO.1 h4,aO.1 h5,aO.1 h7,aO.1 h8];exact⟨_,_,_,_,_,_,_,_,_,J⟩
def aMA{n:RN}{v:Value}(h:Is G n.d v): ∃x1 x2 x3:SV,v= .agg ⟨[.bool n.g.na, .slice x1.a x1.n x1.c, .bool n.g.nb, .slice x2.a x2.n x2.c, .bool n.g.nc, .slice x3.a x3.n x3.c, .int .i64 n.l, .int .i64 n.r]⟩/\
  Is G n.g.d (.agg ⟨[.bool n.g.na, .slice x1.a x1.n x1.c, .bool n.g.nb, .slice x2.a x2.n x2.c, .bool n.g.nc, .slice x3.a x3.n x3.c]⟩):=by
 obtain⟨m,rfl,g⟩:=eD.1 h;clear h;obtain⟨v1,m,rfl,h1,h⟩:=bj.1 g;obtain⟨v2,m,rfl,h2,h⟩:=bj.1 h;obtain⟨v3,m,rfl,h3,h⟩:=bj.1 h;obtain⟨v4,m,rfl,h4,h⟩:=bj.1 h;obtain⟨v5,m,rfl,h5,h⟩:=bj.1 h;obtain⟨v6,m,rfl,h6,h⟩:=bj.1 h;obtain⟨v7,m,rfl,h7,h⟩:=bj.1 h;obtain⟨v8,m,rfl,h8,h⟩:=bj.1 h;rw[fj] at h;subst h;obtain⟨_,x1,_,rfl,_,_⟩:=il.1 (id h2);obtain⟨_,x2,_,rfl,_,_⟩:=il.1 (id h4);obtain⟨_,x3,_,rfl,_,_⟩:=il.1 (id h6)
 cases aO.1 h1;cases aO.1 h3;cases aO.1 h5;cases aO.1 h7;cases aO.1 h8
 exact⟨x1,x2,x3,J,eD.2 ⟨_,J, .cons h1 (.cons h2 (.cons h3 (.cons h4 (.cons h5 (.cons h6 .nil)))))⟩⟩
def xu{v:Value}(h:Is G (eU t) v): ∃p,v= .pointer p:=by
 obtain⟨b,m,h,_⟩:=mO.1 h;exact⟨_,h⟩
def PF.fn0{f:FuncId}{r:DV}(h: ∀{GB:Gh},PF GB P f ds r)(hv:IsLs G ds vs):Fn P f vs G (fun v G'=>Is G' r v):=h (GB:=G) G vs (b9.refl G) hv
def Z'(rt:Int)(ns:List RN):DV:= .ag [vI rt, .sl (ns.map RN.d)]
def R3{l:ah}{m:List Value}(h:IsLs G (cU (.node l x y)) m): ∃n1 d1 p1 n2 d2 p2 n3 d3 p3 q r,m=[.int .i64 n1, .int .i64 d1, .pointer p1, .int .i64 n2, .int .i64 d2, .pointer p2, .int .i64 n3, .int .i64 d3, .pointer p3, .pointer q, .pointer r, .bool false]/\
  Is G (dt l) (.agg ⟨[.int .i64 n1, .int .i64 d1, .pointer p1, .int .i64 n2, .int .i64 d2, .pointer p2, .int .i64 n3, .int .i64 d3, .pointer p3]⟩)/\Is G (eU x) (.pointer q)/\Is G (eU y) (.pointer r):=by
 obtain⟨v1,m,rfl,h1,h⟩:=bj.1 h;obtain⟨v2,m,rfl,h2,h⟩:=bj.1 h;obtain⟨v3,m,rfl,h3,h⟩:=bj.1 h;obtain⟨v4,m,rfl,h4,h⟩:=bj.1 h;obtain⟨v5,m,rfl,h5,h⟩:=bj.1 h;obtain⟨v6,m,rfl,h6,h⟩:=bj.1 h;obtain⟨v7,m,rfl,h7,h⟩:=bj.1 h;obtain⟨v8,m,rfl,h8,h⟩:=bj.1 h;obtain⟨v9,m,rfl,h9,h⟩:=bj.1 h;obtain⟨va,m,rfl,ha,h⟩:=bj.1 h;obtain⟨vb,m,rfl,hb,h⟩:=bj.1 h;obtain⟨vc,m,rfl,hc,h⟩:=bj.1 h;rw[fj] at h;subst h;obtain⟨_,rfl⟩:=zi h3;obtain⟨_,rfl⟩:=zi h6;obtain⟨_,rfl⟩:=zi h9;obtain⟨_,rfl⟩:=xu ha;obtain⟨_,rfl⟩:=xu hb
 cases aO.1 h1;cases aO.1 h2;cases aO.1 h4;cases aO.1 h5;cases aO.1 h7;cases aO.1 h8;cases aO.1 hc
 exact⟨_,_,_,_,_,_,_,_,_,_,_,J,eD.2 ⟨_,J, .cons h1 (.cons h2 (.cons h3 (.cons h4 (.cons h5 (.cons h6 (.cons h7 (.cons h8 (.cons h9 .nil))))))))⟩,ha,hb⟩
def aFs{b:Bool}{m:List Value}(h:IsLs G (cU (.leaf b)) m):m=[.int .i64 0, .int .i64 0, .pointer none, .int .i64 0, .int .i64 0, .pointer none, .int .i64 0, .int .i64 0, .pointer none, .pointer none, .pointer none, .bool b]:=by
 obtain⟨v1,m,rfl,h1,h⟩:=bj.1 h;obtain⟨v2,m,rfl,h2,h⟩:=bj.1 h;obtain⟨v3,m,rfl,h3,h⟩:=bj.1 h;obtain⟨v4,m,rfl,h4,h⟩:=bj.1 h;obtain⟨v5,m,rfl,h5,h⟩:=bj.1 h;obtain⟨v6,m,rfl,h6,h⟩:=bj.1 h;obtain⟨v7,m,rfl,h7,h⟩:=bj.1 h;obtain⟨v8,m,rfl,h8,h⟩:=bj.1 h;obtain⟨v9,m,rfl,h9,h⟩:=bj.1 h;obtain⟨va,m,rfl,ha,h⟩:=bj.1 h;obtain⟨vb,m,rfl,hb,h⟩:=bj.1 h;obtain⟨vc,m,rfl,hc,h⟩:=bj.1 h;rw[fj] at h;subst h
 cases aO.1 h1;cases aO.1 h2;cases aO.1 h3;cases aO.1 h4;cases aO.1 h5;cases aO.1 h6;cases aO.1 h7;cases aO.1 h8;cases aO.1 h9;cases aO.1 ha;cases aO.1 hb;cases aO.1 hc
 rfl
theorem okA{p:Prop}(h:p:=by rfl):p:=h
theorem okT{p:Prop}(h:p:=by rw[aX];omega):p:=h
def Iu: ∀{t:Tr} {A A2 G:Gh} {p:Option Addr} {ob wb:Nat} {lo lo2:Bool} {x:SV} {zs:List ND} {ns:List NQ} {B:List aA},Is A (eU t) (.pointer p)->t.all LB->[GL A G]->[GL A2 G]->jo 8 233 x (zs.map ND.val) B->i8 (ul 96 A2) zs ns->zs.length+t.size<=1000000->
  iO prog 139 [.pointer p, .pointer (some ⟨ob,0,none⟩), .pointer (some ⟨wb,0,none⟩)] (⟨ob,[.int .i64 0, .slice x.a x.n x.c],69,lo⟩::⟨wb,[qc ob wb],241,lo2⟩::B) G
   (fun v own' G'=> ∃x' zs' B',v= .int .i64 (t.num zs.length)/\own'=⟨ob,[.int .i64 0, .slice x'.a x'.n x'.c],69,false⟩::⟨wb,[qc ob wb],241,false⟩::B'/\jo 8 233 x' (zs'.map ND.val) B'/\i8 (ul 96 G') zs' (ns++t.wr zs.length))
 | .leaf bb,A,A2,G,p,ob,wb,lo,lo2,x,zs,ns,B,h,_,_,_,hB,hz,hle=>by
  obtain⟨n,m,e,hg,hm⟩:=mO.1 (id h)
  cases e
  cases aFs hm
  have hG:uW A n _:=⟨hg⟩;have hz':i8 (ul 96 G) zs (ns++[]):=by rw[fT];exact hz.imp fun _ _ h=>h.up
  refine iO.intro func139 J J ntmps139 J ?_;intro C _ _;show St C _ _ (⟨ob,[.int .i64 0, .slice x.a x.n x.c],69,false⟩::⟨wb,[qc ob wb],241,false⟩::asB B) _ _;refine sR<|sa J J<|zE<|gh<|sR<|sm J J<|?_;refine sc (zC J J (PF.fn0 pq (.cons (h.up GL.le) .nil)) J ?_);rintro _ G1 _ hv
  cases aO.1 hv
  refine zE<|vq J<|?_;refine gh<|sR<|sm J J<|sn J J<|sf J J<|VA J J J<|zE<|?_
  cases bb
  case true=>
   refine vq J<|sR<|sa J J<|zE<|ml<|?_;exact yb (.tmp J .nil) _ _ (List.Perm.refl _) (List.Sublist.refl _) ⟨x,zs,_,J,J,hB.asB,hz'.imp fun _ _ h=>h.up⟩
  refine td J<|zK<|sR<|sa J J<|zE<|ml<|?_;exact yb (.tmp J .nil) _ _ (List.Perm.refl _) (List.Sublist.refl _) ⟨x,zs,_,J,J,hB.asB,hz'.imp fun _ _ h=>h.up⟩
 | .node l s u,A,A2,G,p,ob,wb,lo,lo2,x,zs,ns,B,h,hall,_,_,hB,hz,hle=>by
  obtain⟨hlb,hall1,hall2⟩:=id hall;haveI:LB l:=hlb;obtain⟨n,m,e,hg,hm⟩:=mO.1 (id h)
  cases e
  obtain⟨n1,d1,p1,n2,d2,p2,n3,d3,p3,q,r,rfl,hzl,hs,hu⟩:=R3 hm;have hG:uW A n _:=⟨hg⟩;have hxn:=hB.len;have hzn:=hz.len;simp only[Tr.size] at hle;obtain⟨xa,xn,xc⟩:=x;rw[aX] at hxn;simp only[] at hxn;subst hxn;refine iO.intro func139 J J ntmps139 J ?_;intro C _ _;show St C _ _ (⟨ob,[.int .i64 0, .slice xa zs.length xc],69,false⟩::⟨wb,[qc ob wb],241,false⟩::asB B) _ _;replace hB:=hB.asB;generalize asB B=B at hB;refine sR<|sa J J<|zE<|gh<|sR<|sm J J<|?_;refine sc (zC J J (PF.fn0 pc (.cons (h.up GL.le) .nil)) J ?_);rintro _ G1 _ hv
  cases aO.1 hv
  refine zE<|td J<|?_;refine zK<|sR<|sf J J<|oO J J J<|uL J J<|sa J J<|zE<|gh<|?_;refine vL [⟨ob,[.int .i64 0, .slice xa zs.length xc],69,false⟩] (fun i=>Nat.beq i 11) [(0,true),(1,true),(2,true),(3,true),(4,true),(5,true),(6,false),(7,true),(8,false),(9,false),(10,true),(11,false)] follows v6<|?_;refine dF J J J<|rA J J J J<|dM J J J<|dy J (fun _=>o9 J) J J<|?_;refine dF J J J<|dy J (fun _=>DS J wT J) J J<|?_;refine dc J J (zC J J (PF.fn0 (aIr (l:=l)) (.cons (hzl.up GL.le) .nil)) J ?_);rintro _ G2 _ hv;obtain⟨ia,ib,ic,rfl,hia,hib,hic⟩:=X8 hlb.bl hv;refine ng<|dy J (fun _=>xi J) J J<|?_;refine dc J J (SM J okA okA pb pb J ?_);intro b3;refine ng<|?_;refine dc J J (XZ (v:=ND.val ⟨ia,ib,ic,0,0⟩) (vs:=zs.map ND.val) [_,_,_] rfl hB J J (z' inferInstance J) J (ND.flat [⟨ia,ib,ic,0,0⟩] _ aQ) pb okT J J ?_);intro x1 B1 hB1;rw[show zs.map ND.val++[ND.val ⟨ia,ib,ic,0,0⟩]=(zs++[(⟨ia,ib,ic,0,0⟩:ND)]).map ND.val by simp] at hB1;show St C _ _ (⟨b3,_,_,true⟩::⟨ob,[.int .i64 0, .slice xa zs.length xc],69,false⟩::⟨wb,[qc ob wb],241,false⟩::B1) _ _;refine ng<|dF J J J<|?_;refine dc J J (y4 (cs':=[.int .i64 0, .slice x1.a x1.n x1.c]) J J J (.tl _ _ _ _ _ _ _ _ (.hd ..)) (nb J) J J ?_);refine ZM J<|dn<|?_;refine Qj _ (nS _ _) ?_;have hz1:i8 (ul 96 G2) (zs++[(⟨ia,ib,ic,0,0⟩:ND)]) (ns++[⟨l,0,0⟩]):=(hz.imp fun _ _ h=>h.up).app (.cons ⟨hia,hib,hic,J,J⟩ .nil);refine gh<|vL [⟨wb,[qc ob wb],241,false⟩] (fun _=>false) [(0,true),(1,true),(2,true),(3,true),(4,true),(5,false),(6,true)] follows v6<|?_
  refine rA J J J J<|dM J J J<|dy J (fun _=>o9 J) J J<|dF J J J<|dy J (fun _=>te J wT J) J J<|?_;refine dc J J (AY (c1:=[]) (M:=_::_::B1) (rest:=[]) J J (by rw[fT]) (Iu (lo:=false) (lo2:=false) hs hall1 hB1 hz1 omg) J ?_);rintro _ _ G3 fl _ hf _ ⟨x2,LW,B2,rfl,rfl,hB2,hz2⟩;have e1:fl ob=false:=hf _ aQ J;have e2:fl wb=false:=hf _ (aJ _ aQ) J;replace hB2:=hB2.relo fl;refine Hz (own':=⟨ob,[.int .i64 0, .slice x2.a x2.n x2.c],69,false⟩::⟨wb,[qc ob wb],241,false⟩::B2.map (relo fl)) (by simp only[bY,relo,e1,e2,fT]) ?_;generalize B2.map (relo fl)=B2 at hB2;have hl2:=hz2.len;simp only[aU,Tr.wr_len,iJ] at hl2;refine ng<|dA J J J<|dn<|gh<|vL [⟨wb,[qc ob wb],241,false⟩] (fun _=>false) [(0,true),(1,true),(2,true),(3,true),(4,true),(5,false),(6,true)] follows v6<|?_;refine rA J J J J<|dM J J J<|dy J (fun _=>o9 J) J J<|dF J J J<|dy J (fun _=>te J wT J) J J<|?_;refine dc J J (AY (c1:=[]) (M:=_::_::B2) (rest:=[]) J J (by rw[fT]) (Iu (lo:=false) (lo2:=false) hu hall2 hB2 hz2 m5) J ?_);rintro _ _ G4 fl _ hf _ ⟨x3,zF,B3,rfl,rfl,hB3,hz3⟩;have e3:fl ob=false:=hf _ aQ J;have e4:fl wb=false:=hf _ (aJ _ aQ) J;replace hB3:=hB3.relo fl;refine Hz (own':=⟨ob,[.int .i64 0, .slice x3.a x3.n x3.c],69,false⟩::⟨wb,[qc ob wb],241,false⟩::B3.map (relo fl)) (by simp only[bY,relo,e3,e4,fT]) ?_;generalize B3.map (relo fl)=B3 at hB3;have hl3:=hz3.len;simp only[aU,Tr.wr_len,iJ] at hl3;have hn3:zs.length<zF.length:=by omega
  rcases hB3 with⟨h1,_,_⟩|⟨nb,rest,lo3,hx3,rfl,hf1,hf2,hf3⟩
  .have:=congrArg List.length h1;rw[aX,eK] at this;omega
  obtain⟨x3a,x3n,x3c⟩:=x3;simp only[SV.mk.injEq] at hx3;obtain⟨rfl,rfl,_⟩:=hx3;rw[aX] at hf3;have hzz:ns.length=zs.length:=hzn.symm;obtain⟨zn,hzn1,hzn2⟩:=hz3.get (i:=zs.length) (b:=⟨l,0,0⟩) (by rw[dK,dK,<-hzz,fN (bW _),qS];rfl);obtain⟨_,hzn3⟩:=aS.1 hzn1;have hL1:(zs++[(⟨ia,ib,ic,0,0⟩:ND)]).length=zs.length+1:=by simp
  have hL2:LW.length=zs.length+1+s.size:=by omega
  rw[hL1] at hz3;rw[hL1,hL2];rw[hL2] at hz3;refine ng<|dA J J J<|dn<|?_;refine gh<|vL [⟨ob,[.int .i64 0, .slice (some ⟨nb,0,none⟩) (zF.map ND.val).length x3c],69,false⟩] (fun _=>false) [(0,true),(1,true),(2,true),(3,true),(4,true),(5,true),(6,true),(7,true),(8,true),(9,true),(10,false),(11,true),(12,true),(13,false)] follows v6<|?_;refine dF J J J<|rA J J J J<|dM J J J<|dF J J J<|?_;refine rA J J J J<|dM J J J<|dM J J J<|dM J J J<|dy J (fun _=>wq J J m5 okT) J J<|?_;refine dF J J J<|?_;refine dc J J (vS J J (.tl _ _ _ _ _ _ _ _ (.tl _ _ _ _ _ _ _ _ (.hd ..))) (by rw[aU,hf1,aX,cX];omega) J J ?_);rw[cX,Mv zF rest zs.length 6 _ {zn with l:=s.num (zs.length+1)} hn3 pb (by rw[hzn3];rfl)];refine ng<|dy J (fun _=>wq J J m5 okT) J J<|dF J J J<|?_;refine dc J J (vS J J (.tl _ _ _ _ _ _ _ _ (.tl _ _ _ _ _ _ _ _ (.hd ..))) (by rw[aU,fC (s:=8) _ (ND.len8 _),aX,bZ,cX];omega) J J ?_);rw[cX,Mv (zF.set zs.length _) rest zs.length 7 _ {zn with l:=s.num (zs.length+1),r:=u.num (zs.length+1+s.size)} (by rw[bZ];exact hn3) pb (by rw[List.getElem_set_self];rfl)];refine ng<|dn<|sR<|sm J J<|sa J J<|zE<|ml<|?_;have hfin:=hz3.set (a:={zn with l:=s.num (zs.length+1),r:=u.num (zs.length+1+s.size)}) (b:=⟨l,s.num (zs.length+1),u.num (zs.length+1+s.size)⟩) ⟨hzn2.a,hzn2.b,hzn2.c,J,J⟩ zs.length;have hns:(ns++[(⟨l,0,0⟩:NQ)]++s.wr (zs.length+1)++u.wr (zs.length+1+s.size)).set zs.length ⟨l,s.num (zs.length+1),u.num (zs.length+1+s.size)⟩=ns++(Tr.node l s u).wr zs.length:=by
   rw[dK,dK,oK _ _ m5,hzz,qS];simp[Tr.wr]
  rw[hns] at hfin;refine yb (.tmp J .nil) _ _ (List.Perm.refl _) (List.Sublist.refl _) ⟨⟨some ⟨nb,0,none⟩,(zF.map ND.val).length,x3c⟩,_,_,J,J,?_,hfin⟩;refine .inr ⟨nb,rest,lo3,vb,by rw[List.set_set],?_,?_,?_⟩
  .rw[fC (s:=8) _ (ND.len8 _)]
  .rw[fC (s:=8) _ (ND.len8 _),aX,bZ];rw[hf1,aX] at hf2;exact hf2
  .rw[aX,bZ];exact hf3
def aLy(hb:t.all LB)(hs:t.size<=1000000):PF GB prog 76 [eU t] (eA t):=by
 intro G vs _ hv;obtain⟨v0,m,rfl,h,hm⟩:=bj.1 hv;rw[fj] at hm;subst hm;obtain⟨p,rfl⟩:=xu h;refine Fn.intro func76 J J ntmps76 J ?_;intro C _ hC;refine sR<|?_;refine sc (wz J ?_);intro b1;refine zE<|sR<|?_;refine sc (wz J ?_);intro b2;refine zE<|sR<|?_;refine sc (wz J ?_);intro b3;refine zE<|sR<|sy (K4 J J) J<|?_;refine sc (y4 (cs':=[qc b2 b3]) J J J (.hd ..) (nb J) J J ?_);refine zE<|sR<|oO J J J<|sm J J<|?_;refine sc (AY (c1:=[]) (M:=[⟨b2,[.int .i64 0, .slice none 0 0],69,true⟩,⟨b3,[qc b2 b3],241,true⟩]) (rest:=[⟨b1,[.int .i64 0, .slice none 0 0],69,true⟩]) J J (List.Perm.swap ..) (Iu (A:=G) (A2:=G) (x:=⟨none,0,0⟩) (zs:=[]) (ns:=[]) (B:=[]) h hb (jo.nil ..) .nil (by simpa using hs)) J ?_);rintro _ _ G4 fl _ _ hf ⟨x,zs,B,rfl,rfl,hB,hz⟩;have e1:=hf vb b2;have e2:=hf vb b3;replace hB:=hB.relo fl;refine Hz (own':=⟨b2,[.int .i64 0, .slice x.a x.n x.c],69,true⟩::⟨b3,[qc b2 b3],241,true⟩::(B.map (relo fl)++[⟨b1,[.int .i64 0, .slice none 0 0],69,true⟩])) (by simp only[bY,relo,e1,e2,iV]) ?_;generalize B.map (relo fl)=B at hB;refine Bz (⟨b2,[.int .i64 0, .slice x.a x.n x.c],69,true⟩::⟨b3,[qc b2 b3],241,true⟩::⟨b1,[.int .i64 0, .slice none 0 0],69,true⟩::B) ((jJ (l₁:=B) (l₂:=[_])).cons _ |>.cons _) ?_;refine sf J J<|?_;refine sc (y4 (cs':=[.int .i64 (t.num 0), .slice x.a x.n x.c]) J J J (.hd ..) (nb J) J J ?_);refine zE<|sR<|Fp J J J<|?_;refine sc (Dd (cs':=[.int .i64 (t.num 0), .slice x.a x.n x.c]) J J J (.tl _ _ _ _ _ _ _ _ (.tl _ _ _ _ _ _ _ _ (.hd ..))) J (nb J) J J ?_)
 refine zE<|?_;refine aoR (L:=[_,_,_]) hC hB (ND.len8 _) ?_;intro G5 _ hsl;show St C _ _ [⟨b2,_,_,true⟩,⟨b3,_,_,true⟩,⟨b1,[.int .i64 (t.num 0), .slice x.a x.n x.c],69,true⟩] _ _;refine ml<|?_;exact zD (.agg J ii ii J .nil) (aH8 (k:=96) ⟨zs,hsl,by rw[kQ] at hz;exact hz.imp fun _ _ h=>h.up⟩)
end Go.Sx
end
