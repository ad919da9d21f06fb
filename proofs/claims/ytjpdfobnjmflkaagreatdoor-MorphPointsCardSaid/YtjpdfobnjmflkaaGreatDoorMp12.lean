import Derived.Test.YtjpdfobnjmflkaaGreatDoorMp11
set_option linter.all false
set_option maxHeartbeats 4000000
set_option maxRecDepth 100000
section
namespace Go.Sx
open Go Go.Proofs Tryz
variable {GB G:Gh}{i k j bv cap c2:Nat}{q s':Rat}{p f:Nat->Bool}{s:bu}{m l1:ah}{es:List Int}{u x y t:Tr}{α:Type}{vs rest vcs r2:List Value}{P:Program}{ds:List DV}{op:Int}
instance BQ.i1':BQ (1:Rat) 2:=⟨by decide,by decide⟩
instance BQ.i2':BQ (2:Rat) 2:=⟨by decide,by decide⟩
theorem Ub{v:ao}[BQ v.lo i][BQ v.hi i]:BQ (kO v) (i+i+5):=by
 unfold kO;split
 .exact BQ.mono (k:=1) ⟨by decide,by decide⟩ (by omega)
 .split
  .exact BQ.mono (inferInstance:BQ (v.hi-1) _) (by omega)
  .split
   .exact BQ.mono (inferInstance:BQ (v.lo+1) _) (by omega)
   .exact BQ.mono (inferInstance:BQ ((v.lo+v.hi)/2) _) (by omega)
instance aE.at (l:ah) (t:Rat) (k:Nat) [LB l] [BQ t k]:aE (l.at t) (900+(k+97)+1):=by
 rw[<-An];infer_instance
def V1(h: ¬q.num.sign=0):q≠0:=fun e=>h ((me q).2 e)
def fG(d:aa):aa:=⟨-d.y,d.x⟩
instance aE.turn (d:aa) (k:Nat) [aE d k]:aE (fG d) k:=⟨inferInstanceAs (BQ (-d.y) k),inferInstanceAs (BQ d.x k)⟩
def vU(p v:aa)(m:ah):Rat:= -(m.value p/(m.value (b8 p v ((1:Int):Rat))-m.value p))
def tC(p v:aa)(m:ah)(s:Rat):Rat:=if(m.value (b8 p v ((1:Int):Rat))-m.value p).num.sign=0 then s else if(m.value p).num.sign=0 then s else if 0<(vU p v m).num.sign then(if bz (vU p v m/2) s<0 then vU p v m/2 else s) else s
def rD(p v:aa):List ah->Rat->Rat
 |[],s=>s
 |m::t,s=>rD p v t (tC p v m s)
def F8(c:List ah)(p v:aa):aa:=b8 p v (rD p v c ((1:Int):Rat))
def Cw{c:List ah}{p v:aa}{s r:Rat}(h:rD p v (c.drop k) s=r)(hk:k<c.length)(hm:m=c[k])(e:tC p v m s=s'):rD p v (c.drop (k+1)) s'=r:=by
 rw[bJ hk] at h;rw[<-h,rD,<-hm,e]
def ZX{c:List ah}{p v:aa}(hc: ∀m∈c,LB m)(hn:c.length<=1000)(hp:aE p 4500)(hv:aE v 97):PF GB prog 240 [.sl (c.map eL),eP p,eP v] (eP (F8 c p v)):=by
 have hcl:=ww c;refine fn func240 J J ntmps240 J J (fun C=>?_);refine cl (fu:=⟨9⟩) J (jl (n:=1)) J<|aj 14 (.d (vI (c.length:Nat))) J (by rw[hcl];rfl)<|gx J<|lp (X:=Rat×Nat) (fun⟨s,k⟩=>[(15, .d (vI (k:Nat))),(14, .d (vI (c.length:Nat))),(13, .d (.sl (c.map eL))),(4, .ov 4 0),(5, .ov 5 0),(7, .ov 7 0),(6, .ov 6 0)]) (fun⟨s,k⟩=>[(7,some (.o 50 [.d ((.v (.bool (decide (s.num<0))))), .d (dN s.num.natAbs), .d (dD s.den)] true)),(6,some (.o 53 [.ff, .nl, .nl, .ff, .nl, .nl] true)),(5,some (.o 53 [.d ((.v (.bool (decide (v.x.num<0))))), .d (dN v.x.num.natAbs), .d (dD v.x.den), .d ((.v (.bool (decide (v.y.num<0))))), .d (dN v.y.num.natAbs), .d (dD v.y.den)] true)),(4,some (.o 53 [.d ((.v (.bool (decide (p.x.num<0))))), .d (dN p.x.num.natAbs), .d (dD p.x.den), .d ((.v (.bool (decide (p.y.num<0))))), .d (dN p.y.num.natAbs), .d (dD p.y.den)] true))]) (fun⟨s,k⟩=>k<=c.length/\BQ s 60000/\rD p v (c.drop k) s=rD p v c ((1:Int):Rat)) (fun⟨s,k⟩=>c.length-k) ⟨((1:Int):Rat),0⟩ J ⟨bV _,BQ.i1.mono (by decide),J⟩ (fun _=>J) (fun⟨s,k⟩ hk=>?_)
 try dsimp only at hk⊢
 obtain⟨hle,hsb,hns⟩:=hk;refine br J J J (fun hc16=>?_) (fun hc16=>?_)
 .
  have hk:k<c.length:=by omega
  obtain⟨m,hm⟩: ∃m,m=c[k]:=⟨_,rfl⟩;haveI hmb:LB m:=hm▸hc _ (cN hk);have hinv:=hsb;refine ix (fu:=⟨1⟩) _ J (xb hk) J<|aj 18 (.d (eL m)) J (by rw[hm];rfl)<|gx J<|cl J (jl (n:=1)) J<|cl J (wU (p:=p) (q:=v) (c:=((1:Int):Rat))) J<|cl J (EB (l:=m) (p:=b8 p v ((1:Int):Rat))) J<|cl J (EB (l:=m) (p:=p)) J<|cl J (rB (a:=m.value (b8 p v ((1:Int):Rat))) (b:=m.value p)) J<|cl J (sB (q:=m.value (b8 p v ((1:Int):Rat))-m.value p)) J<|cs 32 J J J (fun hg32=>?_) (fun hg32=>?_)
  .
   exact at_ ⟨s,k+1⟩ (by dsimp only;exact⟨⟨by omega,hinv,(Cw hns hk hm (by unfold tC;rw[if_pos hg32]))⟩,(by omega)⟩)
  .
   refine cl J (B6 (l:=m) (p:=p)) J<|br J J J (fun hc37=>?_) (fun hc37=>?_)
   .
    exact at_ ⟨s,k+1⟩ (by dsimp only;exact⟨⟨by omega,hinv,(Cw hns hk hm (by unfold tC;rw[if_neg hg32,if_pos hc37]))⟩,(by omega)⟩)
   .
    refine cl J (EB (l:=m) (p:=p)) J<|cl J (w8 (a:=m.value p) (b:=m.value (b8 p v ((1:Int):Rat))-m.value p) (V1 hg32)) J<|cl J (vN (q:=m.value p/(m.value (b8 p v ((1:Int):Rat))-m.value p))) J<|cl (fu:=⟨0⟩) J (sB (q:= -(m.value p/(m.value (b8 p v ((1:Int):Rat))-m.value p)))) J<|kj (v2:=fun hg46=>by simp only[ak];exact⟨by kernel_rfl,by omega⟩) J J J J (fun hg46=>?_) (fun hg46=>?_)
    .
     refine cl J (K4 (a:= -(m.value p/(m.value (b8 p v ((1:Int):Rat))-m.value p)))) J<|cl J (mp (a:= -(m.value p/(m.value (b8 p v ((1:Int):Rat))-m.value p))/2) (b:=s)) J<|br J J J (fun hc53=>?_) (fun hc53=>?_)
     .
      obtain⟨t,ht⟩: ∃t,t= -(m.value p/(m.value (b8 p v ((1:Int):Rat))-m.value p)):=⟨_,rfl⟩;haveI htb:BQ t 45000:=ht▸BQ.mono inferInstance;have hinv:BQ (t/2) 60000:=BQ.mono inferInstance;rw[<-ht];refine cl J (K4 (a:=t)) J<|at_ ⟨t/2,k+1⟩ (by dsimp only;exact⟨⟨by omega,hinv,(Cw hns hk hm (by unfold tC;rw[if_neg hg32,if_neg hc37,show vU p v m=t from ht.symm,if_pos (by rw[ht];exact hg46),if_pos (by rw[ht];exact hc53)]))⟩,(by omega)⟩)
     .
      exact at_ ⟨s,k+1⟩ (by dsimp only;exact⟨⟨by omega,hinv,(Cw hns hk hm (by unfold tC;rw[if_neg hg32,if_neg hc37,if_pos (show 0<(vU p v m).num.sign from hg46),if_neg (show¬bz (vU p v m/2) s<0 from hc53)]))⟩,(by omega)⟩)
    .
     exact at_ ⟨s,k+1⟩ (by dsimp only;exact⟨⟨by omega,hinv,(Cw hns hk hm (by unfold tC;rw[if_neg hg32,if_neg hc37,if_neg (show¬0<(vU p v m).num.sign from hg46)]))⟩,(by omega)⟩)
 .
  refine cl J (wU (p:=p) (q:=v) (c:=s)) J<|rz J (by unfold F8;rw[<-hns,jU (by omega)];rfl)
def kl(c:List ah):List ah->aa
 |[]=>⟨0,0⟩
 |m::t=>if(gj m c ao.all).2=true then F8 c (m.at (kO (gj m c ao.all).1)) (fG m.dir) else kl c t
def aub{c:List ah}(h:kl c (c.drop k)=kl c c)(hk:k<c.length)(hm:m=c[k])(e:(gj m c ao.all).2=true):kl c c=F8 c (m.at (kO (gj m c ao.all).1)) (fG m.dir):=by
 rw[<-h,bJ hk,kl,<-hm,if_pos e]
def YL{c:List ah}(h:kl c (c.drop k)=kl c c)(hk:k<c.length)(hm:m=c[k])(e: ¬(gj m c ao.all).2=true):kl c (c.drop (k+1))=kl c c:=by
 rw[<-h,bJ hk,kl,<-hm,if_neg e]
def axT{c:List ah}(h:m∈c)(h2:(ge m c ao.all).isSome=true):ml c=true:=by
 unfold ml;rw[iK,gQ];exact .inr ⟨m,h,h2⟩
def U9{c:List ah}(h:c=[]):ml c=true:=by subst h;rfl
def Xp{c:List ah}(h:c≠[])(h2: ∀m∈c,(ge m c ao.all).isSome=false):ml c=false:=by
 rw[<-jY];unfold ml;rw[iK,gQ,List.isEmpty_iff];rintro (e|⟨m,h3,h4⟩)
 .exact h e
 .rw[h2 m h3] at h4;exact absurd h4 (by decide)
def Pi:eP ⟨0,0⟩= .ag [.v (.bool false), .sl [], .sl [], .v (.bool false), .sl [], .sl []]:=by
 unfold eP dD;simp only[show(0:Rat).num=0 from J,show(0:Rat).den=1 from J,lT,nk];rfl
def KJ{c:List ah}(hc: ∀m∈c,LB m)(hok: ∀m∈c,m.ok)(hn:c.length<=1000):PF GB prog 175 [.sl (c.map eL)] (.tp [eP (kl c c),vB (ml c)]):=by
 have hcl:=ww c;refine fn func175 J J ntmps175 J J (fun C=>?_);refine br (fu2:=⟨7⟩) J J J (fun hc11=>?_) (fun hc11=>?_)
 .
  exact rz J (by rw[cW (l:=c) (by omega),U9 J];show _=DV.tp [eP ⟨0,0⟩,_];rw[Pi];rfl)
 .
  refine aj 14 (.d (vI (c.length:Nat))) J (by rw[hcl];rfl)<|gx J<|lp (X:=Nat) (fun k=>[(15, .d (vI (k:Nat))),(14, .d (vI (c.length:Nat))),(13, .d (.sl (c.map eL))),(0, .d (.sl (c.map eL))),(2, .ov 2 0)]) (fun k=>[(2,some (.o 53 [.ff, .nl, .nl, .ff, .nl, .nl] true))]) (fun k=>k<=c.length/\(∀m∈c.take k,(ge m c ao.all).isSome=false)/\kl c (c.drop k)=kl c c) (fun k=>c.length-k) 0 J ⟨bV _,fun m hm=>absurd hm (by simp),J⟩ (fun _=>J) (fun k hk=>?_);obtain⟨hle,hno,hip⟩:=hk;refine br J J J (fun hc16=>?_) (fun hc16=>?_)
  .
   have hk:k<c.length:=by omega
   obtain⟨m,hm⟩: ∃m,m=c[k]:=⟨_,rfl⟩;haveI hmb:LB m:=hm▸hc _ (cN hk);have hmo:m.ok:=hm▸hok _ (cN hk);refine ix (fu:=⟨1⟩) _ J (xb hk) J<|aj 19 (.d (eL m)) J (by rw[hm];rfl)<|gx J<|cl (fu:=⟨0⟩) J (MU hc hok hn hk) J<|aj 23 (.d (.tp [eV (gj m c ao.all).1,vB (gj m c ao.all).2])) J (by rw[hm])<|gx J<|bb J J J (fun hc26=>?_) (fun hc26=>?_)
   .
    have hbd:=El (v:=ao.all) hmo.ne hc il.all (BQ.mono (k:=1) ⟨by decide,by decide⟩) (BQ.mono (k:=1) ⟨by decide,by decide⟩);obtain⟨s,hs⟩: ∃s,s=(gj m c ao.all).1:=⟨_,rfl⟩;rw[<-hs] at hbd;haveI:=hbd.1;haveI:=hbd.2;haveI hsb:=Ub (v:=s) (i:=1200);have hpt:aE (m.at (kO s)) 4500:=by have:=aE.at m (kO s) (1200+1200+5);exact⟨this.x.mono (by decide),this.y.mono (by decide)⟩
    have hin:ml c=true:=axT (hm▸cN hk) (by rw[<-yj];exact hc26);have hpn:=aub hip hk hm hc26;rw[<-hs] at hpn⊢;refine cl J (vv (l:=m)) J<|cl J (aAu (v:=s)) J<|cl J (SM (l:=m) (t:=kO s) hmo.ne) J<|cl J (vN (q:=m.dir.y)) J<|cl J (ZX (p:=m.at (kO s)) (v:=fG m.dir) hc hn (hpt) inferInstance) J<|rz J (by rw[hin,hpn];rfl)
   .
    exact at_ (k+1) ⟨⟨by omega,Yf hno hk (by rw[<-hm,<-yj];exact hc26),YL hip hk hm (by rw[hc26];decide)⟩,(by omega)⟩
  .
   exact rz J (by rw[Xp (fun e=>hc11 (by rw[e];rfl)) (fun m hm=>hno m (by rw[bM (by omega)];exact hm)),<-hip,jU (by omega)];show _=DV.tp [eP ⟨0,0⟩,_];rw[Pi];rfl)
def au6(h:i<es.length):(es.map vI)[(i:Int).toNat]? =some (vI (es.getD i 0)):=by simp[h]
def Q4(h:i<es.length:=by omega):qa (es.drop i)=if es.getD i 0≠0 then es.getD i 0 else qa (es.drop (i+1)):=by
 rw[bJ h,qa,aW,aZ h];rfl
def VM(hn:es.length<=1000000):PF GB prog 323 [.sl (es.map vI)] (vI (qa es)):=by
 have hel:(es.map vI).length=es.length:=by simp
 refine fn (fu:=⟨15⟩) func323 J J ntmps323 J J (fun C=>?_);refine aj 7 (.d (vI (es.length:Nat))) J (by rw[hel]<;>rfl)<|gx J<|lp (X:=Nat) (fun i=>[(8, .d (vI (i:Nat)))]) (fun i=>[]) (fun i=>i<=es.length/\qa es=qa (es.drop i)) (fun i=>es.length-i) 0 J ⟨bV _,J⟩ (fun _=>J) (fun i hk=>?_);obtain⟨h1,h2⟩:=hk;refine br J J J (fun hc9=>?_) (fun hc9=>?_)
 .
  refine ix _ J (au6 (by omega)) J<|br J J J (fun hc14=>?_) (fun hc14=>?_)
  .
   exact rz J (by rw[h2,Q4,if_pos hc14];rfl)
  .
   exact at_ (i+1) ⟨⟨by omega,by rw[h2,Q4,if_neg hc14]⟩,(by omega)⟩
 .
  exact rz J (by rw[h2,iM (by omega)];rfl)
def IK(l m:ah):Int:=qa [bz l.a m.a,bz l.b m.b,bz l.c m.c]
def WL(l m:ah):IK l m=0↔l=m:=by
 unfold IK qa qa qa qa;have ha:=vJ (l.a:Rat) m.a;have hb:=vJ (l.b:Rat) m.b;have hc:=vJ (l.c:Rat) m.c;rw[rY] at ha hb hc;constructor
 .intro h
  repeat' (split at h<;>try contradiction)
  all_goals exact ah.ext'
 .rintro rfl
  rw[if_neg (by simp[ha.2 J]),if_neg (by simp[hb.2 J]),if_neg (by simp[hc.2 J])]
def aIn{l:ah}[hl:LB l][hm:LB m]:PF GB prog 297 [c8 l,c8 m] (vI (IK l m)):=by
 refine fn func297 J J ntmps297 J J (fun C=>?_);refine cl J (wn (p:=(l.a:Rat)) (q:=(m.a:Rat))) J<|cl J (wn (p:=(l.b:Rat)) (q:=(m.b:Rat))) J<|cl J (wn (p:=(l.c:Rat)) (q:=(m.c:Rat))) J<|rf J J<|cl J (VM (es:=[bz l.a m.a,bz l.b m.b,bz l.c m.c]) (nb J)) J<|rz J J
def aAk{l:ah}[hl:LB l][hm:LB m]:PF GB prog 255 [c8 l,c8 m] (vB (decide (l=m))):=by
 refine fn func255 J J ntmps255 J J (fun C=>?_);refine cl J (aIn (l:=l) (m:=m)) J<|rz J (by show DV.v (.bool (decide _))= .v (.bool _);congr 2;exact decide_eq_decide.2 (WL l m))
def aF1{l:ah}[hl:LB l]:PF GB prog 288 [c8 l] (c8 l.rev):=by
 refine fn func288 J J ntmps288 J J (fun C=>?_);refine cl J (pA (q:=(l.a:Rat))) J<|cl J (pA (q:=(l.b:Rat))) J<|cl J (pA (q:=(l.c:Rat))) J<|rz J (by unfold c8 ah.rev;simp only[iL];rfl)
def Uo{l:ah}[hl:LB l]:PF GB prog 134 [c8 l] (eL l):=by
 refine fn func134 J J ntmps134 J J (fun C=>?_);refine cl J (tu (q:=(l.a:Rat))) J<|cl J (tu (q:=(l.b:Rat))) J<|cl J (tu (q:=(l.c:Rat))) J<|rz J J
def TG{p:aa}[hp:aE p i](hi:i<=10000000:=by decide):PF GB prog 260 [eZ p] (vI p.half):=by
 refine fn func260 J J ntmps260 J J (fun C=>?_);refine cl J (lu (q:=p.y) (by omega)) J<|cs 10 J J J (fun hg10=>?_) (fun hg10=>?_)
 .
  exact rz J (by unfold aa.half;(repeat' split)<;>first|rfl|(exfalso;omega))
 .
  refine cs 13 J J J (fun hg13=>?_) (fun hg13=>?_)
  .
   refine cl J (lu (q:=p.x) (by omega)) J<|br J J J (fun hc7=>?_) (fun hc7=>?_)
   .
    exact rz J (by unfold aa.half;(repeat' split)<;>first|rfl|(exfalso;omega))
   .
    refine cs 23 J J J (fun hg23=>?_) (fun hg23=>?_)
    .
     exact rz J (by unfold aa.half;(repeat' split)<;>first|rfl|(exfalso;omega))
    .
     refine cl J (lu (q:=p.x) (by omega)) J<|br J J J (fun hc20=>?_) (fun hc20=>?_)
     .
      exact rz J (by unfold aa.half;(repeat' split)<;>first|rfl|(exfalso;omega))
     .
      exact rz J (by unfold aa.half;(repeat' split)<;>first|rfl|(exfalso;omega))
  .
   refine cs 23 J J J (fun hg23=>?_) (fun hg23=>?_)
   .
    exact rz J (by unfold aa.half;(repeat' split)<;>first|rfl|(exfalso;omega))
   .
    refine cl J (lu (q:=p.x) (by omega)) J<|br J J J (fun hc20=>?_) (fun hc20=>?_)
    .
     exact rz J (by unfold aa.half;(repeat' split)<;>first|rfl|(exfalso;omega))
    .
     exact rz J (by unfold aa.half;(repeat' split)<;>first|rfl|(exfalso;omega))
def JL{u v:aa}[hp:aE u i][hq:aE v j](hi:i<=10000000:=by decide)(hj:j<=10000000:=by decide):PF GB prog 196 [eZ u,eZ v] (vI (co u v)):=by
 refine fn func196 J J ntmps196 J J (fun C=>?_);refine cl J (TG (p:=u) hi) J<|cl J (TG (p:=v) hj) J<|br J J J (fun hc11=>?_) (fun hc11=>?_)
 .
  exact rz J (by unfold co;rw[if_pos hc11];rfl)
 .
  refine br J J J (fun hc15=>?_) (fun hc15=>?_)
  .
   exact rz J (by unfold co;rw[if_neg hc11,if_pos hc15];rfl)
  .
   refine cl J (AB (p:=u) (q:=v) (by omega) (by omega)) J<|cl (fu:=⟨0⟩) J (lu (q:=u.cross v) (by omega)) J<|?_;have hs:=Int.sign_trichotomy (u.cross v).num;refine gx J<|rz J (by unfold co;rw[if_neg hc11,if_neg hc15];rfl)
def aHS{m:Int}:fj (dg m.natAbs)/\(decide (m<0)=true->0<(dg m.natAbs).length):=⟨(f8 _).2.2,fun h=>by
 have:0<m.natAbs:=by have:=of_decide_eq_true h;omega
 exact wc.2 this⟩
def C0{m:Int}[h:BI m i](hi:i<=1000000000:=by decide):PF GB prog 180 [eI m] (.v (.bool true)):=(awe (neg:=decide (m<0)) (ds:=dg m.natAbs) (f8 _).2.1 (by have:=jg (a:=m.natAbs) hi;omega)).to (by unfold vB;rw[decide_eq_true aHS])
def OS{l:ah}(h:l.ok):rgcd (rgcd (l.a:Rat) (l.b:Rat)) (l.c:Rat)=((1:Int):Rat):=by
 rw[JW,JW];have:=h.2;simp only[fL];rw[this];rfl
instance BQ.rgcd (p q:Rat) (i j:Nat) [h:BQ p i] [k:BQ q j]:BQ (rgcd p q) (i+j+(i+j)):=by
 unfold Sx.rgcd;refine wX (iN (mH p) (mH q)) ?_ ?_
 .rw[fL]
  have h1:=qO h.hn k.hd;have h2:=qO k.hn h.hd;rw[lX j i] at h2;exact Po h1 h2
 .have h1:=qO h.hd k.hd
  have:2^(i+j)<=2^(i+j+(i+j)):=bL (by decide) (by omega);omega
def U8{l:ah}[hl:LB l](ho:l.ok):PF GB prog 119 [eL l] (.tp [c8 l,vB true]):=by
 refine fn func119 J J ntmps119 J J (fun C=>?_);refine cl (fu:=⟨0⟩) J (C0 (m:=l.a)) J<|cg J J J<|cl (fu:=⟨0⟩) J (C0 (m:=l.b)) J<|cg J J J<|cl (fu:=⟨0⟩) J (C0 (m:=l.c)) J<|cg J J J<|cl J (Hn (m:=l.a)) J<|cl J (Hn (m:=l.b)) J<|cl J (Hn (m:=l.c)) J<|cl (fu:=⟨0⟩) J (A5 (q:=(l.a:Rat))) J<|kj (fu2:=⟨4⟩) J J J J (fun hg35=>?_) (fun hg35=>?_)
 .
  have ha:l.a=0:=cR.1 hg35;refine cl (fu:=⟨1⟩) J (A5 (q:=(l.b:Rat))) J<|cg J (by first|rfl|(show some (decide _)=some false;rw[decide_eq_false (fun e=>ho.1 ⟨ha,cR.1 e⟩)])) J<|cl J (tE (p:=(l.a:Rat)) (q:=(l.b:Rat))) J<|cl J (tE (p:=rgcd l.a l.b) (q:=(l.c:Rat))) J<|cl J (uR (m:=1)) J<|cl (fu:=⟨0⟩) J (C7 (p:=rgcd (rgcd l.a l.b) l.c) (q:=((1:Int):Rat))) J<|cg J (by show some (!decide _)=some false;rw[OS ho,decide_eq_true J];rfl) J<|rz J J
 .
  refine cg J (by first|rfl|(show some (decide _)=some false;rw[decide_eq_false (fun e=>ho.1 ⟨ha,cR.1 e⟩)])) J<|cl J (tE (p:=(l.a:Rat)) (q:=(l.b:Rat))) J<|cl J (tE (p:=rgcd l.a l.b) (q:=(l.c:Rat))) J<|cl J (uR (m:=1)) J<|cl (fu:=⟨0⟩) J (C7 (p:=rgcd (rgcd l.a l.b) l.c) (q:=((1:Int):Rat))) J<|cg J (by show some (!decide _)=some false;rw[OS ho,decide_eq_true J];rfl) J<|rz J J
def de(f:bu):DV:= .ag [vI (dC (f.l.a:Rat)),vI (dx (f.l.a:Rat)),di (f.l.a:Rat),vI (dC (f.l.b:Rat)),vI (dx (f.l.b:Rat)),di (f.l.b:Rat),vI (dC (f.l.c:Rat)),vI (dx (f.l.c:Rat)),di (f.l.c:Rat),vI (dC f.v.lo),vI (dx f.v.lo),di f.v.lo,vI (dC f.v.hi),vI (dx f.v.hi),di f.v.hi, .v (.bool f.v.nl), .v (.bool f.v.nh)]
structure uz (v:ao):Prop where
 z:il v
 lo:BQ v.lo 1200
 hi:BQ v.hi 1200
structure Lg (s:bu):Prop where
 lb:LB s.l
 ok:s.l.ok
 v:uz s.v
abbrev eE (c:ar):Prop:= ∀s∈c,Lg s
def tO(f:α->DV)(l:List α):(l.map f).length=l.length:=by simp
def uz.all:uz ao.all:=⟨⟨fun _=>J,fun _=>J⟩,BQ.z1.mono (by decide),BQ.z1.mono (by decide)⟩
def uz.cut{l:ah}{v:ao}[LB l][LB m](hn:l.Ne)(h:uz v):uz (l.cutV v m):=by
 by_cases h0:crossI l m=0
 .rw[(Ck (v:=v) h0).1];exact h
 .obtain⟨u1,_,u3,u4,u5⟩:=IQ (v:=v) hn h.z h.lo h.hi h0
  rw[u1];exact⟨u3,u4,u5⟩
def Ix(o:Option ao):ao:=o.getD ⟨0,0,false,false⟩
def aGX(G:Gh)(y:Value)(k:Is G (.tp [.ag [vI 0,vI 0, .v (.pointer none),vI 0,vI 0, .v (.pointer none), .v (.bool false), .v (.bool false)], .v (.bool false)]) y):Is G (.tp [eW (Ix none),vB false]) y:=by
 obtain⟨m,rfl,g⟩:=kh.1 k;exact kh.2 ⟨m,J,Oh (fun y hy=>by
  obtain⟨l,rfl,g⟩:=dO.1 hy;exact dO.2 ⟨l,J,Fm (J6 [vI 0,vI 0, .v (.pointer none)] g)⟩) g⟩
def cD{f:α->DV}{l:List α}{s:α}(h:l[i]? =some s):(l.map f)[(i:Int).toNat]? =some (f s):=by simp[h]
def CY{l:List α}{s:α}(h:l[k]? =some s):l.drop k=s::l.drop (k+1):=by
 obtain⟨h1,h2⟩:=aS.1 h;rw[bJ h1,h2]
def Qz{l:ah}{c:ar}{v:ao}(h:c[k]? =some s):nq l (c.drop k) v=if l.cutB v s.l then nq l (c.drop (k+1)) (l.cutV v s.l) else none:=by
 rw[CY h];rfl
def Im{l:ah}{c:ar}(h:c[k]? =some s):oD l (c.drop k)=if pk l s≠0 then pk l s else if s.l=l then 1 else oD l (c.drop (k+1)):=by
 rw[CY h];rfl
instance BQ.sample (v:ao) [h1:BQ v.lo 1200] [h2:BQ v.hi 1200]:BQ v.sample 2500:=by
 unfold ao.sample;split
 .exact BQ.mono (k:=1) ⟨by decide,by decide⟩
 .split
  .exact BQ.mono (inferInstance:BQ (v.hi-((1:Int):Rat)) _)
  .split
   .exact BQ.mono (inferInstance:BQ (v.lo+((1:Int):Rat)) _)
   .exact BQ.mono (inferInstance:BQ ((v.lo+v.hi)*mkRat 1 2) _)
def Tb{c:ar}{l:ah}[hl:LB l](hlo:l.ok)(hc:eE c)(hn:c.length<=1000000):PF GB prog 191 [.sl (c.map de),c8 l] (.tp [eW (Ix (kd c l)),vB (kd c l).isSome]):=by
 have hm:=tO de c;refine fn func191 J J ntmps191 J J (fun C=>?_);refine cl (fu:=⟨10⟩) J aKb J<|aj 12 (.d (vI (c.length:Nat))) J (by rw[tO]<;>rfl)<|gx J<|lp (X:=ao×Nat) (fun⟨v,k⟩=>[(13, .d (vI (k:Nat))),(6, .ov 6 0)]) (fun⟨v,k⟩=>[(6,some (.o 218 [.d (vI (dC v.lo)), .d (vI (dx v.lo)), .d (di v.lo), .d (vI (dC v.hi)), .d (vI (dx v.hi)), .d (di v.hi), .d (.v (.bool v.nl)), .d (.v (.bool v.nh))] true))]) (fun⟨v,k⟩=>k<=c.length/\uz v/\nq l (c.drop k) v=kd c l) (fun⟨v,k⟩=>c.length-k) (ao.all,0) J ⟨bV _, .all,J⟩ (fun _=>J) (fun⟨v,k⟩ hk=>?_);dsimp only at hk⊢;obtain⟨h1,h2,h3⟩:=hk;haveI:=h2.lo;haveI:=h2.hi;refine br J J J (fun hc14=>?_) (fun hc14=>?_)
 .
  obtain⟨s,hs0⟩: ∃s,c[k]? =some s:=⟨_,aZ (by omega)⟩;have hs:=hc s (aV hs0);haveI:=hs.lb;refine ix _ J (cD hs0) J<|cl (fu:=⟨0⟩) J (Rw (l:=l) (m:=s.l) (v:=v)) J<|?_;generalize hw:l.cutV v s.l=w;generalize hb:l.cutB v s.l=b;refine gx J<|bb J J J (fun hc26=>?_) (fun hc26=>?_)
  .
   exact jq J (by rw[<-h3,Qz hs0,hb,if_neg (by simpa using hc26)];exact aGX)
  .
   exact at_ (w,k+1) (by dsimp only;exact⟨⟨by omega,hw▸h2.cut hlo.1,by rw[<-h3,Qz hs0,hb,hw,if_pos (by simpa using hc26)]⟩,(by omega)⟩)
 .
  exact rz J (by rw[<-h3,iM (by omega)];rfl)
def aFA{c:ar}{l:ah}[hl:LB l](hlo:l.ok)(hc:eE c)(hn:c.length<=1000000):PF GB prog 192 [.sl (c.map de),c8 l] (vI (wC c l)):=by
 have hm:=tO de c;refine fn func192 J J ntmps192 J J (fun C=>?_);refine cl J (Tb (c:=c) (l:=l) hlo hc hn) J<|bb (fu2:=⟨7⟩) J J J (fun hc16=>?_) (fun hc16=>?_)
 .
  exact rz J (by unfold wC;rw[if_pos hc16];rfl)
 .
  have hp:wC c l=oD l c:=by unfold wC;rw[if_neg (by simp[hc16])]
  refine aj 18 (.d (vI (c.length:Nat))) J (by rw[tO]<;>rfl)<|gx J<|lp (X:=Nat) (fun k=>[(19, .d (vI (k:Nat)))]) (fun k=>[]) (fun k=>k<=c.length/\oD l (c.drop k)=oD l c) (fun k=>c.length-k) 0 J ⟨bV _,J⟩ (fun _=>J) (fun k hk=>?_);obtain⟨h1,h2⟩:=hk;refine br J J J (fun hc20=>?_) (fun hc20=>?_)
  .
   obtain⟨s,hs0⟩: ∃s,c[k]? =some s:=⟨_,aZ (by omega)⟩;have hs:=hc s (aV hs0);haveI:=hs.lb;haveI:=hs.v.lo;haveI:=hs.v.hi;haveI:=BQ.sample s.v;refine ix _ J (cD hs0) J<|cl (fu:=⟨0⟩) J (R2 (v:=s.v)) J<|?_;generalize ht:s.v.sample=t at*;refine gx J<|cl J (Pc (l:=s.l) (t:=t)) J<|cl J (BZ (l:=l) (p:=s.l.at t)) J<|br J J J (fun hc32=>?_) (fun hc32=>?_)
   .
    have hsd:pk l s=(l.value (s.l.at t)).num.sign:=by unfold pk;rw[ht]
    exact rz J (by rw[hp,<-h2,Im hs0,hsd,if_pos hc32];rfl)
   .
    refine cl J (aAk (l:=s.l) (m:=l)) J<|bd J J J (fun hc37=>?_) (fun hc37=>?_)
    .
     have hsd:pk l s=(l.value (s.l.at t)).num.sign:=by unfold pk;rw[ht]
     exact rz J (by rw[hp,<-h2,Im hs0,hsd,if_neg hc32,if_pos hc37];rfl)
    .
     have hsd:pk l s=(l.value (s.l.at t)).num.sign:=by unfold pk;rw[ht]
     exact at_ (k+1) ⟨⟨by omega,by rw[<-h2,Im hs0,hsd,if_neg hc32,if_neg hc37]⟩,(by omega)⟩
  .
   exact rz J (by rw[hp,<-h2,iM (by omega)];rfl)
def apX(h: ∀v∈vs,(aF v).length=17)(hi:i<=vs.length):cE (aB vs++rest) (i*17) ((vs.length-i)*17)=some (aB (vs.drop i)):=by
 have hl:=ew vs h;have hd:(aB (vs.drop i)).length=(vs.length-i)*17:=by
  rw[ew (s:=17) _ (fun v hv=>h v (gR hv)),gU]
 rw[lD _ _ _ (by simp only[aY];omega)];congr 1;rw[kJ (by omega),Db vs i h hi,fZ (by omega),bM (by omega)]
def X4(h: ∀v∈vs,(aF v).length=17)(hv:vcs.length=17)(hi:i<vs.length)(hr:17<=rest.length):
  cF (cF (aB vs++rest) ((i+1)*17) (aB (vs.drop i))) (i*17) vcs=aB (vs.take i)++vcs++aB (vs.drop i)++rest.drop 17:=by
 have hl:=ew vs h;have hd:(aB (vs.drop i)).length=(vs.length-i)*17:=by
  rw[ew (s:=17) _ (fun v hv=>h v (gR hv)),gU]
 have ht:(aB (vs.take i)).length=i*17:=by
  rw[ew (s:=17) _ (fun v hv=>h v (eX hv)),bR,jZ (by omega)]
 rw[pB (aB (vs.drop i)) (aB vs++rest) _ (by rw[aY];omega)];rw[pB vcs _ _ (by simp only[aY,bR,gU];omega)];have e1:(aB vs++rest).drop ((i+1)*17+(aB (vs.drop i)).length)=rest.drop 17:=by
  rw[hd,show(i+1)*17+(vs.length-i)*17=(aB vs).length+17 by omega,nU,jU (by omega),kZ];congr 1;omega
 have e2:((aB vs++rest).take ((i+1)*17)++aB (vs.drop i)++rest.drop 17).take (i*17)=aB (vs.take i):=by
  rw[dX,fZ (by simp only[bR,aY];omega),List.take_take,jZ (by omega),fZ (by omega),FQ vs i h (by omega)]
 have e3:((aB vs++rest).take ((i+1)*17)++aB (vs.drop i)++rest.drop 17).drop (i*17+vcs.length)=aB (vs.drop i)++rest.drop 17:=by
  rw[hv,dX,show i*17+17=((aB vs++rest).take ((i+1)*17)).length by simp only[bR,aY];omega,List.drop_left]
 rw[e1,e2,e3];simp[dX]
def at8(h: ∀v∈vs,(aF v).length=17)(hv:vcs.length=17)(hr:17<=rest.length):cF (aB vs++rest) (vs.length*17) vcs=aB vs++vcs++rest.drop 17:=by
 have hl:=ew vs h;rw[pB _ _ _ (by simp only[aY];omega),hv,<-hl,List.take_left,nU];simp
def al4{b:Nat}{lo lo2:Bool}(hvs: ∀v∈vs,(aF v).length=17)(hfl: ∀v∈vs,∀c∈aF v,flat c=true)(hv:vcs.length=17)(hvf: ∀c∈vcs,flat c=true)
  (hcap:vs.length*17+rest.length=cap*17)(hroom:vs.length+1<=cap)(hi:i<=vs.length)(hb:vs.length<=1125899906842624):
  ki prog 198 [.slice (some ⟨b,0,none⟩) vs.length cap, .int .i64 i, .slice (some ⟨bv,0,none⟩) 1 c2] [⟨b,aB vs++rest,220,lo⟩,⟨bv,vcs++r2,220,lo2⟩] G
   (fun u css _=>u= .slice (some ⟨b,0,none⟩) (vs.length+1) cap/\css=[aB (vs.take i)++vcs++aB (vs.drop i)++rest.drop 17,vcs++r2]):=by
 have hL:(aB vs++rest).length=cap*17:=by rw[aY,ew vs hvs];exact hcap
 have hr:17<=rest.length:=by omega
 have hD:(aB (vs.drop i)).length=(vs.length-i)*17:=by
  rw[ew (s:=17) _ (fun v hv=>hvs v (gR hv)),gU]
 have hDf: ∀c∈aB (vs.drop i),flat c=true:=fun c hc=>by
  obtain⟨l,hl,hcl⟩:=List.mem_flatten.1 hc;obtain⟨v,hv,rfl⟩:=aU.1 hl;exact hfl v (gR hv) c hcl
 have hvt:cE (vcs++r2) 0 (1*17)=some vcs:=by rw[lD _ _ _ (by rw[aY];omega),iV,fZ (by omega),bM (by omega)]
 refine ki.intro func198 J J ntmps198 J ?_;intro C _ _;show St C _ _ [⟨b,aB vs++rest,220,false⟩,⟨bv,vcs++r2,220,false⟩] _ _;refine azM (fun hne=>?_);simp only[] at hne;refine sR<|sa J J<|zE<|sR<|sm J J<|sm J J<|sy (Ej J J) J<|zE<|sR<|?_;refine sm J J<|uh J J<|sa J J<|zE<|fm<|sR<|sm J J<|sy (mr J J) J<|zE<|r4 J<|?_;refine zK<|sR<|sm J J<|uh J J<|sa J J<|zE<|fm<|sR<|sm J J<|sm J J<|sy (mr J J) J<|zE<|?_;refine uI J (fun hc=>?_) (fun hc=>?_) -- slot 22
 .have hin:i=vs.length:=by omega
  subst hin;refine sR<|sm J J<|sm J J<|?_;refine sc (Tm (s:=17) (m:=1) (ys:=vcs) J J (.hd ..) hL (xX inferInstance hvt) (by omega) hvf hroom J ?_);refine sa J J<|zE<|lx<|?_;refine tz (css:=[cF (aB vs++rest) (vs.length*17) vcs,vcs++r2]) (.tmp J .nil) J _ (List.Perm.refl _) (List.Sublist.refl _) ⟨J,?_⟩;rw[at8 hvs hv hr,dQ,fW];simp[aB]
 have hin:i<vs.length:=by omega
 have hn1:((vs.length:Int)+((1:Nat):Int)).toNat=vs.length+1:=by omega
 have ht1:((i:Int)+((1:Nat):Int)).toNat=i+1:=by omega
 refine zK<|fm<|sR<|sm J J<|sm J J<|sy (wL J J) J<|sm J J<|?_;refine sy (aH1 J) J<|sy (BJ J J) J<|zE<|?_;refine uI J (fun hc2=>?_) (fun hc2=>?_) -- slot 31
 .exact absurd hc2 (by omega)
 refine zK<|sR<|sm J J<|sm J J<|sm J J<|sy (wL J J) J<|sy (Er J J) J<|?_;rw[hn1];refine sa J J<|zE<|fm<|sR<|sm J J<|sm J J<|sm J J<|sm J J<|sy (wL J J) J<|sy (En J J) J<|?_;refine sy (Xm (tS:=126) (tR:=4) func261 (by kernel_rfl) (by kernel_rfl) (by kernel_rfl) (by kernel_rfl) J J (Ne.symm hne) (fun h=>by rw[h] at hL;simp at hL;omega)) J<|?_;refine sy (ut J) J<|zE<|ti J<|?_;refine fm<|X6 (b:=b) (fun _=>false) [(0,true),(1,true),(2,true),(3,true),(4,true),(5,true),(6,true),(7,true),(8,false)] follows (.hd ..) (by kernel_rfl)<|dM J J J<|?_;refine dM J J J<|dM J J J<|dy J (fun _=>wL J J (by omega) (by omega)) J J<|dy J (fun _=>En J J) J J<|?_;refine dM J J J<|dM J J J<|dy J (fun _=>En J J) J J<|?_;rw[ht1,cZ,eM,eM];refine dc J J (Qo (s:=17) (m:=vs.length-i) (ys:=aB (vs.drop i)) J J (by show min _ _=_;omega) (xX inferInstance (apX hvs hi)) hDf (by rw[hD,hL];omega) (.hd ..) J ?_);refine mi<|dn<|sR<|sm J J<|sm J J<|sy (En J J) J<|sm J J<|?_;rw[cZ,eM];refine sc (Qo (s:=17) (m:=1) (ys:=vcs) J J (by show min _ _=_;omega) (xX inferInstance hvt) hvf (by rw[CB,hL,hv];omega) (.hd ..) J ?_);refine zE<|sR<|sm J J<|sa J J<|zE<|lx<|?_;refine tz (css:=[cF (cF (aB vs++rest) ((i+1)*17) (aB (vs.drop i))) (i*17) vcs,vcs++r2]) (.tmp J .nil) J _ (List.Perm.refl _) (List.Sublist.refl _) ⟨J,?_⟩;rw[X4 hvs hv hin hr]
def ki.toO{f:FuncId}{M:List aA}{K:Value->List (List Value)->Gh->Prop}{K':Value->List aA->Gh->Prop}(h:ki P f vs M G K)(hk: ∀v css G',bH G G'->css.length=M.length->K v css G'-> ∃o,o.Sublist (kG (asB M) css)/\K' v o G'):ir P f vs M G K':=
 ⟨h.able,fun w hw=>(h.run w hw).mono fun _ _ ⟨v,css,G',he,hl,hh,hK⟩=>let⟨o,h1,h2⟩:=hk v css G' hh.gle hl hK;⟨v,o,G',he,hh.drop h1,h2⟩⟩
def SB(c:ar):c9 17 (c.map de):=fun d hd=>by
 obtain⟨f,_,rfl⟩:=aU.1 hd;exact⟨rfl,rfl⟩
def QU{s:Nat}(hk:c9 s ds)(h:IsLs G ds vs): ∀v∈vs,∀c∈aF v,flat c=true:=fun v hv=>by
 obtain⟨d,hd,h3⟩:=h.all v hv;exact(h3.cells (hk d hd).1).2
def YY{c:ar}{x:bu}(hi:i<=c.length)(hc:c.length+1<=cap)(hn:c.length<=1000000):PI GB prog 198 (i:Nat) 17 220 220 (c.map de) (de x) cap ((c.take i++x::c.drop i).map de):=by
 intro G w w2 B B2 _ hB hcap hB2;obtain⟨vs,q1,q2,q3,_⟩:=hB;obtain⟨us,u1,u2,u3,_⟩:=hB2;dsimp only at q1 q2 q3 u1 u2 u3;have hl:=q2.len;rw[aX] at hl;obtain⟨v,m,rfl,hv,hm⟩:=bj.1 u2
 cases et.1 hm
 rcases q1 with⟨_,e,_⟩|⟨b,rest,lo,e,rfl,h5,h6,h7⟩
 .rw[e] at hcap;simp at hcap;omega
 rcases u1 with⟨h,_⟩|⟨bv,r2,lo2,e2,rfl,h8,h9,h10⟩
 .cases h
 have hx:(aF v).length=17:=u3 v aQ;have hxf:=QU (s:=17) (ds:=[de x]) (fun d hd=>by rw[aT.1 hd];exact⟨J,J⟩) u2 v aQ;have key:=al4 (G:=G) (b:=b) (bv:=bv) (cap:=w.c) (i:=i) (c2:=w2.c) (vs:=vs) (rest:=rest) (vcs:=aF v) (r2:=r2) (lo:=lo) (lo2:=lo2) q3 (QU (SB c) q2) hx hxf (by rw[<-h5];exact h6) (by omega) (by omega) (by omega);rw[e,e2];rw[wF];refine key.toO fun u css G' hg hl2 ⟨k1,k2⟩=>?_;subst k1 k2;have hall: ∀u∈vs.take i++v::vs.drop i,(aF u).length=17:=fun u hu=>by
  rcases aL.1 hu with hu|hu
  .exact q3 u (eX hu)
  .rcases aK.1 hu with rfl|hu
   .exact hx
   .exact q3 u (gR hu)
 have hlen:(vs.take i++v::vs.drop i).length=vs.length+1:=by
  rw[aY,aN,bR,gU];omega
 refine⟨[⟨b,aB (vs.take i)++aF v++aB (vs.drop i)++rest.drop 17,220,false⟩], .cons_cons _ (kX _),⟨some ⟨b,0,none⟩,vs.length+1,w.c⟩,J,vs.take i++v::vs.drop i, .inr ⟨b,rest.drop 17,false,by rw[hlen],?_,ew _ hall,?_,?_⟩,?_,hall,fun h=>by cases h⟩
 .rw[mA];simp[aB]
 .rw[ew _ hall,hlen,gU]
  rw[h5] at h6;have:=bS 17 (show vs.length+1<=w.c by omega);simp only[dV] at this⊢;omega
 .rw[hlen];show vs.length+1<=w.c;omega
 .rw[bX,bU,iT,jV]
  exact((q2.take i).up hg).app (.cons (hv.up hg) ((q2.drop i).up hg))
def RT{l:ah}[hs:LB s.l][hl:LB l]:PF GB prog 195 [de s,c8 l] (vI (co s.l.dir l.dir)):=by
 refine fn func195 J J ntmps195 J J (fun C=>?_);refine cl J (vr (l:=s.l)) J<|cl J (vr (l:=l)) J<|cl J (JL (u:=s.l.dir) (v:=l.dir)) J<|rz J J
def Bl(c:ar)(l:ah)(i:Nat):Bool:=match c[i]? with
 |some s=>decide (co s.l.dir l.dir=0)
 |none=>false
def WE(i j:Nat):((i:Int)+(j:Int)).fdiv (2^min (1:Int).toNat IntKind.u64.bits)=((i+j)/2:Nat):=by
 rw[show(2:Int)^min (1:Int).toNat IntKind.u64.bits=((2:Nat):Int) from J,kL _ (by decide)];omega
def UF{c:ar}{l:ah}(h:c[k]? =some s):jj c l k=decide (co s.l.dir l.dir<0):=by unfold jj;rw[h]
def Vw{c:ar}{l:ah}(h:c[k]? =some s):Bl c l k=decide (co s.l.dir l.dir=0):=by unfold Bl;rw[h]
def aKc{c:ar}{l:ah}(h: ¬k<c.length):Bl c l k=false:=by unfold Bl;rw[dS (by omega)]
def aJa(h:i<j)(hp:p ((i+j)/2)=true):gh p i j=gh p ((i+j)/2+1) j:=by rw[gh,dif_pos h,if_pos hp]
def WO(h:i<j)(hp: ¬p ((i+j)/2)=true):gh p i j=gh p i ((i+j)/2):=by rw[gh,dif_pos h,if_neg hp]
def P8(h: ¬i<j:=by omega):gh p i j=i:=by rw[gh,dif_neg h]
def ZZ{c:ar}{l:ah}[hl:LB l](hc:eE c)(hn:c.length<=1000000):PF GB prog 194 [.sl (c.map de),c8 l, .v (.func (.func 195) #[] #[])] (.tp [vI (gh (jj c l) 0 c.length:Nat),vB (Bl c l (gh (jj c l) 0 c.length))]):=by
 have hm:=tO de c;refine fn (fu:=⟨11⟩) func194 J J ntmps194 J J (fun C=>?_);refine aj 13 (.d (vI (c.length:Nat))) J (by rw[hm]<;>rfl)<|gx J<|lp (X:=Nat×Nat) (fun⟨i,j⟩=>[(9, .d (vI (i:Nat))),(10, .d (vI (j:Nat)))]) (fun⟨i,j⟩=>[]) (fun⟨i,j⟩=>i<=j/\j<=c.length/\gh (jj c l) i j=gh (jj c l) 0 c.length) (fun⟨i,j⟩=>j-i) (0,c.length) J ⟨bV _,bW _,J⟩ (fun _=>J) (fun⟨i,j⟩ hk=>?_);dsimp only at hk⊢;obtain⟨h1,h2,h3⟩:=hk;refine br (fu1:=⟨10⟩) (fu2:=⟨11⟩) J J J (fun hc17=>?_) (fun hc17=>?_)
 .
  obtain⟨s,hs0⟩: ∃s,c[(i+j)/2]? =some s:=⟨_,aZ (by omega)⟩;haveI:=(hc s (aV hs0)).lb;have hang:=UF (l:=l) hs0;refine aj 22 (.d (.v (.int .u64 ((i+j)/2:Nat)))) J (by rw[WE])<|gx J<|ix _ J (cD hs0) J<|cl J (RT (s:=s) (l:=l)) J<|br J J J (fun hc31=>?_) (fun hc31=>?_)
  .
   exact at_ ((i+j)/2+1,j) (by dsimp only;exact⟨⟨by omega,h2,by rw[<-h3,aJa (i:=i) (j:=j) (by omega) (by rw[hang];exact decide_eq_true hc31)]⟩,(by omega)⟩)
  .
   exact at_ (i,(i+j)/2) (by dsimp only;exact⟨⟨by omega,by omega,by rw[<-h3,WO (i:=i) (j:=j) (by omega) (by rw[hang,decide_eq_false hc31];exact Bool.false_ne_true)]⟩,(by omega)⟩)
 .
  refine kj (v2:=fun hg39=>by simp only[ak];kernel_rfl) J J J J (fun hg39=>?_) (fun hg39=>?_)
  .
   have he:=P8 (p:=jj c l) (i:=i) (j:=j);obtain⟨s,hs0⟩: ∃s,c[i]? =some s:=⟨_,aZ (by omega)⟩;haveI:=(hc s (aV hs0)).lb;refine ix _ J (cD hs0) J<|cl J (RT (s:=s) (l:=l)) J<|rz J (by rw[<-h3,he,Vw hs0];rfl)
  .
   have he:=P8 (p:=jj c l) (i:=i) (j:=j);exact rz J (by rw[<-h3,he,aKc (by omega)];rfl)
def LA{l:ah}[LB l](hlo:l.ok): ∀{c:ar} {v w:ao},eE c->uz v->nq l c v=some w->uz w
 |[],v,w,_,hv,h=>by cases h;exact hv
 |s::t,v,w,hc,hv,h=>by
  haveI:=(hc s aQ).lb;simp only[nq] at h;split at h
  .exact LA hlo (fun x hx=>hc x (aJ _ hx)) (hv.cut hlo.1) h
  .cases h
def Em{l:ah}[LB l]: ∀{c:ar},eE c->eE (ek l c)
 |[],_,s,h=>by cases h
 |a::t,hc,s,h=>by
  have ha:=hc a aQ;haveI:=ha.lb;have ht:=Em (l:=l) (fun x hx=>hc x (aJ _ hx));unfold ek at h;split at h
  .rcases aK.1 h with rfl|h
   .exact⟨ha.lb,ha.ok,ha.v.cut ha.ok.1⟩
   .exact ht s h
  .exact ht s h
def rC{l:ah}[hl:LB l](hlo:l.ok){c:ar}(hc:eE c):eE (bB c l):=by
 unfold bB;split
 .rename_i v hv
  intro s hs;unfold lI at hs;rcases aL.1 hs with h|h
  .exact Em hc s (eX h)
  .rcases aK.1 h with rfl|h
   .exact⟨hl,hlo,LA hlo hc .all hv⟩
   .exact Em hc s (gR h)
 .exact hc
def Rm{l:ah}{c:ar}(h:c[k]? =some s):ek l (c.drop k)=if s.l.cutB s.v l then⟨s.l,s.l.cutV s.v l⟩::ek l (c.drop (k+1)) else ek l (c.drop (k+1)):=by
 rw[CY h];rfl
def Kh{c:ar}{l:ah}[hl:LB l](hlo:l.ok)(hc:eE c)(hn:c.length<=100000):PF GB prog 122 [.sl (c.map de),c8 l] (.tp [.sl ((bB c l).map de),vB (cx c l)]):=by
 have hm:=tO de c;refine fn func122 J J ntmps122 J J (fun C=>?_);refine cl J (Tb (c:=c) (l:=l) hlo hc (by omega)) J<|bb (fu2:=⟨6⟩) J J J (fun hc22=>?_) (fun hc22=>?_)
 .
  have hp:kd c l=none:=by simpa using hc22
  refine cl J (aFA (c:=c) (l:=l) hlo hc (by omega)) J<|rz J (by unfold bB cx;rw[hp];rfl)
 .
  obtain⟨v,hv⟩: ∃v,kd c l=some v:=rZ.1 (by simpa using hc22);have hvd:Ix (kd c l)=v:=by rw[hv];rfl
  rw[hvd];refine aj 29 (.d (vI (c.length:Nat))) J (by rw[hm]<;>rfl)<|gx J<|mkc (fu:=⟨8⟩) (c.length+1) J J J<|aj 33 (.d (vI (c.length:Nat))) J (by rw[hm]<;>rfl)<|gx J<|lp (X:=ar×Nat) (fun⟨o,k⟩=>[(34, .d (vI (k:Nat))),(8, .rw 31)]) (fun⟨o,k⟩=>[(31,some (.c 220 17 (o.map de) (c.length+1)))]) (fun⟨o,k⟩=>k<=c.length/\o.length<=k/\o++ek l (c.drop k)=ek l c) (fun⟨o,k⟩=>c.length-k) ([],0) J ⟨bV _,bW _,J⟩ (fun _=>J) (fun⟨o,k⟩ hk=>?_);dsimp only at hk⊢;obtain⟨h1,h2,h3⟩:=hk;have hmo:=tO de o;refine br J J J (fun hc35=>?_) (fun hc35=>?_)
  .
   obtain⟨s,hs0⟩: ∃s,c[k]? =some s:=⟨_,aZ (by omega)⟩;have hs:=hc s (aV hs0);haveI:=hs.lb;haveI:=hs.v.lo;haveI:=hs.v.hi;refine ix _ J (cD hs0) J<|cl (fu:=⟨0⟩) J (Rw (l:=s.l) (m:=l) (v:=s.v)) J<|?_;generalize hw:s.l.cutV s.v l=w;generalize hb:s.l.cutB s.v l=b;refine gx J<|bb J J J (fun hc47=>?_) (fun hc47=>?_)
   .
    refine rf J J<|Yg ((o++[bu.mk s.l w]).map de) J (by rw[bX];rfl) (SB [bu.mk s.l w]) (by rw[hmo];simp;omega) J<|fw 54 31 J<|at_ (o++[bu.mk s.l w],k+1) (by dsimp only;exact⟨⟨by omega,by simp;omega,by rw[<-h3,Rm hs0,hb,if_pos hc47,hw,dX];rfl⟩,(by omega)⟩)
   .
    exact at_ (o,k+1) (by dsimp only;exact⟨⟨by omega,by omega,by rw[<-h3,Rm hs0,hb,if_neg (by simp[hc47])]⟩,(by omega)⟩)
  .
   obtain rfl:k=c.length:=by omega
   have ho:o=ek l c:=by rw[<-h3,fW];simp[ek]
   subst ho;have hbl:=(Ez (jj (ek l c) l) (ek l c).length 0 (ek l c).length (by omega) (by omega)).2;refine cL J (ZZ (c:=ek l c) (l:=l) (Em hc) (by omega)) J J<|ro J J<|ci ((lI (ek l c) l v).map de) J (YY (c:=ek l c) (x:=⟨l,v⟩) (i:=gh (jj (ek l c) l) 0 (ek l c).length) (cap:=c.length+1) hbl (by omega) (by omega)) J J<|iu 68 J<|rz J (by unfold bB cx;rw[hv];rfl)
def GG{c:ar}{l:ah}[hl:LB l](hlo:l.ok)(hc:eE c)(hn:c.length<=100000:=by omega):PF GB prog 232 [.sl (c.map de),c8 l] (.tp [.sl ((bB c l).map de), .sl ((bB c l.rev).map de),vB (cx c l),vB (cx c l.rev)]):=by
 refine fn func232 J J ntmps232 J J (fun C=>?_);refine cl J (Kh (c:=c) (l:=l) hlo hc hn) J<|cl J (aF1 (l:=l)) J<|cl J (Kh (c:=c) (l:=l.rev) hlo.rev hc hn) J<|rz J J
def cU:Tr->List DV
 | .leaf b=>[vI 0,vI 0, .v (.pointer none),vI 0,vI 0, .v (.pointer none),vI 0,vI 0, .v (.pointer none), .v (.pointer none), .v (.pointer none), .v (.bool b)]
 | .node l x y=>[vI (dC (l.a:Rat)),vI (dx (l.a:Rat)),di (l.a:Rat),vI (dC (l.b:Rat)),vI (dx (l.b:Rat)),di (l.b:Rat),vI (dC (l.c:Rat)),vI (dx (l.c:Rat)),di (l.c:Rat), .pt (cU x), .pt (cU y), .v (.bool false)]
def eU(t:Tr):DV:= .pt (cU t)
def sE{b:Bool}:PF GB prog 96 [.v (.bool b)] (eU (.leaf b)):=by
 refine fn func96 J J ntmps96 J J (fun C=>?_);refine iu 5 J<|rz J J
def yc{l:ah}:PF GB prog 166 [c8 l,eU x,eU y] (eU (.node l x y)):=by
 refine fn func166 J J ntmps166 J J (fun C=>?_);refine iu 11 J<|rz J J
def o9{b:Bool}:PF GB prog 163 [eU (.leaf b)] (.v (.bool true)):=by
 refine fn func163 J J ntmps163 J J (fun C=>?_);exact rz J J
def n4{l:ah}:PF GB prog 163 [eU (.node l x y)] (.v (.bool false)):=by
 refine fn func163 J J ntmps163 J J (fun C=>?_);exact rz J J
def azy{l:ah}:PF GB prog 233 [c8 l,eU (.node l1 x y),eU u] (eU (.node l (.node l1 x y) u)):=by
 refine fn func233 J J ntmps233 J J (fun C=>?_);refine cl (fu:=⟨0⟩) J n4 J<|cg J J J<|cl J yc J<|rz J J
def Yj{l:ah}{p:Bool}:PF GB prog 233 [c8 l,eU (.leaf p),eU (.node l1 x y)] (eU (.node l (.leaf p) (.node l1 x y))):=by
 refine fn func233 J J ntmps233 J J (fun C=>?_);refine cl (fu:=⟨0⟩) J o9 J<|dP J J J<|cl (fu:=⟨1⟩) J n4 J<|cg J J J<|cl J yc J<|rz J J
def avL{l:ah}{p q:Bool}:PF GB prog 233 [c8 l,eU (.leaf p),eU (.leaf q)] (eU (Tr.joinQ l (.leaf p) (.leaf q))):=by
 refine fn func233 J J ntmps233 J J (fun C=>?_);refine cl (fu:=⟨0⟩) J o9 J<|dP J J J<|cl (fu:=⟨1⟩) J o9 J<|dP J J J<|bb J J J (fun hc23=>?_) (fun hc23=>?_)
 .
  exact rz J (by rw[show Tr.joinQ l (.leaf p) (.leaf q)= .leaf p by simp[Tr.joinQ,Tr.isLeaf,Tr.code,hc23]];rfl)
 .
  refine cl J yc J<|rz J (by rw[show Tr.joinQ l (.leaf p) (.leaf q)= .node l (.leaf p) (.leaf q) by simp[Tr.joinQ,Tr.isLeaf,Tr.code,hc23]];rfl)
def OC{l:ah}: ∀{x y:Tr},PF GB prog 233 [c8 l,eU x,eU y] (eU (Tr.joinQ l x y))
 | .leaf _, .leaf _=>avL
 | .leaf _, .node .. =>Yj
 | .node ..,_=>azy
def Xf{b:Bool}:PF GB prog 91 [eU (.leaf b)] (vI (Tr.depth (.leaf b):Nat)):=by
 refine fn func91 J J ntmps91 J J (fun C=>?_);refine cl (fu:=⟨0⟩) J o9 J<|ll 4 J<|gx J<|rz J J
def VY{l:ah}(hd:(Tr.node l x y).depth<=1000000)(ihx:PF GB prog 91 [eU x] (vI (Tr.depth x:Nat)))(ihy:PF GB prog 91 [eU y] (vI (Tr.depth y:Nat))):PF GB prog 91 [eU (.node l x y)] (vI (Tr.depth (.node l x y):Nat)):=by
 have hdp:(Tr.node l x y).depth=1+max x.depth y.depth:=J;have hdx:=rU x.depth y.depth;have hdy:=qT x.depth y.depth;refine fn func91 J J ntmps91 J J (fun C=>?_);refine cl (fu:=⟨0⟩) J n4 J<|pg 4 J<|gx J<|cl J ihx J<|cl (hv:=by simp only[ak];exact⟨by omega,by kernel_rfl⟩) J ihy J<|rz J (by show DV.v (.int _ _)= .v (.int _ _);congr 2;split<;>omega)
def Ap: ∀{t:Tr},t.depth<=1000000->PF GB prog 91 [eU t] (vI (Tr.depth t:Nat))
 | .leaf _,_=>Xf
 | .node l x y,h=>VY h (Ap (by have:=rU x.depth y.depth;have:(Tr.node l x y).depth=1+max x.depth y.depth:=J;omega)) (Ap (by have:=qT x.depth y.depth;have:(Tr.node l x y).depth=1+max x.depth y.depth:=J;omega))
def akn{b:Bool}{c:ar}:PF GB prog 164 [eU (.leaf b), .sl (c.map de)] (eU (Tr.restrict (.leaf b) c)):=by
 refine fn func164 J J ntmps164 J J (fun C=>?_);refine cl (fu:=⟨0⟩) J o9 J<|ll 10 J<|gx J<|rz J J
def XF{l:ah}{c:ar}(hl:LB l)(hlo:l.ok)(hc:eE c)(hn:c.length+(Tr.node l x y).depth<=100000)(ihx: ∀{c:ar},eE c->c.length+x.depth<=100000->PF GB prog 164 [eU x, .sl (c.map de)] (eU (Tr.restrict x c)))(ihy: ∀{c:ar},eE c->c.length+y.depth<=100000->PF GB prog 164 [eU y, .sl (c.map de)] (eU (Tr.restrict y c))):PF GB prog 164 [eU (.node l x y), .sl (c.map de)] (eU (Tr.restrict (.node l x y) c)):=by
 have hdp:(Tr.node l x y).depth=1+max x.depth y.depth:=J;have hdx:=rU x.depth y.depth;have hdy:=qT x.depth y.depth;have hca:=ub c l;have hcb:=ub c l.rev;refine fn func164 J J ntmps164 J J (fun C=>?_);refine cl (fu:=⟨0⟩) J n4 J<|pg 10 J<|gx J<|cl J (GG (c:=c) (l:=l) hlo hc) J<|bb J J J (fun hc23=>?_) (fun hc23=>?_)
 .
  refine cl J (ihx hc (by omega)) J<|rz J (by rw[Tr.restrict,if_pos hc23];rfl)
 .
  refine bb J J J (fun hc32=>?_) (fun hc32=>?_)
  .
   refine cl J (ihy hc (by omega)) J<|rz J (by rw[Tr.restrict,if_neg (by simp[hc23]),if_pos hc32];rfl)
  .
   refine cl J (ihx (c:=bB c l) (rC hlo hc) (by omega)) J<|cl J (ihy (c:=bB c l.rev) (rC hlo.rev hc) (by omega)) J<|cl J OC J<|rz J (by rw[Tr.restrict,if_neg (by simp[hc23]),if_neg (by simp[hc32])];rfl)
def po: ∀{t:Tr} {c:ar},t.all LB->t.all ah.ok->eE c->c.length+t.depth<=100000->PF GB prog 164 [eU t, .sl (c.map de)] (eU (Tr.restrict t c))
 | .leaf _,_,_,_,_,_=>akn
 | .node l x y,c,hb,ho,hc,hn=>XF hb.1 ho.1 hc hn (fun h1 h2=>po hb.2.1 ho.2.1 h1 h2) (fun h1 h2=>po hb.2.2 ho.2.2 h1 h2)
def Qx(hb:t.all LB)(ho:t.all ah.ok)(hd:t.depth<=100000:=by omega):PF GB prog 92 [eU t] (eU (t.restrict [])):=by
 refine fn func92 J J ntmps92 J J (fun C=>?_);refine cl J (po (t:=t) (c:=[]) hb ho (fun s h=>by cases h) (by simpa using hd)) J<|rz J J
def Tr.compl:Tr->Tr
 | .leaf b=> .leaf !b
 | .node l x y=> .node l x.compl y.compl
def Tr.chooseQ(op:Int)(b:Bool)(t:Tr)(c:ar):Tr:=
 if op=1\/op=2 then(if b=decide (op=1) then .leaf b else t.restrict c)
 else if op=3/\b=false then .leaf false
 else if b then(t.restrict c).compl else t.restrict c
def Tr.mergeQ(op:Int):Tr->Tr->ar->Tr
 | .leaf b,u,c=>u.chooseQ op b c
 | .node l x y,u,c=>if !cx c l.rev then x.mergeQ op u c else if !cx c l then y.mergeQ op u c else joinQ l (x.mergeQ op u (bB c l)) (y.mergeQ op u (bB c l.rev))
def Z1{b:Bool}:PF GB prog 98 [eU (.leaf b)] (eU (Tr.compl (.leaf b))):=by
 refine fn func98 J J ntmps98 J J (fun C=>?_);refine cl (fu:=⟨0⟩) J o9 J<|ll 4 J<|gx J<|cl J sE J<|rz J J
def apQ{l:ah}(ihx:PF GB prog 98 [eU x] (eU (Tr.compl x)))(ihy:PF GB prog 98 [eU y] (eU (Tr.compl y))):PF GB prog 98 [eU (.node l x y)] (eU (Tr.compl (.node l x y))):=by
 refine fn func98 J J ntmps98 J J (fun C=>?_);refine cl (fu:=⟨0⟩) J n4 J<|pg 4 J<|gx J<|cl J ihx J<|cl J ihy J<|cl J (yc (l:=l) (x:=x.compl) (y:=y.compl)) J<|rz J J
def uG: ∀{t:Tr},PF GB prog 98 [eU t] (eU (Tr.compl t))
 | .leaf _=>Z1
 | .node _ _ _=>apQ uG uG
def azP{b:Bool}{c:ar}(hb:t.all LB)(ho:t.all ah.ok)(hc:eE c)(hn:c.length+t.depth<=100000):PF GB prog 289 [vI op, .v (.bool b),eU t, .sl (c.map de)] (eU (t.chooseQ op b c)):=by
 refine fn func289 J J ntmps289 J J (fun C=>?_);refine br J J J (fun hc10=>?_) (fun hc10=>?_)
 .
  refine br J J J (fun hc10=>?_) (fun hc10=>?_)
  .
   refine bb J J J (fun hc18=>?_) (fun hc18=>?_)
   .
    refine cl J sE J<|rz J (by unfold Tr.chooseQ;simp_all [fq]<;>omega)
   .
    refine cl J (po (by assumption) (by assumption) (by assumption) (by omega)) J<|rz J (by unfold Tr.chooseQ;simp_all [fq]<;>omega)
  .
   refine br J J J (fun hc13=>?_) (fun hc13=>?_)
   .
    refine bb J J J (fun hc22=>?_) (fun hc22=>?_)
    .
     refine cl J sE J<|rz J (by unfold Tr.chooseQ;simp_all [fq]<;>omega)
    .
     refine bb J J J (fun hc24=>?_) (fun hc24=>?_)
     .
      refine cl J (po (by assumption) (by assumption) (by assumption) (by omega)) J<|cl J (uG (t:=t.restrict c)) J<|rz J (by unfold Tr.chooseQ;simp_all [fq]<;>omega)
     .
      refine cl J (po (by assumption) (by assumption) (by assumption) (by omega)) J<|rz J (by unfold Tr.chooseQ;simp_all [fq]<;>omega)
   .
    refine bb J J J (fun hc24=>?_) (fun hc24=>?_)
    .
     refine cl J (po (by assumption) (by assumption) (by assumption) (by omega)) J<|cl J (uG (t:=t.restrict c)) J<|rz J (by unfold Tr.chooseQ;simp_all [fq]<;>omega)
    .
     refine cl J (po (by assumption) (by assumption) (by assumption) (by omega)) J<|rz J (by unfold Tr.chooseQ;simp_all [fq]<;>omega)
 .
  refine br J J J (fun hc10=>?_) (fun hc10=>?_)
  .
   refine bb J J J (fun hc18=>?_) (fun hc18=>?_)
   .
    refine cl J sE J<|rz J (by unfold Tr.chooseQ;simp_all [fq]<;>omega)
   .
    refine cl J (po (by assumption) (by assumption) (by assumption) (by omega)) J<|rz J (by unfold Tr.chooseQ;simp_all [fq]<;>omega)
  .
   refine br J J J (fun hc13=>?_) (fun hc13=>?_)
   .
    refine bb J J J (fun hc22=>?_) (fun hc22=>?_)
    .
     refine cl J sE J<|rz J (by unfold Tr.chooseQ;simp_all [fq]<;>omega)
    .
     refine bb J J J (fun hc24=>?_) (fun hc24=>?_)
     .
      refine cl J (po (by assumption) (by assumption) (by assumption) (by omega)) J<|cl J (uG (t:=t.restrict c)) J<|rz J (by unfold Tr.chooseQ;simp_all [fq]<;>omega)
     .
      refine cl J (po (by assumption) (by assumption) (by assumption) (by omega)) J<|rz J (by unfold Tr.chooseQ;simp_all [fq]<;>omega)
   .
    refine bb J J J (fun hc24=>?_) (fun hc24=>?_)
    .
     refine cl J (po (by assumption) (by assumption) (by assumption) (by omega)) J<|cl J (uG (t:=t.restrict c)) J<|rz J (by unfold Tr.chooseQ;simp_all [fq]<;>omega)
    .
     refine cl J (po (by assumption) (by assumption) (by assumption) (by omega)) J<|rz J (by unfold Tr.chooseQ;simp_all [fq]<;>omega)
def apo{b:Bool}{c:ar}(hbu:u.all LB)(hou:u.all ah.ok)(hc:eE c)(hn:c.length+u.depth<=100000):PF GB prog 235 [vI op,eU (.leaf b),eU u, .sl (c.map de)] (eU (Tr.mergeQ op (.leaf b) u c)):=by
 refine fn func235 J J ntmps235 J J (fun C=>?_);refine cl (fu:=⟨0⟩) J o9 J<|ll 14 J<|gx J<|cl J (azP (t:=u) hbu hou hc hn) J<|rz J J
def YS{l:ah}{c:ar}(hl:LB l)(hlo:l.ok)(hc:eE c)(hn:c.length+(Tr.node l x y).depth+u.depth<=100000)(ihx: ∀{c:ar},eE c->c.length+x.depth+u.depth<=100000->PF GB prog 235 [vI op,eU x,eU u, .sl (c.map de)] (eU (Tr.mergeQ op x u c)))(ihy: ∀{c:ar},eE c->c.length+y.depth+u.depth<=100000->PF GB prog 235 [vI op,eU y,eU u, .sl (c.map de)] (eU (Tr.mergeQ op y u c))):PF GB prog 235 [vI op,eU (.node l x y),eU u, .sl (c.map de)] (eU (Tr.mergeQ op (.node l x y) u c)):=by
 have hdp:(Tr.node l x y).depth=1+max x.depth y.depth:=J;have hdx:=rU x.depth y.depth;have hdy:=qT x.depth y.depth;have hca:=ub c l;have hcb:=ub c l.rev;refine fn func235 J J ntmps235 J J (fun C=>?_);refine cl (fu:=⟨0⟩) J n4 J<|pg 14 J<|gx J<|cl J (GG (c:=c) (l:=l) hlo hc) J<|bb J J J (fun hc34=>?_) (fun hc34=>?_)
 .
  refine cl J (ihx hc (by omega)) J<|rz J (by rw[Tr.mergeQ,if_pos hc34];rfl)
 .
  refine bb J J J (fun hc45=>?_) (fun hc45=>?_)
  .
   refine cl J (ihy hc (by omega)) J<|rz J (by rw[Tr.mergeQ,if_neg (by simp[hc34]),if_pos hc45];rfl)
  .
   refine cl J (ihx (c:=bB c l) (rC hlo hc) (by omega)) J<|cl J (ihy (c:=bB c l.rev) (rC hlo.rev hc) (by omega)) J<|cl J OC J<|rz J (by rw[Tr.mergeQ,if_neg (by simp[hc34]),if_neg (by simp[hc45])];rfl)
def IT{op:Int}{u:Tr}(hbu:u.all LB)(hou:u.all ah.ok): ∀{t:Tr} {c:ar},t.all LB->t.all ah.ok->eE c->c.length+t.depth+u.depth<=100000->PF GB prog 235 [vI op,eU t,eU u, .sl (c.map de)] (eU (Tr.mergeQ op t u c))
 | .leaf _,_,_,_,hc,hn=>apo hbu hou hc (by simp only[Tr.depth] at hn;omega)
 | .node l x y,c,hb,ho,hc,hn=>YS hb.1 ho.1 hc hn (fun h1 h2=>IT hbu hou hb.2.1 ho.2.1 h1 h2) (fun h1 h2=>IT hbu hou hb.2.2 ho.2.2 h1 h2)
def s9(n:Bool)(ds:List Nat):Prop:=fj ds/\(n=true->0<ds.length)
instance (n:Bool) (ds:List Nat):Decidable (s9 n ds):=inferInstanceAs (Decidable (_/\_))
structure RL where
 na:Bool
 da:List Nat
 nb:Bool
 db:List Nat
 nc:Bool
 dc:List Nat
def RL.d(r:RL):DV:= .ag [.v (.bool r.na),dG r.da, .v (.bool r.nb),dG r.db, .v (.bool r.nc),dG r.dc]
def qI(n:Bool)(ds:List Nat):Int:=if n then-(dv ds:Int) else dv ds
def RL.l(r:RL):ah:=⟨qI r.na r.da,qI r.nb r.db,qI r.nc r.dc⟩
def RL.nm(r:RL):Prop:=s9 r.na r.da/\s9 r.nb r.db/\s9 r.nc r.dc
instance (l:ah):Decidable l.ok:=inferInstanceAs (Decidable (_/\_))
instance (r:RL):Decidable r.nm:=inferInstanceAs (Decidable (_/\_/\_))
structure RL.sm (r:RL):Prop where
 a:bA r.da/\r.da.length<=3
 b:bA r.db/\r.db.length<=3
 c:bA r.dc/\r.dc.length<=3
def UZ(n:Bool)(ds:List Nat):(qI n ds).natAbs=dv ds:=by unfold qI;cases n<;>simp
theorem RL.lb{r:RL}(s:r.sm):LB r.l:=by
 have key: ∀(n:Bool) (ds:List Nat),bA ds/\ds.length<=3->(qI n ds).natAbs<2^96:=fun n ds h=>by
  rw[UZ];refine dJ (mG h.1) ?_;rw[show(2:Nat)^96=4294967296^3 by decide];exact bL (by decide) h.2
 exact⟨key _ _ s.a,key _ _ s.b,key _ _ s.c⟩
def tv(n:Nat)(f:Nat->Bool):List Value:=(List.range n).map fun j=> .bool (f j)
def yh(f:Nat->Bool)(i:Nat):Nat->Bool:=fun j=>f j||Nat.beq j i
def Ru(n:Nat)(f:Nat->Bool):(tv n f).length=n:=by simp[tv]
def HR{n:Nat}{b:Bool}(h:i<n)(hf:f i=b):(tv n f)[i]? =some (.bool b):=by simp[tv,h,hf]
def aFc(e:j≠i):yh f i j=f j:=by
 unfold yh
 cases hb:Nat.beq j i with
 |false=>rw[Bool.or_false]
 |true=>exact absurd (aM hb) e
def aC3:yh f i i=true:=by
 unfold yh;rw[oU,sW]
def avb(n i:Nat)(f:Nat->Bool):(tv n f).set i (.bool true)=tv n (yh f i):=by
 apply kY;intro j;rw[qJ];simp only[tv,aX,lW,cV];by_cases hj:j<n
 .rw[pQ hj]
  simp only[kK];by_cases e:i=j
  .subst e;simp[hj,aC3]
  .rw[aFc (fun h=>e h.symm)];simp[e]
 .rw[dS (by simpa using hj)]
  by_cases e:i=j
  .subst e;simp[hj]
  .simp[e]
def NY(n:Nat):dd (.bool false) n=tv n (fun _=>false):=by
 apply kY;intro j;by_cases hj:j<n
 .rw[HR hj J]
  unfold dd;rw[Gi (aF (.bool false)) n j (by simpa[aF] using hj)];simp[aF,Nat.mod_one]
 .rw[dS (by rw[n5];simp[aF];omega),dS (by rw[Ru];omega)]
structure RN where
 g:RL
 l:Int
 r:Int
def RN.d(n:RN):DV:= .ag [.v (.bool n.g.na),dG n.g.da, .v (.bool n.g.nb),dG n.g.db, .v (.bool n.g.nc),dG n.g.dc, .v (.int .i64 n.l), .v (.int .i64 n.r)]
def yu{v:Value}(h:Is G (di q) v): ∃p,v= .pointer p:=by
 rcases td.1 h with⟨_,h⟩|⟨_,h⟩
 .exact⟨_,h⟩
 .obtain⟨b,m,h,_⟩:=mo.1 h;exact⟨_,h⟩
def Zt{l:ah}{v:Value}(h:Is G (c8 l) v): ∃n1 d1 p1 n2 d2 p2 n3 d3 p3,v= .agg ⟨[.int .i64 n1, .int .i64 d1, .pointer p1, .int .i64 n2, .int .i64 d2, .pointer p2, .int .i64 n3, .int .i64 d3, .pointer p3]⟩:=by
 obtain⟨m,rfl,g⟩:=dO.1 h;clear h;obtain⟨v1,m,rfl,h1,h⟩:=bj.1 g;obtain⟨v2,m,rfl,h2,h⟩:=bj.1 h;obtain⟨v3,m,rfl,h3,h⟩:=bj.1 h;obtain⟨v4,m,rfl,h4,h⟩:=bj.1 h;obtain⟨v5,m,rfl,h5,h⟩:=bj.1 h;obtain⟨v6,m,rfl,h6,h⟩:=bj.1 h;obtain⟨v7,m,rfl,h7,h⟩:=bj.1 h;obtain⟨v8,m,rfl,h8,h⟩:=bj.1 h;obtain⟨v9,m,rfl,h9,h⟩:=bj.1 h;rw[et] at h;subst h;obtain⟨_,rfl⟩:=yu h3;obtain⟨_,rfl⟩:=yu h6;obtain⟨_,rfl⟩:=yu h9;rw[aI.1 h1,aI.1 h2,aI.1 h4,aI.1 h5,aI.1 h7,aI.1 h8];exact⟨_,_,_,_,_,_,_,_,_,J⟩
def Z6{n:RN}{v:Value}(h:Is G n.d v): ∃x1 x2 x3:SV,v= .agg ⟨[.bool n.g.na, .slice x1.a x1.n x1.c, .bool n.g.nb, .slice x2.a x2.n x2.c, .bool n.g.nc, .slice x3.a x3.n x3.c, .int .i64 n.l, .int .i64 n.r]⟩/\
  Is G n.g.d (.agg ⟨[.bool n.g.na, .slice x1.a x1.n x1.c, .bool n.g.nb, .slice x2.a x2.n x2.c, .bool n.g.nc, .slice x3.a x3.n x3.c]⟩):=by
 obtain⟨m,rfl,g⟩:=dO.1 h;clear h;obtain⟨v1,m,rfl,h1,h⟩:=bj.1 g;obtain⟨v2,m,rfl,h2,h⟩:=bj.1 h;obtain⟨v3,m,rfl,h3,h⟩:=bj.1 h;obtain⟨v4,m,rfl,h4,h⟩:=bj.1 h;obtain⟨v5,m,rfl,h5,h⟩:=bj.1 h;obtain⟨v6,m,rfl,h6,h⟩:=bj.1 h;obtain⟨v7,m,rfl,h7,h⟩:=bj.1 h;obtain⟨v8,m,rfl,h8,h⟩:=bj.1 h;rw[et] at h;subst h;obtain⟨_,x1,_,rfl,_,_⟩:=gt.1 (id h2);obtain⟨_,x2,_,rfl,_,_⟩:=gt.1 (id h4);obtain⟨_,x3,_,rfl,_,_⟩:=gt.1 (id h6)
 cases aI.1 h1;cases aI.1 h3;cases aI.1 h5;cases aI.1 h7;cases aI.1 h8
 exact⟨x1,x2,x3,J,dO.2 ⟨_,J, .cons h1 (.cons h2 (.cons h3 (.cons h4 (.cons h5 (.cons h6 .nil)))))⟩⟩
def wY{v:Value}(h:Is G (eU t) v): ∃p,v= .pointer p:=by
 obtain⟨b,m,h,_⟩:=mo.1 h;exact⟨_,h⟩
def PF.fn0{f:FuncId}{r:DV}(h: ∀{GB:Gh},PF GB P f ds r)(hv:IsLs G ds vs):Fn P f vs G (fun v G'=>Is G' r v):=h (GB:=G) G vs (bH.refl G) hv
def eRT(rt:Int)(ns:List RN):DV:= .ag [vI rt, .sl (ns.map RN.d)]
def QV{l:ah}{m:List Value}(h:IsLs G (cU (.node l x y)) m): ∃n1 d1 p1 n2 d2 p2 n3 d3 p3 q r,m=[.int .i64 n1, .int .i64 d1, .pointer p1, .int .i64 n2, .int .i64 d2, .pointer p2, .int .i64 n3, .int .i64 d3, .pointer p3, .pointer q, .pointer r, .bool false]/\
  Is G (c8 l) (.agg ⟨[.int .i64 n1, .int .i64 d1, .pointer p1, .int .i64 n2, .int .i64 d2, .pointer p2, .int .i64 n3, .int .i64 d3, .pointer p3]⟩)/\Is G (eU x) (.pointer q)/\Is G (eU y) (.pointer r):=by
 obtain⟨v1,m,rfl,h1,h⟩:=bj.1 h;obtain⟨v2,m,rfl,h2,h⟩:=bj.1 h;obtain⟨v3,m,rfl,h3,h⟩:=bj.1 h;obtain⟨v4,m,rfl,h4,h⟩:=bj.1 h;obtain⟨v5,m,rfl,h5,h⟩:=bj.1 h;obtain⟨v6,m,rfl,h6,h⟩:=bj.1 h;obtain⟨v7,m,rfl,h7,h⟩:=bj.1 h;obtain⟨v8,m,rfl,h8,h⟩:=bj.1 h;obtain⟨v9,m,rfl,h9,h⟩:=bj.1 h;obtain⟨va,m,rfl,ha,h⟩:=bj.1 h;obtain⟨vb,m,rfl,hb,h⟩:=bj.1 h;obtain⟨vc,m,rfl,hc,h⟩:=bj.1 h;rw[et] at h;subst h;obtain⟨_,rfl⟩:=yu h3;obtain⟨_,rfl⟩:=yu h6;obtain⟨_,rfl⟩:=yu h9;obtain⟨_,rfl⟩:=wY ha;obtain⟨_,rfl⟩:=wY hb
 cases aI.1 h1;cases aI.1 h2;cases aI.1 h4;cases aI.1 h5;cases aI.1 h7;cases aI.1 h8;cases aI.1 hc
 exact⟨_,_,_,_,_,_,_,_,_,_,_,J,dO.2 ⟨_,J, .cons h1 (.cons h2 (.cons h3 (.cons h4 (.cons h5 (.cons h6 (.cons h7 (.cons h8 (.cons h9 .nil))))))))⟩,ha,hb⟩
def WP{b:Bool}{m:List Value}(h:IsLs G (cU (.leaf b)) m):m=[.int .i64 0, .int .i64 0, .pointer none, .int .i64 0, .int .i64 0, .pointer none, .int .i64 0, .int .i64 0, .pointer none, .pointer none, .pointer none, .bool b]:=by
 obtain⟨v1,m,rfl,h1,h⟩:=bj.1 h;obtain⟨v2,m,rfl,h2,h⟩:=bj.1 h;obtain⟨v3,m,rfl,h3,h⟩:=bj.1 h;obtain⟨v4,m,rfl,h4,h⟩:=bj.1 h;obtain⟨v5,m,rfl,h5,h⟩:=bj.1 h;obtain⟨v6,m,rfl,h6,h⟩:=bj.1 h;obtain⟨v7,m,rfl,h7,h⟩:=bj.1 h;obtain⟨v8,m,rfl,h8,h⟩:=bj.1 h;obtain⟨v9,m,rfl,h9,h⟩:=bj.1 h;obtain⟨va,m,rfl,ha,h⟩:=bj.1 h;obtain⟨vb,m,rfl,hb,h⟩:=bj.1 h;obtain⟨vc,m,rfl,hc,h⟩:=bj.1 h;rw[et] at h;subst h
 cases aI.1 h1;cases aI.1 h2;cases aI.1 h3;cases aI.1 h4;cases aI.1 h5;cases aI.1 h6;cases aI.1 h7;cases aI.1 h8;cases aI.1 h9;cases aI.1 ha;cases aI.1 hb;cases aI.1 hc
 rfl
def K8: ∀{t:Tr} {A A2 G:Gh} {p:Option Addr} {ob wb:Nat} {lo lo2:Bool} {x:SV} {zs:List ND} {ns:List NQ} {B:List aA},Is A (eU t) (.pointer p)->t.all LB->[GL A G]->[GL A2 G]->iG 8 105 x (zs.map ND.val) B->iw (rm 96 A2) zs ns->zs.length+t.size<=1000000->
  ir prog 162 [.pointer p, .pointer (some ⟨ob,0,none⟩), .pointer (some ⟨wb,0,none⟩)] (⟨ob,[.int .i64 0, .slice x.a x.n x.c],31,lo⟩::⟨wb,[oq ob wb],275,lo2⟩::B) G
   (fun v own' G'=> ∃x' zs' B',v= .int .i64 (t.num zs.length)/\own'=⟨ob,[.int .i64 0, .slice x'.a x'.n x'.c],31,false⟩::⟨wb,[oq ob wb],275,false⟩::B'/\iG 8 105 x' (zs'.map ND.val) B'/\iw (rm 96 G') zs' (ns++t.wr zs.length))
 | .leaf bb,A,A2,G,p,ob,wb,lo,lo2,x,zs,ns,B,h,_,_,_,hB,hz,hle=>by
  obtain⟨n,m,e,hg,hm⟩:=mo.1 (id h)
  cases e
  cases WP hm
  have hG:t8 A n _:=⟨hg⟩;have hz':iw (rm 96 G) zs (ns++[]):=by rw[fK];exact hz.imp fun _ _ h=>h.up
  refine ir.intro func162 J J ntmps162 J ?_;intro C _ _;show St C _ _ (⟨ob,[.int .i64 0, .slice x.a x.n x.c],31,false⟩::⟨wb,[oq ob wb],275,false⟩::asB B) _ _;refine sR<|sa J J<|zE<|fm<|sR<|sm J J<|?_;refine sc (zC J J (PF.fn0 o9 (.cons (h.up GL.le) .nil)) J ?_);rintro _ G1 _ hv
  cases aI.1 hv
  refine zE<|ti J<|?_;refine fm<|sR<|sm J J<|sn J J<|sf J J<|Zl J J J<|zE<|?_
  cases bb
  case true=>
   refine ti J<|sR<|sa J J<|zE<|lx<|?_;exact wD (.tmp J .nil) _ _ (List.Perm.refl _) (List.Sublist.refl _) ⟨x,zs,_,J,J,hB.asB,hz'.imp fun _ _ h=>h.up⟩
  refine r4 J<|zK<|sR<|sa J J<|zE<|lx<|?_;exact wD (.tmp J .nil) _ _ (List.Perm.refl _) (List.Sublist.refl _) ⟨x,zs,_,J,J,hB.asB,hz'.imp fun _ _ h=>h.up⟩
 | .node l s u,A,A2,G,p,ob,wb,lo,lo2,x,zs,ns,B,h,hall,_,_,hB,hz,hle=>by
  obtain⟨hlb,hall1,hall2⟩:=id hall;haveI:LB l:=hlb;obtain⟨n,m,e,hg,hm⟩:=mo.1 (id h)
  cases e
  obtain⟨n1,d1,p1,n2,d2,p2,n3,d3,p3,q,r,rfl,hzl,hs,hu⟩:=QV hm;have hG:t8 A n _:=⟨hg⟩;have hxn:=hB.len;have hzn:=hz.len;simp only[Tr.size] at hle;obtain⟨xa,xn,xc⟩:=x;rw[aX] at hxn;simp only[] at hxn;subst hxn;refine ir.intro func162 J J ntmps162 J ?_;intro C _ _;show St C _ _ (⟨ob,[.int .i64 0, .slice xa zs.length xc],31,false⟩::⟨wb,[oq ob wb],275,false⟩::asB B) _ _;replace hB:=hB.asB;generalize asB B=B at hB;refine sR<|sa J J<|zE<|fm<|sR<|sm J J<|?_;refine sc (zC J J (PF.fn0 n4 (.cons (h.up GL.le) .nil)) J ?_);rintro _ G1 _ hv
  cases aI.1 hv
  refine zE<|r4 J<|?_;refine zK<|sR<|sf J J<|nB J J J<|uh J J<|sa J J<|zE<|fm<|?_;refine u6 [⟨ob,[.int .i64 0, .slice xa zs.length xc],31,false⟩] (fun i=>Nat.beq i 11) [(0,true),(1,true),(2,true),(3,true),(4,true),(5,true),(6,false),(7,true),(8,false),(9,false),(10,true),(11,false)] follows (by kernel_rfl)<|?_;refine dF J J J<|qv J J J J<|dM J J J<|dy J (fun _=>nH J) J J<|?_;refine dF J J J<|dy J (fun _=>EZ J vM J) J J<|?_;refine dc J J (zC J J (PF.fn0 (Uo (l:=l)) (.cons (hzl.up GL.le) .nil)) J ?_);rintro _ G2 _ hv;obtain⟨ia,ib,ic,rfl,hia,hib,hic⟩:=aIH hlb.bl hv;refine mi<|dy J (fun _=>wl J) J J<|?_;refine dc J J (Q8 J (by rfl) (by rfl) (by decide) (by decide) J ?_);intro b3;refine mi<|?_;refine dc J J (XX (v:=ND.val ⟨ia,ib,ic,0,0⟩) (vs:=zs.map ND.val) [_,_,_] rfl hB J J (xX inferInstance J) J (ND.flat [⟨ia,ib,ic,0,0⟩] _ aQ) (by decide) (by rw[aX];omega) J J ?_);intro x1 B1 hB1;rw[show zs.map ND.val++[ND.val ⟨ia,ib,ic,0,0⟩]=(zs++[(⟨ia,ib,ic,0,0⟩:ND)]).map ND.val by simp] at hB1;show St C _ _ (⟨b3,_,_,true⟩::⟨ob,[.int .i64 0, .slice xa zs.length xc],31,false⟩::⟨wb,[oq ob wb],275,false⟩::B1) _ _;refine mi<|dF J J J<|?_;refine dc J J (yn (cs':=[.int .i64 0, .slice x1.a x1.n x1.c]) J J J (.tl _ _ _ _ _ _ _ _ (.hd ..)) (nb J) J J ?_);refine VL J<|dn<|?_;refine M3 _ (nV _ _) ?_;have hz1:iw (rm 96 G2) (zs++[(⟨ia,ib,ic,0,0⟩:ND)]) (ns++[⟨l,0,0⟩]):=(hz.imp fun _ _ h=>h.up).app (.cons ⟨hia,hib,hic,J,J⟩ .nil);refine fm<|u6 [⟨wb,[oq ob wb],275,false⟩] (fun _=>false) [(0,true),(1,true),(2,true),(3,true),(4,true),(5,false),(6,true)] follows (by kernel_rfl)<|?_
  refine qv J J J J<|dM J J J<|dy J (fun _=>nH J) J J<|dF J J J<|dy J (fun _=>r9 J vM J) J J<|?_;refine dc J J (AF (c1:=[]) (M:=_::_::B1) (rest:=[]) J J (by rw[fK]) (K8 (lo:=false) (lo2:=false) hs hall1 hB1 hz1 (by simp;omega)) J ?_);rintro _ _ G3 fl _ hf _ ⟨x2,Lm,B2,rfl,rfl,hB2,hz2⟩;have e1:fl ob=false:=hf _ aQ J;have e2:fl wb=false:=hf _ (aJ _ aQ) J;replace hB2:=hB2.relo fl;refine Ie (own':=⟨ob,[.int .i64 0, .slice x2.a x2.n x2.c],31,false⟩::⟨wb,[oq ob wb],275,false⟩::B2.map (relo fl)) (by simp only[bU,relo,e1,e2,fK]) ?_;generalize B2.map (relo fl)=B2 at hB2;have hl2:=hz2.len;simp only[aY,Tr.wr_len,gJ] at hl2;refine mi<|dA J J J<|dn<|fm<|u6 [⟨wb,[oq ob wb],275,false⟩] (fun _=>false) [(0,true),(1,true),(2,true),(3,true),(4,true),(5,false),(6,true)] follows (by kernel_rfl)<|?_;refine qv J J J J<|dM J J J<|dy J (fun _=>nH J) J J<|dF J J J<|dy J (fun _=>r9 J vM J) J J<|?_;refine dc J J (AF (c1:=[]) (M:=_::_::B2) (rest:=[]) J J (by rw[fK]) (K8 (lo:=false) (lo2:=false) hu hall2 hB2 hz2 (by omega)) J ?_);rintro _ _ G4 fl _ hf _ ⟨x3,ya,B3,rfl,rfl,hB3,hz3⟩;have e3:fl ob=false:=hf _ aQ J;have e4:fl wb=false:=hf _ (aJ _ aQ) J;replace hB3:=hB3.relo fl;refine Ie (own':=⟨ob,[.int .i64 0, .slice x3.a x3.n x3.c],31,false⟩::⟨wb,[oq ob wb],275,false⟩::B3.map (relo fl)) (by simp only[bU,relo,e3,e4,fK]) ?_;generalize B3.map (relo fl)=B3 at hB3;have hl3:=hz3.len;simp only[aY,Tr.wr_len,gJ] at hl3;have hn3:zs.length<ya.length:=by omega
  rcases hB3 with⟨h1,_,_⟩|⟨nb,rest,lo3,hx3,rfl,hf1,hf2,hf3⟩
  .have:=congrArg List.length h1;rw[aX,dT] at this;omega
  obtain⟨x3a,x3n,x3c⟩:=x3;simp only[SV.mk.injEq] at hx3;obtain⟨rfl,rfl,_⟩:=hx3;rw[aX] at hf3;have hzz:ns.length=zs.length:=hzn.symm;obtain⟨zn,hzn1,hzn2⟩:=hz3.get (i:=zs.length) (b:=⟨l,0,0⟩) (by rw[dX,dX,<-hzz,gV (bW _),qW];rfl);obtain⟨_,hzn3⟩:=aS.1 hzn1;have hL1:(zs++[(⟨ia,ib,ic,0,0⟩:ND)]).length=zs.length+1:=by simp
  have hL2:Lm.length=zs.length+1+s.size:=by omega
  rw[hL1] at hz3;rw[hL1,hL2];rw[hL2] at hz3;refine mi<|dA J J J<|dn<|?_;refine fm<|u6 [⟨ob,[.int .i64 0, .slice (some ⟨nb,0,none⟩) (ya.map ND.val).length x3c],31,false⟩] (fun _=>false) [(0,true),(1,true),(2,true),(3,true),(4,true),(5,true),(6,true),(7,true),(8,true),(9,true),(10,false),(11,true),(12,true),(13,false)] follows (by kernel_rfl)<|?_;refine dF J J J<|qv J J J J<|dM J J J<|dF J J J<|?_;refine qv J J J J<|dM J J J<|dM J J J<|dM J J J<|dy J (fun _=>uQ J J (by omega) (by rw[aX];omega)) J J<|?_;refine dF J J J<|?_;refine dc J J (vW J J (.tl _ _ _ _ _ _ _ _ (.tl _ _ _ _ _ _ _ _ (.hd ..))) (by rw[aY,hf1,aX,cZ];omega) J J ?_);rw[cZ,PT ya rest zs.length 6 _ {zn with l:=s.num (zs.length+1)} hn3 (by decide) (by rw[hzn3];rfl)];refine mi<|dy J (fun _=>uQ J J (by omega) (by rw[aX];omega)) J J<|dF J J J<|?_;refine dc J J (vW J J (.tl _ _ _ _ _ _ _ _ (.tl _ _ _ _ _ _ _ _ (.hd ..))) (by rw[aY,ew (s:=8) _ (ND.len8 _),aX,bZ,cZ];omega) J J ?_);rw[cZ,PT (ya.set zs.length _) rest zs.length 7 _ {zn with l:=s.num (zs.length+1),r:=u.num (zs.length+1+s.size)} (by rw[bZ];exact hn3) (by decide) (by rw[List.getElem_set_self];rfl)];refine mi<|dn<|sR<|sm J J<|sa J J<|zE<|lx<|?_;have hfin:=hz3.set (a:={zn with l:=s.num (zs.length+1),r:=u.num (zs.length+1+s.size)}) (b:=⟨l,s.num (zs.length+1),u.num (zs.length+1+s.size)⟩) ⟨hzn2.a,hzn2.b,hzn2.c,J,J⟩ zs.length;have hns:(ns++[(⟨l,0,0⟩:NQ)]++s.wr (zs.length+1)++u.wr (zs.length+1+s.size)).set zs.length ⟨l,s.num (zs.length+1),u.num (zs.length+1+s.size)⟩=ns++(Tr.node l s u).wr zs.length:=by
   rw[dX,dX,nM _ _ (by omega),hzz,qW];simp[Tr.wr]
  rw[hns] at hfin;refine wD (.tmp J .nil) _ _ (List.Perm.refl _) (List.Sublist.refl _) ⟨⟨some ⟨nb,0,none⟩,(ya.map ND.val).length,x3c⟩,_,_,J,J,?_,hfin⟩;refine .inr ⟨nb,rest,lo3,by simp,by rw[List.set_set],?_,?_,?_⟩
  .rw[ew (s:=8) _ (ND.len8 _)]
  .rw[ew (s:=8) _ (ND.len8 _),aX,bZ];rw[hf1,aX] at hf2;exact hf2
  .rw[aX,bZ];exact hf3
def aI9(hb:t.all LB)(hs:t.size<=1000000):PF GB prog 90 [eU t] (eA t):=by
 intro G vs _ hv;obtain⟨v0,m,rfl,h,hm⟩:=bj.1 hv;rw[et] at hm;subst hm;obtain⟨p,rfl⟩:=wY h;refine Fn.intro func90 J J ntmps90 J ?_;intro C _ hC;refine sR<|?_;refine sc (uL J ?_);intro b1;refine zE<|sR<|?_;refine sc (uL J ?_);intro b2;refine zE<|sR<|?_;refine sc (uL J ?_);intro b3;refine zE<|sR<|sy (Gj J J) J<|?_;refine sc (yn (cs':=[oq b2 b3]) J J J (.hd ..) (nb J) J J ?_);refine zE<|sR<|nB J J J<|sm J J<|?_;refine sc (AF (c1:=[]) (M:=[⟨b2,[.int .i64 0, .slice none 0 0],31,true⟩,⟨b3,[oq b2 b3],275,true⟩]) (rest:=[⟨b1,[.int .i64 0, .slice none 0 0],31,true⟩]) J J (List.Perm.swap ..) (K8 (A:=G) (A2:=G) (x:=⟨none,0,0⟩) (zs:=[]) (ns:=[]) (B:=[]) h hb (iG.nil ..) .nil (by simpa using hs)) J ?_);rintro _ _ G4 fl _ _ hf ⟨x,zs,B,rfl,rfl,hB,hz⟩;have e1:=hf (by simp) b2;have e2:=hf (by simp) b3;replace hB:=hB.relo fl;refine Ie (own':=⟨b2,[.int .i64 0, .slice x.a x.n x.c],31,true⟩::⟨b3,[oq b2 b3],275,true⟩::(B.map (relo fl)++[⟨b1,[.int .i64 0, .slice none 0 0],31,true⟩])) (by simp only[bU,relo,e1,e2,iX]) ?_;generalize B.map (relo fl)=B at hB;refine Cy (⟨b2,[.int .i64 0, .slice x.a x.n x.c],31,true⟩::⟨b3,[oq b2 b3],275,true⟩::⟨b1,[.int .i64 0, .slice none 0 0],31,true⟩::B) ((jJ (l₁:=B) (l₂:=[_])).cons _ |>.cons _) ?_;refine sf J J<|?_;refine sc (yn (cs':=[.int .i64 (t.num 0), .slice x.a x.n x.c]) J J J (.hd ..) (nb J) J J ?_);refine zE<|sR<|CM J J J<|?_;refine sc (Eu (cs':=[.int .i64 (t.num 0), .slice x.a x.n x.c]) J J J (.tl _ _ _ _ _ _ _ _ (.tl _ _ _ _ _ _ _ _ (.hd ..))) J (nb J) J J ?_)
 refine zE<|?_;refine aop (L:=[_,_,_]) hC hB (ND.len8 _) ?_;intro G5 _ hsl;show St C _ _ [⟨b2,_,_,true⟩,⟨b3,_,_,true⟩,⟨b1,[.int .i64 (t.num 0), .slice x.a x.n x.c],31,true⟩] _ _;refine lx<|?_;exact zD (.agg J ii ii J .nil) (aIc (k:=96) ⟨zs,hsl,by rw[kZ] at hz;exact hz.imp fun _ _ h=>h.up⟩)
end Go.Sx
end
