import Derived.Test.YtbllnkhngjedjaaGreatDoorPt13
set_option linter.all false
set_option maxHeartbeats 4000000
set_option maxRecDepth 100000
section
namespace Go.Sx
open Go Go.Proofs Tryz
variable {GB:Gh}
instance BQ.i1':BQ (1:Rat) 2:=⟨by decide,by decide⟩
instance BQ.i2':BQ (2:Rat) 2:=⟨by decide,by decide⟩
theorem QE{v:aj}{i:Nat}[BQ v.lo i][BQ v.hi i]:BQ (jy v) (i+i+5):=by
 unfold jy;split
 .exact BQ.mono (k:=1) ⟨by decide,by decide⟩ (by omega)
 .split
  .exact BQ.mono (inferInstance:BQ (v.hi-1) _) (by omega)
  .split
   .exact BQ.mono (inferInstance:BQ (v.lo+1) _) (by omega)
   .exact BQ.mono (inferInstance:BQ ((v.lo+v.hi)/2) _) (by omega)
instance aC.at (l:ab) (t:Rat) (k:Nat) [LB l] [BQ t k]:aC (l.at t) (900+(k+97)+1):=by
 rw[<-tE];infer_instance
def Y'{q:Rat}(h: ¬q.num.sign=0):q≠0:=fun e=>h ((lz q).2 e)
def jk(d:aa):aa:=⟨-d.y,d.x⟩
instance aC.turn (d:aa) (k:Nat) [aC d k]:aC (jk d) k:=⟨inferInstanceAs (BQ (-d.y) k),inferInstanceAs (BQ d.x k)⟩
def tw(p v:aa)(m:ab):Rat:= -(m.value p/(m.value (bP p v ((1:Int):Rat))-m.value p))
def oP(p v:aa)(m:ab)(s:Rat):Rat:=if(m.value (bP p v ((1:Int):Rat))-m.value p).num.sign=0 then s else if(m.value p).num.sign=0 then s else if 0<(tw p v m).num.sign then(if bg (tw p v m/2) s<0 then tw p v m/2 else s) else s
def mG(p v:aa):List ab->Rat->Rat
 |[],s=>s
 |m::t,s=>mG p v t (oP p v m s)
def xH(c:List ab)(p v:aa):aa:=bP p v (mG p v c ((1:Int):Rat))
def zf{c:List ab}{p v:aa}{k:Nat}{s s' r:Rat}{m:ab}(h:mG p v (c.drop k) s=r)(hk:k<c.length)(hm:m=c[k])(e:oP p v m s=s'):mG p v (c.drop (k+1)) s'=r:=by
 rw[bX hk] at h;rw[<-h,mG,<-hm,e]
def aFJ{c:List ab}{p v:aa}(hc: ∀m∈c,LB m)(hn:c.length<=1000)(hp:aC p 4500)(hv:aC v 97):PF GB prog 160 [.sl (c.map eL),eP p,eP v] (eP (xH c p v)):=by
 have hcl:=wM c;refine fn func160 J J ntmps160 J J (fun C=>?_);refine cl (fu:=⟨9⟩) J (lu (n:=1)) J<|?_;refine ak 14 (.d (vI (c.length:Nat))) J (by rw[hcl];rfl) ?_;refine gx J<|?_;refine lp (X:=Rat×Nat) (fun⟨s,k⟩=>[(15, .d (vI (k:Nat))),(14, .d (vI (c.length:Nat))),(13, .d (.sl (c.map eL))),(4, .ov 4 0),(5, .ov 5 0),(7, .ov 7 0),(6, .ov 6 0)]) (fun⟨s,k⟩=>[(7,some (.o 44 [.d ((.v (.bool (decide (s.num<0))))), .d (dN s.num.natAbs), .d (dD s.den)] true)),(6,some (.o 46 [.ff, .nl, .nl, .ff, .nl, .nl] true)),(5,some (.o 46 [.d ((.v (.bool (decide (v.x.num<0))))), .d (dN v.x.num.natAbs), .d (dD v.x.den), .d ((.v (.bool (decide (v.y.num<0))))), .d (dN v.y.num.natAbs), .d (dD v.y.den)] true)),(4,some (.o 46 [.d ((.v (.bool (decide (p.x.num<0))))), .d (dN p.x.num.natAbs), .d (dD p.x.den), .d ((.v (.bool (decide (p.y.num<0))))), .d (dN p.y.num.natAbs), .d (dD p.y.den)] true))]) (fun⟨s,k⟩=>k<=c.length/\BQ s 60000/\mG p v (c.drop k) s=mG p v c ((1:Int):Rat)) (fun⟨s,k⟩=>c.length-k) ⟨((1:Int):Rat),0⟩ J ⟨aN _,BQ.i1.mono (by decide),J⟩ (fun _=>J) (fun⟨s,k⟩ hk=>?_)
 try dsimp only at hk⊢
 obtain⟨hle,hsb,hns⟩:=hk;refine br J J J (fun hc16=>?_) (fun hc16=>?_)
 .
  have hk:k<c.length:=by omega
  obtain⟨m,hm⟩: ∃m,m=c[k]:=⟨_,rfl⟩;haveI hmb:LB m:=hm▸hc _ (bL hk);have hinv:=hsb;refine ix (fu:=⟨1⟩) _ J (wI hk) J<|?_;refine ak 18 (.d (eL m)) J (by rw[hm];rfl) ?_;refine gx J<|cl J (lu (n:=1)) J<|cl J (A5 (p:=p) (q:=v) (c:=((1:Int):Rat))) J<|cl J (Cg (l:=m) (p:=bP p v ((1:Int):Rat))) J<|?_;refine cl J (Cg (l:=m) (p:=p)) J<|cl J (t8 (a:=m.value (bP p v ((1:Int):Rat))) (b:=m.value p)) J<|cl J (qm (q:=m.value (bP p v ((1:Int):Rat))-m.value p)) J<|?_;refine cs 32 J J J (fun hg32=>?_) (fun hg32=>?_)
  .
   exact at_ ⟨s,k+1⟩ (by dsimp only;exact⟨⟨by omega,hinv,(zf hns hk hm (by unfold oP;rw[if_pos hg32]))⟩,(by omega)⟩)
  .
   refine cl J (DN (l:=m) (p:=p)) J<|?_;refine br J J J (fun hc37=>?_) (fun hc37=>?_)
   .
    exact at_ ⟨s,k+1⟩ (by dsimp only;exact⟨⟨by omega,hinv,(zf hns hk hm (by unfold oP;rw[if_neg hg32,if_pos hc37]))⟩,(by omega)⟩)
   .
    refine cl J (Cg (l:=m) (p:=p)) J<|cl J (yJ (a:=m.value p) (b:=m.value (bP p v ((1:Int):Rat))-m.value p) (Y' hg32)) J<|?_;refine cl J (vQ (q:=m.value p/(m.value (bP p v ((1:Int):Rat))-m.value p))) J<|cl (fu:=⟨0⟩) J (qm (q:= -(m.value p/(m.value (bP p v ((1:Int):Rat))-m.value p)))) J<|?_;refine mr (v2:=fun hg46=>by simp only[ah];exact⟨by kernel_rfl,by omega⟩) J J J J (fun hg46=>?_) (fun hg46=>?_)
    .
     refine cl J (FZ (a:= -(m.value p/(m.value (bP p v ((1:Int):Rat))-m.value p)))) J<|cl J (mF (a:= -(m.value p/(m.value (bP p v ((1:Int):Rat))-m.value p))/2) (b:=s)) J<|?_;refine br J J J (fun hc53=>?_) (fun hc53=>?_)
     .
      obtain⟨t,ht⟩: ∃t,t= -(m.value p/(m.value (bP p v ((1:Int):Rat))-m.value p)):=⟨_,rfl⟩;haveI htb:BQ t 45000:=ht▸BQ.mono inferInstance;have hinv:BQ (t/2) 60000:=BQ.mono inferInstance;rw[<-ht];refine cl J (FZ (a:=t)) J<|?_;exact at_ ⟨t/2,k+1⟩ (by dsimp only;exact⟨⟨by omega,hinv,(zf hns hk hm (by unfold oP;rw[if_neg hg32,if_neg hc37,show tw p v m=t from ht.symm,if_pos (by rw[ht];exact hg46),if_pos (by rw[ht];exact hc53)]))⟩,(by omega)⟩)
     .
      exact at_ ⟨s,k+1⟩ (by dsimp only;exact⟨⟨by omega,hinv,(zf hns hk hm (by unfold oP;rw[if_neg hg32,if_neg hc37,if_pos (show 0<(tw p v m).num.sign from hg46),if_neg (show¬bg (tw p v m/2) s<0 from hc53)]))⟩,(by omega)⟩)
    .
     exact at_ ⟨s,k+1⟩ (by dsimp only;exact⟨⟨by omega,hinv,(zf hns hk hm (by unfold oP;rw[if_neg hg32,if_neg hc37,if_neg (show¬0<(tw p v m).num.sign from hg46)]))⟩,(by omega)⟩)
 .
  refine cl J (A5 (p:=p) (q:=v) (c:=s)) J<|?_;exact rz J (by unfold xH;rw[<-hns,kY (by omega)];rfl)
def i5(c:List ab):List ab->aa
 |[]=>⟨0,0⟩
 |m::t=>if(fB m c aj.all).2=true then xH c (m.at (jy (fB m c aj.all).1)) (jk m.dir) else i5 c t
def as0{c:List ab}{k:Nat}{m:ab}(h:i5 c (c.drop k)=i5 c c)(hk:k<c.length)(hm:m=c[k])(e:(fB m c aj.all).2=true):i5 c c=xH c (m.at (jy (fB m c aj.all).1)) (jk m.dir):=by
 rw[<-h,bX hk,i5,<-hm,if_pos e]
def Ue{c:List ab}{k:Nat}{m:ab}(h:i5 c (c.drop k)=i5 c c)(hk:k<c.length)(hm:m=c[k])(e: ¬(fB m c aj.all).2=true):i5 c (c.drop (k+1))=i5 c c:=by
 rw[<-h,bX hk,i5,<-hm,if_neg e]
def atx{c:List ab}{m:ab}(h:m∈c)(h2:(fm m c aj.all).isSome=true):i7 c=true:=by
 unfold i7;rw[iV,iS];exact .inr ⟨m,h,h2⟩
def avx{c:List ab}(h:c=[]):i7 c=true:=by subst h;rfl
def ay5{c:List ab}(h:c≠[])(h2: ∀m∈c,(fm m c aj.all).isSome=false):i7 c=false:=by
 rw[<-mJ];unfold i7;rw[iV,iS,List.isEmpty_iff];rintro (e|⟨m,h3,h4⟩)
 .exact h e
 .rw[h2 m h3] at h4;exact absurd h4 (by decide)
def Lo:eP ⟨0,0⟩= .ag [.v (.bool false), .sl [], .sl [], .v (.bool false), .sl [], .sl []]:=by
 unfold eP dD;simp only[show(0:Rat).num=0 from J,show(0:Rat).den=1 from J,lQ,p6];rfl
def I9{c:List ab}(hc: ∀m∈c,LB m)(hok: ∀m∈c,m.ok)(hn:c.length<=1000):PF GB prog 91 [.sl (c.map eL)] (.tp [eP (i5 c c),vB (i7 c)]):=by
 have hcl:=wM c;refine fn func91 J J ntmps91 J J (fun C=>?_);refine br (fu2:=⟨7⟩) J J J (fun hc11=>?_) (fun hc11=>?_)
 .
  exact rz J (by rw[bS (l:=c) (by omega),avx J];show _=DV.tp [eP ⟨0,0⟩,_];rw[Lo];rfl)
 .
  refine ak 14 (.d (vI (c.length:Nat))) J (by rw[hcl];rfl) ?_;refine gx J<|?_;refine lp (X:=Nat) (fun k=>[(15, .d (vI (k:Nat))),(14, .d (vI (c.length:Nat))),(13, .d (.sl (c.map eL))),(0, .d (.sl (c.map eL))),(2, .ov 2 0)]) (fun k=>[(2,some (.o 46 [.ff, .nl, .nl, .ff, .nl, .nl] true))]) (fun k=>k<=c.length/\(∀m∈c.take k,(fm m c aj.all).isSome=false)/\i5 c (c.drop k)=i5 c c) (fun k=>c.length-k) 0 J ⟨aN _,fun m hm=>absurd hm (by simp),J⟩ (fun _=>J) (fun k hk=>?_);obtain⟨hle,hno,hip⟩:=hk;refine br J J J (fun hc16=>?_) (fun hc16=>?_)
  .
   have hk:k<c.length:=by omega
   obtain⟨m,hm⟩: ∃m,m=c[k]:=⟨_,rfl⟩;haveI hmb:LB m:=hm▸hc _ (bL hk);have hmo:m.ok:=hm▸hok _ (bL hk);refine ix (fu:=⟨1⟩) _ J (wI hk) J<|?_;refine ak 19 (.d (eL m)) J (by rw[hm];rfl) ?_;refine gx J<|cl (fu:=⟨0⟩) J (O3 hc hok hn hk) J<|?_;refine ak 23 (.d (.tp [eV (fB m c aj.all).1,vB (fB m c aj.all).2])) J (by rw[hm]) ?_;refine gx J<|?_;refine bb J J J (fun hc26=>?_) (fun hc26=>?_)
   .
    have hbd:=Di (v:=aj.all) hmo.ne hc ic.all (BQ.mono (k:=1) ⟨by decide,by decide⟩) (BQ.mono (k:=1) ⟨by decide,by decide⟩);obtain⟨s,hs⟩: ∃s,s=(fB m c aj.all).1:=⟨_,rfl⟩;rw[<-hs] at hbd;haveI:=hbd.1;haveI:=hbd.2;haveI hsb:=QE (v:=s) (i:=1200);have hpt:aC (m.at (jy s)) 4500:=by have:=aC.at m (jy s) (1200+1200+5);exact⟨this.x.mono (by decide),this.y.mono (by decide)⟩
    have hin:i7 c=true:=atx (hm▸bL hk) (by rw[<-wL];exact hc26);have hpn:=as0 hip hk hm hc26;rw[<-hs] at hpn⊢;refine cl J (vG (l:=m)) J<|cl J (U1 (v:=s)) J<|cl J (L9 (l:=m) (t:=jy s) hmo.ne) J<|cl J (vQ (q:=m.dir.y)) J<|?_;refine cl J (aFJ (p:=m.at (jy s)) (v:=jk m.dir) hc hn (hpt) inferInstance) J<|?_;exact rz J (by rw[hin,hpn];rfl)
   .
    exact at_ (k+1) ⟨⟨by omega,ZG hno hk (by rw[<-hm,<-wL];exact hc26),Ue hip hk hm (by rw[hc26];decide)⟩,(by omega)⟩
  .
   exact rz J (by rw[ay5 (fun e=>hc11 (by rw[e];rfl)) (fun m hm=>hno m (by rw[aS (by omega)];exact hm)),<-hip,kY (by omega)];show _=DV.tp [eP ⟨0,0⟩,_];rw[Lo];rfl)
def Y7(es:List Int):cF 1 (es.map vI):=fun d hd=>by
 obtain⟨n,_,rfl⟩:=bQ.1 hd;exact⟨rfl,rfl⟩
def Ts{es:List Int}{i:Nat}(h:i<es.length):(es.map vI)[(i:Int).toNat]? =some (vI (es.getD i 0)):=by simp[h]
def PT{es:List Int}{i:Nat}(h:i<es.length:=by omega):p8 (es.drop i)=if es.getD i 0≠0 then es.getD i 0 else p8 (es.drop (i+1)):=by
 rw[bX h,p8,aX,aQ h];rfl
def aKK{es:List Int}(hn:es.length<=1000000):PF GB prog 295 [.sl (es.map vI)] (vI (p8 es)):=by
 have hel:(es.map vI).length=es.length:=by simp
 refine fn (fu:=⟨15⟩) func295 J J ntmps295 J J (fun C=>?_);refine ak 7 (.d (vI (es.length:Nat))) J (by rw[hel]<;>rfl) ?_;refine gx J<|?_;refine lp (X:=Nat) (fun i=>[(8, .d (vI (i:Nat)))]) (fun i=>[]) (fun i=>i<=es.length/\p8 es=p8 (es.drop i)) (fun i=>es.length-i) 0 J ⟨aN _,J⟩ (fun _=>J) (fun i hk=>?_);obtain⟨h1,h2⟩:=hk;refine br J J J (fun hc9=>?_) (fun hc9=>?_)
 .
  refine ix _ J (Ts (by omega)) J<|?_;refine br J J J (fun hc14=>?_) (fun hc14=>?_)
  .
   exact rz J (by rw[h2,PT,if_pos hc14];rfl)
  .
   exact at_ (i+1) ⟨⟨by omega,by rw[h2,PT,if_neg hc14]⟩,(by omega)⟩
 .
  exact rz J (by rw[h2,fW (by omega)];rfl)
def Jj(l m:ab):Int:=p8 [bg l.a m.a,bg l.b m.b,bg l.c m.c]
def azn(l m:ab):Jj l m=0↔l=m:=by
 unfold Jj p8 p8 p8 p8;have ha:=tc (l.a:Rat) m.a;have hb:=tc (l.b:Rat) m.b;have hc:=tc (l.c:Rat) m.c;rw[oQ] at ha hb hc;constructor
 .intro h
  repeat' (split at h<;>try contradiction)
  all_goals exact ab.ext'
 .rintro rfl
  rw[if_neg (by simp[ha.2 J]),if_neg (by simp[hb.2 J]),if_neg (by simp[hc.2 J])]
def aGb{l m:ab}[hl:LB l][hm:LB m]:PF GB prog 288 [fA l,fA m] (vI (Jj l m)):=by
 refine fn func288 J J ntmps288 J J (fun C=>?_);refine cl J (vP (p:=(l.a:Rat)) (q:=(m.a:Rat))) J<|cl J (vP (p:=(l.b:Rat)) (q:=(m.b:Rat))) J<|cl J (vP (p:=(l.c:Rat)) (q:=(m.c:Rat))) J<|?_;refine rf J J<|cl J (aKK (es:=[bg l.a m.a,bg l.b m.b,bg l.c m.c]) (nb J)) J<|?_;exact rz J J
def XR{l m:ab}[hl:LB l][hm:LB m]:PF GB prog 278 [fA l,fA m] (vB (decide (l=m))):=by
 refine fn func278 J J ntmps278 J J (fun C=>?_);refine cl J (aGb (l:=l) (m:=m)) J<|?_;exact rz J (by show DV.v (.bool (decide _))= .v (.bool _);congr 2;exact decide_eq_decide.2 (azn l m))
def YE{l:ab}[hl:LB l]:PF GB prog 226 [fA l] (fA l.rev):=by
 refine fn func226 J J ntmps226 J J (fun C=>?_);refine cl J (qC (q:=(l.a:Rat))) J<|cl J (qC (q:=(l.b:Rat))) J<|cl J (qC (q:=(l.c:Rat))) J<|?_;exact rz J (by unfold fA ab.rev;simp only[lN];rfl)
def Pi{p:aa}{i:Nat}[hp:aC p i](hi:i<=10000000:=by decide):PF GB prog 196 [eZ p] (vI p.half):=by
 refine fn func196 J J ntmps196 J J (fun C=>?_);refine cl J (nB (q:=p.y) (by omega)) J<|?_;refine cs 10 J J J (fun hg10=>?_) (fun hg10=>?_)
 .
  exact rz J (by unfold aa.half;(repeat' split)<;>first|rfl|(exfalso;omega))
 .
  refine cs 13 J J J (fun hg13=>?_) (fun hg13=>?_)
  .
   refine cl J (nB (q:=p.x) (by omega)) J<|?_;refine br J J J (fun hc7=>?_) (fun hc7=>?_)
   .
    exact rz J (by unfold aa.half;(repeat' split)<;>first|rfl|(exfalso;omega))
   .
    refine cs 23 J J J (fun hg23=>?_) (fun hg23=>?_)
    .
     exact rz J (by unfold aa.half;(repeat' split)<;>first|rfl|(exfalso;omega))
    .
     refine cl J (nB (q:=p.x) (by omega)) J<|?_;refine br J J J (fun hc20=>?_) (fun hc20=>?_)
     .
      exact rz J (by unfold aa.half;(repeat' split)<;>first|rfl|(exfalso;omega))
     .
      exact rz J (by unfold aa.half;(repeat' split)<;>first|rfl|(exfalso;omega))
  .
   refine cs 23 J J J (fun hg23=>?_) (fun hg23=>?_)
   .
    exact rz J (by unfold aa.half;(repeat' split)<;>first|rfl|(exfalso;omega))
   .
    refine cl J (nB (q:=p.x) (by omega)) J<|?_;refine br J J J (fun hc20=>?_) (fun hc20=>?_)
    .
     exact rz J (by unfold aa.half;(repeat' split)<;>first|rfl|(exfalso;omega))
    .
     exact rz J (by unfold aa.half;(repeat' split)<;>first|rfl|(exfalso;omega))
def Hc{u v:aa}{i j:Nat}[hp:aC u i][hq:aC v j](hi:i<=10000000:=by decide)(hj:j<=10000000:=by decide):PF GB prog 144 [eZ u,eZ v] (vI (co u v)):=by
 refine fn func144 J J ntmps144 J J (fun C=>?_);refine cl J (Pi (p:=u) hi) J<|cl J (Pi (p:=v) hj) J<|?_;refine br J J J (fun hc11=>?_) (fun hc11=>?_)
 .
  exact rz J (by unfold co;rw[if_pos hc11];rfl)
 .
  refine br J J J (fun hc15=>?_) (fun hc15=>?_)
  .
   exact rz J (by unfold co;rw[if_neg hc11,if_pos hc15];rfl)
  .
   refine cl J (wR (p:=u) (q:=v) (by omega) (by omega)) J<|cl (fu:=⟨0⟩) J (nB (q:=u.cross v) (by omega)) J<|?_;have hs:=tK (u.cross v).num;refine gx J<|?_;exact rz J (by unfold co;rw[if_neg hc11,if_neg hc15];rfl)
def aEP{m:Int}:eo (dg m.natAbs)/\(decide (m<0)=true->0<(dg m.natAbs).length):=⟨(ew _).2.2,fun h=>by
 have:0<m.natAbs:=by have:=of_decide_eq_true h;omega
 exact xz.2 this⟩
def rk{m:Int}{i:Nat}[h:BI m i](hi:i<=1000000000:=by decide):PF GB prog 191 [eI m] (.v (.bool true)):=(SF (neg:=decide (m<0)) (ds:=dg m.natAbs) (ew _).2.1 (by have:=mH (a:=m.natAbs) hi;omega)).to (by unfold vB;rw[decide_eq_true aEP])
def NJ{l:ab}(h:l.ok):rgcd (rgcd (l.a:Rat) (l.b:Rat)) (l.c:Rat)=((1:Int):Rat):=by
 rw[Ar,Ar];have:=h.2;simp only[jR];rw[this];rfl
instance BQ.rgcd (p q:Rat) (i j:Nat) [h:BQ p i] [k:BQ q j]:BQ (rgcd p q) (i+j+(i+j)):=by
 unfold Sx.rgcd;refine wG (iT (mO p) (mO q)) ?_ ?_
 .rw[jR]
  have h1:=qe h.hn k.hd;have h2:=qe k.hn h.hd;rw[kJ j i] at h2;exact FJ h1 h2
 .have h1:=qe h.hd k.hd
  have:2^(i+j)<=2^(i+j+(i+j)):=bU (by decide) (by omega);omega
def aHp{l:ab}[hl:LB l](ho:l.ok):PF GB prog 139 [eL l] (.tp [fA l,vB true]):=by
 refine fn func139 J J ntmps139 J J (fun C=>?_);refine cl (fu:=⟨0⟩) J (rk (m:=l.a)) J<|ck J J J<|cl (fu:=⟨0⟩) J (rk (m:=l.b)) J<|ck J J J<|cl (fu:=⟨0⟩) J (rk (m:=l.c)) J<|?_;refine ck J J J<|cl J (tB (m:=l.a)) J<|cl J (tB (m:=l.b)) J<|cl J (tB (m:=l.c)) J<|cl (fu:=⟨0⟩) J (xk (q:=(l.a:Rat))) J<|?_;refine mr (fu2:=⟨4⟩) J J J J (fun hg35=>?_) (fun hg35=>?_)
 .
  have ha:l.a=0:=dZ.1 hg35;refine cl (fu:=⟨1⟩) J (xk (q:=(l.b:Rat))) J<|ck J (by first|rfl|(show some (decide _)=some false;rw[decide_eq_false (fun e=>ho.1 ⟨ha,dZ.1 e⟩)])) J<|?_;refine cl J (s6 (p:=(l.a:Rat)) (q:=(l.b:Rat))) J<|cl J (s6 (p:=rgcd l.a l.b) (q:=(l.c:Rat))) J<|cl J (sr (m:=1)) J<|?_;refine cl (fu:=⟨0⟩) J (yp (p:=rgcd (rgcd l.a l.b) l.c) (q:=((1:Int):Rat))) J<|ck J (by show some (!decide _)=some false;rw[NJ ho,decide_eq_true J];rfl) J<|?_;exact rz J J
 .
  refine ck J (by first|rfl|(show some (decide _)=some false;rw[decide_eq_false (fun e=>ho.1 ⟨ha,dZ.1 e⟩)])) J<|cl J (s6 (p:=(l.a:Rat)) (q:=(l.b:Rat))) J<|?_;refine cl J (s6 (p:=rgcd l.a l.b) (q:=(l.c:Rat))) J<|cl J (sr (m:=1)) J<|cl (fu:=⟨0⟩) J (yp (p:=rgcd (rgcd l.a l.b) l.c) (q:=((1:Int):Rat))) J<|?_;refine ck J (by show some (!decide _)=some false;rw[NJ ho,decide_eq_true J];rfl) J<|?_;exact rz J J
def eG(f:aP):DV:= .ag [vI (cH (f.l.a:Rat)),vI (cG (f.l.a:Rat)),cP (f.l.a:Rat),vI (cH (f.l.b:Rat)),vI (cG (f.l.b:Rat)),cP (f.l.b:Rat),vI (cH (f.l.c:Rat)),vI (cG (f.l.c:Rat)),cP (f.l.c:Rat),vI (cH f.v.lo),vI (cG f.v.lo),cP f.v.lo,vI (cH f.v.hi),vI (cG f.v.hi),cP f.v.hi, .v (.bool f.v.nl), .v (.bool f.v.nh)]
structure s7 (v:aj):Prop where
 z:ic v
 lo:BQ v.lo 1200
 hi:BQ v.hi 1200
structure aKZ (s:aP):Prop where
 lb:LB s.l
 ok:s.l.ok
 v:s7 s.v
abbrev iq (c:az):Prop:= ∀s∈c,aKZ s
def xj{α:Type}(f:α->DV)(l:List α):(l.map f).length=l.length:=by simp
def s7.all:s7 aj.all:=⟨⟨fun _=>J,fun _=>J⟩,BQ.z1.mono (by decide),BQ.z1.mono (by decide)⟩
def s7.cut{l m:ab}{v:aj}[LB l][LB m](hn:l.Ne)(h:s7 v):s7 (l.cutV v m):=by
 by_cases h0:crossI l m=0
 .rw[(Ad (v:=v) h0).1];exact h
 .obtain⟨u1,_,u3,u4,u5⟩:=Ir (v:=v) hn h.z h.lo h.hi h0
  rw[u1];exact⟨u3,u4,u5⟩
def Jk(o:Option aj):aj:=o.getD ⟨0,0,false,false⟩
def XO(G:Gh)(y:Value)(k:Is G (.tp [.ag [vI 0,vI 0, .v (.pointer none),vI 0,vI 0, .v (.pointer none), .v (.bool false), .v (.bool false)], .v (.bool false)]) y):Is G (.tp [eW (Jk none),vB false]) y:=by
 obtain⟨m,rfl,g⟩:=i8.1 k;exact i8.2 ⟨m,J,LW (fun y hy=>by
  obtain⟨l,rfl,g⟩:=et.1 hy;exact et.2 ⟨l,J,C6 (Iw [vI 0,vI 0, .v (.pointer none)] g)⟩) g⟩
def cA{α:Type}{f:α->DV}{l:List α}{i:Nat}{s:α}(h:l[i]? =some s):(l.map f)[(i:Int).toNat]? =some (f s):=by simp[h]
def GH{α:Type}{l:List α}{k:Nat}{s:α}(h:l[k]? =some s):l.drop k=s::l.drop (k+1):=by
 obtain⟨h1,h2⟩:=aY.1 h;rw[bX h1,h2]
def Mv{l:ab}{c:az}{v:aj}{k:Nat}{s:aP}(h:c[k]? =some s):nG l (c.drop k) v=if l.cutB v s.l then nG l (c.drop (k+1)) (l.cutV v s.l) else none:=by
 rw[GH h];rfl
def JI{l:ab}{c:az}{k:Nat}{s:aP}(h:c[k]? =some s):oF l (c.drop k)=if oH l s≠0 then oH l s else if s.l=l then 1 else oF l (c.drop (k+1)):=by
 rw[GH h];rfl
instance BQ.sample (v:aj) [h1:BQ v.lo 1200] [h2:BQ v.hi 1200]:BQ v.sample 2500:=by
 unfold aj.sample;split
 .exact BQ.mono (k:=1) ⟨by decide,by decide⟩
 .split
  .exact BQ.mono (inferInstance:BQ (v.hi-((1:Int):Rat)) _)
  .split
   .exact BQ.mono (inferInstance:BQ (v.lo+((1:Int):Rat)) _)
   .exact BQ.mono (inferInstance:BQ ((v.lo+v.hi)*mkRat 1 2) _)
def O5{c:az}{l:ab}[hl:LB l](hlo:l.ok)(hc:iq c)(hn:c.length<=1000000):PF GB prog 257 [.sl (c.map eG),fA l] (.tp [eW (Jk (lI c l)),vB (lI c l).isSome]):=by
 have hm:=xj eG c;refine fn func257 J J ntmps257 J J (fun C=>?_);refine cl (fu:=⟨10⟩) J YA J<|?_;refine ak 12 (.d (vI (c.length:Nat))) J (by rw[xj]<;>rfl) ?_;refine gx J<|?_;refine lp (X:=aj×Nat) (fun⟨v,k⟩=>[(13, .d (vI (k:Nat))),(6, .ov 6 0)]) (fun⟨v,k⟩=>[(6,some (.o 208 [.d (vI (cH v.lo)), .d (vI (cG v.lo)), .d (cP v.lo), .d (vI (cH v.hi)), .d (vI (cG v.hi)), .d (cP v.hi), .d (.v (.bool v.nl)), .d (.v (.bool v.nh))] true))]) (fun⟨v,k⟩=>k<=c.length/\s7 v/\nG l (c.drop k) v=lI c l) (fun⟨v,k⟩=>c.length-k) (aj.all,0) J ⟨aN _, .all,J⟩ (fun _=>J) (fun⟨v,k⟩ hk=>?_);dsimp only at hk⊢;obtain⟨h1,h2,h3⟩:=hk;haveI:=h2.lo;haveI:=h2.hi;refine br J J J (fun hc14=>?_) (fun hc14=>?_)
 .
  obtain⟨s,hs0⟩: ∃s,c[k]? =some s:=⟨_,aQ (by omega)⟩;have hs:=hc s (aV hs0);haveI:=hs.lb;refine ix _ J (cA hs0) J<|cl (fu:=⟨0⟩) J (M0 (l:=l) (m:=s.l) (v:=v)) J<|?_;generalize hw:l.cutV v s.l=w;generalize hb:l.cutB v s.l=b;refine gx J<|?_;refine bb J J J (fun hc26=>?_) (fun hc26=>?_)
  .
   exact jm J (by rw[<-h3,Mv hs0,hb,if_neg (by simpa using hc26)];exact XO)
  .
   exact at_ (w,k+1) (by dsimp only;exact⟨⟨by omega,hw▸h2.cut hlo.1,by rw[<-h3,Mv hs0,hb,hw,if_pos (by simpa using hc26)]⟩,(by omega)⟩)
 .
  exact rz J (by rw[<-h3,fW (by omega)];rfl)
def aD6{c:az}{l:ab}[hl:LB l](hlo:l.ok)(hc:iq c)(hn:c.length<=1000000):PF GB prog 258 [.sl (c.map eG),fA l] (vI (wS c l)):=by
 have hm:=xj eG c;refine fn func258 J J ntmps258 J J (fun C=>?_);refine cl J (O5 (c:=c) (l:=l) hlo hc hn) J<|?_;refine bb (fu2:=⟨7⟩) J J J (fun hc16=>?_) (fun hc16=>?_)
 .
  exact rz J (by unfold wS;rw[if_pos hc16];rfl)
 .
  have hp:wS c l=oF l c:=by unfold wS;rw[if_neg (by simp[hc16])]
  refine ak 18 (.d (vI (c.length:Nat))) J (by rw[xj]<;>rfl) ?_;refine gx J<|?_;refine lp (X:=Nat) (fun k=>[(19, .d (vI (k:Nat)))]) (fun k=>[]) (fun k=>k<=c.length/\oF l (c.drop k)=oF l c) (fun k=>c.length-k) 0 J ⟨aN _,J⟩ (fun _=>J) (fun k hk=>?_);obtain⟨h1,h2⟩:=hk;refine br J J J (fun hc20=>?_) (fun hc20=>?_)
  .
   obtain⟨s,hs0⟩: ∃s,c[k]? =some s:=⟨_,aQ (by omega)⟩;have hs:=hc s (aV hs0);haveI:=hs.lb;haveI:=hs.v.lo;haveI:=hs.v.hi;haveI:=BQ.sample s.v;refine ix _ J (cA hs0) J<|cl (fu:=⟨0⟩) J (TZ (v:=s.v)) J<|?_;generalize ht:s.v.sample=t at*;refine gx J<|cl J (VK (l:=s.l) (t:=t)) J<|cl J (Bl (l:=l) (p:=s.l.at t)) J<|?_;refine br J J J (fun hc32=>?_) (fun hc32=>?_)
   .
    have hsd:oH l s=(l.value (s.l.at t)).num.sign:=by unfold oH;rw[ht]
    exact rz J (by rw[hp,<-h2,JI hs0,hsd,if_pos hc32];rfl)
   .
    refine cl J (XR (l:=s.l) (m:=l)) J<|?_;refine bd J J J (fun hc37=>?_) (fun hc37=>?_)
    .
     have hsd:oH l s=(l.value (s.l.at t)).num.sign:=by unfold oH;rw[ht]
     exact rz J (by rw[hp,<-h2,JI hs0,hsd,if_neg hc32,if_pos hc37];rfl)
    .
     have hsd:oH l s=(l.value (s.l.at t)).num.sign:=by unfold oH;rw[ht]
     exact at_ (k+1) ⟨⟨by omega,by rw[<-h2,JI hs0,hsd,if_neg hc32,if_neg hc37]⟩,(by omega)⟩
  .
   exact rz J (by rw[hp,<-h2,fW (by omega)];rfl)
def anA{vs rest:List Value}(h: ∀v∈vs,(aG v).length=17){i:Nat}(hi:i<=vs.length):cD (aE vs++rest) (i*17) ((vs.length-i)*17)=some (aE (vs.drop i)):=by
 have hl:=eO vs h;have hd:(aE (vs.drop i)).length=(vs.length-i)*17:=by
  rw[eO (s:=17) _ (fun v hv=>h v (gL hv)),iQ]
 rw[mB _ _ _ (by simp only[aW];omega)];congr 1;rw[jW (by omega),Dq vs i h hi,fQ (by omega),aS (by omega)]
def W8{vs rest vcs:List Value}(h: ∀v∈vs,(aG v).length=17)(hv:vcs.length=17){i:Nat}(hi:i<vs.length)(hr:17<=rest.length):
  cC (cC (aE vs++rest) ((i+1)*17) (aE (vs.drop i))) (i*17) vcs=aE (vs.take i)++vcs++aE (vs.drop i)++rest.drop 17:=by
 have hl:=eO vs h;have hd:(aE (vs.drop i)).length=(vs.length-i)*17:=by
  rw[eO (s:=17) _ (fun v hv=>h v (gL hv)),iQ]
 have ht:(aE (vs.take i)).length=i*17:=by
  rw[eO (s:=17) _ (fun v hv=>h v (dJ hv)),cJ,gK (by omega)]
 rw[pD (aE (vs.drop i)) (aE vs++rest) _ (by rw[aW];omega)];rw[pD vcs _ _ (by simp only[aW,cJ,iQ];omega)];have e1:(aE vs++rest).drop ((i+1)*17+(aE (vs.drop i)).length)=rest.drop 17:=by
  rw[hd,show(i+1)*17+(vs.length-i)*17=(aE vs).length+17 by omega,nV,kY (by omega),kL];congr 1;omega
 have e2:((aE vs++rest).take ((i+1)*17)++aE (vs.drop i)++rest.drop 17).take (i*17)=aE (vs.take i):=by
  rw[gX,fQ (by simp only[cJ,aW];omega),List.take_take,gK (by omega),fQ (by omega),DK vs i h (by omega)]
 have e3:((aE vs++rest).take ((i+1)*17)++aE (vs.drop i)++rest.drop 17).drop (i*17+vcs.length)=aE (vs.drop i)++rest.drop 17:=by
  rw[hv,gX,show i*17+17=((aE vs++rest).take ((i+1)*17)).length by simp only[cJ,aW];omega,List.drop_left]
 rw[e1,e2,e3];simp[gX]
def UQ{vs rest vcs:List Value}(h: ∀v∈vs,(aG v).length=17)(hv:vcs.length=17)(hr:17<=rest.length):cC (aE vs++rest) (vs.length*17) vcs=aE vs++vcs++rest.drop 17:=by
 have hl:=eO vs h;rw[pD _ _ _ (by simp only[aW];omega),hv,<-hl,List.take_left,nV];simp
def Wj{G:Gh}{b bv cap i c2:Nat}{vs rest vcs r2:List Value}{lo lo2:Bool}(hvs: ∀v∈vs,(aG v).length=17)(hfl: ∀v∈vs,∀c∈aG v,flat c=true)(hv:vcs.length=17)(hvf: ∀c∈vcs,flat c=true)
  (hcap:vs.length*17+rest.length=cap*17)(hroom:vs.length+1<=cap)(hi:i<=vs.length)(hb:vs.length<=1125899906842624):
  j' prog 262 [.slice (some ⟨b,0,none⟩) vs.length cap, .int .i64 i, .slice (some ⟨bv,0,none⟩) 1 c2] [⟨b,aE vs++rest,210,lo⟩,⟨bv,vcs++r2,210,lo2⟩] G
   (fun u css _=>u= .slice (some ⟨b,0,none⟩) (vs.length+1) cap/\css=[aE (vs.take i)++vcs++aE (vs.drop i)++rest.drop 17,vcs++r2]):=by
 have hL:(aE vs++rest).length=cap*17:=by rw[aW,eO vs hvs];exact hcap
 have hr:17<=rest.length:=by omega
 have hD:(aE (vs.drop i)).length=(vs.length-i)*17:=by
  rw[eO (s:=17) _ (fun v hv=>hvs v (gL hv)),iQ]
 have hDf: ∀c∈aE (vs.drop i),flat c=true:=fun c hc=>by
  obtain⟨l,hl,hcl⟩:=List.mem_flatten.1 hc;obtain⟨v,hv,rfl⟩:=bQ.1 hl;exact hfl v (gL hv) c hcl
 have hvt:cD (vcs++r2) 0 (1*17)=some vcs:=by rw[mB _ _ _ (by rw[aW];omega),iZ,fQ (by omega),aS (by omega)]
 refine j'.intro func262 J J ntmps262 J ?_;intro C _ _;show St C _ _ [⟨b,aE vs++rest,210,false⟩,⟨bv,vcs++r2,210,false⟩] _ _;refine UI (fun hne=>?_);simp only[] at hne;refine sR<|sa J J<|zE<|sR<|sm J J<|sm J J<|sy (Ca J J) J<|zE<|sR<|?_;refine sm J J<|c6 J J<|sa J J<|zE<|bw<|sR<|sm J J<|sy (i9 J J) J<|zE<|zg J<|?_;refine zK<|sR<|sm J J<|c6 J J<|sa J J<|zE<|bw<|sR<|sm J J<|sm J J<|sy (i9 J J) J<|zE<|?_;refine gm J (fun hc=>?_) (fun hc=>?_) -- slot 22
 .have hin:i=vs.length:=by omega
  subst hin;refine sR<|sm J J<|sm J J<|?_;refine sc (Ns (s:=17) (m:=1) (ys:=vcs) J J (.hd ..) hL (AL inferInstance hvt) (by omega) hvf hroom J ?_);refine sa J J<|zE<|du<|?_;refine rD (css:=[cC (aE vs++rest) (vs.length*17) vcs,vcs++r2]) (.tmp J .nil) J _ (List.Perm.refl _) (List.Sublist.refl _) ⟨J,?_⟩;rw[UQ hvs hv hr,dW,fY];simp[aE]
 have hin:i<vs.length:=by omega
 have hn1:((vs.length:Int)+((1:Nat):Int)).toNat=vs.length+1:=by omega
 have ht1:((i:Int)+((1:Nat):Int)).toNat=i+1:=by omega
 refine zK<|bw<|sR<|sm J J<|sm J J<|sy (d5 J J) J<|sm J J<|?_;refine sy (Uy J) J<|sy (tP J J) J<|zE<|?_;refine gm J (fun hc2=>?_) (fun hc2=>?_) -- slot 31
 .exact absurd hc2 (by omega)
 refine zK<|sR<|sm J J<|sm J J<|sm J J<|sy (d5 J J) J<|sy (yl J J) J<|?_;rw[hn1];refine sa J J<|zE<|bw<|sR<|sm J J<|sm J J<|sm J J<|sm J J<|sy (d5 J J) J<|sy (CC J J) J<|?_;refine sy (Uh (tS:=136) (tR:=4) func281 (by kernel_rfl) (by kernel_rfl) (by kernel_rfl) (by kernel_rfl) J J (Ne.symm hne) (fun h=>by rw[h] at hL;simp at hL;omega)) J<|?_;refine sy (Dd J) J<|zE<|rP J<|?_;refine bw<|Vu (b:=b) (fun _=>false) [(0,true),(1,true),(2,true),(3,true),(4,true),(5,true),(6,true),(7,true),(8,false)] follows (.hd ..) (by kernel_rfl)<|dM J J J<|?_;refine dM J J J<|dM J J J<|dy J (fun _=>d5 J J (by omega) (by omega)) J J<|dy J (fun _=>CC J J) J J<|?_;refine dM J J J<|dM J J J<|dy J (fun _=>CC J J) J J<|?_;rw[ht1,bV,eK,eK];refine dc J J (RB (s:=17) (m:=vs.length-i) (ys:=aE (vs.drop i)) J J (by show min _ _=_;omega) (AL inferInstance (anA hvs hi)) hDf (by rw[hD,hL];omega) (.hd ..) J ?_);refine wQ<|dn<|sR<|sm J J<|sm J J<|sy (CC J J) J<|sm J J<|?_;rw[bV,eK];refine sc (RB (s:=17) (m:=1) (ys:=vcs) J J (by show min _ _=_;omega) (AL inferInstance hvt) hvf (by rw[zi,hL,hv];omega) (.hd ..) J ?_);refine zE<|sR<|sm J J<|sa J J<|zE<|du<|?_;refine rD (css:=[cC (cC (aE vs++rest) ((i+1)*17) (aE (vs.drop i))) (i*17) vcs,vcs++r2]) (.tmp J .nil) J _ (List.Perm.refl _) (List.Sublist.refl _) ⟨J,?_⟩;rw[W8 hvs hv hin hr]
def j'.toO{P:Program}{f:FuncId}{vs:List Value}{M:List aw}{G:Gh}{K:Value->List (List Value)->Gh->Prop}{K':Value->List aw->Gh->Prop}(h:j' P f vs M G K)(hk: ∀v css G',bp G G'->css.length=M.length->K v css G'-> ∃o,o.Sublist (lh (asB M) css)/\K' v o G'):nv P f vs M G K':=
 ⟨h.able,fun w hw=>(h.run w hw).mono fun _ _ ⟨v,css,G',he,hl,hh,hK⟩=>let⟨o,h1,h2⟩:=hk v css G' hh.gle hl hK;⟨v,o,G',he,hh.drop h1,h2⟩⟩
def RP(c:az):cF 17 (c.map eG):=fun d hd=>by
 obtain⟨f,_,rfl⟩:=bQ.1 hd;exact⟨rfl,rfl⟩
def Mh{G:Gh}{s:Nat}{ds:List DV}{vs:List Value}(hk:cF s ds)(h:IsLs G ds vs): ∀v∈vs,∀c∈aG v,flat c=true:=fun v hv=>by
 obtain⟨d,hd,h3⟩:=h.all v hv;exact(h3.cells (hk d hd).1).2
def Wh{c:az}{x:aP}{i cap:Nat}(hi:i<=c.length)(hc:c.length+1<=cap)(hn:c.length<=1000000):PI GB prog 262 (i:Nat) 17 210 210 (c.map eG) (eG x) cap ((c.take i++x::c.drop i).map eG):=by
 intro G w w2 B B2 _ hB hcap hB2;obtain⟨vs,q1,q2,q3,_⟩:=hB;obtain⟨us,u1,u2,u3,_⟩:=hB2;dsimp only at q1 q2 q3 u1 u2 u3;have hl:=q2.len;rw[aJ] at hl;obtain⟨v,m,rfl,hv,hm⟩:=bu.1 u2
 cases fh.1 hm
 rcases q1 with⟨_,e,_⟩|⟨b,rest,lo,e,rfl,h5,h6,h7⟩
 .rw[e] at hcap;simp at hcap;omega
 rcases u1 with⟨h,_⟩|⟨bv,r2,lo2,e2,rfl,h8,h9,h10⟩
 .cases h
 have hx:(aG v).length=17:=u3 v aZ;have hxf:=Mh (s:=17) (ds:=[eG x]) (fun d hd=>by rw[aU.1 hd];exact⟨J,J⟩) u2 v aZ;have key:=Wj (G:=G) (b:=b) (bv:=bv) (cap:=w.c) (i:=i) (c2:=w2.c) (vs:=vs) (rest:=rest) (vcs:=aG v) (r2:=r2) (lo:=lo) (lo2:=lo2) q3 (Mh (RP c) q2) hx hxf (by rw[<-h5];exact h6) (by omega) (by omega) (by omega);rw[e,e2];rw[FL];refine key.toO fun u css G' hg hl2 ⟨k1,k2⟩=>?_;subst k1 k2;have hall: ∀u∈vs.take i++v::vs.drop i,(aG u).length=17:=fun u hu=>by
  rcases bK.1 hu with hu|hu
  .exact q3 u (dJ hu)
  .rcases aT.1 hu with rfl|hu
   .exact hx
   .exact q3 u (gL hu)
 have hlen:(vs.take i++v::vs.drop i).length=vs.length+1:=by
  rw[aW,bJ,cJ,iQ];omega
 refine⟨[⟨b,aE (vs.take i)++aG v++aE (vs.drop i)++rest.drop 17,210,false⟩], .cons_cons _ (lJ _),⟨some ⟨b,0,none⟩,vs.length+1,w.c⟩,J,vs.take i++v::vs.drop i, .inr ⟨b,rest.drop 17,false,by rw[hlen],?_,eO _ hall,?_,?_⟩,?_,hall,fun h=>by cases h⟩
 .rw[qh];simp[aE]
 .rw[eO _ hall,hlen,iQ]
  rw[h5] at h6;have:=bW 17 (show vs.length+1<=w.c by omega);simp only[cM] at this⊢;omega
 .rw[hlen];show vs.length+1<=w.c;omega
 .rw[bY,cV,gR,iN]
  exact((q2.take i).up hg).app (.cons (hv.up hg) ((q2.drop i).up hg))
def SN{s:aP}{l:ab}[hs:LB s.l][hl:LB l]:PF GB prog 261 [eG s,fA l] (vI (co s.l.dir l.dir)):=by
 refine fn func261 J J ntmps261 J J (fun C=>?_);refine cl J (wW (l:=s.l)) J<|cl J (wW (l:=l)) J<|cl J (Hc (u:=s.l.dir) (v:=l.dir)) J<|?_;exact rz J J
def Bo(c:az)(l:ab)(i:Nat):Bool:=match c[i]? with
 |some s=>decide (co s.l.dir l.dir=0)
 |none=>false
def Ut(i j:Nat):((i:Int)+(j:Int)).fdiv (2^min (1:Int).toNat IntKind.u64.bits)=((i+j)/2:Nat):=by
 rw[show(2:Int)^min (1:Int).toNat IntKind.u64.bits=((2:Nat):Int) from J,gM _ (by decide)];omega
def Xn{c:az}{l:ab}{k:Nat}{s:aP}(h:c[k]? =some s):jC c l k=decide (co s.l.dir l.dir<0):=by unfold jC;rw[h]
def aId{c:az}{l:ab}{k:Nat}{s:aP}(h:c[k]? =some s):Bo c l k=decide (co s.l.dir l.dir=0):=by unfold Bo;rw[h]
def ZZ{c:az}{l:ab}{k:Nat}(h: ¬k<c.length):Bo c l k=false:=by unfold Bo;rw[dX (by omega)]
def Vc{p:Nat->Bool}{i j:Nat}(h:i<j)(hp:p ((i+j)/2)=true):gw p i j=gw p ((i+j)/2+1) j:=by rw[gw,dif_pos h,if_pos hp]
def aIg{p:Nat->Bool}{i j:Nat}(h:i<j)(hp: ¬p ((i+j)/2)=true):gw p i j=gw p i ((i+j)/2):=by rw[gw,dif_pos h,if_neg hp]
def O9{p:Nat->Bool}{i j:Nat}(h: ¬i<j:=by omega):gw p i j=i:=by rw[gw,dif_neg h]
def Y6{c:az}{l:ab}[hl:LB l](hc:iq c)(hn:c.length<=1000000):PF GB prog 260 [.sl (c.map eG),fA l, .v (.func (.func 261) #[] #[])] (.tp [vI (gw (jC c l) 0 c.length:Nat),vB (Bo c l (gw (jC c l) 0 c.length))]):=by
 have hm:=xj eG c;refine fn (fu:=⟨11⟩) func260 J J ntmps260 J J (fun C=>?_);refine ak 13 (.d (vI (c.length:Nat))) J (by rw[hm]<;>rfl) ?_;refine gx J<|?_;refine lp (X:=Nat×Nat) (fun⟨i,j⟩=>[(9, .d (vI (i:Nat))),(10, .d (vI (j:Nat)))]) (fun⟨i,j⟩=>[]) (fun⟨i,j⟩=>i<=j/\j<=c.length/\gw (jC c l) i j=gw (jC c l) 0 c.length) (fun⟨i,j⟩=>j-i) (0,c.length) J ⟨aN _,aM _,J⟩ (fun _=>J) (fun⟨i,j⟩ hk=>?_);dsimp only at hk⊢;obtain⟨h1,h2,h3⟩:=hk;refine br (fu1:=⟨10⟩) (fu2:=⟨11⟩) J J J (fun hc17=>?_) (fun hc17=>?_)
 .
  obtain⟨s,hs0⟩: ∃s,c[(i+j)/2]? =some s:=⟨_,aQ (by omega)⟩;haveI:=(hc s (aV hs0)).lb;have hang:=Xn (l:=l) hs0;refine ak 22 (.d (.v (.int .u64 ((i+j)/2:Nat)))) J (by rw[Ut]) ?_;refine gx J<|ix _ J (cA hs0) J<|cl J (SN (s:=s) (l:=l)) J<|?_;refine br J J J (fun hc31=>?_) (fun hc31=>?_)
  .
   exact at_ ((i+j)/2+1,j) (by dsimp only;exact⟨⟨by omega,h2,by rw[<-h3,Vc (i:=i) (j:=j) (by omega) (by rw[hang];exact decide_eq_true hc31)]⟩,(by omega)⟩)
  .
   exact at_ (i,(i+j)/2) (by dsimp only;exact⟨⟨by omega,by omega,by rw[<-h3,aIg (i:=i) (j:=j) (by omega) (by rw[hang,decide_eq_false hc31];exact Bool.false_ne_true)]⟩,(by omega)⟩)
 .
  refine mr (v2:=fun hg39=>by simp only[ah];kernel_rfl) J J J J (fun hg39=>?_) (fun hg39=>?_)
  .
   have he:=O9 (p:=jC c l) (i:=i) (j:=j);obtain⟨s,hs0⟩: ∃s,c[i]? =some s:=⟨_,aQ (by omega)⟩;haveI:=(hc s (aV hs0)).lb;refine ix _ J (cA hs0) J<|cl J (SN (s:=s) (l:=l)) J<|?_;exact rz J (by rw[<-h3,he,aId hs0];rfl)
  .
   have he:=O9 (p:=jC c l) (i:=i) (j:=j);exact rz J (by rw[<-h3,he,ZZ (by omega)];rfl)
def LJ{l:ab}[LB l](hlo:l.ok): ∀{c:az} {v w:aj},iq c->s7 v->nG l c v=some w->s7 w
 |[],v,w,_,hv,h=>by cases h;exact hv
 |s::t,v,w,hc,hv,h=>by
  haveI:=(hc s aZ).lb;simp only[nG] at h;split at h
  .exact LJ hlo (fun x hx=>hc x (aK _ hx)) (hv.cut hlo.1) h
  .cases h
def Cd{l:ab}[LB l]: ∀{c:az},iq c->iq (eH l c)
 |[],_,s,h=>by cases h
 |a::t,hc,s,h=>by
  have ha:=hc a aZ;haveI:=ha.lb;have ht:=Cd (l:=l) (fun x hx=>hc x (aK _ hx));unfold eH at h;split at h
  .rcases aT.1 h with rfl|h
   .exact⟨ha.lb,ha.ok,ha.v.cut ha.ok.1⟩
   .exact ht s h
  .exact ht s h
def vX{l:ab}[hl:LB l](hlo:l.ok){c:az}(hc:iq c):iq (b8 c l):=by
 unfold b8;split
 .rename_i v hv
  intro s hs;unfold nq at hs;rcases bK.1 hs with h|h
  .exact Cd hc s (dJ h)
  .rcases aT.1 h with rfl|h
   .exact⟨hl,hlo,LJ hlo hc .all hv⟩
   .exact Cd hc s (gL h)
 .exact hc
def O'{l:ab}{c:az}{k:Nat}{s:aP}(h:c[k]? =some s):eH l (c.drop k)=if s.l.cutB s.v l then⟨s.l,s.l.cutV s.v l⟩::eH l (c.drop (k+1)) else eH l (c.drop (k+1)):=by
 rw[GH h];rfl
def PQ{c:az}{l:ab}[hl:LB l](hlo:l.ok)(hc:iq c)(hn:c.length<=100000):PF GB prog 225 [.sl (c.map eG),fA l] (.tp [.sl ((b8 c l).map eG),vB (di c l)]):=by
 have hm:=xj eG c;refine fn func225 J J ntmps225 J J (fun C=>?_);refine cl J (O5 (c:=c) (l:=l) hlo hc (by omega)) J<|?_;refine bb (fu2:=⟨6⟩) J J J (fun hc22=>?_) (fun hc22=>?_)
 .
  have hp:lI c l=none:=by simpa using hc22
  refine cl J (aD6 (c:=c) (l:=l) hlo hc (by omega)) J<|?_;exact rz J (by unfold b8 di;rw[hp];rfl)
 .
  obtain⟨v,hv⟩: ∃v,lI c l=some v:=qL.1 (by simpa using hc22);have hvd:Jk (lI c l)=v:=by rw[hv];rfl
  rw[hvd];refine ak 29 (.d (vI (c.length:Nat))) J (by rw[hm]<;>rfl) ?_;refine gx J<|ZI (fu:=⟨8⟩) (c.length+1) J J J<|?_;refine ak 33 (.d (vI (c.length:Nat))) J (by rw[hm]<;>rfl) ?_;refine gx J<|?_;refine lp (X:=az×Nat) (fun⟨o,k⟩=>[(34, .d (vI (k:Nat))),(8, .rw 31)]) (fun⟨o,k⟩=>[(31,some (.c 210 17 (o.map eG) (c.length+1)))]) (fun⟨o,k⟩=>k<=c.length/\o.length<=k/\o++eH l (c.drop k)=eH l c) (fun⟨o,k⟩=>c.length-k) ([],0) J ⟨aN _,aM _,J⟩ (fun _=>J) (fun⟨o,k⟩ hk=>?_);dsimp only at hk⊢;obtain⟨h1,h2,h3⟩:=hk;have hmo:=xj eG o;refine br J J J (fun hc35=>?_) (fun hc35=>?_)
  .
   obtain⟨s,hs0⟩: ∃s,c[k]? =some s:=⟨_,aQ (by omega)⟩;have hs:=hc s (aV hs0);haveI:=hs.lb;haveI:=hs.v.lo;haveI:=hs.v.hi;refine ix _ J (cA hs0) J<|cl (fu:=⟨0⟩) J (M0 (l:=s.l) (m:=l) (v:=s.v)) J<|?_;generalize hw:s.l.cutV s.v l=w;generalize hb:s.l.cutB s.v l=b;refine gx J<|?_;refine bb J J J (fun hc47=>?_) (fun hc47=>?_)
   .
    refine rf J J<|apc ((o++[aP.mk s.l w]).map eG) J (by rw[bY];rfl) (RP [aP.mk s.l w]) (by rw[hmo];simp;omega) J<|?_;refine fE 54 31 J ?_;exact at_ (o++[aP.mk s.l w],k+1) (by dsimp only;exact⟨⟨by omega,by simp;omega,by rw[<-h3,O' hs0,hb,if_pos hc47,hw,gX];rfl⟩,(by omega)⟩)
   .
    exact at_ (o,k+1) (by dsimp only;exact⟨⟨by omega,by omega,by rw[<-h3,O' hs0,hb,if_neg (by simp[hc47])]⟩,(by omega)⟩)
  .
   obtain rfl:k=c.length:=by omega
   have ho:o=eH l c:=by rw[<-h3,fY];simp[eH]
   subst ho;have hbl:=(Eg (jC (eH l c) l) (eH l c).length 0 (eH l c).length (by omega) (by omega)).2;refine cL J (Y6 (c:=eH l c) (l:=l) (Cd hc) (by omega)) J J<|ro J J<|ci ((nq (eH l c) l v).map eG) J (Wh (c:=eH l c) (x:=⟨l,v⟩) (i:=gw (jC (eH l c) l) 0 (eH l c).length) (cap:=c.length+1) hbl (by omega) (by omega)) J J<|?_;refine gI 68 J ?_;exact rz J (by unfold b8 di;rw[hv];rfl)
def Pm{c:az}{l:ab}[hl:LB l](hlo:l.ok)(hc:iq c)(hn:c.length<=100000:=by omega):PF GB prog 176 [.sl (c.map eG),fA l] (.tp [.sl ((b8 c l).map eG), .sl ((b8 c l.rev).map eG),vB (di c l),vB (di c l.rev)]):=by
 refine fn func176 J J ntmps176 J J (fun C=>?_);refine cl J (PQ (c:=c) (l:=l) hlo hc hn) J<|cl J (YE (l:=l)) J<|cl J (PQ (c:=c) (l:=l.rev) hlo.rev hc hn) J<|?_;exact rz J J
def cU:Tr->List DV
 | .leaf b=>[vI 0,vI 0, .v (.pointer none),vI 0,vI 0, .v (.pointer none),vI 0,vI 0, .v (.pointer none), .v (.pointer none), .v (.pointer none), .v (.bool b)]
 | .node l x y=>[vI (cH (l.a:Rat)),vI (cG (l.a:Rat)),cP (l.a:Rat),vI (cH (l.b:Rat)),vI (cG (l.b:Rat)),cP (l.b:Rat),vI (cH (l.c:Rat)),vI (cG (l.c:Rat)),cP (l.c:Rat), .pt (cU x), .pt (cU y), .v (.bool false)]
def eU(t:Tr):DV:= .pt (cU t)
def xB{b:Bool}:PF GB prog 138 [.v (.bool b)] (eU (.leaf b)):=by
 refine fn func138 J J ntmps138 J J (fun C=>?_);refine gI 5 J ?_;exact rz J J
def Dk{l:ab}{x y:Tr}:PF GB prog 140 [fA l,eU x,eU y] (eU (.node l x y)):=by
 refine fn func140 J J ntmps140 J J (fun C=>?_);refine gI 11 J ?_;exact rz J J
def vg{b:Bool}:PF GB prog 105 [eU (.leaf b)] (.v (.bool true)):=by
 refine fn func105 J J ntmps105 J J (fun C=>?_);exact rz J J
def ui{l:ab}{x y:Tr}:PF GB prog 105 [eU (.node l x y)] (.v (.bool false)):=by
 refine fn func105 J J ntmps105 J J (fun C=>?_);exact rz J J
def TM{l l1:ab}{x y u:Tr}:PF GB prog 177 [fA l,eU (.node l1 x y),eU u] (eU (.node l (.node l1 x y) u)):=by
 refine fn func177 J J ntmps177 J J (fun C=>?_);refine cl (fu:=⟨0⟩) J ui J<|ck J J J<|cl J Dk J<|?_;exact rz J J
def UT{l l1:ab}{x y:Tr}{p:Bool}:PF GB prog 177 [fA l,eU (.leaf p),eU (.node l1 x y)] (eU (.node l (.leaf p) (.node l1 x y))):=by
 refine fn func177 J J ntmps177 J J (fun C=>?_);refine cl (fu:=⟨0⟩) J vg J<|cB J J J<|cl (fu:=⟨1⟩) J ui J<|ck J J J<|cl J Dk J<|?_;exact rz J J
def atH{l:ab}{p q:Bool}:PF GB prog 177 [fA l,eU (.leaf p),eU (.leaf q)] (eU (Tr.joinQ l (.leaf p) (.leaf q))):=by
 refine fn func177 J J ntmps177 J J (fun C=>?_);refine cl (fu:=⟨0⟩) J vg J<|cB J J J<|cl (fu:=⟨1⟩) J vg J<|cB J J J<|?_;refine bb J J J (fun hc23=>?_) (fun hc23=>?_)
 .
  exact rz J (by rw[show Tr.joinQ l (.leaf p) (.leaf q)= .leaf p by simp[Tr.joinQ,Tr.isLeaf,Tr.code,hc23]];rfl)
 .
  refine cl J Dk J<|?_;exact rz J (by rw[show Tr.joinQ l (.leaf p) (.leaf q)= .node l (.leaf p) (.leaf q) by simp[Tr.joinQ,Tr.isLeaf,Tr.code,hc23]];rfl)
def WZ{l:ab}: ∀{x y:Tr},PF GB prog 177 [fA l,eU x,eU y] (eU (Tr.joinQ l x y))
 | .leaf _, .leaf _=>atH
 | .leaf _, .node .. =>UT
 | .node ..,_=>TM
def ao0{b:Bool}:PF GB prog 55 [eU (.leaf b)] (vI (Tr.depth (.leaf b):Nat)):=by
 refine fn func55 J J ntmps55 J J (fun C=>?_);refine cl (fu:=⟨0⟩) J vg J<|?_;refine lG 4 J ?_;refine gx J<|?_;exact rz J J
def Wy{l:ab}{x y:Tr}(hd:(Tr.node l x y).depth<=1000000)(ihx:PF GB prog 55 [eU x] (vI (Tr.depth x:Nat)))(ihy:PF GB prog 55 [eU y] (vI (Tr.depth y:Nat))):PF GB prog 55 [eU (.node l x y)] (vI (Tr.depth (.node l x y):Nat)):=by
 have hdp:(Tr.node l x y).depth=1+max x.depth y.depth:=J;have hdx:=rX x.depth y.depth;have hdy:=qK x.depth y.depth;refine fn func55 J J ntmps55 J J (fun C=>?_);refine cl (fu:=⟨0⟩) J ui J<|?_;refine vf 4 J ?_;refine gx J<|cl J ihx J<|cl (hv:=by simp only[ah];exact⟨by omega,by kernel_rfl⟩) J ihy J<|?_;exact rz J (by show DV.v (.int _ _)= .v (.int _ _);congr 2;split<;>omega)
def C0: ∀{t:Tr},t.depth<=1000000->PF GB prog 55 [eU t] (vI (Tr.depth t:Nat))
 | .leaf _,_=>ao0
 | .node l x y,h=>Wy h (C0 (by have:=rX x.depth y.depth;have:(Tr.node l x y).depth=1+max x.depth y.depth:=J;omega)) (C0 (by have:=qK x.depth y.depth;have:(Tr.node l x y).depth=1+max x.depth y.depth:=J;omega))
def WC{b:Bool}{c:az}:PF GB prog 106 [eU (.leaf b), .sl (c.map eG)] (eU (Tr.restrict (.leaf b) c)):=by
 refine fn func106 J J ntmps106 J J (fun C=>?_);refine cl (fu:=⟨0⟩) J vg J<|?_;refine lG 10 J ?_;refine gx J<|?_;exact rz J J
def ZE{l:ab}{x y:Tr}{c:az}(hl:LB l)(hlo:l.ok)(hc:iq c)(hn:c.length+(Tr.node l x y).depth<=100000)(ihx: ∀{c:az},iq c->c.length+x.depth<=100000->PF GB prog 106 [eU x, .sl (c.map eG)] (eU (Tr.restrict x c)))(ihy: ∀{c:az},iq c->c.length+y.depth<=100000->PF GB prog 106 [eU y, .sl (c.map eG)] (eU (Tr.restrict y c))):PF GB prog 106 [eU (.node l x y), .sl (c.map eG)] (eU (Tr.restrict (.node l x y) c)):=by
 have hdp:(Tr.node l x y).depth=1+max x.depth y.depth:=J;have hdx:=rX x.depth y.depth;have hdy:=qK x.depth y.depth;have hca:=yt c l;have hcb:=yt c l.rev;refine fn func106 J J ntmps106 J J (fun C=>?_);refine cl (fu:=⟨0⟩) J ui J<|?_;refine vf 10 J ?_;refine gx J<|cl J (Pm (c:=c) (l:=l) hlo hc) J<|?_;refine bb J J J (fun hc23=>?_) (fun hc23=>?_)
 .
  refine cl J (ihx hc (by omega)) J<|?_;exact rz J (by rw[Tr.restrict,if_pos hc23];rfl)
 .
  refine bb J J J (fun hc32=>?_) (fun hc32=>?_)
  .
   refine cl J (ihy hc (by omega)) J<|?_;exact rz J (by rw[Tr.restrict,if_neg (by simp[hc23]),if_pos hc32];rfl)
  .
   refine cl J (ihx (c:=b8 c l) (vX hlo hc) (by omega)) J<|cl J (ihy (c:=b8 c l.rev) (vX hlo.rev hc) (by omega)) J<|cl J WZ J<|?_;exact rz J (by rw[Tr.restrict,if_neg (by simp[hc23]),if_neg (by simp[hc32])];rfl)
def JZ: ∀{t:Tr} {c:az},t.all LB->t.all ab.ok->iq c->c.length+t.depth<=100000->PF GB prog 106 [eU t, .sl (c.map eG)] (eU (Tr.restrict t c))
 | .leaf _,_,_,_,_,_=>WC
 | .node l x y,c,hb,ho,hc,hn=>ZE hb.1 ho.1 hc hn (fun h1 h2=>JZ hb.2.1 ho.2.1 h1 h2) (fun h1 h2=>JZ hb.2.2 ho.2.2 h1 h2)
def ayD{t:Tr}(hb:t.all LB)(ho:t.all ab.ok)(hd:t.depth<=100000):PF GB prog 56 [eU t] (eU (t.restrict [])):=by
 refine fn func56 J J ntmps56 J J (fun C=>?_);refine cl J (JZ (t:=t) (c:=[]) hb ho (fun s h=>by cases h) (by simpa using hd)) J<|?_;exact rz J J
def Tr.compl:Tr->Tr
 | .leaf b=> .leaf !b
 | .node l x y=> .node l x.compl y.compl
def Tr.chooseQ(op:Int)(b:Bool)(t:Tr)(c:az):Tr:=
 if op=1\/op=2 then(if b=decide (op=1) then .leaf b else t.restrict c)
 else if op=3/\b=false then .leaf false
 else if b then(t.restrict c).compl else t.restrict c
def Tr.mergeQ(op:Int):Tr->Tr->az->Tr
 | .leaf b,u,c=>u.chooseQ op b c
 | .node l x y,u,c=>if !di c l.rev then x.mergeQ op u c else if !di c l then y.mergeQ op u c else joinQ l (x.mergeQ op u (b8 c l)) (y.mergeQ op u (b8 c l.rev))
def TW:DV:= .ag [vI 0,vI 0, .v (.pointer none),vI 0,vI 0, .v (.pointer none),vI 0,vI 0, .v (.pointer none)]
def uC:Option ab->DV
 |some l=> .tp [fA l,vB true]
 |none=> .tp [TW,vB false]
def N8{l:ab}(h: ¬l.ok)(hz: ¬(l.a=0/\l.b=0)):decide (rgcd (rgcd (l.a:Rat) (l.b:Rat)) (l.c:Rat)=((1:Int):Rat))=false:=by
 rw[Ar,Ar];refine decide_eq_false fun e=>h ⟨hz,?_⟩;simp only[jR] at e;have:=oQ.1 e;omega
def ayQ{l:ab}[hl:LB l](ha:l.a=0)(hb:l.b=0):PF GB prog 139 [eL l] (uC none):=by
 refine fn func139 J J ntmps139 J J (fun C=>?_);refine cl (fu:=⟨0⟩) J (rk (m:=l.a)) J<|ck J J J<|cl (fu:=⟨0⟩) J (rk (m:=l.b)) J<|ck J J J<|cl (fu:=⟨0⟩) J (rk (m:=l.c)) J<|?_;refine ck J J J<|cl J (tB (m:=l.a)) J<|cl J (tB (m:=l.b)) J<|cl J (tB (m:=l.c)) J<|cl (fu:=⟨0⟩) J (xk (q:=(l.a:Rat))) J<|?_;refine cB J (by show some (decide _)=some true;rw[ha];rfl) J<|cl (fu:=⟨0⟩) J (xk (q:=(l.b:Rat))) J<|cB J (by show some (decide _)=some true;rw[hb];rfl) J<|?_;exact rz J J
def axY{l:ab}[hl:LB l](hz: ¬(l.a=0/\l.b=0))(ho: ¬l.ok):PF GB prog 139 [eL l] (uC none):=by
 refine fn func139 J J ntmps139 J J (fun C=>?_);refine cl (fu:=⟨0⟩) J (rk (m:=l.a)) J<|ck J J J<|cl (fu:=⟨0⟩) J (rk (m:=l.b)) J<|ck J J J<|cl (fu:=⟨0⟩) J (rk (m:=l.c)) J<|?_;refine ck J J J<|cl J (tB (m:=l.a)) J<|cl J (tB (m:=l.b)) J<|cl J (tB (m:=l.c)) J<|cl (fu:=⟨0⟩) J (xk (q:=(l.a:Rat))) J<|?_;refine mr (fu2:=⟨4⟩) J J J J (fun hg35=>?_) (fun hg35=>?_)
 .
  have ha:l.a=0:=dZ.1 hg35;refine cl (fu:=⟨1⟩) J (xk (q:=(l.b:Rat))) J<|ck J (by first|rfl|(show some (decide _)=some false;rw[decide_eq_false (fun e=>hz ⟨ha,dZ.1 e⟩)])) J<|?_;refine cl J (s6 (p:=(l.a:Rat)) (q:=(l.b:Rat))) J<|cl J (s6 (p:=rgcd l.a l.b) (q:=(l.c:Rat))) J<|cl J (sr (m:=1)) J<|?_;refine cl (fu:=⟨0⟩) J (yp (p:=rgcd (rgcd l.a l.b) l.c) (q:=((1:Int):Rat))) J<|cB J (by show some (!decide _)=some true;rw[N8 ho hz];rfl) J<|?_;exact rz J J
 .
  refine ck J (by first|rfl|(show some (decide _)=some false;rw[decide_eq_false (fun e=>hz ⟨ha,dZ.1 e⟩)])) J<|cl J (s6 (p:=(l.a:Rat)) (q:=(l.b:Rat))) J<|?_;refine cl J (s6 (p:=rgcd l.a l.b) (q:=(l.c:Rat))) J<|cl J (sr (m:=1)) J<|cl (fu:=⟨0⟩) J (yp (p:=rgcd (rgcd l.a l.b) l.c) (q:=((1:Int):Rat))) J<|?_;refine cB J (by show some (!decide _)=some true;rw[N8 ho hz];rfl) J<|?_;exact rz J J
def aBJ{l:ab}[hl:LB l][Decidable l.ok]:PF GB prog 139 [eL l] (uC (if l.ok then some l else none)):=by
 split
 .rename_i h;exact aHp h
 .rename_i h
  by_cases hz:l.a=0/\l.b=0
  .exact ayQ hz.1 hz.2
  .exact axY hz h
def me(n:Bool)(ds:List Nat):Prop:=eo ds/\(n=true->0<ds.length)
instance (n:Bool) (ds:List Nat):Decidable (me n ds):=inferInstanceAs (Decidable (_/\_))
def xK{neg:Bool}{ds:List Nat}(h:bi ds/\ds.length<=3):PF GB prog 191 [.ag [.v (.bool neg),fC ds]] (vB (decide (me neg ds))):=SF h.1 (by have:=h.2;omega)
structure RL where
 na:Bool
 da:List Nat
 nb:Bool
 db:List Nat
 nc:Bool
 dc:List Nat
def RL.d(r:RL):DV:= .ag [.v (.bool r.na),fC r.da, .v (.bool r.nb),fC r.db, .v (.bool r.nc),fC r.dc]
def o6(n:Bool)(ds:List Nat):Int:=if n then-(dv ds:Int) else dv ds
def RL.l(r:RL):ab:=⟨o6 r.na r.da,o6 r.nb r.db,o6 r.nc r.dc⟩
def RL.nm(r:RL):Prop:=me r.na r.da/\me r.nb r.db/\me r.nc r.dc
instance (l:ab):Decidable l.ok:=inferInstanceAs (Decidable (_/\_))
instance (r:RL):Decidable r.nm:=inferInstanceAs (Decidable (_/\_/\_))
def RL.ln(r:RL):Option ab:=if r.nm/\r.l.ok then some r.l else none
structure RL.sm (r:RL):Prop where
 a:bi r.da/\r.da.length<=3
 b:bi r.db/\r.db.length<=3
 c:bi r.dc/\r.dc.length<=3
def RZ(n:Bool)(ds:List Nat):(o6 n ds).natAbs=dv ds:=by unfold o6;cases n<;>simp
def FO{n:Bool}{ds:List Nat}(hd:bi ds)(h:me n ds):decide (o6 n ds<0)=n:=by
 unfold o6
 cases n with
 |false=>simp
 |true=>
  have h0:0<dv ds:=by
   refine iY fun e=>?_;have:=x9 hd h.1;rw[e,yc] at this;have h2:=h.2 J;rw[<-this] at h2;exact absurd h2 (by decide)
  simp only[if_true,decide_eq_true_eq];omega
def RL.eL{r:RL}(s:r.sm)(h:r.nm):r.d=Go.Sx.eL r.l:=by
 unfold RL.d Go.Sx.eL RL.l;simp only[RZ,FO s.a.1 h.1,FO s.b.1 h.2.1,FO s.c.1 h.2.2,dN,x9 s.a.1 h.1.1,x9 s.b.1 h.2.1.1,x9 s.c.1 h.2.2.1];rfl
theorem RL.lb{r:RL}(s:r.sm):LB r.l:=by
 have key: ∀(n:Bool) (ds:List Nat),bi ds/\ds.length<=3->(o6 n ds).natAbs<2^96:=fun n ds h=>by
  rw[RZ];refine dY (jx h.1) ?_;rw[show(2:Nat)^96=4294967296^3 by decide];exact bU (by decide) h.2
 exact⟨key _ _ s.a,key _ _ s.b,key _ _ s.c⟩
def azf{r:RL}(s:r.sm)(h: ¬me r.na r.da):PF GB prog 139 [r.d] (uC none):=by
 refine fn func139 J J ntmps139 J J (fun C=>?_);refine cl (fu:=⟨0⟩) J (xK (neg:=r.na) (ds:=r.da) s.a) J<|cB J (by show some (!decide _)=some true;rw[decide_eq_false h];rfl) J<|?_;exact rz J J
def YH{r:RL}(s:r.sm)(h1:me r.na r.da)(h: ¬me r.nb r.db):PF GB prog 139 [r.d] (uC none):=by
 refine fn func139 J J ntmps139 J J (fun C=>?_);refine cl (fu:=⟨0⟩) J (xK (neg:=r.na) (ds:=r.da) s.a) J<|ck J (by show some (!decide _)=some false;rw[decide_eq_true h1];rfl) J<|cl (fu:=⟨0⟩) J (xK (neg:=r.nb) (ds:=r.db) s.b) J<|?_;refine cB J (by show some (!decide _)=some true;rw[decide_eq_false h];rfl) J<|?_;exact rz J J
def Y5{r:RL}(s:r.sm)(h1:me r.na r.da)(h2:me r.nb r.db)(h: ¬me r.nc r.dc):PF GB prog 139 [r.d] (uC none):=by
 refine fn func139 J J ntmps139 J J (fun C=>?_);refine cl (fu:=⟨0⟩) J (xK (neg:=r.na) (ds:=r.da) s.a) J<|ck J (by show some (!decide _)=some false;rw[decide_eq_true h1];rfl) J<|cl (fu:=⟨0⟩) J (xK (neg:=r.nb) (ds:=r.db) s.b) J<|?_;refine ck J (by show some (!decide _)=some false;rw[decide_eq_true h2];rfl) J<|cl (fu:=⟨0⟩) J (xK (neg:=r.nc) (ds:=r.dc) s.c) J<|cB J (by show some (!decide _)=some true;rw[decide_eq_false h];rfl) J<|?_;exact rz J J
def NT{r:RL}(s:r.sm):PF GB prog 139 [r.d] (uC r.ln):=by
 by_cases h1:me r.na r.da
 .by_cases h2:me r.nb r.db
  .by_cases h3:me r.nc r.dc
   .haveI:=RL.lb s
    rw[RL.eL s ⟨h1,h2,h3⟩,show r.ln=if r.l.ok then some r.l else none by unfold RL.ln;simp[show r.nm from⟨h1,h2,h3⟩]];exact aBJ
   .rw[show r.ln=none from if_neg fun e=>h3 e.1.2.2]
    exact Y5 s h1 h2 h3
  .rw[show r.ln=none from if_neg fun e=>h2 e.1.2.1]
   exact YH s h1 h2
 .rw[show r.ln=none from if_neg fun e=>h1 e.1.1]
  exact azf s h1
def mE(n:Nat)(f:Nat->Bool):List Value:=(List.range n).map fun j=> .bool (f j)
def lx(f:Nat->Bool)(i:Nat):Nat->Bool:=fun j=>f j||Nat.beq j i
def Jw(n:Nat)(f:Nat->Bool):(mE n f).length=n:=by simp[mE]
def CT{n i:Nat}{f:Nat->Bool}{b:Bool}(h:i<n)(hf:f i=b):(mE n f)[i]? =some (.bool b):=by simp[mE,h,hf]
def y8{f:Nat->Bool}{i j:Nat}(e:j≠i):lx f i j=f j:=by
 unfold lx
 cases hb:Nat.beq j i with
 |false=>rw[sW]
 |true=>exact absurd (aL hb) e
def RW{f:Nat->Bool}{i:Nat}:lx f i i=true:=by
 unfold lx;rw[oX,Bool.or_true]
def Ra(n i:Nat)(f:Nat->Bool):(mE n f).set i (.bool true)=mE n (lx f i):=by
 apply kU;intro j;rw[mR];simp only[mE,aJ,lR,cK];by_cases hj:j<n
 .rw[oS hj]
  simp only[jX];by_cases e:i=j
  .subst e;simp[hj,RW]
  .rw[y8 (fun h=>e h.symm)];simp[e]
 .rw[dX (by simpa using hj)]
  by_cases e:i=j
  .subst e;simp[hj]
  .simp[e]
def apV(n:Nat):dw (.bool false) n=mE n (fun _=>false):=by
 apply kU;intro j;by_cases hj:j<n
 .rw[CT hj J]
  unfold dw;rw[Gw (aG (.bool false)) n j (by simpa[aG] using hj)];simp[aG,Nat.mod_one]
 .rw[dX (by rw[pw];simp[aG];omega),dX (by rw[Jw];omega)]
structure RN where
 g:RL
 l:Int
 r:Int
def RN.d(n:RN):DV:= .ag [.v (.bool n.g.na),fC n.g.da, .v (.bool n.g.nb),fC n.g.db, .v (.bool n.g.nc),fC n.g.dc, .v (.int .i64 n.l), .v (.int .i64 n.r)]
structure RS where
 f:Nat->Bool
 c:Nat
 b:Bool
inductive RR (ns:List RN):Int->RS->Tr->RS->Prop where
 |leaf (b:Bool) (s:RS):RR ns (so b) s (.leaf b) s
 |bad (rt:Int) (s:RS) (h1:rt≠ -1) (h2:rt≠ -2) (h:rt<0\/(ns.length:Int)<=rt\/(∃k:Nat,rt=k/\k<ns.length/\s.f k=true)):RR ns rt s (.leaf false) ⟨s.f,s.c,true⟩
 |line (k:Nat) (n:RN) (s:RS) (h:ns[k]? =some n) (hf:s.f k=false) (hl:n.g.ln=none):RR ns (k:Int) s (.leaf false) ⟨lx s.f k,s.c+1,true⟩
 |node (k:Nat) (n:RN) (l:ab) (s s2 s3:RS) (x y:Tr) (h:ns[k]? =some n) (hf:s.f k=false) (hl:n.g.ln=some l) (h1:RR ns n.l ⟨lx s.f k,s.c+1,s.b⟩ x s2) (h2:RR ns n.r s2 y s3):RR ns (k:Int) s (.node l x y) s3
def RR.mono{ns:List RN}{rt:Int}{s s':RS}{t:Tr}(h:RR ns rt s t s'):s.c<=s'.c:=by
 induction h with
 |leaf=>exact aM _
 |bad=>exact aM _
 |line=>exact Nat.le_succ _
 |node k n l s s2 s3 x y h hf hl h1 h2 i1 i2=>simp only at i1;omega
def IY{G:Gh}{q:Rat}{v:Value}(h:Is G (cP q) v): ∃p,v= .pointer p:=by
 rcases xf.1 h with⟨_,h⟩|⟨_,h⟩
 .exact⟨_,h⟩
 .obtain⟨b,m,h,_⟩:=rm.1 h;exact⟨_,h⟩
def Yq{G:Gh}{l:ab}{v:Value}(h:Is G (fA l) v): ∃n1 d1 p1 n2 d2 p2 n3 d3 p3,v= .agg ⟨[.int .i64 n1, .int .i64 d1, .pointer p1, .int .i64 n2, .int .i64 d2, .pointer p2, .int .i64 n3, .int .i64 d3, .pointer p3]⟩:=by
 obtain⟨m,rfl,g⟩:=et.1 h;clear h;obtain⟨v1,m,rfl,h1,h⟩:=bu.1 g;obtain⟨v2,m,rfl,h2,h⟩:=bu.1 h;obtain⟨v3,m,rfl,h3,h⟩:=bu.1 h;obtain⟨v4,m,rfl,h4,h⟩:=bu.1 h;obtain⟨v5,m,rfl,h5,h⟩:=bu.1 h;obtain⟨v6,m,rfl,h6,h⟩:=bu.1 h;obtain⟨v7,m,rfl,h7,h⟩:=bu.1 h;obtain⟨v8,m,rfl,h8,h⟩:=bu.1 h;obtain⟨v9,m,rfl,h9,h⟩:=bu.1 h;rw[fh] at h;subst h;obtain⟨_,rfl⟩:=IY h3;obtain⟨_,rfl⟩:=IY h6;obtain⟨_,rfl⟩:=IY h9;rw[bc.1 h1,bc.1 h2,bc.1 h4,bc.1 h5,bc.1 h7,bc.1 h8];exact⟨_,_,_,_,_,_,_,_,_,J⟩
def RC{G:Gh}{o:Option ab}{v:Value}(h:Is G (uC o) v): ∃n1 d1 p1 n2 d2 p2 n3 d3 p3,v= .tuple #[.agg ⟨[.int .i64 n1, .int .i64 d1, .pointer p1, .int .i64 n2, .int .i64 d2, .pointer p2, .int .i64 n3, .int .i64 d3, .pointer p3]⟩, .bool o.isSome]/\
  ∀l,o=some l->Is G (fA l) (.agg ⟨[.int .i64 n1, .int .i64 d1, .pointer p1, .int .i64 n2, .int .i64 d2, .pointer p2, .int .i64 n3, .int .i64 d3, .pointer p3]⟩):=by
 cases o with
 |some l=>
  obtain⟨m,rfl,g⟩:=i8.1 h;obtain⟨v1,m,rfl,h1,h⟩:=bu.1 g;obtain⟨v2,m,rfl,h2,h⟩:=bu.1 h;rw[fh] at h;subst h;obtain⟨n1,d1,p1,n2,d2,p2,n3,d3,p3,rfl⟩:=Yq h1;rw[bc.1 h2];exact⟨n1,d1,p1,n2,d2,p2,n3,d3,p3,J,fun k e=>by cases e;exact h1⟩
 |none=>
  obtain⟨m,rfl,g⟩:=i8.1 h;obtain⟨v1,m,rfl,h1,h⟩:=bu.1 g;obtain⟨v2,m,rfl,h2,h⟩:=bu.1 h;rw[fh] at h;subst h;clear g h;obtain⟨m,rfl,g⟩:=et.1 h1;obtain⟨w1,m,rfl,k1,h⟩:=bu.1 g;obtain⟨w2,m,rfl,k2,h⟩:=bu.1 h;obtain⟨w3,m,rfl,k3,h⟩:=bu.1 h;obtain⟨w4,m,rfl,k4,h⟩:=bu.1 h;obtain⟨w5,m,rfl,k5,h⟩:=bu.1 h;obtain⟨w6,m,rfl,k6,h⟩:=bu.1 h;obtain⟨w7,m,rfl,k7,h⟩:=bu.1 h;obtain⟨w8,m,rfl,k8,h⟩:=bu.1 h;obtain⟨w9,m,rfl,k9,h⟩:=bu.1 h;rw[fh] at h;subst h;rw[bc.1 k1,bc.1 k2,bc.1 k3,bc.1 k4,bc.1 k5,bc.1 k6,bc.1 k7,bc.1 k8,bc.1 k9];rw[bc.1 h2];exact⟨_,_,_,_,_,_,_,_,_,J,fun k e=>by cases e⟩
def Pt{G:Gh}{n:RN}{v:Value}(h:Is G n.d v): ∃x1 x2 x3:SV,v= .agg ⟨[.bool n.g.na, .slice x1.a x1.n x1.c, .bool n.g.nb, .slice x2.a x2.n x2.c, .bool n.g.nc, .slice x3.a x3.n x3.c, .int .i64 n.l, .int .i64 n.r]⟩/\
  Is G n.g.d (.agg ⟨[.bool n.g.na, .slice x1.a x1.n x1.c, .bool n.g.nb, .slice x2.a x2.n x2.c, .bool n.g.nc, .slice x3.a x3.n x3.c]⟩):=by
 obtain⟨m,rfl,g⟩:=et.1 h;clear h;obtain⟨v1,m,rfl,h1,h⟩:=bu.1 g;obtain⟨v2,m,rfl,h2,h⟩:=bu.1 h;obtain⟨v3,m,rfl,h3,h⟩:=bu.1 h;obtain⟨v4,m,rfl,h4,h⟩:=bu.1 h;obtain⟨v5,m,rfl,h5,h⟩:=bu.1 h;obtain⟨v6,m,rfl,h6,h⟩:=bu.1 h;obtain⟨v7,m,rfl,h7,h⟩:=bu.1 h;obtain⟨v8,m,rfl,h8,h⟩:=bu.1 h;rw[fh] at h;subst h;obtain⟨_,x1,_,rfl,_,_⟩:=iG.1 (id h2);obtain⟨_,x2,_,rfl,_,_⟩:=iG.1 (id h4);obtain⟨_,x3,_,rfl,_,_⟩:=iG.1 (id h6)
 cases bc.1 h1;cases bc.1 h3;cases bc.1 h5;cases bc.1 h7;cases bc.1 h8
 exact⟨x1,x2,x3,J,et.2 ⟨_,J, .cons h1 (.cons h2 (.cons h3 (.cons h4 (.cons h5 (.cons h6 .nil)))))⟩⟩
def wo{G:Gh}{t:Tr}{v:Value}(h:Is G (eU t) v): ∃p,v= .pointer p:=by
 obtain⟨b,m,h,_⟩:=rm.1 h;exact⟨_,h⟩
def PF.fn0{P:Program}{f:FuncId}{ds:List DV}{r:DV}(h: ∀{GB:Gh},PF GB P f ds r){G:Gh}{vs:List Value}(hv:IsLs G ds vs):Fn P f vs G (fun v G'=>Is G' r v):=h (GB:=G) G vs (bp.refl G) hv
abbrev SA (x:SV) (ns:List RN) (A:Gh):Prop:= ∃es,fe A 8 x es/\IsLs A (ns.map RN.d) es
def Vi{A:Gh}{ns:List RN}{x:SV}(hx:SA x ns A)(hs: ∀n∈ns,n.g.sm)(hn:ns.length<=1000000){rt:Int}{s s':RS}{t:Tr}(h:RR ns rt s t s'): ∀{G:Gh} {rb sb:Nat} {lo lo2:Bool},[GL A G]->s'.c<=1000000->
  j' prog 80 [.pointer (some ⟨rb,0,none⟩), .int .i64 rt] [⟨rb,[.slice x.a x.n x.c, .slice (some ⟨sb,0,none⟩) ns.length ns.length, .int .i64 s.c, .bool s.b],166,lo⟩,⟨sb,mE ns.length s.f,4,lo2⟩] G
   (fun v css G'=> ∃p,v= .pointer p/\Is G' (eU t) (.pointer p)/\css=[[.slice x.a x.n x.c, .slice (some ⟨sb,0,none⟩) ns.length ns.length, .int .i64 s'.c, .bool s'.b],mE ns.length s'.f]):=by
 obtain⟨es,hx,hes⟩:=hx;have hel:=hes.len;rw[aJ] at hel;have hlen:=hx.len;rw[hel] at hlen;obtain⟨xa,xn,xc⟩:=x;simp only[] at hlen;subst hlen
 induction h with
 |leaf bb s=>
  intro G rb sb lo lo2 _ hc;refine j'.intro func80 J J ntmps80 J ?_;intro C _ _;show St C _ _ [⟨rb,_,_,false⟩,⟨sb,_,_,false⟩] _ _
  cases bb
  case true=>
   refine sR<|sa J J<|zE<|bw<|d9<|sR<|sm J J<|sy (i9 J J) J<|sm J J<|ss J J J J<|ss J J J J<|?_;refine sy (rG J J) J<|sa J J<|zE<|rP J<|sR<|sm J J<|sy (i9 J J) J<|?_;refine sc (zC J J (PF.fn0 (xB (b:=true)) (.cons (bc.2 J) .nil)) J ?_);rintro _ G1 _ hp;obtain⟨p,rfl⟩:=wo hp;refine sa J J<|zE<|du<|?_;exact rD (css:=[_,_]) (.tmp J .nil) J _ (List.Perm.refl _) (List.Sublist.refl _) ⟨p,J,hp,J⟩
  refine sR<|sa J J<|zE<|bw<|d9<|sR<|sm J J<|sy (i9 J J) J<|sm J J<|bC J J (f7 J) J<|bC J J (i9 J J) J<|?_;refine sy (mp J J) J<|sa J J<|zE<|rP J<|sR<|sm J J<|sy (i9 J J) J<|?_;refine sc (zC J J (PF.fn0 (xB (b:=false)) (.cons (bc.2 J) .nil)) J ?_);rintro _ G1 _ hp;obtain⟨p,rfl⟩:=wo hp;refine sa J J<|zE<|du<|?_;exact rD (css:=[_,_]) (.tmp J .nil) J _ (List.Perm.refl _) (List.Sublist.refl _) ⟨p,J,hp,J⟩
 |bad rt s h1 h2 h=>
  intro G rb sb lo lo2 _ hc;refine j'.intro func80 J J ntmps80 J ?_;intro C _ _;show St C _ [(0, .pointer (some ⟨rb,0,none⟩)),(1, .int .i64 rt)] [⟨rb,[.slice xa ns.length xc, .slice (some ⟨sb,0,none⟩) ns.length ns.length, .int .i64 s.c, .bool s.b],_,false⟩,⟨sb,mE ns.length s.f,_,false⟩] _ _;refine sR<|sa J J<|zE<|bw<|d9<|sR<|sm J J<|sy (i9 J J) J<|sm J J<|?_;refine oI 12 J (fun hg=>absurd hg (by omega)) (fun hg=>?_);refine bC J J (f7 J) J<|bC J J (i9 J J) J<|sy (mp J J) J<|sa J J<|zE<|?_;refine gm J (fun hc=>absurd hc (by omega)) (fun _=>?_);refine sR<|sm J J<|sy (ju J J) J<|sm J J<|?_;refine oI 22 J (fun hg=>?_) (fun hg=>?_)
  .refine ss J J J J<|ss J J J J<|ss J J J J<|ss J J J J<|ss J J J J<|ss J J J J<|ss J J J J<|sy (rG J J) J<|sm J J<|ss J J J J<|ss J J J J<|?_
   refine ss J J J J<|ss J J J J<|ss J J J J<|ss J J J J<|ss J J J J<|sy (rG J J) J<|sa J J<|zE<|rP J<|bw<|?_;refine d6<|sm J J<|sn J J<|sf J J<|?_;refine sc (xT J J J (.hd ..) (nb J) J J ?_);refine zE<|sR<|?_;refine sc (zC J J (PF.fn0 (xB (b:=false)) (.cons (bc.2 J) .nil)) J ?_);rintro _ G1 _ hp;obtain⟨p,rfl⟩:=wo hp;refine sa J J<|zE<|du<|?_;exact rD (css:=[_,_]) (.tmp J .nil) J _ (List.Perm.refl _) (List.Sublist.refl _) ⟨p,J,hp,J⟩
  refine bC J J (f7 J) J<|bC J J (f7 J) J<|bC J J (n5 J) J<|bC J J (ow J) J<|bC J J (ma J J) J<|bC J J (o4 J) J<|bC J J (uJ J J) J<|sy (mp J J) J<|sm J J<|?_;refine oI 31 J (fun hg=>?_) (fun hg=>?_)
  .refine ss J J J J<|ss J J J J<|ss J J J J<|ss J J J J<|ss J J J J<|ss J J J J<|ss J J J J<|?_
   refine sy (rG J J) J<|sa J J<|zE<|rP J<|sR<|sm J J<|sn J J<|sf J J<|?_;refine sc (xT J J J (.hd ..) (nb J) J J ?_);refine zE<|sR<|?_;refine sc (zC J J (PF.fn0 (xB (b:=false)) (.cons (bc.2 J) .nil)) J ?_);rintro _ G1 _ hp;obtain⟨p,rfl⟩:=wo hp;refine sa J J<|zE<|du<|?_;exact rD (css:=[_,_]) (.tmp J .nil) J _ (List.Perm.refl _) (List.Sublist.refl _) ⟨p,J,hp,J⟩
  obtain⟨k,rfl,hk,hf⟩: ∃k:Nat,rt=k/\k<ns.length/\s.f k=true:=by
   rcases h with h|h|h
   .omega
   .exact absurd h hg
   .exact h
  refine bC J J (f7 J) J<|bC J J (n5 J) J<|bC J J (ow J) J<|bC J J (ma J J) J<|bC J J (f7 J) J<|bC J J (gi J J) J<|?_;refine bC J J (ma (v:= .bool true) J (by rw[bV,iU];exact CT hk hf)) J<|sy (mp J J) J<|sa J J<|zE<|rP J<|?_;refine sR<|sm J J<|sn J J<|sf J J<|?_;refine sc (xT J J J (.hd ..) (nb J) J J ?_);refine zE<|sR<|?_;refine sc (zC J J (PF.fn0 (xB (b:=false)) (.cons (bc.2 J) .nil)) J ?_);rintro _ G1 _ hp;obtain⟨p,rfl⟩:=wo hp;refine sa J J<|zE<|du<|?_;exact rD (css:=[_,_]) (.tmp J .nil) J _ (List.Perm.refl _) (List.Sublist.refl _) ⟨p,J,hp,J⟩
 |line base n s h0 hfb hl=>
  intro G rb sb lo lo2 _ hc;have hbn:base<ns.length:=(aY.1 h0).1;simp only at hc;obtain⟨z,hzi,hz⟩:=hes.get (i:=base) (d:=n.d) (by rw[cK,h0];rfl);obtain⟨x1,x2,x3,rfl,hzg⟩:=Pt hz;refine j'.intro func80 J J ntmps80 J ?_;intro C _ _;show St C _ [(0, .pointer (some ⟨rb,0,none⟩)),(1, .int .i64 (base:Int))] [⟨rb,[.slice xa ns.length xc, .slice (some ⟨sb,0,none⟩) ns.length ns.length, .int .i64 s.c, .bool s.b],_,false⟩,⟨sb,mE ns.length s.f,_,false⟩] _ _;refine sR<|sa J J<|zE<|bw<|d9<|sR<|sm J J<|sy (i9 J J) J<|sm J J<|?_;refine oI 12 J (fun hg=>absurd hg (by omega)) (fun hg=>?_);refine bC J J (f7 J) J<|bC J J (i9 J J) J<|sy (mp J J) J<|sa J J<|zE<|?_;refine gm J (fun hc=>absurd hc (by omega)) (fun _=>?_);refine sR<|sm J J<|sy (ju J J) J<|sm J J<|?_;refine oI 22 J (fun hg=>absurd hg (by omega)) (fun hg=>?_);refine bC J J (f7 J) J<|bC J J (f7 J) J<|bC J J (n5 J) J<|bC J J (ow J) J<|bC J J (ma J J) J<|bC J J (o4 J) J<|bC J J (uJ J J) J<|sy (mp J J) J<|sm J J<|?_;refine oI 31 J (fun hg=>absurd hg (by omega)) (fun hg=>?_);refine bC J J (f7 J) J<|bC J J (n5 J) J<|bC J J (ow J) J<|bC J J (ma J J) J<|bC J J (f7 J) J<|bC J J (gi J J) J<|?_;refine bC J J (ma (v:= .bool false) J (by rw[bV,iU];exact CT hbn hfb)) J<|sy (mp J J) J<|sa J J<|zE<|zg J<|zK<|?_;refine sR<|sm J J<|sn J J<|sf J J<|tr J J J<|sm J J<|sy (gi J J) J<|?_;refine sc (wH J J (.tl _ _ _ _ _ _ _ _ (.hd ..)) (by rw[Jw,bV,iU];exact hbn) J J ?_);rw[bV,iU,Ra];refine zE<|sR<|sm J J<|sn J J<|sf J J<|tr J J J<|sy (d5 J J) J<|sn J J<|sf J J<|?_
  refine sc (xT J J J (by repeat (first|exact .hd .. |apply f9.tl)) (nb J) J J ?_);rw[show(s.c:Int)+1=((s.c+1:Nat):Int) by omega];refine zE<|sR<|sm J J<|sn J J<|sf J J<|tr J J J<|sm J J<|sy (He (z:=⟨xa,ns.length,xc⟩) hx J J (by omega) (by show(base:Int)<(ns.length:Int);omega)) J<|?_;rw[bV];refine sy (No (i:=base) hx J (by rw[hel];exact hbn) hzi) J<|?_;refine sc (Ak J ?_);intro b5;refine sc (DR J J J (by repeat (first|exact .hd .. |apply f9.tl)) J (nb J) J J ?_);refine zE<|sR<|sf J J<|S0 J J J<|?_;refine sc (zC J J (PF.fn0 (NT (hs n (aV h0))) (.cons (hzg.up GL.le) .nil)) J ?_);rintro _ G6 _ hw;rw[hl] at hw;obtain⟨n1,d1,p1,n2,d2,p2,n3,d3,p3,rfl,hw⟩:=RC hw;refine sm J J<|sx J J J<|sx J J J<|?_;refine sc (Ak J ?_);intro b6;refine sc (DR J J J (by repeat (first|exact .hd .. |apply f9.tl)) J (nb J) J J ?_);refine sa J J<|zE<|bw<|sR<|sm J J<|sy (Dd J) J<|zE<|rP J<|?_;refine sR<|sm J J<|sn J J<|sf J J<|?_;refine sc (xT J J J (by repeat (first|exact .hd .. |apply f9.tl)) (nb J) J J ?_);refine zE<|sR<|?_;refine sc (zC J J (PF.fn0 (xB (b:=false)) (.cons (bc.2 J) .nil)) J ?_);rintro _ G7 _ hp;obtain⟨p,rfl⟩:=wo hp;refine sa J J<|zE<|du<|?_;exact rD (css:=[_,_]) (.tmp J .nil) J _ (List.perm_append_comm (l₁:=[_,_]) (l₂:=[_,_])) (.cons_cons _ (.cons_cons _ (lJ _))) ⟨p,J,hp,J⟩
 |node base n l s s2 s3 tx ty h0 hfb hl h1 h2 ih1 ih2=>
  intro G rb sb lo lo2 _ hc;have hbn:base<ns.length:=(aY.1 h0).1;have hm1:=h1.mono;have hm2:=h2.mono;simp only at hm1;obtain⟨z,hzi,hz⟩:=hes.get (i:=base) (d:=n.d) (by rw[cK,h0];rfl);obtain⟨x1,x2,x3,rfl,hzg⟩:=Pt hz;refine j'.intro func80 J J ntmps80 J ?_;intro C _ _;show St C _ [(0, .pointer (some ⟨rb,0,none⟩)),(1, .int .i64 (base:Int))] [⟨rb,[.slice xa ns.length xc, .slice (some ⟨sb,0,none⟩) ns.length ns.length, .int .i64 s.c, .bool s.b],_,false⟩,⟨sb,mE ns.length s.f,_,false⟩] _ _;refine sR<|sa J J<|zE<|bw<|d9<|sR<|sm J J<|sy (i9 J J) J<|sm J J<|?_;refine oI 12 J (fun hg=>absurd hg (by omega)) (fun hg=>?_);refine bC J J (f7 J) J<|bC J J (i9 J J) J<|sy (mp J J) J<|sa J J<|zE<|?_;refine gm J (fun hc=>absurd hc (by omega)) (fun _=>?_);refine sR<|sm J J<|sy (ju J J) J<|sm J J<|?_;refine oI 22 J (fun hg=>absurd hg (by omega)) (fun hg=>?_);refine bC J J (f7 J) J<|bC J J (f7 J) J<|bC J J (n5 J) J<|bC J J (ow J) J<|bC J J (ma J J) J<|bC J J (o4 J) J<|bC J J (uJ J J) J<|sy (mp J J) J<|sm J J<|?_;refine oI 31 J (fun hg=>absurd hg (by omega)) (fun hg=>?_);refine bC J J (f7 J) J<|bC J J (n5 J) J<|bC J J (ow J) J<|bC J J (ma J J) J<|bC J J (f7 J) J<|bC J J (gi J J) J<|?_;refine bC J J (ma (v:= .bool false) J (by rw[bV,iU];exact CT hbn hfb)) J<|sy (mp J J) J<|sa J J<|zE<|zg J<|zK<|?_;refine sR<|sm J J<|sn J J<|sf J J<|tr J J J<|sm J J<|sy (gi J J) J<|?_;refine sc (wH J J (.tl _ _ _ _ _ _ _ _ (.hd ..)) (by rw[Jw,bV,iU];exact hbn) J J ?_);rw[bV,iU,Ra]
  refine zE<|sR<|sm J J<|sn J J<|sf J J<|tr J J J<|sy (d5 J J) J<|sn J J<|sf J J<|?_;refine sc (xT J J J (by repeat (first|exact .hd .. |apply f9.tl)) (nb J) J J ?_);rw[show(s.c:Int)+1=((s.c+1:Nat):Int) by omega];refine zE<|sR<|sm J J<|sn J J<|sf J J<|tr J J J<|sm J J<|sy (He (z:=⟨xa,ns.length,xc⟩) hx J J (by omega) (by show(base:Int)<(ns.length:Int);omega)) J<|?_;rw[bV];refine sy (No (i:=base) hx J (by rw[hel];exact hbn) hzi) J<|?_;refine sc (Ak J ?_);intro b5;refine sc (DR J J J (by repeat (first|exact .hd .. |apply f9.tl)) J (nb J) J J ?_);refine zE<|sR<|sf J J<|S0 J J J<|?_;refine sc (zC J J (PF.fn0 (NT (hs n (aV h0))) (.cons (hzg.up GL.le) .nil)) J ?_);rintro _ G6 _ hw;rw[hl] at hw;obtain⟨n1,d1,p1,n2,d2,p2,n3,d3,p3,rfl,hw'⟩:=RC hw;replace hw:=hw' l J;refine sm J J<|sx J J J<|sx J J J<|?_;refine sc (Ak J ?_);intro b6;refine sc (DR J J J (by repeat (first|exact .hd .. |apply f9.tl)) J (nb J) J J ?_);refine sa J J<|zE<|bw<|sR<|sm J J<|sy (Dd J) J<|zE<|zg J<|zK<|?_;refine sR<|sm J J<|sf J J<|tr J J J<|?_;have hrp:=ih1 (G:=G6) (rb:=rb) (sb:=sb) (lo:=false) (lo2:=false) (by omega);refine sc (CJ J J (List.perm_append_comm (l₁:=[_,_]) (l₂:=[_,_])) hrp J ?_);rintro _ css G7 _ _ ⟨q1,rfl,hp1,rfl⟩;show St C _ _ [⟨rb,[.slice xa ns.length xc, .slice (some ⟨sb,0,none⟩) ns.length ns.length, .int .i64 s2.c, .bool s2.b],166,false⟩,⟨sb,mE ns.length s2.f,4,false⟩,⟨b6,[.int .i64 n1, .int .i64 d1, .pointer p1, .int .i64 n2, .int .i64 d2, .pointer p2, .int .i64 n3, .int .i64 d3, .pointer p3],199,true⟩,⟨b5,[.bool n.g.na, .slice x1.a x1.n x1.c, .bool n.g.nb, .slice x2.a x2.n x2.c, .bool n.g.nc, .slice x3.a x3.n x3.c, .int .i64 n.l, .int .i64 n.r],118,true⟩] _ _
  refine sa J J<|zE<|bw<|?_;refine U7 [⟨b6,[.int .i64 n1, .int .i64 d1, .pointer p1, .int .i64 n2, .int .i64 d2, .pointer p2, .int .i64 n3, .int .i64 d3, .pointer p3],199,true⟩,⟨b5,[.bool n.g.na, .slice x1.a x1.n x1.c, .bool n.g.nb, .slice x2.a x2.n x2.c, .bool n.g.nc, .slice x3.a x3.n x3.c, .int .i64 n.l, .int .i64 n.r],118,true⟩] (fun _=>false) [(0,true),(1,true),(2,true),(3,true),(4,true),(5,false),(6,false),(7,true)] follows (by kernel_rfl)<|?_;refine dL J J J J<|dM J J J<|dM J J J<|dF J J J<|A6 J J J J<|?_;have hrp:=ih2 (G:=G7) (rb:=rb) (sb:=sb) (lo:=false) (lo2:=false) hc;refine dc J J (CJ J J (M:=[_,_]) (rest:=[_,_]) (List.Perm.refl _) hrp J ?_);rintro _ css G8 _ _ ⟨q2,rfl,hp2,rfl⟩;show St C _ _ [⟨rb,[.slice xa ns.length xc, .slice (some ⟨sb,0,none⟩) ns.length ns.length, .int .i64 s3.c, .bool s3.b],166,false⟩,⟨sb,mE ns.length s3.f,4,false⟩,⟨b6,[.int .i64 n1, .int .i64 d1, .pointer p1, .int .i64 n2, .int .i64 d2, .pointer p2, .int .i64 n3, .int .i64 d3, .pointer p3],199,true⟩,⟨b5,[.bool n.g.na, .slice x1.a x1.n x1.c, .bool n.g.nb, .slice x2.a x2.n x2.c, .bool n.g.nc, .slice x3.a x3.n x3.c, .int .i64 n.l, .int .i64 n.r],118,true⟩] _ _;refine wQ<|?_;refine dc J J (zC J J (PF.fn0 (Dk (l:=l) (x:=tx) (y:=ty)) (.cons (hw.up GL.le) (.cons (hp1.up GL.le) (.cons hp2 .nil)))) J ?_);rintro _ G9 _ hp;obtain⟨p,rfl⟩:=wo hp;refine wQ<|dA J J J<|dn<|du<|?_;exact rD (css:=[_,_]) (.tmp J .nil) J _ (List.Perm.refl _) (.cons_cons _ (.cons_cons _ (lJ _))) ⟨p,J,hp,J⟩
def sP:RS:=⟨fun _=>false,0,false⟩
def Bi(ns:List RN)(t:Tr)(s:RS):DV:=if s.b=false/\s.c=ns.length then .tp [eU t,vB true] else .tp [.v (.pointer none),vB false]
def xV(rt:Int)(ns:List RN):DV:= .ag [vI rt, .sl (ns.map RN.d)]
def Yc{ns:List RN}{rt:Int}{t:Tr}{s:RS}(hs: ∀n∈ns,n.g.sm)(hn:ns.length<=65536)(h:RR ns rt sP t s)(hc:s.c<=1000000):PF GB prog 32 [xV rt ns] (Bi ns t s):=by
 intro G vs _ hv;obtain⟨v0,m,rfl,h0,hm⟩:=bu.1 hv;rw[fh] at hm;subst hm;obtain⟨m,rfl,g⟩:=et.1 h0;obtain⟨v1,m,rfl,h1,hm⟩:=bu.1 g;obtain⟨v2,m,rfl,h2,hm⟩:=bu.1 hm;rw[fh] at hm;subst hm;obtain⟨s0,x,es,rfl,hsl,hes⟩:=iG.1 h2;rw[bc.1 h1];have hel:=hes.len;rw[aJ] at hel;have hlen:=hsl.len;rw[hel] at hlen;have hx:SA x ns G:=by
  refine⟨es,?_,hes⟩;rcases A7 (s:=8) hsl hes (fun d hd=>by obtain⟨n,_,rfl⟩:=bQ.1 hd;exact⟨rfl,rfl⟩) with e|e
  .exact⟨hsl.len,hsl.cap, .inl e⟩
  .rw[e] at hsl;exact hsl
 obtain⟨xa,xn,xc⟩:=x;simp only[] at hlen;subst hlen;show Fn _ _ [.agg ⟨[.int .i64 rt, .slice xa ns.length xc]⟩] _ _;refine Fn.intro func32 J J ntmps32 J ?_;intro C _ _;refine sR<|?_;refine sc (H' J J ?_);intro b1;refine sa J J<|sa J J<|zE<|bw<|sR<|sf J J<|tr J J J<|c6 J J<|sy (tP J J) J<|zE<|?_;refine gm J (fun hc=>absurd hc (by omega)) (fun _=>?_);refine zK<|bw<|dr (fun _=>false) [(0,true),(1,true),(2,true),(3,true),(4,true),(5,false),(6,true),(7,false),(8,true)] follows (by kernel_rfl)<|dF J J J<|?_;refine A6 J J J J<|dF J J J<|A6 J J J J<|dy J (fun _=>o4 J) J J<|?_;refine dc J J (um J J (by omega) (by omega) (by omega) (by rfl) J ?_);intro b2;rw[bV,apV];refine wQ<|dy J (fun _=>HK J) J J<|?_;refine dc J J (H' J J ?_);intro b3;refine wQ<|dA J J J<|dn<|sR<|sm J J<|sf J J<|tr J J J<|?_;have hrp:=Vi hx hs (by omega) h (G:=G) (rb:=b3) (sb:=b2) (lo:=true) (lo2:=true) hc;refine sc (CJ J J (M:=[_,_]) (rest:=[_]) (List.Perm.refl _) hrp J ?_);rintro _ css G4 _ _ ⟨p,rfl,hp,rfl⟩;show St C _ _ [⟨b3,[.slice xa ns.length xc, .slice (some ⟨b2,0,none⟩) ns.length ns.length, .int .i64 s.c, .bool s.b],166,true⟩,⟨b2,mE ns.length s.f,4,true⟩,⟨b1,[.int .i64 rt, .slice xa ns.length xc],27,true⟩] _ _;refine sa J J<|zE<|bw<|bw<|dr (fun _=>false) [(0,true),(1,true),(2,true),(3,true),(4,true),(5,true),(6,true),(7,true),(8,true),(9,true),(10,true),(11,true),(12,true),(13,true)] follows (by kernel_rfl)<|?_;obtain⟨sf_,sc_,sb_⟩:=s
 cases sb_
 case true=>
  refine dM J J J<|dy J (fun _=>n5 J) J J<|dF J J J<|A6 J J J J<|dM J J J<|?_;refine uY J J J J J J<|uY J J J J J J<|uY J J J J J J<|uY J J J J J J<|uY J J J J J J<|uY J J J J J J<|?_;refine uY J J J J J J<|uY J J J J J J<|dy J (fun _=>rG J J) J J<|dn<|rP J<|?_;refine sR<|sa J J<|sa J J<|zE<|du<|?_;refine zD (.tmp J (.tmp J .nil)) ?_;rw[Bi,if_neg (fun e=>by cases e.1)];exact i8.2 ⟨_,J, .cons (bc.2 J) (.cons (bc.2 J) .nil)⟩
 refine dM J J J<|dy J (fun _=>n5 J) J J<|dF J J J<|A6 J J J J<|dM J J J<|?_;refine uT J J J J (fun _=>f7 J) J<|uT J J J J (fun _=>n5 J) J<|uT J J J J (fun _=>ow J) J<|uT J J J J (fun _=>ma J J) J<|?_;refine uT J J J J (fun _=>ow J) J<|uT J J J J (fun _=>ma J J) J<|uT J J J J (fun _=>o4 J) J<|uT J J J J (fun _=>vt J J) J<|?_;refine dy J (fun _=>mp J J) J J<|dn<|?_;refine gm J (fun hc=>?_) (fun hc=>?_) -- slot 35
 .refine sR<|sa J J<|sa J J<|zE<|du<|?_
  refine zD (.tmp J (.tmp J .nil)) ?_;rw[Bi,if_neg (fun e=>hc (by have:=e.2;simp only at this;omega))];exact i8.2 ⟨_,J, .cons (bc.2 J) (.cons (bc.2 J) .nil)⟩
 refine zK<|sR<|sm J J<|sa J J<|sa J J<|zE<|du<|?_;refine zD (.tmp J (.tmp J .nil)) ?_;rw[Bi,if_pos ⟨J,by have h9:=hc;simp at h9;show sc_=_;omega⟩];exact i8.2 ⟨_,J, .cons hp (.cons (bc.2 J) .nil)⟩

def Tr.pre:Tr->List Tr
 | .leaf b=>[.leaf b]
 | .node l x y=> .node l x y::(x.pre++y.pre)
structure Vis (f:FuncId) (c2:List Value) (σ:Type) (step:σ->Tr->σ) (ok:σ->Tr->Prop) (Inv:σ->List aw->Gh->Prop):Prop where
 up: ∀{s B G G'},bp G G'->Inv s B G->Inv s B G'
 re: ∀{s B G} (fl:Nat->Bool),Inv s B G->Inv s (B.map (relo fl)) G
 go: ∀{s t p B G},ok s t->Inv s B G->Is G (eU t) (.pointer p)->nv prog f (.pointer p::c2) B G (fun _ B' G'=>Inv (step s t) B' G')
section
variable {P:Program} {C:aD} {n:Nat} {fr:Fr} {own:List aw} {G:Gh}
end
def Qn{σ:Type}(step:σ->Tr->σ)(ok:σ->Tr->Prop):σ->List Tr->Prop
 |_,[]=>True
 |s,t::ts=>ok s t/\Qn step ok (step s t) ts
structure EX (σ:Type) where
 ts:List Tr
 vs:List Value
 rest:List Value
 b:Nat
 cap:Nat
 lo:Bool
 s:σ
 B:List aw
def T5(t:Tr):Nat:=2*t.size+1
def Nu(ts:List Tr):List Tr:=ts.reverse.flatMap Tr.pre
structure EI (A:Gh) {σ:Type} (step:σ->Tr->σ) (ok:σ->Tr->Prop) (Inv:σ->List aw->Gh->Prop) (N:Nat) (fin:σ) (x:EX σ) (G:Gh):Prop where
 rel:tH (fun v t=> ∃p,v= .pointer p/\Is A (eU t) (.pointer p)) x.vs x.ts
 cap:x.vs.length+x.rest.length=x.cap
 inv:Inv x.s x.B G
 mu:(x.ts.map T5).sum<=N
 okf:Qn step ok x.s (Nu x.ts)
 fin:(Nu x.ts).foldl step x.s=fin
def szI(nbk:Nat)(s:Nat)(B:List aw)(_:Gh):Prop:= ∃lo,B=[⟨nbk,[.int .i64 s],3,lo⟩]
def szS(s:Nat):Tr->Nat
 | .leaf _=>s
 | .node .. =>s+1
end Go.Sx
end
