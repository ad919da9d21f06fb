import Derived.Test.YtjpdfobnjmflkaaGreatDoorMp20
import Derived.Shelf.SlSortCmp.NoneTotal
import Derived.Test.YtjpdfobnjmflkaaGreatDoorProg
import Derived.Shelf.SlicesQ.Reverse
set_option linter.all false
set_option maxHeartbeats 2000000
set_option maxRecDepth 100000
section
namespace Go.Sx
open Go Go.Proofs Tryz
variable {GB:Gh}{a i k j b i0 s:Nat}{q p u x y c:aa}{l v r:List aa}{α A:Type}
def aED[h:BN a i](hi:i<=1000000000:=by decide):PF GB prog 246 [dN a] (.v (.bool true)):=
 (Rf (ds:=dg a) (f8 _).2.1 (by have:=jg (a:=a) hi;omega)).to (by unfold vB;rw[decide_eq_true (f8 a).2.2])
def P5{q:Rat}[hq:BQ q i](hi:i<=1000000:=by decide):PF GB prog 252 [eR q] (.v (.bool true)):=by
 have hd:=q.den_pos;have hdl:0<(dg q.den).length:=iS fun e=>by have:=vQ.1 e;omega
 have hml:((dg q.den).map dU).length=(dg q.den).length:=aX ..;have hco:Nat.gcd q.num.natAbs q.den=1:=q.reduced;refine fn func252 J J ntmps252 J J (fun C=>?_);refine cl (fu:=⟨0⟩) J (C0 (m:=q.num) (i:=i) (h:=⟨hq.hn⟩) (by omega)) J<|ll 5 J<|gx J<|cl (fu:=⟨0⟩) J (aED (a:=q.den) (i:=i) (h:=⟨hq.hd⟩) (by omega)) J<|ll 10 J<|gx (fu:=⟨6⟩) J<|cg J (by show some (decide _)=some false;rw[decide_eq_false (by omega)]) J<|cl (fu:=⟨0⟩) J (KB (a:=q.num.natAbs) (b:=q.den) (i:=i) (j:=i) (h:=⟨hq.hn⟩) (k:=⟨hq.hd⟩) (by omega) (by omega)) J<|aj 24 (.d (dN 1)) J (by rw[hco])<|gx J<|cl J (vn (a:=1) (i:=1) (h:=⟨by decide⟩)) J<|rz J J
def aES[hp:aE p i](hi:i<=1000000:=by decide):PF GB prog 186 [nI p] (.v (.bool true)):=by
 refine fn func186 J J ntmps186 J J (fun C=>?_);refine cl (fu:=⟨0⟩) J (P5 (q:=p.x) (i:=i) (by omega)) J<|ll 5 J<|gx J<|cl J (P5 (q:=p.y) (i:=i) (by omega)) J<|rz J J
def uq(l:List aa)(p:aa):Int:=match l.findIdx? (fun q=>decide (q.x=p.x/\q.y=p.y)) with
 |some i=>(i:Nat)
 |none=> -1
def Dd(hx:l[k]? =some q)(h:(l.take k).all (fun q=>!decide (q.x=p.x/\q.y=p.y))=true)(hq:q.x=p.x/\q.y=p.y):uq l p=(k:Nat):=by
 have hk:=(aS.1 hx).1;have e:l.findIdx? (fun q=>decide (q.x=p.x/\q.y=p.y))=some k:=by
  rw[List.findIdx?_eq_some_iff_getElem];refine⟨hk,?_,fun j hj=>?_⟩
  .rw[(aS.1 hx).2];exact decide_eq_true hq
  .have:=dW.1 h l[j] (by rw[List.mem_take_iff_getElem];exact⟨j,by omega,J⟩)
   simp at this⊢;intro a b;rcases this with k|k
   .exact k a
   .exact k b
 unfold uq;rw[e]
def aIm(h:l.all (fun q=>!decide (q.x=p.x/\q.y=p.y))=true):uq l p= -1:=by
 have e:l.findIdx? (fun q=>decide (q.x=p.x/\q.y=p.y))=none:=by
  rw[List.findIdx?_eq_none_iff];intro x hx;have:=dW.1 h x hx;simp at this⊢;intro a b;rcases this with k|k
  .exact k a
  .exact k b
 unfold uq;rw[e]
def aAK{g:aa->Bool}(hx:l[k]? =some q)(h:(l.take k).all g=true)(hq:g q=true):(l.take (k+1)).all g=true:=by
 rw[dR,hx,List.all_append,h];simp[hq]
def WI[hp:aE p i](hl: ∀q∈l,aE q i)(hn:l.length<=100000)(hi:i<=1000000:=by decide):PF GB prog 188 [.sl (l.map eZ),eZ p] (vI (uq l p)):=by
 have hml:(l.map eZ).length=l.length:=aX ..;refine fn (fu:=⟨11⟩) func188 J J ntmps188 J J (fun C=>?_);refine aj 8 (.d (vI (l.length:Nat))) J (by rw[hml]<;>rfl)<|gx J<|lp (X:=Nat) (fun k=>[(9, .d (vI (k:Nat)))]) (fun k=>[]) (fun k=>k<=l.length/\(l.take k).all (fun q=>!decide (q.x=p.x/\q.y=p.y))=true) (fun k=>l.length-k) 0 J ⟨bV _,J⟩ (fun _=>J) (fun k hk=>?_);obtain⟨hk,hall⟩:=hk;refine br J J J (fun hc10=>?_) (fun hc10=>?_)
 .
  obtain⟨q,hx⟩: ∃u,l[k]? =some u:=⟨_,aZ (by omega)⟩;haveI:=hl q (aV hx);refine ix _ J (cD hx) J<|cl J (Oa (p:=q) (q:=p) (i:=i) hi) J<|bd J J J (fun hc16=>?_) (fun hc16=>?_)
  .
   exact rz J (by rw[Dd hx hall hc16];rfl)
  .
   exact at_ (k+1) ⟨⟨by omega,aAK hx hall (by rw[decide_eq_false hc16];rfl)⟩,(by omega)⟩
 .
  obtain rfl:k=l.length:=by omega
  rw[dQ] at hall;exact rz J (by rw[aIm hall];rfl)
def fH(l:List aa):Nat->Nat
 |0=>0
 |k+1=>fH l k+if uq l (l.getD k ⟨0,0⟩)=(k:Nat) then 1 else 0
def lf(l:List aa)(k:Nat):Nat:=if 3<=fH l k then 3 else fH l k
def aH2(h:lf l k<3)(e:fH l (k+1)=fH l k+1):((lf l k:Nat):Int)+1=((lf l (k+1):Nat):Int):=by
 have a:lf l k=if 3<=fH l k then 3 else fH l k:=J
 have b:lf l (k+1)=if 3<=fH l (k+1) then 3 else fH l (k+1):=J
 split at a<;>split at b<;>omega
def Pu(h: ¬lf l k<3\/fH l (k+1)=fH l k)(m:fH l k<=fH l (k+1)):((lf l k:Nat):Int)=((lf l (k+1):Nat):Int):=by
 have a:lf l k=if 3<=fH l k then 3 else fH l k:=J
 have b:lf l (k+1)=if 3<=fH l (k+1) then 3 else fH l (k+1):=J
 split at a<;>split at b<;>omega
def UV(l:List aa)(k:Nat):lf l k<=3:=by unfold lf;split<;>omega
def Vp(h:3<=fH l k):lf l k=3:=by unfold lf;rw[if_pos h]
def DR(hx:l[k]? =some p)(h:uq l p=(k:Nat)):fH l (k+1)=fH l k+1:=by
 rw[fH,aW,hx,lZ,if_pos h]
def aGQ(hx:l[k]? =some p)(h: ¬uq l p=(k:Nat)):fH l (k+1)=fH l k:=by
 rw[fH,aW,hx,lZ,if_neg h];rfl
def OX:fH l k<=fH l (k+1):=by rw[fH];split<;>omega
def UJ(h:v[k]? =some p):((v.take k).map eZ)++[eZ p]=(v.take (k+1)).map eZ:=by
 rw[dR,h,bX];rfl
def aEC{r:List ZP}(h:fe r)(hk:k<r.length):decide ((r.getD k (0,0)).q.x=(je r k).q.x/\(r.getD k (0,0)).q.y=(je r k).q.y)=false:=decide_eq_false fun e=>h.ne k hk (CW (by
 obtain⟨e1,e2⟩:=e;generalize (r.getD k (0,0)).q=a at*;generalize (je r k).q=b at*
 cases a;cases b
 simp only[aa.mk.injEq];exact⟨e1,e2⟩))
def Wu{r:List ZP}(h:fe r)(h3:3<=fH (r.map ZP.q) (r.map ZP.q).length):PF GB prog 120 [mm r] (.tp [.sl ((r.map ZP.q).map eZ), .v .nilIface]):=by
 have hn:=h.n6;obtain⟨v,hv⟩: ∃v,v=r.map ZP.q:=⟨_,rfl⟩;have hvl:v.length=r.length:=by rw[hv,aX]
 have hb: ∀p∈v,aE p 22:=fun p hp=>by rw[hv] at hp;obtain⟨z,hz,rfl⟩:=aU.1 hp;exact IM (h.le z hz)
 unfold mm;rw[<-hv] at h3⊢;have hm1:(v.map nI).length=v.length:=aX ..;have hm2:(v.map eZ).length=v.length:=aX ..;have hrl:(nD v).length=v.length:=by unfold nD;rw[aX,lW]
 refine Jh (fu:=⟨11⟩) func120 J J ntmps120 J J (fun C h0=>?_);refine aj 13 (.d (vI (v.length:Nat))) J (by rw[hm1]<;>rfl)<|gx (fu:=⟨0⟩) J<|cg (fu:=⟨15⟩) J (by show some (decide _)=some false;rw[decide_eq_false (by omega)]) J<|aj 20 (.d (vI (v.length:Nat))) J (by rw[hm1]<;>rfl)<|gx J<|nr 4 4 160 6 J J J<|lp (X:=Nat) (fun k=>[(21, .d (vI (k:Nat))),(4, .rw 4)]) (fun k=>[(4,some (.b 160 6 ((v.take k).map eZ) true))]) (fun k=>k<=v.length) (fun k=>v.length-k) 0 J (bV _) (fun _=>J) (fun k hk=>?_);have hm3:((v.take k).map eZ).length<=k:=by rw[aX,bR];omega
 refine br (fu2:=⟨0⟩) J J J (fun hc22=>?_) (fun hc22=>?_)
 .
  obtain⟨p,hx⟩: ∃u,v[k]? =some u:=⟨_,aZ (by omega)⟩;haveI:=hb p (aV hx);refine ix _ J (cD hx) J<|cl (fu:=⟨0⟩) J (aES (p:=p) (i:=22)) J<|ll 27 J<|gx J<|cl J (Qj (p:=p) (i:=22)) J<|rf J J<|ap ((v.take (k+1)).map eZ) J (UJ hx) (DK [p]) J<|fw 41 4 J<|at_ (k+1) ⟨(by omega),(by omega)⟩
 .
  obtain rfl:k=v.length:=by omega
  rw[dQ];refine qf 4 J<|gx (fu:=⟨15⟩) J<|aj 44 (.d (vI (v.length:Nat))) J (by rw[hm2]<;>rfl)<|gx J<|lp (X:=Nat) (fun k=>[(45, .d (vI (k:Nat))),(7, .d (vI ((lf v k):Nat)))]) (fun k=>[]) (fun k=>k<=v.length) (fun k=>v.length-k) 0 J (bV _) (fun _=>J) (fun k hk=>?_);have hdm:=UV v k;refine br (fu2:=⟨9⟩) J J J (fun hc46=>?_) (fun hc46=>?_)
  .
   obtain⟨p,hx⟩: ∃u,v[k]? =some u:=⟨_,aZ (by omega)⟩;haveI:=hb p (aV hx);have hcm:=OX (l:=v) (k:=k);refine ix _ J (cD hx) J<|cs 52 J J J (fun hg52=>?_) (fun hg52=>?_)
   .
    refine cl J (WI (l:=v) (p:=p) (i:=22) hb (by omega)) J<|br J J J (fun hc58=>?_) (fun hc58=>?_)
    .
     have he7:=aH2 (by omega) (DR hx (by omega));refine aj 7 (.d (vI (lf v (k+1):Nat))) J (by rw[he7]<;>rfl)<|at_ (k+1) ⟨(by omega),(by omega)⟩
    .
     have he7:=Pu (.inr (aGQ hx (by omega))) hcm;refine aj 7 (.d (vI (lf v (k+1):Nat))) J (by rw[he7]<;>rfl)<|at_ (k+1) ⟨(by omega),(by omega)⟩
   .
    have he7:=Pu (l:=v) (k:=k) (.inl (by omega)) hcm;refine aj 7 (.d (vI (lf v (k+1):Nat))) J (by rw[he7]<;>rfl)<|at_ (k+1) ⟨(by omega),(by omega)⟩
  .
   obtain rfl:k=v.length:=by omega
   have hd3:=Vp h3;refine cg (fu:=⟨9⟩) J (by show some (decide _)=some false;rw[decide_eq_false (by omega)]) J<|JH J J J IA (fun _=>J) (fun GB1 pv hg1 hpv=>?_);refine xW 2 2000002 h0.fx J<|xW 3 2000003 h0.fx J ?_;refine JQ (σ:=Empty) (fun _=>[(2000002,some (.o 123 [.nl] true)),(2000003,some (.o 33 [.d (.v .nilIface)] true))]) (fun _=>True) (fun _=>[]) (fun _=>False) [(2, .ov 2000002 0),(3, .ov 2000003 0),(4, .d (.sl (v.map eZ)))] h0 J (Kg) (.cons hpv .nil) ⟨J,J,J,trivial⟩ J ⟨J,J,trivial⟩ trivial Hg J J (fun k e GB' hE hg hp=>?_) (fun D hD hx hp=>?_) (fun D s hD hx hq=>hq.elim)
   .obtain⟨p,q,hpx,hqx,rfl⟩:=HP hE
    rw[hvl] at hqx;rw[hv] at hpx hqx;obtain⟨hk,rfl⟩:=PS hpx;obtain⟨hk2,rfl⟩:=PS hqx;haveI:=IM (h.le _ (vk hk));haveI:=IM (h.le _ (yx hk));have hne:=aEC h hk;refine⟨?_,?_,fun C2=>?_,fun C2=>?_⟩
    rotate_left 2
    .refine gx J<|Hu J J J ⟨J,J,J⟩ J ?_
     exact atR
    .refine gx J<|ow 0 (e:=160) (len:=2) (s:=6) J (by kernel_rfl) (by kernel_rfl) (by decide) J<|ow 1 (e:=160) (len:=2) (s:=6) J (by kernel_rfl) (by kernel_rfl) (by decide) J<|cl J (Oa (p:=(r.getD k (0,0)).q) (q:=(je r k).q) (i:=22)) J<|bd J J J (fun hc=>absurd (decide_eq_true hc) (by rw[hne];decide)) (fun hc=>?_)
     exact rq trivial ⟨J,J,trivial⟩
   .refine gx J<|?_
    exact FK hD hx J J
structure tg (r:List ZP):Prop where
 ok:fe r
 c3:3<=fH (r.map ZP.q) (r.map ZP.q).length



def NJ{v:aa}[hp:aE u i][hq:aE v j](hi:i<=10000000:=by decide)(hj:j<=10000000:=by decide):PF GB prog 223 [eZ u,eZ v] (vB (decide (co u v=0))):=by
 refine fn func223 J J ntmps223 J J (fun C=>?_);refine cl J (JL (u:=u) (v:=v) hi hj) J<|rz J J
def kD(x:aa):List aa->List aa
 |[]=>[]
 |y::l=>if co y x=0 then kD y l else y::kD y l
def rP:List aa->List aa
 |[]=>[]
 |x::l=>x::kD x l
def EU(h:l[k]? =some y):kD x (l.drop k)=if co y x=0 then kD y (l.drop (k+1)) else y::kD y (l.drop (k+1)):=by
 obtain⟨h1,h2⟩:=aS.1 h;rw[bJ h1,h2,kD]
def VC(h:l[k]? =some y):l.take (k+1)=l.take k++[y]:=by
 rw[dR,h];rfl
def azV(l:List aa)(k:Nat)(y:aa):(l.map eZ).set k (eZ y)=(l.set k y).map eZ:=(kQ ..).symm
def Yp(h:l.length<2):rP l=l:=by
 cases l with
 |nil=>rfl
 |cons x l=>cases l with
  |nil=>rfl
  |cons y l=>simp at h;omega
def aD8(h:l[0]? =some x):rP l=l.take 1++kD x (l.drop 1):=by
 cases l with
 |nil=>cases h
 |cons y l=>cases h;rfl
def SQ(h:a<=b)(e:r.drop a=l.drop a):r[b]? =l[b]? :=by
 have:=congrArg (·[b-a]?) e;simpa[lR,show a+(b-a)=b by omega] using this
def V6(h:a<=b)(e:r.drop a=l.drop a):r.drop b=l.drop b:=by
 have:=congrArg (List.drop (b-a)) e;simpa[tT,show a+(b-a)=b by omega] using this
def amg(h:i<r.length):(r.set i u).take (i+1)=r.take i++[u]:=by
 rw[dR,pS h,List.take_set_of_le (bW _)];rfl
def VX(h:i<r.length):(r.map eZ)[(i:Int).toNat]? =some (eZ r[i]):=by simp[h]
def awV(hb: ∀d∈l,aE d i0)(hn:l.length<=10000000)(hi:i0<=10000000):PB GB prog 222 (dB [none,some (.v (.func (.func 223) #[] #[]))]) 6 160 (l.map eZ) (fun w=> .v (.slice w.a w.n w.c)) ((rP l).map eZ):=by
 have hml:(l.map eZ).length=l.length:=aX ..;refine r6 (fu:=⟨10⟩) func222 J J ntmps222 J J (fun C=>?_);refine aj 9 (.d (vI (l.length:Nat))) J (by rw[hml]<;>rfl)<|gx J<|br J J J (fun hc10=>?_) (fun hc10=>?_)
 .
  exact mc J J J (by rw[Yp (by omega)])
 .
  obtain⟨x0,hx0⟩: ∃x,l[0]? =some x:=⟨_,aZ (by omega)⟩;refine lp (fu:=⟨6⟩) (X:=Nat×aa) (fun⟨k,x⟩=>[(5, .d (vI (k:Nat)))]) (fun⟨k,x⟩=>[]) (fun⟨k,x⟩=>1<=k/\k<=l.length/\l[k-1]? =some x/\rP l=l.take k++kD x (l.drop k)) (fun⟨k,x⟩=>l.length-k) ⟨1,x0⟩ J ⟨bW _,by omega,hx0,by rw[aD8 hx0]⟩ (fun _=>J) (fun⟨k,x⟩ hk=>?_)
  try dsimp only at hk⊢
  obtain⟨h1,h2,h3,h4⟩:=hk;refine aj 14 (.d (vI (l.length:Nat))) J (by rw[hml]<;>rfl)<|gx J<|br J J J (fun hc15=>?_) (fun hc15=>?_)
  .
   obtain⟨y,hy⟩: ∃y,l[k]? =some y:=⟨_,aZ (by omega)⟩;haveI:=hb y (aV hy);haveI:=hb x (aV h3);refine lb (fu:=⟨3⟩) _ J (cD hy) J<|aj 25 (.d (vI ((k-1:Nat):Int))) J (by rw[Int.ofNat_sub h1]<;>rfl)<|gx J<|lb (fu:=⟨0⟩) _ J (cD h3) J<|cl J (NJ (u:=y) (v:=x) hi hi) J<|bd (fu1:=⟨4⟩) J J J (fun hc28=>?_) (fun hc28=>?_)
   .
    have hc28':=hc28;refine Q1 k (l.length-k) J J (by omega) (by omega) J<|lp (fu:=⟨5⟩) (X:=Nat×Nat×aa×List aa) (fun⟨i,m,z,r⟩=>[(5, .d (vI (i:Nat))),(7, .d (vI (m:Nat)))]) (fun⟨i,m,z,r⟩=>[(1000000,some (.b 160 6 (r.map eZ) false))]) (fun⟨i,m,z,r⟩=>1<=m/\k+m<=l.length/\i+1<=k+m/\r.length=l.length/\r.drop (k+m-1)=l.drop (k+m-1)/\l[k+m-1]? =some z/\rP l=r.take i++kD z (l.drop (k+m))) (fun⟨i,m,z,r⟩=>l.length-m) ⟨k,1,y,l⟩ J ⟨bW _,by omega,by omega,J,J,by rw[mU];exact hy,by rw[h4,EU hy,if_pos hc28']⟩ (fun _=>J) (fun⟨i,m,z,r⟩ hk=>?_)
    try dsimp only at hk⊢
    obtain⟨g1,g2,g3,g4,g5,g6,g7⟩:=hk;have hrl:(r.map eZ).length=r.length:=aX ..;refine rsn J J<|br (fu1:=⟨9⟩) (fu2:=⟨9⟩) J J J (fun hc35=>?_) (fun hc35=>?_)
    .
     obtain⟨u,hu⟩: ∃u,l[k+m]? =some u:=⟨_,aZ (by omega)⟩;haveI:=hb u (aV hu);haveI:=hb z (aV g6);have g8:r[k+m]? =some u:=by rw[<-hu];exact SQ (by omega) g5
     have g10:r[k+m-1]? =some z:=by rw[<-g6];exact SQ (bW _) g5
     have g9:r.drop (k+m)=l.drop (k+m):=V6 (by omega) g5;refine Ga (k+m) J (by omega) (by omega) (by omega) J<|lb (fu:=⟨3⟩) _ J (cD g8) J<|Ga (k+m-1) J (by omega) (by omega) (by omega) J<|lb (fu:=⟨0⟩) _ J (cD g10) J<|cl J (NJ (u:=u) (v:=z) hi hi) J<|bb (fu1:=⟨6⟩) J J J (fun hc49=>?_) (fun hc49=>?_)
     .
      have hc49': ¬co u z=0:=by simpa using hc49
      refine Ga (k+m) J (by omega) (by omega) (by omega) J<|lb _ J (cD g8) J<|sb _ ((r.set i u).map eZ) J (VX (by omega)) J (by rw[<-azV]<;>rfl) J<|at_ ⟨i+1,m+1,u,r.set i u⟩ (by dsimp only;exact⟨⟨by omega,by omega,by omega,by rw[bZ];exact g4,by rw[show k+(m+1)-1=k+m by omega,qL (by omega)];exact g9,by rw[show k+(m+1)-1=k+m by omega];exact hu,by rw[g7,EU hu,if_neg hc49',amg (by omega),dX];rfl⟩,(by omega)⟩)
     .
      have hc49':co u z=0:=by simpa using hc49
      exact at_ ⟨i,m+1,u,r⟩ (by dsimp only;exact⟨⟨by omega,by omega,by omega,g4,by rw[show k+(m+1)-1=k+m by omega];exact g9,by rw[show k+(m+1)-1=k+m by omega];exact hu,by rw[g7,EU hu,if_pos hc49'];rfl⟩,(by omega)⟩)
    .
     obtain hm:k+m=l.length:=by omega
     refine Q1 i (l.length-i) J J (by omega) (by omega) J<|Wn (fu:=⟨6⟩) _ J (by rw[hrl];omega) (by omega) J J<|JG ((r.take i).map eZ) i J J (by rw[aY,bR,aR,hrl];omega) (by rw[fZ (by rw[bR,hrl];omega),List.take_take,Nat.min_self,iT]) J<|?_;exact mc J J J (by rw[g7,hm,fW,kD,fK])
   .
    have hc28':=hc28;exact at_ ⟨k+1,y⟩ (by dsimp only;exact⟨⟨by omega,by omega,hy,by rw[h4,EU hy,if_neg hc28',VC hy,dX];rfl⟩,(by omega)⟩)
  .
   exact mc J J J (by rw[h4,show k=l.length by omega,fW,kD,fK,dQ])
def awI{v:Value}(h:Go.Sx.flat v=true):v.oneCell'=true:=by cases v<;>first|rfl|cases h
def PJ{α:Type}{k:Nat}: ∀(l:List (List α)) (t:Nat),(∀x∈l,x.length=k)->t<l.length*k->l.flatten[t]? =(l[t/k]?).bind (·[t%k]?)
 |[],t,_,h=>by simp at h
 |x::l,t,h,ht=>by
  have hx:=h x aQ;have hk:0<k:=by
   rcases fX k with e|e
   .subst e;simp at ht
   .exact e
  rw[mM];by_cases q:t<k
  .rw[fN (by omega),lM q,jW q];rfl
  .rw[gV (by omega),hx,PJ l (t-k) (fun y hy=>h y (aJ _ hy)) (by rw[aN,dV] at ht;omega)]
   have e1:t/k=(t-k)/k+1:=by rw[Nat.div_eq_sub_div hk (by omega)]
   have e2:t%k=(t-k)%k:=by rw[Nat.mod_eq_sub_mod (by omega)]
   rw[e1,e2];rfl
section
variable [Inhabited α]
def aAZ(enc:α->List Value)(k:Nat)(hk: ∀x,(enc x).length=k)(d:Array α):(Go.Sort.flatK enc k d).toList=(d.toList.map enc).flatten:=by
 apply kY;intro t;have hlen:(d.toList.map enc).flatten.length=d.size*k:=by
  have: ∀l:List α,(l.map enc).flatten.length=l.length*k:=fun l=>by
   induction l with
   |nil=>simp
   |cons x l ih=>rw[bU,mM,aY,ih,hk,aN,dV];omega
  simpa using this d.toList
 by_cases ht:t<d.size*k
 .have hk0:0<k:=by
   rcases fX k with e|e
   .subst e;simp at ht
   .exact e
  have hi:t/k<d.size:=Nat.div_lt_of_lt_mul (by rwa [cJ]);rw[PJ (k:=k) _ _ (fun x hx=>by obtain⟨y,_,rfl⟩:=aU.1 hx;exact hk y) (by simpa using ht)];simp only[Go.Sort.flatK,pK,Array.toList_range,cV];rw[pQ ht];have hj:t%k<(enc d[t/k]).length:=by rw[hk];exact dK _ hk0
  simp only[kK];rw[getElem!_pos d (t/k) hi,getElem!_pos (enc d[t/k]) (t%k) hj];simp[hi,hj]
 .rw[dS (by simp[Go.Sort.flatK];omega),dS (by rw[hlen];omega)]
def Qc(enc:α->List Value)(k:Nat)(w:World)(b m:Nat)(dk:Array α)(os:Array Obj){q:Nat}(hq:q<w.heap.size):
  (sortWorldK enc k w b 0 m dk os).heap[q]? =if q=b then(w.heap[q]?).map (Go.Sort.onCells (Go.Sort.putCells id 0 (Go.Sort.flatK enc k dk))) else w.heap[q]? :=by
 show((w.heap.modify b _)++os)[q]? =_;rw[kS (by simpa using hq),Array.getElem?_modify];by_cases e:b=q
 .subst e;simp
 .simp[e,Ne.symm e]
def ax8{F:Array Value}{xs rest:List Value}(h:xs.length=F.size):Go.Sort.putCells id 0 F ⟨xs++rest⟩=⟨F.toList++rest⟩:=by
 apply Array.ext';apply kY;intro k;simp only[Go.Sort.putCells,Array.toList_mapIdx,List.getElem?_mapIdx];by_cases hk:k<F.size
 .rw[fN (by omega),fN (by simpa using hk),aZ (by omega)]
  simp[hk]
 .rw[gV (by omega),gV (by simp;omega),h]
  simp only[jK]
  cases rest[k-F.size]? with
  |none=>rfl
  |some v=>simp[hk]
end
def p6(cf:A->A->Int)(ds:List A):List A:=ds.mergeSort fun x y=>!decide (cf y x<0)
def zp(cf:A->A->Int)(ds:List A):(p6 cf ds).Perm ds:=List.mergeSort_perm ..
def M5{cf:A->A->Int}(hO:Go.Sort.SWO (Go.Proofs.ltOf cf))(ds:List A):(p6 cf ds).Pairwise fun x y=> ¬cf y x<0:=by
 have:=List.pairwise_mergeSort (le:=fun x y=>!decide (cf y x<0)) (fun a b c h1 h2=>by
  have h1':Go.Proofs.ltOf cf b a=false:=by simpa[Go.Proofs.ltOf] using h1
  have h2':Go.Proofs.ltOf cf c b=false:=by simpa[Go.Proofs.ltOf] using h2
  have:=hO.ntrans c b a h2' h1';simpa[Go.Proofs.ltOf] using this) (fun a b=>by
  cases h1:Go.Proofs.ltOf cf b a with
  |false=>have: ¬cf b a<0:=(by simpa[Go.Proofs.ltOf] using h1);simp;omega
  |true=>
   cases h2:Go.Proofs.ltOf cf a b with
   |false=>have: ¬cf a b<0:=(by simpa[Go.Proofs.ltOf] using h2);simp;omega
   |true=>have:=hO.trans _ _ _ h1 h2;rw[hO.irrefl] at this;cases this) ds
 exact this.imp fun h=>by simpa using h
def aJ8{P:Program}{ρ:Go.Shelf.Ren}(L:SlLaysF0.n6 P ρ)(ha:qm P (ρ.f 6))(hAg: ∀w,(isAgg (ρ.t 24)).run P w= .ok true w)(hZs: ∀w,(sizeOf (ρ.t 24)).run P w= .ok s w)
  (e:A->DV)(V:A->Prop)(hA: ∀x,∃l,e x= .ag l/\(DV.ag l).okc=true/\l.length=s)(cf:A->A->Int)(hO:Go.Sort.SWO (Go.Proofs.ltOf cf)){g:FuncId}(hg:qm P g)
  (hc: ∀x y,V x->V y->PF GB P g [e x,e y] (.v (.int .i64 (cf x y)))){ty:TypeId}{ds:List A}(hV: ∀x∈ds,V x)(hn:ds.length<4611686018427387904)(hu: ∀x∈ds,∀y∈ds,¬cf x y<0-> ¬cf y x<0->x=y):
  PW GB P (ρ.f 6) [none,some (.v (.func (.func g) #[] #[]))] s ty (ds.map e) (.tp []) ((p6 cf ds).map e):=by
 intro G z vs B hgb hB hvs;refine⟨ha,fun w hw=>?_⟩;obtain⟨v1,m1,rfl,q1,hvs⟩:=bj.1 hvs;obtain⟨v2,m2,rfl,q2,hvs⟩:=bj.1 hvs
 cases et.1 hvs
 rw[aI] at q1 q2;subst q1 q2;obtain⟨es,k1,k2,k3,_⟩:=hB;simp only at k1 k2 k3;have hlen:es.length=ds.length:=by rw[k2.len,aX]
 by_cases h0:ds=[]
 .subst h0
  have hes:es=[]:=cW (by simpa using hlen);have hz:z.n=0:=by rw[k1.len,hes];rfl
  rw[hz];refine(AnyF.slices_SortFunc_none L z.a z.c _ w).mono fun r w' ⟨h1,h2⟩=>?_;subst h2;exact⟨_,asB B,G,h1,hw,kh.2 ⟨[],J, .nil⟩,es,k1.asB,by subst hes;show IsLs G ((p6 cf []).map e) [];unfold p6;rw[List.mergeSort_nil];exact .nil,k3,fun h=>by cases h⟩
 .have hpos:0<es.length:=by rw[hlen];exact nX.2 h0
  rcases k1 with⟨e1,_,_⟩|⟨b,rest,lo,e1,e2,e3,e4,e5⟩
  .rw[e1] at hpos;simp at hpos
  subst e2
  -- elements with their cells
  have lift: ∀{ds:List A} {es:List Value},IsLs G (ds.map e) es->(∀x∈ds,V x)-> ∃qs:List {q:A×List Value//V q.1/\Is G (e q.1) (.agg ⟨q.2⟩)},qs.map (·.1.1)=ds/\qs.map (fun q=>Value.agg ⟨q.1.2⟩)=es:=by
   intro ds
   induction ds with
   |nil=>intro es h _;cases et.1 h;exact⟨[],rfl,rfl⟩
   |cons x ds ih=>
    intro es h hV;obtain⟨y,n,rfl,g1,g2⟩:=bj.1 h;obtain⟨qs,g3,g4⟩:=ih g2 fun x hx=>hV x (aJ _ hx);obtain⟨l,hl,_⟩:=hA x;have g1':=g1;rw[hl] at g1';obtain⟨m,rfl,_⟩:=dO.1 g1';exact⟨⟨(x,m),hV x aQ,g1⟩::qs,by simp[g3],by simp[g4]⟩
  obtain⟨qs,hq1,hq2⟩:=lift k2 hV;have:Inhabited {q:A×List Value//V q.1/\Is G (e q.1) (.agg ⟨q.2⟩)}:=⟨qs.head (fun e=>by rw[e] at hq1;exact h0 hq1.symm)⟩
  let enc:{q:A×List Value//V q.1/\Is G (e q.1) (.agg ⟨q.2⟩)}->List Value:=fun q=>q.1.2
  have henc: ∀q,(enc q).length=s/\ ∀v∈enc q,Go.Sx.flat v=true:=fun q=>by
   obtain⟨l,hl,h1,h2⟩:=hA q.1.1;have h3:=q.2.2;rw[hl] at h3;obtain⟨m,hm,h4⟩:=dO.1 h3
   cases hm
   exact⟨by show q.1.2.length=s;rw[h4.len,h2],fun v hv=>h4.flat h1 v hv⟩
  have hk: ∀q,(enc q).length=s:=fun q=>(henc q).1;have hqs:qs.toArray.size=es.length:=by rw[oW,<-hq2,aX]
  have hfl: ∀d:Array {q:A×List Value//V q.1/\Is G (e q.1) (.agg ⟨q.2⟩)},(Go.Sort.flatK enc s d).toList=aB (d.toList.map fun q=>Value.agg ⟨q.1.2⟩):=fun d=>by
   rw[aAZ enc s hk];unfold aB;rw[List.map_map];rfl
  have hfe:(Go.Sort.flatK enc s qs.toArray).toList=aB es:=by rw[hfl,<-hq2]
  have hown:=hw.hown ⟨b,aB es++rest,ty,false⟩ aQ;obtain⟨hb,hGb,_,_⟩:=hown;simp only at hb hGb;have hblt:=iv hb;have hH:Go.Sort.HoldsK enc s w b 0 qs.toArray:=by
   intro j hj;refine⟨?_,by simp[World.frozen?,hb]⟩;rw[Bq hb,eM];have hj':j<(aB es).length:=by rw[<-hfe];simpa using hj
   rw[fN hj',<-hfe];show _=some ((Go.Sort.flatK enc s qs.toArray)[j]!);rw[getElem!_pos _ j hj];simp
  have hsz: ∀dk:Array {q:A×List Value//V q.1/\Is G (e q.1) (.agg ⟨q.2⟩)},dk.size=qs.toArray.size->(aB es).length=(Go.Sort.flatK enc s dk).size:=fun dk hd=>by rw[<-hfe];simp[hd]
  have hblk: ∀(m:Nat) (os:Array Obj) (dk:Array _),dk.size=qs.toArray.size->(sortWorldK enc s w b 0 m dk os).heap[b]? =some (.cells ⟨(Go.Sort.flatK enc s dk).toList++rest⟩ ty (0,0)):=fun m os dk hd=>by
   rw[Qc enc s w b m dk os hblt,if_pos J,hb];show some (Obj.cells (Go.Sort.putCells id 0 (Go.Sort.flatK enc s dk) ⟨aB es++rest⟩) ty (0,0))=_;rw[ax8 (hsz dk hd)]
  have hoth: ∀(m:Nat) (os:Array Obj) (dk:Array _) (q:Nat),q<w.heap.size->q≠b->(sortWorldK enc s w b 0 m dk os).heap[q]? =w.heap[q]? :=fun m os dk q hq hne=>by rw[Qc enc s w b m dk os hq,if_neg hne]
  have hsub: ∀(m:Nat) (os:Array Obj) (dk:Array _) (c:Nat) (cs:List Value),G c=some cs-> ∃ty fz,(sortWorldK enc s w b 0 m dk os).heap[c]? =some (.cells ⟨cs⟩ ty fz):=fun m os dk c cs hcs=>by
   obtain⟨ty',fz,h⟩:=hw.sub c cs hcs;exact⟨ty',fz,by rw[hoth m os dk c (iv h) (fun e=>by subst e;rw[hGb] at hcs;cases hcs)];exact h⟩
  have hsize: ∀(m:Nat) (os:Array Obj) (dk:Array _),w.heap.size<=(sortWorldK enc s w b 0 m dk os).heap.size:=fun m os dk=>by
   show _<=((w.heap.modify b _)++os).size;simp
  have hcmp:Go.Proofs.CmpLays P g #[] enc s (fun q r=>cf q.1.1 r.1.1) b 0 qs.toArray.size w:=by
   intro m os dk _ x y;have hF:=hc x.1.1 y.1.1 x.2.1 y.2.1 G [.agg ⟨x.1.2⟩, .agg ⟨y.1.2⟩] hgb (.cons x.2.2 (.cons y.2.2 .nil));refine(hF.run _ (hsub m os dk)).mono fun r W ⟨v,G',h1,h2,h3⟩=>?_;rw[aI] at h3;subst h3;refine⟨h1,W.drawn-(sortWorldK enc s w b 0 m dk os).drawn,W.heap.extract (sortWorldK enc s w b 0 m dk os).heap.size W.heap.size,?_⟩;have hdr:=h2.dr;have hos:=h2.os;have htp:=h2.tape;have hou:=h2.output;have hkp:=h2.keep;have hss:=h2.size;simp only at hdr hos htp hou hkp hss;generalize sortWorldK enc s w b 0 m dk os=W0 at*
   cases W with
   |mk heap tape drawn os' output=>
    simp only at*;unfold Go.Sort.grow World.drewN;simp only[World.mk.injEq];refine⟨?_,htp,by omega,hos,hou⟩;apply Array.ext_getElem?;intro k;rw[Array.getElem?_append];split
    .rename_i hk';exact hkp k hk' (by simp)
    .rename_i hk'
     rw[Array.getElem?_extract];split
     .congr 1;omega
     .rw[nK (by omega)]
  have hO':Go.Sort.SWO (Go.Proofs.ltOf fun(q r:{q:A×List Value//V q.1/\Is G (e q.1) (.agg ⟨q.2⟩)})=>cf q.1.1 r.1.1):=⟨fun x=>hO.irrefl x.1.1,fun x y z=>hO.trans x.1.1 y.1.1 z.1.1,fun x y z=>hO.ntrans x.1.1 y.1.1 z.1.1⟩;have hrun:=AnyQ.slices_SortFunc L s hAg hZs enc hk (fun q v hv=>awI ((henc q).2 v hv)) (fun q r=>cf q.1.1 r.1.1) hO' g #[] b 0 z.c qs.toArray w (fun args w=>Dn hg args w) hcmp hH hblt (by rw[hqs,hlen];exact hn);have ez:z=⟨some ⟨b,0,none⟩,qs.toArray.size,z.c⟩:=by rw[hqs];exact e1
  have ea:(⟨[Value.slice z.a z.n z.c, .func (.func g) #[] #[]]⟩:Array Value)= #[.slice (some ⟨b,0,none⟩) qs.toArray.size z.c, .func (.func g) #[] #[]]:=by rw[ez]
  rw[ea];refine hrun.mono fun r w' ⟨h1,d',n,os,hp,hs,h2⟩=>?_;subst h2;have hdz:d'.size=qs.toArray.size:=hp.1;have hperm:d'.toList.Perm qs:=by
   have:=hp.2.2;have e1:d'.toList.take qs.length=d'.toList:=bM (by rw[jK,hdz];simp);simpa[e1] using this
  have hasc:d'.toList.Pairwise fun x y=> ¬cf y.1.1 x.1.1<0:=by
   rw[mW];intro i j hi hj hij;have:=hs i j (bV _) hij (by rw[<-hdz];simpa using hj);rw[getElem!_pos d' j (by simpa using hj),getElem!_pos d' i (by simpa using hi)] at this;simpa[Go.Proofs.ltOf] using this
  have hds:d'.toList.map (·.1.1)=p6 cf ds:=by
   refine List.Perm.eq_of_pairwise (le:=fun x y=> ¬cf y x<0) (fun x y hx hy k1 k2=>?_) ?_ (M5 hO ds) ?_
   .have m1:x∈ds:=by
     obtain⟨q,hq,rfl⟩:=aU.1 hx;rw[<-hq1];exact aU.2 ⟨q,hperm.mem_iff.1 hq,J⟩
    exact hu x m1 y ((zp cf ds).mem_iff.1 hy) k2 k1
   .rw[rN];exact hasc
   .refine(hperm.map _).trans ?_
    rw[hq1];exact(zp cf ds).symm
  have hlen':(d'.toList.map fun q=>Value.agg ⟨q.1.2⟩).length=es.length:=by rw[aX,jK,hdz,hqs]
  have hIs: ∀l:List {q:A×List Value//V q.1/\Is G (e q.1) (.agg ⟨q.2⟩)},IsLs G ((l.map (·.1.1)).map e) (l.map fun q=>Value.agg ⟨q.1.2⟩):=fun l=>by
   induction l with
   |nil=>exact .nil
   |cons q l ih=>exact .cons q.2.2 ih
  have hcell: ∀v∈d'.toList.map (fun q=>Value.agg ⟨q.1.2⟩),(aF v).length=s:=fun v hv=>by
   obtain⟨q,_,rfl⟩:=aU.1 hv;exact hk q
  refine⟨_,[⟨b,aB (d'.toList.map fun q=>Value.agg ⟨q.1.2⟩)++rest,ty,false⟩],G,h1,?_,kh.2 ⟨[],J, .nil⟩,d'.toList.map (fun q=>Value.agg ⟨q.1.2⟩), .inr ⟨b,rest,false,by rw[hlen'];exact e1,J,ew _ hcell,?_,by rw[hlen'];exact e5⟩,by rw[<-hds];exact hIs _,hcell,fun h=>by cases h⟩
  .refine⟨J,J,J,hsize n os d',fun q hq hqm=>hoth n os d' q hq fun e=>hqm (by rw[e];exact aQ),hsub n os d',bH.refl _,fun _ _=>J,fun o ho=>?_,List.pairwise_singleton _ _,?_,fun p hp=>(by cases hp)⟩
   .rw[aT.1 ho]
    exact⟨by rw[<-hfl];exact hblk n os d' hdz,hGb,(fun h=>by cases h),fun _=>aQ⟩
   .show w.drawn<=w.drawn+n
    omega
  .rw[<-e4,ew _ hcell,e3,hlen']
def Zc{a b:aa}(h:ce c a):ce c b\/ce b a:=by
 by_cases h1:c.half<b.half
 .exact .inl (.inl h1)
 .by_cases h2:b.half<a.half
  .exact .inr (.inl h2)
  .rcases h with h|⟨h,k⟩
   .omega
   .have e1:c.half=b.half:=by omega
    have e2:b.half=a.half:=by omega
    by_cases q1:0<c.cross b
    .exact .inl (.inr ⟨e1,q1⟩)
    .by_cases q2:0<b.cross a
     .exact .inr (.inr ⟨e2,q2⟩)
     .exfalso
      have i1:b.y*c.cross a=a.y*c.cross b+c.y*b.cross a:=by unfold aa.cross;grind
      have i2:b.x*c.cross a=a.x*c.cross b+c.x*b.cross a:=by unfold aa.cross;grind
      have q1':c.cross b<=0:=by grind
      have q2':b.cross a<=0:=by grind
      rcases ld b with⟨eb,kb⟩|⟨eb,kb⟩|⟨eb,kb⟩<;>rcases ld a with⟨ea,ka⟩|⟨ea,ka⟩|⟨ea,ka⟩<;>rcases ld c with⟨ec,kc⟩|⟨ec,kc⟩|⟨ec,kc⟩<;>first|omega|skip
      .have ha:0<=a.y:=by grind
       have hc:0<=c.y:=by grind
       rcases kb with kb|⟨kb,kb'⟩
       .have g1:=pW ha (show 0<= -c.cross b by grind)
        have g2:=pW hc (show 0<= -b.cross a by grind);have g3:=bD kb k;grind
       .have hx:b.cross a=b.x*a.y:=by unfold aa.cross;rw[kb];grind
        have ha0:a.y=0:=by
         rcases ka with ka|ka
         .have:=bD kb' ka;grind
         .exact ka.1
        have hax:0<a.x:=by grind
        have hy:c.cross a= -(c.y*a.x):=by unfold aa.cross;rw[ha0];grind
        have:=pW hc (show 0<=a.x by grind);grind
      .have ha:0<= -a.y:=by grind
       have hc:0<= -c.y:=by grind
       rcases kb with kb|⟨kb,kb'⟩
       .have g1:=pW ha (show 0<= -c.cross b by grind)
        have g2:=pW hc (show 0<= -b.cross a by grind);have g3:=bD (show 0< -b.y by grind) k;grind
       .have hx:b.cross a=b.x*a.y:=by unfold aa.cross;rw[kb];grind
        have ha0:a.y=0:=by
         rcases ka with ka|ka
         .have:=bD (show 0< -b.x by grind) (show 0< -a.y by grind);grind
         .exact ka.1
        have hax:0< -a.x:=by grind
        have hy:c.cross a= -(c.y*a.x):=by unfold aa.cross;rw[ha0];grind
        have:=pW hc (show 0<= -a.x by grind);grind
      .have hy:c.cross a=0:=by unfold aa.cross;rw[ka.1,ka.2];grind
       rw[hy] at k;exact absurd k (by decide)
def LY:Go.Sort.SWO (Go.Proofs.ltOf co):=by
 have e: ∀x y,Go.Proofs.ltOf co x y=true↔ce x y:=fun x y=>by rw[<-mE];simp[Go.Proofs.ltOf]
 have e2: ∀x y,Go.Proofs.ltOf co x y=false↔ ¬ce x y:=fun x y=>by rw[<-e];simp
 refine⟨fun x=>(e2 x x).2 (ry x),fun x y z h k=>(e x z).2 (uH ((e x y).1 h) ((e y z).1 k)),fun x y z h k=>(e2 x z).2 fun q=>?_⟩;rcases Zc (b:=y) q with q|q
 .exact(e2 x y).1 h q
 .exact(e2 y z).1 k q
def Sj: ∀{l m:List aa},l.Pairwise ce->m.Pairwise ce->(∀x,x∈l↔x∈m)->l=m
 |[],[],_,_,_=>rfl
 |[],b::m,_,_,h=>absurd ((h b).2 aQ) (by simp)
 |a::l,[],_,_,h=>absurd ((h a).1 aQ) (by simp)
 |a::l,b::m,h1,h2,h=>by
  obtain⟨p1,p2⟩:=bY.1 h1;obtain⟨q1,q2⟩:=bY.1 h2;have e:a=b:=by
   rcases aK.1 ((h a).1 aQ) with e|e
   .exact e
   .rcases aK.1 ((h b).2 aQ) with f|f
    .exact f.symm
    .exact(zt (q1 a e) (p1 b f)).elim
  subst e;congr 1;refine Sj p2 q2 fun x=>⟨fun hx=>?_,fun hx=>?_⟩
  .rcases aK.1 ((h x).1 (aJ _ hx)) with e|e
   .subst e;exact(ry _ (p1 _ hx)).elim
   .exact e
  .rcases aK.1 ((h x).2 (aJ _ hx)) with e|e
   .subst e;exact(ry _ (q1 _ hx)).elim
   .exact e
def wm(l:List aa):Prop:= ∀x∈l,∀y∈l,co x y=0->x=y
def N3: ∀{l:List aa} {x:aa},(x::l).Pairwise (fun a b=> ¬ce b a)->wm (x::l)->(kD x l).Pairwise ce/\(∀y∈kD x l,ce x y)/\ ∀y,y∈x::kD x l↔y∈x::l
 |[],_,_,_=>⟨.nil,(fun y hy=>by cases hy),fun _=>Iff.rfl⟩
 |z::l,x,h,ht=>by
  obtain⟨p1,p2⟩:=bY.1 h;obtain⟨i1,i2,i3⟩:=N3 p2 fun a ha b hb=>ht a (aJ _ ha) b (aJ _ hb);rw[kD];by_cases e:co z x=0
  .rw[if_pos e]
   obtain rfl:=ht z (by simp) x (by simp) e;exact⟨i1,i2,fun y=>by rw[i3];simp⟩
  .rw[if_neg e]
   have hb:ce x z:=by
    by_cases q:ce x z
    .exact q
    .exact absurd (Eb (p1 z aQ) q) e
   refine⟨bY.2 ⟨i2,i1⟩,fun y hy=>?_,fun y=>?_⟩
   .rcases aK.1 hy with rfl|hy
    .exact hb
    .exact uH hb (i2 y hy)
   .rw[aK,i3,aK (b:=x) (l:=z::l)]
def O6: ∀(l:List aa) (x:aa),(kD x l).length<=l.length
 |[],_=>bW _
 |y::l,x=>by
  have:=O6 l y;rw[kD];split<;>simp only[aN]<;>omega
def ZW(l:List aa):(rP l).length<=l.length:=by
 cases l with
 |nil=>exact bW _
 |cons x l=>have:=O6 l x;simp only[rP,aN];omega
def aFt(h:l.Pairwise fun a b=> ¬ce b a)(ht:wm l):(rP l).Pairwise ce/\ ∀y,y∈rP l↔y∈l:=by
 cases l with
 |nil=>exact⟨.nil,fun _=>Iff.rfl⟩
 |cons x l=>
  obtain⟨i1,i2,i3⟩:=N3 h ht;exact⟨bY.2 ⟨i2,i1⟩,i3⟩
def TL(ht:wm l)(y:aa):y∈iA l↔y∈l:=by
 have h2: ∀y,y∈iA l->y∈l:=fun y hy=>by
  rcases Bb co hy with h|h
  .exact h
  .cases h
 refine⟨h2 y,fun hy=>?_⟩;obtain⟨e,e1,e2⟩:=HW co (o:=[]) hy;rcases e2 with rfl|e2
 .exact e1
 .rw[<-ht e (h2 e e1) y hy e2];exact e1
def O'(ht:wm l):rP (p6 co l)=iA l:=by
 have hm: ∀y,y∈p6 co l↔y∈l:=fun y=>(zp co l).mem_iff;have h1:(p6 co l).Pairwise fun a b=> ¬ce b a:=(M5 LY l).imp fun h=>by rw[<-mE];exact h
 obtain⟨k1,k2⟩:=aFt h1 fun a ha b hb=>ht a ((hm a).1 ha) b ((hm b).1 hb);exact Sj k1 (RO l) fun x=>by rw[k2,hm,TL ht]
def azC{t:Tr}(ht:t.all ah.ok)(p:aa):wm (d6 t p):=fun x hx y hy h=>by
 obtain⟨l,k1,k2⟩:=pw.1 hx;obtain⟨m,k3,k4⟩:=pw.1 hy;obtain⟨a1,a2⟩:=oz k1;obtain⟨b1,b2⟩:=oz k3;exact Rs (gF ht _ a1) (gF ht _ b1) a2 b2 k2 k4 h
end Go.Sx
end
section
namespace Go.Proofs
open Go.Shelf
def Tryz.sortPt_ren:Go.Shelf.Ren:=⟨fun|6=>221|15=>280|14=>279|28=>295|29=>314|20=>306|21=>307|22=>308|23=>309|24=>310|25=>311|26=>312|27=>313|46=>327|47=>328|48=>329|49=>330|50=>331|57=>337|n=>n,fun|22=>122|24=>160|25=>313|3=>3|39=>209|0=>0|53=>208|55=>115|4=>4|46=>400|45=>399|50=>311|5=>5|9=>9|66=>417|70=>421|76=>428|77=>429|n=>n,fun|n=>n⟩
def Tryz.sortPt:Go.Proofs.SlLaysF0.n6 Tryz.prog Tryz.sortPt_ren:={
 mixed:=by kernel_rfl
 f6:=⟨Tryz.f221.name,by decide,Tryz.func221.trans (congrArg some (by kernel_rfl))⟩
 f14:=⟨Tryz.f279.name,by decide,Tryz.func279.trans (congrArg some (by kernel_rfl))⟩
 f15:=Tryz.func280.trans (congrArg some (by kernel_rfl))
 f20:=⟨Tryz.f306.name,by decide,Tryz.func306.trans (congrArg some (by kernel_rfl))⟩
 f21:=⟨Tryz.f307.name,by decide,Tryz.func307.trans (congrArg some (by kernel_rfl))⟩
 f22:=⟨Tryz.f308.name,by decide,Tryz.func308.trans (congrArg some (by kernel_rfl))⟩
 f23:=⟨Tryz.f309.name,by decide,Tryz.func309.trans (congrArg some (by kernel_rfl))⟩
 f24:=⟨Tryz.f310.name,by decide,Tryz.func310.trans (congrArg some (by kernel_rfl))⟩
 f25:=⟨Tryz.f311.name,by decide,Tryz.func311.trans (congrArg some (by kernel_rfl))⟩
 f26:=⟨Tryz.f312.name,by decide,Tryz.func312.trans (congrArg some (by kernel_rfl))⟩
 f27:=⟨Tryz.f313.name,by decide,Tryz.func313.trans (congrArg some (by kernel_rfl))⟩
 f28:=Tryz.func295.trans (congrArg some (by kernel_rfl))
 f29:=Tryz.func314.trans (congrArg some (by kernel_rfl))
 f46:=⟨Tryz.f327.name,by decide,Tryz.func327.trans (congrArg some (by kernel_rfl))⟩
 f47:=Tryz.func328.trans (congrArg some (by kernel_rfl))
 f48:=Tryz.func329.trans (congrArg some (by kernel_rfl))
 f49:=⟨Tryz.f330.name,by decide,Tryz.func330.trans (congrArg some (by kernel_rfl))⟩
 f50:=⟨Tryz.f331.name,by decide,Tryz.func331.trans (congrArg some (by kernel_rfl))⟩
 f57:=⟨Tryz.f337.name,by decide,Tryz.func337.trans (congrArg some (by kernel_rfl))⟩
 t0:=Tryz.underlying0
 a0:=Tryz.isAgg0
 z0:=Tryz.sizeOf0
 v0:=Tryz.zeroValue0
 t3:=Tryz.underlying3
 a3:=Tryz.isAgg3
 z3:=Tryz.sizeOf3
 v3:=Tryz.zeroValue3
 t4:=Tryz.underlying4
 a4:=Tryz.isAgg4
 z4:=Tryz.sizeOf4
 v4:=Tryz.zeroValue4
 t5:=Tryz.underlying5
 a5:=Tryz.isAgg5
 z5:=Tryz.sizeOf5
 v5:=Tryz.zeroValue5
 t9:=Tryz.underlying9
 a9:=Tryz.isAgg9
 z9:=Tryz.sizeOf9
 v9:=Tryz.zeroValue9
 t22:=Tryz.underlying122
 a22:=Tryz.isAgg122
 z22:=Tryz.sizeOf122
 v22:=Tryz.zeroValue122
 t25:=Tryz.underlying313
 a25:=Tryz.isAgg313
 z25:=Tryz.sizeOf313
 v25:=Tryz.zeroValue313
 t39:=Tryz.underlying209
 a39:=Tryz.isAgg209
 z39:=Tryz.sizeOf209
 v39:=Tryz.zeroValue209
 t45:=Tryz.underlying399
 a45:=Tryz.isAgg399
 z45:=Tryz.sizeOf399
 v45:=Tryz.zeroValue399
 t46:=Tryz.underlying400
 a46:=Tryz.isAgg400
 z46:=Tryz.sizeOf400
 v46:=Tryz.zeroValue400
 t50:=Tryz.underlying311
 a50:=Tryz.isAgg311
 z50:=Tryz.sizeOf311
 v50:=Tryz.zeroValue311
 t53:=Tryz.underlying208
 a53:=Tryz.isAgg208
 z53:=Tryz.sizeOf208
 v53:=Tryz.zeroValue208
 t55:=Tryz.underlying115
 a55:=Tryz.isAgg115
 z55:=Tryz.sizeOf115
 v55:=Tryz.zeroValue115
 t66:=Tryz.underlying417
 a66:=Tryz.isAgg417
 z66:=Tryz.sizeOf417
 v66:=Tryz.zeroValue417
 t70:=Tryz.underlying421
 a70:=Tryz.isAgg421
 z70:=Tryz.sizeOf421
 v70:=Tryz.zeroValue421
 t76:=Tryz.underlying428
 a76:=Tryz.isAgg428
 z76:=Tryz.sizeOf428
 v76:=Tryz.zeroValue428
 t77:=Tryz.underlying429
 a77:=Tryz.isAgg429
 z77:=Tryz.sizeOf429
 v77:=Tryz.zeroValue429}
end Go.Proofs
end
section
namespace Go.Sx
open Go Go.Proofs Tryz
variable {GB:Gh}{ds t vs l:List aa}{i k j:Nat}{f:aa->Bool}{v p n q:aa}{L:List ah}{R D g x m:Rat}{s:bu}
def azG(hb: ∀d∈ds,aE d i)(hi:i<=10000000)(hn:ds.length<=10000000)(ht:wm ds):PW GB prog 221 [none,some (.v (.func (.func 196) #[] #[]))] 6 160 (ds.map eZ) (.tp []) ((p6 co ds).map eZ):=
 aJ8 (GB:=GB) Tryz.sortPt ⟨_,func221,J,J⟩ isAgg160 sizeOf160 eZ (fun d=>aE d i) (fun x=>⟨_,J,J,J⟩) co LY ⟨_,func196,J,J⟩ (fun x y hx hy=>JL (i:=i) (j:=i) hi hi) hb (by omega)
  (fun x hx y hy h k=>ht x hx y hy (Eb (by rw[<-mE];exact h) (by rw[<-mE];exact k)))
def Xk(hb: ∀d∈ds,aE d i)(hi:i<=10000000)(hn:ds.length<=10000000)(ht:wm ds):PB GB prog 149 (dB [none]) 6 160 (ds.map eZ) (fun w=> .v (.slice w.a w.n w.c)) ((iA ds).map eZ):=by
 have hsm: ∀d∈p6 co ds,aE d i:=fun d hd=>hb d ((zp co ds).mem_iff.1 hd);have hsl:(p6 co ds).length=ds.length:=(zp co ds).length_eq;refine r6 func149 J J ntmps149 J J (fun C=>?_);refine cw _ J (azG hb hi hn ht) J J<|cq ((iA ds).map eZ) J (awV (i0:=i) hsm (by omega) hi) (by rw[O' ht]) J<|?_;exact mc J J J J
theorem aEW{t:Tr}(hb:t.all LB)(p:aa): ∀d∈d6 t p,aE d 500:=fun d hd=>by
 obtain⟨l,h1,h2⟩:=pw.1 hd;haveI:=nf.1 hb l (oz h1).1;rcases h2 with rfl|rfl<;>infer_instance
theorem aG5(h: ∀d∈ds,aE d i)(h2:2<=i): ∀v∈lc ds,aE v (i+i+1):=fun v hv=>by
 have up: ∀{q:aa},aE q i->aE q (i+i+1):=fun hq=>⟨hq.x.mono (by omega),hq.y.mono (by omega)⟩;unfold lc at hv;split at hv
 .rw[aT] at hv
  subst hv;exact⟨BQ.mono (k:=2) ⟨by decide,by decide⟩ (by omega),BQ.mono (k:=2) ⟨by decide,by decide⟩ (by omega)⟩
 .obtain⟨k,hk,rfl⟩:=aU.1 hv
  have hk':=jR.1 hk;have g: ∀{j:Nat},j<ds.length->aE (ds.getD j ⟨0,0⟩) i:=fun{j} hj=>by
   rw[aW,aZ hj];exact h _ (cN hj)
  haveI:=g hk';haveI:=g (dK (k+1) (show 0<ds.length by omega));unfold oP;split
  .exact inferInstance
  .exact up inferInstance
def aEm(ds:List aa):(lc ds).length<=ds.length+1:=by
 unfold lc;split
 .simp
 .rw[aX,lW];omega
def Ri(h:vs[k]? =some v):(vs.drop k).any f=(f v||(vs.drop (k+1)).any f):=by
 obtain⟨h1,h2⟩:=aS.1 h;rw[bJ h1,h2,List.any_cons]
def OZ(h:vs[k]? =some v):(vs.drop k).all f=(f v&&(vs.drop (k+1)).all f):=by
 obtain⟨h1,h2⟩:=aS.1 h;rw[bJ h1,h2,sN]
def Zu{b c:Bool}:PF GB prog 152 [vB b,vB c] (vI (if b&&c then 2 else if b then 1 else 0)):=by
 refine fn func152 J J ntmps152 J J (fun C=>?_);refine iC 7 J J J (fun hg7=>?_) (fun hg7=>?_)
 .refine bb J J J (fun hc5=>?_) (fun hc5=>?_)
  .exact rz J (by subst hg7 hc5;rfl)
  .refine bb J J J (fun hc10=>?_) (fun hc10=>?_)
   .exact rz J (by subst hg7 hc5;rfl)
   .subst hg7;cases hc10
 .refine bb J J J (fun hc10=>?_) (fun hc10=>?_)
  .subst hg7;cases hc10
  .exact rz J (by subst hg7;rfl)
def Vx{t:Tr}[hp:aE p i](hb:t.all LB)(ho:t.all ah.ok)(hs:t.size<=400000)(hi:i<=10000000:=by decide):PF GB prog 78 [eU t,eZ p] (vI (d8 t p)):=by
 have hrl:=D9 t p;have hrb:=aEW hb p;have hrt:=azC ho p;have hdb: ∀d∈iA (d6 t p),aE d 500:=fun d hd=>hrb d ((TL hrt d).1 hd);have hdl:(iA (d6 t p)).length<=(d6 t p).length:=by rw[<-O' hrt];exact cS (ZW _) (Nat.le_of_eq (zp co _).length_eq)
 have hsb:=aG5 hdb (by decide);obtain⟨vs,hvs⟩: ∃vs,vs=lc (iA (d6 t p)):=⟨_,rfl⟩;have hvl:vs.length<=(iA (d6 t p)).length+1:=by rw[hvs];exact aEm _
 rw[<-hvs] at hsb;have hml:(vs.map eZ).length=vs.length:=aX ..;refine fn func78 J J ntmps78 J J (fun C=>?_);refine Ny ((d6 t p).map eZ) J (BF (p:=p) (o:=[]) hi hb (by rw[dT];omega)) J J<|cq ((iA (d6 t p)).map eZ) J (Xk hrb (by decide) (by omega) hrt) J J<|fz 14 J J<|cl (fu:=⟨0⟩) J (awZ (ds:=iA (d6 t p)) (i:=500) hdb (by omega)) J<|aj 15 (.d (.sl (vs.map eZ))) J (by rw[hvs])<|gx (fu:=⟨1⟩) J<|aj 16 (.d (vI (vs.length:Nat))) J (by rw[hml]<;>rfl)<|gx J<|KR 5 _ J J<|KR 6 _ J J<|lp (X:=Bool×Bool×Nat) (fun⟨a,c,k⟩=>[(17, .d (vI (k:Nat))),(5, .d (vB a)),(6, .d (vB c))]) (fun⟨a,c,k⟩=>[]) (fun⟨a,c,k⟩=>(a||(vs.drop k).any (fun v=>(gg t p v).1))=ra t p/\(c&&(vs.drop k).all (fun v=>(gg t p v).1))=vC t p/\k<=vs.length) (fun⟨a,c,k⟩=>vs.length-k) ⟨false,true,0⟩ J ⟨by rw[hvs];simp[ra],by rw[hvs];simp[vC],bV _⟩ (fun _=>J) (fun⟨a,c,k⟩ hk=>?_)
 try dsimp only at hk⊢
 obtain⟨h1,h2,h3⟩:=hk;refine br J J J (fun hc18=>?_) (fun hc18=>?_)
 .
  obtain⟨v,hx⟩: ∃v,vs[k]? =some v:=⟨_,aZ (by omega)⟩;haveI:=hsb v (aV hx);refine ix _ J (cD hx) J<|cl J (VJ (t:=t) (p:=p) (v:=v) (i:=i) (j:=500+500+1) hb hi (by decide)) J<|bb J J J (fun hc28=>?_) (fun hc28=>?_)
  .
   refine NW 5 _ J J<|at_ ⟨true,c,k+1⟩ (by dsimp only;exact⟨⟨by rw[<-h1,Ri hx,hc28];simp,by rw[<-h2,OZ hx,hc28];simp,by omega⟩,(by omega)⟩)
  .
   refine NW 6 _ J J<|at_ ⟨a,false,k+1⟩ (by dsimp only;exact⟨⟨by rw[<-h1,Ri hx,hc28];simp,by rw[<-h2,OZ hx,hc28];simp,by omega⟩,(by omega)⟩)
 .
  obtain rfl:k=vs.length:=by omega
  rw[fW] at h1 h2;have e1:a=ra t p:=by simpa using h1
  have e2:c=vC t p:=by simpa using h2
  refine cl J (Zu (b:=a) (c:=c)) J<|rz J (by rw[e1,e2];rfl)
def E2{t:Tr}[hp:aE p i](h:i7 k t)(hi:i<=10000000:=by decide):PF GB prog 29 [eA t,nI p] (.tp [vI (d8 t p), .v .nilIface]):=by
 have hts:=h.s;refine fn func29 J J ntmps29 J J (fun C=>?_);refine cl (fu:=⟨11⟩) J (M4 h) J<|ll 13 J<|gx J<|cl J (Qj (p:=p) (i:=i) (by omega)) J<|cl J (Vx (t:=t) (p:=p) (i:=i) h.lb h.ok (by omega) hi) J<|rz J J




def Xx{a:aa}:uq (a::t) a=((0:Nat):Int):=Dd (k:=0) (q:=a) J J ⟨J,J⟩
def VQ{a b c:aa}(h1:a≠b)(h2:a≠c)(h3:b≠c):3<=fH (a::b::c::t) (a::b::c::t).length:=by
 have ne: ∀{x y:aa},x≠y->(!decide (x.x=y.x/\x.y=y.y))=true:=fun{x y} h=>by
  rw[decide_eq_false (fun k=>h (by cases x;cases y;simp only[aa.mk.injEq] at*;exact k))];rfl
 have e0:=DR (l:=a::b::c::t) (k:=0) (p:=a) J Xx;have e1:=DR (l:=a::b::c::t) (k:=1) (p:=b) J (Dd (k:=1) (q:=b) J (by simp only[List.take,sN,List.all_nil,Bool.and_true,ne h1]) ⟨J,J⟩);have e2:=DR (l:=a::b::c::t) (k:=2) (p:=c) J (Dd (k:=2) (q:=c) J (by simp only[List.take,sN,List.all_nil,Bool.and_true,ne h2,ne h3]) ⟨J,J⟩);have mono: ∀n m,n<=m->fH (a::b::c::t) n<=fH (a::b::c::t) m:=by
  intro n m h
  induction m with
  |zero=>rw[show n=0 by omega];exact bW _
  |succ m ih=>
   by_cases k:n=m+1
   .rw[k];exact bW _
   .exact cS (ih (by omega)) OX
 have:=mono 3 (a::b::c::t).length (by simp);have z:fH (a::b::c::t) 0=0:=J;rw[eM] at e0;rw[show 1+1=2 from J] at e1;rw[show 2+1=3 from J] at e2;omega
def GK{a b c:ZP}{t:List ZP}(ho:fe (a::b::c::t))(h1:a≠b)(h2:a≠c)(h3:b≠c):tg (a::b::c::t):=
 ⟨ho,VQ (t:=t.map ZP.q) (fun e=>h1 (CW e)) (fun e=>h2 (CW e)) (fun e=>h3 (CW e))⟩
def TP{a b c d:Int}(ho:fe (eG a b c d))(h1:a<c)(h2:b<d):tg (eG a b c d):=
 GK ho (fun e=>by have:=congrArg Prod.fst e;dsimp only at this;omega) (fun e=>by have:=congrArg Prod.fst e;dsimp only at this;omega) (fun e=>by have:=congrArg Prod.snd e;dsimp only at this;omega)
def WG{p u v:ZP}(ho:fe (gA p u v))(h:jE u v≠0):tg (gA p u v):=by
 have hu: ∀{a b:ZP},(a=(0,0)\/b=(0,0)\/a=b)->jE a b=0:=fun{a b} k=>by
  unfold jE;rcases k with rfl|rfl|rfl
  .simp
  .simp
  .rw[sQ];omega
 refine GK ho (fun e=>h (hu (.inl ?_))) (fun e=>h (hu (.inr (.inl ?_)))) (fun e=>h (hu (.inr (.inr ?_))))
 .have e1:=congrArg Prod.fst e
  have e2:=congrArg Prod.snd e;unfold j0 at e1 e2;dsimp only at e1 e2;exact Prod.ext (by dsimp only;omega) (by dsimp only;omega)
 .have e1:=congrArg Prod.fst e
  have e2:=congrArg Prod.snd e;unfold j0 at e1 e2;dsimp only at e1 e2;exact Prod.ext (by dsimp only;omega) (by dsimp only;omega)
 .have e1:=congrArg Prod.fst e
  have e2:=congrArg Prod.snd e;unfold j0 at e1 e2;dsimp only at e1 e2;exact Prod.ext (by omega) (by omega)
def aDK{es:List Int}{a:Nat}(ha:a<=es.length):tg (gr es a).1:=by
 have hok:=(Al ha).1;unfold gr at*;dsimp only at*;split
 .rename_i h
  rw[if_pos h] at hok;unfold yv at*;dsimp only at*;exact TP hok (by omega) (by omega)
 .rename_i h
  rw[if_neg h] at hok;dsimp only at*;split
  .rename_i k
   rw[if_pos k] at hok;exact WG hok (by omega)
  .exact GK P9 (by decide) (by decide) (by decide)







section
variable {r:List ZP}
end





section
variable {C:aG}{n:Nat}{Q0:Exit->Act->World->Prop}{fr fr' fr1 fr2:aC}{own own' own1 own2:aH}{cf cf' cf1 cf2:Cf}{vc vc1 vc2:List Prop}
end





def Hc{a:Rat}(hg:g≠0)(hR:R*D=g)(ha:a*D=x):a*R⁻¹=x*g⁻¹:=by
 have h1:g*g⁻¹=1:=Rat.mul_inv_cancel g hg;have hR0:R≠0:=fun e=>hg (by rw[<-hR,e];grind);have h2:R*R⁻¹=1:=Rat.mul_inv_cancel R hR0;generalize R⁻¹=r at*;generalize g⁻¹=s at*;have:r=D*s:=by
  have h3:R*(r-D*s)=0:=by grind
  have:=(fV.1 h3).resolve_left hR0;grind
 grind
def Z2{a b c:Rat}(h0: ¬(a=0/\b=0)):a*(rgcd (rgcd a b) c)⁻¹=((eo a b c).a:Rat)/\b*(rgcd (rgcd a b) c)⁻¹=((eo a b c).b:Rat)/\c*(rgcd (rgcd a b) c)⁻¹=((eo a b c).c:Rat):=by
 obtain⟨k1,k2,k3⟩:=P' a b c;have hn:=JJ (c:=c) h0;have hD:=Qk a b c;have hr:=L4 hD (L4 hD k1 k2) k3;unfold eo;generalize a.num*(b.den*c.den:Nat)=x at*;generalize b.num*(a.den*c.den:Nat)=y at*;generalize c.num*(a.den*b.den:Nat)=z at*;rw[fL] at hr;have hgn:Nat.gcd x.natAbs y.natAbs≠0:=fun h=>hn ⟨kM.1 (mV h),kM.1 (mX h)⟩;have hgp:0<Nat.gcd (Nat.gcd x.natAbs y.natAbs) z.natAbs:=lN _ (iS hgn);have hg:(((Nat.gcd (Nat.gcd x.natAbs y.natAbs) z.natAbs:Nat):Int):Rat)≠0:=fun e=>by
  have:((Nat.gcd (Nat.gcd x.natAbs y.natAbs) z.natAbs:Nat):Int)=0:=by exact_mod_cast e
  omega
 refine⟨?_,?_,?_⟩
 .rw[Hc hg hr k1];exact Jq hgp (rJ (lJ _ _) (lJ _ _))
 .rw[Hc hg hr k2];exact Jq hgp (rJ (lJ _ _) (mZ _ _))
 .rw[Hc hg hr k3];exact Jq hgp (mZ _ _)
def Sb{a b c:Rat}[ha:BQ a 62][hb:BQ b 62][hc:BQ c 62](h0: ¬(a=0/\b=0)):PF GB prog 124 [eF a,eF b,eF c] (.tp [c8 (eo a b c),vB true]):=by
 obtain⟨e1,e2,e3⟩:=Z2 (c:=c) h0;haveI:BQ (rgcd a b) 260:=BQ.mono (inferInstance:BQ (rgcd a b) _);haveI:BQ (rgcd (rgcd a b) c) 700:=BQ.mono (inferInstance:BQ (rgcd (rgcd a b) c) _);haveI:BQ (rgcd (rgcd a b) c)⁻¹ 700:=BQ.mono (inferInstance:BQ (rgcd (rgcd a b) c)⁻¹ _);have hl4:([((eo a b c).a:Rat),((eo a b c).b:Rat),((eo a b c).c:Rat)].map eF).length=3:=J;have hl3:[((eo a b c).a:Rat),((eo a b c).b:Rat),((eo a b c).c:Rat)].length=3:=J;refine fn func124 J J ntmps124 J J (fun C=>?_);refine cl J (A5 (q:=a)) J<|csd 11 J J J (fun hg11=>?_) (fun hg11=>?_)
 .
  refine cl J (A5 (q:=b)) J<|bd J J J (fun hc14=>?_) (fun hc14=>?_)
  .
   exact absurd ⟨hg11,hc14⟩ h0
  .
   refine cl rfl (tE (p:=a) (q:=b) (i:=62) (j:=62)) rfl<|cl rfl (tE (p:=rgcd a b) (q:=c) (i:=260) (j:=62)) rfl<|cl rfl (EV (q:=rgcd (rgcd a b) c) (i:=700)) rfl<|ro (fu:=⟨0⟩) J J<|cq (hv:=by simp only[ak];exact⟨by kernel_rfl,by omega⟩) ([((eo a b c).a:Rat),((eo a b c).b:Rat),((eo a b c).c:Rat)].map eF) rfl (Nc (L:=[a,b,c]) (k:=(rgcd (rgcd a b) c)⁻¹) (i:=700) (by intro q hq;simp only[aK,eY,or_false] at hq;rcases hq with rfl|rfl|rfl;exact yr ha;exact yr hb;exact yr hc) (by intro q hq;simp only[aK,eY,or_false] at hq;rcases hq with rfl|rfl|rfl;exact ha.mono (by decide);exact hb.mono (by decide);exact hc.mono (by decide)) (nb rfl)) (by simp only[bU,gN,e1,e2,e3]) rfl<|lb _ J J J<|lb _ J J J<|lb _ J J J<|rz J J
 .
  refine cl rfl (tE (p:=a) (q:=b) (i:=62) (j:=62)) rfl<|cl rfl (tE (p:=rgcd a b) (q:=c) (i:=260) (j:=62)) rfl<|cl rfl (EV (q:=rgcd (rgcd a b) c) (i:=700)) rfl<|ro (fu:=⟨0⟩) J J<|cq (hv:=by simp only[ak];exact⟨by kernel_rfl,by omega⟩) ([((eo a b c).a:Rat),((eo a b c).b:Rat),((eo a b c).c:Rat)].map eF) rfl (Nc (L:=[a,b,c]) (k:=(rgcd (rgcd a b) c)⁻¹) (i:=700) (by intro q hq;simp only[aK,eY,or_false] at hq;rcases hq with rfl|rfl|rfl;exact yr ha;exact yr hb;exact yr hc) (by intro q hq;simp only[aK,eY,or_false] at hq;rcases hq with rfl|rfl|rfl;exact ha.mono (by decide);exact hb.mono (by decide);exact hc.mono (by decide)) (nb rfl)) (by simp only[bU,gN,e1,e2,e3]) rfl<|lb _ J J J<|lb _ J J J<|lb _ J J J<|rz J J
def azA{a b c:aa}[ha:aE a i][hb:aE b j][hc:aE c k](hi:i<=80000:=by decide)(hj:j<=80000:=by decide)(hk:k<=80000:=by decide):PF GB prog 190 [eZ a,eZ b,eZ c] (vI (bG a b c).num.sign):=by
 haveI h1:=D7 b a;haveI h2:=D7 c a;have e:(⟨b.x-a.x,b.y-a.y⟩:aa).cross ⟨c.x-a.x,c.y-a.y⟩=bG a b c:=by unfold aa.cross bG;grind
 refine fn func190 J J ntmps190 J J (fun C=>?_);refine cl J (HU (p:=b) (q:=a) (i:=j) (j:=i) (by omega) (by omega)) J<|cl J (HU (p:=c) (q:=a) (i:=k) (j:=i) (by omega) (by omega)) J<|cl J (AB (p:=⟨b.x-a.x,b.y-a.y⟩) (q:=⟨c.x-a.x,c.y-a.y⟩) (i:=j+i+1) (j:=k+i+1) (hp:=h1) (hq:=h2) (by omega) (by omega)) J<|cl J (lu (q:=(⟨b.x-a.x,b.y-a.y⟩:aa).cross ⟨c.x-a.x,c.y-a.y⟩) (h:= @BQ.cross _ _ _ _ h1 h2) (by omega)) J<|rz J (by rw[e]<;>rfl)
def qE(n p:aa)(t:List aa)(k:Nat):Rat:=(t.take k).foldl (fun b q=>if n.dot q<b then n.dot q else b) (n.dot p)
def Mx(h:t[k]? =some q):qE n p t (k+1)=if n.dot q<qE n p t k then n.dot q else qE n p t k:=by
 unfold qE;rw[dR,h];simp only[pL,oT,kN,List.foldl_nil]
theorem Dj{n p:aa}{t:List aa}{i j:Nat}[hn:aE n i](hb: ∀q∈p::t,aE q j): ∀k,BQ (qE n p t k) (i+j+(i+j)+1)
 |0=>by
  haveI:=hb p aQ;exact(inferInstance:BQ (n.dot p) _)
 |k+1=>by
  cases h:t[k]? with
  |none=>
   have e:qE n p t (k+1)=qE n p t k:=by
    unfold qE;rw[dR,h];simp
   rw[e];exact Dj hb k
  |some q=>
   rw[Mx h];haveI:=hb q (aJ _ (aV h));split
   .exact(inferInstance:BQ (n.dot q) _)
   .exact Dj hb k
theorem T4[aE n i](hb: ∀q∈l,aE q j)(hne:l≠[]):BQ (jO n l) (i+j+(i+j)+1):=by
 cases l with
 |nil=>exact absurd J hne
 |cons p t=>
  have:=Dj (n:=n) (i:=i) hb t.length;unfold qE at this;rwa [dQ] at this
def Dq(l:List aa):c9 6 (l.map eZ):=fun d hd=>by
 obtain⟨x,_,rfl⟩:=aU.1 hd;exact⟨J,J⟩
def Pk[hn:aE n i](hb: ∀q∈l,aE q j)(hne:l≠[])(hi:i<=20000)(hj:j<=20000)(hk:l.length<=100000):PF GB prog 126 [eZ n, .sl (l.map eZ)] (eF (jO n l)):=by
 obtain⟨p,t,rfl⟩: ∃p t,l=p::t:=by cases l with|nil=>exact absurd rfl hne|cons p t=>exact⟨p,t,rfl⟩
 have hml:((p::t).map eZ).length=t.length+1:=by simp
 have hml2:(t.map eZ).length=t.length:=aX ..;rw[aN] at hk;have hp:=hb p aQ;obtain⟨S,hS⟩: ∃S,S=qE n p t:=⟨_,rfl⟩;have hSb: ∀k,BQ (S k) (i+j+(i+j)+1):=by rw[hS];exact Dj hb
 have hS0:n.dot p=S 0:=by rw[hS];rfl
 refine fn func126 J J ntmps126 J J (fun C=>?_);refine ix _ J J J<|cl (fu:=⟨0⟩) J (ux (p:=n) (q:=p) (i:=i) (j:=j) (by omega) (by omega)) J<|aj 12 (.d (eF (S 0))) J (by rw[hS0])<|gx J<|kI (fu:=⟨1⟩) 1 (t.length+1) (t.map eZ) J J (by rw[hml]) (by rw[bM (by rw[hml];exact bW _)];rfl) (Dq _) (by omega) (by omega) J<|aj 15 (.d (vI (t.length:Nat))) J (by rw[hml2]<;>rfl)<|gx J<|lp (X:=Nat) (fun k=>[(16, .d (vI (k:Nat))),(5, .ov 5 0)]) (fun k=>[(5,some (.o 158 [.d (vI (dC (S k))), .d (vI (dx (S k))), .d (di (S k))] true))]) (fun k=>k<=t.length) (fun k=>t.length-k) 0 J (bV _) (fun _=>J) (fun k hk=>?_);haveI:=hSb k;refine br J J J (fun hc17=>?_) (fun hc17=>?_)
 .
  obtain⟨q,hx⟩: ∃u,t[k]? =some u:=⟨_,aZ (by omega)⟩;haveI:=hb q (aJ _ (aV hx));have eS:S (k+1)=if n.dot q<S k then n.dot q else S k:=by rw[hS];exact Mx hx
  refine ix _ J (cD hx) J<|cl J (ux (p:=n) (q:=q) (i:=i) (j:=j) (by omega) (by omega)) J<|cl (fu:=⟨0⟩) J (R4 (p:=S k) (q:=n.dot q) (i:=i+j+(i+j)+1) (j:=i+j+(i+j)+1) (by omega) (by omega)) J<|aj 24 (.d (eF (S (k+1)))) J (by rw[eS])<|gx (hv:=by simp only[ak];exact⟨by kernel_rfl,by omega⟩) J<|at_ (k+1) ⟨(by omega),(by omega)⟩
 .
  obtain rfl:k=t.length:=by omega
  exact rz J (by rw[hS];unfold qE;rw[dQ]<;>rfl)
def aLB:Option Rat->DV
 |some m=> .tp [eF m,vB true]
 |none=> .tp [.ag [vI 0,vI 0, .v (.pointer none)],vB false]
theorem Qy{c:ar}(hc:eE c): ∀q∈jt c,aE q 3500:=fun q hq=>by
 rcases aL.1 hq with h|h
 .obtain⟨s,hs,rfl⟩:=aU.1 h
  exact UH (hc s hs)
 .have hlb: ∀l∈c.map (fun s=>s.l),LB l:=fun l hl=>by
   obtain⟨s,hs,rfl⟩:=aU.1 hl;exact(hc s hs).lb
  exact aE.mono (V7 hlb q h)
def SO{c:ar}(h:c=[]\/tB n c=true):iq c n=none:=by
 unfold iq;rw[if_pos];rcases h with h|h
 .rw[h];rfl
 .rw[h,sW]
def Jd{c:ar}(hs:s∈c)(h:ja n s=true):iq c n=none:=by
 unfold iq;split
 .rfl
 .rw[if_pos (gQ.2 ⟨s,hs,h⟩)]
def X'{c:ar}(h0:c≠[])(h1:tB n c=false)(h: ∀s∈c,ja n s=false):iq c n=some (jO n (jt c)):=by
 unfold iq;have e:c.isEmpty=false:=by cases c with|nil=>exact absurd J h0|cons s t=>rfl
 rw[e,h1,if_neg (by decide),if_neg (fun k=>by obtain⟨s,hs,k⟩:=gQ.1 k;rw[h s hs] at k;cases k)]
def rA(c:ar):List aa:=c.map fun s=>s.l.at s.v.sample
def az4{c:ar}(h:c[k]? =some s):((rA (c.take k)).map eZ)++[eZ (s.l.at s.v.sample)]=(rA (c.take (k+1))).map eZ:=by
 unfold rA;rw[dR,h,bX,bX];rfl
def aAq{c:ar}(h:c.length≠1):tB n c=false:=by
 match c,h with
 |[],_=>rfl
 |[s],h=>exact absurd J h
 |_::_::_,_=>rfl
def ES:x.num.sign<0↔x<0:=by
 rw[<-Rat.not_le,<-sX];constructor
 .intro h k
  rcases(show x.num=0\/0<x.num by omega) with e|e
  .rw[e] at h;exact absurd h (by decide)
  .rw[eK e] at h;omega
 .intro h
  rw[dY (by omega)];decide
def XR:0<x.num↔0<x:=by
 constructor
 .intro h
  refine Rat.not_le.1 fun k=>?_;have h2:=sX.2 (show 0<= -x by grind);rw[mS] at h2;omega
 .intro h
  have h1:=sX.2 (cM h);have h2:x.num≠0:=fun e=>by rw[lQ.1 e] at h;exact absurd h (by decide)
  omega
def Dm:0<x.num.sign↔0<x:=by
 rw[<-XR];constructor
 .intro h
  refine Decidable.not_not.1 fun k=>?_;rcases(show x.num=0\/x.num<0 by omega) with e|e
  .rw[e] at h;exact absurd h (by decide)
  .rw[dY e] at h;exact absurd h (by decide)
 .intro h
  rw[eK h];decide
def Ul(h:s.v.nh=true)(k:(s.l.dir.dot n).num.sign<0):ja n s=true:=by
 unfold ja;rw[h,decide_eq_true (ES.1 k)];rfl
def Nv(h:s.v.nl=true)(k:0<(s.l.dir.dot n).num.sign):ja n s=true:=by
 unfold ja;rw[h,decide_eq_true (Dm.1 k),sL,sW]
def FI(h1:s.v.nh=false\/ ¬(s.l.dir.dot n).num.sign<0)(h2:s.v.nl=false\/ ¬0<(s.l.dir.dot n).num.sign):ja n s=false:=by
 unfold ja;have e1:(s.v.nh&&decide (s.l.dir.dot n<0))=false:=by
  rcases h1 with h|h
  .rw[h];rfl
  .rw[decide_eq_false fun k=>h (ES.2 k),Bool.and_false]
 have e2:(s.v.nl&&decide (0<s.l.dir.dot n))=false:=by
  rcases h2 with h|h
  .rw[h];rfl
  .rw[decide_eq_false fun k=>h (Dm.2 k),Bool.and_false]
 rw[e1,e2];rfl
def Yq{c:ar}(h:c[k]? =some s)(hk: ∀s∈c.take k,ja n s=false)(hs:ja n s=false): ∀s∈c.take (k+1),ja n s=false:=fun u hu=>by
 rw[dR,h] at hu;rcases aL.1 hu with hu|hu
 .exact hk u hu
 .rw[show u=s by simpa using hu];exact hs
def RU{c:ar}(h:c≠[]):jt c≠[]:=fun e=>h (by
 have:=(List.append_eq_nil_iff.1 e).1;exact List.map_eq_nil_iff.1 this)
def Xq(c:ar)(h:c.length<=20000):(jt c).length<=100000:=by
 unfold jt;have:=LM (c.map (·.l));rw[aY,aX];rw[aX] at this;omega
def SL{c:ar}[hn:aE n j](hc:eE c)(hj:j<=10000)(hk:c.length<=20000):PF GB prog 130 [eC c,eZ n] (aLB (iq c n)):=by
 have hml:(c.map de).length=c.length:=aX ..;have hback: ∀s,c[0]? =some s->c.length=1->tB n c=decide (s.l.nor.dot n<0):=fun s h1 h2=>by match c,h1,h2 with|[u],h1,_=>cases h1;rfl
 refine fn (fu:=⟨8⟩) func130 J J ntmps130 J J (fun C=>?_);refine mg (X:=Unit) (fun _=>[]) (fun _=>[]) (fun _=>c≠[]/\tB n c=false) [] [] rfl ?_ (fun _=>J) (fun _ hm=>?_)
 .
  refine gx (fu:=⟨4⟩) J<|aj 11 (.d (vI (c.length:Nat))) J (by rw[hml]<;>rfl)<|gx (fu:=⟨0⟩) J<|kj (v1:=fun hg12=>by simp only[ak];kernel_rfl) (fu2:=⟨3⟩) J J J J (fun hg12=>?_) (fun hg12=>?_)
  .
   exact rz J (by rw[SO (.inl (cW (by omega)))]<;>rfl)
  .
   have hc0:c≠[]:=fun e=>hg12 (by rw[e];rfl);refine aj 15 (.d (vI (c.length:Nat))) J (by rw[hml]<;>rfl)<|gx (fu:=⟨0⟩) J<|kj (v2:=fun hg16=>by simp only[ak];kernel_rfl) J J J J (fun hg16=>?_) (fun hg16=>?_)
   .
    obtain⟨s,hx⟩: ∃s,c[0]? =some s:=⟨_,aZ (by omega)⟩;have hbe:=hback s hx (by omega);haveI:=(hc s (aV hx)).lb;haveI:=(hc s (aV hx)).v.lo;haveI:=(hc s (aV hx)).v.hi;refine ix _ J (aLr hx) J<|cl J (vd (l:=s.l)) J<|cl J (ux (p:=s.l.nor) (q:=n) (i:=97) (j:=j) (by decide) (by omega)) J<|cl J (lu (q:=s.l.nor.dot n) (by omega)) J<|br J J J (fun hc28=>?_) (fun hc28=>?_)
    .
     exact rz J (by rw[SO (.inr (by rw[hbe];exact decide_eq_true (ES.1 hc28)))]<;>rfl)
    .
     exact at_ () ⟨hc0,by rw[hbe];exact decide_eq_false fun k=>hc28 (ES.2 k)⟩
   .
    exact at_ () ⟨hc0,aAq (by omega)⟩
 .
  obtain⟨hne,hbk⟩:=hm;refine nr 6 6 160 6 J J J<|lp (X:=Nat) (fun k=>[(32, .d (vI (k:Nat))),(6, .rw 6)]) (fun k=>[(6,some (.b 160 6 ((rA (c.take k)).map eZ) true))]) (fun k=>k<=c.length/\ ∀s∈c.take k,ja n s=false) (fun k=>c.length-k) 0 J ⟨bV _,fun s hs=>by simp at hs⟩ (fun _=>J) (fun k hk=>?_);obtain⟨hk1,hk2⟩:=hk;have hm4:(rA (c.take k)).length<=k:=by unfold rA;rw[aX,bR];omega
  have hm3:((rA (c.take k)).map eZ).length<=k:=by rw[aX];exact hm4
  refine br J J J (fun hc33=>?_) (fun hc33=>?_)
  .
   obtain⟨s,hx⟩: ∃u,c[k]? =some u:=⟨_,aZ (by omega)⟩;haveI:=(hc s (aV hx)).lb;haveI:=(hc s (aV hx)).v.lo;haveI:=(hc s (aV hx)).v.hi;refine ix _ J (cD hx) J<|cl J (vr (l:=s.l)) J<|cl J (ux (p:=s.l.dir) (q:=n) (i:=97) (j:=j) (by decide) (by omega)) J<|cl (fu:=⟨4⟩) J (lu (q:=s.l.dir.dot n) (by omega)) J<|mg (X:=Unit) (fun _=>[]) (fun _=>[]) (fun _=>ja n s=false) [] [] rfl ?_ (fun _=>J) (fun _ hop=>?_)
   .
    refine gx J<|iC 45 J J J (fun hg45=>?_) (fun hg45=>?_)
    .
     refine cs 49 J J J (fun hg49=>?_) (fun hg49=>?_)
     .
      exact rz J (by rw[Jd (aV hx) (Ul hg45 hg49)]<;>rfl)
     .
      refine iC 53 J J J (fun hg53=>?_) (fun hg53=>?_)
      .
       refine br J J J (fun hc57=>?_) (fun hc57=>?_)
       .
        exact rz J (by rw[Jd (aV hx) (Nv hg53 hc57)]<;>rfl)
       .
        exact at_ () (FI (.inr hg49) (.inr hc57))
      .
       exact at_ () (FI (.inr hg49) (.inl hg53))
    .
     refine iC 53 J J J (fun hg53=>?_) (fun hg53=>?_)
     .
      refine br J J J (fun hc57=>?_) (fun hc57=>?_)
      .
       exact rz J (by rw[Jd (aV hx) (Nv hg53 hc57)]<;>rfl)
      .
       exact at_ () (FI (.inl hg45) (.inr hc57))
     .
      exact at_ () (FI (.inl hg45) (.inl hg53))
   .
    refine cl J (R2 (v:=s.v) (i:=1200)) J<|cl J (Pc (l:=s.l) (t:=s.v.sample)) J<|rf J J<|ap (hv:=by simp only[ak];exact⟨by kernel_rfl,by omega⟩) ((rA (c.take (k+1))).map eZ) J (az4 hx) (Dq [_]) J<|fw 67 6 J<|at_ (k+1) ⟨⟨by omega,Yq hx hk2 hop⟩,(by omega)⟩
  .
   obtain rfl:k=c.length:=by omega
   rw[dQ] at hk2⊢;have hm5:(rA c).length=c.length:=aX ..;have hm6:=LM (c.map (·.l));rw[aX] at hm6;refine cl J (Xa (c:=c) (fun s hs=>(hc s hs).lb) (by omega)) J<|lP ((jt c).map eZ) J (by unfold jt rA;rw[bX]<;>rfl) (Dq _) J<|cl J (Pk (n:=n) (l:=jt c) (i:=j) (j:=3500) (Qy hc) (RU hne) (by omega) (by decide) (Xq c (by omega))) J<|rz J (by rw[X' hne hbk hk2]<;>rfl)
def XK{c:ar}[hn:aE n j](hc:eE c)(hj:j<=10000)(hk:c.length<=20000)(h:iq c n=some m):PF GB prog 130 [eC c,eZ n] (.tp [eF m, .v (.bool true)]):=by
 have:=SL (GB:=GB) (n:=n) hc hj hk;rw[h] at this;exact this
def X8{c:ar}[hn:aE n j](hc:eE c)(hj:j<=10000)(hk:c.length<=20000)(h:iq c n=none):PF GB prog 130 [eC c,eZ n] (.tp [.ag [vI 0,vI 0, .v (.pointer none)], .v (.bool false)]):=by
 have:=SL (GB:=GB) (n:=n) hc hj hk;rw[h] at this;exact this
def ayW(h:l[k]? =some q):(((l.take k).map aO).map eZ)++[eZ (aO q)]=((l.take (k+1)).map aO).map eZ:=by
 rw[dR,h,bX,bX];rfl
def U1(hb: ∀q∈l,aE q j)(hj:j<=20000)(hk:l.length<=100000):PF GB prog 99 [.sl (l.map eZ)] (.sl ((l.map aO).map eZ)):=by
 have hml:(l.map eZ).length=l.length:=aX ..;refine fn (fu:=⟨15⟩) func99 J J ntmps99 J J (fun C=>?_);refine aj 7 (.d (vI (l.length:Nat))) J (by rw[hml]<;>rfl)<|gx J<|nr 3 3 160 6 J J J<|lp (X:=Nat) (fun k=>[(8, .d (vI (k:Nat))),(3, .rw 3)]) (fun k=>[(3,some (.b 160 6 (((l.take k).map aO).map eZ) true))]) (fun k=>k<=l.length) (fun k=>l.length-k) 0 J (bV _) (fun _=>J) (fun k hk=>?_);have hm3:(((l.take k).map aO).map eZ).length<=k:=by rw[aX,aX,bR];omega
 refine br J J J (fun hc9=>?_) (fun hc9=>?_)
 .
  obtain⟨q,hx⟩: ∃u,l[k]? =some u:=⟨_,aZ (by omega)⟩;haveI:=hb q (aV hx);refine ix _ J (cD hx) J<|cl J (TY (p:=q) (i:=j) (by omega)) J<|rf J J<|ap ((((l.take (k+1)).map aO)).map eZ) J (ayW hx) (Dq [_]) J<|fw 16 3 J<|at_ (k+1) ⟨(by omega),(by omega)⟩
 .
  obtain rfl:k=l.length:=by omega
  rw[dQ];refine iu 3 J<|rz J J
def EW{P:Nat->Prop}(h: ∀i<k,P i)(hk:P k): ∀i<k+1,P i:=fun i hi=>by
 rcases Nat.lt_succ_iff_lt_or_eq.1 hi with h1|h1
 .exact h i h1
 .rw[h1];exact hk
def aC7{v:List aa}(hb: ∀u∈v,aE u i)(hi:i<=80000)(hn:v.length<=100000):PF GB prog 121 [.sl (v.map eZ)] (vB (lC v)):=by
 have hrl:(nD v).length=v.length:=by unfold nD;rw[aX,lW]
 have hml:(v.map eZ).length=v.length:=aX ..;refine Jh func121 J J ntmps121 J J (fun C h0=>?_);refine JH J J J IA (fun _=>J) (fun GB1 pv hg1 hpv=>?_);refine xW 1 2000001 h0.fx J<|xW 2 2000002 h0.fx J ?_;refine JQ (σ:=Unit) (fun _=>[(2000001,some (.o 123 [.d (.sl (v.map eZ))] true)),(2000002,some (.o 4 [.ff] true))]) (fun k=> ∀k'<k,∀i<v.length,tG v k' i=true) (fun _=>[(2000001,some (.o 123 [.d (.sl (v.map eZ))] true)),(2000002,some (.o 4 [.ff] true))]) (fun _=>lC v=false) [(1, .ov 2000001 0),(2, .ov 2000002 0)] h0 J (Kg) (.cons hpv .nil) ⟨J,J,trivial⟩ J ⟨J,J,trivial⟩ (fun k hk=>absurd hk (tZ k)) Hg J J (fun k e GB' hE hg hp=>?_) (fun D hD hx hp=>?_) (fun D s hD hx hq=>?_)
 .obtain⟨q1,q2,hpx,hqx,rfl⟩:=HP hE
  haveI:=hb q1 (aV hpx);haveI:=hb q2 (aV hqx);have hkn:=(aS.1 hpx).1;refine⟨?_,?_,fun C2=>?_,fun C2=>?_⟩
  rotate_left 2
  .refine gx J<|Hu J J J ⟨J,J,J⟩ J ?_
   exact atR
  .skip
   refine gx (fu:=⟨5⟩) J<|aj 12 (.d (vI (v.length:Nat))) J (by rw[hml]<;>rfl)<|gx J<|lp (X:=Nat) (fun j=>[(13, .d (vI (j:Nat)))]) (fun j=>[]) (fun j=>j<=v.length/\ ∀i<j,tG v k i=true) (fun j=>v.length-j) 0 J ⟨bV _,fun i hi=>absurd hi (tZ i)⟩ (fun _=>J) (fun j hk=>?_);obtain⟨hk1,hk2⟩:=hk;refine br J J J (fun hc14=>?_) (fun hc14=>?_)
   .
    obtain⟨w,hx⟩: ∃u,v[j]? =some u:=⟨_,aZ (by omega)⟩;haveI:=hb w (aV hx);have hcv:=Zz hpx hqx hx;refine ix _ J (cD hx) J<|cs (fu1:=⟨5⟩) 21 J J J (fun hg21=>?_) (fun hg21=>?_)
    .
     refine aj 26 (.d (vI (v.length:Nat))) J (by rw[hml]<;>rfl)<|gx (fu:=⟨1⟩) J<|aj 27 (.d (vI (((k+1)%v.length:Nat):Int))) J J<|gx J<|cs 30 J J J (fun hg30=>?_) (fun hg30=>?_)
     .
      refine ow 0 (e:=160) (len:=2) (s:=6) J (by kernel_rfl) (by kernel_rfl) (by decide) J<|ow 1 (e:=160) (len:=2) (s:=6) J (by kernel_rfl) (by kernel_rfl) (by decide) J<|cl J (azA (a:=q1) (b:=q2) (c:=w) (i:=i) (j:=i) (k:=i) (by omega) (by omega) (by omega)) J<|br J J J (fun hc38=>?_) (fun hc38=>?_)
      .
       exact rqX () (aHP hkn (aS.1 hx).1 (by rw[hcv,decide_eq_false (by omega),decide_eq_false (by omega),decide_eq_false (fun q=>by have:=Dm.2 q;omega)]<;>rfl))
      .
       exact at_ (j+1) ⟨⟨by omega,EW hk2 (by rw[hcv,decide_eq_true (Dm.1 (by omega)),sW,sW])⟩,(by omega)⟩
     .
      exact at_ (j+1) ⟨⟨by omega,EW hk2 (by rw[hcv,decide_eq_true (show j=(k+1)%v.length by omega),Bool.true_or,sW])⟩,(by omega)⟩
    .
     exact at_ (j+1) ⟨⟨by omega,EW hk2 (by rw[hcv,decide_eq_true (show j=k by omega),Bool.true_or])⟩,(by omega)⟩
   .
    obtain rfl:j=v.length:=by omega
    exact rq (EW hp hk2) ⟨J,J,trivial⟩
 .refine gx J<|?_
  rw[hrl] at hp;exact FK hD hx J (by rw[L1.2 hp]<;>rfl)
 .refine gx J<|?_
  exact FK hD hx J (by rw[hq]<;>rfl)
section
variable {ai al ae:Addr}(hE:EG GB ai al ae)
include hE
section
variable {t:Tr}(h:t.gd)(hs:t.size<=65536)(hd:t.depth<=1000)
include h hs hd
end
end
structure RL.wd (r:RL):Prop where
 a:bA r.da
 b:bA r.db
 c:bA r.dc

def azh{l:ah}(h:L[j]? =some l):ig (L.drop j)= .node l (ig (L.drop (j+1))) (.leaf false):=by
 obtain⟨h1,h2⟩:=aS.1 h;rw[bJ h1,h2];rfl
def ayS{c:ar}(h:c[j]? =some s):(c.map (·.l))[j]? =some s.l:=by rw[cV,h];rfl
def axp{c:ar}(hn:c.length<=100000):PF GB prog 94 [.sl (c.map de)] (eU (ig (c.map (·.l)))):=by
 have hml:(c.map de).length=c.length:=aX ..;refine fn func94 J J ntmps94 J J (fun C=>?_);refine cl (fu:=⟨8⟩) J (sE (b:=true)) J<|aj 7 (.d (vI (c.length:Nat))) J (by rw[hml]<;>rfl)<|gx J<|aj 3 (.d (eU (ig ((c.map (·.l)).drop c.length)))) J (by rw[jU (by simp)]<;>rfl)<|lp (X:=Nat) (fun k=>[(4, .d (vI ((k:Int)-1))),(3, .d (eU (ig ((c.map (·.l)).drop k))))]) (fun k=>[]) (fun k=>k<=c.length) (fun k=>k) c.length J (bW _) (fun _=>J) (fun k hk=>?_);refine br (fu1:=⟨7⟩) J J J (fun hc10=>?_) (fun hc10=>?_)
 .
  obtain⟨j,rfl⟩: ∃j,k=j+1:=⟨k-1,by omega⟩;obtain⟨s,hx⟩: ∃u,c[j]? =some u:=⟨_,aZ (by omega)⟩;refine aj 14 (.d (vI (j:Nat))) J (by congr 3;omega)<|gx J<|ix _ J (cD hx) J<|cl J (sE (b:=false)) J<|cl (hv:=by simp only[ak];exact⟨by kernel_rfl,by omega⟩) J (yc (l:=s.l)) J<|aj 4 (.d (vI ((j:Int)-1))) J (by congr 3;omega)<|aj 3 (.d (eU (ig ((c.map (·.l)).drop j)))) J (by rw[azh (ayS hx)]<;>rfl)<|at_ j ⟨(by omega),(by omega)⟩
 .
  obtain rfl:k=0:=by omega
  exact rz J J

end Go.Sx
end
