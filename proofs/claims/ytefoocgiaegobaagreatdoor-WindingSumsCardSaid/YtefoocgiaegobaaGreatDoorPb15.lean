import Derived.Test.YtefoocgiaegobaaGreatDoorPb14
import Derived.Shelf.SlSortCmp.NoneTotal
import Derived.Test.YtefoocgiaegobaaGreatDoorProg
set_option linter.all false
set_option maxHeartbeats 2000000
set_option maxRecDepth 100000
section
namespace Go.Sx
open Go Go.Proofs Tryz
variable {GB:Gh}
def Rw{a i:Nat}[h:BN a i](hi:i<=1000000000:=by decide):PF GB prog 348 [dN a] (.v (.bool true)):=
 (J1 (ds:=dg a) (dm _).2.1 (by have:=jb (a:=a) hi;omega)).to (by unfold vB;rw[decide_eq_true (dm a).2.2])
def Hi{q:Rat}{i:Nat}[hq:BQ q i](hi:i<=1000000:=by decide):PF GB prog 284 [eR q] (.v (.bool true)):=by
 have hd:=q.den_pos;have hdl:0<(dg q.den).length:=fS fun e=>by have:=sH.1 e;omega
 have hml:((dg q.den).map dU).length=(dg q.den).length:=aX ..;have hco:Nat.gcd q.num.natAbs q.den=1:=q.reduced;refine fn func284 J J ntmps284 J J (fun C=>?_);refine cl (fu:=⟨0⟩) J (Kj (m:=q.num) (i:=i) (h:=⟨hq.hn⟩) (by omega)) J<|?_;refine kE 5 J ?_;refine gx J<|cl (fu:=⟨0⟩) J (Rw (a:=q.den) (i:=i) (h:=⟨hq.hd⟩) (by omega)) J<|?_;refine kE 10 J ?_;refine gx (fu:=⟨6⟩) J<|ky J (by show some (decide _)=some false;rw[decide_eq_false (by omega)]) J<|cl (fu:=⟨0⟩) J (Ct (a:=q.num.natAbs) (b:=q.den) (i:=i) (j:=i) (h:=⟨hq.hn⟩) (k:=⟨hq.hd⟩) (by omega) (by omega)) J<|?_;refine ak 24 (.d (dN 1)) J (by rw[hco]) ?_;refine gx J<|cl J (pm (a:=1) (i:=1) (h:=⟨by decide⟩)) J<|?_;exact rz J J
def KR{p:aa}{i:Nat}[hp:aA p i](hi:i<=1000000:=by decide):PF GB prog 189 [gm p] (.v (.bool true)):=by
 refine fn func189 J J ntmps189 J J (fun C=>?_);refine cl (fu:=⟨0⟩) J (Hi (q:=p.x) (i:=i) (by omega)) J<|?_;refine kE 5 J ?_;refine gx J<|cl J (Hi (q:=p.y) (i:=i) (by omega)) J<|?_;exact rz J J
def Ie{m n:Int}(hm:m.natAbs<=1000000)(hn:n.natAbs<=1000000):PF GB prog 111 [vI m,vI n] (gm (iP m n)):=by
 haveI:=fm hm;haveI:=fm hn;haveI:aA (iP m n) 22:=⟨fm hm,fm hn⟩;refine fn func111 J J ntmps111 J J (fun C=>?_);refine cl J (s9 (m:=m) (by omega)) J<|cl J (s9 (m:=n) (by omega)) J<|cl J (DX (p:=iP m n) (i:=22)) J<|?_;exact rz J J
def i6(l:List aa)(p:aa):Int:=match l.findIdx? (fun q=>decide (q.x=p.x/\q.y=p.y)) with
 |some i=>(i:Nat)
 |none=> -1
def wQ{l:List aa}{p q:aa}{k:Nat}(hx:l[k]? =some q)(h:(l.take k).all (fun q=>!decide (q.x=p.x/\q.y=p.y))=true)(hq:q.x=p.x/\q.y=p.y):i6 l p=(k:Nat):=by
 have hk:=(bQ.1 hx).1;have e:l.findIdx? (fun q=>decide (q.x=p.x/\q.y=p.y))=some k:=by
  rw[List.findIdx?_eq_some_iff_getElem];refine⟨hk,?_,fun j hj=>?_⟩
  ·rw[(bQ.1 hx).2];exact decide_eq_true hq
  ·have:=dR.1 h l[j] (by rw[List.mem_take_iff_getElem];exact⟨j,by omega,J⟩)
   simp at this⊢;intro a b;rcases this with k|k
   ·exact k a
   ·exact k b
 unfold i6;rw[e]
def R3{l:List aa}{p:aa}(h:l.all (fun q=>!decide (q.x=p.x/\q.y=p.y))=true):i6 l p= -1:=by
 have e:l.findIdx? (fun q=>decide (q.x=p.x/\q.y=p.y))=none:=by
  rw[List.findIdx?_eq_none_iff];intro x hx;have:=dR.1 h x hx;simp at this⊢;intro a b;rcases this with k|k
  ·exact k a
  ·exact k b
 unfold i6;rw[e]
def N8{l:List aa}{k:Nat}{q:aa}{g:aa->Bool}(hx:l[k]? =some q)(h:(l.take k).all g=true)(hq:g q=true):(l.take (k+1)).all g=true:=by
 rw[cM,hx,List.all_append,h];simp[hq]
def RW{l:List aa}{p:aa}{i:Nat}[hp:aA p i](hl: ∀q∈l,aA q i)(hn:l.length<=100000)(hi:i<=1000000:=by decide):PF GB prog 191 [.sl (l.map eZ),eZ p] (vI (i6 l p)):=by
 have hml:(l.map eZ).length=l.length:=aX ..;refine fn (fu:=⟨11⟩) func191 J J ntmps191 J J (fun C=>?_);refine ak 8 (.d (vI (l.length:Nat))) J (by rw[hml]<;>rfl) ?_;refine gx J<|?_;refine lp (X:=Nat) (fun k=>[(9, .d (vI (k:Nat)))]) (fun k=>[]) (fun k=>k<=l.length/\(l.take k).all (fun q=>!decide (q.x=p.x/\q.y=p.y))=true) (fun k=>l.length-k) 0 J ⟨bL _,J⟩ (fun _=>J) (fun k hk=>?_);obtain⟨hk,hall⟩:=hk;refine br J J J (fun hc10=>?_) (fun hc10=>?_)
 .
  obtain⟨q,hx⟩: ∃u,l[k]? =some u:=⟨_,aZ (by omega)⟩;haveI:=hl q (aS hx);refine ix _ J (d9 hx) J<|cl J (FC (p:=q) (q:=p) (i:=i) hi) J<|?_;refine bd J J J (fun hc16=>?_) (fun hc16=>?_)
  .
   exact rz J (by rw[wQ hx hall hc16];rfl)
  .
   exact at_ (k+1) ⟨⟨by omega,N8 hx hall (by rw[decide_eq_false hc16];rfl)⟩,(by omega)⟩
 .
  obtain rfl:k=l.length:=by omega
  rw[dX] at hall;exact rz J (by rw[R3 hall];rfl)
def cB(l:List aa):Nat->Nat
 |0=>0
 |k+1=>cB l k+if i6 l (l.getD k ⟨0,0⟩)=(k:Nat) then 1 else 0
def gD(l:List aa)(k:Nat):Nat:=if 3<=cB l k then 3 else cB l k
def Th{l:List aa}{k:Nat}(h:gD l k<3)(e:cB l (k+1)=cB l k+1):((gD l k:Nat):Int)+1=((gD l (k+1):Nat):Int):=by
 have a:gD l k=if 3<=cB l k then 3 else cB l k:=J
 have b:gD l (k+1)=if 3<=cB l (k+1) then 3 else cB l (k+1):=J
 split at a<;>split at b<;>omega
def IZ{l:List aa}{k:Nat}(h: ¬gD l k<3\/cB l (k+1)=cB l k)(m:cB l k<=cB l (k+1)):((gD l k:Nat):Int)=((gD l (k+1):Nat):Int):=by
 have a:gD l k=if 3<=cB l k then 3 else cB l k:=J
 have b:gD l (k+1)=if 3<=cB l (k+1) then 3 else cB l (k+1):=J
 split at a<;>split at b<;>omega
def LR(l:List aa)(k:Nat):gD l k<=3:=by unfold gD;split<;>omega
def QB{l:List aa}{k:Nat}(h:3<=cB l k):gD l k=3:=by unfold gD;rw[if_pos h]
def wz{l:List aa}{k:Nat}{p:aa}(hx:l[k]? =some p)(h:i6 l p=(k:Nat)):cB l (k+1)=cB l k+1:=by
 rw[cB,aJ,hx,gV,if_pos h]
def LM{l:List aa}{k:Nat}{p:aa}(hx:l[k]? =some p)(h: ¬i6 l p=(k:Nat)):cB l (k+1)=cB l k:=by
 rw[cB,aJ,hx,gV,if_neg h];rfl
def Im{l:List aa}{k:Nat}:cB l k<=cB l (k+1):=by rw[cB];split<;>omega
def T7{v:List aa}{k:Nat}{p:aa}(h:v[k]? =some p):((v.take k).map eZ)++[eZ p]=(v.take (k+1)).map eZ:=by
 rw[cM,h,cX];rfl
def Ms{r:List ZP}(h:dB r){k:Nat}(hk:k<r.length):decide ((r.getD k (0,0)).q.x=(d4 r k).q.x/\(r.getD k (0,0)).q.y=(d4 r k).q.y)=false:=decide_eq_false fun e=>h.ne k hk (tF (by
 obtain⟨e1,e2⟩:=e;generalize (r.getD k (0,0)).q=a at*;generalize (d4 r k).q=b at*
 cases a;cases b
 simp only[aa.mk.injEq];exact⟨e1,e2⟩))
def In{r:List ZP}(h:dB r)(h3:3<=cB (r.map ZP.q) (r.map ZP.q).length):PF GB prog 102 [fG r] (.tp [.sl ((r.map ZP.q).map eZ), .v .nilIface]):=by
 have hn:=h.n6;obtain⟨v,hv⟩: ∃v,v=r.map ZP.q:=⟨_,rfl⟩;have hvl:v.length=r.length:=by rw[hv,aX]
 have hb: ∀p∈v,aA p 22:=fun p hp=>by rw[hv] at hp;obtain⟨z,hz,rfl⟩:=bT.1 hp;exact o6 (h.le z hz)
 unfold fG;rw[<-hv] at h3⊢;have hm1:(v.map gm).length=v.length:=aX ..;have hm2:(v.map eZ).length=v.length:=aX ..;have hrl:(kw v).length=v.length:=by unfold kw;rw[aX,pJ]
 refine Gr (fu:=⟨11⟩) func102 J J ntmps102 J J (fun C h0=>?_);refine ak 13 (.d (vI (v.length:Nat))) J (by rw[hm1]<;>rfl) ?_;refine gx (fu:=⟨0⟩) J<|ky (fu:=⟨15⟩) J (by show some (decide _)=some false;rw[decide_eq_false (by omega)]) J<|?_;refine ak 20 (.d (vI (v.length:Nat))) J (by rw[hm1]<;>rfl) ?_;refine gx J<|?_;refine nr 4 4 141 6 J J J ?_;refine lp (X:=Nat) (fun k=>[(21, .d (vI (k:Nat))),(4, .rw 4)]) (fun k=>[(4,some (.b 141 6 ((v.take k).map eZ) true))]) (fun k=>k<=v.length) (fun k=>v.length-k) 0 J (bL _) (fun _=>J) (fun k hk=>?_);have hm3:((v.take k).map eZ).length<=k:=by rw[aX,bW];omega
 refine br (fu2:=⟨0⟩) J J J (fun hc22=>?_) (fun hc22=>?_)
 .
  obtain⟨p,hx⟩: ∃u,v[k]? =some u:=⟨_,aZ (by omega)⟩;haveI:=hb p (aS hx);refine ix _ J (d9 hx) J<|cl (fu:=⟨0⟩) J (KR (p:=p) (i:=22)) J<|?_;refine kE 27 J ?_;refine gx J<|cl J (ul (p:=p) (i:=22)) J<|rf J J<|ap ((v.take (k+1)).map eZ) J (T7 hx) (oG [p]) J<|?_;refine iI 41 4 J ?_;exact at_ (k+1) ⟨(by omega),(by omega)⟩
 .
  obtain rfl:k=v.length:=by omega
  rw[dX];refine Cg 4 J ?_;refine gx (fu:=⟨15⟩) J<|?_;refine ak 44 (.d (vI (v.length:Nat))) J (by rw[hm2]<;>rfl) ?_;refine gx J<|?_;refine lp (X:=Nat) (fun k=>[(45, .d (vI (k:Nat))),(7, .d (vI ((gD v k):Nat)))]) (fun k=>[]) (fun k=>k<=v.length) (fun k=>v.length-k) 0 J (bL _) (fun _=>J) (fun k hk=>?_);have hdm:=LR v k;refine br (fu2:=⟨9⟩) J J J (fun hc46=>?_) (fun hc46=>?_)
  .
   obtain⟨p,hx⟩: ∃u,v[k]? =some u:=⟨_,aZ (by omega)⟩;haveI:=hb p (aS hx);have hcm:=Im (l:=v) (k:=k);refine ix _ J (d9 hx) J<|?_;refine cs 52 J J J (fun hg52=>?_) (fun hg52=>?_)
   .
    refine cl J (RW (l:=v) (p:=p) (i:=22) hb (by omega)) J<|?_;refine br J J J (fun hc58=>?_) (fun hc58=>?_)
    .
     have he7:=Th (by omega) (wz hx (by omega));refine ak 7 (.d (vI (gD v (k+1):Nat))) J (by rw[he7]<;>rfl) ?_;exact at_ (k+1) ⟨(by omega),(by omega)⟩
    .
     have he7:=IZ (.inr (LM hx (by omega))) hcm;refine ak 7 (.d (vI (gD v (k+1):Nat))) J (by rw[he7]<;>rfl) ?_;exact at_ (k+1) ⟨(by omega),(by omega)⟩
   .
    have he7:=IZ (l:=v) (k:=k) (.inl (by omega)) hcm;refine ak 7 (.d (vI (gD v (k+1):Nat))) J (by rw[he7]<;>rfl) ?_;exact at_ (k+1) ⟨(by omega),(by omega)⟩
  .
   obtain rfl:k=v.length:=by omega
   have hd3:=QB h3;refine ky (fu:=⟨9⟩) J (by show some (decide _)=some false;rw[decide_eq_false (by omega)]) J<|?_;refine Ed J J J I5 (fun _=>J) (fun GB1 pv hg1 hpv=>?_);refine AK 2 2000002 h0.fx J<|AK 3 2000003 h0.fx J ?_;refine EP (σ:=Empty) (fun _=>[(2000002,some (.o 132 [.nl] true)),(2000003,some (.o 34 [.d (.v .nilIface)] true))]) (fun _=>True) (fun _=>[]) (fun _=>False) [(2, .ov 2000002 0),(3, .ov 2000003 0),(4, .d (.sl (v.map eZ)))] h0 J (Fw (by omega)) (.cons hpv .nil) ⟨J,J,J,trivial⟩ J ⟨J,J,trivial⟩ trivial JO J J (fun k e GB' hE hg hp=>?_) (fun D hD hx hp=>?_) (fun D s hD hx hq=>hq.elim)
   ·obtain⟨p,q,hpx,hqx,rfl⟩:=Ey hE
    rw[hvl] at hqx;rw[hv] at hpx hqx;obtain⟨hk,rfl⟩:=v7 hpx;obtain⟨hk2,rfl⟩:=v7 hqx;haveI:=o6 (h.le _ (ug hk));haveI:=o6 (h.le _ (uO hk));have hne:=Ms h hk;refine⟨?_,?_,fun C2=>?_,fun C2=>?_⟩
    rotate_left 2
    ·refine gx J<|H2 J J J ⟨J,J,J⟩ J ?_
     exact atR
    ·refine gx J<|uZ 0 (e:=141) (len:=2) (s:=6) J (by kernel_rfl) (by kernel_rfl) (by decide) J<|uZ 1 (e:=141) (len:=2) (s:=6) J (by kernel_rfl) (by kernel_rfl) (by decide) J<|?_
     refine cl J (FC (p:=(r.getD k (0,0)).q) (q:=(d4 r k).q) (i:=22)) J<|?_;refine bd J J J (fun hc=>absurd (decide_eq_true hc) (by rw[hne];decide)) (fun hc=>?_);exact rq trivial ⟨J,J,trivial⟩
   ·refine gx J<|?_
    exact F6 hD hx J J
structure eH (r:List ZP):Prop where
 ok:dB r
 c3:3<=cB (r.map ZP.q) (r.map ZP.q).length
def n4(r:List ZP):DV:= .sl ((r.map ZP.q).map eZ)
def KZ(l:List (List ZP)):du 1 (l.map n4):=fun d hd=>by
 obtain⟨x,_,rfl⟩:=bT.1 hd;exact⟨J,J⟩
def Ll{L:List (List ZP)}{k:Nat}{l:List ZP}(h:L[k]? =some l):((L.take k).map n4)++[n4 l]=(L.take (k+1)).map n4:=by
 rw[cM,h,cX];rfl
def LJ{L:List (List ZP)}{k:Nat}{l:List ZP}(h:L[k]? =some l):((c6 (L.take k)).map bP)++((il l).map bP)=(c6 (L.take (k+1))).map bP:=by
 rw[KJ h,cX]
def LC{rs:List (List ZP)}(h: ∀r∈rs,eH r)(hn:rs.length<=200):PF GB prog 73 [.sl (rs.map fG)] (.tp [.sl (rs.map n4), .v .nilIface]):=by
 have hml:(rs.map fG).length=rs.length:=aX ..;refine fn (fu:=⟨11⟩) func73 J J ntmps73 J J (fun C=>?_);refine ak 10 (.d (vI (rs.length:Nat))) J (by rw[hml]<;>rfl) ?_;refine gx (fu:=⟨0⟩) J<|ky (fu:=⟨15⟩) J (by show some (decide _)=some false;rw[decide_eq_false (by omega)]) J<|?_;refine ak 17 (.d (vI (rs.length:Nat))) J (by rw[hml]<;>rfl) ?_;refine gx J<|?_;refine nr 4 4 132 1 J J J ?_;refine lp (X:=Nat) (fun k=>[(18, .d (vI (k:Nat))),(4, .rw 4)]) (fun k=>[(4,some (.b 132 1 ((rs.take k).map n4) true))]) (fun k=>k<=rs.length) (fun k=>rs.length-k) 0 J (bL _) (fun _=>J) (fun k hk=>?_);have hm3:((rs.take k).map n4).length<=k:=by rw[aX,bW];omega
 refine br J J J (fun hc19=>?_) (fun hc19=>?_)
 .
  obtain⟨r,hx⟩: ∃u,rs[k]? =some u:=⟨_,aZ (by omega)⟩;have hr:=h r (aS hx);refine ix _ J (d9 hx) J<|cl (fu:=⟨11⟩) J (In hr.ok hr.c3) J<|ky J J J<|rf J J<|ap ((rs.take (k+1)).map n4) J (Ll hx) (KZ [r]) J<|?_;refine iI 33 4 J ?_;exact at_ (k+1) ⟨(by omega),(by omega)⟩
 .
  obtain rfl:k=rs.length:=by omega
  rw[dX];refine ki 4 J ?_;exact rz J J
def AJ{rs:List (List ZP)}(h: ∀r∈rs,eH r)(hn:rs.length<=200):PF GB prog 107 [.sl (rs.map fG)] (.tp [.sl ((c6 rs).map bP), .v .nilIface]):=by
 have hml:(rs.map n4).length=rs.length:=aX ..;refine fn func107 J J ntmps107 J J (fun C=>?_);refine cl (fu:=⟨11⟩) J (LC h hn) J<|ky (fu:=⟨15⟩) J J J<|?_;refine ak 18 (.d (vI (rs.length:Nat))) J (by rw[hml]<;>rfl) ?_;refine gx J<|?_;refine nr 6 6 222 17 J J J ?_;refine lp (X:=Nat) (fun k=>[(19, .d (vI (k:Nat))),(6, .rw 6)]) (fun k=>[(6,some (.b 222 17 ((c6 (rs.take k)).map bP) true))]) (fun k=>k<=rs.length) (fun k=>rs.length-k) 0 J (bL _) (fun _=>J) (fun k hk=>?_);have hm5:=Gq (fun r hr=>(h r hr).ok) k;have hm3:((c6 (rs.take k)).map bP).length<=6*k:=by rw[aX];exact Gq (fun r hr=>(h r hr).ok) k
 refine br J J J (fun hc20=>?_) (fun hc20=>?_)
 .
  obtain⟨r,hx⟩: ∃u,rs[k]? =some u:=⟨_,aZ (by omega)⟩;have hr:=h r (aS hx);have hel:=(rp hr.ok).1;have hn6:=hr.ok.n6;have hm4:((il r).map bP).length=(il r).length:=aX ..;refine ix _ J (d9 hx) J<|cl J (Qx hr.ok) J<|ap ((c6 (rs.take (k+1))).map bP) J (LJ hx) (J0 (il r)) J<|?_;refine iI 26 6 J ?_;exact at_ (k+1) ⟨(by omega),(by omega)⟩
 .
  obtain rfl:k=rs.length:=by omega
  rw[dX];refine ki 6 J ?_;exact rz J J
def Bc{rs:List (List ZP)}(h: ∀r∈rs,eH r)(hn:rs.length<=200):(c6 rs).length<=1200:=by
 have:=(Bg fun r hr=>(h r hr).ok).1;omega
def kI(rs:List (List ZP))(p:aa):Bool:=(c6 rs).any fun f=>gv f p
def KW{fill n:Int}:PF GB prog 59 [vI fill,vI n] (vB (mz fill n)):=by
 refine fn func59 J J ntmps59 J J (fun C=>?_);refine br J J J (fun hc6=>?_) (fun hc6=>?_)
 .
  exact rz J (by show DV.v (.bool _)= .v (.bool _);unfold mz;simp_all)
 .
  refine br J J J (fun hc11=>?_) (fun hc11=>?_)
  .
   exact rz J (by show DV.v (.bool _)= .v (.bool _);unfold mz;simp_all)
  .
   exact rz J (by show DV.v (.bool _)= .v (.bool _);unfold mz;simp_all)
def xo{rs:List (List ZP)}(h: ∀r∈rs,eH r)(hn:rs.length<=200){p:aa}{i:Nat}[hp:aA p i](hno:kI rs p=false)(hi:i<=100000:=by decide):PF GB prog 50 [.sl (rs.map fG),gm p] (.tp [vI (ef (c6 rs) p), .v .nilIface]):=by
 have hel:=Bc h hn;have hfe:=A8 fun r hr=>(h r hr).ok;refine fn func50 J J ntmps50 J J (fun C=>?_);refine cl J (AJ h hn) J<|cl (fu:=⟨9⟩) J (ul (p:=p) (i:=i) (by omega)) J<|ky J J J<|cl (fu:=⟨0⟩) J (H' (E:=c6 rs) hfe (by omega) (p:=p) (i:=i) hi) J<|?_;refine ak 23 (.d (vB false)) J (by rw[show(c6 rs).any (fun f=>gv f p)=false from hno]) ?_;refine sL 23 J ?_;refine gx J<|cl J (F8 (E:=c6 rs) hfe (by omega) (p:=p) (i:=i) hi) J<|?_;exact rz J J
def Fx{u v:aa}{i j:Nat}[hp:aA u i][hq:aA v j](hi:i<=10000000:=by decide)(hj:j<=10000000:=by decide):PF GB prog 318 [eZ u,eZ v] (vB (decide (ce u v=0))):=by
 refine fn func318 J J ntmps318 J J (fun C=>?_);refine cl J (C8 (u:=u) (v:=v) hi hj) J<|?_;exact rz J J
def iC(x:aa):List aa->List aa
 |[]=>[]
 |y::l=>if ce y x=0 then iC y l else y::iC y l
def px:List aa->List aa
 |[]=>[]
 |x::l=>x::iC x l
def xm{l:List aa}{k:Nat}{x y:aa}(h:l[k]? =some y):iC x (l.drop k)=if ce y x=0 then iC y (l.drop (k+1)) else y::iC y (l.drop (k+1)):=by
 obtain⟨h1,h2⟩:=bQ.1 h;rw[bM h1,h2,iC]
def Sm{l:List aa}{k:Nat}{y:aa}(h:l[k]? =some y):l.take (k+1)=l.take k++[y]:=by
 rw[cM,h];rfl
def vZ:DV:= .ag [vI 0,vI 0, .v (.pointer none),vI 0,vI 0, .v (.pointer none)]
def SI(l:List aa)(k:Nat)(y:aa):(l.map eZ).set k (eZ y)=(l.set k y).map eZ:=(oM ..).symm
def NO{l:List aa}(h:l.length<2):px l=l:=by
 cases l with
 |nil=>rfl
 |cons x l=>cases l with
  |nil=>rfl
  |cons y l=>simp at h;omega
def L3{l:List aa}{x:aa}(h:l[0]? =some x):px l=l.take 1++iC x (l.drop 1):=by
 cases l with
 |nil=>cases h
 |cons y l=>cases h;rfl
def F0{r l:List aa}{a b:Nat}(h:a<=b)(e:r.drop a=l.drop a):r[b]? =l[b]? :=by
 have:=congrArg (·[b-a]?) e;simpa[iR,show a+(b-a)=b by omega] using this
def SK{r l:List aa}{a b:Nat}(h:a<=b)(e:r.drop a=l.drop a):r.drop b=l.drop b:=by
 have:=congrArg (List.drop (b-a)) e;simpa[qU,show a+(b-a)=b by omega] using this
def Ln{r:List aa}{i:Nat}{u:aa}(h:i<r.length):(r.set i u).take (i+1)=r.take i++[u]:=by
 rw[cM,oN h,List.take_set_of_le (aR _)];rfl
def L0{r:List aa}{i:Nat}(h:i<r.length):(r.map eZ)[(i:Int).toNat]? =some (eZ r[i]):=by simp[h]
def PQ{l:List aa}{i0:Nat}(hb: ∀d∈l,aA d i0)(hn:l.length<=10000000)(hi:i0<=10000000):PB GB prog 317 (jo [none,some (.v (.func (.func 318) #[] #[]))]) 6 141 (l.map eZ) (fun w=> .v (.slice w.a w.n w.c)) ((px l).map eZ):=by
 have hml:(l.map eZ).length=l.length:=aX ..;refine zd (fu:=⟨10⟩) func317 J J ntmps317 J J (fun C=>?_);refine ak 9 (.d (vI (l.length:Nat))) J (by rw[hml]<;>rfl) ?_;refine gx J<|?_;refine br J J J (fun hc10=>?_) (fun hc10=>?_)
 .
  exact uE J J J (by rw[NO (by omega)])
 .
  obtain⟨x0,hx0⟩: ∃x,l[0]? =some x:=⟨_,aZ (by omega)⟩;refine lp (fu:=⟨6⟩) (X:=Nat×aa) (fun⟨k,x⟩=>[(5, .d (vI (k:Nat)))]) (fun⟨k,x⟩=>[]) (fun⟨k,x⟩=>1<=k/\k<=l.length/\l[k-1]? =some x/\px l=l.take k++iC x (l.drop k)) (fun⟨k,x⟩=>l.length-k) ⟨1,x0⟩ J ⟨aR _,by omega,hx0,by rw[L3 hx0]⟩ (fun _=>J) (fun⟨k,x⟩ hk=>?_)
  try dsimp only at hk⊢
  obtain⟨h1,h2,h3,h4⟩:=hk;refine ak 14 (.d (vI (l.length:Nat))) J (by rw[hml]<;>rfl) ?_;refine gx J<|?_;refine br J J J (fun hc15=>?_) (fun hc15=>?_)
  .
   obtain⟨y,hy⟩: ∃y,l[k]? =some y:=⟨_,aZ (by omega)⟩;haveI:=hb y (aS hy);haveI:=hb x (aS h3);refine lb (fu:=⟨3⟩) _ J (d9 hy) J<|?_;refine ak 25 (.d (vI ((k-1:Nat):Int))) J (by rw[Int.ofNat_sub h1]<;>rfl) ?_;refine gx J<|lb (fu:=⟨0⟩) _ J (d9 h3) J<|cl J (Fx (u:=y) (v:=x) hi hi) J<|?_;refine bd (fu1:=⟨4⟩) J J J (fun hc28=>?_) (fun hc28=>?_)
   .
    have hc28':=hc28;refine yc k (l.length-k) J J (by omega) (by omega) J<|?_;refine lp (fu:=⟨5⟩) (X:=Nat×Nat×aa×List aa) (fun⟨i,m,z,r⟩=>[(5, .d (vI (i:Nat))),(7, .d (vI (m:Nat)))]) (fun⟨i,m,z,r⟩=>[(1000000,some (.b 141 6 (r.map eZ) false))]) (fun⟨i,m,z,r⟩=>1<=m/\k+m<=l.length/\i+1<=k+m/\r.length=l.length/\r.drop (k+m-1)=l.drop (k+m-1)/\l[k+m-1]? =some z/\px l=r.take i++iC z (l.drop (k+m))) (fun⟨i,m,z,r⟩=>l.length-m) ⟨k,1,y,l⟩ J ⟨aR _,by omega,by omega,J,J,by rw[jY];exact hy,by rw[h4,xm hy,if_pos hc28']⟩ (fun _=>J) (fun⟨i,m,z,r⟩ hk=>?_)
    try dsimp only at hk⊢
    obtain⟨g1,g2,g3,g4,g5,g6,g7⟩:=hk;have hrl:(r.map eZ).length=r.length:=aX ..;refine Pb J J<|?_;refine br (fu1:=⟨9⟩) (fu2:=⟨9⟩) J J J (fun hc35=>?_) (fun hc35=>?_)
    .
     obtain⟨u,hu⟩: ∃u,l[k+m]? =some u:=⟨_,aZ (by omega)⟩;haveI:=hb u (aS hu);haveI:=hb z (aS g6);have g8:r[k+m]? =some u:=by rw[<-hu];exact F0 (by omega) g5
     have g10:r[k+m-1]? =some z:=by rw[<-g6];exact F0 (aR _) g5
     have g9:r.drop (k+m)=l.drop (k+m):=SK (by omega) g5;refine B6 (k+m) J (by omega) (by omega) (by omega) J<|lb (fu:=⟨3⟩) _ J (d9 g8) J<|B6 (k+m-1) J (by omega) (by omega) (by omega) J<|?_;refine lb (fu:=⟨0⟩) _ J (d9 g10) J<|cl J (Fx (u:=u) (v:=z) hi hi) J<|?_;refine bb (fu1:=⟨6⟩) J J J (fun hc49=>?_) (fun hc49=>?_)
     .
      have hc49': ¬ce u z=0:=by simpa using hc49
      refine B6 (k+m) J (by omega) (by omega) (by omega) J<|lb _ J (d9 g8) J<|sb _ ((r.set i u).map eZ) J (L0 (by omega)) J (by rw[<-SI]<;>rfl) J<|?_;exact at_ ⟨i+1,m+1,u,r.set i u⟩ (by dsimp only;exact⟨⟨by omega,by omega,by omega,by rw[aW];exact g4,by rw[show k+(m+1)-1=k+m by omega,nT (by omega)];exact g9,by rw[show k+(m+1)-1=k+m by omega];exact hu,by rw[g7,xm hu,if_neg hc49',Ln (by omega),fJ];rfl⟩,(by omega)⟩)
     .
      have hc49':ce u z=0:=by simpa using hc49
      exact at_ ⟨i,m+1,u,r⟩ (by dsimp only;exact⟨⟨by omega,by omega,by omega,g4,by rw[show k+(m+1)-1=k+m by omega];exact g9,by rw[show k+(m+1)-1=k+m by omega];exact hu,by rw[g7,xm hu,if_pos hc49'];rfl⟩,(by omega)⟩)
    .
     obtain hm:k+m=l.length:=by omega
     refine yc i (l.length-i) J J (by omega) (by omega) J<|ML (fu:=⟨6⟩) _ J (by rw[hrl];omega) (by omega) J J<|Su ((r.take i).map eZ) i J J (by rw[aT,bW,aK,hrl];omega) (by rw[fU (by rw[bW,hrl];omega),List.take_take,Nat.min_self,kU]) J<|?_;exact uE J J J (by rw[g7,hm,iN,iC,oZ])
   .
    have hc28':=hc28;exact at_ ⟨k+1,y⟩ (by dsimp only;exact⟨⟨by omega,by omega,hy,by rw[h4,xm hy,if_neg hc28',Sm hy,fJ];rfl⟩,(by omega)⟩)
  .
   exact uE J J J (by rw[h4,show k=l.length by omega,iN,iC,oZ,dX])
def IQ{v:Value}(h:Go.Sx.flat v=true):v.oneCell'=true:=by cases v<;>first|rfl|cases h
def Kd{α:Type}{k:Nat}: ∀(l:List (List α)) (t:Nat),(∀x∈l,x.length=k)->t<l.length*k->l.flatten[t]? =(l[t/k]?).bind (·[t%k]?)
 |[],t,_,h=>by simp at h
 |x::l,t,h,ht=>by
  have hx:=h x aQ;have hk:0<k:=by
   rcases dY k with e|e
   ·subst e;simp at ht
   ·exact e
  rw[jX];by_cases q:t<k
  ·rw[bS (by omega),gU q,dQ q];rfl
  ·rw[cV (by omega),hx,Kd l (t-k) (fun y hy=>h y (aV _ hy)) (by rw[bN,cK] at ht;omega)]
   have e1:t/k=(t-k)/k+1:=by rw[Nat.div_eq_sub_div hk (by omega)]
   have e2:t%k=(t-k)%k:=by rw[Nat.mod_eq_sub_mod (by omega)]
   rw[e1,e2];rfl
section
variable {α:Type} [Inhabited α]
def HY(enc:α->List Value)(k:Nat)(hk: ∀x,(enc x).length=k)(d:Array α):(Go.Sort.flatK enc k d).toList=(d.toList.map enc).flatten:=by
 apply kX;intro t;have hlen:(d.toList.map enc).flatten.length=d.size*k:=by
  have: ∀l:List α,(l.map enc).flatten.length=l.length*k:=fun l=>by
   induction l with
   |nil=>simp
   |cons x l ih=>rw[cZ,jX,aT,ih,hk,bN,cK];omega
  simpa using this d.toList
 by_cases ht:t<d.size*k
 ·have hk0:0<k:=by
   rcases dY k with e|e
   ·subst e;simp at ht
   ·exact e
  have hi:t/k<d.size:=pM (by rwa [bK]);rw[Kd (k:=k) _ _ (fun x hx=>by obtain⟨y,_,rfl⟩:=bT.1 hx;exact hk y) (by simpa using ht)];simp only[Go.Sort.flatK,lM,Array.toList_range,fR];rw[qX ht];have hj:t%k<(enc d[t/k]).length:=by rw[hk];exact cY _ hk0
  simp only[gM];rw[getElem!_pos d (t/k) hi,getElem!_pos (enc d[t/k]) (t%k) hj];simp[hi,hj]
 ·rw[dS (by simp[Go.Sort.flatK];omega),dS (by rw[hlen];omega)]
def GS(enc:α->List Value)(k:Nat)(w:World)(b m:Nat)(dk:Array α)(os:Array Obj){q:Nat}(hq:q<w.heap.size):
  (sortWorldK enc k w b 0 m dk os).heap[q]? =if q=b then(w.heap[q]?).map (Go.Sort.onCells (Go.Sort.putCells id 0 (Go.Sort.flatK enc k dk))) else w.heap[q]? :=by
 show((w.heap.modify b _)++os)[q]? =_;rw[gL (by simpa using hq),pK];by_cases e:b=q
 ·subst e;simp
 ·simp[e,Ne.symm e]
def NA{F:Array Value}{xs rest:List Value}(h:xs.length=F.size):Go.Sort.putCells id 0 F ⟨xs++rest⟩=⟨F.toList++rest⟩:=by
 apply Array.ext';apply kX;intro k;simp only[Go.Sort.putCells,Array.toList_mapIdx,List.getElem?_mapIdx];by_cases hk:k<F.size
 ·rw[bS (by omega),bS (by simpa using hk),aZ (by omega)]
  simp[hk]
 ·rw[cV (by omega),cV (by simp;omega),h]
  simp only[eJ]
  cases rest[k-F.size]? with
  |none=>rfl
  |some v=>simp[hk]
end
def kz{A:Type}(cf:A->A->Int)(ds:List A):List A:=ds.mergeSort fun x y=>!decide (cf y x<0)
def sX{A:Type}(cf:A->A->Int)(ds:List A):(kz cf ds).Perm ds:=List.mergeSort_perm ..
def Es{A:Type}{cf:A->A->Int}(hO:Go.Sort.SWO (Go.Proofs.ltOf cf))(ds:List A):(kz cf ds).Pairwise fun x y=> ¬cf y x<0:=by
 have:=List.pairwise_mergeSort (le:=fun x y=>!decide (cf y x<0)) (fun a b c h1 h2=>by
  have h1':Go.Proofs.ltOf cf b a=false:=by simpa[Go.Proofs.ltOf] using h1
  have h2':Go.Proofs.ltOf cf c b=false:=by simpa[Go.Proofs.ltOf] using h2
  have:=hO.ntrans c b a h2' h1';simpa[Go.Proofs.ltOf] using this) (fun a b=>by
  cases h1:Go.Proofs.ltOf cf b a with
  |false=>have: ¬cf b a<0:=(by simpa[Go.Proofs.ltOf] using h1);simp;omega
  |true=>
   cases h2:Go.Proofs.ltOf cf a b with
   |false=>have: ¬cf a b<0:=(by simpa[Go.Proofs.ltOf] using h2);simp;omega
   |true=>have:=hO.trans _ _ _ h1 h2;rw[hO.irrefl] at this;cases this) ds
 exact this.imp fun h=>by simpa using h
def T8{P:Program}{ρ:Go.Shelf.Ren}{GB:Gh}(L:SlLaysF0.n6 P ρ)(ha:jC P (ρ.f 6)){s:Nat}(hAg: ∀w,(isAgg (ρ.t 24)).run P w= .ok true w)(hZs: ∀w,(sizeOf (ρ.t 24)).run P w= .ok s w)
  {A:Type}(e:A->DV)(V:A->Prop)(hA: ∀x,∃l,e x= .ag l/\(DV.ag l).okc=true/\l.length=s)(cf:A->A->Int)(hO:Go.Sort.SWO (Go.Proofs.ltOf cf)){g:FuncId}(hg:jC P g)
  (hc: ∀x y,V x->V y->PF GB P g [e x,e y] (.v (.int .i64 (cf x y)))){ty:TypeId}{ds:List A}(hV: ∀x∈ds,V x)(hn:ds.length<4611686018427387904)(hu: ∀x∈ds,∀y∈ds,¬cf x y<0-> ¬cf y x<0->x=y):
  PW GB P (ρ.f 6) [none,some (.v (.func (.func g) #[] #[]))] s ty (ds.map e) (.tp []) ((kz cf ds).map e):=by
 intro G z vs B hgb hB hvs;refine⟨ha,fun w hw=>?_⟩;obtain⟨v1,m1,rfl,q1,hvs⟩:=bE.1 hvs;obtain⟨v2,m2,rfl,q2,hvs⟩:=bE.1 hvs
 cases cb.1 hvs
 rw[ba] at q1 q2;subst q1 q2;obtain⟨es,k1,k2,k3,_⟩:=hB;simp only at k1 k2 k3;have hlen:es.length=ds.length:=by rw[k2.len,aX]
 by_cases h0:ds=[]
 ·subst h0
  have hes:es=[]:=bU (by simpa using hlen);have hz:z.n=0:=by rw[k1.len,hes];rfl
  rw[hz];refine(AnyF.slices_SortFunc_none L z.a z.c _ w).mono fun r w' ⟨h1,h2⟩=>?_;subst h2;exact⟨_,asB B,G,h1,hw,kx.2 ⟨[],J, .nil⟩,es,k1.asB,by subst hes;show IsLs G ((kz cf []).map e) [];unfold kz;rw[List.mergeSort_nil];exact .nil,k3,fun h=>by cases h⟩
 ·have hpos:0<es.length:=by rw[hlen];exact qV.2 h0
  rcases k1 with⟨e1,_,_⟩|⟨b,rest,lo,e1,e2,e3,e4,e5⟩
  ·rw[e1] at hpos;simp at hpos
  subst e2
  -- elements with their cells
  have lift: ∀{ds:List A} {es:List Value},IsLs G (ds.map e) es->(∀x∈ds,V x)-> ∃qs:List {q:A×List Value//V q.1/\Is G (e q.1) (.agg ⟨q.2⟩)},qs.map (·.1.1)=ds/\qs.map (fun q=>Value.agg ⟨q.1.2⟩)=es:=by
   intro ds
   induction ds with
   |nil=>intro es h _;cases cb.1 h;exact⟨[],rfl,rfl⟩
   |cons x ds ih=>
    intro es h hV;obtain⟨y,n,rfl,g1,g2⟩:=bE.1 h;obtain⟨qs,g3,g4⟩:=ih g2 fun x hx=>hV x (aV _ hx);obtain⟨l,hl,_⟩:=hA x;have g1':=g1;rw[hl] at g1';obtain⟨m,rfl,_⟩:=dP.1 g1';exact⟨⟨(x,m),hV x aQ,g1⟩::qs,by simp[g3],by simp[g4]⟩
  obtain⟨qs,hq1,hq2⟩:=lift k2 hV;have:Inhabited {q:A×List Value//V q.1/\Is G (e q.1) (.agg ⟨q.2⟩)}:=⟨qs.head (fun e=>by rw[e] at hq1;exact h0 hq1.symm)⟩
  let enc:{q:A×List Value//V q.1/\Is G (e q.1) (.agg ⟨q.2⟩)}->List Value:=fun q=>q.1.2
  have henc: ∀q,(enc q).length=s/\ ∀v∈enc q,Go.Sx.flat v=true:=fun q=>by
   obtain⟨l,hl,h1,h2⟩:=hA q.1.1;have h3:=q.2.2;rw[hl] at h3;obtain⟨m,hm,h4⟩:=dP.1 h3
   cases hm
   exact⟨by show q.1.2.length=s;rw[h4.len,h2],fun v hv=>h4.flat h1 v hv⟩
  have hk: ∀q,(enc q).length=s:=fun q=>(henc q).1;have hqs:qs.toArray.size=es.length:=by rw[kZ,<-hq2,aX]
  have hfl: ∀d:Array {q:A×List Value//V q.1/\Is G (e q.1) (.agg ⟨q.2⟩)},(Go.Sort.flatK enc s d).toList=aF (d.toList.map fun q=>Value.agg ⟨q.1.2⟩):=fun d=>by
   rw[HY enc s hk];unfold aF;rw[List.map_map];rfl
  have hfe:(Go.Sort.flatK enc s qs.toArray).toList=aF es:=by rw[hfl,<-hq2]
  have hown:=hw.hown ⟨b,aF es++rest,ty,false⟩ aQ;obtain⟨hb,hGb,_,_⟩:=hown;simp only at hb hGb;have hblt:=et hb;have hH:Go.Sort.HoldsK enc s w b 0 qs.toArray:=by
   intro j hj;refine⟨?_,by simp[World.frozen?,hb]⟩;rw[ry hb,dV];have hj':j<(aF es).length:=by rw[<-hfe];simpa using hj
   rw[bS hj',<-hfe];show _=some ((Go.Sort.flatK enc s qs.toArray)[j]!);rw[getElem!_pos _ j hj];simp
  have hsz: ∀dk:Array {q:A×List Value//V q.1/\Is G (e q.1) (.agg ⟨q.2⟩)},dk.size=qs.toArray.size->(aF es).length=(Go.Sort.flatK enc s dk).size:=fun dk hd=>by rw[<-hfe];simp[hd]
  have hblk: ∀(m:Nat) (os:Array Obj) (dk:Array _),dk.size=qs.toArray.size->(sortWorldK enc s w b 0 m dk os).heap[b]? =some (.cells ⟨(Go.Sort.flatK enc s dk).toList++rest⟩ ty (0,0)):=fun m os dk hd=>by
   rw[GS enc s w b m dk os hblt,if_pos J,hb];show some (Obj.cells (Go.Sort.putCells id 0 (Go.Sort.flatK enc s dk) ⟨aF es++rest⟩) ty (0,0))=_;rw[NA (hsz dk hd)]
  have hoth: ∀(m:Nat) (os:Array Obj) (dk:Array _) (q:Nat),q<w.heap.size->q≠b->(sortWorldK enc s w b 0 m dk os).heap[q]? =w.heap[q]? :=fun m os dk q hq hne=>by rw[GS enc s w b m dk os hq,if_neg hne]
  have hsub: ∀(m:Nat) (os:Array Obj) (dk:Array _) (c:Nat) (cs:List Value),G c=some cs-> ∃ty fz,(sortWorldK enc s w b 0 m dk os).heap[c]? =some (.cells ⟨cs⟩ ty fz):=fun m os dk c cs hcs=>by
   obtain⟨ty',fz,h⟩:=hw.sub c cs hcs;exact⟨ty',fz,by rw[hoth m os dk c (et h) (fun e=>by subst e;rw[hGb] at hcs;cases hcs)];exact h⟩
  have hsize: ∀(m:Nat) (os:Array Obj) (dk:Array _),w.heap.size<=(sortWorldK enc s w b 0 m dk os).heap.size:=fun m os dk=>by
   show _<=((w.heap.modify b _)++os).size;simp
  have hcmp:Go.Proofs.CmpLays P g #[] enc s (fun q r=>cf q.1.1 r.1.1) b 0 qs.toArray.size w:=by
   intro m os dk _ x y;have hF:=hc x.1.1 y.1.1 x.2.1 y.2.1 G [.agg ⟨x.1.2⟩, .agg ⟨y.1.2⟩] hgb (.cons x.2.2 (.cons y.2.2 .nil));refine(hF.run _ (hsub m os dk)).mono fun r W ⟨v,G',h1,h2,h3⟩=>?_;rw[ba] at h3;subst h3;refine⟨h1,W.drawn-(sortWorldK enc s w b 0 m dk os).drawn,W.heap.extract (sortWorldK enc s w b 0 m dk os).heap.size W.heap.size,?_⟩;have hdr:=h2.dr;have hos:=h2.os;have htp:=h2.tape;have hou:=h2.output;have hkp:=h2.keep;have hss:=h2.size;simp only at hdr hos htp hou hkp hss;generalize sortWorldK enc s w b 0 m dk os=W0 at*
   cases W with
   |mk heap tape drawn os' output=>
    simp only at*;unfold Go.Sort.grow World.drewN;simp only[World.mk.injEq];refine⟨?_,htp,by omega,hos,hou⟩;apply Array.ext_getElem?;intro k;rw[Array.getElem?_append];split
    ·rename_i hk';exact hkp k hk' (by simp)
    ·rename_i hk'
     rw[Array.getElem?_extract];split
     ·congr 1;omega
     ·rw[kV (by omega)]
  have hO':Go.Sort.SWO (Go.Proofs.ltOf fun(q r:{q:A×List Value//V q.1/\Is G (e q.1) (.agg ⟨q.2⟩)})=>cf q.1.1 r.1.1):=⟨fun x=>hO.irrefl x.1.1,fun x y z=>hO.trans x.1.1 y.1.1 z.1.1,fun x y z=>hO.ntrans x.1.1 y.1.1 z.1.1⟩;have hrun:=AnyQ.slices_SortFunc L s hAg hZs enc hk (fun q v hv=>IQ ((henc q).2 v hv)) (fun q r=>cf q.1.1 r.1.1) hO' g #[] b 0 z.c qs.toArray w (fun args w=>vg hg args w) hcmp hH hblt (by rw[hqs,hlen];exact hn);have ez:z=⟨some ⟨b,0,none⟩,qs.toArray.size,z.c⟩:=by rw[hqs];exact e1
  have ea:(⟨[Value.slice z.a z.n z.c, .func (.func g) #[] #[]]⟩:Array Value)= #[.slice (some ⟨b,0,none⟩) qs.toArray.size z.c, .func (.func g) #[] #[]]:=by rw[ez]
  rw[ea];refine hrun.mono fun r w' ⟨h1,d',n,os,hp,hs,h2⟩=>?_;subst h2;have hdz:d'.size=qs.toArray.size:=hp.1;have hperm:d'.toList.Perm qs:=by
   have:=hp.2.2;have e1:d'.toList.take qs.length=d'.toList:=aU (by rw[eJ,hdz];simp);simpa[e1] using this
  have hasc:d'.toList.Pairwise fun x y=> ¬cf y.1.1 x.1.1<0:=by
   rw[List.pairwise_iff_getElem];intro i j hi hj hij;have:=hs i j (bL _) hij (by rw[<-hdz];simpa using hj);rw[getElem!_pos d' j (by simpa using hj),getElem!_pos d' i (by simpa using hi)] at this;simpa[Go.Proofs.ltOf] using this
  have hds:d'.toList.map (·.1.1)=kz cf ds:=by
   refine List.Perm.eq_of_pairwise (le:=fun x y=> ¬cf y x<0) (fun x y hx hy k1 k2=>?_) ?_ (Es hO ds) ?_
   ·have m1:x∈ds:=by
     obtain⟨q,hq,rfl⟩:=bT.1 hx;rw[<-hq1];exact bT.2 ⟨q,hperm.mem_iff.1 hq,J⟩
    exact hu x m1 y ((sX cf ds).mem_iff.1 hy) k2 k1
   ·rw[oL];exact hasc
   ·refine(hperm.map _).trans ?_
    rw[hq1];exact(sX cf ds).symm
  have hlen':(d'.toList.map fun q=>Value.agg ⟨q.1.2⟩).length=es.length:=by rw[aX,eJ,hdz,hqs]
  have hIs: ∀l:List {q:A×List Value//V q.1/\Is G (e q.1) (.agg ⟨q.2⟩)},IsLs G ((l.map (·.1.1)).map e) (l.map fun q=>Value.agg ⟨q.1.2⟩):=fun l=>by
   induction l with
   |nil=>exact .nil
   |cons q l ih=>exact .cons q.2.2 ih
  have hcell: ∀v∈d'.toList.map (fun q=>Value.agg ⟨q.1.2⟩),(aG v).length=s:=fun v hv=>by
   obtain⟨q,_,rfl⟩:=bT.1 hv;exact hk q
  refine⟨_,[⟨b,aF (d'.toList.map fun q=>Value.agg ⟨q.1.2⟩)++rest,ty,false⟩],G,h1,?_,kx.2 ⟨[],J, .nil⟩,d'.toList.map (fun q=>Value.agg ⟨q.1.2⟩), .inr ⟨b,rest,false,by rw[hlen'];exact e1,J,fh _ hcell,?_,by rw[hlen'];exact e5⟩,by rw[<-hds];exact hIs _,hcell,fun h=>by cases h⟩
  ·refine⟨J,J,J,hsize n os d',fun q hq hqm=>hoth n os d' q hq fun e=>hqm (by rw[e];exact aQ),hsub n os d',bc.refl _,fun _ _=>J,fun o ho=>?_,oR _ _,?_,fun p hp=>(by cases hp)⟩
   ·rw[aL.1 ho]
    exact⟨by rw[<-hfl];exact hblk n os d' hdz,hGb,(fun h=>by cases h),fun _=>aQ⟩
   ·show w.drawn<=w.drawn+n
    omega
  ·rw[<-e4,fh _ hcell,e3,hlen']
def Sc{a b c:aa}(h:cP c a):cP c b\/cP b a:=by
 by_cases h1:c.half<b.half
 ·exact .inl (.inl h1)
 ·by_cases h2:b.half<a.half
  ·exact .inr (.inl h2)
  ·rcases h with h|⟨h,k⟩
   ·omega
   ·have e1:c.half=b.half:=by omega
    have e2:b.half=a.half:=by omega
    by_cases q1:0<c.cross b
    ·exact .inl (.inr ⟨e1,q1⟩)
    ·by_cases q2:0<b.cross a
     ·exact .inr (.inr ⟨e2,q2⟩)
     ·exfalso
      have i1:b.y*c.cross a=a.y*c.cross b+c.y*b.cross a:=by unfold aa.cross;grind
      have i2:b.x*c.cross a=a.x*c.cross b+c.x*b.cross a:=by unfold aa.cross;grind
      have q1':c.cross b<=0:=by grind
      have q2':b.cross a<=0:=by grind
      rcases kA b with⟨eb,kb⟩|⟨eb,kb⟩|⟨eb,kb⟩<;>rcases kA a with⟨ea,ka⟩|⟨ea,ka⟩|⟨ea,ka⟩<;>rcases kA c with⟨ec,kc⟩|⟨ec,kc⟩|⟨ec,kc⟩<;>first|omega|skip
      ·have ha:0<=a.y:=by grind
       have hc:0<=c.y:=by grind
       rcases kb with kb|⟨kb,kb'⟩
       ·have g1:=mX ha (show 0<= -c.cross b by grind)
        have g2:=mX hc (show 0<= -b.cross a by grind);have g3:=fy kb k;grind
       ·have hx:b.cross a=b.x*a.y:=by unfold aa.cross;rw[kb];grind
        have ha0:a.y=0:=by
         rcases ka with ka|ka
         ·have:=fy kb' ka;grind
         ·exact ka.1
        have hax:0<a.x:=by grind
        have hy:c.cross a= -(c.y*a.x):=by unfold aa.cross;rw[ha0];grind
        have:=mX hc (show 0<=a.x by grind);grind
      ·have ha:0<= -a.y:=by grind
       have hc:0<= -c.y:=by grind
       rcases kb with kb|⟨kb,kb'⟩
       ·have g1:=mX ha (show 0<= -c.cross b by grind)
        have g2:=mX hc (show 0<= -b.cross a by grind);have g3:=fy (show 0< -b.y by grind) k;grind
       ·have hx:b.cross a=b.x*a.y:=by unfold aa.cross;rw[kb];grind
        have ha0:a.y=0:=by
         rcases ka with ka|ka
         ·have:=fy (show 0< -b.x by grind) (show 0< -a.y by grind);grind
         ·exact ka.1
        have hax:0< -a.x:=by grind
        have hy:c.cross a= -(c.y*a.x):=by unfold aa.cross;rw[ha0];grind
        have:=mX hc (show 0<= -a.x by grind);grind
      ·have hy:c.cross a=0:=by unfold aa.cross;rw[ka.1,ka.2];grind
       rw[hy] at k;exact absurd k (by decide)
def Ei:Go.Sort.SWO (Go.Proofs.ltOf ce):=by
 have e: ∀x y,Go.Proofs.ltOf ce x y=true↔cP x y:=fun x y=>by rw[<-mE];simp[Go.Proofs.ltOf]
 have e2: ∀x y,Go.Proofs.ltOf ce x y=false↔ ¬cP x y:=fun x y=>by rw[<-e];simp
 refine⟨fun x=>(e2 x x).2 (vW x),fun x y z h k=>(e x z).2 (w7 ((e x y).1 h) ((e y z).1 k)),fun x y z h k=>(e2 x z).2 fun q=>?_⟩;rcases Sc (b:=y) q with q|q
 ·exact(e2 x y).1 h q
 ·exact(e2 y z).1 k q
def Hx: ∀{l m:List aa},l.Pairwise cP->m.Pairwise cP->(∀x,x∈l↔x∈m)->l=m
 |[],[],_,_,_=>rfl
 |[],b::m,_,_,h=>absurd ((h b).2 aQ) (by simp)
 |a::l,[],_,_,h=>absurd ((h a).1 aQ) (by simp)
 |a::l,b::m,h1,h2,h=>by
  obtain⟨p1,p2⟩:=bR.1 h1;obtain⟨q1,q2⟩:=bR.1 h2;have e:a=b:=by
   rcases bZ.1 ((h a).1 aQ) with e|e
   ·exact e
   ·rcases bZ.1 ((h b).2 aQ) with f|f
    ·exact f.symm
    ·exact(R4 (q1 a e) (p1 b f)).elim
  subst e;congr 1;refine Hx p2 q2 fun x=>⟨fun hx=>?_,fun hx=>?_⟩
  ·rcases bZ.1 ((h x).1 (aV _ hx)) with e|e
   ·subst e;exact(vW _ (p1 _ hx)).elim
   ·exact e
  ·rcases bZ.1 ((h x).2 (aV _ hx)) with e|e
   ·subst e;exact(vW _ (q1 _ hx)).elim
   ·exact e
def sM(l:List aa):Prop:= ∀x∈l,∀y∈l,ce x y=0->x=y
def HI: ∀{l:List aa} {x:aa},(x::l).Pairwise (fun a b=> ¬cP b a)->sM (x::l)->(iC x l).Pairwise cP/\(∀y∈iC x l,cP x y)/\ ∀y,y∈x::iC x l↔y∈x::l
 |[],_,_,_=>⟨.nil,(fun y hy=>by cases hy),fun _=>Iff.rfl⟩
 |z::l,x,h,ht=>by
  obtain⟨p1,p2⟩:=bR.1 h;obtain⟨i1,i2,i3⟩:=HI p2 fun a ha b hb=>ht a (aV _ ha) b (aV _ hb);rw[iC];by_cases e:ce z x=0
  ·rw[if_pos e]
   obtain rfl:=ht z (by simp) x (by simp) e;exact⟨i1,i2,fun y=>by rw[i3];simp⟩
  ·rw[if_neg e]
   have hb:cP x z:=by
    by_cases q:cP x z
    ·exact q
    ·exact absurd (GP (p1 z aQ) q) e
   refine⟨bR.2 ⟨i2,i1⟩,fun y hy=>?_,fun y=>?_⟩
   ·rcases bZ.1 hy with rfl|hy
    ·exact hb
    ·exact w7 hb (i2 y hy)
   ·rw[bZ,i3,bZ (b:=x) (l:=z::l)]
def P0{l:List aa}(h:l.Pairwise fun a b=> ¬cP b a)(ht:sM l):(px l).Pairwise cP/\ ∀y,y∈px l↔y∈l:=by
 cases l with
 |nil=>exact⟨.nil,fun _=>Iff.rfl⟩
 |cons x l=>
  obtain⟨i1,i2,i3⟩:=HI h ht;exact⟨bR.2 ⟨i2,i1⟩,i3⟩
def Ou{l:List aa}(ht:sM l)(y:aa):y∈ld l↔y∈l:=by
 have h2: ∀y,y∈ld l->y∈l:=fun y hy=>by
  rcases wT ce hy with h|h
  ·exact h
  ·cases h
 refine⟨h2 y,fun hy=>?_⟩;obtain⟨e,e1,e2⟩:=Ad ce (o:=[]) hy;rcases e2 with rfl|e2
 ·exact e1
 ·rw[<-ht e (h2 e e1) y hy e2];exact e1
def Rf{l:List aa}(ht:sM l):px (kz ce l)=ld l:=by
 have hm: ∀y,y∈kz ce l↔y∈l:=fun y=>(sX ce l).mem_iff;have h1:(kz ce l).Pairwise fun a b=> ¬cP b a:=(Es Ei l).imp fun h=>by rw[<-mE];exact h
 obtain⟨k1,k2⟩:=P0 h1 fun a ha b hb=>ht a ((hm a).1 ha) b ((hm b).1 hb);exact Hx k1 (Sd l) fun x=>by rw[k2,hm,Ou ht]
end Go.Sx
end
section
namespace Go.Proofs
open Go.Shelf
def Tryz.sortPt_ren:Go.Shelf.Ren:=⟨fun|6=>316|15=>231|14=>370|28=>332|29=>333|20=>391|21=>392|22=>393|23=>394|24=>395|25=>396|26=>397|27=>398|46=>405|47=>372|48=>373|49=>406|50=>407|57=>410|n=>n,fun|22=>131|24=>141|25=>393|3=>3|39=>355|0=>0|53=>366|55=>251|4=>4|46=>429|45=>428|50=>391|5=>5|9=>9|66=>467|70=>471|76=>486|77=>487|n=>n,fun|n=>n⟩
def Tryz.sortPt:Go.Proofs.SlLaysF0.n6 Tryz.prog Tryz.sortPt_ren:={
 mixed:=by kernel_rfl
 f6:=⟨Tryz.f316.name,by decide,Tryz.func316.trans (congrArg some (by kernel_rfl))⟩
 f14:=⟨Tryz.f370.name,by decide,Tryz.func370.trans (congrArg some (by kernel_rfl))⟩
 f15:=Tryz.func231.trans (congrArg some (by kernel_rfl))
 f20:=⟨Tryz.f391.name,by decide,Tryz.func391.trans (congrArg some (by kernel_rfl))⟩
 f21:=⟨Tryz.f392.name,by decide,Tryz.func392.trans (congrArg some (by kernel_rfl))⟩
 f22:=⟨Tryz.f393.name,by decide,Tryz.func393.trans (congrArg some (by kernel_rfl))⟩
 f23:=⟨Tryz.f394.name,by decide,Tryz.func394.trans (congrArg some (by kernel_rfl))⟩
 f24:=⟨Tryz.f395.name,by decide,Tryz.func395.trans (congrArg some (by kernel_rfl))⟩
 f25:=⟨Tryz.f396.name,by decide,Tryz.func396.trans (congrArg some (by kernel_rfl))⟩
 f26:=⟨Tryz.f397.name,by decide,Tryz.func397.trans (congrArg some (by kernel_rfl))⟩
 f27:=⟨Tryz.f398.name,by decide,Tryz.func398.trans (congrArg some (by kernel_rfl))⟩
 f28:=Tryz.func332.trans (congrArg some (by kernel_rfl))
 f29:=Tryz.func333.trans (congrArg some (by kernel_rfl))
 f46:=⟨Tryz.f405.name,by decide,Tryz.func405.trans (congrArg some (by kernel_rfl))⟩
 f47:=Tryz.func372.trans (congrArg some (by kernel_rfl))
 f48:=Tryz.func373.trans (congrArg some (by kernel_rfl))
 f49:=⟨Tryz.f406.name,by decide,Tryz.func406.trans (congrArg some (by kernel_rfl))⟩
 f50:=⟨Tryz.f407.name,by decide,Tryz.func407.trans (congrArg some (by kernel_rfl))⟩
 f57:=⟨Tryz.f410.name,by decide,Tryz.func410.trans (congrArg some (by kernel_rfl))⟩
 t0:=Tryz.underlying0
 a0:=Tryz.isAgg0
 z0:=Tryz.sizeOf0
 v0:=Tryz.zeroValue0
 t3:=Tryz.underlying3
 a3:=Tryz.isAgg3
 z3:=Tryz.sizeOf3
 v3:=Tryz.zeroValue3
 t4:=Tryz.underlying4
 a4:=Tryz.isAgg4
 z4:=Tryz.sizeOf4
 v4:=Tryz.zeroValue4
 t5:=Tryz.underlying5
 a5:=Tryz.isAgg5
 z5:=Tryz.sizeOf5
 v5:=Tryz.zeroValue5
 t9:=Tryz.underlying9
 a9:=Tryz.isAgg9
 z9:=Tryz.sizeOf9
 v9:=Tryz.zeroValue9
 t22:=Tryz.underlying131
 a22:=Tryz.isAgg131
 z22:=Tryz.sizeOf131
 v22:=Tryz.zeroValue131
 t25:=Tryz.underlying393
 a25:=Tryz.isAgg393
 z25:=Tryz.sizeOf393
 v25:=Tryz.zeroValue393
 t39:=Tryz.underlying355
 a39:=Tryz.isAgg355
 z39:=Tryz.sizeOf355
 v39:=Tryz.zeroValue355
 t45:=Tryz.underlying428
 a45:=Tryz.isAgg428
 z45:=Tryz.sizeOf428
 v45:=Tryz.zeroValue428
 t46:=Tryz.underlying429
 a46:=Tryz.isAgg429
 z46:=Tryz.sizeOf429
 v46:=Tryz.zeroValue429
 t50:=Tryz.underlying391
 a50:=Tryz.isAgg391
 z50:=Tryz.sizeOf391
 v50:=Tryz.zeroValue391
 t53:=Tryz.underlying366
 a53:=Tryz.isAgg366
 z53:=Tryz.sizeOf366
 v53:=Tryz.zeroValue366
 t55:=Tryz.underlying251
 a55:=Tryz.isAgg251
 z55:=Tryz.sizeOf251
 v55:=Tryz.zeroValue251
 t66:=Tryz.underlying467
 a66:=Tryz.isAgg467
 z66:=Tryz.sizeOf467
 v66:=Tryz.zeroValue467
 t70:=Tryz.underlying471
 a70:=Tryz.isAgg471
 z70:=Tryz.sizeOf471
 v70:=Tryz.zeroValue471
 t76:=Tryz.underlying486
 a76:=Tryz.isAgg486
 z76:=Tryz.sizeOf486
 v76:=Tryz.zeroValue486
 t77:=Tryz.underlying487
 a77:=Tryz.isAgg487
 z77:=Tryz.sizeOf487
 v77:=Tryz.zeroValue487}
end Go.Proofs
end
section
namespace Go.Sx
open Go Go.Proofs Tryz
variable {GB:Gh}
def Re{ds:List aa}{i:Nat}(hb: ∀d∈ds,aA d i)(hi:i<=10000000)(hn:ds.length<=10000000)(ht:sM ds):PW GB prog 316 [none,some (.v (.func (.func 279) #[] #[]))] 6 141 (ds.map eZ) (.tp []) ((kz ce ds).map eZ):=
 T8 (GB:=GB) Tryz.sortPt ⟨_,func316,J,J⟩ isAgg141 sizeOf141 eZ (fun d=>aA d i) (fun x=>⟨_,J,J,J⟩) ce Ei ⟨_,func279,J,J⟩ (fun x y hx hy=>C8 (i:=i) (j:=i) hi hi) hb (by omega)
  (fun x hx y hy h k=>ht x hx y hy (GP (by rw[<-mE];exact h) (by rw[<-mE];exact k)))
def Kq{ds:List aa}{i:Nat}(hb: ∀d∈ds,aA d i)(hi:i<=10000000)(hn:ds.length<=10000000)(ht:sM ds):PB GB prog 221 (jo [none]) 6 141 (ds.map eZ) (fun w=> .v (.slice w.a w.n w.c)) ((ld ds).map eZ):=by
 have hsm: ∀d∈kz ce ds,aA d i:=fun d hd=>hb d ((sX ce ds).mem_iff.1 hd);have hsl:(kz ce ds).length=ds.length:=(sX ce ds).length_eq;refine zd func221 J J ntmps221 J J (fun C=>?_);refine cw _ J (Re hb hi hn ht) J J<|cq ((ld ds).map eZ) J (PQ (i0:=i) hsm (by omega) hi) (by rw[Rf ht]) J<|?_;exact uE J J J J
theorem DR{ds:List aa}{i:Nat}(h: ∀d∈ds,aA d i)(h2:2<=i): ∀v∈gk ds,aA v (i+i+1):=fun v hv=>by
 have up: ∀{q:aa},aA q i->aA q (i+i+1):=fun hq=>⟨hq.x.mono (by omega),hq.y.mono (by omega)⟩;unfold gk at hv;split at hv
 ·rw[aL] at hv
  subst hv;exact⟨BQ.mono (k:=2) ⟨by decide,by decide⟩ (by omega),BQ.mono (k:=2) ⟨by decide,by decide⟩ (by omega)⟩
 ·obtain⟨k,hk,rfl⟩:=bT.1 hv
  have hk':=kL.1 hk;have g: ∀{j:Nat},j<ds.length->aA (ds.getD j ⟨0,0⟩) i:=fun{j} hj=>by
   rw[aJ,aZ hj];exact h _ (jU hj)
  haveI:=g hk';haveI:=g (cY (k+1) (show 0<ds.length by omega));unfold pw;split
  ·exact inferInstance
  ·exact up inferInstance
def J3(ds:List aa):(gk ds).length<=ds.length+1:=by
 unfold gk;split
 ·simp
 ·rw[aX,pJ];omega
def SJ{b c:Bool}:PF GB prog 197 [vB b,vB c] (vI (if b&&c then 2 else if b then 1 else 0)):=by
 refine fn func197 J J ntmps197 J J (fun C=>?_);refine jP 7 J J J (fun hg7=>?_) (fun hg7=>?_)
 ·refine bb J J J (fun hc5=>?_) (fun hc5=>?_)
  ·exact rz J (by subst hg7 hc5;rfl)
  ·refine bb J J J (fun hc10=>?_) (fun hc10=>?_)
   ·exact rz J (by subst hg7 hc5;rfl)
   ·subst hg7;cases hc10
 ·refine bb J J J (fun hc10=>?_) (fun hc10=>?_)
  ·subst hg7;cases hc10
  ·exact rz J (by subst hg7;rfl)
def RK{C:az}{n:Nat}{Q0:Exit->Act->World->Prop}{fr:ao}{own:aB}{ops:Array Oper}{r:List Oper}{K:List Kt}(k:Nat)(hl:aD fr k=some (.d (.ag [vI 0,vI 0, .v (.pointer none)])))(h:aj prog GB C n Q0 ((k, .d (eF 0))::fr) own (.ops ops r K)):aj prog GB C n Q0 fr own (.ops ops r K):=
 kh (g:= .d (eF 0)) hl (fun _ G y hy=>rO G y hy) h
theorem I7{p:aa}{f:bg}(hf:FE f): ∀d∈fq p f,aA d 500:=fun d hd=>by
 haveI:=hf.fo.lb;rcases(Ba hd).2 with rfl|rfl
 ·exact inferInstance
 ·exact inferInstance
def tY{E:List bg}{p:aa}{k:Nat}{f:bg}(h:E[k]? =some f):(E.drop k).flatMap (fq p)=fq p f++(E.drop (k+1)).flatMap (fq p):=by
 obtain⟨hk,e⟩:=bQ.1 h;rw[bM hk,e,List.flatMap_cons]
def Pc(p:aa)(f:bg):(fq p f).length<=2:=by
 unfold fq
 repeat' split
 all_goals simp
def Af(p:aa): ∀E:List bg,(E.flatMap (fq p)).length<=2*E.length
 |[]=>aR _
 |f::E=>by
  have:=Af p E;have:=Pc p f;rw[List.flatMap_cons,aT,bN];omega
def RC{p:aa}{f:bg}(h:gv f p=false):fq p f=[]:=by unfold fq;rw[h];rfl
def wG{p:aa}{f:bg}(hf:FE f)(h:gv f p=true):fq p f=(if bv (de f.l p) f.v.hi<0 then [ck f.l.dir] else [])++(if 0<bv (de f.l p) f.v.lo then [dw (ck f.l.dir)] else []):=by
 unfold fq Gm Dc;rw[if_pos h,hf.nl,hf.nh];simp only[Bool.false_or,decide_eq_true_eq]
def OX{E:List bg}(hE: ∀f∈E,FE f)(hn:E.length<=100000){p:aa}{i:Nat}[hp:aA p i](hi:i<=100000:=by decide):PF GB prog 286 [.sl (E.map bP),eZ p] (.sl ((jq E p).map eZ)):=by
 have hml:(E.map bP).length=E.length:=aX ..;have hrl:=Af p E;refine fn (fu:=⟨16⟩) func286 J J ntmps286 J J (fun C=>?_);refine ak 11 (.d (vI (E.length:Nat))) J (by rw[hml]<;>rfl) ?_;refine gx J<|?_;refine nr 5 5 141 6 J J J ?_;refine lp (X:=List aa×Nat) (fun⟨acc,k⟩=>[(12, .d (vI (k:Nat))),(5, .rw 5)]) (fun⟨acc,k⟩=>[(5,some (.b 141 6 (acc.map eZ) true))]) (fun⟨acc,k⟩=>acc++(E.drop k).flatMap (fq p)=E.flatMap (fq p)/\k<=E.length) (fun⟨acc,k⟩=>E.length-k) ⟨[],0⟩ J ⟨by simp,bL _⟩ (fun _=>J) (fun⟨acc,k⟩ hk=>?_)
 try dsimp only at hk⊢
 obtain⟨h1,h2⟩:=hk;have hal:acc.length<=2*E.length:=by
  have q1:=congrArg List.length h1;rw[aT] at q1;omega
 have ham:(acc.map eZ).length=acc.length:=aX ..;refine br J J J (fun hc13=>?_) (fun hc13=>?_)
 .
  obtain⟨f,hx⟩: ∃u,E[k]? =some u:=⟨_,aZ (by omega)⟩;have hf:=hE f (aS hx);haveI:=hf.fo.lb;haveI:=hf.fo.lo;haveI:=hf.fo.hi;haveI:=vJ (p:=p) (i:=i) hf.fo.lb;refine ix _ J (d9 hx) J<|cl J (A0 hf (p:=p) (i:=i) hi) J<|?_;refine bb J J J (fun hc19=>?_) (fun hc19=>?_)
  .
   exact at_ ⟨acc,k+1⟩ (by dsimp only;exact⟨⟨by rw[<-h1,tY hx,RC (by simpa using hc19)];simp,by omega⟩,(by omega)⟩)
  .
   have hha:gv f p=true:=by simpa using hc19
   refine cl J (tP (l:=f.l) (p:=p) (i:=i) (by omega)) J<|cl J (vx (l:=f.l)) J<|cl (fu:=⟨12⟩) J (MA (p:=f.l.dir) (i:=97)) J<|?_;refine ak 30 (.d (vB false)) J (by rw[hf.nh]<;>rfl) ?_;refine sL 30 J ?_;refine gx (fu:=⟨0⟩) J<|?_;rcases Classical.em (bv (de f.l p) f.v.hi<0) with hA|hA
   .
    refine gx J<|cl (fu:=⟨0⟩) J (ja (p:=de f.l p) (q:=f.v.hi) (i:=2*i+600) (j:=1200) (by omega) (by decide)) J<|mB J (by show some (decide _)=some true;rw[decide_eq_true (by omega)]) J<|?_;refine rf J J<|ap (fu:=⟨8⟩) ((acc++[ck f.l.dir]).map eZ) J (by rw[cX]<;>rfl) (oG [ck f.l.dir]) J<|?_;refine ak 45 (.d (vB false)) J (by rw[hf.nl]<;>rfl) ?_;refine sL 45 J ?_;refine gx J<|cl J (ja (p:=de f.l p) (q:=f.v.lo) (i:=2*i+600) (j:=1200) (by omega) (by decide)) J<|?_;refine br J J J (fun hc53=>?_) (fun hc53=>?_)
    .
     refine cl J (Ew (p:=ck f.l.dir) (i:=500)) J<|rf J J<|ap ((acc++[ck f.l.dir]++[dw (ck f.l.dir)]).map eZ) J (by simp only[cX,fJ,iL,jW]<;>rfl) (oG [dw (ck f.l.dir)]) J<|?_;refine iI 58 5 J ?_;exact at_ ⟨acc++[ck f.l.dir]++[dw (ck f.l.dir)],k+1⟩ (by dsimp only;exact⟨⟨by rw[<-h1,tY hx,wG hf hha,if_pos hA,if_pos (by omega)];simp,by omega⟩,(by omega)⟩)
    .
     refine iI 42 5 J ?_;exact at_ ⟨acc++[ck f.l.dir],k+1⟩ (by dsimp only;exact⟨⟨by rw[<-h1,tY hx,wG hf hha,if_pos hA,if_neg (by omega)];simp,by omega⟩,(by omega)⟩)
   .
    refine gx J<|cl (fu:=⟨0⟩) J (ja (p:=de f.l p) (q:=f.v.hi) (i:=2*i+600) (j:=1200) (by omega) (by decide)) J<|ky (fu:=⟨11⟩) J (by show some (decide _)=some false;rw[decide_eq_false (by omega)]) J<|?_;refine ak 45 (.d (vB false)) J (by rw[hf.nl]<;>rfl) ?_;refine sL 45 J ?_;refine gx J<|cl J (ja (p:=de f.l p) (q:=f.v.lo) (i:=2*i+600) (j:=1200) (by omega) (by decide)) J<|?_;refine br J J J (fun hc53=>?_) (fun hc53=>?_)
    .
     refine cl J (Ew (p:=ck f.l.dir) (i:=500)) J<|rf J J<|ap ((acc++[dw (ck f.l.dir)]).map eZ) J (by simp only[cX,fJ,iL,jW]<;>rfl) (oG [dw (ck f.l.dir)]) J<|?_;refine iI 58 5 J ?_;exact at_ ⟨acc++[dw (ck f.l.dir)],k+1⟩ (by dsimp only;exact⟨⟨by rw[<-h1,tY hx,wG hf hha,if_neg hA,if_pos (by omega)];simp,by omega⟩,(by omega)⟩)
    .
     exact at_ ⟨acc,k+1⟩ (by dsimp only;exact⟨⟨by rw[<-h1,tY hx,wG hf hha,if_neg hA,if_neg (by omega)];simp,by omega⟩,(by omega)⟩)
 .
  obtain rfl:k=E.length:=by omega
  have hacc:acc=E.flatMap (fq p):=by rw[iN] at h1;simpa using h1
  refine cq ((jq E p).map eZ) rfl (Kq (ds:=acc) (i:=500) (fun d hd=>by rw[hacc] at hd;obtain⟨f,h3,h4⟩:=iJ.1 hd;exact I7 (hE f h3) d h4) (by decide) (by omega) (by rw[hacc];exact FM (fun f hf=>(hE f hf).fo.ok) p)) (by rw[hacc]<;>rfl) rfl<|?_;refine ki 61 J ?_;exact rz J J
def xb(p d:aa)(s:Rat):p.add (d.scale s)=dx p d s:=by
 unfold aa.add aa.scale dx;simp only[aa.mk.injEq];constructor<;>grind
def ou(x:Rat×Bool)(s:Rat):Rat×Bool:=if 0<Int.sign s.num/\(x.2=false\/bv s x.1<0) then(s,true) else x
def xu(a b:Rat):ou (ou (0,false) a) b=sO a b:=by
 unfold ou sO;by_cases ha:0<Int.sign a.num
 ·simp only[ha,true_and,not_true_eq_false,false_or]
  simp
 ·simp only[ha,false_and,if_false,not_false_eq_true,true_or,and_true]
def wl{b s:Rat}{x:Bool}(h:0<Int.sign s.num)(k:x=false\/bv s b<0):ou (b,x) s=(s,true):=by unfold ou;rw[if_pos ⟨h,k⟩]
def xg{b s:Rat}{x:Bool}(h: ¬0<Int.sign s.num\/(x=true/\ ¬bv s b<0)):ou (b,x) s=(b,x):=by
 unfold ou;rw[if_neg];rintro ⟨h1,h2⟩;rcases h with h|⟨h,k⟩
 ·exact h h1
 ·rcases h2 with e|e
  ·rw[h] at e;cases e
  ·exact k e
theorem xV{m:Nat}(hm:1<=m):BQ (0:Rat) m:=BQ.mono (k:=1) ⟨by decide,by decide⟩ hm
theorem xY{p q:aa}{i j:Nat}(hp:aA p i)[aA q j]:BQ (p.dot q) (i+j+(i+j)+1):=by
 haveI:=hp;exact inferInstance
theorem uT{p d q:aa}{i j m:Nat}[aA p i][aA d j][aA q 3000](hm:2*i+6*j+6100<=m):BQ (pp p d q) m:=by
 haveI:=xY (q:=d) (sB q p (i:=3000) (j:=i));have h:BQ ((⟨q.x-p.x,q.y-p.y⟩:aa).dot d/d.dot d) _:=inferInstance;exact BQ.mono (show BQ (pp p d q) _ from h) (by omega)
def Do{f:bg}{p d:aa}(h:f.l.nor.dot d≠0):ir f p d=(-(f.l.value p/f.l.nor.dot d),decide (0<Int.sign (-(f.l.value p/f.l.nor.dot d)).num)&&lA f.v (de f.l (dx p d (-(f.l.value p/f.l.nor.dot d))))):=by unfold ir;rw[if_neg h]
def On{f:bg}{p d:aa}(h:f.l.nor.dot d=0)(k:f.l.value p=0):ir f p d=sO (pp p d (f.l.at f.v.lo)) (pp p d (f.l.at f.v.hi)):=by unfold ir;rw[if_pos h,if_pos k]
def MJ{f:bg}{p d:aa}(h:f.l.nor.dot d=0)(k:f.l.value p≠0):ir f p d=(0,false):=by unfold ir;rw[if_pos h,if_neg k]
def K9{f:bg}(hf:FE f){p d:aa}{i j:Nat}[hp:aA p i][hd:aA d j](hi:i<=30000:=by decide)(hj:j<=10000:=by decide):PF GB prog 287 [bP f,eZ p,eZ d] (.tp [eF (ir f p d).1,vB (ir f p d).2]):=by
 haveI:=hf.fo.lb;haveI:=hf.fo.lo;haveI:=hf.fo.hi;obtain⟨k0,hk0⟩: ∃k0,k0=f.l.nor.dot d:=⟨_,rfl⟩;obtain⟨c0,hc0⟩: ∃c0,c0=f.l.value p:=⟨_,rfl⟩;haveI:BQ k0 (2*j+600):=by rw[hk0];exact BQ.mono (inferInstance:BQ (f.l.nor.dot d) _) (by omega)
 haveI:BQ c0 (2*i+900):=by rw[hc0];exact BQ.mono (inferInstance:BQ (f.l.value p) _) (by omega)
 obtain⟨s,hs⟩: ∃s,s= -(c0/k0):=⟨_,rfl⟩;haveI:BQ (c0/k0) (2*i+2*j+1500):=BQ.mono (inferInstance:BQ (c0/k0) _) (by omega);haveI:BQ s (2*i+2*j+1500):=by rw[hs];exact inferInstance
 haveI:aA (dx p d s) (3*i+3*j+1600):=by rw[<-xb];exact aA.mono (inferInstance:aA (p.add (d.scale s)) _) (by omega)
 obtain⟨nj,hslo⟩: ∃s,s=pp p d (f.l.at f.v.lo):=⟨_,rfl⟩;obtain⟨shi,hshi⟩: ∃s,s=pp p d (f.l.at f.v.hi):=⟨_,rfl⟩;haveI:aA (f.l.at f.v.hi) 3000:=rN hf.fo.lb hf.fo.hi;haveI:aA (f.l.at f.v.lo) 3000:=rN hf.fo.lb hf.fo.lo;haveI:BQ nj (2*i+6*j+9000):=by rw[hslo];exact uT (by omega)
 haveI:BQ shi (2*i+6*j+9000):=by rw[hshi];exact uT (by omega)
 haveI:BQ f.v.lo (6*i+6*j+4000):=hf.fo.lo.mono (by omega);haveI:BQ f.v.hi (6*i+6*j+4000):=hf.fo.hi.mono (by omega);haveI:BQ (de f.l (dx p d s)) (6*i+6*j+4000):=(vJ (p:=dx p d s) (i:=3*i+3*j+1600) hf.fo.lb).mono (by omega);refine fn func287 J J ntmps287 J J (fun C=>?_);refine cl J (zb (l:=f.l)) J<|cl (fu:=⟨0⟩) J (l8 (p:=f.l.nor) (q:=d) (i:=97) (j:=j) (by decide) (by omega)) J<|?_;refine ak 22 (.d (eF k0)) J (by rw[hk0]) ?_;refine gx J<|cl (fu:=⟨0⟩) J (Gv (l:=f.l) (p:=p) (i:=i) (by omega)) J<|?_;refine ak 26 (.d (eF c0)) J (by rw[hc0]) ?_;refine gx J<|cl J (vd (q:=k0)) J<|?_;refine bb J J J (fun hc29=>?_) (fun hc29=>?_)
 .
  have hkn:f.l.nor.dot d≠0:=by rw[<-hk0];simpa using hc29
  refine cl J (uB (p:=c0) (q:=k0) (i:=2*i+900) (j:=2*j+600) (by omega) (by omega)) J<|cl (fu:=⟨0⟩) J (pd (q:=c0/k0) (i:=2*i+2*j+1500) (by omega)) J<|?_;refine ak 33 (.d (eF s)) J (by rw[hs]) ?_;refine gx J<|cl (fu:=⟨0⟩) J (jv (q:=s) (i:=2*i+2*j+1500) (by omega)) J<|?_;refine r8 (v2:=fun hg37=>by simp only[ab];kernel_rfl) J J J J (fun hg37=>?_) (fun hg37=>?_)
  .
   refine cl J (tU (p:=d) (c:=s) (i:=j) (j:=2*i+2*j+1500) (by omega) (by omega)) J<|cl (fu:=⟨0⟩) J (wM (p:=p) (q:=d.scale s) (i:=i) (j:=j+(2*i+2*j+1500)) (by omega) (by omega)) J<|?_;refine ak 47 (.d (eZ (dx p d s))) J (by rw[xb]) ?_;refine gx J<|cl J (tP (l:=f.l) (p:=dx p d s) (i:=3*i+3*j+1600) (by omega)) J<|cl J (DK (v:=f.v) (t:=de f.l (dx p d s)) (i:=6*i+6*j+4000) (by omega)) J<|?_;exact rz J (by rw[Do hkn,<-hk0,<-hc0,<-hs];show DV.tp [_, .v (.bool _)]= .tp [_, .v (.bool _)];simp only[hg37,decide_true,Bool.true_and];rfl)
  .
   exact rz J (by rw[Do hkn,<-hk0,<-hc0,<-hs];show DV.tp [_, .v (.bool _)]= .tp [_, .v (.bool _)];simp only[hg37,decide_false,Bool.false_and];rfl)
 .
  have hkz:f.l.nor.dot d=0:=by rw[<-hk0];simpa using hc29
  refine cl J (vd (q:=c0)) J<|?_;refine bb (fu1:=⟨3⟩) (fu2:=⟨16⟩) J J J (fun hc53=>?_) (fun hc53=>?_)
  .
   have hcn:f.l.value p≠0:=by rw[<-hc0];simpa using hc53
   refine RK 54 J ?_;refine gx J<|?_;exact rz J (by rw[MJ hkz hcn];rfl)
  .
   have hcz:f.l.value p=0:=by rw[<-hc0];simpa using hc53
   refine sQ (fu:=⟨1⟩) (oF f) J (fun G y hy=>sJ hf.sm hy) J<|sQ (fu:=⟨0⟩) (oF f) J (fun G y hy=>sJ hf.sm hy) J<|Nt (fu:=⟨1⟩) (i:=⟨.o,1,some [.d (.v .nilFunc)],false⟩) (z:= .v .nilFunc) J (by kernel_rfl) J J J<|?_;refine ak 60 (.d (vI 2)) J J ?_;refine gx J<|?_;refine zn 12 _ J J ?_;refine K6 11 [vI (c7 0),vI (c8 0),cF 0] rfl (fun G m=>zF) J ?_;refine lp (X:=Nat×Rat×Bool) (fun⟨t,bst,fnd⟩=>[(61, .d (vI (t:Nat))),(12, .d (vB fnd)),(11, .ov 11 0)]) (fun⟨t,bst,fnd⟩=>[(11,some (.o 139 [.d (vI (c7 bst)), .d (vI (c8 bst)), .d (cF bst)] true))]) (fun⟨t,bst,fnd⟩=>t<=2/\BQ bst (2*i+6*j+9000)/\(t=0->(bst,fnd)=(0,false))/\(t=1->(bst,fnd)=ou (0,false) nj)/\(t=2->(bst,fnd)=sO nj shi)) (fun⟨t,bst,fnd⟩=>2-t) ⟨0,0,false⟩ J ⟨by omega,xV (by omega),fun _=>J,fun e=>by omega,fun e=>by omega⟩ (fun _=>J) (fun⟨t,bst,fnd⟩ hk=>?_)
   try dsimp only at hk⊢
   obtain⟨hk2,hbb,q0,q1,q2⟩:=hk;haveI:=hbb;refine br (fu1:=⟨6⟩) J J J (fun hc62=>?_) (fun hc62=>?_)
   .
    rcases(show t=0\/t=1 by omega) with rfl|rfl
    .
     refine gx J<|ix (fu:=⟨0⟩) _ J J J<|Gu (fu:=⟨6⟩) J J J J J J<|oc (ds1:=[bP f]) (ds2:=[]) J (.cons (sT hf.sm) (cb.2 J)) (cb.2 J) (BA hf) J<|?_;refine cl J (Aq (p:=f.l.at f.v.lo) (q:=p) (i:=3000) (j:=i) (by decide) (by omega)) J<|cl J (l8 (p:=⟨(f.l.at f.v.lo).x-p.x,(f.l.at f.v.lo).y-p.y⟩) (q:=d) (i:=3000+i+1) (j:=j) (hp:=sB _ _) (by omega) (by omega)) J<|?_;refine cl J (l8 (p:=d) (q:=d) (i:=j) (j:=j) (by omega) (by omega)) J<|cl (fu:=⟨0⟩) J (uB (p:=(⟨(f.l.at f.v.lo).x-p.x,(f.l.at f.v.lo).y-p.y⟩:aa).dot d) (q:=d.dot d) (i:=3000+i+1+j+(3000+i+1+j)+1) (j:=j+j+(j+j)+1) (h:=xY (sB _ _)) (by omega) (by omega)) J<|?_;refine ak 78 (.d (eF nj)) J (by rw[hslo];rfl) ?_;refine gx (fu:=⟨8⟩) J<|?_;refine kE 80 J ?_;refine gx J<|cl J (jv (q:=nj) (i:=(2*i+6*j+9000)) (by omega)) J<|?_;refine cs 85 J J J (fun hg85=>?_) (fun hg85=>?_)
     .
      refine jP 88 J J J (fun hg88=>?_) (fun hg88=>?_)
      .
       refine q8 12 _ J J ?_;exact at_ ⟨0+1,nj,true⟩ (by dsimp only;exact⟨⟨by omega,by first|exact inferInstance|assumption,fun e=>by omega,fun _=>by rw[<-q0 J];exact(wl hg85 (.inl (by simpa using hg88))).symm,fun e=>by omega⟩,(by omega)⟩)
      .
       refine cl J (ja (p:=nj) (q:=bst) (i:=(2*i+6*j+9000)) (j:=(2*i+6*j+9000)) (by omega) (by omega)) J<|?_;refine br J J J (fun hc94=>?_) (fun hc94=>?_)
       .
        refine q8 12 _ J J ?_;exact at_ ⟨0+1,nj,true⟩ (by dsimp only;exact⟨⟨by omega,by first|exact inferInstance|assumption,fun e=>by omega,fun _=>by rw[<-q0 J];exact(wl hg85 (.inr hc94)).symm,fun e=>by omega⟩,(by omega)⟩)
       .
        exact at_ ⟨0+1,bst,fnd⟩ (by dsimp only;exact⟨⟨by omega,by first|exact inferInstance|assumption,fun e=>by omega,fun _=>by rw[<-q0 J];exact(xg (.inr ⟨by simpa using hg88,hc94⟩)).symm,fun e=>by omega⟩,(by omega)⟩)
     .
      exact at_ ⟨0+1,bst,fnd⟩ (by dsimp only;exact⟨⟨by omega,by first|exact inferInstance|assumption,fun e=>by omega,fun _=>by rw[<-q0 J];exact(xg (.inl hg85)).symm,fun e=>by omega⟩,(by omega)⟩)
    .
     refine gx J<|ix (fu:=⟨0⟩) _ J J J<|Gu (fu:=⟨6⟩) J J J J J J<|oc (ds1:=[bP f]) (ds2:=[]) J (.cons (sT hf.sm) (cb.2 J)) (cb.2 J) (BY hf) J<|?_;refine cl J (Aq (p:=f.l.at f.v.hi) (q:=p) (i:=3000) (j:=i) (by decide) (by omega)) J<|cl J (l8 (p:=⟨(f.l.at f.v.hi).x-p.x,(f.l.at f.v.hi).y-p.y⟩) (q:=d) (i:=3000+i+1) (j:=j) (hp:=sB _ _) (by omega) (by omega)) J<|?_;refine cl J (l8 (p:=d) (q:=d) (i:=j) (j:=j) (by omega) (by omega)) J<|cl (fu:=⟨0⟩) J (uB (p:=(⟨(f.l.at f.v.hi).x-p.x,(f.l.at f.v.hi).y-p.y⟩:aa).dot d) (q:=d.dot d) (i:=3000+i+1+j+(3000+i+1+j)+1) (j:=j+j+(j+j)+1) (h:=xY (sB _ _)) (by omega) (by omega)) J<|?_;refine ak 78 (.d (eF shi)) J (by rw[hshi];rfl) ?_;refine gx (fu:=⟨8⟩) J<|?_;refine kE 80 J ?_;refine gx J<|cl J (jv (q:=shi) (i:=(2*i+6*j+9000)) (by omega)) J<|?_;refine cs 85 J J J (fun hg85=>?_) (fun hg85=>?_)
     .
      refine jP 88 J J J (fun hg88=>?_) (fun hg88=>?_)
      .
       refine q8 12 _ J J ?_;exact at_ ⟨1+1,shi,true⟩ (by dsimp only;exact⟨⟨by omega,by first|exact inferInstance|assumption,fun e=>by omega,fun e=>by omega,fun _=>by rw[<-xu,<-q1 J];exact(wl hg85 (.inl (by simpa using hg88))).symm⟩,(by omega)⟩)
      .
       refine cl J (ja (p:=shi) (q:=bst) (i:=(2*i+6*j+9000)) (j:=(2*i+6*j+9000)) (by omega) (by omega)) J<|?_;refine br J J J (fun hc94=>?_) (fun hc94=>?_)
       .
        refine q8 12 _ J J ?_;exact at_ ⟨1+1,shi,true⟩ (by dsimp only;exact⟨⟨by omega,by first|exact inferInstance|assumption,fun e=>by omega,fun e=>by omega,fun _=>by rw[<-xu,<-q1 J];exact(wl hg85 (.inr hc94)).symm⟩,(by omega)⟩)
       .
        exact at_ ⟨1+1,bst,fnd⟩ (by dsimp only;exact⟨⟨by omega,by first|exact inferInstance|assumption,fun e=>by omega,fun e=>by omega,fun _=>by rw[<-xu,<-q1 J];exact(xg (.inr ⟨by simpa using hg88,hc94⟩)).symm⟩,(by omega)⟩)
     .
      exact at_ ⟨1+1,bst,fnd⟩ (by dsimp only;exact⟨⟨by omega,by first|exact inferInstance|assumption,fun e=>by omega,fun e=>by omega,fun _=>by rw[<-xu,<-q1 J];exact(xg (.inl hg85)).symm⟩,(by omega)⟩)
   .
    obtain rfl:t=2:=by omega
    exact rz J (by rw[On hkz hcz,<-hslo,<-hshi,<-q2 J];rfl)
theorem Ay{E:List bg}(hE: ∀f∈E,FE f)(p:aa): ∀d∈jq E p,aA d 500:=fun d hd=>by
 obtain⟨f,h3,h4⟩:=iJ.1 ((Qn (FM (fun f hf=>(hE f hf).fo.ok) p) d).1 hd);exact I7 (hE f h3) d h4
def GX(E:List bg)(p:aa):(jq E p).length<=2*E.length:=by
 have h1:=Af p E;have h2:=Ai ce (E.flatMap (fq p)) [];show((E.flatMap (fq p)).foldl (fun out x=>dE ce x out) []).length<=_;simp only[iU] at h2;omega
theorem JT{f:bg}(hf:FE f){p d:aa}{i j:Nat}[hp:aA p i][hd:aA d j]:BQ (ir f p d).1 (2*i+6*j+9000):=by
 haveI:=hf.fo.lb;haveI:aA (f.l.at f.v.hi) 3000:=rN hf.fo.lb hf.fo.hi;haveI:aA (f.l.at f.v.lo) 3000:=rN hf.fo.lb hf.fo.lo;unfold ir;split
 ·split
  ·unfold sO
   split
   ·exact uT (by omega)
   ·split
    ·exact uT (by omega)
    ·exact xV (by omega)
  ·exact xV (by omega)
 ·exact BQ.mono (inferInstance:BQ (-(f.l.value p/f.l.nor.dot d)) _) (by omega)
theorem Ka{f:bg}(hf:FE f){p d:aa}{i j:Nat}[hp:aA p i][hd:aA d j]{s:Rat}(hs:BQ s (2*i+6*j+9000)):BQ (j0 p d s f) (2*i+6*j+9000):=by
 unfold j0;split
 ·exact hs
 ·split
  ·split
   ·exact JT hf
   ·exact hs
  ·exact hs
def BB{E:List bg}{p d:aa}{k:Nat}{f:bg}(h:E[k]? =some f)(s:Rat):(E.take (k+1)).foldl (j0 p d) s=j0 p d ((E.take k).foldl (j0 p d) s) f:=by
 rw[cM,h,mS];rfl
def NZ{L:List aa}{g:aa->aa}{k:Nat}{l:aa}(h:L[k]? =some l):(((L.take k).map g).map eZ)++[eZ (g l)]=((L.take (k+1)).map g).map eZ:=by
 rw[cM,h];simp
theorem J6{m:Nat}(hm:3<=m):BQ (1:Rat) m:=BQ.mono (k:=3) ⟨by decide,by decide⟩ hm
theorem P'{E:List bg}(hE: ∀f∈E,FE f){p d:aa}{i j:Nat}[hp:aA p i][hd:aA d j]:aA (kO E p d) (3*i+7*j+9010):=by
 have key: ∀(E:List bg),(∀f∈E,FE f)-> ∀s,BQ s (2*i+6*j+9000)->BQ (E.foldl (j0 p d) s) (2*i+6*j+9000):=by
  intro E
  induction E with
  |nil=>intro _ s h;exact h
  |cons f E ih=>intro hE s h;exact ih (fun g hg=>hE g (aV _ hg)) _ (Ka (hE f aQ) h)
 haveI:=key E hE 1 (J6 (by omega));unfold kO;rw[<-xb];exact aA.mono (inferInstance:aA (p.add (d.scale (E.foldl (j0 p d) 1*mkRat 1 2))) _) (by omega)
def Qf{E:List bg}(hE: ∀f∈E,FE f)(hn:E.length<=100000){p:aa}{i:Nat}[hp:aA p i](hi:i<=20000:=by decide):PF GB prog 196 [.sl (E.map bP),eZ p] (.sl (((gk (jq E p)).map (kO E p)).map eZ)):=by
 have hml:(E.map bP).length=E.length:=aX ..;have hrl:=GX E p;obtain⟨W,hW⟩: ∃W,W=gk (jq E p):=⟨_,rfl⟩;have hWl:W.length<=(jq E p).length+1:=by rw[hW];exact J3 _
 have hWb: ∀d∈W,aA d 1001:=fun d hd=>by rw[hW] at hd;exact DR (Ay hE p) (by decide) d hd
 have hwm:(W.map eZ).length=W.length:=aX ..;rw[<-hW];refine fn func196 J J ntmps196 J J (fun C=>?_);refine cl J (OX hE hn (p:=p) (i:=i) (by omega)) J<|cl (fu:=⟨0⟩) J (N0 (ds:=jq E p) (i:=500) (Ay hE p) (by omega)) J<|?_;refine ak 16 (.d (.sl (W.map eZ))) J (by rw[hW]) ?_;refine gx (fu:=⟨1⟩) J<|?_;refine ak 17 (.d (vI (W.length:Nat))) J (by rw[hwm]<;>rfl) ?_;refine gx J<|?_;refine nr 5 5 141 6 J J J ?_;refine lp (X:=Nat) (fun k=>[(18, .d (vI (k:Nat))),(5, .rw 5)]) (fun k=>[(5,some (.b 141 6 (((W.take k).map (kO E p)).map eZ) true))]) (fun k=>k<=W.length) (fun k=>W.length-k) 0 J (bL _) (fun _=>J) (fun k hk=>?_);have hm3:(((W.take k).map (kO E p)).map eZ).length<=k:=by rw[aX,aX,bW];omega
 refine br J J J (fun hc19=>?_) (fun hc19=>?_)
 .
  obtain⟨d,hx⟩: ∃u,W[k]? =some u:=⟨_,aZ (by omega)⟩;haveI:=hWb d (aS hx);have hko:=hk;refine ix _ J (d9 hx) J<|cl (fu:=⟨0⟩) J (s9 (m:=1) (by decide)) J<|?_;refine ak 22 (.d (eF 1)) J J ?_;refine gx (fu:=⟨9⟩) J<|?_;refine ak 24 (.d (vI (E.length:Nat))) J (by rw[hml]<;>rfl) ?_;refine gx J<|?_;refine lp (X:=Nat×Rat) (fun⟨t,s⟩=>[(25, .d (vI (t:Nat))),(8, .ov 8 0)]) (fun⟨t,s⟩=>[(8,some (.o 139 [.d (vI (c7 s)), .d (vI (c8 s)), .d (cF s)] true))]) (fun⟨t,s⟩=>t<=E.length/\s=(E.take t).foldl (j0 p d) 1/\BQ s (2*i+6*1001+9000)) (fun⟨t,s⟩=>E.length-t) ⟨0,1⟩ J ⟨bL _,J,J6 (by omega)⟩ (fun _=>J) (fun⟨t,s⟩ hk=>?_)
  try dsimp only at hk⊢
  obtain⟨g1,g2,g3⟩:=hk;haveI:=g3;refine br J J J (fun hc26=>?_) (fun hc26=>?_)
  .
   obtain⟨f,hx2⟩: ∃u,E[t]? =some u:=⟨_,aZ (by omega)⟩;have hf:=hE f (aS hx2);haveI:=JT hf (p:=p) (d:=d) (i:=i) (j:=1001);refine ix _ J (d9 hx2) J<|cl J (A0 hf (p:=p) (i:=i) (by omega)) J<|?_;refine bb J J J (fun hc31=>?_) (fun hc31=>?_)
   .
    exact at_ ⟨t+1,s⟩ (by dsimp only;exact⟨⟨by omega,by rw[BB hx2,<-g2];unfold j0;rw[if_pos hc31],g3⟩,(by omega)⟩)
   .
    refine cl J (K9 hf (p:=p) (d:=d) (i:=i) (j:=1001) (by omega) (by decide)) J<|?_;refine bb J J J (fun hc39=>?_) (fun hc39=>?_)
    .
     refine cl J (KN (p:=s) (q:=(ir f p d).1) (i:=(2*i+6*1001+9000)) (j:=(2*i+6*1001+9000)) (by omega) (by omega)) J<|?_;exact at_ ⟨t+1,if(ir f p d).1<s then(ir f p d).1 else s⟩ (by dsimp only;exact⟨⟨by omega,by rw[BB hx2,<-g2];unfold j0;simp[show gv f p=false by simpa using hc31,hc39],by have h9:=Ka hf (p:=p) (d:=d) (i:=i) (j:=1001) g3;unfold j0 at h9;simpa[show gv f p=false by simpa using hc31,hc39] using h9⟩,(by omega)⟩)
    .
     exact at_ ⟨t+1,s⟩ (by dsimp only;exact⟨⟨by omega,by rw[BB hx2,<-g2];unfold j0;simp[show(ir f p d).2=false by simpa using hc39],g3⟩,(by omega)⟩)
  .
   obtain rfl:t=E.length:=by omega
   rw[dX] at g2;refine cl J (MB (q:=s) (i:=(2*i+6*1001+9000)) (by omega)) J<|cl J (tU (p:=d) (c:=s*mkRat 1 2) (i:=1001) (j:=(2*i+6*1001+9000)+2) (by decide) (by omega)) J<|?_;refine cl (fu:=⟨0⟩) J (wM (p:=p) (q:=d.scale (s*mkRat 1 2)) (i:=i) (j:=1001+((2*i+6*1001+9000)+2)) (by omega) (by omega)) J<|?_;refine ak 50 (.d (eZ (kO E p d))) J (by rw[xb,g2];rfl) ?_;refine gx J<|rf J J<|ap (hv:=by simp only[ab];exact⟨by kernel_rfl,by omega⟩) (((W.take (k+1)).map (kO E p)).map eZ) J (NZ hx) (oG [kO E p d]) J<|?_;refine iI 52 5 J ?_;exact at_ (k+1) ⟨(by omega),(by omega)⟩
 .
  obtain rfl:k=W.length:=by omega
  rw[dX];refine ki 5 J ?_;exact rz J J
def GN{W:List aa}{g:aa->Bool}{k:Nat}{d:aa}(h:W[k]? =some d):(W.take (k+1)).any g=((W.take k).any g||g d):=by
 rw[cM,h,List.any_append];simp
def Fa{W:List aa}{g:aa->Bool}{k:Nat}{d:aa}(h:W[k]? =some d):(W.take (k+1)).all g=((W.take k).all g&&g d):=by
 rw[cM,h,List.all_append];simp
def H7{E:List bg}(hE: ∀f∈E,FE f)(hn:E.length<=100000){p:aa}{i:Nat}[hp:aA p i](hi:i<=20000){f:FuncId}{c2:List Value}{ds2:List DV}(hc:IsLs GB ds2 c2){acc:aa->Bool}(hF: ∀q,aA q 80000->PF GB prog f (eZ q::ds2) (vB (acc q))):PF GB prog 109 [.sl (E.map bP),eZ p, .v (.func (.func f) ⟨[]⟩ ⟨c2⟩)] (vI (uL E p acc)):=by
 obtain⟨W,hW⟩: ∃W,W=(gk (jq E p)).map (kO E p):=⟨_,rfl⟩;have hwm:(W.map eZ).length=W.length:=aX ..;have hrl:=GX E p;have hsl:=J3 (jq E p);have hWl:W.length=(gk (jq E p)).length:=by rw[hW,aX]
 have hWb: ∀q∈W,aA q 80000:=fun q hq=>by
  rw[hW] at hq;obtain⟨d,hd,rfl⟩:=bT.1 hq;haveI:=DR (Ay hE p) (by decide) d hd;exact(P' hE (p:=p) (d:=d) (i:=i) (j:=1001)).mono (by omega)
 have hcl:uL E p acc=if(W.any acc&&W.all acc) then 2 else if W.any acc then 1 else 0:=by
  unfold uL;rw[hW,List.any_map,List.all_map];rfl
 refine fn func109 J J ntmps109 J J (fun C=>?_);refine cl (fu:=⟨0⟩) J (Qf hE hn (p:=p) (i:=i) hi) J<|?_;refine ak 13 (.d (.sl (W.map eZ))) J (by rw[hW]) ?_;refine gx (fu:=⟨1⟩) J<|?_;refine ak 14 (.d (vI (W.length:Nat))) J (by rw[hwm]<;>rfl) ?_;refine gx J<|?_;refine zn 7 _ J J ?_;refine zn 8 _ J J ?_;refine lp (X:=Nat) (fun k=>[(15, .d (vI (k:Nat))),(7, .d (vB ((W.take k).any acc))),(8, .d (vB ((W.take k).all acc)))]) (fun k=>[]) (fun k=>k<=W.length) (fun k=>W.length-k) 0 J (bL _) (fun _=>J) (fun k hk=>?_);refine br J J J (fun hc16=>?_) (fun hc16=>?_)
 .
  obtain⟨q,hx⟩: ∃u,W[k]? =some u:=⟨_,aZ (by omega)⟩;haveI:=hWb q (aS hx);refine ix (fu:=⟨9⟩) _ J (d9 hx) J<|oc (ds1:=[]) (ds2:=ds2) J (cb.2 J) hc (hF q (hWb q (aS hx))) J<|?_;refine bb J J J (fun hc21=>?_) (fun hc21=>?_)
  .
   refine q8 7 _ J J ?_;refine ak 7 (.d (vB ((W.take (k+1)).any acc))) J (by rw[GN hx,hc21,Bool.or_true]<;>rfl) ?_;refine ak 8 (.d (vB ((W.take (k+1)).all acc))) J (by rw[Fa hx,hc21,Bool.and_true]<;>rfl) ?_;exact at_ (k+1) ⟨(by omega),(by omega)⟩
  .
   refine q8 8 _ J J ?_;refine ak 7 (.d (vB ((W.take (k+1)).any acc))) J (by rw[GN hx,hc21,Bool.or_false]<;>rfl) ?_;refine ak 8 (.d (vB ((W.take (k+1)).all acc))) J (by rw[Fa hx,hc21,Bool.and_false]<;>rfl) ?_;exact at_ (k+1) ⟨(by omega),(by omega)⟩
 .
  obtain rfl:k=W.length:=by omega
  rw[dX];refine cl J (SJ (b:=W.any acc) (c:=W.all acc)) J<|?_;exact rz J (by rw[hcl];rfl)
def GG{C:az}{n:Nat}{Q0:Exit->Act->World->Prop}{fr:ao}{own:aB}{ops:Array Oper}{r:List Oper}{K:List Kt}(k:Nat){d:DV}{pv:Value}(hl:aD fr k=some (.d (.v pv)))(hp:Is GB d pv)(h:aj prog GB C n Q0 ((k, .d d)::fr) own (.ops ops r K)):aj prog GB C n Q0 fr own (.ops ops r K):=by
 refine⟨fun ρ G ov a w r0=>?_⟩;obtain⟨y,hy,hy'⟩:=r0.fx k _ hl;obtain rfl:=(ba (G:=G)).1 hy';refine h.run ρ G ov a w ⟨r0.gb,r0.h,r0.sz,r0.df,fun j f e=>?_,r0.bx,r0.dj,r0.fxd⟩;rw[fH] at e;split at e
 ·rename_i hj
  cases e;subst hj
  exact⟨y,hy,hp.up r0.gb⟩
 ·exact r0.fx j f e
def EJ{E:List bg}(hE: ∀f∈E,FE f)(hn:E.length<=100000){fill:Int}{q:aa}{i:Nat}[hq:aA q i](hi:i<=80000):PF GB prog 108 [eZ q, .pt [vI fill], .pt [.sl (E.map bP)]] (vB (mz fill (ef E q))):=by
 refine fn (fu:=⟨3⟩) func108 J J ntmps108 J J (fun C=>?_);refine rm 1 J<|rm 2 J<|gx J<|cl J (F8 hE (by omega) (p:=q) (i:=i) (by omega)) J<|cl J (KW (fill:=fill) (n:=ef E q)) J<|?_;exact rz J J
def PG{rs:List (List ZP)}(h: ∀r∈rs,eH r)(hn:rs.length<=200){fill:Int}(hfill:fill=1\/fill=2){p:aa}{i:Nat}[hp:aA p i](hi:i<=20000):PF GB prog 37 [.sl (rs.map fG),vI fill,gm p] (.tp [vI (uL (c6 rs) p fun q=>mz fill (ef (c6 rs) q)), .v .nilIface]):=by
 have hel:=Bc h hn;have hfe:=A8 fun r hr=>(h r hr).ok;refine fn func37 J J ntmps37 J J (fun C=>?_);refine cl (fu:=⟨13⟩) J (AJ h hn) J<|ky J J J<|?_;refine cs (fu2:=⟨12⟩) 23 J J J (fun hg23=>?_) (fun hg23=>?_)
 .
  refine br (fu2:=⟨5⟩) J J J (fun hc20=>?_) (fun hc20=>?_)
  .
   exact absurd hfill (by omega)
  .
   refine fz 4 J J<|fz 8 J J ?_;refine sk 4 J (fun GB1 pv1 hg1 hp1=>?_);refine sk 8 J (fun GB2 pv2 hg2 hp2=>?_);refine HU (fu:=⟨0⟩) J J ?_;refine GG 8 J hp2<|rm 8 J<|gx J ?_;refine cl J (ul (p:=p) (i:=i) (by omega)) J ?_;refine cl J (H7 hfe (by omega) (p:=p) (i:=i) (by omega) (f:=108) (c2:=[pv1,pv2]) (ds2:=[.pt [vI fill], .pt [.sl ((c6 rs).map bP)]]) (.cons (hp1.up hg2) (.cons hp2 (cb.2 J))) (acc:=fun q=>mz fill (ef (c6 rs) q)) (fun q hq=>EJ hfe (by omega) (by decide))) J ?_;exact rz J J
 .
  refine fz 4 J J<|fz 8 J J ?_;refine sk 4 J (fun GB1 pv1 hg1 hp1=>?_);refine sk 8 J (fun GB2 pv2 hg2 hp2=>?_);refine HU (fu:=⟨0⟩) J J ?_;refine GG 8 J hp2<|rm 8 J<|gx J ?_;refine cl J (ul (p:=p) (i:=i) (by omega)) J ?_;refine cl J (H7 hfe (by omega) (p:=p) (i:=i) (by omega) (f:=108) (c2:=[pv1,pv2]) (ds2:=[.pt [vI fill], .pt [.sl ((c6 rs).map bP)]]) (.cons (hp1.up hg2) (.cons hp2 (cb.2 J))) (acc:=fun q=>mz fill (ef (c6 rs) q)) (fun q hq=>EJ hfe (by omega) (by decide))) J ?_;exact rz J J
def pk:List ZP:=mI 0 0 2 2
def CZ: ∀r∈[pk],eH r:=fun r hr=>by
 rw[aL.1 hr];exact⟨IL (by decide) (by decide) (by decide) (by decide) (by decide) (by decide),by decide+kernel⟩
def Qj:kI [pk] (iP 1 1)=false:=by decide+kernel
def R9:ef (c6 [pk]) (iP 1 1)=1:=by decide+kernel
def LX:uL (c6 [pk]) (iP 1 0) (fun q=>mz 2 (ef (c6 [pk]) q))=1:=by decide+kernel
theorem Rh: ∀p∈[iP 0 0,iP 2 0,iP 2 2,iP 0 2],aA p 1200:=fun p hp=>by
 simp only[bZ,jS,or_false] at hp;rcases hp with rfl|rfl|rfl|rfl<;>exact⟨BQ.int1200 (by decide),BQ.int1200 (by decide)⟩
def JA:PF GB prog 38 [] (.v (.bool true)):=by
 haveI:aA (iP 1 1) 22:=⟨fm (by decide),fm (by decide)⟩;haveI:aA (iP 1 0) 22:=⟨fm (by decide),fm (by decide)⟩;refine fn func38 J J ntmps38 J J (fun C=>?_);refine cl J (i5 (m:=0) (n:=0) (by decide) (by decide)) J<|cl J (i5 (m:=2) (n:=0) (by decide) (by decide)) J<|cl J (i5 (m:=2) (n:=2) (by decide) (by decide)) J<|?_;refine cl J (i5 (m:=0) (n:=2) (by decide) (by decide)) J<|rf (fu:=⟨0⟩) J J<|?_;refine ak 10 (.d (.sl ([iP 0 0,iP 2 0,iP 2 2,iP 0 2].map eP))) J J ?_;refine gx J<|cl J (En (ps:=[iP 0 0,iP 2 0,iP 2 2,iP 0 2]) Rh (by decide)) J<|rf (fu:=⟨0⟩) J J<|?_;refine ak 12 (.d (.sl ([pk].map fG))) J J ?_;refine gx J<|cl J (Ie (m:=1) (n:=1) (by decide) (by decide)) J<|cl (fu:=⟨0⟩) J (xo (rs:=[pk]) CZ (by decide) (p:=iP 1 1) (i:=22) Qj (by decide)) J<|?_;refine ak 16 (.d (.tp [vI 1, .v .nilIface])) J (by rw[R9]) ?_;refine gx J<|cl J (Ie (m:=1) (n:=0) (by decide) (by decide)) J<|cl (fu:=⟨0⟩) J (PG (rs:=[pk]) CZ (by decide) (fill:=2) (.inr J) (p:=iP 1 0) (i:=22) (by decide)) J<|?_;refine ak 22 (.d (.tp [vI 1, .v .nilIface])) J (by rw[LX]) ?_;refine gx (fu:=⟨10⟩) J<|mB (fu:=⟨2⟩) J J J<|mB (fu:=⟨3⟩) J J J<|mB (fu:=⟨3⟩) J J J<|mB J J J<|?_;exact rz J J
structure We (r:List ZP):Prop where
 ok:dB r
 cen: ∃c:aa,∀f∈kH r,0<ek f.1 f.2 c
 one: ∀p,(∀f∈kH r,0<ek f.1 f.2 p)->fI r p=1
 zer: ∀p,(∃f∈kH r,ek f.1 f.2 p<0)->fI r p=0
 cvx: ∀f∈kH r,∀g∈kH r,0<=ek f.1 f.2 g.1/\0<=ek f.1 f.2 g.2
 onE: ∀p,(∀f∈kH r,0<=ek f.1 f.2 p)-> ∀f∈kH r,ek f.1 f.2 p=0->nF f.1 f.2 p
def GV(r:List ZP):ER [r]=kH r:=by unfold ER;simp
section
variable {r:List ZP} {p:aa}
end
def wS(x y O:Rat):Int:=(if x<=0/\ ¬y<=0/\0<O then 1 else 0)-(if¬x<=0/\y<=0/\O<0 then 1 else 0)
def Nl(r:List ZP)(p:aa):Nat->Bool
 |0=>true
 |k+1=>Nl r p k&&decide (0<=o4 (r.getD k (0,0)).q (d4 r k).q p)
def SZ(r:List ZP)(p:aa):Nat->Bool
 |0=>false
 |k+1=>SZ r p k||decide (o4 (r.getD k (0,0)).q (d4 r k).q p=0)
def CH{rs:List (List ZP)}(hr: ∀r∈rs,dB r)(p:aa):kI rs p=true↔ ∃f∈ER rs,nF f.1 f.2 p:=by
 unfold kI;rw[lN];constructor
 ·rintro ⟨f,hf,h⟩
  obtain⟨v,w,h1,h2,rfl,h4⟩:=Lz hr hf;exact⟨_,h4,(Fv h1 h2).1 h⟩
 ·rintro ⟨f,hf,h⟩
  obtain⟨v,w,h1,h2,h3,rfl⟩:=Rs hr hf;exact⟨_,h3,(Fv h1 h2).2 h⟩
def Pj{a:aa}{t:List aa}:i6 (a::t) a=((0:Nat):Int):=wQ (k:=0) (q:=a) J J ⟨J,J⟩
def Oy{a b c:aa}{t:List aa}(h1:a≠b)(h2:a≠c)(h3:b≠c):3<=cB (a::b::c::t) (a::b::c::t).length:=by
 have ne: ∀{x y:aa},x≠y->(!decide (x.x=y.x/\x.y=y.y))=true:=fun{x y} h=>by
  rw[decide_eq_false (fun k=>h (by cases x;cases y;simp only[aa.mk.injEq] at*;exact k))];rfl
 have e0:=wz (l:=a::b::c::t) (k:=0) (p:=a) J Pj;have e1:=wz (l:=a::b::c::t) (k:=1) (p:=b) J (wQ (k:=1) (q:=b) J (by simp only[List.take,List.all_cons,List.all_nil,Bool.and_true,ne h1]) ⟨J,J⟩);have e2:=wz (l:=a::b::c::t) (k:=2) (p:=c) J (wQ (k:=2) (q:=c) J (by simp only[List.take,List.all_cons,List.all_nil,Bool.and_true,ne h2,ne h3]) ⟨J,J⟩);have mono: ∀n m,n<=m->cB (a::b::c::t) n<=cB (a::b::c::t) m:=by
  intro n m h
  induction m with
  |zero=>rw[show n=0 by omega];exact aR _
  |succ m ih=>
   by_cases k:n=m+1
   ·rw[k];exact aR _
   ·exact fX (ih (by omega)) Im
 have:=mono 3 (a::b::c::t).length (by simp);have z:cB (a::b::c::t) 0=0:=J;rw[dV] at e0;rw[show 1+1=2 from J] at e1;rw[show 2+1=3 from J] at e2;omega
def Bn{a b c:ZP}{t:List ZP}(ho:dB (a::b::c::t))(h1:a≠b)(h2:a≠c)(h3:b≠c):eH (a::b::c::t):=
 ⟨ho,Oy (t:=t.map ZP.q) (fun e=>h1 (tF e)) (fun e=>h2 (tF e)) (fun e=>h3 (tF e))⟩
def NF{a b c d:Int}(ho:dB (mI a b c d))(h1:a<c)(h2:b<d):eH (mI a b c d):=
 Bn ho (fun e=>by have:=congrArg Prod.fst e;dsimp only at this;omega) (fun e=>by have:=congrArg Prod.fst e;dsimp only at this;omega) (fun e=>by have:=congrArg Prod.snd e;dsimp only at this;omega)
def Tf{p u v:ZP}(ho:dB (mH p u v))(h:mj u v≠0):eH (mH p u v):=by
 have hu: ∀{a b:ZP},(a=(0,0)\/b=(0,0)\/a=b)->mj a b=0:=fun{a b} k=>by
  unfold mj;rcases k with rfl|rfl|rfl
  ·simp
  ·simp
  ·rw[Int.mul_comm];omega
 refine Bn ho (fun e=>h (hu (.inl ?_))) (fun e=>h (hu (.inr (.inl ?_)))) (fun e=>h (hu (.inr (.inr ?_))))
 ·have e1:=congrArg Prod.fst e
  have e2:=congrArg Prod.snd e;unfold qy at e1 e2;dsimp only at e1 e2;exact Prod.ext (by dsimp only;omega) (by dsimp only;omega)
 ·have e1:=congrArg Prod.fst e
  have e2:=congrArg Prod.snd e;unfold qy at e1 e2;dsimp only at e1 e2;exact Prod.ext (by dsimp only;omega) (by dsimp only;omega)
 ·have e1:=congrArg Prod.fst e
  have e2:=congrArg Prod.snd e;unfold qy at e1 e2;dsimp only at e1 e2;exact Prod.ext (by omega) (by omega)
def CP(n:Int)(d:Nat):Int:=n*zv false d
def Rx(n:Int)(d:Nat):(CP n d).natAbs=n.natAbs*d:=by unfold CP;rw[fN,ll]
instance BN.prx (n:Int) (d i j:Nat) [h:BI n i] [k:BN d j]:BN (CP n d).natAbs (i+j):=⟨by rw[Rx,dK];exact kS h.h k.h⟩
end Go.Sx
end
