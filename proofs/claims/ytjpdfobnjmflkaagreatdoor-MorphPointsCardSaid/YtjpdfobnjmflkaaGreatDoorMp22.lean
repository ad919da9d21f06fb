import Derived.Test.YtjpdfobnjmflkaaGreatDoorMp21
import Derived.Test.YtjpdfobnjmflkaaGreatDoorCards
import Derived.Test.YtjpdfobnjmflkaaGreatDoorTie
import Derived.WalkKit
import Derived.ProofKit
import Derived.OpenShut
import Derived.Deep.DeepHandedRow
import Derived.Deep.DeepWitnessRowRef
import Derived.LaidMore
import Derived.Lib.LaidTab
import Derived.SizedLaws
import Derived.Stop.LaidErr
import Derived.MakeChecks
set_option linter.all false
set_option maxHeartbeats 2000000
set_option maxRecDepth 100000
section
namespace Go.Sx
open Go Go.Proofs Tryz
variable {GB:Gh}{m:Rat}{k a n kb e k0 b a':Nat}{V:List aa}{c:ar}{q p v:aa}{r:List ZP}{t u:Tr}{ai al ae:Addr}{es es0:List Int}
theorem zI{m:Int}(h:m.natAbs<2^k)(hk:0<k:=by decide):BQ (m:Rat) k:=⟨by rw[oK];exact h,by rw[oV];exact dJ (show 1<2^1 by decide) (bL (by decide) hk)⟩
theorem yQ(h: ∀v∈V,ZB v): ∀v∈V,aE v 4:=fun v hv=>by
 obtain⟨m,n,rfl,h1,h2⟩:=h v hv;exact⟨zI (by omega),zI (by omega)⟩
theorem xE{l:ah}(hk:BL l k)(h62:k+5<=62)(hV:V≠[])(hz: ∀v∈V,ZB v):BQ (l.a:Rat) 62/\BQ (l.b:Rat) 62/\BQ ((l.c:Rat)-jO l.nor V) 62:=by
 obtain⟨v,hv,e⟩:=(qd (n:=l.nor) hV).2;obtain⟨m,n,rfl,h1,h2⟩:=hz v hv;have e2:(l.c:Rat)-jO l.nor V=((l.c-(l.a*m+l.b*n):Int):Rat):=by
  rw[e];unfold aa.dot ah.nor iP;rw[gL,lU,cX,cX]
 have b1:=iF (gW hk.a) h1;have b2:=iF (gW hk.b) h2;have ka:=hk.a;have kb:=hk.b;have kc:=hk.c;have hp:2^k*32<=2^62:=by
  rw[show 2^k*32=2^(k+5) by rw[fY]];exact bL (by decide) h62
 rw[e2];generalize 2^k=w at*;refine⟨zI (by omega),zI (by omega),zI (by omega)⟩
def yP(hc:bC c)(hk: ∀s∈c,BL s.l k)(hq:q∈xZ (c.map fun s=>s.l)):QD (2*k+1) q:=by
 unfold xZ at hq;split at hq
 .obtain⟨l,hl,rfl⟩:=aU.1 hq
  obtain⟨s,hs,rfl⟩:=aU.1 hl;exact So (hk s hs) (hc.ok s hs)
 .obtain⟨l,hl,m,hm,hx,rfl⟩:=TN hq
  obtain⟨s,hs,rfl⟩:=aU.1 hl;obtain⟨u,hu,rfl⟩:=aU.1 hm;exact QY (hk s hs) (hk u hu) hx
theorem xJ{a:Rat}{D:Nat}{z:Int}(hD:0<D)(h:a*((D:Int):Rat)=(z:Rat))(h1:z.natAbs<2^k)(h2:D<2^k):BQ a k:=by
 have e:=J3 hD h;have d1:a.den∣D:=by
  have e2:a.num.natAbs*D=z.natAbs*a.den:=by
   have:=congrArg Int.natAbs e;rwa [fR,fR,fL,fL] at this
  exact a.reduced.symm.dvd_of_dvd_mul_left ⟨z.natAbs,by rw[e2,cJ]⟩
 obtain⟨m,hm⟩:=d1;have hden:=Nat.le_of_dvd hD ⟨m,hm⟩;have hm0:0<m:=iS fun k=>by rw[k] at hm;omega
 have e2:a.num*(m:Int)=z:=by
  rw[hm] at e;have hdn:(a.den:Int)≠0:=by have:=a.den_pos;omega
  refine Int.eq_of_mul_eq_mul_right hdn ?_;rw[<-e];push_cast;rw[Int.mul_assoc,sQ (m:Int)]
 refine⟨fU ?_ h1,fU hden h2⟩;rw[<-e2,fR,fL];exact mN _ hm0
theorem xI(hc:bC c)(ha:gq c)(hk: ∀s∈c,BL s.l k)(h62:2*k+10<=62){f:aa×aa}(hn: ¬((bE f).x=0/\(bE f).y=0))(h1:ZB f.1)(h2:ZB f.2)(hf:iq c (bE f)=some m):BQ (bE f).x 62/\BQ (bE f).y 62/\BQ (-(m+(bE f).dot f.1)) 62:=by
 obtain⟨e1,e2⟩:=RY hc ha hn hf;obtain⟨q,hq,e3⟩:=(qd (n:=bE f) e2).2;rw[e1] at e3;obtain⟨D,X,Y,hD0,hD,hX,hY,x1,y1⟩:=yP hc hk hq;obtain⟨m1,n1,p1,a1,a2⟩:=h1;obtain⟨m2,n2,p2,a3,a4⟩:=h2;have nx:(bE f).x=((n1-n2:Int):Rat):=by unfold bE;rw[p1,p2];unfold iP;rw[gL];grind
 have ny:(bE f).y=((m2-m1:Int):Rat):=by unfold bE;rw[p1,p2];unfold iP;rw[gL]
 generalize hA:n1-n2=A at nx;generalize hB:m2-m1=B at ny;have key: -(m+(bE f).dot f.1)*((D:Int):Rat)=((-(A*X+B*Y+(A*m1+B*n1)*D):Int):Rat):=by
  rw[e3,p1];unfold aa.dot iP;dsimp only;rw[nx,ny];simp only[cX,iL,lU];rw[<-x1,<-y1];grind
 have hA16:A.natAbs<=16:=by omega
 have hB16:B.natAbs<=16:=by omega
 have b0:(D:Int).natAbs<=2^(2*k+1):=hD;have b3:=iF hA16 hX;have b4:=iF hB16 hY;have b5:(A*m1+B*n1).natAbs<=256:=by
  have:=iF hA16 a1;have:=iF hB16 a2;omega
 have b6:=iF b5 b0;have e8:2^(2*k+10)=2^(2*k+1)*512:=by rw[show 2*k+10=2*k+1+9 by omega,fY]
 have e9:2^(2*k+1)*512<=2^62:=by
  rw[<-e8];exact bL (by decide) h62
 have w0:0<2^(2*k+1):=gK (by decide);rw[nx,ny];refine⟨zI (by omega),zI (by omega),xJ hD0 key ?_ ?_⟩
 .generalize 2^(2*k+1)=w at*;omega
 .generalize 2^(2*k+1)=w at*;omega
theorem zQ(h:fe r): ∀u∈r.map ZP.q,aE u 8:=fun u hu=>by
 obtain⟨p,hp,rfl⟩:=aU.1 hu;obtain⟨h1,h2⟩:=h.le p hp;exact⟨zI (by omega),zI (by omega)⟩
def yN(h:tg r)(hc:lC (r.map ZP.q)=true):PF GB prog 59 [mm r] (.tp [.sl ((r.map ZP.q).map eZ), .v .nilIface]):=by
 have hn:=h.ok.n6;have hl:(r.map ZP.q).length=r.length:=aX ..;refine fn func59 J J ntmps59 J J (fun C=>?_);refine cl (fu:=⟨12⟩) J (Wu h.ok h.c3) J<|cg J J J<|cl (fu:=⟨0⟩) J (aC7 (v:=r.map ZP.q) (i:=8) (zQ h.ok) (by decide) (by omega)) J<|aj 17 (.d (.v (.bool true))) J (by rw[hc]<;>rfl)<|ll 17 J<|gx J<|rz J J
def zA(c:ar)(V:List aa)(k:Nat):List ah:=(c.map fun s=>km s.l V)++((cH V).take k).filterMap (l7 c)
def yK(c:ar)(V:List aa):zA c V 0=c.map fun s=>km s.l V:=by unfold zA;simp
def zG(c:ar)(V:List aa):zA c V (cH V).length=jp c V (cH V):=by unfold zA jp;rw[dQ]
def zF(c:ar)(V:List aa)(k:Nat):(zA c V k).length<=c.length+V.length:=by
 unfold zA;rw[aY,aX];have h1:=mR (l7 c) ((cH V).take k);have h2:((cH V).take k).length<=V.length:=by rw[bR];unfold cH;rw[aX,lW];omega
 omega
def zT{f:aa×aa}(h:(cH V)[k]? =some f)(hf:iq c (bE f)=some m):(zA c V k).map c8++[c8 (eo (bE f).x (bE f).y (-(m+(bE f).dot f.1)))]=(zA c V (k+1)).map c8:=by
 unfold zA;rw[dR,h];simp only[pL,List.filterMap_append,rQ,List.filterMap_nil];rw[show l7 c f=some (eo (bE f).x (bE f).y (-(m+(bE f).dot f.1))) by unfold l7;rw[hf];rfl];simp
def zU{f:aa×aa}(h:(cH V)[k]? =some f)(hf:iq c (bE f)=none):zA c V k=zA c V (k+1):=by
 unfold zA;rw[dR,h];simp only[pL,List.filterMap_append,rQ,List.filterMap_nil];rw[show l7 c f=none by unfold l7;rw[hf];rfl];simp
def zZ{s:bu}(h:c[k]? =some s):((c.take k).map fun s=>km s.l V).map c8++[c8 (km s.l V)]=((c.take (k+1)).map fun s=>km s.l V).map c8:=by
 rw[dR,h,bX,bX];rfl
def yD(l:List ah):c9 9 (l.map c8):=fun d hd=>by
 obtain⟨x,_,rfl⟩:=aU.1 hd;exact⟨J,J⟩
def yM(h1:V[k]? =some p)(h2:V[(k+1)%V.length]? =some q):(cH V)[k]? =some (p,q):=by
 have hk:=(aS.1 h1).1;unfold cH;rw[cV,pQ hk];show some (V.getD k ⟨0,0⟩,V.getD ((k+1)%V.length) ⟨0,0⟩)=_;rw[aW,aW,h1,h2];rfl
theorem xG(hc:eE c){n:aa}[hn:aE n 9](h:iq c n=some m):BQ m 7019:=by
 unfold iq at h;split at h
 .cases h
 .rename_i h0
  split at h
  .cases h
  .cases h
   have hne:c≠[]:=fun e=>h0 (by rw[e];rfl);exact T4 (n:=n) (i:=9) (Qy hc) (RU hne)
theorem xP[hp:aE p 4][hq:aE q 4]:aE (bE (p,q)) 9:=by
 have h:=D7 q p (i:=4) (j:=4);exact⟨inferInstanceAs (BQ (-(q.y-p.y)) 9),inferInstanceAs (BQ (q.x-p.x) 9)⟩
def yZ{d:ar}(hV:jz V)(hc:eE c)(hg:bC c)(ha:gq c)(hk: ∀s∈c,BL s.l kb)(h62:2*kb+10<=62)(hn:c.length<=900)(hd:jm (jp c V (cH V)) []=some d):PF GB prog 61 [eC c, .sl (V.map eZ)] (eC d):=by
 have hVb:=yQ hV.zb;have hV4:=hV.le;have hml:(c.map de).length=c.length:=aX ..;have hpl:(cH V).length=V.length:=by unfold cH;rw[aX,lW]
 have hrl:(nD V).length=(cH V).length:=by unfold nD;rw[aX,lW,hpl]
 refine Jh func61 J J ntmps61 J J (fun C h0=>?_);refine Lb 5 0 50 213 9 J J J J J<|lp (X:=Nat) (fun k=>[(22, .d (vI (k:Nat))),(5, .ov 5 0)]) (fun k=>[(5,some (.o 119 [.rw 50] true)),(50,some (.b 213 9 (((c.take k).map fun s=>km s.l V).map c8) true))]) (fun k=>k<=c.length) (fun k=>c.length-k) 0 J (bV _) (fun _=>J) (fun k hkc=>?_);have hm3:(((c.take k).map fun s=>km s.l V).map c8).length<=k:=by rw[aX,aX,bR];omega
 refine br J J J (fun hc23=>?_) (fun hc23=>?_)
 .obtain⟨s,hx⟩: ∃u,c[k]? =some u:=⟨_,aZ (by omega)⟩
  have hsm:=aV hx;haveI:=(hc s hsm).lb;obtain⟨q1,q2,q3⟩:=xE (hk s hsm) (by omega) hV.br.vne hV.zb;haveI hl0:=T4 (n:=s.l.nor) (i:=97) hVb hV.br.vne;have hne:=Ey (hg.ok s hsm);refine ix _ J (cD hx) J<|cl J (vd (l:=s.l)) J<|cl J (Pk (n:=s.l.nor) (l:=V) (i:=97) (j:=4) hVb hV.br.vne (by decide) (by decide) (by omega)) J<|cl J (qC (p:=(s.l.c:Rat)) (q:=jO s.l.nor V) (i:=97) (j:=97+4+(97+4)+1)) J<|cl J (Sb (a:=(s.l.a:Rat)) (b:=(s.l.b:Rat)) (c:=(s.l.c:Rat)-jO s.l.nor V) hne) J<|rf J J<|ap (((c.take (k+1)).map fun s=>km s.l V).map c8) J (zZ hx) (yD [_]) J<|fw 47 50 J<|at_ (k+1) ⟨(by omega),(by omega)⟩
 .obtain rfl:k=c.length:=by omega
  rw[dQ,<-yK c V];refine JH J J J IA (fun _=>J) (fun GB1 pv hg1 hpv=>?_);refine xW 2 2000002 h0.fx J<|xW 5 2000005 h0.fx J ?_;refine JQ (σ:=Empty) (fun k=>[(2000002,some (.o 127 [.d (eC c)] true)),(2000005,some (.o 119 [.rw 50] true)),(50,some (.b 213 9 ((zA c V k).map c8) true))]) (fun _=>True) (fun _=>[]) (fun _=>False) [(2, .ov 2000002 0),(5, .ov 2000005 0)]
   h0 J (Kg) (.cons hpv .nil) ⟨J,J,trivial⟩ J ⟨J,J,J,trivial⟩ trivial Hg J J (fun k e GB' hE hg2 hp=>?_) (fun D hD hx hp=>?_) (fun D s hD hx hq=>hq.elim)
  .obtain⟨q1,q2,hpx,hqx,rfl⟩:=HP hE
   haveI:=hVb q1 (aV hpx);haveI:=hVb q2 (aV hqx);have z1:=hV.zb q1 (aV hpx);have z2:=hV.zb q2 (aV hqx);have hpr:=yM hpx hqx;have hnz:=hV.br.nz (aV hpr);haveI hn9:aE (bE (q1,q2)) 9:=xP;refine⟨?_,?_,fun C2=>?_,fun C2=>?_⟩
   rotate_left 2
   .refine gx J<|Hu J J J ⟨J,J,J⟩ J ?_
    exact atR
   .skip
    refine gx J<|ow 1 (e:=160) (len:=2) (s:=6) J (by kernel_rfl) (by kernel_rfl) (by decide) J<|ow 0 (e:=160) (len:=2) (s:=6) J (by kernel_rfl) (by kernel_rfl) (by decide) J<|cl J (HU (p:=q2) (q:=q1) (i:=4) (j:=4)) J<|cl (fu:=⟨0⟩) J (TQ (p:=⟨q2.x-q1.x,q2.y-q1.y⟩) (i:=9) (h:=D7 q2 q1)) J<|aj 58 (.d (eZ (bE (q1,q2)))) J J<|gx J<|?_;rcases hf:iq c (bE (q1,q2)) with _|m
    .
     rw[zU hpr hf];refine cl (fu:=⟨3⟩) J (X8 (c:=c) (n:=bE (q1,q2)) (j:=9) hc (by decide) (by omega) hf) J<|pg 64 J<|gx J<|?_;exact rq trivial ⟨J,J,J,trivial⟩
    .
     obtain⟨u1,u2,u3⟩:=xI hg ha hk h62 hnz z1 z2 hf;haveI:BQ m 7019:=xG hc hf;have hm4:=zF c V k;have hm5:((zA c V k).map c8).length<=c.length+V.length:=by rw[aX];exact hm4
     refine cl (fu:=⟨3⟩) J (XK (c:=c) (n:=bE (q1,q2)) (j:=9) hc (by decide) (by omega) hf) J<|ll 64 J<|gx J<|ow 0 (e:=160) (len:=2) (s:=6) J (by kernel_rfl) (by kernel_rfl) (by decide) J<|cl J (ux (p:=bE (q1,q2)) (q:=q1) (i:=9) (j:=4)) J<|cl J (rI (p:=m) (q:=(bE (q1,q2)).dot q1) (i:=7019) (j:=27)) J<|cl J (pA (q:=m+(bE (q1,q2)).dot q1) (i:=7047)) J<|cl J (Sb (a:=(bE (q1,q2)).x) (b:=(bE (q1,q2)).y) (c:= -(m+(bE (q1,q2)).dot q1)) hnz) J<|rf J J<|ap ((zA c V (k+1)).map c8) J (zT hpr hf) (yD [_]) J<|fw 84 50 J ?_;exact rq trivial ⟨J,J,J,trivial⟩
  .rw[hrl,zG]
   refine gx J<|fz 50 J J<|cl J (Xd (ls:=jp c V (cH V)) (fun l hl=>⟨(Gz hV.br hV.zb hg ha hk l hl).mono (by omega)⟩) (Gq hV.br hg) (by have:=zF c V (cH V).length;rw[zG] at this;omega) hd) J<|?_;exact FK hD hx J J
def yH(hV:jz V)(ho:t.all ah.ok)(hrk:(t.restrict []).all fun l=>BL l kb)(hrb:(t.restrict []).all LB)(h62:2*kb+10<=62)(hd:t.depth<=800)(hu:u∈(eH (t.restrict [])).map (fk V (cH V))):u.gd/\u.size<=65536:=by
 obtain⟨c,hc,rfl⟩:=aU.1 hu;obtain⟨g1,g2⟩:=xf ho c hc;have hbk:=xV (P:=fun l=>BL l kb) (fun l h=>h.rev) hrk (fun s hs=>by cases hs) (tc.1 hc);have h1:=Gz hV.br hV.zb g1 g2 hbk;refine⟨⟨Gp fun l hl=>⟨(h1 l hl).mono (by omega)⟩,AX hV.br g1 g2⟩,?_⟩;unfold fk;rw[PG];have h2:=Bu (jp c V (cH V));have h3:=zF c V (cH V).length;rw[zG] at h3;have h4:=I2 hrb (t.restrict_all ah.ok [] ho) c hc;have:=t.restrict_depth [];have:=hV.le;omega
def yG{cs:List ar}(h:cs[k]? =some c):((cs.take k).map (fk V (cH V))).map eU++[eU (fk V (cH V) c)]=((cs.take (k+1)).map (fk V (cH V))).map eU:=by
 rw[dR,h,bX,bX];rfl
def yS(hE:EG GB ai al ae)(hV:jz V)(hb:t.all LB)(ho:t.all ah.ok)(hk:t.all fun l=>BL l kb)(h62:2*kb+10<=62)(hd:t.depth<=800)(hs:t.size<=60000)(hq:oH 1 (Tr.leaf false) ((eH (t.restrict [])).map (fk V (cH V)))=some u):PF GB prog 41 [eU t, .sl (V.map eZ)] (.tp [eU u, .v .nilIface]):=by
 obtain⟨cs,hcs⟩: ∃cs,cs=eH (t.restrict []):=⟨_,rfl⟩;rw[<-hcs] at hq;have hrs:=t.restrict_size [];have hrd:=t.restrict_depth [];have hrb:=t.restrict_all LB [] hb;have hro:=t.restrict_all ah.ok [] ho;have hrk:=t.restrict_all _ [] hk;have hcl:cs.length<=60001:=by rw[hcs];exact cS (Sc _) (by omega)
 have hml:(cs.map eC).length=cs.length:=aX ..;refine fn func41 J J ntmps41 J J (fun C=>?_);refine cl (fu:=⟨0⟩) J (Ap (t:=t) (by omega)) J<|cg J (by show some (decide _)=some false;rw[decide_eq_false (by omega)]) J<|cl J (Qx (t:=t) hb ho) J<|cl (fu:=⟨0⟩) J (Vv (t:=t.restrict []) hrb hro (by omega) (by omega)) J<|aj 16 (.d (.sl (cs.map eC))) J (by rw[hcs])<|gx (fu:=⟨1⟩) J<|aj 17 (.d (vI (cs.length:Nat))) J (by rw[hml]<;>rfl)<|gx J<|nr 6 6 152 1 J J J<|lp (X:=Nat) (fun k=>[(18, .d (vI (k:Nat))),(6, .rw 6)]) (fun k=>[(6,some (.b 152 1 (((cs.take k).map (fk V (cH V))).map eU) true))]) (fun k=>k<=cs.length) (fun k=>cs.length-k) 0 J (bV _) (fun _=>J) (fun k hk=>?_);have hm3:(((cs.take k).map (fk V (cH V))).map eU).length<=k:=by rw[aX,aX,bR];omega
 refine br (fu2:=⟨0⟩) J J J (fun hc19=>?_) (fun hc19=>?_)
 .
  obtain⟨c,hx⟩: ∃u,cs[k]? =some u:=⟨_,aZ (by omega)⟩;have hcm:c∈eH (t.restrict []):=by rw[<-hcs];exact aV hx
  obtain⟨g1,g2⟩:=xf ho c hcm;have hck:=(CZ hrb hro eE.nil (tc.1 hcm)).1;have hbk:=xV (P:=fun l=>BL l kb) (fun l h=>h.rev) hrk (fun s hs=>by cases hs) (tc.1 hcm);have hsh:=I2 hrb hro c hcm;obtain⟨d,d1,d2,d3,d4,d5⟩:=JR hV.br g1 g2;have hdl:d.length<=c.length+4:=by have h1:=Bu (jp c V (cH V));have h2:=zF c V (cH V).length;rw[zG] at h2;rw[d5,aX] at h1;have:=hV.le;omega
  have hml2:(d.map de).length=d.length:=aX ..;refine ix _ J (cD hx) J<|cl (fu:=⟨8⟩) J (yZ (c:=c) (d:=d) (V:=V) (kb:=kb) hV hck g1 g2 hbk h62 (by omega) d1) J<|aj 26 (.d (vI (d.length:Nat))) J (by rw[hml2]<;>rfl)<|gx (fu:=⟨0⟩) J<|cg J (by show some (decide _)=some false;rw[decide_eq_false (by omega)]) J<|cl (fu:=⟨0⟩) J (axp (c:=d) (by omega)) J<|aj 31 (.d (eU (fk V (cH V) c))) J (by unfold fk;rw[d5])<|gx J<|rf J J<|ap (((cs.take (k+1)).map (fk V (cH V))).map eU) J (yG hx) (aHo [_]) J<|fw 33 6 J<|at_ (k+1) ⟨(by omega),(by omega)⟩
 .
  obtain rfl:k=cs.length:=by omega
  rw[dQ];refine qf 6 J<|gx J<|cl J (sE (b:=false)) J<|cl J (Zh hE (op:=1) (a:= .leaf false) (us:=cs.map (fk V (cH V))) ⟨trivial,trivial⟩ (by decide) (fun u hu=>yH hV ho hrk hrb h62 hd (hcs▸hu)) (by rw[aX];omega) (by rw[if_neg (by decide)];exact hq)) J<|rz J J
def xM(hE:EG GB ai al ae)(hV:jz V)(hb:t.all LB)(ho:t.all ah.ok)(hk:t.all fun l=>BL l kb)(h62:2*kb+10<=62)(hd:t.depth<=800)(hs:t.size<=60000)(hq:oH 1 (Tr.leaf false) ((eH (t.compl.restrict [])).map (fk (V.map aO) (cH (V.map aO))))=some u):PF GB prog 43 [eU t, .sl (V.map eZ)] (.tp [eU u.compl, .v .nilIface]):=by
 have hVb:=yQ hV.zb;have hV4:=hV.le;refine fn func43 J J ntmps43 J J (fun C=>?_);refine cl J (uG (t:=t)) J<|cl J (U1 (l:=V) (j:=4) hVb (by decide) (by omega)) J<|cl (fu:=⟨11⟩) J (yS hE hV.neg (t:=t.compl) (u:=u) (kb:=kb) (t.compl_all _ hb) (t.compl_all _ ho) (t.compl_all _ hk) h62 (by rw[t.compl_depth];exact hd) (by rw[t.compl_size];exact hs) hq) J<|cg J J J<|cl J (uG (t:=u)) J<|rz J J
section
variable {C:aG}{Q0:Exit->Act->World->Prop}{fr fr':aC}{own own':aH}{cf cf':Cf}{vc:List Prop}{ops:Array Oper}{r:List Oper}{K:List Kt}
def xN(fr:aC)(cf:Cf):Option (TypeId×DV):=match cG fr cf with
 |some ⟨_, .load t x,_,_,_,_⟩=>match aP (b7 fr cf) x with
  |some (.ep (d::_))=>some (t,d)
  |_=>none
 |_=>none
def xT[fu:Fu]{t:TypeId}{d:DV}{D:TypeDesc}{j:TypeInfo}(h:xN fr cf=some (t,d))(hu:prog.underlying t=some D)(hD:aLM D=true)(hj:prog.info? t=some j)(hs:j.size=1)
  (hgo:cB tt n fu.n fr own cf (.d d) [] []=⟨vc,fr',own',cf'⟩)(k':av prog GB C n Q0 fr' own' cf')
  (hv:autoParam (ak vc) cL._auto_1):av prog GB C n Q0 fr own cf:=by
 unfold xN at h;split at h<;>try (cases h;done)
 rename_i hh;split at h<;>cases h;rename_i hx;have:j' prog t:=⟨fun w=>by(rw[BG hu w];cases D<;>first|rfl|(cases hD;done)),fun w=>by rw[vx hj w,hs]⟩;refine us hh ?_ hgo hv k';refine .yd fun ρ G ov a w r=>?_;obtain⟨y,h1,h2⟩:=r.ev hx;obtain⟨b,o,ms,m,rfl,hb,ht,hm⟩:=h2;obtain⟨l',h3,h4⟩:=hm.get (i:=0) rfl;have:=I9 ht (i:=0) (Nat.succ_pos _);rw[fS] at this;exact⟨l',h4,r9 h1 hb (by rw[this];exact h3)⟩
def yR(i:TI)(fr:aC)(cf:Cf):Option SC:=match cG fr cf with
 |some ⟨some d, .buildSlice t len parts,_,_,_,_⟩=>match du tt t with
  |some ⟨.sl e s _,_,_,_⟩=>match mF i with
   |some z=>match wP (b7 fr cf) 0 parts.toList with
    |some ds=>bif Nat.beq z.cells.length s&&(DZ s ds&&(Nat.beq parts.toList.length len&&(Nat.ble (len*s) 1000&&Nat.blt 0 (len*s)))) then some ⟨d,e,s,ds⟩ else none
    |none=>none
   |none=>none
  |_=>none
 |_=>none
def xR[fu:Fu](i:TI){d s:Nat}{ds:List DV}(h:yR i fr cf=some ⟨d,e,s,ds⟩)(hi:fi prog e=some i)(hgo:cB tt n fu.n fr own cf (.d (.sl ds)) [(d,none)] [d]=⟨vc,fr',own',cf'⟩)(k:av prog GB C n Q0 fr' own' cf')
  (hv:autoParam (ak vc) cL._auto_1):av prog GB C n Q0 fr own cf:=by
 unfold yR at h;split at h<;>try (cases h;done)
 rename_i hh;split at h<;>try (cases h;done)
 rename_i hT;split at h<;>try (cases h;done)
 rename_i hz;split at h<;>try (cases h;done)
 rename_i hr;rw[cond_eq_ite] at h;split at h<;>cases h;rename_i hc;simp only[bT] at hc;have:=jk (eh _ _ hT) J;exact us hh ((Rb (GB:=GB) (C:=C) (n:=n) (bk:=iB fr own cf) hi hz hc.1 hr hc.2.1 hc.2.2.1 hc.2.2.2.1 hc.2.2.2.2).frzRow J) hgo hv k
end
def xS(f:FuncId):DV:= .v (.func (.func f) #[] #[])
def zW{fs:List FuncId}{ts:Nat->Tr}(h0:i7 k0 (ts 0))(hr:tg r)(hc:lC (r.map ZP.q)=true)(hF: ∀k f,fs[k]? =some f->PF GB prog f [eU (ts k), .sl ((r.map ZP.q).map eZ)] (.tp [eU (ts (k+1)), .v .nilIface]))(hb:(ts fs.length).all LB)(hs:(ts fs.length).size<=1000000)(hn:fs.length<=1000):PF GB prog 40 [eA (ts 0),mm r, .sl (fs.map xS)] (.tp [eA (ts fs.length), .v .nilIface]):=by
 have hml:(fs.map xS).length=fs.length:=aX ..;refine fn func40 J J ntmps40 J J (fun C=>?_);refine cl (fu:=⟨12⟩) J (M4 (t:=ts 0) h0) J<|aj 20 (.d (.v (.bool false))) J J<|pg 20 J<|gx J<|cl (fu:=⟨11⟩) J (yN hr hc) J<|cg (fu:=⟨10⟩) J J J<|aj 33 (.d (vI (fs.length:Nat))) J (by rw[hml]<;>rfl)<|gx J<|lp (X:=Nat) (fun k=>[(34, .d (vI (k:Nat))),(8, .d (eU (ts k)))]) (fun k=>[]) (fun k=>k<=fs.length) (fun k=>fs.length-k) 0 J (bV _) (fun _=>J) (fun k hk=>?_);refine br J J J (fun hc35=>?_) (fun hc35=>?_)
 .
  obtain⟨f,hx⟩: ∃u,fs[k]? =some u:=⟨_,aZ (by omega)⟩;refine ix (fu:=⟨0⟩) _ J (cD hx) J<|xT (fu:=⟨8⟩) (d:= .v (.func (.func f) #[] #[])) J J J J J J<|cfw (fu:=⟨10⟩) J .nil .nil (hF k f hx) J<|cg J J J<|at_ (k+1) ⟨(by omega),(by omega)⟩
 .
  obtain rfl:k=fs.length:=by omega
  refine cl J (aI9 (t:=ts fs.length) hb hs) J<|rz J J
def xQ(t u:Tr):Nat->Tr
 |0=>t
 |_=>u
def zH(V:List aa)(t:Tr):Tr:=lv V (cH V) t
def zP(V:List aa)(t:Tr):Tr:=(zH (V.map aO) t.compl).compl
def zJ(hV:jz V)(h:lA t):i7 54 (zH V t)/\(zH V t).Red []/\(zH V t).all (fun l=>BL l 26):=(Gf hV h).2
def yF(hV:jz V)(h:lA t):i7 54 (zP V t)/\(zP V t).Red []/\(zP V t).all (fun l=>BL l 26):=by
 obtain⟨h1,h2,h3⟩:=zJ hV.neg h.compl;exact⟨h1.compl,Tr.compl_red h2,Tr.compl_all _ _ h3⟩
def xD(hE:EG GB ai al ae)(hV:jz V)(h:lA t):PF GB prog 41 [eU t, .sl (V.map eZ)] (.tp [eU (zH V t), .v .nilIface]):=
 yS hE hV h.x.lb h.x.ok h.bl (by decide) (by have:=h.dp;omega) (by have:=h.x.s;omega) (Gf hV h).1
def xC(hE:EG GB ai al ae)(hV:jz V)(h:lA t):PF GB prog 43 [eU t, .sl (V.map eZ)] (.tp [eU (zP V t), .v .nilIface]):=
 xM hE hV h.x.lb h.x.ok h.bl (by decide) (by have:=h.dp;omega) (by have:=h.x.s;omega) (Gf hV.neg h.compl).1
def yE(hE:EG GB ai al ae)(hr:tg r)(hc:lC (r.map ZP.q)=true)(hV:jz (r.map ZP.q))(h:lA t):PF GB prog 9 [eA t,mm r] (.tp [eA (zH (r.map ZP.q) t), .v .nilIface]):=by
 have hx:=(zJ hV h).1;have hst:PF GB prog 40 [eA t,mm r, .sl [.v (.func (.func 41) #[] #[])]] (.tp [eA (zH (r.map ZP.q) t), .v .nilIface]):=zW (fs:=[41]) (ts:=xQ t (zH (r.map ZP.q) t)) h.x hr hc (fun k f hk=>by match k,hk with|0,hk=>cases hk;exact xD hE hV h|k+1,hk=>simp at hk) hx.lb (by have:=hx.s;show(zH (r.map ZP.q) t).size<=_;omega) (by simp);refine fn (fu:=⟨11⟩) func9 J J ntmps9 J J (fun C=>?_);refine xR ⟨.o,1,some [.d (.v .nilFunc)],false⟩ J (by kernel_rfl) J<|cl J hst J<|rz J J
def xA(hE:EG GB ai al ae)(hr:tg r)(hc:lC (r.map ZP.q)=true)(hV:jz (r.map ZP.q))(h:lA t):PF GB prog 12 [eA t,mm r] (.tp [eA (zP (r.map ZP.q) t), .v .nilIface]):=by
 have hx:=(yF hV h).1;have hst:PF GB prog 40 [eA t,mm r, .sl [.v (.func (.func 43) #[] #[])]] (.tp [eA (zP (r.map ZP.q) t), .v .nilIface]):=zW (fs:=[43]) (ts:=xQ t (zP (r.map ZP.q) t)) h.x hr hc (fun k f hk=>by match k,hk with|0,hk=>cases hk;exact xC hE hV h|k+1,hk=>simp at hk) hx.lb (by have:=hx.s;show(zP (r.map ZP.q) t).size<=_;omega) (by simp);refine fn (fu:=⟨11⟩) func12 J J ntmps12 J J (fun C=>?_);refine xR ⟨.o,1,some [.d (.v .nilFunc)],false⟩ J (by kernel_rfl) J<|cl J hst J<|rz J J


def Tr.partsF:Tr->ar->List (Bool×ar)
 | .leaf b,c=>[(b,c)]
 | .node l x y,c=>(if cx c l then x.partsF (zi c l) else [])++(if cx c l.rev then y.partsF (zi c l.rev) else [])
def Tr.parts_F: ∀(t:Tr) (c:ar),t.parts c=t.partsF c
 | .leaf _,_=>rfl
 | .node l x y,c=>by rw[Tr.parts,Tr.partsF,Ew,Ew,x.parts_F,y.parts_F]
def yB(V:List aa)(E:List (aa×aa))(c:ar):vo V E [c] (.leaf false)=(fk V E c).restrict []:=by
 show(Tr.leaf false).mergeQ 1 (fk V E c) []=_;rw[Tr.mergeQ];unfold Tr.chooseQ;rw[if_pos (.inl J),if_neg (by decide)]
def xO:List aa:=(eG 0 0 1 1).map ZP.q
def sqC:List ar:=((((((t7 [eG 0 0 1 1] 2).restrictF []).restrictF []).partsF []).filter (·.1)).map (·.2))
def yW:eH ((f7 [eG 0 0 1 1] 2).restrict [])=sqC:=by
 unfold eH f7 sqC;rw[Tr.restrict_F,Tr.restrict_F,Tr.parts_F]
def zS:Tr->Tr->Bool
 | .leaf a, .leaf b=>a==b
 | .node l x y, .node m u v=>decide (l=m)&&(zS x u&&zS y v)
 |_,_=>false
def zL: ∀{t u:Tr},zS t u=true->t=u
 | .leaf a, .leaf b,h=>by rw[eq_of_beq (show(a==b)=true from h)]
 | .node l x y, .node m u v,h=>by
  simp only[zS,bT,decide_eq_true_eq] at h;rw[h.1,zL h.2.1,zL h.2.2]
 | .leaf _, .node ..,h=>by cases h
 | .node .., .leaf _,h=>by cases h
def yO{α:Type}{f:α->Bool}{l:List α}(h:l.map f=[true]): ∃c,l=[c]/\f c=true:=by
 cases l with
 |nil=>cases h
 |cons a t=>
  rw[bU,List.cons.injEq] at h;exact⟨a,by rw[List.map_eq_nil_iff.1 h.2],h.1⟩
def yJ:(sqC.map fun c=>zS ((fk xO (cH xO) c).restrictF []) ((t7 [eG 0 0 2 2] 2).restrictF []))=[true]:=by decide+kernel
def yI:lv xO (cH xO) (f7 [eG 0 0 1 1] 2)=f7 [eG 0 0 2 2] 2:=by
 obtain⟨c,hc,hr⟩:=yO yJ;unfold lv;rw[yW,hc,yB,Tr.restrict_F,zL hr,<-Tr.restrict_F];rfl
section
variable {a b c:Tr}(ha:a.all ah.ok)(hb:b.all ah.ok)(hc:c.all ah.ok)
include ha hb
end
def yL(h:i7 k t):PF GB prog 45 [eA t] (.tp [eT t,vB true]):=XA h.lb h.ok (by have:=h.s;omega)
def zN(h:fe r): ∀q∈[r],fe q:=fun q hq=>by rw[aT.1 hq];exact h
def zR(h:fe r):PF GB prog 11 [kv r] (mm r):=by
 have hn:=h.n6;have:=LC (GB:=GB) (ps:=r.map ZP.q) (fun p hp=>aE.mono (zQ h p hp)) (by rw[aX];omega);rw[Jr] at this;exact this
def zB(h:fe r):PF GB prog 36 [kv r] (eT (f7 [r] 2)):=by
 refine fn func36 J J ntmps36 J J (fun C=>?_);refine rf (fu:=⟨0⟩) J J<|aj 4 (.d (.sl ([r].map kv))) J J<|gx J<|cl J (Yx (rs:=[r]) (zN h) (by simp)) J<|cl J (aDl (rs:=[r]) (fill:=2) (zN h) (by simp)) J<|cl J (XY (rs:=[r]) (fill:=2) (zN h) (by simp)) J<|rz J J
def zM{a b:Int}(h1:a.natAbs<=50:=by decide)(h2:b.natAbs<=50:=by decide):PF GB prog 44 [.v (.int .i64 a), .v (.int .i64 b)] (kv (eG a a b b)):=by
 refine fn func44 J J ntmps44 J J (fun C=>?_);refine cl J (ji (m:=a) (n:=a)) J<|cl J (ji (m:=b) (n:=a)) J<|cl J (ji (m:=b) (n:=b)) J<|cl J (ji (m:=a) (n:=b)) J<|rf J J<|rz J J
def yC:fe (eG 0 0 1 1):=JN
def yX:fe (eG 0 0 2 2):=JN
def sq01_br:jz ((eG 0 0 1 1).map ZP.q)/\lC ((eG 0 0 1 1).map ZP.q)=true:=LH (a:=0) (b:=0) (c:=1) (d:=1)
def sq01_sm:lA (f7 [eG 0 0 1 1] 2):=by
 have h1: ∀p∈eG 0 0 1 1,p.1.natAbs<=3/\p.2.natAbs<=3:=fun p hp=>by
  simp only[eG,aK,eY,or_false] at hp;rcases hp with rfl|rfl|rfl|rfl<;>exact⟨by decide,by decide⟩
 have:=Nq yC (by decide);exact IX yC h1 (by rw[show(eG 0 0 1 1).length=4 from J];omega)
def yU:p9 (zH ((eG 0 0 1 1).map ZP.q) (f7 [eG 0 0 1 1] 2)) (f7 [eG 0 0 2 2] 2):=by
 have h1:=(zJ sq01_br.1 sq01_sm).1;have h2:=Ha (fill:=2) (zN yX) (by simp);exact⟨h1.gd,h2.gd,h1.s,(h2.x (Di _ _) (by decide)).s⟩
def yV:tP (zH ((eG 0 0 1 1).map ZP.q) (f7 [eG 0 0 1 1] 2)) (f7 [eG 0 0 2 2] 2)=true:=by
 rw[show zH ((eG 0 0 1 1).map ZP.q) (f7 [eG 0 0 1 1] 2)=f7 [eG 0 0 2 2] 2 from yI];have h2:=(Ha (fill:=2) (zN yX) (by simp)).gd.ok;exact aIl h2 h2 (L:=(f7 [eG 0 0 2 2] 2).lns) (gF h2) (fun l hl=>hl) (fun l hl=>hl) fun p _=>J
def zX(hE:EG GB ai al ae):PF GB prog 13 [] (.v (.bool true)):=by
 have hx:=(zJ sq01_br.1 sq01_sm).1;refine fn func13 J J ntmps13 J J (fun C=>?_);refine cl J (zM (a:=0) (b:=1)) J<|cl J (zB yC) J<|cl J (P6 sq01_sm.x) J<|cl J (zM (a:=0) (b:=1)) J<|cl J (zR yC) J<|cl J (yE hE (TP yC (by decide) (by decide)) sq01_br.2 sq01_br.1 sq01_sm) J<|cl (fu:=⟨10⟩) J (yL hx) J<|dP (fu:=⟨2⟩) J J J<|ll 22 J<|gx J<|cl J (zM (a:=0) (b:=2)) J<|cl J (zB yX) J<|cl (fu:=⟨0⟩) J (UI yU) J<|aj 28 (.d (.v (.bool true))) J (by rw[yV]<;>rfl)<|gx J<|rz J J
def zY(hes:es.length<=400)(ha:a<=es.length):PM GB prog 7 (jv [none] b) b 84 [.sl (es.map vI), .v (.int .i64 (a:Nat))] (eT (lm es a).1) [.sl (es.map vI), .v (.int .i64 ((lm es a).2:Nat))]:=by
 have hk0:=gD (n:=4) ha;obtain⟨hl,hl2⟩:=Od hk0;obtain⟨hv,hv2⟩:=Al hk0;refine vu func7 J J ntmps7 J J (fun C b m lo hmb=>?_);refine cm J (fun b=>(mz (n:=4) hes ha)) J<|br J J J (fun hc5=>?_) (fun hc5=>?_)
 .
  refine cm J (fun b=>(Wl hes hk0)) J<|cl J (Fe (p:=true)) J<|cl (fu:=⟨1⟩) J (Fe (p:=false)) J<|FH J J<|cl J (Sz (t:= .node (lF es (au es 4 a).2).1 (.leaf true) (.leaf false)) ⟨⟨hl.bl⟩,trivial,trivial⟩ ⟨hl.ok,trivial,trivial⟩ (by simp[Tr.depth])) J<|?_;exact kH hmb J J (by rw[show lm es a=_ from if_pos hc5];rfl) (by rw[show lm es a=_ from if_pos hc5])
 .
  refine br J J J (fun hc14=>?_) (fun hc14=>?_)
  .
   refine cm J (fun b=>(Je hes hk0)) J<|cl J (zB hv) J<|?_;exact kH hmb J J (by rw[show lm es a=_ from(if_neg hc5).trans (if_pos hc14)];rfl) (by rw[show lm es a=_ from(if_neg hc5).trans (if_pos hc14)])
  .
   refine br J J J (fun hc19=>?_) (fun hc19=>?_)
   .
    refine cm J (fun b=>(Je hes hk0)) J<|cl J (zB hv) J<|cl J (HY (t:=f7 [(gr es (au es 4 a).2).1] 2)) J<|?_;exact kH hmb J J (by rw[show lm es a=_ from(if_neg hc5).trans ((if_neg hc14).trans (if_pos hc19))];rfl) (by rw[show lm es a=_ from(if_neg hc5).trans ((if_neg hc14).trans (if_pos hc19))])
   .
    refine cl J (ji (m:=0) (n:=0) (by decide) (by decide)) J<|cl J (ji (m:=3) (n:=0) (by decide) (by decide)) J<|cl J (ji (m:=3) (n:=1) (by decide) (by decide)) J<|cl J (ji (m:=1) (n:=1) (by decide) (by decide)) J<|cl J (ji (m:=1) (n:=3) (by decide) (by decide)) J<|cl J (ji (m:=0) (n:=3) (by decide) (by decide)) J<|rf (fu:=⟨0⟩) J J<|aj 31 (.d (kv wi)) J J<|gx J<|cl J (zB MF) J<|?_;exact kH hmb J J (by rw[show lm es a=_ from(if_neg hc5).trans ((if_neg hc14).trans (if_neg hc19))];rfl) (by rw[show lm es a=_ from(if_neg hc5).trans ((if_neg hc14).trans (if_neg hc19))])
def xK(hes:es.length<=400)(ha:a<=es.length)(hr:t=(lm es a).1)(ha':a'=(lm es a).2):PM GB prog 7 (jv [none] b) b 84 [.sl (es.map vI), .v (.int .i64 (a:Nat))] (eT t) [.sl (es.map vI), .v (.int .i64 (a':Nat))]:=by
 subst hr;subst ha';exact zY hes ha
def xL(hes:es.length<=400)(ha:a<=es.length)(hr:r=(gr es a).1)(ha':a'=(gr es a).2):PM GB prog 8 (jv [none] b) b 84 [.sl (es.map vI), .v (.int .i64 (a:Nat))] (kv r) [.sl (es.map vI), .v (.int .i64 (a':Nat))]:=by
 subst hr;subst ha';exact Je hes ha
def yY(hes:es.length<=400)(ha:a<=es.length)(hp:p=(xk es a).1):PM GB prog 28 (jv [none] b) b 84 [.sl (es.map vI), .v (.int .i64 (a:Nat))] (eP p) [.sl (es.map vI), .v (.int .i64 ((xk es a).2:Nat))]:=by
 subst hp;exact aza hes ha
def zV(p v:aa):b8 p v ((1:Int):Rat)=p.add v:=by
 unfold b8 aa.add;congr 1<;>grind
def yT(hV:jz V)(h:lA t)(hv:v∈V)(hp:d8 t p≠0):d8 (zH V t) (p.add v)≠0:=TO hV.br h.x.ok hp hv
def xH(hV:jz V)(h:lA t)(hv:v∈V)(hp:d8 (zP V t) p≠0):d8 t (p.add v)≠0:=by
 unfold zP zH at hp;rw[RA] at hp;exact W6 hV.br h.x.ok hp hv
def zO(hE:EG GB ai al ae)(hb:es0.length<=1125899906842624):PF GB prog 5 [.sl (es0.map vI)] (.v (.bool true)):=by
 obtain⟨es,hee⟩: ∃es,es=es0.take 400:=⟨_,rfl⟩;have hes:es.length<=400:=by rw[hee];simp;omega
 obtain⟨A,hA⟩: ∃A,A=(lm es 0).1:=⟨_,rfl⟩;obtain⟨a1,ha1⟩: ∃a,a=(lm es 0).2:=⟨_,rfl⟩;obtain⟨hs,hl1⟩:=VO (bV es.length);rw[<-hA] at hs;rw[<-ha1] at hl1;obtain⟨r,hr⟩: ∃r,r=(gr es a1).1:=⟨_,rfl⟩;obtain⟨a2,ha2⟩: ∃a,a=(gr es a1).2:=⟨_,rfl⟩;have hrg:tg r:=by rw[hr];exact aDK hl1
 obtain⟨hV,hcv⟩:=Y1 hl1;rw[<-hr] at hV hcv;have x1:=(zJ hV hs).1;have x2:=(yF hV hs).1;have hl2:a2<=es.length:=by rw[ha2];exact(Al hl1).2
 have hrb:=zQ hrg.ok;have hn6:=hrg.ok.n6;have hml:(r.map oE).length=r.length:=aX ..;obtain⟨p,hp⟩: ∃p,p=(xk es a2).1:=⟨_,rfl⟩;haveI hpb:=(aD3 hl2).1;rw[<-hp] at hpb;refine fn func5 J J ntmps5 J J (fun C=>?_);refine cn J ((YC hb hee)) (fun _=>J) (fun _=>?_);refine cm J (fun b=>(xK hes (bV _) hA ha1)) J<|cm J (fun b=>(xL hes hl1 hr ha2)) J<|cm J (fun b=>(yY hes hl2 hp)) J<|cl J (P6 hs.x) J<|cl J (zR hrg.ok) J<|cl J (yE hE hrg hcv hV hs) J<|cl J (zR hrg.ok) J<|cl J (xA hE hrg hcv hV hs) J<|cl J (Cp (p:=p) (i:=1200)) J<|cl J (E2 (t:=A) (p:=p) (i:=1200) hs.x) J<|cl J (Cp (p:=p) (i:=1200)) J<|cl (fu:=⟨11⟩) J (E2 (p:=p) (i:=1200) x2) J<|cg (fu:=⟨2⟩) J J J<|cg (fu:=⟨3⟩) J J J<|cg (fu:=⟨3⟩) J J J<|cg (fu:=⟨11⟩) J J J<|aj 75 (.d (vI (r.length:Nat))) J (by rw[hml]<;>rfl)<|gx J<|lp (X:=Nat) (fun k=>[(76, .d (vI (k:Nat)))]) (fun k=>[]) (fun k=>k<=r.length) (fun k=>r.length-k) 0 J (bV _) (fun _=>J) (fun k hk=>?_);refine br J J J (fun hc77=>?_) (fun hc77=>?_)
 .
  obtain⟨z,hx⟩: ∃z,r[k]? =some z:=⟨_,aZ (by omega)⟩;have hzm:z.q∈r.map ZP.q:=aU.2 ⟨z,aV hx,J⟩;haveI:=hrb z.q hzm;haveI hb1:BQ ((1:Int):Rat) 1:=⟨by decide,by decide⟩;haveI:aE (p.add z.q) 4000:=by rw[<-zV];exact aE.mono inferInstance
  have k1:=yT hV hs (p:=p) hzm;have k2:=xH hV hs (p:=p) hzm;refine ix _ J (cD hx) J<|cl J (jl (n:=1)) J<|cl (fu:=⟨0⟩) J (wU (p:=p) (q:=z.q) (c:=((1:Int):Rat)) (i:=1200) (j:=8) (k:=1)) J<|aj 85 (.d (eP (p.add z.q))) J (by rw[zV])<|gx J<|cl J (Cp (p:=p.add z.q) (i:=4000)) J<|cl J (E2 (p:=p.add z.q) (i:=4000) x1) J<|cl J (jl (n:=1)) J<|cl (fu:=⟨0⟩) J (wU (p:=p) (q:=z.q) (c:=((1:Int):Rat)) (i:=1200) (j:=8) (k:=1)) J<|aj 95 (.d (eP (p.add z.q))) J (by rw[zV])<|gx J<|cl J (Cp (p:=p.add z.q) (i:=4000)) J<|cl (fu:=⟨10⟩) J (E2 (t:=A) (p:=p.add z.q) (i:=4000) hs.x) J<|cg (fu:=⟨2⟩) J J J<|cg J J J<|cs (fu1:=⟨1⟩) 109 J J J (fun hg109=>?_) (fun hg109=>?_)
  .
   refine cg J (by show some (decide _)=some false;rw[decide_eq_false (k1 (by omega))]) J<|cs (fu1:=⟨1⟩) 117 J J J (fun hg117=>?_) (fun hg117=>?_)
   .
    refine cg J (by show some (decide _)=some false;rw[decide_eq_false (k2 (by omega))]) J<|at_ (k+1) ⟨(by omega),(by omega)⟩
   .
    exact at_ (k+1) ⟨(by omega),(by omega)⟩
  .
   refine cs (fu1:=⟨1⟩) 117 J J J (fun hg117=>?_) (fun hg117=>?_)
   .
    refine cg J (by show some (decide _)=some false;rw[decide_eq_false (k2 (by omega))]) J<|at_ (k+1) ⟨(by omega),(by omega)⟩
   .
    exact at_ (k+1) ⟨(by omega),(by omega)⟩
 .
  refine cl J (zX hE) J<|rz J J
end Go.Sx
end
section
namespace Go.Sx
open Go Go.Proofs Go.ChangeShapes Go.WideShapes Go.ChangeAt Go.RowKit
variable {w w' W:World}{off base g:Nat}{v:Value}{H:Type}{P:Program}
def GW(w:World):Gh:=fun b=>match w.heap[b]? with|some (.cells cs _ _)=>some cs.toList|_=>none
def GW.sub{b:Nat}{cs:List Value}(h:GW w b=some cs): ∃ty fz,w.heap[b]? =some (.cells ⟨cs⟩ ty fz):=by
 unfold GW at h;split at h
 .rename_i c t f e
  cases h
  exact⟨t,f,by rw[e]⟩
 .cases h
def GW.of_cell{b:Nat}(h:w.cell? ⟨b,off,none⟩=some v): ∃cs,GW w b=some cs/\cs[off]? =some v:=by
 unfold World.cell? at h;unfold GW;split at h
 .rename_i c t f e
  simp only at e;refine⟨c.toList,by rw[e],?_⟩;simpa using h
 all_goals first|(rename_i e;cases h)|cases h
def bF.below{G G':Gh}{own:List aA}(h:bF ⟨w,G,[],[],[],none,fun _=>none⟩ own G' w'):Below w.heap.size w w':=
 ⟨h.os,h.tape,h.output,h.size,fun k hk=>h.keep k hk (by simp)⟩
def isLs_vI{G:Gh}: ∀es:List Int,IsLs G (es.map vI) (es.map fun n=>Value.int .i64 n)
 |[]=> .nil
 |n::t=> .cons (aI.2 J) (isLs_vI t)
def open_vI{enc:TypeId×Value->H}{t e:TypeId}{d:DataW H}{ps:List MemPlace}(ht:P.underlying t=some (.slice e))(he:P.underlying e=some (.int .i64))(hc:P.cellsOf e=1)
  (hv:Value.okWide P w .any base t v)(h:DataW.Trod enc P w 0 (fun _=>true) true t v d ps):
  ∃es:List Int,Is (GW w) (.sl (es.map vI)) v/\(d= .nil/\es=[]\/ ∃sp,d= .slice (lits .i64 es) sp)/\(∀n∈es,(Lit.int .i64 n).wf=true):=by
 obtain⟨a0,len,cap,rfl⟩:=okWide_slice ht hv;obtain⟨fuel,hf⟩:=h;rcases open_ints ht he hc hf with⟨hcs,hx⟩|⟨a,len',cap',zs,hcs,_,hl,hm,hz,hx,hcell,hwz⟩
 .simp[Value.cells] at hcs
  obtain⟨rfl,rfl,rfl⟩:=hcs;simp only[Prod.mk.injEq] at hx;exact⟨[],gt.2 ⟨0,⟨none,0,0⟩,[],J,gk.nil _ 0, .nil⟩, .inl ⟨hx.1,J⟩,by simp⟩
 .simp[Value.cells] at hcs
  obtain⟨rfl,rfl,rfl⟩:=hcs;simp only[Prod.mk.injEq] at hx;simp only[if_true] at hz;refine⟨zs.take len,gt.2 ⟨1,⟨some a,len,cap⟩,(zs.take len).map fun n=>Value.int .i64 n,J,⟨by simp;omega,hl,?_⟩,isLs_vI _⟩, .inr ⟨_,hx.1⟩,fun n hn=>hwz n (eX hn)⟩;by_cases h0:len=0
  .exact .inl (by simp[h0])
  .right
   obtain⟨b,off,spot⟩:=a;have hspot:spot=none:=by simpa[Addr.add] using World.cell?_spot (hcell 0 (by omega))
   subst hspot;have c0: ∀i,i<zs.length->w.cell? ⟨b,off+i,none⟩=some (.int .i64 (zs.getD i 0)):=fun i hi=>by
    have:=hcell i hi;rwa [Go.WideShapes.add_plain] at this
   obtain⟨cs,hcs,_⟩:=GW.of_cell (by have h9:=c0 0 (by omega);rw[fS] at h9;exact h9);refine⟨b,off,cs,J,hcs,fun i hi=>?_⟩;simp only[aX,bR] at hi;obtain⟨cs',hcs',hi'⟩:=GW.of_cell (c0 i (by omega));rw[hcs] at hcs'
   cases hcs'
   rw[jL,au7.2 hi'];simp[aF,List.getD,aZ (show i<zs.length by omega)]
inductive CSh where
 |b
 |i (k:IntKind)
 |sl (ag:Bool) (l:List CSh)
mutual
def Fit:CSh->DV->Prop
 | .b,d=> ∃b,d= .v (.bool b)
 | .i k,d=> ∃n,d= .v (.int k n)/\(Lit.int k n).wf=true
 | .sl ag l,d=> ∃m:List DV,d= .sl m/\m.length<=maxLen/\ ∀x∈m,∃ys,FitL l ys/\((ag=true/\x= .ag ys)\/(ag=false/\ys=[x]))
def FitL:List CSh->List DV->Prop
 |[],ds=>ds=[]
 |s::l,ds=> ∃d t,ds=d::t/\Fit s d/\FitL l t
end
section
variable {enc:TypeId×Value->H}
end
def es_star: "*" ++ "errors.errorString" = "*errors.errorString" :=by decide
def es_row(u:TypeId)(h:Tryz.prog.typeName? 3 u=some "*errors.errorString"):u=433:=
 typeName_ptr_named (nm:= "errors.errorString") (by rw[es_star];kernel_rfl) (by kernel_rfl) (by decide) u (by rw[es_star];exact h)
def sent_of{n:String}{text:List UInt8}{r:List (String×DataW Unit)}(h:laidMet Tryz.prog ((n, .iface "*errors.errorString" (.ptr (.agg [.lit (.string text)])))::r) W)(hg:Tryz.prog.globalNamed n=some g)(ht:(Tryz.prog.globals[g]?).map (·.type)=some 33):
  ∃a,GW W g=some [.iface 433 (.pointer (some a))]:=by
 obtain⟨a,s,hv,_⟩:=laid_sentinel h hg ht Tryz.underlying33 es_row Tryz.underlying433 Tryz.underlying458 rfl rfl Tryz.underlying9 (by kernel_rfl) (by kernel_rfl);refine⟨a,?_⟩;unfold World.var? at hv;rw[hg,Option.bind_some] at hv;unfold GW;split at hv
 .rename_i c t f e
  rw[e];cases hv;rfl
 .cases hv
def laid_plain{l:List (String×DataW Unit)}(h:laidMetH Tryz.prog l W)(hp:(l.all fun x=>x.2.handleName?.isNone)=true):laidMet Tryz.prog l W:=by rwa [Go.MakeChecks.laidMetH_plain _ _ _ hp] at h
end Go.Sx
end
section
namespace Go.Proofs.YtjpdfobnjmflkaaGreatDoor
open Go.ChangeShapes Go.WideShapes Go.ChangeAt Go.RowKit Go.Sx
theorem js1:mapsRowed Tryz.pinned.checked.prog=true:=by kernel_rfl
theorem js2:Tryz.pinned.checked.prog.stopsHeard=true:=by kernel_rfl
theorem js3:Tryz.pinned.checked.prog.mayEnter=true:=by kernel_rfl
theorem js4:laidOutB Tryz.prog=true:=by kernel_rfl
end Go.Proofs.YtjpdfobnjmflkaaGreatDoor
end
section
namespace Go.Proofs.YtjpdfobnjmflkaaGreatDoor.morphPoints
open Go.ChangeShapes Go.WideShapes Go.ChangeAt Go.RowKit Go.Sx
theorem own:ownKnob Tryz.prog.godebug=none:=by kernel_rfl
theorem laidOut:laidOutB Tryz.prog=true:=js4
theorem cellsI:Tryz.prog.cellsOf 3=1:=by kernel_rfl
theorem bytesI:Tryz.prog.bytesOf 3=8:=by kernel_rfl
theorem door_met(os:Os)(args:Array Value):laidMetH Tryz.prog Rows.morphPointsRow.laid ((World.doorLaid Tryz.prog 100 os).forCall (fun _ _=>0) ⟨#[],args,[]⟩).memory:=
 laidMetH_of_parts3 (fuel:=8) (laidMet_of_run' 8 (by kernel_rfl) (by kernel_rfl)) (by kernel_rfl) (by kernel_rfl)
theorem eg_of{W:World}(h:laidMetH Tryz.prog Rows.morphPointsRow.laid W): ∃ai al ae,EG (GW W) ai al ae:=by
 have h1:=laid_plain h J;obtain⟨ai,hi⟩:=sent_of (g:=1) h1.tail.tail.tail (by kernel_rfl) (by kernel_rfl);obtain⟨al,hl⟩:=sent_of (g:=2) h1.tail.tail.tail.tail.tail (by kernel_rfl) (by kernel_rfl);exact⟨ai,al,al,hi,hl⟩
theorem contract(H:Type)(enc:TypeId×Value->H)(W:World)(base:Nat)(args:Array Value)(ds gs:List (DataW H))(before:List MemPlace)
  (hval: ∀(j:Nat) t v,Tryz.f5.params[j]? =some t->args[j]? =some v->Value.okWide Tryz.prog W .any base t v)
  (hW:DataW.Whole enc Tryz.prog Tryz.f5.params.toList Rows.morphPointsSpec.vars false W args.toList ds gs before)
  (hz:(DataW.weightsEach Tryz.prog (Tryz.f5.params.toList++(OpenSpec.ofChange Rows.morphPointsSpec).bare.plain.varTypes Tryz.prog) (ds++gs)).all (· <=reachBytes)=true)(hlaid:laidMetH Tryz.prog Rows.morphPointsRow.laid W):
  Calls Tryz.prog 5 args W fun e W'=> ∃v,e= .returned v/\Rows.morphPointsSpec.post enc Tryz.prog Tryz.f5 false true false false W args v W':=by
 have hW':=hW;obtain⟨p,q,hA0,hV,rfl,_,_⟩:=hW;have hA:DataW.TrodAll enc Tryz.prog W 0 (fun _=>true) true Tryz.f5.params.toList args.toList ds p:=hA0;rw[Tryz.params5] at hA hval hz;obtain⟨v0,d0,hargs,rfl,h0⟩:=trodAll_one hA;obtain rfl:args= #[v0]:=by cases args;simp_all
 obtain⟨rfl,rfl⟩:=trodVars_none hV;clear hA0;simp only[List.append_nil] at hW';have hlt: ∀x∈p,x.block<W.heap.size:=fun x hx=>by simpa using hW'.lt x hx
 obtain⟨es,hI,hd,_⟩:=open_vI Tryz.underlying22 Tryz.underlying3 cellsI (hval 0 22 v0 rfl rfl) h0;have hb:es.length<=1125899906842624:=by
  rcases hd with⟨rfl,rfl⟩|⟨sp,rfl⟩
  .exact Nat.zero_le _
  .have:=sized_slice hz (j:=0) (t:=22) (e:=3) J J Tryz.underlying22
   rw[bytesI] at this;have hr:=reachBytes_lt;have hl:(lits (H:=H) .i64 es).length=es.length:=by simp[lits]
   rw[hl] at this;omega
 obtain⟨ai,al,ae,hE⟩:=eg_of hlaid;have hf:=(zO hE (es0:=es) hb) (GW W) [v0] (bH.refl _) (.cons hI .nil);refine(hf.run W (fun b cs hg=>GW.sub hg)).mono fun e W' ⟨v,G',he,hr,hv⟩=>?_;rw[aI] at hv;subst hv;subst he;have hn:=hr.below;have t2:=trodAll_mk1 (Below.trod laidOut (by kernel_rfl) (of_decide_eq_true (by kernel_rfl)) h0 hn hlt);exact⟨_,J,⟨_,_,_,[],_,[],hW',trodAll_mk1 (shut_bool Tryz.underlying4 _),t2,J,hn.frame _,fun h=>by cases h⟩⟩
theorem reads(os:Os){H:Type}(enc:TypeId×Value->H): ∃places,DataW.whole enc Tryz.prog ((World.doorLaid Tryz.prog 100 os).forCall (fun _ _=>0) ⟨#[], #[.slice none 0 0],[]⟩).memory Tryz.f5.params.toList Rows.morphPointsSpec.vars false #[Value.slice none 0 0].toList 8=some ([.nil],[],places):=
 ⟨[],by kernel_rfl⟩
theorem lifted(os:Os)(started:os.Started)(H:Type)(enc:TypeId×Value->H)(F:Stop.Interp):
  ReturnsInHanded {} Tryz.checked os 5 .any ((OpenSpec.ofChange Rows.morphPointsSpec).preRow enc Tryz.prog Tryz.f5 Rows.morphPointsRow.domain false Rows.morphPointsRow.laid) (((OpenSpec.ofChange Rows.morphPointsSpec).at F).post enc Tryz.prog Tryz.f5 false true false false):=by
 obtain⟨places,hx⟩:=reads os enc;refine returnsInHanded_of_row (C:=Tryz.checked) (s:=OpenSpec.ofChange Rows.morphPointsSpec) own started (by kernel_rfl) Tryz.func5
  (witness_row_atRef (enc:=enc) (C:=Tryz.checked) false (World.doorLaid Tryz.prog 100 os) #[.slice none 0 0] rfl (by kernel_rfl) (by kernel_rfl) (by kernel_rfl)
   (OpenSpec.preRow_of_cond 8 hx (by kernel_rfl) (fun k hk=>by cases hk) (by kernel_rfl) (door_met os _))) ?_
 intro W base args ds gs before hval hW _ _ hz hlaid _ _;exact contract H enc W base args ds gs before hval hW hz hlaid
theorem j1:(Rows.morphPointsRow.inPlace==Tryz.pinned.checked.prog.inPlace 5)=true:=by kernel_rfl
theorem j2:(Rows.morphPointsRow.unfollowed==Tryz.pinned.checked.prog.unfollowed 5)=true:=by kernel_rfl
theorem j3:(Rows.morphPointsRow.recurses==Tryz.pinned.checked.prog.recurses 5)=true:=by kernel_rfl
theorem j4:(Rows.morphPointsRow.named==Tryz.pinned.checked.prog.varsNamed 5)=true:=by kernel_rfl
theorem j5:laidOutB Tryz.pinned.checked.prog=true:=laidOut
theorem j6:mapsRowed Tryz.pinned.checked.prog=true:=js1
theorem j7:Tryz.pinned.checked.prog.mainIs=some (Rows.morphPointsCard.stood.harness.1,Rows.morphPointsCard.stood.harness.2.toList):=by kernel_rfl
theorem j8:false=Rows.morphPointsRow.goesBy Tryz.pinned.checked.prog:=by kernel_rfl
theorem j9:(Rows.morphPointsRow.plainKeys==Tryz.pinned.checked.prog.plainKeys)=true:=by kernel_rfl
theorem j10:(Rows.morphPointsRow.lifted==Tryz.pinned.checked.prog.liftsFinal)=true:=by kernel_rfl
theorem j11:(Tryz.pinned.checked.prog.make==some Rows.morphPointsRow.make)=true:=by kernel_rfl
theorem closed:joinedFacts Tryz.pinned.checked.prog 5 Tryz.f5 (OpenSpec.ofChange Rows.morphPointsSpec).bare Rows.morphPointsRow=true:=by
 unfold joinedFacts;rw[j1,j2,j3,j4,j5,j6,j9,j10,j11,js2,js3]
 kernel_rfl
theorem said:Rows.MorphPointsSaid:=
 OpenClaim.holds_of_cond 5 Tryz.f5 J J J J J J J ⟨J,J,J,J,J⟩ J J J J J (by kernel_rfl) Tryz.func5 closed
  (of_decide_eq_true (by kernel_rfl)) (by unfold Func.isWrapper;first|(rw[if_pos (by decide+kernel)];kernel_rfl)|(rw[if_neg (by decide+kernel)];exact⟨J,J⟩))
  (fun os started H enc _ F=>by rw[OpenClaim.pre_eq_preRow];exact lifted os started H enc F)
theorem plain(f:FuncId)(fn:Func)(hf:Tryz.pinned.checked.prog.funcNamed "bspregion/bspregionlaw29.MorphPoints" =some f)(hfn:Tryz.pinned.checked.prog.funcs[f]? =some fn):
  true=Tryz.pinned.checked.prog.looks []/\ ∀(j:Nat) t,fn.params[j]? =some t->Tryz.pinned.checked.prog.wantsStandIn t=false:=by
 obtain rfl:f=5:=Option.some.inj ((show Tryz.prog.funcNamed "bspregion/bspregionlaw29.MorphPoints" =some 5 by kernel_rfl).symm.trans hf) |>.symm;obtain rfl:fn=Tryz.f5:=(Option.some.inj (Tryz.func5.symm.trans hfn)).symm;refine⟨by kernel_rfl,fun j t ht=>?_⟩;rw[Tryz.params5] at ht;have hm:=Array.mem_of_getElem? ht;simp only[List.mem_toArray,List.mem_cons,List.not_mem_nil,or_false] at hm;subst hm;exact(show Tryz.prog.wantsStandIn 22=false by kernel_rfl)
theorem card:Rows.MorphPointsCardSaid:=
 Claim7.holds_tied_plain_at .later [] _ _ _ _ said (fun _ h=>by cases h) (by kernel_rfl) (fun _ h=>by cases h) morphPoints_row_tie J ⟨J,J⟩ j7 J plain j8
#print axioms card
end Go.Proofs.YtjpdfobnjmflkaaGreatDoor.morphPoints
end
