import Derived.Test.YtnnpcjkdmmjknaaGreatDoorMg21
import Derived.Test.YtnnpcjkdmmjknaaGreatDoorCards
import Derived.Test.YtnnpcjkdmmjknaaGreatDoorTie
import Derived.WalkKit
import Derived.ProofKit
import Derived.OpenShut
import Derived.Deep.DeepHandedRow
import Derived.Deep.DeepWitnessRowRef
import Derived.LaidMore
import Derived.Lib.LaidTab
import Derived.SizedLaws
import Derived.Stop.LaidErr
import Derived.MakeChecks
set_option linter.all false
set_option maxHeartbeats 2000000
set_option maxRecDepth 100000
section
namespace Go.Sx
open Go Go.Proofs Tryz
variable {GB:Gh}{m:Rat}{k a n kb e k0 b a':Nat}{V:List ah}{c:ar}{q p:ah}{r:List ZP}{t u:Tr}{ai al ae:Addr}{es es0:List Int}
theorem zJ{m:Int}(h:m.natAbs<2^k)(hk:0<k:=by decide):BQ (m:Rat) k:=⟨by rw[oZ];exact h,by rw[oX];exact dZ (show 1<2^1 by decide) (bR (by decide) hk)⟩
theorem yW(h: ∀v∈V,ZB v): ∀v∈V,aG v 4:=fun v hv=>by
 obtain⟨m,n,rfl,h1,h2⟩:=h v hv;exact⟨zJ (by omega),zJ (by omega)⟩
theorem xJ{l:aa}(hk:BL l k)(h62:k+5<=62)(hV:V≠[])(hz: ∀v∈V,ZB v):BQ (l.a:Rat) 62/\BQ (l.b:Rat) 62/\BQ ((l.c:Rat)-kg l.nor V) 62:=by
 obtain⟨v,hv,e⟩:=(sh (n:=l.nor) hV).2;obtain⟨m,n,rfl,h1,h2⟩:=hz v hv;have e2:(l.c:Rat)-kg l.nor V=((l.c-(l.a*m+l.b*n):Int):Rat):=by
  rw[e];unfold ah.dot aa.nor iP;rw[iR,lV,cW,cW]
 have b1:=i5 (gR hk.a) h1;have b2:=i5 (gR hk.b) h2;have ka:=hk.a;have kb:=hk.b;have kc:=hk.c;have hp:2^k*32<=2^62:=by
  rw[show 2^k*32=2^(k+5) by rw[eY]];exact bR (by decide) h62
 rw[e2];generalize 2^k=w at*;refine⟨zJ (by omega),zJ (by omega),zJ (by omega)⟩
def yV(hc:bD c)(hk: ∀s∈c,BL s.l k)(hq:q∈Ak (c.map fun s=>s.l)):QD (2*k+1) q:=by
 unfold Ak at hq;split at hq
 .obtain⟨l,hl,rfl⟩:=aT.1 hq
  obtain⟨s,hs,rfl⟩:=aT.1 hl;exact Q8 (hk s hs) (hc.ok s hs)
 .obtain⟨l,hl,m,hm,hx,rfl⟩:=MV hq
  obtain⟨s,hs,rfl⟩:=aT.1 hl;obtain⟨u,hu,rfl⟩:=aT.1 hm;exact R1 (hk s hs) (hk u hu) hx
theorem xO{a:Rat}{D:Nat}{z:Int}(hD:0<D)(h:a*((D:Int):Rat)=(z:Rat))(h1:z.natAbs<2^k)(h2:D<2^k):BQ a k:=by
 have e:=Ga hD h;have d1:a.den∣D:=by
  have e2:a.num.natAbs*D=z.natAbs*a.den:=by
   have:=congrArg Int.natAbs e;rwa [fR,fR,fU,fU] at this
  exact a.reduced.symm.dvd_of_dvd_mul_left ⟨z.natAbs,by rw[e2,cK]⟩
 obtain⟨m,hm⟩:=d1;have hden:=Nat.le_of_dvd hD ⟨m,hm⟩;have hm0:0<m:=iK fun k=>by rw[k] at hm;omega
 have e2:a.num*(m:Int)=z:=by
  rw[hm] at e;have hdn:(a.den:Int)≠0:=by have:=a.den_pos;omega
  refine Int.eq_of_mul_eq_mul_right hdn ?_;rw[<-e];push_cast;rw[Int.mul_assoc,sZ (m:Int)]
 refine⟨eK ?_ h1,eK hden h2⟩;rw[<-e2,fR,fU];exact mR _ hm0
theorem xN(hc:bD c)(ha:gz c)(hk: ∀s∈c,BL s.l k)(h62:2*k+10<=62){f:ah×ah}(hn: ¬((bE f).x=0/\(bE f).y=0))(h1:ZB f.1)(h2:ZB f.2)(hf:hH c (bE f)=some m):BQ (bE f).x 62/\BQ (bE f).y 62/\BQ (-(m+(bE f).dot f.1)) 62:=by
 obtain⟨e1,e2⟩:=Na hc ha hn hf;obtain⟨q,hq,e3⟩:=(sh (n:=bE f) e2).2;rw[e1] at e3;obtain⟨D,X,Y,hD0,hD,hX,hY,x1,y1⟩:=yV hc hk hq;obtain⟨m1,n1,p1,a1,a2⟩:=h1;obtain⟨m2,n2,p2,a3,a4⟩:=h2;have nx:(bE f).x=((n1-n2:Int):Rat):=by unfold bE;rw[p1,p2];unfold iP;rw[iR];grind
 have ny:(bE f).y=((m2-m1:Int):Rat):=by unfold bE;rw[p1,p2];unfold iP;rw[iR]
 generalize hA:n1-n2=A at nx;generalize hB:m2-m1=B at ny;have key: -(m+(bE f).dot f.1)*((D:Int):Rat)=((-(A*X+B*Y+(A*m1+B*n1)*D):Int):Rat):=by
  rw[e3,p1];unfold ah.dot iP;dsimp only;rw[nx,ny];simp only[cW,jQ,lV];rw[<-x1,<-y1];grind
 have hA16:A.natAbs<=16:=by omega
 have hB16:B.natAbs<=16:=by omega
 have b0:(D:Int).natAbs<=2^(2*k+1):=hD;have b3:=i5 hA16 hX;have b4:=i5 hB16 hY;have b5:(A*m1+B*n1).natAbs<=256:=by
  have:=i5 hA16 a1;have:=i5 hB16 a2;omega
 have b6:=i5 b5 b0;have e8:2^(2*k+10)=2^(2*k+1)*512:=by rw[show 2*k+10=2*k+1+9 by omega,eY]
 have e9:2^(2*k+1)*512<=2^62:=by
  rw[<-e8];exact bR (by decide) h62
 have w0:0<2^(2*k+1):=fX (by decide);rw[nx,ny];refine⟨zJ (by omega),zJ (by omega),xO hD0 key ?_ ?_⟩
 .generalize 2^(2*k+1)=w at*;omega
 .generalize 2^(2*k+1)=w at*;omega
theorem zR(h:ew r): ∀u∈r.map ZP.q,aG u 8:=fun u hu=>by
 obtain⟨p,hp,rfl⟩:=aT.1 hu;obtain⟨h1,h2⟩:=h.le p hp;exact⟨zJ (by omega),zJ (by omega)⟩
def yT(h:th r)(hc:lI (r.map ZP.q)=true):PF GB prog 115 [mm r] (.tp [.sl ((r.map ZP.q).map eZ), .v .nilIface]):=by
 have hn:=h.ok.n6;have hl:(r.map ZP.q).length=r.length:=aX ..;refine fn func115 J J ntmps115 J J (fun C=>?_);refine cl (fu:=⟨12⟩) J (ayH h.ok h.c3) J<|cd J J J<|cl (fu:=⟨0⟩) J (V7 (v:=r.map ZP.q) (i:=8) (zR h.ok) (by decide) (by omega)) J<|?_;refine ak 17 (.d (.v (.bool true))) J (by rw[hc]<;>rfl) ?_;refine kG 17 J ?_;refine gx J<|?_;exact rz J J
def zA(c:ar)(V:List ah)(k:Nat):List aa:=(c.map fun s=>kr s.l V)++((b8 V).take k).filterMap (mp c)
def yQ(c:ar)(V:List ah):zA c V 0=c.map fun s=>kr s.l V:=by unfold zA;simp
def zI(c:ar)(V:List ah):zA c V (b8 V).length=jB c V (b8 V):=by unfold zA jB;rw[dQ]
def zH(c:ar)(V:List ah)(k:Nat):(zA c V k).length<=c.length+V.length:=by
 unfold zA;rw[aU,aX];have h1:=mV (mp c) ((b8 V).take k);have h2:((b8 V).take k).length<=V.length:=by rw[cR];unfold b8;rw[aX,lQ];omega
 omega
def zY{f:ah×ah}(h:(b8 V)[k]? =some f)(hf:hH c (bE f)=some m):(zA c V k).map cO++[cO (d7 (bE f).x (bE f).y (-(m+(bE f).dot f.1)))]=(zA c V (k+1)).map cO:=by
 unfold zA;rw[eM,h];simp only[pU,List.filterMap_append,rZ,List.filterMap_nil];rw[show mp c f=some (d7 (bE f).x (bE f).y (-(m+(bE f).dot f.1))) by unfold mp;rw[hf];rfl];simp
def zZ{f:ah×ah}(h:(b8 V)[k]? =some f)(hf:hH c (bE f)=none):zA c V k=zA c V (k+1):=by
 unfold zA;rw[eM,h];simp only[pU,List.filterMap_append,rZ,List.filterMap_nil];rw[show mp c f=none by unfold mp;rw[hf];rfl];simp
def yG{s:bz}(h:c[k]? =some s):((c.take k).map fun s=>kr s.l V).map cO++[cO (kr s.l V)]=((c.take (k+1)).map fun s=>kr s.l V).map cO:=by
 rw[eM,h,bV,bV];rfl
def yJ(l:List aa):cP 9 (l.map cO):=fun d hd=>by
 obtain⟨x,_,rfl⟩:=aT.1 hd;exact⟨J,J⟩
def yS(h1:V[k]? =some p)(h2:V[(k+1)%V.length]? =some q):(b8 V)[k]? =some (p,q):=by
 have hk:=(aY.1 h1).1;unfold b8;rw[bS,oT hk];show some (V.getD k ⟨0,0⟩,V.getD ((k+1)%V.length) ⟨0,0⟩)=_;rw[aK,aK,h1,h2];rfl
theorem xM(hc:ek c){n:ah}[hn:aG n 9](h:hH c n=some m):BQ m 7019:=by
 unfold hH at h;split at h
 .cases h
 .rename_i h0
  split at h
  .cases h
  .cases h
   have hne:c≠[]:=fun e=>h0 (by rw[e];rfl);exact Qd (n:=n) (i:=9) (Sn hc) (RK hne)
theorem xU[hp:aG p 4][hq:aG q 4]:aG (bE (p,q)) 9:=by
 have h:=Ex q p (i:=4) (j:=4);exact⟨inferInstanceAs (BQ (-(q.y-p.y)) 9),inferInstanceAs (BQ (q.x-p.x) 9)⟩
def xE{d:ar}(hV:j0 V)(hc:ek c)(hg:bD c)(ha:gz c)(hk: ∀s∈c,BL s.l kb)(h62:2*kb+10<=62)(hn:c.length<=900)(hd:jf (jB c V (b8 V)) []=some d):PF GB prog 117 [eC c, .sl (V.map eZ)] (eC d):=by
 have hVb:=yW hV.zb;have hV4:=hV.le;have hml:(c.map c7).length=c.length:=aX ..;have hpl:(b8 V).length=V.length:=by unfold b8;rw[aX,lQ]
 have hrl:(nG V).length=(b8 V).length:=by unfold nG;rw[aX,lQ,hpl]
 refine IX func117 J J ntmps117 J J (fun C h0=>?_);refine JW 5 0 50 291 9 J J J J J ?_;refine lp (X:=Nat) (fun k=>[(22, .d (vI (k:Nat))),(5, .ov 5 0)]) (fun k=>[(5,some (.o 188 [.rw 50] true)),(50,some (.b 291 9 (((c.take k).map fun s=>kr s.l V).map cO) true))]) (fun k=>k<=c.length) (fun k=>c.length-k) 0 J (bZ _) (fun _=>J) (fun k hkc=>?_);have hm3:(((c.take k).map fun s=>kr s.l V).map cO).length<=k:=by rw[aX,aX,cR];omega
 refine br J J J (fun hc23=>?_) (fun hc23=>?_)
 .obtain⟨s,hx⟩: ∃u,c[k]? =some u:=⟨_,aZ (by omega)⟩
  have hsm:=aV hx;haveI:=(hc s hsm).lb;obtain⟨q1,q2,q3⟩:=xJ (hk s hsm) (by omega) hV.br.vne hV.zb;haveI hl0:=Qd (n:=s.l.nor) (i:=97) hVb hV.br.vne;have hne:=Ji (hg.ok s hsm);refine ix _ J (cH hx) J<|cl J (wj (l:=s.l)) J<|cl J (OF (n:=s.l.nor) (l:=V) (i:=97) (j:=4) hVb hV.br.vne (by decide) (by decide) (by omega)) J<|?_;refine cl J (qE (p:=(s.l.c:Rat)) (q:=kg s.l.nor V) (i:=97) (j:=97+4+(97+4)+1)) J<|cl J (Si (a:=(s.l.a:Rat)) (b:=(s.l.b:Rat)) (c:=(s.l.c:Rat)-kg s.l.nor V) hne) J<|?_;refine rf J J<|ap (((c.take (k+1)).map fun s=>kr s.l V).map cO) J (yG hx) (yJ [_]) J<|?_;refine fH 47 50 J ?_;exact at_ (k+1) ⟨(by omega),(by omega)⟩
 .obtain rfl:k=c.length:=by omega
  rw[dQ,<-yQ c V];refine Gv J J J Hk (fun _=>J) (fun GB1 pv hg1 hpv=>?_);refine yh 2 2000002 h0.fx J<|yh 5 2000005 h0.fx J ?_;refine J3 (σ:=Empty) (fun k=>[(2000002,some (.o 194 [.d (eC c)] true)),(2000005,some (.o 188 [.rw 50] true)),(50,some (.b 291 9 ((zA c V k).map cO) true))]) (fun _=>True) (fun _=>[]) (fun _=>False) [(2, .ov 2000002 0),(5, .ov 2000005 0)]
   h0 J (GF) (.cons hpv .nil) ⟨J,J,trivial⟩ J ⟨J,J,J,trivial⟩ trivial HZ J J (fun k e GB' hE hg2 hp=>?_) (fun D hD hx hp=>?_) (fun D s hD hx hq=>hq.elim)
  .obtain⟨q1,q2,hpx,hqx,rfl⟩:=Ir hE
   haveI:=hVb q1 (aV hpx);haveI:=hVb q2 (aV hqx);have z1:=hV.zb q1 (aV hpx);have z2:=hV.zb q2 (aV hqx);have hpr:=yS hpx hqx;have hnz:=hV.br.nz (aV hpr);haveI hn9:aG (bE (q1,q2)) 9:=xU;refine⟨?_,?_,fun C2=>?_,fun C2=>?_⟩
   rotate_left 2
   .refine gx J<|Ip J J J ⟨J,J,J⟩ J ?_
    exact atR
   .skip
    refine gx J<|?_;refine o9 1 (e:=122) (len:=2) (s:=6) J (by kernel_rfl) (by kernel_rfl) (by decide) J<|o9 0 (e:=122) (len:=2) (s:=6) J (by kernel_rfl) (by kernel_rfl) (by decide) J<|?_;refine cl J (Ia (p:=q2) (q:=q1) (i:=4) (j:=4)) J<|cl (fu:=⟨0⟩) J (aEc (p:=⟨q2.x-q1.x,q2.y-q1.y⟩) (i:=9) (h:=Ex q2 q1)) J<|?_;refine ak 58 (.d (eZ (bE (q1,q2)))) J J ?_;refine gx J<|?_;rcases hf:hH c (bE (q1,q2)) with _|m
    .
     rw[zZ hpr hf];refine cl (fu:=⟨3⟩) J (VZ (c:=c) (n:=bE (q1,q2)) (j:=9) hc (by decide) (by omega) hf) J<|?_;refine r5 64 J ?_;refine gx J<|?_;exact rq trivial ⟨J,J,J,trivial⟩
    .
     obtain⟨u1,u2,u3⟩:=xN hg ha hk h62 hnz z1 z2 hf;haveI:BQ m 7019:=xM hc hf;have hm4:=zH c V k;have hm5:((zA c V k).map cO).length<=c.length+V.length:=by rw[aX];exact hm4
     refine cl (fu:=⟨3⟩) J (Wq (c:=c) (n:=bE (q1,q2)) (j:=9) hc (by decide) (by omega) hf) J<|?_;refine kG 64 J ?_;refine gx J<|o9 0 (e:=122) (len:=2) (s:=6) J (by kernel_rfl) (by kernel_rfl) (by decide) J<|cl J (vV (p:=bE (q1,q2)) (q:=q1) (i:=9) (j:=4)) J<|?_;refine cl J (sG (p:=m) (q:=(bE (q1,q2)).dot q1) (i:=7019) (j:=27)) J<|cl J (pI (q:=m+(bE (q1,q2)).dot q1) (i:=7047)) J<|?_;refine cl J (Si (a:=(bE (q1,q2)).x) (b:=(bE (q1,q2)).y) (c:= -(m+(bE (q1,q2)).dot q1)) hnz) J<|rf J J<|ap ((zA c V (k+1)).map cO) J (zY hpr hf) (yJ [_]) J<|?_;refine fH 84 50 J ?_;exact rq trivial ⟨J,J,J,trivial⟩
  .rw[hrl,zI]
   refine gx J<|fz 50 J J<|cl J (ayU (ls:=jB c V (b8 V)) (fun l hl=>⟨(KP hV.br hV.zb hg ha hk l hl).mono (by omega)⟩) (LE hV.br hg) (by have:=zH c V (b8 V).length;rw[zI] at this;omega) hd) J<|?_;exact ET hD hx J J
def yN(hV:j0 V)(ho:t.all aa.ok)(hrk:(t.restrict []).all fun l=>BL l kb)(hrb:(t.restrict []).all LB)(h62:2*kb+10<=62)(hd:t.depth<=800)(hu:u∈(eu (t.restrict [])).map (fj V (b8 V))):u.gd/\u.size<=65536:=by
 obtain⟨c,hc,rfl⟩:=aT.1 hu;obtain⟨g1,g2⟩:=wS ho c hc;have hbk:=yk (P:=fun l=>BL l kb) (fun l h=>h.rev) hrk (fun s hs=>by cases hs) (uG.1 hc);have h1:=KP hV.br hV.zb g1 g2 hbk;refine⟨⟨Ii fun l hl=>⟨(h1 l hl).mono (by omega)⟩,CV hV.br g1 g2⟩,?_⟩;unfold fj;rw[RP];have h2:=BU (jB c V (b8 V));have h3:=zH c V (b8 V).length;rw[zI] at h3;have h4:=IU hrb (t.restrict_all aa.ok [] ho) c hc;have:=t.restrict_depth [];have:=hV.le;omega
def yM{cs:List ar}(h:cs[k]? =some c):((cs.take k).map (fj V (b8 V))).map eU++[eU (fj V (b8 V) c)]=((cs.take (k+1)).map (fj V (b8 V))).map eU:=by
 rw[eM,h,bV,bV];rfl
def yY(hE:EG GB ai al ae)(hV:j0 V)(hb:t.all LB)(ho:t.all aa.ok)(hk:t.all fun l=>BL l kb)(h62:2*kb+10<=62)(hd:t.depth<=800)(hs:t.size<=60000)(hq:oG 1 (Tr.leaf false) ((eu (t.restrict [])).map (fj V (b8 V)))=some u):PF GB prog 94 [eU t, .sl (V.map eZ)] (.tp [eU u, .v .nilIface]):=by
 obtain⟨cs,hcs⟩: ∃cs,cs=eu (t.restrict []):=⟨_,rfl⟩;rw[<-hcs] at hq;have hrs:=t.restrict_size [];have hrd:=t.restrict_depth [];have hrb:=t.restrict_all LB [] hb;have hro:=t.restrict_all aa.ok [] ho;have hrk:=t.restrict_all _ [] hk;have hcl:cs.length<=60001:=by rw[hcs];exact cS (Sg _) (by omega)
 have hml:(cs.map eC).length=cs.length:=aX ..;refine fn func94 J J ntmps94 J J (fun C=>?_);refine cl (fu:=⟨0⟩) J (yp (t:=t) (by omega)) J<|cd J (by show some (decide _)=some false;rw[decide_eq_false (by omega)]) J<|cl J (R9 (t:=t) hb ho) J<|?_;refine cl (fu:=⟨0⟩) J (aDB (t:=t.restrict []) hrb hro (by omega) (by omega)) J<|?_;refine ak 16 (.d (.sl (cs.map eC))) J (by rw[hcs]) ?_;refine gx (fu:=⟨1⟩) J<|?_;refine ak 17 (.d (vI (cs.length:Nat))) J (by rw[hml]<;>rfl) ?_;refine gx J<|?_;refine nr 6 6 171 1 J J J ?_;refine lp (X:=Nat) (fun k=>[(18, .d (vI (k:Nat))),(6, .rw 6)]) (fun k=>[(6,some (.b 171 1 (((cs.take k).map (fj V (b8 V))).map eU) true))]) (fun k=>k<=cs.length) (fun k=>cs.length-k) 0 J (bZ _) (fun _=>J) (fun k hk=>?_);have hm3:(((cs.take k).map (fj V (b8 V))).map eU).length<=k:=by rw[aX,aX,cR];omega
 refine br (fu2:=⟨0⟩) J J J (fun hc19=>?_) (fun hc19=>?_)
 .
  obtain⟨c,hx⟩: ∃u,cs[k]? =some u:=⟨_,aZ (by omega)⟩;have hcm:c∈eu (t.restrict []):=by rw[<-hcs];exact aV hx
  obtain⟨g1,g2⟩:=wS ho c hcm;have hck:=(C7 hrb hro ek.nil (uG.1 hcm)).1;have hbk:=yk (P:=fun l=>BL l kb) (fun l h=>h.rev) hrk (fun s hs=>by cases hs) (uG.1 hcm);have hsh:=IU hrb hro c hcm;obtain⟨d,d1,d2,d3,d4,d5⟩:=HE hV.br g1 g2;have hdl:d.length<=c.length+4:=by have h1:=BU (jB c V (b8 V));have h2:=zH c V (b8 V).length;rw[zI] at h2;rw[d5,aX] at h1;have:=hV.le;omega
  have hml2:(d.map c7).length=d.length:=aX ..;refine ix _ J (cH hx) J<|cl (fu:=⟨8⟩) J (xE (c:=c) (d:=d) (V:=V) (kb:=kb) hV hck g1 g2 hbk h62 (by omega) d1) J<|?_;refine ak 26 (.d (vI (d.length:Nat))) J (by rw[hml2]<;>rfl) ?_;refine gx (fu:=⟨0⟩) J<|cd J (by show some (decide _)=some false;rw[decide_eq_false (by omega)]) J<|cl (fu:=⟨0⟩) J (Vh (c:=d) (by omega)) J<|?_;refine ak 31 (.d (eU (fj V (b8 V) c))) J (by unfold fj;rw[d5]) ?_;refine gx J<|rf J J<|ap (((cs.take (k+1)).map (fj V (b8 V))).map eU) J (yM hx) (aFk [_]) J<|?_;refine fH 33 6 J ?_;exact at_ (k+1) ⟨(by omega),(by omega)⟩
 .
  obtain rfl:k=cs.length:=by omega
  rw[dQ];refine tj 6 J ?_;refine gx J<|cl J (nP (b:=false)) J<|cl J (WD hE (op:=1) (a:= .leaf false) (us:=cs.map (fj V (b8 V))) ⟨trivial,trivial⟩ (by decide) (fun u hu=>yN hV ho hrk hrb h62 hd (hcs▸hu)) (by rw[aX];omega) (by rw[if_neg (by decide)];exact hq)) J<|?_;exact rz J J
def xR(hE:EG GB ai al ae)(hV:j0 V)(hb:t.all LB)(ho:t.all aa.ok)(hk:t.all fun l=>BL l kb)(h62:2*kb+10<=62)(hd:t.depth<=800)(hs:t.size<=60000)(hq:oG 1 (Tr.leaf false) ((eu (t.compl.restrict [])).map (fj (V.map bG) (b8 (V.map bG))))=some u):PF GB prog 96 [eU t, .sl (V.map eZ)] (.tp [eU u.compl, .v .nilIface]):=by
 have hVb:=yW hV.zb;have hV4:=hV.le;refine fn func96 J J ntmps96 J J (fun C=>?_);refine cl J (uS (t:=t)) J<|cl J (Xq (l:=V) (j:=4) hVb (by decide) (by omega)) J<|cl (fu:=⟨11⟩) J (yY hE hV.neg (t:=t.compl) (u:=u) (kb:=kb) (t.compl_all _ hb) (t.compl_all _ ho) (t.compl_all _ hk) h62 (by rw[t.compl_depth];exact hd) (by rw[t.compl_size];exact hs) hq) J<|?_;refine cd J J J<|cl J (uS (t:=u)) J<|?_;exact rz J J
section
variable {C:aD}{Q0:Exit->Act->World->Prop}{fr fr':aC}{own own':aH}{cf cf':Cf}{vc:List Prop}{ops:Array Oper}{r:List Oper}{K:List Kt}
def xS(fr:aC)(cf:Cf):Option (TypeId×DV):=match dd fr cf with
 |some ⟨_, .load t x,_,_,_,_⟩=>match bj (b9 fr cf) x with
  |some (.ep (d::_))=>some (t,d)
  |_=>none
 |_=>none
def xY[fu:Fu]{t:TypeId}{d:DV}{D:TypeDesc}{j:TypeInfo}(h:xS fr cf=some (t,d))(hu:prog.underlying t=some D)(hD:Ym D=true)(hj:prog.info? t=some j)(hs:j.size=1)
  (hgo:cI tt n fu.n fr own cf (.d d) [] []=⟨vc,fr',own',cf'⟩)(k':aw prog GB C n Q0 fr' own' cf')
  (hv:autoParam (aj vc) cL._auto_1):aw prog GB C n Q0 fr own cf:=by
 unfold xS at h;split at h<;>try (cases h;done)
 rename_i hh;split at h<;>cases h;rename_i hx;have:iF prog t:=⟨fun w=>by(rw[Bq hu w];cases D<;>first|rfl|(cases hD;done)),fun w=>by rw[vp hj w,hs]⟩;refine us hh ?_ hgo hv k';refine .yd fun ρ G ov a w r=>?_;obtain⟨y,h1,h2⟩:=r.ev hx;obtain⟨b,o,ms,m,rfl,hb,ht,hm⟩:=h2;obtain⟨l',h3,h4⟩:=hm.get (i:=0) rfl;have:=Jq ht (i:=0) (Nat.succ_pos _);rw[fK] at this;exact⟨l',h4,p8 h1 hb (by rw[this];exact h3)⟩
def yX(i:TI)(fr:aC)(cf:Cf):Option Lz:=match dd fr cf with
 |some ⟨some d, .buildSlice t len parts,_,_,_,_⟩=>match d8 tt t with
  |some ⟨.sl e s _,_,_,_⟩=>match pe i with
   |some z=>match wL (b9 fr cf) 0 parts.toList with
    |some ds=>bif Nat.beq z.cells.length s&&(DY s ds&&(Nat.beq parts.toList.length len&&(Nat.ble (len*s) 1000&&Nat.blt 0 (len*s)))) then some ⟨d,e,s,ds⟩ else none
    |none=>none
   |none=>none
  |_=>none
 |_=>none
def xW[fu:Fu](i:TI){d s:Nat}{ds:List DV}(h:yX i fr cf=some ⟨d,e,s,ds⟩)(hi:e7 prog e=some i)(hgo:cI tt n fu.n fr own cf (.d (.sl ds)) [(d,none)] [d]=⟨vc,fr',own',cf'⟩)(k:aw prog GB C n Q0 fr' own' cf')
  (hv:autoParam (aj vc) cL._auto_1):aw prog GB C n Q0 fr own cf:=by
 unfold yX at h;split at h<;>try (cases h;done)
 rename_i hh;split at h<;>try (cases h;done)
 rename_i hT;split at h<;>try (cases h;done)
 rename_i hz;split at h<;>try (cases h;done)
 rename_i hr;rw[cond_eq_ite] at h;split at h<;>cases h;rename_i hc;simp only[cZ] at hc;have:=lP (eE _ _ hT) J;exact us hh ((Sv (GB:=GB) (C:=C) (n:=n) (bk:=jv fr own cf) hi hz hc.1 hr hc.2.1 hc.2.2.1 hc.2.2.2.1 hc.2.2.2.2).frzRow J) hgo hv k
end
def xX(f:FuncId):DV:= .v (.func (.func f) #[] #[])
def yE{fs:List FuncId}{ts:Nat->Tr}(h0:fB k0 (ts 0))(hr:th r)(hc:lI (r.map ZP.q)=true)(hF: ∀k f,fs[k]? =some f->PF GB prog f [eU (ts k), .sl ((r.map ZP.q).map eZ)] (.tp [eU (ts (k+1)), .v .nilIface]))(hb:(ts fs.length).all LB)(hs:(ts fs.length).size<=1000000)(hn:fs.length<=1000):PF GB prog 93 [eA (ts 0),mm r, .sl (fs.map xX)] (.tp [eA (ts fs.length), .v .nilIface]):=by
 have hml:(fs.map xX).length=fs.length:=aX ..;refine fn func93 J J ntmps93 J J (fun C=>?_);refine cl (fu:=⟨12⟩) J (HA (t:=ts 0) h0) J<|?_;refine ak 20 (.d (.v (.bool false))) J J ?_;refine r5 20 J ?_;refine gx J<|cl (fu:=⟨11⟩) J (yT hr hc) J<|cd (fu:=⟨10⟩) J J J<|?_;refine ak 33 (.d (vI (fs.length:Nat))) J (by rw[hml]<;>rfl) ?_;refine gx J<|?_;refine lp (X:=Nat) (fun k=>[(34, .d (vI (k:Nat))),(8, .d (eU (ts k)))]) (fun k=>[]) (fun k=>k<=fs.length) (fun k=>fs.length-k) 0 J (bZ _) (fun _=>J) (fun k hk=>?_);refine br J J J (fun hc35=>?_) (fun hc35=>?_)
 .
  obtain⟨f,hx⟩: ∃u,fs[k]? =some u:=⟨_,aZ (by omega)⟩;refine ix (fu:=⟨0⟩) _ J (cH hx) J<|xY (fu:=⟨8⟩) (d:= .v (.func (.func f) #[] #[])) J J J J J J<|UT (fu:=⟨10⟩) J .nil .nil (hF k f hx) J<|cd J J J<|?_;exact at_ (k+1) ⟨(by omega),(by omega)⟩
 .
  obtain rfl:k=fs.length:=by omega
  refine cl J (XY (t:=ts fs.length) hb hs) J<|?_;exact rz J J
def xV(t u:Tr):Nat->Tr
 |0=>t
 |_=>u
def zB(V:List ah)(t:Tr):Tr:=m6 V (b8 V) t
def zP(V:List ah)(t:Tr):Tr:=(zB (V.map bG) t.compl).compl
def zL(hV:j0 V)(h:lE t):fB 54 (zB V t)/\(zB V t).Red []/\(zB V t).all (fun l=>BL l 26):=(J1 hV h).2
def yD(hV:j0 V)(h:lE t):fB 54 (zP V t)/\(zP V t).Red []/\(zP V t).all (fun l=>BL l 26):=by
 obtain⟨h1,h2,h3⟩:=zL hV.neg h.compl;exact⟨h1.compl,Tr.compl_red h2,Tr.compl_all _ _ h3⟩
def xI(hE:EG GB ai al ae)(hV:j0 V)(h:lE t):PF GB prog 94 [eU t, .sl (V.map eZ)] (.tp [eU (zB V t), .v .nilIface]):=
 yY hE hV h.x.lb h.x.ok h.bl (by decide) (by have:=h.dp;omega) (by have:=h.x.s;omega) (J1 hV h).1
def xH(hE:EG GB ai al ae)(hV:j0 V)(h:lE t):PF GB prog 96 [eU t, .sl (V.map eZ)] (.tp [eU (zP V t), .v .nilIface]):=
 xR hE hV h.x.lb h.x.ok h.bl (by decide) (by have:=h.dp;omega) (by have:=h.x.s;omega) (J1 hV.neg h.compl).1
def yK(hE:EG GB ai al ae)(hr:th r)(hc:lI (r.map ZP.q)=true)(hV:j0 (r.map ZP.q))(h:lE t):PF GB prog 30 [eA t,mm r] (.tp [eA (zB (r.map ZP.q) t), .v .nilIface]):=by
 have hx:=(zL hV h).1;have hst:PF GB prog 93 [eA t,mm r, .sl [.v (.func (.func 94) #[] #[])]] (.tp [eA (zB (r.map ZP.q) t), .v .nilIface]):=yE (fs:=[94]) (ts:=xV t (zB (r.map ZP.q) t)) h.x hr hc (fun k f hk=>by match k,hk with|0,hk=>cases hk;exact xI hE hV h|k+1,hk=>simp at hk) hx.lb (by have:=hx.s;show(zB (r.map ZP.q) t).size<=_;omega) (by simp);refine fn (fu:=⟨11⟩) func30 J J ntmps30 J J (fun C=>?_);refine xW ⟨.o,1,some [.d (.v .nilFunc)],false⟩ J (by kernel_rfl) J<|cl J hst J<|?_;exact rz J J
def xG(hE:EG GB ai al ae)(hr:th r)(hc:lI (r.map ZP.q)=true)(hV:j0 (r.map ZP.q))(h:lE t):PF GB prog 32 [eA t,mm r] (.tp [eA (zP (r.map ZP.q) t), .v .nilIface]):=by
 have hx:=(yD hV h).1;have hst:PF GB prog 93 [eA t,mm r, .sl [.v (.func (.func 96) #[] #[])]] (.tp [eA (zP (r.map ZP.q) t), .v .nilIface]):=yE (fs:=[96]) (ts:=xV t (zP (r.map ZP.q) t)) h.x hr hc (fun k f hk=>by match k,hk with|0,hk=>cases hk;exact xH hE hV h|k+1,hk=>simp at hk) hx.lb (by have:=hx.s;show(zP (r.map ZP.q) t).size<=_;omega) (by simp);refine fn (fu:=⟨11⟩) func32 J J ntmps32 J J (fun C=>?_);refine xW ⟨.o,1,some [.d (.v .nilFunc)],false⟩ J (by kernel_rfl) J<|cl J hst J<|?_;exact rz J J


def Tr.partsF:Tr->ar->List (Bool×ar)
 | .leaf b,c=>[(b,c)]
 | .node l x y,c=>(if co c l then x.partsF (yy c l) else [])++(if co c l.rev then y.partsF (yy c l.rev) else [])
def Tr.parts_F: ∀(t:Tr) (c:ar),t.parts c=t.partsF c
 | .leaf _,_=>rfl
 | .node l x y,c=>by rw[Tr.parts,Tr.partsF,Fo,Fo,x.parts_F,y.parts_F]
def yH(V:List ah)(E:List (ah×ah))(c:ar):vT V E [c] (.leaf false)=(fj V E c).restrict []:=by
 show(Tr.leaf false).mergeQ 1 (fj V E c) []=_;rw[Tr.mergeQ];unfold Tr.chooseQ;rw[if_pos (.inl J),if_neg (by decide)]
def xT:List ah:=(eo 0 0 1 1).map ZP.q
def sqC:List ar:=((((((um [eo 0 0 1 1] 2).restrictF []).restrictF []).partsF []).filter (·.1)).map (·.2))
def xC:eu ((fI [eo 0 0 1 1] 2).restrict [])=sqC:=by
 unfold eu fI sqC;rw[Tr.restrict_F,Tr.restrict_F,Tr.parts_F]
def zU:Tr->Tr->Bool
 | .leaf a, .leaf b=>a==b
 | .node l x y, .node m u v=>decide (l=m)&&(zU x u&&zU y v)
 |_,_=>false
def zM: ∀{t u:Tr},zU t u=true->t=u
 | .leaf a, .leaf b,h=>by rw[eq_of_beq (show(a==b)=true from h)]
 | .node l x y, .node m u v,h=>by
  simp only[zU,cZ,decide_eq_true_eq] at h;rw[h.1,zM h.2.1,zM h.2.2]
 | .leaf _, .node ..,h=>by cases h
 | .node .., .leaf _,h=>by cases h
def yU{α:Type}{f:α->Bool}{l:List α}(h:l.map f=[true]): ∃c,l=[c]/\f c=true:=by
 cases l with
 |nil=>cases h
 |cons a t=>
  rw[bT,List.cons.injEq] at h;exact⟨a,by rw[List.map_eq_nil_iff.1 h.2],h.1⟩
def yP:(sqC.map fun c=>zU ((fj xT (b8 xT) c).restrictF []) ((um [eo 0 0 2 2] 2).restrictF []))=[true]:=by decide+kernel
def yO:m6 xT (b8 xT) (fI [eo 0 0 1 1] 2)=fI [eo 0 0 2 2] 2:=by
 obtain⟨c,hc,hr⟩:=yU yP;unfold m6;rw[xC,hc,yH,Tr.restrict_F,zM hr,<-Tr.restrict_F];rfl
section
variable {a b c:Tr}(ha:a.all aa.ok)(hb:b.all aa.ok)(hc:c.all aa.ok)
include ha hb
end
def yR(h:fB k t):PF GB prog 98 [eA t] (.tp [eT t,vB true]):=by
 obtain⟨p,h1,h2⟩:=Uk (rt:=t.num 0) (Nf h.lb) (Lv (by have:=h.s;omega));have:=h1 GB;rw[H5 h.ok,<-Nu,h2 t (H5 h.ok)] at this;exact this
def zO(h:ew r): ∀q∈[r],ew q:=fun q hq=>by rw[aS.1 hq];exact h
def zS(h:ew r):PF GB prog 16 [ku r] (mm r):=by
 have hn:=h.n6;have:=O1 (GB:=GB) (ps:=r.map ZP.q) (fun p hp=>aG.mono (zR h p hp)) (by rw[aX];omega);rw[Hn] at this;exact this
def zF(h:ew r):PF GB prog 52 [ku r] (eT (fI [r] 2)):=by
 refine fn func52 J J ntmps52 J J (fun C=>?_);refine rf (fu:=⟨0⟩) J J<|?_;refine ak 4 (.d (.sl ([r].map ku))) J J ?_;refine gx J<|cl J (aHL (rs:=[r]) (zO h) (by simp)) J<|cl J (aDw (rs:=[r]) (fill:=2) (zO h) (by simp)) J<|cl J (Ve (rs:=[r]) (fill:=2) (zO h) (by simp)) J<|?_;exact rz J J
def zN{a b:Int}(h1:a.natAbs<=50:=by decide)(h2:b.natAbs<=50:=by decide):PF GB prog 97 [.v (.int .i64 a), .v (.int .i64 b)] (ku (eo a a b b)):=by
 refine fn func97 J J ntmps97 J J (fun C=>?_);refine cl J (jk (m:=a) (n:=a)) J<|cl J (jk (m:=b) (n:=a)) J<|cl J (jk (m:=b) (n:=b)) J<|?_;refine cl J (jk (m:=a) (n:=b)) J<|rf J J<|?_;exact rz J J
def yI:ew (eo 0 0 1 1):=J7
def xD:ew (eo 0 0 2 2):=J7
def sq01_br:j0 ((eo 0 0 1 1).map ZP.q)/\lI ((eo 0 0 1 1).map ZP.q)=true:=Md (a:=0) (b:=0) (c:=1) (d:=1)
def sq01_sm:lE (fI [eo 0 0 1 1] 2):=by
 have h1: ∀p∈eo 0 0 1 1,p.1.natAbs<=3/\p.2.natAbs<=3:=fun p hp=>by
  simp only[eo,aW,dR,or_false] at hp;rcases hp with rfl|rfl|rfl|rfl<;>exact⟨by decide,by decide⟩
 have:=Sd yI (by decide);exact J6 yI h1 (by rw[show(eo 0 0 1 1).length=4 from J];omega)
def yZ:qh (zB ((eo 0 0 1 1).map ZP.q) (fI [eo 0 0 1 1] 2)) (fI [eo 0 0 2 2] 2):=by
 have h1:=(zL sq01_br.1 sq01_sm).1;have h2:=Hq (fill:=2) (zO xD) (by simp);exact⟨h1.gd,h2.gd,h1.s,(h2.x (D1 _ _) (by decide)).s⟩
def xA:ue (zB ((eo 0 0 1 1).map ZP.q) (fI [eo 0 0 1 1] 2)) (fI [eo 0 0 2 2] 2)=true:=by
 rw[show zB ((eo 0 0 1 1).map ZP.q) (fI [eo 0 0 1 1] 2)=fI [eo 0 0 2 2] 2 from yO];have h2:=(Hq (fill:=2) (zO xD) (by simp)).gd.ok;exact Vw h2 h2 (L:=(fI [eo 0 0 2 2] 2).lns) (pA h2) (fun l hl=>hl) (fun l hl=>hl) fun p _=>J
def zQ(hE:EG GB ai al ae):PF GB prog 33 [] (.v (.bool true)):=by
 have hx:=(zL sq01_br.1 sq01_sm).1;refine fn func33 J J ntmps33 J J (fun C=>?_);refine cl J (zN (a:=0) (b:=1)) J<|cl J (zF yI) J<|cl J (Lf sq01_sm.x) J<|cl J (zN (a:=0) (b:=1)) J<|?_;refine cl J (zS yI) J<|cl J (yK hE (NU yI (by decide) (by decide)) sq01_br.2 sq01_br.1 sq01_sm) J<|cl (fu:=⟨10⟩) J (yR hx) J<|?_;refine c6 (fu:=⟨2⟩) J J J<|?_;refine kG 22 J ?_;refine gx J<|cl J (zN (a:=0) (b:=2)) J<|cl J (zF xD) J<|cl (fu:=⟨0⟩) J (ayI yZ) J<|?_;refine ak 28 (.d (.v (.bool true))) J (by rw[xA]<;>rfl) ?_;refine gx J<|?_;exact rz J J
def yF(hes:es.length<=400)(ha:a<=es.length):PM GB prog 28 (lA [none] b) b 107 [.sl (es.map vI), .v (.int .i64 (a:Nat))] (eT (l6 es a).1) [.sl (es.map vI), .v (.int .i64 ((l6 es a).2:Nat))]:=by
 have hk0:=iw (n:=4) ha;obtain⟨hl,hl2⟩:=PE hk0;obtain⟨hv,hv2⟩:=AU hk0;refine z' func28 J J ntmps28 J J (fun C b m lo hmb=>?_);refine cm J (fun b=>(oh (n:=4) hes ha)) J<|?_;refine br J J J (fun hc5=>?_) (fun hc5=>?_)
 .
  refine cm J (fun b=>(YX hes hk0)) J<|cl J (Dv (p:=true)) J<|cl (fu:=⟨1⟩) J (Dv (p:=false)) J<|Ec J J<|cl J (K5 (t:= .node (lF es (au es 4 a).2).1 (.leaf true) (.leaf false)) ⟨⟨hl.bl⟩,trivial,trivial⟩ ⟨hl.ok,trivial,trivial⟩ (by simp[Tr.depth])) J<|?_;exact om hmb J J (by rw[show l6 es a=_ from if_pos hc5];rfl) (by rw[show l6 es a=_ from if_pos hc5])
 .
  refine br J J J (fun hc14=>?_) (fun hc14=>?_)
  .
   refine cm J (fun b=>(H' hes hk0)) J<|cl J (zF hv) J<|?_;exact om hmb J J (by rw[show l6 es a=_ from(if_neg hc5).trans (if_pos hc14)];rfl) (by rw[show l6 es a=_ from(if_neg hc5).trans (if_pos hc14)])
  .
   refine br J J J (fun hc19=>?_) (fun hc19=>?_)
   .
    refine cm J (fun b=>(H' hes hk0)) J<|cl J (zF hv) J<|cl J (FE (t:=fI [(gp es (au es 4 a).2).1] 2)) J<|?_;exact om hmb J J (by rw[show l6 es a=_ from(if_neg hc5).trans ((if_neg hc14).trans (if_pos hc19))];rfl) (by rw[show l6 es a=_ from(if_neg hc5).trans ((if_neg hc14).trans (if_pos hc19))])
   .
    refine cl J (jk (m:=0) (n:=0) (by decide) (by decide)) J<|cl J (jk (m:=3) (n:=0) (by decide) (by decide)) J<|cl J (jk (m:=3) (n:=1) (by decide) (by decide)) J<|?_;refine cl J (jk (m:=1) (n:=1) (by decide) (by decide)) J<|cl J (jk (m:=1) (n:=3) (by decide) (by decide)) J<|cl J (jk (m:=0) (n:=3) (by decide) (by decide)) J<|?_;refine rf (fu:=⟨0⟩) J J<|?_;refine ak 31 (.d (ku vl)) J J ?_;refine gx J<|cl J (zF Ng) J<|?_;exact om hmb J J (by rw[show l6 es a=_ from(if_neg hc5).trans ((if_neg hc14).trans (if_neg hc19))];rfl) (by rw[show l6 es a=_ from(if_neg hc5).trans ((if_neg hc14).trans (if_neg hc19))])
def xP(hes:es.length<=400)(ha:a<=es.length)(hr:t=(l6 es a).1)(ha':a'=(l6 es a).2):PM GB prog 28 (lA [none] b) b 107 [.sl (es.map vI), .v (.int .i64 (a:Nat))] (eT t) [.sl (es.map vI), .v (.int .i64 (a':Nat))]:=by
 subst hr;subst ha';exact yF hes ha
def xQ(hes:es.length<=400)(ha:a<=es.length)(hr:r=(gp es a).1)(ha':a'=(gp es a).2):PM GB prog 29 (lA [none] b) b 107 [.sl (es.map vI), .v (.int .i64 (a:Nat))] (ku r) [.sl (es.map vI), .v (.int .i64 (a':Nat))]:=by
 subst hr;subst ha';exact H' hes ha
def zW(hV:j0 V)(h:lE t)(h0: ∀f∈b8 V,0<=bu f.1 f.2 ⟨0,0⟩):ml 3 t (zB V t)=true:=by
 obtain⟨h1,h2,h3⟩:=Qp hV.br h.x.ok;have hM: ∀l∈wv V (b8 V) t,l.ok:=fun l hl=>by
  obtain⟨c,hc,hlc⟩:=iU.1 hl;obtain⟨g,a⟩:=wS h.x.ok c hc;exact pA (CV hV.br g a) l hlc
 have hg:oE (t.lns++wv V (b8 V) t) t (zB V t):=⟨h.x.ok,h1,fun l hl=>(bW.1 hl).elim (pA h.x.ok l) (hM l),fun l hl=>bU _ hl,fun l hl=>bK _ (h2 l hl)⟩;refine hg.none.2 fun p hp=>?_;have o1:cF t.lns p:=fun l hl=>hp l (bU _ hl);have o2:cF (wv V (b8 V) t) p:=fun l hl=>hp l (bK _ hl)
 cases hv:t.val p with
 |false=>rfl
 |true=>rw[show(zB V t).val p=true from azC hV.br h.x.ok h0 o1 o2 hv];rfl
def yB(hV:j0 V)(h:lE t)(h0: ∀f∈b8 V,0<=bu f.1 f.2 ⟨0,0⟩):ml 3 (zP V t) t=true:=by
 have hk: ∀f∈b8 (V.map bG),0<=bu f.1 f.2 ⟨0,0⟩:=fun f hf=>by
  rw[NO] at hf;obtain⟨g,hg,rfl⟩:=aT.1 hf;have:=h0 g hg;have e:bu (t7 g).1 (t7 g).2 ⟨0,0⟩=bu g.1 g.2 ⟨0,0⟩:=by unfold bu t7 bG;dsimp only;grind
  rw[e];exact this
 have h4:=zW hV.neg h.compl hk;have ho:=(yD hV h).1.ok;have ho2:=(zL hV.neg h.compl).1.ok;rw[<-h4];have hg:oE (t.lns++(zB (V.map bG) t.compl).lns) (zP V t) t:=⟨ho,h.x.ok,fun l hl=>(bW.1 hl).elim (pA h.x.ok l) (pA ho2 l),Lt fun l hl=>bK _ hl,fun l hl=>bU _ hl⟩;have hg2:oE (t.lns++(zB (V.map bG) t.compl).lns) t.compl (zB (V.map bG) t.compl):=⟨h.compl.x.ok,ho2,hg.ok,Lt fun l hl=>bU _ hl,fun l hl=>bK _ hl⟩;refine ZY hg hg2 fun p hp=>?_;show pP 3 ((zB (V.map bG) t.compl).compl.val p) (t.val p)=_;rw[Tr.val_compl,Tr.val_compl]
 cases t.val p<;>cases (zB (V.map bG) t.compl).val p<;>rfl
def zV(r:List ZP)(k:Nat):Bool:=decide (0<=nI (r.getD k (0,0)).q (iC r k).q ⟨0,0⟩)
def zG(r:List ZP):Nat->Bool
 |0=>true
 |k+1=>zG r k&&zV r k
def zX{r:List ZP}: ∀{n:Nat},zG r n=true-> ∀k<n,zV r k=true
 |0,_,k,hk=>absurd hk (pT k)
 |n+1,h,k,hk=>by
  have h1:=Bool.and_eq_true_iff.1 (show(zG r n&&zV r n)=true from h);rcases Nat.lt_succ_iff_lt_or_eq.1 hk with h2|rfl
  .exact zX h1.1 k h2
  .exact h1.2
def xK{z w:ZP}(h:zG r k=true)(ho:zV r k=decide (0<=nI z.q w.q ⟨0,0⟩)):DV.v (.bool (decide (0<=nI z.q w.q ⟨0,0⟩)))=vB (decide (zG r (k+1)=true)):=by
 show _=DV.v (.bool (decide ((zG r k&&zV r k)=true)));rw[h,ho,pN,Bool.decide_eq_true]
def xL(h: ¬zG r k=true):DV.v (.bool false)=vB (decide (zG r (k+1)=true)):=by
 show _=DV.v (.bool (decide ((zG r k&&zV r k)=true)));rw[Bool.eq_false_iff.2 h,Bool.false_and];rfl
def yL{z w:ZP}(hx:r[k]? =some z)(hy:r[(k+1)%r.length]? =some w):zV r k=decide (0<=nI z.q w.q ⟨0,0⟩):=by
 have e1:r.getD k (0,0)=z:=by rw[aK,hx];rfl
 have e2:iC r k=w:=by unfold iC;rw[aK,hy];rfl
 unfold zV;rw[e1,e2]
def yC(h:zG r r.length=true): ∀f∈b8 (r.map ZP.q),0<=bu f.1 f.2 ⟨0,0⟩:=fun f hf=>by
 obtain⟨k,hk,he⟩:=mT.1 hf;have hkl:k<r.length:=by have:=Ub (r.map ZP.q);rw[aX] at this;omega
 obtain⟨z,hx⟩: ∃z,r[k]? =some z:=⟨_,aZ hkl⟩;obtain⟨w,hy⟩: ∃w,r[(k+1)%r.length]? =some w:=⟨_,aZ (dV _ (by omega))⟩;have h1:=zX h k hkl;rw[yL hx hy,decide_eq_true_iff,Vr,Ze] at h1;have h2:=ayC (r.map ZP.q) (i:=k) (p:=z.q) (q:=w.q) (by rw[bS,hx];rfl) (by rw[aX,bS,hy];rfl);rw[aZ hk,he] at h2;rw[Option.some.inj h2];exact h1
def zT(hE:EG GB ai al ae)(hb:es0.length<=1125899906842624):PF GB prog 6 [.sl (es0.map vI)] (.v (.bool true)):=by
 obtain⟨es,hee⟩: ∃es,es=es0.take 400:=⟨_,rfl⟩;have hes:es.length<=400:=by rw[hee];simp;omega
 obtain⟨A,hA⟩: ∃A,A=(l6 es 0).1:=⟨_,rfl⟩;obtain⟨a1,ha1⟩: ∃a,a=(l6 es 0).2:=⟨_,rfl⟩;obtain⟨hs,hl1⟩:=Wo (bZ es.length);rw[<-hA] at hs;rw[<-ha1] at hl1;obtain⟨r,hr⟩: ∃r,r=(gp es a1).1:=⟨_,rfl⟩;obtain⟨a2,ha2⟩: ∃a,a=(gp es a1).2:=⟨_,rfl⟩;have hrg:th r:=by rw[hr];exact aCB hl1
 obtain⟨hV,hcv⟩:=aC1 hl1;rw[<-hr] at hV hcv;have x1:=(zL hV hs).1;have x2:=(yD hV hs).1;have hrb:=zR hrg.ok;have hn3:=hrg.ok.n3;have hn6:=hrg.ok.n6;have hml:(r.map pf).length=r.length:=aX ..;haveI:aG ⟨0,0⟩ 8:=⟨⟨by decide,by decide⟩,⟨by decide,by decide⟩⟩;refine fn func6 J J ntmps6 J J (fun C=>?_);refine cn J ((VP hb hee)) (fun _=>J) (fun _=>?_);refine cm J (fun b=>(xP hes (bZ _) hA ha1)) J<|cm (fu:=⟨14⟩) J (fun b=>(xQ hes hl1 hr ha2)) J<|?_;refine ak 24 (.d (vI (r.length:Nat))) J (by rw[hml]<;>rfl) ?_;refine gx J<|?_;refine Pb 6 (vB true) J J ?_;refine lp (X:=Nat) (fun k=>[(25, .d (vI (k:Nat))),(6, .d (vB (decide (zG r k=true))))]) (fun k=>[]) (fun k=>k<=r.length) (fun k=>r.length-k) 0 J (bZ _) (fun _=>J) (fun k hk=>?_);refine br (fu1:=⟨12⟩) J J J (fun hc26=>?_) (fun hc26=>?_)
 .
  obtain⟨z,hx⟩: ∃z,r[k]? =some z:=⟨_,aZ (by omega)⟩;obtain⟨w,hy⟩: ∃w,r[(k+1)%r.length]? =some w:=⟨_,aZ (dV _ (by omega))⟩;haveI:=hrb z.q (aT.2 ⟨z,aV hx,J⟩);haveI:=hrb w.q (aT.2 ⟨w,aV hy,J⟩);have hor:=yL hx hy;refine jr (v2:=fun hg29=>by simp only[aj];exact⟨by kernel_rfl,by omega⟩) J J J J (fun hg29=>?_) (fun hg29=>?_)
  .
   refine ix (fu:=⟨6⟩) _ J (cH hx) J<|?_;refine ak 38 (.d (vI (r.length:Nat))) J (by rw[hml]<;>rfl) ?_;refine gx (fu:=⟨1⟩) J<|?_;refine ak 39 (.d (vI (((k+1)%r.length:Nat):Int))) J J ?_;refine gx J<|ix (fu:=⟨2⟩) _ J (cH hy) J<|?_;refine ak 42 (.d (eP ⟨0,0⟩)) J (by rw[IM]<;>rfl) ?_;refine gx J<|cl (hv:=by simp only[aj];exact⟨by kernel_rfl,by omega⟩) J (Cz (a:=z.q) (b:=w.q) (c:=⟨0,0⟩) (i:=8) (j:=8) (k:=8)) J<|?_;refine O4 6 _ J J ?_;refine ak 6 (.d (vB (decide (zG r (k+1)=true)))) J (congrArg FX.d (xK hg29 hor)) ?_;exact at_ (k+1) ⟨(by omega),(by omega)⟩
  .
   refine O4 6 _ J J ?_;refine ak 6 (.d (vB (decide (zG r (k+1)=true)))) J (congrArg FX.d (xL hg29)) ?_;exact at_ (k+1) ⟨(by omega),(by omega)⟩
 .
  obtain rfl:k=r.length:=by omega
  refine bb J J J (fun hc48=>?_) (fun hc48=>?_)
  .
   refine cl J (zQ hE) J<|?_;exact rz J J
  .
   have h0:=yC (r:=r) (by simpa using hc48);refine cl J (Lf hs.x) J<|cl J (zS hrg.ok) J<|cl J (yK hE hrg hcv hV hs) J<|cl J (zS hrg.ok) J<|cl J (xG hE hrg hcv hV hs) J<|?_;refine cl (fu:=⟨2⟩) J (M0 hE hs.x x1 (zW hV hs h0)) J<|?_;refine kG 70 J ?_;refine gx J<|cl (fu:=⟨2⟩) J (M0 hE x2 hs.x (yB hV hs h0)) J<|?_;refine kG 76 J ?_;refine gx (fu:=⟨7⟩) J<|VR (fu:=⟨2⟩) J (zQ hE) J<|c6 (fu:=⟨3⟩) J J J<|c6 (fu:=⟨3⟩) J J J<|c6 (fu:=⟨3⟩) J J J<|c6 J J J<|?_;exact rz J J
end Go.Sx
end
section
namespace Go.Sx
open Go Go.Proofs Go.ChangeShapes Go.WideShapes Go.ChangeAt Go.RowKit
variable {w w' W:World}{b off base g:Nat}{v:Value}{H:Type}{P:Program}
def GW(w:World):Gh:=fun b=>match w.heap[b]? with|some (.cells cs _ _)=>some cs.toList|_=>none
def GW.sub{cs:List Value}(h:GW w b=some cs): ∃ty fz,w.heap[b]? =some (.cells ⟨cs⟩ ty fz):=by
 unfold GW at h;split at h
 .rename_i c t f e
  cases h
  exact⟨t,f,by rw[e]⟩
 .cases h
def GW.of_cell(h:w.cell? ⟨b,off,none⟩=some v): ∃cs,GW w b=some cs/\cs[off]? =some v:=by
 unfold World.cell? at h;unfold GW;split at h
 .rename_i c t f e
  simp only at e;refine⟨c.toList,by rw[e],?_⟩;simpa using h
 all_goals first|(rename_i e;cases h)|cases h
def bF.below{G G':Gh}{own:List av}(h:bF ⟨w,G,[],[],[],none,fun _=>none⟩ own G' w'):Below w.heap.size w w':=
 ⟨h.os,h.tape,h.output,h.size,fun k hk=>h.keep k hk (by simp)⟩
def isLs_vI{G:Gh}: ∀es:List Int,IsLs G (es.map vI) (es.map fun n=>Value.int .i64 n)
 |[]=> .nil
 |n::t=> .cons (aB.2 J) (isLs_vI t)
def open_vI{enc:TypeId×Value->H}{t e:TypeId}{d:DataW H}{ps:List MemPlace}(ht:P.underlying t=some (.slice e))(he:P.underlying e=some (.int .i64))(hc:P.cellsOf e=1)
  (hv:Value.okWide P w .any base t v)(h:DataW.Trod enc P w 0 (fun _=>true) true t v d ps):
  ∃es:List Int,Is (GW w) (.sl (es.map vI)) v/\(d= .nil/\es=[]\/ ∃sp,d= .slice (lits .i64 es) sp)/\(∀n∈es,(Lit.int .i64 n).wf=true):=by
 obtain⟨a0,len,cap,rfl⟩:=okWide_slice ht hv;obtain⟨fuel,hf⟩:=h;rcases open_ints ht he hc hf with⟨hcs,hx⟩|⟨a,len',cap',zs,hcs,_,hl,hm,hz,hx,hcell,hwz⟩
 .simp[Value.cells] at hcs
  obtain⟨rfl,rfl,rfl⟩:=hcs;simp only[Prod.mk.injEq] at hx;exact⟨[],gw.2 ⟨0,⟨none,0,0⟩,[],J,fw.nil _ 0, .nil⟩, .inl ⟨hx.1,J⟩,by simp⟩
 .simp[Value.cells] at hcs
  obtain⟨rfl,rfl,rfl⟩:=hcs;simp only[Prod.mk.injEq] at hx;simp only[if_true] at hz;refine⟨zs.take len,gw.2 ⟨1,⟨some a,len,cap⟩,(zs.take len).map fun n=>Value.int .i64 n,J,⟨by simp;omega,hl,?_⟩,isLs_vI _⟩, .inr ⟨_,hx.1⟩,fun n hn=>hwz n (fN hn)⟩;by_cases h0:len=0
  .exact .inl (by simp[h0])
  .right
   obtain⟨b,off,spot⟩:=a;have hspot:spot=none:=by simpa[Addr.add] using World.cell?_spot (hcell 0 (by omega))
   subst hspot;have c0: ∀i,i<zs.length->w.cell? ⟨b,off+i,none⟩=some (.int .i64 (zs.getD i 0)):=fun i hi=>by
    have:=hcell i hi;rwa [Go.WideShapes.add_plain] at this
   obtain⟨cs,hcs,_⟩:=GW.of_cell (by have h9:=c0 0 (by omega);rw[fK] at h9;exact h9);refine⟨b,off,cs,J,hcs,fun i hi=>?_⟩;simp only[aX,cR] at hi;obtain⟨cs',hcs',hi'⟩:=GW.of_cell (c0 i (by omega));rw[hcs] at hcs'
   cases hcs'
   rw[fV,Yb.2 hi'];simp[aE,List.getD,aZ (show i<zs.length by omega)]
section
variable {enc:TypeId×Value->H}
end
def es_star: "*" ++ "errors.errorString" = "*errors.errorString" :=by decide
def es_row(u:TypeId)(h:Tryz.prog.typeName? 3 u=some "*errors.errorString"):u=464:=
 typeName_ptr_named (nm:= "errors.errorString") (by rw[es_star];kernel_rfl) (by kernel_rfl) (by decide) u (by rw[es_star];exact h)
def sent_of{n:String}{text:List UInt8}{r:List (String×DataW Unit)}(h:laidMet Tryz.prog ((n, .iface "*errors.errorString" (.ptr (.agg [.lit (.string text)])))::r) W)(hg:Tryz.prog.globalNamed n=some g)(ht:(Tryz.prog.globals[g]?).map (·.type)=some 41):
  ∃a,GW W g=some [.iface 464 (.pointer (some a))]:=by
 obtain⟨a,s,hv,_⟩:=laid_sentinel h hg ht Tryz.underlying41 es_row Tryz.underlying464 Tryz.underlying489 rfl rfl Tryz.underlying9 (by kernel_rfl) (by kernel_rfl);refine⟨a,?_⟩;unfold World.var? at hv;rw[hg,Option.bind_some] at hv;unfold GW;split at hv
 .rename_i c t f e
  rw[e];cases hv;rfl
 .cases hv
def laid_plain{l:List (String×DataW Unit)}(h:laidMetH Tryz.prog l W)(hp:(l.all fun x=>x.2.handleName?.isNone)=true):laidMet Tryz.prog l W:=by rwa [Go.MakeChecks.laidMetH_plain _ _ _ hp] at h
end Go.Sx
end
section
namespace Go.Proofs.YtnnpcjkdmmjknaaGreatDoor
open Go.ChangeShapes Go.WideShapes Go.ChangeAt Go.RowKit Go.Sx
theorem js1:mapsRowed Tryz.pinned.checked.prog=true:=by kernel_rfl
theorem js2:Tryz.pinned.checked.prog.stopsHeard=true:=by kernel_rfl
theorem js3:Tryz.pinned.checked.prog.mayEnter=true:=by kernel_rfl
theorem js4:laidOutB Tryz.prog=true:=by kernel_rfl
end Go.Proofs.YtnnpcjkdmmjknaaGreatDoor
end
section
namespace Go.Proofs.YtnnpcjkdmmjknaaGreatDoor.morphGrows
open Go.ChangeShapes Go.WideShapes Go.ChangeAt Go.RowKit Go.Sx
theorem own:ownKnob Tryz.prog.godebug=none:=by kernel_rfl
theorem laidOut:laidOutB Tryz.prog=true:=js4
theorem cellsI:Tryz.prog.cellsOf 3=1:=by kernel_rfl
theorem bytesI:Tryz.prog.bytesOf 3=8:=by kernel_rfl
theorem door_met(os:Os)(args:Array Value):laidMetH Tryz.prog Rows.morphGrowsRow.laid ((World.doorLaid Tryz.prog 119 os).forCall (fun _ _=>0) ⟨#[],args,[]⟩).memory:=
 laidMetH_of_parts3 (fuel:=8) (laidMet_of_run' 8 (by kernel_rfl) (by kernel_rfl)) (by kernel_rfl) (by kernel_rfl)
theorem eg_of{W:World}(h:laidMetH Tryz.prog Rows.morphGrowsRow.laid W): ∃ai al ae,EG (GW W) ai al ae:=by
 have h1:=laid_plain h J;obtain⟨ai,hi⟩:=sent_of (g:=2) h1.tail.tail.tail (by kernel_rfl) (by kernel_rfl);obtain⟨al,hl⟩:=sent_of (g:=3) h1.tail.tail.tail.tail.tail (by kernel_rfl) (by kernel_rfl);exact⟨ai,al,al,hi,hl⟩
theorem contract(H:Type)(enc:TypeId×Value->H)(W:World)(base:Nat)(args:Array Value)(ds gs:List (DataW H))(before:List MemPlace)
  (hval: ∀(j:Nat) t v,Tryz.f6.params[j]? =some t->args[j]? =some v->Value.okWide Tryz.prog W .any base t v)
  (hW:DataW.Whole enc Tryz.prog Tryz.f6.params.toList Rows.morphGrowsSpec.vars false W args.toList ds gs before)
  (hz:(DataW.weightsEach Tryz.prog (Tryz.f6.params.toList++(OpenSpec.ofChange Rows.morphGrowsSpec).bare.plain.varTypes Tryz.prog) (ds++gs)).all (· <=reachBytes)=true)(hlaid:laidMetH Tryz.prog Rows.morphGrowsRow.laid W):
  Calls Tryz.prog 6 args W fun e W'=> ∃v,e= .returned v/\Rows.morphGrowsSpec.post enc Tryz.prog Tryz.f6 false true false false W args v W':=by
 have hW':=hW;obtain⟨p,q,hA0,hV,rfl,_,_⟩:=hW;have hA:DataW.TrodAll enc Tryz.prog W 0 (fun _=>true) true Tryz.f6.params.toList args.toList ds p:=hA0;rw[Tryz.params6] at hA hval hz;obtain⟨v0,d0,hargs,rfl,h0⟩:=trodAll_one hA;obtain rfl:args= #[v0]:=by cases args;simp_all
 obtain⟨rfl,rfl⟩:=trodVars_none hV;clear hA0;simp only[List.append_nil] at hW';have hlt: ∀x∈p,x.block<W.heap.size:=fun x hx=>by simpa using hW'.lt x hx
 obtain⟨es,hI,hd,_⟩:=open_vI Tryz.underlying22 Tryz.underlying3 cellsI (hval 0 22 v0 rfl rfl) h0;have hb:es.length<=1125899906842624:=by
  rcases hd with⟨rfl,rfl⟩|⟨sp,rfl⟩
  .exact Nat.zero_le _
  .have:=sized_slice hz (j:=0) (t:=22) (e:=3) J J Tryz.underlying22
   rw[bytesI] at this;have hr:=reachBytes_lt;have hl:(lits (H:=H) .i64 es).length=es.length:=by simp[lits]
   rw[hl] at this;omega
 obtain⟨ai,al,ae,hE⟩:=eg_of hlaid;have hf:=(zT hE (es0:=es) hb) (GW W) [v0] (bI.refl _) (.cons hI .nil);refine(hf.run W (fun b cs hg=>GW.sub hg)).mono fun e W' ⟨v,G',he,hr,hv⟩=>?_;rw[aB] at hv;subst hv;subst he;have hn:=hr.below;have t2:=trodAll_mk1 (Below.trod laidOut (by kernel_rfl) (of_decide_eq_true (by kernel_rfl)) h0 hn hlt);exact⟨_,J,⟨_,_,_,[],_,[],hW',trodAll_mk1 (shut_bool Tryz.underlying4 _),t2,J,hn.frame _,fun h=>by cases h⟩⟩
theorem reads(os:Os){H:Type}(enc:TypeId×Value->H): ∃places,DataW.whole enc Tryz.prog ((World.doorLaid Tryz.prog 119 os).forCall (fun _ _=>0) ⟨#[], #[.slice none 0 0],[]⟩).memory Tryz.f6.params.toList Rows.morphGrowsSpec.vars false #[Value.slice none 0 0].toList 8=some ([.nil],[],places):=
 ⟨[],by kernel_rfl⟩
theorem lifted(os:Os)(started:os.Started)(H:Type)(enc:TypeId×Value->H)(F:Stop.Interp):
  ReturnsInHanded {} Tryz.checked os 6 .any ((OpenSpec.ofChange Rows.morphGrowsSpec).preRow enc Tryz.prog Tryz.f6 Rows.morphGrowsRow.domain false Rows.morphGrowsRow.laid) (((OpenSpec.ofChange Rows.morphGrowsSpec).at F).post enc Tryz.prog Tryz.f6 false true false false):=by
 obtain⟨places,hx⟩:=reads os enc;refine returnsInHanded_of_row (C:=Tryz.checked) (s:=OpenSpec.ofChange Rows.morphGrowsSpec) own started (by kernel_rfl) Tryz.func6
  (witness_row_atRef (enc:=enc) (C:=Tryz.checked) false (World.doorLaid Tryz.prog 119 os) #[.slice none 0 0] rfl (by kernel_rfl) (by kernel_rfl) (by kernel_rfl)
   (OpenSpec.preRow_of_cond 8 hx (by kernel_rfl) (fun k hk=>by cases hk) (by kernel_rfl) (door_met os _))) ?_
 intro W base args ds gs before hval hW _ _ hz hlaid _ _;exact contract H enc W base args ds gs before hval hW hz hlaid
theorem j1:(Rows.morphGrowsRow.inPlace==Tryz.pinned.checked.prog.inPlace 6)=true:=by kernel_rfl
theorem j2:(Rows.morphGrowsRow.unfollowed==Tryz.pinned.checked.prog.unfollowed 6)=true:=by kernel_rfl
theorem j3:(Rows.morphGrowsRow.recurses==Tryz.pinned.checked.prog.recurses 6)=true:=by kernel_rfl
theorem j4:(Rows.morphGrowsRow.named==Tryz.pinned.checked.prog.varsNamed 6)=true:=by kernel_rfl
theorem j5:laidOutB Tryz.pinned.checked.prog=true:=laidOut
theorem j6:mapsRowed Tryz.pinned.checked.prog=true:=js1
theorem j7:Tryz.pinned.checked.prog.mainIs=some (Rows.morphGrowsCard.stood.harness.1,Rows.morphGrowsCard.stood.harness.2.toList):=by kernel_rfl
theorem j8:false=Rows.morphGrowsRow.goesBy Tryz.pinned.checked.prog:=by kernel_rfl
theorem j9:(Rows.morphGrowsRow.plainKeys==Tryz.pinned.checked.prog.plainKeys)=true:=by kernel_rfl
theorem j10:(Rows.morphGrowsRow.lifted==Tryz.pinned.checked.prog.liftsFinal)=true:=by kernel_rfl
theorem j11:(Tryz.pinned.checked.prog.make==some Rows.morphGrowsRow.make)=true:=by kernel_rfl
theorem closed:joinedFacts Tryz.pinned.checked.prog 6 Tryz.f6 (OpenSpec.ofChange Rows.morphGrowsSpec).bare Rows.morphGrowsRow=true:=by
 unfold joinedFacts;rw[j1,j2,j3,j4,j5,j6,j9,j10,j11,js2,js3]
 kernel_rfl
theorem said:Rows.MorphGrowsSaid:=
 OpenClaim.holds_of_cond 6 Tryz.f6 J J J J J J J ⟨J,J,J,J,J⟩ J J J J J (by kernel_rfl) Tryz.func6 closed
  (of_decide_eq_true (by kernel_rfl)) (by unfold Func.isWrapper;first|(rw[if_pos (by decide+kernel)];kernel_rfl)|(rw[if_neg (by decide+kernel)];exact⟨J,J⟩))
  (fun os started H enc _ F=>by rw[OpenClaim.pre_eq_preRow];exact lifted os started H enc F)
theorem plain(f:FuncId)(fn:Func)(hf:Tryz.pinned.checked.prog.funcNamed "bspregion/bspregionlaw29.MorphGrows" =some f)(hfn:Tryz.pinned.checked.prog.funcs[f]? =some fn):
  true=Tryz.pinned.checked.prog.looks []/\ ∀(j:Nat) t,fn.params[j]? =some t->Tryz.pinned.checked.prog.wantsStandIn t=false:=by
 obtain rfl:f=6:=Option.some.inj ((show Tryz.prog.funcNamed "bspregion/bspregionlaw29.MorphGrows" =some 6 by kernel_rfl).symm.trans hf) |>.symm;obtain rfl:fn=Tryz.f6:=(Option.some.inj (Tryz.func6.symm.trans hfn)).symm;refine⟨by kernel_rfl,fun j t ht=>?_⟩;rw[Tryz.params6] at ht;have hm:=Array.mem_of_getElem? ht;simp only[List.mem_toArray,List.mem_cons,List.not_mem_nil,or_false] at hm;subst hm;exact(show Tryz.prog.wantsStandIn 22=false by kernel_rfl)
theorem card:Rows.MorphGrowsCardSaid:=
 Claim7.holds_tied_plain_at .later [] _ _ _ _ said (fun _ h=>by cases h) (by kernel_rfl) (fun _ h=>by cases h) morphGrows_row_tie J ⟨J,J⟩ j7 J plain j8
#print axioms card
end Go.Proofs.YtnnpcjkdmmjknaaGreatDoor.morphGrows
end
