import Derived.Test.YtjpdfobnjmflkaaGreatDoorMk15
set_option linter.all false
set_option maxHeartbeats 4000000
set_option maxRecDepth 100000
section
namespace Go.Sx
open Go Go.Proofs Tryz
variable {GB G A:Gh}{r:List ZP}{i k n nm ty e:Nat}{a b t y:Tr}{p:ah}{u:ZP}{v:Value}{es es0:List Int}{C:aF}{Q0:Exit->Act->World->Prop}{fr fr' fr1 fr2:aC}{own' own1 own2:aI}{cf cf' cf1 cf2:Cf}{vc vc1 vc2:List Prop}{ls l:List aa}{c:ao}{ns:List NQ}{x:Rat}{α β:Type}{qs cuts:List Rat}
def iw(r:List ZP)(i k:Nat):Bool:=decide (k=i)||decide (k=(i+1)%r.length)||decide (0<uB (r.getD i (0,0)).q (i6 r i).q (r.getD k (0,0)).q)
def DP(r:List ZP):Bool:=(List.range r.length).all fun i=>(List.range r.length).all fun k=>iw r i k
def N4(hi:i<r.length)(hk:k<r.length)(h:iw r i k=false):DP r=false:=by
 rw[Bool.eq_false_iff];intro e;have:=(dJ.1 ((dJ.1 e) i (kQ.2 hi))) k (kQ.2 hk);rw[h] at this;cases this
def Kx(h: ∀i,i<r.length-> ∀k,k<r.length->iw r i k=true):DP r=true:=
 dJ.2 fun i hi=>dJ.2 fun k hk=>h i (kQ.1 hi) k (kQ.1 hk)
def Im(a b c:ZP):uB a.q b.q c.q=(ji (b.1-a.1,b.2-a.2) (c.1-a.1,c.2-a.2)).sign:=by
 have e:ah.cross (cF b.q a.q (-1)) (cF c.q a.q (-1))=((ji (b.1-a.1,b.2-a.2) (c.1-a.1,c.2-a.2):Int):Rat):=by
  unfold ah.cross cF ji ZP.q iP;push_cast;grind
 unfold uB;rw[e,mN]
def GG{a:Int}:0<a.sign↔0<a:=by
 rcases pW a 0 with h|h|h
 .rw[eX h];omega
 .subst h;simp
 .rw[fU h];omega
def Zp{p v:ZP}:DP (gE p u v)=decide (0<ji u v):=by
 obtain⟨p1,p2⟩:=p;obtain⟨u1,u2⟩:=u;obtain⟨v1,v2⟩:=v;have e1:iw (gE (p1,p2) (u1,u2) (v1,v2)) 0 2=decide (0<ji (u1,u2) (v1,v2)):=by
  unfold iw i6 gE kj;simp only[bZ,eY,qW,oW,Nat.reduceAdd,Nat.reduceMod,Im,GG];simp[ji];congr 2
  all_goals (first|omega|grind)
 have e2:iw (gE (p1,p2) (u1,u2) (v1,v2)) 1 0=decide (0<ji (u1,u2) (v1,v2)):=by
  unfold iw i6 gE kj;simp only[bZ,eY,qW,oW,Nat.reduceAdd,Nat.reduceMod,Im,GG];simp[ji];constructor<;>intro h<;>grind
 have e3:iw (gE (p1,p2) (u1,u2) (v1,v2)) 2 1=decide (0<ji (u1,u2) (v1,v2)):=by
  unfold iw i6 gE kj;simp only[bZ,eY,qW,oW,Nat.reduceAdd,Nat.reduceMod,Im,GG];simp[ji];constructor<;>intro h<;>grind
 by_cases h:0<ji (u1,u2) (v1,v2)
 .rw[decide_eq_true h] at e1 e2 e3⊢
  refine Kx fun i hi k hk=>?_;have hl:(gE (p1,p2) (u1,u2) (v1,v2)).length=3:=J;rw[hl] at hi hk;have hs: ∀j,iw (gE (p1,p2) (u1,u2) (v1,v2)) j j=true:=fun j=>by unfold iw;simp
  have hn: ∀j,iw (gE (p1,p2) (u1,u2) (v1,v2)) j ((j+1)%3)=true:=fun j=>by unfold iw;simp[hl]
  have h1:i=0\/i=1\/i=2:=by omega
  have h2:k=0\/k=1\/k=2:=by omega
  rcases h1 with rfl|rfl|rfl<;>rcases h2 with rfl|rfl|rfl<;>first|assumption|exact hs _|exact hn _
 .rw[decide_eq_false h] at e1⊢
  exact N4 (i:=0) (k:=2) (by simp[gE]) (by simp[gE]) e1
def atG(hle: ∀p∈r,ZP.le 100 p)(h6:r.length<=6):PF GB prog 39 [.sl (r.map ou)] (vB (DP r)):=by
 have hm:=eh ou r;refine fn (fu:=⟨9⟩) func39 J J ntmps39 J J (fun C=>?_);refine aj 7 (.d (vI (r.length:Nat))) J (by rw[hm]<;>rfl)<|gx (fu:=⟨8⟩) J<|aj 9 (.d (vI (r.length:Nat))) J (by rw[hm]<;>rfl)<|gx J<|lp (X:=Nat) (fun i=>[(10, .d (vI (i:Nat)))]) (fun i=>[]) (fun i=>i<=r.length/\ ∀j,j<i-> ∀q,q<r.length->iw r j q=true) (fun i=>r.length-i) 0 J ⟨aM _,fun j hj=>absurd hj (by omega)⟩ (fun _=>J) (fun i hk=>?_);obtain⟨i1,i2⟩:=hk;refine br (fu1:=⟨14⟩) J J J (fun hc11=>?_) (fun hc11=>?_)
 .
  have hir:i<r.length:=by omega
  refine aj 14 (.d (vI (r.length:Nat))) J (by rw[hm]<;>rfl)<|gx J<|lp (X:=Nat) (fun k=>[(15, .d (vI (k:Nat)))]) (fun k=>[]) (fun k=>k<=r.length/\ ∀q,q<k->iw r i q=true) (fun k=>r.length-k) 0 J ⟨aM _,fun j hj=>absurd hj (by omega)⟩ (fun _=>J) (fun k hk=>?_);obtain⟨k1,k2⟩:=hk;refine br (fu1:=⟨14⟩) J J J (fun hc16=>?_) (fun hc16=>?_)
  .
   have hkr:k<r.length:=by omega
   haveI hvb:aD (r.getD i (0,0)).q 12:=vf (hle _ (uO hir));haveI hwb:aD (i6 r i).q 12:=vf (hle _ (xP hir));haveI hub:aD (r.getD k (0,0)).q 12:=vf (hle _ (uO hkr));refine jD (fu1:=⟨6⟩) (v2:=fun hg20=>by simp only[ak];exact⟨by kernel_rfl,by omega⟩) J J J J (fun hg20=>?_) (fun hg20=>?_)
   .
    refine aj 26 (.d (vI ((i+1)%r.length:Nat))) J (by rfl)<|gx (fu:=⟨0⟩) J<|jD (v2:=fun hg27=>by simp only[ak];exact⟨by kernel_rfl,by omega⟩) J J J J (fun hg27=>?_) (fun hg27=>?_)
    .
     refine ix (fu:=⟨6⟩) _ J (AS hir) J<|aj 38 (.d (vI ((i+1)%r.length:Nat))) J (by rfl)<|gx J<|ix _ J (Ix hir) J<|ix _ J (AS hkr) J<|cl J (J5 (a:=(r.getD i (0,0)).q) (b:=(i6 r i).q) (c:=(r.getD k (0,0)).q) (i:=12) (j:=12) (k:=12)) J<|br J J J (fun hc47=>?_) (fun hc47=>?_)
     .
      have hcv:iw r i k=false:=by unfold iw;rw[decide_eq_false (show¬k=i by omega),decide_eq_false (show¬k=(i+1)%r.length by omega),decide_eq_false (show¬0<(uB (r.getD i (0,0)).q (i6 r i).q (r.getD k (0,0)).q) by omega)];rfl
      exact rz J (by rw[N4 hir hkr hcv];rfl)
     .
      have hcv:iw r i k=true:=by unfold iw;rw[decide_eq_true (show 0<uB _ _ _ by omega)];simp
      exact at_ (k+1) ⟨⟨by omega,fun q hq=>by by_cases e:q=k;(subst e;exact hcv);exact k2 q (by omega)⟩,(by omega)⟩
    .
     have hcv:iw r i k=true:=by unfold iw;rw[decide_eq_true (show k=(i+1)%r.length by omega)];simp
     exact at_ (k+1) ⟨⟨by omega,fun q hq=>by by_cases e:q=k;(subst e;exact hcv);exact k2 q (by omega)⟩,(by omega)⟩
   .
    have hcv:iw r i k=true:=by unfold iw;rw[decide_eq_true (show k=i by omega)];rfl
    exact at_ (k+1) ⟨⟨by omega,fun q hq=>by by_cases e:q=k;(subst e;exact hcv);exact k2 q (by omega)⟩,(by omega)⟩
  .
   obtain rfl:k=r.length:=by omega
   exact at_ (i+1) ⟨⟨by omega,fun j hj q hq=>by by_cases e:j=i;(subst e;exact k2 q (by omega));exact i2 j (by omega) q hq⟩,(by omega)⟩
 .
  obtain rfl:i=r.length:=by omega
  exact rz J (by rw[Kx fun j hj q hq=>i2 j hj q hq];rfl)
def aFm{p v:ZP}(h1:ZP.le 40 p)(h2:ZP.le 40 u)(h3:ZP.le 40 v): ∀q∈gE p u v,ZP.le 100 q:=fun q hq=>by
 unfold ZP.le at*;simp only[gE,kj,aW,fK,or_false] at hq;rcases hq with rfl|rfl|rfl<;>((try dsimp only);omega)
def U3{p v:ZP}(h1:ZP.le 40 p)(h2:ZP.le 40 u)(h3:ZP.le 40 v):PF GB prog 39 [.sl ((gE p u v).map ou)] (vB (decide (0<ji u v))):=by
 have:=atG (GB:=GB) (r:=gE p u v) (aFm h1 h2 h3) (by simp[gE]);rw[Zp] at this;exact this
def Zy{b:Nat}(hes:es.length<=400){a:Nat}(ha:a<=es.length):PM GB prog 8 (i9 [none] b) b 84 [.sl (es.map vI), .v (.int .i64 (a:Nat))] (jA (jj es a).1) [.sl (es.map vI), .v (.int .i64 ((jj es a).2:Nat))]:=by
 have hk0:=gD (n:=2) ha;have hx1:=gD (n:=3) hk0;have hy1:=gD (n:=3) hx1;have l1:=fp (es:=es) (n:=3) (a:=(au es 2 a).2);have l2:=fp (es:=es) (n:=3) (a:=(au es 3 (au es 2 a).2).2);refine AD func8 J J ntmps8 J J (fun C b m lo hmb=>?_);refine cm J (fun b=>(lH (n:=2) hes ha)) J<|br J J J (fun hc13=>?_) (fun hc13=>?_)
 .
  have hz1:=gD (n:=2) hy1;have l3:=fp (es:=es) (n:=2) (a:=(au es 3 (au es 3 (au es 2 a).2).2).2);have l4:=fp (es:=es) (n:=2) (a:=(au es 2 (au es 3 (au es 3 (au es 2 a).2).2).2).2);refine cm J (fun b=>(lH (n:=3) hes hk0)) J<|cm J (fun b=>(lH (n:=3) hes hx1)) J<|cm J (fun b=>(lH (n:=2) hes hy1)) J<|cm J (fun b=>(lH (n:=2) hes hz1)) J<|cl J (ll (m:=(((au es 3 (au es 2 a).2).1:Int)-1)) (n:=(((au es 3 (au es 3 (au es 2 a).2).2).1:Int)-1))) J<|cl J (ll (m:=(((au es 3 (au es 2 a).2).1:Int)-1+1+((au es 2 (au es 3 (au es 3 (au es 2 a).2).2).2).1:Int))) (n:=(((au es 3 (au es 3 (au es 2 a).2).2).1:Int)-1))) J<|cl J (ll (m:=(((au es 3 (au es 2 a).2).1:Int)-1+1+((au es 2 (au es 3 (au es 3 (au es 2 a).2).2).2).1:Int))) (n:=(((au es 3 (au es 3 (au es 2 a).2).2).1:Int)-1+1+((au es 2 (au es 2 (au es 3 (au es 3 (au es 2 a).2).2).2).2).1:Int)))) J<|cl J (ll (m:=(((au es 3 (au es 2 a).2).1:Int)-1)) (n:=(((au es 3 (au es 3 (au es 2 a).2).2).1:Int)-1+1+((au es 2 (au es 2 (au es 3 (au es 3 (au es 2 a).2).2).2).2).1:Int)))) J<|rf J J<|?_;exact qr hmb J J (by rw[show jj es a=_ from if_pos hc13];rfl) (by rw[show jj es a=_ from if_pos hc13];rfl)
 .
  have hu1:=gD (n:=2) hy1;have hu2:=gD (n:=3) hu1;have hv1:=gD (n:=3) hu2;have m1:=fp (es:=es) (n:=2) (a:=(au es 3 (au es 3 (au es 2 a).2).2).2);have m2:=fp (es:=es) (n:=3) (a:=(au es 2 (au es 3 (au es 3 (au es 2 a).2).2).2).2);have m3:=fp (es:=es) (n:=3) (a:=(au es 3 (au es 2 (au es 3 (au es 3 (au es 2 a).2).2).2).2).2);have m4:=fp (es:=es) (n:=2) (a:=(au es 3 (au es 3 (au es 2 (au es 3 (au es 3 (au es 2 a).2).2).2).2).2).2);refine cm J (fun b=>(lH (n:=3) hes hk0)) J<|cm J (fun b=>(lH (n:=3) hes hx1)) J<|cl J (ll (m:=(((au es 3 (au es 2 a).2).1:Int)-1)) (n:=(((au es 3 (au es 3 (au es 2 a).2).2).1:Int)-1))) J<|cm J (fun b=>(lH (n:=2) hes hy1)) J<|cm J (fun b=>(lH (n:=3) hes hu1)) J<|cl J (ll (m:=(1+((au es 2 (au es 3 (au es 3 (au es 2 a).2).2).2).1:Int))) (n:=(((au es 3 (au es 2 (au es 3 (au es 3 (au es 2 a).2).2).2).2).1:Int)-1))) J<|cm J (fun b=>(lH (n:=3) hes hu2)) J<|cm J (fun b=>(lH (n:=2) hes hv1)) J<|cl J (ll (m:=(((au es 3 (au es 3 (au es 2 (au es 3 (au es 3 (au es 2 a).2).2).2).2).2).1:Int)-1)) (n:=(1+((au es 2 (au es 3 (au es 3 (au es 2 (au es 3 (au es 3 (au es 2 a).2).2).2).2).2).2).1:Int)))) J<|cl J (iD (n:=1)) J<|cl J (Ej (m:=(((au es 3 (au es 2 a).2).1:Int)-1)) (n:=(((au es 3 (au es 3 (au es 2 a).2).2).1:Int)-1)) (m':=(1+((au es 2 (au es 3 (au es 3 (au es 2 a).2).2).2).1:Int))) (n':=(((au es 3 (au es 2 (au es 3 (au es 3 (au es 2 a).2).2).2).2).1:Int)-1)) (k:=1) (by omega) (by omega) (by omega) (by omega)) J<|cl J (iD (n:=1)) J<|cl J (Ej (m:=(((au es 3 (au es 2 a).2).1:Int)-1)) (n:=(((au es 3 (au es 3 (au es 2 a).2).2).1:Int)-1)) (m':=(((au es 3 (au es 3 (au es 2 (au es 3 (au es 3 (au es 2 a).2).2).2).2).2).1:Int)-1)) (n':=(1+((au es 2 (au es 3 (au es 3 (au es 2 (au es 3 (au es 3 (au es 2 a).2).2).2).2).2).2).1:Int))) (k:=1) (by omega) (by omega) (by omega) (by omega)) J<|rf J J<|cl J (U3 (p:=((((au es 3 (au es 2 a).2).1:Int)-1),(((au es 3 (au es 3 (au es 2 a).2).2).1:Int)-1))) (u:=((1+((au es 2 (au es 3 (au es 3 (au es 2 a).2).2).2).1:Int)),(((au es 3 (au es 2 (au es 3 (au es 3 (au es 2 a).2).2).2).2).1:Int)-1))) (v:=((((au es 3 (au es 3 (au es 2 (au es 3 (au es 3 (au es 2 a).2).2).2).2).2).1:Int)-1),(1+((au es 2 (au es 3 (au es 3 (au es 2 (au es 3 (au es 3 (au es 2 a).2).2).2).2).2).2).1:Int)))) ⟨by omega,by omega⟩ ⟨by omega,by omega⟩ ⟨by omega,by omega⟩) J<|bb J J J (fun hc76=>?_) (fun hc76=>?_)
  .
   refine cl J (ll (m:=0) (n:=0) (by decide) (by decide)) J<|cl J (ll (m:=1) (n:=0) (by decide) (by decide)) J<|cl J (ll (m:=0) (n:=1) (by decide) (by decide)) J<|rf J J<|?_;exact qr hmb J J (by rw[show jj es a=_ from(if_neg hc13).trans (congrArg (fun r=>(r,(au es 2 (au es 3 (au es 3 (au es 2 (au es 3 (au es 3 (au es 2 a).2).2).2).2).2).2).2)) (if_neg (by simpa using hc76)))];rfl) (by rw[show jj es a=_ from if_neg hc13])
  .
   exact qr hmb J J (by rw[show jj es a=_ from(if_neg hc13).trans (congrArg (fun r=>(r,(au es 2 (au es 3 (au es 3 (au es 2 (au es 3 (au es 3 (au es 2 a).2).2).2).2).2).2).2)) (if_pos (by simpa using hc76)))];rfl) (by rw[show jj es a=_ from if_neg hc13])
section
variable {own:aI}
end
def YK(hb:es0.length<=1125899906842624)(he:es=es0.take 400):PN GB prog 6 [.sl (es0.map vI)] 84 Unit (fun _=>[.sl (es.map vI), .v (.int .i64 (0:Nat))]):=by
 subst he;exact V6 hb
def ax3(h:kg k t):PF GB prog 10 [eT t] (eA t):=XF h.bl (by have:=h.s;omega)
def Xg(ls:List aa):cE 9 (ls.map ck):=fun d hd=>by
 obtain⟨u,_,rfl⟩:=aT.1 hd;exact⟨rfl,rfl⟩
def aKr:Option ao->DV
 |some c=> .tp [.sl (c.map cO),vB true]
 |none=> .tp [.sl [],vB false]
def P9{l:aa}(h:ls[k]? =some l):fj (ls.drop k) c=if cp c l then fj (ls.drop (k+1)) (bE c l) else none:=by
 obtain⟨hk,rfl⟩:=aR.1 h;rw[bX hk,fj]
def dE.nil:dE []:=fun s hs=>by cases hs
def QG(hb: ∀l∈ls,LB l)(ho: ∀l∈ls,l.ok)(hn:ls.length<=10000):PF GB prog 60 [.sl (ls.map ck)] (aKr (fj ls [])):=by
 have hm:=qq ck ls;refine fn (fu:=⟨25⟩) func60 J J ntmps60 J J (fun C=>?_);refine aj 9 (.d (vI (ls.length:Nat))) J (by rw[hm]<;>rfl)<|gx J<|Av 4 J<|QT 5 (vB true) J J<|lp (X:=ao×Nat) (fun⟨c,k⟩=>[(10, .d (vI (k:Nat))),(4, .d (.sl (c.map cO))),(5, .d (vB true))]) (fun⟨c,k⟩=>[]) (fun⟨c,k⟩=>k<=ls.length/\dE c/\c.length<=k/\fj (ls.drop k) c=fj ls []) (fun⟨c,k⟩=>ls.length-k) ([],0) J ⟨aM _,dE.nil,bW _,J⟩ (fun _=>J) (fun⟨c,k⟩ hk=>?_);obtain⟨h1,h2,h3,h4⟩:=hk;dsimp only at*;refine br J J J (fun hc11=>?_) (fun hc11=>?_)
 .
  obtain⟨l,hx0⟩: ∃s,ls[k]? =some s:=⟨_,aZ (by omega)⟩;haveI:=hb l (aK hx0);have hlo:=ho l (aK hx0);refine ix _ J (cg hx0) J<|cl J (JT (c:=c) (l:=l) hlo h2 (by omega)) J<|bb J J J (fun hc21=>?_) (fun hc21=>?_)
  .
   refine bb J J J (fun hc24=>?_) (fun hc24=>?_)
   .
    exact rz J (by rw[<-h4,P9 hx0,if_neg (by simpa using hc21)];rfl)
   .
    exact rz J (by simp only[hc21] at hc24;simp at hc24)
  .
   refine aj 5 (.d (vB true)) J (by rw[show cp c l=true by simpa using hc21])<|at_ (bE c l,k+1) (by dsimp only;exact⟨⟨by omega,pG (ho l (aK hx0)) h2,by have:=tw c l;omega,by rw[<-h4,P9 hx0,if_pos (by simpa using hc21)]⟩,(by omega)⟩)
 .
  refine bb J J J (fun hc24=>?_) (fun hc24=>?_)
  .
   exact rz J (absurd hc24 (by decide))
  .
   exact rz J (by rw[<-h4,jZ (by omega)];rfl)
def N1(hb: ∀l∈ls,LB l)(ho: ∀l∈ls,l.ok)(hn:ls.length<=10000)(h:fj ls []=some c):PF GB prog 60 [.sl (ls.map ck)] (.tp [.sl (c.map cO),vB true]):=by
 have:=QG (GB:=GB) hb ho hn;rw[h] at this;exact this
def Uo(hb: ∀l∈ls,LB l)(ho: ∀l∈ls,l.ok)(hn:ls.length<=10000)(h:fj ls []=none):PF GB prog 60 [.sl (ls.map ck)] (.tp [.sl [],vB false]):=by
 have:=QG (GB:=GB) hb ho hn;rw[h] at this;exact this
def KW: ∀{ls:List aa} {c e:ao},(∀l∈ls,LB l)->(∀l∈ls,l.ok)->dE c->fj ls c=some e->dE e
 |[],c,e,_,_,hc,h=>by rw[fj] at h;cases h;exact hc
 |l::t,c,e,hb,ho,hc,h=>by
  rw[fj] at h;split at h
  .haveI:=hb l aQ
   exact KW (fun m hm=>hb m (aJ _ hm)) (fun m hm=>ho m (aJ _ hm)) (pG (ho l aQ) hc) h
  .cases h

section
variable {own:aI}{ops:Array Oper}{r:List Oper}{K:List Kt}
def aJg(k:Nat){d:DV}(hl:aO fr k=some (.d d))(h: ∀(GB':Gh) (pv:Value),bI GB GB'->Is GB' d pv->av prog GB' C n Q0 ((k, .d (.v pv))::fr) own (.ops ops r K)):av prog GB C n Q0 fr own (.ops ops r K):=by
 refine⟨fun ρ G ov a w r0=>?_⟩;obtain⟨y,hy,hy'⟩:=r0.fx k _ hl;refine(h G y r0.gb hy').run ρ G ov a w ⟨bI.refl _,r0.h,r0.sz,r0.df,fun j f e=>?_,r0.bx,r0.dj,r0.fxd⟩;rw[jP] at e;split at e
 .rename_i hj
  cases e;subst hj
  exact⟨y,hy,(aH (G:=G)).2 J⟩
 .exact r0.fx j f e
def QA(fr:aC)(own:aI)(cf:Cf):Option (TypeId×Nat×Nat×List FX×Bool×FX):=match cI fr cf with
 |some ⟨_, .store t x y,_,_,_,_⟩=>match bh (b9 fr cf) x with
  |some (.ov nm 0)=>match iH fr own cf nm with
   |some (.o ty cs lo)=>match bh (b9 fr cf) y with
    |some fv=>some (t,nm,ty,cs,lo,fv)
    |_=>none
   |_=>none
  |_=>none
 |_=>none
def GT[fu:Fu]{t len:Nat}{cs:List FX}{lo:Bool}{fv:FX}{j:TypeInfo}(h:QA fr own cf=some (t,nm,ty,cs,lo,fv))(hu:prog.underlying t=some (.array len e))(hj:prog.info? t=some j)(hc:fv.okc=true/\fv.cells.length=j.size/\j.size=cs.length)
  (hgo:cH tt n fu.n fr own cf .un [(nm,some (.o ty (vD cs 0 fv.cells) lo))] []=⟨vc,fr',own',cf'⟩)(k:av prog GB C n Q0 fr' own' cf')
  (hv:autoParam (ak vc) cL._auto_1):av prog GB C n Q0 fr own cf:=by
 unfold QA at h;split at h<;>try (cases h;done)
 rename_i hh;split at h<;>try (cases h;done)
 rename_i e1;split at h<;>try (cases h;done)
 rename_i hb;split at h<;>cases h;rename_i e2;obtain⟨c1,c2,c3⟩:=hc;have:ks prog t j.size:=⟨fun w=>Ah hu w,fun w=>uC hj w⟩;refine us hh ?_ hgo hv k;intro hd tl tb K s1 s2 hf hk;refine⟨fun ρ G ov a w r Q=>?_⟩;have r1:=r.mono s1 s2;obtain⟨p,h1,h2⟩:=r1.ev e1;obtain⟨q,h3,h4⟩:=r1.ev e2;obtain⟨b,m,rfl,ha,h5,h6⟩:=r1.own h2 hb;obtain⟨h7,h8⟩:=h4.cells c1;obtain⟨own',u1,u2,u3⟩:=ik.of_mem (cs':=cA m 0 (aG q)) h6;exact Dg h1 h3 u1 (by rw[h7.len,c2]) (by rw[h5.len,c3];omega) (dJ.2 h8) hd (fun a' w' rl=>r.wrote (m:=m) (s2 _ _ hb) ha (h5.ov h7) u2 u3 hk rl) a w Q ⟨r.h,r.sz,cB a,r.df⟩
def Tu:TypeDesc->Bool
 | .struct _=>false
 | .array _ _=>false
 |_=>true
end
def q6(ns:List NQ):Nat->Tr->Prop
 |_, .leaf _=>True
 |k, .node l x y=>ns[k]? =some ⟨l,x.num (k+1),y.num (k+1+x.size)⟩/\q6 ns (k+1) x/\q6 ns (k+1+x.size) y
def q6.of: ∀{t:Tr} {ns a b:List NQ} {k:Nat},ns=a++t.wr k++b->a.length=k->q6 ns k t
 | .leaf _,_,_,_,_,_,_=>trivial
 | .node l x y,ns,a,b,k,e,ha=>by
  simp only[Tr.wr,dV,gN] at e;refine⟨?_,q6.of (a:=a++[⟨l,x.num (k+1),y.num (k+1+x.size)⟩]) (b:=y.wr (k+1+x.size)++b) (by rw[e];simp) (by simp[ha]),q6.of (a:=a++⟨l,x.num (k+1),y.num (k+1+x.size)⟩::x.wr (k+1)) (b:=b) (by rw[e];simp) (by rw[aY,bZ,Tr.wr_len,ha];omega)⟩;rw[e,jU (by omega),ha,pR];rfl
abbrev J0 (x:SV) (ns:List NQ) (A:Gh):Prop:= ∃es,gg A 8 x es/\IsLs A (ns.map eN) es
def sK(n k:Nat):List Value:=tu n (fun j=>Nat.blt j k)
def Sc(n k:Nat):(sK n k).length=n:=LW _ _
def Ra(h:k<n):(sK n k)[k]? =some (.bool false):=HL h (by rw[Bool.eq_false_iff,ne_eq,kL];omega)
def K4(n k:Nat):(sK n k).set k (.bool true)=sK n (k+1):=by
 refine(avD n k _).trans (congrArg _ (funext fun j=>?_));unfold xZ;rw[qL,fN,kL,kL,Nat.beq_eq];omega
def Qv{l:aa}{a b:Int}(h:Is G (eN ⟨l,a,b⟩) v): ∃x1 x2 x3:SV,v= .agg ⟨[.bool (decide (l.a<0)), .slice x1.a x1.n x1.c, .bool (decide (l.b<0)), .slice x2.a x2.n x2.c, .bool (decide (l.c<0)), .slice x3.a x3.n x3.c, .int .i64 a, .int .i64 b]⟩/\
  Is G (eL l) (.agg ⟨[.bool (decide (l.a<0)), .slice x1.a x1.n x1.c, .bool (decide (l.b<0)), .slice x2.a x2.n x2.c, .bool (decide (l.c<0)), .slice x3.a x3.n x3.c]⟩):=We (n:=RN.of ⟨l,a,b⟩) h
def aFb{l:aa}(h:Is G (.tp [ck l,vB true]) v): ∃n1 d1 p1 n2 d2 p2 n3 d3 p3,v= .tuple #[.agg ⟨[.int .i64 n1, .int .i64 d1, .pointer p1, .int .i64 n2, .int .i64 d2, .pointer p2, .int .i64 n3, .int .i64 d3, .pointer p3]⟩, .bool true]/\
  Is G (ck l) (.agg ⟨[.int .i64 n1, .int .i64 d1, .pointer p1, .int .i64 n2, .int .i64 d2, .pointer p2, .int .i64 n3, .int .i64 d3, .pointer p3]⟩):=by
 obtain⟨m,rfl,g⟩:=lv.1 h;obtain⟨v1,m,rfl,h1,h⟩:=bi.1 g;obtain⟨v2,m,rfl,h2,h⟩:=bi.1 h;rw[ef] at h;subst h;obtain⟨n1,d1,p1,n2,d2,p2,n3,d3,p3,rfl⟩:=aGx h1;rw[aH.1 h2];exact⟨_,_,_,_,_,_,_,_,_,J,h1⟩
def W7{l:aa}(h:Is G (.tp [eL l,vB true]) v): ∃x1 x2 x3:SV,v= .tuple #[.agg ⟨[.bool (decide (l.a<0)), .slice x1.a x1.n x1.c, .bool (decide (l.b<0)), .slice x2.a x2.n x2.c, .bool (decide (l.c<0)), .slice x3.a x3.n x3.c]⟩, .bool true]/\
  Is G (eL l) (.agg ⟨[.bool (decide (l.a<0)), .slice x1.a x1.n x1.c, .bool (decide (l.b<0)), .slice x2.a x2.n x2.c, .bool (decide (l.c<0)), .slice x3.a x3.n x3.c]⟩):=by
 obtain⟨m,rfl,g⟩:=lv.1 h;obtain⟨v1,m,rfl,h1,h⟩:=bi.1 g;obtain⟨v2,m,rfl,h2,h⟩:=bi.1 h;rw[ef] at h;subst h;obtain⟨x1,x2,x3,rfl⟩:=aIz h1;rw[aH.1 h2];exact⟨_,_,_,J,h1⟩
def Tp{l:aa}[hl:LB l](ho:l.ok):PF GB prog 169 [eL l] (.tp [eL l,vB true]):=by
 have hm:(RN.of ⟨l,0,0⟩).g.nm:=⟨HW _,HW _,HW _⟩;refine(Vy (RN.of_sm (n:=⟨l,0,0⟩) hl) hm).to ?_;rw[Ca,if_pos hm,RN.of_l,decide_eq_true ⟨hm,ho⟩]
def R5{vs:List Value}(hv:IsLs G [eA t] vs): ∃x:SV,x.n=(t.wr 0).length/\vs=[.agg ⟨[.int .i64 (t.num 0), .slice x.a x.n x.c]⟩]/\J0 x (t.wr 0) G:=by
 obtain⟨v0,m,rfl,h0,hm⟩:=bi.1 hv;rw[ef] at hm;subst hm;obtain⟨m,rfl,g⟩:=en.1 h0;obtain⟨v1,m,rfl,h1,hm⟩:=bi.1 g;obtain⟨v2,m,rfl,h2,hm⟩:=bi.1 hm;rw[ef] at hm;subst hm;obtain⟨s0,x,es,rfl,hsl,hes⟩:=gv.1 h2;rw[aH.1 h1];have hel:=hes.len;rw[aX] at hel;have hlen:=hsl.len;rw[hel] at hlen;refine⟨x,hlen,J,es,?_,hes⟩;rcases By (s:=8) hsl hes (fun d hd=>by obtain⟨n,_,rfl⟩:=aT.1 hd;exact⟨rfl,rfl⟩) with e|e
 .exact⟨hsl.len,hsl.cap, .inl e⟩
 .rw[e] at hsl;exact hsl
def aIl{x:SV}(hx:J0 x ns A)(hn:ns.length<=1000000): ∀{t:Tr} {k:Nat},q6 ns k t->k+t.size<=ns.length->t.all LB->t.all aa.ok-> ∀{G:Gh} {rb sb:Nat} {lo lo2:Bool},[GL A G]->
  jx prog 147 [.pointer (some ⟨rb,0,none⟩), .int .i64 (t.num k)] [⟨rb,[.slice x.a x.n x.c, .slice (some ⟨sb,0,none⟩) ns.length ns.length, .int .i64 k, .bool false],258,lo⟩,⟨sb,sK ns.length k,4,lo2⟩] G
   (fun v css G'=> ∃p,v= .pointer p/\Is G' (eU t) (.pointer p)/\css=[[.slice x.a x.n x.c, .slice (some ⟨sb,0,none⟩) ns.length ns.length, .int .i64 (k+t.size:Nat), .bool false],sK ns.length (k+t.size)]):=by
 obtain⟨es,hx,hes⟩:=hx;have hel:=hes.len;rw[aX] at hel;have hlen:=hx.len;rw[hel] at hlen;obtain⟨xa,xn,xc⟩:=x;simp only[] at hlen;subst hlen;intro t
 induction t with
 |leaf bb=>
  intro k _ _ _ _ G rb sb lo lo2 _;refine jx.intro func147 J J ntmps147 J ?_;intro C _ _;show St C _ _ [⟨rb,_,_,false⟩,⟨sb,_,_,false⟩] _ _
  cases bb
  case true=>
   refine sR<|sa J J<|zE<|eO<|wA<|sR<|sm J J<|sy (lm J J) J<|sm J J<|ss J J J J<|ss J J J J<|?_;refine sy (CY J J) J<|sa J J<|zE<|sg J<|sR<|sm J J<|sy (lm J J) J<|?_;refine sc (zC J J (PF.fn0 (qE (b:=true)) (.cons (aH.2 J) .nil)) J ?_);rintro _ G1 _ hp;obtain⟨p,rfl⟩:=wv hp;refine sa J J<|zE<|lf<|?_;exact sh (css:=[_,_]) (.tmp J .nil) J _ (List.Perm.refl _) (List.Sublist.refl _) ⟨p,J,hp,J⟩
  refine sR<|sa J J<|zE<|eO<|wA<|sR<|sm J J<|sy (lm J J) J<|sm J J<|fA J J (ly J) J<|fA J J (lm J J) J<|?_;refine sy (rH J J) J<|sa J J<|zE<|sg J<|sR<|sm J J<|sy (lm J J) J<|?_;refine sc (zC J J (PF.fn0 (qE (b:=false)) (.cons (aH.2 J) .nil)) J ?_);rintro _ G1 _ hp;obtain⟨p,rfl⟩:=wv hp;refine sa J J<|zE<|lf<|?_;exact sh (css:=[_,_]) (.tmp J .nil) J _ (List.Perm.refl _) (List.Sublist.refl _) ⟨p,J,hp,J⟩
 |node l tx ty ih1 ih2=>
  intro k ⟨h0,h1,h2⟩ hk ⟨hb,hb1,hb2⟩ ⟨ho,ho1,ho2⟩ G rb sb lo lo2 _;haveI:=hb;have hsz:k+(Tr.node l tx ty).size=k+1+tx.size+ty.size:=by simp only[Tr.size];omega
  rw[hsz] at hk⊢;have hbn:k<ns.length:=by omega
  obtain⟨z,hzi,hz⟩:=hes.get (i:=k) (by rw[cR,h0];rfl);obtain⟨x1,x2,x3,rfl,hzg⟩:=Qv hz;refine jx.intro func147 J J ntmps147 J ?_;intro C _ _;show St C _ [(0, .pointer (some ⟨rb,0,none⟩)),(1, .int .i64 (k:Int))] [⟨rb,[.slice xa ns.length xc, .slice (some ⟨sb,0,none⟩) ns.length ns.length, .int .i64 k, .bool false],_,false⟩,⟨sb,sK ns.length k,_,false⟩] _ _;refine sR<|sa J J<|zE<|eO<|wA<|sR<|sm J J<|sy (lm J J) J<|sm J J<|?_;refine wV 12 J (fun hg=>absurd hg (by omega)) (fun hg=>?_);refine fA J J (ly J) J<|fA J J (lm J J) J<|sy (rH J J) J<|sa J J<|zE<|?_;refine ut J (fun hc=>absurd hc (by omega)) (fun _=>?_);refine sR<|sm J J<|sy (Fd J J) J<|sm J J<|?_;refine wV 22 J (fun hg=>absurd hg (by omega)) (fun hg=>?_);refine fA J J (ly J) J<|fA J J (ly J) J<|fA J J (m8 J) J<|fA J J (qA J) J<|fA J J (n8 J J) J<|fA J J (uV J) J<|fA J J (Hz J J) J<|sy (rH J J) J<|sm J J<|?_;refine wV 31 J (fun hg=>absurd hg (by omega)) (fun hg=>?_);refine fA J J (ly J) J<|fA J J (m8 J) J<|fA J J (qA J) J<|fA J J (n8 J J) J<|fA J J (ly J) J<|fA J J (t7 J J) J<|?_;refine fA J J (n8 (v:= .bool false) J (by rw[bM,jX];exact Ra hbn)) J<|sy (rH J J) J<|sa J J<|zE<|ri J<|zK<|?_;refine sR<|sm J J<|sn J J<|sf J J<|mF J J J<|sm J J<|sy (t7 J J) J<|?_;refine sc (ur J J (.tl _ _ _ _ _ _ _ _ (.hd ..)) (by rw[Sc,bM,jX];exact hbn) J J ?_);rw[bM,jX,K4];refine zE<|sR<|sm J J<|sn J J<|sf J J<|mF J J J<|sy (vK J J) J<|sn J J<|sf J J<|?_;refine sc (zh J J J (by repeat (first|exact .hd .. |apply ik.tl)) (nb J) J J ?_)
  rw[show(k:Int)+1=((k+1:Nat):Int) by omega];refine zE<|sR<|sm J J<|sn J J<|sf J J<|mF J J J<|sm J J<|sy (UH (z:=⟨xa,ns.length,xc⟩) hx J J (by omega) (by show(k:Int)<(ns.length:Int);omega)) J<|?_;rw[bM];refine sy (VR (i:=k) hx J (by rw[hel];exact hbn) hzi) J<|?_;refine sc (vm J ?_);intro b5;refine sc (D2 J J J (by repeat (first|exact .hd .. |apply ik.tl)) J (nb J) J J ?_);refine zE<|sR<|sf J J<|Df J J J<|?_;refine sc (zC J J (PF.fn0 (Q4 ho) (.cons (hzg.up GL.le) .nil)) J ?_);rintro _ G6 _ hw;obtain⟨n1,d1,p1,n2,d2,p2,n3,d3,p3,rfl,hwl⟩:=aFb hw;refine sm J J<|sx J J J<|sx J J J<|?_;refine sc (vm J ?_);intro b6;refine sc (D2 J J J (by repeat (first|exact .hd .. |apply ik.tl)) J (nb J) J J ?_);refine sa J J<|zE<|eO<|sR<|sm J J<|sy (ti J) J<|zE<|ri J<|zK<|?_;refine sR<|sm J J<|sf J J<|mF J J J<|?_;have hrp:=ih1 h1 (by omega) hb1 ho1 (G:=G6) (rb:=rb) (sb:=sb) (lo:=false) (lo2:=false);refine sc (vT J J (iM (l₁:=[_,_]) (l₂:=[_,_])) hrp J ?_);rintro _ css G7 _ _ ⟨q1,rfl,hp1,rfl⟩;show St C _ _ [⟨rb,[.slice xa ns.length xc, .slice (some ⟨sb,0,none⟩) ns.length ns.length, .int .i64 (k+1+tx.size:Nat), .bool false],258,false⟩,⟨sb,sK ns.length (k+1+tx.size),4,false⟩,⟨b6,[.int .i64 n1, .int .i64 d1, .pointer p1, .int .i64 n2, .int .i64 d2, .pointer p2, .int .i64 n3, .int .i64 d3, .pointer p3],213,true⟩,⟨b5,[.bool (decide (l.a<0)), .slice x1.a x1.n x1.c, .bool (decide (l.b<0)), .slice x2.a x2.n x2.c, .bool (decide (l.c<0)), .slice x3.a x3.n x3.c, .int .i64 (tx.num (k+1)), .int .i64 (ty.num (k+1+tx.size))],105,true⟩] _ _
  refine sa J J<|zE<|eO<|?_;refine uM [⟨b6,[.int .i64 n1, .int .i64 d1, .pointer p1, .int .i64 n2, .int .i64 d2, .pointer p2, .int .i64 n3, .int .i64 d3, .pointer p3],213,true⟩,⟨b5,[.bool (decide (l.a<0)), .slice x1.a x1.n x1.c, .bool (decide (l.b<0)), .slice x2.a x2.n x2.c, .bool (decide (l.c<0)), .slice x3.a x3.n x3.c, .int .i64 (tx.num (k+1)), .int .i64 (ty.num (k+1+tx.size))],105,true⟩] (fun _=>false) [(0,true),(1,true),(2,true),(3,true),(4,true),(5,false),(6,false),(7,true)] follows (by kernel_rfl)<|?_;refine dL J J J J<|dM J J J<|dM J J J<|dF J J J<|pn J J J J<|?_;have hrp:=ih2 h2 hk hb2 ho2 (G:=G7) (rb:=rb) (sb:=sb) (lo:=false) (lo2:=false);refine dc J J (vT J J (M:=[_,_]) (rest:=[_,_]) (List.Perm.refl _) hrp J ?_);rintro _ css G8 _ _ ⟨q2,rfl,hp2,rfl⟩;show St C _ _ [⟨rb,[.slice xa ns.length xc, .slice (some ⟨sb,0,none⟩) ns.length ns.length, .int .i64 (k+1+tx.size+ty.size:Nat), .bool false],258,false⟩,⟨sb,sK ns.length (k+1+tx.size+ty.size),4,false⟩,⟨b6,[.int .i64 n1, .int .i64 d1, .pointer p1, .int .i64 n2, .int .i64 d2, .pointer p2, .int .i64 n3, .int .i64 d3, .pointer p3],213,true⟩,⟨b5,[.bool (decide (l.a<0)), .slice x1.a x1.n x1.c, .bool (decide (l.b<0)), .slice x2.a x2.n x2.c, .bool (decide (l.c<0)), .slice x3.a x3.n x3.c, .int .i64 (tx.num (k+1)), .int .i64 (ty.num (k+1+tx.size))],105,true⟩] _ _;refine lG<|?_;refine dc J J (zC J J (PF.fn0 (ym (l:=l) (x:=tx) (y:=ty)) (.cons (hwl.up GL.le) (.cons (hp1.up GL.le) (.cons hp2 .nil)))) J ?_);rintro _ G9 _ hp;obtain⟨p,rfl⟩:=wv hp
  refine lG<|dA J J J<|dn<|lf<|?_;exact sh (css:=[_,_]) (.tmp J .nil) J _ (List.Perm.refl _) (.cons_cons _ (.cons_cons _ (jQ _))) ⟨p,J,hp,J⟩
def aIS(hb:t.all LB)(ho:t.all aa.ok)(hs:t.size<=65536):PF GB prog 77 [eA t] (.tp [eU t,vB true]):=by
 intro G vs _ hv;obtain⟨⟨xa,xn,xc⟩,rfl,rfl,hx⟩:=R5 hv;have hn:=t.wr_len 0;show Fn _ _ [.agg ⟨[.int .i64 (t.num 0), .slice xa (t.wr 0).length xc]⟩] _ _;refine Fn.intro func77 J J ntmps77 J ?_;intro C _ _;refine sR<|?_;refine sc (tf J J ?_);intro b1;refine sa J J<|sa J J<|zE<|eO<|sR<|sf J J<|mF J J J<|sP J J<|sy (A' J J) J<|zE<|?_;refine ut J (fun hc=>absurd hc (by omega)) (fun _=>?_);refine zK<|eO<|dr (fun _=>false) [(0,true),(1,true),(2,true),(3,true),(4,true),(5,false),(6,true),(7,false),(8,true)] follows (by kernel_rfl)<|dF J J J<|?_;refine pn J J J J<|dF J J J<|pn J J J J<|dy J (fun _=>uV J) J J<|?_;refine dc J J (F0 J J (by omega) (by omega) (by omega) (by rfl) J ?_);intro b2;rw[bM,RK];refine lG<|dy J (fun _=>vO J) J J<|?_;refine dc J J (tf J J ?_);intro b3;refine lG<|dA J J J<|dn<|sR<|sm J J<|sf J J<|mF J J J<|?_;refine sc (vT J J (M:=[_,_]) (rest:=[_]) (List.Perm.refl _) (aIl hx (by omega) (q6.of (a:=[]) (b:=[]) (k:=0) (by simp) J) (by omega) hb ho (G:=G) (rb:=b3) (sb:=b2) (lo:=true) (lo2:=true)) J ?_);rintro _ css G4 _ _ ⟨p,rfl,hp,rfl⟩;show St C _ _ [⟨b3,[.slice xa (t.wr 0).length xc, .slice (some ⟨b2,0,none⟩) (t.wr 0).length (t.wr 0).length, .int .i64 (0+t.size:Nat), .bool false],258,true⟩,⟨b2,sK (t.wr 0).length (0+t.size),4,true⟩,⟨b1,[.int .i64 (t.num 0), .slice xa (t.wr 0).length xc],31,true⟩] _ _;refine sa J J<|zE<|eO<|eO<|dr (fun _=>false) [(0,true),(1,true),(2,true),(3,true),(4,true),(5,true),(6,true),(7,true),(8,true),(9,true),(10,true),(11,true),(12,true),(13,true)] follows (by kernel_rfl)<|?_
 refine dM J J J<|dy J (fun _=>m8 J) J J<|dF J J J<|pn J J J J<|dM J J J<|?_;refine uN J J J J (fun _=>ly J) J<|uN J J J J (fun _=>m8 J) J<|uN J J J J (fun _=>qA J) J<|uN J J J J (fun _=>n8 J J) J<|?_;refine uN J J J J (fun _=>qA J) J<|uN J J J J (fun _=>n8 J J) J<|uN J J J J (fun _=>uV J) J<|uN J J J J (fun _=>R9 J J) J<|?_;refine dy J (fun _=>rH J J) J J<|dn<|?_;refine ut J (fun hc=>absurd hc (by omega)) (fun _=>?_);refine zK<|sR<|sm J J<|sa J J<|sa J J<|zE<|lf<|?_;refine zD (.tmp J (.tmp J .nil)) ?_;exact lv.2 ⟨_,J, .cons hp (.cons (aH.2 J) .nil)⟩
def VP{x:SV}{r0:Int}(hx:J0 x ns A)(hn:ns.length<=1000000): ∀{t:Tr} {k:Nat},q6 ns k t->k+t.size<=ns.length->t.all LB->t.all aa.ok-> ∀{G:Gh} {sb:Nat} {lo2:Bool},[GL A G]->
  jx prog 100 [.agg ⟨[.int .i64 r0, .slice x.a x.n x.c]⟩, .int .i64 (t.num k), .slice (some ⟨sb,0,none⟩) ns.length ns.length] [⟨sb,sK ns.length k,4,lo2⟩] G
   (fun v css G'=> ∃q,v= .tuple #[.pointer q, .bool true]/\Is G' (eT t) (.pointer q)/\css=[sK ns.length (k+t.size)]):=by
 obtain⟨es,hx,hes⟩:=hx;have hel:=hes.len;rw[aX] at hel;have hlen:=hx.len;rw[hel] at hlen;obtain⟨xa,xn,xc⟩:=x;simp only[] at hlen;subst hlen;intro t
 induction t with
 |leaf bb=>
  intro k _ _ _ _ G sb lo2 _;refine jx.intro func100 J J ntmps100 J ?_;intro C _ _;show St C _ [(0, .agg ⟨[.int .i64 r0, .slice xa ns.length xc]⟩),(1, .int .i64 (QV bb)),(2, .slice (some ⟨sb,0,none⟩) ns.length ns.length)] [⟨sb,sK ns.length k,_,false⟩] _ _;refine sR<|?_;refine sc (tf J J ?_);intro b1;refine sa J J<|sa J J<|zE<|eO<|sR<|sm J J<|sy (lm J J) J<|sm J J<|?_
  cases bb
  case true=>
   refine ss J J J J<|ss J J J J<|sy (CY J J) J<|?_;refine zE<|sg J<|sR<|sm J J<|sy (lm J J) J<|sy (vO J) J<|?_;refine sc (tf J J ?_);intro b2;refine sa J J<|sa J J<|zE<|lf<|?_;refine AA b2 (.hd ..) ?_;intro G9 _ hfz;exact sh (css:=[_]) (.tmp J (.tmp J .nil)) J (_::[_]) (iM (l₁:=[_]) (l₂:=[_])) (.cons_cons _ (jQ _)) ⟨_,J,lA.2 ⟨b2,_,J,hfz.h,MU⟩,J⟩
  refine fA J J (ly J) J<|fA J J (lm J J) J<|sy (rH J J) J<|?_;refine zE<|sg J<|sR<|sm J J<|sy (lm J J) J<|sy (vO J) J<|?_;refine sc (tf J J ?_);intro b2;refine sa J J<|sa J J<|zE<|lf<|?_;refine AA b2 (.hd ..) ?_;intro G9 _ hfz;exact sh (css:=[_]) (.tmp J (.tmp J .nil)) J (_::[_]) (iM (l₁:=[_]) (l₂:=[_])) (.cons_cons _ (jQ _)) ⟨_,J,lA.2 ⟨b2,_,J,hfz.h,MU⟩,J⟩
 |node l tx ty ih1 ih2=>
  intro k ⟨h0,h1,h2⟩ hk ⟨hb,hb1,hb2⟩ ⟨ho,ho1,ho2⟩ G sb lo2 _;haveI:=hb;have hsz:k+(Tr.node l tx ty).size=k+1+tx.size+ty.size:=by simp only[Tr.size];omega
  rw[hsz] at hk⊢;have hbn:k<ns.length:=by omega
  obtain⟨z,hzi,hz⟩:=hes.get (i:=k) (by rw[cR,h0];rfl);obtain⟨x1,x2,x3,rfl,hzg⟩:=Qv hz;obtain⟨ab,aoff,acs,ha,hga,hca⟩:=hx.mem.resolve_left (fun e=>by rw[e] at hel;simp at hel;omega);simp only at ha;subst ha;haveI:r8 A ab acs:=⟨hga⟩;obtain⟨hk0,hk6,hk7⟩:=Xa (by
   have h9:=hca k (by rw[hel];exact hbn);rw[show es[k]'(by rw[hel];exact hbn)=_ from Option.some.inj ((aZ (by rw[hel];exact hbn)).symm.trans hzi)] at h9;exact h9)
  refine jx.intro func100 J J ntmps100 J ?_;intro C _ _;show St C _ [(0, .agg ⟨[.int .i64 r0, .slice (some ⟨ab,aoff,none⟩) ns.length xc]⟩),(1, .int .i64 (k:Int)),(2, .slice (some ⟨sb,0,none⟩) ns.length ns.length)] [⟨sb,sK ns.length k,_,false⟩] _ _;refine sR<|?_;refine sc (tf J J ?_);intro b1;refine sa J J<|sa J J<|zE<|eO<|sR<|sm J J<|sy (lm J J) J<|sm J J<|?_;refine wV 14 J (fun hg=>absurd hg (by omega)) (fun hg=>?_);refine fA J J (ly J) J<|fA J J (lm J J) J<|sy (rH J J) J<|zE<|?_;refine ut J (fun hc=>absurd hc (by omega)) (fun _=>?_);refine zK<|eO<|sR<|sm J J<|sy (Fd J J) J<|sm J J<|?_;refine wV 24 J (fun hg=>absurd hg (by omega)) (fun hg=>?_);refine fA J J (ly J) J<|fA J J (qA J) J<|fA J J (n8 J J) J<|fA J J (uV J) J<|fA J J (Hz J J) J<|sy (rH J J) J<|sm J J<|?_;refine wV 31 J (fun hg=>absurd hg (by omega)) (fun hg=>?_);refine fA J J (ly J) J<|fA J J (ly J) J<|fA J J (t7 J J) J<|?_;refine fA J J (n8 (v:= .bool false) J (by rw[bM,jX];exact Ra hbn)) J<|sy (rH J J) J<|zE<|ri J<|?_;refine zK<|sR<|sm J J<|sm J J<|sy (t7 J J) J<|?_;refine sc (ur J J (.tl _ _ _ _ _ _ _ _ (.hd ..)) (by rw[Sc,bM,jX];exact hbn) J J ?_);rw[bM,jX,K4];refine zE<|sR<|sf J J<|mF J J J<|sm J J<|sy (vw J J) J<|?_;rw[bM];refine sf J J<|YR J hk0 J<|?_;refine sc (zC J J (PF.fn0 (Tp ho) (.cons (hzg.up GL.le) .nil)) J ?_);rintro _ G6 _ hw;obtain⟨y1,y2,y3,rfl,hw'⟩:=W7 hw;refine sm J J<|sx J J J<|sx J J J<|?_;refine sc (vm J ?_);intro b3;refine sc (D2 J J J (by repeat (first|exact .hd .. |apply ik.tl)) J (nb J) J J ?_)
  refine sa J J<|zE<|eO<|sR<|sm J J<|sy (ti J) J<|zE<|?_;refine ri J<|zK<|?_;show St C _ _ [⟨b3,[.bool (decide (l.a<0)), .slice y1.a y1.n y1.c, .bool (decide (l.b<0)), .slice y2.a y2.n y2.c, .bool (decide (l.c<0)), .slice y3.a y3.n y3.c],55,true⟩,⟨b1,[.int .i64 r0, .slice (some ⟨ab,aoff,none⟩) ns.length xc],31,true⟩,⟨sb,sK ns.length (k+1),4,false⟩] _ _;refine eO<|uM [⟨b1,[.int .i64 r0, .slice (some ⟨ab,aoff,none⟩) ns.length xc],31,true⟩] (fun _=>false) [(0,true),(1,true),(2,true),(3,true),(4,true),(5,true),(6,true),(7,true),(8,false),(9,true),(10,true),(11,true),(12,true),(13,true)] follows (by kernel_rfl)<|?_;refine dL J J J J<|dF J J J<|pn J J J J<|dM J J J<|?_;refine dy J (fun _=>vw J J) J J<|dF J J J<|?_;refine dy J (fun _=>qD J ve (by rw[bM];exact hk6)) J J<|dM J J J<|?_;have hrp:=ih1 h1 (by omega) hb1 ho1 (G:=G6) (sb:=sb) (lo2:=false);refine dc J J (vT J J (M:=[_]) (rest:=[_,_]) (iM (l₁:=[_,_]) (l₂:=[_])) hrp J ?_);rintro _ css G7 _ _ ⟨a1,rfl,hq1,rfl⟩;show St C _ _ [⟨sb,sK ns.length (k+1+tx.size),4,false⟩,⟨b3,[.bool (decide (l.a<0)), .slice y1.a y1.n y1.c, .bool (decide (l.b<0)), .slice y2.a y2.n y2.c, .bool (decide (l.c<0)), .slice y3.a y3.n y3.c],55,true⟩,⟨b1,[.int .i64 r0, .slice (some ⟨ab,aoff,none⟩) ns.length xc],31,true⟩] _ _;refine lG<|dM J J J<|dy J (fun _=>wi J J) J J<|dy J (fun _=>wi J J) J J<|dA J J J<|?_;refine dA J J J<|dn<|?_;refine eO<|sR<|sm J J<|sy (ti J) J<|zE<|ri J<|zK<|?_;refine eO<|uM [⟨b1,[.int .i64 r0, .slice (some ⟨ab,aoff,none⟩) ns.length xc],31,true⟩] (fun _=>false) [(0,true),(1,true),(2,true),(3,true),(4,true),(5,true),(6,true),(7,true),(8,false),(9,true),(10,true),(11,true),(12,true),(13,true)] follows (by kernel_rfl)<|?_
  refine dL J J J J<|dF J J J<|pn J J J J<|dM J J J<|?_;refine dy J (fun _=>vw J J) J J<|dF J J J<|?_;refine dy J (fun _=>qD J ve (by rw[bM];exact hk7)) J J<|dM J J J<|?_;have hrp:=ih2 h2 hk hb2 ho2 (G:=G7) (sb:=sb) (lo2:=false);refine dc J J (vT J J (M:=[_]) (rest:=[_,_]) (List.Perm.refl _) hrp J ?_);rintro _ css G8 _ _ ⟨a2,rfl,hq2,rfl⟩;show St C _ _ [⟨sb,sK ns.length (k+1+tx.size+ty.size),4,false⟩,⟨b3,[.bool (decide (l.a<0)), .slice y1.a y1.n y1.c, .bool (decide (l.b<0)), .slice y2.a y2.n y2.c, .bool (decide (l.c<0)), .slice y3.a y3.n y3.c],55,true⟩,⟨b1,[.int .i64 r0, .slice (some ⟨ab,aoff,none⟩) ns.length xc],31,true⟩] _ _;refine lG<|dM J J J<|dy J (fun _=>wi J J) J J<|dy J (fun _=>wi J J) J J<|dA J J J<|?_;refine dA J J J<|dn<|?_;refine sR<|Df J J J<|sm J J<|sm J J<|sy (vO J) J<|?_;refine sc (tf J J ?_);intro b6;refine sm J J<|sa J J<|sa J J<|zE<|lf<|?_;refine AA b6 (.hd ..) ?_;intro G9 _ hfz;exact sh (css:=[_]) (.tmp J (.tmp J .nil)) J (_::[_,_]) (List.Perm.refl _) (.cons_cons _ (jQ _)) ⟨_,J,lA.2 ⟨b6,_,J,hfz.h,Tg (hw'.up GL.le) (hq1.up GL.le) (hq2.up GL.le)⟩,J⟩
def aBY(hb:t.all LB)(ho:t.all aa.ok)(hs:t.size<=65536):PF GB prog 45 [eA t] (.tp [eT t,vB true]):=by
 intro G vs _ hv;obtain⟨⟨xa,xn,xc⟩,rfl,rfl,hx⟩:=R5 hv;have hn:=t.wr_len 0;show Fn _ _ [.agg ⟨[.int .i64 (t.num 0), .slice xa (t.wr 0).length xc]⟩] _ _;refine Fn.intro func45 J J ntmps45 J ?_;intro C _ _;refine sR<|?_;refine sc (tf J J ?_);intro b1;refine sa J J<|sa J J<|zE<|eO<|sR<|sf J J<|mF J J J<|sP J J<|sy (A' J J) J<|zE<|?_;refine ut J (fun hc=>absurd hc (by omega)) (fun _=>?_);refine zK<|sR<|sf J J<|mF J J J<|sP J J<|?_;refine sc (F0 J J (by omega) (by omega) (by omega) (by rfl) J ?_);intro b2;rw[bM,RK];refine sa J J<|zE<|sR<|Df J J J<|sf J J<|mF J J J<|sm J J<|?_;refine sc (vT J J (M:=[_]) (rest:=[_]) (List.Perm.refl _) (VP (r0:=t.num 0) hx (by omega) (q6.of (a:=[]) (b:=[]) (k:=0) (by simp) J) (by omega) hb ho (G:=G) (sb:=b2) (lo2:=true)) J ?_);rintro _ css G3 _ _ ⟨q,rfl,hq,rfl⟩;show St C _ _ [⟨b2,sK (t.wr 0).length (0+t.size),4,true⟩,⟨b1,[.int .i64 (t.num 0), .slice xa (t.wr 0).length xc],31,true⟩] _ _;refine sm J J<|sx J J J<|sx J J J<|sa J J<|sa J J<|zE<|eO<|sR<|sm J J<|sP J J<|sm J J<|zE<|wA<|?_;refine K7 (X:=Nat) (fun i=>[(27, .int .i64 (i:Nat)),(26, .int .i64 (t.wr 0).length),(25, .slice (some ⟨b2,0,none⟩) (t.wr 0).length (t.wr 0).length),(6, .bool true),(5, .pointer q)]) (fun _=>[⟨b2,sK (t.wr 0).length (0+t.size),4,true⟩,⟨b1,[.int .i64 (t.num 0), .slice xa (t.wr 0).length xc],31,true⟩]) (fun i _=>i<=(t.wr 0).length) (fun i=>(t.wr 0).length-i) 0 (aM _) (.cons J (.cons J (.cons J (.cons J (.cons J .nil))))) J ?_;rintro i Gx _ hi;refine sR<|sy (Fd J J) J<|zE<|eO<|?_
 refine O5 J (fun hc=>?_) (fun hc=>?_)
 .refine Pk<|Dd<|Dd<|M'<|sR<|sm J J<|sm J J<|sa J J<|sa J J<|zE<|lf<|?_
  exact zD (.tmp J (.tmp J .nil)) (lv.2 ⟨_,J, .cons (hq.up GL.le) (.cons (aH.2 J) .nil)⟩)
 have hi':i<(t.wr 0).length:=by omega
 refine zK<|eO<|wA<|sR<|sy (t7 J J) J<|?_;refine sy (n8 (v:= .bool true) J (by rw[bM,jX];exact HL hi' (by rw[kL];omega))) J<|sa J J<|zE<|Dl<|sm J J<|sm J J<|?_;refine fA J J (ly J) J<|sy (CY J J) J<|sa J J<|zE<|Dl<|sy (vK J J) J<|sm J J<|zE<|?_;exact Iw (i+1) hi' (by omega) (.cons (by show some (Value.int _ _)=some (.int _ _);congr 2) (.cons J (.cons J (.cons J (.cons J .nil))))) J
def XG(h:kg k t):PF GB prog 77 [eA t] (.tp [eU t,vB true]):=aIS h.lb h.ok (by have:=h.s;omega)
def Mh(l:List Rat):fy l=tA bw l:=by
 unfold fy tA;have key: ∀(l o:List Rat),l.foldl (fun out x=>ke x out) o=l.foldl (fun out x=>eE bw x out) o:=by
  intro l
  induction l with
  |nil=>intro o;rfl
  |cons a t ih=>intro o;rw[iS,iS,yz,ih]
 exact key l []
def BW(l:List Rat):(fy l).length<=l.length:=by
 have:=BU bw l [];rw[Mh];simpa[tA] using this
theorem JN{l:List Rat}(h: ∀q∈l,BQ q k): ∀g∈cj l,BQ g (2*k+100):=fun g hg=>by
 cases l with
 |nil=>
  rw[cj,aU] at hg;subst hg;exact BQ.mono (k:=1) ⟨by decide,by decide⟩ (by omega)
 |cons a t=>
  rw[cj] at hg;rcases aW.1 hg with rfl|hg
  .haveI:=h a aQ
   exact BQ.mono (inferInstance:BQ (a-1) _) (by omega)
  .rcases bJ.1 hg with hg|hg
   .obtain⟨c,hc,d,hd,rfl⟩:=Ja hg
    haveI:=h c hc;haveI:=h d hd;exact BQ.mono (inferInstance:BQ ((c+d)/2) _) (by omega)
   .rw[aU] at hg
    haveI:=h _ (List.getLast_mem (l:=a::t) (by simp));subst hg;exact BQ.mono (inferInstance:BQ ((a::t).getLast (by simp)+1) _) (by omega)
def uI(a:aa)(t:List aa):List Rat:=t.filterMap fun b=>if crossI a b=0 then none else some (cP a b).x
def Hp(a:aa)(t:List aa):dH (a::t)=(if a.b=0 then [a.base.x] else [])++(uI a t++dH t):=rfl
def YM(a:aa)(t:List aa):(uI a t).length<=t.length:=lJ _ _
def FP: ∀l:List aa,(dH l).length<=l.length*(l.length+1)
 |[]=>bW _
 |a::t=>by
  have h1:=FP t;have h2:=YM a t;have h3:(if a.b=0 then [a.base.x] else []).length<=1:=by split<;>simp
  rw[Hp,aY,aY,bZ];have e:(t.length+1)*(t.length+1+1)=t.length*(t.length+1)+2*t.length+2:=by simp only[dY,fQ];omega
  rw[e];omega
theorem AX: ∀{l:List aa},(∀a∈l,LB a)-> ∀x∈dH l,BQ x 900
 |[],_,x,h=>by cases h
 |a::t,hl,x,h=>by
  haveI:=hl a aQ;have ht: ∀b∈t,LB b:=fun b hb=>hl b (aJ _ hb);rw[Hp] at h;rcases bJ.1 h with h|h
  .split at h
   .rw[aU] at h;subst h;infer_instance
   .cases h
  .rcases bJ.1 h with h|h
   .obtain⟨b,hb,e⟩:=jL.1 h
    haveI:=ht b hb;split at e
    .cases e
    .cases e;exact BQ.mono (inferInstance:BQ (cP a b).x 772)
   .exact AX ht x h
def KD(l:List aa)(x:Rat):(gk l x).length<=l.length:=lJ _ _
theorem LE(hl: ∀a∈l,LB a)(hx:BQ x 1900): ∀y∈gk l x,BQ y 2400:=fun y hy=>by
 obtain⟨a,ha,hb,rfl⟩:=R2 hy;haveI:=hl a ha;unfold yA;exact BQ.mono (inferInstance:BQ (-(((a.a:Rat)*x+(a.c:Rat))/(a.b:Rat))) _) (by omega)
def L0{a:aa}(h:l[k]? =some a):gk (l.drop k) x=(if a.b=0 then [] else [yA a x])++gk (l.drop (k+1)) x:=by
 obtain⟨hk,rfl⟩:=aR.1 h;rw[bX hk];unfold gk;rw[kN];split<;>(rename_i e;split at e<;>simp_all)
def PL{t:List aa}{a b:aa}(h:t[k]? =some b):uI a (t.drop k)=(if crossI a b=0 then [] else [(cP a b).x])++uI a (t.drop (k+1)):=by
 obtain⟨hk,rfl⟩:=aR.1 h;rw[bX hk];unfold uI;rw[kN];split<;>(rename_i e;split at e<;>simp_all)
def Se{a:aa}(h:l[k]? =some a):dH (l.drop k)=(if a.b=0 then [a.base.x] else [])++(uI a (l.drop (k+1))++dH (l.drop (k+1))):=by
 obtain⟨hk,rfl⟩:=aR.1 h;rw[bX hk,Hp]
def yk{a b c:List α}(h:a++b=c):a.length<=c.length:=by rw[<-h,aY];omega
def wc(l:List aa)(x:Rat):List ah:=(cj (fy (gk l x))).map fun y=>⟨x,y⟩
def WJ(l:List aa):oI l=(cj (fy (dH l))).flatMap (wc l):=rfl
def Rd(l:List aa)(x:Rat):(wc l x).length<=l.length+1:=by
 unfold wc;rw[aX,yn];have:=BW (gk l x);have:=KD l x;omega
def PZ{α β:Type}(f:α->List β)(m:Nat): ∀l:List α,(∀x,(f x).length<=m)->(l.flatMap f).length<=l.length*m
 |[],_=>by simp
 |a::t,h=>by
  have:=PZ f m t h;have:=h a;rw[lZ,aY,bZ,fM];omega
def L7(h:l.length<=6000):(cj (fy (dH l))).length<=36006001:=by
 have h1:=FP l;have h2:=BW (dH l);have h3:l.length*(l.length+1)<=6000*6001:=gL h (by omega);rw[yn];omega
def M9(h:l.length<=6000):(oI l).length<=216072012001:=by
 have h1:=PZ (wc l) 6001 (cj (fy (dH l))) (fun x=>by have:=Rd l x;omega);have h2:(cj (fy (dH l))).length*6001<=36006001*6001:=bS _ (L7 h);rw[WJ];omega
def XX{f:α->List β}{l:List α}{x:α}(h:l[k]? =some x):(l.drop k).flatMap f=f x++(l.drop (k+1)).flatMap f:=by
 obtain⟨hk,rfl⟩:=aR.1 h;rw[bX hk,lZ]
def axf{f:α->β}{l:List α}{x:α}(h:l[k]? =some x):(l.drop k).map f=f x::(l.drop (k+1)).map f:=by
 obtain⟨hk,rfl⟩:=aR.1 h;rw[bX hk,bU]
def A3(l:List α):l.drop l.length=[]:=by simp
def PW(hb: ∀q∈qs,BQ q k)(hk:k<=100000)(hn:qs.length<=40000000:=by omega):PF GB prog 171 [.sl (qs.map eQ)] (.sl ((fy qs).map eQ)):=by
 have hm':=eh eQ qs;refine fn (fu:=⟨15⟩) func171 J J ntmps171 J J (fun C=>?_);refine aj 8 (.d (vI (qs.length:Nat))) J (by rw[hm']<;>rfl)<|gx J<|Av 3 J<|lp (X:=List Rat×Nat) (fun⟨xs,i⟩=>[(9, .d (vI (i:Nat))),(3, .d (.sl (xs.map eQ)))]) (fun⟨xs,i⟩=>[]) (fun⟨xs,i⟩=>xs=rg bw id qs i/\i<=qs.length) (fun⟨xs,i⟩=>qs.length-i) ⟨[],0⟩ J ⟨J,aM _⟩ (fun _=>J) (fun⟨xs,i⟩ hk=>?_)
 try dsimp only at hk⊢
 obtain⟨h1,h2⟩:=hk;refine br J J J (fun hc10=>?_) (fun hc10=>?_)
 .
  obtain⟨q,hz⟩: ∃s,qs[i]? =some s:=⟨_,aZ (by omega)⟩;haveI hqb:=hb q (aK hz);have hxl:=eh eQ xs;have hxn:xs.length<=i:=by rw[h1];exact Lw
  have hxb: ∀u∈xs,BQ u k:=fun u hu=>by rw[h1] at hu;obtain⟨z,hz,he⟩:=KQ hu;rw[he];exact hb z hz
  refine ix (fu:=⟨11⟩) _ J (cg hz) J<|mg (fu:=⟨5⟩) (X:=Nat) (fun n=>[(6, .d (vI (n:Nat)))]) (fun n=>[]) (fun n=>lx bw q xs=n) [6] [] rfl ?_ (fun _=>J) (fun n hnx=>?_)
  .
   refine gx J<|lp (fu:=⟨6⟩) (X:=Nat) (fun n=>[(6, .d (vI (n:Nat)))]) (fun n=>[]) (fun n=>n<=xs.length/\ ∀j (h:j<xs.length),j<n->bw xs[j] q<0) (fun n=>xs.length-n) 0 J ⟨aM _,fun j _ hj=>absurd hj (by omega)⟩ (fun _=>J) (fun n hk=>?_);obtain⟨n1,n2⟩:=hk;refine jD (v2:=fun hg16=>by simp only[ak];kernel_rfl) J J J J (fun hg16=>?_) (fun hg16=>?_)
   .
    refine ix _ J (tg) J<|cl J (ki (a:=xs[n]'(by omega)) (b:=q) (ha:=hxb _ (dX (by omega))) (hb:=hqb) (by omega) (by omega)) J<|br J J J (fun hc25=>?_) (fun hc25=>?_)
    .
     exact at_ (n+1) ⟨⟨by omega,fun j h hj=>by by_cases q:j=n;(subst q;exact hc25);exact n2 j h (by omega)⟩,(by omega)⟩
    .
     exact at_ n (vp bw n1 n2 (fun h=>hc25))
   .
    exact at_ n (vp bw n1 n2 (fun h=>absurd h (by omega)))
  .
   have hnl:n<=xs.length:=by rw[<-hnx];exact D3 _ _ _
   refine jD (v1:=fun hg31=>by simp only[ak];kernel_rfl) J J J J (fun hg31=>?_) (fun hg31=>?_)
   .
    have hnew: ∀h:n<xs.length,bw xs[n] q≠0:=fun h=>absurd h (by omega);obtain⟨ys,hys⟩: ∃ys,ys=xs.take n++q::xs.drop n:=⟨_,rfl⟩;have hin:eE bw q xs=ys:=by rw[hys];exact tc bw hnx hnew
    have hyl:ys.length<=xs.length+1:=by rw[hys];simp;omega
    refine s3 n _ J J J J (eu _) (by rw[hxl];exact hnl) J<|ro J J<|kn n xs.length _ J J (by rw[hxl]) J (eu _) hnl (by omega) J<|ap _ J J (sC eu _ _ _) J<|kD (hv:=by simp only[ak];exact⟨by kernel_rfl,by omega⟩) (ho:=fun _=>⟨t6 eu _ _,by simp⟩) (ys.map eQ) J (by rw[hys,aL,bU,iU,iN,cX (l:=xs.map eQ) (i:=xs.length) (by simp)];rfl) (uh eu _ _ _ _) J<|at_ ⟨ys,i+1⟩ (by dsimp only;exact⟨⟨by rw[yu hz,<-h1];exact hin.symm,by omega⟩,(by omega)⟩)
   .
    refine ix _ J (tg) J<|cl J (ki (a:=xs[n]'(by omega)) (b:=q) (ha:=hxb _ (dX (by omega))) (hb:=hqb) (by omega) (by omega)) J<|br J J J (fun hc40=>?_) (fun hc40=>?_)
    .
     have hnew: ∀h:n<xs.length,bw xs[n] q≠0:=fun h=>hc40;obtain⟨ys,hys⟩: ∃ys,ys=xs.take n++q::xs.drop n:=⟨_,rfl⟩;have hin:eE bw q xs=ys:=by rw[hys];exact tc bw hnx hnew
     have hyl:ys.length<=xs.length+1:=by rw[hys];simp;omega
     refine s3 n _ J J J J (eu _) (by rw[hxl];exact hnl) J<|ro J J<|kn n xs.length _ J J (by rw[hxl]) J (eu _) hnl (by omega) J<|ap _ J J (sC eu _ _ _) J<|kD (hv:=by simp only[ak];exact⟨by kernel_rfl,by omega⟩) (ho:=fun _=>⟨t6 eu _ _,by simp⟩) (ys.map eQ) J (by rw[hys,aL,bU,iU,iN,cX (l:=xs.map eQ) (i:=xs.length) (by simp)];rfl) (uh eu _ _ _ _) J<|at_ ⟨ys,i+1⟩ (by dsimp only;exact⟨⟨by rw[yu hz,<-h1];exact hin.symm,by omega⟩,(by omega)⟩)
    .
     have hin:eE bw q xs=xs:=A4 bw hnx (by omega) (Decidable.not_not.1 hc40);exact at_ ⟨xs,i+1⟩ (by dsimp only;exact⟨⟨by rw[yu hz,<-h1];exact hin.symm,by omega⟩,(by omega)⟩)
 .
  have hfin:fy qs=xs:=by rw[Mh,h1,OE,List.map_id]
  exact rz J (by rw[hfin];rfl)
def MV(hb: ∀q∈cuts,BQ q k)(hk':k<=100000)(hn:cuts.length<=40000000):PF GB prog 170 [.sl (cuts.map eQ)] (.sl ((cj cuts).map eQ)):=by
 have hm:=eh eQ cuts;refine fn (fu:=⟨10⟩) func170 J J ntmps170 J J (fun C=>?_);refine aj 6 (.d (vI (cuts.length:Nat))) J (by rw[hm]<;>rfl)<|gx J<|br J J J (fun hc7=>?_) (fun hc7=>?_)
 .
  obtain rfl:cuts=[]:=cV (by omega);refine rf J J<|rz J (by rw[cj];show DV.sl [_]=DV.sl [_];rw[Gm])
 .
  obtain⟨a,ct,rfl⟩: ∃a t,cuts=a::t:=by cases cuts with|nil=>exact absurd rfl hc7|cons a t=>exact⟨a,t,rfl⟩
  haveI hab:=hb a aQ;have hcl:ct.length+1<=40000000:=hn;refine ix _ J J J<|cl J (iD (n:=1)) J<|cl (fu:=⟨0⟩) J (qO (a:=a) (b:=((1:Int):Rat)) (by omega) (by omega)) J<|aj 14 (.d (eQ (a-1))) J J<|gx J<|ro J J<|lp (fu:=⟨6⟩) (X:=Nat) (fun i=>[(4, .d (vI ((i+1:Nat):Int))),(3, .rw 15)]) (fun i=>[(15,some (.b 50 3 (((a-1)::iC ((a::ct).take (i+1))).map eQ) true))]) (fun i=>i<=ct.length) (fun i=>ct.length-i) 0 J (aM _) (fun _=>J) (fun i hk=>?_);have hm2:=eh eQ (a::ct);have hml:=AM (a::ct.take i);rw[bZ,bT] at hml;have hml2:=AM (a::ct);rw[bZ] at hml2;refine aj 18 (.d (vI ((ct.length+1:Nat):Int))) J (by rw[hm2]<;>rfl)<|gx J<|br (fu2:=⟨11⟩) J J J (fun hc19=>?_) (fun hc19=>?_)
  .
   obtain⟨u,hu⟩: ∃s,(a::ct)[i]? =some s:=⟨_,aZ (by simp;omega)⟩;obtain⟨w,hw⟩: ∃s,(a::ct)[i+1]? =some s:=⟨_,aZ (by simp;omega)⟩;haveI:=hb u (aK hu);haveI:=hb w (aK hw);refine ix _ J (by rw[show((((i+1:Nat):Int))-1).toNat=i by omega,cR,hu];rfl) J<|ix _ J (by rw[bM,cR,hw];rfl) J<|?_;refine cl J (D6 (a:=u) (b:=w) (by omega) (by omega)) J<|rf J J<|ap (hv:=by simp only[ak];exact⟨by kernel_rfl,by omega⟩) (((a-1)::iC ((a::ct).take (i+1+1))).map eQ) J (by rw[Gf hu hw,<-gN,aL];rfl) (eu [(u+w)/2]) J<|d6 34 15 J<|at_ (i+1) ⟨(by omega),(by omega)⟩
  .
   obtain rfl:i=ct.length:=by omega
   obtain⟨z,hz⟩: ∃s,(a::ct)[ct.length]? =some s:=⟨_,aZ (by simp)⟩;haveI:=hb z (aK hz);rw[show(a::ct).take (ct.length+1)=a::ct from cS (l:=a::ct)];refine aj 38 (.d (vI ((ct.length+1:Nat):Int))) J (by rw[hm2]<;>rfl)<|gx J<|ix _ J (by rw[show((((ct.length+1:Nat):Int))-1).toNat=ct.length by omega,cR,hz];rfl) J<|cl J (iD (n:=1)) J<|?_;refine cl J (ml (a:=z) (b:=((1:Int):Rat)) (by omega) (by omega)) J<|rf J J<|ap ((cj (a::ct)).map eQ) J (by rw[Of hz,<-gN,aL];rfl) (eu [z+1]) J<|gp 45 J<|rz J J
def U2(hb: ∀a∈l,LB a)(ho: ∀a∈l,a.Ne)(hn:l.length<=6000):PF GB prog 101 [.sl (l.map eL)] (.sl ((oI l).map eP)):=by
 have hbl:=hb;have hml:=eh eL l;have htot:=M9 hn;have hgl:=L7 hn;have hxl:=FP l;have hxl2:l.length*(l.length+1)<=6000*6001:=gL hn (by omega);refine fn (fu:=⟨15⟩) func101 J J ntmps101 J J (fun C=>?_);refine aj 19 (.d (vI (l.length:Nat))) J (by rw[aX]<;>rfl)<|gx J<|nr 3 3 50 3 J J J<|lp (X:=List Rat×Nat) (fun⟨cur,i⟩=>[(20, .d (vI (i:Nat))),(3, .rw 3)]) (fun⟨cur,i⟩=>[(3,some (.b 50 3 (cur.map eQ) true))]) (fun⟨cur,i⟩=>cur++dH (l.drop i)=dH l/\i<=l.length) (fun⟨cur,i⟩=>l.length-i) ⟨[],0⟩ J ⟨by simp,aM _⟩ (fun _=>J) (fun⟨cur,i⟩ hk=>?_)
 try dsimp only at hk⊢
 obtain⟨h1,h2⟩:=hk;have hcl:=yk h1;have hcm:=eh eQ cur;refine br (fu2:=⟨0⟩) J J J (fun hc21=>?_) (fun hc21=>?_)
 .
  obtain⟨a,ha⟩: ∃s,l[i]? =some s:=⟨_,aZ (by omega)⟩;haveI hab:=hb a (aK ha);have hao:=ho a (aK ha);refine ix (fu:=⟨7⟩) _ J (cg ha) J<|mg (X:=List Rat) (fun cur1=>[(3, .rw 3)]) (fun cur1=>[(3,some (.b 50 3 (cur1.map eQ) true))]) (fun cur1=>cur1++(uI a ((l.drop (i+1)).drop 0)++dH (l.drop (i+1)))=dH l) [3] [3] rfl ?_ (fun _=>J) (fun cur1 hc1=>?_)
  .
   refine gx J<|cl J (wZ (z:=a.b)) J<|br J J J (fun hc28=>?_) (fun hc28=>?_)
   .
    refine cl J (y5 (l:=a) hao) J<|rf J J<|ap ((cur++[a.base.x]).map eQ) J (by rw[aL];rfl) (eu [_]) J<|d6 34 3 J<|at_ (cur++[a.base.x]) (by rw[<-h1,Se ha,if_pos (gR.1 hc28)];simp)
   .
    exact at_ cur (by rw[<-h1,Se ha,if_neg (fun e=>hc28 (gR.2 e))];simp)
  .
   have hcl1:=yk hc1;have hdl:(l.drop (i+1)).length<=6000:=by rw[gV];omega
   have hcm1:=eh eQ cur1;refine kn (fu:=⟨1⟩) (i+1) l.length ((l.drop (i+1)).map eL) J J (by rw[hml]) (by rw[cX (by rw[hml];exact bW _),iN]) (ez l) (by omega) (by rw[hml];exact bW _) J<|aj 39 (.d (vI ((l.drop (i+1)).length:Nat))) J (by rw[aX]<;>rfl)<|gx J<|lp (X:=List Rat×Nat) (fun⟨cur2,j⟩=>[(40, .d (vI (j:Nat))),(3, .rw 3)]) (fun⟨cur2,j⟩=>[(3,some (.b 50 3 (cur2.map eQ) true))]) (fun⟨cur2,j⟩=>cur2++(uI a ((l.drop (i+1)).drop j)++dH (l.drop (i+1)))=dH l/\j<=(l.drop (i+1)).length) (fun⟨cur2,j⟩=>(l.drop (i+1)).length-j) ⟨cur1,0⟩ J ⟨hc1,aM _⟩ (fun _=>J) (fun⟨cur2,j⟩ hk=>?_)
   try dsimp only at hk⊢
   obtain⟨j1,j2⟩:=hk;have hcl2:=yk j1;have hcm2:=eh eQ cur2;refine br J J J (fun hc41=>?_) (fun hc41=>?_)
   .
    obtain⟨b,hb⟩: ∃s,(l.drop (i+1))[j]? =some s:=⟨_,aZ (by omega)⟩;haveI hbb:=hbl b (gW (aK hb));refine ix _ J (cg hb) J<|cl J (CF (l:=a) (m:=b)) J<|bd J J J (fun hc50=>?_) (fun hc50=>?_)
    .
     refine rf J J<|ap ((cur2++[(cP a b).x]).map eQ) J (by rw[aL];rfl) (eu [_]) J<|d6 55 3 J<|at_ ⟨cur2++[(cP a b).x],j+1⟩ (by dsimp only;exact⟨⟨by rw[<-j1,PL hb,if_neg hc50];simp,by omega⟩,(by omega)⟩)
    .
     exact at_ ⟨cur2,j+1⟩ (by dsimp only;exact⟨⟨by rw[<-j1,PL hb,if_pos (Decidable.not_not.1 hc50)];simp,by omega⟩,(by omega)⟩)
   .
    obtain rfl:j=(l.drop (i+1)).length:=by omega
    exact at_ ⟨cur2,i+1⟩ (by dsimp only;exact⟨⟨by rw[A3] at j1;exact j1,by omega⟩,(by omega)⟩)
 .
  obtain rfl:i=l.length:=by omega
  obtain rfl:cur=dH l:=by rw[A3] at h1;simpa[dH] using h1
  refine nC 3 J<|gx J<|cl J (PW (qs:=dH l) (k:=900) (AX hb) (by decide)) J<|cl (fu:=⟨1⟩) J (MV (cuts:=fy (dH l)) (k:=900) (fun q hq=>AX hb q (pg.1 hq)) (by decide) (by have:=BW (dH l);omega)) J<|aj 61 (.d (vI ((cj (fy (dH l))).length:Nat))) J (by rw[aX]<;>rfl)<|gx J<|nr 10 10 53 6 J J J<|lp (X:=List ah×Nat) (fun⟨pts,g⟩=>[(62, .d (vI (g:Nat))),(10, .rw 10)]) (fun⟨pts,g⟩=>[(10,some (.b 53 6 (pts.map eP) true))]) (fun⟨pts,g⟩=>pts++((cj (fy (dH l))).drop g).flatMap (wc l)=oI l/\g<=(cj (fy (dH l))).length) (fun⟨pts,g⟩=>(cj (fy (dH l))).length-g) ⟨[],0⟩ J ⟨J,aM _⟩ (fun _=>J) (fun⟨pts,g⟩ hk=>?_)
  try dsimp only at hk⊢
  obtain⟨g1,g2⟩:=hk;have hpl:=yk g1;have hpm:=eh eP pts;refine br J J J (fun hc63=>?_) (fun hc63=>?_)
  .
   obtain⟨x,hx⟩: ∃s,(cj (fy (dH l)))[g]? =some s:=⟨_,aZ (by omega)⟩;haveI hxb:BQ x 1900:=JN (k:=900) (fun q hq=>AX hb q (pg.1 hq)) x (aK hx);refine ix (fu:=⟨15⟩) _ J (cg hx) J<|aj 67 (.d (vI (l.length:Nat))) J (by rw[aX]<;>rfl)<|gx J<|nr 13 13 50 3 J J J<|lp (X:=List Rat×Nat) (fun⟨ys,j⟩=>[(68, .d (vI (j:Nat))),(13, .rw 13)]) (fun⟨ys,j⟩=>[(13,some (.b 50 3 (ys.map eQ) true))]) (fun⟨ys,j⟩=>ys++gk (l.drop j) x=gk l x/\j<=l.length) (fun⟨ys,j⟩=>l.length-j) ⟨[],0⟩ J ⟨J,aM _⟩ (fun _=>J) (fun⟨ys,j⟩ hk=>?_)
   try dsimp only at hk⊢
   obtain⟨y1,y2⟩:=hk;have hyl:=yk y1;have hym:=eh eQ ys;have hyt:=KD l x;refine br (fu2:=⟨0⟩) J J J (fun hc69=>?_) (fun hc69=>?_)
   .
    obtain⟨a,ha⟩: ∃s,l[j]? =some s:=⟨_,aZ (by omega)⟩;haveI hala:=hb a (aK ha);refine ix _ J (cg ha) J<|cl J (wZ (z:=a.b)) J<|br J J J (fun hc75=>?_) (fun hc75=>?_)
    .
     have hab: ¬a.b=0:=fun e=>hc75 (gR.2 e);have habR:((a.b:Int):Rat)≠0:=fun e=>hab (cY.1 e);refine cl J (iv (z:=a.a)) J<|cl J (gr (a:=(a.a:Rat)) (b:=x)) J<|cl J (iv (z:=a.c)) J<|cl J (ml (a:=(a.a:Rat)*x) (b:=(a.c:Rat))) J<|cl J (iv (z:=a.b)) J<|cl J (wD (a:=(a.a:Rat)*x+(a.c:Rat)) (b:=(a.b:Rat)) habR) J<|cl J (nE (q:=((a.a:Rat)*x+(a.c:Rat))/(a.b:Rat))) J<|rf J J<|ap (hv:=by simp only[ak];exact⟨by kernel_rfl,by omega⟩) ((ys++[yA a x]).map eQ) J (by rw[aL];rfl) (eu [_]) J<|d6 92 13 J<|at_ ⟨ys++[yA a x],j+1⟩ (by dsimp only;exact⟨⟨by rw[<-y1,L0 ha,if_neg hab];simp,by omega⟩,(by omega)⟩)
    .
     have hab:a.b=0:=gR.1 (Decidable.not_not.1 hc75);exact at_ ⟨ys,j+1⟩ (by dsimp only;exact⟨⟨by rw[<-y1,L0 ha,if_pos hab];simp,by omega⟩,(by omega)⟩)
   .
    obtain rfl:j=l.length:=by omega
    obtain rfl:ys=gk l x:=by rw[A3] at y1;simpa[gk] using y1
    have hyb:=LE hb hxb;have hgy:(cj (fy (gk l x))).length<=6001:=by have:=Rd l x;unfold wc at this;rw[aX] at this;omega
    refine nC 13 J<|gx J<|cl J (PW (qs:=gk l x) (k:=2400) hyb (by decide)) J<|cl (fu:=⟨1⟩) J (MV (cuts:=fy (gk l x)) (k:=2400) (fun q hq=>hyb q (pg.1 hq)) (by decide) (by have:=BW (gk l x);omega)) J<|aj 97 (.d (vI ((cj (fy (gk l x))).length:Nat))) J (by rw[aX]<;>rfl)<|gx J<|lp (X:=List ah×Nat) (fun⟨pts2,j⟩=>[(98, .d (vI (j:Nat))),(10, .rw 10)]) (fun⟨pts2,j⟩=>[(10,some (.b 53 6 (pts2.map eP) true))]) (fun⟨pts2,j⟩=>pts2++(((cj (fy (gk l x))).drop j).map (fun y=>(⟨x,y⟩:ah))++((cj (fy (dH l))).drop (g+1)).flatMap (wc l))=oI l/\j<=(cj (fy (gk l x))).length) (fun⟨pts2,j⟩=>(cj (fy (gk l x))).length-j) ⟨pts,0⟩ J ⟨by rw[XX hx] at g1;exact g1,aM _⟩ (fun _=>J) (fun⟨pts2,j⟩ hk=>?_)
    try dsimp only at hk⊢
    obtain⟨w1,w2⟩:=hk;have hpl2:=yk w1;have hpm2:=eh eP pts2;refine br J J J (fun hc99=>?_) (fun hc99=>?_)
    .
     obtain⟨y,hy⟩: ∃s,(cj (fy (gk l x)))[j]? =some s:=⟨_,aZ (by omega)⟩;refine ix _ J (cg hy) J<|rf J J<|ap ((pts2++[(⟨x,y⟩:ah)]).map eP) J (by rw[aL];rfl) (Mk [(⟨x,y⟩:ah)]) J<|d6 107 10 J<|at_ ⟨pts2++[⟨x,y⟩],j+1⟩ (by dsimp only;exact⟨⟨by rw[<-w1,axf hy];simp,by omega⟩,(by omega)⟩)
    .
     obtain rfl:j=(cj (fy (gk l x))).length:=by omega
     exact at_ ⟨pts2,g+1⟩ (by dsimp only;exact⟨⟨by rw[A3] at w1;exact w1,by omega⟩,(by omega)⟩)
  .
   obtain rfl:g=(cj (fy (dH l))).length:=by omega
   obtain rfl:pts=oI l:=by rw[A3] at g1;simpa using g1
   refine gp 10 J<|rz J J
def XV{b:Bool}:PR GB prog 103 [eT (Tr.leaf b)] 6 55 ((Tr.leaf b).lns.map eL):=by
 refine JB (fu:=⟨11⟩) func103 J J ntmps103 J J (fun C hmb=>?_);refine dP J J J<|?_;exact aJ8 J J J
def aom{l:aa}{x:Tr}(hs:(Tr.node l x y).size<=100000)(ihx:PR GB prog 103 [eT x] 6 55 (x.lns.map eL))(ihy:PR GB prog 103 [eT y] 6 55 (y.lns.map eL)):PR GB prog 103 [eT (Tr.node l x y)] 6 55 ((Tr.node l x y).lns.map eL):=by
 have hsx:=ua x;have hsy:=ua y;have hsz:(Tr.node l x y).size=1+x.size+y.size:=J;refine JB (fu:=⟨11⟩) func103 J J ntmps103 J J (fun C hmb=>?_);refine cC J J J<|ro J J<|cr J ihx J<|ap (hbd:=by simp only[aX,bZ,eY];omega) ((l::x.lns).map eL) J (by rw[bU];rfl) (ez _) J<|cr J ihy J<|ap (hbd:=by simp only[aX,bZ,eY];omega) ((l::(x.lns++y.lns)).map eL) J (by rw[bU,bU,aL];rfl) (ez _) J<|?_;exact RP J J J J
def E2: ∀{t:Tr},t.size<=100000->PR GB prog 103 [eT t] 6 55 (t.lns.map eL)
 | .leaf _,_=>XV
 | .node l x y,h=>aom h (E2 (by have:(Tr.node l x y).size=1+x.size+y.size:=J;omega)) (E2 (by have:(Tr.node l x y).size=1+x.size+y.size:=J;omega))
def wz:Tr->ah->Bool
 | .leaf _,_=>true
 | .node l x y,p=>if(l.value p).num.sign=1 then wz x p else if(l.value p).num.sign= -1 then wz y p else false
def Sg[hp:aD p i](hb:t.all LB)(hi:i<=400000:=by decide):PF GB prog 104 [eT t,eP p] (.tp [vB (jI t p),vB (wz t p)]):=by
 refine fn func104 J J ntmps104 J J (fun C=>?_);refine lp (fu:=⟨3⟩) (X:=Tr) (fun s=>[(0, .d (eT s))]) (fun s=>[]) (fun s=>jI s p=jI t p/\wz s p=wz t p/\s.all LB) (fun s=>s.size) t J ⟨J,J,hb⟩ (fun _=>J) (fun s hk=>?_);obtain⟨h1,h2,hb2⟩:=hk;rcases s with b|⟨l,x,y⟩
 .
  have hA:jI t p=b:=h1.symm;have hO:wz t p=true:=h2.symm;refine gx (fu:=⟨3⟩) J<|dP J J J<|rz J (by rw[hA,hO];rfl)
 .
  have hAn:=h1.symm;have hOn:=h2.symm;rw[jI] at hAn;rw[wz] at hOn;haveI:=hb2.1;refine gx (fu:=⟨3⟩) J<|cC J J J<|cl J (wP (l:=l) (p:=p) (i:=i) hi) J<|br J J J (fun hc17=>?_) (fun hc17=>?_)
  .
   exact at_ x ⟨⟨by rw[hAn,if_pos hc17],by rw[hOn,if_pos hc17],hb2.2.1⟩,(by simp only[Tr.size];omega)⟩
  .
   refine br J J J (fun hc23=>?_) (fun hc23=>?_)
   .
    exact at_ y ⟨⟨by rw[hAn,if_neg hc17,if_pos hc23],by rw[hOn,if_neg hc17,if_pos hc23],hb2.2.2⟩,(by simp only[Tr.size];omega)⟩
   .
    exact rz J (by rw[hAn,hOn,if_neg hc17,if_neg hc23,if_neg hc17,if_neg hc23];rfl)
def LN(ls:List aa):(ng ls).length<=ls.length:=by
 have:=BU hH (ls.map aa.canon) [];unfold ng tA;rw[aX,eY] at this;omega
theorem Vu(hl: ∀a∈l,LB a): ∀p∈oI l,aD p 4900:=fun p hp=>by
 obtain⟨h1,h2⟩:=J3.1 hp;have hx:BQ p.x 1900:=JN (k:=900) (fun q hq=>AX hl q (pg.1 hq)) _ h1;have hy:BQ p.y 4900:=JN (k:=2400) (fun q hq=>LE hl hx q (pg.1 hq)) _ h2;exact⟨hx.mono (by decide),hy⟩
theorem Rq(h: ∀l∈ls,LB l): ∀l∈ng ls,LB l:=fun l hl=>by
 obtain⟨x,hx,rfl⟩:=Ee hl;haveI:=h x hx
 infer_instance
def aB1(h: ∀l∈ls,l.ok): ∀l∈ng ls,l.Ne:=fun l hl=>by
 obtain⟨x,hx,rfl⟩:=Ee hl;exact(Lh (h x hx)).ne
structure oz (a b:Tr):Prop where
 ga:a.gd
 gb:b.gd
 sa:a.size<=3000
 sb:b.size<=3000
theorem oz.lb{a b:Tr}(h:oz a b): ∀l∈a.lns++b.lns,LB l:=fun l hl=>(bJ.1 hl).elim (xt.1 h.ga.lb l) (xt.1 h.gb.lb l)
def oz.ok{a b:Tr}(h:oz a b): ∀l∈a.lns++b.lns,l.ok:=fun l hl=>(bJ.1 hl).elim (vy h.ga.ok l) (vy h.gb.ok l)
def oz.len(h:oz a b):(a.lns++b.lns).length<=6000:=by rw[aY,ua,ua];have:=h.sa;have:=h.sb;omega
def oz.fl(h:oz a b):(n9 a b).length<=216072012001:=M9 (cN (LN _) h.len)
theorem oz.fb(h:oz a b): ∀p∈n9 a b,aD p 4900:=Vu (Rq h.lb)
def ZH(hz:(n9 a b)[k]? =some p)(h:jI a p≠jI b p):s6 a b=false:=by
 rw[s6,sZ];exact⟨p,aK hz,by simpa using h⟩
def ZY(h: ∀j p,(n9 a b)[j]? =some p->j<(n9 a b).length->jI a p=jI b p):s6 a b=true:=by
 rw[s6,dJ];intro p hp;obtain⟨j,hj,rfl⟩:=List.getElem_of_mem hp;simpa using h j _ (aZ hj) hj
def axG(h:oz a b):PF GB prog 46 [eT a,eT b] (vB (s6 a b)):=by
 have hsa:=h.sa;have hsb:=h.sb;have hll:=h.len;have hfl:=h.fl;have hla:=ua a;have hlb:=ua b;refine fn func46 J J ntmps46 J J (fun C=>?_);refine cr J (E2 (t:=a) (by omega)) J<|cr J (E2 (t:=b) (by omega)) J<|ap (hbd:=by simp only[aX];omega) ((a.lns++b.lns).map eL) J (by rw[aL]) (ez _) J<|fz 15 J J<|cl J (SM (ls:=a.lns++b.lns) h.lb (by omega)) J<|cl (fu:=⟨1⟩) J (U2 (l:=ng (a.lns++b.lns)) (Rq h.lb) (aB1 h.ok) (cN (LN _) hll)) J<|aj 18 (.d (vI ((n9 a b).length:Nat))) J (by rw[aX];rfl)<|gx J<|lp (X:=Nat) (fun k=>[(19, .d (vI (k:Nat)))]) (fun k=>[]) (fun k=>k<=(n9 a b).length/\ ∀j q,(n9 a b)[j]? =some q->j<k->jI a q=jI b q) (fun k=>(n9 a b).length-k) 0 J ⟨aM _,fun j q _ hj=>absurd hj (by omega)⟩ (fun _=>J) (fun k hk=>?_);obtain⟨k1,k2⟩:=hk;refine br J J J (fun hc20=>?_) (fun hc20=>?_)
 .
  obtain⟨p,hz⟩: ∃s,(n9 a b)[k]? =some s:=⟨_,aZ (by omega)⟩;haveI hpb:=h.fb p (aK hz);refine ix _ J (cg (l:=n9 a b) hz) J<|cl J (Sg (t:=a) (p:=p) (i:=4900) h.ga.lb) J<|cl J (Sg (t:=b) (p:=p) (i:=4900) h.gb.lb) J<|bb J J J (fun hc37=>?_) (fun hc37=>?_)
  .
   exact rz J (by rw[ZH hz (by simpa using hc37)];rfl)
  .
   exact at_ (k+1) ⟨⟨by omega,fun j q hq hj=>by by_cases e:j=k;(subst e;rw[hz] at hq;cases hq;simpa using hc37);exact k2 j q hq (by omega)⟩,(by omega)⟩
 .
  exact rz J (by rw[ZY fun j q hq hj=>k2 j q hq (by omega)];rfl)
def Pp{c:List aa}(hok: ∀l∈c,l.ok):te c=true↔ ∃p,f9 c p:=by
 rw[<-FG hok];unfold te lg
 cases c with
 |nil=>simp
 |cons a b=>
  rw[if_neg (by simp;omega)];simp only[decide_eq_true_eq,aX,List.isEmpty_cons,Bool.false_or,iR];constructor
  .intro h
   obtain⟨m,hm⟩:=List.exists_mem_of_length_pos (l:=fP (a::b)) (by omega);exact⟨m,pz.1 hm⟩
  .rintro ⟨m,hm⟩
   have:=List.length_pos_of_mem (pz.2 hm);omega
end Go.Sx
end
