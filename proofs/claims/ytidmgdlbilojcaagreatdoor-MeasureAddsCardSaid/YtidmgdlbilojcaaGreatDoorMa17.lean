import Derived.Test.YtidmgdlbilojcaaGreatDoorMa16
set_option linter.all false
set_option maxHeartbeats 2000000
set_option maxRecDepth 100000
section
namespace Go.Sx
open Go Go.Proofs Tryz
variable {GB:Gh}
def io(p:ZP):DV:=eP p.q
def mO(r:List ZP):DV:= .sl (r.map io)
def Fo(l:List ZP):cI 6 (l.map io):=fun d hd=>by
 obtain⟨u,_,rfl⟩:=bV.1 hd;exact⟨rfl,rfl⟩
def KM(l:List (List ZP)):cI 1 (l.map mO):=fun d hd=>by
 obtain⟨u,_,rfl⟩:=bV.1 hd;exact⟨rfl,rfl⟩
def HM{r:List ZP}{i:Nat}(h:i<r.length):(r.map io)[((i:Nat):Int).toNat]? =some (io (r.getD i (0,0))):=by
 rw[aM,cV,aX,aZ h];rfl
def LZ{r:List ZP}{i:Nat}(h:i<r.length):(r.map io)[(((i+1)%r.length:Nat):Int).toNat]? =some (io (gv r i)):=HM (dQ _ (by omega))
def UM(v w p:ab):(qG v w p).natAbs<=1:=by
 unfold qG;split<;>split<;>decide
def B9(r:List ZP)(p:ab): ∀k,(og r p k).natAbs<=k
 |0=>aN _
 |k+1=>by rw[og];have:=B9 r p k;have:=UM (r.getD k (0,0)).q (gv r k).q p;omega
def L8{r:List ZP}(h:dO r):PF GB prog 116 [.sl (r.map io)] (.sl ((km r).map e8)):=by
 have hm:=gr io r;have h3:=h.n3;have h6:=h.n6;refine fn (fu:=⟨15⟩) func116 J J ntmps116 J J (fun C=>?_);refine aj 8 (.d (vI (r.length:Nat))) J (by rw[hm]<;>rfl) ?_;refine gx J<|?_;refine nr 3 3 225 14 J J J ?_;refine lp (X:=Nat) (fun k=>[(9, .d (vI (k:Nat))),(3, .rw 3)]) (fun k=>[(3,some (.b 225 14 ((qx r k).map e8) true))]) (fun k=>k<=r.length) (fun k=>r.length-k) 0 J (bJ _) (fun _=>J) (fun k hk=>?_);have hel:=fun hh=>(Jr (k:=k) h hh).1;refine br J J J (fun hc10=>?_) (fun hc10=>?_)
 .
  have hkr:k<r.length:=by omega
  have hel:=hel (by omega);have hem:=gr e8 (qx r k);refine ix (fu:=⟨7⟩) _ J (HM hkr) J<|?_;refine aj 22 (.d (vI ((k+1)%r.length:Nat))) J (by rw[hm]<;>rfl) ?_;refine gx J<|ix _ J (LZ hkr) J<|cl J (UO (v:=r.getD k (0,0)) (w:=gv r k) (h.le _ (AO hkr)) (h.le _ (BG hkr)) (h.ne k hkr)) J<|?_;refine rf J J<|ap ((qx r (k+1)).map e8) J (by rw[qx,bR];rfl) (xt [kr (r.getD k (0,0)) (gv r k)]) J<|?_;refine iv 31 3 J ?_;exact at_ (k+1) ⟨(by omega),(by omega)⟩
 .
  obtain rfl:k=r.length:=by omega
  refine i9 3 J ?_;exact rz J J
def YW{r:List ZP}{p:ab}{i:Nat}[hp:aO p i](h:dO r)(hi:i<=80000:=by decide):PF GB prog 236 [.sl (r.map io),eP p] (vI (lw r p)):=by
 have hm:=gr io r;have h3:=h.n3;have h6:=h.n6;refine fn (fu:=⟨16⟩) func236 J J ntmps236 J J (fun C=>?_);refine aj 12 (.d (vI (r.length:Nat))) J (by rw[hm]<;>rfl) ?_;refine gx J<|?_;refine lp (X:=Nat×Int) (fun⟨k,c⟩=>[(13, .d (vI (k:Nat))),(5, .d (vI c))]) (fun⟨k,c⟩=>[]) (fun⟨k,c⟩=>c=og r p k/\k<=r.length) (fun⟨k,c⟩=>r.length-k) (0,0) J ⟨J,bJ _⟩ (fun _=>J) (fun⟨k,c⟩ hk=>?_);dsimp only at hk⊢;obtain⟨h1,h2⟩:=hk;have hcl:c.natAbs<=k:=by rw[h1];exact B9 r p k
 refine br J J J (fun hc14=>?_) (fun hc14=>?_)
 .
  have hkr:k<r.length:=by omega
  obtain⟨v,hv⟩: ∃v,v=r.getD k (0,0):=⟨_,rfl⟩;obtain⟨w,hw⟩: ∃v,v=gv r k:=⟨_,rfl⟩;haveI hvb:aO v.q 12:=by rw[hv];exact Ax (h.le _ (AO hkr))
  haveI hwb:aO w.q 12:=by rw[hw];exact Ax (h.le _ (BG hkr))
  refine ix (fu:=⟨1⟩) _ J (HM hkr) J<|?_;refine aj 19 (.d (eP v.q)) J (by rw[hv];rfl) ?_;refine gx (fu:=⟨6⟩) J<|?_;refine aj 25 (.d (vI ((k+1)%r.length:Nat))) J (by rw[hm]<;>rfl) ?_;refine gx J<|ix (fu:=⟨1⟩) _ J (LZ hkr) J<|?_;refine aj 27 (.d (eP w.q)) J (by rw[hw];rfl) ?_;refine gx J<|cl J (lu (a:=v.q.y) (b:=p.y) (i:=12) (j:=i) (by decide) (by omega)) J<|cl (fu:=⟨9⟩) J (lu (a:=w.q.y) (b:=p.y) (i:=12) (j:=i) (by decide) (by omega)) J<|?_;rcases(show(bm v.q.y p.y<=0/\bm w.q.y p.y<=0)\/(bm v.q.y p.y<=0/\ ¬bm w.q.y p.y<=0)\/(¬bm v.q.y p.y<=0/\bm w.q.y p.y<=0)\/(¬bm v.q.y p.y<=0/\ ¬bm w.q.y p.y<=0) by omega) with⟨ca,cb⟩|⟨ca,cb⟩|⟨ca,cb⟩|⟨ca,cb⟩
  .
   refine dm (fu:=⟨3⟩) J (by show some (decide _)=some true;rw[decide_eq_true (by omega)]) J<|cO (fu:=⟨15⟩) J (by show some (decide _)=some false;rw[decide_eq_false (by omega)]) J<|?_;refine cO (fu:=⟨20⟩) J (by show some (decide _)=some false;rw[decide_eq_false (by omega)]) J<|?_;exact at_ (k+1,c) (by dsimp only;exact⟨⟨by rw[og,<-h1,<-hv,<-hw];unfold qG;split<;>split<;>omega,by omega⟩,(by omega)⟩)
  .
   refine dm (fu:=⟨3⟩) J (by show some (decide _)=some true;rw[decide_eq_true (by omega)]) J<|dm J (by show some (decide _)=some true;rw[decide_eq_true (by omega)]) J<|?_;refine cl J (NP (a:=v.q) (b:=w.q) (c:=p) (i:=12) (j:=12) (k:=i) (by decide) (by decide) hi) J<|?_;refine br (fu1:=⟨10⟩) (fu2:=⟨6⟩) J J J (fun hc51=>?_) (fun hc51=>?_)
   .
    refine cO J (by show some (decide _)=some false;rw[decide_eq_false (by omega)]) J<|?_;exact at_ (k+1,c+1) (by dsimp only;exact⟨⟨by rw[og,<-h1,<-hv,<-hw];unfold qG;split<;>split<;>omega,by omega⟩,(by omega)⟩)
   .
    refine cO (fu:=⟨20⟩) J (by show some (decide _)=some false;rw[decide_eq_false (by omega)]) J<|?_;exact at_ (k+1,c) (by dsimp only;exact⟨⟨by rw[og,<-h1,<-hv,<-hw];unfold qG;split<;>split<;>omega,by omega⟩,(by omega)⟩)
  .
   refine cO (fu:=⟨19⟩) J (by show some (decide _)=some false;rw[decide_eq_false (by omega)]) J<|dm (fu:=⟨2⟩) J (by show some (decide _)=some true;rw[decide_eq_true (by omega)]) J<|?_;refine dm J (by show some (decide _)=some true;rw[decide_eq_true (by omega)]) J<|cl J (NP (a:=v.q) (b:=w.q) (c:=p) (i:=12) (j:=12) (k:=i) (by decide) (by decide) hi) J<|?_;refine br (fu2:=⟨8⟩) J J J (fun hc65=>?_) (fun hc65=>?_)
   .
    exact at_ (k+1,c-1) (by dsimp only;exact⟨⟨by rw[og,<-h1,<-hv,<-hw];unfold qG;split<;>split<;>omega,by omega⟩,(by omega)⟩)
   .
    exact at_ (k+1,c) (by dsimp only;exact⟨⟨by rw[og,<-h1,<-hv,<-hw];unfold qG;split<;>split<;>omega,by omega⟩,(by omega)⟩)
  .
   refine cO (fu:=⟨19⟩) J (by show some (decide _)=some false;rw[decide_eq_false (by omega)]) J<|dm (fu:=⟨2⟩) J (by show some (decide _)=some true;rw[decide_eq_true (by omega)]) J<|?_;refine cO J (by show some (decide _)=some false;rw[decide_eq_false (by omega)]) J<|?_;exact at_ (k+1,c) (by dsimp only;exact⟨⟨by rw[og,<-h1,<-hv,<-hw];unfold qG;split<;>split<;>omega,by omega⟩,(by omega)⟩)
 .
  obtain rfl:k=r.length:=by omega
  have hfin:lw r p=c:=h1.symm;exact rz J (by rw[hfin];rfl)
def X7{fill n:Int}(hn:n.natAbs<=1000):PF GB prog 237 [vI fill,vI n] (vB (tI fill n)):=by
 refine fn func237 J J ntmps237 J J (fun C=>?_);refine cs 7 J J J (fun hg7=>?_) (fun hg7=>?_)
 .
  refine cs 12 J J J (fun hg12=>?_) (fun hg12=>?_)
  .
   exact rz J (by show vB _=vB _;unfold tI;congr 1;simp_all)
  .
   refine cs 15 J J J (fun hg15=>?_) (fun hg15=>?_)
   .
    exact rz J (by show vB _=vB _;unfold tI;congr 1;simp_all)
   .
    exact rz J (by show vB _=vB _;unfold tI;congr 1;simp_all)
 .
  refine cs 15 J J J (fun hg15=>?_) (fun hg15=>?_)
  .
   exact rz J (by show vB _=vB _;unfold tI;congr 1;simp_all)
  .
   exact rz J (by show vB _=vB _;unfold tI;congr 1;simp_all)
def Ff(rs:List (List ZP)):List aa:=(iw rs).map bj.l
def wL(rs:List (List ZP))(fill:Int):DV:= .ag [.sl (rs.map mO), .v (.int .i64 fill), .sl ((wP (Ff rs)).map eL)]
def XU{rs:List (List ZP)}{p:ab}(h: ∀r∈rs,dO r)(k:Nat):((rs.take k).foldl (fun n r=>n+lw r p) 0).natAbs<=6*k:=by
 induction k with
 |zero=>rw[pR];exact bJ _
 |succ k ih=>
  rw[jV,pY]
  cases e:rs[k]? with
  |none=>exact cY ih (by omega)
  |some r=>
   have h1:(lw r p).natAbs<=r.length:=B9 r p r.length;have h2:=(h r (aL e)).n6;show(List.foldl _ 0 (rs.take k)+lw r p).natAbs<=_;omega
def aG9{rs:List (List ZP)}{fill:Int}{p:ab}{i:Nat}[hp:aO p i](h: ∀r∈rs,dO r)(hn:rs.length<=100)(hi:i<=80000:=by decide):PF GB prog 176 [wL rs fill,eP p] (vB (mi rs fill p)):=by
 have hm:=gr mO rs;refine fn (fu:=⟨18⟩) func176 J J ntmps176 J J (fun C=>?_);refine aj 10 (.d (vI (rs.length:Nat))) J (by rw[hm]<;>rfl) ?_;refine gx J<|?_;refine lp (X:=Nat×Int) (fun⟨k,c⟩=>[(11, .d (vI (k:Nat))),(5, .d (vI c))]) (fun⟨k,c⟩=>[]) (fun⟨k,c⟩=>c=(rs.take k).foldl (fun n r=>n+lw r p) 0/\k<=rs.length) (fun⟨k,c⟩=>rs.length-k) (0,0) J ⟨by rw[pR];rfl,bJ _⟩ (fun _=>J) (fun⟨k,c⟩ hk=>?_);dsimp only at hk⊢;obtain⟨h1,h2⟩:=hk;have hcl:c.natAbs<=6*k:=by rw[h1];exact XU h k
 refine br J J J (fun hc12=>?_) (fun hc12=>?_)
 .
  obtain⟨r,hz⟩: ∃s,rs[k]? =some s:=⟨_,aZ (by omega)⟩;have hr:=h r (aL hz);have hnz:(lw r p).natAbs<=6:=cY (B9 r p r.length) hr.n6;refine ix _ J (fe hz) J<|cl J (YW (r:=r) (p:=p) hr hi) J<|?_;exact at_ (k+1,c+lw r p) (by dsimp only;exact⟨⟨by rw[jV,hz,pY,<-h1];rfl,by omega⟩,(by omega)⟩)
 .
  obtain rfl:k=rs.length:=by omega
  rw[dZ] at h1;refine cl J (X7 (fill:=fill) (n:=c) (by omega)) J<|?_;exact rz J (by unfold mi;rw[<-h1];rfl)
def wm(r:List ZP):DV:= .sl ((r.map ZP.q).map pc)
def S9(l:List (List ZP)):cI 1 (l.map wm):=fun d hd=>by
 obtain⟨u,_,rfl⟩:=bV.1 hd;exact⟨rfl,rfl⟩
theorem FG{r:List ZP}(h: ∀p∈r,ZP.le 100 p): ∀p∈r.map ZP.q,aO p 1200:=fun p hp=>by
 obtain⟨z,hz,rfl⟩:=bV.1 hp;have:=Ax (h z hz);exact⟨BQ.mono this.x (by decide),BQ.mono this.y (by decide)⟩
def Ls(r:List ZP):DV.sl ((r.map ZP.q).map eP)=mO r:=by unfold mO;rw[rL];rfl
def Oo{rs:List (List ZP)}{k:Nat}{r:List ZP}(h:rs[k]? =some r):iw (rs.take (k+1))=iw (rs.take k)++km r:=by
 unfold iw;rw[jV,h,qV];simp
def N9{rs:List (List ZP)}(h: ∀r∈rs,dO r)(k:Nat):(iw (rs.take k)).length<=6*k:=by
 have:=(tr (rs:=rs.take k) (fun r hr=>h r (fK hr))).1;have h2:(rs.take k).length<=k:=by rw[cR];omega
 omega
def Ns{rs:List (List ZP)}{fill:Int}(h: ∀r∈rs,dO r)(hn:rs.length<=100):PF GB prog 55 [.sl (rs.map wm), .v (.int .i64 fill)] (wL rs fill):=by
 have hm:=gr wm rs;refine fn (fu:=⟨8⟩) func55 J J ntmps55 J J (fun C=>?_);refine XJ (fu:=⟨14⟩) 130 1 0 [] [.v (.int .i64 fill), .sl []] J J J J J<|?_;refine aj 15 (.d (vI (rs.length:Nat))) J (by rw[hm]<;>rfl) ?_;refine gx J<|?_;refine nr 6 6 175 6 J J J ?_;refine lp (X:=Nat) (fun k=>[(16, .d (vI (k:Nat))),(6, .rw 6),(5, .ov 5 0)]) (fun k=>[(5,some (.o 126 [.rw 13, .d (.v (.int .i64 fill)), .d (.sl [])] true)),(13,some (.b 130 1 ((rs.take k).map mO) true)),(6,some (.b 175 6 (((iw (rs.take k)).map bj.l).map eL) true))]) (fun k=>k<=rs.length) (fun k=>rs.length-k) 0 J (bJ _) (fun _=>J) (fun k hk=>?_);refine br (fu2:=⟨0⟩) J J J (fun hc17=>?_) (fun hc17=>?_)
 .
  obtain⟨r,hz⟩: ∃s,rs[k]? =some s:=⟨_,aZ (by omega)⟩;have hr:=h r (aL hz);have hel:(km r).length<=6:=by have:=(BX hr).1;have:=hr.n6;omega
  have het:=N9 h k;have hrl:((rs.take k).map mO).length=k:=by rw[aK,cR];omega
  refine ix _ J (fe hz) J<|cl (fu:=⟨0⟩) J (aH9 (ps:=r.map ZP.q) (FG hr.le) (by rw[aK];have:=hr.n6;omega)) J<|?_;refine aj 21 (.d (mO r)) J (by rw[Ls]) ?_;refine gx J<|rf J J<|ap ((rs.take (k+1)).map mO) J (vg hz) (KM [r]) J<|cl (fu:=⟨1⟩) J (L8 (r:=r) hr) J<|?_;refine aj 30 (.d (vI ((km r).length:Nat))) J (by rw[gr e8 (km r)]<;>rfl) ?_;refine gx J<|?_;rw[<-jJ (iw (rs.take k)),<-pR (l:=km r)];refine lp (X:=Nat) (fun j=>[(31, .d (vI (j:Nat))),(6, .rw 6)]) (fun j=>[(6,some (.b 175 6 (((iw (rs.take k)++(km r).take j).map bj.l).map eL) true))]) (fun j=>j<=(km r).length) (fun j=>(km r).length-j) 0 J (bJ _) (fun _=>J) (fun j hk=>?_);have hml:(((iw (rs.take k)++(km r).take j).map bj.l).map eL).length<=6*k+6:=by rw[aK,aK,aV,cR];omega
  refine br J J J (fun hc32=>?_) (fun hc32=>?_)
  .
   obtain⟨e,he⟩: ∃s,(km r)[j]? =some s:=⟨_,aZ (by omega)⟩;refine ix _ J (fe he) J<|rf J J<|ap (((iw (rs.take k)++(km r).take (j+1)).map bj.l).map eL) J (by rw[jV,he];simp only[bR,dV];rfl) (gu [e.l]) J<|?_;refine iv 39 6 J ?_;exact at_ (j+1) ⟨(by omega),(by omega)⟩
  .
   obtain rfl:j=(km r).length:=by omega
   rw[dZ,<-Oo hz];refine iv 26 13 J ?_;exact at_ (k+1) ⟨(by omega),(by omega)⟩
 .
  obtain rfl:k=rs.length:=by omega
  rw[dZ];refine yl 6 J ?_;refine yl 13 J ?_;refine gx rfl<|cl rfl (U2 (ls:=Ff rs) (fun l hl=>by obtain⟨f,hf,rfl⟩:=bV.1 hl;exact((tr h).2 f hf).lb) (by unfold Ff;rw[aK];have:=(tr h).1;omega)) rfl<|?_;exact rz J J
def aG6{rs:List (List ZP)}(h: ∀r∈rs,dO r)(hn:rs.length<=100):PF GB prog 95 [.sl (rs.map mO)] (.sl (rs.map wm)):=by
 have hm:=gr mO rs;refine fn (fu:=⟨15⟩) func95 J J ntmps95 J J (fun C=>?_);refine aj 7 (.d (vI (rs.length:Nat))) J (by rw[hm]<;>rfl) ?_;refine gx J<|?_;refine nr 3 3 160 1 J J J ?_;refine lp (X:=Nat) (fun k=>[(8, .d (vI (k:Nat))),(3, .rw 3)]) (fun k=>[(3,some (.b 160 1 ((rs.take k).map wm) true))]) (fun k=>k<=rs.length) (fun k=>rs.length-k) 0 J (bJ _) (fun _=>J) (fun k hk=>?_);have hml:((rs.take k).map wm).length<=k:=by rw[aK,cR];omega
 refine br J J J (fun hc9=>?_) (fun hc9=>?_)
 .
  obtain⟨r,hz⟩: ∃s,rs[k]? =some s:=⟨_,aZ (by omega)⟩;have hr:=h r (aL hz);refine ix (fu:=⟨1⟩) _ J (fe hz) J<|?_;refine aj 11 (.d (.sl ((r.map ZP.q).map eP))) J (by rw[Ls]) ?_;refine gx J<|cl J (N1 (ps:=r.map ZP.q) (FG hr.le) (by rw[aK];have:=hr.n6;omega)) J<|rf J J<|ap ((rs.take (k+1)).map wm) J (vg hz) (S9 [r]) J<|?_;refine iv 16 3 J ?_;exact at_ (k+1) ⟨(by omega),(by omega)⟩
 .
  obtain rfl:k=rs.length:=by omega
  refine i9 3 J ?_;exact rz J (by rw[dZ];rfl)
def an8(out:List aa)(l:aa):(pB out l).length<=out.length+1:=by
 unfold pB;split
 ·omega
 ·simp;omega
def JB(c:List aa): ∀(t out:List aa),(nf c t out).length<=out.length+t.length
 |[],out=>by simp[nf]
 |l::t,out=>by
  rw[nf];refine cY (JB c t _) ?_;have:=an8 out l;split<;>simp<;>omega
def CH(c:List aa):(fg c).length<=c.length:=cY (JB c c []) (by simp)
theorem CY{c:List aa}(h: ∀m∈c,LB m): ∀m∈fg c,LB m:=fun m hm=>h m (oz.1 hm).1
def CL{c:List aa}(h: ∀m∈c,m.ok): ∀m∈fg c,m.ok:=fun m hm=>h m (oz.1 hm).1
def Eg{c:List aa}{l:aa}(hc: ∀m∈c,LB m)(hok: ∀m∈c,m.ok)(hn:c.length<=900)(hl:LB l)(hlo:l.ok):PF GB prog 92 [.sl (c.map eL),eL l] (.sl ((fg (c++[l])).map eL)):=by
 have hcl:=vT c;refine fn func92 J J ntmps92 J J (fun C=>?_);refine rH J J<|ap (c.map eL) J J (gu _) J<|rf J J<|mp ((c++[l]).map eL) J (by rw[bR];rfl) (gu [l]) J<|?_;refine cl J (aBW (c:=c++[l]) (tU hc hl) (iu hok hlo) (by simp;omega)) J<|?_;exact rz J J
def axm{l l1:aa}{x y u:Tr}:PF GB prog 91 [eL l,eT (.node l1 x y),eT u] (eT (.node l (.node l1 x y) u)):=by
 refine fn (fu:=⟨12⟩) func91 J J ntmps91 J J (fun C=>?_);refine cO J J J<|?_;refine i9 33 J ?_;exact rz J J
def atv{l l1:aa}{x y:Tr}{p:Bool}:PF GB prog 91 [eL l,eT (.leaf p),eT (.node l1 x y)] (eT (.node l (.leaf p) (.node l1 x y))):=by
 refine fn (fu:=⟨12⟩) func91 J J ntmps91 J J (fun C=>?_);refine dm (fu:=⟨4⟩) J J J<|cO J J J<|?_;refine i9 33 J ?_;exact rz J J
def Xf{l:aa}{p q:Bool}:PF GB prog 91 [eL l,eT (.leaf p),eT (.leaf q)] (eT (Tr.joinQ l (.leaf p) (.leaf q))):=by
 refine fn (fu:=⟨12⟩) func91 J J ntmps91 J J (fun C=>?_);refine dm (fu:=⟨4⟩) J J J<|dm J J J<|?_;refine bd J J J (fun hc27=>?_) (fun hc27=>?_)
 .
  exact rz J (by rw[show Tr.joinQ l (.leaf p) (.leaf q)= .leaf p by simp[Tr.joinQ,Tr.isLeaf,Tr.code,hc27]];rfl)
 .
  refine i9 33 J ?_;exact rz J (by rw[show Tr.joinQ l (.leaf p) (.leaf q)= .node l (.leaf p) (.leaf q) by simp[Tr.joinQ,Tr.isLeaf,Tr.code,hc27]];rfl)
def QY{l:aa}: ∀{x y:Tr},PF GB prog 91 [eL l,eT x,eT y] (eT (Tr.joinQ l x y))
 | .leaf _, .leaf _=>Xf
 | .leaf _, .node .. =>atv
 | .node ..,_=>axm
def aiD{b:Bool}{c:List aa}:PF GB prog 87 [eT (.leaf b), .sl (c.map eL)] (eT (Tr.restrictL (.leaf b) c)):=by
 refine fn (fu:=⟨11⟩) func87 J J ntmps87 J J (fun C=>?_);refine dm J J J<|?_;exact rz J J
def X1{l:aa}{x y:Tr}{c:List aa}(hl:LB l)(hlo:l.ok)(hc: ∀m∈c,LB m)(hok: ∀m∈c,m.ok)(hn:c.length+(Tr.node l x y).depth<=900)(ihx: ∀{c:List aa},(∀m∈c,LB m)->(∀m∈c,m.ok)->c.length+x.depth<=900->PF GB prog 87 [eT x, .sl (c.map eL)] (eT (Tr.restrictL x c)))(ihy: ∀{c:List aa},(∀m∈c,LB m)->(∀m∈c,m.ok)->c.length+y.depth<=900->PF GB prog 87 [eT y, .sl (c.map eL)] (eT (Tr.restrictL y c))):PF GB prog 87 [eT (.node l x y), .sl (c.map eL)] (eT (Tr.restrictL (.node l x y) c)):=by
 have hdp:(Tr.node l x y).depth=1+Nat.max x.depth y.depth:=J;have hdx:x.depth<=Nat.max x.depth y.depth:=pX _ _;have hdy:y.depth<=Nat.max x.depth y.depth:=oV _ _;have hca:=CH (c++[l]);have hcb:=CH (c++[l.rev]);rw[aV,eK] at hca hcb;refine fn (fu:=⟨11⟩) func87 J J ntmps87 J J (fun C=>?_);refine cO J J J<|cl J (Oe (c:=c) (l:=l) hc hok (by omega) hl hlo) J<|?_;refine br J J J (fun hc16=>?_) (fun hc16=>?_)
 .
  refine cl J (ihx hc hok (by omega)) J<|?_;exact rz J (by rw[Tr.restrictL,if_pos hc16];rfl)
 .
  refine br J J J (fun hc24=>?_) (fun hc24=>?_)
  .
   refine cl J (ihy hc hok (by omega)) J<|?_;exact rz J (by rw[Tr.restrictL,if_neg hc16,if_pos hc24];rfl)
  .
   refine cl J (Eg (c:=c) (l:=l) hc hok (by omega) hl hlo) J<|cl J (ihx (c:=fg (c++[l])) (CY (tU hc hl)) (CL (iu hok hlo)) (by omega)) J<|?_;refine cl J (yN (l:=l)) J<|cl J (Eg (c:=c) (l:=l.rev) hc hok (by omega) hl.rev hlo.rev) J<|cl J (ihy (c:=fg (c++[l.rev])) (CY (tU hc hl.rev)) (CL (iu hok hlo.rev)) (by omega)) J<|?_;refine cl J QY J<|?_;exact rz J (by rw[Tr.restrictL,if_neg hc16,if_neg hc24];rfl)
def DS: ∀{t:Tr} {c:List aa},t.all LB->t.all aa.ok->(∀m∈c,LB m)->(∀m∈c,m.ok)->c.length+t.depth<=900->PF GB prog 87 [eT t, .sl (c.map eL)] (eT (Tr.restrictL t c))
 | .leaf _,_,_,_,_,_,_=>aiD
 | .node l x y,c,hb,ho,hc,hok,hn=>X1 hb.1 ho.1 hc hok hn (fun h1 h2 h3=>DS hb.2.1 ho.2.1 h1 h2 h3) (fun h1 h2 h3=>DS hb.2.2 ho.2.2 h1 h2 h3)
def p7:ab:=⟨mkRat 1 7,mkRat 1 5⟩
structure LP (l:aa):Prop where
 s:LS l
 p:0<l.value p7
def GV(es:List Int):Nat->Nat->List aa×Nat
 |0,a=>([],a)
 |i+1,a=>((lF es a).1::(GV es i (lF es a).2).1,(GV es i (lF es a).2).2)
def MQ(es:List Int)(most a:Nat):List aa×Nat:=GV es (aw es ((most:Int)+1) a).1 (aw es ((most:Int)+1) a).2
def Nq(l:aa):aa:=if(l.value p7).num.sign<0 then l.rev else l
def aJW(xs:List aa)(i:Nat):List aa:=(xs.take i).map Nq++xs.drop i
def aJr(es:List Int)(a:Nat):List aa×Nat:=((MQ es 3 a).1.map Nq,(MQ es 3 a).2)
def Vx{n d:Nat}(hn:n<=1000)(hd:0<d)(hd1:d<=1000):PF GB prog 62 [.v (.int .i64 (n:Int)), .v (.int .i64 (d:Nat))] (eQ (mkRat n d)):=by
 haveI:BI (n:Int) 10:=CV (by rw[iN];omega);haveI:BN d 10:=⟨by omega⟩;refine fn func62 J J ntmps62 J J (fun C=>?_);refine cl J (Lo (n:=(n:Int)) (by omega) (by omega)) J<|cl J (t6 (u:=d) (by omega)) J<|cl J (vH (x:=(n:Int)) (d:=d) hd) J<|?_;exact rz J J
section
variable {GB:Gh} {C:az} {n:Nat} {Q0:Exit->Act->World->Prop} {fr fr':ay} {own own':aE} {cf cf':Cf} {vc:List Prop}
def PR(GB:Gh)(P:Program)(f:FuncId)(ds:List DV)(s:Nat)(ty:TypeId)(rows:List DV):Prop:=
 ∀G vs,bD GB G->IsLs G ds vs->gO P f vs [] G (fun v own' G'=> ∃w:SV,v= .slice w.a w.n w.c/\dG G' ⟨w,s,ty,rows,true⟩ own')
def QV: ∀(l:List ak),(∀o∈l,o.lo=true)->l.map (relo (gP []))=l
 |[],_=>rfl
 |a::t,h=>by
  have h1:=h a aQ;rw[bT,QV t fun o ho=>h o (aJ _ ho)];congr 1
  cases a
  simp[relo,gP] at*;exact h1
def VL{lk:LK}{bk:BM}{fo:Operand}{args:Array Operand}{tys:Array TypeId}{f:FuncId}{d s:Nat}{ds rows:List DV}{ty ty2:TypeId}{pos:String}{af:Array Edge}{gd:Option (Nat×Bool)}
  (ha:tA lk fo args=some (f,ds))(hF:PR GB prog f ds s ty2 rows):b8 prog GB C n lk bk ⟨some d, .call ⟨.value fo,args,tys⟩,ty,pos,af,gd⟩ (.rw d) [(d,some (.b ty2 s rows true))] [d]:=by
 intro hd tl tb K' s1 s2 hf hk;refine⟨fun ρ G ov a w r Q=>?_⟩;have r1:=r.mono s1 s2;obtain⟨h1,h2⟩:=Cw ha;obtain⟨y,hy,hy'⟩:=r1.ev h1;rw[(aD (G:=G)).1 hy'] at hy;obtain⟨vs,h3,h4⟩:=r1.evDs h2;refine vN (M:=[]) (rest:=ov) hy h3 (List.Perm.refl _) (hF G vs r.gb h4) hd (fun v own1 G' hG hK a' w' rl=>?_) a w Q ⟨r.h,r.sz,c7 a,r.df⟩;obtain⟨z,rfl,vs',k1,k2,k3,k4⟩:=hK;rw[QV _ (k4 J)] at rl;have rl':gq C n (Sx.put (cB a) (some d) (.slice z.a z.n z.c)) (own1++ov) G' a' w':=rl;have hdis:=(gJ.1 rl'.h.nd).2.2;have r3:=r.new' (x:=z) (B':= .b ty2 s rows true) (os:=own1) (ov':=own1++ov) (f:= .rw d) (y:= .slice z.a z.n z.c) hf hG.le rl'.h ⟨vs',by simpa using k1,k2,k3,k4⟩ (fun o ho=>bU _ ho)
  (fun q B0 hq e o ho hbq=>⟨bL _ ho,fun hc=>by
   have hx: ∃o1∈own1,o1.b=o.b:=by
    rcases k1 with⟨_,h,_⟩|⟨b0,rest0,lo0,h,hB,_⟩
    ·rw[show z=_ from h] at hc;cases hc
    ·rw[show z=_ from h] at hc;cases hc;exact⟨⟨_,aC vs'++rest0,_,lo0⟩,by rw[hB];exact aQ,J⟩
   obtain⟨o1,ho1,he1⟩:=hx;exact hdis o1 ho1 o ho he1⟩) (by simp[b7]) (kH rl')
 exact hk.run _ G' _ a' w' r3
def Pp(fr:ay)(cf:Cf):Option (FuncId×List DV×Nat):=match cw fr cf with
 |some ⟨some d, .call ⟨.value fo,args,_⟩,_,_,_,_⟩=>match tA (bO fr cf) fo args with
  |some (f,ds)=>some (f,ds,d)
  |none=>none
 |_=>none
def cr[fu:Fu]{f:FuncId}{d s:Nat}{ds rows:List DV}{ty:TypeId}(ha:Pp fr cf=some (f,ds,d))(hF:PR GB prog f ds s ty rows)
  (hgo:cP tt n fu.n fr own cf (.rw d) [(d,some (.b ty s rows true))] [d]=⟨vc,fr',own',cf'⟩)(k:av prog GB C n Q0 fr' own' cf')
  (hv:ac vc:=by first|exact trivial|(simp only[ac];kernel_rfl)|(simp only[ac];omega)|(simp only[ac,aK,bQ,aU];omega)):av prog GB C n Q0 fr own cf:=by
 unfold Pp at ha;split at ha<;>try (cases ha;done)
 rename_i hh;split at ha<;>cases ha;rename_i h1;exact us hh (VL h1 hF) hgo hv k
def aIH(C:az)(s:Nat)(ty:TypeId)(rows:List DV):Ending->World->Prop:=qP C (fun v own' G'=> ∃w:SV,v= .slice w.a w.n w.c/\dG G' ⟨w,s,ty,rows,true⟩ own')
end
section
variable {GB:Gh} {C:az} {n:Nat} {Q0:Exit->Act->World->Prop} {fr fr':ay} {own own':aE} {cf cf':Cf} {vc:List Prop}
def Yj{lk:LK}{bk:BM}{fo:Operand}{args:Array Operand}{tys:Array TypeId}{f:FuncId}{nm d:Nat}{l:List (Option DV)}{s:Nat}{ty ty0:TypeId}{pos:String}{af:Array Edge}{gd:Option (Nat×Bool)}{dsi dso:List DV}{lo:Bool}(hne:Nat.beq nm d=false)
  (ha:yJ lk fo args=some (f,nm,l))(hb:bk nm=some (.b ty0 s dsi lo))(hF:PB GB prog f (fB l) s ty0 dsi (fun w=> .v (.slice w.a w.n w.c)) dso):b8 prog GB C n lk bk ⟨some d, .call ⟨.value fo,args,tys⟩,ty,pos,af,gd⟩ (.rw d) [(nm,none),(d,some (.b ty0 s dso lo))] [d]:=by
 intro hd tl tb K' s1 s2 hf hk;refine⟨fun ρ G ov a w r Q=>?_⟩;have r1:=r.mono s1 s2;unfold yJ at ha;split at ha<;>try (cases ha;done)
 rename_i h1;split at ha<;>cases ha;rename_i h2;obtain⟨y,hy,hy'⟩:=r1.ev h1;rw[(aD (G:=G)).1 hy'] at hy;obtain⟨B,g1,g2⟩:=r1.bx _ _ hb;have hB:dG G ⟨ρ nm,s,ty0,dsi,lo⟩ B:=g1;obtain⟨vs,h7,h8⟩:=C6 r1 (z:=ρ nm) h2 (fun nm e=>by cases e;rfl);have hp: ∃rest,ov.Perm (B++rest)/\ ∀o∈ov,(∀o'∈B,o.b≠o'.b)->o∈rest:=by
  rcases hB with⟨vs',⟨_,_,e⟩|⟨b0,r0,lo0,_,e,_⟩,_⟩
  ·rw[e];exact⟨ov,List.Perm.refl _,fun o ho _=>ho⟩
  ·rw[e] at g2⊢
   obtain⟨l1,l2,e2⟩:=lS (g2 _ aQ);rw[e2];refine⟨l1++l2,oJ,fun o ho hno=>?_⟩;rcases bW.1 ho with ho|ho
   ·exact bU _ ho
   ·rcases aY.1 ho with rfl|ho
    ·exact absurd J (hno _ aQ)
    ·exact bL _ ho
 obtain⟨rest,h5,h6⟩:=hp;refine vN (M:=B) (rest:=rest) hy h7 h5 (hF G (ρ nm) vs B r.gb hB.weak h8) hd (fun v own1 G' hG hK a' w' rl=>?_) a w Q ⟨r.h,r.sz,c7 a,r.df⟩;obtain⟨z,hr,vs',k1,k2,k3,k4⟩:=hK;have k1':=k1.relo (gP B);have e2:lo=true-> ∀o∈own1.map (relo (gP B)),o.lo=true:=fun hl o ho=>by
  obtain⟨o',_,rfl⟩:=bV.1 ho;obtain⟨_,_,_,_,hlo⟩:=hB;exact BD _ (hlo hl)
 generalize own1.map (relo (gP B))=B' at rl e2 k1';have rl':gq C n (Sx.put (cB a) (some d) v) (B'++rest) G' a' w':=rl;have hdis:=(gJ.1 rl'.h.nd).2.2;have r2:=r.dropB nm;have hnn:nm≠d:=fun e=>by subst e;rw[oS] at hne;cases hne
 have hf2:kP [d] (some d) tl (Sx.upB tb [(nm,none)]):=fun q hq=>by
  obtain⟨f1,f2⟩:=hf q hq;refine⟨f1,fun k B e1 e=>?_⟩;simp only[Sx.upB] at e;split at e
  ·cases e
  ·exact f2 k B e1 e
 have hsep: ∀q B0,Sx.upB tb [(nm,none)] q=some B0-> ∀o∈ov,(ρ q).a=some ⟨o.b,0,none⟩->o∈rest:=fun q B0 e o ho hbq=>by
  simp only[Sx.upB] at e;split at e
  ·cases e
  ·rename_i hqn
   refine h6 o ho fun o' ho' he=>?_;exact r.dj nm q _ _ (s2 _ _ hb) e (Ne.symm hqn) o'.b (g1.blk ho') (by rw[hbq,he])
 rw[aD.1 hr] at rl';have r3:=r2.new' (x:=z) (B':= .b ty0 s dso lo) (os:=B') (ov':=B'++rest) (f:= .rw d) (y:= .slice z.a z.n z.c) hf2 hG.le rl'.h ⟨vs',by simpa using k1',k2,k3,e2⟩ (fun o ho=>bU _ ho)
  (fun q B0 hq e o ho hbq=>⟨bL _ (hsep q B0 e o ho hbq),fun hc=>by
   have hx: ∃o1∈B',o1.b=o.b:=by
    rcases k1' with⟨_,h,_⟩|⟨b0,rest0,lo0,h,hB,_⟩
    ·rw[show z=_ from h] at hc;cases hc
    ·rw[show z=_ from h] at hc;cases hc;exact⟨⟨_,aC vs'++rest0,_,lo0⟩,by rw[hB];exact aQ,J⟩
   obtain⟨o1,ho1,he1⟩:=hx;exact hdis o1 ho1 o (hsep q B0 e o ho hbq) he1⟩) (by simp[b7]) (kH rl')
 exact hk.run _ G' _ a' w' r3
def cq[fu:Fu]{f:FuncId}{nm d:Nat}{l:List (Option DV)}{ty:TypeId}{s:Nat}{dsi dso:List DV}{lo:Bool}(dso':List DV)(ha:DD fr own cf=some ⟨f,nm,l,ty,s,dsi,lo,d⟩)(hF:PB GB prog f (fB l) s ty dsi (fun w=> .v (.slice w.a w.n w.c)) dso)(he:dso=dso')
  (hgo:cP tt n fu.n fr own cf (.rw d) [(nm,none),(d,some (.b ty s dso' lo))] [d]=⟨vc,fr',own',cf'⟩)(k:av prog GB C n Q0 fr' own' cf')
  (hv:ac vc:=by first|exact trivial|(simp only[ac];kernel_rfl)|(simp only[ac];omega)|(simp only[ac,aK,bQ,aU];omega)):av prog GB C n Q0 fr own cf:=by
 subst he;unfold DD at ha;split at ha<;>try (cases ha;done)
 rename_i hh;split at ha<;>try (cases ha;done)
 rename_i h1;split at ha<;>try (cases ha;done)
 rename_i h2;rw[cond_eq_ite] at ha;split at ha<;>cases ha;rename_i h3;exact us hh (Yj (by cases hq:Nat.beq nm d with|false=>rfl|true=>exact absurd hq h3) h1 h2 hF) hgo hv k
def Ez(C:az)(s:Nat)(ty:TypeId)(dso:List DV):Ending->World->Prop:=qP C (fun v own' G'=> ∃w',Is G' (.v (.slice w'.a w'.n w'.c)) v/\dG G' ⟨w',s,ty,dso,false⟩ own')
def Qt[fu:Fu]{f:FuncId}{fb:Func}{c:Code}{k s:Nat}{l:List (Option DV)}{dsi dso:List DV}{ty:TypeId}(hf:prog.funcs[f]? =some fb)(hb:fb.body=some c)(hn:(fb.name== "runtime.NumGoroutine")=false)(hm:fb.ntmps=k)(hlen:Nat.ble l.length k=true)
  (hgo:go tt k fu.n [] (wi 0 l) [(NM,some (.b ty s dsi false))] (.code c [])=⟨vc,fr,own,cf⟩)(h: ∀C,av prog GB C k (fI C prog fb (Ez C s ty dso)) fr own cf)
  (hv:ac vc:=by first|exact trivial|(simp only[ac];kernel_rfl)|(simp only[ac];omega)|(simp only[ac,aK,bQ,aU];omega)):PB GB prog f (fB l) s ty dsi (fun w=> .v (.slice w.a w.n w.c)) dso:=by
 intro G w vs B hg hB hvs;refine gO.introR hf hb hn hm (by rw[hvs.len,D7];exact hlen) fun C _ hmb hrd hfx=>?_;intro a wd rl;refine wK hrd ?_;have h1:=gj (GB:=GB) (C:=C) (Q0:=fI C prog fb (Ez C s ty dso)) hgo hv (h C);refine h1.run (fun _=>w) G (Sx.asB B) a wd ⟨hg,rl.h,rl.sz,rl.df,fun k f e=>?_,fun nm B' e=>?_,fun nm nm' B' B2 e e' hne=>?_,fun nm p _ _ e=>by rw[hfx] at e;cases e⟩
 ·obtain⟨y,⟨j,hj,hy⟩,h2⟩:=Dm (ρ:=fun _=>w) (w:=w) rfl 0 hvs k f e
  refine⟨y,rl.fr k y ?_,h2⟩;rw[hj];exact xf vs 0 j y hy
 ·rw[jq] at e
  split at e
  ·cases e;exact⟨Sx.asB B,hB.asB,fun o ho=>ho⟩
  ·cases e
 ·rw[jq] at e e'
  split at e<;>split at e'
  ·rename_i h2 h3;exact absurd (h2.trans h3.symm) hne
  ·cases e'
  ·cases e
  ·cases e
def zo{fb:Func}{t d s:Nat}{ty:TypeId}{ds dso:List DV}(hr:fb.results.toList=[.tmp t])(hl:aI fr t=some (.rw d))(hw:aP own d=some (.b ty s ds false))(ed:ds=dso):
  av prog GB C n (fI C prog fb (Ez C s ty dso)) fr own (.ex .ret []):=by
 subst ed;refine⟨fun ρ G ov a w r=>?_⟩;obtain⟨B,g1,g2⟩:=r.bx _ _ hw;have hB:dG G ⟨ρ d,s,ty,ds,false⟩ B:=g1;obtain⟨rest,hp⟩:=Lx hB g2;obtain⟨y,hy,hy'⟩:=r.ev (x:= .tmp t) (f:= .rw d) hl
 cases (show y=_ from hy')
 exact zz (C:=C) (n:=n) (fr:=cB a) (own:=ov) (G:=G) (vs:=[.slice (ρ d).a (ρ d).n (ρ d).c]) (by rw[hr];exact .tmp hy .nil) (B++rest) B hp (qU _ _) ⟨ρ d,aD.2 J,hB⟩ a w ⟨r.h,r.sz,c7 a,r.df⟩
def yH(lk:LK):List Operand->Option (List (Option DV))
 |[]=>none
 |[x]=>match aG lk x with
  |some .nl=>some [none]
  |_=>none
 |x::t=>match aG lk x,yH lk t with
  |some f,some l=>match lv f with
   |some d=>some (some d::l)
   |none=>none
  |_,_=>none
def Fb(lk:LK)(fo:Operand)(args:Array Operand):Option (FuncId×List (Option DV)):=match aG lk fo with
 |some (.d (.v (.func (.func f) ⟨[]⟩ ⟨[]⟩)))=>match yH lk args.toList with
  |some l=>some (f,l)
  |_=>none
 |_=>none
def QZ{lk:LK}{bk:BM}{ρ:NE}{G:Gh}{ov:List ak}{a:Act}{w:World}(r:bE GB C n lk bk ρ G ov a w): ∀{x:List Operand} {l:List (Option DV)},yH lk x=some l-> ∃y,fm (cB a) x=some y/\IsLs G (fB l ⟨none,0,0⟩) y
 |[],l,e=>by cases e
 |[x],l,e=>by
  simp only[yH] at e;split at e<;>cases e;rename_i h1;obtain⟨y,h3,h4⟩:=r.ev h1
  cases (show y=_ from h4)
  exact⟨[Value.slice none 0 0],by simp only[fm,h3], .cons ((aD (G:=G)).2 J) .nil⟩
 |x::x2::t,l,e=>by
  simp only[yH] at e;split at e
  ·rename_i f l' h1 h2
   cases hd:lv f with
   |none=>rw[hd] at e;cases e
   |some d=>
   rw[hd] at e;cases e;obtain⟨y,h3,h4⟩:=r.ev h1;obtain⟨ys,h5,h6⟩:=QZ r (x:=x2::t) (by simpa only[yH] using h2);exact⟨y::ys,by simp only[fm,h3] at h5⊢;rw[h5], .cons (n9 h4 hd) h6⟩
  ·cases e
def SW{lk:LK}{bk:BM}{fo:Operand}{args:Array Operand}{tys:Array TypeId}{f:FuncId}{d:Nat}{l:List (Option DV)}{s:Nat}{ty ty0:TypeId}{pos:String}{af:Array Edge}{gd:Option (Nat×Bool)}{dso:List DV}
  (ha:Fb lk fo args=some (f,l))(hF:PB GB prog f (fB l) s ty0 [] (fun w=> .v (.slice w.a w.n w.c)) dso):b8 prog GB C n lk bk ⟨some d, .call ⟨.value fo,args,tys⟩,ty,pos,af,gd⟩ (.rw d) [(d,some (.b ty0 s dso true))] [d]:=by
 intro hd tl tb K' s1 s2 hf hk;refine⟨fun ρ G ov a w r Q=>?_⟩;have r1:=r.mono s1 s2;unfold Fb at ha;split at ha<;>try (cases ha;done)
 rename_i h1;split at ha<;>cases ha;rename_i h2;obtain⟨y,hy,hy'⟩:=r1.ev h1;rw[(aD (G:=G)).1 hy'] at hy;obtain⟨vs,h7,h8⟩:=QZ r1 h2;refine vN (M:=[]) (rest:=ov) hy h7 (List.Perm.refl _) (hF G ⟨none,0,0⟩ vs [] r.gb ⟨[], .nil _ _, .nil,by simp,fun h=>by cases h⟩ h8) hd (fun v own1 G' hG hK a' w' rl=>?_) a w Q ⟨r.h,r.sz,c7 a,r.df⟩;obtain⟨z,hr,vs',k1,k2,k3,k4⟩:=hK;have k1':=k1.relo (gP []);have e2: ∀o∈own1.map (relo (gP [])),o.lo=true:=fun o ho=>by
  obtain⟨o',_,rfl⟩:=bV.1 ho;rfl
 generalize own1.map (relo (gP []))=B' at rl e2 k1';have rl':gq C n (Sx.put (cB a) (some d) v) (B'++ov) G' a' w':=rl;have hdis:=(gJ.1 rl'.h.nd).2.2;rw[aD.1 hr] at rl';have r3:=r.new (x:=z) (B':= .b ty0 s dso true) (os:=B') (ov':=B'++ov) (f:= .rw d) (y:= .slice z.a z.n z.c) hf hG.le rl'.h ⟨vs',by simpa using k1',k2,k3,fun _=>e2⟩ (fun o ho=>bU _ ho) (fun o ho=>bL _ ho)
  (fun o ho hc=>by
   have hx: ∃o1∈B',o1.b=o.b:=by
    rcases k1' with⟨_,h,_⟩|⟨b0,rest0,lo0,h,hB,_⟩
    ·rw[show z=_ from h] at hc;cases hc
    ·rw[show z=_ from h] at hc;cases hc;exact⟨⟨_,aC vs'++rest0,_,lo0⟩,by rw[hB];exact aQ,J⟩
   obtain⟨o1,ho1,he1⟩:=hx;exact hdis o1 ho1 o ho he1) (by simp[b7]) (kH rl')
 exact hk.run _ G' _ a' w' r3
def Ms(fr:ay)(cf:Cf):Option (FuncId×List (Option DV)×Nat):=match cw fr cf with
 |some ⟨some d, .call ⟨.value fo,args,_⟩,_,_,_,_⟩=>match Fb (bO fr cf) fo args with
  |some (f,l)=>some (f,l,d)
  |none=>none
 |_=>none
def Xv[fu:Fu]{f:FuncId}{d:Nat}{l:List (Option DV)}{ty:TypeId}{s:Nat}{dso:List DV}(dso':List DV)(ha:Ms fr cf=some (f,l,d))(hF:PB GB prog f (fB l) s ty [] (fun w=> .v (.slice w.a w.n w.c)) dso)(he:dso=dso')
  (hgo:cP tt n fu.n fr own cf (.rw d) [(d,some (.b ty s dso' true))] [d]=⟨vc,fr',own',cf'⟩)(k:av prog GB C n Q0 fr' own' cf')
  (hv:ac vc:=by first|exact trivial|(simp only[ac];kernel_rfl)|(simp only[ac];omega)|(simp only[ac,aK,bQ,aU];omega)):av prog GB C n Q0 fr own cf:=by
 subst he;unfold Ms at ha;split at ha<;>try (cases ha;done)
 rename_i hh;split at ha<;>cases ha;rename_i h1;exact us hh (SW h1 hF) hgo hv k
end
section
variable {P:Program} {T:TT} {GB:Gh} {C:az} {n:Nat} {lk:LK} {bk:BM} {ρ:NE} {G:Gh} {ov:List ak} {a:Act} {w:World}
variable {dst:Option Nat} {t t' ty':TypeId} {pos:String} {af:Array Edge} {gd:Option (Nat×Bool)} {x y:Operand} {e s by_:Nat}
def ay0{d nm:Nat}{i:TI}{z:DV}{ds ds2:List DV}[hT:cx P t e s by_][hN:jz P t'](hi:e7 P e=some i)(hz:oO i=some z)(hs:Nat.beq z.cells.length s=true)(hx:aG lk x=some (.rw nm))(hb:bk nm=some (.b e s ds false))(hy:q6 lk bk s y=some ds2)(hk2:cI s ds2)
  (hby:Nat.blt 0 by_=true)(hbd:(ds.length+ds2.length)*by_<=140737488355328)(hnd:Nat.beq nm d=false){ds':List DV}(hds:ds++ds2=ds'):
  b8 P GB C n lk bk ⟨some d, .call ⟨.builtin .append, #[x,y], #[t,t']⟩,ty',pos,af,gd⟩ (.rw d) [(nm,none),(d,some (.b e s ds' false))] [d]:=by
 intro hd tl tb K s1 s2 hf hk;refine⟨fun ρ G ov a w r Q=>?_⟩;subst hds;have r1:=r.mono s1 s2;obtain⟨v,hz1,hz2,hz3⟩:=yb hi hz;have cz:=((hz2 G).cells hz3).1.len;replace hs:=aR hs;rw[mK] at hby
 have hne:nm≠d:=fun e=>by subst e;simp at hnd
 obtain⟨u,hx',hx2⟩:=r1.ev hx
 cases hx2
 obtain⟨B,hB0,hBo⟩:=r1.bx _ _ hb;have hB1:dG G ⟨ρ nm,s,e,ds,false⟩ B:=hB0;clear hB0;obtain⟨vs,hB,hv,hvs,_⟩:=hB1;simp only[] at hB hv hvs;obtain⟨w2,us,hy',h2,h3,h4,h5,h6⟩:=AB (P:=P) r1 hy hk2;have hus:(aC us).length=us.length*s:=ez us h4;have hbd':(vs.length+us.length)*by_<=140737488355328:=by rw[hv.len,h3.len];exact hbd
 have hall: ∀v∈vs++us,(aA v).length=s:=fun v hv=>by
  rcases bW.1 hv with hv|hv
  ·exact hvs v hv
  ·exact h4 v hv
 have rd:=r.dropB nm;have hf':kP [d] (some d) tl (Sx.upB tb [(nm,none)]):=fun m hm=>by
  obtain⟨g1,g2⟩:=hf m hm;refine⟨g1,fun k B' hk e=>g2 k B' hk ?_⟩;simp only[Sx.upB] at e;split at e
  ·cases e
  ·exact e
 have hbk: ∀m B',(Sx.upB tb [(nm,none)]) m=some B'->m≠nm/\tb m=some B':=fun m B' e=>by
  simp only[Sx.upB] at e;split at e
  ·cases e
  ·exact⟨by assumption,e⟩
 have hnew: ∀{z:SV} {ov':List ak} {B1:List ak} {a':Act} {w':World} {dz:List DV},dG G ⟨z,s,e,dz,false⟩ B1->(∀o∈B1,o∈ov')->(∀m B',m≠d->(Sx.upB tb [(nm,none)]) m=some B'-> ∀o∈ov,(ρ m).a=some ⟨o.b,0,none⟩->o∈ov'/\z.a≠some ⟨o.b,0,none⟩)->
   SX GB C n (d5 tl (some d) (.rw d)) (Sx.upB (Sx.upB tb [(nm,none)]) [(d,some (.b e s dz false))]) K->gq C n (Sx.put (cB a) (some d) (.slice z.a z.n z.c)) ov' G a' w'->K a' w':=fun hB1 hos hov hk1 rl=>
  hk1.run _ _ _ _ _ (rd.new' (f:= .rw d) (y:= .slice _ _ _) hf' (bD.refl _) rl.h (hB1.toBk (by simp)) hos hov (by show _=_;simp) (kH rl))
 have hfin: ∀(b:Nat) (lo1:Bool) (cap':Nat) (rest':List Value) (ov1:List ak) a' w',vs.length+us.length<=cap'->rest'.length+(vs.length+us.length)*s=cap'*s->(∀o∈ov,(ρ nm).a≠some ⟨o.b,0,none⟩->o∈ov1)->
   gq C n (put (cB a) (some d) (.slice (some ⟨b,0,none⟩) (vs.length+us.length) cap')) (⟨b,aC (vs++us)++rest',e,lo1⟩::ov1) G a' w'->K a' w':=by
  intro b lo1 cap' rest' ov1 a' w' hc hr ho1 rl;have hnd':=(cK.1 rl.h.nd).1;refine hnew (z:=⟨some ⟨b,0,none⟩,vs.length+us.length,cap'⟩) (B1:=[⟨b,aC (vs++us)++rest',e,lo1⟩]) ⟨vs++us, .inr ⟨b,rest',lo1,by simp,J,ez _ hall,?_,by simpa using hc⟩,hv.app h3,hall,fun h=>by cases h⟩
   (fun o ho=>by rw[aW.1 ho];exact aQ) (fun m B' hm e o ho hmo=>?_) hk rl
  ·rw[ez _ hall,aV]
   simp only[];omega
  ·obtain⟨h7,h8⟩:=hbk m B' e
   have ho2:=ho1 o ho fun hc=>r.dj m nm B' _ h8 (s2 _ _ hb) h7 _ hmo hc;exact⟨aJ _ ho2,fun e'=>by cases e';exact hnd' o ho2 J⟩
 rcases hB with⟨e1,e2,e3⟩|⟨b,rest,lo',k3,k4,k5,k6,k7⟩
 ·subst e1
  rw[e2] at hx';by_cases hne:us=[]
  ·subst hne
   have:ds2=[]:=bS (by rw[<-h3.len];rfl);subst this;rw[h2] at hy';refine RA hx' hy' hd (fun a' w' rl=>?_) a w Q ⟨r.h,r.sz,c7 a,r.df⟩;refine hnew (z:=⟨none,0,0⟩) (B1:=[]) ⟨[], .inl ⟨J,J,J⟩,by simpa using hv,by simp,fun h=>by cases h⟩ (fun o ho=>by cases ho) (fun m B' hm e o ho hmo=>⟨ho,fun e'=>by cases e'⟩) hk rl
  ·have hup:0<us.length:=nM.2 hne
   rw[h2] at hy' h6;refine yT (z:=v) (xs:=[]) (ys:=aC us) hx' hy' u7 h6 (by show(0:Nat)<0+us.length;omega) hby (by simpa using hbd') hd (fun b cap' hc a' w' rl=>?_) a w Q ⟨r.h,r.sz,c7 a,r.df⟩;exact hfin b true cap' (de v (cap'-us.length)) ov a' w' (by simpa using hc) (by rw[o5,cz,hs,<-cS];simp at hc⊢;congr 1;omega) (fun o ho _=>ho) (by simpa using rl)
 ·subst k4
  have ha:(ρ nm).a=some ⟨b,0,none⟩:=by rw[k3]
  have hn:(ρ nm).n=vs.length:=by rw[k3]
  rw[ha,hn] at hx';rw[h2] at hy' h6;obtain⟨ov1,o1,o2⟩:=ju.of_mem (hBo _ aQ);refine Fm (z:=v) (xs:=aC vs) (ys:=aC us) (rest:=rest) (own1:=ov1) hx' hy' o1 k5 k6 k7 h6 hus h5 hby hbd' (by rw[cz,hs]) hd (fun b' lo2 cap' rest' hc hr a' w' rl=>?_) a w Q ⟨r.h,r.sz,c7 a,r.df⟩;rw[<-px] at rl;exact hfin b' lo2 cap' rest' ov1 a' w' hc hr (fun o ho hne=>o2 o ho fun e'=>hne (by rw[ha,e'])) rl
end
section
variable {GB:Gh} {C:az} {n:Nat} {Q0:Exit->Act->World->Prop} {fr fr':ay} {own own':aE} {cf cf':Cf} {vc:List Prop}
def LT(fr:ay)(own:aE)(cf:Cf):Option (Nat×Nat×Nat×Nat×Nat×List DV×List DV):=match cw fr cf with
 |some ⟨some d, .call ⟨.builtin .append,⟨[x,y]⟩,⟨[t,t']⟩⟩,_,_,_,_⟩=>match c9 tt t with
  |some ⟨.sl e s b,_,_,_⟩=>match c9 tt t' with
   |some ⟨.sl _ _ _,_,_,_⟩=>match c9 tt e with
    |some i=>match oO i with
     |some z=>bif Nat.beq z.cells.length s&&Nat.blt 0 b then(match q6 (bO fr cf) (ik fr own cf) s y with
      |some ds2=>match aG (bO fr cf) x with
       |some (.rw nm)=>match ik fr own cf nm with
        |some (.b e' s' ds false)=>bif (Nat.beq e' e&&Nat.beq s' s)&&!Nat.beq nm d then some (d,nm,e,s,b,ds,ds2) else none
        |_=>none
       |_=>none
      |none=>none) else none
     |none=>none
    |none=>none
   |_=>none
  |_=>none
 |_=>none
def JP[fu:Fu]{d nm:Nat}{e s b:Nat}{ds ds2:List DV}(ds':List DV)(h:LT fr own cf=some (d,nm,e,s,b,ds,ds2))(hds:ds++ds2=ds')(ho2:cI s ds2)(hgo:cP tt n fu.n fr own cf (.rw d) [(nm,none),(d,some (.b e s ds' false))] [d]=⟨vc,fr',own',cf'⟩)(k:av prog GB C n Q0 fr' own' cf')
  (hbd:(ds.length+ds2.length)*b<=140737488355328:=by simp;omega)
  (hv:ac vc:=by first|exact trivial|(simp only[ac];kernel_rfl)|(simp only[ac];omega)|(simp only[ac,aK,bQ,aU];omega)):av prog GB C n Q0 fr own cf:=by
 unfold LT at h;split at h<;>try (cases h;done)
 rename_i hh;split at h<;>try (cases h;done)
 rename_i hT;split at h<;>try (cases h;done)
 rename_i hT';split at h<;>try (cases h;done)
 rename_i hi;split at h<;>try (cases h;done)
 rename_i hz;rw[cond_eq_ite] at h;split at h<;>try (cases h;done)
 rename_i hc;simp only[bM] at hc;split at h<;>try (cases h;done)
 rename_i hy;have:=lP (ew _ _ hT) J;have hN:jz prog _:=⟨_,(lP (ew _ _ hT') J).un⟩;split at h<;>try (cases h;done)
 rename_i hx;split at h<;>try (cases h;done)
 rename_i hb;rw[cond_eq_ite] at h;split at h<;>cases h;rename_i hq;simp only[bM,gL] at hq
 cases aR hq.1.1
 cases aR hq.1.2
 exact us hh (ay0 (ew _ _ hi) hz hc.1 hx hb hy ho2 hc.2 hbd hq.2 hds) hgo hv k
end
def N7(xs ys:List NQ)(n:NQ):((xs++(n::ys)).map eN)[((xs.length:Nat):Int).toNat]? =some (eN n):=by simp
def N2(xs ys:List NQ)(n m:NQ)(e:DV)(h:e=eN m):((xs++(n::ys)).map eN).set ((xs.length:Nat):Int).toNat e=(xs++(m::ys)).map eN:=by subst h;simp
def anX{ns:List NQ}:PB GB prog 34 (fB [some (eT (.leaf true)),none]) 8 182 (ns.map eN) (fun w=> .tp ([]++ .v (.slice w.a w.n w.c)::[.v (.int .i64 (Tr.num (.leaf true) ns.length))])) ((ns++Tr.wr (.leaf true) ns.length).map eN):=by
 refine H' (fu:=⟨12⟩) func34 J J ntmps34 J J (fun C=>?_);refine dm (fu:=⟨9⟩) J J J<|dm J J J<|?_;exact H1 J J J J J (by simp[Tr.wr]) J
def Vo{ns:List NQ}:PB GB prog 34 (fB [some (eT (.leaf false)),none]) 8 182 (ns.map eN) (fun w=> .tp ([]++ .v (.slice w.a w.n w.c)::[.v (.int .i64 (Tr.num (.leaf false) ns.length))])) ((ns++Tr.wr (.leaf false) ns.length).map eN):=by
 refine H' (fu:=⟨12⟩) func34 J J ntmps34 J J (fun C=>?_);refine dm (fu:=⟨9⟩) J J J<|cO J J J<|?_;exact H1 J J J J J (by simp[Tr.wr]) J
def TS{l:aa}{s u:Tr}{ns:List NQ}(hl:BL l 96)(hs:ns.length+(1+s.size+u.size)<=1000000)(ihs: ∀{ns:List NQ},ns.length+s.size<=1000000->PB GB prog 34 (fB [some (eT s),none]) 8 182 (ns.map eN) (fun w=> .tp ([]++ .v (.slice w.a w.n w.c)::[.v (.int .i64 (Tr.num s ns.length))])) ((ns++Tr.wr s ns.length).map eN))(ihu: ∀{ns:List NQ},ns.length+u.size<=1000000->PB GB prog 34 (fB [some (eT u),none]) 8 182 (ns.map eN) (fun w=> .tp ([]++ .v (.slice w.a w.n w.c)::[.v (.int .i64 (Tr.num u ns.length))])) ((ns++Tr.wr u ns.length).map eN)):PB GB prog 34 (fB [some (eT (.node l s u)),none]) 8 182 (ns.map eN) (fun w=> .tp ([]++ .v (.slice w.a w.n w.c)::[.v (.int .i64 (Tr.num (.node l s u) ns.length))])) ((ns++Tr.wr (.node l s u) ns.length).map eN):=by
 refine H' (fu:=⟨12⟩) func34 J J ntmps34 J J (fun C=>?_);refine cO (fu:=⟨9⟩) J J J<|?_;refine aj 20 (.d (.v (.int .i64 (ns.length:Nat)))) J (by simp) ?_;refine gx J<|cl J (Se hl) J<|rf J J<|JP ((ns++[(⟨l,0,0⟩:NQ)]).map eN) J (by rw[bR]<;>rfl) (TJ [(⟨l,0,0⟩:NQ)]) J<|?_;refine cb _ J (ihs (ns:=ns++[(⟨l,0,0⟩:NQ)]) (by simp;omega)) J J<|cb (hv:=by simp only[ac];exact(by simp;omega)) ((ns++((⟨l,0,0⟩:NQ)::(s.wr (ns.length+1)++u.wr (ns.length+1+s.size)))).map eN) J (ihu (ns:=ns++[(⟨l,0,0⟩:NQ)]++s.wr (ns++[(⟨l,0,0⟩:NQ)]).length) (by simp[Tr.wr_len];omega)) (by simp[Tr.wr_len,jN,jY 1]) J<|?_;refine sb (hv:=by simp only[ac];exact(by simp;omega)) (eN ⟨l,0,0⟩) ((ns++((⟨l,s.num (ns.length+1),0⟩:NQ)::(s.wr (ns.length+1)++u.wr (ns.length+1+s.size)))).map eN) J (N7 ns _ ⟨l,0,0⟩) J (by rw[N2 _ _ _ ⟨l,s.num (ns.length+1),0⟩ _ (by simp[eN,DV.cells])]) J<|?_;refine sb (eN ⟨l,s.num (ns.length+1),0⟩) ((ns++Tr.wr (.node l s u) ns.length).map eN) J (N7 ns _ ⟨l,s.num (ns.length+1),0⟩) J (by rw[N2 _ _ _ ⟨l,s.num (ns.length+1),u.num (ns.length+1+s.size)⟩ _ (by simp[eN,DV.cells,Tr.wr_len,jN,jY 1])];simp[Tr.wr]) J<|?_;exact H1 J J J J J J J
def EE: ∀{t:Tr} {ns:List NQ},t.all (fun l=>BL l 96)->ns.length+t.size<=1000000->PB GB prog 34 (fB [some (eT t),none]) 8 182 (ns.map eN) (fun w=> .tp ([]++ .v (.slice w.a w.n w.c)::[.v (.int .i64 (Tr.num t ns.length))])) ((ns++Tr.wr t ns.length).map eN)
 | .leaf true,ns,_,_=>anX
 | .leaf false,ns,_,_=>Vo
 | .node l s u,ns,hb,hs=>TS hb.1 hs (fun h=>EE hb.2.1 h) (fun h=>EE hb.2.2 h)
def Zt{t:Tr}(hb:t.all (fun l=>BL l 96))(hs:t.size<=1000000):PF GB prog 7 [eT t] (eA t):=by
 refine fn func7 J J ntmps7 J J (fun C=>?_);refine Yi _ J (EE (t:=t) (ns:=[]) hb (by simpa using hs)) J J<|?_;refine i9 6 J ?_;exact rz J J
def S7(ds:List Int):cI 1 (ds.map vI):=fun d hd=>by
 obtain⟨n,_,rfl⟩:=bV.1 hd;exact⟨rfl,rfl⟩
def SJ(es:List Int):(es.map vI).take (min es.length 400)=(es.take 400).map vI:=by
 rw[gN];rcases Nat.le_total es.length 400 with h|h
 ·rw[iY h,aT (by simp),aT (by simpa using h)]
 ·rw[Nat.min_eq_right h]
def VN{es:List Int}(hb:es.length<=1125899906842624):PN GB prog 8 [.sl (es.map vI)] 87 Unit (fun _=>[.sl ((es.take 400).map vI), .v (.int .i64 (0:Nat))]):=by
 have hel:(es.map vI).length=es.length:=by simp
 refine fnN func8 J J ntmps8 J J (fun C hmb=>?_);refine mz 0 (min es.length 400) ((es.take 400).map vI) J J (by rw[hel];show(if _ then _ else _:Int)=_;split<;>omega) (SJ es) (S7 _) (by omega) (by omega) J<|?_;exact TA () J J J J J
def Ur{t:Tr}(hb:t.all LB)(hok:t.all aa.ok)(hd:t.depth<=900):PF GB prog 117 [eT t] (eT (t.restrict [])):=by
 refine fn func117 J J ntmps117 J J (fun C=>?_);refine cl J (DS (t:=t) (c:=[]) hb hok (by simp) (by simp) (by simpa using hd)) J<|?_;exact rz J (by rw[<-Tr.restrictL_eq t [] [] hok (by simp) bH.nil (fun p=>by unfold bc cF;simp)];rfl)
def NR{cuts:List Rat}{marks:List Bool}: ∀k,2*(fH cuts marks k).length<=k+(if 0<k/\marks.getD (k-1) false=true then 1 else 0)
 |0=>by rw[fH];simp
 |k+1=>by
  have ih:=NR (cuts:=cuts) (marks:=marks) k;rw[fH];simp only[lR];by_cases hm:marks.getD k false=true
  ·rw[if_pos hm,if_pos (show 0<k+1/\marks.getD k false=true from⟨by omega,hm⟩)]
   by_cases hp:0<k/\marks.getD (k-1) false=true
   ·rw[if_pos hp] at ih⊢
    cases hv:(fH cuts marks k).getLast? with
    |some v=>
     have:0<(fH cuts marks k).length:=by
      cases e:fH cuts marks k with
      |nil=>rw[e] at hv;simp at hv
      |cons a t=>simp
     show 2*((fH cuts marks k).dropLast++[_]).length<=_;rw[aV,iK,eK];omega
    |none=>
     have:fH cuts marks k=[]:=List.getLast?_eq_none_iff.1 hv;simp only[this];simp
   ·rw[if_neg hp] at ih⊢
    rw[aV,eK];omega
  ·rw[if_neg hm]
   split at ih<;>split<;>omega
def WD(op:Int)(a b:List ah):(ow op a b).length<=a.length+b.length+1:=by
 unfold ow vy;have h:=NR (cuts:=gH (a++b)) (marks:=(ey (gH (a++b))).map fun t=>nj op (fD a t) (fD b t)) ((ey (gH (a++b))).map fun t=>nj op (fD a t) (fD b t)).length;have h2:=GX (a++b);rw[aV] at h2;have h3:((ey (gH (a++b))).map fun t=>nj op (fD a t) (fD b t)).length=(gH (a++b)).length+1:=by rw[aK,zI]
 split at h<;>omega
def Fk(f:bj)(m:aa)(side:Int):(eh f m side).length<=3:=by
 unfold eh;split
 ·simp
 ·rw[aK]
  have:=WD 2 [f.v] (iD f.l m side);have h2:=zl (l:=f.l) (m:=m) (side:=side);rw[eK] at this;omega
theorem ZU{p v:ab}{m:aa}{s:Rat}[hp:aO p 4500][hv:aO v 97][hm:LB m](hs:BQ s 60000):BQ (om p v m s) 60000:=by
 unfold om tF;split
 ·exact hs
 ·split
  ·exact hs
  ·split
   ·split
    ·haveI:BQ (-(m.value p/(m.value (ck p v ((1:Int):Rat))-m.value p))) 45000:=BQ.mono inferInstance (by decide)
     exact BQ.mono (inferInstance:BQ (-(m.value p/(m.value (ck p v ((1:Int):Rat))-m.value p))/2) _) (by decide)
    ·exact hs
   ·exact hs
theorem N6{p v:ab}[hp:aO p 4500][hv:aO v 97]: ∀{c:List aa} {s:Rat},(∀m∈c,LB m)->BQ s 60000->BQ (m5 p v c s) 60000
 |[],_,_,hs=>hs
 |m::t,s,hc,hs=>by
  haveI:=hc m aQ;exact N6 (c:=t) (fun q hq=>hc q (aJ _ hq)) (ZU hs)
theorem Qg{c:List aa}(hc: ∀m∈c,LB m)(hok: ∀m∈c,m.ok): ∀{t:List aa},(∀m∈t,m∈c)->aO (iG c t) 70000
 |[],_=>by
  have h0:BQ (0:Rat) 70000:=BQ.mono (k:=1) ⟨by decide,by decide⟩ (by decide);exact⟨h0,h0⟩
 |m::t,h=>by
  have hm:=h m aQ;haveI:=hc m hm;rw[iG];split
  ·have hbd:=Bi (v:=ah.all) (hok m hm).ne hc gE.all (BQ.mono (k:=1) ⟨by decide,by decide⟩ (by decide)) (BQ.mono (k:=1) ⟨by decide,by decide⟩ (by decide))
   haveI:=hbd.1;haveI:=hbd.2;haveI hsb:=RZ (v:=(fj m c ah.all).1) (i:=1200);haveI hpt:aO (m.at (jB (fj m c ah.all).1)) 4500:=by have:=aO.at m (jB (fj m c ah.all).1) (1200+1200+5);exact⟨this.x.mono (by decide),this.y.mono (by decide)⟩
   haveI hvt:aO (oq m.dir) 97:=inferInstance;haveI hns:BQ (m5 (m.at (jB (fj m c ah.all).1)) (oq m.dir) c ((1:Int):Rat)) 60000:=N6 hc (BQ.mono (k:=2) ⟨by decide,by decide⟩ (by decide));have:=aO.mov (m.at (jB (fj m c ah.all).1)) (oq m.dir) (m5 (m.at (jB (fj m c ah.all).1)) (oq m.dir) c ((1:Int):Rat)) 4500 97 60000;exact⟨this.x.mono (by decide),this.y.mono (by decide)⟩
  ·exact Qg hc hok (fun q hq=>h q (aJ _ hq))
def O4{l:List bj}{k:Nat}{g:bj}{m:aa}{side:Int}(h:l[k]? =some g):(l.take (k+1)).flatMap (fun g=>eh g m side)=(l.take k).flatMap (fun g=>eh g m side)++eh g m side:=by
 rw[jV,h,qV];simp
def DY(l:List bj)(m:aa)(side:Int):(l.flatMap fun g=>eh g m side).length<=3*l.length:=by
 induction l with
 |nil=>simp
 |cons a t ih=>rw[kK,aV,bZ];have:=Fk a m side;omega
def Yl{acc:ab->Bool}{n:Nat}{c:List aa}:i7 acc n [] c= .leaf (acc (iG c c)):=by cases n<;>rfl
def SG{rs:List (List ZP)}{fill:Int}(hrs: ∀r∈rs,dO r)(hrn:rs.length<=100){n:Nat}{c:List aa}(hc: ∀m∈c,LB m)(hok: ∀m∈c,m.ok)(hn:c.length<=900):PF GB prog 118 [wL rs fill, .sl [], .sl (c.map eL)] (eT (i7 (mi rs fill) n [] c)):=by
 haveI hpb:=Qg hc hok (t:=c) (fun _ h=>h);refine fn (fu:=⟨11⟩) func118 J J ntmps118 J J (fun C=>?_);refine dm J J J<|cl J (HO (c:=c) hc hok (by omega)) J<|cl J (aG9 (p:=iG c c) (i:=70000) hrs hrn (by decide)) J<|cl J (xe (p:=mi rs fill (iG c c))) J<|?_;exact rz J (by rw[Yl];rfl)
def ar6{rs:List (List ZP)}{fill:Int}(hrs: ∀r∈rs,dO r)(hrn:rs.length<=100){n:Nat}{f:bj}{t:List bj}{c:List aa}(hfew:sv (n+1) (f::t))(hfo: ∀g∈f::t,nI g)(hlen:(f::t).length*3^(n+1)<=6973568802)(hc: ∀m∈c,LB m)(hok: ∀m∈c,m.ok)(hn:c.length+(n+1)<=900)(ih: ∀{l:List bj} {c:List aa},sv n l->(∀f∈l,nI f)->l.length*3^n<=6973568802->(∀m∈c,LB m)->(∀m∈c,m.ok)->c.length+n<=900->PF GB prog 118 [wL rs fill, .sl (l.map e8), .sl (c.map eL)] (eT (i7 (mi rs fill) n l c))):PF GB prog 118 [wL rs fill, .sl ((f::t).map e8), .sl (c.map eL)] (eT (i7 (mi rs fill) (n+1) (f::t) c)):=by
 obtain⟨l,hl⟩: ∃l,l=f::t:=⟨_,rfl⟩;have hl0:l[0]? =some f:=by rw[hl];rfl
 rw[<-hl] at hfew hfo hlen⊢;have hm:=gr e8 l;have hfl:=hfo f (aL hl0);haveI:=hfl.lb;have hlp:0<l.length:=by rw[hl];simp
 have hlb:l.length<=6973568802:=cY (rK _ (fZ (by decide))) hlen;refine fn (fu:=⟨11⟩) func118 J J ntmps118 J J (fun C=>?_);refine aj 17 (.d (vI (l.length:Nat))) J (by rw[hm]<;>rfl) ?_;refine gx (fu:=⟨0⟩) J<|cO J (by show some (decide _)=some false;rw[decide_eq_false (by omega)]) J<|ix (fu:=⟨17⟩) _ J (fe (i:=0) hl0) J<|?_;refine aj 33 (.d (vI (l.length:Nat))) J (by rw[hm]<;>rfl) ?_;refine gx J<|?_;refine nr 10 10 225 14 J J J ?_;refine nr 11 11 225 14 J J J ?_;refine lp (X:=Nat) (fun k=>[(34, .d (vI (k:Nat))),(10, .rw 10),(11, .rw 11)]) (fun k=>[(10,some (.b 225 14 (((l.take k).flatMap fun g=>eh g f.l 1).map e8) true)),(11,some (.b 225 14 (((l.take k).flatMap fun g=>eh g f.l (-1)).map e8) true))]) (fun k=>k<=l.length) (fun k=>l.length-k) 0 J (bJ _) (fun _=>J) (fun k hk=>?_);have htk:(l.take k).length<=6973568802:=by rw[cR];omega
 have hb1:(((l.take k).flatMap fun g=>eh g f.l 1).map e8).length<=20920706406:=by rw[aK];have:=DY (l.take k) f.l 1;omega
 have hb2:(((l.take k).flatMap fun g=>eh g f.l (-1)).map e8).length<=20920706406:=by rw[aK];have:=DY (l.take k) f.l (-1);omega
 refine br (fu2:=⟨0⟩) J J J (fun hc35=>?_) (fun hc35=>?_)
 .
  obtain⟨g,hz⟩: ∃s,l[k]? =some s:=⟨_,aZ (by omega)⟩;have hg:=hfo g (aL hz);have hs1:((eh g f.l 1).map e8).length<=3:=by rw[aK];exact Fk _ _ _
  have hs2:((eh g f.l (-1)).map e8).length<=3:=by rw[aK];exact Fk _ _ _
  refine ix _ J (fe hz) J<|cl J (Ym (f:=g) (m:=f.l) hg hfl.ok) J<|ap (hbd:=by omega) (((l.take (k+1)).flatMap fun g=>eh g f.l 1).map e8) J (by rw[O4 hz,bR]) (xt _) J<|?_;refine ap (hbd:=by omega) (((l.take (k+1)).flatMap fun g=>eh g f.l (-1)).map e8) J (by rw[O4 hz,bR]) (xt _) J<|?_;refine iv 46 10 J ?_;refine iv 49 11 J ?_;exact at_ (k+1) ⟨(by omega),(by omega)⟩
 .
  obtain rfl:k=l.length:=by omega
  rw[dZ];refine yl 10 J ?_;refine yl 11 J ?_;refine gx J<|rH J J<|ap (c.map eL) J J (gu c) J<|rf J J<|mp ((c++[f.l]).map eL) J (by rw[bR];rfl) (gu [f.l]) J<|?_;refine cl rfl (ih (c:=c++[f.l]) (by subst hl;exact sv.split hfew hfo) (fun g hg=>by obtain⟨q,hq,hg⟩:=gX.1 hg;exact(BW (hfo q hq) hfl.lb g hg).1) (by have:=DY l f.l 1;rw[fV] at hlen;exact cY (bK _ this) (by rw[cZ 3,cX];rw[cZ (3^n)] at hlen;exact hlen)) (tU hc hfl.lb) (iu hok hfl.ok) (by rw[aV,eK];omega)) rfl<|?_;refine rH J J<|ap (c.map eL) J J (gu c) J<|cl J (yN (l:=f.l)) J<|rf J J<|mp ((c++[f.l.rev]).map eL) J (by rw[bR];rfl) (gu [f.l.rev]) J<|?_;refine cl (fu:=⟨1⟩) rfl (ih (c:=c++[f.l.rev]) (by subst hl;exact sv.split hfew hfo) (fun g hg=>by obtain⟨q,hq,hg⟩:=gX.1 hg;exact(BW (hfo q hq) hfl.lb g hg).1) (by have:=DY l f.l (-1);rw[fV] at hlen;exact cY (bK _ this) (by rw[cZ 3,cX];rw[cZ (3^n)] at hlen;exact hlen)) (tU hc hfl.lb.rev) (iu hok hfl.ok.rev) (by rw[aV,eK];omega)) rfl<|?_;refine GT J J<|?_;exact rz J (by subst hl;rfl)
def PT{rs:List (List ZP)}{fill:Int}(hrs: ∀r∈rs,dO r)(hrn:rs.length<=100): ∀{n:Nat} {l:List bj} {c:List aa},sv n l->(∀f∈l,nI f)->l.length*3^n<=6973568802->(∀m∈c,LB m)->(∀m∈c,m.ok)->c.length+n<=900->PF GB prog 118 [wL rs fill, .sl (l.map e8), .sl (c.map eL)] (eT (i7 (mi rs fill) n l c))
 |n,[],c,_,_,_,hc,hok,hn=>SG hrs hrn hc hok (by omega)
 |0,f::t,c,hf,_,_,_,_,_=>by
  obtain⟨K,h1,h2⟩:=hf;obtain⟨m,hm,_⟩:=h2 f aQ;rw[bS (l:=K) (by omega)] at hm
  cases hm
 |n+1,f::t,c,hf,ho,hl,hc,hok,hn=>ar6 hrs hrn hf ho hl hc hok hn (fun a1 a2 a3 a4 a5 a6=>PT hrs hrn a1 a2 a3 a4 a5 a6)
def YO(l:List bj):sv l.length l:=⟨l.map bj.l,by rw[aK];exact aN _,fun f hf=>⟨f.l,eX hf, .inl J⟩⟩
def Wm{n:Nat}(h:n<=18):n*3^n<=6973568802:=cY (gW h (bY (by decide) h)) (by decide)
def QC{rs:List (List ZP)}{fill:Int}(hrs: ∀r∈rs,dO r)(hrn:rs.length<=3):PF GB prog 54 [wL rs fill] (eT (pz rs fill)):=by
 have hm:=gr mO rs;have hE:=tr hrs;have hraw:=GI (acc:=mi rs fill) hE.2 J;refine fn (fu:=⟨17⟩) func54 J J ntmps54 J J (fun C=>?_);refine aj 8 (.d (vI (rs.length:Nat))) J (by rw[hm]<;>rfl) ?_;refine gx J<|?_;refine nr 3 3 225 14 J J J ?_;refine lp (X:=Nat) (fun k=>[(9, .d (vI (k:Nat))),(3, .rw 3)]) (fun k=>[(3,some (.b 225 14 ((iw (rs.take k)).map e8) true))]) (fun k=>k<=rs.length) (fun k=>rs.length-k) 0 J (bJ _) (fun _=>J) (fun k hk=>?_);have het:((iw (rs.take k)).map e8).length<=6*k:=by rw[aK];exact N9 hrs k
 refine br J J J (fun hc10=>?_) (fun hc10=>?_)
 .
  obtain⟨r,hz⟩: ∃s,rs[k]? =some s:=⟨_,aZ (by omega)⟩;have hr:=hrs r (aL hz);have hel:((km r).map e8).length<=6:=by rw[aK];have:=(BX hr).1;have:=hr.n6;omega
  refine ix _ J (fe hz) J<|cl J (L8 (r:=r) hr) J<|ap (hbd:=by omega) ((iw (rs.take (k+1))).map e8) J (by rw[Oo hz,bR]) (xt _) J<|?_;refine iv 16 3 J ?_;exact at_ (k+1) ⟨(by omega),(by omega)⟩
 .
  obtain rfl:k=rs.length:=by omega
  rw[dZ];refine fz 3 J J<|cl J (PT (n:=(iw rs).length) (l:=iw rs) (c:=[]) hrs (by omega) (YO _) hE.2 (Wm (by have:=hE.1;omega)) (fun m h=>by cases h) (fun m h=>by cases h) (by have:=hE.1;rw[fX];omega)) J<|?_;refine cl J (Ur (t:=wx rs fill) hraw.gd.lb hraw.gd.ok (by have:=hraw.dp;have:=hE.1;show(i7 _ _ _ _).depth<=900;omega)) J<|?_;exact rz J J
def asc{b:Bool}:PF GB prog 89 [eT (.leaf b)] (eT (Tr.compl (.leaf b))):=by
 refine fn (fu:=⟨11⟩) func89 J J ntmps89 J J (fun C=>?_);refine dm J J J<|cl J (xe (p:=!b)) J<|?_;exact rz J J
def asm{l:aa}{x y:Tr}(ihx:PF GB prog 89 [eT x] (eT x.compl))(ihy:PF GB prog 89 [eT y] (eT y.compl)):PF GB prog 89 [eT (.node l x y)] (eT (Tr.compl (.node l x y))):=by
 refine fn (fu:=⟨11⟩) func89 J J ntmps89 J J (fun C=>?_);refine cO J J J<|cl J ihx J<|cl (fu:=⟨1⟩) J ihy J<|GT J J<|?_;exact rz J J
def nA: ∀{t:Tr},PF GB prog 89 [eT t] (eT t.compl)
 | .leaf _=>asc
 | .node _ _ _=>asm nA nA
def V2{op:Int}{b:Bool}{u:Tr}{c:List aa}(hu:u.all LB)(huo:u.all aa.ok)(hc: ∀m∈c,LB m)(hok: ∀m∈c,m.ok)(hn:c.length+u.depth<=900):PF GB prog 36 [vI op,eT (.leaf b),eT u, .sl (c.map eL)] (eT (Tr.mergeL op (.leaf b) u c)):=by
 refine fn (fu:=⟨11⟩) func36 J J ntmps36 J J (fun C=>?_);refine dm J J J<|cl J (DS (t:=u) (c:=c) hu huo hc hok hn) J<|?_;refine cs 20 J J J (fun hg20=>?_) (fun hg20=>?_)
 .
  refine bb J J J (fun hc17=>?_) (fun hc17=>?_)
  .
   refine cl J (xe (p:=true)) J<|?_;exact rz J (by show eT _=eT _;congr 1;rw[Tr.mergeL];unfold Tr.chooseL;(repeat' split)<;>first|rfl|(exfalso;simp_all;done)|(exfalso;omega))
  .
   refine cs 30 J J J (fun hg30=>?_) (fun hg30=>?_)
   .
    refine bb J J J (fun hc27=>?_) (fun hc27=>?_)
    .
     refine cl J (xe (p:=false)) J<|?_;exact rz J (by show eT _=eT _;congr 1;rw[Tr.mergeL];unfold Tr.chooseL;(repeat' split)<;>first|rfl|(exfalso;simp_all;done)|(exfalso;omega))
    .
     refine cs 45 J J J (fun hg45=>?_) (fun hg45=>?_)
     .
      refine bb J J J (fun hc42=>?_) (fun hc42=>?_)
      .
       refine cl J nA J<|?_;exact rz J (by show eT _=eT _;congr 1;rw[Tr.mergeL];unfold Tr.chooseL;(repeat' split)<;>first|rfl|(exfalso;simp_all;done)|(exfalso;omega))
      .
       exact rz J (by show eT _=eT _;congr 1;rw[Tr.mergeL];unfold Tr.chooseL;(repeat' split)<;>first|rfl|(exfalso;simp_all;done)|(exfalso;omega))
     .
      refine cs 49 J J J (fun hg49=>?_) (fun hg49=>?_)
      .
       refine bb J J J (fun hc42=>?_) (fun hc42=>?_)
       .
        refine cl J nA J<|?_;exact rz J (by show eT _=eT _;congr 1;rw[Tr.mergeL];unfold Tr.chooseL;(repeat' split)<;>first|rfl|(exfalso;simp_all;done)|(exfalso;omega))
       .
        exact rz J (by show eT _=eT _;congr 1;rw[Tr.mergeL];unfold Tr.chooseL;(repeat' split)<;>first|rfl|(exfalso;simp_all;done)|(exfalso;omega))
      .
       exact rz J (by show eT _=eT _;congr 1;rw[Tr.mergeL];unfold Tr.chooseL;(repeat' split)<;>first|rfl|(exfalso;simp_all;done)|(exfalso;omega))
   .
    refine cs 34 J J J (fun hg34=>?_) (fun hg34=>?_)
    .
     refine bb J J J (fun hc27=>?_) (fun hc27=>?_)
     .
      refine cl J (xe (p:=false)) J<|?_;exact rz J (by show eT _=eT _;congr 1;rw[Tr.mergeL];unfold Tr.chooseL;(repeat' split)<;>first|rfl|(exfalso;simp_all;done)|(exfalso;omega))
     .
      refine cs 45 J J J (fun hg45=>?_) (fun hg45=>?_)
      .
       refine bb J J J (fun hc42=>?_) (fun hc42=>?_)
       .
        refine cl J nA J<|?_;exact rz J (by show eT _=eT _;congr 1;rw[Tr.mergeL];unfold Tr.chooseL;(repeat' split)<;>first|rfl|(exfalso;simp_all;done)|(exfalso;omega))
       .
        exact rz J (by show eT _=eT _;congr 1;rw[Tr.mergeL];unfold Tr.chooseL;(repeat' split)<;>first|rfl|(exfalso;simp_all;done)|(exfalso;omega))
      .
       refine cs 49 J J J (fun hg49=>?_) (fun hg49=>?_)
       .
        refine bb J J J (fun hc42=>?_) (fun hc42=>?_)
        .
         refine cl J nA J<|?_;exact rz J (by show eT _=eT _;congr 1;rw[Tr.mergeL];unfold Tr.chooseL;(repeat' split)<;>first|rfl|(exfalso;simp_all;done)|(exfalso;omega))
        .
         exact rz J (by show eT _=eT _;congr 1;rw[Tr.mergeL];unfold Tr.chooseL;(repeat' split)<;>first|rfl|(exfalso;simp_all;done)|(exfalso;omega))
       .
        exact rz J (by show eT _=eT _;congr 1;rw[Tr.mergeL];unfold Tr.chooseL;(repeat' split)<;>first|rfl|(exfalso;simp_all;done)|(exfalso;omega))
    .
     refine cs 45 J J J (fun hg45=>?_) (fun hg45=>?_)
     .
      refine bb J J J (fun hc42=>?_) (fun hc42=>?_)
      .
       refine cl J nA J<|?_;exact rz J (by show eT _=eT _;congr 1;rw[Tr.mergeL];unfold Tr.chooseL;(repeat' split)<;>first|rfl|(exfalso;simp_all;done)|(exfalso;omega))
      .
       exact rz J (by show eT _=eT _;congr 1;rw[Tr.mergeL];unfold Tr.chooseL;(repeat' split)<;>first|rfl|(exfalso;simp_all;done)|(exfalso;omega))
     .
      refine cs 49 J J J (fun hg49=>?_) (fun hg49=>?_)
      .
       refine bb J J J (fun hc42=>?_) (fun hc42=>?_)
       .
        refine cl J nA J<|?_;exact rz J (by show eT _=eT _;congr 1;rw[Tr.mergeL];unfold Tr.chooseL;(repeat' split)<;>first|rfl|(exfalso;simp_all;done)|(exfalso;omega))
       .
        exact rz J (by show eT _=eT _;congr 1;rw[Tr.mergeL];unfold Tr.chooseL;(repeat' split)<;>first|rfl|(exfalso;simp_all;done)|(exfalso;omega))
      .
       exact rz J (by show eT _=eT _;congr 1;rw[Tr.mergeL];unfold Tr.chooseL;(repeat' split)<;>first|rfl|(exfalso;simp_all;done)|(exfalso;omega))
 .
  refine cs 30 J J J (fun hg30=>?_) (fun hg30=>?_)
  .
   refine bb J J J (fun hc27=>?_) (fun hc27=>?_)
   .
    refine cl J (xe (p:=false)) J<|?_;exact rz J (by show eT _=eT _;congr 1;rw[Tr.mergeL];unfold Tr.chooseL;(repeat' split)<;>first|rfl|(exfalso;simp_all;done)|(exfalso;omega))
   .
    refine cs 45 J J J (fun hg45=>?_) (fun hg45=>?_)
    .
     refine bb J J J (fun hc42=>?_) (fun hc42=>?_)
     .
      refine cl J nA J<|?_;exact rz J (by show eT _=eT _;congr 1;rw[Tr.mergeL];unfold Tr.chooseL;(repeat' split)<;>first|rfl|(exfalso;simp_all;done)|(exfalso;omega))
     .
      exact rz J (by show eT _=eT _;congr 1;rw[Tr.mergeL];unfold Tr.chooseL;(repeat' split)<;>first|rfl|(exfalso;simp_all;done)|(exfalso;omega))
    .
     refine cs 49 J J J (fun hg49=>?_) (fun hg49=>?_)
     .
      refine bb J J J (fun hc42=>?_) (fun hc42=>?_)
      .
       refine cl J nA J<|?_;exact rz J (by show eT _=eT _;congr 1;rw[Tr.mergeL];unfold Tr.chooseL;(repeat' split)<;>first|rfl|(exfalso;simp_all;done)|(exfalso;omega))
      .
       exact rz J (by show eT _=eT _;congr 1;rw[Tr.mergeL];unfold Tr.chooseL;(repeat' split)<;>first|rfl|(exfalso;simp_all;done)|(exfalso;omega))
     .
      exact rz J (by show eT _=eT _;congr 1;rw[Tr.mergeL];unfold Tr.chooseL;(repeat' split)<;>first|rfl|(exfalso;simp_all;done)|(exfalso;omega))
  .
   refine cs 34 J J J (fun hg34=>?_) (fun hg34=>?_)
   .
    refine bb J J J (fun hc27=>?_) (fun hc27=>?_)
    .
     refine cl J (xe (p:=false)) J<|?_;exact rz J (by show eT _=eT _;congr 1;rw[Tr.mergeL];unfold Tr.chooseL;(repeat' split)<;>first|rfl|(exfalso;simp_all;done)|(exfalso;omega))
    .
     refine cs 45 J J J (fun hg45=>?_) (fun hg45=>?_)
     .
      refine bb J J J (fun hc42=>?_) (fun hc42=>?_)
      .
       refine cl J nA J<|?_;exact rz J (by show eT _=eT _;congr 1;rw[Tr.mergeL];unfold Tr.chooseL;(repeat' split)<;>first|rfl|(exfalso;simp_all;done)|(exfalso;omega))
      .
       exact rz J (by show eT _=eT _;congr 1;rw[Tr.mergeL];unfold Tr.chooseL;(repeat' split)<;>first|rfl|(exfalso;simp_all;done)|(exfalso;omega))
     .
      refine cs 49 J J J (fun hg49=>?_) (fun hg49=>?_)
      .
       refine bb J J J (fun hc42=>?_) (fun hc42=>?_)
       .
        refine cl J nA J<|?_;exact rz J (by show eT _=eT _;congr 1;rw[Tr.mergeL];unfold Tr.chooseL;(repeat' split)<;>first|rfl|(exfalso;simp_all;done)|(exfalso;omega))
       .
        exact rz J (by show eT _=eT _;congr 1;rw[Tr.mergeL];unfold Tr.chooseL;(repeat' split)<;>first|rfl|(exfalso;simp_all;done)|(exfalso;omega))
      .
       exact rz J (by show eT _=eT _;congr 1;rw[Tr.mergeL];unfold Tr.chooseL;(repeat' split)<;>first|rfl|(exfalso;simp_all;done)|(exfalso;omega))
   .
    refine cs 45 J J J (fun hg45=>?_) (fun hg45=>?_)
    .
     refine bb J J J (fun hc42=>?_) (fun hc42=>?_)
     .
      refine cl J nA J<|?_;exact rz J (by show eT _=eT _;congr 1;rw[Tr.mergeL];unfold Tr.chooseL;(repeat' split)<;>first|rfl|(exfalso;simp_all;done)|(exfalso;omega))
     .
      exact rz J (by show eT _=eT _;congr 1;rw[Tr.mergeL];unfold Tr.chooseL;(repeat' split)<;>first|rfl|(exfalso;simp_all;done)|(exfalso;omega))
    .
     refine cs 49 J J J (fun hg49=>?_) (fun hg49=>?_)
     .
      refine bb J J J (fun hc42=>?_) (fun hc42=>?_)
      .
       refine cl J nA J<|?_;exact rz J (by show eT _=eT _;congr 1;rw[Tr.mergeL];unfold Tr.chooseL;(repeat' split)<;>first|rfl|(exfalso;simp_all;done)|(exfalso;omega))
      .
       exact rz J (by show eT _=eT _;congr 1;rw[Tr.mergeL];unfold Tr.chooseL;(repeat' split)<;>first|rfl|(exfalso;simp_all;done)|(exfalso;omega))
     .
      exact rz J (by show eT _=eT _;congr 1;rw[Tr.mergeL];unfold Tr.chooseL;(repeat' split)<;>first|rfl|(exfalso;simp_all;done)|(exfalso;omega))
def R3{op:Int}{l:aa}{x y u:Tr}{c:List aa}(hl:LB l)(hlo:l.ok)(hc: ∀m∈c,LB m)(hok: ∀m∈c,m.ok)(hn:c.length+(Tr.node l x y).depth+u.depth<=900)(ihx: ∀{c:List aa},(∀m∈c,LB m)->(∀m∈c,m.ok)->c.length+x.depth+u.depth<=900->PF GB prog 36 [vI op,eT x,eT u, .sl (c.map eL)] (eT (Tr.mergeL op x u c)))(ihy: ∀{c:List aa},(∀m∈c,LB m)->(∀m∈c,m.ok)->c.length+y.depth+u.depth<=900->PF GB prog 36 [vI op,eT y,eT u, .sl (c.map eL)] (eT (Tr.mergeL op y u c))):PF GB prog 36 [vI op,eT (.node l x y),eT u, .sl (c.map eL)] (eT (Tr.mergeL op (.node l x y) u c)):=by
 have hdp:(Tr.node l x y).depth=1+Nat.max x.depth y.depth:=J;have hdx:x.depth<=Nat.max x.depth y.depth:=pX _ _;have hdy:y.depth<=Nat.max x.depth y.depth:=oV _ _;have hca:=CH (c++[l]);have hcb:=CH (c++[l.rev]);rw[aV,eK] at hca hcb;refine fn (fu:=⟨11⟩) func36 J J ntmps36 J J (fun C=>?_);refine cO J J J<|cl J (Oe (c:=c) (l:=l) hc hok (by omega) hl hlo) J<|?_;refine br J J J (fun hc64=>?_) (fun hc64=>?_)
 .
  refine cl J (ihx hc hok (by omega)) J<|?_;exact rz J (by rw[Tr.mergeL,if_pos hc64];rfl)
 .
  refine br J J J (fun hc74=>?_) (fun hc74=>?_)
  .
   refine cl J (ihy hc hok (by omega)) J<|?_;exact rz J (by rw[Tr.mergeL,if_neg hc64,if_pos hc74];rfl)
  .
   refine cl J (Eg (c:=c) (l:=l) hc hok (by omega) hl hlo) J<|cl J (ihx (c:=fg (c++[l])) (CY (tU hc hl)) (CL (iu hok hlo)) (by omega)) J<|?_;refine cl J (yN (l:=l)) J<|cl J (Eg (c:=c) (l:=l.rev) hc hok (by omega) hl.rev hlo.rev) J<|cl J (ihy (c:=fg (c++[l.rev])) (CY (tU hc hl.rev)) (CL (iu hok hlo.rev)) (by omega)) J<|?_;refine cl J QY J<|?_;exact rz J (by rw[Tr.mergeL,if_neg hc64,if_neg hc74];rfl)
def HH{op:Int}{u:Tr}(hu:u.all LB)(huo:u.all aa.ok): ∀{t:Tr} {c:List aa},t.all LB->t.all aa.ok->(∀m∈c,LB m)->(∀m∈c,m.ok)->c.length+t.depth+u.depth<=900->PF GB prog 36 [vI op,eT t,eT u, .sl (c.map eL)] (eT (Tr.mergeL op t u c))
 | .leaf _,_,_,_,hc,hok,hn=>V2 hu huo hc hok (cY (Nat.add_le_add_right (mT _ _) _) hn)
 | .node l x y,c,hb,ho,hc,hok,hn=>R3 hb.1 ho.1 hc hok hn (fun h1 h2 h3=>HH hu huo hb.2.1 ho.2.1 h1 h2 h3) (fun h1 h2 h3=>HH hu huo hb.2.2 ho.2.2 h1 h2 h3)
end Go.Sx
end
