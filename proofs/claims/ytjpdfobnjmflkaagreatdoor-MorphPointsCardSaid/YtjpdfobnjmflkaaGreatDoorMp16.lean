import Derived.Test.YtjpdfobnjmflkaaGreatDoorMp15
set_option linter.all false
set_option maxHeartbeats 4000000
set_option maxRecDepth 100000
section
namespace Go.Sx
open Go Go.Proofs Tryz
variable {GB G:Gh}{r:List ZP}{i n k nm ty len:Nat}{p:aa}{fill side a:Int}{rs:List (List ZP)}{c ls:List ah}{l l1 m:ah}{y t:Tr}{u:ZP}{q b b1 b2 b3 lo:Bool}{ns:List NQ}{es es0:List Int}{v e f w:Value}{C:aG}{Q0:Exit->Act->World->Prop}{fr fr' fr1 fr2:aC}{own' own1 own2:aH}{cf cf' cf1 cf2:Cf}{vc vc1 vc2:List Prop}
def oE(p:ZP):DV:=eP p.q
def kv(r:List ZP):DV:= .sl (r.map oE)
def aHj(l:List (List ZP)):c9 1 (l.map kv):=fun d hd=>by
 obtain⟨u,_,rfl⟩:=aU.1 hd;exact⟨rfl,rfl⟩
def BW(h:i<r.length):(r.map oE)[((i:Nat):Int).toNat]? =some (oE (r.getD i (0,0))):=by
 rw[cZ,cV,aW,aZ h];rfl
def Kd(h:i<r.length):(r.map oE)[(((i+1)%r.length:Nat):Int).toNat]? =some (oE (je r i)):=BW (dK _ (by omega))
def Yy(v w p:aa):(ud v w p).natAbs<=1:=by
 unfold ud;split<;>split<;>decide
def CT(r:List ZP)(p:aa): ∀k,(qB r p k).natAbs<=k
 |0=>bW _
 |k+1=>by rw[qB];have:=CT r p k;have:=Yy (r.getD k (0,0)).q (je r k).q p;omega
def Qn(h:fe r):PF GB prog 159 [.sl (r.map oE)] (.sl ((kt r).map fA)):=by
 have hm:=eO oE r;have h3:=h.n3;have h6:=h.n6;refine fn (fu:=⟨15⟩) func159 J J ntmps159 J J (fun C=>?_);refine aj 8 (.d (vI (r.length:Nat))) J (by rw[hm]<;>rfl)<|gx J<|nr 3 3 274 14 J J J<|lp (X:=Nat) (fun k=>[(9, .d (vI (k:Nat))),(3, .rw 3)]) (fun k=>[(3,some (.b 274 14 ((qj r k).map fA) true))]) (fun k=>k<=r.length) (fun k=>r.length-k) 0 J (bV _) (fun _=>J) (fun k hk=>?_);have hel:=fun hh=>(K2 (k:=k) h hh).1;refine br J J J (fun hc10=>?_) (fun hc10=>?_)
 .
  have hkr:k<r.length:=by omega
  have hel:=hel (by omega);have hem:=eO fA (qj r k);refine ix (fu:=⟨7⟩) _ J (BW hkr) J<|aj 22 (.d (vI ((k+1)%r.length:Nat))) J (by rw[hm]<;>rfl)<|gx J<|ix _ J (Kd hkr) J<|cl J (Ux (v:=r.getD k (0,0)) (w:=je r k) (h.le _ (vk hkr)) (h.le _ (yx hkr)) (h.ne k hkr)) J<|rf J J<|ap ((qj r (k+1)).map fA) J (by rw[qj,bX];rfl) (yt [FB (r.getD k (0,0)) (je r k)]) J<|fw 31 3 J<|at_ (k+1) ⟨(by omega),(by omega)⟩
 .
  obtain rfl:k=r.length:=by omega
  refine iu 3 J<|rz J J
def Zi[hp:aE p i](h:fe r)(hi:i<=80000:=by decide):PF GB prog 283 [.sl (r.map oE),eP p] (vI (uA r p)):=by
 have hm:=eO oE r;have h3:=h.n3;have h6:=h.n6;refine fn (fu:=⟨16⟩) func283 J J ntmps283 J J (fun C=>?_);refine aj 12 (.d (vI (r.length:Nat))) J (by rw[hm]<;>rfl)<|gx J<|lp (X:=Nat×Int) (fun⟨k,c⟩=>[(13, .d (vI (k:Nat))),(5, .d (vI c))]) (fun⟨k,c⟩=>[]) (fun⟨k,c⟩=>c=qB r p k/\k<=r.length) (fun⟨k,c⟩=>r.length-k) (0,0) J ⟨J,bV _⟩ (fun _=>J) (fun⟨k,c⟩ hk=>?_);dsimp only at hk⊢;obtain⟨h1,h2⟩:=hk;have hcl:c.natAbs<=k:=by rw[h1];exact CT r p k
 refine br J J J (fun hc14=>?_) (fun hc14=>?_)
 .
  have hkr:k<r.length:=by omega
  obtain⟨v,hv⟩: ∃v,v=r.getD k (0,0):=⟨_,rfl⟩;obtain⟨w,hw⟩: ∃v,v=je r k:=⟨_,rfl⟩;haveI hvb:aE v.q 12:=by rw[hv];exact vg (h.le _ (vk hkr))
  haveI hwb:aE w.q 12:=by rw[hw];exact vg (h.le _ (yx hkr))
  refine ix (fu:=⟨1⟩) _ J (BW hkr) J<|aj 19 (.d (eP v.q)) J (by rw[hv];rfl)<|gx (fu:=⟨6⟩) J<|aj 25 (.d (vI ((k+1)%r.length:Nat))) J (by rw[hm]<;>rfl)<|gx J<|ix (fu:=⟨1⟩) _ J (Kd hkr) J<|aj 27 (.d (eP w.q)) J (by rw[hw];rfl)<|gx J<|cl J (mp (a:=v.q.y) (b:=p.y) (i:=12) (j:=i) (by decide) (by omega)) J<|cl (fu:=⟨9⟩) J (mp (a:=w.q.y) (b:=p.y) (i:=12) (j:=i) (by decide) (by omega)) J<|?_;rcases(show(bz v.q.y p.y<=0/\bz w.q.y p.y<=0)\/(bz v.q.y p.y<=0/\ ¬bz w.q.y p.y<=0)\/(¬bz v.q.y p.y<=0/\bz w.q.y p.y<=0)\/(¬bz v.q.y p.y<=0/\ ¬bz w.q.y p.y<=0) by omega) with⟨ca,cb⟩|⟨ca,cb⟩|⟨ca,cb⟩|⟨ca,cb⟩
  .
   refine dP (fu:=⟨3⟩) J (by show some (decide _)=some true;rw[decide_eq_true (by omega)]) J<|cg (fu:=⟨15⟩) J (by show some (decide _)=some false;rw[decide_eq_false (by omega)]) J<|cg (fu:=⟨20⟩) J (by show some (decide _)=some false;rw[decide_eq_false (by omega)]) J<|at_ (k+1,c) (by dsimp only;exact⟨⟨by rw[qB,<-h1,<-hv,<-hw];unfold ud;split<;>split<;>omega,by omega⟩,(by omega)⟩)
  .
   refine dP (fu:=⟨3⟩) J (by show some (decide _)=some true;rw[decide_eq_true (by omega)]) J<|dP J (by show some (decide _)=some true;rw[decide_eq_true (by omega)]) J<|cl J (Il (a:=v.q) (b:=w.q) (c:=p) (i:=12) (j:=12) (k:=i) (by decide) (by decide) hi) J<|br (fu1:=⟨10⟩) (fu2:=⟨6⟩) J J J (fun hc51=>?_) (fun hc51=>?_)
   .
    refine cg J (by show some (decide _)=some false;rw[decide_eq_false (by omega)]) J<|at_ (k+1,c+1) (by dsimp only;exact⟨⟨by rw[qB,<-h1,<-hv,<-hw];unfold ud;split<;>split<;>omega,by omega⟩,(by omega)⟩)
   .
    refine cg (fu:=⟨20⟩) J (by show some (decide _)=some false;rw[decide_eq_false (by omega)]) J<|at_ (k+1,c) (by dsimp only;exact⟨⟨by rw[qB,<-h1,<-hv,<-hw];unfold ud;split<;>split<;>omega,by omega⟩,(by omega)⟩)
  .
   refine cg (fu:=⟨19⟩) J (by show some (decide _)=some false;rw[decide_eq_false (by omega)]) J<|dP (fu:=⟨2⟩) J (by show some (decide _)=some true;rw[decide_eq_true (by omega)]) J<|dP J (by show some (decide _)=some true;rw[decide_eq_true (by omega)]) J<|cl J (Il (a:=v.q) (b:=w.q) (c:=p) (i:=12) (j:=12) (k:=i) (by decide) (by decide) hi) J<|br (fu2:=⟨8⟩) J J J (fun hc65=>?_) (fun hc65=>?_)
   .
    exact at_ (k+1,c-1) (by dsimp only;exact⟨⟨by rw[qB,<-h1,<-hv,<-hw];unfold ud;split<;>split<;>omega,by omega⟩,(by omega)⟩)
   .
    exact at_ (k+1,c) (by dsimp only;exact⟨⟨by rw[qB,<-h1,<-hv,<-hw];unfold ud;split<;>split<;>omega,by omega⟩,(by omega)⟩)
  .
   refine cg (fu:=⟨19⟩) J (by show some (decide _)=some false;rw[decide_eq_false (by omega)]) J<|dP (fu:=⟨2⟩) J (by show some (decide _)=some true;rw[decide_eq_true (by omega)]) J<|cg J (by show some (decide _)=some false;rw[decide_eq_false (by omega)]) J<|at_ (k+1,c) (by dsimp only;exact⟨⟨by rw[qB,<-h1,<-hv,<-hw];unfold ud;split<;>split<;>omega,by omega⟩,(by omega)⟩)
 .
  obtain rfl:k=r.length:=by omega
  have hfin:uA r p=c:=h1.symm;exact rz J (by rw[hfin];rfl)
def auw{n:Int}(hn:n.natAbs<=1000):PF GB prog 284 [vI fill,vI n] (vB (wQ fill n)):=by
 refine fn func284 J J ntmps284 J J (fun C=>?_);refine cs 7 J J J (fun hg7=>?_) (fun hg7=>?_)
 .
  refine cs 12 J J J (fun hg12=>?_) (fun hg12=>?_)
  .
   exact rz J (by show vB _=vB _;unfold wQ;congr 1;simp_all)
  .
   refine cs 15 J J J (fun hg15=>?_) (fun hg15=>?_)
   .
    exact rz J (by show vB _=vB _;unfold wQ;congr 1;simp_all)
   .
    exact rz J (by show vB _=vB _;unfold wQ;congr 1;simp_all)
 .
  refine cs 15 J J J (fun hg15=>?_) (fun hg15=>?_)
  .
   exact rz J (by show vB _=vB _;unfold wQ;congr 1;simp_all)
  .
   exact rz J (by show vB _=vB _;unfold wQ;congr 1;simp_all)
def JI(rs:List (List ZP)):List ah:=(i8 rs).map bu.l
def wB(rs:List (List ZP))(fill:Int):DV:= .ag [.sl (rs.map kv), .v (.int .i64 fill), .sl ((n9 (JI rs)).map eL)]
def YF(h: ∀r∈rs,fe r)(k:Nat):((rs.take k).foldl (fun n r=>n+uA r p) 0).natAbs<=6*k:=by
 induction k with
 |zero=>rw[tU];exact bV _
 |succ k ih=>
  rw[dR,oT]
  cases e:rs[k]? with
  |none=>exact cS ih (by omega)
  |some r=>
   have h1:(uA r p).natAbs<=r.length:=CT r p r.length;have h2:=(h r (aV e)).n6;show(List.foldl _ 0 (rs.take k)+uA r p).natAbs<=_;omega
def Yu[hp:aE p i](h: ∀r∈rs,fe r)(hn:rs.length<=100)(hi:i<=80000:=by decide):PF GB prog 229 [wB rs fill,eP p] (vB (od rs fill p)):=by
 have hm:=eO kv rs;refine fn (fu:=⟨18⟩) func229 J J ntmps229 J J (fun C=>?_);refine aj 10 (.d (vI (rs.length:Nat))) J (by rw[hm]<;>rfl)<|gx J<|lp (X:=Nat×Int) (fun⟨k,c⟩=>[(11, .d (vI (k:Nat))),(5, .d (vI c))]) (fun⟨k,c⟩=>[]) (fun⟨k,c⟩=>c=(rs.take k).foldl (fun n r=>n+uA r p) 0/\k<=rs.length) (fun⟨k,c⟩=>rs.length-k) (0,0) J ⟨by rw[tU];rfl,bV _⟩ (fun _=>J) (fun⟨k,c⟩ hk=>?_);dsimp only at hk⊢;obtain⟨h1,h2⟩:=hk;have hcl:c.natAbs<=6*k:=by rw[h1];exact YF h k
 refine br J J J (fun hc12=>?_) (fun hc12=>?_)
 .
  obtain⟨r,hz⟩: ∃s,rs[k]? =some s:=⟨_,aZ (by omega)⟩;have hr:=h r (aV hz);have hnz:(uA r p).natAbs<=6:=cS (CT r p r.length) hr.n6;refine ix _ J (cD hz) J<|cl J (Zi (r:=r) (p:=p) hr hi) J<|at_ (k+1,c+uA r p) (by dsimp only;exact⟨⟨by rw[dR,hz,oT,<-h1];rfl,by omega⟩,(by omega)⟩)
 .
  obtain rfl:k=rs.length:=by omega
  rw[dQ] at h1;refine cl J (auw (fill:=fill) (n:=c) (by omega)) J<|rz J (by unfold od;rw[<-h1];rfl)
def mm(r:List ZP):DV:= .sl ((r.map ZP.q).map nI)
def XC(l:List (List ZP)):c9 1 (l.map mm):=fun d hd=>by
 obtain⟨u,_,rfl⟩:=aU.1 hd;exact⟨rfl,rfl⟩
theorem TU(h: ∀p∈r,ZP.le 100 p): ∀p∈r.map ZP.q,aE p 1200:=fun p hp=>by
 obtain⟨z,hz,rfl⟩:=aU.1 hp;have:=vg (h z hz);exact⟨BQ.mono this.x,BQ.mono this.y⟩
def Jr(r:List ZP):DV.sl ((r.map ZP.q).map eP)=kv r:=by unfold kv;rw[List.map_map];rfl
def LZ(h:rs[k]? =some r):i8 (rs.take (k+1))=i8 (rs.take k)++kt r:=by
 unfold i8;rw[dR,h,pJ];simp
def PA(h: ∀r∈rs,fe r)(k:Nat):(i8 (rs.take k)).length<=6*k:=by
 have:=(Ae (rs:=rs.take k) (fun r hr=>h r (eX hr))).1;have h2:(rs.take k).length<=k:=by rw[bR];omega
 omega
def aDl(h: ∀r∈rs,fe r)(hn:rs.length<=100):PF GB prog 87 [.sl (rs.map mm), .v (.int .i64 fill)] (wB rs fill):=by
 have hm:=eO mm rs;refine fn (fu:=⟨8⟩) func87 J J ntmps87 J J (fun C=>?_);refine bzp (fu:=⟨14⟩) 27 1 0 [] [.v (.int .i64 fill), .sl []] J J J J J<|aj 15 (.d (vI (rs.length:Nat))) J (by rw[hm]<;>rfl)<|gx J<|nr 6 6 55 6 J J J<|lp (X:=Nat) (fun k=>[(16, .d (vI (k:Nat))),(6, .rw 6),(5, .ov 5 0)]) (fun k=>[(5,some (.o 168 [.rw 13, .d (.v (.int .i64 fill)), .d (.sl [])] true)),(13,some (.b 27 1 ((rs.take k).map kv) true)),(6,some (.b 55 6 (((i8 (rs.take k)).map bu.l).map eL) true))]) (fun k=>k<=rs.length) (fun k=>rs.length-k) 0 J (bV _) (fun _=>J) (fun k hk=>?_);refine br (fu2:=⟨0⟩) J J J (fun hc17=>?_) (fun hc17=>?_)
 .
  obtain⟨r,hz⟩: ∃s,rs[k]? =some s:=⟨_,aZ (by omega)⟩;have hr:=h r (aV hz);have hel:(kt r).length<=6:=by have:=(Cz hr).1;have:=hr.n6;omega
  have het:=PA h k;have hrl:((rs.take k).map kv).length=k:=by rw[aX,bR];omega
  refine ix _ J (cD hz) J<|cl (fu:=⟨0⟩) J (aJO (ps:=r.map ZP.q) (TU hr.le) (by rw[aX];have:=hr.n6;omega)) J<|aj 21 (.d (kv r)) J (by rw[Jr])<|gx J<|rf J J<|ap ((rs.take (k+1)).map kv) J (uZ hz) (aHj [r]) J<|cl (fu:=⟨1⟩) J (Qn (r:=r) hr) J<|aj 30 (.d (vI ((kt r).length:Nat))) J (by rw[eO fA (kt r)]<;>rfl)<|gx J<|?_;rw[<-fK (i8 (rs.take k)),<-tU (l:=kt r)];refine lp (X:=Nat) (fun j=>[(31, .d (vI (j:Nat))),(6, .rw 6)]) (fun j=>[(6,some (.b 55 6 (((i8 (rs.take k)++(kt r).take j).map bu.l).map eL) true))]) (fun j=>j<=(kt r).length) (fun j=>(kt r).length-j) 0 J (bV _) (fun _=>J) (fun j hk=>?_);have hml:(((i8 (rs.take k)++(kt r).take j).map bu.l).map eL).length<=6*k+6:=by rw[aX,aX,aY,bR];omega
  refine br J J J (fun hc32=>?_) (fun hc32=>?_)
  .
   obtain⟨e,he⟩: ∃s,(kt r)[j]? =some s:=⟨_,aZ (by omega)⟩;refine ix _ J (cD he) J<|rf J J<|ap (((i8 (rs.take k)++(kt r).take (j+1)).map bu.l).map eL) J (by rw[dR,he];simp only[bX,dX];rfl) (fP [e.l]) J<|fw 39 6 J<|at_ (j+1) ⟨(by omega),(by omega)⟩
  .
   obtain rfl:j=(kt r).length:=by omega
   rw[dQ,<-LZ hz];refine fw 26 13 J<|at_ (k+1) ⟨(by omega),(by omega)⟩
 .
  obtain rfl:k=rs.length:=by omega
  rw[dQ];refine qf 6 rfl<|qf 13 rfl<|gx rfl<|cl rfl (Oi (ls:=JI rs) (fun l hl=>by obtain⟨f,hf,rfl⟩:=aU.1 hl;exact((Ae h).2 f hf).lb) (by unfold JI;rw[aX];have:=(Ae h).1;omega)) rfl<|rz J J
def Yx(h: ∀r∈rs,fe r)(hn:rs.length<=100):PF GB prog 88 [.sl (rs.map kv)] (.sl (rs.map mm)):=by
 have hm:=eO kv rs;refine fn (fu:=⟨15⟩) func88 J J ntmps88 J J (fun C=>?_);refine aj 7 (.d (vI (rs.length:Nat))) J (by rw[hm]<;>rfl)<|gx J<|nr 3 3 93 1 J J J<|lp (X:=Nat) (fun k=>[(8, .d (vI (k:Nat))),(3, .rw 3)]) (fun k=>[(3,some (.b 93 1 ((rs.take k).map mm) true))]) (fun k=>k<=rs.length) (fun k=>rs.length-k) 0 J (bV _) (fun _=>J) (fun k hk=>?_);have hml:((rs.take k).map mm).length<=k:=by rw[aX,bR];omega
 refine br J J J (fun hc9=>?_) (fun hc9=>?_)
 .
  obtain⟨r,hz⟩: ∃s,rs[k]? =some s:=⟨_,aZ (by omega)⟩;have hr:=h r (aV hz);refine ix (fu:=⟨1⟩) _ J (cD hz) J<|aj 11 (.d (.sl ((r.map ZP.q).map eP))) J (by rw[Jr])<|gx J<|cl J (LC (ps:=r.map ZP.q) (TU hr.le) (by rw[aX];have:=hr.n6;omega)) J<|rf J J<|ap ((rs.take (k+1)).map mm) J (uZ hz) (XC [r]) J<|fw 16 3 J<|at_ (k+1) ⟨(by omega),(by omega)⟩
 .
  obtain rfl:k=rs.length:=by omega
  refine iu 3 J<|rz J (by rw[dQ];rfl)
def anI(out:List ah)(l:ah):(pO out l).length<=out.length+1:=by
 unfold pO;split
 .omega
 .simp;omega
def Lo(c:List ah): ∀(t out:List ah),(nO c t out).length<=out.length+t.length
 |[],out=>by simp[nO]
 |l::t,out=>by
  rw[nO];refine cS (Lo c t _) ?_;have:=anI out l;split<;>simp<;>omega
def Bu(c:List ah):(iH c).length<=c.length:=cS (Lo c c []) (by simp)
theorem Ox(h: ∀m∈c,LB m): ∀m∈iH c,LB m:=fun m hm=>h m (tH.1 hm).1
def Nu(h: ∀m∈c,m.ok): ∀m∈iH c,m.ok:=fun m hm=>h m (tH.1 hm).1
def PX(hc: ∀m∈c,LB m)(hok: ∀m∈c,m.ok)(hn:c.length<=900)(hl:LB l)(hlo:l.ok):PF GB prog 109 [.sl (c.map eL),eL l] (.sl ((iH (c++[l])).map eL)):=by
 have hcl:=ww c;refine fn func109 J J ntmps109 J J (fun C=>?_);refine sA J J<|ap (c.map eL) J J (fP _) J<|rf J J<|lP ((c++[l]).map eL) J (by rw[bX];rfl) (fP [l]) J<|cl J (VS (c:=c++[l]) (xw hc hl) (oO hok hlo) (by simp;omega)) J<|rz J J
def aAQ{x u:Tr}:PF GB prog 108 [eL l,eT (.node l1 x y),eT u] (eT (.node l (.node l1 x y) u)):=by
 refine fn (fu:=⟨12⟩) func108 J J ntmps108 J J (fun C=>?_);refine cg J J J<|iu 33 J<|rz J J
def VV{x:Tr}{p:Bool}:PF GB prog 108 [eL l,eT (.leaf p),eT (.node l1 x y)] (eT (.node l (.leaf p) (.node l1 x y))):=by
 refine fn (fu:=⟨12⟩) func108 J J ntmps108 J J (fun C=>?_);refine dP (fu:=⟨4⟩) J J J<|cg J J J<|iu 33 J<|rz J J
def YZ{p:Bool}:PF GB prog 108 [eL l,eT (.leaf p),eT (.leaf q)] (eT (Tr.joinQ l (.leaf p) (.leaf q))):=by
 refine fn (fu:=⟨12⟩) func108 J J ntmps108 J J (fun C=>?_);refine dP (fu:=⟨4⟩) J J J<|dP J J J<|bd J J J (fun hc27=>?_) (fun hc27=>?_)
 .
  exact rz J (by rw[show Tr.joinQ l (.leaf p) (.leaf q)= .leaf p by simp[Tr.joinQ,Tr.isLeaf,Tr.code,hc27]];rfl)
 .
  refine iu 33 J<|rz J (by rw[show Tr.joinQ l (.leaf p) (.leaf q)= .node l (.leaf p) (.leaf q) by simp[Tr.joinQ,Tr.isLeaf,Tr.code,hc27]];rfl)
def Zv: ∀{x y:Tr},PF GB prog 108 [eL l,eT x,eT y] (eT (Tr.joinQ l x y))
 | .leaf _, .leaf _=>YZ
 | .leaf _, .node .. =>VV
 | .node ..,_=>aAQ
def WU:PF GB prog 83 [eT (.leaf b), .sl (c.map eL)] (eT (Tr.restrictL (.leaf b) c)):=by
 refine fn (fu:=⟨11⟩) func83 J J ntmps83 J J (fun C=>?_);refine dP J J J<|rz J J
def Xl{x:Tr}(hl:LB l)(hlo:l.ok)(hc: ∀m∈c,LB m)(hok: ∀m∈c,m.ok)(hn:c.length+(Tr.node l x y).depth<=900)(ihx: ∀{c:List ah},(∀m∈c,LB m)->(∀m∈c,m.ok)->c.length+x.depth<=900->PF GB prog 83 [eT x, .sl (c.map eL)] (eT (Tr.restrictL x c)))(ihy: ∀{c:List ah},(∀m∈c,LB m)->(∀m∈c,m.ok)->c.length+y.depth<=900->PF GB prog 83 [eT y, .sl (c.map eL)] (eT (Tr.restrictL y c))):PF GB prog 83 [eT (.node l x y), .sl (c.map eL)] (eT (Tr.restrictL (.node l x y) c)):=by
 have hdp:(Tr.node l x y).depth=1+Nat.max x.depth y.depth:=J;have hdx:x.depth<=Nat.max x.depth y.depth:=rU _ _;have hdy:y.depth<=Nat.max x.depth y.depth:=qT _ _;have hca:=Bu (c++[l]);have hcb:=Bu (c++[l.rev]);rw[aY,gJ] at hca hcb;refine fn (fu:=⟨11⟩) func83 J J ntmps83 J J (fun C=>?_);refine cg J J J<|cl J (aFj (c:=c) (l:=l) hc hok (by omega) hl hlo) J<|br J J J (fun hc16=>?_) (fun hc16=>?_)
 .
  refine cl J (ihx hc hok (by omega)) J<|rz J (by rw[Tr.restrictL,if_pos hc16];rfl)
 .
  refine br J J J (fun hc24=>?_) (fun hc24=>?_)
  .
   refine cl J (ihy hc hok (by omega)) J<|rz J (by rw[Tr.restrictL,if_neg hc16,if_pos hc24];rfl)
  .
   refine cl J (PX (c:=c) (l:=l) hc hok (by omega) hl hlo) J<|cl J (ihx (c:=iH (c++[l])) (Ox (xw hc hl)) (Nu (oO hok hlo)) (by omega)) J<|cl J (B9 (l:=l)) J<|cl J (PX (c:=c) (l:=l.rev) hc hok (by omega) hl.rev hlo.rev) J<|cl J (ihy (c:=iH (c++[l.rev])) (Ox (xw hc hl.rev)) (Nu (oO hok hlo.rev)) (by omega)) J<|cl J Zv J<|rz J (by rw[Tr.restrictL,if_neg hc16,if_neg hc24];rfl)
def Gy: ∀{t:Tr} {c:List ah},t.all LB->t.all ah.ok->(∀m∈c,LB m)->(∀m∈c,m.ok)->c.length+t.depth<=900->PF GB prog 83 [eT t, .sl (c.map eL)] (eT (Tr.restrictL t c))
 | .leaf _,_,_,_,_,_,_=>WU
 | .node l x y,c,hb,ho,hc,hok,hn=>Xl hb.1 ho.1 hc hok hn (fun h1 h2 h3=>Gy hb.2.1 ho.2.1 h1 h2 h3) (fun h1 h2 h3=>Gy hb.2.2 ho.2.2 h1 h2 h3)

def Pe(xs ys:List NQ)(n:NQ):((xs++(n::ys)).map eN)[((xs.length:Nat):Int).toNat]? =some (eN n):=by simp
def PD(xs ys:List NQ)(n m:NQ)(e:DV)(h:e=eN m):((xs++(n::ys)).map eN).set ((xs.length:Nat):Int).toNat e=(xs++(m::ys)).map eN:=by subst h;simp
def Xj:PB GB prog 42 (dB [some (eT (.leaf true)),none]) 8 105 (ns.map eN) (fun w=> .tp ([]++ .v (.slice w.a w.n w.c)::[.v (.int .i64 (Tr.num (.leaf true) ns.length))])) ((ns++Tr.wr (.leaf true) ns.length).map eN):=by
 refine IZ (fu:=⟨12⟩) func42 J J ntmps42 J J (fun C=>?_);refine dP (fu:=⟨9⟩) J J J<|dP J J J<|?_;exact JO J J J J J (by simp[Tr.wr]) J
def UE:PB GB prog 42 (dB [some (eT (.leaf false)),none]) 8 105 (ns.map eN) (fun w=> .tp ([]++ .v (.slice w.a w.n w.c)::[.v (.int .i64 (Tr.num (.leaf false) ns.length))])) ((ns++Tr.wr (.leaf false) ns.length).map eN):=by
 refine IZ (fu:=⟨12⟩) func42 J J ntmps42 J J (fun C=>?_);refine dP (fu:=⟨9⟩) J J J<|cg J J J<|?_;exact JO J J J J J (by simp[Tr.wr]) J
def Z5{l:ah}{s u:Tr}{ns:List NQ}(hl:BL l 96)(hs:ns.length+(1+s.size+u.size)<=1000000)(ihs: ∀{ns:List NQ},ns.length+s.size<=1000000->PB GB prog 42 (dB [some (eT s),none]) 8 105 (ns.map eN) (fun w=> .tp ([]++ .v (.slice w.a w.n w.c)::[.v (.int .i64 (Tr.num s ns.length))])) ((ns++Tr.wr s ns.length).map eN))(ihu: ∀{ns:List NQ},ns.length+u.size<=1000000->PB GB prog 42 (dB [some (eT u),none]) 8 105 (ns.map eN) (fun w=> .tp ([]++ .v (.slice w.a w.n w.c)::[.v (.int .i64 (Tr.num u ns.length))])) ((ns++Tr.wr u ns.length).map eN)):PB GB prog 42 (dB [some (eT (.node l s u)),none]) 8 105 (ns.map eN) (fun w=> .tp ([]++ .v (.slice w.a w.n w.c)::[.v (.int .i64 (Tr.num (.node l s u) ns.length))])) ((ns++Tr.wr (.node l s u) ns.length).map eN):=by
 refine IZ (fu:=⟨12⟩) func42 J J ntmps42 J J (fun C=>?_);refine cg (fu:=⟨9⟩) J J J<|aj 20 (.d (.v (.int .i64 (ns.length:Nat)))) J (by simp)<|gx J<|cl J (aJq hl) J<|rf J J<|HJ ((ns++[(⟨l,0,0⟩:NQ)]).map eN) J (by rw[bX]<;>rfl) (aJ6 [(⟨l,0,0⟩:NQ)]) J<|cb _ J (ihs (ns:=ns++[(⟨l,0,0⟩:NQ)]) (by simp;omega)) J J<|cb (hv:=by simp only[ak];exact(by simp;omega)) ((ns++((⟨l,0,0⟩:NQ)::(s.wr (ns.length+1)++u.wr (ns.length+1+s.size)))).map eN) J (ihu (ns:=ns++[(⟨l,0,0⟩:NQ)]++s.wr (ns++[(⟨l,0,0⟩:NQ)]).length) (by simp[Tr.wr_len];omega)) (by simp[Tr.wr_len,lY,lX 1]) J<|sb (hv:=by simp only[ak];exact(by simp;omega)) (eN ⟨l,0,0⟩) ((ns++((⟨l,s.num (ns.length+1),0⟩:NQ)::(s.wr (ns.length+1)++u.wr (ns.length+1+s.size)))).map eN) J (Pe ns _ ⟨l,0,0⟩) J (by rw[PD _ _ _ ⟨l,s.num (ns.length+1),0⟩ _ (by simp[eN,DV.cells])]) J<|sb (eN ⟨l,s.num (ns.length+1),0⟩) ((ns++Tr.wr (.node l s u) ns.length).map eN) J (Pe ns _ ⟨l,s.num (ns.length+1),0⟩) J (by rw[PD _ _ _ ⟨l,s.num (ns.length+1),u.num (ns.length+1+s.size)⟩ _ (by simp[eN,DV.cells,Tr.wr_len,lY,lX 1])];simp[Tr.wr]) J<|?_;exact JO J J J J J J J
def JC: ∀{t:Tr} {ns:List NQ},t.all (fun l=>BL l 96)->ns.length+t.size<=1000000->PB GB prog 42 (dB [some (eT t),none]) 8 105 (ns.map eN) (fun w=> .tp ([]++ .v (.slice w.a w.n w.c)::[.v (.int .i64 (Tr.num t ns.length))])) ((ns++Tr.wr t ns.length).map eN)
 | .leaf true,ns,_,_=>Xj
 | .leaf false,ns,_,_=>UE
 | .node l s u,ns,hb,hs=>Z5 hb.1 hs (fun h=>JC hb.2.1 h) (fun h=>JC hb.2.2 h)
def aEx(hb:t.all (fun l=>BL l 96))(hs:t.size<=1000000):PF GB prog 10 [eT t] (eA t):=by
 refine fn func10 J J ntmps10 J J (fun C=>?_);refine cbn _ J (JC (t:=t) (ns:=[]) hb (by simpa using hs)) J J<|iu 6 J<|rz J J
def aJ5(ds:List Int):c9 1 (ds.map vI):=fun d hd=>by
 obtain⟨n,_,rfl⟩:=aU.1 hd;exact⟨rfl,rfl⟩
def az8(es:List Int):(es.map vI).take (min es.length 400)=(es.take 400).map vI:=by
 rw[iT];rcases Nat.le_total es.length 400 with h|h
 .rw[jZ h,bM (by simp),bM (by simpa using h)]
 .rw[Nat.min_eq_right h]
def aJD(hb:es.length<=1125899906842624):PN GB prog 6 [.sl (es.map vI)] 84 Unit (fun _=>[.sl ((es.take 400).map vI), .v (.int .i64 (0:Nat))]):=by
 have hel:(es.map vI).length=es.length:=by simp
 refine fnN func6 J J ntmps6 J J (fun C hmb=>?_);refine kI 0 (min es.length 400) ((es.take 400).map vI) J J (by rw[hel];show(if _ then _ else _:Int)=_;split<;>omega) (az8 es) (aJ5 _) (by omega) (by omega) J<|?_;exact rzN () J J J J J
def Sz(hb:t.all LB)(hok:t.all ah.ok)(hd:t.depth<=900):PF GB prog 33 [eT t] (eT (t.restrict [])):=by
 refine fn func33 J J ntmps33 J J (fun C=>?_);refine cl J (Gy (t:=t) (c:=[]) hb hok (by simp) (by simp) (by simpa using hd)) J<|rz J (by rw[<-Tr.restrictL_eq t [] [] hok (by simp) bC.nil (fun p=>by unfold bm f9;simp)];rfl)
def Oz{cuts:List Rat}{marks:List Bool}: ∀k,2*(io cuts marks k).length<=k+(if 0<k/\marks.getD (k-1) false=true then 1 else 0)
 |0=>by rw[io];simp
 |k+1=>by
  have ih:=Oz (cuts:=cuts) (marks:=marks) k;rw[io];simp only[mU];by_cases hm:marks.getD k false=true
  .rw[if_pos hm,if_pos (show 0<k+1/\marks.getD k false=true from⟨by omega,hm⟩)]
   by_cases hp:0<k/\marks.getD (k-1) false=true
   .rw[if_pos hp] at ih⊢
    cases hv:(io cuts marks k).getLast? with
    |some v=>
     have:0<(io cuts marks k).length:=by
      cases e:io cuts marks k with
      |nil=>rw[e] at hv;simp at hv
      |cons a t=>simp
     show 2*((io cuts marks k).dropLast++[_]).length<=_;rw[aY,mL,gJ];omega
    |none=>
     have:io cuts marks k=[]:=List.getLast?_eq_none_iff.1 hv;simp only[this];simp
   .rw[if_neg hp] at ih⊢
    rw[aY,gJ];omega
  .rw[if_neg hm]
   split at ih<;>split<;>omega
def az2(op:Int)(a b:List ao):(rg op a b).length<=a.length+b.length+1:=by
 unfold rg wo;have h:=Oz (cuts:=kz (a++b)) (marks:=(cp (kz (a++b))).map fun t=>ot op (gO a t) (gO b t)) ((cp (kz (a++b))).map fun t=>ot op (gO a t) (gO b t)).length;have h2:=Hd (a++b);rw[aY] at h2;have h3:((cp (kz (a++b))).map fun t=>ot op (gO a t) (gO b t)).length=(kz (a++b)).length+1:=by rw[aX,y6]
 split at h<;>omega
def Iv(f:bu)(m:ah)(side:Int):(fB f m side).length<=3:=by
 unfold fB;split
 .simp
 .rw[aX]
  have:=az2 2 [f.v] (js f.l m side);have h2:=Cd (l:=f.l) (m:=m) (side:=side);rw[gJ] at this;omega
theorem WH{v:aa}{s:Rat}[hp:aE p 4500][hv:aE v 97][hm:LB m](hs:BQ s 60000):BQ (tC p v m s) 60000:=by
 unfold tC vU;split
 .exact hs
 .split
  .exact hs
  .split
   .split
    .haveI:BQ (-(m.value p/(m.value (b8 p v ((1:Int):Rat))-m.value p))) 45000:=BQ.mono inferInstance
     exact BQ.mono (inferInstance:BQ (-(m.value p/(m.value (b8 p v ((1:Int):Rat))-m.value p))/2) _)
    .exact hs
   .exact hs
theorem Ov{p v:aa}[hp:aE p 4500][hv:aE v 97]: ∀{c:List ah} {s:Rat},(∀m∈c,LB m)->BQ s 60000->BQ (rD p v c s) 60000
 |[],_,_,hs=>hs
 |m::t,s,hc,hs=>by
  haveI:=hc m aQ;exact Ov (c:=t) (fun q hq=>hc q (aJ _ hq)) (WH hs)
theorem OE{c:List ah}(hc: ∀m∈c,LB m)(hok: ∀m∈c,m.ok): ∀{t:List ah},(∀m∈t,m∈c)->aE (kl c t) 70000
 |[],_=>by
  have h0:BQ (0:Rat) 70000:=BQ.mono (k:=1) ⟨by decide,by decide⟩;exact⟨h0,h0⟩
 |m::t,h=>by
  have hm:=h m aQ;haveI:=hc m hm;rw[kl];split
  .have hbd:=El (v:=ao.all) (hok m hm).ne hc il.all (BQ.mono (k:=1) ⟨by decide,by decide⟩) (BQ.mono (k:=1) ⟨by decide,by decide⟩)
   haveI:=hbd.1;haveI:=hbd.2;haveI hsb:=Ub (v:=(gj m c ao.all).1) (i:=1200);haveI hpt:aE (m.at (kO (gj m c ao.all).1)) 4500:=by have:=aE.at m (kO (gj m c ao.all).1) (1200+1200+5);exact⟨this.x.mono (by decide),this.y.mono (by decide)⟩
   haveI hvt:aE (fG m.dir) 97:=inferInstance;haveI hns:BQ (rD (m.at (kO (gj m c ao.all).1)) (fG m.dir) c ((1:Int):Rat)) 60000:=Ov hc (BQ.mono (k:=2) ⟨by decide,by decide⟩);have:=aE.mov (m.at (kO (gj m c ao.all).1)) (fG m.dir) (rD (m.at (kO (gj m c ao.all).1)) (fG m.dir) c ((1:Int):Rat)) 4500 97 60000;exact⟨this.x.mono (by decide),this.y.mono (by decide)⟩
  .exact OE hc hok (fun q hq=>h q (aJ _ hq))
def Tf{l:List bu}{g:bu}(h:l[k]? =some g):(l.take (k+1)).flatMap (fun g=>fB g m side)=(l.take k).flatMap (fun g=>fB g m side)++fB g m side:=by
 rw[dR,h,pJ];simp
def ET(l:List bu)(m:ah)(side:Int):(l.flatMap fun g=>fB g m side).length<=3*l.length:=by
 induction l with
 |nil=>simp
 |cons a t ih=>rw[mJ,aY,aN];have:=Iv a m side;omega
def azW{acc:aa->Bool}:jC acc n [] c= .leaf (acc (kl c c)):=by cases n<;>rfl
def atu(hrs: ∀r∈rs,fe r)(hrn:rs.length<=100)(hc: ∀m∈c,LB m)(hok: ∀m∈c,m.ok)(hn:c.length<=900):PF GB prog 160 [wB rs fill, .sl [], .sl (c.map eL)] (eT (jC (od rs fill) n [] c)):=by
 haveI hpb:=OE hc hok (t:=c) (fun _ h=>h);refine fn (fu:=⟨11⟩) func160 J J ntmps160 J J (fun C=>?_);refine dP J J J<|cl J (KJ (c:=c) hc hok (by omega)) J<|cl J (Yu (p:=kl c c) (i:=70000) hrs hrn (by decide)) J<|cl J (Fe (p:=od rs fill (kl c c))) J<|rz J (by rw[azW];rfl)
def Up{rs:List (List ZP)}{fill:Int}(hrs: ∀r∈rs,fe r)(hrn:rs.length<=100){n:Nat}{f:bu}{t:List bu}{c:List ah}(hfew:uj (n+1) (f::t))(hfo: ∀g∈f::t,p8 g)(hlen:(f::t).length*3^(n+1)<=6973568802)(hc: ∀m∈c,LB m)(hok: ∀m∈c,m.ok)(hn:c.length+(n+1)<=900)(ih: ∀{l:List bu} {c:List ah},uj n l->(∀f∈l,p8 f)->l.length*3^n<=6973568802->(∀m∈c,LB m)->(∀m∈c,m.ok)->c.length+n<=900->PF GB prog 160 [wB rs fill, .sl (l.map fA), .sl (c.map eL)] (eT (jC (od rs fill) n l c))):PF GB prog 160 [wB rs fill, .sl ((f::t).map fA), .sl (c.map eL)] (eT (jC (od rs fill) (n+1) (f::t) c)):=by
 obtain⟨l,hl⟩: ∃l,l=f::t:=⟨_,rfl⟩;have hl0:l[0]? =some f:=by rw[hl];rfl
 rw[<-hl] at hfew hfo hlen⊢;have hm:=eO fA l;have hfl:=hfo f (aV hl0);haveI:=hfl.lb;have hlp:0<l.length:=by rw[hl];simp
 have hlb:l.length<=6973568802:=cS (mN _ (gK (by decide))) hlen;refine fn (fu:=⟨11⟩) func160 J J ntmps160 J J (fun C=>?_);refine aj 17 (.d (vI (l.length:Nat))) J (by rw[hm]<;>rfl)<|gx (fu:=⟨0⟩) J<|cg J (by show some (decide _)=some false;rw[decide_eq_false (by omega)]) J<|ix (fu:=⟨17⟩) _ J (cD (i:=0) hl0) J<|aj 33 (.d (vI (l.length:Nat))) J (by rw[hm]<;>rfl)<|gx J<|nr 10 10 274 14 J J J<|nr 11 11 274 14 J J J<|lp (X:=Nat) (fun k=>[(34, .d (vI (k:Nat))),(10, .rw 10),(11, .rw 11)]) (fun k=>[(10,some (.b 274 14 (((l.take k).flatMap fun g=>fB g f.l 1).map fA) true)),(11,some (.b 274 14 (((l.take k).flatMap fun g=>fB g f.l (-1)).map fA) true))]) (fun k=>k<=l.length) (fun k=>l.length-k) 0 J (bV _) (fun _=>J) (fun k hk=>?_);have htk:(l.take k).length<=6973568802:=by rw[bR];omega
 have hb1:(((l.take k).flatMap fun g=>fB g f.l 1).map fA).length<=20920706406:=by rw[aX];have:=ET (l.take k) f.l 1;omega
 have hb2:(((l.take k).flatMap fun g=>fB g f.l (-1)).map fA).length<=20920706406:=by rw[aX];have:=ET (l.take k) f.l (-1);omega
 refine br (fu2:=⟨0⟩) J J J (fun hc35=>?_) (fun hc35=>?_)
 .
  obtain⟨g,hz⟩: ∃s,l[k]? =some s:=⟨_,aZ (by omega)⟩;have hg:=hfo g (aV hz);have hs1:((fB g f.l 1).map fA).length<=3:=by rw[aX];exact Iv _ _ _
  have hs2:((fB g f.l (-1)).map fA).length<=3:=by rw[aX];exact Iv _ _ _
  refine ix _ J (cD hz) J<|cl J (aEI (f:=g) (m:=f.l) hg hfl.ok) J<|ap (hbd:=by omega) (((l.take (k+1)).flatMap fun g=>fB g f.l 1).map fA) J (by rw[Tf hz,bX]) (yt _) J<|ap (hbd:=by omega) (((l.take (k+1)).flatMap fun g=>fB g f.l (-1)).map fA) J (by rw[Tf hz,bX]) (yt _) J<|fw 46 10 J<|fw 49 11 J<|at_ (k+1) ⟨(by omega),(by omega)⟩
 .
  obtain rfl:k=l.length:=by omega
  rw[dQ];refine qf 10 rfl<|qf 11 rfl<|gx rfl<|sA J J<|ap (c.map eL) J J (fP c) rfl<|rf J J<|lP ((c++[f.l]).map eL) rfl (by rw[bX];rfl) (fP [f.l]) rfl<|cl rfl (ih (c:=c++[f.l]) (by subst hl;exact uj.split hfew hfo) (fun g hg=>by obtain⟨q,hq,hg⟩:=iJ.1 hg;exact(GY (hfo q hq) hfl.lb g hg).1) (by have:=ET l f.l 1;rw[iQ] at hlen;exact cS (bS _ this) (by rw[cJ 3,cY];rw[cJ (3^n)] at hlen;exact hlen)) (xw hc hfl.lb) (oO hok hfl.ok) (by rw[aY,gJ];omega)) rfl<|sA J J<|ap (c.map eL) J J (fP c) rfl<|cl rfl (B9 (l:=f.l)) rfl<|rf J J<|lP ((c++[f.l.rev]).map eL) rfl (by rw[bX];rfl) (fP [f.l.rev]) rfl<|cl (fu:=⟨1⟩) rfl (ih (c:=c++[f.l.rev]) (by subst hl;exact uj.split hfew hfo) (fun g hg=>by obtain⟨q,hq,hg⟩:=iJ.1 hg;exact(GY (hfo q hq) hfl.lb g hg).1) (by have:=ET l f.l (-1);rw[iQ] at hlen;exact cS (bS _ this) (by rw[cJ 3,cY];rw[cJ (3^n)] at hlen;exact hlen)) (xw hc hfl.lb.rev) (oO hok hfl.ok.rev) (by rw[aY,gJ];omega)) rfl<|FH J J<|rz rfl (by subst hl;rfl)
def LW{rs:List (List ZP)}{fill:Int}(hrs: ∀r∈rs,fe r)(hrn:rs.length<=100): ∀{n:Nat} {l:List bu} {c:List ah},uj n l->(∀f∈l,p8 f)->l.length*3^n<=6973568802->(∀m∈c,LB m)->(∀m∈c,m.ok)->c.length+n<=900->PF GB prog 160 [wB rs fill, .sl (l.map fA), .sl (c.map eL)] (eT (jC (od rs fill) n l c))
 |n,[],c,_,_,_,hc,hok,hn=>atu hrs hrn hc hok (by omega)
 |0,f::t,c,hf,_,_,_,_,_=>by
  obtain⟨K,h1,h2⟩:=hf;obtain⟨m,hm,_⟩:=h2 f aQ;rw[cW (l:=K) (by omega)] at hm
  cases hm
 |n+1,f::t,c,hf,ho,hl,hc,hok,hn=>Up hrs hrn hf ho hl hc hok hn (fun a1 a2 a3 a4 a5 a6=>LW hrs hrn a1 a2 a3 a4 a5 a6)
def ayP(l:List bu):uj l.length l:=⟨l.map bu.l,by rw[aX];exact bW _,fun f hf=>⟨f.l,dZ hf, .inl J⟩⟩
def aDA(h:n<=18):n*3^n<=6973568802:=cS (iW h (bL (by decide) h)) (by decide)
def XY(hrs: ∀r∈rs,fe r)(hrn:rs.length<=3):PF GB prog 86 [wB rs fill] (eT (f7 rs fill)):=by
 have hm:=eO kv rs;have hE:=Ae hrs;have hraw:=FP (acc:=od rs fill) hE.2 J;refine fn (fu:=⟨17⟩) func86 J J ntmps86 J J (fun C=>?_);refine aj 8 (.d (vI (rs.length:Nat))) J (by rw[hm]<;>rfl)<|gx J<|nr 3 3 274 14 J J J<|lp (X:=Nat) (fun k=>[(9, .d (vI (k:Nat))),(3, .rw 3)]) (fun k=>[(3,some (.b 274 14 ((i8 (rs.take k)).map fA) true))]) (fun k=>k<=rs.length) (fun k=>rs.length-k) 0 J (bV _) (fun _=>J) (fun k hk=>?_);have het:((i8 (rs.take k)).map fA).length<=6*k:=by rw[aX];exact PA hrs k
 refine br J J J (fun hc10=>?_) (fun hc10=>?_)
 .
  obtain⟨r,hz⟩: ∃s,rs[k]? =some s:=⟨_,aZ (by omega)⟩;have hr:=hrs r (aV hz);have hel:((kt r).map fA).length<=6:=by rw[aX];have:=(Cz hr).1;have:=hr.n6;omega
  refine ix _ J (cD hz) J<|cl J (Qn (r:=r) hr) J<|ap (hbd:=by omega) ((i8 (rs.take (k+1))).map fA) J (by rw[LZ hz,bX]) (yt _) J<|fw 16 3 J<|at_ (k+1) ⟨(by omega),(by omega)⟩
 .
  obtain rfl:k=rs.length:=by omega
  rw[dQ];refine fz 3 J J<|cl J (LW (n:=(i8 rs).length) (l:=i8 rs) (c:=[]) hrs (by omega) (ayP _) hE.2 (aDA (by have:=hE.1;omega)) (fun m h=>by cases h) (fun m h=>by cases h) (by have:=hE.1;rw[dT];omega)) J<|cl J (Sz (t:=t7 rs fill) hraw.gd.lb hraw.gd.ok (by have:=hraw.dp;have:=hE.1;show(jC _ _ _ _).depth<=900;omega)) J<|rz J J
def Zk:PF GB prog 37 [eT (.leaf b)] (eT (Tr.compl (.leaf b))):=by
 refine fn (fu:=⟨11⟩) func37 J J ntmps37 J J (fun C=>?_);refine dP J J J<|cl J (Fe (p:=!b)) J<|rz J J
def ZG{x:Tr}(ihx:PF GB prog 37 [eT x] (eT x.compl))(ihy:PF GB prog 37 [eT y] (eT y.compl)):PF GB prog 37 [eT (.node l x y)] (eT (Tr.compl (.node l x y))):=by
 refine fn (fu:=⟨11⟩) func37 J J ntmps37 J J (fun C=>?_);refine cg J J J<|cl J ihx J<|cl (fu:=⟨1⟩) J ihy J<|FH J J<|rz J J
def HY: ∀{t:Tr},PF GB prog 37 [eT t] (eT t.compl)
 | .leaf _=>Zk
 | .node _ _ _=>ZG HY HY

def VB(l:ah)(p q:DV):List DV:=[.v (.bool false), .v (.bool false), .v (.bool (decide (l.a<0))),dN l.a.natAbs, .v (.bool (decide (l.b<0))),dN l.b.natAbs, .v (.bool (decide (l.c<0))),dN l.c.natAbs,p,q]
def aJ3{l1 l2 l3:List DV}(h:Is G (.ag [.v (.bool b1), .sl l1, .v (.bool b2), .sl l2, .v (.bool b3), .sl l3]) v): ∃x1 x2 x3:SV,v= .agg ⟨[.bool b1, .slice x1.a x1.n x1.c, .bool b2, .slice x2.a x2.n x2.c, .bool b3, .slice x3.a x3.n x3.c]⟩:=by
 obtain⟨m,rfl,g⟩:=dO.1 h;clear h;obtain⟨v1,m,rfl,h1,h⟩:=bj.1 g;obtain⟨v2,m,rfl,h2,h⟩:=bj.1 h;obtain⟨v3,m,rfl,h3,h⟩:=bj.1 h;obtain⟨v4,m,rfl,h4,h⟩:=bj.1 h;obtain⟨v5,m,rfl,h5,h⟩:=bj.1 h;obtain⟨v6,m,rfl,h6,h⟩:=bj.1 h;rw[et] at h;subst h;obtain⟨_,x1,_,rfl,_,_⟩:=gt.1 h2;obtain⟨_,x2,_,rfl,_,_⟩:=gt.1 h4;obtain⟨_,x3,_,rfl,_,_⟩:=gt.1 h6;rw[aI.1 h1,aI.1 h3,aI.1 h5];exact⟨x1,x2,x3,J⟩
def QI:IsLs G (cT (.leaf b)) [.bool true, .bool b, .bool false, .slice none 0 0, .bool false, .slice none 0 0, .bool false, .slice none 0 0, .pointer none, .pointer none]:=by
 have hs:Is G (.sl []) (.slice none 0 0):=gt.2 ⟨0,⟨none,0,0⟩,[],J, .nil G 0, .nil⟩;exact .cons (aI.2 J) (.cons (aI.2 J) (.cons (aI.2 J) (.cons hs (.cons (aI.2 J) (.cons hs (.cons (aI.2 J) (.cons hs (.cons (aI.2 J) (.cons (aI.2 J) .nil)))))))))
def Vo{acs:List Value}{o:Nat}{a b c d l r:Value}(h:cE acs o 8=some [a,b,c,d,e,f,l,r]):cE acs (o+0) 6=some [a,b,c,d,e,f]/\acs[o+6]? =some l/\acs[o+7]? =some r:=by
 obtain⟨_,hg⟩:=qh _ _ _ _ h;have h7:=hg 7 (by decide);have hlen:=(aS.1 h7).1;refine⟨?_,hg 6 (by decide),h7⟩;rw[lD _ _ _ (by omega)];congr 1;apply kY;intro i;rw[pT];split
 .rename_i hi
  rw[lR];have:=hg i (by omega);rw[fS,this]
  match i,hi with
  |0,_=>rfl
  |1,_=>rfl
  |2,_=>rfl
  |3,_=>rfl
  |4,_=>rfl
  |5,_=>rfl
 .rename_i hi
  rw[dS (by simp only[aN,dT];omega)]
def Uw{p q:DV}{a b c d:Value}(h:Is G (eL l) (.agg ⟨[a,b,c,d,e,f]⟩))(hp:Is G p v)(hq:Is G q w):IsLs G (VB l p q) [.bool false, .bool false,a,b,c,d,e,f,v,w]:=by
 obtain⟨m,e',g⟩:=dO.1 h
 cases e'
 obtain⟨h1,g⟩:=g.uncons;obtain⟨h2,g⟩:=g.uncons;obtain⟨h3,g⟩:=g.uncons;obtain⟨h4,g⟩:=g.uncons;obtain⟨h5,g⟩:=g.uncons;obtain⟨h6,g⟩:=g.uncons;exact .cons (aI.2 J) (.cons (aI.2 J) (.cons h1 (.cons h2 (.cons h3 (.cons h4 (.cons h5 (.cons h6 (.cons hp (.cons hq .nil)))))))))
def RN.of(n:NQ):RN:=⟨⟨decide (n.l.a<0),dg n.l.a.natAbs,decide (n.l.b<0),dg n.l.b.natAbs,decide (n.l.c<0),dg n.l.c.natAbs⟩,n.a,n.b⟩
def ayy(a:Int):qI (decide (a<0)) (dg a.natAbs)=a:=by
 unfold qI;rw[(f8 _).1];split
 .rename_i h;have:=of_decide_eq_true h;omega
 .rename_i h;have: ¬a<0:=fun e=>h (decide_eq_true e);omega
def JK(a:Int):s9 (decide (a<0)) (dg a.natAbs):=⟨(f8 _).2.2,fun h=>wc.2 (by have:=of_decide_eq_true h;omega)⟩
def RN.of_l(n:NQ):(RN.of n).g.l=n.l:=by
 unfold RN.of RL.l;simp only[ayy]
def RN.of_sm{n:NQ}(h:LB n.l):(RN.of n).g.sm:=by
 have key: ∀a:Int,a.natAbs<2^96->bA (dg a.natAbs)/\(dg a.natAbs).length<=3:=fun a ha=>⟨(f8 _).2.1,by have:=k9 ha;omega⟩;exact⟨key _ h.bl.a,key _ h.bl.b,key _ h.bl.c⟩
def Tr.all_imp{p q:ah->Prop}(h: ∀l,p l->q l): ∀{t:Tr},t.all p->t.all q
 | .leaf _,_=>trivial
 | .node _ _ _,⟨h0,h1,h2⟩=>⟨h _ h0,Tr.all_imp h h1,Tr.all_imp h h2⟩
def jI.red_size(h:jI k t)(hr:t.Red []):t.size<=k*(1+k):=by
 obtain⟨K,h1,h2,h3⟩:=h.am;exact cS (Tr.size_le h2 hr h.gd.ok bC.nil h3) (iW h1 (by omega))
structure i7 (k:Nat) (t:Tr):Prop where
 o:jI k t
 s:t.size<=3000
def i7.gd{k:Nat}{t:Tr}(h:i7 k t):t.gd:=h.o.gd
def i7.lb{k:Nat}{t:Tr}(h:i7 k t):t.all LB:=h.o.gd.lb
def i7.ok{k:Nat}{t:Tr}(h:i7 k t):t.all ah.ok:=h.o.gd.ok
def i7.bl{k:Nat}{t:Tr}(h:i7 k t):t.all (fun l=>BL l 96):=Tr.all_imp (fun _ h=>h.bl) h.o.gd.lb
def i7.compl{k:Nat}{t:Tr}(h:i7 k t):i7 k t.compl:=⟨h.o.compl,by rw[t.compl_size];exact h.s⟩
def jI.x(h:jI k t)(hr:t.Red [])(hk:k<=54):i7 k t:=
 ⟨h,cS (h.red_size hr) (cS (iW hk (show 1+k<=55 by omega)) (by decide))⟩
def Di(rs:List (List ZP))(fill:Int):(f7 rs fill).Red []:=Tr.restrict_red _ _
def jd(r:List ZP)(i k:Nat):Bool:=decide (k=i)||decide (k=(i+1)%r.length)||decide (0<uK (r.getD i (0,0)).q (je r i).q (r.getD k (0,0)).q)
def Dv(r:List ZP):Bool:=(List.range r.length).all fun i=>(List.range r.length).all fun k=>jd r i k
def NX(hi:i<r.length)(hk:k<r.length)(h:jd r i k=false):Dv r=false:=by
 rw[Bool.eq_false_iff];intro e;have:=(dW.1 ((dW.1 e) i (jR.2 hi))) k (jR.2 hk);rw[h] at this;cases this
def LT(h: ∀i,i<r.length-> ∀k,k<r.length->jd r i k=true):Dv r=true:=
 dW.2 fun i hi=>dW.2 fun k hk=>h i (jR.1 hi) k (jR.1 hk)
def Jw(a b c:ZP):uK a.q b.q c.q=(jE (b.1-a.1,b.2-a.2) (c.1-a.1,c.2-a.2)).sign:=by
 have e:aa.cross (b8 b.q a.q (-1)) (b8 c.q a.q (-1))=((jE (b.1-a.1,b.2-a.2) (c.1-a.1,c.2-a.2):Int):Rat):=by
  unfold aa.cross b8 jE ZP.q iP;push_cast;grind
 unfold uK;rw[e,oK]
def Ji:0<a.sign↔0<a:=by
 rcases lV a 0 with h|h|h
 .rw[dY h];omega
 .subst h;simp
 .rw[eK h];omega
def aqn{p v:ZP}:Dv (gA p u v)=decide (0<jE u v):=by
 obtain⟨p1,p2⟩:=p;obtain⟨u1,u2⟩:=u;obtain⟨v1,v2⟩:=v;have e1:jd (gA (p1,p2) (u1,u2) (v1,v2)) 0 2=decide (0<jE (u1,u2) (v1,v2)):=by
  unfold jd je gA j0;simp only[aN,dT,qN,pZ,Nat.reduceAdd,Nat.reduceMod,Jw,Ji];simp[jE];congr 2
  all_goals (first|omega|grind)
 have e2:jd (gA (p1,p2) (u1,u2) (v1,v2)) 1 0=decide (0<jE (u1,u2) (v1,v2)):=by
  unfold jd je gA j0;simp only[aN,dT,qN,pZ,Nat.reduceAdd,Nat.reduceMod,Jw,Ji];simp[jE];constructor<;>intro h<;>grind
 have e3:jd (gA (p1,p2) (u1,u2) (v1,v2)) 2 1=decide (0<jE (u1,u2) (v1,v2)):=by
  unfold jd je gA j0;simp only[aN,dT,qN,pZ,Nat.reduceAdd,Nat.reduceMod,Jw,Ji];simp[jE];constructor<;>intro h<;>grind
 by_cases h:0<jE (u1,u2) (v1,v2)
 .rw[decide_eq_true h] at e1 e2 e3⊢
  refine LT fun i hi k hk=>?_;have hl:(gA (p1,p2) (u1,u2) (v1,v2)).length=3:=J;rw[hl] at hi hk;have hs: ∀j,jd (gA (p1,p2) (u1,u2) (v1,v2)) j j=true:=fun j=>by unfold jd;simp
  have hn: ∀j,jd (gA (p1,p2) (u1,u2) (v1,v2)) j ((j+1)%3)=true:=fun j=>by unfold jd;simp[hl]
  have h1:i=0\/i=1\/i=2:=by omega
  have h2:k=0\/k=1\/k=2:=by omega
  rcases h1 with rfl|rfl|rfl<;>rcases h2 with rfl|rfl|rfl<;>first|assumption|exact hs _|exact hn _
 .rw[decide_eq_false h] at e1⊢
  exact NX (i:=0) (k:=2) (by simp[gA]) (by simp[gA]) e1
def Yn(hle: ∀p∈r,ZP.le 100 p)(h6:r.length<=6):PF GB prog 39 [.sl (r.map oE)] (vB (Dv r)):=by
 have hm:=eO oE r;refine fn (fu:=⟨9⟩) func39 J J ntmps39 J J (fun C=>?_);refine aj 7 (.d (vI (r.length:Nat))) J (by rw[hm]<;>rfl)<|gx (fu:=⟨8⟩) J<|aj 9 (.d (vI (r.length:Nat))) J (by rw[hm]<;>rfl)<|gx J<|lp (X:=Nat) (fun i=>[(10, .d (vI (i:Nat)))]) (fun i=>[]) (fun i=>i<=r.length/\ ∀j,j<i-> ∀q,q<r.length->jd r j q=true) (fun i=>r.length-i) 0 J ⟨bV _,fun j hj=>absurd hj (by omega)⟩ (fun _=>J) (fun i hk=>?_);obtain⟨i1,i2⟩:=hk;refine br (fu1:=⟨14⟩) J J J (fun hc11=>?_) (fun hc11=>?_)
 .
  have hir:i<r.length:=by omega
  refine aj 14 (.d (vI (r.length:Nat))) J (by rw[hm]<;>rfl)<|gx J<|lp (X:=Nat) (fun k=>[(15, .d (vI (k:Nat)))]) (fun k=>[]) (fun k=>k<=r.length/\ ∀q,q<k->jd r i q=true) (fun k=>r.length-k) 0 J ⟨bV _,fun j hj=>absurd hj (by omega)⟩ (fun _=>J) (fun k hk=>?_);obtain⟨k1,k2⟩:=hk;refine br (fu1:=⟨14⟩) J J J (fun hc16=>?_) (fun hc16=>?_)
  .
   have hkr:k<r.length:=by omega
   haveI hvb:aE (r.getD i (0,0)).q 12:=vg (hle _ (vk hir));haveI hwb:aE (je r i).q 12:=vg (hle _ (yx hir));haveI hub:aE (r.getD k (0,0)).q 12:=vg (hle _ (vk hkr));refine kj (fu1:=⟨6⟩) (v2:=fun hg20=>by simp only[ak];exact⟨by kernel_rfl,by omega⟩) J J J J (fun hg20=>?_) (fun hg20=>?_)
   .
    refine aj 26 (.d (vI ((i+1)%r.length:Nat))) J (by rfl)<|gx (fu:=⟨0⟩) J<|kj (v2:=fun hg27=>by simp only[ak];exact⟨by kernel_rfl,by omega⟩) J J J J (fun hg27=>?_) (fun hg27=>?_)
    .
     refine ix (fu:=⟨6⟩) _ J (BW hir) J<|aj 38 (.d (vI ((i+1)%r.length:Nat))) J (by rfl)<|gx J<|ix _ J (Kd hir) J<|ix _ J (BW hkr) J<|cl J (Il (a:=(r.getD i (0,0)).q) (b:=(je r i).q) (c:=(r.getD k (0,0)).q) (i:=12) (j:=12) (k:=12)) J<|br J J J (fun hc47=>?_) (fun hc47=>?_)
     .
      have hcv:jd r i k=false:=by unfold jd;rw[decide_eq_false (show¬k=i by omega),decide_eq_false (show¬k=(i+1)%r.length by omega),decide_eq_false (show¬0<(uK (r.getD i (0,0)).q (je r i).q (r.getD k (0,0)).q) by omega)];rfl
      exact rz J (by rw[NX hir hkr hcv];rfl)
     .
      have hcv:jd r i k=true:=by unfold jd;rw[decide_eq_true (show 0<uK _ _ _ by omega)];simp
      exact at_ (k+1) ⟨⟨by omega,fun q hq=>by by_cases e:q=k;(subst e;exact hcv);exact k2 q (by omega)⟩,(by omega)⟩
    .
     have hcv:jd r i k=true:=by unfold jd;rw[decide_eq_true (show k=(i+1)%r.length by omega)];simp
     exact at_ (k+1) ⟨⟨by omega,fun q hq=>by by_cases e:q=k;(subst e;exact hcv);exact k2 q (by omega)⟩,(by omega)⟩
   .
    have hcv:jd r i k=true:=by unfold jd;rw[decide_eq_true (show k=i by omega)];rfl
    exact at_ (k+1) ⟨⟨by omega,fun q hq=>by by_cases e:q=k;(subst e;exact hcv);exact k2 q (by omega)⟩,(by omega)⟩
  .
   obtain rfl:k=r.length:=by omega
   exact at_ (i+1) ⟨⟨by omega,fun j hj q hq=>by by_cases e:j=i;(subst e;exact k2 q (by omega));exact i2 j (by omega) q hq⟩,(by omega)⟩
 .
  obtain rfl:i=r.length:=by omega
  exact rz J (by rw[LT fun j hj q hq=>i2 j hj q hq];rfl)
def WX{p v:ZP}(h1:ZP.le 40 p)(h2:ZP.le 40 u)(h3:ZP.le 40 v): ∀q∈gA p u v,ZP.le 100 q:=fun q hq=>by
 unfold ZP.le at*;simp only[gA,j0,aK,eY,or_false] at hq;rcases hq with rfl|rfl|rfl<;>((try dsimp only);omega)
def aqX{p v:ZP}(h1:ZP.le 40 p)(h2:ZP.le 40 u)(h3:ZP.le 40 v):PF GB prog 39 [.sl ((gA p u v).map oE)] (vB (decide (0<jE u v))):=by
 have:=Yn (GB:=GB) (r:=gA p u v) (WX h1 h2 h3) (by simp[gA]);rw[aqn] at this;exact this
def Je{b:Nat}(hes:es.length<=400){a:Nat}(ha:a<=es.length):PM GB prog 8 (jv [none] b) b 84 [.sl (es.map vI), .v (.int .i64 (a:Nat))] (kv (gr es a).1) [.sl (es.map vI), .v (.int .i64 ((gr es a).2:Nat))]:=by
 have hk0:=gD (n:=2) ha;have hx1:=gD (n:=3) hk0;have hy1:=gD (n:=3) hx1;have l1:=dH (es:=es) (n:=3) (a:=(au es 2 a).2);have l2:=dH (es:=es) (n:=3) (a:=(au es 3 (au es 2 a).2).2);refine vu func8 J J ntmps8 J J (fun C b m lo hmb=>?_);refine cm J (fun b=>(mz (n:=2) hes ha)) J<|br J J J (fun hc13=>?_) (fun hc13=>?_)
 .
  have hz1:=gD (n:=2) hy1;have l3:=dH (es:=es) (n:=2) (a:=(au es 3 (au es 3 (au es 2 a).2).2).2);have l4:=dH (es:=es) (n:=2) (a:=(au es 2 (au es 3 (au es 3 (au es 2 a).2).2).2).2);refine cm J (fun b=>(mz (n:=3) hes hk0)) J<|cm J (fun b=>(mz (n:=3) hes hx1)) J<|cm J (fun b=>(mz (n:=2) hes hy1)) J<|cm J (fun b=>(mz (n:=2) hes hz1)) J<|cl J (ji (m:=(((au es 3 (au es 2 a).2).1:Int)-1)) (n:=(((au es 3 (au es 3 (au es 2 a).2).2).1:Int)-1))) J<|cl J (ji (m:=(((au es 3 (au es 2 a).2).1:Int)-1+1+((au es 2 (au es 3 (au es 3 (au es 2 a).2).2).2).1:Int))) (n:=(((au es 3 (au es 3 (au es 2 a).2).2).1:Int)-1))) J<|cl J (ji (m:=(((au es 3 (au es 2 a).2).1:Int)-1+1+((au es 2 (au es 3 (au es 3 (au es 2 a).2).2).2).1:Int))) (n:=(((au es 3 (au es 3 (au es 2 a).2).2).1:Int)-1+1+((au es 2 (au es 2 (au es 3 (au es 3 (au es 2 a).2).2).2).2).1:Int)))) J<|cl J (ji (m:=(((au es 3 (au es 2 a).2).1:Int)-1)) (n:=(((au es 3 (au es 3 (au es 2 a).2).2).1:Int)-1+1+((au es 2 (au es 2 (au es 3 (au es 3 (au es 2 a).2).2).2).2).1:Int)))) J<|rf J J<|?_;exact kH hmb J J (by rw[show gr es a=_ from if_pos hc13];rfl) (by rw[show gr es a=_ from if_pos hc13];rfl)
 .
  have hu1:=gD (n:=2) hy1;have hu2:=gD (n:=3) hu1;have hv1:=gD (n:=3) hu2;have m1:=dH (es:=es) (n:=2) (a:=(au es 3 (au es 3 (au es 2 a).2).2).2);have m2:=dH (es:=es) (n:=3) (a:=(au es 2 (au es 3 (au es 3 (au es 2 a).2).2).2).2);have m3:=dH (es:=es) (n:=3) (a:=(au es 3 (au es 2 (au es 3 (au es 3 (au es 2 a).2).2).2).2).2);have m4:=dH (es:=es) (n:=2) (a:=(au es 3 (au es 3 (au es 2 (au es 3 (au es 3 (au es 2 a).2).2).2).2).2).2);refine cm J (fun b=>(mz (n:=3) hes hk0)) J<|cm J (fun b=>(mz (n:=3) hes hx1)) J<|cl J (ji (m:=(((au es 3 (au es 2 a).2).1:Int)-1)) (n:=(((au es 3 (au es 3 (au es 2 a).2).2).1:Int)-1))) J<|cm J (fun b=>(mz (n:=2) hes hy1)) J<|cm J (fun b=>(mz (n:=3) hes hu1)) J<|cl J (ji (m:=(1+((au es 2 (au es 3 (au es 3 (au es 2 a).2).2).2).1:Int))) (n:=(((au es 3 (au es 2 (au es 3 (au es 3 (au es 2 a).2).2).2).2).1:Int)-1))) J<|cm J (fun b=>(mz (n:=3) hes hu2)) J<|cm J (fun b=>(mz (n:=2) hes hv1)) J<|cl J (ji (m:=(((au es 3 (au es 3 (au es 2 (au es 3 (au es 3 (au es 2 a).2).2).2).2).2).1:Int)-1)) (n:=(1+((au es 2 (au es 3 (au es 3 (au es 2 (au es 3 (au es 3 (au es 2 a).2).2).2).2).2).2).1:Int)))) J<|cl J (jl (n:=1)) J<|cl J (Ft (m:=(((au es 3 (au es 2 a).2).1:Int)-1)) (n:=(((au es 3 (au es 3 (au es 2 a).2).2).1:Int)-1)) (m':=(1+((au es 2 (au es 3 (au es 3 (au es 2 a).2).2).2).1:Int))) (n':=(((au es 3 (au es 2 (au es 3 (au es 3 (au es 2 a).2).2).2).2).1:Int)-1)) (k:=1) (by omega) (by omega) (by omega) (by omega)) J<|cl J (jl (n:=1)) J<|cl J (Ft (m:=(((au es 3 (au es 2 a).2).1:Int)-1)) (n:=(((au es 3 (au es 3 (au es 2 a).2).2).1:Int)-1)) (m':=(((au es 3 (au es 3 (au es 2 (au es 3 (au es 3 (au es 2 a).2).2).2).2).2).1:Int)-1)) (n':=(1+((au es 2 (au es 3 (au es 3 (au es 2 (au es 3 (au es 3 (au es 2 a).2).2).2).2).2).2).1:Int))) (k:=1) (by omega) (by omega) (by omega) (by omega)) J<|rf J J<|cl J (aqX (p:=((((au es 3 (au es 2 a).2).1:Int)-1),(((au es 3 (au es 3 (au es 2 a).2).2).1:Int)-1))) (u:=((1+((au es 2 (au es 3 (au es 3 (au es 2 a).2).2).2).1:Int)),(((au es 3 (au es 2 (au es 3 (au es 3 (au es 2 a).2).2).2).2).1:Int)-1))) (v:=((((au es 3 (au es 3 (au es 2 (au es 3 (au es 3 (au es 2 a).2).2).2).2).2).1:Int)-1),(1+((au es 2 (au es 3 (au es 3 (au es 2 (au es 3 (au es 3 (au es 2 a).2).2).2).2).2).2).1:Int)))) ⟨by omega,by omega⟩ ⟨by omega,by omega⟩ ⟨by omega,by omega⟩) J<|bb J J J (fun hc76=>?_) (fun hc76=>?_)
  .
   refine cl J (ji (m:=0) (n:=0) (by decide) (by decide)) J<|cl J (ji (m:=1) (n:=0) (by decide) (by decide)) J<|cl J (ji (m:=0) (n:=1) (by decide) (by decide)) J<|rf J J<|?_;exact kH hmb J J (by rw[show gr es a=_ from(if_neg hc13).trans (congrArg (fun r=>(r,(au es 2 (au es 3 (au es 3 (au es 2 (au es 3 (au es 3 (au es 2 a).2).2).2).2).2).2).2)) (if_neg (by simpa using hc76)))];rfl) (by rw[show gr es a=_ from if_neg hc13])
  .
   exact kH hmb J J (by rw[show gr es a=_ from(if_neg hc13).trans (congrArg (fun r=>(r,(au es 2 (au es 3 (au es 3 (au es 2 (au es 3 (au es 3 (au es 2 a).2).2).2).2).2).2).2)) (if_pos (by simpa using hc76)))];rfl) (by rw[show gr es a=_ from if_neg hc13])
section
variable {own:aH}
end
def YC(hb:es0.length<=1125899906842624)(he:es=es0.take 400):PN GB prog 6 [.sl (es0.map vI)] 84 Unit (fun _=>[.sl (es.map vI), .v (.int .i64 (0:Nat))]):=by
 subst he;exact aJD hb
def P6(h:i7 k t):PF GB prog 10 [eT t] (eA t):=aEx h.bl (by have:=h.s;omega)
def Wv:Option ar->DV
 |some c=> .tp [.sl (c.map de),vB true]
 |none=> .tp [.sl [],vB false]
def O5{c:ar}(h:ls[k]? =some l):jm (ls.drop k) c=if cx c l then jm (ls.drop (k+1)) (bB c l) else none:=by
 obtain⟨hk,rfl⟩:=aS.1 h;rw[bJ hk,jm]
def eE.nil:eE []:=fun s hs=>by cases hs
def V9(hb: ∀l∈ls,LB l)(ho: ∀l∈ls,l.ok)(hn:ls.length<=10000):PF GB prog 60 [.sl (ls.map c8)] (Wv (jm ls [])):=by
 have hm:=tO c8 ls;refine fn (fu:=⟨25⟩) func60 J J ntmps60 J J (fun C=>?_);refine aj 9 (.d (vI (ls.length:Nat))) J (by rw[hm]<;>rfl)<|gx J<|CC 4 J<|KR 5 (vB true) J J<|lp (X:=ar×Nat) (fun⟨c,k⟩=>[(10, .d (vI (k:Nat))),(4, .d (.sl (c.map de))),(5, .d (vB true))]) (fun⟨c,k⟩=>[]) (fun⟨c,k⟩=>k<=ls.length/\eE c/\c.length<=k/\jm (ls.drop k) c=jm ls []) (fun⟨c,k⟩=>ls.length-k) ([],0) J ⟨bV _,eE.nil,bW _,J⟩ (fun _=>J) (fun⟨c,k⟩ hk=>?_);obtain⟨h1,h2,h3,h4⟩:=hk;dsimp only at*;refine br J J J (fun hc11=>?_) (fun hc11=>?_)
 .
  obtain⟨l,hx0⟩: ∃s,ls[k]? =some s:=⟨_,aZ (by omega)⟩;haveI:=hb l (aV hx0);have hlo:=ho l (aV hx0);refine ix _ J (cD hx0) J<|cl J (Kh (c:=c) (l:=l) hlo h2 (by omega)) J<|bb J J J (fun hc21=>?_) (fun hc21=>?_)
  .
   refine bb J J J (fun hc24=>?_) (fun hc24=>?_)
   .
    exact rz J (by rw[<-h4,O5 hx0,if_neg (by simpa using hc21)];rfl)
   .
    exact rz J (by simp only[hc21] at hc24;simp at hc24)
  .
   refine aj 5 (.d (vB true)) J (by rw[show cx c l=true by simpa using hc21])<|at_ (bB c l,k+1) (by dsimp only;exact⟨⟨by omega,rC (ho l (aV hx0)) h2,by have:=ub c l;omega,by rw[<-h4,O5 hx0,if_pos (by simpa using hc21)]⟩,(by omega)⟩)
 .
  refine bb J J J (fun hc24=>?_) (fun hc24=>?_)
  .
   exact rz J (absurd hc24 (by decide))
  .
   exact rz J (by rw[<-h4,jU (by omega)];rfl)
def Xd{c:ar}(hb: ∀l∈ls,LB l)(ho: ∀l∈ls,l.ok)(hn:ls.length<=10000)(h:jm ls []=some c):PF GB prog 60 [.sl (ls.map c8)] (.tp [.sl (c.map de),vB true]):=by
 have:=V9 (GB:=GB) hb ho hn;rw[h] at this;exact this

section
variable {own:aH}{ops:Array Oper}{r:List Oper}{K:List Kt}
def aKr(k:Nat){d:DV}(hl:bi fr k=some (.d d))(h: ∀(GB':Gh) (pv:Value),bH GB GB'->Is GB' d pv->av prog GB' C n Q0 ((k, .d (.v pv))::fr) own (.ops ops r K)):av prog GB C n Q0 fr own (.ops ops r K):=by
 refine⟨fun ρ G ov a w r0=>?_⟩;obtain⟨y,hy,hy'⟩:=r0.fx k _ hl;refine(h G y r0.gb hy').run ρ G ov a w ⟨bH.refl _,r0.h,r0.sz,r0.df,fun j f e=>?_,r0.bx,r0.dj,r0.fxd⟩;rw[kr] at e;split at e
 .rename_i hj
  cases e;subst hj
  exact⟨y,hy,(aI (G:=G)).2 J⟩
 .exact r0.fx j f e
def Ui(fr:aC)(own:aH)(cf:Cf):Option (TypeId×Nat×Nat×List FX×Bool×FX):=match cG fr cf with
 |some ⟨_, .store t x y,_,_,_,_⟩=>match aP (b7 fr cf) x with
  |some (.ov nm 0)=>match iB fr own cf nm with
   |some (.o ty cs lo)=>match aP (b7 fr cf) y with
    |some fv=>some (t,nm,ty,cs,lo,fv)
    |_=>none
   |_=>none
  |_=>none
 |_=>none
def Hu[fu:Fu]{t e:Nat}{cs:List FX}{fv:FX}{j:TypeInfo}(h:Ui fr own cf=some (t,nm,ty,cs,lo,fv))(hu:prog.underlying t=some (.array len e))(hj:prog.info? t=some j)(hc:fv.okc=true/\fv.cells.length=j.size/\j.size=cs.length)
  (hgo:cB tt n fu.n fr own cf .un [(nm,some (.o ty (w9 cs 0 fv.cells) lo))] []=⟨vc,fr',own',cf'⟩)(k:av prog GB C n Q0 fr' own' cf')
  (hv:autoParam (ak vc) cL._auto_1):av prog GB C n Q0 fr own cf:=by
 unfold Ui at h;split at h<;>try (cases h;done)
 rename_i hh;split at h<;>try (cases h;done)
 rename_i e1;split at h<;>try (cases h;done)
 rename_i hb;split at h<;>cases h;rename_i e2;obtain⟨c1,c2,c3⟩:=hc;have:lh prog t j.size:=⟨fun w=>BG hu w,fun w=>vx hj w⟩;refine us hh ?_ hgo hv k;intro hd tl tb K s1 s2 hf hk;refine⟨fun ρ G ov a w r Q=>?_⟩;have r1:=r.mono s1 s2;obtain⟨p,h1,h2⟩:=r1.ev e1;obtain⟨q,h3,h4⟩:=r1.ev e2;obtain⟨b,m,rfl,ha,h5,h6⟩:=r1.own h2 hb;obtain⟨h7,h8⟩:=h4.cells c1;obtain⟨own',u1,u2,u3⟩:=ik.of_mem (cs':=cF m 0 (aF q)) h6;exact Fh h1 h3 u1 (by rw[h7.len,c2]) (by rw[h5.len,c3];omega) (dW.2 h8) hd (fun a' w' rl=>r.wrote (m:=m) (s2 _ _ hb) ha (h5.ov h7) u2 u3 hk rl) a w Q ⟨r.h,r.sz,cI a,r.df⟩
def aLM:TypeDesc->Bool
 | .struct _=>false
 | .array _ _=>false
 |_=>true
end
end Go.Sx
end
