import Derived.Test.YtmdgdhokaffbkaaGreatDoorTf15
set_option linter.all false
set_option maxHeartbeats 4000000
set_option maxRecDepth 100000
section
namespace Go.Sx
open Go Go.Proofs Tryz
variable {GB:Gh}{l m l1:aa}{side fill op:Int}{f g:bi}{k n i a:Nat}{r:List ZP}{p v:ab}{rs:List (List ZP)}{c:List aa}{y u t:Tr}{q b:Bool}{ns:List NQ}{es es0:List Int}
def TV(f:bi)(m:aa)(k:Nat):List bi:=if k=0 then [] else dB f m 1
def V1(f:bi)(m:aa)(k:Nat):List bi:=if k<=1 then [] else dB f m (-1)
def MY(hl:LB l)(hm:LB m)(hlo:l.ok): ∀v∈gH l m side,lE v:=fun v hv=>⟨(DN hl hm hlo v hv).2.1,(DN hl hm hlo v hv).2.2⟩
def wG:(gH l m side).length<=1:=by
 unfold gH;split
 .split<;>simp
 .split<;>simp
def Iv(op:Int)(a b:List ak):(mA op a b).length<=2*(a.length+b.length)+1:=by
 unfold mA si;refine cJ F5 ?_;rw[aX,xq];have:=DU (a++b);rw[aU] at this;omega
theorem omY{p:Prop}(h:p:=by first|(unfold dB;rw[if_pos hon,if_pos hon];rfl)|rfl):p:=h
def Ya(h:lx f)[hm:LB m](hmo:m.ok):PF GB prog 201 [eh f,eL m] (.tp [.sl ((dB f m 1).map eh), .sl ((dB f m (-1)).map eh)]):=by
 haveI:=h.lb;refine fn func201 J J ntmps201 J J (fun C=>?_);refine rf (fu:=⟨1⟩) J J<|ah 14 (.d (vI (2:Nat))) J J<|gx J<|Ia 6 0 60 207 14 J J J J J<|Ia 6 1 61 207 14 J J J J J<|lp (X:=Nat) (fun k=>[(15, .d (vI (k:Nat))),(6, .ov 6 0)]) (fun k=>[(6,some (.o 364 [.rw 60, .rw 61] true)),(60,some (.b 207 14 ((TV f m k).map eh) true)),(61,some (.b 207 14 ((V1 f m k).map eh) true))]) (fun k=>k<=2) (fun k=>2-k) 0 J pb (fun _=>J) (fun k hk=>?_);refine br J J J (fun hc16=>?_) (fun hc16=>?_)
 .
  rcases(show k=0\/k=1 by omega) with rfl|rfl
  .
   refine ix _ J J J<|cl (fu:=⟨0⟩) J (L5 (l:=f.l) (m:=m) (side:=1) h.ok hmo (.inl J)) J<|?_;obtain⟨cs,hcs⟩: ∃c,c=mA 2 [f.v] (gH f.l m 1):=⟨_,rfl⟩;have hcl:cs.length<=5:=by rw[hcs];have h1:=Iv 2 [f.v] (gH f.l m 1);have h2:=wG (l:=f.l) (m:=m) (side:=1);simp only[dS] at h1;omega
   refine ah 25 (.d (.tp [.sl ((gH f.l m 1).map eV),vB (jH f.l m)])) J J<|gx J<|bb J J J (fun hc28=>?_) (fun hc28=>?_)
   .
    have hon:jH f.l m=true:=hc28;exact rz J omY
   .
    have hon:jH f.l m=false:=by simpa using hc28
    refine rf J J<|cl (fu:=⟨0⟩) J (Jz (a:=[f.v]) (b:=gH f.l m 1) (fun v hv=>by rw[aW] at hv;subst hv;exact⟨h.lo,h.hi⟩) (MY h.lb hm h.ok) (by show 1<=100;decide) (by have:=wG (l:=f.l) (m:=m) (side:=1);omega)) J<|ah 33 (.d (.sl (cs.map eV))) J (by rw[hcs])<|gx (fu:=⟨1⟩) J<|ah 34 (.d (vI (cs.length:Nat))) J (by rw[fp eV cs]<;>rfl)<|gx J<|lp (X:=Nat) (fun j=>[(35, .d (vI (j:Nat)))]) (fun j=>[(60,some (.b 207 14 (((cs.take j).map fun v=>(⟨f.l,v⟩:bi)).map eh) true))]) (fun j=>j<=cs.length) (fun j=>cs.length-j) 0 J (aL _) (fun _=>J) (fun j hk=>?_);have hml:(((cs.take j).map fun v=>(⟨f.l,v⟩:bi)).map eh).length<=j:=by rw[aX,aX,bR];omega
    refine br J J J (fun hc36=>?_) (fun hc36=>?_)
    .
     obtain⟨z,hz⟩: ∃s,cs[j]? =some s:=⟨_,aQ pb⟩;refine ix _ J (bF hz) J<|l8 0 (e:=200) (len:=2) (s:=1) J we we v6 J<|rf J J<|ap (((cs.take (j+1)).map fun v=>(⟨f.l,v⟩:bi)).map eh) J (by rw[<-oI hz,bQ];rfl) (vP [⟨f.l,z⟩]) J<|l8 (hv:=by simp only[aj];exact⟨we,pb⟩) 0 (e:=200) (len:=2) (s:=1) J we we v6 J<|dq 48 60 J<|at_ (j+1) ⟨pb,pb⟩
    .
     obtain rfl:j=cs.length:=by omega
     rw[show(cs.take cs.length).map (fun v=>(⟨f.l,v⟩:bi))=dB f m 1 from by rw[cS];unfold dB;rw[if_neg (by rw[hon];decide),<-hcs]];exact at_ (0+1) ⟨pb,pb⟩
  .
   refine ix _ J J J<|cl (fu:=⟨0⟩) J (L5 (l:=f.l) (m:=m) (side:= -1) h.ok hmo (.inr J)) J<|?_;obtain⟨cs,hcs⟩: ∃c,c=mA 2 [f.v] (gH f.l m (-1)):=⟨_,rfl⟩;have hcl:cs.length<=5:=by rw[hcs];have h1:=Iv 2 [f.v] (gH f.l m (-1));have h2:=wG (l:=f.l) (m:=m) (side:=(-1));simp only[dS] at h1;omega
   refine ah 25 (.d (.tp [.sl ((gH f.l m (-1)).map eV),vB (jH f.l m)])) J J<|gx J<|bb J J J (fun hc28=>?_) (fun hc28=>?_)
   .
    have hon:jH f.l m=true:=hc28;exact rz J omY
   .
    have hon:jH f.l m=false:=by simpa using hc28
    refine rf J J<|cl (fu:=⟨0⟩) J (Jz (a:=[f.v]) (b:=gH f.l m (-1)) (fun v hv=>by rw[aW] at hv;subst hv;exact⟨h.lo,h.hi⟩) (MY h.lb hm h.ok) (by show 1<=100;decide) (by have:=wG (l:=f.l) (m:=m) (side:=(-1));omega)) J<|ah 33 (.d (.sl (cs.map eV))) J (by rw[hcs])<|gx (fu:=⟨1⟩) J<|ah 34 (.d (vI (cs.length:Nat))) J (by rw[fp eV cs]<;>rfl)<|gx J<|lp (X:=Nat) (fun j=>[(35, .d (vI (j:Nat)))]) (fun j=>[(61,some (.b 207 14 (((cs.take j).map fun v=>(⟨f.l,v⟩:bi)).map eh) true))]) (fun j=>j<=cs.length) (fun j=>cs.length-j) 0 J (aL _) (fun _=>J) (fun j hk=>?_);have hml:(((cs.take j).map fun v=>(⟨f.l,v⟩:bi)).map eh).length<=j:=by rw[aX,aX,bR];omega
    refine br J J J (fun hc36=>?_) (fun hc36=>?_)
    .
     obtain⟨z,hz⟩: ∃s,cs[j]? =some s:=⟨_,aQ pb⟩;refine ix _ J (bF hz) J<|l8 1 (e:=200) (len:=2) (s:=1) J we we v6 J<|rf J J<|ap (((cs.take (j+1)).map fun v=>(⟨f.l,v⟩:bi)).map eh) J (by rw[<-oI hz,bQ];rfl) (vP [⟨f.l,z⟩]) J<|l8 (hv:=by simp only[aj];exact⟨we,pb⟩) 1 (e:=200) (len:=2) (s:=1) J we we v6 J<|dq 48 61 J<|at_ (j+1) ⟨pb,pb⟩
    .
     obtain rfl:j=cs.length:=by omega
     rw[show(cs.take cs.length).map (fun v=>(⟨f.l,v⟩:bi))=dB f m (-1) from by rw[cS];unfold dB;rw[if_neg (by rw[hon];decide),<-hcs]];exact at_ (1+1) ⟨pb,pb⟩
 .
  obtain rfl:k=2:=by omega
  refine l8 0 (e:=200) (len:=2) (s:=1) J we we v6 J<|l8 1 (e:=200) (len:=2) (s:=1) J we we v6 J<|fD 60 J<|fD 61 J<|rz J omY
def gm(p:ZP):DV:=eP p.q
def kP(r:List ZP):DV:= .sl (r.map gm)
def DR(l:List ZP):cd 6 (l.map gm):=fun d hd=>by
 obtain⟨u,_,rfl⟩:=aN.1 hd;exact⟨rfl,rfl⟩
def O6(l:List (List ZP)):cd 1 (l.map kP):=fun d hd=>by
 obtain⟨u,_,rfl⟩:=aN.1 hd;exact⟨rfl,rfl⟩
def QL:Int.tmod (((k:Nat):Int)+1) ((n:Nat):Int)=(((k+1)%n:Nat):Int):=rfl
def Gm(h:i<r.length):(r.map gm)[((i:Nat):Int).toNat]? =some (gm (r.getD i (0,0))):=by
 rw[dQ,cY,aJ,aQ h];rfl
def I9(h:i<r.length):(r.map gm)[(((i+1)%r.length:Nat):Int).toNat]? =some (gm (f5 r i)):=Gm (cR _ pb)
def WD(v w p:ab):(oz v w p).natAbs<=1:=by
 unfold oz;split<;>split<;>decide
def AK(r:List ZP)(p:ab): ∀k,(mm r p k).natAbs<=k
 |0=>bZ _
 |k+1=>by rw[mm];have:=AK r p k;have:=WD (r.getD k (0,0)).q (f5 r k).q p;omega
def K3(h:dl r):PF GB prog 118 [.sl (r.map gm)] (.sl ((jg r).map eh)):=by
 have hm:=fp gm r;have h3:=h.n3;have h6:=h.n6;refine fn (fu:=⟨15⟩) func118 J J ntmps118 J J (fun C=>?_);refine ah 8 (.d (vI (r.length:Nat))) J omr<|gx J<|nr 3 3 207 14 J J J<|lp (X:=Nat) (fun k=>[(9, .d (vI (k:Nat))),(3, .rw 3)]) (fun k=>[(3,some (.b 207 14 ((o4 r k).map eh) true))]) (fun k=>k<=r.length) (fun k=>r.length-k) 0 J (aL _) (fun _=>J) (fun k hk=>?_);have hel:=fun hh=>(ET (k:=k) h hh).1;refine br J J J (fun hc10=>?_) (fun hc10=>?_)
 .
  have hkr:k<r.length:=by omega
  have hel:=hel pb;have hem:=fp eh (o4 r k);refine ix (fu:=⟨7⟩) _ J (Gm hkr) J<|ah 22 (.d (vI ((k+1)%r.length:Nat))) J omr<|gx J<|ix _ J (I9 hkr) J<|cl J (ase (v:=r.getD k (0,0)) (w:=f5 r k) (h.le _ (wz hkr)) (h.le _ (AY hkr)) (h.ne k hkr)) J<|rf J J<|ap ((o4 r (k+1)).map eh) J (by rw[o4,bQ];rfl) (vP [jx (r.getD k (0,0)) (f5 r k)]) J<|dq 31 3 J<|at_ (k+1) ⟨pb,pb⟩
 .
  obtain rfl:k=r.length:=by omega
  refine fD 3 J<|rz J J
theorem oml{p:Prop}(h:p:=by dsimp only;exact⟨⟨by rw[mm,<-h1,<-hv,<-hw];unfold oz;split<;>split<;>omega,pb⟩,pb⟩):p:=h
def Yx[hp:aE p i](h:dl r)(hi:i<=80000:=by decide):PF GB prog 257 [.sl (r.map gm),eP p] (vI (i0 r p)):=by
 have hm:=fp gm r;have h3:=h.n3;have h6:=h.n6;refine fn (fu:=⟨16⟩) func257 J J ntmps257 J J (fun C=>?_);refine ah 12 (.d (vI (r.length:Nat))) J omr<|gx J<|lp (X:=Nat×Int) (fun⟨k,c⟩=>[(13, .d (vI (k:Nat))),(5, .d (vI c))]) (fun⟨k,c⟩=>[]) (fun⟨k,c⟩=>c=mm r p k/\k<=r.length) (fun⟨k,c⟩=>r.length-k) (0,0) J ⟨J,aL _⟩ (fun _=>J) (fun⟨k,c⟩ hk=>?_);dsimp only at hk⊢;obtain⟨h1,h2⟩:=hk;have hcl:c.natAbs<=k:=by rw[h1];exact AK r p k
 refine br J J J (fun hc14=>?_) (fun hc14=>?_)
 .
  have hkr:k<r.length:=by omega
  obtain⟨v,hv⟩: ∃v,v=r.getD k (0,0):=⟨_,rfl⟩;obtain⟨w,hw⟩: ∃v,v=f5 r k:=⟨_,rfl⟩;haveI hvb:aE v.q 12:=by rw[hv];exact zh (h.le _ (wz hkr))
  haveI hwb:aE w.q 12:=by rw[hw];exact zh (h.le _ (AY hkr))
  refine ix (fu:=⟨1⟩) _ J (Gm hkr) J<|ah 19 (.d (eP v.q)) J (by rw[hv];rfl)<|gx (fu:=⟨6⟩) J<|ah 25 (.d (vI ((k+1)%r.length:Nat))) J omr<|gx J<|ix (fu:=⟨1⟩) _ J (I9 hkr) J<|ah 27 (.d (eP w.q)) J (by rw[hw];rfl)<|gx J<|cl J (kz (a:=v.q.y) (b:=p.y) (i:=12) (j:=i) v6 pb) J<|cl (fu:=⟨9⟩) J (kz (a:=w.q.y) (b:=p.y) (i:=12) (j:=i) v6 pb) J<|?_;rcases(show(bm v.q.y p.y<=0/\bm w.q.y p.y<=0)\/(bm v.q.y p.y<=0/\ ¬bm w.q.y p.y<=0)\/(¬bm v.q.y p.y<=0/\bm w.q.y p.y<=0)\/(¬bm v.q.y p.y<=0/\ ¬bm w.q.y p.y<=0) by omega) with⟨ca,cb⟩|⟨ca,cb⟩|⟨ca,cb⟩|⟨ca,cb⟩
  .
   refine cj (fu:=⟨3⟩) J (omc pb) J<|bG (fu:=⟨15⟩) J (omd pb) J<|bG (fu:=⟨20⟩) J (omd pb) J<|at_ (k+1,c) oml
  .
   refine cj (fu:=⟨3⟩) J (omc pb) J<|cj J (omc pb) J<|cl J (r5 (a:=v.q) (b:=w.q) (c:=p) (i:=12) (j:=12) (k:=i) v6 v6 hi) J<|br (fu1:=⟨10⟩) (fu2:=⟨6⟩) J J J (fun hc51=>?_) (fun hc51=>?_)
   .
    refine bG J (omd pb) J<|at_ (k+1,c+1) oml
   .
    refine bG (fu:=⟨20⟩) J (omd pb) J<|at_ (k+1,c) oml
  .
   refine bG (fu:=⟨19⟩) J (omd pb) J<|cj (fu:=⟨2⟩) J (omc pb) J<|cj J (omc pb) J<|cl J (r5 (a:=v.q) (b:=w.q) (c:=p) (i:=12) (j:=12) (k:=i) v6 v6 hi) J<|br (fu2:=⟨8⟩) J J J (fun hc65=>?_) (fun hc65=>?_)
   .
    exact at_ (k+1,c-1) oml
   .
    exact at_ (k+1,c) oml
  .
   refine bG (fu:=⟨19⟩) J (omd pb) J<|cj (fu:=⟨2⟩) J (omc pb) J<|bG J (omd pb) J<|at_ (k+1,c) oml
 .
  obtain rfl:k=r.length:=by omega
  have hfin:i0 r p=c:=h1.symm;exact rz J omX
theorem omB{p:Prop}(h:p:=by show vB _=vB _;unfold qq;congr 1;simp_all):p:=h
def XV{n:Int}(hn:n.natAbs<=1000):PF GB prog 258 [vI fill,vI n] (vB (qq fill n)):=by
 refine fn func258 J J ntmps258 J J (fun C=>?_);refine cs 7 J J J (fun hg7=>?_) (fun hg7=>?_)
 .
  refine cs 12 J J J (fun hg12=>?_) (fun hg12=>?_)
  .
   exact rz J omB
  .
   refine cs 15 J J J (fun hg15=>?_) (fun hg15=>?_)
   .
    exact rz J omB
   .
    exact rz J omB
 .
  refine cs 15 J J J (fun hg15=>?_) (fun hg15=>?_)
  .
   exact rz J omB
  .
   exact rz J omB
def HM(rs:List (List ZP)):List aa:=(gr rs).map bi.l
def ut(rs:List (List ZP))(fill:Int):DV:= .ag [.sl (rs.map kP), .v (.int .i64 fill), .sl ((HD (HM rs)).map eL)]
def UF(h: ∀r∈rs,dl r)(k:Nat):((rs.take k).foldl (fun n r=>n+i0 r p) 0).natAbs<=6*k:=by
 induction k with
 |zero=>rw[tQ];exact aL _
 |succ k ih=>
  rw[eM,rX]
  cases e:rs[k]? with
  |none=>exact cJ ih pb
  |some r=>
   have h1:(i0 r p).natAbs<=r.length:=AK r p r.length;have h2:=(h r (aV e)).n6;show(List.foldl _ 0 (rs.take k)+i0 r p).natAbs<=_;omega
def Yr[hp:aE p i](h: ∀r∈rs,dl r)(hn:rs.length<=100)(hi:i<=80000:=by decide):PF GB prog 200 [ut rs fill,eP p] (vB (jA rs fill p)):=by
 have hm:=fp kP rs;refine fn (fu:=⟨18⟩) func200 J J ntmps200 J J (fun C=>?_);refine ah 10 (.d (vI (rs.length:Nat))) J omr<|gx J<|lp (X:=Nat×Int) (fun⟨k,c⟩=>[(11, .d (vI (k:Nat))),(5, .d (vI c))]) (fun⟨k,c⟩=>[]) (fun⟨k,c⟩=>c=(rs.take k).foldl (fun n r=>n+i0 r p) 0/\k<=rs.length) (fun⟨k,c⟩=>rs.length-k) (0,0) J ⟨by rw[tQ];rfl,aL _⟩ (fun _=>J) (fun⟨k,c⟩ hk=>?_);dsimp only at hk⊢;obtain⟨h1,h2⟩:=hk;have hcl:c.natAbs<=6*k:=by rw[h1];exact UF h k
 refine br J J J (fun hc12=>?_) (fun hc12=>?_)
 .
  obtain⟨r,hz⟩: ∃s,rs[k]? =some s:=⟨_,aQ pb⟩;have hr:=h r (aV hz);have hnz:(i0 r p).natAbs<=6:=cJ (AK r p r.length) hr.n6;refine ix _ J (bF hz) J<|cl J (Yx (r:=r) (p:=p) hr hi) J<|at_ (k+1,c+i0 r p) (by dsimp only;exact⟨⟨by rw[eM,hz,rX,<-h1];rfl,pb⟩,pb⟩)
 .
  obtain rfl:k=rs.length:=by omega
  rw[cS] at h1;refine cl J (XV (fill:=fill) (n:=c) pb) J<|rz J (by unfold jA;rw[<-h1];rfl)
def tw(r:List ZP):DV:= .sl ((r.map ZP.q).map fe)
def VT(l:List (List ZP)):cd 1 (l.map tw):=fun d hd=>by
 obtain⟨u,_,rfl⟩:=aN.1 hd;exact⟨rfl,rfl⟩
theorem Fb(h: ∀p∈r,ZP.le 100 p): ∀p∈r.map ZP.q,aE p 1200:=fun p hp=>by
 obtain⟨z,hz,rfl⟩:=aN.1 hp;have:=zh (h z hz);exact⟨BQ.mono this.x,BQ.mono this.y⟩
def Jf(r:List ZP):DV.sl ((r.map ZP.q).map eP)=kP r:=by unfold kP;rw[sN];rfl
def NZ(h:rs[k]? =some r):gr (rs.take (k+1))=gr (rs.take k)++jg r:=by
 unfold gr;rw[eM,h,nR];simp
def Nm(h: ∀r∈rs,dl r)(k:Nat):(gr (rs.take k)).length<=6*k:=by
 have:=(qA (rs:=rs.take k) (fun r hr=>h r (dW hr))).1;have h2:(rs.take k).length<=k:=by rw[bR];omega
 omega
def L2(h: ∀r∈rs,dl r)(hn:rs.length<=100):PF GB prog 50 [.sl (rs.map tw), .v (.int .i64 fill)] (ut rs fill):=by
 have hm:=fp tw rs;refine fn (fu:=⟨8⟩) func50 J J ntmps50 J J (fun C=>?_);refine Yz (fu:=⟨14⟩) 44 1 0 [] [.v (.int .i64 fill), .sl []] J J J J J<|ah 15 (.d (vI (rs.length:Nat))) J omr<|gx J<|nr 6 6 136 6 J J J<|lp (X:=Nat) (fun k=>[(16, .d (vI (k:Nat))),(6, .rw 6),(5, .ov 5 0)]) (fun k=>[(5,some (.o 115 [.rw 13, .d (.v (.int .i64 fill)), .d (.sl [])] true)),(13,some (.b 44 1 ((rs.take k).map kP) true)),(6,some (.b 136 6 (((gr (rs.take k)).map bi.l).map eL) true))]) (fun k=>k<=rs.length) (fun k=>rs.length-k) 0 J (aL _) (fun _=>J) (fun k hk=>?_);refine br (fu2:=⟨0⟩) J J J (fun hc17=>?_) (fun hc17=>?_)
 .
  obtain⟨r,hz⟩: ∃s,rs[k]? =some s:=⟨_,aQ pb⟩;have hr:=h r (aV hz);have hel:(jg r).length<=6:=by have:=(Ce hr).1;have:=hr.n6;omega
  have het:=Nm h k;have hrl:((rs.take k).map kP).length=k:=by rw[aX,bR];omega
  refine ix _ J (bF hz) J<|cl (fu:=⟨0⟩) J (SK (ps:=r.map ZP.q) (Fb hr.le) (by rw[aX];have:=hr.n6;omega)) J<|ah 21 (.d (kP r)) J (by rw[Jf])<|gx J<|rf J J<|ap ((rs.take (k+1)).map kP) J (oI hz) (O6 [r]) J<|cl (fu:=⟨1⟩) J (K3 (r:=r) hr) J<|ah 30 (.d (vI ((jg r).length:Nat))) J (by rw[fp eh (jg r)]<;>rfl)<|gx J<|?_;rw[<-oW (gr (rs.take k)),<-tQ (l:=jg r)];refine lp (X:=Nat) (fun j=>[(31, .d (vI (j:Nat))),(6, .rw 6)]) (fun j=>[(6,some (.b 136 6 (((gr (rs.take k)++(jg r).take j).map bi.l).map eL) true))]) (fun j=>j<=(jg r).length) (fun j=>(jg r).length-j) 0 J (aL _) (fun _=>J) (fun j hk=>?_);have hml:(((gr (rs.take k)++(jg r).take j).map bi.l).map eL).length<=6*k+6:=by rw[aX,aX,aU,bR];omega
  refine br J J J (fun hc32=>?_) (fun hc32=>?_)
  .
   obtain⟨e,he⟩: ∃s,(jg r)[j]? =some s:=⟨_,aQ pb⟩;refine ix _ J (bF he) J<|rf J J<|ap (((gr (rs.take k)++(jg r).take (j+1)).map bi.l).map eL) J (by rw[eM,he];simp only[bQ,fK];rfl) (e8 [e.l]) J<|dq 39 6 J<|at_ (j+1) ⟨pb,pb⟩
  .
   obtain rfl:j=(jg r).length:=by omega
   rw[cS,<-NZ hz];refine dq 26 13 J<|at_ (k+1) ⟨pb,pb⟩
 .
  obtain rfl:k=rs.length:=by omega
  rw[cS];refine lm 6 rfl<|lm 13 rfl<|gx rfl<|cl rfl (Uc (ls:=HM rs) (fun l hl=>by obtain⟨f,hf,rfl⟩:=aN.1 hl;exact((qA h).2 f hf).lb) (by unfold HM;rw[aX];have:=(qA h).1;omega)) rfl<|rz J J
def PO(h: ∀r∈rs,dl r)(hn:rs.length<=100):PF GB prog 10 [.sl (rs.map kP)] (.sl (rs.map tw)):=by
 have hm:=fp kP rs;refine fn (fu:=⟨15⟩) func10 J J ntmps10 J J (fun C=>?_);refine ah 7 (.d (vI (rs.length:Nat))) J omr<|gx J<|nr 3 3 45 1 J J J<|lp (X:=Nat) (fun k=>[(8, .d (vI (k:Nat))),(3, .rw 3)]) (fun k=>[(3,some (.b 45 1 ((rs.take k).map tw) true))]) (fun k=>k<=rs.length) (fun k=>rs.length-k) 0 J (aL _) (fun _=>J) (fun k hk=>?_);have hml:((rs.take k).map tw).length<=k:=by rw[aX,bR];omega
 refine br J J J (fun hc9=>?_) (fun hc9=>?_)
 .
  obtain⟨r,hz⟩: ∃s,rs[k]? =some s:=⟨_,aQ pb⟩;have hr:=h r (aV hz);refine ix (fu:=⟨1⟩) _ J (bF hz) J<|ah 11 (.d (.sl ((r.map ZP.q).map eP))) J (by rw[Jf])<|gx J<|cl J (w5 (ps:=r.map ZP.q) (Fb hr.le) (by rw[aX];have:=hr.n6;omega)) J<|rf J J<|ap ((rs.take (k+1)).map tw) J (oI hz) (VT [r]) J<|dq 16 3 J<|at_ (k+1) ⟨pb,pb⟩
 .
  obtain rfl:k=rs.length:=by omega
  refine fD 3 J<|rz J (by rw[cS];rfl)
def Qm(out:List aa)(l:aa):(ng out l).length<=out.length+1:=by
 unfold ng;split
 .omega
 .simp;omega
def Pr(c:List aa): ∀(t out:List aa),(mf c t out).length<=out.length+t.length
 |[],out=>by simp[mf]
 |l::t,out=>by
  rw[mf];refine cJ (Pr c t _) ?_;have:=Qm out l;split<;>simp<;>omega
def zi(c:List aa):(c7 c).length<=c.length:=cJ (Pr c c []) v8
theorem Az(h: ∀m∈c,LB m): ∀m∈c7 c,LB m:=fun m hm=>h m (lF.1 hm).1
def CO(h: ∀m∈c,m.ok): ∀m∈c7 c,m.ok:=fun m hm=>h m (lF.1 hm).1
def CW(hc: ∀m∈c,LB m)(hok: ∀m∈c,m.ok)(hn:c.length<=900)(hl:LB l)(hlo:l.ok):PF GB prog 95 [.sl (c.map eL),eL l] (.sl ((c7 (c++[l])).map eL)):=by
 have hcl:=tD c;refine fn func95 J J ntmps95 J J (fun C=>?_);refine nD J J<|ap (c.map eL) J J (e8 _) J<|rf J J<|jo ((c++[l]).map eL) J omO (e8 [l]) J<|cl J (FP (c:=c++[l]) (qG hc hl) (gu hok hlo) omk) J<|rz J J
def V4{x:Tr}:PF GB prog 94 [eL l,eT (.node l1 x y),eT u] (eT (.node l (.node l1 x y) u)):=by
 refine fn (fu:=⟨12⟩) func94 J J ntmps94 J J (fun C=>?_);refine bG J J J<|fD 33 J<|rz J J
def YC{x:Tr}{p:Bool}:PF GB prog 94 [eL l,eT (.leaf p),eT (.node l1 x y)] (eT (.node l (.leaf p) (.node l1 x y))):=by
 refine fn (fu:=⟨12⟩) func94 J J ntmps94 J J (fun C=>?_);refine cj (fu:=⟨4⟩) J J J<|bG J J J<|fD 33 J<|rz J J
def atj{p:Bool}:PF GB prog 94 [eL l,eT (.leaf p),eT (.leaf q)] (eT (Tr.joinQ l (.leaf p) (.leaf q))):=by
 refine fn (fu:=⟨12⟩) func94 J J ntmps94 J J (fun C=>?_);refine cj (fu:=⟨4⟩) J J J<|cj J J J<|bd J J J (fun hc27=>?_) (fun hc27=>?_)
 .
  exact rz J (by rw[show Tr.joinQ l (.leaf p) (.leaf q)= .leaf p by simp[Tr.joinQ,Tr.isLeaf,Tr.code,hc27]];rfl)
 .
  refine fD 33 J<|rz J (by rw[show Tr.joinQ l (.leaf p) (.leaf q)= .node l (.leaf p) (.leaf q) by simp[Tr.joinQ,Tr.isLeaf,Tr.code,hc27]];rfl)
def Jt: ∀{x y:Tr},PF GB prog 94 [eL l,eT x,eT y] (eT (Tr.joinQ l x y))
 | .leaf _, .leaf _=>atj
 | .leaf _, .node .. =>YC
 | .node ..,_=>V4
def Rg:PF GB prog 90 [eT (.leaf b), .sl (c.map eL)] (eT (Tr.restrictL (.leaf b) c)):=by
 refine fn (fu:=⟨11⟩) func90 J J ntmps90 J J (fun C=>?_);refine cj J J J<|rz J J
def Zk{x:Tr}(hl:LB l)(hlo:l.ok)(hc: ∀m∈c,LB m)(hok: ∀m∈c,m.ok)(hn:c.length+(Tr.node l x y).depth<=900)(ihx: ∀{c:List aa},(∀m∈c,LB m)->(∀m∈c,m.ok)->c.length+x.depth<=900->PF GB prog 90 [eT x, .sl (c.map eL)] (eT (Tr.restrictL x c)))(ihy: ∀{c:List aa},(∀m∈c,LB m)->(∀m∈c,m.ok)->c.length+y.depth<=900->PF GB prog 90 [eT y, .sl (c.map eL)] (eT (Tr.restrictL y c))):PF GB prog 90 [eT (.node l x y), .sl (c.map eL)] (eT (Tr.restrictL (.node l x y) c)):=by
 have hdp:(Tr.node l x y).depth=1+Nat.max x.depth y.depth:=J;have hdx:x.depth<=Nat.max x.depth y.depth:=qV _ _;have hdy:y.depth<=Nat.max x.depth y.depth:=pW _ _;have hca:=zi (c++[l]);have hcb:=zi (c++[l.rev]);rw[aU,dS] at hca hcb;refine fn (fu:=⟨11⟩) func90 J J ntmps90 J J (fun C=>?_);refine bG J J J<|cl J (Lp (c:=c) (l:=l) hc hok pb hl hlo) J<|br J J J (fun hc16=>?_) (fun hc16=>?_)
 .
  refine cl J (ihx hc hok pb) J<|rz J (by rw[Tr.restrictL,if_pos hc16];rfl)
 .
  refine br J J J (fun hc24=>?_) (fun hc24=>?_)
  .
   refine cl J (ihy hc hok pb) J<|rz J (by rw[Tr.restrictL,if_neg hc16,if_pos hc24];rfl)
  .
   refine cl J (CW (c:=c) (l:=l) hc hok pb hl hlo) J<|cl J (ihx (c:=c7 (c++[l])) (Az (qG hc hl)) (CO (gu hok hlo)) pb) J<|cl J (uD (l:=l)) J<|cl J (CW (c:=c) (l:=l.rev) hc hok pb hl.rev hlo.rev) J<|cl J (ihy (c:=c7 (c++[l.rev])) (Az (qG hc hl.rev)) (CO (gu hok hlo.rev)) pb) J<|cl J Jt J<|rz J (by rw[Tr.restrictL,if_neg hc16,if_neg hc24];rfl)
def Cj: ∀{t:Tr} {c:List aa},t.all LB->t.all aa.ok->(∀m∈c,LB m)->(∀m∈c,m.ok)->c.length+t.depth<=900->PF GB prog 90 [eT t, .sl (c.map eL)] (eT (Tr.restrictL t c))
 | .leaf _,_,_,_,_,_,_=>Rg
 | .node l x y,c,hb,ho,hc,hok,hn=>Zk hb.1 ho.1 hc hok hn (fun h1 h2 h3=>Cj hb.2.1 ho.2.1 h1 h2 h3) (fun h1 h2 h3=>Cj hb.2.2 ho.2.2 h1 h2 h3)

def KW(xs ys:List NQ)(n:NQ):((xs++(n::ys)).map eN)[((xs.length:Nat):Int).toNat]? =some (eN n):=by simp
def NC(xs ys:List NQ)(n m:NQ)(e:DV)(h:e=eN m):((xs++(n::ys)).map eN).set ((xs.length:Nat):Int).toNat e=(xs++(m::ys)).map eN:=by subst h;simp
def Zn:PB GB prog 67 (fh [some (eT (.leaf true)),none]) 8 233 (ns.map eN) (fun w=> .tp ([]++ .v (.slice w.a w.n w.c)::[.v (.int .i64 (Tr.num (.leaf true) ns.length))])) ((ns++Tr.wr (.leaf true) ns.length).map eN):=by
 refine GN (fu:=⟨12⟩) func67 J J ntmps67 J J (fun C=>?_);refine cj (fu:=⟨9⟩) J J J<|cj J J J<|?_;exact Ex J J J J J (by simp[Tr.wr]) J
def XS:PB GB prog 67 (fh [some (eT (.leaf false)),none]) 8 233 (ns.map eN) (fun w=> .tp ([]++ .v (.slice w.a w.n w.c)::[.v (.int .i64 (Tr.num (.leaf false) ns.length))])) ((ns++Tr.wr (.leaf false) ns.length).map eN):=by
 refine GN (fu:=⟨12⟩) func67 J J ntmps67 J J (fun C=>?_);refine cj (fu:=⟨9⟩) J J J<|bG J J J<|?_;exact Ex J J J J J (by simp[Tr.wr]) J
def UB{l:aa}{s u:Tr}{ns:List NQ}(hl:BL l 96)(hs:ns.length+(1+s.size+u.size)<=1000000)(ihs: ∀{ns:List NQ},ns.length+s.size<=1000000->PB GB prog 67 (fh [some (eT s),none]) 8 233 (ns.map eN) (fun w=> .tp ([]++ .v (.slice w.a w.n w.c)::[.v (.int .i64 (Tr.num s ns.length))])) ((ns++Tr.wr s ns.length).map eN))(ihu: ∀{ns:List NQ},ns.length+u.size<=1000000->PB GB prog 67 (fh [some (eT u),none]) 8 233 (ns.map eN) (fun w=> .tp ([]++ .v (.slice w.a w.n w.c)::[.v (.int .i64 (Tr.num u ns.length))])) ((ns++Tr.wr u ns.length).map eN)):PB GB prog 67 (fh [some (eT (.node l s u)),none]) 8 233 (ns.map eN) (fun w=> .tp ([]++ .v (.slice w.a w.n w.c)::[.v (.int .i64 (Tr.num (.node l s u) ns.length))])) ((ns++Tr.wr (.node l s u) ns.length).map eN):=by
 refine GN (fu:=⟨12⟩) func67 J J ntmps67 J J (fun C=>?_);refine bG (fu:=⟨9⟩) J J J<|ah 20 (.d (.v (.int .i64 (ns.length:Nat)))) J v8<|gx J<|cl J (Yt hl) J<|rf J J<|I' ((ns++[(⟨l,0,0⟩:NQ)]).map eN) J omQ (TM [(⟨l,0,0⟩:NQ)]) J<|cb _ J (ihs (ns:=ns++[(⟨l,0,0⟩:NQ)]) omk) J J<|cb (hv:=by simp only[aj];exact omk) ((ns++((⟨l,0,0⟩:NQ)::(s.wr (ns.length+1)++u.wr (ns.length+1+s.size)))).map eN) J (ihu (ns:=ns++[(⟨l,0,0⟩:NQ)]++s.wr (ns++[(⟨l,0,0⟩:NQ)]).length) (by simp[Tr.wr_len];omega)) (by simp[Tr.wr_len,kX,jW 1]) J<|sb (hv:=by simp only[aj];exact omk) (eN ⟨l,0,0⟩) ((ns++((⟨l,s.num (ns.length+1),0⟩:NQ)::(s.wr (ns.length+1)++u.wr (ns.length+1+s.size)))).map eN) J (KW ns _ ⟨l,0,0⟩) J (by rw[NC _ _ _ ⟨l,s.num (ns.length+1),0⟩ _ (by simp[eN,DV.cells])]) J<|sb (eN ⟨l,s.num (ns.length+1),0⟩) ((ns++Tr.wr (.node l s u) ns.length).map eN) J (KW ns _ ⟨l,s.num (ns.length+1),0⟩) J (by rw[NC _ _ _ ⟨l,s.num (ns.length+1),u.num (ns.length+1+s.size)⟩ _ (by simp[eN,DV.cells,Tr.wr_len,kX,jW 1])];simp[Tr.wr]) J<|?_;exact Ex J J J J J J J
def E4: ∀{t:Tr} {ns:List NQ},t.all (fun l=>BL l 96)->ns.length+t.size<=1000000->PB GB prog 67 (fh [some (eT t),none]) 8 233 (ns.map eN) (fun w=> .tp ([]++ .v (.slice w.a w.n w.c)::[.v (.int .i64 (Tr.num t ns.length))])) ((ns++Tr.wr t ns.length).map eN)
 | .leaf true,ns,_,_=>Zn
 | .leaf false,ns,_,_=>XS
 | .node l s u,ns,hb,hs=>UB hb.1 hs (fun h=>E4 hb.2.1 h) (fun h=>E4 hb.2.2 h)
def Z2(hb:t.all (fun l=>BL l 96))(hs:t.size<=1000000):PF GB prog 23 [eT t] (eA t):=by
 refine fn func23 J J ntmps23 J J (fun C=>?_);refine Vx _ J (E4 (t:=t) (ns:=[]) hb (by simpa using hs)) J J<|fD 6 J<|rz J J
def Rr(ds:List Int):cd 1 (ds.map vI):=fun d hd=>by
 obtain⟨n,_,rfl⟩:=aN.1 hd;exact⟨rfl,rfl⟩
def Uo(es:List Int):(es.map vI).take (min es.length 400)=(es.take 400).map vI:=by
 rw[gT];rcases Nat.le_total es.length 400 with h|h
 .rw[iN h,bK v8,bK omu]
 .rw[Nat.min_eq_right h]
def QO(hb:es.length<=1125899906842624):PN GB prog 6 [.sl (es.map vI)] 85 Unit (fun _=>[.sl ((es.take 400).map vI), .v (.int .i64 (0:Nat))]):=by
 have hel:(es.map vI).length=es.length:=by simp
 refine Sd func6 J J ntmps6 J J (fun C hmb=>?_);refine js 0 (min es.length 400) ((es.take 400).map vI) J J (by rw[hel];show(if _ then _ else _:Int)=_;split<;>omega) (Uo es) (Rr _) pb pb J<|?_;exact YV () J J J J J
def KZ(hb:t.all LB)(hok:t.all aa.ok)(hd:t.depth<=900):PF GB prog 35 [eT t] (eT (t.restrict [])):=by
 refine fn func35 J J ntmps35 J J (fun C=>?_);refine cl J (Cj (t:=t) (c:=[]) hb hok v8 v8 (by simpa using hd)) J<|rz J (by rw[<-Tr.restrictL_eq t [] [] hok v8 bO.nil (fun p=>by unfold bw cw;simp)];rfl)
def IY{cuts:List Rat}{marks:List Bool}: ∀k,2*(eH cuts marks k).length<=k+(if 0<k/\marks.getD (k-1) false=true then 1 else 0)
 |0=>by rw[eH];simp
 |k+1=>by
  have ih:=IY (cuts:=cuts) (marks:=marks) k;rw[eH];simp only[lJ];by_cases hm:marks.getD k false=true
  .rw[if_pos hm,if_pos (show 0<k+1/\marks.getD k false=true from⟨pb,hm⟩)]
   by_cases hp:0<k/\marks.getD (k-1) false=true
   .rw[if_pos hp] at ih⊢
    cases hv:(eH cuts marks k).getLast? with
    |some v=>
     have:0<(eH cuts marks k).length:=by
      cases e:eH cuts marks k with
      |nil=>rw[e] at hv;simp at hv
      |cons a t=>simp
     show 2*((eH cuts marks k).dropLast++[_]).length<=_;rw[aU,gL,dS];omega
    |none=>
     have:eH cuts marks k=[]:=List.getLast?_eq_none_iff.1 hv;simp only[this];simp
   .rw[if_neg hp] at ih⊢
    rw[aU,dS];omega
  .rw[if_neg hm]
   split at ih<;>split<;>omega
def RB(op:Int)(a b:List ak):(mA op a b).length<=a.length+b.length+1:=by
 unfold mA si;have h:=IY (cuts:=f9 (a++b)) (marks:=(fg (f9 (a++b))).map fun t=>lA op (fi a t) (fi b t)) ((fg (f9 (a++b))).map fun t=>lA op (fi a t) (fi b t)).length;have h2:=DU (a++b);rw[aU] at h2;have h3:((fg (f9 (a++b))).map fun t=>lA op (fi a t) (fi b t)).length=(f9 (a++b)).length+1:=by rw[aX,xq]
 split at h<;>omega
def DG(f:bi)(m:aa)(side:Int):(dB f m side).length<=3:=by
 unfold dB;split
 .simp
 .rw[aX]
  have:=RB 2 [f.v] (gH f.l m side);have h2:=wG (l:=f.l) (m:=m) (side:=side);rw[dS] at this;omega
theorem ZO{s:Rat}[hp:aE p 4500][hv:aE v 97][hm:LB m](hs:BQ s 60000):BQ (ml p v m s) 60000:=by
 unfold ml qI;split
 .exact hs
 .split
  .exact hs
  .split
   .split
    .haveI:BQ (-(m.value p/(m.value (ce p v ((1:Int):Rat))-m.value p))) 45000:=BQ.mono inferInstance
     exact BQ.mono (inferInstance:BQ (-(m.value p/(m.value (ce p v ((1:Int):Rat))-m.value p))/2) _)
    .exact hs
   .exact hs
theorem LL{p v:ab}[hp:aE p 4500][hv:aE v 97]: ∀{c:List aa} {s:Rat},(∀m∈c,LB m)->BQ s 60000->BQ (kH p v c s) 60000
 |[],_,_,hs=>hs
 |m::t,s,hc,hs=>by
  haveI:=hc m aZ;exact LL (c:=t) (fun q hq=>hc q (aK _ hq)) (ZO hs)
theorem Ku{c:List aa}(hc: ∀m∈c,LB m)(hok: ∀m∈c,m.ok): ∀{t:List aa},(∀m∈t,m∈c)->aE (gI c t) 70000
 |[],_=>by
  have h0:BQ (0:Rat) 70000:=BQ.mono (k:=1) ⟨v6,v6⟩;exact⟨h0,h0⟩
 |m::t,h=>by
  have hm:=h m aZ;haveI:=hc m hm;rw[gI];split
  .have hbd:=z8 (v:=ak.all) (hok m hm).ne hc gg.all (BQ.mono (k:=1) ⟨v6,v6⟩) (BQ.mono (k:=1) ⟨v6,v6⟩)
   haveI:=hbd.1;haveI:=hbd.2;haveI hsb:=Oz (v:=(eB m c ak.all).1) (i:=1200);haveI hpt:aE (m.at (iH (eB m c ak.all).1)) 4500:=by have:=aE.at m (iH (eB m c ak.all).1) (1200+1200+5);exact⟨this.x.mono v6,this.y.mono v6⟩
   haveI hvt:aE (oO m.dir) 97:=inferInstance;haveI hns:BQ (kH (m.at (iH (eB m c ak.all).1)) (oO m.dir) c ((1:Int):Rat)) 60000:=LL hc (BQ.mono (k:=2) ⟨v6,v6⟩);have:=aE.mov (m.at (iH (eB m c ak.all).1)) (oO m.dir) (kH (m.at (iH (eB m c ak.all).1)) (oO m.dir) c ((1:Int):Rat)) 4500 97 60000;exact⟨this.x.mono v6,this.y.mono v6⟩
  .exact Ku hc hok (fun q hq=>h q (aK _ hq))
def IQ{l:List bi}(h:l[k]? =some g):(l.take (k+1)).flatMap (fun g=>dB g m side)=(l.take k).flatMap (fun g=>dB g m side)++dB g m side:=by
 rw[eM,h,nR];simp
def B5(l:List bi)(m:aa)(side:Int):(l.flatMap fun g=>dB g m side).length<=3*l.length:=by
 induction l with
 |nil=>simp
 |cons a t ih=>rw[nJ,aU,bY];have:=DG a m side;omega
def Rh{acc:ab->Bool}:ij acc n [] c= .leaf (acc (gI c c)):=by cases n<;>rfl
def UI(hrs: ∀r∈rs,dl r)(hrn:rs.length<=100)(hc: ∀m∈c,LB m)(hok: ∀m∈c,m.ok)(hn:c.length<=900):PF GB prog 119 [ut rs fill, .sl [], .sl (c.map eL)] (eT (ij (jA rs fill) n [] c)):=by
 haveI hpb:=Ku hc hok (t:=c) (fun _ h=>h);refine fn (fu:=⟨11⟩) func119 J J ntmps119 J J (fun C=>?_);refine cj J J J<|cl J (EL (c:=c) hc hok pb) J<|cl J (Yr (p:=gI c c) (i:=70000) hrs hrn v6) J<|cl J (uc (p:=jA rs fill (gI c c))) J<|rz J (by rw[Rh];rfl)
theorem ozk{p:Prop}(h:p:=by rw[aU,dS];omega):p:=h
def Qy{rs:List (List ZP)}{fill:Int}(hrs: ∀r∈rs,dl r)(hrn:rs.length<=100){n:Nat}{f:bi}{t:List bi}{c:List aa}(hfew:pe (n+1) (f::t))(hfo: ∀g∈f::t,lx g)(hlen:(f::t).length*3^(n+1)<=6973568802)(hc: ∀m∈c,LB m)(hok: ∀m∈c,m.ok)(hn:c.length+(n+1)<=900)(ih: ∀{l:List bi} {c:List aa},pe n l->(∀f∈l,lx f)->l.length*3^n<=6973568802->(∀m∈c,LB m)->(∀m∈c,m.ok)->c.length+n<=900->PF GB prog 119 [ut rs fill, .sl (l.map eh), .sl (c.map eL)] (eT (ij (jA rs fill) n l c))):PF GB prog 119 [ut rs fill, .sl ((f::t).map eh), .sl (c.map eL)] (eT (ij (jA rs fill) (n+1) (f::t) c)):=by
 obtain⟨l,hl⟩: ∃l,l=f::t:=⟨_,rfl⟩;have hl0:l[0]? =some f:=by rw[hl];rfl
 rw[<-hl] at hfew hfo hlen⊢;have hm:=fp eh l;have hfl:=hfo f (aV hl0);haveI:=hfl.lb;have hlp:0<l.length:=by rw[hl];simp
 have hlb:l.length<=6973568802:=cJ (qU _ (gV v6)) hlen;refine fn (fu:=⟨11⟩) func119 J J ntmps119 J J (fun C=>?_);refine ah 17 (.d (vI (l.length:Nat))) J omr<|gx (fu:=⟨0⟩) J<|bG J (omd pb) J<|ix (fu:=⟨17⟩) _ J (bF (i:=0) hl0) J<|ah 33 (.d (vI (l.length:Nat))) J omr<|gx J<|nr 10 10 207 14 J J J<|nr 11 11 207 14 J J J<|lp (X:=Nat) (fun k=>[(34, .d (vI (k:Nat))),(10, .rw 10),(11, .rw 11)]) (fun k=>[(10,some (.b 207 14 (((l.take k).flatMap fun g=>dB g f.l 1).map eh) true)),(11,some (.b 207 14 (((l.take k).flatMap fun g=>dB g f.l (-1)).map eh) true))]) (fun k=>k<=l.length) (fun k=>l.length-k) 0 J (aL _) (fun _=>J) (fun k hk=>?_);have htk:(l.take k).length<=6973568802:=by rw[bR];omega
 have hb1:(((l.take k).flatMap fun g=>dB g f.l 1).map eh).length<=20920706406:=by rw[aX];have:=B5 (l.take k) f.l 1;omega
 have hb2:(((l.take k).flatMap fun g=>dB g f.l (-1)).map eh).length<=20920706406:=by rw[aX];have:=B5 (l.take k) f.l (-1);omega
 refine br (fu2:=⟨0⟩) J J J (fun hc35=>?_) (fun hc35=>?_)
 .
  obtain⟨g,hz⟩: ∃s,l[k]? =some s:=⟨_,aQ pb⟩;have hg:=hfo g (aV hz);have hs1:((dB g f.l 1).map eh).length<=3:=by rw[aX];exact DG _ _ _
  have hs2:((dB g f.l (-1)).map eh).length<=3:=by rw[aX];exact DG _ _ _
  refine ix _ J (bF hz) J<|cl J (Ya (f:=g) (m:=f.l) hg hfl.ok) J<|ap (hbd:=pb) (((l.take (k+1)).flatMap fun g=>dB g f.l 1).map eh) J (by rw[IQ hz,bQ]) (vP _) J<|ap (hbd:=pb) (((l.take (k+1)).flatMap fun g=>dB g f.l (-1)).map eh) J (by rw[IQ hz,bQ]) (vP _) J<|dq 46 10 J<|dq 49 11 J<|at_ (k+1) ⟨pb,pb⟩
 .
  obtain rfl:k=l.length:=by omega
  rw[cS];refine lm 10 rfl<|lm 11 rfl<|gx rfl<|nD J J<|ap (c.map eL) J J (e8 c) rfl<|rf J J<|jo ((c++[f.l]).map eL) rfl omO (e8 [f.l]) rfl<|cl rfl (ih (c:=c++[f.l]) (by subst hl;exact pe.split hfew hfo) (fun g hg=>by obtain⟨q,hq,hg⟩:=fQ.1 hg;exact(Ct (hfo q hq) hfl.lb g hg).1) (by have:=B5 l f.l 1;rw[gJ] at hlen;exact cJ (bX _ this) (by rw[bM 3,cX];rw[bM (3^n)] at hlen;exact hlen)) (qG hc hfl.lb) (gu hok hfl.ok) ozk) rfl<|nD J J<|ap (c.map eL) J J (e8 c) rfl<|cl rfl (uD (l:=f.l)) rfl<|rf J J<|jo ((c++[f.l.rev]).map eL) rfl omO (e8 [f.l.rev]) rfl<|cl (fu:=⟨1⟩) rfl (ih (c:=c++[f.l.rev]) (by subst hl;exact pe.split hfew hfo) (fun g hg=>by obtain⟨q,hq,hg⟩:=fQ.1 hg;exact(Ct (hfo q hq) hfl.lb g hg).1) (by have:=B5 l f.l (-1);rw[gJ] at hlen;exact cJ (bX _ this) (by rw[bM 3,cX];rw[bM (3^n)] at hlen;exact hlen)) (qG hc hfl.lb.rev) (gu hok hfl.ok.rev) ozk) rfl<|CX J J<|rz rfl (by subst hl;rfl)
def KE{rs:List (List ZP)}{fill:Int}(hrs: ∀r∈rs,dl r)(hrn:rs.length<=100): ∀{n:Nat} {l:List bi} {c:List aa},pe n l->(∀f∈l,lx f)->l.length*3^n<=6973568802->(∀m∈c,LB m)->(∀m∈c,m.ok)->c.length+n<=900->PF GB prog 119 [ut rs fill, .sl (l.map eh), .sl (c.map eL)] (eT (ij (jA rs fill) n l c))
 |n,[],c,_,_,_,hc,hok,hn=>UI hrs hrn hc hok pb
 |0,f::t,c,hf,_,_,_,_,_=>by
  obtain⟨K,h1,h2⟩:=hf;obtain⟨m,hm,_⟩:=h2 f aZ;rw[cV (l:=K) pb] at hm
  cases hm
 |n+1,f::t,c,hf,ho,hl,hc,hok,hn=>Qy hrs hrn hf ho hl hc hok hn (fun a1 a2 a3 a4 a5 a6=>KE hrs hrn a1 a2 a3 a4 a5 a6)
def Z5(l:List bi):pe l.length l:=⟨l.map bi.l,by rw[aX];exact bZ _,fun f hf=>⟨f.l,eK hf, .inl J⟩⟩
def XW(h:n<=18):n*3^n<=6973568802:=cJ (iK h (bU v6 h)) v6
def Pc(hrs: ∀r∈rs,dl r)(hrn:rs.length<=3):PF GB prog 49 [ut rs fill] (eT (kw rs fill)):=by
 have hm:=fp kP rs;have hE:=qA hrs;have hraw:=Ht (acc:=jA rs fill) hE.2 J;refine fn (fu:=⟨17⟩) func49 J J ntmps49 J J (fun C=>?_);refine ah 8 (.d (vI (rs.length:Nat))) J omr<|gx J<|nr 3 3 207 14 J J J<|lp (X:=Nat) (fun k=>[(9, .d (vI (k:Nat))),(3, .rw 3)]) (fun k=>[(3,some (.b 207 14 ((gr (rs.take k)).map eh) true))]) (fun k=>k<=rs.length) (fun k=>rs.length-k) 0 J (aL _) (fun _=>J) (fun k hk=>?_);have het:((gr (rs.take k)).map eh).length<=6*k:=by rw[aX];exact Nm hrs k
 refine br J J J (fun hc10=>?_) (fun hc10=>?_)
 .
  obtain⟨r,hz⟩: ∃s,rs[k]? =some s:=⟨_,aQ pb⟩;have hr:=hrs r (aV hz);have hel:((jg r).map eh).length<=6:=by rw[aX];have:=(Ce hr).1;have:=hr.n6;omega
  refine ix _ J (bF hz) J<|cl J (K3 (r:=r) hr) J<|ap (hbd:=pb) ((gr (rs.take (k+1))).map eh) J (by rw[NZ hz,bQ]) (vP _) J<|dq 16 3 J<|at_ (k+1) ⟨pb,pb⟩
 .
  obtain rfl:k=rs.length:=by omega
  rw[cS];refine fz 3 J J<|cl J (KE (n:=(gr rs).length) (l:=gr rs) (c:=[]) hrs pb (Z5 _) hE.2 (XW (by have:=hE.1;omega)) (fun m h=>by cases h) (fun m h=>by cases h) (by have:=hE.1;rw[iQ];omega)) J<|cl J (KZ (t:=so rs fill) hraw.gd.lb hraw.gd.ok (by have:=hraw.dp;have:=hE.1;show(ij _ _ _ _).depth<=900;omega)) J<|rz J J
def ZE:PF GB prog 70 [eT (.leaf b)] (eT (Tr.compl (.leaf b))):=by
 refine fn (fu:=⟨11⟩) func70 J J ntmps70 J J (fun C=>?_);refine cj J J J<|cl J (uc (p:=!b)) J<|rz J J
def Ww{x:Tr}(ihx:PF GB prog 70 [eT x] (eT x.compl))(ihy:PF GB prog 70 [eT y] (eT y.compl)):PF GB prog 70 [eT (.node l x y)] (eT (Tr.compl (.node l x y))):=by
 refine fn (fu:=⟨11⟩) func70 J J ntmps70 J J (fun C=>?_);refine bG J J J<|cl J ihx J<|cl (fu:=⟨1⟩) J ihy J<|CX J J<|rz J J
def l5: ∀{t:Tr},PF GB prog 70 [eT t] (eT t.compl)
 | .leaf _=>ZE
 | .node _ _ _=>Ww l5 l5
theorem omf{p:Prop}(h:p:=by show eT _=eT _;congr 1;rw[Tr.mergeL];unfold Tr.chooseL;(repeat' split)<;>first|rfl|(exfalso;simp_all;done)|(exfalso;omega)):p:=h
def V8(hu:u.all LB)(huo:u.all aa.ok)(hc: ∀m∈c,LB m)(hok: ∀m∈c,m.ok)(hn:c.length+u.depth<=900):PF GB prog 38 [vI op,eT (.leaf b),eT u, .sl (c.map eL)] (eT (Tr.mergeL op (.leaf b) u c)):=by
 refine fn (fu:=⟨11⟩) func38 J J ntmps38 J J (fun C=>?_);refine cj J J J<|cl J (Cj (t:=u) (c:=c) hu huo hc hok hn) J<|cs 20 J J J (fun hg20=>?_) (fun hg20=>?_)
 .
  refine bb J J J (fun hc17=>?_) (fun hc17=>?_)
  .
   refine cl J (uc (p:=true)) J<|rz J omf
  .
   refine cs 30 J J J (fun hg30=>?_) (fun hg30=>?_)
   .
    refine bb J J J (fun hc27=>?_) (fun hc27=>?_)
    .
     refine cl J (uc (p:=false)) J<|rz J omf
    .
     refine cs 45 J J J (fun hg45=>?_) (fun hg45=>?_)
     .
      refine bb J J J (fun hc42=>?_) (fun hc42=>?_)
      .
       refine cl J l5 J<|rz J omf
      .
       exact rz J omf
     .
      refine cs 49 J J J (fun hg49=>?_) (fun hg49=>?_)
      .
       refine bb J J J (fun hc42=>?_) (fun hc42=>?_)
       .
        refine cl J l5 J<|rz J omf
       .
        exact rz J omf
      .
       exact rz J omf
   .
    refine cs 34 J J J (fun hg34=>?_) (fun hg34=>?_)
    .
     refine bb J J J (fun hc27=>?_) (fun hc27=>?_)
     .
      refine cl J (uc (p:=false)) J<|rz J omf
     .
      refine cs 45 J J J (fun hg45=>?_) (fun hg45=>?_)
      .
       refine bb J J J (fun hc42=>?_) (fun hc42=>?_)
       .
        refine cl J l5 J<|rz J omf
       .
        exact rz J omf
      .
       refine cs 49 J J J (fun hg49=>?_) (fun hg49=>?_)
       .
        refine bb J J J (fun hc42=>?_) (fun hc42=>?_)
        .
         refine cl J l5 J<|rz J omf
        .
         exact rz J omf
       .
        exact rz J omf
    .
     refine cs 45 J J J (fun hg45=>?_) (fun hg45=>?_)
     .
      refine bb J J J (fun hc42=>?_) (fun hc42=>?_)
      .
       refine cl J l5 J<|rz J omf
      .
       exact rz J omf
     .
      refine cs 49 J J J (fun hg49=>?_) (fun hg49=>?_)
      .
       refine bb J J J (fun hc42=>?_) (fun hc42=>?_)
       .
        refine cl J l5 J<|rz J omf
       .
        exact rz J omf
      .
       exact rz J omf
 .
  refine cs 30 J J J (fun hg30=>?_) (fun hg30=>?_)
  .
   refine bb J J J (fun hc27=>?_) (fun hc27=>?_)
   .
    refine cl J (uc (p:=false)) J<|rz J omf
   .
    refine cs 45 J J J (fun hg45=>?_) (fun hg45=>?_)
    .
     refine bb J J J (fun hc42=>?_) (fun hc42=>?_)
     .
      refine cl J l5 J<|rz J omf
     .
      exact rz J omf
    .
     refine cs 49 J J J (fun hg49=>?_) (fun hg49=>?_)
     .
      refine bb J J J (fun hc42=>?_) (fun hc42=>?_)
      .
       refine cl J l5 J<|rz J omf
      .
       exact rz J omf
     .
      exact rz J omf
  .
   refine cs 34 J J J (fun hg34=>?_) (fun hg34=>?_)
   .
    refine bb J J J (fun hc27=>?_) (fun hc27=>?_)
    .
     refine cl J (uc (p:=false)) J<|rz J omf
    .
     refine cs 45 J J J (fun hg45=>?_) (fun hg45=>?_)
     .
      refine bb J J J (fun hc42=>?_) (fun hc42=>?_)
      .
       refine cl J l5 J<|rz J omf
      .
       exact rz J omf
     .
      refine cs 49 J J J (fun hg49=>?_) (fun hg49=>?_)
      .
       refine bb J J J (fun hc42=>?_) (fun hc42=>?_)
       .
        refine cl J l5 J<|rz J omf
       .
        exact rz J omf
      .
       exact rz J omf
   .
    refine cs 45 J J J (fun hg45=>?_) (fun hg45=>?_)
    .
     refine bb J J J (fun hc42=>?_) (fun hc42=>?_)
     .
      refine cl J l5 J<|rz J omf
     .
      exact rz J omf
    .
     refine cs 49 J J J (fun hg49=>?_) (fun hg49=>?_)
     .
      refine bb J J J (fun hc42=>?_) (fun hc42=>?_)
      .
       refine cl J l5 J<|rz J omf
      .
       exact rz J omf
     .
      exact rz J omf
def Z6{x:Tr}(hl:LB l)(hlo:l.ok)(hc: ∀m∈c,LB m)(hok: ∀m∈c,m.ok)(hn:c.length+(Tr.node l x y).depth+u.depth<=900)(ihx: ∀{c:List aa},(∀m∈c,LB m)->(∀m∈c,m.ok)->c.length+x.depth+u.depth<=900->PF GB prog 38 [vI op,eT x,eT u, .sl (c.map eL)] (eT (Tr.mergeL op x u c)))(ihy: ∀{c:List aa},(∀m∈c,LB m)->(∀m∈c,m.ok)->c.length+y.depth+u.depth<=900->PF GB prog 38 [vI op,eT y,eT u, .sl (c.map eL)] (eT (Tr.mergeL op y u c))):PF GB prog 38 [vI op,eT (.node l x y),eT u, .sl (c.map eL)] (eT (Tr.mergeL op (.node l x y) u c)):=by
 have hdp:(Tr.node l x y).depth=1+Nat.max x.depth y.depth:=J;have hdx:x.depth<=Nat.max x.depth y.depth:=qV _ _;have hdy:y.depth<=Nat.max x.depth y.depth:=pW _ _;have hca:=zi (c++[l]);have hcb:=zi (c++[l.rev]);rw[aU,dS] at hca hcb;refine fn (fu:=⟨11⟩) func38 J J ntmps38 J J (fun C=>?_);refine bG J J J<|cl J (Lp (c:=c) (l:=l) hc hok pb hl hlo) J<|br J J J (fun hc64=>?_) (fun hc64=>?_)
 .
  refine cl J (ihx hc hok pb) J<|rz J (by rw[Tr.mergeL,if_pos hc64];rfl)
 .
  refine br J J J (fun hc74=>?_) (fun hc74=>?_)
  .
   refine cl J (ihy hc hok pb) J<|rz J (by rw[Tr.mergeL,if_neg hc64,if_pos hc74];rfl)
  .
   refine cl J (CW (c:=c) (l:=l) hc hok pb hl hlo) J<|cl J (ihx (c:=c7 (c++[l])) (Az (qG hc hl)) (CO (gu hok hlo)) pb) J<|cl J (uD (l:=l)) J<|cl J (CW (c:=c) (l:=l.rev) hc hok pb hl.rev hlo.rev) J<|cl J (ihy (c:=c7 (c++[l.rev])) (Az (qG hc hl.rev)) (CO (gu hok hlo.rev)) pb) J<|cl J Jt J<|rz J (by rw[Tr.mergeL,if_neg hc64,if_neg hc74];rfl)
def Hg{op:Int}{u:Tr}(hu:u.all LB)(huo:u.all aa.ok): ∀{t:Tr} {c:List aa},t.all LB->t.all aa.ok->(∀m∈c,LB m)->(∀m∈c,m.ok)->c.length+t.depth+u.depth<=900->PF GB prog 38 [vI op,eT t,eT u, .sl (c.map eL)] (eT (Tr.mergeL op t u c))
 | .leaf _,_,_,_,hc,hok,hn=>V8 hu huo hc hok (cJ (Nat.add_le_add_right (mJ _ _) _) hn)
 | .node l x y,c,hb,ho,hc,hok,hn=>Z6 hb.1 ho.1 hc hok hn (fun h1 h2 h3=>Hg hu huo hb.2.1 ho.2.1 h1 h2 h3) (fun h1 h2 h3=>Hg hu huo hb.2.2 ho.2.2 h1 h2 h3)
def X4(p r:ZP):(fC p.q r.q<0↔tC p r<0)/\(fC p.q r.q=0↔tC p r=0):=by
 have e1: ∀a b:Int,bm (a:Rat) (b:Rat)<0↔a<b:=fun a b=>by rw[yq,Rat.intCast_lt_intCast]
 have e2: ∀a b:Int,bm (a:Rat) (b:Rat)=0↔a=b:=fun a b=>by rw[qh,oY]
 have f1:=e1 p.1 r.1;have f2:=e2 p.1 r.1;have f3:=e1 p.2 r.2;have f4:=e2 p.2 r.2;show(fC ⟨(p.1:Rat),(p.2:Rat)⟩ ⟨(r.1:Rat),(r.2:Rat)⟩<0↔_)/\(fC ⟨(p.1:Rat),(p.2:Rat)⟩ ⟨(r.1:Rat),(r.2:Rat)⟩=0↔_);unfold fC tC;dsimp only;generalize bm (p.1:Rat) (r.1:Rat)=u at*;generalize bm (p.2:Rat) (r.2:Rat)=v at*;by_cases h:p.1<r.1
 .rw[if_pos pb,if_pos h];omega
 .by_cases h2:r.1<p.1
  .rw[if_pos pb,if_neg h,if_pos h2];omega
  .rw[if_neg pb,if_neg h,if_neg h2]
   by_cases h3:p.2<r.2
   .rw[if_pos h3];omega
   .rw[if_neg h3]
    split<;>omega
def KV(x:ZP): ∀l:List ZP,eG fC x.q (l.map ZP.q)=(q6 x l).map ZP.q
 |[]=>rfl
 |u::t=>by
  obtain⟨h1,h2⟩:=X4 u x;rw[cZ,eG,q6,KV x t];by_cases k1:tC u x<0
  .rw[if_pos (h1.2 k1),if_pos k1];rfl
  .rw[if_neg (fun e=>k1 (h1.1 e)),if_neg k1]
   by_cases k2:tC u x=0
   .rw[if_pos (h2.2 k2),if_pos k2];rfl
   .rw[if_neg (fun e=>k2 (h2.1 e)),if_neg k2];rfl
def WI(l:List ZP):td fC (l.map ZP.q)=(sC l).map ZP.q:=by
 have key: ∀(l o:List ZP),(l.map ZP.q).foldl (fun out x=>eG fC x out) (o.map ZP.q)=(l.foldl (fun out x=>q6 x out) o).map ZP.q:=by
  intro l
  induction l with
  |nil=>intro o;rfl
  |cons x t ih=>intro o;rw[cZ,iM,iM,KV,ih]
 exact key l []
def KL(l:List ZP):(l.map ZP.q).map eP=l.map gm:=by rw[sN];rfl
def JD{l:List ZP}(h: ∀p∈l,ZP.le 100 p)(hn:l.length<=100000:=by omega):PF GB prog 169 [.sl (l.map gm)] (.sl ((sC l).map gm)):=by
 have:=Yl (GB:=GB) (ps:=l.map ZP.q) (Fb h) (by rw[aX];exact hn);rw[WI,KL,KL] at this;exact this
def QG(u v:ZP):(ab.cross (iP u.1 u.2) (iP v.1 v.2))=((uZ u v:Int):Rat):=by
 unfold ab.cross iP uZ;push_cast;rfl
def FR(u v:ZP):(ab.cross (iP u.1 u.2) (iP v.1 v.2)).num.sign≠0↔uZ u v≠0:=by
 rw[QG,qX];exact not_congr iS
def W3{α β:Type}(f:α->β)(l:List α):((l.map f).take (l.length-1)).drop 0=l.dropLast.map f:=by
 rw[fM,<-gT,List.dropLast_eq_take]
def Lb{l:List ZP}(h:0<l.length:=by omega): ∃u,l.getLast? =some u/\l[l.length-1]? =some u/\l.getD (l.length-1) (0,0)=u:=by
 refine⟨l[l.length-1],?_,aQ pb,?_⟩
 .rw[lQ];exact aQ pb
 .rw[aJ,aQ pb];rfl
def asd{l:List ZP}(h:0<l.length): ∃u,l[0]? =some u/\l.getD 0 (0,0)=u:=by
 refine⟨l[0],aQ pb,?_⟩;rw[aJ,aQ pb];rfl
def BJ{u p:ZP}:(u.1=p.1/\u.2=p.2)↔u=p:=⟨fun h=>Prod.ext h.1 h.2,fun h=>by rw[h];exact⟨J,J⟩⟩
theorem okj{p:Prop}(h:p:=by dsimp only;exact⟨⟨by rw[<-h1,km,if_neg hlast],hq3,h3.snoc ⟨pb,pb⟩ hlast,by simp;omega⟩,pb⟩):p:=h
def O4{b:Nat}(hes:es.length<=400)(ha:a<=es.length):PM GB prog 97 (gw [none] b) b 85 [.sl (es.map vI), .v (.int .i64 (a:Nat))] (kP (ew es a).1) [.sl (es.map vI), .v (.int .i64 ((ew es a).2:Nat))]:=by
 have hk0:=e7 (n:=4) ha;refine rg (fu:=⟨6⟩) func97 J J ntmps97 J J (fun C b m lo hmb=>?_);refine mg (X:=Nat) (fun a2=>[]) (fun a2=>[(1000000,some (.o 85 [.d (.sl (es.map vI)), .d (.v (.int .i64 (a2:Nat)))] false))]) (fun a2=>ew es a=nk es a2/\a2<=es.length) [] [1000000] rfl ?_ (fun _=>J) (fun a2 ⟨hR,ha2⟩=>?_)
 .
  refine gx J<|cm J (fun b=>(lI (n:=4) hes ha)) J<|br J J J (fun hc15=>?_) (fun hc15=>?_)
  .
   have hx1:=e7 (n:=5) hk0;have hy1:=e7 (n:=5) hx1;have hz1:=e7 (n:=4) hy1;have hw1:=e7 (n:=4) hz1;have hl0:=ig (es:=es) (n:=5) (a:=(aC es 4 a).2);have hl1:=ig (es:=es) (n:=5) (a:=(aC es 5 (aC es 4 a).2).2);have hl2:=ig (es:=es) (n:=4) (a:=(aC es 5 (aC es 5 (aC es 4 a).2).2).2);have hl3:=ig (es:=es) (n:=4) (a:=(aC es 4 (aC es 5 (aC es 5 (aC es 4 a).2).2).2).2);refine cm J (fun b=>(lI (n:=5) hes hk0)) J<|cm J (fun b=>(lI (n:=5) hes hx1)) J<|cm J (fun b=>(lI (n:=4) hes hy1)) J<|cm J (fun b=>(lI (n:=4) hes hz1)) J<|cl J (kB (m:=(((aC es 5 (aC es 4 a).2).1:Int)-4)) (n:=(((aC es 5 (aC es 5 (aC es 4 a).2).2).1:Int)-4)) pb pb) J<|cl J (kB (m:=(((aC es 5 (aC es 4 a).2).1:Int)-4+1+((aC es 4 (aC es 5 (aC es 5 (aC es 4 a).2).2).2).1:Int))) (n:=(((aC es 5 (aC es 5 (aC es 4 a).2).2).1:Int)-4)) pb pb) J<|cl J (kB (m:=(((aC es 5 (aC es 4 a).2).1:Int)-4+1+((aC es 4 (aC es 5 (aC es 5 (aC es 4 a).2).2).2).1:Int))) (n:=(((aC es 5 (aC es 5 (aC es 4 a).2).2).1:Int)-4+1+((aC es 4 (aC es 4 (aC es 5 (aC es 5 (aC es 4 a).2).2).2).2).1:Int))) pb pb) J<|cl J (kB (m:=(((aC es 5 (aC es 4 a).2).1:Int)-4)) (n:=(((aC es 5 (aC es 5 (aC es 4 a).2).2).1:Int)-4+1+((aC es 4 (aC es 4 (aC es 5 (aC es 5 (aC es 4 a).2).2).2).2).1:Int))) pb pb) J<|rf J J<|?_;exact iG hmb J J (by rw[show ew es a=_ from if_pos hc15];rfl) (by rw[show ew es a=_ from if_pos hc15];rfl)
  .
   refine br J J J (fun hc46=>?_) (fun hc46=>?_)
   .
    obtain⟨hp1,hp2,hp3⟩:=ru hk0;obtain⟨hu1,hu2,hu3,hu4⟩:=wl hp3;obtain⟨hv1,hv2,hv3,hv4⟩:=wl hu4;haveI:=iz (k:=10) (m:=(vF es (pF es (aC es 4 a).2).2).1.1) pb;haveI:=iz (k:=10) (m:=(vF es (pF es (aC es 4 a).2).2).1.2) pb;haveI:=iz (k:=10) (m:=(vF es (vF es (pF es (aC es 4 a).2).2).2).1.1) pb;haveI:=iz (k:=10) (m:=(vF es (vF es (pF es (aC es 4 a).2).2).2).1.2) pb;refine cm J (fun b=>(Ho hes hk0)) J<|cm J (fun b=>(Oc hes hp3)) J<|cm J (fun b=>(Oc hes hu4)) J<|cl J (vK (p:=iP (vF es (pF es (aC es 4 a).2).2).1.1 (vF es (pF es (aC es 4 a).2).2).1.2) (q:=iP (vF es (vF es (pF es (aC es 4 a).2).2).2).1.1 (vF es (vF es (pF es (aC es 4 a).2).2).2).1.2)) J<|cl J (nB (q:=ab.cross (iP (vF es (pF es (aC es 4 a).2).2).1.1 (vF es (pF es (aC es 4 a).2).2).1.2) (iP (vF es (vF es (pF es (aC es 4 a).2).2).2).1.1 (vF es (vF es (pF es (aC es 4 a).2).2).2).1.2))) J<|br J J J (fun hc58=>?_) (fun hc58=>?_)
    .
     refine cl J (kc (n:=1)) J<|cl J (Gv (m:=(pF es (aC es 4 a).2).1.1) (n:=(pF es (aC es 4 a).2).1.2) (m':=(vF es (pF es (aC es 4 a).2).2).1.1) (n':=(vF es (pF es (aC es 4 a).2).2).1.2) (k:=1) pb pb pb pb) J<|cl J (kc (n:=1)) J<|cl J (Gv (m:=(pF es (aC es 4 a).2).1.1) (n:=(pF es (aC es 4 a).2).1.2) (m':=(vF es (vF es (pF es (aC es 4 a).2).2).2).1.1) (n':=(vF es (vF es (pF es (aC es 4 a).2).2).2).1.2) (k:=1) pb pb pb pb) J<|rf J J<|?_;exact iG hmb J J (by rw[show ew es a=_ from(if_neg hc15).trans ((if_pos hc46).trans (if_pos ((FR _ _).1 hc58)))];rfl) (by rw[show ew es a=_ from(if_neg hc15).trans ((if_pos hc46).trans (if_pos ((FR _ _).1 hc58)))])
    .
     exact at_ (vF es (vF es (pF es (aC es 4 a).2).2).2).2 ⟨(if_neg hc15).trans ((if_pos hc46).trans (if_neg (fun e=>hc58 ((FR _ _).2 e)))),hv4⟩
   .
    exact at_ (aC es 4 a).2 ⟨(if_neg hc15).trans (if_neg hc46),hk0⟩
 .
  have hj1:=ig (es:=es) (n:=4) (a:=a2);have hj2:=e7 (n:=4) ha2;refine cm J (fun b=>(lI (n:=4) hes ha2)) J<|nr 10 10 36 6 J J J<|lp (X:=List ZP×Nat×Nat) (fun⟨r,i,a3⟩=>[(11, .d (vI (i:Nat))),(10, .rw 10)]) (fun⟨r,i,a3⟩=>[(1000000,some (.o 85 [.d (.sl (es.map vI)), .d (.v (.int .i64 (a3:Nat)))] false)),(10,some (.b 36 6 (r.map gm) true))]) (fun⟨r,i,a3⟩=>km es i a3 r=km es (3+(aC es 4 a2).1) (aC es 4 a2).2 []/\a3<=es.length/\jD r/\r.length+i<=6) (fun⟨r,i,a3⟩=>i) ⟨[],3+(aC es 4 a2).1,(aC es 4 a2).2⟩ J ⟨J,hj2,jD.nil,by simp;omega⟩ (fun _=>J) (fun⟨r,i,a3⟩ hk=>?_)
  try dsimp only at hk⊢
  obtain⟨h1,h2,h3,h4⟩:=hk;have hrl:(r.map gm).length=r.length:=by simp
  refine br (fu2:=⟨0⟩) J J J (fun hc73=>?_) (fun hc73=>?_)
  .
   obtain⟨j,rfl⟩: ∃j,i=j+1:=⟨i-1,pb⟩;obtain⟨hq1,hq2,hq3⟩:=ru h2;refine cm (fu:=⟨8⟩) J (fun b=>(Ho hes h2)) J<|jk (v1:=fun hg80=>by simp only[aj];kernel_rfl) J J J J (fun hg80=>?_) (fun hg80=>?_)
   .
    have hlast: ¬r.getLast? =some (pF es a3).1:=by rw[cV (l:=r) pb];simp
    refine rf J J<|ap ((r++[(pF es a3).1]).map gm) J omO (DR [_]) J<|dq 95 10 J<|at_ ⟨r++[(pF es a3).1],j,(pF es a3).2⟩ okj
   .
    obtain⟨q,hq,hqi,hqd⟩:=Lb (l:=r);have hqm:=h3.le q (nZ hq);unfold ZP.le at hqm;refine lb (gm q) J (by rw[show(((r.map gm).length:Nat):Int)-1=((r.length-1:Nat):Int) by omega];exact bF hqi) J<|cl J (Hf (m:=q.1) (n:=q.2) (m':=(pF es a3).1.1) (n':=(pF es a3).1.2)) J<|bb J J J (fun hc91=>?_) (fun hc91=>?_)
    .
     have hlast: ¬r.getLast? =some (pF es a3).1:=by rw[hq];intro e;have:=BJ.2 (Option.some.inj e);simp[this] at hc91
     refine rf J J<|ap ((r++[(pF es a3).1]).map gm) J omO (DR [_]) J<|dq 95 10 J<|at_ ⟨r++[(pF es a3).1],j,(pF es a3).2⟩ okj
    .
     have hlast:r.getLast? =some (pF es a3).1:=by rw[hq];congr 1;exact BJ.1 (by simpa using hc91)
     exact at_ ⟨r,j,(pF es a3).2⟩ (by dsimp only;exact⟨⟨by rw[<-h1,km,if_pos hlast],hq3,h3,pb⟩,pb⟩)
  .
   obtain rfl:i=0:=by omega
   have hg:=h1;rw[km] at hg;refine lm 10 J<|gx J<|lp (fu:=⟨5⟩) (X:=List ZP×Nat) (fun⟨l,m⟩=>[(10, .d (.sl (l.map gm)))]) (fun⟨l,m⟩=>[]) (fun⟨l,m⟩=>jc m l=jc 6 r/\l.length<=m+1/\jD l/\l.length<=6) (fun⟨l,m⟩=>m) ⟨r,6⟩ J ⟨J,pb,h3,pb⟩ (fun _=>J) (fun⟨l,m⟩ hk=>?_)
   try dsimp only at hk⊢
   obtain⟨t1,t2,t3,t4⟩:=hk;have hll:(l.map gm).length=l.length:=by simp
   refine jk (v2:=fun hg98=>by simp only[aj];kernel_rfl) J J J J (fun hg98=>?_) (fun hg98=>?_)
   .
    obtain⟨q,hqi,hqd⟩:=asd (l:=l) pb;obtain⟨q2,hq0,hqi2,hqd2⟩:=Lb (l:=l);have hqm:=t3.le q (aV hqi);have hqm2:=t3.le q2 (aV hqi2);unfold ZP.le at hqm hqm2;refine ix _ J (bF (i:=0) hqi) J<|ix (gm q2) J (by rw[show(((l.map gm).length:Nat):Int)-1=((l.length-1:Nat):Int) by omega];exact bF hqi2) J<|cl J (Hf (m:=q.1) (n:=q.2) (m':=q2.1) (n':=q2.2)) J<|bd J J J (fun hc110=>?_) (fun hc110=>?_)
    .
     have hcond:1<l.length/\l.getD 0 (0,0)=l.getD (l.length-1) (0,0):=⟨pb,by rw[hqd,hqd2];exact BJ.1 hc110⟩;refine js 0 (l.length-1) (l.dropLast.map gm) J J pb (W3 gm l) (DR l) (aL _) pb rfl<|at_ ⟨l.dropLast,m-1⟩ (by dsimp only;exact⟨⟨by rw[<-t1];obtain⟨m,rfl⟩: ∃q,m=q+1:=⟨m-1,pb⟩;rw[jc,if_pos hcond];rfl,by rw[gL];omega,t3.drop,by rw[gL];omega⟩,pb⟩)
    .
     have hcond: ¬(1<l.length/\l.getD 0 (0,0)=l.getD (l.length-1) (0,0)):=fun e=>hc110 (BJ.2 (by rw[<-hqd,<-hqd2];exact e.2));refine cl (fu:=⟨1⟩) J (JD (l:=l) t3.le) J<|?_;have hgen:jc 6 r=l:=by rw[<-t1];cases m with|zero=>rfl|succ m=>rw[jc,if_neg hcond]
     refine ah 118 (.d (vI ((sC l).length:Nat))) J (by rw[aX];rfl)<|gx J<|br J J J (fun hc119=>?_) (fun hc119=>?_)
     .
      have hfin:ew es a=(tM,a3):=by rw[hR,nk,<-hg,hgen,if_pos pb]
      refine cl J (kB (m:=0) (n:=0)) J<|cl J (kB (m:=2) (n:=0)) J<|cl J (kB (m:=0) (n:=2)) J<|rf J J<|?_;exact iG hmb J J omX (by rw[hfin])
     .
      have hfin:ew es a=(l,a3):=by rw[hR,nk,<-hg,hgen,if_neg pb]
      exact iG hmb J J omX (by rw[hfin])
   .
    have hcond: ¬(1<l.length/\l.getD 0 (0,0)=l.getD (l.length-1) (0,0)):=fun e=>by omega
    refine cl (fu:=⟨1⟩) J (JD (l:=l) t3.le) J<|?_;have hgen:jc 6 r=l:=by rw[<-t1];cases m with|zero=>rfl|succ m=>rw[jc,if_neg hcond]
    refine ah 118 (.d (vI ((sC l).length:Nat))) J (by rw[aX];rfl)<|gx J<|br J J J (fun hc119=>?_) (fun hc119=>?_)
    .
     have hfin:ew es a=(tM,a3):=by rw[hR,nk,<-hg,hgen,if_pos pb]
     refine cl J (kB (m:=0) (n:=0)) J<|cl J (kB (m:=2) (n:=0)) J<|cl J (kB (m:=0) (n:=2)) J<|rf J J<|?_;exact iG hmb J J omX (by rw[hfin])
    .
     have hfin:ew es a=(l,a3):=by rw[hR,nk,<-hg,hgen,if_neg pb]
     exact iG hmb J J omX (by rw[hfin])

def Tr.all_imp{p q:aa->Prop}(h: ∀l,p l->q l): ∀{t:Tr},t.all p->t.all q
 | .leaf _,_=>trivial
 | .node _ _ _,⟨h0,h1,h2⟩=>⟨h _ h0,Tr.all_imp h h1,Tr.all_imp h h2⟩
def io.red_size(h:io k t)(hr:t.Red []):t.size<=k*(1+k):=by
 obtain⟨K,h1,h2,h3⟩:=h.am;exact cJ (Tr.size_le h2 hr h.gd.ok bO.nil h3) (iK h1 pb)
structure gj (k:Nat) (t:Tr):Prop where
 o:io k t
 s:t.size<=3000
def gj.lb{k:Nat}{t:Tr}(h:gj k t):t.all LB:=h.o.gd.lb
def gj.ok{k:Nat}{t:Tr}(h:gj k t):t.all aa.ok:=h.o.gd.ok
def gj.bl{k:Nat}{t:Tr}(h:gj k t):t.all (fun l=>BL l 96):=Tr.all_imp (fun _ h=>h.bl) h.o.gd.lb
def gj.dp{k:Nat}{t:Tr}(h:gj k t):t.depth<=k:=h.o.dp
def io.x(h:io k t)(hr:t.Red [])(hk:k<=54):gj k t:=
 ⟨h,cJ (h.red_size hr) (cJ (iK hk (show 1+k<=55 by omega)) v6)⟩
def Em(rs:List (List ZP))(fill:Int):(kw rs fill).Red []:=Tr.restrict_red _ _
def LR(es:List Int)(a:Nat):(lf es a).1.Red []:=by
 unfold lf;dsimp only;split<;>exact Em _ _
def UE(h:dl r): ∀x∈[r],dl x:=fun x hx=>by rw[aW] at hx;subst hx;exact h
def Ui{s:List ZP}(h:dl r)(k:dl s): ∀x∈[r,s],dl x:=fun x hx=>by
 simp only[aT,fT,or_false] at hx;rcases hx with rfl|rfl
 .exact h
 .exact k
def O7{b:Nat}(hes:es.length<=400)(ha:a<=es.length):PM GB prog 39 (gw [none] b) b 85 [.sl (es.map vI), .v (.int .i64 (a:Nat))] (eT (lf es a).1) [.sl (es.map vI), .v (.int .i64 ((lf es a).2:Nat))]:=by
 obtain⟨r1,r2⟩:=ti ha;have hk3:=e7 (n:=3) r2;refine rg func39 J J ntmps39 J J (fun C b m lo hmb=>?_);refine cm J (fun b=>(O4 hes ha)) J<|ro (fu:=⟨4⟩) J J<|mg (X:=List (List ZP)×Nat) (fun⟨rs,a2⟩=>[(3, .rw 6)]) (fun⟨rs,a2⟩=>[(1000000,some (.o 85 [.d (.sl (es.map vI)), .d (.v (.int .i64 (a2:Nat)))] false)),(6,some (.b 44 1 (rs.map kP) true))]) (fun⟨rs,a2⟩=>lf es a=(kw rs (1+((aC es 2 a2).1:Int)),(aC es 2 a2).2)/\a2<=es.length/\(∀r∈rs,dl r)/\rs.length<=2) [3] [1000000,6] rfl ?_ (fun _=>J) (fun⟨rs,a2⟩ ⟨hB,ha2,hrs,hrl⟩=>?_)
 .
  refine gx J<|cm J (fun b=>(lI (n:=3) hes r2)) J<|br J J J (fun hc9=>?_) (fun hc9=>?_)
  .
   obtain⟨s1,s2⟩:=ti hk3;refine cm J (fun b=>(O4 hes hk3)) J<|rf J J<|ap (hbd:=v8) ([(ew es a).1,(ew es (aC es 3 (ew es a).2).2).1].map kP) J J (O6 [(ew es (aC es 3 (ew es a).2).2).1]) J<|dq 14 6 J<|at_ ⟨[(ew es a).1,(ew es (aC es 3 (ew es a).2).2).1],(ew es (aC es 3 (ew es a).2).2).2⟩ ⟨if_pos hc9,s2,Ui r1 s1,v8⟩
  .
   exact at_ ⟨[(ew es a).1],(aC es 3 (ew es a).2).2⟩ ⟨if_neg hc9,hk3,UE r1,v8⟩
 .
  try dsimp only at hB ha2 hrs hrl⊢
  have hf2:=ig (es:=es) (n:=2) (a:=a2);refine fz 6 J J<|cl J (PO (rs:=rs) hrs pb) J<|cm J (fun b=>(lI (n:=2) hes ha2)) J<|cl J (L2 (rs:=rs) (fill:=1+((aC es 2 a2).1:Int)) hrs pb) J<|cl J (Pc (rs:=rs) (fill:=1+((aC es 2 a2).1:Int)) hrs pb) J<|?_;exact iG hmb J J (by rw[hB];rfl) (by rw[hB])
section
variable {C:aD}{Q0:Exit->Act->World->Prop}{fr fr' fr1 fr2:aA}{own own' own1 own2:aF}{cf cf' cf1 cf2:Cf}{vc vc1 vc2:List Prop}
end
def zt(hb:es0.length<=1125899906842624)(he:es=es0.take 400):PN GB prog 6 [.sl (es0.map vI)] 85 Unit (fun _=>[.sl (es.map vI), .v (.int .i64 (0:Nat))]):=by
 subst he;exact QO hb
def WY(h:gj k t):PF GB prog 23 [eT t] (eA t):=Z2 h.bl (by have:=h.s;omega)
end Go.Sx
end
