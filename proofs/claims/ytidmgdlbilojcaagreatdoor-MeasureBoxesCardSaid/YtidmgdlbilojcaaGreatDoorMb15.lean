import Derived.Test.YtidmgdlbilojcaaGreatDoorMb14
set_option linter.all false
set_option maxHeartbeats 4000000
set_option maxRecDepth 100000
section
namespace Go.Sx
open Go Go.Proofs Tryz
variable {GB:Gh}
theorem tI{c:List aa}{l:aa}(hc: ∀m∈c,LB m)(hl:LB l): ∀m∈c++[l],LB m:=by
 rw[rT];exact⟨hc,by simpa using hl⟩
theorem LB.rev{l:aa}(h:LB l):LB l.rev:=⟨⟨by rw[show l.rev.a= -l.a from J,iJ];exact h.bl.a,by rw[show l.rev.b= -l.b from J,iJ];exact h.bl.b,by rw[show l.rev.c= -l.c from J,iJ];exact h.bl.c⟩⟩
def MQ{c:List aa}{l:aa}(hc: ∀m∈c,LB m)(hok: ∀m∈c,m.ok)(hn:c.length<=900)(hl:LB l)(hlo:l.ok):PF GB prog 90 [.sl (c.map eL),eL l] (vI (nP c l)):=by
 have hcl:=wU c;refine fn func90 J J ntmps90 J J (fun C=>?_);refine rp J J<|ap (c.map eL) J J (gm _) J<|rf J J<|l8 ((c++[l]).map eL) J (by rw[bS];rfl) (gm [l]) J<|?_;refine cl J (IJ (c:=c++[l]) (tI hc hl) (iv hok hlo) (by simp;omega)) J<|rp J J<|ap (c.map eL) J J (gm _) J<|cl J (An (l:=l)) J<|?_;refine rf J J<|l8 ((c++[l.rev]).map eL) J (by rw[bS];rfl) (gm [l.rev]) J<|cl J (IJ (c:=c++[l.rev]) (tI hc hl.rev) (iv hok hlo.rev) (by simp;omega)) J<|?_;refine jd 31 J J J (fun hg31=>?_) (fun hg31=>?_)
 .
  refine bb J J J (fun hc33=>?_) (fun hc33=>?_)
  .
   exact rz J (by show vI 0=vI _;congr 1;unfold nP;simp_all)
  .
   refine bb J J J (fun hc34=>?_) (fun hc34=>?_)
   .
    exact rz J (by show vI 1=vI _;congr 1;unfold nP;simp_all)
   .
    exact rz J (by simp[hg31] at hc34)
 .
  refine bb J J J (fun hc34=>?_) (fun hc34=>?_)
  .
   exact rz J (by simp[hg31] at hc34)
  .
   exact rz J (by show vI (-1)=vI _;congr 1;unfold nP;simp_all)
def Hr{α:Type}{p:α->Bool}: ∀{xs:List α} {n:Nat},n<=xs.length->(∀j (h:j<xs.length),j<n->p xs[j]=true)->(∀h:n<xs.length,p xs[n]=false)->(xs.takeWhile p).length=n
 |[],n,h,_,_=>by simp at h;subst h;rfl
 |x::xs,0,_,_,h3=>by
  have:=h3 (by simp);simp only[pY] at this;simp[oS,this]
 |x::xs,n+1,h1,h2,h3=>by
  have hx:=h2 0 (by simp) (by omega);simp only[pY] at hx;rw[oS,if_pos hx,bX];rw[Hr (n:=n) (by simpa using h1) (fun j h hj=>by have:=h2 (j+1) (by simpa using h) (by omega);simpa using this) (fun h=>by have:=h3 (by simpa using h);simpa using this)]
def Nf{xs:List aa}{l:aa}{n:Nat}(h1:n<=xs.length)(h2: ∀j (h:j<xs.length),j<n->co xs[j].dir l.dir<0)(h3: ∀h:n<xs.length,¬co xs[n].dir l.dir<0):oh xs l=n:=
 Hr h1 (fun j h hj=>decide_eq_true (h2 j h hj)) (fun h=>decide_eq_false (h3 h))
def Vi{xs:List aa}{l:aa}{n:Nat}(hn:oh xs l=n)(h:n<xs.length)(e:xs[n]=l):pw xs l=xs:=by
 unfold pw;rw[hn,if_pos (by rw[aZ h,e])]
def Lb{xs:List aa}{l:aa}{n:Nat}(hn:oh xs l=n)(h: ∀h:n<xs.length,xs[n]≠l):pw xs l=xs.take n++l::xs.drop n:=by
 unfold pw;rw[hn,if_neg];intro e;obtain⟨h1,h2⟩:=aS.1 e;exact h h1 h2
def PQ(xs:List aa)(n:Nat):cP 6 ((xs.map eL).take n):=fun d hd=>gm xs d (dZ hd)
def F9(xs:List aa)(n m:Nat):cP 6 (((xs.map eL).take n).drop m):=fun d hd=>gm xs d (dZ (gS hd))
def TE(xs:List aa)(n m:Nat)(l:aa):cP 6 ([eL l]++((xs.map eL).take n).drop m):=fun d hd=>by
 rcases bK.1 hd with h|h
 ·exact gm [l] d h
 ·exact F9 xs n m d h
structure l9 (c:List aa) (k:Nat) (xs:List aa):Prop where
 le:k<=c.length
 f:nH c (c.drop k) xs=e8 c
 m: ∀m∈xs,m∈c
 n:xs.length<=k
def l9.skip{c xs:List aa}{k:Nat}(h:l9 c k xs)(hk:k<c.length)(e:(fj c[k] c ah.all).isSome=false):l9 c (k+1) xs:=by
 have:=h.f;rw[bZ hk,nH,e] at this;exact⟨hk,this,h.m,by have:=h.n;omega⟩
def l9.ins{c xs ys:List aa}{k:Nat}(h:l9 c k xs)(hk:k<c.length)(e:(fj c[k] c ah.all).isSome=true)(hy:pw xs c[k]=ys)(hl:ys.length<=xs.length+1):l9 c (k+1) ys:=by
 have:=h.f;rw[bZ hk,nH,e,if_pos J,hy] at this;refine⟨hk,this,fun m hm=>?_,by have:=h.n;omega⟩;rw[<-hy] at hm;rcases Gj.1 hm with rfl|hm
 ·exact bM hk
 ·exact h.m m hm
def l9.done{c xs:List aa}{k:Nat}(h:l9 c k xs)(hk:k=c.length):e8 c=xs:=by
 have:=h.f;rw[hk,fV,nH] at this;exact this.symm
def ru(c:List aa):Bool:=if(((c.map eL).length:Nat):Int)=0 then true else decide ((0:Int)<((((e8 c).map eL).length:Nat):Int))
def l9.nil(c:List aa):l9 c 0 []:=⟨bV _,J,fun m hm=>absurd hm (by simp),aN _⟩
def UG{c:List aa}(hc: ∀m∈c,LB m)(hok: ∀m∈c,m.ok)(hn:c.length<=1000):PF GB prog 151 [.sl (c.map eL)] (.tp [.sl ((e8 c).map eL),vB (ru c)]):=by
 have hcl:=wU c;refine fn (fu:=⟨16⟩) func151 J J ntmps151 J J (fun C=>?_);refine aj 11 (.d (vI (c.length:Nat))) J (by rw[hcl];rfl) ?_;refine gx J<|?_;refine Dd 4 J ?_;refine lp (X:=List aa×Nat) (fun⟨xs,k⟩=>[(12, .d (vI (k:Nat))),(11, .d (vI (c.length:Nat))),(10, .d (.sl (c.map eL))),(0, .d (.sl (c.map eL))),(4, .d (.sl (xs.map eL)))]) (fun⟨xs,k⟩=>[]) (fun⟨xs,k⟩=>l9 c k xs) (fun⟨xs,k⟩=>c.length-k) ⟨[],0⟩ J (l9.nil c) (fun _=>J) (fun⟨xs,k⟩ hk=>?_)
 try dsimp only at hk⊢
 have hS:=hk;refine br J J J (fun hc13=>?_) (fun hc13=>?_)
 .
  have hk:k<c.length:=by omega
  obtain⟨m,hm⟩: ∃m,m=c[k]:=⟨_,rfl⟩;haveI hmb:LB m:=hm▸hc _ (bM hk);have hmo:m.ok:=hm▸hok _ (bM hk);have hxl:=wU xs;have hxn:=hS.n;refine ix (fu:=⟨1⟩) _ J (xz hk) J<|?_;refine aj 16 (.d (eL m)) J (by rw[hm];rfl) ?_;refine gx J<|cl J (QG hc hok hn hk) J<|?_;refine bb (fu2:=⟨8⟩) J J J (fun hc24=>?_) (fun hc24=>?_)
  .
   have hinv:l9 c (k+1) xs:=hS.skip hk (by rw[<-wg];simpa using hc24);exact at_ ⟨xs,k+1⟩ (by dsimp only;exact⟨hinv,(by omega)⟩)
  .
   have hyes:(fj c[k] c ah.all).isSome=true:=by rw[<-wg];simpa using hc24
   refine mg (fu:=⟨6⟩) (X:=Unit) (fun _=>[(12, .d (vI (k:Nat))),(11, .d (vI (c.length:Nat))),(10, .d (.sl (c.map eL))),(0, .d (.sl (c.map eL))),(4, .d (.sl (xs.map eL))),(6, .ov 6 0),(9, .d (vI (oh xs m:Nat)))]) (fun _=>[(6,some (.o 175 [.d ((.v (.bool (decide (m.a<0))))), .d (dN m.a.natAbs), .d ((.v (.bool (decide (m.b<0))))), .d (dN m.b.natAbs), .d ((.v (.bool (decide (m.c<0))))), .d (dN m.c.natAbs)] true))]) (fun _=>True) [12,11,10,0,4,6,9] [6] rfl ?_ (fun _=>J) (fun _ _=>?_)
   .
    refine gx J<|?_;refine lp (fu:=⟨6⟩) (X:=Nat) (fun n=>[(12, .d (vI (k:Nat))),(11, .d (vI (c.length:Nat))),(10, .d (.sl (c.map eL))),(0, .d (.sl (c.map eL))),(4, .d (.sl (xs.map eL))),(6, .ov 6 0),(9, .d (vI (n:Nat)))]) (fun n=>[(6,some (.o 175 [.d ((.v (.bool (decide (m.a<0))))), .d (dN m.a.natAbs), .d ((.v (.bool (decide (m.b<0))))), .d (dN m.b.natAbs), .d ((.v (.bool (decide (m.c<0))))), .d (dN m.c.natAbs)] true))]) (fun n=>n<=xs.length/\ ∀j (h:j<xs.length),j<n->co xs[j].dir m.dir<0) (fun n=>xs.length-n) 0 J ⟨bV _,fun j _ hj=>absurd hj (by omega)⟩ (fun _=>J) (fun n hk=>?_);obtain⟨n1,n2⟩:=hk;refine ml J J J J (fun hg28=>?_) (fun hg28=>?_)
    .
     refine ix _ J (xz (by omega)) J<|?_;haveI:LB (xs[n]'(by omega)):=hc _ (hS.m _ (bM _));refine cl J (vG (l:=xs[n]'(by omega))) J<|cl J (vG (l:=m)) J<|cl J (Z9 (u:=(xs[n]'(by omega)).dir) (v:=m.dir)) J<|?_;refine br J J J (fun hc39=>?_) (fun hc39=>?_)
     .
      exact at_ (n+1) ⟨⟨by omega,fun j h hj=>by by_cases q:j=n;(subst q;exact hc39);exact n2 j h (by omega)⟩,(by omega)⟩
     .
      have hidx:oh xs m=n:=Nf n1 n2 (fun h=>hc39);exact at_ () trivial
    .
     have hidx:oh xs m=n:=Nf n1 n2 (fun h=>absurd h (by omega));exact at_ () trivial
   .
    obtain⟨n,hnx⟩: ∃n,oh xs m=n:=⟨_,rfl⟩;rw[hnx];have hnl:n<=xs.length:=by rw[<-hnx];unfold oh;exact(List.takeWhile_sublist _).length_le
    have hcb: ∀m∈xs,LB m:=fun m hm=>hc m (hS.m m hm);refine ml J J J J (fun hg45=>?_) (fun hg45=>?_)
    .
     refine ix _ J (xz (by omega)) J<|cl J (E8 (l:=xs[n]'(by omega)) (m:=m) (hl:=hcb _ (bM (by omega)))) J<|?_;refine br J J J (fun hc54=>?_) (fun hc54=>?_)
     .
      have hn46:n<xs.length:=by omega
      have hinv:l9 c (k+1) xs:=hS.ins hk hyes (by rw[<-hm];exact Vi hnx hn46 ((Fo _ m).1 hc54)) (by omega);exact at_ ⟨xs,k+1⟩ (by dsimp only;exact⟨hinv,(by omega)⟩)
     .
      have hnew: ∀h:n<xs.length,xs[n]≠m:=fun h e=>hc54 ((Fo _ m).2 e);obtain⟨ys,hys⟩: ∃ys,ys=xs.take n++m::xs.drop n:=⟨_,rfl⟩;have hinv:l9 c (k+1) ys:=hS.ins hk hyes (by rw[<-hm,Lb hnx hnew,hys]) (by rw[hys];simp;omega);refine s3 n _ J J J J (gm _) (by rw[hxl];exact hnl) J<|ro J J<|m6 n xs.length _ J J (by rw[hxl]) J (gm _) hnl (by omega) J<|?_;refine ap _ J J (F9 _ _ _) J<|l8 (hv:=by simp only[ac];exact⟨by kernel_rfl,by omega⟩) (ho:=fun _=>⟨PQ _ _,by simp⟩) (ys.map eL) J (by rw[hys,bS,cK,gR,iM,aL (l:=xs.map eL) (i:=xs.length) (by simp)];rfl) (TE _ _ _ _) J<|?_;exact at_ ⟨ys,k+1⟩ (by dsimp only;exact⟨hinv,(by omega)⟩)
    .
     have hnew: ∀h:n<xs.length,xs[n]≠m:=fun h=>absurd h (by omega);obtain⟨ys,hys⟩: ∃ys,ys=xs.take n++m::xs.drop n:=⟨_,rfl⟩;have hinv:l9 c (k+1) ys:=hS.ins hk hyes (by rw[<-hm,Lb hnx hnew,hys]) (by rw[hys];simp;omega);refine s3 n _ J J J J (gm _) (by rw[hxl];exact hnl) J<|ro J J<|m6 n xs.length _ J J (by rw[hxl]) J (gm _) hnl (by omega) J<|?_;refine ap _ J J (F9 _ _ _) J<|l8 (hv:=by simp only[ac];exact⟨by kernel_rfl,by omega⟩) (ho:=fun _=>⟨PQ _ _,by simp⟩) (ys.map eL) J (by rw[hys,bS,cK,gR,iM,aL (l:=xs.map eL) (i:=xs.length) (by simp)];rfl) (TE _ _ _ _) J<|?_;exact at_ ⟨ys,k+1⟩ (by dsimp only;exact⟨hinv,(by omega)⟩)
 .
  have hfin:e8 c=xs:=hS.done (by have:=hS.le;omega);refine cs 71 J J J (fun hg71=>?_) (fun hg71=>?_)
  .
   exact rz J (by rw[ru,if_pos hg71,hfin];rfl)
  .
   exact rz J (by rw[ru,if_neg hg71,hfin];rfl)
section
variable {α:Type} (c:α->α->Int)
def du(x:α):List α->List α
 |[]=>[x]
 |u::t=>if c u x<0 then u::du x t else if c u x=0 then u::t else x::u::t
def jP(x:α)(xs:List α):Nat:=(xs.takeWhile fun u=>decide (c u x<0)).length
def Ei(x:α)(xs:List α):jP c x xs<=xs.length:=(List.takeWhile_sublist _).length_le
def uF{x:α}{xs:List α}{n:Nat}(h1:n<=xs.length)(h2: ∀j (h:j<xs.length),j<n->c xs[j] x<0)(h3: ∀h:n<xs.length,¬c xs[n] x<0):jP c x xs=n:=
 Hr h1 (fun j h hj=>decide_eq_true (h2 j h hj)) (fun h=>decide_eq_false (h3 h))
def Bv{x:α}: ∀{xs:List α} {n:Nat},jP c x xs=n->(h:n<xs.length)->c xs[n] x=0->du c x xs=xs
 |[],n,_,h,_=>by simp at h
 |u::t,n,hn,h,e=>by
  rw[du];unfold jP at hn;rw[oS] at hn;by_cases hu:c u x<0
  ·rw[if_pos hu]
   rw[if_pos (by simpa using hu)] at hn;obtain⟨k,rfl⟩: ∃k,n=k+1:=⟨n-1,by simp at hn;omega⟩;rw[Bv (xs:=t) (n:=k) (by unfold jP;simpa using hn) (by simpa using h) (by simpa using e)]
  ·rw[if_neg (by simpa using hu)] at hn
   simp at hn;subst hn;rw[if_neg hu,if_pos (by simpa using e)]
def tN{x:α}: ∀{xs:List α} {n:Nat},jP c x xs=n->(∀h:n<xs.length,c xs[n] x≠0)->du c x xs=xs.take n++x::xs.drop n
 |[],n,hn,_=>by simp[jP] at hn;subst hn;rfl
 |u::t,n,hn,e=>by
  rw[du];unfold jP at hn;rw[oS] at hn;by_cases hu:c u x<0
  ·rw[if_pos hu]
   rw[if_pos (by simpa using hu)] at hn;obtain⟨k,rfl⟩: ∃k,n=k+1:=⟨n-1,by simp at hn;omega⟩;rw[tN (xs:=t) (n:=k) (by unfold jP;simpa using hn) (fun h=>by have:=e (by simpa using h);simpa using this)];simp
  ·rw[if_neg (by simpa using hu)] at hn
   simp at hn;subst hn;have:=e (by simp);rw[if_neg hu,if_neg (by simpa using this)];rfl
def DJ(x:α): ∀(xs:List α),(du c x xs).length<=xs.length+1
 |[]=>aN _
 |u::t=>by
  have:=DJ x t;rw[du];split
  ·simp;omega
  ·split<;>simp
def Kn{x y:α}: ∀{xs:List α},y∈du c x xs->y=x\/y∈xs
 |[],h=>by rw[du,aU] at h;exact .inl h
 |u::t,h=>by
  rw[du] at h;split at h
  ·rcases aW.1 h with rfl|h
   ·exact .inr aQ
   ·rcases Kn h with h|h
    ·exact .inl h
    ·exact .inr (aJ _ h)
  ·split at h
   ·exact .inr h
   ·rcases aW.1 h with rfl|h
    ·exact .inl J
    ·exact .inr h
def s6(l:List α):List α:=l.foldl (fun out x=>du c x out) []
def Tf: ∀(l o:List α),(l.foldl (fun out x=>du c x out) o).length<=l.length+o.length
 |[],o=>by simp
 |x::t,o=>by
  have:=Tf t (du c x o);have:=DJ c x o;simp only[jZ,bX];omega
def Fj{y:α}: ∀{l o:List α},y∈l.foldl (fun out x=>du c x out) o->y∈l\/y∈o
 |[],o,h=> .inr h
 |x::t,o,h=>by
  rcases Fj (l:=t) h with h|h
  ·exact .inl (aJ _ h)
  ·rcases Kn c h with rfl|h
   ·exact .inl aQ
   ·exact .inr h
end
def AU{x:Rat}: ∀{l:List Rat},mH x l=du bg x l
 |[]=>rfl
 |u::t=>by
  have e1:bg u x<0↔u<x:=A5 u x;have e2:bg u x=0↔u=x:=tC u x;rw[mH,du,AU (l:=t)];by_cases h:u<x
  ·rw[if_pos h,if_pos (e1.2 h)]
  ·rw[if_neg h,if_neg (fun e=>h (e1.1 e))]
   by_cases h2:u=x
   ·rw[if_pos h2,if_pos (e2.2 h2)]
   ·rw[if_neg h2,if_neg (fun e=>h2 (e2.1 e))]
def uO{α β:Type}{f:α->β}{l:List α}{k:Nat}{x:α}(h:l[k]? =some x):(l.take k).map f++[f x]=(l.take (k+1)).map f:=by
 rw[iQ,h,bS];rfl
def Ox{a i:Nat}[ha:BN a i](hi:i<=400000000:=by decide):PF GB prog 126 [dN a] (dN a):=by
 have hl:=fg (dg a);have hb:=lw ha.h;refine fn func126 J J ntmps126 J J (fun C=>?_);refine rp J J<|ap ((dg a).map dU) J J (vK _) J<|?_;refine iE 5 J ?_;exact rz J J
def Fa{z:Int}{i:Nat}[hz:BI z i](hi:i<=400000000:=by decide):PF GB prog 125 [eI z] (eI z):=by
 refine fn func125 J J ntmps125 J J (fun C=>?_);refine cl J (Ox (a:=z.natAbs) (i:=i) (ha:=⟨hz.h⟩) hi) J<|?_;exact rz J J
def WP{l:aa}(hl:BL l 96):PF GB prog 86 [eL l] (eL l):=by
 haveI h1:BI l.a 96:=⟨hl.a⟩;haveI h2:BI l.b 96:=⟨hl.b⟩;haveI h3:BI l.c 96:=⟨hl.c⟩;refine fn func86 J J ntmps86 J J (fun C=>?_);refine cl J (Fa (z:=l.a)) J<|cl J (Fa (z:=l.b)) J<|cl J (Fa (z:=l.c)) J<|?_;exact rz J J
def NT{ds:List Nat}(hd:bi ds)(hn:ds.length<=1000000):PF GB prog 52 [fp ds] (dN (dv ds)):=by
 have hm:=fg ds;refine fn func52 J J ntmps52 J J (fun C=>?_);refine rp J J<|ap (ds.map dU) J J (vK _) J<|fz 5 J J<|cl J (rH (ds:=ds) (by omega)) J<|?_;exact rz J (by unfold dN;rw[qe hd];rfl)
def Zd{neg:Bool}{ds:List Nat}(hd:bi ds)(hn:ds.length<=1000000):PF GB prog 53 [.ag [.v (.bool neg),fp ds]] (eI (o4 neg ds)):=by
 refine fn func53 J J ntmps53 J J (fun C=>?_);refine cl J (NT hd hn) J<|cl J kB J<|?_;exact rz J J
def rlD(r:RL):DV:= .tp [if r.nm then eL r.l else .ag [.v (.bool false), .sl [], .v (.bool false), .sl [], .v (.bool false), .sl []],vB (decide (r.nm/\r.l.ok))]
def smB(n:Int)(ls:List (List Nat)):Bool:=ls.all fun d=>decide ((d.length:Int)<=n)
def RL.smB(n:Int)(r:RL):Bool:=Sx.smB n [r.da,r.db,r.dc]
def rlB(n:Int)(ls:List RL):Bool:=ls.all fun r=>r.smB n
def aHo{n i:Nat}[h:BN n i](hi:i<=20000000:=by decide):PF GB prog 52 [dN n] (dN n):=by
 have hl:=lw h.h;have:=NT (GB:=GB) (ds:=dg n) (kG n) (by omega);rw[ck,<-Iy] at this;exact this
def Vf(z:Int):o4 (decide (z<0)) (dg z.natAbs)=z:=by
 unfold o4;rw[ck];split<;>(rename_i h;simp at h;omega)
def VL{z:Int}{i:Nat}[h:BI z i](hi:i<=20000000:=by decide):PF GB prog 53 [eI z] (eI z):=by
 have hl:=lw h.h;have:=Zd (GB:=GB) (neg:=decide (z<0)) (ds:=dg z.natAbs) (kG _) (by omega);rw[Vf,<-Iy] at this;exact this
def aGG{n:Nat}(h:0<n): ¬((((dg n).map dU).length:Nat):Int)=0:=by
 rw[aK];have:=xg (n:=n);omega
instance BQ.m1':BQ (((-1:Int):Int):Rat) 2:=⟨by decide,by decide⟩
instance BQ.m1:BQ (-1:Rat) 2:=⟨by decide,by decide⟩
def Jq{q:Rat}{i:Nat}[h:BQ q i](hi:i<=20000000:=by decide):PF GB prog 14 [eR q] (eQ q):=by
 have hd:=q.den_pos;refine fn func14 J J ntmps14 J J (fun C=>?_);refine cl (fu:=⟨8⟩) J (aHo (n:=q.den) hi) J<|cG J (by show some (decide _)=some false;rw[decide_eq_false (aGG hd)]) J<|cl J (VL (z:=q.num) hi) J<|?_;refine cl J (uT (x:=q.num) (d:=q.den) hd (by omega) (by omega)) J<|?_;exact rz J (by rw[tJ];rfl)
def JQ{q:Rat}{i:Nat}[h:BQ q i](hi:i<=400000000:=by decide):PF GB prog 61 [eQ q] (eR q):=by
 refine fn func61 J J ntmps61 J J (fun C=>?_);refine cl J (Fa (z:=q.num) hi) J<|cl J (kz (q:=q)) J<|cl J (Ox (a:=q.den) hi) J<|?_;exact rz J J
def Dg{p:ab}{i:Nat}[h:ay p i](hi:i<=20000000:=by decide):PF GB prog 23 [jG p] (eP p):=by
 refine fn func23 J J ntmps23 J J (fun C=>?_);refine cl J (Jq (q:=p.x) hi) J<|cl J (Jq (q:=p.y) hi) J<|?_;exact rz J J
def H'{p:ab}{i:Nat}[h:ay p i](hi:i<=20000:=by decide):PF GB prog 30 [eP p] (jG p):=by
 refine fn func30 J J ntmps30 J J (fun C=>?_);refine cl J (JQ (q:=p.x) (i:=i) (by omega)) J<|cl J (JQ (q:=p.y) (i:=i) (by omega)) J<|?_;exact rz J J
def gj{α:Type}(f:α->DV)(l:List α):(l.map f).length=l.length:=aK ..
def qg(ps:List ab):cP 6 (ps.map eP):=fun d hd=>by
 obtain⟨u,_,rfl⟩:=bQ.1 hd;exact⟨rfl,rfl⟩
def aEt(ps:List ab):cP 6 (ps.map jG):=fun d hd=>by
 obtain⟨u,_,rfl⟩:=bQ.1 hd;exact⟨rfl,rfl⟩
def ZE{ps:List ab}(hb: ∀p∈ps,ay p 1200)(hn:ps.length<=1000000):PF GB prog 119 [.sl (ps.map jG)] (.sl (ps.map eP)):=by
 have hm:=gj jG ps;refine fn (fu:=⟨15⟩) func119 J J ntmps119 J J (fun C=>?_);refine aj 7 (.d (vI (ps.length:Nat))) J (by rw[hm]<;>rfl) ?_;refine gx J<|?_;refine nr 3 3 62 6 J J J ?_;refine lp (X:=Nat) (fun k=>[(8, .d (vI (k:Nat))),(3, .rw 3)]) (fun k=>[(3,some (.b 62 6 ((ps.take k).map eP) true))]) (fun k=>k<=ps.length) (fun k=>ps.length-k) 0 J (bV _) (fun _=>J) (fun k hk=>?_);have hml:=gj eP (ps.take k);rw[cW] at hml;refine br J J J (fun hc9=>?_) (fun hc9=>?_)
 .
  obtain⟨z,hz⟩: ∃s,ps[k]? =some s:=⟨_,aZ (by omega)⟩;have hzm:=aT hz;refine ix _ J (d8 hz) J<|cl J (Dg (p:=z) (h:=hb z hzm)) J<|rf J J<|ap ((ps.take (k+1)).map eP) J (uO hz) (qg [z]) J<|?_;refine gI 16 3 J ?_;exact at_ (k+1) ⟨(by omega),(by omega)⟩
 .
  obtain rfl:k=ps.length:=by omega
  refine iE 3 J ?_;exact rz J (by rw[dJ];rfl)
def Pj{ps:List ab}(hb: ∀p∈ps,ay p 1200)(hn:ps.length<=1000000):PF GB prog 56 [.sl (ps.map eP)] (.sl (ps.map jG)):=by
 have hm:=gj eP ps;refine fn (fu:=⟨15⟩) func56 J J ntmps56 J J (fun C=>?_);refine aj 7 (.d (vI (ps.length:Nat))) J (by rw[hm]<;>rfl) ?_;refine gx J<|?_;refine nr 3 3 65 6 J J J ?_;refine lp (X:=Nat) (fun k=>[(8, .d (vI (k:Nat))),(3, .rw 3)]) (fun k=>[(3,some (.b 65 6 ((ps.take k).map jG) true))]) (fun k=>k<=ps.length) (fun k=>ps.length-k) 0 J (bV _) (fun _=>J) (fun k hk=>?_);have hml:=gj jG (ps.take k);rw[cW] at hml;refine br J J J (fun hc9=>?_) (fun hc9=>?_)
 .
  obtain⟨z,hz⟩: ∃s,ps[k]? =some s:=⟨_,aZ (by omega)⟩;have hzm:=aT hz;refine ix _ J (d8 hz) J<|cl J (H' (p:=z) (h:=hb z hzm)) J<|rf J J<|ap ((ps.take (k+1)).map jG) J (uO hz) (aEt [z]) J<|?_;refine gI 16 3 J ?_;exact at_ (k+1) ⟨(by omega),(by omega)⟩
 .
  obtain rfl:k=ps.length:=by omega
  refine iE 3 J ?_;exact rz J (by rw[dJ];rfl)
def PA{p q:ab}{i j:Nat}[hp:ay p i][hq:ay q j](hi:i<=100000:=by decide)(hj:j<=100000:=by decide):PF GB prog 275 [eP p,eP q] (eP (bF p q (-1))):=by
 refine fn func275 J J ntmps275 J J (fun C=>?_);refine cl J (ku (n:= -1) (by decide) (by decide)) J<|cl J (A8 (p:=p) (q:=q) (c:=((-1:Int):Rat)) (i:=i) (j:=j) (k:=2) (by omega) (by omega)) J<|?_;exact rz J (by rw[show((-1:Int):Rat)= -1 from J];rfl)
def Rx{a b c:ab}{i j k:Nat}[ha:ay a i][hb:ay b j][hc:ay c k](hi:i<=80000:=by decide)(hj:j<=80000:=by decide)(hk:k<=80000:=by decide):PF GB prog 278 [eP a,eP b,eP c] (vI (zc a b c)):=by
 refine fn func278 J J ntmps278 J J (fun C=>?_);refine cl J (PA (p:=b) (q:=a) (i:=j) (j:=i) (by omega) (by omega)) J<|cl J (PA (p:=c) (q:=a) (i:=k) (j:=i) (by omega) (by omega)) J<|?_;refine cl J (E2 (p:=bF b a (-1)) (q:=bF c a (-1)) (by omega) (by omega)) J<|cl J (qO (q:=(bF b a (-1)).cross (bF c a (-1)))) J<|?_;exact rz J J
def f9(p q:ab):Int:=if bg p.x q.x≠0 then bg p.x q.x else bg p.y q.y
def QM{p q:ab}{i j:Nat}[hp:ay p i][hq:ay q j](hi:i<=100000:=by decide)(hj:j<=100000:=by decide):PF GB prog 211 [eP p,eP q] (vI (f9 p q)):=by
 refine fn func211 J J ntmps211 J J (fun C=>?_);refine cl J (jm (a:=p.x) (b:=q.x) (by omega) (by omega)) J<|?_;refine br J J J (fun hc12=>?_) (fun hc12=>?_)
 .
  exact rz J (by unfold f9;rw[if_pos hc12];rfl)
 .
  refine cl J (jm (a:=p.y) (b:=q.y) (by omega) (by omega)) J<|?_;exact rz J (by unfold f9;rw[if_neg hc12];rfl)
def p6(l:aa):Bool:=decide (l.a<0\/(l.a=0/\l.b<0))
def aa.canon(l:aa):aa:=if p6 l then l.rev else l
def Bj(a:Int):a.sign<0↔a<0:=by
 rcases lU a 0 with h|h|h
 ·rw[fK h];omega
 ·subst h;simp
 ·rw[fW h];omega
def Nq(a:Int):a.sign=0↔a=0:=jU
def SC{l:aa}(h:l.a<0\/(l.a=0/\l.b<0)):DV.tp [eL l.canon,vB (p6 l)]= .tp [eL l.rev,vB true]:=by
 unfold aa.canon p6;rw[decide_eq_true h];rfl
def RC{l:aa}(h: ¬(l.a<0\/(l.a=0/\l.b<0))):DV.tp [eL l.canon,vB (p6 l)]= .tp [eL l,vB false]:=by
 unfold aa.canon p6;rw[decide_eq_false h];rfl
def U1{l:aa}[hl:LB l]:PF GB prog 178 [eL l] (.tp [eL l.canon,vB (p6 l)]):=by
 refine fn func178 J J ntmps178 J J (fun C=>?_);refine cl J (Dp (z:=l.a)) J<|?_;refine cs 10 J J J (fun hg10=>?_) (fun hg10=>?_)
 .
  refine cl J (An (l:=l)) J<|?_;exact rz J (by rw[SC (.inl ((Bj _).1 hg10))];rfl)
 .
  refine cs 13 J J J (fun hg13=>?_) (fun hg13=>?_)
  .
   refine cl J (Dp (z:=l.b)) J<|?_;refine br J J J (fun hc19=>?_) (fun hc19=>?_)
   .
    refine cl J (An (l:=l)) J<|?_;exact rz J (by rw[SC (.inr ⟨(Nq _).1 hg13,(Bj _).1 hc19⟩)];rfl)
   .
    exact rz J (by rw[RC (fun e=>e.elim (fun e=>hg10 ((Bj _).2 e)) (fun e=>hc19 ((Bj _).2 e.2)))];rfl)
  .
   exact rz J (by rw[RC (fun e=>e.elim (fun e=>hg10 ((Bj _).2 e)) (fun e=>hg13 ((Nq _).2 e.1)))];rfl)
instance LB.canon (l:aa) [h:LB l]:LB l.canon:=by unfold aa.canon;split;exact LB.rev h;exact h
def r6{α β:Type}(c:β->β->Int)(g:α->β)(l:List α)(k:Nat):List β:=s6 c ((l.take k).map g)
section
variable {α β:Type} {c:β->β->Int} {g:α->β} {l:List α} {k:Nat}
def Ao{x:α}(h:l[k]? =some x):r6 c g l (k+1)=du c (g x) (r6 c g l k):=by
 unfold r6 s6;rw[iQ,h,Option.toList_some,bS,pL];rfl
def Qy(h:k=l.length):r6 c g l k=s6 c (l.map g):=by unfold r6;rw[h,dJ]
def Lh:(r6 c g l k).length<=k:=by
 have:=Tf c ((l.take k).map g) [];have h2:((l.take k).map g).length<=k:=by rw[aK,cW];omega
 rw[fU] at this;unfold r6 s6;omega
def MW{y:β}(h:y∈r6 c g l k): ∃x∈l,y=g x:=by
 rcases Fj c h with h|h
 ·obtain⟨x,hx,rfl⟩:=bQ.1 h
  exact⟨x,dZ hx,J⟩
 ·cases h
end
def uv{α:Type}{f:α->DV}{s:Nat}(ok: ∀l:List α,cP s (l.map f))(xs:List α)(n:Nat):cP s ((xs.map f).take n):=fun d hd=>ok xs d (dZ hd)
def tk{α:Type}{f:α->DV}{s:Nat}(ok: ∀l:List α,cP s (l.map f))(xs:List α)(n m:Nat):cP s (((xs.map f).take n).drop m):=fun d hd=>ok xs d (dZ (gS hd))
def vm{α:Type}{f:α->DV}{s:Nat}(ok: ∀l:List α,cP s (l.map f))(xs:List α)(n m:Nat)(x:α):cP s ([f x]++((xs.map f).take n).drop m):=fun d hd=>by
 rcases bK.1 hd with h|h
 ·exact ok [x] d h
 ·exact tk ok xs n m d h
def rF{α:Type}{f:α->DV}{l:List α}{i:Nat}(h:i<l.length):(l.map f)[(i:Int).toNat]? =some (f l[i]):=by
 rw[bJ,cV,aZ h];rfl
def W1{ps:List ab}(hb: ∀p∈ps,ay p 1200)(hn:ps.length<=100000):PF GB prog 156 [.sl (ps.map eP)] (.sl ((s6 f9 ps).map eP)):=by
 have hm':=gj eP ps;refine fn (fu:=⟨15⟩) func156 J J ntmps156 J J (fun C=>?_);refine aj 8 (.d (vI (ps.length:Nat))) J (by rw[hm'];rfl) ?_;refine gx J<|?_;refine Dd 3 J ?_;refine lp (X:=List ab×Nat) (fun⟨xs,k⟩=>[(9, .d (vI (k:Nat))),(8, .d (vI (ps.length:Nat))),(7, .d (.sl (ps.map eP))),(0, .d (.sl (ps.map eP))),(3, .d (.sl (xs.map eP)))]) (fun⟨xs,k⟩=>[]) (fun⟨xs,k⟩=>xs=r6 f9 id ps k/\k<=ps.length) (fun⟨xs,k⟩=>ps.length-k) ⟨[],0⟩ J ⟨J,bV _⟩ (fun _=>J) (fun⟨xs,k⟩ hk=>?_)
 try dsimp only at hk⊢
 obtain⟨hS,hkl⟩:=hk;refine br J J J (fun hc10=>?_) (fun hc10=>?_)
 .
  have hk:k<ps.length:=by omega
  obtain⟨m,hm⟩: ∃m,m=ps[k]:=⟨_,rfl⟩;have hz:ps[k]? =some m:=by rw[hm];exact aZ hk
  haveI hmb:ay m 1200:=hm▸hb _ (bM hk);have hxl:=gj eP xs;have hxn:xs.length<=k:=by rw[hS];exact Lh
  have hxb: ∀q∈xs,ay q 1200:=fun q hq=>by rw[hS] at hq;obtain⟨z,hz,he⟩:=MW hq;rw[he];exact hb z hz
  refine ix (fu:=⟨1⟩) _ J (rF hk) J<|?_;refine aj 12 (.d (eP m)) J (by rw[hm];rfl) ?_;refine gx (fu:=⟨10⟩) J<|?_;refine mg (fu:=⟨5⟩) (X:=Unit) (fun _=>[(9, .d (vI (k:Nat))),(8, .d (vI (ps.length:Nat))),(7, .d (.sl (ps.map eP))),(0, .d (.sl (ps.map eP))),(3, .d (.sl (xs.map eP))),(5, .ov 5 0),(6, .d (vI (jP f9 m xs:Nat)))]) (fun _=>[(5,some (.o 62 [.d ((.v (.bool (decide (m.x.num<0))))), .d (dN m.x.num.natAbs), .d (dD m.x.den), .d ((.v (.bool (decide (m.y.num<0))))), .d (dN m.y.num.natAbs), .d (dD m.y.den)] true))]) (fun _=>True) [9,8,7,0,3,5,6] [5] rfl ?_ (fun _=>J) (fun _ _=>?_)
  .
   refine gx J<|?_;refine lp (fu:=⟨6⟩) (X:=Nat) (fun n=>[(9, .d (vI (k:Nat))),(8, .d (vI (ps.length:Nat))),(7, .d (.sl (ps.map eP))),(0, .d (.sl (ps.map eP))),(3, .d (.sl (xs.map eP))),(5, .ov 5 0),(6, .d (vI (n:Nat)))]) (fun n=>[(5,some (.o 62 [.d ((.v (.bool (decide (m.x.num<0))))), .d (dN m.x.num.natAbs), .d (dD m.x.den), .d ((.v (.bool (decide (m.y.num<0))))), .d (dN m.y.num.natAbs), .d (dD m.y.den)] true))]) (fun n=>n<=xs.length/\ ∀j (h:j<xs.length),j<n->f9 xs[j] m<0) (fun n=>xs.length-n) 0 J ⟨bV _,fun j _ hj=>absurd hj (by omega)⟩ (fun _=>J) (fun n hk=>?_);obtain⟨n1,n2⟩:=hk;refine ml (v2:=fun hg16=>by simp only[ac];kernel_rfl) J J J J (fun hg16=>?_) (fun hg16=>?_)
   .
    refine ix _ J (rF (by omega)) J<|cl J (QM (p:=xs[n]'(by omega)) (q:=m) (hp:=hxb _ (bM (by omega))) (hq:=hmb)) J<|?_;refine br J J J (fun hc25=>?_) (fun hc25=>?_)
    .
     exact at_ (n+1) ⟨⟨by omega,fun j h hj=>by by_cases q:j=n;(subst q;exact hc25);exact n2 j h (by omega)⟩,(by omega)⟩
    .
     have hidx:jP f9 m xs=n:=uF f9 n1 n2 (fun h=>hc25);exact at_ () trivial
   .
    have hidx:jP f9 m xs=n:=uF f9 n1 n2 (fun h=>absurd h (by omega));exact at_ () trivial
  .
   obtain⟨n,hnx⟩: ∃n,jP f9 m xs=n:=⟨_,rfl⟩;rw[hnx];have hnl:n<=xs.length:=by rw[<-hnx];exact Ei _ _ _
   refine ml (v1:=fun hg31=>by simp only[ac];kernel_rfl) J J J J (fun hg31=>?_) (fun hg31=>?_)
   .
    have hnew: ∀h:n<xs.length,f9 xs[n] m≠0:=fun h=>absurd h (by omega);obtain⟨ys,hys⟩: ∃ys,ys=xs.take n++m::xs.drop n:=⟨_,rfl⟩;have hin:du f9 m xs=ys:=by rw[hys];exact tN f9 hnx hnew
    have hyl:ys.length<=xs.length+1:=by rw[hys];simp;omega
    refine s3 n _ J J J J (qg _) (by rw[hxl];exact hnl) J<|ro J J<|m6 n xs.length _ J J (by rw[hxl]) J (qg _) hnl (by omega) J<|?_;refine ap _ J J (tk qg _ _ _) J<|l8 (hv:=by simp only[ac];exact⟨by kernel_rfl,by omega⟩) (ho:=fun _=>⟨uv qg _ _,by simp⟩) (ys.map eP) J (by rw[hys,bS,cK,gR,iM,aL (l:=xs.map eP) (i:=xs.length) (by simp)];rfl) (vm qg _ _ _ _) J<|?_;exact at_ ⟨ys,k+1⟩ (by dsimp only;exact⟨⟨by rw[Ao hz,<-hS];exact hin.symm,by omega⟩,(by omega)⟩)
   .
    refine ix _ J (rF (by omega)) J<|cl J (QM (p:=xs[n]'(by omega)) (q:=m) (hp:=hxb _ (bM (by omega))) (hq:=hmb)) J<|?_;refine br J J J (fun hc40=>?_) (fun hc40=>?_)
    .
     have hnew: ∀h:n<xs.length,f9 xs[n] m≠0:=fun h=>hc40;obtain⟨ys,hys⟩: ∃ys,ys=xs.take n++m::xs.drop n:=⟨_,rfl⟩;have hin:du f9 m xs=ys:=by rw[hys];exact tN f9 hnx hnew
     have hyl:ys.length<=xs.length+1:=by rw[hys];simp;omega
     refine s3 n _ J J J J (qg _) (by rw[hxl];exact hnl) J<|ro J J<|m6 n xs.length _ J J (by rw[hxl]) J (qg _) hnl (by omega) J<|?_;refine ap _ J J (tk qg _ _ _) J<|l8 (hv:=by simp only[ac];exact⟨by kernel_rfl,by omega⟩) (ho:=fun _=>⟨uv qg _ _,by simp⟩) (ys.map eP) J (by rw[hys,bS,cK,gR,iM,aL (l:=xs.map eP) (i:=xs.length) (by simp)];rfl) (vm qg _ _ _ _) J<|?_;exact at_ ⟨ys,k+1⟩ (by dsimp only;exact⟨⟨by rw[Ao hz,<-hS];exact hin.symm,by omega⟩,(by omega)⟩)
    .
     have hin:du f9 m xs=xs:=Bv f9 hnx (by omega) (Decidable.not_not.1 hc40);exact at_ ⟨xs,k+1⟩ (by dsimp only;exact⟨⟨by rw[Ao hz,<-hS];exact hin.symm,by omega⟩,(by omega)⟩)
 .
  have hfin:s6 f9 ps=xs:=by rw[hS,Qy (by omega),List.map_id]
  exact rz J (by rw[hfin];rfl)
def wo(ls:List aa):List aa:=s6 i6 (ls.map aa.canon)
def YT{ls:List aa}(hb: ∀p∈ls,LB p)(hn:ls.length<=100000):PF GB prog 120 [.sl (ls.map eL)] (.sl ((wo ls).map eL)):=by
 have hm':=gj eL ls;refine fn (fu:=⟨15⟩) func120 J J ntmps120 J J (fun C=>?_);refine aj 8 (.d (vI (ls.length:Nat))) J (by rw[hm'];rfl) ?_;refine gx J<|?_;refine Dd 3 J ?_;refine lp (X:=List aa×Nat) (fun⟨xs,k⟩=>[(9, .d (vI (k:Nat))),(8, .d (vI (ls.length:Nat))),(7, .d (.sl (ls.map eL))),(0, .d (.sl (ls.map eL))),(3, .d (.sl (xs.map eL)))]) (fun⟨xs,k⟩=>[]) (fun⟨xs,k⟩=>xs=r6 i6 aa.canon ls k/\k<=ls.length) (fun⟨xs,k⟩=>ls.length-k) ⟨[],0⟩ J ⟨J,bV _⟩ (fun _=>J) (fun⟨xs,k⟩ hk=>?_)
 try dsimp only at hk⊢
 obtain⟨hS,hkl⟩:=hk;refine br J J J (fun hc10=>?_) (fun hc10=>?_)
 .
  have hk:k<ls.length:=by omega
  obtain⟨z,hm⟩: ∃m,m=ls[k]:=⟨_,rfl⟩;have hz:ls[k]? =some z:=by rw[hm];exact aZ hk
  haveI hzb:LB z:=hm▸hb _ (bM hk);obtain⟨m,hmc⟩: ∃m,m=z.canon:=⟨_,rfl⟩;haveI hmb:LB m:=by rw[hmc];infer_instance
  have hxl:=gj eL xs;have hxn:xs.length<=k:=by rw[hS];exact Lh
  have hxb: ∀q∈xs,LB q:=fun q hq=>by rw[hS] at hq;obtain⟨z,hz,rfl⟩:=MW hq;haveI:=hb z hz;infer_instance
  refine ix (fu:=⟨1⟩) _ J (rF hk) J<|?_;refine aj 12 (.d (eL z)) J (by rw[hm];rfl) ?_;refine gx J<|cl (fu:=⟨2⟩) J (U1 (l:=z)) J<|?_;refine aj 16 (.d (eL m)) J (by rw[hmc]) ?_;refine gx (fu:=⟨10⟩) J<|?_;refine mg (fu:=⟨5⟩) (X:=Unit) (fun _=>[(9, .d (vI (k:Nat))),(8, .d (vI (ls.length:Nat))),(7, .d (.sl (ls.map eL))),(0, .d (.sl (ls.map eL))),(3, .d (.sl (xs.map eL))),(5, .ov 5 0),(6, .d (vI (jP i6 m xs:Nat)))]) (fun _=>[(5,some (.o 175 [.d ((.v (.bool (decide (m.a<0))))), .d (dN m.a.natAbs), .d ((.v (.bool (decide (m.b<0))))), .d (dN m.b.natAbs), .d ((.v (.bool (decide (m.c<0))))), .d (dN m.c.natAbs)] true))]) (fun _=>True) [9,8,7,0,3,5,6] [5] rfl ?_ (fun _=>J) (fun _ _=>?_)
  .
   refine gx J<|?_;refine lp (fu:=⟨6⟩) (X:=Nat) (fun n=>[(9, .d (vI (k:Nat))),(8, .d (vI (ls.length:Nat))),(7, .d (.sl (ls.map eL))),(0, .d (.sl (ls.map eL))),(3, .d (.sl (xs.map eL))),(5, .ov 5 0),(6, .d (vI (n:Nat)))]) (fun n=>[(5,some (.o 175 [.d ((.v (.bool (decide (m.a<0))))), .d (dN m.a.natAbs), .d ((.v (.bool (decide (m.b<0))))), .d (dN m.b.natAbs), .d ((.v (.bool (decide (m.c<0))))), .d (dN m.c.natAbs)] true))]) (fun n=>n<=xs.length/\ ∀j (h:j<xs.length),j<n->i6 xs[j] m<0) (fun n=>xs.length-n) 0 J ⟨bV _,fun j _ hj=>absurd hj (by omega)⟩ (fun _=>J) (fun n hk=>?_);obtain⟨n1,n2⟩:=hk;refine ml (v2:=fun hg21=>by simp only[ac];kernel_rfl) J J J J (fun hg21=>?_) (fun hg21=>?_)
   .
    refine ix _ J (rF (by omega)) J<|cl J (E8 (l:=xs[n]'(by omega)) (m:=m) (hl:=hxb _ (bM (by omega))) (hm:=hmb)) J<|?_;refine br J J J (fun hc30=>?_) (fun hc30=>?_)
    .
     exact at_ (n+1) ⟨⟨by omega,fun j h hj=>by by_cases q:j=n;(subst q;exact hc30);exact n2 j h (by omega)⟩,(by omega)⟩
    .
     have hidx:jP i6 m xs=n:=uF i6 n1 n2 (fun h=>hc30);exact at_ () trivial
   .
    have hidx:jP i6 m xs=n:=uF i6 n1 n2 (fun h=>absurd h (by omega));exact at_ () trivial
  .
   obtain⟨n,hnx⟩: ∃n,jP i6 m xs=n:=⟨_,rfl⟩;rw[hnx];have hnl:n<=xs.length:=by rw[<-hnx];exact Ei _ _ _
   refine ml (v1:=fun hg36=>by simp only[ac];kernel_rfl) J J J J (fun hg36=>?_) (fun hg36=>?_)
   .
    have hnew: ∀h:n<xs.length,i6 xs[n] m≠0:=fun h=>absurd h (by omega);obtain⟨ys,hys⟩: ∃ys,ys=xs.take n++m::xs.drop n:=⟨_,rfl⟩;have hin:du i6 m xs=ys:=by rw[hys];exact tN i6 hnx hnew
    have hyl:ys.length<=xs.length+1:=by rw[hys];simp;omega
    refine s3 n _ J J J J (gm _) (by rw[hxl];exact hnl) J<|ro J J<|m6 n xs.length _ J J (by rw[hxl]) J (gm _) hnl (by omega) J<|?_;refine ap _ J J (tk gm _ _ _) J<|l8 (hv:=by simp only[ac];exact⟨by kernel_rfl,by omega⟩) (ho:=fun _=>⟨uv gm _ _,by simp⟩) (ys.map eL) J (by rw[hys,bS,cK,gR,iM,aL (l:=xs.map eL) (i:=xs.length) (by simp)];rfl) (vm gm _ _ _ _) J<|?_;exact at_ ⟨ys,k+1⟩ (by dsimp only;exact⟨⟨by rw[Ao hz,<-hS,<-hmc];exact hin.symm,by omega⟩,(by omega)⟩)
   .
    refine ix _ J (rF (by omega)) J<|cl J (E8 (l:=xs[n]'(by omega)) (m:=m) (hl:=hxb _ (bM (by omega))) (hm:=hmb)) J<|?_;refine br J J J (fun hc45=>?_) (fun hc45=>?_)
    .
     have hnew: ∀h:n<xs.length,i6 xs[n] m≠0:=fun h=>hc45;obtain⟨ys,hys⟩: ∃ys,ys=xs.take n++m::xs.drop n:=⟨_,rfl⟩;have hin:du i6 m xs=ys:=by rw[hys];exact tN i6 hnx hnew
     have hyl:ys.length<=xs.length+1:=by rw[hys];simp;omega
     refine s3 n _ J J J J (gm _) (by rw[hxl];exact hnl) J<|ro J J<|m6 n xs.length _ J J (by rw[hxl]) J (gm _) hnl (by omega) J<|?_;refine ap _ J J (tk gm _ _ _) J<|l8 (hv:=by simp only[ac];exact⟨by kernel_rfl,by omega⟩) (ho:=fun _=>⟨uv gm _ _,by simp⟩) (ys.map eL) J (by rw[hys,bS,cK,gR,iM,aL (l:=xs.map eL) (i:=xs.length) (by simp)];rfl) (vm gm _ _ _ _) J<|?_;exact at_ ⟨ys,k+1⟩ (by dsimp only;exact⟨⟨by rw[Ao hz,<-hS,<-hmc];exact hin.symm,by omega⟩,(by omega)⟩)
    .
     have hin:du i6 m xs=xs:=Bv i6 hnx (by omega) (Decidable.not_not.1 hc45);exact at_ ⟨xs,k+1⟩ (by dsimp only;exact⟨⟨by rw[Ao hz,<-hS,<-hmc];exact hin.symm,by omega⟩,(by omega)⟩)
 .
  have hfin:wo ls=xs:=by rw[hS,Qy (by omega)];rfl
  exact rz J (by rw[hfin];rfl)
def UE(l:aa)(p:ab):l.canon.value p=l.value p\/l.canon.value p= -l.value p:=by
 unfold aa.canon;split
 ·exact .inr (fh l p)
 ·exact .inl J
def GK(a b:Tr):List ab:=SF (wo (a.lns++b.lns))
def eqR(a b:Tr):Bool:=(GK a b).all fun p=>vy a p==vy b p
def aJU(f:Bool->Bool->Bool)(a b:Tr):Bool:=(GK a b).any fun p=>f (vy a p) (vy b p)
def aJb(v:Bool)(t:Tr):Bool:=decide ((t.restrict []).isLeaf=true/\(t.restrict []).code=v)
def Ls{α:Type}{c:α->α->Int}(hT: ∀u v w,c u v<0->c v w<0->c u w<0)(hA: ∀u v,¬c u v<0->c u v≠0->c v u<0){x:α}: ∀{xs:List α},xs.Pairwise (fun a b=>c a b<0)->(du c x xs).Pairwise (fun a b=>c a b<0)
 |[],_=>by rw[du];exact List.pairwise_singleton _ _
 |u::t,h=>by
  obtain⟨h1,h2⟩:=bR.1 h;rw[du];split
  ·rename_i hu
   refine bR.2 ⟨fun y hy=>?_,Ls hT hA h2⟩;rcases Kn c hy with rfl|hy
   ·exact hu
   ·exact h1 y hy
  ·rename_i hu
   split
   ·exact h
   ·rename_i hz
    have hx:=hA u x hu hz;refine bR.2 ⟨fun y hy=>?_,h⟩;rcases aW.1 hy with rfl|hy
    ·exact hx
    ·exact hT _ _ _ hx (h1 y hy)
def Nw{α:Type}{c:α->α->Int}(hT: ∀u v w,c u v<0->c v w<0->c u w<0)(hA: ∀u v,¬c u v<0->c u v≠0->c v u<0): ∀{l o:List α},o.Pairwise (fun a b=>c a b<0)->(l.foldl (fun out x=>du c x out) o).Pairwise (fun a b=>c a b<0)
 |[],o,h=>h
 |x::l,o,h=>Nw (l:=l) (o:=du c x o) hT hA (Ls hT hA h)
def aHP(L:List aa)(p:ab):List ab:=L.flatMap fun l=>if Int.sign (l.value p).num=0 then [l.dir,bG l.dir] else []
def aCV{u v:ab}:0<co u v↔b7 v u:=by
 unfold co b7;split
 ·rename_i h;exact⟨fun e=>absurd e (by decide),fun e=>by omega⟩
 ·rename_i h
  split
  ·rename_i h2;exact⟨fun _=> .inl h2,fun _=>by decide⟩
  ·rename_i h2
   have e:v.half=u.half:=by omega
   rw[fk u v];constructor
   ·intro k
    have:Int.sign (u.cross v).num<0:=by omega
    rw[sC] at this;exact .inr ⟨e,by grind⟩
   ·rintro (k|⟨_,k⟩)
    ·omega
    ·have:Int.sign (u.cross v).num<0:=(sC _).2 (by grind)
     omega
def b7.trans{u v w:ab}(hu:u.half≠0)(hv:v.half≠0)(hw:w.half≠0)(h:b7 u v)(k:b7 v w):b7 u w:=by
 rcases h with h|⟨h,h'⟩<;>rcases k with k|⟨k,k'⟩
 ·exact .inl (by omega)
 ·exact .inl (by omega)
 ·exact .inl (by omega)
 ·refine .inr ⟨h.trans k,?_⟩
  have id1:u.cross w*v.y=u.cross v*w.y+v.cross w*u.y:=by unfold ab.cross;grind
  rcases lc v with⟨x,q⟩|⟨x,q⟩|⟨x,q⟩
  ·rw[x] at h k
   have qu:=nB.1 h;have qw:=nB.1 k.symm;rcases q with q|⟨q,q'⟩
   ·rw[<-gy q,id1]
    have wy:0<=w.y:=by grind
    have uy:0<=u.y:=by grind
    have a1:=cD (dQ h') wy;rcases qu with qu|⟨qu,qu'⟩
    ·have:=bO k' qu;grind
    ·rcases qw with qw|⟨qw,qw'⟩
     ·have:=bO h' qw;rw[qu];grind
     ·exfalso
      have hx:v.cross w= -(w.x*v.y):=by unfold ab.cross;rw[qw];grind
      have:=bO qw' q;grind
   ·exfalso
    have hx:u.cross v= -(v.x*u.y):=by unfold ab.cross;rw[q];grind
    have:=cD (a:=v.x) (b:=u.y) (dQ q') (by grind);grind
  ·rw[x] at h k
   have qu:=qd.1 h;have qw:=qd.1 k.symm;rcases q with q|⟨q,q'⟩
   ·have e1:u.cross w* -v.y=u.cross v* -w.y+v.cross w* -u.y:=by grind
    rw[<-gy (k:= -v.y) (by grind),e1];have a1:=cD (a:=u.cross v) (b:= -w.y) (dQ h') (by grind);rcases qu with qu|⟨qu,qu'⟩
    ·have:=bO (a:=v.cross w) (b:= -u.y) k' (by grind);grind
    ·rcases qw with qw|⟨qw,qw'⟩
     ·have:=bO (a:=u.cross v) (b:= -w.y) h' (by grind);rw[qu];grind
     ·exfalso
      have hx:v.cross w= -(-w.x* -v.y):=by unfold ab.cross;rw[qw];grind
      have:=bO (a:= -w.x) (b:= -v.y) (by grind) (by grind);grind
   ·exfalso
    have hx:u.cross v= -(-v.x* -u.y):=by unfold ab.cross;rw[q];grind
    have:=cD (a:= -v.x) (b:= -u.y) (by grind) (by grind);grind
  ·exact absurd x hv
def IC(S:List ab)(x:ab):Nat->Nat
 |0=>0
 |k+1=>if 0<co (S.getD k ⟨0,0⟩) x then IC S x k else k+1
def aIQ(S:List ab)(x:ab):List ab:=S.take (IC S x S.length)++x::S.drop (IC S x S.length)
def ZH(ds:List ab):List ab:=ds.foldl aIQ []
structure aKc (L:List aa):Prop where
 ok: ∀l∈L,l.ok
 cn: ∀l∈L,p6 l=false
 nd:L.Pairwise (fun a b=>a≠b)
def LF{l:aa}(h:l.ok):p6 l.canon=false:=by
 have hn:=h.ne;unfold aa.Ne at hn;unfold aa.canon;split
 ·rename_i k
  unfold p6 at*;rw[decide_eq_true_eq] at k;rw[decide_eq_false_iff_not];show¬(-l.a<0\/(-l.a=0/\ -l.b<0));omega
 ·rename_i k;simpa using k
def uH{l:aa}(h:l.ok):l.dir.half≠0:=fun e=>by
 have hn:=h.ne;unfold aa.Ne at hn;rcases lc l.dir with⟨k,_⟩|⟨k,_⟩|⟨_,k1,k2⟩
 ·rw[k] at e;cases e
 ·rw[k] at e;cases e
 ·unfold aa.dir at k1 k2
  simp only at k1 k2;apply hn;refine⟨?_,dV.1 k2⟩;have:(l.a:Rat)=0:=by grind
  exact dV.1 this
def YC{d:ab}(h:d.half≠0):(bG d).half≠0:=by rw[ue h];have:=gO h;omega
def Cw(d:ab):bG (bG d)=d:=by unfold bG;cases d;simp
def W9{l m:aa}(hl:l.ok)(hm:m.ok)(cl:p6 l=false)(cm:p6 m=false){p:ab}(h1:l.value p=0)(h2:m.value p=0)(hc:l.dir.cross m.dir=0):l=m:=by
 have key: ∀t,l.value (m.at t)=0:=fun t=>by
  obtain⟨s,rfl⟩:=zz hm.ne h2;rw[j'] at h1⊢;have hk:m.cutK l=0:=by
   unfold aa.cutK;rw[<-tE];exact hc
  rw[hk] at h1⊢;grind
 rcases zf hl hm key with e|e
 ·exact e
 ·exfalso
  have hn:=hm.ne;unfold aa.Ne at hn;rw[e] at cl;unfold p6 at cl cm;rw[decide_eq_false_iff_not] at cl cm;have cl: ¬(-m.a<0\/(-m.a=0/\ -m.b<0)):=cl;omega
def Oe{ds:List ab}(h:ds.Pairwise b7)(hd:uM ds){i:Nat}(hi:i<ds.length)(hj:(i+1)%ds.length<ds.length):lv ds ds[i] ds[(i+1)%ds.length]:=by
 have hp:=kY.1 h;have irr: ∀{u v:ab},b7 u v-> ¬b7 v u:=fun{u v} a b=>by
  unfold b7 at a b;rw[fk u v] at b;rcases a with a|⟨a,a'⟩<;>rcases b with b|⟨b,b'⟩
  ·omega
  ·omega
  ·omega
  ·grind
 have ord: ∀{j k:Nat} (a:j<ds.length) (b:k<ds.length),b7 ds[j] ds[k]->j<k:=fun{j k} a b q=>by
  rcases pS j k with e|e|e
  ·exact e
  ·subst e;exact absurd q (irr q)
  ·exact absurd (hp k j b a e) (irr q)
 by_cases hl:i+1<ds.length
 ·have e:(i+1)%ds.length=i+1:=eX hl
  simp only[e];refine .inl ⟨hp i (i+1) hi hl (by omega),fun d hd' ⟨q1,q2⟩=>?_⟩;obtain⟨j,hj',rfl⟩:=oN hd';have:=ord hi hj' q1;have:=ord hj' hl q2;omega
 ·have e:(i+1)%ds.length=0:=by rw[show i+1=ds.length by omega];exact tX _
  simp only[e];refine .inr ⟨fun d hd' q=>?_,fun d hd' q=>?_⟩
  ·obtain⟨j,hj',rfl⟩:=oN hd'
   have:=ord hi hj' q;omega
  ·obtain⟨j,hj',rfl⟩:=oN hd'
   have:=ord hj' (by omega) q;omega
def QA(v:ab):Nat:=Nat.gcd (v.x.num.natAbs*v.y.den) (v.y.num.natAbs*v.x.den)
def SJ(n:Int)(d g:Nat):Int:=if n<0 then-((n.natAbs*d/g:Nat):Int) else((n.natAbs*d/g:Nat):Int)
def OD(v:ab):ab:=if v.half=0 then⟨0,0⟩ else⟨(SJ v.x.num v.y.den (QA v):Int),(SJ v.y.num v.x.den (QA v):Int)⟩
def WA(ds:List ab)(i:Nat):List ab:=
 if co (ds.getD i ⟨0,0⟩) (ds.getD ((i+1)%ds.length) ⟨0,0⟩)=0/\2<ds.length then []
 else if Int.sign ((ds.getD i ⟨0,0⟩).cross (ds.getD ((i+1)%ds.length) ⟨0,0⟩)).num=0 then [jh (ds.getD i ⟨0,0⟩)]
 else [bF (OD (ds.getD i ⟨0,0⟩)) (OD (ds.getD ((i+1)%ds.length) ⟨0,0⟩)) 1]
def XR(ds:List ab):List ab:=if ds.length=0 then [⟨1,0⟩] else(List.range ds.length).flatMap (WA ds)
def LA(L:List aa)(p:ab):List ab:=XR (ZH (aHP L p))
def C6{ds:List ab}{i:Nat}(h:i<ds.length):ds.getD i ⟨0,0⟩=ds[i]:=by
 rw[aX,aZ h,lX]
def aKb(t:Tr)(p:ab):Bool:=(LA (wo t.lns) p).any fun v=>(gq t p v).1
def aJL(t:Tr)(p:ab):Bool:=(LA (wo t.lns) p).all fun v=>(gq t p v).1
def z'{z:Rat}(h:z<0):Int.sign z.num= -1:=by
 have:=(sC _).2 h;rcases lU z.num 0 with q|q|q
 ·exact fK q
 ·rw[q] at this;simp at this
 ·rw[fW q] at this;simp at this
def me:Tr->ab->List aa
 | .leaf _,_=>[]
 | .node l x y,p=>(if Int.sign (l.value p).num=0 then [l] else [])++((if 0<=Int.sign (l.value p).num then me x p else [])++(if Int.sign (l.value p).num<=0 then me y p else []))
def pj: ∀{t:Tr} {p:ab} {l:aa},l∈me t p->l∈t.lns/\l.value p=0
 | .leaf _,p,l,h=>by cases h
 | .node m x y,p,l,h=>by
  rw[me,bK,bK] at h;rcases h with h|h|h
  ·split at h
   ·rw[aU] at h;subst h
    rename_i k;exact⟨aQ,(ll _).1 k⟩
   ·cases h
  ·split at h
   ·have:=pj h;exact⟨aJ _ (bT _ this.1),this.2⟩
   ·cases h
  ·split at h
   ·have:=pj h;exact⟨aJ _ (cJ _ this.1),this.2⟩
   ·cases h
def BJ: ∀{t:Tr} {p v w:ab},(∀l∈me t p,Int.sign (l.nor.dot v).num=Int.sign (l.nor.dot w).num)->gq t p v=gq t p w
 | .leaf _,_,_,_,_=>rfl
 | .node l x y,p,v,w,h=>by
  have hx:0<=Int.sign (l.value p).num->gq x p v=gq x p w:=fun k=>BJ fun m hm=>h m (by rw[me,bK,bK,if_pos k];exact .inr (.inl hm));have hy:Int.sign (l.value p).num<=0->gq y p v=gq y p w:=fun k=>BJ fun m hm=>h m (by rw[me,bK,bK,if_pos k];exact .inr (.inr hm));rw[gq,gq,tE,tE];by_cases k:Int.sign (l.value p).num=0
  ·rw[if_pos k,if_pos k,<-h l (by rw[me,if_pos k];exact aQ),hx (by omega),hy (by omega)]
  ·rw[if_neg k,if_neg k]
   generalize Int.sign (l.value p).num=s at*;split
   ·exact hx (by decide)
   ·exact hy (by decide)
   ·rfl
def VZ{L M:List aa}{p v:ab}(hM: ∀l∈M,l.ok)(hL:Gn L p v): ∃w,Gn M p w/\ ∀l∈L,l.value p=0->Int.sign (l.nor.dot v).num=Int.sign (l.nor.dot w).num:=by
 have e2: ∀l:aa,l.value p=0->l.value (bF p v 1)=l.nor.dot v:=fun l hz=>by rw[gv,hz];grind
 have hp':bm ((L.filter fun l=>decide (l.value p=0)).map fun l=>(⟨if 0<l.value (bF p v 1) then l else l.rev,ah.all⟩:ba)) (bF p v 1):=fun s hs=>by
  obtain⟨l,hl,rfl⟩:=bQ.1 hs;obtain⟨h1,h2⟩:=jS.1 hl;have h3:=of_decide_eq_true h2;have h0:l.value (bF p v 1)≠0:=by rw[e2 l h3];exact hL l h1 h3
  simp only;split
  ·assumption
  ·rw[fh];grind
 obtain⟨q,q1,q2⟩:=Hz hp' M hM;have e: ∀l:aa,l.value p=0->l.value q=l.nor.dot ⟨q.x-p.x,q.y-p.y⟩:=fun l hz=>by
  have h1:=gv l p ⟨q.x-p.x,q.y-p.y⟩ 1;rw[hz] at h1;have h2:bF p ⟨q.x-p.x,q.y-p.y⟩ 1=q:=by
   unfold bF
   cases q
   simp only[ab.mk.injEq];constructor<;>grind
  rw[h2] at h1;rw[h1];grind
 refine⟨⟨q.x-p.x,q.y-p.y⟩,fun m hm hz=>?_,fun l hl hz=>?_⟩
 ·rw[<-e m hz];exact q2 m hm
 ·have h1:=q1 _ (bQ.2 ⟨l,jS.2 ⟨hl,decide_eq_true hz⟩,J⟩)
  simp only at h1;rw[e2 l hz] at h1;rw[<-e l hz];have h0:=hL l hl hz;split at h1
  ·rename_i k
   rw[(oo _).2 k,(oo _).2 h1]
  ·rename_i k
   rw[fh] at h1;rw[z' (by grind),z' (by grind)]
def DU(t:Tr)(p:ab)(b:Bool):Prop:= ∃v,Gn (me t p) p v/\(gq t p v).1=b
def Vy{t:Tr}{p:ab}{b:Bool}(h:DU t p b){M:List aa}(hM: ∀l∈M,l.ok): ∃w,Gn M p w/\(gq t p w).1=b:=by
 obtain⟨v,h1,h2⟩:=h;obtain⟨w,k1,k2⟩:=VZ hM h1;exact⟨w,k1,by rw[<-h2,BJ fun l hl=>k2 l hl (pj hl).2]⟩
def ou(ds:List ab)(i:Nat):ab:=
 if 0<Int.sign ((ds.getD i ⟨0,0⟩).cross (ds.getD ((i+1)%ds.length) ⟨0,0⟩)).num then(ds.getD i ⟨0,0⟩).add (ds.getD ((i+1)%ds.length) ⟨0,0⟩) else jh (ds.getD i ⟨0,0⟩)
def lf(ds:List ab):List ab:=if ds.length=0 then [⟨1,0⟩] else(List.range ds.length).map (ou ds)
def NU(u w:ab):u.add w=gA 1 1 u w:=by
 unfold ab.add gA;simp only[ab.mk.injEq];constructor<;>grind
def Nl{x:ab}: ∀{S:List ab},S≠[]->(∀d∈S,0<d.cross x)-> ∃u∈S,∀d∈S,0<=d.cross u
 |[],h,_=>absurd J h
 |[d],_,_=>⟨d,aQ,fun e he=>by rw[aU] at he;subst he;rw[R8];exact dR⟩
 |d0::d1::S,_,h=>by
  obtain⟨u,h1,h2⟩:=Nl (S:=d1::S) (by simp) fun d hd=>h d (aJ _ hd);by_cases k:0<=d0.cross u
  ·exact⟨u,aJ _ h1,fun d hd=>(aW.1 hd).elim (fun e=>e▸k) (h2 d)⟩
  ·refine⟨d0,aQ,fun d hd=>(aW.1 hd).elim (fun e=>by rw[e,R8];exact dR) fun hd=>?_⟩
   have p0:=h d0 aQ;have pu:=h u (aJ _ h1);have pd:=h d (aJ _ hd);have k1:=h2 d hd;have k2:0<u.cross d0:=by rw[fk] at k;grind
   have e:d.cross d0*u.cross x=u.cross d0*d.cross x+d.cross u*d0.cross x:=by unfold ab.cross;grind
   have n1:=bO k2 pd;have n2:=cD k1 (dQ p0);generalize d.cross d0=A at*;generalize u.cross x=B at*;by_cases hA:0<=A
   ·exact hA
   ·have:=bO (a:= -A) (b:=B) (by grind) pu
    grind
def ZD{ds:List ab}(h:ds.Pairwise b7)(hd:uM ds)(hn:ds≠[]){x:ab}(hx: ∀d∈ds,d.cross x≠0): ∃i,i<ds.length/\ ∀d∈ds,Int.sign (d.cross x).num=Int.sign (d.cross (ou ds i)).num:=by
 have hne:(ds.filter fun d=>decide (0<d.cross x))≠[]:=by
  obtain⟨d,r,rfl⟩:=List.exists_cons_of_ne_nil hn;intro e;have h1: ¬0<d.cross x:=fun k=>by
   have:d∈(d::r).filter fun d=>decide (0<d.cross x):=jS.2 ⟨aQ,decide_eq_true k⟩;rw[e] at this;cases this
  have h2:=hx d aQ;have h3:0<(bG d).cross x:=by rw[fk,mP,<-fk];grind
  have:bG d∈(d::r).filter fun d=>decide (0<d.cross x):=jS.2 ⟨hd.neg d aQ,decide_eq_true h3⟩;rw[e] at this;cases this
 obtain⟨u,hu,hl⟩:=Nl hne fun d hd=>of_decide_eq_true (jS.1 hd).2;obtain⟨hu1,hu2⟩:=jS.1 hu;have hux:=of_decide_eq_true hu2;obtain⟨i,hi,rfl⟩:=oN hu1;have hj:(i+1)%ds.length<ds.length:=dX _ (by omega);have hnx:=Oe h hd hi hj;have mw:=bM hj;refine⟨i,hi,?_⟩;have key: ∀d∈ds,0<d.cross x->0<d.cross (ou ds i):=fun d hdm hdx=>by
  have hdu:0<=d.cross ds[i]:=hl d (jS.2 ⟨hdm,decide_eq_true hdx⟩);unfold ou;rw[C6 hi,C6 hj];generalize ds[(i+1)%ds.length]=w at*;generalize ds[i]=u at*;have hp:=hnx.pos hd hu1 mw;have zd:=hd.nz d hdm;have zu:=hd.nz u hu1;split
  ·rename_i k
   have hc:=(kH _).1 k;rw[NU];have hg:=hnx.gen hd hu1 mw (by grind) (a:=1) (b:=1) (by decide) (by decide) d hdm;have e:d.cross (gA 1 1 u w)=d.cross u+d.cross w:=by unfold ab.cross gA;grind
   rw[e] at hg⊢;by_cases hw:0<=d.cross w
   ·grind
   ·exfalso
    -- -d s7 between u and w
    rcases fD (d.cross u) with q|q|q
    ·-- d runs along u
     have hdd:0<d.dot u:=by
      rcases fD (d.dot u) with r|r|r
      ·exact absurd r (DT zd zu q)
      ·exact r
      ·exfalso
       have q':(bG d).cross u=0:=by unfold ab.cross bG at*;grind
       have r':0<(bG d).dot u:=by unfold ab.dot bG at*;grind
       obtain⟨g,g1,g2⟩:=uZ q' r';have:d.cross x= -(g*u.cross x):=by
        have h1:(bG d).x=g*u.x:=by rw[g2]
        have h2:(bG d).y=g*u.y:=by rw[g2]
        unfold bG at h1 h2;simp only at h1 h2;unfold ab.cross;grind
       have:=bO g1 hux;grind
     obtain⟨g,g1,g2⟩:=uZ q hdd;have:d.cross w=g*u.cross w:=by rw[g2];unfold ab.cross;grind
     have:=bO g1 hc;grind
    ·have hb:bG d=gA (-(d.cross w)/u.cross w) (d.cross u/u.cross w) u w:=by
      have hz:u.cross w≠0:=by grind
      have e1: -(d.cross w)/u.cross w*u.cross w= -(d.cross w):=by grind
      have e2:d.cross u/u.cross w*u.cross w=d.cross u:=by grind
      unfold bG gA;generalize-(d.cross w)/u.cross w=a at*;generalize d.cross u/u.cross w=b at*;simp only[ab.mk.injEq];have f1:(a*u.x+b*w.x+d.x)*u.cross w=0:=by
       have:(a*u.x+b*w.x+d.x)*u.cross w=a*u.cross w*u.x+b*u.cross w*w.x+d.x*u.cross w:=by grind
       rw[this,e1,e2];unfold ab.cross;grind
      have f2:(a*u.y+b*w.y+d.y)*u.cross w=0:=by
       have:(a*u.y+b*w.y+d.y)*u.cross w=a*u.cross w*u.y+b*u.cross w*w.y+d.y*u.cross w:=by grind
       rw[this,e1,e2];unfold ab.cross;grind
      constructor<;>grind
     refine hnx.none hd hu1 mw (by grind) (a:= -(d.cross w)/u.cross w) (b:=d.cross u/u.cross w) ?_ ?_ (by rw[<-hb];exact hd.neg d hdm)
     ·refine(gy (k:=u.cross w) hc).1 ?_
      have e1: -(d.cross w)/u.cross w*u.cross w= -(d.cross w):=by grind
      rw[e1];grind
     ·refine(gy (k:=u.cross w) hc).1 ?_
      have e1:d.cross u/u.cross w*u.cross w=d.cross u:=by grind
      rw[e1];exact q
    ·grind
  ·rename_i k
   have hc:u.cross w=0:=by have: ¬0<u.cross w:=fun e=>k ((kH _).2 e);grind
   have hg:=hnx.turn hd hu1 mw hc d hdm;rw[N0] at hg⊢;rcases fD (d.dot u) with r|r|r
   ·exact absurd r hg
   ·exact r
   ·exfalso
    -- all directions run along u
    have hdc:d.cross u=0:=by
     rcases hnx.spec hd hu1 mw with⟨_,h2,_⟩|⟨h1,h2,h3⟩
     ·rw[hc] at h2;exact absurd h2 (by decide)
     ·have zw:=gO (hd.nz w mw)
      have zu':=gO zu;have zd':=gO zd;have hwu: ∃g:Rat,0<g/\w=⟨g*(bG u).x,g*(bG u).y⟩:=by
       refine uZ (d:=bG u) (e:=w) (by rw[mP,fk,hc];grind) ?_;rcases fD (w.dot u) with s|s|s
       ·exact absurd s (DT (hd.nz w mw) zu (by rw[fk,hc];rfl))
       ·exfalso
        obtain⟨g,g1,g2⟩:=uZ (d:=u) (e:=w) (by rw[fk,hc];rfl) s;apply h1;rw[g2];rcases lc u with⟨x0,s0⟩|⟨x0,s0⟩|⟨x0,s0⟩
        ·rw[x0]
         refine(nB.2 ?_).symm;rcases s0 with s0|⟨s0,s1⟩
         ·exact .inl (bO g1 s0)
         ·exact .inr ⟨by show g*u.y=0;rw[s0];grind,bO g1 s1⟩
        ·rw[x0]
         refine(qd.2 ?_).symm;rcases s0 with s0|⟨s0,s1⟩
         ·exact .inl (by show g*u.y<0;have:=bO (a:=g) (b:= -u.y) g1 (by grind);grind)
         ·exact .inr ⟨by show g*u.y=0;rw[s0];grind,by show g*u.x<0;have:=bO (a:=g) (b:= -u.x) g1 (by grind);grind⟩
        ·exact absurd x0 zu
       ·unfold ab.dot bG at*;grind
      obtain⟨g,g1,g2⟩:=hwu;have cw: ∀e:ab,w.cross e=g* -(u.cross e):=fun e=>by rw[g2];unfold ab.cross bG;grind
      by_cases hh:d.half=u.half
      ·have a1:=h2 d hdm hh
       have a2:=h3 _ (hd.neg d hdm) (by rw[ue zd];omega);rw[cw,mP,fk d u] at a2;rcases fD (d.cross u) with s|s|s
       ·exact s
       ·have:=bO g1 s;grind
       ·grind
      ·have a1:=h2 _ (hd.neg d hdm) (by rw[ue zd];omega)
       have a2:=h3 d hdm (by omega);rw[cw,fk d u] at a2;have e3:(bG d).cross u= -(d.cross u):=by unfold ab.cross bG;grind
       rw[e3] at a1;rcases fD (d.cross u) with s|s|s
       ·exact s
       ·grind
       ·have:=bO (a:=g) (b:= -(d.cross u)) g1 (by grind);grind
    have q':(bG d).cross u=0:=by unfold ab.cross bG at*;grind
    have r':0<(bG d).dot u:=by unfold ab.dot bG at*;grind
    obtain⟨g,g1,g2⟩:=uZ q' r';have:d.cross x= -(g*u.cross x):=by
     have h1:(bG d).x=g*u.x:=by rw[g2]
     have h2:(bG d).y=g*u.y:=by rw[g2]
     unfold bG at h1 h2;simp only at h1 h2;unfold ab.cross;grind
    have:=bO g1 hux;grind
 intro d hdm;rcases fD (d.cross x) with k|k|k
 ·exact absurd k (hx d hdm)
 ·rw[(oo _).2 k,(oo _).2 (key d hdm k)]
 ·have en: ∀y:ab,(bG d).cross y= -(d.cross y):=fun y=>by unfold ab.cross bG;grind
  have:=key _ (hd.neg d hdm) (by rw[en];grind);rw[en] at this;rw[z' k,z' (by grind)]
def dH(v:ab):ab:=v.scale (rgcd v.x v.y)⁻¹
def dE(t:Tr)(p:ab):List ab:=(me t p).flatMap fun l=>[dH l.dir,bG (dH l.dir)]
def im(ds:List ab):List ab:=s6 co ds
def pB{t:Tr}{p d:ab}:d∈dE t p↔ ∃l∈me t p,d=dH l.dir\/d=bG (dH l.dir):=by
 unfold dE;rw[gQ];constructor
 ·rintro ⟨l,h1,h2⟩
  refine⟨l,h1,?_⟩;rcases aW.1 h2 with h|h
  ·exact .inl h
  ·exact .inr (aU.1 h)
 ·rintro ⟨l,h1,rfl|rfl⟩
  ·exact⟨l,h1,aQ⟩
  ·exact⟨l,h1,aJ _ aQ⟩
def ayI{x y:Rat}(h:x≠0\/y≠0):0<rgcd x y:=by
 unfold rgcd;have hd:0<x.den*y.den:=gU x.den_pos y.den_pos;have hg:0<Nat.gcd (x.num.natAbs*y.den) (y.num.natAbs*x.den):=by
  rcases h with h|h
  ·exact mY _ (gU (Int.natAbs_pos.2 fun e=>h (mT.1 e)) y.den_pos)
  ·exact oU _ (gU (Int.natAbs_pos.2 fun e=>h (mT.1 e)) x.den_pos)
 generalize Nat.gcd (x.num.natAbs*y.den) (y.num.natAbs*x.den)=g at*;generalize x.den*y.den=d at*;rw[<-Ie];have h1:mkRat (g:Int) d=(g:Rat)/(d:Rat):=by rw[pK];rfl
 rw[Ie,h1];have hg':(0:Rat)<(g:Rat):=by exact_mod_cast hg
 have hd':(0:Rat)<(d:Rat):=by exact_mod_cast hd
 have e:(g:Rat)/(d:Rat)*(d:Rat)=(g:Rat):=by grind
 exact(gy (k:=(d:Rat)) hd').1 (by rw[e];exact hg')
def VD{v:ab}(h:v.half≠0):v.x≠0\/v.y≠0:=by
 rcases lc v with⟨_,k⟩|⟨_,k⟩|⟨k,_⟩
 ·rcases k with k|⟨_,k⟩
  ·exact .inr (by grind)
  ·exact .inl (by grind)
 ·rcases k with k|⟨_,k⟩
  ·exact .inr (by grind)
  ·exact .inl (by grind)
 ·exact absurd k h
def CI{v:ab}(h:v.half≠0): ∃a:Rat,0<a/\dH v=⟨a*v.x,a*v.y⟩:=by
 have hg:=ayI (VD h);refine⟨(rgcd v.x v.y)⁻¹,?_,?_⟩
 ·generalize rgcd v.x v.y=g at*
  have e:g⁻¹*g=1:=by grind
  exact(gy (k:=g) hg).1 (by rw[e];decide)
 ·unfold dH ab.scale
  simp only[ab.mk.injEq];constructor<;>grind
def aBs(v:ab):dH (bG v)=bG (dH v):=by
 have e:rgcd (-v.x) (-v.y)=rgcd v.x v.y:=by
  unfold rgcd;rw[nJ,nJ,qQ,qQ,iJ,iJ]
 unfold dH ab.scale bG;simp only[ab.mk.injEq,e];constructor<;>grind
def HY{v:ab}(h:v.half≠0):(dH v).half=v.half:=by
 obtain⟨a,a1,e⟩:=CI h;have:=In (a:=a) (b:=a) (u:=v) (w:=v) a1 a1 J h;rw[<-this];have h2:dH v=gA (a*(1/2)) (a*(1/2)) v v:=by rw[e];unfold gA;simp only[ab.mk.injEq];constructor<;>grind
 have h3:=In (a:=a*(1/2)) (b:=a*(1/2)) (u:=v) (w:=v) (bO a1 (by grind)) (bO a1 (by grind)) J h;rw[h2,h3,this]
def Mz{u v:ab}:co u v=0↔u.half=v.half/\u.cross v=0:=by
 unfold co;split
 ·constructor
  ·intro h;exact absurd h (by decide)
  ·intro h;omega
 ·split
  ·constructor
   ·intro h;exact absurd h (by decide)
   ·intro h;omega
  ·constructor
   ·intro h
    exact⟨by omega,(ll _).1 (by omega)⟩
   ·intro h
    rw[(ll _).2 h.2];rfl
def uu{u v w:ab}(h:b7 u v)(k:b7 v w):b7 u w:=by
 by_cases hu:u.half=0
 ·by_cases hw:w.half=0
  ·have z: ∀x y:ab,x.half=0->x.cross y=0:=fun x y hx=>by
    rcases lc x with⟨e,_⟩|⟨e,_⟩|⟨_,e1,e2⟩
    ·rw[hx] at e;exact absurd e (by decide)
    ·rw[hx] at e;exact absurd e (by decide)
    ·unfold ab.cross;rw[e1,e2];grind
   rcases h with h|⟨h,h'⟩
   ·rcases k with k|⟨k,k'⟩
    ·omega
    ·have hv:v.half≠0:=by omega
     omega
   ·rw[z u v hu] at h';exact absurd h' (by decide)
  ·refine .inl ?_
   have h1:=gO hw;omega
 ·have hv:v.half≠0:=by
   intro e;rcases h with h|⟨h,_⟩
   ·have:=gO hu;omega
   ·omega
  have hw:w.half≠0:=by
   intro e;rcases k with k|⟨k,_⟩
   ·have:=gO hv;omega
   ·omega
  exact b7.trans hu hv hw h k
section
variable {α:Type} (c:α->α->Int)
def Lw{x y:α}: ∀{xs:List α},y∈xs->y∈du c x xs
 |[],h=>by cases h
 |u::t,h=>by
  rw[du];split
  ·rcases aW.1 h with rfl|h
   ·exact aQ
   ·exact aJ _ (Lw h)
  ·split
   ·exact h
   ·exact aJ _ h
def MS{x:α}: ∀{xs:List α},∃e∈du c x xs,e=x\/c e x=0
 |[]=>⟨x,aQ, .inl J⟩
 |u::t=>by
  rw[du];split
  ·obtain⟨e,h1,h2⟩:=MS (x:=x) (xs:=t)
   exact⟨e,aJ _ h1,h2⟩
  ·split
   ·exact⟨u,aQ, .inr (by assumption)⟩
   ·exact⟨x,aQ, .inl J⟩
def L4{y:α}: ∀{l o:List α},y∈o->y∈l.foldl (fun out x=>du c x out) o
 |[],o,h=>h
 |x::t,o,h=>L4 (l:=t) (Lw c h)
def IW{d:α}: ∀{l o:List α},d∈l-> ∃e∈l.foldl (fun out x=>du c x out) o,e=d\/c e d=0
 |[],o,h=>by cases h
 |x::t,o,h=>by
  rcases aW.1 h with rfl|h
  ·obtain⟨e,h1,h2⟩:=MS c (x:=d) (xs:=o)
   exact⟨e,L4 c (l:=t) h1,h2⟩
  ·exact IW (l:=t) h
end
def R2(ds:List ab):(im ds).Pairwise b7:=by
 have:=Nw (c:=co) (fun u v w h k=>nj.2 (uu (nj.1 h) (nj.1 k))) (fun u v h k=>nj.2 (aCV.1 (by omega))) (l:=ds) (o:=[]) List.Pairwise.nil;exact this.imp fun h=>nj.1 h
def Px{l m:aa}(hl:l.ok)(hm:m.ok){p:ab}(h1:l.value p=0)(h2:m.value p=0){d e:ab}(hd:d=dH l.dir\/d=bG (dH l.dir))(he:e=dH m.dir\/e=bG (dH m.dir))(h:co d e=0):d=e:=by
 obtain⟨hh,hc⟩:=Mz.1 h;have zl:=uH hl;have zm:=uH hm;have zpl:(dH l.dir).half≠0:=by rw[HY zl];exact zl
 have zpm:(dH m.dir).half≠0:=by rw[HY zm];exact zm
 have cr:l.dir.cross m.dir=0:=by
  obtain⟨a,a1,e1⟩:=CI zl;obtain⟨b,b1,e2⟩:=CI zm;have c0:(dH l.dir).cross (dH m.dir)=0:=by
   rcases hd with rfl|rfl<;>rcases he with rfl|rfl
   ·exact hc
   ·rw[mP] at hc;grind
   ·rw[fk,mP] at hc;rw[fk];grind
   ·rw[mP,fk,mP] at hc;rw[fk];grind
  have e3:(dH l.dir).cross (dH m.dir)=(a*b)*l.dir.cross m.dir:=by rw[e1,e2];unfold ab.cross;grind
  have hab:=bO a1 b1;rw[e3] at c0;clear e1 e2 e3;generalize a*b=k at*;generalize l.dir.cross m.dir=z at*;rcases fD z with q|q|q
  ·exact q
  ·have:=bO hab q;grind
  ·have:=bO (a:=k) (b:= -z) hab (by grind);grind
 have dirR: ∀k:aa,k.rev.dir=bG k.dir:=fun k=>by
  unfold aa.dir aa.rev bG;simp only[ab.mk.injEq,lR]
  try constructor<;>grind
 have cdir: ∀k:aa,k.canon.dir=k.dir\/k.canon.dir=bG k.dir:=fun k=>by
  unfold aa.canon;split
  ·exact .inr (dirR k)
  ·exact .inl J
 have cval: ∀k:aa,k.value p=0->k.canon.value p=0:=fun k hk=>by rcases UE k p with e|e<;>rw[e,hk]<;>rfl
 have okc: ∀k:aa,k.ok->k.canon.ok:=fun k hk=>by unfold aa.canon;split;exact hk.rev;exact hk
 have ec:l.canon=m.canon:=W9 (okc l hl) (okc m hm) (LF hl) (LF hm) (cval l h1) (cval m h2) (by
  rcases cdir l with e1|e1<;>rcases cdir m with e2|e2<;>rw[e1,e2]
  ·exact cr
  ·rw[mP,cr];rfl
  ·rw[fk,mP,fk,cr];rfl
  ·rw[mP,fk,mP,fk,cr];rfl)
 have hdir:l.dir=m.dir\/l.dir=bG m.dir:=by
  have e1:=cdir l;have e2:=cdir m;rw[ec] at e1;rcases e1 with e1|e1<;>rcases e2 with e2|e2
  ·exact .inl (e1.symm.trans e2)
  ·exact .inr (e1.symm.trans e2)
  ·right;rw[<-e2,e1,Cw]
  ·left;rw[<-Cw l.dir,<-e1,e2,Cw]
 have hP:dH l.dir=dH m.dir\/dH l.dir=bG (dH m.dir):=by
  rcases hdir with e|e
  ·exact .inl (by rw[e])
  ·exact .inr (by rw[e,aBs])
 have hn:=ue zpm;have h3:=gO zpm;have key:d=dH m.dir\/d=bG (dH m.dir):=by
  rcases hd with rfl|rfl<;>rcases hP with e|e
  ·exact .inl e
  ·exact .inr e
  ·exact .inr (by rw[e])
  ·exact .inl (by rw[e,Cw])
 rcases key with rfl|rfl<;>rcases he with rfl|rfl
 ·rfl
 ·exfalso;omega
 ·exfalso;omega
 ·rfl
def Sz{t:Tr}(ht:t.all aa.ok)(p:ab):(im (dE t p)).Pairwise b7/\uM (im (dE t p))/\ ∀y,y∈im (dE t p)↔y∈dE t p:=by
 have h2: ∀y,y∈im (dE t p)->y∈dE t p:=fun y hy=>by
  rcases Fj co hy with h|h
  ·exact h
  ·cases h
 have h3: ∀y,y∈dE t p->y∈im (dE t p):=fun y hy=>by
  obtain⟨e,e1,e2⟩:=IW co (o:=[]) hy;rcases e2 with rfl|e2
  ·exact e1
  ·obtain⟨l,k1,k2⟩:=pB.1 hy
   obtain⟨m,k3,k4⟩:=pB.1 (h2 e e1);obtain⟨a1,a2⟩:=pj k1;obtain⟨b1,b2⟩:=pj k3;rw[<-Px (qP ht _ b1) (qP ht _ a1) b2 a2 k4 k2 e2];exact e1
 refine⟨R2 _,⟨fun d hd=>?_,fun d hd=>?_⟩,fun y=>⟨h2 y,h3 y⟩⟩
 ·obtain⟨l,k1,k2⟩:=pB.1 (h2 d hd)
  have z:=uH (qP ht _ (pj k1).1);have z2:(dH l.dir).half≠0:=by rw[HY z];exact z
  rcases k2 with rfl|rfl
  ·exact z2
  ·exact YC z2
 ·obtain⟨l,k1,k2⟩:=pB.1 (h2 d hd)
  refine h3 _ (pB.2 ⟨l,k1,?_⟩);rcases k2 with rfl|rfl
  ·exact .inr J
  ·exact .inl (Cw _)
def aCU{t:Tr}(ht:t.all aa.ok){p v:ab}(hv:v∈lf (im (dE t p))):Gn (me t p) p v:=by
 obtain⟨h1,h2,h3⟩:=Sz ht p;have key:(∀d∈im (dE t p),d.cross v≠0)->Gn (me t p) p v:=fun k l hl hz e=>by
  have z:=uH (qP ht _ (pj hl).1);obtain⟨a,a1,a2⟩:=CI z;refine k _ ((h3 _).2 (pB.2 ⟨l,hl, .inl J⟩)) ?_;rw[<-tE] at e;have:(dH l.dir).cross v=a*l.dir.cross v:=by rw[a2];unfold ab.cross;grind
  rw[this,e];grind
 generalize im (dE t p)=ds at*;unfold lf at hv;split at hv
 ·rename_i hn
  refine key fun d hd=>?_;rw[List.length_eq_zero_iff.1 hn] at hd;cases hd
 ·obtain⟨i,hi,rfl⟩:=bQ.1 hv
  rw[kJ] at hi;have hj:(i+1)%ds.length<ds.length:=dX _ (by omega);have hx:=Oe h1 h2 hi hj;have mu:=bM hi;have mw:=bM hj;have hp:=hx.pos h2 mu mw;refine key ?_;unfold ou;rw[C6 hi,C6 hj];split
  ·rename_i k
   have hc:=(kH _).1 k;rw[NU];exact hx.gen h2 mu mw (by grind) (by decide) (by decide)
  ·rename_i k
   exact hx.turn h2 mu mw (by have: ¬0<ds[i].cross ds[(i+1)%ds.length]:=fun e=>k ((kH _).2 e);grind)
def YG{t:Tr}(ht:t.all aa.ok){p x:ab}(hx:Gn (me t p) p x): ∃v∈lf (im (dE t p)),(gq t p v).1=(gq t p x).1:=by
 obtain⟨h1,h2,h3⟩:=Sz ht p;have cr: ∀l∈me t p,∃a:Rat,0<a/\ ∀y,(dH l.dir).cross y=a*l.nor.dot y:=fun l hl=>by
  obtain⟨a,a1,a2⟩:=CI (uH (qP ht _ (pj hl).1));exact⟨a,a1,fun y=>by rw[a2,<-tE];unfold ab.cross;grind⟩
 by_cases hn:im (dE t p)=[]
 ·refine⟨⟨1,0⟩,by unfold lf;rw[if_pos (by rw[hn];rfl)];exact aQ,?_⟩
  rw[BJ fun l hl=>?_];have:=(h3 _).2 (pB.2 ⟨l,hl, .inl J⟩);rw[hn] at this;cases this
 ·obtain⟨i,hi,hs⟩:=ZD h1 h2 hn (x:=x) fun d hd=>by
   obtain⟨l,k1,k2⟩:=pB.1 ((h3 d).1 hd);obtain⟨a,a1,a2⟩:=cr l k1;have hz:=hx l k1 (pj k1).2;have e:(dH l.dir).cross x≠0:=by rw[a2];grind
   rcases k2 with rfl|rfl
   ·exact e
   ·intro q;apply e;unfold ab.cross bG at*;grind
  refine⟨ou (im (dE t p)) i,?_,?_⟩
  ·unfold lf
   rw[if_neg (by omega)];exact bQ.2 ⟨i,kJ.2 hi,J⟩
  ·rw[BJ fun l hl=>?_]
   have:=hs _ ((h3 _).2 (pB.2 ⟨l,hl, .inl J⟩));obtain⟨a,a1,a2⟩:=cr l hl;rw[a2,a2] at this;have sg: ∀z:Rat,Int.sign (a*z).num=Int.sign z.num:=fun z=>by
    rcases fD z with k|k|k
    ·subst k;rw[show a*0=0 by grind]
    ·rw[(oo _).2 k,(oo _).2 (bO a1 k)]
    ·rw[z' k,z' (by have:=bO (a:=a) (b:= -z) a1 (by grind);grind)]
   rw[sg,sg] at this;exact this.symm
def tq(t:Tr)(p:ab):Bool:=(lf (im (dE t p))).any fun v=>(gq t p v).1
def E9(t:Tr)(p:ab):Bool:=(lf (im (dE t p))).all fun v=>(gq t p v).1
def qk(t:Tr)(p:ab):Int:=if tq t p&&E9 t p then 2 else if tq t p then 1 else 0
def PL{t:Tr}(ht:t.all aa.ok){p:ab}:tq t p=true↔DU t p true:=by
 unfold tq;rw[jV];constructor
 ·rintro ⟨v,h1,h2⟩;exact⟨v,aCU ht h1,h2⟩
 ·rintro ⟨x,h1,h2⟩
  obtain⟨v,k1,k2⟩:=YG ht h1;exact⟨v,k1,by rw[k2,h2]⟩
def Zf{t:Tr}(ht:t.all aa.ok){p:ab}:qk t p=0↔ ¬DU t p true:=by
 unfold qk;constructor
 ·intro h k
  rw[(PL ht).2 k] at h;split at h
  ·exact absurd h (by decide)
  ·exact absurd h (by decide)
 ·intro h
  have h1:tq t p=false:=by
   cases e:tq t p with
   |false=>rfl
   |true=>exact absurd ((PL ht).1 e) h
  rw[h1];rfl
def sI(u:ab): ¬b7 u u:=by
 rintro (h|⟨_,h⟩)
 ·omega
 ·have:u.cross u=0:=by unfold ab.cross;grind
  rw[this] at h;exact absurd h (by decide)
def AD{u v:ab}(h:b7 u v)(k:b7 v u):False:=sI u (uu h k)
def Fz{x y:ab}(h: ¬b7 x y)(k: ¬b7 y x):co x y=0:=by
 rw[<-nj] at h k;unfold co at*;split at h<;>try omega
 split at h<;>try omega
 split at k<;>try omega
 rw[show y.cross x= -(x.cross y) by unfold ab.cross;grind,nJ,Int.sign_neg] at k;omega
end Go.Sx
end
