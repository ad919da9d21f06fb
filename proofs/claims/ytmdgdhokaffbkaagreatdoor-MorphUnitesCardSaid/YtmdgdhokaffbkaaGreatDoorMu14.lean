import Derived.Test.YtmdgdhokaffbkaaGreatDoorMu13
set_option linter.all false
set_option maxHeartbeats 4000000
set_option maxRecDepth 100000
section
namespace Go.Sx
open Go Go.Proofs
variable {p u v d:ah}
def tT(p:ah):(p.half=1/\(0<p.y\/(p.y=0/\0<p.x)))\/(p.half=2/\(p.y<0\/(p.y=0/\p.x<0)))\/(p.half=0/\p.y=0/\p.x=0):=by
 unfold ah.half;simp only[mn,Nz,pc];split
 .rename_i h;exact .inl ⟨rfl,h⟩
 .rename_i h
  split
  .rename_i h2
   exact .inr (.inl ⟨J,by grind⟩)
  .rename_i h2
   exact .inr (.inr ⟨J,by grind,by grind⟩)
def ow:p.half=1↔(0<p.y\/(p.y=0/\0<p.x)):=by
 rcases tT p with⟨h,k⟩|⟨h,k⟩|⟨h,k⟩<;>rw[h]<;>grind
def ti:p.half=2↔(p.y<0\/(p.y=0/\p.x<0)):=by
 rcases tT p with⟨h,k⟩|⟨h,k⟩|⟨h,k⟩<;>rw[h]<;>grind
def d6(u v:ah):Prop:=u.half<v.half\/(u.half=v.half/\0<u.cross v)
def zh:fG u v<0↔d6 u v:=by
 unfold fG d6;split
 .rename_i h;exact⟨fun _=> .inl h,fun _=>by decide⟩
 .rename_i h
  split
  .rename_i h2;exact⟨fun e=>absurd e (by decide),fun e=>by omega⟩
  .rename_i h2
   have e:u.half=v.half:=by omega
   rw[<-mn];constructor
   .intro k;exact .inr ⟨e,by omega⟩
   .rintro (k|⟨_,k⟩)
    .omega
    .omega
def fj(d:ah):ah:=⟨-d.x, -d.y⟩
def Vi(h:d.half≠0):(fj d).half=3-d.half:=by
 rcases tT d with⟨e,k⟩|⟨e,k⟩|⟨e,k⟩
 .rw[e];exact ti.2 (by unfold fj;grind)
 .rw[e];exact ow.2 (by unfold fj;grind)
 .exact absurd e h
def od(h:d.half≠0):d.half=1\/d.half=2:=by
 rcases tT d with⟨e,_⟩|⟨e,_⟩|⟨e,_⟩
 .exact .inl e
 .exact .inr e
 .exact absurd e h
def ww(ds:List ah)(u w:ah):Prop:=(d6 u w/\ ∀d∈ds,¬(d6 u d/\d6 d w))\/((∀d∈ds,¬d6 u d)/\ ∀d∈ds,¬d6 d w)
def vQ(u v:ah):v.cross u= -u.cross v:=by unfold ah.cross;grind
def N8(u v:ah):u.cross (fj v)= -u.cross v:=by unfold ah.cross fj;grind
end Go.Sx
end
section
namespace Go.Sx
open Go
variable {P:Program}{ops:Array Oper}{Q:Exit->Act->World->Prop}
inductive OT where
 |z (π:List (Nat×Bool))
 |q (i:Nat) (t:OT)
 |a (i:Nat) (t:OT)
 |c (i:Nat) (t r:OT)
def OT.sz:OT->Nat
 | .z _=>0
 | .q _ t=>t.sz+1
 | .a _ t=>t.sz+1
 | .c _ t r=>t.sz+r.sz+1
def OT.d:OT->Nat
 | .z π=>π.length
 | .q _ t=>t.d+1
 | .a _ t=>t.d+1
 | .c _ t r=>Nat.max (t.d+1) r.d
section
variable {S:World->Prop}{π₂:List (Nat×Bool)}
end
section
variable {GB:Gh}{C:aE}{n:Nat}{fr fr':l6}{own own' own0 own1 own1':List ki}{bs bs0 bs1 bs1':List ja}{fd:List FD}{π₂:List (Nat×Bool)}{t r:OT}
end
end Go.Sx
end
section
namespace Go.Sx
open Go Go.Proofs Tryz
variable {c xs ys ls L:List aa}{l:aa}{k i d j s:Nat}{α β:Type}{a b:Tr}{z side:Int}{ds:List Nat}{neg:Bool}{q y t:Rat}{p u:ah}{ps:List ah}{v:ao}{cuts o:List Rat}{marks:List Bool}
variable {GB:Gh}
theorem uZ(hc: ∀m∈c,LB m)(hl:LB l): ∀m∈c++[l],LB m:=by
 rw[rT];exact⟨hc,by simpa using hl⟩
theorem LB.rev{l:aa}(h:LB l):LB l.rev:=⟨⟨by rw[show l.rev.a= -l.a from J,jW];exact h.bl.a,by rw[show l.rev.b= -l.b from J,jW];exact h.bl.b,by rw[show l.rev.c= -l.c from J,jW];exact h.bl.c⟩⟩
def aAI(hc: ∀m∈c,LB m)(hok: ∀m∈c,m.ok)(hn:c.length<=900)(hl:LB l)(hlo:l.ok):PF GB prog 93 [.sl (c.map eL),eL l] (vI (r5 c l)):=by
 have hcl:=vH c;refine fn func93 J J ntmps93 J J (fun C=>?_);refine qz J J<|ap (c.map eL) J J (fw _) J<|rf J J<|kI ((c++[l]).map eL) J (by rw[bX];rfl) (fw [l]) J<|cl J (FZ (c:=c++[l]) (uZ hc hl) (m7 hok hlo) (by simp;omega)) J<|qz J J<|ap (c.map eL) J J (fw _) J<|cl J (AU (l:=l)) J<|rf J J<|kI ((c++[l.rev]).map eL) J (by rw[bX];rfl) (fw [l.rev]) J<|cl J (FZ (c:=c++[l.rev]) (uZ hc hl.rev) (m7 hok hlo.rev) (by simp;omega)) J<|iq 31 J J J (fun hg31=>?_) (fun hg31=>?_)
 .
  refine bb J J J (fun hc33=>?_) (fun hc33=>?_)
  .
   exact rz J (by show vI 0=vI _;congr 1;unfold r5;simp_all)
  .
   refine bb J J J (fun hc34=>?_) (fun hc34=>?_)
   .
    exact rz J (by show vI 1=vI _;congr 1;unfold r5;simp_all)
   .
    exact rz J (by simp[hg31] at hc34)
 .
  refine bb J J J (fun hc34=>?_) (fun hc34=>?_)
  .
   exact rz J (by simp[hg31] at hc34)
  .
   exact rz J (by show vI (-1)=vI _;congr 1;unfold r5;simp_all)
def IL{α:Type}{p:α->Bool}: ∀{xs:List α} {n:Nat},n<=xs.length->(∀j (h:j<xs.length),j<n->p xs[j]=true)->(∀h:n<xs.length,p xs[n]=false)->(xs.takeWhile p).length=n
 |[],n,h,_,_=>by simp at h;subst h;rfl
 |x::xs,0,_,_,h3=>by
  have:=h3 (by simp);simp only[oS] at this;simp[oK,this]
 |x::xs,n+1,h1,h2,h3=>by
  have hx:=h2 0 (by simp) (by omega);simp only[oS] at hx;rw[oK,if_pos hx,bQ];rw[IL (n:=n) (by simpa using h1) (fun j h hj=>by have:=h2 (j+1) (by simpa using h) (by omega);simpa using this) (fun h=>by have:=h3 (by simpa using h);simpa using this)]
def Ns{n:Nat}(h1:n<=xs.length)(h2: ∀j (h:j<xs.length),j<n->fG xs[j].dir l.dir<0)(h3: ∀h:n<xs.length,¬fG xs[n].dir l.dir<0):mF xs l=n:=
 IL h1 (fun j h hj=>decide_eq_true (h2 j h hj)) (fun h=>decide_eq_false (h3 h))
def ano{n:Nat}(hn:mF xs l=n)(h:n<xs.length)(e:xs[n]=l):oF xs l=xs:=by
 unfold oF;rw[hn,if_pos (by rw[aZ h,e])]
def KV{n:Nat}(hn:mF xs l=n)(h: ∀h:n<xs.length,xs[n]≠l):oF xs l=xs.take n++l::xs.drop n:=by
 unfold oF;rw[hn,if_neg];intro e;obtain⟨h1,h2⟩:=aT.1 e;exact h h1 h2
def OU(xs:List aa)(n:Nat):cA 6 ((xs.map eL).take n):=fun d hd=>fw xs d (eM hd)
def Fm(xs:List aa)(n m:Nat):cA 6 (((xs.map eL).take n).drop m):=fun d hd=>fw xs d (eM (gU hd))
def Qo(xs:List aa)(n m:Nat)(l:aa):cA 6 ([eL l]++((xs.map eL).take n).drop m):=fun d hd=>by
 rcases aM.1 hd with h|h
 .exact fw [l] d h
 .exact Fm xs n m d h
structure lu (c:List aa) (k:Nat) (xs:List aa):Prop where
 le:k<=c.length
 f:me c (c.drop k) xs=ij c
 m: ∀m∈xs,m∈c
 n:xs.length<=k
def lu.skip(h:lu c k xs)(hk:k<c.length)(e:(fD c[k] c ao.all).isSome=false):lu c (k+1) xs:=by
 have:=h.f;rw[bK hk,me,e] at this;exact⟨hk,this,h.m,by have:=h.n;omega⟩
def lu.ins(h:lu c k xs)(hk:k<c.length)(e:(fD c[k] c ao.all).isSome=true)(hy:oF xs c[k]=ys)(hl:ys.length<=xs.length+1):lu c (k+1) ys:=by
 have:=h.f;rw[bK hk,me,e,if_pos J,hy] at this;refine⟨hk,this,fun m hm=>?_,by have:=h.n;omega⟩;rw[<-hy] at hm;rcases Gi.1 hm with rfl|hm
 .exact cN hk
 .exact h.m m hm
def lu.done(h:lu c k xs)(hk:k=c.length):ij c=xs:=by
 have:=h.f;rw[hk,gV,me] at this;exact this.symm
def F3(c:List aa):Bool:=if(((c.map eL).length:Nat):Int)=0 then true else decide ((0:Int)<((((ij c).map eL).length:Nat):Int))
def lu.nil(c:List aa):lu c 0 []:=⟨bJ _,J,fun m hm=>absurd hm (by simp),bW _⟩
def aAW(hc: ∀m∈c,LB m)(hok: ∀m∈c,m.ok)(hn:c.length<=1000):PF GB prog 165 [.sl (c.map eL)] (.tp [.sl ((ij c).map eL),vB (F3 c)]):=by
 have hcl:=vH c;refine fn (fu:=⟨16⟩) func165 J J ntmps165 J J (fun C=>?_);refine aj 11 (.d (vI (c.length:Nat))) J (by rw[hcl];rfl)<|gx J<|Bp 4 J<|lp (X:=List aa×Nat) (fun⟨xs,k⟩=>[(12, .d (vI (k:Nat))),(11, .d (vI (c.length:Nat))),(10, .d (.sl (c.map eL))),(0, .d (.sl (c.map eL))),(4, .d (.sl (xs.map eL)))]) (fun⟨xs,k⟩=>[]) (fun⟨xs,k⟩=>lu c k xs) (fun⟨xs,k⟩=>c.length-k) ⟨[],0⟩ J (lu.nil c) (fun _=>J) (fun⟨xs,k⟩ hk=>?_)
 try dsimp only at hk⊢
 have hS:=hk;refine br J J J (fun hc13=>?_) (fun hc13=>?_)
 .
  have hk:k<c.length:=by omega
  obtain⟨m,hm⟩: ∃m,m=c[k]:=⟨_,rfl⟩;haveI hmb:LB m:=hm▸hc _ (cN hk);have hmo:m.ok:=hm▸hok _ (cN hk);have hxl:=vH xs;have hxn:=hS.n;refine ix (fu:=⟨1⟩) _ J (vw hk) J<|aj 16 (.d (eL m)) J (by rw[hm];rfl)<|gx J<|cl J (OJ hc hok hn hk) J<|bb (fu2:=⟨8⟩) J J J (fun hc24=>?_) (fun hc24=>?_)
  .
   have hinv:lu c (k+1) xs:=hS.skip hk (by rw[<-xe];simpa using hc24);exact at_ ⟨xs,k+1⟩ (by dsimp only;exact⟨hinv,(by omega)⟩)
  .
   have hyes:(fD c[k] c ao.all).isSome=true:=by rw[<-xe];simpa using hc24
   refine mg (fu:=⟨6⟩) (X:=Unit) (fun _=>[(12, .d (vI (k:Nat))),(11, .d (vI (c.length:Nat))),(10, .d (.sl (c.map eL))),(0, .d (.sl (c.map eL))),(4, .d (.sl (xs.map eL))),(6, .ov 6 0),(9, .d (vI (mF xs m:Nat)))]) (fun _=>[(6,some (.o 136 [.d ((.v (.bool (decide (m.a<0))))), .d (dN m.a.natAbs), .d ((.v (.bool (decide (m.b<0))))), .d (dN m.b.natAbs), .d ((.v (.bool (decide (m.c<0))))), .d (dN m.c.natAbs)] true))]) (fun _=>True) [12,11,10,0,4,6,9] [6] rfl ?_ (fun _=>J) (fun _ _=>?_)
   .
    refine gx J<|lp (fu:=⟨6⟩) (X:=Nat) (fun n=>[(12, .d (vI (k:Nat))),(11, .d (vI (c.length:Nat))),(10, .d (.sl (c.map eL))),(0, .d (.sl (c.map eL))),(4, .d (.sl (xs.map eL))),(6, .ov 6 0),(9, .d (vI (n:Nat)))]) (fun n=>[(6,some (.o 136 [.d ((.v (.bool (decide (m.a<0))))), .d (dN m.a.natAbs), .d ((.v (.bool (decide (m.b<0))))), .d (dN m.b.natAbs), .d ((.v (.bool (decide (m.c<0))))), .d (dN m.c.natAbs)] true))]) (fun n=>n<=xs.length/\ ∀j (h:j<xs.length),j<n->fG xs[j].dir m.dir<0) (fun n=>xs.length-n) 0 J ⟨bJ _,fun j _ hj=>absurd hj (by omega)⟩ (fun _=>J) (fun n hk=>?_);obtain⟨n1,n2⟩:=hk;refine i7 J J J J (fun hg28=>?_) (fun hg28=>?_)
    .
     refine ix _ J (vw) J<|?_;haveI:LB (xs[n]'(by omega)):=hc _ (hS.m _ (cN _));refine cl J (tr (l:=xs[n]'(by omega))) J<|cl J (tr (l:=m)) J<|cl J (aAD (u:=(xs[n]'(by omega)).dir) (v:=m.dir)) J<|br J J J (fun hc39=>?_) (fun hc39=>?_)
     .
      exact at_ (n+1) ⟨⟨by omega,fun j h hj=>by by_cases q:j=n;(subst q;exact hc39);exact n2 j h (by omega)⟩,(by omega)⟩
     .
      have hidx:mF xs m=n:=Ns n1 n2 (fun h=>hc39);exact at_ () trivial
    .
     have hidx:mF xs m=n:=Ns n1 n2 (fun h=>absurd h (by omega));exact at_ () trivial
   .
    obtain⟨n,hnx⟩: ∃n,mF xs m=n:=⟨_,rfl⟩;rw[hnx];have hnl:n<=xs.length:=by rw[<-hnx];unfold mF;exact(List.takeWhile_sublist _).length_le
    have hcb: ∀m∈xs,LB m:=fun m hm=>hc m (hS.m m hm);refine i7 J J J J (fun hg45=>?_) (fun hg45=>?_)
    .
     refine ix _ J (vw) J<|cl J (Ds (l:=xs[n]'(by omega)) (m:=m) (hl:=hcb _ (cN (by omega)))) J<|br J J J (fun hc54=>?_) (fun hc54=>?_)
     .
      have hn46:n<xs.length:=by omega
      have hinv:lu c (k+1) xs:=hS.ins hk hyes (by rw[<-hm];exact ano hnx hn46 ((AZ _ m).1 hc54)) (by omega);exact at_ ⟨xs,k+1⟩ (by dsimp only;exact⟨hinv,(by omega)⟩)
     .
      have hnew: ∀h:n<xs.length,xs[n]≠m:=fun h e=>hc54 ((AZ _ m).2 e);obtain⟨ys,hys⟩: ∃ys,ys=xs.take n++m::xs.drop n:=⟨_,rfl⟩;have hinv:lu c (k+1) ys:=hS.ins hk hyes (by rw[<-hm,KV hnx hnew,hys]) (by rw[hys];simp;omega);refine s3 n _ J J J J (fw _) (by rw[hxl];exact hnl) J<|ro J J<|km n xs.length _ J J (by rw[hxl]) J (fw _) hnl (by omega) J<|ap _ J J (Fm _ _ _) J<|kI (hv:=by simp only[ak];exact⟨by kernel_rfl,by omega⟩) (ho:=fun _=>⟨OU _ _,by simp⟩) (ys.map eL) J (by rw[hys,bX,bY,iW,iR,cZ (l:=xs.map eL) (i:=xs.length) (by simp)];rfl) (Qo _ _ _ _) J<|at_ ⟨ys,k+1⟩ (by dsimp only;exact⟨hinv,(by omega)⟩)
    .
     have hnew: ∀h:n<xs.length,xs[n]≠m:=fun h=>absurd h (by omega);obtain⟨ys,hys⟩: ∃ys,ys=xs.take n++m::xs.drop n:=⟨_,rfl⟩;have hinv:lu c (k+1) ys:=hS.ins hk hyes (by rw[<-hm,KV hnx hnew,hys]) (by rw[hys];simp;omega);refine s3 n _ J J J J (fw _) (by rw[hxl];exact hnl) J<|ro J J<|km n xs.length _ J J (by rw[hxl]) J (fw _) hnl (by omega) J<|ap _ J J (Fm _ _ _) J<|kI (hv:=by simp only[ak];exact⟨by kernel_rfl,by omega⟩) (ho:=fun _=>⟨OU _ _,by simp⟩) (ys.map eL) J (by rw[hys,bX,bY,iW,iR,cZ (l:=xs.map eL) (i:=xs.length) (by simp)];rfl) (Qo _ _ _ _) J<|at_ ⟨ys,k+1⟩ (by dsimp only;exact⟨hinv,(by omega)⟩)
 .
  have hfin:ij c=xs:=hS.done (by have:=hS.le;omega);refine cs 71 J J J (fun hg71=>?_) (fun hg71=>?_)
  .
   exact rz J (by rw[F3,if_pos hg71,hfin];rfl)
  .
   exact rz J (by rw[F3,if_neg hg71,hfin];rfl)
section
variable (c:α->α->Int)
def ez(x:α):List α->List α
 |[]=>[x]
 |u::t=>if c u x<0 then u::ez x t else if c u x=0 then u::t else x::u::t
def lC(x:α)(xs:List α):Nat:=(xs.takeWhile fun u=>decide (c u x<0)).length
def DA(x:α)(xs:List α):lC c x xs<=xs.length:=(List.takeWhile_sublist _).length_le
def uI{x:α}{xs:List α}{n:Nat}(h1:n<=xs.length)(h2: ∀j (h:j<xs.length),j<n->c xs[j] x<0)(h3: ∀h:n<xs.length,¬c xs[n] x<0):lC c x xs=n:=
 IL h1 (fun j h hj=>decide_eq_true (h2 j h hj)) (fun h=>decide_eq_false (h3 h))
def Bg{x:α}: ∀{xs:List α} {n:Nat},lC c x xs=n->(h:n<xs.length)->c xs[n] x=0->ez c x xs=xs
 |[],n,_,h,_=>by simp at h
 |u::t,n,hn,h,e=>by
  rw[ez];unfold lC at hn;rw[oK] at hn;by_cases hu:c u x<0
  .rw[if_pos hu]
   rw[if_pos (by simpa using hu)] at hn;obtain⟨k,rfl⟩: ∃k,n=k+1:=⟨n-1,by simp at hn;omega⟩;rw[Bg (xs:=t) (n:=k) (by unfold lC;simpa using hn) (by simpa using h) (by simpa using e)]
  .rw[if_neg (by simpa using hu)] at hn
   simp at hn;subst hn;rw[if_neg hu,if_pos (by simpa using e)]
def sh{x:α}: ∀{xs:List α} {n:Nat},lC c x xs=n->(∀h:n<xs.length,c xs[n] x≠0)->ez c x xs=xs.take n++x::xs.drop n
 |[],n,hn,_=>by simp[lC] at hn;subst hn;rfl
 |u::t,n,hn,e=>by
  rw[ez];unfold lC at hn;rw[oK] at hn;by_cases hu:c u x<0
  .rw[if_pos hu]
   rw[if_pos (by simpa using hu)] at hn;obtain⟨k,rfl⟩: ∃k,n=k+1:=⟨n-1,by simp at hn;omega⟩;rw[sh (xs:=t) (n:=k) (by unfold lC;simpa using hn) (fun h=>by have:=e (by simpa using h);simpa using this)];simp
  .rw[if_neg (by simpa using hu)] at hn
   simp at hn;subst hn;have:=e (by simp);rw[if_neg hu,if_neg (by simpa using this)];rfl
def Ck(x:α): ∀(xs:List α),(ez c x xs).length<=xs.length+1
 |[]=>bW _
 |u::t=>by
  have:=Ck x t;rw[ez];split
  .simp;omega
  .split<;>simp
def LZ{x y:α}: ∀{xs:List α},y∈ez c x xs->y=x\/y∈xs
 |[],h=>by rw[ez,aU] at h;exact .inl h
 |u::t,h=>by
  rw[ez] at h;split at h
  .rcases aK.1 h with rfl|h
   .exact .inr aQ
   .rcases LZ h with h|h
    .exact .inl h
    .exact .inr (aJ _ h)
  .split at h
   .exact .inr h
   .rcases aK.1 h with rfl|h
    .exact .inl J
    .exact .inr h
def sg(l:List α):List α:=l.foldl (fun out x=>ez c x out) []
def Dj: ∀(l o:List α),(l.foldl (fun out x=>ez c x out) o).length<=l.length+o.length
 |[],o=>by simp
 |x::t,o=>by
  have:=Dj t (ez c x o);have:=Ck c x o;simp only[kY,bQ];omega
def HY{y:α}: ∀{l o:List α},y∈l.foldl (fun out x=>ez c x out) o->y∈l\/y∈o
 |[],o,h=> .inr h
 |x::t,o,h=>by
  rcases HY (l:=t) h with h|h
  .exact .inl (aJ _ h)
  .rcases LZ c h with rfl|h
   .exact .inl aQ
   .exact .inr h
end
def wj{x:Rat}: ∀{l:List Rat},kd x l=ez bA x l
 |[]=>rfl
 |u::t=>by
  have e1:bA u x<0↔u<x:=P7 u x;have e2:bA u x=0↔u=x:=uL u x;rw[kd,ez,wj (l:=t)];by_cases h:u<x
  .rw[if_pos h,if_pos (e1.2 h)]
  .rw[if_neg h,if_neg (fun e=>h (e1.1 e))]
   by_cases h2:u=x
   .rw[if_pos h2,if_pos (e2.2 h2)]
   .rw[if_neg h2,if_neg (fun e=>h2 (e2.1 e))]
def uj{f:α->β}{l:List α}{x:α}(h:l[k]? =some x):(l.take k).map f++[f x]=(l.take (k+1)).map f:=by
 rw[eK,h,bX];rfl
def Ry{a:Nat}[ha:BN a i](hi:i<=400000000:=by decide):PF GB prog 66 [dN a] (dN a):=by
 have hl:=bI (dg a);have hb:=kt ha.h;refine fn func66 J J ntmps66 J J (fun C=>?_);refine qz J J<|ap ((dg a).map dU) J J (ra _) J<|ik 5 J<|rz J J
def Dp[hz:BI z i](hi:i<=400000000:=by decide):PF GB prog 65 [eI z] (eI z):=by
 refine fn func65 J J ntmps65 J J (fun C=>?_);refine cl J (Ry (a:=z.natAbs) (i:=i) (ha:=⟨hz.h⟩) hi) J<|rz J J
def Us(hl:BL l 96):PF GB prog 133 [eL l] (eL l):=by
 haveI h1:BI l.a 96:=⟨hl.a⟩;haveI h2:BI l.b 96:=⟨hl.b⟩;haveI h3:BI l.c 96:=⟨hl.c⟩;refine fn func133 J J ntmps133 J J (fun C=>?_);refine cl J (Dp (z:=l.a)) J<|cl J (Dp (z:=l.b)) J<|cl J (Dp (z:=l.c)) J<|rz J J
def Tc(h:ds[ds.length-1]? =some d):ew ds↔ ¬((d:Int)=0):=by
 unfold ew;rw[nV,h];simp
def Nj(hn:ds.length<=1000000):PF GB prog 311 [dk ds] (vB (decide (ew ds))):=by
 have hm:=bI ds;refine fn (fu:=⟨9⟩) func311 J J ntmps311 J J (fun C=>?_);refine aj 4 (.d (vI (ds.length:Nat))) J (by rw[hm]<;>rfl)<|gx (fu:=⟨0⟩) J<|i7 (fu2:=⟨4⟩) J J J J (fun hg5=>?_) (fun hg5=>?_)
 .
  exact rz rfl (by obtain rfl:ds=[]:=cR (by omega);show DV.v (.bool _)= .v (.bool _);congr 2<;>exact(decide_eq_true (by intro h;cases h)).symm)
 .
  obtain⟨d,hd⟩: ∃d,ds[ds.length-1]? =some d:=⟨_,aZ (by omega)⟩;refine aj 9 (.d (vI (ds.length:Nat))) J (by rw[hm]<;>rfl)<|gx J<|ix _ J (by rw[show(((ds.length:Nat):Int)-1).toNat=ds.length-1 by omega,cY,hd];rfl) J<|?_;exact rz J (by show DV.v (.bool _)= .v (.bool _);congr 2;exact decide_eq_decide.2 (Tc hd).symm)
def GZ(hn:ds.length<=1000000):PF GB prog 281 [.ag [.v (.bool neg),dk ds]] (vB (decide (sr neg ds))):=by
 have hm:=bI ds;refine fn func281 J J ntmps281 J J (fun C=>?_);by_cases hN:ew ds
 .
  refine cl (fu:=⟨0⟩) J (Nj hn) J<|aj 5 (.d (vB true)) J (by rw[decide_eq_true hN])<|jp 5 J<|gx J<|iq (fu2:=⟨3⟩) 10 J J J (fun hg10=>?_) (fun hg10=>?_)
  .
   exact rz J (by show DV.v (.bool _)= .v (.bool _);congr 2;unfold sr;simp_all)
  .
   refine aj 13 (.d (vI (ds.length:Nat))) J (by rw[hm]<;>rfl)<|gx J<|rz J (by show DV.v (.bool _)= .v (.bool _);congr 2;unfold sr;simp_all)
 .
  refine cl (fu:=⟨0⟩) J (Nj hn) J<|aj 5 (.d (vB false)) J (by rw[decide_eq_false hN])<|rA 5 J<|gx J<|rz J (by show DV.v (.bool _)= .v (.bool _);congr 2;unfold sr;simp_all)
def RW(hd:bB ds)(hn:ds.length<=1000000):PF GB prog 301 [dk ds] (dN (dv ds)):=by
 have hm:=bI ds;refine fn func301 J J ntmps301 J J (fun C=>?_);refine qz J J<|ap (ds.map dU) J J (ra _) J<|fz 5 J J<|cl J (qe (ds:=ds)) J<|rz J (by unfold dN;rw[C9 hd];rfl)
def Cw(hd:bB ds)(hn:ds.length<=1000000):PF GB prog 282 [.ag [.v (.bool neg),dk ds]] (eI (pp neg ds)):=by
 refine fn func282 J J ntmps282 J J (fun C=>?_);refine cl J (RW hd hn) J<|cl J ks J<|rz J J
def CU(r:RL):DV:= .tp [if r.nm then eL r.l else .ag [.v (.bool false), .sl [], .v (.bool false), .sl [], .v (.bool false), .sl []],vB (decide (r.nm/\r.l.ok))]
def aFL{a b:Nat}(h:iB a b=0):a=b:=by
 unfold iB at h;split at h
 .cases h
 .split at h
  .assumption
  .cases h
def HL:l.ok↔0<Nat.gcd l.a.natAbs l.b.natAbs/\Nat.gcd (Nat.gcd l.a.natAbs l.b.natAbs) l.c.natAbs=1:=by
 unfold aa.ok;refine and_congr ?_ Iff.rfl;rw[Nat.pos_iff_ne_zero,ne_eq,Nat.gcd_eq_zero_iff];simp only[kW]
def aDs{r:RL}(s:r.sm)(h:r.nm):PF GB prog 224 [r.d] (CU r):=by
 haveI:=RL.lb s;haveI ba:BN r.l.a.natAbs 96:=⟨(LB.a r.l).h⟩;haveI bb':BN r.l.b.natAbs 96:=⟨(LB.b r.l).h⟩;haveI bc:BN r.l.c.natAbs 96:=⟨(LB.c r.l).h⟩;obtain⟨g,hg⟩: ∃g,g=Nat.gcd r.l.a.natAbs r.l.b.natAbs:=⟨_,rfl⟩;haveI bg:BN g 96:=hg▸⟨Ir ba.h bb'.h⟩;have bgc:=Ir bg.h bc.h;have hgl:=kt bg.h;refine fn func224 J J ntmps224 J J (fun C=>?_);refine cl (fu:=⟨0⟩) J (GZ (neg:=r.na) (ds:=r.da) (by have:=s.a.2;omega)) J<|cF J (by show some (!decide _)=some false;rw[decide_eq_true h.1];rfl) J<|cl (fu:=⟨0⟩) J (GZ (neg:=r.nb) (ds:=r.db) (by have:=s.b.2;omega)) J<|cF J (by show some (!decide _)=some false;rw[decide_eq_true h.2.1];rfl) J<|cl (fu:=⟨0⟩) J (GZ (neg:=r.nc) (ds:=r.dc) (by have:=s.c.2;omega)) J<|cF J (by show some (!decide _)=some false;rw[decide_eq_true h.2.2];rfl) J<|cl J (Cw (neg:=r.na) (ds:=r.da) s.a.1 (by have:=s.a.2;omega)) J<|cl J (Cw (neg:=r.nb) (ds:=r.db) s.b.1 (by have:=s.b.2;omega)) J<|cl J (Cw (neg:=r.nc) (ds:=r.dc) s.c.1 (by have:=s.c.2;omega)) J<|cl (fu:=⟨0⟩) J (Aj (a:=r.l.a.natAbs) (b:=r.l.b.natAbs)) J<|aj 39 (.d (dN g)) J (by rw[hg])<|gx (fu:=⟨8⟩) J<|aj 42 (.d (vI ((dg g).length:Nat))) J (by rw[bI]<;>rfl)<|gx (fu:=⟨0⟩) J<|i7 (v2:=fun hg43=>by simp only[ak];kernel_rfl) J J J J (fun hg43=>?_) (fun hg43=>?_)
 .
  refine cl J (Aj (a:=g) (b:=r.l.c.natAbs)) J<|cl J Ce J<|cl J (x7 (a:=Nat.gcd g r.l.c.natAbs) (b:=1) (by have:=kt bgc;omega) (by have:=kt (show 1<2^32 by decide);omega)) J<|rz J (by unfold CU;rw[if_pos h,show decide (r.nm/\r.l.ok)=decide (iB (Nat.gcd g r.l.c.natAbs) 1=0) from decide_eq_decide.2 ⟨fun e=>Fb (by rw[hg];exact(HL.1 e.2).2),fun e=>⟨h,HL.2 ⟨by rw[<-hg];exact tO.1 (by omega),by rw[<-hg];exact aFL e⟩⟩⟩];rfl)
 .
  exact rz J (by unfold CU;rw[if_pos h,show decide (r.nm/\r.l.ok)=false from decide_eq_false fun e=>by(have h1:=(HL.1 e.2).1;rw[<-hg] at h1;have:=tO.2 h1;omega)];rfl)
def Ww{n:Nat}[h:BN n i](hi:i<=20000000:=by decide):PF GB prog 301 [dN n] (dN n):=by
 have hl:=kt h.h;have:=RW (GB:=GB) (ds:=dg n) (f9 n) (by omega);rw[c8,<-FE] at this;exact this
def ayM(z:Int):pp (decide (z<0)) (dg z.natAbs)=z:=by
 unfold pp;rw[c8];split<;>(rename_i h;simp at h;omega)
def Wi[h:BI z i](hi:i<=20000000:=by decide):PF GB prog 282 [eI z] (eI z):=by
 have hl:=kt h.h;have:=Cw (GB:=GB) (neg:=decide (z<0)) (ds:=dg z.natAbs) (f9 _) (by omega);rw[ayM,<-FE] at this;exact this
def VE{n:Nat}(h:0<n): ¬((((dg n).map dU).length:Nat):Int)=0:=by
 rw[aX];have:=uc (n:=n);omega
instance BQ.m1':BQ (((-1:Int):Int):Rat) 2:=⟨by decide,by decide⟩
instance BQ.m1:BQ (-1:Rat) 2:=⟨by decide,by decide⟩
def OX[h:BQ q i](hi:i<=20000000:=by decide):PF GB prog 261 [eR q] (eQ q):=by
 have hd:=q.den_pos;refine fn func261 J J ntmps261 J J (fun C=>?_);refine cl (fu:=⟨8⟩) J (Ww (n:=q.den) hi) J<|cF J (by show some (decide _)=some false;rw[decide_eq_false (VE hd)]) J<|cl J (Wi (z:=q.num) hi) J<|cl J (xk (x:=q.num) (d:=q.den) hd (by omega) (by omega)) J<|rz J (by rw[rY];rfl)
def OL[h:BQ q i](hi:i<=400000000:=by decide):PF GB prog 22 [eQ q] (eR q):=by
 refine fn func22 J J ntmps22 J J (fun C=>?_);refine cl J (Dp (z:=q.num) hi) J<|cl J (kh (q:=q)) J<|cl J (Ry (a:=q.den) hi) J<|rz J J
def YT[h:aI p i](hi:i<=20000000:=by decide):PF GB prog 202 [n7 p] (eP p):=by
 refine fn func202 J J ntmps202 J J (fun C=>?_);refine cl J (OX (q:=p.x) hi) J<|cl J (OX (q:=p.y) hi) J<|rz J J
def aGj[h:aI p i](hi:i<=20000:=by decide):PF GB prog 12 [eP p] (n7 p):=by
 refine fn func12 J J ntmps12 J J (fun C=>?_);refine cl J (OL (q:=p.x) (i:=i) (by omega)) J<|cl J (OL (q:=p.y) (i:=i) (by omega)) J<|rz J J
def d7(f:α->DV)(l:List α):(l.map f).length=l.length:=aX ..
def M2(ps:List ah):cA 6 (ps.map eP):=fun d hd=>by
 obtain⟨u,_,rfl⟩:=aR.1 hd;exact⟨rfl,rfl⟩
def TC(ps:List ah):cA 6 (ps.map n7):=fun d hd=>by
 obtain⟨u,_,rfl⟩:=aR.1 hd;exact⟨rfl,rfl⟩
def aHp(hb: ∀p∈ps,aI p 1200)(hn:ps.length<=1000000):PF GB prog 120 [.sl (ps.map n7)] (.sl (ps.map eP)):=by
 have hm:=d7 n7 ps;refine fn (fu:=⟨15⟩) func120 J J ntmps120 J J (fun C=>?_);refine aj 7 (.d (vI (ps.length:Nat))) J (by rw[hm]<;>rfl)<|gx J<|nr 3 3 36 6 J J J<|lp (X:=Nat) (fun k=>[(8, .d (vI (k:Nat))),(3, .rw 3)]) (fun k=>[(3,some (.b 36 6 ((ps.take k).map eP) true))]) (fun k=>k<=ps.length) (fun k=>ps.length-k) 0 J (bJ _) (fun _=>J) (fun k hk=>?_);have hml:=d7 eP (ps.take k);rw[bL] at hml;refine br J J J (fun hc9=>?_) (fun hc9=>?_)
 .
  obtain⟨z,hz⟩: ∃s,ps[k]? =some s:=⟨_,aZ (by omega)⟩;have hzm:=aV hz;refine ix _ J (cO hz) J<|cl J (YT (p:=z) (h:=hb z hzm)) J<|rf J J<|ap ((ps.take (k+1)).map eP) J (uj hz) (M2 [z]) J<|fm 16 3 J<|at_ (k+1) ⟨(by omega),(by omega)⟩
 .
  obtain rfl:k=ps.length:=by omega
  refine ik 3 J<|rz J (by rw[dQ];rfl)
def L1(hb: ∀p∈ps,aI p 1200)(hn:ps.length<=1000000):PF GB prog 11 [.sl (ps.map eP)] (.sl (ps.map n7)):=by
 have hm:=d7 eP ps;refine fn (fu:=⟨15⟩) func11 J J ntmps11 J J (fun C=>?_);refine aj 7 (.d (vI (ps.length:Nat))) J (by rw[hm]<;>rfl)<|gx J<|nr 3 3 52 6 J J J<|lp (X:=Nat) (fun k=>[(8, .d (vI (k:Nat))),(3, .rw 3)]) (fun k=>[(3,some (.b 52 6 ((ps.take k).map n7) true))]) (fun k=>k<=ps.length) (fun k=>ps.length-k) 0 J (bJ _) (fun _=>J) (fun k hk=>?_);have hml:=d7 n7 (ps.take k);rw[bL] at hml;refine br J J J (fun hc9=>?_) (fun hc9=>?_)
 .
  obtain⟨z,hz⟩: ∃s,ps[k]? =some s:=⟨_,aZ (by omega)⟩;have hzm:=aV hz;refine ix _ J (cO hz) J<|cl J (aGj (p:=z) (h:=hb z hzm)) J<|rf J J<|ap ((ps.take (k+1)).map n7) J (uj hz) (TC [z]) J<|fm 16 3 J<|at_ (k+1) ⟨(by omega),(by omega)⟩
 .
  obtain rfl:k=ps.length:=by omega
  refine ik 3 J<|rz J (by rw[dQ];rfl)
def Kb{q:ah}[hp:aI p i][hq:aI q j](hi:i<=100000:=by decide)(hj:j<=100000:=by decide):PF GB prog 32 [eP p,eP q] (eP (cG p q (-1))):=by
 refine fn func32 J J ntmps32 J J (fun C=>?_);refine cl J (jE (n:= -1)) J<|cl J (BS (p:=p) (q:=q) (c:=((-1:Int):Rat)) (i:=i) (j:=j) (k:=2) (by omega) (by omega)) J<|rz J (by rw[show((-1:Int):Rat)= -1 from J];rfl)
def F6{a b c:ah}[ha:aI a i][hb:aI b j][hc:aI c k](hi:i<=80000:=by decide)(hj:j<=80000:=by decide)(hk:k<=80000:=by decide):PF GB prog 20 [eP a,eP b,eP c] (vI (tY a b c)):=by
 refine fn func20 J J ntmps20 J J (fun C=>?_);refine cl J (Kb (p:=b) (q:=a) (i:=j) (j:=i) (by omega) (by omega)) J<|cl J (Kb (p:=c) (q:=a) (i:=k) (j:=i) (by omega) (by omega)) J<|cl J (JK (p:=cG b a (-1)) (q:=cG c a (-1)) (by omega) (by omega)) J<|cl J (qd (q:=(cG b a (-1)).cross (cG c a (-1)))) J<|rz J J
def xj(l:aa):Bool:=decide (l.a<0\/(l.a=0/\l.b<0))
def aa.canon(l:aa):aa:=if xj l then l.rev else l
def Af(a:Int):a.sign<0↔a<0:=by
 rcases pJ a 0 with h|h|h
 .rw[dS h];omega
 .subst h;simp
 .rw[fY h];omega
def Pq(a:Int):a.sign=0↔a=0:=gS
def K6(h:l.a<0\/(l.a=0/\l.b<0)):DV.tp [eL l.canon,vB (xj l)]= .tp [eL l.rev,vB true]:=by
 unfold aa.canon xj;rw[decide_eq_true h];rfl
def PG(h: ¬(l.a<0\/(l.a=0/\l.b<0))):DV.tp [eL l.canon,vB (xj l)]= .tp [eL l,vB false]:=by
 unfold aa.canon xj;rw[decide_eq_false h];rfl
def Wx[hl:LB l]:PF GB prog 162 [eL l] (.tp [eL l.canon,vB (xj l)]):=by
 refine fn func162 J J ntmps162 J J (fun C=>?_);refine cl J (zm (z:=l.a)) J<|cs 10 J J J (fun hg10=>?_) (fun hg10=>?_)
 .
  refine cl J (AU (l:=l)) J<|rz J (by rw[K6 (.inl ((Af _).1 hg10))];rfl)
 .
  refine cs 13 J J J (fun hg13=>?_) (fun hg13=>?_)
  .
   refine cl J (zm (z:=l.b)) J<|br J J J (fun hc19=>?_) (fun hc19=>?_)
   .
    refine cl J (AU (l:=l)) J<|rz J (by rw[K6 (.inr ⟨(Pq _).1 hg13,(Af _).1 hc19⟩)];rfl)
   .
    exact rz J (by rw[PG (fun e=>e.elim (fun e=>hg10 ((Af _).2 e)) (fun e=>hc19 ((Af _).2 e.2)))];rfl)
  .
   exact rz J (by rw[PG (fun e=>e.elim (fun e=>hg10 ((Af _).2 e)) (fun e=>hg13 ((Pq _).2 e.1)))];rfl)
instance LB.canon (l:aa) [h:LB l]:LB l.canon:=by unfold aa.canon;split;exact LB.rev h;exact h
def Oj(h:l.ok):l.canon.ok:=by unfold aa.canon;split;exact h.rev;exact h
def ql(c:β->β->Int)(g:α->β)(l:List α)(k:Nat):List β:=sg c ((l.take k).map g)
section
variable {c:β->β->Int}{g:α->β}{l:List α}
def yp{x:α}(h:l[k]? =some x):ql c g l (k+1)=ez c (g x) (ql c g l k):=by
 unfold ql sg;rw[eK,h,oL,bX,nL];rfl
def N0(h:k=l.length:=by omega):ql c g l k=sg c (l.map g):=by unfold ql;rw[h,dQ]
def Mk:(ql c g l k).length<=k:=by
 have:=Dj c ((l.take k).map g) [];have h2:((l.take k).map g).length<=k:=by rw[aX,bL];omega
 rw[eY] at this;unfold ql sg;omega
def Qf{y:β}(h:y∈ql c g l k): ∃x∈l,y=g x:=by
 rcases HY c h with h|h
 .obtain⟨x,hx,rfl⟩:=aR.1 h
  exact⟨x,eM hx,J⟩
 .cases h
end
def uK{f:α->DV}(ok: ∀l:List α,cA s (l.map f))(xs:List α)(n:Nat):cA s ((xs.map f).take n):=fun d hd=>ok xs d (eM hd)
def sI{f:α->DV}(ok: ∀l:List α,cA s (l.map f))(xs:List α)(n m:Nat):cA s (((xs.map f).take n).drop m):=fun d hd=>ok xs d (eM (gU hd))
def uD{f:α->DV}(ok: ∀l:List α,cA s (l.map f))(xs:List α)(n m:Nat)(x:α):cA s ([f x]++((xs.map f).take n).drop m):=fun d hd=>by
 rcases aM.1 hd with h|h
 .exact ok [x] d h
 .exact sI ok xs n m d h
def sH{f:α->DV}{l:List α}(h:i<l.length:=by omega):(l.map f)[(i:Int).toNat]? =some (f l[i]):=by
 rw[cK,cY,aZ h];rfl
def mO(ls:List aa):List aa:=sg gI (ls.map aa.canon)
def Di{y:aa}(h:y∈mO ls): ∃x∈ls,y=x.canon:=by
 rcases HY gI h with h|h
 .obtain⟨x,hx,rfl⟩:=aR.1 h;exact⟨x,hx,rfl⟩
 .cases h
def Ol(hb: ∀p∈ls,LB p)(hn:ls.length<=100000):PF GB prog 86 [.sl (ls.map eL)] (.sl ((mO ls).map eL)):=by
 have hm':=d7 eL ls;refine fn (fu:=⟨15⟩) func86 J J ntmps86 J J (fun C=>?_);refine aj 8 (.d (vI (ls.length:Nat))) J (by rw[hm'];rfl)<|gx J<|Bp 3 J<|lp (X:=List aa×Nat) (fun⟨xs,k⟩=>[(9, .d (vI (k:Nat))),(8, .d (vI (ls.length:Nat))),(7, .d (.sl (ls.map eL))),(0, .d (.sl (ls.map eL))),(3, .d (.sl (xs.map eL)))]) (fun⟨xs,k⟩=>[]) (fun⟨xs,k⟩=>xs=ql gI aa.canon ls k/\k<=ls.length) (fun⟨xs,k⟩=>ls.length-k) ⟨[],0⟩ J ⟨J,bJ _⟩ (fun _=>J) (fun⟨xs,k⟩ hk=>?_)
 try dsimp only at hk⊢
 obtain⟨hS,hkl⟩:=hk;refine br J J J (fun hc10=>?_) (fun hc10=>?_)
 .
  have hk:k<ls.length:=by omega
  obtain⟨z,hm⟩: ∃m,m=ls[k]:=⟨_,rfl⟩;have hz:ls[k]? =some z:=by rw[hm];exact aZ hk
  haveI hzb:LB z:=hm▸hb _ (cN hk);obtain⟨m,hmc⟩: ∃m,m=z.canon:=⟨_,rfl⟩;haveI hmb:LB m:=by rw[hmc];infer_instance
  have hxl:=d7 eL xs;have hxn:xs.length<=k:=by rw[hS];exact Mk
  have hxb: ∀q∈xs,LB q:=fun q hq=>by rw[hS] at hq;obtain⟨z,hz,rfl⟩:=Qf hq;haveI:=hb z hz;infer_instance
  refine ix (fu:=⟨1⟩) _ J (sH hk) J<|aj 12 (.d (eL z)) J (by rw[hm];rfl)<|gx J<|cl (fu:=⟨2⟩) J (Wx (l:=z)) J<|aj 16 (.d (eL m)) J (by rw[hmc])<|gx (fu:=⟨10⟩) J<|mg (fu:=⟨5⟩) (X:=Unit) (fun _=>[(9, .d (vI (k:Nat))),(8, .d (vI (ls.length:Nat))),(7, .d (.sl (ls.map eL))),(0, .d (.sl (ls.map eL))),(3, .d (.sl (xs.map eL))),(5, .ov 5 0),(6, .d (vI (lC gI m xs:Nat)))]) (fun _=>[(5,some (.o 136 [.d ((.v (.bool (decide (m.a<0))))), .d (dN m.a.natAbs), .d ((.v (.bool (decide (m.b<0))))), .d (dN m.b.natAbs), .d ((.v (.bool (decide (m.c<0))))), .d (dN m.c.natAbs)] true))]) (fun _=>True) [9,8,7,0,3,5,6] [5] rfl ?_ (fun _=>J) (fun _ _=>?_)
  .
   refine gx J<|lp (fu:=⟨6⟩) (X:=Nat) (fun n=>[(9, .d (vI (k:Nat))),(8, .d (vI (ls.length:Nat))),(7, .d (.sl (ls.map eL))),(0, .d (.sl (ls.map eL))),(3, .d (.sl (xs.map eL))),(5, .ov 5 0),(6, .d (vI (n:Nat)))]) (fun n=>[(5,some (.o 136 [.d ((.v (.bool (decide (m.a<0))))), .d (dN m.a.natAbs), .d ((.v (.bool (decide (m.b<0))))), .d (dN m.b.natAbs), .d ((.v (.bool (decide (m.c<0))))), .d (dN m.c.natAbs)] true))]) (fun n=>n<=xs.length/\ ∀j (h:j<xs.length),j<n->gI xs[j] m<0) (fun n=>xs.length-n) 0 J ⟨bJ _,fun j _ hj=>absurd hj (by omega)⟩ (fun _=>J) (fun n hk=>?_);obtain⟨n1,n2⟩:=hk;refine i7 (v2:=fun hg21=>by simp only[ak];kernel_rfl) J J J J (fun hg21=>?_) (fun hg21=>?_)
   .
    refine ix _ J (sH) J<|cl J (Ds (l:=xs[n]'(by omega)) (m:=m) (hl:=hxb _ (cN (by omega))) (hm:=hmb)) J<|br J J J (fun hc30=>?_) (fun hc30=>?_)
    .
     exact at_ (n+1) ⟨⟨by omega,fun j h hj=>by by_cases q:j=n;(subst q;exact hc30);exact n2 j h (by omega)⟩,(by omega)⟩
    .
     have hidx:lC gI m xs=n:=uI gI n1 n2 (fun h=>hc30);exact at_ () trivial
   .
    have hidx:lC gI m xs=n:=uI gI n1 n2 (fun h=>absurd h (by omega));exact at_ () trivial
  .
   obtain⟨n,hnx⟩: ∃n,lC gI m xs=n:=⟨_,rfl⟩;rw[hnx];have hnl:n<=xs.length:=by rw[<-hnx];exact DA _ _ _
   refine i7 (v1:=fun hg36=>by simp only[ak];kernel_rfl) J J J J (fun hg36=>?_) (fun hg36=>?_)
   .
    have hnew: ∀h:n<xs.length,gI xs[n] m≠0:=fun h=>absurd h (by omega);obtain⟨ys,hys⟩: ∃ys,ys=xs.take n++m::xs.drop n:=⟨_,rfl⟩;have hin:ez gI m xs=ys:=by rw[hys];exact sh gI hnx hnew
    have hyl:ys.length<=xs.length+1:=by rw[hys];simp;omega
    refine s3 n _ J J J J (fw _) (by rw[hxl];exact hnl) J<|ro J J<|km n xs.length _ J J (by rw[hxl]) J (fw _) hnl (by omega) J<|ap _ J J (sI fw _ _ _) J<|kI (hv:=by simp only[ak];exact⟨by kernel_rfl,by omega⟩) (ho:=fun _=>⟨uK fw _ _,by simp⟩) (ys.map eL) J (by rw[hys,bX,bY,iW,iR,cZ (l:=xs.map eL) (i:=xs.length) (by simp)];rfl) (uD fw _ _ _ _) J<|at_ ⟨ys,k+1⟩ (by dsimp only;exact⟨⟨by rw[yp hz,<-hS,<-hmc];exact hin.symm,by omega⟩,(by omega)⟩)
   .
    refine ix _ J (sH) J<|cl J (Ds (l:=xs[n]'(by omega)) (m:=m) (hl:=hxb _ (cN (by omega))) (hm:=hmb)) J<|br J J J (fun hc45=>?_) (fun hc45=>?_)
    .
     have hnew: ∀h:n<xs.length,gI xs[n] m≠0:=fun h=>hc45;obtain⟨ys,hys⟩: ∃ys,ys=xs.take n++m::xs.drop n:=⟨_,rfl⟩;have hin:ez gI m xs=ys:=by rw[hys];exact sh gI hnx hnew
     have hyl:ys.length<=xs.length+1:=by rw[hys];simp;omega
     refine s3 n _ J J J J (fw _) (by rw[hxl];exact hnl) J<|ro J J<|km n xs.length _ J J (by rw[hxl]) J (fw _) hnl (by omega) J<|ap _ J J (sI fw _ _ _) J<|kI (hv:=by simp only[ak];exact⟨by kernel_rfl,by omega⟩) (ho:=fun _=>⟨uK fw _ _,by simp⟩) (ys.map eL) J (by rw[hys,bX,bY,iW,iR,cZ (l:=xs.map eL) (i:=xs.length) (by simp)];rfl) (uD fw _ _ _ _) J<|at_ ⟨ys,k+1⟩ (by dsimp only;exact⟨⟨by rw[yp hz,<-hS,<-hmc];exact hin.symm,by omega⟩,(by omega)⟩)
    .
     have hin:ez gI m xs=xs:=Bg gI hnx (by omega) (Decidable.not_not.1 hc45);exact at_ ⟨xs,k+1⟩ (by dsimp only;exact⟨⟨by rw[yp hz,<-hS,<-hmc];exact hin.symm,by omega⟩,(by omega)⟩)
 .
  have hfin:mO ls=xs:=by rw[hS,N0];rfl
  exact rz J (by rw[hfin];rfl)
def E6{α:Type}{c:α->α->Int}(hc: ∀u x,c u x=0->u=x){x y:α}: ∀{xs:List α},y=x\/y∈xs->y∈ez c x xs
 |[],h=>by
  rcases h with rfl|h
  .rw[ez];exact aU.2 J
  .cases h
 |u::t,h=>by
  rw[ez];split
  .rcases h with rfl|h
   .exact aJ _ (E6 hc (.inl J))
   .rcases aK.1 h with rfl|h
    .exact aQ
    .exact aJ _ (E6 hc (.inr h))
  .split
   .rename_i h0
    rcases h with rfl|h
    .rw[<-hc _ _ h0];exact aQ
    .exact h
   .rcases h with rfl|h
    .exact aQ
    .exact aJ _ h
def Rg{α:Type}{c:α->α->Int}(hc: ∀u x,c u x=0->u=x){y:α}: ∀{l o:List α},y∈l\/y∈o->y∈l.foldl (fun out x=>ez c x out) o
 |[],o,h=>h.elim (fun h=>by cases h) id
 |x::t,o,h=>by
  refine Rg hc (l:=t) ?_;rcases h with h|h
  .rcases aK.1 h with rfl|h
   .exact .inr (E6 hc (.inl J))
   .exact .inl h
  .exact .inr (E6 hc (.inr h))
def NO{x:aa}(h:x∈ls):x.canon∈mO ls:=
 Rg (fun u x e=>(AZ u x).1 e) (.inl (dY h))
def J2(l:aa)(p:ah):l.canon.value p=l.value p\/l.canon.value p= -l.value p:=by
 unfold aa.canon;split
 .exact .inr (en l p)
 .exact .inl J
def HK:b9 (mO ls) p↔b9 ls p:=by
 constructor
 .intro h l hl e
  have:=h _ (NO hl);rcases J2 l p with k|k<;>rw[k,e] at this<;>exact this (by simp)
 .intro h l hl e
  obtain⟨x,hx,rfl⟩:=Di hl;have:=h x hx;rcases J2 x p with k|k<;>rw[k] at e
  .exact this e
  .exact this (by grind)
def Up{q:ah}(hp:b9 ls p)(hq:b9 ls q)(h: ∀l∈mO ls,0<l.value p↔0<l.value q): ∀l∈ls,0<l.value q↔0<l.value p:=fun l hl=>by
 have h1:=h _ (NO hl);have h2:=hp l hl;have h3:=hq l hl;unfold aa.canon at h1;split at h1
 .rw[en,en] at h1
  constructor
  .intro k
   rcases jz (l.value p) with e|e|e
   .exact absurd e h2
   .exact e
   .have:=h1.1 (by grind);grind
  .intro k
   rcases jz (l.value q) with e|e|e
   .exact absurd e h3
   .exact e
   .have:=h1.2 (by grind);grind
 .exact h1.symm
def nj(a b:Tr):List ah:=oz (mO (a.lns++b.lns))
def aBJ(ha:a.all aa.ok)(hb:b.all aa.ok){R:Bool->Bool->Prop}:(∀p∈nj a b,R (jA a p) (jA b p))↔ ∀p,b9 (a.lns++b.lns) p->R (a.val p) (b.val p):=by
 have hok: ∀l∈a.lns++b.lns,l.ok:=fun l hl=>(aM.1 hl).elim (nP ha l) (nP hb l);have hne: ∀l∈mO (a.lns++b.lns),l.Ne:=fun l hl=>by
  obtain⟨x,hx,rfl⟩:=Di hl;exact(Oj (hok x hx)).ne
 constructor
 .intro h p hp
  obtain⟨q,hq,hs⟩:=WV hne (HK.2 hp);have ho:=HK.1 (Lj hne hq);have hsd:=Up hp ho hs;have k:=h q hq;rw[wo (b9.app.1 ho).1,wo (b9.app.1 ho).2,CO (t:=a) hsd (fun l hl=>bV _ hl),CO (t:=b) hsd (fun l hl=>bZ _ hl)] at k;exact k
 .intro h p hp
  have ho:=HK.1 (Lj hne hp);rw[wo (b9.app.1 ho).1,wo (b9.app.1 ho).2];exact h p ho
def rD(a b:Tr):Bool:=(nj a b).all fun p=>jA a p==jA b p
def awH(ha:a.all aa.ok)(hb:b.all aa.ok):rD a b=DU 4 a b:=by
 rw[qY,(rB.mk0 ha hb).none,rD,dJ,aBJ ha hb (R:=fun x y=>(x==y)=true)];unfold qE;simp
def Ta(ha:a.all aa.ok)(hb:b.all aa.ok)(hL: ∀l∈L,l.ok)(hLa: ∀l∈a.lns,l∈L)(hLb: ∀l∈b.lns,l∈L)(h: ∀p,b9 L p->a.val p=b.val p):rD a b=true:=by
 rw[awH ha hb,(rB.mk ha hb hL hLa hLb).none];intro p hp;rw[h p hp];unfold qE;simp
def d6.trans{u v w:ah}(hu:u.half≠0)(hv:v.half≠0)(hw:w.half≠0)(h:d6 u v)(k:d6 v w):d6 u w:=by
 rcases h with h|⟨h,h'⟩<;>rcases k with k|⟨k,k'⟩
 .exact .inl (by omega)
 .exact .inl (by omega)
 .exact .inl (by omega)
 .refine .inr ⟨h.trans k,?_⟩
  have id1:u.cross w*v.y=u.cross v*w.y+v.cross w*u.y:=by unfold ah.cross;grind
  rcases tT v with⟨x,q⟩|⟨x,q⟩|⟨x,q⟩
  .rw[x] at h k
   have qu:=ow.1 h;have qw:=ow.1 k.symm;rcases q with q|⟨q,q'⟩
   .rw[<-fC q,id1]
    have wy:0<=w.y:=by grind
    have uy:0<=u.y:=by grind
    have a1:=cC (cM h') wy;rcases qu with qu|⟨qu,qu'⟩
    .have:=dd k' qu;grind
    .rcases qw with qw|⟨qw,qw'⟩
     .have:=dd h' qw;rw[qu];grind
     .exfalso
      have hx:v.cross w= -(w.x*v.y):=by unfold ah.cross;rw[qw];grind
      have:=dd qw' q;grind
   .exfalso
    have hx:u.cross v= -(v.x*u.y):=by unfold ah.cross;rw[q];grind
    have:=cC (a:=v.x) (b:=u.y) (cM q') (by grind);grind
  .rw[x] at h k
   have qu:=ti.1 h;have qw:=ti.1 k.symm;rcases q with q|⟨q,q'⟩
   .have e1:u.cross w* -v.y=u.cross v* -w.y+v.cross w* -u.y:=by grind
    rw[<-fC (k:= -v.y) (by grind),e1];have a1:=cC (a:=u.cross v) (b:= -w.y) (cM h') (by grind);rcases qu with qu|⟨qu,qu'⟩
    .have:=dd (a:=v.cross w) (b:= -u.y) k' (by grind);grind
    .rcases qw with qw|⟨qw,qw'⟩
     .have:=dd (a:=u.cross v) (b:= -w.y) h' (by grind);rw[qu];grind
     .exfalso
      have hx:v.cross w= -(-w.x* -v.y):=by unfold ah.cross;rw[qw];grind
      have:=dd (a:= -w.x) (b:= -v.y) (by grind) (by grind);grind
   .exfalso
    have hx:u.cross v= -(-v.x* -u.y):=by unfold ah.cross;rw[q];grind
    have:=cC (a:= -v.x) (b:= -u.y) (by grind) (by grind);grind
  .exact absurd x hv
def Du(h:l.ok):l.dir.half≠0:=fun e=>by
 have hn:=h.ne;unfold aa.Ne at hn;rcases tT l.dir with⟨k,_⟩|⟨k,_⟩|⟨_,k1,k2⟩
 .rw[k] at e;cases e
 .rw[k] at e;cases e
 .unfold aa.dir at k1 k2
  simp only at k1 k2;apply hn;refine⟨?_,cW.1 k2⟩;have:(l.a:Rat)=0:=by grind
  exact cW.1 this
def Xj{v:ah}:fG u v=0↔u.half=v.half/\u.cross v=0:=by
 unfold fG;split
 .constructor
  .intro h;exact absurd h (by decide)
  .intro h;omega
 .split
  .constructor
   .intro h;exact absurd h (by decide)
   .intro h;omega
  .constructor
   .intro h
    exact⟨by omega,(pc _).1 (by omega)⟩
   .intro h
    rw[(pc _).2 h.2];rfl
def Bu{v w:ah}(h:d6 u v)(k:d6 v w):d6 u w:=by
 by_cases hu:u.half=0
 .by_cases hw:w.half=0
  .have z: ∀x y:ah,x.half=0->x.cross y=0:=fun x y hx=>by
    rcases tT x with⟨e,_⟩|⟨e,_⟩|⟨_,e1,e2⟩
    .rw[hx] at e;exact absurd e (by decide)
    .rw[hx] at e;exact absurd e (by decide)
    .unfold ah.cross;rw[e1,e2];grind
   rcases h with h|⟨h,h'⟩
   .rcases k with k|⟨k,k'⟩
    .omega
    .have hv:v.half≠0:=by omega
     omega
   .rw[z u v hu] at h';exact absurd h' (by decide)
  .refine .inl ?_
   have h1:=od hw;omega
 .have hv:v.half≠0:=by
   intro e;rcases h with h|⟨h,_⟩
   .have:=od hu;omega
   .omega
  have hw:w.half≠0:=by
   intro e;rcases k with k|⟨k,_⟩
   .have:=od hv;omega
   .omega
  exact d6.trans hu hv hw h k
section
variable (c:α->α->Int)
end
def vN(u:ah): ¬d6 u u:=by
 rintro (h|⟨_,h⟩)
 .omega
 .have:u.cross u=0:=by unfold ah.cross;grind
  rw[this] at h;exact absurd h (by decide)
def BA{v:ah}(h:d6 u v)(k:d6 v u):False:=vN u (Bu h k)
def Rn{x y:ah}(h: ¬d6 x y)(k: ¬d6 y x):fG x y=0:=by
 rw[<-zh] at h k;unfold fG at*;split at h<;>try omega
 split at h<;>try omega
 split at k<;>try omega
 rw[show y.cross x= -(x.cross y) by unfold ah.cross;grind,nR,Int.sign_neg] at k;omega
def vY(vs:List ao):cA 8 (vs.map eV):=fun d hd=>by
 obtain⟨u,_,rfl⟩:=aR.1 hd;exact⟨rfl,rfl⟩
def ef(qs:List Rat):cA 3 (qs.map eQ):=fun d hd=>by
 obtain⟨u,_,rfl⟩:=aR.1 hd;exact⟨rfl,rfl⟩
def PD(bs:List Bool):cA 1 (bs.map vB):=fun d hd=>by
 obtain⟨u,_,rfl⟩:=aR.1 hd;exact⟨rfl,rfl⟩
def Vr{l:List ao}{a b:Int}(h:l[k]? =some v)(ha:a=if v.nl then 1 else bA t v.lo)(hb:b=if v.nh then-1 else bA t v.hi):
  uJ (l.drop k) t=if 0<a/\b<0 then 2 else if(a=0/\b<=0)\/(b=0/\0<=a) then 1 else uJ (l.drop (k+1)) t:=by
 obtain⟨hk,rfl⟩:=aT.1 h;rw[bK hk,uJ,ha,hb]
structure mh (v:ao):Prop where
 lo:BQ v.lo 1200
 hi:BQ v.hi 1200
def SB{l:List ao}[ht:BQ t i](hb: ∀v∈l,mh v)(hn:l.length<=100000)(hi:i<=20000:=by decide):PF GB prog 325 [.sl (l.map eV),eQ t] (vI (uJ l t)):=by
 have hm:=d7 eV l;refine fn (fu:=⟨11⟩) func325 J J ntmps325 J J (fun C=>?_);refine aj 10 (.d (vI (l.length:Nat))) J (by rw[hm]<;>rfl)<|gx J<|lp (X:=Nat) (fun k=>[(11, .d (vI (k:Nat)))]) (fun k=>[]) (fun k=>k<=l.length/\uJ (l.drop k) t=uJ l t) (fun k=>l.length-k) 0 J ⟨bJ _,J⟩ (fun _=>J) (fun k hk=>?_);obtain⟨h1,h2⟩:=hk;refine br J J J (fun hc12=>?_) (fun hc12=>?_)
 .
  obtain⟨v,hz⟩: ∃s,l[k]? =some s:=⟨_,aZ (by omega)⟩;have hv:=hb v (aV hz);haveI:=hv.lo;haveI:=hv.hi;refine ix (fu:=⟨12⟩) _ J (cO hz) J<|mg (fu:=⟨1⟩) (X:=Int) (fun a=>[(7, .d (vI a))]) (fun a=>[]) (fun a=>a=if v.nl then 1 else bA t v.lo) [7] [] rfl ?_ (fun _=>J) (fun a ha=>?_)
  .
   refine gx J<|bb J J J (fun hc17=>?_) (fun hc17=>?_)
   .
    refine cl J (ld (a:=t) (b:=v.lo) (i:=i) (by omega)) J<|at_ (bA t v.lo) (by rw[if_neg (by simpa using hc17)])
   .
    exact at_ 1 (by rw[if_pos (by simpa using hc17)])
  .
   refine mg (X:=Int) (fun b=>[(8, .d (vI b))]) (fun b=>[]) (fun b=>b=if v.nh then-1 else bA t v.hi) [8] [] rfl ?_ (fun _=>J) (fun b hb'=>?_)
   .
    refine gx J<|bb J J J (fun hc24=>?_) (fun hc24=>?_)
    .
     refine cl J (ld (a:=t) (b:=v.hi) (i:=i) (by omega)) J<|at_ (bA t v.hi) (by rw[if_neg (by simpa using hc24)])
    .
     exact at_ (-1) (by rw[if_pos (by simpa using hc24)])
   .
    have hst:=Vr hz ha hb';refine cs 31 J J J (fun hg31=>?_) (fun hg31=>?_)
    .
     refine br J J J (fun hc34=>?_) (fun hc34=>?_)
     .
      exact rz J (by first|(rw[<-h2,gV];rfl)|(rw[<-h2,hst,if_pos (by omega)];rfl)|(rw[<-h2,hst,if_neg (by omega),if_pos (by omega)];rfl))
     .
      refine cs 37 J J J (fun hg37=>?_) (fun hg37=>?_)
      .
       refine cs 41 J J J (fun hg41=>?_) (fun hg41=>?_)
       .
        exact rz J (by first|(rw[<-h2,gV];rfl)|(rw[<-h2,hst,if_pos (by omega)];rfl)|(rw[<-h2,hst,if_neg (by omega),if_pos (by omega)];rfl))
       .
        refine cs 44 J J J (fun hg44=>?_) (fun hg44=>?_)
        .
         refine br J J J (fun hc48=>?_) (fun hc48=>?_)
         .
          exact rz J (by first|(rw[<-h2,gV];rfl)|(rw[<-h2,hst,if_pos (by omega)];rfl)|(rw[<-h2,hst,if_neg (by omega),if_pos (by omega)];rfl))
         .
          exact at_ (k+1) ⟨⟨by omega,by rw[<-h2,hst,if_neg (by omega),if_neg (by omega)]⟩,(by omega)⟩
        .
         exact at_ (k+1) ⟨⟨by omega,by rw[<-h2,hst,if_neg (by omega),if_neg (by omega)]⟩,(by omega)⟩
      .
       refine cs 44 J J J (fun hg44=>?_) (fun hg44=>?_)
       .
        refine br J J J (fun hc48=>?_) (fun hc48=>?_)
        .
         exact rz J (by first|(rw[<-h2,gV];rfl)|(rw[<-h2,hst,if_pos (by omega)];rfl)|(rw[<-h2,hst,if_neg (by omega),if_pos (by omega)];rfl))
        .
         exact at_ (k+1) ⟨⟨by omega,by rw[<-h2,hst,if_neg (by omega),if_neg (by omega)]⟩,(by omega)⟩
       .
        exact at_ (k+1) ⟨⟨by omega,by rw[<-h2,hst,if_neg (by omega),if_neg (by omega)]⟩,(by omega)⟩
    .
     refine cs 37 J J J (fun hg37=>?_) (fun hg37=>?_)
     .
      refine cs 41 J J J (fun hg41=>?_) (fun hg41=>?_)
      .
       exact rz J (by first|(rw[<-h2,gV];rfl)|(rw[<-h2,hst,if_pos (by omega)];rfl)|(rw[<-h2,hst,if_neg (by omega),if_pos (by omega)];rfl))
      .
       refine cs 44 J J J (fun hg44=>?_) (fun hg44=>?_)
       .
        refine br J J J (fun hc48=>?_) (fun hc48=>?_)
        .
         exact rz J (by first|(rw[<-h2,gV];rfl)|(rw[<-h2,hst,if_pos (by omega)];rfl)|(rw[<-h2,hst,if_neg (by omega),if_pos (by omega)];rfl))
        .
         exact at_ (k+1) ⟨⟨by omega,by rw[<-h2,hst,if_neg (by omega),if_neg (by omega)]⟩,(by omega)⟩
       .
        exact at_ (k+1) ⟨⟨by omega,by rw[<-h2,hst,if_neg (by omega),if_neg (by omega)]⟩,(by omega)⟩
     .
      refine cs 44 J J J (fun hg44=>?_) (fun hg44=>?_)
      .
       refine br J J J (fun hc48=>?_) (fun hc48=>?_)
       .
        exact rz J (by first|(rw[<-h2,gV];rfl)|(rw[<-h2,hst,if_pos (by omega)];rfl)|(rw[<-h2,hst,if_neg (by omega),if_pos (by omega)];rfl))
       .
        exact at_ (k+1) ⟨⟨by omega,by rw[<-h2,hst,if_neg (by omega),if_neg (by omega)]⟩,(by omega)⟩
      .
       exact at_ (k+1) ⟨⟨by omega,by rw[<-h2,hst,if_neg (by omega),if_neg (by omega)]⟩,(by omega)⟩
 .
  obtain rfl:k=l.length:=by omega
  exact rz J (by first|(rw[<-h2,gV];rfl)|(rw[<-h2,hst,if_pos (by omega)];rfl)|(rw[<-h2,hst,if_neg (by omega),if_pos (by omega)];rfl))
def Pg{l:List ao}[ht:BQ t i](hb: ∀v∈l,mh v)(hn:l.length<=100000)(hi:i<=20000:=by decide):PF GB prog 299 [.sl (l.map eV),eQ t] (vB (gh l t)):=by
 refine fn func299 J J ntmps299 J J (fun C=>?_);refine cl J (SB (l:=l) (t:=t) hb hn hi) J<|rz J J
def Fh: ∀{l:List Rat} {i:Nat} {a b:Rat},l[i]? =some a->l[i+1]? =some b->iu (l.take (i+2))=iu (l.take (i+1))++[(a+b)/2]
 |[],i,a,b,h,_=>by simp at h
 |[_],i,a,b,h,k=>by simp at k
 |c::d::t,0,a,b,h,k=>by
  simp at h k;subst h;subst k;simp[iu]
 |c::d::t,i+1,a,b,h,k=>by
  have:=Fh (l:=d::t) (i:=i) (by simpa using h) (by simpa using k);rw[show(c::d::t).take (i+1+2)=c::d::t.take (i+1) by simp,show(c::d::t).take (i+1+1)=c::d::t.take i by simp,iu,iu,gL];congr 1
def Bd: ∀l:List Rat,(iu l).length<=l.length
 |[]=>bW _
 |[_]=>bJ _
 |a::b::t=>by rw[iu,bQ,bQ];exact Nat.succ_le_succ (Bd (b::t))
def Q6{a:Rat}{t:List Rat}{z:Rat}(h:(a::t)[t.length]? =some z):cd (a::t)=(a-1)::(iu (a::t)++[z+1]):=by
 rw[cd];have:(a::t).getLast (by simp)=z:=by
  rw[List.getLast_eq_getElem];have:=aT.1 h;obtain⟨h1,h2⟩:=this;rw[<-h2];congr 1
 rw[this]
def axP(hb: ∀q∈cuts,BQ q 1200)(hn:cuts.length<=100000):PF GB prog 298 [.sl (cuts.map eQ)] (.sl ((cd cuts).map eQ)):=by
 have hm:=d7 eQ cuts;refine fn (fu:=⟨10⟩) func298 J J ntmps298 J J (fun C=>?_);refine aj 6 (.d (vI (cuts.length:Nat))) J (by rw[hm]<;>rfl)<|gx J<|br J J J (fun hc7=>?_) (fun hc7=>?_)
 .
  obtain rfl:cuts=[]:=cR (by omega);refine rf J J<|rz J (by rw[cd];show DV.sl [_]=DV.sl [_];rw[GN])
 .
  obtain⟨a,ct,rfl⟩: ∃a t,cuts=a::t:=by cases cuts with|nil=>exact absurd rfl hc7|cons a t=>exact⟨a,t,rfl⟩
  haveI hab:=hb a aQ;have hcl:ct.length+1<=100000:=hn;refine ix _ J J J<|cl J (jE (n:=1)) J<|cl (fu:=⟨0⟩) J (qh (a:=a) (b:=((1:Int):Rat))) J<|aj 14 (.d (eQ (a-1))) J J<|gx J<|ro J J<|lp (fu:=⟨6⟩) (X:=Nat) (fun i=>[(4, .d (vI ((i+1:Nat):Int))),(3, .rw 15)]) (fun i=>[(15,some (.b 34 3 (((a-1)::iu ((a::ct).take (i+1))).map eQ) true))]) (fun i=>i<=ct.length) (fun i=>ct.length-i) 0 J (bJ _) (fun _=>J) (fun i hk=>?_);have hm2:=d7 eQ (a::ct);have hml:=Bd (a::ct.take i);rw[bQ,bL] at hml;have hml2:=Bd (a::ct);rw[bQ] at hml2;refine aj 18 (.d (vI ((ct.length+1:Nat):Int))) J (by rw[hm2]<;>rfl)<|gx J<|br (fu2:=⟨11⟩) J J J (fun hc19=>?_) (fun hc19=>?_)
  .
   obtain⟨u,hu⟩: ∃s,(a::ct)[i]? =some s:=⟨_,aZ (by simp;omega)⟩;obtain⟨w,hw⟩: ∃s,(a::ct)[i+1]? =some s:=⟨_,aZ (by simp;omega)⟩;haveI:=hb u (aV hu);haveI:=hb w (aV hw);refine ix _ J (by rw[show((((i+1:Nat):Int))-1).toNat=i by omega,cY,hu];rfl) J<|ix _ J (by rw[cK,cY,hw];rfl) J<|?_;refine cl J (D8 (a:=u) (b:=w)) J<|rf J J<|ap (hv:=by simp only[ak];exact⟨by kernel_rfl,by omega⟩) (((a-1)::iu ((a::ct).take (i+1+1))).map eQ) J (by rw[Fh hu hw,<-gL,bX];rfl) (ef [(u+w)/2]) J<|fm 34 15 J<|at_ (i+1) ⟨(by omega),(by omega)⟩
  .
   obtain rfl:i=ct.length:=by omega
   obtain⟨z,hz⟩: ∃s,(a::ct)[ct.length]? =some s:=⟨_,aZ (by simp)⟩;haveI:=hb z (aV hz);rw[show(a::ct).take (ct.length+1)=a::ct from dQ (l:=a::ct)];refine aj 38 (.d (vI ((ct.length+1:Nat):Int))) J (by rw[hm2]<;>rfl)<|gx J<|ix _ J (by rw[show((((ct.length+1:Nat):Int))-1).toNat=ct.length by omega,cY,hz];rfl) J<|cl J (jE (n:=1)) J<|?_;refine cl J (my (a:=z) (b:=((1:Int):Rat))) J<|rf J J<|ap ((cd (a::ct)).map eQ) J (by rw[Q6 hz,<-gL,bX];rfl) (ef [z+1]) J<|ik 45 J<|rz J J
def MD(o:List Rat)(s:ao):(nE o s).length<=o.length+2:=by
 unfold nE;have h:=fun(x:Rat) (l:List Rat)=>wj (x:=x) (l:=l)▸Ck bA x l;have h1:=h s.lo o;have h2:=h s.hi o;have h3:=h s.hi (kd s.lo o);split<;>split<;>omega
def pd(l:List ao)(k:Nat):List Rat:=jy (l.take k)
def PT{l:List ao}(h:l[k]? =some v):pd l (k+1)=nE (pd l k) v:=by
 unfold pd jy;rw[eK,h,nL];rfl
def DB(l:List ao): ∀k,(pd l k).length<=2*k
 |0=>bW _
 |k+1=>by
  cases h:l[k]? with
  |none=>
   have:=DB l k;unfold pd at*;rw[eK,h];simp;omega
  |some v=>rw[PT h];have:=DB l k;have:=MD (pd l k) v;omega
theorem LT{l:List ao}(hb: ∀v∈l,mh v): ∀y∈pd l k,BQ y 1200:=fun y hy=>by
 obtain⟨s,hs,h⟩:=(R6 _).2 y hy;have:=hb s (eM hs);rcases h with⟨_,rfl⟩|⟨_,rfl⟩
 .exact this.lo
 .exact this.hi
def qc(o:List Rat)(v:ao)(j:Nat):List Rat:=if j=0 then o else if j=1 then(if v.nl then o else kd v.lo o) else nE o v
def BP(v:ao)(j:Nat):Rat:=if j=0 then v.lo else v.hi
def pw(v:ao)(j:Nat):Bool:=if j=0 then v.nl else v.nh
def ue(hj:j<2:=by decide):qc o v (j+1)=if pw v j then qc o v j else ez bA (BP v j) (qc o v j):=by
 have:j=0\/j=1:=by omega
 rcases this with rfl|rfl
 .simp[qc,pw,BP,wj]
 .simp[qc,pw,BP,nE,wj]
def TH(hj:j<=2):(qc o v j).length<=o.length+2:=by
 unfold qc;have:=MD o v;have h:=wj (x:=v.lo) (l:=o)▸Ck bA v.lo o;split
 .omega
 .split
  .split<;>omega
  .exact this
theorem Yq(ho: ∀q∈o,BQ q 1200)(hv:mh v)(hj:j<=2): ∀q∈qc o v j,BQ q 1200:=fun q hq=>by
 unfold qc nE at hq;have lo:=hv.lo;have hi:=hv.hi;split at hq
 .exact ho q hq
 .split at hq
  .split at hq
   .exact ho q hq
   .rcases pE.1 hq with rfl|hq
    .exact lo
    .exact ho q hq
  .split at hq
   .split at hq
    .exact ho q hq
    .rcases pE.1 hq with rfl|hq
     .exact lo
     .exact ho q hq
   .rcases pE.1 hq with rfl|hq
    .exact hi
    .split at hq
     .exact ho q hq
     .rcases pE.1 hq with rfl|hq
      .exact lo
      .exact ho q hq
def W0{l:List ao}(hb: ∀v∈l,mh v)(hn:l.length<=10000):PF GB prog 297 [.sl (l.map eV)] (.sl ((jy l).map eQ)):=by
 have hm:=d7 eV l;refine fn (fu:=⟨15⟩) func297 J J ntmps297 J J (fun C=>?_);refine aj 10 (.d (vI (l.length:Nat))) J (by rw[hm]<;>rfl)<|gx J<|Bp 3 J<|lp (X:=List Rat×Nat) (fun⟨o,k⟩=>[(11, .d (vI (k:Nat))),(3, .d (.sl (o.map eQ)))]) (fun⟨o,k⟩=>[]) (fun⟨o,k⟩=>o=pd l k/\k<=l.length) (fun⟨o,k⟩=>l.length-k) ([],0) J ⟨J,bJ _⟩ (fun _=>J) (fun⟨o,k⟩ hk=>?_);dsimp only at hk⊢;obtain⟨h1,h2⟩:=hk;refine br J J J (fun hc12=>?_) (fun hc12=>?_)
 .
  obtain⟨v,hz⟩: ∃s,l[k]? =some s:=⟨_,aZ (by omega)⟩;have hv:=hb v (aV hz);haveI:=hv.lo;haveI:=hv.hi;have hob:=LT hb (k:=k);have hol:=DB l k;rw[<-h1] at hob hol;refine ix _ J (cO hz) J<|rf J J<|lp (X:=List Rat×Nat) (fun⟨xs,j⟩=>[(21, .d (vI (j:Nat))),(3, .d (.sl (xs.map eQ)))]) (fun⟨xs,j⟩=>[]) (fun⟨xs,j⟩=>xs=qc o v j/\j<=2) (fun⟨xs,j⟩=>2-j) (o,0) J ⟨J,by omega⟩ (fun _=>J) (fun⟨xs,j⟩ hk=>?_);dsimp only at hk⊢;obtain⟨g1,g2⟩:=hk;refine br J J J (fun hc22=>?_) (fun hc22=>?_)
  .
   have hj2:j<2:=by have:=hc22;simp only[bQ,eY] at this;omega
   obtain⟨m,hm2⟩: ∃m,m=BP v j:=⟨_,rfl⟩;haveI hmb:BQ m 1200:=by rw[hm2];unfold BP;split;exact hv.lo;exact hv.hi
   have hxl:=d7 eQ xs;have hxn:xs.length<=2*k+2:=by rw[g1];have:=TH (o:=o) (v:=v) (j:=j) g2;omega
   have hxb: ∀q∈xs,BQ q 1200:=by rw[g1];exact Yq hob hv g2
   refine ix (fu:=⟨10⟩) _ rfl (by rw[cK];exact(show([v.lo,v.hi].map eQ)[j]? =some (eQ m) by rw[hm2];have:j=0\/j=1:=(by omega);rcases this with rfl|rfl<;>rfl)) rfl<|?_;rcases(show j=0\/j=1 by omega) with rfl|rfl
   .
    refine dm J J J<|iq (fu2:=⟨1⟩) 32 J J J (fun hg32=>?_) (fun hg32=>?_)
    .
     exact at_ (xs,0+1) (by dsimp only;exact⟨⟨by rw[ue,if_pos (by simpa[pw] using hg32),<-g1],by omega⟩,(by omega)⟩)
    .
     refine cF (fu:=⟨16⟩) J J J<|mg (fu:=⟨5⟩) (X:=Nat) (fun n=>[(8, .d (vI (n:Nat)))]) (fun n=>[]) (fun n=>lC bA m xs=n) [8] [] rfl ?_ (fun _=>J) (fun n hnx=>?_)
     .
      refine gx J<|lp (fu:=⟨6⟩) (X:=Nat) (fun n=>[(8, .d (vI (n:Nat)))]) (fun n=>[]) (fun n=>n<=xs.length/\ ∀j (h:j<xs.length),j<n->bA xs[j] m<0) (fun n=>xs.length-n) 0 J ⟨bJ _,fun j _ hj=>absurd hj (by omega)⟩ (fun _=>J) (fun n hk=>?_);obtain⟨n1,n2⟩:=hk;refine i7 (v2:=fun hg43=>by simp only[ak];kernel_rfl) J J J J (fun hg43=>?_) (fun hg43=>?_)
      .
       refine ix _ J (sH) J<|cl J (ld (a:=xs[n]'(by omega)) (b:=m) (ha:=hxb _ (cN (by omega))) (hb:=hmb)) J<|br J J J (fun hc52=>?_) (fun hc52=>?_)
       .
        exact at_ (n+1) ⟨⟨by omega,fun j h hj=>by by_cases q:j=n;(subst q;exact hc52);exact n2 j h (by omega)⟩,(by omega)⟩
       .
        exact at_ n (uI bA n1 n2 (fun h=>hc52))
      .
       exact at_ n (uI bA n1 n2 (fun h=>absurd h (by omega)))
     .
      have hnl:n<=xs.length:=by rw[<-hnx];exact DA _ _ _
      refine i7 (v1:=fun hg58=>by simp only[ak];kernel_rfl) J J J J (fun hg58=>?_) (fun hg58=>?_)
      .
       have hnew: ∀h:n<xs.length,bA xs[n] m≠0:=fun h=>absurd h (by omega);obtain⟨ys,hys⟩: ∃ys,ys=xs.take n++m::xs.drop n:=⟨_,rfl⟩;have hin:ez bA m xs=ys:=by rw[hys];exact sh bA hnx hnew
       have hyl:ys.length<=xs.length+1:=by rw[hys];simp;omega
       refine s3 n _ J J J J (ef _) (by rw[hxl];exact hnl) J<|ro J J<|km n xs.length _ J J (by rw[hxl]) J (ef _) hnl (by omega) J<|ap _ J J (sI ef _ _ _) J<|kI (hv:=by simp only[ak];exact⟨by kernel_rfl,by omega⟩) (ho:=fun _=>⟨uK ef _ _,by simp⟩) (ys.map eQ) J (by rw[hys,bX,bY,iW,iR,cZ (l:=xs.map eQ) (i:=xs.length) (by simp)];rfl) (uD ef _ _ _ _) J<|at_ (ys,0+1) (by dsimp only;exact⟨⟨by rw[ue,if_neg (by simpa[pw] using hg32),<-g1,<-hm2,hin],by omega⟩,(by omega)⟩)
      .
       refine ix _ J (sH) J<|cl J (ld (a:=xs[n]'(by omega)) (b:=m) (ha:=hxb _ (cN (by omega))) (hb:=hmb)) J<|br (fu2:=⟨7⟩) J J J (fun hc67=>?_) (fun hc67=>?_)
       .
        have hnew: ∀h:n<xs.length,bA xs[n] m≠0:=fun h=>hc67;obtain⟨ys,hys⟩: ∃ys,ys=xs.take n++m::xs.drop n:=⟨_,rfl⟩;have hin:ez bA m xs=ys:=by rw[hys];exact sh bA hnx hnew
        have hyl:ys.length<=xs.length+1:=by rw[hys];simp;omega
        refine s3 n _ J J J J (ef _) (by rw[hxl];exact hnl) J<|ro J J<|km n xs.length _ J J (by rw[hxl]) J (ef _) hnl (by omega) J<|ap _ J J (sI ef _ _ _) J<|kI (hv:=by simp only[ak];exact⟨by kernel_rfl,by omega⟩) (ho:=fun _=>⟨uK ef _ _,by simp⟩) (ys.map eQ) J (by rw[hys,bX,bY,iW,iR,cZ (l:=xs.map eQ) (i:=xs.length) (by simp)];rfl) (uD ef _ _ _ _) J<|at_ (ys,0+1) (by dsimp only;exact⟨⟨by rw[ue,if_neg (by simpa[pw] using hg32),<-g1,<-hm2,hin],by omega⟩,(by omega)⟩)
       .
        have hin:ez bA m xs=xs:=Bg bA hnx (by omega) (Decidable.not_not.1 hc67);exact at_ (xs,0+1) (by dsimp only;exact⟨⟨by rw[ue,if_neg (by simpa[pw] using hg32),<-g1,<-hm2,hin],by omega⟩,(by omega)⟩)
   .
    refine cF (fu:=⟨6⟩) J J J<|dm J J J<|bb (fu2:=⟨8⟩) J J J (fun hc39=>?_) (fun hc39=>?_)
    .
     exact at_ (xs,1+1) (by dsimp only;exact⟨⟨by rw[ue,if_pos (by simpa[pw] using hc39),<-g1],by omega⟩,(by omega)⟩)
    .
     refine mg (fu:=⟨5⟩) (X:=Nat) (fun n=>[(8, .d (vI (n:Nat)))]) (fun n=>[]) (fun n=>lC bA m xs=n) [8] [] rfl ?_ (fun _=>J) (fun n hnx=>?_)
     .
      refine gx J<|lp (fu:=⟨6⟩) (X:=Nat) (fun n=>[(8, .d (vI (n:Nat)))]) (fun n=>[]) (fun n=>n<=xs.length/\ ∀j (h:j<xs.length),j<n->bA xs[j] m<0) (fun n=>xs.length-n) 0 J ⟨bJ _,fun j _ hj=>absurd hj (by omega)⟩ (fun _=>J) (fun n hk=>?_);obtain⟨n1,n2⟩:=hk;refine i7 (v2:=fun hg43=>by simp only[ak];kernel_rfl) J J J J (fun hg43=>?_) (fun hg43=>?_)
      .
       refine ix _ J (sH) J<|cl J (ld (a:=xs[n]'(by omega)) (b:=m) (ha:=hxb _ (cN (by omega))) (hb:=hmb)) J<|br J J J (fun hc52=>?_) (fun hc52=>?_)
       .
        exact at_ (n+1) ⟨⟨by omega,fun j h hj=>by by_cases q:j=n;(subst q;exact hc52);exact n2 j h (by omega)⟩,(by omega)⟩
       .
        exact at_ n (uI bA n1 n2 (fun h=>hc52))
      .
       exact at_ n (uI bA n1 n2 (fun h=>absurd h (by omega)))
     .
      have hnl:n<=xs.length:=by rw[<-hnx];exact DA _ _ _
      refine i7 (v1:=fun hg58=>by simp only[ak];kernel_rfl) J J J J (fun hg58=>?_) (fun hg58=>?_)
      .
       have hnew: ∀h:n<xs.length,bA xs[n] m≠0:=fun h=>absurd h (by omega);obtain⟨ys,hys⟩: ∃ys,ys=xs.take n++m::xs.drop n:=⟨_,rfl⟩;have hin:ez bA m xs=ys:=by rw[hys];exact sh bA hnx hnew
       have hyl:ys.length<=xs.length+1:=by rw[hys];simp;omega
       refine s3 n _ J J J J (ef _) (by rw[hxl];exact hnl) J<|ro J J<|km n xs.length _ J J (by rw[hxl]) J (ef _) hnl (by omega) J<|ap _ J J (sI ef _ _ _) J<|kI (hv:=by simp only[ak];exact⟨by kernel_rfl,by omega⟩) (ho:=fun _=>⟨uK ef _ _,by simp⟩) (ys.map eQ) J (by rw[hys,bX,bY,iW,iR,cZ (l:=xs.map eQ) (i:=xs.length) (by simp)];rfl) (uD ef _ _ _ _) J<|at_ (ys,1+1) (by dsimp only;exact⟨⟨by rw[ue,if_neg (by simpa[pw] using hc39),<-g1,<-hm2,hin],by omega⟩,(by omega)⟩)
      .
       refine ix _ J (sH) J<|cl J (ld (a:=xs[n]'(by omega)) (b:=m) (ha:=hxb _ (cN (by omega))) (hb:=hmb)) J<|br J J J (fun hc67=>?_) (fun hc67=>?_)
       .
        have hnew: ∀h:n<xs.length,bA xs[n] m≠0:=fun h=>hc67;obtain⟨ys,hys⟩: ∃ys,ys=xs.take n++m::xs.drop n:=⟨_,rfl⟩;have hin:ez bA m xs=ys:=by rw[hys];exact sh bA hnx hnew
        have hyl:ys.length<=xs.length+1:=by rw[hys];simp;omega
        refine s3 n _ J J J J (ef _) (by rw[hxl];exact hnl) J<|ro J J<|km n xs.length _ J J (by rw[hxl]) J (ef _) hnl (by omega) J<|ap _ J J (sI ef _ _ _) J<|kI (hv:=by simp only[ak];exact⟨by kernel_rfl,by omega⟩) (ho:=fun _=>⟨uK ef _ _,by simp⟩) (ys.map eQ) J (by rw[hys,bX,bY,iW,iR,cZ (l:=xs.map eQ) (i:=xs.length) (by simp)];rfl) (uD ef _ _ _ _) J<|at_ (ys,1+1) (by dsimp only;exact⟨⟨by rw[ue,if_neg (by simpa[pw] using hc39),<-g1,<-hm2,hin],by omega⟩,(by omega)⟩)
       .
        have hin:ez bA m xs=xs:=Bg bA hnx (by omega) (Decidable.not_not.1 hc67);exact at_ (xs,1+1) (by dsimp only;exact⟨⟨by rw[ue,if_neg (by simpa[pw] using hc39),<-g1,<-hm2,hin],by omega⟩,(by omega)⟩)
  .
   have hj2: ¬j<2:=by have:=hc22;simp only[bQ,eY] at this;omega
   exact at_ (xs,k+1) (by dsimp only;exact⟨⟨by rw[PT hz,<-h1,g1,show j=2 by omega];rfl,by omega⟩,(by omega)⟩)
 .
  have hfin:jy l=o:=by rw[h1,show k=l.length by omega];unfold pd;rw[dQ]
  exact rz J (by rw[hfin];rfl)
def TV(t:Rat):eV ⟨t,0,false,true⟩= .ag [.v (.bool (decide (t.num<0))),dN t.num.natAbs,dD t.den, .v (.bool false), .sl [], .sl [], .v (.bool false), .v (.bool true)]:=by
 unfold eV dD;simp only[show(0:Rat).num=0 from J,show(0:Rat).den=1 from J,lX,lO];rfl
def ayT(t:Rat):eV ⟨0,t,true,false⟩= .ag [.v (.bool false), .sl [], .sl [], .v (.bool (decide (t.num<0))),dN t.num.natAbs,dD t.den, .v (.bool true), .v (.bool false)]:=by
 unfold eV dD;simp only[show(0:Rat).num=0 from J,show(0:Rat).den=1 from J,lX,lO];rfl
def zr(l m:aa)(side:Int):DV:= .tp [.sl ((i5 l m side).map eV),vB (l9 l m)]
def Mm{m:aa}(h:crossI l m≠0):l9 l m=false:=by unfold l9;rw[decide_eq_false];exact fun e=>h e.1
def N3{m:aa}(h:crossI l m=0):l9 l m=decide ((m.value l.base).num.sign=0):=by unfold l9;simp[h]
def O7{m:aa}[hl:LB l][hm:LB m](hlo:l.ok)(hmo:m.ok)(hs:side=1\/side= -1):PF GB prog 259 [eL l,eL m,vI side] (zr l m side):=by
 refine fn func259 J J ntmps259 J J (fun C=>?_);refine cl J (HP (l:=l) (m:=m)) J<|bb J J J (fun hc19=>?_) (fun hc19=>?_)
 .
  have hc:crossI l m=0:=by simpa using hc19
  refine cl J (DO hlo.ne) J<|cl J (Bc (l:=m) (p:=l.base)) J<|br J J J (fun hc26=>?_) (fun hc26=>?_)
  .
   refine cl J Ps J<|rf J J<|rz J (by unfold zr i5;rw[if_pos hc,if_pos hc26,N3 hc];rfl)
  .
   exact rz J (by unfold zr i5;rw[if_pos hc,if_neg hc26,N3 hc];rfl)
 .
  have hc:crossI l m≠0:=by simpa using hc19
  haveI hpb:=Ed (l:=l) (m:=m) hlo.ne hc;obtain⟨t,ht⟩: ∃t,t=jb l (c7 l m):=⟨_,rfl⟩;refine cl (fu:=⟨0⟩) J (Dg (l:=l) (p:=c7 l m) hlo.ne) J<|aj 35 (.d (eQ t)) J (by rw[ht]) ?_;rw[<-ht] at hpb;refine gx J<|cl J (jE (n:=1)) J<|cl J (my (a:=t) (b:=((1:Int):Rat))) J<|cl J (Nq (l:=l) (t:=t+((1:Int):Rat)) hlo.ne) J<|cl J (Bc (l:=m) (p:=l.at (t+((1:Int):Rat)))) J<|br J J J (fun hc44=>?_) (fun hc44=>?_)
  .
   refine rf J J<|rz J (by unfold zr i5;rw[if_neg hc,<-ht,if_pos (show(m.value (l.at (t+1))).num.sign=side from hc44),Mm hc,bY,TV];rfl)
  .
   refine rf J J<|rz J (by unfold zr i5;rw[if_neg hc,<-ht,if_neg (show¬(m.value (l.at (t+1))).num.sign=side from hc44),Mm hc,bY,ayT];rfl)
def fe(f:bt):DV:= .ag [.v (.bool (decide (f.l.a<0))),dN f.l.a.natAbs, .v (.bool (decide (f.l.b<0))),dN f.l.b.natAbs, .v (.bool (decide (f.l.c<0))),dN f.l.c.natAbs, .v (.bool (decide (f.v.lo.num<0))),dN f.v.lo.num.natAbs,dD f.v.lo.den, .v (.bool (decide (f.v.hi.num<0))),dN f.v.hi.num.natAbs,dD f.v.hi.den, .v (.bool f.v.nl), .v (.bool f.v.nh)]
def xl(fs:List bt):cA 14 (fs.map fe):=fun d hd=>by
 obtain⟨u,_,rfl⟩:=aR.1 hd;exact⟨rfl,rfl⟩
theorem uF{p:ZP}(h:ZP.le 100 p):aI p.q 12:=by
 haveI:BI p.1 11:=lG (by have:=h.1;omega);haveI:BI p.2 11:=lG (by have:=h.2;omega);exact(inferInstance:aI (iP p.1 p.2) 12)
def au5{v w:ZP}(hv:ZP.le 100 v)(hw:ZP.le 100 w)(h:v≠w):PF GB prog 199 [eP v.q,eP w.q] (.tp [fe (Es v w),vB true]):=by
 have hne: ¬(w.1=v.1/\w.2=v.2):=fun e=>h (Prod.ext e.1.symm e.2.symm);obtain⟨hlb,hlo⟩:=Rb (m:=v.1) (n:=v.2) (p:=w.1) (q:=w.2) (by have:=hv.1;omega) (by have:=hv.2;omega) (by have:=hw.1;omega) (by have:=hw.2;omega) hne;haveI:=hlb;haveI:=uF hv;haveI:=uF hw;refine fn func199 J J ntmps199 J J (fun C=>?_);refine cl (fu:=⟨3⟩) J (O4 (m:=v.1) (n:=v.2) (m':=w.1) (n':=w.2) (by have:=hv.1;omega) (by have:=hv.2;omega) (by have:=hw.1;omega) (by have:=hw.2;omega) (fun e=>hne ⟨e.1.symm,e.2.symm⟩)) J<|jp 13 J<|gx J<|cl J (Dg (l:=mP v.1 v.2 w.1 w.2) (p:=v.q) hlo.ne) J<|cl J (Dg (l:=mP v.1 v.2 w.1 w.2) (p:=w.q) hlo.ne) J<|rz J J
def aGp(a b:Bool):eV ⟨0,0,a,b⟩= .ag [.v (.bool false), .sl [], .sl [], .v (.bool false), .sl [], .sl [], .v (.bool a), .v (.bool b)]:=by
 unfold eV dD;simp only[show(0:Rat).num=0 from J,show(0:Rat).den=1 from J,lX,lO];rfl
def Kd(t:Rat)(a b:Bool):eV ⟨t,0,a,b⟩= .ag [.v (.bool (decide (t.num<0))),dN t.num.natAbs,dD t.den, .v (.bool false), .sl [], .sl [], .v (.bool a), .v (.bool b)]:=by
 unfold eV dD;simp only[show(0:Rat).num=0 from J,show(0:Rat).den=1 from J,lX,lO];rfl
def SY(t:Rat)(a b:Bool):eV ⟨0,t,a,b⟩= .ag [.v (.bool false), .sl [], .sl [], .v (.bool (decide (t.num<0))),dN t.num.natAbs,dD t.den, .v (.bool a), .v (.bool b)]:=by
 unfold eV dD;simp only[show(0:Rat).num=0 from J,show(0:Rat).den=1 from J,lX,lO];rfl
def Yn(h:i=0)(k: ¬i<cuts.length):eD cuts i=⟨0,0,decide (i=0),decide (i=cuts.length)⟩:=by unfold eD;rw[if_pos h,if_neg k]
def Xr(h:i=0)(k:cuts[i]? =some y):eD cuts i=⟨0,y,decide (i=0),decide (i=cuts.length)⟩:=by
 unfold eD;rw[if_pos h,if_pos (aT.1 k).1,aW,k];rfl
def aAX{x:Rat}(h: ¬i=0)(k:cuts[i-1]? =some x)(k2: ¬i<cuts.length):eD cuts i=⟨x,0,decide (i=0),decide (i=cuts.length)⟩:=by
 unfold eD;rw[if_neg h,if_neg k2,aW,k];rfl
def aCc{x:Rat}(h: ¬i=0)(k:cuts[i-1]? =some x)(k2:cuts[i]? =some y):eD cuts i=⟨x,y,decide (i=0),decide (i=cuts.length)⟩:=by
 unfold eD;rw[if_neg h,if_pos (aT.1 k2).1,aW,k,aW,k2];rfl
def XI(h:marks[k]? =some false):gy cuts marks (k+1)=gy cuts marks k:=by
 rw[gy,aW,h];rfl
def Cs(h:marks[k]? =some true)(hp: ¬(0<k/\marks[k-1]? =some true)):gy cuts marks (k+1)=gy cuts marks k++[eD cuts k]:=by
 rw[gy,aW,h];show(if 0<k/\_ then _ else _)=_;rw[if_neg];rintro ⟨h1,h2⟩;rw[aW] at h2
 cases e:marks[k-1]? with
 |none=>rw[e] at h2;cases h2
 |some b=>rw[e] at h2;exact hp ⟨h1,by rw[e];simp at h2;rw[h2]⟩
def OS(h:marks[k]? =some true):gy cuts marks (k+1)≠[]:=by
 rw[gy,aW,h];show(if 0<k/\_ then _ else _)≠[];split
 .split<;>simp
 .simp
def P0{xs:List ao}(hk:0<k)(h:marks[k]? =some true)(hp:marks[k-1]? =some true)(hx:gy cuts marks k=xs)(hv:xs[xs.length-1]? =some v):gy cuts marks (k+1)=xs.set (xs.length-1) (tf v (eD cuts k)):=by
 rw[gy,aW,h];show(if 0<k/\_ then _ else _)=_;rw[if_pos ⟨hk,by rw[aW,hp];rfl⟩,hx,nV,hv];have hn:0<xs.length:=by
  have:=(aT.1 hv).1;omega
 show xs.dropLast++[_]=_;apply lW;intro i;rw[pK];by_cases hi:i<xs.length-1
 .rw[jT (by rw[mJ];exact hi),List.getElem?_dropLast,if_pos hi,if_neg (by omega)]
 .by_cases hi2:i=xs.length-1
  .subst hi2
   rw[jV (by rw[mJ];exact bW _),mJ,pY,if_pos J,if_pos (by omega)];rfl
  .rw[eJ (by rw[aY,mJ];simp;omega),if_neg (by omega),eJ (by omega)]
def yy{f:α->DV}{l:List α}{x:α}(hk:0<k)(h:l[k-1]? =some x):(l.map f)[(((k:Nat):Int)-1).toNat]? =some (f x):=by
 rw[show(((k:Nat):Int)-1).toNat=k-1 by omega,cY,h];rfl
def qG{n:Nat}:decide (k=n)=decide (((k:Nat):Int)=((n:Nat):Int)):=decide_eq_decide.2 (by omega)
def SI(hn:cuts.length<=100000)(hmk:marks.length<=cuts.length+1):PF GB prog 300 [.sl (cuts.map eQ), .sl (marks.map vB)] (.sl ((vW cuts marks).map eV)):=by
 have hm:=d7 vB marks;have hmc:=d7 eQ cuts;refine fn (fu:=⟨15⟩) func300 J J ntmps300 J J (fun C=>?_);refine aj 11 (.d (vI (marks.length:Nat))) J (by rw[hm]<;>rfl)<|gx J<|nr 5 5 205 8 J J J<|lp (X:=List ao×Nat) (fun⟨xs,k⟩=>[(12, .d (vI (k:Nat))),(5, .rw 5)]) (fun⟨xs,k⟩=>[(5,some (.b 205 8 (xs.map eV) true))]) (fun⟨xs,k⟩=>xs=gy cuts marks k/\k<=marks.length) (fun⟨xs,k⟩=>marks.length-k) ([],0) J ⟨J,bJ _⟩ (fun _=>J) (fun⟨xs,k⟩ hk=>?_);dsimp only at hk⊢;obtain⟨h1,h2⟩:=hk;have hml:=d7 eV xs;have hxl:xs.length<=k:=by rw[h1];exact Jn
 refine br J J J (fun hc13=>?_) (fun hc13=>?_)
 .
  obtain⟨b,hz⟩: ∃s,marks[k]? =some s:=⟨_,aZ (by omega)⟩;refine ix (fu:=⟨8⟩) _ J (cO hz) J<|?_
  cases b
  .
   refine cF (fu:=⟨12⟩) J J J<|at_ (xs,k+1) (by dsimp only;exact⟨⟨by rw[XI hz,<-h1],by omega⟩,(by omega)⟩)
  .
   refine dm (fu:=⟨13⟩) J J J<|?_;rcases(show(k=0/\k<cuts.length)\/(k=0/\ ¬k<cuts.length)\/(0<k/\k<cuts.length)\/(0<k/\ ¬k<cuts.length) by omega) with⟨c1,c2⟩|⟨c1,c2⟩|⟨c1,c2⟩|⟨c1,c2⟩
   .
    obtain⟨y,hy⟩: ∃s,cuts[k]? =some s:=⟨_,aZ (by omega)⟩;have hgap:=Xr (cuts:=cuts) (i:=k) c1 hy;have hnp: ¬(0<k/\marks[k-1]? =some true):=fun e=>by omega
    refine aj 23 (.d (vI (cuts.length:Nat))) J (by rw[hmc]<;>rfl)<|gx (fu:=⟨10⟩) J<|cF (fu:=⟨11⟩) J (by show some (decide _)=some false;rw[decide_eq_false (by omega)]) J<|aj 36 (.d (vI (cuts.length:Nat))) J (by rw[hmc]<;>rfl)<|gx (fu:=⟨0⟩) J<|dm J (by show some (decide _)=some true;rw[decide_eq_true (by omega)]) J<|ix (fu:=⟨10⟩) _ J (cO hy) J<|aj 44 (.d (vI (xs.length:Nat))) J (by rw[hml]<;>rfl)<|gx (fu:=⟨6⟩) J<|cF (fu:=⟨19⟩) J (by show some (decide _)=some false;rw[decide_eq_false (by omega)]) J<|aj 73 (.d (eV (eD cuts k))) J (by rw[hgap,SY,qG (k:=k) (n:=0),qG (k:=k) (n:=cuts.length)]<;>rfl)<|gx J<|rf J J<|ap (fu:=⟨12⟩) ((xs++[eD cuts k]).map eV) J (by rw[bX];rfl) (vY [eD cuts k]) J<|fm 75 5 J<|at_ (xs++[eD cuts k],k+1) (by dsimp only;exact⟨⟨by rw[Cs hz hnp,<-h1],by omega⟩,(by omega)⟩)
   .
    have hgap:=Yn (cuts:=cuts) (i:=k) c1 c2;have hnp: ¬(0<k/\marks[k-1]? =some true):=fun e=>by omega
    refine aj 23 (.d (vI (cuts.length:Nat))) J (by rw[hmc]<;>rfl)<|gx (fu:=⟨10⟩) J<|cF (fu:=⟨11⟩) J (by show some (decide _)=some false;rw[decide_eq_false (by omega)]) J<|aj 36 (.d (vI (cuts.length:Nat))) J (by rw[hmc]<;>rfl)<|gx (fu:=⟨0⟩) J<|cF (fu:=⟨10⟩) J (by show some (decide _)=some false;rw[decide_eq_false (by omega)]) J<|aj 44 (.d (vI (xs.length:Nat))) J (by rw[hml]<;>rfl)<|gx (fu:=⟨6⟩) J<|cF (fu:=⟨19⟩) J (by show some (decide _)=some false;rw[decide_eq_false (by omega)]) J<|aj 73 (.d (eV (eD cuts k))) J (by rw[hgap,aGp,qG (k:=k) (n:=0),qG (k:=k) (n:=cuts.length)]<;>rfl)<|gx J<|rf J J<|ap (fu:=⟨12⟩) ((xs++[eD cuts k]).map eV) J (by rw[bX];rfl) (vY [eD cuts k]) J<|fm 75 5 J<|at_ (xs++[eD cuts k],k+1) (by dsimp only;exact⟨⟨by rw[Cs hz hnp,<-h1],by omega⟩,(by omega)⟩)
   .
    obtain⟨x,hx⟩: ∃s,cuts[k-1]? =some s:=⟨_,aZ (by omega)⟩;obtain⟨pb,hpb⟩: ∃s,marks[k-1]? =some s:=⟨_,aZ (by omega)⟩;obtain⟨y,hy⟩: ∃s,cuts[k]? =some s:=⟨_,aZ (by omega)⟩;have hgap:=aCc (cuts:=cuts) (i:=k) (by omega) hx hy;refine aj 23 (.d (vI (cuts.length:Nat))) J (by rw[hmc]<;>rfl)<|gx (fu:=⟨10⟩) J<|dm J (by show some (decide _)=some true;rw[decide_eq_true (by omega)]) J<|ix (fu:=⟨11⟩) _ J (yy (by omega) hx) J<|aj 36 (.d (vI (cuts.length:Nat))) J (by rw[hmc]<;>rfl)<|gx (fu:=⟨0⟩) J<|dm J (by show some (decide _)=some true;rw[decide_eq_true (by omega)]) J<|ix (fu:=⟨10⟩) _ J (cO hy) J<|aj 44 (.d (vI (xs.length:Nat))) J (by rw[hml]<;>rfl)<|gx (fu:=⟨6⟩) J<|dm J (by show some (decide _)=some true;rw[decide_eq_true (by omega)]) J<|ix _ J (yy (by omega) hpb) J<|iq (fu1:=⟨1⟩) (fu2:=⟨11⟩) 54 J J J (fun hg54=>?_) (fun hg54=>?_)
    .
     have hpb':marks[k-1]? =some true:=by rw[hpb];congr 1
     have hxn:0<xs.length:=by rw[h1];have:=OS (cuts:=cuts) hpb';rw[show k-1+1=k by omega] at this;exact oJ.2 this
     obtain⟨w,hw⟩: ∃s,xs[xs.length-1]? =some s:=⟨_,aZ (by omega)⟩;refine dm J (by show some (decide _)=some true;rw[decide_eq_true (by omega)]) J<|sb (eV w) ((xs.set (xs.length-1) (⟨w.lo,y,w.nl,w.nh⟩:ao)).map eV) J (yy hxn hw) J (by rw[show(((xs.length:Nat):Int)-1).toNat=xs.length-1 by omega,jR];rfl) J<|sb (hv:=by simp only[ak];exact⟨by kernel_rfl,by omega⟩) (eV (⟨w.lo,y,w.nl,w.nh⟩:ao)) ((xs.set (xs.length-1) (tf w (eD cuts k))).map eV) J (by rw[show(((xs.length:Nat):Int)-1).toNat=xs.length-1 by omega,jR,rR (by rw[hml];omega)]) J (by rw[show(((xs.length:Nat):Int)-1).toNat=xs.length-1 by omega,jR,List.set_set,jR,hgap];unfold tf;dsimp only;rw[qG (k:=k) (n:=cuts.length)]<;>rfl) J<|?_;exact at_ (xs.set (xs.length-1) (tf w (eD cuts k)),k+1) (by dsimp only;exact⟨⟨(P0 (by omega) hz hpb' h1.symm hw).symm,by omega⟩,(by omega)⟩)
    .
     have hnp: ¬(0<k/\marks[k-1]? =some true):=fun e=>by rw[hpb,hg54] at e;simpa using e.2
     refine aj 73 (.d (eV (eD cuts k))) J (by rw[hgap];unfold eV;dsimp only;rw[qG (k:=k) (n:=0),qG (k:=k) (n:=cuts.length)]<;>rfl)<|gx J<|rf J J<|ap (fu:=⟨12⟩) ((xs++[eD cuts k]).map eV) J (by rw[bX];rfl) (vY [eD cuts k]) J<|fm 75 5 J<|at_ (xs++[eD cuts k],k+1) (by dsimp only;exact⟨⟨by rw[Cs hz hnp,<-h1],by omega⟩,(by omega)⟩)
   .
    obtain⟨x,hx⟩: ∃s,cuts[k-1]? =some s:=⟨_,aZ (by omega)⟩;obtain⟨pb,hpb⟩: ∃s,marks[k-1]? =some s:=⟨_,aZ (by omega)⟩;have hgap:=aAX (cuts:=cuts) (i:=k) (by omega) hx c2;refine aj 23 (.d (vI (cuts.length:Nat))) J (by rw[hmc]<;>rfl)<|gx (fu:=⟨10⟩) J<|dm J (by show some (decide _)=some true;rw[decide_eq_true (by omega)]) J<|ix (fu:=⟨11⟩) _ J (yy (by omega) hx) J<|aj 36 (.d (vI (cuts.length:Nat))) J (by rw[hmc]<;>rfl)<|gx (fu:=⟨0⟩) J<|cF (fu:=⟨10⟩) J (by show some (decide _)=some false;rw[decide_eq_false (by omega)]) J<|aj 44 (.d (vI (xs.length:Nat))) J (by rw[hml]<;>rfl)<|gx (fu:=⟨6⟩) J<|dm J (by show some (decide _)=some true;rw[decide_eq_true (by omega)]) J<|ix _ J (yy (by omega) hpb) J<|iq (fu1:=⟨1⟩) (fu2:=⟨11⟩) 54 J J J (fun hg54=>?_) (fun hg54=>?_)
    .
     have hpb':marks[k-1]? =some true:=by rw[hpb];congr 1
     have hxn:0<xs.length:=by rw[h1];have:=OS (cuts:=cuts) hpb';rw[show k-1+1=k by omega] at this;exact oJ.2 this
     obtain⟨w,hw⟩: ∃s,xs[xs.length-1]? =some s:=⟨_,aZ (by omega)⟩;refine dm J (by show some (decide _)=some true;rw[decide_eq_true (by omega)]) J<|sb (eV w) ((xs.set (xs.length-1) (⟨w.lo,0,w.nl,w.nh⟩:ao)).map eV) J (yy hxn hw) J (by rw[show(((xs.length:Nat):Int)-1).toNat=xs.length-1 by omega,jR,Kd];rfl) J<|sb (hv:=by simp only[ak];exact⟨by kernel_rfl,by omega⟩) (eV (⟨w.lo,0,w.nl,w.nh⟩:ao)) ((xs.set (xs.length-1) (tf w (eD cuts k))).map eV) J (by rw[show(((xs.length:Nat):Int)-1).toNat=xs.length-1 by omega,jR,rR (by rw[hml];omega)]) J (by rw[show(((xs.length:Nat):Int)-1).toNat=xs.length-1 by omega,jR,List.set_set,jR,hgap];unfold tf;dsimp only;rw[qG (k:=k) (n:=cuts.length)]<;>rfl) J<|?_;exact at_ (xs.set (xs.length-1) (tf w (eD cuts k)),k+1) (by dsimp only;exact⟨⟨(P0 (by omega) hz hpb' h1.symm hw).symm,by omega⟩,(by omega)⟩)
    .
     have hnp: ¬(0<k/\marks[k-1]? =some true):=fun e=>by rw[hpb,hg54] at e;simpa using e.2
     refine aj 73 (.d (eV (eD cuts k))) J (by rw[hgap,Kd,qG (k:=k) (n:=0),qG (k:=k) (n:=cuts.length)]<;>rfl)<|gx J<|rf J J<|ap ((xs++[eD cuts k]).map eV) J (by rw[bX];rfl) (vY [eD cuts k]) J<|fm 75 5 J<|at_ (xs++[eD cuts k],k+1) (by dsimp only;exact⟨⟨by rw[Cs hz hnp,<-h1],by omega⟩,(by omega)⟩)
 .
  have hfin:vW cuts marks=xs:=by rw[h1,vW,show k=marks.length by omega]
  refine ik 5 J<|rz J (by rw[hfin];rfl)
end Go.Sx
end
