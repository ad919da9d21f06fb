import Derived.Test.YtjpdfobnjmflkaaGreatDoorMk13
set_option linter.all false
set_option maxHeartbeats 4000000
set_option maxRecDepth 100000
section
namespace Go.Sx
open Go Go.Proofs
variable {op:Int}{a b t:Tr}{p u v d:ah}
def Fo(op:Int)(a b:Tr):Bool:=decide ((a.mergeQ op b []).isLeaf=true/\(a.mergeQ op b []).code=false)
def Xp:Fo op a b=true↔a.mergeQ op b []= .leaf false:=by
 unfold Fo;rw[decide_eq_true_iff]
 cases a.mergeQ op b [] with
 |leaf v=>simp[Tr.isLeaf,Tr.code]
 |node l x y=>simp[Tr.isLeaf]
def uK.none{L:List aa}(h:uK L a b):Fo op a b=true↔ ∀p,dB L p->uT op (a.val p) (b.val p)=false:=by rw[Xp,h.leaf]
def jI:Tr->ah->Bool
 | .leaf b,_=>b
 | .node l x y,p=>if(l.value p).num.sign=1 then jI x p else if(l.value p).num.sign= -1 then jI y p else false
def xv: ∀{t:Tr} {p:ah},dB t.lns p->jI t p=t.val p
 | .leaf b,p,_=>rfl
 | .node l x y,p,h=>by
  rw[jI,Tr.val];have h0:=h.l;by_cases h1:0<l.value p
  .rw[if_pos ((Dj _).2 h1),if_pos h1,xv h.x]
  .have h2:l.value p<0:=by grind
   have h3:=(Du _).2 h2;have h4:(l.value p).num.sign= -1:=by
    rcases Int.sign_trichotomy (l.value p).num with e|e|e<;>omega
   rw[if_neg (by omega),if_pos h4,if_neg h1,xv h.y]
def DW{L:List aa}{p q:ah}(h: ∀l∈L,0<l.value q↔0<l.value p): ∀{t:Tr},(∀l∈t.lns,l∈L)->t.val q=t.val p
 | .leaf _,_=>rfl
 | .node l x y,hl=>by
  have hx:=DW h (t:=x) fun m hm=>hl m (aJ _ (bR _ hm));have hy:=DW h (t:=y) fun m hm=>hl m (aJ _ (bV _ hm));rw[Tr.val,Tr.val,hx,hy];by_cases h1:0<l.value q
  .rw[if_pos h1,if_pos ((h l (hl l aQ)).1 h1)]
  .rw[if_neg h1,if_neg (fun e=>h1 ((h l (hl l aQ)).2 e))]
def FC: ∀{t:Tr} {c:ao} {b:Bool} {e:ao},t.all aa.ok->bC c->(b,e)∈t.parts c->bC e/\ ∀p,bu e p->bu c p/\t.val p=b
 | .leaf v,c,b,e,_,hc,h=>by
  rw[Tr.parts,aU] at h
  cases h
  exact⟨hc,fun p hp=>⟨hp,J⟩⟩
 | .node l x y,c,b,e,⟨hl,hx,hy⟩,hc,h=>by
  rw[Tr.parts] at h;rcases bJ.1 h with h|h
  .split at h
   .rename_i hb
    obtain⟨k1,k2⟩:=gG hc hl hb;obtain⟨m1,m2⟩:=FC hx k1 h;refine⟨m1,fun p hp=>?_⟩;obtain⟨n1,n2⟩:=m2 p hp;obtain⟨o1,o2⟩:=(k2 p).1 n1;exact⟨o1,by rw[Tr.val_pos o2,n2]⟩
   .cases h
  .split at h
   .rename_i hb
    obtain⟨k1,k2⟩:=gG hc hl.rev hb;obtain⟨m1,m2⟩:=FC hy k1 h;refine⟨m1,fun p hp=>?_⟩;obtain⟨n1,n2⟩:=m2 p hp;obtain⟨o1,o2⟩:=(k2 p).1 n1;rw[fe] at o2;exact⟨o1,by rw[Tr.val_neg (by grind),n2]⟩
   .cases h
def fh(t:Tr):List ao:=((t.parts []).filter (·.1)).map (·.2)
def t8{e:ao}:e∈fh t↔(true,e)∈t.parts []:=by
 unfold fh;simp
def AZ(l:aa)(v:ah):l.dir.cross v=l.nor.dot v:=by
 unfold aa.dir aa.nor ah.cross ah.dot;grind
def uj(p:ah):(p.half=1/\(0<p.y\/(p.y=0/\0<p.x)))\/(p.half=2/\(p.y<0\/(p.y=0/\p.x<0)))\/(p.half=0/\p.y=0/\p.x=0):=by
 unfold ah.half;simp only[nj,Du,o9];split
 .rename_i h;exact .inl ⟨rfl,h⟩
 .rename_i h
  split
  .rename_i h2
   exact .inr (.inl ⟨J,by grind⟩)
  .rename_i h2
   exact .inr (.inr ⟨J,by grind,by grind⟩)
def ow:p.half=1↔(0<p.y\/(p.y=0/\0<p.x)):=by
 rcases uj p with⟨h,k⟩|⟨h,k⟩|⟨h,k⟩<;>rw[h]<;>grind
def vj:p.half=2↔(p.y<0\/(p.y=0/\p.x<0)):=by
 rcases uj p with⟨h,k⟩|⟨h,k⟩|⟨h,k⟩<;>rw[h]<;>grind
def d9(u v:ah):Prop:=u.half<v.half\/(u.half=v.half/\0<u.cross v)
def xj:gc u v<0↔d9 u v:=by
 unfold gc d9;split
 .rename_i h;exact⟨fun _=> .inl h,fun _=>by decide⟩
 .rename_i h
  split
  .rename_i h2;exact⟨fun e=>absurd e (by decide),fun e=>by omega⟩
  .rename_i h2
   have e:u.half=v.half:=by omega
   rw[<-nj];constructor
   .intro k;exact .inr ⟨e,by omega⟩
   .rintro (k|⟨_,k⟩)
    .omega
    .omega
def dh(d:ah):ah:=⟨-d.x, -d.y⟩
def V7(h:d.half≠0):(dh d).half=3-d.half:=by
 rcases uj d with⟨e,k⟩|⟨e,k⟩|⟨e,k⟩
 .rw[e];exact vj.2 (by unfold dh;grind)
 .rw[e];exact ow.2 (by unfold dh;grind)
 .exact absurd e h
def od(h:d.half≠0):d.half=1\/d.half=2:=by
 rcases uj d with⟨e,_⟩|⟨e,_⟩|⟨e,_⟩
 .exact .inl e
 .exact .inr e
 .exact absurd e h
def xU(ds:List ah)(u w:ah):Prop:=(d9 u w/\ ∀d∈ds,¬(d9 u d/\d9 d w))\/((∀d∈ds,¬d9 u d)/\ ∀d∈ds,¬d9 d w)
def wB(u v:ah):v.cross u= -u.cross v:=by unfold ah.cross;grind
def Lm(u v:ah):u.cross (dh v)= -u.cross v:=by unfold ah.cross dh;grind
end Go.Sx
end
section
namespace Go.Sx
open Go
variable {P:Program}{ops:Array Oper}{Q:Exit->Act->World->Prop}
inductive OT where
 |z (π:List (Nat×Bool))
 |q (i:Nat) (t:OT)
 |a (i:Nat) (t:OT)
 |c (i:Nat) (t r:OT)
def OT.sz:OT->Nat
 | .z _=>0
 | .q _ t=>t.sz+1
 | .a _ t=>t.sz+1
 | .c _ t r=>t.sz+r.sz+1
def OT.d:OT->Nat
 | .z π=>π.length
 | .q _ t=>t.d+1
 | .a _ t=>t.d+1
 | .c _ t r=>Nat.max (t.d+1) r.d
section
variable {S:World->Prop}{π₂:List (Nat×Bool)}
end
section
variable {GB:Gh}{C:aF}{n:Nat}{fr fr':mj}{own own' own0 own1 own1':List kl}{bs bs0 bs1 bs1':List jg}{fd:List FD}{π₂:List (Nat×Bool)}{t r:OT}
end
end Go.Sx
end
section
namespace Go.Sx
open Go Go.Proofs Tryz
variable {c xs ys ls L:List aa}{l:aa}{k i d j s:Nat}{α β:Type}{a b:Tr}{z side:Int}{ds:List Nat}{neg:Bool}{q t:Rat}{p u:ah}{ps:List ah}{v:ar}{cuts o:List Rat}
variable {GB:Gh}
theorem wm(hc: ∀m∈c,LB m)(hl:LB l): ∀m∈c++[l],LB m:=by
 rw[sQ];exact⟨hc,by simpa using hl⟩
theorem LB.rev{l:aa}(h:LB l):LB l.rev:=⟨⟨by rw[show l.rev.a= -l.a from J,jT];exact h.bl.a,by rw[show l.rev.b= -l.b from J,jT];exact h.bl.b,by rw[show l.rev.c= -l.c from J,jT];exact h.bl.c⟩⟩
def aBF(hc: ∀m∈c,LB m)(hok: ∀m∈c,m.ok)(hn:c.length<=900)(hl:LB l)(hlo:l.ok):PF GB prog 107 [.sl (c.map eL),eL l] (vI (se c l)):=by
 have hcl:=r9 c;refine fn func107 J J ntmps107 J J (fun C=>?_);refine pI J J<|ap (c.map eL) J J (ez _) J<|rf J J<|kD ((c++[l]).map eL) J (by rw[aL];rfl) (ez [l]) J<|cl J (H0 (c:=c++[l]) (wm hc hl) (nn hok hlo) (by simp;omega)) J<|pI J J<|ap (c.map eL) J J (ez _) J<|cl J (xk (l:=l)) J<|rf J J<|kD ((c++[l.rev]).map eL) J (by rw[aL];rfl) (ez [l.rev]) J<|cl J (H0 (c:=c++[l.rev]) (wm hc hl.rev) (nn hok hlo.rev) (by simp;omega)) J<|iF 31 J J J (fun hg31=>?_) (fun hg31=>?_)
 .
  refine bb J J J (fun hc33=>?_) (fun hc33=>?_)
  .
   exact rz J (by show vI 0=vI _;congr 1;unfold se;simp_all)
  .
   refine bb J J J (fun hc34=>?_) (fun hc34=>?_)
   .
    exact rz J (by show vI 1=vI _;congr 1;unfold se;simp_all)
   .
    exact rz J (by simp[hg31] at hc34)
 .
  refine bb J J J (fun hc34=>?_) (fun hc34=>?_)
  .
   exact rz J (by simp[hg31] at hc34)
  .
   exact rz J (by show vI (-1)=vI _;congr 1;unfold se;simp_all)
def HI{α:Type}{p:α->Bool}: ∀{xs:List α} {n:Nat},n<=xs.length->(∀j (h:j<xs.length),j<n->p xs[j]=true)->(∀h:n<xs.length,p xs[n]=false)->(xs.takeWhile p).length=n
 |[],n,h,_,_=>by simp at h;subst h;rfl
 |x::xs,0,_,_,h3=>by
  have:=h3 (by simp);simp only[oN] at this;simp[oY,this]
 |x::xs,n+1,h1,h2,h3=>by
  have hx:=h2 0 (by simp) (by omega);simp only[oN] at hx;rw[oY,if_pos hx,bZ];rw[HI (n:=n) (by simpa using h1) (fun j h hj=>by have:=h2 (j+1) (by simpa using h) (by omega);simpa using this) (fun h=>by have:=h3 (by simpa using h);simpa using this)]
def MO{n:Nat}(h1:n<=xs.length)(h2: ∀j (h:j<xs.length),j<n->gc xs[j].dir l.dir<0)(h3: ∀h:n<xs.length,¬gc xs[n].dir l.dir<0):m7 xs l=n:=
 HI h1 (fun j h hj=>decide_eq_true (h2 j h hj)) (fun h=>decide_eq_false (h3 h))
def Yn{n:Nat}(hn:m7 xs l=n)(h:n<xs.length)(e:xs[n]=l):pe xs l=xs:=by
 unfold pe;rw[hn,if_pos (by rw[aZ h,e])]
def Qr{n:Nat}(hn:m7 xs l=n)(h: ∀h:n<xs.length,xs[n]≠l):pe xs l=xs.take n++l::xs.drop n:=by
 unfold pe;rw[hn,if_neg];intro e;obtain⟨h1,h2⟩:=aR.1 e;exact h h1 h2
def Ox(xs:List aa)(n:Nat):cE 6 ((xs.map eL).take n):=fun d hd=>ez xs d (eM hd)
def In(xs:List aa)(n m:Nat):cE 6 (((xs.map eL).take n).drop m):=fun d hd=>ez xs d (eM (gW hd))
def Ni(xs:List aa)(n m:Nat)(l:aa):cE 6 ([eL l]++((xs.map eL).take n).drop m):=fun d hd=>by
 rcases bJ.1 hd with h|h
 .exact ez [l] d h
 .exact In xs n m d h
structure lz (c:List aa) (k:Nat) (xs:List aa):Prop where
 le:k<=c.length
 f:m9 c (c.drop k) xs=fP c
 m: ∀m∈xs,m∈c
 n:xs.length<=k
def lz.skip(h:lz c k xs)(hk:k<c.length)(e:(fH c[k] c ar.all).isSome=false):lz c (k+1) xs:=by
 have:=h.f;rw[bX hk,m9,e] at this;exact⟨hk,this,h.m,by have:=h.n;omega⟩
def lz.ins(h:lz c k xs)(hk:k<c.length)(e:(fH c[k] c ar.all).isSome=true)(hy:pe xs c[k]=ys)(hl:ys.length<=xs.length+1):lz c (k+1) ys:=by
 have:=h.f;rw[bX hk,m9,e,if_pos J,hy] at this;refine⟨hk,this,fun m hm=>?_,by have:=h.n;omega⟩;rw[<-hy] at hm;rcases FY.1 hm with rfl|hm
 .exact dX hk
 .exact h.m m hm
def lz.done(h:lz c k xs)(hk:k=c.length):fP c=xs:=by
 have:=h.f;rw[hk,fL,m9] at this;exact this.symm
def te(c:List aa):Bool:=if(((c.map eL).length:Nat):Int)=0 then true else decide ((0:Int)<((((fP c).map eL).length:Nat):Int))
def lz.nil(c:List aa):lz c 0 []:=⟨aM _,J,fun m hm=>absurd hm (by simp),bW _⟩
def F9(hc: ∀m∈c,LB m)(hok: ∀m∈c,m.ok)(hn:c.length<=1000):PF GB prog 24 [.sl (c.map eL)] (.tp [.sl ((fP c).map eL),vB (te c)]):=by
 have hcl:=r9 c;refine fn (fu:=⟨16⟩) func24 J J ntmps24 J J (fun C=>?_);refine aj 11 (.d (vI (c.length:Nat))) J (by rw[hcl];rfl)<|gx J<|Av 4 J<|lp (X:=List aa×Nat) (fun⟨xs,k⟩=>[(12, .d (vI (k:Nat))),(11, .d (vI (c.length:Nat))),(10, .d (.sl (c.map eL))),(0, .d (.sl (c.map eL))),(4, .d (.sl (xs.map eL)))]) (fun⟨xs,k⟩=>[]) (fun⟨xs,k⟩=>lz c k xs) (fun⟨xs,k⟩=>c.length-k) ⟨[],0⟩ J (lz.nil c) (fun _=>J) (fun⟨xs,k⟩ hk=>?_)
 try dsimp only at hk⊢
 have hS:=hk;refine br J J J (fun hc13=>?_) (fun hc13=>?_)
 .
  have hk:k<c.length:=by omega
  obtain⟨m,hm⟩: ∃m,m=c[k]:=⟨_,rfl⟩;haveI hmb:LB m:=hm▸hc _ (dX hk);have hmo:m.ok:=hm▸hok _ (dX hk);have hxl:=r9 xs;have hxn:=hS.n;refine ix (fu:=⟨1⟩) _ J (u6 hk) J<|aj 16 (.d (eL m)) J (by rw[hm];rfl)<|gx J<|cl J (Nm hc hok hn hk) J<|bb (fu2:=⟨8⟩) J J J (fun hc24=>?_) (fun hc24=>?_)
  .
   have hinv:lz c (k+1) xs:=hS.skip hk (by rw[<-yb];simpa using hc24);exact at_ ⟨xs,k+1⟩ (by dsimp only;exact⟨hinv,(by omega)⟩)
  .
   have hyes:(fH c[k] c ar.all).isSome=true:=by rw[<-yb];simpa using hc24
   refine mg (fu:=⟨6⟩) (X:=Unit) (fun _=>[(12, .d (vI (k:Nat))),(11, .d (vI (c.length:Nat))),(10, .d (.sl (c.map eL))),(0, .d (.sl (c.map eL))),(4, .d (.sl (xs.map eL))),(6, .ov 6 0),(9, .d (vI (m7 xs m:Nat)))]) (fun _=>[(6,some (.o 55 [.d ((.v (.bool (decide (m.a<0))))), .d (dN m.a.natAbs), .d ((.v (.bool (decide (m.b<0))))), .d (dN m.b.natAbs), .d ((.v (.bool (decide (m.c<0))))), .d (dN m.c.natAbs)] true))]) (fun _=>True) [12,11,10,0,4,6,9] [6] rfl ?_ (fun _=>J) (fun _ _=>?_)
   .
    refine gx J<|lp (fu:=⟨6⟩) (X:=Nat) (fun n=>[(12, .d (vI (k:Nat))),(11, .d (vI (c.length:Nat))),(10, .d (.sl (c.map eL))),(0, .d (.sl (c.map eL))),(4, .d (.sl (xs.map eL))),(6, .ov 6 0),(9, .d (vI (n:Nat)))]) (fun n=>[(6,some (.o 55 [.d ((.v (.bool (decide (m.a<0))))), .d (dN m.a.natAbs), .d ((.v (.bool (decide (m.b<0))))), .d (dN m.b.natAbs), .d ((.v (.bool (decide (m.c<0))))), .d (dN m.c.natAbs)] true))]) (fun n=>n<=xs.length/\ ∀j (h:j<xs.length),j<n->gc xs[j].dir m.dir<0) (fun n=>xs.length-n) 0 J ⟨aM _,fun j _ hj=>absurd hj (by omega)⟩ (fun _=>J) (fun n hk=>?_);obtain⟨n1,n2⟩:=hk;refine jD J J J J (fun hg28=>?_) (fun hg28=>?_)
    .
     refine ix _ J (u6) J<|?_;haveI:LB (xs[n]'(by omega)):=hc _ (hS.m _ (dX _));refine cl J (iu (l:=xs[n]'(by omega))) J<|cl J (iu (l:=m)) J<|cl J (U4 (u:=(xs[n]'(by omega)).dir) (v:=m.dir)) J<|br J J J (fun hc39=>?_) (fun hc39=>?_)
     .
      exact at_ (n+1) ⟨⟨by omega,fun j h hj=>by by_cases q:j=n;(subst q;exact hc39);exact n2 j h (by omega)⟩,(by omega)⟩
     .
      have hidx:m7 xs m=n:=MO n1 n2 (fun h=>hc39);exact at_ () trivial
    .
     have hidx:m7 xs m=n:=MO n1 n2 (fun h=>absurd h (by omega));exact at_ () trivial
   .
    obtain⟨n,hnx⟩: ∃n,m7 xs m=n:=⟨_,rfl⟩;rw[hnx];have hnl:n<=xs.length:=by rw[<-hnx];unfold m7;exact(List.takeWhile_sublist _).length_le
    have hcb: ∀m∈xs,LB m:=fun m hm=>hc m (hS.m m hm);refine jD J J J J (fun hg45=>?_) (fun hg45=>?_)
    .
     refine ix _ J (u6) J<|cl J (Di (l:=xs[n]'(by omega)) (m:=m) (hl:=hcb _ (dX (by omega)))) J<|br J J J (fun hc54=>?_) (fun hc54=>?_)
     .
      have hn46:n<xs.length:=by omega
      have hinv:lz c (k+1) xs:=hS.ins hk hyes (by rw[<-hm];exact Yn hnx hn46 ((Bj _ m).1 hc54)) (by omega);exact at_ ⟨xs,k+1⟩ (by dsimp only;exact⟨hinv,(by omega)⟩)
     .
      have hnew: ∀h:n<xs.length,xs[n]≠m:=fun h e=>hc54 ((Bj _ m).2 e);obtain⟨ys,hys⟩: ∃ys,ys=xs.take n++m::xs.drop n:=⟨_,rfl⟩;have hinv:lz c (k+1) ys:=hS.ins hk hyes (by rw[<-hm,Qr hnx hnew,hys]) (by rw[hys];simp;omega);refine s3 n _ J J J J (ez _) (by rw[hxl];exact hnl) J<|ro J J<|kn n xs.length _ J J (by rw[hxl]) J (ez _) hnl (by omega) J<|ap _ J J (In _ _ _) J<|kD (hv:=by simp only[ak];exact⟨by kernel_rfl,by omega⟩) (ho:=fun _=>⟨Ox _ _,by simp⟩) (ys.map eL) J (by rw[hys,aL,bU,iU,iN,cX (l:=xs.map eL) (i:=xs.length) (by simp)];rfl) (Ni _ _ _ _) J<|at_ ⟨ys,k+1⟩ (by dsimp only;exact⟨hinv,(by omega)⟩)
    .
     have hnew: ∀h:n<xs.length,xs[n]≠m:=fun h=>absurd h (by omega);obtain⟨ys,hys⟩: ∃ys,ys=xs.take n++m::xs.drop n:=⟨_,rfl⟩;have hinv:lz c (k+1) ys:=hS.ins hk hyes (by rw[<-hm,Qr hnx hnew,hys]) (by rw[hys];simp;omega);refine s3 n _ J J J J (ez _) (by rw[hxl];exact hnl) J<|ro J J<|kn n xs.length _ J J (by rw[hxl]) J (ez _) hnl (by omega) J<|ap _ J J (In _ _ _) J<|kD (hv:=by simp only[ak];exact⟨by kernel_rfl,by omega⟩) (ho:=fun _=>⟨Ox _ _,by simp⟩) (ys.map eL) J (by rw[hys,aL,bU,iU,iN,cX (l:=xs.map eL) (i:=xs.length) (by simp)];rfl) (Ni _ _ _ _) J<|at_ ⟨ys,k+1⟩ (by dsimp only;exact⟨hinv,(by omega)⟩)
 .
  have hfin:fP c=xs:=hS.done (by have:=hS.le;omega);refine cs 71 J J J (fun hg71=>?_) (fun hg71=>?_)
  .
   exact rz J (by rw[te,if_pos hg71,hfin];rfl)
  .
   exact rz J (by rw[te,if_neg hg71,hfin];rfl)
section
variable (c:α->α->Int)
def eE(x:α):List α->List α
 |[]=>[x]
 |u::t=>if c u x<0 then u::eE x t else if c u x=0 then u::t else x::u::t
def lx(x:α)(xs:List α):Nat:=(xs.takeWhile fun u=>decide (c u x<0)).length
def D3(x:α)(xs:List α):lx c x xs<=xs.length:=(List.takeWhile_sublist _).length_le
def vp{x:α}{xs:List α}{n:Nat}(h1:n<=xs.length)(h2: ∀j (h:j<xs.length),j<n->c xs[j] x<0)(h3: ∀h:n<xs.length,¬c xs[n] x<0):lx c x xs=n:=
 HI h1 (fun j h hj=>decide_eq_true (h2 j h hj)) (fun h=>decide_eq_false (h3 h))
def A4{x:α}: ∀{xs:List α} {n:Nat},lx c x xs=n->(h:n<xs.length)->c xs[n] x=0->eE c x xs=xs
 |[],n,_,h,_=>by simp at h
 |u::t,n,hn,h,e=>by
  rw[eE];unfold lx at hn;rw[oY] at hn;by_cases hu:c u x<0
  .rw[if_pos hu]
   rw[if_pos (by simpa using hu)] at hn;obtain⟨k,rfl⟩: ∃k,n=k+1:=⟨n-1,by simp at hn;omega⟩;rw[A4 (xs:=t) (n:=k) (by unfold lx;simpa using hn) (by simpa using h) (by simpa using e)]
  .rw[if_neg (by simpa using hu)] at hn
   simp at hn;subst hn;rw[if_neg hu,if_pos (by simpa using e)]
def tc{x:α}: ∀{xs:List α} {n:Nat},lx c x xs=n->(∀h:n<xs.length,c xs[n] x≠0)->eE c x xs=xs.take n++x::xs.drop n
 |[],n,hn,_=>by simp[lx] at hn;subst hn;rfl
 |u::t,n,hn,e=>by
  rw[eE];unfold lx at hn;rw[oY] at hn;by_cases hu:c u x<0
  .rw[if_pos hu]
   rw[if_pos (by simpa using hu)] at hn;obtain⟨k,rfl⟩: ∃k,n=k+1:=⟨n-1,by simp at hn;omega⟩;rw[tc (xs:=t) (n:=k) (by unfold lx;simpa using hn) (fun h=>by have:=e (by simpa using h);simpa using this)];simp
  .rw[if_neg (by simpa using hu)] at hn
   simp at hn;subst hn;have:=e (by simp);rw[if_neg hu,if_neg (by simpa using this)];rfl
def Dw(x:α): ∀(xs:List α),(eE c x xs).length<=xs.length+1
 |[]=>bW _
 |u::t=>by
  have:=Dw x t;rw[eE];split
  .simp;omega
  .split<;>simp
def Mj{x y:α}: ∀{xs:List α},y∈eE c x xs->y=x\/y∈xs
 |[],h=>by rw[eE,aU] at h;exact .inl h
 |u::t,h=>by
  rw[eE] at h;split at h
  .rcases aW.1 h with rfl|h
   .exact .inr aQ
   .rcases Mj h with h|h
    .exact .inl h
    .exact .inr (aJ _ h)
  .split at h
   .exact .inr h
   .rcases aW.1 h with rfl|h
    .exact .inl J
    .exact .inr h
def tA(l:List α):List α:=l.foldl (fun out x=>eE c x out) []
def BU: ∀(l o:List α),(l.foldl (fun out x=>eE c x out) o).length<=l.length+o.length
 |[],o=>by simp
 |x::t,o=>by
  have:=BU t (eE c x o);have:=Dw c x o;simp only[iS,bZ];omega
def H'{y:α}: ∀{l o:List α},y∈l.foldl (fun out x=>eE c x out) o->y∈l\/y∈o
 |[],o,h=> .inr h
 |x::t,o,h=>by
  rcases H' (l:=t) h with h|h
  .exact .inl (aJ _ h)
  .rcases Mj c h with rfl|h
   .exact .inl aQ
   .exact .inr h
end
def yz{x:Rat}: ∀{l:List Rat},ke x l=eE bw x l
 |[]=>rfl
 |u::t=>by
  have e1:bw u x<0↔u<x:=FO u x;have e2:bw u x=0↔u=x:=u7 u x;rw[ke,eE,yz (l:=t)];by_cases h:u<x
  .rw[if_pos h,if_pos (e1.2 h)]
  .rw[if_neg h,if_neg (fun e=>h (e1.1 e))]
   by_cases h2:u=x
   .rw[if_pos h2,if_pos (e2.2 h2)]
   .rw[if_neg h2,if_neg (fun e=>h2 (e2.1 e))]
def uD{f:α->β}{l:List α}{x:α}(h:l[k]? =some x):(l.take k).map f++[f x]=(l.take (k+1)).map f:=by
 rw[dZ,h,aL];rfl
def R1{a:Nat}[ha:BN a i](hi:i<=400000000:=by decide):PF GB prog 155 [dN a] (dN a):=by
 have hl:=bO (dg a);have hb:=jC ha.h;refine fn func155 J J ntmps155 J J (fun C=>?_);refine pI J J<|ap ((dg a).map dU) J J (rE _) J<|gp 5 J<|rz J J
def Dk[hz:BI z i](hi:i<=400000000:=by decide):PF GB prog 154 [eI z] (eI z):=by
 refine fn func154 J J ntmps154 J J (fun C=>?_);refine cl J (R1 (a:=z.natAbs) (i:=i) (ha:=⟨hz.h⟩) hi) J<|rz J J
def Lb(hl:BL l 96):PF GB prog 97 [eL l] (eL l):=by
 haveI h1:BI l.a 96:=⟨hl.a⟩;haveI h2:BI l.b 96:=⟨hl.b⟩;haveI h3:BI l.c 96:=⟨hl.c⟩;refine fn func97 J J ntmps97 J J (fun C=>?_);refine cl J (Dk (z:=l.a)) J<|cl J (Dk (z:=l.b)) J<|cl J (Dk (z:=l.c)) J<|rz J J
def Zq(hb: ∀l∈ls,BL l 96)(hn:ls.length<=1000000):PF GB prog 63 [.sl (ls.map eL)] (.sl (ls.map eL)):=by
 have hll:=r9 ls;refine fn (fu:=⟨15⟩) func63 J J ntmps63 J J (fun C=>?_);refine aj 7 (.d (vI (ls.length:Nat))) J (by rw[hll]<;>rfl)<|gx J<|nr 3 2000 103 6 J J J<|lp (X:=Nat) (fun i=>[(8, .d (vI (i:Nat))),(3, .rw 2000)]) (fun i=>[(2000,some (.b 103 6 ((ls.take i).map eL) true))]) (fun i=>i<=ls.length) (fun i=>ls.length-i) 0 J (aM _) (fun _=>J) (fun i hk=>?_);have htl:((ls.take i).map eL).length=i:=by simp;omega
 refine br J J J (fun hc9=>?_) (fun hc9=>?_)
 .
  have hi:i<ls.length:=by omega
  refine ix _ J (u6 hi) J<|cl J (Lb (l:=ls[i]) (hb _ (dX hi))) J<|rf J J<|ap ((ls.take (i+1)).map eL) J (by rw[iJ hi,aL];rfl) (ez [_]) J<|d6 16 2000 J<|at_ (i+1) ⟨(by omega),(by omega)⟩
 .
  obtain rfl:i=ls.length:=by omega
  refine gp 2000 J<|rz J (by rw[cS]<;>rfl)
def Ol(hb: ∀l∈ls,BL l 96)(hn:ls.length<=1000000):PF GB prog 23 [.sl (ls.map eL)] (.ag [.sl (ls.map eL)]):=by
 refine fn func23 J J ntmps23 J J (fun C=>?_);refine cl J (Zq hb hn) J<|rz J J
def axD(h:ds[ds.length-1]? =some d):e7 ds↔ ¬((d:Int)=0):=by
 unfold e7;rw[nM,h];simp
def Nx(hn:ds.length<=1000000):PF GB prog 292 [dk ds] (vB (decide (e7 ds))):=by
 have hm:=bO ds;refine fn (fu:=⟨9⟩) func292 J J ntmps292 J J (fun C=>?_);refine aj 4 (.d (vI (ds.length:Nat))) J (by rw[hm]<;>rfl)<|gx (fu:=⟨0⟩) J<|jD (fu2:=⟨4⟩) J J J J (fun hg5=>?_) (fun hg5=>?_)
 .
  exact rz rfl (by obtain rfl:ds=[]:=cV (by omega);show DV.v (.bool _)= .v (.bool _);congr 2<;>exact(decide_eq_true (by intro h;cases h)).symm)
 .
  obtain⟨d,hd⟩: ∃d,ds[ds.length-1]? =some d:=⟨_,aZ (by omega)⟩;refine aj 9 (.d (vI (ds.length:Nat))) J (by rw[hm]<;>rfl)<|gx J<|ix _ J (by rw[show(((ds.length:Nat):Int)-1).toNat=ds.length-1 by omega,cR,hd];rfl) J<|?_;exact rz J (by show DV.v (.bool _)= .v (.bool _);congr 2;exact decide_eq_decide.2 (axD hd).symm)
def Ih(hn:ds.length<=1000000):PF GB prog 237 [.ag [.v (.bool neg),dk ds]] (vB (decide (ta neg ds))):=by
 have hm:=bO ds;refine fn func237 J J ntmps237 J J (fun C=>?_);by_cases hN:e7 ds
 .
  refine cl (fu:=⟨0⟩) J (Nx hn) J<|aj 5 (.d (vB true)) J (by rw[decide_eq_true hN])<|jO 5 J<|gx J<|iF (fu2:=⟨3⟩) 10 J J J (fun hg10=>?_) (fun hg10=>?_)
  .
   exact rz J (by show DV.v (.bool _)= .v (.bool _);congr 2;unfold ta;simp_all)
  .
   refine aj 13 (.d (vI (ds.length:Nat))) J (by rw[hm]<;>rfl)<|gx J<|rz J (by show DV.v (.bool _)= .v (.bool _);congr 2;unfold ta;simp_all)
 .
  refine cl (fu:=⟨0⟩) J (Nx hn) J<|aj 5 (.d (vB false)) J (by rw[decide_eq_false hN])<|qc 5 J<|gx J<|rz J (by show DV.v (.bool _)= .v (.bool _);congr 2;unfold ta;simp_all)
def M2(hd:bD ds)(hn:ds.length<=1000000):PF GB prog 293 [dk ds] (dN (dv ds)):=by
 have hm:=bO ds;refine fn func293 J J ntmps293 J J (fun C=>?_);refine pI J J<|ap (ds.map dU) J J (rE _) J<|fz 5 J J<|cl J (qI (ds:=ds)) J<|rz J (by unfold dN;rw[Cn hd];rfl)
def DG(hd:bD ds)(hn:ds.length<=1000000):PF GB prog 238 [.ag [.v (.bool neg),dk ds]] (eI (pA neg ds)):=by
 refine fn func238 J J ntmps238 J J (fun C=>?_);refine cl J (M2 hd hn) J<|cl J jF J<|rz J J
def Ca(r:RL):DV:= .tp [if r.nm then eL r.l else .ag [.v (.bool false), .sl [], .v (.bool false), .sl [], .v (.bool false), .sl []],vB (decide (r.nm/\r.l.ok))]
def aEt{a b:Nat}(h:iE a b=0):a=b:=by
 unfold iE at h;split at h
 .cases h
 .split at h
  .assumption
  .cases h
def Ho:l.ok↔0<Nat.gcd l.a.natAbs l.b.natAbs/\Nat.gcd (Nat.gcd l.a.natAbs l.b.natAbs) l.c.natAbs=1:=by
 unfold aa.ok;refine and_congr ?_ Iff.rfl;rw[Nat.pos_iff_ne_zero,ne_eq,Nat.gcd_eq_zero_iff];simp only[kU]
def Vy{r:RL}(s:r.sm)(h:r.nm):PF GB prog 169 [r.d] (Ca r):=by
 haveI:=RL.lb s;haveI ba:BN r.l.a.natAbs 96:=⟨(LB.a r.l).h⟩;haveI bb':BN r.l.b.natAbs 96:=⟨(LB.b r.l).h⟩;haveI bc:BN r.l.c.natAbs 96:=⟨(LB.c r.l).h⟩;obtain⟨g,hg⟩: ∃g,g=Nat.gcd r.l.a.natAbs r.l.b.natAbs:=⟨_,rfl⟩;haveI bg:BN g 96:=hg▸⟨F7 ba.h bb'.h⟩;have bgc:=F7 bg.h bc.h;have hgl:=jC bg.h;refine fn func169 J J ntmps169 J J (fun C=>?_);refine cl (fu:=⟨0⟩) J (Ih (neg:=r.na) (ds:=r.da) (by have:=s.a.2;omega)) J<|cC J (by show some (!decide _)=some false;rw[decide_eq_true h.1];rfl) J<|cl (fu:=⟨0⟩) J (Ih (neg:=r.nb) (ds:=r.db) (by have:=s.b.2;omega)) J<|cC J (by show some (!decide _)=some false;rw[decide_eq_true h.2.1];rfl) J<|cl (fu:=⟨0⟩) J (Ih (neg:=r.nc) (ds:=r.dc) (by have:=s.c.2;omega)) J<|cC J (by show some (!decide _)=some false;rw[decide_eq_true h.2.2];rfl) J<|cl J (DG (neg:=r.na) (ds:=r.da) s.a.1 (by have:=s.a.2;omega)) J<|cl J (DG (neg:=r.nb) (ds:=r.db) s.b.1 (by have:=s.b.2;omega)) J<|cl J (DG (neg:=r.nc) (ds:=r.dc) s.c.1 (by have:=s.c.2;omega)) J<|cl (fu:=⟨0⟩) J (Ad (a:=r.l.a.natAbs) (b:=r.l.b.natAbs)) J<|aj 39 (.d (dN g)) J (by rw[hg])<|gx (fu:=⟨8⟩) J<|aj 42 (.d (vI ((dg g).length:Nat))) J (by rw[bO]<;>rfl)<|gx (fu:=⟨0⟩) J<|jD (v2:=fun hg43=>by simp only[ak];kernel_rfl) J J J J (fun hg43=>?_) (fun hg43=>?_)
 .
  refine cl J (Ad (a:=g) (b:=r.l.c.natAbs)) J<|cl J D4 J<|cl J (yv (a:=Nat.gcd g r.l.c.natAbs) (b:=1) (by have:=jC bgc;omega) (by have:=jC (show 1<2^32 by decide);omega)) J<|rz J (by unfold Ca;rw[if_pos h,show decide (r.nm/\r.l.ok)=decide (iE (Nat.gcd g r.l.c.natAbs) 1=0) from decide_eq_decide.2 ⟨fun e=>F5 (by rw[hg];exact(Ho.1 e.2).2),fun e=>⟨h,Ho.2 ⟨by rw[<-hg];exact ux.1 (by omega),by rw[<-hg];exact aEt e⟩⟩⟩];rfl)
 .
  exact rz J (by unfold Ca;rw[if_pos h,show decide (r.nm/\r.l.ok)=false from decide_eq_false fun e=>by(have h1:=(Ho.1 e.2).1;rw[<-hg] at h1;have:=ux.2 h1;omega)];rfl)
def aIK{n:Nat}[h:BN n i](hi:i<=20000000:=by decide):PF GB prog 293 [dN n] (dN n):=by
 have hl:=jC h.h;have:=M2 (GB:=GB) (ds:=dg n) (gi n) (by omega);rw[c8,<-J4] at this;exact this
def ZC(z:Int):pA (decide (z<0)) (dg z.natAbs)=z:=by
 unfold pA;rw[c8];split<;>(rename_i h;simp at h;omega)
def S0[h:BI z i](hi:i<=20000000:=by decide):PF GB prog 238 [eI z] (eI z):=by
 have hl:=jC h.h;have:=DG (GB:=GB) (neg:=decide (z<0)) (ds:=dg z.natAbs) (gi _) (by omega);rw[ZC,<-J4] at this;exact this
def ZQ{n:Nat}(h:0<n): ¬((((dg n).map dU).length:Nat):Int)=0:=by
 rw[aX];have:=vq (n:=n);omega
instance BQ.m1':BQ (((-1:Int):Int):Rat) 2:=⟨by decide,by decide⟩
instance BQ.m1:BQ (-1:Rat) 2:=⟨by decide,by decide⟩
def MA[h:BQ q i](hi:i<=20000000:=by decide):PF GB prog 287 [eR q] (eQ q):=by
 have hd:=q.den_pos;refine fn func287 J J ntmps287 J J (fun C=>?_);refine cl (fu:=⟨8⟩) J (aIK (n:=q.den) hi) J<|cC J (by show some (decide _)=some false;rw[decide_eq_false (ZQ hd)]) J<|cl J (S0 (z:=q.num) hi) J<|cl J (wh (x:=q.num) (d:=q.den) hd (by omega) (by omega)) J<|rz J (by rw[rM];rfl)
def Nh[h:BQ q i](hi:i<=400000000:=by decide):PF GB prog 80 [eQ q] (eR q):=by
 refine fn func80 J J ntmps80 J J (fun C=>?_);refine cl J (Dk (z:=q.num) hi) J<|cl J (je (q:=q)) J<|cl J (R1 (a:=q.den) hi) J<|rz J J
def aKc[h:aD p i](hi:i<=20000000:=by decide):PF GB prog 231 [nO p] (eP p):=by
 refine fn func231 J J ntmps231 J J (fun C=>?_);refine cl J (MA (q:=p.x) hi) J<|cl J (MA (q:=p.y) hi) J<|rz J J
def XL[h:aD p i](hi:i<=20000:=by decide):PF GB prog 30 [eP p] (nO p):=by
 refine fn func30 J J ntmps30 J J (fun C=>?_);refine cl J (Nh (q:=p.x) (i:=i) (by omega)) J<|cl J (Nh (q:=p.y) (i:=i) (by omega)) J<|rz J J
def eh(f:α->DV)(l:List α):(l.map f).length=l.length:=aX ..
def Mk(ps:List ah):cE 6 (ps.map eP):=fun d hd=>by
 obtain⟨u,_,rfl⟩:=aT.1 hd;exact⟨rfl,rfl⟩
def aFP(ps:List ah):cE 6 (ps.map nO):=fun d hd=>by
 obtain⟨u,_,rfl⟩:=aT.1 hd;exact⟨rfl,rfl⟩
def aIu(hb: ∀p∈ps,aD p 1200)(hn:ps.length<=1000000):PF GB prog 161 [.sl (ps.map nO)] (.sl (ps.map eP)):=by
 have hm:=eh nO ps;refine fn (fu:=⟨15⟩) func161 J J ntmps161 J J (fun C=>?_);refine aj 7 (.d (vI (ps.length:Nat))) J (by rw[hm]<;>rfl)<|gx J<|nr 3 3 53 6 J J J<|lp (X:=Nat) (fun k=>[(8, .d (vI (k:Nat))),(3, .rw 3)]) (fun k=>[(3,some (.b 53 6 ((ps.take k).map eP) true))]) (fun k=>k<=ps.length) (fun k=>ps.length-k) 0 J (aM _) (fun _=>J) (fun k hk=>?_);have hml:=eh eP (ps.take k);rw[bT] at hml;refine br J J J (fun hc9=>?_) (fun hc9=>?_)
 .
  obtain⟨z,hz⟩: ∃s,ps[k]? =some s:=⟨_,aZ (by omega)⟩;have hzm:=aK hz;refine ix _ J (cg hz) J<|cl J (aKc (p:=z) (h:=hb z hzm)) J<|rf J J<|ap ((ps.take (k+1)).map eP) J (uD hz) (Mk [z]) J<|d6 16 3 J<|at_ (k+1) ⟨(by omega),(by omega)⟩
 .
  obtain rfl:k=ps.length:=by omega
  refine gp 3 J<|rz J (by rw[cS];rfl)
def O4(hb: ∀p∈ps,aD p 1200)(hn:ps.length<=1000000):PF GB prog 11 [.sl (ps.map eP)] (.sl (ps.map nO)):=by
 have hm:=eh eP ps;refine fn (fu:=⟨15⟩) func11 J J ntmps11 J J (fun C=>?_);refine aj 7 (.d (vI (ps.length:Nat))) J (by rw[hm]<;>rfl)<|gx J<|nr 3 3 79 6 J J J<|lp (X:=Nat) (fun k=>[(8, .d (vI (k:Nat))),(3, .rw 3)]) (fun k=>[(3,some (.b 79 6 ((ps.take k).map nO) true))]) (fun k=>k<=ps.length) (fun k=>ps.length-k) 0 J (aM _) (fun _=>J) (fun k hk=>?_);have hml:=eh nO (ps.take k);rw[bT] at hml;refine br J J J (fun hc9=>?_) (fun hc9=>?_)
 .
  obtain⟨z,hz⟩: ∃s,ps[k]? =some s:=⟨_,aZ (by omega)⟩;have hzm:=aK hz;refine ix _ J (cg hz) J<|cl J (XL (p:=z) (h:=hb z hzm)) J<|rf J J<|ap ((ps.take (k+1)).map nO) J (uD hz) (aFP [z]) J<|d6 16 3 J<|at_ (k+1) ⟨(by omega),(by omega)⟩
 .
  obtain rfl:k=ps.length:=by omega
  refine gp 3 J<|rz J (by rw[cS];rfl)
def FE{q:ah}[hp:aD p i][hq:aD q j](hi:i<=100000:=by decide)(hj:j<=100000:=by decide):PF GB prog 143 [eP p,eP q] (eP (cF p q (-1))):=by
 refine fn func143 J J ntmps143 J J (fun C=>?_);refine cl J (iD (n:= -1)) J<|cl J (sB (p:=p) (q:=q) (c:=((-1:Int):Rat)) (i:=i) (j:=j) (k:=2) (by omega) (by omega)) J<|rz J (by rw[show((-1:Int):Rat)= -1 from J];rfl)
def J5{a b c:ah}[ha:aD a i][hb:aD b j][hc:aD c k](hi:i<=80000:=by decide)(hj:j<=80000:=by decide)(hk:k<=80000:=by decide):PF GB prog 89 [eP a,eP b,eP c] (vI (uB a b c)):=by
 refine fn func89 J J ntmps89 J J (fun C=>?_);refine cl J (FE (p:=b) (q:=a) (i:=j) (j:=i) (by omega) (by omega)) J<|cl J (FE (p:=c) (q:=a) (i:=k) (j:=i) (by omega) (by omega)) J<|cl J (pC (p:=cF b a (-1)) (q:=cF c a (-1)) (by omega) (by omega)) J<|cl J (mE (q:=(cF b a (-1)).cross (cF c a (-1)))) J<|rz J J
def xo(l:aa):Bool:=decide (l.a<0\/(l.a=0/\l.b<0))
def aa.canon(l:aa):aa:=if xo l then l.rev else l
def AE(a:Int):a.sign<0↔a<0:=by
 rcases pW a 0 with h|h|h
 .rw[eX h];omega
 .subst h;simp
 .rw[fU h];omega
def Sj(a:Int):a.sign=0↔a=0:=gR
def QQ(h:l.a<0\/(l.a=0/\l.b<0)):DV.tp [eL l.canon,vB (xo l)]= .tp [eL l.rev,vB true]:=by
 unfold aa.canon xo;rw[decide_eq_true h];rfl
def L'(h: ¬(l.a<0\/(l.a=0/\l.b<0))):DV.tp [eL l.canon,vB (xo l)]= .tp [eL l,vB false]:=by
 unfold aa.canon xo;rw[decide_eq_false h];rfl
def TD[hl:LB l]:PF GB prog 173 [eL l] (.tp [eL l.canon,vB (xo l)]):=by
 refine fn func173 J J ntmps173 J J (fun C=>?_);refine cl J (wZ (z:=l.a)) J<|cs 10 J J J (fun hg10=>?_) (fun hg10=>?_)
 .
  refine cl J (xk (l:=l)) J<|rz J (by rw[QQ (.inl ((AE _).1 hg10))];rfl)
 .
  refine cs 13 J J J (fun hg13=>?_) (fun hg13=>?_)
  .
   refine cl J (wZ (z:=l.b)) J<|br J J J (fun hc19=>?_) (fun hc19=>?_)
   .
    refine cl J (xk (l:=l)) J<|rz J (by rw[QQ (.inr ⟨(Sj _).1 hg13,(AE _).1 hc19⟩)];rfl)
   .
    exact rz J (by rw[L' (fun e=>e.elim (fun e=>hg10 ((AE _).2 e)) (fun e=>hc19 ((AE _).2 e.2)))];rfl)
  .
   exact rz J (by rw[L' (fun e=>e.elim (fun e=>hg10 ((AE _).2 e)) (fun e=>hg13 ((Sj _).2 e.1)))];rfl)
instance LB.canon (l:aa) [h:LB l]:LB l.canon:=by unfold aa.canon;split;exact LB.rev h;exact h
def Lh(h:l.ok):l.canon.ok:=by unfold aa.canon;split;exact h.rev;exact h
def rg(c:β->β->Int)(g:α->β)(l:List α)(k:Nat):List β:=tA c ((l.take k).map g)
section
variable {c:β->β->Int}{g:α->β}{l:List α}
def yu{x:α}(h:l[k]? =some x):rg c g l (k+1)=eE c (g x) (rg c g l k):=by
 unfold rg tA;rw[dZ,h,lY,aL,mL];rfl
def OE(h:k=l.length:=by omega):rg c g l k=tA c (l.map g):=by unfold rg;rw[h,cS]
def Lw:(rg c g l k).length<=k:=by
 have:=BU c ((l.take k).map g) [];have h2:((l.take k).map g).length<=k:=by rw[aX,bT];omega
 rw[eY] at this;unfold rg tA;omega
def KQ{y:β}(h:y∈rg c g l k): ∃x∈l,y=g x:=by
 rcases H' c h with h|h
 .obtain⟨x,hx,rfl⟩:=aT.1 h
  exact⟨x,eM hx,J⟩
 .cases h
end
def t6{f:α->DV}(ok: ∀l:List α,cE s (l.map f))(xs:List α)(n:Nat):cE s ((xs.map f).take n):=fun d hd=>ok xs d (eM hd)
def sC{f:α->DV}(ok: ∀l:List α,cE s (l.map f))(xs:List α)(n m:Nat):cE s (((xs.map f).take n).drop m):=fun d hd=>ok xs d (eM (gW hd))
def uh{f:α->DV}(ok: ∀l:List α,cE s (l.map f))(xs:List α)(n m:Nat)(x:α):cE s ([f x]++((xs.map f).take n).drop m):=fun d hd=>by
 rcases bJ.1 hd with h|h
 .exact ok [x] d h
 .exact sC ok xs n m d h
def tg{f:α->DV}{l:List α}(h:i<l.length:=by omega):(l.map f)[(i:Int).toNat]? =some (f l[i]):=by
 rw[bM,cR,aZ h];rfl
def ng(ls:List aa):List aa:=tA hH (ls.map aa.canon)
def Ee{y:aa}(h:y∈ng ls): ∃x∈ls,y=x.canon:=by
 rcases H' hH h with h|h
 .obtain⟨x,hx,rfl⟩:=aT.1 h;exact⟨x,hx,rfl⟩
 .cases h
def SM(hb: ∀p∈ls,LB p)(hn:ls.length<=100000):PF GB prog 102 [.sl (ls.map eL)] (.sl ((ng ls).map eL)):=by
 have hm':=eh eL ls;refine fn (fu:=⟨15⟩) func102 J J ntmps102 J J (fun C=>?_);refine aj 8 (.d (vI (ls.length:Nat))) J (by rw[hm'];rfl)<|gx J<|Av 3 J<|lp (X:=List aa×Nat) (fun⟨xs,k⟩=>[(9, .d (vI (k:Nat))),(8, .d (vI (ls.length:Nat))),(7, .d (.sl (ls.map eL))),(0, .d (.sl (ls.map eL))),(3, .d (.sl (xs.map eL)))]) (fun⟨xs,k⟩=>[]) (fun⟨xs,k⟩=>xs=rg hH aa.canon ls k/\k<=ls.length) (fun⟨xs,k⟩=>ls.length-k) ⟨[],0⟩ J ⟨J,aM _⟩ (fun _=>J) (fun⟨xs,k⟩ hk=>?_)
 try dsimp only at hk⊢
 obtain⟨hS,hkl⟩:=hk;refine br J J J (fun hc10=>?_) (fun hc10=>?_)
 .
  have hk:k<ls.length:=by omega
  obtain⟨z,hm⟩: ∃m,m=ls[k]:=⟨_,rfl⟩;have hz:ls[k]? =some z:=by rw[hm];exact aZ hk
  haveI hzb:LB z:=hm▸hb _ (dX hk);obtain⟨m,hmc⟩: ∃m,m=z.canon:=⟨_,rfl⟩;haveI hmb:LB m:=by rw[hmc];infer_instance
  have hxl:=eh eL xs;have hxn:xs.length<=k:=by rw[hS];exact Lw
  have hxb: ∀q∈xs,LB q:=fun q hq=>by rw[hS] at hq;obtain⟨z,hz,rfl⟩:=KQ hq;haveI:=hb z hz;infer_instance
  refine ix (fu:=⟨1⟩) _ J (tg hk) J<|aj 12 (.d (eL z)) J (by rw[hm];rfl)<|gx J<|cl (fu:=⟨2⟩) J (TD (l:=z)) J<|aj 16 (.d (eL m)) J (by rw[hmc])<|gx (fu:=⟨10⟩) J<|mg (fu:=⟨5⟩) (X:=Unit) (fun _=>[(9, .d (vI (k:Nat))),(8, .d (vI (ls.length:Nat))),(7, .d (.sl (ls.map eL))),(0, .d (.sl (ls.map eL))),(3, .d (.sl (xs.map eL))),(5, .ov 5 0),(6, .d (vI (lx hH m xs:Nat)))]) (fun _=>[(5,some (.o 55 [.d ((.v (.bool (decide (m.a<0))))), .d (dN m.a.natAbs), .d ((.v (.bool (decide (m.b<0))))), .d (dN m.b.natAbs), .d ((.v (.bool (decide (m.c<0))))), .d (dN m.c.natAbs)] true))]) (fun _=>True) [9,8,7,0,3,5,6] [5] rfl ?_ (fun _=>J) (fun _ _=>?_)
  .
   refine gx J<|lp (fu:=⟨6⟩) (X:=Nat) (fun n=>[(9, .d (vI (k:Nat))),(8, .d (vI (ls.length:Nat))),(7, .d (.sl (ls.map eL))),(0, .d (.sl (ls.map eL))),(3, .d (.sl (xs.map eL))),(5, .ov 5 0),(6, .d (vI (n:Nat)))]) (fun n=>[(5,some (.o 55 [.d ((.v (.bool (decide (m.a<0))))), .d (dN m.a.natAbs), .d ((.v (.bool (decide (m.b<0))))), .d (dN m.b.natAbs), .d ((.v (.bool (decide (m.c<0))))), .d (dN m.c.natAbs)] true))]) (fun n=>n<=xs.length/\ ∀j (h:j<xs.length),j<n->hH xs[j] m<0) (fun n=>xs.length-n) 0 J ⟨aM _,fun j _ hj=>absurd hj (by omega)⟩ (fun _=>J) (fun n hk=>?_);obtain⟨n1,n2⟩:=hk;refine jD (v2:=fun hg21=>by simp only[ak];kernel_rfl) J J J J (fun hg21=>?_) (fun hg21=>?_)
   .
    refine ix _ J (tg) J<|cl J (Di (l:=xs[n]'(by omega)) (m:=m) (hl:=hxb _ (dX (by omega))) (hm:=hmb)) J<|br J J J (fun hc30=>?_) (fun hc30=>?_)
    .
     exact at_ (n+1) ⟨⟨by omega,fun j h hj=>by by_cases q:j=n;(subst q;exact hc30);exact n2 j h (by omega)⟩,(by omega)⟩
    .
     have hidx:lx hH m xs=n:=vp hH n1 n2 (fun h=>hc30);exact at_ () trivial
   .
    have hidx:lx hH m xs=n:=vp hH n1 n2 (fun h=>absurd h (by omega));exact at_ () trivial
  .
   obtain⟨n,hnx⟩: ∃n,lx hH m xs=n:=⟨_,rfl⟩;rw[hnx];have hnl:n<=xs.length:=by rw[<-hnx];exact D3 _ _ _
   refine jD (v1:=fun hg36=>by simp only[ak];kernel_rfl) J J J J (fun hg36=>?_) (fun hg36=>?_)
   .
    have hnew: ∀h:n<xs.length,hH xs[n] m≠0:=fun h=>absurd h (by omega);obtain⟨ys,hys⟩: ∃ys,ys=xs.take n++m::xs.drop n:=⟨_,rfl⟩;have hin:eE hH m xs=ys:=by rw[hys];exact tc hH hnx hnew
    have hyl:ys.length<=xs.length+1:=by rw[hys];simp;omega
    refine s3 n _ J J J J (ez _) (by rw[hxl];exact hnl) J<|ro J J<|kn n xs.length _ J J (by rw[hxl]) J (ez _) hnl (by omega) J<|ap _ J J (sC ez _ _ _) J<|kD (hv:=by simp only[ak];exact⟨by kernel_rfl,by omega⟩) (ho:=fun _=>⟨t6 ez _ _,by simp⟩) (ys.map eL) J (by rw[hys,aL,bU,iU,iN,cX (l:=xs.map eL) (i:=xs.length) (by simp)];rfl) (uh ez _ _ _ _) J<|at_ ⟨ys,k+1⟩ (by dsimp only;exact⟨⟨by rw[yu hz,<-hS,<-hmc];exact hin.symm,by omega⟩,(by omega)⟩)
   .
    refine ix _ J (tg) J<|cl J (Di (l:=xs[n]'(by omega)) (m:=m) (hl:=hxb _ (dX (by omega))) (hm:=hmb)) J<|br J J J (fun hc45=>?_) (fun hc45=>?_)
    .
     have hnew: ∀h:n<xs.length,hH xs[n] m≠0:=fun h=>hc45;obtain⟨ys,hys⟩: ∃ys,ys=xs.take n++m::xs.drop n:=⟨_,rfl⟩;have hin:eE hH m xs=ys:=by rw[hys];exact tc hH hnx hnew
     have hyl:ys.length<=xs.length+1:=by rw[hys];simp;omega
     refine s3 n _ J J J J (ez _) (by rw[hxl];exact hnl) J<|ro J J<|kn n xs.length _ J J (by rw[hxl]) J (ez _) hnl (by omega) J<|ap _ J J (sC ez _ _ _) J<|kD (hv:=by simp only[ak];exact⟨by kernel_rfl,by omega⟩) (ho:=fun _=>⟨t6 ez _ _,by simp⟩) (ys.map eL) J (by rw[hys,aL,bU,iU,iN,cX (l:=xs.map eL) (i:=xs.length) (by simp)];rfl) (uh ez _ _ _ _) J<|at_ ⟨ys,k+1⟩ (by dsimp only;exact⟨⟨by rw[yu hz,<-hS,<-hmc];exact hin.symm,by omega⟩,(by omega)⟩)
    .
     have hin:eE hH m xs=xs:=A4 hH hnx (by omega) (Decidable.not_not.1 hc45);exact at_ ⟨xs,k+1⟩ (by dsimp only;exact⟨⟨by rw[yu hz,<-hS,<-hmc];exact hin.symm,by omega⟩,(by omega)⟩)
 .
  have hfin:ng ls=xs:=by rw[hS,OE];rfl
  exact rz J (by rw[hfin];rfl)
def EW{α:Type}{c:α->α->Int}(hc: ∀u x,c u x=0->u=x){x y:α}: ∀{xs:List α},y=x\/y∈xs->y∈eE c x xs
 |[],h=>by
  rcases h with rfl|h
  .rw[eE];exact aU.2 J
  .cases h
 |u::t,h=>by
  rw[eE];split
  .rcases h with rfl|h
   .exact aJ _ (EW hc (.inl J))
   .rcases aW.1 h with rfl|h
    .exact aQ
    .exact aJ _ (EW hc (.inr h))
  .split
   .rename_i h0
    rcases h with rfl|h
    .rw[<-hc _ _ h0];exact aQ
    .exact h
   .rcases h with rfl|h
    .exact aQ
    .exact aJ _ h
def SF{α:Type}{c:α->α->Int}(hc: ∀u x,c u x=0->u=x){y:α}: ∀{l o:List α},y∈l\/y∈o->y∈l.foldl (fun out x=>eE c x out) o
 |[],o,h=>h.elim (fun h=>by cases h) id
 |x::t,o,h=>by
  refine SF hc (l:=t) ?_;rcases h with h|h
  .rcases aW.1 h with rfl|h
   .exact .inr (EW hc (.inl J))
   .exact .inl h
  .exact .inr (EW hc (.inr h))
def PP{x:aa}(h:x∈ls):x.canon∈ng ls:=
 SF (fun u x e=>(Bj u x).1 e) (.inl (dT h))
def Kd(l:aa)(p:ah):l.canon.value p=l.value p\/l.canon.value p= -l.value p:=by
 unfold aa.canon;split
 .exact .inr (fe l p)
 .exact .inl J
def IK:dB (ng ls) p↔dB ls p:=by
 constructor
 .intro h l hl e
  have:=h _ (PP hl);rcases Kd l p with k|k<;>rw[k,e] at this<;>exact this (by simp)
 .intro h l hl e
  obtain⟨x,hx,rfl⟩:=Ee hl;have:=h x hx;rcases Kd x p with k|k<;>rw[k] at e
  .exact this e
  .exact this (by grind)
def Yf{q:ah}(hp:dB ls p)(hq:dB ls q)(h: ∀l∈ng ls,0<l.value p↔0<l.value q): ∀l∈ls,0<l.value q↔0<l.value p:=fun l hl=>by
 have h1:=h _ (PP hl);have h2:=hp l hl;have h3:=hq l hl;unfold aa.canon at h1;split at h1
 .rw[fe,fe] at h1
  constructor
  .intro k
   rcases j0 (l.value p) with e|e|e
   .exact absurd e h2
   .exact e
   .have:=h1.1 (by grind);grind
  .intro k
   rcases j0 (l.value q) with e|e|e
   .exact absurd e h3
   .exact e
   .have:=h1.2 (by grind);grind
 .exact h1.symm
def n9(a b:Tr):List ah:=oI (ng (a.lns++b.lns))
def aDa(ha:a.all aa.ok)(hb:b.all aa.ok){R:Bool->Bool->Prop}:(∀p∈n9 a b,R (jI a p) (jI b p))↔ ∀p,dB (a.lns++b.lns) p->R (a.val p) (b.val p):=by
 have hok: ∀l∈a.lns++b.lns,l.ok:=fun l hl=>(bJ.1 hl).elim (vy ha l) (vy hb l);have hne: ∀l∈ng (a.lns++b.lns),l.Ne:=fun l hl=>by
  obtain⟨x,hx,rfl⟩:=Ee hl;exact(Lh (hok x hx)).ne
 constructor
 .intro h p hp
  obtain⟨q,hq,hs⟩:=axd hne (IK.2 hp);have ho:=IK.1 (Qz hne hq);have hsd:=Yf hp ho hs;have k:=h q hq;rw[xv (dB.app.1 ho).1,xv (dB.app.1 ho).2,DW (t:=a) hsd (fun l hl=>bR _ hl),DW (t:=b) hsd (fun l hl=>bV _ hl)] at k;exact k
 .intro h p hp
  have ho:=IK.1 (Qz hne hp);rw[xv (dB.app.1 ho).1,xv (dB.app.1 ho).2];exact h p ho
def s6(a b:Tr):Bool:=(n9 a b).all fun p=>jI a p==jI b p
def Xq(ha:a.all aa.ok)(hb:b.all aa.ok):s6 a b=Fo 4 a b:=by
 rw[qL,(uK.mk0 ha hb).none,s6,dJ,aDa ha hb (R:=fun x y=>(x==y)=true)];unfold uT;simp
def Vm(ha:a.all aa.ok)(hb:b.all aa.ok)(hL: ∀l∈L,l.ok)(hLa: ∀l∈a.lns,l∈L)(hLb: ∀l∈b.lns,l∈L)(h: ∀p,dB L p->a.val p=b.val p):s6 a b=true:=by
 rw[Xq ha hb,(uK.mk ha hb hL hLa hLb).none];intro p hp;rw[h p hp];unfold uT;simp
def d9.trans{u v w:ah}(hu:u.half≠0)(hv:v.half≠0)(hw:w.half≠0)(h:d9 u v)(k:d9 v w):d9 u w:=by
 rcases h with h|⟨h,h'⟩<;>rcases k with k|⟨k,k'⟩
 .exact .inl (by omega)
 .exact .inl (by omega)
 .exact .inl (by omega)
 .refine .inr ⟨h.trans k,?_⟩
  have id1:u.cross w*v.y=u.cross v*w.y+v.cross w*u.y:=by unfold ah.cross;grind
  rcases uj v with⟨x,q⟩|⟨x,q⟩|⟨x,q⟩
  .rw[x] at h k
   have qu:=ow.1 h;have qw:=ow.1 k.symm;rcases q with q|⟨q,q'⟩
   .rw[<-f8 q,id1]
    have wy:0<=w.y:=by grind
    have uy:0<=u.y:=by grind
    have a1:=cG (dQ h') wy;rcases qu with qu|⟨qu,qu'⟩
    .have:=dd k' qu;grind
    .rcases qw with qw|⟨qw,qw'⟩
     .have:=dd h' qw;rw[qu];grind
     .exfalso
      have hx:v.cross w= -(w.x*v.y):=by unfold ah.cross;rw[qw];grind
      have:=dd qw' q;grind
   .exfalso
    have hx:u.cross v= -(v.x*u.y):=by unfold ah.cross;rw[q];grind
    have:=cG (a:=v.x) (b:=u.y) (dQ q') (by grind);grind
  .rw[x] at h k
   have qu:=vj.1 h;have qw:=vj.1 k.symm;rcases q with q|⟨q,q'⟩
   .have e1:u.cross w* -v.y=u.cross v* -w.y+v.cross w* -u.y:=by grind
    rw[<-f8 (k:= -v.y) (by grind),e1];have a1:=cG (a:=u.cross v) (b:= -w.y) (dQ h') (by grind);rcases qu with qu|⟨qu,qu'⟩
    .have:=dd (a:=v.cross w) (b:= -u.y) k' (by grind);grind
    .rcases qw with qw|⟨qw,qw'⟩
     .have:=dd (a:=u.cross v) (b:= -w.y) h' (by grind);rw[qu];grind
     .exfalso
      have hx:v.cross w= -(-w.x* -v.y):=by unfold ah.cross;rw[qw];grind
      have:=dd (a:= -w.x) (b:= -v.y) (by grind) (by grind);grind
   .exfalso
    have hx:u.cross v= -(-v.x* -u.y):=by unfold ah.cross;rw[q];grind
    have:=cG (a:= -v.x) (b:= -u.y) (by grind) (by grind);grind
  .exact absurd x hv
def Cb(h:l.ok):l.dir.half≠0:=fun e=>by
 have hn:=h.ne;unfold aa.Ne at hn;rcases uj l.dir with⟨k,_⟩|⟨k,_⟩|⟨_,k1,k2⟩
 .rw[k] at e;cases e
 .rw[k] at e;cases e
 .unfold aa.dir at k1 k2
  simp only at k1 k2;apply hn;refine⟨?_,cY.1 k2⟩;have:(l.a:Rat)=0:=by grind
  exact cY.1 this
def ayQ{v:ah}:gc u v=0↔u.half=v.half/\u.cross v=0:=by
 unfold gc;split
 .constructor
  .intro h;exact absurd h (by decide)
  .intro h;omega
 .split
  .constructor
   .intro h;exact absurd h (by decide)
   .intro h;omega
  .constructor
   .intro h
    exact⟨by omega,(o9 _).1 (by omega)⟩
   .intro h
    rw[(o9 _).2 h.2];rfl
def AV{v w:ah}(h:d9 u v)(k:d9 v w):d9 u w:=by
 by_cases hu:u.half=0
 .by_cases hw:w.half=0
  .have z: ∀x y:ah,x.half=0->x.cross y=0:=fun x y hx=>by
    rcases uj x with⟨e,_⟩|⟨e,_⟩|⟨_,e1,e2⟩
    .rw[hx] at e;exact absurd e (by decide)
    .rw[hx] at e;exact absurd e (by decide)
    .unfold ah.cross;rw[e1,e2];grind
   rcases h with h|⟨h,h'⟩
   .rcases k with k|⟨k,k'⟩
    .omega
    .have hv:v.half≠0:=by omega
     omega
   .rw[z u v hu] at h';exact absurd h' (by decide)
  .refine .inl ?_
   have h1:=od hw;omega
 .have hv:v.half≠0:=by
   intro e;rcases h with h|⟨h,_⟩
   .have:=od hu;omega
   .omega
  have hw:w.half≠0:=by
   intro e;rcases k with k|⟨k,_⟩
   .have:=od hv;omega
   .omega
  exact d9.trans hu hv hw h k
section
variable (c:α->α->Int)
end
def wl(u:ah): ¬d9 u u:=by
 rintro (h|⟨_,h⟩)
 .omega
 .have:u.cross u=0:=by unfold ah.cross;grind
  rw[this] at h;exact absurd h (by decide)
def zr{v:ah}(h:d9 u v)(k:d9 v u):False:=wl u (AV h k)
def KX{x y:ah}(h: ¬d9 x y)(k: ¬d9 y x):gc x y=0:=by
 rw[<-xj] at h k;unfold gc at*;split at h<;>try omega
 split at h<;>try omega
 split at k<;>try omega
 rw[show y.cross x= -(x.cross y) by unfold ah.cross;grind,oZ,Int.sign_neg] at k;omega
def yf(vs:List ar):cE 8 (vs.map eV):=fun d hd=>by
 obtain⟨u,_,rfl⟩:=aT.1 hd;exact⟨rfl,rfl⟩
def eu(qs:List Rat):cE 3 (qs.map eQ):=fun d hd=>by
 obtain⟨u,_,rfl⟩:=aT.1 hd;exact⟨rfl,rfl⟩
def Ld(bs:List Bool):cE 1 (bs.map vB):=fun d hd=>by
 obtain⟨u,_,rfl⟩:=aT.1 hd;exact⟨rfl,rfl⟩
def S3{l:List ar}{a b:Int}(h:l[k]? =some v)(ha:a=if v.nl then 1 else bw t v.lo)(hb:b=if v.nh then-1 else bw t v.hi):
  vg (l.drop k) t=if 0<a/\b<0 then 2 else if(a=0/\b<=0)\/(b=0/\0<=a) then 1 else vg (l.drop (k+1)) t:=by
 obtain⟨hk,rfl⟩:=aR.1 h;rw[bX hk,vg,ha,hb]
structure ni (v:ar):Prop where
 lo:BQ v.lo 1200
 hi:BQ v.hi 1200
def VX{l:List ar}[ht:BQ t i](hb: ∀v∈l,ni v)(hn:l.length<=100000)(hi:i<=20000:=by decide):PF GB prog 332 [.sl (l.map eV),eQ t] (vI (vg l t)):=by
 have hm:=eh eV l;refine fn (fu:=⟨11⟩) func332 J J ntmps332 J J (fun C=>?_);refine aj 10 (.d (vI (l.length:Nat))) J (by rw[hm]<;>rfl)<|gx J<|lp (X:=Nat) (fun k=>[(11, .d (vI (k:Nat)))]) (fun k=>[]) (fun k=>k<=l.length/\vg (l.drop k) t=vg l t) (fun k=>l.length-k) 0 J ⟨aM _,J⟩ (fun _=>J) (fun k hk=>?_);obtain⟨h1,h2⟩:=hk;refine br J J J (fun hc12=>?_) (fun hc12=>?_)
 .
  obtain⟨v,hz⟩: ∃s,l[k]? =some s:=⟨_,aZ (by omega)⟩;have hv:=hb v (aK hz);haveI:=hv.lo;haveI:=hv.hi;refine ix (fu:=⟨12⟩) _ J (cg hz) J<|mg (fu:=⟨1⟩) (X:=Int) (fun a=>[(7, .d (vI a))]) (fun a=>[]) (fun a=>a=if v.nl then 1 else bw t v.lo) [7] [] rfl ?_ (fun _=>J) (fun a ha=>?_)
  .
   refine gx J<|bb J J J (fun hc17=>?_) (fun hc17=>?_)
   .
    refine cl J (ki (a:=t) (b:=v.lo) (i:=i) (by omega)) J<|at_ (bw t v.lo) (by rw[if_neg (by simpa using hc17)])
   .
    exact at_ 1 (by rw[if_pos (by simpa using hc17)])
  .
   refine mg (X:=Int) (fun b=>[(8, .d (vI b))]) (fun b=>[]) (fun b=>b=if v.nh then-1 else bw t v.hi) [8] [] rfl ?_ (fun _=>J) (fun b hb'=>?_)
   .
    refine gx J<|bb J J J (fun hc24=>?_) (fun hc24=>?_)
    .
     refine cl J (ki (a:=t) (b:=v.hi) (i:=i) (by omega)) J<|at_ (bw t v.hi) (by rw[if_neg (by simpa using hc24)])
    .
     exact at_ (-1) (by rw[if_pos (by simpa using hc24)])
   .
    have hst:=S3 hz ha hb';refine cs 31 J J J (fun hg31=>?_) (fun hg31=>?_)
    .
     refine br J J J (fun hc34=>?_) (fun hc34=>?_)
     .
      exact rz J (by first|(rw[<-h2,fL];rfl)|(rw[<-h2,hst,if_pos (by omega)];rfl)|(rw[<-h2,hst,if_neg (by omega),if_pos (by omega)];rfl))
     .
      refine cs 37 J J J (fun hg37=>?_) (fun hg37=>?_)
      .
       refine cs 41 J J J (fun hg41=>?_) (fun hg41=>?_)
       .
        exact rz J (by first|(rw[<-h2,fL];rfl)|(rw[<-h2,hst,if_pos (by omega)];rfl)|(rw[<-h2,hst,if_neg (by omega),if_pos (by omega)];rfl))
       .
        refine cs 44 J J J (fun hg44=>?_) (fun hg44=>?_)
        .
         refine br J J J (fun hc48=>?_) (fun hc48=>?_)
         .
          exact rz J (by first|(rw[<-h2,fL];rfl)|(rw[<-h2,hst,if_pos (by omega)];rfl)|(rw[<-h2,hst,if_neg (by omega),if_pos (by omega)];rfl))
         .
          exact at_ (k+1) ⟨⟨by omega,by rw[<-h2,hst,if_neg (by omega),if_neg (by omega)]⟩,(by omega)⟩
        .
         exact at_ (k+1) ⟨⟨by omega,by rw[<-h2,hst,if_neg (by omega),if_neg (by omega)]⟩,(by omega)⟩
      .
       refine cs 44 J J J (fun hg44=>?_) (fun hg44=>?_)
       .
        refine br J J J (fun hc48=>?_) (fun hc48=>?_)
        .
         exact rz J (by first|(rw[<-h2,fL];rfl)|(rw[<-h2,hst,if_pos (by omega)];rfl)|(rw[<-h2,hst,if_neg (by omega),if_pos (by omega)];rfl))
        .
         exact at_ (k+1) ⟨⟨by omega,by rw[<-h2,hst,if_neg (by omega),if_neg (by omega)]⟩,(by omega)⟩
       .
        exact at_ (k+1) ⟨⟨by omega,by rw[<-h2,hst,if_neg (by omega),if_neg (by omega)]⟩,(by omega)⟩
    .
     refine cs 37 J J J (fun hg37=>?_) (fun hg37=>?_)
     .
      refine cs 41 J J J (fun hg41=>?_) (fun hg41=>?_)
      .
       exact rz J (by first|(rw[<-h2,fL];rfl)|(rw[<-h2,hst,if_pos (by omega)];rfl)|(rw[<-h2,hst,if_neg (by omega),if_pos (by omega)];rfl))
      .
       refine cs 44 J J J (fun hg44=>?_) (fun hg44=>?_)
       .
        refine br J J J (fun hc48=>?_) (fun hc48=>?_)
        .
         exact rz J (by first|(rw[<-h2,fL];rfl)|(rw[<-h2,hst,if_pos (by omega)];rfl)|(rw[<-h2,hst,if_neg (by omega),if_pos (by omega)];rfl))
        .
         exact at_ (k+1) ⟨⟨by omega,by rw[<-h2,hst,if_neg (by omega),if_neg (by omega)]⟩,(by omega)⟩
       .
        exact at_ (k+1) ⟨⟨by omega,by rw[<-h2,hst,if_neg (by omega),if_neg (by omega)]⟩,(by omega)⟩
     .
      refine cs 44 J J J (fun hg44=>?_) (fun hg44=>?_)
      .
       refine br J J J (fun hc48=>?_) (fun hc48=>?_)
       .
        exact rz J (by first|(rw[<-h2,fL];rfl)|(rw[<-h2,hst,if_pos (by omega)];rfl)|(rw[<-h2,hst,if_neg (by omega),if_pos (by omega)];rfl))
       .
        exact at_ (k+1) ⟨⟨by omega,by rw[<-h2,hst,if_neg (by omega),if_neg (by omega)]⟩,(by omega)⟩
      .
       exact at_ (k+1) ⟨⟨by omega,by rw[<-h2,hst,if_neg (by omega),if_neg (by omega)]⟩,(by omega)⟩
 .
  obtain rfl:k=l.length:=by omega
  exact rz J (by first|(rw[<-h2,fL];rfl)|(rw[<-h2,hst,if_pos (by omega)];rfl)|(rw[<-h2,hst,if_neg (by omega),if_pos (by omega)];rfl))
def NW{l:List ar}[ht:BQ t i](hb: ∀v∈l,ni v)(hn:l.length<=100000)(hi:i<=20000:=by decide):PF GB prog 317 [.sl (l.map eV),eQ t] (vB (gn l t)):=by
 refine fn func317 J J ntmps317 J J (fun C=>?_);refine cl J (VX (l:=l) (t:=t) hb hn hi) J<|rz J J
def Gf: ∀{l:List Rat} {i:Nat} {a b:Rat},l[i]? =some a->l[i+1]? =some b->iC (l.take (i+2))=iC (l.take (i+1))++[(a+b)/2]
 |[],i,a,b,h,_=>by simp at h
 |[_],i,a,b,h,k=>by simp at k
 |c::d::t,0,a,b,h,k=>by
  simp at h k;subst h;subst k;simp[iC]
 |c::d::t,i+1,a,b,h,k=>by
  have:=Gf (l:=d::t) (i:=i) (by simpa using h) (by simpa using k);rw[show(c::d::t).take (i+1+2)=c::d::t.take (i+1) by simp,show(c::d::t).take (i+1+1)=c::d::t.take i by simp,iC,iC,gN];congr 1
def AM: ∀l:List Rat,(iC l).length<=l.length
 |[]=>bW _
 |[_]=>aM _
 |a::b::t=>by rw[iC,bZ,bZ];exact Nat.succ_le_succ (AM (b::t))
def Of{a:Rat}{t:List Rat}{z:Rat}(h:(a::t)[t.length]? =some z):cj (a::t)=(a-1)::(iC (a::t)++[z+1]):=by
 rw[cj];have:(a::t).getLast (by simp)=z:=by
  rw[List.getLast_eq_getElem];have:=aR.1 h;obtain⟨h1,h2⟩:=this;rw[<-h2];congr 1
 rw[this]
def axs(hb: ∀q∈cuts,BQ q 1200)(hn:cuts.length<=100000):PF GB prog 316 [.sl (cuts.map eQ)] (.sl ((cj cuts).map eQ)):=by
 have hm:=eh eQ cuts;refine fn (fu:=⟨10⟩) func316 J J ntmps316 J J (fun C=>?_);refine aj 6 (.d (vI (cuts.length:Nat))) J (by rw[hm]<;>rfl)<|gx J<|br J J J (fun hc7=>?_) (fun hc7=>?_)
 .
  obtain rfl:cuts=[]:=cV (by omega);refine rf J J<|rz J (by rw[cj];show DV.sl [_]=DV.sl [_];rw[Gm])
 .
  obtain⟨a,ct,rfl⟩: ∃a t,cuts=a::t:=by cases cuts with|nil=>exact absurd rfl hc7|cons a t=>exact⟨a,t,rfl⟩
  haveI hab:=hb a aQ;have hcl:ct.length+1<=100000:=hn;refine ix _ J J J<|cl J (iD (n:=1)) J<|cl (fu:=⟨0⟩) J (qO (a:=a) (b:=((1:Int):Rat))) J<|aj 14 (.d (eQ (a-1))) J J<|gx J<|ro J J<|lp (fu:=⟨6⟩) (X:=Nat) (fun i=>[(4, .d (vI ((i+1:Nat):Int))),(3, .rw 15)]) (fun i=>[(15,some (.b 50 3 (((a-1)::iC ((a::ct).take (i+1))).map eQ) true))]) (fun i=>i<=ct.length) (fun i=>ct.length-i) 0 J (aM _) (fun _=>J) (fun i hk=>?_);have hm2:=eh eQ (a::ct);have hml:=AM (a::ct.take i);rw[bZ,bT] at hml;have hml2:=AM (a::ct);rw[bZ] at hml2;refine aj 18 (.d (vI ((ct.length+1:Nat):Int))) J (by rw[hm2]<;>rfl)<|gx J<|br (fu2:=⟨11⟩) J J J (fun hc19=>?_) (fun hc19=>?_)
  .
   obtain⟨u,hu⟩: ∃s,(a::ct)[i]? =some s:=⟨_,aZ (by simp;omega)⟩;obtain⟨w,hw⟩: ∃s,(a::ct)[i+1]? =some s:=⟨_,aZ (by simp;omega)⟩;haveI:=hb u (aK hu);haveI:=hb w (aK hw);refine ix _ J (by rw[show((((i+1:Nat):Int))-1).toNat=i by omega,cR,hu];rfl) J<|ix _ J (by rw[bM,cR,hw];rfl) J<|?_;refine cl J (D6 (a:=u) (b:=w)) J<|rf J J<|ap (hv:=by simp only[ak];exact⟨by kernel_rfl,by omega⟩) (((a-1)::iC ((a::ct).take (i+1+1))).map eQ) J (by rw[Gf hu hw,<-gN,aL];rfl) (eu [(u+w)/2]) J<|d6 34 15 J<|at_ (i+1) ⟨(by omega),(by omega)⟩
  .
   obtain rfl:i=ct.length:=by omega
   obtain⟨z,hz⟩: ∃s,(a::ct)[ct.length]? =some s:=⟨_,aZ (by simp)⟩;haveI:=hb z (aK hz);rw[show(a::ct).take (ct.length+1)=a::ct from cS (l:=a::ct)];refine aj 38 (.d (vI ((ct.length+1:Nat):Int))) J (by rw[hm2]<;>rfl)<|gx J<|ix _ J (by rw[show((((ct.length+1:Nat):Int))-1).toNat=ct.length by omega,cR,hz];rfl) J<|cl J (iD (n:=1)) J<|?_;refine cl J (ml (a:=z) (b:=((1:Int):Rat))) J<|rf J J<|ap ((cj (a::ct)).map eQ) J (by rw[Of hz,<-gN,aL];rfl) (eu [z+1]) J<|gp 45 J<|rz J J
def Q8(o:List Rat)(s:ar):(oe o s).length<=o.length+2:=by
 unfold oe;have h:=fun(x:Rat) (l:List Rat)=>yz (x:=x) (l:=l)▸Dw bw x l;have h1:=h s.lo o;have h2:=h s.hi o;have h3:=h s.hi (ke s.lo o);split<;>split<;>omega
def p8(l:List ar)(k:Nat):List Rat:=jy (l.take k)
def OG{l:List ar}(h:l[k]? =some v):p8 l (k+1)=oe (p8 l k) v:=by
 unfold p8 jy;rw[dZ,h,mL];rfl
def Fg(l:List ar): ∀k,(p8 l k).length<=2*k
 |0=>bW _
 |k+1=>by
  cases h:l[k]? with
  |none=>
   have:=Fg l k;unfold p8 at*;rw[dZ,h];simp;omega
  |some v=>rw[OG h];have:=Fg l k;have:=Q8 (p8 l k) v;omega
theorem Ma{l:List ar}(hb: ∀v∈l,ni v): ∀y∈p8 l k,BQ y 1200:=fun y hy=>by
 obtain⟨s,hs,h⟩:=(O0 _).2 y hy;have:=hb s (eM hs);rcases h with⟨_,rfl⟩|⟨_,rfl⟩
 .exact this.lo
 .exact this.hi
def rO(o:List Rat)(v:ar)(j:Nat):List Rat:=if j=0 then o else if j=1 then(if v.nl then o else ke v.lo o) else oe o v
def Ar(v:ar)(j:Nat):Rat:=if j=0 then v.lo else v.hi
def px(v:ar)(j:Nat):Bool:=if j=0 then v.nl else v.nh
def ue(hj:j<2:=by decide):rO o v (j+1)=if px v j then rO o v j else eE bw (Ar v j) (rO o v j):=by
 have:j=0\/j=1:=by omega
 rcases this with rfl|rfl
 .simp[rO,px,Ar,yz]
 .simp[rO,px,Ar,oe,yz]
def axA(hj:j<=2):(rO o v j).length<=o.length+2:=by
 unfold rO;have:=Q8 o v;have h:=yz (x:=v.lo) (l:=o)▸Dw bw v.lo o;split
 .omega
 .split
  .split<;>omega
  .exact this
theorem U6(ho: ∀q∈o,BQ q 1200)(hv:ni v)(hj:j<=2): ∀q∈rO o v j,BQ q 1200:=fun q hq=>by
 unfold rO oe at hq;have lo:=hv.lo;have hi:=hv.hi;split at hq
 .exact ho q hq
 .split at hq
  .split at hq
   .exact ho q hq
   .rcases qa.1 hq with rfl|hq
    .exact lo
    .exact ho q hq
  .split at hq
   .split at hq
    .exact ho q hq
    .rcases qa.1 hq with rfl|hq
     .exact lo
     .exact ho q hq
   .rcases qa.1 hq with rfl|hq
    .exact hi
    .split at hq
     .exact ho q hq
     .rcases qa.1 hq with rfl|hq
      .exact lo
      .exact ho q hq
def Tn{l:List ar}(hb: ∀v∈l,ni v)(hn:l.length<=10000):PF GB prog 315 [.sl (l.map eV)] (.sl ((jy l).map eQ)):=by
 have hm:=eh eV l;refine fn (fu:=⟨15⟩) func315 J J ntmps315 J J (fun C=>?_);refine aj 10 (.d (vI (l.length:Nat))) J (by rw[hm]<;>rfl)<|gx J<|Av 3 J<|lp (X:=List Rat×Nat) (fun⟨o,k⟩=>[(11, .d (vI (k:Nat))),(3, .d (.sl (o.map eQ)))]) (fun⟨o,k⟩=>[]) (fun⟨o,k⟩=>o=p8 l k/\k<=l.length) (fun⟨o,k⟩=>l.length-k) ([],0) J ⟨J,aM _⟩ (fun _=>J) (fun⟨o,k⟩ hk=>?_);dsimp only at hk⊢;obtain⟨h1,h2⟩:=hk;refine br J J J (fun hc12=>?_) (fun hc12=>?_)
 .
  obtain⟨v,hz⟩: ∃s,l[k]? =some s:=⟨_,aZ (by omega)⟩;have hv:=hb v (aK hz);haveI:=hv.lo;haveI:=hv.hi;have hob:=Ma hb (k:=k);have hol:=Fg l k;rw[<-h1] at hob hol;refine ix _ J (cg hz) J<|rf J J<|lp (X:=List Rat×Nat) (fun⟨xs,j⟩=>[(21, .d (vI (j:Nat))),(3, .d (.sl (xs.map eQ)))]) (fun⟨xs,j⟩=>[]) (fun⟨xs,j⟩=>xs=rO o v j/\j<=2) (fun⟨xs,j⟩=>2-j) (o,0) J ⟨J,by omega⟩ (fun _=>J) (fun⟨xs,j⟩ hk=>?_);dsimp only at hk⊢;obtain⟨g1,g2⟩:=hk;refine br J J J (fun hc22=>?_) (fun hc22=>?_)
  .
   have hj2:j<2:=by have:=hc22;simp only[bZ,eY] at this;omega
   obtain⟨m,hm2⟩: ∃m,m=Ar v j:=⟨_,rfl⟩;haveI hmb:BQ m 1200:=by rw[hm2];unfold Ar;split;exact hv.lo;exact hv.hi
   have hxl:=eh eQ xs;have hxn:xs.length<=2*k+2:=by rw[g1];have:=axA (o:=o) (v:=v) (j:=j) g2;omega
   have hxb: ∀q∈xs,BQ q 1200:=by rw[g1];exact U6 hob hv g2
   refine ix (fu:=⟨10⟩) _ rfl (by rw[bM];exact(show([v.lo,v.hi].map eQ)[j]? =some (eQ m) by rw[hm2];have:j=0\/j=1:=(by omega);rcases this with rfl|rfl<;>rfl)) rfl<|?_;rcases(show j=0\/j=1 by omega) with rfl|rfl
   .
    refine dP J J J<|iF (fu2:=⟨1⟩) 32 J J J (fun hg32=>?_) (fun hg32=>?_)
    .
     exact at_ (xs,0+1) (by dsimp only;exact⟨⟨by rw[ue,if_pos (by simpa[px] using hg32),<-g1],by omega⟩,(by omega)⟩)
    .
     refine cC (fu:=⟨16⟩) J J J<|mg (fu:=⟨5⟩) (X:=Nat) (fun n=>[(8, .d (vI (n:Nat)))]) (fun n=>[]) (fun n=>lx bw m xs=n) [8] [] rfl ?_ (fun _=>J) (fun n hnx=>?_)
     .
      refine gx J<|lp (fu:=⟨6⟩) (X:=Nat) (fun n=>[(8, .d (vI (n:Nat)))]) (fun n=>[]) (fun n=>n<=xs.length/\ ∀j (h:j<xs.length),j<n->bw xs[j] m<0) (fun n=>xs.length-n) 0 J ⟨aM _,fun j _ hj=>absurd hj (by omega)⟩ (fun _=>J) (fun n hk=>?_);obtain⟨n1,n2⟩:=hk;refine jD (v2:=fun hg43=>by simp only[ak];kernel_rfl) J J J J (fun hg43=>?_) (fun hg43=>?_)
      .
       refine ix _ J (tg) J<|cl J (ki (a:=xs[n]'(by omega)) (b:=m) (ha:=hxb _ (dX (by omega))) (hb:=hmb)) J<|br J J J (fun hc52=>?_) (fun hc52=>?_)
       .
        exact at_ (n+1) ⟨⟨by omega,fun j h hj=>by by_cases q:j=n;(subst q;exact hc52);exact n2 j h (by omega)⟩,(by omega)⟩
       .
        exact at_ n (vp bw n1 n2 (fun h=>hc52))
      .
       exact at_ n (vp bw n1 n2 (fun h=>absurd h (by omega)))
     .
      have hnl:n<=xs.length:=by rw[<-hnx];exact D3 _ _ _
      refine jD (v1:=fun hg58=>by simp only[ak];kernel_rfl) J J J J (fun hg58=>?_) (fun hg58=>?_)
      .
       have hnew: ∀h:n<xs.length,bw xs[n] m≠0:=fun h=>absurd h (by omega);obtain⟨ys,hys⟩: ∃ys,ys=xs.take n++m::xs.drop n:=⟨_,rfl⟩;have hin:eE bw m xs=ys:=by rw[hys];exact tc bw hnx hnew
       have hyl:ys.length<=xs.length+1:=by rw[hys];simp;omega
       refine s3 n _ J J J J (eu _) (by rw[hxl];exact hnl) J<|ro J J<|kn n xs.length _ J J (by rw[hxl]) J (eu _) hnl (by omega) J<|ap _ J J (sC eu _ _ _) J<|kD (hv:=by simp only[ak];exact⟨by kernel_rfl,by omega⟩) (ho:=fun _=>⟨t6 eu _ _,by simp⟩) (ys.map eQ) J (by rw[hys,aL,bU,iU,iN,cX (l:=xs.map eQ) (i:=xs.length) (by simp)];rfl) (uh eu _ _ _ _) J<|at_ (ys,0+1) (by dsimp only;exact⟨⟨by rw[ue,if_neg (by simpa[px] using hg32),<-g1,<-hm2,hin],by omega⟩,(by omega)⟩)
      .
       refine ix _ J (tg) J<|cl J (ki (a:=xs[n]'(by omega)) (b:=m) (ha:=hxb _ (dX (by omega))) (hb:=hmb)) J<|br (fu2:=⟨7⟩) J J J (fun hc67=>?_) (fun hc67=>?_)
       .
        have hnew: ∀h:n<xs.length,bw xs[n] m≠0:=fun h=>hc67;obtain⟨ys,hys⟩: ∃ys,ys=xs.take n++m::xs.drop n:=⟨_,rfl⟩;have hin:eE bw m xs=ys:=by rw[hys];exact tc bw hnx hnew
        have hyl:ys.length<=xs.length+1:=by rw[hys];simp;omega
        refine s3 n _ J J J J (eu _) (by rw[hxl];exact hnl) J<|ro J J<|kn n xs.length _ J J (by rw[hxl]) J (eu _) hnl (by omega) J<|ap _ J J (sC eu _ _ _) J<|kD (hv:=by simp only[ak];exact⟨by kernel_rfl,by omega⟩) (ho:=fun _=>⟨t6 eu _ _,by simp⟩) (ys.map eQ) J (by rw[hys,aL,bU,iU,iN,cX (l:=xs.map eQ) (i:=xs.length) (by simp)];rfl) (uh eu _ _ _ _) J<|at_ (ys,0+1) (by dsimp only;exact⟨⟨by rw[ue,if_neg (by simpa[px] using hg32),<-g1,<-hm2,hin],by omega⟩,(by omega)⟩)
       .
        have hin:eE bw m xs=xs:=A4 bw hnx (by omega) (Decidable.not_not.1 hc67);exact at_ (xs,0+1) (by dsimp only;exact⟨⟨by rw[ue,if_neg (by simpa[px] using hg32),<-g1,<-hm2,hin],by omega⟩,(by omega)⟩)
   .
    refine cC (fu:=⟨6⟩) J J J<|dP J J J<|bb (fu2:=⟨8⟩) J J J (fun hc39=>?_) (fun hc39=>?_)
    .
     exact at_ (xs,1+1) (by dsimp only;exact⟨⟨by rw[ue,if_pos (by simpa[px] using hc39),<-g1],by omega⟩,(by omega)⟩)
    .
     refine mg (fu:=⟨5⟩) (X:=Nat) (fun n=>[(8, .d (vI (n:Nat)))]) (fun n=>[]) (fun n=>lx bw m xs=n) [8] [] rfl ?_ (fun _=>J) (fun n hnx=>?_)
     .
      refine gx J<|lp (fu:=⟨6⟩) (X:=Nat) (fun n=>[(8, .d (vI (n:Nat)))]) (fun n=>[]) (fun n=>n<=xs.length/\ ∀j (h:j<xs.length),j<n->bw xs[j] m<0) (fun n=>xs.length-n) 0 J ⟨aM _,fun j _ hj=>absurd hj (by omega)⟩ (fun _=>J) (fun n hk=>?_);obtain⟨n1,n2⟩:=hk;refine jD (v2:=fun hg43=>by simp only[ak];kernel_rfl) J J J J (fun hg43=>?_) (fun hg43=>?_)
      .
       refine ix _ J (tg) J<|cl J (ki (a:=xs[n]'(by omega)) (b:=m) (ha:=hxb _ (dX (by omega))) (hb:=hmb)) J<|br J J J (fun hc52=>?_) (fun hc52=>?_)
       .
        exact at_ (n+1) ⟨⟨by omega,fun j h hj=>by by_cases q:j=n;(subst q;exact hc52);exact n2 j h (by omega)⟩,(by omega)⟩
       .
        exact at_ n (vp bw n1 n2 (fun h=>hc52))
      .
       exact at_ n (vp bw n1 n2 (fun h=>absurd h (by omega)))
     .
      have hnl:n<=xs.length:=by rw[<-hnx];exact D3 _ _ _
      refine jD (v1:=fun hg58=>by simp only[ak];kernel_rfl) J J J J (fun hg58=>?_) (fun hg58=>?_)
      .
       have hnew: ∀h:n<xs.length,bw xs[n] m≠0:=fun h=>absurd h (by omega);obtain⟨ys,hys⟩: ∃ys,ys=xs.take n++m::xs.drop n:=⟨_,rfl⟩;have hin:eE bw m xs=ys:=by rw[hys];exact tc bw hnx hnew
       have hyl:ys.length<=xs.length+1:=by rw[hys];simp;omega
       refine s3 n _ J J J J (eu _) (by rw[hxl];exact hnl) J<|ro J J<|kn n xs.length _ J J (by rw[hxl]) J (eu _) hnl (by omega) J<|ap _ J J (sC eu _ _ _) J<|kD (hv:=by simp only[ak];exact⟨by kernel_rfl,by omega⟩) (ho:=fun _=>⟨t6 eu _ _,by simp⟩) (ys.map eQ) J (by rw[hys,aL,bU,iU,iN,cX (l:=xs.map eQ) (i:=xs.length) (by simp)];rfl) (uh eu _ _ _ _) J<|at_ (ys,1+1) (by dsimp only;exact⟨⟨by rw[ue,if_neg (by simpa[px] using hc39),<-g1,<-hm2,hin],by omega⟩,(by omega)⟩)
      .
       refine ix _ J (tg) J<|cl J (ki (a:=xs[n]'(by omega)) (b:=m) (ha:=hxb _ (dX (by omega))) (hb:=hmb)) J<|br J J J (fun hc67=>?_) (fun hc67=>?_)
       .
        have hnew: ∀h:n<xs.length,bw xs[n] m≠0:=fun h=>hc67;obtain⟨ys,hys⟩: ∃ys,ys=xs.take n++m::xs.drop n:=⟨_,rfl⟩;have hin:eE bw m xs=ys:=by rw[hys];exact tc bw hnx hnew
        have hyl:ys.length<=xs.length+1:=by rw[hys];simp;omega
        refine s3 n _ J J J J (eu _) (by rw[hxl];exact hnl) J<|ro J J<|kn n xs.length _ J J (by rw[hxl]) J (eu _) hnl (by omega) J<|ap _ J J (sC eu _ _ _) J<|kD (hv:=by simp only[ak];exact⟨by kernel_rfl,by omega⟩) (ho:=fun _=>⟨t6 eu _ _,by simp⟩) (ys.map eQ) J (by rw[hys,aL,bU,iU,iN,cX (l:=xs.map eQ) (i:=xs.length) (by simp)];rfl) (uh eu _ _ _ _) J<|at_ (ys,1+1) (by dsimp only;exact⟨⟨by rw[ue,if_neg (by simpa[px] using hc39),<-g1,<-hm2,hin],by omega⟩,(by omega)⟩)
       .
        have hin:eE bw m xs=xs:=A4 bw hnx (by omega) (Decidable.not_not.1 hc67);exact at_ (xs,1+1) (by dsimp only;exact⟨⟨by rw[ue,if_neg (by simpa[px] using hc39),<-g1,<-hm2,hin],by omega⟩,(by omega)⟩)
  .
   have hj2: ¬j<2:=by have:=hc22;simp only[bZ,eY] at this;omega
   exact at_ (xs,k+1) (by dsimp only;exact⟨⟨by rw[OG hz,<-h1,g1,show j=2 by omega];rfl,by omega⟩,(by omega)⟩)
 .
  have hfin:jy l=o:=by rw[h1,show k=l.length by omega];unfold p8;rw[cS]
  exact rz J (by rw[hfin];rfl)
def azQ(t:Rat):eV ⟨t,0,false,true⟩= .ag [.v (.bool (decide (t.num<0))),dN t.num.natAbs,dD t.den, .v (.bool false), .sl [], .sl [], .v (.bool false), .v (.bool true)]:=by
 unfold eV dD;simp only[show(0:Rat).num=0 from J,show(0:Rat).den=1 from J,lW,l9];rfl
def Vp(t:Rat):eV ⟨0,t,true,false⟩= .ag [.v (.bool false), .sl [], .sl [], .v (.bool (decide (t.num<0))),dN t.num.natAbs,dD t.den, .v (.bool true), .v (.bool false)]:=by
 unfold eV dD;simp only[show(0:Rat).num=0 from J,show(0:Rat).den=1 from J,lW,l9];rfl
def Ao(l m:aa)(side:Int):DV:= .tp [.sl ((jf l m side).map eV),vB (lI l m)]
def N3{m:aa}(h:crossI l m≠0):lI l m=false:=by unfold lI;rw[decide_eq_false];exact fun e=>h e.1
def SB{m:aa}(h:crossI l m=0):lI l m=decide ((m.value l.base).num.sign=0):=by unfold lI;simp[h]
def MY{m:aa}[hl:LB l][hm:LB m](hlo:l.ok)(hmo:m.ok)(hs:side=1\/side= -1):PF GB prog 285 [eL l,eL m,vI side] (Ao l m side):=by
 refine fn func285 J J ntmps285 J J (fun C=>?_);refine cl J (CF (l:=l) (m:=m)) J<|bb J J J (fun hc19=>?_) (fun hc19=>?_)
 .
  have hc:crossI l m=0:=by simpa using hc19
  refine cl J (y5 hlo.ne) J<|cl J (wP (l:=m) (p:=l.base)) J<|br J J J (fun hc26=>?_) (fun hc26=>?_)
  .
   refine cl J Lv J<|rf J J<|rz J (by unfold Ao jf;rw[if_pos hc,if_pos hc26,SB hc];rfl)
  .
   exact rz J (by unfold Ao jf;rw[if_pos hc,if_neg hc26,SB hc];rfl)
 .
  have hc:crossI l m≠0:=by simpa using hc19
  haveI hpb:=CT (l:=l) (m:=m) hlo.ne hc;obtain⟨t,ht⟩: ∃t,t=ja l (cP l m):=⟨_,rfl⟩;refine cl (fu:=⟨0⟩) J (CP (l:=l) (p:=cP l m) hlo.ne) J<|aj 35 (.d (eQ t)) J (by rw[ht]) ?_;rw[<-ht] at hpb;refine gx J<|cl J (iD (n:=1)) J<|cl J (ml (a:=t) (b:=((1:Int):Rat))) J<|cl J (Su (l:=l) (t:=t+((1:Int):Rat)) hlo.ne) J<|cl J (wP (l:=m) (p:=l.at (t+((1:Int):Rat)))) J<|br J J J (fun hc44=>?_) (fun hc44=>?_)
  .
   refine rf J J<|rz J (by unfold Ao jf;rw[if_neg hc,<-ht,if_pos (show(m.value (l.at (t+1))).num.sign=side from hc44),N3 hc,bU,azQ];rfl)
  .
   refine rf J J<|rz J (by unfold Ao jf;rw[if_neg hc,<-ht,if_neg (show¬(m.value (l.at (t+1))).num.sign=side from hc44),N3 hc,bU,Vp];rfl)
def fk(f:bA):DV:= .ag [.v (.bool (decide (f.l.a<0))),dN f.l.a.natAbs, .v (.bool (decide (f.l.b<0))),dN f.l.b.natAbs, .v (.bool (decide (f.l.c<0))),dN f.l.c.natAbs, .v (.bool (decide (f.v.lo.num<0))),dN f.v.lo.num.natAbs,dD f.v.lo.den, .v (.bool (decide (f.v.hi.num<0))),dN f.v.hi.num.natAbs,dD f.v.hi.den, .v (.bool f.v.nl), .v (.bool f.v.nh)]
def yx(fs:List bA):cE 14 (fs.map fk):=fun d hd=>by
 obtain⟨u,_,rfl⟩:=aT.1 hd;exact⟨rfl,rfl⟩
theorem vf{p:ZP}(h:ZP.le 100 p):aD p.q 12:=by
 haveI:BI p.1 11:=me (by have:=h.1;omega);haveI:BI p.2 11:=me (by have:=h.2;omega);exact(inferInstance:aD (iP p.1 p.2) 12)
def ZE{v w:ZP}(hv:ZP.le 100 v)(hw:ZP.le 100 w)(h:v≠w):PF GB prog 228 [eP v.q,eP w.q] (.tp [fk (Fa v w),vB true]):=by
 have hne: ¬(w.1=v.1/\w.2=v.2):=fun e=>h (Prod.ext e.1.symm e.2.symm);obtain⟨hlb,hlo⟩:=L9 (m:=v.1) (n:=v.2) (p:=w.1) (q:=w.2) (by have:=hv.1;omega) (by have:=hv.2;omega) (by have:=hw.1;omega) (by have:=hw.2;omega) hne;haveI:=hlb;haveI:=vf hv;haveI:=vf hw;refine fn func228 J J ntmps228 J J (fun C=>?_);refine cl (fu:=⟨3⟩) J (Pq (m:=v.1) (n:=v.2) (m':=w.1) (n':=w.2) (by have:=hv.1;omega) (by have:=hv.2;omega) (by have:=hw.1;omega) (by have:=hw.2;omega) (fun e=>hne ⟨e.1.symm,e.2.symm⟩)) J<|jO 13 J<|gx J<|cl J (CP (l:=mA v.1 v.2 w.1 w.2) (p:=v.q) hlo.ne) J<|cl J (CP (l:=mA v.1 v.2 w.1 w.2) (p:=w.q) hlo.ne) J<|rz J J
end Go.Sx
end
