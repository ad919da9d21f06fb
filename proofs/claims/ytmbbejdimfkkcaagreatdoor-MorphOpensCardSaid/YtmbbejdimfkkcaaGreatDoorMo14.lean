import Derived.Test.YtmbbejdimfkkcaaGreatDoorMo13
set_option linter.all false
set_option maxHeartbeats 4000000
set_option maxRecDepth 100000
section
namespace Go.Sx
open Go Go.Proofs
def dG(a b c d:Int):List ZP:=[(a,b),(c,b),(c,d),(a,d)]
def Ko{a b c d:Int}(h1:a.natAbs<=50:=by decide)(h2:b.natAbs<=50:=by decide)(h3:c.natAbs<=50:=by decide)(h4:d.natAbs<=50:=by decide)(h5:a<c:=by decide)(h6:b<d:=by decide):gE (dG a b c d):=by
 refine⟨by simp[dG],by simp[dG],fun p hp=>?_,fun i hi=>?_⟩
 .simp only[dG,aW,dK,or_false] at hp
  rcases hp with rfl|rfl|rfl|rfl<;>exact⟨by dsimp only;omega,by dsimp only;omega⟩
 .have:i=0\/i=1\/i=2\/i=3:=by simp[dG] at hi;omega
  rcases this with rfl|rfl|rfl|rfl<;>simp[dG,jy]<;>omega
def gq(p u v:ZP):List ZP:=[p,kt p u,kt p v]
def aId{p u v:ZP}(h1:ZP.le 40 p)(h2:ZP.le 40 u)(h3:ZP.le 40 v)(h:jd u v≠0):gE (gq p u v):=by
 obtain⟨p1,p2⟩:=p;obtain⟨u1,u2⟩:=u;obtain⟨v1,v2⟩:=v;unfold ZP.le at h1 h2 h3;dsimp only at h1 h2 h3;unfold jd at h;dsimp only at h;refine⟨by simp[gq],by simp[gq],fun p hp=>?_,fun i hi=>?_⟩
 .simp only[gq,kt,aW,dK,or_false] at hp
  rcases hp with rfl|rfl|rfl<;>exact⟨by dsimp only;omega,by dsimp only;omega⟩
 .have:i=0\/i=1\/i=2:=by simp[gq] at hi;omega
  have hu: ¬(u1=0/\u2=0):=fun e=>h (by rw[e.1,e.2];simp);have hv: ¬(v1=0/\v2=0):=fun e=>h (by rw[e.1,e.2];simp);have huv: ¬(u1=v1/\u2=v2):=fun e=>h (by rw[e.1,e.2,sJ];omega);rcases this with rfl|rfl|rfl<;>simp[gq,kt,jy]<;>omega
def x7(es:List Int)(n m k:Int)(a:Nat):List ZP×Nat:=
 let x:=au es n a
 let y:=au es n x.2
 let z:=au es m y.2
 let w:=au es m z.2
 (dG ((x.1:Int)-k) ((y.1:Int)-k) ((x.1:Int)-k+1+z.1) ((y.1:Int)-k+1+w.1),w.2)
def Xi{es:List Int}{n m k:Int}{a:Nat}(ha:a<=es.length)(hn:1<=n:=by decide)(hn2:n<=10:=by decide)(hm:1<=m:=by decide)(hm2:m<=10:=by decide)(hk:0<=k:=by decide)(hk2:k<=10:=by decide):gE (x7 es n m k a).1/\(x7 es n m k a).2<=es.length:=by
 have h1:=c8 (es:=es) (a:=a) hn;have h2:=c8 (es:=es) (a:=(au es n a).2) hn;have h3:=c8 (es:=es) (a:=(au es n (au es n a).2).2) hm;have h4:=c8 (es:=es) (a:=(au es m (au es n (au es n a).2).2).2) hm;exact⟨Ko we we we we we we,im (im (im (im ha)))⟩
def Dh:List ZP:=[(0,0),(1,0),(0,1)]
def UT:gE Dh:=⟨oma,oma,fun p hp=>by
  simp only[Dh,aW,dK,or_false] at hp;rcases hp with rfl|rfl|rfl<;>exact⟨oma,oma⟩,fun i hi=>by
  have:i=0\/i=1\/i=2:=by simp[Dh] at hi;omega
  rcases this with rfl|rfl|rfl<;>decide⟩
def cg(es:List Int)(a:Nat):List ZP×Nat:=
 let k:=au es 2 a
 if(k.1:Int)=0 then x7 es 3 2 1 k.2
 else
  let x:=au es 3 k.2
  let y:=au es 3 x.2
  let u1:=au es 2 y.2
  let u2:=au es 3 u1.2
  let v1:=au es 3 u2.2
  let v2:=au es 2 v1.2
  (if 0<jd (1+(u1.1:Int),(u2.1:Int)-1) ((v1.1:Int)-1,1+(v2.1:Int)) then gq ((x.1:Int)-1,(y.1:Int)-1) (1+(u1.1:Int),(u2.1:Int)-1) ((v1.1:Int)-1,1+(v2.1:Int)) else Dh,v2.2)
def xv{es:List Int}{a:Nat}(ha:a<=es.length):gE (cg es a).1/\(cg es a).2<=es.length:=by
 have h0:=im (n:=2) ha;unfold cg;dsimp only;split
 .exact Xi h0
 .generalize hk:(au es 2 a).2=k at*
  have e1:=c8 (es:=es) (n:=3) (a:=k);have f1:=im (n:=3) h0;generalize hx:au es 3 k=x at*;have e2:=c8 (es:=es) (n:=3) (a:=x.2);have f2:=im (n:=3) f1;generalize hy:au es 3 x.2=y at*;have e3:=c8 (es:=es) (n:=2) (a:=y.2);have f3:=im (n:=2) f2;generalize hu:au es 2 y.2=u1 at*;have e4:=c8 (es:=es) (n:=3) (a:=u1.2);have f4:=im (n:=3) f3;generalize hu2:au es 3 u1.2=u2 at*;have e5:=c8 (es:=es) (n:=3) (a:=u2.2);have f5:=im (n:=3) f4;generalize hv:au es 3 u2.2=v1 at*;have e6:=c8 (es:=es) (n:=2) (a:=v1.2);have f6:=im (n:=2) f5;generalize hv2:au es 2 v1.2=v2 at*;refine⟨?_,f6⟩;split
  .rename_i hc
   exact aId ⟨by dsimp only;omega,by dsimp only;omega⟩ ⟨by dsimp only;omega,by dsimp only;omega⟩ ⟨by dsimp only;omega,by dsimp only;omega⟩ we
  .exact UT
def vK(l:aa):Tr:=(Tr.node l (.leaf true) (.leaf false)).restrict []
def t8: ∀t:Tr,t.lns.length=t.size
 | .leaf _=>rfl
 | .node l x y=>by rw[Tr.lns,aS,aY,t8 x,t8 y,Tr.size];omega
def aFS{t:Tr}{k:Nat}(hb:t.all (fun l=>BL l 96))(ho:t.all aa.ok)(hs:t.size<=k):kh k t:=
 ⟨⟨l9.2 fun l hl=>⟨l9.1 hb l hl⟩,ho⟩,cX t.depth_size hs,t.lns,by rw[t8];exact hs,pd ho,aBV fun l hl=>hl⟩
def aDw{l:aa}(h:LS l):kh 18 (vK l):=
 (aFS (k:=18) (t:= .node l (.leaf true) (.leaf false)) ⟨h.bl,trivial,trivial⟩ ⟨h.ok,trivial,trivial⟩ (by simp[Tr.size])).restrict []
def bB(a b p:ah):Rat:=(b.x-a.x)*(p.y-a.y)-(b.y-a.y)*(p.x-a.x)
def aJs(q p v w:ah)(e:Rat):bB q p (kC v w e)=bB q p v+e*(bB q p w-bB q p v):=by
 unfold bB kC;grind
def w7{a b:Rat}(ha:0<a):0<a*b↔0<b:=by rw[uY];exact gk ha
def Ha(op:Int)(a b:Tr):Bool:=decide ((a.mergeQ op b []).isLeaf=true/\(a.mergeQ op b []).code=false)
def auW{op:Int}{a b:Tr}:Ha op a b=true↔a.mergeQ op b []= .leaf false:=by
 unfold Ha;rw[decide_eq_true_iff]
 cases a.mergeQ op b [] with
 |leaf v=>simp[Tr.isLeaf,Tr.code]
 |node l x y=>simp[Tr.isLeaf]
def u7.none{L:List aa}{a b:Tr}(h:u7 L a b){op:Int}:Ha op a b=true↔ ∀p,cA L p->uq op (a.val p) (b.val p)=false:=by rw[auW,h.leaf]
def kI:Tr->ah->Bool
 | .leaf b,_=>b
 | .node l x y,p=>if(l.value p).num.sign=1 then kI x p else if(l.value p).num.sign= -1 then kI y p else false
def BO: ∀{t:Tr} {p:ah},cA t.lns p->kI t p=t.val p
 | .leaf b,p,_=>rfl
 | .node l x y,p,h=>by
  rw[kI,Tr.val];have h0:=h.l;by_cases h1:0<l.value p
  .rw[if_pos ((EA _).2 h1),if_pos h1,BO h.x]
  .have h2:l.value p<0:=by grind
   have h3:=(Hi _).2 h2;have h4:(l.value p).num.sign= -1:=by
    rcases Int.sign_trichotomy (l.value p).num with e|e|e<;>omega
   rw[if_neg we,if_pos h4,if_neg h1,BO h.y]
def HU{L:List aa}{p q:ah}(h: ∀l∈L,0<l.value q↔0<l.value p): ∀{t:Tr},(∀l∈t.lns,l∈L)->t.val q=t.val p
 | .leaf _,_=>rfl
 | .node l x y,hl=>by
  have hx:=HU h (t:=x) fun m hm=>hl m (aJ _ (bU _ hm));have hy:=HU h (t:=y) fun m hm=>hl m (aJ _ (bQ _ hm));rw[Tr.val,Tr.val,hx,hy];by_cases h1:0<l.value q
  .rw[if_pos h1,if_pos ((h l (hl l aQ)).1 h1)]
  .rw[if_neg h1,if_neg (fun e=>h1 ((h l (hl l aQ)).2 e))]
def Ce: ∀{t:Tr} {c:ao} {b:Bool} {e:ao},t.all aa.ok->bw c->(b,e)∈t.parts c->bw e/\ ∀p,bu e p->bu c p/\t.val p=b
 | .leaf v,c,b,e,_,hc,h=>by
  rw[Tr.parts,aT] at h
  cases h
  exact⟨hc,fun p hp=>⟨hp,J⟩⟩
 | .node l x y,c,b,e,⟨hl,hx,hy⟩,hc,h=>by
  rw[Tr.parts] at h;rcases bZ.1 h with h|h
  .split at h
   .rename_i hb
    obtain⟨k1,k2⟩:=gz hc hl hb;obtain⟨m1,m2⟩:=Ce hx k1 h;refine⟨m1,fun p hp=>?_⟩;obtain⟨n1,n2⟩:=m2 p hp;obtain⟨o1,o2⟩:=(k2 p).1 n1;exact⟨o1,by rw[Tr.val_pos o2,n2]⟩
   .cases h
  .split at h
   .rename_i hb
    obtain⟨k1,k2⟩:=gz hc hl.rev hb;obtain⟨m1,m2⟩:=Ce hy k1 h;refine⟨m1,fun p hp=>?_⟩;obtain⟨n1,n2⟩:=m2 p hp;obtain⟨o1,o2⟩:=(k2 p).1 n1;rw[en] at o2;exact⟨o1,by rw[Tr.val_neg omb,n2]⟩
   .cases h
def Kk: ∀{t:Tr} {c:ao} {p:ah},t.all aa.ok->bw c->bu c p->cA t.lns p-> ∃b e,(b,e)∈t.parts c/\bu e p
 | .leaf v,c,p,_,_,hp,_=>⟨v,c,aT.2 J,hp⟩
 | .node l x y,c,p,⟨hl,hx,hy⟩,hc,hp,ho=>by
  have h0:=ho.l;rw[Tr.parts];by_cases h:0<l.value p
  .have hb:=(oz hc hl).2 ⟨p,hp,h⟩
   obtain⟨k1,k2⟩:=gz hc hl hb;obtain⟨b,e,m1,m2⟩:=Kk hx k1 ((k2 p).2 ⟨hp,h⟩) ho.x;exact⟨b,e,bU _ (by rw[if_pos hb];exact m1),m2⟩
  .have h':0<l.rev.value p:=by rw[en];grind
   have hb:=(oz hc hl.rev).2 ⟨p,hp,h'⟩;obtain⟨k1,k2⟩:=gz hc hl.rev hb;obtain⟨b,e,m1,m2⟩:=Kk hy k1 ((k2 p).2 ⟨hp,h'⟩) ho.y;exact⟨b,e,bQ _ (by rw[if_pos hb];exact m1),m2⟩
def bO(t:Tr):List ao:=((t.parts []).filter (·.1)).map (·.2)
def nC{t:Tr}{e:ao}:e∈bO t↔(true,e)∈t.parts []:=by
 unfold bO;simp
def CQ(l:aa)(v:ah):l.dir.cross v=l.nor.dot v:=by
 unfold aa.dir aa.nor ah.cross ah.dot;grind
def wo(p:ah):(p.half=1/\(0<p.y\/(p.y=0/\0<p.x)))\/(p.half=2/\(p.y<0\/(p.y=0/\p.x<0)))\/(p.half=0/\p.y=0/\p.x=0):=by
 unfold ah.half;simp only[nG,Hi,qp];split
 .rename_i h;exact .inl ⟨rfl,h⟩
 .rename_i h
  split
  .rename_i h2
   exact .inr (.inl ⟨J,omb⟩)
  .rename_i h2
   exact .inr (.inr ⟨J,omb,omb⟩)
def qf{p:ah}:p.half=1↔(0<p.y\/(p.y=0/\0<p.x)):=by
 rcases wo p with⟨h,k⟩|⟨h,k⟩|⟨h,k⟩<;>rw[h]<;>grind
def vE{p:ah}:p.half=2↔(p.y<0\/(p.y=0/\p.x<0)):=by
 rcases wo p with⟨h,k⟩|⟨h,k⟩|⟨h,k⟩<;>rw[h]<;>grind
def eG(u v:ah):Prop:=u.half<v.half\/(u.half=v.half/\0<u.cross v)
def Av{u v:ah}:gr u v<0↔eG u v:=by
 unfold gr eG;split
 .rename_i h;exact⟨fun _=> .inl h,fun _=>by decide⟩
 .rename_i h
  split
  .rename_i h2;exact⟨fun e=>absurd e oma,fun e=>by omega⟩
  .rename_i h2
   have e:u.half=v.half:=by omega
   rw[<-nG];constructor
   .intro k;exact .inr ⟨e,we⟩
   .rintro (k|⟨_,k⟩)
    .omega
    .omega
def aG(d:ah):ah:=⟨-d.x, -d.y⟩
def aBn{d:ah}(h:d.half≠0):(aG d).half=3-d.half:=by
 rcases wo d with⟨e,k⟩|⟨e,k⟩|⟨e,k⟩
 .rw[e];exact vE.2 (by unfold aG;grind)
 .rw[e];exact qf.2 (by unfold aG;grind)
 .exact absurd e h
def oE{d:ah}(h:d.half≠0):d.half=1\/d.half=2:=by
 rcases wo d with⟨e,_⟩|⟨e,_⟩|⟨e,_⟩
 .exact .inl e
 .exact .inr e
 .exact absurd e h
def BG(ds:List ah)(u w:ah):Prop:=(eG u w/\ ∀d∈ds,¬(eG u d/\eG d w))\/((∀d∈ds,¬eG u d)/\ ∀d∈ds,¬eG d w)
def x9(u v:ah):v.cross u= -u.cross v:=by unfold ah.cross;grind
def RR(u v:ah):u.cross (aG v)= -u.cross v:=by unfold ah.cross aG;grind
end Go.Sx
end
section
namespace Go.Sx
open Go
inductive OT where
 |z (π:List (Nat×Bool))
 |q (i:Nat) (t:OT)
 |a (i:Nat) (t:OT)
 |c (i:Nat) (t r:OT)
def OT.sz:OT->Nat
 | .z _=>0
 | .q _ t=>t.sz+1
 | .a _ t=>t.sz+1
 | .c _ t r=>t.sz+r.sz+1
def OT.d:OT->Nat
 | .z π=>π.length
 | .q _ t=>t.d+1
 | .a _ t=>t.d+1
 | .c _ t r=>Nat.max (t.d+1) r.d
section
variable {P:Program} {ops:Array Oper} {Q:Exit->Act->World->Prop} {S:World->Prop} {π₂:List (Nat×Bool)}
end
section
variable {P:Program} {GB:Gh} {C:aH} {n:Nat} {fr fr':nk} {own own' own0 own1 own1':List kP} {bs bs0 bs1 bs1':List jw} {ops:Array Oper} {Q:Exit->Act->World->Prop} {fd:List FD} {π₂:List (Nat×Bool)} {t r:OT}
end
end Go.Sx
end
section
namespace Go.Sx
open Go Go.Proofs Tryz
variable {GB:Gh}
theorem tF{c:List aa}{l:aa}(hc: ∀m∈c,LB m)(hl:LB l): ∀m∈c++[l],LB m:=by
 rw[sU];exact⟨hc,by simpa using hl⟩
theorem LB.rev{l:aa}(h:LB l):LB l.rev:=⟨⟨by rw[show l.rev.a= -l.a from J,kQ];exact h.bl.a,by rw[show l.rev.b= -l.b from J,kQ];exact h.bl.b,by rw[show l.rev.c= -l.c from J,kQ];exact h.bl.c⟩⟩
def Ue{c:List aa}{l:aa}(hc: ∀m∈c,LB m)(hok: ∀m∈c,m.ok)(hn:c.length<=900)(hl:LB l)(hlo:l.ok):PF GB prog 76 [.sl (c.map eL),eL l] (vI (nH c l)):=by
 have hcl:=yl c;refine fn func76 J J ntmps76 J J (fun C=>?_);refine oG J J<|ap (c.map eL) J J (du _) J<|rf J J<|kz ((c++[l]).map eL) J omO (du [l]) J<|cl J (Km (c:=c++[l]) (tF hc hl) (jp hok hlo) omq) J<|oG J J<|ap (c.map eL) J J (du _) J<|cl J (ym (l:=l)) J<|rf J J<|kz ((c++[l.rev]).map eL) J omO (du [l.rev]) J<|cl J (Km (c:=c++[l.rev]) (tF hc hl.rev) (jp hok hlo.rev) omq) J<|ja 31 J J J (fun hg31=>?_) (fun hg31=>?_)
 .
  refine bb J J J (fun hc33=>?_) (fun hc33=>?_)
  .
   exact rz J (by show vI 0=vI _;congr 1;unfold nH;simp_all)
  .
   refine bb J J J (fun hc34=>?_) (fun hc34=>?_)
   .
    exact rz J (by show vI 1=vI _;congr 1;unfold nH;simp_all)
   .
    exact rz J (by simp[hg31] at hc34)
 .
  refine bb J J J (fun hc34=>?_) (fun hc34=>?_)
  .
   exact rz J (by simp[hg31] at hc34)
  .
   exact rz J (by show vI (-1)=vI _;congr 1;unfold nH;simp_all)
def KA{α:Type}{p:α->Bool}: ∀{xs:List α} {n:Nat},n<=xs.length->(∀j (h:j<xs.length),j<n->p xs[j]=true)->(∀h:n<xs.length,p xs[n]=false)->(xs.takeWhile p).length=n
 |[],n,h,_,_=>by simp at h;subst h;rfl
 |x::xs,0,_,_,h3=>by
  have:=h3 omc;simp only[pW] at this;simp[oN,this]
 |x::xs,n+1,h1,h2,h3=>by
  have hx:=h2 0 omc we;simp only[pW] at hx;rw[oN,if_pos hx,aS];rw[KA (n:=n) (by simpa using h1) (fun j h hj=>by have:=h2 (j+1) omE we;simpa using this) (fun h=>by have:=h3 omE;simpa using this)]
def Nn{xs:List aa}{l:aa}{n:Nat}(h1:n<=xs.length)(h2: ∀j (h:j<xs.length),j<n->gr xs[j].dir l.dir<0)(h3: ∀h:n<xs.length,¬gr xs[n].dir l.dir<0):n8 xs l=n:=
 KA h1 (fun j h hj=>decide_eq_true (h2 j h hj)) (fun h=>decide_eq_false (h3 h))
def aqw{xs:List aa}{l:aa}{n:Nat}(hn:n8 xs l=n)(h:n<xs.length)(e:xs[n]=l):qn xs l=xs:=by
 unfold qn;rw[hn,if_pos (by rw[aZ h,e])]
def Q7{xs:List aa}{l:aa}{n:Nat}(hn:n8 xs l=n)(h: ∀h:n<xs.length,xs[n]≠l):qn xs l=xs.take n++l::xs.drop n:=by
 unfold qn;rw[hn,if_neg];intro e;obtain⟨h1,h2⟩:=aR.1 e;exact h h1 h2
def OO(xs:List aa)(n:Nat):cO 6 ((xs.map eL).take n):=fun d hd=>du xs d (eK hd)
def Ji(xs:List aa)(n m:Nat):cO 6 (((xs.map eL).take n).drop m):=fun d hd=>du xs d (eK (iZ hd))
def SF(xs:List aa)(n m:Nat)(l:aa):cO 6 ([eL l]++((xs.map eL).take n).drop m):=fun d hd=>by
 rcases bZ.1 hd with h|h
 .exact du [l] d h
 .exact Ji xs n m d h
structure mr (c:List aa) (k:Nat) (xs:List aa):Prop where
 le:k<=c.length
 f:ot c (c.drop k) xs=cj c
 m: ∀m∈xs,m∈c
 n:xs.length<=k
def mr.skip{c xs:List aa}{k:Nat}(h:mr c k xs)(hk:k<c.length)(e:(gg c[k] c ar.all).isSome=false):mr c (k+1) xs:=by
 have:=h.f;rw[bK hk,ot,e] at this;exact⟨hk,this,h.m,by have:=h.n;omega⟩
def mr.ins{c xs ys:List aa}{k:Nat}(h:mr c k xs)(hk:k<c.length)(e:(gg c[k] c ar.all).isSome=true)(hy:qn xs c[k]=ys)(hl:ys.length<=xs.length+1):mr c (k+1) ys:=by
 have:=h.f;rw[bK hk,ot,e,if_pos J,hy] at this;refine⟨hk,this,fun m hm=>?_,by have:=h.n;omega⟩;rw[<-hy] at hm;rcases IH.1 hm with rfl|hm
 .exact dQ hk
 .exact h.m m hm
def mr.done{c xs:List aa}{k:Nat}(h:mr c k xs)(hk:k=c.length):cj c=xs:=by
 have:=h.f;rw[hk,fL,ot] at this;exact this.symm
def l7(c:List aa):Bool:=if(((c.map eL).length:Nat):Int)=0 then true else decide ((0:Int)<((((cj c).map eL).length:Nat):Int))
def mr.nil(c:List aa):mr c 0 []:=⟨aN _,J,fun m hm=>absurd hm omc,bV _⟩
theorem omy{p:Prop}(h:p:=by rw[hys,aL,bY,iT,iL,bM (l:=xs.map eL) (i:=xs.length) omc];rfl):p:=h
theorem omD{p:Prop}(h:p:=by rw[hxl];exact hnl):p:=h
theorem okl{p:Prop}(h:p:=by rw[hxl]):p:=h
def DL{c:List aa}(hc: ∀m∈c,LB m)(hok: ∀m∈c,m.ok)(hn:c.length<=1000:=by omega):PF GB prog 80 [.sl (c.map eL)] (.tp [.sl ((cj c).map eL),vB (l7 c)]):=by
 have hcl:=yl c;refine fn (fu:=⟨16⟩) func80 J J ntmps80 J J (fun C=>?_);refine aj 11 (.d (vI (c.length:Nat))) J (by rw[hcl];rfl)<|gx J<|Dl 4 J<|lp (X:=List aa×Nat) (fun⟨xs,k⟩=>[(12, .d (vI (k:Nat))),(11, .d (vI (c.length:Nat))),(10, .d (.sl (c.map eL))),(0, .d (.sl (c.map eL))),(4, .d (.sl (xs.map eL)))]) (fun⟨xs,k⟩=>[]) (fun⟨xs,k⟩=>mr c k xs) (fun⟨xs,k⟩=>c.length-k) ⟨[],0⟩ J (mr.nil c) (fun _=>J) (fun⟨xs,k⟩ hk=>?_)
 try dsimp only at hk⊢
 have hS:=hk;refine br J J J (fun hc13=>?_) (fun hc13=>?_)
 .
  have hk:k<c.length:=by omega
  obtain⟨m,hm⟩: ∃m,m=c[k]:=⟨_,rfl⟩;haveI hmb:LB m:=hm▸hc _ (dQ hk);have hmo:m.ok:=hm▸hok _ (dQ hk);have hxl:=yl xs;have hxn:=hS.n;refine ix (fu:=⟨1⟩) _ J (yr hk) J<|aj 16 (.d (eL m)) J okY<|gx J<|cl J (VN hc hok hn hk) J<|bb (fu2:=⟨8⟩) J J J (fun hc24=>?_) (fun hc24=>?_)
  .
   have hinv:mr c (k+1) xs:=hS.skip hk (by rw[<-Bn];simpa using hc24);exact at_ ⟨xs,k+1⟩ omB
  .
   have hyes:(gg c[k] c ar.all).isSome=true:=by rw[<-Bn];simpa using hc24
   refine mg (fu:=⟨6⟩) (X:=Unit) (fun _=>[(12, .d (vI (k:Nat))),(11, .d (vI (c.length:Nat))),(10, .d (.sl (c.map eL))),(0, .d (.sl (c.map eL))),(4, .d (.sl (xs.map eL))),(6, .ov 6 0),(9, .d (vI (n8 xs m:Nat)))]) (fun _=>[(6,some (.o 54 [.d ((.v (.bool (decide (m.a<0))))), .d (dN m.a.natAbs), .d ((.v (.bool (decide (m.b<0))))), .d (dN m.b.natAbs), .d ((.v (.bool (decide (m.c<0))))), .d (dN m.c.natAbs)] true))]) (fun _=>True) [12,11,10,0,4,6,9] [6] rfl ?_ (fun _=>J) (fun _ _=>?_)
   .
    refine gx J<|lp (fu:=⟨6⟩) (X:=Nat) (fun n=>[(12, .d (vI (k:Nat))),(11, .d (vI (c.length:Nat))),(10, .d (.sl (c.map eL))),(0, .d (.sl (c.map eL))),(4, .d (.sl (xs.map eL))),(6, .ov 6 0),(9, .d (vI (n:Nat)))]) (fun n=>[(6,some (.o 54 [.d ((.v (.bool (decide (m.a<0))))), .d (dN m.a.natAbs), .d ((.v (.bool (decide (m.b<0))))), .d (dN m.b.natAbs), .d ((.v (.bool (decide (m.c<0))))), .d (dN m.c.natAbs)] true))]) (fun n=>n<=xs.length/\ ∀j (h:j<xs.length),j<n->gr xs[j].dir m.dir<0) (fun n=>xs.length-n) 0 J ⟨aN _,fun j _ hj=>absurd hj we⟩ (fun _=>J) (fun n hk=>?_);obtain⟨n1,n2⟩:=hk;refine jP J J J J (fun hg28=>?_) (fun hg28=>?_)
    .
     refine ix _ J (yr) J<|?_;haveI:LB (xs[n]' we):=hc _ (hS.m _ (dQ _));refine cl J (i8 (l:=xs[n]' we)) J<|cl J (i8 (l:=m)) J<|cl J (ZD (u:=(xs[n]' we).dir) (v:=m.dir)) J<|br J J J (fun hc39=>?_) (fun hc39=>?_)
     .
      exact at_ (n+1) ⟨⟨we,fun j h hj=>by by_cases q:j=n;(subst q;exact hc39);exact n2 j h we⟩,we⟩
     .
      have hidx:n8 xs m=n:=Nn n1 n2 (fun h=>hc39);exact at_ () trivial
    .
     have hidx:n8 xs m=n:=Nn n1 n2 (fun h=>absurd h we);exact at_ () trivial
   .
    obtain⟨n,hnx⟩: ∃n,n8 xs m=n:=⟨_,rfl⟩;rw[hnx];have hnl:n<=xs.length:=by rw[<-hnx];unfold n8;exact(List.takeWhile_sublist _).length_le
    have hcb: ∀m∈xs,LB m:=fun m hm=>hc m (hS.m m hm);refine jP J J J J (fun hg45=>?_) (fun hg45=>?_)
    .
     refine ix _ J (yr) J<|cl J (Ag (l:=xs[n]' we) (m:=m) (hl:=hcb _ (dQ we))) J<|br J J J (fun hc54=>?_) (fun hc54=>?_)
     .
      have hn46:n<xs.length:=by omega
      have hinv:mr c (k+1) xs:=hS.ins hk hyes (by rw[<-hm];exact aqw hnx hn46 ((DT _ m).1 hc54)) we;exact at_ ⟨xs,k+1⟩ omB
     .
      have hnew: ∀h:n<xs.length,xs[n]≠m:=fun h e=>hc54 ((DT _ m).2 e);obtain⟨ys,hys⟩: ∃ys,ys=xs.take n++m::xs.drop n:=⟨_,rfl⟩;have hinv:mr c (k+1) ys:=hS.ins hk hyes (by rw[<-hm,Q7 hnx hnew,hys]) (by rw[hys];simp;omega);refine s3 n _ J J J J (du _) omD J<|ro J J<|kp n xs.length _ J J okl J (du _) hnl we J<|ap _ J J (Ji _ _ _) J<|kz (hv:=by simp only[ak];exact⟨omd,we⟩) (ho:=fun _=>⟨OO _ _,omc⟩) (ys.map eL) J omy (SF _ _ _ _) J<|at_ ⟨ys,k+1⟩ omB
    .
     have hnew: ∀h:n<xs.length,xs[n]≠m:=fun h=>absurd h we;obtain⟨ys,hys⟩: ∃ys,ys=xs.take n++m::xs.drop n:=⟨_,rfl⟩;have hinv:mr c (k+1) ys:=hS.ins hk hyes (by rw[<-hm,Q7 hnx hnew,hys]) (by rw[hys];simp;omega);refine s3 n _ J J J J (du _) omD J<|ro J J<|kp n xs.length _ J J okl J (du _) hnl we J<|ap _ J J (Ji _ _ _) J<|kz (hv:=by simp only[ak];exact⟨omd,we⟩) (ho:=fun _=>⟨OO _ _,omc⟩) (ys.map eL) J omy (SF _ _ _ _) J<|at_ ⟨ys,k+1⟩ omB
 .
  have hfin:cj c=xs:=hS.done (by have:=hS.le;omega);refine cs 71 J J J (fun hg71=>?_) (fun hg71=>?_)
  .
   exact rz J (by rw[l7,if_pos hg71,hfin];rfl)
  .
   exact rz J (by rw[l7,if_neg hg71,hfin];rfl)
section
variable {α:Type} (c:α->α->Int)
def fe(x:α):List α->List α
 |[]=>[x]
 |u::t=>if c u x<0 then u::fe x t else if c u x=0 then u::t else x::u::t
def me(x:α)(xs:List α):Nat:=(xs.takeWhile fun u=>decide (c u x<0)).length
def Ct(x:α)(xs:List α):me c x xs<=xs.length:=(List.takeWhile_sublist _).length_le
def tc{x:α}{xs:List α}{n:Nat}(h1:n<=xs.length)(h2: ∀j (h:j<xs.length),j<n->c xs[j] x<0)(h3: ∀h:n<xs.length,¬c xs[n] x<0):me c x xs=n:=
 KA h1 (fun j h hj=>decide_eq_true (h2 j h hj)) (fun h=>decide_eq_false (h3 h))
theorem ozu{p:Prop}(h:p:=by simpa using hu):p:=h
def BE{x:α}: ∀{xs:List α} {n:Nat},me c x xs=n->(h:n<xs.length)->c xs[n] x=0->fe c x xs=xs
 |[],n,_,h,_=>by simp at h
 |u::t,n,hn,h,e=>by
  rw[fe];unfold me at hn;rw[oN] at hn;by_cases hu:c u x<0
  .rw[if_pos hu]
   rw[if_pos ozu] at hn;obtain⟨k,rfl⟩: ∃k,n=k+1:=⟨n-1,by simp at hn;omega⟩;rw[BE (xs:=t) (n:=k) (by unfold me;simpa using hn) omE (by simpa using e)]
  .rw[if_neg ozu] at hn
   simp at hn;subst hn;rw[if_neg hu,if_pos (by simpa using e)]
def qD{x:α}: ∀{xs:List α} {n:Nat},me c x xs=n->(∀h:n<xs.length,c xs[n] x≠0)->fe c x xs=xs.take n++x::xs.drop n
 |[],n,hn,_=>by simp[me] at hn;subst hn;rfl
 |u::t,n,hn,e=>by
  rw[fe];unfold me at hn;rw[oN] at hn;by_cases hu:c u x<0
  .rw[if_pos hu]
   rw[if_pos ozu] at hn;obtain⟨k,rfl⟩: ∃k,n=k+1:=⟨n-1,by simp at hn;omega⟩;rw[qD (xs:=t) (n:=k) (by unfold me;simpa using hn) (fun h=>by have:=e omE;simpa using this)];simp
  .rw[if_neg ozu] at hn
   simp at hn;subst hn;have:=e omc;rw[if_neg hu,if_neg (by simpa using this)];rfl
def Fk(x:α): ∀(xs:List α),(fe c x xs).length<=xs.length+1
 |[]=>bV _
 |u::t=>by
  have:=Fk x t;rw[fe];split
  .simp;omega
  .split<;>simp
def RE{x y:α}: ∀{xs:List α},y∈fe c x xs->y=x\/y∈xs
 |[],h=>by rw[fe,aT] at h;exact .inl h
 |u::t,h=>by
  rw[fe] at h;split at h
  .rcases aW.1 h with rfl|h
   .exact .inr aQ
   .rcases RE h with h|h
    .exact .inl h
    .exact .inr (aJ _ h)
  .split at h
   .exact .inr h
   .rcases aW.1 h with rfl|h
    .exact .inl J
    .exact .inr h
def uw(l:List α):List α:=l.foldl (fun out x=>fe c x out) []
def Es: ∀(l o:List α),(l.foldl (fun out x=>fe c x out) o).length<=l.length+o.length
 |[],o=>by simp
 |x::t,o=>by
  have:=Es t (fe c x o);have:=Fk c x o;simp only[iQ,aS];omega
def Jy{y:α}: ∀{l o:List α},y∈l.foldl (fun out x=>fe c x out) o->y∈l\/y∈o
 |[],o,h=> .inr h
 |x::t,o,h=>by
  rcases Jy (l:=t) h with h|h
  .exact .inl (aJ _ h)
  .rcases RE c h with rfl|h
   .exact .inl aQ
   .exact .inr h
end
def Bl{x:Rat}: ∀{l:List Rat},lu x l=fe bE x l
 |[]=>rfl
 |u::t=>by
  have e1:bE u x<0↔u<x:=LF u x;have e2:bE u x=0↔u=x:=vG u x;rw[lu,fe,Bl (l:=t)];by_cases h:u<x
  .rw[if_pos h,if_pos (e1.2 h)]
  .rw[if_neg h,if_neg (fun e=>h (e1.1 e))]
   by_cases h2:u=x
   .rw[if_pos h2,if_pos (e2.2 h2)]
   .rw[if_neg h2,if_neg (fun e=>h2 (e2.1 e))]
def w6{α β:Type}{f:α->β}{l:List α}{k:Nat}{x:α}(h:l[k]? =some x):(l.take k).map f++[f x]=(l.take (k+1)).map f:=by
 rw[dJ,h,aL];rfl
def SS{a i:Nat}[ha:BN a i](hi:i<=400000000:=by decide):PF GB prog 125 [dN a] (dN a):=by
 have hl:=b8 (dg a);have hb:=kA ha.h;refine fn func125 J J ntmps125 J J (fun C=>?_);refine oG J J<|ap ((dg a).map dU) J J (tC _) J<|gw 5 J<|rz J J
def Fz{z:Int}{i:Nat}[hz:BI z i](hi:i<=400000000:=by decide):PF GB prog 101 [eI z] (eI z):=by
 refine fn func101 J J ntmps101 J J (fun C=>?_);refine cl J (SS (a:=z.natAbs) (i:=i) (ha:=⟨hz.h⟩) hi) J<|rz J J
def aKT{l:aa}(hl:BL l 96):PF GB prog 54 [eL l] (eL l):=by
 haveI h1:BI l.a 96:=⟨hl.a⟩;haveI h2:BI l.b 96:=⟨hl.b⟩;haveI h3:BI l.c 96:=⟨hl.c⟩;refine fn func54 J J ntmps54 J J (fun C=>?_);refine cl J (Fz (z:=l.a)) J<|cl J (Fz (z:=l.b)) J<|cl J (Fz (z:=l.c)) J<|rz J J
def YK{ds:List Nat}{d:Nat}(h:ds[ds.length-1]? =some d):fA ds↔ ¬((d:Int)=0):=by
 unfold fA;rw[oX,h];simp
def Np{ds:List Nat}(hn:ds.length<=1000000):PF GB prog 256 [d6 ds] (vB (decide (fA ds))):=by
 have hm:=b8 ds;refine fn (fu:=⟨9⟩) func256 J J ntmps256 J J (fun C=>?_);refine aj 4 (.d (vI (ds.length:Nat))) J omu<|gx (fu:=⟨0⟩) J<|jP (fu2:=⟨4⟩) J J J J (fun hg5=>?_) (fun hg5=>?_)
 .
  exact rz rfl (by obtain rfl:ds=[]:=cY we;show DV.v (.bool _)= .v (.bool _);congr 2<;>exact(decide_eq_true (by intro h;cases h)).symm)
 .
  obtain⟨d,hd⟩: ∃d,ds[ds.length-1]? =some d:=⟨_,aZ we⟩;refine aj 9 (.d (vI (ds.length:Nat))) J omu<|gx J<|ix _ J (by rw[show(((ds.length:Nat):Int)-1).toNat=ds.length-1 by omega,cJ,hd];rfl) J<|?_;exact rz J (by show DV.v (.bool _)= .v (.bool _);congr 2;exact decide_eq_decide.2 (YK hd).symm)
theorem omX{p:Prop}(h:p:=by show DV.v (.bool _)= .v (.bool _);congr 2;unfold uH;simp_all):p:=h
def Iw{neg:Bool}{ds:List Nat}(hn:ds.length<=1000000):PF GB prog 192 [.ag [.v (.bool neg),d6 ds]] (vB (decide (uH neg ds))):=by
 have hm:=b8 ds;refine fn func192 J J ntmps192 J J (fun C=>?_);by_cases hN:fA ds
 .
  refine cl (fu:=⟨0⟩) J (Np hn) J<|aj 5 (.d (vB true)) J (by rw[decide_eq_true hN])<|ld 5 J<|gx J<|ja (fu2:=⟨3⟩) 10 J J J (fun hg10=>?_) (fun hg10=>?_)
  .
   exact rz J omX
  .
   refine aj 13 (.d (vI (ds.length:Nat))) J omu<|gx J<|rz J omX
 .
  refine cl (fu:=⟨0⟩) J (Np hn) J<|aj 5 (.d (vB false)) J (by rw[decide_eq_false hN])<|th 5 J<|gx J<|rz J omX
def RK{ds:List Nat}(hd:bH ds)(hn:ds.length<=1000000):PF GB prog 257 [d6 ds] (dN (dv ds)):=by
 have hm:=b8 ds;refine fn func257 J J ntmps257 J J (fun C=>?_);refine oG J J<|ap (ds.map dU) J J (tC _) J<|fz 5 J J<|cl J (sC (ds:=ds)) J<|rz J (by unfold dN;rw[F9 hd];rfl)
def Fq{neg:Bool}{ds:List Nat}(hd:bH ds)(hn:ds.length<=1000000):PF GB prog 193 [.ag [.v (.bool neg),d6 ds]] (eI (qE neg ds)):=by
 refine fn func193 J J ntmps193 J J (fun C=>?_);refine cl J (RK hd hn) J<|cl J kG J<|rz J J
def E4(r:RL):DV:= .tp [if r.nm then eL r.l else .ag [.v (.bool false), .sl [], .v (.bool false), .sl [], .v (.bool false), .sl []],vB (decide (r.nm/\r.l.ok))]
def aHp{a b:Nat}(h:jk a b=0):a=b:=by
 unfold jk at h;split at h
 .cases h
 .split at h
  .assumption
  .cases h
def Ij{l:aa}:l.ok↔0<Nat.gcd l.a.natAbs l.b.natAbs/\Nat.gcd (Nat.gcd l.a.natAbs l.b.natAbs) l.c.natAbs=1:=by
 unfold aa.ok;refine and_congr ?_ Iff.rfl;rw[Nat.pos_iff_ne_zero,ne_eq,Nat.gcd_eq_zero_iff];simp only[lQ]
def Yc{r:RL}(s:r.sm)(h:r.nm):PF GB prog 127 [r.d] (E4 r):=by
 haveI:=RL.lb s;haveI ba:BN r.l.a.natAbs 96:=⟨(LB.a r.l).h⟩;haveI bb':BN r.l.b.natAbs 96:=⟨(LB.b r.l).h⟩;haveI bc:BN r.l.c.natAbs 96:=⟨(LB.c r.l).h⟩;obtain⟨g,hg⟩: ∃g,g=Nat.gcd r.l.a.natAbs r.l.b.natAbs:=⟨_,rfl⟩;haveI bg:BN g 96:=hg▸⟨I6 ba.h bb'.h⟩;have bgc:=I6 bg.h bc.h;have hgl:=kA bg.h;refine fn func127 J J ntmps127 J J (fun C=>?_);refine cl (fu:=⟨0⟩) J (Iw (neg:=r.na) (ds:=r.da) (by have:=s.a.2;omega)) J<|cv J (by show some (!decide _)=some false;rw[decide_eq_true h.1];rfl) J<|cl (fu:=⟨0⟩) J (Iw (neg:=r.nb) (ds:=r.db) (by have:=s.b.2;omega)) J<|cv J (by show some (!decide _)=some false;rw[decide_eq_true h.2.1];rfl) J<|cl (fu:=⟨0⟩) J (Iw (neg:=r.nc) (ds:=r.dc) (by have:=s.c.2;omega)) J<|cv J (by show some (!decide _)=some false;rw[decide_eq_true h.2.2];rfl) J<|cl J (Fq (neg:=r.na) (ds:=r.da) s.a.1 (by have:=s.a.2;omega)) J<|cl J (Fq (neg:=r.nb) (ds:=r.db) s.b.1 (by have:=s.b.2;omega)) J<|cl J (Fq (neg:=r.nc) (ds:=r.dc) s.c.1 (by have:=s.c.2;omega)) J<|cl (fu:=⟨0⟩) J (CU (a:=r.l.a.natAbs) (b:=r.l.b.natAbs)) J<|aj 39 (.d (dN g)) J (by rw[hg])<|gx (fu:=⟨8⟩) J<|aj 42 (.d (vI ((dg g).length:Nat))) J (by rw[b8]<;>rfl)<|gx (fu:=⟨0⟩) J<|jP (v2:=fun hg43=>by simp only[ak];kernel_rfl) J J J J (fun hg43=>?_) (fun hg43=>?_)
 .
  refine cl J (CU (a:=g) (b:=r.l.c.natAbs)) J<|cl J HY J<|cl J (BJ (a:=Nat.gcd g r.l.c.natAbs) (b:=1) (by have:=kA bgc;omega) (by have:=kA (show 1<2^32 by decide);omega)) J<|rz J (by unfold E4;rw[if_pos h,show decide (r.nm/\r.l.ok)=decide (jk (Nat.gcd g r.l.c.natAbs) 1=0) from decide_eq_decide.2 ⟨fun e=>Mp (by rw[hg];exact(Ij.1 e.2).2),fun e=>⟨h,Ij.2 ⟨by rw[<-hg];exact vH.1 we,by rw[<-hg];exact aHp e⟩⟩⟩];rfl)
 .
  exact rz J (by unfold E4;rw[if_pos h,show decide (r.nm/\r.l.ok)=false from decide_eq_false fun e=>by(have h1:=(Ij.1 e.2).1;rw[<-hg] at h1;have:=vH.2 h1;omega)];rfl)
def aKA{n i:Nat}[h:BN n i](hi:i<=20000000:=by decide):PF GB prog 257 [dN n] (dN n):=by
 have hl:=kA h.h;have:=RK (GB:=GB) (ds:=dg n) (gD n) we;rw[dm,<-M7] at this;exact this
def aAg(z:Int):qE (decide (z<0)) (dg z.natAbs)=z:=by
 unfold qE;rw[dm];split<;>(rename_i h;simp at h;omega)
def X7{z:Int}{i:Nat}[h:BI z i](hi:i<=20000000:=by decide):PF GB prog 193 [eI z] (eI z):=by
 have hl:=kA h.h;have:=Fq (GB:=GB) (neg:=decide (z<0)) (ds:=dg z.natAbs) (gD _) we;rw[aAg,<-M7] at this;exact this
def aK3{n:Nat}(h:0<n): ¬((((dg n).map dU).length:Nat):Int)=0:=by
 rw[aX];have:=wv (n:=n);omega
instance BQ.m1':BQ (((-1:Int):Int):Rat) 2:=⟨oma,oma⟩
instance BQ.m1:BQ (-1:Rat) 2:=⟨oma,oma⟩
def Uu{q:Rat}{i:Nat}[h:BQ q i](hi:i<=20000000:=by decide):PF GB prog 211 [eR q] (eQ q):=by
 have hd:=q.den_pos;refine fn func211 J J ntmps211 J J (fun C=>?_);refine cl (fu:=⟨8⟩) J (aKA (n:=q.den) hi) J<|cv J (omh (aK3 hd)) J<|cl J (X7 (z:=q.num) hi) J<|cl J (Ay (x:=q.num) (d:=q.den) hd we we) J<|rz J (by rw[sW];rfl)
def Up{q:Rat}{i:Nat}[h:BQ q i](hi:i<=400000000:=by decide):PF GB prog 67 [eQ q] (eR q):=by
 refine fn func67 J J ntmps67 J J (fun C=>?_);refine cl J (Fz (z:=q.num) hi) J<|cl J (jx (q:=q)) J<|cl J (SS (a:=q.den) hi) J<|rz J J
def aM6{p:ah}{i:Nat}[h:aD p i](hi:i<=20000000:=by decide):PF GB prog 152 [om p] (eP p):=by
 refine fn func152 J J ntmps152 J J (fun C=>?_);refine cl J (Uu (q:=p.x) hi) J<|cl J (Uu (q:=p.y) hi) J<|rz J J
def aLl{p:ah}{i:Nat}[h:aD p i](hi:i<=20000:=by decide):PF GB prog 30 [eP p] (om p):=by
 refine fn func30 J J ntmps30 J J (fun C=>?_);refine cl J (Up (q:=p.x) (i:=i) we) J<|cl J (Up (q:=p.y) (i:=i) we) J<|rz J J
def ez{α:Type}(f:α->DV)(l:List α):(l.map f).length=l.length:=aX ..
def SM(ps:List ah):cO 6 (ps.map eP):=fun d hd=>by
 obtain⟨u,_,rfl⟩:=aU.1 hd;exact⟨rfl,rfl⟩
def aHF(ps:List ah):cO 6 (ps.map om):=fun d hd=>by
 obtain⟨u,_,rfl⟩:=aU.1 hd;exact⟨rfl,rfl⟩
def aLS{ps:List ah}(hb: ∀p∈ps,aD p 1200)(hn:ps.length<=1000000):PF GB prog 94 [.sl (ps.map om)] (.sl (ps.map eP)):=by
 have hm:=ez om ps;refine fn (fu:=⟨15⟩) func94 J J ntmps94 J J (fun C=>?_);refine aj 7 (.d (vI (ps.length:Nat))) J omu<|gx J<|nr 3 3 63 6 J J J<|lp (X:=Nat) (fun k=>[(8, .d (vI (k:Nat))),(3, .rw 3)]) (fun k=>[(3,some (.b 63 6 ((ps.take k).map eP) true))]) (fun k=>k<=ps.length) (fun k=>ps.length-k) 0 J (aN _) (fun _=>J) (fun k hk=>?_);have hml:=ez eP (ps.take k);rw[bL] at hml;refine br J J J (fun hc9=>?_) (fun hc9=>?_)
 .
  obtain⟨z,hz⟩: ∃s,ps[k]? =some s:=⟨_,aZ we⟩;have hzm:=aK hz;refine ix _ J (cp hz) J<|cl J (aM6 (p:=z) (h:=hb z hzm)) J<|rf J J<|ap ((ps.take (k+1)).map eP) J (w6 hz) (SM [z]) J<|ek 16 3 J<|at_ (k+1) ⟨we,we⟩
 .
  obtain rfl:k=ps.length:=by omega
  refine gw 3 J<|rz J (by rw[cN];rfl)
def UZ{ps:List ah}(hb: ∀p∈ps,aD p 1200)(hn:ps.length<=1000000):PF GB prog 9 [.sl (ps.map eP)] (.sl (ps.map om)):=by
 have hm:=ez eP ps;refine fn (fu:=⟨15⟩) func9 J J ntmps9 J J (fun C=>?_);refine aj 7 (.d (vI (ps.length:Nat))) J omu<|gx J<|nr 3 3 79 6 J J J<|lp (X:=Nat) (fun k=>[(8, .d (vI (k:Nat))),(3, .rw 3)]) (fun k=>[(3,some (.b 79 6 ((ps.take k).map om) true))]) (fun k=>k<=ps.length) (fun k=>ps.length-k) 0 J (aN _) (fun _=>J) (fun k hk=>?_);have hml:=ez om (ps.take k);rw[bL] at hml;refine br J J J (fun hc9=>?_) (fun hc9=>?_)
 .
  obtain⟨z,hz⟩: ∃s,ps[k]? =some s:=⟨_,aZ we⟩;have hzm:=aK hz;refine ix _ J (cp hz) J<|cl J (aLl (p:=z) (h:=hb z hzm)) J<|rf J J<|ap ((ps.take (k+1)).map om) J (w6 hz) (aHF [z]) J<|ek 16 3 J<|at_ (k+1) ⟨we,we⟩
 .
  obtain rfl:k=ps.length:=by omega
  refine gw 3 J<|rz J (by rw[cN];rfl)
def Mr{p q:ah}{i j:Nat}[hp:aD p i][hq:aD q j](hi:i<=100000:=by decide)(hj:j<=100000:=by decide):PF GB prog 86 [eP p,eP q] (eP (cD p q (-1))):=by
 refine fn func86 J J ntmps86 J J (fun C=>?_);refine cl J (jh (n:= -1)) J<|cl J (uE (p:=p) (q:=q) (c:=((-1:Int):Rat)) (i:=i) (j:=j) (k:=2) we we) J<|rz J (by rw[show((-1:Int):Rat)= -1 from J];rfl)
def In{a b c:ah}{i j k:Nat}[ha:aD a i][hb:aD b j][hc:aD c k](hi:i<=80000:=by decide)(hj:j<=80000:=by decide)(hk:k<=80000:=by decide):PF GB prog 53 [eP a,eP b,eP c] (vI (vp a b c)):=by
 refine fn func53 J J ntmps53 J J (fun C=>?_);refine cl J (Mr (p:=b) (q:=a) (i:=j) (j:=i) we we) J<|cl J (Mr (p:=c) (q:=a) (i:=k) (j:=i) we we) J<|cl J (rE (p:=cD b a (-1)) (q:=cD c a (-1)) we we) J<|cl J (n5 (q:=(cD b a (-1)).cross (cD c a (-1)))) J<|rz J J
def BD(l:aa):Bool:=decide (l.a<0\/(l.a=0/\l.b<0))
def aa.canon(l:aa):aa:=if BD l then l.rev else l
def DN(a:Int):a.sign<0↔a<0:=by
 rcases qQ a 0 with h|h|h
 .rw[fQ h];omega
 .subst h;simp
 .rw[gQ h];omega
def Nm(a:Int):a.sign=0↔a=0:=iV
def Vb{l:aa}(h:l.a<0\/(l.a=0/\l.b<0)):DV.tp [eL l.canon,vB (BD l)]= .tp [eL l.rev,vB true]:=by
 unfold aa.canon BD;rw[decide_eq_true h];rfl
def RZ{l:aa}(h: ¬(l.a<0\/(l.a=0/\l.b<0))):DV.tp [eL l.canon,vB (BD l)]= .tp [eL l,vB false]:=by
 unfold aa.canon BD;rw[decide_eq_false h];rfl
def U3{l:aa}[hl:LB l]:PF GB prog 135 [eL l] (.tp [eL l.canon,vB (BD l)]):=by
 refine fn func135 J J ntmps135 J J (fun C=>?_);refine cl J (BS (z:=l.a)) J<|cs 10 J J J (fun hg10=>?_) (fun hg10=>?_)
 .
  refine cl J (ym (l:=l)) J<|rz J (by rw[Vb (.inl ((DN _).1 hg10))];rfl)
 .
  refine cs 13 J J J (fun hg13=>?_) (fun hg13=>?_)
  .
   refine cl J (BS (z:=l.b)) J<|br J J J (fun hc19=>?_) (fun hc19=>?_)
   .
    refine cl J (ym (l:=l)) J<|rz J (by rw[Vb (.inr ⟨(Nm _).1 hg13,(DN _).1 hc19⟩)];rfl)
   .
    exact rz J (by rw[RZ (fun e=>e.elim (fun e=>hg10 ((DN _).2 e)) (fun e=>hc19 ((DN _).2 e.2)))];rfl)
  .
   exact rz J (by rw[RZ (fun e=>e.elim (fun e=>hg10 ((DN _).2 e)) (fun e=>hg13 ((Nm _).2 e.1)))];rfl)
instance LB.canon (l:aa) [h:LB l]:LB l.canon:=by unfold aa.canon;split;exact LB.rev h;exact h
def O8{l:aa}(h:l.ok):l.canon.ok:=by unfold aa.canon;split;exact h.rev;exact h
def rD{α β:Type}(c:β->β->Int)(g:α->β)(l:List α)(k:Nat):List β:=uw c ((l.take k).map g)
section
variable {α β:Type} {c:β->β->Int} {g:α->β} {l:List α} {k:Nat}
def uD{x:α}(h:l[k]? =some x):rD c g l (k+1)=fe c (g x) (rD c g l k):=by
 unfold rD uw;rw[dJ,h,lZ,aL,mV];rfl
def Kb(h:k=l.length:=by omega):rD c g l k=uw c (l.map g):=by unfold rD;rw[h,cN]
def KR:(rD c g l k).length<=k:=by
 have:=Es c ((l.take k).map g) [];have h2:((l.take k).map g).length<=k:=by rw[aX,bL];omega
 rw[eX] at this;unfold rD uw;omega
def Ib{y:β}(h:y∈rD c g l k): ∃x∈l,y=g x:=by
 rcases Jy c h with h|h
 .obtain⟨x,hx,rfl⟩:=aU.1 h
  exact⟨x,eK hx,J⟩
 .cases h
end
def sE{α:Type}{f:α->DV}{s:Nat}(ok: ∀l:List α,cO s (l.map f))(xs:List α)(n:Nat):cO s ((xs.map f).take n):=fun d hd=>ok xs d (eK hd)
def q8{α:Type}{f:α->DV}{s:Nat}(ok: ∀l:List α,cO s (l.map f))(xs:List α)(n m:Nat):cO s (((xs.map f).take n).drop m):=fun d hd=>ok xs d (eK (iZ hd))
def sB{α:Type}{f:α->DV}{s:Nat}(ok: ∀l:List α,cO s (l.map f))(xs:List α)(n m:Nat)(x:α):cO s ([f x]++((xs.map f).take n).drop m):=fun d hd=>by
 rcases bZ.1 hd with h|h
 .exact ok [x] d h
 .exact q8 ok xs n m d h
def pE{α:Type}{f:α->DV}{l:List α}{i:Nat}(h:i<l.length:=by omega):(l.map f)[(i:Int).toNat]? =some (f l[i]):=by
 rw[cK,cJ,aZ h];rfl
def mE(ls:List aa):List aa:=uw et (ls.map aa.canon)
def EV{ls:List aa}{y:aa}(h:y∈mE ls): ∃x∈ls,y=x.canon:=by
 rcases Jy et h with h|h
 .obtain⟨x,hx,rfl⟩:=aU.1 h;exact⟨x,hx,rfl⟩
 .cases h
theorem omx{p:Prop}(h:p:=by dsimp only;exact⟨⟨by rw[uD hz,<-hS,<-hmc];exact hin.symm,we⟩,we⟩):p:=h
theorem oze{p:Prop}(h:p:=by rw[hfin];rfl):p:=h
def aul{ls:List aa}(hb: ∀p∈ls,LB p)(hn:ls.length<=100000):PF GB prog 71 [.sl (ls.map eL)] (.sl ((mE ls).map eL)):=by
 have hm':=ez eL ls;refine fn (fu:=⟨15⟩) func71 J J ntmps71 J J (fun C=>?_);refine aj 8 (.d (vI (ls.length:Nat))) J (by rw[hm'];rfl)<|gx J<|Dl 3 J<|lp (X:=List aa×Nat) (fun⟨xs,k⟩=>[(9, .d (vI (k:Nat))),(8, .d (vI (ls.length:Nat))),(7, .d (.sl (ls.map eL))),(0, .d (.sl (ls.map eL))),(3, .d (.sl (xs.map eL)))]) (fun⟨xs,k⟩=>[]) (fun⟨xs,k⟩=>xs=rD et aa.canon ls k/\k<=ls.length) (fun⟨xs,k⟩=>ls.length-k) ⟨[],0⟩ J ⟨J,aN _⟩ (fun _=>J) (fun⟨xs,k⟩ hk=>?_)
 try dsimp only at hk⊢
 obtain⟨hS,hkl⟩:=hk;refine br J J J (fun hc10=>?_) (fun hc10=>?_)
 .
  have hk:k<ls.length:=by omega
  obtain⟨z,hm⟩: ∃m,m=ls[k]:=⟨_,rfl⟩;have hz:ls[k]? =some z:=by rw[hm];exact aZ hk
  haveI hzb:LB z:=hm▸hb _ (dQ hk);obtain⟨m,hmc⟩: ∃m,m=z.canon:=⟨_,rfl⟩;haveI hmb:LB m:=by rw[hmc];infer_instance
  have hxl:=ez eL xs;have hxn:xs.length<=k:=by rw[hS];exact KR
  have hxb: ∀q∈xs,LB q:=fun q hq=>by rw[hS] at hq;obtain⟨z,hz,rfl⟩:=Ib hq;haveI:=hb z hz;infer_instance
  refine ix (fu:=⟨1⟩) _ J (pE hk) J<|aj 12 (.d (eL z)) J okY<|gx J<|cl (fu:=⟨2⟩) J (U3 (l:=z)) J<|aj 16 (.d (eL m)) J (by rw[hmc])<|gx (fu:=⟨10⟩) J<|mg (fu:=⟨5⟩) (X:=Unit) (fun _=>[(9, .d (vI (k:Nat))),(8, .d (vI (ls.length:Nat))),(7, .d (.sl (ls.map eL))),(0, .d (.sl (ls.map eL))),(3, .d (.sl (xs.map eL))),(5, .ov 5 0),(6, .d (vI (me et m xs:Nat)))]) (fun _=>[(5,some (.o 54 [.d ((.v (.bool (decide (m.a<0))))), .d (dN m.a.natAbs), .d ((.v (.bool (decide (m.b<0))))), .d (dN m.b.natAbs), .d ((.v (.bool (decide (m.c<0))))), .d (dN m.c.natAbs)] true))]) (fun _=>True) [9,8,7,0,3,5,6] [5] rfl ?_ (fun _=>J) (fun _ _=>?_)
  .
   refine gx J<|lp (fu:=⟨6⟩) (X:=Nat) (fun n=>[(9, .d (vI (k:Nat))),(8, .d (vI (ls.length:Nat))),(7, .d (.sl (ls.map eL))),(0, .d (.sl (ls.map eL))),(3, .d (.sl (xs.map eL))),(5, .ov 5 0),(6, .d (vI (n:Nat)))]) (fun n=>[(5,some (.o 54 [.d ((.v (.bool (decide (m.a<0))))), .d (dN m.a.natAbs), .d ((.v (.bool (decide (m.b<0))))), .d (dN m.b.natAbs), .d ((.v (.bool (decide (m.c<0))))), .d (dN m.c.natAbs)] true))]) (fun n=>n<=xs.length/\ ∀j (h:j<xs.length),j<n->et xs[j] m<0) (fun n=>xs.length-n) 0 J ⟨aN _,fun j _ hj=>absurd hj we⟩ (fun _=>J) (fun n hk=>?_);obtain⟨n1,n2⟩:=hk;refine jP (v2:=fun hg21=>by simp only[ak];kernel_rfl) J J J J (fun hg21=>?_) (fun hg21=>?_)
   .
    refine ix _ J (pE) J<|cl J (Ag (l:=xs[n]' we) (m:=m) (hl:=hxb _ (dQ we)) (hm:=hmb)) J<|br J J J (fun hc30=>?_) (fun hc30=>?_)
    .
     exact at_ (n+1) ⟨⟨we,fun j h hj=>by by_cases q:j=n;(subst q;exact hc30);exact n2 j h we⟩,we⟩
    .
     have hidx:me et m xs=n:=tc et n1 n2 (fun h=>hc30);exact at_ () trivial
   .
    have hidx:me et m xs=n:=tc et n1 n2 (fun h=>absurd h we);exact at_ () trivial
  .
   obtain⟨n,hnx⟩: ∃n,me et m xs=n:=⟨_,rfl⟩;rw[hnx];have hnl:n<=xs.length:=by rw[<-hnx];exact Ct _ _ _
   refine jP (v1:=fun hg36=>by simp only[ak];kernel_rfl) J J J J (fun hg36=>?_) (fun hg36=>?_)
   .
    have hnew: ∀h:n<xs.length,et xs[n] m≠0:=fun h=>absurd h we;obtain⟨ys,hys⟩: ∃ys,ys=xs.take n++m::xs.drop n:=⟨_,rfl⟩;have hin:fe et m xs=ys:=by rw[hys];exact qD et hnx hnew
    have hyl:ys.length<=xs.length+1:=by rw[hys];simp;omega
    refine s3 n _ J J J J (du _) omD J<|ro J J<|kp n xs.length _ J J okl J (du _) hnl we J<|ap _ J J (q8 du _ _ _) J<|kz (hv:=by simp only[ak];exact⟨omd,we⟩) (ho:=fun _=>⟨sE du _ _,omc⟩) (ys.map eL) J omy (sB du _ _ _ _) J<|at_ ⟨ys,k+1⟩ omx
   .
    refine ix _ J (pE) J<|cl J (Ag (l:=xs[n]' we) (m:=m) (hl:=hxb _ (dQ we)) (hm:=hmb)) J<|br J J J (fun hc45=>?_) (fun hc45=>?_)
    .
     have hnew: ∀h:n<xs.length,et xs[n] m≠0:=fun h=>hc45;obtain⟨ys,hys⟩: ∃ys,ys=xs.take n++m::xs.drop n:=⟨_,rfl⟩;have hin:fe et m xs=ys:=by rw[hys];exact qD et hnx hnew
     have hyl:ys.length<=xs.length+1:=by rw[hys];simp;omega
     refine s3 n _ J J J J (du _) omD J<|ro J J<|kp n xs.length _ J J okl J (du _) hnl we J<|ap _ J J (q8 du _ _ _) J<|kz (hv:=by simp only[ak];exact⟨omd,we⟩) (ho:=fun _=>⟨sE du _ _,omc⟩) (ys.map eL) J omy (sB du _ _ _ _) J<|at_ ⟨ys,k+1⟩ omx
    .
     have hin:fe et m xs=xs:=BE et hnx we (Decidable.not_not.1 hc45);exact at_ ⟨xs,k+1⟩ omx
 .
  have hfin:mE ls=xs:=by rw[hS,Kb];rfl
  exact rz J oze
def D9{α:Type}{c:α->α->Int}(hc: ∀u x,c u x=0->u=x){x y:α}: ∀{xs:List α},y=x\/y∈xs->y∈fe c x xs
 |[],h=>by
  rcases h with rfl|h
  .rw[fe];exact aT.2 J
  .cases h
 |u::t,h=>by
  rw[fe];split
  .rcases h with rfl|h
   .exact aJ _ (D9 hc (.inl J))
   .rcases aW.1 h with rfl|h
    .exact aQ
    .exact aJ _ (D9 hc (.inr h))
  .split
   .rename_i h0
    rcases h with rfl|h
    .rw[<-hc _ _ h0];exact aQ
    .exact h
   .rcases h with rfl|h
    .exact aQ
    .exact aJ _ h
def Pa{α:Type}{c:α->α->Int}(hc: ∀u x,c u x=0->u=x){y:α}: ∀{l o:List α},y∈l\/y∈o->y∈l.foldl (fun out x=>fe c x out) o
 |[],o,h=>h.elim (fun h=>by cases h) id
 |x::t,o,h=>by
  refine Pa hc (l:=t) ?_;rcases h with h|h
  .rcases aW.1 h with rfl|h
   .exact .inr (D9 hc (.inl J))
   .exact .inl h
  .exact .inr (D9 hc (.inr h))
def OI{ls:List aa}{x:aa}(h:x∈ls):x.canon∈mE ls:=
 Pa (fun u x e=>(DT u x).1 e) (.inl (dX h))
def Nk(l:aa)(p:ah):l.canon.value p=l.value p\/l.canon.value p= -l.value p:=by
 unfold aa.canon;split
 .exact .inr (en l p)
 .exact .inl J
def Mq{ls:List aa}{p:ah}:cA (mE ls) p↔cA ls p:=by
 constructor
 .intro h l hl e
  have:=h _ (OI hl);rcases Nk l p with k|k<;>rw[k,e] at this<;>exact this omc
 .intro h l hl e
  obtain⟨x,hx,rfl⟩:=EV hl;have:=h x hx;rcases Nk x p with k|k<;>rw[k] at e
  .exact this e
  .exact this omb
def Xc{ls:List aa}{p q:ah}(hp:cA ls p)(hq:cA ls q)(h: ∀l∈mE ls,0<l.value p↔0<l.value q): ∀l∈ls,0<l.value q↔0<l.value p:=fun l hl=>by
 have h1:=h _ (OI hl);have h2:=hp l hl;have h3:=hq l hl;unfold aa.canon at h1;split at h1
 .rw[en,en] at h1
  constructor
  .intro k
   rcases jI (l.value p) with e|e|e
   .exact absurd e h2
   .exact e
   .have:=h1.1 omb;grind
  .intro k
   rcases jI (l.value q) with e|e|e
   .exact absurd e h3
   .exact e
   .have:=h1.2 omb;grind
 .exact h1.symm
def oB(a b:Tr):List ah:=qo (mE (a.lns++b.lns))
def aF2{a b:Tr}(ha:a.all aa.ok)(hb:b.all aa.ok){R:Bool->Bool->Prop}:(∀p∈oB a b,R (kI a p) (kI b p))↔ ∀p,cA (a.lns++b.lns) p->R (a.val p) (b.val p):=by
 have hok: ∀l∈a.lns++b.lns,l.ok:=fun l hl=>(bZ.1 hl).elim (pd ha l) (pd hb l);have hne: ∀l∈mE (a.lns++b.lns),l.Ne:=fun l hl=>by
  obtain⟨x,hx,rfl⟩:=EV hl;exact(O8 (hok x hx)).ne
 constructor
 .intro h p hp
  obtain⟨q,hq,hs⟩:=ayp hne (Mq.2 hp);have ho:=Mq.1 (NB hne hq);have hsd:=Xc hp ho hs;have k:=h q hq;rw[BO (cA.app.1 ho).1,BO (cA.app.1 ho).2,HU (t:=a) hsd (fun l hl=>bU _ hl),HU (t:=b) hsd (fun l hl=>bQ _ hl)] at k;exact k
 .intro h p hp
  have ho:=Mq.1 (NB hne hp);rw[BO (cA.app.1 ho).1,BO (cA.app.1 ho).2];exact h p ho
def uu(a b:Tr):Bool:=(oB a b).all fun p=>kI a p==kI b p
def aAh{a b:Tr}(ha:a.all aa.ok)(hb:b.all aa.ok):uu a b=Ha 4 a b:=by
 rw[rW,(u7.mk0 ha hb).none,uu,dV,aF2 ha hb (R:=fun x y=>(x==y)=true)];unfold uq;simp
def Y5{a b:Tr}(ha:a.all aa.ok)(hb:b.all aa.ok){L:List aa}(hL: ∀l∈L,l.ok)(hLa: ∀l∈a.lns,l∈L)(hLb: ∀l∈b.lns,l∈L)(h: ∀p,cA L p->a.val p=b.val p):uu a b=true:=by
 rw[aAh ha hb,(u7.mk ha hb hL hLa hLb).none];intro p hp;rw[h p hp];unfold uq;simp
def eG.trans{u v w:ah}(hu:u.half≠0)(hv:v.half≠0)(hw:w.half≠0)(h:eG u v)(k:eG v w):eG u w:=by
 rcases h with h|⟨h,h'⟩<;>rcases k with k|⟨k,k'⟩
 .exact .inl we
 .exact .inl we
 .exact .inl we
 .refine .inr ⟨h.trans k,?_⟩
  have id1:u.cross w*v.y=u.cross v*w.y+v.cross w*u.y:=by unfold ah.cross;grind
  rcases wo v with⟨x,q⟩|⟨x,q⟩|⟨x,q⟩
  .rw[x] at h k
   have qu:=qf.1 h;have qw:=qf.1 k.symm;rcases q with q|⟨q,q'⟩
   .rw[<-gk q,id1]
    have wy:0<=w.y:=by grind
    have uy:0<=u.y:=by grind
    have a1:=cI (dZ h') wy;rcases qu with qu|⟨qu,qu'⟩
    .have:=c9 k' qu;grind
    .rcases qw with qw|⟨qw,qw'⟩
     .have:=c9 h' qw;rw[qu];grind
     .exfalso
      have hx:v.cross w= -(w.x*v.y):=by unfold ah.cross;rw[qw];grind
      have:=c9 qw' q;grind
   .exfalso
    have hx:u.cross v= -(v.x*u.y):=by unfold ah.cross;rw[q];grind
    have:=cI (a:=v.x) (b:=u.y) (dZ q') omb;grind
  .rw[x] at h k
   have qu:=vE.1 h;have qw:=vE.1 k.symm;rcases q with q|⟨q,q'⟩
   .have e1:u.cross w* -v.y=u.cross v* -w.y+v.cross w* -u.y:=by grind
    rw[<-gk (k:= -v.y) omb,e1];have a1:=cI (a:=u.cross v) (b:= -w.y) (dZ h') omb;rcases qu with qu|⟨qu,qu'⟩
    .have:=c9 (a:=v.cross w) (b:= -u.y) k' omb;grind
    .rcases qw with qw|⟨qw,qw'⟩
     .have:=c9 (a:=u.cross v) (b:= -w.y) h' omb;rw[qu];grind
     .exfalso
      have hx:v.cross w= -(-w.x* -v.y):=by unfold ah.cross;rw[qw];grind
      have:=c9 (a:= -w.x) (b:= -v.y) omb omb;grind
   .exfalso
    have hx:u.cross v= -(-v.x* -u.y):=by unfold ah.cross;rw[q];grind
    have:=cI (a:= -v.x) (b:= -u.y) omb omb;grind
  .exact absurd x hv
def FS{l:aa}(h:l.ok):l.dir.half≠0:=fun e=>by
 have hn:=h.ne;unfold aa.Ne at hn;rcases wo l.dir with⟨k,_⟩|⟨k,_⟩|⟨_,k1,k2⟩
 .rw[k] at e;cases e
 .rw[k] at e;cases e
 .unfold aa.dir at k1 k2
  simp only at k1 k2;apply hn;refine⟨?_,cM.1 k2⟩;have:(l.a:Rat)=0:=by grind
  exact cM.1 this
def Yv{u v:ah}:gr u v=0↔u.half=v.half/\u.cross v=0:=by
 unfold gr;split
 .constructor
  .intro h;exact absurd h oma
  .intro h;omega
 .split
  .constructor
   .intro h;exact absurd h oma
   .intro h;omega
  .constructor
   .intro h
    exact⟨we,(qp _).1 we⟩
   .intro h
    rw[(qp _).2 h.2];rfl
def DH{u v w:ah}(h:eG u v)(k:eG v w):eG u w:=by
 by_cases hu:u.half=0
 .by_cases hw:w.half=0
  .have z: ∀x y:ah,x.half=0->x.cross y=0:=fun x y hx=>by
    rcases wo x with⟨e,_⟩|⟨e,_⟩|⟨_,e1,e2⟩
    .rw[hx] at e;exact absurd e oma
    .rw[hx] at e;exact absurd e oma
    .unfold ah.cross;rw[e1,e2];grind
   rcases h with h|⟨h,h'⟩
   .rcases k with k|⟨k,k'⟩
    .omega
    .have hv:v.half≠0:=by omega
     omega
   .rw[z u v hu] at h';exact absurd h' oma
  .refine .inl ?_
   have h1:=oE hw;omega
 .have hv:v.half≠0:=by
   intro e;rcases h with h|⟨h,_⟩
   .have:=oE hu;omega
   .omega
  have hw:w.half≠0:=by
   intro e;rcases k with k|⟨k,_⟩
   .have:=oE hv;omega
   .omega
  exact eG.trans hu hv hw h k
section
variable {α:Type} (c:α->α->Int)
end
def zk(u:ah): ¬eG u u:=by
 rintro (h|⟨_,h⟩)
 .omega
 .have:u.cross u=0:=by unfold ah.cross;grind
  rw[this] at h;exact absurd h oma
def Cn{u v:ah}(h:eG u v)(k:eG v u):False:=zk u (DH h k)
def TG{x y:ah}(h: ¬eG x y)(k: ¬eG y x):gr x y=0:=by
 rw[<-Av] at h k;unfold gr at*;split at h<;>try omega
 split at h<;>try omega
 split at k<;>try omega
 rw[show y.cross x= -(x.cross y) by unfold ah.cross;grind,oW,Int.sign_neg] at k;omega
def BT(vs:List ar):cO 8 (vs.map eV):=fun d hd=>by
 obtain⟨u,_,rfl⟩:=aU.1 hd;exact⟨rfl,rfl⟩
def fj(qs:List Rat):cO 3 (qs.map eQ):=fun d hd=>by
 obtain⟨u,_,rfl⟩:=aU.1 hd;exact⟨rfl,rfl⟩
def TQ(bs:List Bool):cO 1 (bs.map vB):=fun d hd=>by
 obtain⟨u,_,rfl⟩:=aU.1 hd;exact⟨rfl,rfl⟩
def W6{l:List ar}{k:Nat}{v:ar}{t:Rat}{a b:Int}(h:l[k]? =some v)(ha:a=if v.nl then 1 else bE t v.lo)(hb:b=if v.nh then-1 else bE t v.hi):
  vY (l.drop k) t=if 0<a/\b<0 then 2 else if(a=0/\b<=0)\/(b=0/\0<=a) then 1 else vY (l.drop (k+1)) t:=by
 obtain⟨hk,rfl⟩:=aR.1 h;rw[bK hk,vY,ha,hb]
structure nE (v:ar):Prop where
 lo:BQ v.lo 1200
 hi:BQ v.hi 1200
theorem omn{p:Prop}(h:p:=by first|(rw[<-h2,fL];rfl)|(rw[<-h2,hst,if_pos we];rfl)|(rw[<-h2,hst,if_neg we,if_pos we];rfl)):p:=h
def Xz{l:List ar}{t:Rat}{i:Nat}[ht:BQ t i](hb: ∀v∈l,nE v)(hn:l.length<=100000)(hi:i<=20000:=by decide):PF GB prog 283 [.sl (l.map eV),eQ t] (vI (vY l t)):=by
 have hm:=ez eV l;refine fn (fu:=⟨11⟩) func283 J J ntmps283 J J (fun C=>?_);refine aj 10 (.d (vI (l.length:Nat))) J omu<|gx J<|lp (X:=Nat) (fun k=>[(11, .d (vI (k:Nat)))]) (fun k=>[]) (fun k=>k<=l.length/\vY (l.drop k) t=vY l t) (fun k=>l.length-k) 0 J ⟨aN _,J⟩ (fun _=>J) (fun k hk=>?_);obtain⟨h1,h2⟩:=hk;refine br J J J (fun hc12=>?_) (fun hc12=>?_)
 .
  obtain⟨v,hz⟩: ∃s,l[k]? =some s:=⟨_,aZ we⟩;have hv:=hb v (aK hz);haveI:=hv.lo;haveI:=hv.hi;refine ix (fu:=⟨12⟩) _ J (cp hz) J<|mg (fu:=⟨1⟩) (X:=Int) (fun a=>[(7, .d (vI a))]) (fun a=>[]) (fun a=>a=if v.nl then 1 else bE t v.lo) [7] [] rfl ?_ (fun _=>J) (fun a ha=>?_)
  .
   refine gx J<|bb J J J (fun hc17=>?_) (fun hc17=>?_)
   .
    refine cl J (lm (a:=t) (b:=v.lo) (i:=i) we) J<|at_ (bE t v.lo) (by rw[if_neg (by simpa using hc17)])
   .
    exact at_ 1 (by rw[if_pos (by simpa using hc17)])
  .
   refine mg (X:=Int) (fun b=>[(8, .d (vI b))]) (fun b=>[]) (fun b=>b=if v.nh then-1 else bE t v.hi) [8] [] rfl ?_ (fun _=>J) (fun b hb'=>?_)
   .
    refine gx J<|bb J J J (fun hc24=>?_) (fun hc24=>?_)
    .
     refine cl J (lm (a:=t) (b:=v.hi) (i:=i) we) J<|at_ (bE t v.hi) (by rw[if_neg (by simpa using hc24)])
    .
     exact at_ (-1) (by rw[if_pos (by simpa using hc24)])
   .
    have hst:=W6 hz ha hb';refine cs 31 J J J (fun hg31=>?_) (fun hg31=>?_)
    .
     refine br J J J (fun hc34=>?_) (fun hc34=>?_)
     .
      exact rz J omn
     .
      refine cs 37 J J J (fun hg37=>?_) (fun hg37=>?_)
      .
       refine cs 41 J J J (fun hg41=>?_) (fun hg41=>?_)
       .
        exact rz J omn
       .
        refine cs 44 J J J (fun hg44=>?_) (fun hg44=>?_)
        .
         refine br J J J (fun hc48=>?_) (fun hc48=>?_)
         .
          exact rz J omn
         .
          exact at_ (k+1) ⟨⟨we,by rw[<-h2,hst,if_neg we,if_neg we]⟩,we⟩
        .
         exact at_ (k+1) ⟨⟨we,by rw[<-h2,hst,if_neg we,if_neg we]⟩,we⟩
      .
       refine cs 44 J J J (fun hg44=>?_) (fun hg44=>?_)
       .
        refine br J J J (fun hc48=>?_) (fun hc48=>?_)
        .
         exact rz J omn
        .
         exact at_ (k+1) ⟨⟨we,by rw[<-h2,hst,if_neg we,if_neg we]⟩,we⟩
       .
        exact at_ (k+1) ⟨⟨we,by rw[<-h2,hst,if_neg we,if_neg we]⟩,we⟩
    .
     refine cs 37 J J J (fun hg37=>?_) (fun hg37=>?_)
     .
      refine cs 41 J J J (fun hg41=>?_) (fun hg41=>?_)
      .
       exact rz J omn
      .
       refine cs 44 J J J (fun hg44=>?_) (fun hg44=>?_)
       .
        refine br J J J (fun hc48=>?_) (fun hc48=>?_)
        .
         exact rz J omn
        .
         exact at_ (k+1) ⟨⟨we,by rw[<-h2,hst,if_neg we,if_neg we]⟩,we⟩
       .
        exact at_ (k+1) ⟨⟨we,by rw[<-h2,hst,if_neg we,if_neg we]⟩,we⟩
     .
      refine cs 44 J J J (fun hg44=>?_) (fun hg44=>?_)
      .
       refine br J J J (fun hc48=>?_) (fun hc48=>?_)
       .
        exact rz J omn
       .
        exact at_ (k+1) ⟨⟨we,by rw[<-h2,hst,if_neg we,if_neg we]⟩,we⟩
      .
       exact at_ (k+1) ⟨⟨we,by rw[<-h2,hst,if_neg we,if_neg we]⟩,we⟩
 .
  obtain rfl:k=l.length:=by omega
  exact rz J omn
def Q4{l:List ar}{t:Rat}{i:Nat}[ht:BQ t i](hb: ∀v∈l,nE v)(hn:l.length<=100000)(hi:i<=20000:=by decide):PF GB prog 264 [.sl (l.map eV),eQ t] (vB (gH l t)):=by
 refine fn func264 J J ntmps264 J J (fun C=>?_);refine cl J (Xz (l:=l) (t:=t) hb hn hi) J<|rz J J
def Jo: ∀{l:List Rat} {i:Nat} {a b:Rat},l[i]? =some a->l[i+1]? =some b->je (l.take (i+2))=je (l.take (i+1))++[(a+b)/2]
 |[],i,a,b,h,_=>by simp at h
 |[_],i,a,b,h,k=>by simp at k
 |c::d::t,0,a,b,h,k=>by
  simp at h k;subst h;subst k;simp[je]
 |c::d::t,i+1,a,b,h,k=>by
  have:=Jo (l:=d::t) (i:=i) omE (by simpa using k);rw[show(c::d::t).take (i+1+2)=c::d::t.take (i+1) by simp,show(c::d::t).take (i+1+1)=c::d::t.take i by simp,je,je,gL];congr 1
def DX: ∀l:List Rat,(je l).length<=l.length
 |[]=>bV _
 |[_]=>aN _
 |a::b::t=>by rw[je,aS,aS];exact Nat.succ_le_succ (DX (b::t))
def Vz{a:Rat}{t:List Rat}{z:Rat}(h:(a::t)[t.length]? =some z):cB (a::t)=(a-1)::(je (a::t)++[z+1]):=by
 rw[cB];have:(a::t).getLast omc=z:=by
  rw[List.getLast_eq_getElem];have:=aR.1 h;obtain⟨h1,h2⟩:=this;rw[<-h2];congr 1
 rw[this]
theorem okD{p:Prop}(h:p:=by rw[show((((ct.length+1:Nat):Int))-1).toNat=ct.length by omega,cJ,hz];rfl):p:=h
theorem okX{p:Prop}(h:p:=by rw[hm2]<;>rfl):p:=h
theorem okZ{p:Prop}(h:p:=by rw[show((((i+1:Nat):Int))-1).toNat=i by omega,cJ,hu];rfl):p:=h
def Zx{cuts:List Rat}(hb: ∀q∈cuts,BQ q 1200)(hn:cuts.length<=100000):PF GB prog 263 [.sl (cuts.map eQ)] (.sl ((cB cuts).map eQ)):=by
 have hm:=ez eQ cuts;refine fn (fu:=⟨10⟩) func263 J J ntmps263 J J (fun C=>?_);refine aj 6 (.d (vI (cuts.length:Nat))) J omu<|gx J<|br J J J (fun hc7=>?_) (fun hc7=>?_)
 .
  obtain rfl:cuts=[]:=cY we;refine rf J J<|rz J (by rw[cB];show DV.sl [_]=DV.sl [_];rw[Ml])
 .
  obtain⟨a,ct,rfl⟩: ∃a t,cuts=a::t:=by cases cuts with|nil=>exact absurd rfl hc7|cons a t=>exact⟨a,t,rfl⟩
  haveI hab:=hb a aQ;have hcl:ct.length+1<=100000:=hn;refine ix _ J J J<|cl J (jh (n:=1)) J<|cl (fu:=⟨0⟩) J (sr (a:=a) (b:=((1:Int):Rat))) J<|aj 14 (.d (eQ (a-1))) J J<|gx J<|ro J J<|lp (fu:=⟨6⟩) (X:=Nat) (fun i=>[(4, .d (vI ((i+1:Nat):Int))),(3, .rw 15)]) (fun i=>[(15,some (.b 61 3 (((a-1)::je ((a::ct).take (i+1))).map eQ) true))]) (fun i=>i<=ct.length) (fun i=>ct.length-i) 0 J (aN _) (fun _=>J) (fun i hk=>?_);have hm2:=ez eQ (a::ct);have hml:=DX (a::ct.take i);rw[aS,bL] at hml;have hml2:=DX (a::ct);rw[aS] at hml2;refine aj 18 (.d (vI ((ct.length+1:Nat):Int))) J okX<|gx J<|br (fu2:=⟨11⟩) J J J (fun hc19=>?_) (fun hc19=>?_)
  .
   obtain⟨u,hu⟩: ∃s,(a::ct)[i]? =some s:=⟨_,aZ omq⟩;obtain⟨w,hw⟩: ∃s,(a::ct)[i+1]? =some s:=⟨_,aZ omq⟩;haveI:=hb u (aK hu);haveI:=hb w (aK hw);refine ix _ J okZ J<|ix _ J (by rw[cK,cJ,hw];rfl) J<|?_;refine cl J (Gf (a:=u) (b:=w)) J<|rf J J<|ap (hv:=by simp only[ak];exact⟨omd,we⟩) (((a-1)::je ((a::ct).take (i+1+1))).map eQ) J (by rw[Jo hu hw,<-gL,aL];rfl) (fj [(u+w)/2]) J<|ek 34 15 J<|at_ (i+1) ⟨we,we⟩
  .
   obtain rfl:i=ct.length:=by omega
   obtain⟨z,hz⟩: ∃s,(a::ct)[ct.length]? =some s:=⟨_,aZ omc⟩;haveI:=hb z (aK hz);rw[show(a::ct).take (ct.length+1)=a::ct from cN (l:=a::ct)];refine aj 38 (.d (vI ((ct.length+1:Nat):Int))) J okX<|gx J<|ix _ J okD J<|cl J (jh (n:=1)) J<|?_;refine cl J (m8 (a:=z) (b:=((1:Int):Rat))) J<|rf J J<|ap ((cB (a::ct)).map eQ) J (by rw[Vz hz,<-gL,aL];rfl) (fj [z+1]) J<|gw 45 J<|rz J J
def Qy(o:List Rat)(s:ar):(pc o s).length<=o.length+2:=by
 unfold pc;have h:=fun(x:Rat) (l:List Rat)=>Bl (x:=x) (l:=l)▸Fk bE x l;have h1:=h s.lo o;have h2:=h s.hi o;have h3:=h s.hi (lu s.lo o);split<;>split<;>omega
def rh(l:List ar)(k:Nat):List Rat:=kr (l.take k)
def Og{l:List ar}{k:Nat}{v:ar}(h:l[k]? =some v):rh l (k+1)=pc (rh l k) v:=by
 unfold rh kr;rw[dJ,h,mV];rfl
def FI(l:List ar): ∀k,(rh l k).length<=2*k
 |0=>bV _
 |k+1=>by
  cases h:l[k]? with
  |none=>
   have:=FI l k;unfold rh at*;rw[dJ,h];simp;omega
  |some v=>rw[Og h];have:=FI l k;have:=Qy (rh l k) v;omega
theorem Rr{l:List ar}(hb: ∀v∈l,nE v){k:Nat}: ∀y∈rh l k,BQ y 1200:=fun y hy=>by
 obtain⟨s,hs,h⟩:=(Tj _).2 y hy;have:=hb s (eK hs);rcases h with⟨_,rfl⟩|⟨_,rfl⟩
 .exact this.lo
 .exact this.hi
def tg(o:List Rat)(v:ar)(j:Nat):List Rat:=if j=0 then o else if j=1 then(if v.nl then o else lu v.lo o) else pc o v
def Cq(v:ar)(j:Nat):Rat:=if j=0 then v.lo else v.hi
def qH(v:ar)(j:Nat):Bool:=if j=0 then v.nl else v.nh
def w5{o:List Rat}{v:ar}{j:Nat}(hj:j<2:=by decide):tg o v (j+1)=if qH v j then tg o v j else fe bE (Cq v j) (tg o v j):=by
 have:j=0\/j=1:=by omega
 rcases this with rfl|rfl
 .simp[tg,qH,Cq,Bl]
 .simp[tg,qH,Cq,pc,Bl]
def aAI{o:List Rat}{v:ar}{j:Nat}(hj:j<=2):(tg o v j).length<=o.length+2:=by
 unfold tg;have:=Qy o v;have h:=Bl (x:=v.lo) (l:=o)▸Fk bE v.lo o;split
 .omega
 .split
  .split<;>omega
  .exact this
theorem ZM{o:List Rat}(ho: ∀q∈o,BQ q 1200){v:ar}(hv:nE v){j:Nat}(hj:j<=2): ∀q∈tg o v j,BQ q 1200:=fun q hq=>by
 unfold tg pc at hq;have lo:=hv.lo;have hi:=hv.hi;split at hq
 .exact ho q hq
 .split at hq
  .split at hq
   .exact ho q hq
   .rcases rI.1 hq with rfl|hq
    .exact lo
    .exact ho q hq
  .split at hq
   .split at hq
    .exact ho q hq
    .rcases rI.1 hq with rfl|hq
     .exact lo
     .exact ho q hq
   .rcases rI.1 hq with rfl|hq
    .exact hi
    .split at hq
     .exact ho q hq
     .rcases rI.1 hq with rfl|hq
      .exact lo
      .exact ho q hq
theorem omz{p:Prop}(h:p:=by rw[hys,aL,bY,iT,iL,bM (l:=xs.map eQ) (i:=xs.length) omc];rfl):p:=h
theorem omK{p:Prop}(h:p:=by dsimp only;exact⟨⟨by rw[w5,if_neg (by simpa[qH] using hg32),<-g1,<-hm2,hin],we⟩,we⟩):p:=h
theorem omL{p:Prop}(h:p:=by dsimp only;exact⟨⟨by rw[w5,if_neg (by simpa[qH] using hc39),<-g1,<-hm2,hin],we⟩,we⟩):p:=h
def aHR{l:List ar}(hb: ∀v∈l,nE v)(hn:l.length<=10000):PF GB prog 262 [.sl (l.map eV)] (.sl ((kr l).map eQ)):=by
 have hm:=ez eV l;refine fn (fu:=⟨15⟩) func262 J J ntmps262 J J (fun C=>?_);refine aj 10 (.d (vI (l.length:Nat))) J omu<|gx J<|Dl 3 J<|lp (X:=List Rat×Nat) (fun⟨o,k⟩=>[(11, .d (vI (k:Nat))),(3, .d (.sl (o.map eQ)))]) (fun⟨o,k⟩=>[]) (fun⟨o,k⟩=>o=rh l k/\k<=l.length) (fun⟨o,k⟩=>l.length-k) ([],0) J ⟨J,aN _⟩ (fun _=>J) (fun⟨o,k⟩ hk=>?_);dsimp only at hk⊢;obtain⟨h1,h2⟩:=hk;refine br J J J (fun hc12=>?_) (fun hc12=>?_)
 .
  obtain⟨v,hz⟩: ∃s,l[k]? =some s:=⟨_,aZ we⟩;have hv:=hb v (aK hz);haveI:=hv.lo;haveI:=hv.hi;have hob:=Rr hb (k:=k);have hol:=FI l k;rw[<-h1] at hob hol;refine ix _ J (cp hz) J<|rf J J<|lp (X:=List Rat×Nat) (fun⟨xs,j⟩=>[(21, .d (vI (j:Nat))),(3, .d (.sl (xs.map eQ)))]) (fun⟨xs,j⟩=>[]) (fun⟨xs,j⟩=>xs=tg o v j/\j<=2) (fun⟨xs,j⟩=>2-j) (o,0) J ⟨J,we⟩ (fun _=>J) (fun⟨xs,j⟩ hk=>?_);dsimp only at hk⊢;obtain⟨g1,g2⟩:=hk;refine br J J J (fun hc22=>?_) (fun hc22=>?_)
  .
   have hj2:j<2:=by have:=hc22;simp only[aS,eX] at this;omega
   obtain⟨m,hm2⟩: ∃m,m=Cq v j:=⟨_,rfl⟩;haveI hmb:BQ m 1200:=by rw[hm2];unfold Cq;split;exact hv.lo;exact hv.hi
   have hxl:=ez eQ xs;have hxn:xs.length<=2*k+2:=by rw[g1];have:=aAI (o:=o) (v:=v) (j:=j) g2;omega
   have hxb: ∀q∈xs,BQ q 1200:=by rw[g1];exact ZM hob hv g2
   refine ix (fu:=⟨10⟩) _ rfl (by rw[cK];exact(show([v.lo,v.hi].map eQ)[j]? =some (eQ m) by rw[hm2];have:j=0\/j=1:=we;rcases this with rfl|rfl<;>rfl)) rfl<|?_;rcases(show j=0\/j=1 by omega) with rfl|rfl
   .
    refine d7 J J J<|ja (fu2:=⟨1⟩) 32 J J J (fun hg32=>?_) (fun hg32=>?_)
    .
     exact at_ (xs,0+1) (by dsimp only;exact⟨⟨by rw[w5,if_pos (by simpa[qH] using hg32),<-g1],we⟩,we⟩)
    .
     refine cv (fu:=⟨16⟩) J J J<|mg (fu:=⟨5⟩) (X:=Nat) (fun n=>[(8, .d (vI (n:Nat)))]) (fun n=>[]) (fun n=>me bE m xs=n) [8] [] rfl ?_ (fun _=>J) (fun n hnx=>?_)
     .
      refine gx J<|lp (fu:=⟨6⟩) (X:=Nat) (fun n=>[(8, .d (vI (n:Nat)))]) (fun n=>[]) (fun n=>n<=xs.length/\ ∀j (h:j<xs.length),j<n->bE xs[j] m<0) (fun n=>xs.length-n) 0 J ⟨aN _,fun j _ hj=>absurd hj we⟩ (fun _=>J) (fun n hk=>?_);obtain⟨n1,n2⟩:=hk;refine jP (v2:=fun hg43=>by simp only[ak];kernel_rfl) J J J J (fun hg43=>?_) (fun hg43=>?_)
      .
       refine ix _ J (pE) J<|cl J (lm (a:=xs[n]' we) (b:=m) (ha:=hxb _ (dQ we)) (hb:=hmb)) J<|br J J J (fun hc52=>?_) (fun hc52=>?_)
       .
        exact at_ (n+1) ⟨⟨we,fun j h hj=>by by_cases q:j=n;(subst q;exact hc52);exact n2 j h we⟩,we⟩
       .
        exact at_ n (tc bE n1 n2 (fun h=>hc52))
      .
       exact at_ n (tc bE n1 n2 (fun h=>absurd h we))
     .
      have hnl:n<=xs.length:=by rw[<-hnx];exact Ct _ _ _
      refine jP (v1:=fun hg58=>by simp only[ak];kernel_rfl) J J J J (fun hg58=>?_) (fun hg58=>?_)
      .
       have hnew: ∀h:n<xs.length,bE xs[n] m≠0:=fun h=>absurd h we;obtain⟨ys,hys⟩: ∃ys,ys=xs.take n++m::xs.drop n:=⟨_,rfl⟩;have hin:fe bE m xs=ys:=by rw[hys];exact qD bE hnx hnew
       have hyl:ys.length<=xs.length+1:=by rw[hys];simp;omega
       refine s3 n _ J J J J (fj _) omD J<|ro J J<|kp n xs.length _ J J okl J (fj _) hnl we J<|ap _ J J (q8 fj _ _ _) J<|kz (hv:=by simp only[ak];exact⟨omd,we⟩) (ho:=fun _=>⟨sE fj _ _,omc⟩) (ys.map eQ) J omz (sB fj _ _ _ _) J<|at_ (ys,0+1) omK
      .
       refine ix _ J (pE) J<|cl J (lm (a:=xs[n]' we) (b:=m) (ha:=hxb _ (dQ we)) (hb:=hmb)) J<|br (fu2:=⟨7⟩) J J J (fun hc67=>?_) (fun hc67=>?_)
       .
        have hnew: ∀h:n<xs.length,bE xs[n] m≠0:=fun h=>hc67;obtain⟨ys,hys⟩: ∃ys,ys=xs.take n++m::xs.drop n:=⟨_,rfl⟩;have hin:fe bE m xs=ys:=by rw[hys];exact qD bE hnx hnew
        have hyl:ys.length<=xs.length+1:=by rw[hys];simp;omega
        refine s3 n _ J J J J (fj _) omD J<|ro J J<|kp n xs.length _ J J okl J (fj _) hnl we J<|ap _ J J (q8 fj _ _ _) J<|kz (hv:=by simp only[ak];exact⟨omd,we⟩) (ho:=fun _=>⟨sE fj _ _,omc⟩) (ys.map eQ) J omz (sB fj _ _ _ _) J<|at_ (ys,0+1) omK
       .
        have hin:fe bE m xs=xs:=BE bE hnx we (Decidable.not_not.1 hc67);exact at_ (xs,0+1) omK
   .
    refine cv (fu:=⟨6⟩) J J J<|d7 J J J<|bb (fu2:=⟨8⟩) J J J (fun hc39=>?_) (fun hc39=>?_)
    .
     exact at_ (xs,1+1) (by dsimp only;exact⟨⟨by rw[w5,if_pos (by simpa[qH] using hc39),<-g1],we⟩,we⟩)
    .
     refine mg (fu:=⟨5⟩) (X:=Nat) (fun n=>[(8, .d (vI (n:Nat)))]) (fun n=>[]) (fun n=>me bE m xs=n) [8] [] rfl ?_ (fun _=>J) (fun n hnx=>?_)
     .
      refine gx J<|lp (fu:=⟨6⟩) (X:=Nat) (fun n=>[(8, .d (vI (n:Nat)))]) (fun n=>[]) (fun n=>n<=xs.length/\ ∀j (h:j<xs.length),j<n->bE xs[j] m<0) (fun n=>xs.length-n) 0 J ⟨aN _,fun j _ hj=>absurd hj we⟩ (fun _=>J) (fun n hk=>?_);obtain⟨n1,n2⟩:=hk;refine jP (v2:=fun hg43=>by simp only[ak];kernel_rfl) J J J J (fun hg43=>?_) (fun hg43=>?_)
      .
       refine ix _ J (pE) J<|cl J (lm (a:=xs[n]' we) (b:=m) (ha:=hxb _ (dQ we)) (hb:=hmb)) J<|br J J J (fun hc52=>?_) (fun hc52=>?_)
       .
        exact at_ (n+1) ⟨⟨we,fun j h hj=>by by_cases q:j=n;(subst q;exact hc52);exact n2 j h we⟩,we⟩
       .
        exact at_ n (tc bE n1 n2 (fun h=>hc52))
      .
       exact at_ n (tc bE n1 n2 (fun h=>absurd h we))
     .
      have hnl:n<=xs.length:=by rw[<-hnx];exact Ct _ _ _
      refine jP (v1:=fun hg58=>by simp only[ak];kernel_rfl) J J J J (fun hg58=>?_) (fun hg58=>?_)
      .
       have hnew: ∀h:n<xs.length,bE xs[n] m≠0:=fun h=>absurd h we;obtain⟨ys,hys⟩: ∃ys,ys=xs.take n++m::xs.drop n:=⟨_,rfl⟩;have hin:fe bE m xs=ys:=by rw[hys];exact qD bE hnx hnew
       have hyl:ys.length<=xs.length+1:=by rw[hys];simp;omega
       refine s3 n _ J J J J (fj _) omD J<|ro J J<|kp n xs.length _ J J okl J (fj _) hnl we J<|ap _ J J (q8 fj _ _ _) J<|kz (hv:=by simp only[ak];exact⟨omd,we⟩) (ho:=fun _=>⟨sE fj _ _,omc⟩) (ys.map eQ) J omz (sB fj _ _ _ _) J<|at_ (ys,1+1) omL
      .
       refine ix _ J (pE) J<|cl J (lm (a:=xs[n]' we) (b:=m) (ha:=hxb _ (dQ we)) (hb:=hmb)) J<|br J J J (fun hc67=>?_) (fun hc67=>?_)
       .
        have hnew: ∀h:n<xs.length,bE xs[n] m≠0:=fun h=>hc67;obtain⟨ys,hys⟩: ∃ys,ys=xs.take n++m::xs.drop n:=⟨_,rfl⟩;have hin:fe bE m xs=ys:=by rw[hys];exact qD bE hnx hnew
        have hyl:ys.length<=xs.length+1:=by rw[hys];simp;omega
        refine s3 n _ J J J J (fj _) omD J<|ro J J<|kp n xs.length _ J J okl J (fj _) hnl we J<|ap _ J J (q8 fj _ _ _) J<|kz (hv:=by simp only[ak];exact⟨omd,we⟩) (ho:=fun _=>⟨sE fj _ _,omc⟩) (ys.map eQ) J omz (sB fj _ _ _ _) J<|at_ (ys,1+1) omL
       .
        have hin:fe bE m xs=xs:=BE bE hnx we (Decidable.not_not.1 hc67);exact at_ (xs,1+1) omL
  .
   have hj2: ¬j<2:=by have:=hc22;simp only[aS,eX] at this;omega
   exact at_ (xs,k+1) (by dsimp only;exact⟨⟨by rw[Og hz,<-h1,g1,show j=2 by omega];rfl,we⟩,we⟩)
 .
  have hfin:kr l=o:=by rw[h1,show k=l.length by omega];unfold rh;rw[cN]
  exact rz J oze
def Zr(t:Rat):eV ⟨t,0,false,true⟩= .ag [.v (.bool (decide (t.num<0))),dN t.num.natAbs,dD t.den, .v (.bool false), .sl [], .sl [], .v (.bool false), .v (.bool true)]:=by
 unfold eV dD;simp only[show(0:Rat).num=0 from J,show(0:Rat).den=1 from J,lN,mH];rfl
def Xh(t:Rat):eV ⟨0,t,true,false⟩= .ag [.v (.bool false), .sl [], .sl [], .v (.bool (decide (t.num<0))),dN t.num.natAbs,dD t.den, .v (.bool true), .v (.bool false)]:=by
 unfold eV dD;simp only[show(0:Rat).num=0 from J,show(0:Rat).den=1 from J,lN,mH];rfl
def CL(l m:aa)(side:Int):DV:= .tp [.sl ((jC l m side).map eV),vB (nB l m)]
def TH{l m:aa}(h:crossI l m≠0):nB l m=false:=by unfold nB;rw[decide_eq_false];exact fun e=>h e.1
def VY{l m:aa}(h:crossI l m=0):nB l m=decide ((m.value l.base).num.sign=0):=by unfold nB;simp[h]
def NK{l m:aa}{side:Int}[hl:LB l][hm:LB m](hlo:l.ok)(hmo:m.ok)(hs:side=1\/side= -1):PF GB prog 209 [eL l,eL m,vI side] (CL l m side):=by
 refine fn func209 J J ntmps209 J J (fun C=>?_);refine cl J (Em (l:=l) (m:=m)) J<|bb J J J (fun hc19=>?_) (fun hc19=>?_)
 .
  have hc:crossI l m=0:=by simpa using hc19
  refine cl J (BA hlo.ne) J<|cl J (DO (l:=m) (p:=l.base)) J<|br J J J (fun hc26=>?_) (fun hc26=>?_)
  .
   refine cl J N3 J<|rf J J<|rz J (by unfold CL jC;rw[if_pos hc,if_pos hc26,VY hc];rfl)
  .
   exact rz J (by unfold CL jC;rw[if_pos hc,if_neg hc26,VY hc];rfl)
 .
  have hc:crossI l m≠0:=by simpa using hc19
  haveI hpb:=FO (l:=l) (m:=m) hlo.ne hc;obtain⟨t,ht⟩: ∃t,t=iC l (cx l m):=⟨_,rfl⟩;refine cl (fu:=⟨0⟩) J (Hk (l:=l) (p:=cx l m) hlo.ne) J<|aj 35 (.d (eQ t)) J (by rw[ht]) ?_;rw[<-ht] at hpb;refine gx J<|cl J (jh (n:=1)) J<|cl J (m8 (a:=t) (b:=((1:Int):Rat))) J<|cl J (Ug (l:=l) (t:=t+((1:Int):Rat)) hlo.ne) J<|cl J (DO (l:=m) (p:=l.at (t+((1:Int):Rat)))) J<|br J J J (fun hc44=>?_) (fun hc44=>?_)
  .
   refine rf J J<|rz J (by unfold CL jC;rw[if_neg hc,<-ht,if_pos (show(m.value (l.at (t+1))).num.sign=side from hc44),TH hc,bY,Zr];rfl)
  .
   refine rf J J<|rz J (by unfold CL jC;rw[if_neg hc,<-ht,if_neg (show¬(m.value (l.at (t+1))).num.sign=side from hc44),TH hc,bY,Xh];rfl)
def fG(f:bD):DV:= .ag [.v (.bool (decide (f.l.a<0))),dN f.l.a.natAbs, .v (.bool (decide (f.l.b<0))),dN f.l.b.natAbs, .v (.bool (decide (f.l.c<0))),dN f.l.c.natAbs, .v (.bool (decide (f.v.lo.num<0))),dN f.v.lo.num.natAbs,dD f.v.lo.den, .v (.bool (decide (f.v.hi.num<0))),dN f.v.hi.num.natAbs,dD f.v.hi.den, .v (.bool f.v.nl), .v (.bool f.v.nh)]
def AP(fs:List bD):cO 14 (fs.map fG):=fun d hd=>by
 obtain⟨u,_,rfl⟩:=aU.1 hd;exact⟨rfl,rfl⟩
theorem IK{p:ZP}(h:ZP.le 100 p):aD p.q 12:=by
 haveI:BI p.1 11:=m5 (by have:=h.1;omega);haveI:BI p.2 11:=m5 (by have:=h.2;omega);exact(inferInstance:aD (iP p.1 p.2) 12)
end Go.Sx
end
