import Derived.Test.YtnnpcjkdmmjknaaGreatDoorMg14
set_option linter.all false
set_option maxHeartbeats 4000000
set_option maxRecDepth 100000
section
namespace Go.Sx
open Go Go.Proofs
variable {a b t:Tr}{c n m op:Int}{d p u v:ah}{es:List Int}{L:List aa}
def eo(a b c d:Int):List ZP:=[(a,b),(c,b),(c,d),(a,d)]
def J7{a b d:Int}(h1:a.natAbs<=50:=by decide)(h2:b.natAbs<=50:=by decide)(h3:c.natAbs<=50:=by decide)(h4:d.natAbs<=50:=by decide)(h5:a<c:=by decide)(h6:b<d:=by decide):ew (eo a b c d):=by
 refine⟨by simp[eo],by simp[eo],fun p hp=>?_,fun i hi=>?_⟩
 .simp only[eo,aW,dR,or_false] at hp
  rcases hp with rfl|rfl|rfl|rfl<;>exact⟨by dsimp only;omega,by dsimp only;omega⟩
 .have:i=0\/i=1\/i=2\/i=3:=by simp[eo] at hi;omega
  rcases this with rfl|rfl|rfl|rfl<;>simp[eo,iC]<;>omega
def gu(p u v:ZP):List ZP:=[p,kC p u,kC p v]
def XZ{p u v:ZP}(h1:ZP.le 40 p)(h2:ZP.le 40 u)(h3:ZP.le 40 v)(h:kd u v≠0):ew (gu p u v):=by
 obtain⟨p1,p2⟩:=p;obtain⟨u1,u2⟩:=u;obtain⟨v1,v2⟩:=v;unfold ZP.le at h1 h2 h3;dsimp only at h1 h2 h3;unfold kd at h;dsimp only at h;refine⟨by simp[gu],by simp[gu],fun p hp=>?_,fun i hi=>?_⟩
 .simp only[gu,kC,aW,dR,or_false] at hp
  rcases hp with rfl|rfl|rfl<;>exact⟨by dsimp only;omega,by dsimp only;omega⟩
 .have:i=0\/i=1\/i=2:=by simp[gu] at hi;omega
  have hu: ¬(u1=0/\u2=0):=fun e=>h (by rw[e.1,e.2];simp);have hv: ¬(v1=0/\v2=0):=fun e=>h (by rw[e.1,e.2];simp);have huv: ¬(u1=v1/\u2=v2):=fun e=>h (by rw[e.1,e.2,sZ];omega);rcases this with rfl|rfl|rfl<;>simp[gu,kC,iC]<;>omega
def yu(es:List Int)(n m k:Int)(a:Nat):List ZP×Nat:=
 let x:=au es n a
 let y:=au es n x.2
 let z:=au es m y.2
 let w:=au es m z.2
 (eo ((x.1:Int)-k) ((y.1:Int)-k) ((x.1:Int)-k+1+z.1) ((y.1:Int)-k+1+w.1),w.2)
def aEv{k:Int}{a:Nat}(ha:a<=es.length)(hn:1<=n:=by decide)(hn2:n<=10:=by decide)(hm:1<=m:=by decide)(hm2:m<=10:=by decide)(hk:0<=k:=by decide)(hk2:k<=10:=by decide):ew (yu es n m k a).1/\(yu es n m k a).2<=es.length:=by
 have h1:=dH (es:=es) (a:=a) hn;have h2:=dH (es:=es) (a:=(au es n a).2) hn;have h3:=dH (es:=es) (a:=(au es n (au es n a).2).2) hm;have h4:=dH (es:=es) (a:=(au es m (au es n (au es n a).2).2).2) hm;exact⟨J7 (by omega) (by omega) (by omega) (by omega) (by omega) (by omega),iw (iw (iw (iw ha)))⟩
def BA:List ZP:=[(0,0),(1,0),(0,1)]
def Mt:ew BA:=⟨by decide,by decide,fun p hp=>by
  simp only[BA,aW,dR,or_false] at hp;rcases hp with rfl|rfl|rfl<;>exact⟨by decide,by decide⟩,fun i hi=>by
  have:i=0\/i=1\/i=2:=by simp[BA] at hi;omega
  rcases this with rfl|rfl|rfl<;>decide⟩
def gp(es:List Int)(a:Nat):List ZP×Nat:=
 let k:=au es 2 a
 if(k.1:Int)=0 then yu es 3 2 1 k.2
 else
  let x:=au es 3 k.2
  let y:=au es 3 x.2
  let u1:=au es 2 y.2
  let u2:=au es 3 u1.2
  let v1:=au es 3 u2.2
  let v2:=au es 2 v1.2
  (if 0<kd (1+(u1.1:Int),(u2.1:Int)-1) ((v1.1:Int)-1,1+(v2.1:Int)) then gu ((x.1:Int)-1,(y.1:Int)-1) (1+(u1.1:Int),(u2.1:Int)-1) ((v1.1:Int)-1,1+(v2.1:Int)) else BA,v2.2)
def AU{a:Nat}(ha:a<=es.length):ew (gp es a).1/\(gp es a).2<=es.length:=by
 have h0:=iw (n:=2) ha;unfold gp;dsimp only;split
 .exact aEv h0
 .generalize hk:(au es 2 a).2=k at*
  have e1:=dH (es:=es) (n:=3) (a:=k);have f1:=iw (n:=3) h0;generalize hx:au es 3 k=x at*;have e2:=dH (es:=es) (n:=3) (a:=x.2);have f2:=iw (n:=3) f1;generalize hy:au es 3 x.2=y at*;have e3:=dH (es:=es) (n:=2) (a:=y.2);have f3:=iw (n:=2) f2;generalize hu:au es 2 y.2=u1 at*;have e4:=dH (es:=es) (n:=3) (a:=u1.2);have f4:=iw (n:=3) f3;generalize hu2:au es 3 u1.2=u2 at*;have e5:=dH (es:=es) (n:=3) (a:=u2.2);have f5:=iw (n:=3) f4;generalize hv:au es 3 u2.2=v1 at*;have e6:=dH (es:=es) (n:=2) (a:=v1.2);have f6:=iw (n:=2) f5;generalize hv2:au es 2 v1.2=v2 at*;refine⟨?_,f6⟩;split
  .rename_i hc
   exact XZ ⟨by dsimp only;omega,by dsimp only;omega⟩ ⟨by dsimp only;omega,by dsimp only;omega⟩ ⟨by dsimp only;omega,by dsimp only;omega⟩ (by omega)
  .exact Mt
def yb(l:aa):Tr:=(Tr.node l (.leaf true) (.leaf false)).restrict []
def tI: ∀t:Tr,t.lns.length=t.size
 | .leaf _=>rfl
 | .node l x y=>by rw[Tr.lns,bJ,aU,tI x,tI y,Tr.size];omega
def Yt{k:Nat}(hb:t.all (fun l=>BL l 96))(ho:t.all aa.ok)(hs:t.size<=k):ie k t:=
 ⟨⟨lg.2 fun l hl=>⟨lg.1 hb l hl⟩,ho⟩,cS t.depth_size hs,t.lns,by rw[tI];exact hs,pA ho,ayx fun l hl=>hl⟩
def XP{l:aa}(h:LS l):ie 18 (yb l):=
 (Yt (k:=18) (t:= .node l (.leaf true) (.leaf false)) ⟨h.bl,trivial,trivial⟩ ⟨h.ok,trivial,trivial⟩ (by simp[Tr.size])).restrict []
def bu(a b p:ah):Rat:=(b.x-a.x)*(p.y-a.y)-(b.y-a.y)*(p.x-a.x)
def aFC(q p v w:ah)(e:Rat):bu q p (kB v w e)=bu q p v+e*(bu q p w-bu q p v):=by
 unfold bu kB;grind
def Ce{a b:Rat}(ha:0<a):0<a*b↔0<b:=by rw[Rat.mul_comm];exact f9 ha
def Vr(a b c:ah):nI a b c=(bu a b c).num.sign:=by
 unfold nI bu ah.cross cD;congr 2;grind
def ml(op:Int)(a b:Tr):Bool:=decide ((a.mergeQ op b []).isLeaf=true/\(a.mergeQ op b []).code=false)
def UA:ml op a b=true↔a.mergeQ op b []= .leaf false:=by
 unfold ml;rw[decide_eq_true_iff]
 cases a.mergeQ op b [] with
 |leaf v=>simp[Tr.isLeaf,Tr.code]
 |node l x y=>simp[Tr.isLeaf]
def oE.none(h:oE L a b):ml op a b=true↔ ∀p,cF L p->pP op (a.val p) (b.val p)=false:=by rw[UA,h.leaf]
def ZY{c d:Tr}{uP:Int}(h:oE L a b)(k:oE L c d)(e: ∀p,cF L p->pP op (a.val p) (b.val p)=pP uP (c.val p) (d.val p)):ml op a b=ml uP c d:=by
 rw[rY,h.none,k.none];exact⟨fun g p hp=>by rw[<-e p hp];exact g p hp,fun g p hp=>by rw[e p hp];exact g p hp⟩
def Lt(ha: ∀l∈a.lns,l∈L): ∀l∈a.compl.lns,l∈L:=lg.1 (a.compl_all (· ∈L) (lg.2 ha))
def kA:Tr->ah->Bool
 | .leaf b,_=>b
 | .node l x y,p=>if(l.value p).num.sign=1 then kA x p else if(l.value p).num.sign= -1 then kA y p else false
def zl: ∀{t:Tr} {p:ah},cF t.lns p->kA t p=t.val p
 | .leaf b,p,_=>rfl
 | .node l x y,p,h=>by
  rw[kA,Tr.val];have h0:=h.l;by_cases h1:0<l.value p
  .rw[if_pos ((EF _).2 h1),if_pos h1,zl h.x]
  .have h2:l.value p<0:=by grind
   have h3:=(Kh _).2 h2;have h4:(l.value p).num.sign= -1:=by
    rcases Int.sign_trichotomy (l.value p).num with e|e|e<;>omega
   rw[if_neg (by omega),if_pos h4,if_neg h1,zl h.y]
def De{L:List aa}{p q:ah}(h: ∀l∈L,0<l.value q↔0<l.value p): ∀{t:Tr},(∀l∈t.lns,l∈L)->t.val q=t.val p
 | .leaf _,_=>rfl
 | .node l x y,hl=>by
  have hx:=De h (t:=x) fun m hm=>hl m (aJ _ (bU _ hm));have hy:=De h (t:=y) fun m hm=>hl m (aJ _ (bK _ hm));rw[Tr.val,Tr.val,hx,hy];by_cases h1:0<l.value q
  .rw[if_pos h1,if_pos ((h l (hl l aQ)).1 h1)]
  .rw[if_neg h1,if_neg (fun e=>h1 ((h l (hl l aQ)).2 e))]
def CD: ∀{t:Tr} {c:ar} {b:Bool} {e:ar},t.all aa.ok->bD c->(b,e)∈t.parts c->bD e/\ ∀p,bt e p->bt c p/\t.val p=b
 | .leaf v,c,b,e,_,hc,h=>by
  rw[Tr.parts,aS] at h
  cases h
  exact⟨hc,fun p hp=>⟨hp,J⟩⟩
 | .node l x y,c,b,e,⟨hl,hx,hy⟩,hc,h=>by
  rw[Tr.parts] at h;rcases bW.1 h with h|h
  .split at h
   .rename_i hb
    obtain⟨k1,k2⟩:=gt hc hl hb;obtain⟨m1,m2⟩:=CD hx k1 h;refine⟨m1,fun p hp=>?_⟩;obtain⟨n1,n2⟩:=m2 p hp;obtain⟨o1,o2⟩:=(k2 p).1 n1;exact⟨o1,by rw[Tr.val_pos o2,n2]⟩
   .cases h
  .split at h
   .rename_i hb
    obtain⟨k1,k2⟩:=gt hc hl.rev hb;obtain⟨m1,m2⟩:=CD hy k1 h;refine⟨m1,fun p hp=>?_⟩;obtain⟨n1,n2⟩:=m2 p hp;obtain⟨o1,o2⟩:=(k2 p).1 n1;rw[eD] at o2;exact⟨o1,by rw[Tr.val_neg (by grind),n2]⟩
   .cases h
def IB: ∀{t:Tr} {c:ar} {p:ah},t.all aa.ok->bD c->bt c p->cF t.lns p-> ∃b e,(b,e)∈t.parts c/\bt e p
 | .leaf v,c,p,_,_,hp,_=>⟨v,c,aS.2 J,hp⟩
 | .node l x y,c,p,⟨hl,hx,hy⟩,hc,hp,ho=>by
  have h0:=ho.l;rw[Tr.parts];by_cases h:0<l.value p
  .have hb:=(oH hc hl).2 ⟨p,hp,h⟩
   obtain⟨k1,k2⟩:=gt hc hl hb;obtain⟨b,e,m1,m2⟩:=IB hx k1 ((k2 p).2 ⟨hp,h⟩) ho.x;exact⟨b,e,bU _ (by rw[if_pos hb];exact m1),m2⟩
  .have h':0<l.rev.value p:=by rw[eD];grind
   have hb:=(oH hc hl.rev).2 ⟨p,hp,h'⟩;obtain⟨k1,k2⟩:=gt hc hl.rev hb;obtain⟨b,e,m1,m2⟩:=IB hy k1 ((k2 p).2 ⟨hp,h'⟩) ho.y;exact⟨b,e,bK _ (by rw[if_pos hb];exact m1),m2⟩
def eu(t:Tr):List ar:=((t.parts []).filter (·.1)).map (·.2)
def uG{e:ar}:e∈eu t↔(true,e)∈t.parts []:=by
 unfold eu;simp
def Hx(l:aa)(v:ah):l.dir.cross v=l.nor.dot v:=by
 unfold aa.dir aa.nor ah.cross ah.dot;grind
def vW(p:ah):(p.half=1/\(0<p.y\/(p.y=0/\0<p.x)))\/(p.half=2/\(p.y<0\/(p.y=0/\p.x<0)))\/(p.half=0/\p.y=0/\p.x=0):=by
 unfold ah.half;simp only[n7,Kh,pH];split
 .rename_i h;exact .inl ⟨rfl,h⟩
 .rename_i h
  split
  .rename_i h2
   exact .inr (.inl ⟨J,by grind⟩)
  .rename_i h2
   exact .inr (.inr ⟨J,by grind,by grind⟩)
def qm:p.half=1↔(0<p.y\/(p.y=0/\0<p.x)):=by
 rcases vW p with⟨h,k⟩|⟨h,k⟩|⟨h,k⟩<;>rw[h]<;>grind
def vC:p.half=2↔(p.y<0\/(p.y=0/\p.x<0)):=by
 rcases vW p with⟨h,k⟩|⟨h,k⟩|⟨h,k⟩<;>rw[h]<;>grind
def en(u v:ah):Prop:=u.half<v.half\/(u.half=v.half/\0<u.cross v)
def Af:gi u v<0↔en u v:=by
 unfold gi en;split
 .rename_i h;exact⟨fun _=> .inl h,fun _=>by decide⟩
 .rename_i h
  split
  .rename_i h2;exact⟨fun e=>absurd e (by decide),fun e=>by omega⟩
  .rename_i h2
   have e:u.half=v.half:=by omega
   rw[<-n7];constructor
   .intro k;exact .inr ⟨e,by omega⟩
   .rintro (k|⟨_,k⟩)
    .omega
    .omega
def bG(d:ah):ah:=⟨-d.x, -d.y⟩
def azg(h:d.half≠0):(bG d).half=3-d.half:=by
 rcases vW d with⟨e,k⟩|⟨e,k⟩|⟨e,k⟩
 .rw[e];exact vC.2 (by unfold bG;grind)
 .rw[e];exact qm.2 (by unfold bG;grind)
 .exact absurd e h
def pn(h:d.half≠0):d.half=1\/d.half=2:=by
 rcases vW d with⟨e,_⟩|⟨e,_⟩|⟨e,_⟩
 .exact .inl e
 .exact .inr e
 .exact absurd e h
def x6(ds:List ah)(u w:ah):Prop:=(en u w/\ ∀d∈ds,¬(en u d/\en d w))\/((∀d∈ds,¬en u d)/\ ∀d∈ds,¬en d w)
def xb(u v:ah):v.cross u= -u.cross v:=by unfold ah.cross;grind
def Pt(u v:ah):u.cross (bG v)= -u.cross v:=by unfold ah.cross bG;grind
end Go.Sx
end
section
namespace Go.Sx
open Go
variable {P:Program}{ops:Array Oper}{Q:Exit->Act->World->Prop}{π₂:List (Nat×Bool)}
inductive OT where
 |z (π:List (Nat×Bool))
 |q (i:Nat) (t:OT)
 |a (i:Nat) (t:OT)
 |c (i:Nat) (t r:OT)
def OT.sz:OT->Nat
 | .z _=>0
 | .q _ t=>t.sz+1
 | .a _ t=>t.sz+1
 | .c _ t r=>t.sz+r.sz+1
def OT.d:OT->Nat
 | .z π=>π.length
 | .q _ t=>t.d+1
 | .a _ t=>t.d+1
 | .c _ t r=>Nat.max (t.d+1) r.d
section
variable {S:World->Prop}
end
section
variable {GB:Gh}{C:aD}{n:Nat}{fr fr':nk}{own own' own0 own1 own1':List lw}{bs bs0 bs1 bs1':List jt}{fd:List FD}{t r:OT}
end
end Go.Sx
end
section
namespace Go.Sx
open Go Go.Proofs Tryz
variable {c xs ys ls L:List aa}{l:aa}{k i d j s:Nat}{α β:Type}{a q t:Rat}{z:Int}{ds:List Nat}{neg:Bool}{b:Tr}{r:RL}{p u w:ah}{ps:List ah}{v:ao}{cuts o:List Rat}
variable {GB:Gh}
theorem wH(hc: ∀m∈c,LB m)(hl:LB l): ∀m∈c++[l],LB m:=by
 rw[sY];exact⟨hc,by simpa using hl⟩
theorem LB.rev{l:aa}(h:LB l):LB l.rev:=⟨⟨by rw[show l.rev.a= -l.a from J,jR];exact h.bl.a,by rw[show l.rev.b= -l.b from J,jR];exact h.bl.b,by rw[show l.rev.c= -l.c from J,jR];exact h.bl.c⟩⟩
def UN(hc: ∀m∈c,LB m)(hok: ∀m∈c,m.ok)(hn:c.length<=900)(hl:LB l)(hlo:l.ok):PF GB prog 138 [.sl (c.map eL),eL l] (vI (tr c l)):=by
 have hcl:=wC c;refine fn func138 J J ntmps138 J J (fun C=>?_);refine s5 J J<|ap (c.map eL) J J (fP _) J<|rf J J<|mc ((c++[l]).map eL) J (by rw[bV];rfl) (fP [l]) J<|?_;refine cl J (Iz (c:=c++[l]) (wH hc hl) (oz hok hlo) (by simp;omega)) J<|s5 J J<|ap (c.map eL) J J (fP _) J<|cl J (Bv (l:=l)) J<|?_;refine rf J J<|mc ((c++[l.rev]).map eL) J (by rw[bV];rfl) (fP [l.rev]) J<|cl J (Iz (c:=c++[l.rev]) (wH hc hl.rev) (oz hok hlo.rev) (by simp;omega)) J<|?_;refine ja 31 J J J (fun hg31=>?_) (fun hg31=>?_)
 .
  refine bb J J J (fun hc33=>?_) (fun hc33=>?_)
  .
   exact rz J (by show vI 0=vI _;congr 1;unfold tr;simp_all)
  .
   refine bb J J J (fun hc34=>?_) (fun hc34=>?_)
   .
    exact rz J (by show vI 1=vI _;congr 1;unfold tr;simp_all)
   .
    exact rz J (by simp[hg31] at hc34)
 .
  refine bb J J J (fun hc34=>?_) (fun hc34=>?_)
  .
   exact rz J (by simp[hg31] at hc34)
  .
   exact rz J (by show vI (-1)=vI _;congr 1;unfold tr;simp_all)
def Ha{α:Type}{p:α->Bool}: ∀{xs:List α} {n:Nat},n<=xs.length->(∀j (h:j<xs.length),j<n->p xs[j]=true)->(∀h:n<xs.length,p xs[n]=false)->(xs.takeWhile p).length=n
 |[],n,h,_,_=>by simp at h;subst h;rfl
 |x::xs,0,_,_,h3=>by
  have:=h3 (by simp);simp only[pY] at this;simp[oL,this]
 |x::xs,n+1,h1,h2,h3=>by
  have hx:=h2 0 (by simp) (by omega);simp only[pY] at hx;rw[oL,if_pos hx,bJ];rw[Ha (n:=n) (by simpa using h1) (fun j h hj=>by have:=h2 (j+1) (by simpa using h) (by omega);simpa using this) (fun h=>by have:=h3 (by simpa using h);simpa using this)]
def KZ{n:Nat}(h1:n<=xs.length)(h2: ∀j (h:j<xs.length),j<n->gi xs[j].dir l.dir<0)(h3: ∀h:n<xs.length,¬gi xs[n].dir l.dir<0):nO xs l=n:=
 Ha h1 (fun j h hj=>decide_eq_true (h2 j h hj)) (fun h=>decide_eq_false (h3 h))
def Uu{n:Nat}(hn:nO xs l=n)(h:n<xs.length)(e:xs[n]=l):pO xs l=xs:=by
 unfold pO;rw[hn,if_pos (by rw[aZ h,e])]
def Ni{n:Nat}(hn:nO xs l=n)(h: ∀h:n<xs.length,xs[n]≠l):pO xs l=xs.take n++l::xs.drop n:=by
 unfold pO;rw[hn,if_neg];intro e;obtain⟨h1,h2⟩:=aY.1 e;exact h h1 h2
def PO(xs:List aa)(n:Nat):cP 6 ((xs.map eL).take n):=fun d hd=>fP xs d (fN hd)
def HV(xs:List aa)(n m:Nat):cP 6 (((xs.map eL).take n).drop m):=fun d hd=>fP xs d (fN (gN hd))
def Nn(xs:List aa)(n m:Nat)(l:aa):cP 6 ([eL l]++((xs.map eL).take n).drop m):=fun d hd=>by
 rcases bW.1 hd with h|h
 .exact fP [l] d h
 .exact HV xs n m d h
structure mz (c:List aa) (k:Nat) (xs:List aa):Prop where
 le:k<=c.length
 f:n0 c (c.drop k) xs=iO c
 m: ∀m∈xs,m∈c
 n:xs.length<=k
def mz.skip(h:mz c k xs)(hk:k<c.length)(e:(gc c[k] c ao.all).isSome=false):mz c (k+1) xs:=by
 have:=h.f;rw[bQ hk,n0,e] at this;exact⟨hk,this,h.m,by have:=h.n;omega⟩
def mz.ins(h:mz c k xs)(hk:k<c.length)(e:(gc c[k] c ao.all).isSome=true)(hy:pO xs c[k]=ys)(hl:ys.length<=xs.length+1):mz c (k+1) ys:=by
 have:=h.f;rw[bQ hk,n0,e,if_pos J,hy] at this;refine⟨hk,this,fun m hm=>?_,by have:=h.n;omega⟩;rw[<-hy] at hm;rcases IT.1 hm with rfl|hm
 .exact cN hk
 .exact h.m m hm
def mz.done(h:mz c k xs)(hk:k=c.length):iO c=xs:=by
 have:=h.f;rw[hk,gQ,n0] at this;exact this.symm
def Jf(c:List aa):Bool:=if(((c.map eL).length:Nat):Int)=0 then true else decide ((0:Int)<((((iO c).map eL).length:Nat):Int))
def mz.nil(c:List aa):mz c 0 []:=⟨bZ _,J,fun m hm=>absurd hm (by simp),bX _⟩
def aDn(hc: ∀m∈c,LB m)(hok: ∀m∈c,m.ok)(hn:c.length<=1000):PF GB prog 49 [.sl (c.map eL)] (.tp [.sl ((iO c).map eL),vB (Jf c)]):=by
 have hcl:=wC c;refine fn (fu:=⟨16⟩) func49 J J ntmps49 J J (fun C=>?_);refine ak 11 (.d (vI (c.length:Nat))) J (by rw[hcl];rfl) ?_;refine gx J<|?_;refine BT 4 J ?_;refine lp (X:=List aa×Nat) (fun⟨xs,k⟩=>[(12, .d (vI (k:Nat))),(11, .d (vI (c.length:Nat))),(10, .d (.sl (c.map eL))),(0, .d (.sl (c.map eL))),(4, .d (.sl (xs.map eL)))]) (fun⟨xs,k⟩=>[]) (fun⟨xs,k⟩=>mz c k xs) (fun⟨xs,k⟩=>c.length-k) ⟨[],0⟩ J (mz.nil c) (fun _=>J) (fun⟨xs,k⟩ hk=>?_)
 try dsimp only at hk⊢
 have hS:=hk;refine br J J J (fun hc13=>?_) (fun hc13=>?_)
 .
  have hk:k<c.length:=by omega
  obtain⟨m,hm⟩: ∃m,m=c[k]:=⟨_,rfl⟩;haveI hmb:LB m:=hm▸hc _ (cN hk);have hmo:m.ok:=hm▸hok _ (cN hk);have hxl:=wC xs;have hxn:=hS.n;refine ix (fu:=⟨1⟩) _ J (wm hk) J<|?_;refine ak 16 (.d (eL m)) J (by rw[hm];rfl) ?_;refine gx J<|cl J (MT hc hok hn hk) J<|?_;refine bb (fu2:=⟨8⟩) J J J (fun hc24=>?_) (fun hc24=>?_)
  .
   have hinv:mz c (k+1) xs:=hS.skip hk (by rw[<-xq];simpa using hc24);exact at_ ⟨xs,k+1⟩ (by dsimp only;exact⟨hinv,(by omega)⟩)
  .
   have hyes:(gc c[k] c ao.all).isSome=true:=by rw[<-xq];simpa using hc24
   refine mg (fu:=⟨6⟩) (X:=Unit) (fun _=>[(12, .d (vI (k:Nat))),(11, .d (vI (c.length:Nat))),(10, .d (.sl (c.map eL))),(0, .d (.sl (c.map eL))),(4, .d (.sl (xs.map eL))),(6, .ov 6 0),(9, .d (vI (nO xs m:Nat)))]) (fun _=>[(6,some (.o 85 [.d ((.v (.bool (decide (m.a<0))))), .d (dN m.a.natAbs), .d ((.v (.bool (decide (m.b<0))))), .d (dN m.b.natAbs), .d ((.v (.bool (decide (m.c<0))))), .d (dN m.c.natAbs)] true))]) (fun _=>True) [12,11,10,0,4,6,9] [6] rfl ?_ (fun _=>J) (fun _ _=>?_)
   .
    refine gx J<|?_;refine lp (fu:=⟨6⟩) (X:=Nat) (fun n=>[(12, .d (vI (k:Nat))),(11, .d (vI (c.length:Nat))),(10, .d (.sl (c.map eL))),(0, .d (.sl (c.map eL))),(4, .d (.sl (xs.map eL))),(6, .ov 6 0),(9, .d (vI (n:Nat)))]) (fun n=>[(6,some (.o 85 [.d ((.v (.bool (decide (m.a<0))))), .d (dN m.a.natAbs), .d ((.v (.bool (decide (m.b<0))))), .d (dN m.b.natAbs), .d ((.v (.bool (decide (m.c<0))))), .d (dN m.c.natAbs)] true))]) (fun n=>n<=xs.length/\ ∀j (h:j<xs.length),j<n->gi xs[j].dir m.dir<0) (fun n=>xs.length-n) 0 J ⟨bZ _,fun j _ hj=>absurd hj (by omega)⟩ (fun _=>J) (fun n hk=>?_);obtain⟨n1,n2⟩:=hk;refine jr J J J J (fun hg28=>?_) (fun hg28=>?_)
    .
     refine ix _ J (wm) J<|?_;haveI:LB (xs[n]'(by omega)):=hc _ (hS.m _ (cN _));refine cl J (u6 (l:=xs[n]'(by omega))) J<|cl J (u6 (l:=m)) J<|cl J (aB2 (u:=(xs[n]'(by omega)).dir) (v:=m.dir)) J<|?_;refine br J J J (fun hc39=>?_) (fun hc39=>?_)
     .
      exact at_ (n+1) ⟨⟨by omega,fun j h hj=>by by_cases q:j=n;(subst q;exact hc39);exact n2 j h (by omega)⟩,(by omega)⟩
     .
      have hidx:nO xs m=n:=KZ n1 n2 (fun h=>hc39);exact at_ () trivial
    .
     have hidx:nO xs m=n:=KZ n1 n2 (fun h=>absurd h (by omega));exact at_ () trivial
   .
    obtain⟨n,hnx⟩: ∃n,nO xs m=n:=⟨_,rfl⟩;rw[hnx];have hnl:n<=xs.length:=by rw[<-hnx];unfold nO;exact(List.takeWhile_sublist _).length_le
    have hcb: ∀m∈xs,LB m:=fun m hm=>hc m (hS.m m hm);refine jr J J J J (fun hg45=>?_) (fun hg45=>?_)
    .
     refine ix _ J (wm) J<|cl J (Dr (l:=xs[n]'(by omega)) (m:=m) (hl:=hcb _ (cN (by omega)))) J<|?_;refine br J J J (fun hc54=>?_) (fun hc54=>?_)
     .
      have hn46:n<xs.length:=by omega
      have hinv:mz c (k+1) xs:=hS.ins hk hyes (by rw[<-hm];exact Uu hnx hn46 ((AM _ m).1 hc54)) (by omega);exact at_ ⟨xs,k+1⟩ (by dsimp only;exact⟨hinv,(by omega)⟩)
     .
      have hnew: ∀h:n<xs.length,xs[n]≠m:=fun h e=>hc54 ((AM _ m).2 e);obtain⟨ys,hys⟩: ∃ys,ys=xs.take n++m::xs.drop n:=⟨_,rfl⟩;have hinv:mz c (k+1) ys:=hS.ins hk hyes (by rw[<-hm,Ni hnx hnew,hys]) (by rw[hys];simp;omega);refine s3 n _ J J J J (fP _) (by rw[hxl];exact hnl) J<|ro J J<|mE n xs.length _ J J (by rw[hxl]) J (fP _) hnl (by omega) J<|?_;refine ap _ J J (HV _ _ _) J<|mc (hv:=by simp only[aj];exact⟨by kernel_rfl,by omega⟩) (ho:=fun _=>⟨PO _ _,by simp⟩) (ys.map eL) J (by rw[hys,bV,bT,iL,jZ,aM (l:=xs.map eL) (i:=xs.length) (by simp)];rfl) (Nn _ _ _ _) J<|?_;exact at_ ⟨ys,k+1⟩ (by dsimp only;exact⟨hinv,(by omega)⟩)
    .
     have hnew: ∀h:n<xs.length,xs[n]≠m:=fun h=>absurd h (by omega);obtain⟨ys,hys⟩: ∃ys,ys=xs.take n++m::xs.drop n:=⟨_,rfl⟩;have hinv:mz c (k+1) ys:=hS.ins hk hyes (by rw[<-hm,Ni hnx hnew,hys]) (by rw[hys];simp;omega);refine s3 n _ J J J J (fP _) (by rw[hxl];exact hnl) J<|ro J J<|mE n xs.length _ J J (by rw[hxl]) J (fP _) hnl (by omega) J<|?_;refine ap _ J J (HV _ _ _) J<|mc (hv:=by simp only[aj];exact⟨by kernel_rfl,by omega⟩) (ho:=fun _=>⟨PO _ _,by simp⟩) (ys.map eL) J (by rw[hys,bV,bT,iL,jZ,aM (l:=xs.map eL) (i:=xs.length) (by simp)];rfl) (Nn _ _ _ _) J<|?_;exact at_ ⟨ys,k+1⟩ (by dsimp only;exact⟨hinv,(by omega)⟩)
 .
  have hfin:iO c=xs:=hS.done (by have:=hS.le;omega);refine cs 71 J J J (fun hg71=>?_) (fun hg71=>?_)
  .
   exact rz J (by rw[Jf,if_pos hg71,hfin];rfl)
  .
   exact rz J (by rw[Jf,if_neg hg71,hfin];rfl)
section
variable (c:α->α->Int)
def fe(x:α):List α->List α
 |[]=>[x]
 |u::t=>if c u x<0 then u::fe x t else if c u x=0 then u::t else x::u::t
def mG(x:α)(xs:List α):Nat:=(xs.takeWhile fun u=>decide (c u x<0)).length
def Ed(x:α)(xs:List α):mG c x xs<=xs.length:=(List.takeWhile_sublist _).length_le
def vY{x:α}{xs:List α}{n:Nat}(h1:n<=xs.length)(h2: ∀j (h:j<xs.length),j<n->c xs[j] x<0)(h3: ∀h:n<xs.length,¬c xs[n] x<0):mG c x xs=n:=
 Ha h1 (fun j h hj=>decide_eq_true (h2 j h hj)) (fun h=>decide_eq_false (h3 h))
def AH{x:α}: ∀{xs:List α} {n:Nat},mG c x xs=n->(h:n<xs.length)->c xs[n] x=0->fe c x xs=xs
 |[],n,_,h,_=>by simp at h
 |u::t,n,hn,h,e=>by
  rw[fe];unfold mG at hn;rw[oL] at hn;by_cases hu:c u x<0
  .rw[if_pos hu]
   rw[if_pos (by simpa using hu)] at hn;obtain⟨k,rfl⟩: ∃k,n=k+1:=⟨n-1,by simp at hn;omega⟩;rw[AH (xs:=t) (n:=k) (by unfold mG;simpa using hn) (by simpa using h) (by simpa using e)]
  .rw[if_neg (by simpa using hu)] at hn
   simp at hn;subst hn;rw[if_neg hu,if_pos (by simpa using e)]
def tP{x:α}: ∀{xs:List α} {n:Nat},mG c x xs=n->(∀h:n<xs.length,c xs[n] x≠0)->fe c x xs=xs.take n++x::xs.drop n
 |[],n,hn,_=>by simp[mG] at hn;subst hn;rfl
 |u::t,n,hn,e=>by
  rw[fe];unfold mG at hn;rw[oL] at hn;by_cases hu:c u x<0
  .rw[if_pos hu]
   rw[if_pos (by simpa using hu)] at hn;obtain⟨k,rfl⟩: ∃k,n=k+1:=⟨n-1,by simp at hn;omega⟩;rw[tP (xs:=t) (n:=k) (by unfold mG;simpa using hn) (fun h=>by have:=e (by simpa using h);simpa using this)];simp
  .rw[if_neg (by simpa using hu)] at hn
   simp at hn;subst hn;have:=e (by simp);rw[if_neg hu,if_neg (by simpa using this)];rfl
def CJ(x:α): ∀(xs:List α),(fe c x xs).length<=xs.length+1
 |[]=>bX _
 |u::t=>by
  have:=CJ x t;rw[fe];split
  .simp;omega
  .split<;>simp
def MR{x y:α}: ∀{xs:List α},y∈fe c x xs->y=x\/y∈xs
 |[],h=>by rw[fe,aS] at h;exact .inl h
 |u::t,h=>by
  rw[fe] at h;split at h
  .rcases aW.1 h with rfl|h
   .exact .inr aQ
   .rcases MR h with h|h
    .exact .inl h
    .exact .inr (aJ _ h)
  .split at h
   .exact .inr h
   .rcases aW.1 h with rfl|h
    .exact .inl J
    .exact .inr h
def ug(l:List α):List α:=l.foldl (fun out x=>fe c x out) []
def Fz: ∀(l o:List α),(l.foldl (fun out x=>fe c x out) o).length<=l.length+o.length
 |[],o=>by simp
 |x::t,o=>by
  have:=Fz t (fe c x o);have:=CJ c x o;simp only[kK,bJ];omega
def Hs{y:α}: ∀{l o:List α},y∈l.foldl (fun out x=>fe c x out) o->y∈l\/y∈o
 |[],o,h=> .inr h
 |x::t,o,h=>by
  rcases Hs (l:=t) h with h|h
  .exact .inl (aJ _ h)
  .rcases MR c h with rfl|h
   .exact .inl aQ
   .exact .inr h
end
def xy{x:Rat}: ∀{l:List Rat},lf x l=fe bA x l
 |[]=>rfl
 |u::t=>by
  have e1:bA u x<0↔u<x:=Nh u x;have e2:bA u x=0↔u=x:=vx u x;rw[lf,fe,xy (l:=t)];by_cases h:u<x
  .rw[if_pos h,if_pos (e1.2 h)]
  .rw[if_neg h,if_neg (fun e=>h (e1.1 e))]
   by_cases h2:u=x
   .rw[if_pos h2,if_pos (e2.2 h2)]
   .rw[if_neg h2,if_neg (fun e=>h2 (e2.1 e))]
def vm{f:α->β}{l:List α}{x:α}(h:l[k]? =some x):(l.take k).map f++[f x]=(l.take (k+1)).map f:=by
 rw[eM,h,bV];rfl
def Rb{a:Nat}[ha:BN a i](hi:i<=400000000:=by decide):PF GB prog 88 [dN a] (dN a):=by
 have hl:=eH (dg a);have hb:=lc ha.h;refine fn func88 J J ntmps88 J J (fun C=>?_);refine s5 J J<|ap ((dg a).map dU) J J (ve _) J<|?_;refine ir 5 J ?_;exact rz J J
def Fj[hz:BI z i](hi:i<=400000000:=by decide):PF GB prog 87 [eI z] (eI z):=by
 refine fn func87 J J ntmps87 J J (fun C=>?_);refine cl J (Rb (a:=z.natAbs) (i:=i) (ha:=⟨hz.h⟩) hi) J<|?_;exact rz J J
def Y6(hl:BL l 96):PF GB prog 181 [eL l] (eL l):=by
 haveI h1:BI l.a 96:=⟨hl.a⟩;haveI h2:BI l.b 96:=⟨hl.b⟩;haveI h3:BI l.c 96:=⟨hl.c⟩;refine fn func181 J J ntmps181 J J (fun C=>?_);refine cl J (Fj (z:=l.a)) J<|cl J (Fj (z:=l.b)) J<|cl J (Fj (z:=l.c)) J<|?_;exact rz J J
def ZG(h:ds[ds.length-1]? =some d):dC ds↔ ¬((d:Int)=0):=by
 unfold dC;rw[nM,h];simp
def Pi(hn:ds.length<=1000000):PF GB prog 346 [eO ds] (vB (decide (dC ds))):=by
 have hm:=eH ds;refine fn (fu:=⟨9⟩) func346 J J ntmps346 J J (fun C=>?_);refine ak 4 (.d (vI (ds.length:Nat))) J (by rw[hm]<;>rfl) ?_;refine gx (fu:=⟨0⟩) J<|?_;refine jr (fu2:=⟨4⟩) J J J J (fun hg5=>?_) (fun hg5=>?_)
 .
  exact rz rfl (by obtain rfl:ds=[]:=bM (by omega);show DV.v (.bool _)= .v (.bool _);congr 2<;>exact(decide_eq_true (by intro h;cases h)).symm)
 .
  obtain⟨d,hd⟩: ∃d,ds[ds.length-1]? =some d:=⟨_,aZ (by omega)⟩;refine ak 9 (.d (vI (ds.length:Nat))) J (by rw[hm]<;>rfl) ?_;refine gx J<|ix _ J (by rw[show(((ds.length:Nat):Int)-1).toNat=ds.length-1 by omega,bS,hd];rfl) J<|?_;exact rz J (by show DV.v (.bool _)= .v (.bool _);congr 2;exact decide_eq_decide.2 (ZG hd).symm)
def tw(hn:ds.length<=1000000):PF GB prog 317 [.ag [.v (.bool neg),eO ds]] (vB (decide (gn neg ds))):=by
 have hm:=eH ds;refine fn func317 J J ntmps317 J J (fun C=>?_);by_cases hN:dC ds
 .
  refine cl (fu:=⟨0⟩) J (Pi hn) J<|?_;refine ak 5 (.d (vB true)) J (by rw[decide_eq_true hN]) ?_;refine kG 5 J ?_;refine gx J<|?_;refine ja (fu2:=⟨3⟩) 10 J J J (fun hg10=>?_) (fun hg10=>?_)
  .
   exact rz J (by show DV.v (.bool _)= .v (.bool _);congr 2;unfold gn;simp_all)
  .
   refine ak 13 (.d (vI (ds.length:Nat))) J (by rw[hm]<;>rfl) ?_;refine gx J<|?_;exact rz J (by show DV.v (.bool _)= .v (.bool _);congr 2;unfold gn;simp_all)
 .
  refine cl (fu:=⟨0⟩) J (Pi hn) J<|?_;refine ak 5 (.d (vB false)) J (by rw[decide_eq_false hN]) ?_;refine r5 5 J ?_;refine gx J<|?_;exact rz J (by show DV.v (.bool _)= .v (.bool _);congr 2;unfold gn;simp_all)
def QG(hd:bB ds)(hn:ds.length<=1000000):PF GB prog 344 [eO ds] (dN (dv ds)):=by
 have hm:=eH ds;refine fn func344 J J ntmps344 J J (fun C=>?_);refine s5 J J<|ap (ds.map dU) J J (ve _) J<|fz 5 J J<|cl J (sB (ds:=ds)) J<|?_;exact rz J (by unfold dN;rw[qk hd];rfl)
def EV(hd:bB ds)(hn:ds.length<=1000000):PF GB prog 318 [.ag [.v (.bool neg),eO ds]] (eI (oF neg ds)):=by
 refine fn func318 J J ntmps318 J J (fun C=>?_);refine cl J (QG hd hn) J<|cl J lz J<|?_;exact rz J J
def rD(r:RL):DV:= .tp [if r.nm then eL r.l else .ag [.v (.bool false), .sl [], .v (.bool false), .sl [], .v (.bool false), .sl []],vB (decide (r.nm/\r.l.ok))]
def Y7{a b:Nat}(h:gk a b=0):a=b:=by
 unfold gk at h;split at h
 .cases h
 .split at h
  .assumption
  .cases h
def Iu:l.ok↔0<Nat.gcd l.a.natAbs l.b.natAbs/\Nat.gcd (Nat.gcd l.a.natAbs l.b.natAbs) l.c.natAbs=1:=by
 unfold aa.ok;refine and_congr ?_ Iff.rfl;rw[Nat.pos_iff_ne_zero,ne_eq,Nat.gcd_eq_zero_iff];simp only[kX]
def Tx(s:r.sm)(h: ¬gn r.na r.da):PF GB prog 263 [r.d] (rD r):=by
 refine fn func263 J J ntmps263 J J (fun C=>?_);refine cl (fu:=⟨0⟩) J (tw (neg:=r.na) (ds:=r.da) (by have:=s.a.2;omega)) J<|c6 J (by show some (!decide _)=some true;rw[decide_eq_false h];rfl) J<|?_;exact rz J (by unfold rD;rw[if_neg (fun e=>h e.1),show decide (r.nm/\r.l.ok)=false from decide_eq_false (fun e=>(fun e=>h e.1) e.1)];rfl)
def V1(s:r.sm)(h1:gn r.na r.da)(h: ¬gn r.nb r.db):PF GB prog 263 [r.d] (rD r):=by
 refine fn func263 J J ntmps263 J J (fun C=>?_);refine cl (fu:=⟨0⟩) J (tw (neg:=r.na) (ds:=r.da) (by have:=s.a.2;omega)) J<|cd J (by show some (!decide _)=some false;rw[decide_eq_true h1];rfl) J<|?_;refine cl (fu:=⟨0⟩) J (tw (neg:=r.nb) (ds:=r.db) (by have:=s.b.2;omega)) J<|c6 J (by show some (!decide _)=some true;rw[decide_eq_false h];rfl) J<|?_;exact rz J (by unfold rD;rw[if_neg (fun e=>h e.2.1),show decide (r.nm/\r.l.ok)=false from decide_eq_false (fun e=>(fun e=>h e.2.1) e.1)];rfl)
def aFU(s:r.sm)(h1:gn r.na r.da)(h2:gn r.nb r.db)(h: ¬gn r.nc r.dc):PF GB prog 263 [r.d] (rD r):=by
 refine fn func263 J J ntmps263 J J (fun C=>?_);refine cl (fu:=⟨0⟩) J (tw (neg:=r.na) (ds:=r.da) (by have:=s.a.2;omega)) J<|cd J (by show some (!decide _)=some false;rw[decide_eq_true h1];rfl) J<|?_;refine cl (fu:=⟨0⟩) J (tw (neg:=r.nb) (ds:=r.db) (by have:=s.b.2;omega)) J<|cd J (by show some (!decide _)=some false;rw[decide_eq_true h2];rfl) J<|?_;refine cl (fu:=⟨0⟩) J (tw (neg:=r.nc) (ds:=r.dc) (by have:=s.c.2;omega)) J<|c6 J (by show some (!decide _)=some true;rw[decide_eq_false h];rfl) J<|?_;exact rz J (by unfold rD;rw[if_neg (fun e=>h e.2.2),show decide (r.nm/\r.l.ok)=false from decide_eq_false (fun e=>(fun e=>h e.2.2) e.1)];rfl)
def aGM(s:r.sm)(h:r.nm):PF GB prog 263 [r.d] (rD r):=by
 haveI:=RL.lb s;haveI ba:BN r.l.a.natAbs 96:=⟨(LB.a r.l).h⟩;haveI bb':BN r.l.b.natAbs 96:=⟨(LB.b r.l).h⟩;haveI bc:BN r.l.c.natAbs 96:=⟨(LB.c r.l).h⟩;obtain⟨g,hg⟩: ∃g,g=Nat.gcd r.l.a.natAbs r.l.b.natAbs:=⟨_,rfl⟩;haveI bg:BN g 96:=hg▸⟨FP ba.h bb'.h⟩;have bgc:=FP bg.h bc.h;have hgl:=lc bg.h;refine fn func263 J J ntmps263 J J (fun C=>?_);refine cl (fu:=⟨0⟩) J (tw (neg:=r.na) (ds:=r.da) (by have:=s.a.2;omega)) J<|cd J (by show some (!decide _)=some false;rw[decide_eq_true h.1];rfl) J<|?_;refine cl (fu:=⟨0⟩) J (tw (neg:=r.nb) (ds:=r.db) (by have:=s.b.2;omega)) J<|cd J (by show some (!decide _)=some false;rw[decide_eq_true h.2.1];rfl) J<|?_;refine cl (fu:=⟨0⟩) J (tw (neg:=r.nc) (ds:=r.dc) (by have:=s.c.2;omega)) J<|cd J (by show some (!decide _)=some false;rw[decide_eq_true h.2.2];rfl) J<|?_;refine cl J (EV (neg:=r.na) (ds:=r.da) s.a.1 (by have:=s.a.2;omega)) J<|cl J (EV (neg:=r.nb) (ds:=r.db) s.b.1 (by have:=s.b.2;omega)) J<|?_;refine cl J (EV (neg:=r.nc) (ds:=r.dc) s.c.1 (by have:=s.c.2;omega)) J<|cl (fu:=⟨0⟩) J (By (a:=r.l.a.natAbs) (b:=r.l.b.natAbs)) J<|?_;refine ak 39 (.d (dN g)) J (by rw[hg]) ?_;refine gx (fu:=⟨8⟩) J<|?_;refine ak 42 (.d (vI ((dg g).length:Nat))) J (by rw[eH]<;>rfl) ?_;refine gx (fu:=⟨0⟩) J<|?_;refine jr (v2:=fun hg43=>by simp only[aj];kernel_rfl) J J J J (fun hg43=>?_) (fun hg43=>?_)
 .
  refine cl J (By (a:=g) (b:=r.l.c.natAbs)) J<|cl J CW J<|cl J (ym (a:=Nat.gcd g r.l.c.natAbs) (b:=1) (by have:=lc bgc;omega) (by have:=lc (show 1<2^32 by decide);omega)) J<|?_;exact rz J (by unfold rD;rw[if_pos h,show decide (r.nm/\r.l.ok)=decide (gk (Nat.gcd g r.l.c.natAbs) 1=0) from decide_eq_decide.2 ⟨fun e=>Ls (by rw[hg];exact(Iu.1 e.2).2),fun e=>⟨h,Iu.2 ⟨by rw[<-hg];exact wh.1 (by omega),by rw[<-hg];exact Y7 e⟩⟩⟩];rfl)
 .
  exact rz J (by unfold rD;rw[if_pos h,show decide (r.nm/\r.l.ok)=false from decide_eq_false fun e=>by(have h1:=(Iu.1 e.2).1;rw[<-hg] at h1;have:=wh.2 h1;omega)];rfl)
def FQ(s:r.sm):PF GB prog 263 [r.d] (rD r):=by
 by_cases h1:gn r.na r.da
 .by_cases h2:gn r.nb r.db
  .by_cases h3:gn r.nc r.dc
   .exact aGM s ⟨h1,h2,h3⟩
   .exact aFU s h1 h2 h3
  .exact V1 s h1 h2
 .exact Tx s h1
def Vi{n:Nat}[h:BN n i](hi:i<=20000000:=by decide):PF GB prog 344 [dN n] (dN n):=by
 have hl:=lc h.h;have:=QG (GB:=GB) (ds:=dg n) (ll n) (by omega);rw[ce,<-Jm] at this;exact this
def Tm(z:Int):oF (decide (z<0)) (dg z.natAbs)=z:=by
 unfold oF;rw[ce];split<;>(rename_i h;simp at h;omega)
def aIL[h:BI z i](hi:i<=20000000:=by decide):PF GB prog 318 [eI z] (eI z):=by
 have hl:=lc h.h;have:=EV (GB:=GB) (neg:=decide (z<0)) (ds:=dg z.natAbs) (ll _) (by omega);rw[Tm,<-Jm] at this;exact this
def To{n:Nat}(h:0<n): ¬((((dg n).map dU).length:Nat):Int)=0:=by
 rw[aX];have:=vO (n:=n);omega
instance BQ.m1':BQ (((-1:Int):Int):Rat) 2:=⟨by decide,by decide⟩
instance BQ.m1:BQ (-1:Rat) 2:=⟨by decide,by decide⟩
def Lg[h:BQ q i](hi:i<=20000000:=by decide):PF GB prog 311 [eR q] (eQ q):=by
 have hd:=q.den_pos;refine fn func311 J J ntmps311 J J (fun C=>?_);refine cl (fu:=⟨8⟩) J (Vi (n:=q.den) hi) J<|cd J (by show some (decide _)=some false;rw[decide_eq_false (To hd)]) J<|cl J (aIL (z:=q.num) hi) J<|?_;refine cl J (yi (x:=q.num) (d:=q.den) hd (by omega) (by omega)) J<|?_;exact rz J (by rw[sV];rfl)
def O6[h:BQ q i](hi:i<=400000000:=by decide):PF GB prog 27 [eQ q] (eR q):=by
 refine fn func27 J J ntmps27 J J (fun C=>?_);refine cl J (Fj (z:=q.num) hi) J<|cl J (lD (q:=q)) J<|cl J (Rb (a:=q.den) hi) J<|?_;exact rz J J
def U1[h:aG p i](hi:i<=20000000:=by decide):PF GB prog 252 [pp p] (eP p):=by
 refine fn func252 J J ntmps252 J J (fun C=>?_);refine cl J (Lg (q:=p.x) hi) J<|cl J (Lg (q:=p.y) hi) J<|?_;exact rz J J
def Zo[h:aG p i](hi:i<=20000:=by decide):PF GB prog 17 [eP p] (pp p):=by
 refine fn func17 J J ntmps17 J J (fun C=>?_);refine cl J (O6 (q:=p.x) (i:=i) (by omega)) J<|cl J (O6 (q:=p.y) (i:=i) (by omega)) J<|?_;exact rz J J
def et(f:α->DV)(l:List α):(l.map f).length=l.length:=aX ..
def Nj(ps:List ah):cP 6 (ps.map eP):=fun d hd=>by
 obtain⟨u,_,rfl⟩:=aT.1 hd;exact⟨rfl,rfl⟩
def Xa(ps:List ah):cP 6 (ps.map pp):=fun d hd=>by
 obtain⟨u,_,rfl⟩:=aT.1 hd;exact⟨rfl,rfl⟩
def aIt(hb: ∀p∈ps,aG p 1200)(hn:ps.length<=1000000):PF GB prog 162 [.sl (ps.map pp)] (.sl (ps.map eP)):=by
 have hm:=et pp ps;refine fn (fu:=⟨15⟩) func162 J J ntmps162 J J (fun C=>?_);refine ak 7 (.d (vI (ps.length:Nat))) J (by rw[hm]<;>rfl) ?_;refine gx J<|?_;refine nr 3 3 36 6 J J J ?_;refine lp (X:=Nat) (fun k=>[(8, .d (vI (k:Nat))),(3, .rw 3)]) (fun k=>[(3,some (.b 36 6 ((ps.take k).map eP) true))]) (fun k=>k<=ps.length) (fun k=>ps.length-k) 0 J (bZ _) (fun _=>J) (fun k hk=>?_);have hml:=et eP (ps.take k);rw[cR] at hml;refine br J J J (fun hc9=>?_) (fun hc9=>?_)
 .
  obtain⟨z,hz⟩: ∃s,ps[k]? =some s:=⟨_,aZ (by omega)⟩;have hzm:=aV hz;refine ix _ J (cH hz) J<|cl J (U1 (p:=z) (h:=hb z hzm)) J<|rf J J<|ap ((ps.take (k+1)).map eP) J (vm hz) (Nj [z]) J<|?_;refine fH 16 3 J ?_;exact at_ (k+1) ⟨(by omega),(by omega)⟩
 .
  obtain rfl:k=ps.length:=by omega
  refine ir 3 J ?_;exact rz J (by rw[dQ];rfl)
def O1(hb: ∀p∈ps,aG p 1200)(hn:ps.length<=1000000):PF GB prog 16 [.sl (ps.map eP)] (.sl (ps.map pp)):=by
 have hm:=et eP ps;refine fn (fu:=⟨15⟩) func16 J J ntmps16 J J (fun C=>?_);refine ak 7 (.d (vI (ps.length:Nat))) J (by rw[hm]<;>rfl) ?_;refine gx J<|?_;refine nr 3 3 52 6 J J J ?_;refine lp (X:=Nat) (fun k=>[(8, .d (vI (k:Nat))),(3, .rw 3)]) (fun k=>[(3,some (.b 52 6 ((ps.take k).map pp) true))]) (fun k=>k<=ps.length) (fun k=>ps.length-k) 0 J (bZ _) (fun _=>J) (fun k hk=>?_);have hml:=et pp (ps.take k);rw[cR] at hml;refine br J J J (fun hc9=>?_) (fun hc9=>?_)
 .
  obtain⟨z,hz⟩: ∃s,ps[k]? =some s:=⟨_,aZ (by omega)⟩;have hzm:=aV hz;refine ix _ J (cH hz) J<|cl J (Zo (p:=z) (h:=hb z hzm)) J<|rf J J<|ap ((ps.take (k+1)).map pp) J (vm hz) (Xa [z]) J<|?_;refine fH 16 3 J ?_;exact at_ (k+1) ⟨(by omega),(by omega)⟩
 .
  obtain rfl:k=ps.length:=by omega
  refine ir 3 J ?_;exact rz J (by rw[dQ];rfl)
def OU{q:ah}[hp:aG p i][hq:aG q j](hi:i<=100000:=by decide)(hj:j<=100000:=by decide):PF GB prog 54 [eP p,eP q] (eP (cD p q (-1))):=by
 refine fn func54 J J ntmps54 J J (fun C=>?_);refine cl J (kl (n:= -1)) J<|cl J (Ct (p:=p) (q:=q) (c:=((-1:Int):Rat)) (i:=i) (j:=j) (k:=2) (by omega) (by omega)) J<|?_;exact rz J (by rw[show((-1:Int):Rat)= -1 from J];rfl)
def Cz{a b c:ah}[ha:aG a i][hb:aG b j][hc:aG c k](hi:i<=80000:=by decide)(hj:j<=80000:=by decide)(hk:k<=80000:=by decide):PF GB prog 25 [eP a,eP b,eP c] (vI (nI a b c)):=by
 refine fn func25 J J ntmps25 J J (fun C=>?_);refine cl J (OU (p:=b) (q:=a) (i:=j) (j:=i) (by omega) (by omega)) J<|cl J (OU (p:=c) (q:=a) (i:=k) (j:=i) (by omega) (by omega)) J<|?_;refine cl J (FR (p:=cD b a (-1)) (q:=cD c a (-1)) (by omega) (by omega)) J<|cl J (sH (q:=(cD b a (-1)).cross (cD c a (-1)))) J<|?_;exact rz J J
def Ap(l:aa):Bool:=decide (l.a<0\/(l.a=0/\l.b<0))
def aa.canon(l:aa):aa:=if Ap l then l.rev else l
def AZ(a:Int):a.sign<0↔a<0:=by
 rcases qJ a 0 with h|h|h
 .rw[fZ h];omega
 .subst h;simp
 .rw[fS h];omega
def O'(a:Int):a.sign=0↔a=0:=iX
def Q3(h:l.a<0\/(l.a=0/\l.b<0)):DV.tp [eL l.canon,vB (Ap l)]= .tp [eL l.rev,vB true]:=by
 unfold aa.canon Ap;rw[decide_eq_true h];rfl
def Nq(h: ¬(l.a<0\/(l.a=0/\l.b<0))):DV.tp [eL l.canon,vB (Ap l)]= .tp [eL l,vB false]:=by
 unfold aa.canon Ap;rw[decide_eq_false h];rfl
def YL[hl:LB l]:PF GB prog 218 [eL l] (.tp [eL l.canon,vB (Ap l)]):=by
 refine fn func218 J J ntmps218 J J (fun C=>?_);refine cl J (yv (z:=l.a)) J<|?_;refine cs 10 J J J (fun hg10=>?_) (fun hg10=>?_)
 .
  refine cl J (Bv (l:=l)) J<|?_;exact rz J (by rw[Q3 (.inl ((AZ _).1 hg10))];rfl)
 .
  refine cs 13 J J J (fun hg13=>?_) (fun hg13=>?_)
  .
   refine cl J (yv (z:=l.b)) J<|?_;refine br J J J (fun hc19=>?_) (fun hc19=>?_)
   .
    refine cl J (Bv (l:=l)) J<|?_;exact rz J (by rw[Q3 (.inr ⟨(O' _).1 hg13,(AZ _).1 hc19⟩)];rfl)
   .
    exact rz J (by rw[Nq (fun e=>e.elim (fun e=>hg10 ((AZ _).2 e)) (fun e=>hc19 ((AZ _).2 e.2)))];rfl)
  .
   exact rz J (by rw[Nq (fun e=>e.elim (fun e=>hg10 ((AZ _).2 e)) (fun e=>hg13 ((O' _).2 e.1)))];rfl)
instance LB.canon (l:aa) [h:LB l]:LB l.canon:=by unfold aa.canon;split;exact LB.rev h;exact h
def Nb(h:l.ok):l.canon.ok:=by unfold aa.canon;split;exact h.rev;exact h
def sO(c:β->β->Int)(g:α->β)(l:List α)(k:Nat):List β:=ug c ((l.take k).map g)
section
variable {c:β->β->Int}{g:α->β}{l:List α}
def Ay{x:α}(h:l[k]? =some x):sO c g l (k+1)=fe c (g x) (sO c g l k):=by
 unfold sO ug;rw[eM,h,pU,bV,oV];rfl
def P3(h:k=l.length:=by omega):sO c g l k=ug c (l.map g):=by unfold sO;rw[h,dQ]
def L':(sO c g l k).length<=k:=by
 have:=Fz c ((l.take k).map g) [];have h2:((l.take k).map g).length<=k:=by rw[aX,cR];omega
 rw[eX] at this;unfold sO ug;omega
def Rl{y:β}(h:y∈sO c g l k): ∃x∈l,y=g x:=by
 rcases Hs c h with h|h
 .obtain⟨x,hx,rfl⟩:=aT.1 h
  exact⟨x,fN hx,J⟩
 .cases h
end
def u9{f:α->DV}(ok: ∀l:List α,cP s (l.map f))(xs:List α)(n:Nat):cP s ((xs.map f).take n):=fun d hd=>ok xs d (fN hd)
def tG{f:α->DV}(ok: ∀l:List α,cP s (l.map f))(xs:List α)(n m:Nat):cP s (((xs.map f).take n).drop m):=fun d hd=>ok xs d (fN (gN hd))
def vu{f:α->DV}(ok: ∀l:List α,cP s (l.map f))(xs:List α)(n m:Nat)(x:α):cP s ([f x]++((xs.map f).take n).drop m):=fun d hd=>by
 rcases bW.1 hd with h|h
 .exact ok [x] d h
 .exact tG ok xs n m d h
def tz{f:α->DV}{l:List α}(h:i<l.length:=by omega):(l.map f)[(i:Int).toNat]? =some (f l[i]):=by
 rw[aR,bS,aZ h];rfl
def og(ls:List aa):List aa:=ug iq (ls.map aa.canon)
def Dt{y:aa}(h:y∈og ls): ∃x∈ls,y=x.canon:=by
 rcases Hs iq h with h|h
 .obtain⟨x,hx,rfl⟩:=aT.1 h;exact⟨x,hx,rfl⟩
 .cases h
def Qg(hb: ∀p∈ls,LB p)(hn:ls.length<=100000):PF GB prog 131 [.sl (ls.map eL)] (.sl ((og ls).map eL)):=by
 have hm':=et eL ls;refine fn (fu:=⟨15⟩) func131 J J ntmps131 J J (fun C=>?_);refine ak 8 (.d (vI (ls.length:Nat))) J (by rw[hm'];rfl) ?_;refine gx J<|?_;refine BT 3 J ?_;refine lp (X:=List aa×Nat) (fun⟨xs,k⟩=>[(9, .d (vI (k:Nat))),(8, .d (vI (ls.length:Nat))),(7, .d (.sl (ls.map eL))),(0, .d (.sl (ls.map eL))),(3, .d (.sl (xs.map eL)))]) (fun⟨xs,k⟩=>[]) (fun⟨xs,k⟩=>xs=sO iq aa.canon ls k/\k<=ls.length) (fun⟨xs,k⟩=>ls.length-k) ⟨[],0⟩ J ⟨J,bZ _⟩ (fun _=>J) (fun⟨xs,k⟩ hk=>?_)
 try dsimp only at hk⊢
 obtain⟨hS,hkl⟩:=hk;refine br J J J (fun hc10=>?_) (fun hc10=>?_)
 .
  have hk:k<ls.length:=by omega
  obtain⟨z,hm⟩: ∃m,m=ls[k]:=⟨_,rfl⟩;have hz:ls[k]? =some z:=by rw[hm];exact aZ hk
  haveI hzb:LB z:=hm▸hb _ (cN hk);obtain⟨m,hmc⟩: ∃m,m=z.canon:=⟨_,rfl⟩;haveI hmb:LB m:=by rw[hmc];infer_instance
  have hxl:=et eL xs;have hxn:xs.length<=k:=by rw[hS];exact L'
  have hxb: ∀q∈xs,LB q:=fun q hq=>by rw[hS] at hq;obtain⟨z,hz,rfl⟩:=Rl hq;haveI:=hb z hz;infer_instance
  refine ix (fu:=⟨1⟩) _ J (tz hk) J<|?_;refine ak 12 (.d (eL z)) J (by rw[hm];rfl) ?_;refine gx J<|cl (fu:=⟨2⟩) J (YL (l:=z)) J<|?_;refine ak 16 (.d (eL m)) J (by rw[hmc]) ?_;refine gx (fu:=⟨10⟩) J<|?_;refine mg (fu:=⟨5⟩) (X:=Unit) (fun _=>[(9, .d (vI (k:Nat))),(8, .d (vI (ls.length:Nat))),(7, .d (.sl (ls.map eL))),(0, .d (.sl (ls.map eL))),(3, .d (.sl (xs.map eL))),(5, .ov 5 0),(6, .d (vI (mG iq m xs:Nat)))]) (fun _=>[(5,some (.o 85 [.d ((.v (.bool (decide (m.a<0))))), .d (dN m.a.natAbs), .d ((.v (.bool (decide (m.b<0))))), .d (dN m.b.natAbs), .d ((.v (.bool (decide (m.c<0))))), .d (dN m.c.natAbs)] true))]) (fun _=>True) [9,8,7,0,3,5,6] [5] rfl ?_ (fun _=>J) (fun _ _=>?_)
  .
   refine gx J<|?_;refine lp (fu:=⟨6⟩) (X:=Nat) (fun n=>[(9, .d (vI (k:Nat))),(8, .d (vI (ls.length:Nat))),(7, .d (.sl (ls.map eL))),(0, .d (.sl (ls.map eL))),(3, .d (.sl (xs.map eL))),(5, .ov 5 0),(6, .d (vI (n:Nat)))]) (fun n=>[(5,some (.o 85 [.d ((.v (.bool (decide (m.a<0))))), .d (dN m.a.natAbs), .d ((.v (.bool (decide (m.b<0))))), .d (dN m.b.natAbs), .d ((.v (.bool (decide (m.c<0))))), .d (dN m.c.natAbs)] true))]) (fun n=>n<=xs.length/\ ∀j (h:j<xs.length),j<n->iq xs[j] m<0) (fun n=>xs.length-n) 0 J ⟨bZ _,fun j _ hj=>absurd hj (by omega)⟩ (fun _=>J) (fun n hk=>?_);obtain⟨n1,n2⟩:=hk;refine jr (v2:=fun hg21=>by simp only[aj];kernel_rfl) J J J J (fun hg21=>?_) (fun hg21=>?_)
   .
    refine ix _ J (tz) J<|cl J (Dr (l:=xs[n]'(by omega)) (m:=m) (hl:=hxb _ (cN (by omega))) (hm:=hmb)) J<|?_;refine br J J J (fun hc30=>?_) (fun hc30=>?_)
    .
     exact at_ (n+1) ⟨⟨by omega,fun j h hj=>by by_cases q:j=n;(subst q;exact hc30);exact n2 j h (by omega)⟩,(by omega)⟩
    .
     have hidx:mG iq m xs=n:=vY iq n1 n2 (fun h=>hc30);exact at_ () trivial
   .
    have hidx:mG iq m xs=n:=vY iq n1 n2 (fun h=>absurd h (by omega));exact at_ () trivial
  .
   obtain⟨n,hnx⟩: ∃n,mG iq m xs=n:=⟨_,rfl⟩;rw[hnx];have hnl:n<=xs.length:=by rw[<-hnx];exact Ed _ _ _
   refine jr (v1:=fun hg36=>by simp only[aj];kernel_rfl) J J J J (fun hg36=>?_) (fun hg36=>?_)
   .
    have hnew: ∀h:n<xs.length,iq xs[n] m≠0:=fun h=>absurd h (by omega);obtain⟨ys,hys⟩: ∃ys,ys=xs.take n++m::xs.drop n:=⟨_,rfl⟩;have hin:fe iq m xs=ys:=by rw[hys];exact tP iq hnx hnew
    have hyl:ys.length<=xs.length+1:=by rw[hys];simp;omega
    refine s3 n _ J J J J (fP _) (by rw[hxl];exact hnl) J<|ro J J<|mE n xs.length _ J J (by rw[hxl]) J (fP _) hnl (by omega) J<|?_;refine ap _ J J (tG fP _ _ _) J<|mc (hv:=by simp only[aj];exact⟨by kernel_rfl,by omega⟩) (ho:=fun _=>⟨u9 fP _ _,by simp⟩) (ys.map eL) J (by rw[hys,bV,bT,iL,jZ,aM (l:=xs.map eL) (i:=xs.length) (by simp)];rfl) (vu fP _ _ _ _) J<|?_;exact at_ ⟨ys,k+1⟩ (by dsimp only;exact⟨⟨by rw[Ay hz,<-hS,<-hmc];exact hin.symm,by omega⟩,(by omega)⟩)
   .
    refine ix _ J (tz) J<|cl J (Dr (l:=xs[n]'(by omega)) (m:=m) (hl:=hxb _ (cN (by omega))) (hm:=hmb)) J<|?_;refine br J J J (fun hc45=>?_) (fun hc45=>?_)
    .
     have hnew: ∀h:n<xs.length,iq xs[n] m≠0:=fun h=>hc45;obtain⟨ys,hys⟩: ∃ys,ys=xs.take n++m::xs.drop n:=⟨_,rfl⟩;have hin:fe iq m xs=ys:=by rw[hys];exact tP iq hnx hnew
     have hyl:ys.length<=xs.length+1:=by rw[hys];simp;omega
     refine s3 n _ J J J J (fP _) (by rw[hxl];exact hnl) J<|ro J J<|mE n xs.length _ J J (by rw[hxl]) J (fP _) hnl (by omega) J<|?_;refine ap _ J J (tG fP _ _ _) J<|mc (hv:=by simp only[aj];exact⟨by kernel_rfl,by omega⟩) (ho:=fun _=>⟨u9 fP _ _,by simp⟩) (ys.map eL) J (by rw[hys,bV,bT,iL,jZ,aM (l:=xs.map eL) (i:=xs.length) (by simp)];rfl) (vu fP _ _ _ _) J<|?_;exact at_ ⟨ys,k+1⟩ (by dsimp only;exact⟨⟨by rw[Ay hz,<-hS,<-hmc];exact hin.symm,by omega⟩,(by omega)⟩)
    .
     have hin:fe iq m xs=xs:=AH iq hnx (by omega) (Decidable.not_not.1 hc45);exact at_ ⟨xs,k+1⟩ (by dsimp only;exact⟨⟨by rw[Ay hz,<-hS,<-hmc];exact hin.symm,by omega⟩,(by omega)⟩)
 .
  have hfin:og ls=xs:=by rw[hS,P3];rfl
  exact rz J (by rw[hfin];rfl)
def DC{α:Type}{c:α->α->Int}(hc: ∀u x,c u x=0->u=x){x y:α}: ∀{xs:List α},y=x\/y∈xs->y∈fe c x xs
 |[],h=>by
  rcases h with rfl|h
  .rw[fe];exact aS.2 J
  .cases h
 |u::t,h=>by
  rw[fe];split
  .rcases h with rfl|h
   .exact aJ _ (DC hc (.inl J))
   .rcases aW.1 h with rfl|h
    .exact aQ
    .exact aJ _ (DC hc (.inr h))
  .split
   .rename_i h0
    rcases h with rfl|h
    .rw[<-hc _ _ h0];exact aQ
    .exact h
   .rcases h with rfl|h
    .exact aQ
    .exact aJ _ h
def RI{α:Type}{c:α->α->Int}(hc: ∀u x,c u x=0->u=x){y:α}: ∀{l o:List α},y∈l\/y∈o->y∈l.foldl (fun out x=>fe c x out) o
 |[],o,h=>h.elim (fun h=>by cases h) id
 |x::t,o,h=>by
  refine RI hc (l:=t) ?_;rcases h with h|h
  .rcases aW.1 h with rfl|h
   .exact .inr (DC hc (.inl J))
   .exact .inl h
  .exact .inr (DC hc (.inr h))
def R5{x:aa}(h:x∈ls):x.canon∈og ls:=
 RI (fun u x e=>(AM u x).1 e) (.inl (dX h))
def SM(l:aa)(p:ah):l.canon.value p=l.value p\/l.canon.value p= -l.value p:=by
 unfold aa.canon;split
 .exact .inr (eD l p)
 .exact .inl J
def HH:cF (og ls) p↔cF ls p:=by
 constructor
 .intro h l hl e
  have:=h _ (R5 hl);rcases SM l p with k|k<;>rw[k,e] at this<;>exact this (by simp)
 .intro h l hl e
  obtain⟨x,hx,rfl⟩:=Dt hl;have:=h x hx;rcases SM x p with k|k<;>rw[k] at e
  .exact this e
  .exact this (by grind)
def WB{q:ah}(hp:cF ls p)(hq:cF ls q)(h: ∀l∈og ls,0<l.value p↔0<l.value q): ∀l∈ls,0<l.value q↔0<l.value p:=fun l hl=>by
 have h1:=h _ (R5 hl);have h2:=hp l hl;have h3:=hq l hl;unfold aa.canon at h1;split at h1
 .rw[eD,eD] at h1
  constructor
  .intro k
   rcases kE (l.value p) with e|e|e
   .exact absurd e h2
   .exact e
   .have:=h1.1 (by grind);grind
  .intro k
   rcases kE (l.value q) with e|e|e
   .exact absurd e h3
   .exact e
   .have:=h1.2 (by grind);grind
 .exact h1.symm
def ow(a b:Tr):List ah:=qe (og (a.lns++b.lns))
def U0{a:Tr}(ha:a.all aa.ok)(hb:b.all aa.ok){R:Bool->Bool->Prop}:(∀p∈ow a b,R (kA a p) (kA b p))↔ ∀p,cF (a.lns++b.lns) p->R (a.val p) (b.val p):=by
 have hok: ∀l∈a.lns++b.lns,l.ok:=fun l hl=>(bW.1 hl).elim (pA ha l) (pA hb l);have hne: ∀l∈og (a.lns++b.lns),l.Ne:=fun l hl=>by
  obtain⟨x,hx,rfl⟩:=Dt hl;exact(Nb (hok x hx)).ne
 constructor
 .intro h p hp
  obtain⟨q,hq,hs⟩:=av2 hne (HH.2 hp);have ho:=HH.1 (Mw hne hq);have hsd:=WB hp ho hs;have k:=h q hq;rw[zl (cF.app.1 ho).1,zl (cF.app.1 ho).2,De (t:=a) hsd (fun l hl=>bU _ hl),De (t:=b) hsd (fun l hl=>bK _ hl)] at k;exact k
 .intro h p hp
  have ho:=HH.1 (Mw hne hp);rw[zl (cF.app.1 ho).1,zl (cF.app.1 ho).2];exact h p ho
def ue(a b:Tr):Bool:=(ow a b).all fun p=>kA a p==kA b p
def azM{a:Tr}(ha:a.all aa.ok)(hb:b.all aa.ok):ue a b=ml 4 a b:=by
 rw[rY,(oE.mk0 ha hb).none,ue,dK,U0 ha hb (R:=fun x y=>(x==y)=true)];unfold pP;simp
def Vw{a:Tr}(ha:a.all aa.ok)(hb:b.all aa.ok)(hL: ∀l∈L,l.ok)(hLa: ∀l∈a.lns,l∈L)(hLb: ∀l∈b.lns,l∈L)(h: ∀p,cF L p->a.val p=b.val p):ue a b=true:=by
 rw[azM ha hb,(oE.mk ha hb hL hLa hLb).none];intro p hp;rw[h p hp];unfold pP;simp
def en.trans{u v w:ah}(hu:u.half≠0)(hv:v.half≠0)(hw:w.half≠0)(h:en u v)(k:en v w):en u w:=by
 rcases h with h|⟨h,h'⟩<;>rcases k with k|⟨k,k'⟩
 .exact .inl (by omega)
 .exact .inl (by omega)
 .exact .inl (by omega)
 .refine .inr ⟨h.trans k,?_⟩
  have id1:u.cross w*v.y=u.cross v*w.y+v.cross w*u.y:=by unfold ah.cross;grind
  rcases vW v with⟨x,q⟩|⟨x,q⟩|⟨x,q⟩
  .rw[x] at h k
   have qu:=qm.1 h;have qw:=qm.1 k.symm;rcases q with q|⟨q,q'⟩
   .rw[<-f9 q,id1]
    have wy:0<=w.y:=by grind
    have uy:0<=u.y:=by grind
    have a1:=cG (cM h') wy;rcases qu with qu|⟨qu,qu'⟩
    .have:=dh k' qu;grind
    .rcases qw with qw|⟨qw,qw'⟩
     .have:=dh h' qw;rw[qu];grind
     .exfalso
      have hx:v.cross w= -(w.x*v.y):=by unfold ah.cross;rw[qw];grind
      have:=dh qw' q;grind
   .exfalso
    have hx:u.cross v= -(v.x*u.y):=by unfold ah.cross;rw[q];grind
    have:=cG (a:=v.x) (b:=u.y) (cM q') (by grind);grind
  .rw[x] at h k
   have qu:=vC.1 h;have qw:=vC.1 k.symm;rcases q with q|⟨q,q'⟩
   .have e1:u.cross w* -v.y=u.cross v* -w.y+v.cross w* -u.y:=by grind
    rw[<-f9 (k:= -v.y) (by grind),e1];have a1:=cG (a:=u.cross v) (b:= -w.y) (cM h') (by grind);rcases qu with qu|⟨qu,qu'⟩
    .have:=dh (a:=v.cross w) (b:= -u.y) k' (by grind);grind
    .rcases qw with qw|⟨qw,qw'⟩
     .have:=dh (a:=u.cross v) (b:= -w.y) h' (by grind);rw[qu];grind
     .exfalso
      have hx:v.cross w= -(-w.x* -v.y):=by unfold ah.cross;rw[qw];grind
      have:=dh (a:= -w.x) (b:= -v.y) (by grind) (by grind);grind
   .exfalso
    have hx:u.cross v= -(-v.x* -u.y):=by unfold ah.cross;rw[q];grind
    have:=cG (a:= -v.x) (b:= -u.y) (by grind) (by grind);grind
  .exact absurd x hv
def Fk(h:l.ok):l.dir.half≠0:=fun e=>by
 have hn:=h.ne;unfold aa.Ne at hn;rcases vW l.dir with⟨k,_⟩|⟨k,_⟩|⟨_,k1,k2⟩
 .rw[k] at e;cases e
 .rw[k] at e;cases e
 .unfold aa.dir at k1 k2
  simp only at k1 k2;apply hn;refine⟨?_,cX.1 k2⟩;have:(l.a:Rat)=0:=by grind
  exact cX.1 this
def min2{b:Rat}(ha:0<a)(hb:0<b): ∃d:Rat,0<d/\d<=a/\d<=b:=by
 by_cases k:a<=b
 .exact⟨a,ha,by grind,k⟩
 .exact⟨b,hb,by grind,by grind⟩
def axZ{v:ah}:gi u v=0↔u.half=v.half/\u.cross v=0:=by
 unfold gi;split
 .constructor
  .intro h;exact absurd h (by decide)
  .intro h;omega
 .split
  .constructor
   .intro h;exact absurd h (by decide)
   .intro h;omega
  .constructor
   .intro h
    exact⟨by omega,(pH _).1 (by omega)⟩
   .intro h
    rw[(pH _).2 h.2];rfl
def Cb{v:ah}(h:en u v)(k:en v w):en u w:=by
 by_cases hu:u.half=0
 .by_cases hw:w.half=0
  .have z: ∀x y:ah,x.half=0->x.cross y=0:=fun x y hx=>by
    rcases vW x with⟨e,_⟩|⟨e,_⟩|⟨_,e1,e2⟩
    .rw[hx] at e;exact absurd e (by decide)
    .rw[hx] at e;exact absurd e (by decide)
    .unfold ah.cross;rw[e1,e2];grind
   rcases h with h|⟨h,h'⟩
   .rcases k with k|⟨k,k'⟩
    .omega
    .have hv:v.half≠0:=by omega
     omega
   .rw[z u v hu] at h';exact absurd h' (by decide)
  .refine .inl ?_
   have h1:=pn hw;omega
 .have hv:v.half≠0:=by
   intro e;rcases h with h|⟨h,_⟩
   .have:=pn hu;omega
   .omega
  have hw:w.half≠0:=by
   intro e;rcases k with k|⟨k,_⟩
   .have:=pn hv;omega
   .omega
  exact en.trans hu hv hw h k
section
variable (c:α->α->Int)
end
def xm(u:ah): ¬en u u:=by
 rintro (h|⟨_,h⟩)
 .omega
 .have:u.cross u=0:=by unfold ah.cross;grind
  rw[this] at h;exact absurd h (by decide)
def BJ{v:ah}(h:en u v)(k:en v u):False:=xm u (Cb h k)
def R7{x y:ah}(h: ¬en x y)(k: ¬en y x):gi x y=0:=by
 rw[<-Af] at h k;unfold gi at*;split at h<;>try omega
 split at h<;>try omega
 split at k<;>try omega
 rw[show y.cross x= -(x.cross y) by unfold ah.cross;grind,oK,Int.sign_neg] at k;omega
def As(vs:List ao):cP 8 (vs.map eV):=fun d hd=>by
 obtain⟨u,_,rfl⟩:=aT.1 hd;exact⟨rfl,rfl⟩
def ez(qs:List Rat):cP 3 (qs.map eQ):=fun d hd=>by
 obtain⟨u,_,rfl⟩:=aT.1 hd;exact⟨rfl,rfl⟩
def QN(bs:List Bool):cP 1 (bs.map vB):=fun d hd=>by
 obtain⟨u,_,rfl⟩:=aT.1 hd;exact⟨rfl,rfl⟩
def azc{l:List ao}{a b:Int}(h:l[k]? =some v)(ha:a=if v.nl then 1 else bA t v.lo)(hb:b=if v.nh then-1 else bA t v.hi):
  vQ (l.drop k) t=if 0<a/\b<0 then 2 else if(a=0/\b<=0)\/(b=0/\0<=a) then 1 else vQ (l.drop (k+1)) t:=by
 obtain⟨hk,rfl⟩:=aY.1 h;rw[bQ hk,vQ,ha,hb]
structure nD (v:ao):Prop where
 lo:BQ v.lo 1200
 hi:BQ v.hi 1200
def aza{l:List ao}[ht:BQ t i](hb: ∀v∈l,nD v)(hn:l.length<=100000)(hi:i<=20000:=by decide):PF GB prog 364 [.sl (l.map eV),eQ t] (vI (vQ l t)):=by
 have hm:=et eV l;refine fn (fu:=⟨11⟩) func364 J J ntmps364 J J (fun C=>?_);refine ak 10 (.d (vI (l.length:Nat))) J (by rw[hm]<;>rfl) ?_;refine gx J<|?_;refine lp (X:=Nat) (fun k=>[(11, .d (vI (k:Nat)))]) (fun k=>[]) (fun k=>k<=l.length/\vQ (l.drop k) t=vQ l t) (fun k=>l.length-k) 0 J ⟨bZ _,J⟩ (fun _=>J) (fun k hk=>?_);obtain⟨h1,h2⟩:=hk;refine br J J J (fun hc12=>?_) (fun hc12=>?_)
 .
  obtain⟨v,hz⟩: ∃s,l[k]? =some s:=⟨_,aZ (by omega)⟩;have hv:=hb v (aV hz);haveI:=hv.lo;haveI:=hv.hi;refine ix (fu:=⟨12⟩) _ J (cH hz) J<|?_;refine mg (fu:=⟨1⟩) (X:=Int) (fun a=>[(7, .d (vI a))]) (fun a=>[]) (fun a=>a=if v.nl then 1 else bA t v.lo) [7] [] rfl ?_ (fun _=>J) (fun a ha=>?_)
  .
   refine gx J<|?_;refine bb J J J (fun hc17=>?_) (fun hc17=>?_)
   .
    refine cl J (mD (a:=t) (b:=v.lo) (i:=i) (by omega)) J<|?_;exact at_ (bA t v.lo) (by rw[if_neg (by simpa using hc17)])
   .
    exact at_ 1 (by rw[if_pos (by simpa using hc17)])
  .
   refine mg (X:=Int) (fun b=>[(8, .d (vI b))]) (fun b=>[]) (fun b=>b=if v.nh then-1 else bA t v.hi) [8] [] rfl ?_ (fun _=>J) (fun b hb'=>?_)
   .
    refine gx J<|?_;refine bb J J J (fun hc24=>?_) (fun hc24=>?_)
    .
     refine cl J (mD (a:=t) (b:=v.hi) (i:=i) (by omega)) J<|?_;exact at_ (bA t v.hi) (by rw[if_neg (by simpa using hc24)])
    .
     exact at_ (-1) (by rw[if_pos (by simpa using hc24)])
   .
    have hst:=azc hz ha hb';refine cs 31 J J J (fun hg31=>?_) (fun hg31=>?_)
    .
     refine br J J J (fun hc34=>?_) (fun hc34=>?_)
     .
      exact rz J (by first|(rw[<-h2,gQ];rfl)|(rw[<-h2,hst,if_pos (by omega)];rfl)|(rw[<-h2,hst,if_neg (by omega),if_pos (by omega)];rfl))
     .
      refine cs 37 J J J (fun hg37=>?_) (fun hg37=>?_)
      .
       refine cs 41 J J J (fun hg41=>?_) (fun hg41=>?_)
       .
        exact rz J (by first|(rw[<-h2,gQ];rfl)|(rw[<-h2,hst,if_pos (by omega)];rfl)|(rw[<-h2,hst,if_neg (by omega),if_pos (by omega)];rfl))
       .
        refine cs 44 J J J (fun hg44=>?_) (fun hg44=>?_)
        .
         refine br J J J (fun hc48=>?_) (fun hc48=>?_)
         .
          exact rz J (by first|(rw[<-h2,gQ];rfl)|(rw[<-h2,hst,if_pos (by omega)];rfl)|(rw[<-h2,hst,if_neg (by omega),if_pos (by omega)];rfl))
         .
          exact at_ (k+1) ⟨⟨by omega,by rw[<-h2,hst,if_neg (by omega),if_neg (by omega)]⟩,(by omega)⟩
        .
         exact at_ (k+1) ⟨⟨by omega,by rw[<-h2,hst,if_neg (by omega),if_neg (by omega)]⟩,(by omega)⟩
      .
       refine cs 44 J J J (fun hg44=>?_) (fun hg44=>?_)
       .
        refine br J J J (fun hc48=>?_) (fun hc48=>?_)
        .
         exact rz J (by first|(rw[<-h2,gQ];rfl)|(rw[<-h2,hst,if_pos (by omega)];rfl)|(rw[<-h2,hst,if_neg (by omega),if_pos (by omega)];rfl))
        .
         exact at_ (k+1) ⟨⟨by omega,by rw[<-h2,hst,if_neg (by omega),if_neg (by omega)]⟩,(by omega)⟩
       .
        exact at_ (k+1) ⟨⟨by omega,by rw[<-h2,hst,if_neg (by omega),if_neg (by omega)]⟩,(by omega)⟩
    .
     refine cs 37 J J J (fun hg37=>?_) (fun hg37=>?_)
     .
      refine cs 41 J J J (fun hg41=>?_) (fun hg41=>?_)
      .
       exact rz J (by first|(rw[<-h2,gQ];rfl)|(rw[<-h2,hst,if_pos (by omega)];rfl)|(rw[<-h2,hst,if_neg (by omega),if_pos (by omega)];rfl))
      .
       refine cs 44 J J J (fun hg44=>?_) (fun hg44=>?_)
       .
        refine br J J J (fun hc48=>?_) (fun hc48=>?_)
        .
         exact rz J (by first|(rw[<-h2,gQ];rfl)|(rw[<-h2,hst,if_pos (by omega)];rfl)|(rw[<-h2,hst,if_neg (by omega),if_pos (by omega)];rfl))
        .
         exact at_ (k+1) ⟨⟨by omega,by rw[<-h2,hst,if_neg (by omega),if_neg (by omega)]⟩,(by omega)⟩
       .
        exact at_ (k+1) ⟨⟨by omega,by rw[<-h2,hst,if_neg (by omega),if_neg (by omega)]⟩,(by omega)⟩
     .
      refine cs 44 J J J (fun hg44=>?_) (fun hg44=>?_)
      .
       refine br J J J (fun hc48=>?_) (fun hc48=>?_)
       .
        exact rz J (by first|(rw[<-h2,gQ];rfl)|(rw[<-h2,hst,if_pos (by omega)];rfl)|(rw[<-h2,hst,if_neg (by omega),if_pos (by omega)];rfl))
       .
        exact at_ (k+1) ⟨⟨by omega,by rw[<-h2,hst,if_neg (by omega),if_neg (by omega)]⟩,(by omega)⟩
      .
       exact at_ (k+1) ⟨⟨by omega,by rw[<-h2,hst,if_neg (by omega),if_neg (by omega)]⟩,(by omega)⟩
 .
  obtain rfl:k=l.length:=by omega
  exact rz J (by first|(rw[<-h2,gQ];rfl)|(rw[<-h2,hst,if_pos (by omega)];rfl)|(rw[<-h2,hst,if_neg (by omega),if_pos (by omega)];rfl))
def Oy{l:List ao}[ht:BQ t i](hb: ∀v∈l,nD v)(hn:l.length<=100000)(hi:i<=20000:=by decide):PF GB prog 342 [.sl (l.map eV),eQ t] (vB (gv l t)):=by
 refine fn func342 J J ntmps342 J J (fun C=>?_);refine cl J (aza (l:=l) (t:=t) hb hn hi) J<|?_;exact rz J J
def Gd: ∀{l:List Rat} {i:Nat} {a b:Rat},l[i]? =some a->l[i+1]? =some b->i8 (l.take (i+2))=i8 (l.take (i+1))++[(a+b)/2]
 |[],i,a,b,h,_=>by simp at h
 |[_],i,a,b,h,k=>by simp at k
 |c::d::t,0,a,b,h,k=>by
  simp at h k;subst h;subst k;simp[i8]
 |c::d::t,i+1,a,b,h,k=>by
  have:=Gd (l:=d::t) (i:=i) (by simpa using h) (by simpa using k);rw[show(c::d::t).take (i+1+2)=c::d::t.take (i+1) by simp,show(c::d::t).take (i+1+1)=c::d::t.take i by simp,i8,i8,iJ];congr 1
def AN: ∀l:List Rat,(i8 l).length<=l.length
 |[]=>bX _
 |[_]=>bZ _
 |a::b::t=>by rw[i8,bJ,bJ];exact Nat.succ_le_succ (AN (b::t))
def SC{t:List Rat}{z:Rat}(h:(a::t)[t.length]? =some z):ck (a::t)=(a-1)::(i8 (a::t)++[z+1]):=by
 rw[ck];have:(a::t).getLast (by simp)=z:=by
  rw[List.getLast_eq_getElem];have:=aY.1 h;obtain⟨h1,h2⟩:=this;rw[<-h2];congr 1
 rw[this]
def Tp(hb: ∀q∈cuts,BQ q 1200)(hn:cuts.length<=100000):PF GB prog 341 [.sl (cuts.map eQ)] (.sl ((ck cuts).map eQ)):=by
 have hm:=et eQ cuts;refine fn (fu:=⟨10⟩) func341 J J ntmps341 J J (fun C=>?_);refine ak 6 (.d (vI (cuts.length:Nat))) J (by rw[hm]<;>rfl) ?_;refine gx J<|?_;refine br J J J (fun hc7=>?_) (fun hc7=>?_)
 .
  obtain rfl:cuts=[]:=bM (by omega);refine rf J J<|?_;exact rz J (by rw[ck];show DV.sl [_]=DV.sl [_];rw[F'])
 .
  obtain⟨a,ct,rfl⟩: ∃a t,cuts=a::t:=by cases cuts with|nil=>exact absurd rfl hc7|cons a t=>exact⟨a,t,rfl⟩
  haveI hab:=hb a aQ;have hcl:ct.length+1<=100000:=hn;refine ix _ J J J<|cl J (kl (n:=1)) J<|cl (fu:=⟨0⟩) J (tc (a:=a) (b:=((1:Int):Rat))) J<|?_;refine ak 14 (.d (eQ (a-1))) J J ?_;refine gx J<|ro J J<|?_;refine lp (fu:=⟨6⟩) (X:=Nat) (fun i=>[(4, .d (vI ((i+1:Nat):Int))),(3, .rw 15)]) (fun i=>[(15,some (.b 34 3 (((a-1)::i8 ((a::ct).take (i+1))).map eQ) true))]) (fun i=>i<=ct.length) (fun i=>ct.length-i) 0 J (bZ _) (fun _=>J) (fun i hk=>?_);have hm2:=et eQ (a::ct);have hml:=AN (a::ct.take i);rw[bJ,cR] at hml;have hml2:=AN (a::ct);rw[bJ] at hml2;refine ak 18 (.d (vI ((ct.length+1:Nat):Int))) J (by rw[hm2]<;>rfl) ?_;refine gx J<|?_;refine br (fu2:=⟨11⟩) J J J (fun hc19=>?_) (fun hc19=>?_)
  .
   obtain⟨u,hu⟩: ∃s,(a::ct)[i]? =some s:=⟨_,aZ (by simp;omega)⟩;obtain⟨w,hw⟩: ∃s,(a::ct)[i+1]? =some s:=⟨_,aZ (by simp;omega)⟩;haveI:=hb u (aV hu);haveI:=hb w (aV hw);refine ix _ J (by rw[show((((i+1:Nat):Int))-1).toNat=i by omega,bS,hu];rfl) J<|ix _ J (by rw[aR,bS,hw];rfl) J<|?_;refine cl J (Ew (a:=u) (b:=w)) J<|rf J J<|ap (hv:=by simp only[aj];exact⟨by kernel_rfl,by omega⟩) (((a-1)::i8 ((a::ct).take (i+1+1))).map eQ) J (by rw[Gd hu hw,<-iJ,bV];rfl) (ez [(u+w)/2]) J<|?_;refine fH 34 15 J ?_;exact at_ (i+1) ⟨(by omega),(by omega)⟩
  .
   obtain rfl:i=ct.length:=by omega
   obtain⟨z,hz⟩: ∃s,(a::ct)[ct.length]? =some s:=⟨_,aZ (by simp)⟩;haveI:=hb z (aV hz);rw[show(a::ct).take (ct.length+1)=a::ct from dQ (l:=a::ct)];refine ak 38 (.d (vI ((ct.length+1:Nat):Int))) J (by rw[hm2]<;>rfl) ?_;refine gx J<|ix _ J (by rw[show((((ct.length+1:Nat):Int))-1).toNat=ct.length by omega,bS,hz];rfl) J<|cl J (kl (n:=1)) J<|?_;refine cl J (ol (a:=z) (b:=((1:Int):Rat))) J<|rf J J<|ap ((ck (a::ct)).map eQ) J (by rw[SC hz,<-iJ,bV];rfl) (ez [z+1]) J<|?_;refine ir 45 J ?_;exact rz J J
def OK(o:List Rat)(s:ao):(pk o s).length<=o.length+2:=by
 unfold pk;have h:=fun(x:Rat) (l:List Rat)=>xy (x:=x) (l:=l)▸CJ bA x l;have h1:=h s.lo o;have h2:=h s.hi o;have h3:=h s.hi (lf s.lo o);split<;>split<;>omega
def qF(l:List ao)(k:Nat):List Rat:=km (l.take k)
def RO{l:List ao}(h:l[k]? =some v):qF l (k+1)=pk (qF l k) v:=by
 unfold qF km;rw[eM,h,oV];rfl
def EU(l:List ao): ∀k,(qF l k).length<=2*k
 |0=>bX _
 |k+1=>by
  cases h:l[k]? with
  |none=>
   have:=EU l k;unfold qF at*;rw[eM,h];simp;omega
  |some v=>rw[RO h];have:=EU l k;have:=OK (qF l k) v;omega
theorem MB{l:List ao}(hb: ∀v∈l,nD v): ∀y∈qF l k,BQ y 1200:=fun y hy=>by
 obtain⟨s,hs,h⟩:=(Nd _).2 y hy;have:=hb s (fN hs);rcases h with⟨_,rfl⟩|⟨_,rfl⟩
 .exact this.lo
 .exact this.hi
def sv(o:List Rat)(v:ao)(j:Nat):List Rat:=if j=0 then o else if j=1 then(if v.nl then o else lf v.lo o) else pk o v
def A'(v:ao)(j:Nat):Rat:=if j=0 then v.lo else v.hi
def rF(v:ao)(j:Nat):Bool:=if j=0 then v.nl else v.nh
def vZ(hj:j<2:=by decide):sv o v (j+1)=if rF v j then sv o v j else fe bA (A' v j) (sv o v j):=by
 have:j=0\/j=1:=by omega
 rcases this with rfl|rfl
 .simp[sv,rF,A',xy]
 .simp[sv,rF,A',pk,xy]
def axz(hj:j<=2):(sv o v j).length<=o.length+2:=by
 unfold sv;have:=OK o v;have h:=xy (x:=v.lo) (l:=o)▸CJ bA v.lo o;split
 .omega
 .split
  .split<;>omega
  .exact this
theorem Wb(ho: ∀q∈o,BQ q 1200)(hv:nD v)(hj:j<=2): ∀q∈sv o v j,BQ q 1200:=fun q hq=>by
 unfold sv pk at hq;have lo:=hv.lo;have hi:=hv.hi;split at hq
 .exact ho q hq
 .split at hq
  .split at hq
   .exact ho q hq
   .rcases qI.1 hq with rfl|hq
    .exact lo
    .exact ho q hq
  .split at hq
   .split at hq
    .exact ho q hq
    .rcases qI.1 hq with rfl|hq
     .exact lo
     .exact ho q hq
   .rcases qI.1 hq with rfl|hq
    .exact hi
    .split at hq
     .exact ho q hq
     .rcases qI.1 hq with rfl|hq
      .exact lo
      .exact ho q hq
def ZV{l:List ao}(hb: ∀v∈l,nD v)(hn:l.length<=10000):PF GB prog 340 [.sl (l.map eV)] (.sl ((km l).map eQ)):=by
 have hm:=et eV l;refine fn (fu:=⟨15⟩) func340 J J ntmps340 J J (fun C=>?_);refine ak 10 (.d (vI (l.length:Nat))) J (by rw[hm]<;>rfl) ?_;refine gx J<|?_;refine BT 3 J ?_;refine lp (X:=List Rat×Nat) (fun⟨o,k⟩=>[(11, .d (vI (k:Nat))),(3, .d (.sl (o.map eQ)))]) (fun⟨o,k⟩=>[]) (fun⟨o,k⟩=>o=qF l k/\k<=l.length) (fun⟨o,k⟩=>l.length-k) ([],0) J ⟨J,bZ _⟩ (fun _=>J) (fun⟨o,k⟩ hk=>?_);dsimp only at hk⊢;obtain⟨h1,h2⟩:=hk;refine br J J J (fun hc12=>?_) (fun hc12=>?_)
 .
  obtain⟨v,hz⟩: ∃s,l[k]? =some s:=⟨_,aZ (by omega)⟩;have hv:=hb v (aV hz);haveI:=hv.lo;haveI:=hv.hi;have hob:=MB hb (k:=k);have hol:=EU l k;rw[<-h1] at hob hol;refine ix _ J (cH hz) J<|rf J J<|?_;refine lp (X:=List Rat×Nat) (fun⟨xs,j⟩=>[(21, .d (vI (j:Nat))),(3, .d (.sl (xs.map eQ)))]) (fun⟨xs,j⟩=>[]) (fun⟨xs,j⟩=>xs=sv o v j/\j<=2) (fun⟨xs,j⟩=>2-j) (o,0) J ⟨J,by omega⟩ (fun _=>J) (fun⟨xs,j⟩ hk=>?_);dsimp only at hk⊢;obtain⟨g1,g2⟩:=hk;refine br J J J (fun hc22=>?_) (fun hc22=>?_)
  .
   have hj2:j<2:=by have:=hc22;simp only[bJ,eX] at this;omega
   obtain⟨m,hm2⟩: ∃m,m=A' v j:=⟨_,rfl⟩;haveI hmb:BQ m 1200:=by rw[hm2];unfold A';split;exact hv.lo;exact hv.hi
   have hxl:=et eQ xs;have hxn:xs.length<=2*k+2:=by rw[g1];have:=axz (o:=o) (v:=v) (j:=j) g2;omega
   have hxb: ∀q∈xs,BQ q 1200:=by rw[g1];exact Wb hob hv g2
   refine ix (fu:=⟨10⟩) _ rfl (by rw[aR];exact(show([v.lo,v.hi].map eQ)[j]? =some (eQ m) by rw[hm2];have:j=0\/j=1:=(by omega);rcases this with rfl|rfl<;>rfl)) rfl<|?_;rcases(show j=0\/j=1 by omega) with rfl|rfl
   .
    refine c6 J J J<|?_;refine ja (fu2:=⟨1⟩) 32 J J J (fun hg32=>?_) (fun hg32=>?_)
    .
     exact at_ (xs,0+1) (by dsimp only;exact⟨⟨by rw[vZ,if_pos (by simpa[rF] using hg32),<-g1],by omega⟩,(by omega)⟩)
    .
     refine cd (fu:=⟨16⟩) J J J<|?_;refine mg (fu:=⟨5⟩) (X:=Nat) (fun n=>[(8, .d (vI (n:Nat)))]) (fun n=>[]) (fun n=>mG bA m xs=n) [8] [] rfl ?_ (fun _=>J) (fun n hnx=>?_)
     .
      refine gx J<|?_;refine lp (fu:=⟨6⟩) (X:=Nat) (fun n=>[(8, .d (vI (n:Nat)))]) (fun n=>[]) (fun n=>n<=xs.length/\ ∀j (h:j<xs.length),j<n->bA xs[j] m<0) (fun n=>xs.length-n) 0 J ⟨bZ _,fun j _ hj=>absurd hj (by omega)⟩ (fun _=>J) (fun n hk=>?_);obtain⟨n1,n2⟩:=hk;refine jr (v2:=fun hg43=>by simp only[aj];kernel_rfl) J J J J (fun hg43=>?_) (fun hg43=>?_)
      .
       refine ix _ J (tz) J<|cl J (mD (a:=xs[n]'(by omega)) (b:=m) (ha:=hxb _ (cN (by omega))) (hb:=hmb)) J<|?_;refine br J J J (fun hc52=>?_) (fun hc52=>?_)
       .
        exact at_ (n+1) ⟨⟨by omega,fun j h hj=>by by_cases q:j=n;(subst q;exact hc52);exact n2 j h (by omega)⟩,(by omega)⟩
       .
        exact at_ n (vY bA n1 n2 (fun h=>hc52))
      .
       exact at_ n (vY bA n1 n2 (fun h=>absurd h (by omega)))
     .
      have hnl:n<=xs.length:=by rw[<-hnx];exact Ed _ _ _
      refine jr (v1:=fun hg58=>by simp only[aj];kernel_rfl) J J J J (fun hg58=>?_) (fun hg58=>?_)
      .
       have hnew: ∀h:n<xs.length,bA xs[n] m≠0:=fun h=>absurd h (by omega);obtain⟨ys,hys⟩: ∃ys,ys=xs.take n++m::xs.drop n:=⟨_,rfl⟩;have hin:fe bA m xs=ys:=by rw[hys];exact tP bA hnx hnew
       have hyl:ys.length<=xs.length+1:=by rw[hys];simp;omega
       refine s3 n _ J J J J (ez _) (by rw[hxl];exact hnl) J<|ro J J<|mE n xs.length _ J J (by rw[hxl]) J (ez _) hnl (by omega) J<|?_;refine ap _ J J (tG ez _ _ _) J<|mc (hv:=by simp only[aj];exact⟨by kernel_rfl,by omega⟩) (ho:=fun _=>⟨u9 ez _ _,by simp⟩) (ys.map eQ) J (by rw[hys,bV,bT,iL,jZ,aM (l:=xs.map eQ) (i:=xs.length) (by simp)];rfl) (vu ez _ _ _ _) J<|?_;exact at_ (ys,0+1) (by dsimp only;exact⟨⟨by rw[vZ,if_neg (by simpa[rF] using hg32),<-g1,<-hm2,hin],by omega⟩,(by omega)⟩)
      .
       refine ix _ J (tz) J<|cl J (mD (a:=xs[n]'(by omega)) (b:=m) (ha:=hxb _ (cN (by omega))) (hb:=hmb)) J<|?_;refine br (fu2:=⟨7⟩) J J J (fun hc67=>?_) (fun hc67=>?_)
       .
        have hnew: ∀h:n<xs.length,bA xs[n] m≠0:=fun h=>hc67;obtain⟨ys,hys⟩: ∃ys,ys=xs.take n++m::xs.drop n:=⟨_,rfl⟩;have hin:fe bA m xs=ys:=by rw[hys];exact tP bA hnx hnew
        have hyl:ys.length<=xs.length+1:=by rw[hys];simp;omega
        refine s3 n _ J J J J (ez _) (by rw[hxl];exact hnl) J<|ro J J<|mE n xs.length _ J J (by rw[hxl]) J (ez _) hnl (by omega) J<|?_;refine ap _ J J (tG ez _ _ _) J<|mc (hv:=by simp only[aj];exact⟨by kernel_rfl,by omega⟩) (ho:=fun _=>⟨u9 ez _ _,by simp⟩) (ys.map eQ) J (by rw[hys,bV,bT,iL,jZ,aM (l:=xs.map eQ) (i:=xs.length) (by simp)];rfl) (vu ez _ _ _ _) J<|?_;exact at_ (ys,0+1) (by dsimp only;exact⟨⟨by rw[vZ,if_neg (by simpa[rF] using hg32),<-g1,<-hm2,hin],by omega⟩,(by omega)⟩)
       .
        have hin:fe bA m xs=xs:=AH bA hnx (by omega) (Decidable.not_not.1 hc67);exact at_ (xs,0+1) (by dsimp only;exact⟨⟨by rw[vZ,if_neg (by simpa[rF] using hg32),<-g1,<-hm2,hin],by omega⟩,(by omega)⟩)
   .
    refine cd (fu:=⟨6⟩) J J J<|c6 J J J<|?_;refine bb (fu2:=⟨8⟩) J J J (fun hc39=>?_) (fun hc39=>?_)
    .
     exact at_ (xs,1+1) (by dsimp only;exact⟨⟨by rw[vZ,if_pos (by simpa[rF] using hc39),<-g1],by omega⟩,(by omega)⟩)
    .
     refine mg (fu:=⟨5⟩) (X:=Nat) (fun n=>[(8, .d (vI (n:Nat)))]) (fun n=>[]) (fun n=>mG bA m xs=n) [8] [] rfl ?_ (fun _=>J) (fun n hnx=>?_)
     .
      refine gx J<|?_;refine lp (fu:=⟨6⟩) (X:=Nat) (fun n=>[(8, .d (vI (n:Nat)))]) (fun n=>[]) (fun n=>n<=xs.length/\ ∀j (h:j<xs.length),j<n->bA xs[j] m<0) (fun n=>xs.length-n) 0 J ⟨bZ _,fun j _ hj=>absurd hj (by omega)⟩ (fun _=>J) (fun n hk=>?_);obtain⟨n1,n2⟩:=hk;refine jr (v2:=fun hg43=>by simp only[aj];kernel_rfl) J J J J (fun hg43=>?_) (fun hg43=>?_)
      .
       refine ix _ J (tz) J<|cl J (mD (a:=xs[n]'(by omega)) (b:=m) (ha:=hxb _ (cN (by omega))) (hb:=hmb)) J<|?_;refine br J J J (fun hc52=>?_) (fun hc52=>?_)
       .
        exact at_ (n+1) ⟨⟨by omega,fun j h hj=>by by_cases q:j=n;(subst q;exact hc52);exact n2 j h (by omega)⟩,(by omega)⟩
       .
        exact at_ n (vY bA n1 n2 (fun h=>hc52))
      .
       exact at_ n (vY bA n1 n2 (fun h=>absurd h (by omega)))
     .
      have hnl:n<=xs.length:=by rw[<-hnx];exact Ed _ _ _
      refine jr (v1:=fun hg58=>by simp only[aj];kernel_rfl) J J J J (fun hg58=>?_) (fun hg58=>?_)
      .
       have hnew: ∀h:n<xs.length,bA xs[n] m≠0:=fun h=>absurd h (by omega);obtain⟨ys,hys⟩: ∃ys,ys=xs.take n++m::xs.drop n:=⟨_,rfl⟩;have hin:fe bA m xs=ys:=by rw[hys];exact tP bA hnx hnew
       have hyl:ys.length<=xs.length+1:=by rw[hys];simp;omega
       refine s3 n _ J J J J (ez _) (by rw[hxl];exact hnl) J<|ro J J<|mE n xs.length _ J J (by rw[hxl]) J (ez _) hnl (by omega) J<|?_;refine ap _ J J (tG ez _ _ _) J<|mc (hv:=by simp only[aj];exact⟨by kernel_rfl,by omega⟩) (ho:=fun _=>⟨u9 ez _ _,by simp⟩) (ys.map eQ) J (by rw[hys,bV,bT,iL,jZ,aM (l:=xs.map eQ) (i:=xs.length) (by simp)];rfl) (vu ez _ _ _ _) J<|?_;exact at_ (ys,1+1) (by dsimp only;exact⟨⟨by rw[vZ,if_neg (by simpa[rF] using hc39),<-g1,<-hm2,hin],by omega⟩,(by omega)⟩)
      .
       refine ix _ J (tz) J<|cl J (mD (a:=xs[n]'(by omega)) (b:=m) (ha:=hxb _ (cN (by omega))) (hb:=hmb)) J<|?_;refine br J J J (fun hc67=>?_) (fun hc67=>?_)
       .
        have hnew: ∀h:n<xs.length,bA xs[n] m≠0:=fun h=>hc67;obtain⟨ys,hys⟩: ∃ys,ys=xs.take n++m::xs.drop n:=⟨_,rfl⟩;have hin:fe bA m xs=ys:=by rw[hys];exact tP bA hnx hnew
        have hyl:ys.length<=xs.length+1:=by rw[hys];simp;omega
        refine s3 n _ J J J J (ez _) (by rw[hxl];exact hnl) J<|ro J J<|mE n xs.length _ J J (by rw[hxl]) J (ez _) hnl (by omega) J<|?_;refine ap _ J J (tG ez _ _ _) J<|mc (hv:=by simp only[aj];exact⟨by kernel_rfl,by omega⟩) (ho:=fun _=>⟨u9 ez _ _,by simp⟩) (ys.map eQ) J (by rw[hys,bV,bT,iL,jZ,aM (l:=xs.map eQ) (i:=xs.length) (by simp)];rfl) (vu ez _ _ _ _) J<|?_;exact at_ (ys,1+1) (by dsimp only;exact⟨⟨by rw[vZ,if_neg (by simpa[rF] using hc39),<-g1,<-hm2,hin],by omega⟩,(by omega)⟩)
       .
        have hin:fe bA m xs=xs:=AH bA hnx (by omega) (Decidable.not_not.1 hc67);exact at_ (xs,1+1) (by dsimp only;exact⟨⟨by rw[vZ,if_neg (by simpa[rF] using hc39),<-g1,<-hm2,hin],by omega⟩,(by omega)⟩)
  .
   have hj2: ¬j<2:=by have:=hc22;simp only[bJ,eX] at this;omega
   exact at_ (xs,k+1) (by dsimp only;exact⟨⟨by rw[RO hz,<-h1,g1,show j=2 by omega];rfl,by omega⟩,(by omega)⟩)
 .
  have hfin:km l=o:=by rw[h1,show k=l.length by omega];unfold qF;rw[dQ]
  exact rz J (by rw[hfin];rfl)
end Go.Sx
end
