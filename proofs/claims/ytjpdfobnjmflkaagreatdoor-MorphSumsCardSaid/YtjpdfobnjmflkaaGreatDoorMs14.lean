import Derived.Test.YtjpdfobnjmflkaaGreatDoorMs13
set_option linter.all false
set_option maxHeartbeats 4000000
set_option maxRecDepth 100000
section
namespace Go.Sx
open Go Go.Proofs
variable {a k:Nat}{b t:Tr}{c n m op:Int}{d p u v:ah}{es:List Int}
def eg(a b c d:Int):List ZP:=[(a,b),(c,b),(c,d),(a,d)]
def FO{a b d:Int}(h1:a.natAbs<=50:=by decide)(h2:b.natAbs<=50:=by decide)(h3:c.natAbs<=50:=by decide)(h4:d.natAbs<=50:=by decide)(h5:a<c:=by decide)(h6:b<d:=by decide):eD (eg a b c d):=by
 refine⟨by simp[eg],by simp[eg],fun p hp=>?_,fun i hi=>?_⟩
 .simp only[eg,aW,dT,or_false] at hp
  rcases hp with rfl|rfl|rfl|rfl<;>exact⟨by dsimp only;omega,by dsimp only;omega⟩
 .have:i=0\/i=1\/i=2\/i=3:=by simp[eg] at hi;omega
  rcases this with rfl|rfl|rfl|rfl<;>simp[eg,i7]<;>omega
def gp(p u v:ZP):List ZP:=[p,j0 p u,j0 p v]
def XV{p u v:ZP}(h1:ZP.le 40 p)(h2:ZP.le 40 u)(h3:ZP.le 40 v)(h:jv u v≠0):eD (gp p u v):=by
 obtain⟨p1,p2⟩:=p;obtain⟨u1,u2⟩:=u;obtain⟨v1,v2⟩:=v;unfold ZP.le at h1 h2 h3;dsimp only at h1 h2 h3;unfold jv at h;dsimp only at h;refine⟨by simp[gp],by simp[gp],fun p hp=>?_,fun i hi=>?_⟩
 .simp only[gp,j0,aW,dT,or_false] at hp
  rcases hp with rfl|rfl|rfl<;>exact⟨by dsimp only;omega,by dsimp only;omega⟩
 .have:i=0\/i=1\/i=2:=by simp[gp] at hi;omega
  have hu: ¬(u1=0/\u2=0):=fun e=>h (by rw[e.1,e.2];simp);have hv: ¬(v1=0/\v2=0):=fun e=>h (by rw[e.1,e.2];simp);have huv: ¬(u1=v1/\u2=v2):=fun e=>h (by rw[e.1,e.2,rR];omega);rcases this with rfl|rfl|rfl<;>simp[gp,j0,i7]<;>omega
def zk(es:List Int)(n m k:Int)(a:Nat):List ZP×Nat:=
 let x:=au es n a
 let y:=au es n x.2
 let z:=au es m y.2
 let w:=au es m z.2
 (eg ((x.1:Int)-k) ((y.1:Int)-k) ((x.1:Int)-k+1+z.1) ((y.1:Int)-k+1+w.1),w.2)
def aHC{k:Int}(ha:a<=es.length)(hn:1<=n:=by decide)(hn2:n<=10:=by decide)(hm:1<=m:=by decide)(hm2:m<=10:=by decide)(hk:0<=k:=by decide)(hk2:k<=10:=by decide):eD (zk es n m k a).1/\(zk es n m k a).2<=es.length:=by
 have h1:=dO (es:=es) (a:=a) hn;have h2:=dO (es:=es) (a:=(au es n a).2) hn;have h3:=dO (es:=es) (a:=(au es n (au es n a).2).2) hm;have h4:=dO (es:=es) (a:=(au es m (au es n (au es n a).2).2).2) hm;exact⟨FO (by omega) (by omega) (by omega) (by omega) (by omega) (by omega),hH (hH (hH (hH ha)))⟩
def AL:List ZP:=[(0,0),(1,0),(0,1)]
def NG:eD AL:=⟨by decide,by decide,fun p hp=>by
  simp only[AL,aW,dT,or_false] at hp;rcases hp with rfl|rfl|rfl<;>exact⟨by decide,by decide⟩,fun i hi=>by
  have:i=0\/i=1\/i=2:=by simp[AL] at hi;omega
  rcases this with rfl|rfl|rfl<;>decide⟩
def gn(es:List Int)(a:Nat):List ZP×Nat:=
 let k:=au es 2 a
 if(k.1:Int)=0 then zk es 3 2 1 k.2
 else
  let x:=au es 3 k.2
  let y:=au es 3 x.2
  let u1:=au es 2 y.2
  let u2:=au es 3 u1.2
  let v1:=au es 3 u2.2
  let v2:=au es 2 v1.2
  (if 0<jv (1+(u1.1:Int),(u2.1:Int)-1) ((v1.1:Int)-1,1+(v2.1:Int)) then gp ((x.1:Int)-1,(y.1:Int)-1) (1+(u1.1:Int),(u2.1:Int)-1) ((v1.1:Int)-1,1+(v2.1:Int)) else AL,v2.2)
def A5(ha:a<=es.length):eD (gn es a).1/\(gn es a).2<=es.length:=by
 have h0:=hH (n:=2) ha;unfold gn;dsimp only;split
 .exact aHC h0
 .generalize hk:(au es 2 a).2=k at*
  have e1:=dO (es:=es) (n:=3) (a:=k);have f1:=hH (n:=3) h0;generalize hx:au es 3 k=x at*;have e2:=dO (es:=es) (n:=3) (a:=x.2);have f2:=hH (n:=3) f1;generalize hy:au es 3 x.2=y at*;have e3:=dO (es:=es) (n:=2) (a:=y.2);have f3:=hH (n:=2) f2;generalize hu:au es 2 y.2=u1 at*;have e4:=dO (es:=es) (n:=3) (a:=u1.2);have f4:=hH (n:=3) f3;generalize hu2:au es 3 u1.2=u2 at*;have e5:=dO (es:=es) (n:=3) (a:=u2.2);have f5:=hH (n:=3) f4;generalize hv:au es 3 u2.2=v1 at*;have e6:=dO (es:=es) (n:=2) (a:=v1.2);have f6:=hH (n:=2) f5;generalize hv2:au es 2 v1.2=v2 at*;refine⟨?_,f6⟩;split
  .rename_i hc
   exact XV ⟨by dsimp only;omega,by dsimp only;omega⟩ ⟨by dsimp only;omega,by dsimp only;omega⟩ ⟨by dsimp only;omega,by dsimp only;omega⟩ (by omega)
  .exact NG
def yb(l:aa):Tr:=(Tr.node l (.leaf true) (.leaf false)).restrict []
def s8: ∀t:Tr,t.lns.length=t.size
 | .leaf _=>rfl
 | .node l x y=>by rw[Tr.lns,bZ,aY,s8 x,s8 y,Tr.size];omega
def YU(hb:t.all (fun l=>BL l 96))(ho:t.all aa.ok)(hs:t.size<=k):js k t:=
 ⟨⟨tr.2 fun l hl=>⟨tr.1 hb l hl⟩,ho⟩,cM t.depth_size hs,t.lns,by rw[s8];exact hs,uu ho,Vu fun l hl=>hl⟩
def Ve{l:aa}(h:LS l):js 18 (yb l):=
 (YU (k:=18) (t:= .node l (.leaf true) (.leaf false)) ⟨h.bl,trivial,trivial⟩ ⟨h.ok,trivial,trivial⟩ (by simp[Tr.size])).restrict []
def bI(a b p:ah):Rat:=(b.x-a.x)*(p.y-a.y)-(b.y-a.y)*(p.x-a.x)
def aGH(q p v w:ah)(e:Rat):bI q p (km v w e)=bI q p v+e*(bI q p w-bI q p v):=by
 unfold bI km;grind
def x6{a b:Rat}(ha:0<a):0<a*b↔0<b:=by rw[Rat.mul_comm];exact f8 ha
def Dr(op:Int)(a b:Tr):Bool:=decide ((a.mergeQ op b []).isLeaf=true/\(a.mergeQ op b []).code=false)
def ati{a:Tr}:Dr op a b=true↔a.mergeQ op b []= .leaf false:=by
 unfold Dr;rw[decide_eq_true_iff]
 cases a.mergeQ op b [] with
 |leaf v=>simp[Tr.isLeaf,Tr.code]
 |node l x y=>simp[Tr.isLeaf]
def uT.none{L:List aa}{a:Tr}(h:uT L a b):Dr op a b=true↔ ∀p,dx L p->ug op (a.val p) (b.val p)=false:=by rw[ati,h.leaf]
def jB:Tr->ah->Bool
 | .leaf b,_=>b
 | .node l x y,p=>if(l.value p).num.sign=1 then jB x p else if(l.value p).num.sign= -1 then jB y p else false
def zz: ∀{t:Tr} {p:ah},dx t.lns p->jB t p=t.val p
 | .leaf b,p,_=>rfl
 | .node l x y,p,h=>by
  rw[jB,Tr.val];have h0:=h.l;by_cases h1:0<l.value p
  .rw[if_pos ((Fp _).2 h1),if_pos h1,zz h.x]
  .have h2:l.value p<0:=by grind
   have h3:=(Cv _).2 h2;have h4:(l.value p).num.sign= -1:=by
    rcases Int.sign_trichotomy (l.value p).num with e|e|e<;>omega
   rw[if_neg (by omega),if_pos h4,if_neg h1,zz h.y]
def CL{L:List aa}{p q:ah}(h: ∀l∈L,0<l.value q↔0<l.value p): ∀{t:Tr},(∀l∈t.lns,l∈L)->t.val q=t.val p
 | .leaf _,_=>rfl
 | .node l x y,hl=>by
  have hx:=CL h (t:=x) fun m hm=>hl m (aJ _ (bS _ hm));have hy:=CL h (t:=y) fun m hm=>hl m (aJ _ (bY _ hm));rw[Tr.val,Tr.val,hx,hy];by_cases h1:0<l.value q
  .rw[if_pos h1,if_pos ((h l (hl l aQ)).1 h1)]
  .rw[if_neg h1,if_neg (fun e=>h1 ((h l (hl l aQ)).2 e))]
def Ky: ∀{t:Tr} {c:ao} {b:Bool} {e:ao},t.all aa.ok->bC c->(b,e)∈t.parts c->bC e/\ ∀p,bt e p->bt c p/\t.val p=b
 | .leaf v,c,b,e,_,hc,h=>by
  rw[Tr.parts,aU] at h
  cases h
  exact⟨hc,fun p hp=>⟨hp,J⟩⟩
 | .node l x y,c,b,e,⟨hl,hx,hy⟩,hc,h=>by
  rw[Tr.parts] at h;rcases bJ.1 h with h|h
  .split at h
   .rename_i hb
    obtain⟨k1,k2⟩:=gv hc hl hb;obtain⟨m1,m2⟩:=Ky hx k1 h;refine⟨m1,fun p hp=>?_⟩;obtain⟨n1,n2⟩:=m2 p hp;obtain⟨o1,o2⟩:=(k2 p).1 n1;exact⟨o1,by rw[Tr.val_pos o2,n2]⟩
   .cases h
  .split at h
   .rename_i hb
    obtain⟨k1,k2⟩:=gv hc hl.rev hb;obtain⟨m1,m2⟩:=Ky hy k1 h;refine⟨m1,fun p hp=>?_⟩;obtain⟨n1,n2⟩:=m2 p hp;obtain⟨o1,o2⟩:=(k2 p).1 n1;rw[eh] at o2;exact⟨o1,by rw[Tr.val_neg (by grind),n2]⟩
   .cases h
def cD(t:Tr):List ao:=((t.parts []).filter (·.1)).map (·.2)
def qp{e:ao}:e∈cD t↔(true,e)∈t.parts []:=by
 unfold cD;simp
def A3(l:aa)(v:ah):l.dir.cross v=l.nor.dot v:=by
 unfold aa.dir aa.nor ah.cross ah.dot;grind
def vo(p:ah):(p.half=1/\(0<p.y\/(p.y=0/\0<p.x)))\/(p.half=2/\(p.y<0\/(p.y=0/\p.x<0)))\/(p.half=0/\p.y=0/\p.x=0):=by
 unfold ah.half;simp only[nq,Cv,pd];split
 .rename_i h;exact .inl ⟨rfl,h⟩
 .rename_i h
  split
  .rename_i h2
   exact .inr (.inl ⟨J,by grind⟩)
  .rename_i h2
   exact .inr (.inr ⟨J,by grind,by grind⟩)
def oH:p.half=1↔(0<p.y\/(p.y=0/\0<p.x)):=by
 rcases vo p with⟨h,k⟩|⟨h,k⟩|⟨h,k⟩<;>rw[h]<;>grind
def u7:p.half=2↔(p.y<0\/(p.y=0/\p.x<0)):=by
 rcases vo p with⟨h,k⟩|⟨h,k⟩|⟨h,k⟩<;>rw[h]<;>grind
def ek(u v:ah):Prop:=u.half<v.half\/(u.half=v.half/\0<u.cross v)
def wY:ge u v<0↔ek u v:=by
 unfold ge ek;split
 .rename_i h;exact⟨fun _=> .inl h,fun _=>by decide⟩
 .rename_i h
  split
  .rename_i h2;exact⟨fun e=>absurd e (by decide),fun e=>by omega⟩
  .rename_i h2
   have e:u.half=v.half:=by omega
   rw[<-nq];constructor
   .intro k;exact .inr ⟨e,by omega⟩
   .rintro (k|⟨_,k⟩)
    .omega
    .omega
def bF(d:ah):ah:=⟨-d.x, -d.y⟩
def Ut(h:d.half≠0):(bF d).half=3-d.half:=by
 rcases vo d with⟨e,k⟩|⟨e,k⟩|⟨e,k⟩
 .rw[e];exact u7.2 (by unfold bF;grind)
 .rw[e];exact oH.2 (by unfold bF;grind)
 .exact absurd e h
def oA(h:d.half≠0):d.half=1\/d.half=2:=by
 rcases vo d with⟨e,_⟩|⟨e,_⟩|⟨e,_⟩
 .exact .inl e
 .exact .inr e
 .exact absurd e h
def x9(ds:List ah)(u w:ah):Prop:=(ek u w/\ ∀d∈ds,¬(ek u d/\ek d w))\/((∀d∈ds,¬ek u d)/\ ∀d∈ds,¬ek d w)
def wn(u v:ah):v.cross u= -u.cross v:=by unfold ah.cross;grind
def MI(u v:ah):u.cross (bF v)= -u.cross v:=by unfold ah.cross bF;grind
end Go.Sx
end
section
namespace Go.Sx
open Go
variable {P:Program}{ops:Array Oper}{Q:Exit->Act->World->Prop}
inductive OT where
 |z (π:List (Nat×Bool))
 |q (i:Nat) (t:OT)
 |a (i:Nat) (t:OT)
 |c (i:Nat) (t r:OT)
def OT.sz:OT->Nat
 | .z _=>0
 | .q _ t=>t.sz+1
 | .a _ t=>t.sz+1
 | .c _ t r=>t.sz+r.sz+1
def OT.d:OT->Nat
 | .z π=>π.length
 | .q _ t=>t.d+1
 | .a _ t=>t.d+1
 | .c _ t r=>Nat.max (t.d+1) r.d
section
variable {S:World->Prop}{π₂:List (Nat×Bool)}
end
section
variable {GB:Gh}{C:aE}{n:Nat}{fr fr':mj}{own own' own0 own1 own1':List kn}{bs bs0 bs1 bs1':List jc}{fd:List FD}{π₂:List (Nat×Bool)}{t r:OT}
end
end Go.Sx
end
section
namespace Go.Sx
open Go Go.Proofs Tryz
variable {c xs ys ls L:List aa}{l:aa}{k i d j s:Nat}{α β:Type}{a b:Tr}{z side:Int}{ds:List Nat}{neg:Bool}{q t:Rat}{p u:ah}{ps:List ah}{v:ar}{cuts o:List Rat}
variable {GB:Gh}
theorem so(hc: ∀m∈c,LB m)(hl:LB l): ∀m∈c++[l],LB m:=by
 rw[rN];exact⟨hc,by simpa using hl⟩
theorem LB.rev{l:aa}(h:LB l):LB l.rev:=⟨⟨by rw[show l.rev.a= -l.a from J,jT];exact h.bl.a,by rw[show l.rev.b= -l.b from J,jT];exact h.bl.b,by rw[show l.rev.c= -l.c from J,jT];exact h.bl.c⟩⟩
def Qq(hc: ∀m∈c,LB m)(hok: ∀m∈c,m.ok)(hn:c.length<=900)(hl:LB l)(hlo:l.ok):PF GB prog 107 [.sl (c.map eL),eL l] (vI (nn c l)):=by
 have hcl:=vV c;refine fn func107 J J ntmps107 J J (fun C=>?_);refine oE J J<|ap (c.map eL) J J (eu _) J<|rf J J<|jC ((c++[l]).map eL) J (by rw[aS];rfl) (eu [l]) J<|cl J (GU (c:=c++[l]) (so hc hl) (i9 hok hlo) (by simp;omega)) J<|oE J J<|ap (c.map eL) J J (eu _) J<|cl J (vX (l:=l)) J<|rf J J<|jC ((c++[l.rev]).map eL) J (by rw[aS];rfl) (eu [l.rev]) J<|cl J (GU (c:=c++[l.rev]) (so hc hl.rev) (i9 hok hlo.rev) (by simp;omega)) J<|iC 31 J J J (fun hg31=>?_) (fun hg31=>?_)
 .
  refine bb J J J (fun hc33=>?_) (fun hc33=>?_)
  .
   exact rz J (by show vI 0=vI _;congr 1;unfold nn;simp_all)
  .
   refine bb J J J (fun hc34=>?_) (fun hc34=>?_)
   .
    exact rz J (by show vI 1=vI _;congr 1;unfold nn;simp_all)
   .
    exact rz J (by simp[hg31] at hc34)
 .
  refine bb J J J (fun hc34=>?_) (fun hc34=>?_)
  .
   exact rz J (by simp[hg31] at hc34)
  .
   exact rz J (by show vI (-1)=vI _;congr 1;unfold nn;simp_all)
def HN{α:Type}{p:α->Bool}: ∀{xs:List α} {n:Nat},n<=xs.length->(∀j (h:j<xs.length),j<n->p xs[j]=true)->(∀h:n<xs.length,p xs[n]=false)->(xs.takeWhile p).length=n
 |[],n,h,_,_=>by simp at h;subst h;rfl
 |x::xs,0,_,_,h3=>by
  have:=h3 (by simp);simp only[pQ] at this;simp[oU,this]
 |x::xs,n+1,h1,h2,h3=>by
  have hx:=h2 0 (by simp) (by omega);simp only[pQ] at hx;rw[oU,if_pos hx,bZ];rw[HN (n:=n) (by simpa using h1) (fun j h hj=>by have:=h2 (j+1) (by simpa using h) (by omega);simpa using this) (fun h=>by have:=h3 (by simpa using h);simpa using this)]
def Rt{n:Nat}(h1:n<=xs.length)(h2: ∀j (h:j<xs.length),j<n->ge xs[j].dir l.dir<0)(h3: ∀h:n<xs.length,¬ge xs[n].dir l.dir<0):m7 xs l=n:=
 HN h1 (fun j h hj=>decide_eq_true (h2 j h hj)) (fun h=>decide_eq_false (h3 h))
def X7{n:Nat}(hn:m7 xs l=n)(h:n<xs.length)(e:xs[n]=l):pp xs l=xs:=by
 unfold pp;rw[hn,if_pos (by rw[aZ h,e])]
def Lt{n:Nat}(hn:m7 xs l=n)(h: ∀h:n<xs.length,xs[n]≠l):pp xs l=xs.take n++l::xs.drop n:=by
 unfold pp;rw[hn,if_neg];intro e;obtain⟨h1,h2⟩:=aR.1 e;exact h h1 h2
def MO(xs:List aa)(n:Nat):cO 6 ((xs.map eL).take n):=fun d hd=>eu xs d (eM hd)
def IG(xs:List aa)(n m:Nat):cO 6 (((xs.map eL).take n).drop m):=fun d hd=>eu xs d (eM (gR hd))
def Lf(xs:List aa)(n m:Nat)(l:aa):cO 6 ([eL l]++((xs.map eL).take n).drop m):=fun d hd=>by
 rcases bJ.1 hd with h|h
 .exact eu [l] d h
 .exact IG xs n m d h
structure lE (c:List aa) (k:Nat) (xs:List aa):Prop where
 le:k<=c.length
 f:mE c (c.drop k) xs=ce c
 m: ∀m∈xs,m∈c
 n:xs.length<=k
def lE.skip(h:lE c k xs)(hk:k<c.length)(e:(f9 c[k] c ar.all).isSome=false):lE c (k+1) xs:=by
 have:=h.f;rw[bX hk,mE,e] at this;exact⟨hk,this,h.m,by have:=h.n;omega⟩
def lE.ins(h:lE c k xs)(hk:k<c.length)(e:(f9 c[k] c ar.all).isSome=true)(hy:pp xs c[k]=ys)(hl:ys.length<=xs.length+1):lE c (k+1) ys:=by
 have:=h.f;rw[bX hk,mE,e,if_pos J,hy] at this;refine⟨hk,this,fun m hm=>?_,by have:=h.n;omega⟩;rw[<-hy] at hm;rcases Jo.1 hm with rfl|hm
 .exact dX hk
 .exact h.m m hm
def lE.done(h:lE c k xs)(hk:k=c.length):ce c=xs:=by
 have:=h.f;rw[hk,fY,mE] at this;exact this.symm
def lv(c:List aa):Bool:=if(((c.map eL).length:Nat):Int)=0 then true else decide ((0:Int)<((((ce c).map eL).length:Nat):Int))
def lE.nil(c:List aa):lE c 0 []:=⟨aM _,J,fun m hm=>absurd hm (by simp),bK _⟩
def BX(hc: ∀m∈c,LB m)(hok: ∀m∈c,m.ok)(hn:c.length<=1000:=by omega):PF GB prog 24 [.sl (c.map eL)] (.tp [.sl ((ce c).map eL),vB (lv c)]):=by
 have hcl:=vV c;refine fn (fu:=⟨16⟩) func24 J J ntmps24 J J (fun C=>?_);refine aj 11 (.d (vI (c.length:Nat))) J (by rw[hcl];rfl)<|gx J<|B9 4 J<|lp (X:=List aa×Nat) (fun⟨xs,k⟩=>[(12, .d (vI (k:Nat))),(11, .d (vI (c.length:Nat))),(10, .d (.sl (c.map eL))),(0, .d (.sl (c.map eL))),(4, .d (.sl (xs.map eL)))]) (fun⟨xs,k⟩=>[]) (fun⟨xs,k⟩=>lE c k xs) (fun⟨xs,k⟩=>c.length-k) ⟨[],0⟩ J (lE.nil c) (fun _=>J) (fun⟨xs,k⟩ hk=>?_)
 try dsimp only at hk⊢
 have hS:=hk;refine br J J J (fun hc13=>?_) (fun hc13=>?_)
 .
  have hk:k<c.length:=by omega
  obtain⟨m,hm⟩: ∃m,m=c[k]:=⟨_,rfl⟩;haveI hmb:LB m:=hm▸hc _ (dX hk);have hmo:m.ok:=hm▸hok _ (dX hk);have hxl:=vV xs;have hxn:=hS.n;refine ix (fu:=⟨1⟩) _ J (vN hk) J<|aj 16 (.d (eL m)) J (by rw[hm];rfl)<|gx J<|cl J (NI hc hok hn hk) J<|bb (fu2:=⟨8⟩) J J J (fun hc24=>?_) (fun hc24=>?_)
  .
   have hinv:lE c (k+1) xs:=hS.skip hk (by rw[<-zi];simpa using hc24);exact at_ ⟨xs,k+1⟩ (by dsimp only;exact⟨hinv,(by omega)⟩)
  .
   have hyes:(f9 c[k] c ar.all).isSome=true:=by rw[<-zi];simpa using hc24
   refine mg (fu:=⟨6⟩) (X:=Unit) (fun _=>[(12, .d (vI (k:Nat))),(11, .d (vI (c.length:Nat))),(10, .d (.sl (c.map eL))),(0, .d (.sl (c.map eL))),(4, .d (.sl (xs.map eL))),(6, .ov 6 0),(9, .d (vI (m7 xs m:Nat)))]) (fun _=>[(6,some (.o 55 [.d ((.v (.bool (decide (m.a<0))))), .d (dN m.a.natAbs), .d ((.v (.bool (decide (m.b<0))))), .d (dN m.b.natAbs), .d ((.v (.bool (decide (m.c<0))))), .d (dN m.c.natAbs)] true))]) (fun _=>True) [12,11,10,0,4,6,9] [6] rfl ?_ (fun _=>J) (fun _ _=>?_)
   .
    refine gx J<|lp (fu:=⟨6⟩) (X:=Nat) (fun n=>[(12, .d (vI (k:Nat))),(11, .d (vI (c.length:Nat))),(10, .d (.sl (c.map eL))),(0, .d (.sl (c.map eL))),(4, .d (.sl (xs.map eL))),(6, .ov 6 0),(9, .d (vI (n:Nat)))]) (fun n=>[(6,some (.o 55 [.d ((.v (.bool (decide (m.a<0))))), .d (dN m.a.natAbs), .d ((.v (.bool (decide (m.b<0))))), .d (dN m.b.natAbs), .d ((.v (.bool (decide (m.c<0))))), .d (dN m.c.natAbs)] true))]) (fun n=>n<=xs.length/\ ∀j (h:j<xs.length),j<n->ge xs[j].dir m.dir<0) (fun n=>xs.length-n) 0 J ⟨aM _,fun j _ hj=>absurd hj (by omega)⟩ (fun _=>J) (fun n hk=>?_);obtain⟨n1,n2⟩:=hk;refine kj J J J J (fun hg28=>?_) (fun hg28=>?_)
    .
     refine ix _ J (vN) J<|?_;haveI:LB (xs[n]'(by omega)):=hc _ (hS.m _ (dX _));refine cl J (il (l:=xs[n]'(by omega))) J<|cl J (il (l:=m)) J<|cl J (aBN (u:=(xs[n]'(by omega)).dir) (v:=m.dir)) J<|br J J J (fun hc39=>?_) (fun hc39=>?_)
     .
      exact at_ (n+1) ⟨⟨by omega,fun j h hj=>by by_cases q:j=n;(subst q;exact hc39);exact n2 j h (by omega)⟩,(by omega)⟩
     .
      have hidx:m7 xs m=n:=Rt n1 n2 (fun h=>hc39);exact at_ () trivial
    .
     have hidx:m7 xs m=n:=Rt n1 n2 (fun h=>absurd h (by omega));exact at_ () trivial
   .
    obtain⟨n,hnx⟩: ∃n,m7 xs m=n:=⟨_,rfl⟩;rw[hnx];have hnl:n<=xs.length:=by rw[<-hnx];unfold m7;exact(List.takeWhile_sublist _).length_le
    have hcb: ∀m∈xs,LB m:=fun m hm=>hc m (hS.m m hm);refine kj J J J J (fun hg45=>?_) (fun hg45=>?_)
    .
     refine ix _ J (vN) J<|cl J (C8 (l:=xs[n]'(by omega)) (m:=m) (hl:=hcb _ (dX (by omega)))) J<|br J J J (fun hc54=>?_) (fun hc54=>?_)
     .
      have hn46:n<xs.length:=by omega
      have hinv:lE c (k+1) xs:=hS.ins hk hyes (by rw[<-hm];exact X7 hnx hn46 ((A7 _ m).1 hc54)) (by omega);exact at_ ⟨xs,k+1⟩ (by dsimp only;exact⟨hinv,(by omega)⟩)
     .
      have hnew: ∀h:n<xs.length,xs[n]≠m:=fun h e=>hc54 ((A7 _ m).2 e);obtain⟨ys,hys⟩: ∃ys,ys=xs.take n++m::xs.drop n:=⟨_,rfl⟩;have hinv:lE c (k+1) ys:=hS.ins hk hyes (by rw[<-hm,Lt hnx hnew,hys]) (by rw[hys];simp;omega);refine s3 n _ J J J J (eu _) (by rw[hxl];exact hnl) J<|ro J J<|kD n xs.length _ J J (by rw[hxl]) J (eu _) hnl (by omega) J<|ap _ J J (IG _ _ _) J<|jC (hv:=by simp only[ak];exact⟨by kernel_rfl,by omega⟩) (ho:=fun _=>⟨MO _ _,by simp⟩) (ys.map eL) J (by rw[hys,aS,bU,iR,jZ,cZ (l:=xs.map eL) (i:=xs.length) (by simp)];rfl) (Lf _ _ _ _) J<|at_ ⟨ys,k+1⟩ (by dsimp only;exact⟨hinv,(by omega)⟩)
    .
     have hnew: ∀h:n<xs.length,xs[n]≠m:=fun h=>absurd h (by omega);obtain⟨ys,hys⟩: ∃ys,ys=xs.take n++m::xs.drop n:=⟨_,rfl⟩;have hinv:lE c (k+1) ys:=hS.ins hk hyes (by rw[<-hm,Lt hnx hnew,hys]) (by rw[hys];simp;omega);refine s3 n _ J J J J (eu _) (by rw[hxl];exact hnl) J<|ro J J<|kD n xs.length _ J J (by rw[hxl]) J (eu _) hnl (by omega) J<|ap _ J J (IG _ _ _) J<|jC (hv:=by simp only[ak];exact⟨by kernel_rfl,by omega⟩) (ho:=fun _=>⟨MO _ _,by simp⟩) (ys.map eL) J (by rw[hys,aS,bU,iR,jZ,cZ (l:=xs.map eL) (i:=xs.length) (by simp)];rfl) (Lf _ _ _ _) J<|at_ ⟨ys,k+1⟩ (by dsimp only;exact⟨hinv,(by omega)⟩)
 .
  have hfin:ce c=xs:=hS.done (by have:=hS.le;omega);refine cs 71 J J J (fun hg71=>?_) (fun hg71=>?_)
  .
   exact rz J (by rw[lv,if_pos hg71,hfin];rfl)
  .
   exact rz J (by rw[lv,if_neg hg71,hfin];rfl)
section
variable (c:α->α->Int)
def e7(x:α):List α->List α
 |[]=>[x]
 |u::t=>if c u x<0 then u::e7 x t else if c u x=0 then u::t else x::u::t
def lH(x:α)(xs:List α):Nat:=(xs.takeWhile fun u=>decide (c u x<0)).length
def FC(x:α)(xs:List α):lH c x xs<=xs.length:=(List.takeWhile_sublist _).length_le
def vx{x:α}{xs:List α}{n:Nat}(h1:n<=xs.length)(h2: ∀j (h:j<xs.length),j<n->c xs[j] x<0)(h3: ∀h:n<xs.length,¬c xs[n] x<0):lH c x xs=n:=
 HN h1 (fun j h hj=>decide_eq_true (h2 j h hj)) (fun h=>decide_eq_false (h3 h))
def Aa{x:α}: ∀{xs:List α} {n:Nat},lH c x xs=n->(h:n<xs.length)->c xs[n] x=0->e7 c x xs=xs
 |[],n,_,h,_=>by simp at h
 |u::t,n,hn,h,e=>by
  rw[e7];unfold lH at hn;rw[oU] at hn;by_cases hu:c u x<0
  .rw[if_pos hu]
   rw[if_pos (by simpa using hu)] at hn;obtain⟨k,rfl⟩: ∃k,n=k+1:=⟨n-1,by simp at hn;omega⟩;rw[Aa (xs:=t) (n:=k) (by unfold lH;simpa using hn) (by simpa using h) (by simpa using e)]
  .rw[if_neg (by simpa using hu)] at hn
   simp at hn;subst hn;rw[if_neg hu,if_pos (by simpa using e)]
def tj{x:α}: ∀{xs:List α} {n:Nat},lH c x xs=n->(∀h:n<xs.length,c xs[n] x≠0)->e7 c x xs=xs.take n++x::xs.drop n
 |[],n,hn,_=>by simp[lH] at hn;subst hn;rfl
 |u::t,n,hn,e=>by
  rw[e7];unfold lH at hn;rw[oU] at hn;by_cases hu:c u x<0
  .rw[if_pos hu]
   rw[if_pos (by simpa using hu)] at hn;obtain⟨k,rfl⟩: ∃k,n=k+1:=⟨n-1,by simp at hn;omega⟩;rw[tj (xs:=t) (n:=k) (by unfold lH;simpa using hn) (fun h=>by have:=e (by simpa using h);simpa using this)];simp
  .rw[if_neg (by simpa using hu)] at hn
   simp at hn;subst hn;have:=e (by simp);rw[if_neg hu,if_neg (by simpa using this)];rfl
def DC(x:α): ∀(xs:List α),(e7 c x xs).length<=xs.length+1
 |[]=>bK _
 |u::t=>by
  have:=DC x t;rw[e7];split
  .simp;omega
  .split<;>simp
def O1{x y:α}: ∀{xs:List α},y∈e7 c x xs->y=x\/y∈xs
 |[],h=>by rw[e7,aU] at h;exact .inl h
 |u::t,h=>by
  rw[e7] at h;split at h
  .rcases aW.1 h with rfl|h
   .exact .inr aQ
   .rcases O1 h with h|h
    .exact .inl h
    .exact .inr (aJ _ h)
  .split at h
   .exact .inr h
   .rcases aW.1 h with rfl|h
    .exact .inl J
    .exact .inr h
def tF(l:List α):List α:=l.foldl (fun out x=>e7 c x out) []
def Fo: ∀(l o:List α),(l.foldl (fun out x=>e7 c x out) o).length<=l.length+o.length
 |[],o=>by simp
 |x::t,o=>by
  have:=Fo t (e7 c x o);have:=DC c x o;simp only[iK,bZ];omega
def Jh{y:α}: ∀{l o:List α},y∈l.foldl (fun out x=>e7 c x out) o->y∈l\/y∈o
 |[],o,h=> .inr h
 |x::t,o,h=>by
  rcases Jh (l:=t) h with h|h
  .exact .inl (aJ _ h)
  .rcases O1 c h with rfl|h
   .exact .inl aQ
   .exact .inr h
end
def xo{x:Rat}: ∀{l:List Rat},kt x l=e7 bA x l
 |[]=>rfl
 |u::t=>by
  have e1:bA u x<0↔u<x:=Hy u x;have e2:bA u x=0↔u=x:=vu u x;rw[kt,e7,xo (l:=t)];by_cases h:u<x
  .rw[if_pos h,if_pos (e1.2 h)]
  .rw[if_neg h,if_neg (fun e=>h (e1.1 e))]
   by_cases h2:u=x
   .rw[if_pos h2,if_pos (e2.2 h2)]
   .rw[if_neg h2,if_neg (fun e=>h2 (e2.1 e))]
def vr{f:α->β}{l:List α}{x:α}(h:l[k]? =some x):(l.take k).map f++[f x]=(l.take (k+1)).map f:=by
 rw[dZ,h,aS];rfl
def Ro{a:Nat}[ha:BN a i](hi:i<=400000000:=by decide):PF GB prog 155 [dN a] (dN a):=by
 have hl:=b7 (dg a);have hb:=kd ha.h;refine fn func155 J J ntmps155 J J (fun C=>?_);refine oE J J<|ap ((dg a).map dU) J J (rC _) J<|gm 5 J<|rz J J
def Co[hz:BI z i](hi:i<=400000000:=by decide):PF GB prog 154 [eI z] (eI z):=by
 refine fn func154 J J ntmps154 J J (fun C=>?_);refine cl J (Ro (a:=z.natAbs) (i:=i) (ha:=⟨hz.h⟩) hi) J<|rz J J
def Xb(hl:BL l 96):PF GB prog 97 [eL l] (eL l):=by
 haveI h1:BI l.a 96:=⟨hl.a⟩;haveI h2:BI l.b 96:=⟨hl.b⟩;haveI h3:BI l.c 96:=⟨hl.c⟩;refine fn func97 J J ntmps97 J J (fun C=>?_);refine cl J (Co (z:=l.a)) J<|cl J (Co (z:=l.b)) J<|cl J (Co (z:=l.c)) J<|rz J J
def azP(h:ds[ds.length-1]? =some d):fe ds↔ ¬((d:Int)=0):=by
 unfold fe;rw[nM,h];simp
def Rg(hn:ds.length<=1000000):PF GB prog 292 [dq ds] (vB (decide (fe ds))):=by
 have hm:=b7 ds;refine fn (fu:=⟨9⟩) func292 J J ntmps292 J J (fun C=>?_);refine aj 4 (.d (vI (ds.length:Nat))) J (by rw[hm]<;>rfl)<|gx (fu:=⟨0⟩) J<|kj (fu2:=⟨4⟩) J J J J (fun hg5=>?_) (fun hg5=>?_)
 .
  exact rz rfl (by obtain rfl:ds=[]:=cV (by omega);show DV.v (.bool _)= .v (.bool _);congr 2<;>exact(decide_eq_true (by intro h;cases h)).symm)
 .
  obtain⟨d,hd⟩: ∃d,ds[ds.length-1]? =some d:=⟨_,aZ (by omega)⟩;refine aj 9 (.d (vI (ds.length:Nat))) J (by rw[hm]<;>rfl)<|gx J<|ix _ J (by rw[show(((ds.length:Nat):Int)-1).toNat=ds.length-1 by omega,cY,hd];rfl) J<|?_;exact rz J (by show DV.v (.bool _)= .v (.bool _);congr 2;exact decide_eq_decide.2 (azP hd).symm)
def Hk(hn:ds.length<=1000000):PF GB prog 237 [.ag [.v (.bool neg),dq ds]] (vB (decide (sk neg ds))):=by
 have hm:=b7 ds;refine fn func237 J J ntmps237 J J (fun C=>?_);by_cases hN:fe ds
 .
  refine cl (fu:=⟨0⟩) J (Rg hn) J<|aj 5 (.d (vB true)) J (by rw[decide_eq_true hN])<|mn 5 J<|gx J<|iC (fu2:=⟨3⟩) 10 J J J (fun hg10=>?_) (fun hg10=>?_)
  .
   exact rz J (by show DV.v (.bool _)= .v (.bool _);congr 2;unfold sk;simp_all)
  .
   refine aj 13 (.d (vI (ds.length:Nat))) J (by rw[hm]<;>rfl)<|gx J<|rz J (by show DV.v (.bool _)= .v (.bool _);congr 2;unfold sk;simp_all)
 .
  refine cl (fu:=⟨0⟩) J (Rg hn) J<|aj 5 (.d (vB false)) J (by rw[decide_eq_false hN])<|sh 5 J<|gx J<|rz J (by show DV.v (.bool _)= .v (.bool _);congr 2;unfold sk;simp_all)
def PT(hd:bE ds)(hn:ds.length<=1000000):PF GB prog 293 [dq ds] (dN (dv ds)):=by
 have hm:=b7 ds;refine fn func293 J J ntmps293 J J (fun C=>?_);refine oE J J<|ap (ds.map dU) J J (rC _) J<|fz 5 J J<|cl J (sg (ds:=ds)) J<|rz J (by unfold dN;rw[E2 hd];rfl)
def EO(hd:bE ds)(hn:ds.length<=1000000):PF GB prog 238 [.ag [.v (.bool neg),dq ds]] (eI (qb neg ds)):=by
 refine fn func238 J J ntmps238 J J (fun C=>?_);refine cl J (PT hd hn) J<|cl J ki J<|rz J J
def Df(r:RL):DV:= .tp [if r.nm then eL r.l else .ag [.v (.bool false), .sl [], .v (.bool false), .sl [], .v (.bool false), .sl []],vB (decide (r.nm/\r.l.ok))]
def We{a b:Nat}(h:iG a b=0):a=b:=by
 unfold iG at h;split at h
 .cases h
 .split at h
  .assumption
  .cases h
def J4:l.ok↔0<Nat.gcd l.a.natAbs l.b.natAbs/\Nat.gcd (Nat.gcd l.a.natAbs l.b.natAbs) l.c.natAbs=1:=by
 unfold aa.ok;refine and_congr ?_ Iff.rfl;rw[Nat.pos_iff_ne_zero,ne_eq,Nat.gcd_eq_zero_iff];simp only[kU]
def aFN{r:RL}(s:r.sm)(h:r.nm):PF GB prog 169 [r.d] (Df r):=by
 haveI:=RL.lb s;haveI ba:BN r.l.a.natAbs 96:=⟨(LB.a r.l).h⟩;haveI bb':BN r.l.b.natAbs 96:=⟨(LB.b r.l).h⟩;haveI bc:BN r.l.c.natAbs 96:=⟨(LB.c r.l).h⟩;obtain⟨g,hg⟩: ∃g,g=Nat.gcd r.l.a.natAbs r.l.b.natAbs:=⟨_,rfl⟩;haveI bg:BN g 96:=hg▸⟨IN ba.h bb'.h⟩;have bgc:=IN bg.h bc.h;have hgl:=kd bg.h;refine fn func169 J J ntmps169 J J (fun C=>?_);refine cl (fu:=⟨0⟩) J (Hk (neg:=r.na) (ds:=r.da) (by have:=s.a.2;omega)) J<|cB J (by show some (!decide _)=some false;rw[decide_eq_true h.1];rfl) J<|cl (fu:=⟨0⟩) J (Hk (neg:=r.nb) (ds:=r.db) (by have:=s.b.2;omega)) J<|cB J (by show some (!decide _)=some false;rw[decide_eq_true h.2.1];rfl) J<|cl (fu:=⟨0⟩) J (Hk (neg:=r.nc) (ds:=r.dc) (by have:=s.c.2;omega)) J<|cB J (by show some (!decide _)=some false;rw[decide_eq_true h.2.2];rfl) J<|cl J (EO (neg:=r.na) (ds:=r.da) s.a.1 (by have:=s.a.2;omega)) J<|cl J (EO (neg:=r.nb) (ds:=r.db) s.b.1 (by have:=s.b.2;omega)) J<|cl J (EO (neg:=r.nc) (ds:=r.dc) s.c.1 (by have:=s.c.2;omega)) J<|cl (fu:=⟨0⟩) J (AD (a:=r.l.a.natAbs) (b:=r.l.b.natAbs)) J<|aj 39 (.d (dN g)) J (by rw[hg])<|gx (fu:=⟨8⟩) J<|aj 42 (.d (vI ((dg g).length:Nat))) J (by rw[b7]<;>rfl)<|gx (fu:=⟨0⟩) J<|kj (v2:=fun hg43=>by simp only[ak];kernel_rfl) J J J J (fun hg43=>?_) (fun hg43=>?_)
 .
  refine cl J (AD (a:=g) (b:=r.l.c.natAbs)) J<|cl J Fd J<|cl J (x8 (a:=Nat.gcd g r.l.c.natAbs) (b:=1) (by have:=kd bgc;omega) (by have:=kd (show 1<2^32 by decide);omega)) J<|rz J (by unfold Df;rw[if_pos h,show decide (r.nm/\r.l.ok)=decide (iG (Nat.gcd g r.l.c.natAbs) 1=0) from decide_eq_decide.2 ⟨fun e=>Kn (by rw[hg];exact(J4.1 e.2).2),fun e=>⟨h,J4.2 ⟨by rw[<-hg];exact ua.1 (by omega),by rw[<-hg];exact We e⟩⟩⟩];rfl)
 .
  exact rz J (by unfold Df;rw[if_pos h,show decide (r.nm/\r.l.ok)=false from decide_eq_false fun e=>by(have h1:=(J4.1 e.2).1;rw[<-hg] at h1;have:=ua.2 h1;omega)];rfl)
def Tq{n:Nat}[h:BN n i](hi:i<=20000000:=by decide):PF GB prog 293 [dN n] (dN n):=by
 have hl:=kd h.h;have:=PT (GB:=GB) (ds:=dg n) (gk n) (by omega);rw[de,<-IW] at this;exact this
def Xj(z:Int):qb (decide (z<0)) (dg z.natAbs)=z:=by
 unfold qb;rw[de];split<;>(rename_i h;simp at h;omega)
def YI[h:BI z i](hi:i<=20000000:=by decide):PF GB prog 238 [eI z] (eI z):=by
 have hl:=kd h.h;have:=EO (GB:=GB) (neg:=decide (z<0)) (ds:=dg z.natAbs) (gk _) (by omega);rw[Xj,<-IW] at this;exact this
def aIO{n:Nat}(h:0<n): ¬((((dg n).map dU).length:Nat):Int)=0:=by
 rw[aX];have:=vg (n:=n);omega
instance BQ.m1':BQ (((-1:Int):Int):Rat) 2:=⟨by decide,by decide⟩
instance BQ.m1:BQ (-1:Rat) 2:=⟨by decide,by decide⟩
def RE[h:BQ q i](hi:i<=20000000:=by decide):PF GB prog 287 [eR q] (eQ q):=by
 have hd:=q.den_pos;refine fn func287 J J ntmps287 J J (fun C=>?_);refine cl (fu:=⟨8⟩) J (Tq (n:=q.den) hi) J<|cB J (by show some (decide _)=some false;rw[decide_eq_false (aIO hd)]) J<|cl J (YI (z:=q.num) hi) J<|cl J (xg (x:=q.num) (d:=q.den) hd (by omega) (by omega)) J<|rz J (by rw[rL];rfl)
def N8[h:BQ q i](hi:i<=400000000:=by decide):PF GB prog 80 [eQ q] (eR q):=by
 refine fn func80 J J ntmps80 J J (fun C=>?_);refine cl J (Co (z:=q.num) hi) J<|cl J (jf (q:=q)) J<|cl J (Ro (a:=q.den) hi) J<|rz J J
def UT[h:aC p i](hi:i<=20000000:=by decide):PF GB prog 231 [n9 p] (eP p):=by
 refine fn func231 J J ntmps231 J J (fun C=>?_);refine cl J (RE (q:=p.x) hi) J<|cl J (RE (q:=p.y) hi) J<|rz J J
def ZA[h:aC p i](hi:i<=20000:=by decide):PF GB prog 30 [eP p] (n9 p):=by
 refine fn func30 J J ntmps30 J J (fun C=>?_);refine cl J (N8 (q:=p.x) (i:=i) (by omega)) J<|cl J (N8 (q:=p.y) (i:=i) (by omega)) J<|rz J J
def eo(f:α->DV)(l:List α):(l.map f).length=l.length:=aX ..
def QX(ps:List ah):cO 6 (ps.map eP):=fun d hd=>by
 obtain⟨u,_,rfl⟩:=aT.1 hd;exact⟨rfl,rfl⟩
def X3(ps:List ah):cO 6 (ps.map n9):=fun d hd=>by
 obtain⟨u,_,rfl⟩:=aT.1 hd;exact⟨rfl,rfl⟩
def Ur(hb: ∀p∈ps,aC p 1200)(hn:ps.length<=1000000):PF GB prog 161 [.sl (ps.map n9)] (.sl (ps.map eP)):=by
 have hm:=eo n9 ps;refine fn (fu:=⟨15⟩) func161 J J ntmps161 J J (fun C=>?_);refine aj 7 (.d (vI (ps.length:Nat))) J (by rw[hm]<;>rfl)<|gx J<|nr 3 3 53 6 J J J<|lp (X:=Nat) (fun k=>[(8, .d (vI (k:Nat))),(3, .rw 3)]) (fun k=>[(3,some (.b 53 6 ((ps.take k).map eP) true))]) (fun k=>k<=ps.length) (fun k=>ps.length-k) 0 J (aM _) (fun _=>J) (fun k hk=>?_);have hml:=eo eP (ps.take k);rw[bT] at hml;refine br J J J (fun hc9=>?_) (fun hc9=>?_)
 .
  obtain⟨z,hz⟩: ∃s,ps[k]? =some s:=⟨_,aZ (by omega)⟩;have hzm:=aK hz;refine ix _ J (ck hz) J<|cl J (UT (p:=z) (h:=hb z hzm)) J<|rf J J<|ap ((ps.take (k+1)).map eP) J (vr hz) (QX [z]) J<|d8 16 3 J<|at_ (k+1) ⟨(by omega),(by omega)⟩
 .
  obtain rfl:k=ps.length:=by omega
  refine gm 3 J<|rz J (by rw[cS];rfl)
def Qc(hb: ∀p∈ps,aC p 1200)(hn:ps.length<=1000000):PF GB prog 11 [.sl (ps.map eP)] (.sl (ps.map n9)):=by
 have hm:=eo eP ps;refine fn (fu:=⟨15⟩) func11 J J ntmps11 J J (fun C=>?_);refine aj 7 (.d (vI (ps.length:Nat))) J (by rw[hm]<;>rfl)<|gx J<|nr 3 3 79 6 J J J<|lp (X:=Nat) (fun k=>[(8, .d (vI (k:Nat))),(3, .rw 3)]) (fun k=>[(3,some (.b 79 6 ((ps.take k).map n9) true))]) (fun k=>k<=ps.length) (fun k=>ps.length-k) 0 J (aM _) (fun _=>J) (fun k hk=>?_);have hml:=eo n9 (ps.take k);rw[bT] at hml;refine br J J J (fun hc9=>?_) (fun hc9=>?_)
 .
  obtain⟨z,hz⟩: ∃s,ps[k]? =some s:=⟨_,aZ (by omega)⟩;have hzm:=aK hz;refine ix _ J (ck hz) J<|cl J (ZA (p:=z) (h:=hb z hzm)) J<|rf J J<|ap ((ps.take (k+1)).map n9) J (vr hz) (X3 [z]) J<|d8 16 3 J<|at_ (k+1) ⟨(by omega),(by omega)⟩
 .
  obtain rfl:k=ps.length:=by omega
  refine gm 3 J<|rz J (by rw[cS];rfl)
def Gf{q:ah}[hp:aC p i][hq:aC q j](hi:i<=100000:=by decide)(hj:j<=100000:=by decide):PF GB prog 143 [eP p,eP q] (eP (cF p q (-1))):=by
 refine fn func143 J J ntmps143 J J (fun C=>?_);refine cl J (iw (n:= -1)) J<|cl J (te (p:=p) (q:=q) (c:=((-1:Int):Rat)) (i:=i) (j:=j) (k:=2) (by omega) (by omega)) J<|rz J (by rw[show((-1:Int):Rat)= -1 from J];rfl)
def IX{a b c:ah}[ha:aC a i][hb:aC b j][hc:aC c k](hi:i<=80000:=by decide)(hj:j<=80000:=by decide)(hk:k<=80000:=by decide):PF GB prog 89 [eP a,eP b,eP c] (vI (uU a b c)):=by
 refine fn func89 J J ntmps89 J J (fun C=>?_);refine cl J (Gf (p:=b) (q:=a) (i:=j) (j:=i) (by omega) (by omega)) J<|cl J (Gf (p:=c) (q:=a) (i:=k) (j:=i) (by omega) (by omega)) J<|cl J (pG (p:=cF b a (-1)) (q:=cF c a (-1)) (by omega) (by omega)) J<|cl J (mD (q:=(cF b a (-1)).cross (cF c a (-1)))) J<|rz J J
def xj(l:aa):Bool:=decide (l.a<0\/(l.a=0/\l.b<0))
def aa.canon(l:aa):aa:=if xj l then l.rev else l
def AU(a:Int):a.sign<0↔a<0:=by
 rcases pY a 0 with h|h|h
 .rw[eK h];omega
 .subst h;simp
 .rw[fT h];omega
def MB(a:Int):a.sign=0↔a=0:=gM
def KR(h:l.a<0\/(l.a=0/\l.b<0)):DV.tp [eL l.canon,vB (xj l)]= .tp [eL l.rev,vB true]:=by
 unfold aa.canon xj;rw[decide_eq_true h];rfl
def LU(h: ¬(l.a<0\/(l.a=0/\l.b<0))):DV.tp [eL l.canon,vB (xj l)]= .tp [eL l,vB false]:=by
 unfold aa.canon xj;rw[decide_eq_false h];rfl
def TM[hl:LB l]:PF GB prog 173 [eL l] (.tp [eL l.canon,vB (xj l)]):=by
 refine fn func173 J J ntmps173 J J (fun C=>?_);refine cl J (x5 (z:=l.a)) J<|cs 10 J J J (fun hg10=>?_) (fun hg10=>?_)
 .
  refine cl J (vX (l:=l)) J<|rz J (by rw[KR (.inl ((AU _).1 hg10))];rfl)
 .
  refine cs 13 J J J (fun hg13=>?_) (fun hg13=>?_)
  .
   refine cl J (x5 (z:=l.b)) J<|br J J J (fun hc19=>?_) (fun hc19=>?_)
   .
    refine cl J (vX (l:=l)) J<|rz J (by rw[KR (.inr ⟨(MB _).1 hg13,(AU _).1 hc19⟩)];rfl)
   .
    exact rz J (by rw[LU (fun e=>e.elim (fun e=>hg10 ((AU _).2 e)) (fun e=>hc19 ((AU _).2 e.2)))];rfl)
  .
   exact rz J (by rw[LU (fun e=>e.elim (fun e=>hg10 ((AU _).2 e)) (fun e=>hg13 ((MB _).2 e.1)))];rfl)
instance LB.canon (l:aa) [h:LB l]:LB l.canon:=by unfold aa.canon;split;exact LB.rev h;exact h
def Ni(h:l.ok):l.canon.ok:=by unfold aa.canon;split;exact h.rev;exact h
def rh(c:β->β->Int)(g:α->β)(l:List α)(k:Nat):List β:=tF c ((l.take k).map g)
section
variable {c:β->β->Int}{g:α->β}{l:List α}
def xN{x:α}(h:l[k]? =some x):rh c g l (k+1)=e7 c (g x) (rh c g l k):=by
 unfold rh tF;rw[dZ,h,kR,aS,lN];rfl
def Rr(h:k=l.length:=by omega):rh c g l k=tF c (l.map g):=by unfold rh;rw[h,cS]
def RF:(rh c g l k).length<=k:=by
 have:=Fo c ((l.take k).map g) [];have h2:((l.take k).map g).length<=k:=by rw[aX,bT];omega
 rw[dS] at this;unfold rh tF;omega
def Pm{y:β}(h:y∈rh c g l k): ∃x∈l,y=g x:=by
 rcases Jh c h with h|h
 .obtain⟨x,hx,rfl⟩:=aT.1 h
  exact⟨x,eM hx,J⟩
 .cases h
end
def vj{f:α->DV}(ok: ∀l:List α,cO s (l.map f))(xs:List α)(n:Nat):cO s ((xs.map f).take n):=fun d hd=>ok xs d (eM hd)
def tO{f:α->DV}(ok: ∀l:List α,cO s (l.map f))(xs:List α)(n m:Nat):cO s (((xs.map f).take n).drop m):=fun d hd=>ok xs d (eM (gR hd))
def uj{f:α->DV}(ok: ∀l:List α,cO s (l.map f))(xs:List α)(n m:Nat)(x:α):cO s ([f x]++((xs.map f).take n).drop m):=fun d hd=>by
 rcases bJ.1 hd with h|h
 .exact ok [x] d h
 .exact tO ok xs n m d h
def ti{f:α->DV}{l:List α}(h:i<l.length:=by omega):(l.map f)[(i:Int).toNat]? =some (f l[i]):=by
 rw[cK,cY,aZ h];rfl
def mH(ls:List aa):List aa:=tF gP (ls.map aa.canon)
def Fw{y:aa}(h:y∈mH ls): ∃x∈ls,y=x.canon:=by
 rcases Jh gP h with h|h
 .obtain⟨x,hx,rfl⟩:=aT.1 h;exact⟨x,hx,rfl⟩
 .cases h
def PC(hb: ∀p∈ls,LB p)(hn:ls.length<=100000):PF GB prog 102 [.sl (ls.map eL)] (.sl ((mH ls).map eL)):=by
 have hm':=eo eL ls;refine fn (fu:=⟨15⟩) func102 J J ntmps102 J J (fun C=>?_);refine aj 8 (.d (vI (ls.length:Nat))) J (by rw[hm'];rfl)<|gx J<|B9 3 J<|lp (X:=List aa×Nat) (fun⟨xs,k⟩=>[(9, .d (vI (k:Nat))),(8, .d (vI (ls.length:Nat))),(7, .d (.sl (ls.map eL))),(0, .d (.sl (ls.map eL))),(3, .d (.sl (xs.map eL)))]) (fun⟨xs,k⟩=>[]) (fun⟨xs,k⟩=>xs=rh gP aa.canon ls k/\k<=ls.length) (fun⟨xs,k⟩=>ls.length-k) ⟨[],0⟩ J ⟨J,aM _⟩ (fun _=>J) (fun⟨xs,k⟩ hk=>?_)
 try dsimp only at hk⊢
 obtain⟨hS,hkl⟩:=hk;refine br J J J (fun hc10=>?_) (fun hc10=>?_)
 .
  have hk:k<ls.length:=by omega
  obtain⟨z,hm⟩: ∃m,m=ls[k]:=⟨_,rfl⟩;have hz:ls[k]? =some z:=by rw[hm];exact aZ hk
  haveI hzb:LB z:=hm▸hb _ (dX hk);obtain⟨m,hmc⟩: ∃m,m=z.canon:=⟨_,rfl⟩;haveI hmb:LB m:=by rw[hmc];infer_instance
  have hxl:=eo eL xs;have hxn:xs.length<=k:=by rw[hS];exact RF
  have hxb: ∀q∈xs,LB q:=fun q hq=>by rw[hS] at hq;obtain⟨z,hz,rfl⟩:=Pm hq;haveI:=hb z hz;infer_instance
  refine ix (fu:=⟨1⟩) _ J (ti hk) J<|aj 12 (.d (eL z)) J (by rw[hm];rfl)<|gx J<|cl (fu:=⟨2⟩) J (TM (l:=z)) J<|aj 16 (.d (eL m)) J (by rw[hmc])<|gx (fu:=⟨10⟩) J<|mg (fu:=⟨5⟩) (X:=Unit) (fun _=>[(9, .d (vI (k:Nat))),(8, .d (vI (ls.length:Nat))),(7, .d (.sl (ls.map eL))),(0, .d (.sl (ls.map eL))),(3, .d (.sl (xs.map eL))),(5, .ov 5 0),(6, .d (vI (lH gP m xs:Nat)))]) (fun _=>[(5,some (.o 55 [.d ((.v (.bool (decide (m.a<0))))), .d (dN m.a.natAbs), .d ((.v (.bool (decide (m.b<0))))), .d (dN m.b.natAbs), .d ((.v (.bool (decide (m.c<0))))), .d (dN m.c.natAbs)] true))]) (fun _=>True) [9,8,7,0,3,5,6] [5] rfl ?_ (fun _=>J) (fun _ _=>?_)
  .
   refine gx J<|lp (fu:=⟨6⟩) (X:=Nat) (fun n=>[(9, .d (vI (k:Nat))),(8, .d (vI (ls.length:Nat))),(7, .d (.sl (ls.map eL))),(0, .d (.sl (ls.map eL))),(3, .d (.sl (xs.map eL))),(5, .ov 5 0),(6, .d (vI (n:Nat)))]) (fun n=>[(5,some (.o 55 [.d ((.v (.bool (decide (m.a<0))))), .d (dN m.a.natAbs), .d ((.v (.bool (decide (m.b<0))))), .d (dN m.b.natAbs), .d ((.v (.bool (decide (m.c<0))))), .d (dN m.c.natAbs)] true))]) (fun n=>n<=xs.length/\ ∀j (h:j<xs.length),j<n->gP xs[j] m<0) (fun n=>xs.length-n) 0 J ⟨aM _,fun j _ hj=>absurd hj (by omega)⟩ (fun _=>J) (fun n hk=>?_);obtain⟨n1,n2⟩:=hk;refine kj (v2:=fun hg21=>by simp only[ak];kernel_rfl) J J J J (fun hg21=>?_) (fun hg21=>?_)
   .
    refine ix _ J (ti) J<|cl J (C8 (l:=xs[n]'(by omega)) (m:=m) (hl:=hxb _ (dX (by omega))) (hm:=hmb)) J<|br J J J (fun hc30=>?_) (fun hc30=>?_)
    .
     exact at_ (n+1) ⟨⟨by omega,fun j h hj=>by by_cases q:j=n;(subst q;exact hc30);exact n2 j h (by omega)⟩,(by omega)⟩
    .
     have hidx:lH gP m xs=n:=vx gP n1 n2 (fun h=>hc30);exact at_ () trivial
   .
    have hidx:lH gP m xs=n:=vx gP n1 n2 (fun h=>absurd h (by omega));exact at_ () trivial
  .
   obtain⟨n,hnx⟩: ∃n,lH gP m xs=n:=⟨_,rfl⟩;rw[hnx];have hnl:n<=xs.length:=by rw[<-hnx];exact FC _ _ _
   refine kj (v1:=fun hg36=>by simp only[ak];kernel_rfl) J J J J (fun hg36=>?_) (fun hg36=>?_)
   .
    have hnew: ∀h:n<xs.length,gP xs[n] m≠0:=fun h=>absurd h (by omega);obtain⟨ys,hys⟩: ∃ys,ys=xs.take n++m::xs.drop n:=⟨_,rfl⟩;have hin:e7 gP m xs=ys:=by rw[hys];exact tj gP hnx hnew
    have hyl:ys.length<=xs.length+1:=by rw[hys];simp;omega
    refine s3 n _ J J J J (eu _) (by rw[hxl];exact hnl) J<|ro J J<|kD n xs.length _ J J (by rw[hxl]) J (eu _) hnl (by omega) J<|ap _ J J (tO eu _ _ _) J<|jC (hv:=by simp only[ak];exact⟨by kernel_rfl,by omega⟩) (ho:=fun _=>⟨vj eu _ _,by simp⟩) (ys.map eL) J (by rw[hys,aS,bU,iR,jZ,cZ (l:=xs.map eL) (i:=xs.length) (by simp)];rfl) (uj eu _ _ _ _) J<|at_ ⟨ys,k+1⟩ (by dsimp only;exact⟨⟨by rw[xN hz,<-hS,<-hmc];exact hin.symm,by omega⟩,(by omega)⟩)
   .
    refine ix _ J (ti) J<|cl J (C8 (l:=xs[n]'(by omega)) (m:=m) (hl:=hxb _ (dX (by omega))) (hm:=hmb)) J<|br J J J (fun hc45=>?_) (fun hc45=>?_)
    .
     have hnew: ∀h:n<xs.length,gP xs[n] m≠0:=fun h=>hc45;obtain⟨ys,hys⟩: ∃ys,ys=xs.take n++m::xs.drop n:=⟨_,rfl⟩;have hin:e7 gP m xs=ys:=by rw[hys];exact tj gP hnx hnew
     have hyl:ys.length<=xs.length+1:=by rw[hys];simp;omega
     refine s3 n _ J J J J (eu _) (by rw[hxl];exact hnl) J<|ro J J<|kD n xs.length _ J J (by rw[hxl]) J (eu _) hnl (by omega) J<|ap _ J J (tO eu _ _ _) J<|jC (hv:=by simp only[ak];exact⟨by kernel_rfl,by omega⟩) (ho:=fun _=>⟨vj eu _ _,by simp⟩) (ys.map eL) J (by rw[hys,aS,bU,iR,jZ,cZ (l:=xs.map eL) (i:=xs.length) (by simp)];rfl) (uj eu _ _ _ _) J<|at_ ⟨ys,k+1⟩ (by dsimp only;exact⟨⟨by rw[xN hz,<-hS,<-hmc];exact hin.symm,by omega⟩,(by omega)⟩)
    .
     have hin:e7 gP m xs=xs:=Aa gP hnx (by omega) (Decidable.not_not.1 hc45);exact at_ ⟨xs,k+1⟩ (by dsimp only;exact⟨⟨by rw[xN hz,<-hS,<-hmc];exact hin.symm,by omega⟩,(by omega)⟩)
 .
  have hfin:mH ls=xs:=by rw[hS,Rr];rfl
  exact rz J (by rw[hfin];rfl)
def D3{α:Type}{c:α->α->Int}(hc: ∀u x,c u x=0->u=x){x y:α}: ∀{xs:List α},y=x\/y∈xs->y∈e7 c x xs
 |[],h=>by
  rcases h with rfl|h
  .rw[e7];exact aU.2 J
  .cases h
 |u::t,h=>by
  rw[e7];split
  .rcases h with rfl|h
   .exact aJ _ (D3 hc (.inl J))
   .rcases aW.1 h with rfl|h
    .exact aQ
    .exact aJ _ (D3 hc (.inr h))
  .split
   .rename_i h0
    rcases h with rfl|h
    .rw[<-hc _ _ h0];exact aQ
    .exact h
   .rcases h with rfl|h
    .exact aQ
    .exact aJ _ h
def Pz{α:Type}{c:α->α->Int}(hc: ∀u x,c u x=0->u=x){y:α}: ∀{l o:List α},y∈l\/y∈o->y∈l.foldl (fun out x=>e7 c x out) o
 |[],o,h=>h.elim (fun h=>by cases h) id
 |x::t,o,h=>by
  refine Pz hc (l:=t) ?_;rcases h with h|h
  .rcases aW.1 h with rfl|h
   .exact .inr (D3 hc (.inl J))
   .exact .inl h
  .exact .inr (D3 hc (.inr h))
def On{x:aa}(h:x∈ls):x.canon∈mH ls:=
 Pz (fun u x e=>(A7 u x).1 e) (.inl (dK h))
def KG(l:aa)(p:ah):l.canon.value p=l.value p\/l.canon.value p= -l.value p:=by
 unfold aa.canon;split
 .exact .inr (eh l p)
 .exact .inl J
def Id:dx (mH ls) p↔dx ls p:=by
 constructor
 .intro h l hl e
  have:=h _ (On hl);rcases KG l p with k|k<;>rw[k,e] at this<;>exact this (by simp)
 .intro h l hl e
  obtain⟨x,hx,rfl⟩:=Fw hl;have:=h x hx;rcases KG x p with k|k<;>rw[k] at e
  .exact this e
  .exact this (by grind)
def awd{q:ah}(hp:dx ls p)(hq:dx ls q)(h: ∀l∈mH ls,0<l.value p↔0<l.value q): ∀l∈ls,0<l.value q↔0<l.value p:=fun l hl=>by
 have h1:=h _ (On hl);have h2:=hp l hl;have h3:=hq l hl;unfold aa.canon at h1;split at h1
 .rw[eh,eh] at h1
  constructor
  .intro k
   rcases jI (l.value p) with e|e|e
   .exact absurd e h2
   .exact e
   .have:=h1.1 (by grind);grind
  .intro k
   rcases jI (l.value q) with e|e|e
   .exact absurd e h3
   .exact e
   .have:=h1.2 (by grind);grind
 .exact h1.symm
def ou(a b:Tr):List ah:=pq (mH (a.lns++b.lns))
def YH(ha:a.all aa.ok)(hb:b.all aa.ok){R:Bool->Bool->Prop}:(∀p∈ou a b,R (jB a p) (jB b p))↔ ∀p,dx (a.lns++b.lns) p->R (a.val p) (b.val p):=by
 have hok: ∀l∈a.lns++b.lns,l.ok:=fun l hl=>(bJ.1 hl).elim (uu ha l) (uu hb l);have hne: ∀l∈mH (a.lns++b.lns),l.Ne:=fun l hl=>by
  obtain⟨x,hx,rfl⟩:=Fw hl;exact(Ni (hok x hx)).ne
 constructor
 .intro h p hp
  obtain⟨q,hq,hs⟩:=avz hne (Id.2 hp);have ho:=Id.1 (PU hne hq);have hsd:=awd hp ho hs;have k:=h q hq;rw[zz (dx.app.1 ho).1,zz (dx.app.1 ho).2,CL (t:=a) hsd (fun l hl=>bS _ hl),CL (t:=b) hsd (fun l hl=>bY _ hl)] at k;exact k
 .intro h p hp
  have ho:=Id.1 (PU hne hp);rw[zz (dx.app.1 ho).1,zz (dx.app.1 ho).2];exact h p ho
def sA(a b:Tr):Bool:=(ou a b).all fun p=>jB a p==jB b p
def az0(ha:a.all aa.ok)(hb:b.all aa.ok):sA a b=Dr 4 a b:=by
 rw[qL,(uT.mk0 ha hb).none,sA,dJ,YH ha hb (R:=fun x y=>(x==y)=true)];unfold ug;simp
def TB(ha:a.all aa.ok)(hb:b.all aa.ok)(hL: ∀l∈L,l.ok)(hLa: ∀l∈a.lns,l∈L)(hLb: ∀l∈b.lns,l∈L)(h: ∀p,dx L p->a.val p=b.val p):sA a b=true:=by
 rw[az0 ha hb,(uT.mk ha hb hL hLa hLb).none];intro p hp;rw[h p hp];unfold ug;simp
def ek.trans{u v w:ah}(hu:u.half≠0)(hv:v.half≠0)(hw:w.half≠0)(h:ek u v)(k:ek v w):ek u w:=by
 rcases h with h|⟨h,h'⟩<;>rcases k with k|⟨k,k'⟩
 .exact .inl (by omega)
 .exact .inl (by omega)
 .exact .inl (by omega)
 .refine .inr ⟨h.trans k,?_⟩
  have id1:u.cross w*v.y=u.cross v*w.y+v.cross w*u.y:=by unfold ah.cross;grind
  rcases vo v with⟨x,q⟩|⟨x,q⟩|⟨x,q⟩
  .rw[x] at h k
   have qu:=oH.1 h;have qw:=oH.1 k.symm;rcases q with q|⟨q,q'⟩
   .rw[<-f8 q,id1]
    have wy:0<=w.y:=by grind
    have uy:0<=u.y:=by grind
    have a1:=cI (dQ h') wy;rcases qu with qu|⟨qu,qu'⟩
    .have:=di k' qu;grind
    .rcases qw with qw|⟨qw,qw'⟩
     .have:=di h' qw;rw[qu];grind
     .exfalso
      have hx:v.cross w= -(w.x*v.y):=by unfold ah.cross;rw[qw];grind
      have:=di qw' q;grind
   .exfalso
    have hx:u.cross v= -(v.x*u.y):=by unfold ah.cross;rw[q];grind
    have:=cI (a:=v.x) (b:=u.y) (dQ q') (by grind);grind
  .rw[x] at h k
   have qu:=u7.1 h;have qw:=u7.1 k.symm;rcases q with q|⟨q,q'⟩
   .have e1:u.cross w* -v.y=u.cross v* -w.y+v.cross w* -u.y:=by grind
    rw[<-f8 (k:= -v.y) (by grind),e1];have a1:=cI (a:=u.cross v) (b:= -w.y) (dQ h') (by grind);rcases qu with qu|⟨qu,qu'⟩
    .have:=di (a:=v.cross w) (b:= -u.y) k' (by grind);grind
    .rcases qw with qw|⟨qw,qw'⟩
     .have:=di (a:=u.cross v) (b:= -w.y) h' (by grind);rw[qu];grind
     .exfalso
      have hx:v.cross w= -(-w.x* -v.y):=by unfold ah.cross;rw[qw];grind
      have:=di (a:= -w.x) (b:= -v.y) (by grind) (by grind);grind
   .exfalso
    have hx:u.cross v= -(-v.x* -u.y):=by unfold ah.cross;rw[q];grind
    have:=cI (a:= -v.x) (b:= -u.y) (by grind) (by grind);grind
  .exact absurd x hv
def DK(h:l.ok):l.dir.half≠0:=fun e=>by
 have hn:=h.ne;unfold aa.Ne at hn;rcases vo l.dir with⟨k,_⟩|⟨k,_⟩|⟨_,k1,k2⟩
 .rw[k] at e;cases e
 .rw[k] at e;cases e
 .unfold aa.dir at k1 k2
  simp only at k1 k2;apply hn;refine⟨?_,cR.1 k2⟩;have:(l.a:Rat)=0:=by grind
  exact cR.1 this
def Zd{v:ah}:ge u v=0↔u.half=v.half/\u.cross v=0:=by
 unfold ge;split
 .constructor
  .intro h;exact absurd h (by decide)
  .intro h;omega
 .split
  .constructor
   .intro h;exact absurd h (by decide)
   .intro h;omega
  .constructor
   .intro h
    exact⟨by omega,(pd _).1 (by omega)⟩
   .intro h
    rw[(pd _).2 h.2];rfl
def Br{v w:ah}(h:ek u v)(k:ek v w):ek u w:=by
 by_cases hu:u.half=0
 .by_cases hw:w.half=0
  .have z: ∀x y:ah,x.half=0->x.cross y=0:=fun x y hx=>by
    rcases vo x with⟨e,_⟩|⟨e,_⟩|⟨_,e1,e2⟩
    .rw[hx] at e;exact absurd e (by decide)
    .rw[hx] at e;exact absurd e (by decide)
    .unfold ah.cross;rw[e1,e2];grind
   rcases h with h|⟨h,h'⟩
   .rcases k with k|⟨k,k'⟩
    .omega
    .have hv:v.half≠0:=by omega
     omega
   .rw[z u v hu] at h';exact absurd h' (by decide)
  .refine .inl ?_
   have h1:=oA hw;omega
 .have hv:v.half≠0:=by
   intro e;rcases h with h|⟨h,_⟩
   .have:=oA hu;omega
   .omega
  have hw:w.half≠0:=by
   intro e;rcases k with k|⟨k,_⟩
   .have:=oA hv;omega
   .omega
  exact ek.trans hu hv hw h k
section
variable (c:α->α->Int)
end
def wH(u:ah): ¬ek u u:=by
 rintro (h|⟨_,h⟩)
 .omega
 .have:u.cross u=0:=by unfold ah.cross;grind
  rw[this] at h;exact absurd h (by decide)
def BA{v:ah}(h:ek u v)(k:ek v u):False:=wH u (Br h k)
def M'{x y:ah}(h: ¬ek x y)(k: ¬ek y x):ge x y=0:=by
 rw[<-wY] at h k;unfold ge at*;split at h<;>try omega
 split at h<;>try omega
 split at k<;>try omega
 rw[show y.cross x= -(x.cross y) by unfold ah.cross;grind,oZ,Int.sign_neg] at k;omega
def yu(vs:List ar):cO 8 (vs.map eV):=fun d hd=>by
 obtain⟨u,_,rfl⟩:=aT.1 hd;exact⟨rfl,rfl⟩
def eE(qs:List Rat):cO 3 (qs.map eQ):=fun d hd=>by
 obtain⟨u,_,rfl⟩:=aT.1 hd;exact⟨rfl,rfl⟩
def P2(bs:List Bool):cO 1 (bs.map vB):=fun d hd=>by
 obtain⟨u,_,rfl⟩:=aT.1 hd;exact⟨rfl,rfl⟩
def Zt{l:List ar}{a b:Int}(h:l[k]? =some v)(ha:a=if v.nl then 1 else bA t v.lo)(hb:b=if v.nh then-1 else bA t v.hi):
  vn (l.drop k) t=if 0<a/\b<0 then 2 else if(a=0/\b<=0)\/(b=0/\0<=a) then 1 else vn (l.drop (k+1)) t:=by
 obtain⟨hk,rfl⟩:=aR.1 h;rw[bX hk,vn,ha,hb]
structure nf (v:ar):Prop where
 lo:BQ v.lo 1200
 hi:BQ v.hi 1200
def UH{l:List ar}[ht:BQ t i](hb: ∀v∈l,nf v)(hn:l.length<=100000)(hi:i<=20000:=by decide):PF GB prog 332 [.sl (l.map eV),eQ t] (vI (vn l t)):=by
 have hm:=eo eV l;refine fn (fu:=⟨11⟩) func332 J J ntmps332 J J (fun C=>?_);refine aj 10 (.d (vI (l.length:Nat))) J (by rw[hm]<;>rfl)<|gx J<|lp (X:=Nat) (fun k=>[(11, .d (vI (k:Nat)))]) (fun k=>[]) (fun k=>k<=l.length/\vn (l.drop k) t=vn l t) (fun k=>l.length-k) 0 J ⟨aM _,J⟩ (fun _=>J) (fun k hk=>?_);obtain⟨h1,h2⟩:=hk;refine br J J J (fun hc12=>?_) (fun hc12=>?_)
 .
  obtain⟨v,hz⟩: ∃s,l[k]? =some s:=⟨_,aZ (by omega)⟩;have hv:=hb v (aK hz);haveI:=hv.lo;haveI:=hv.hi;refine ix (fu:=⟨12⟩) _ J (ck hz) J<|mg (fu:=⟨1⟩) (X:=Int) (fun a=>[(7, .d (vI a))]) (fun a=>[]) (fun a=>a=if v.nl then 1 else bA t v.lo) [7] [] rfl ?_ (fun _=>J) (fun a ha=>?_)
  .
   refine gx J<|bb J J J (fun hc17=>?_) (fun hc17=>?_)
   .
    refine cl J (ku (a:=t) (b:=v.lo) (i:=i) (by omega)) J<|at_ (bA t v.lo) (by rw[if_neg (by simpa using hc17)])
   .
    exact at_ 1 (by rw[if_pos (by simpa using hc17)])
  .
   refine mg (X:=Int) (fun b=>[(8, .d (vI b))]) (fun b=>[]) (fun b=>b=if v.nh then-1 else bA t v.hi) [8] [] rfl ?_ (fun _=>J) (fun b hb'=>?_)
   .
    refine gx J<|bb J J J (fun hc24=>?_) (fun hc24=>?_)
    .
     refine cl J (ku (a:=t) (b:=v.hi) (i:=i) (by omega)) J<|at_ (bA t v.hi) (by rw[if_neg (by simpa using hc24)])
    .
     exact at_ (-1) (by rw[if_pos (by simpa using hc24)])
   .
    have hst:=Zt hz ha hb';refine cs 31 J J J (fun hg31=>?_) (fun hg31=>?_)
    .
     refine br J J J (fun hc34=>?_) (fun hc34=>?_)
     .
      exact rz J (by first|(rw[<-h2,fY];rfl)|(rw[<-h2,hst,if_pos (by omega)];rfl)|(rw[<-h2,hst,if_neg (by omega),if_pos (by omega)];rfl))
     .
      refine cs 37 J J J (fun hg37=>?_) (fun hg37=>?_)
      .
       refine cs 41 J J J (fun hg41=>?_) (fun hg41=>?_)
       .
        exact rz J (by first|(rw[<-h2,fY];rfl)|(rw[<-h2,hst,if_pos (by omega)];rfl)|(rw[<-h2,hst,if_neg (by omega),if_pos (by omega)];rfl))
       .
        refine cs 44 J J J (fun hg44=>?_) (fun hg44=>?_)
        .
         refine br J J J (fun hc48=>?_) (fun hc48=>?_)
         .
          exact rz J (by first|(rw[<-h2,fY];rfl)|(rw[<-h2,hst,if_pos (by omega)];rfl)|(rw[<-h2,hst,if_neg (by omega),if_pos (by omega)];rfl))
         .
          exact at_ (k+1) ⟨⟨by omega,by rw[<-h2,hst,if_neg (by omega),if_neg (by omega)]⟩,(by omega)⟩
        .
         exact at_ (k+1) ⟨⟨by omega,by rw[<-h2,hst,if_neg (by omega),if_neg (by omega)]⟩,(by omega)⟩
      .
       refine cs 44 J J J (fun hg44=>?_) (fun hg44=>?_)
       .
        refine br J J J (fun hc48=>?_) (fun hc48=>?_)
        .
         exact rz J (by first|(rw[<-h2,fY];rfl)|(rw[<-h2,hst,if_pos (by omega)];rfl)|(rw[<-h2,hst,if_neg (by omega),if_pos (by omega)];rfl))
        .
         exact at_ (k+1) ⟨⟨by omega,by rw[<-h2,hst,if_neg (by omega),if_neg (by omega)]⟩,(by omega)⟩
       .
        exact at_ (k+1) ⟨⟨by omega,by rw[<-h2,hst,if_neg (by omega),if_neg (by omega)]⟩,(by omega)⟩
    .
     refine cs 37 J J J (fun hg37=>?_) (fun hg37=>?_)
     .
      refine cs 41 J J J (fun hg41=>?_) (fun hg41=>?_)
      .
       exact rz J (by first|(rw[<-h2,fY];rfl)|(rw[<-h2,hst,if_pos (by omega)];rfl)|(rw[<-h2,hst,if_neg (by omega),if_pos (by omega)];rfl))
      .
       refine cs 44 J J J (fun hg44=>?_) (fun hg44=>?_)
       .
        refine br J J J (fun hc48=>?_) (fun hc48=>?_)
        .
         exact rz J (by first|(rw[<-h2,fY];rfl)|(rw[<-h2,hst,if_pos (by omega)];rfl)|(rw[<-h2,hst,if_neg (by omega),if_pos (by omega)];rfl))
        .
         exact at_ (k+1) ⟨⟨by omega,by rw[<-h2,hst,if_neg (by omega),if_neg (by omega)]⟩,(by omega)⟩
       .
        exact at_ (k+1) ⟨⟨by omega,by rw[<-h2,hst,if_neg (by omega),if_neg (by omega)]⟩,(by omega)⟩
     .
      refine cs 44 J J J (fun hg44=>?_) (fun hg44=>?_)
      .
       refine br J J J (fun hc48=>?_) (fun hc48=>?_)
       .
        exact rz J (by first|(rw[<-h2,fY];rfl)|(rw[<-h2,hst,if_pos (by omega)];rfl)|(rw[<-h2,hst,if_neg (by omega),if_pos (by omega)];rfl))
       .
        exact at_ (k+1) ⟨⟨by omega,by rw[<-h2,hst,if_neg (by omega),if_neg (by omega)]⟩,(by omega)⟩
      .
       exact at_ (k+1) ⟨⟨by omega,by rw[<-h2,hst,if_neg (by omega),if_neg (by omega)]⟩,(by omega)⟩
 .
  obtain rfl:k=l.length:=by omega
  exact rz J (by first|(rw[<-h2,fY];rfl)|(rw[<-h2,hst,if_pos (by omega)];rfl)|(rw[<-h2,hst,if_neg (by omega),if_pos (by omega)];rfl))
def PX{l:List ar}[ht:BQ t i](hb: ∀v∈l,nf v)(hn:l.length<=100000)(hi:i<=20000:=by decide):PF GB prog 317 [.sl (l.map eV),eQ t] (vB (gt l t)):=by
 refine fn func317 J J ntmps317 J J (fun C=>?_);refine cl J (UH (l:=l) (t:=t) hb hn hi) J<|rz J J
def Ge: ∀{l:List Rat} {i:Nat} {a b:Rat},l[i]? =some a->l[i+1]? =some b->iH (l.take (i+2))=iH (l.take (i+1))++[(a+b)/2]
 |[],i,a,b,h,_=>by simp at h
 |[_],i,a,b,h,k=>by simp at k
 |c::d::t,0,a,b,h,k=>by
  simp at h k;subst h;subst k;simp[iH]
 |c::d::t,i+1,a,b,h,k=>by
  have:=Ge (l:=d::t) (i:=i) (by simpa using h) (by simpa using k);rw[show(c::d::t).take (i+1+2)=c::d::t.take (i+1) by simp,show(c::d::t).take (i+1+1)=c::d::t.take i by simp,iH,iH,gW];congr 1
def BW: ∀l:List Rat,(iH l).length<=l.length
 |[]=>bK _
 |[_]=>aM _
 |a::b::t=>by rw[iH,bZ,bZ];exact Nat.succ_le_succ (BW (b::t))
def RJ{a:Rat}{t:List Rat}{z:Rat}(h:(a::t)[t.length]? =some z):cp (a::t)=(a-1)::(iH (a::t)++[z+1]):=by
 rw[cp];have:(a::t).getLast (by simp)=z:=by
  rw[List.getLast_eq_getElem];have:=aR.1 h;obtain⟨h1,h2⟩:=this;rw[<-h2];congr 1
 rw[this]
def T9(hb: ∀q∈cuts,BQ q 1200)(hn:cuts.length<=100000):PF GB prog 316 [.sl (cuts.map eQ)] (.sl ((cp cuts).map eQ)):=by
 have hm:=eo eQ cuts;refine fn (fu:=⟨10⟩) func316 J J ntmps316 J J (fun C=>?_);refine aj 6 (.d (vI (cuts.length:Nat))) J (by rw[hm]<;>rfl)<|gx J<|br J J J (fun hc7=>?_) (fun hc7=>?_)
 .
  obtain rfl:cuts=[]:=cV (by omega);refine rf J J<|rz J (by rw[cp];show DV.sl [_]=DV.sl [_];rw[HM])
 .
  obtain⟨a,ct,rfl⟩: ∃a t,cuts=a::t:=by cases cuts with|nil=>exact absurd rfl hc7|cons a t=>exact⟨a,t,rfl⟩
  haveI hab:=hb a aQ;have hcl:ct.length+1<=100000:=hn;refine ix _ J J J<|cl J (iw (n:=1)) J<|cl (fu:=⟨0⟩) J (rj (a:=a) (b:=((1:Int):Rat))) J<|aj 14 (.d (eQ (a-1))) J J<|gx J<|ro J J<|lp (fu:=⟨6⟩) (X:=Nat) (fun i=>[(4, .d (vI ((i+1:Nat):Int))),(3, .rw 15)]) (fun i=>[(15,some (.b 50 3 (((a-1)::iH ((a::ct).take (i+1))).map eQ) true))]) (fun i=>i<=ct.length) (fun i=>ct.length-i) 0 J (aM _) (fun _=>J) (fun i hk=>?_);have hm2:=eo eQ (a::ct);have hml:=BW (a::ct.take i);rw[bZ,bT] at hml;have hml2:=BW (a::ct);rw[bZ] at hml2;refine aj 18 (.d (vI ((ct.length+1:Nat):Int))) J (by rw[hm2]<;>rfl)<|gx J<|br (fu2:=⟨11⟩) J J J (fun hc19=>?_) (fun hc19=>?_)
  .
   obtain⟨u,hu⟩: ∃s,(a::ct)[i]? =some s:=⟨_,aZ (by simp;omega)⟩;obtain⟨w,hw⟩: ∃s,(a::ct)[i+1]? =some s:=⟨_,aZ (by simp;omega)⟩;haveI:=hb u (aK hu);haveI:=hb w (aK hw);refine ix _ J (by rw[show((((i+1:Nat):Int))-1).toNat=i by omega,cY,hu];rfl) J<|ix _ J (by rw[cK,cY,hw];rfl) J<|?_;refine cl J (Cn (a:=u) (b:=w)) J<|rf J J<|ap (hv:=by simp only[ak];exact⟨by kernel_rfl,by omega⟩) (((a-1)::iH ((a::ct).take (i+1+1))).map eQ) J (by rw[Ge hu hw,<-gW,aS];rfl) (eE [(u+w)/2]) J<|d8 34 15 J<|at_ (i+1) ⟨(by omega),(by omega)⟩
  .
   obtain rfl:i=ct.length:=by omega
   obtain⟨z,hz⟩: ∃s,(a::ct)[ct.length]? =some s:=⟨_,aZ (by simp)⟩;haveI:=hb z (aK hz);rw[show(a::ct).take (ct.length+1)=a::ct from cS (l:=a::ct)];refine aj 38 (.d (vI ((ct.length+1:Nat):Int))) J (by rw[hm2]<;>rfl)<|gx J<|ix _ J (by rw[show((((ct.length+1:Nat):Int))-1).toNat=ct.length by omega,cY,hz];rfl) J<|cl J (iw (n:=1)) J<|?_;refine cl J (mr (a:=z) (b:=((1:Int):Rat))) J<|rf J J<|ap ((cp (a::ct)).map eQ) J (by rw[RJ hz,<-gW,aS];rfl) (eE [z+1]) J<|gm 45 J<|rz J J
def Sg(o:List Rat)(s:ar):(oh o s).length<=o.length+2:=by
 unfold oh;have h:=fun(x:Rat) (l:List Rat)=>xo (x:=x) (l:=l)▸DC bA x l;have h1:=h s.lo o;have h2:=h s.hi o;have h3:=h s.hi (kt s.lo o);split<;>split<;>omega
def p9(l:List ar)(k:Nat):List Rat:=jH (l.take k)
def LO{l:List ar}(h:l[k]? =some v):p9 l (k+1)=oh (p9 l k) v:=by
 unfold p9 jH;rw[dZ,h,lN];rfl
def Ex(l:List ar): ∀k,(p9 l k).length<=2*k
 |0=>bK _
 |k+1=>by
  cases h:l[k]? with
  |none=>
   have:=Ex l k;unfold p9 at*;rw[dZ,h];simp;omega
  |some v=>rw[LO h];have:=Ex l k;have:=Sg (p9 l k) v;omega
theorem Nr{l:List ar}(hb: ∀v∈l,nf v): ∀y∈p9 l k,BQ y 1200:=fun y hy=>by
 obtain⟨s,hs,h⟩:=(Nl _).2 y hy;have:=hb s (eM hs);rcases h with⟨_,rfl⟩|⟨_,rfl⟩
 .exact this.lo
 .exact this.hi
def rI(o:List Rat)(v:ar)(j:Nat):List Rat:=if j=0 then o else if j=1 then(if v.nl then o else kt v.lo o) else oh o v
def Cg(v:ar)(j:Nat):Rat:=if j=0 then v.lo else v.hi
def qk(v:ar)(j:Nat):Bool:=if j=0 then v.nl else v.nh
def ur(hj:j<2:=by decide):rI o v (j+1)=if qk v j then rI o v j else e7 bA (Cg v j) (rI o v j):=by
 have:j=0\/j=1:=by omega
 rcases this with rfl|rfl
 .simp[rI,qk,Cg,xo]
 .simp[rI,qk,Cg,oh,xo]
def T5(hj:j<=2):(rI o v j).length<=o.length+2:=by
 unfold rI;have:=Sg o v;have h:=xo (x:=v.lo) (l:=o)▸DC bA v.lo o;split
 .omega
 .split
  .split<;>omega
  .exact this
theorem aCf(ho: ∀q∈o,BQ q 1200)(hv:nf v)(hj:j<=2): ∀q∈rI o v j,BQ q 1200:=fun q hq=>by
 unfold rI oh at hq;have lo:=hv.lo;have hi:=hv.hi;split at hq
 .exact ho q hq
 .split at hq
  .split at hq
   .exact ho q hq
   .rcases qh.1 hq with rfl|hq
    .exact lo
    .exact ho q hq
  .split at hq
   .split at hq
    .exact ho q hq
    .rcases qh.1 hq with rfl|hq
     .exact lo
     .exact ho q hq
   .rcases qh.1 hq with rfl|hq
    .exact hi
    .split at hq
     .exact ho q hq
     .rcases qh.1 hq with rfl|hq
      .exact lo
      .exact ho q hq
def aG3{l:List ar}(hb: ∀v∈l,nf v)(hn:l.length<=10000):PF GB prog 315 [.sl (l.map eV)] (.sl ((jH l).map eQ)):=by
 have hm:=eo eV l;refine fn (fu:=⟨15⟩) func315 J J ntmps315 J J (fun C=>?_);refine aj 10 (.d (vI (l.length:Nat))) J (by rw[hm]<;>rfl)<|gx J<|B9 3 J<|lp (X:=List Rat×Nat) (fun⟨o,k⟩=>[(11, .d (vI (k:Nat))),(3, .d (.sl (o.map eQ)))]) (fun⟨o,k⟩=>[]) (fun⟨o,k⟩=>o=p9 l k/\k<=l.length) (fun⟨o,k⟩=>l.length-k) ([],0) J ⟨J,aM _⟩ (fun _=>J) (fun⟨o,k⟩ hk=>?_);dsimp only at hk⊢;obtain⟨h1,h2⟩:=hk;refine br J J J (fun hc12=>?_) (fun hc12=>?_)
 .
  obtain⟨v,hz⟩: ∃s,l[k]? =some s:=⟨_,aZ (by omega)⟩;have hv:=hb v (aK hz);haveI:=hv.lo;haveI:=hv.hi;have hob:=Nr hb (k:=k);have hol:=Ex l k;rw[<-h1] at hob hol;refine ix _ J (ck hz) J<|rf J J<|lp (X:=List Rat×Nat) (fun⟨xs,j⟩=>[(21, .d (vI (j:Nat))),(3, .d (.sl (xs.map eQ)))]) (fun⟨xs,j⟩=>[]) (fun⟨xs,j⟩=>xs=rI o v j/\j<=2) (fun⟨xs,j⟩=>2-j) (o,0) J ⟨J,by omega⟩ (fun _=>J) (fun⟨xs,j⟩ hk=>?_);dsimp only at hk⊢;obtain⟨g1,g2⟩:=hk;refine br J J J (fun hc22=>?_) (fun hc22=>?_)
  .
   have hj2:j<2:=by have:=hc22;simp only[bZ,dS] at this;omega
   obtain⟨m,hm2⟩: ∃m,m=Cg v j:=⟨_,rfl⟩;haveI hmb:BQ m 1200:=by rw[hm2];unfold Cg;split;exact hv.lo;exact hv.hi
   have hxl:=eo eQ xs;have hxn:xs.length<=2*k+2:=by rw[g1];have:=T5 (o:=o) (v:=v) (j:=j) g2;omega
   have hxb: ∀q∈xs,BQ q 1200:=by rw[g1];exact aCf hob hv g2
   refine ix (fu:=⟨10⟩) _ rfl (by rw[cK];exact(show([v.lo,v.hi].map eQ)[j]? =some (eQ m) by rw[hm2];have:j=0\/j=1:=(by omega);rcases this with rfl|rfl<;>rfl)) rfl<|?_;rcases(show j=0\/j=1 by omega) with rfl|rfl
   .
    refine du J J J<|iC (fu2:=⟨1⟩) 32 J J J (fun hg32=>?_) (fun hg32=>?_)
    .
     exact at_ (xs,0+1) (by dsimp only;exact⟨⟨by rw[ur,if_pos (by simpa[qk] using hg32),<-g1],by omega⟩,(by omega)⟩)
    .
     refine cB (fu:=⟨16⟩) J J J<|mg (fu:=⟨5⟩) (X:=Nat) (fun n=>[(8, .d (vI (n:Nat)))]) (fun n=>[]) (fun n=>lH bA m xs=n) [8] [] rfl ?_ (fun _=>J) (fun n hnx=>?_)
     .
      refine gx J<|lp (fu:=⟨6⟩) (X:=Nat) (fun n=>[(8, .d (vI (n:Nat)))]) (fun n=>[]) (fun n=>n<=xs.length/\ ∀j (h:j<xs.length),j<n->bA xs[j] m<0) (fun n=>xs.length-n) 0 J ⟨aM _,fun j _ hj=>absurd hj (by omega)⟩ (fun _=>J) (fun n hk=>?_);obtain⟨n1,n2⟩:=hk;refine kj (v2:=fun hg43=>by simp only[ak];kernel_rfl) J J J J (fun hg43=>?_) (fun hg43=>?_)
      .
       refine ix _ J (ti) J<|cl J (ku (a:=xs[n]'(by omega)) (b:=m) (ha:=hxb _ (dX (by omega))) (hb:=hmb)) J<|br J J J (fun hc52=>?_) (fun hc52=>?_)
       .
        exact at_ (n+1) ⟨⟨by omega,fun j h hj=>by by_cases q:j=n;(subst q;exact hc52);exact n2 j h (by omega)⟩,(by omega)⟩
       .
        exact at_ n (vx bA n1 n2 (fun h=>hc52))
      .
       exact at_ n (vx bA n1 n2 (fun h=>absurd h (by omega)))
     .
      have hnl:n<=xs.length:=by rw[<-hnx];exact FC _ _ _
      refine kj (v1:=fun hg58=>by simp only[ak];kernel_rfl) J J J J (fun hg58=>?_) (fun hg58=>?_)
      .
       have hnew: ∀h:n<xs.length,bA xs[n] m≠0:=fun h=>absurd h (by omega);obtain⟨ys,hys⟩: ∃ys,ys=xs.take n++m::xs.drop n:=⟨_,rfl⟩;have hin:e7 bA m xs=ys:=by rw[hys];exact tj bA hnx hnew
       have hyl:ys.length<=xs.length+1:=by rw[hys];simp;omega
       refine s3 n _ J J J J (eE _) (by rw[hxl];exact hnl) J<|ro J J<|kD n xs.length _ J J (by rw[hxl]) J (eE _) hnl (by omega) J<|ap _ J J (tO eE _ _ _) J<|jC (hv:=by simp only[ak];exact⟨by kernel_rfl,by omega⟩) (ho:=fun _=>⟨vj eE _ _,by simp⟩) (ys.map eQ) J (by rw[hys,aS,bU,iR,jZ,cZ (l:=xs.map eQ) (i:=xs.length) (by simp)];rfl) (uj eE _ _ _ _) J<|at_ (ys,0+1) (by dsimp only;exact⟨⟨by rw[ur,if_neg (by simpa[qk] using hg32),<-g1,<-hm2,hin],by omega⟩,(by omega)⟩)
      .
       refine ix _ J (ti) J<|cl J (ku (a:=xs[n]'(by omega)) (b:=m) (ha:=hxb _ (dX (by omega))) (hb:=hmb)) J<|br (fu2:=⟨7⟩) J J J (fun hc67=>?_) (fun hc67=>?_)
       .
        have hnew: ∀h:n<xs.length,bA xs[n] m≠0:=fun h=>hc67;obtain⟨ys,hys⟩: ∃ys,ys=xs.take n++m::xs.drop n:=⟨_,rfl⟩;have hin:e7 bA m xs=ys:=by rw[hys];exact tj bA hnx hnew
        have hyl:ys.length<=xs.length+1:=by rw[hys];simp;omega
        refine s3 n _ J J J J (eE _) (by rw[hxl];exact hnl) J<|ro J J<|kD n xs.length _ J J (by rw[hxl]) J (eE _) hnl (by omega) J<|ap _ J J (tO eE _ _ _) J<|jC (hv:=by simp only[ak];exact⟨by kernel_rfl,by omega⟩) (ho:=fun _=>⟨vj eE _ _,by simp⟩) (ys.map eQ) J (by rw[hys,aS,bU,iR,jZ,cZ (l:=xs.map eQ) (i:=xs.length) (by simp)];rfl) (uj eE _ _ _ _) J<|at_ (ys,0+1) (by dsimp only;exact⟨⟨by rw[ur,if_neg (by simpa[qk] using hg32),<-g1,<-hm2,hin],by omega⟩,(by omega)⟩)
       .
        have hin:e7 bA m xs=xs:=Aa bA hnx (by omega) (Decidable.not_not.1 hc67);exact at_ (xs,0+1) (by dsimp only;exact⟨⟨by rw[ur,if_neg (by simpa[qk] using hg32),<-g1,<-hm2,hin],by omega⟩,(by omega)⟩)
   .
    refine cB (fu:=⟨6⟩) J J J<|du J J J<|bb (fu2:=⟨8⟩) J J J (fun hc39=>?_) (fun hc39=>?_)
    .
     exact at_ (xs,1+1) (by dsimp only;exact⟨⟨by rw[ur,if_pos (by simpa[qk] using hc39),<-g1],by omega⟩,(by omega)⟩)
    .
     refine mg (fu:=⟨5⟩) (X:=Nat) (fun n=>[(8, .d (vI (n:Nat)))]) (fun n=>[]) (fun n=>lH bA m xs=n) [8] [] rfl ?_ (fun _=>J) (fun n hnx=>?_)
     .
      refine gx J<|lp (fu:=⟨6⟩) (X:=Nat) (fun n=>[(8, .d (vI (n:Nat)))]) (fun n=>[]) (fun n=>n<=xs.length/\ ∀j (h:j<xs.length),j<n->bA xs[j] m<0) (fun n=>xs.length-n) 0 J ⟨aM _,fun j _ hj=>absurd hj (by omega)⟩ (fun _=>J) (fun n hk=>?_);obtain⟨n1,n2⟩:=hk;refine kj (v2:=fun hg43=>by simp only[ak];kernel_rfl) J J J J (fun hg43=>?_) (fun hg43=>?_)
      .
       refine ix _ J (ti) J<|cl J (ku (a:=xs[n]'(by omega)) (b:=m) (ha:=hxb _ (dX (by omega))) (hb:=hmb)) J<|br J J J (fun hc52=>?_) (fun hc52=>?_)
       .
        exact at_ (n+1) ⟨⟨by omega,fun j h hj=>by by_cases q:j=n;(subst q;exact hc52);exact n2 j h (by omega)⟩,(by omega)⟩
       .
        exact at_ n (vx bA n1 n2 (fun h=>hc52))
      .
       exact at_ n (vx bA n1 n2 (fun h=>absurd h (by omega)))
     .
      have hnl:n<=xs.length:=by rw[<-hnx];exact FC _ _ _
      refine kj (v1:=fun hg58=>by simp only[ak];kernel_rfl) J J J J (fun hg58=>?_) (fun hg58=>?_)
      .
       have hnew: ∀h:n<xs.length,bA xs[n] m≠0:=fun h=>absurd h (by omega);obtain⟨ys,hys⟩: ∃ys,ys=xs.take n++m::xs.drop n:=⟨_,rfl⟩;have hin:e7 bA m xs=ys:=by rw[hys];exact tj bA hnx hnew
       have hyl:ys.length<=xs.length+1:=by rw[hys];simp;omega
       refine s3 n _ J J J J (eE _) (by rw[hxl];exact hnl) J<|ro J J<|kD n xs.length _ J J (by rw[hxl]) J (eE _) hnl (by omega) J<|ap _ J J (tO eE _ _ _) J<|jC (hv:=by simp only[ak];exact⟨by kernel_rfl,by omega⟩) (ho:=fun _=>⟨vj eE _ _,by simp⟩) (ys.map eQ) J (by rw[hys,aS,bU,iR,jZ,cZ (l:=xs.map eQ) (i:=xs.length) (by simp)];rfl) (uj eE _ _ _ _) J<|at_ (ys,1+1) (by dsimp only;exact⟨⟨by rw[ur,if_neg (by simpa[qk] using hc39),<-g1,<-hm2,hin],by omega⟩,(by omega)⟩)
      .
       refine ix _ J (ti) J<|cl J (ku (a:=xs[n]'(by omega)) (b:=m) (ha:=hxb _ (dX (by omega))) (hb:=hmb)) J<|br J J J (fun hc67=>?_) (fun hc67=>?_)
       .
        have hnew: ∀h:n<xs.length,bA xs[n] m≠0:=fun h=>hc67;obtain⟨ys,hys⟩: ∃ys,ys=xs.take n++m::xs.drop n:=⟨_,rfl⟩;have hin:e7 bA m xs=ys:=by rw[hys];exact tj bA hnx hnew
        have hyl:ys.length<=xs.length+1:=by rw[hys];simp;omega
        refine s3 n _ J J J J (eE _) (by rw[hxl];exact hnl) J<|ro J J<|kD n xs.length _ J J (by rw[hxl]) J (eE _) hnl (by omega) J<|ap _ J J (tO eE _ _ _) J<|jC (hv:=by simp only[ak];exact⟨by kernel_rfl,by omega⟩) (ho:=fun _=>⟨vj eE _ _,by simp⟩) (ys.map eQ) J (by rw[hys,aS,bU,iR,jZ,cZ (l:=xs.map eQ) (i:=xs.length) (by simp)];rfl) (uj eE _ _ _ _) J<|at_ (ys,1+1) (by dsimp only;exact⟨⟨by rw[ur,if_neg (by simpa[qk] using hc39),<-g1,<-hm2,hin],by omega⟩,(by omega)⟩)
       .
        have hin:e7 bA m xs=xs:=Aa bA hnx (by omega) (Decidable.not_not.1 hc67);exact at_ (xs,1+1) (by dsimp only;exact⟨⟨by rw[ur,if_neg (by simpa[qk] using hc39),<-g1,<-hm2,hin],by omega⟩,(by omega)⟩)
  .
   have hj2: ¬j<2:=by have:=hc22;simp only[bZ,dS] at this;omega
   exact at_ (xs,k+1) (by dsimp only;exact⟨⟨by rw[LO hz,<-h1,g1,show j=2 by omega];rfl,by omega⟩,(by omega)⟩)
 .
  have hfin:jH l=o:=by rw[h1,show k=l.length by omega];unfold p9;rw[cS]
  exact rz J (by rw[hfin];rfl)
def T'(t:Rat):eV ⟨t,0,false,true⟩= .ag [.v (.bool (decide (t.num<0))),dN t.num.natAbs,dD t.den, .v (.bool false), .sl [], .sl [], .v (.bool false), .v (.bool true)]:=by
 unfold eV dD;simp only[show(0:Rat).num=0 from J,show(0:Rat).den=1 from J,lY,mm];rfl
def Vo(t:Rat):eV ⟨0,t,true,false⟩= .ag [.v (.bool false), .sl [], .sl [], .v (.bool (decide (t.num<0))),dN t.num.natAbs,dD t.den, .v (.bool true), .v (.bool false)]:=by
 unfold eV dD;simp only[show(0:Rat).num=0 from J,show(0:Rat).den=1 from J,lY,mm];rfl
def AB(l m:aa)(side:Int):DV:= .tp [.sl ((jk l m side).map eV),vB (my l m)]
def P6{m:aa}(h:crossI l m≠0):my l m=false:=by unfold my;rw[decide_eq_false];exact fun e=>h e.1
def QS{m:aa}(h:crossI l m=0):my l m=decide ((m.value l.base).num.sign=0):=by unfold my;simp[h]
def N9{m:aa}[hl:LB l][hm:LB m](hlo:l.ok)(hmo:m.ok)(hs:side=1\/side= -1):PF GB prog 285 [eL l,eL m,vI side] (AB l m side):=by
 refine fn func285 J J ntmps285 J J (fun C=>?_);refine cl J (DX (l:=l) (m:=m)) J<|bb J J J (fun hc19=>?_) (fun hc19=>?_)
 .
  have hc:crossI l m=0:=by simpa using hc19
  refine cl J (yv hlo.ne) J<|cl J (Cb (l:=m) (p:=l.base)) J<|br J J J (fun hc26=>?_) (fun hc26=>?_)
  .
   refine cl J OM J<|rf J J<|rz J (by unfold AB jk;rw[if_pos hc,if_pos hc26,QS hc];rfl)
  .
   exact rz J (by unfold AB jk;rw[if_pos hc,if_neg hc26,QS hc];rfl)
 .
  have hc:crossI l m≠0:=by simpa using hc19
  haveI hpb:=Fb (l:=l) (m:=m) hlo.ne hc;obtain⟨t,ht⟩: ∃t,t=ji l (c8 l m):=⟨_,rfl⟩;refine cl (fu:=⟨0⟩) J (Du (l:=l) (p:=c8 l m) hlo.ne) J<|aj 35 (.d (eQ t)) J (by rw[ht]) ?_;rw[<-ht] at hpb;refine gx J<|cl J (iw (n:=1)) J<|cl J (mr (a:=t) (b:=((1:Int):Rat))) J<|cl J (Qv (l:=l) (t:=t+((1:Int):Rat)) hlo.ne) J<|cl J (Cb (l:=m) (p:=l.at (t+((1:Int):Rat)))) J<|br J J J (fun hc44=>?_) (fun hc44=>?_)
  .
   refine rf J J<|rz J (by unfold AB jk;rw[if_neg hc,<-ht,if_pos (show(m.value (l.at (t+1))).num.sign=side from hc44),P6 hc,bU,T'];rfl)
  .
   refine rf J J<|rz J (by unfold AB jk;rw[if_neg hc,<-ht,if_neg (show¬(m.value (l.at (t+1))).num.sign=side from hc44),P6 hc,bU,Vo];rfl)
def fp(f:bw):DV:= .ag [.v (.bool (decide (f.l.a<0))),dN f.l.a.natAbs, .v (.bool (decide (f.l.b<0))),dN f.l.b.natAbs, .v (.bool (decide (f.l.c<0))),dN f.l.c.natAbs, .v (.bool (decide (f.v.lo.num<0))),dN f.v.lo.num.natAbs,dD f.v.lo.den, .v (.bool (decide (f.v.hi.num<0))),dN f.v.hi.num.natAbs,dD f.v.hi.den, .v (.bool f.v.nl), .v (.bool f.v.nh)]
def xO(fs:List bw):cO 14 (fs.map fp):=fun d hd=>by
 obtain⟨u,_,rfl⟩:=aT.1 hd;exact⟨rfl,rfl⟩
theorem uP{p:ZP}(h:ZP.le 100 p):aC p.q 12:=by
 haveI:BI p.1 11:=mo (by have:=h.1;omega);haveI:BI p.2 11:=mo (by have:=h.2;omega);exact(inferInstance:aC (iP p.1 p.2) 12)
def auv{v w:ZP}(hv:ZP.le 100 v)(hw:ZP.le 100 w)(h:v≠w):PF GB prog 228 [eP v.q,eP w.q] (.tp [fp (C9 v w),vB true]):=by
 have hne: ¬(w.1=v.1/\w.2=v.2):=fun e=>h (Prod.ext e.1.symm e.2.symm);obtain⟨hlb,hlo⟩:=O4 (m:=v.1) (n:=v.2) (p:=w.1) (q:=w.2) (by have:=hv.1;omega) (by have:=hv.2;omega) (by have:=hw.1;omega) (by have:=hw.2;omega) hne;haveI:=hlb;haveI:=uP hv;haveI:=uP hw;refine fn func228 J J ntmps228 J J (fun C=>?_);refine cl (fu:=⟨3⟩) J (Pw (m:=v.1) (n:=v.2) (m':=w.1) (n':=w.2) (by have:=hv.1;omega) (by have:=hv.2;omega) (by have:=hw.1;omega) (by have:=hw.2;omega) (fun e=>hne ⟨e.1.symm,e.2.symm⟩)) J<|mn 13 J<|gx J<|cl J (Du (l:=nA v.1 v.2 w.1 w.2) (p:=v.q) hlo.ne) J<|cl J (Du (l:=nA v.1 v.2 w.1 w.2) (p:=w.q) hlo.ne) J<|rz J J
end Go.Sx
end
