import Derived.Test.YtmdgdhokaffbkaaGreatDoorMz12
import Derived.WalkKit
import Derived.LaidEql
import Derived.Stop.Asserts
import Derived.RowKitTokens
set_option linter.all false
set_option maxHeartbeats 1000000
set_option maxRecDepth 100000
section
namespace Go.Sx
open Go Go.Proofs Tryz
variable {P:Program}{C:aG}{n:Nat}{fr:Fr}{G GB:Gh}{K:Value->List aA->Gh->Prop}{f:FuncId}{t:Tr}
def Tr.pre:Tr->List Tr
 | .leaf b=>[.leaf b]
 | .node l x y=> .node l x y::(x.pre++y.pre)
structure QU (f:FuncId) (c2:List Value) (σ:Type) (step:σ->Tr->σ) (ok:σ->Tr->Prop) (Inv:σ->List aA->Gh->Prop):Prop where
 up: ∀{s B G G'},b9 G G'->Inv s B G->Inv s B G'
 re: ∀{s B G} (fl:Nat->Bool),Inv s B G->Inv s (B.map (relo fl)) G
 go: ∀{s t p B G},ok s t->Inv s B G->Is G (eU t) (.pointer p)->iO prog f (.pointer p::c2) B G (fun _ B' G'=>Inv (step s t) B' G')
section
variable {own:List aA}
def F0{fn:Func}{vs:List Value}(hr:lm P fr own fn.results.toList vs)(own2 own3:List aA)(hp:own.Perm own2)(hs:own3.Sublist own2)(hk:K (p9 vs) own3 G):St C n fr own G (ge C P fn (t8 C K) .normal):=
 fun a w rl hmk=>⟨rl.df.trans hmk,_,vi hr rl.fr rl.h,_,own3,G,J,(rl.h.perm hp).drop hs,hk⟩
end
def yj{σ:Type}(step:σ->Tr->σ)(ok:σ->Tr->Prop):σ->List Tr->Prop
 |_,[]=>True
 |s,t::ts=>ok s t/\yj step ok (step s t) ts
structure EX (σ:Type) where
 ts:List Tr
 vs:List Value
 rest:List Value
 b:Nat
 cap:Nat
 lo:Bool
 s:σ
 B:List aA
def tH(t:Tr):Nat:=2*t.size+1
def W9(ts:List Tr):ts.length<=(ts.map tH).sum:=by
 induction ts with
 |nil=>exact bW _
 |cons t ts ih=>simp only[aN,bY,tV,tH];omega
def r4(ts:List Tr):List Tr:=ts.reverse.flatMap Tr.pre
structure EI (A:Gh) {σ:Type} (step:σ->Tr->σ) (ok:σ->Tr->Prop) (Inv:σ->List aA->Gh->Prop) (N:Nat) (fin:σ) (x:EX σ) (G:Gh):Prop where
 rel:i8 (fun v t=> ∃p,v= .pointer p/\Is A (eU t) (.pointer p)) x.vs x.ts
 cap:x.vs.length+x.rest.length=x.cap
 inv:Inv x.s x.B G
 mu:(x.ts.map tH).sum<=N
 okf:yj step ok x.s (r4 x.ts)
 fin:(r4 x.ts).foldl step x.s=fin
def I1{α β:Type}{R:α->β->Prop}{v:α}{t:β}: ∀{vs:List α} {ts:List β},i8 R (vs++[v]) (ts++[t])->i8 R vs ts/\R v t
 |[],[], .cons h .nil=>⟨.nil,h⟩
 |[],_::b, .cons _ h=>by cases b<;>cases h
 |_::a,[], .cons _ h=>by cases a<;>cases h
 |_::_,_::_, .cons h k=>⟨.cons h (I1 k).1,(I1 k).2⟩
theorem okl{p:Prop}(h:p:=by simp only[aN];omega):p:=h
def aH9{c2:List Value}{σ:Type}{step:σ->Tr->σ}{ok:σ->Tr->Prop}{Inv:σ->List aA->Gh->Prop}(V:QU f c2 σ step ok Inv){p:Option Addr}{s:σ}{B:List aA}
  (h:Is G (eU t) (.pointer p))(hI:Inv s B G)(hok:yj step ok s t.pre)(hs:t.size<=1000000000000):
  iO prog 271 [.pointer p, .func (.func f) #[] ⟨c2⟩] B G (fun _ B' G'=>Inv (t.pre.foldl step s) B' G'):=by
 refine iO.intro func271 J J ntmps271 J ?_;intro C _ _;refine sR<|sm J J<|?_;refine sc (SM J okA okA pb pb J ?_);intro b1;refine sa J J<|zE<|xE<|?_;refine Pb (X:=EX σ) (fun x=>[(4, .slice (some ⟨x.b,0,none⟩) x.vs.length x.cap),(1, .func (.func f) #[] ⟨c2⟩)]) (fun x=>⟨x.b,x.vs++x.rest,143,x.lo⟩::x.B) (EI G step ok Inv (tH t) (t.pre.foldl step s)) (fun x=>(x.ts.map tH).sum)
  ⟨[t],[.pointer p],[],b1,1,true,s,asB B⟩ ⟨.cons ⟨p,J,h⟩ .nil,J,V.re (fun _=>false) hI,vb,by simpa[r4] using hok,by simp[r4]⟩ (.cons J (.cons J .nil)) J ?_
 rintro ⟨ts,vs,rest,b,cap,lo,s1,B1⟩ Gx _ ⟨hrel,hcap,hinv,hmu,hokf,hfin⟩;simp only at hrel hcap hinv hmu hokf hfin;have hln:=hrel.len;have hlt:=W9 ts;unfold tH at hmu hlt;refine gh<|sR<|sm J J<|uL J J<|sy (Cd J J) J<|zE<|?_;refine Pd J (fun hc=>?_) (fun hc=>?_)
 .refine UA<|DT<|DT<|RG<|?_
  refine F0 .nil _ _ (List.Perm.refl _) (nS _ _) ?_;obtain rfl:ts=[]:=by
   cases ts with
   |nil=>rfl
   |cons a l=>simp only[aN] at hln;exfalso;apply hc;show(0:Int)<(vs.length:Int);omega
  have:s1=t.pre.foldl step s:=hfin;rw[<-this];exact hinv
 refine zK<|?_;obtain⟨vs,v,rfl⟩: ∃vs' v',vs=vs'++[v']:=by
  rcases oV vs with e|⟨a,b,e⟩
  .subst e;simp at hc
  .exact⟨a,b,by rw[e,oW]⟩
 obtain⟨ts,u,rfl⟩: ∃vs' v',ts=vs'++[v']:=by
  rcases oV ts with e|⟨a,b,e⟩
  .subst e;simp at hln
  .exact⟨a,b,by rw[e,oW]⟩
 obtain⟨hrel1,q,rfl,hq⟩:=I1 hrel;have hl1:(vs++[Value.pointer q]).length=vs.length+1:=by simp
 have hst:r4 (ts++[u])=u.pre++r4 ts:=by simp[r4]
 rw[hst] at hokf hfin;simp only[bX,tY,bY,iQ,tV,List.sum_nil,gQ,aU,iJ] at hmu hlt hln hcap;refine aCl [(4,Value.slice (some ⟨b,0,none⟩) (vs.length+1:Nat) cap),(1, .func (.func f) #[] ⟨c2⟩)] (.cons (by show some (Value.slice _ (vs++[Value.pointer q]).length _)=_;rw[hl1]) (.cons J .nil)) ?_;refine xE<|sR<|sm J J<|uL J J<|sy (ZU J J) J<|sa J J<|zE<|sR<|sm J J<|?_;rw[show((vs.length+1:Nat):Int)-1=(vs.length:Nat) by omega];refine sm J J<|sy (wq J J) J<|?_;refine sy (pP (v:=Value.pointer q) J (by rw[cX,jT,dK,fN (bW _),qS];rfl)) J<|sa J J<|zE<|sR<|sm J J<|sm J J<|sy (DD J J) J<|?_;rw[cX];refine sa J J<|zE<|sR<|sm J J<|sm J J<|?_;have hokq:ok s1 u/\yj step ok (step s1 u) (u.pre.tail++r4 ts):=by cases u<;>exact hokf
 refine sc (AY (c1:=[]) (M:=B1) (rest:=[⟨b,vs++[Value.pointer q]++rest,143,lo⟩]) J J (jJ (l₁:=[_])) (V.go hokq.1 hinv (hq.up GL.le)) J ?_);rintro _ B2 G2 fl _ _ _ hinv2;replace hinv2:=V.re fl hinv2;refine Bz (⟨b,vs++Value.pointer q::rest,143,lo⟩::B2.map (relo fl)) (by rw[dK];exact(jJ (l₂:=[_]))) ?_;generalize B2.map (relo fl)=B2 at*;refine zE<|sR<|sm J J<|?_
 cases u with
 |leaf bb=>
  refine sc (zC J J (PF.fn0 pq (.cons (hq.up GL.le) .nil)) J ?_);rintro _ G3 _ hv
  cases aO.1 hv
  refine sy (uO J) J<|zE<|td J<|zK<|?_;exact Gi ⟨ts,vs,Value.pointer q::rest,b,cap,lo,step s1 (.leaf bb),B2⟩ ⟨hrel1,by simp only[aN];omega,V.up GL.le hinv2,by simp only;unfold tH;omega,hokq.2,hfin⟩ (by simp only[bX,tY,bY,iQ,tV,List.sum_nil];unfold tH;omega) (.cons J (.cons J .nil)) J
 |node l x y=>
  obtain⟨nbk,m,e,hg,hm⟩:=mO.1 (id hq)
  cases e
  obtain⟨n1,d1,p1,n2,d2,p2,n3,d3,p3,q1,q2,rfl,_,hx,hy⟩:=R3 hm;have hgg:uW G nbk _:=⟨hg⟩;refine sc (zC J J (PF.fn0 pc (.cons (hq.up GL.le) .nil)) J ?_);rintro _ G3 _ hv
  cases aO.1 hv
  refine sy (uO J) J<|zE<|vq J<|?_;refine vL [] (fun _=>false) [(0,true),(1,true),(2,true),(3,true),(4,true),(5,true),(6,true),(7,true),(8,true),(9,false),(10,false),(11,true)] follows v6<|dM J J J<|?_;refine dM J J J<|dy J (fun _=>o9 J) J J<|dF J J J<|dy J (fun _=>te J wT J) J J<|?_;refine dM J J J<|dy J (fun _=>o9 J) J J<|dF J J J<|dy J (fun _=>te J wT J) J J<|?_;refine dc J J (Nt okA okA okA okA J ?_);intro b3;refine ng<|?_;refine dc J J (IB (m:=2) (xs:=vs) (ys:=[Value.pointer q2,Value.pointer q1]) (rest:=Value.pointer (some ⟨nbk,0,none⟩)::rest) J J (.tl _ _ _ _ (.hd ..)) m5 okl m5 (z' inferInstance J) J (by simp[Sx.flat]) pb m5 okA J ?_);intro b4 lo4 cap4 rest4 h1 h2;refine ng<|dA J J J<|dn<|?_;have hsz:(Tr.node l x y).size=1+x.size+y.size:=J;refine Qj (⟨b4,vs++[Value.pointer q2,Value.pointer q1]++rest4,143,lo4⟩::B2) (.cons_cons _ (nS _ _)) ?_;have hs2:r4 (ts++[y,x])=x.pre++y.pre++r4 ts:=by simp[r4]
  refine Gi ⟨ts++[y,x],vs++[Value.pointer q2,Value.pointer q1],rest4,b4,cap4,lo4,step s1 (.node l x y),B2⟩ ⟨hrel1.app (.cons ⟨_,J,hy⟩ (.cons ⟨_,J,hx⟩ .nil)),by simp only[aU,aN,eK];omega,V.up GL.le hinv2,?_,?_,?_⟩ ?_ (.cons (by show some (Value.slice _ (vs.length+2) _)=some (Value.slice _ (vs++[_,_]).length _);rw[aU];rfl) (.cons J .nil)) J
  .simp only[bX,tY,bY,iQ,tV,List.sum_nil];unfold tH;omega
  .simp only;rw[hs2];exact hokq.2
  .simp only;rw[hs2];exact hfin
  .simp only[bX,tY,bY,iQ,tV,List.sum_nil];unfold tH;omega
def ax1{own:List aA}{Φ:Act->World->Prop}{dst:Option Nat}{ty':TypeId}{pos:String}{af:Array Edge}{gd:Option (Nat×Bool)}{fo:Operand}{args:Array Operand}{tys:Array TypeId}{vs:List Value}{M rest:List aA}(ho:aE fr fo=some (.func (.func f) #[] #[]))(hv:gk fr args.toList=some vs)
  (hp:own.Perm (M++rest))(hF:iO P f vs M G K)(hd:cv n dst=true)
  (h: ∀v own1 (G':Gh) (fl:Nat->Bool),[GE G G']->(∀m∈M,m.lo=false->fl m.b=false)->((∀m∈M,m.lo=true)-> ∀b,fl b=true)->K v own1 G'->St C n (put fr dst v) (own1.map (relo fl)++rest) G' Φ):
  Ch P C n fr own G ⟨dst, .call ⟨.value fo,args,tys⟩,ty',pos,af,gd⟩ Φ:=
 AY (c1:=[]) (c2:=[]) ho hv hp ozh hd h
def szI(nbk:Nat)(s:Nat)(B:List aA)(_:Gh):Prop:= ∃lo,B=[⟨nbk,[.int .i64 s],3,lo⟩]
def uP(s:Nat):Tr->Nat
 | .leaf _=>s
 | .node .. =>s+1
def Xb(nbk:Nat):QU 272 [.pointer (some ⟨nbk,0,none⟩)] Nat uP (fun s _=>s<1000000000000) (szI nbk) where
 up:=fun _ h=>h
 re:=fun{s B G} fl h=>by obtain⟨lo,rfl⟩:=h;exact⟨_,rfl⟩
 go:=by
  intro s t p B G hs hI ht;obtain⟨lo,rfl⟩:=hI;refine iO.intro func272 J J ntmps272 J ?_;intro C _ _;show St C _ _ [⟨nbk,_,_,false⟩] _ _
  cases t with
  |node l x y=>
   refine sR<|sm J J<|?_;refine sc (zC J J (PF.fn0 pc (.cons ht .nil)) J ?_);rintro _ G1 _ hv
   cases aO.1 hv
   refine sy (uO J) J<|zE<|vq J<|EC<|oO J J J<|sy (xp J J) J<|?_;refine sc (y4 J J J (.hd ..) (nb J) J J ?_);refine zE<|?_;exact F0 .nil _ _ (List.Perm.refl _) (List.Sublist.refl _) ⟨false,by show [_]=[_];rfl⟩
  |leaf b=>
   refine sR<|sm J J<|?_;refine sc (zC J J (PF.fn0 pq (.cons ht .nil)) J ?_);rintro _ G1 _ hv
   cases aO.1 hv
   refine sy (uO J) J<|zE<|td J<|zK<|?_;exact F0 .nil _ _ (List.Perm.refl _) (List.Sublist.refl _) ⟨false,J⟩
def HJ: ∀(t:Tr) (s:Nat),t.pre.foldl uP s=s+t.size
 | .leaf _,s=>rfl
 | .node l x y,s=>by
  simp only[Tr.pre,jN,oM,uP,HJ x,HJ y,Tr.size];omega
def H2: ∀(t:Tr) (s:Nat) (L:List Tr),s+t.size<1000000000000->(∀s',s'=s+t.size->yj uP (fun s _=>s<1000000000000) s' L)->yj uP (fun s _=>s<1000000000000) s (t.pre++L)
 | .leaf _,s,L,h,k=>⟨by simp only[Tr.size] at h;omega,k _ J⟩
 | .node l x y,s,L,h,k=>by
  simp only[Tr.size] at h k;simp only[Tr.pre,iV,dK];exact⟨m5,H2 x _ _ (by simp only[uP];omega) fun s1 e1=>H2 y _ _ (by subst e1;simp only[uP];omega) fun s2 e2=>k _ (by subst e1 e2;simp only[uP];omega)⟩
def aKr(hs:t.size<1000000000000):PF GB prog 213 [eU t] (vI (t.size:Nat)):=by
 intro G vs _ hv;obtain⟨v0,m,rfl,h,hm⟩:=bj.1 hv;rw[fj] at hm;subst hm;obtain⟨p,rfl⟩:=xu h;refine Fn.intro func213 J J ntmps213 J ?_;intro C _ _;refine sR<|sa J J<|zE<|sR<|?_;refine sc (wz J ?_);intro b1;refine sc (y4 J J J (.hd ..) (nb J) J J ?_);refine zE<|sR<|sm J J<|sy (K4 J J) J<|?_;have hok:yj uP (fun s _=>s<1000000000000) 0 t.pre:=by
  have:=H2 t 0 [] m5 (fun _ _=>trivial);rwa [fT] at this
 refine sc (ax1 (M:=[⟨b1,[.int .i64 0],3,true⟩]) (rest:=[]) J J (List.Perm.refl _) (aH9 (Xb b1) h ⟨true,J⟩ hok m5) J ?_);rintro _ B G2 fl _ _ _ ⟨lo,rfl⟩;rw[HJ,eM];show St C _ _ [⟨b1,[.int .i64 t.size],3,_⟩] _ _;refine zE<|sR<|oO J J J<|sa J J<|zE<|ml<|?_;exact zD (.tmp J .nil) (aO.2 J)

end Go.Sx
end
section
namespace Go.Sx
open Go Go.Proofs Go.RowKit Go.Extern.Stop Go.Stop Go.Extern
def Nb(a:Addr):DV:= .v (.iface 441 (.pointer (some a)))
end Go.Sx
end
section
namespace Go.Sx
open Go Go.Proofs Tryz
variable {GB:Gh}{own' own1:aI}{g nm0 nm k ty a i:Nat}{f:FX}{Φ:Act->World->Prop}{K:List Kt}{c:ar}{ty0:TypeId}{op side m' n':Int}{b t u:Tr}{ai al ae:Addr}{L M:List ah}{p q:aa}{m:ah}{es:List Int}
section
variable {C:aG}{n:Nat}{Q0:Exit->Act->World->Prop}{fr fr':aD}{own:aI}{cf cf':Cf}{vc:List Prop}
def Pm(fr:aD)(cf:Cf):Option Nat:=match de fr cf with
 |some ⟨_, .load t (.global g),_,_,_,_⟩=>(match d9 tt t with
  |some i=>match i.ag with
   |some none=>some g
   |_=>none
  |none=>none)
 |_=>none
def gl[fu:Fu]{v:Value}(h:Pm fr cf=some g)(hg:GB g=some [v])(hgo:cF tt n fu.n fr own cf (.d (.v v)) [] []=⟨vc,fr',own',cf'⟩)(k:av prog GB C n Q0 fr' own' cf')
  (hv:autoParam (ak vc) cL._auto_1):av prog GB C n Q0 fr own cf:=by
 unfold Pm at h;split at h<;>try (cases h;done)
 rename_i hh;split at h<;>try (cases h;done)
 rename_i i hT;split at h<;>cases h;rename_i ha;haveI:=xt (fe _ _ hT) ha;refine us (f:= .d (.v v)) hh (cg.yd fun ρ G ov a w r=>⟨v,(aO (G:=G)).2 J,?_⟩) hgo hv k;haveI:uW G g [v]:=⟨r.gb _ _ hg⟩;exact te (b:=g) (off:=0) J wT J
def Rx{d:Nat}{x:DV}(hl:bi fr d=some f)(e:kr f=some x)(h:SX GB C n (bi ((d, .d x)::fr)) (bA own) Φ):SX GB C n (bi fr) (bA own) Φ:=qD (g:= .d x) hl (fun _ _ _ k=>nO k e) h
def SG(d:Nat)(x:DV){e:Exit}(hl:bi fr d=some f)(e1:kr f=some x)(k:av prog GB C n Q0 ((d, .d x)::fr) own (.ex e K)):av prog GB C n Q0 fr own (.ex e K):=Rx hl e1 k
def Kw(d:Nat)(x:DV){c:Code}(hl:bi fr d=some f)(e1:kr f=some x)(k:av prog GB C n Q0 ((d, .d x)::fr) own (.code c K)):av prog GB C n Q0 fr own (.code c K):=Rx hl e1 k
def ZN{B1 B2:Option Bk}:bA (pi (pi own nm0 B1) nm B2)=upB (upB (bA own) [(nm0,B1)]) [(nm,B2)]:=by
 funext j;rw[Au];simp only[upB];rw[Au]
def ZS(hnm:Nat.blt nm 2000000=true){cs:List FX}{lo:Bool}(hb:bA own nm0=some (.o ty0 cs lo))(hk:cs[k]? =some .nl)(hne:nm0≠nm){s:Nat}(hf:kH [nm] none (bi fr) (bA own))
  (h:SX GB C n (bi fr) (bA (pi (pi own nm0 (some (.o ty0 (cs.set k (.rw nm)) lo))) nm (some (.b ty s [] true)))) Φ):SX GB C n (bi fr) (bA own) Φ:=by
 refine⟨fun ρ G ov a w r=>?_⟩;obtain⟨f1,f2⟩:=hf nm aQ;rw[ZN] at h;refine h.run (fun k=>if k=nm then⟨none,0,0⟩ else ρ k) G ov a w ⟨r.gb,r.h,r.sz,r.df,fun k f e=>?_,fun m B e=>?_,fun m m' B B' e e' hne=>?_,fun m p h1 h2 e=>by
  have:nm<2000000:=by simpa[lY] using hnm
  show(if m=nm then(⟨none,0,0⟩:SV) else ρ m).a=_;rw[if_neg m5];exact r.fxd m p h1 h2 e⟩
 .obtain⟨v,h1,h2⟩:=r.fx k f e
  exact⟨v,h1,h2.ren fun m hm=>wA _ fun hc=>f1 k f vb e (by rw[hm,hc])⟩
 .simp only[upB] at e
  by_cases hm:m=nm
  .subst hm;simp only[if_true] at e;cases e
   exact⟨[],⟨[],by simp only[if_true];exact .inl ⟨J,J,J⟩, .nil,vb,fun _ o ho=>by cases ho⟩,fun o ho=>by cases ho⟩
  .simp only[hm,if_false] at e
   by_cases hm0:m=nm0
   .subst hm0;simp only[if_true] at e;cases e
    obtain⟨os,h1,h2⟩:=r.bx m _ hb;have h1':l8 (fun k=>if k=nm then⟨none,0,0⟩ else ρ k) G m (.o ty0 cs lo) os:=h1.ren (if_neg hm) fun q hq=>wA _ fun hc=>f2 m _ hm hb okQ;obtain⟨b,ms,k1,k2,k3⟩:=h1';refine⟨os,⟨b,ms,k1,k2,?_⟩,h2⟩;obtain⟨y,e1,e2⟩:=k3.get hk;have:=k3.set (f:= .rw nm) (y:=y) k (by show y=_;simp only[if_true];exact e2);rwa [show ms.set k y=ms by apply kL;intro j;rw[qW];split<;>(try rfl);rename_i hj;subst hj;split<;>simp_all] at this
   .simp only[hm0,if_false] at e
    obtain⟨os,h1,h2⟩:=r.bx m B e;exact⟨os,h1.ren (if_neg hm) fun q hq=>wA _ fun hc=>f2 m B hm e okQ,h2⟩
 .intro b hbb hb'
  have key: ∀q B,upB (upB (bA own) [(nm0,some (.o ty0 (cs.set k (.rw nm)) lo))]) [(nm,some (.b ty s [] true))] q=some B->q≠nm-> ∃B0,bA own q=some B0:=fun q B eq hq=>by
   simp only[upB,hq,if_false] at eq;by_cases hq0:q=nm0
   .subst hq0;exact⟨_,hb⟩
   .simp only[hq0,if_false] at eq;exact⟨_,eq⟩
  by_cases hm:m=nm
  .simp[hm] at hbb
  .by_cases hm':m'=nm
   .simp[hm'] at hb'
   .obtain⟨B0,g0⟩:=key m B e hm
    obtain⟨B1,g1⟩:=key m' B' e' hm';simp only[hm,hm',if_false] at hbb hb';exact r.dj m m' B0 B1 g0 g1 hne b hbb hb'
def HF(nm0 k nm ty s:Nat){cs:List FX}{lo:Bool}{c:Code}(hb:bA own nm0=some (.o ty0 cs lo))(hk:cs[k]? =some .nl)(hf:wB [nm] none fr own=true)(hne:Nat.beq nm0 nm=false)
  (ho:pi (pi own nm0 (some (.o ty0 (cs.set k (.rw nm)) lo))) nm (some (.b ty s [] true))=own1)(h:av prog GB C n Q0 fr own1 (.code c K))(hnm:Nat.blt nm 2000000=true:=by rfl):av prog GB C n Q0 fr own (.code c K):=by
 subst ho;exact ZS hnm hb hk (fun e=>by subst e;rw[oL] at hne;cases hne) (BK hf) h
def Oc{ρ:NE}{G:Gh}: ∀{a b:List FX} {m:List Value},d6 ρ G (a++b) m-> ∃m1 m2,m=m1++m2/\d6 ρ G a m1/\d6 ρ G b m2
 |[],b,m,h=>⟨[],m,J,J,h⟩
 |f::t,b,m,⟨y,n,e,h1,h2⟩=>by
  obtain⟨m1,m2,rfl,k1,k2⟩:=Oc h2;exact⟨y::m1,m2,e,⟨y,m1,J,h1,k1⟩,k2⟩
end
structure EG (GB:Gh) (ai al ae:Addr):Prop where
 ErrInvalid:GB 1=some [.iface 441 (.pointer (some ai))]
 ErrLimit:GB 2=some [.iface 441 (.pointer (some al))]
structure Tr.gd (t:Tr):Prop where
 lb:t.all LB
 ok:t.all ah.ok
def Tr.restrict_size: ∀(t:Tr) (c:ar),(t.restrict c).size<=t.size
 | .leaf _,_=>bW _
 | .node l x y,c=>by
  rw[Tr.restrict];have hx:=fun c=>x.restrict_size c;have hy:=fun c=>y.restrict_size c;split
  .have:=hx c;simp only[Tr.size];omega
  .split
   .have:=hy c;simp only[Tr.size];omega
   .have h1:=hx (bH c l)
    have h2:=hy (bH c l.rev);rcases Tr.joinQ_cases l (x.restrict (bH c l)) (y.restrict (bH c l.rev)) with⟨h,_⟩|⟨h,_⟩<;>rw[h]<;>(try simp only[Tr.size])<;>omega
def Tr.compl_size: ∀t:Tr,t.compl.size=t.size
 | .leaf _=>rfl
 | .node l x y=>by simp only[Tr.compl,Tr.size,x.compl_size,y.compl_size]
def Tr.compl_all(p:ah->Prop): ∀t:Tr,t.all p->t.compl.all p
 | .leaf _,h=>h
 | .node l x y,⟨h0,h1,h2⟩=>⟨h0,x.compl_all p h1,y.compl_all p h2⟩
def Tr.chooseQ_all(p:ah->Prop)(op:Int)(b:Bool)(t:Tr)(c:ar)(h:t.all p):(t.chooseQ op b c).all p:=by
 have:=t.restrict_all p c h;unfold chooseQ;split
 .split
  .trivial
  .exact this
 .split
  .trivial
  .split
   .exact(t.restrict c).compl_all p this
   .exact this
def Tr.chooseQ_size(op:Int)(b:Bool)(t:Tr)(c:ar):(t.chooseQ op b c).size<=t.size:=by
 have:=t.restrict_size c;unfold chooseQ;split
 .split
  .exact bK _
  .exact this
 .split
  .exact bK _
  .split
   .rw[(t.restrict c).compl_size];exact this
   .exact this
def Tr.mergeQ_all(p:ah->Prop)(op:Int){u:Tr}(hu:u.all p): ∀(t:Tr) (c:ar),t.all p->(t.mergeQ op u c).all p
 | .leaf b,c,_=>u.chooseQ_all p op b c hu
 | .node l x y,c,⟨h0,h1,h2⟩=>by
  rw[Tr.mergeQ];split
  .exact Tr.mergeQ_all p op hu x c h1
  .split
   .exact Tr.mergeQ_all p op hu y c h2
   .rcases Tr.joinQ_cases l (x.mergeQ op u (bH c l)) (y.mergeQ op u (bH c l.rev)) with⟨h,_⟩|⟨h,_⟩
    .rw[h];exact Tr.mergeQ_all p op hu x _ h1
    .rw[h];exact⟨h0,Tr.mergeQ_all p op hu x _ h1,Tr.mergeQ_all p op hu y _ h2⟩
def Tr.mergeQ_size(op:Int)(u:Tr): ∀(t:Tr) (c:ar),(t.mergeQ op u c).size+1<=(t.size+1)*(u.size+1)
 | .leaf b,c=>by
  have:=u.chooseQ_size op b c;show(u.chooseQ op b c).size+1<=(0+1)*(u.size+1);omega
 | .node l x y,c=>by
  have hx:=fun c=>Tr.mergeQ_size op u x c;have hy:=fun c=>Tr.mergeQ_size op u y c;have e:((Tr.node l x y).size+1)*(u.size+1)=(x.size+1)*(u.size+1)+(y.size+1)*(u.size+1):=by
   rw[<-dV];congr 1;simp only[Tr.size];omega
  rw[e,Tr.mergeQ];split
  .have:=hx c;omega
  .split
   .have:=hy c;omega
   .have h1:=hx (bH c l)
    have h2:=hy (bH c l.rev);rcases Tr.joinQ_cases l (x.mergeQ op u (bH c l)) (y.mergeQ op u (bH c l.rev)) with⟨h,_⟩|⟨h,_⟩<;>rw[h]<;>(try simp only[Tr.size])<;>omega
def Tr.depth_size: ∀t:Tr,t.depth<=t.size
 | .leaf _=>bW _
 | .node l x y=>by
  have h1:=x.depth_size;have h2:=y.depth_size;simp only[Tr.depth,Tr.size];omega
def oG(op:Int)(a b:Tr):Option Tr:=if 1024<a.depth+b.depth then none else if 65536<(a.mergeQ op b []).size then none else some (a.mergeQ op b [])
def R7(al:Addr):Option Tr->DV
 |some t=> .tp [eU t, .v .nilIface]
 |none=> .tp [.v (.pointer none),Nb al]
def aEl{a:Tr}(ha:a.gd)(hb:b.gd)(h:oG op a b=some t):t.gd/\t.size<=65536:=by
 unfold oG at h;split at h
 .cases h
 .split at h
  .cases h
  .cases h
   exact⟨⟨Tr.mergeQ_all LB op hb.lb a [] ha.lb,Tr.mergeQ_all ah.ok op hb.ok a [] ha.ok⟩,m5⟩
def Qq(hE:EG GB ai al ae){a:Tr}(ha:a.gd)(hb:b.gd)(hsa:a.size<=65536)(hsb:b.size<=65536):PF GB prog 138 [vI op,eU a,eU b] (R7 al (oG op a b)):=by
 have hda:=a.depth_size;have hdb:=b.depth_size;have hms:=Tr.mergeQ_size op b a [];have hmm:(a.size+1)*(b.size+1)<=65537*65537:=iS m5 m5;refine fn func138 J J ntmps138 J J (fun C=>?_);refine cl J (z6 (t:=a) m5) J<|cl J (z6 (t:=b) m5) J<|br J J J (fun hc14=>?_) (fun hc14=>?_)
 .
  refine gl J hE.ErrLimit J<|rz J (by unfold oG;rw[if_pos m5];rfl)
 .
  refine cl J (IU (op:=op) (t:=a) (u:=b) (c:=[]) hb.lb hb.ok ha.lb ha.ok (fun s h=>by cases h) (by simp only[eK];omega)) J<|cl J (aKr (t:=a.mergeQ op b []) m5) J<|br J J J (fun hc22=>?_) (fun hc22=>?_)
  .
   refine gl J hE.ErrLimit J<|rz J (by unfold oG;rw[if_neg m5,if_pos m5];rfl)
  .
   exact rz J (by unfold oG;rw[if_neg m5,if_neg m5];rfl)
def W4(hE:EG GB ai al ae){a:Tr}(ha:a.gd)(hb:b.gd)(hsa:a.size<=65536)(hsb:b.size<=65536)(h:oG op a b=some t):PF GB prog 138 [vI op,eU a,eU b] (.tp [eU t, .v .nilIface]):=by
 have:=Qq hE (op:=op) ha hb hsa hsb;rw[h] at this;exact this
def YO(hE:EG GB ai al ae){a:Tr}(ha:a.gd)(hb:b.gd)(hsa:a.size<=65536)(hsb:b.size<=65536)(h:oG op a b=none):PF GB prog 138 [vI op,eU a,eU b] (.tp [.v (.pointer none),Nb al]):=by
 have:=Qq hE (op:=op) ha hb hsa hsb;rw[h] at this;exact this
def qA(op:Int):Tr->List Tr->Option Tr
 |t,[]=>some t
 |t,u::us=>match oG op t u with
  |none=>none
  |some r=>qA op r us
def M5{us:List Tr}(h:us[k]? =some u):qA op t (us.drop k)=match oG op t u with|none=>none|some r=>qA op r (us.drop (k+1)):=by
 rw[Dn h];rfl
def QF(h:t.gd)(c:ar):(t.restrict c).gd:=⟨t.restrict_all LB c h.lb,t.restrict_all ah.ok c h.ok⟩
def aIT(hE:EG GB ai al ae){a:Tr}{us:List Tr}(ha:a.gd)(hsa:a.size<=65536)(hus: ∀u∈us,u.gd/\u.size<=65536)(hn:us.length<=1000000):PF GB prog 148 [vI op,eU a, .sl (us.map eU)] (R7 al (if 1024<a.depth then none else qA op (a.restrict []) us)):=by
 have hda:=a.depth_size;have hm:=vj eU us;have hrs:=a.restrict_size [];have hrg:=QF ha [];refine fn func148 J J ntmps148 J J (fun C=>?_);refine cl J (z6 (t:=a) m5) J<|br J J J (fun hc14=>?_) (fun hc14=>?_)
 .
  refine gl J hE.ErrLimit J<|rz J (by rw[if_pos m5];rfl)
 .
  refine cl (fu:=⟨8⟩) J (Ug (t:=a) ha.lb ha.ok) J<|aj 19 (.d (vI (us.length:Nat))) J oml<|gx J<|lp (X:=Tr×Nat) (fun⟨t,k⟩=>[(20, .d (vI (k:Nat))),(8, .d (eU t))]) (fun⟨t,k⟩=>[]) (fun⟨t,k⟩=>k<=us.length/\t.gd/\t.size<=65536/\qA op t (us.drop k)=qA op (a.restrict []) us) (fun⟨t,k⟩=>us.length-k) (a.restrict [],0) J ⟨bK _,hrg,m5,J⟩ (fun _=>J) (fun⟨t,k⟩ hk=>?_);dsimp only at hk⊢;obtain⟨h1,h2,h3,h4⟩:=hk;refine br J J J (fun hc21=>?_) (fun hc21=>?_)
  .
   obtain⟨u,hu0⟩: ∃s,us[k]? =some s:=⟨_,aZ m5⟩;have hu:=hus u (aW hu0);refine ix _ J (cO hu0) J<|?_;rcases hr:oG op t u with _|r
   .
    refine cl J (YO hE h2 hu.1 h3 hu.2 hr) J<|rz J (by rw[if_neg m5,<-h4,M5 hu0,hr];rfl)
   .
    have hrr:=aEl h2 hu.1 hr;refine cl J (W4 hE h2 hu.1 h3 hu.2 hr) J<|at_ (r,k+1) (by dsimp only;exact⟨⟨m5,hrr.1,hrr.2,by rw[<-h4,M5 hu0,hr]⟩,m5⟩)
  .
   exact rz J (by rw[if_neg m5,<-h4,iL m5];rfl)
abbrev EN:=Int×List RN
def EN.d(x:EN):DV:=Z' x.1 x.2
def aJl: ∀(us:List Tr),dm 1 (us.map eU):=fun us d hd=>by
 obtain⟨u,_,rfl⟩:=aT.1 hd;exact⟨rfl,rfl⟩
structure EN.ok (x:EN):Prop where
 s: ∀n∈x.2,n.g.sm
 n:x.2.length<=65536
def aE9(hE:EG GB ai al ae){a:Tr}{us:List Tr}(ha:a.gd)(hsa:a.size<=65536)(hus: ∀u∈us,u.gd/\u.size<=65536)(hn:us.length<=1000000)(h:(if 1024<a.depth then none else qA op (a.restrict []) us)=some t):PF GB prog 148 [vI op,eU a, .sl (us.map eU)] (.tp [eU t, .v .nilIface]):=by
 have:=aIT hE (op:=op) ha hsa hus hn;rw[h] at this;exact this
def Tr.val:Tr->aa->Bool
 | .leaf b,_=>b
 | .node l x y,p=>if 0<l.value p then x.val p else y.val p
def Tr.lns:Tr->List ah
 | .leaf _=>[]
 | .node l x y=>l::(x.lns++y.lns)
def mH{P:ah->Prop}: ∀{t:Tr},t.all P↔ ∀l∈t.lns,P l
 | .leaf _=>⟨fun _ l hl=>(by cases hl),fun _=>trivial⟩
 | .node l x y=>by
  show(P l/\x.all P/\y.all P)↔ ∀m∈l::(x.lns++y.lns),P m;rw[mH (t:=x),mH (t:=y)];constructor
  .rintro ⟨h0,h1,h2⟩ m hm
   rcases aV.1 hm with rfl|hm
   .exact h0
   .rcases aL.1 hm with hm|hm
    .exact h1 m hm
    .exact h2 m hm
  .intro h
   exact⟨h l aQ,fun m hm=>h m (aJ _ (bJ _ hm)),fun m hm=>h m (aJ _ (aM _ hm))⟩
def jB(h:t.all ah.ok): ∀l∈t.lns,l.ok:=mH.1 h
def cB(L:List ah)(p:aa):Prop:= ∀l∈L,l.value p≠0
def cB.sub(h:cB L p)(k: ∀l∈M,l∈L):cB M p:=fun l hl=>h l (k l hl)
def cB.l{l:ah}{x y:Tr}{p:aa}(h:cB (Tr.node l x y).lns p):l.value p≠0:=h l aQ
def cB.x{l:ah}{x y:Tr}{p:aa}(h:cB (Tr.node l x y).lns p):cB x.lns p:=h.sub fun m hm=>aJ _ (bJ _ hm)
def cB.y{l:ah}{x y:Tr}{p:aa}(h:cB (Tr.node l x y).lns p):cB y.lns p:=h.sub fun m hm=>aJ _ (aM _ hm)
def cB.app:cB (L++M) p↔cB L p/\cB M p:=by
 unfold cB;constructor
 .intro h;exact⟨fun l hl=>h l (bJ _ hl),fun l hl=>h l (aM _ hl)⟩
 .rintro ⟨h1,h2⟩ l hl;rcases aL.1 hl with h|h;exact h1 l h;exact h2 l h
def tc(op:Int)(a b:Bool):Bool:=if op=1 then a||b else if op=2 then a&&b else if op=3 then a&&!b else a !=b
def Tr.val_join(l:ah)(X Y:Tr)(p:aa):(Tr.joinQ l X Y).val p=(Tr.node l X Y).val p:=by
 unfold Tr.joinQ;split
 .rename_i h
  cases X<;>cases Y<;>simp[Tr.isLeaf,Tr.code] at h
  subst h;simp[Tr.val]
 .rfl
def Tr.val_pos{l:ah}{x y:Tr}(h:0<l.value p):(Tr.node l x y).val p=x.val p:=by rw[Tr.val,if_pos h]
def Tr.val_neg{l:ah}{x y:Tr}(h: ¬0<l.value p):(Tr.node l x y).val p=y.val p:=by rw[Tr.val,if_neg h]
def Tr.val_compl: ∀(t:Tr) (p:aa),t.compl.val p=!t.val p
 | .leaf b,p=>rfl
 | .node l x y,p=>by
  rw[Tr.compl];by_cases h:0<l.value p
  .rw[Tr.val_pos h,Tr.val_pos h,x.val_compl]
  .rw[Tr.val_neg h,Tr.val_neg h,y.val_compl]
def Nf{l:ah}(hc:bG c)(hl:l.ok)(hb:cH c l.rev=false)(hp:bw c p)(h0:l.value p≠0):0<l.value p:=by
 by_cases h:0<l.value p
 .exact h
 .exfalso
  have:cH c l.rev=true:=(pO hc hl.rev).2 ⟨p,hp,by rw[fh];grind⟩;rw[hb] at this;cases this
def Ox{l:ah}(hc:bG c)(hl:l.ok)(hb:cH c l=false)(hp:bw c p): ¬0<l.value p:=fun h=>by
 have:cH c l=true:=(pO hc hl).2 ⟨p,hp,h⟩;rw[hb] at this;cases this
def Tr.val_restrict: ∀(t:Tr) (c:ar) (p:aa),t.all ah.ok->bG c->bw c p->cB t.lns p->(t.restrict c).val p=t.val p
 | .leaf _,_,_,_,_,_,_=>rfl
 | .node l x y,c,p,⟨hl,hx,hy⟩,hc,hp,ho=>by
  cases hb:cH c l.rev with
  |false=>rw[Tr.restrict_A _ _ hb,x.val_restrict c p hx hc hp ho.x,Tr.val_pos (Nf hc hl hb hp ho.l)]
  |true=>
   cases hb2:cH c l with
   |false=>rw[Tr.restrict_B _ _ hb hb2,y.val_restrict c p hy hc hp ho.y,Tr.val_neg (Ox hc hl hb2 hp)]
   |true=>
    rw[Tr.restrict_C _ _ hb hb2,Tr.val_join];obtain⟨g1,i1⟩:=ir hc hl hb2;obtain⟨g2,i2⟩:=ir hc hl.rev hb;by_cases h:0<l.value p
    .rw[Tr.val_pos h,Tr.val_pos h,x.val_restrict _ p hx g1 ((i1 p).2 ⟨hp,h⟩) ho.x]
    .rw[Tr.val_neg h,Tr.val_neg h,y.val_restrict _ p hy g2 ((i2 p).2 ⟨hp,by rw[fh];have:=ho.l;grind⟩) ho.y]
def Tr.val_choose(op:Int)(b:Bool)(t:Tr)(c:ar)(p:aa)(ht:t.all ah.ok)(hc:bG c)(hp:bw c p)(ho:cB t.lns p):(t.chooseQ op b c).val p=tc op b (t.val p):=by
 have hr:=t.val_restrict c p ht hc hp ho;unfold Tr.chooseQ tc;by_cases h1:op=1
 .subst h1;cases b<;>simp[hr,Tr.val]
 .by_cases h2:op=2
  .subst h2;cases b<;>simp[hr,Tr.val]
  .by_cases h3:op=3
   .subst h3;cases b<;>simp[hr,Tr.val,Tr.val_compl]
   .cases b<;>simp[h1,h2,h3,hr,Tr.val_compl]
def Tr.val_merge(op:Int)(u:Tr)(hu:u.all ah.ok): ∀(t:Tr) (c:ar) (p:aa),t.all ah.ok->bG c->bw c p->cB t.lns p->cB u.lns p->(t.mergeQ op u c).val p=tc op (t.val p) (u.val p)
 | .leaf b,c,p,_,hc,hp,_,ho=>u.val_choose op b c p hu hc hp ho
 | .node l x y,c,p,⟨hl,hx,hy⟩,hc,hp,ho,hou=>by
  rw[Tr.mergeQ]
  cases hb:cH c l.rev with
  |false=>
   rw[if_pos (show(!false)=true from J),Tr.val_merge op u hu x c p hx hc hp ho.x hou,Tr.val_pos (Nf hc hl hb hp ho.l)]
  |true=>
   rw[if_neg pb]
   cases hb2:cH c l with
   |false=>rw[if_pos (show(!false)=true from J),Tr.val_merge op u hu y c p hy hc hp ho.y hou,Tr.val_neg (Ox hc hl hb2 hp)]
   |true=>
    rw[if_neg pb,Tr.val_join];obtain⟨g1,i1⟩:=ir hc hl hb2;obtain⟨g2,i2⟩:=ir hc hl.rev hb;by_cases h:0<l.value p
    .rw[Tr.val_pos h,Tr.val_pos h,Tr.val_merge op u hu x _ p hx g1 ((i1 p).2 ⟨hp,h⟩) ho.x hou]
    .rw[Tr.val_neg h,Tr.val_neg h,Tr.val_merge op u hu y _ p hy g2 ((i2 p).2 ⟨hp,by rw[fh];have:=ho.l;grind⟩) ho.y hou]
def Ve: ∀(L:List ah) (u:aa) (p:aa),cB L p-> ∃e:Rat,0<e/\ ∀d,0<=d->d<=e->cB L (cd p u d)
 |[],u,p,_=>⟨1,pb,fun d _ _ l hl=>by cases hl⟩
 |l::L,u,p,h=>by
  obtain⟨e,he,hm⟩:=Ve L u p (h.sub fun m hm=>aJ _ hm);have h0:=h l aQ;have key: ∃f:Rat,0<f/\ ∀d,0<=d->d<=f->l.value (cd p u d)≠0:=by
   by_cases hk:l.nor.dot u=0
   .exact⟨1,pb,fun d _ _=>by rw[iC,hk];grind⟩
   .generalize hA:l.value p=A at*
    generalize hB:l.nor.dot u=B at*;rcases fG A with h|h|h
    .exact absurd h h0
    .rcases fG B with k|k|k
     .exact absurd k hk
     .exact⟨1,pb,fun d hd _=>by rw[iC,hA,hB];have:=cC hd (cR k);grind⟩
     .refine⟨A/(-B)/2,?_,fun d hd h2=>?_⟩
      .have:0<A/(-B):=by
        have e1:A/(-B)*(-B)=A:=by grind
        exact(fB (k:= -B) va).1 (by rw[e1];exact h)
       grind
      .rw[iC,hA,hB]
       have e1:A/(-B)*(-B)=A:=by grind
       generalize A/(-B)=q at*;have h4:=cC (a:=q/2-d) (b:= -B) va va;grind
    .rcases fG B with k|k|k
     .exact absurd k hk
     .refine⟨(-A)/B/2,?_,fun d hd h2=>?_⟩
      .have:0<(-A)/B:=by
        have e1:(-A)/B*B= -A:=by grind
        exact(fB (k:=B) k).1 (by rw[e1];grind)
       grind
      .rw[iC,hA,hB]
       have e1:(-A)/B*B= -A:=by grind
       generalize (-A)/B=q at*;have h4:=cC (a:=q/2-d) (b:=B) va va;grind
     .exact⟨1,pb,fun d hd _=>by rw[iC,hA,hB];have:=cC hd (b:= -B) va;grind⟩
  obtain⟨f,hf,hk⟩:=key;refine⟨if e<=f then e else f,by split<;>assumption,fun d hd hde m hm'=>?_⟩;have h1:d<=e/\d<=f:=by split at hde<;>grind
  rcases aV.1 hm' with rfl|hm'
  .exact hk d hd h1.2
  .exact hm d hd h1.1 m hm'
theorem okL{p:Prop}(h:p:=by split<;>grind):p:=h
def Aa{c:ar}{p:aa}(hp:bw c p): ∀(L:List ah),(∀l∈L,l.ok)-> ∃q,bw c q/\cB L q
 |[],_=>⟨p,hp,fun l hl=>by cases hl⟩
 |l::L,h=>by
  obtain⟨q,hq,ho⟩:=Aa hp L fun m hm=>h m (aJ _ hm);by_cases h0:l.value q=0
  .have hn:=mG (h l aQ).ne
   obtain⟨e,he,hm⟩:=hq.open l.nor;obtain⟨f,hf,hk⟩:=Ve L l.nor q ho;refine⟨cd q l.nor (if e<=f then e else f),hm _ okL okL,fun m hm'=>?_⟩;rcases aV.1 hm' with rfl|hm'
   .rw[iC,h0]
    have:=bE (a:=if e<=f then e else f) (b:=m.nor.dot m.nor) (by split<;>assumption) hn;grind
   .exact hk _ okL okL m hm'
  .exact⟨q,hq,fun m hm=>by rcases aV.1 hm with rfl|hm;exact h0;exact ho m hm⟩
def aJ9(hc:bG c)(L:List ah)(h: ∀l∈L,l.ok): ∃q,bw c q/\cB L q:=by
 obtain⟨p,hp⟩:=hc.ne;exact Aa hp L h
def Tr.Red:Tr->ar->Prop
 | .leaf _,_=>True
 | .node l x y,c=>cH c l=true/\cH c l.rev=true/\x.Red (bH c l)/\y.Red (bH c l.rev)/\ ¬(x.isLeaf=true/\y.isLeaf=true/\x.code=y.code)
def Tr.red_leaf(h:t.isLeaf=true)(c:ar):t.Red c:=by
 cases t with
 |leaf b=>trivial
 |node l x y=>cases h
def Tr.join_red{l:ah}{x y:Tr}(h1:cH c l=true)(h2:cH c l.rev=true)(hx:x.Red (bH c l))(hy:y.Red (bH c l.rev)):(Tr.joinQ l x y).Red c:=by
 rcases Tr.joinQ_cases l x y with⟨e,h⟩|⟨e,h⟩
 .rw[e];exact Tr.red_leaf h c
 .rw[e];exact⟨h1,h2,hx,hy,h⟩
def Tr.restrict_red: ∀(t:Tr) (c:ar),(t.restrict c).Red c
 | .leaf _,_=>trivial
 | .node l x y,c=>by
  cases hb:cH c l.rev with
  |false=>rw[Tr.restrict_A _ _ hb];exact x.restrict_red c
  |true=>
   cases hb2:cH c l with
   |false=>rw[Tr.restrict_B _ _ hb hb2];exact y.restrict_red c
   |true=>rw[Tr.restrict_C _ _ hb hb2];exact Tr.join_red hb2 hb (x.restrict_red _) (y.restrict_red _)
def Tr.compl_leaf:t.compl.isLeaf=t.isLeaf:=by cases t<;>rfl
def Tr.compl_code(h:t.isLeaf=true):t.compl.code=!t.code:=by
 cases t with
 |leaf b=>rfl
 |node l x y=>cases h
def Tr.compl_red: ∀{t:Tr} {c:ar},t.Red c->t.compl.Red c
 | .leaf _,_,_=>trivial
 | .node l x y,c,⟨h1,h2,h3,h4,h5⟩=>by
  refine⟨h1,h2,Tr.compl_red h3,Tr.compl_red h4,fun⟨a,b,e⟩=>?_⟩;rw[Tr.compl_leaf] at a b;rw[Tr.compl_code a,Tr.compl_code b] at e;exact h5 ⟨a,b,by simpa using e⟩
def Tr.choose_red(op:Int)(b:Bool)(t:Tr)(c:ar):(t.chooseQ op b c).Red c:=by
 have h:=t.restrict_red c;unfold Tr.chooseQ;split
 .split
  .trivial
  .exact h
 .split
  .trivial
  .split
   .exact Tr.compl_red h
   .exact h
def Tr.merge_red(op:Int)(u:Tr): ∀(t:Tr) (c:ar),(t.mergeQ op u c).Red c
 | .leaf b,c=>u.choose_red op b c
 | .node l x y,c=>by
  rw[Tr.mergeQ]
  cases hb:cH c l.rev with
  |false=>rw[if_pos (show(!false)=true from J)];exact Tr.merge_red op u x c
  |true=>
   rw[if_neg pb]
   cases hb2:cH c l with
   |false=>rw[if_pos (show(!false)=true from J)];exact Tr.merge_red op u y c
   |true=>rw[if_neg pb];exact Tr.join_red hb2 hb (Tr.merge_red op u x _) (Tr.merge_red op u y _)
def Tr.red_const{L:List ah}(hL: ∀l∈L,l.ok){v:Bool}: ∀{t:Tr} {c:ar},t.Red c->t.all ah.ok->bG c->(∀p,bw c p->cB L p->t.val p=v)->t= .leaf v
 | .leaf b,c,_,_,hc,h=>by
  obtain⟨q,h1,h2⟩:=aJ9 hc L hL;have:=h q h1 h2;rw[Tr.val] at this;rw[this]
 | .node l x y,c,⟨h1,h2,h3,h4,h5⟩,⟨hl,hx,hy⟩,hc,h=>by
  obtain⟨g1,i1⟩:=ir hc hl h1;obtain⟨g2,i2⟩:=ir hc hl.rev h2;have ex:=Tr.red_const hL (v:=v) h3 hx g1 (fun p hp ho=>by
   have k:=(i1 p).1 hp;rw[<-h p k.1 ho,Tr.val_pos k.2])
  have ey:=Tr.red_const hL (v:=v) h4 hy g2 (fun p hp ho=>by
   have k:=(i2 p).1 hp;rw[fh] at k;rw[<-h p k.1 ho,Tr.val_neg (by have:=k.2;grind)])
  subst ex;subst ey;exact absurd ⟨J,J,J⟩ h5
def LP(p:aa):bw [] p:=fun s hs=>(by cases hs)
def Tr.merge_leaf{a:Tr}(ha:a.all ah.ok)(hb:b.all ah.ok)(hL: ∀l∈L,l.ok)(hLa: ∀l∈a.lns,l∈L)(hLb: ∀l∈b.lns,l∈L){v:Bool}:a.mergeQ op b []= .leaf v↔ ∀p,cB L p->tc op (a.val p) (b.val p)=v:=by
 constructor
 .intro h p hp
  rw[<-Tr.val_merge op b hb a [] p ha bG.nil (LP p) (hp.sub hLa) (hp.sub hLb),h];rfl
 .intro h
  refine Tr.red_const hL (Tr.merge_red op b a []) (Tr.mergeQ_all ah.ok op hb a [] ha) bG.nil (fun p _ hp=>?_);rw[Tr.val_merge op b hb a [] p ha bG.nil (LP p) (hp.sub hLa) (hp.sub hLb)];exact h p hp
def ah.same(l m:ah):Prop:=m=l\/m=l.rev
instance (l m:ah):Decidable (l.same m):=inferInstanceAs (Decidable (_\/_))
def Tr.cnt(l:ah):Tr->Nat
 | .leaf _=>0
 | .node m x y=>(if l.same m then 1 else 0)+(x.cnt l+y.cnt l)
def px{l:ah}(h:l.same m)(hp:l.value p=0):m.value p=0:=by
 rcases h with rfl|rfl
 .exact hp
 .rw[fh,hp];rfl
def DC(l:ah)(c:ar):Prop:= ∃p,bw c p/\l.value p=0
def Tr.cnt_zero{l:ah}: ∀{t:Tr} {c:ar},t.Red c->t.all ah.ok->bG c-> ¬DC l c->t.cnt l=0
 | .leaf _,_,_,_,_,_=>rfl
 | .node m x y,c,⟨h1,h2,h3,h4,_⟩,⟨hm,hx,hy⟩,hc,hn=>by
  obtain⟨g1,i1⟩:=ir hc hm h1;obtain⟨g2,i2⟩:=ir hc hm.rev h2;have e1:=Tr.cnt_zero (l:=l) h3 hx g1 (fun⟨p,hp,h0⟩=>hn ⟨p,((i1 p).1 hp).1,h0⟩);have e2:=Tr.cnt_zero (l:=l) h4 hy g2 (fun⟨p,hp,h0⟩=>hn ⟨p,((i2 p).1 hp).1,h0⟩);rw[Tr.cnt,e1,e2];by_cases hs:l.same m
  .exfalso
   -- m crosses the cell
   obtain⟨p,hp,k1⟩:=(pO hc hm).1 h1;obtain⟨q,hq,k2⟩:=(pO hc hm.rev).1 h2;rw[fh] at k2;generalize hA:m.value p=A at*;generalize hB:m.value q=B at*;have hAB:0<A-B:=by grind
   have e:A/(A-B)*(A-B)=A:=by grind
   generalize A/(A-B)=r at*;have r0:0<=r:=(iB hAB).1 (by rw[e];exact cR k1);have r1:r<=1:=by
    have:=(iB (s:=1-r) hAB).1 va;grind
   have hz:=hp.seg hq r0 r1;have hv:m.value (bO p q r)=0:=by rw[lE,hA,hB];grind
   refine hn ⟨_,hz,?_⟩;rcases hs with rfl|rfl
   .exact hv
   .rw[fh] at hv;grind
  .rw[if_neg hs]
def ri(c:ar)(p:aa):Bool:=c.all fun s=>decide (0<s.l.value p)
def ui:ri c p=true↔bw c p:=by
 unfold ri bw;rw[dW];simp
def Mn(P:List aa)(l:ah)(t:Tr):Prop:=t.all fun m=>l.same m\/ ∀p,l.value p=0->m.value p=0->p∈P
def FZ{α:Type}{p q r:α->Bool}: ∀(P:List α),(∀x∈P,q x=true->p x=true)->(∀x∈P,r x=true->p x=true)->(∀x∈P,¬(q x=true/\r x=true))->P.countP q+P.countP r<=P.countP p
 |[],_,_,_=>bW _
 |x::P,h1,h2,h3=>by
  have ih:=FZ (p:=p) (q:=q) (r:=r) P (fun y hy=>h1 y (aJ _ hy)) (fun y hy=>h2 y (aJ _ hy)) (fun y hy=>h3 y (aJ _ hy));have a:=h1 x aQ;have b:=h2 x aQ;have c:=h3 x aQ;rw[pR,pR,pR]
  cases hq:q x<;>cases hr:r x<;>simp_all<;>omega
def Oo{α:Type}{p q r:α->Bool}: ∀(P:List α),(∀x∈P,q x=true->p x=true)->(∀x∈P,r x=true->p x=true)->(∀x∈P,¬(q x=true/\r x=true))->(∃x∈P,p x=true/\q x=false/\r x=false)->P.countP q+P.countP r+1<=P.countP p
 |[],_,_,_,⟨x,hx,_⟩=>by cases hx
 |x::P,h1,h2,h3,h4=>by
  have i2:=FZ (p:=p) (q:=q) (r:=r) P (fun y hy=>h1 y (aJ _ hy)) (fun y hy=>h2 y (aJ _ hy)) (fun y hy=>h3 y (aJ _ hy));have a:=h1 x aQ;have b:=h2 x aQ;have c:=h3 x aQ;rw[pR,pR,pR];obtain⟨z,hz,k1,k2,k3⟩:=h4;rcases aV.1 hz with rfl|hz
  .simp only[k1,k2,k3];simp;omega
  .have ih:=Oo (p:=p) (q:=q) (r:=r) P (fun y hy=>h1 y (aJ _ hy)) (fun y hy=>h2 y (aJ _ hy)) (fun y hy=>h3 y (aJ _ hy)) ⟨z,hz,k1,k2,k3⟩
   cases hq:q x<;>cases hr:r x<;>simp_all<;>omega
def Tr.cnt_le{l:ah}(hl:l.ok){P:List aa}: ∀{t:Tr} {c:ar},t.Red c->t.all ah.ok->bG c->Mn P l t->t.cnt l<=1+P.countP (ri c)
 | .leaf _,_,_,_,_,_=>bK _
 | .node m x y,c,⟨h1,h2,h3,h4,_⟩,⟨hm,hx,hy⟩,hc,⟨v0,v1,v2⟩=>by
  obtain⟨g1,i1⟩:=ir hc hm h1;obtain⟨g2,i2⟩:=ir hc hm.rev h2;have q1: ∀p∈P,ri (bH c m) p=true->ri c p=true:=fun p _ h=>ui.2 ((i1 p).1 (ui.1 h)).1;have q2: ∀p∈P,ri (bH c m.rev) p=true->ri c p=true:=fun p _ h=>ui.2 ((i2 p).1 (ui.1 h)).1;have q3: ∀p∈P,¬(ri (bH c m) p=true/\ri (bH c m.rev) p=true):=fun p _ ⟨a,b⟩=>by
   have a:=((i1 p).1 (ui.1 a)).2;have b:=((i2 p).1 (ui.1 b)).2;rw[fh] at b;grind
  have ct:=FZ P q1 q2 q3;rw[Tr.cnt];by_cases hs:l.same m
  .have e1:=Tr.cnt_zero (l:=l) h3 hx g1 (fun⟨p,hp,h0⟩=>by have:=((i1 p).1 hp).2;rw[px hs h0] at this;grind)
   have e2:=Tr.cnt_zero (l:=l) h4 hy g2 (fun⟨p,hp,h0⟩=>by have:=((i2 p).1 hp).2;rw[fh,px hs h0] at this;grind);rw[e1,e2,if_pos hs];omega
  .rw[if_neg hs]
   have b1:=Tr.cnt_le hl h3 hx g1 v1;have b2:=Tr.cnt_le hl h4 hy g2 v2;by_cases w1:DC l (bH c m)
   .by_cases w2:DC l (bH c m.rev)
    .-- the crossing xe in the cell
     obtain⟨p,hp,k1⟩:=w1;obtain⟨q,hq,k2⟩:=w2;obtain⟨hp,ap⟩:=(i1 p).1 hp;obtain⟨hq,aq⟩:=(i2 q).1 hq;rw[fh] at aq;generalize hA:m.value p=A at*;generalize hB:m.value q=B at*;have hAB:0<A-B:=by grind
     have e:A/(A-B)*(A-B)=A:=by grind
     generalize A/(A-B)=r at*;have r0:0<=r:=(iB hAB).1 (by rw[e];exact cR ap);have r1:r<=1:=by
      have:=(iB (s:=1-r) hAB).1 va;grind
     have hz:=hp.seg hq r0 r1;have hv:m.value (bO p q r)=0:=by rw[lE,hA,hB];grind
     have hv2:l.value (bO p q r)=0:=by rw[lE,k1,k2];grind
     have hmem:bO p q r∈P:=by
      rcases v0 with h|h
      .exact absurd h hs
      .exact h _ hv2 hv
     have c3:=Oo P q1 q2 q3 ⟨_,hmem,ui.2 hz,by
      rw[<-kJ,ui,i1];rintro ⟨_,h⟩;rw[hv] at h;grind,by
      rw[<-kJ,ui,i2];rintro ⟨_,h⟩;rw[fh,hv] at h;grind⟩
     omega
    .rw[Tr.cnt_zero h4 hy g2 w2];omega
   .rw[Tr.cnt_zero h3 hx g1 w1];omega
def MN(l:ah):l.rev.rev=l:=by cases l;simp[ah.rev]
def ah.same.symm{l m:ah}(h:l.same m):m.same l:=by
 rcases h with rfl|rfl
 .exact .inl J
 .exact .inr (MN l).symm
def ah.same.trans{l n:ah}(h:l.same m)(k:m.same n):l.same n:=by
 rcases h with rfl|rfl
 .exact k
 .rcases k with rfl|rfl
  .exact .inr J
  .exact .inl (MN l)
def jj(K:List ah)(t:Tr):Prop:=t.all fun n=> ∃m∈K,m.same n
def yC(l m:ah):aa:=l.at (-(l.cutC m/l.cutK m))
def CB{l:ah}(hl:l.ok)(hm:m.ok)(h1:l.value p=0)(h2:m.value p=0):l.same m\/p=yC l m:=by
 obtain⟨t,rfl⟩:=yn hl.ne h1;rw[kG] at h2;by_cases hk:l.cutK m=0
 .left
  have hc:l.cutC m=0:=by rw[hk] at h2;grind
  rcases yq hm hl (fun s=>by rw[kG,hk,hc];grind) with h|h
  .exact .inl h
  .exact .inr h
 .right
  unfold yC;congr 1;grind
def jj.covers{K:List ah}(hK: ∀m∈K,m.ok){l:ah}(hl:l.ok): ∀{t:Tr},jj K t->Mn (K.map (yC l)) l t
 | .leaf _,_=>trivial
 | .node n x y,⟨⟨m,hm,hs⟩,h1,h2⟩=>by
  refine⟨?_,jj.covers hK hl h1,jj.covers hK hl h2⟩;by_cases h:l.same n
  .exact .inl h
  .right
   intro p k1 k2;rcases CB hl (hK m hm) k1 (px hs.symm k2) with h3|h3
   .exact absurd (h3.trans hs) h
   .rw[h3];exact dQ hm
def Kc(t:Tr):List ah->Nat
 |[]=>0
 |l::K=>t.cnt l+Kc t K
def Ks(n:ah):List ah->Nat
 |[]=>0
 |l::K=>(if l.same n then 1 else 0)+Ks n K
def UR{n:ah}{x y:Tr}: ∀K,Kc (.node n x y) K=Ks n K+(Kc x K+Kc y K)
 |[]=>rfl
 |l::K=>by
  have:=UR (n:=n) (x:=x) (y:=y) K;show(Tr.node n x y).cnt l+Kc (.node n x y) K=_;rw[this,Tr.cnt];show _=(if l.same n then 1 else 0)+Ks n K+(x.cnt l+Kc x K+(y.cnt l+Kc y K));omega
def Oi{n m:ah}(hs:m.same n): ∀{K:List ah},m∈K->1<=Ks n K
 |[],h=>by cases h
 |l::K,h=>by
  show 1<=(if l.same n then 1 else 0)+Ks n K;rcases aV.1 h with rfl|h
  .rw[if_pos hs];omega
  .have:=Oi hs h;omega
def GY{K:List ah}: ∀{t:Tr},jj K t->t.size<=Kc t K
 | .leaf _,_=>bK _
 | .node n x y,⟨⟨m,hm,hs⟩,h1,h2⟩=>by
  have a:=GY h1;have b:=GY h2;have c:=Oi hs hm;rw[UR,Tr.size];omega
def UY{t:Tr}{B:Nat}: ∀{K:List ah},(∀l∈K,t.cnt l<=B)->Kc t K<=K.length*B
 |[],_=>bK _
 |l::K,h=>by
  have:=UY (t:=t) (B:=B) (K:=K) fun m hm=>h m (aJ _ hm);have:=h l aQ;show t.cnt l+Kc t K<=(K.length+1)*B;rw[gK];omega
def Tr.size_le{K:List ah}(hK: ∀m∈K,m.ok)(hr:t.Red c)(ht:t.all ah.ok)(hc:bG c)(h:jj K t):t.size<=K.length*(1+K.length):=by
 refine dZ (GY h) (UY fun l hl=>?_);refine dZ (Tr.cnt_le (hK l hl) hr ht hc (h.covers hK (hK l hl))) ?_;have:=List.countP_le_length (p:=ri c) (l:=K.map (yC l));rw[aX] at this;omega
def jj.restrict{K:List ah}{t:Tr}(h:jj K t)(c:ar):jj K (t.restrict c):=t.restrict_all _ c h
def jj.merge{K:List ah}(h:jj K t)(hu:jj K u)(c:ar):jj K (t.mergeQ op u c):=Tr.mergeQ_all _ op hu t c h
def awW{a:Tr}(hd:a.depth+b.depth<=1024)(hs:(a.mergeQ op b []).size<=65536):oG op a b=some (a.mergeQ op b []):=by
 unfold oG;rw[if_neg m5,if_neg m5]
structure t7 (L:List ah) (a b:Tr):Prop where
 oa:a.all ah.ok
 ob:b.all ah.ok
 ok: ∀l∈L,l.ok
 la: ∀l∈a.lns,l∈L
 lb: ∀l∈b.lns,l∈L
def t7.mk0{a:Tr}(ha:a.all ah.ok)(hb:b.all ah.ok):t7 (a.lns++b.lns) a b:=
 ⟨ha,hb,fun l hl=>(aL.1 hl).elim (jB ha l) (jB hb l),fun l hl=>bJ _ hl,fun l hl=>aM _ hl⟩
def t7.leaf{L:List ah}{a b:Tr}(h:t7 L a b){op:Int}{v:Bool}:a.mergeQ op b []= .leaf v↔ ∀p,cB L p->tc op (a.val p) (b.val p)=v:=Tr.merge_leaf h.oa h.ob h.ok h.la h.lb
def lP(x:Rat):List Rat->List Rat
 |[]=>[x]
 |u::t=>if u<x then u::lP x t else if u=x then u::t else x::u::t
def gr(l:List Rat):List Rat:=l.foldl (fun out x=>lP x out) []
def gI:List Rat->List Rat
 |a::b::t=>(a+b)/2::gI (b::t)
 |_=>[]
def cx:List Rat->List Rat
 |[]=>[0]
 |a::t=>(a-1)::(gI (a::t)++[(a::t).getLast vb+1])
def qI{x y:Rat}: ∀{l:List Rat},y∈lP x l↔y=x\/y∈l
 |[]=>by simp[lP]
 |u::t=>by
  rw[lP];split
  .rw[aV,qI (l:=t),aV];grind
  .split
   .rename_i h;subst h;simp
   .simp
def zV{x:Rat}: ∀{l:List Rat},l.Pairwise (· < ·)->(lP x l).Pairwise (· < ·)
 |[],_=>by simp[lP]
 |u::t,h=>by
  rw[bU] at h;rw[lP];split
  .rename_i hu
   rw[bU];refine⟨fun y hy=>?_,zV h.2⟩;rcases qI.1 hy with rfl|hy
   .exact hu
   .exact h.1 y hy
  .rename_i hu
   split
   .rw[bU];exact h
   .rename_i hn
    have hx:x<u:=by grind
    rw[bU,bU];refine⟨fun y hy=>?_,h⟩;rcases aV.1 hy with rfl|hy
    .exact hx
    .have:=h.1 y hy;grind
def Ni{l:List Rat}: ∀{o:List Rat},o.Pairwise (· < ·)->(l.foldl (fun out x=>lP x out) o).Pairwise (· < ·)/\ ∀y,y∈l.foldl (fun out x=>lP x out) o↔y∈l\/y∈o:=by
 induction l with
 |nil=>intro o h;exact⟨h,fun y=>by simp⟩
 |cons x t ih=>
  intro o h;obtain⟨h1,h2⟩:=ih (zV (x:=x) h);refine⟨h1,fun y=>?_⟩;rw[jN,h2,qI,aV];grind
def yI(l:List Rat):(gr l).Pairwise (· < ·):=(Ni (l:=l) List.Pairwise.nil).1
def qt{l:List Rat}{y:Rat}:y∈gr l↔y∈l:=by
 have:=(Ni (l:=l) List.Pairwise.nil).2 y;simpa[gr] using this
def QN{g:Rat}: ∀{l:List Rat},l.Pairwise (· < ·)->g∈gI l->g∉l/\(∃a∈l,a<g)/\ ∃b∈l,g<b
 |[],_,h=>by cases h
 |[_],_,h=>by cases h
 |a::b::t,h,hg=>by
  rw[bU] at h;have hab:=h.1 b aQ;rw[gI] at hg;rcases aV.1 hg with rfl|hg
  .refine⟨fun hm=>?_,⟨a,aQ,va⟩,b,aJ _ aQ,va⟩
   rcases aV.1 hm with e|hm
   .grind
   .rcases aV.1 hm with e|hm
    .grind
    .have h2:=h.2
     rw[bU] at h2;have:=h2.1 _ hm;grind
  .obtain⟨k1,⟨c,hc,k2⟩,d,hd,k3⟩:=QN h.2 hg
   refine⟨fun hm=>?_,⟨c,aJ _ hc,k2⟩,d,aJ _ hd,k3⟩;rcases aV.1 hm with e|hm
   .have:=h.1 c hc;grind
   .exact k1 hm
def Dy: ∀{l:List Rat} (h:l.Pairwise (· < ·)) (hn:l≠[]),∀y∈l,y<=l.getLast hn
 |[a],_,_,y,hy=>by rw[aY] at hy;subst hy;exact eY
 |a::b::t,h,_,y,hy=>by
  rw[bU] at h;rw[List.getLast_cons vb];have ih:=Dy h.2 vb;rcases aV.1 hy with rfl|hy
  .have:=h.1 b aQ
   have:=ih b aQ;grind
  .exact ih y hy
def Ft{l:List Rat}(h:l.Pairwise (· < ·)){g:Rat}(hg:g∈cx l):g∉l:=by
 cases l with
 |nil=>simp
 |cons a t=>
  rw[cx] at hg;rcases aV.1 hg with rfl|hg
  .intro hm
   rcases aV.1 hm with e|hm
   .grind
   .rw[bU] at h;have:=h.1 _ hm;grind
  .rcases aL.1 hg with hg|hg
   .exact(QN h hg).1
   .rw[aY] at hg
    intro hm;have:=Dy h vb g hm;grind
def MR{v:Rat}: ∀{l:List Rat},l.Pairwise (· < ·)->v∉l->(∃a∈l,a<v)->(∃b∈l,v<b)-> ∃g∈gI l,∀u∈l,u<v↔u<g
 |[],_,_,⟨a,h,_⟩,_=>by cases h
 |[c],_,_,⟨a,h,h1⟩,⟨b,k,k1⟩=>by
  rw[aY] at h k;subst h;subst k;grind
 |c::d::t,h,hv,h1,h2=>by
  have h0:=h;rw[bU] at h;have hcd:=h.1 d aQ;have h3:=h.2;rw[bU] at h3;have hvc:c<v:=by
   obtain⟨a,ha,hav⟩:=h1;rcases aV.1 ha with rfl|ha
   .exact hav
   .have:=h.1 a ha;grind
  by_cases hd:v<d
  .refine⟨(c+d)/2,by rw[gI];exact aQ,fun u hu=>?_⟩
   rcases aV.1 hu with rfl|hu
   .constructor<;>intro _<;>grind
   .rcases aV.1 hu with rfl|hu
    .constructor<;>intro _<;>grind
    .have:=h3.1 u hu
     constructor<;>intro _<;>grind
  .have hdv:d<v:=by
    have:v≠d:=fun e=>hv (by rw[e];exact aJ _ aQ);grind
   obtain⟨b,hb,hvb⟩:=h2;have hb':b∈d::t:=by
    rcases aV.1 hb with rfl|hb
    .exfalso;grind
    .exact hb
   obtain⟨g,hg,hr⟩:=MR h.2 (fun e=>hv (aJ _ e)) ⟨d,aQ,hdv⟩ ⟨b,hb',hvb⟩;refine⟨g,by rw[gI];exact aJ _ hg,fun u hu=>?_⟩;rcases aV.1 hu with rfl|hu
   .have:=(hr d aQ).1 hdv
    constructor<;>intro _<;>grind
   .exact hr u hu
def P7{v:Rat}{l:List Rat}(h:l.Pairwise (· < ·))(hv:v∉l): ∃g∈cx l,∀u∈l,u<v↔u<g:=by
 cases l with
 |nil=>exact⟨0,by simp[cx],fun u hu=>by cases hu⟩
 |cons a t=>
  by_cases h1: ∃c∈a::t,c<v
  .by_cases h2: ∃c∈a::t,v<c
   .obtain⟨g,hg,hr⟩:=MR h hv h1 h2
    exact⟨g,by rw[cx];exact aJ _ (bJ _ hg),hr⟩
   .refine⟨(a::t).getLast vb+1,by rw[cx];exact aJ _ (aM _ (aY.2 J)),fun u hu=>?_⟩
    have k1:=Dy h vb u hu;have k2: ¬v<u:=fun e=>h2 ⟨u,hu,e⟩;have k3:u≠v:=fun e=>hv (e▸hu);constructor<;>intro _<;>grind
  .refine⟨a-1,by rw[cx];exact aQ,fun u hu=>?_⟩
   have k1: ¬u<v:=fun e=>h1 ⟨u,hu,e⟩;have k2: ¬u<a-1:=by
    rcases aV.1 hu with rfl|hu
    .grind
    .rw[bU] at h;have:=h.1 u hu;grind
   constructor
   .intro e;exact absurd e k1
   .intro e;exact absurd e k2
def Av(A B:List Rat)(h: ∀a∈A,∀b∈B,a<b): ∃y,(∀a∈A,a<y)/\ ∀b∈B,y<b:=by
 -- the greatest of A and the least of B
 have hA: ∀(A:List Rat),A≠[]-> ∃m∈A,∀a∈A,a<=m:=by
  intro A
  induction A with
  |nil=>intro h;exact absurd rfl h
  |cons x t ih=>
   intro _;by_cases ht:t=[]
   .subst ht;exact⟨x,aQ,fun a ha=>by rw[aY] at ha;subst ha;exact eY⟩
   .obtain⟨m,hm,hm2⟩:=ih ht
    by_cases hx:m<=x
    .exact⟨x,aQ,fun a ha=>by rcases aV.1 ha with rfl|ha;exact eY;have:=hm2 a ha;grind⟩
    .exact⟨m,aJ _ hm,fun a ha=>by rcases aV.1 ha with rfl|ha;grind;exact hm2 a ha⟩
 have hB: ∀(A:List Rat),A≠[]-> ∃m∈A,∀a∈A,m<=a:=by
  intro A
  induction A with
  |nil=>intro h;exact absurd rfl h
  |cons x t ih=>
   intro _;by_cases ht:t=[]
   .subst ht;exact⟨x,aQ,fun a ha=>by rw[aY] at ha;subst ha;exact eY⟩
   .obtain⟨m,hm,hm2⟩:=ih ht
    by_cases hx:x<=m
    .exact⟨x,aQ,fun a ha=>by rcases aV.1 ha with rfl|ha;exact eY;have:=hm2 a ha;grind⟩
    .exact⟨m,aJ _ hm,fun a ha=>by rcases aV.1 ha with rfl|ha;grind;exact hm2 a ha⟩
 by_cases eA:A=[]
 .subst eA
  by_cases eB:B=[]
  .subst eB;exact⟨0,fun a ha=>(by cases ha),fun a ha=>(by cases ha)⟩
  .obtain⟨m,hm,hm2⟩:=hB B eB
   exact⟨m-1,fun a ha=>(by cases ha),fun b hb=>by have:=hm2 b hb;grind⟩
 .obtain⟨m,hm,hm2⟩:=hA A eA
  by_cases eB:B=[]
  .subst eB;exact⟨m+1,fun a ha=>by have:=hm2 a ha;grind,fun a ha=>(by cases ha)⟩
  .obtain⟨n,hn,hn2⟩:=hB B eB
   have hmn:=h m hm n hn;exact⟨(m+n)/2,fun a ha=>by have:=hm2 a ha;grind,fun b hb=>by have:=hn2 b hb;grind⟩
def eO:List ah->List Rat
 |[]=>[]
 |a::t=>(if a.b=0 then [a.base.x] else [])++(t.filterMap (fun b=>if crossI a b=0 then none else some (dC a b).x)++eO t)
def yA(a:ah)(x:Rat):Rat:= -(((a.a:Rat)*x+(a.c:Rat))/(a.b:Rat))
def io(l:List ah)(x:Rat):List Rat:=l.filterMap fun a=>if a.b=0 then none else some (yA a x)
def qP(l:List ah):List aa:=(cx (gr (eO l))).flatMap fun x=>(cx (gr (io l x))).map fun y=>⟨x,y⟩
def BC{a:ah}: ∀{l:List ah},a∈l->a.b=0->a.base.x∈eO l
 |[],h,_=>by cases h
 |c::t,h,hb=>by
  rw[eO];rcases aV.1 h with rfl|h
  .rw[if_pos hb];exact bJ _ aQ
  .exact aM _ (aM _ (BC h hb))
def LU{a b:ah}: ∀{l:List ah},a∈l->b∈l->crossI a b≠0->(dC a b).x∈eO l\/(dC b a).x∈eO l
 |[],h,_,_=>by cases h
 |c::t,h,k,hx=>by
  have hx2:crossI b a≠0:=by unfold crossI at*;omega
  rw[eO];rcases aV.1 h with h1|h1
  .rcases aV.1 k with k1|k1
   .subst h1;subst k1;unfold crossI at hx;omega
   .subst h1;left
    exact aM _ (bJ _ (kY.2 ⟨b,k1,by rw[if_neg hx]⟩))
  .rcases aV.1 k with k1|k1
   .subst k1;right
    exact aM _ (bJ _ (kY.2 ⟨a,h1,by rw[if_neg hx2]⟩))
   .rcases LU h1 k1 hx with h2|h2
    .exact .inl (aM _ (aM _ h2))
    .exact .inr (aM _ (aM _ h2))
def Tc{a b:ah}(h:crossI a b≠0)(h1:a.value p=0)(h2:b.value p=0):p.x=(dC a b).x:=by
 have hd:((crossI a b:Int):Rat)≠0:=fun e=>h (cS.1 e);unfold dC;rw[if_neg h];show p.x=(meetX a b:Rat)/(crossI a b:Rat);have e1:=w6 a b;have e2:=Lj a b;rw[jD] at h1 h2;have e3:((crossI a b:Int):Rat)*p.x=(meetX a b:Rat):=by rw[e1,e2];grind
 grind
def ayp{l:List ah}{a b:ah}(ha:a∈l)(hb:b∈l)(h:crossI a b≠0)(h1:a.value p=0)(h2:b.value p=0):p.x∈eO l:=by
 have h':crossI b a≠0:=by unfold crossI at*;omega
 rcases LU ha hb h with k|k
 .rw[Tc h h1 h2];exact k
 .rw[Tc h' h2 h1];exact k
def zS{a:ah}(h:a.b≠0)(x y:Rat):a.value ⟨x,y⟩=(a.b:Rat)*(y-yA a x):=by
 have hb:(a.b:Rat)≠0:=fun e=>h (cS.1 e);unfold yA;rw[jD];show(a.a:Rat)*x+(a.b:Rat)*y+(a.c:Rat)=_;grind
def Ie{a:ah}(hn:a.Ne)(h:a.b=0)(x y:Rat):a.value ⟨x,y⟩=(a.a:Rat)*(x-a.base.x):=by
 have ha:(a.a:Rat)≠0:=fun e=>hn ⟨cS.1 e,h⟩;obtain⟨q,hq,hb⟩:=zk hn;rw[hb,jD];show(a.a:Rat)*x+(a.b:Rat)*y+(a.c:Rat)=(a.a:Rat)*(x-(a.a:Rat)*q);simp only[ah.nor,aa.dot] at hq;rw[h] at hq⊢;have:((0:Int):Rat)=0:=J;rw[this] at hq⊢;grind
def IF{l:List ah}{a:ah}(h:a∈l)(hb:a.b≠0)(x:Rat):yA a x∈io l x:=kY.2 ⟨a,h,by rw[if_neg hb]⟩
def LA{l:List ah}{x y:Rat}(h:y∈io l x): ∃a∈l,a.b≠0/\y=yA a x:=by
 obtain⟨a,ha,e⟩:=kY.1 h;split at e
 .cases e
 .rename_i hb;cases e;exact⟨a,ha,hb,rfl⟩
def Gq{l:List ah}:p∈qP l↔p.x∈cx (gr (eO l))/\p.y∈cx (gr (io l p.x)):=by
 unfold qP;rw[gJ];constructor
 .rintro ⟨x,hx,hp⟩
  obtain⟨y,hy,rfl⟩:=aT.1 hp;exact⟨hx,hy⟩
 .rintro ⟨h1,h2⟩
  exact⟨p.x,h1,aT.2 ⟨p.y,h2,J⟩⟩
def Td{l:List ah}(hok: ∀a∈l,a.Ne)(hp:p∈qP l):cB l p:=by
 obtain⟨h1,h2⟩:=Gq.1 hp;have k1:=Ft (yI _) h1;have k2:=Ft (yI _) h2;rw[qt] at k1 k2;obtain⟨x,y⟩:=p;intro a ha h0;by_cases hb:a.b=0
 .rw[Ie (hok a ha) hb] at h0
  have ha0:(a.a:Rat)≠0:=fun e=>hok a ha ⟨cS.1 e,hb⟩;apply k1;have:x=a.base.x:=by
   rcases fX.1 h0 with h|h
   .exact absurd h ha0
   .grind
  show x∈_;rw[this];exact BC ha hb
 .rw[zS hb] at h0
  have hb0:(a.b:Rat)≠0:=fun e=>hb (cS.1 e);apply k2;have:y=yA a x:=by
   rcases fX.1 h0 with h|h
   .exact absurd h hb0
   .grind
  show y∈io l x;rw[this];exact IF ha hb x
def aL8(xs:List Rat)(a e:Rat)(he:0<e): ∃d,0<d/\d<=e/\a+d∉xs:=by
 induction xs generalizing e with
 |nil=>exact⟨e,he,eY,vb⟩
 |cons x t ih=>
  by_cases hx:a<x
  .obtain⟨d,h1,h2,h3⟩:=ih (if e<=(x-a)/2 then e else(x-a)/2) okL
   refine⟨d,h1,by split at h2<;>grind,fun hm=>?_⟩;rcases aV.1 hm with h|h
   .split at h2<;>grind
   .exact h3 h
  .obtain⟨d,h1,h2,h3⟩:=ih e he
   refine⟨d,h1,h2,fun hm=>?_⟩;rcases aV.1 hm with h|h
   .grind
   .exact h3 h
def wn(l:ah)(p:aa):ah:=if 0<l.value p then l else l.rev
def WN{l:ah}(h:l.value p≠0):0<(wn l p).value p:=by
 unfold wn;split
 .assumption
 .rw[fh];grind
def au0{l:ah}(h:l.value p≠0)(k:0<(wn l p).value q):0<l.value p↔0<l.value q:=by
 unfold wn at k;split at k
 .rename_i h1;exact⟨fun _=>k,fun _=>h1⟩
 .rename_i h1;rw[fh] at k;constructor<;>intro _<;>grind
def shift{l:List ah}(ho:cB l q)(xs:List Rat): ∃q':aa,(∀a∈l,0<a.value q↔0<a.value q')/\cB l q'/\q'.x∉xs:=by
 have hD:bw (l.map fun a=>⟨wn a q,ao.all⟩) q:=fun s hs=>by
  obtain⟨a,ha,rfl⟩:=aT.1 hs;exact WN (ho a ha)
 obtain⟨e,he,hm⟩:=hD.open ⟨1,0⟩;obtain⟨d,h1,h2,h3⟩:=aL8 xs q.x e he;have hd:=hm d (cR h1) h2;have key: ∀a∈l,0<(wn a q).value (cd q ⟨1,0⟩ d):=fun a ha=>hd ⟨wn a q,ao.all⟩ (aT.2 ⟨a,ha,J⟩);refine⟨cd q ⟨1,0⟩ d,fun a ha=>au0 (ho a ha) (key a ha),fun a ha h0=>?_,?_⟩
 .have:=key a ha
  unfold wn at this;split at this
  .grind
  .rw[fh] at this;grind
 .show q.x+d*1∉xs
  rw[show d*1=d by grind];exact h3
theorem okD{p:Prop}(h:p:=by rw[e];grind):p:=h
def Wz{l:List ah}(hok: ∀a∈l,a.Ne)(ho:cB l q): ∃p∈qP l,∀a∈l,0<a.value q↔0<a.value p:=by
 obtain⟨⟨qx,qy⟩,hs,ho2,hx⟩:=shift ho (eO l);obtain⟨x0,hx0,hr⟩:=P7 (yI (eO l)) (v:=qx) (by rw[qt];exact hx);have hx0':=Ft (yI _) hx0;rw[qt] at hx0';have hr': ∀u∈eO l,u<qx↔u<x0:=fun u hu=>hr u (qt.2 hu)
 -- the order on the vertical line is the same
 have order: ∀a∈l,∀b∈l,a.b≠0->b.b≠0->yA a qx<yA b qx->yA a x0<yA b x0:=by
  intro a ha b hb hab hbb hlt;by_cases hc:crossI a b=0
  .have e1:=w6 a b
   rw[hc] at e1;have h0:((0:Int):Rat)=0:=J;rw[h0] at e1;have na:(a.b:Rat)≠0:=fun e=>hab (cS.1 e);have nb':(b.b:Rat)≠0:=fun e=>hbb (cS.1 e);have e2: ∀x,yA b x-yA a x=(a.c:Rat)/a.b-(b.c:Rat)/b.b:=fun x=>by
    unfold yA;grind
   have:=e2 qx;have:=e2 x0;grind
  .by_cases h:yA a x0<yA b x0
   .exact h
   .exfalso
    -- a crossing Av
    generalize hA:yA b qx-yA a qx=A;generalize hB:yA b x0-yA a x0=B;have hAB:0<A-B:=by grind
    have e:A/(A-B)*(A-B)=A:=by grind
    generalize hR:A/(A-B)=r at*;have r0:0<r:=(fB hAB).1 okD;have r1:r<=1:=by
     have:=(iB (s:=1-r) hAB).1 va;grind
    have na:(a.b:Rat)≠0:=fun e=>hab (cS.1 e);have nb':(b.b:Rat)≠0:=fun e=>hbb (cS.1 e);have lin: ∀c:ah,c.b≠0->yA c (qx+r*(x0-qx))=yA c qx+r*(yA c x0-yA c qx):=fun c hc=>by
     have:(c.b:Rat)≠0:=fun e=>hc (cS.1 e);unfold yA;grind
    have hz:yA a (qx+r*(x0-qx))=yA b (qx+r*(x0-qx)):=by
     rw[lin a hab,lin b hbb];grind
    generalize hzx:qx+r*(x0-qx)=z at*;have hm:z∈eO l:=ayp (p:=⟨z,yA a z⟩) ha hb hc (by rw[zS hab];grind) (by rw[zS hbb,hz];grind);have hi:=hr' z hm;have hne:z≠x0:=fun e=>hx0' (e▸hm);have hne2:z≠qx:=fun e=>hx (e▸hm);rcases fG (x0-qx) with k|k|k
    .apply hne2;rw[<-hzx,k];grind
    .have p1:=bE r0 k
     have p2:=cC (a:=1-r) (b:=x0-qx) va (cR k);have:z<x0:=by grind
     have:=hi.2 this;grind
    .have p1:=bE r0 (b:=qx-x0) va
     have p2:=cC (a:=1-r) (b:=qx-x0) va va;have:z<qx:=by grind
     have:=hi.1 this;grind
 -- a height Av the lower and the upper lines
 obtain⟨y',hy1,hy2⟩:=Av ((l.filter fun(a:ah)=>decide (a.b≠0/\yA a qx<qy)).map fun(a:ah)=>yA a x0) ((l.filter fun(a:ah)=>decide (a.b≠0/\qy<yA a qx)).map fun(a:ah)=>yA a x0) (fun u hu v hv=>by
  obtain⟨a,ha,rfl⟩:=aT.1 hu;obtain⟨b,hb,rfl⟩:=aT.1 hv;simp only[kZ,decide_eq_true_eq] at ha hb;exact order a ha.1 b hb.1 ha.2.1 hb.2.1 (by have:=ha.2.2;have:=hb.2.2;grind))
 have tri: ∀a∈l,a.b≠0->yA a qx<qy\/qy<yA a qx:=fun a ha hb=>by
  have h1:=ho2 a ha;rw[zS hb] at h1;have:qy≠yA a qx:=fun e=>h1 okD;grind
 have low: ∀a∈l,a.b≠0->yA a qx<qy->yA a x0<y':=fun a ha hb h=>hy1 _ (aT.2 ⟨a,by simp only[kZ,decide_eq_true_eq];exact⟨ha,hb,h⟩,J⟩);have upp: ∀a∈l,a.b≠0->qy<yA a qx->y'<yA a x0:=fun a ha hb h=>hy2 _ (aT.2 ⟨a,by simp only[kZ,decide_eq_true_eq];exact⟨ha,hb,h⟩,J⟩);have hy':y'∉io l x0:=fun hm=>by
  obtain⟨a,ha,hb,e⟩:=LA hm;rcases tri a ha hb with h|h
  .have:=low a ha hb h;grind
  .have:=upp a ha hb h;grind
 obtain⟨y0,hy0,hry⟩:=P7 (yI (io l x0)) (v:=y') (by rw[qt];exact hy');have hy0':=Ft (yI _) hy0;rw[qt] at hy0';refine⟨⟨x0,y0⟩,Gq.2 ⟨hx0,hy0⟩,fun a ha=>?_⟩;rw[hs a ha];by_cases hb:a.b=0
 .rw[Ie (hok a ha) hb,Ie (hok a ha) hb]
  have hi:=hr' _ (BC ha hb);have n1:a.base.x≠qx:=fun e=>hx (e▸BC ha hb);have n2:a.base.x≠x0:=fun e=>hx0' (e▸BC ha hb);have ha0:(a.a:Rat)≠0:=fun e=>hok a ha ⟨cS.1 e,hb⟩;generalize a.base.x=u at*;generalize (a.a:Rat)=A at*;by_cases h1:u<qx
  .have h2:=hi.1 h1
   rw[fB (k:=qx-u) va,fB (k:=x0-u) va]
  .have h2: ¬u<x0:=fun e=>h1 (hi.2 e)
   have e1:A*(qx-u)=(-A)*(u-qx):=by grind
   have e2:A*(x0-u)=(-A)*(u-x0):=by grind
   rw[e1,e2,fB (k:=u-qx) va,fB (k:=u-x0) va]
 .rw[zS hb,zS hb]
  have hi:=hry (yA a x0) (qt.2 (IF ha hb x0));have n2:yA a x0≠y0:=fun e=>hy0' (e▸IF ha hb x0);have lo:=low a ha hb;have up:=upp a ha hb;have tri:=tri a ha hb;generalize yA a x0=v at*;generalize yA a qx=u at*;generalize (a.b:Rat)=B at*;rcases tri with h|h
  .have h3:=hi.1 (lo h)
   rw[fB (k:=qy-u) va,fB (k:=y0-v) va]
  .have h3:=up h
   have h4: ¬v<y0:=fun e=>by have:=hi.2 e;grind
   have e1:B*(qy-u)=(-B)*(u-qy):=by grind
   have e2:B*(y0-v)=(-B)*(v-y0):=by grind
   rw[e1,e2,fB (k:=u-qy) va,fB (k:=v-y0) va]
def mi(out:List Rat)(s:ao):List Rat:=if s.nh then(if s.nl then out else lP s.lo out) else lP s.hi (if s.nl then out else lP s.lo out)
def ja(l:List ao):List Rat:=l.foldl mi []
def uj:List ao->Rat->Int
 |[],_=>0
 |s::t,x=>
  let a:=if s.nl then 1 else bB x s.lo
  let b:=if s.nh then-1 else bB x s.hi
  if 0<a/\b<0 then 2 else if(a=0/\b<=0)\/(b=0/\0<=a) then 1 else uj t x
def gD(l:List ao)(x:Rat):Bool:=decide (uj l x=2)
def d8(cuts:List Rat)(i:Nat):ao:=⟨if i=0 then 0 else cuts.getD (i-1) 0,if i<cuts.length then cuts.getD i 0 else 0,decide (i=0),decide (i=cuts.length)⟩
def vF(v w:ao):ao:=⟨v.lo,w.hi,v.nl,w.nh⟩
def gA(cuts:List Rat)(marks:List Bool):Nat->List ao
 |0=>[]
 |k+1=>
  let out:=gA cuts marks k
  if marks.getD k false then
   (if 0<k/\marks.getD (k-1) false=true then(match out.getLast? with
    |some v=>out.dropLast++[vF v (d8 cuts k)]
    |none=>out++[d8 cuts k]) else out++[d8 cuts k])
  else out
def wl(cuts:List Rat)(marks:List Bool):List ao:=gA cuts marks marks.length
def oH(op:Int)(x y:Bool):Bool:=if op=2 then x&&y else if op=3 then x&&!y else if op=4 then x !=y else x||y
def pA(op:Int)(a b:List ao):List ao:=wl (ja (a++b)) ((cx (ja (a++b))).map fun t=>oH op (gD a t) (gD b t))
def ju(l m:ah)(side:Int):List ao:=
 if crossI l m=0 then(if(m.value l.base).num.sign=side then [ao.all] else [])
 else if(m.value (l.at (gy l (dC l m)+1))).num.sign=side then [⟨gy l (dC l m),0,false,true⟩] else [⟨0,gy l (dC l m),true,false⟩]
def mD(l m:ah):Bool:=decide (crossI l m=0/\(m.value l.base).num.sign=0)
def fH(f:bt)(m:ah)(side:Int):List bt:=if mD f.l m then [] else(pA 2 [f.v] (ju f.l m side)).map fun v=>⟨f.l,v⟩
def Ge(l:List ao):(ja l).Pairwise (· < ·)/\ ∀y∈ja l,∃s∈l,(s.nl=false/\y=s.lo)\/(s.nh=false/\y=s.hi):=by
 have key: ∀(l:List ao) (o:List Rat),o.Pairwise (· < ·)->(l.foldl mi o).Pairwise (· < ·)/\ ∀y∈l.foldl mi o,y∈o\/ ∃s∈l,(s.nl=false/\y=s.lo)\/(s.nh=false/\y=s.hi):=by
  intro l
  induction l with
  |nil=>intro o h;exact⟨h,fun y hy=> .inl hy⟩
  |cons s t ih=>
   intro o h;have h1:(mi o s).Pairwise (· < ·)/\ ∀y∈mi o s,y∈o\/(s.nl=false/\y=s.lo)\/(s.nh=false/\y=s.hi):=by
    unfold mi
    cases e1:s.nl<;>cases e2:s.nh<;>simp only[if_true,kW,if_false]
    .refine⟨zV (zV h),fun y hy=>?_⟩
     rcases qI.1 hy with h|h
     .exact .inr (.inr ⟨trivial,h⟩)
     .rcases qI.1 h with h|h
      .exact .inr (.inl ⟨trivial,h⟩)
      .exact .inl h
    .refine⟨zV h,fun y hy=>?_⟩
     rcases qI.1 hy with h|h
     .exact .inr (.inl ⟨trivial,h⟩)
     .exact .inl h
    .refine⟨zV h,fun y hy=>?_⟩
     rcases qI.1 hy with h|h
     .exact .inr (.inr ⟨trivial,h⟩)
     .exact .inl h
    .exact⟨h,fun y hy=> .inl hy⟩
   obtain⟨k1,k2⟩:=ih (mi o s) h1.1;refine⟨k1,fun y hy=>?_⟩;rcases k2 y hy with h2|⟨q,hq,h2⟩
   .rcases h1.2 y h2 with h3|h3
    .exact .inl h3
    .exact .inr ⟨s,aQ,h3⟩
   .exact .inr ⟨q,aJ _ hq,h2⟩
 have:=key l [] List.Pairwise.nil;refine⟨this.1,fun y hy=>?_⟩;rcases this.2 y hy with h|h
 .cases h
 .exact h
structure KU (cuts:List Rat) (v:ao):Prop where
 z:jc v
 lo:v.nl=true\/v.lo∈cuts
 hi:v.nh=true\/v.hi∈cuts
def aGG{cuts:List Rat}(h:i<=cuts.length):KU cuts (d8 cuts i):=by
 unfold d8;refine⟨⟨fun e=>?_,fun e=>?_⟩,?_,?_⟩
 .simp only[decide_eq_true_eq] at e;simp[e]
 .simp only[decide_eq_true_eq] at e;simp[e]
 .by_cases h0:i=0
  .left;simp[h0]
  .right
   simp only[if_neg h0];rw[aK,aZ m5];exact cK _
 .by_cases h0:i=cuts.length
  .left;simp[h0]
  .right
   simp only[if_pos (show i<cuts.length by omega)];rw[aK,aZ m5];exact cK _
def Re{cuts:List Rat}{marks:List Bool}: ∀{k:Nat},k<=cuts.length+1-> ∀v∈gA cuts marks k,KU cuts v
 |0,_,v,hv=>by cases hv
 |k+1,hk,v,hv=>by
  have ih:=Re (cuts:=cuts) (marks:=marks) (k:=k) m5;have hg:=aGG (cuts:=cuts) (i:=k) m5;rw[gA] at hv;split at hv
  .split at hv
   .split at hv
    .rename_i w hw
     rcases aL.1 hv with h|h
     .exact ih v ((List.dropLast_sublist _).subset h)
     .rw[aY] at h;subst h
      have hw':=ih w (qR hw);exact⟨⟨hw'.z.1,hg.z.2⟩,hw'.lo,hg.hi⟩
    .rcases aL.1 hv with h|h
     .exact ih v h
     .rw[aY] at h;subst h;exact hg
   .rcases aL.1 hv with h|h
    .exact ih v h
    .rw[aY] at h;subst h;exact hg
  .exact ih v hv
def xS{l:List Rat}:(cx l).length=l.length+1:=by
 have key: ∀(l:List Rat) (a:Rat),(gI (a::l)).length=l.length:=by
  intro l
  induction l with
  |nil=>intro a;rfl
  |cons b t ih=>intro a;rw[gI,aN,ih b,aN]
 cases l with
 |nil=>rfl
 |cons a t=>rw[cx,aN,aU,key];simp
def aCa{a b:List ao}: ∀v∈pA op a b,KU (ja (a++b)) v:=fun v hv=>by
 unfold pA wl at hv;refine Re ?_ v hv;rw[aX,xS];omega
def Gl{cuts:List Rat}{marks:List Bool}: ∀{k:Nat},(gA cuts marks k).length<=k
 |0=>bW _
 |k+1=>by
  have ih:=Gl (cuts:=cuts) (marks:=marks) (k:=k);rw[gA];split
  .split
   .split
    .rename_i w hw
     have:=List.length_pos_of_mem (qR hw);rw[aU,nZ];simp;omega
    .rw[aU];simp;omega
   .rw[aU];simp;omega
  .omega
structure lu (f:bt):Prop where
 lb:LB f.l
 ok:f.l.ok
 z:jc f.v
 lo:BQ f.v.lo 1200
 hi:BQ f.v.hi 1200
theorem BQ.zero1200:BQ (0:Rat) 1200:=BQ.mono (k:=1) ⟨pb,pb⟩
def IE{l:ah}(hl:LB l)(hm:LB m)(hlo:l.ok): ∀v∈ju l m side,jc v/\BQ v.lo 1200/\BQ v.hi 1200:=fun v hv=>by
 unfold ju at hv;split at hv
 .split at hv
  .rw[aY] at hv;subst hv;exact⟨jc.all,BQ.zero1200,BQ.zero1200⟩
  .cases hv
 .rename_i hc
  have:=DA hlo.ne hc;split at hv
  .rw[aY] at hv;subst hv;exact⟨⟨fun h=>okH,fun _=>J⟩,this,BQ.zero1200⟩
  .rw[aY] at hv;subst hv;exact⟨⟨fun _=>J,fun h=>okH⟩,BQ.zero1200,this⟩
def Cw{f:bt}(h:lu f)(hm:LB m): ∀g∈fH f m side,lu g/\g.l=f.l/\mD f.l m=false:=fun g hg=>by
 unfold fH at hg;split at hg
 .cases hg
 .rename_i ho
  obtain⟨v,hv,rfl⟩:=aT.1 hg;have hi:=aCa v hv;have bd: ∀y∈ja ([f.v]++ju f.l m side),BQ y 1200:=fun y hy=>by
   obtain⟨s,hs,h1⟩:=(Ge _).2 y hy;rcases aL.1 hs with hs|hs
   .rw[aY] at hs;subst hs
    rcases h1 with⟨_,rfl⟩|⟨_,rfl⟩
    .exact h.lo
    .exact h.hi
   .have:=IE h.lb hm h.ok s hs
    rcases h1 with⟨_,rfl⟩|⟨_,rfl⟩
    .exact this.2.1
    .exact this.2.2
  refine⟨⟨h.lb,h.ok,hi.z,?_,?_⟩,J,by simpa using ho⟩
  .rcases hi.lo with e|e
   .rw[hi.z.1 e];exact BQ.zero1200
   .exact bd _ e
  .rcases hi.hi with e|e
   .rw[hi.z.2 e];exact BQ.zero1200
   .exact bd _ e
def jg(acc:aa->Bool):Nat->List bt->List ah->Tr
 |_,[],c=> .leaf (acc (jx c c))
 |0,_::_,_=> .leaf false
 |n+1,f::t,c=> .node f.l (jg acc n ((f::t).flatMap fun g=>fH g f.l 1) (c++[f.l])) (jg acc n ((f::t).flatMap fun g=>fH g f.l (-1)) (c++[f.l.rev]))
def aBp{f g:bt}(h:g∈fH f m side):g.l=f.l:=by
 unfold fH at h;split at h
 .cases h
 .obtain⟨v,_,rfl⟩:=aT.1 h;rfl
def wP{acc:aa->Bool}{P:ah->Prop}: ∀{n:Nat} {l:List bt} {c:List ah},(∀f∈l,P f.l)->(jg acc n l c).all P
 |n,[],c,_=>by unfold jg;trivial
 |0,_::_,_,_=>by unfold jg;trivial
 |n+1,f::t,c,h=>by
  rw[jg];refine⟨h f aQ,wP fun g hg=>?_,wP fun g hg=>?_⟩<;>
  .obtain⟨q,hq,hg⟩:=gJ.1 hg
   rw[aBp hg];exact h q hq
def HA{acc:aa->Bool}: ∀{n:Nat} {l:List bt} {c:List ah},(jg acc n l c).depth<=n
 |n,[],c=>by unfold jg;exact bK _
 |0,_::_,_=>by unfold jg;exact bK _
 |n+1,f::t,c=>by
  rw[jg,Tr.depth];have h1:=HA (acc:=acc) (n:=n) (l:=(f::t).flatMap fun g=>fH g f.l 1) (c:=c++[f.l]);have h2:=HA (acc:=acc) (n:=n) (l:=(f::t).flatMap fun g=>fH g f.l (-1)) (c:=c++[f.l.rev]);omega
def tE(n:Nat)(l:List bt):Prop:= ∃K:List ah,K.length<=n/\ ∀f∈l,∃m∈K,m.same f.l
def aoj(hm:m.Ne):m.value m.base=0:=by
 have h:=mj hm 0;rw[<-tf,iC] at h;grind
def aCd{l:ah}(h:l.same m)(hm:m.Ne):mD m l=true:=by
 unfold mD;rw[decide_eq_true_iff];refine⟨?_,?_⟩
 .rcases h with rfl|rfl
  .unfold crossI;omega
  .unfold crossI ah.rev
   show(-l.a)*l.b-l.a*(-l.b)=0;grind
 .rw[mm]
  exact px h.symm (aoj hm)
def tE.split{n:Nat}{f:bt}{t:List bt}(h:tE (n+1) (f::t))(hok: ∀g∈f::t,lu g):tE n ((f::t).flatMap fun g=>fH g f.l side):=by
 obtain⟨K,hK,hs⟩:=h;refine⟨K.filter fun m=>!decide (m.same f.l),?_,fun g hg=>?_⟩
 .obtain⟨m,hm,hm2⟩:=hs f aQ
  have:(K.filter fun m=>!decide (m.same f.l)).length<K.length:=by
   refine List.length_filter_lt_length_iff_exists.2 ⟨m,hm,by simp[hm2]⟩
  omega
 .obtain⟨q,hq,hg⟩:=gJ.1 hg
  obtain⟨_,e,ho⟩:=Cw (hok q hq) (hok f aQ).lb g hg;obtain⟨m,hm,hm2⟩:=hs q hq;refine⟨m,kZ.2 ⟨hm,?_⟩,by rw[e];exact hm2⟩;simp only[iK,decide_eq_false_iff_not];intro h;have:=aCd (h.symm.trans hm2) (hok q hq).ok.ne;rw[this] at ho;cases ho
def aII{p q r:Bool}{b c:Nat}(h:Nat.gcd a b≠0):ah.ok ⟨zv p (a/Nat.gcd (Nat.gcd a b) c),zv q (b/Nat.gcd (Nat.gcd a b) c),zv r (c/Nat.gcd (Nat.gcd a b) c)⟩:=by
 have hg:0<Nat.gcd (Nat.gcd a b) c:=mV _ (iR h);have d0:Nat.gcd (Nat.gcd a b) c∣Nat.gcd a b:=lV _ _;have d1:Nat.gcd (Nat.gcd a b) c∣a:=rT d0 (lV _ _);have d2:Nat.gcd (Nat.gcd a b) c∣b:=rT d0 (mY _ _);have d3:Nat.gcd (Nat.gcd a b) c∣c:=mY _ _;refine⟨?_,?_⟩
 .rintro ⟨h1,h2⟩
  have h1':=congrArg Int.natAbs h1;have h2':=congrArg Int.natAbs h2;simp only[sC,lN] at h1' h2';have e1:=Nat.div_mul_cancel d1;have e2:=Nat.div_mul_cancel d2;rw[h1',kM] at e1;rw[h2',kM] at e2;exact h (by rw[<-e1,<-e2];rfl)
 .simp only[sC]
  rw[Nat.gcd_div d1 d2,Nat.gcd_div d0 d3,Nat.div_self hg]
def KB(p:Bool)(a g:Nat):(zv p (a/g)).natAbs<=a:=by rw[sC];exact nY ..
def PF.eq{P:Program}{f:FuncId}{vs:List DV}{r r':DV}(h:PF GB P f vs r)(e:r=r'):PF GB P f vs r':=e▸h
def iP(m n:Int):aa:=⟨(m:Rat),(n:Rat)⟩
theorem K0{m:Int}(h:m.natAbs<2^k:=by omega):BI m k:=⟨h⟩
theorem vo{m:Int}(h:m.natAbs<=1000)(hk:10<=k:=by decide):BI m k:=⟨cN (show m.natAbs<2^10 by omega) (bT pb hk)⟩
instance aC.int (m n:Int) (i:Nat) [h:BI m i] [k:BI n i]:aC (iP m n) (i+1):=⟨inferInstanceAs (BQ (m:Rat) (i+1)),inferInstanceAs (BQ (n:Rat) (i+1))⟩
def ePI{m n:Int}(h1:p.x=(m:Rat))(h2:p.y=(n:Rat)):eP p=eP (iP m n):=by
 obtain⟨x,y⟩:=p;simp only at h1 h2;subst h1 h2;rfl
def pk(a b c:Int):ah:=
 ⟨zv (decide (a<0)) (a.natAbs/Nat.gcd (Nat.gcd a.natAbs b.natAbs) c.natAbs),zv (decide (b<0)) (b.natAbs/Nat.gcd (Nat.gcd a.natAbs b.natAbs) c.natAbs),zv (decide (c<0)) (c.natAbs/Nat.gcd (Nat.gcd a.natAbs b.natAbs) c.natAbs)⟩
def Qi{a b c:Int}(h: ¬(a=0/\b=0)):(pk a b c).ok:=
 aII fun e=>h ⟨lZ.1 (mS e),lZ.1 (mU e)⟩
def BW(a b c:Int):(pk a b c).a.natAbs<=a.natAbs/\(pk a b c).b.natAbs<=b.natAbs/\(pk a b c).c.natAbs<=c.natAbs:=⟨KB ..,KB ..,KB ..⟩
def oB{m n:Int}(hm:m.natAbs<=1000:=by omega)(hn:n.natAbs<=1000:=by omega):PF GB prog 13 [.v (.int .i64 m), .v (.int .i64 n)] (eP (iP m n)):=by
 refine fn func13 J J ntmps13 J J (fun C=>?_);refine cl J (lB (n:=m) m5 m5) J<|cl J (lB (n:=n) m5 m5) J<|rz J J
def MY{m n k:Int}(hm:m.natAbs<=1000)(hn:n.natAbs<=1000)(hm':m'.natAbs<=1000)(hn':n'.natAbs<=1000)(hk:k.natAbs<=1000:=by decide):PF GB prog 71 [eP (iP m n),eQ (k:Rat),eP (iP m' n')] (eP (iP (m+k*m') (n+k*n'))):=by
 haveI:=vo (k:=10) hm;haveI:=vo (k:=10) hn;haveI:=vo (k:=10) hm';haveI:=vo (k:=10) hn';haveI:=vo (k:=10) hk;exact PF.eq (AA (p:=iP m n) (q:=iP m' n') (c:=(k:Rat))) (ePI (by show(m:Rat)+(k:Rat)*(m':Rat)=_;push_cast;rfl) (by show(n:Rat)+(k:Rat)*(n':Rat)=_;push_cast;rfl))
def LR{b:Nat}(ha:a<k)(hb:b<k):Nat.gcd a b<k:=by
 rcases fW a with rfl|p
 .simpa using hb
 .exact fQ (Nat.gcd_le_left b p) ha
def ZW{a b c:Int}(ha:BI a i)(hb:BI b i)(hc:BI c i)(hi:i<=100000000)(h0: ¬(a=0/\b=0)):PF GB prog 209 [eI a,eI b,eI c] (.tp [eL (pk a b c), .v (.bool true)]):=by
 have hgn:Nat.gcd a.natAbs b.natAbs≠0:=fun h=>h0 ⟨lZ.1 (mS h),lZ.1 (mU h)⟩;have hgp:0<Nat.gcd (Nat.gcd a.natAbs b.natAbs) c.natAbs:=mV _ (iR hgn);haveI hb1:BN (Nat.gcd a.natAbs b.natAbs) i:=⟨LR ha.h hb.h⟩;haveI hb2:BN (Nat.gcd (Nat.gcd a.natAbs b.natAbs) c.natAbs) i:=⟨LR hb1.h hc.h⟩;refine fn func209 J J ntmps209 J J (fun C=>?_);refine cl J (AI (a:=a.natAbs) (b:=b.natAbs) m5 m5) J<|br J J J (fun hc22=>?_) (fun hc22=>?_)
 .
  exact absurd hc22 (by rw[aX];intro h;exact hgn (wh.1 m5))
 .
  refine cl J (AI (a:=Nat.gcd a.natAbs b.natAbs) (b:=c.natAbs) m5 m5) J<|cl J (ze (a:=a.natAbs) (b:=Nat.gcd (Nat.gcd a.natAbs b.natAbs) c.natAbs) hgp m5 m5) J<|cl J (ze (a:=b.natAbs) (b:=Nat.gcd (Nat.gcd a.natAbs b.natAbs) c.natAbs) hgp m5 m5) J<|cl J (ze (a:=c.natAbs) (b:=Nat.gcd (Nat.gcd a.natAbs b.natAbs) c.natAbs) hgp m5 m5) J<|cl J (lI (m:=a.natAbs/(Nat.gcd (Nat.gcd a.natAbs b.natAbs) c.natAbs)) (neg:=decide (a<0))) J<|cl J (lI (m:=b.natAbs/(Nat.gcd (Nat.gcd a.natAbs b.natAbs) c.natAbs)) (neg:=decide (b<0))) J<|cl J (lI (m:=c.natAbs/(Nat.gcd (Nat.gcd a.natAbs b.natAbs) c.natAbs)) (neg:=decide (c<0))) J<|rz J J
def pC(n n':Int):Int:= -(n'-n)
def qe(m m':Int):Int:=m'-m
def xq(m n m' n':Int):Int:= -(pC n n'*m+qe m m'*n)
def uu(m n m' n':Int):ah:=pk (pC n n') (qe m m') (xq m n m' n')
def SP{a b:Int}(ha:a.natAbs<=2000)(hb:b.natAbs<=1000):(a*b).natAbs<=2000000:=by
 rw[fL];exact iS ha hb
def aCB(h:a<es.length):(es.map vI)[(a:Int).toNat]? =some (vI es[a]):=by simp[h]
def au(es:List Int)(n:Int)(a:Nat):Nat×Nat:=
 if h:a<es.length then((if Int.tmod es[a] n<0 then Int.tmod es[a] n+n else Int.tmod es[a] n).toNat,a+1) else(0,a)
def fp{n:Int}(hn:1<=n:=by decide):((au es n a).1:Int)<n:=by
 unfold au;split
 .rename_i h
  have q2:=Int.tmod_lt_of_pos es[a] (show 0<n by omega);dsimp only;split<;>omega
 .exact hn
def jf{n:Int}(ha:a<=es.length):(au es n a).2<=es.length:=by
 unfold au;split
 .assumption
 .exact ha
theorem okG{p:Prop}(h:p:=by rw[hf];show DV.v (.int .i64 _)=DV.v (.int .i64 _);rw[rZ m5]):p:=h
def pG{b:Nat}(hes:es.length<=400)(ha:a<=es.length){n:Int}(hn:1<=n:=by decide)(hn2:n<=1000:=by decide):PM GB prog 37 (nk [none,some (.v (.int .i64 n))] b) b 85 [.sl (es.map vI), .v (.int .i64 (a:Nat))] (.v (.int .i64 ((au es n a).1:Nat))) [.sl (es.map vI), .v (.int .i64 ((au es n a).2:Nat))]:=by
 have hel:(es.map vI).length=es.length:=by simp
 refine Fh func37 J J ntmps37 J J (fun C b m lo hmb=>?_);refine br J J J (fun hc15=>?_) (fun hc15=>?_)
 .
  have hf:au es n a=(0,a):=by unfold au;rw[dif_neg m5]
  exact uk hmb J J (by rw[hf]<;>rfl) (by rw[hf]<;>rfl)
 .
  have hal:a<es.length:=by omega
  obtain⟨e,he⟩: ∃e,e=es[a]:=⟨_,rfl⟩;have q2:=Int.tmod_lt_of_pos e (show 0<n by omega);have q3: -n<Int.tmod e n:=by have:=Int.lt_tmod_of_pos e (show 0<n by omega);omega
  refine ix (fu:=⟨1⟩) _ J (aCB hal) J<|aj 25 (.d (vI e)) J (by rw[he]<;>rfl)<|gx (hv:=by simp only[ak];exact⟨⟨m5,v6⟩,m5⟩) J<|br J J J (fun hc36=>?_) (fun hc36=>?_)
  .
   have hf:au es n a=((Int.tmod e n+n).toNat,a+1):=by unfold au;rw[dif_pos hal,<-he,if_pos hc36]
   exact uk hmb J J okG (by rw[hf]<;>rfl)
  .
   have hf:au es n a=((Int.tmod e n).toNat,a+1):=by unfold au;rw[dif_pos hal,<-he,if_neg hc36]
   exact uk hmb J J okG (by rw[hf]<;>rfl)
def aGu{p:Bool}:PF GB prog 69 [.v (.bool p)] (eT (.leaf p)):=by
 refine fn func69 J J ntmps69 J J (fun C=>?_);refine iH 5 J<|rz J J
end Go.Sx
end
