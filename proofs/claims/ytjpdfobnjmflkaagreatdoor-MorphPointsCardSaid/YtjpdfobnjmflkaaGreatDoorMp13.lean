import Derived.Test.YtjpdfobnjmflkaaGreatDoorMp12
import Derived.WalkKit
import Derived.LaidEql
import Derived.Stop.Asserts
import Derived.RowKitTokens
set_option linter.all false
set_option maxHeartbeats 2000000
set_option maxRecDepth 100000
section
namespace Go.Sx
open Go Go.Proofs Tryz
variable {P:Program}{C:aG}{n:Nat}{fr:Fr}{G GB:Gh}{K:Value->List aA->Gh->Prop}{f:FuncId}{t:Tr}
def Tr.pre:Tr->List Tr
 | .leaf b=>[.leaf b]
 | .node l x y=> .node l x y::(x.pre++y.pre)
structure SZ (f:FuncId) (c2:List Value) (σ:Type) (step:σ->Tr->σ) (ok:σ->Tr->Prop) (Inv:σ->List aA->Gh->Prop):Prop where
 up: ∀{s B G G'},bH G G'->Inv s B G->Inv s B G'
 re: ∀{s B G} (fl:Nat->Bool),Inv s B G->Inv s (B.map (relo fl)) G
 go: ∀{s t p B G},ok s t->Inv s B G->Is G (eU t) (.pointer p)->ir prog f (.pointer p::c2) B G (fun _ B' G'=>Inv (step s t) B' G')
section
variable {own:List aA}
def HL{fn:Func}{vs:List Value}(hr:ke P fr own fn.results.toList vs)(own2 own3:List aA)(hp:own.Perm own2)(hs:own3.Sublist own2)(hk:K (ph vs) own3 G):St C n fr own G (fp C P fn (rE C K) .normal):=
 fun a w rl hmk=>⟨rl.df.trans hmk,_,tf hr rl.fr rl.h,_,own3,G,J,(rl.h.perm hp).drop hs,hk⟩
end
def wS{σ:Type}(step:σ->Tr->σ)(ok:σ->Tr->Prop):σ->List Tr->Prop
 |_,[]=>True
 |s,t::ts=>ok s t/\wS step ok (step s t) ts
structure EX (σ:Type) where
 ts:List Tr
 vs:List Value
 rest:List Value
 b:Nat
 cap:Nat
 lo:Bool
 s:σ
 B:List aA
def rx(t:Tr):Nat:=2*t.size+1
def VZ(ts:List Tr):ts.length<=(ts.map rx).sum:=by
 induction ts with
 |nil=>exact bW _
 |cons t ts ih=>simp only[aN,bU,tQ,rx];omega
def qe(ts:List Tr):List Tr:=ts.reverse.flatMap Tr.pre
structure EI (A:Gh) {σ:Type} (step:σ->Tr->σ) (ok:σ->Tr->Prop) (Inv:σ->List aA->Gh->Prop) (N:Nat) (fin:σ) (x:EX σ) (G:Gh):Prop where
 rel:iw (fun v t=> ∃p,v= .pointer p/\Is A (eU t) (.pointer p)) x.vs x.ts
 cap:x.vs.length+x.rest.length=x.cap
 inv:Inv x.s x.B G
 mu:(x.ts.map rx).sum<=N
 okf:wS step ok x.s (qe x.ts)
 fin:(qe x.ts).foldl step x.s=fin
def Hr{α β:Type}{R:α->β->Prop}{v:α}{t:β}: ∀{vs:List α} {ts:List β},iw R (vs++[v]) (ts++[t])->iw R vs ts/\R v t
 |[],[], .cons h .nil=>⟨.nil,h⟩
 |[],_::b, .cons _ h=>by cases b<;>cases h
 |_::a,[], .cons _ h=>by cases a<;>cases h
 |_::_,_::_, .cons h k=>⟨.cons h (Hr k).1,(Hr k).2⟩
def aHe{c2:List Value}{σ:Type}{step:σ->Tr->σ}{ok:σ->Tr->Prop}{Inv:σ->List aA->Gh->Prop}(V:SZ f c2 σ step ok Inv){p:Option Addr}{s:σ}{B:List aA}
  (h:Is G (eU t) (.pointer p))(hI:Inv s B G)(hok:wS step ok s t.pre)(hs:t.size<=1000000000000):
  ir prog 290 [.pointer p, .func (.func f) #[] ⟨c2⟩] B G (fun _ B' G'=>Inv (t.pre.foldl step s) B' G'):=by
 refine ir.intro func290 J J ntmps290 J ?_;intro C _ _;refine sR<|sm J J<|?_;refine sc (Q8 J (by rfl) (by rfl) (by decide) (by decide) J ?_);intro b1;refine sa J J<|zE<|wz<|?_;refine QL (X:=EX σ) (fun x=>[(4, .slice (some ⟨x.b,0,none⟩) x.vs.length x.cap),(1, .func (.func f) #[] ⟨c2⟩)]) (fun x=>⟨x.b,x.vs++x.rest,152,x.lo⟩::x.B) (EI G step ok Inv (rx t) (t.pre.foldl step s)) (fun x=>(x.ts.map rx).sum)
  ⟨[t],[.pointer p],[],b1,1,true,s,asB B⟩ ⟨.cons ⟨p,J,h⟩ .nil,J,V.re (fun _=>false) hI,by simp,by simpa[qe] using hok,by simp[qe]⟩ (.cons J (.cons J .nil)) J ?_
 rintro ⟨ts,vs,rest,b,cap,lo,s1,B1⟩ Gx _ ⟨hrel,hcap,hinv,hmu,hokf,hfin⟩;simp only at hrel hcap hinv hmu hokf hfin;have hln:=hrel.len;have hlt:=VZ ts;unfold rx at hmu hlt;refine fm<|sR<|sm J J<|uh J J<|sy (BJ J J) J<|zE<|?_;refine Sm J (fun hc=>?_) (fun hc=>?_)
 .refine NB<|EO<|EO<|Nj<|?_
  refine HL .nil _ _ (List.Perm.refl _) (nV _ _) ?_;obtain rfl:ts=[]:=by
   cases ts with
   |nil=>rfl
   |cons a l=>simp only[aN] at hln;exfalso;apply hc;show(0:Int)<(vs.length:Int);omega
  have:s1=t.pre.foldl step s:=hfin;rw[<-this];exact hinv
 refine zK<|?_;obtain⟨vs,v,rfl⟩: ∃vs' v',vs=vs'++[v']:=by
  rcases nN vs with e|⟨a,b,e⟩
  .subst e;simp at hc
  .exact⟨a,b,by rw[e,oQ]⟩
 obtain⟨ts,u,rfl⟩: ∃vs' v',ts=vs'++[v']:=by
  rcases nN ts with e|⟨a,b,e⟩
  .subst e;simp at hln
  .exact⟨a,b,by rw[e,oQ]⟩
 obtain⟨hrel1,q,rfl,hq⟩:=Hr hrel;have hl1:(vs++[Value.pointer q]).length=vs.length+1:=by simp
 have hst:qe (ts++[u])=u.pre++qe ts:=by simp[qe]
 rw[hst] at hokf hfin;simp only[bX,tX,bU,gN,tQ,List.sum_nil,fS,aY,gJ] at hmu hlt hln hcap;refine V5 [(4,Value.slice (some ⟨b,0,none⟩) (vs.length+1:Nat) cap),(1, .func (.func f) #[] ⟨c2⟩)] (.cons (by show some (Value.slice _ (vs++[Value.pointer q]).length _)=_;rw[hl1]) (.cons J .nil)) ?_;refine wz<|sR<|sm J J<|uh J J<|sy (UQ J J) J<|sa J J<|zE<|sR<|sm J J<|?_;rw[show((vs.length+1:Nat):Int)-1=(vs.length:Nat) by omega];refine sm J J<|sy (uQ J J) J<|?_;refine sy (oA (v:=Value.pointer q) J (by rw[cZ,jL,dX,gV (bW _),qW];rfl)) J<|sa J J<|zE<|sR<|sm J J<|sm J J<|sy (Er J J) J<|?_;rw[cZ];refine sa J J<|zE<|sR<|sm J J<|sm J J<|?_;have hokq:ok s1 u/\wS step ok (step s1 u) (u.pre.tail++qe ts):=by cases u<;>exact hokf
 refine sc (AF (c1:=[]) (M:=B1) (rest:=[⟨b,vs++[Value.pointer q]++rest,152,lo⟩]) J J (jJ (l₁:=[_])) (V.go hokq.1 hinv (hq.up GL.le)) J ?_);rintro _ B2 G2 fl _ _ _ hinv2;replace hinv2:=V.re fl hinv2;refine Cy (⟨b,vs++Value.pointer q::rest,152,lo⟩::B2.map (relo fl)) (by rw[dX];exact(jJ (l₂:=[_]))) ?_;generalize B2.map (relo fl)=B2 at*;refine zE<|sR<|sm J J<|?_
 cases u with
 |leaf bb=>
  refine sc (zC J J (PF.fn0 o9 (.cons (hq.up GL.le) .nil)) J ?_);rintro _ G3 _ hv
  cases aI.1 hv
  refine sy (ut J) J<|zE<|r4 J<|zK<|?_;exact HX ⟨ts,vs,Value.pointer q::rest,b,cap,lo,step s1 (.leaf bb),B2⟩ ⟨hrel1,by simp only[aN];omega,V.up GL.le hinv2,by simp only;unfold rx;omega,hokq.2,hfin⟩ (by simp only[bX,tX,bU,gN,tQ,List.sum_nil];unfold rx;omega) (.cons J (.cons J .nil)) J
 |node l x y=>
  obtain⟨nbk,m,e,hg,hm⟩:=mo.1 (id hq)
  cases e
  obtain⟨n1,d1,p1,n2,d2,p2,n3,d3,p3,q1,q2,rfl,_,hx,hy⟩:=QV hm;have hgg:t8 G nbk _:=⟨hg⟩;refine sc (zC J J (PF.fn0 n4 (.cons (hq.up GL.le) .nil)) J ?_);rintro _ G3 _ hv
  cases aI.1 hv
  refine sy (ut J) J<|zE<|ti J<|?_;refine u6 [] (fun _=>false) [(0,true),(1,true),(2,true),(3,true),(4,true),(5,true),(6,true),(7,true),(8,true),(9,false),(10,false),(11,true)] follows (by kernel_rfl)<|dM J J J<|?_;refine dM J J J<|dy J (fun _=>nH J) J J<|dF J J J<|dy J (fun _=>r9 J vM J) J J<|?_;refine dM J J J<|dy J (fun _=>nH J) J J<|dF J J J<|dy J (fun _=>r9 J vM J) J J<|?_;refine dc J J (NP (by rfl) (by rfl) (by rfl) (by rfl) J ?_);intro b3;refine mi<|?_;refine dc J J (Ik (m:=2) (xs:=vs) (ys:=[Value.pointer q2,Value.pointer q1]) (rest:=Value.pointer (some ⟨nbk,0,none⟩)::rest) J J (.tl _ _ _ _ (.hd ..)) (by omega) (by simp only[aN];omega) (by omega) (xX inferInstance J) J (by simp[Sx.flat]) (by decide) (by omega) (by rfl) J ?_);intro b4 lo4 cap4 rest4 h1 h2;refine mi<|dA J J J<|dn<|?_;have hsz:(Tr.node l x y).size=1+x.size+y.size:=J;refine M3 (⟨b4,vs++[Value.pointer q2,Value.pointer q1]++rest4,152,lo4⟩::B2) (.cons_cons _ (nV _ _)) ?_;have hs2:qe (ts++[y,x])=x.pre++y.pre++qe ts:=by simp[qe]
  refine HX ⟨ts++[y,x],vs++[Value.pointer q2,Value.pointer q1],rest4,b4,cap4,lo4,step s1 (.node l x y),B2⟩ ⟨hrel1.app (.cons ⟨_,J,hy⟩ (.cons ⟨_,J,hx⟩ .nil)),by simp only[aY,aN,dT];omega,V.up GL.le hinv2,?_,?_,?_⟩ ?_ (.cons (by show some (Value.slice _ (vs.length+2) _)=some (Value.slice _ (vs++[_,_]).length _);rw[aY];rfl) (.cons J .nil)) J
  .simp only[bX,tX,bU,gN,tQ,List.sum_nil];unfold rx;omega
  .simp only;rw[hs2];exact hokq.2
  .simp only;rw[hs2];exact hfin
  .simp only[bX,tX,bU,gN,tQ,List.sum_nil];unfold rx;omega
def WR{own:List aA}{Φ:Act->World->Prop}{dst:Option Nat}{ty':TypeId}{pos:String}{af:Array Edge}{gd:Option (Nat×Bool)}{fo:Operand}{args:Array Operand}{tys:Array TypeId}{vs:List Value}{M rest:List aA}(ho:aD fr fo=some (.func (.func f) #[] #[]))(hv:fC fr args.toList=some vs)
  (hp:own.Perm (M++rest))(hF:ir P f vs M G K)(hd:cd n dst=true)
  (h: ∀v own1 (G':Gh) (fl:Nat->Bool),[GE G G']->(∀m∈M,m.lo=false->fl m.b=false)->((∀m∈M,m.lo=true)-> ∀b,fl b=true)->K v own1 G'->St C n (put fr dst v) (own1.map (relo fl)++rest) G' Φ):
  Ch P C n fr own G ⟨dst, .call ⟨.value fo,args,tys⟩,ty',pos,af,gd⟩ Φ:=
 AF (c1:=[]) (c2:=[]) ho hv hp (by simpa using hF) hd h
def szI(nbk:Nat)(s:Nat)(B:List aA)(_:Gh):Prop:= ∃lo,B=[⟨nbk,[.int .i64 s],3,lo⟩]
def ua(s:Nat):Tr->Nat
 | .leaf _=>s
 | .node .. =>s+1
def ay9(nbk:Nat):SZ 291 [.pointer (some ⟨nbk,0,none⟩)] Nat ua (fun s _=>s<1000000000000) (szI nbk) where
 up:=fun _ h=>h
 re:=fun{s B G} fl h=>by obtain⟨lo,rfl⟩:=h;exact⟨_,rfl⟩
 go:=by
  intro s t p B G hs hI ht;obtain⟨lo,rfl⟩:=hI;refine ir.intro func291 J J ntmps291 J ?_;intro C _ _;show St C _ _ [⟨nbk,_,_,false⟩] _ _
  cases t with
  |node l x y=>
   refine sR<|sm J J<|?_;refine sc (zC J J (PF.fn0 n4 (.cons ht .nil)) J ?_);rintro _ G1 _ hv
   cases aI.1 hv
   refine sy (ut J) J<|zE<|ti J<|Ex<|nB J J J<|sy (wL J J) J<|?_;refine sc (yn J J J (.hd ..) (nb J) J J ?_);refine zE<|?_;exact HL .nil _ _ (List.Perm.refl _) (List.Sublist.refl _) ⟨false,by show [_]=[_];rfl⟩
  |leaf b=>
   refine sR<|sm J J<|?_;refine sc (zC J J (PF.fn0 o9 (.cons ht .nil)) J ?_);rintro _ G1 _ hv
   cases aI.1 hv
   refine sy (ut J) J<|zE<|r4 J<|zK<|?_;exact HL .nil _ _ (List.Perm.refl _) (List.Sublist.refl _) ⟨false,J⟩
def Gm: ∀(t:Tr) (s:Nat),t.pre.foldl ua s=s+t.size
 | .leaf _,s=>rfl
 | .node l x y,s=>by
  simp only[Tr.pre,kN,oT,ua,Gm x,Gm y,Tr.size];omega
def Ju: ∀(t:Tr) (s:Nat) (L:List Tr),s+t.size<1000000000000->(∀s',s'=s+t.size->wS ua (fun s _=>s<1000000000000) s' L)->wS ua (fun s _=>s<1000000000000) s (t.pre++L)
 | .leaf _,s,L,h,k=>⟨by simp only[Tr.size] at h;omega,k _ J⟩
 | .node l x y,s,L,h,k=>by
  simp only[Tr.size] at h k;simp only[Tr.pre,iX,dX];exact⟨by omega,Ju x _ _ (by simp only[ua];omega) fun s1 e1=>Ju y _ _ (by subst e1;simp only[ua];omega) fun s2 e2=>k _ (by subst e1 e2;simp only[ua];omega)⟩
def aHh(hs:t.size<1000000000000):PF GB prog 236 [eU t] (vI (t.size:Nat)):=by
 intro G vs _ hv;obtain⟨v0,m,rfl,h,hm⟩:=bj.1 hv;rw[et] at hm;subst hm;obtain⟨p,rfl⟩:=wY h;refine Fn.intro func236 J J ntmps236 J ?_;intro C _ _;refine sR<|sa J J<|zE<|sR<|?_;refine sc (uL J ?_);intro b1;refine sc (yn J J J (.hd ..) (nb J) J J ?_);refine zE<|sR<|sm J J<|sy (Gj J J) J<|?_;have hok:wS ua (fun s _=>s<1000000000000) 0 t.pre:=by
  have:=Ju t 0 [] (by omega) (fun _ _=>trivial);rwa [fK] at this
 refine sc (WR (M:=[⟨b1,[.int .i64 0],3,true⟩]) (rest:=[]) J J (List.Perm.refl _) (aHe (ay9 b1) h ⟨true,J⟩ hok (by omega)) J ?_);rintro _ B G2 fl _ _ _ ⟨lo,rfl⟩;rw[Gm,eM];show St C _ _ [⟨b1,[.int .i64 t.size],3,_⟩] _ _;refine zE<|sR<|nB J J J<|sa J J<|zE<|lx<|?_;exact zD (.tmp J .nil) (aI.2 J)

end Go.Sx
end
section
namespace Go.Sx
open Go Go.Proofs Go.RowKit Go.Extern.Stop Go.Stop Go.Extern
def Ms(a:Addr):DV:= .v (.iface 433 (.pointer (some a)))
end Go.Sx
end
section
namespace Go.Sx
open Go Go.Proofs Tryz
variable {GB:Gh}{own' own1:aH}{g nm0 nm k ty i:Nat}{f:FX}{Φ:Act->World->Prop}{K:List Kt}{c:ar}{ty0:TypeId}{op side m' n':Int}{a b t u:Tr}{ai al ae:Addr}{L M:List ah}{p q:aa}{m:ah}
section
variable {C:aG}{n:Nat}{Q0:Exit->Act->World->Prop}{fr fr':aC}{own:aH}{cf cf':Cf}{vc:List Prop}
def MI(fr:aC)(cf:Cf):Option Nat:=match cG fr cf with
 |some ⟨_, .load t (.global g),_,_,_,_⟩=>(match du tt t with
  |some i=>match i.ag with
   |some none=>some g
   |_=>none
  |none=>none)
 |_=>none
def gl[fu:Fu]{v:Value}(h:MI fr cf=some g)(hg:GB g=some [v])(hgo:cB tt n fu.n fr own cf (.d (.v v)) [] []=⟨vc,fr',own',cf'⟩)(k:av prog GB C n Q0 fr' own' cf')
  (hv:autoParam (ak vc) cL._auto_1):av prog GB C n Q0 fr own cf:=by
 unfold MI at h;split at h<;>try (cases h;done)
 rename_i hh;split at h<;>try (cases h;done)
 rename_i i hT;split at h<;>cases h;rename_i ha;haveI:=xe (eh _ _ hT) ha;refine us (f:= .d (.v v)) hh (bO.yd fun ρ G ov a w r=>⟨v,(aI (G:=G)).2 J,?_⟩) hgo hv k;haveI:t8 G g [v]:=⟨r.gb _ _ hg⟩;exact r9 (b:=g) (off:=0) J vM J
def R9{d:Nat}{x:DV}(hl:bi fr d=some f)(e:jx f=some x)(h:SX GB C n (bi ((d, .d x)::fr)) (bt own) Φ):SX GB C n (bi fr) (bt own) Φ:=qb (g:= .d x) hl (fun _ _ _ k=>m6 k e) h
def NW(d:Nat)(x:DV){e:Exit}(hl:bi fr d=some f)(e1:jx f=some x)(k:av prog GB C n Q0 ((d, .d x)::fr) own (.ex e K)):av prog GB C n Q0 fr own (.ex e K):=R9 hl e1 k
def KR(d:Nat)(x:DV){c:Code}(hl:bi fr d=some f)(e1:jx f=some x)(k:av prog GB C n Q0 ((d, .d x)::fr) own (.code c K)):av prog GB C n Q0 fr own (.code c K):=R9 hl e1 k
def aJS{B1 B2:Option Bk}:bt (oC (oC own nm0 B1) nm B2)=upB (upB (bt own) [(nm0,B1)]) [(nm,B2)]:=by
 funext j;rw[B7];simp only[upB];rw[B7]
def Vr(hnm:Nat.blt nm 2000000=true){cs:List FX}{lo:Bool}(hb:bt own nm0=some (.o ty0 cs lo))(hk:cs[k]? =some .nl)(hne:nm0≠nm){s:Nat}(hf:ku [nm] none (bi fr) (bt own))
  (h:SX GB C n (bi fr) (bt (oC (oC own nm0 (some (.o ty0 (cs.set k (.rw nm)) lo))) nm (some (.b ty s [] true)))) Φ):SX GB C n (bi fr) (bt own) Φ:=by
 refine⟨fun ρ G ov a w r=>?_⟩;obtain⟨f1,f2⟩:=hf nm aQ;rw[aJS] at h;refine h.run (fun k=>if k=nm then⟨none,0,0⟩ else ρ k) G ov a w ⟨r.gb,r.h,r.sz,r.df,fun k f e=>?_,fun m B e=>?_,fun m m' B B' e e' hne=>?_,fun m p h1 h2 e=>by
  have:nm<2000000:=by simpa[lK] using hnm
  show(if m=nm then(⟨none,0,0⟩:SV) else ρ m).a=_;rw[if_neg (by omega)];exact r.fxd m p h1 h2 e⟩
 .obtain⟨v,h1,h2⟩:=r.fx k f e
  exact⟨v,h1,h2.ren fun m hm=>vt _ fun hc=>f1 k f (by simp) e (by rw[hm,hc])⟩
 .simp only[upB] at e
  by_cases hm:m=nm
  .subst hm;simp only[if_true] at e;cases e
   exact⟨[],⟨[],by simp only[if_true];exact .inl ⟨J,J,J⟩, .nil,by simp,fun _ o ho=>by cases ho⟩,fun o ho=>by cases ho⟩
  .simp only[hm,if_false] at e
   by_cases hm0:m=nm0
   .subst hm0;simp only[if_true] at e;cases e
    obtain⟨os,h1,h2⟩:=r.bx m _ hb;have h1':li (fun k=>if k=nm then⟨none,0,0⟩ else ρ k) G m (.o ty0 cs lo) os:=h1.ren (if_neg hm) fun q hq=>vt _ fun hc=>f2 m _ hm hb (by rw[<-hc];exact hq);obtain⟨b,ms,k1,k2,k3⟩:=h1';refine⟨os,⟨b,ms,k1,k2,?_⟩,h2⟩;obtain⟨y,e1,e2⟩:=k3.get hk;have:=k3.set (f:= .rw nm) (y:=y) k (by show y=_;simp only[if_true];exact e2);rwa [show ms.set k y=ms by apply kY;intro j;rw[qJ];split<;>(try rfl);rename_i hj;subst hj;split<;>simp_all] at this
   .simp only[hm0,if_false] at e
    obtain⟨os,h1,h2⟩:=r.bx m B e;exact⟨os,h1.ren (if_neg hm) fun q hq=>vt _ fun hc=>f2 m B hm e (by rw[<-hc];exact hq),h2⟩
 .intro b hbb hb'
  have key: ∀q B,upB (upB (bt own) [(nm0,some (.o ty0 (cs.set k (.rw nm)) lo))]) [(nm,some (.b ty s [] true))] q=some B->q≠nm-> ∃B0,bt own q=some B0:=fun q B eq hq=>by
   simp only[upB,hq,if_false] at eq;by_cases hq0:q=nm0
   .subst hq0;exact⟨_,hb⟩
   .simp only[hq0,if_false] at eq;exact⟨_,eq⟩
  by_cases hm:m=nm
  .simp[hm] at hbb
  .by_cases hm':m'=nm
   .simp[hm'] at hb'
   .obtain⟨B0,g0⟩:=key m B e hm
    obtain⟨B1,g1⟩:=key m' B' e' hm';simp only[hm,hm',if_false] at hbb hb';exact r.dj m m' B0 B1 g0 g1 hne b hbb hb'
def Lb(nm0 k nm ty s:Nat){cs:List FX}{lo:Bool}{c:Code}(hb:bt own nm0=some (.o ty0 cs lo))(hk:cs[k]? =some .nl)(hf:vw [nm] none fr own=true)(hne:Nat.beq nm0 nm=false)
  (ho:oC (oC own nm0 (some (.o ty0 (cs.set k (.rw nm)) lo))) nm (some (.b ty s [] true))=own1)(h:av prog GB C n Q0 fr own1 (.code c K))(hnm:Nat.blt nm 2000000=true:=by rfl):av prog GB C n Q0 fr own (.code c K):=by
 subst ho;exact Vr hnm hb hk (fun e=>by subst e;rw[oU] at hne;cases hne) (By hf) h
def MT{ρ:NE}{G:Gh}: ∀{a b:List FX} {m:List Value},dt ρ G (a++b) m-> ∃m1 m2,m=m1++m2/\dt ρ G a m1/\dt ρ G b m2
 |[],b,m,h=>⟨[],m,J,J,h⟩
 |f::t,b,m,⟨y,n,e,h1,h2⟩=>by
  obtain⟨m1,m2,rfl,k1,k2⟩:=MT h2;exact⟨y::m1,m2,e,⟨y,m1,J,h1,k1⟩,k2⟩
end
structure EG (GB:Gh) (ai al ae:Addr):Prop where
 ErrInvalid:GB 1=some [.iface 433 (.pointer (some ai))]
 ErrLimit:GB 2=some [.iface 433 (.pointer (some al))]
structure Tr.gd (t:Tr):Prop where
 lb:t.all LB
 ok:t.all ah.ok
def Tr.restrict_size: ∀(t:Tr) (c:ar),(t.restrict c).size<=t.size
 | .leaf _,_=>bW _
 | .node l x y,c=>by
  rw[Tr.restrict];have hx:=fun c=>x.restrict_size c;have hy:=fun c=>y.restrict_size c;split
  .have:=hx c;simp only[Tr.size];omega
  .split
   .have:=hy c;simp only[Tr.size];omega
   .have h1:=hx (bB c l)
    have h2:=hy (bB c l.rev);rcases Tr.joinQ_cases l (x.restrict (bB c l)) (y.restrict (bB c l.rev)) with⟨h,_⟩|⟨h,_⟩<;>rw[h]<;>(try simp only[Tr.size])<;>omega
def Tr.compl_size: ∀t:Tr,t.compl.size=t.size
 | .leaf _=>rfl
 | .node l x y=>by simp only[Tr.compl,Tr.size,x.compl_size,y.compl_size]
def Tr.compl_all(p:ah->Prop): ∀t:Tr,t.all p->t.compl.all p
 | .leaf _,h=>h
 | .node l x y,⟨h0,h1,h2⟩=>⟨h0,x.compl_all p h1,y.compl_all p h2⟩
def Tr.compl_depth: ∀t:Tr,t.compl.depth=t.depth
 | .leaf _=>rfl
 | .node l x y=>by simp only[Tr.compl,Tr.depth,x.compl_depth,y.compl_depth]
def Tr.chooseQ_all(p:ah->Prop)(op:Int)(b:Bool)(t:Tr)(c:ar)(h:t.all p):(t.chooseQ op b c).all p:=by
 have:=t.restrict_all p c h;unfold chooseQ;split
 .split
  .trivial
  .exact this
 .split
  .trivial
  .split
   .exact(t.restrict c).compl_all p this
   .exact this
def Tr.chooseQ_size(op:Int)(b:Bool)(t:Tr)(c:ar):(t.chooseQ op b c).size<=t.size:=by
 have:=t.restrict_size c;unfold chooseQ;split
 .split
  .exact bV _
  .exact this
 .split
  .exact bV _
  .split
   .rw[(t.restrict c).compl_size];exact this
   .exact this
def Tr.mergeQ_all(p:ah->Prop)(op:Int){u:Tr}(hu:u.all p): ∀(t:Tr) (c:ar),t.all p->(t.mergeQ op u c).all p
 | .leaf b,c,_=>u.chooseQ_all p op b c hu
 | .node l x y,c,⟨h0,h1,h2⟩=>by
  rw[Tr.mergeQ];split
  .exact Tr.mergeQ_all p op hu x c h1
  .split
   .exact Tr.mergeQ_all p op hu y c h2
   .rcases Tr.joinQ_cases l (x.mergeQ op u (bB c l)) (y.mergeQ op u (bB c l.rev)) with⟨h,_⟩|⟨h,_⟩
    .rw[h];exact Tr.mergeQ_all p op hu x _ h1
    .rw[h];exact⟨h0,Tr.mergeQ_all p op hu x _ h1,Tr.mergeQ_all p op hu y _ h2⟩
def Tr.mergeQ_size(op:Int)(u:Tr): ∀(t:Tr) (c:ar),(t.mergeQ op u c).size+1<=(t.size+1)*(u.size+1)
 | .leaf b,c=>by
  have:=u.chooseQ_size op b c;show(u.chooseQ op b c).size+1<=(0+1)*(u.size+1);omega
 | .node l x y,c=>by
  have hx:=fun c=>Tr.mergeQ_size op u x c;have hy:=fun c=>Tr.mergeQ_size op u y c;have e:((Tr.node l x y).size+1)*(u.size+1)=(x.size+1)*(u.size+1)+(y.size+1)*(u.size+1):=by
   rw[<-dV];congr 1;simp only[Tr.size];omega
  rw[e,Tr.mergeQ];split
  .have:=hx c;omega
  .split
   .have:=hy c;omega
   .have h1:=hx (bB c l)
    have h2:=hy (bB c l.rev);rcases Tr.joinQ_cases l (x.mergeQ op u (bB c l)) (y.mergeQ op u (bB c l.rev)) with⟨h,_⟩|⟨h,_⟩<;>rw[h]<;>(try simp only[Tr.size])<;>omega
def Tr.depth_size: ∀t:Tr,t.depth<=t.size
 | .leaf _=>bW _
 | .node l x y=>by
  have h1:=x.depth_size;have h2:=y.depth_size;simp only[Tr.depth,Tr.size];omega
def oe(op:Int)(a b:Tr):Option Tr:=if 1024<a.depth+b.depth then none else if 65536<(a.mergeQ op b []).size then none else some (a.mergeQ op b [])
def R8(al:Addr):Option Tr->DV
 |some t=> .tp [eU t, .v .nilIface]
 |none=> .tp [.v (.pointer none),Ms al]
def XI(ha:a.gd)(hb:b.gd)(h:oe op a b=some t):t.gd/\t.size<=65536:=by
 unfold oe at h;split at h
 .cases h
 .split at h
  .cases h
  .cases h
   exact⟨⟨Tr.mergeQ_all LB op hb.lb a [] ha.lb,Tr.mergeQ_all ah.ok op hb.ok a [] ha.ok⟩,by omega⟩
def Nb(hE:EG GB ai al ae)(ha:a.gd)(hb:b.gd)(hsa:a.size<=65536)(hsb:b.size<=65536):PF GB prog 167 [vI op,eU a,eU b] (R8 al (oe op a b)):=by
 have hda:=a.depth_size;have hdb:=b.depth_size;have hms:=Tr.mergeQ_size op b a [];have hmm:(a.size+1)*(b.size+1)<=65537*65537:=iW (by omega) (by omega);refine fn func167 J J ntmps167 J J (fun C=>?_);refine cl J (Ap (t:=a) (by omega)) J<|cl J (Ap (t:=b) (by omega)) J<|br J J J (fun hc14=>?_) (fun hc14=>?_)
 .
  refine gl J hE.ErrLimit J<|rz J (by unfold oe;rw[if_pos (by omega)];rfl)
 .
  refine cl J (IT (op:=op) (t:=a) (u:=b) (c:=[]) hb.lb hb.ok ha.lb ha.ok (fun s h=>by cases h) (by simp only[dT];omega)) J<|cl J (aHh (t:=a.mergeQ op b []) (by omega)) J<|br J J J (fun hc22=>?_) (fun hc22=>?_)
  .
   refine gl J hE.ErrLimit J<|rz J (by unfold oe;rw[if_neg (by omega),if_pos (by omega)];rfl)
  .
   exact rz J (by unfold oe;rw[if_neg (by omega),if_neg (by omega)];rfl)
def aHE(hE:EG GB ai al ae)(ha:a.gd)(hb:b.gd)(hsa:a.size<=65536)(hsb:b.size<=65536)(h:oe op a b=some t):PF GB prog 167 [vI op,eU a,eU b] (.tp [eU t, .v .nilIface]):=by
 have:=Nb hE (op:=op) ha hb hsa hsb;rw[h] at this;exact this
def aGK(hE:EG GB ai al ae)(ha:a.gd)(hb:b.gd)(hsa:a.size<=65536)(hsb:b.size<=65536)(h:oe op a b=none):PF GB prog 167 [vI op,eU a,eU b] (.tp [.v (.pointer none),Ms al]):=by
 have:=Nb hE (op:=op) ha hb hsa hsb;rw[h] at this;exact this
def oH(op:Int):Tr->List Tr->Option Tr
 |t,[]=>some t
 |t,u::us=>match oe op t u with
  |none=>none
  |some r=>oH op r us
def RF{us:List Tr}(h:us[k]? =some u):oH op t (us.drop k)=match oe op t u with|none=>none|some r=>oH op r (us.drop (k+1)):=by
 rw[CY h];rfl
def Qd(h:t.gd)(c:ar):(t.restrict c).gd:=⟨t.restrict_all LB c h.lb,t.restrict_all ah.ok c h.ok⟩
def Zs(hE:EG GB ai al ae){us:List Tr}(ha:a.gd)(hsa:a.size<=65536)(hus: ∀u∈us,u.gd/\u.size<=65536)(hn:us.length<=1000000):PF GB prog 95 [vI op,eU a, .sl (us.map eU)] (R8 al (if 1024<a.depth then none else oH op (a.restrict []) us)):=by
 have hda:=a.depth_size;have hm:=tO eU us;have hrs:=a.restrict_size [];have hrg:=Qd ha [];refine fn func95 J J ntmps95 J J (fun C=>?_);refine cl J (Ap (t:=a) (by omega)) J<|br J J J (fun hc14=>?_) (fun hc14=>?_)
 .
  refine gl J hE.ErrLimit J<|rz J (by rw[if_pos (by omega)];rfl)
 .
  refine cl (fu:=⟨8⟩) J (Qx (t:=a) ha.lb ha.ok) J<|aj 19 (.d (vI (us.length:Nat))) J (by rw[hm]<;>rfl)<|gx J<|lp (X:=Tr×Nat) (fun⟨t,k⟩=>[(20, .d (vI (k:Nat))),(8, .d (eU t))]) (fun⟨t,k⟩=>[]) (fun⟨t,k⟩=>k<=us.length/\t.gd/\t.size<=65536/\oH op t (us.drop k)=oH op (a.restrict []) us) (fun⟨t,k⟩=>us.length-k) (a.restrict [],0) J ⟨bV _,hrg,by omega,J⟩ (fun _=>J) (fun⟨t,k⟩ hk=>?_);dsimp only at hk⊢;obtain⟨h1,h2,h3,h4⟩:=hk;refine br J J J (fun hc21=>?_) (fun hc21=>?_)
  .
   obtain⟨u,hu0⟩: ∃s,us[k]? =some s:=⟨_,aZ (by omega)⟩;have hu:=hus u (aV hu0);refine ix _ J (cD hu0) J<|?_;rcases hr:oe op t u with _|r
   .
    refine cl J (aGK hE h2 hu.1 h3 hu.2 hr) J<|rz J (by rw[if_neg (by omega),<-h4,RF hu0,hr];rfl)
   .
    have hrr:=XI h2 hu.1 hr;refine cl J (aHE hE h2 hu.1 h3 hu.2 hr) J<|at_ (r,k+1) (by dsimp only;exact⟨⟨by omega,hrr.1,hrr.2,by rw[<-h4,RF hu0,hr]⟩,(by omega)⟩)
  .
   exact rz J (by rw[if_neg (by omega),<-h4,iM (by omega)];rfl)
def aAP(h:t.gd):t.compl.gd:=⟨t.compl_all LB h.lb,t.compl_all ah.ok h.ok⟩
abbrev FF:=Int×List RN
def FF.d(x:FF):DV:=eRT x.1 x.2
def aHo: ∀(us:List Tr),c9 1 (us.map eU):=fun us d hd=>by
 obtain⟨u,_,rfl⟩:=aU.1 hd;exact⟨rfl,rfl⟩
structure FF.ok (x:FF):Prop where
 s: ∀n∈x.2,n.g.sm
 n:x.2.length<=65536
def Zh(hE:EG GB ai al ae){us:List Tr}(ha:a.gd)(hsa:a.size<=65536)(hus: ∀u∈us,u.gd/\u.size<=65536)(hn:us.length<=1000000)(h:(if 1024<a.depth then none else oH op (a.restrict []) us)=some t):PF GB prog 95 [vI op,eU a, .sl (us.map eU)] (.tp [eU t, .v .nilIface]):=by
 have:=Zs hE (op:=op) ha hsa hus hn;rw[h] at this;exact this
def Tr.val:Tr->aa->Bool
 | .leaf b,_=>b
 | .node l x y,p=>if 0<l.value p then x.val p else y.val p
def Tr.lns:Tr->List ah
 | .leaf _=>[]
 | .node l x y=>l::(x.lns++y.lns)
def nf{P:ah->Prop}: ∀{t:Tr},t.all P↔ ∀l∈t.lns,P l
 | .leaf _=>⟨fun _ l hl=>(by cases hl),fun _=>trivial⟩
 | .node l x y=>by
  show(P l/\x.all P/\y.all P)↔ ∀m∈l::(x.lns++y.lns),P m;rw[nf (t:=x),nf (t:=y)];constructor
  .rintro ⟨h0,h1,h2⟩ m hm
   rcases aK.1 hm with rfl|hm
   .exact h0
   .rcases aL.1 hm with hm|hm
    .exact h1 m hm
    .exact h2 m hm
  .intro h
   exact⟨h l aQ,fun m hm=>h m (aJ _ (bK _ hm)),fun m hm=>h m (aJ _ (bQ _ hm))⟩
def gF(h:t.all ah.ok): ∀l∈t.lns,l.ok:=nf.1 h
def cj(L:List ah)(p:aa):Prop:= ∀l∈L,l.value p≠0
def cj.sub(h:cj L p)(k: ∀l∈M,l∈L):cj M p:=fun l hl=>h l (k l hl)
def cj.l{l:ah}{x y:Tr}{p:aa}(h:cj (Tr.node l x y).lns p):l.value p≠0:=h l aQ
def cj.x{l:ah}{x y:Tr}{p:aa}(h:cj (Tr.node l x y).lns p):cj x.lns p:=h.sub fun m hm=>aJ _ (bK _ hm)
def cj.y{l:ah}{x y:Tr}{p:aa}(h:cj (Tr.node l x y).lns p):cj y.lns p:=h.sub fun m hm=>aJ _ (bQ _ hm)
def cj.app:cj (L++M) p↔cj L p/\cj M p:=by
 unfold cj;constructor
 .intro h;exact⟨fun l hl=>h l (bK _ hl),fun l hl=>h l (bQ _ hl)⟩
 .rintro ⟨h1,h2⟩ l hl;rcases aL.1 hl with h|h;exact h1 l h;exact h2 l h
def tj(op:Int)(a b:Bool):Bool:=if op=1 then a||b else if op=2 then a&&b else if op=3 then a&&!b else a !=b
def Tr.val_join(l:ah)(X Y:Tr)(p:aa):(Tr.joinQ l X Y).val p=(Tr.node l X Y).val p:=by
 unfold Tr.joinQ;split
 .rename_i h
  cases X<;>cases Y<;>simp[Tr.isLeaf,Tr.code] at h
  subst h;simp[Tr.val]
 .rfl
def Tr.val_pos{l:ah}{x y:Tr}(h:0<l.value p):(Tr.node l x y).val p=x.val p:=by rw[Tr.val,if_pos h]
def Tr.val_neg{l:ah}{x y:Tr}(h: ¬0<l.value p):(Tr.node l x y).val p=y.val p:=by rw[Tr.val,if_neg h]
def Tr.val_compl: ∀(t:Tr) (p:aa),t.compl.val p=!t.val p
 | .leaf b,p=>rfl
 | .node l x y,p=>by
  rw[Tr.compl];by_cases h:0<l.value p
  .rw[Tr.val_pos h,Tr.val_pos h,x.val_compl]
  .rw[Tr.val_neg h,Tr.val_neg h,y.val_compl]
def Lv{l:ah}(hc:bC c)(hl:l.ok)(hb:cx c l.rev=false)(hp:bm c p)(h0:l.value p≠0):0<l.value p:=by
 by_cases h:0<l.value p
 .exact h
 .exfalso
  have:cx c l.rev=true:=(pe hc hl.rev).2 ⟨p,hp,by rw[dE];grind⟩;rw[hb] at this;cases this
def Mb{l:ah}(hc:bC c)(hl:l.ok)(hb:cx c l=false)(hp:bm c p): ¬0<l.value p:=fun h=>by
 have:cx c l=true:=(pe hc hl).2 ⟨p,hp,h⟩;rw[hb] at this;cases this
def Tr.val_restrict: ∀(t:Tr) (c:ar) (p:aa),t.all ah.ok->bC c->bm c p->cj t.lns p->(t.restrict c).val p=t.val p
 | .leaf _,_,_,_,_,_,_=>rfl
 | .node l x y,c,p,⟨hl,hx,hy⟩,hc,hp,ho=>by
  cases hb:cx c l.rev with
  |false=>rw[Tr.restrict_A _ _ hb,x.val_restrict c p hx hc hp ho.x,Tr.val_pos (Lv hc hl hb hp ho.l)]
  |true=>
   cases hb2:cx c l with
   |false=>rw[Tr.restrict_B _ _ hb hb2,y.val_restrict c p hy hc hp ho.y,Tr.val_neg (Mb hc hl hb2 hp)]
   |true=>
    rw[Tr.restrict_C _ _ hb hb2,Tr.val_join];obtain⟨g1,i1⟩:=gH hc hl hb2;obtain⟨g2,i2⟩:=gH hc hl.rev hb;by_cases h:0<l.value p
    .rw[Tr.val_pos h,Tr.val_pos h,x.val_restrict _ p hx g1 ((i1 p).2 ⟨hp,h⟩) ho.x]
    .rw[Tr.val_neg h,Tr.val_neg h,y.val_restrict _ p hy g2 ((i2 p).2 ⟨hp,by rw[dE];have:=ho.l;grind⟩) ho.y]
def Tr.val_choose(op:Int)(b:Bool)(t:Tr)(c:ar)(p:aa)(ht:t.all ah.ok)(hc:bC c)(hp:bm c p)(ho:cj t.lns p):(t.chooseQ op b c).val p=tj op b (t.val p):=by
 have hr:=t.val_restrict c p ht hc hp ho;unfold Tr.chooseQ tj;by_cases h1:op=1
 .subst h1;cases b<;>simp[hr,Tr.val]
 .by_cases h2:op=2
  .subst h2;cases b<;>simp[hr,Tr.val]
  .by_cases h3:op=3
   .subst h3;cases b<;>simp[hr,Tr.val,Tr.val_compl]
   .cases b<;>simp[h1,h2,h3,hr,Tr.val_compl]
def Tr.val_merge(op:Int)(u:Tr)(hu:u.all ah.ok): ∀(t:Tr) (c:ar) (p:aa),t.all ah.ok->bC c->bm c p->cj t.lns p->cj u.lns p->(t.mergeQ op u c).val p=tj op (t.val p) (u.val p)
 | .leaf b,c,p,_,hc,hp,_,ho=>u.val_choose op b c p hu hc hp ho
 | .node l x y,c,p,⟨hl,hx,hy⟩,hc,hp,ho,hou=>by
  rw[Tr.mergeQ]
  cases hb:cx c l.rev with
  |false=>
   rw[if_pos (show(!false)=true from J),Tr.val_merge op u hu x c p hx hc hp ho.x hou,Tr.val_pos (Lv hc hl hb hp ho.l)]
  |true=>
   rw[if_neg (by decide)]
   cases hb2:cx c l with
   |false=>rw[if_pos (show(!false)=true from J),Tr.val_merge op u hu y c p hy hc hp ho.y hou,Tr.val_neg (Mb hc hl hb2 hp)]
   |true=>
    rw[if_neg (by decide),Tr.val_join];obtain⟨g1,i1⟩:=gH hc hl hb2;obtain⟨g2,i2⟩:=gH hc hl.rev hb;by_cases h:0<l.value p
    .rw[Tr.val_pos h,Tr.val_pos h,Tr.val_merge op u hu x _ p hx g1 ((i1 p).2 ⟨hp,h⟩) ho.x hou]
    .rw[Tr.val_neg h,Tr.val_neg h,Tr.val_merge op u hu y _ p hy g2 ((i2 p).2 ⟨hp,by rw[dE];have:=ho.l;grind⟩) ho.y hou]
def Th: ∀(L:List ah) (u:aa) (p:aa),cj L p-> ∃e:Rat,0<e/\ ∀d,0<=d->d<=e->cj L (b8 p u d)
 |[],u,p,_=>⟨1,by decide,fun d _ _ l hl=>by cases hl⟩
 |l::L,u,p,h=>by
  obtain⟨e,he,hm⟩:=Th L u p (h.sub fun m hm=>aJ _ hm);have h0:=h l aQ;have key: ∃f:Rat,0<f/\ ∀d,0<=d->d<=f->l.value (b8 p u d)≠0:=by
   by_cases hk:l.nor.dot u=0
   .exact⟨1,by decide,fun d _ _=>by rw[gi,hk];grind⟩
   .generalize hA:l.value p=A at*
    generalize hB:l.nor.dot u=B at*;rcases fg A with h|h|h
    .exact absurd h h0
    .rcases fg B with k|k|k
     .exact absurd k hk
     .exact⟨1,by decide,fun d hd _=>by rw[gi,hA,hB];have:=cA hd (cM k);grind⟩
     .refine⟨A/(-B)/2,?_,fun d hd h2=>?_⟩
      .have:0<A/(-B):=by
        have e1:A/(-B)*(-B)=A:=by grind
        exact(eD (k:= -B) (by grind)).1 (by rw[e1];exact h)
       grind
      .rw[gi,hA,hB]
       have e1:A/(-B)*(-B)=A:=by grind
       generalize A/(-B)=q at*;have h4:=cA (a:=q/2-d) (b:= -B) (by grind) (by grind);grind
    .rcases fg B with k|k|k
     .exact absurd k hk
     .refine⟨(-A)/B/2,?_,fun d hd h2=>?_⟩
      .have:0<(-A)/B:=by
        have e1:(-A)/B*B= -A:=by grind
        exact(eD (k:=B) k).1 (by rw[e1];grind)
       grind
      .rw[gi,hA,hB]
       have e1:(-A)/B*B= -A:=by grind
       generalize (-A)/B=q at*;have h4:=cA (a:=q/2-d) (b:=B) (by grind) (by grind);grind
     .exact⟨1,by decide,fun d hd _=>by rw[gi,hA,hB];have:=cA hd (b:= -B) (by grind);grind⟩
  obtain⟨f,hf,hk⟩:=key;refine⟨if e<=f then e else f,by split<;>assumption,fun d hd hde m hm'=>?_⟩;have h1:d<=e/\d<=f:=by split at hde<;>grind
  rcases aK.1 hm' with rfl|hm'
  .exact hk d hd h1.2
  .exact hm d hd h1.1 m hm'
def Dl{c:ar}{p:aa}(hp:bm c p): ∀(L:List ah),(∀l∈L,l.ok)-> ∃q,bm c q/\cj L q
 |[],_=>⟨p,hp,fun l hl=>by cases hl⟩
 |l::L,h=>by
  obtain⟨q,hq,ho⟩:=Dl hp L fun m hm=>h m (aJ _ hm);by_cases h0:l.value q=0
  .have hn:=ni (h l aQ).ne
   obtain⟨e,he,hm⟩:=hq.open l.nor;obtain⟨f,hf,hk⟩:=Th L l.nor q ho;refine⟨b8 q l.nor (if e<=f then e else f),hm _ (by split<;>grind) (by split<;>grind),fun m hm'=>?_⟩;rcases aK.1 hm' with rfl|hm'
   .rw[gi,h0]
    have:=bD (a:=if e<=f then e else f) (b:=m.nor.dot m.nor) (by split<;>assumption) hn;grind
   .exact hk _ (by split<;>grind) (by split<;>grind) m hm'
  .exact⟨q,hq,fun m hm=>by rcases aK.1 hm with rfl|hm;exact h0;exact ho m hm⟩
def Us(hc:bC c)(L:List ah)(h: ∀l∈L,l.ok): ∃q,bm c q/\cj L q:=by
 obtain⟨p,hp⟩:=hc.ne;exact Dl hp L h
def Tr.Red:Tr->ar->Prop
 | .leaf _,_=>True
 | .node l x y,c=>cx c l=true/\cx c l.rev=true/\x.Red (bB c l)/\y.Red (bB c l.rev)/\ ¬(x.isLeaf=true/\y.isLeaf=true/\x.code=y.code)
def Tr.red_leaf(h:t.isLeaf=true)(c:ar):t.Red c:=by
 cases t with
 |leaf b=>trivial
 |node l x y=>cases h
def Tr.join_red{l:ah}{x y:Tr}(h1:cx c l=true)(h2:cx c l.rev=true)(hx:x.Red (bB c l))(hy:y.Red (bB c l.rev)):(Tr.joinQ l x y).Red c:=by
 rcases Tr.joinQ_cases l x y with⟨e,h⟩|⟨e,h⟩
 .rw[e];exact Tr.red_leaf h c
 .rw[e];exact⟨h1,h2,hx,hy,h⟩
def Tr.restrict_red: ∀(t:Tr) (c:ar),(t.restrict c).Red c
 | .leaf _,_=>trivial
 | .node l x y,c=>by
  cases hb:cx c l.rev with
  |false=>rw[Tr.restrict_A _ _ hb];exact x.restrict_red c
  |true=>
   cases hb2:cx c l with
   |false=>rw[Tr.restrict_B _ _ hb hb2];exact y.restrict_red c
   |true=>rw[Tr.restrict_C _ _ hb hb2];exact Tr.join_red hb2 hb (x.restrict_red _) (y.restrict_red _)
def Tr.compl_leaf:t.compl.isLeaf=t.isLeaf:=by cases t<;>rfl
def Tr.compl_code(h:t.isLeaf=true):t.compl.code=!t.code:=by
 cases t with
 |leaf b=>rfl
 |node l x y=>cases h
def Tr.compl_red: ∀{t:Tr} {c:ar},t.Red c->t.compl.Red c
 | .leaf _,_,_=>trivial
 | .node l x y,c,⟨h1,h2,h3,h4,h5⟩=>by
  refine⟨h1,h2,Tr.compl_red h3,Tr.compl_red h4,fun⟨a,b,e⟩=>?_⟩;rw[Tr.compl_leaf] at a b;rw[Tr.compl_code a,Tr.compl_code b] at e;exact h5 ⟨a,b,by simpa using e⟩
def Tr.choose_red(op:Int)(b:Bool)(t:Tr)(c:ar):(t.chooseQ op b c).Red c:=by
 have h:=t.restrict_red c;unfold Tr.chooseQ;split
 .split
  .trivial
  .exact h
 .split
  .trivial
  .split
   .exact Tr.compl_red h
   .exact h
def Tr.merge_red(op:Int)(u:Tr): ∀(t:Tr) (c:ar),(t.mergeQ op u c).Red c
 | .leaf b,c=>u.choose_red op b c
 | .node l x y,c=>by
  rw[Tr.mergeQ]
  cases hb:cx c l.rev with
  |false=>rw[if_pos (show(!false)=true from J)];exact Tr.merge_red op u x c
  |true=>
   rw[if_neg (by decide)]
   cases hb2:cx c l with
   |false=>rw[if_pos (show(!false)=true from J)];exact Tr.merge_red op u y c
   |true=>rw[if_neg (by decide)];exact Tr.join_red hb2 hb (Tr.merge_red op u x _) (Tr.merge_red op u y _)
def Tr.red_const{L:List ah}(hL: ∀l∈L,l.ok){v:Bool}: ∀{t:Tr} {c:ar},t.Red c->t.all ah.ok->bC c->(∀p,bm c p->cj L p->t.val p=v)->t= .leaf v
 | .leaf b,c,_,_,hc,h=>by
  obtain⟨q,h1,h2⟩:=Us hc L hL;have:=h q h1 h2;rw[Tr.val] at this;rw[this]
 | .node l x y,c,⟨h1,h2,h3,h4,h5⟩,⟨hl,hx,hy⟩,hc,h=>by
  obtain⟨g1,i1⟩:=gH hc hl h1;obtain⟨g2,i2⟩:=gH hc hl.rev h2;have ex:=Tr.red_const hL (v:=v) h3 hx g1 (fun p hp ho=>by
   have k:=(i1 p).1 hp;rw[<-h p k.1 ho,Tr.val_pos k.2])
  have ey:=Tr.red_const hL (v:=v) h4 hy g2 (fun p hp ho=>by
   have k:=(i2 p).1 hp;rw[dE] at k;rw[<-h p k.1 ho,Tr.val_neg (by have:=k.2;grind)])
  subst ex;subst ey;exact absurd ⟨J,J,J⟩ h5
def JS(p:aa):bm [] p:=fun s hs=>(by cases hs)
def Tr.merge_leaf(ha:a.all ah.ok)(hb:b.all ah.ok)(hL: ∀l∈L,l.ok)(hLa: ∀l∈a.lns,l∈L)(hLb: ∀l∈b.lns,l∈L){v:Bool}:a.mergeQ op b []= .leaf v↔ ∀p,cj L p->tj op (a.val p) (b.val p)=v:=by
 constructor
 .intro h p hp
  rw[<-Tr.val_merge op b hb a [] p ha bC.nil (JS p) (hp.sub hLa) (hp.sub hLb),h];rfl
 .intro h
  refine Tr.red_const hL (Tr.merge_red op b a []) (Tr.mergeQ_all ah.ok op hb a [] ha) bC.nil (fun p _ hp=>?_);rw[Tr.val_merge op b hb a [] p ha bC.nil (JS p) (hp.sub hLa) (hp.sub hLb)];exact h p hp
def ah.same(l m:ah):Prop:=m=l\/m=l.rev
instance (l m:ah):Decidable (l.same m):=inferInstanceAs (Decidable (_\/_))
def Tr.cnt(l:ah):Tr->Nat
 | .leaf _=>0
 | .node m x y=>(if l.same m then 1 else 0)+(x.cnt l+y.cnt l)
def pj{l:ah}(h:l.same m)(hp:l.value p=0):m.value p=0:=by
 rcases h with rfl|rfl
 .exact hp
 .rw[dE,hp];rfl
def EY(l:ah)(c:ar):Prop:= ∃p,bm c p/\l.value p=0
def Tr.cnt_zero{l:ah}: ∀{t:Tr} {c:ar},t.Red c->t.all ah.ok->bC c-> ¬EY l c->t.cnt l=0
 | .leaf _,_,_,_,_,_=>rfl
 | .node m x y,c,⟨h1,h2,h3,h4,_⟩,⟨hm,hx,hy⟩,hc,hn=>by
  obtain⟨g1,i1⟩:=gH hc hm h1;obtain⟨g2,i2⟩:=gH hc hm.rev h2;have e1:=Tr.cnt_zero (l:=l) h3 hx g1 (fun⟨p,hp,h0⟩=>hn ⟨p,((i1 p).1 hp).1,h0⟩);have e2:=Tr.cnt_zero (l:=l) h4 hy g2 (fun⟨p,hp,h0⟩=>hn ⟨p,((i2 p).1 hp).1,h0⟩);rw[Tr.cnt,e1,e2];by_cases hs:l.same m
  .exfalso
   -- m crosses the cell
   obtain⟨p,hp,k1⟩:=(pe hc hm).1 h1;obtain⟨q,hq,k2⟩:=(pe hc hm.rev).1 h2;rw[dE] at k2;generalize hA:m.value p=A at*;generalize hB:m.value q=B at*;have hAB:0<A-B:=by grind
   have e:A/(A-B)*(A-B)=A:=by grind
   generalize A/(A-B)=r at*;have r0:0<=r:=(ip hAB).1 (by rw[e];exact cM k1);have r1:r<=1:=by
    have:=(ip (s:=1-r) hAB).1 (by grind);grind
   have hz:=hp.seg hq r0 r1;have hv:m.value (kg p q r)=0:=by rw[lO,hA,hB];grind
   refine hn ⟨_,hz,?_⟩;rcases hs with rfl|rfl
   .exact hv
   .rw[dE] at hv;grind
  .rw[if_neg hs]
def qp(c:ar)(p:aa):Bool:=c.all fun s=>decide (0<s.l.value p)
def sO:qp c p=true↔bm c p:=by
 unfold qp bm;rw[dW];simp
def OH(P:List aa)(l:ah)(t:Tr):Prop:=t.all fun m=>l.same m\/ ∀p,l.value p=0->m.value p=0->p∈P
def Hk{α:Type}{p q r:α->Bool}: ∀(P:List α),(∀x∈P,q x=true->p x=true)->(∀x∈P,r x=true->p x=true)->(∀x∈P,¬(q x=true/\r x=true))->P.countP q+P.countP r<=P.countP p
 |[],_,_,_=>bW _
 |x::P,h1,h2,h3=>by
  have ih:=Hk (p:=p) (q:=q) (r:=r) P (fun y hy=>h1 y (aJ _ hy)) (fun y hy=>h2 y (aJ _ hy)) (fun y hy=>h3 y (aJ _ hy));have a:=h1 x aQ;have b:=h2 x aQ;have c:=h3 x aQ;rw[pU,pU,pU]
  cases hq:q x<;>cases hr:r x<;>simp_all<;>omega
def Sh{α:Type}{p q r:α->Bool}: ∀(P:List α),(∀x∈P,q x=true->p x=true)->(∀x∈P,r x=true->p x=true)->(∀x∈P,¬(q x=true/\r x=true))->(∃x∈P,p x=true/\q x=false/\r x=false)->P.countP q+P.countP r+1<=P.countP p
 |[],_,_,_,⟨x,hx,_⟩=>by cases hx
 |x::P,h1,h2,h3,h4=>by
  have i2:=Hk (p:=p) (q:=q) (r:=r) P (fun y hy=>h1 y (aJ _ hy)) (fun y hy=>h2 y (aJ _ hy)) (fun y hy=>h3 y (aJ _ hy));have a:=h1 x aQ;have b:=h2 x aQ;have c:=h3 x aQ;rw[pU,pU,pU];obtain⟨z,hz,k1,k2,k3⟩:=h4;rcases aK.1 hz with rfl|hz
  .simp only[k1,k2,k3];simp;omega
  .have ih:=Sh (p:=p) (q:=q) (r:=r) P (fun y hy=>h1 y (aJ _ hy)) (fun y hy=>h2 y (aJ _ hy)) (fun y hy=>h3 y (aJ _ hy)) ⟨z,hz,k1,k2,k3⟩
   cases hq:q x<;>cases hr:r x<;>simp_all<;>omega
def Tr.cnt_le{l:ah}(hl:l.ok){P:List aa}: ∀{t:Tr} {c:ar},t.Red c->t.all ah.ok->bC c->OH P l t->t.cnt l<=1+P.countP (qp c)
 | .leaf _,_,_,_,_,_=>bV _
 | .node m x y,c,⟨h1,h2,h3,h4,_⟩,⟨hm,hx,hy⟩,hc,⟨v0,v1,v2⟩=>by
  obtain⟨g1,i1⟩:=gH hc hm h1;obtain⟨g2,i2⟩:=gH hc hm.rev h2;have q1: ∀p∈P,qp (bB c m) p=true->qp c p=true:=fun p _ h=>sO.2 ((i1 p).1 (sO.1 h)).1;have q2: ∀p∈P,qp (bB c m.rev) p=true->qp c p=true:=fun p _ h=>sO.2 ((i2 p).1 (sO.1 h)).1;have q3: ∀p∈P,¬(qp (bB c m) p=true/\qp (bB c m.rev) p=true):=fun p _ ⟨a,b⟩=>by
   have a:=((i1 p).1 (sO.1 a)).2;have b:=((i2 p).1 (sO.1 b)).2;rw[dE] at b;grind
  have ct:=Hk P q1 q2 q3;rw[Tr.cnt];by_cases hs:l.same m
  .have e1:=Tr.cnt_zero (l:=l) h3 hx g1 (fun⟨p,hp,h0⟩=>by have:=((i1 p).1 hp).2;rw[pj hs h0] at this;grind)
   have e2:=Tr.cnt_zero (l:=l) h4 hy g2 (fun⟨p,hp,h0⟩=>by have:=((i2 p).1 hp).2;rw[dE,pj hs h0] at this;grind);rw[e1,e2,if_pos hs];omega
  .rw[if_neg hs]
   have b1:=Tr.cnt_le hl h3 hx g1 v1;have b2:=Tr.cnt_le hl h4 hy g2 v2;by_cases w1:EY l (bB c m)
   .by_cases w2:EY l (bB c m.rev)
    .-- the crossing wG in the cell
     obtain⟨p,hp,k1⟩:=w1;obtain⟨q,hq,k2⟩:=w2;obtain⟨hp,ap⟩:=(i1 p).1 hp;obtain⟨hq,aq⟩:=(i2 q).1 hq;rw[dE] at aq;generalize hA:m.value p=A at*;generalize hB:m.value q=B at*;have hAB:0<A-B:=by grind
     have e:A/(A-B)*(A-B)=A:=by grind
     generalize A/(A-B)=r at*;have r0:0<=r:=(ip hAB).1 (by rw[e];exact cM ap);have r1:r<=1:=by
      have:=(ip (s:=1-r) hAB).1 (by grind);grind
     have hz:=hp.seg hq r0 r1;have hv:m.value (kg p q r)=0:=by rw[lO,hA,hB];grind
     have hv2:l.value (kg p q r)=0:=by rw[lO,k1,k2];grind
     have hmem:kg p q r∈P:=by
      rcases v0 with h|h
      .exact absurd h hs
      .exact h _ hv2 hv
     have c3:=Sh P q1 q2 q3 ⟨_,hmem,sO.2 hz,by
      rw[<-jY,sO,i1];rintro ⟨_,h⟩;rw[hv] at h;grind,by
      rw[<-jY,sO,i2];rintro ⟨_,h⟩;rw[dE,hv] at h;grind⟩
     omega
    .rw[Tr.cnt_zero h4 hy g2 w2];omega
   .rw[Tr.cnt_zero h3 hx g1 w1];omega
def KY(l:ah):l.rev.rev=l:=by cases l;simp[ah.rev]
def ah.same.symm{l m:ah}(h:l.same m):m.same l:=by
 rcases h with rfl|rfl
 .exact .inl J
 .exact .inr (KY l).symm
def ah.same.trans{l n:ah}(h:l.same m)(k:m.same n):l.same n:=by
 rcases h with rfl|rfl
 .exact k
 .rcases k with rfl|rfl
  .exact .inr J
  .exact .inl (KY l)
def gn(K:List ah)(t:Tr):Prop:=t.all fun n=> ∃m∈K,m.same n
def yw(l m:ah):aa:=l.at (-(l.cutC m/l.cutK m))
def F0{l:ah}(hl:l.ok)(hm:m.ok)(h1:l.value p=0)(h2:m.value p=0):l.same m\/p=yw l m:=by
 obtain⟨t,rfl⟩:=Au hl.ne h1;rw[ly] at h2;by_cases hk:l.cutK m=0
 .left
  have hc:l.cutC m=0:=by rw[hk] at h2;grind
  rcases w5 hm hl (fun s=>by rw[ly,hk,hc];grind) with h|h
  .exact .inl h
  .exact .inr h
 .right
  unfold yw;congr 1;grind
def gn.covers{K:List ah}(hK: ∀m∈K,m.ok){l:ah}(hl:l.ok): ∀{t:Tr},gn K t->OH (K.map (yw l)) l t
 | .leaf _,_=>trivial
 | .node n x y,⟨⟨m,hm,hs⟩,h1,h2⟩=>by
  refine⟨?_,gn.covers hK hl h1,gn.covers hK hl h2⟩;by_cases h:l.same n
  .exact .inl h
  .right
   intro p k1 k2;rcases F0 hl (hK m hm) k1 (pj hs.symm k2) with h3|h3
   .exact absurd (h3.trans hs) h
   .rw[h3];exact dZ hm
def Kc(t:Tr):List ah->Nat
 |[]=>0
 |l::K=>t.cnt l+Kc t K
def Ks(n:ah):List ah->Nat
 |[]=>0
 |l::K=>(if l.same n then 1 else 0)+Ks n K
def Mw{n:ah}{x y:Tr}: ∀K,Kc (.node n x y) K=Ks n K+(Kc x K+Kc y K)
 |[]=>rfl
 |l::K=>by
  have:=Mw (n:=n) (x:=x) (y:=y) K;show(Tr.node n x y).cnt l+Kc (.node n x y) K=_;rw[this,Tr.cnt];show _=(if l.same n then 1 else 0)+Ks n K+(x.cnt l+Kc x K+(y.cnt l+Kc y K));omega
def Oe{n m:ah}(hs:m.same n): ∀{K:List ah},m∈K->1<=Ks n K
 |[],h=>by cases h
 |l::K,h=>by
  show 1<=(if l.same n then 1 else 0)+Ks n K;rcases aK.1 h with rfl|h
  .rw[if_pos hs];omega
  .have:=Oe hs h;omega
def HT{K:List ah}: ∀{t:Tr},gn K t->t.size<=Kc t K
 | .leaf _,_=>bV _
 | .node n x y,⟨⟨m,hm,hs⟩,h1,h2⟩=>by
  have a:=HT h1;have b:=HT h2;have c:=Oe hs hm;rw[Mw,Tr.size];omega
def LO{t:Tr}{B:Nat}: ∀{K:List ah},(∀l∈K,t.cnt l<=B)->Kc t K<=K.length*B
 |[],_=>bV _
 |l::K,h=>by
  have:=LO (t:=t) (B:=B) (K:=K) fun m hm=>h m (aJ _ hm);have:=h l aQ;show t.cnt l+Kc t K<=(K.length+1)*B;rw[gX];omega
def Tr.size_le{K:List ah}(hK: ∀m∈K,m.ok)(hr:t.Red c)(ht:t.all ah.ok)(hc:bC c)(h:gn K t):t.size<=K.length*(1+K.length):=by
 refine cS (HT h) (LO fun l hl=>?_);refine cS (Tr.cnt_le (hK l hl) hr ht hc (h.covers hK (hK l hl))) ?_;have:=List.countP_le_length (p:=qp c) (l:=K.map (yw l));rw[aX] at this;omega
def ZD{K:List ah}(h: ∀l∈t.lns,l∈K):gn K t:=nf.2 fun l hl=>⟨l,h l hl, .inl J⟩
def gn.restrict{K:List ah}{t:Tr}(h:gn K t)(c:ar):gn K (t.restrict c):=t.restrict_all _ c h
def gn.compl{K:List ah}{t:Tr}(h:gn K t):gn K t.compl:=t.compl_all _ h
def gn.merge{K:List ah}(h:gn K t)(hu:gn K u)(c:ar):gn K (t.mergeQ op u c):=Tr.mergeQ_all _ op hu t c h
def Xh(hd:a.depth+b.depth<=1024)(hs:(a.mergeQ op b []).size<=65536):oe op a b=some (a.mergeQ op b []):=by
 unfold oe;rw[if_neg (by omega),if_neg (by omega)]
structure uJ (L:List ah) (a b:Tr):Prop where
 oa:a.all ah.ok
 ob:b.all ah.ok
 ok: ∀l∈L,l.ok
 la: ∀l∈a.lns,l∈L
 lb: ∀l∈b.lns,l∈L
def uJ.mk0(ha:a.all ah.ok)(hb:b.all ah.ok):uJ (a.lns++b.lns) a b:=
 ⟨ha,hb,fun l hl=>(aL.1 hl).elim (gF ha l) (gF hb l),fun l hl=>bK _ hl,fun l hl=>bQ _ hl⟩
def uJ.leaf{L:List ah}{a b:Tr}(h:uJ L a b){op:Int}{v:Bool}:a.mergeQ op b []= .leaf v↔ ∀p,cj L p->tj op (a.val p) (b.val p)=v:=Tr.merge_leaf h.oa h.ob h.ok h.la h.lb
def kE(x:Rat):List Rat->List Rat
 |[]=>[x]
 |u::t=>if u<x then u::kE x t else if u=x then u::t else x::u::t
def fD(l:List Rat):List Rat:=l.foldl (fun out x=>kE x out) []
def i9:List Rat->List Rat
 |a::b::t=>(a+b)/2::i9 (b::t)
 |_=>[]
def cp:List Rat->List Rat
 |[]=>[0]
 |a::t=>(a-1)::(i9 (a::t)++[(a::t).getLast (by simp)+1])
def qH{x y:Rat}: ∀{l:List Rat},y∈kE x l↔y=x\/y∈l
 |[]=>by simp[kE]
 |u::t=>by
  rw[kE];split
  .rw[aK,qH (l:=t),aK];grind
  .split
   .rename_i h;subst h;simp
   .simp
def yy{x:Rat}: ∀{l:List Rat},l.Pairwise (· < ·)->(kE x l).Pairwise (· < ·)
 |[],_=>by simp[kE]
 |u::t,h=>by
  rw[bY] at h;rw[kE];split
  .rename_i hu
   rw[bY];refine⟨fun y hy=>?_,yy h.2⟩;rcases qH.1 hy with rfl|hy
   .exact hu
   .exact h.1 y hy
  .rename_i hu
   split
   .rw[bY];exact h
   .rename_i hn
    have hx:x<u:=by grind
    rw[bY,bY];refine⟨fun y hy=>?_,h⟩;rcases aK.1 hy with rfl|hy
    .exact hx
    .have:=h.1 y hy;grind
def PH{l:List Rat}: ∀{o:List Rat},o.Pairwise (· < ·)->(l.foldl (fun out x=>kE x out) o).Pairwise (· < ·)/\ ∀y,y∈l.foldl (fun out x=>kE x out) o↔y∈l\/y∈o:=by
 induction l with
 |nil=>intro o h;exact⟨h,fun y=>by simp⟩
 |cons x t ih=>
  intro o h;obtain⟨h1,h2⟩:=ih (yy (x:=x) h);refine⟨h1,fun y=>?_⟩;rw[kN,h2,qH,aK];grind
def y5(l:List Rat):(fD l).Pairwise (· < ·):=(PH (l:=l) List.Pairwise.nil).1
def pE{l:List Rat}{y:Rat}:y∈fD l↔y∈l:=by
 have:=(PH (l:=l) List.Pairwise.nil).2 y;simpa[fD] using this
def O9{g:Rat}: ∀{l:List Rat},l.Pairwise (· < ·)->g∈i9 l->g∉l/\(∃a∈l,a<g)/\ ∃b∈l,g<b
 |[],_,h=>by cases h
 |[_],_,h=>by cases h
 |a::b::t,h,hg=>by
  rw[bY] at h;have hab:=h.1 b aQ;rw[i9] at hg;rcases aK.1 hg with rfl|hg
  .refine⟨fun hm=>?_,⟨a,aQ,by grind⟩,b,aJ _ aQ,by grind⟩
   rcases aK.1 hm with e|hm
   .grind
   .rcases aK.1 hm with e|hm
    .grind
    .have h2:=h.2
     rw[bY] at h2;have:=h2.1 _ hm;grind
  .obtain⟨k1,⟨c,hc,k2⟩,d,hd,k3⟩:=O9 h.2 hg
   refine⟨fun hm=>?_,⟨c,aJ _ hc,k2⟩,d,aJ _ hd,k3⟩;rcases aK.1 hm with e|hm
   .have:=h.1 c hc;grind
   .exact k1 hm
def Jz: ∀{l:List Rat} (h:l.Pairwise (· < ·)) (hn:l≠[]),∀y∈l,y<=l.getLast hn
 |[a],_,_,y,hy=>by rw[aT] at hy;subst hy;exact gS
 |a::b::t,h,_,y,hy=>by
  rw[bY] at h;rw[List.getLast_cons (by simp)];have ih:=Jz h.2 (by simp);rcases aK.1 hy with rfl|hy
  .have:=h.1 b aQ
   have:=ih b aQ;grind
  .exact ih y hy
def E3{l:List Rat}(h:l.Pairwise (· < ·)){g:Rat}(hg:g∈cp l):g∉l:=by
 cases l with
 |nil=>simp
 |cons a t=>
  rw[cp] at hg;rcases aK.1 hg with rfl|hg
  .intro hm
   rcases aK.1 hm with e|hm
   .grind
   .rw[bY] at h;have:=h.1 _ hm;grind
  .rcases aL.1 hg with hg|hg
   .exact(O9 h hg).1
   .rw[aT] at hg
    intro hm;have:=Jz h (by simp) g hm;grind
def Na{v:Rat}: ∀{l:List Rat},l.Pairwise (· < ·)->v∉l->(∃a∈l,a<v)->(∃b∈l,v<b)-> ∃g∈i9 l,∀u∈l,u<v↔u<g
 |[],_,_,⟨a,h,_⟩,_=>by cases h
 |[c],_,_,⟨a,h,h1⟩,⟨b,k,k1⟩=>by
  rw[aT] at h k;subst h;subst k;grind
 |c::d::t,h,hv,h1,h2=>by
  have h0:=h;rw[bY] at h;have hcd:=h.1 d aQ;have h3:=h.2;rw[bY] at h3;have hvc:c<v:=by
   obtain⟨a,ha,hav⟩:=h1;rcases aK.1 ha with rfl|ha
   .exact hav
   .have:=h.1 a ha;grind
  by_cases hd:v<d
  .refine⟨(c+d)/2,by rw[i9];exact aQ,fun u hu=>?_⟩
   rcases aK.1 hu with rfl|hu
   .constructor<;>intro _<;>grind
   .rcases aK.1 hu with rfl|hu
    .constructor<;>intro _<;>grind
    .have:=h3.1 u hu
     constructor<;>intro _<;>grind
  .have hdv:d<v:=by
    have:v≠d:=fun e=>hv (by rw[e];exact aJ _ aQ);grind
   obtain⟨b,hb,hvb⟩:=h2;have hb':b∈d::t:=by
    rcases aK.1 hb with rfl|hb
    .exfalso;grind
    .exact hb
   obtain⟨g,hg,hr⟩:=Na h.2 (fun e=>hv (aJ _ e)) ⟨d,aQ,hdv⟩ ⟨b,hb',hvb⟩;refine⟨g,by rw[i9];exact aJ _ hg,fun u hu=>?_⟩;rcases aK.1 hu with rfl|hu
   .have:=(hr d aQ).1 hdv
    constructor<;>intro _<;>grind
   .exact hr u hu
def MY{v:Rat}{l:List Rat}(h:l.Pairwise (· < ·))(hv:v∉l): ∃g∈cp l,∀u∈l,u<v↔u<g:=by
 cases l with
 |nil=>exact⟨0,by simp[cp],fun u hu=>by cases hu⟩
 |cons a t=>
  by_cases h1: ∃c∈a::t,c<v
  .by_cases h2: ∃c∈a::t,v<c
   .obtain⟨g,hg,hr⟩:=Na h hv h1 h2
    exact⟨g,by rw[cp];exact aJ _ (bK _ hg),hr⟩
   .refine⟨(a::t).getLast (by simp)+1,by rw[cp];exact aJ _ (bQ _ (aT.2 J)),fun u hu=>?_⟩
    have k1:=Jz h (by simp) u hu;have k2: ¬v<u:=fun e=>h2 ⟨u,hu,e⟩;have k3:u≠v:=fun e=>hv (e▸hu);constructor<;>intro _<;>grind
  .refine⟨a-1,by rw[cp];exact aQ,fun u hu=>?_⟩
   have k1: ¬u<v:=fun e=>h1 ⟨u,hu,e⟩;have k2: ¬u<a-1:=by
    rcases aK.1 hu with rfl|hu
    .grind
    .rw[bY] at h;have:=h.1 u hu;grind
   constructor
   .intro e;exact absurd e k1
   .intro e;exact absurd e k2
def BP(A B:List Rat)(h: ∀a∈A,∀b∈B,a<b): ∃y,(∀a∈A,a<y)/\ ∀b∈B,y<b:=by
 -- the greatest of A and the least of B
 have hA: ∀(A:List Rat),A≠[]-> ∃m∈A,∀a∈A,a<=m:=by
  intro A
  induction A with
  |nil=>intro h;exact absurd rfl h
  |cons x t ih=>
   intro _;by_cases ht:t=[]
   .subst ht;exact⟨x,aQ,fun a ha=>by rw[aT] at ha;subst ha;exact gS⟩
   .obtain⟨m,hm,hm2⟩:=ih ht
    by_cases hx:m<=x
    .exact⟨x,aQ,fun a ha=>by rcases aK.1 ha with rfl|ha;exact gS;have:=hm2 a ha;grind⟩
    .exact⟨m,aJ _ hm,fun a ha=>by rcases aK.1 ha with rfl|ha;grind;exact hm2 a ha⟩
 have hB: ∀(A:List Rat),A≠[]-> ∃m∈A,∀a∈A,m<=a:=by
  intro A
  induction A with
  |nil=>intro h;exact absurd rfl h
  |cons x t ih=>
   intro _;by_cases ht:t=[]
   .subst ht;exact⟨x,aQ,fun a ha=>by rw[aT] at ha;subst ha;exact gS⟩
   .obtain⟨m,hm,hm2⟩:=ih ht
    by_cases hx:x<=m
    .exact⟨x,aQ,fun a ha=>by rcases aK.1 ha with rfl|ha;exact gS;have:=hm2 a ha;grind⟩
    .exact⟨m,aJ _ hm,fun a ha=>by rcases aK.1 ha with rfl|ha;grind;exact hm2 a ha⟩
 by_cases eA:A=[]
 .subst eA
  by_cases eB:B=[]
  .subst eB;exact⟨0,fun a ha=>(by cases ha),fun a ha=>(by cases ha)⟩
  .obtain⟨m,hm,hm2⟩:=hB B eB
   exact⟨m-1,fun a ha=>(by cases ha),fun b hb=>by have:=hm2 b hb;grind⟩
 .obtain⟨m,hm,hm2⟩:=hA A eA
  by_cases eB:B=[]
  .subst eB;exact⟨m+1,fun a ha=>by have:=hm2 a ha;grind,fun a ha=>(by cases ha)⟩
  .obtain⟨n,hn,hn2⟩:=hB B eB
   have hmn:=h m hm n hn;exact⟨(m+n)/2,fun a ha=>by have:=hm2 a ha;grind,fun b hb=>by have:=hn2 b hb;grind⟩
def d9:List ah->List Rat
 |[]=>[]
 |a::t=>(if a.b=0 then [a.base.x] else [])++(t.filterMap (fun b=>if crossI a b=0 then none else some (dm a b).x)++d9 t)
def yA(a:ah)(x:Rat):Rat:= -(((a.a:Rat)*x+(a.c:Rat))/(a.b:Rat))
def gG(l:List ah)(x:Rat):List Rat:=l.filterMap fun a=>if a.b=0 then none else some (yA a x)
def pI(l:List ah):List aa:=(cp (fD (d9 l))).flatMap fun x=>(cp (fD (gG l x))).map fun y=>⟨x,y⟩
def Cm{a:ah}: ∀{l:List ah},a∈l->a.b=0->a.base.x∈d9 l
 |[],h,_=>by cases h
 |c::t,h,hb=>by
  rw[d9];rcases aK.1 h with rfl|h
  .rw[if_pos hb];exact bK _ aQ
  .exact bQ _ (bQ _ (Cm h hb))
def Qg{a b:ah}: ∀{l:List ah},a∈l->b∈l->crossI a b≠0->(dm a b).x∈d9 l\/(dm b a).x∈d9 l
 |[],h,_,_=>by cases h
 |c::t,h,k,hx=>by
  have hx2:crossI b a≠0:=by unfold crossI at*;omega
  rw[d9];rcases aK.1 h with h1|h1
  .rcases aK.1 k with k1|k1
   .subst h1;subst k1;unfold crossI at hx;omega
   .subst h1;left
    exact bQ _ (bK _ (jS.2 ⟨b,k1,by rw[if_neg hx]⟩))
  .rcases aK.1 k with k1|k1
   .subst k1;right
    exact bQ _ (bK _ (jS.2 ⟨a,h1,by rw[if_neg hx2]⟩))
   .rcases Qg h1 k1 hx with h2|h2
    .exact .inl (bQ _ (bQ _ h2))
    .exact .inr (bQ _ (bQ _ h2))
def S2{a b:ah}(h:crossI a b≠0)(h1:a.value p=0)(h2:b.value p=0):p.x=(dm a b).x:=by
 have hd:((crossI a b:Int):Rat)≠0:=fun e=>h (cR.1 e);unfold dm;rw[if_neg h];show p.x=(meetX a b:Rat)/(crossI a b:Rat);have e1:=uO a b;have e2:=IW a b;rw[jb] at h1 h2;have e3:((crossI a b:Int):Rat)*p.x=(meetX a b:Rat):=by rw[e1,e2];grind
 grind
def YG{l:List ah}{a b:ah}(ha:a∈l)(hb:b∈l)(h:crossI a b≠0)(h1:a.value p=0)(h2:b.value p=0):p.x∈d9 l:=by
 have h':crossI b a≠0:=by unfold crossI at*;omega
 rcases Qg ha hb h with k|k
 .rw[S2 h h1 h2];exact k
 .rw[S2 h' h2 h1];exact k
def yb{a:ah}(h:a.b≠0)(x y:Rat):a.value ⟨x,y⟩=(a.b:Rat)*(y-yA a x):=by
 have hb:(a.b:Rat)≠0:=fun e=>h (cR.1 e);unfold yA;rw[jb];show(a.a:Rat)*x+(a.b:Rat)*y+(a.c:Rat)=_;grind
def J4{a:ah}(hn:a.Ne)(h:a.b=0)(x y:Rat):a.value ⟨x,y⟩=(a.a:Rat)*(x-a.base.x):=by
 have ha:(a.a:Rat)≠0:=fun e=>hn ⟨cR.1 e,h⟩;obtain⟨q,hq,hb⟩:=A6 hn;rw[hb,jb];show(a.a:Rat)*x+(a.b:Rat)*y+(a.c:Rat)=(a.a:Rat)*(x-(a.a:Rat)*q);simp only[ah.nor,aa.dot] at hq;rw[h] at hq⊢;have:((0:Int):Rat)=0:=J;rw[this] at hq⊢;grind
def KQ{l:List ah}{a:ah}(h:a∈l)(hb:a.b≠0)(x:Rat):yA a x∈gG l x:=jS.2 ⟨a,h,by rw[if_neg hb]⟩
def N4{l:List ah}{x y:Rat}(h:y∈gG l x): ∃a∈l,a.b≠0/\y=yA a x:=by
 obtain⟨a,ha,e⟩:=jS.1 h;split at e
 .cases e
 .rename_i hb;cases e;exact⟨a,ha,hb,rfl⟩
def Kf{l:List ah}:p∈pI l↔p.x∈cp (fD (d9 l))/\p.y∈cp (fD (gG l p.x)):=by
 unfold pI;rw[iJ];constructor
 .rintro ⟨x,hx,hp⟩
  obtain⟨y,hy,rfl⟩:=aU.1 hp;exact⟨hx,hy⟩
 .rintro ⟨h1,h2⟩
  exact⟨p.x,h1,aU.2 ⟨p.y,h2,J⟩⟩
def T'{l:List ah}(hok: ∀a∈l,a.Ne)(hp:p∈pI l):cj l p:=by
 obtain⟨h1,h2⟩:=Kf.1 hp;have k1:=E3 (y5 _) h1;have k2:=E3 (y5 _) h2;rw[pE] at k1 k2;obtain⟨x,y⟩:=p;intro a ha h0;by_cases hb:a.b=0
 .rw[J4 (hok a ha) hb] at h0
  have ha0:(a.a:Rat)≠0:=fun e=>hok a ha ⟨cR.1 e,hb⟩;apply k1;have:x=a.base.x:=by
   rcases fV.1 h0 with h|h
   .exact absurd h ha0
   .grind
  show x∈_;rw[this];exact Cm ha hb
 .rw[yb hb] at h0
  have hb0:(a.b:Rat)≠0:=fun e=>hb (cR.1 e);apply k2;have:y=yA a x:=by
   rcases fV.1 h0 with h|h
   .exact absurd h hb0
   .grind
  show y∈gG l x;rw[this];exact KQ ha hb x
def Zg(xs:List Rat)(a e:Rat)(he:0<e): ∃d,0<d/\d<=e/\a+d∉xs:=by
 induction xs generalizing e with
 |nil=>exact⟨e,he,gS,by simp⟩
 |cons x t ih=>
  by_cases hx:a<x
  .obtain⟨d,h1,h2,h3⟩:=ih (if e<=(x-a)/2 then e else(x-a)/2) (by split<;>grind)
   refine⟨d,h1,by split at h2<;>grind,fun hm=>?_⟩;rcases aK.1 hm with h|h
   .split at h2<;>grind
   .exact h3 h
  .obtain⟨d,h1,h2,h3⟩:=ih e he
   refine⟨d,h1,h2,fun hm=>?_⟩;rcases aK.1 hm with h|h
   .grind
   .exact h3 h
def vy(l:ah)(p:aa):ah:=if 0<l.value p then l else l.rev
def Xu{l:ah}(h:l.value p≠0):0<(vy l p).value p:=by
 unfold vy;split
 .assumption
 .rw[dE];grind
def Wp{l:ah}(h:l.value p≠0)(k:0<(vy l p).value q):0<l.value p↔0<l.value q:=by
 unfold vy at k;split at k
 .rename_i h1;exact⟨fun _=>k,fun _=>h1⟩
 .rename_i h1;rw[dE] at k;constructor<;>intro _<;>grind
def shift{l:List ah}(ho:cj l q)(xs:List Rat): ∃q':aa,(∀a∈l,0<a.value q↔0<a.value q')/\cj l q'/\q'.x∉xs:=by
 have hD:bm (l.map fun a=>⟨vy a q,ao.all⟩) q:=fun s hs=>by
  obtain⟨a,ha,rfl⟩:=aU.1 hs;exact Xu (ho a ha)
 obtain⟨e,he,hm⟩:=hD.open ⟨1,0⟩;obtain⟨d,h1,h2,h3⟩:=Zg xs q.x e he;have hd:=hm d (cM h1) h2;have key: ∀a∈l,0<(vy a q).value (b8 q ⟨1,0⟩ d):=fun a ha=>hd ⟨vy a q,ao.all⟩ (aU.2 ⟨a,ha,J⟩);refine⟨b8 q ⟨1,0⟩ d,fun a ha=>Wp (ho a ha) (key a ha),fun a ha h0=>?_,?_⟩
 .have:=key a ha
  unfold vy at this;split at this
  .grind
  .rw[dE] at this;grind
 .show q.x+d*1∉xs
  rw[show d*1=d by grind];exact h3
def VG{l:List ah}(hok: ∀a∈l,a.Ne)(ho:cj l q): ∃p∈pI l,∀a∈l,0<a.value q↔0<a.value p:=by
 obtain⟨⟨qx,qy⟩,hs,ho2,hx⟩:=shift ho (d9 l);obtain⟨x0,hx0,hr⟩:=MY (y5 (d9 l)) (v:=qx) (by rw[pE];exact hx);have hx0':=E3 (y5 _) hx0;rw[pE] at hx0';have hr': ∀u∈d9 l,u<qx↔u<x0:=fun u hu=>hr u (pE.2 hu)
 -- the order on the vertical line is the same
 have order: ∀a∈l,∀b∈l,a.b≠0->b.b≠0->yA a qx<yA b qx->yA a x0<yA b x0:=by
  intro a ha b hb hab hbb hlt;by_cases hc:crossI a b=0
  .have e1:=uO a b
   rw[hc] at e1;have h0:((0:Int):Rat)=0:=J;rw[h0] at e1;have na:(a.b:Rat)≠0:=fun e=>hab (cR.1 e);have nb':(b.b:Rat)≠0:=fun e=>hbb (cR.1 e);have e2: ∀x,yA b x-yA a x=(a.c:Rat)/a.b-(b.c:Rat)/b.b:=fun x=>by
    unfold yA;grind
   have:=e2 qx;have:=e2 x0;grind
  .by_cases h:yA a x0<yA b x0
   .exact h
   .exfalso
    -- a crossing BP
    generalize hA:yA b qx-yA a qx=A;generalize hB:yA b x0-yA a x0=B;have hAB:0<A-B:=by grind
    have e:A/(A-B)*(A-B)=A:=by grind
    generalize hR:A/(A-B)=r at*;have r0:0<r:=(eD hAB).1 (by rw[e];grind);have r1:r<=1:=by
     have:=(ip (s:=1-r) hAB).1 (by grind);grind
    have na:(a.b:Rat)≠0:=fun e=>hab (cR.1 e);have nb':(b.b:Rat)≠0:=fun e=>hbb (cR.1 e);have lin: ∀c:ah,c.b≠0->yA c (qx+r*(x0-qx))=yA c qx+r*(yA c x0-yA c qx):=fun c hc=>by
     have:(c.b:Rat)≠0:=fun e=>hc (cR.1 e);unfold yA;grind
    have hz:yA a (qx+r*(x0-qx))=yA b (qx+r*(x0-qx)):=by
     rw[lin a hab,lin b hbb];grind
    generalize hzx:qx+r*(x0-qx)=z at*;have hm:z∈d9 l:=YG (p:=⟨z,yA a z⟩) ha hb hc (by rw[yb hab];grind) (by rw[yb hbb,hz];grind);have hi:=hr' z hm;have hne:z≠x0:=fun e=>hx0' (e▸hm);have hne2:z≠qx:=fun e=>hx (e▸hm);rcases fg (x0-qx) with k|k|k
    .apply hne2;rw[<-hzx,k];grind
    .have p1:=bD r0 k
     have p2:=cA (a:=1-r) (b:=x0-qx) (by grind) (cM k);have:z<x0:=by grind
     have:=hi.2 this;grind
    .have p1:=bD r0 (b:=qx-x0) (by grind)
     have p2:=cA (a:=1-r) (b:=qx-x0) (by grind) (by grind);have:z<qx:=by grind
     have:=hi.1 this;grind
 -- a height BP the lower and the upper lines
 obtain⟨y',hy1,hy2⟩:=BP ((l.filter fun(a:ah)=>decide (a.b≠0/\yA a qx<qy)).map fun(a:ah)=>yA a x0) ((l.filter fun(a:ah)=>decide (a.b≠0/\qy<yA a qx)).map fun(a:ah)=>yA a x0) (fun u hu v hv=>by
  obtain⟨a,ha,rfl⟩:=aU.1 hu;obtain⟨b,hb,rfl⟩:=aU.1 hv;simp only[iR,decide_eq_true_eq] at ha hb;exact order a ha.1 b hb.1 ha.2.1 hb.2.1 (by have:=ha.2.2;have:=hb.2.2;grind))
 have tri: ∀a∈l,a.b≠0->yA a qx<qy\/qy<yA a qx:=fun a ha hb=>by
  have h1:=ho2 a ha;rw[yb hb] at h1;have:qy≠yA a qx:=fun e=>h1 (by rw[e];grind);grind
 have low: ∀a∈l,a.b≠0->yA a qx<qy->yA a x0<y':=fun a ha hb h=>hy1 _ (aU.2 ⟨a,by simp only[iR,decide_eq_true_eq];exact⟨ha,hb,h⟩,J⟩);have upp: ∀a∈l,a.b≠0->qy<yA a qx->y'<yA a x0:=fun a ha hb h=>hy2 _ (aU.2 ⟨a,by simp only[iR,decide_eq_true_eq];exact⟨ha,hb,h⟩,J⟩);have hy':y'∉gG l x0:=fun hm=>by
  obtain⟨a,ha,hb,e⟩:=N4 hm;rcases tri a ha hb with h|h
  .have:=low a ha hb h;grind
  .have:=upp a ha hb h;grind
 obtain⟨y0,hy0,hry⟩:=MY (y5 (gG l x0)) (v:=y') (by rw[pE];exact hy');have hy0':=E3 (y5 _) hy0;rw[pE] at hy0';refine⟨⟨x0,y0⟩,Kf.2 ⟨hx0,hy0⟩,fun a ha=>?_⟩;rw[hs a ha];by_cases hb:a.b=0
 .rw[J4 (hok a ha) hb,J4 (hok a ha) hb]
  have hi:=hr' _ (Cm ha hb);have n1:a.base.x≠qx:=fun e=>hx (e▸Cm ha hb);have n2:a.base.x≠x0:=fun e=>hx0' (e▸Cm ha hb);have ha0:(a.a:Rat)≠0:=fun e=>hok a ha ⟨cR.1 e,hb⟩;generalize a.base.x=u at*;generalize (a.a:Rat)=A at*;by_cases h1:u<qx
  .have h2:=hi.1 h1
   rw[eD (k:=qx-u) (by grind),eD (k:=x0-u) (by grind)]
  .have h2: ¬u<x0:=fun e=>h1 (hi.2 e)
   have e1:A*(qx-u)=(-A)*(u-qx):=by grind
   have e2:A*(x0-u)=(-A)*(u-x0):=by grind
   rw[e1,e2,eD (k:=u-qx) (by grind),eD (k:=u-x0) (by grind)]
 .rw[yb hb,yb hb]
  have hi:=hry (yA a x0) (pE.2 (KQ ha hb x0));have n2:yA a x0≠y0:=fun e=>hy0' (e▸KQ ha hb x0);have lo:=low a ha hb;have up:=upp a ha hb;have tri:=tri a ha hb;generalize yA a x0=v at*;generalize yA a qx=u at*;generalize (a.b:Rat)=B at*;rcases tri with h|h
  .have h3:=hi.1 (lo h)
   rw[eD (k:=qy-u) (by grind),eD (k:=y0-v) (by grind)]
  .have h3:=up h
   have h4: ¬v<y0:=fun e=>by have:=hi.2 e;grind
   have e1:B*(qy-u)=(-B)*(u-qy):=by grind
   have e2:B*(y0-v)=(-B)*(v-y0):=by grind
   rw[e1,e2,eD (k:=u-qy) (by grind),eD (k:=v-y0) (by grind)]
def oo(out:List Rat)(s:ao):List Rat:=if s.nh then(if s.nl then out else kE s.lo out) else kE s.hi (if s.nl then out else kE s.lo out)
def kz(l:List ao):List Rat:=l.foldl oo []
def vE:List ao->Rat->Int
 |[],_=>0
 |s::t,x=>
  let a:=if s.nl then 1 else bz x s.lo
  let b:=if s.nh then-1 else bz x s.hi
  if 0<a/\b<0 then 2 else if(a=0/\b<=0)\/(b=0/\0<=a) then 1 else vE t x
def gO(l:List ao)(x:Rat):Bool:=decide (vE l x=2)
def fy(cuts:List Rat)(i:Nat):ao:=⟨if i=0 then 0 else cuts.getD (i-1) 0,if i<cuts.length then cuts.getD i 0 else 0,decide (i=0),decide (i=cuts.length)⟩
def vj(v w:ao):ao:=⟨v.lo,w.hi,v.nl,w.nh⟩
def io(cuts:List Rat)(marks:List Bool):Nat->List ao
 |0=>[]
 |k+1=>
  let out:=io cuts marks k
  if marks.getD k false then
   (if 0<k/\marks.getD (k-1) false=true then(match out.getLast? with
    |some v=>out.dropLast++[vj v (fy cuts k)]
    |none=>out++[fy cuts k]) else out++[fy cuts k])
  else out
def wo(cuts:List Rat)(marks:List Bool):List ao:=io cuts marks marks.length
def ot(op:Int)(x y:Bool):Bool:=if op=2 then x&&y else if op=3 then x&&!y else if op=4 then x !=y else x||y
def rg(op:Int)(a b:List ao):List ao:=wo (kz (a++b)) ((cp (kz (a++b))).map fun t=>ot op (gO a t) (gO b t))
def js(l m:ah)(side:Int):List ao:=
 if crossI l m=0 then(if(m.value l.base).num.sign=side then [ao.all] else [])
 else if(m.value (l.at (ju l (dm l m)+1))).num.sign=side then [⟨ju l (dm l m),0,false,true⟩] else [⟨0,ju l (dm l m),true,false⟩]
def mI(l m:ah):Bool:=decide (crossI l m=0/\(m.value l.base).num.sign=0)
def fB(f:bu)(m:ah)(side:Int):List bu:=if mI f.l m then [] else(rg 2 [f.v] (js f.l m side)).map fun v=>⟨f.l,v⟩
def Sa(l:List ao):(kz l).Pairwise (· < ·)/\ ∀y∈kz l,∃s∈l,(s.nl=false/\y=s.lo)\/(s.nh=false/\y=s.hi):=by
 have key: ∀(l:List ao) (o:List Rat),o.Pairwise (· < ·)->(l.foldl oo o).Pairwise (· < ·)/\ ∀y∈l.foldl oo o,y∈o\/ ∃s∈l,(s.nl=false/\y=s.lo)\/(s.nh=false/\y=s.hi):=by
  intro l
  induction l with
  |nil=>intro o h;exact⟨h,fun y hy=> .inl hy⟩
  |cons s t ih=>
   intro o h;have h1:(oo o s).Pairwise (· < ·)/\ ∀y∈oo o s,y∈o\/(s.nl=false/\y=s.lo)\/(s.nh=false/\y=s.hi):=by
    unfold oo
    cases e1:s.nl<;>cases e2:s.nh<;>simp only[if_true,kR,if_false]
    .refine⟨yy (yy h),fun y hy=>?_⟩
     rcases qH.1 hy with h|h
     .exact .inr (.inr ⟨trivial,h⟩)
     .rcases qH.1 h with h|h
      .exact .inr (.inl ⟨trivial,h⟩)
      .exact .inl h
    .refine⟨yy h,fun y hy=>?_⟩
     rcases qH.1 hy with h|h
     .exact .inr (.inl ⟨trivial,h⟩)
     .exact .inl h
    .refine⟨yy h,fun y hy=>?_⟩
     rcases qH.1 hy with h|h
     .exact .inr (.inr ⟨trivial,h⟩)
     .exact .inl h
    .exact⟨h,fun y hy=> .inl hy⟩
   obtain⟨k1,k2⟩:=ih (oo o s) h1.1;refine⟨k1,fun y hy=>?_⟩;rcases k2 y hy with h2|⟨q,hq,h2⟩
   .rcases h1.2 y h2 with h3|h3
    .exact .inl h3
    .exact .inr ⟨s,aQ,h3⟩
   .exact .inr ⟨q,aJ _ hq,h2⟩
 have:=key l [] List.Pairwise.nil;refine⟨this.1,fun y hy=>?_⟩;rcases this.2 y hy with h|h
 .cases h
 .exact h
structure Kb (cuts:List Rat) (v:ao):Prop where
 z:il v
 lo:v.nl=true\/v.lo∈cuts
 hi:v.nh=true\/v.hi∈cuts
def aDF{cuts:List Rat}(h:i<=cuts.length):Kb cuts (fy cuts i):=by
 unfold fy;refine⟨⟨fun e=>?_,fun e=>?_⟩,?_,?_⟩
 .simp only[decide_eq_true_eq] at e;simp[e]
 .simp only[decide_eq_true_eq] at e;simp[e]
 .by_cases h0:i=0
  .left;simp[h0]
  .right
   simp only[if_neg h0];rw[aW,aZ (by omega)];exact cN _
 .by_cases h0:i=cuts.length
  .left;simp[h0]
  .right
   simp only[if_pos (show i<cuts.length by omega)];rw[aW,aZ (by omega)];exact cN _
def PZ{cuts:List Rat}{marks:List Bool}: ∀{k:Nat},k<=cuts.length+1-> ∀v∈io cuts marks k,Kb cuts v
 |0,_,v,hv=>by cases hv
 |k+1,hk,v,hv=>by
  have ih:=PZ (cuts:=cuts) (marks:=marks) (k:=k) (by omega);have hg:=aDF (cuts:=cuts) (i:=k) (by omega);rw[io] at hv;split at hv
  .split at hv
   .split at hv
    .rename_i w hw
     rcases aL.1 hv with h|h
     .exact ih v ((List.dropLast_sublist _).subset h)
     .rw[aT] at h;subst h
      have hw':=ih w (List.mem_of_getLast? hw);exact⟨⟨hw'.z.1,hg.z.2⟩,hw'.lo,hg.hi⟩
    .rcases aL.1 hv with h|h
     .exact ih v h
     .rw[aT] at h;subst h;exact hg
   .rcases aL.1 hv with h|h
    .exact ih v h
    .rw[aT] at h;subst h;exact hg
  .exact ih v hv
def y6{l:List Rat}:(cp l).length=l.length+1:=by
 have key: ∀(l:List Rat) (a:Rat),(i9 (a::l)).length=l.length:=by
  intro l
  induction l with
  |nil=>intro a;rfl
  |cons b t ih=>intro a;rw[i9,aN,ih b,aN]
 cases l with
 |nil=>rfl
 |cons a t=>rw[cp,aN,aY,key];simp
def XN{a b:List ao}: ∀v∈rg op a b,Kb (kz (a++b)) v:=fun v hv=>by
 unfold rg wo at hv;refine PZ ?_ v hv;rw[aX,y6];omega
def IB{cuts:List Rat}{marks:List Bool}: ∀{k:Nat},(io cuts marks k).length<=k
 |0=>bW _
 |k+1=>by
  have ih:=IB (cuts:=cuts) (marks:=marks) (k:=k);rw[io];split
  .split
   .split
    .rename_i w hw
     have:=List.length_pos_of_mem (List.mem_of_getLast? hw);rw[aY,mL];simp;omega
    .rw[aY];simp;omega
   .rw[aY];simp;omega
  .omega
structure p8 (f:bu):Prop where
 lb:LB f.l
 ok:f.l.ok
 z:il f.v
 lo:BQ f.v.lo 1200
 hi:BQ f.v.hi 1200
theorem BQ.zero1200:BQ (0:Rat) 1200:=BQ.mono (k:=1) ⟨by decide,by decide⟩
def KO{l:ah}(hl:LB l)(hm:LB m)(hlo:l.ok): ∀v∈js l m side,il v/\BQ v.lo 1200/\BQ v.hi 1200:=fun v hv=>by
 unfold js at hv;split at hv
 .split at hv
  .rw[aT] at hv;subst hv;exact⟨il.all,BQ.zero1200,BQ.zero1200⟩
  .cases hv
 .rename_i hc
  have:=CQ hlo.ne hc;split at hv
  .rw[aT] at hv;subst hv;exact⟨⟨fun h=>(by cases h),fun _=>J⟩,this,BQ.zero1200⟩
  .rw[aT] at hv;subst hv;exact⟨⟨fun _=>J,fun h=>(by cases h)⟩,BQ.zero1200,this⟩
def GY{f:bu}(h:p8 f)(hm:LB m): ∀g∈fB f m side,p8 g/\g.l=f.l/\mI f.l m=false:=fun g hg=>by
 unfold fB at hg;split at hg
 .cases hg
 .rename_i ho
  obtain⟨v,hv,rfl⟩:=aU.1 hg;have hi:=XN v hv;have bd: ∀y∈kz ([f.v]++js f.l m side),BQ y 1200:=fun y hy=>by
   obtain⟨s,hs,h1⟩:=(Sa _).2 y hy;rcases aL.1 hs with hs|hs
   .rw[aT] at hs;subst hs
    rcases h1 with⟨_,rfl⟩|⟨_,rfl⟩
    .exact h.lo
    .exact h.hi
   .have:=KO h.lb hm h.ok s hs
    rcases h1 with⟨_,rfl⟩|⟨_,rfl⟩
    .exact this.2.1
    .exact this.2.2
  refine⟨⟨h.lb,h.ok,hi.z,?_,?_⟩,J,by simpa using ho⟩
  .rcases hi.lo with e|e
   .rw[hi.z.1 e];exact BQ.zero1200
   .exact bd _ e
  .rcases hi.hi with e|e
   .rw[hi.z.2 e];exact BQ.zero1200
   .exact bd _ e
def jC(acc:aa->Bool):Nat->List bu->List ah->Tr
 |_,[],c=> .leaf (acc (kl c c))
 |0,_::_,_=> .leaf false
 |n+1,f::t,c=> .node f.l (jC acc n ((f::t).flatMap fun g=>fB g f.l 1) (c++[f.l])) (jC acc n ((f::t).flatMap fun g=>fB g f.l (-1)) (c++[f.l.rev]))
def ayu{f g:bu}(h:g∈fB f m side):g.l=f.l:=by
 unfold fB at h;split at h
 .cases h
 .obtain⟨v,_,rfl⟩:=aU.1 h;rfl
def z7{acc:aa->Bool}{P:ah->Prop}: ∀{n:Nat} {l:List bu} {c:List ah},(∀f∈l,P f.l)->(jC acc n l c).all P
 |n,[],c,_=>by unfold jC;trivial
 |0,_::_,_,_=>by unfold jC;trivial
 |n+1,f::t,c,h=>by
  rw[jC];refine⟨h f aQ,z7 fun g hg=>?_,z7 fun g hg=>?_⟩<;>
  .obtain⟨q,hq,hg⟩:=iJ.1 hg
   rw[ayu hg];exact h q hq
def Jy{acc:aa->Bool}: ∀{n:Nat} {l:List bu} {c:List ah},(jC acc n l c).depth<=n
 |n,[],c=>by unfold jC;exact bV _
 |0,_::_,_=>by unfold jC;exact bV _
 |n+1,f::t,c=>by
  rw[jC,Tr.depth];have h1:=Jy (acc:=acc) (n:=n) (l:=(f::t).flatMap fun g=>fB g f.l 1) (c:=c++[f.l]);have h2:=Jy (acc:=acc) (n:=n) (l:=(f::t).flatMap fun g=>fB g f.l (-1)) (c:=c++[f.l.rev]);omega
def uj(n:Nat)(l:List bu):Prop:= ∃K:List ah,K.length<=n/\ ∀f∈l,∃m∈K,m.same f.l
def anN(hm:m.Ne):m.value m.base=0:=by
 have h:=mv hm 0;rw[<-An,gi] at h;grind
def XH{l:ah}(h:l.same m)(hm:m.Ne):mI m l=true:=by
 unfold mI;rw[decide_eq_true_iff];refine⟨?_,?_⟩
 .rcases h with rfl|rfl
  .unfold crossI;omega
  .unfold crossI ah.rev
   show(-l.a)*l.b-l.a*(-l.b)=0;grind
 .rw[me]
  exact pj h.symm (anN hm)
def uj.split{n:Nat}{f:bu}{t:List bu}(h:uj (n+1) (f::t))(hok: ∀g∈f::t,p8 g):uj n ((f::t).flatMap fun g=>fB g f.l side):=by
 obtain⟨K,hK,hs⟩:=h;refine⟨K.filter fun m=>!decide (m.same f.l),?_,fun g hg=>?_⟩
 .obtain⟨m,hm,hm2⟩:=hs f aQ
  have:(K.filter fun m=>!decide (m.same f.l)).length<K.length:=by
   refine List.length_filter_lt_length_iff_exists.2 ⟨m,hm,by simp[hm2]⟩
  omega
 .obtain⟨q,hq,hg⟩:=iJ.1 hg
  obtain⟨_,e,ho⟩:=GY (hok q hq) (hok f aQ).lb g hg;obtain⟨m,hm,hm2⟩:=hs q hq;refine⟨m,iR.2 ⟨hm,?_⟩,by rw[e];exact hm2⟩;simp only[iU,decide_eq_false_iff_not];intro h;have:=XH (h.symm.trans hm2) (hok q hq).ok.ne;rw[this] at ho;cases ho
def aHB{p q r:Bool}{a b c:Nat}(h:Nat.gcd a b≠0):ah.ok ⟨zv p (a/Nat.gcd (Nat.gcd a b) c),zv q (b/Nat.gcd (Nat.gcd a b) c),zv r (c/Nat.gcd (Nat.gcd a b) c)⟩:=by
 have hg:0<Nat.gcd (Nat.gcd a b) c:=lN _ (iS h);have d0:Nat.gcd (Nat.gcd a b) c∣Nat.gcd a b:=lJ _ _;have d1:Nat.gcd (Nat.gcd a b) c∣a:=rJ d0 (lJ _ _);have d2:Nat.gcd (Nat.gcd a b) c∣b:=rJ d0 (mZ _ _);have d3:Nat.gcd (Nat.gcd a b) c∣c:=mZ _ _;refine⟨?_,?_⟩
 .rintro ⟨h1,h2⟩
  have h1':=congrArg Int.natAbs h1;have h2':=congrArg Int.natAbs h2;simp only[sh,lT] at h1' h2';have e1:=Nat.div_mul_cancel d1;have e2:=Nat.div_mul_cancel d2;rw[h1',kU] at e1;rw[h2',kU] at e2;exact h (by rw[<-e1,<-e2];rfl)
 .simp only[sh]
  rw[Nat.gcd_div d1 d2,Nat.gcd_div d0 d3,Nat.div_self hg]
def Gd(p:Bool)(a g:Nat):(zv p (a/g)).natAbs<=a:=by rw[sh];exact nZ ..
def PF.eq{P:Program}{f:FuncId}{vs:List DV}{r r':DV}(h:PF GB P f vs r)(e:r=r'):PF GB P f vs r':=e▸h
def iP(m n:Int):aa:=⟨(m:Rat),(n:Rat)⟩
theorem A'{m:Int}(h:m.natAbs<2^k:=by omega):BI m k:=⟨h⟩
theorem m9{m:Int}(h:m.natAbs<=1000)(hk:10<=k:=by decide):BI m k:=⟨dJ (show m.natAbs<2^10 by omega) (bL (by decide) hk)⟩
instance aE.int (m n:Int) (i:Nat) [h:BI m i] [k:BI n i]:aE (iP m n) (i+1):=⟨inferInstanceAs (BQ (m:Rat) (i+1)),inferInstanceAs (BQ (n:Rat) (i+1))⟩
def vP{q:Rat}{k:Int}(h:q=(k:Rat)):eQ q=eQ (k:Rat):=by rw[h]
def ePI{m n:Int}(h1:p.x=(m:Rat))(h2:p.y=(n:Rat)):eP p=eP (iP m n):=by
 obtain⟨x,y⟩:=p;simp only at h1 h2;subst h1 h2;rfl
def oG(a b c:Int):ah:=
 ⟨zv (decide (a<0)) (a.natAbs/Nat.gcd (Nat.gcd a.natAbs b.natAbs) c.natAbs),zv (decide (b<0)) (b.natAbs/Nat.gcd (Nat.gcd a.natAbs b.natAbs) c.natAbs),zv (decide (c<0)) (c.natAbs/Nat.gcd (Nat.gcd a.natAbs b.natAbs) c.natAbs)⟩
def Jl{a b c:Int}(h: ¬(a=0/\b=0)):(oG a b c).ok:=
 aHB fun e=>h ⟨kM.1 (mV e),kM.1 (mX e)⟩
def Ce(a b c:Int):(oG a b c).a.natAbs<=a.natAbs/\(oG a b c).b.natAbs<=b.natAbs/\(oG a b c).c.natAbs<=c.natAbs:=⟨Gd ..,Gd ..,Gd ..⟩
def ji{m n:Int}(hm:m.natAbs<=1000:=by omega)(hn:n.natAbs<=1000:=by omega):PF GB prog 38 [.v (.int .i64 m), .v (.int .i64 n)] (eP (iP m n)):=by
 refine fn func38 J J ntmps38 J J (fun C=>?_);refine cl J (jl (n:=m) (by omega) (by omega)) J<|cl J (jl (n:=n) (by omega) (by omega)) J<|rz J J
def Ft{m n k:Int}(hm:m.natAbs<=1000)(hn:n.natAbs<=1000)(hm':m'.natAbs<=1000)(hn':n'.natAbs<=1000)(hk:k.natAbs<=1000:=by decide):PF GB prog 31 [eP (iP m n),eQ (k:Rat),eP (iP m' n')] (eP (iP (m+k*m') (n+k*n'))):=by
 haveI:=m9 (k:=10) hm;haveI:=m9 (k:=10) hn;haveI:=m9 (k:=10) hm';haveI:=m9 (k:=10) hn';haveI:=m9 (k:=10) hk;exact PF.eq (wU (p:=iP m n) (q:=iP m' n') (c:=(k:Rat))) (ePI (by show(m:Rat)+(k:Rat)*(m':Rat)=_;push_cast;rfl) (by show(n:Rat)+(k:Rat)*(n':Rat)=_;push_cast;rfl))
def aIi{m n:Int}(hm:m.natAbs<=1000)(hn:n.natAbs<=1000)(hm':m'.natAbs<=1000)(hn':n'.natAbs<=1000):PF GB prog 143 [eP (iP m n),eP (iP m' n')] (eP (iP (m-m') (n-n'))):=by
 refine fn func143 J J ntmps143 J J (fun C=>?_);refine cl J (jl (n:= -1)) J<|cl J (Ft (m:=m) (n:=n) (m':=m') (n':=n') (k:= -1) hm hn hm' hn') J<|rz J (by rw[show m-m'=m+ -1*m' by omega,show n-n'=n+ -1*n' by omega];rfl)
def XB{m n:Int}(hm:m.natAbs<=1000)(hn:n.natAbs<=1000)(hm':m'.natAbs<=1000)(hn':n'.natAbs<=1000):PF GB prog 158 [eP (iP m n),eP (iP m' n')] (.v (.bool (decide (m=m'/\n=n')))):=by
 haveI:=m9 (k:=10) hm;haveI:=m9 (k:=10) hn;haveI:=m9 (k:=10) hm';haveI:=m9 (k:=10) hn';refine fn func158 J J ntmps158 J J (fun C=>?_);refine cl J (mp (a:=(m:Rat)) (b:=(m':Rat))) J<|cs 11 J J J (fun hg11=>?_) (fun hg11=>?_)
 .
  refine cl J (mp (a:=(n:Rat)) (b:=(n':Rat))) J<|rz J (by rw[vJ] at hg11;have e:m=m':=(by exact_mod_cast hg11);exact congrArg (fun z=>DV.v (.bool z)) (decide_eq_decide.2 (by rw[vJ,rY];simp[e])))
 .
  exact rz J (by rw[vJ] at hg11;have e: ¬m=m':=(fun e=>hg11 (by rw[e]));show DV.v (.bool false)=DV.v (.bool _);rw[decide_eq_false (fun h=>e h.1)])
def Pn{a b:Nat}(ha:a<k)(hb:b<k):Nat.gcd a b<k:=by
 rcases fX a with rfl|p
 .simpa using hb
 .exact fU (Nat.gcd_le_left b p) ha
def aEP{a b c:Int}(ha:BI a i)(hb:BI b i)(hc:BI c i)(hi:i<=100000000)(h0: ¬(a=0/\b=0)):PF GB prog 146 [eI a,eI b,eI c] (.tp [eL (oG a b c), .v (.bool true)]):=by
 have hgn:Nat.gcd a.natAbs b.natAbs≠0:=fun h=>h0 ⟨kM.1 (mV h),kM.1 (mX h)⟩;have hgp:0<Nat.gcd (Nat.gcd a.natAbs b.natAbs) c.natAbs:=lN _ (iS hgn);haveI hb1:BN (Nat.gcd a.natAbs b.natAbs) i:=⟨Pn ha.h hb.h⟩;haveI hb2:BN (Nat.gcd (Nat.gcd a.natAbs b.natAbs) c.natAbs) i:=⟨Pn hb1.h hc.h⟩;refine fn func146 J J ntmps146 J J (fun C=>?_);refine cl J (AZ (a:=a.natAbs) (b:=b.natAbs) (by omega) (by omega)) J<|br J J J (fun hc22=>?_) (fun hc22=>?_)
 .
  exact absurd hc22 (by rw[aX];intro h;exact hgn (vQ.1 (by omega)))
 .
  refine cl J (AZ (a:=Nat.gcd a.natAbs b.natAbs) (b:=c.natAbs) (by omega) (by omega)) J<|cl J (x7 (a:=a.natAbs) (b:=Nat.gcd (Nat.gcd a.natAbs b.natAbs) c.natAbs) hgp (by omega) (by omega)) J<|cl J (x7 (a:=b.natAbs) (b:=Nat.gcd (Nat.gcd a.natAbs b.natAbs) c.natAbs) hgp (by omega) (by omega)) J<|cl J (x7 (a:=c.natAbs) (b:=Nat.gcd (Nat.gcd a.natAbs b.natAbs) c.natAbs) hgp (by omega) (by omega)) J<|cl J (kB (m:=a.natAbs/(Nat.gcd (Nat.gcd a.natAbs b.natAbs) c.natAbs)) (neg:=decide (a<0))) J<|cl J (kB (m:=b.natAbs/(Nat.gcd (Nat.gcd a.natAbs b.natAbs) c.natAbs)) (neg:=decide (b<0))) J<|cl J (kB (m:=c.natAbs/(Nat.gcd (Nat.gcd a.natAbs b.natAbs) c.natAbs)) (neg:=decide (c<0))) J<|rz J J
def l9(n n':Int):Int:= -(n'-n)
def l8(m m':Int):Int:=m'-m
def t6(m n m' n':Int):Int:= -(l9 n n'*m+l8 m m'*n)
def nv(m n m' n':Int):ah:=oG (l9 n n') (l8 m m') (t6 m n m' n')
def EN{a b:Int}(ha:a.natAbs<=2000)(hb:b.natAbs<=1000):(a*b).natAbs<=2000000:=by
 rw[fR];exact iW ha hb
def LR{m n:Int}(hm:m.natAbs<=1000)(hn:n.natAbs<=1000)(hm':m'.natAbs<=1000)(hn':n'.natAbs<=1000)(h0: ¬(m=m'/\n=n')):PF GB prog 73 [eP (iP m n),eP (iP m' n')] (.tp [eL (nv m n m' n'), .v (.bool true)]):=by
 obtain⟨a,hA⟩: ∃a,a=l9 n n':=⟨_,rfl⟩;obtain⟨b,hB⟩: ∃b,b=l8 m m':=⟨_,rfl⟩;have hA':a= -(n'-n):=hA;have hB':b=m'-m:=hB;obtain⟨c,hC⟩: ∃c,c= -(a*m+b*n):=⟨_,rfl⟩;have e1:=EN (a:=a) (b:=m) (by omega) hm;have e2:=EN (a:=b) (b:=n) (by omega) hn;haveI hm0:=m9 (k:=10) hm;haveI hn0:=m9 (k:=10) hn;haveI ha:BI a 30:=A';haveI hb:BI b 30:=A';haveI hc:BI c 30:=A';have hthr:nv m n m' n'=oG a b c:=by rw[hC,hA,hB];rfl
 have hne: ¬(a=0/\b=0):=fun h=>h0 (by omega);refine fn func73 J J ntmps73 J J (fun C=>?_);refine cl J (aIi (m:=m') (n:=n') (m':=m) (n':=n) hm' hn' hm hn) J<|cl J (PF.eq (vN (q:=(((n'-n):Int):Rat))) (vP (k:=a) (by rw[hA'];push_cast;rfl))) J<|cl J (PF.eq (jh (a:=(a:Rat)) (b:=(m:Rat))) (vP (k:=a*m) (by push_cast;rfl))) J<|cl J (PF.eq (by haveI:BI (m'-m) 30:=(by rw[<-hB'];exact hb);exact jh (a:=(((m'-m):Int):Rat)) (b:=(n:Rat))) (vP (k:=b*n) (by rw[hB'];push_cast;rfl))) J<|cl J (PF.eq (nE (a:=((a*m:Int):Rat)) (b:=((b*n:Int):Rat))) (vP (k:=a*m+b*n) (by push_cast;rfl))) J<|cl J (PF.eq (vN (q:=((a*m+b*n:Int):Rat))) (vP (k:=c) (by rw[hC];push_cast;rfl))) J<|cl J (lg (q:=(a:Rat))) J<|cl J (lg (q:=(((m'-m):Int):Rat))) J<|cl J (PF.eq (rO (a:=1) (b:=1)) J) J<|cl J (lg (q:=(c:Rat))) J<|cl J (PF.eq (rO (a:=1) (b:=1)) J) J<|cl (fu:=⟨1⟩) J (kB (neg:=false) (m:=1)) J<|aj 40 (.d (eQ ((1:Int):Rat))) J J<|gx J<|cl J (PF.eq (jh (a:=(a:Rat)) (b:=((1:Int):Rat))) (vP (k:=a) (by push_cast;grind))) J<|cl J (PF.eq (by haveI:BI (m'-m) 30:=(by rw[<-hB'];exact hb);exact jh (a:=(((m'-m):Int):Rat)) (b:=((1:Int):Rat))) (vP (k:=b) (by rw[hB'];push_cast;grind))) J<|cl J (PF.eq (jh (a:=(c:Rat)) (b:=((1:Int):Rat))) (vP (k:=c) (by push_cast;grind))) J<|cl J (aEP (a:=a) (b:=b) (c:=c) ha hb hc (by decide) hne) J<|rz J (by rw[hthr];rfl)
end Go.Sx
end
