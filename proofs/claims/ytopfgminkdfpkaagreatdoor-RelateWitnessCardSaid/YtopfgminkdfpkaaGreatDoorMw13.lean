/-
  Package bsp: Each with any visitor; Size. Reading a tree as a function; what is read is sound. errors.Is, for what the laws hand it: an error and itself, no error. (After the worked contracts of the kit's example Sentry.) The abstract machine: what a named variable holds. Operations on regions. Trees of package api read back. Reference: numbers and lines written for package api. Reference: lines as they come. Program: lines and cells as they come; restriction, reduction and splitting. Program: a tree is the same as itself; what is reduced. The abstract machine: functions that hand back a new row. The abstract machine: calls that take a row over and hand it back, and nothing else. Plain geometry: what a tree says of the points that lie on none of its lines; restriction, merging and complement by points.
-/
import Derived.Test.YtopfgminkdfpkaaGreatDoorMw12
import Derived.WalkKit
import Derived.LaidEql
import Derived.Stop.Asserts
import Derived.RowKitTokens
set_option linter.unusedSimpArgs false
set_option maxHeartbeats 1000000
set_option maxRecDepth 100000
set_option linter.unusedVariables false
section
namespace Go.Sx
open Go Go.Proofs
def Tr.pre:Tr→List Tr
 | .leaf b=>[.leaf b]
 | .node l x y=> .node l x y::(x.pre++y.pre)
structure Vis (f:FuncId) (c2:List Value) (σ:Type) (step:σ→Tr→σ) (ok:σ→Tr→Prop) (Inv:σ→List Own→Gh→Prop):Prop where
 up: ∀{s B G G'},GLe G G'→Inv s B G→Inv s B G'
 re: ∀{s B G} (fl:Nat→Bool),Inv s B G→Inv s (B.map (relo fl)) G
 go: ∀{s t p B G},ok s t→Inv s B G→Is G (eU t) (.pointer p)→FnO Tryz.prog f (.pointer p::c2) B G (fun _ B' G'=>Inv (step s t) B' G')
section
variable {P:Program} {C:Ctx} {n:Nat} {fr:Fr} {own:List Own} {G:Gh}
theorem ajc{fn:Func}{K:Value→List Own→Gh→Prop}{vs:List Value}(hr:RVs P fr own fn.results.toList vs)(own2 own3:List Own)(hp:own.Perm own2)(hs:own3.Sublist own2)(hk:K (abO vs) own3 G):St C n fr own G (bodyPost P fn (aga C K) .normal):=
 fun a w rl=>⟨rl.df,_,ac3 hr rl.fr rl.h,_,own3,G,rfl,(rl.h.perm hp).drop hs,hk⟩
end
def ajv{σ:Type}(step:σ→Tr→σ)(ok:σ→Tr→Prop):σ→List Tr→Prop
 |_,[]=>True
 |s,t::ts=>ok s t∧ajv step ok (step s t) ts
structure EX (σ:Type) where
 ts:List Tr
 vs:List Value
 rest:List Value
 b:Nat
 cap:Nat
 lo:Bool
 s:σ
 B:List Own
def tsz(t:Tr):Nat:=2*t.size+1
theorem aAb(ts:List Tr):ts.length≤(ts.map tsz).sum:=by
 induction ts with
 |nil=>exact Nat.le_refl _
 |cons t ts ih=>simp only[List.length_cons,List.map_cons,List.sum_cons,tsz];omega
def stk(ts:List Tr):List Tr:=ts.reverse.flatMap Tr.pre
structure EI (A:Gh) {σ:Type} (step:σ→Tr→σ) (ok:σ→Tr→Prop) (Inv:σ→List Own→Gh→Prop) (N:Nat) (fin:σ) (x:EX σ) (G:Gh):Prop where
 rel:amM (fun v t=> ∃p,v= .pointer p∧Is A (eU t) (.pointer p)) x.vs x.ts
 cap:x.vs.length+x.rest.length=x.cap
 inv:Inv x.s x.B G
 mu:(x.ts.map tsz).sum≤N
 okf:ajv step ok x.s (stk x.ts)
 fin:(stk x.ts).foldl step x.s=fin
theorem agr{α β:Type}{R:α→β→Prop}{v:α}{t:β}: ∀{vs:List α} {ts:List β},amM R (vs++[v]) (ts++[t])→amM R vs ts∧R v t
 |[],[], .cons h .nil=>⟨.nil,h⟩
 |[],_::b, .cons _ h=>by cases b<;>cases h
 |_::a,[], .cons _ h=>by cases a<;>cases h
 |_::_,_::_, .cons h k=>⟨.cons h (agr k).1,(agr k).2⟩
theorem aCC{f:FuncId}{c2:List Value}{σ:Type}{step:σ→Tr→σ}{ok:σ→Tr→Prop}{Inv:σ→List Own→Gh→Prop}(V:Vis f c2 σ step ok Inv){t:Tr}{p:Option Addr}{s:σ}{B:List Own}{G:Gh}
  (h:Is G (eU t) (.pointer p))(hI:Inv s B G)(hok:ajv step ok s t.pre)(hs:t.size≤1000000000000):
  FnO Tryz.prog 240 [.pointer p, .func (.func f) #[] ⟨c2⟩] B G (fun _ B' G'=>Inv (t.pre.foldl step s) B' G'):=by
 refine FnO.intro Tryz.func240 J J Tryz.ntmps240 rfl ?_
 intro C _ _
 refine sR<|sm J J<|?_
 refine sc (asj rfl (by rfl) (by rfl) (by decide) (by decide) rfl ?_)
 intro b1
 refine sa J J<|zE<|aas<|?_
 refine abZ (X:=EX σ) (fun x=>[(4, .slice (some ⟨x.b,0,none⟩) x.vs.length x.cap),(1, .func (.func f) #[] ⟨c2⟩)]) (fun x=>⟨x.b,x.vs++x.rest,95,x.lo⟩::x.B) (EI G step ok Inv (tsz t) (t.pre.foldl step s)) (fun x=>(x.ts.map tsz).sum)
  ⟨[t],[.pointer p],[],b1,1,true,s,asB B⟩ ⟨.cons ⟨p,rfl,h⟩ .nil,rfl,V.re (fun _=>false) hI,by simp,by simpa[stk] using hok,by simp[stk]⟩ (.cons rfl (.cons rfl .nil)) rfl ?_
 rintro ⟨ts,vs,rest,b,cap,lo,s1,B1⟩ Gx _ ⟨hrel,hcap,hinv,hmu,hokf,hfin⟩
 simp only at hrel hcap hinv hmu hokf hfin
 have hln:=hrel.len
 have hlt:=aAb ts
 unfold tsz at hmu hlt
 refine aaj<|sR<|sm J J<|adj J J<|sy (af8 J J) rfl<|zE<|?_
 refine abn rfl (fun hc=>?_) (fun hc=>?_)
 ·refine abu<|abI<|abI<|aar<|?_
  refine ajc .nil _ _ (List.Perm.refl _) (List.sublist_cons_self _ _) ?_
  obtain rfl:ts=[]:=by
   cases ts with
   |nil=>rfl
   |cons a l=>simp only[List.length_cons] at hln;exfalso;apply hc;show(0:Int)<(vs.length:Int);omega
  have:s1=t.pre.foldl step s:=hfin
  rw[←this]
  exact hinv
 refine zK<|?_
 obtain⟨vs,v,rfl⟩: ∃vs' v',vs=vs'++[v']:=by
  rcases List.eq_nil_or_concat vs with e|⟨a,b,e⟩
  ·subst e;simp at hc
  ·exact⟨a,b,by rw[e,List.concat_eq_append]⟩
 obtain⟨ts,u,rfl⟩: ∃vs' v',ts=vs'++[v']:=by
  rcases List.eq_nil_or_concat ts with e|⟨a,b,e⟩
  ·subst e;simp at hln
  ·exact⟨a,b,by rw[e,List.concat_eq_append]⟩
 obtain⟨hrel1,q,rfl,hq⟩:=agr hrel
 have hl1:(vs++[Value.pointer q]).length=vs.length+1:=by simp
 have hst:stk (ts++[u])=u.pre++stk ts:=by simp[stk]
 rw[hst] at hokf hfin
 simp only[List.map_append,List.sum_append,List.map_cons,List.map_nil,List.sum_cons,List.sum_nil,Nat.add_zero,List.length_append,List.length_singleton] at hmu hlt hln hcap
 refine axG [(4,Value.slice (some ⟨b,0,none⟩) (vs.length+1:Nat) cap),(1, .func (.func f) #[] ⟨c2⟩)] (.cons (by show some (Value.slice _ (vs++[Value.pointer q]).length _)=_;rw[hl1]) (.cons rfl .nil)) ?_
 refine aas<|sR<|sm J J<|adj J J<|sy (aa7 J J) rfl<|sa J J<|zE<|sR<|sm J J<|?_
 rw[show((vs.length+1:Nat):Int)-1=(vs.length:Nat) by omega]
 refine sm J J<|sy (abf J J (by omega) (by omega)) rfl<|?_
 refine sy (aaD (v:=Value.pointer q) rfl (by rw[Int.toNat_natCast,Nat.mul_one,List.append_assoc,List.getElem?_append_right (Nat.le_refl _),Nat.sub_self];rfl)) rfl<|sa J J<|zE<|sR<|sm J J<|sm J J<|sy (ac0 J J (by omega) (by omega)) rfl<|?_
 rw[Int.toNat_natCast]
 refine sa J J<|zE<|sR<|sm J J<|sm J J<|?_
 have hokq:ok s1 u∧ajv step ok (step s1 u) (u.pre.tail++stk ts):=by cases u<;>exact hokf
 refine sc (akZ (c1:=[]) (M:=B1) (rest:=[⟨b,vs++[Value.pointer q]++rest,95,lo⟩]) J J (List.perm_append_comm (l₁:=[_])) (V.go hokq.1 hinv (hq.up GL.le)) rfl ?_)
 rintro _ B2 G2 fl _ _ _ hinv2
 replace hinv2:=V.re fl hinv2
 refine aA6 (⟨b,vs++Value.pointer q::rest,95,lo⟩::B2.map (relo fl)) (by rw[List.append_assoc];exact(List.perm_append_comm (l₂:=[_]))) ?_
 generalize B2.map (relo fl)=B2 at*
 refine zE<|sR<|sm J J<|?_
 cases u with
 |leaf bb=>
  refine sc (zC J J (PF.fn0 abA (.cons (hq.up GL.le) .nil)) rfl ?_)
  rintro _ G3 _ hv
  cases aaV.1 hv
  refine sy (ah5 rfl) rfl<|zE<|aeS rfl<|zK<|?_
  exact aaX ⟨ts,vs,Value.pointer q::rest,b,cap,lo,step s1 (.leaf bb),B2⟩ ⟨hrel1,by simp only[List.length_cons];omega,V.up GL.le hinv2,by simp only;unfold tsz;omega,hokq.2,hfin⟩ (by simp only[List.map_append,List.sum_append,List.map_cons,List.map_nil,List.sum_cons,List.sum_nil];unfold tsz;omega) (.cons rfl (.cons rfl .nil)) rfl
 |node l x y=>
  obtain⟨nbk,m,e,hg,hm⟩:=akr.1 (id hq)
  cases e
  obtain⟨n1,d1,p1,n2,d2,p2,n3,d3,p3,q1,q2,rfl,_,hx,hy⟩:=aAN hm
  have hgg:aB3 G nbk _:=⟨hg⟩
  refine sc (zC J J (PF.fn0 abK (.cons (hq.up GL.le) .nil)) rfl ?_)
  rintro _ G3 _ hv
  cases aaV.1 hv
  refine sy (ah5 rfl) rfl<|zE<|acr rfl<|?_
  refine drS [] (fun _=>false) [(0,true),(1,true),(2,true),(3,true),(4,true),(5,true),(6,true),(7,true),(8,true),(9,false),(10,false),(11,true)] follows (by kernel_rfl)<|dM J J J<|?_
  refine dM J J J<|dy rfl (fun _=>aaP rfl) J J<|dF J J J<|dy rfl (fun _=>adW rfl ghi rfl) J J<|?_
  refine dM J J J<|dy rfl (fun _=>aaP rfl) J J<|dF J J J<|dy rfl (fun _=>adW rfl ghi rfl) J J<|?_
  refine dc J J (air (by rfl) (by rfl) (by rfl) (by rfl) rfl ?_)
  intro b3
  refine av6<|?_
  refine dc J J (agC (m:=2) (xs:=vs) (ys:=[Value.pointer q2,Value.pointer q1]) (rest:=Value.pointer (some ⟨nbk,0,none⟩)::rest) J J (.tl _ _ _ _ (.hd ..)) (by omega) (by simp only[List.length_cons];omega) (by omega) (ahE inferInstance rfl) rfl (by simp[Sx.flat]) (by decide) (by omega) (by rfl) rfl ?_)
  intro b4 lo4 cap4 rest4 h1 h2
  refine av6<|dA J J J<|dn<|?_
  have hsz:(Tr.node l x y).size=1+x.size+y.size:=rfl
  refine asd (⟨b4,vs++[Value.pointer q2,Value.pointer q1]++rest4,95,lo4⟩::B2) (.cons_cons _ (List.sublist_cons_self _ _)) ?_
  have hs2:stk (ts++[y,x])=x.pre++y.pre++stk ts:=by simp[stk]
  refine aaX ⟨ts++[y,x],vs++[Value.pointer q2,Value.pointer q1],rest4,b4,cap4,lo4,step s1 (.node l x y),B2⟩ ⟨hrel1.app (.cons ⟨_,rfl,hy⟩ (.cons ⟨_,rfl,hx⟩ .nil)),by simp only[List.length_append,List.length_cons,List.length_nil];omega,V.up GL.le hinv2,?_,?_,?_⟩ ?_ (.cons (by show some (Value.slice _ (vs.length+2) _)=some (Value.slice _ (vs++[_,_]).length _);rw[List.length_append];rfl) (.cons rfl .nil)) rfl
  ·simp only[List.map_append,List.sum_append,List.map_cons,List.map_nil,List.sum_cons,List.sum_nil];unfold tsz;omega
  ·simp only;rw[hs2];exact hokq.2
  ·simp only;rw[hs2];exact hfin
  ·simp only[List.map_append,List.sum_append,List.map_cons,List.map_nil,List.sum_cons,List.sum_nil];unfold tsz;omega
/-! ### Size -/
theorem avs{P:Program}{C:Ctx}{n:Nat}{fr:Fr}{own:List Own}{G:Gh}{Φ:Act→World→Prop}{dst:Option Nat}{ty':TypeId}{pos:String}{af:Array Edge}{gd:Option (Nat×Bool)}{f:FuncId}{fo:Operand}{args:Array Operand}{tys:Array TypeId}{vs:List Value}{M rest:List Own}{K:Value→List Own→Gh→Prop}(ho:opv fr fo=some (.func (.func f) #[] #[]))(hv:af7 fr args.toList=some vs)
  (hp:own.Perm (M++rest))(hF:FnO P f vs M G K)(hd:aaO n dst=true)
  (h: ∀v own1 (G':Gh) (fl:Nat→Bool),[GE G G']→(∀m∈M,m.lo=false→fl m.b=false)→((∀m∈M,m.lo=true)→ ∀b,fl b=true)→K v own1 G'→St C n (put fr dst v) (own1.map (relo fl)++rest) G' Φ):
  Ch P C n fr own G ⟨dst, .call ⟨.value fo,args,tys⟩,ty',pos,af,gd⟩ Φ:=
 akZ (c1:=[]) (c2:=[]) ho hv hp (by simpa using hF) hd h
def szI(nbk:Nat)(s:Nat)(B:List Own)(_:Gh):Prop:= ∃lo,B=[⟨nbk,[.int .i64 s],3,lo⟩]
def szS(s:Nat):Tr→Nat
 | .leaf _=>s
 | .node .. =>s+1
theorem axY(nbk:Nat):Vis 241 [.pointer (some ⟨nbk,0,none⟩)] Nat szS (fun s _=>s<1000000000000) (szI nbk) where
 up:=fun _ h=>h
 re:=fun{s B G} fl h=>by obtain⟨lo,rfl⟩:=h;exact⟨_,rfl⟩
 go:=by
  intro s t p B G hs hI ht
  obtain⟨lo,rfl⟩:=hI
  refine FnO.intro Tryz.func241 J J Tryz.ntmps241 rfl ?_
  intro C _ _
  show St C _ _ [⟨nbk,_,_,false⟩] _ _
  cases t with
  |node l x y=>
   refine sR<|sm J J<|?_
   refine sc (zC J J (PF.fn0 abK (.cons ht .nil)) rfl ?_)
   rintro _ G1 _ hv
   cases aaV.1 hv
   refine sy (ah5 rfl) rfl<|zE<|acr rfl<|aam<|asR J J J<|sy (aaq J J) rfl<|?_
   refine sc (acx J J J (.hd ..) (nb rfl) J J ?_)
   refine zE<|?_
   exact ajc .nil _ _ (List.Perm.refl _) (List.Sublist.refl _) ⟨false,by show [_]=[_];rfl⟩
  |leaf b=>
   refine sR<|sm J J<|?_
   refine sc (zC J J (PF.fn0 abA (.cons ht .nil)) rfl ?_)
   rintro _ G1 _ hv
   cases aaV.1 hv
   refine sy (ah5 rfl) rfl<|zE<|aeS rfl<|zK<|?_
   exact ajc .nil _ _ (List.Perm.refl _) (List.Sublist.refl _) ⟨false,rfl⟩
theorem al4: ∀(t:Tr) (s:Nat),t.pre.foldl szS s=s+t.size
 | .leaf _,s=>rfl
 | .node l x y,s=>by
  simp only[Tr.pre,List.foldl_cons,List.foldl_append,szS,al4 x,al4 y,Tr.size]
  omega
theorem asM: ∀(t:Tr) (s:Nat) (L:List Tr),s+t.size<1000000000000→(∀s',s'=s+t.size→ajv szS (fun s _=>s<1000000000000) s' L)→ajv szS (fun s _=>s<1000000000000) s (t.pre++L)
 | .leaf _,s,L,h,k=>⟨by simp only[Tr.size] at h;omega,k _ rfl⟩
 | .node l x y,s,L,h,k=>by
  simp only[Tr.size] at h k
  simp only[Tr.pre,List.cons_append,List.append_assoc]
  exact⟨by omega,asM x _ _ (by simp only[szS];omega) fun s1 e1=>asM y _ _ (by subst e1;simp only[szS];omega) fun s2 e2=>k _ (by subst e1 e2;simp only[szS];omega)⟩
theorem aDu{GB:Gh}{t:Tr}(hs:t.size<1000000000000):PF GB Tryz.prog 192 [eU t] (vI (t.size:Nat)):=by
 intro G vs _ hv
 obtain⟨v0,m,rfl,h,hm⟩:=aab.1 hv
 rw[aaJ] at hm;subst hm
 obtain⟨p,rfl⟩:=age h
 refine Fn.intro Tryz.func192 J J Tryz.ntmps192 rfl ?_
 intro C _ _
 refine sR<|sa J J<|zE<|sR<|?_
 refine sc (afW rfl ?_)
 intro b1
 refine sc (acx J J J (.hd ..) (nb rfl) J J ?_)
 refine zE<|sR<|sm J J<|sy (aoR J J) rfl<|?_
 have hok:ajv szS (fun s _=>s<1000000000000) 0 t.pre:=by
  have:=asM t 0 [] (by omega) (fun _ _=>trivial)
  rwa [List.append_nil] at this
 refine sc (avs (M:=[⟨b1,[.int .i64 0],3,true⟩]) (rest:=[]) J J (List.Perm.refl _) (aCC (axY b1) h ⟨true,rfl⟩ hok (by omega)) rfl ?_)
 rintro _ B G2 fl _ _ _ ⟨lo,rfl⟩
 rw[al4,Nat.zero_add]
 show St C _ _ [⟨b1,[.int .i64 t.size],3,_⟩] _ _
 refine zE<|sR<|asR J J J<|sa J J<|zE<|aaL<|?_
 exact zD (.tmp rfl .nil) (aaV.2 rfl)
def ah4(n:Nat)(f:Nat→Bool):Nat:=((List.range n).filter fun j=>!f j).length
theorem arm{n k:Nat}{f:Nat→Bool}(hk:k<n)(hf:f k=false):ah4 n (an6 f k)+1=ah4 n f:=by
 unfold ah4
 have key: ∀l:List Nat,l.Nodup→((l.filter fun j=>!an6 f k j).length+(if k∈l then 1 else 0)=(l.filter fun j=>!f j).length):=fun l=>by
  induction l with
  |nil=>intro _;rfl
  |cons a l ih=>
   intro hn
   obtain⟨h1,h2⟩:=List.nodup_cons.1 hn
   have:=ih h2
   by_cases e:a=k
   ·subst e
    simp only[List.filter_cons,aur,hf,List.mem_cons,true_or,if_true] at this⊢
    rw[if_neg h1] at this
    simp at this⊢
    omega
   ·have e': ¬k=a:=fun h=>e h.symm
    simp only[List.filter_cons,aj5 e,List.mem_cons,e',false_or] at this⊢
    cases f a<;>simp at this⊢ <;>omega
 have:=key (List.range n) List.nodup_range
 rwa [if_pos (List.mem_range.2 hk)] at this
def rdF(ns:List RN):Nat→Int→RS→Tr×RS
 |0,_,s=>(.leaf false,s)
 |m+1,rt,s=>
  if rt= -1 then(.leaf false,s) else if rt= -2 then(.leaf true,s) else
  match ns[rt.toNat]? with
  |none=>(.leaf false,⟨s.f,s.c,true⟩)
  |some n=>if rt<0∨s.f rt.toNat=true then(.leaf false,⟨s.f,s.c,true⟩) else
   match n.g.ln with
   |none=>(.leaf false,⟨an6 s.f rt.toNat,s.c+1,true⟩)
   |some l=>let a:=rdF ns m n.l ⟨an6 s.f rt.toNat,s.c+1,s.b⟩;let b:=rdF ns m n.r a.2;(.node l a.1 b.1,b.2)
theorem apU{ns:List RN}: ∀{m:Nat} {rt:Int} {s:RS},ah4 ns.length s.f<m→RR ns rt s (rdF ns m rt s).1 (rdF ns m rt s).2∧(rdF ns m rt s).2.c+ah4 ns.length (rdF ns m rt s).2.f=s.c+ah4 ns.length s.f
 |0,_,_,h=>absurd h (Nat.not_lt_zero _)
 |m+1,rt,s,h=>by
  rw[rdF]
  split
  ·rename_i e;subst e;exact⟨.leaf false s,rfl⟩
  rename_i e1
  split
  ·rename_i e;subst e;exact⟨.leaf true s,rfl⟩
  rename_i e2
  split
  ·rename_i hn
   have:=List.getElem?_eq_none_iff.1 hn
   exact⟨.bad rt s e1 e2 (by omega),rfl⟩
  rename_i n hn
  have hlt:=(List.getElem?_eq_some_iff.1 hn).1
  split
  ·rename_i hb
   refine⟨.bad rt s e1 e2 ?_,rfl⟩
   rcases hb with hb|hb
   ·exact .inl hb
   ·by_cases h0:rt<0
    ·exact .inl h0
    ·exact .inr (.inr ⟨rt.toNat,by omega,hlt,hb⟩)
  rename_i hb
  obtain⟨k,rfl⟩: ∃k:Nat,rt=k:=⟨rt.toNat,by omega⟩
  rw[Int.toNat_natCast] at hn hlt hb⊢
  have hf:s.f k=false:=by
   cases hh:s.f k with
   |false=>rfl
   |true=>exact absurd (Or.inr hh) hb
  have hu:=arm hlt hf
  split
  ·rename_i hl;exact⟨.line k n s hn hf hl,by simp only;omega⟩
  rename_i l hl
  have h1:=apU (ns:=ns) (m:=m) (rt:=n.l) (s:=⟨an6 s.f k,s.c+1,s.b⟩) (by simp only;omega)
  have hc:=h1.1.mono
  simp only at h1 hc
  have h2:=apU (ns:=ns) (m:=m) (rt:=n.r) (s:=(rdF ns m n.l ⟨an6 s.f k,s.c+1,s.b⟩).2) (by omega)
  exact⟨.node k n l s _ _ _ _ hn hf hl h1.1 h2.1,by have:=h1.2;have:=h2.2;dsimp only;omega⟩
def ofQ(ns:List RN)(rt:Int):Option Tr:=
 let r:=rdF ns (ns.length+1) rt rs0
 if r.2.b=false∧r.2.c=ns.length then some r.1 else none
def ofR:Option Tr→DV
 |some t=> .tp [eU t,vB true]
 |none=> .tp [.v (.pointer none),vB false]
theorem ajH(n:Nat)(f:Nat→Bool):ah4 n f≤n:=by
 unfold ah4
 refine Nat.le_trans (List.length_filter_le _ _) ?_
 rw[List.length_range];exact Nat.le_refl _
theorem aFR{GB:Gh}{ns:List RN}{rt:Int}(hs: ∀n∈ns,n.g.sm)(hn:ns.length≤65536):PF GB Tryz.prog 74 [eRT rt ns] (ofR (ofQ ns rt)):=by
 have h:=apU (ns:=ns) (m:=ns.length+1) (rt:=rt) (s:=rs0) (by have:=ajH ns.length rs0.f;omega)
 have hu:=ajH ns.length rs0.f
 have h0:rs0.c=0:=rfl
 have h2:=aG3 (GB:=GB) hs hn h.1 (by have:=h.2;omega)
 unfold ofD at h2
 unfold ofQ
 simp only
 split
 ·rename_i e;rw[if_pos e] at h2;exact h2
 ·rename_i e;rw[if_neg e] at h2;exact h2
end Go.Sx
end
section
namespace Go.Sx
open Go Go.Proofs Go.RowKit Go.Extern.Stop Go.Stop Go.Extern
theorem axO(v:Value)(w:World):(Extern.ReflectliteType.typeOf #[.iface 399 v]).run Tryz.prog w= .ok (.iface 198 (.agg #[.pointer (some ⟨Tryz.prog.globals.size,399,none⟩)])) w:=by kernel_rfl
def aGe:TypeId→Sem Value:=fun t=>do Go.Extern.Rtype.noPackHeld "Comparable" t;pure (.bool (←typeInfo t).comparable)
theorem amJ(w:World):((Extern.ReflectliteType.method aGe) #[.agg #[.pointer (some ⟨Tryz.prog.globals.size,399,none⟩)]]).run Tryz.prog w= .ok (.bool true) w:=by kernel_rfl
theorem aEk:(Tryz.prog.info? 399).map (·.comparable)=some true:=by kernel_rfl
theorem aCK:(Tryz.prog.info? 424).map (·.size)=some 1:=by kernel_rfl
theorem agA(n:Nat)(v:Value)(w:World):(Go.method (n+1) 198 v "Comparable").run Tryz.prog w= .ok (347,v) w:=by
 kernel_rfl
theorem aAI(a:Addr)(w:World):Calls Tryz.prog 15 #[.iface 399 (.pointer (some a)), .iface 399 (.pointer (some a))] w fun e w'=>e= .returned (.bool true)∧w'=w:=by
 obtain⟨i,hi,hcmp⟩:=Option.map_eq_some_iff.1 aEk
 obtain⟨j,hj,hjs⟩:=Option.map_eq_some_iff.1 aCK
 have h8:= @run_callFunc_extern Tryz.prog 54 _ Extern.ReflectliteType.typeOf Tryz.func54 (by kernel_rfl) (by kernel_rfl) (by kernel_rfl) (by kernel_rfl)
 have h32:= @run_callFunc_extern Tryz.prog 347 _ (Extern.ReflectliteType.method aGe) Tryz.func347 (by kernel_rfl) (by kernel_rfl) (by kernel_rfl) (by kernel_rfl)
 have tT:=axO
 have cT:=amJ
 obtain⟨g,hg⟩: ∃g,g=Tryz.prog.globals.size:=⟨_,rfl⟩
 simp only[←hg] at tT cT
 clear hg
 have mR:=agA
 have heq:=run_eql_iface_ptr_same (P:=Tryz.prog) w a Tryz.underlying37 Tryz.underlying399 hi hcmp hj
 go_enter Tryz.func15,Tryz.ntmps15
 go_wp2
 refine wp_loop_rounds 1 ?_
 rw[rounds_succ]
 go_wp2
 go_ret
 exact⟨rfl,rfl⟩
theorem aBi:ad7 Tryz.prog 15:=⟨_,Tryz.func15,by kernel_rfl,by kernel_rfl⟩
def ayI(a:Addr):DV:= .v (.iface 399 (.pointer (some a)))
theorem aAv{GB:Gh}{a:Addr}:PF GB Tryz.prog 15 [ayI a,ayI a] (.v (.bool true)):=by
 intro G vs _ hv
 obtain⟨v1,m,rfl,h1,hm⟩:=aab.1 hv
 obtain⟨v2,m,rfl,h2,hm⟩:=aab.1 hm
 rw[aaJ] at hm;subst hm
 cases aaV.1 h1;cases aaV.1 h2
 exact(Fn.of_calls aBi (aAI a)).mono fun v G' _ h=>aaV.2 h
end Go.Sx
end
section
namespace Go.Sx
open Go Go.Proofs
variable {GB:Gh}
section
variable {GB:Gh} {C:Ctx} {n:Nat} {Q0:Exit→Act→World→Prop} {fr fr':FrX} {own own':OwX} {cf cf':Cf} {vc:List Prop}
def glA(fr:FrX)(cf:Cf):Option Nat:=match opC fr cf with
 |some ⟨_, .load t (.global g),_,_,_,_⟩=>(match abE tt t with
  |some i=>match i.ag with
   |some none=>some g
   |_=>none
  |none=>none)
 |_=>none
theorem gl[fu:Fu]{g:Nat}{v:Value}(h:glA fr cf=some g)(hg:GB g=some [v])(hgo:goA tt n fu.n fr own cf (.d (.v v)) [] []=⟨vc,fr',own',cf'⟩)(k:CfS Tryz.prog GB C n Q0 fr' own' cf')
  (hv:aai vc:=by first|exact trivial|(simp only[aai];kernel_rfl)|(simp only[aai];omega)):CfS Tryz.prog GB C n Q0 fr own cf:=by
 unfold glA at h
 split at h<;>try (cases h;done)
 rename_i hh
 split at h<;>try (cases h;done)
 rename_i i hT
 split at h<;>cases h
 rename_i ha
 haveI:=ajP (aca _ _ hT) ha
 refine us (f:= .d (.v v)) hh (OpR.yd fun ρ G ov a w r=>⟨v,(aaV (G:=G)).2 rfl,?_⟩) hgo hv k
 haveI:aB3 G g [v]:=⟨r.gb _ _ hg⟩
 exact adW (b:=g) (off:=0) rfl ghi rfl
theorem ann{d:Nat}{f:FX}{x:DV}(hl:aaw fr d=some f)(e:akN f=some x){Φ:Act→World→Prop}(h:SX GB C n (aaw ((d, .d x)::fr)) (aaA own) Φ):SX GB C n (aaw fr) (aaA own) Φ:=abD (g:= .d x) hl (fun _ _ _ k=>acv k e) h
theorem dvE(d:Nat){f:FX}(x:DV){e:Exit}{K:List Kt}(hl:aaw fr d=some f)(e1:akN f=some x)(k:CfS Tryz.prog GB C n Q0 ((d, .d x)::fr) own (.ex e K)):CfS Tryz.prog GB C n Q0 fr own (.ex e K):=ann hl e1 k
theorem dvC(d:Nat){f:FX}(x:DV){c:Code}{K:List Kt}(hl:aaw fr d=some f)(e1:akN f=some x)(k:CfS Tryz.prog GB C n Q0 ((d, .d x)::fr) own (.code c K)):CfS Tryz.prog GB C n Q0 fr own (.code c K):=ann hl e1 k
theorem aET{nm0 nm:Nat}{B1 B2:Option Bk}:aaA (arJ (arJ own nm0 B1) nm B2)=upB (upB (aaA own) [(nm0,B1)]) [(nm,B2)]:=by
 funext j;rw[afk];simp only[upB];rw[afk]
theorem ax0{nm0 nm k:Nat}{ty0:TypeId}{cs:List FX}{lo:Bool}(hb:aaA own nm0=some (.o ty0 cs lo))(hk:cs[k]? =some .nl)(hne:nm0≠nm){Φ:Act→World→Prop}{ty s:Nat}(hf:acS [nm] none (aaw fr) (aaA own))
  (h:SX GB C n (aaw fr) (aaA (arJ (arJ own nm0 (some (.o ty0 (cs.set k (.rw nm)) lo))) nm (some (.b ty s [] true)))) Φ):SX GB C n (aaw fr) (aaA own) Φ:=by
 refine⟨fun ρ G ov a w r=>?_⟩
 obtain⟨f1,f2⟩:=hf nm List.mem_cons_self
 rw[aET] at h
 refine h.run (fun k=>if k=nm then⟨none,0,0⟩ else ρ k) G ov a w ⟨r.gb,r.h,r.sz,r.df,fun k f e=>?_,fun m B e=>?_,fun m m' B B' e e' hne=>?_⟩
 ·obtain⟨v,h1,h2⟩:=r.fx k f e
  exact⟨v,h1,h2.ren fun m hm=>neN _ fun hc=>f1 k f (by simp) e (by rw[hm,hc])⟩
 ·simp only[upB] at e
  by_cases hm:m=nm
  ·subst hm;simp only[if_true] at e;cases e
   exact⟨[],⟨[],by simp only[if_true];exact .inl ⟨rfl,rfl,rfl⟩, .nil,by simp,fun _ o ho=>by cases ho⟩,fun o ho=>by cases ho⟩
  ·simp only[hm,if_false] at e
   by_cases hm0:m=nm0
   ·subst hm0;simp only[if_true] at e;cases e
    obtain⟨os,h1,h2⟩:=r.bx m _ hb
    have h1':an7 (fun k=>if k=nm then⟨none,0,0⟩ else ρ k) G m (.o ty0 cs lo) os:=h1.ren (if_neg hm) fun q hq=>neN _ fun hc=>f2 m _ hm hb (by rw[←hc];exact hq)
    obtain⟨b,ms,k1,k2,k3⟩:=h1'
    refine⟨os,⟨b,ms,k1,k2,?_⟩,h2⟩
    obtain⟨y,e1,e2⟩:=k3.get hk
    have:=k3.set (f:= .rw nm) (y:=y) k (by show y=_;simp only[if_true];exact e2)
    rwa [show ms.set k y=ms by apply List.ext_getElem?;intro j;rw[List.getElem?_set];split<;>(try rfl);rename_i hj;subst hj;split<;>simp_all] at this
   ·simp only[hm0,if_false] at e
    obtain⟨os,h1,h2⟩:=r.bx m B e
    exact⟨os,h1.ren (if_neg hm) fun q hq=>neN _ fun hc=>f2 m B hm e (by rw[←hc];exact hq),h2⟩
 ·intro b hbb hb'
  have key: ∀q B,upB (upB (aaA own) [(nm0,some (.o ty0 (cs.set k (.rw nm)) lo))]) [(nm,some (.b ty s [] true))] q=some B→q≠nm→ ∃B0,aaA own q=some B0:=fun q B eq hq=>by
   simp only[upB,hq,if_false] at eq
   by_cases hq0:q=nm0
   ·subst hq0;exact⟨_,hb⟩
   ·simp only[hq0,if_false] at eq;exact⟨_,eq⟩
  by_cases hm:m=nm
  ·simp[hm] at hbb
  ·by_cases hm':m'=nm
   ·simp[hm'] at hb'
   ·obtain⟨B0,g0⟩:=key m B e hm
    obtain⟨B1,g1⟩:=key m' B' e' hm'
    simp only[hm,hm',if_false] at hbb hb'
    exact r.dj m m' B0 B1 g0 g1 hne b hbb hb'
theorem nro(nm0 k nm ty s:Nat){ty0:TypeId}{cs:List FX}{lo:Bool}{own1:OwX}{c:Code}{K:List Kt}(hb:aaA own nm0=some (.o ty0 cs lo))(hk:cs[k]? =some .nl)(hf:ah6 [nm] none fr own=true)(hne:Nat.beq nm0 nm=false)
  (ho:arJ (arJ own nm0 (some (.o ty0 (cs.set k (.rw nm)) lo))) nm (some (.b ty s [] true))=own1)(h:CfS Tryz.prog GB C n Q0 fr own1 (.code c K)):CfS Tryz.prog GB C n Q0 fr own (.code c K):=by
 subst ho
 exact ax0 hb hk (fun e=>by subst e;rw[Nat.beq_refl] at hne;cases hne) (afp hf) h
theorem akL{ρ:NE}{G:Gh}: ∀{a b:List FX} {m:List Value},adX ρ G (a++b) m→ ∃m1 m2,m=m1++m2∧adX ρ G a m1∧adX ρ G b m2
 |[],b,m,h=>⟨[],m,rfl,rfl,h⟩
 |f::t,b,m,⟨y,n,e,h1,h2⟩=>by
  obtain⟨m1,m2,rfl,k1,k2⟩:=akL h2
  exact⟨y::m1,m2,e,⟨y,m1,rfl,h1,k1⟩,k2⟩
def bzA(fr:FrX)(cf:Cf):Option (Nat×List FX):=match opC fr cf with
 |some ⟨some d, .build t ⟨[]⟩,_,_,_,_⟩=>match abE tt t with
  |some ⟨.st _,_,some zx,_⟩=>some (d,zx)
  |_=>none
 |_=>none
end
structure EG (GB:Gh) (ai al ae:Addr):Prop where
 ErrInvalid:GB 1=some [.iface 399 (.pointer (some ai))]
 ErrLimit:GB 2=some [.iface 399 (.pointer (some al))]
structure EGE (GB:Gh) (ai al ae:Addr):Prop extends EG GB ai al ae where
 ErrEmpty:GB 0=some [.iface 399 (.pointer (some ae))]
structure Tr.gd (t:Tr):Prop where
 lb:t.all LB
 ok:t.all LnQ.ok
theorem Tr.restrict_size: ∀(t:Tr) (c:aaf),(t.restrict c).size≤t.size
 | .leaf _,_=>Nat.le_refl _
 | .node l x y,c=>by
  rw[Tr.restrict]
  have hx:=fun c=>x.restrict_size c
  have hy:=fun c=>y.restrict_size c
  split
  ·have:=hx c;simp only[Tr.size];omega
  ·split
   ·have:=hy c;simp only[Tr.size];omega
   ·have h1:=hx (aaK c l)
    have h2:=hy (aaK c l.rev)
    rcases Tr.joinQ_cases l (x.restrict (aaK c l)) (y.restrict (aaK c l.rev)) with⟨h,_⟩|⟨h,_⟩<;>rw[h]<;>(try simp only[Tr.size])<;>omega
theorem Tr.compl_size: ∀t:Tr,t.compl.size=t.size
 | .leaf _=>rfl
 | .node l x y=>by simp only[Tr.compl,Tr.size,x.compl_size,y.compl_size]
theorem Tr.compl_all(p:LnQ→Prop): ∀t:Tr,t.all p→t.compl.all p
 | .leaf _,h=>h
 | .node l x y,⟨h0,h1,h2⟩=>⟨h0,x.compl_all p h1,y.compl_all p h2⟩
theorem Tr.compl_depth: ∀t:Tr,t.compl.depth=t.depth
 | .leaf _=>rfl
 | .node l x y=>by simp only[Tr.compl,Tr.depth,x.compl_depth,y.compl_depth]
theorem Tr.chooseQ_all(p:LnQ→Prop)(op:Int)(b:Bool)(t:Tr)(c:aaf)(h:t.all p):(t.chooseQ op b c).all p:=by
 have:=t.restrict_all p c h
 unfold chooseQ
 split
 ·split
  ·trivial
  ·exact this
 ·split
  ·trivial
  ·split
   ·exact(t.restrict c).compl_all p this
   ·exact this
theorem Tr.chooseQ_size(op:Int)(b:Bool)(t:Tr)(c:aaf):(t.chooseQ op b c).size≤t.size:=by
 have:=t.restrict_size c
 unfold chooseQ
 split
 ·split
  ·exact Nat.zero_le _
  ·exact this
 ·split
  ·exact Nat.zero_le _
  ·split
   ·rw[(t.restrict c).compl_size];exact this
   ·exact this
theorem Tr.mergeQ_all(p:LnQ→Prop)(op:Int){u:Tr}(hu:u.all p): ∀(t:Tr) (c:aaf),t.all p→(t.mergeQ op u c).all p
 | .leaf b,c,_=>u.chooseQ_all p op b c hu
 | .node l x y,c,⟨h0,h1,h2⟩=>by
  rw[Tr.mergeQ]
  split
  ·exact Tr.mergeQ_all p op hu x c h1
  ·split
   ·exact Tr.mergeQ_all p op hu y c h2
   ·rcases Tr.joinQ_cases l (x.mergeQ op u (aaK c l)) (y.mergeQ op u (aaK c l.rev)) with⟨h,_⟩|⟨h,_⟩
    ·rw[h];exact Tr.mergeQ_all p op hu x _ h1
    ·rw[h];exact⟨h0,Tr.mergeQ_all p op hu x _ h1,Tr.mergeQ_all p op hu y _ h2⟩
theorem Tr.mergeQ_size(op:Int)(u:Tr): ∀(t:Tr) (c:aaf),(t.mergeQ op u c).size+1≤(t.size+1)*(u.size+1)
 | .leaf b,c=>by
  have:=u.chooseQ_size op b c
  show(u.chooseQ op b c).size+1≤(0+1)*(u.size+1)
  omega
 | .node l x y,c=>by
  have hx:=fun c=>Tr.mergeQ_size op u x c
  have hy:=fun c=>Tr.mergeQ_size op u y c
  have e:((Tr.node l x y).size+1)*(u.size+1)=(x.size+1)*(u.size+1)+(y.size+1)*(u.size+1):=by
   rw[←Nat.add_mul];congr 1;simp only[Tr.size];omega
  rw[e,Tr.mergeQ]
  split
  ·have:=hx c;omega
  ·split
   ·have:=hy c;omega
   ·have h1:=hx (aaK c l)
    have h2:=hy (aaK c l.rev)
    rcases Tr.joinQ_cases l (x.mergeQ op u (aaK c l)) (y.mergeQ op u (aaK c l.rev)) with⟨h,_⟩|⟨h,_⟩<;>rw[h]<;>(try simp only[Tr.size])<;>omega
theorem Tr.depth_size: ∀t:Tr,t.depth≤t.size
 | .leaf _=>Nat.le_refl _
 | .node l x y=>by
  have h1:=x.depth_size
  have h2:=y.depth_size
  simp only[Tr.depth,Tr.size]
  omega
def ar5(op:Int)(a b:Tr):Option Tr:=if 1024<a.depth+b.depth then none else if 65536<(a.mergeQ op b []).size then none else some (a.mergeQ op b [])
def aGV(al:Addr):Option Tr→DV
 |some t=> .tp [eU t, .v .nilIface]
 |none=> .tp [.v (.pointer none),ayI al]
theorem asP{ai al ae:Addr}(hE:EG GB ai al ae){op:Int}{a b:Tr}(ha:a.gd)(hb:b.gd)(hsa:a.size≤65536)(hsb:b.size≤65536):PF GB Tryz.prog 125 [vI op,eU a,eU b] (aGV al (ar5 op a b)):=by
 have hda:=a.depth_size
 have hdb:=b.depth_size
 have hms:=Tr.mergeQ_size op b a []
 have hmm:(a.size+1)*(b.size+1)≤65537*65537:=Nat.mul_le_mul (by omega) (by omega)
 refine fn Tryz.func125 J J Tryz.ntmps125 J J (fun C=>?_)
 refine cl rfl (aiS (t:=a) (by omega)) rfl<|cl rfl (aiS (t:=b) (by omega)) rfl<|?_
 refine br J J J (fun hc14=>?_) (fun hc14=>?_)
 ·
  refine gl rfl hE.ErrLimit rfl<|?_
  exact rz rfl (by unfold ar5;rw[if_pos (by omega)];rfl)
 ·
  refine cl rfl (ao7 (op:=op) (t:=a) (u:=b) (c:=[]) hb.lb hb.ok ha.lb ha.ok (fun s h=>by cases h) (by simp only[List.length_nil];omega)) rfl<|cl rfl (aDu (t:=a.mergeQ op b []) (by omega)) rfl<|?_
  refine br J J J (fun hc22=>?_) (fun hc22=>?_)
  ·
   refine gl rfl hE.ErrLimit rfl<|?_
   exact rz rfl (by unfold ar5;rw[if_neg (by omega),if_pos (by omega)];rfl)
  ·
   exact rz rfl (by unfold ar5;rw[if_neg (by omega),if_neg (by omega)];rfl)
theorem aDO{ai al ae:Addr}(hE:EG GB ai al ae){op:Int}{a b t:Tr}(ha:a.gd)(hb:b.gd)(hsa:a.size≤65536)(hsb:b.size≤65536)(h:ar5 op a b=some t):PF GB Tryz.prog 125 [vI op,eU a,eU b] (.tp [eU t, .v .nilIface]):=by
 have:=asP hE (op:=op) ha hb hsa hsb;rw[h] at this;exact this
theorem alg{ai al ae:Addr}(hE:EG GB ai al ae){op:Int}{a b t:Tr}(ha:a.gd)(hb:b.gd)(hsa:a.size≤65536)(hsb:b.size≤65536)(h:ar5 op a b=some t):PF GB Tryz.prog 51 [vI op,eU a,eU b] (.tp [eU t, .v .nilIface]):=by
 refine fn Tryz.func51 J J Tryz.ntmps51 J J (fun C=>?_)
 refine cl rfl (aDO hE ha hb hsa hsb h) rfl<|?_
 exact rz J J
def aGc(op:Int):Tr→List Tr→Option Tr
 |t,[]=>some t
 |t,u::us=>match ar5 op t u with
  |none=>none
  |some r=>aGc op r us
theorem ao6{t:Tr}(h:t.gd)(c:aaf):(t.restrict c).gd:=⟨t.restrict_all LB c h.lb,t.restrict_all LnQ.ok c h.ok⟩
theorem aEZ{ns:List RN}{rt:Int}{t:Tr}(hs: ∀n∈ns,n.g.sm)(hn:ns.length≤65536)(h:ofQ ns rt=some t):PF GB Tryz.prog 74 [eRT rt ns] (.tp [eU t,vB true]):=by
 have:=aFR (GB:=GB) (rt:=rt) hs hn;rw[h] at this;exact this
def trZ:DV:= .ag [vI 0, .sl []]
def aHH:Tr ⊕ Addr→DV
 | .inl t=> .tp [eA t, .v .nilIface]
 | .inr e=> .tp [trZ,ayI e]
def aHh(ai:Addr):Option Tr→Tr ⊕ Addr
 |some t=> .inl t.compl
 |none=> .inr ai
def aGx(al:Addr):Option Tr→Tr ⊕ Addr
 |some t=> .inl t
 |none=> .inr al
def aGv(ai al:Addr)(op:Int):Option Tr→Option Tr→Tr ⊕ Addr
 |some a,some b=>if 1≤op∧op≤4 then aGx al (ar5 op a b) else .inr ai
 |_,_=> .inr ai
theorem axm{t:Tr}(h:t.gd):t.compl.gd:=⟨t.compl_all LB h.lb,t.compl_all LnQ.ok h.ok⟩
abbrev TIn:=Int×List RN
def TIn.d(x:TIn):DV:=eRT x.1 x.2
def TIn.q(x:TIn):Option Tr:=ofQ x.2 x.1
def ofP:Option Tr→DV
 |some t=>eU t
 |none=> .v (.pointer none)
def aFL(op:Int)(ts:List TIn):Bool:=decide (1≤op∧op≤4)&&ts.all fun x=>x.q.isSome
def aHu(ai al ae:Addr)(op:Int)(ts:List TIn):Tr ⊕ Addr:=
 if aFL op ts then(match ts.filterMap TIn.q with
  |[]=> .inr ae
  |a::us=>if 1024<a.depth then .inr al else aGx al (aGc op (a.restrict []) us)) else .inr ai
def aHK(ts:List TIn):List DV:=ts.map fun x=>ofP x.q
structure TIn.ok (x:TIn):Prop where
 s: ∀n∈x.2,n.g.sm
 n:x.2.length≤65536
def RN.of(n:NQ):RN:=⟨⟨decide (n.l.a<0),dg n.l.a.natAbs,decide (n.l.b<0),dg n.l.b.natAbs,decide (n.l.c<0),dg n.l.c.natAbs⟩,n.a,n.b⟩
theorem aFy(ns:List NQ):ns.map eN=(ns.map RN.of).map RN.d:=by
 rw[List.map_map];rfl
theorem aFX(t:Tr):eA t=eRT (t.num 0) ((t.wr 0).map RN.of):=by
 unfold eA eRT
 rw[aFy];rfl
theorem axv(a:Int):ahP (decide (a<0)) (dg a.natAbs)=a:=by
 unfold ahP
 rw[(aaG _).1]
 split
 ·rename_i h;have:=of_decide_eq_true h;omega
 ·rename_i h;have: ¬a<0:=fun e=>h (decide_eq_true e);omega
theorem apl(a:Int):aov (decide (a<0)) (dg a.natAbs):=⟨(aaG _).2.2,fun h=>ahz.2 (by have:=of_decide_eq_true h;omega)⟩
theorem RN.of_l(n:NQ):(RN.of n).g.l=n.l:=by
 unfold RN.of RL.l
 simp only[axv]
theorem RN.of_ln{n:NQ}(h:n.l.ok):(RN.of n).g.ln=some n.l:=by
 unfold RL.ln
 rw[if_pos ⟨⟨apl _,apl _,apl _⟩,by rw[RN.of_l];exact h⟩,RN.of_l]
theorem RN.of_sm{n:NQ}(h:LB n.l):(RN.of n).g.sm:=by
 have key: ∀a:Int,a.natAbs<2^96→DOk (dg a.natAbs)∧(dg a.natAbs).length≤3:=fun a ha=>⟨(aaG _).2.1,by have:=aa4 ha;omega⟩
 exact⟨key _ h.bl.a,key _ h.bl.b,key _ h.bl.c⟩
theorem aeZ(b:Bool)(k:Nat):ac4 b≠(k:Int):=by cases b<;>(unfold ac4;simp)
theorem RR.det{ns:List RN}{rt:Int}{s s1:RS}{t1:Tr}(h:RR ns rt s t1 s1): ∀{s2:RS} {t2:Tr},RR ns rt s t2 s2→t1=t2∧s1=s2:=by
 induction h with
 |leaf b s=>
  intro s2 t2 h
  generalize hr:ac4 b=r at h
  cases h with
  |leaf b' s=>
   have:b=b':=by cases b<;>cases b'<;>first|rfl|(simp[ac4] at hr)
   subst this;exact⟨rfl,rfl⟩
  |bad rt s h1 h2 h=>cases b<;>simp[ac4] at hr<;>omega
  |line k=>exact absurd hr (aeZ _ _)
  |node k=>exact absurd hr (aeZ _ _)
 |bad rt s h1 h2 h=>
  intro s2 t2 h'
  cases h' with
  |leaf b s=>cases b<;>simp[ac4] at h1 h2
  |bad=>exact⟨rfl,rfl⟩
  |line k n s hn hf=>
   have:=(List.getElem?_eq_some_iff.1 hn).1
   rcases h with h|h|⟨j,e,_,hj⟩
   ·omega
   ·omega
   ·have:j=k:=by omega
    subst this;rw[hf] at hj;cases hj
  |node k n l s s2 s3 x y hn hf=>
   have:=(List.getElem?_eq_some_iff.1 hn).1
   rcases h with h|h|⟨j,e,_,hj⟩
   ·omega
   ·omega
   ·have:j=k:=by omega
    subst this;rw[hf] at hj;cases hj
 |line k n s hn hf hl=>
  intro s2 t2 h'
  generalize hr:(k:Int)=r at h'
  cases h' with
  |leaf b s=>exact absurd hr.symm (aeZ _ _)
  |bad rt s h1 h2 h=>
   have:=(List.getElem?_eq_some_iff.1 hn).1
   rcases h with h|h|⟨j,e,_,hj⟩
   ·omega
   ·omega
   ·have:j=k:=by omega
    subst this;rw[hf] at hj;cases hj
  |line k' n' s hn' hf' hl'=>
   have:k=k':=by omega
   subst this;exact⟨rfl,rfl⟩
  |node k' n' l s s2 s3 x y hn' hf' hl'=>
   have:k=k':=by omega
   subst this;rw[hn] at hn';cases hn';rw[hl] at hl';cases hl'
 |node k n l s s2 s3 x y hn hf hl h1 h2 i1 i2=>
  intro s4 t4 h'
  generalize hr:(k:Int)=r at h'
  cases h' with
  |leaf b s=>exact absurd hr.symm (aeZ _ _)
  |bad rt s h1 h2 h=>
   have:=(List.getElem?_eq_some_iff.1 hn).1
   rcases h with h|h|⟨j,e,_,hj⟩
   ·omega
   ·omega
   ·have:j=k:=by omega
    subst this;rw[hf] at hj;cases hj
  |line k' n' s hn' hf' hl'=>
   have:k=k':=by omega
   subst this;rw[hn] at hn';cases hn';rw[hl] at hl';cases hl'
  |node k' n' l' s s2' s3' x' y' hn' hf' hl' h1' h2'=>
   have:k=k':=by omega
   subst this;rw[hn] at hn';cases hn';rw[hl] at hl';cases hl'
   obtain⟨rfl,rfl⟩:=i1 h1'
   obtain⟨rfl,rfl⟩:=i2 h2'
   exact⟨rfl,rfl⟩
def RT'(ns:List NQ):Tr→Int→List Nat→Prop
 | .leaf b,rt,L=>rt=ac4 b∧L=[]
 | .node l x y,rt,L=> ∃(k:Nat) (a b:Int) (L1 L2:List Nat),rt=(k:Int)∧ns[k]? =some ⟨l,a,b⟩∧RT' ns x a L1∧RT' ns y b L2∧L=k::(L1++L2)
theorem RT'.rr{ns:List NQ}: ∀{t:Tr} {rt:Int} {L:List Nat} {s:RS},RT' ns t rt L→t.all LnQ.ok→L.Nodup→(∀j∈L,s.f j=false)→ ∃f,RR (ns.map RN.of) rt s t ⟨f,s.c+t.size,s.b⟩∧ ∀j,j∉L→f j=s.f j
 | .leaf b,rt,L,s,⟨e,e2⟩,_,_,_=>by
  subst e e2
  exact⟨s.f, .leaf b s,fun _ _=>rfl⟩
 | .node l x y,rt,L,s,⟨k,a,b,L1,L2,e,hk,hx,hy,e2⟩,⟨h0,h1,h2⟩,hnd,hf=>by
  subst e e2
  obtain⟨hkn,hnd⟩:=List.nodup_cons.1 hnd
  obtain⟨hd1,hd2,hdis⟩:=List.nodup_append.1 hnd
  have hfk:=hf k List.mem_cons_self
  have hn1: ∀j∈L1,j≠k:=fun j hj e=>hkn (e▸List.mem_append_left _ hj)
  have hn2: ∀j∈L2,j≠k:=fun j hj e=>hkn (e▸List.mem_append_right _ hj)
  obtain⟨f1,r1,g1⟩:=RT'.rr (s:=⟨an6 s.f k,s.c+1,s.b⟩) hx h1 hd1 (fun j hj=>by simp only;rw[aj5 (hn1 j hj)];exact hf j (List.mem_cons_of_mem _ (List.mem_append_left _ hj)))
  simp only at r1 g1
  obtain⟨f2,r2,g2⟩:=RT'.rr (s:=⟨f1,s.c+1+x.size,s.b⟩) hy h2 hd2 (fun j hj=>by
   simp only
   rw[g1 j (fun h=>hdis _ h _ hj rfl),aj5 (hn2 j hj)]
   exact hf j (List.mem_cons_of_mem _ (List.mem_append_right _ hj)))
  simp only at r2 g2
  have hc:s.c+(Tr.node l x y).size=s.c+1+x.size+y.size:=by simp only[Tr.size];omega
  rw[hc]
  refine⟨f2, .node k (RN.of ⟨l,a,b⟩) l s _ _ x y (by rw[List.getElem?_map,hk];rfl) hfk (RN.of_ln h0) r1 r2,fun j hj=>?_⟩
  simp only[List.mem_cons,List.mem_append,not_or] at hj
  rw[g2 j hj.2.2,g1 j hj.2.1,aj5 hj.1]
theorem RT'.len{ns:List NQ}: ∀{t:Tr} {rt:Int} {L:List Nat},RT' ns t rt L→L.length=t.size
 | .leaf _,_,_,⟨_,h⟩=>by rw[h];rfl
 | .node l x y,_,_,⟨k,a,b,L1,L2,_,_,h1,h2,h⟩=>by
  rw[h,List.length_cons,List.length_append,RT'.len h1,RT'.len h2]
  simp only[Tr.size]
  omega
def RD'(ns:List NQ)(t:Tr)(rt:Int):Prop:= ∃L,RT' ns t rt L∧L.Nodup∧L.length=ns.length
theorem aCQ{ns:List NQ}{t:Tr}{rt:Int}(h:RD' ns t rt)(ho:t.all LnQ.ok):ofQ (ns.map RN.of) rt=some t:=by
 obtain⟨L,h1,h2,h3⟩:=h
 obtain⟨f,r,_⟩:=h1.rr (s:=rs0) ho h2 (fun _ _=>rfl)
 have hr:=apU (ns:=ns.map RN.of) (m:=(ns.map RN.of).length+1) (rt:=rt) (s:=rs0) (by have:=ajH (ns.map RN.of).length rs0.f;omega)
 obtain⟨e1,e2⟩:=hr.1.det r
 unfold ofQ
 simp only
 rw[e2,e1,if_pos ⟨rfl,by show rs0.c+t.size=_;rw[List.length_map,←h3,h1.len];show 0+_=_;omega⟩]
theorem az2{ns:List NQ}: ∀{t:Tr} {n:Nat},(∀i,i<t.size→ns[n+i]? =(t.wr n)[i]?)→RT' ns t (t.num n) (List.range' n t.size)
 | .leaf b,n,_=>⟨rfl,rfl⟩
 | .node l x y,n,h=>by
  have hsz:(Tr.node l x y).size=1+x.size+y.size:=rfl
  have hw:(Tr.node l x y).wr n=⟨l,x.num (n+1),y.num (n+1+x.size)⟩::(x.wr (n+1)++y.wr (n+1+x.size)):=by simp[Tr.wr]
  have hx:=x.wr_len (n+1)
  have hy:=y.wr_len (n+1+x.size)
  refine⟨n,x.num (n+1),y.num (n+1+x.size),List.range' (n+1) x.size,List.range' (n+1+x.size) y.size,rfl,?_,az2 fun i hi=>?_,az2 fun i hi=>?_,?_⟩
  ·have:=h 0 (by omega)
   rw[hw,Nat.add_zero] at this
   rw[this];rfl
  ·have:=h (1+i) (by omega)
   rw[hw,Nat.add_comm 1 i,List.getElem?_cons_succ,List.getElem?_append_left (by omega)] at this
   rw[show n+1+i=n+(i+1) by omega];exact this
  ·have:=h (1+x.size+i) (by omega)
   rw[hw,show 1+x.size+i=(x.size+i)+1 by omega,List.getElem?_cons_succ,List.getElem?_append_right (by omega),hx,Nat.add_sub_cancel_left] at this
   rw[show n+1+x.size+i=n+(x.size+i+1) by omega];exact this
  ·rw[hsz,show 1+x.size+y.size=(x.size+y.size)+1 by omega,List.range'_succ,List.range'_append_1]
theorem aCl{t:Tr}(ho:t.all LnQ.ok):ofQ ((t.wr 0).map RN.of) (t.num 0)=some t:=
 aCQ ⟨_,az2 (n:=0) (fun i _=>by rw[Nat.zero_add]),List.nodup_range',by rw[List.length_range',t.wr_len]⟩ ho
theorem aFi{t:Tr}(hb:t.all LB): ∀n∈(t.wr 0).map RN.of,n.g.sm:=fun n hn=>by
 obtain⟨m,hm,rfl⟩:=List.mem_map.1 hn
 exact RN.of_sm (Tr.all_wr 0 hb m hm)
theorem aCy{a i:Nat}[ha:BN a i](hi:i≤400000000:=by decide):PF GB Tryz.prog 144 [dN a] (dN a):=by
 have hl:=aaB (dg a)
 have hb:=aa4 ha.h
 refine fn Tryz.func144 J J Tryz.ntmps144 J J (fun C=>?_)
 refine ro0 J J<|ap ((dg a).map dU) J J (an8 _) rfl<|?_
 refine fzE 5 rfl ?_
 exact rz J J
theorem awW{z:Int}{i:Nat}[hz:BI z i](hi:i≤400000000:=by decide):PF GB Tryz.prog 143 [eI z] (eI z):=by
 refine fn Tryz.func143 J J Tryz.ntmps143 J J (fun C=>?_)
 refine cl rfl (aCy (a:=z.natAbs) (i:=i) (ha:=⟨hz.h⟩) hi) rfl<|?_
 exact rz J J
theorem aF0{l:LnQ}(hl:BL l 96):PF GB Tryz.prog 124 [eL l] (eL l):=by
 haveI h1:BI l.a 96:=⟨hl.a⟩
 haveI h2:BI l.b 96:=⟨hl.b⟩
 haveI h3:BI l.c 96:=⟨hl.c⟩
 refine fn Tryz.func124 J J Tryz.ntmps124 J J (fun C=>?_)
 refine cl rfl (awW (z:=l.a)) rfl<|cl rfl (awW (z:=l.b)) rfl<|cl rfl (awW (z:=l.c)) rfl<|?_
 exact rz J J
theorem aGk{ds:List Nat}(hd:DOk ds)(hn:ds.length≤1000000):PF GB Tryz.prog 134 [dLi ds] (dN (dv ds)):=by
 have hm:=aaB ds
 refine fn Tryz.func134 J J Tryz.ntmps134 J J (fun C=>?_)
 refine ro0 J J<|ap (ds.map dU) J J (an8 _) rfl<|fz 5 J J<|cl rfl (agc (ds:=ds) (by omega)) rfl<|?_
 exact rz rfl (by unfold dN;rw[adr hd];rfl)
theorem aGW{neg:Bool}{ds:List Nat}(hd:DOk ds)(hn:ds.length≤1000000):PF GB Tryz.prog 136 [.ag [.v (.bool neg),dLi ds]] (eI (ahP neg ds)):=by
 refine fn Tryz.func136 J J Tryz.ntmps136 J J (fun C=>?_)
 refine cl rfl (aGk hd hn) rfl<|cl rfl acb rfl<|?_
 exact rz J J
def rlD(r:RL):DV:= .tp [if r.nm then eL r.l else .ag [.v (.bool false), .sl [], .v (.bool false), .sl [], .v (.bool false), .sl []],vB (decide (r.nm∧r.l.ok))]
def smB(n:Int)(ls:List (List Nat)):Bool:=ls.all fun d=>decide ((d.length:Int)≤n)
def RL.smB(n:Int)(r:RL):Bool:=Sx.smB n [r.da,r.db,r.dc]
def rlB(n:Int)(ls:List RL):Bool:=ls.all fun r=>r.smB n
def aHq(cs:List RL):Option (List LnQ):=if cs.all (fun r=>r.ln.isSome) then some (cs.filterMap RL.ln) else none
def aHM:Option (List LnQ)→DV
 |some ls=> .tp [.sl (ls.map eLn),vB true]
 |none=> .tp [.sl [],vB false]
def aHy:Option aaf→DV
 |some c=> .tp [.sl (c.map eFr),vB true]
 |none=> .tp [.sl [],vB false]
theorem aa5.nil:aa5 []:=fun s hs=>by cases hs
def aGR(ai al:Addr)(more:Nat):Option Tr→DV
 |none=> .tp [.v (.pointer none),ayI ai]
 |some t=>if 1024<t.depth+more then .tp [.v (.pointer none),ayI al] else .tp [eU t, .v .nilIface]
def aHG(ai:Addr)(f:Tr→Tr):Option Tr→Tr ⊕ Addr
 |some t=> .inl (f t)
 |none=> .inr ai
def aG1(ai ae:Addr):Option Tr→Option (List LnQ)→Tr ⊕ Addr
 |some t,some ls=>(match afB ls [] with
  |some c=> .inl (t.restrict c)
  |none=> .inr ae)
 |_,_=> .inr ai
def aHE(ai:Addr):Option LnQ→Option Tr→DV
 |some m,some t=> .tp [eA (t.restrict (aaK [] m)),eA (t.restrict (aaK [] m.rev)), .v .nilIface]
 |_,_=> .tp [trZ,trZ,ayI ai]

section
variable {GB:Gh} {C:Ctx} {n:Nat} {Q0:Exit→Act→World→Prop} {fr fr':FrX} {own own':OwX} {cf cf':Cf} {vc:List Prop}
def PR(GB:Gh)(P:Program)(f:FuncId)(ds:List DV)(s:Nat)(ty:TypeId)(rows:List DV):Prop:=
 ∀G vs,GLe GB G→IsLs G ds vs→FnO P f vs [] G (fun v own' G'=> ∃w:SV,v= .slice w.a w.n w.c∧abB G' ⟨w,s,ty,rows,true⟩ own')
theorem at1: ∀(l:List Own),(∀o∈l,o.lo=true)→l.map (relo (flM []))=l
 |[],_=>rfl
 |a::t,h=>by
  have h1:=h a List.mem_cons_self
  rw[List.map_cons,at1 t fun o ho=>h o (List.mem_cons_of_mem _ ho)]
  congr 1
  cases a
  simp[relo,flM] at*
  exact h1
theorem awc{lk:LK}{bk:BM}{fo:Operand}{args:Array Operand}{tys:Array TypeId}{f:FuncId}{d s:Nat}{ds rows:List DV}{ty ty2:TypeId}{pos:String}{af:Array Edge}{gd:Option (Nat×Bool)}
  (ha:amu lk fo args=some (f,ds))(hF:PR GB Tryz.prog f ds s ty2 rows):OpR Tryz.prog GB C n lk bk ⟨some d, .call ⟨.value fo,args,tys⟩,ty,pos,af,gd⟩ (.rw d) [(d,some (.b ty2 s rows true))] [d]:=by
 intro hd tl tb K' s1 s2 hf hk
 refine⟨fun ρ G ov a w r Q=>?_⟩
 have r1:=r.mono s1 s2
 obtain⟨h1,h2⟩:=amd ha
 obtain⟨y,hy,hy'⟩:=r1.ev h1
 rw[(aaV (G:=G)).1 hy'] at hy
 obtain⟨vs,h3,h4⟩:=r1.evDs h2
 refine ae3 (M:=[]) (rest:=ov) hy h3 (List.Perm.refl _) (hF G vs r.gb h4) hd (fun v own1 G' hG hK a' w' rl=>?_) a w Q ⟨r.h,r.sz,aaQ a,r.df⟩
 obtain⟨z,rfl,vs',k1,k2,k3,k4⟩:=hK
 rw[at1 _ (k4 rfl)] at rl
 have rl':Rel C n (Sx.put (frA a) (some d) (.slice z.a z.n z.c)) (own1++ov) G' a' w':=rl
 have hdis:=(List.pairwise_append.1 rl'.h.nd).2.2
 have r3:=r.new' (x:=z) (B':= .b ty2 s rows true) (os:=own1) (ov':=own1++ov) (f:= .rw d) (y:= .slice z.a z.n z.c) hf hG.le rl'.h ⟨vs',by simpa using k1,k2,k3,k4⟩ (fun o ho=>List.mem_append_left _ ho)
  (fun q B0 hq e o ho hbq=>⟨List.mem_append_right _ ho,fun hc=>by
   have hx: ∃o1∈own1,o1.b=o.b:=by
    rcases k1 with⟨_,h,_⟩|⟨b0,rest0,lo0,h,hB,_⟩
    ·rw[show z=_ from h] at hc;cases hc
    ·rw[show z=_ from h] at hc;cases hc;exact⟨⟨_,aak vs'++rest0,_,lo0⟩,by rw[hB];exact List.mem_cons_self,rfl⟩
   obtain⟨o1,ho1,he1⟩:=hx
   exact hdis o1 ho1 o ho he1⟩) (by simp[IsX]) (abr rl')
 exact hk.run _ G' _ a' w' r3
def aGp(fr:FrX)(cf:Cf):Option (FuncId×List DV×Nat):=match opC fr cf with
 |some ⟨some d, .call ⟨.value fo,args,_⟩,_,_,_,_⟩=>match amu (lkC fr cf) fo args with
  |some (f,ds)=>some (f,ds,d)
  |none=>none
 |_=>none
theorem cr[fu:Fu]{f:FuncId}{d s:Nat}{ds rows:List DV}{ty:TypeId}(ha:aGp fr cf=some (f,ds,d))(hF:PR GB Tryz.prog f ds s ty rows)
  (hgo:goA tt n fu.n fr own cf (.rw d) [(d,some (.b ty s rows true))] [d]=⟨vc,fr',own',cf'⟩)(k:CfS Tryz.prog GB C n Q0 fr' own' cf')
  (hv:aai vc:=by first|exact trivial|(simp only[aai];kernel_rfl)|(simp only[aai];omega)|(simp only[aai,List.length_map,List.length_set,List.length_replicate];omega)):CfS Tryz.prog GB C n Q0 fr own cf:=by
 unfold aGp at ha
 split at ha<;>try (cases ha;done)
 rename_i hh
 split at ha<;>cases ha
 rename_i h1
 exact us hh (awc h1 hF) hgo hv k
def aq2(C:Ctx)(s:Nat)(ty:TypeId)(rows:List DV):Ending→World→Prop:=aga C (fun v own' G'=> ∃w:SV,v= .slice w.a w.n w.c∧abB G' ⟨w,s,ty,rows,true⟩ own')
theorem fnR[fu:Fu]{f:FuncId}{fb:Func}{c:Code}{m s:Nat}{ds rows:List DV}{ty:TypeId}(hf:Tryz.prog.funcs[f]? =some fb)(hb:fb.body=some c)(hn:(fb.name== "runtime.NumGoroutine")=false)(hm:fb.ntmps=m)(hlen:Nat.ble ds.length m=true)
  (hgo:go tt m fu.n [] (ajZ 0 ds) [] (.code c [])=⟨vc,fr,own,cf⟩)(k: ∀C:Ctx,C.mb=[]→CfS Tryz.prog GB C m (bodyPost Tryz.prog fb (aq2 C s ty rows)) fr own cf)
  (hv:aai vc:=by first|exact trivial|(simp only[aai];kernel_rfl)|(simp only[aai];omega)|(simp only[aai,List.length_map,List.length_set,List.length_replicate];omega)):PR GB Tryz.prog f ds s ty rows:=by
 intro G vs hg hvs
 refine FnO.intro hf hb hn hm (by rw[hvs.len];exact hlen) fun C _ hmb=>?_
 intro a w rl
 have h:=gx' (GB:=GB) (C:=C) (Q0:=bodyPost Tryz.prog fb (aq2 C s ty rows)) hgo hv (k C (by simpa using hmb))
 exact h.run (fun _=>⟨none,0,0⟩) G [] a w ⟨hg,rl.h,rl.sz,rl.df,(fun k f e=>apj hvs rl.fr k f e),(fun nm B e=>by cases e),(fun nm nm' B B' e=>by cases e)⟩
theorem rzR{fb:Func}{t d s:Nat}{ty:TypeId}{rows rws:List DV}(hr:fb.results.toList=[.tmp t])(hl:aaw fr t=some (.rw d))(hw:aaA own d=some (.b ty s rws true))(er:rws=rows):
  CfS Tryz.prog GB C n (bodyPost Tryz.prog fb (aq2 C s ty rows)) fr own (.ex .ret []):=by
 subst er
 refine⟨fun ρ G ov a w r=>?_⟩
 obtain⟨B,g1,g2⟩:=r.bx _ _ hw
 have hB:abB G ⟨ρ d,s,ty,rws,true⟩ B:=g1
 obtain⟨rest,hp⟩:=amo hB g2
 obtain⟨y,hy,hy'⟩:=r.ev (x:= .tmp t) (f:= .rw d) hl
 cases (show y=_ from hy')
 exact ail (C:=C) (n:=n) (fr:=frA a) (own:=ov) (G:=G) (vs:=[.slice (ρ d).a (ρ d).n (ρ d).c]) (by rw[hr];exact .tmp hy .nil) (B++rest) B hp (List.sublist_append_left _ _) ⟨ρ d,rfl,hB⟩ a w ⟨r.h,r.sz,aaQ a,r.df⟩
theorem aGO{fb:Func}{t s:Nat}{ty:TypeId}{rows:List DV}(hr:fb.results.toList=[.tmp t])(hl:aaw fr t=some .nl)(er:rows=[]):
  CfS Tryz.prog GB C n (bodyPost Tryz.prog fb (aq2 C s ty rows)) fr own (.ex .ret []):=by
 subst er
 refine⟨fun ρ G ov a w r=>?_⟩
 obtain⟨y,hy,hy'⟩:=r.ev (x:= .tmp t) (f:= .nl) hl
 cases (show y=_ from hy')
 exact ail (C:=C) (n:=n) (fr:=frA a) (own:=ov) (G:=G) (vs:=[.slice none 0 0]) (by rw[hr];exact .tmp hy .nil) ([]++ov) [] (List.Perm.refl _) (List.nil_sublist _) ⟨⟨none,0,0⟩,rfl,[], .inl ⟨rfl,rfl,rfl⟩,aaJ.2 rfl,fun v h=>(by cases h),fun _ o h=>(by cases h)⟩ a w ⟨r.h,r.sz,aaQ a,r.df⟩
end
section
variable {GB:Gh} {C:Ctx} {n:Nat} {Q0:Exit→Act→World→Prop} {fr fr':FrX} {own own':OwX} {cf cf':Cf} {vc:List Prop}
theorem awz{lk:LK}{bk:BM}{fo:Operand}{args:Array Operand}{tys:Array TypeId}{f:FuncId}{nm d:Nat}{l:List (Option DV)}{s:Nat}{ty ty0:TypeId}{pos:String}{af:Array Edge}{gd:Option (Nat×Bool)}{dsi dso:List DV}{lo:Bool}(hne:Nat.beq nm d=false)
  (ha:asx lk fo args=some (f,nm,l))(hb:bk nm=some (.b ty0 s dsi lo))(hF:PB GB Tryz.prog f (mkB l) s ty0 dsi (fun w=> .v (.slice w.a w.n w.c)) dso):OpR Tryz.prog GB C n lk bk ⟨some d, .call ⟨.value fo,args,tys⟩,ty,pos,af,gd⟩ (.rw d) [(nm,none),(d,some (.b ty0 s dso lo))] [d]:=by
 intro hd tl tb K' s1 s2 hf hk
 refine⟨fun ρ G ov a w r Q=>?_⟩
 have r1:=r.mono s1 s2
 unfold asx at ha
 split at ha<;>try (cases ha;done)
 rename_i h1
 split at ha<;>cases ha
 rename_i h2
 obtain⟨y,hy,hy'⟩:=r1.ev h1
 rw[(aaV (G:=G)).1 hy'] at hy
 obtain⟨B,g1,g2⟩:=r1.bx _ _ hb
 have hB:abB G ⟨ρ nm,s,ty0,dsi,lo⟩ B:=g1
 obtain⟨vs,h7,h8⟩:=amz r1 (z:=ρ nm) h2 (fun nm e=>by cases e;rfl)
 have hp: ∃rest,ov.Perm (B++rest)∧ ∀o∈ov,(∀o'∈B,o.b≠o'.b)→o∈rest:=by
  rcases hB with⟨vs',⟨_,_,e⟩|⟨b0,r0,lo0,_,e,_⟩,_⟩
  ·rw[e];exact⟨ov,List.Perm.refl _,fun o ho _=>ho⟩
  ·rw[e] at g2⊢
   obtain⟨l1,l2,e2⟩:=List.append_of_mem (g2 _ List.mem_cons_self)
   rw[e2]
   refine⟨l1++l2,List.perm_middle,fun o ho hno=>?_⟩
   rcases List.mem_append.1 ho with ho|ho
   ·exact List.mem_append_left _ ho
   ·rcases List.mem_cons.1 ho with rfl|ho
    ·exact absurd rfl (hno _ List.mem_cons_self)
    ·exact List.mem_append_right _ ho
 obtain⟨rest,h5,h6⟩:=hp
 refine ae3 (M:=B) (rest:=rest) hy h7 h5 (hF G (ρ nm) vs B r.gb hB.weak h8) hd (fun v own1 G' hG hK a' w' rl=>?_) a w Q ⟨r.h,r.sz,aaQ a,r.df⟩
 obtain⟨z,hr,vs',k1,k2,k3,k4⟩:=hK
 have k1':=k1.relo (flM B)
 have e2:lo=true→ ∀o∈own1.map (relo (flM B)),o.lo=true:=fun hl o ho=>by
  obtain⟨o',_,rfl⟩:=List.mem_map.1 ho
  obtain⟨_,_,_,_,hlo⟩:=hB
  exact ait _ (hlo hl)
 generalize own1.map (relo (flM B))=B' at rl e2 k1'
 have rl':Rel C n (Sx.put (frA a) (some d) v) (B'++rest) G' a' w':=rl
 have hdis:=(List.pairwise_append.1 rl'.h.nd).2.2
 have r2:=r.dropB nm
 have hnn:nm≠d:=fun e=>by subst e;rw[Nat.beq_refl] at hne;cases hne
 have hf2:acS [d] (some d) tl (Sx.upB tb [(nm,none)]):=fun q hq=>by
  obtain⟨f1,f2⟩:=hf q hq
  refine⟨f1,fun k B e1 e=>?_⟩
  simp only[Sx.upB] at e
  split at e
  ·cases e
  ·exact f2 k B e1 e
 have hsep: ∀q B0,Sx.upB tb [(nm,none)] q=some B0→ ∀o∈ov,(ρ q).a=some ⟨o.b,0,none⟩→o∈rest:=fun q B0 e o ho hbq=>by
  simp only[Sx.upB] at e
  split at e
  ·cases e
  ·rename_i hqn
   refine h6 o ho fun o' ho' he=>?_
   exact r.dj nm q _ _ (s2 _ _ hb) e (Ne.symm hqn) o'.b (g1.blk ho') (by rw[hbq,he])
 rw[aaV.1 hr] at rl'
 have r3:=r2.new' (x:=z) (B':= .b ty0 s dso lo) (os:=B') (ov':=B'++rest) (f:= .rw d) (y:= .slice z.a z.n z.c) hf2 hG.le rl'.h ⟨vs',by simpa using k1',k2,k3,e2⟩ (fun o ho=>List.mem_append_left _ ho)
  (fun q B0 hq e o ho hbq=>⟨List.mem_append_right _ (hsep q B0 e o ho hbq),fun hc=>by
   have hx: ∃o1∈B',o1.b=o.b:=by
    rcases k1' with⟨_,h,_⟩|⟨b0,rest0,lo0,h,hB,_⟩
    ·rw[show z=_ from h] at hc;cases hc
    ·rw[show z=_ from h] at hc;cases hc;exact⟨⟨_,aak vs'++rest0,_,lo0⟩,by rw[hB];exact List.mem_cons_self,rfl⟩
   obtain⟨o1,ho1,he1⟩:=hx
   exact hdis o1 ho1 o (hsep q B0 e o ho hbq) he1⟩) (by simp[IsX]) (abr rl')
 exact hk.run _ G' _ a' w' r3
theorem cq[fu:Fu]{f:FuncId}{nm d:Nat}{l:List (Option DV)}{ty:TypeId}{s:Nat}{dsi dso:List DV}{lo:Bool}(dso':List DV)(ha:aEE fr own cf=some ⟨f,nm,l,ty,s,dsi,lo,d⟩)(hF:PB GB Tryz.prog f (mkB l) s ty dsi (fun w=> .v (.slice w.a w.n w.c)) dso)(he:dso=dso')
  (hgo:goA tt n fu.n fr own cf (.rw d) [(nm,none),(d,some (.b ty s dso' lo))] [d]=⟨vc,fr',own',cf'⟩)(k:CfS Tryz.prog GB C n Q0 fr' own' cf')
  (hv:aai vc:=by first|exact trivial|(simp only[aai];kernel_rfl)|(simp only[aai];omega)|(simp only[aai,List.length_map,List.length_set,List.length_replicate];omega)):CfS Tryz.prog GB C n Q0 fr own cf:=by
 subst he
 unfold aEE at ha
 split at ha<;>try (cases ha;done)
 rename_i hh
 split at ha<;>try (cases ha;done)
 rename_i h1
 split at ha<;>try (cases ha;done)
 rename_i h2
 rw[cond_eq_ite] at ha
 split at ha<;>cases ha
 rename_i h3
 exact us hh (awz (by cases hq:Nat.beq nm d with|false=>rfl|true=>exact absurd hq h3) h1 h2 hF) hgo hv k
def ave(C:Ctx)(s:Nat)(ty:TypeId)(dso:List DV):Ending→World→Prop:=aga C (fun v own' G'=> ∃w',Is G' (.v (.slice w'.a w'.n w'.c)) v∧abB G' ⟨w',s,ty,dso,false⟩ own')
theorem fnQ[fu:Fu]{f:FuncId}{fb:Func}{c:Code}{k s:Nat}{l:List (Option DV)}{dsi dso:List DV}{ty:TypeId}(hf:Tryz.prog.funcs[f]? =some fb)(hb:fb.body=some c)(hn:(fb.name== "runtime.NumGoroutine")=false)(hm:fb.ntmps=k)(hlen:Nat.ble l.length k=true)
  (hgo:go tt k fu.n [] (ai8 0 l) [(NM,some (.b ty s dsi false))] (.code c [])=⟨vc,fr,own,cf⟩)(h: ∀C,CfS Tryz.prog GB C k (bodyPost Tryz.prog fb (ave C s ty dso)) fr own cf)
  (hv:aai vc:=by first|exact trivial|(simp only[aai];kernel_rfl)|(simp only[aai];omega)|(simp only[aai,List.length_map,List.length_set,List.length_replicate];omega)):PB GB Tryz.prog f (mkB l) s ty dsi (fun w=> .v (.slice w.a w.n w.c)) dso:=by
 intro G w vs B hg hB hvs
 refine FnO.intro hf hb hn hm (by rw[hvs.len,ama];exact hlen) fun C _ hmb=>?_
 intro a wd rl
 have h1:=gx' (GB:=GB) (C:=C) (Q0:=bodyPost Tryz.prog fb (ave C s ty dso)) hgo hv (h C)
 refine h1.run (fun _=>w) G (Sx.asB B) a wd ⟨hg,rl.h,rl.sz,rl.df,fun k f e=>?_,fun nm B' e=>?_,fun nm nm' B' B2 e e' hne=>?_⟩
 ·obtain⟨y,⟨j,hj,hy⟩,h2⟩:=ae0 (ρ:=fun _=>w) (w:=w) rfl 0 hvs k f e
  refine⟨y,rl.fr k y ?_,h2⟩
  rw[hj];exact acu vs 0 j y hy
 ·rw[aaI] at e
  split at e
  ·cases e;exact⟨Sx.asB B,hB.asB,fun o ho=>ho⟩
  ·cases e
 ·rw[aaI] at e e'
  split at e<;>split at e'
  ·rename_i h2 h3;exact absurd (h2.trans h3.symm) hne
  ·cases e'
  ·cases e
  ·cases e
theorem rzQ{fb:Func}{t d s:Nat}{ty:TypeId}{ds dso:List DV}(hr:fb.results.toList=[.tmp t])(hl:aaw fr t=some (.rw d))(hw:aaA own d=some (.b ty s ds false))(ed:ds=dso):
  CfS Tryz.prog GB C n (bodyPost Tryz.prog fb (ave C s ty dso)) fr own (.ex .ret []):=by
 subst ed
 refine⟨fun ρ G ov a w r=>?_⟩
 obtain⟨B,g1,g2⟩:=r.bx _ _ hw
 have hB:abB G ⟨ρ d,s,ty,ds,false⟩ B:=g1
 obtain⟨rest,hp⟩:=amo hB g2
 obtain⟨y,hy,hy'⟩:=r.ev (x:= .tmp t) (f:= .rw d) hl
 cases (show y=_ from hy')
 exact ail (C:=C) (n:=n) (fr:=frA a) (own:=ov) (G:=G) (vs:=[.slice (ρ d).a (ρ d).n (ρ d).c]) (by rw[hr];exact .tmp hy .nil) (B++rest) B hp (List.sublist_append_left _ _) ⟨ρ d,aaV.2 rfl,hB⟩ a w ⟨r.h,r.sz,aaQ a,r.df⟩
/-! the same with nil as the row of nothing, the last argument -/
def aBY(lk:LK):List Operand→Option (List (Option DV))
 |[]=>none
 |[x]=>match evX lk x with
  |some .nl=>some [none]
  |_=>none
 |x::t=>match evX lk x,aBY lk t with
  |some f,some l=>match akN f with
   |some d=>some (some d::l)
   |none=>none
  |_,_=>none
def azM(lk:LK)(fo:Operand)(args:Array Operand):Option (FuncId×List (Option DV)):=match evX lk fo with
 |some (.d (.v (.func (.func f) ⟨[]⟩ ⟨[]⟩)))=>match aBY lk args.toList with
  |some l=>some (f,l)
  |_=>none
 |_=>none
theorem avf{lk:LK}{bk:BM}{ρ:NE}{G:Gh}{ov:List Own}{a:Act}{w:World}(r:RlX GB C n lk bk ρ G ov a w): ∀{x:List Operand} {l:List (Option DV)},aBY lk x=some l→ ∃y,af7 (frA a) x=some y∧IsLs G (mkB l ⟨none,0,0⟩) y
 |[],l,e=>by cases e
 |[x],l,e=>by
  simp only[aBY] at e
  split at e<;>cases e
  rename_i h1
  obtain⟨y,h3,h4⟩:=r.ev h1
  cases (show y=_ from h4)
  exact⟨[Value.slice none 0 0],by simp only[af7,h3], .cons ((aaV (G:=G)).2 rfl) .nil⟩
 |x::x2::t,l,e=>by
  simp only[aBY] at e
  split at e
  ·rename_i f l' h1 h2
   cases hd:akN f with
   |none=>rw[hd] at e;cases e
   |some d=>
   rw[hd] at e;cases e
   obtain⟨y,h3,h4⟩:=r.ev h1
   obtain⟨ys,h5,h6⟩:=avf r (x:=x2::t) (by simpa only[aBY] using h2)
   exact⟨y::ys,by simp only[af7,h3] at h5⊢;rw[h5], .cons (acv h4 hd) h6⟩
  ·cases e
theorem auu{lk:LK}{bk:BM}{fo:Operand}{args:Array Operand}{tys:Array TypeId}{f:FuncId}{d:Nat}{l:List (Option DV)}{s:Nat}{ty ty0:TypeId}{pos:String}{af:Array Edge}{gd:Option (Nat×Bool)}{dso:List DV}
  (ha:azM lk fo args=some (f,l))(hF:PB GB Tryz.prog f (mkB l) s ty0 [] (fun w=> .v (.slice w.a w.n w.c)) dso):OpR Tryz.prog GB C n lk bk ⟨some d, .call ⟨.value fo,args,tys⟩,ty,pos,af,gd⟩ (.rw d) [(d,some (.b ty0 s dso true))] [d]:=by
 intro hd tl tb K' s1 s2 hf hk
 refine⟨fun ρ G ov a w r Q=>?_⟩
 have r1:=r.mono s1 s2
 unfold azM at ha
 split at ha<;>try (cases ha;done)
 rename_i h1
 split at ha<;>cases ha
 rename_i h2
 obtain⟨y,hy,hy'⟩:=r1.ev h1
 rw[(aaV (G:=G)).1 hy'] at hy
 obtain⟨vs,h7,h8⟩:=avf r1 h2
 refine ae3 (M:=[]) (rest:=ov) hy h7 (List.Perm.refl _) (hF G ⟨none,0,0⟩ vs [] r.gb ⟨[], .nil _ _, .nil,by simp,fun h=>by cases h⟩ h8) hd (fun v own1 G' hG hK a' w' rl=>?_) a w Q ⟨r.h,r.sz,aaQ a,r.df⟩
 obtain⟨z,hr,vs',k1,k2,k3,k4⟩:=hK
 have k1':=k1.relo (flM [])
 have e2: ∀o∈own1.map (relo (flM [])),o.lo=true:=fun o ho=>by
  obtain⟨o',_,rfl⟩:=List.mem_map.1 ho
  rfl
 generalize own1.map (relo (flM []))=B' at rl e2 k1'
 have rl':Rel C n (Sx.put (frA a) (some d) v) (B'++ov) G' a' w':=rl
 have hdis:=(List.pairwise_append.1 rl'.h.nd).2.2
 rw[aaV.1 hr] at rl'
 have r3:=r.new (x:=z) (B':= .b ty0 s dso true) (os:=B') (ov':=B'++ov) (f:= .rw d) (y:= .slice z.a z.n z.c) hf hG.le rl'.h ⟨vs',by simpa using k1',k2,k3,fun _=>e2⟩ (fun o ho=>List.mem_append_left _ ho) (fun o ho=>List.mem_append_right _ ho)
  (fun o ho hc=>by
   have hx: ∃o1∈B',o1.b=o.b:=by
    rcases k1' with⟨_,h,_⟩|⟨b0,rest0,lo0,h,hB,_⟩
    ·rw[show z=_ from h] at hc;cases hc
    ·rw[show z=_ from h] at hc;cases hc;exact⟨⟨_,aak vs'++rest0,_,lo0⟩,by rw[hB];exact List.mem_cons_self,rfl⟩
   obtain⟨o1,ho1,he1⟩:=hx
   exact hdis o1 ho1 o ho he1) (by simp[IsX]) (abr rl')
 exact hk.run _ G' _ a' w' r3
def aCd(fr:FrX)(cf:Cf):Option (FuncId×List (Option DV)×Nat):=match opC fr cf with
 |some ⟨some d, .call ⟨.value fo,args,_⟩,_,_,_,_⟩=>match azM (lkC fr cf) fo args with
  |some (f,l)=>some (f,l,d)
  |none=>none
 |_=>none
theorem cqn[fu:Fu]{f:FuncId}{d:Nat}{l:List (Option DV)}{ty:TypeId}{s:Nat}{dso:List DV}(dso':List DV)(ha:aCd fr cf=some (f,l,d))(hF:PB GB Tryz.prog f (mkB l) s ty [] (fun w=> .v (.slice w.a w.n w.c)) dso)(he:dso=dso')
  (hgo:goA tt n fu.n fr own cf (.rw d) [(d,some (.b ty s dso' true))] [d]=⟨vc,fr',own',cf'⟩)(k:CfS Tryz.prog GB C n Q0 fr' own' cf')
  (hv:aai vc:=by first|exact trivial|(simp only[aai];kernel_rfl)|(simp only[aai];omega)|(simp only[aai,List.length_map,List.length_set,List.length_replicate];omega)):CfS Tryz.prog GB C n Q0 fr own cf:=by
 subst he
 unfold aCd at ha
 split at ha<;>try (cases ha;done)
 rename_i hh
 split at ha<;>cases ha
 rename_i h1
 exact us hh (auu h1 hF) hgo hv k
end
/-! append to a row that was handed over -/
section
variable {P:Program} {T:TT} {GB:Gh} {C:Ctx} {n:Nat} {lk:LK} {bk:BM} {ρ:NE} {G:Gh} {ov:List Own} {a:Act} {w:World}
variable {dst:Option Nat} {t t' ty':TypeId} {pos:String} {af:Array Edge} {gd:Option (Nat×Bool)} {x y:Operand} {e s by_:Nat}
theorem awG{d nm:Nat}{i:TI}{z:DV}{ds ds2:List DV}[hT:acO P t e s by_][hN:TyN P t'](hi:afE P e=some i)(hz:zeE i=some z)(hs:Nat.beq z.cells.length s=true)(hx:evX lk x=some (.rw nm))(hb:bk nm=some (.b e s ds false))(hy:auW lk bk s y=some ds2)(hk2:adx s ds2)
  (hby:Nat.blt 0 by_=true)(hbd:(ds.length+ds2.length)*by_≤140737488355328)(hnd:Nat.beq nm d=false){ds':List DV}(hds:ds++ds2=ds'):
  OpR P GB C n lk bk ⟨some d, .call ⟨.builtin .append, #[x,y], #[t,t']⟩,ty',pos,af,gd⟩ (.rw d) [(nm,none),(d,some (.b e s ds' false))] [d]:=by
 intro hd tl tb K s1 s2 hf hk
 refine⟨fun ρ G ov a w r Q=>?_⟩
 subst hds
 have r1:=r.mono s1 s2
 obtain⟨v,hz1,hz2,hz3⟩:=akx hi hz
 have cz:=((hz2 G).cells hz3).1.len
 replace hs:=Nat.eq_of_beq_eq_true hs
 rw[Nat.blt_eq] at hby
 have hne:nm≠d:=fun e=>by subst e;simp at hnd
 obtain⟨u,hx',hx2⟩:=r1.ev hx
 cases hx2
 obtain⟨B,hB0,hBo⟩:=r1.bx _ _ hb
 have hB1:abB G ⟨ρ nm,s,e,ds,false⟩ B:=hB0
 clear hB0
 obtain⟨vs,hB,hv,hvs,_⟩:=hB1
 simp only[] at hB hv hvs
 obtain⟨w2,us,hy',h2,h3,h4,h5,h6⟩:=aog (P:=P) r1 hy hk2
 have hus:(aak us).length=us.length*s:=aav us h4
 have hbd':(vs.length+us.length)*by_≤140737488355328:=by rw[hv.len,h3.len];exact hbd
 have hall: ∀v∈vs++us,(aad v).length=s:=fun v hv=>by
  rcases List.mem_append.1 hv with hv|hv
  ·exact hvs v hv
  ·exact h4 v hv
 have rd:=r.dropB nm
 have hf':acS [d] (some d) tl (Sx.upB tb [(nm,none)]):=fun m hm=>by
  obtain⟨g1,g2⟩:=hf m hm
  refine⟨g1,fun k B' hk e=>g2 k B' hk ?_⟩
  simp only[Sx.upB] at e
  split at e
  ·cases e
  ·exact e
 have hbk: ∀m B',(Sx.upB tb [(nm,none)]) m=some B'→m≠nm∧tb m=some B':=fun m B' e=>by
  simp only[Sx.upB] at e
  split at e
  ·cases e
  ·exact⟨by assumption,e⟩
 have hnew: ∀{z:SV} {ov':List Own} {B1:List Own} {a':Act} {w':World} {dz:List DV},abB G ⟨z,s,e,dz,false⟩ B1→(∀o∈B1,o∈ov')→(∀m B',m≠d→(Sx.upB tb [(nm,none)]) m=some B'→ ∀o∈ov,(ρ m).a=some ⟨o.b,0,none⟩→o∈ov'∧z.a≠some ⟨o.b,0,none⟩)→
   SX GB C n (upL tl (some d) (.rw d)) (Sx.upB (Sx.upB tb [(nm,none)]) [(d,some (.b e s dz false))]) K→Rel C n (Sx.put (frA a) (some d) (.slice z.a z.n z.c)) ov' G a' w'→K a' w':=fun hB1 hos hov hk1 rl=>
  hk1.run _ _ _ _ _ (rd.new' (f:= .rw d) (y:= .slice _ _ _) hf' (GLe.refl _) rl.h (hB1.toBk (by simp)) hos hov (by show _=_;simp) (abr rl))
 have hfin: ∀(b:Nat) (lo1:Bool) (cap':Nat) (rest':List Value) (ov1:List Own) a' w',vs.length+us.length≤cap'→rest'.length+(vs.length+us.length)*s=cap'*s→(∀o∈ov,(ρ nm).a≠some ⟨o.b,0,none⟩→o∈ov1)→
   Rel C n (put (frA a) (some d) (.slice (some ⟨b,0,none⟩) (vs.length+us.length) cap')) (⟨b,aak (vs++us)++rest',e,lo1⟩::ov1) G a' w'→K a' w':=by
  intro b lo1 cap' rest' ov1 a' w' hc hr ho1 rl
  have hnd':=(List.pairwise_cons.1 rl.h.nd).1
  refine hnew (z:=⟨some ⟨b,0,none⟩,vs.length+us.length,cap'⟩) (B1:=[⟨b,aak (vs++us)++rest',e,lo1⟩]) ⟨vs++us, .inr ⟨b,rest',lo1,by simp,rfl,aav _ hall,?_,by simpa using hc⟩,hv.app h3,hall,fun h=>by cases h⟩
   (fun o ho=>by rw[List.mem_singleton.1 ho];exact List.mem_cons_self) (fun m B' hm e o ho hmo=>?_) hk rl
  ·rw[aav _ hall,List.length_append]
   simp only[]
   omega
  ·obtain⟨h7,h8⟩:=hbk m B' e
   have ho2:=ho1 o ho fun hc=>r.dj m nm B' _ h8 (s2 _ _ hb) h7 _ hmo hc
   exact⟨List.mem_cons_of_mem _ ho2,fun e'=>by cases e';exact hnd' o ho2 rfl⟩
 rcases hB with⟨e1,e2,e3⟩|⟨b,rest,lo',k3,k4,k5,k6,k7⟩
 ·subst e1
  rw[e2] at hx'
  by_cases hne:us=[]
  ·subst hne
   have:ds2=[]:=List.eq_nil_of_length_eq_zero (by rw[←h3.len];rfl)
   subst this
   rw[h2] at hy'
   refine agK hx' hy' hd (fun a' w' rl=>?_) a w Q ⟨r.h,r.sz,aaQ a,r.df⟩
   refine hnew (z:=⟨none,0,0⟩) (B1:=[]) ⟨[], .inl ⟨rfl,rfl,rfl⟩,by simpa using hv,by simp,fun h=>by cases h⟩ (fun o ho=>by cases ho) (fun m B' hm e o ho hmo=>⟨ho,fun e'=>by cases e'⟩) hk rl
  ·have hup:0<us.length:=List.length_pos_iff.2 hne
   rw[h2] at hy' h6
   refine ac8 (z:=v) (xs:=[]) (ys:=aak us) hx' hy' afa h6 (by show(0:Nat)<0+us.length;omega) hby (by simpa using hbd') hd (fun b cap' hc a' w' rl=>?_) a w Q ⟨r.h,r.sz,aaQ a,r.df⟩
   exact hfin b true cap' (abk v (cap'-us.length)) ov a' w' (by simpa using hc) (by rw[abN,cz,hs,←Nat.add_mul];simp at hc⊢;congr 1;omega) (fun o ho _=>ho) (by simpa using rl)
 ·subst k4
  have ha:(ρ nm).a=some ⟨b,0,none⟩:=by rw[k3]
  have hn:(ρ nm).n=vs.length:=by rw[k3]
  rw[ha,hn] at hx'
  rw[h2] at hy' h6
  obtain⟨ov1,o1,o2⟩:=amb.of_mem (hBo _ List.mem_cons_self)
  refine agC (z:=v) (xs:=aak vs) (ys:=aak us) (rest:=rest) (own1:=ov1) hx' hy' o1 k5 k6 k7 h6 hus h5 hby hbd' (by rw[cz,hs]) hd (fun b' lo2 cap' rest' hc hr a' w' rl=>?_) a w Q ⟨r.h,r.sz,aaQ a,r.df⟩
  rw[←adc] at rl
  exact hfin b' lo2 cap' rest' ov1 a' w' hc hr (fun o ho hne=>o2 o ho fun e'=>hne (by rw[ha,e'])) rl
end
section
variable {GB:Gh} {C:Ctx} {n:Nat} {Q0:Exit→Act→World→Prop} {fr fr':FrX} {own own':OwX} {cf cf':Cf} {vc:List Prop}
def aGF(fr:FrX)(own:OwX)(cf:Cf):Option (Nat×Nat×Nat×Nat×Nat×List DV×List DV):=match opC fr cf with
 |some ⟨some d, .call ⟨.builtin .append,⟨[x,y]⟩,⟨[t,t']⟩⟩,_,_,_,_⟩=>match abE tt t with
  |some ⟨.sl e s b,_,_,_⟩=>match abE tt t' with
   |some ⟨.sl _ _ _,_,_,_⟩=>match abE tt e with
    |some i=>match zeE i with
     |some z=>bif Nat.beq z.cells.length s&&Nat.blt 0 b then(match auW (lkC fr cf) (bkC fr own cf) s y with
      |some ds2=>match evX (lkC fr cf) x with
       |some (.rw nm)=>match bkC fr own cf nm with
        |some (.b e' s' ds false)=>bif (Nat.beq e' e&&Nat.beq s' s)&&!Nat.beq nm d then some (d,nm,e,s,b,ds,ds2) else none
        |_=>none
       |_=>none
      |none=>none) else none
     |none=>none
    |none=>none
   |_=>none
  |_=>none
 |_=>none
theorem apB[fu:Fu]{d nm:Nat}{e s b:Nat}{ds ds2:List DV}(ds':List DV)(h:aGF fr own cf=some (d,nm,e,s,b,ds,ds2))(hds:ds++ds2=ds')(ho2:adx s ds2)(hgo:goA tt n fu.n fr own cf (.rw d) [(nm,none),(d,some (.b e s ds' false))] [d]=⟨vc,fr',own',cf'⟩)(k:CfS Tryz.prog GB C n Q0 fr' own' cf')
  (hbd:(ds.length+ds2.length)*b≤140737488355328:=by simp;omega)
  (hv:aai vc:=by first|exact trivial|(simp only[aai];kernel_rfl)|(simp only[aai];omega)|(simp only[aai,List.length_map,List.length_set,List.length_replicate];omega)):CfS Tryz.prog GB C n Q0 fr own cf:=by
 unfold aGF at h
 split at h<;>try (cases h;done)
 rename_i hh
 split at h<;>try (cases h;done)
 rename_i hT
 split at h<;>try (cases h;done)
 rename_i hT'
 split at h<;>try (cases h;done)
 rename_i hi
 split at h<;>try (cases h;done)
 rename_i hz
 rw[cond_eq_ite] at h
 split at h<;>try (cases h;done)
 rename_i hc
 simp only[Bool.and_eq_true] at hc
 split at h<;>try (cases h;done)
 rename_i hy
 have:=af5 (aca _ _ hT) rfl
 have hN:TyN Tryz.prog _:=⟨_,(af5 (aca _ _ hT') rfl).un⟩
 split at h<;>try (cases h;done)
 rename_i hx
 split at h<;>try (cases h;done)
 rename_i hb
 rw[cond_eq_ite] at h
 split at h<;>cases h
 rename_i hq
 simp only[Bool.and_eq_true,Bool.not_eq_true'] at hq
 cases Nat.eq_of_beq_eq_true hq.1.1
 cases Nat.eq_of_beq_eq_true hq.1.2
 exact us hh (awG (aca _ _ hi) hz hc.1 hx hb hy ho2 hc.2 hbd hq.2 hds) hgo hv k
end
def Tr.val:Tr→PtQ→Bool
 | .leaf b,_=>b
 | .node l x y,p=>if 0<l.value p then x.val p else y.val p
def Tr.lns:Tr→List LnQ
 | .leaf _=>[]
 | .node l x y=>l::(x.lns++y.lns)
theorem act{P:LnQ→Prop}: ∀{t:Tr},t.all P↔ ∀l∈t.lns,P l
 | .leaf _=>⟨fun _ l hl=>(by cases hl),fun _=>trivial⟩
 | .node l x y=>by
  show(P l∧x.all P∧y.all P)↔ ∀m∈l::(x.lns++y.lns),P m
  rw[act (t:=x),act (t:=y)]
  constructor
  ·rintro ⟨h0,h1,h2⟩ m hm
   rcases List.mem_cons.1 hm with rfl|hm
   ·exact h0
   ·rcases List.mem_append.1 hm with hm|hm
    ·exact h1 m hm
    ·exact h2 m hm
  ·intro h
   exact⟨h l List.mem_cons_self,fun m hm=>h m (List.mem_cons_of_mem _ (List.mem_append_left _ hm)),fun m hm=>h m (List.mem_cons_of_mem _ (List.mem_append_right _ hm))⟩
theorem adk{t:Tr}(h:t.all LnQ.ok): ∀l∈t.lns,l.ok:=act.1 h
def Off(L:List LnQ)(p:PtQ):Prop:= ∀l∈L,l.value p≠0
theorem Off.sub{L M:List LnQ}{p:PtQ}(h:Off L p)(k: ∀l∈M,l∈L):Off M p:=fun l hl=>h l (k l hl)
theorem Off.l{l:LnQ}{x y:Tr}{p:PtQ}(h:Off (Tr.node l x y).lns p):l.value p≠0:=h l List.mem_cons_self
theorem Off.x{l:LnQ}{x y:Tr}{p:PtQ}(h:Off (Tr.node l x y).lns p):Off x.lns p:=h.sub fun m hm=>List.mem_cons_of_mem _ (List.mem_append_left _ hm)
theorem Off.y{l:LnQ}{x y:Tr}{p:PtQ}(h:Off (Tr.node l x y).lns p):Off y.lns p:=h.sub fun m hm=>List.mem_cons_of_mem _ (List.mem_append_right _ hm)
theorem Off.app{L M:List LnQ}{p:PtQ}:Off (L++M) p↔Off L p∧Off M p:=by
 unfold Off
 constructor
 ·intro h;exact⟨fun l hl=>h l (List.mem_append_left _ hl),fun l hl=>h l (List.mem_append_right _ hl)⟩
 ·rintro ⟨h1,h2⟩ l hl;rcases List.mem_append.1 hl with h|h;exact h1 l h;exact h2 l h
def opB(op:Int)(a b:Bool):Bool:=if op=1 then a||b else if op=2 then a&&b else if op=3 then a&&!b else a !=b
theorem Tr.val_join(l:LnQ)(X Y:Tr)(p:PtQ):(Tr.joinQ l X Y).val p=(Tr.node l X Y).val p:=by
 unfold Tr.joinQ
 split
 ·rename_i h
  cases X<;>cases Y<;>simp[Tr.isLeaf,Tr.code] at h
  subst h
  simp[Tr.val]
 ·rfl
theorem Tr.val_pos{l:LnQ}{x y:Tr}{p:PtQ}(h:0<l.value p):(Tr.node l x y).val p=x.val p:=by rw[Tr.val,if_pos h]
theorem Tr.val_neg{l:LnQ}{x y:Tr}{p:PtQ}(h: ¬0<l.value p):(Tr.node l x y).val p=y.val p:=by rw[Tr.val,if_neg h]
theorem Tr.val_compl: ∀(t:Tr) (p:PtQ),t.compl.val p=!t.val p
 | .leaf b,p=>rfl
 | .node l x y,p=>by
  rw[Tr.compl]
  by_cases h:0<l.value p
  ·rw[Tr.val_pos h,Tr.val_pos h,x.val_compl]
  ·rw[Tr.val_neg h,Tr.val_neg h,y.val_compl]
theorem arh{c:aaf}{l:LnQ}(hc:aa3 c)(hl:l.ok)(hb:abq c l.rev=false){p:PtQ}(hp:InD c p)(h0:l.value p≠0):0<l.value p:=by
 by_cases h:0<l.value p
 ·exact h
 ·exfalso
  have:abq c l.rev=true:=(adE hc hl.rev).2 ⟨p,hp,by rw[aaM];grind⟩
  rw[hb] at this;cases this
theorem ap4{c:aaf}{l:LnQ}(hc:aa3 c)(hl:l.ok)(hb:abq c l=false){p:PtQ}(hp:InD c p): ¬0<l.value p:=fun h=>by
 have:abq c l=true:=(adE hc hl).2 ⟨p,hp,h⟩
 rw[hb] at this;cases this
theorem Tr.val_restrict: ∀(t:Tr) (c:aaf) (p:PtQ),t.all LnQ.ok→aa3 c→InD c p→Off t.lns p→(t.restrict c).val p=t.val p
 | .leaf _,_,_,_,_,_,_=>rfl
 | .node l x y,c,p,⟨hl,hx,hy⟩,hc,hp,ho=>by
  cases hb:abq c l.rev with
  |false=>rw[Tr.restrict_A _ _ hb,x.val_restrict c p hx hc hp ho.x,Tr.val_pos (arh hc hl hb hp ho.l)]
  |true=>
   cases hb2:abq c l with
   |false=>rw[Tr.restrict_B _ _ hb hb2,y.val_restrict c p hy hc hp ho.y,Tr.val_neg (ap4 hc hl hb2 hp)]
   |true=>
    rw[Tr.restrict_C _ _ hb hb2,Tr.val_join]
    obtain⟨g1,i1⟩:=aaY hc hl hb2
    obtain⟨g2,i2⟩:=aaY hc hl.rev hb
    by_cases h:0<l.value p
    ·rw[Tr.val_pos h,Tr.val_pos h,x.val_restrict _ p hx g1 ((i1 p).2 ⟨hp,h⟩) ho.x]
    ·rw[Tr.val_neg h,Tr.val_neg h,y.val_restrict _ p hy g2 ((i2 p).2 ⟨hp,by rw[aaM];have:=ho.l;grind⟩) ho.y]
theorem Tr.val_choose(op:Int)(b:Bool)(t:Tr)(c:aaf)(p:PtQ)(ht:t.all LnQ.ok)(hc:aa3 c)(hp:InD c p)(ho:Off t.lns p):(t.chooseQ op b c).val p=opB op b (t.val p):=by
 have hr:=t.val_restrict c p ht hc hp ho
 unfold Tr.chooseQ opB
 by_cases h1:op=1
 ·subst h1;cases b<;>simp[hr,Tr.val]
 ·by_cases h2:op=2
  ·subst h2;cases b<;>simp[hr,Tr.val]
  ·by_cases h3:op=3
   ·subst h3;cases b<;>simp[hr,Tr.val,Tr.val_compl]
   ·cases b<;>simp[h1,h2,h3,hr,Tr.val_compl]
theorem Tr.val_merge(op:Int)(u:Tr)(hu:u.all LnQ.ok): ∀(t:Tr) (c:aaf) (p:PtQ),t.all LnQ.ok→aa3 c→InD c p→Off t.lns p→Off u.lns p→(t.mergeQ op u c).val p=opB op (t.val p) (u.val p)
 | .leaf b,c,p,_,hc,hp,_,ho=>u.val_choose op b c p hu hc hp ho
 | .node l x y,c,p,⟨hl,hx,hy⟩,hc,hp,ho,hou=>by
  rw[Tr.mergeQ]
  cases hb:abq c l.rev with
  |false=>
   rw[if_pos (show(!false)=true from rfl),Tr.val_merge op u hu x c p hx hc hp ho.x hou,Tr.val_pos (arh hc hl hb hp ho.l)]
  |true=>
   rw[if_neg (by decide)]
   cases hb2:abq c l with
   |false=>rw[if_pos (show(!false)=true from rfl),Tr.val_merge op u hu y c p hy hc hp ho.y hou,Tr.val_neg (ap4 hc hl hb2 hp)]
   |true=>
    rw[if_neg (by decide),Tr.val_join]
    obtain⟨g1,i1⟩:=aaY hc hl hb2
    obtain⟨g2,i2⟩:=aaY hc hl.rev hb
    by_cases h:0<l.value p
    ·rw[Tr.val_pos h,Tr.val_pos h,Tr.val_merge op u hu x _ p hx g1 ((i1 p).2 ⟨hp,h⟩) ho.x hou]
    ·rw[Tr.val_neg h,Tr.val_neg h,Tr.val_merge op u hu y _ p hy g2 ((i2 p).2 ⟨hp,by rw[aaM];have:=ho.l;grind⟩) ho.y hou]
theorem apX: ∀(L:List LnQ) (u:PtQ) (p:PtQ),Off L p→ ∃e:Rat,0<e∧ ∀d,0≤d→d≤e→Off L (acR p u d)
 |[],u,p,_=>⟨1,by decide,fun d _ _ l hl=>by cases hl⟩
 |l::L,u,p,h=>by
  obtain⟨e,he,hm⟩:=apX L u p (h.sub fun m hm=>List.mem_cons_of_mem _ hm)
  have h0:=h l List.mem_cons_self
  have key: ∃f:Rat,0<f∧ ∀d,0≤d→d≤f→l.value (acR p u d)≠0:=by
   by_cases hk:l.nor.dot u=0
   ·exact⟨1,by decide,fun d _ _=>by rw[abS,hk];grind⟩
   ·generalize hA:l.value p=A at*
    generalize hB:l.nor.dot u=B at*
    rcases abj A with h|h|h
    ·exact absurd h h0
    ·rcases abj B with k|k|k
     ·exact absurd k hk
     ·exact⟨1,by decide,fun d hd _=>by rw[abS,hA,hB];have:=aah hd (Rat.le_of_lt k);grind⟩
     ·refine⟨A/(-B)/2,?_,fun d hd h2=>?_⟩
      ·have:0<A/(-B):=by
        have e1:A/(-B)*(-B)=A:=by grind
        exact(aal (k:= -B) (by grind)).1 (by rw[e1];exact h)
       grind
      ·rw[abS,hA,hB]
       have e1:A/(-B)*(-B)=A:=by grind
       generalize A/(-B)=q at*
       have h4:=aah (a:=q/2-d) (b:= -B) (by grind) (by grind)
       grind
    ·rcases abj B with k|k|k
     ·exact absurd k hk
     ·refine⟨(-A)/B/2,?_,fun d hd h2=>?_⟩
      ·have:0<(-A)/B:=by
        have e1:(-A)/B*B= -A:=by grind
        exact(aal (k:=B) k).1 (by rw[e1];grind)
       grind
      ·rw[abS,hA,hB]
       have e1:(-A)/B*B= -A:=by grind
       generalize (-A)/B=q at*
       have h4:=aah (a:=q/2-d) (b:=B) (by grind) (by grind)
       grind
     ·exact⟨1,by decide,fun d hd _=>by rw[abS,hA,hB];have:=aah hd (b:= -B) (by grind);grind⟩
  obtain⟨f,hf,hk⟩:=key
  refine⟨if e≤f then e else f,by split<;>assumption,fun d hd hde m hm'=>?_⟩
  have h1:d≤e∧d≤f:=by split at hde<;>grind
  rcases List.mem_cons.1 hm' with rfl|hm'
  ·exact hk d hd h1.2
  ·exact hm d hd h1.1 m hm'
theorem alM{c:aaf}{p:PtQ}(hp:InD c p): ∀(L:List LnQ),(∀l∈L,l.ok)→ ∃q,InD c q∧Off L q
 |[],_=>⟨p,hp,fun l hl=>by cases hl⟩
 |l::L,h=>by
  obtain⟨q,hq,ho⟩:=alM hp L fun m hm=>h m (List.mem_cons_of_mem _ hm)
  by_cases h0:l.value q=0
  ·have hn:=agI (h l List.mem_cons_self).ne
   obtain⟨e,he,hm⟩:=hq.open l.nor
   obtain⟨f,hf,hk⟩:=apX L l.nor q ho
   refine⟨acR q l.nor (if e≤f then e else f),hm _ (by split<;>grind) (by split<;>grind),fun m hm'=>?_⟩
   rcases List.mem_cons.1 hm' with rfl|hm'
   ·rw[abS,h0]
    have:=aae (a:=if e≤f then e else f) (b:=m.nor.dot m.nor) (by split<;>assumption) hn
    grind
   ·exact hk _ (by split<;>grind) (by split<;>grind) m hm'
  ·exact⟨q,hq,fun m hm=>by rcases List.mem_cons.1 hm with rfl|hm;exact h0;exact ho m hm⟩
theorem atL{c:aaf}(hc:aa3 c)(L:List LnQ)(h: ∀l∈L,l.ok): ∃q,InD c q∧Off L q:=by
 obtain⟨p,hp⟩:=hc.ne
 exact alM hp L h
def Tr.Red:Tr→aaf→Prop
 | .leaf _,_=>True
 | .node l x y,c=>abq c l=true∧abq c l.rev=true∧x.Red (aaK c l)∧y.Red (aaK c l.rev)∧ ¬(x.isLeaf=true∧y.isLeaf=true∧x.code=y.code)
theorem Tr.red_leaf{t:Tr}(h:t.isLeaf=true)(c:aaf):t.Red c:=by
 cases t with
 |leaf b=>trivial
 |node l x y=>cases h
theorem Tr.join_red{l:LnQ}{x y:Tr}{c:aaf}(h1:abq c l=true)(h2:abq c l.rev=true)(hx:x.Red (aaK c l))(hy:y.Red (aaK c l.rev)):(Tr.joinQ l x y).Red c:=by
 rcases Tr.joinQ_cases l x y with⟨e,h⟩|⟨e,h⟩
 ·rw[e];exact Tr.red_leaf h c
 ·rw[e];exact⟨h1,h2,hx,hy,h⟩
theorem Tr.restrict_red: ∀(t:Tr) (c:aaf),(t.restrict c).Red c
 | .leaf _,_=>trivial
 | .node l x y,c=>by
  cases hb:abq c l.rev with
  |false=>rw[Tr.restrict_A _ _ hb];exact x.restrict_red c
  |true=>
   cases hb2:abq c l with
   |false=>rw[Tr.restrict_B _ _ hb hb2];exact y.restrict_red c
   |true=>rw[Tr.restrict_C _ _ hb hb2];exact Tr.join_red hb2 hb (x.restrict_red _) (y.restrict_red _)
theorem Tr.compl_leaf{t:Tr}:t.compl.isLeaf=t.isLeaf:=by cases t<;>rfl
theorem Tr.compl_code{t:Tr}(h:t.isLeaf=true):t.compl.code=!t.code:=by
 cases t with
 |leaf b=>rfl
 |node l x y=>cases h
theorem Tr.compl_red: ∀{t:Tr} {c:aaf},t.Red c→t.compl.Red c
 | .leaf _,_,_=>trivial
 | .node l x y,c,⟨h1,h2,h3,h4,h5⟩=>by
  refine⟨h1,h2,Tr.compl_red h3,Tr.compl_red h4,fun⟨a,b,e⟩=>?_⟩
  rw[Tr.compl_leaf] at a b
  rw[Tr.compl_code a,Tr.compl_code b] at e
  exact h5 ⟨a,b,by simpa using e⟩
theorem Tr.choose_red(op:Int)(b:Bool)(t:Tr)(c:aaf):(t.chooseQ op b c).Red c:=by
 have h:=t.restrict_red c
 unfold Tr.chooseQ
 split
 ·split
  ·trivial
  ·exact h
 ·split
  ·trivial
  ·split
   ·exact Tr.compl_red h
   ·exact h
theorem Tr.merge_red(op:Int)(u:Tr): ∀(t:Tr) (c:aaf),(t.mergeQ op u c).Red c
 | .leaf b,c=>u.choose_red op b c
 | .node l x y,c=>by
  rw[Tr.mergeQ]
  cases hb:abq c l.rev with
  |false=>rw[if_pos (show(!false)=true from rfl)];exact Tr.merge_red op u x c
  |true=>
   rw[if_neg (by decide)]
   cases hb2:abq c l with
   |false=>rw[if_pos (show(!false)=true from rfl)];exact Tr.merge_red op u y c
   |true=>rw[if_neg (by decide)];exact Tr.join_red hb2 hb (Tr.merge_red op u x _) (Tr.merge_red op u y _)
theorem Tr.red_const{L:List LnQ}(hL: ∀l∈L,l.ok){v:Bool}: ∀{t:Tr} {c:aaf},t.Red c→t.all LnQ.ok→aa3 c→(∀p,InD c p→Off L p→t.val p=v)→t= .leaf v
 | .leaf b,c,_,_,hc,h=>by
  obtain⟨q,h1,h2⟩:=atL hc L hL
  have:=h q h1 h2
  rw[Tr.val] at this;rw[this]
 | .node l x y,c,⟨h1,h2,h3,h4,h5⟩,⟨hl,hx,hy⟩,hc,h=>by
  obtain⟨g1,i1⟩:=aaY hc hl h1
  obtain⟨g2,i2⟩:=aaY hc hl.rev h2
  have ex:=Tr.red_const hL (v:=v) h3 hx g1 (fun p hp ho=>by
   have k:=(i1 p).1 hp
   rw[←h p k.1 ho,Tr.val_pos k.2])
  have ey:=Tr.red_const hL (v:=v) h4 hy g2 (fun p hp ho=>by
   have k:=(i2 p).1 hp
   rw[aaM] at k
   rw[←h p k.1 ho,Tr.val_neg (by have:=k.2;grind)])
  subst ex;subst ey
  exact absurd ⟨rfl,rfl,rfl⟩ h5
theorem ags(p:PtQ):InD [] p:=fun s hs=>(by cases hs)
theorem Tr.restrict_leaf{a:Tr}(ha:a.all LnQ.ok){L:List LnQ}(hL: ∀l∈L,l.ok)(hLa: ∀l∈a.lns,l∈L){v:Bool}:a.restrict []= .leaf v↔ ∀p,Off L p→a.val p=v:=by
 constructor
 ·intro h p hp
  rw[←Tr.val_restrict a [] p ha aa3.nil (ags p) (hp.sub hLa),h];rfl
 ·intro h
  refine Tr.red_const hL (Tr.restrict_red a []) (Tr.restrict_all LnQ.ok a [] ha) aa3.nil (fun p _ hp=>?_)
  rw[Tr.val_restrict a [] p ha aa3.nil (ags p) (hp.sub hLa)]
  exact h p hp
end Go.Sx
end
