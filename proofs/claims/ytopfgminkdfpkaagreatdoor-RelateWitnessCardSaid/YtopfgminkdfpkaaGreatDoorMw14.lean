/-
  Plain geometry: a reduced tree has few nodes: on each line at most one more than other lines cross it. Plain geometry: the reference merges as the code does; relations of regions by points. Plain geometry: points in all faces of the arrangement of lines. Plain geometry: the reference's points in the faces lie on no line, and in every face. What the reference does with spans and fragments, as functions; the raw tree. Reference: points with integer coordinates, lines through them. Reference: what is drawn from the tape: numbers, points, lines, trees. The reference's rings, winding numbers, built trees and regions, as functions of the tape. The reference's rings and regions, as functions of the tape. Plain laws of layers 19 and 20: relations of regions by points.
-/
import Derived.Test.YtopfgminkdfpkaaGreatDoorMw13
set_option linter.unusedSimpArgs false
set_option maxHeartbeats 2000000
set_option maxRecDepth 100000
set_option linter.unusedVariables false
section
namespace Go.Sx
open Go Go.Proofs
variable {GB:Gh}
def LnQ.same(l m:LnQ):Prop:=m=l∨m=l.rev
instance (l m:LnQ):Decidable (l.same m):=inferInstanceAs (Decidable (_∨_))
def Tr.cnt(l:LnQ):Tr→Nat
 | .leaf _=>0
 | .node m x y=>(if l.same m then 1 else 0)+(x.cnt l+y.cnt l)
theorem aiI{l m:LnQ}(h:l.same m){p:PtQ}(hp:l.value p=0):m.value p=0:=by
 rcases h with rfl|rfl
 ·exact hp
 ·rw[aaM,hp];rfl
def aAK(l:LnQ)(c:aaf):Prop:= ∃p,InD c p∧l.value p=0
theorem Tr.cnt_zero{l:LnQ}: ∀{t:Tr} {c:aaf},t.Red c→t.all LnQ.ok→aa3 c→ ¬aAK l c→t.cnt l=0
 | .leaf _,_,_,_,_,_=>rfl
 | .node m x y,c,⟨h1,h2,h3,h4,_⟩,⟨hm,hx,hy⟩,hc,hn=>by
  obtain⟨g1,i1⟩:=aaY hc hm h1
  obtain⟨g2,i2⟩:=aaY hc hm.rev h2
  have e1:=Tr.cnt_zero (l:=l) h3 hx g1 (fun⟨p,hp,h0⟩=>hn ⟨p,((i1 p).1 hp).1,h0⟩)
  have e2:=Tr.cnt_zero (l:=l) h4 hy g2 (fun⟨p,hp,h0⟩=>hn ⟨p,((i2 p).1 hp).1,h0⟩)
  rw[Tr.cnt,e1,e2]
  by_cases hs:l.same m
  ·exfalso
   -- m crosses the cell
   obtain⟨p,hp,k1⟩:=(adE hc hm).1 h1
   obtain⟨q,hq,k2⟩:=(adE hc hm.rev).1 h2
   rw[aaM] at k2
   generalize hA:m.value p=A at*
   generalize hB:m.value q=B at*
   have hAB:0<A-B:=by grind
   have e:A/(A-B)*(A-B)=A:=by grind
   generalize A/(A-B)=r at*
   have r0:0≤r:=(aap hAB).1 (by rw[e];exact Rat.le_of_lt k1)
   have r1:r≤1:=by
    have:=(aap (s:=1-r) hAB).1 (by grind)
    grind
   have hz:=hp.seg hq r0 r1
   have hv:m.value (arQ p q r)=0:=by rw[acX,hA,hB];grind
   refine hn ⟨_,hz,?_⟩
   rcases hs with rfl|rfl
   ·exact hv
   ·rw[aaM] at hv;grind
  ·rw[if_neg hs]
def inB(c:aaf)(p:PtQ):Bool:=c.all fun s=>decide (0<s.l.value p)
theorem ae4{c:aaf}{p:PtQ}:inB c p=true↔InD c p:=by
 unfold inB InD;rw[List.all_eq_true];simp
def ayF(P:List PtQ)(l:LnQ)(t:Tr):Prop:=t.all fun m=>l.same m∨ ∀p,l.value p=0→m.value p=0→p∈P
theorem ajk{α:Type}{p q r:α→Bool}: ∀(P:List α),(∀x∈P,q x=true→p x=true)→(∀x∈P,r x=true→p x=true)→(∀x∈P,¬(q x=true∧r x=true))→P.countP q+P.countP r≤P.countP p
 |[],_,_,_=>Nat.le_refl _
 |x::P,h1,h2,h3=>by
  have ih:=ajk (p:=p) (q:=q) (r:=r) P (fun y hy=>h1 y (List.mem_cons_of_mem _ hy)) (fun y hy=>h2 y (List.mem_cons_of_mem _ hy)) (fun y hy=>h3 y (List.mem_cons_of_mem _ hy))
  have a:=h1 x List.mem_cons_self
  have b:=h2 x List.mem_cons_self
  have c:=h3 x List.mem_cons_self
  rw[List.countP_cons,List.countP_cons,List.countP_cons]
  cases hq:q x<;>cases hr:r x<;>simp_all<;>omega
theorem ajj{α:Type}{p q r:α→Bool}: ∀(P:List α),(∀x∈P,q x=true→p x=true)→(∀x∈P,r x=true→p x=true)→(∀x∈P,¬(q x=true∧r x=true))→(∃x∈P,p x=true∧q x=false∧r x=false)→P.countP q+P.countP r+1≤P.countP p
 |[],_,_,_,⟨x,hx,_⟩=>by cases hx
 |x::P,h1,h2,h3,h4=>by
  have i2:=ajk (p:=p) (q:=q) (r:=r) P (fun y hy=>h1 y (List.mem_cons_of_mem _ hy)) (fun y hy=>h2 y (List.mem_cons_of_mem _ hy)) (fun y hy=>h3 y (List.mem_cons_of_mem _ hy))
  have a:=h1 x List.mem_cons_self
  have b:=h2 x List.mem_cons_self
  have c:=h3 x List.mem_cons_self
  rw[List.countP_cons,List.countP_cons,List.countP_cons]
  obtain⟨z,hz,k1,k2,k3⟩:=h4
  rcases List.mem_cons.1 hz with rfl|hz
  ·simp only[k1,k2,k3];simp;omega
  ·have ih:=ajj (p:=p) (q:=q) (r:=r) P (fun y hy=>h1 y (List.mem_cons_of_mem _ hy)) (fun y hy=>h2 y (List.mem_cons_of_mem _ hy)) (fun y hy=>h3 y (List.mem_cons_of_mem _ hy)) ⟨z,hz,k1,k2,k3⟩
   cases hq:q x<;>cases hr:r x<;>simp_all<;>omega
theorem Tr.cnt_le{l:LnQ}(hl:l.ok){P:List PtQ}: ∀{t:Tr} {c:aaf},t.Red c→t.all LnQ.ok→aa3 c→ayF P l t→t.cnt l≤1+P.countP (inB c)
 | .leaf _,_,_,_,_,_=>Nat.zero_le _
 | .node m x y,c,⟨h1,h2,h3,h4,_⟩,⟨hm,hx,hy⟩,hc,⟨v0,v1,v2⟩=>by
  obtain⟨g1,i1⟩:=aaY hc hm h1
  obtain⟨g2,i2⟩:=aaY hc hm.rev h2
  have q1: ∀p∈P,inB (aaK c m) p=true→inB c p=true:=fun p _ h=>ae4.2 ((i1 p).1 (ae4.1 h)).1
  have q2: ∀p∈P,inB (aaK c m.rev) p=true→inB c p=true:=fun p _ h=>ae4.2 ((i2 p).1 (ae4.1 h)).1
  have q3: ∀p∈P,¬(inB (aaK c m) p=true∧inB (aaK c m.rev) p=true):=fun p _ ⟨a,b⟩=>by
   have a:=((i1 p).1 (ae4.1 a)).2
   have b:=((i2 p).1 (ae4.1 b)).2
   rw[aaM] at b;grind
  have ct:=ajk P q1 q2 q3
  rw[Tr.cnt]
  by_cases hs:l.same m
  ·have e1:=Tr.cnt_zero (l:=l) h3 hx g1 (fun⟨p,hp,h0⟩=>by have:=((i1 p).1 hp).2;rw[aiI hs h0] at this;grind)
   have e2:=Tr.cnt_zero (l:=l) h4 hy g2 (fun⟨p,hp,h0⟩=>by have:=((i2 p).1 hp).2;rw[aaM,aiI hs h0] at this;grind)
   rw[e1,e2,if_pos hs];omega
  ·rw[if_neg hs]
   have b1:=Tr.cnt_le hl h3 hx g1 v1
   have b2:=Tr.cnt_le hl h4 hy g2 v2
   by_cases w1:aAK l (aaK c m)
   ·by_cases w2:aAK l (aaK c m.rev)
    ·-- the crossing lies in the cell
     obtain⟨p,hp,k1⟩:=w1
     obtain⟨q,hq,k2⟩:=w2
     obtain⟨hp,ap⟩:=(i1 p).1 hp
     obtain⟨hq,aq⟩:=(i2 q).1 hq
     rw[aaM] at aq
     generalize hA:m.value p=A at*
     generalize hB:m.value q=B at*
     have hAB:0<A-B:=by grind
     have e:A/(A-B)*(A-B)=A:=by grind
     generalize A/(A-B)=r at*
     have r0:0≤r:=(aap hAB).1 (by rw[e];exact Rat.le_of_lt ap)
     have r1:r≤1:=by
      have:=(aap (s:=1-r) hAB).1 (by grind)
      grind
     have hz:=hp.seg hq r0 r1
     have hv:m.value (arQ p q r)=0:=by rw[acX,hA,hB];grind
     have hv2:l.value (arQ p q r)=0:=by rw[acX,k1,k2];grind
     have hmem:arQ p q r∈P:=by
      rcases v0 with h|h
      ·exact absurd h hs
      ·exact h _ hv2 hv
     have c3:=ajj P q1 q2 q3 ⟨_,hmem,ae4.2 hz,by
      rw[←Bool.not_eq_true,ae4,i1];rintro ⟨_,h⟩;rw[hv] at h;grind,by
      rw[←Bool.not_eq_true,ae4,i2];rintro ⟨_,h⟩;rw[aaM,hv] at h;grind⟩
     omega
    ·rw[Tr.cnt_zero h4 hy g2 w2];omega
   ·rw[Tr.cnt_zero h3 hx g1 w1];omega
theorem au3(l:LnQ):l.rev.rev=l:=by cases l;simp[LnQ.rev]
theorem LnQ.same.symm{l m:LnQ}(h:l.same m):m.same l:=by
 rcases h with rfl|rfl
 ·exact .inl rfl
 ·exact .inr (au3 l).symm
theorem LnQ.same.trans{l m n:LnQ}(h:l.same m)(k:m.same n):l.same n:=by
 rcases h with rfl|rfl
 ·exact k
 ·rcases k with rfl|rfl
  ·exact .inr rfl
  ·exact .inl (au3 l)
def adB(K:List LnQ)(t:Tr):Prop:=t.all fun n=> ∃m∈K,m.same n
def aqu(l m:LnQ):PtQ:=l.at (-(l.cutC m/l.cutK m))
theorem aoZ{l m:LnQ}(hl:l.ok)(hm:m.ok){p:PtQ}(h1:l.value p=0)(h2:m.value p=0):l.same m∨p=aqu l m:=by
 obtain⟨t,rfl⟩:=avM hl.ne h1
 rw[afl] at h2
 by_cases hk:l.cutK m=0
 ·left
  have hc:l.cutC m=0:=by rw[hk] at h2;grind
  rcases aha hm hl (fun s=>by rw[afl,hk,hc];grind) with h|h
  ·exact .inl h
  ·exact .inr h
 ·right
  unfold aqu
  congr 1
  grind
theorem adB.covers{K:List LnQ}(hK: ∀m∈K,m.ok){l:LnQ}(hl:l.ok): ∀{t:Tr},adB K t→ayF (K.map (aqu l)) l t
 | .leaf _,_=>trivial
 | .node n x y,⟨⟨m,hm,hs⟩,h1,h2⟩=>by
  refine⟨?_,adB.covers hK hl h1,adB.covers hK hl h2⟩
  by_cases h:l.same n
  ·exact .inl h
  ·right
   intro p k1 k2
   rcases aoZ hl (hK m hm) k1 (aiI hs.symm k2) with h3|h3
   ·exact absurd (h3.trans hs) h
   ·rw[h3];exact List.mem_map_of_mem hm
def Kc(t:Tr):List LnQ→Nat
 |[]=>0
 |l::K=>t.cnt l+Kc t K
def Ks(n:LnQ):List LnQ→Nat
 |[]=>0
 |l::K=>(if l.same n then 1 else 0)+Ks n K
theorem au9{n:LnQ}{x y:Tr}: ∀K,Kc (.node n x y) K=Ks n K+(Kc x K+Kc y K)
 |[]=>rfl
 |l::K=>by
  have:=au9 (n:=n) (x:=x) (y:=y) K
  show(Tr.node n x y).cnt l+Kc (.node n x y) K=_
  rw[this,Tr.cnt]
  show _=(if l.same n then 1 else 0)+Ks n K+(x.cnt l+Kc x K+(y.cnt l+Kc y K))
  omega
theorem ayA{n m:LnQ}(hs:m.same n): ∀{K:List LnQ},m∈K→1≤Ks n K
 |[],h=>by cases h
 |l::K,h=>by
  show 1≤(if l.same n then 1 else 0)+Ks n K
  rcases List.mem_cons.1 h with rfl|h
  ·rw[if_pos hs];omega
  ·have:=ayA hs h;omega
theorem aoL{K:List LnQ}: ∀{t:Tr},adB K t→t.size≤Kc t K
 | .leaf _,_=>Nat.zero_le _
 | .node n x y,⟨⟨m,hm,hs⟩,h1,h2⟩=>by
  have a:=aoL h1
  have b:=aoL h2
  have c:=ayA hs hm
  rw[au9,Tr.size];omega
theorem aEq{t:Tr}{B:Nat}: ∀{K:List LnQ},(∀l∈K,t.cnt l≤B)→Kc t K≤K.length*B
 |[],_=>Nat.zero_le _
 |l::K,h=>by
  have:=aEq (t:=t) (B:=B) (K:=K) fun m hm=>h m (List.mem_cons_of_mem _ hm)
  have:=h l List.mem_cons_self
  show t.cnt l+Kc t K≤(K.length+1)*B
  rw[Nat.succ_mul];omega
theorem Tr.size_le{K:List LnQ}(hK: ∀m∈K,m.ok){t:Tr}{c:aaf}(hr:t.Red c)(ht:t.all LnQ.ok)(hc:aa3 c)(h:adB K t):t.size≤K.length*(1+K.length):=by
 refine Nat.le_trans (aoL h) (aEq fun l hl=>?_)
 refine Nat.le_trans (Tr.cnt_le (hK l hl) hr ht hc (h.covers hK (hK l hl))) ?_
 have:=List.countP_le_length (p:=inB c) (l:=K.map (aqu l))
 rw[List.length_map] at this
 omega
theorem axg{K:List LnQ}{t:Tr}(h: ∀l∈t.lns,l∈K):adB K t:=act.2 fun l hl=>⟨l,h l hl, .inl rfl⟩
theorem adB.mono{K M:List LnQ}{t:Tr}(h:adB K t)(k: ∀l∈K,∃m∈M,m.same l):adB M t:=act.2 fun l hl=>by
 obtain⟨m,hm,hs⟩:=act.1 h l hl
 obtain⟨n,hn,hs2⟩:=k m hm
 exact⟨n,hn,hs2.trans hs⟩
theorem adB.restrict{K:List LnQ}{t:Tr}(h:adB K t)(c:aaf):adB K (t.restrict c):=t.restrict_all _ c h
theorem adB.compl{K:List LnQ}{t:Tr}(h:adB K t):adB K t.compl:=t.compl_all _ h
theorem adB.merge{K:List LnQ}{op:Int}{t u:Tr}(h:adB K t)(hu:adB K u)(c:aaf):adB K (t.mergeQ op u c):=Tr.mergeQ_all _ op hu t c h
theorem Tr.merge_size{K:List LnQ}(hK: ∀m∈K,m.ok){op:Int}{a b:Tr}(ha:a.all LnQ.ok)(hb:b.all LnQ.ok)(ka:adB K a)(kb:adB K b):(a.mergeQ op b []).size≤K.length*(1+K.length):=
 Tr.size_le hK (Tr.merge_red op b a []) (Tr.mergeQ_all LnQ.ok op hb a [] ha) aa3.nil (ka.merge kb [])
def Tr.chooseL(op:Int)(b:Bool)(t:Tr)(c:List LnQ):Tr:=
 if op=1∧b=true then .leaf true
 else if(op=2∨op=3)∧b=false then .leaf false
 else if(op=3∨op=4)∧b=true then(t.restrictL c).compl else t.restrictL c
def Tr.mergeL(op:Int):Tr→Tr→List LnQ→Tr
 | .leaf b,u,c=>u.chooseL op b c
 | .node l x y,u,c=>if aec c l=1 then x.mergeL op u c else if aec c l= -1 then y.mergeL op u c else joinQ l (x.mergeL op u (abW (c++[l]))) (y.mergeL op u (abW (c++[l.rev])))
theorem Tr.chooseL_eq{op:Int}(ho:1≤op∧op≤4)(b:Bool)(t:Tr)(c:List LnQ)(d:aaf)(ht:t.all LnQ.ok)(hc: ∀l∈c,l.ok)(hd:aa3 d)(he: ∀p,InD d p↔InL c p):t.chooseL op b c=t.chooseQ op b d:=by
 have h:=t.restrictL_eq c d ht hc hd he
 unfold Tr.chooseL Tr.chooseQ
 rw[h]
 have:op=1∨op=2∨op=3∨op=4:=by omega
 rcases this with rfl|rfl|rfl|rfl<;>cases b<;>simp
theorem Tr.mergeL_eq{op:Int}(ho:1≤op∧op≤4)(u:Tr)(hu:u.all LnQ.ok): ∀(t:Tr) (c:List LnQ) (d:aaf),t.all LnQ.ok→(∀l∈c,l.ok)→aa3 d→(∀p,InD d p↔InL c p)→t.mergeL op u c=t.mergeQ op u d
 | .leaf b,c,d,_,hc,hd,he=>u.chooseL_eq ho b c d hu hc hd he
 | .node l x y,c,d,h,hc,hd,he=>by
  obtain⟨hl,hx,hy⟩:=h
  have i1:=agV (acn hc hl)
  have i2:=agV (acn hc hl.rev)
  obtain⟨p0,hp0⟩:=hd.ne
  rcases lies hd hl with⟨a1,a⟩|⟨a1,a2,a⟩|⟨a1,a2,ag1,ag2,ae1,ae2⟩
  ·have b1:acC (c++[l])=true:=i1.2 ⟨p0,acd.2 ⟨(he p0).1 hp0,a p0 hp0⟩⟩
   have b2:acC (c++[l.rev])=false:=by
    rw[←Bool.not_eq_true,i2]
    rintro ⟨p,hp⟩
    have hp:=acd.1 hp
    have:=a p ((he p).2 hp.1)
    rw[aaM] at hp
    grind
   rw[Tr.mergeQ,a1,if_pos (show(!false)=true from rfl),Tr.mergeL,aec,b1,b2]
   exact Tr.mergeL_eq ho u hu x c d hx hc hd he
  ·have b2:acC (c++[l.rev])=true:=i2.2 ⟨p0,acd.2 ⟨(he p0).1 hp0,by rw[aaM];have:=a p0 hp0;grind⟩⟩
   have b1:acC (c++[l])=false:=by
    rw[←Bool.not_eq_true,i1]
    rintro ⟨p,hp⟩
    have hp:=acd.1 hp
    have:=a p ((he p).2 hp.1)
    grind
   rw[Tr.mergeQ,a1,a2,if_neg (by decide),if_pos (show(!false)=true from rfl),Tr.mergeL,aec,b1,b2]
   exact Tr.mergeL_eq ho u hu y c d hy hc hd he
  ·have n1: ∃p,InL (c++[l]) p:=by
    obtain⟨p,hp⟩:=ag1.ne
    exact⟨p,acd.2 ⟨(he p).1 ((ae1 p).1 hp).1,((ae1 p).1 hp).2⟩⟩
   have n2: ∃p,InL (c++[l.rev]) p:=by
    obtain⟨p,hp⟩:=ag2.ne
    exact⟨p,acd.2 ⟨(he p).1 ((ae2 p).1 hp).1,by rw[aaM];have:=((ae2 p).1 hp).2;grind⟩⟩
   rw[Tr.mergeQ,a1,a2,if_neg (by decide),if_neg (by decide),Tr.mergeL,aec,i1.2 n1,i2.2 n2]
   have k1:=Tr.mergeL_eq ho u hu x (abW (c++[l])) (aaK d l) hx (fun m hm=>acn hc hl m (acy.1 hm).1) ag1 fun p=>by
    rw[agu (acn hc hl) n1,ae1,acd,he]
   have k2:=Tr.mergeL_eq ho u hu y (abW (c++[l.rev])) (aaK d l.rev) hy (fun m hm=>acn hc hl.rev m (acy.1 hm).1) ag2 fun p=>by
    rw[agu (acn hc hl.rev) n2,ae2,acd,he,aaM]
    constructor<;>rintro ⟨a,b⟩<;>exact⟨a,by grind⟩
   rw[k1,k2]
   rfl
theorem aAO(p:PtQ):InD [] p↔InL [] p:=by unfold InD InL;simp
theorem Tr.mergeL_nil{op:Int}(ho:1≤op∧op≤4){t u:Tr}(ht:t.all LnQ.ok)(hu:u.all LnQ.ok):t.mergeL op u []=t.mergeQ op u []:=
 Tr.mergeL_eq ho u hu t [] [] ht (fun l hl=>by cases hl) aa3.nil aAO
theorem as7{op:Int}{a b:Tr}(hd:a.depth+b.depth≤1024)(hs:(a.mergeQ op b []).size≤65536):ar5 op a b=some (a.mergeQ op b []):=by
 unfold ar5
 rw[if_neg (by omega),if_neg (by omega)]
theorem Tr.mergeQ_depth(op:Int)(u:Tr): ∀(t:Tr) (c:aaf),(t.mergeQ op u c).depth≤t.depth+u.depth
 | .leaf b,c=>by
  have:=u.restrict_depth c
  have h2:=(u.restrict c).compl_depth
  show(u.chooseQ op b c).depth≤_
  unfold Tr.chooseQ
  split
  ·split
   ·exact Nat.zero_le _
   ·simp only[Tr.depth];omega
  ·split
   ·exact Nat.zero_le _
   ·split
    ·simp only[Tr.depth];omega
    ·simp only[Tr.depth];omega
 | .node l x y,c=>by
  have hx:=fun c=>Tr.mergeQ_depth op u x c
  have hy:=fun c=>Tr.mergeQ_depth op u y c
  rw[Tr.mergeQ]
  simp only[Tr.depth]
  split
  ·have:=hx c;omega
  ·split
   ·have:=hy c;omega
   ·have h1:=hx (aaK c l)
    have h2:=hy (aaK c l.rev)
    rcases Tr.joinQ_cases l (x.mergeQ op u (aaK c l)) (y.mergeQ op u (aaK c l.rev)) with⟨h,_⟩|⟨h,_⟩<;>rw[h]<;>(try simp only[Tr.depth])<;>omega
structure Gen (L:List LnQ) (a b:Tr):Prop where
 oa:a.all LnQ.ok
 ob:b.all LnQ.ok
 ok: ∀l∈L,l.ok
 la: ∀l∈a.lns,l∈L
 lb: ∀l∈b.lns,l∈L
def amB(x:Rat):List Rat→List Rat
 |[]=>[x]
 |u::t=>if u<x then u::amB x t else if u=x then u::t else x::u::t
def acf(l:List Rat):List Rat:=l.foldl (fun out x=>amB x out) []
def adR:List Rat→List Rat
 |a::b::t=>(a+b)/2::adR (b::t)
 |_=>[]
def aaU:List Rat→List Rat
 |[]=>[0]
 |a::t=>(a-1)::(adR (a::t)++[(a::t).getLast (by simp)+1])
theorem acN{x y:Rat}: ∀{l:List Rat},y∈amB x l↔y=x∨y∈l
 |[]=>by simp[amB]
 |u::t=>by
  rw[amB]
  split
  ·rw[List.mem_cons,acN (l:=t),List.mem_cons];grind
  ·split
   ·rename_i h;subst h;simp
   ·simp
theorem afT{x:Rat}: ∀{l:List Rat},l.Pairwise (· < ·)→(amB x l).Pairwise (· < ·)
 |[],_=>by simp[amB]
 |u::t,h=>by
  rw[List.pairwise_cons] at h
  rw[amB]
  split
  ·rename_i hu
   rw[List.pairwise_cons]
   refine⟨fun y hy=>?_,afT h.2⟩
   rcases acN.1 hy with rfl|hy
   ·exact hu
   ·exact h.1 y hy
  ·rename_i hu
   split
   ·rw[List.pairwise_cons];exact h
   ·rename_i hn
    have hx:x<u:=by grind
    rw[List.pairwise_cons,List.pairwise_cons]
    refine⟨fun y hy=>?_,h⟩
    rcases List.mem_cons.1 hy with rfl|hy
    ·exact hx
    ·have:=h.1 y hy;grind
theorem aEo{l:List Rat}: ∀{o:List Rat},o.Pairwise (· < ·)→(l.foldl (fun out x=>amB x out) o).Pairwise (· < ·)∧ ∀y,y∈l.foldl (fun out x=>amB x out) o↔y∈l∨y∈o:=by
 induction l with
 |nil=>intro o h;exact⟨h,fun y=>by simp⟩
 |cons x t ih=>
  intro o h
  obtain⟨h1,h2⟩:=ih (afT (x:=x) h)
  refine⟨h1,fun y=>?_⟩
  rw[List.foldl_cons,h2,acN,List.mem_cons]
  grind
theorem aex(l:List Rat):(acf l).Pairwise (· < ·):=(aEo (l:=l) List.Pairwise.nil).1
theorem abM{l:List Rat}{y:Rat}:y∈acf l↔y∈l:=by
 have:=(aEo (l:=l) List.Pairwise.nil).2 y
 simpa[acf] using this
theorem aqZ{g:Rat}: ∀{l:List Rat},l.Pairwise (· < ·)→g∈adR l→g∉l∧(∃a∈l,a<g)∧ ∃b∈l,g<b
 |[],_,h=>by cases h
 |[_],_,h=>by cases h
 |a::b::t,h,hg=>by
  rw[List.pairwise_cons] at h
  have hab:=h.1 b List.mem_cons_self
  rw[adR] at hg
  rcases List.mem_cons.1 hg with rfl|hg
  ·refine⟨fun hm=>?_,⟨a,List.mem_cons_self,by grind⟩,b,List.mem_cons_of_mem _ List.mem_cons_self,by grind⟩
   rcases List.mem_cons.1 hm with e|hm
   ·grind
   ·rcases List.mem_cons.1 hm with e|hm
    ·grind
    ·have h2:=h.2
     rw[List.pairwise_cons] at h2
     have:=h2.1 _ hm
     grind
  ·obtain⟨k1,⟨c,hc,k2⟩,d,hd,k3⟩:=aqZ h.2 hg
   refine⟨fun hm=>?_,⟨c,List.mem_cons_of_mem _ hc,k2⟩,d,List.mem_cons_of_mem _ hd,k3⟩
   rcases List.mem_cons.1 hm with e|hm
   ·have:=h.1 c hc;grind
   ·exact k1 hm
theorem ao8: ∀{l:List Rat} (h:l.Pairwise (· < ·)) (hn:l≠[]),∀y∈l,y≤l.getLast hn
 |[a],_,_,y,hy=>by rw[List.mem_singleton] at hy;subst hy;exact Rat.le_refl
 |a::b::t,h,_,y,hy=>by
  rw[List.pairwise_cons] at h
  rw[List.getLast_cons (by simp)]
  have ih:=ao8 h.2 (by simp)
  rcases List.mem_cons.1 hy with rfl|hy
  ·have:=h.1 b List.mem_cons_self
   have:=ih b List.mem_cons_self
   grind
  ·exact ih y hy
theorem aiF{l:List Rat}(h:l.Pairwise (· < ·)){g:Rat}(hg:g∈aaU l):g∉l:=by
 cases l with
 |nil=>simp
 |cons a t=>
  rw[aaU] at hg
  rcases List.mem_cons.1 hg with rfl|hg
  ·intro hm
   rcases List.mem_cons.1 hm with e|hm
   ·grind
   ·rw[List.pairwise_cons] at h;have:=h.1 _ hm;grind
  ·rcases List.mem_append.1 hg with hg|hg
   ·exact(aqZ h hg).1
   ·rw[List.mem_singleton] at hg
    intro hm
    have:=ao8 h (by simp) g hm
    grind
theorem apK{v:Rat}: ∀{l:List Rat},l.Pairwise (· < ·)→v∉l→(∃a∈l,a<v)→(∃b∈l,v<b)→ ∃g∈adR l,∀u∈l,u<v↔u<g
 |[],_,_,⟨a,h,_⟩,_=>by cases h
 |[c],_,_,⟨a,h,h1⟩,⟨b,k,k1⟩=>by
  rw[List.mem_singleton] at h k;subst h;subst k;grind
 |c::d::t,h,hv,h1,h2=>by
  have h0:=h
  rw[List.pairwise_cons] at h
  have hcd:=h.1 d List.mem_cons_self
  have h3:=h.2
  rw[List.pairwise_cons] at h3
  have hvc:c<v:=by
   obtain⟨a,ha,hav⟩:=h1
   rcases List.mem_cons.1 ha with rfl|ha
   ·exact hav
   ·have:=h.1 a ha;grind
  by_cases hd:v<d
  ·refine⟨(c+d)/2,by rw[adR];exact List.mem_cons_self,fun u hu=>?_⟩
   rcases List.mem_cons.1 hu with rfl|hu
   ·constructor<;>intro _<;>grind
   ·rcases List.mem_cons.1 hu with rfl|hu
    ·constructor<;>intro _<;>grind
    ·have:=h3.1 u hu
     constructor<;>intro _<;>grind
  ·have hdv:d<v:=by
    have:v≠d:=fun e=>hv (by rw[e];exact List.mem_cons_of_mem _ List.mem_cons_self)
    grind
   obtain⟨b,hb,hvb⟩:=h2
   have hb':b∈d::t:=by
    rcases List.mem_cons.1 hb with rfl|hb
    ·exfalso;grind
    ·exact hb
   obtain⟨g,hg,hr⟩:=apK h.2 (fun e=>hv (List.mem_cons_of_mem _ e)) ⟨d,List.mem_cons_self,hdv⟩ ⟨b,hb',hvb⟩
   refine⟨g,by rw[adR];exact List.mem_cons_of_mem _ hg,fun u hu=>?_⟩
   rcases List.mem_cons.1 hu with rfl|hu
   ·have:=(hr d List.mem_cons_self).1 hdv
    constructor<;>intro _<;>grind
   ·exact hr u hu
theorem apy{v:Rat}{l:List Rat}(h:l.Pairwise (· < ·))(hv:v∉l): ∃g∈aaU l,∀u∈l,u<v↔u<g:=by
 cases l with
 |nil=>exact⟨0,by simp[aaU],fun u hu=>by cases hu⟩
 |cons a t=>
  by_cases h1: ∃c∈a::t,c<v
  ·by_cases h2: ∃c∈a::t,v<c
   ·obtain⟨g,hg,hr⟩:=apK h hv h1 h2
    exact⟨g,by rw[aaU];exact List.mem_cons_of_mem _ (List.mem_append_left _ hg),hr⟩
   ·refine⟨(a::t).getLast (by simp)+1,by rw[aaU];exact List.mem_cons_of_mem _ (List.mem_append_right _ (List.mem_singleton.2 rfl)),fun u hu=>?_⟩
    have k1:=ao8 h (by simp) u hu
    have k2: ¬v<u:=fun e=>h2 ⟨u,hu,e⟩
    have k3:u≠v:=fun e=>hv (e▸hu)
    constructor<;>intro _<;>grind
  ·refine⟨a-1,by rw[aaU];exact List.mem_cons_self,fun u hu=>?_⟩
   have k1: ¬u<v:=fun e=>h1 ⟨u,hu,e⟩
   have k2: ¬u<a-1:=by
    rcases List.mem_cons.1 hu with rfl|hu
    ·grind
    ·rw[List.pairwise_cons] at h;have:=h.1 u hu;grind
   constructor
   ·intro e;exact absurd e k1
   ·intro e;exact absurd e k2
theorem akb(A B:List Rat)(h: ∀a∈A,∀b∈B,a<b): ∃y,(∀a∈A,a<y)∧ ∀b∈B,y<b:=by
 -- the greatest of A and the least of B
 have hA: ∀(A:List Rat),A≠[]→ ∃m∈A,∀a∈A,a≤m:=by
  intro A
  induction A with
  |nil=>intro h;exact absurd rfl h
  |cons x t ih=>
   intro _
   by_cases ht:t=[]
   ·subst ht;exact⟨x,List.mem_cons_self,fun a ha=>by rw[List.mem_singleton] at ha;subst ha;exact Rat.le_refl⟩
   ·obtain⟨m,hm,hm2⟩:=ih ht
    by_cases hx:m≤x
    ·exact⟨x,List.mem_cons_self,fun a ha=>by rcases List.mem_cons.1 ha with rfl|ha;exact Rat.le_refl;have:=hm2 a ha;grind⟩
    ·exact⟨m,List.mem_cons_of_mem _ hm,fun a ha=>by rcases List.mem_cons.1 ha with rfl|ha;grind;exact hm2 a ha⟩
 have hB: ∀(A:List Rat),A≠[]→ ∃m∈A,∀a∈A,m≤a:=by
  intro A
  induction A with
  |nil=>intro h;exact absurd rfl h
  |cons x t ih=>
   intro _
   by_cases ht:t=[]
   ·subst ht;exact⟨x,List.mem_cons_self,fun a ha=>by rw[List.mem_singleton] at ha;subst ha;exact Rat.le_refl⟩
   ·obtain⟨m,hm,hm2⟩:=ih ht
    by_cases hx:x≤m
    ·exact⟨x,List.mem_cons_self,fun a ha=>by rcases List.mem_cons.1 ha with rfl|ha;exact Rat.le_refl;have:=hm2 a ha;grind⟩
    ·exact⟨m,List.mem_cons_of_mem _ hm,fun a ha=>by rcases List.mem_cons.1 ha with rfl|ha;grind;exact hm2 a ha⟩
 by_cases eA:A=[]
 ·subst eA
  by_cases eB:B=[]
  ·subst eB;exact⟨0,fun a ha=>(by cases ha),fun a ha=>(by cases ha)⟩
  ·obtain⟨m,hm,hm2⟩:=hB B eB
   exact⟨m-1,fun a ha=>(by cases ha),fun b hb=>by have:=hm2 b hb;grind⟩
 ·obtain⟨m,hm,hm2⟩:=hA A eA
  by_cases eB:B=[]
  ·subst eB;exact⟨m+1,fun a ha=>by have:=hm2 a ha;grind,fun a ha=>(by cases ha)⟩
  ·obtain⟨n,hn,hn2⟩:=hB B eB
   have hmn:=h m hm n hn
   exact⟨(m+n)/2,fun a ha=>by have:=hm2 a ha;grind,fun b hb=>by have:=hn2 b hb;grind⟩
def xsQ:List LnQ→List Rat
 |[]=>[]
 |a::t=>(if a.b=0 then [a.base.x] else [])++(t.filterMap (fun b=>if crossI a b=0 then none else some (ace a b).x)++xsQ t)
def yA(a:LnQ)(x:Rat):Rat:= -(((a.a:Rat)*x+(a.c:Rat))/(a.b:Rat))
def ysQ(l:List LnQ)(x:Rat):List Rat:=l.filterMap fun a=>if a.b=0 then none else some (yA a x)
def afc(l:List LnQ):List PtQ:=(aaU (acf (xsQ l))).flatMap fun x=>(aaU (acf (ysQ l x))).map fun y=>⟨x,y⟩
theorem ajt{a:LnQ}: ∀{l:List LnQ},a∈l→a.b=0→a.base.x∈xsQ l
 |[],h,_=>by cases h
 |c::t,h,hb=>by
  rw[xsQ]
  rcases List.mem_cons.1 h with rfl|h
  ·rw[if_pos hb];exact List.mem_append_left _ List.mem_cons_self
  ·exact List.mem_append_right _ (List.mem_append_right _ (ajt h hb))
theorem asv{a b:LnQ}: ∀{l:List LnQ},a∈l→b∈l→crossI a b≠0→(ace a b).x∈xsQ l∨(ace b a).x∈xsQ l
 |[],h,_,_=>by cases h
 |c::t,h,k,hx=>by
  have hx2:crossI b a≠0:=by unfold crossI at*;omega
  rw[xsQ]
  rcases List.mem_cons.1 h with h1|h1
  ·rcases List.mem_cons.1 k with k1|k1
   ·subst h1;subst k1;unfold crossI at hx;omega
   ·subst h1;left
    exact List.mem_append_right _ (List.mem_append_left _ (List.mem_filterMap.2 ⟨b,k1,by rw[if_neg hx]⟩))
  ·rcases List.mem_cons.1 k with k1|k1
   ·subst k1;right
    exact List.mem_append_right _ (List.mem_append_left _ (List.mem_filterMap.2 ⟨a,h1,by rw[if_neg hx2]⟩))
   ·rcases asv h1 k1 hx with h2|h2
    ·exact .inl (List.mem_append_right _ (List.mem_append_right _ h2))
    ·exact .inr (List.mem_append_right _ (List.mem_append_right _ h2))
theorem ata{a b:LnQ}(h:crossI a b≠0){p:PtQ}(h1:a.value p=0)(h2:b.value p=0):p.x=(ace a b).x:=by
 have hd:((crossI a b:Int):Rat)≠0:=fun e=>h (Rat.intCast_eq_zero_iff.1 e)
 unfold ace
 rw[if_neg h]
 show p.x=(meetX a b:Rat)/(crossI a b:Rat)
 have e1:=ac1 a b
 have e2:=ahA a b
 rw[adq] at h1 h2
 have e3:((crossI a b:Int):Rat)*p.x=(meetX a b:Rat):=by rw[e1,e2];grind
 grind
theorem asK{l:List LnQ}{a b:LnQ}(ha:a∈l)(hb:b∈l)(h:crossI a b≠0){p:PtQ}(h1:a.value p=0)(h2:b.value p=0):p.x∈xsQ l:=by
 have h':crossI b a≠0:=by unfold crossI at*;omega
 rcases asv ha hb h with k|k
 ·rw[ata h h1 h2];exact k
 ·rw[ata h' h2 h1];exact k
theorem ali{a:LnQ}(h:a.b≠0)(x y:Rat):a.value ⟨x,y⟩=(a.b:Rat)*(y-yA a x):=by
 have hb:(a.b:Rat)≠0:=fun e=>h (Rat.intCast_eq_zero_iff.1 e)
 unfold yA
 rw[adq]
 show(a.a:Rat)*x+(a.b:Rat)*y+(a.c:Rat)=_
 grind
theorem amm{a:LnQ}(hn:a.Ne)(h:a.b=0)(x y:Rat):a.value ⟨x,y⟩=(a.a:Rat)*(x-a.base.x):=by
 have ha:(a.a:Rat)≠0:=fun e=>hn ⟨Rat.intCast_eq_zero_iff.1 e,h⟩
 obtain⟨q,hq,hb⟩:=anI hn
 rw[hb,adq]
 show(a.a:Rat)*x+(a.b:Rat)*y+(a.c:Rat)=(a.a:Rat)*(x-(a.a:Rat)*q)
 simp only[LnQ.nor,PtQ.dot] at hq
 rw[h] at hq⊢
 have:((0:Int):Rat)=0:=rfl
 rw[this] at hq⊢
 grind
theorem auj{l:List LnQ}{a:LnQ}(h:a∈l)(hb:a.b≠0)(x:Rat):yA a x∈ysQ l x:=List.mem_filterMap.2 ⟨a,h,by rw[if_neg hb]⟩
theorem aDG{l:List LnQ}{x y:Rat}(h:y∈ysQ l x): ∃a∈l,a.b≠0∧y=yA a x:=by
 obtain⟨a,ha,e⟩:=List.mem_filterMap.1 h
 split at e
 ·cases e
 ·rename_i hb;cases e;exact⟨a,ha,hb,rfl⟩
theorem aiQ{l:List LnQ}{p:PtQ}:p∈afc l↔p.x∈aaU (acf (xsQ l))∧p.y∈aaU (acf (ysQ l p.x)):=by
 unfold afc
 rw[List.mem_flatMap]
 constructor
 ·rintro ⟨x,hx,hp⟩
  obtain⟨y,hy,rfl⟩:=List.mem_map.1 hp
  exact⟨hx,hy⟩
 ·rintro ⟨h1,h2⟩
  exact⟨p.x,h1,List.mem_map.2 ⟨p.y,h2,rfl⟩⟩
theorem aod{l:List LnQ}(hok: ∀a∈l,a.Ne){p:PtQ}(hp:p∈afc l):Off l p:=by
 obtain⟨h1,h2⟩:=aiQ.1 hp
 have k1:=aiF (aex _) h1
 have k2:=aiF (aex _) h2
 rw[abM] at k1 k2
 obtain⟨x,y⟩:=p
 intro a ha h0
 by_cases hb:a.b=0
 ·rw[amm (hok a ha) hb] at h0
  have ha0:(a.a:Rat)≠0:=fun e=>hok a ha ⟨Rat.intCast_eq_zero_iff.1 e,hb⟩
  apply k1
  have:x=a.base.x:=by
   rcases Rat.mul_eq_zero.1 h0 with h|h
   ·exact absurd h ha0
   ·grind
  show x∈_
  rw[this];exact ajt ha hb
 ·rw[ali hb] at h0
  have hb0:(a.b:Rat)≠0:=fun e=>hb (Rat.intCast_eq_zero_iff.1 e)
  apply k2
  have:y=yA a x:=by
   rcases Rat.mul_eq_zero.1 h0 with h|h
   ·exact absurd h hb0
   ·grind
  show y∈ysQ l x
  rw[this];exact auj ha hb x
theorem aFx(xs:List Rat)(a e:Rat)(he:0<e): ∃d,0<d∧d≤e∧a+d∉xs:=by
 induction xs generalizing e with
 |nil=>exact⟨e,he,Rat.le_refl,by simp⟩
 |cons x t ih=>
  by_cases hx:a<x
  ·obtain⟨d,h1,h2,h3⟩:=ih (if e≤(x-a)/2 then e else(x-a)/2) (by split<;>grind)
   refine⟨d,h1,by split at h2<;>grind,fun hm=>?_⟩
   rcases List.mem_cons.1 hm with h|h
   ·split at h2<;>grind
   ·exact h3 h
  ·obtain⟨d,h1,h2,h3⟩:=ih e he
   refine⟨d,h1,h2,fun hm=>?_⟩
   rcases List.mem_cons.1 hm with h|h
   ·grind
   ·exact h3 h
def ahS(l:LnQ)(p:PtQ):LnQ:=if 0<l.value p then l else l.rev
theorem ar0{l:LnQ}{p:PtQ}(h:l.value p≠0):0<(ahS l p).value p:=by
 unfold ahS;split
 ·assumption
 ·rw[aaM];grind
theorem arr{l:LnQ}{p q:PtQ}(h:l.value p≠0)(k:0<(ahS l p).value q):0<l.value p↔0<l.value q:=by
 unfold ahS at k;split at k
 ·rename_i h1;exact⟨fun _=>k,fun _=>h1⟩
 ·rename_i h1;rw[aaM] at k;constructor<;>intro _<;>grind
theorem shift{l:List LnQ}{q:PtQ}(ho:Off l q)(xs:List Rat): ∃q':PtQ,(∀a∈l,0<a.value q↔0<a.value q')∧Off l q'∧q'.x∉xs:=by
 have hD:InD (l.map fun a=>⟨ahS a q,IvQ.all⟩) q:=fun s hs=>by
  obtain⟨a,ha,rfl⟩:=List.mem_map.1 hs
  exact ar0 (ho a ha)
 obtain⟨e,he,hm⟩:=hD.open ⟨1,0⟩
 obtain⟨d,h1,h2,h3⟩:=aFx xs q.x e he
 have hd:=hm d (Rat.le_of_lt h1) h2
 have key: ∀a∈l,0<(ahS a q).value (acR q ⟨1,0⟩ d):=fun a ha=>hd ⟨ahS a q,IvQ.all⟩ (List.mem_map.2 ⟨a,ha,rfl⟩)
 refine⟨acR q ⟨1,0⟩ d,fun a ha=>arr (ho a ha) (key a ha),fun a ha h0=>?_,?_⟩
 ·have:=key a ha
  unfold ahS at this
  split at this
  ·grind
  ·rw[aaM] at this;grind
 ·show q.x+d*1∉xs
  rw[show d*1=d by grind];exact h3
theorem asf{l:List LnQ}(hok: ∀a∈l,a.Ne){q:PtQ}(ho:Off l q): ∃p∈afc l,∀a∈l,0<a.value q↔0<a.value p:=by
 obtain⟨⟨qx,qy⟩,hs,ho2,hx⟩:=shift ho (xsQ l)
 obtain⟨x0,hx0,hr⟩:=apy (aex (xsQ l)) (v:=qx) (by rw[abM];exact hx)
 have hx0':=aiF (aex _) hx0
 rw[abM] at hx0'
 have hr': ∀u∈xsQ l,u<qx↔u<x0:=fun u hu=>hr u (abM.2 hu)
 -- the order on the vertical line is the same
 have order: ∀a∈l,∀b∈l,a.b≠0→b.b≠0→yA a qx<yA b qx→yA a x0<yA b x0:=by
  intro a ha b hb hab hbb hlt
  by_cases hc:crossI a b=0
  ·have e1:=ac1 a b
   rw[hc] at e1
   have h0:((0:Int):Rat)=0:=rfl
   rw[h0] at e1
   have na:(a.b:Rat)≠0:=fun e=>hab (Rat.intCast_eq_zero_iff.1 e)
   have nb':(b.b:Rat)≠0:=fun e=>hbb (Rat.intCast_eq_zero_iff.1 e)
   have e2: ∀x,yA b x-yA a x=(a.c:Rat)/a.b-(b.c:Rat)/b.b:=fun x=>by
    unfold yA
    grind
   have:=e2 qx
   have:=e2 x0
   grind
  ·by_cases h:yA a x0<yA b x0
   ·exact h
   ·exfalso
    -- a crossing akb
    generalize hA:yA b qx-yA a qx=A
    generalize hB:yA b x0-yA a x0=B
    have hAB:0<A-B:=by grind
    have e:A/(A-B)*(A-B)=A:=by grind
    generalize hR:A/(A-B)=r at*
    have r0:0<r:=(aal hAB).1 (by rw[e];grind)
    have r1:r≤1:=by
     have:=(aap (s:=1-r) hAB).1 (by grind)
     grind
    have na:(a.b:Rat)≠0:=fun e=>hab (Rat.intCast_eq_zero_iff.1 e)
    have nb':(b.b:Rat)≠0:=fun e=>hbb (Rat.intCast_eq_zero_iff.1 e)
    have lin: ∀c:LnQ,c.b≠0→yA c (qx+r*(x0-qx))=yA c qx+r*(yA c x0-yA c qx):=fun c hc=>by
     have:(c.b:Rat)≠0:=fun e=>hc (Rat.intCast_eq_zero_iff.1 e)
     unfold yA;grind
    have hz:yA a (qx+r*(x0-qx))=yA b (qx+r*(x0-qx)):=by
     rw[lin a hab,lin b hbb];grind
    generalize hzx:qx+r*(x0-qx)=z at*
    have hm:z∈xsQ l:=asK (p:=⟨z,yA a z⟩) ha hb hc (by rw[ali hab];grind) (by rw[ali hbb,hz];grind)
    have hi:=hr' z hm
    have hne:z≠x0:=fun e=>hx0' (e▸hm)
    have hne2:z≠qx:=fun e=>hx (e▸hm)
    rcases abj (x0-qx) with k|k|k
    ·apply hne2;rw[←hzx,k];grind
    ·have p1:=aae r0 k
     have p2:=aah (a:=1-r) (b:=x0-qx) (by grind) (Rat.le_of_lt k)
     have:z<x0:=by grind
     have:=hi.2 this
     grind
    ·have p1:=aae r0 (b:=qx-x0) (by grind)
     have p2:=aah (a:=1-r) (b:=qx-x0) (by grind) (by grind)
     have:z<qx:=by grind
     have:=hi.1 this
     grind
 -- a height akb the lower and the upper lines
 obtain⟨y',hy1,hy2⟩:=akb ((l.filter fun(a:LnQ)=>decide (a.b≠0∧yA a qx<qy)).map fun(a:LnQ)=>yA a x0) ((l.filter fun(a:LnQ)=>decide (a.b≠0∧qy<yA a qx)).map fun(a:LnQ)=>yA a x0) (fun u hu v hv=>by
  obtain⟨a,ha,rfl⟩:=List.mem_map.1 hu
  obtain⟨b,hb,rfl⟩:=List.mem_map.1 hv
  simp only[List.mem_filter,decide_eq_true_eq] at ha hb
  exact order a ha.1 b hb.1 ha.2.1 hb.2.1 (by have:=ha.2.2;have:=hb.2.2;grind))
 have tri: ∀a∈l,a.b≠0→yA a qx<qy∨qy<yA a qx:=fun a ha hb=>by
  have h1:=ho2 a ha
  rw[ali hb] at h1
  have:qy≠yA a qx:=fun e=>h1 (by rw[e];grind)
  grind
 have low: ∀a∈l,a.b≠0→yA a qx<qy→yA a x0<y':=fun a ha hb h=>hy1 _ (List.mem_map.2 ⟨a,by simp only[List.mem_filter,decide_eq_true_eq];exact⟨ha,hb,h⟩,rfl⟩)
 have upp: ∀a∈l,a.b≠0→qy<yA a qx→y'<yA a x0:=fun a ha hb h=>hy2 _ (List.mem_map.2 ⟨a,by simp only[List.mem_filter,decide_eq_true_eq];exact⟨ha,hb,h⟩,rfl⟩)
 have hy':y'∉ysQ l x0:=fun hm=>by
  obtain⟨a,ha,hb,e⟩:=aDG hm
  rcases tri a ha hb with h|h
  ·have:=low a ha hb h;grind
  ·have:=upp a ha hb h;grind
 obtain⟨y0,hy0,hry⟩:=apy (aex (ysQ l x0)) (v:=y') (by rw[abM];exact hy')
 have hy0':=aiF (aex _) hy0
 rw[abM] at hy0'
 refine⟨⟨x0,y0⟩,aiQ.2 ⟨hx0,hy0⟩,fun a ha=>?_⟩
 rw[hs a ha]
 by_cases hb:a.b=0
 ·rw[amm (hok a ha) hb,amm (hok a ha) hb]
  have hi:=hr' _ (ajt ha hb)
  have n1:a.base.x≠qx:=fun e=>hx (e▸ajt ha hb)
  have n2:a.base.x≠x0:=fun e=>hx0' (e▸ajt ha hb)
  have ha0:(a.a:Rat)≠0:=fun e=>hok a ha ⟨Rat.intCast_eq_zero_iff.1 e,hb⟩
  generalize a.base.x=u at*
  generalize (a.a:Rat)=A at*
  by_cases h1:u<qx
  ·have h2:=hi.1 h1
   rw[aal (k:=qx-u) (by grind),aal (k:=x0-u) (by grind)]
  ·have h2: ¬u<x0:=fun e=>h1 (hi.2 e)
   have e1:A*(qx-u)=(-A)*(u-qx):=by grind
   have e2:A*(x0-u)=(-A)*(u-x0):=by grind
   rw[e1,e2,aal (k:=u-qx) (by grind),aal (k:=u-x0) (by grind)]
 ·rw[ali hb,ali hb]
  have hi:=hry (yA a x0) (abM.2 (auj ha hb x0))
  have n2:yA a x0≠y0:=fun e=>hy0' (e▸auj ha hb x0)
  have lo:=low a ha hb
  have up:=upp a ha hb
  have tri:=tri a ha hb
  generalize yA a x0=v at*
  generalize yA a qx=u at*
  generalize (a.b:Rat)=B at*
  rcases tri with h|h
  ·have h3:=hi.1 (lo h)
   rw[aal (k:=qy-u) (by grind),aal (k:=y0-v) (by grind)]
  ·have h3:=up h
   have h4: ¬v<y0:=fun e=>by have:=hi.2 e;grind
   have e1:B*(qy-u)=(-B)*(u-qy):=by grind
   have e2:B*(y0-v)=(-B)*(v-y0):=by grind
   rw[e1,e2,aal (k:=u-qy) (by grind),aal (k:=v-y0) (by grind)]
def arW(out:List Rat)(s:IvQ):List Rat:=if s.nh then(if s.nl then out else amB s.lo out) else amB s.hi (if s.nl then out else amB s.lo out)
def aeP(l:List IvQ):List Rat:=l.foldl arW []
def ayD:List IvQ→Rat→Int
 |[],_=>0
 |s::t,x=>
  let a:=if s.nl then 1 else aa1 x s.lo
  let b:=if s.nh then-1 else aa1 x s.hi
  if 0<a∧b<0 then 2 else if(a=0∧b≤0)∨(b=0∧0≤a) then 1 else ayD t x
def acQ(l:List IvQ)(x:Rat):Bool:=decide (ayD l x=2)
def afy(cuts:List Rat)(i:Nat):IvQ:=⟨if i=0 then 0 else cuts.getD (i-1) 0,if i<cuts.length then cuts.getD i 0 else 0,decide (i=0),decide (i=cuts.length)⟩
def am0(v w:IvQ):IvQ:=⟨v.lo,w.hi,v.nl,w.nh⟩
def adf(cuts:List Rat)(marks:List Bool):Nat→List IvQ
 |0=>[]
 |k+1=>
  let out:=adf cuts marks k
  if marks.getD k false then
   (if 0<k∧marks.getD (k-1) false=true then(match out.getLast? with
    |some v=>out.dropLast++[am0 v (afy cuts k)]
    |none=>out++[afy cuts k]) else out++[afy cuts k])
  else out
def aoF(cuts:List Rat)(marks:List Bool):List IvQ:=adf cuts marks marks.length
def ahw(op:Int)(x y:Bool):Bool:=if op=2 then x&&y else if op=3 then x&&!y else if op=4 then x !=y else x||y
def ajq(op:Int)(a b:List IvQ):List IvQ:=aoF (aeP (a++b)) ((aaU (aeP (a++b))).map fun t=>ahw op (acQ a t) (acQ b t))
def aek(l m:LnQ)(side:Int):List IvQ:=
 if crossI l m=0 then(if(m.value l.base).num.sign=side then [IvQ.all] else [])
 else if(m.value (l.at (acg l (ace l m)+1))).num.sign=side then [⟨acg l (ace l m),0,false,true⟩] else [⟨0,acg l (ace l m),true,false⟩]
def onB(l m:LnQ):Bool:=decide (crossI l m=0∧(m.value l.base).num.sign=0)
def aa6(f:FrQ)(m:LnQ)(side:Int):List FrQ:=if onB f.l m then [] else(ajq 2 [f.v] (aek f.l m side)).map fun v=>⟨f.l,v⟩
theorem alf(l:List IvQ):(aeP l).Pairwise (· < ·)∧ ∀y∈aeP l,∃s∈l,(s.nl=false∧y=s.lo)∨(s.nh=false∧y=s.hi):=by
 have key: ∀(l:List IvQ) (o:List Rat),o.Pairwise (· < ·)→(l.foldl arW o).Pairwise (· < ·)∧ ∀y∈l.foldl arW o,y∈o∨ ∃s∈l,(s.nl=false∧y=s.lo)∨(s.nh=false∧y=s.hi):=by
  intro l
  induction l with
  |nil=>intro o h;exact⟨h,fun y hy=> .inl hy⟩
  |cons s t ih=>
   intro o h
   have h1:(arW o s).Pairwise (· < ·)∧ ∀y∈arW o s,y∈o∨(s.nl=false∧y=s.lo)∨(s.nh=false∧y=s.hi):=by
    unfold arW
    cases e1:s.nl<;>cases e2:s.nh<;>simp only[if_true,Bool.false_eq_true,if_false]
    ·refine⟨afT (afT h),fun y hy=>?_⟩
     rcases acN.1 hy with h|h
     ·exact .inr (.inr ⟨trivial,h⟩)
     ·rcases acN.1 h with h|h
      ·exact .inr (.inl ⟨trivial,h⟩)
      ·exact .inl h
    ·refine⟨afT h,fun y hy=>?_⟩
     rcases acN.1 hy with h|h
     ·exact .inr (.inl ⟨trivial,h⟩)
     ·exact .inl h
    ·refine⟨afT h,fun y hy=>?_⟩
     rcases acN.1 hy with h|h
     ·exact .inr (.inr ⟨trivial,h⟩)
     ·exact .inl h
    ·exact⟨h,fun y hy=> .inl hy⟩
   obtain⟨k1,k2⟩:=ih (arW o s) h1.1
   refine⟨k1,fun y hy=>?_⟩
   rcases k2 y hy with h2|⟨q,hq,h2⟩
   ·rcases h1.2 y h2 with h3|h3
    ·exact .inl h3
    ·exact .inr ⟨s,List.mem_cons_self,h3⟩
   ·exact .inr ⟨q,List.mem_cons_of_mem _ hq,h2⟩
 have:=key l [] List.Pairwise.nil
 refine⟨this.1,fun y hy=>?_⟩
 rcases this.2 y hy with h|h
 ·cases h
 ·exact h
structure aFT (cuts:List Rat) (v:IvQ):Prop where
 z:IvZ v
 lo:v.nl=true∨v.lo∈cuts
 hi:v.nh=true∨v.hi∈cuts
theorem aBI{cuts:List Rat}{i:Nat}(h:i≤cuts.length):aFT cuts (afy cuts i):=by
 unfold afy
 refine⟨⟨fun e=>?_,fun e=>?_⟩,?_,?_⟩
 ·simp only[decide_eq_true_eq] at e;simp[e]
 ·simp only[decide_eq_true_eq] at e;simp[e]
 ·by_cases h0:i=0
  ·left;simp[h0]
  ·right
   simp only[if_neg h0]
   rw[List.getD_eq_getElem?_getD,List.getElem?_eq_getElem (by omega)]
   exact List.getElem_mem _
 ·by_cases h0:i=cuts.length
  ·left;simp[h0]
  ·right
   simp only[if_pos (show i<cuts.length by omega)]
   rw[List.getD_eq_getElem?_getD,List.getElem?_eq_getElem (by omega)]
   exact List.getElem_mem _
theorem aq7{cuts:List Rat}{marks:List Bool}: ∀{k:Nat},k≤cuts.length+1→ ∀v∈adf cuts marks k,aFT cuts v
 |0,_,v,hv=>by cases hv
 |k+1,hk,v,hv=>by
  have ih:=aq7 (cuts:=cuts) (marks:=marks) (k:=k) (by omega)
  have hg:=aBI (cuts:=cuts) (i:=k) (by omega)
  rw[adf] at hv
  split at hv
  ·split at hv
   ·split at hv
    ·rename_i w hw
     rcases List.mem_append.1 hv with h|h
     ·exact ih v ((List.dropLast_sublist _).subset h)
     ·rw[List.mem_singleton] at h;subst h
      have hw':=ih w (List.mem_of_getLast? hw)
      exact⟨⟨hw'.z.1,hg.z.2⟩,hw'.lo,hg.hi⟩
    ·rcases List.mem_append.1 hv with h|h
     ·exact ih v h
     ·rw[List.mem_singleton] at h;subst h;exact hg
   ·rcases List.mem_append.1 hv with h|h
    ·exact ih v h
    ·rw[List.mem_singleton] at h;subst h;exact hg
  ·exact ih v hv
theorem aez{l:List Rat}:(aaU l).length=l.length+1:=by
 have key: ∀(l:List Rat) (a:Rat),(adR (a::l)).length=l.length:=by
  intro l
  induction l with
  |nil=>intro a;rfl
  |cons b t ih=>intro a;rw[adR,List.length_cons,ih b,List.length_cons]
 cases l with
 |nil=>rfl
 |cons a t=>rw[aaU,List.length_cons,List.length_append,key];simp
theorem awt{op:Int}{a b:List IvQ}: ∀v∈ajq op a b,aFT (aeP (a++b)) v:=fun v hv=>by
 unfold ajq aoF at hv
 refine aq7 ?_ v hv
 rw[List.length_map,aez];omega
theorem aiT{cuts:List Rat}{marks:List Bool}: ∀{k:Nat},(adf cuts marks k).length≤k
 |0=>Nat.le_refl _
 |k+1=>by
  have ih:=aiT (cuts:=cuts) (marks:=marks) (k:=k)
  rw[adf]
  split
  ·split
   ·split
    ·rename_i w hw
     have:=List.length_pos_of_mem (List.mem_of_getLast? hw)
     rw[List.length_append,List.length_dropLast];simp;omega
    ·rw[List.length_append];simp;omega
   ·rw[List.length_append];simp;omega
  ·omega
structure FOk (f:FrQ):Prop where
 lb:LB f.l
 ok:f.l.ok
 z:IvZ f.v
 lo:BQ f.v.lo 1200
 hi:BQ f.v.hi 1200
theorem BQ.zero1200:BQ (0:Rat) 1200:=BQ.mono (k:=1) ⟨by decide,by decide⟩ (by decide)
theorem aoO{l m:LnQ}(hl:LB l)(hm:LB m)(hlo:l.ok){side:Int}: ∀v∈aek l m side,IvZ v∧BQ v.lo 1200∧BQ v.hi 1200:=fun v hv=>by
 unfold aek at hv
 split at hv
 ·split at hv
  ·rw[List.mem_singleton] at hv;subst hv;exact⟨IvZ.all,BQ.zero1200,BQ.zero1200⟩
  ·cases hv
 ·rename_i hc
  have:=aix hlo.ne hc
  split at hv
  ·rw[List.mem_singleton] at hv;subst hv;exact⟨⟨fun h=>(by cases h),fun _=>rfl⟩,this,BQ.zero1200⟩
  ·rw[List.mem_singleton] at hv;subst hv;exact⟨⟨fun _=>rfl,fun h=>(by cases h)⟩,BQ.zero1200,this⟩
theorem alE{f:FrQ}{m:LnQ}(h:FOk f)(hm:LB m){side:Int}: ∀g∈aa6 f m side,FOk g∧g.l=f.l∧onB f.l m=false:=fun g hg=>by
 unfold aa6 at hg
 split at hg
 ·cases hg
 ·rename_i ho
  obtain⟨v,hv,rfl⟩:=List.mem_map.1 hg
  have hi:=awt v hv
  have bd: ∀y∈aeP ([f.v]++aek f.l m side),BQ y 1200:=fun y hy=>by
   obtain⟨s,hs,h1⟩:=(alf _).2 y hy
   rcases List.mem_append.1 hs with hs|hs
   ·rw[List.mem_singleton] at hs;subst hs
    rcases h1 with⟨_,rfl⟩|⟨_,rfl⟩
    ·exact h.lo
    ·exact h.hi
   ·have:=aoO h.lb hm h.ok s hs
    rcases h1 with⟨_,rfl⟩|⟨_,rfl⟩
    ·exact this.2.1
    ·exact this.2.2
  refine⟨⟨h.lb,h.ok,hi.z,?_,?_⟩,rfl,by simpa using ho⟩
  ·rcases hi.lo with e|e
   ·rw[hi.z.1 e];exact BQ.zero1200
   ·exact bd _ e
  ·rcases hi.hi with e|e
   ·rw[hi.z.2 e];exact BQ.zero1200
   ·exact bd _ e
def amC(acc:PtQ→Bool):Nat→List FrQ→List LnQ→Tr
 |_,[],c=> .leaf (acc (acI c c))
 |0,_::_,_=> .leaf false
 |n+1,f::t,c=> .node f.l (amC acc n ((f::t).flatMap fun g=>aa6 g f.l 1) (c++[f.l])) (amC acc n ((f::t).flatMap fun g=>aa6 g f.l (-1)) (c++[f.l.rev]))
theorem awB{f g:FrQ}{m:LnQ}{side:Int}(h:g∈aa6 f m side):g.l=f.l:=by
 unfold aa6 at h
 split at h
 ·cases h
 ·obtain⟨v,_,rfl⟩:=List.mem_map.1 h;rfl
theorem ag7{acc:PtQ→Bool}{P:LnQ→Prop}: ∀{n:Nat} {l:List FrQ} {c:List LnQ},(∀f∈l,P f.l)→(amC acc n l c).all P
 |n,[],c,_=>by unfold amC;trivial
 |0,_::_,_,_=>by unfold amC;trivial
 |n+1,f::t,c,h=>by
  rw[amC]
  refine⟨h f List.mem_cons_self,ag7 fun g hg=>?_,ag7 fun g hg=>?_⟩<;>
  ·obtain⟨q,hq,hg⟩:=List.mem_flatMap.1 hg
   rw[awB hg];exact h q hq
theorem ahs{acc:PtQ→Bool}: ∀{n:Nat} {l:List FrQ} {c:List LnQ},(amC acc n l c).depth≤n
 |n,[],c=>by unfold amC;exact Nat.zero_le _
 |0,_::_,_=>by unfold amC;exact Nat.zero_le _
 |n+1,f::t,c=>by
  rw[amC,Tr.depth]
  have h1:=ahs (acc:=acc) (n:=n) (l:=(f::t).flatMap fun g=>aa6 g f.l 1) (c:=c++[f.l])
  have h2:=ahs (acc:=acc) (n:=n) (l:=(f::t).flatMap fun g=>aa6 g f.l (-1)) (c:=c++[f.l.rev])
  omega
def Few(n:Nat)(l:List FrQ):Prop:= ∃K:List LnQ,K.length≤n∧ ∀f∈l,∃m∈K,m.same f.l
theorem ank{m:LnQ}(hm:m.Ne):m.value m.base=0:=by
 have h:=ahI hm 0
 rw[←auV,abS] at h
 grind
theorem ax2{l m:LnQ}(h:l.same m)(hm:m.Ne):onB m l=true:=by
 unfold onB
 rw[decide_eq_true_iff]
 refine⟨?_,?_⟩
 ·rcases h with rfl|rfl
  ·unfold crossI;omega
  ·unfold crossI LnQ.rev
   show(-l.a)*l.b-l.a*(-l.b)=0
   grind
 ·rw[abh]
  exact aiI h.symm (ank hm)
theorem Few.split{n:Nat}{f:FrQ}{t:List FrQ}(h:Few (n+1) (f::t))(hok: ∀g∈f::t,FOk g){side:Int}:Few n ((f::t).flatMap fun g=>aa6 g f.l side):=by
 obtain⟨K,hK,hs⟩:=h
 refine⟨K.filter fun m=>!decide (m.same f.l),?_,fun g hg=>?_⟩
 ·obtain⟨m,hm,hm2⟩:=hs f List.mem_cons_self
  have:(K.filter fun m=>!decide (m.same f.l)).length<K.length:=by
   refine List.length_filter_lt_length_iff_exists.2 ⟨m,hm,by simp[hm2]⟩
  omega
 ·obtain⟨q,hq,hg⟩:=List.mem_flatMap.1 hg
  obtain⟨_,e,ho⟩:=alE (hok q hq) (hok f List.mem_cons_self).lb g hg
  obtain⟨m,hm,hm2⟩:=hs q hq
  refine⟨m,List.mem_filter.2 ⟨hm,?_⟩,by rw[e];exact hm2⟩
  simp only[Bool.not_eq_true',decide_eq_false_iff_not]
  intro h
  have:=ax2 (h.symm.trans hm2) (hok q hq).ok.ne
  rw[this] at ho;cases ho
theorem aCA{p q r:Bool}{a b c:Nat}(h:Nat.gcd a b≠0):LnQ.ok ⟨zv p (a/Nat.gcd (Nat.gcd a b) c),zv q (b/Nat.gcd (Nat.gcd a b) c),zv r (c/Nat.gcd (Nat.gcd a b) c)⟩:=by
 have hg:0<Nat.gcd (Nat.gcd a b) c:=Nat.gcd_pos_of_pos_left _ (Nat.pos_of_ne_zero h)
 have d0:Nat.gcd (Nat.gcd a b) c∣Nat.gcd a b:=Nat.gcd_dvd_left _ _
 have d1:Nat.gcd (Nat.gcd a b) c∣a:=Nat.dvd_trans d0 (Nat.gcd_dvd_left _ _)
 have d2:Nat.gcd (Nat.gcd a b) c∣b:=Nat.dvd_trans d0 (Nat.gcd_dvd_right _ _)
 have d3:Nat.gcd (Nat.gcd a b) c∣c:=Nat.gcd_dvd_right _ _
 refine⟨?_,?_⟩
 ·rintro ⟨h1,h2⟩
  have h1':=congrArg Int.natAbs h1
  have h2':=congrArg Int.natAbs h2
  simp only[aeD,Int.natAbs_zero] at h1' h2'
  have e1:=Nat.div_mul_cancel d1
  have e2:=Nat.div_mul_cancel d2
  rw[h1',Nat.zero_mul] at e1
  rw[h2',Nat.zero_mul] at e2
  exact h (by rw[←e1,←e2];rfl)
 ·simp only[aeD]
  rw[Nat.gcd_div d1 d2,Nat.gcd_div d0 d3,Nat.div_self hg]
theorem auQ(p:Bool)(a g:Nat):(zv p (a/g)).natAbs≤a:=by rw[aeD];exact Nat.div_le_self ..
theorem PF.eq{P:Program}{f:FuncId}{vs:List DV}{r r':DV}(h:PF GB P f vs r)(e:r=r'):PF GB P f vs r':=e▸h
def iP(m n:Int):PtQ:=⟨(m:Rat),(n:Rat)⟩
theorem aF1{m:Int}{k:Nat}(h:m.natAbs<2^k):BI m k:=⟨h⟩
theorem biC{m:Int}{k:Nat}(h:m.natAbs≤1000)(hk:10≤k):BI m k:=⟨Nat.lt_of_lt_of_le (show m.natAbs<2^10 by omega) (Nat.pow_le_pow_right (by decide) hk)⟩
instance BPt.int (m n:Int) (i:Nat) [h:BI m i] [k:BI n i]:BPt (iP m n) (i+1):=⟨inferInstanceAs (BQ (m:Rat) (i+1)),inferInstanceAs (BQ (n:Rat) (i+1))⟩
theorem eQI{q:Rat}{k:Int}(h:q=(k:Rat)):eQ q=eQ (k:Rat):=by rw[h]
theorem ePI{p:PtQ}{m n:Int}(h1:p.x=(m:Rat))(h2:p.y=(n:Rat)):eP p=eP (iP m n):=by
 obtain⟨x,y⟩:=p
 simp only at h1 h2
 subst h1 h2
 rfl
def mkL(a b c:Int):LnQ:=
 ⟨zv (decide (a<0)) (a.natAbs/Nat.gcd (Nat.gcd a.natAbs b.natAbs) c.natAbs),zv (decide (b<0)) (b.natAbs/Nat.gcd (Nat.gcd a.natAbs b.natAbs) c.natAbs),zv (decide (c<0)) (c.natAbs/Nat.gcd (Nat.gcd a.natAbs b.natAbs) c.natAbs)⟩
theorem ayx{a b c:Int}(h: ¬(a=0∧b=0)):(mkL a b c).ok:=
 aCA fun e=>h ⟨Int.natAbs_eq_zero.1 (Nat.eq_zero_of_gcd_eq_zero_left e),Int.natAbs_eq_zero.1 (Nat.eq_zero_of_gcd_eq_zero_right e)⟩
theorem ayW(a b c:Int):(mkL a b c).a.natAbs≤a.natAbs∧(mkL a b c).b.natAbs≤b.natAbs∧(mkL a b c).c.natAbs≤c.natAbs:=⟨auQ ..,auQ ..,auQ ..⟩
theorem arB{m n:Int}(hm:m.natAbs≤1000)(hn:n.natAbs≤1000):PF GB Tryz.prog 78 [.v (.int .i64 m), .v (.int .i64 n)] (eP (iP m n)):=by
 refine fn Tryz.func78 J J Tryz.ntmps78 J J (fun C=>?_)
 refine cl rfl (akj (n:=m) (by omega) (by omega)) rfl<|cl rfl (akj (n:=n) (by omega) (by omega)) rfl<|?_
 exact rz J J
theorem aqN{m n m' n' k:Int}(hm:m.natAbs≤1000)(hn:n.natAbs≤1000)(hm':m'.natAbs≤1000)(hn':n'.natAbs≤1000)(hk:k.natAbs≤1000):PF GB Tryz.prog 100 [eP (iP m n),eQ (k:Rat),eP (iP m' n')] (eP (iP (m+k*m') (n+k*n'))):=by
 haveI:=biC (k:=10) hm (by decide)
 haveI:=biC (k:=10) hn (by decide)
 haveI:=biC (k:=10) hm' (by decide)
 haveI:=biC (k:=10) hn' (by decide)
 haveI:=biC (k:=10) hk (by decide)
 exact PF.eq (aj9 (p:=iP m n) (q:=iP m' n') (c:=(k:Rat))) (ePI (by show(m:Rat)+(k:Rat)*(m':Rat)=_;push_cast;rfl) (by show(n:Rat)+(k:Rat)*(n':Rat)=_;push_cast;rfl))
theorem aDd{m n m' n':Int}(hm:m.natAbs≤1000)(hn:n.natAbs≤1000)(hm':m'.natAbs≤1000)(hn':n'.natAbs≤1000):PF GB Tryz.prog 155 [eP (iP m n),eP (iP m' n')] (eP (iP (m-m') (n-n'))):=by
 refine fn Tryz.func155 J J Tryz.ntmps155 J J (fun C=>?_)
 refine cl rfl (akj (n:= -1) (by decide) (by decide)) rfl<|cl rfl (aqN (m:=m) (n:=n) (m':=m') (n':=n') (k:= -1) hm hn hm' hn' (by decide)) rfl<|?_
 exact rz rfl (by rw[show m-m'=m+ -1*m' by omega,show n-n'=n+ -1*n' by omega];rfl)
theorem alB{m n m' n':Int}(hm:m.natAbs≤1000)(hn:n.natAbs≤1000)(hm':m'.natAbs≤1000)(hn':n'.natAbs≤1000):PF GB Tryz.prog 175 [eP (iP m n),eP (iP m' n')] (.v (.bool (decide (m=m'∧n=n')))):=by
 haveI:=biC (k:=10) hm (by decide)
 haveI:=biC (k:=10) hn (by decide)
 haveI:=biC (k:=10) hm' (by decide)
 haveI:=biC (k:=10) hn' (by decide)
 refine fn Tryz.func175 J J Tryz.ntmps175 J J (fun C=>?_)
 refine cl rfl (q_C (a:=(m:Rat)) (b:=(m':Rat))) rfl<|?_
 refine cs 11 J J J (fun hg11=>?_) (fun hg11=>?_)
 ·
  refine cl rfl (q_C (a:=(n:Rat)) (b:=(n':Rat))) rfl<|?_
  exact rz rfl (by rw[ae8] at hg11;have e:m=m':=(by exact_mod_cast hg11);exact congrArg (fun z=>DV.v (.bool z)) (decide_eq_decide.2 (by rw[ae8,Rat.intCast_inj];simp[e])))
 ·
  exact rz rfl (by rw[ae8] at hg11;have e: ¬m=m':=(fun e=>hg11 (by rw[e]));show DV.v (.bool false)=DV.v (.bool _);rw[decide_eq_false (fun h=>e h.1)])
theorem avD{a b k:Nat}(ha:a<k)(hb:b<k):Nat.gcd a b<k:=by
 rcases Nat.eq_zero_or_pos a with rfl|p
 ·simpa using hb
 ·exact Nat.lt_of_le_of_lt (Nat.gcd_le_left b p) ha
theorem aBf{a b c:Int}{i:Nat}(ha:BI a i)(hb:BI b i)(hc:BI c i)(hi:i≤100000000)(h0: ¬(a=0∧b=0)):PF GB Tryz.prog 158 [eI a,eI b,eI c] (.tp [eL (mkL a b c), .v (.bool true)]):=by
 have hgn:Nat.gcd a.natAbs b.natAbs≠0:=fun h=>h0 ⟨Int.natAbs_eq_zero.1 (Nat.eq_zero_of_gcd_eq_zero_left h),Int.natAbs_eq_zero.1 (Nat.eq_zero_of_gcd_eq_zero_right h)⟩
 have hgp:0<Nat.gcd (Nat.gcd a.natAbs b.natAbs) c.natAbs:=Nat.gcd_pos_of_pos_left _ (Nat.pos_of_ne_zero hgn)
 haveI hb1:BN (Nat.gcd a.natAbs b.natAbs) i:=⟨avD ha.h hb.h⟩
 haveI hb2:BN (Nat.gcd (Nat.gcd a.natAbs b.natAbs) c.natAbs) i:=⟨avD hb1.h hc.h⟩
 refine fn Tryz.func158 J J Tryz.ntmps158 J J (fun C=>?_)
 refine cl rfl (ain (a:=a.natAbs) (b:=b.natAbs) (by omega) (by omega)) rfl<|?_
 refine br J J J (fun hc22=>?_) (fun hc22=>?_)
 ·
  exact absurd hc22 (by rw[List.length_map];intro h;exact hgn (ab2.1 (by omega)))
 ·
  refine cl rfl (ain (a:=Nat.gcd a.natAbs b.natAbs) (b:=c.natAbs) (by omega) (by omega)) rfl<|cl rfl (ad9 (a:=a.natAbs) (b:=Nat.gcd (Nat.gcd a.natAbs b.natAbs) c.natAbs) hgp (by omega) (by omega)) rfl<|?_
  refine cl rfl (ad9 (a:=b.natAbs) (b:=Nat.gcd (Nat.gcd a.natAbs b.natAbs) c.natAbs) hgp (by omega) (by omega)) rfl<|cl rfl (ad9 (a:=c.natAbs) (b:=Nat.gcd (Nat.gcd a.natAbs b.natAbs) c.natAbs) hgp (by omega) (by omega)) rfl<|?_
  refine cl rfl (acb (m:=a.natAbs/(Nat.gcd (Nat.gcd a.natAbs b.natAbs) c.natAbs)) (neg:=decide (a<0))) rfl<|cl rfl (acb (m:=b.natAbs/(Nat.gcd (Nat.gcd a.natAbs b.natAbs) c.natAbs)) (neg:=decide (b<0))) rfl<|?_
  refine cl rfl (acb (m:=c.natAbs/(Nat.gcd (Nat.gcd a.natAbs b.natAbs) c.natAbs)) (neg:=decide (c<0))) rfl<|?_
  exact rz J J
def avL(n n':Int):Int:= -(n'-n)
def avI(m m':Int):Int:=m'-m
def azu(m n m' n':Int):Int:= -(avL n n'*m+avI m m'*n)
def arE(m n m' n':Int):LnQ:=mkL (avL n n') (avI m m') (azu m n m' n')
theorem afJ{a b:Int}(ha:a.natAbs≤2000)(hb:b.natAbs≤1000):(a*b).natAbs≤2000000:=by
 rw[Int.natAbs_mul];exact Nat.mul_le_mul ha hb
theorem an9{m n m' n':Int}(hm:m.natAbs≤1000)(hn:n.natAbs≤1000)(hm':m'.natAbs≤1000)(hn':n'.natAbs≤1000)(h0: ¬(m=m'∧n=n')):PF GB Tryz.prog 77 [eP (iP m n),eP (iP m' n')] (.tp [eL (arE m n m' n'), .v (.bool true)]):=by
 obtain⟨a,hA⟩: ∃a,a=avL n n':=⟨_,rfl⟩
 obtain⟨b,hB⟩: ∃b,b=avI m m':=⟨_,rfl⟩
 have hA':a= -(n'-n):=hA
 have hB':b=m'-m:=hB
 obtain⟨c,hC⟩: ∃c,c= -(a*m+b*n):=⟨_,rfl⟩
 have e1:=afJ (a:=a) (b:=m) (by omega) hm
 have e2:=afJ (a:=b) (b:=n) (by omega) hn
 haveI hm0:=biC (k:=10) hm (by decide)
 haveI hn0:=biC (k:=10) hn (by decide)
 haveI ha:BI a 30:=aF1 (by omega)
 haveI hb:BI b 30:=aF1 (by omega)
 haveI hc:BI c 30:=aF1 (by omega)
 have hthr:arE m n m' n'=mkL a b c:=by rw[hC,hA,hB];rfl
 have hne: ¬(a=0∧b=0):=fun h=>h0 (by omega)
 refine fn Tryz.func77 J J Tryz.ntmps77 J J (fun C=>?_)
 refine cl rfl (aDd (m:=m') (n:=n') (m':=m) (n':=n) hm' hn' hm hn) rfl<|cl rfl (PF.eq (aic (q:=(((n'-n):Int):Rat))) (eQI (k:=a) (by rw[hA'];push_cast;rfl))) rfl<|?_
 refine cl rfl (PF.eq (abi (a:=(a:Rat)) (b:=(m:Rat))) (eQI (k:=a*m) (by push_cast;rfl))) rfl<|cl rfl (PF.eq (by haveI:BI (m'-m) 30:=(by rw[←hB'];exact hb);exact abi (a:=(((m'-m):Int):Rat)) (b:=(n:Rat))) (eQI (k:=b*n) (by rw[hB'];push_cast;rfl))) rfl<|?_
 refine cl rfl (PF.eq (aeh (a:=((a*m:Int):Rat)) (b:=((b*n:Int):Rat))) (eQI (k:=a*m+b*n) (by push_cast;rfl))) rfl<|cl rfl (PF.eq (aic (q:=((a*m+b*n:Int):Rat))) (eQI (k:=c) (by rw[hC];push_cast;rfl))) rfl<|?_
 refine cl rfl (aeA (q:=(a:Rat))) rfl<|cl rfl (aeA (q:=(((m'-m):Int):Rat))) rfl<|cl rfl (PF.eq (ack (a:=1) (b:=1)) rfl) rfl<|?_
 refine cl rfl (aeA (q:=(c:Rat))) rfl<|cl rfl (PF.eq (ack (a:=1) (b:=1)) rfl) rfl<|cl (fu:=⟨1⟩) rfl (acb (neg:=false) (m:=1)) rfl<|?_
 refine eqF 40 (.d (eQ ((1:Int):Rat))) J J ?_
 refine gx rfl<|cl rfl (PF.eq (abi (a:=(a:Rat)) (b:=((1:Int):Rat))) (eQI (k:=a) (by push_cast;grind))) rfl<|cl rfl (PF.eq (by haveI:BI (m'-m) 30:=(by rw[←hB'];exact hb);exact abi (a:=(((m'-m):Int):Rat)) (b:=((1:Int):Rat))) (eQI (k:=b) (by rw[hB'];push_cast;grind))) rfl<|?_
 refine cl rfl (PF.eq (abi (a:=(c:Rat)) (b:=((1:Int):Rat))) (eQI (k:=c) (by push_cast;grind))) rfl<|cl rfl (aBf (a:=a) (b:=b) (c:=c) ha hb hc (by decide) hne) rfl<|?_
 exact rz rfl (by rw[hthr];rfl)
theorem axk{es:List Int}{a:Nat}(h:a<es.length):(es.map vI)[(a:Int).toNat]? =some (vI es[a]):=by simp[h]
theorem awT:eP (iP 0 0)= .ag [.v (.bool false), .sl [], .sl [], .v (.bool false), .sl [], .sl []]:=by
 unfold eP iP
 simp[adv,dD]
theorem aDg{m n p q:Int}(hm:m.natAbs≤4)(hn:n.natAbs≤4)(hp:p.natAbs≤4)(hq:q.natAbs≤4)(h: ¬(p=0∧q=0)):LS (arE m n (m+1*p) (n+1*q)):=by
 have e1:avL n (n+1*q)= -q:=by unfold avL;omega
 have e2:avI m (m+1*p)=p:=by unfold avI;omega
 have e3:((-q)*m).natAbs≤4*4:=by rw[Int.natAbs_mul];exact Nat.mul_le_mul (by omega) hm
 have e4:(p*n).natAbs≤4*4:=by rw[Int.natAbs_mul];exact Nat.mul_le_mul hp hn
 have e5:azu m n (m+1*p) (n+1*q)= -((-q)*m+p*n):=by unfold azu;rw[e1,e2]
 unfold arE
 obtain⟨k1,k2,k3⟩:=ayW (avL n (n+1*q)) (avI m (m+1*p)) (azu m n (m+1*p) (n+1*q))
 exact⟨ayx (by rw[e1,e2];omega),Nat.le_trans k1 (by rw[e1];omega),Nat.le_trans k2 (by rw[e2];omega),Nat.le_trans k3 (by rw[e5];omega)⟩
def aag(es:List Int)(n:Int)(a:Nat):Nat×Nat:=
 if h:a<es.length then((if Int.tmod es[a] n<0 then Int.tmod es[a] n+n else Int.tmod es[a] n).toNat,a+1) else(0,a)
theorem aby{es:List Int}{n:Int}{a:Nat}(hn:1≤n):((aag es n a).1:Int)<n:=by
 unfold aag
 split
 ·rename_i h
  have q2:=Int.tmod_lt_of_pos es[a] (show 0<n by omega)
  dsimp only
  split<;>omega
 ·exact hn
theorem aaE{es:List Int}{n:Int}{a:Nat}(ha:a≤es.length):(aag es n a).2≤es.length:=by
 unfold aag
 split
 ·assumption
 ·exact ha
def pF(es:List Int)(a:Nat):(Int×Int)×Nat:=((((aag es 9 a).1:Int)-4,((aag es 9 (aag es 9 a).2).1:Int)-4),(aag es 9 (aag es 9 a).2).2)
theorem anO{es:List Int}{a:Nat}(ha:a≤es.length):(pF es a).1.1.natAbs≤4∧(pF es a).1.2.natAbs≤4∧(pF es a).2≤es.length:=by
 have h1:=aby (es:=es) (n:=9) (a:=a) (by decide)
 have h2:=aby (es:=es) (n:=9) (a:=(aag es 9 a).2) (by decide)
 have h3:=aaE (n:=9) (aaE (es:=es) (n:=9) ha)
 unfold pF
 exact⟨by dsimp only;omega,by dsimp only;omega,h3⟩
def vF(es:List Int)(a:Nat):(Int×Int)×Nat:=if(pF es a).1.1=0∧(pF es a).1.2=0 then((1,0),(pF es a).2) else pF es a
theorem arA{es:List Int}{a:Nat}(ha:a≤es.length):(vF es a).1.1.natAbs≤4∧(vF es a).1.2.natAbs≤4∧ ¬((vF es a).1.1=0∧(vF es a).1.2=0)∧(vF es a).2≤es.length:=by
 obtain⟨h1,h2,h3⟩:=anO ha
 unfold vF
 split
 ·exact⟨show(1:Int).natAbs≤4 by decide,show(0:Int).natAbs≤4 by decide,show¬((1:Int)=0∧(0:Int)=0) by decide,h3⟩
 ·rename_i h;exact⟨h1,h2,h,h3⟩
def lF(es:List Int)(a:Nat):LnQ×Nat:=(arE (pF es a).1.1 (pF es a).1.2 ((pF es a).1.1+1*(vF es (pF es a).2).1.1) ((pF es a).1.2+1*(vF es (pF es a).2).1.2),(vF es (pF es a).2).2)
theorem aoX{es:List Int}{a:Nat}(ha:a≤es.length):LS (lF es a).1∧(lF es a).2≤es.length:=by
 obtain⟨h1,h2,h3⟩:=anO ha
 obtain⟨k1,k2,k3,k4⟩:=arA h3
 exact⟨aDg h1 h2 k1 k2 k3,k4⟩
def abw(es:List Int):Nat→Nat→Tr×Nat
 |0,a=>(.leaf (decide (((aag es 2 a).1:Int)=1)),(aag es 2 a).2)
 |d+1,a=>if((aag es 4 a).1:Int)=0 then(.leaf (decide (((aag es 2 (aag es 4 a).2).1:Int)=1)),(aag es 2 (aag es 4 a).2).2) else
  (.node (lF es (aag es 4 a).2).1 (abw es d (lF es (aag es 4 a).2).2).1 (abw es d (abw es d (lF es (aag es 4 a).2).2).2).1,(abw es d (abw es d (lF es (aag es 4 a).2).2).2).2)
theorem ahi{es:List Int}: ∀{d a:Nat},a≤es.length→(abw es d a).1.depth≤d∧(abw es d a).1.all LnQ.ok∧(abw es d a).1.all (fun l=>BL l 96)∧(abw es d a).2≤es.length
 |0,a,ha=>⟨Nat.zero_le _,trivial,trivial,aaE ha⟩
 |d+1,a,ha=>by
  have h4:=aaE (n:=4) ha
  unfold abw
  split
  ·exact⟨Nat.zero_le _,trivial,trivial,aaE h4⟩
  ·obtain⟨hl,h5⟩:=aoX h4
   obtain⟨d1,o1,b1,h6⟩:=ahi (d:=d) h5
   obtain⟨d2,o2,b2,h7⟩:=ahi (d:=d) h6
   exact⟨by show 1+max _ _≤_;omega,⟨hl.ok,o1,o2⟩,⟨hl.bl,b1,b2⟩,h7⟩
theorem ab0{b:Nat}{es:List Int}(hes:es.length≤400){a:Nat}(ha:a≤es.length){n:Int}(hn:1≤n)(hn2:n≤1000):PM GB Tryz.prog 42 (mkP [none,some (.v (.int .i64 n))] b) b 94 [.sl (es.map vI), .v (.int .i64 (a:Nat))] (.v (.int .i64 ((aag es n a).1:Nat))) [.sl (es.map vI), .v (.int .i64 ((aag es n a).2:Nat))]:=by
 have hel:(es.map vI).length=es.length:=by simp
 refine fnM Tryz.func42 J J Tryz.ntmps42 J J (fun C b m lo hmb=>?_)
 refine br J J J (fun hc15=>?_) (fun hc15=>?_)
 ·
  have hf:aag es n a=(0,a):=by unfold aag;rw[dif_neg (by omega)]
  exact rzM hmb J J (by rw[hf]<;>rfl) (by rw[hf]<;>rfl)
 ·
  have hal:a<es.length:=by omega
  obtain⟨e,he⟩: ∃e,e=es[a]:=⟨_,rfl⟩
  have q2:=Int.tmod_lt_of_pos e (show 0<n by omega)
  have q3: -n<Int.tmod e n:=by have:=Int.lt_tmod_of_pos e (show 0<n by omega);omega
  refine ix (fu:=⟨1⟩) _ rfl (axk hal) rfl<|?_
  refine eqF 25 (.d (vI e)) rfl (by rw[he]<;>rfl) ?_
  refine gx (hv:=by simp only[aai];exact⟨⟨by omega,by kernel_rfl⟩,by omega⟩) rfl<|?_
  refine br J J J (fun hc36=>?_) (fun hc36=>?_)
  ·
   have hf:aag es n a=((Int.tmod e n+n).toNat,a+1):=by unfold aag;rw[dif_pos hal,←he,if_pos hc36]
   exact rzM hmb J J (by rw[hf];show DV.v (.int .i64 _)=DV.v (.int .i64 _);rw[Int.toNat_of_nonneg (by omega)]) (by rw[hf]<;>rfl)
  ·
   have hf:aag es n a=((Int.tmod e n).toNat,a+1):=by unfold aag;rw[dif_pos hal,←he,if_neg hc36]
   exact rzM hmb J J (by rw[hf];show DV.v (.int .i64 _)=DV.v (.int .i64 _);rw[Int.toNat_of_nonneg (by omega)]) (by rw[hf]<;>rfl)
theorem aEx{b:Nat}{es:List Int}(hes:es.length≤400){a:Nat}(ha:a≤es.length):PM GB Tryz.prog 99 (mkP [none] b) b 94 [.sl (es.map vI), .v (.int .i64 (a:Nat))] (eP (iP (pF es a).1.1 (pF es a).1.2)) [.sl (es.map vI), .v (.int .i64 ((pF es a).2:Nat))]:=by
 have h1:=aby (es:=es) (n:=9) (a:=a) (by decide)
 have h2:=aby (es:=es) (n:=9) (a:=(aag es 9 a).2) (by decide)
 refine fnM Tryz.func99 J J Tryz.ntmps99 J J (fun C b m lo hmb=>?_)
 refine cm rfl (fun b=>(ab0 (n:=9) hes ha (by decide) (by decide))) rfl<|cm rfl (fun b=>(ab0 (n:=9) hes (aaE ha) (by decide) (by decide))) rfl<|?_
 refine cl rfl (arB (m:=((aag es 9 a).1:Int)-4) (n:=((aag es 9 (aag es 9 a).2).1:Int)-4) (by omega) (by omega)) rfl<|?_
 exact rzM hmb J J J J
theorem aFb{b:Nat}{es:List Int}(hes:es.length≤400){a:Nat}(ha:a≤es.length):PM GB Tryz.prog 102 (mkP [none] b) b 94 [.sl (es.map vI), .v (.int .i64 (a:Nat))] (eP (iP (vF es a).1.1 (vF es a).1.2)) [.sl (es.map vI), .v (.int .i64 ((vF es a).2:Nat))]:=by
 obtain⟨hm,hn,ha1⟩:=anO ha
 refine fnM Tryz.func102 J J Tryz.ntmps102 J J (fun C b m lo hmb=>?_)
 refine cm (fu:=⟨9⟩) rfl (fun b=>(aEx hes ha)) rfl<|?_
 refine eqF 7 (.d (eP (iP 0 0))) rfl (by rw[awT]<;>rfl) ?_
 refine gx rfl<|cl rfl (alB (m:=(pF es a).1.1) (n:=(pF es a).1.2) (m':=0) (n':=0) (by omega) (by omega) (by decide) (by decide)) rfl<|?_
 refine bd J J J (fun hc8=>?_) (fun hc8=>?_)
 ·
  have hf:vF es a=((1,0),(pF es a).2):=by unfold vF;rw[if_pos hc8]
  refine cl rfl (arB (m:=1) (n:=0) (by decide) (by decide)) rfl<|?_
  exact rzM hmb J J (by rw[hf]<;>rfl) (by rw[hf])
 ·
  have hf:vF es a=pF es a:=by unfold vF;rw[if_neg hc8]
  exact rzM hmb J J (by rw[hf]<;>rfl) (by rw[hf])
theorem aEB{b:Nat}{es:List Int}(hes:es.length≤400){a:Nat}(ha:a≤es.length):PM GB Tryz.prog 43 (mkP [none] b) b 94 [.sl (es.map vI), .v (.int .i64 (a:Nat))] (eL (lF es a).1) [.sl (es.map vI), .v (.int .i64 ((lF es a).2:Nat))]:=by
 obtain⟨hm,hn,ha1⟩:=anO ha
 obtain⟨hp,hq,hz,ha2⟩:=arA ha1
 refine fnM Tryz.func43 J J Tryz.ntmps43 J J (fun C b m lo hmb=>?_)
 refine cm rfl (fun b=>(aEx hes ha)) rfl<|cl rfl (akj (n:=1) (by decide) (by decide)) rfl<|cm rfl (fun b=>(aFb hes ha1)) rfl<|cl rfl (aqN (m:=(pF es a).1.1) (n:=(pF es a).1.2) (m':=(vF es (pF es a).2).1.1) (n':=(vF es (pF es a).2).1.2) (k:=1) (by omega) (by omega) (by omega) (by omega) (by decide)) rfl<|?_
 refine cl rfl (an9 (m:=(pF es a).1.1) (n:=(pF es a).1.2) (m':=(pF es a).1.1+1*(vF es (pF es a).2).1.1) (n':=(pF es a).1.2+1*(vF es (pF es a).2).1.2) (by omega) (by omega) (by omega) (by omega) (by omega)) rfl<|?_
 exact rzM hmb J J J J
theorem abG{p:Bool}:PF GB Tryz.prog 14 [.v (.bool p)] (eT (.leaf p)):=by
 refine fn Tryz.func14 J J Tryz.ntmps14 J J (fun C=>?_)
 refine fzE 5 rfl ?_
 exact rz J J
theorem amF{b:Nat}{es:List Int}(hes:es.length≤400){a:Nat}(ha:a≤es.length){n:Int}(hn:n=0):PM GB Tryz.prog 21 (mkP [none,some (.v (.int .i64 n))] b) b 94 [.sl (es.map vI), .v (.int .i64 (a:Nat))] (eT (abw es 0 a).1) [.sl (es.map vI), .v (.int .i64 ((abw es 0 a).2:Nat))]:=by
 refine fnM (fu:=⟨10⟩) Tryz.func21 J J Tryz.ntmps21 J J (fun C b m lo hmb=>?_)
 refine kT 8 rfl (by omega) ?_
 refine gx rfl<|cm rfl (fun b=>(ab0 (n:=2) hes ha (by decide) (by decide))) rfl<|cl rfl (abG (p:=decide (((aag es 2 a).1:Int)=1))) rfl<|?_
 exact rzM hmb J J J J
theorem anN{b:Nat}{es:List Int}(hes:es.length≤400){a:Nat}(ha:a≤es.length){d:Nat}{n:Int}(hn:n=((d+1:Nat):Int))(hd:d≤100)(ih: ∀{GB:Gh} {b a:Nat} {n:Int},a≤es.length→n=(d:Int)→PM GB Tryz.prog 21 (mkP [none,some (.v (.int .i64 n))] b) b 94 [.sl (es.map vI), .v (.int .i64 (a:Nat))] (eT (abw es d a).1) [.sl (es.map vI), .v (.int .i64 ((abw es d a).2:Nat))]):PM GB Tryz.prog 21 (mkP [none,some (.v (.int .i64 n))] b) b 94 [.sl (es.map vI), .v (.int .i64 (a:Nat))] (eT (abw es (d+1) a).1) [.sl (es.map vI), .v (.int .i64 ((abw es (d+1) a).2:Nat))]:=by
 have h4:=aaE (n:=4) ha
 obtain⟨hl,h5⟩:=aoX h4
 have h6:=(ahi (d:=d) h5).2.2.2
 refine fnM (fu:=⟨10⟩) Tryz.func21 J J Tryz.ntmps21 J J (fun C b m lo hmb=>?_)
 refine kF 8 rfl (by omega) ?_
 refine gx rfl<|cm rfl (fun b=>(ab0 (n:=4) hes ha (by decide) (by decide))) rfl<|?_
 refine br J J J (fun hc13=>?_) (fun hc13=>?_)
 ·
  have hf:abw es (d+1) a=_:=if_pos hc13
  refine cm rfl (fun b=>(ab0 (n:=2) hes h4 (by decide) (by decide))) rfl<|cl rfl (abG (p:=decide (((aag es 2 (aag es 4 a).2).1:Int)=1))) rfl<|?_
  exact rzM hmb J J (by rw[hf]<;>rfl) (by rw[hf])
 ·
  have hf:abw es (d+1) a=_:=if_neg hc13
  refine cm rfl (fun b=>(aEB hes h4)) rfl<|cm rfl (fun b=>(ih h5 (by omega))) rfl<|cm rfl (fun b=>(ih h6 (by omega))) rfl<|?_
  refine fzE 31 rfl ?_
  exact rzM hmb J J (by rw[hf]<;>rfl) (by rw[hf])
theorem asa{es:List Int}(hes:es.length≤400): ∀{d:Nat} {GB:Gh} {b a:Nat} {n:Int},d≤100→a≤es.length→n=(d:Int)→PM GB Tryz.prog 21 (mkP [none,some (.v (.int .i64 n))] b) b 94 [.sl (es.map vI), .v (.int .i64 (a:Nat))] (eT (abw es d a).1) [.sl (es.map vI), .v (.int .i64 ((abw es d a).2:Nat))]
 |0,_,_,_,_,_,ha,hn=>amF hes ha hn
 |d+1,_,_,_,_,hd,ha,hn=>anN hes ha hn (by omega) (fun h1 h2=>asa hes (by omega) h1 h2)
theorem ao5{es:List Int}(hes:es.length≤400){a d b:Nat}(ha:a≤es.length)(hd:d≤100):PM GB Tryz.prog 21 (mkP [none,some (.v (.int .i64 (d:Nat)))] b) b 94 [.sl (es.map vI), .v (.int .i64 (a:Nat))] (eT (abw es d a).1) [.sl (es.map vI), .v (.int .i64 ((abw es d a).2:Nat))]:=asa (GB:=GB) hes hd ha rfl
abbrev ZP:=Int×Int
def ZP.q(p:ZP):PtQ:=iP p.1 p.2
def ZP.le(k:Nat)(p:ZP):Prop:=p.1.natAbs≤k∧p.2.natAbs≤k
def aED(p q:ZP):ZP:=(p.1+1*q.1,p.2+1*q.2)
def ai0(u v:ZP):Int:=u.1*v.2-u.2*v.1
theorem ayE{m n p q:Int}(hm:m.natAbs≤1000)(hn:n.natAbs≤1000)(hp:p.natAbs≤1000)(hq:q.natAbs≤1000)(h: ¬(p=m∧q=n)):LB (arE m n p q)∧(arE m n p q).ok:=by
 have e1:(avL n q).natAbs≤2000:=by unfold avL;omega
 have e2:(avI m p).natAbs≤2000:=by unfold avI;omega
 have e3:=afJ e1 hm
 have e4:=afJ e2 hn
 have e5:(azu m n p q).natAbs≤4000000:=by unfold azu;omega
 unfold arE
 obtain⟨k1,k2,k3⟩:=ayW (avL n q) (avI m p) (azu m n p q)
 have hb:(2:Nat)^96=79228162514264337593543950336:=by decide
 refine⟨⟨⟨?_,?_,?_⟩⟩,ayx ?_⟩
 ·rw[hb];omega
 ·rw[hb];omega
 ·rw[hb];omega
 ·unfold avL avI;omega
def axK(v w:ZP):FrQ:=⟨arE v.1 v.2 w.1 w.2,⟨acg (arE v.1 v.2 w.1 w.2) v.q,acg (arE v.1 v.2 w.1 w.2) w.q,false,false⟩⟩
def afZ(r:List ZP)(i:Nat):ZP:=r.getD ((i+1)%r.length) (0,0)
def agG(r:List ZP):Nat→List FrQ
 |0=>[]
 |k+1=>agG r k++[axK (r.getD k (0,0)) (afZ r k)]
def adi(r:List ZP):List FrQ:=agG r r.length
structure abv (r:List ZP):Prop where
 n3:3≤r.length
 n6:r.length≤6
 le: ∀p∈r,ZP.le 100 p
 ne: ∀i<r.length,r.getD i (0,0)≠afZ r i
theorem aik{r:List ZP}{i:Nat}(h:i<r.length):r.getD i (0,0)∈r:=by
 rw[List.getD_eq_getElem?_getD,List.getElem?_eq_getElem h];exact List.getElem_mem h
theorem aiK{r:List ZP}{i:Nat}(h:i<r.length):afZ r i∈r:=aik (Nat.mod_lt _ (by omega))
theorem aoj{l:LnQ}(hl:LB l)(ho:l.ok){m n:Int}(hm:m.natAbs≤1000)(hn:n.natAbs≤1000):BQ (acg l (iP m n)) 1200:=by
 haveI:=biC (k:=11) hm (by decide)
 haveI:=biC (k:=11) hn (by decide)
 have hd:=anp ho.ne
 have hA:BI (l.a*l.a+l.b*l.b) _:=inferInstance
 have hB:BI (m*l.b-n*l.a) _:=inferInstance
 have hA':=ard (j:=1200) hA (by decide)
 have hB':=ard (j:=1200) hB (by decide)
 have e1:l.dir.dot l.dir=((l.a*l.a+l.b*l.b:Int):Rat):=by
  rw[Rat.intCast_add,Rat.intCast_mul,Rat.intCast_mul]
  simp only[LnQ.dir,PtQ.dot];grind
 have e2:(iP m n).dot l.dir=((m*l.b-n*l.a:Int):Rat):=by
  rw[Rat.intCast_sub,Rat.intCast_mul,Rat.intCast_mul]
  simp only[LnQ.dir,PtQ.dot,iP];grind
 have hd':((0:Int):Rat)<((l.a*l.a+l.b*l.b:Int):Rat):=by rw[←e1];exact hd
 unfold acg
 rw[e2,e1]
 clear hA hB e1 e2
 generalize l.a*l.a+l.b*l.b=D at*
 generalize m*l.b-n*l.a=M at*
 have hD:0<D:=Rat.intCast_lt_intCast.1 hd'
 refine BQ.of_fracI (n:=M) (D:=D) (by omega) ?_ hB' hA'
 have h0:(D:Rat)≠0:=fun e=>by rw[e] at hd';exact absurd hd' (by decide)
 have:((D.natAbs:Nat):Rat)=(D:Rat):=by
  have h1:((D.natAbs:Nat):Int)=D:=by omega
  rw[←h1];rfl
 rw[this]
 grind
theorem aAQ{v w:ZP}(hv:ZP.le 100 v)(hw:ZP.le 100 w)(h:v≠w):FOk (axK v w):=by
 obtain⟨h1,h2⟩:=ayE (m:=v.1) (n:=v.2) (p:=w.1) (q:=w.2) (by have:=hv.1;omega) (by have:=hv.2;omega) (by have:=hw.1;omega) (by have:=hw.2;omega) (fun e=>h (Prod.ext e.1.symm e.2.symm))
 exact⟨h1,h2,⟨fun e=>(by cases e),fun e=>(by cases e)⟩,aoj h1 h2 (by have:=hv.1;omega) (by have:=hv.2;omega),aoj h1 h2 (by have:=hw.1;omega) (by have:=hw.2;omega)⟩
theorem aiZ{r:List ZP}(h:abv r): ∀{k:Nat},k≤r.length→(agG r k).length=k∧ ∀f∈agG r k,FOk f
 |0,_=>⟨rfl,fun f hf=>by cases hf⟩
 |k+1,hk=>by
  obtain⟨h1,h2⟩:=aiZ h (k:=k) (by omega)
  rw[agG]
  refine⟨by simp[h1],fun f hf=>?_⟩
  rcases List.mem_append.1 hf with hf|hf
  ·exact h2 f hf
  ·rw[List.mem_singleton] at hf;subst hf
   exact aAQ (h.le _ (aik (by omega))) (h.le _ (aiK (by omega))) (h.ne k (by omega))
theorem aln{r:List ZP}(h:abv r):(adi r).length=r.length∧ ∀f∈adi r,FOk f:=aiZ h (Nat.le_refl _)
def acz(rs:List (List ZP)):List FrQ:=rs.flatMap adi
theorem aeB: ∀{rs:List (List ZP)},(∀r∈rs,abv r)→(acz rs).length≤6*rs.length∧ ∀f∈acz rs,FOk f
 |[],_=>⟨Nat.le_refl _,fun f hf=>by cases hf⟩
 |r::rs,h=>by
  obtain⟨h1,h2⟩:=aeB (rs:=rs) fun q hq=>h q (List.mem_cons_of_mem _ hq)
  obtain⟨k1,k2⟩:=aln (h r List.mem_cons_self)
  have:=(h r List.mem_cons_self).n6
  unfold acz at*
  rw[List.flatMap_cons]
  refine⟨by rw[List.length_append,k1,List.length_cons];omega,fun f hf=>?_⟩
  rcases List.mem_append.1 hf with hf|hf
  ·exact k2 f hf
  ·exact h2 f hf
def alw(a b c:PtQ):Int:=(PtQ.cross (acR b a (-1)) (acR c a (-1))).num.sign
def awX(v w p:PtQ):Int:=
 (if aa1 v.y p.y≤0∧ ¬aa1 w.y p.y≤0∧0<alw v w p then 1 else 0)-(if¬aa1 v.y p.y≤0∧aa1 w.y p.y≤0∧alw v w p<0 then 1 else 0)
def at5(r:List ZP)(p:PtQ):Nat→Int
 |0=>0
 |k+1=>at5 r p k+awX (r.getD k (0,0)).q (afZ r k).q p
def awL(r:List ZP)(p:PtQ):Int:=at5 r p r.length
def aBs(fill n:Int):Bool:=(decide (fill=1)&&decide (n.tmod 2≠0))||(decide (fill=2)&&decide (n≠0))
def inR(rs:List (List ZP))(fill:Int)(p:PtQ):Bool:=aBs fill (rs.foldl (fun n r=>n+awL r p) 0)
def aGu(rs:List (List ZP))(fill:Int):Tr:=amC (inR rs fill) (acz rs).length (acz rs) []
def ajK(rs:List (List ZP))(fill:Int):Tr:=(aGu rs fill).restrict []
structure af3 (k:Nat) (t:Tr):Prop where
 gd:t.gd
 dp:t.depth≤k
 am: ∃K:List LnQ,K.length≤k∧(∀l∈K,l.ok)∧adB K t
theorem azj{acc:PtQ→Bool}{n:Nat}{l:List FrQ}(h: ∀f∈l,FOk f)(hn:l.length=n):af3 n (amC acc n l []):=
 ⟨⟨ag7 fun f hf=>(h f hf).lb,ag7 fun f hf=>(h f hf).ok⟩,ahs,l.map (·.l),by rw[List.length_map,hn];exact Nat.le_refl _,fun m hm=>by
  obtain⟨f,hf,rfl⟩:=List.mem_map.1 hm;exact(h f hf).ok,ag7 fun f hf=>⟨f.l,List.mem_map_of_mem hf, .inl rfl⟩⟩
theorem af3.restrict{k:Nat}{t:Tr}(h:af3 k t)(c:aaf):af3 k (t.restrict c):=by
 obtain⟨K,h1,h2,h3⟩:=h.am
 exact⟨ao6 h.gd c,Nat.le_trans (t.restrict_depth c) h.dp,K,h1,h2,h3.restrict c⟩
theorem af3.compl{k:Nat}{t:Tr}(h:af3 k t):af3 k t.compl:=by
 obtain⟨K,h1,h2,h3⟩:=h.am
 exact⟨axm h.gd,by rw[t.compl_depth];exact h.dp,K,h1,h2,h3.compl⟩
theorem af3.mono{j k:Nat}{t:Tr}(h:af3 j t)(hk:j≤k):af3 k t:=by
 obtain⟨K,h1,h2,h3⟩:=h.am
 exact⟨h.gd,Nat.le_trans h.dp hk,K,by omega,h2,h3⟩
theorem af3.merge{j k:Nat}{op:Int}{t u:Tr}(h:af3 j t)(hu:af3 k u):af3 (j+k) (t.mergeQ op u []):=by
 obtain⟨K,h1,h2,h3⟩:=h.am
 obtain⟨M,k1,k2,k3⟩:=hu.am
 refine⟨⟨Tr.mergeQ_all LB op hu.gd.lb t [] h.gd.lb,Tr.mergeQ_all LnQ.ok op hu.gd.ok t [] h.gd.ok⟩,Nat.le_trans (Tr.mergeQ_depth op u t []) (by have:=h.dp;have:=hu.dp;omega),K++M,by rw[List.length_append];omega,fun l hl=>(List.mem_append.1 hl).elim (h2 l) (k2 l),?_⟩
 exact(h3.mono fun l hl=>⟨l,List.mem_append_left _ hl, .inl rfl⟩).merge (k3.mono fun l hl=>⟨l,List.mem_append_right _ hl, .inl rfl⟩) []
theorem af3.merge_size{j k:Nat}{op:Int}{t u:Tr}(h:af3 j t)(hu:af3 k u):(t.mergeQ op u []).size≤(j+k)*(1+(j+k)):=by
 obtain⟨K,h1,h2,h3⟩:=h.am
 obtain⟨M,k1,k2,k3⟩:=hu.am
 have hle:(K++M).length≤j+k:=by rw[List.length_append];omega
 refine Nat.le_trans (Tr.merge_size (K:=K++M) (op:=op) (fun l hl=>(List.mem_append.1 hl).elim (h2 l) (k2 l)) h.gd.ok hu.gd.ok (h3.mono fun l hl=>⟨l,List.mem_append_left _ hl, .inl rfl⟩) (k3.mono fun l hl=>⟨l,List.mem_append_right _ hl, .inl rfl⟩)) ?_
 exact Nat.mul_le_mul hle (by omega)
theorem af3.lim{j k:Nat}{op:Int}{t u:Tr}(h:af3 j t)(hu:af3 k u)(hk:j+k≤200):ar5 op t u=some (t.mergeQ op u []):=
 as7 (by have:=h.dp;have:=hu.dp;omega) (Nat.le_trans (h.merge_size hu) (Nat.le_trans (Nat.mul_le_mul hk (show 1+(j+k)≤201 by omega)) (by decide)))
theorem aqb{rs:List (List ZP)}{fill:Int}(h: ∀r∈rs,abv r)(hn:rs.length≤3):af3 18 (ajK rs fill):=by
 obtain⟨h1,h2⟩:=aeB h
 exact((azj (acc:=inR rs fill) h2 rfl).restrict []).mono (by omega)
def aA4(p q:ZP):Int:=if p.1<q.1 then-1 else if q.1<p.1 then 1 else if p.2<q.2 then-1 else if q.2<p.2 then 1 else 0
def axy(x:ZP):List ZP→List ZP
 |[]=>[x]
 |u::t=>if aA4 u x<0 then u::axy x t else if aA4 u x=0 then u::t else x::u::t
def anP(l:List ZP):List ZP:=l.foldl (fun out x=>axy x out) []
theorem aqH{x:ZP}: ∀{l:List ZP},(axy x l).length≤l.length+1
 |[]=>Nat.le_refl _
 |u::t=>by
  rw[axy]
  have:=aqH (x:=x) (l:=t)
  split
  ·simp;omega
  ·split<;>simp
theorem asr(l:List ZP):(anP l).length≤l.length:=by
 have key: ∀(l o:List ZP),(l.foldl (fun out x=>axy x out) o).length≤l.length+o.length:=by
  intro l
  induction l with
  |nil=>intro o;simp
  |cons x t ih=>intro o;have:=ih (axy x o);have:=aqH (x:=x) (l:=o);simp only[List.foldl_cons,List.length_cons];omega
 have:=key l []
 simpa[anP] using this
def agp(a b c d:Int):List ZP:=[(a,b),(c,b),(c,d),(a,d)]
theorem axn{r:List ZP}{i:Nat}(h:i+1<r.length):afZ r i=r.getD (i+1) (0,0):=by unfold afZ;rw[Nat.mod_eq_of_lt h]
theorem arw{r:List ZP}{i:Nat}(h:i+1=r.length):afZ r i=r.getD 0 (0,0):=by unfold afZ;rw[h,Nat.mod_self]
theorem auH{a b c d:Int}(h1:a.natAbs≤50)(h2:b.natAbs≤50)(h3:c.natAbs≤50)(h4:d.natAbs≤50)(h5:a<c)(h6:b<d):abv (agp a b c d):=by
 refine⟨by simp[agp],by simp[agp],fun p hp=>?_,fun i hi=>?_⟩
 ·simp only[agp,List.mem_cons,List.not_mem_nil,or_false] at hp
  rcases hp with rfl|rfl|rfl|rfl<;>exact⟨by dsimp only;omega,by dsimp only;omega⟩
 ·have:i=0∨i=1∨i=2∨i=3:=by simp[agp] at hi;omega
  rcases this with rfl|rfl|rfl|rfl<;>simp[agp,afZ]<;>omega
def aym(p u v:ZP):List ZP:=[p,aED p u,aED p v]
theorem aCh{p u v:ZP}(h1:ZP.le 40 p)(h2:ZP.le 40 u)(h3:ZP.le 40 v)(h:ai0 u v≠0):abv (aym p u v):=by
 obtain⟨p1,p2⟩:=p
 obtain⟨u1,u2⟩:=u
 obtain⟨v1,v2⟩:=v
 unfold ZP.le at h1 h2 h3
 dsimp only at h1 h2 h3
 unfold ai0 at h
 dsimp only at h
 refine⟨by simp[aym],by simp[aym],fun p hp=>?_,fun i hi=>?_⟩
 ·simp only[aym,aED,List.mem_cons,List.not_mem_nil,or_false] at hp
  rcases hp with rfl|rfl|rfl<;>exact⟨by dsimp only;omega,by dsimp only;omega⟩
 ·have:i=0∨i=1∨i=2:=by simp[aym] at hi;omega
  have hu: ¬(u1=0∧u2=0):=fun e=>h (by rw[e.1,e.2];simp)
  have hv: ¬(v1=0∧v2=0):=fun e=>h (by rw[e.1,e.2];simp)
  have huv: ¬(u1=v1∧u2=v2):=fun e=>h (by rw[e.1,e.2,Int.mul_comm];omega)
  rcases this with rfl|rfl|rfl<;>simp[aym,aED,afZ]<;>omega
def ap1(es:List Int):Nat→Nat→List ZP→List ZP×Nat
 |0,a,out=>(out,a)
 |n+1,a,out=>ap1 es n (pF es a).2 (if out.getLast? =some (pF es a).1 then out else out++[(pF es a).1])
structure Adj (r:List ZP):Prop where
 ne: ∀i,i+1<r.length→r.getD i (0,0)≠r.getD (i+1) (0,0)
 le: ∀p∈r,ZP.le 100 p
theorem Adj.snoc{r:List ZP}{p:ZP}(h:Adj r)(hp:ZP.le 100 p)(hl:r.getLast? ≠some p):Adj (r++[p]):=by
 refine⟨fun i hi=>?_,fun q hq=>?_⟩
 ·rw[List.length_append,List.length_singleton] at hi
  rw[List.getD_eq_getElem?_getD,List.getD_eq_getElem?_getD]
  by_cases h1:i+1<r.length
  ·rw[List.getElem?_append_left (by omega),List.getElem?_append_left h1]
   have:=h.ne i h1
   rwa [List.getD_eq_getElem?_getD,List.getD_eq_getElem?_getD] at this
  ·have e:i+1=r.length:=by omega
   rw[List.getElem?_append_left (by omega),e,List.getElem?_append_right (Nat.le_refl _),Nat.sub_self]
   rw[List.getLast?_eq_getElem?,←e,Nat.add_sub_cancel] at hl
   rw[List.getElem?_eq_getElem (by omega)] at hl⊢
   intro c
   exact hl (by simpa using c)
 ·rcases List.mem_append.1 hq with hq|hq
  ·exact h.le q hq
  ·rw[List.mem_singleton] at hq;subst hq;exact hp
theorem aoC{es:List Int}: ∀{n a:Nat} {out:List ZP},a≤es.length→Adj out→Adj (ap1 es n a out).1∧(ap1 es n a out).1.length≤out.length+n∧(ap1 es n a out).2≤es.length
 |0,a,out,ha,h=>⟨h,Nat.le_refl _,ha⟩
 |n+1,a,out,ha,h=>by
  obtain⟨h1,h2,h3⟩:=anO ha
  rw[ap1]
  by_cases hl:out.getLast? =some (pF es a).1
  ·rw[if_pos hl]
   obtain⟨k1,k2,k3⟩:=aoC (n:=n) h3 h
   exact⟨k1,by omega,k3⟩
  ·rw[if_neg hl]
   obtain⟨k1,k2,k3⟩:=aoC (n:=n) h3 (h.snoc (p:=(pF es a).1) ⟨by omega,by omega⟩ hl)
   rw[List.length_append,List.length_singleton] at k2
   exact⟨k1,by omega,k3⟩
def afi:Nat→List ZP→List ZP
 |0,l=>l
 |n+1,l=>if 1<l.length∧l.getD 0 (0,0)=l.getD (l.length-1) (0,0) then afi n l.dropLast else l
theorem Adj.drop{r:List ZP}(h:Adj r):Adj r.dropLast:=by
 refine⟨fun i hi=>?_,fun p hp=>h.le p ((List.dropLast_sublist _).subset hp)⟩
 rw[List.length_dropLast] at hi
 have:=h.ne i (by omega)
 rw[List.getD_eq_getElem?_getD,List.getD_eq_getElem?_getD] at this⊢
 rw[List.getElem?_dropLast,List.getElem?_dropLast,if_pos (by omega),if_pos (by omega)]
 exact this
theorem aq0: ∀{n:Nat} {l:List ZP},Adj l→l.length≤n+1→Adj (afi n l)∧(afi n l).length≤l.length∧(1<(afi n l).length→(afi n l).getD 0 (0,0)≠(afi n l).getD ((afi n l).length-1) (0,0))
 |0,l,h,hn=>⟨h,Nat.le_refl _,fun k=>absurd k (by unfold afi;omega)⟩
 |n+1,l,h,hn=>by
  rw[afi]
  split
  ·obtain⟨h1,h2,h3⟩:=aq0 (n:=n) h.drop (by rw[List.length_dropLast];omega)
   rw[List.length_dropLast] at h2
   exact⟨h1,by omega,h3⟩
  ·rename_i hc
   exact⟨h,Nat.le_refl _,fun k e=>hc ⟨k,e⟩⟩
theorem aAh{r:List ZP}(h:Adj r)(h6:r.length≤6)(hc:1<r.length→r.getD 0 (0,0)≠r.getD (r.length-1) (0,0))(h3:3≤(anP r).length):abv r:=by
 have:=asr r
 refine⟨by omega,h6,h.le,fun i hi=>?_⟩
 by_cases h1:i+1<r.length
 ·rw[axn h1];exact h.ne i h1
 ·have e:i+1=r.length:=by omega
  rw[arw e]
  have:=hc (by omega)
  rw[show i=r.length-1 by omega]
  exact fun k=>this k.symm
def aBX:List ZP:=[(0,0),(2,0),(0,2)]
theorem aBL:abv aBX:=⟨by decide,by decide,fun p hp=>by
  simp only[aBX,List.mem_cons,List.not_mem_nil,or_false] at hp
  rcases hp with rfl|rfl|rfl<;>exact⟨by decide,by decide⟩,fun i hi=>by
  have:i=0∨i=1∨i=2:=by simp[aBX] at hi;omega
  rcases this with rfl|rfl|rfl<;>decide⟩
def avK(es:List Int)(a:Nat):List ZP×Nat:=
 ((if(anP (afi 6 (ap1 es (3+(aag es 4 a).1) (aag es 4 a).2 []).1)).length<3 then aBX else afi 6 (ap1 es (3+(aag es 4 a).1) (aag es 4 a).2 []).1),(ap1 es (3+(aag es 4 a).1) (aag es 4 a).2 []).2)
theorem Adj.nil:Adj []:=⟨fun i hi=>by simp at hi,fun p hp=>by cases hp⟩
theorem avr{es:List Int}{a:Nat}(ha:a≤es.length):abv (avK es a).1∧(avK es a).2≤es.length:=by
 have h1:=aby (es:=es) (n:=4) (a:=a) (by decide)
 obtain⟨k1,k2,k3⟩:=aoC (n:=3+(aag es 4 a).1) (aaE (n:=4) ha) Adj.nil
 obtain⟨t1,t2,t3⟩:=aq0 (n:=6) k1 (by simp at k2;omega)
 refine⟨?_,k3⟩
 unfold avK
 dsimp only
 split
 ·exact aBL
 ·exact aAh t1 (by simp at k2;omega) t3 (by omega)
def sqF(es:List Int)(n m k:Int)(a:Nat):List ZP×Nat:=
 let x:=aag es n a
 let y:=aag es n x.2
 let z:=aag es m y.2
 let w:=aag es m z.2
 (agp ((x.1:Int)-k) ((y.1:Int)-k) ((x.1:Int)-k+1+z.1) ((y.1:Int)-k+1+w.1),w.2)
theorem aCe{es:List Int}{n m k:Int}{a:Nat}(ha:a≤es.length)(hn:1≤n)(hn2:n≤10)(hm:1≤m)(hm2:m≤10)(hk:0≤k)(hk2:k≤10):abv (sqF es n m k a).1∧(sqF es n m k a).2≤es.length:=by
 have h1:=aby (es:=es) (a:=a) hn
 have h2:=aby (es:=es) (a:=(aag es n a).2) hn
 have h3:=aby (es:=es) (a:=(aag es n (aag es n a).2).2) hm
 have h4:=aby (es:=es) (a:=(aag es m (aag es n (aag es n a).2).2).2) hm
 exact⟨auH (by omega) (by omega) (by omega) (by omega) (by omega) (by omega),aaE (aaE (aaE (aaE ha)))⟩
def acP(es:List Int)(a:Nat):List ZP×Nat:=
 let k:=aag es 4 a
 if(k.1:Int)=0 then sqF es 5 4 4 k.2
 else if(k.1:Int)=1 then
  let p:=pF es k.2
  let u:=vF es p.2
  let v:=vF es u.2
  if ai0 u.1 v.1≠0 then(aym p.1 u.1 v.1,v.2) else avK es v.2
 else avK es k.2
theorem aiH{es:List Int}{a:Nat}(ha:a≤es.length):abv (acP es a).1∧(acP es a).2≤es.length:=by
 have h0:=aaE (n:=4) ha
 unfold acP
 dsimp only
 split
 ·exact aCe h0 (by decide) (by decide) (by decide) (by decide) (by decide) (by decide)
 ·split
  ·obtain⟨p1,p2,p3⟩:=anO h0
   obtain⟨u1,u2,u3,u4⟩:=arA p3
   obtain⟨v1,v2,v3,v4⟩:=arA u4
   split
   ·rename_i hc
    exact⟨aCh ⟨by omega,by omega⟩ ⟨by omega,by omega⟩ ⟨by omega,by omega⟩ hc,v4⟩
   ·exact avr v4
  ·exact avr h0
def aHg:List ZP:=[(0,0),(1,0),(0,1)]
def asJ(es:List Int)(a:Nat):List ZP×Nat:=
 let k:=aag es 2 a
 if(k.1:Int)=0 then sqF es 3 2 1 k.2
 else
  let x:=aag es 3 k.2
  let y:=aag es 3 x.2
  let u1:=aag es 2 y.2
  let u2:=aag es 3 u1.2
  let v1:=aag es 3 u2.2
  let v2:=aag es 2 v1.2
  (if 0<ai0 (1+(u1.1:Int),(u2.1:Int)-1) ((v1.1:Int)-1,1+(v2.1:Int)) then aym ((x.1:Int)-1,(y.1:Int)-1) (1+(u1.1:Int),(u2.1:Int)-1) ((v1.1:Int)-1,1+(v2.1:Int)) else aHg,v2.2)
def aea(es:List Int)(a:Nat):Tr×Nat:=
 let r:=acP es a
 let k:=aag es 3 r.2
 if(k.1:Int)=0 then
  let s:=acP es k.2
  let f:=aag es 2 s.2
  (ajK [r.1,s.1] (1+(f.1:Int)),f.2)
 else
  let f:=aag es 2 k.2
  (ajK [r.1] (1+(f.1:Int)),f.2)
theorem aeF{es:List Int}{a:Nat}(ha:a≤es.length):af3 18 (aea es a).1∧(aea es a).2≤es.length:=by
 obtain⟨r1,r2⟩:=aiH ha
 have h3:=aaE (n:=3) r2
 unfold aea
 dsimp only
 split
 ·obtain⟨s1,s2⟩:=aiH h3
  exact⟨aqb (fun r hr=>by simp only[List.mem_cons,List.not_mem_nil,or_false] at hr;rcases hr with rfl|rfl;exact r1;exact s1) (by simp),aaE s2⟩
 ·exact⟨aqb (fun r hr=>by simp only[List.mem_cons,List.not_mem_nil,or_false] at hr;subst hr;exact r1) (by simp),aaE h3⟩
def axj(l:LnQ):Tr:=(Tr.node l (.leaf true) (.leaf false)).restrict []
theorem adM: ∀t:Tr,t.lns.length=t.size
 | .leaf _=>rfl
 | .node l x y=>by rw[Tr.lns,List.length_cons,List.length_append,adM x,adM y,Tr.size];omega
theorem auk{t:Tr}{k:Nat}(hb:t.all (fun l=>BL l 96))(ho:t.all LnQ.ok)(hs:t.size≤k):af3 k t:=
 ⟨⟨act.2 fun l hl=>⟨act.1 hb l hl⟩,ho⟩,Nat.le_trans t.depth_size hs,t.lns,by rw[adM];exact hs,adk ho,axg fun l hl=>hl⟩
theorem aoA{es:List Int}{d a:Nat}(ha:a≤es.length)(hd:d≤4):af3 18 (abw es d a).1∧(abw es d a).2≤es.length:=by
 obtain⟨h1,h2,h3,h4⟩:=ahi (d:=d) ha
 have h5:=Tr.size_lt (abw es d a).1
 have h6:(2:Nat)^(abw es d a).1.depth≤2^4:=Nat.pow_le_pow_right (by decide) (by omega)
 exact⟨auk h3 h2 (by omega),h4⟩
theorem asu{l:LnQ}(h:LS l):af3 18 (axj l):=
 (auk (k:=18) (t:= .node l (.leaf true) (.leaf false)) ⟨h.bl,trivial,trivial⟩ ⟨h.ok,trivial,trivial⟩ (by simp[Tr.size])).restrict []
def aat(es:List Int):Nat→Nat→Tr×Nat
 |0,a=>
  let k:=aag es 6 a
  if(k.1:Int)=1 then(axj (lF es k.2).1,(lF es k.2).2)
  else if(k.1:Int)=2 then((abw es 3 k.2).1.restrict [],(abw es 3 k.2).2)
  else if(k.1:Int)=3 then((aea es k.2).1.compl,(aea es k.2).2)
  else aea es k.2
 |d+1,a=>
  let k:=aag es 6 a
  if(k.1:Int)=0 then
   let x:=aat es d k.2
   let o:=aag es 4 x.2
   let y:=aat es d o.2
   (x.1.mergeQ (1+(o.1:Int)) y.1 [],y.2)
  else if(k.1:Int)=1 then(axj (lF es k.2).1,(lF es k.2).2)
  else if(k.1:Int)=2 then((abw es 3 k.2).1.restrict [],(abw es 3 k.2).2)
  else if(k.1:Int)=3 then((aea es k.2).1.compl,(aea es k.2).2)
  else aea es k.2
theorem adH{es:List Int}: ∀{d a:Nat},a≤es.length→af3 (18*2^d) (aat es d a).1∧(aat es d a).2≤es.length
 |0,a,ha=>by
  have h0:=aaE (n:=6) ha
  rw[aat]
  try dsimp only
  split
  ·obtain⟨h1,h2⟩:=aoX h0;exact⟨asu h1,h2⟩
  ·split
   ·obtain⟨h1,h2⟩:=aoA (d:=3) h0 (by decide);exact⟨h1.restrict [],h2⟩
   ·split
    ·obtain⟨h1,h2⟩:=aeF h0;exact⟨h1.compl,h2⟩
    ·exact aeF h0
 |d+1,a,ha=>by
  have h0:=aaE (n:=6) ha
  have hp:18≤18*2^(d+1):=Nat.le_mul_of_pos_right _ (Nat.pow_pos (by decide))
  rw[aat]
  try dsimp only
  split
  ·obtain⟨h1,h2⟩:=adH (d:=d) h0
   obtain⟨h3,h4⟩:=adH (d:=d) (aaE (n:=4) h2)
   exact⟨(h1.merge h3).mono (by rw[Nat.pow_succ];omega),h4⟩
  ·split
   ·obtain⟨h1,h2⟩:=aoX h0;exact⟨(asu h1).mono hp,h2⟩
   ·split
    ·obtain⟨h1,h2⟩:=aoA (d:=3) h0 (by decide);exact⟨(h1.restrict []).mono hp,h2⟩
    ·split
     ·obtain⟨h1,h2⟩:=aeF h0;exact⟨h1.compl.mono hp,h2⟩
     ·obtain⟨h1,h2⟩:=aeF h0;exact⟨h1.mono hp,h2⟩
def aHF(es:List Int)(a:Nat):Tr×Nat:=
 let k:=aag es 4 a
 if(k.1:Int)=0 then(axj (lF es k.2).1,(lF es k.2).2)
 else if(k.1:Int)=1 then((abw es 2 k.2).1.restrict [],(abw es 2 k.2).2)
 else(ajK [(asJ es k.2).1] 2,(asJ es k.2).2)
def ajp(op:Int)(a b:Tr):Bool:=decide ((a.mergeQ op b []).isLeaf=true∧(a.mergeQ op b []).code=false)
theorem arv{op:Int}{a b:Tr}{L:List LnQ}(ha: ∀l∈a.lns,l∈L)(hb: ∀l∈b.lns,l∈L)(c:aaf): ∀l∈(a.mergeQ op b c).lns,l∈L:=
 act.1 (Tr.mergeQ_all (· ∈L) op (act.2 hb) a c (act.2 ha))
def aEz(a b:Tr):Int:=if ajp 4 a b then 0 else if ajp 3 a b then-1 else if ajp 3 b a then 1 else 2
def atQ:Tr→PtQ→Bool
 | .leaf b,_=>b
 | .node l x y,p=>if(l.value p).num.sign=1 then atQ x p else if(l.value p).num.sign= -1 then atQ y p else false
theorem ahB: ∀{t:Tr} {p:PtQ},Off t.lns p→atQ t p=t.val p
 | .leaf b,p,_=>rfl
 | .node l x y,p,h=>by
  rw[atQ,Tr.val]
  have h0:=h.l
  by_cases h1:0<l.value p
  ·rw[if_pos ((aht _).2 h1),if_pos h1,ahB h.x]
  ·have h2:l.value p<0:=by grind
   have h3:=(afj _).2 h2
   have h4:(l.value p).num.sign= -1:=by
    rcases Int.sign_trichotomy (l.value p).num with e|e|e<;>omega
   rw[if_neg (by omega),if_pos h4,if_neg h1,ahB h.y]
theorem ag0{L:List LnQ}{p q:PtQ}(h: ∀l∈L,0<l.value q↔0<l.value p): ∀{t:Tr},(∀l∈t.lns,l∈L)→t.val q=t.val p
 | .leaf _,_=>rfl
 | .node l x y,hl=>by
  have hx:=ag0 h (t:=x) fun m hm=>hl m (List.mem_cons_of_mem _ (List.mem_append_left _ hm))
  have hy:=ag0 h (t:=y) fun m hm=>hl m (List.mem_cons_of_mem _ (List.mem_append_right _ hm))
  rw[Tr.val,Tr.val,hx,hy]
  by_cases h1:0<l.value q
  ·rw[if_pos h1,if_pos ((h l (hl l List.mem_cons_self)).1 h1)]
  ·rw[if_neg h1,if_neg (fun e=>h1 ((h l (hl l List.mem_cons_self)).2 e))]
end Go.Sx
end
