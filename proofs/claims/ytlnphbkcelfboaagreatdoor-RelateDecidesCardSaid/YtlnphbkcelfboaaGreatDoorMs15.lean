/-
  Plain geometry: points in all faces of the arrangement of lines. Plain geometry: the reference's points in the faces lie on no line, and in every face. What the reference does with spans and fragments, as functions; the raw tree. Reference: points with integer coordinates, lines through them. Reference: what is drawn from the tape: numbers, points, lines, trees. The reference's rings, winding numbers, built trees and regions, as functions of the tape. The reference's rings and regions, as functions of the tape. Regions that draw their order, with a tree of orders. Reference: the place of a line, canonical cells, restriction.
-/
import Derived.Test.YtlnphbkcelfboaaGreatDoorMs14
set_option linter.unusedSimpArgs false
set_option linter.unusedVariables false
section
set_option maxRecDepth 100000
namespace Go.Sx
open Go Go.Proofs
def insR(x:Rat):List Rat→List Rat
 |[]=>[x]
 |u::t=>if u<x then u::insR x t else if u=x then u::t else x::u::t
def numsR(l:List Rat):List Rat:=l.foldl (fun out x=>insR x out) []
def midsR:List Rat→List Rat
 |a::b::t=>(a+b)/2::midsR (b::t)
 |_=>[]
def gapsR:List Rat→List Rat
 |[]=>[0]
 |a::t=>(a-1)::(midsR (a::t)++[(a::t).getLast (by simp)+1])
theorem mem_insR{x y:Rat}: ∀{l:List Rat},y∈insR x l↔y=x∨y∈l
 |[]=>by simp[insR]
 |u::t=>by
  rw[insR]
  split
  ·rw[List.mem_cons,mem_insR (l:=t),List.mem_cons];grind
  ·split
   ·rename_i h;subst h;simp
   ·simp
theorem insR_asc{x:Rat}: ∀{l:List Rat},l.Pairwise (· < ·)→(insR x l).Pairwise (· < ·)
 |[],_=>by simp[insR]
 |u::t,h=>by
  rw[List.pairwise_cons] at h
  rw[insR]
  split
  ·rename_i hu
   rw[List.pairwise_cons]
   refine⟨fun y hy=>?_,insR_asc h.2⟩
   rcases mem_insR.1 hy with rfl|hy
   ·exact hu
   ·exact h.1 y hy
  ·rename_i hu
   split
   ·rw[List.pairwise_cons];exact h
   ·rename_i hn
    have hx:x<u:=by grind
    rw[List.pairwise_cons,List.pairwise_cons]
    refine⟨fun y hy=>?_,h⟩
    rcases List.mem_cons.1 hy with rfl|hy
    ·exact hx
    ·have:=h.1 y hy;grind
theorem foldR{l:List Rat}: ∀{o:List Rat},o.Pairwise (· < ·)→(l.foldl (fun out x=>insR x out) o).Pairwise (· < ·)∧ ∀y,y∈l.foldl (fun out x=>insR x out) o↔y∈l∨y∈o:=by
 induction l with
 |nil=>intro o h;exact⟨h,fun y=>by simp⟩
 |cons x t ih=>
  intro o h
  obtain⟨h1,h2⟩:=ih (insR_asc (x:=x) h)
  refine⟨h1,fun y=>?_⟩
  rw[List.foldl_cons,h2,mem_insR,List.mem_cons]
  grind
theorem numsR_asc(l:List Rat):(numsR l).Pairwise (· < ·):=(foldR (l:=l) List.Pairwise.nil).1
theorem mem_numsR{l:List Rat}{y:Rat}:y∈numsR l↔y∈l:=by
 have:=(foldR (l:=l) List.Pairwise.nil).2 y
 simpa[numsR] using this
theorem mids_off{g:Rat}: ∀{l:List Rat},l.Pairwise (· < ·)→g∈midsR l→g∉l∧(∃a∈l,a<g)∧ ∃b∈l,g<b
 |[],_,h=>by cases h
 |[_],_,h=>by cases h
 |a::b::t,h,hg=>by
  rw[List.pairwise_cons] at h
  have hab:=h.1 b List.mem_cons_self
  rw[midsR] at hg
  rcases List.mem_cons.1 hg with rfl|hg
  ·refine⟨fun hm=>?_,⟨a,List.mem_cons_self,by grind⟩,b,List.mem_cons_of_mem _ List.mem_cons_self,by grind⟩
   rcases List.mem_cons.1 hm with e|hm
   ·grind
   ·rcases List.mem_cons.1 hm with e|hm
    ·grind
    ·have h2:=h.2
     rw[List.pairwise_cons] at h2
     have:=h2.1 _ hm
     grind
  ·obtain⟨k1,⟨c,hc,k2⟩,d,hd,k3⟩:=mids_off h.2 hg
   refine⟨fun hm=>?_,⟨c,List.mem_cons_of_mem _ hc,k2⟩,d,List.mem_cons_of_mem _ hd,k3⟩
   rcases List.mem_cons.1 hm with e|hm
   ·have:=h.1 c hc;grind
   ·exact k1 hm
theorem le_last: ∀{l:List Rat} (h:l.Pairwise (· < ·)) (hn:l≠[]),∀y∈l,y≤l.getLast hn
 |[a],_,_,y,hy=>by rw[List.mem_singleton] at hy;subst hy;exact Rat.le_refl
 |a::b::t,h,_,y,hy=>by
  rw[List.pairwise_cons] at h
  rw[List.getLast_cons (by simp)]
  have ih:=le_last h.2 (by simp)
  rcases List.mem_cons.1 hy with rfl|hy
  ·have:=h.1 b List.mem_cons_self
   have:=ih b List.mem_cons_self
   grind
  ·exact ih y hy
theorem gaps_off{l:List Rat}(h:l.Pairwise (· < ·)){g:Rat}(hg:g∈gapsR l):g∉l:=by
 cases l with
 |nil=>simp
 |cons a t=>
  rw[gapsR] at hg
  rcases List.mem_cons.1 hg with rfl|hg
  ·intro hm
   rcases List.mem_cons.1 hm with e|hm
   ·grind
   ·rw[List.pairwise_cons] at h;have:=h.1 _ hm;grind
  ·rcases List.mem_append.1 hg with hg|hg
   ·exact(mids_off h hg).1
   ·rw[List.mem_singleton] at hg
    intro hm
    have:=le_last h (by simp) g hm
    grind
theorem mids_rep{v:Rat}: ∀{l:List Rat},l.Pairwise (· < ·)→v∉l→(∃a∈l,a<v)→(∃b∈l,v<b)→ ∃g∈midsR l,∀u∈l,u<v↔u<g
 |[],_,_,⟨a,h,_⟩,_=>by cases h
 |[c],_,_,⟨a,h,h1⟩,⟨b,k,k1⟩=>by
  rw[List.mem_singleton] at h k;subst h;subst k;grind
 |c::d::t,h,hv,h1,h2=>by
  have h0:=h
  rw[List.pairwise_cons] at h
  have hcd:=h.1 d List.mem_cons_self
  have h3:=h.2
  rw[List.pairwise_cons] at h3
  have hvc:c<v:=by
   obtain⟨a,ha,hav⟩:=h1
   rcases List.mem_cons.1 ha with rfl|ha
   ·exact hav
   ·have:=h.1 a ha;grind
  by_cases hd:v<d
  ·refine⟨(c+d)/2,by rw[midsR];exact List.mem_cons_self,fun u hu=>?_⟩
   rcases List.mem_cons.1 hu with rfl|hu
   ·constructor<;>intro _<;>grind
   ·rcases List.mem_cons.1 hu with rfl|hu
    ·constructor<;>intro _<;>grind
    ·have:=h3.1 u hu
     constructor<;>intro _<;>grind
  ·have hdv:d<v:=by
    have:v≠d:=fun e=>hv (by rw[e];exact List.mem_cons_of_mem _ List.mem_cons_self)
    grind
   obtain⟨b,hb,hvb⟩:=h2
   have hb':b∈d::t:=by
    rcases List.mem_cons.1 hb with rfl|hb
    ·exfalso;grind
    ·exact hb
   obtain⟨g,hg,hr⟩:=mids_rep h.2 (fun e=>hv (List.mem_cons_of_mem _ e)) ⟨d,List.mem_cons_self,hdv⟩ ⟨b,hb',hvb⟩
   refine⟨g,by rw[midsR];exact List.mem_cons_of_mem _ hg,fun u hu=>?_⟩
   rcases List.mem_cons.1 hu with rfl|hu
   ·have:=(hr d List.mem_cons_self).1 hdv
    constructor<;>intro _<;>grind
   ·exact hr u hu
theorem gaps_rep{v:Rat}{l:List Rat}(h:l.Pairwise (· < ·))(hv:v∉l): ∃g∈gapsR l,∀u∈l,u<v↔u<g:=by
 cases l with
 |nil=>exact⟨0,by simp[gapsR],fun u hu=>by cases hu⟩
 |cons a t=>
  by_cases h1: ∃c∈a::t,c<v
  ·by_cases h2: ∃c∈a::t,v<c
   ·obtain⟨g,hg,hr⟩:=mids_rep h hv h1 h2
    exact⟨g,by rw[gapsR];exact List.mem_cons_of_mem _ (List.mem_append_left _ hg),hr⟩
   ·refine⟨(a::t).getLast (by simp)+1,by rw[gapsR];exact List.mem_cons_of_mem _ (List.mem_append_right _ (List.mem_singleton.2 rfl)),fun u hu=>?_⟩
    have k1:=le_last h (by simp) u hu
    have k2: ¬v<u:=fun e=>h2 ⟨u,hu,e⟩
    have k3:u≠v:=fun e=>hv (e▸hu)
    constructor<;>intro _<;>grind
  ·refine⟨a-1,by rw[gapsR];exact List.mem_cons_self,fun u hu=>?_⟩
   have k1: ¬u<v:=fun e=>h1 ⟨u,hu,e⟩
   have k2: ¬u<a-1:=by
    rcases List.mem_cons.1 hu with rfl|hu
    ·grind
    ·rw[List.pairwise_cons] at h;have:=h.1 u hu;grind
   constructor
   ·intro e;exact absurd e k1
   ·intro e;exact absurd e k2
theorem between(A B:List Rat)(h: ∀a∈A,∀b∈B,a<b): ∃y,(∀a∈A,a<y)∧ ∀b∈B,y<b:=by
 -- the greatest of A and the least of B
 have hA: ∀(A:List Rat),A≠[]→ ∃m∈A,∀a∈A,a≤m:=by
  intro A
  induction A with
  |nil=>intro h;exact absurd rfl h
  |cons x t ih=>
   intro _
   by_cases ht:t=[]
   ·subst ht;exact⟨x,List.mem_cons_self,fun a ha=>by rw[List.mem_singleton] at ha;subst ha;exact Rat.le_refl⟩
   ·obtain⟨m,hm,hm2⟩:=ih ht
    by_cases hx:m≤x
    ·exact⟨x,List.mem_cons_self,fun a ha=>by rcases List.mem_cons.1 ha with rfl|ha;exact Rat.le_refl;have:=hm2 a ha;grind⟩
    ·exact⟨m,List.mem_cons_of_mem _ hm,fun a ha=>by rcases List.mem_cons.1 ha with rfl|ha;grind;exact hm2 a ha⟩
 have hB: ∀(A:List Rat),A≠[]→ ∃m∈A,∀a∈A,m≤a:=by
  intro A
  induction A with
  |nil=>intro h;exact absurd rfl h
  |cons x t ih=>
   intro _
   by_cases ht:t=[]
   ·subst ht;exact⟨x,List.mem_cons_self,fun a ha=>by rw[List.mem_singleton] at ha;subst ha;exact Rat.le_refl⟩
   ·obtain⟨m,hm,hm2⟩:=ih ht
    by_cases hx:x≤m
    ·exact⟨x,List.mem_cons_self,fun a ha=>by rcases List.mem_cons.1 ha with rfl|ha;exact Rat.le_refl;have:=hm2 a ha;grind⟩
    ·exact⟨m,List.mem_cons_of_mem _ hm,fun a ha=>by rcases List.mem_cons.1 ha with rfl|ha;grind;exact hm2 a ha⟩
 by_cases eA:A=[]
 ·subst eA
  by_cases eB:B=[]
  ·subst eB;exact⟨0,fun a ha=>(by cases ha),fun a ha=>(by cases ha)⟩
  ·obtain⟨m,hm,hm2⟩:=hB B eB
   exact⟨m-1,fun a ha=>(by cases ha),fun b hb=>by have:=hm2 b hb;grind⟩
 ·obtain⟨m,hm,hm2⟩:=hA A eA
  by_cases eB:B=[]
  ·subst eB;exact⟨m+1,fun a ha=>by have:=hm2 a ha;grind,fun a ha=>(by cases ha)⟩
  ·obtain⟨n,hn,hn2⟩:=hB B eB
   have hmn:=h m hm n hn
   exact⟨(m+n)/2,fun a ha=>by have:=hm2 a ha;grind,fun b hb=>by have:=hn2 b hb;grind⟩
end Go.Sx
end

section
set_option maxRecDepth 100000
namespace Go.Sx
open Go Go.Proofs
def xsQ:List LnQ→List Rat
 |[]=>[]
 |a::t=>(if a.b=0 then [a.base.x] else [])++(t.filterMap (fun b=>if crossI a b=0 then none else some (meetP a b).x)++xsQ t)
def yA(a:LnQ)(x:Rat):Rat:= -(((a.a:Rat)*x+(a.c:Rat))/(a.b:Rat))
def ysQ(l:List LnQ)(x:Rat):List Rat:=l.filterMap fun a=>if a.b=0 then none else some (yA a x)
def facesQ(l:List LnQ):List PtQ:=(gapsR (numsR (xsQ l))).flatMap fun x=>(gapsR (numsR (ysQ l x))).map fun y=>⟨x,y⟩
theorem mem_xs1{a:LnQ}: ∀{l:List LnQ},a∈l→a.b=0→a.base.x∈xsQ l
 |[],h,_=>by cases h
 |c::t,h,hb=>by
  rw[xsQ]
  rcases List.mem_cons.1 h with rfl|h
  ·rw[if_pos hb];exact List.mem_append_left _ List.mem_cons_self
  ·exact List.mem_append_right _ (List.mem_append_right _ (mem_xs1 h hb))
theorem mem_xs2{a b:LnQ}: ∀{l:List LnQ},a∈l→b∈l→crossI a b≠0→(meetP a b).x∈xsQ l∨(meetP b a).x∈xsQ l
 |[],h,_,_=>by cases h
 |c::t,h,k,hx=>by
  have hx2:crossI b a≠0:=by unfold crossI at*;omega
  rw[xsQ]
  rcases List.mem_cons.1 h with h1|h1
  ·rcases List.mem_cons.1 k with k1|k1
   ·subst h1;subst k1;unfold crossI at hx;omega
   ·subst h1;left
    exact List.mem_append_right _ (List.mem_append_left _ (List.mem_filterMap.2 ⟨b,k1,by rw[if_neg hx]⟩))
  ·rcases List.mem_cons.1 k with k1|k1
   ·subst k1;right
    exact List.mem_append_right _ (List.mem_append_left _ (List.mem_filterMap.2 ⟨a,h1,by rw[if_neg hx2]⟩))
   ·rcases mem_xs2 h1 k1 hx with h2|h2
    ·exact .inl (List.mem_append_right _ (List.mem_append_right _ h2))
    ·exact .inr (List.mem_append_right _ (List.mem_append_right _ h2))
theorem cross_x{a b:LnQ}(h:crossI a b≠0){p:PtQ}(h1:a.value p=0)(h2:b.value p=0):p.x=(meetP a b).x:=by
 have hd:((crossI a b:Int):Rat)≠0:=fun e=>h (Rat.intCast_eq_zero_iff.1 e)
 unfold meetP
 rw[if_neg h]
 show p.x=(meetX a b:Rat)/(crossI a b:Rat)
 have e1:=cross_cast a b
 have e2:=meetX_cast a b
 rw[val_def] at h1 h2
 have e3:((crossI a b:Int):Rat)*p.x=(meetX a b:Rat):=by rw[e1,e2];grind
 grind
theorem cross_mem{l:List LnQ}{a b:LnQ}(ha:a∈l)(hb:b∈l)(h:crossI a b≠0){p:PtQ}(h1:a.value p=0)(h2:b.value p=0):p.x∈xsQ l:=by
 have h':crossI b a≠0:=by unfold crossI at*;omega
 rcases mem_xs2 ha hb h with k|k
 ·rw[cross_x h h1 h2];exact k
 ·rw[cross_x h' h2 h1];exact k
theorem val_yA{a:LnQ}(h:a.b≠0)(x y:Rat):a.value ⟨x,y⟩=(a.b:Rat)*(y-yA a x):=by
 have hb:(a.b:Rat)≠0:=fun e=>h (Rat.intCast_eq_zero_iff.1 e)
 unfold yA
 rw[val_def]
 show(a.a:Rat)*x+(a.b:Rat)*y+(a.c:Rat)=_
 grind
theorem val_base{a:LnQ}(hn:a.Ne)(h:a.b=0)(x y:Rat):a.value ⟨x,y⟩=(a.a:Rat)*(x-a.base.x):=by
 have ha:(a.a:Rat)≠0:=fun e=>hn ⟨Rat.intCast_eq_zero_iff.1 e,h⟩
 obtain⟨q,hq,hb⟩:=base_q hn
 rw[hb,val_def]
 show(a.a:Rat)*x+(a.b:Rat)*y+(a.c:Rat)=(a.a:Rat)*(x-(a.a:Rat)*q)
 simp only[LnQ.nor,PtQ.dot] at hq
 rw[h] at hq⊢
 have:((0:Int):Rat)=0:=rfl
 rw[this] at hq⊢
 grind
theorem mem_ys{l:List LnQ}{a:LnQ}(h:a∈l)(hb:a.b≠0)(x:Rat):yA a x∈ysQ l x:=List.mem_filterMap.2 ⟨a,h,by rw[if_neg hb]⟩
theorem of_ys{l:List LnQ}{x y:Rat}(h:y∈ysQ l x): ∃a∈l,a.b≠0∧y=yA a x:=by
 obtain⟨a,ha,e⟩:=List.mem_filterMap.1 h
 split at e
 ·cases e
 ·rename_i hb;cases e;exact⟨a,ha,hb,rfl⟩
theorem mem_faces{l:List LnQ}{p:PtQ}:p∈facesQ l↔p.x∈gapsR (numsR (xsQ l))∧p.y∈gapsR (numsR (ysQ l p.x)):=by
 unfold facesQ
 rw[List.mem_flatMap]
 constructor
 ·rintro ⟨x,hx,hp⟩
  obtain⟨y,hy,rfl⟩:=List.mem_map.1 hp
  exact⟨hx,hy⟩
 ·rintro ⟨h1,h2⟩
  exact⟨p.x,h1,List.mem_map.2 ⟨p.y,h2,rfl⟩⟩
theorem faces_off{l:List LnQ}(hok: ∀a∈l,a.Ne){p:PtQ}(hp:p∈facesQ l):Off l p:=by
 obtain⟨h1,h2⟩:=mem_faces.1 hp
 have k1:=gaps_off (numsR_asc _) h1
 have k2:=gaps_off (numsR_asc _) h2
 rw[mem_numsR] at k1 k2
 obtain⟨x,y⟩:=p
 intro a ha h0
 by_cases hb:a.b=0
 ·rw[val_base (hok a ha) hb] at h0
  have ha0:(a.a:Rat)≠0:=fun e=>hok a ha ⟨Rat.intCast_eq_zero_iff.1 e,hb⟩
  apply k1
  have:x=a.base.x:=by
   rcases Rat.mul_eq_zero.1 h0 with h|h
   ·exact absurd h ha0
   ·grind
  show x∈_
  rw[this];exact mem_xs1 ha hb
 ·rw[val_yA hb] at h0
  have hb0:(a.b:Rat)≠0:=fun e=>hb (Rat.intCast_eq_zero_iff.1 e)
  apply k2
  have:y=yA a x:=by
   rcases Rat.mul_eq_zero.1 h0 with h|h
   ·exact absurd h hb0
   ·grind
  show y∈ysQ l x
  rw[this];exact mem_ys ha hb x
theorem avoid(xs:List Rat)(a e:Rat)(he:0<e): ∃d,0<d∧d≤e∧a+d∉xs:=by
 induction xs generalizing e with
 |nil=>exact⟨e,he,Rat.le_refl,by simp⟩
 |cons x t ih=>
  by_cases hx:a<x
  ·obtain⟨d,h1,h2,h3⟩:=ih (if e≤(x-a)/2 then e else(x-a)/2) (by split<;>grind)
   refine⟨d,h1,by split at h2<;>grind,fun hm=>?_⟩
   rcases List.mem_cons.1 hm with h|h
   ·split at h2<;>grind
   ·exact h3 h
  ·obtain⟨d,h1,h2,h3⟩:=ih e he
   refine⟨d,h1,h2,fun hm=>?_⟩
   rcases List.mem_cons.1 hm with h|h
   ·grind
   ·exact h3 h
def toward(l:LnQ)(p:PtQ):LnQ:=if 0<l.value p then l else l.rev
theorem toward_pos{l:LnQ}{p:PtQ}(h:l.value p≠0):0<(toward l p).value p:=by
 unfold toward;split
 ·assumption
 ·rw[val_rev];grind
theorem toward_iff{l:LnQ}{p q:PtQ}(h:l.value p≠0)(k:0<(toward l p).value q):0<l.value p↔0<l.value q:=by
 unfold toward at k;split at k
 ·rename_i h1;exact⟨fun _=>k,fun _=>h1⟩
 ·rename_i h1;rw[val_rev] at k;constructor<;>intro _<;>grind
theorem shift{l:List LnQ}{q:PtQ}(ho:Off l q)(xs:List Rat): ∃q':PtQ,(∀a∈l,0<a.value q↔0<a.value q')∧Off l q'∧q'.x∉xs:=by
 have hD:InD (l.map fun a=>⟨toward a q,IvQ.all⟩) q:=fun s hs=>by
  obtain⟨a,ha,rfl⟩:=List.mem_map.1 hs
  exact toward_pos (ho a ha)
 obtain⟨e,he,hm⟩:=hD.open ⟨1,0⟩
 obtain⟨d,h1,h2,h3⟩:=avoid xs q.x e he
 have hd:=hm d (Rat.le_of_lt h1) h2
 have key: ∀a∈l,0<(toward a q).value (movQ q ⟨1,0⟩ d):=fun a ha=>hd ⟨toward a q,IvQ.all⟩ (List.mem_map.2 ⟨a,ha,rfl⟩)
 refine⟨movQ q ⟨1,0⟩ d,fun a ha=>toward_iff (ho a ha) (key a ha),fun a ha h0=>?_,?_⟩
 ·have:=key a ha
  unfold toward at this
  split at this
  ·grind
  ·rw[val_rev] at this;grind
 ·show q.x+d*1∉xs
  rw[show d*1=d by grind];exact h3
theorem faces_hit{l:List LnQ}(hok: ∀a∈l,a.Ne){q:PtQ}(ho:Off l q): ∃p∈facesQ l,∀a∈l,0<a.value q↔0<a.value p:=by
 obtain⟨⟨qx,qy⟩,hs,ho2,hx⟩:=shift ho (xsQ l)
 obtain⟨x0,hx0,hr⟩:=gaps_rep (numsR_asc (xsQ l)) (v:=qx) (by rw[mem_numsR];exact hx)
 have hx0':=gaps_off (numsR_asc _) hx0
 rw[mem_numsR] at hx0'
 have hr': ∀u∈xsQ l,u<qx↔u<x0:=fun u hu=>hr u (mem_numsR.2 hu)
 -- the order on the vertical line is the same
 have order: ∀a∈l,∀b∈l,a.b≠0→b.b≠0→yA a qx<yA b qx→yA a x0<yA b x0:=by
  intro a ha b hb hab hbb hlt
  by_cases hc:crossI a b=0
  ·have e1:=cross_cast a b
   rw[hc] at e1
   have h0:((0:Int):Rat)=0:=rfl
   rw[h0] at e1
   have na:(a.b:Rat)≠0:=fun e=>hab (Rat.intCast_eq_zero_iff.1 e)
   have nb':(b.b:Rat)≠0:=fun e=>hbb (Rat.intCast_eq_zero_iff.1 e)
   have e2: ∀x,yA b x-yA a x=(a.c:Rat)/a.b-(b.c:Rat)/b.b:=fun x=>by
    unfold yA
    grind
   have:=e2 qx
   have:=e2 x0
   grind
  ·by_cases h:yA a x0<yA b x0
   ·exact h
   ·exfalso
    -- a crossing between
    generalize hA:yA b qx-yA a qx=A
    generalize hB:yA b x0-yA a x0=B
    have hAB:0<A-B:=by grind
    have e:A/(A-B)*(A-B)=A:=by grind
    generalize hR:A/(A-B)=r at*
    have r0:0<r:=(rat_mul_pos_iff hAB).1 (by rw[e];grind)
    have r1:r≤1:=by
     have:=(rat_mul_nonneg_iff (s:=1-r) hAB).1 (by grind)
     grind
    have na:(a.b:Rat)≠0:=fun e=>hab (Rat.intCast_eq_zero_iff.1 e)
    have nb':(b.b:Rat)≠0:=fun e=>hbb (Rat.intCast_eq_zero_iff.1 e)
    have lin: ∀c:LnQ,c.b≠0→yA c (qx+r*(x0-qx))=yA c qx+r*(yA c x0-yA c qx):=fun c hc=>by
     have:(c.b:Rat)≠0:=fun e=>hc (Rat.intCast_eq_zero_iff.1 e)
     unfold yA;grind
    have hz:yA a (qx+r*(x0-qx))=yA b (qx+r*(x0-qx)):=by
     rw[lin a hab,lin b hbb];grind
    generalize hzx:qx+r*(x0-qx)=z at*
    have hm:z∈xsQ l:=cross_mem (p:=⟨z,yA a z⟩) ha hb hc (by rw[val_yA hab];grind) (by rw[val_yA hbb,hz];grind)
    have hi:=hr' z hm
    have hne:z≠x0:=fun e=>hx0' (e▸hm)
    have hne2:z≠qx:=fun e=>hx (e▸hm)
    rcases rat_tri (x0-qx) with k|k|k
    ·apply hne2;rw[←hzx,k];grind
    ·have p1:=rat_mul_pos r0 k
     have p2:=rat_mul_nonneg (a:=1-r) (b:=x0-qx) (by grind) (Rat.le_of_lt k)
     have:z<x0:=by grind
     have:=hi.2 this
     grind
    ·have p1:=rat_mul_pos r0 (b:=qx-x0) (by grind)
     have p2:=rat_mul_nonneg (a:=1-r) (b:=qx-x0) (by grind) (by grind)
     have:z<qx:=by grind
     have:=hi.1 this
     grind
 -- a height between the lower and the upper lines
 obtain⟨y',hy1,hy2⟩:=between ((l.filter fun(a:LnQ)=>decide (a.b≠0∧yA a qx<qy)).map fun(a:LnQ)=>yA a x0) ((l.filter fun(a:LnQ)=>decide (a.b≠0∧qy<yA a qx)).map fun(a:LnQ)=>yA a x0) (fun u hu v hv=>by
  obtain⟨a,ha,rfl⟩:=List.mem_map.1 hu
  obtain⟨b,hb,rfl⟩:=List.mem_map.1 hv
  simp only[List.mem_filter,decide_eq_true_eq] at ha hb
  exact order a ha.1 b hb.1 ha.2.1 hb.2.1 (by have:=ha.2.2;have:=hb.2.2;grind))
 have tri: ∀a∈l,a.b≠0→yA a qx<qy∨qy<yA a qx:=fun a ha hb=>by
  have h1:=ho2 a ha
  rw[val_yA hb] at h1
  have:qy≠yA a qx:=fun e=>h1 (by rw[e];grind)
  grind
 have low: ∀a∈l,a.b≠0→yA a qx<qy→yA a x0<y':=fun a ha hb h=>hy1 _ (List.mem_map.2 ⟨a,by simp only[List.mem_filter,decide_eq_true_eq];exact⟨ha,hb,h⟩,rfl⟩)
 have upp: ∀a∈l,a.b≠0→qy<yA a qx→y'<yA a x0:=fun a ha hb h=>hy2 _ (List.mem_map.2 ⟨a,by simp only[List.mem_filter,decide_eq_true_eq];exact⟨ha,hb,h⟩,rfl⟩)
 have hy':y'∉ysQ l x0:=fun hm=>by
  obtain⟨a,ha,hb,e⟩:=of_ys hm
  rcases tri a ha hb with h|h
  ·have:=low a ha hb h;grind
  ·have:=upp a ha hb h;grind
 obtain⟨y0,hy0,hry⟩:=gaps_rep (numsR_asc (ysQ l x0)) (v:=y') (by rw[mem_numsR];exact hy')
 have hy0':=gaps_off (numsR_asc _) hy0
 rw[mem_numsR] at hy0'
 refine⟨⟨x0,y0⟩,mem_faces.2 ⟨hx0,hy0⟩,fun a ha=>?_⟩
 rw[hs a ha]
 by_cases hb:a.b=0
 ·rw[val_base (hok a ha) hb,val_base (hok a ha) hb]
  have hi:=hr' _ (mem_xs1 ha hb)
  have n1:a.base.x≠qx:=fun e=>hx (e▸mem_xs1 ha hb)
  have n2:a.base.x≠x0:=fun e=>hx0' (e▸mem_xs1 ha hb)
  have ha0:(a.a:Rat)≠0:=fun e=>hok a ha ⟨Rat.intCast_eq_zero_iff.1 e,hb⟩
  generalize a.base.x=u at*
  generalize (a.a:Rat)=A at*
  by_cases h1:u<qx
  ·have h2:=hi.1 h1
   rw[rat_mul_pos_iff (k:=qx-u) (by grind),rat_mul_pos_iff (k:=x0-u) (by grind)]
  ·have h2: ¬u<x0:=fun e=>h1 (hi.2 e)
   have e1:A*(qx-u)=(-A)*(u-qx):=by grind
   have e2:A*(x0-u)=(-A)*(u-x0):=by grind
   rw[e1,e2,rat_mul_pos_iff (k:=u-qx) (by grind),rat_mul_pos_iff (k:=u-x0) (by grind)]
 ·rw[val_yA hb,val_yA hb]
  have hi:=hry (yA a x0) (mem_numsR.2 (mem_ys ha hb x0))
  have n2:yA a x0≠y0:=fun e=>hy0' (e▸mem_ys ha hb x0)
  have lo:=low a ha hb
  have up:=upp a ha hb
  have tri:=tri a ha hb
  generalize yA a x0=v at*
  generalize yA a qx=u at*
  generalize (a.b:Rat)=B at*
  rcases tri with h|h
  ·have h3:=hi.1 (lo h)
   rw[rat_mul_pos_iff (k:=qy-u) (by grind),rat_mul_pos_iff (k:=y0-v) (by grind)]
  ·have h3:=up h
   have h4: ¬v<y0:=fun e=>by have:=hi.2 e;grind
   have e1:B*(qy-u)=(-B)*(u-qy):=by grind
   have e2:B*(y0-v)=(-B)*(v-y0):=by grind
   rw[e1,e2,rat_mul_pos_iff (k:=u-qy) (by grind),rat_mul_pos_iff (k:=v-y0) (by grind)]
end Go.Sx
end

section
set_option maxRecDepth 100000
namespace Go.Sx
open Go Go.Proofs
def endS(out:List Rat)(s:IvQ):List Rat:=if s.nh then(if s.nl then out else insR s.lo out) else insR s.hi (if s.nl then out else insR s.lo out)
def endsQ(l:List IvQ):List Rat:=l.foldl endS []
def clsQ:List IvQ→Rat→Int
 |[],_=>0
 |s::t,x=>
  let a:=if s.nl then 1 else rcmp x s.lo
  let b:=if s.nh then-1 else rcmp x s.hi
  if 0<a∧b<0 then 2 else if(a=0∧b≤0)∨(b=0∧0≤a) then 1 else clsQ t x
def insQ2(l:List IvQ)(x:Rat):Bool:=decide (clsQ l x=2)
def gapI(cuts:List Rat)(i:Nat):IvQ:=⟨if i=0 then 0 else cuts.getD (i-1) 0,if i<cuts.length then cuts.getD i 0 else 0,decide (i=0),decide (i=cuts.length)⟩
def setHi(v w:IvQ):IvQ:=⟨v.lo,w.hi,v.nl,w.nh⟩
def fromN(cuts:List Rat)(marks:List Bool):Nat→List IvQ
 |0=>[]
 |k+1=>
  let out:=fromN cuts marks k
  if marks.getD k false then
   (if 0<k∧marks.getD (k-1) false=true then(match out.getLast? with
    |some v=>out.dropLast++[setHi v (gapI cuts k)]
    |none=>out++[gapI cuts k]) else out++[gapI cuts k])
  else out
def fromQ(cuts:List Rat)(marks:List Bool):List IvQ:=fromN cuts marks marks.length
def markQ(op:Int)(x y:Bool):Bool:=if op=2 then x&&y else if op=3 then x&&!y else if op=4 then x !=y else x||y
def combQ(op:Int)(a b:List IvQ):List IvQ:=fromQ (endsQ (a++b)) ((gapsR (endsQ (a++b))).map fun t=>markQ op (insQ2 a t) (insQ2 b t))
def halfQ(l m:LnQ)(side:Int):List IvQ:=
 if crossI l m=0 then(if(m.value l.base).num.sign=side then [IvQ.all] else [])
 else if(m.value (l.at (paramQ l (meetP l m)+1))).num.sign=side then [⟨paramQ l (meetP l m),0,false,true⟩] else [⟨0,paramQ l (meetP l m),true,false⟩]
def onB(l m:LnQ):Bool:=decide (crossI l m=0∧(m.value l.base).num.sign=0)
def splitS(f:FrQ)(m:LnQ)(side:Int):List FrQ:=if onB f.l m then [] else(combQ 2 [f.v] (halfQ f.l m side)).map fun v=>⟨f.l,v⟩
theorem endsQ_spec(l:List IvQ):(endsQ l).Pairwise (· < ·)∧ ∀y∈endsQ l,∃s∈l,(s.nl=false∧y=s.lo)∨(s.nh=false∧y=s.hi):=by
 have key: ∀(l:List IvQ) (o:List Rat),o.Pairwise (· < ·)→(l.foldl endS o).Pairwise (· < ·)∧ ∀y∈l.foldl endS o,y∈o∨ ∃s∈l,(s.nl=false∧y=s.lo)∨(s.nh=false∧y=s.hi):=by
  intro l
  induction l with
  |nil=>intro o h;exact⟨h,fun y hy=> .inl hy⟩
  |cons s t ih=>
   intro o h
   have h1:(endS o s).Pairwise (· < ·)∧ ∀y∈endS o s,y∈o∨(s.nl=false∧y=s.lo)∨(s.nh=false∧y=s.hi):=by
    unfold endS
    cases e1:s.nl<;>cases e2:s.nh<;>simp only[if_true,Bool.false_eq_true,if_false]
    ·refine⟨insR_asc (insR_asc h),fun y hy=>?_⟩
     rcases mem_insR.1 hy with h|h
     ·exact .inr (.inr ⟨trivial,h⟩)
     ·rcases mem_insR.1 h with h|h
      ·exact .inr (.inl ⟨trivial,h⟩)
      ·exact .inl h
    ·refine⟨insR_asc h,fun y hy=>?_⟩
     rcases mem_insR.1 hy with h|h
     ·exact .inr (.inl ⟨trivial,h⟩)
     ·exact .inl h
    ·refine⟨insR_asc h,fun y hy=>?_⟩
     rcases mem_insR.1 hy with h|h
     ·exact .inr (.inr ⟨trivial,h⟩)
     ·exact .inl h
    ·exact⟨h,fun y hy=> .inl hy⟩
   obtain⟨k1,k2⟩:=ih (endS o s) h1.1
   refine⟨k1,fun y hy=>?_⟩
   rcases k2 y hy with h2|⟨q,hq,h2⟩
   ·rcases h1.2 y h2 with h3|h3
    ·exact .inl h3
    ·exact .inr ⟨s,List.mem_cons_self,h3⟩
   ·exact .inr ⟨q,List.mem_cons_of_mem _ hq,h2⟩
 have:=key l [] List.Pairwise.nil
 refine⟨this.1,fun y hy=>?_⟩
 rcases this.2 y hy with h|h
 ·cases h
 ·exact h
structure IvIn (cuts:List Rat) (v:IvQ):Prop where
 z:IvZ v
 lo:v.nl=true∨v.lo∈cuts
 hi:v.nh=true∨v.hi∈cuts
theorem gapI_in{cuts:List Rat}{i:Nat}(h:i≤cuts.length):IvIn cuts (gapI cuts i):=by
 unfold gapI
 refine⟨⟨fun e=>?_,fun e=>?_⟩,?_,?_⟩
 ·simp only[decide_eq_true_eq] at e;simp[e]
 ·simp only[decide_eq_true_eq] at e;simp[e]
 ·by_cases h0:i=0
  ·left;simp[h0]
  ·right
   simp only[if_neg h0]
   rw[List.getD_eq_getElem?_getD,List.getElem?_eq_getElem (by omega)]
   exact List.getElem_mem _
 ·by_cases h0:i=cuts.length
  ·left;simp[h0]
  ·right
   simp only[if_pos (show i<cuts.length by omega)]
   rw[List.getD_eq_getElem?_getD,List.getElem?_eq_getElem (by omega)]
   exact List.getElem_mem _
theorem fromN_in{cuts:List Rat}{marks:List Bool}: ∀{k:Nat},k≤cuts.length+1→ ∀v∈fromN cuts marks k,IvIn cuts v
 |0,_,v,hv=>by cases hv
 |k+1,hk,v,hv=>by
  have ih:=fromN_in (cuts:=cuts) (marks:=marks) (k:=k) (by omega)
  have hg:=gapI_in (cuts:=cuts) (i:=k) (by omega)
  rw[fromN] at hv
  split at hv
  ·split at hv
   ·split at hv
    ·rename_i w hw
     rcases List.mem_append.1 hv with h|h
     ·exact ih v ((List.dropLast_sublist _).subset h)
     ·rw[List.mem_singleton] at h;subst h
      have hw':=ih w (List.mem_of_getLast? hw)
      exact⟨⟨hw'.z.1,hg.z.2⟩,hw'.lo,hg.hi⟩
    ·rcases List.mem_append.1 hv with h|h
     ·exact ih v h
     ·rw[List.mem_singleton] at h;subst h;exact hg
   ·rcases List.mem_append.1 hv with h|h
    ·exact ih v h
    ·rw[List.mem_singleton] at h;subst h;exact hg
  ·exact ih v hv
theorem gapsR_len{l:List Rat}:(gapsR l).length=l.length+1:=by
 have key: ∀(l:List Rat) (a:Rat),(midsR (a::l)).length=l.length:=by
  intro l
  induction l with
  |nil=>intro a;rfl
  |cons b t ih=>intro a;rw[midsR,List.length_cons,ih b,List.length_cons]
 cases l with
 |nil=>rfl
 |cons a t=>rw[gapsR,List.length_cons,List.length_append,key];simp
theorem combQ_in{op:Int}{a b:List IvQ}: ∀v∈combQ op a b,IvIn (endsQ (a++b)) v:=fun v hv=>by
 unfold combQ fromQ at hv
 refine fromN_in ?_ v hv
 rw[List.length_map,gapsR_len];omega
theorem fromN_len{cuts:List Rat}{marks:List Bool}: ∀{k:Nat},(fromN cuts marks k).length≤k
 |0=>Nat.le_refl _
 |k+1=>by
  have ih:=fromN_len (cuts:=cuts) (marks:=marks) (k:=k)
  rw[fromN]
  split
  ·split
   ·split
    ·rename_i w hw
     have:=List.length_pos_of_mem (List.mem_of_getLast? hw)
     rw[List.length_append,List.length_dropLast];simp;omega
    ·rw[List.length_append];simp;omega
   ·rw[List.length_append];simp;omega
  ·omega
structure FOk (f:FrQ):Prop where
 lb:LB f.l
 ok:f.l.ok
 z:IvZ f.v
 lo:BQ f.v.lo 1200
 hi:BQ f.v.hi 1200
theorem BQ.zero1200:BQ (0:Rat) 1200:=BQ.mono (k:=1) ⟨by decide,by decide⟩ (by decide)
theorem half_bd{l m:LnQ}(hl:LB l)(hm:LB m)(hlo:l.ok){side:Int}: ∀v∈halfQ l m side,IvZ v∧BQ v.lo 1200∧BQ v.hi 1200:=fun v hv=>by
 unfold halfQ at hv
 split at hv
 ·split at hv
  ·rw[List.mem_singleton] at hv;subst hv;exact⟨IvZ.all,BQ.zero1200,BQ.zero1200⟩
  ·cases hv
 ·rename_i hc
  have:=param_bd hlo.ne hc
  split at hv
  ·rw[List.mem_singleton] at hv;subst hv;exact⟨⟨fun h=>(by cases h),fun _=>rfl⟩,this,BQ.zero1200⟩
  ·rw[List.mem_singleton] at hv;subst hv;exact⟨⟨fun _=>rfl,fun h=>(by cases h)⟩,BQ.zero1200,this⟩
theorem split_ok{f:FrQ}{m:LnQ}(h:FOk f)(hm:LB m){side:Int}: ∀g∈splitS f m side,FOk g∧g.l=f.l∧onB f.l m=false:=fun g hg=>by
 unfold splitS at hg
 split at hg
 ·cases hg
 ·rename_i ho
  obtain⟨v,hv,rfl⟩:=List.mem_map.1 hg
  have hi:=combQ_in v hv
  have bd: ∀y∈endsQ ([f.v]++halfQ f.l m side),BQ y 1200:=fun y hy=>by
   obtain⟨s,hs,h1⟩:=(endsQ_spec _).2 y hy
   rcases List.mem_append.1 hs with hs|hs
   ·rw[List.mem_singleton] at hs;subst hs
    rcases h1 with⟨_,rfl⟩|⟨_,rfl⟩
    ·exact h.lo
    ·exact h.hi
   ·have:=half_bd h.lb hm h.ok s hs
    rcases h1 with⟨_,rfl⟩|⟨_,rfl⟩
    ·exact this.2.1
    ·exact this.2.2
  refine⟨⟨h.lb,h.ok,hi.z,?_,?_⟩,rfl,by simpa using ho⟩
  ·rcases hi.lo with e|e
   ·rw[hi.z.1 e];exact BQ.zero1200
   ·exact bd _ e
  ·rcases hi.hi with e|e
   ·rw[hi.z.2 e];exact BQ.zero1200
   ·exact bd _ e
def rawT(acc:PtQ→Bool):Nat→List FrQ→List LnQ→Tr
 |_,[],c=> .leaf (acc (innerP c c))
 |0,_::_,_=> .leaf false
 |n+1,f::t,c=> .node f.l (rawT acc n ((f::t).flatMap fun g=>splitS g f.l 1) (c++[f.l])) (rawT acc n ((f::t).flatMap fun g=>splitS g f.l (-1)) (c++[f.l.rev]))
theorem splitS_l{f g:FrQ}{m:LnQ}{side:Int}(h:g∈splitS f m side):g.l=f.l:=by
 unfold splitS at h
 split at h
 ·cases h
 ·obtain⟨v,_,rfl⟩:=List.mem_map.1 h;rfl
theorem rawT_all{acc:PtQ→Bool}{P:LnQ→Prop}: ∀{n:Nat} {l:List FrQ} {c:List LnQ},(∀f∈l,P f.l)→(rawT acc n l c).all P
 |n,[],c,_=>by unfold rawT;trivial
 |0,_::_,_,_=>by unfold rawT;trivial
 |n+1,f::t,c,h=>by
  rw[rawT]
  refine⟨h f List.mem_cons_self,rawT_all fun g hg=>?_,rawT_all fun g hg=>?_⟩<;>
  ·obtain⟨q,hq,hg⟩:=List.mem_flatMap.1 hg
   rw[splitS_l hg];exact h q hq
theorem rawT_depth{acc:PtQ→Bool}: ∀{n:Nat} {l:List FrQ} {c:List LnQ},(rawT acc n l c).depth≤n
 |n,[],c=>by unfold rawT;exact Nat.zero_le _
 |0,_::_,_=>by unfold rawT;exact Nat.zero_le _
 |n+1,f::t,c=>by
  rw[rawT,Tr.depth]
  have h1:=rawT_depth (acc:=acc) (n:=n) (l:=(f::t).flatMap fun g=>splitS g f.l 1) (c:=c++[f.l])
  have h2:=rawT_depth (acc:=acc) (n:=n) (l:=(f::t).flatMap fun g=>splitS g f.l (-1)) (c:=c++[f.l.rev])
  omega
def Few(n:Nat)(l:List FrQ):Prop:= ∃K:List LnQ,K.length≤n∧ ∀f∈l,∃m∈K,m.same f.l
theorem val_selfbase{m:LnQ}(hm:m.Ne):m.value m.base=0:=by
 have h:=at_self hm 0
 rw[←at_ref,val_mov] at h
 grind
theorem onB_same{l m:LnQ}(h:l.same m)(hm:m.Ne):onB m l=true:=by
 unfold onB
 rw[decide_eq_true_iff]
 refine⟨?_,?_⟩
 ·rcases h with rfl|rfl
  ·unfold crossI;omega
  ·unfold crossI LnQ.rev
   show(-l.a)*l.b-l.a*(-l.b)=0
   grind
 ·rw[sgn_zero]
  exact val_same h.symm (val_selfbase hm)
theorem Few.split{n:Nat}{f:FrQ}{t:List FrQ}(h:Few (n+1) (f::t))(hok: ∀g∈f::t,FOk g){side:Int}:Few n ((f::t).flatMap fun g=>splitS g f.l side):=by
 obtain⟨K,hK,hs⟩:=h
 refine⟨K.filter fun m=>!decide (m.same f.l),?_,fun g hg=>?_⟩
 ·obtain⟨m,hm,hm2⟩:=hs f List.mem_cons_self
  have:(K.filter fun m=>!decide (m.same f.l)).length<K.length:=by
   refine List.length_filter_lt_length_iff_exists.2 ⟨m,hm,by simp[hm2]⟩
  omega
 ·obtain⟨q,hq,hg⟩:=List.mem_flatMap.1 hg
  obtain⟨_,e,ho⟩:=split_ok (hok q hq) (hok f List.mem_cons_self).lb g hg
  obtain⟨m,hm,hm2⟩:=hs q hq
  refine⟨m,List.mem_filter.2 ⟨hm,?_⟩,by rw[e];exact hm2⟩
  simp only[Bool.not_eq_true',decide_eq_false_iff_not]
  intro h
  have:=onB_same (h.symm.trans hm2) (hok q hq).ok.ne
  rw[this] at ho;cases ho
end Go.Sx
end

section
set_option maxRecDepth 100000
namespace Go.Sx
open Go Go.Proofs
theorem mkl_ok{p q r:Bool}{a b c:Nat}(h:Nat.gcd a b≠0):LnQ.ok ⟨zv p (a/Nat.gcd (Nat.gcd a b) c),zv q (b/Nat.gcd (Nat.gcd a b) c),zv r (c/Nat.gcd (Nat.gcd a b) c)⟩:=by
 have hg:0<Nat.gcd (Nat.gcd a b) c:=Nat.gcd_pos_of_pos_left _ (Nat.pos_of_ne_zero h)
 have d0:Nat.gcd (Nat.gcd a b) c∣Nat.gcd a b:=Nat.gcd_dvd_left _ _
 have d1:Nat.gcd (Nat.gcd a b) c∣a:=Nat.dvd_trans d0 (Nat.gcd_dvd_left _ _)
 have d2:Nat.gcd (Nat.gcd a b) c∣b:=Nat.dvd_trans d0 (Nat.gcd_dvd_right _ _)
 have d3:Nat.gcd (Nat.gcd a b) c∣c:=Nat.gcd_dvd_right _ _
 refine⟨?_,?_⟩
 ·rintro ⟨h1,h2⟩
  have h1':=congrArg Int.natAbs h1
  have h2':=congrArg Int.natAbs h2
  simp only[zv_abs,Int.natAbs_zero] at h1' h2'
  have e1:=Nat.div_mul_cancel d1
  have e2:=Nat.div_mul_cancel d2
  rw[h1',Nat.zero_mul] at e1
  rw[h2',Nat.zero_mul] at e2
  exact h (by rw[←e1,←e2];rfl)
 ·simp only[zv_abs]
  rw[Nat.gcd_div d1 d2,Nat.gcd_div d0 d3,Nat.div_self hg]
theorem mkl_le(p:Bool)(a g:Nat):(zv p (a/g)).natAbs≤a:=by rw[zv_abs];exact Nat.div_le_self ..
theorem PF.eq{GB:Gh}{P:Program}{f:FuncId}{vs:List DV}{r r':DV}(h:PF GB P f vs r)(e:r=r'):PF GB P f vs r':=e▸h
def iP(m n:Int):PtQ:=⟨(m:Rat),(n:Rat)⟩
theorem biOf{m:Int}{k:Nat}(h:m.natAbs<2^k):BI m k:=⟨h⟩
theorem biC{m:Int}{k:Nat}(h:m.natAbs≤1000)(hk:10≤k):BI m k:=⟨Nat.lt_of_lt_of_le (show m.natAbs<2^10 by omega) (Nat.pow_le_pow_right (by decide) hk)⟩
instance BPt.int (m n:Int) (i:Nat) [h:BI m i] [k:BI n i]:BPt (iP m n) (i+1):=⟨inferInstanceAs (BQ (m:Rat) (i+1)),inferInstanceAs (BQ (n:Rat) (i+1))⟩
theorem eQI{q:Rat}{k:Int}(h:q=(k:Rat)):eQ q=eQ (k:Rat):=by rw[h]
theorem ePI{p:PtQ}{m n:Int}(h1:p.x=(m:Rat))(h2:p.y=(n:Rat)):eP p=eP (iP m n):=by
 obtain⟨x,y⟩:=p
 simp only at h1 h2
 subst h1 h2
 rfl
def mkL(a b c:Int):LnQ:=
 ⟨zv (decide (a<0)) (a.natAbs/Nat.gcd (Nat.gcd a.natAbs b.natAbs) c.natAbs),zv (decide (b<0)) (b.natAbs/Nat.gcd (Nat.gcd a.natAbs b.natAbs) c.natAbs),zv (decide (c<0)) (c.natAbs/Nat.gcd (Nat.gcd a.natAbs b.natAbs) c.natAbs)⟩
theorem mkL_ok{a b c:Int}(h: ¬(a=0∧b=0)):(mkL a b c).ok:=
 mkl_ok fun e=>h ⟨Int.natAbs_eq_zero.1 (Nat.eq_zero_of_gcd_eq_zero_left e),Int.natAbs_eq_zero.1 (Nat.eq_zero_of_gcd_eq_zero_right e)⟩
theorem mkL_le(a b c:Int):(mkL a b c).a.natAbs≤a.natAbs∧(mkL a b c).b.natAbs≤b.natAbs∧(mkL a b c).c.natAbs≤c.natAbs:=⟨mkl_le ..,mkl_le ..,mkl_le ..⟩
theorem q_Xy{GB:Gh}{m n:Int}(hm:m.natAbs≤1000)(hn:n.natAbs≤1000):PF GB Tryz.prog 62 [.v (.int .i64 m), .v (.int .i64 n)] (eP (iP m n)):=by
 refine fn Tryz.func62 J J Tryz.ntmps62 J J (fun C=>?_)
 refine cl rfl (q_Of (n:=m) (by omega) (by omega)) rfl<|cl rfl (q_Of (n:=n) (by omega) (by omega)) rfl<|?_
 exact rz J J
theorem q_AddI{GB:Gh}{m n m' n' k:Int}(hm:m.natAbs≤1000)(hn:n.natAbs≤1000)(hm':m'.natAbs≤1000)(hn':n'.natAbs≤1000)(hk:k.natAbs≤1000):PF GB Tryz.prog 64 [eP (iP m n),eQ (k:Rat),eP (iP m' n')] (eP (iP (m+k*m') (n+k*n'))):=by
 haveI:=biC (k:=10) hm (by decide)
 haveI:=biC (k:=10) hn (by decide)
 haveI:=biC (k:=10) hm' (by decide)
 haveI:=biC (k:=10) hn' (by decide)
 haveI:=biC (k:=10) hk (by decide)
 exact PF.eq (q_PAdd (p:=iP m n) (q:=iP m' n') (c:=(k:Rat))) (ePI (by show(m:Rat)+(k:Rat)*(m':Rat)=_;push_cast;rfl) (by show(n:Rat)+(k:Rat)*(n':Rat)=_;push_cast;rfl))
theorem q_SubI{GB:Gh}{m n m' n':Int}(hm:m.natAbs≤1000)(hn:n.natAbs≤1000)(hm':m'.natAbs≤1000)(hn':n'.natAbs≤1000):PF GB Tryz.prog 116 [eP (iP m n),eP (iP m' n')] (eP (iP (m-m') (n-n'))):=by
 refine fn Tryz.func116 J J Tryz.ntmps116 J J (fun C=>?_)
 refine cl rfl (q_Of (n:= -1) (by decide) (by decide)) rfl<|cl rfl (q_AddI (m:=m) (n:=n) (m':=m') (n':=n') (k:= -1) hm hn hm' hn' (by decide)) rfl<|?_
 exact rz rfl (by rw[show m-m'=m+ -1*m' by omega,show n-n'=n+ -1*n' by omega];rfl)
theorem q_SameI'{GB:Gh}{m n m' n':Int}(hm:m.natAbs≤1000)(hn:n.natAbs≤1000)(hm':m'.natAbs≤1000)(hn':n'.natAbs≤1000):PF GB Tryz.prog 125 [eP (iP m n),eP (iP m' n')] (.v (.bool (decide (m=m'∧n=n')))):=by
 haveI:=biC (k:=10) hm (by decide)
 haveI:=biC (k:=10) hn (by decide)
 haveI:=biC (k:=10) hm' (by decide)
 haveI:=biC (k:=10) hn' (by decide)
 refine fn Tryz.func125 J J Tryz.ntmps125 J J (fun C=>?_)
 refine cl rfl (q_C (a:=(m:Rat)) (b:=(m':Rat))) rfl<|?_
 refine cs 11 J J J (fun hg11=>?_) (fun hg11=>?_)
 ·
  refine cl rfl (q_C (a:=(n:Rat)) (b:=(n':Rat))) rfl<|?_
  exact rz rfl (by rw[rcmp_eq] at hg11;have e:m=m':=(by exact_mod_cast hg11);exact congrArg (fun z=>DV.v (.bool z)) (decide_eq_decide.2 (by rw[rcmp_eq,Rat.intCast_inj];simp[e])))
 ·
  exact rz rfl (by rw[rcmp_eq] at hg11;have e: ¬m=m':=(fun e=>hg11 (by rw[e]));show DV.v (.bool false)=DV.v (.bool _);rw[decide_eq_false (fun h=>e h.1)])
theorem gcd_ltk{a b k:Nat}(ha:a<k)(hb:b<k):Nat.gcd a b<k:=by
 rcases Nat.eq_zero_or_pos a with rfl|p
 ·simpa using hb
 ·exact Nat.lt_of_le_of_lt (Nat.gcd_le_left b p) ha
set_option maxHeartbeats 1000000 in
theorem q_MakeL{GB:Gh}{a b c:Int}{i:Nat}(ha:BI a i)(hb:BI b i)(hc:BI c i)(hi:i≤100000000)(h0: ¬(a=0∧b=0)):PF GB Tryz.prog 123 [eI a,eI b,eI c] (.tp [eL (mkL a b c), .v (.bool true)]):=by
 have hgn:Nat.gcd a.natAbs b.natAbs≠0:=fun h=>h0 ⟨Int.natAbs_eq_zero.1 (Nat.eq_zero_of_gcd_eq_zero_left h),Int.natAbs_eq_zero.1 (Nat.eq_zero_of_gcd_eq_zero_right h)⟩
 have hgp:0<Nat.gcd (Nat.gcd a.natAbs b.natAbs) c.natAbs:=Nat.gcd_pos_of_pos_left _ (Nat.pos_of_ne_zero hgn)
 haveI hb1:BN (Nat.gcd a.natAbs b.natAbs) i:=⟨gcd_ltk ha.h hb.h⟩
 haveI hb2:BN (Nat.gcd (Nat.gcd a.natAbs b.natAbs) c.natAbs) i:=⟨gcd_ltk hb1.h hc.h⟩
 refine fn Tryz.func123 J J Tryz.ntmps123 J J (fun C=>?_)
 refine cl rfl (q_Common (a:=a.natAbs) (b:=b.natAbs) (by omega) (by omega)) rfl<|?_
 refine br J J J (fun hc22=>?_) (fun hc22=>?_)
 ·
  exact absurd hc22 (by rw[List.length_map];intro h;exact hgn (dg_len_zero.1 (by omega)))
 ·
  refine cl rfl (q_Common (a:=Nat.gcd a.natAbs b.natAbs) (b:=c.natAbs) (by omega) (by omega)) rfl<|cl rfl (q_Divide (a:=a.natAbs) (b:=Nat.gcd (Nat.gcd a.natAbs b.natAbs) c.natAbs) hgp (by omega) (by omega)) rfl<|?_
  refine cl rfl (q_Divide (a:=b.natAbs) (b:=Nat.gcd (Nat.gcd a.natAbs b.natAbs) c.natAbs) hgp (by omega) (by omega)) rfl<|cl rfl (q_Divide (a:=c.natAbs) (b:=Nat.gcd (Nat.gcd a.natAbs b.natAbs) c.natAbs) hgp (by omega) (by omega)) rfl<|?_
  refine cl rfl (q_Make (m:=a.natAbs/(Nat.gcd (Nat.gcd a.natAbs b.natAbs) c.natAbs)) (neg:=decide (a<0))) rfl<|cl rfl (q_Make (m:=b.natAbs/(Nat.gcd (Nat.gcd a.natAbs b.natAbs) c.natAbs)) (neg:=decide (b<0))) rfl<|?_
  refine cl rfl (q_Make (m:=c.natAbs/(Nat.gcd (Nat.gcd a.natAbs b.natAbs) c.natAbs)) (neg:=decide (c<0))) rfl<|?_
  exact rz J J
def thrA(n n':Int):Int:= -(n'-n)
def thrB(m m':Int):Int:=m'-m
def thrC(m n m' n':Int):Int:= -(thrA n n'*m+thrB m m'*n)
def thrL(m n m' n':Int):LnQ:=mkL (thrA n n') (thrB m m') (thrC m n m' n')
theorem mul_le_mil{a b:Int}(ha:a.natAbs≤2000)(hb:b.natAbs≤1000):(a*b).natAbs≤2000000:=by
 rw[Int.natAbs_mul];exact Nat.mul_le_mul ha hb
set_option maxHeartbeats 2000000 in
theorem q_Through{GB:Gh}{m n m' n':Int}(hm:m.natAbs≤1000)(hn:n.natAbs≤1000)(hm':m'.natAbs≤1000)(hn':n'.natAbs≤1000)(h0: ¬(m=m'∧n=n')):PF GB Tryz.prog 61 [eP (iP m n),eP (iP m' n')] (.tp [eL (thrL m n m' n'), .v (.bool true)]):=by
 obtain⟨a,hA⟩: ∃a,a=thrA n n':=⟨_,rfl⟩
 obtain⟨b,hB⟩: ∃b,b=thrB m m':=⟨_,rfl⟩
 have hA':a= -(n'-n):=hA
 have hB':b=m'-m:=hB
 obtain⟨c,hC⟩: ∃c,c= -(a*m+b*n):=⟨_,rfl⟩
 have e1:=mul_le_mil (a:=a) (b:=m) (by omega) hm
 have e2:=mul_le_mil (a:=b) (b:=n) (by omega) hn
 haveI hm0:=biC (k:=10) hm (by decide)
 haveI hn0:=biC (k:=10) hn (by decide)
 haveI ha:BI a 30:=biOf (by omega)
 haveI hb:BI b 30:=biOf (by omega)
 haveI hc:BI c 30:=biOf (by omega)
 have hthr:thrL m n m' n'=mkL a b c:=by rw[hC,hA,hB];rfl
 have hne: ¬(a=0∧b=0):=fun h=>h0 (by omega)
 refine fn Tryz.func61 J J Tryz.ntmps61 J J (fun C=>?_)
 refine cl rfl (q_SubI (m:=m') (n:=n') (m':=m) (n':=n) hm' hn' hm hn) rfl<|cl rfl (PF.eq (q_Opp (q:=(((n'-n):Int):Rat))) (eQI (k:=a) (by rw[hA'];push_cast;rfl))) rfl<|?_
 refine cl rfl (PF.eq (q_Times (a:=(a:Rat)) (b:=(m:Rat))) (eQI (k:=a*m) (by push_cast;rfl))) rfl<|cl rfl (PF.eq (by haveI:BI (m'-m) 30:=(by rw[←hB'];exact hb);exact q_Times (a:=(((m'-m):Int):Rat)) (b:=(n:Rat))) (eQI (k:=b*n) (by rw[hB'];push_cast;rfl))) rfl<|?_
 refine cl rfl (PF.eq (q_Plus (a:=((a*m:Int):Rat)) (b:=((b*n:Int):Rat))) (eQI (k:=a*m+b*n) (by push_cast;rfl))) rfl<|cl rfl (PF.eq (q_Opp (q:=((a*m+b*n:Int):Rat))) (eQI (k:=c) (by rw[hC];push_cast;rfl))) rfl<|?_
 refine cl rfl (q_Den (q:=(a:Rat))) rfl<|cl rfl (q_Den (q:=(((m'-m):Int):Rat))) rfl<|cl rfl (PF.eq (q_Product (a:=1) (b:=1)) rfl) rfl<|?_
 refine cl rfl (q_Den (q:=(c:Rat))) rfl<|cl rfl (PF.eq (q_Product (a:=1) (b:=1)) rfl) rfl<|cl (fu:=⟨1⟩) rfl (q_Make (neg:=false) (m:=1)) rfl<|?_
 refine eqF 40 (.d (eQ ((1:Int):Rat))) J J ?_
 refine gx rfl<|cl rfl (PF.eq (q_Times (a:=(a:Rat)) (b:=((1:Int):Rat))) (eQI (k:=a) (by push_cast;grind))) rfl<|cl rfl (PF.eq (by haveI:BI (m'-m) 30:=(by rw[←hB'];exact hb);exact q_Times (a:=(((m'-m):Int):Rat)) (b:=((1:Int):Rat))) (eQI (k:=b) (by rw[hB'];push_cast;grind))) rfl<|?_
 refine cl rfl (PF.eq (q_Times (a:=(c:Rat)) (b:=((1:Int):Rat))) (eQI (k:=c) (by push_cast;grind))) rfl<|cl rfl (q_MakeL (a:=a) (b:=b) (c:=c) ha hb hc (by decide) hne) rfl<|?_
 exact rz rfl (by rw[hthr];rfl)
end Go.Sx
end

section
set_option maxRecDepth 100000
namespace Go.Sx
open Go Go.Proofs
theorem mapI_get{es:List Int}{a:Nat}(h:a<es.length):(es.map vI)[(a:Int).toNat]? =some (vI es[a]):=by simp[h]
theorem eP_zeroI:eP (iP 0 0)= .ag [.v (.bool false), .sl [], .sl [], .v (.bool false), .sl [], .sl []]:=by
 unfold eP iP
 simp[dN_zero,dD]
theorem thr_LT{m n p q:Int}(hm:m.natAbs≤4)(hn:n.natAbs≤4)(hp:p.natAbs≤4)(hq:q.natAbs≤4)(h: ¬(p=0∧q=0)):LS (thrL m n (m+1*p) (n+1*q)):=by
 have e1:thrA n (n+1*q)= -q:=by unfold thrA;omega
 have e2:thrB m (m+1*p)=p:=by unfold thrB;omega
 have e3:((-q)*m).natAbs≤4*4:=by rw[Int.natAbs_mul];exact Nat.mul_le_mul (by omega) hm
 have e4:(p*n).natAbs≤4*4:=by rw[Int.natAbs_mul];exact Nat.mul_le_mul hp hn
 have e5:thrC m n (m+1*p) (n+1*q)= -((-q)*m+p*n):=by unfold thrC;rw[e1,e2]
 unfold thrL
 obtain⟨k1,k2,k3⟩:=mkL_le (thrA n (n+1*q)) (thrB m (m+1*p)) (thrC m n (m+1*p) (n+1*q))
 exact⟨mkL_ok (by rw[e1,e2];omega),Nat.le_trans k1 (by rw[e1];omega),Nat.le_trans k2 (by rw[e2];omega),Nat.le_trans k3 (by rw[e5];omega)⟩
def nextF(es:List Int)(n:Int)(a:Nat):Nat×Nat:=
 if h:a<es.length then((if Int.tmod es[a] n<0 then Int.tmod es[a] n+n else Int.tmod es[a] n).toNat,a+1) else(0,a)
theorem nextF_lt{es:List Int}{n:Int}{a:Nat}(hn:1≤n):((nextF es n a).1:Int)<n:=by
 unfold nextF
 split
 ·rename_i h
  have q2:=Int.tmod_lt_of_pos es[a] (show 0<n by omega)
  dsimp only
  split<;>omega
 ·exact hn
theorem nextF_le{es:List Int}{n:Int}{a:Nat}(ha:a≤es.length):(nextF es n a).2≤es.length:=by
 unfold nextF
 split
 ·assumption
 ·exact ha
def pF(es:List Int)(a:Nat):(Int×Int)×Nat:=((((nextF es 9 a).1:Int)-4,((nextF es 9 (nextF es 9 a).2).1:Int)-4),(nextF es 9 (nextF es 9 a).2).2)
theorem pF_ok{es:List Int}{a:Nat}(ha:a≤es.length):(pF es a).1.1.natAbs≤4∧(pF es a).1.2.natAbs≤4∧(pF es a).2≤es.length:=by
 have h1:=nextF_lt (es:=es) (n:=9) (a:=a) (by decide)
 have h2:=nextF_lt (es:=es) (n:=9) (a:=(nextF es 9 a).2) (by decide)
 have h3:=nextF_le (n:=9) (nextF_le (es:=es) (n:=9) ha)
 unfold pF
 exact⟨by dsimp only;omega,by dsimp only;omega,h3⟩
def vF(es:List Int)(a:Nat):(Int×Int)×Nat:=if(pF es a).1.1=0∧(pF es a).1.2=0 then((1,0),(pF es a).2) else pF es a
theorem vF_ok{es:List Int}{a:Nat}(ha:a≤es.length):(vF es a).1.1.natAbs≤4∧(vF es a).1.2.natAbs≤4∧ ¬((vF es a).1.1=0∧(vF es a).1.2=0)∧(vF es a).2≤es.length:=by
 obtain⟨h1,h2,h3⟩:=pF_ok ha
 unfold vF
 split
 ·exact⟨show(1:Int).natAbs≤4 by decide,show(0:Int).natAbs≤4 by decide,show¬((1:Int)=0∧(0:Int)=0) by decide,h3⟩
 ·rename_i h;exact⟨h1,h2,h,h3⟩
def lF(es:List Int)(a:Nat):LnQ×Nat:=(thrL (pF es a).1.1 (pF es a).1.2 ((pF es a).1.1+1*(vF es (pF es a).2).1.1) ((pF es a).1.2+1*(vF es (pF es a).2).1.2),(vF es (pF es a).2).2)
theorem lF_ok{es:List Int}{a:Nat}(ha:a≤es.length):LS (lF es a).1∧(lF es a).2≤es.length:=by
 obtain⟨h1,h2,h3⟩:=pF_ok ha
 obtain⟨k1,k2,k3,k4⟩:=vF_ok h3
 exact⟨thr_LT h1 h2 k1 k2 k3,k4⟩
def treeF(es:List Int):Nat→Nat→Tr×Nat
 |0,a=>(.leaf (decide (((nextF es 2 a).1:Int)=1)),(nextF es 2 a).2)
 |d+1,a=>if((nextF es 4 a).1:Int)=0 then(.leaf (decide (((nextF es 2 (nextF es 4 a).2).1:Int)=1)),(nextF es 2 (nextF es 4 a).2).2) else
  (.node (lF es (nextF es 4 a).2).1 (treeF es d (lF es (nextF es 4 a).2).2).1 (treeF es d (treeF es d (lF es (nextF es 4 a).2).2).2).1,(treeF es d (treeF es d (lF es (nextF es 4 a).2).2).2).2)
theorem treeF_ok{es:List Int}: ∀{d a:Nat},a≤es.length→(treeF es d a).1.depth≤d∧(treeF es d a).1.all LnQ.ok∧(treeF es d a).1.all (fun l=>BL l 96)∧(treeF es d a).2≤es.length
 |0,a,ha=>⟨Nat.zero_le _,trivial,trivial,nextF_le ha⟩
 |d+1,a,ha=>by
  have h4:=nextF_le (n:=4) ha
  unfold treeF
  split
  ·exact⟨Nat.zero_le _,trivial,trivial,nextF_le h4⟩
  ·obtain⟨hl,h5⟩:=lF_ok h4
   obtain⟨d1,o1,b1,h6⟩:=treeF_ok (d:=d) h5
   obtain⟨d2,o2,b2,h7⟩:=treeF_ok (d:=d) h6
   exact⟨by show 1+max _ _≤_;omega,⟨hl.ok,o1,o2⟩,⟨hl.bl,b1,b2⟩,h7⟩
theorem q_NextT{GB:Gh}{b:Nat}{es:List Int}(hes:es.length≤400){a:Nat}(ha:a≤es.length){n:Int}(hn:1≤n)(hn2:n≤1000):PM GB Tryz.prog 37 (mkP [none,some (.v (.int .i64 n))] b) b 89 [.sl (es.map vI), .v (.int .i64 (a:Nat))] (.v (.int .i64 ((nextF es n a).1:Nat))) [.sl (es.map vI), .v (.int .i64 ((nextF es n a).2:Nat))]:=by
 have hel:(es.map vI).length=es.length:=by simp
 refine fnM Tryz.func37 J J Tryz.ntmps37 J J (fun C b m lo hmb=>?_)
 refine br J J J (fun hc15=>?_) (fun hc15=>?_)
 ·
  have hf:nextF es n a=(0,a):=by unfold nextF;rw[dif_neg (by omega)]
  exact rzM hmb J J (by rw[hf]<;>rfl) (by rw[hf]<;>rfl)
 ·
  have hal:a<es.length:=by omega
  obtain⟨e,he⟩: ∃e,e=es[a]:=⟨_,rfl⟩
  have q2:=Int.tmod_lt_of_pos e (show 0<n by omega)
  have q3: -n<Int.tmod e n:=by have:=Int.lt_tmod_of_pos e (show 0<n by omega);omega
  refine ix (fu:=⟨1⟩) _ rfl (mapI_get hal) rfl<|?_
  refine eqF 25 (.d (vI e)) rfl (by rw[he]<;>rfl) ?_
  refine gx (hv:=by simp only[allP];exact⟨⟨by omega,by kernel_rfl⟩,by omega⟩) rfl<|?_
  refine br J J J (fun hc36=>?_) (fun hc36=>?_)
  ·
   have hf:nextF es n a=((Int.tmod e n+n).toNat,a+1):=by unfold nextF;rw[dif_pos hal,←he,if_pos hc36]
   exact rzM hmb J J (by rw[hf];show DV.v (.int .i64 _)=DV.v (.int .i64 _);rw[Int.toNat_of_nonneg (by omega)]) (by rw[hf]<;>rfl)
  ·
   have hf:nextF es n a=((Int.tmod e n).toNat,a+1):=by unfold nextF;rw[dif_pos hal,←he,if_neg hc36]
   exact rzM hmb J J (by rw[hf];show DV.v (.int .i64 _)=DV.v (.int .i64 _);rw[Int.toNat_of_nonneg (by omega)]) (by rw[hf]<;>rfl)
theorem q_PT{GB:Gh}{b:Nat}{es:List Int}(hes:es.length≤400){a:Nat}(ha:a≤es.length):PM GB Tryz.prog 63 (mkP [none] b) b 89 [.sl (es.map vI), .v (.int .i64 (a:Nat))] (eP (iP (pF es a).1.1 (pF es a).1.2)) [.sl (es.map vI), .v (.int .i64 ((pF es a).2:Nat))]:=by
 have h1:=nextF_lt (es:=es) (n:=9) (a:=a) (by decide)
 have h2:=nextF_lt (es:=es) (n:=9) (a:=(nextF es 9 a).2) (by decide)
 refine fnM Tryz.func63 J J Tryz.ntmps63 J J (fun C b m lo hmb=>?_)
 refine cm rfl (fun b=>(q_NextT (n:=9) hes ha (by decide) (by decide))) rfl<|cm rfl (fun b=>(q_NextT (n:=9) hes (nextF_le ha) (by decide) (by decide))) rfl<|?_
 refine cl rfl (q_Xy (m:=((nextF es 9 a).1:Int)-4) (n:=((nextF es 9 (nextF es 9 a).2).1:Int)-4) (by omega) (by omega)) rfl<|?_
 exact rzM hmb J J J J
theorem q_VT{GB:Gh}{b:Nat}{es:List Int}(hes:es.length≤400){a:Nat}(ha:a≤es.length):PM GB Tryz.prog 66 (mkP [none] b) b 89 [.sl (es.map vI), .v (.int .i64 (a:Nat))] (eP (iP (vF es a).1.1 (vF es a).1.2)) [.sl (es.map vI), .v (.int .i64 ((vF es a).2:Nat))]:=by
 obtain⟨hm,hn,ha1⟩:=pF_ok ha
 refine fnM Tryz.func66 J J Tryz.ntmps66 J J (fun C b m lo hmb=>?_)
 refine cm (fu:=⟨9⟩) rfl (fun b=>(q_PT hes ha)) rfl<|?_
 refine eqF 7 (.d (eP (iP 0 0))) rfl (by rw[eP_zeroI]<;>rfl) ?_
 refine gx rfl<|cl rfl (q_SameI' (m:=(pF es a).1.1) (n:=(pF es a).1.2) (m':=0) (n':=0) (by omega) (by omega) (by decide) (by decide)) rfl<|?_
 refine bd J J J (fun hc8=>?_) (fun hc8=>?_)
 ·
  have hf:vF es a=((1,0),(pF es a).2):=by unfold vF;rw[if_pos hc8]
  refine cl rfl (q_Xy (m:=1) (n:=0) (by decide) (by decide)) rfl<|?_
  exact rzM hmb J J (by rw[hf]<;>rfl) (by rw[hf])
 ·
  have hf:vF es a=pF es a:=by unfold vF;rw[if_neg hc8]
  exact rzM hmb J J (by rw[hf]<;>rfl) (by rw[hf])
theorem q_LT{GB:Gh}{b:Nat}{es:List Int}(hes:es.length≤400){a:Nat}(ha:a≤es.length):PM GB Tryz.prog 20 (mkP [none] b) b 89 [.sl (es.map vI), .v (.int .i64 (a:Nat))] (eL (lF es a).1) [.sl (es.map vI), .v (.int .i64 ((lF es a).2:Nat))]:=by
 obtain⟨hm,hn,ha1⟩:=pF_ok ha
 obtain⟨hp,hq,hz,ha2⟩:=vF_ok ha1
 refine fnM Tryz.func20 J J Tryz.ntmps20 J J (fun C b m lo hmb=>?_)
 refine cm rfl (fun b=>(q_PT hes ha)) rfl<|cl rfl (q_Of (n:=1) (by decide) (by decide)) rfl<|cm rfl (fun b=>(q_VT hes ha1)) rfl<|cl rfl (q_AddI (m:=(pF es a).1.1) (n:=(pF es a).1.2) (m':=(vF es (pF es a).2).1.1) (n':=(vF es (pF es a).2).1.2) (k:=1) (by omega) (by omega) (by omega) (by omega) (by decide)) rfl<|?_
 refine cl rfl (q_Through (m:=(pF es a).1.1) (n:=(pF es a).1.2) (m':=(pF es a).1.1+1*(vF es (pF es a).2).1.1) (n':=(pF es a).1.2+1*(vF es (pF es a).2).1.2) (by omega) (by omega) (by omega) (by omega) (by omega)) rfl<|?_
 exact rzM hmb J J J J
theorem q_CodeT{GB:Gh}{p:Bool}:PF GB Tryz.prog 44 [.v (.bool p)] (eT (.leaf p)):=by
 refine fn Tryz.func44 J J Tryz.ntmps44 J J (fun C=>?_)
 refine fzE 5 rfl ?_
 exact rz J J
theorem q_TreeT_zero{GB:Gh}{b:Nat}{es:List Int}(hes:es.length≤400){a:Nat}(ha:a≤es.length){n:Int}(hn:n=0):PM GB Tryz.prog 50 (mkP [none,some (.v (.int .i64 n))] b) b 89 [.sl (es.map vI), .v (.int .i64 (a:Nat))] (eT (treeF es 0 a).1) [.sl (es.map vI), .v (.int .i64 ((treeF es 0 a).2:Nat))]:=by
 refine fnM (fu:=⟨10⟩) Tryz.func50 J J Tryz.ntmps50 J J (fun C b m lo hmb=>?_)
 refine kT 8 rfl (by omega) ?_
 refine gx rfl<|cm rfl (fun b=>(q_NextT (n:=2) hes ha (by decide) (by decide))) rfl<|cl rfl (q_CodeT (p:=decide (((nextF es 2 a).1:Int)=1))) rfl<|?_
 exact rzM hmb J J J J
theorem q_TreeT_node{GB:Gh}{b:Nat}{es:List Int}(hes:es.length≤400){a:Nat}(ha:a≤es.length){d:Nat}{n:Int}(hn:n=((d+1:Nat):Int))(hd:d≤100)(ih: ∀{GB:Gh} {b a:Nat} {n:Int},a≤es.length→n=(d:Int)→PM GB Tryz.prog 50 (mkP [none,some (.v (.int .i64 n))] b) b 89 [.sl (es.map vI), .v (.int .i64 (a:Nat))] (eT (treeF es d a).1) [.sl (es.map vI), .v (.int .i64 ((treeF es d a).2:Nat))]):PM GB Tryz.prog 50 (mkP [none,some (.v (.int .i64 n))] b) b 89 [.sl (es.map vI), .v (.int .i64 (a:Nat))] (eT (treeF es (d+1) a).1) [.sl (es.map vI), .v (.int .i64 ((treeF es (d+1) a).2:Nat))]:=by
 have h4:=nextF_le (n:=4) ha
 obtain⟨hl,h5⟩:=lF_ok h4
 have h6:=(treeF_ok (d:=d) h5).2.2.2
 refine fnM (fu:=⟨10⟩) Tryz.func50 J J Tryz.ntmps50 J J (fun C b m lo hmb=>?_)
 refine kF 8 rfl (by omega) ?_
 refine gx rfl<|cm rfl (fun b=>(q_NextT (n:=4) hes ha (by decide) (by decide))) rfl<|?_
 refine br J J J (fun hc13=>?_) (fun hc13=>?_)
 ·
  have hf:treeF es (d+1) a=_:=if_pos hc13
  refine cm rfl (fun b=>(q_NextT (n:=2) hes h4 (by decide) (by decide))) rfl<|cl rfl (q_CodeT (p:=decide (((nextF es 2 (nextF es 4 a).2).1:Int)=1))) rfl<|?_
  exact rzM hmb J J (by rw[hf]<;>rfl) (by rw[hf])
 ·
  have hf:treeF es (d+1) a=_:=if_neg hc13
  refine cm rfl (fun b=>(q_LT hes h4)) rfl<|cm rfl (fun b=>(ih h5 (by omega))) rfl<|cm rfl (fun b=>(ih h6 (by omega))) rfl<|?_
  refine fzE 31 rfl ?_
  exact rzM hmb J J (by rw[hf]<;>rfl) (by rw[hf])
theorem q_TreeI{es:List Int}(hes:es.length≤400): ∀{d:Nat} {GB:Gh} {b a:Nat} {n:Int},d≤100→a≤es.length→n=(d:Int)→PM GB Tryz.prog 50 (mkP [none,some (.v (.int .i64 n))] b) b 89 [.sl (es.map vI), .v (.int .i64 (a:Nat))] (eT (treeF es d a).1) [.sl (es.map vI), .v (.int .i64 ((treeF es d a).2:Nat))]
 |0,_,_,_,_,_,ha,hn=>q_TreeT_zero hes ha hn
 |d+1,_,_,_,_,hd,ha,hn=>q_TreeT_node hes ha hn (by omega) (fun h1 h2=>q_TreeI hes (by omega) h1 h2)
theorem q_TreeT{GB:Gh}{es:List Int}(hes:es.length≤400){a d b:Nat}(ha:a≤es.length)(hd:d≤100):PM GB Tryz.prog 50 (mkP [none,some (.v (.int .i64 (d:Nat)))] b) b 89 [.sl (es.map vI), .v (.int .i64 (a:Nat))] (eT (treeF es d a).1) [.sl (es.map vI), .v (.int .i64 ((treeF es d a).2:Nat))]:=q_TreeI (GB:=GB) hes hd ha rfl
end Go.Sx
end

section
set_option maxRecDepth 100000
namespace Go.Sx
open Go Go.Proofs
abbrev ZP:=Int×Int
def ZP.q(p:ZP):PtQ:=iP p.1 p.2
def ZP.le(k:Nat)(p:ZP):Prop:=p.1.natAbs≤k∧p.2.natAbs≤k
def addZ(p q:ZP):ZP:=(p.1+1*q.1,p.2+1*q.2)
def crossZ(u v:ZP):Int:=u.1*v.2-u.2*v.1
theorem thr_LB{m n p q:Int}(hm:m.natAbs≤1000)(hn:n.natAbs≤1000)(hp:p.natAbs≤1000)(hq:q.natAbs≤1000)(h: ¬(p=m∧q=n)):LB (thrL m n p q)∧(thrL m n p q).ok:=by
 have e1:(thrA n q).natAbs≤2000:=by unfold thrA;omega
 have e2:(thrB m p).natAbs≤2000:=by unfold thrB;omega
 have e3:=mul_le_mil e1 hm
 have e4:=mul_le_mil e2 hn
 have e5:(thrC m n p q).natAbs≤4000000:=by unfold thrC;omega
 unfold thrL
 obtain⟨k1,k2,k3⟩:=mkL_le (thrA n q) (thrB m p) (thrC m n p q)
 have hb:(2:Nat)^96=79228162514264337593543950336:=by decide
 refine⟨⟨⟨?_,?_,?_⟩⟩,mkL_ok ?_⟩
 ·rw[hb];omega
 ·rw[hb];omega
 ·rw[hb];omega
 ·unfold thrA thrB;omega
def edgeZ(v w:ZP):FrQ:=⟨thrL v.1 v.2 w.1 w.2,⟨paramQ (thrL v.1 v.2 w.1 w.2) v.q,paramQ (thrL v.1 v.2 w.1 w.2) w.q,false,false⟩⟩
def nextZ(r:List ZP)(i:Nat):ZP:=r.getD ((i+1)%r.length) (0,0)
def edgesN(r:List ZP):Nat→List FrQ
 |0=>[]
 |k+1=>edgesN r k++[edgeZ (r.getD k (0,0)) (nextZ r k)]
def edgesZ(r:List ZP):List FrQ:=edgesN r r.length
structure RingOk (r:List ZP):Prop where
 n3:3≤r.length
 n6:r.length≤6
 le: ∀p∈r,ZP.le 100 p
 ne: ∀i<r.length,r.getD i (0,0)≠nextZ r i
theorem getD_mem{r:List ZP}{i:Nat}(h:i<r.length):r.getD i (0,0)∈r:=by
 rw[List.getD_eq_getElem?_getD,List.getElem?_eq_getElem h];exact List.getElem_mem h
theorem nextZ_mem{r:List ZP}{i:Nat}(h:i<r.length):nextZ r i∈r:=getD_mem (Nat.mod_lt _ (by omega))
theorem param_int{l:LnQ}(hl:LB l)(ho:l.ok){m n:Int}(hm:m.natAbs≤1000)(hn:n.natAbs≤1000):BQ (paramQ l (iP m n)) 1200:=by
 haveI:=biC (k:=11) hm (by decide)
 haveI:=biC (k:=11) hn (by decide)
 have hd:=dd_pos ho.ne
 have hA:BI (l.a*l.a+l.b*l.b) _:=inferInstance
 have hB:BI (m*l.b-n*l.a) _:=inferInstance
 have hA':=biMono (j:=1200) hA (by decide)
 have hB':=biMono (j:=1200) hB (by decide)
 have e1:l.dir.dot l.dir=((l.a*l.a+l.b*l.b:Int):Rat):=by
  rw[Rat.intCast_add,Rat.intCast_mul,Rat.intCast_mul]
  simp only[LnQ.dir,PtQ.dot];grind
 have e2:(iP m n).dot l.dir=((m*l.b-n*l.a:Int):Rat):=by
  rw[Rat.intCast_sub,Rat.intCast_mul,Rat.intCast_mul]
  simp only[LnQ.dir,PtQ.dot,iP];grind
 have hd':((0:Int):Rat)<((l.a*l.a+l.b*l.b:Int):Rat):=by rw[←e1];exact hd
 unfold paramQ
 rw[e2,e1]
 clear hA hB e1 e2
 generalize l.a*l.a+l.b*l.b=D at*
 generalize m*l.b-n*l.a=M at*
 have hD:0<D:=Rat.intCast_lt_intCast.1 hd'
 refine BQ.of_fracI (n:=M) (D:=D) (by omega) ?_ hB' hA'
 have h0:(D:Rat)≠0:=fun e=>by rw[e] at hd';exact absurd hd' (by decide)
 have:((D.natAbs:Nat):Rat)=(D:Rat):=by
  have h1:((D.natAbs:Nat):Int)=D:=by omega
  rw[←h1];rfl
 rw[this]
 grind
theorem edge_ok{v w:ZP}(hv:ZP.le 100 v)(hw:ZP.le 100 w)(h:v≠w):FOk (edgeZ v w):=by
 obtain⟨h1,h2⟩:=thr_LB (m:=v.1) (n:=v.2) (p:=w.1) (q:=w.2) (by have:=hv.1;omega) (by have:=hv.2;omega) (by have:=hw.1;omega) (by have:=hw.2;omega) (fun e=>h (Prod.ext e.1.symm e.2.symm))
 exact⟨h1,h2,⟨fun e=>(by cases e),fun e=>(by cases e)⟩,param_int h1 h2 (by have:=hv.1;omega) (by have:=hv.2;omega),param_int h1 h2 (by have:=hw.1;omega) (by have:=hw.2;omega)⟩
theorem edgesN_ok{r:List ZP}(h:RingOk r): ∀{k:Nat},k≤r.length→(edgesN r k).length=k∧ ∀f∈edgesN r k,FOk f
 |0,_=>⟨rfl,fun f hf=>by cases hf⟩
 |k+1,hk=>by
  obtain⟨h1,h2⟩:=edgesN_ok h (k:=k) (by omega)
  rw[edgesN]
  refine⟨by simp[h1],fun f hf=>?_⟩
  rcases List.mem_append.1 hf with hf|hf
  ·exact h2 f hf
  ·rw[List.mem_singleton] at hf;subst hf
   exact edge_ok (h.le _ (getD_mem (by omega))) (h.le _ (nextZ_mem (by omega))) (h.ne k (by omega))
theorem edges_ok{r:List ZP}(h:RingOk r):(edgesZ r).length=r.length∧ ∀f∈edgesZ r,FOk f:=edgesN_ok h (Nat.le_refl _)
def edgesR(rs:List (List ZP)):List FrQ:=rs.flatMap edgesZ
theorem edgesR_ok: ∀{rs:List (List ZP)},(∀r∈rs,RingOk r)→(edgesR rs).length≤6*rs.length∧ ∀f∈edgesR rs,FOk f
 |[],_=>⟨Nat.le_refl _,fun f hf=>by cases hf⟩
 |r::rs,h=>by
  obtain⟨h1,h2⟩:=edgesR_ok (rs:=rs) fun q hq=>h q (List.mem_cons_of_mem _ hq)
  obtain⟨k1,k2⟩:=edges_ok (h r List.mem_cons_self)
  have:=(h r List.mem_cons_self).n6
  unfold edgesR at*
  rw[List.flatMap_cons]
  refine⟨by rw[List.length_append,k1,List.length_cons];omega,fun f hf=>?_⟩
  rcases List.mem_append.1 hf with hf|hf
  ·exact k2 f hf
  ·exact h2 f hf
def orientQ(a b c:PtQ):Int:=(PtQ.cross (movQ b a (-1)) (movQ c a (-1))).num.sign
def wndQ(v w p:PtQ):Int:=
 (if rcmp v.y p.y≤0∧ ¬rcmp w.y p.y≤0∧0<orientQ v w p then 1 else 0)-(if¬rcmp v.y p.y≤0∧rcmp w.y p.y≤0∧orientQ v w p<0 then 1 else 0)
def numN(r:List ZP)(p:PtQ):Nat→Int
 |0=>0
 |k+1=>numN r p k+wndQ (r.getD k (0,0)).q (nextZ r k).q p
def numZ(r:List ZP)(p:PtQ):Int:=numN r p r.length
def accQ(fill n:Int):Bool:=(decide (fill=1)&&decide (n.tmod 2≠0))||(decide (fill=2)&&decide (n≠0))
def inR(rs:List (List ZP))(fill:Int)(p:PtQ):Bool:=accQ fill (rs.foldl (fun n r=>n+numZ r p) 0)
def rawR(rs:List (List ZP))(fill:Int):Tr:=rawT (inR rs fill) (edgesR rs).length (edgesR rs) []
def buildR(rs:List (List ZP))(fill:Int):Tr:=(rawR rs fill).restrict []
structure TrOk (k:Nat) (t:Tr):Prop where
 gd:t.gd
 dp:t.depth≤k
 am: ∃K:List LnQ,K.length≤k∧(∀l∈K,l.ok)∧Among K t
theorem raw_ok{acc:PtQ→Bool}{n:Nat}{l:List FrQ}(h: ∀f∈l,FOk f)(hn:l.length=n):TrOk n (rawT acc n l []):=
 ⟨⟨rawT_all fun f hf=>(h f hf).lb,rawT_all fun f hf=>(h f hf).ok⟩,rawT_depth,l.map (·.l),by rw[List.length_map,hn];exact Nat.le_refl _,fun m hm=>by
  obtain⟨f,hf,rfl⟩:=List.mem_map.1 hm;exact(h f hf).ok,rawT_all fun f hf=>⟨f.l,List.mem_map_of_mem hf, .inl rfl⟩⟩
theorem TrOk.restrict{k:Nat}{t:Tr}(h:TrOk k t)(c:CellQ):TrOk k (t.restrict c):=by
 obtain⟨K,h1,h2,h3⟩:=h.am
 exact⟨restrict_gd h.gd c,Nat.le_trans (t.restrict_depth c) h.dp,K,h1,h2,h3.restrict c⟩
theorem TrOk.compl{k:Nat}{t:Tr}(h:TrOk k t):TrOk k t.compl:=by
 obtain⟨K,h1,h2,h3⟩:=h.am
 exact⟨compl_gd h.gd,by rw[t.compl_depth];exact h.dp,K,h1,h2,h3.compl⟩
theorem TrOk.mono{j k:Nat}{t:Tr}(h:TrOk j t)(hk:j≤k):TrOk k t:=by
 obtain⟨K,h1,h2,h3⟩:=h.am
 exact⟨h.gd,Nat.le_trans h.dp hk,K,by omega,h2,h3⟩
theorem TrOk.merge{j k:Nat}{op:Int}{t u:Tr}(h:TrOk j t)(hu:TrOk k u):TrOk (j+k) (t.mergeQ op u []):=by
 obtain⟨K,h1,h2,h3⟩:=h.am
 obtain⟨M,k1,k2,k3⟩:=hu.am
 refine⟨⟨Tr.mergeQ_all LB op hu.gd.lb t [] h.gd.lb,Tr.mergeQ_all LnQ.ok op hu.gd.ok t [] h.gd.ok⟩,Nat.le_trans (Tr.mergeQ_depth op u t []) (by have:=h.dp;have:=hu.dp;omega),K++M,by rw[List.length_append];omega,fun l hl=>(List.mem_append.1 hl).elim (h2 l) (k2 l),?_⟩
 exact(h3.mono fun l hl=>⟨l,List.mem_append_left _ hl, .inl rfl⟩).merge (k3.mono fun l hl=>⟨l,List.mem_append_right _ hl, .inl rfl⟩) []
theorem TrOk.merge_size{j k:Nat}{op:Int}{t u:Tr}(h:TrOk j t)(hu:TrOk k u):(t.mergeQ op u []).size≤(j+k)*(1+(j+k)):=by
 obtain⟨K,h1,h2,h3⟩:=h.am
 obtain⟨M,k1,k2,k3⟩:=hu.am
 have hle:(K++M).length≤j+k:=by rw[List.length_append];omega
 refine Nat.le_trans (Tr.merge_size (K:=K++M) (op:=op) (fun l hl=>(List.mem_append.1 hl).elim (h2 l) (k2 l)) h.gd.ok hu.gd.ok (h3.mono fun l hl=>⟨l,List.mem_append_left _ hl, .inl rfl⟩) (k3.mono fun l hl=>⟨l,List.mem_append_right _ hl, .inl rfl⟩)) ?_
 exact Nat.mul_le_mul hle (by omega)
theorem TrOk.lim{j k:Nat}{op:Int}{t u:Tr}(h:TrOk j t)(hu:TrOk k u)(hk:j+k≤200):limQ op t u=some (t.mergeQ op u []):=
 limQ_some (by have:=h.dp;have:=hu.dp;omega) (Nat.le_trans (h.merge_size hu) (Nat.le_trans (Nat.mul_le_mul hk (show 1+(j+k)≤201 by omega)) (by decide)))
theorem build_ok{rs:List (List ZP)}{fill:Int}(h: ∀r∈rs,RingOk r)(hn:rs.length≤3):TrOk 18 (buildR rs fill):=by
 obtain⟨h1,h2⟩:=edgesR_ok h
 exact((raw_ok (acc:=inR rs fill) h2 rfl).restrict []).mono (by omega)
end Go.Sx
end

section
set_option maxRecDepth 100000
namespace Go.Sx
open Go Go.Proofs
def cmpZ(p q:ZP):Int:=if p.1<q.1 then-1 else if q.1<p.1 then 1 else if p.2<q.2 then-1 else if q.2<p.2 then 1 else 0
def insZ(x:ZP):List ZP→List ZP
 |[]=>[x]
 |u::t=>if cmpZ u x<0 then u::insZ x t else if cmpZ u x=0 then u::t else x::u::t
def sortZ(l:List ZP):List ZP:=l.foldl (fun out x=>insZ x out) []
theorem insZ_len{x:ZP}: ∀{l:List ZP},(insZ x l).length≤l.length+1
 |[]=>Nat.le_refl _
 |u::t=>by
  rw[insZ]
  have:=insZ_len (x:=x) (l:=t)
  split
  ·simp;omega
  ·split<;>simp
theorem sortZ_len(l:List ZP):(sortZ l).length≤l.length:=by
 have key: ∀(l o:List ZP),(l.foldl (fun out x=>insZ x out) o).length≤l.length+o.length:=by
  intro l
  induction l with
  |nil=>intro o;simp
  |cons x t ih=>intro o;have:=ih (insZ x o);have:=insZ_len (x:=x) (l:=o);simp only[List.foldl_cons,List.length_cons];omega
 have:=key l []
 simpa[sortZ] using this
def squareZ(a b c d:Int):List ZP:=[(a,b),(c,b),(c,d),(a,d)]
theorem nextZ_eq{r:List ZP}{i:Nat}(h:i+1<r.length):nextZ r i=r.getD (i+1) (0,0):=by unfold nextZ;rw[Nat.mod_eq_of_lt h]
theorem nextZ_last{r:List ZP}{i:Nat}(h:i+1=r.length):nextZ r i=r.getD 0 (0,0):=by unfold nextZ;rw[h,Nat.mod_self]
theorem square_ok{a b c d:Int}(h1:a.natAbs≤50)(h2:b.natAbs≤50)(h3:c.natAbs≤50)(h4:d.natAbs≤50)(h5:a<c)(h6:b<d):RingOk (squareZ a b c d):=by
 refine⟨by simp[squareZ],by simp[squareZ],fun p hp=>?_,fun i hi=>?_⟩
 ·simp only[squareZ,List.mem_cons,List.not_mem_nil,or_false] at hp
  rcases hp with rfl|rfl|rfl|rfl<;>exact⟨by dsimp only;omega,by dsimp only;omega⟩
 ·have:i=0∨i=1∨i=2∨i=3:=by simp[squareZ] at hi;omega
  rcases this with rfl|rfl|rfl|rfl<;>simp[squareZ,nextZ]<;>omega
def triZ(p u v:ZP):List ZP:=[p,addZ p u,addZ p v]
theorem tri_ok{p u v:ZP}(h1:ZP.le 40 p)(h2:ZP.le 40 u)(h3:ZP.le 40 v)(h:crossZ u v≠0):RingOk (triZ p u v):=by
 obtain⟨p1,p2⟩:=p
 obtain⟨u1,u2⟩:=u
 obtain⟨v1,v2⟩:=v
 unfold ZP.le at h1 h2 h3
 dsimp only at h1 h2 h3
 unfold crossZ at h
 dsimp only at h
 refine⟨by simp[triZ],by simp[triZ],fun p hp=>?_,fun i hi=>?_⟩
 ·simp only[triZ,addZ,List.mem_cons,List.not_mem_nil,or_false] at hp
  rcases hp with rfl|rfl|rfl<;>exact⟨by dsimp only;omega,by dsimp only;omega⟩
 ·have:i=0∨i=1∨i=2:=by simp[triZ] at hi;omega
  have hu: ¬(u1=0∧u2=0):=fun e=>h (by rw[e.1,e.2];simp)
  have hv: ¬(v1=0∧v2=0):=fun e=>h (by rw[e.1,e.2];simp)
  have huv: ¬(u1=v1∧u2=v2):=fun e=>h (by rw[e.1,e.2,Int.mul_comm];omega)
  rcases this with rfl|rfl|rfl<;>simp[triZ,addZ,nextZ]<;>omega
def ptsF(es:List Int):Nat→Nat→List ZP→List ZP×Nat
 |0,a,out=>(out,a)
 |n+1,a,out=>ptsF es n (pF es a).2 (if out.getLast? =some (pF es a).1 then out else out++[(pF es a).1])
structure Adj (r:List ZP):Prop where
 ne: ∀i,i+1<r.length→r.getD i (0,0)≠r.getD (i+1) (0,0)
 le: ∀p∈r,ZP.le 100 p
theorem Adj.snoc{r:List ZP}{p:ZP}(h:Adj r)(hp:ZP.le 100 p)(hl:r.getLast? ≠some p):Adj (r++[p]):=by
 refine⟨fun i hi=>?_,fun q hq=>?_⟩
 ·rw[List.length_append,List.length_singleton] at hi
  rw[List.getD_eq_getElem?_getD,List.getD_eq_getElem?_getD]
  by_cases h1:i+1<r.length
  ·rw[List.getElem?_append_left (by omega),List.getElem?_append_left h1]
   have:=h.ne i h1
   rwa [List.getD_eq_getElem?_getD,List.getD_eq_getElem?_getD] at this
  ·have e:i+1=r.length:=by omega
   rw[List.getElem?_append_left (by omega),e,List.getElem?_append_right (Nat.le_refl _),Nat.sub_self]
   rw[List.getLast?_eq_getElem?,←e,Nat.add_sub_cancel] at hl
   rw[List.getElem?_eq_getElem (by omega)] at hl⊢
   intro c
   exact hl (by simpa using c)
 ·rcases List.mem_append.1 hq with hq|hq
  ·exact h.le q hq
  ·rw[List.mem_singleton] at hq;subst hq;exact hp
theorem ptsF_ok{es:List Int}: ∀{n a:Nat} {out:List ZP},a≤es.length→Adj out→Adj (ptsF es n a out).1∧(ptsF es n a out).1.length≤out.length+n∧(ptsF es n a out).2≤es.length
 |0,a,out,ha,h=>⟨h,Nat.le_refl _,ha⟩
 |n+1,a,out,ha,h=>by
  obtain⟨h1,h2,h3⟩:=pF_ok ha
  rw[ptsF]
  by_cases hl:out.getLast? =some (pF es a).1
  ·rw[if_pos hl]
   obtain⟨k1,k2,k3⟩:=ptsF_ok (n:=n) h3 h
   exact⟨k1,by omega,k3⟩
  ·rw[if_neg hl]
   obtain⟨k1,k2,k3⟩:=ptsF_ok (n:=n) h3 (h.snoc (p:=(pF es a).1) ⟨by omega,by omega⟩ hl)
   rw[List.length_append,List.length_singleton] at k2
   exact⟨k1,by omega,k3⟩
def trimZ:Nat→List ZP→List ZP
 |0,l=>l
 |n+1,l=>if 1<l.length∧l.getD 0 (0,0)=l.getD (l.length-1) (0,0) then trimZ n l.dropLast else l
theorem Adj.drop{r:List ZP}(h:Adj r):Adj r.dropLast:=by
 refine⟨fun i hi=>?_,fun p hp=>h.le p ((List.dropLast_sublist _).subset hp)⟩
 rw[List.length_dropLast] at hi
 have:=h.ne i (by omega)
 rw[List.getD_eq_getElem?_getD,List.getD_eq_getElem?_getD] at this⊢
 rw[List.getElem?_dropLast,List.getElem?_dropLast,if_pos (by omega),if_pos (by omega)]
 exact this
theorem trimZ_ok: ∀{n:Nat} {l:List ZP},Adj l→l.length≤n+1→Adj (trimZ n l)∧(trimZ n l).length≤l.length∧(1<(trimZ n l).length→(trimZ n l).getD 0 (0,0)≠(trimZ n l).getD ((trimZ n l).length-1) (0,0))
 |0,l,h,hn=>⟨h,Nat.le_refl _,fun k=>absurd k (by unfold trimZ;omega)⟩
 |n+1,l,h,hn=>by
  rw[trimZ]
  split
  ·obtain⟨h1,h2,h3⟩:=trimZ_ok (n:=n) h.drop (by rw[List.length_dropLast];omega)
   rw[List.length_dropLast] at h2
   exact⟨h1,by omega,h3⟩
  ·rename_i hc
   exact⟨h,Nat.le_refl _,fun k e=>hc ⟨k,e⟩⟩
theorem ring_of{r:List ZP}(h:Adj r)(h6:r.length≤6)(hc:1<r.length→r.getD 0 (0,0)≠r.getD (r.length-1) (0,0))(h3:3≤(sortZ r).length):RingOk r:=by
 have:=sortZ_len r
 refine⟨by omega,h6,h.le,fun i hi=>?_⟩
 by_cases h1:i+1<r.length
 ·rw[nextZ_eq h1];exact h.ne i h1
 ·have e:i+1=r.length:=by omega
  rw[nextZ_last e]
  have:=hc (by omega)
  rw[show i=r.length-1 by omega]
  exact fun k=>this k.symm
def tri0:List ZP:=[(0,0),(2,0),(0,2)]
theorem tri0_ok:RingOk tri0:=⟨by decide,by decide,fun p hp=>by
  simp only[tri0,List.mem_cons,List.not_mem_nil,or_false] at hp
  rcases hp with rfl|rfl|rfl<;>exact⟨by decide,by decide⟩,fun i hi=>by
  have:i=0∨i=1∨i=2:=by simp[tri0] at hi;omega
  rcases this with rfl|rfl|rfl<;>decide⟩
def genF(es:List Int)(a:Nat):List ZP×Nat:=
 ((if(sortZ (trimZ 6 (ptsF es (3+(nextF es 4 a).1) (nextF es 4 a).2 []).1)).length<3 then tri0 else trimZ 6 (ptsF es (3+(nextF es 4 a).1) (nextF es 4 a).2 []).1),(ptsF es (3+(nextF es 4 a).1) (nextF es 4 a).2 []).2)
theorem Adj.nil:Adj []:=⟨fun i hi=>by simp at hi,fun p hp=>by cases hp⟩
theorem genF_ok{es:List Int}{a:Nat}(ha:a≤es.length):RingOk (genF es a).1∧(genF es a).2≤es.length:=by
 have h1:=nextF_lt (es:=es) (n:=4) (a:=a) (by decide)
 obtain⟨k1,k2,k3⟩:=ptsF_ok (n:=3+(nextF es 4 a).1) (nextF_le (n:=4) ha) Adj.nil
 obtain⟨t1,t2,t3⟩:=trimZ_ok (n:=6) k1 (by simp at k2;omega)
 refine⟨?_,k3⟩
 unfold genF
 dsimp only
 split
 ·exact tri0_ok
 ·exact ring_of t1 (by simp at k2;omega) t3 (by omega)
def sqF(es:List Int)(n m k:Int)(a:Nat):List ZP×Nat:=
 let x:=nextF es n a
 let y:=nextF es n x.2
 let z:=nextF es m y.2
 let w:=nextF es m z.2
 (squareZ ((x.1:Int)-k) ((y.1:Int)-k) ((x.1:Int)-k+1+z.1) ((y.1:Int)-k+1+w.1),w.2)
theorem sqF_ok{es:List Int}{n m k:Int}{a:Nat}(ha:a≤es.length)(hn:1≤n)(hn2:n≤10)(hm:1≤m)(hm2:m≤10)(hk:0≤k)(hk2:k≤10):RingOk (sqF es n m k a).1∧(sqF es n m k a).2≤es.length:=by
 have h1:=nextF_lt (es:=es) (a:=a) hn
 have h2:=nextF_lt (es:=es) (a:=(nextF es n a).2) hn
 have h3:=nextF_lt (es:=es) (a:=(nextF es n (nextF es n a).2).2) hm
 have h4:=nextF_lt (es:=es) (a:=(nextF es m (nextF es n (nextF es n a).2).2).2) hm
 exact⟨square_ok (by omega) (by omega) (by omega) (by omega) (by omega) (by omega),nextF_le (nextF_le (nextF_le (nextF_le ha)))⟩
def ringF(es:List Int)(a:Nat):List ZP×Nat:=
 let k:=nextF es 4 a
 if(k.1:Int)=0 then sqF es 5 4 4 k.2
 else if(k.1:Int)=1 then
  let p:=pF es k.2
  let u:=vF es p.2
  let v:=vF es u.2
  if crossZ u.1 v.1≠0 then(triZ p.1 u.1 v.1,v.2) else genF es v.2
 else genF es k.2
theorem ringF_ok{es:List Int}{a:Nat}(ha:a≤es.length):RingOk (ringF es a).1∧(ringF es a).2≤es.length:=by
 have h0:=nextF_le (n:=4) ha
 unfold ringF
 dsimp only
 split
 ·exact sqF_ok h0 (by decide) (by decide) (by decide) (by decide) (by decide) (by decide)
 ·split
  ·obtain⟨p1,p2,p3⟩:=pF_ok h0
   obtain⟨u1,u2,u3,u4⟩:=vF_ok p3
   obtain⟨v1,v2,v3,v4⟩:=vF_ok u4
   split
   ·rename_i hc
    exact⟨tri_ok ⟨by omega,by omega⟩ ⟨by omega,by omega⟩ ⟨by omega,by omega⟩ hc,v4⟩
   ·exact genF_ok v4
  ·exact genF_ok h0
def tri1:List ZP:=[(0,0),(1,0),(0,1)]
def convexF(es:List Int)(a:Nat):List ZP×Nat:=
 let k:=nextF es 2 a
 if(k.1:Int)=0 then sqF es 3 2 1 k.2
 else
  let x:=nextF es 3 k.2
  let y:=nextF es 3 x.2
  let u1:=nextF es 2 y.2
  let u2:=nextF es 3 u1.2
  let v1:=nextF es 3 u2.2
  let v2:=nextF es 2 v1.2
  (if 0<crossZ (1+(u1.1:Int),(u2.1:Int)-1) ((v1.1:Int)-1,1+(v2.1:Int)) then triZ ((x.1:Int)-1,(y.1:Int)-1) (1+(u1.1:Int),(u2.1:Int)-1) ((v1.1:Int)-1,1+(v2.1:Int)) else tri1,v2.2)
def boundF(es:List Int)(a:Nat):Tr×Nat:=
 let r:=ringF es a
 let k:=nextF es 3 r.2
 if(k.1:Int)=0 then
  let s:=ringF es k.2
  let f:=nextF es 2 s.2
  (buildR [r.1,s.1] (1+(f.1:Int)),f.2)
 else
  let f:=nextF es 2 k.2
  (buildR [r.1] (1+(f.1:Int)),f.2)
theorem boundF_ok{es:List Int}{a:Nat}(ha:a≤es.length):TrOk 18 (boundF es a).1∧(boundF es a).2≤es.length:=by
 obtain⟨r1,r2⟩:=ringF_ok ha
 have h3:=nextF_le (n:=3) r2
 unfold boundF
 dsimp only
 split
 ·obtain⟨s1,s2⟩:=ringF_ok h3
  exact⟨build_ok (fun r hr=>by simp only[List.mem_cons,List.not_mem_nil,or_false] at hr;rcases hr with rfl|rfl;exact r1;exact s1) (by simp),nextF_le s2⟩
 ·exact⟨build_ok (fun r hr=>by simp only[List.mem_cons,List.not_mem_nil,or_false] at hr;subst hr;exact r1) (by simp),nextF_le h3⟩
def halfT(l:LnQ):Tr:=(Tr.node l (.leaf true) (.leaf false)).restrict []
theorem lns_len: ∀t:Tr,t.lns.length=t.size
 | .leaf _=>rfl
 | .node l x y=>by rw[Tr.lns,List.length_cons,List.length_append,lns_len x,lns_len y,Tr.size];omega
theorem trOk_of{t:Tr}{k:Nat}(hb:t.all (fun l=>BL l 96))(ho:t.all LnQ.ok)(hs:t.size≤k):TrOk k t:=
 ⟨⟨lns_all.2 fun l hl=>⟨lns_all.1 hb l hl⟩,ho⟩,Nat.le_trans t.depth_size hs,t.lns,by rw[lns_len];exact hs,lns_ok ho,among_of fun l hl=>hl⟩
theorem tree_ok{es:List Int}{d a:Nat}(ha:a≤es.length)(hd:d≤4):TrOk 18 (treeF es d a).1∧(treeF es d a).2≤es.length:=by
 obtain⟨h1,h2,h3,h4⟩:=treeF_ok (d:=d) ha
 have h5:=Tr.size_lt (treeF es d a).1
 have h6:(2:Nat)^(treeF es d a).1.depth≤2^4:=Nat.pow_le_pow_right (by decide) (by omega)
 exact⟨trOk_of h3 h2 (by omega),h4⟩
theorem half_ok{l:LnQ}(h:LS l):TrOk 18 (halfT l):=
 (trOk_of (k:=18) (t:= .node l (.leaf true) (.leaf false)) ⟨h.bl,trivial,trivial⟩ ⟨h.ok,trivial,trivial⟩ (by simp[Tr.size])).restrict []
def regionF(es:List Int):Nat→Nat→Tr×Nat
 |0,a=>
  let k:=nextF es 6 a
  if(k.1:Int)=1 then(halfT (lF es k.2).1,(lF es k.2).2)
  else if(k.1:Int)=2 then((treeF es 3 k.2).1.restrict [],(treeF es 3 k.2).2)
  else if(k.1:Int)=3 then((boundF es k.2).1.compl,(boundF es k.2).2)
  else boundF es k.2
 |d+1,a=>
  let k:=nextF es 6 a
  if(k.1:Int)=0 then
   let x:=regionF es d k.2
   let o:=nextF es 4 x.2
   let y:=regionF es d o.2
   (x.1.mergeQ (1+(o.1:Int)) y.1 [],y.2)
  else if(k.1:Int)=1 then(halfT (lF es k.2).1,(lF es k.2).2)
  else if(k.1:Int)=2 then((treeF es 3 k.2).1.restrict [],(treeF es 3 k.2).2)
  else if(k.1:Int)=3 then((boundF es k.2).1.compl,(boundF es k.2).2)
  else boundF es k.2
theorem regionF_ok{es:List Int}: ∀{d a:Nat},a≤es.length→TrOk (18*2^d) (regionF es d a).1∧(regionF es d a).2≤es.length
 |0,a,ha=>by
  have h0:=nextF_le (n:=6) ha
  rw[regionF]
  try dsimp only
  split
  ·obtain⟨h1,h2⟩:=lF_ok h0;exact⟨half_ok h1,h2⟩
  ·split
   ·obtain⟨h1,h2⟩:=tree_ok (d:=3) h0 (by decide);exact⟨h1.restrict [],h2⟩
   ·split
    ·obtain⟨h1,h2⟩:=boundF_ok h0;exact⟨h1.compl,h2⟩
    ·exact boundF_ok h0
 |d+1,a,ha=>by
  have h0:=nextF_le (n:=6) ha
  have hp:18≤18*2^(d+1):=Nat.le_mul_of_pos_right _ (Nat.pow_pos (by decide))
  rw[regionF]
  try dsimp only
  split
  ·obtain⟨h1,h2⟩:=regionF_ok (d:=d) h0
   obtain⟨h3,h4⟩:=regionF_ok (d:=d) (nextF_le (n:=4) h2)
   exact⟨(h1.merge h3).mono (by rw[Nat.pow_succ];omega),h4⟩
  ·split
   ·obtain⟨h1,h2⟩:=lF_ok h0;exact⟨(half_ok h1).mono hp,h2⟩
   ·split
    ·obtain⟨h1,h2⟩:=tree_ok (d:=3) h0 (by decide);exact⟨(h1.restrict []).mono hp,h2⟩
    ·split
     ·obtain⟨h1,h2⟩:=boundF_ok h0;exact⟨h1.compl.mono hp,h2⟩
     ·obtain⟨h1,h2⟩:=boundF_ok h0;exact⟨h1.mono hp,h2⟩
def fewF(es:List Int)(a:Nat):Tr×Nat:=
 let k:=nextF es 4 a
 if(k.1:Int)=0 then(halfT (lF es k.2).1,(lF es k.2).2)
 else if(k.1:Int)=1 then((treeF es 2 k.2).1.restrict [],(treeF es 2 k.2).2)
 else(buildR [(convexF es k.2).1] 2,(convexF es k.2).2)
end Go.Sx
end

section
set_option maxRecDepth 100000
namespace Go.Sx
open Go
inductive OT where
 |z (π:List (Nat×Bool))
 |q (i:Nat) (t:OT)
 |a (i:Nat) (t:OT)
 |c (i:Nat) (t r:OT)
def OT.sz:OT→Nat
 | .z _=>0
 | .q _ t=>t.sz+1
 | .a _ t=>t.sz+1
 | .c _ t r=>t.sz+r.sz+1
def OT.d:OT→Nat
 | .z π=>π.length
 | .q _ t=>t.d+1
 | .a _ t=>t.d+1
 | .c _ t r=>Nat.max (t.d+1) r.d
section
variable {P:Program} {ops:Array Oper} {Q:Exit→Act→World→Prop} {S:World→Prop} {π₂:List (Nat×Bool)}
def dwN(P:Program)(ops:Array Oper)(Q:Exit→Act→World→Prop)(K:(World→Prop)→Act→World→Prop):List Nat→OT→(World→Prop)→Act→World→Prop
 |ks, .z π,S,a,w=>dwT P ops Q K ks π S a w
 |ks, .q i t,S,a,w=> ∃o v,ops[i]? =some o∧S w∧YieldsIf P ops S o v a∧dwN P ops Q K ks t S (a.put o.dst v) w
 |ks, .a i t,S,a,w=>wpOp P ops Q i (grS S (dwN P ops Q K ks t)) a w∧
   ∀j,(h:j∈ks)→wpOp P ops Q j (grS S (dwN P ops Q K (without ks j) (.a i t))) a w
 |ks, .c i t r,S,a,w=>wpOp P ops Q i (grS S (dwN P ops Q K ks t)) a w∧dwN P ops Q K ks r S a w∧
   ∀j,(h:j∈ks)→wpOp P ops Q j (grS S (dwN P ops Q K (without ks j) (.c i t r))) a w
termination_by ks t=>ks.length+t.sz
decreasing_by
 all_goals (first|(have:=without_lt h;simp only[OT.sz] at*;omega)|(simp only[OT.sz];omega))
def orderOkN(ops:Array Oper)(fin:Nat→Bool)(π₂:List (Nat×Bool)):Nat→Bool→List Nat→OT→Array Bool→List Nat→Bool
 |0,_,_,_,_,_=>false
 |n+1,false,ks, .z π,l,_=>orderOkG ops fin π₂ n ks π l
 |_+1,true,_, .z _,_,_=>false
 |n+1,false,ks, .q i t,l,_=>takeOk ops fin l i&&orderOkN ops fin π₂ n false ks t (l.setIfInBounds i true) []
 |_+1,true,_, .q _ _,_,_=>false
 |n+1,true,ks, .a i t,l,rs=>rs.all (fun j=>Nat.beq j i)&&orderOkN ops fin π₂ n false ks t (l.setIfInBounds i true) []
 |n+1,false,ks, .a i t,l,_=>!(Region.ready .any ops l).isEmpty&&(Region.ready .any ops l).all (fun j=>Nat.beq j i||ks.contains j)&&orderOkN ops fin π₂ n false ks t (l.setIfInBounds i true) []&&ks.all fun j=>orderOkN ops fin π₂ n false (without ks j) (.a i t) (l.setIfInBounds j true) []
 |n+1,true,ks, .c i t r,l,rs=>orderOkN ops fin π₂ n false ks t (l.setIfInBounds i true) []&&orderOkN ops fin π₂ n true ks r l (without rs i)
 |n+1,false,ks, .c i t r,l,_=>!(Region.ready .any ops l).isEmpty&&orderOkN ops fin π₂ n false ks t (l.setIfInBounds i true) []&&orderOkN ops fin π₂ n true ks r l (without ((Region.ready .any ops l).filter fun j=>!ks.contains j) i)&&ks.all fun j=>orderOkN ops fin π₂ n false (without ks j) (.c i t r) (l.setIfInBounds j true) []
end
section
variable {P:Program} {GB:Gh} {C:Ctx} {n:Nat} {fr fr':FrF} {own own' own0 own1 own1':List OwnD} {bs bs0 bs1 bs1':List BufD} {ops:Array Oper} {Q:Exit→Act→World→Prop} {fd:List FD} {π₂:List (Nat×Bool)} {t r:OT}
abbrev dnK (P:Program) (ops:Array Oper) (Q:Exit→Act→World→Prop) (K:(World→Prop)→Act→World→Prop) (t:OT):List Nat→(World→Prop)→Act→World→Prop:=fun ks S=>dwN P ops (NoPan Q) K ks t S
end
end Go.Sx
end

section
set_option maxRecDepth 100000
namespace Go.Sx
open Go Go.Proofs
theorem lb_app{c:List LnQ}{l:LnQ}(hc: ∀m∈c,LB m)(hl:LB l): ∀m∈c++[l],LB m:=by
 rw[List.forall_mem_append]
 exact⟨hc,by simpa using hl⟩
theorem LB.rev{l:LnQ}(h:LB l):LB l.rev:=⟨⟨by rw[show l.rev.a= -l.a from rfl,Int.natAbs_neg];exact h.bl.a,by rw[show l.rev.b= -l.b from rfl,Int.natAbs_neg];exact h.bl.b,by rw[show l.rev.c= -l.c from rfl,Int.natAbs_neg];exact h.bl.c⟩⟩
set_option maxHeartbeats 2000000 in
theorem q_Place{GB:Gh}{c:List LnQ}{l:LnQ}(hc: ∀m∈c,LB m)(hok: ∀m∈c,m.ok)(hn:c.length≤900)(hl:LB l)(hlo:l.ok):PF GB Tryz.prog 82 [.sl (c.map eL),eL l] (vI (placeL c l)):=by
 have hcl:=mapL_len c
 refine fn Tryz.func82 J J Tryz.ntmps82 J J (fun C=>?_)
 refine ro0 J J<|ap (c.map eL) J J (slOkL _) rfl<|rf J J<|apf ((c++[l]).map eL) rfl (by rw[List.map_append];rfl) (slOkL [l]) rfl<|?_
 refine cl rfl (q_Inner (c:=c++[l]) (lb_app hc hl) (ok_app hok hlo) (by simp;omega)) rfl<|ro0 J J<|ap (c.map eL) J J (slOkL _) rfl<|cl rfl (q_sRev (l:=l)) rfl<|?_
 refine rf J J<|apf ((c++[l.rev]).map eL) rfl (by rw[List.map_append];rfl) (slOkL [l.rev]) rfl<|cl rfl (q_Inner (c:=c++[l.rev]) (lb_app hc hl.rev) (ok_app hok hlo.rev) (by simp;omega)) rfl<|?_
 refine csb 31 J J J (fun hg31=>?_) (fun hg31=>?_)
 ·
  refine bb J J J (fun hc33=>?_) (fun hc33=>?_)
  ·
   exact rz rfl (by show vI 0=vI _;congr 1;unfold placeL;simp_all)
  ·
   refine bb J J J (fun hc34=>?_) (fun hc34=>?_)
   ·
    exact rz rfl (by show vI 1=vI _;congr 1;unfold placeL;simp_all)
   ·
    exact rz rfl (by simp[hg31] at hc34)
 ·
  refine bb J J J (fun hc34=>?_) (fun hc34=>?_)
  ·
   exact rz rfl (by simp[hg31] at hc34)
  ·
   exact rz rfl (by show vI (-1)=vI _;congr 1;unfold placeL;simp_all)
theorem takeWhile_len{α:Type}{p:α→Bool}: ∀{xs:List α} {n:Nat},n≤xs.length→(∀j (h:j<xs.length),j<n→p xs[j]=true)→(∀h:n<xs.length,p xs[n]=false)→(xs.takeWhile p).length=n
 |[],n,h,_,_=>by simp at h;subst h;rfl
 |x::xs,0,_,_,h3=>by
  have:=h3 (by simp)
  simp only[List.getElem_cons_zero] at this
  simp[List.takeWhile_cons,this]
 |x::xs,n+1,h1,h2,h3=>by
  have hx:=h2 0 (by simp) (by omega)
  simp only[List.getElem_cons_zero] at hx
  rw[List.takeWhile_cons,if_pos hx,List.length_cons]
  rw[takeWhile_len (n:=n) (by simpa using h1) (fun j h hj=>by have:=h2 (j+1) (by simpa using h) (by omega);simpa using this) (fun h=>by have:=h3 (by simpa using h);simpa using this)]
theorem angIdx_eq{xs:List LnQ}{l:LnQ}{n:Nat}(h1:n≤xs.length)(h2: ∀j (h:j<xs.length),j<n→angleQ xs[j].dir l.dir<0)(h3: ∀h:n<xs.length,¬angleQ xs[n].dir l.dir<0):angIdx xs l=n:=
 takeWhile_len h1 (fun j h hj=>decide_eq_true (h2 j h hj)) (fun h=>decide_eq_false (h3 h))
theorem canonIns_old{xs:List LnQ}{l:LnQ}{n:Nat}(hn:angIdx xs l=n)(h:n<xs.length)(e:xs[n]=l):canonIns xs l=xs:=by
 unfold canonIns;rw[hn,if_pos (by rw[List.getElem?_eq_getElem h,e])]
theorem canonIns_new{xs:List LnQ}{l:LnQ}{n:Nat}(hn:angIdx xs l=n)(h: ∀h:n<xs.length,xs[n]≠l):canonIns xs l=xs.take n++l::xs.drop n:=by
 unfold canonIns
 rw[hn,if_neg]
 intro e
 obtain⟨h1,h2⟩:=List.getElem?_eq_some_iff.1 e
 exact h h1 h2
theorem slOkLt(xs:List LnQ)(n:Nat):slOk 6 ((xs.map eL).take n):=fun d hd=>slOkL xs d (List.mem_of_mem_take hd)
theorem slOkLd(xs:List LnQ)(n m:Nat):slOk 6 (((xs.map eL).take n).drop m):=fun d hd=>slOkL xs d (List.mem_of_mem_take (List.mem_of_mem_drop hd))
theorem slOkLi(xs:List LnQ)(n m:Nat)(l:LnQ):slOk 6 ([eL l]++((xs.map eL).take n).drop m):=fun d hd=>by
 rcases List.mem_append.1 hd with h|h
 ·exact slOkL [l] d h
 ·exact slOkLd xs n m d h
structure Cst (c:List LnQ) (k:Nat) (xs:List LnQ):Prop where
 le:k≤c.length
 f:canonF c (c.drop k) xs=canonL c
 m: ∀m∈xs,m∈c
 n:xs.length≤k
theorem Cst.skip{c xs:List LnQ}{k:Nat}(h:Cst c k xs)(hk:k<c.length)(e:(partL c[k] c IvQ.all).isSome=false):Cst c (k+1) xs:=by
 have:=h.f
 rw[List.drop_eq_getElem_cons hk,canonF,e] at this
 exact⟨hk,this,h.m,by have:=h.n;omega⟩
theorem Cst.ins{c xs ys:List LnQ}{k:Nat}(h:Cst c k xs)(hk:k<c.length)(e:(partL c[k] c IvQ.all).isSome=true)(hy:canonIns xs c[k]=ys)(hl:ys.length≤xs.length+1):Cst c (k+1) ys:=by
 have:=h.f
 rw[List.drop_eq_getElem_cons hk,canonF,e,if_pos rfl,hy] at this
 refine⟨hk,this,fun m hm=>?_,by have:=h.n;omega⟩
 rw[←hy] at hm
 rcases mem_canonIns.1 hm with rfl|hm
 ·exact List.getElem_mem hk
 ·exact h.m m hm
theorem Cst.done{c xs:List LnQ}{k:Nat}(h:Cst c k xs)(hk:k=c.length):canonL c=xs:=by
 have:=h.f
 rw[hk,List.drop_length,canonF] at this
 exact this.symm
def canonB(c:List LnQ):Bool:=if(((c.map eL).length:Nat):Int)=0 then true else decide ((0:Int)<((((canonL c).map eL).length:Nat):Int))
theorem Cst.nil(c:List LnQ):Cst c 0 []:=⟨Nat.zero_le _,rfl,fun m hm=>absurd hm (by simp),Nat.le_refl _⟩
set_option maxHeartbeats 4000000 in
theorem q_Canon{GB:Gh}{c:List LnQ}(hc: ∀m∈c,LB m)(hok: ∀m∈c,m.ok)(hn:c.length≤1000):PF GB Tryz.prog 140 [.sl (c.map eL)] (.tp [.sl ((canonL c).map eL),vB (canonB c)]):=by
 have hcl:=mapL_len c
 refine fn (fu:=⟨16⟩) Tryz.func140 J J Tryz.ntmps140 J J (fun C=>?_)
 refine eqF 11 (.d (vI (c.length:Nat))) rfl (by rw[hcl];rfl) ?_
 refine gx rfl<|?_
 refine nlC 4 rfl ?_
 refine lp (X:=List LnQ×Nat) (fun⟨xs,k⟩=>[(12, .d (vI (k:Nat))),(11, .d (vI (c.length:Nat))),(10, .d (.sl (c.map eL))),(0, .d (.sl (c.map eL))),(4, .d (.sl (xs.map eL)))]) (fun⟨xs,k⟩=>[]) (fun⟨xs,k⟩=>Cst c k xs) (fun⟨xs,k⟩=>c.length-k) ⟨[],0⟩ rfl (Cst.nil c) (fun _=>rfl) (fun⟨xs,k⟩ hk=>?_)
 try dsimp only at hk⊢
 have hS:=hk
 refine br J J J (fun hc13=>?_) (fun hc13=>?_)
 ·
  have hk:k<c.length:=by omega
  obtain⟨m,hm⟩: ∃m,m=c[k]:=⟨_,rfl⟩
  haveI hmb:LB m:=hm▸hc _ (List.getElem_mem hk)
  have hmo:m.ok:=hm▸hok _ (List.getElem_mem hk)
  have hxl:=mapL_len xs
  have hxn:=hS.n
  refine ix (fu:=⟨1⟩) _ rfl (mapL_get hk) rfl<|?_
  refine eqF 16 (.d (eL m)) rfl (by rw[hm];rfl) ?_
  refine gx rfl<|cl rfl (q_edge hc hok hn hk) rfl<|?_
  refine bb (fu2:=⟨8⟩) J J J (fun hc24=>?_) (fun hc24=>?_)
  ·
   have hinv:Cst c (k+1) xs:=hS.skip hk (by rw[←edgeV_snd];simpa using hc24)
   exact at_ ⟨xs,k+1⟩ (by dsimp only;exact⟨hinv,(by omega)⟩)
  ·
   have hyes:(partL c[k] c IvQ.all).isSome=true:=by rw[←edgeV_snd];simpa using hc24
   refine mg (fu:=⟨6⟩) (X:=Unit) (fun _=>[(12, .d (vI (k:Nat))),(11, .d (vI (c.length:Nat))),(10, .d (.sl (c.map eL))),(0, .d (.sl (c.map eL))),(4, .d (.sl (xs.map eL))),(6, .ov 6 0),(9, .d (vI (angIdx xs m:Nat)))]) (fun _=>[(6,some (.o 46 [.d ((.v (.bool (decide (m.a<0))))), .d (dN m.a.natAbs), .d ((.v (.bool (decide (m.b<0))))), .d (dN m.b.natAbs), .d ((.v (.bool (decide (m.c<0))))), .d (dN m.c.natAbs)] true))]) (fun _=>True) [12,11,10,0,4,6,9] [6] rfl ?_ (fun _=>rfl) (fun _ _=>?_)
   ·
    refine gx rfl<|?_
    refine lp (fu:=⟨6⟩) (X:=Nat) (fun n=>[(12, .d (vI (k:Nat))),(11, .d (vI (c.length:Nat))),(10, .d (.sl (c.map eL))),(0, .d (.sl (c.map eL))),(4, .d (.sl (xs.map eL))),(6, .ov 6 0),(9, .d (vI (n:Nat)))]) (fun n=>[(6,some (.o 46 [.d ((.v (.bool (decide (m.a<0))))), .d (dN m.a.natAbs), .d ((.v (.bool (decide (m.b<0))))), .d (dN m.b.natAbs), .d ((.v (.bool (decide (m.c<0))))), .d (dN m.c.natAbs)] true))]) (fun n=>n≤xs.length∧ ∀j (h:j<xs.length),j<n→angleQ xs[j].dir m.dir<0) (fun n=>xs.length-n) 0 rfl ⟨Nat.zero_le _,fun j _ hj=>absurd hj (by omega)⟩ (fun _=>rfl) (fun n hk=>?_)
    obtain⟨n1,n2⟩:=hk
    refine csS J J J J (fun hg28=>?_) (fun hg28=>?_)
    ·
     refine ix _ rfl (mapL_get (by omega)) rfl<|?_
     haveI:LB (xs[n]'(by omega)):=hc _ (hS.m _ (List.getElem_mem _))
     refine cl rfl (q_Dir (l:=xs[n]'(by omega))) rfl<|cl rfl (q_Dir (l:=m)) rfl<|cl rfl (q_Angle (u:=(xs[n]'(by omega)).dir) (v:=m.dir)) rfl<|?_
     refine br J J J (fun hc39=>?_) (fun hc39=>?_)
     ·
      exact at_ (n+1) ⟨⟨by omega,fun j h hj=>by by_cases q:j=n;(subst q;exact hc39);exact n2 j h (by omega)⟩,(by omega)⟩
     ·
      have hidx:angIdx xs m=n:=angIdx_eq n1 n2 (fun h=>hc39)
      exact at_ () trivial
    ·
     have hidx:angIdx xs m=n:=angIdx_eq n1 n2 (fun h=>absurd h (by omega))
     exact at_ () trivial
   ·
    obtain⟨n,hnx⟩: ∃n,angIdx xs m=n:=⟨_,rfl⟩
    rw[hnx]
    have hnl:n≤xs.length:=by rw[←hnx];unfold angIdx;exact(List.takeWhile_sublist _).length_le
    have hcb: ∀m∈xs,LB m:=fun m hm=>hc m (hS.m m hm)
    refine csS J J J J (fun hg45=>?_) (fun hg45=>?_)
    ·
     refine ix _ rfl (mapL_get (by omega)) rfl<|cl rfl (q_LCmp (l:=xs[n]'(by omega)) (m:=m) (hl:=hcb _ (List.getElem_mem (by omega)))) rfl<|?_
     refine br J J J (fun hc54=>?_) (fun hc54=>?_)
     ·
      have hn46:n<xs.length:=by omega
      have hinv:Cst c (k+1) xs:=hS.ins hk hyes (by rw[←hm];exact canonIns_old hnx hn46 ((lcmp_zero _ m).1 hc54)) (by omega)
      exact at_ ⟨xs,k+1⟩ (by dsimp only;exact⟨hinv,(by omega)⟩)
     ·
      have hnew: ∀h:n<xs.length,xs[n]≠m:=fun h e=>hc54 ((lcmp_zero _ m).2 e)
      obtain⟨ys,hys⟩: ∃ys,ys=xs.take n++m::xs.drop n:=⟨_,rfl⟩
      have hinv:Cst c (k+1) ys:=hS.ins hk hyes (by rw[←hm,canonIns_new hnx hnew,hys]) (by rw[hys];simp;omega)
      refine s3 n _ J J J J (slOkL _) (by rw[hxl];exact hnl) rfl<|ro J J<|sc' n xs.length _ J J (by rw[hxl]) rfl (slOkL _) hnl (by omega) rfl<|?_
      refine ap _ J J (slOkLd _ _ _) rfl<|apf (hv:=by simp only[allP];exact⟨by kernel_rfl,by omega⟩) (ho:=fun _=>⟨slOkLt _ _,by simp⟩) (ys.map eL) rfl (by rw[hys,List.map_append,List.map_cons,List.map_take,List.map_drop,List.take_of_length_le (l:=xs.map eL) (i:=xs.length) (by simp)];rfl) (slOkLi _ _ _ _) rfl<|?_
      exact at_ ⟨ys,k+1⟩ (by dsimp only;exact⟨hinv,(by omega)⟩)
    ·
     have hnew: ∀h:n<xs.length,xs[n]≠m:=fun h=>absurd h (by omega)
     obtain⟨ys,hys⟩: ∃ys,ys=xs.take n++m::xs.drop n:=⟨_,rfl⟩
     have hinv:Cst c (k+1) ys:=hS.ins hk hyes (by rw[←hm,canonIns_new hnx hnew,hys]) (by rw[hys];simp;omega)
     refine s3 n _ J J J J (slOkL _) (by rw[hxl];exact hnl) rfl<|ro J J<|sc' n xs.length _ J J (by rw[hxl]) rfl (slOkL _) hnl (by omega) rfl<|?_
     refine ap _ J J (slOkLd _ _ _) rfl<|apf (hv:=by simp only[allP];exact⟨by kernel_rfl,by omega⟩) (ho:=fun _=>⟨slOkLt _ _,by simp⟩) (ys.map eL) rfl (by rw[hys,List.map_append,List.map_cons,List.map_take,List.map_drop,List.take_of_length_le (l:=xs.map eL) (i:=xs.length) (by simp)];rfl) (slOkLi _ _ _ _) rfl<|?_
     exact at_ ⟨ys,k+1⟩ (by dsimp only;exact⟨hinv,(by omega)⟩)
 ·
  have hfin:canonL c=xs:=hS.done (by have:=hS.le;omega)
  refine cs 71 J J J (fun hg71=>?_) (fun hg71=>?_)
  ·
   exact rz rfl (by rw[canonB,if_pos hg71,hfin];rfl)
  ·
   exact rz rfl (by rw[canonB,if_neg hg71,hfin];rfl)
end Go.Sx
end
