import Derived.Test.YtefoocgiaegobaaGreatDoorPa12
set_option linter.all false
set_option maxHeartbeats 4000000
set_option maxRecDepth 100000
section
namespace Go.Sx
open Go Go.Proofs Tryz
variable {GB:Gh}
def Tr.val:Tr->aa->Bool
 | .leaf b,_=>b
 | .node l x y,p=>if 0<l.value p then x.val p else y.val p
def Tr.lns:Tr->List ab
 | .leaf _=>[]
 | .node l x y=>l::(x.lns++y.lns)
def Ef{P:ab->Prop}: ∀{t:Tr},t.all P↔ ∀l∈t.lns,P l
 | .leaf _=>⟨fun _ l hl=>(by cases hl),fun _=>trivial⟩
 | .node l x y=>by
  show(P l/\x.all P/\y.all P)↔ ∀m∈l::(x.lns++y.lns),P m;rw[Ef (t:=x),Ef (t:=y)];constructor
  ·rintro ⟨h0,h1,h2⟩ m hm
   rcases aU.1 hm with rfl|hm
   ·exact h0
   ·rcases bV.1 hm with hm|hm
    ·exact h1 m hm
    ·exact h2 m hm
  ·intro h
   exact⟨h l aQ,fun m hm=>h m (aJ _ (bU _ hm)),fun m hm=>h m (aJ _ (bN _ hm))⟩
def qI{t:Tr}(h:t.all ab.ok): ∀l∈t.lns,l.ok:=Ef.1 h
def im(L:List ab)(p:aa):Prop:= ∀l∈L,l.value p≠0
def im.sub{L M:List ab}{p:aa}(h:im L p)(k: ∀l∈M,l∈L):im M p:=fun l hl=>h l (k l hl)
def im.l{l:ab}{x y:Tr}{p:aa}(h:im (Tr.node l x y).lns p):l.value p≠0:=h l aQ
def im.x{l:ab}{x y:Tr}{p:aa}(h:im (Tr.node l x y).lns p):im x.lns p:=h.sub fun m hm=>aJ _ (bU _ hm)
def im.y{l:ab}{x y:Tr}{p:aa}(h:im (Tr.node l x y).lns p):im y.lns p:=h.sub fun m hm=>aJ _ (bN _ hm)
def opB(op:Int)(a b:Bool):Bool:=if op=1 then a||b else if op=2 then a&&b else if op=3 then a&&!b else a !=b
def Tr.val_join(l:ab)(X Y:Tr)(p:aa):(Tr.joinQ l X Y).val p=(Tr.node l X Y).val p:=by
 unfold Tr.joinQ;split
 ·rename_i h
  cases X<;>cases Y<;>simp[Tr.isLeaf,Tr.code] at h
  subst h;simp[Tr.val]
 ·rfl
def Tr.val_pos{l:ab}{x y:Tr}{p:aa}(h:0<l.value p):(Tr.node l x y).val p=x.val p:=by rw[Tr.val,if_pos h]
def Tr.val_neg{l:ab}{x y:Tr}{p:aa}(h: ¬0<l.value p):(Tr.node l x y).val p=y.val p:=by rw[Tr.val,if_neg h]
def Xz{c:bw}{l:ab}(hc:gA c)(hl:l.ok)(hb:e7 c l.rev=false){p:aa}(hp:cd c p)(h0:l.value p≠0):0<l.value p:=by
 by_cases h:0<l.value p
 ·exact h
 ·exfalso
  have:e7 c l.rev=true:=(FK hc hl.rev).2 ⟨p,hp,by rw[m8];grind⟩;rw[hb] at this;cases this
def Xx{c:bw}{l:ab}(hc:gA c)(hl:l.ok)(hb:e7 c l=false){p:aa}(hp:cd c p): ¬0<l.value p:=fun h=>by
 have:e7 c l=true:=(FK hc hl).2 ⟨p,hp,h⟩;rw[hb] at this;cases this
def Tr.val_restrict: ∀(t:Tr) (c:bw) (p:aa),t.all ab.ok->gA c->cd c p->im t.lns p->(t.restrict c).val p=t.val p
 | .leaf _,_,_,_,_,_,_=>rfl
 | .node l x y,c,p,⟨hl,hx,hy⟩,hc,hp,ho=>by
  cases hb:e7 c l.rev with
  |false=>rw[Tr.restrict_A _ _ hb,x.val_restrict c p hx hc hp ho.x,Tr.val_pos (Xz hc hl hb hp ho.l)]
  |true=>
   cases hb2:e7 c l with
   |false=>rw[Tr.restrict_B _ _ hb hb2,y.val_restrict c p hy hc hp ho.y,Tr.val_neg (Xx hc hl hb2 hp)]
   |true=>
    rw[Tr.restrict_C _ _ hb hb2,Tr.val_join];obtain⟨g1,i1⟩:=Ad hc hl hb2;obtain⟨g2,i2⟩:=Ad hc hl.rev hb;by_cases h:0<l.value p
    ·rw[Tr.val_pos h,Tr.val_pos h,x.val_restrict _ p hx g1 ((i1 p).2 ⟨hp,h⟩) ho.x]
    ·rw[Tr.val_neg h,Tr.val_neg h,y.val_restrict _ p hy g2 ((i2 p).2 ⟨hp,by rw[m8];have:=ho.l;grind⟩) ho.y]
def Lf: ∀(L:List ab) (u:aa) (p:aa),im L p-> ∃e:Rat,0<e/\ ∀d,0<=d->d<=e->im L (bc p u d)
 |[],u,p,_=>⟨1,by decide,fun d _ _ l hl=>by cases hl⟩
 |l::L,u,p,h=>by
  obtain⟨e,he,hm⟩:=Lf L u p (h.sub fun m hm=>aJ _ hm);have h0:=h l aQ;have key: ∃f:Rat,0<f/\ ∀d,0<=d->d<=f->l.value (bc p u d)≠0:=by
   by_cases hk:l.nor.dot u=0
   ·exact⟨1,by decide,fun d _ _=>by rw[ic,hk];grind⟩
   ·generalize hA:l.value p=A at*
    generalize hB:l.nor.dot u=B at*;rcases dC A with h|h|h
    ·exact absurd h h0
    ·rcases dC B with k|k|k
     ·exact absurd k hk
     ·exact⟨1,by decide,fun d hd _=>by rw[ic,hA,hB];have:=bG hd (cY k);grind⟩
     ·refine⟨A/(-B)/2,?_,fun d hd h2=>?_⟩
      ·have:0<A/(-B):=by
        have e1:A/(-B)*(-B)=A:=by grind
        exact(fi (k:= -B) (by grind)).1 (by rw[e1];exact h)
       grind
      ·rw[ic,hA,hB]
       have e1:A/(-B)*(-B)=A:=by grind
       generalize A/(-B)=q at*;have h4:=bG (a:=q/2-d) (b:= -B) (by grind) (by grind);grind
    ·rcases dC B with k|k|k
     ·exact absurd k hk
     ·refine⟨(-A)/B/2,?_,fun d hd h2=>?_⟩
      ·have:0<(-A)/B:=by
        have e1:(-A)/B*B= -A:=by grind
        exact(fi (k:=B) k).1 (by rw[e1];grind)
       grind
      ·rw[ic,hA,hB]
       have e1:(-A)/B*B= -A:=by grind
       generalize (-A)/B=q at*;have h4:=bG (a:=q/2-d) (b:=B) (by grind) (by grind);grind
     ·exact⟨1,by decide,fun d hd _=>by rw[ic,hA,hB];have:=bG hd (b:= -B) (by grind);grind⟩
  obtain⟨f,hf,hk⟩:=key;refine⟨if e<=f then e else f,by split<;>assumption,fun d hd hde m hm'=>?_⟩;have h1:d<=e/\d<=f:=by split at hde<;>grind
  rcases aU.1 hm' with rfl|hm'
  ·exact hk d hd h1.2
  ·exact hm d hd h1.1 m hm'
def IB{c:bw}{p:aa}(hp:cd c p): ∀(L:List ab),(∀l∈L,l.ok)-> ∃q,cd c q/\im L q
 |[],_=>⟨p,hp,fun l hl=>by cases hl⟩
 |l::L,h=>by
  obtain⟨q,hq,ho⟩:=IB hp L fun m hm=>h m (aJ _ hm);by_cases h0:l.value q=0
  ·have hn:=p9 (h l aQ).ne
   obtain⟨e,he,hm⟩:=hq.open l.nor;obtain⟨f,hf,hk⟩:=Lf L l.nor q ho;refine⟨bc q l.nor (if e<=f then e else f),hm _ (by split<;>grind) (by split<;>grind),fun m hm'=>?_⟩;rcases aU.1 hm' with rfl|hm'
   ·rw[ic,h0]
    have:=bv (a:=if e<=f then e else f) (b:=m.nor.dot m.nor) (by split<;>assumption) hn;grind
   ·exact hk _ (by split<;>grind) (by split<;>grind) m hm'
  ·exact⟨q,hq,fun m hm=>by rcases aU.1 hm with rfl|hm;exact h0;exact ho m hm⟩
def Tr.Red:Tr->bw->Prop
 | .leaf _,_=>True
 | .node l x y,c=>e7 c l=true/\e7 c l.rev=true/\x.Red (gi c l)/\y.Red (gi c l.rev)/\ ¬(x.isLeaf=true/\y.isLeaf=true/\x.code=y.code)
def ab.same(l m:ab):Prop:=m=l\/m=l.rev
instance (l m:ab):Decidable (l.same m):=inferInstanceAs (Decidable (_\/_))
def Tr.cnt(l:ab):Tr->Nat
 | .leaf _=>0
 | .node m x y=>(if l.same m then 1 else 0)+(x.cnt l+y.cnt l)
def YJ{l m:ab}(h:l.same m){p:aa}(hp:l.value p=0):m.value p=0:=by
 rcases h with rfl|rfl
 ·exact hp
 ·rw[m8,hp];rfl
def Z'(l:ab)(c:bw):Prop:= ∃p,cd c p/\l.value p=0
def inB(c:bw)(p:aa):Bool:=c.all fun s=>decide (0<s.l.value p)
def Zu(P:List aa)(l:ab)(t:Tr):Prop:=t.all fun m=>l.same m\/ ∀p,l.value p=0->m.value p=0->p∈P
def Iz(l:ab):l.rev.rev=l:=by cases l;simp[ab.rev]
def ab.same.symm{l m:ab}(h:l.same m):m.same l:=by
 rcases h with rfl|rfl
 ·exact .inl J
 ·exact .inr (Iz l).symm
def ab.same.trans{l m n:ab}(h:l.same m)(k:m.same n):l.same n:=by
 rcases h with rfl|rfl
 ·exact k
 ·rcases k with rfl|rfl
  ·exact .inr J
  ·exact .inl (Iz l)
def VH(K:List ab)(t:Tr):Prop:=t.all fun n=> ∃m∈K,m.same n
def aEv(l m:ab):aa:=l.at (-(l.cutC m/l.cutK m))
def Kc(t:Tr):List ab->Nat
 |[]=>0
 |l::K=>t.cnt l+Kc t K
def Ks(n:ab):List ab->Nat
 |[]=>0
 |l::K=>(if l.same n then 1 else 0)+Ks n K
def Tr.chooseL(op:Int)(b:Bool)(t:Tr)(c:List ab):Tr:=
 if op=1/\b=true then .leaf true
 else if(op=2\/op=3)/\b=false then .leaf false
 else if(op=3\/op=4)/\b=true then(t.restrictL c).compl else t.restrictL c
def Tr.mergeL(op:Int):Tr->Tr->List ab->Tr
 | .leaf b,u,c=>u.chooseL op b c
 | .node l x y,u,c=>if ye c l=1 then x.mergeL op u c else if ye c l= -1 then y.mergeL op u c else joinQ l (x.mergeL op u (p6 (c++[l]))) (y.mergeL op u (p6 (c++[l.rev])))
structure ZS (L:List ab) (a b:Tr):Prop where
 oa:a.all ab.ok
 ob:b.all ab.ok
 ok: ∀l∈L,l.ok
 la: ∀l∈a.lns,l∈L
 lb: ∀l∈b.lns,l∈L
def mi(x:Rat):List Rat->List Rat
 |[]=>[x]
 |u::t=>if u<x then u::mi x t else if u=x then u::t else x::u::t
def CI(l:List Rat):List Rat:=l.foldl (fun out x=>mi x out) []
def nO:List Rat->List Rat
 |a::b::t=>(a+b)/2::nO (b::t)
 |_=>[]
def lh:List Rat->List Rat
 |[]=>[0]
 |a::t=>(a-1)::(nO (a::t)++[(a::t).getLast (by simp)+1])
def tE{x y:Rat}: ∀{l:List Rat},y∈mi x l↔y=x\/y∈l
 |[]=>by simp[mi]
 |u::t=>by
  rw[mi];split
  ·rw[aU,tE (l:=t),aU];grind
  ·split
   ·rename_i h;subst h;simp
   ·simp
def xc{x:Rat}: ∀{l:List Rat},l.Pairwise (· < ·)->(mi x l).Pairwise (· < ·)
 |[],_=>by simp[mi]
 |u::t,h=>by
  rw[bW] at h;rw[mi];split
  ·rename_i hu
   rw[bW];refine⟨fun y hy=>?_,xc h.2⟩;rcases tE.1 hy with rfl|hy
   ·exact hu
   ·exact h.1 y hy
  ·rename_i hu
   split
   ·rw[bW];exact h
   ·rename_i hn
    have hx:x<u:=by grind
    rw[bW,bW];refine⟨fun y hy=>?_,h⟩;rcases aU.1 hy with rfl|hy
    ·exact hx
    ·have:=h.1 y hy;grind
def LT: ∀{l:List Rat} (h:l.Pairwise (· < ·)) (hn:l≠[]),∀y∈l,y<=l.getLast hn
 |[a],_,_,y,hy=>by rw[aW] at hy;subst hy;exact dV
 |a::b::t,h,_,y,hy=>by
  rw[bW] at h;rw[List.getLast_cons (by simp)];have ih:=LT h.2 (by simp);rcases aU.1 hy with rfl|hy
  ·have:=h.1 b aQ
   have:=ih b aQ;grind
  ·exact ih y hy
def LD:List ab->List Rat
 |[]=>[]
 |a::t=>(if a.b=0 then [a.base.x] else [])++(t.filterMap (fun b=>if crossI a b=0 then none else some (jh a b).x)++LD t)
def yA(a:ab)(x:Rat):Rat:= -(((a.a:Rat)*x+(a.c:Rat))/(a.b:Rat))
def H3(l:List ab)(x:Rat):List Rat:=l.filterMap fun a=>if a.b=0 then none else some (yA a x)
def MC(l:List ab):List aa:=(lh (CI (LD l))).flatMap fun x=>(lh (CI (H3 l x))).map fun y=>⟨x,y⟩
def Zy(l:ab)(p:aa):ab:=if 0<l.value p then l else l.rev
def ml(out:List Rat)(s:aB):List Rat:=if s.nh then(if s.nl then out else mi s.lo out) else mi s.hi (if s.nl then out else mi s.lo out)
def kG(l:List aB):List Rat:=l.foldl ml []
def Aj:List aB->Rat->Int
 |[],_=>0
 |s::t,x=>
  let a:=if s.nl then 1 else bO x s.lo
  let b:=if s.nh then-1 else bO x s.hi
  if 0<a/\b<0 then 2 else if(a=0/\b<=0)\/(b=0/\0<=a) then 1 else Aj t x
def va(l:List aB)(x:Rat):Bool:=decide (Aj l x=2)
def j'(cuts:List Rat)(i:Nat):aB:=⟨if i=0 then 0 else cuts.getD (i-1) 0,if i<cuts.length then cuts.getD i 0 else 0,decide (i=0),decide (i=cuts.length)⟩
def Wg(v w:aB):aB:=⟨v.lo,w.hi,v.nl,w.nh⟩
def oy(cuts:List Rat)(marks:List Bool):Nat->List aB
 |0=>[]
 |k+1=>
  let out:=oy cuts marks k
  if marks.getD k false then
   (if 0<k/\marks.getD (k-1) false=true then(match out.getLast? with
    |some v=>out.dropLast++[Wg v (j' cuts k)]
    |none=>out++[j' cuts k]) else out++[j' cuts k])
  else out
def EK(cuts:List Rat)(marks:List Bool):List aB:=oy cuts marks marks.length
def Jy(op:Int)(x y:Bool):Bool:=if op=2 then x&&y else if op=3 then x&&!y else if op=4 then x !=y else x||y
def vL(op:Int)(a b:List aB):List aB:=EK (kG (a++b)) ((lh (kG (a++b))).map fun t=>Jy op (va a t) (va b t))
def s4(l m:ab)(side:Int):List aB:=
 if crossI l m=0 then(if(m.value l.base).num.sign=side then [aB.all] else [])
 else if(m.value (l.at (ck l (jh l m)+1))).num.sign=side then [⟨ck l (jh l m),0,false,true⟩] else [⟨0,ck l (jh l m),true,false⟩]
def ti(l m:ab):Bool:=decide (crossI l m=0/\(m.value l.base).num.sign=0)
def lG(f:aP)(m:ab)(side:Int):List aP:=if ti f.l m then [] else(vL 2 [f.v] (s4 f.l m side)).map fun v=>⟨f.l,v⟩
def JZ(l:List aB):(kG l).Pairwise (· < ·)/\ ∀y∈kG l,∃s∈l,(s.nl=false/\y=s.lo)\/(s.nh=false/\y=s.hi):=by
 have key: ∀(l:List aB) (o:List Rat),o.Pairwise (· < ·)->(l.foldl ml o).Pairwise (· < ·)/\ ∀y∈l.foldl ml o,y∈o\/ ∃s∈l,(s.nl=false/\y=s.lo)\/(s.nh=false/\y=s.hi):=by
  intro l
  induction l with
  |nil=>intro o h;exact⟨h,fun y hy=> .inl hy⟩
  |cons s t ih=>
   intro o h;have h1:(ml o s).Pairwise (· < ·)/\ ∀y∈ml o s,y∈o\/(s.nl=false/\y=s.lo)\/(s.nh=false/\y=s.hi):=by
    unfold ml
    cases e1:s.nl<;>cases e2:s.nh<;>simp only[if_true,gU,if_false]
    ·refine⟨xc (xc h),fun y hy=>?_⟩
     rcases tE.1 hy with h|h
     ·exact .inr (.inr ⟨trivial,h⟩)
     ·rcases tE.1 h with h|h
      ·exact .inr (.inl ⟨trivial,h⟩)
      ·exact .inl h
    ·refine⟨xc h,fun y hy=>?_⟩
     rcases tE.1 hy with h|h
     ·exact .inr (.inl ⟨trivial,h⟩)
     ·exact .inl h
    ·refine⟨xc h,fun y hy=>?_⟩
     rcases tE.1 hy with h|h
     ·exact .inr (.inr ⟨trivial,h⟩)
     ·exact .inl h
    ·exact⟨h,fun y hy=> .inl hy⟩
   obtain⟨k1,k2⟩:=ih (ml o s) h1.1;refine⟨k1,fun y hy=>?_⟩;rcases k2 y hy with h2|⟨q,hq,h2⟩
   ·rcases h1.2 y h2 with h3|h3
    ·exact .inl h3
    ·exact .inr ⟨s,aQ,h3⟩
   ·exact .inr ⟨q,aJ _ hq,h2⟩
 have:=key l [] List.Pairwise.nil;refine⟨this.1,fun y hy=>?_⟩;rcases this.2 y hy with h|h
 ·cases h
 ·exact h
structure FI (cuts:List Rat) (v:aB):Prop where
 z:sG v
 lo:v.nl=true\/v.lo∈cuts
 hi:v.nh=true\/v.hi∈cuts
def XZ{cuts:List Rat}{i:Nat}(h:i<=cuts.length):FI cuts (j' cuts i):=by
 unfold j';refine⟨⟨fun e=>?_,fun e=>?_⟩,?_,?_⟩
 ·simp only[decide_eq_true_eq] at e;simp[e]
 ·simp only[decide_eq_true_eq] at e;simp[e]
 ·by_cases h0:i=0
  ·left;simp[h0]
  ·right
   simp only[if_neg h0];rw[aX,aZ (by omega)];exact fR _
 ·by_cases h0:i=cuts.length
  ·left;simp[h0]
  ·right
   simp only[if_pos (show i<cuts.length by omega)];rw[aX,aZ (by omega)];exact fR _
def MJ{cuts:List Rat}{marks:List Bool}: ∀{k:Nat},k<=cuts.length+1-> ∀v∈oy cuts marks k,FI cuts v
 |0,_,v,hv=>by cases hv
 |k+1,hk,v,hv=>by
  have ih:=MJ (cuts:=cuts) (marks:=marks) (k:=k) (by omega);have hg:=XZ (cuts:=cuts) (i:=k) (by omega);rw[oy] at hv;split at hv
  ·split at hv
   ·split at hv
    ·rename_i w hw
     rcases bV.1 hv with h|h
     ·exact ih v ((qR _).subset h)
     ·rw[aW] at h;subst h
      have hw':=ih w (oX hw);exact⟨⟨hw'.z.1,hg.z.2⟩,hw'.lo,hg.hi⟩
    ·rcases bV.1 hv with h|h
     ·exact ih v h
     ·rw[aW] at h;subst h;exact hg
   ·rcases bV.1 hv with h|h
    ·exact ih v h
    ·rw[aW] at h;subst h;exact hg
  ·exact ih v hv
def Gj{l:List Rat}:(lh l).length=l.length+1:=by
 have key: ∀(l:List Rat) (a:Rat),(nO (a::l)).length=l.length:=by
  intro l
  induction l with
  |nil=>intro a;rfl
  |cons b t ih=>intro a;rw[nO,cX,ih b,cX]
 cases l with
 |nil=>rfl
 |cons a t=>rw[lh,cX,aM,key];simp
def YK{op:Int}{a b:List aB}: ∀v∈vL op a b,FI (kG (a++b)) v:=fun v hv=>by
 unfold vL EK at hv;refine MJ ?_ v hv;rw[aK,Gj];omega
structure o6 (f:aP):Prop where
 lb:LB f.l
 ok:f.l.ok
 z:sG f.v
 lo:BQ f.v.lo 1200
 hi:BQ f.v.hi 1200
theorem BQ.zero1200:BQ (0:Rat) 1200:=BQ.mono (k:=1) ⟨by decide,by decide⟩ (by decide)
def Sc{l m:ab}(hl:LB l)(hm:LB m)(hlo:l.ok){side:Int}: ∀v∈s4 l m side,sG v/\BQ v.lo 1200/\BQ v.hi 1200:=fun v hv=>by
 unfold s4 at hv;split at hv
 ·split at hv
  ·rw[aW] at hv;subst hv;exact⟨sG.all,BQ.zero1200,BQ.zero1200⟩
  ·cases hv
 ·rename_i hc
  have:=Ou hlo.ne hc;split at hv
  ·rw[aW] at hv;subst hv;exact⟨⟨fun h=>(by cases h),fun _=>J⟩,this,BQ.zero1200⟩
  ·rw[aW] at hv;subst hv;exact⟨⟨fun _=>J,fun h=>(by cases h)⟩,BQ.zero1200,this⟩
def NR{f:aP}{m:ab}(h:o6 f)(hm:LB m){side:Int}: ∀g∈lG f m side,o6 g/\g.l=f.l/\ti f.l m=false:=fun g hg=>by
 unfold lG at hg;split at hg
 ·cases hg
 ·rename_i ho
  obtain⟨v,hv,rfl⟩:=bX.1 hg;have hi:=YK v hv;have bd: ∀y∈kG ([f.v]++s4 f.l m side),BQ y 1200:=fun y hy=>by
   obtain⟨s,hs,h1⟩:=(JZ _).2 y hy;rcases bV.1 hs with hs|hs
   ·rw[aW] at hs;subst hs
    rcases h1 with⟨_,rfl⟩|⟨_,rfl⟩
    ·exact h.lo
    ·exact h.hi
   ·have:=Sc h.lb hm h.ok s hs
    rcases h1 with⟨_,rfl⟩|⟨_,rfl⟩
    ·exact this.2.1
    ·exact this.2.2
  refine⟨⟨h.lb,h.ok,hi.z,?_,?_⟩,J,by simpa using ho⟩
  ·rcases hi.lo with e|e
   ·rw[hi.z.1 e];exact BQ.zero1200
   ·exact bd _ e
  ·rcases hi.hi with e|e
   ·rw[hi.z.2 e];exact BQ.zero1200
   ·exact bd _ e
def n9(acc:aa->Bool):Nat->List aP->List ab->Tr
 |_,[],c=> .leaf (acc (vA c c))
 |0,_::_,_=> .leaf false
 |n+1,f::t,c=> .node f.l (n9 acc n ((f::t).flatMap fun g=>lG g f.l 1) (c++[f.l])) (n9 acc n ((f::t).flatMap fun g=>lG g f.l (-1)) (c++[f.l.rev]))
def Pn{f g:aP}{m:ab}{side:Int}(h:g∈lG f m side):g.l=f.l:=by
 unfold lG at h;split at h
 ·cases h
 ·obtain⟨v,_,rfl⟩:=bX.1 h;rfl
def Bi{acc:aa->Bool}{P:ab->Prop}: ∀{n:Nat} {l:List aP} {c:List ab},(∀f∈l,P f.l)->(n9 acc n l c).all P
 |n,[],c,_=>by unfold n9;trivial
 |0,_::_,_,_=>by unfold n9;trivial
 |n+1,f::t,c,h=>by
  rw[n9];refine⟨h f aQ,Bi fun g hg=>?_,Bi fun g hg=>?_⟩<;>
  ·obtain⟨q,hq,hg⟩:=cS.1 hg
   rw[Pn hg];exact h q hq
def Bc(n:Nat)(l:List aP):Prop:= ∃K:List ab,K.length<=n/\ ∀f∈l,∃m∈K,m.same f.l
def R5{m:ab}(hm:m.Ne):m.value m.base=0:=by
 have h:=pO hm 0;rw[<-rB,ic] at h;grind
def Sj{l m:ab}(h:l.same m)(hm:m.Ne):ti m l=true:=by
 unfold ti;rw[decide_eq_true_iff];refine⟨?_,?_⟩
 ·rcases h with rfl|rfl
  ·unfold crossI;omega
  ·unfold crossI ab.rev
   show(-l.a)*l.b-l.a*(-l.b)=0;grind
 ·rw[jk]
  exact YJ h.symm (R5 hm)
def Bc.split{n:Nat}{f:aP}{t:List aP}(h:Bc (n+1) (f::t))(hok: ∀g∈f::t,o6 g){side:Int}:Bc n ((f::t).flatMap fun g=>lG g f.l side):=by
 obtain⟨K,hK,hs⟩:=h;refine⟨K.filter fun m=>!decide (m.same f.l),?_,fun g hg=>?_⟩
 ·obtain⟨m,hm,hm2⟩:=hs f aQ
  have:(K.filter fun m=>!decide (m.same f.l)).length<K.length:=by
   refine nM.2 ⟨m,hm,by simp[hm2]⟩
  omega
 ·obtain⟨q,hq,hg⟩:=cS.1 hg
  obtain⟨_,e,ho⟩:=NR (hok q hq) (hok f aQ).lb g hg;obtain⟨m,hm,hm2⟩:=hs q hq;refine⟨m,gL.2 ⟨hm,?_⟩,by rw[e];exact hm2⟩;simp only[iQ,decide_eq_false_iff_not];intro h;have:=Sj (h.symm.trans hm2) (hok q hq).ok.ne;rw[this] at ho;cases ho
def Ut{p q r:Bool}{a b c:Nat}(h:Nat.gcd a b≠0):ab.ok ⟨zv p (a/Nat.gcd (Nat.gcd a b) c),zv q (b/Nat.gcd (Nat.gcd a b) c),zv r (c/Nat.gcd (Nat.gcd a b) c)⟩:=by
 have hg:0<Nat.gcd (Nat.gcd a b) c:=lK _ (gT h);have d0:Nat.gcd (Nat.gcd a b) c∣Nat.gcd a b:=jX _ _;have d1:Nat.gcd (Nat.gcd a b) c∣a:=oN d0 (jX _ _);have d2:Nat.gcd (Nat.gcd a b) c∣b:=oN d0 (kV _ _);have d3:Nat.gcd (Nat.gcd a b) c∣c:=kV _ _;refine⟨?_,?_⟩
 ·rintro ⟨h1,h2⟩
  have h1':=congrArg Int.natAbs h1;have h2':=congrArg Int.natAbs h2;simp only[nA,Int.natAbs_zero] at h1' h2';have e1:=Nat.div_mul_cancel d1;have e2:=Nat.div_mul_cancel d2;rw[h1',kL] at e1;rw[h2',kL] at e2;exact h (by rw[<-e1,<-e2];rfl)
 ·simp only[nA]
  rw[Nat.gcd_div d1 d2,Nat.gcd_div d0 d3,Nat.div_self hg]
def El(p:Bool)(a g:Nat):(zv p (a/g)).natAbs<=a:=by rw[nA];exact jY ..
def PF.eq{P:Program}{f:FuncId}{vs:List DV}{r r':DV}(h:PF GB P f vs r)(e:r=r'):PF GB P f vs r':=e▸h
def iP(m n:Int):aa:=⟨(m:Rat),(n:Rat)⟩
theorem GR{m:Int}{k:Nat}(h:m.natAbs<2^k):BI m k:=⟨h⟩
theorem iH{m:Int}{k:Nat}(h:m.natAbs<=1000)(hk:10<=k):BI m k:=⟨dK (show m.natAbs<2^10 by omega) (bZ (by decide) hk)⟩
instance az.int (m n:Int) (i:Nat) [h:BI m i] [k:BI n i]:az (iP m n) (i+1):=⟨inferInstanceAs (BQ (m:Rat) (i+1)),inferInstanceAs (BQ (n:Rat) (i+1))⟩
def U6{p:aa}{m n:Int}(h1:p.x=(m:Rat))(h2:p.y=(n:Rat)):eP p=eP (iP m n):=by
 obtain⟨x,y⟩:=p;simp only at h1 h2;subst h1 h2;rfl
def f9(a b c:Int):ab:=
 ⟨zv (decide (a<0)) (a.natAbs/Nat.gcd (Nat.gcd a.natAbs b.natAbs) c.natAbs),zv (decide (b<0)) (b.natAbs/Nat.gcd (Nat.gcd a.natAbs b.natAbs) c.natAbs),zv (decide (c<0)) (c.natAbs/Nat.gcd (Nat.gcd a.natAbs b.natAbs) c.natAbs)⟩
def VO{a b c:Int}(h: ¬(a=0/\b=0)):(f9 a b c).ok:=
 Ut fun e=>h ⟨mQ.1 (mL e),mQ.1 (mY e)⟩
def Ld(a b c:Int):(f9 a b c).a.natAbs<=a.natAbs/\(f9 a b c).b.natAbs<=b.natAbs/\(f9 a b c).c.natAbs<=c.natAbs:=⟨El ..,El ..,El ..⟩
def kd{m n:Int}(hm:m.natAbs<=1000)(hn:n.natAbs<=1000):PF GB prog 79 [.v (.int .i64 m), .v (.int .i64 n)] (eP (iP m n)):=by
 refine fn func79 J J ntmps79 J J (fun C=>?_);refine cl J (xa (n:=m) (by omega) (by omega)) J<|cl J (xa (n:=n) (by omega) (by omega)) J<|?_;exact rz J J
def LL{m n m' n' k:Int}(hm:m.natAbs<=1000)(hn:n.natAbs<=1000)(hm':m'.natAbs<=1000)(hn':n'.natAbs<=1000)(hk:k.natAbs<=1000):PF GB prog 100 [eP (iP m n),eQ (k:Rat),eP (iP m' n')] (eP (iP (m+k*m') (n+k*n'))):=by
 haveI:=iH (k:=10) hm (by decide);haveI:=iH (k:=10) hn (by decide);haveI:=iH (k:=10) hm' (by decide);haveI:=iH (k:=10) hn' (by decide);haveI:=iH (k:=10) hk (by decide);exact PF.eq (Xo (p:=iP m n) (q:=iP m' n') (c:=(k:Rat))) (U6 (by show(m:Rat)+(k:Rat)*(m':Rat)=_;push_cast;rfl) (by show(n:Rat)+(k:Rat)*(n':Rat)=_;push_cast;rfl))
def De{m n m' n':Int}(hm:m.natAbs<=1000)(hn:n.natAbs<=1000)(hm':m'.natAbs<=1000)(hn':n'.natAbs<=1000):PF GB prog 61 [eP (iP m n),eP (iP m' n')] (.v (.bool (decide (m=m'/\n=n')))):=by
 haveI:=iH (k:=10) hm (by decide);haveI:=iH (k:=10) hn (by decide);haveI:=iH (k:=10) hm' (by decide);haveI:=iH (k:=10) hn' (by decide);refine fn func61 J J ntmps61 J J (fun C=>?_);refine cl J (xU (a:=(m:Rat)) (b:=(m':Rat))) J<|?_;refine cs 11 J J J (fun hg11=>?_) (fun hg11=>?_)
 .
  refine cl J (xU (a:=(n:Rat)) (b:=(n':Rat))) J<|?_;exact rz J (by rw[xJ] at hg11;have e:m=m':=(by exact_mod_cast hg11);exact congrArg (fun z=>DV.v (.bool z)) (decide_eq_decide.2 (by rw[xJ,pV];simp[e])))
 .
  exact rz J (by rw[xJ] at hg11;have e: ¬m=m':=(fun e=>hg11 (by rw[e]));show DV.v (.bool false)=DV.v (.bool _);rw[decide_eq_false (fun h=>e h.1)])
def iI(n n':Int):Int:= -(n'-n)
def i4(m m':Int):Int:=m'-m
def nG(m n m' n':Int):Int:= -(iI n n'*m+i4 m m'*n)
def ir(m n m' n':Int):ab:=f9 (iI n n') (i4 m m') (nG m n m' n')
def No{a b:Int}(ha:a.natAbs<=2000)(hb:b.natAbs<=1000):(a*b).natAbs<=2000000:=by
 rw[gN];exact nX ha hb
def SJ{es:List Int}{a:Nat}(h:a<es.length):(es.map vI)[(a:Int).toNat]? =some (vI es[a]):=by simp[h]
def XD:eP (iP 0 0)= .ag [.v (.bool false), .sl [], .sl [], .v (.bool false), .sl [], .sl []]:=by
 unfold eP iP;simp[Ez,dD]
def aq(es:List Int)(n:Int)(a:Nat):Nat×Nat:=
 if h:a<es.length then((if Int.tmod es[a] n<0 then Int.tmod es[a] n+n else Int.tmod es[a] n).toNat,a+1) else(0,a)
def jA{es:List Int}{n:Int}{a:Nat}(hn:1<=n):((aq es n a).1:Int)<n:=by
 unfold aq;split
 ·rename_i h
  have q2:=Int.tmod_lt_of_pos es[a] (show 0<n by omega);dsimp only;split<;>omega
 ·exact hn
def il{es:List Int}{n:Int}{a:Nat}(ha:a<=es.length):(aq es n a).2<=es.length:=by
 unfold aq;split
 ·assumption
 ·exact ha
def pF(es:List Int)(a:Nat):(Int×Int)×Nat:=((((aq es 9 a).1:Int)-4,((aq es 9 (aq es 9 a).2).1:Int)-4),(aq es 9 (aq es 9 a).2).2)
def tk{es:List Int}{a:Nat}(ha:a<=es.length):(pF es a).1.1.natAbs<=4/\(pF es a).1.2.natAbs<=4/\(pF es a).2<=es.length:=by
 have h1:=jA (es:=es) (n:=9) (a:=a) (by decide);have h2:=jA (es:=es) (n:=9) (a:=(aq es 9 a).2) (by decide);have h3:=il (n:=9) (il (es:=es) (n:=9) ha);unfold pF;exact⟨by dsimp only;omega,by dsimp only;omega,h3⟩
def vF(es:List Int)(a:Nat):(Int×Int)×Nat:=if(pF es a).1.1=0/\(pF es a).1.2=0 then((1,0),(pF es a).2) else pF es a
def uc{es:List Int}{a:Nat}(ha:a<=es.length):(vF es a).1.1.natAbs<=4/\(vF es a).1.2.natAbs<=4/\ ¬((vF es a).1.1=0/\(vF es a).1.2=0)/\(vF es a).2<=es.length:=by
 obtain⟨h1,h2,h3⟩:=tk ha;unfold vF;split
 ·exact⟨show(1:Int).natAbs<=4 by decide,show(0:Int).natAbs<=4 by decide,show¬((1:Int)=0/\(0:Int)=0) by decide,h3⟩
 ·rename_i h;exact⟨h1,h2,h,h3⟩
def lF(es:List Int)(a:Nat):ab×Nat:=(ir (pF es a).1.1 (pF es a).1.2 ((pF es a).1.1+1*(vF es (pF es a).2).1.1) ((pF es a).1.2+1*(vF es (pF es a).2).1.2),(vF es (pF es a).2).2)
def ku(es:List Int):Nat->Nat->Tr×Nat
 |0,a=>(.leaf (decide (((aq es 2 a).1:Int)=1)),(aq es 2 a).2)
 |d+1,a=>if((aq es 4 a).1:Int)=0 then(.leaf (decide (((aq es 2 (aq es 4 a).2).1:Int)=1)),(aq es 2 (aq es 4 a).2).2) else
  (.node (lF es (aq es 4 a).2).1 (ku es d (lF es (aq es 4 a).2).2).1 (ku es d (ku es d (lF es (aq es 4 a).2).2).2).1,(ku es d (ku es d (lF es (aq es 4 a).2).2).2).2)
def oG{b:Nat}{es:List Int}(hes:es.length<=400){a:Nat}(ha:a<=es.length){n:Int}(hn:1<=n)(hn2:n<=1000):PM GB prog 18 (i8 [none,some (.v (.int .i64 n))] b) b 126 [.sl (es.map vI), .v (.int .i64 (a:Nat))] (.v (.int .i64 ((aq es n a).1:Nat))) [.sl (es.map vI), .v (.int .i64 ((aq es n a).2:Nat))]:=by
 have hel:(es.map vI).length=es.length:=by simp
 refine uD func18 J J ntmps18 J J (fun C b m lo hmb=>?_);refine br J J J (fun hc15=>?_) (fun hc15=>?_)
 .
  have hf:aq es n a=(0,a):=by unfold aq;rw[dif_neg (by omega)]
  exact j0 hmb J J (by rw[hf]<;>rfl) (by rw[hf]<;>rfl)
 .
  have hal:a<es.length:=by omega
  obtain⟨e,he⟩: ∃e,e=es[a]:=⟨_,rfl⟩;have q2:=Int.tmod_lt_of_pos e (show 0<n by omega);have q3: -n<Int.tmod e n:=by have:=Int.lt_tmod_of_pos e (show 0<n by omega);omega
  refine ix (fu:=⟨1⟩) _ J (SJ hal) J<|?_;refine ak 25 (.d (vI e)) J (by rw[he]<;>rfl) ?_;refine gx (hv:=by simp only[ah];exact⟨⟨by omega,by kernel_rfl⟩,by omega⟩) J<|?_;refine br J J J (fun hc36=>?_) (fun hc36=>?_)
  .
   have hf:aq es n a=((Int.tmod e n+n).toNat,a+1):=by unfold aq;rw[dif_pos hal,<-he,if_pos hc36]
   exact j0 hmb J J (by rw[hf];show DV.v (.int .i64 _)=DV.v (.int .i64 _);rw[rK (by omega)]) (by rw[hf]<;>rfl)
  .
   have hf:aq es n a=((Int.tmod e n).toNat,a+1):=by unfold aq;rw[dif_pos hal,<-he,if_neg hc36]
   exact j0 hmb J J (by rw[hf];show DV.v (.int .i64 _)=DV.v (.int .i64 _);rw[rK (by omega)]) (by rw[hf]<;>rfl)
def Ft{b:Nat}{es:List Int}(hes:es.length<=400){a:Nat}(ha:a<=es.length):PM GB prog 97 (i8 [none] b) b 126 [.sl (es.map vI), .v (.int .i64 (a:Nat))] (eP (iP (pF es a).1.1 (pF es a).1.2)) [.sl (es.map vI), .v (.int .i64 ((pF es a).2:Nat))]:=by
 have h1:=jA (es:=es) (n:=9) (a:=a) (by decide);have h2:=jA (es:=es) (n:=9) (a:=(aq es 9 a).2) (by decide);refine uD func97 J J ntmps97 J J (fun C b m lo hmb=>?_);refine cm J (fun b=>(oG (n:=9) hes ha (by decide) (by decide))) J<|cm J (fun b=>(oG (n:=9) hes (il ha) (by decide) (by decide))) J<|?_;refine cl J (kd (m:=((aq es 9 a).1:Int)-4) (n:=((aq es 9 (aq es 9 a).2).1:Int)-4) (by omega) (by omega)) J<|?_;exact j0 hmb J J J J
def Mo{b:Nat}{es:List Int}(hes:es.length<=400){a:Nat}(ha:a<=es.length):PM GB prog 98 (i8 [none] b) b 126 [.sl (es.map vI), .v (.int .i64 (a:Nat))] (eP (iP (vF es a).1.1 (vF es a).1.2)) [.sl (es.map vI), .v (.int .i64 ((vF es a).2:Nat))]:=by
 obtain⟨hm,hn,ha1⟩:=tk ha;refine uD func98 J J ntmps98 J J (fun C b m lo hmb=>?_);refine cm (fu:=⟨9⟩) J (fun b=>(Ft hes ha)) J<|?_;refine ak 7 (.d (eP (iP 0 0))) J (by rw[XD]<;>rfl) ?_;refine gx J<|cl J (De (m:=(pF es a).1.1) (n:=(pF es a).1.2) (m':=0) (n':=0) (by omega) (by omega) (by decide) (by decide)) J<|?_;refine bd J J J (fun hc8=>?_) (fun hc8=>?_)
 .
  have hf:vF es a=((1,0),(pF es a).2):=by unfold vF;rw[if_pos hc8]
  refine cl J (kd (m:=1) (n:=0) (by decide) (by decide)) J<|?_;exact j0 hmb J J (by rw[hf]<;>rfl) (by rw[hf])
 .
  have hf:vF es a=pF es a:=by unfold vF;rw[if_neg hc8]
  exact j0 hmb J J (by rw[hf]<;>rfl) (by rw[hf])
abbrev ZP:=Int×Int
def ZP.q(p:ZP):aa:=iP p.1 p.2
def ZP.le(k:Nat)(p:ZP):Prop:=p.1.natAbs<=k/\p.2.natAbs<=k
def tV(p q:ZP):ZP:=(p.1+1*q.1,p.2+1*q.2)
def pc(u v:ZP):Int:=u.1*v.2-u.2*v.1
theorem Pm{m n p q:Int}(hm:m.natAbs<=1000)(hn:n.natAbs<=1000)(hp:p.natAbs<=1000)(hq:q.natAbs<=1000)(h: ¬(p=m/\q=n)):LB (ir m n p q)/\(ir m n p q).ok:=by
 have e1:(iI n q).natAbs<=2000:=by unfold iI;omega
 have e2:(i4 m p).natAbs<=2000:=by unfold i4;omega
 have e3:=No e1 hm;have e4:=No e2 hn;have e5:(nG m n p q).natAbs<=4000000:=by unfold nG;omega
 unfold ir;obtain⟨k1,k2,k3⟩:=Ld (iI n q) (i4 m p) (nG m n p q);have hb:(2:Nat)^96=79228162514264337593543950336:=by decide
 refine⟨⟨⟨?_,?_,?_⟩⟩,VO ?_⟩
 ·rw[hb];omega
 ·rw[hb];omega
 ·rw[hb];omega
 ·unfold iI i4;omega
def ba(v w:ZP):aP:=⟨ir v.1 v.2 w.1 w.2,⟨ck (ir v.1 v.2 w.1 w.2) v.q,ck (ir v.1 v.2 w.1 w.2) w.q,false,false⟩⟩
def de(r:List ZP)(i:Nat):ZP:=r.getD ((i+1)%r.length) (0,0)
def jz(r:List ZP):Nat->List aP
 |0=>[]
 |k+1=>jz r k++[ba (r.getD k (0,0)) (de r k)]
def ip(r:List ZP):List aP:=jz r r.length
structure b9 (r:List ZP):Prop where
 n3:3<=r.length
 n6:r.length<=6
 le: ∀p∈r,ZP.le 100 p
 ne: ∀i<r.length,r.getD i (0,0)≠de r i
def wK{r:List ZP}{i:Nat}(h:i<r.length):r.getD i (0,0)∈r:=by
 rw[aX,aZ h];exact fR h
def zj{r:List ZP}{i:Nat}(h:i<r.length):de r i∈r:=wK (cN _ (by omega))
theorem BQ.int1200{m:Int}(h:m.natAbs<=1000):BQ (m:Rat) 1200:=by
 haveI:BI m 11:=iH h (by decide);exact BQ.mono (inferInstance:BQ (m:Rat) 12) (by decide)
theorem Ki{l:ab}(hl:LB l)(ho:l.ok){m n:Int}(hm:m.natAbs<=1000)(hn:n.natAbs<=1000):BQ (ck l (iP m n)) 1200:=by
 haveI:=iH (k:=11) hm (by decide);haveI:=iH (k:=11) hn (by decide);have hd:=wX ho.ne;have hA:BI (l.a*l.a+l.b*l.b) _:=inferInstance;have hB:BI (m*l.b-n*l.a) _:=inferInstance;have hA':=A9 (j:=1200) hA (by decide);have hB':=A9 (j:=1200) hB (by decide);have e1:l.dir.dot l.dir=((l.a*l.a+l.b*l.b:Int):Rat):=by
  rw[nT,cR,cR];simp only[ab.dir,aa.dot];grind
 have e2:(iP m n).dot l.dir=((m*l.b-n*l.a:Int):Rat):=by
  rw[lW,cR,cR];simp only[ab.dir,aa.dot,iP];grind
 have hd':((0:Int):Rat)<((l.a*l.a+l.b*l.b:Int):Rat):=by rw[<-e1];exact hd
 unfold ck;rw[e2,e1];clear hA hB e1 e2;generalize l.a*l.a+l.b*l.b=D at*;generalize m*l.b-n*l.a=M at*;have hD:0<D:=qJ.1 hd';refine BQ.of_fracI (n:=M) (D:=D) (by omega) ?_ hB' hA';have h0:(D:Rat)≠0:=fun e=>by rw[e] at hd';exact absurd hd' (by decide)
 have:((D.natAbs:Nat):Rat)=(D:Rat):=by
  have h1:((D.natAbs:Nat):Int)=D:=by omega
  rw[<-h1];rfl
 rw[this];grind
def Ni{v w:ZP}(hv:ZP.le 100 v)(hw:ZP.le 100 w)(h:v≠w):o6 (ba v w):=by
 obtain⟨h1,h2⟩:=Pm (m:=v.1) (n:=v.2) (p:=w.1) (q:=w.2) (by have:=hv.1;omega) (by have:=hv.2;omega) (by have:=hw.1;omega) (by have:=hw.2;omega) (fun e=>h (Prod.ext e.1.symm e.2.symm));exact⟨h1,h2,⟨fun e=>(by cases e),fun e=>(by cases e)⟩,Ki h1 h2 (by have:=hv.1;omega) (by have:=hv.2;omega),Ki h1 h2 (by have:=hw.1;omega) (by have:=hw.2;omega)⟩
def Hg{r:List ZP}(h:b9 r): ∀{k:Nat},k<=r.length->(jz r k).length=k/\ ∀f∈jz r k,o6 f
 |0,_=>⟨J,fun f hf=>by cases hf⟩
 |k+1,hk=>by
  obtain⟨h1,h2⟩:=Hg h (k:=k) (by omega);rw[jz];refine⟨by simp[h1],fun f hf=>?_⟩;rcases bV.1 hf with hf|hf
  ·exact h2 f hf
  ·rw[aW] at hf;subst hf
   exact Ni (h.le _ (wK (by omega))) (h.le _ (zj (by omega))) (h.ne k (by omega))
def tH{r:List ZP}(h:b9 r):(ip r).length=r.length/\ ∀f∈ip r,o6 f:=Hg h (aL _)
def bH(rs:List (List ZP)):List aP:=rs.flatMap ip
def qr: ∀{rs:List (List ZP)},(∀r∈rs,b9 r)->(bH rs).length<=6*rs.length/\ ∀f∈bH rs,o6 f
 |[],_=>⟨aL _,fun f hf=>by cases hf⟩
 |r::rs,h=>by
  obtain⟨h1,h2⟩:=qr (rs:=rs) fun q hq=>h q (aJ _ hq);obtain⟨k1,k2⟩:=tH (h r aQ);have:=(h r aQ).n6;unfold bH at*;rw[List.flatMap_cons];refine⟨by rw[aM,k1,cX];omega,fun f hf=>?_⟩;rcases bV.1 hf with hf|hf
  ·exact k2 f hf
  ·exact h2 f hf
def ru(a b c:aa):Int:=(aa.cross (bc b a (-1)) (bc c a (-1))).num.sign
def D5(v w p:aa):Int:=
 (if bO v.y p.y<=0/\ ¬bO w.y p.y<=0/\0<ru v w p then 1 else 0)-(if¬bO v.y p.y<=0/\bO w.y p.y<=0/\ru v w p<0 then 1 else 0)
def xu(r:List ZP)(p:aa):Nat->Int
 |0=>0
 |k+1=>xu r p k+D5 (r.getD k (0,0)).q (de r k).q p
def e8(r:List ZP)(p:aa):Int:=xu r p r.length
def gH(fill n:Int):Bool:=(decide (fill=1)&&decide (n.tmod 2≠0))||(decide (fill=2)&&decide (n≠0))
def dE(rs:List (List ZP))(fill:Int)(p:aa):Bool:=gH fill (rs.foldl (fun n r=>n+e8 r p) 0)
def pC(rs:List (List ZP))(fill:Int):Tr:=n9 (dE rs fill) (bH rs).length (bH rs) []
def d4(rs:List (List ZP))(fill:Int):Tr:=(pC rs fill).restrict []
structure Yk (k:Nat) (t:Tr):Prop where
 gd:t.gd
 dp:t.depth<=k
 am: ∃K:List ab,K.length<=k/\(∀l∈K,l.ok)/\VH K t
def jn(p q:ZP):Int:=if p.1<q.1 then-1 else if q.1<p.1 then 1 else if p.2<q.2 then-1 else if q.2<p.2 then 1 else 0
def i6(x:ZP):List ZP->List ZP
 |[]=>[x]
 |u::t=>if jn u x<0 then u::i6 x t else if jn u x=0 then u::t else x::u::t
def mr(l:List ZP):List ZP:=l.foldl (fun out x=>i6 x out) []
def GD{x:ZP}: ∀{l:List ZP},(i6 x l).length<=l.length+1
 |[]=>aL _
 |u::t=>by
  rw[i6];have:=GD (x:=x) (l:=t);split
  ·simp;omega
  ·split<;>simp
def Yu(l:List ZP):(mr l).length<=l.length:=by
 have key: ∀(l o:List ZP),(l.foldl (fun out x=>i6 x out) o).length<=l.length+o.length:=by
  intro l
  induction l with
  |nil=>intro o;simp
  |cons x t ih=>intro o;have:=ih (i6 x o);have:=GD (x:=x) (l:=o);simp only[fN,cX];omega
 have:=key l [];simpa[mr] using this
def pq(a b c d:Int):List ZP:=[(a,b),(c,b),(c,d),(a,d)]
def BW{r:List ZP}{i:Nat}(h:i+1<r.length):de r i=r.getD (i+1) (0,0):=by unfold de;rw[dY h]
def CC{r:List ZP}{i:Nat}(h:i+1=r.length):de r i=r.getD 0 (0,0):=by unfold de;rw[h,rS]
def Hn{a b c d:Int}(h1:a.natAbs<=50)(h2:b.natAbs<=50)(h3:c.natAbs<=50)(h4:d.natAbs<=50)(h5:a<c)(h6:b<d):b9 (pq a b c d):=by
 refine⟨by simp[pq],by simp[pq],fun p hp=>?_,fun i hi=>?_⟩
 ·simp only[pq,aU,jN,or_false] at hp
  rcases hp with rfl|rfl|rfl|rfl<;>exact⟨by dsimp only;omega,by dsimp only;omega⟩
 ·have:i=0\/i=1\/i=2\/i=3:=by simp[pq] at hi;omega
  rcases this with rfl|rfl|rfl|rfl<;>simp[pq,de]<;>omega
def o9(p u v:ZP):List ZP:=[p,tV p u,tV p v]
def Yw{p u v:ZP}(h1:ZP.le 40 p)(h2:ZP.le 40 u)(h3:ZP.le 40 v)(h:pc u v≠0):b9 (o9 p u v):=by
 obtain⟨p1,p2⟩:=p;obtain⟨u1,u2⟩:=u;obtain⟨v1,v2⟩:=v;unfold ZP.le at h1 h2 h3;dsimp only at h1 h2 h3;unfold pc at h;dsimp only at h;refine⟨by simp[o9],by simp[o9],fun p hp=>?_,fun i hi=>?_⟩
 ·simp only[o9,tV,aU,jN,or_false] at hp
  rcases hp with rfl|rfl|rfl<;>exact⟨by dsimp only;omega,by dsimp only;omega⟩
 ·have:i=0\/i=1\/i=2:=by simp[o9] at hi;omega
  have hu: ¬(u1=0/\u2=0):=fun e=>h (by rw[e.1,e.2];simp);have hv: ¬(v1=0/\v2=0):=fun e=>h (by rw[e.1,e.2];simp);have huv: ¬(u1=v1/\u2=v2):=fun e=>h (by rw[e.1,e.2,Int.mul_comm];omega);rcases this with rfl|rfl|rfl<;>simp[o9,tV,de]<;>omega
def k9(es:List Int):Nat->Nat->List ZP->List ZP×Nat
 |0,a,out=>(out,a)
 |n+1,a,out=>k9 es n (pF es a).2 (if out.getLast? =some (pF es a).1 then out else out++[(pF es a).1])
structure ji (r:List ZP):Prop where
 ne: ∀i,i+1<r.length->r.getD i (0,0)≠r.getD (i+1) (0,0)
 le: ∀p∈r,ZP.le 100 p
def ji.snoc{r:List ZP}{p:ZP}(h:ji r)(hp:ZP.le 100 p)(hl:r.getLast? ≠some p):ji (r++[p]):=by
 refine⟨fun i hi=>?_,fun q hq=>?_⟩
 ·rw[aM,List.length_singleton] at hi
  rw[aX,aX];by_cases h1:i+1<r.length
  ·rw[cJ (by omega),cJ h1]
   have:=h.ne i h1;rwa [aX,aX] at this
  ·have e:i+1=r.length:=by omega
   rw[cJ (by omega),e,cM (aL _),Nat.sub_self];rw[mZ,<-e,kU] at hl;rw[aZ (by omega)] at hl⊢;intro c;exact hl (by simpa using c)
 ·rcases bV.1 hq with hq|hq
  ·exact h.le q hq
  ·rw[aW] at hq;subst hq;exact hp
def E1{es:List Int}: ∀{n a:Nat} {out:List ZP},a<=es.length->ji out->ji (k9 es n a out).1/\(k9 es n a out).1.length<=out.length+n/\(k9 es n a out).2<=es.length
 |0,a,out,ha,h=>⟨h,aL _,ha⟩
 |n+1,a,out,ha,h=>by
  obtain⟨h1,h2,h3⟩:=tk ha;rw[k9];by_cases hl:out.getLast? =some (pF es a).1
  ·rw[if_pos hl]
   obtain⟨k1,k2,k3⟩:=E1 (n:=n) h3 h;exact⟨k1,by omega,k3⟩
  ·rw[if_neg hl]
   obtain⟨k1,k2,k3⟩:=E1 (n:=n) h3 (h.snoc (p:=(pF es a).1) ⟨by omega,by omega⟩ hl);rw[aM,List.length_singleton] at k2;exact⟨k1,by omega,k3⟩
def jb:Nat->List ZP->List ZP
 |0,l=>l
 |n+1,l=>if 1<l.length/\l.getD 0 (0,0)=l.getD (l.length-1) (0,0) then jb n l.dropLast else l
def ji.drop{r:List ZP}(h:ji r):ji r.dropLast:=by
 refine⟨fun i hi=>?_,fun p hp=>h.le p ((qR _).subset hp)⟩;rw[mU] at hi;have:=h.ne i (by omega);rw[aX,aX] at this⊢;rw[List.getElem?_dropLast,List.getElem?_dropLast,if_pos (by omega),if_pos (by omega)];exact this
def Ic: ∀{n:Nat} {l:List ZP},ji l->l.length<=n+1->ji (jb n l)/\(jb n l).length<=l.length/\(1<(jb n l).length->(jb n l).getD 0 (0,0)≠(jb n l).getD ((jb n l).length-1) (0,0))
 |0,l,h,hn=>⟨h,aL _,fun k=>absurd k (by unfold jb;omega)⟩
 |n+1,l,h,hn=>by
  rw[jb];split
  ·obtain⟨h1,h2,h3⟩:=Ic (n:=n) h.drop (by rw[mU];omega)
   rw[mU] at h2;exact⟨h1,by omega,h3⟩
  ·rename_i hc
   exact⟨h,aL _,fun k e=>hc ⟨k,e⟩⟩
def Sp{r:List ZP}(h:ji r)(h6:r.length<=6)(hc:1<r.length->r.getD 0 (0,0)≠r.getD (r.length-1) (0,0))(h3:3<=(mr r).length):b9 r:=by
 have:=Yu r;refine⟨by omega,h6,h.le,fun i hi=>?_⟩;by_cases h1:i+1<r.length
 ·rw[BW h1];exact h.ne i h1
 ·have e:i+1=r.length:=by omega
  rw[CC e];have:=hc (by omega);rw[show i=r.length-1 by omega];exact fun k=>this k.symm
def u7:List ZP:=[(0,0),(2,0),(0,2)]
def Ht:b9 u7:=⟨by decide,by decide,fun p hp=>by
  simp only[u7,aU,jN,or_false] at hp;rcases hp with rfl|rfl|rfl<;>exact⟨by decide,by decide⟩,fun i hi=>by
  have:i=0\/i=1\/i=2:=by simp[u7] at hi;omega
  rcases this with rfl|rfl|rfl<;>decide⟩
def mm(es:List Int)(a:Nat):List ZP×Nat:=
 ((if(mr (jb 6 (k9 es (3+(aq es 4 a).1) (aq es 4 a).2 []).1)).length<3 then u7 else jb 6 (k9 es (3+(aq es 4 a).1) (aq es 4 a).2 []).1),(k9 es (3+(aq es 4 a).1) (aq es 4 a).2 []).2)
def ji.nil:ji []:=⟨fun i hi=>by simp at hi,fun p hp=>by cases hp⟩
def EN{es:List Int}{a:Nat}(ha:a<=es.length):b9 (mm es a).1/\(mm es a).2<=es.length:=by
 have h1:=jA (es:=es) (n:=4) (a:=a) (by decide);obtain⟨k1,k2,k3⟩:=E1 (n:=3+(aq es 4 a).1) (il (n:=4) ha) ji.nil;obtain⟨t1,t2,t3⟩:=Ic (n:=6) k1 (by simp at k2;omega);refine⟨?_,k3⟩;unfold mm;dsimp only;split
 ·exact Ht
 ·exact Sp t1 (by simp at k2;omega) t3 (by omega)
def vS(es:List Int)(n m k:Int)(a:Nat):List ZP×Nat:=
 let x:=aq es n a
 let y:=aq es n x.2
 let z:=aq es m y.2
 let w:=aq es m z.2
 (pq ((x.1:Int)-k) ((y.1:Int)-k) ((x.1:Int)-k+1+z.1) ((y.1:Int)-k+1+w.1),w.2)
def O8{es:List Int}{n m k:Int}{a:Nat}(ha:a<=es.length)(hn:1<=n)(hn2:n<=10)(hm:1<=m)(hm2:m<=10)(hk:0<=k)(hk2:k<=10):b9 (vS es n m k a).1/\(vS es n m k a).2<=es.length:=by
 have h1:=jA (es:=es) (a:=a) hn;have h2:=jA (es:=es) (a:=(aq es n a).2) hn;have h3:=jA (es:=es) (a:=(aq es n (aq es n a).2).2) hm;have h4:=jA (es:=es) (a:=(aq es m (aq es n (aq es n a).2).2).2) hm;exact⟨Hn (by omega) (by omega) (by omega) (by omega) (by omega) (by omega),il (il (il (il ha)))⟩
def fB(es:List Int)(a:Nat):List ZP×Nat:=
 let k:=aq es 4 a
 if(k.1:Int)=0 then vS es 5 4 4 k.2
 else if(k.1:Int)=1 then
  let p:=pF es k.2
  let u:=vF es p.2
  let v:=vF es u.2
  if pc u.1 v.1≠0 then(o9 p.1 u.1 v.1,v.2) else mm es v.2
 else mm es k.2
def JF{es:List Int}{a:Nat}(ha:a<=es.length):b9 (fB es a).1/\(fB es a).2<=es.length:=by
 have h0:=il (n:=4) ha;unfold fB;dsimp only;split
 ·exact O8 h0 (by decide) (by decide) (by decide) (by decide) (by decide) (by decide)
 ·split
  ·obtain⟨p1,p2,p3⟩:=tk h0
   obtain⟨u1,u2,u3,u4⟩:=uc p3;obtain⟨v1,v2,v3,v4⟩:=uc u4;split
   ·rename_i hc
    exact⟨Yw ⟨by omega,by omega⟩ ⟨by omega,by omega⟩ ⟨by omega,by omega⟩ hc,v4⟩
   ·exact EN v4
  ·exact EN h0
def Vz:List ZP:=[(0,0),(1,0),(0,1)]
def Mm(es:List Int)(a:Nat):List ZP×Nat:=
 let k:=aq es 2 a
 if(k.1:Int)=0 then vS es 3 2 1 k.2
 else
  let x:=aq es 3 k.2
  let y:=aq es 3 x.2
  let u1:=aq es 2 y.2
  let u2:=aq es 3 u1.2
  let v1:=aq es 3 u2.2
  let v2:=aq es 2 v1.2
  (if 0<pc (1+(u1.1:Int),(u2.1:Int)-1) ((v1.1:Int)-1,1+(v2.1:Int)) then o9 ((x.1:Int)-1,(y.1:Int)-1) (1+(u1.1:Int),(u2.1:Int)-1) ((v1.1:Int)-1,1+(v2.1:Int)) else Vz,v2.2)
def qO(es:List Int)(a:Nat):Tr×Nat:=
 let r:=fB es a
 let k:=aq es 3 r.2
 if(k.1:Int)=0 then
  let s:=fB es k.2
  let f:=aq es 2 s.2
  (d4 [r.1,s.1] (1+(f.1:Int)),f.2)
 else
  let f:=aq es 2 k.2
  (d4 [r.1] (1+(f.1:Int)),f.2)
def Dx(l:ab):Tr:=(Tr.node l (.leaf true) (.leaf false)).restrict []
def qt(es:List Int):Nat->Nat->Tr×Nat
 |0,a=>
  let k:=aq es 6 a
  if(k.1:Int)=1 then(Dx (lF es k.2).1,(lF es k.2).2)
  else if(k.1:Int)=2 then((ku es 3 k.2).1.restrict [],(ku es 3 k.2).2)
  else if(k.1:Int)=3 then((qO es k.2).1.compl,(qO es k.2).2)
  else qO es k.2
 |d+1,a=>
  let k:=aq es 6 a
  if(k.1:Int)=0 then
   let x:=qt es d k.2
   let o:=aq es 4 x.2
   let y:=qt es d o.2
   (x.1.mergeQ (1+(o.1:Int)) y.1 [],y.2)
  else if(k.1:Int)=1 then(Dx (lF es k.2).1,(lF es k.2).2)
  else if(k.1:Int)=2 then((ku es 3 k.2).1.restrict [],(ku es 3 k.2).2)
  else if(k.1:Int)=3 then((qO es k.2).1.compl,(qO es k.2).2)
  else qO es k.2
def aGq(es:List Int)(a:Nat):Tr×Nat:=
 let k:=aq es 4 a
 if(k.1:Int)=0 then(Dx (lF es k.2).1,(lF es k.2).2)
 else if(k.1:Int)=1 then((ku es 2 k.2).1.restrict [],(ku es 2 k.2).2)
 else(d4 [(Mm es k.2).1] 2,(Mm es k.2).2)
def F8(op:Int)(a b:Tr):Bool:=decide ((a.mergeQ op b []).isLeaf=true/\(a.mergeQ op b []).code=false)
def ZH(a b:Tr):Int:=if F8 4 a b then 0 else if F8 3 a b then-1 else if F8 3 b a then 1 else 2
def sK:Tr->aa->Bool
 | .leaf b,_=>b
 | .node l x y,p=>if(l.value p).num.sign=1 then sK x p else if(l.value p).num.sign= -1 then sK y p else false
def EB(t:Tr):List bw:=((t.parts []).filter (·.1)).map (·.2)
def K9(l:ab)(p:aa):bw->Rat->Rat
 |[],f=>f
 |s::c,f=>K9 l p c (if Int.sign (s.l.nor.dot l.nor).num<0 then(if-(s.l.value p/s.l.nor.dot l.nor)<f then-(s.l.value p/s.l.nor.dot l.nor) else f) else f)
def aDt:bw->aa
 |[]=>⟨0,0⟩
 |s::c=>bc (s.l.at s.v.sample) s.l.nor (K9 s.l (s.l.at s.v.sample) c 1*mkRat 1 2)
def Nl{v k:Rat}(hk:k<0)(hv:0<v):0< -(v/k):=by
 have e: -(v/k)* -k=v:=by grind
 exact(fi (k:= -k) (by grind)).1 (by rw[e];exact hv)
def fC:Tr->aa->aa->Bool×Bool
 | .leaf b,_,_=>(b,true)
 | .node l x y,p,v=>match (if(l.value p).num.sign=0 then(l.dir.cross v).num.sign else(l.value p).num.sign) with
  |1=>fC x p v
  | -1=>fC y p v
  |_=>(false,false)
def vr(l:ab)(v:aa):l.dir.cross v=l.nor.dot v:=by
 unfold ab.dir ab.nor aa.cross aa.dot;grind
def Gn(L:List ab)(p v:aa):Prop:= ∀l∈L,l.value p=0->l.nor.dot v≠0
def Q8{l:ab}{p v:aa}(h:l.value p=0->l.nor.dot v≠0): ∃e:Rat,0<e/\ ∀d,0<d->d<=e->(0<l.value (bc p v d)↔0<l.value p\/(l.value p=0/\0<l.nor.dot v))/\(l.value (bc p v d)<0↔l.value p<0\/(l.value p=0/\l.nor.dot v<0)):=by
 generalize hk:l.nor.dot v=k at*;by_cases h0:l.value p=0
 ·have hk0:=h h0
  refine⟨1,by decide,fun d h1 _=>?_⟩;rw[ic,hk,h0];rcases dC k with e|e|e
  ·exact absurd e hk0
  ·have:=bv h1 e;grind
  ·have:=bv (a:=d) (b:= -k) h1 (by grind);grind
 ·have key: ∀w:Rat,0<w-> ∃e:Rat,0<e/\ ∀d,0<d->d<=e-> ∀j:Rat,(j=k\/j= -k)->0<w+d*j:=fun w hw=>by
   have hA: ∃A:Rat,0<A/\k<=A/\ -k<=A:=by
    rcases dC k with e|e|e
    ·exact⟨1,by decide,by grind,by grind⟩
    ·exact⟨k,e,by grind,by grind⟩
    ·exact⟨-k,by grind,by grind,by grind⟩
   obtain⟨A,a1,a2,a3⟩:=hA;refine⟨w/(2*A),?_,fun d d1 d2 j hj=>?_⟩
   ·have e1:w/(2*A)*(2*A)=w:=by grind
    exact(fi (k:=2*A) (by grind)).1 (by rw[e1];exact hw)
   ·have e1:w/(2*A)*(2*A)=w:=by grind
    generalize w/(2*A)=f at*;have h1:=bG (a:=f-d) (b:=A) (by grind) (by grind);have h2:=bG (a:=d) (b:=A+j) (by grind) (by rcases hj with rfl|rfl<;>grind);grind
  rcases dC (l.value p) with e|e|e
  ·exact absurd e h0
  ·obtain⟨f,f1,f2⟩:=key _ e
   refine⟨f,f1,fun d d1 d2=>?_⟩;have:=f2 d d1 d2 k (.inl J);rw[ic,hk];grind
  ·obtain⟨f,f1,f2⟩:=key (-l.value p) (by grind)
   refine⟨f,f1,fun d d1 d2=>?_⟩;have:=f2 d d1 d2 (-k) (.inr J);rw[ic,hk];grind
def Ay: ∀{t:Tr} {p v:aa},Gn t.lns p v-> ∃e:Rat,0<e/\ ∀d,0<d->d<=e->im t.lns (bc p v d)/\fC t p v=(t.val (bc p v d),true)
 | .leaf b,p,v,_=>⟨1,by decide,fun d _ _=>⟨fun l hl=>(by cases hl),J⟩⟩
 | .node l x y,p,v,h=>by
  obtain⟨e1,a1,b1⟩:=Q8 (h l aQ);obtain⟨e2,a2,b2⟩:=Ay (t:=x) (p:=p) (v:=v) (fun m hm=>h m (aJ _ (bU _ hm)));obtain⟨e3,a3,b3⟩:=Ay (t:=y) (p:=p) (v:=v) (fun m hm=>h m (aJ _ (bN _ hm)));have hgn:=h l aQ;have hm: ∃e:Rat,0<e/\e<=e1/\e<=e2/\e<=e3:=by
   by_cases h1:e1<=e2
   ·by_cases h2:e1<=e3
    ·exact⟨e1,a1,by grind,h1,h2⟩
    ·exact⟨e3,a3,by grind,by grind,by grind⟩
   ·by_cases h2:e2<=e3
    ·exact⟨e2,a2,by grind,by grind,h2⟩
    ·exact⟨e3,a3,by grind,by grind,by grind⟩
  obtain⟨e,h0,h1,h2,h3⟩:=hm;refine⟨e,h0,fun d d1 d2=>?_⟩;obtain⟨c1,c2⟩:=b1 d d1 (by grind);obtain⟨o2,w2⟩:=b2 d d1 (by grind);obtain⟨o3,w3⟩:=b3 d d1 (by grind);have hs:(if(l.value p).num.sign=0 then(l.dir.cross v).num.sign else(l.value p).num.sign)=if 0<l.value (bc p v d) then 1 else-1:=by
   rw[vr];by_cases hz:l.value p=0
   ·rw[if_pos ((jk _).2 hz)]
    split
    ·rename_i hp
     exact(io _).2 (by rcases c1.1 hp with k|k;exact absurd k (by grind);exact k.2)
    ·rename_i hp
     have:l.nor.dot v<0:=by have:=hgn hz;have: ¬0<l.nor.dot v:=fun e=>hp (c1.2 (.inr ⟨hz,e⟩));grind
     exact Int.sign_eq_neg_one_iff_neg.2 (by have:=(lD _).2 this;rcases lJ (l.nor.dot v).num 0 with q|q|q;exact q;rw[q] at this;simp at this;rw[fQ q] at this;simp at this)
   ·rw[if_neg (fun e=>hz ((jk _).1 e))]
    split
    ·rename_i hp
     exact(io _).2 (by rcases c1.1 hp with k|k;exact k;exact absurd k.1 hz)
    ·rename_i hp
     have:l.value p<0:=by have: ¬0<l.value p:=fun e=>hp (c1.2 (.inl e));grind
     exact Int.sign_eq_neg_one_iff_neg.2 (by have:=(lD _).2 this;rcases lJ (l.value p).num 0 with q|q|q;exact q;rw[q] at this;simp at this;rw[fQ q] at this;simp at this)
  have hz:l.value (bc p v d)≠0:=fun e=>by
   rcases dC (l.value p) with q|q|q
   ·rcases dC (l.nor.dot v) with r|r|r
    ·exact hgn q r
    ·have:=c1.2 (.inr ⟨q,r⟩);grind
    ·have:=c2.2 (.inr ⟨q,r⟩);grind
   ·have:=c1.2 (.inl q);grind
   ·have:=c2.2 (.inl q);grind
  refine⟨fun m hm=>?_,?_⟩
  ·rcases aU.1 hm with rfl|hm
   ·exact hz
   ·exact(bV.1 hm).elim (o2 m) (o3 m)
  ·rw[fC,hs]
   by_cases hp:0<l.value (bc p v d)
   ·rw[if_pos hp,Tr.val_pos hp];exact w2
   ·rw[if_neg hp,Tr.val_neg hp];exact w3
def ZM(x:Bool×bw):DV:= .ag [.sl (x.2.map cp),eU (.leaf x.1)]
def Kz{q:Rat}{i:Nat}[h:BQ q i](hi:i<=900000000:=by decide):PF GB prog 120 [eF q] (eR q):=by
 refine fn func120 J J ntmps120 J J (fun C=>?_);refine cl J (s8 (q:=q) (i:=i) hi) J<|cl J (nC (q:=q) (i:=i) hi) J<|?_;exact rz J J
def NV{p:aa}{i:Nat}[h:az p i](hi:i<=900000000:=by decide):PF GB prog 128 [eZ p] (je p):=by
 refine fn func128 J J ntmps128 J J (fun C=>?_);refine cl J (Kz (q:=p.x) (i:=i) hi) J<|cl J (Kz (q:=p.y) (i:=i) hi) J<|?_;exact rz J J
def eC(c:bw):DV:= .sl (c.map cp)
def YL(ps:List (Bool×bw)):List bw:=(ps.filter (·.1)).map (·.2)
def ja(p:aa):(p.half=1/\(0<p.y\/(p.y=0/\0<p.x)))\/(p.half=2/\(p.y<0\/(p.y=0/\p.x<0)))\/(p.half=0/\p.y=0/\p.x=0):=by
 unfold aa.half;simp only[jF,lD,jk];split
 ·rename_i h;exact .inl ⟨rfl,h⟩
 ·rename_i h
  split
  ·rename_i h2
   exact .inr (.inl ⟨J,by grind⟩)
  ·rename_i h2
   exact .inr (.inr ⟨J,by grind,by grind⟩)
def l9{p:aa}:p.half=1↔(0<p.y\/(p.y=0/\0<p.x)):=by
 rcases ja p with⟨h,k⟩|⟨h,k⟩|⟨h,k⟩<;>rw[h]<;>grind
def nf{p:aa}:p.half=2↔(p.y<0\/(p.y=0/\p.x<0)):=by
 rcases ja p with⟨h,k⟩|⟨h,k⟩|⟨h,k⟩<;>rw[h]<;>grind
def b8(u v:aa):Prop:=u.half<v.half\/(u.half=v.half/\0<u.cross v)
def ph{u v:aa}:cA u v<0↔b8 u v:=by
 unfold cA b8;split
 ·rename_i h;exact⟨fun _=> .inl h,fun _=>by decide⟩
 ·rename_i h
  split
  ·rename_i h2;exact⟨fun e=>absurd e (by decide),fun e=>by omega⟩
  ·rename_i h2
   have e:u.half=v.half:=by omega
   rw[<-jF];constructor
   ·intro k;exact .inr ⟨e,by omega⟩
   ·rintro (k|⟨_,k⟩)
    ·omega
    ·omega
def bg(d:aa):aa:=⟨-d.x, -d.y⟩
def pm{d:aa}(h:d.half≠0):(bg d).half=3-d.half:=by
 rcases ja d with⟨e,k⟩|⟨e,k⟩|⟨e,k⟩
 ·rw[e];exact nf.2 (by unfold bg;grind)
 ·rw[e];exact l9.2 (by unfold bg;grind)
 ·exact absurd e h
def fm{d:aa}(h:d.half≠0):d.half=1\/d.half=2:=by
 rcases ja d with⟨e,_⟩|⟨e,_⟩|⟨e,_⟩
 ·exact .inl e
 ·exact .inr e
 ·exact absurd e h
def kI(ds:List aa)(u w:aa):Prop:=(b8 u w/\ ∀d∈ds,¬(b8 u d/\b8 d w))\/((∀d∈ds,¬b8 u d)/\ ∀d∈ds,¬b8 d w)
structure r8 (ds:List aa):Prop where
 nz: ∀d∈ds,d.half≠0
 neg: ∀d∈ds,bg d∈ds
def yw(u:aa):u.cross u=0:=by unfold aa.cross;grind
def eH(u v:aa):v.cross u= -u.cross v:=by unfold aa.cross;grind
def kv(u v:aa):u.cross (bg v)= -u.cross v:=by unfold aa.cross bg;grind
def kI.spec{ds:List aa}{u w:aa}(h:r8 ds)(hu:u∈ds)(hw:w∈ds)(hn:kI ds u w):
  (u.half=w.half/\0<u.cross w/\ ∀d∈ds,¬(b8 u d/\b8 d w))\/(u.half≠w.half/\(∀d∈ds,d.half=u.half->0<=d.cross u)/\ ∀d∈ds,d.half=w.half->0<=w.cross d):=by
 have zu:=fm (h.nz u hu);have zw:=fm (h.nz w hw);rcases hn with⟨h1,h2⟩|⟨h1,h2⟩
 ·rcases h1 with k|⟨k,k2⟩
  ·refine .inr ⟨by omega,fun d hd e=>?_,fun d hd e=>?_⟩
   ·have:=h2 d hd
    rw[eH];by_cases hc:0<u.cross d
    ·exact absurd ⟨.inr ⟨e.symm,hc⟩, .inl (by omega)⟩ this
    ·grind
   ·have:=h2 d hd
    by_cases hc:0<d.cross w
    ·exact absurd ⟨.inl (by omega), .inr ⟨e,hc⟩⟩ this
    ·rw[eH] at hc;grind
  ·exact .inl ⟨k,k2,h2⟩
 ·have nu:=pm (h.nz u hu)
  have a1:=h1 _ (h.neg u hu);have a2:=h2 _ (h.neg u hu);unfold b8 at a1 a2;rw[nu] at a1 a2;refine .inr ⟨fun e=>?_,fun d hd e=>?_,fun d hd e=>?_⟩
  ·rcases zu with z|z
   ·exact a1 (.inl (by omega))
   ·exact a2 (.inl (by omega))
  ·have:=h1 d hd
   rw[eH];by_cases hc:0<u.cross d
   ·exact absurd (.inr ⟨e.symm,hc⟩) this
   ·grind
  ·have:=h2 d hd
   by_cases hc:0<d.cross w
   ·exact absurd (.inr ⟨e,hc⟩) this
   ·rw[eH] at hc;grind
def kI.pos{ds:List aa}{u w:aa}(h:r8 ds)(hu:u∈ds)(hw:w∈ds)(hn:kI ds u w):0<=u.cross w:=by
 rcases hn.spec h hu hw with⟨_,h2,_⟩|⟨h1,h2,h3⟩
 ·grind
 ·have:=h3 _ (h.neg u hu) (by rw[pm (h.nz u hu)];have:=fm (h.nz u hu);have:=fm (h.nz w hw);omega)
  rw[kv] at this;rw[eH];exact this
def fy(a b:Rat)(u w:aa):aa:=⟨a*u.x+b*w.x,a*u.y+b*w.y⟩
def Ml{a b:Rat}{u w:aa}:u.cross (fy a b u w)=b*u.cross w/\(fy a b u w).cross w=a*u.cross w:=by
 unfold aa.cross fy;constructor<;>grind
def Fm{a b:Rat}{u w:aa}(ha:0<a)(hb:0<b)(h:u.half=w.half)(hz:u.half≠0):(fy a b u w).half=u.half:=by
 rcases ja u with⟨e,k⟩|⟨e,k⟩|⟨e,k⟩
 ·rw[e] at h⊢
  have k2:=l9.1 h.symm;refine l9.2 ?_;unfold fy;simp only;have p1: ∀z:Rat,0<z->0<a*z:=fun z hz=>bv ha hz;have p2: ∀z:Rat,0<z->0<b*z:=fun z hz=>bv hb hz;rcases k with k|⟨k,k'⟩<;>rcases k2 with l|⟨l,l'⟩
  ·have:=p1 _ k;have:=p2 _ l;grind
  ·have:=p1 _ k;rw[l];grind
  ·have:=p2 _ l;rw[k];grind
  ·have:=p1 _ k';have:=p2 _ l';rw[k,l];grind
 ·rw[e] at h⊢
  have k2:=nf.1 h.symm;refine nf.2 ?_;unfold fy;simp only;have p1: ∀z:Rat,z<0->a*z<0:=fun z hz=>by have:=bv (a:=a) (b:= -z) ha (by grind);grind
  have p2: ∀z:Rat,z<0->b*z<0:=fun z hz=>by have:=bv (a:=b) (b:= -z) hb (by grind);grind
  rcases k with k|⟨k,k'⟩<;>rcases k2 with l|⟨l,l'⟩
  ·have:=p1 _ k;have:=p2 _ l;grind
  ·have:=p1 _ k;rw[l];grind
  ·have:=p2 _ l;rw[k];grind
  ·have:=p1 _ k';have:=p2 _ l';rw[k,l];grind
 ·exact absurd e hz
def kI.none{ds:List aa}{u w:aa}(h:r8 ds)(hu:u∈ds)(hw:w∈ds)(hn:kI ds u w)(hc:u.cross w≠0){a b:Rat}(ha:0<a)(hb:0<b):fy a b u w∉ds:=fun hd=>by
 have hp:=hn.pos h hu hw;have hp:0<u.cross w:=by grind
 obtain⟨c1,c2⟩:=Ml (a:=a) (b:=b) (u:=u) (w:=w);have d1:0<u.cross (fy a b u w):=by rw[c1];exact bv hb hp
 have d2:0<(fy a b u w).cross w:=by rw[c2];exact bv ha hp
 have zu:=fm (h.nz u hu);have zw:=fm (h.nz w hw);have zd:=fm (h.nz _ hd);rcases hn.spec h hu hw with⟨h1,_,h3⟩|⟨h1,h2,h3⟩
 ·have e:=Fm ha hb h1 (h.nz u hu)
  exact h3 _ hd ⟨.inr ⟨e.symm,d1⟩, .inr ⟨e.trans h1,d2⟩⟩
 ·rcases(show(fy a b u w).half=u.half\/(fy a b u w).half=w.half by omega) with e|e
  ·have:=h2 _ hd e
   rw[eH] at this;grind
  ·have:=h3 _ hd e
   rw[eH] at this;grind
def qA{d e:aa}(h:e.cross d=0)(hp:0<e.dot d): ∃g:Rat,0<g/\e=⟨g*d.x,g*d.y⟩:=by
 have hd:0<d.dot d:=by
  unfold aa.dot at*;have h1:=oD d.x;have h2:=oD d.y;rcases dC d.x with k|k|k
  ·rcases dC d.y with l|l|l
   ·rw[k,l] at hp;grind
   ·have:=bv l l;grind
   ·have:=bv (a:= -d.y) (b:= -d.y) (by grind) (by grind);grind
  ·have:=bv k k;grind
  ·have:=bv (a:= -d.x) (b:= -d.x) (by grind) (by grind);grind
 have key:e.x*d.dot d=e.dot d*d.x/\e.y*d.dot d=e.dot d*d.y:=by
  unfold aa.dot aa.cross at*;constructor<;>grind
 have hg:e.dot d/d.dot d*d.dot d=e.dot d:=by grind
 refine⟨e.dot d/d.dot d,(fi hd).1 (by rw[hg];exact hp),?_⟩;generalize e.dot d/d.dot d=g at*;have x1:e.x=g*d.x:=by
  have:(e.x-g*d.x)*d.dot d=0:=by rw[<-hg] at key;grind
  have hz:d.dot d≠0:=by grind
  grind
 have x2:e.y=g*d.y:=by
  have:(e.y-g*d.y)*d.dot d=0:=by rw[<-hg] at key;grind
  have hz:d.dot d≠0:=by grind
  grind
 rw[<-x1,<-x2]
def zp{e u:aa}(he:e.half≠0)(hu:u.half≠0)(hp:e.cross u=0):e.dot u≠0:=fun hz=>by
 have e1:e.x*(u.x*u.x+u.y*u.y)=0:=by unfold aa.dot aa.cross at*;grind
 have e2:e.y*(u.x*u.x+u.y*u.y)=0:=by unfold aa.dot aa.cross at*;grind
 have hu2:u.x*u.x+u.y*u.y≠0:=fun q=>by
  have h1:=oD u.x;have h2:=oD u.y;have x0:u.x=0:=by
   have:u.x*u.x=0:=by grind
   grind
  have y0:u.y=0:=by
   have:u.y*u.y=0:=by grind
   grind
  rcases ja u with⟨_,q⟩|⟨_,q⟩|⟨q,_⟩
  ·grind
  ·grind
  ·exact hu q
 have x0:e.x=0:=by grind
 have y0:e.y=0:=by grind
 rcases ja e with⟨_,q⟩|⟨_,q⟩|⟨q,_⟩
 ·grind
 ·grind
 ·exact he q
def kI.gen{ds:List aa}{u w:aa}(h:r8 ds)(hu:u∈ds)(hw:w∈ds)(hn:kI ds u w)(hc:u.cross w≠0){a b:Rat}(ha:0<a)(hb:0<b): ∀d∈ds,d.cross (fy a b u w)≠0:=fun d hd hz=>by
 have hp:=hn.pos h hu hw;have hp:0<u.cross w:=by grind
 obtain⟨c1,c2⟩:=Ml (a:=a) (b:=b) (u:=u) (w:=w);have d1:0<u.cross (fy a b u w):=by rw[c1];exact bv hb hp
 -- of d and its opposite, one points the same way
 have key: ∀e∈ds,e.cross (fy a b u w)=0->0<e.dot (fy a b u w)->False:=fun e he h1 h2=>by
  obtain⟨g,g1,g2⟩:=qA h1 h2;refine hn.none h hu hw hc (a:=g*a) (b:=g*b) (bv g1 ha) (bv g1 hb) ?_;have:fy (g*a) (g*b) u w=e:=by rw[g2];unfold fy;simp only[aa.mk.injEq];constructor<;>grind
  rw[this];exact he
 rcases dC (d.dot (fy a b u w)) with k|k|k
 ·-- both 0: then d is 0, or the other is
  have hnz:=h.nz d hd;generalize fy a b u w=v at*;have e1:d.x*(v.x*v.x+v.y*v.y)=0:=by unfold aa.dot aa.cross at*;grind
  have e2:d.y*(v.x*v.x+v.y*v.y)=0:=by unfold aa.dot aa.cross at*;grind
  have hv:v.x*v.x+v.y*v.y≠0:=fun e=>by
   have h1:=oD v.x;have h2:=oD v.y;have x0:v.x=0:=by have:v.x*v.x=0:=(by grind);grind
   have y0:v.y=0:=by have:v.y*v.y=0:=(by grind);grind
   unfold aa.cross at d1;rw[x0,y0] at d1;grind
  have x0:d.x=0:=by grind
  have y0:d.y=0:=by grind
  rcases ja d with⟨_,q⟩|⟨_,q⟩|⟨q,_⟩
  ·grind
  ·grind
  ·exact hnz q
 ·exact key d hd hz k
 ·refine key _ (h.neg d hd) ?_ ?_
  ·unfold aa.cross bg at*;grind
  ·unfold aa.dot bg at*;grind
def JK(d u:aa):d.cross (fH u)=d.dot u:=by unfold aa.cross fH aa.dot;grind
def kI.turn{ds:List aa}{u w:aa}(h:r8 ds)(hu:u∈ds)(hw:w∈ds)(hn:kI ds u w)(hc:u.cross w=0): ∀d∈ds,d.cross (fH u)≠0:=fun d hd=>by
 have zu:=fm (h.nz u hu);have zw:=fm (h.nz w hw);rw[JK];rcases hn.spec h hu hw with⟨_,h2,_⟩|⟨h1,h2,h3⟩
 ·rw[hc] at h2;exact absurd h2 (by decide)
 have par: ∀e∈ds,e.half=u.half->e.cross u=0:=fun e he k=>by
  have a1:=h2 e he k;have a2:=h3 _ (h.neg e he) (by rw[pm (h.nz e he)];omega);rw[kv] at a2
  -- w = -g u
  have hwu:w.cross u=0:=by rw[eH,hc];rfl
  have huw:w.dot u<0:=by
   rcases dC (w.dot u) with k0|k0|k0
   ·exact absurd k0 (zp (h.nz w hw) (h.nz u hu) hwu)
   ·obtain⟨g,g1,g2⟩:=qA hwu k0
    exfalso;apply h1;rcases ja u with⟨x,q⟩|⟨x,q⟩|⟨x,q⟩
    ·rw[x]
     refine(l9.2 ?_).symm;rw[g2];simp only;rcases q with q|⟨q,q'⟩
     ·exact .inl (bv g1 q)
     ·exact .inr ⟨by rw[q];grind,bv g1 q'⟩
    ·rw[x]
     refine(nf.2 ?_).symm;rw[g2];simp only;rcases q with q|⟨q,q'⟩
     ·have:=bv (a:=g) (b:= -u.y) g1 (by grind);exact .inl (by grind)
     ·have:=bv (a:=g) (b:= -u.x) g1 (by grind);exact .inr ⟨by rw[q];grind,by grind⟩
    ·exact absurd x (h.nz u hu)
   ·exact k0
  obtain⟨g,g1,g2⟩:=qA (d:=u) (e:=bg w) (by unfold aa.cross bg at*;grind) (by unfold aa.dot bg at*;grind);have a3:0<= -(g*e.cross u):=by
   have e1:w=⟨-(g*u.x), -(g*u.y)⟩:=by
    have:=congrArg bg g2;unfold bg at this
    cases w
    simp only[Rat.neg_neg] at this;exact this
   rw[e1] at a2;unfold aa.cross at*;grind
  by_cases hz:0<e.cross u
  ·have:=bv g1 hz;grind
  ·grind
 have nzd: ∀e∈ds,e.half=u.half->e.dot u≠0:=fun e he k=>zp (h.nz e he) (h.nz u hu) (par e he k);by_cases k:d.half=u.half
 ·exact nzd d hd k
 ·have:=nzd _ (h.neg d hd) (by rw[pm (h.nz d hd)];have:=fm (h.nz d hd);omega)
  unfold aa.dot bg at*;grind
end Go.Sx
end
section
namespace Go.Sx
open Go
inductive OT where
 |z (π:List (Nat×Bool))
 |q (i:Nat) (t:OT)
 |a (i:Nat) (t:OT)
 |c (i:Nat) (t r:OT)
def OT.sz:OT->Nat
 | .z _=>0
 | .q _ t=>t.sz+1
 | .a _ t=>t.sz+1
 | .c _ t r=>t.sz+r.sz+1
def OT.d:OT->Nat
 | .z π=>π.length
 | .q _ t=>t.d+1
 | .a _ t=>t.d+1
 | .c _ t r=>Nat.max (t.d+1) r.d
section
variable {P:Program} {ops:Array Oper} {Q:Exit->Act->World->Prop} {S:World->Prop} {π₂:List (Nat×Bool)}
def sZ(P:Program)(ops:Array Oper)(Q:Exit->Act->World->Prop)(K:(World->Prop)->Act->World->Prop):List Nat->OT->(World->Prop)->Act->World->Prop
 |ks, .z π,S,a,w=>uI P ops Q K ks π S a w
 |ks, .q i t,S,a,w=> ∃o v,ops[i]? =some o/\S w/\YieldsIf P ops S o v a/\sZ P ops Q K ks t S (a.put o.dst v) w
 |ks, .a i t,S,a,w=>wpOp P ops Q i (sP S (sZ P ops Q K ks t)) a w/\
   ∀j,(h:j∈ks)->wpOp P ops Q j (sP S (sZ P ops Q K (jC ks j) (.a i t))) a w
 |ks, .c i t r,S,a,w=>wpOp P ops Q i (sP S (sZ P ops Q K ks t)) a w/\sZ P ops Q K ks r S a w/\
   ∀j,(h:j∈ks)->wpOp P ops Q j (sP S (sZ P ops Q K (jC ks j) (.c i t r))) a w
termination_by ks t=>ks.length+t.sz
decreasing_by
 all_goals (first|(have:=Cm h;simp only[OT.sz] at*;omega)|(simp only[OT.sz];omega))
def pP(ops:Array Oper)(fin:Nat->Bool)(π₂:List (Nat×Bool)):Nat->Bool->List Nat->OT->Array Bool->List Nat->Bool
 |0,_,_,_,_,_=>false
 |n+1,false,ks, .z π,l,_=>vR ops fin π₂ n ks π l
 |_+1,true,_, .z _,_,_=>false
 |n+1,false,ks, .q i t,l,_=>ut ops fin l i&&pP ops fin π₂ n false ks t (l.setIfInBounds i true) []
 |_+1,true,_, .q _ _,_,_=>false
 |n+1,true,ks, .a i t,l,rs=>rs.all (fun j=>Nat.beq j i)&&pP ops fin π₂ n false ks t (l.setIfInBounds i true) []
 |n+1,false,ks, .a i t,l,_=>!(Region.ready .any ops l).isEmpty&&(Region.ready .any ops l).all (fun j=>Nat.beq j i||ks.contains j)&&pP ops fin π₂ n false ks t (l.setIfInBounds i true) []&&ks.all fun j=>pP ops fin π₂ n false (jC ks j) (.a i t) (l.setIfInBounds j true) []
 |n+1,true,ks, .c i t r,l,rs=>pP ops fin π₂ n false ks t (l.setIfInBounds i true) []&&pP ops fin π₂ n true ks r l (jC rs i)
 |n+1,false,ks, .c i t r,l,_=>!(Region.ready .any ops l).isEmpty&&pP ops fin π₂ n false ks t (l.setIfInBounds i true) []&&pP ops fin π₂ n true ks r l (jC ((Region.ready .any ops l).filter fun j=>!ks.contains j) i)&&ks.all fun j=>pP ops fin π₂ n false (jC ks j) (.c i t r) (l.setIfInBounds j true) []
end
section
variable {P:Program} {GB:Gh} {C:aA} {n:Nat} {fr fr':dm} {own own' own0 own1 own1':List cB} {bs bs0 bs1 bs1':List c8} {ops:Array Oper} {Q:Exit->Act->World->Prop} {fd:List FD} {π₂:List (Nat×Bool)} {t r:OT}
abbrev YU (P:Program) (ops:Array Oper) (Q:Exit->Act->World->Prop) (K:(World->Prop)->Act->World->Prop) (t:OT):List Nat->(World->Prop)->Act->World->Prop:=fun ks S=>sZ P ops (jq Q) K ks t S
end
end Go.Sx
end
section
namespace Go.Sx
open Go Go.Proofs Tryz
variable {GB:Gh}
theorem LB.rev{l:ab}(h:LB l):LB l.rev:=⟨⟨by rw[show l.rev.a= -l.a from J,iV];exact h.bl.a,by rw[show l.rev.b= -l.b from J,iV];exact h.bl.b,by rw[show l.rev.c= -l.c from J,iV];exact h.bl.c⟩⟩
def MA{α:Type}{p:α->Bool}: ∀{xs:List α} {n:Nat},n<=xs.length->(∀j (h:j<xs.length),j<n->p xs[j]=true)->(∀h:n<xs.length,p xs[n]=false)->(xs.takeWhile p).length=n
 |[],n,h,_,_=>by simp at h;subst h;rfl
 |x::xs,0,_,_,h3=>by
  have:=h3 (by simp);simp only[nU] at this;simp[oS,this]
 |x::xs,n+1,h1,h2,h3=>by
  have hx:=h2 0 (by simp) (by omega);simp only[nU] at hx;rw[oS,if_pos hx,cX];rw[MA (n:=n) (by simpa using h1) (fun j h hj=>by have:=h2 (j+1) (by simpa using h) (by omega);simpa using this) (fun h=>by have:=h3 (by simpa using h);simpa using this)]
structure Cst (c:List ab) (k:Nat) (xs:List ab):Prop where
 le:k<=c.length
 f:Bz c (c.drop k) xs=p6 c
 m: ∀m∈xs,m∈c
 n:xs.length<=k
def L7(c:List ab):Bool:=if(((c.map eL).length:Nat):Int)=0 then true else decide ((0:Int)<((((p6 c).map eL).length:Nat):Int))
section
variable {α:Type} (c:α->α->Int)
def dF(x:α):List α->List α
 |[]=>[x]
 |u::t=>if c u x<0 then u::dF x t else if c u x=0 then u::t else x::u::t
def lI(x:α)(xs:List α):Nat:=(xs.takeWhile fun u=>decide (c u x<0)).length
def YH(x:α)(xs:List α):lI c x xs<=xs.length:=(List.takeWhile_sublist _).length_le
def GY{x:α}{xs:List α}{n:Nat}(h1:n<=xs.length)(h2: ∀j (h:j<xs.length),j<n->c xs[j] x<0)(h3: ∀h:n<xs.length,¬c xs[n] x<0):lI c x xs=n:=
 MA h1 (fun j h hj=>decide_eq_true (h2 j h hj)) (fun h=>decide_eq_false (h3 h))
def HG{x:α}: ∀{xs:List α} {n:Nat},lI c x xs=n->(h:n<xs.length)->c xs[n] x=0->dF c x xs=xs
 |[],n,_,h,_=>by simp at h
 |u::t,n,hn,h,e=>by
  rw[dF];unfold lI at hn;rw[oS] at hn;by_cases hu:c u x<0
  ·rw[if_pos hu]
   rw[if_pos (by simpa using hu)] at hn;obtain⟨k,rfl⟩: ∃k,n=k+1:=⟨n-1,by simp at hn;omega⟩;rw[HG (xs:=t) (n:=k) (by unfold lI;simpa using hn) (by simpa using h) (by simpa using e)]
  ·rw[if_neg (by simpa using hu)] at hn
   simp at hn;subst hn;rw[if_neg hu,if_pos (by simpa using e)]
def CS{x:α}: ∀{xs:List α} {n:Nat},lI c x xs=n->(∀h:n<xs.length,c xs[n] x≠0)->dF c x xs=xs.take n++x::xs.drop n
 |[],n,hn,_=>by simp[lI] at hn;subst hn;rfl
 |u::t,n,hn,e=>by
  rw[dF];unfold lI at hn;rw[oS] at hn;by_cases hu:c u x<0
  ·rw[if_pos hu]
   rw[if_pos (by simpa using hu)] at hn;obtain⟨k,rfl⟩: ∃k,n=k+1:=⟨n-1,by simp at hn;omega⟩;rw[CS (xs:=t) (n:=k) (by unfold lI;simpa using hn) (fun h=>by have:=e (by simpa using h);simpa using this)];simp
  ·rw[if_neg (by simpa using hu)] at hn
   simp at hn;subst hn;have:=e (by simp);rw[if_neg hu,if_neg (by simpa using this)];rfl
def JU(x:α): ∀(xs:List α),(dF c x xs).length<=xs.length+1
 |[]=>aL _
 |u::t=>by
  have:=JU x t;rw[dF];split
  ·simp;omega
  ·split<;>simp
def BR{x y:α}: ∀{xs:List α},y∈dF c x xs->y=x\/y∈xs
 |[],h=>by rw[dF,aW] at h;exact .inl h
 |u::t,h=>by
  rw[dF] at h;split at h
  ·rcases aU.1 h with rfl|h
   ·exact .inr aQ
   ·rcases BR h with h|h
    ·exact .inl h
    ·exact .inr (aJ _ h)
  ·split at h
   ·exact .inr h
   ·rcases aU.1 h with rfl|h
    ·exact .inl J
    ·exact .inr h
def qo(l:List α):List α:=l.foldl (fun out x=>dF c x out) []
def E8: ∀(l o:List α),(l.foldl (fun out x=>dF c x out) o).length<=l.length+o.length
 |[],o=>by simp
 |x::t,o=>by
  have:=E8 t (dF c x o);have:=JU c x o;simp only[fN,cX];omega
def uQ{y:α}: ∀{l o:List α},y∈l.foldl (fun out x=>dF c x out) o->y∈l\/y∈o
 |[],o,h=> .inr h
 |x::t,o,h=>by
  rcases uQ (l:=t) h with h|h
  ·exact .inl (aJ _ h)
  ·rcases BR c h with rfl|h
   ·exact .inl aQ
   ·exact .inr h
end
def Oi{α β:Type}{f:α->β}{l:List α}{k:Nat}{x:α}(h:l[k]? =some x):(l.take k).map f++[f x]=(l.take (k+1)).map f:=by
 rw[dL,h,dZ];rfl
instance BQ.m1':BQ (((-1:Int):Int):Rat) 2:=⟨by decide,by decide⟩
instance BQ.m1:BQ (-1:Rat) 2:=⟨by decide,by decide⟩
def HY{q:Rat}{i:Nat}[h:BQ q i](hi:i<=400000000:=by decide):PF GB prog 106 [eQ q] (eR q):=by
 refine fn func106 J J ntmps106 J J (fun C=>?_);refine cl J (RO (z:=q.num) hi) J<|cl J (lO (q:=q)) J<|cl J (Nj (a:=q.den) hi) J<|?_;exact rz J J
def IN{p:aa}{i:Nat}[h:az p i](hi:i<=20000:=by decide):PF GB prog 35 [eP p] (je p):=by
 refine fn func35 J J ntmps35 J J (fun C=>?_);refine cl J (HY (q:=p.x) (i:=i) (by omega)) J<|cl J (HY (q:=p.y) (i:=i) (by omega)) J<|?_;exact rz J J
def zf{α:Type}(f:α->DV)(l:List α):(l.map f).length=l.length:=aK ..
def pj(ps:List aa):eh 6 (ps.map eP):=fun d hd=>by
 obtain⟨u,_,rfl⟩:=bX.1 hd;exact⟨rfl,rfl⟩
def LC(ps:List aa):eh 6 (ps.map je):=fun d hd=>by
 obtain⟨u,_,rfl⟩:=bX.1 hd;exact⟨rfl,rfl⟩
def LW{ps:List aa}(hb: ∀p∈ps,az p 1200)(hn:ps.length<=1000000):PF GB prog 32 [.sl (ps.map eP)] (.sl (ps.map je)):=by
 have hm:=zf eP ps;refine fn (fu:=⟨15⟩) func32 J J ntmps32 J J (fun C=>?_);refine ak 7 (.d (vI (ps.length:Nat))) J (by rw[hm]<;>rfl) ?_;refine gx J<|?_;refine nr 3 3 73 6 J J J ?_;refine lp (X:=Nat) (fun k=>[(8, .d (vI (k:Nat))),(3, .rw 3)]) (fun k=>[(3,some (.b 73 6 ((ps.take k).map je) true))]) (fun k=>k<=ps.length) (fun k=>ps.length-k) 0 J (cV _) (fun _=>J) (fun k hk=>?_);have hml:=zf je (ps.take k);rw[cZ] at hml;refine br J J J (fun hc9=>?_) (fun hc9=>?_)
 .
  obtain⟨z,hz⟩: ∃s,ps[k]? =some s:=⟨_,aZ (by omega)⟩;have hzm:=bQ hz;refine ix _ J (fj hz) J<|cl J (IN (p:=z) (h:=hb z hzm)) J<|rf J J<|ap ((ps.take (k+1)).map je) J (Oi hz) (LC [z]) J<|?_;refine ly 16 3 J ?_;exact at_ (k+1) ⟨(by omega),(by omega)⟩
 .
  obtain rfl:k=ps.length:=by omega
  refine n5 3 J ?_;exact rz J (by rw[fY];rfl)
def fg(p q:aa):Int:=if bO p.x q.x≠0 then bO p.x q.x else bO p.y q.y
def Mc{p q:aa}{i j:Nat}[hp:az p i][hq:az q j](hi:i<=100000:=by decide)(hj:j<=100000:=by decide):PF GB prog 181 [eP p,eP q] (vI (fg p q)):=by
 refine fn func181 J J ntmps181 J J (fun C=>?_);refine cl J (xU (a:=p.x) (b:=q.x) (by omega) (by omega)) J<|?_;refine br J J J (fun hc12=>?_) (fun hc12=>?_)
 .
  exact rz J (by unfold fg;rw[if_pos hc12];rfl)
 .
  refine cl J (xU (a:=p.y) (b:=q.y) (by omega) (by omega)) J<|?_;exact rz J (by unfold fg;rw[if_neg hc12];rfl)
def td(l:ab):Bool:=decide (l.a<0\/(l.a=0/\l.b<0))
def ab.canon(l:ab):ab:=if td l then l.rev else l
def Dr(a:Int):a.sign<0↔a<0:=by
 rcases lJ a 0 with h|h|h
 ·rw[eJ h];omega
 ·subst h;simp
 ·rw[fQ h];omega
def nF(a:Int):a.sign=0↔a=0:=iZ
instance LB.canon (l:ab) [h:LB l]:LB l.canon:=by unfold ab.canon;split;exact LB.rev h;exact h
def Xe{l:ab}(h:l.ok):l.canon.ok:=by unfold ab.canon;split;exact h.rev;exact h
def qg{α β:Type}(c:β->β->Int)(g:α->β)(l:List α)(k:Nat):List β:=qo c ((l.take k).map g)
section
variable {α β:Type} {c:β->β->Int} {g:α->β} {l:List α} {k:Nat}
def CF{x:α}(h:l[k]? =some x):qg c g l (k+1)=dF c (g x) (qg c g l k):=by
 unfold qg qo;rw[dL,h,Option.toList_some,dZ,List.foldl_append];rfl
def Qd(h:k=l.length):qg c g l k=qo c (l.map g):=by unfold qg;rw[h,fY]
def X7:(qg c g l k).length<=k:=by
 have:=E8 c ((l.take k).map g) [];have h2:((l.take k).map g).length<=k:=by rw[aK,cZ];omega
 rw[jW] at this;unfold qg qo;omega
def Pc{y:β}(h:y∈qg c g l k): ∃x∈l,y=g x:=by
 rcases uQ c h with h|h
 ·obtain⟨x,hx,rfl⟩:=bX.1 h
  exact⟨x,fJ hx,J⟩
 ·cases h
end
def JR{α:Type}{f:α->DV}{s:Nat}(ok: ∀l:List α,eh s (l.map f))(xs:List α)(n:Nat):eh s ((xs.map f).take n):=fun d hd=>ok xs d (fJ hd)
def D4{α:Type}{f:α->DV}{s:Nat}(ok: ∀l:List α,eh s (l.map f))(xs:List α)(n m:Nat):eh s (((xs.map f).take n).drop m):=fun d hd=>ok xs d (fJ (mV hd))
def HH{α:Type}{f:α->DV}{s:Nat}(ok: ∀l:List α,eh s (l.map f))(xs:List α)(n m:Nat)(x:α):eh s ([f x]++((xs.map f).take n).drop m):=fun d hd=>by
 rcases bV.1 hd with h|h
 ·exact ok [x] d h
 ·exact D4 ok xs n m d h
def E'{α:Type}{f:α->DV}{l:List α}{i:Nat}(h:i<l.length):(l.map f)[(i:Int).toNat]? =some (f l[i]):=by
 rw[bM,gX,aZ h];rfl
def WH{ps:List aa}(hb: ∀p∈ps,az p 1200)(hn:ps.length<=100000):PF GB prog 90 [.sl (ps.map eP)] (.sl ((qo fg ps).map eP)):=by
 have hm':=zf eP ps;refine fn (fu:=⟨15⟩) func90 J J ntmps90 J J (fun C=>?_);refine ak 8 (.d (vI (ps.length:Nat))) J (by rw[hm'];rfl) ?_;refine gx J<|?_;refine SH 3 J ?_;refine lp (X:=List aa×Nat) (fun⟨xs,k⟩=>[(9, .d (vI (k:Nat))),(8, .d (vI (ps.length:Nat))),(7, .d (.sl (ps.map eP))),(0, .d (.sl (ps.map eP))),(3, .d (.sl (xs.map eP)))]) (fun⟨xs,k⟩=>[]) (fun⟨xs,k⟩=>xs=qg fg id ps k/\k<=ps.length) (fun⟨xs,k⟩=>ps.length-k) ⟨[],0⟩ J ⟨J,cV _⟩ (fun _=>J) (fun⟨xs,k⟩ hk=>?_)
 try dsimp only at hk⊢
 obtain⟨hS,hkl⟩:=hk;refine br J J J (fun hc10=>?_) (fun hc10=>?_)
 .
  have hk:k<ps.length:=by omega
  obtain⟨m,hm⟩: ∃m,m=ps[k]:=⟨_,rfl⟩;have hz:ps[k]? =some m:=by rw[hm];exact aZ hk
  haveI hmb:az m 1200:=hm▸hb _ (fR hk);have hxl:=zf eP xs;have hxn:xs.length<=k:=by rw[hS];exact X7
  have hxb: ∀q∈xs,az q 1200:=fun q hq=>by rw[hS] at hq;obtain⟨z,hz,he⟩:=Pc hq;rw[he];exact hb z hz
  refine ix (fu:=⟨1⟩) _ J (E' hk) J<|?_;refine ak 12 (.d (eP m)) J (by rw[hm];rfl) ?_;refine gx (fu:=⟨10⟩) J<|?_;refine mg (fu:=⟨5⟩) (X:=Unit) (fun _=>[(9, .d (vI (k:Nat))),(8, .d (vI (ps.length:Nat))),(7, .d (.sl (ps.map eP))),(0, .d (.sl (ps.map eP))),(3, .d (.sl (xs.map eP))),(5, .ov 5 0),(6, .d (vI (lI fg m xs:Nat)))]) (fun _=>[(5,some (.o 81 [.d ((.v (.bool (decide (m.x.num<0))))), .d (dN m.x.num.natAbs), .d (dD m.x.den), .d ((.v (.bool (decide (m.y.num<0))))), .d (dN m.y.num.natAbs), .d (dD m.y.den)] true))]) (fun _=>True) [9,8,7,0,3,5,6] [5] rfl ?_ (fun _=>J) (fun _ _=>?_)
  .
   refine gx J<|?_;refine lp (fu:=⟨6⟩) (X:=Nat) (fun n=>[(9, .d (vI (k:Nat))),(8, .d (vI (ps.length:Nat))),(7, .d (.sl (ps.map eP))),(0, .d (.sl (ps.map eP))),(3, .d (.sl (xs.map eP))),(5, .ov 5 0),(6, .d (vI (n:Nat)))]) (fun n=>[(5,some (.o 81 [.d ((.v (.bool (decide (m.x.num<0))))), .d (dN m.x.num.natAbs), .d (dD m.x.den), .d ((.v (.bool (decide (m.y.num<0))))), .d (dN m.y.num.natAbs), .d (dD m.y.den)] true))]) (fun n=>n<=xs.length/\ ∀j (h:j<xs.length),j<n->fg xs[j] m<0) (fun n=>xs.length-n) 0 J ⟨cV _,fun j _ hj=>absurd hj (by omega)⟩ (fun _=>J) (fun n hk=>?_);obtain⟨n1,n2⟩:=hk;refine uH (v2:=fun hg16=>by simp only[ah];kernel_rfl) J J J J (fun hg16=>?_) (fun hg16=>?_)
   .
    refine ix _ J (E' (by omega)) J<|cl J (Mc (p:=xs[n]'(by omega)) (q:=m) (hp:=hxb _ (fR (by omega))) (hq:=hmb)) J<|?_;refine br J J J (fun hc25=>?_) (fun hc25=>?_)
    .
     exact at_ (n+1) ⟨⟨by omega,fun j h hj=>by by_cases q:j=n;(subst q;exact hc25);exact n2 j h (by omega)⟩,(by omega)⟩
    .
     have hidx:lI fg m xs=n:=GY fg n1 n2 (fun h=>hc25);exact at_ () trivial
   .
    have hidx:lI fg m xs=n:=GY fg n1 n2 (fun h=>absurd h (by omega));exact at_ () trivial
  .
   obtain⟨n,hnx⟩: ∃n,lI fg m xs=n:=⟨_,rfl⟩;rw[hnx];have hnl:n<=xs.length:=by rw[<-hnx];exact YH _ _ _
   refine uH (v1:=fun hg31=>by simp only[ah];kernel_rfl) J J J J (fun hg31=>?_) (fun hg31=>?_)
   .
    have hnew: ∀h:n<xs.length,fg xs[n] m≠0:=fun h=>absurd h (by omega);obtain⟨ys,hys⟩: ∃ys,ys=xs.take n++m::xs.drop n:=⟨_,rfl⟩;have hin:dF fg m xs=ys:=by rw[hys];exact CS fg hnx hnew
    have hyl:ys.length<=xs.length+1:=by rw[hys];simp;omega
    refine s3 n _ J J J J (pj _) (by rw[hxl];exact hnl) J<|ro J J<|tg n xs.length _ J J (by rw[hxl]) J (pj _) hnl (by omega) J<|?_;refine ap _ J J (D4 pj _ _ _) J<|LZ (hv:=by simp only[ah];exact⟨by kernel_rfl,by omega⟩) (ho:=fun _=>⟨JR pj _ _,by simp⟩) (ys.map eP) J (by rw[hys,dZ,cL,lR,qM,aS (l:=xs.map eP) (i:=xs.length) (by simp)];rfl) (HH pj _ _ _ _) J<|?_;exact at_ ⟨ys,k+1⟩ (by dsimp only;exact⟨⟨by rw[CF hz,<-hS];exact hin.symm,by omega⟩,(by omega)⟩)
   .
    refine ix _ J (E' (by omega)) J<|cl J (Mc (p:=xs[n]'(by omega)) (q:=m) (hp:=hxb _ (fR (by omega))) (hq:=hmb)) J<|?_;refine br J J J (fun hc40=>?_) (fun hc40=>?_)
    .
     have hnew: ∀h:n<xs.length,fg xs[n] m≠0:=fun h=>hc40;obtain⟨ys,hys⟩: ∃ys,ys=xs.take n++m::xs.drop n:=⟨_,rfl⟩;have hin:dF fg m xs=ys:=by rw[hys];exact CS fg hnx hnew
     have hyl:ys.length<=xs.length+1:=by rw[hys];simp;omega
     refine s3 n _ J J J J (pj _) (by rw[hxl];exact hnl) J<|ro J J<|tg n xs.length _ J J (by rw[hxl]) J (pj _) hnl (by omega) J<|?_;refine ap _ J J (D4 pj _ _ _) J<|LZ (hv:=by simp only[ah];exact⟨by kernel_rfl,by omega⟩) (ho:=fun _=>⟨JR pj _ _,by simp⟩) (ys.map eP) J (by rw[hys,dZ,cL,lR,qM,aS (l:=xs.map eP) (i:=xs.length) (by simp)];rfl) (HH pj _ _ _ _) J<|?_;exact at_ ⟨ys,k+1⟩ (by dsimp only;exact⟨⟨by rw[CF hz,<-hS];exact hin.symm,by omega⟩,(by omega)⟩)
    .
     have hin:dF fg m xs=xs:=HG fg hnx (by omega) (Decidable.not_not.1 hc40);exact at_ ⟨xs,k+1⟩ (by dsimp only;exact⟨⟨by rw[CF hz,<-hS];exact hin.symm,by omega⟩,(by omega)⟩)
 .
  have hfin:qo fg ps=xs:=by rw[hS,Qd (by omega),List.map_id]
  exact rz J (by rw[hfin];rfl)
def my(ls:List ab):List ab:=qo p8 (ls.map ab.canon)
def N9{ls:List ab}{y:ab}(h:y∈my ls): ∃x∈ls,y=x.canon:=by
 rcases uQ p8 h with h|h
 ·obtain⟨x,hx,rfl⟩:=bX.1 h;exact⟨x,hx,rfl⟩
 ·cases h
def Bd{α:Type}{c:α->α->Int}(hc: ∀u x,c u x=0->u=x){x y:α}: ∀{xs:List α},y=x\/y∈xs->y∈dF c x xs
 |[],h=>by
  rcases h with rfl|h
  ·rw[dF];exact aW.2 J
  ·cases h
 |u::t,h=>by
  rw[dF];split
  ·rcases h with rfl|h
   ·exact aJ _ (Bd hc (.inl J))
   ·rcases aU.1 h with rfl|h
    ·exact aQ
    ·exact aJ _ (Bd hc (.inr h))
  ·split
   ·rename_i h0
    rcases h with rfl|h
    ·rw[<-hc _ _ h0];exact aQ
    ·exact h
   ·rcases h with rfl|h
    ·exact aQ
    ·exact aJ _ h
def L9{α:Type}{c:α->α->Int}(hc: ∀u x,c u x=0->u=x){y:α}: ∀{l o:List α},y∈l\/y∈o->y∈l.foldl (fun out x=>dF c x out) o
 |[],o,h=>h.elim (fun h=>by cases h) id
 |x::t,o,h=>by
  refine L9 hc (l:=t) ?_;rcases h with h|h
  ·rcases aU.1 h with rfl|h
   ·exact .inr (Bd hc (.inl J))
   ·exact .inl h
  ·exact .inr (Bd hc (.inr h))
def TB{ls:List ab}{x:ab}(h:x∈ls):x.canon∈my ls:=
 L9 (fun u x e=>(Qq u x).1 e) (.inl (iT h))
def FU(l:ab)(p:aa):l.canon.value p=l.value p\/l.canon.value p= -l.value p:=by
 unfold ab.canon;split
 ·exact .inr (m8 l p)
 ·exact .inl J
def DL(a b:Tr):List aa:=MC (my (a.lns++b.lns))
def Zw(a b:Tr):Bool:=(DL a b).all fun p=>sK a p==sK b p
def YY(f:Bool->Bool->Bool)(a b:Tr):Bool:=(DL a b).any fun p=>f (sK a p) (sK b p)
def aEJ(v:Bool)(t:Tr):Bool:=decide ((t.restrict []).isLeaf=true/\(t.restrict []).code=v)
end Go.Sx
end
