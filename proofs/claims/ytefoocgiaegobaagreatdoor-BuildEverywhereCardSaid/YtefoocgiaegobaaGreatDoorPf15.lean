import Derived.Test.YtefoocgiaegobaaGreatDoorPf14
set_option linter.all false
set_option maxHeartbeats 2000000
set_option maxRecDepth 100000
section
namespace Go.Sx
open Go Go.Proofs Tryz
variable {GB:Gh}
def Tr.val:Tr->aa->Bool
 | .leaf b,_=>b
 | .node l x y,p=>if 0<l.value p then x.val p else y.val p
def Tr.lns:Tr->List ab
 | .leaf _=>[]
 | .node l x y=>l::(x.lns++y.lns)
def qr{P:ab->Prop}: ∀{t:Tr},t.all P↔ ∀l∈t.lns,P l
 | .leaf _=>⟨fun _ l hl=>(by cases hl),fun _=>trivial⟩
 | .node l x y=>by
  show(P l/\x.all P/\y.all P)↔ ∀m∈l::(x.lns++y.lns),P m;rw[qr (t:=x),qr (t:=y)];constructor
  ·rintro ⟨h0,h1,h2⟩ m hm
   rcases aV.1 hm with rfl|hm
   ·exact h0
   ·rcases bS.1 hm with hm|hm
    ·exact h1 m hm
    ·exact h2 m hm
  ·intro h
   exact⟨h l aQ,fun m hm=>h m (aZ _ (cJ _ hm)),fun m hm=>h m (aZ _ (cV _ hm))⟩
def uL{t:Tr}(h:t.all ab.ok): ∀l∈t.lns,l.ok:=qr.1 h
def f5(L:List ab)(p:aa):Prop:= ∀l∈L,l.value p≠0
def f5.sub{L M:List ab}{p:aa}(h:f5 L p)(k: ∀l∈M,l∈L):f5 M p:=fun l hl=>h l (k l hl)
def f5.l{l:ab}{x y:Tr}{p:aa}(h:f5 (Tr.node l x y).lns p):l.value p≠0:=h l aQ
def f5.x{l:ab}{x y:Tr}{p:aa}(h:f5 (Tr.node l x y).lns p):f5 x.lns p:=h.sub fun m hm=>aZ _ (cJ _ hm)
def f5.y{l:ab}{x y:Tr}{p:aa}(h:f5 (Tr.node l x y).lns p):f5 y.lns p:=h.sub fun m hm=>aZ _ (cV _ hm)
def opB(op:Int)(a b:Bool):Bool:=if op=1 then a||b else if op=2 then a&&b else if op=3 then a&&!b else a !=b
def Tr.val_join(l:ab)(X Y:Tr)(p:aa):(Tr.joinQ l X Y).val p=(Tr.node l X Y).val p:=by
 unfold Tr.joinQ;split
 ·rename_i h
  cases X<;>cases Y<;>simp[Tr.isLeaf,Tr.code] at h
  subst h;simp[Tr.val]
 ·rfl
def Tr.val_pos{l:ab}{x y:Tr}{p:aa}(h:0<l.value p):(Tr.node l x y).val p=x.val p:=by rw[Tr.val,if_pos h]
def Tr.val_neg{l:ab}{x y:Tr}{p:aa}(h: ¬0<l.value p):(Tr.node l x y).val p=y.val p:=by rw[Tr.val,if_neg h]
def OC{c:aF}{l:ab}(hc:d8 c)(hl:l.ok)(hb:cP c l.rev=false){p:aa}(hp:bP c p)(h0:l.value p≠0):0<l.value p:=by
 by_cases h:0<l.value p
 ·exact h
 ·exfalso
  have:cP c l.rev=true:=(sr hc hl.rev).2 ⟨p,hp,by rw[ij];grind⟩;rw[hb] at this;cases this
def Oc{c:aF}{l:ab}(hc:d8 c)(hl:l.ok)(hb:cP c l=false){p:aa}(hp:bP c p): ¬0<l.value p:=fun h=>by
 have:cP c l=true:=(sr hc hl).2 ⟨p,hp,h⟩;rw[hb] at this;cases this
def Tr.val_restrict: ∀(t:Tr) (c:aF) (p:aa),t.all ab.ok->d8 c->bP c p->f5 t.lns p->(t.restrict c).val p=t.val p
 | .leaf _,_,_,_,_,_,_=>rfl
 | .node l x y,c,p,⟨hl,hx,hy⟩,hc,hp,ho=>by
  cases hb:cP c l.rev with
  |false=>rw[Tr.restrict_A _ _ hb,x.val_restrict c p hx hc hp ho.x,Tr.val_pos (OC hc hl hb hp ho.l)]
  |true=>
   cases hb2:cP c l with
   |false=>rw[Tr.restrict_B _ _ hb hb2,y.val_restrict c p hy hc hp ho.y,Tr.val_neg (Oc hc hl hb2 hp)]
   |true=>
    rw[Tr.restrict_C _ _ hb hb2,Tr.val_join];obtain⟨g1,i1⟩:=kC hc hl hb2;obtain⟨g2,i2⟩:=kC hc hl.rev hb;by_cases h:0<l.value p
    ·rw[Tr.val_pos h,Tr.val_pos h,x.val_restrict _ p hx g1 ((i1 p).2 ⟨hp,h⟩) ho.x]
    ·rw[Tr.val_neg h,Tr.val_neg h,y.val_restrict _ p hy g2 ((i2 p).2 ⟨hp,by rw[ij];have:=ho.l;grind⟩) ho.y]
def KY: ∀(L:List ab) (u:aa) (p:aa),f5 L p-> ∃e:Rat,0<e/\ ∀d,0<=d->d<=e->f5 L (dC p u d)
 |[],u,p,_=>⟨1,by decide,fun d _ _ l hl=>by cases hl⟩
 |l::L,u,p,h=>by
  obtain⟨e,he,hm⟩:=KY L u p (h.sub fun m hm=>aZ _ hm);have h0:=h l aQ;have key: ∃f:Rat,0<f/\ ∀d,0<=d->d<=f->l.value (dC p u d)≠0:=by
   by_cases hk:l.nor.dot u=0
   ·exact⟨1,by decide,fun d _ _=>by rw[jG,hk];grind⟩
   ·generalize hA:l.value p=A at*
    generalize hB:l.nor.dot u=B at*;rcases gP A with h|h|h
    ·exact absurd h h0
    ·rcases gP B with k|k|k
     ·exact absurd k hk
     ·exact⟨1,by decide,fun d hd _=>by rw[jG,hA,hB];have:=fy hd (fY k);grind⟩
     ·refine⟨A/(-B)/2,?_,fun d hd h2=>?_⟩
      ·have:0<A/(-B):=by
        have e1:A/(-B)*(-B)=A:=by grind
        exact(ke (k:= -B) (by grind)).1 (by rw[e1];exact h)
       grind
      ·rw[jG,hA,hB]
       have e1:A/(-B)*(-B)=A:=by grind
       generalize A/(-B)=q at*;have h4:=fy (a:=q/2-d) (b:= -B) (by grind) (by grind);grind
    ·rcases gP B with k|k|k
     ·exact absurd k hk
     ·refine⟨(-A)/B/2,?_,fun d hd h2=>?_⟩
      ·have:0<(-A)/B:=by
        have e1:(-A)/B*B= -A:=by grind
        exact(ke (k:=B) k).1 (by rw[e1];grind)
       grind
      ·rw[jG,hA,hB]
       have e1:(-A)/B*B= -A:=by grind
       generalize (-A)/B=q at*;have h4:=fy (a:=q/2-d) (b:=B) (by grind) (by grind);grind
     ·exact⟨1,by decide,fun d hd _=>by rw[jG,hA,hB];have:=fy hd (b:= -B) (by grind);grind⟩
  obtain⟨f,hf,hk⟩:=key;refine⟨if e<=f then e else f,by split<;>assumption,fun d hd hde m hm'=>?_⟩;have h1:d<=e/\d<=f:=by split at hde<;>grind
  rcases aV.1 hm' with rfl|hm'
  ·exact hk d hd h1.2
  ·exact hm d hd h1.1 m hm'
def D1{c:aF}{p:aa}(hp:bP c p): ∀(L:List ab),(∀l∈L,l.ok)-> ∃q,bP c q/\f5 L q
 |[],_=>⟨p,hp,fun l hl=>by cases hl⟩
 |l::L,h=>by
  obtain⟨q,hq,ho⟩:=D1 hp L fun m hm=>h m (aZ _ hm);by_cases h0:l.value q=0
  ·have hn:=pP (h l aQ).ne
   obtain⟨e,he,hm⟩:=hq.open l.nor;obtain⟨f,hf,hk⟩:=KY L l.nor q ho;refine⟨dC q l.nor (if e<=f then e else f),hm _ (by split<;>grind) (by split<;>grind),fun m hm'=>?_⟩;rcases aV.1 hm' with rfl|hm'
   ·rw[jG,h0]
    have:=ce (a:=if e<=f then e else f) (b:=m.nor.dot m.nor) (by split<;>assumption) hn;grind
   ·exact hk _ (by split<;>grind) (by split<;>grind) m hm'
  ·exact⟨q,hq,fun m hm=>by rcases aV.1 hm with rfl|hm;exact h0;exact ho m hm⟩
def RM{c:aF}(hc:d8 c)(L:List ab)(h: ∀l∈L,l.ok): ∃q,bP c q/\f5 L q:=by
 obtain⟨p,hp⟩:=hc.ne;exact D1 hp L h
def Tr.Red:Tr->aF->Prop
 | .leaf _,_=>True
 | .node l x y,c=>cP c l=true/\cP c l.rev=true/\x.Red (bF c l)/\y.Red (bF c l.rev)/\ ¬(x.isLeaf=true/\y.isLeaf=true/\x.code=y.code)
def Tr.red_leaf{t:Tr}(h:t.isLeaf=true)(c:aF):t.Red c:=by
 cases t with
 |leaf b=>trivial
 |node l x y=>cases h
def Tr.join_red{l:ab}{x y:Tr}{c:aF}(h1:cP c l=true)(h2:cP c l.rev=true)(hx:x.Red (bF c l))(hy:y.Red (bF c l.rev)):(Tr.joinQ l x y).Red c:=by
 rcases Tr.joinQ_cases l x y with⟨e,h⟩|⟨e,h⟩
 ·rw[e];exact Tr.red_leaf h c
 ·rw[e];exact⟨h1,h2,hx,hy,h⟩
def Tr.restrict_red: ∀(t:Tr) (c:aF),(t.restrict c).Red c
 | .leaf _,_=>trivial
 | .node l x y,c=>by
  cases hb:cP c l.rev with
  |false=>rw[Tr.restrict_A _ _ hb];exact x.restrict_red c
  |true=>
   cases hb2:cP c l with
   |false=>rw[Tr.restrict_B _ _ hb hb2];exact y.restrict_red c
   |true=>rw[Tr.restrict_C _ _ hb hb2];exact Tr.join_red hb2 hb (x.restrict_red _) (y.restrict_red _)
def TO(p:aa):bP [] p:=fun s hs=>(by cases hs)
def ab.same(l m:ab):Prop:=m=l\/m=l.rev
instance (l m:ab):Decidable (l.same m):=inferInstanceAs (Decidable (_\/_))
def Tr.cnt(l:ab):Tr->Nat
 | .leaf _=>0
 | .node m x y=>(if l.same m then 1 else 0)+(x.cnt l+y.cnt l)
def qp{l m:ab}(h:l.same m){p:aa}(hp:l.value p=0):m.value p=0:=by
 rcases h with rfl|rfl
 ·exact hp
 ·rw[ij,hp];rfl
def Bi(l:ab)(c:aF):Prop:= ∃p,bP c p/\l.value p=0
def Tr.cnt_zero{l:ab}: ∀{t:Tr} {c:aF},t.Red c->t.all ab.ok->d8 c-> ¬Bi l c->t.cnt l=0
 | .leaf _,_,_,_,_,_=>rfl
 | .node m x y,c,⟨h1,h2,h3,h4,_⟩,⟨hm,hx,hy⟩,hc,hn=>by
  obtain⟨g1,i1⟩:=kC hc hm h1;obtain⟨g2,i2⟩:=kC hc hm.rev h2;have e1:=Tr.cnt_zero (l:=l) h3 hx g1 (fun⟨p,hp,h0⟩=>hn ⟨p,((i1 p).1 hp).1,h0⟩);have e2:=Tr.cnt_zero (l:=l) h4 hy g2 (fun⟨p,hp,h0⟩=>hn ⟨p,((i2 p).1 hp).1,h0⟩);rw[Tr.cnt,e1,e2];by_cases hs:l.same m
  ·exfalso
   -- m crosses the cell
   obtain⟨p,hp,k1⟩:=(sr hc hm).1 h1;obtain⟨q,hq,k2⟩:=(sr hc hm.rev).1 h2;rw[ij] at k2;generalize hA:m.value p=A at*;generalize hB:m.value q=B at*;have hAB:0<A-B:=by grind
   have e:A/(A-B)*(A-B)=A:=by grind
   generalize A/(A-B)=r at*;have r0:0<=r:=(j0 hAB).1 (by rw[e];exact fY k1);have r1:r<=1:=by
    have:=(j0 (s:=1-r) hAB).1 (by grind);grind
   have hz:=hp.seg hq r0 r1;have hv:m.value (bu p q r)=0:=by rw[lx,hA,hB];grind
   refine hn ⟨_,hz,?_⟩;rcases hs with rfl|rfl
   ·exact hv
   ·rw[ij] at hv;grind
  ·rw[if_neg hs]
def pE(c:aF)(p:aa):Bool:=c.all fun s=>decide (0<s.l.value p)
def ri{c:aF}{p:aa}:pE c p=true↔bP c p:=by
 unfold pE bP;rw[fX];simp
def Lp(P:List aa)(l:ab)(t:Tr):Prop:=t.all fun m=>l.same m\/ ∀p,l.value p=0->m.value p=0->p∈P
def Hk{α:Type}{p q r:α->Bool}: ∀(P:List α),(∀x∈P,q x=true->p x=true)->(∀x∈P,r x=true->p x=true)->(∀x∈P,¬(q x=true/\r x=true))->P.countP q+P.countP r<=P.countP p
 |[],_,_,_=>aM _
 |x::P,h1,h2,h3=>by
  have ih:=Hk (p:=p) (q:=q) (r:=r) P (fun y hy=>h1 y (aZ _ hy)) (fun y hy=>h2 y (aZ _ hy)) (fun y hy=>h3 y (aZ _ hy));have a:=h1 x aQ;have b:=h2 x aQ;have c:=h3 x aQ;rw[oR,oR,oR]
  cases hq:q x<;>cases hr:r x<;>simp_all<;>omega
def P3{α:Type}{p q r:α->Bool}: ∀(P:List α),(∀x∈P,q x=true->p x=true)->(∀x∈P,r x=true->p x=true)->(∀x∈P,¬(q x=true/\r x=true))->(∃x∈P,p x=true/\q x=false/\r x=false)->P.countP q+P.countP r+1<=P.countP p
 |[],_,_,_,⟨x,hx,_⟩=>by cases hx
 |x::P,h1,h2,h3,h4=>by
  have i2:=Hk (p:=p) (q:=q) (r:=r) P (fun y hy=>h1 y (aZ _ hy)) (fun y hy=>h2 y (aZ _ hy)) (fun y hy=>h3 y (aZ _ hy));have a:=h1 x aQ;have b:=h2 x aQ;have c:=h3 x aQ;rw[oR,oR,oR];obtain⟨z,hz,k1,k2,k3⟩:=h4;rcases aV.1 hz with rfl|hz
  ·simp only[k1,k2,k3];simp;omega
  ·have ih:=P3 (p:=p) (q:=q) (r:=r) P (fun y hy=>h1 y (aZ _ hy)) (fun y hy=>h2 y (aZ _ hy)) (fun y hy=>h3 y (aZ _ hy)) ⟨z,hz,k1,k2,k3⟩
   cases hq:q x<;>cases hr:r x<;>simp_all<;>omega
def Tr.cnt_le{l:ab}(hl:l.ok){P:List aa}: ∀{t:Tr} {c:aF},t.Red c->t.all ab.ok->d8 c->Lp P l t->t.cnt l<=1+P.countP (pE c)
 | .leaf _,_,_,_,_,_=>bK _
 | .node m x y,c,⟨h1,h2,h3,h4,_⟩,⟨hm,hx,hy⟩,hc,⟨v0,v1,v2⟩=>by
  obtain⟨g1,i1⟩:=kC hc hm h1;obtain⟨g2,i2⟩:=kC hc hm.rev h2;have q1: ∀p∈P,pE (bF c m) p=true->pE c p=true:=fun p _ h=>ri.2 ((i1 p).1 (ri.1 h)).1;have q2: ∀p∈P,pE (bF c m.rev) p=true->pE c p=true:=fun p _ h=>ri.2 ((i2 p).1 (ri.1 h)).1;have q3: ∀p∈P,¬(pE (bF c m) p=true/\pE (bF c m.rev) p=true):=fun p _ ⟨a,b⟩=>by
   have a:=((i1 p).1 (ri.1 a)).2;have b:=((i2 p).1 (ri.1 b)).2;rw[ij] at b;grind
  have ct:=Hk P q1 q2 q3;rw[Tr.cnt];by_cases hs:l.same m
  ·have e1:=Tr.cnt_zero (l:=l) h3 hx g1 (fun⟨p,hp,h0⟩=>by have:=((i1 p).1 hp).2;rw[qp hs h0] at this;grind)
   have e2:=Tr.cnt_zero (l:=l) h4 hy g2 (fun⟨p,hp,h0⟩=>by have:=((i2 p).1 hp).2;rw[ij,qp hs h0] at this;grind);rw[e1,e2,if_pos hs];omega
  ·rw[if_neg hs]
   have b1:=Tr.cnt_le hl h3 hx g1 v1;have b2:=Tr.cnt_le hl h4 hy g2 v2;by_cases w1:Bi l (bF c m)
   ·by_cases w2:Bi l (bF c m.rev)
    ·-- the crossing lies in the cell
     obtain⟨p,hp,k1⟩:=w1;obtain⟨q,hq,k2⟩:=w2;obtain⟨hp,ap⟩:=(i1 p).1 hp;obtain⟨hq,aq⟩:=(i2 q).1 hq;rw[ij] at aq;generalize hA:m.value p=A at*;generalize hB:m.value q=B at*;have hAB:0<A-B:=by grind
     have e:A/(A-B)*(A-B)=A:=by grind
     generalize A/(A-B)=r at*;have r0:0<=r:=(j0 hAB).1 (by rw[e];exact fY ap);have r1:r<=1:=by
      have:=(j0 (s:=1-r) hAB).1 (by grind);grind
     have hz:=hp.seg hq r0 r1;have hv:m.value (bu p q r)=0:=by rw[lx,hA,hB];grind
     have hv2:l.value (bu p q r)=0:=by rw[lx,k1,k2];grind
     have hmem:bu p q r∈P:=by
      rcases v0 with h|h
      ·exact absurd h hs
      ·exact h _ hv2 hv
     have c3:=P3 P q1 q2 q3 ⟨_,hmem,ri.2 hz,by
      rw[<-mZ,ri,i1];rintro ⟨_,h⟩;rw[hv] at h;grind,by
      rw[<-mZ,ri,i2];rintro ⟨_,h⟩;rw[ij,hv] at h;grind⟩
     omega
    ·rw[Tr.cnt_zero h4 hy g2 w2];omega
   ·rw[Tr.cnt_zero h3 hx g1 w1];omega
def IP(l:ab):l.rev.rev=l:=by cases l;simp[ab.rev]
def ab.same.symm{l m:ab}(h:l.same m):m.same l:=by
 rcases h with rfl|rfl
 ·exact .inl J
 ·exact .inr (IP l).symm
def ab.same.trans{l m n:ab}(h:l.same m)(k:m.same n):l.same n:=by
 rcases h with rfl|rfl
 ·exact k
 ·rcases k with rfl|rfl
  ·exact .inr J
  ·exact .inl (IP l)
def n9(K:List ab)(t:Tr):Prop:=t.all fun n=> ∃m∈K,m.same n
def wM(l m:ab):aa:=l.at (-(l.cutC m/l.cutK m))
def Cl{l m:ab}(hl:l.ok)(hm:m.ok){p:aa}(h1:l.value p=0)(h2:m.value p=0):l.same m\/p=wM l m:=by
 obtain⟨t,rfl⟩:=zR hl.ne h1;rw[nH] at h2;by_cases hk:l.cutK m=0
 ·left
  have hc:l.cutC m=0:=by rw[hk] at h2;grind
  rcases DM hm hl (fun s=>by rw[nH,hk,hc];grind) with h|h
  ·exact .inl h
  ·exact .inr h
 ·right
  unfold wM;congr 1;grind
def n9.covers{K:List ab}(hK: ∀m∈K,m.ok){l:ab}(hl:l.ok): ∀{t:Tr},n9 K t->Lp (K.map (wM l)) l t
 | .leaf _,_=>trivial
 | .node n x y,⟨⟨m,hm,hs⟩,h1,h2⟩=>by
  refine⟨?_,n9.covers hK hl h1,n9.covers hK hl h2⟩;by_cases h:l.same n
  ·exact .inl h
  ·right
   intro p k1 k2;rcases Cl hl (hK m hm) k1 (qp hs.symm k2) with h3|h3
   ·exact absurd (h3.trans hs) h
   ·rw[h3];exact gS hm
def Kc(t:Tr):List ab->Nat
 |[]=>0
 |l::K=>t.cnt l+Kc t K
def Ks(n:ab):List ab->Nat
 |[]=>0
 |l::K=>(if l.same n then 1 else 0)+Ks n K
def Rk{n:ab}{x y:Tr}: ∀K,Kc (.node n x y) K=Ks n K+(Kc x K+Kc y K)
 |[]=>rfl
 |l::K=>by
  have:=Rk (n:=n) (x:=x) (y:=y) K;show(Tr.node n x y).cnt l+Kc (.node n x y) K=_;rw[this,Tr.cnt];show _=(if l.same n then 1 else 0)+Ks n K+(x.cnt l+Kc x K+(y.cnt l+Kc y K));omega
def JB{n m:ab}(hs:m.same n): ∀{K:List ab},m∈K->1<=Ks n K
 |[],h=>by cases h
 |l::K,h=>by
  show 1<=(if l.same n then 1 else 0)+Ks n K;rcases aV.1 h with rfl|h
  ·rw[if_pos hs];omega
  ·have:=JB hs h;omega
def EU{K:List ab}: ∀{t:Tr},n9 K t->t.size<=Kc t K
 | .leaf _,_=>bK _
 | .node n x y,⟨⟨m,hm,hs⟩,h1,h2⟩=>by
  have a:=EU h1;have b:=EU h2;have c:=JB hs hm;rw[Rk,Tr.size];omega
def Jd{t:Tr}{B:Nat}: ∀{K:List ab},(∀l∈K,t.cnt l<=B)->Kc t K<=K.length*B
 |[],_=>bK _
 |l::K,h=>by
  have:=Jd (t:=t) (B:=B) (K:=K) fun m hm=>h m (aZ _ hm);have:=h l aQ;show t.cnt l+Kc t K<=(K.length+1)*B;rw[gX];omega
def Tr.size_le{K:List ab}(hK: ∀m∈K,m.ok){t:Tr}{c:aF}(hr:t.Red c)(ht:t.all ab.ok)(hc:d8 c)(h:n9 K t):t.size<=K.length*(1+K.length):=by
 refine dR (EU h) (Jd fun l hl=>?_);refine dR (Tr.cnt_le (hK l hl) hr ht hc (h.covers hK (hK l hl))) ?_;have:=List.countP_le_length (p:=pE c) (l:=K.map (wM l));rw[aJ] at this;omega
def n9.restrict{K:List ab}{t:Tr}(h:n9 K t)(c:aF):n9 K (t.restrict c):=t.restrict_all _ c h
def Tr.chooseL(op:Int)(b:Bool)(t:Tr)(c:List ab):Tr:=
 if op=1/\b=true then .leaf true
 else if(op=2\/op=3)/\b=false then .leaf false
 else if(op=3\/op=4)/\b=true then(t.restrictL c).compl else t.restrictL c
def Tr.mergeL(op:Int):Tr->Tr->List ab->Tr
 | .leaf b,u,c=>u.chooseL op b c
 | .node l x y,u,c=>if DH c l=1 then x.mergeL op u c else if DH c l= -1 then y.mergeL op u c else joinQ l (x.mergeL op u (s7 (c++[l]))) (y.mergeL op u (s7 (c++[l.rev])))
structure Gen (L:List ab) (a b:Tr):Prop where
 oa:a.all ab.ok
 ob:b.all ab.ok
 ok: ∀l∈L,l.ok
 la: ∀l∈a.lns,l∈L
 lb: ∀l∈b.lns,l∈L
def eE(x:Rat):List Rat->List Rat
 |[]=>[x]
 |u::t=>if u<x then u::eE x t else if u=x then u::t else x::u::t
def fj(l:List Rat):List Rat:=l.foldl (fun out x=>eE x out) []
def fe:List Rat->List Rat
 |a::b::t=>(a+b)/2::fe (b::t)
 |_=>[]
def cE:List Rat->List Rat
 |[]=>[0]
 |a::t=>(a-1)::(fe (a::t)++[(a::t).getLast (by simp)+1])
def uJ{x y:Rat}: ∀{l:List Rat},y∈eE x l↔y=x\/y∈l
 |[]=>by simp[eE]
 |u::t=>by
  rw[eE];split
  ·rw[aV,uJ (l:=t),aV];grind
  ·split
   ·rename_i h;subst h;simp
   ·simp
def xW{x:Rat}: ∀{l:List Rat},l.Pairwise (· < ·)->(eE x l).Pairwise (· < ·)
 |[],_=>by simp[eE]
 |u::t,h=>by
  rw[bJ] at h;rw[eE];split
  ·rename_i hu
   rw[bJ];refine⟨fun y hy=>?_,xW h.2⟩;rcases uJ.1 hy with rfl|hy
   ·exact hu
   ·exact h.1 y hy
  ·rename_i hu
   split
   ·rw[bJ];exact h
   ·rename_i hn
    have hx:x<u:=by grind
    rw[bJ,bJ];refine⟨fun y hy=>?_,h⟩;rcases aV.1 hy with rfl|hy
    ·exact hx
    ·have:=h.1 y hy;grind
def Pc{l:List Rat}: ∀{o:List Rat},o.Pairwise (· < ·)->(l.foldl (fun out x=>eE x out) o).Pairwise (· < ·)/\ ∀y,y∈l.foldl (fun out x=>eE x out) o↔y∈l\/y∈o:=by
 induction l with
 |nil=>intro o h;exact⟨h,fun y=>by simp⟩
 |cons x t ih=>
  intro o h;obtain⟨h1,h2⟩:=ih (xW (x:=x) h);refine⟨h1,fun y=>?_⟩;rw[dX,h2,uJ,aV];grind
def Px(l:List Rat):(fj l).Pairwise (· < ·):=(Pc (l:=l) List.Pairwise.nil).1
def yb{l:List Rat}{y:Rat}:y∈fj l↔y∈l:=by
 have:=(Pc (l:=l) List.Pairwise.nil).2 y;simpa[fj] using this
def OJ{g:Rat}: ∀{l:List Rat},l.Pairwise (· < ·)->g∈fe l->g∉l/\(∃a∈l,a<g)/\ ∃b∈l,g<b
 |[],_,h=>by cases h
 |[_],_,h=>by cases h
 |a::b::t,h,hg=>by
  rw[bJ] at h;have hab:=h.1 b aQ;rw[fe] at hg;rcases aV.1 hg with rfl|hg
  ·refine⟨fun hm=>?_,⟨a,aQ,by grind⟩,b,aZ _ aQ,by grind⟩
   rcases aV.1 hm with e|hm
   ·grind
   ·rcases aV.1 hm with e|hm
    ·grind
    ·have h2:=h.2
     rw[bJ] at h2;have:=h2.1 _ hm;grind
  ·obtain⟨k1,⟨c,hc,k2⟩,d,hd,k3⟩:=OJ h.2 hg
   refine⟨fun hm=>?_,⟨c,aZ _ hc,k2⟩,d,aZ _ hd,k3⟩;rcases aV.1 hm with e|hm
   ·have:=h.1 c hc;grind
   ·exact k1 hm
def Ez: ∀{l:List Rat} (h:l.Pairwise (· < ·)) (hn:l≠[]),∀y∈l,y<=l.getLast hn
 |[a],_,_,y,hy=>by rw[aY] at hy;subst hy;exact iZ
 |a::b::t,h,_,y,hy=>by
  rw[bJ] at h;rw[List.getLast_cons (by simp)];have ih:=Ez h.2 (by simp);rcases aV.1 hy with rfl|hy
  ·have:=h.1 b aQ
   have:=ih b aQ;grind
  ·exact ih y hy
def Q9{l:List Rat}(h:l.Pairwise (· < ·)){g:Rat}(hg:g∈cE l):g∉l:=by
 cases l with
 |nil=>simp
 |cons a t=>
  rw[cE] at hg;rcases aV.1 hg with rfl|hg
  ·intro hm
   rcases aV.1 hm with e|hm
   ·grind
   ·rw[bJ] at h;have:=h.1 _ hm;grind
  ·rcases bS.1 hg with hg|hg
   ·exact(OJ h hg).1
   ·rw[aY] at hg
    intro hm;have:=Ez h (by simp) g hm;grind
def fi:List ab->List Rat
 |[]=>[]
 |a::t=>(if a.b=0 then [a.base.x] else [])++(t.filterMap (fun b=>if crossI a b=0 then none else some (ge a b).x)++fi t)
def yA(a:ab)(x:Rat):Rat:= -(((a.a:Rat)*x+(a.c:Rat))/(a.b:Rat))
def gD(l:List ab)(x:Rat):List Rat:=l.filterMap fun a=>if a.b=0 then none else some (yA a x)
def nC(l:List ab):List aa:=(cE (fj (fi l))).flatMap fun x=>(cE (fj (gD l x))).map fun y=>⟨x,y⟩
def MA{a:ab}: ∀{l:List ab},a∈l->a.b=0->a.base.x∈fi l
 |[],h,_=>by cases h
 |c::t,h,hb=>by
  rw[fi];rcases aV.1 h with rfl|h
  ·rw[if_pos hb];exact cJ _ aQ
  ·exact cV _ (cV _ (MA h hb))
def Vk{a:ab}(h:a.b≠0)(x y:Rat):a.value ⟨x,y⟩=(a.b:Rat)*(y-yA a x):=by
 have hb:(a.b:Rat)≠0:=fun e=>h (cW.1 e);unfold yA;rw[m8];show(a.a:Rat)*x+(a.b:Rat)*y+(a.c:Rat)=_;grind
def ayG{a:ab}(hn:a.Ne)(h:a.b=0)(x y:Rat):a.value ⟨x,y⟩=(a.a:Rat)*(x-a.base.x):=by
 have ha:(a.a:Rat)≠0:=fun e=>hn ⟨cW.1 e,h⟩;obtain⟨q,hq,hb⟩:=yv hn;rw[hb,m8];show(a.a:Rat)*x+(a.b:Rat)*y+(a.c:Rat)=(a.a:Rat)*(x-(a.a:Rat)*q);simp only[ab.nor,aa.dot] at hq;rw[h] at hq⊢;have:((0:Int):Rat)=0:=J;rw[this] at hq⊢;grind
def aDo{l:List ab}{a:ab}(h:a∈l)(hb:a.b≠0)(x:Rat):yA a x∈gD l x:=List.mem_filterMap.2 ⟨a,h,by rw[if_neg hb]⟩
def aGT{l:List ab}{x y:Rat}(h:y∈gD l x): ∃a∈l,a.b≠0/\y=yA a x:=by
 obtain⟨a,ha,e⟩:=List.mem_filterMap.1 h;split at e
 ·cases e
 ·rename_i hb;cases e;exact⟨a,ha,hb,rfl⟩
def Ni{l:List ab}{p:aa}:p∈nC l↔p.x∈cE (fj (fi l))/\p.y∈cE (fj (gD l p.x)):=by
 unfold nC;rw[gK];constructor
 ·rintro ⟨x,hx,hp⟩
  obtain⟨y,hy,rfl⟩:=bV.1 hp;exact⟨hx,hy⟩
 ·rintro ⟨h1,h2⟩
  exact⟨p.x,h1,bV.2 ⟨p.y,h2,J⟩⟩
def UD{l:List ab}(hok: ∀a∈l,a.Ne){p:aa}(hp:p∈nC l):f5 l p:=by
 obtain⟨h1,h2⟩:=Ni.1 hp;have k1:=Q9 (Px _) h1;have k2:=Q9 (Px _) h2;rw[yb] at k1 k2;obtain⟨x,y⟩:=p;intro a ha h0;by_cases hb:a.b=0
 ·rw[ayG (hok a ha) hb] at h0
  have ha0:(a.a:Rat)≠0:=fun e=>hok a ha ⟨cW.1 e,hb⟩;apply k1;have:x=a.base.x:=by
   rcases qN.1 h0 with h|h
   ·exact absurd h ha0
   ·grind
  show x∈_;rw[this];exact MA ha hb
 ·rw[Vk hb] at h0
  have hb0:(a.b:Rat)≠0:=fun e=>hb (cW.1 e);apply k2;have:y=yA a x:=by
   rcases qN.1 h0 with h|h
   ·exact absurd h hb0
   ·grind
  show y∈gD l x;rw[this];exact aDo ha hb x
def aIz(l:ab)(p:aa):ab:=if 0<l.value p then l else l.rev
def iH(out:List Rat)(s:av):List Rat:=if s.nh then(if s.nl then out else eE s.lo out) else eE s.hi (if s.nl then out else eE s.lo out)
def gA(l:List av):List Rat:=l.foldl iH []
def AC:List av->Rat->Int
 |[],_=>0
 |s::t,x=>
  let a:=if s.nl then 1 else bO x s.lo
  let b:=if s.nh then-1 else bO x s.hi
  if 0<a/\b<0 then 2 else if(a=0/\b<=0)\/(b=0/\0<=a) then 1 else AC t x
def nD(l:List av)(x:Rat):Bool:=decide (AC l x=2)
def gl(cuts:List Rat)(i:Nat):av:=⟨if i=0 then 0 else cuts.getD (i-1) 0,if i<cuts.length then cuts.getD i 0 else 0,decide (i=0),decide (i=cuts.length)⟩
def qo(v w:av):av:=⟨v.lo,w.hi,v.nl,w.nh⟩
def iC(cuts:List Rat)(marks:List Bool):Nat->List av
 |0=>[]
 |k+1=>
  let out:=iC cuts marks k
  if marks.getD k false then
   (if 0<k/\marks.getD (k-1) false=true then(match out.getLast? with
    |some v=>out.dropLast++[qo v (gl cuts k)]
    |none=>out++[gl cuts k]) else out++[gl cuts k])
  else out
def l9(cuts:List Rat)(marks:List Bool):List av:=iC cuts marks marks.length
def F1(op:Int)(x y:Bool):Bool:=if op=2 then x&&y else if op=3 then x&&!y else if op=4 then x !=y else x||y
def i7(op:Int)(a b:List av):List av:=l9 (gA (a++b)) ((cE (gA (a++b))).map fun t=>F1 op (nD a t) (nD b t))
def uF(l m:ab)(side:Int):List av:=
 if crossI l m=0 then(if(m.value l.base).num.sign=side then [av.all] else [])
 else if(m.value (l.at (ey l (ge l m)+1))).num.sign=side then [⟨ey l (ge l m),0,false,true⟩] else [⟨0,ey l (ge l m),true,false⟩]
def tU(l m:ab):Bool:=decide (crossI l m=0/\(m.value l.base).num.sign=0)
def j'(f:aH)(m:ab)(side:Int):List aH:=if tU f.l m then [] else(i7 2 [f.v] (uF f.l m side)).map fun v=>⟨f.l,v⟩
def L4(l:List av):(gA l).Pairwise (· < ·)/\ ∀y∈gA l,∃s∈l,(s.nl=false/\y=s.lo)\/(s.nh=false/\y=s.hi):=by
 have key: ∀(l:List av) (o:List Rat),o.Pairwise (· < ·)->(l.foldl iH o).Pairwise (· < ·)/\ ∀y∈l.foldl iH o,y∈o\/ ∃s∈l,(s.nl=false/\y=s.lo)\/(s.nh=false/\y=s.hi):=by
  intro l
  induction l with
  |nil=>intro o h;exact⟨h,fun y hy=> .inl hy⟩
  |cons s t ih=>
   intro o h;have h1:(iH o s).Pairwise (· < ·)/\ ∀y∈iH o s,y∈o\/(s.nl=false/\y=s.lo)\/(s.nh=false/\y=s.hi):=by
    unfold iH
    cases e1:s.nl<;>cases e2:s.nh<;>simp only[if_true,dJ,if_false]
    ·refine⟨xW (xW h),fun y hy=>?_⟩
     rcases uJ.1 hy with h|h
     ·exact .inr (.inr ⟨trivial,h⟩)
     ·rcases uJ.1 h with h|h
      ·exact .inr (.inl ⟨trivial,h⟩)
      ·exact .inl h
    ·refine⟨xW h,fun y hy=>?_⟩
     rcases uJ.1 hy with h|h
     ·exact .inr (.inl ⟨trivial,h⟩)
     ·exact .inl h
    ·refine⟨xW h,fun y hy=>?_⟩
     rcases uJ.1 hy with h|h
     ·exact .inr (.inr ⟨trivial,h⟩)
     ·exact .inl h
    ·exact⟨h,fun y hy=> .inl hy⟩
   obtain⟨k1,k2⟩:=ih (iH o s) h1.1;refine⟨k1,fun y hy=>?_⟩;rcases k2 y hy with h2|⟨q,hq,h2⟩
   ·rcases h1.2 y h2 with h3|h3
    ·exact .inl h3
    ·exact .inr ⟨s,aQ,h3⟩
   ·exact .inr ⟨q,aZ _ hq,h2⟩
 have:=key l [] List.Pairwise.nil;refine⟨this.1,fun y hy=>?_⟩;rcases this.2 y hy with h|h
 ·cases h
 ·exact h
structure GD (cuts:List Rat) (v:av):Prop where
 z:jv v
 lo:v.nl=true\/v.lo∈cuts
 hi:v.nh=true\/v.hi∈cuts
def UW{cuts:List Rat}{i:Nat}(h:i<=cuts.length):GD cuts (gl cuts i):=by
 unfold gl;refine⟨⟨fun e=>?_,fun e=>?_⟩,?_,?_⟩
 ·simp only[decide_eq_true_eq] at e;simp[e]
 ·simp only[decide_eq_true_eq] at e;simp[e]
 ·by_cases h0:i=0
  ·left;simp[h0]
  ·right
   simp only[if_neg h0];rw[aK,aX (by omega)];exact fJ _
 ·by_cases h0:i=cuts.length
  ·left;simp[h0]
  ·right
   simp only[if_pos (show i<cuts.length by omega)];rw[aK,aX (by omega)];exact fJ _
def Jq{cuts:List Rat}{marks:List Bool}: ∀{k:Nat},k<=cuts.length+1-> ∀v∈iC cuts marks k,GD cuts v
 |0,_,v,hv=>by cases hv
 |k+1,hk,v,hv=>by
  have ih:=Jq (cuts:=cuts) (marks:=marks) (k:=k) (by omega);have hg:=UW (cuts:=cuts) (i:=k) (by omega);rw[iC] at hv;split at hv
  ·split at hv
   ·split at hv
    ·rename_i w hw
     rcases bS.1 hv with h|h
     ·exact ih v ((sJ _).subset h)
     ·rw[aY] at h;subst h
      have hw':=ih w (pY hw);exact⟨⟨hw'.z.1,hg.z.2⟩,hw'.lo,hg.hi⟩
    ·rcases bS.1 hv with h|h
     ·exact ih v h
     ·rw[aY] at h;subst h;exact hg
   ·rcases bS.1 hv with h|h
    ·exact ih v h
    ·rw[aY] at h;subst h;exact hg
  ·exact ih v hv
def BF{l:List Rat}:(cE l).length=l.length+1:=by
 have key: ∀(l:List Rat) (a:Rat),(fe (a::l)).length=l.length:=by
  intro l
  induction l with
  |nil=>intro a;rfl
  |cons b t ih=>intro a;rw[fe,bX,ih b,bX]
 cases l with
 |nil=>rfl
 |cons a t=>rw[cE,bX,aT,key];simp
def VJ{op:Int}{a b:List av}: ∀v∈i7 op a b,GD (gA (a++b)) v:=fun v hv=>by
 unfold i7 l9 at hv;refine Jq ?_ v hv;rw[aJ,BF];omega
structure pA (f:aH):Prop where
 lb:LB f.l
 ok:f.l.ok
 z:jv f.v
 lo:BQ f.v.lo 1200
 hi:BQ f.v.hi 1200
theorem BQ.zero1200:BQ (0:Rat) 1200:=BQ.mono (k:=1) ⟨by decide,by decide⟩ (by decide)
def Z'{l m:ab}(hl:LB l)(hm:LB m)(hlo:l.ok){side:Int}: ∀v∈uF l m side,jv v/\BQ v.lo 1200/\BQ v.hi 1200:=fun v hv=>by
 unfold uF at hv;split at hv
 ·split at hv
  ·rw[aY] at hv;subst hv;exact⟨jv.all,BQ.zero1200,BQ.zero1200⟩
  ·cases hv
 ·rename_i hc
  have:=Pk hlo.ne hc;split at hv
  ·rw[aY] at hv;subst hv;exact⟨⟨fun h=>(by cases h),fun _=>J⟩,this,BQ.zero1200⟩
  ·rw[aY] at hv;subst hv;exact⟨⟨fun _=>J,fun h=>(by cases h)⟩,BQ.zero1200,this⟩
def Dq{f:aH}{m:ab}(h:pA f)(hm:LB m){side:Int}: ∀g∈j' f m side,pA g/\g.l=f.l/\tU f.l m=false:=fun g hg=>by
 unfold j' at hg;split at hg
 ·cases hg
 ·rename_i ho
  obtain⟨v,hv,rfl⟩:=bV.1 hg;have hi:=VJ v hv;have bd: ∀y∈gA ([f.v]++uF f.l m side),BQ y 1200:=fun y hy=>by
   obtain⟨s,hs,h1⟩:=(L4 _).2 y hy;rcases bS.1 hs with hs|hs
   ·rw[aY] at hs;subst hs
    rcases h1 with⟨_,rfl⟩|⟨_,rfl⟩
    ·exact h.lo
    ·exact h.hi
   ·have:=Z' h.lb hm h.ok s hs
    rcases h1 with⟨_,rfl⟩|⟨_,rfl⟩
    ·exact this.2.1
    ·exact this.2.2
  refine⟨⟨h.lb,h.ok,hi.z,?_,?_⟩,J,by simpa using ho⟩
  ·rcases hi.lo with e|e
   ·rw[hi.z.1 e];exact BQ.zero1200
   ·exact bd _ e
  ·rcases hi.hi with e|e
   ·rw[hi.z.2 e];exact BQ.zero1200
   ·exact bd _ e
def km(acc:aa->Bool):Nat->List aH->List ab->Tr
 |_,[],c=> .leaf (acc (wT c c))
 |0,_::_,_=> .leaf false
 |n+1,f::t,c=> .node f.l (km acc n ((f::t).flatMap fun g=>j' g f.l 1) (c++[f.l])) (km acc n ((f::t).flatMap fun g=>j' g f.l (-1)) (c++[f.l.rev]))
def awe{f g:aH}{m:ab}{side:Int}(h:g∈j' f m side):g.l=f.l:=by
 unfold j' at h;split at h
 ·cases h
 ·obtain⟨v,_,rfl⟩:=bV.1 h;rfl
def rF{acc:aa->Bool}{P:ab->Prop}: ∀{n:Nat} {l:List aH} {c:List ab},(∀f∈l,P f.l)->(km acc n l c).all P
 |n,[],c,_=>by unfold km;trivial
 |0,_::_,_,_=>by unfold km;trivial
 |n+1,f::t,c,h=>by
  rw[km];refine⟨h f aQ,rF fun g hg=>?_,rF fun g hg=>?_⟩<;>
  ·obtain⟨q,hq,hg⟩:=gK.1 hg
   rw[awe hg];exact h q hq
def Dp{acc:aa->Bool}: ∀{n:Nat} {l:List aH} {c:List ab},(km acc n l c).depth<=n
 |n,[],c=>by unfold km;exact bK _
 |0,_::_,_=>by unfold km;exact bK _
 |n+1,f::t,c=>by
  rw[km,Tr.depth];have h1:=Dp (acc:=acc) (n:=n) (l:=(f::t).flatMap fun g=>j' g f.l 1) (c:=c++[f.l]);have h2:=Dp (acc:=acc) (n:=n) (l:=(f::t).flatMap fun g=>j' g f.l (-1)) (c:=c++[f.l.rev]);omega
def nj(n:Nat)(l:List aH):Prop:= ∃K:List ab,K.length<=n/\ ∀f∈l,∃m∈K,m.same f.l
def UC{m:ab}(hm:m.Ne):m.value m.base=0:=by
 have h:=sP hm 0;rw[<-t8,jG] at h;grind
def TS{l m:ab}(h:l.same m)(hm:m.Ne):tU m l=true:=by
 unfold tU;rw[decide_eq_true_iff];refine⟨?_,?_⟩
 ·rcases h with rfl|rfl
  ·unfold crossI;omega
  ·unfold crossI ab.rev
   show(-l.a)*l.b-l.a*(-l.b)=0;grind
 ·rw[kg]
  exact qp h.symm (UC hm)
def nj.split{n:Nat}{f:aH}{t:List aH}(h:nj (n+1) (f::t))(hok: ∀g∈f::t,pA g){side:Int}:nj n ((f::t).flatMap fun g=>j' g f.l side):=by
 obtain⟨K,hK,hs⟩:=h;refine⟨K.filter fun m=>!decide (m.same f.l),?_,fun g hg=>?_⟩
 ·obtain⟨m,hm,hm2⟩:=hs f aQ
  have:(K.filter fun m=>!decide (m.same f.l)).length<K.length:=by
   refine pK.2 ⟨m,hm,by simp[hm2]⟩
  omega
 ·obtain⟨q,hq,hg⟩:=gK.1 hg
  obtain⟨_,e,ho⟩:=Dq (hok q hq) (hok f aQ).lb g hg;obtain⟨m,hm,hm2⟩:=hs q hq;refine⟨m,jN.2 ⟨hm,?_⟩,by rw[e];exact hm2⟩;simp only[iX,decide_eq_false_iff_not];intro h;have:=TS (h.symm.trans hm2) (hok q hq).ok.ne;rw[this] at ho;cases ho
def VT{p q r:Bool}{a b c:Nat}(h:Nat.gcd a b≠0):ab.ok ⟨zv p (a/Nat.gcd (Nat.gcd a b) c),zv q (b/Nat.gcd (Nat.gcd a b) c),zv r (c/Nat.gcd (Nat.gcd a b) c)⟩:=by
 have hg:0<Nat.gcd (Nat.gcd a b) c:=kR _ (iV h);have d0:Nat.gcd (Nat.gcd a b) c∣Nat.gcd a b:=kZ _ _;have d1:Nat.gcd (Nat.gcd a b) c∣a:=qT d0 (kZ _ _);have d2:Nat.gcd (Nat.gcd a b) c∣b:=qT d0 (lK _ _);have d3:Nat.gcd (Nat.gcd a b) c∣c:=lK _ _;refine⟨?_,?_⟩
 ·rintro ⟨h1,h2⟩
  have h1':=congrArg Int.natAbs h1;have h2':=congrArg Int.natAbs h2;simp only[qi,Int.natAbs_zero] at h1' h2';have e1:=Nat.div_mul_cancel d1;have e2:=Nat.div_mul_cancel d2;rw[h1',kV] at e1;rw[h2',kV] at e2;exact h (by rw[<-e1,<-e2];rfl)
 ·simp only[qi]
  rw[Nat.gcd_div d1 d2,Nat.gcd_div d0 d3,Nat.div_self hg]
def Fd(p:Bool)(a g:Nat):(zv p (a/g)).natAbs<=a:=by rw[qi];exact kW ..
def PF.eq{P:Program}{f:FuncId}{vs:List DV}{r r':DV}(h:PF GB P f vs r)(e:r=r'):PF GB P f vs r':=e▸h
def iP(m n:Int):aa:=⟨(m:Rat),(n:Rat)⟩
theorem HL{m:Int}{k:Nat}(h:m.natAbs<2^k):BI m k:=⟨h⟩
theorem jo{m:Int}{k:Nat}(h:m.natAbs<=1000)(hk:10<=k):BI m k:=⟨dK (show m.natAbs<2^10 by omega) (bR (by decide) hk)⟩
instance aI.int (m n:Int) (i:Nat) [h:BI m i] [k:BI n i]:aI (iP m n) (i+1):=⟨inferInstanceAs (BQ (m:Rat) (i+1)),inferInstanceAs (BQ (n:Rat) (i+1))⟩
def tC{q:Rat}{k:Int}(h:q=(k:Rat)):eQ q=eQ (k:Rat):=by rw[h]
def ePI{p:aa}{m n:Int}(h1:p.x=(m:Rat))(h2:p.y=(n:Rat)):eP p=eP (iP m n):=by
 obtain⟨x,y⟩:=p;simp only at h1 h2;subst h1 h2;rfl
def gp(a b c:Int):ab:=
 ⟨zv (decide (a<0)) (a.natAbs/Nat.gcd (Nat.gcd a.natAbs b.natAbs) c.natAbs),zv (decide (b<0)) (b.natAbs/Nat.gcd (Nat.gcd a.natAbs b.natAbs) c.natAbs),zv (decide (c<0)) (c.natAbs/Nat.gcd (Nat.gcd a.natAbs b.natAbs) c.natAbs)⟩
def YB{a b c:Int}(h: ¬(a=0/\b=0)):(gp a b c).ok:=
 VT fun e=>h ⟨kY.1 (lT e),kY.1 (lV e)⟩
def M4(a b c:Int):(gp a b c).a.natAbs<=a.natAbs/\(gp a b c).b.natAbs<=b.natAbs/\(gp a b c).c.natAbs<=c.natAbs:=⟨Fd ..,Fd ..,Fd ..⟩
def mA{m n:Int}(hm:m.natAbs<=1000)(hn:n.natAbs<=1000):PF GB prog 79 [.v (.int .i64 m), .v (.int .i64 n)] (eP (iP m n)):=by
 refine fn func79 J J ntmps79 J J (fun C=>?_);refine cl J (uK (n:=m) (by omega) (by omega)) J<|cl J (uK (n:=n) (by omega) (by omega)) J<|?_;exact rz J J
def EC{m n m' n' k:Int}(hm:m.natAbs<=1000)(hn:n.natAbs<=1000)(hm':m'.natAbs<=1000)(hn':n'.natAbs<=1000)(hk:k.natAbs<=1000):PF GB prog 100 [eP (iP m n),eQ (k:Rat),eP (iP m' n')] (eP (iP (m+k*m') (n+k*n'))):=by
 haveI:=jo (k:=10) hm (by decide);haveI:=jo (k:=10) hn (by decide);haveI:=jo (k:=10) hm' (by decide);haveI:=jo (k:=10) hn' (by decide);haveI:=jo (k:=10) hk (by decide);exact PF.eq (aEt (p:=iP m n) (q:=iP m' n') (c:=(k:Rat))) (ePI (by show(m:Rat)+(k:Rat)*(m':Rat)=_;push_cast;rfl) (by show(n:Rat)+(k:Rat)*(n':Rat)=_;push_cast;rfl))
def Xv{m n m' n':Int}(hm:m.natAbs<=1000)(hn:n.natAbs<=1000)(hm':m'.natAbs<=1000)(hn':n'.natAbs<=1000):PF GB prog 154 [eP (iP m n),eP (iP m' n')] (eP (iP (m-m') (n-n'))):=by
 refine fn func154 J J ntmps154 J J (fun C=>?_);refine cl J (uK (n:= -1) (by decide) (by decide)) J<|cl J (EC (m:=m) (n:=n) (m':=m') (n':=n') (k:= -1) hm hn hm' hn' (by decide)) J<|?_;exact rz J (by rw[show m-m'=m+ -1*m' by omega,show n-n'=n+ -1*n' by omega];rfl)
def GP{m n m' n':Int}(hm:m.natAbs<=1000)(hn:n.natAbs<=1000)(hm':m'.natAbs<=1000)(hn':n'.natAbs<=1000):PF GB prog 61 [eP (iP m n),eP (iP m' n')] (.v (.bool (decide (m=m'/\n=n')))):=by
 haveI:=jo (k:=10) hm (by decide);haveI:=jo (k:=10) hn (by decide);haveI:=jo (k:=10) hm' (by decide);haveI:=jo (k:=10) hn' (by decide);refine fn func61 J J ntmps61 J J (fun C=>?_);refine cl J (wL (a:=(m:Rat)) (b:=(m':Rat))) J<|?_;refine cs 11 J J J (fun hg11=>?_) (fun hg11=>?_)
 .
  refine cl J (wL (a:=(n:Rat)) (b:=(n':Rat))) J<|?_;exact rz J (by rw[s5] at hg11;have e:m=m':=(by exact_mod_cast hg11);exact congrArg (fun z=>DV.v (.bool z)) (decide_eq_decide.2 (by rw[s5,nT];simp[e])))
 .
  exact rz J (by rw[s5] at hg11;have e: ¬m=m':=(fun e=>hg11 (by rw[e]));show DV.v (.bool false)=DV.v (.bool _);rw[decide_eq_false (fun h=>e h.1)])
def OG{a b k:Nat}(ha:a<k)(hb:b<k):Nat.gcd a b<k:=by
 rcases fK a with rfl|p
 ·simpa using hb
 ·exact gQ (Nat.gcd_le_left b p) ha
def az3{a b c:Int}{i:Nat}(ha:BI a i)(hb:BI b i)(hc:BI c i)(hi:i<=100000000)(h0: ¬(a=0/\b=0)):PF GB prog 340 [eI a,eI b,eI c] (.tp [eL (gp a b c), .v (.bool true)]):=by
 have hgn:Nat.gcd a.natAbs b.natAbs≠0:=fun h=>h0 ⟨kY.1 (lT h),kY.1 (lV h)⟩;have hgp:0<Nat.gcd (Nat.gcd a.natAbs b.natAbs) c.natAbs:=kR _ (iV hgn);haveI hb1:BN (Nat.gcd a.natAbs b.natAbs) i:=⟨OG ha.h hb.h⟩;haveI hb2:BN (Nat.gcd (Nat.gcd a.natAbs b.natAbs) c.natAbs) i:=⟨OG hb1.h hc.h⟩;refine fn func340 J J ntmps340 J J (fun C=>?_);refine cl J (F0 (a:=a.natAbs) (b:=b.natAbs) (by omega) (by omega)) J<|?_;refine br J J J (fun hc22=>?_) (fun hc22=>?_)
 .
  exact absurd hc22 (by rw[aJ];intro h;exact hgn (um.1 (by omega)))
 .
  refine cl J (F0 (a:=Nat.gcd a.natAbs b.natAbs) (b:=c.natAbs) (by omega) (by omega)) J<|cl J (yh (a:=a.natAbs) (b:=Nat.gcd (Nat.gcd a.natAbs b.natAbs) c.natAbs) hgp (by omega) (by omega)) J<|?_;refine cl J (yh (a:=b.natAbs) (b:=Nat.gcd (Nat.gcd a.natAbs b.natAbs) c.natAbs) hgp (by omega) (by omega)) J<|cl J (yh (a:=c.natAbs) (b:=Nat.gcd (Nat.gcd a.natAbs b.natAbs) c.natAbs) hgp (by omega) (by omega)) J<|?_;refine cl J (kB (m:=a.natAbs/(Nat.gcd (Nat.gcd a.natAbs b.natAbs) c.natAbs)) (neg:=decide (a<0))) J<|cl J (kB (m:=b.natAbs/(Nat.gcd (Nat.gcd a.natAbs b.natAbs) c.natAbs)) (neg:=decide (b<0))) J<|?_;refine cl J (kB (m:=c.natAbs/(Nat.gcd (Nat.gcd a.natAbs b.natAbs) c.natAbs)) (neg:=decide (c<0))) J<|?_;exact rz J J
def jP(n n':Int):Int:= -(n'-n)
def jC(m m':Int):Int:=m'-m
def qh(m n m' n':Int):Int:= -(jP n n'*m+jC m m'*n)
def iO(m n m' n':Int):ab:=gp (jP n n') (jC m m') (qh m n m' n')
def BO{a b:Int}(ha:a.natAbs<=2000)(hb:b.natAbs<=1000):(a*b).natAbs<=2000000:=by
 rw[jV];exact jL ha hb
def Zr{m n m' n':Int}(hm:m.natAbs<=1000)(hn:n.natAbs<=1000)(hm':m'.natAbs<=1000)(hn':n'.natAbs<=1000)(h0: ¬(m=m'/\n=n')):PF GB prog 246 [eP (iP m n),eP (iP m' n')] (.tp [eL (iO m n m' n'), .v (.bool true)]):=by
 obtain⟨a,hA⟩: ∃a,a=jP n n':=⟨_,rfl⟩;obtain⟨b,hB⟩: ∃b,b=jC m m':=⟨_,rfl⟩;have hA':a= -(n'-n):=hA;have hB':b=m'-m:=hB;obtain⟨c,hC⟩: ∃c,c= -(a*m+b*n):=⟨_,rfl⟩;have e1:=BO (a:=a) (b:=m) (by omega) hm;have e2:=BO (a:=b) (b:=n) (by omega) hn;haveI hm0:=jo (k:=10) hm (by decide);haveI hn0:=jo (k:=10) hn (by decide);haveI ha:BI a 30:=HL (by omega);haveI hb:BI b 30:=HL (by omega);haveI hc:BI c 30:=HL (by omega);have hthr:iO m n m' n'=gp a b c:=by rw[hC,hA,hB];rfl
 have hne: ¬(a=0/\b=0):=fun h=>h0 (by omega);refine fn func246 J J ntmps246 J J (fun C=>?_);refine cl J (Xv (m:=m') (n:=n') (m':=m) (n':=n) hm' hn' hm hn) J<|cl J (PF.eq (yH (q:=(((n'-n):Int):Rat))) (tC (k:=a) (by rw[hA'];push_cast;rfl))) J<|?_;refine cl J (PF.eq (ji (a:=(a:Rat)) (b:=(m:Rat))) (tC (k:=a*m) (by push_cast;rfl))) J<|cl J (PF.eq (by haveI:BI (m'-m) 30:=(by rw[<-hB'];exact hb);exact ji (a:=(((m'-m):Int):Rat)) (b:=(n:Rat))) (tC (k:=b*n) (by rw[hB'];push_cast;rfl))) J<|?_;refine cl J (PF.eq (uk (a:=((a*m:Int):Rat)) (b:=((b*n:Int):Rat))) (tC (k:=a*m+b*n) (by push_cast;rfl))) J<|cl J (PF.eq (yH (q:=((a*m+b*n:Int):Rat))) (tC (k:=c) (by rw[hC];push_cast;rfl))) J<|?_;refine cl J (kI (q:=(a:Rat))) J<|cl J (kI (q:=(((m'-m):Int):Rat))) J<|cl J (PF.eq (rk (a:=1) (b:=1)) J) J<|?_;refine cl J (kI (q:=(c:Rat))) J<|cl J (PF.eq (rk (a:=1) (b:=1)) J) J<|cl (fu:=⟨1⟩) J (kB (neg:=false) (m:=1)) J<|?_;refine ao 40 (.d (eQ ((1:Int):Rat))) J J ?_;refine gx J<|cl J (PF.eq (ji (a:=(a:Rat)) (b:=((1:Int):Rat))) (tC (k:=a) (by push_cast;grind))) J<|cl J (PF.eq (by haveI:BI (m'-m) 30:=(by rw[<-hB'];exact hb);exact ji (a:=(((m'-m):Int):Rat)) (b:=((1:Int):Rat))) (tC (k:=b) (by rw[hB'];push_cast;grind))) J<|?_;refine cl J (PF.eq (ji (a:=(c:Rat)) (b:=((1:Int):Rat))) (tC (k:=c) (by push_cast;grind))) J<|cl J (az3 (a:=a) (b:=b) (c:=c) ha hb hc (by decide) hne) J<|?_;exact rz J (by rw[hthr];rfl)
def ZX{es:List Int}{a:Nat}(h:a<es.length):(es.map vI)[(a:Int).toNat]? =some (vI es[a]):=by simp[h]
def ayE:eP (iP 0 0)= .ag [.v (.bool false), .sl [], .sl [], .v (.bool false), .sl [], .sl []]:=by
 unfold eP iP;simp[yO,dD]
def aB(es:List Int)(n:Int)(a:Nat):Nat×Nat:=
 if h:a<es.length then((if Int.tmod es[a] n<0 then Int.tmod es[a] n+n else Int.tmod es[a] n).toNat,a+1) else(0,a)
def kP{es:List Int}{n:Int}{a:Nat}(hn:1<=n):((aB es n a).1:Int)<n:=by
 unfold aB;split
 ·rename_i h
  have q2:=Int.tmod_lt_of_pos es[a] (show 0<n by omega);dsimp only;split<;>omega
 ·exact hn
def jy{es:List Int}{n:Int}{a:Nat}(ha:a<=es.length):(aB es n a).2<=es.length:=by
 unfold aB;split
 ·assumption
 ·exact ha
def pF(es:List Int)(a:Nat):(Int×Int)×Nat:=((((aB es 9 a).1:Int)-4,((aB es 9 (aB es 9 a).2).1:Int)-4),(aB es 9 (aB es 9 a).2).2)
def vY{es:List Int}{a:Nat}(ha:a<=es.length):(pF es a).1.1.natAbs<=4/\(pF es a).1.2.natAbs<=4/\(pF es a).2<=es.length:=by
 have h1:=kP (es:=es) (n:=9) (a:=a) (by decide);have h2:=kP (es:=es) (n:=9) (a:=(aB es 9 a).2) (by decide);have h3:=jy (n:=9) (jy (es:=es) (n:=9) ha);unfold pF;exact⟨by dsimp only;omega,by dsimp only;omega,h3⟩
def vF(es:List Int)(a:Nat):(Int×Int)×Nat:=if(pF es a).1.1=0/\(pF es a).1.2=0 then((1,0),(pF es a).2) else pF es a
def yt{es:List Int}{a:Nat}(ha:a<=es.length):(vF es a).1.1.natAbs<=4/\(vF es a).1.2.natAbs<=4/\ ¬((vF es a).1.1=0/\(vF es a).1.2=0)/\(vF es a).2<=es.length:=by
 obtain⟨h1,h2,h3⟩:=vY ha;unfold vF;split
 ·exact⟨show(1:Int).natAbs<=4 by decide,show(0:Int).natAbs<=4 by decide,show¬((1:Int)=0/\(0:Int)=0) by decide,h3⟩
 ·rename_i h;exact⟨h1,h2,h,h3⟩
def lF(es:List Int)(a:Nat):ab×Nat:=(iO (pF es a).1.1 (pF es a).1.2 ((pF es a).1.1+1*(vF es (pF es a).2).1.1) ((pF es a).1.2+1*(vF es (pF es a).2).1.2),(vF es (pF es a).2).2)
def mG(es:List Int):Nat->Nat->Tr×Nat
 |0,a=>(.leaf (decide (((aB es 2 a).1:Int)=1)),(aB es 2 a).2)
 |d+1,a=>if((aB es 4 a).1:Int)=0 then(.leaf (decide (((aB es 2 (aB es 4 a).2).1:Int)=1)),(aB es 2 (aB es 4 a).2).2) else
  (.node (lF es (aB es 4 a).2).1 (mG es d (lF es (aB es 4 a).2).2).1 (mG es d (mG es d (lF es (aB es 4 a).2).2).2).1,(mG es d (mG es d (lF es (aB es 4 a).2).2).2).2)
def rE{b:Nat}{es:List Int}(hes:es.length<=400){a:Nat}(ha:a<=es.length){n:Int}(hn:1<=n)(hn2:n<=1000):PM GB prog 18 (ja [none,some (.v (.int .i64 n))] b) b 126 [.sl (es.map vI), .v (.int .i64 (a:Nat))] (.v (.int .i64 ((aB es n a).1:Nat))) [.sl (es.map vI), .v (.int .i64 ((aB es n a).2:Nat))]:=by
 have hel:(es.map vI).length=es.length:=by simp
 refine wq func18 J J ntmps18 J J (fun C b m lo hmb=>?_);refine br J J J (fun hc15=>?_) (fun hc15=>?_)
 .
  have hf:aB es n a=(0,a):=by unfold aB;rw[dif_neg (by omega)]
  exact mn hmb J J (by rw[hf]<;>rfl) (by rw[hf]<;>rfl)
 .
  have hal:a<es.length:=by omega
  obtain⟨e,he⟩: ∃e,e=es[a]:=⟨_,rfl⟩;have q2:=Int.tmod_lt_of_pos e (show 0<n by omega);have q3: -n<Int.tmod e n:=by have:=Int.lt_tmod_of_pos e (show 0<n by omega);omega
  refine ix (fu:=⟨1⟩) _ J (ZX hal) J<|?_;refine ao 25 (.d (vI e)) J (by rw[he]<;>rfl) ?_;refine gx (hv:=by simp only[ah];exact⟨⟨by omega,by kernel_rfl⟩,by omega⟩) J<|?_;refine br J J J (fun hc36=>?_) (fun hc36=>?_)
  .
   have hf:aB es n a=((Int.tmod e n+n).toNat,a+1):=by unfold aB;rw[dif_pos hal,<-he,if_pos hc36]
   exact mn hmb J J (by rw[hf];show DV.v (.int .i64 _)=DV.v (.int .i64 _);rw[qZ (by omega)]) (by rw[hf]<;>rfl)
  .
   have hf:aB es n a=((Int.tmod e n).toNat,a+1):=by unfold aB;rw[dif_pos hal,<-he,if_neg hc36]
   exact mn hmb J J (by rw[hf];show DV.v (.int .i64 _)=DV.v (.int .i64 _);rw[qZ (by omega)]) (by rw[hf]<;>rfl)
def IA{b:Nat}{es:List Int}(hes:es.length<=400){a:Nat}(ha:a<=es.length):PM GB prog 97 (ja [none] b) b 126 [.sl (es.map vI), .v (.int .i64 (a:Nat))] (eP (iP (pF es a).1.1 (pF es a).1.2)) [.sl (es.map vI), .v (.int .i64 ((pF es a).2:Nat))]:=by
 have h1:=kP (es:=es) (n:=9) (a:=a) (by decide);have h2:=kP (es:=es) (n:=9) (a:=(aB es 9 a).2) (by decide);refine wq func97 J J ntmps97 J J (fun C b m lo hmb=>?_);refine cm J (fun b=>(rE (n:=9) hes ha (by decide) (by decide))) J<|cm J (fun b=>(rE (n:=9) hes (jy ha) (by decide) (by decide))) J<|?_;refine cl J (mA (m:=((aB es 9 a).1:Int)-4) (n:=((aB es 9 (aB es 9 a).2).1:Int)-4) (by omega) (by omega)) J<|?_;exact mn hmb J J J J
def P5{b:Nat}{es:List Int}(hes:es.length<=400){a:Nat}(ha:a<=es.length):PM GB prog 98 (ja [none] b) b 126 [.sl (es.map vI), .v (.int .i64 (a:Nat))] (eP (iP (vF es a).1.1 (vF es a).1.2)) [.sl (es.map vI), .v (.int .i64 ((vF es a).2:Nat))]:=by
 obtain⟨hm,hn,ha1⟩:=vY ha;refine wq func98 J J ntmps98 J J (fun C b m lo hmb=>?_);refine cm (fu:=⟨9⟩) J (fun b=>(IA hes ha)) J<|?_;refine ao 7 (.d (eP (iP 0 0))) J (by rw[ayE]<;>rfl) ?_;refine gx J<|cl J (GP (m:=(pF es a).1.1) (n:=(pF es a).1.2) (m':=0) (n':=0) (by omega) (by omega) (by decide) (by decide)) J<|?_;refine bd J J J (fun hc8=>?_) (fun hc8=>?_)
 .
  have hf:vF es a=((1,0),(pF es a).2):=by unfold vF;rw[if_pos hc8]
  refine cl J (mA (m:=1) (n:=0) (by decide) (by decide)) J<|?_;exact mn hmb J J (by rw[hf]<;>rfl) (by rw[hf])
 .
  have hf:vF es a=pF es a:=by unfold vF;rw[if_neg hc8]
  exact mn hmb J J (by rw[hf]<;>rfl) (by rw[hf])
abbrev ZP:=Int×Int
def ZP.q(p:ZP):aa:=iP p.1 p.2
def ZP.le(k:Nat)(p:ZP):Prop:=p.1.natAbs<=k/\p.2.natAbs<=k
def vg(p q:ZP):ZP:=(p.1+1*q.1,p.2+1*q.2)
def rg(u v:ZP):Int:=u.1*v.2-u.2*v.1
theorem PL{m n p q:Int}(hm:m.natAbs<=1000)(hn:n.natAbs<=1000)(hp:p.natAbs<=1000)(hq:q.natAbs<=1000)(h: ¬(p=m/\q=n)):LB (iO m n p q)/\(iO m n p q).ok:=by
 have e1:(jP n q).natAbs<=2000:=by unfold jP;omega
 have e2:(jC m p).natAbs<=2000:=by unfold jC;omega
 have e3:=BO e1 hm;have e4:=BO e2 hn;have e5:(qh m n p q).natAbs<=4000000:=by unfold qh;omega
 unfold iO;obtain⟨k1,k2,k3⟩:=M4 (jP n q) (jC m p) (qh m n p q);have hb:(2:Nat)^96=79228162514264337593543950336:=by decide
 refine⟨⟨⟨?_,?_,?_⟩⟩,YB ?_⟩
 ·rw[hb];omega
 ·rw[hb];omega
 ·rw[hb];omega
 ·unfold jP jC;omega
def dl(v w:ZP):aH:=⟨iO v.1 v.2 w.1 w.2,⟨ey (iO v.1 v.2 w.1 w.2) v.q,ey (iO v.1 v.2 w.1 w.2) w.q,false,false⟩⟩
def e7(r:List ZP)(i:Nat):ZP:=r.getD ((i+1)%r.length) (0,0)
def jl(r:List ZP):Nat->List aH
 |0=>[]
 |k+1=>jl r k++[dl (r.getD k (0,0)) (e7 r k)]
def eG(r:List ZP):List aH:=jl r r.length
structure dq (r:List ZP):Prop where
 n3:3<=r.length
 n6:r.length<=6
 le: ∀p∈r,ZP.le 100 p
 ne: ∀i<r.length,r.getD i (0,0)≠e7 r i
def xi{r:List ZP}{i:Nat}(h:i<r.length):r.getD i (0,0)∈r:=by
 rw[aK,aX h];exact fJ h
def Al{r:List ZP}{i:Nat}(h:i<r.length):e7 r i∈r:=xi (dZ _ (by omega))
theorem BQ.int1200{m:Int}(h:m.natAbs<=1000):BQ (m:Rat) 1200:=by
 haveI:BI m 11:=jo h (by decide);exact BQ.mono (inferInstance:BQ (m:Rat) 12) (by decide)
theorem Lb{l:ab}(hl:LB l)(ho:l.ok){m n:Int}(hm:m.natAbs<=1000)(hn:n.natAbs<=1000):BQ (ey l (iP m n)) 1200:=by
 haveI:=jo (k:=11) hm (by decide);haveI:=jo (k:=11) hn (by decide);have hd:=xj ho.ne;have hA:BI (l.a*l.a+l.b*l.b) _:=inferInstance;have hB:BI (m*l.b-n*l.a) _:=inferInstance;have hA':=Dz (j:=1200) hA (by decide);have hB':=Dz (j:=1200) hB (by decide);have e1:l.dir.dot l.dir=((l.a*l.a+l.b*l.b:Int):Rat):=by
  rw[pQ,cM,cM];simp only[ab.dir,aa.dot];grind
 have e2:(iP m n).dot l.dir=((m*l.b-n*l.a:Int):Rat):=by
  rw[pX,cM,cM];simp only[ab.dir,aa.dot,iP];grind
 have hd':((0:Int):Rat)<((l.a*l.a+l.b*l.b:Int):Rat):=by rw[<-e1];exact hd
 unfold ey;rw[e2,e1];clear hA hB e1 e2;generalize l.a*l.a+l.b*l.b=D at*;generalize m*l.b-n*l.a=M at*;have hD:0<D:=rL.1 hd';refine BQ.of_fracI (n:=M) (D:=D) (by omega) ?_ hB' hA';have h0:(D:Rat)≠0:=fun e=>by rw[e] at hd';exact absurd hd' (by decide)
 have:((D.natAbs:Nat):Rat)=(D:Rat):=by
  have h1:((D.natAbs:Nat):Int)=D:=by omega
  rw[<-h1];rfl
 rw[this];grind
def PY{v w:ZP}(hv:ZP.le 100 v)(hw:ZP.le 100 w)(h:v≠w):pA (dl v w):=by
 obtain⟨h1,h2⟩:=PL (m:=v.1) (n:=v.2) (p:=w.1) (q:=w.2) (by have:=hv.1;omega) (by have:=hv.2;omega) (by have:=hw.1;omega) (by have:=hw.2;omega) (fun e=>h (Prod.ext e.1.symm e.2.symm));exact⟨h1,h2,⟨fun e=>(by cases e),fun e=>(by cases e)⟩,Lb h1 h2 (by have:=hv.1;omega) (by have:=hv.2;omega),Lb h1 h2 (by have:=hw.1;omega) (by have:=hw.2;omega)⟩
def Gv{r:List ZP}(h:dq r): ∀{k:Nat},k<=r.length->(jl r k).length=k/\ ∀f∈jl r k,pA f
 |0,_=>⟨J,fun f hf=>by cases hf⟩
 |k+1,hk=>by
  obtain⟨h1,h2⟩:=Gv h (k:=k) (by omega);rw[jl];refine⟨by simp[h1],fun f hf=>?_⟩;rcases bS.1 hf with hf|hf
  ·exact h2 f hf
  ·rw[aY] at hf;subst hf
   exact PY (h.le _ (xi (by omega))) (h.le _ (Al (by omega))) (h.ne k (by omega))
def tq{r:List ZP}(h:dq r):(eG r).length=r.length/\ ∀f∈eG r,pA f:=Gv h (aM _)
def cb(rs:List (List ZP)):List aH:=rs.flatMap eG
def ng: ∀{rs:List (List ZP)},(∀r∈rs,dq r)->(cb rs).length<=6*rs.length/\ ∀f∈cb rs,pA f
 |[],_=>⟨aM _,fun f hf=>by cases hf⟩
 |r::rs,h=>by
  obtain⟨h1,h2⟩:=ng (rs:=rs) fun q hq=>h q (aZ _ hq);obtain⟨k1,k2⟩:=tq (h r aQ);have:=(h r aQ).n6;unfold cb at*;rw[lW];refine⟨by rw[aT,k1,bX];omega,fun f hf=>?_⟩;rcases bS.1 hf with hf|hf
  ·exact k2 f hf
  ·exact h2 f hf
def tV(a b c:aa):Int:=(aa.cross (dC b a (-1)) (dC c a (-1))).num.sign
def Gr(v w p:aa):Int:=
 (if bO v.y p.y<=0/\ ¬bO w.y p.y<=0/\0<tV v w p then 1 else 0)-(if¬bO v.y p.y<=0/\bO w.y p.y<=0/\tV v w p<0 then 1 else 0)
def yP(r:List ZP)(p:aa):Nat->Int
 |0=>0
 |k+1=>yP r p k+Gr (r.getD k (0,0)).q (e7 r k).q p
def py(r:List ZP)(p:aa):Int:=yP r p r.length
def tH(fill n:Int):Bool:=(decide (fill=1)&&decide (n.tmod 2≠0))||(decide (fill=2)&&decide (n≠0))
def jb(rs:List (List ZP))(fill:Int)(p:aa):Bool:=tH fill (rs.foldl (fun n r=>n+py r p) 0)
def o4(rs:List (List ZP))(fill:Int):Tr:=km (jb rs fill) (cb rs).length (cb rs) []
def iG(rs:List (List ZP))(fill:Int):Tr:=(o4 rs fill).restrict []
structure oq (k:Nat) (t:Tr):Prop where
 gd:t.gd
 dp:t.depth<=k
 am: ∃K:List ab,K.length<=k/\(∀l∈K,l.ok)/\n9 K t
def XJ{acc:aa->Bool}{n:Nat}{l:List aH}(h: ∀f∈l,pA f)(hn:l.length=n):oq n (km acc n l []):=
 ⟨⟨rF fun f hf=>(h f hf).lb,rF fun f hf=>(h f hf).ok⟩,Dp,l.map (·.l),by rw[aJ,hn];exact aM _,fun m hm=>by
  obtain⟨f,hf,rfl⟩:=bV.1 hm;exact(h f hf).ok,rF fun f hf=>⟨f.l,gS hf, .inl rfl⟩⟩
def oq.restrict{k:Nat}{t:Tr}(h:oq k t)(c:aF):oq k (t.restrict c):=by
 obtain⟨K,h1,h2,h3⟩:=h.am;exact⟨RZ h.gd c,dR (t.restrict_depth c) h.dp,K,h1,h2,h3.restrict c⟩
def oq.mono{j k:Nat}{t:Tr}(h:oq j t)(hk:j<=k):oq k t:=by
 obtain⟨K,h1,h2,h3⟩:=h.am;exact⟨h.gd,dR h.dp hk,K,by omega,h2,h3⟩
def Ep{rs:List (List ZP)}{fill:Int}(h: ∀r∈rs,dq r)(hn:rs.length<=3):oq 18 (iG rs fill):=by
 obtain⟨h1,h2⟩:=ng h;exact((XJ (acc:=jb rs fill) h2 J).restrict []).mono (by omega)
def lu(p q:ZP):Int:=if p.1<q.1 then-1 else if q.1<p.1 then 1 else if p.2<q.2 then-1 else if q.2<p.2 then 1 else 0
def kD(x:ZP):List ZP->List ZP
 |[]=>[x]
 |u::t=>if lu u x<0 then u::kD x t else if lu u x=0 then u::t else x::u::t
def oE(l:List ZP):List ZP:=l.foldl (fun out x=>kD x out) []
def JD{x:ZP}: ∀{l:List ZP},(kD x l).length<=l.length+1
 |[]=>aM _
 |u::t=>by
  rw[kD];have:=JD (x:=x) (l:=t);split
  ·simp;omega
  ·split<;>simp
def Yk(l:List ZP):(oE l).length<=l.length:=by
 have key: ∀(l o:List ZP),(l.foldl (fun out x=>kD x out) o).length<=l.length+o.length:=by
  intro l
  induction l with
  |nil=>intro o;simp
  |cons x t ih=>intro o;have:=ih (kD x o);have:=JD (x:=x) (l:=o);simp only[dX,bX];omega
 have:=key l [];simpa[oE] using this
def rI(a b c d:Int):List ZP:=[(a,b),(c,b),(c,d),(a,d)]
def EM{r:List ZP}{i:Nat}(h:i+1<r.length):e7 r i=r.getD (i+1) (0,0):=by unfold e7;rw[fU h]
def GC{r:List ZP}{i:Nat}(h:i+1=r.length):e7 r i=r.getD 0 (0,0):=by unfold e7;rw[h,Nat.mod_self]
def TL{a b c d:Int}(h1:a.natAbs<=50)(h2:b.natAbs<=50)(h3:c.natAbs<=50)(h4:d.natAbs<=50)(h5:a<c)(h6:b<d):dq (rI a b c d):=by
 refine⟨by simp[rI],by simp[rI],fun p hp=>?_,fun i hi=>?_⟩
 ·simp only[rI,aV,kX,or_false] at hp
  rcases hp with rfl|rfl|rfl|rfl<;>exact⟨by dsimp only;omega,by dsimp only;omega⟩
 ·have:i=0\/i=1\/i=2\/i=3:=by simp[rI] at hi;omega
  rcases this with rfl|rfl|rfl|rfl<;>simp[rI,e7]<;>omega
def r4(p u v:ZP):List ZP:=[p,vg p u,vg p v]
def S7{p u v:ZP}(h1:ZP.le 40 p)(h2:ZP.le 40 u)(h3:ZP.le 40 v)(h:rg u v≠0):dq (r4 p u v):=by
 obtain⟨p1,p2⟩:=p;obtain⟨u1,u2⟩:=u;obtain⟨v1,v2⟩:=v;unfold ZP.le at h1 h2 h3;dsimp only at h1 h2 h3;unfold rg at h;dsimp only at h;refine⟨by simp[r4],by simp[r4],fun p hp=>?_,fun i hi=>?_⟩
 ·simp only[r4,vg,aV,kX,or_false] at hp
  rcases hp with rfl|rfl|rfl<;>exact⟨by dsimp only;omega,by dsimp only;omega⟩
 ·have:i=0\/i=1\/i=2:=by simp[r4] at hi;omega
  have hu: ¬(u1=0/\u2=0):=fun e=>h (by rw[e.1,e.2];simp);have hv: ¬(v1=0/\v2=0):=fun e=>h (by rw[e.1,e.2];simp);have huv: ¬(u1=v1/\u2=v2):=fun e=>h (by rw[e.1,e.2,tQ];omega);rcases this with rfl|rfl|rfl<;>simp[r4,vg,e7]<;>omega
def mH(es:List Int):Nat->Nat->List ZP->List ZP×Nat
 |0,a,out=>(out,a)
 |n+1,a,out=>mH es n (pF es a).2 (if out.getLast? =some (pF es a).1 then out else out++[(pF es a).1])
structure lh (r:List ZP):Prop where
 ne: ∀i,i+1<r.length->r.getD i (0,0)≠r.getD (i+1) (0,0)
 le: ∀p∈r,ZP.le 100 p
def lh.snoc{r:List ZP}{p:ZP}(h:lh r)(hp:ZP.le 100 p)(hl:r.getLast? ≠some p):lh (r++[p]):=by
 refine⟨fun i hi=>?_,fun q hq=>?_⟩
 ·rw[aT,nK] at hi
  rw[aK,aK];by_cases h1:i+1<r.length
  ·rw[cN (by omega),cN h1]
   have:=h.ne i h1;rwa [aK,aK] at this
  ·have e:i+1=r.length:=by omega
   rw[cN (by omega),e,fR (aM _),rY];rw[nV,<-e,lM] at hl;rw[aX (by omega)] at hl⊢;intro c;exact hl (by simpa using c)
 ·rcases bS.1 hq with hq|hq
  ·exact h.le q hq
  ·rw[aY] at hq;subst hq;exact hp
def D5{es:List Int}: ∀{n a:Nat} {out:List ZP},a<=es.length->lh out->lh (mH es n a out).1/\(mH es n a out).1.length<=out.length+n/\(mH es n a out).2<=es.length
 |0,a,out,ha,h=>⟨h,aM _,ha⟩
 |n+1,a,out,ha,h=>by
  obtain⟨h1,h2,h3⟩:=vY ha;rw[mH];by_cases hl:out.getLast? =some (pF es a).1
  ·rw[if_pos hl]
   obtain⟨k1,k2,k3⟩:=D5 (n:=n) h3 h;exact⟨k1,by omega,k3⟩
  ·rw[if_neg hl]
   obtain⟨k1,k2,k3⟩:=D5 (n:=n) h3 (h.snoc (p:=(pF es a).1) ⟨by omega,by omega⟩ hl);rw[aT,nK] at k2;exact⟨k1,by omega,k3⟩
def kj:Nat->List ZP->List ZP
 |0,l=>l
 |n+1,l=>if 1<l.length/\l.getD 0 (0,0)=l.getD (l.length-1) (0,0) then kj n l.dropLast else l
def lh.drop{r:List ZP}(h:lh r):lh r.dropLast:=by
 refine⟨fun i hi=>?_,fun p hp=>h.le p ((sJ _).subset hp)⟩;rw[oQ] at hi;have:=h.ne i (by omega);rw[aK,aK] at this⊢;rw[List.getElem?_dropLast,List.getElem?_dropLast,if_pos (by omega),if_pos (by omega)];exact this
def QC: ∀{n:Nat} {l:List ZP},lh l->l.length<=n+1->lh (kj n l)/\(kj n l).length<=l.length/\(1<(kj n l).length->(kj n l).getD 0 (0,0)≠(kj n l).getD ((kj n l).length-1) (0,0))
 |0,l,h,hn=>⟨h,aM _,fun k=>absurd k (by unfold kj;omega)⟩
 |n+1,l,h,hn=>by
  rw[kj];split
  ·obtain⟨h1,h2,h3⟩:=QC (n:=n) h.drop (by rw[oQ];omega)
   rw[oQ] at h2;exact⟨h1,by omega,h3⟩
  ·rename_i hc
   exact⟨h,aM _,fun k e=>hc ⟨k,e⟩⟩
def Uj{r:List ZP}(h:lh r)(h6:r.length<=6)(hc:1<r.length->r.getD 0 (0,0)≠r.getD (r.length-1) (0,0))(h3:3<=(oE r).length):dq r:=by
 have:=Yk r;refine⟨by omega,h6,h.le,fun i hi=>?_⟩;by_cases h1:i+1<r.length
 ·rw[EM h1];exact h.ne i h1
 ·have e:i+1=r.length:=by omega
  rw[GC e];have:=hc (by omega);rw[show i=r.length-1 by omega];exact fun k=>this k.symm
def wZ:List ZP:=[(0,0),(2,0),(0,2)]
def Pf:dq wZ:=⟨by decide,by decide,fun p hp=>by
  simp only[wZ,aV,kX,or_false] at hp;rcases hp with rfl|rfl|rfl<;>exact⟨by decide,by decide⟩,fun i hi=>by
  have:i=0\/i=1\/i=2:=by simp[wZ] at hi;omega
  rcases this with rfl|rfl|rfl<;>decide⟩
def pc(es:List Int)(a:Nat):List ZP×Nat:=
 ((if(oE (kj 6 (mH es (3+(aB es 4 a).1) (aB es 4 a).2 []).1)).length<3 then wZ else kj 6 (mH es (3+(aB es 4 a).1) (aB es 4 a).2 []).1),(mH es (3+(aB es 4 a).1) (aB es 4 a).2 []).2)
def lh.nil:lh []:=⟨fun i hi=>by simp at hi,fun p hp=>by cases hp⟩
def H8{es:List Int}{a:Nat}(ha:a<=es.length):dq (pc es a).1/\(pc es a).2<=es.length:=by
 have h1:=kP (es:=es) (n:=4) (a:=a) (by decide);obtain⟨k1,k2,k3⟩:=D5 (n:=3+(aB es 4 a).1) (jy (n:=4) ha) lh.nil;obtain⟨t1,t2,t3⟩:=QC (n:=6) k1 (by simp at k2;omega);refine⟨?_,k3⟩;unfold pc;dsimp only;split
 ·exact Pf
 ·exact Uj t1 (by simp at k2;omega) t3 (by omega)
def ze(es:List Int)(n m k:Int)(a:Nat):List ZP×Nat:=
 let x:=aB es n a
 let y:=aB es n x.2
 let z:=aB es m y.2
 let w:=aB es m z.2
 (rI ((x.1:Int)-k) ((y.1:Int)-k) ((x.1:Int)-k+1+z.1) ((y.1:Int)-k+1+w.1),w.2)
def Xm{es:List Int}{n m k:Int}{a:Nat}(ha:a<=es.length)(hn:1<=n)(hn2:n<=10)(hm:1<=m)(hm2:m<=10)(hk:0<=k)(hk2:k<=10):dq (ze es n m k a).1/\(ze es n m k a).2<=es.length:=by
 have h1:=kP (es:=es) (a:=a) hn;have h2:=kP (es:=es) (a:=(aB es n a).2) hn;have h3:=kP (es:=es) (a:=(aB es n (aB es n a).2).2) hm;have h4:=kP (es:=es) (a:=(aB es m (aB es n (aB es n a).2).2).2) hm;exact⟨TL (by omega) (by omega) (by omega) (by omega) (by omega) (by omega),jy (jy (jy (jy ha)))⟩
def iu(es:List Int)(a:Nat):List ZP×Nat:=
 let k:=aB es 4 a
 if(k.1:Int)=0 then ze es 5 4 4 k.2
 else if(k.1:Int)=1 then
  let p:=pF es k.2
  let u:=vF es p.2
  let v:=vF es u.2
  if rg u.1 v.1≠0 then(r4 p.1 u.1 v.1,v.2) else pc es v.2
 else pc es k.2
def D6{es:List Int}{a:Nat}(ha:a<=es.length):dq (iu es a).1/\(iu es a).2<=es.length:=by
 have h0:=jy (n:=4) ha;unfold iu;dsimp only;split
 ·exact Xm h0 (by decide) (by decide) (by decide) (by decide) (by decide) (by decide)
 ·split
  ·obtain⟨p1,p2,p3⟩:=vY h0
   obtain⟨u1,u2,u3,u4⟩:=yt p3;obtain⟨v1,v2,v3,v4⟩:=yt u4;split
   ·rename_i hc
    exact⟨S7 ⟨by omega,by omega⟩ ⟨by omega,by omega⟩ ⟨by omega,by omega⟩ hc,v4⟩
   ·exact H8 v4
  ·exact H8 h0
def aJz:List ZP:=[(0,0),(1,0),(0,1)]
def I9(es:List Int)(a:Nat):List ZP×Nat:=
 let k:=aB es 2 a
 if(k.1:Int)=0 then ze es 3 2 1 k.2
 else
  let x:=aB es 3 k.2
  let y:=aB es 3 x.2
  let u1:=aB es 2 y.2
  let u2:=aB es 3 u1.2
  let v1:=aB es 3 u2.2
  let v2:=aB es 2 v1.2
  (if 0<rg (1+(u1.1:Int),(u2.1:Int)-1) ((v1.1:Int)-1,1+(v2.1:Int)) then r4 ((x.1:Int)-1,(y.1:Int)-1) (1+(u1.1:Int),(u2.1:Int)-1) ((v1.1:Int)-1,1+(v2.1:Int)) else aJz,v2.2)
def uQ(es:List Int)(a:Nat):Tr×Nat:=
 let r:=iu es a
 let k:=aB es 3 r.2
 if(k.1:Int)=0 then
  let s:=iu es k.2
  let f:=aB es 2 s.2
  (iG [r.1,s.1] (1+(f.1:Int)),f.2)
 else
  let f:=aB es 2 k.2
  (iG [r.1] (1+(f.1:Int)),f.2)
def Hj(l:ab):Tr:=(Tr.node l (.leaf true) (.leaf false)).restrict []
def sI(es:List Int):Nat->Nat->Tr×Nat
 |0,a=>
  let k:=aB es 6 a
  if(k.1:Int)=1 then(Hj (lF es k.2).1,(lF es k.2).2)
  else if(k.1:Int)=2 then((mG es 3 k.2).1.restrict [],(mG es 3 k.2).2)
  else if(k.1:Int)=3 then((uQ es k.2).1.compl,(uQ es k.2).2)
  else uQ es k.2
 |d+1,a=>
  let k:=aB es 6 a
  if(k.1:Int)=0 then
   let x:=sI es d k.2
   let o:=aB es 4 x.2
   let y:=sI es d o.2
   (x.1.mergeQ (1+(o.1:Int)) y.1 [],y.2)
  else if(k.1:Int)=1 then(Hj (lF es k.2).1,(lF es k.2).2)
  else if(k.1:Int)=2 then((mG es 3 k.2).1.restrict [],(mG es 3 k.2).2)
  else if(k.1:Int)=3 then((uQ es k.2).1.compl,(uQ es k.2).2)
  else uQ es k.2
def aJ3(es:List Int)(a:Nat):Tr×Nat:=
 let k:=aB es 4 a
 if(k.1:Int)=0 then(Hj (lF es k.2).1,(lF es k.2).2)
 else if(k.1:Int)=1 then((mG es 2 k.2).1.restrict [],(mG es 2 k.2).2)
 else(iG [(I9 es k.2).1] 2,(I9 es k.2).2)
def dw(a b p:aa):Rat:=(b.x-a.x)*(p.y-a.y)-(b.y-a.y)*(p.x-a.x)
def oD(v w p:aa):Int:=(if v.y<=p.y/\ ¬w.y<=p.y/\0<dw v w p then 1 else 0)-(if¬v.y<=p.y/\w.y<=p.y/\dw v w p<0 then 1 else 0)
def uZ(v w q p:aa):Prop:= ∀s t:Rat,0<=s->s<=1->0<=t->t<=1->bu v w s≠bu q p t
def AE{a b:Rat}(h0:0<=a)(h1:a<=b)(hb:0<b):0<=a/b/\a/b<=1/\a/b*b=a:=by
 have e:a/b*b=a:=by grind
 generalize a/b=q at*;refine⟨?_,?_,e⟩
 ·exact(j0 hb).1 (by rw[e];exact h0)
 ·have:=(j0 (s:=1-q) hb).1 (by grind)
  grind
def SY{q p x:aa}(hy:q.y<p.y)(h:dw q p x=0)(h1:q.y<=x.y)(h2:x.y<=p.y): ∃t,0<=t/\t<=1/\x=bu q p t:=by
 obtain⟨a1,a2,a3⟩:=AE (a:=x.y-q.y) (b:=p.y-q.y) (by grind) (by grind) (by grind);refine⟨_,a1,a2,?_⟩;generalize (x.y-q.y)/(p.y-q.y)=t at*;obtain⟨X,Y⟩:=x;unfold dw at h;unfold bu;simp only at*;have e:X=q.x+t*(p.x-q.x):=by
  have h3:(p.y-q.y)*(X-q.x)=(p.y-q.y)*(t*(p.x-q.x)):=by grind
  have h4:p.y-q.y≠0:=by grind
  have:=qN.1 (show(p.y-q.y)*(X-q.x-t*(p.x-q.x))=0 by grind);rcases this with h5|h5
  ·exact absurd h5 h4
  ·grind
 rw[e];congr 1;grind
def RC(q p v w:aa)(e:Rat):dw q p (bu v w e)=dw q p v+e*(dw q p w-dw q p v):=by
 unfold dw bu;grind
def Lq(v w:aa)(a b e:Rat):bu (bu v w a) (bu v w b) e=bu v w (a+e*(b-a)):=by
 unfold bu;simp only[aa.mk.injEq];constructor<;>grind
def Ca(v w:aa)(e:Rat):(bu v w e).y=v.y+e*(w.y-v.y):=rfl
def Ix{a b e lo hi:Rat}(h0:0<=e)(h1:e<=1)(ha:lo<=a)(hb:lo<=b)(ha2:a<=hi)(hb2:b<=hi):lo<=a+e*(b-a)/\a+e*(b-a)<=hi:=by
 have k1:=fy h0 (show 0<=b-lo by grind);have k2:=fy (show 0<=1-e by grind) (show 0<=a-lo by grind);have k3:=fy h0 (show 0<=hi-b by grind);have k4:=fy (show 0<=1-e by grind) (show 0<=hi-a by grind);constructor<;>grind
def ZI{v w q p:aa}(hn:uZ v w q p)(hy:q.y<p.y){a b:Rat}(a0:0<=a)(a1:a<=1)(b0:0<=b)(b1:b<=1)(ha:q.y<=(bu v w a).y/\(bu v w a).y<=p.y)(hb:q.y<=(bu v w b).y/\(bu v w b).y<=p.y)(h:dw q p (bu v w a)<0):dw q p (bu v w b)<0:=by
 by_cases k:dw q p (bu v w b)<0
 ·exact k
 ·exfalso
  obtain⟨e0,e1,e2⟩:=AE (a:= -(dw q p (bu v w a))) (b:=dw q p (bu v w b)-dw q p (bu v w a)) (by grind) (by grind) (by grind);generalize-(dw q p (bu v w a))/(dw q p (bu v w b)-dw q p (bu v w a))=e at*;have hz:dw q p (bu v w (a+e*(b-a)))=0:=by rw[<-Lq,RC];grind
  have hh:=Ix e0 e1 ha.1 hb.1 ha.2 hb.2;rw[<-Ca,Lq] at hh;obtain⟨t,t0,t1,ht⟩:=SY hy hz hh.1 hh.2;have h01:=Ix e0 e1 a0 b0 a1 b1;exact hn _ t h01.1 h01.2 t0 t1 ht
def ZK{v w q p:aa}(hn:uZ v w q p)(hy:q.y<p.y): ∃r:Bool,∀s,0<=s->s<=1->q.y<=(bu v w s).y->(bu v w s).y<=p.y->(dw q p (bu v w s)<0↔r=true):=by
 by_cases h: ∃s,0<=s/\s<=1/\(q.y<=(bu v w s).y/\(bu v w s).y<=p.y)/\dw q p (bu v w s)<0
 ·obtain⟨s,s0,s1,s2,s3⟩:=h
  exact⟨true,fun t t0 t1 h1 h2=>⟨fun _=>J,fun _=>ZI hn hy s0 s1 t0 t1 s2 ⟨h1,h2⟩ s3⟩⟩
 ·exact⟨false,fun t t0 t1 h1 h2=>⟨fun k=>absurd ⟨t,t0,t1,⟨h1,h2⟩,k⟩ h,fun k=>by cases k⟩⟩
def OO(v w:aa):bu v w 0=v:=by unfold bu;cases v;simp only[aa.mk.injEq];constructor<;>grind
def Jz(v w:aa):bu v w 1=w:=by unfold bu;cases w;simp only[aa.mk.injEq];constructor<;>grind
def FN{v w:aa}{y:Rat}(h:(v.y<=y/\ ¬w.y<=y)\/(¬v.y<=y/\w.y<=y)): ∃s,0<=s/\s<=1/\(bu v w s).y=y:=by
 rcases h with⟨h1,h2⟩|⟨h1,h2⟩
 ·obtain⟨a1,a2,a3⟩:=AE (a:=y-v.y) (b:=w.y-v.y) (by grind) (by grind) (by grind)
  refine⟨_,a1,a2,?_⟩;rw[Ca];grind
 ·obtain⟨a1,a2,a3⟩:=AE (a:=v.y-y) (b:=v.y-w.y) (by grind) (by grind) (by grind)
  refine⟨_,a1,a2,?_⟩;rw[Ca];grind
def M'{v w p:aa}{s:Rat}(h:(bu v w s).y=p.y):dw v w p=(w.y-v.y)*((bu v w s).x-p.x):=by
 unfold dw;unfold bu at*;simp only at*;rw[<-h];grind
def xR{a b:Rat}(ha:0<a):0<a*b↔0<b:=by rw[Rat.mul_comm];exact ke ha
def GI{a b:Rat}(ha:a<0):a*b<0↔0<b:=by
 have:=xR (a:= -a) (b:=b) (by grind);constructor
 ·intro h;exact this.1 (by grind)
 ·intro h;have:=this.2 h;grind
def bI(b:Prop)[Decidable b]:Int:=if b then 1 else 0
def DE{v w p:aa}{r:Prop}[Decidable r](h: ∀s,0<=s->s<=1->(bu v w s).y=p.y->(p.x<(bu v w s).x↔r)):oD v w p=if r then bI (v.y<=p.y)-bI (w.y<=p.y) else 0:=by
 unfold oD bI;by_cases h1:v.y<=p.y<;>by_cases h2:w.y<=p.y
 ·simp[h1,h2]
 ·obtain⟨s,s0,s1,s2⟩:=FN (.inl ⟨h1,h2⟩)
  have e:=M' s2;have k:=h s s0 s1 s2;have m:=xR (a:=w.y-v.y) (b:=(bu v w s).x-p.x) (by grind);rw[<-e] at m;have m2:0<dw v w p↔r:=by rw[m,<-k];grind
  simp only[h1,h2,m2];by_cases q:r<;>simp[q]
 ·obtain⟨s,s0,s1,s2⟩:=FN (.inr ⟨h1,h2⟩)
  have e:=M' s2;have k:=h s s0 s1 s2;have m:=GI (a:=w.y-v.y) (b:=(bu v w s).x-p.x) (by grind);rw[<-e] at m;have m2:dw v w p<0↔r:=by rw[m,<-k];grind
  simp only[h1,h2,m2];by_cases q:r<;>simp[q]
 ·simp[h1,h2]
def uE(q p u:aa):Int:=if q.y<u.y/\u.y<=p.y/\dw q p u<0 then 1 else 0
def LT{v w q p:aa}(hn:uZ v w q p)(hy:q.y<p.y):oD v w p-oD v w q=uE q p v-uE q p w:=by
 obtain⟨r,hr⟩:=ZK hn hy;have ep:=DE (v:=v) (w:=w) (p:=p) (r:=r=true) fun s s0 s1 s2=>by
  rw[<-hr s s0 s1 (by grind) (by grind)];have m:=xR (a:=p.y-q.y) (b:=(bu v w s).x-p.x) (by grind);have:dw q p (bu v w s)= -((p.y-q.y)*((bu v w s).x-p.x)):=by unfold dw;rw[s2];grind
  rw[this];generalize (p.y-q.y)*((bu v w s).x-p.x)=z at*;constructor
  ·intro k;have:=m.2 (by grind);grind
  ·intro k;have:=m.1 (by grind);grind
 have eq:=DE (v:=v) (w:=w) (p:=q) (r:=r=true) fun s s0 s1 s2=>by
  rw[<-hr s s0 s1 (by grind) (by grind)];have m:=xR (a:=p.y-q.y) (b:=(bu v w s).x-q.x) (by grind);have:dw q p (bu v w s)= -((p.y-q.y)*((bu v w s).x-q.x)):=by unfold dw;rw[s2];grind
  rw[this];generalize (p.y-q.y)*((bu v w s).x-q.x)=z at*;constructor
  ·intro k;have:=m.2 (by grind);grind
  ·intro k;have:=m.1 (by grind);grind
 have fv:uE q p v=if r=true then bI (v.y<=p.y)-bI (v.y<=q.y) else 0:=by
  have h:=hr 0 (by decide) (by decide);rw[OO] at h;unfold uE bI;by_cases h1:v.y<=p.y<;>by_cases h2:v.y<=q.y
  ·have: ¬q.y<v.y:=by grind
   simp[h1,h2,this]
  ·have h3:q.y<v.y:=by grind
   have:=h (by grind) h1;simp only[h1,h2,h3,this];by_cases q:r=true<;>simp[q]
  ·exfalso;grind
  ·simp[h1,h2]
 have fw:uE q p w=if r=true then bI (w.y<=p.y)-bI (w.y<=q.y) else 0:=by
  have h:=hr 1 (by decide) (by decide);rw[Jz] at h;unfold uE bI;by_cases h1:w.y<=p.y<;>by_cases h2:w.y<=q.y
  ·have: ¬q.y<w.y:=by grind
   simp[h1,h2,this]
  ·have h3:q.y<w.y:=by grind
   have:=h (by grind) h1;simp only[h1,h2,h3,this];by_cases q:r=true<;>simp[q]
  ·exfalso;grind
  ·simp[h1,h2]
 rw[ep,eq,fv,fw];by_cases q:r=true
 ·simp only[if_pos q];omega
 ·simp only[if_neg q]
def ZU{v w q p:aa}(hn:uZ v w q p)(hy:q.y=p.y):oD v w p=oD v w q:=by
 have key: ∀s,0<=s->s<=1->(bu v w s).y=p.y->(p.x<(bu v w s).x↔q.x<(bu v w s).x):=fun s s0 s1 s2=>by
  have no: ∀a b:Rat,a<=(bu v w s).x->(bu v w s).x<b->((a=q.x/\b=p.x)\/(a=p.x/\b=q.x))->False:=fun a b h1 h2 h3=>by
   obtain⟨a1,a2,a3⟩:=AE (a:=(bu v w s).x-a) (b:=b-a) (by grind) (by grind) (by grind);generalize ((bu v w s).x-a)/(b-a)=t at*;rcases h3 with⟨e1,e2⟩|⟨e1,e2⟩
   ·refine hn s t s0 s1 a1 a2 ?_
    generalize hx:bu v w s=x at*;obtain⟨X,Y⟩:=x;unfold bu;simp only[aa.mk.injEq] at*;subst e1 e2;constructor<;>grind
   ·refine hn s (1-t) s0 s1 (by grind) (by grind) ?_
    generalize hx:bu v w s=x at*;obtain⟨X,Y⟩:=x;unfold bu;simp only[aa.mk.injEq] at*;subst e1 e2;constructor<;>grind
  constructor
  ·intro h
   by_cases k:q.x<(bu v w s).x
   ·exact k
   ·by_cases k2:(bu v w s).x=q.x
    ·exfalso
     refine hn s 0 s0 s1 (by decide) (by decide) ?_;rw[OO];generalize bu v w s=x at*;obtain⟨X,Y⟩:=x;obtain⟨A,B⟩:=q;simp only[aa.mk.injEq] at*;exact⟨k2,by grind⟩
    ·exact(no p.x q.x (by grind) (by grind) (.inr ⟨J,J⟩)).elim
  ·intro h
   by_cases k:p.x<(bu v w s).x
   ·exact k
   ·by_cases k2:(bu v w s).x=p.x
    ·exfalso
     refine hn s 1 s0 s1 (by decide) (by decide) ?_;rw[Jz];generalize bu v w s=x at*;obtain⟨X,Y⟩:=x;obtain⟨A,B⟩:=p;simp only[aa.mk.injEq] at*;exact⟨k2,s2⟩
    ·exact(no q.x p.x (by grind) (by grind) (.inl ⟨J,J⟩)).elim
 by_cases hc:(v.y<=p.y/\ ¬w.y<=p.y)\/(¬v.y<=p.y/\w.y<=p.y)
 ·obtain⟨s,s0,s1,s2⟩:=FN hc
  have uq: ∀t,(bu v w t).y=p.y->t=s:=fun t ht=>by
   rw[Ca] at ht s2;have h4:w.y-v.y≠0:=by grind
   have:=qN.1 (show(w.y-v.y)*(t-s)=0 by grind);rcases this with h5|h5
   ·exact absurd h5 h4
   ·grind
  rw[DE (p:=p) (r:=p.x<(bu v w s).x) fun t _ _ ht=>by rw[uq t ht],DE (p:=q) (r:=p.x<(bu v w s).x) fun t _ _ ht=>by rw[uq t (by rw[ht,hy])];exact(key s s0 s1 s2).symm,hy]
 ·unfold oD
  rw[hy];by_cases h1:v.y<=p.y<;>by_cases h2:w.y<=p.y<;>simp[h1,h2] at hc⊢
def TV(q p:aa)(t:Rat):bu p q t=bu q p (1-t):=by unfold bu;simp only[aa.mk.injEq];constructor<;>grind
def uZ.symm{v w q p:aa}(h:uZ v w q p):uZ v w p q:=fun s t s0 s1 t0 t1 e=>h s (1-t) s0 s1 (by grind) (by grind) (by rw[e,TV])
def jx(r:List ZP)(p:aa):Nat->Int
 |0=>0
 |k+1=>jx r p k+oD (r.getD k (0,0)).q (e7 r k).q p
def yk(r:List ZP)(q p:aa):Prop:= ∀k,k<r.length->uZ (r.getD k (0,0)).q (e7 r k).q q p
def Rl{r:List ZP}{q p:aa}(h:yk r q p)(hy:q.y<p.y): ∀k,k<r.length->jx r p k-jx r q k=uE q p (r.getD 0 (0,0)).q-uE q p (r.getD k (0,0)).q
 |0,_=>by simp[jx]
 |k+1,hk=>by
  have ih:=Rl h hy k (by omega);have e:=LT (h k (by omega)) hy;rw[EM (by omega)] at e;rw[jx,jx,EM (by omega)];omega
def Rm{r:List ZP}{q p:aa}(h:yk r q p)(hy:q.y<p.y):jx r p r.length=jx r q r.length:=by
 cases hr:r.length with
 |zero=>rfl
 |succ n=>
  have ih:=Rl h hy n (by omega);have e:=LT (h n (by omega)) hy;rw[GC (by omega)] at e;rw[jx,jx,GC (by omega)];omega
def Le{r:List ZP}{q p:aa}(h:yk r q p)(hy:q.y=p.y): ∀k,k<=r.length->jx r p k=jx r q k
 |0,_=>rfl
 |k+1,hk=>by rw[jx,jx,Le h hy k (by omega),ZU (h k (by omega)) hy]
def Tz{r:List ZP}{q p:aa}(h:yk r q p):jx r p r.length=jx r q r.length:=by
 by_cases h1:q.y<p.y
 ·exact Rm h h1
 ·by_cases h2:p.y<q.y
  ·exact(Rm (fun k hk=>(h k hk).symm) h2).symm
  ·exact Le h (by grind) _ (aM _)
def Yc(a b c:aa):tV a b c=(dw a b c).num.sign:=by
 unfold tV dw aa.cross dC;congr 2;grind
def FR(a b:Rat):bO a b<=0↔a<=b:=by
 have:=CB a b;constructor
 ·intro h
  by_cases q:b<a
  ·have:=this.2 q;omega
  ·grind
 ·intro h
  by_cases q:0<bO a b
  ·have:=this.1 q;grind
  ·omega
def aDF(v w p:aa):Gr v w p=oD v w p:=by
 unfold Gr oD;simp only[Yc,nk,mI,FR]
def Ag(r:List ZP)(p:aa): ∀k,yP r p k=jx r p k
 |0=>rfl
 |k+1=>by rw[yP,jx,Ag r p k,aDF]
def Ym{r:List ZP}{q p:aa}(h:yk r q p):py r p=py r q:=by
 unfold py;rw[Ag,Ag,Tz h]
def Vl(R:Rat)(p:aa):Prop:=p.x< -R\/R<p.x\/p.y< -R\/R<p.y
def IC(op:Int)(a b:Tr):Bool:=decide ((a.mergeQ op b []).isLeaf=true/\(a.mergeQ op b []).code=false)
def aFJ(a b:Tr):Int:=if IC 4 a b then 0 else if IC 3 a b then-1 else if IC 3 b a then 1 else 2
def uh:Tr->aa->Bool
 | .leaf b,_=>b
 | .node l x y,p=>if(l.value p).num.sign=1 then uh x p else if(l.value p).num.sign= -1 then uh y p else false
def E6(t:Tr):List aF:=((t.parts []).filter (·.1)).map (·.2)
def jd(l:ab)(p:aa):aF->Rat->Rat
 |[],f=>f
 |s::c,f=>jd l p c (if Int.sign (s.l.nor.dot l.nor).num<0 then(if-(s.l.value p/s.l.nor.dot l.nor)<f then-(s.l.value p/s.l.nor.dot l.nor) else f) else f)
def p6:aF->aa
 |[]=>⟨0,0⟩
 |s::c=>dC (s.l.at s.v.sample) s.l.nor (jd s.l (s.l.at s.v.sample) c 1*mkRat 1 2)
def IY{v k:Rat}(hk:k<0)(hv:0<v):0< -(v/k):=by
 have e: -(v/k)* -k=v:=by grind
 exact(ke (k:= -k) (by grind)).1 (by rw[e];exact hv)
def FH{l:ab}{p:aa}: ∀{c:aF} {f:Rat},0<f->(∀s∈c,s.l.nor.dot l.nor<0->0<s.l.value p)->0<jd l p c f/\jd l p c f<=f/\ ∀s∈c,s.l.nor.dot l.nor<0->jd l p c f<= -(s.l.value p/s.l.nor.dot l.nor)
 |[],f,hf,_=>⟨hf,iZ,fun s hs=>by cases hs⟩
 |s::c,f,hf,h=>by
  have h0:=h s aQ;have h1:=fun u hu=>h u (aZ _ hu);rw[jd];by_cases hk:s.l.nor.dot l.nor<0
  ·have hp:=IY hk (h0 hk)
   rw[if_pos ((mI _).2 hk)];obtain⟨k1,k2,k3⟩:=FH (c:=c) (f:=if-(s.l.value p/s.l.nor.dot l.nor)<f then-(s.l.value p/s.l.nor.dot l.nor) else f) (by split<;>assumption) h1;refine⟨k1,?_,fun u hu=>?_⟩
   ·split at k2<;>grind
   ·rcases aV.1 hu with rfl|hu
    ·intro _;split at k2<;>grind
    ·exact k3 u hu
  ·rw[if_neg (fun e=>hk ((mI _).1 e))]
   obtain⟨k1,k2,k3⟩:=FH (c:=c) hf h1;refine⟨k1,k2,fun u hu=>?_⟩;rcases aV.1 hu with rfl|hu
   ·intro e;exact absurd e hk
   ·exact k3 u hu
def Vi: ∀{c:aF},d8 c->bP c (p6 c)
 |[],_=>TO _
 |s::c,hc=>by
  have hs:s∈s::c:=aQ;obtain⟨p1,p2⟩:=hc.edge s hs;have hin:=(p2 s.v.sample).1 (wx p1).has;have hne:=(hc.ok s hs).ne;have hself:=sP hne s.v.sample;have hpos: ∀g∈c,g.l≠s.l->0<g.l.value (s.l.at s.v.sample):=fun g hg hn=>by
   have h1:=hin g (aZ _ hg);have h2:g.l.value (s.l.at s.v.sample)≠0:=fun e=>hn (KF hc hs (hc.ok g (aZ _ hg)) (fun p hp=>hp g (aZ _ hg)) e);grind
  have hnn:=pP hne;have hk: ∀g∈c,g.l.nor.dot s.l.nor<0->0<g.l.value (s.l.at s.v.sample):=fun g hg hk=>hpos g hg (fun e=>by rw[e] at hk;grind);obtain⟨f1,f2,f3⟩:=FH (l:=s.l) (p:=s.l.at s.v.sample) (c:=c) (f:=1) (by decide) hk;show bP (s::c) (dC (s.l.at s.v.sample) s.l.nor (jd s.l (s.l.at s.v.sample) c 1*mkRat 1 2));rw[Oh];generalize jd s.l (s.l.at s.v.sample) c 1=F at f1 f2 f3⊢;intro g hg;rw[jG];have hhalf:0<F*(1/2):=by grind
  rcases aV.1 hg with e|hg
  ·rw[e,hself,Rat.zero_add]
   exact ce hhalf hnn
  ·by_cases he:g.l=s.l
   ·rw[he,hself]
    have:=ce (a:=F*(1/2)) (b:=s.l.nor.dot s.l.nor) (by grind) hnn;grind
   ·have hv:=hpos g hg he
    by_cases hk2:g.l.nor.dot s.l.nor<0
    ·have hf:=f3 g hg hk2
     generalize g.l.nor.dot s.l.nor=k at hk2 hf⊢;generalize g.l.value (s.l.at s.v.sample)=v at hf hv⊢;have e1: -(v/k)* -k=v:=by grind
     generalize-(v/k)=w at e1 hf;have:=fy (a:=w-F) (b:= -k) (by grind) (by grind);clear hin hpos hk f3 hc p2;grind
    ·have h9:=fy (a:=F*(1/2)) (b:=g.l.nor.dot s.l.nor) (fY hhalf) (by grind)
     generalize F*(1/2)*g.l.nor.dot s.l.nor=z at h9⊢;clear hin hpos hk f3 hc p2;grind
def fB:Tr->aa->aa->Bool×Bool
 | .leaf b,_,_=>(b,true)
 | .node l x y,p,v=>match (if(l.value p).num.sign=0 then(l.dir.cross v).num.sign else(l.value p).num.sign) with
  |1=>fB x p v
  | -1=>fB y p v
  |_=>(false,false)
def yn(l:ab)(v:aa):l.dir.cross v=l.nor.dot v:=by
 unfold ab.dir ab.nor aa.cross aa.dot;grind
def Gn(L:List ab)(p v:aa):Prop:= ∀l∈L,l.value p=0->l.nor.dot v≠0
end Go.Sx
end
