import Derived.Test.YtochlbkonkgedaaGreatDoorQb14
set_option linter.all false
set_option maxHeartbeats 2000000
set_option maxRecDepth 100000
section
namespace Go.Sx
open Go Go.Proofs Tryz
variable {GB:Gh}
def Tr.val:Tr->aa->Bool
 | .leaf b,_=>b
 | .node l x y,p=>if 0<l.value p then x.val p else y.val p
def Tr.lns:Tr->List ab
 | .leaf _=>[]
 | .node l x y=>l::(x.lns++y.lns)
def uk{P:ab->Prop}: ∀{t:Tr},t.all P↔ ∀l∈t.lns,P l
 | .leaf _=>⟨fun _ l hl=>(by cases hl),fun _=>trivial⟩
 | .node l x y=>by
  show(P l/\x.all P/\y.all P)↔ ∀m∈l::(x.lns++y.lns),P m;rw[uk (t:=x),uk (t:=y)];constructor
  ·rintro ⟨h0,h1,h2⟩ m hm
   rcases aW.1 hm with rfl|hm
   ·exact h0
   ·rcases bW.1 hm with hm|hm
    ·exact h1 m hm
    ·exact h2 m hm
  ·intro h
   exact⟨h l aQ,fun m hm=>h m (aZ _ (bM _ hm)),fun m hm=>h m (aZ _ (cJ _ hm))⟩
def sP{t:Tr}(h:t.all ab.ok): ∀l∈t.lns,l.ok:=uk.1 h
def iw(L:List ab)(p:aa):Prop:= ∀l∈L,l.value p≠0
def iw.sub{L M:List ab}{p:aa}(h:iw L p)(k: ∀l∈M,l∈L):iw M p:=fun l hl=>h l (k l hl)
def iw.l{l:ab}{x y:Tr}{p:aa}(h:iw (Tr.node l x y).lns p):l.value p≠0:=h l aQ
def iw.x{l:ab}{x y:Tr}{p:aa}(h:iw (Tr.node l x y).lns p):iw x.lns p:=h.sub fun m hm=>aZ _ (bM _ hm)
def iw.y{l:ab}{x y:Tr}{p:aa}(h:iw (Tr.node l x y).lns p):iw y.lns p:=h.sub fun m hm=>aZ _ (cJ _ hm)
def opB(op:Int)(a b:Bool):Bool:=if op=1 then a||b else if op=2 then a&&b else if op=3 then a&&!b else a !=b
def Tr.val_join(l:ab)(X Y:Tr)(p:aa):(Tr.joinQ l X Y).val p=(Tr.node l X Y).val p:=by
 unfold Tr.joinQ;split
 ·rename_i h
  cases X<;>cases Y<;>simp[Tr.isLeaf,Tr.code] at h
  subst h;simp[Tr.val]
 ·rfl
def Tr.val_pos{l:ab}{x y:Tr}{p:aa}(h:0<l.value p):(Tr.node l x y).val p=x.val p:=by rw[Tr.val,if_pos h]
def Tr.val_neg{l:ab}{x y:Tr}{p:aa}(h: ¬0<l.value p):(Tr.node l x y).val p=y.val p:=by rw[Tr.val,if_neg h]
def Q8{c:aG}{l:ab}(hc:d8 c)(hl:l.ok)(hb:de c l.rev=false){p:aa}(hp:b9 c p)(h0:l.value p≠0):0<l.value p:=by
 by_cases h:0<l.value p
 ·exact h
 ·exfalso
  have:de c l.rev=true:=(tL hc hl.rev).2 ⟨p,hp,by rw[iE];grind⟩;rw[hb] at this;cases this
def Mu{c:aG}{l:ab}(hc:d8 c)(hl:l.ok)(hb:de c l=false){p:aa}(hp:b9 c p): ¬0<l.value p:=fun h=>by
 have:de c l=true:=(tL hc hl).2 ⟨p,hp,h⟩;rw[hb] at this;cases this
def Tr.val_restrict: ∀(t:Tr) (c:aG) (p:aa),t.all ab.ok->d8 c->b9 c p->iw t.lns p->(t.restrict c).val p=t.val p
 | .leaf _,_,_,_,_,_,_=>rfl
 | .node l x y,c,p,⟨hl,hx,hy⟩,hc,hp,ho=>by
  cases hb:de c l.rev with
  |false=>rw[Tr.restrict_A _ _ hb,x.val_restrict c p hx hc hp ho.x,Tr.val_pos (Q8 hc hl hb hp ho.l)]
  |true=>
   cases hb2:de c l with
   |false=>rw[Tr.restrict_B _ _ hb hb2,y.val_restrict c p hy hc hp ho.y,Tr.val_neg (Mu hc hl hb2 hp)]
   |true=>
    rw[Tr.restrict_C _ _ hb hb2,Tr.val_join];obtain⟨g1,i1⟩:=lu hc hl hb2;obtain⟨g2,i2⟩:=lu hc hl.rev hb;by_cases h:0<l.value p
    ·rw[Tr.val_pos h,Tr.val_pos h,x.val_restrict _ p hx g1 ((i1 p).2 ⟨hp,h⟩) ho.x]
    ·rw[Tr.val_neg h,Tr.val_neg h,y.val_restrict _ p hy g2 ((i2 p).2 ⟨hp,by rw[iE];have:=ho.l;grind⟩) ho.y]
def N0: ∀(L:List ab) (u:aa) (p:aa),iw L p-> ∃e:Rat,0<e/\ ∀d,0<=d->d<=e->iw L (bt p u d)
 |[],u,p,_=>⟨1,by decide,fun d _ _ l hl=>by cases hl⟩
 |l::L,u,p,h=>by
  obtain⟨e,he,hm⟩:=N0 L u p (h.sub fun m hm=>aZ _ hm);have h0:=h l aQ;have key: ∃f:Rat,0<f/\ ∀d,0<=d->d<=f->l.value (bt p u d)≠0:=by
   by_cases hk:l.nor.dot u=0
   ·exact⟨1,by decide,fun d _ _=>by rw[i6,hk];grind⟩
   ·generalize hA:l.value p=A at*
    generalize hB:l.nor.dot u=B at*;rcases eB A with h|h|h
    ·exact absurd h h0
    ·rcases eB B with k|k|k
     ·exact absurd k hk
     ·exact⟨1,by decide,fun d hd _=>by rw[i6,hA,hB];have:=cj hd (cM k);grind⟩
     ·refine⟨A/(-B)/2,?_,fun d hd h2=>?_⟩
      ·have:0<A/(-B):=by
        have e1:A/(-B)*(-B)=A:=by grind
        exact(gp (k:= -B) (by grind)).1 (by rw[e1];exact h)
       grind
      ·rw[i6,hA,hB]
       have e1:A/(-B)*(-B)=A:=by grind
       generalize A/(-B)=q at*;have h4:=cj (a:=q/2-d) (b:= -B) (by grind) (by grind);grind
    ·rcases eB B with k|k|k
     ·exact absurd k hk
     ·refine⟨(-A)/B/2,?_,fun d hd h2=>?_⟩
      ·have:0<(-A)/B:=by
        have e1:(-A)/B*B= -A:=by grind
        exact(gp (k:=B) k).1 (by rw[e1];grind)
       grind
      ·rw[i6,hA,hB]
       have e1:(-A)/B*B= -A:=by grind
       generalize (-A)/B=q at*;have h4:=cj (a:=q/2-d) (b:=B) (by grind) (by grind);grind
     ·exact⟨1,by decide,fun d hd _=>by rw[i6,hA,hB];have:=cj hd (b:= -B) (by grind);grind⟩
  obtain⟨f,hf,hk⟩:=key;refine⟨if e<=f then e else f,by split<;>assumption,fun d hd hde m hm'=>?_⟩;have h1:d<=e/\d<=f:=by split at hde<;>grind
  rcases aW.1 hm' with rfl|hm'
  ·exact hk d hd h1.2
  ·exact hm d hd h1.1 m hm'
def Hy{c:aG}{p:aa}(hp:b9 c p): ∀(L:List ab),(∀l∈L,l.ok)-> ∃q,b9 c q/\iw L q
 |[],_=>⟨p,hp,fun l hl=>by cases hl⟩
 |l::L,h=>by
  obtain⟨q,hq,ho⟩:=Hy hp L fun m hm=>h m (aZ _ hm);by_cases h0:l.value q=0
  ·have hn:=qn (h l aQ).ne
   obtain⟨e,he,hm⟩:=hq.open l.nor;obtain⟨f,hf,hk⟩:=N0 L l.nor q ho;refine⟨bt q l.nor (if e<=f then e else f),hm _ (by split<;>grind) (by split<;>grind),fun m hm'=>?_⟩;rcases aW.1 hm' with rfl|hm'
   ·rw[i6,h0]
    have:=bF (a:=if e<=f then e else f) (b:=m.nor.dot m.nor) (by split<;>assumption) hn;grind
   ·exact hk _ (by split<;>grind) (by split<;>grind) m hm'
  ·exact⟨q,hq,fun m hm=>by rcases aW.1 hm with rfl|hm;exact h0;exact ho m hm⟩
def V5{c:aG}(hc:d8 c)(L:List ab)(h: ∀l∈L,l.ok): ∃q,b9 c q/\iw L q:=by
 obtain⟨p,hp⟩:=hc.ne;exact Hy hp L h
def Tr.Red:Tr->aG->Prop
 | .leaf _,_=>True
 | .node l x y,c=>de c l=true/\de c l.rev=true/\x.Red (bP c l)/\y.Red (bP c l.rev)/\ ¬(x.isLeaf=true/\y.isLeaf=true/\x.code=y.code)
def Tr.red_leaf{t:Tr}(h:t.isLeaf=true)(c:aG):t.Red c:=by
 cases t with
 |leaf b=>trivial
 |node l x y=>cases h
def Tr.join_red{l:ab}{x y:Tr}{c:aG}(h1:de c l=true)(h2:de c l.rev=true)(hx:x.Red (bP c l))(hy:y.Red (bP c l.rev)):(Tr.joinQ l x y).Red c:=by
 rcases Tr.joinQ_cases l x y with⟨e,h⟩|⟨e,h⟩
 ·rw[e];exact Tr.red_leaf h c
 ·rw[e];exact⟨h1,h2,hx,hy,h⟩
def Tr.restrict_red: ∀(t:Tr) (c:aG),(t.restrict c).Red c
 | .leaf _,_=>trivial
 | .node l x y,c=>by
  cases hb:de c l.rev with
  |false=>rw[Tr.restrict_A _ _ hb];exact x.restrict_red c
  |true=>
   cases hb2:de c l with
   |false=>rw[Tr.restrict_B _ _ hb hb2];exact y.restrict_red c
   |true=>rw[Tr.restrict_C _ _ hb hb2];exact Tr.join_red hb2 hb (x.restrict_red _) (y.restrict_red _)
def aB4(p:aa):b9 [] p:=fun s hs=>(by cases hs)
def ab.same(l m:ab):Prop:=m=l\/m=l.rev
instance (l m:ab):Decidable (l.same m):=inferInstanceAs (Decidable (_\/_))
def Tr.cnt(l:ab):Tr->Nat
 | .leaf _=>0
 | .node m x y=>(if l.same m then 1 else 0)+(x.cnt l+y.cnt l)
def qj{l m:ab}(h:l.same m){p:aa}(hp:l.value p=0):m.value p=0:=by
 rcases h with rfl|rfl
 ·exact hp
 ·rw[iE,hp];rfl
def DH(l:ab)(c:aG):Prop:= ∃p,b9 c p/\l.value p=0
def Tr.cnt_zero{l:ab}: ∀{t:Tr} {c:aG},t.Red c->t.all ab.ok->d8 c-> ¬DH l c->t.cnt l=0
 | .leaf _,_,_,_,_,_=>rfl
 | .node m x y,c,⟨h1,h2,h3,h4,_⟩,⟨hm,hx,hy⟩,hc,hn=>by
  obtain⟨g1,i1⟩:=lu hc hm h1;obtain⟨g2,i2⟩:=lu hc hm.rev h2;have e1:=Tr.cnt_zero (l:=l) h3 hx g1 (fun⟨p,hp,h0⟩=>hn ⟨p,((i1 p).1 hp).1,h0⟩);have e2:=Tr.cnt_zero (l:=l) h4 hy g2 (fun⟨p,hp,h0⟩=>hn ⟨p,((i2 p).1 hp).1,h0⟩);rw[Tr.cnt,e1,e2];by_cases hs:l.same m
  ·exfalso
   -- m crosses the cell
   obtain⟨p,hp,k1⟩:=(tL hc hm).1 h1;obtain⟨q,hq,k2⟩:=(tL hc hm.rev).1 h2;rw[iE] at k2;generalize hA:m.value p=A at*;generalize hB:m.value q=B at*;have hAB:0<A-B:=by grind
   have e:A/(A-B)*(A-B)=A:=by grind
   generalize A/(A-B)=r at*;have r0:0<=r:=(ig hAB).1 (by rw[e];exact cM k1);have r1:r<=1:=by
    have:=(ig (s:=1-r) hAB).1 (by grind);grind
   have hz:=hp.seg hq r0 r1;have hv:m.value (ba p q r)=0:=by rw[kt,hA,hB];grind
   refine hn ⟨_,hz,?_⟩;rcases hs with rfl|rfl
   ·exact hv
   ·rw[iE] at hv;grind
  ·rw[if_neg hs]
def rh(c:aG)(p:aa):Bool:=c.all fun s=>decide (0<s.l.value p)
def sk{c:aG}{p:aa}:rh c p=true↔b9 c p:=by
 unfold rh b9;rw[fW];simp
def QM(P:List aa)(l:ab)(t:Tr):Prop:=t.all fun m=>l.same m\/ ∀p,l.value p=0->m.value p=0->p∈P
def He{α:Type}{p q r:α->Bool}: ∀(P:List α),(∀x∈P,q x=true->p x=true)->(∀x∈P,r x=true->p x=true)->(∀x∈P,¬(q x=true/\r x=true))->P.countP q+P.countP r<=P.countP p
 |[],_,_,_=>bQ _
 |x::P,h1,h2,h3=>by
  have ih:=He (p:=p) (q:=q) (r:=r) P (fun y hy=>h1 y (aZ _ hy)) (fun y hy=>h2 y (aZ _ hy)) (fun y hy=>h3 y (aZ _ hy));have a:=h1 x aQ;have b:=h2 x aQ;have c:=h3 x aQ;rw[oN,oN,oN]
  cases hq:q x<;>cases hr:r x<;>simp_all<;>omega
def PQ{α:Type}{p q r:α->Bool}: ∀(P:List α),(∀x∈P,q x=true->p x=true)->(∀x∈P,r x=true->p x=true)->(∀x∈P,¬(q x=true/\r x=true))->(∃x∈P,p x=true/\q x=false/\r x=false)->P.countP q+P.countP r+1<=P.countP p
 |[],_,_,_,⟨x,hx,_⟩=>by cases hx
 |x::P,h1,h2,h3,h4=>by
  have i2:=He (p:=p) (q:=q) (r:=r) P (fun y hy=>h1 y (aZ _ hy)) (fun y hy=>h2 y (aZ _ hy)) (fun y hy=>h3 y (aZ _ hy));have a:=h1 x aQ;have b:=h2 x aQ;have c:=h3 x aQ;rw[oN,oN,oN];obtain⟨z,hz,k1,k2,k3⟩:=h4;rcases aW.1 hz with rfl|hz
  ·simp only[k1,k2,k3];simp;omega
  ·have ih:=PQ (p:=p) (q:=q) (r:=r) P (fun y hy=>h1 y (aZ _ hy)) (fun y hy=>h2 y (aZ _ hy)) (fun y hy=>h3 y (aZ _ hy)) ⟨z,hz,k1,k2,k3⟩
   cases hq:q x<;>cases hr:r x<;>simp_all<;>omega
def Tr.cnt_le{l:ab}(hl:l.ok){P:List aa}: ∀{t:Tr} {c:aG},t.Red c->t.all ab.ok->d8 c->QM P l t->t.cnt l<=1+P.countP (rh c)
 | .leaf _,_,_,_,_,_=>bT _
 | .node m x y,c,⟨h1,h2,h3,h4,_⟩,⟨hm,hx,hy⟩,hc,⟨v0,v1,v2⟩=>by
  obtain⟨g1,i1⟩:=lu hc hm h1;obtain⟨g2,i2⟩:=lu hc hm.rev h2;have q1: ∀p∈P,rh (bP c m) p=true->rh c p=true:=fun p _ h=>sk.2 ((i1 p).1 (sk.1 h)).1;have q2: ∀p∈P,rh (bP c m.rev) p=true->rh c p=true:=fun p _ h=>sk.2 ((i2 p).1 (sk.1 h)).1;have q3: ∀p∈P,¬(rh (bP c m) p=true/\rh (bP c m.rev) p=true):=fun p _ ⟨a,b⟩=>by
   have a:=((i1 p).1 (sk.1 a)).2;have b:=((i2 p).1 (sk.1 b)).2;rw[iE] at b;grind
  have ct:=He P q1 q2 q3;rw[Tr.cnt];by_cases hs:l.same m
  ·have e1:=Tr.cnt_zero (l:=l) h3 hx g1 (fun⟨p,hp,h0⟩=>by have:=((i1 p).1 hp).2;rw[qj hs h0] at this;grind)
   have e2:=Tr.cnt_zero (l:=l) h4 hy g2 (fun⟨p,hp,h0⟩=>by have:=((i2 p).1 hp).2;rw[iE,qj hs h0] at this;grind);rw[e1,e2,if_pos hs];omega
  ·rw[if_neg hs]
   have b1:=Tr.cnt_le hl h3 hx g1 v1;have b2:=Tr.cnt_le hl h4 hy g2 v2;by_cases w1:DH l (bP c m)
   ·by_cases w2:DH l (bP c m.rev)
    ·-- the crossing lies in the cell
     obtain⟨p,hp,k1⟩:=w1;obtain⟨q,hq,k2⟩:=w2;obtain⟨hp,ap⟩:=(i1 p).1 hp;obtain⟨hq,aq⟩:=(i2 q).1 hq;rw[iE] at aq;generalize hA:m.value p=A at*;generalize hB:m.value q=B at*;have hAB:0<A-B:=by grind
     have e:A/(A-B)*(A-B)=A:=by grind
     generalize A/(A-B)=r at*;have r0:0<=r:=(ig hAB).1 (by rw[e];exact cM ap);have r1:r<=1:=by
      have:=(ig (s:=1-r) hAB).1 (by grind);grind
     have hz:=hp.seg hq r0 r1;have hv:m.value (ba p q r)=0:=by rw[kt,hA,hB];grind
     have hv2:l.value (ba p q r)=0:=by rw[kt,k1,k2];grind
     have hmem:ba p q r∈P:=by
      rcases v0 with h|h
      ·exact absurd h hs
      ·exact h _ hv2 hv
     have c3:=PQ P q1 q2 q3 ⟨_,hmem,sk.2 hz,by
      rw[<-nK,sk,i1];rintro ⟨_,h⟩;rw[hv] at h;grind,by
      rw[<-nK,sk,i2];rintro ⟨_,h⟩;rw[iE,hv] at h;grind⟩
     omega
    ·rw[Tr.cnt_zero h4 hy g2 w2];omega
   ·rw[Tr.cnt_zero h3 hx g1 w1];omega
def Ru(l:ab):l.rev.rev=l:=by cases l;simp[ab.rev]
def ab.same.symm{l m:ab}(h:l.same m):m.same l:=by
 rcases h with rfl|rfl
 ·exact .inl J
 ·exact .inr (Ru l).symm
def ab.same.trans{l m n:ab}(h:l.same m)(k:m.same n):l.same n:=by
 rcases h with rfl|rfl
 ·exact k
 ·rcases k with rfl|rfl
  ·exact .inr J
  ·exact .inl (Ru l)
def o9(K:List ab)(t:Tr):Prop:=t.all fun n=> ∃m∈K,m.same n
def Ai(l m:ab):aa:=l.at (-(l.cutC m/l.cutK m))
def FP{l m:ab}(hl:l.ok)(hm:m.ok){p:aa}(h1:l.value p=0)(h2:m.value p=0):l.same m\/p=Ai l m:=by
 obtain⟨t,rfl⟩:=Dt hl.ne h1;rw[oc] at h2;by_cases hk:l.cutK m=0
 ·left
  have hc:l.cutC m=0:=by rw[hk] at h2;grind
  rcases Gs hm hl (fun s=>by rw[oc,hk,hc];grind) with h|h
  ·exact .inl h
  ·exact .inr h
 ·right
  unfold Ai;congr 1;grind
def o9.covers{K:List ab}(hK: ∀m∈K,m.ok){l:ab}(hl:l.ok): ∀{t:Tr},o9 K t->QM (K.map (Ai l)) l t
 | .leaf _,_=>trivial
 | .node n x y,⟨⟨m,hm,hs⟩,h1,h2⟩=>by
  refine⟨?_,o9.covers hK hl h1,o9.covers hK hl h2⟩;by_cases h:l.same n
  ·exact .inl h
  ·right
   intro p k1 k2;rcases FP hl (hK m hm) k1 (qj hs.symm k2) with h3|h3
   ·exact absurd (h3.trans hs) h
   ·rw[h3];exact gN hm
def Kc(t:Tr):List ab->Nat
 |[]=>0
 |l::K=>t.cnt l+Kc t K
def Ks(n:ab):List ab->Nat
 |[]=>0
 |l::K=>(if l.same n then 1 else 0)+Ks n K
def L0{n:ab}{x y:Tr}: ∀K,Kc (.node n x y) K=Ks n K+(Kc x K+Kc y K)
 |[]=>rfl
 |l::K=>by
  have:=L0 (n:=n) (x:=x) (y:=y) K;show(Tr.node n x y).cnt l+Kc (.node n x y) K=_;rw[this,Tr.cnt];show _=(if l.same n then 1 else 0)+Ks n K+(x.cnt l+Kc x K+(y.cnt l+Kc y K));omega
def Q1{n m:ab}(hs:m.same n): ∀{K:List ab},m∈K->1<=Ks n K
 |[],h=>by cases h
 |l::K,h=>by
  show 1<=(if l.same n then 1 else 0)+Ks n K;rcases aW.1 h with rfl|h
  ·rw[if_pos hs];omega
  ·have:=Q1 hs h;omega
def Ko{K:List ab}: ∀{t:Tr},o9 K t->t.size<=Kc t K
 | .leaf _,_=>bT _
 | .node n x y,⟨⟨m,hm,hs⟩,h1,h2⟩=>by
  have a:=Ko h1;have b:=Ko h2;have c:=Q1 hs hm;rw[L0,Tr.size];omega
def M7{t:Tr}{B:Nat}: ∀{K:List ab},(∀l∈K,t.cnt l<=B)->Kc t K<=K.length*B
 |[],_=>bT _
 |l::K,h=>by
  have:=M7 (t:=t) (B:=B) (K:=K) fun m hm=>h m (aZ _ hm);have:=h l aQ;show t.cnt l+Kc t K<=(K.length+1)*B;rw[gS];omega
def Tr.size_le{K:List ab}(hK: ∀m∈K,m.ok){t:Tr}{c:aG}(hr:t.Red c)(ht:t.all ab.ok)(hc:d8 c)(h:o9 K t):t.size<=K.length*(1+K.length):=by
 refine eY (Ko h) (M7 fun l hl=>?_);refine eY (Tr.cnt_le (hK l hl) hr ht hc (h.covers hK (hK l hl))) ?_;have:=List.countP_le_length (p:=rh c) (l:=K.map (Ai l));rw[aJ] at this;omega
def o9.restrict{K:List ab}{t:Tr}(h:o9 K t)(c:aG):o9 K (t.restrict c):=t.restrict_all _ c h
def Tr.chooseL(op:Int)(b:Bool)(t:Tr)(c:List ab):Tr:=
 if op=1/\b=true then .leaf true
 else if(op=2\/op=3)/\b=false then .leaf false
 else if(op=3\/op=4)/\b=true then(t.restrictL c).compl else t.restrictL c
def Tr.mergeL(op:Int):Tr->Tr->List ab->Tr
 | .leaf b,u,c=>u.chooseL op b c
 | .node l x y,u,c=>if Gj c l=1 then x.mergeL op u c else if Gj c l= -1 then y.mergeL op u c else joinQ l (x.mergeL op u (tN (c++[l]))) (y.mergeL op u (tN (c++[l.rev])))
structure Gen (L:List ab) (a b:Tr):Prop where
 oa:a.all ab.ok
 ob:b.all ab.ok
 ok: ∀l∈L,l.ok
 la: ∀l∈a.lns,l∈L
 lb: ∀l∈b.lns,l∈L
def fp(x:Rat):List Rat->List Rat
 |[]=>[x]
 |u::t=>if u<x then u::fp x t else if u=x then u::t else x::u::t
def K7(l:List Rat):List Rat:=l.foldl (fun out x=>fp x out) []
def jh:List Rat->List Rat
 |a::b::t=>(a+b)/2::jh (b::t)
 |_=>[]
def gH:List Rat->List Rat
 |[]=>[0]
 |a::t=>(a-1)::(jh (a::t)++[(a::t).getLast (by simp)+1])
def xm{x y:Rat}: ∀{l:List Rat},y∈fp x l↔y=x\/y∈l
 |[]=>by simp[fp]
 |u::t=>by
  rw[fp];split
  ·rw[aW,xm (l:=t),aW];grind
  ·split
   ·rename_i h;subst h;simp
   ·simp
def CT{x:Rat}: ∀{l:List Rat},l.Pairwise (· < ·)->(fp x l).Pairwise (· < ·)
 |[],_=>by simp[fp]
 |u::t,h=>by
  rw[bK] at h;rw[fp];split
  ·rename_i hu
   rw[bK];refine⟨fun y hy=>?_,CT h.2⟩;rcases xm.1 hy with rfl|hy
   ·exact hu
   ·exact h.1 y hy
  ·rename_i hu
   split
   ·rw[bK];exact h
   ·rename_i hn
    have hx:x<u:=by grind
    rw[bK,bK];refine⟨fun y hy=>?_,h⟩;rcases aW.1 hy with rfl|hy
    ·exact hx
    ·have:=h.1 y hy;grind
def NC: ∀{l:List Rat} (h:l.Pairwise (· < ·)) (hn:l≠[]),∀y∈l,y<=l.getLast hn
 |[a],_,_,y,hy=>by rw[aV] at hy;subst hy;exact fZ
 |a::b::t,h,_,y,hy=>by
  rw[bK] at h;rw[List.getLast_cons (by simp)];have ih:=NC h.2 (by simp);rcases aW.1 hy with rfl|hy
  ·have:=h.1 b aQ
   have:=ih b aQ;grind
  ·exact ih y hy
def OK:List ab->List Rat
 |[]=>[]
 |a::t=>(if a.b=0 then [a.base.x] else [])++(t.filterMap (fun b=>if crossI a b=0 then none else some (gg a b).x)++OK t)
def yA(a:ab)(x:Rat):Rat:= -(((a.a:Rat)*x+(a.c:Rat))/(a.b:Rat))
def LQ(l:List ab)(x:Rat):List Rat:=l.filterMap fun a=>if a.b=0 then none else some (yA a x)
def NF(l:List ab):List aa:=(gH (K7 (OK l))).flatMap fun x=>(gH (K7 (LQ l x))).map fun y=>⟨x,y⟩
def aHX(l:ab)(p:aa):ab:=if 0<l.value p then l else l.rev
def i8(out:List Rat)(s:av):List Rat:=if s.nh then(if s.nl then out else fp s.lo out) else fp s.hi (if s.nl then out else fp s.lo out)
def gP(l:List av):List Rat:=l.foldl i8 []
def Db:List av->Rat->Int
 |[],_=>0
 |s::t,x=>
  let a:=if s.nl then 1 else cg x s.lo
  let b:=if s.nh then-1 else cg x s.hi
  if 0<a/\b<0 then 2 else if(a=0/\b<=0)\/(b=0/\0<=a) then 1 else Db t x
def oo(l:List av)(x:Rat):Bool:=decide (Db l x=2)
def gE(cuts:List Rat)(i:Nat):av:=⟨if i=0 then 0 else cuts.getD (i-1) 0,if i<cuts.length then cuts.getD i 0 else 0,decide (i=0),decide (i=cuts.length)⟩
def rg(v w:av):av:=⟨v.lo,w.hi,v.nl,w.nh⟩
def i4(cuts:List Rat)(marks:List Bool):Nat->List av
 |0=>[]
 |k+1=>
  let out:=i4 cuts marks k
  if marks.getD k false then
   (if 0<k/\marks.getD (k-1) false=true then(match out.getLast? with
    |some v=>out.dropLast++[rg v (gE cuts k)]
    |none=>out++[gE cuts k]) else out++[gE cuts k])
  else out
def mC(cuts:List Rat)(marks:List Bool):List av:=i4 cuts marks marks.length
def JQ(op:Int)(x y:Bool):Bool:=if op=2 then x&&y else if op=3 then x&&!y else if op=4 then x !=y else x||y
def jg(op:Int)(a b:List av):List av:=mC (gP (a++b)) ((gH (gP (a++b))).map fun t=>JQ op (oo a t) (oo b t))
def vj(l m:ab)(side:Int):List av:=
 if crossI l m=0 then(if(m.value l.base).num.sign=side then [av.all] else [])
 else if(m.value (l.at (cB l (gg l m)+1))).num.sign=side then [⟨cB l (gg l m),0,false,true⟩] else [⟨0,cB l (gg l m),true,false⟩]
def vX(l m:ab):Bool:=decide (crossI l m=0/\(m.value l.base).num.sign=0)
def jI(f:aE)(m:ab)(side:Int):List aE:=if vX f.l m then [] else(jg 2 [f.v] (vj f.l m side)).map fun v=>⟨f.l,v⟩
def NO(l:List av):(gP l).Pairwise (· < ·)/\ ∀y∈gP l,∃s∈l,(s.nl=false/\y=s.lo)\/(s.nh=false/\y=s.hi):=by
 have key: ∀(l:List av) (o:List Rat),o.Pairwise (· < ·)->(l.foldl i8 o).Pairwise (· < ·)/\ ∀y∈l.foldl i8 o,y∈o\/ ∃s∈l,(s.nl=false/\y=s.lo)\/(s.nh=false/\y=s.hi):=by
  intro l
  induction l with
  |nil=>intro o h;exact⟨h,fun y hy=> .inl hy⟩
  |cons s t ih=>
   intro o h;have h1:(i8 o s).Pairwise (· < ·)/\ ∀y∈i8 o s,y∈o\/(s.nl=false/\y=s.lo)\/(s.nh=false/\y=s.hi):=by
    unfold i8
    cases e1:s.nl<;>cases e2:s.nh<;>simp only[if_true,dJ,if_false]
    ·refine⟨CT (CT h),fun y hy=>?_⟩
     rcases xm.1 hy with h|h
     ·exact .inr (.inr ⟨trivial,h⟩)
     ·rcases xm.1 h with h|h
      ·exact .inr (.inl ⟨trivial,h⟩)
      ·exact .inl h
    ·refine⟨CT h,fun y hy=>?_⟩
     rcases xm.1 hy with h|h
     ·exact .inr (.inl ⟨trivial,h⟩)
     ·exact .inl h
    ·refine⟨CT h,fun y hy=>?_⟩
     rcases xm.1 hy with h|h
     ·exact .inr (.inr ⟨trivial,h⟩)
     ·exact .inl h
    ·exact⟨h,fun y hy=> .inl hy⟩
   obtain⟨k1,k2⟩:=ih (i8 o s) h1.1;refine⟨k1,fun y hy=>?_⟩;rcases k2 y hy with h2|⟨q,hq,h2⟩
   ·rcases h1.2 y h2 with h3|h3
    ·exact .inl h3
    ·exact .inr ⟨s,aQ,h3⟩
   ·exact .inr ⟨q,aZ _ hq,h2⟩
 have:=key l [] List.Pairwise.nil;refine⟨this.1,fun y hy=>?_⟩;rcases this.2 y hy with h|h
 ·cases h
 ·exact h
structure I8 (cuts:List Rat) (v:av):Prop where
 z:jx v
 lo:v.nl=true\/v.lo∈cuts
 hi:v.nh=true\/v.hi∈cuts
def aBs{cuts:List Rat}{i:Nat}(h:i<=cuts.length):I8 cuts (gE cuts i):=by
 unfold gE;refine⟨⟨fun e=>?_,fun e=>?_⟩,?_,?_⟩
 ·simp only[decide_eq_true_eq] at e;simp[e]
 ·simp only[decide_eq_true_eq] at e;simp[e]
 ·by_cases h0:i=0
  ·left;simp[h0]
  ·right
   simp only[if_neg h0];rw[aK,aX (by omega)];exact gV _
 ·by_cases h0:i=cuts.length
  ·left;simp[h0]
  ·right
   simp only[if_pos (show i<cuts.length by omega)];rw[aK,aX (by omega)];exact gV _
def TO{cuts:List Rat}{marks:List Bool}: ∀{k:Nat},k<=cuts.length+1-> ∀v∈i4 cuts marks k,I8 cuts v
 |0,_,v,hv=>by cases hv
 |k+1,hk,v,hv=>by
  have ih:=TO (cuts:=cuts) (marks:=marks) (k:=k) (by omega);have hg:=aBs (cuts:=cuts) (i:=k) (by omega);rw[i4] at hv;split at hv
  ·split at hv
   ·split at hv
    ·rename_i w hw
     rcases bW.1 hv with h|h
     ·exact ih v ((sW _).subset h)
     ·rw[aV] at h;subst h
      have hw':=ih w (pL hw);exact⟨⟨hw'.z.1,hg.z.2⟩,hw'.lo,hg.hi⟩
    ·rcases bW.1 hv with h|h
     ·exact ih v h
     ·rw[aV] at h;subst h;exact hg
   ·rcases bW.1 hv with h|h
    ·exact ih v h
    ·rw[aV] at h;subst h;exact hg
  ·exact ih v hv
def Qd{l:List Rat}:(gH l).length=l.length+1:=by
 have key: ∀(l:List Rat) (a:Rat),(jh (a::l)).length=l.length:=by
  intro l
  induction l with
  |nil=>intro a;rfl
  |cons b t ih=>intro a;rw[jh,bV,ih b,bV]
 cases l with
 |nil=>rfl
 |cons a t=>rw[gH,bV,aR,key];simp
def awF{op:Int}{a b:List av}: ∀v∈jg op a b,I8 (gP (a++b)) v:=fun v hv=>by
 unfold jg mC at hv;refine TO ?_ v hv;rw[aJ,Qd];omega
structure pz (f:aE):Prop where
 lb:LB f.l
 ok:f.l.ok
 z:jx f.v
 lo:BQ f.v.lo 1200
 hi:BQ f.v.hi 1200
theorem BQ.zero1200:BQ (0:Rat) 1200:=BQ.mono (k:=1) ⟨by decide,by decide⟩ (by decide)
def Z1{l m:ab}(hl:LB l)(hm:LB m)(hlo:l.ok){side:Int}: ∀v∈vj l m side,jx v/\BQ v.lo 1200/\BQ v.hi 1200:=fun v hv=>by
 unfold vj at hv;split at hv
 ·split at hv
  ·rw[aV] at hv;subst hv;exact⟨jx.all,BQ.zero1200,BQ.zero1200⟩
  ·cases hv
 ·rename_i hc
  have:=TE hlo.ne hc;split at hv
  ·rw[aV] at hv;subst hv;exact⟨⟨fun h=>(by cases h),fun _=>J⟩,this,BQ.zero1200⟩
  ·rw[aV] at hv;subst hv;exact⟨⟨fun _=>J,fun h=>(by cases h)⟩,BQ.zero1200,this⟩
def Gm{f:aE}{m:ab}(h:pz f)(hm:LB m){side:Int}: ∀g∈jI f m side,pz g/\g.l=f.l/\vX f.l m=false:=fun g hg=>by
 unfold jI at hg;split at hg
 ·cases hg
 ·rename_i ho
  obtain⟨v,hv,rfl⟩:=bJ.1 hg;have hi:=awF v hv;have bd: ∀y∈gP ([f.v]++vj f.l m side),BQ y 1200:=fun y hy=>by
   obtain⟨s,hs,h1⟩:=(NO _).2 y hy;rcases bW.1 hs with hs|hs
   ·rw[aV] at hs;subst hs
    rcases h1 with⟨_,rfl⟩|⟨_,rfl⟩
    ·exact h.lo
    ·exact h.hi
   ·have:=Z1 h.lb hm h.ok s hs
    rcases h1 with⟨_,rfl⟩|⟨_,rfl⟩
    ·exact this.2.1
    ·exact this.2.2
  refine⟨⟨h.lb,h.ok,hi.z,?_,?_⟩,J,by simpa using ho⟩
  ·rcases hi.lo with e|e
   ·rw[hi.z.1 e];exact BQ.zero1200
   ·exact bd _ e
  ·rcases hi.hi with e|e
   ·rw[hi.z.2 e];exact BQ.zero1200
   ·exact bd _ e
def kB(acc:aa->Bool):Nat->List aE->List ab->Tr
 |_,[],c=> .leaf (acc (AF c c))
 |0,_::_,_=> .leaf false
 |n+1,f::t,c=> .node f.l (kB acc n ((f::t).flatMap fun g=>jI g f.l 1) (c++[f.l])) (kB acc n ((f::t).flatMap fun g=>jI g f.l (-1)) (c++[f.l.rev]))
def WQ{f g:aE}{m:ab}{side:Int}(h:g∈jI f m side):g.l=f.l:=by
 unfold jI at h;split at h
 ·cases h
 ·obtain⟨v,_,rfl⟩:=bJ.1 h;rfl
def rE{acc:aa->Bool}{P:ab->Prop}: ∀{n:Nat} {l:List aE} {c:List ab},(∀f∈l,P f.l)->(kB acc n l c).all P
 |n,[],c,_=>by unfold kB;trivial
 |0,_::_,_,_=>by unfold kB;trivial
 |n+1,f::t,c,h=>by
  rw[kB];refine⟨h f aQ,rE fun g hg=>?_,rE fun g hg=>?_⟩<;>
  ·obtain⟨q,hq,hg⟩:=cN.1 hg
   rw[WQ hg];exact h q hq
def Dw{acc:aa->Bool}: ∀{n:Nat} {l:List aE} {c:List ab},(kB acc n l c).depth<=n
 |n,[],c=>by unfold kB;exact bT _
 |0,_::_,_=>by unfold kB;exact bT _
 |n+1,f::t,c=>by
  rw[kB,Tr.depth];have h1:=Dw (acc:=acc) (n:=n) (l:=(f::t).flatMap fun g=>jI g f.l 1) (c:=c++[f.l]);have h2:=Dw (acc:=acc) (n:=n) (l:=(f::t).flatMap fun g=>jI g f.l (-1)) (c:=c++[f.l.rev]);omega
def n9(n:Nat)(l:List aE):Prop:= ∃K:List ab,K.length<=n/\ ∀f∈l,∃m∈K,m.same f.l
def an3{m:ab}(hm:m.Ne):m.value m.base=0:=by
 have h:=pn hm 0;rw[<-tF,i6] at h;grind
def ayN{l m:ab}(h:l.same m)(hm:m.Ne):vX m l=true:=by
 unfold vX;rw[decide_eq_true_iff];refine⟨?_,?_⟩
 ·rcases h with rfl|rfl
  ·unfold crossI;omega
  ·unfold crossI ab.rev
   show(-l.a)*l.b-l.a*(-l.b)=0;grind
 ·rw[jA]
  exact qj h.symm (an3 hm)
def n9.split{n:Nat}{f:aE}{t:List aE}(h:n9 (n+1) (f::t))(hok: ∀g∈f::t,pz g){side:Int}:n9 n ((f::t).flatMap fun g=>jI g f.l side):=by
 obtain⟨K,hK,hs⟩:=h;refine⟨K.filter fun m=>!decide (m.same f.l),?_,fun g hg=>?_⟩
 ·obtain⟨m,hm,hm2⟩:=hs f aQ
  have:(K.filter fun m=>!decide (m.same f.l)).length<K.length:=by
   refine pT.2 ⟨m,hm,by simp[hm2]⟩
  omega
 ·obtain⟨q,hq,hg⟩:=cN.1 hg
  obtain⟨_,e,ho⟩:=Gm (hok q hq) (hok f aQ).lb g hg;obtain⟨m,hm,hm2⟩:=hs q hq;refine⟨m,jJ.2 ⟨hm,?_⟩,by rw[e];exact hm2⟩;simp only[iK,decide_eq_false_iff_not];intro h;have:=ayN (h.symm.trans hm2) (hok q hq).ok.ne;rw[this] at ho;cases ho
def Y4{p q r:Bool}{a b c:Nat}(h:Nat.gcd a b≠0):ab.ok ⟨zv p (a/Nat.gcd (Nat.gcd a b) c),zv q (b/Nat.gcd (Nat.gcd a b) c),zv r (c/Nat.gcd (Nat.gcd a b) c)⟩:=by
 have hg:0<Nat.gcd (Nat.gcd a b) c:=kS _ (iY h);have d0:Nat.gcd (Nat.gcd a b) c∣Nat.gcd a b:=kK _ _;have d1:Nat.gcd (Nat.gcd a b) c∣a:=qN d0 (kK _ _);have d2:Nat.gcd (Nat.gcd a b) c∣b:=qN d0 (lY _ _);have d3:Nat.gcd (Nat.gcd a b) c∣c:=lY _ _;refine⟨?_,?_⟩
 ·rintro ⟨h1,h2⟩
  have h1':=congrArg Int.natAbs h1;have h2':=congrArg Int.natAbs h2;simp only[q7,Int.natAbs_zero] at h1' h2';have e1:=Nat.div_mul_cancel d1;have e2:=Nat.div_mul_cancel d2;rw[h1',kY] at e1;rw[h2',kY] at e2;exact h (by rw[<-e1,<-e2];rfl)
 ·simp only[q7]
  rw[Nat.gcd_div d1 d2,Nat.gcd_div d0 d3,Nat.div_self hg]
def KW(p:Bool)(a g:Nat):(zv p (a/g)).natAbs<=a:=by rw[q7];exact kU ..
def PF.eq{P:Program}{f:FuncId}{vs:List DV}{r r':DV}(h:PF GB P f vs r)(e:r=r'):PF GB P f vs r':=e▸h
def iP(m n:Int):aa:=⟨(m:Rat),(n:Rat)⟩
theorem Cb{m:Int}{k:Nat}(h:m.natAbs<2^k):BI m k:=⟨h⟩
theorem jt{m:Int}{k:Nat}(h:m.natAbs<=1000)(hk:10<=k):BI m k:=⟨dR (show m.natAbs<2^10 by omega) (bS (by decide) hk)⟩
instance aB.int (m n:Int) (i:Nat) [h:BI m i] [k:BI n i]:aB (iP m n) (i+1):=⟨inferInstanceAs (BQ (m:Rat) (i+1)),inferInstanceAs (BQ (n:Rat) (i+1))⟩
def uL{q:Rat}{k:Int}(h:q=(k:Rat)):eQ q=eQ (k:Rat):=by rw[h]
def ePI{p:aa}{m n:Int}(h1:p.x=(m:Rat))(h2:p.y=(n:Rat)):eP p=eP (iP m n):=by
 obtain⟨x,y⟩:=p;simp only at h1 h2;subst h1 h2;rfl
def gt(a b c:Int):ab:=
 ⟨zv (decide (a<0)) (a.natAbs/Nat.gcd (Nat.gcd a.natAbs b.natAbs) c.natAbs),zv (decide (b<0)) (b.natAbs/Nat.gcd (Nat.gcd a.natAbs b.natAbs) c.natAbs),zv (decide (c<0)) (c.natAbs/Nat.gcd (Nat.gcd a.natAbs b.natAbs) c.natAbs)⟩
def Z9{a b c:Int}(h: ¬(a=0/\b=0)):(gt a b c).ok:=
 Y4 fun e=>h ⟨kR.1 (lL e),kR.1 (lU e)⟩
def Rb(a b c:Int):(gt a b c).a.natAbs<=a.natAbs/\(gt a b c).b.natAbs<=b.natAbs/\(gt a b c).c.natAbs<=c.natAbs:=⟨KW ..,KW ..,KW ..⟩
def nD{m n:Int}(hm:m.natAbs<=1000)(hn:n.natAbs<=1000):PF GB prog 47 [.v (.int .i64 m), .v (.int .i64 n)] (eP (iP m n)):=by
 refine fn func47 J J ntmps47 J J (fun C=>?_);refine cl J (zz (n:=m) (by omega) (by omega)) J<|cl J (zz (n:=n) (by omega) (by omega)) J<|?_;exact rz J J
def I5{m n m' n' k:Int}(hm:m.natAbs<=1000)(hn:n.natAbs<=1000)(hm':m'.natAbs<=1000)(hn':n'.natAbs<=1000)(hk:k.natAbs<=1000):PF GB prog 35 [eP (iP m n),eQ (k:Rat),eP (iP m' n')] (eP (iP (m+k*m') (n+k*n'))):=by
 haveI:=jt (k:=10) hm (by decide);haveI:=jt (k:=10) hn (by decide);haveI:=jt (k:=10) hm' (by decide);haveI:=jt (k:=10) hn' (by decide);haveI:=jt (k:=10) hk (by decide);exact PF.eq (Nz (p:=iP m n) (q:=iP m' n') (c:=(k:Rat))) (ePI (by show(m:Rat)+(k:Rat)*(m':Rat)=_;push_cast;rfl) (by show(n:Rat)+(k:Rat)*(n':Rat)=_;push_cast;rfl))
def VZ{m n m' n':Int}(hm:m.natAbs<=1000)(hn:n.natAbs<=1000)(hm':m'.natAbs<=1000)(hn':n'.natAbs<=1000):PF GB prog 162 [eP (iP m n),eP (iP m' n')] (eP (iP (m-m') (n-n'))):=by
 refine fn func162 J J ntmps162 J J (fun C=>?_);refine cl J (zz (n:= -1) (by decide) (by decide)) J<|cl J (I5 (m:=m) (n:=n) (m':=m') (n':=n') (k:= -1) hm hn hm' hn' (by decide)) J<|?_;exact rz J (by rw[show m-m'=m+ -1*m' by omega,show n-n'=n+ -1*n' by omega];rfl)
def KI{m n m' n':Int}(hm:m.natAbs<=1000)(hn:n.natAbs<=1000)(hm':m'.natAbs<=1000)(hn':n'.natAbs<=1000):PF GB prog 51 [eP (iP m n),eP (iP m' n')] (.v (.bool (decide (m=m'/\n=n')))):=by
 haveI:=jt (k:=10) hm (by decide);haveI:=jt (k:=10) hn (by decide);haveI:=jt (k:=10) hm' (by decide);haveI:=jt (k:=10) hn' (by decide);refine fn func51 J J ntmps51 J J (fun C=>?_);refine cl J (Fl (a:=(m:Rat)) (b:=(m':Rat))) J<|?_;refine cs 11 J J J (fun hg11=>?_) (fun hg11=>?_)
 .
  refine cl J (Fl (a:=(n:Rat)) (b:=(n':Rat))) J<|?_;exact rz J (by rw[wc] at hg11;have e:m=m':=(by exact_mod_cast hg11);exact congrArg (fun z=>DV.v (.bool z)) (decide_eq_decide.2 (by rw[wc,nM];simp[e])))
 .
  exact rz J (by rw[wc] at hg11;have e: ¬m=m':=(fun e=>hg11 (by rw[e]));show DV.v (.bool false)=DV.v (.bool _);rw[decide_eq_false (fun h=>e h.1)])
def Qz{a b k:Nat}(ha:a<k)(hb:b<k):Nat.gcd a b<k:=by
 rcases fR a with rfl|p
 ·simpa using hb
 ·exact gU (Nat.gcd_le_left b p) ha
def aCl{a b c:Int}{i:Nat}(ha:BI a i)(hb:BI b i)(hc:BI c i)(hi:i<=100000000)(h0: ¬(a=0/\b=0)):PF GB prog 163 [eI a,eI b,eI c] (.tp [eL (gt a b c), .v (.bool true)]):=by
 have hgn:Nat.gcd a.natAbs b.natAbs≠0:=fun h=>h0 ⟨kR.1 (lL h),kR.1 (lU h)⟩;have hgp:0<Nat.gcd (Nat.gcd a.natAbs b.natAbs) c.natAbs:=kS _ (iY hgn);haveI hb1:BN (Nat.gcd a.natAbs b.natAbs) i:=⟨Qz ha.h hb.h⟩;haveI hb2:BN (Nat.gcd (Nat.gcd a.natAbs b.natAbs) c.natAbs) i:=⟨Qz hb1.h hc.h⟩;refine fn func163 J J ntmps163 J J (fun C=>?_);refine cl J (HW (a:=a.natAbs) (b:=b.natAbs) (by omega) (by omega)) J<|?_;refine br J J J (fun hc22=>?_) (fun hc22=>?_)
 .
  exact absurd hc22 (by rw[aJ];intro h;exact hgn (uX.1 (by omega)))
 .
  refine cl J (HW (a:=Nat.gcd a.natAbs b.natAbs) (b:=c.natAbs) (by omega) (by omega)) J<|cl J (Bd (a:=a.natAbs) (b:=Nat.gcd (Nat.gcd a.natAbs b.natAbs) c.natAbs) hgp (by omega) (by omega)) J<|?_;refine cl J (Bd (a:=b.natAbs) (b:=Nat.gcd (Nat.gcd a.natAbs b.natAbs) c.natAbs) hgp (by omega) (by omega)) J<|cl J (Bd (a:=c.natAbs) (b:=Nat.gcd (Nat.gcd a.natAbs b.natAbs) c.natAbs) hgp (by omega) (by omega)) J<|?_;refine cl J (lf (m:=a.natAbs/(Nat.gcd (Nat.gcd a.natAbs b.natAbs) c.natAbs)) (neg:=decide (a<0))) J<|cl J (lf (m:=b.natAbs/(Nat.gcd (Nat.gcd a.natAbs b.natAbs) c.natAbs)) (neg:=decide (b<0))) J<|?_;refine cl J (lf (m:=c.natAbs/(Nat.gcd (Nat.gcd a.natAbs b.natAbs) c.natAbs)) (neg:=decide (c<0))) J<|?_;exact rz J J
def jH(n n':Int):Int:= -(n'-n)
def kr(m m':Int):Int:=m'-m
def qA(m n m' n':Int):Int:= -(jH n n'*m+kr m m'*n)
def i5(m n m' n':Int):ab:=gt (jH n n') (kr m m') (qA m n m' n')
def EA{a b:Int}(ha:a.natAbs<=2000)(hb:b.natAbs<=1000):(a*b).natAbs<=2000000:=by
 rw[jU];exact lJ ha hb
def atX{m n m' n':Int}(hm:m.natAbs<=1000)(hn:n.natAbs<=1000)(hm':m'.natAbs<=1000)(hn':n'.natAbs<=1000)(h0: ¬(m=m'/\n=n')):PF GB prog 111 [eP (iP m n),eP (iP m' n')] (.tp [eL (i5 m n m' n'), .v (.bool true)]):=by
 obtain⟨a,hA⟩: ∃a,a=jH n n':=⟨_,rfl⟩;obtain⟨b,hB⟩: ∃b,b=kr m m':=⟨_,rfl⟩;have hA':a= -(n'-n):=hA;have hB':b=m'-m:=hB;obtain⟨c,hC⟩: ∃c,c= -(a*m+b*n):=⟨_,rfl⟩;have e1:=EA (a:=a) (b:=m) (by omega) hm;have e2:=EA (a:=b) (b:=n) (by omega) hn;haveI hm0:=jt (k:=10) hm (by decide);haveI hn0:=jt (k:=10) hn (by decide);haveI ha:BI a 30:=Cb (by omega);haveI hb:BI b 30:=Cb (by omega);haveI hc:BI c 30:=Cb (by omega);have hthr:i5 m n m' n'=gt a b c:=by rw[hC,hA,hB];rfl
 have hne: ¬(a=0/\b=0):=fun h=>h0 (by omega);refine fn func111 J J ntmps111 J J (fun C=>?_);refine cl J (VZ (m:=m') (n:=n') (m':=m) (n':=n) hm' hn' hm hn) J<|cl J (PF.eq (CO (q:=(((n'-n):Int):Rat))) (uL (k:=a) (by rw[hA'];push_cast;rfl))) J<|?_;refine cl J (PF.eq (kh (a:=(a:Rat)) (b:=(m:Rat))) (uL (k:=a*m) (by push_cast;rfl))) J<|cl J (PF.eq (by haveI:BI (m'-m) 30:=(by rw[<-hB'];exact hb);exact kh (a:=(((m'-m):Int):Rat)) (b:=(n:Rat))) (uL (k:=b*n) (by rw[hB'];push_cast;rfl))) J<|?_;refine cl J (PF.eq (Cz (a:=((a*m:Int):Rat)) (b:=((b*n:Int):Rat))) (uL (k:=a*m+b*n) (by push_cast;rfl))) J<|cl J (PF.eq (CO (q:=((a*m+b*n:Int):Rat))) (uL (k:=c) (by rw[hC];push_cast;rfl))) J<|?_;refine cl J (kH (q:=(a:Rat))) J<|cl J (kH (q:=(((m'-m):Int):Rat))) J<|cl J (PF.eq (sG (a:=1) (b:=1)) J) J<|?_;refine cl J (kH (q:=(c:Rat))) J<|cl J (PF.eq (sG (a:=1) (b:=1)) J) J<|cl (fu:=⟨1⟩) J (lf (neg:=false) (m:=1)) J<|?_;refine ao 40 (.d (eQ ((1:Int):Rat))) J J ?_;refine gx J<|cl J (PF.eq (kh (a:=(a:Rat)) (b:=((1:Int):Rat))) (uL (k:=a) (by push_cast;grind))) J<|cl J (PF.eq (by haveI:BI (m'-m) 30:=(by rw[<-hB'];exact hb);exact kh (a:=(((m'-m):Int):Rat)) (b:=((1:Int):Rat))) (uL (k:=b) (by rw[hB'];push_cast;grind))) J<|?_;refine cl J (PF.eq (kh (a:=(c:Rat)) (b:=((1:Int):Rat))) (uL (k:=c) (by push_cast;grind))) J<|cl J (aCl (a:=a) (b:=b) (c:=c) ha hb hc (by decide) hne) J<|?_;exact rz J (by rw[hthr];rfl)
def XL{es:List Int}{a:Nat}(h:a<es.length):(es.map vI)[(a:Int).toNat]? =some (vI es[a]):=by simp[h]
def ayy:eP (iP 0 0)= .ag [.v (.bool false), .sl [], .sl [], .v (.bool false), .sl [], .sl []]:=by
 unfold eP iP;simp[EH,dD]
def au(es:List Int)(n:Int)(a:Nat):Nat×Nat:=
 if h:a<es.length then((if Int.tmod es[a] n<0 then Int.tmod es[a] n+n else Int.tmod es[a] n).toNat,a+1) else(0,a)
def jq{es:List Int}{n:Int}{a:Nat}(hn:1<=n):((au es n a).1:Int)<n:=by
 unfold au;split
 ·rename_i h
  have q2:=Int.tmod_lt_of_pos es[a] (show 0<n by omega);dsimp only;split<;>omega
 ·exact hn
def iq{es:List Int}{n:Int}{a:Nat}(ha:a<=es.length):(au es n a).2<=es.length:=by
 unfold au;split
 ·assumption
 ·exact ha
def pF(es:List Int)(a:Nat):(Int×Int)×Nat:=((((au es 9 a).1:Int)-4,((au es 9 (au es 9 a).2).1:Int)-4),(au es 9 (au es 9 a).2).2)
def x5{es:List Int}{a:Nat}(ha:a<=es.length):(pF es a).1.1.natAbs<=4/\(pF es a).1.2.natAbs<=4/\(pF es a).2<=es.length:=by
 have h1:=jq (es:=es) (n:=9) (a:=a) (by decide);have h2:=jq (es:=es) (n:=9) (a:=(au es 9 a).2) (by decide);have h3:=iq (n:=9) (iq (es:=es) (n:=9) ha);unfold pF;exact⟨by dsimp only;omega,by dsimp only;omega,h3⟩
def vF(es:List Int)(a:Nat):(Int×Int)×Nat:=if(pF es a).1.1=0/\(pF es a).1.2=0 then((1,0),(pF es a).2) else pF es a
def Ak{es:List Int}{a:Nat}(ha:a<=es.length):(vF es a).1.1.natAbs<=4/\(vF es a).1.2.natAbs<=4/\ ¬((vF es a).1.1=0/\(vF es a).1.2=0)/\(vF es a).2<=es.length:=by
 obtain⟨h1,h2,h3⟩:=x5 ha;unfold vF;split
 ·exact⟨show(1:Int).natAbs<=4 by decide,show(0:Int).natAbs<=4 by decide,show¬((1:Int)=0/\(0:Int)=0) by decide,h3⟩
 ·rename_i h;exact⟨h1,h2,h,h3⟩
def lF(es:List Int)(a:Nat):ab×Nat:=(i5 (pF es a).1.1 (pF es a).1.2 ((pF es a).1.1+1*(vF es (pF es a).2).1.1) ((pF es a).1.2+1*(vF es (pF es a).2).1.2),(vF es (pF es a).2).2)
def nA(es:List Int):Nat->Nat->Tr×Nat
 |0,a=>(.leaf (decide (((au es 2 a).1:Int)=1)),(au es 2 a).2)
 |d+1,a=>if((au es 4 a).1:Int)=0 then(.leaf (decide (((au es 2 (au es 4 a).2).1:Int)=1)),(au es 2 (au es 4 a).2).2) else
  (.node (lF es (au es 4 a).2).1 (nA es d (lF es (au es 4 a).2).2).1 (nA es d (nA es d (lF es (au es 4 a).2).2).2).1,(nA es d (nA es d (lF es (au es 4 a).2).2).2).2)
def nC{b:Nat}{es:List Int}(hes:es.length<=400){a:Nat}(ha:a<=es.length){n:Int}(hn:1<=n)(hn2:n<=1000):PM GB prog 7 (ip [none,some (.v (.int .i64 n))] b) b 70 [.sl (es.map vI), .v (.int .i64 (a:Nat))] (.v (.int .i64 ((au es n a).1:Nat))) [.sl (es.map vI), .v (.int .i64 ((au es n a).2:Nat))]:=by
 have hel:(es.map vI).length=es.length:=by simp
 refine ui func7 J J ntmps7 J J (fun C b m lo hmb=>?_);refine br J J J (fun hc15=>?_) (fun hc15=>?_)
 .
  have hf:au es n a=(0,a):=by unfold au;rw[dif_neg (by omega)]
  exact kg hmb J J (by rw[hf]<;>rfl) (by rw[hf]<;>rfl)
 .
  have hal:a<es.length:=by omega
  obtain⟨e,he⟩: ∃e,e=es[a]:=⟨_,rfl⟩;have q2:=Int.tmod_lt_of_pos e (show 0<n by omega);have q3: -n<Int.tmod e n:=by have:=Int.lt_tmod_of_pos e (show 0<n by omega);omega
  refine ix (fu:=⟨1⟩) _ J (XL hal) J<|?_;refine ao 25 (.d (vI e)) J (by rw[he]<;>rfl) ?_;refine gx (hv:=by simp only[ah];exact⟨⟨by omega,by kernel_rfl⟩,by omega⟩) J<|?_;refine br J J J (fun hc36=>?_) (fun hc36=>?_)
  .
   have hf:au es n a=((Int.tmod e n+n).toNat,a+1):=by unfold au;rw[dif_pos hal,<-he,if_pos hc36]
   exact kg hmb J J (by rw[hf];show DV.v (.int .i64 _)=DV.v (.int .i64 _);rw[qW (by omega)]) (by rw[hf]<;>rfl)
  .
   have hf:au es n a=((Int.tmod e n).toNat,a+1):=by unfold au;rw[dif_pos hal,<-he,if_neg hc36]
   exact kg hmb J J (by rw[hf];show DV.v (.int .i64 _)=DV.v (.int .i64 _);rw[qW (by omega)]) (by rw[hf]<;>rfl)
def Lh{b:Nat}{es:List Int}(hes:es.length<=400){a:Nat}(ha:a<=es.length):PM GB prog 48 (ip [none] b) b 70 [.sl (es.map vI), .v (.int .i64 (a:Nat))] (eP (iP (pF es a).1.1 (pF es a).1.2)) [.sl (es.map vI), .v (.int .i64 ((pF es a).2:Nat))]:=by
 have h1:=jq (es:=es) (n:=9) (a:=a) (by decide);have h2:=jq (es:=es) (n:=9) (a:=(au es 9 a).2) (by decide);refine ui func48 J J ntmps48 J J (fun C b m lo hmb=>?_);refine cm J (fun b=>(nC (n:=9) hes ha (by decide) (by decide))) J<|cm J (fun b=>(nC (n:=9) hes (iq ha) (by decide) (by decide))) J<|?_;refine cl J (nD (m:=((au es 9 a).1:Int)-4) (n:=((au es 9 (au es 9 a).2).1:Int)-4) (by omega) (by omega)) J<|?_;exact kg hmb J J J J
def O3{b:Nat}{es:List Int}(hes:es.length<=400){a:Nat}(ha:a<=es.length):PM GB prog 49 (ip [none] b) b 70 [.sl (es.map vI), .v (.int .i64 (a:Nat))] (eP (iP (vF es a).1.1 (vF es a).1.2)) [.sl (es.map vI), .v (.int .i64 ((vF es a).2:Nat))]:=by
 obtain⟨hm,hn,ha1⟩:=x5 ha;refine ui func49 J J ntmps49 J J (fun C b m lo hmb=>?_);refine cm (fu:=⟨9⟩) J (fun b=>(Lh hes ha)) J<|?_;refine ao 7 (.d (eP (iP 0 0))) J (by rw[ayy]<;>rfl) ?_;refine gx J<|cl J (KI (m:=(pF es a).1.1) (n:=(pF es a).1.2) (m':=0) (n':=0) (by omega) (by omega) (by decide) (by decide)) J<|?_;refine bd J J J (fun hc8=>?_) (fun hc8=>?_)
 .
  have hf:vF es a=((1,0),(pF es a).2):=by unfold vF;rw[if_pos hc8]
  refine cl J (nD (m:=1) (n:=0) (by decide) (by decide)) J<|?_;exact kg hmb J J (by rw[hf]<;>rfl) (by rw[hf])
 .
  have hf:vF es a=pF es a:=by unfold vF;rw[if_neg hc8]
  exact kg hmb J J (by rw[hf]<;>rfl) (by rw[hf])
abbrev ZP:=Int×Int
def ZP.q(p:ZP):aa:=iP p.1 p.2
def ZP.le(k:Nat)(p:ZP):Prop:=p.1.natAbs<=k/\p.2.natAbs<=k
def xe(p q:ZP):ZP:=(p.1+1*q.1,p.2+1*q.2)
def sF(u v:ZP):Int:=u.1*v.2-u.2*v.1
theorem PT{m n p q:Int}(hm:m.natAbs<=1000)(hn:n.natAbs<=1000)(hp:p.natAbs<=1000)(hq:q.natAbs<=1000)(h: ¬(p=m/\q=n)):LB (i5 m n p q)/\(i5 m n p q).ok:=by
 have e1:(jH n q).natAbs<=2000:=by unfold jH;omega
 have e2:(kr m p).natAbs<=2000:=by unfold kr;omega
 have e3:=EA e1 hm;have e4:=EA e2 hn;have e5:(qA m n p q).natAbs<=4000000:=by unfold qA;omega
 unfold i5;obtain⟨k1,k2,k3⟩:=Rb (jH n q) (kr m p) (qA m n p q);have hb:(2:Nat)^96=79228162514264337593543950336:=by decide
 refine⟨⟨⟨?_,?_,?_⟩⟩,Z9 ?_⟩
 ·rw[hb];omega
 ·rw[hb];omega
 ·rw[hb];omega
 ·unfold jH kr;omega
def bj(v w:ZP):aE:=⟨i5 v.1 v.2 w.1 w.2,⟨cB (i5 v.1 v.2 w.1 w.2) v.q,cB (i5 v.1 v.2 w.1 w.2) w.q,false,false⟩⟩
def dP(r:List ZP)(i:Nat):ZP:=r.getD ((i+1)%r.length) (0,0)
def jr(r:List ZP):Nat->List aE
 |0=>[]
 |k+1=>jr r k++[bj (r.getD k (0,0)) (dP r k)]
def eO(r:List ZP):List aE:=jr r r.length
structure cp (r:List ZP):Prop where
 n3:3<=r.length
 n6:r.length<=6
 le: ∀p∈r,ZP.le 100 p
 ne: ∀i<r.length,r.getD i (0,0)≠dP r i
def zy{r:List ZP}{i:Nat}(h:i<r.length):r.getD i (0,0)∈r:=by
 rw[aK,aX h];exact gV h
def BV{r:List ZP}{i:Nat}(h:i<r.length):dP r i∈r:=zy (dW _ (by omega))
theorem BQ.int1200{m:Int}(h:m.natAbs<=1000):BQ (m:Rat) 1200:=by
 haveI:BI m 11:=jt h (by decide);exact BQ.mono (inferInstance:BQ (m:Rat) 12) (by decide)
theorem N6{l:ab}(hl:LB l)(ho:l.ok){m n:Int}(hm:m.natAbs<=1000)(hn:n.natAbs<=1000):BQ (cB l (iP m n)) 1200:=by
 haveI:=jt (k:=11) hm (by decide);haveI:=jt (k:=11) hn (by decide);have hd:=z8 ho.ne;have hA:BI (l.a*l.a+l.b*l.b) _:=inferInstance;have hB:BI (m*l.b-n*l.a) _:=inferInstance;have hA':=EK (j:=1200) hA (by decide);have hB':=EK (j:=1200) hB (by decide);have e1:l.dir.dot l.dir=((l.a*l.a+l.b*l.b:Int):Rat):=by
  rw[pV,dZ,dZ];simp only[ab.dir,aa.dot];grind
 have e2:(iP m n).dot l.dir=((m*l.b-n*l.a:Int):Rat):=by
  rw[mS,dZ,dZ];simp only[ab.dir,aa.dot,iP];grind
 have hd':((0:Int):Rat)<((l.a*l.a+l.b*l.b:Int):Rat):=by rw[<-e1];exact hd
 unfold cB;rw[e2,e1];clear hA hB e1 e2;generalize l.a*l.a+l.b*l.b=D at*;generalize m*l.b-n*l.a=M at*;have hD:0<D:=sQ.1 hd';refine BQ.of_fracI (n:=M) (D:=D) (by omega) ?_ hB' hA';have h0:(D:Rat)≠0:=fun e=>by rw[e] at hd';exact absurd hd' (by decide)
 have:((D.natAbs:Nat):Rat)=(D:Rat):=by
  have h1:((D.natAbs:Nat):Int)=D:=by omega
  rw[<-h1];rfl
 rw[this];grind
def Ua{v w:ZP}(hv:ZP.le 100 v)(hw:ZP.le 100 w)(h:v≠w):pz (bj v w):=by
 obtain⟨h1,h2⟩:=PT (m:=v.1) (n:=v.2) (p:=w.1) (q:=w.2) (by have:=hv.1;omega) (by have:=hv.2;omega) (by have:=hw.1;omega) (by have:=hw.2;omega) (fun e=>h (Prod.ext e.1.symm e.2.symm));exact⟨h1,h2,⟨fun e=>(by cases e),fun e=>(by cases e)⟩,N6 h1 h2 (by have:=hv.1;omega) (by have:=hv.2;omega),N6 h1 h2 (by have:=hw.1;omega) (by have:=hw.2;omega)⟩
def KY{r:List ZP}(h:cp r): ∀{k:Nat},k<=r.length->(jr r k).length=k/\ ∀f∈jr r k,pz f
 |0,_=>⟨J,fun f hf=>by cases hf⟩
 |k+1,hk=>by
  obtain⟨h1,h2⟩:=KY h (k:=k) (by omega);rw[jr];refine⟨by simp[h1],fun f hf=>?_⟩;rcases bW.1 hf with hf|hf
  ·exact h2 f hf
  ·rw[aV] at hf;subst hf
   exact Ua (h.le _ (zy (by omega))) (h.le _ (BV (by omega))) (h.ne k (by omega))
def rA{r:List ZP}(h:cp r):(eO r).length=r.length/\ ∀f∈eO r,pz f:=KY h (bQ _)
def bO(rs:List (List ZP)):List aE:=rs.flatMap eO
def lj: ∀{rs:List (List ZP)},(∀r∈rs,cp r)->(bO rs).length<=6*rs.length/\ ∀f∈bO rs,pz f
 |[],_=>⟨bQ _,fun f hf=>by cases hf⟩
 |r::rs,h=>by
  obtain⟨h1,h2⟩:=lj (rs:=rs) fun q hq=>h q (aZ _ hq);obtain⟨k1,k2⟩:=rA (h r aQ);have:=(h r aQ).n6;unfold bO at*;rw[lT];refine⟨by rw[aR,k1,bV];omega,fun f hf=>?_⟩;rcases bW.1 hf with hf|hf
  ·exact k2 f hf
  ·exact h2 f hf
def vl(a b c:aa):Int:=(aa.cross (bt b a (-1)) (bt c a (-1))).num.sign
def Hc(v w p:aa):Int:=
 (if cg v.y p.y<=0/\ ¬cg w.y p.y<=0/\0<vl v w p then 1 else 0)-(if¬cg v.y p.y<=0/\cg w.y p.y<=0/\vl v w p<0 then 1 else 0)
def CA(r:List ZP)(p:aa):Nat->Int
 |0=>0
 |k+1=>CA r p k+Hc (r.getD k (0,0)).q (dP r k).q p
def om(r:List ZP)(p:aa):Int:=CA r p r.length
def oG(fill n:Int):Bool:=(decide (fill=1)&&decide (n.tmod 2≠0))||(decide (fill=2)&&decide (n≠0))
def fe(rs:List (List ZP))(fill:Int)(p:aa):Bool:=oG fill (rs.foldl (fun n r=>n+om r p) 0)
def me(rs:List (List ZP))(fill:Int):Tr:=kB (fe rs fill) (bO rs).length (bO rs) []
def fm(rs:List (List ZP))(fill:Int):Tr:=(me rs fill).restrict []
structure oq (k:Nat) (t:Tr):Prop where
 gd:t.gd
 dp:t.depth<=k
 am: ∃K:List ab,K.length<=k/\(∀l∈K,l.ok)/\o9 K t
def aEa{acc:aa->Bool}{n:Nat}{l:List aE}(h: ∀f∈l,pz f)(hn:l.length=n):oq n (kB acc n l []):=
 ⟨⟨rE fun f hf=>(h f hf).lb,rE fun f hf=>(h f hf).ok⟩,Dw,l.map (·.l),by rw[aJ,hn];exact bQ _,fun m hm=>by
  obtain⟨f,hf,rfl⟩:=bJ.1 hm;exact(h f hf).ok,rE fun f hf=>⟨f.l,gN hf, .inl rfl⟩⟩
def oq.restrict{k:Nat}{t:Tr}(h:oq k t)(c:aG):oq k (t.restrict c):=by
 obtain⟨K,h1,h2,h3⟩:=h.am;exact⟨Xz h.gd c,eY (t.restrict_depth c) h.dp,K,h1,h2,h3.restrict c⟩
def oq.mono{j k:Nat}{t:Tr}(h:oq j t)(hk:j<=k):oq k t:=by
 obtain⟨K,h1,h2,h3⟩:=h.am;exact⟨h.gd,eY h.dp hk,K,by omega,h2,h3⟩
def O9{rs:List (List ZP)}{fill:Int}(h: ∀r∈rs,cp r)(hn:rs.length<=3):oq 18 (fm rs fill):=by
 obtain⟨h1,h2⟩:=lj h;exact((aEa (acc:=fe rs fill) h2 J).restrict []).mono (by omega)
def l6(p q:ZP):Int:=if p.1<q.1 then-1 else if q.1<p.1 then 1 else if p.2<q.2 then-1 else if q.2<p.2 then 1 else 0
def ld(x:ZP):List ZP->List ZP
 |[]=>[x]
 |u::t=>if l6 u x<0 then u::ld x t else if l6 u x=0 then u::t else x::u::t
def pj(l:List ZP):List ZP:=l.foldl (fun out x=>ld x out) []
def S6{x:ZP}: ∀{l:List ZP},(ld x l).length<=l.length+1
 |[]=>bQ _
 |u::t=>by
  rw[ld];have:=S6 (x:=x) (l:=t);split
  ·simp;omega
  ·split<;>simp
def avM(l:List ZP):(pj l).length<=l.length:=by
 have key: ∀(l o:List ZP),(l.foldl (fun out x=>ld x out) o).length<=l.length+o.length:=by
  intro l
  induction l with
  |nil=>intro o;simp
  |cons x t ih=>intro o;have:=ih (ld x o);have:=S6 (x:=x) (l:=o);simp only[dT,bV];omega
 have:=key l [];simpa[pj] using this
def r6(a b c d:Int):List ZP:=[(a,b),(c,b),(c,d),(a,d)]
def HI{r:List ZP}{i:Nat}(h:i+1<r.length):dP r i=r.getD (i+1) (0,0):=by unfold dP;rw[fU h]
def H6{r:List ZP}{i:Nat}(h:i+1=r.length):dP r i=r.getD 0 (0,0):=by unfold dP;rw[h,Nat.mod_self]
def at7{a b c d:Int}(h1:a.natAbs<=50)(h2:b.natAbs<=50)(h3:c.natAbs<=50)(h4:d.natAbs<=50)(h5:a<c)(h6:b<d):cp (r6 a b c d):=by
 refine⟨by simp[r6],by simp[r6],fun p hp=>?_,fun i hi=>?_⟩
 ·simp only[r6,aW,kV,or_false] at hp
  rcases hp with rfl|rfl|rfl|rfl<;>exact⟨by dsimp only;omega,by dsimp only;omega⟩
 ·have:i=0\/i=1\/i=2\/i=3:=by simp[r6] at hi;omega
  rcases this with rfl|rfl|rfl|rfl<;>simp[r6,dP]<;>omega
def s5(p u v:ZP):List ZP:=[p,xe p u,xe p v]
def Wp{p u v:ZP}(h1:ZP.le 40 p)(h2:ZP.le 40 u)(h3:ZP.le 40 v)(h:sF u v≠0):cp (s5 p u v):=by
 obtain⟨p1,p2⟩:=p;obtain⟨u1,u2⟩:=u;obtain⟨v1,v2⟩:=v;unfold ZP.le at h1 h2 h3;dsimp only at h1 h2 h3;unfold sF at h;dsimp only at h;refine⟨by simp[s5],by simp[s5],fun p hp=>?_,fun i hi=>?_⟩
 ·simp only[s5,xe,aW,kV,or_false] at hp
  rcases hp with rfl|rfl|rfl<;>exact⟨by dsimp only;omega,by dsimp only;omega⟩
 ·have:i=0\/i=1\/i=2:=by simp[s5] at hi;omega
  have hu: ¬(u1=0/\u2=0):=fun e=>h (by rw[e.1,e.2];simp);have hv: ¬(v1=0/\v2=0):=fun e=>h (by rw[e.1,e.2];simp);have huv: ¬(u1=v1/\u2=v2):=fun e=>h (by rw[e.1,e.2,tV];omega);rcases this with rfl|rfl|rfl<;>simp[s5,xe,dP]<;>omega
def n7(es:List Int):Nat->Nat->List ZP->List ZP×Nat
 |0,a,out=>(out,a)
 |n+1,a,out=>n7 es n (pF es a).2 (if out.getLast? =some (pF es a).1 then out else out++[(pF es a).1])
structure l8 (r:List ZP):Prop where
 ne: ∀i,i+1<r.length->r.getD i (0,0)≠r.getD (i+1) (0,0)
 le: ∀p∈r,ZP.le 100 p
def l8.snoc{r:List ZP}{p:ZP}(h:l8 r)(hp:ZP.le 100 p)(hl:r.getLast? ≠some p):l8 (r++[p]):=by
 refine⟨fun i hi=>?_,fun q hq=>?_⟩
 ·rw[aR,nU] at hi
  rw[aK,aK];by_cases h1:i+1<r.length
  ·rw[dK (by omega),dK h1]
   have:=h.ne i h1;rwa [aK,aK] at this
  ·have e:i+1=r.length:=by omega
   rw[dK (by omega),e,gX (bQ _),rS];rw[nT,<-e,mZ] at hl;rw[aX (by omega)] at hl⊢;intro c;exact hl (by simpa using c)
 ·rcases bW.1 hq with hq|hq
  ·exact h.le q hq
  ·rw[aV] at hq;subst hq;exact hp
def K1{es:List Int}: ∀{n a:Nat} {out:List ZP},a<=es.length->l8 out->l8 (n7 es n a out).1/\(n7 es n a out).1.length<=out.length+n/\(n7 es n a out).2<=es.length
 |0,a,out,ha,h=>⟨h,bQ _,ha⟩
 |n+1,a,out,ha,h=>by
  obtain⟨h1,h2,h3⟩:=x5 ha;rw[n7];by_cases hl:out.getLast? =some (pF es a).1
  ·rw[if_pos hl]
   obtain⟨k1,k2,k3⟩:=K1 (n:=n) h3 h;exact⟨k1,by omega,k3⟩
  ·rw[if_neg hl]
   obtain⟨k1,k2,k3⟩:=K1 (n:=n) h3 (h.snoc (p:=(pF es a).1) ⟨by omega,by omega⟩ hl);rw[aR,nU] at k2;exact⟨k1,by omega,k3⟩
def kO:Nat->List ZP->List ZP
 |0,l=>l
 |n+1,l=>if 1<l.length/\l.getD 0 (0,0)=l.getD (l.length-1) (0,0) then kO n l.dropLast else l
def l8.drop{r:List ZP}(h:l8 r):l8 r.dropLast:=by
 refine⟨fun i hi=>?_,fun p hp=>h.le p ((sW _).subset hp)⟩;rw[oJ] at hi;have:=h.ne i (by omega);rw[aK,aK] at this⊢;rw[List.getElem?_dropLast,List.getElem?_dropLast,if_pos (by omega),if_pos (by omega)];exact this
def Ri: ∀{n:Nat} {l:List ZP},l8 l->l.length<=n+1->l8 (kO n l)/\(kO n l).length<=l.length/\(1<(kO n l).length->(kO n l).getD 0 (0,0)≠(kO n l).getD ((kO n l).length-1) (0,0))
 |0,l,h,hn=>⟨h,bQ _,fun k=>absurd k (by unfold kO;omega)⟩
 |n+1,l,h,hn=>by
  rw[kO];split
  ·obtain⟨h1,h2,h3⟩:=Ri (n:=n) h.drop (by rw[oJ];omega)
   rw[oJ] at h2;exact⟨h1,by omega,h3⟩
  ·rename_i hc
   exact⟨h,bQ _,fun k e=>hc ⟨k,e⟩⟩
def aA3{r:List ZP}(h:l8 r)(h6:r.length<=6)(hc:1<r.length->r.getD 0 (0,0)≠r.getD (r.length-1) (0,0))(h3:3<=(pj r).length):cp r:=by
 have:=avM r;refine⟨by omega,h6,h.le,fun i hi=>?_⟩;by_cases h1:i+1<r.length
 ·rw[HI h1];exact h.ne i h1
 ·have e:i+1=r.length:=by omega
  rw[H6 e];have:=hc (by omega);rw[show i=r.length-1 by omega];exact fun k=>this k.symm
def y8:List ZP:=[(0,0),(2,0),(0,2)]
def Rv:cp y8:=⟨by decide,by decide,fun p hp=>by
  simp only[y8,aW,kV,or_false] at hp;rcases hp with rfl|rfl|rfl<;>exact⟨by decide,by decide⟩,fun i hi=>by
  have:i=0\/i=1\/i=2:=by simp[y8] at hi;omega
  rcases this with rfl|rfl|rfl<;>decide⟩
def pA(es:List Int)(a:Nat):List ZP×Nat:=
 ((if(pj (kO 6 (n7 es (3+(au es 4 a).1) (au es 4 a).2 []).1)).length<3 then y8 else kO 6 (n7 es (3+(au es 4 a).1) (au es 4 a).2 []).1),(n7 es (3+(au es 4 a).1) (au es 4 a).2 []).2)
def l8.nil:l8 []:=⟨fun i hi=>by simp at hi,fun p hp=>by cases hp⟩
def Js{es:List Int}{a:Nat}(ha:a<=es.length):cp (pA es a).1/\(pA es a).2<=es.length:=by
 have h1:=jq (es:=es) (n:=4) (a:=a) (by decide);obtain⟨k1,k2,k3⟩:=K1 (n:=3+(au es 4 a).1) (iq (n:=4) ha) l8.nil;obtain⟨t1,t2,t3⟩:=Ri (n:=6) k1 (by simp at k2;omega);refine⟨?_,k3⟩;unfold pA;dsimp only;split
 ·exact Rv
 ·exact aA3 t1 (by simp at k2;omega) t3 (by omega)
def CE(es:List Int)(n m k:Int)(a:Nat):List ZP×Nat:=
 let x:=au es n a
 let y:=au es n x.2
 let z:=au es m y.2
 let w:=au es m z.2
 (r6 ((x.1:Int)-k) ((y.1:Int)-k) ((x.1:Int)-k+1+z.1) ((y.1:Int)-k+1+w.1),w.2)
def W9{es:List Int}{n m k:Int}{a:Nat}(ha:a<=es.length)(hn:1<=n)(hn2:n<=10)(hm:1<=m)(hm2:m<=10)(hk:0<=k)(hk2:k<=10):cp (CE es n m k a).1/\(CE es n m k a).2<=es.length:=by
 have h1:=jq (es:=es) (a:=a) hn;have h2:=jq (es:=es) (a:=(au es n a).2) hn;have h3:=jq (es:=es) (a:=(au es n (au es n a).2).2) hm;have h4:=jq (es:=es) (a:=(au es m (au es n (au es n a).2).2).2) hm;exact⟨at7 (by omega) (by omega) (by omega) (by omega) (by omega) (by omega),iq (iq (iq (iq ha)))⟩
def iG(es:List Int)(a:Nat):List ZP×Nat:=
 let k:=au es 4 a
 if(k.1:Int)=0 then CE es 5 4 4 k.2
 else if(k.1:Int)=1 then
  let p:=pF es k.2
  let u:=vF es p.2
  let v:=vF es u.2
  if sF u.1 v.1≠0 then(s5 p.1 u.1 v.1,v.2) else pA es v.2
 else pA es k.2
def Lu{es:List Int}{a:Nat}(ha:a<=es.length):cp (iG es a).1/\(iG es a).2<=es.length:=by
 have h0:=iq (n:=4) ha;unfold iG;dsimp only;split
 ·exact W9 h0 (by decide) (by decide) (by decide) (by decide) (by decide) (by decide)
 ·split
  ·obtain⟨p1,p2,p3⟩:=x5 h0
   obtain⟨u1,u2,u3,u4⟩:=Ak p3;obtain⟨v1,v2,v3,v4⟩:=Ak u4;split
   ·rename_i hc
    exact⟨Wp ⟨by omega,by omega⟩ ⟨by omega,by omega⟩ ⟨by omega,by omega⟩ hc,v4⟩
   ·exact Js v4
  ·exact Js h0
def WF:List ZP:=[(0,0),(1,0),(0,1)]
def Ow(es:List Int)(a:Nat):List ZP×Nat:=
 let k:=au es 2 a
 if(k.1:Int)=0 then CE es 3 2 1 k.2
 else
  let x:=au es 3 k.2
  let y:=au es 3 x.2
  let u1:=au es 2 y.2
  let u2:=au es 3 u1.2
  let v1:=au es 3 u2.2
  let v2:=au es 2 v1.2
  (if 0<sF (1+(u1.1:Int),(u2.1:Int)-1) ((v1.1:Int)-1,1+(v2.1:Int)) then s5 ((x.1:Int)-1,(y.1:Int)-1) (1+(u1.1:Int),(u2.1:Int)-1) ((v1.1:Int)-1,1+(v2.1:Int)) else WF,v2.2)
def uJ(es:List Int)(a:Nat):Tr×Nat:=
 let r:=iG es a
 let k:=au es 3 r.2
 if(k.1:Int)=0 then
  let s:=iG es k.2
  let f:=au es 2 s.2
  (fm [r.1,s.1] (1+(f.1:Int)),f.2)
 else
  let f:=au es 2 k.2
  (fm [r.1] (1+(f.1:Int)),f.2)
def Jg(l:ab):Tr:=(Tr.node l (.leaf true) (.leaf false)).restrict []
def tE(es:List Int):Nat->Nat->Tr×Nat
 |0,a=>
  let k:=au es 6 a
  if(k.1:Int)=1 then(Jg (lF es k.2).1,(lF es k.2).2)
  else if(k.1:Int)=2 then((nA es 3 k.2).1.restrict [],(nA es 3 k.2).2)
  else if(k.1:Int)=3 then((uJ es k.2).1.compl,(uJ es k.2).2)
  else uJ es k.2
 |d+1,a=>
  let k:=au es 6 a
  if(k.1:Int)=0 then
   let x:=tE es d k.2
   let o:=au es 4 x.2
   let y:=tE es d o.2
   (x.1.mergeQ (1+(o.1:Int)) y.1 [],y.2)
  else if(k.1:Int)=1 then(Jg (lF es k.2).1,(lF es k.2).2)
  else if(k.1:Int)=2 then((nA es 3 k.2).1.restrict [],(nA es 3 k.2).2)
  else if(k.1:Int)=3 then((uJ es k.2).1.compl,(uJ es k.2).2)
  else uJ es k.2
def aKw(es:List Int)(a:Nat):Tr×Nat:=
 let k:=au es 4 a
 if(k.1:Int)=0 then(Jg (lF es k.2).1,(lF es k.2).2)
 else if(k.1:Int)=1 then((nA es 2 k.2).1.restrict [],(nA es 2 k.2).2)
 else(fm [(Ow es k.2).1] 2,(Ow es k.2).2)
def dE(a b p:aa):Rat:=(b.x-a.x)*(p.y-a.y)-(b.y-a.y)*(p.x-a.x)
def pw(v w p:aa):Int:=(if v.y<=p.y/\ ¬w.y<=p.y/\0<dE v w p then 1 else 0)-(if¬v.y<=p.y/\w.y<=p.y/\dE v w p<0 then 1 else 0)
def qa(v w q p:aa):Prop:= ∀s t:Rat,0<=s->s<=1->0<=t->t<=1->ba v w s≠ba q p t
def Dg{a b:Rat}(h0:0<=a)(h1:a<=b)(hb:0<b):0<=a/b/\a/b<=1/\a/b*b=a:=by
 have e:a/b*b=a:=by grind
 generalize a/b=q at*;refine⟨?_,?_,e⟩
 ·exact(ig hb).1 (by rw[e];exact h0)
 ·have:=(ig (s:=1-q) hb).1 (by grind)
  grind
def aEW{q p x:aa}(hy:q.y<p.y)(h:dE q p x=0)(h1:q.y<=x.y)(h2:x.y<=p.y): ∃t,0<=t/\t<=1/\x=ba q p t:=by
 obtain⟨a1,a2,a3⟩:=Dg (a:=x.y-q.y) (b:=p.y-q.y) (by grind) (by grind) (by grind);refine⟨_,a1,a2,?_⟩;generalize (x.y-q.y)/(p.y-q.y)=t at*;obtain⟨X,Y⟩:=x;unfold dE at h;unfold ba;simp only at*;have e:X=q.x+t*(p.x-q.x):=by
  have h3:(p.y-q.y)*(X-q.x)=(p.y-q.y)*(t*(p.x-q.x)):=by grind
  have h4:p.y-q.y≠0:=by grind
  have:=cS.1 (show(p.y-q.y)*(X-q.x-t*(p.x-q.x))=0 by grind);rcases this with h5|h5
  ·exact absurd h5 h4
  ·grind
 rw[e];congr 1;grind
def aEb(q p v w:aa)(e:Rat):dE q p (ba v w e)=dE q p v+e*(dE q p w-dE q p v):=by
 unfold dE ba;grind
def MN(v w:aa)(a b e:Rat):ba (ba v w a) (ba v w b) e=ba v w (a+e*(b-a)):=by
 unfold ba;simp only[aa.mk.injEq];constructor<;>grind
def Fv(v w:aa)(e:Rat):(ba v w e).y=v.y+e*(w.y-v.y):=rfl
def Kv{a b e lo hi:Rat}(h0:0<=e)(h1:e<=1)(ha:lo<=a)(hb:lo<=b)(ha2:a<=hi)(hb2:b<=hi):lo<=a+e*(b-a)/\a+e*(b-a)<=hi:=by
 have k1:=cj h0 (show 0<=b-lo by grind);have k2:=cj (show 0<=1-e by grind) (show 0<=a-lo by grind);have k3:=cj h0 (show 0<=hi-b by grind);have k4:=cj (show 0<=1-e by grind) (show 0<=hi-a by grind);constructor<;>grind
def Zl{v w q p:aa}(hn:qa v w q p)(hy:q.y<p.y){a b:Rat}(a0:0<=a)(a1:a<=1)(b0:0<=b)(b1:b<=1)(ha:q.y<=(ba v w a).y/\(ba v w a).y<=p.y)(hb:q.y<=(ba v w b).y/\(ba v w b).y<=p.y)(h:dE q p (ba v w a)<0):dE q p (ba v w b)<0:=by
 by_cases k:dE q p (ba v w b)<0
 ·exact k
 ·exfalso
  obtain⟨e0,e1,e2⟩:=Dg (a:= -(dE q p (ba v w a))) (b:=dE q p (ba v w b)-dE q p (ba v w a)) (by grind) (by grind) (by grind);generalize-(dE q p (ba v w a))/(dE q p (ba v w b)-dE q p (ba v w a))=e at*;have hz:dE q p (ba v w (a+e*(b-a)))=0:=by rw[<-MN,aEb];grind
  have hh:=Kv e0 e1 ha.1 hb.1 ha.2 hb.2;rw[<-Fv,MN] at hh;obtain⟨t,t0,t1,ht⟩:=aEW hy hz hh.1 hh.2;have h01:=Kv e0 e1 a0 b0 a1 b1;exact hn _ t h01.1 h01.2 t0 t1 ht
def aBQ{v w q p:aa}(hn:qa v w q p)(hy:q.y<p.y): ∃r:Bool,∀s,0<=s->s<=1->q.y<=(ba v w s).y->(ba v w s).y<=p.y->(dE q p (ba v w s)<0↔r=true):=by
 by_cases h: ∃s,0<=s/\s<=1/\(q.y<=(ba v w s).y/\(ba v w s).y<=p.y)/\dE q p (ba v w s)<0
 ·obtain⟨s,s0,s1,s2,s3⟩:=h
  exact⟨true,fun t t0 t1 h1 h2=>⟨fun _=>J,fun _=>Zl hn hy s0 s1 t0 t1 s2 ⟨h1,h2⟩ s3⟩⟩
 ·exact⟨false,fun t t0 t1 h1 h2=>⟨fun k=>absurd ⟨t,t0,t1,⟨h1,h2⟩,k⟩ h,fun k=>by cases k⟩⟩
def KG(v w:aa):ba v w 0=v:=by unfold ba;cases v;simp only[aa.mk.injEq];constructor<;>grind
def En(v w:aa):ba v w 1=w:=by unfold ba;cases w;simp only[aa.mk.injEq];constructor<;>grind
def KP{v w:aa}{y:Rat}(h:(v.y<=y/\ ¬w.y<=y)\/(¬v.y<=y/\w.y<=y)): ∃s,0<=s/\s<=1/\(ba v w s).y=y:=by
 rcases h with⟨h1,h2⟩|⟨h1,h2⟩
 ·obtain⟨a1,a2,a3⟩:=Dg (a:=y-v.y) (b:=w.y-v.y) (by grind) (by grind) (by grind)
  refine⟨_,a1,a2,?_⟩;rw[Fv];grind
 ·obtain⟨a1,a2,a3⟩:=Dg (a:=v.y-y) (b:=v.y-w.y) (by grind) (by grind) (by grind)
  refine⟨_,a1,a2,?_⟩;rw[Fv];grind
def S8{v w p:aa}{s:Rat}(h:(ba v w s).y=p.y):dE v w p=(w.y-v.y)*((ba v w s).x-p.x):=by
 unfold dE;unfold ba at*;simp only at*;rw[<-h];grind
def AH{a b:Rat}(ha:0<a):0<a*b↔0<b:=by rw[Rat.mul_comm];exact gp ha
def Hz{a b:Rat}(ha:a<0):a*b<0↔0<b:=by
 have:=AH (a:= -a) (b:=b) (by grind);constructor
 ·intro h;exact this.1 (by grind)
 ·intro h;have:=this.2 h;grind
def bI(b:Prop)[Decidable b]:Int:=if b then 1 else 0
def FN{v w p:aa}{r:Prop}[Decidable r](h: ∀s,0<=s->s<=1->(ba v w s).y=p.y->(p.x<(ba v w s).x↔r)):pw v w p=if r then bI (v.y<=p.y)-bI (w.y<=p.y) else 0:=by
 unfold pw bI;by_cases h1:v.y<=p.y<;>by_cases h2:w.y<=p.y
 ·simp[h1,h2]
 ·obtain⟨s,s0,s1,s2⟩:=KP (.inl ⟨h1,h2⟩)
  have e:=S8 s2;have k:=h s s0 s1 s2;have m:=AH (a:=w.y-v.y) (b:=(ba v w s).x-p.x) (by grind);rw[<-e] at m;have m2:0<dE v w p↔r:=by rw[m,<-k];grind
  simp only[h1,h2,m2];by_cases q:r<;>simp[q]
 ·obtain⟨s,s0,s1,s2⟩:=KP (.inr ⟨h1,h2⟩)
  have e:=S8 s2;have k:=h s s0 s1 s2;have m:=Hz (a:=w.y-v.y) (b:=(ba v w s).x-p.x) (by grind);rw[<-e] at m;have m2:dE v w p<0↔r:=by rw[m,<-k];grind
  simp only[h1,h2,m2];by_cases q:r<;>simp[q]
 ·simp[h1,h2]
def uR(q p u:aa):Int:=if q.y<u.y/\u.y<=p.y/\dE q p u<0 then 1 else 0
def T5{v w q p:aa}(hn:qa v w q p)(hy:q.y<p.y):pw v w p-pw v w q=uR q p v-uR q p w:=by
 obtain⟨r,hr⟩:=aBQ hn hy;have ep:=FN (v:=v) (w:=w) (p:=p) (r:=r=true) fun s s0 s1 s2=>by
  rw[<-hr s s0 s1 (by grind) (by grind)];have m:=AH (a:=p.y-q.y) (b:=(ba v w s).x-p.x) (by grind);have:dE q p (ba v w s)= -((p.y-q.y)*((ba v w s).x-p.x)):=by unfold dE;rw[s2];grind
  rw[this];generalize (p.y-q.y)*((ba v w s).x-p.x)=z at*;constructor
  ·intro k;have:=m.2 (by grind);grind
  ·intro k;have:=m.1 (by grind);grind
 have eq:=FN (v:=v) (w:=w) (p:=q) (r:=r=true) fun s s0 s1 s2=>by
  rw[<-hr s s0 s1 (by grind) (by grind)];have m:=AH (a:=p.y-q.y) (b:=(ba v w s).x-q.x) (by grind);have:dE q p (ba v w s)= -((p.y-q.y)*((ba v w s).x-q.x)):=by unfold dE;rw[s2];grind
  rw[this];generalize (p.y-q.y)*((ba v w s).x-q.x)=z at*;constructor
  ·intro k;have:=m.2 (by grind);grind
  ·intro k;have:=m.1 (by grind);grind
 have fv:uR q p v=if r=true then bI (v.y<=p.y)-bI (v.y<=q.y) else 0:=by
  have h:=hr 0 (by decide) (by decide);rw[KG] at h;unfold uR bI;by_cases h1:v.y<=p.y<;>by_cases h2:v.y<=q.y
  ·have: ¬q.y<v.y:=by grind
   simp[h1,h2,this]
  ·have h3:q.y<v.y:=by grind
   have:=h (by grind) h1;simp only[h1,h2,h3,this];by_cases q:r=true<;>simp[q]
  ·exfalso;grind
  ·simp[h1,h2]
 have fw:uR q p w=if r=true then bI (w.y<=p.y)-bI (w.y<=q.y) else 0:=by
  have h:=hr 1 (by decide) (by decide);rw[En] at h;unfold uR bI;by_cases h1:w.y<=p.y<;>by_cases h2:w.y<=q.y
  ·have: ¬q.y<w.y:=by grind
   simp[h1,h2,this]
  ·have h3:q.y<w.y:=by grind
   have:=h (by grind) h1;simp only[h1,h2,h3,this];by_cases q:r=true<;>simp[q]
  ·exfalso;grind
  ·simp[h1,h2]
 rw[ep,eq,fv,fw];by_cases q:r=true
 ·simp only[if_pos q];omega
 ·simp only[if_neg q]
def Yn{v w q p:aa}(hn:qa v w q p)(hy:q.y=p.y):pw v w p=pw v w q:=by
 have key: ∀s,0<=s->s<=1->(ba v w s).y=p.y->(p.x<(ba v w s).x↔q.x<(ba v w s).x):=fun s s0 s1 s2=>by
  have no: ∀a b:Rat,a<=(ba v w s).x->(ba v w s).x<b->((a=q.x/\b=p.x)\/(a=p.x/\b=q.x))->False:=fun a b h1 h2 h3=>by
   obtain⟨a1,a2,a3⟩:=Dg (a:=(ba v w s).x-a) (b:=b-a) (by grind) (by grind) (by grind);generalize ((ba v w s).x-a)/(b-a)=t at*;rcases h3 with⟨e1,e2⟩|⟨e1,e2⟩
   ·refine hn s t s0 s1 a1 a2 ?_
    generalize hx:ba v w s=x at*;obtain⟨X,Y⟩:=x;unfold ba;simp only[aa.mk.injEq] at*;subst e1 e2;constructor<;>grind
   ·refine hn s (1-t) s0 s1 (by grind) (by grind) ?_
    generalize hx:ba v w s=x at*;obtain⟨X,Y⟩:=x;unfold ba;simp only[aa.mk.injEq] at*;subst e1 e2;constructor<;>grind
  constructor
  ·intro h
   by_cases k:q.x<(ba v w s).x
   ·exact k
   ·by_cases k2:(ba v w s).x=q.x
    ·exfalso
     refine hn s 0 s0 s1 (by decide) (by decide) ?_;rw[KG];generalize ba v w s=x at*;obtain⟨X,Y⟩:=x;obtain⟨A,B⟩:=q;simp only[aa.mk.injEq] at*;exact⟨k2,by grind⟩
    ·exact(no p.x q.x (by grind) (by grind) (.inr ⟨J,J⟩)).elim
  ·intro h
   by_cases k:p.x<(ba v w s).x
   ·exact k
   ·by_cases k2:(ba v w s).x=p.x
    ·exfalso
     refine hn s 1 s0 s1 (by decide) (by decide) ?_;rw[En];generalize ba v w s=x at*;obtain⟨X,Y⟩:=x;obtain⟨A,B⟩:=p;simp only[aa.mk.injEq] at*;exact⟨k2,s2⟩
    ·exact(no q.x p.x (by grind) (by grind) (.inl ⟨J,J⟩)).elim
 by_cases hc:(v.y<=p.y/\ ¬w.y<=p.y)\/(¬v.y<=p.y/\w.y<=p.y)
 ·obtain⟨s,s0,s1,s2⟩:=KP hc
  have uq: ∀t,(ba v w t).y=p.y->t=s:=fun t ht=>by
   rw[Fv] at ht s2;have h4:w.y-v.y≠0:=by grind
   have:=cS.1 (show(w.y-v.y)*(t-s)=0 by grind);rcases this with h5|h5
   ·exact absurd h5 h4
   ·grind
  rw[FN (p:=p) (r:=p.x<(ba v w s).x) fun t _ _ ht=>by rw[uq t ht],FN (p:=q) (r:=p.x<(ba v w s).x) fun t _ _ ht=>by rw[uq t (by rw[ht,hy])];exact(key s s0 s1 s2).symm,hy]
 ·unfold pw
  rw[hy];by_cases h1:v.y<=p.y<;>by_cases h2:w.y<=p.y<;>simp[h1,h2] at hc⊢
def aA0(q p:aa)(t:Rat):ba p q t=ba q p (1-t):=by unfold ba;simp only[aa.mk.injEq];constructor<;>grind
def qa.symm{v w q p:aa}(h:qa v w q p):qa v w p q:=fun s t s0 s1 t0 t1 e=>h s (1-t) s0 s1 (by grind) (by grind) (by rw[e,aA0])
def ki(r:List ZP)(p:aa):Nat->Int
 |0=>0
 |k+1=>ki r p k+pw (r.getD k (0,0)).q (dP r k).q p
def wu(r:List ZP)(q p:aa):Prop:= ∀k,k<r.length->qa (r.getD k (0,0)).q (dP r k).q q p
def MX{r:List ZP}{q p:aa}(h:wu r q p)(hy:q.y<p.y): ∀k,k<r.length->ki r p k-ki r q k=uR q p (r.getD 0 (0,0)).q-uR q p (r.getD k (0,0)).q
 |0,_=>by simp[ki]
 |k+1,hk=>by
  have ih:=MX h hy k (by omega);have e:=T5 (h k (by omega)) hy;rw[HI (by omega)] at e;rw[ki,ki,HI (by omega)];omega
def Oo{r:List ZP}{q p:aa}(h:wu r q p)(hy:q.y<p.y):ki r p r.length=ki r q r.length:=by
 cases hr:r.length with
 |zero=>rfl
 |succ n=>
  have ih:=MX h hy n (by omega);have e:=T5 (h n (by omega)) hy;rw[H6 (by omega)] at e;rw[ki,ki,H6 (by omega)];omega
def Mc{r:List ZP}{q p:aa}(h:wu r q p)(hy:q.y=p.y): ∀k,k<=r.length->ki r p k=ki r q k
 |0,_=>rfl
 |k+1,hk=>by rw[ki,ki,Mc h hy k (by omega),Yn (h k (by omega)) hy]
def Up{r:List ZP}{q p:aa}(h:wu r q p):ki r p r.length=ki r q r.length:=by
 by_cases h1:q.y<p.y
 ·exact Oo h h1
 ·by_cases h2:p.y<q.y
  ·exact(Oo (fun k hk=>(h k hk).symm) h2).symm
  ·exact Mc h (by grind) _ (bQ _)
def UA(a b c:aa):vl a b c=(dE a b c).num.sign:=by
 unfold vl dE aa.cross bt;congr 2;grind
def GU(a b:Rat):cg a b<=0↔a<=b:=by
 have:=Dp a b;constructor
 ·intro h
  by_cases q:b<a
  ·have:=this.2 q;omega
  ·grind
 ·intro h
  by_cases q:0<cg a b
  ·have:=this.1 q;grind
  ·omega
def Xa(v w p:aa):Hc v w p=pw v w p:=by
 unfold Hc pw;simp only[UA,kC,lc,GU]
def Cs(r:List ZP)(p:aa): ∀k,CA r p k=ki r p k
 |0=>rfl
 |k+1=>by rw[CA,ki,Cs r p k,Xa]
def O6{r:List ZP}{q p:aa}(h:wu r q p):om r p=om r q:=by
 unfold om;rw[Cs,Cs,Up h]
def X3(R:Rat)(p:aa):Prop:=p.x< -R\/R<p.x\/p.y< -R\/R<p.y
def Ke(op:Int)(a b:Tr):Bool:=decide ((a.mergeQ op b []).isLeaf=true/\(a.mergeQ op b []).code=false)
def aFT(a b:Tr):Int:=if Ke 4 a b then 0 else if Ke 3 a b then-1 else if Ke 3 b a then 1 else 2
def uI:Tr->aa->Bool
 | .leaf b,_=>b
 | .node l x y,p=>if(l.value p).num.sign=1 then uI x p else if(l.value p).num.sign= -1 then uI y p else false
def HC(t:Tr):List aG:=((t.parts []).filter (·.1)).map (·.2)
def jk(l:ab)(p:aa):aG->Rat->Rat
 |[],f=>f
 |s::c,f=>jk l p c (if Int.sign (s.l.nor.dot l.nor).num<0 then(if-(s.l.value p/s.l.nor.dot l.nor)<f then-(s.l.value p/s.l.nor.dot l.nor) else f) else f)
def ql:aG->aa
 |[]=>⟨0,0⟩
 |s::c=>bt (s.l.at s.v.sample) s.l.nor (jk s.l (s.l.at s.v.sample) c 1*mkRat 1 2)
def I7{v k:Rat}(hk:k<0)(hv:0<v):0< -(v/k):=by
 have e: -(v/k)* -k=v:=by grind
 exact(gp (k:= -k) (by grind)).1 (by rw[e];exact hv)
def K4{l:ab}{p:aa}: ∀{c:aG} {f:Rat},0<f->(∀s∈c,s.l.nor.dot l.nor<0->0<s.l.value p)->0<jk l p c f/\jk l p c f<=f/\ ∀s∈c,s.l.nor.dot l.nor<0->jk l p c f<= -(s.l.value p/s.l.nor.dot l.nor)
 |[],f,hf,_=>⟨hf,fZ,fun s hs=>by cases hs⟩
 |s::c,f,hf,h=>by
  have h0:=h s aQ;have h1:=fun u hu=>h u (aZ _ hu);rw[jk];by_cases hk:s.l.nor.dot l.nor<0
  ·have hp:=I7 hk (h0 hk)
   rw[if_pos ((lc _).2 hk)];obtain⟨k1,k2,k3⟩:=K4 (c:=c) (f:=if-(s.l.value p/s.l.nor.dot l.nor)<f then-(s.l.value p/s.l.nor.dot l.nor) else f) (by split<;>assumption) h1;refine⟨k1,?_,fun u hu=>?_⟩
   ·split at k2<;>grind
   ·rcases aW.1 hu with rfl|hu
    ·intro _;split at k2<;>grind
    ·exact k3 u hu
  ·rw[if_neg (fun e=>hk ((lc _).1 e))]
   obtain⟨k1,k2,k3⟩:=K4 (c:=c) hf h1;refine⟨k1,k2,fun u hu=>?_⟩;rcases aW.1 hu with rfl|hu
   ·intro e;exact absurd e hk
   ·exact k3 u hu
def axu: ∀{c:aG},d8 c->b9 c (ql c)
 |[],_=>aB4 _
 |s::c,hc=>by
  have hs:s∈s::c:=aQ;obtain⟨p1,p2⟩:=hc.edge s hs;have hin:=(p2 s.v.sample).1 (xg p1).has;have hne:=(hc.ok s hs).ne;have hself:=pn hne s.v.sample;have hpos: ∀g∈c,g.l≠s.l->0<g.l.value (s.l.at s.v.sample):=fun g hg hn=>by
   have h1:=hin g (aZ _ hg);have h2:g.l.value (s.l.at s.v.sample)≠0:=fun e=>hn (S3 hc hs (hc.ok g (aZ _ hg)) (fun p hp=>hp g (aZ _ hg)) e);grind
  have hnn:=qn hne;have hk: ∀g∈c,g.l.nor.dot s.l.nor<0->0<g.l.value (s.l.at s.v.sample):=fun g hg hk=>hpos g hg (fun e=>by rw[e] at hk;grind);obtain⟨f1,f2,f3⟩:=K4 (l:=s.l) (p:=s.l.at s.v.sample) (c:=c) (f:=1) (by decide) hk;show b9 (s::c) (bt (s.l.at s.v.sample) s.l.nor (jk s.l (s.l.at s.v.sample) c 1*mkRat 1 2));rw[Nt];generalize jk s.l (s.l.at s.v.sample) c 1=F at f1 f2 f3⊢;intro g hg;rw[i6];have hhalf:0<F*(1/2):=by grind
  rcases aW.1 hg with e|hg
  ·rw[e,hself,Rat.zero_add]
   exact bF hhalf hnn
  ·by_cases he:g.l=s.l
   ·rw[he,hself]
    have:=bF (a:=F*(1/2)) (b:=s.l.nor.dot s.l.nor) (by grind) hnn;grind
   ·have hv:=hpos g hg he
    by_cases hk2:g.l.nor.dot s.l.nor<0
    ·have hf:=f3 g hg hk2
     generalize g.l.nor.dot s.l.nor=k at hk2 hf⊢;generalize g.l.value (s.l.at s.v.sample)=v at hf hv⊢;have e1: -(v/k)* -k=v:=by grind
     generalize-(v/k)=w at e1 hf;have:=cj (a:=w-F) (b:= -k) (by grind) (by grind);clear hin hpos hk f3 hc p2;grind
    ·have h9:=cj (a:=F*(1/2)) (b:=g.l.nor.dot s.l.nor) (cM hhalf) (by grind)
     generalize F*(1/2)*g.l.nor.dot s.l.nor=z at h9⊢;clear hin hpos hk f3 hc p2;grind
def fj:Tr->aa->aa->Bool×Bool
 | .leaf b,_,_=>(b,true)
 | .node l x y,p,v=>match (if(l.value p).num.sign=0 then(l.dir.cross v).num.sign else(l.value p).num.sign) with
  |1=>fj x p v
  | -1=>fj y p v
  |_=>(false,false)
def ym(l:ab)(v:aa):l.dir.cross v=l.nor.dot v:=by
 unfold ab.dir ab.nor aa.cross aa.dot;grind
def Gn(L:List ab)(p v:aa):Prop:= ∀l∈L,l.value p=0->l.nor.dot v≠0
def aFj{l:ab}{p v:aa}(h:l.value p=0->l.nor.dot v≠0): ∃e:Rat,0<e/\ ∀d,0<d->d<=e->(0<l.value (bt p v d)↔0<l.value p\/(l.value p=0/\0<l.nor.dot v))/\(l.value (bt p v d)<0↔l.value p<0\/(l.value p=0/\l.nor.dot v<0)):=by
 generalize hk:l.nor.dot v=k at*;by_cases h0:l.value p=0
 ·have hk0:=h h0
  refine⟨1,by decide,fun d h1 _=>?_⟩;rw[i6,hk,h0];rcases eB k with e|e|e
  ·exact absurd e hk0
  ·have:=bF h1 e;grind
  ·have:=bF (a:=d) (b:= -k) h1 (by grind);grind
 ·have key: ∀w:Rat,0<w-> ∃e:Rat,0<e/\ ∀d,0<d->d<=e-> ∀j:Rat,(j=k\/j= -k)->0<w+d*j:=fun w hw=>by
   have hA: ∃A:Rat,0<A/\k<=A/\ -k<=A:=by
    rcases eB k with e|e|e
    ·exact⟨1,by decide,by grind,by grind⟩
    ·exact⟨k,e,by grind,by grind⟩
    ·exact⟨-k,by grind,by grind,by grind⟩
   obtain⟨A,a1,a2,a3⟩:=hA;refine⟨w/(2*A),?_,fun d d1 d2 j hj=>?_⟩
   ·have e1:w/(2*A)*(2*A)=w:=by grind
    exact(gp (k:=2*A) (by grind)).1 (by rw[e1];exact hw)
   ·have e1:w/(2*A)*(2*A)=w:=by grind
    generalize w/(2*A)=f at*;have h1:=cj (a:=f-d) (b:=A) (by grind) (by grind);have h2:=cj (a:=d) (b:=A+j) (by grind) (by rcases hj with rfl|rfl<;>grind);grind
  rcases eB (l.value p) with e|e|e
  ·exact absurd e h0
  ·obtain⟨f,f1,f2⟩:=key _ e
   refine⟨f,f1,fun d d1 d2=>?_⟩;have:=f2 d d1 d2 k (.inl J);rw[i6,hk];grind
  ·obtain⟨f,f1,f2⟩:=key (-l.value p) (by grind)
   refine⟨f,f1,fun d d1 d2=>?_⟩;have:=f2 d d1 d2 (-k) (.inr J);rw[i6,hk];grind
def EP: ∀{t:Tr} {p v:aa},Gn t.lns p v-> ∃e:Rat,0<e/\ ∀d,0<d->d<=e->iw t.lns (bt p v d)/\fj t p v=(t.val (bt p v d),true)
 | .leaf b,p,v,_=>⟨1,by decide,fun d _ _=>⟨fun l hl=>(by cases hl),J⟩⟩
 | .node l x y,p,v,h=>by
  obtain⟨e1,a1,b1⟩:=aFj (h l aQ);obtain⟨e2,a2,b2⟩:=EP (t:=x) (p:=p) (v:=v) (fun m hm=>h m (aZ _ (bM _ hm)));obtain⟨e3,a3,b3⟩:=EP (t:=y) (p:=p) (v:=v) (fun m hm=>h m (aZ _ (cJ _ hm)));have hgn:=h l aQ;have hm: ∃e:Rat,0<e/\e<=e1/\e<=e2/\e<=e3:=by
   by_cases h1:e1<=e2
   ·by_cases h2:e1<=e3
    ·exact⟨e1,a1,by grind,h1,h2⟩
    ·exact⟨e3,a3,by grind,by grind,by grind⟩
   ·by_cases h2:e2<=e3
    ·exact⟨e2,a2,by grind,by grind,h2⟩
    ·exact⟨e3,a3,by grind,by grind,by grind⟩
  obtain⟨e,h0,h1,h2,h3⟩:=hm;refine⟨e,h0,fun d d1 d2=>?_⟩;obtain⟨c1,c2⟩:=b1 d d1 (by grind);obtain⟨o2,w2⟩:=b2 d d1 (by grind);obtain⟨o3,w3⟩:=b3 d d1 (by grind);have hs:(if(l.value p).num.sign=0 then(l.dir.cross v).num.sign else(l.value p).num.sign)=if 0<l.value (bt p v d) then 1 else-1:=by
   rw[ym];by_cases hz:l.value p=0
   ·rw[if_pos ((jA _).2 hz)]
    split
    ·rename_i hp
     exact(jd _).2 (by rcases c1.1 hp with k|k;exact absurd k (by grind);exact k.2)
    ·rename_i hp
     have:l.nor.dot v<0:=by have:=hgn hz;have: ¬0<l.nor.dot v:=fun e=>hp (c1.2 (.inr ⟨hz,e⟩));grind
     exact Int.sign_eq_neg_one_iff_neg.2 (by have:=(lc _).2 this;rcases lW (l.nor.dot v).num 0 with q|q|q;exact q;rw[q] at this;simp at this;rw[fT q] at this;simp at this)
   ·rw[if_neg (fun e=>hz ((jA _).1 e))]
    split
    ·rename_i hp
     exact(jd _).2 (by rcases c1.1 hp with k|k;exact k;exact absurd k.1 hz)
    ·rename_i hp
     have:l.value p<0:=by have: ¬0<l.value p:=fun e=>hp (c1.2 (.inl e));grind
     exact Int.sign_eq_neg_one_iff_neg.2 (by have:=(lc _).2 this;rcases lW (l.value p).num 0 with q|q|q;exact q;rw[q] at this;simp at this;rw[fT q] at this;simp at this)
  have hz:l.value (bt p v d)≠0:=fun e=>by
   rcases eB (l.value p) with q|q|q
   ·rcases eB (l.nor.dot v) with r|r|r
    ·exact hgn q r
    ·have:=c1.2 (.inr ⟨q,r⟩);grind
    ·have:=c2.2 (.inr ⟨q,r⟩);grind
   ·have:=c1.2 (.inl q);grind
   ·have:=c2.2 (.inl q);grind
  refine⟨fun m hm=>?_,?_⟩
  ·rcases aW.1 hm with rfl|hm
   ·exact hz
   ·exact(bW.1 hm).elim (o2 m) (o3 m)
  ·rw[fj,hs]
   by_cases hp:0<l.value (bt p v d)
   ·rw[if_pos hp,Tr.val_pos hp];exact w2
   ·rw[if_neg hp,Tr.val_neg hp];exact w3
end Go.Sx
end
