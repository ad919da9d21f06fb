import Derived.Test.YtefoocgiaegobaaGreatDoorPh14
set_option linter.all false
set_option maxRecDepth 100000
section
namespace Go.Sx
open Go Go.Proofs Tryz
def Tr.val:Tr->aa->Bool
 | .leaf b,_=>b
 | .node l x y,p=>if 0<l.value p then x.val p else y.val p
def Tr.lns:Tr->List ab
 | .leaf _=>[]
 | .node l x y=>l::(x.lns++y.lns)
def pb{P:ab->Prop}: ∀{t:Tr},t.all P↔ ∀l∈t.lns,P l
 | .leaf _=>⟨fun _ l hl=>(by cases hl),fun _=>trivial⟩
 | .node l x y=>by
  show(P l/\x.all P/\y.all P)↔ ∀m∈l::(x.lns++y.lns),P m;rw[pb (t:=x),pb (t:=y)];constructor
  ·rintro ⟨h0,h1,h2⟩ m hm
   rcases aU.1 hm with rfl|hm
   ·exact h0
   ·rcases bV.1 hm with hm|hm
    ·exact h1 m hm
    ·exact h2 m hm
  ·intro h
   exact⟨h l aQ,fun m hm=>h m (aZ _ (bJ _ hm)),fun m hm=>h m (aZ _ (cZ _ hm))⟩
def qd{t:Tr}(h:t.all ab.ok): ∀l∈t.lns,l.ok:=pb.1 h
def eB(L:List ab)(p:aa):Prop:= ∀l∈L,l.value p≠0
def eB.sub{L M:List ab}{p:aa}(h:eB L p)(k: ∀l∈M,l∈L):eB M p:=fun l hl=>h l (k l hl)
def eB.l{l:ab}{x y:Tr}{p:aa}(h:eB (Tr.node l x y).lns p):l.value p≠0:=h l aQ
def eB.x{l:ab}{x y:Tr}{p:aa}(h:eB (Tr.node l x y).lns p):eB x.lns p:=h.sub fun m hm=>aZ _ (bJ _ hm)
def eB.y{l:ab}{x y:Tr}{p:aa}(h:eB (Tr.node l x y).lns p):eB y.lns p:=h.sub fun m hm=>aZ _ (cZ _ hm)
def eB.app{L M:List ab}{p:aa}:eB (L++M) p↔eB L p/\eB M p:=by
 unfold eB;constructor
 ·intro h;exact⟨fun l hl=>h l (bJ _ hl),fun l hl=>h l (cZ _ hl)⟩
 ·rintro ⟨h1,h2⟩ l hl;rcases bV.1 hl with h|h;exact h1 l h;exact h2 l h
def opB(op:Int)(a b:Bool):Bool:=if op=1 then a||b else if op=2 then a&&b else if op=3 then a&&!b else a !=b
def Tr.val_join(l:ab)(X Y:Tr)(p:aa):(Tr.joinQ l X Y).val p=(Tr.node l X Y).val p:=by
 unfold Tr.joinQ;split
 ·rename_i h
  cases X<;>cases Y<;>simp[Tr.isLeaf,Tr.code] at h
  subst h;simp[Tr.val]
 ·rfl
def Tr.val_pos{l:ab}{x y:Tr}{p:aa}(h:0<l.value p):(Tr.node l x y).val p=x.val p:=by rw[Tr.val,if_pos h]
def Tr.val_neg{l:ab}{x y:Tr}{p:aa}(h: ¬0<l.value p):(Tr.node l x y).val p=y.val p:=by rw[Tr.val,if_neg h]
def Jp{c:aE}{l:ab}(hc:dG c)(hl:l.ok)(hb:cP c l.rev=false){p:aa}(hp:bH c p)(h0:l.value p≠0):0<l.value p:=by
 by_cases h:0<l.value p
 ·exact h
 ·exfalso
  have:cP c l.rev=true:=(rG hc hl.rev).2 ⟨p,hp,by rw[fI];grind⟩;rw[hb] at this;cases this
def OV{c:aE}{l:ab}(hc:dG c)(hl:l.ok)(hb:cP c l=false){p:aa}(hp:bH c p): ¬0<l.value p:=fun h=>by
 have:cP c l=true:=(rG hc hl).2 ⟨p,hp,h⟩;rw[hb] at this;cases this
def Tr.val_restrict: ∀(t:Tr) (c:aE) (p:aa),t.all ab.ok->dG c->bH c p->eB t.lns p->(t.restrict c).val p=t.val p
 | .leaf _,_,_,_,_,_,_=>rfl
 | .node l x y,c,p,⟨hl,hx,hy⟩,hc,hp,ho=>by
  cases hb:cP c l.rev with
  |false=>rw[Tr.restrict_A _ _ hb,x.val_restrict c p hx hc hp ho.x,Tr.val_pos (Jp hc hl hb hp ho.l)]
  |true=>
   cases hb2:cP c l with
   |false=>rw[Tr.restrict_B _ _ hb hb2,y.val_restrict c p hy hc hp ho.y,Tr.val_neg (OV hc hl hb2 hp)]
   |true=>
    rw[Tr.restrict_C _ _ hb hb2,Tr.val_join];obtain⟨g1,i1⟩:=j' hc hl hb2;obtain⟨g2,i2⟩:=j' hc hl.rev hb;by_cases h:0<l.value p
    ·rw[Tr.val_pos h,Tr.val_pos h,x.val_restrict _ p hx g1 ((i1 p).2 ⟨hp,h⟩) ho.x]
    ·rw[Tr.val_neg h,Tr.val_neg h,y.val_restrict _ p hy g2 ((i2 p).2 ⟨hp,by rw[fI];have:=ho.l;grind⟩) ho.y]
def HL: ∀(L:List ab) (u:aa) (p:aa),eB L p-> ∃e:Rat,0<e/\ ∀d,0<=d->d<=e->eB L (cd p u d)
 |[],u,p,_=>⟨1,by decide,fun d _ _ l hl=>by cases hl⟩
 |l::L,u,p,h=>by
  obtain⟨e,he,hm⟩:=HL L u p (h.sub fun m hm=>aZ _ hm);have h0:=h l aQ;have key: ∃f:Rat,0<f/\ ∀d,0<=d->d<=f->l.value (cd p u d)≠0:=by
   by_cases hk:l.nor.dot u=0
   ·exact⟨1,by decide,fun d _ _=>by rw[ie,hk];grind⟩
   ·generalize hA:l.value p=A at*
    generalize hB:l.nor.dot u=B at*;rcases fp A with h|h|h
    ·exact absurd h h0
    ·rcases fp B with k|k|k
     ·exact absurd k hk
     ·exact⟨1,by decide,fun d hd _=>by rw[ie,hA,hB];have:=er hd (fQ k);grind⟩
     ·refine⟨A/(-B)/2,?_,fun d hd h2=>?_⟩
      ·have:0<A/(-B):=by
        have e1:A/(-B)*(-B)=A:=by grind
        exact(iH (k:= -B) (by grind)).1 (by rw[e1];exact h)
       grind
      ·rw[ie,hA,hB]
       have e1:A/(-B)*(-B)=A:=by grind
       generalize A/(-B)=q at*;have h4:=er (a:=q/2-d) (b:= -B) (by grind) (by grind);grind
    ·rcases fp B with k|k|k
     ·exact absurd k hk
     ·refine⟨(-A)/B/2,?_,fun d hd h2=>?_⟩
      ·have:0<(-A)/B:=by
        have e1:(-A)/B*B= -A:=by grind
        exact(iH (k:=B) k).1 (by rw[e1];grind)
       grind
      ·rw[ie,hA,hB]
       have e1:(-A)/B*B= -A:=by grind
       generalize (-A)/B=q at*;have h4:=er (a:=q/2-d) (b:=B) (by grind) (by grind);grind
     ·exact⟨1,by decide,fun d hd _=>by rw[ie,hA,hB];have:=er hd (b:= -B) (by grind);grind⟩
  obtain⟨f,hf,hk⟩:=key;refine⟨if e<=f then e else f,by split<;>assumption,fun d hd hde m hm'=>?_⟩;have h1:d<=e/\d<=f:=by split at hde<;>grind
  rcases aU.1 hm' with rfl|hm'
  ·exact hk d hd h1.2
  ·exact hm d hd h1.1 m hm'
def Bb{c:aE}{p:aa}(hp:bH c p): ∀(L:List ab),(∀l∈L,l.ok)-> ∃q,bH c q/\eB L q
 |[],_=>⟨p,hp,fun l hl=>by cases hl⟩
 |l::L,h=>by
  obtain⟨q,hq,ho⟩:=Bb hp L fun m hm=>h m (aZ _ hm);by_cases h0:l.value q=0
  ·have hn:=n4 (h l aQ).ne
   obtain⟨e,he,hm⟩:=hq.open l.nor;obtain⟨f,hf,hk⟩:=HL L l.nor q ho;refine⟨cd q l.nor (if e<=f then e else f),hm _ (by split<;>grind) (by split<;>grind),fun m hm'=>?_⟩;rcases aU.1 hm' with rfl|hm'
   ·rw[ie,h0]
    have:=b9 (a:=if e<=f then e else f) (b:=m.nor.dot m.nor) (by split<;>assumption) hn;grind
   ·exact hk _ (by split<;>grind) (by split<;>grind) m hm'
  ·exact⟨q,hq,fun m hm=>by rcases aU.1 hm with rfl|hm;exact h0;exact ho m hm⟩
def T5{c:aE}(hc:dG c)(L:List ab)(h: ∀l∈L,l.ok): ∃q,bH c q/\eB L q:=by
 obtain⟨p,hp⟩:=hc.ne;exact Bb hp L h
def Tr.Red:Tr->aE->Prop
 | .leaf _,_=>True
 | .node l x y,c=>cP c l=true/\cP c l.rev=true/\x.Red (bF c l)/\y.Red (bF c l.rev)/\ ¬(x.isLeaf=true/\y.isLeaf=true/\x.code=y.code)
def Tr.red_leaf{t:Tr}(h:t.isLeaf=true)(c:aE):t.Red c:=by
 cases t with
 |leaf b=>trivial
 |node l x y=>cases h
def Tr.join_red{l:ab}{x y:Tr}{c:aE}(h1:cP c l=true)(h2:cP c l.rev=true)(hx:x.Red (bF c l))(hy:y.Red (bF c l.rev)):(Tr.joinQ l x y).Red c:=by
 rcases Tr.joinQ_cases l x y with⟨e,h⟩|⟨e,h⟩
 ·rw[e];exact Tr.red_leaf h c
 ·rw[e];exact⟨h1,h2,hx,hy,h⟩
def Tr.restrict_red: ∀(t:Tr) (c:aE),(t.restrict c).Red c
 | .leaf _,_=>trivial
 | .node l x y,c=>by
  cases hb:cP c l.rev with
  |false=>rw[Tr.restrict_A _ _ hb];exact x.restrict_red c
  |true=>
   cases hb2:cP c l with
   |false=>rw[Tr.restrict_B _ _ hb hb2];exact y.restrict_red c
   |true=>rw[Tr.restrict_C _ _ hb hb2];exact Tr.join_red hb2 hb (x.restrict_red _) (y.restrict_red _)
def Xq(p:aa):bH [] p:=fun s hs=>(by cases hs)
def ab.same(l m:ab):Prop:=m=l\/m=l.rev
instance (l m:ab):Decidable (l.same m):=inferInstanceAs (Decidable (_\/_))
def Tr.cnt(l:ab):Tr->Nat
 | .leaf _=>0
 | .node m x y=>(if l.same m then 1 else 0)+(x.cnt l+y.cnt l)
def o5{l m:ab}(h:l.same m){p:aa}(hp:l.value p=0):m.value p=0:=by
 rcases h with rfl|rfl
 ·exact hp
 ·rw[fI,hp];rfl
def BK(l:ab)(c:aE):Prop:= ∃p,bH c p/\l.value p=0
def Tr.cnt_zero{l:ab}: ∀{t:Tr} {c:aE},t.Red c->t.all ab.ok->dG c-> ¬BK l c->t.cnt l=0
 | .leaf _,_,_,_,_,_=>rfl
 | .node m x y,c,⟨h1,h2,h3,h4,_⟩,⟨hm,hx,hy⟩,hc,hn=>by
  obtain⟨g1,i1⟩:=j' hc hm h1;obtain⟨g2,i2⟩:=j' hc hm.rev h2;have e1:=Tr.cnt_zero (l:=l) h3 hx g1 (fun⟨p,hp,h0⟩=>hn ⟨p,((i1 p).1 hp).1,h0⟩);have e2:=Tr.cnt_zero (l:=l) h4 hy g2 (fun⟨p,hp,h0⟩=>hn ⟨p,((i2 p).1 hp).1,h0⟩);rw[Tr.cnt,e1,e2];by_cases hs:l.same m
  ·exfalso
   -- m crosses the cell
   obtain⟨p,hp,k1⟩:=(rG hc hm).1 h1;obtain⟨q,hq,k2⟩:=(rG hc hm.rev).1 h2;rw[fI] at k2;generalize hA:m.value p=A at*;generalize hB:m.value q=B at*;have hAB:0<A-B:=by grind
   have e:A/(A-B)*(A-B)=A:=by grind
   generalize A/(A-B)=r at*;have r0:0<=r:=(jt hAB).1 (by rw[e];exact fQ k1);have r1:r<=1:=by
    have:=(jt (s:=1-r) hAB).1 (by grind);grind
   have hz:=hp.seg hq r0 r1;have hv:m.value (bp p q r)=0:=by rw[ku,hA,hB];grind
   refine hn ⟨_,hz,?_⟩;rcases hs with rfl|rfl
   ·exact hv
   ·rw[fI] at hv;grind
  ·rw[if_neg hs]
def po(c:aE)(p:aa):Bool:=c.all fun s=>decide (0<s.l.value p)
def qk{c:aE}{p:aa}:po c p=true↔bH c p:=by
 unfold po bH;rw[eY];simp
def K9(P:List aa)(l:ab)(t:Tr):Prop:=t.all fun m=>l.same m\/ ∀p,l.value p=0->m.value p=0->p∈P
def GI{α:Type}{p q r:α->Bool}: ∀(P:List α),(∀x∈P,q x=true->p x=true)->(∀x∈P,r x=true->p x=true)->(∀x∈P,¬(q x=true/\r x=true))->P.countP q+P.countP r<=P.countP p
 |[],_,_,_=>aN _
 |x::P,h1,h2,h3=>by
  have ih:=GI (p:=p) (q:=q) (r:=r) P (fun y hy=>h1 y (aZ _ hy)) (fun y hy=>h2 y (aZ _ hy)) (fun y hy=>h3 y (aZ _ hy));have a:=h1 x aQ;have b:=h2 x aQ;have c:=h3 x aQ;rw[oV,oV,oV]
  cases hq:q x<;>cases hr:r x<;>simp_all<;>omega
def HM{α:Type}{p q r:α->Bool}: ∀(P:List α),(∀x∈P,q x=true->p x=true)->(∀x∈P,r x=true->p x=true)->(∀x∈P,¬(q x=true/\r x=true))->(∃x∈P,p x=true/\q x=false/\r x=false)->P.countP q+P.countP r+1<=P.countP p
 |[],_,_,_,⟨x,hx,_⟩=>by cases hx
 |x::P,h1,h2,h3,h4=>by
  have i2:=GI (p:=p) (q:=q) (r:=r) P (fun y hy=>h1 y (aZ _ hy)) (fun y hy=>h2 y (aZ _ hy)) (fun y hy=>h3 y (aZ _ hy));have a:=h1 x aQ;have b:=h2 x aQ;have c:=h3 x aQ;rw[oV,oV,oV];obtain⟨z,hz,k1,k2,k3⟩:=h4;rcases aU.1 hz with rfl|hz
  ·simp only[k1,k2,k3];simp;omega
  ·have ih:=HM (p:=p) (q:=q) (r:=r) P (fun y hy=>h1 y (aZ _ hy)) (fun y hy=>h2 y (aZ _ hy)) (fun y hy=>h3 y (aZ _ hy)) ⟨z,hz,k1,k2,k3⟩
   cases hq:q x<;>cases hr:r x<;>simp_all<;>omega
def Tr.cnt_le{l:ab}(hl:l.ok){P:List aa}: ∀{t:Tr} {c:aE},t.Red c->t.all ab.ok->dG c->K9 P l t->t.cnt l<=1+P.countP (po c)
 | .leaf _,_,_,_,_,_=>cJ _
 | .node m x y,c,⟨h1,h2,h3,h4,_⟩,⟨hm,hx,hy⟩,hc,⟨v0,v1,v2⟩=>by
  obtain⟨g1,i1⟩:=j' hc hm h1;obtain⟨g2,i2⟩:=j' hc hm.rev h2;have q1: ∀p∈P,po (bF c m) p=true->po c p=true:=fun p _ h=>qk.2 ((i1 p).1 (qk.1 h)).1;have q2: ∀p∈P,po (bF c m.rev) p=true->po c p=true:=fun p _ h=>qk.2 ((i2 p).1 (qk.1 h)).1;have q3: ∀p∈P,¬(po (bF c m) p=true/\po (bF c m.rev) p=true):=fun p _ ⟨a,b⟩=>by
   have a:=((i1 p).1 (qk.1 a)).2;have b:=((i2 p).1 (qk.1 b)).2;rw[fI] at b;grind
  have ct:=GI P q1 q2 q3;rw[Tr.cnt];by_cases hs:l.same m
  ·have e1:=Tr.cnt_zero (l:=l) h3 hx g1 (fun⟨p,hp,h0⟩=>by have:=((i1 p).1 hp).2;rw[o5 hs h0] at this;grind)
   have e2:=Tr.cnt_zero (l:=l) h4 hy g2 (fun⟨p,hp,h0⟩=>by have:=((i2 p).1 hp).2;rw[fI,o5 hs h0] at this;grind);rw[e1,e2,if_pos hs];omega
  ·rw[if_neg hs]
   have b1:=Tr.cnt_le hl h3 hx g1 v1;have b2:=Tr.cnt_le hl h4 hy g2 v2;by_cases w1:BK l (bF c m)
   ·by_cases w2:BK l (bF c m.rev)
    ·-- the crossing lies in the cell
     obtain⟨p,hp,k1⟩:=w1;obtain⟨q,hq,k2⟩:=w2;obtain⟨hp,ap⟩:=(i1 p).1 hp;obtain⟨hq,aq⟩:=(i2 q).1 hq;rw[fI] at aq;generalize hA:m.value p=A at*;generalize hB:m.value q=B at*;have hAB:0<A-B:=by grind
     have e:A/(A-B)*(A-B)=A:=by grind
     generalize A/(A-B)=r at*;have r0:0<=r:=(jt hAB).1 (by rw[e];exact fQ ap);have r1:r<=1:=by
      have:=(jt (s:=1-r) hAB).1 (by grind);grind
     have hz:=hp.seg hq r0 r1;have hv:m.value (bp p q r)=0:=by rw[ku,hA,hB];grind
     have hv2:l.value (bp p q r)=0:=by rw[ku,k1,k2];grind
     have hmem:bp p q r∈P:=by
      rcases v0 with h|h
      ·exact absurd h hs
      ·exact h _ hv2 hv
     have c3:=HM P q1 q2 q3 ⟨_,hmem,qk.2 hz,by
      rw[<-mQ,qk,i1];rintro ⟨_,h⟩;rw[hv] at h;grind,by
      rw[<-mQ,qk,i2];rintro ⟨_,h⟩;rw[fI,hv] at h;grind⟩
     omega
    ·rw[Tr.cnt_zero h4 hy g2 w2];omega
   ·rw[Tr.cnt_zero h3 hx g1 w1];omega
def Io(l:ab):l.rev.rev=l:=by cases l;simp[ab.rev]
def ab.same.symm{l m:ab}(h:l.same m):m.same l:=by
 rcases h with rfl|rfl
 ·exact .inl J
 ·exact .inr (Io l).symm
def ab.same.trans{l m n:ab}(h:l.same m)(k:m.same n):l.same n:=by
 rcases h with rfl|rfl
 ·exact k
 ·rcases k with rfl|rfl
  ·exact .inr J
  ·exact .inl (Io l)
def mE(K:List ab)(t:Tr):Prop:=t.all fun n=> ∃m∈K,m.same n
def vL(l m:ab):aa:=l.at (-(l.cutC m/l.cutK m))
def Bi{l m:ab}(hl:l.ok)(hm:m.ok){p:aa}(h1:l.value p=0)(h2:m.value p=0):l.same m\/p=vL l m:=by
 obtain⟨t,rfl⟩:=yj hl.ne h1;rw[mr] at h2;by_cases hk:l.cutK m=0
 ·left
  have hc:l.cutC m=0:=by rw[hk] at h2;grind
  rcases Cs hm hl (fun s=>by rw[mr,hk,hc];grind) with h|h
  ·exact .inl h
  ·exact .inr h
 ·right
  unfold vL;congr 1;grind
def mE.covers{K:List ab}(hK: ∀m∈K,m.ok){l:ab}(hl:l.ok): ∀{t:Tr},mE K t->K9 (K.map (vL l)) l t
 | .leaf _,_=>trivial
 | .node n x y,⟨⟨m,hm,hs⟩,h1,h2⟩=>by
  refine⟨?_,mE.covers hK hl h1,mE.covers hK hl h2⟩;by_cases h:l.same n
  ·exact .inl h
  ·right
   intro p k1 k2;rcases Bi hl (hK m hm) k1 (o5 hs.symm k2) with h3|h3
   ·exact absurd (h3.trans hs) h
   ·rw[h3];exact kX hm
def Kc(t:Tr):List ab->Nat
 |[]=>0
 |l::K=>t.cnt l+Kc t K
def Ks(n:ab):List ab->Nat
 |[]=>0
 |l::K=>(if l.same n then 1 else 0)+Ks n K
def Mh{n:ab}{x y:Tr}: ∀K,Kc (.node n x y) K=Ks n K+(Kc x K+Kc y K)
 |[]=>rfl
 |l::K=>by
  have:=Mh (n:=n) (x:=x) (y:=y) K;show(Tr.node n x y).cnt l+Kc (.node n x y) K=_;rw[this,Tr.cnt];show _=(if l.same n then 1 else 0)+Ks n K+(x.cnt l+Kc x K+(y.cnt l+Kc y K));omega
def No{n m:ab}(hs:m.same n): ∀{K:List ab},m∈K->1<=Ks n K
 |[],h=>by cases h
 |l::K,h=>by
  show 1<=(if l.same n then 1 else 0)+Ks n K;rcases aU.1 h with rfl|h
  ·rw[if_pos hs];omega
  ·have:=No hs h;omega
def CI{K:List ab}: ∀{t:Tr},mE K t->t.size<=Kc t K
 | .leaf _,_=>cJ _
 | .node n x y,⟨⟨m,hm,hs⟩,h1,h2⟩=>by
  have a:=CI h1;have b:=CI h2;have c:=No hs hm;rw[Mh,Tr.size];omega
def MX{t:Tr}{B:Nat}: ∀{K:List ab},(∀l∈K,t.cnt l<=B)->Kc t K<=K.length*B
 |[],_=>cJ _
 |l::K,h=>by
  have:=MX (t:=t) (B:=B) (K:=K) fun m hm=>h m (aZ _ hm);have:=h l aQ;show t.cnt l+Kc t K<=(K.length+1)*B;rw[gQ];omega
def Tr.size_le{K:List ab}(hK: ∀m∈K,m.ok){t:Tr}{c:aE}(hr:t.Red c)(ht:t.all ab.ok)(hc:dG c)(h:mE K t):t.size<=K.length*(1+K.length):=by
 refine dT (CI h) (MX fun l hl=>?_);refine dT (Tr.cnt_le (hK l hl) hr ht hc (h.covers hK (hK l hl))) ?_;have:=List.countP_le_length (p:=po c) (l:=K.map (vL l));rw[aJ] at this;omega
def mE.restrict{K:List ab}{t:Tr}(h:mE K t)(c:aE):mE K (t.restrict c):=t.restrict_all _ c h
def Tr.chooseL(op:Int)(b:Bool)(t:Tr)(c:List ab):Tr:=
 if op=1/\b=true then .leaf true
 else if(op=2\/op=3)/\b=false then .leaf false
 else if(op=3\/op=4)/\b=true then(t.restrictL c).compl else t.restrictL c
def Tr.mergeL(op:Int):Tr->Tr->List ab->Tr
 | .leaf b,u,c=>u.chooseL op b c
 | .node l x y,u,c=>if BR c l=1 then x.mergeL op u c else if BR c l= -1 then y.mergeL op u c else joinQ l (x.mergeL op u (rp (c++[l]))) (y.mergeL op u (rp (c++[l.rev])))
structure Gen (L:List ab) (a b:Tr):Prop where
 oa:a.all ab.ok
 ob:b.all ab.ok
 ok: ∀l∈L,l.ok
 la: ∀l∈a.lns,l∈L
 lb: ∀l∈b.lns,l∈L
def eO(x:Rat):List Rat->List Rat
 |[]=>[x]
 |u::t=>if u<x then u::eO x t else if u=x then u::t else x::u::t
def DD(l:List Rat):List Rat:=l.foldl (fun out x=>eO x out) []
def iu:List Rat->List Rat
 |a::b::t=>(a+b)/2::iu (b::t)
 |_=>[]
def gv:List Rat->List Rat
 |[]=>[0]
 |a::t=>(a-1)::(iu (a::t)++[(a::t).getLast (by simp)+1])
def uu{x y:Rat}: ∀{l:List Rat},y∈eO x l↔y=x\/y∈l
 |[]=>by simp[eO]
 |u::t=>by
  rw[eO];split
  ·rw[aU,uu (l:=t),aU];grind
  ·split
   ·rename_i h;subst h;simp
   ·simp
def xy{x:Rat}: ∀{l:List Rat},l.Pairwise (· < ·)->(eO x l).Pairwise (· < ·)
 |[],_=>by simp[eO]
 |u::t,h=>by
  rw[bY] at h;rw[eO];split
  ·rename_i hu
   rw[bY];refine⟨fun y hy=>?_,xy h.2⟩;rcases uu.1 hy with rfl|hy
   ·exact hu
   ·exact h.1 y hy
  ·rename_i hu
   split
   ·rw[bY];exact h
   ·rename_i hn
    have hx:x<u:=by grind
    rw[bY,bY];refine⟨fun y hy=>?_,h⟩;rcases aU.1 hy with rfl|hy
    ·exact hx
    ·have:=h.1 y hy;grind
def Hz: ∀{l:List Rat} (h:l.Pairwise (· < ·)) (hn:l≠[]),∀y∈l,y<=l.getLast hn
 |[a],_,_,y,hy=>by rw[aV] at hy;subst hy;exact gS
 |a::b::t,h,_,y,hy=>by
  rw[bY] at h;rw[List.getLast_cons (by simp)];have ih:=Hz h.2 (by simp);rcases aU.1 hy with rfl|hy
  ·have:=h.1 b aQ
   have:=ih b aQ;grind
  ·exact ih y hy
def OX:List ab->List Rat
 |[]=>[]
 |a::t=>(if a.b=0 then [a.base.x] else [])++(t.filterMap (fun b=>if crossI a b=0 then none else some (io a b).x)++OX t)
def yA(a:ab)(x:Rat):Rat:= -(((a.a:Rat)*x+(a.c:Rat))/(a.b:Rat))
def Jz(l:List ab)(x:Rat):List Rat:=l.filterMap fun a=>if a.b=0 then none else some (yA a x)
def NL(l:List ab):List aa:=(gv (DD (OX l))).flatMap fun x=>(gv (DD (Jz l x))).map fun y=>⟨x,y⟩
def aF4(l:ab)(p:aa):ab:=if 0<l.value p then l else l.rev
def il(out:List Rat)(s:ao):List Rat:=if s.nh then(if s.nl then out else eO s.lo out) else eO s.hi (if s.nl then out else eO s.lo out)
def gz(l:List ao):List Rat:=l.foldl il []
def yI:List ao->Rat->Int
 |[],_=>0
 |s::t,x=>
  let a:=if s.nl then 1 else cp x s.lo
  let b:=if s.nh then-1 else cp x s.hi
  if 0<a/\b<0 then 2 else if(a=0/\b<=0)\/(b=0/\0<=a) then 1 else yI t x
def mv(l:List ao)(x:Rat):Bool:=decide (yI l x=2)
def gi(cuts:List Rat)(i:Nat):ao:=⟨if i=0 then 0 else cuts.getD (i-1) 0,if i<cuts.length then cuts.getD i 0 else 0,decide (i=0),decide (i=cuts.length)⟩
def pp(v w:ao):ao:=⟨v.lo,w.hi,v.nl,w.nh⟩
def im(cuts:List Rat)(marks:List Bool):Nat->List ao
 |0=>[]
 |k+1=>
  let out:=im cuts marks k
  if marks.getD k false then
   (if 0<k/\marks.getD (k-1) false=true then(match out.getLast? with
    |some v=>out.dropLast++[pp v (gi cuts k)]
    |none=>out++[gi cuts k]) else out++[gi cuts k])
  else out
def kI(cuts:List Rat)(marks:List Bool):List ao:=im cuts marks marks.length
def DK(op:Int)(x y:Bool):Bool:=if op=2 then x&&y else if op=3 then x&&!y else if op=4 then x !=y else x||y
def iB(op:Int)(a b:List ao):List ao:=kI (gz (a++b)) ((gv (gz (a++b))).map fun t=>DK op (mv a t) (mv b t))
def tD(l m:ab)(side:Int):List ao:=
 if crossI l m=0 then(if(m.value l.base).num.sign=side then [ao.all] else [])
 else if(m.value (l.at (eH l (io l m)+1))).num.sign=side then [⟨eH l (io l m),0,false,true⟩] else [⟨0,eH l (io l m),true,false⟩]
def tL(l m:ab):Bool:=decide (crossI l m=0/\(m.value l.base).num.sign=0)
def jr(f:aP)(m:ab)(side:Int):List aP:=if tL f.l m then [] else(iB 2 [f.v] (tD f.l m side)).map fun v=>⟨f.l,v⟩
def MG(l:List ao):(gz l).Pairwise (· < ·)/\ ∀y∈gz l,∃s∈l,(s.nl=false/\y=s.lo)\/(s.nh=false/\y=s.hi):=by
 have key: ∀(l:List ao) (o:List Rat),o.Pairwise (· < ·)->(l.foldl il o).Pairwise (· < ·)/\ ∀y∈l.foldl il o,y∈o\/ ∃s∈l,(s.nl=false/\y=s.lo)\/(s.nh=false/\y=s.hi):=by
  intro l
  induction l with
  |nil=>intro o h;exact⟨h,fun y hy=> .inl hy⟩
  |cons s t ih=>
   intro o h;have h1:(il o s).Pairwise (· < ·)/\ ∀y∈il o s,y∈o\/(s.nl=false/\y=s.lo)\/(s.nh=false/\y=s.hi):=by
    unfold il
    cases e1:s.nl<;>cases e2:s.nh<;>simp only[if_true,cM,if_false]
    ·refine⟨xy (xy h),fun y hy=>?_⟩
     rcases uu.1 hy with h|h
     ·exact .inr (.inr ⟨trivial,h⟩)
     ·rcases uu.1 h with h|h
      ·exact .inr (.inl ⟨trivial,h⟩)
      ·exact .inl h
    ·refine⟨xy h,fun y hy=>?_⟩
     rcases uu.1 hy with h|h
     ·exact .inr (.inl ⟨trivial,h⟩)
     ·exact .inl h
    ·refine⟨xy h,fun y hy=>?_⟩
     rcases uu.1 hy with h|h
     ·exact .inr (.inr ⟨trivial,h⟩)
     ·exact .inl h
    ·exact⟨h,fun y hy=> .inl hy⟩
   obtain⟨k1,k2⟩:=ih (il o s) h1.1;refine⟨k1,fun y hy=>?_⟩;rcases k2 y hy with h2|⟨q,hq,h2⟩
   ·rcases h1.2 y h2 with h3|h3
    ·exact .inl h3
    ·exact .inr ⟨s,aQ,h3⟩
   ·exact .inr ⟨q,aZ _ hq,h2⟩
 have:=key l [] List.Pairwise.nil;refine⟨this.1,fun y hy=>?_⟩;rcases this.2 y hy with h|h
 ·cases h
 ·exact h
structure GG (cuts:List Rat) (v:ao):Prop where
 z:i8 v
 lo:v.nl=true\/v.lo∈cuts
 hi:v.nh=true\/v.hi∈cuts
def P0{cuts:List Rat}{i:Nat}(h:i<=cuts.length):GG cuts (gi cuts i):=by
 unfold gi;refine⟨⟨fun e=>?_,fun e=>?_⟩,?_,?_⟩
 ·simp only[decide_eq_true_eq] at e;simp[e]
 ·simp only[decide_eq_true_eq] at e;simp[e]
 ·by_cases h0:i=0
  ·left;simp[h0]
  ·right
   simp only[if_neg h0];rw[aK,aX (by omega)];exact jX _
 ·by_cases h0:i=cuts.length
  ·left;simp[h0]
  ·right
   simp only[if_pos (show i<cuts.length by omega)];rw[aK,aX (by omega)];exact jX _
def JM{cuts:List Rat}{marks:List Bool}: ∀{k:Nat},k<=cuts.length+1-> ∀v∈im cuts marks k,GG cuts v
 |0,_,v,hv=>by cases hv
 |k+1,hk,v,hv=>by
  have ih:=JM (cuts:=cuts) (marks:=marks) (k:=k) (by omega);have hg:=P0 (cuts:=cuts) (i:=k) (by omega);rw[im] at hv;split at hv
  ·split at hv
   ·split at hv
    ·rename_i w hw
     rcases bV.1 hv with h|h
     ·exact ih v ((List.dropLast_sublist _).subset h)
     ·rw[aV] at h;subst h
      have hw':=ih w (sZ hw);exact⟨⟨hw'.z.1,hg.z.2⟩,hw'.lo,hg.hi⟩
    ·rcases bV.1 hv with h|h
     ·exact ih v h
     ·rw[aV] at h;subst h;exact hg
   ·rcases bV.1 hv with h|h
    ·exact ih v h
    ·rw[aV] at h;subst h;exact hg
  ·exact ih v hv
def Nz{l:List Rat}:(gv l).length=l.length+1:=by
 have key: ∀(l:List Rat) (a:Rat),(iu (a::l)).length=l.length:=by
  intro l
  induction l with
  |nil=>intro a;rfl
  |cons b t ih=>intro a;rw[iu,bK,ih b,bK]
 cases l with
 |nil=>rfl
 |cons a t=>rw[gv,bK,aT,key];simp
def PU{op:Int}{a b:List ao}: ∀v∈iB op a b,GG (gz (a++b)) v:=fun v hv=>by
 unfold iB kI at hv;refine JM ?_ v hv;rw[aJ,Nz];omega
structure nH (f:aP):Prop where
 lb:LB f.l
 ok:f.l.ok
 z:i8 f.v
 lo:BQ f.v.lo 1200
 hi:BQ f.v.hi 1200
theorem BQ.zero1200:BQ (0:Rat) 1200:=BQ.mono (k:=1) ⟨by decide,by decide⟩ (by decide)
def azk{l m:ab}(hl:LB l)(hm:LB m)(hlo:l.ok){side:Int}: ∀v∈tD l m side,i8 v/\BQ v.lo 1200/\BQ v.hi 1200:=fun v hv=>by
 unfold tD at hv;split at hv
 ·split at hv
  ·rw[aV] at hv;subst hv;exact⟨i8.all,BQ.zero1200,BQ.zero1200⟩
  ·cases hv
 ·rename_i hc
  have:=Ji hlo.ne hc;split at hv
  ·rw[aV] at hv;subst hv;exact⟨⟨fun h=>(by cases h),fun _=>J⟩,this,BQ.zero1200⟩
  ·rw[aV] at hv;subst hv;exact⟨⟨fun _=>J,fun h=>(by cases h)⟩,BQ.zero1200,this⟩
def Be{f:aP}{m:ab}(h:nH f)(hm:LB m){side:Int}: ∀g∈jr f m side,nH g/\g.l=f.l/\tL f.l m=false:=fun g hg=>by
 unfold jr at hg;split at hg
 ·cases hg
 ·rename_i ho
  obtain⟨v,hv,rfl⟩:=bW.1 hg;have hi:=PU v hv;have bd: ∀y∈gz ([f.v]++tD f.l m side),BQ y 1200:=fun y hy=>by
   obtain⟨s,hs,h1⟩:=(MG _).2 y hy;rcases bV.1 hs with hs|hs
   ·rw[aV] at hs;subst hs
    rcases h1 with⟨_,rfl⟩|⟨_,rfl⟩
    ·exact h.lo
    ·exact h.hi
   ·have:=azk h.lb hm h.ok s hs
    rcases h1 with⟨_,rfl⟩|⟨_,rfl⟩
    ·exact this.2.1
    ·exact this.2.2
  refine⟨⟨h.lb,h.ok,hi.z,?_,?_⟩,J,by simpa using ho⟩
  ·rcases hi.lo with e|e
   ·rw[hi.z.1 e];exact BQ.zero1200
   ·exact bd _ e
  ·rcases hi.hi with e|e
   ·rw[hi.z.2 e];exact BQ.zero1200
   ·exact bd _ e
def kd(acc:aa->Bool):Nat->List aP->List ab->Tr
 |_,[],c=> .leaf (acc (vw c c))
 |0,_::_,_=> .leaf false
 |n+1,f::t,c=> .node f.l (kd acc n ((f::t).flatMap fun g=>jr g f.l 1) (c++[f.l])) (kd acc n ((f::t).flatMap fun g=>jr g f.l (-1)) (c++[f.l.rev]))
def Qq{f g:aP}{m:ab}{side:Int}(h:g∈jr f m side):g.l=f.l:=by
 unfold jr at h;split at h
 ·cases h
 ·obtain⟨v,_,rfl⟩:=bW.1 h;rfl
def r8{acc:aa->Bool}{P:ab->Prop}: ∀{n:Nat} {l:List aP} {c:List ab},(∀f∈l,P f.l)->(kd acc n l c).all P
 |n,[],c,_=>by unfold kd;trivial
 |0,_::_,_,_=>by unfold kd;trivial
 |n+1,f::t,c,h=>by
  rw[kd];refine⟨h f aQ,r8 fun g hg=>?_,r8 fun g hg=>?_⟩<;>
  ·obtain⟨q,hq,hg⟩:=gK.1 hg
   rw[Qq hg];exact h q hq
def AC{acc:aa->Bool}: ∀{n:Nat} {l:List aP} {c:List ab},(kd acc n l c).depth<=n
 |n,[],c=>by unfold kd;exact cJ _
 |0,_::_,_=>by unfold kd;exact cJ _
 |n+1,f::t,c=>by
  rw[kd,Tr.depth];have h1:=AC (acc:=acc) (n:=n) (l:=(f::t).flatMap fun g=>jr g f.l 1) (c:=c++[f.l]);have h2:=AC (acc:=acc) (n:=n) (l:=(f::t).flatMap fun g=>jr g f.l (-1)) (c:=c++[f.l.rev]);omega
def mm(n:Nat)(l:List aP):Prop:= ∃K:List ab,K.length<=n/\ ∀f∈l,∃m∈K,m.same f.l
def Nm{m:ab}(hm:m.Ne):m.value m.base=0:=by
 have h:=rm hm 0;rw[<-sH,ie] at h;grind
def Xr{l m:ab}(h:l.same m)(hm:m.Ne):tL m l=true:=by
 unfold tL;rw[decide_eq_true_iff];refine⟨?_,?_⟩
 ·rcases h with rfl|rfl
  ·unfold crossI;omega
  ·unfold crossI ab.rev
   show(-l.a)*l.b-l.a*(-l.b)=0;grind
 ·rw[ke]
  exact o5 h.symm (Nm hm)
def mm.split{n:Nat}{f:aP}{t:List aP}(h:mm (n+1) (f::t))(hok: ∀g∈f::t,nH g){side:Int}:mm n ((f::t).flatMap fun g=>jr g f.l side):=by
 obtain⟨K,hK,hs⟩:=h;refine⟨K.filter fun m=>!decide (m.same f.l),?_,fun g hg=>?_⟩
 ·obtain⟨m,hm,hm2⟩:=hs f aQ
  have:(K.filter fun m=>!decide (m.same f.l)).length<K.length:=by
   refine pZ.2 ⟨m,hm,by simp[hm2]⟩
  omega
 ·obtain⟨q,hq,hg⟩:=gK.1 hg
  obtain⟨_,e,ho⟩:=Be (hok q hq) (hok f aQ).lb g hg;obtain⟨m,hm,hm2⟩:=hs q hq;refine⟨m,kU.2 ⟨hm,?_⟩,by rw[e];exact hm2⟩;simp only[gL,decide_eq_false_iff_not];intro h;have:=Xr (h.symm.trans hm2) (hok q hq).ok.ne;rw[this] at ho;cases ho
def Y6{p q r:Bool}{a b c:Nat}(h:Nat.gcd a b≠0):ab.ok ⟨zv p (a/Nat.gcd (Nat.gcd a b) c),zv q (b/Nat.gcd (Nat.gcd a b) c),zv r (c/Nat.gcd (Nat.gcd a b) c)⟩:=by
 have hg:0<Nat.gcd (Nat.gcd a b) c:=kS _ (iZ h);have d0:Nat.gcd (Nat.gcd a b) c∣Nat.gcd a b:=iT _ _;have d1:Nat.gcd (Nat.gcd a b) c∣a:=nL d0 (iT _ _);have d2:Nat.gcd (Nat.gcd a b) c∣b:=nL d0 (jM _ _);have d3:Nat.gcd (Nat.gcd a b) c∣c:=jM _ _;refine⟨?_,?_⟩
 ·rintro ⟨h1,h2⟩
  have h1':=congrArg Int.natAbs h1;have h2':=congrArg Int.natAbs h2;simp only[o4,Int.natAbs_zero] at h1' h2';have e1:=Nat.div_mul_cancel d1;have e2:=Nat.div_mul_cancel d2;rw[h1',kW] at e1;rw[h2',kW] at e2;exact h (by rw[<-e1,<-e2];rfl)
 ·simp only[o4]
  rw[Nat.gcd_div d1 d2,Nat.gcd_div d0 d3,Nat.div_self hg]
def Gw(p:Bool)(a g:Nat):(zv p (a/g)).natAbs<=a:=by rw[o4];exact kY ..
def iP(m n:Int):aa:=⟨(m:Rat),(n:Rat)⟩
theorem GN{m:Int}{k:Nat}(h:m.natAbs<2^k):BI m k:=⟨h⟩
theorem FY{m:Int}{k:Nat}(h:m.natAbs<=1000)(hk:10<=k):BI m k:=⟨cS (show m.natAbs<2^10 by omega) (bZ (by decide) hk)⟩
instance aG.int (m n:Int) (i:Nat) [h:BI m i] [k:BI n i]:aG (iP m n) (i+1):=⟨inferInstanceAs (BQ (m:Rat) (i+1)),inferInstanceAs (BQ (n:Rat) (i+1))⟩
def gm(a b c:Int):ab:=
 ⟨zv (decide (a<0)) (a.natAbs/Nat.gcd (Nat.gcd a.natAbs b.natAbs) c.natAbs),zv (decide (b<0)) (b.natAbs/Nat.gcd (Nat.gcd a.natAbs b.natAbs) c.natAbs),zv (decide (c<0)) (c.natAbs/Nat.gcd (Nat.gcd a.natAbs b.natAbs) c.natAbs)⟩
def Ln{a b c:Int}(h: ¬(a=0/\b=0)):(gm a b c).ok:=
 Y6 fun e=>h ⟨kR.1 (lT e),kR.1 (lV e)⟩
def FC(a b c:Int):(gm a b c).a.natAbs<=a.natAbs/\(gm a b c).b.natAbs<=b.natAbs/\(gm a b c).c.natAbs<=c.natAbs:=⟨Gw ..,Gw ..,Gw ..⟩
def Gg{GB:Gh}{m n:Int}(hm:m.natAbs<=1000)(hn:n.natAbs<=1000):PF GB prog 79 [.v (.int .i64 m), .v (.int .i64 n)] (eP (iP m n)):=by
 refine fn func79 J J ntmps79 J J (fun C=>?_);refine cl J (zS (n:=m) (by omega) (by omega)) J<|cl J (zS (n:=n) (by omega) (by omega)) J<|?_;exact rz J J
def jE(n n':Int):Int:= -(n'-n)
def j0(m m':Int):Int:=m'-m
def pm(m n m' n':Int):Int:= -(jE n n'*m+j0 m m'*n)
def jo(m n m' n':Int):ab:=gm (jE n n') (j0 m m') (pm m n m' n')
def Oh{a b:Int}(ha:a.natAbs<=2000)(hb:b.natAbs<=1000):(a*b).natAbs<=2000000:=by
 rw[gX];exact kV ha hb
def Zr{es:List Int}{a:Nat}(h:a<es.length):(es.map vI)[(a:Int).toNat]? =some (vI es[a]):=by simp[h]
def bh(es:List Int)(n:Int)(a:Nat):Nat×Nat:=
 if h:a<es.length then((if Int.tmod es[a] n<0 then Int.tmod es[a] n+n else Int.tmod es[a] n).toNat,a+1) else(0,a)
def Fy{es:List Int}{n:Int}{a:Nat}(hn:1<=n):((bh es n a).1:Int)<n:=by
 unfold bh;split
 ·rename_i h
  have q2:=Int.tmod_lt_of_pos es[a] (show 0<n by omega);dsimp only;split<;>omega
 ·exact hn
def yx{es:List Int}{n:Int}{a:Nat}(ha:a<=es.length):(bh es n a).2<=es.length:=by
 unfold bh;split
 ·assumption
 ·exact ha
def pF(es:List Int)(a:Nat):(Int×Int)×Nat:=((((bh es 9 a).1:Int)-4,((bh es 9 (bh es 9 a).2).1:Int)-4),(bh es 9 (bh es 9 a).2).2)
def vF(es:List Int)(a:Nat):(Int×Int)×Nat:=if(pF es a).1.1=0/\(pF es a).1.2=0 then((1,0),(pF es a).2) else pF es a
def lF(es:List Int)(a:Nat):ab×Nat:=(jo (pF es a).1.1 (pF es a).1.2 ((pF es a).1.1+1*(vF es (pF es a).2).1.1) ((pF es a).1.2+1*(vF es (pF es a).2).1.2),(vF es (pF es a).2).2)
def lD(es:List Int):Nat->Nat->Tr×Nat
 |0,a=>(.leaf (decide (((bh es 2 a).1:Int)=1)),(bh es 2 a).2)
 |d+1,a=>if((bh es 4 a).1:Int)=0 then(.leaf (decide (((bh es 2 (bh es 4 a).2).1:Int)=1)),(bh es 2 (bh es 4 a).2).2) else
  (.node (lF es (bh es 4 a).2).1 (lD es d (lF es (bh es 4 a).2).2).1 (lD es d (lD es d (lF es (bh es 4 a).2).2).2).1,(lD es d (lD es d (lF es (bh es 4 a).2).2).2).2)
def Lk{GB:Gh}{b:Nat}{es:List Int}(hes:es.length<=400){a:Nat}(ha:a<=es.length){n:Int}(hn:1<=n)(hn2:n<=1000):PM GB prog 18 (jq [none,some (.v (.int .i64 n))] b) b 126 [.sl (es.map vI), .v (.int .i64 (a:Nat))] (.v (.int .i64 ((bh es n a).1:Nat))) [.sl (es.map vI), .v (.int .i64 ((bh es n a).2:Nat))]:=by
 have hel:(es.map vI).length=es.length:=by simp
 refine yv func18 J J ntmps18 J J (fun C b m lo hmb=>?_);refine br J J J (fun hc15=>?_) (fun hc15=>?_)
 .
  have hf:bh es n a=(0,a):=by unfold bh;rw[dif_neg (by omega)]
  exact r5 hmb J J (by rw[hf]<;>rfl) (by rw[hf]<;>rfl)
 .
  have hal:a<es.length:=by omega
  obtain⟨e,he⟩: ∃e,e=es[a]:=⟨_,rfl⟩;have q2:=Int.tmod_lt_of_pos e (show 0<n by omega);have q3: -n<Int.tmod e n:=by have:=Int.lt_tmod_of_pos e (show 0<n by omega);omega
  refine ix (fu:=⟨1⟩) _ J (Zr hal) J<|?_;refine aA 25 (.d (vI e)) J (by rw[he]<;>rfl) ?_;refine gx (hv:=by simp only[ah];exact⟨⟨by omega,by kernel_rfl⟩,by omega⟩) J<|?_;refine br J J J (fun hc36=>?_) (fun hc36=>?_)
  .
   have hf:bh es n a=((Int.tmod e n+n).toNat,a+1):=by unfold bh;rw[dif_pos hal,<-he,if_pos hc36]
   exact r5 hmb J J (by rw[hf];show DV.v (.int .i64 _)=DV.v (.int .i64 _);rw[pM (by omega)]) (by rw[hf]<;>rfl)
  .
   have hf:bh es n a=((Int.tmod e n).toNat,a+1):=by unfold bh;rw[dif_pos hal,<-he,if_neg hc36]
   exact r5 hmb J J (by rw[hf];show DV.v (.int .i64 _)=DV.v (.int .i64 _);rw[pM (by omega)]) (by rw[hf]<;>rfl)
abbrev ZP:=Int×Int
def ZP.q(p:ZP):aa:=iP p.1 p.2
def ZP.le(k:Nat)(p:ZP):Prop:=p.1.natAbs<=k/\p.2.natAbs<=k
def LE(p q:ZP):ZP:=(p.1+1*q.1,p.2+1*q.2)
def OY(u v:ZP):Int:=u.1*v.2-u.2*v.1
theorem Xg{m n p q:Int}(hm:m.natAbs<=1000)(hn:n.natAbs<=1000)(hp:p.natAbs<=1000)(hq:q.natAbs<=1000)(h: ¬(p=m/\q=n)):LB (jo m n p q)/\(jo m n p q).ok:=by
 have e1:(jE n q).natAbs<=2000:=by unfold jE;omega
 have e2:(j0 m p).natAbs<=2000:=by unfold j0;omega
 have e3:=Oh e1 hm;have e4:=Oh e2 hn;have e5:(pm m n p q).natAbs<=4000000:=by unfold pm;omega
 unfold jo;obtain⟨k1,k2,k3⟩:=FC (jE n q) (j0 m p) (pm m n p q);have hb:(2:Nat)^96=79228162514264337593543950336:=by decide
 refine⟨⟨⟨?_,?_,?_⟩⟩,Ln ?_⟩
 ·rw[hb];omega
 ·rw[hb];omega
 ·rw[hb];omega
 ·unfold jE j0;omega
def dq(v w:ZP):aP:=⟨jo v.1 v.2 w.1 w.2,⟨eH (jo v.1 v.2 w.1 w.2) v.q,eH (jo v.1 v.2 w.1 w.2) w.q,false,false⟩⟩
def fe(r:List ZP)(i:Nat):ZP:=r.getD ((i+1)%r.length) (0,0)
def lf(r:List ZP):Nat->List aP
 |0=>[]
 |k+1=>lf r k++[dq (r.getD k (0,0)) (fe r k)]
def iv(r:List ZP):List aP:=lf r r.length
structure fG (r:List ZP):Prop where
 n3:3<=r.length
 n6:r.length<=6
 le: ∀p∈r,ZP.le 100 p
 ne: ∀i<r.length,r.getD i (0,0)≠fe r i
def zg{r:List ZP}{i:Nat}(h:i<r.length):r.getD i (0,0)∈r:=by
 rw[aK,aX h];exact jX h
def BF{r:List ZP}{i:Nat}(h:i<r.length):fe r i∈r:=zg (cN _ (by omega))
theorem BQ.int1200{m:Int}(h:m.natAbs<=1000):BQ (m:Rat) 1200:=by
 haveI:BI m 11:=FY h (by decide);exact BQ.mono (inferInstance:BQ (m:Rat) 12) (by decide)
theorem Pw{l:ab}(hl:LB l)(ho:l.ok){m n:Int}(hm:m.natAbs<=1000)(hn:n.natAbs<=1000):BQ (eH l (iP m n)) 1200:=by
 haveI:=FY (k:=11) hm (by decide);haveI:=FY (k:=11) hn (by decide);have hd:=xu ho.ne;have hA:BI (l.a*l.a+l.b*l.b) _:=inferInstance;have hB:BI (m*l.b-n*l.a) _:=inferInstance;have hA':=Cd (j:=1200) hA (by decide);have hB':=Cd (j:=1200) hB (by decide);have e1:l.dir.dot l.dir=((l.a*l.a+l.b*l.b:Int):Rat):=by
  rw[oS,cR,cR];simp only[ab.dir,aa.dot];grind
 have e2:(iP m n).dot l.dir=((m*l.b-n*l.a:Int):Rat):=by
  rw[lU,cR,cR];simp only[ab.dir,aa.dot,iP];grind
 have hd':((0:Int):Rat)<((l.a*l.a+l.b*l.b:Int):Rat):=by rw[<-e1];exact hd
 unfold eH;rw[e2,e1];clear hA hB e1 e2;generalize l.a*l.a+l.b*l.b=D at*;generalize m*l.b-n*l.a=M at*;have hD:0<D:=Rat.intCast_lt_intCast.1 hd';refine BQ.of_fracI (n:=M) (D:=D) (by omega) ?_ hB' hA';have h0:(D:Rat)≠0:=fun e=>by rw[e] at hd';exact absurd hd' (by decide)
 have:((D.natAbs:Nat):Rat)=(D:Rat):=by
  have h1:((D.natAbs:Nat):Int)=D:=by omega
  rw[<-h1];rfl
 rw[this];grind
def OW{v w:ZP}(hv:ZP.le 100 v)(hw:ZP.le 100 w)(h:v≠w):nH (dq v w):=by
 obtain⟨h1,h2⟩:=Xg (m:=v.1) (n:=v.2) (p:=w.1) (q:=w.2) (by have:=hv.1;omega) (by have:=hv.2;omega) (by have:=hw.1;omega) (by have:=hw.2;omega) (fun e=>h (Prod.ext e.1.symm e.2.symm));exact⟨h1,h2,⟨fun e=>(by cases e),fun e=>(by cases e)⟩,Pw h1 h2 (by have:=hv.1;omega) (by have:=hv.2;omega),Pw h1 h2 (by have:=hw.1;omega) (by have:=hw.2;omega)⟩
def JZ{r:List ZP}(h:fG r): ∀{k:Nat},k<=r.length->(lf r k).length=k/\ ∀f∈lf r k,nH f
 |0,_=>⟨J,fun f hf=>by cases hf⟩
 |k+1,hk=>by
  obtain⟨h1,h2⟩:=JZ h (k:=k) (by omega);rw[lf];refine⟨by simp[h1],fun f hf=>?_⟩;rcases bV.1 hf with hf|hf
  ·exact h2 f hf
  ·rw[aV] at hf;subst hf
   exact OW (h.le _ (zg (by omega))) (h.le _ (BF (by omega))) (h.ne k (by omega))
def u6{r:List ZP}(h:fG r):(iv r).length=r.length/\ ∀f∈iv r,nH f:=JZ h (aN _)
def cI(rs:List (List ZP)):List aP:=rs.flatMap iv
def q7: ∀{rs:List (List ZP)},(∀r∈rs,fG r)->(cI rs).length<=6*rs.length/\ ∀f∈cI rs,nH f
 |[],_=>⟨aN _,fun f hf=>by cases hf⟩
 |r::rs,h=>by
  obtain⟨h1,h2⟩:=q7 (rs:=rs) fun q hq=>h q (aZ _ hq);obtain⟨k1,k2⟩:=u6 (h r aQ);have:=(h r aQ).n6;unfold cI at*;rw[nT];refine⟨by rw[aT,k1,bK];omega,fun f hf=>?_⟩;rcases bV.1 hf with hf|hf
  ·exact k2 f hf
  ·exact h2 f hf
def mF(a b c:aa):Int:=(aa.cross (cd b a (-1)) (cd c a (-1))).num.sign
def Eo(v w p:aa):Int:=
 (if cp v.y p.y<=0/\ ¬cp w.y p.y<=0/\0<mF v w p then 1 else 0)-(if¬cp v.y p.y<=0/\cp w.y p.y<=0/\mF v w p<0 then 1 else 0)
def zi(r:List ZP)(p:aa):Nat->Int
 |0=>0
 |k+1=>zi r p k+Eo (r.getD k (0,0)).q (fe r k).q p
def oo(r:List ZP)(p:aa):Int:=zi r p r.length
def vf(fill n:Int):Bool:=(decide (fill=1)&&decide (n.tmod 2≠0))||(decide (fill=2)&&decide (n≠0))
def jB(rs:List (List ZP))(fill:Int)(p:aa):Bool:=vf fill (rs.foldl (fun n r=>n+oo r p) 0)
def pk(rs:List (List ZP))(fill:Int):Tr:=kd (jB rs fill) (cI rs).length (cI rs) []
def kt(rs:List (List ZP))(fill:Int):Tr:=(pk rs fill).restrict []
structure m9 (k:Nat) (t:Tr):Prop where
 gd:t.gd
 dp:t.depth<=k
 am: ∃K:List ab,K.length<=k/\(∀l∈K,l.ok)/\mE K t
def Ws{acc:aa->Bool}{n:Nat}{l:List aP}(h: ∀f∈l,nH f)(hn:l.length=n):m9 n (kd acc n l []):=
 ⟨⟨r8 fun f hf=>(h f hf).lb,r8 fun f hf=>(h f hf).ok⟩,AC,l.map (·.l),by rw[aJ,hn];exact aN _,fun m hm=>by
  obtain⟨f,hf,rfl⟩:=bW.1 hm;exact(h f hf).ok,r8 fun f hf=>⟨f.l,kX hf, .inl rfl⟩⟩
def m9.restrict{k:Nat}{t:Tr}(h:m9 k t)(c:aE):m9 k (t.restrict c):=by
 obtain⟨K,h1,h2,h3⟩:=h.am;exact⟨Qi h.gd c,dT (t.restrict_depth c) h.dp,K,h1,h2,h3.restrict c⟩
def m9.mono{j k:Nat}{t:Tr}(h:m9 j t)(hk:j<=k):m9 k t:=by
 obtain⟨K,h1,h2,h3⟩:=h.am;exact⟨h.gd,dT h.dp hk,K,by omega,h2,h3⟩
def Z2{rs:List (List ZP)}{fill:Int}(h: ∀r∈rs,fG r)(hn:rs.length<=3):m9 18 (kt rs fill):=by
 obtain⟨h1,h2⟩:=q7 h;exact((Ws (acc:=jB rs fill) h2 J).restrict []).mono (by omega)
def Iy(p q:ZP):Int:=if p.1<q.1 then-1 else if q.1<p.1 then 1 else if p.2<q.2 then-1 else if q.2<p.2 then 1 else 0
def Kk(x:ZP):List ZP->List ZP
 |[]=>[x]
 |u::t=>if Iy u x<0 then u::Kk x t else if Iy u x=0 then u::t else x::u::t
def Vw(l:List ZP):List ZP:=l.foldl (fun out x=>Kk x out) []
def LT(a b c d:Int):List ZP:=[(a,b),(c,b),(c,d),(a,d)]
def I9{r:List ZP}{i:Nat}(h:i+1<r.length):fe r i=r.getD (i+1) (0,0):=by unfold fe;rw[fK h]
def KP{r:List ZP}{i:Nat}(h:i+1=r.length):fe r i=r.getD 0 (0,0):=by unfold fe;rw[h,Nat.mod_self]
def KW(p u v:ZP):List ZP:=[p,LE p u,LE p v]
def Bu(es:List Int):Nat->Nat->List ZP->List ZP×Nat
 |0,a,out=>(out,a)
 |n+1,a,out=>Bu es n (pF es a).2 (if out.getLast? =some (pF es a).1 then out else out++[(pF es a).1])
structure Adj (r:List ZP):Prop where
 ne: ∀i,i+1<r.length->r.getD i (0,0)≠r.getD (i+1) (0,0)
 le: ∀p∈r,ZP.le 100 p
def EY:Nat->List ZP->List ZP
 |0,l=>l
 |n+1,l=>if 1<l.length/\l.getD 0 (0,0)=l.getD (l.length-1) (0,0) then EY n l.dropLast else l
def aGQ:List ZP:=[(0,0),(2,0),(0,2)]
def Kw(es:List Int)(a:Nat):List ZP×Nat:=
 ((if(Vw (EY 6 (Bu es (3+(bh es 4 a).1) (bh es 4 a).2 []).1)).length<3 then aGQ else EY 6 (Bu es (3+(bh es 4 a).1) (bh es 4 a).2 []).1),(Bu es (3+(bh es 4 a).1) (bh es 4 a).2 []).2)
def La(es:List Int)(n m k:Int)(a:Nat):List ZP×Nat:=
 let x:=bh es n a
 let y:=bh es n x.2
 let z:=bh es m y.2
 let w:=bh es m z.2
 (LT ((x.1:Int)-k) ((y.1:Int)-k) ((x.1:Int)-k+1+z.1) ((y.1:Int)-k+1+w.1),w.2)
def B6(es:List Int)(a:Nat):List ZP×Nat:=
 let k:=bh es 4 a
 if(k.1:Int)=0 then La es 5 4 4 k.2
 else if(k.1:Int)=1 then
  let p:=pF es k.2
  let u:=vF es p.2
  let v:=vF es u.2
  if OY u.1 v.1≠0 then(KW p.1 u.1 v.1,v.2) else Kw es v.2
 else Kw es k.2
def RO:List ZP:=[(0,0),(1,0),(0,1)]
def Lj(es:List Int)(a:Nat):List ZP×Nat:=
 let k:=bh es 2 a
 if(k.1:Int)=0 then La es 3 2 1 k.2
 else
  let x:=bh es 3 k.2
  let y:=bh es 3 x.2
  let u1:=bh es 2 y.2
  let u2:=bh es 3 u1.2
  let v1:=bh es 3 u2.2
  let v2:=bh es 2 v1.2
  (if 0<OY (1+(u1.1:Int),(u2.1:Int)-1) ((v1.1:Int)-1,1+(v2.1:Int)) then KW ((x.1:Int)-1,(y.1:Int)-1) (1+(u1.1:Int),(u2.1:Int)-1) ((v1.1:Int)-1,1+(v2.1:Int)) else RO,v2.2)
def tr(es:List Int)(a:Nat):Tr×Nat:=
 let r:=B6 es a
 let k:=bh es 3 r.2
 if(k.1:Int)=0 then
  let s:=B6 es k.2
  let f:=bh es 2 s.2
  (kt [r.1,s.1] (1+(f.1:Int)),f.2)
 else
  let f:=bh es 2 k.2
  (kt [r.1] (1+(f.1:Int)),f.2)
def D2(l:ab):Tr:=(Tr.node l (.leaf true) (.leaf false)).restrict []
def qO(es:List Int):Nat->Nat->Tr×Nat
 |0,a=>
  let k:=bh es 6 a
  if(k.1:Int)=1 then(D2 (lF es k.2).1,(lF es k.2).2)
  else if(k.1:Int)=2 then((lD es 3 k.2).1.restrict [],(lD es 3 k.2).2)
  else if(k.1:Int)=3 then((tr es k.2).1.compl,(tr es k.2).2)
  else tr es k.2
 |d+1,a=>
  let k:=bh es 6 a
  if(k.1:Int)=0 then
   let x:=qO es d k.2
   let o:=bh es 4 x.2
   let y:=qO es d o.2
   (x.1.mergeQ (1+(o.1:Int)) y.1 [],y.2)
  else if(k.1:Int)=1 then(D2 (lF es k.2).1,(lF es k.2).2)
  else if(k.1:Int)=2 then((lD es 3 k.2).1.restrict [],(lD es 3 k.2).2)
  else if(k.1:Int)=3 then((tr es k.2).1.compl,(tr es k.2).2)
  else tr es k.2
def aI5(es:List Int)(a:Nat):Tr×Nat:=
 let k:=bh es 4 a
 if(k.1:Int)=0 then(D2 (lF es k.2).1,(lF es k.2).2)
 else if(k.1:Int)=1 then((lD es 2 k.2).1.restrict [],(lD es 2 k.2).2)
 else(kt [(Lj es k.2).1] 2,(Lj es k.2).2)
def cC(a b p:aa):Rat:=(b.x-a.x)*(p.y-a.y)-(b.y-a.y)*(p.x-a.x)
def nI(v w p:aa):Int:=(if v.y<=p.y/\ ¬w.y<=p.y/\0<cC v w p then 1 else 0)-(if¬v.y<=p.y/\w.y<=p.y/\cC v w p<0 then 1 else 0)
def se(v w q p:aa):Prop:= ∀s t:Rat,0<=s->s<=1->0<=t->t<=1->bp v w s≠bp q p t
def yh{a b:Rat}(h0:0<=a)(h1:a<=b)(hb:0<b):0<=a/b/\a/b<=1/\a/b*b=a:=by
 have e:a/b*b=a:=by grind
 generalize a/b=q at*;refine⟨?_,?_,e⟩
 ·exact(jt hb).1 (by rw[e];exact h0)
 ·have:=(jt (s:=1-q) hb).1 (by grind)
  grind
def SZ{q p x:aa}(hy:q.y<p.y)(h:cC q p x=0)(h1:q.y<=x.y)(h2:x.y<=p.y): ∃t,0<=t/\t<=1/\x=bp q p t:=by
 obtain⟨a1,a2,a3⟩:=yh (a:=x.y-q.y) (b:=p.y-q.y) (by grind) (by grind) (by grind);refine⟨_,a1,a2,?_⟩;generalize (x.y-q.y)/(p.y-q.y)=t at*;obtain⟨X,Y⟩:=x;unfold cC at h;unfold bp;simp only at*;have e:X=q.x+t*(p.x-q.x):=by
  have h3:(p.y-q.y)*(X-q.x)=(p.y-q.y)*(t*(p.x-q.x)):=by grind
  have h4:p.y-q.y≠0:=by grind
  have:=oM.1 (show(p.y-q.y)*(X-q.x-t*(p.x-q.x))=0 by grind);rcases this with h5|h5
  ·exact absurd h5 h4
  ·grind
 rw[e];congr 1;grind
def VJ(q p v w:aa)(e:Rat):cC q p (bp v w e)=cC q p v+e*(cC q p w-cC q p v):=by
 unfold cC bp;grind
def Nb(v w:aa)(a b e:Rat):bp (bp v w a) (bp v w b) e=bp v w (a+e*(b-a)):=by
 unfold bp;simp only[aa.mk.injEq];constructor<;>grind
def Ak(v w:aa)(e:Rat):(bp v w e).y=v.y+e*(w.y-v.y):=rfl
def Ep{a b e lo hi:Rat}(h0:0<=e)(h1:e<=1)(ha:lo<=a)(hb:lo<=b)(ha2:a<=hi)(hb2:b<=hi):lo<=a+e*(b-a)/\a+e*(b-a)<=hi:=by
 have k1:=er h0 (show 0<=b-lo by grind);have k2:=er (show 0<=1-e by grind) (show 0<=a-lo by grind);have k3:=er h0 (show 0<=hi-b by grind);have k4:=er (show 0<=1-e by grind) (show 0<=hi-a by grind);constructor<;>grind
def asU{v w q p:aa}(hn:se v w q p)(hy:q.y<p.y){a b:Rat}(a0:0<=a)(a1:a<=1)(b0:0<=b)(b1:b<=1)(ha:q.y<=(bp v w a).y/\(bp v w a).y<=p.y)(hb:q.y<=(bp v w b).y/\(bp v w b).y<=p.y)(h:cC q p (bp v w a)<0):cC q p (bp v w b)<0:=by
 by_cases k:cC q p (bp v w b)<0
 ·exact k
 ·exfalso
  obtain⟨e0,e1,e2⟩:=yh (a:= -(cC q p (bp v w a))) (b:=cC q p (bp v w b)-cC q p (bp v w a)) (by grind) (by grind) (by grind);generalize-(cC q p (bp v w a))/(cC q p (bp v w b)-cC q p (bp v w a))=e at*;have hz:cC q p (bp v w (a+e*(b-a)))=0:=by rw[<-Nb,VJ];grind
  have hh:=Ep e0 e1 ha.1 hb.1 ha.2 hb.2;rw[<-Ak,Nb] at hh;obtain⟨t,t0,t1,ht⟩:=SZ hy hz hh.1 hh.2;have h01:=Ep e0 e1 a0 b0 a1 b1;exact hn _ t h01.1 h01.2 t0 t1 ht
def Qv{v w q p:aa}(hn:se v w q p)(hy:q.y<p.y): ∃r:Bool,∀s,0<=s->s<=1->q.y<=(bp v w s).y->(bp v w s).y<=p.y->(cC q p (bp v w s)<0↔r=true):=by
 by_cases h: ∃s,0<=s/\s<=1/\(q.y<=(bp v w s).y/\(bp v w s).y<=p.y)/\cC q p (bp v w s)<0
 ·obtain⟨s,s0,s1,s2,s3⟩:=h
  exact⟨true,fun t t0 t1 h1 h2=>⟨fun _=>J,fun _=>asU hn hy s0 s1 t0 t1 s2 ⟨h1,h2⟩ s3⟩⟩
 ·exact⟨false,fun t t0 t1 h1 h2=>⟨fun k=>absurd ⟨t,t0,t1,⟨h1,h2⟩,k⟩ h,fun k=>by cases k⟩⟩
def Id(v w:aa):bp v w 0=v:=by unfold bp;cases v;simp only[aa.mk.injEq];constructor<;>grind
def I7(v w:aa):bp v w 1=w:=by unfold bp;cases w;simp only[aa.mk.injEq];constructor<;>grind
def Eu{v w:aa}{y:Rat}(h:(v.y<=y/\ ¬w.y<=y)\/(¬v.y<=y/\w.y<=y)): ∃s,0<=s/\s<=1/\(bp v w s).y=y:=by
 rcases h with⟨h1,h2⟩|⟨h1,h2⟩
 ·obtain⟨a1,a2,a3⟩:=yh (a:=y-v.y) (b:=w.y-v.y) (by grind) (by grind) (by grind)
  refine⟨_,a1,a2,?_⟩;rw[Ak];grind
 ·obtain⟨a1,a2,a3⟩:=yh (a:=v.y-y) (b:=v.y-w.y) (by grind) (by grind) (by grind)
  refine⟨_,a1,a2,?_⟩;rw[Ak];grind
def Pi{v w p:aa}{s:Rat}(h:(bp v w s).y=p.y):cC v w p=(w.y-v.y)*((bp v w s).x-p.x):=by
 unfold cC;unfold bp at*;simp only at*;rw[<-h];grind
def wX{a b:Rat}(ha:0<a):0<a*b↔0<b:=by rw[Rat.mul_comm];exact iH ha
def Ev{a b:Rat}(ha:a<0):a*b<0↔0<b:=by
 have:=wX (a:= -a) (b:=b) (by grind);constructor
 ·intro h;exact this.1 (by grind)
 ·intro h;have:=this.2 h;grind
def bI(b:Prop)[Decidable b]:Int:=if b then 1 else 0
def Cp{v w p:aa}{r:Prop}[Decidable r](h: ∀s,0<=s->s<=1->(bp v w s).y=p.y->(p.x<(bp v w s).x↔r)):nI v w p=if r then bI (v.y<=p.y)-bI (w.y<=p.y) else 0:=by
 unfold nI bI;by_cases h1:v.y<=p.y<;>by_cases h2:w.y<=p.y
 ·simp[h1,h2]
 ·obtain⟨s,s0,s1,s2⟩:=Eu (.inl ⟨h1,h2⟩)
  have e:=Pi s2;have k:=h s s0 s1 s2;have m:=wX (a:=w.y-v.y) (b:=(bp v w s).x-p.x) (by grind);rw[<-e] at m;have m2:0<cC v w p↔r:=by rw[m,<-k];grind
  simp only[h1,h2,m2];by_cases q:r<;>simp[q]
 ·obtain⟨s,s0,s1,s2⟩:=Eu (.inr ⟨h1,h2⟩)
  have e:=Pi s2;have k:=h s s0 s1 s2;have m:=Ev (a:=w.y-v.y) (b:=(bp v w s).x-p.x) (by grind);rw[<-e] at m;have m2:cC v w p<0↔r:=by rw[m,<-k];grind
  simp only[h1,h2,m2];by_cases q:r<;>simp[q]
 ·simp[h1,h2]
def tM(q p u:aa):Int:=if q.y<u.y/\u.y<=p.y/\cC q p u<0 then 1 else 0
def Om{v w q p:aa}(hn:se v w q p)(hy:q.y<p.y):nI v w p-nI v w q=tM q p v-tM q p w:=by
 obtain⟨r,hr⟩:=Qv hn hy;have ep:=Cp (v:=v) (w:=w) (p:=p) (r:=r=true) fun s s0 s1 s2=>by
  rw[<-hr s s0 s1 (by grind) (by grind)];have m:=wX (a:=p.y-q.y) (b:=(bp v w s).x-p.x) (by grind);have:cC q p (bp v w s)= -((p.y-q.y)*((bp v w s).x-p.x)):=by unfold cC;rw[s2];grind
  rw[this];generalize (p.y-q.y)*((bp v w s).x-p.x)=z at*;constructor
  ·intro k;have:=m.2 (by grind);grind
  ·intro k;have:=m.1 (by grind);grind
 have eq:=Cp (v:=v) (w:=w) (p:=q) (r:=r=true) fun s s0 s1 s2=>by
  rw[<-hr s s0 s1 (by grind) (by grind)];have m:=wX (a:=p.y-q.y) (b:=(bp v w s).x-q.x) (by grind);have:cC q p (bp v w s)= -((p.y-q.y)*((bp v w s).x-q.x)):=by unfold cC;rw[s2];grind
  rw[this];generalize (p.y-q.y)*((bp v w s).x-q.x)=z at*;constructor
  ·intro k;have:=m.2 (by grind);grind
  ·intro k;have:=m.1 (by grind);grind
 have fv:tM q p v=if r=true then bI (v.y<=p.y)-bI (v.y<=q.y) else 0:=by
  have h:=hr 0 (by decide) (by decide);rw[Id] at h;unfold tM bI;by_cases h1:v.y<=p.y<;>by_cases h2:v.y<=q.y
  ·have: ¬q.y<v.y:=by grind
   simp[h1,h2,this]
  ·have h3:q.y<v.y:=by grind
   have:=h (by grind) h1;simp only[h1,h2,h3,this];by_cases q:r=true<;>simp[q]
  ·exfalso;grind
  ·simp[h1,h2]
 have fw:tM q p w=if r=true then bI (w.y<=p.y)-bI (w.y<=q.y) else 0:=by
  have h:=hr 1 (by decide) (by decide);rw[I7] at h;unfold tM bI;by_cases h1:w.y<=p.y<;>by_cases h2:w.y<=q.y
  ·have: ¬q.y<w.y:=by grind
   simp[h1,h2,this]
  ·have h3:q.y<w.y:=by grind
   have:=h (by grind) h1;simp only[h1,h2,h3,this];by_cases q:r=true<;>simp[q]
  ·exfalso;grind
  ·simp[h1,h2]
 rw[ep,eq,fv,fw];by_cases q:r=true
 ·simp only[if_pos q];omega
 ·simp only[if_neg q]
def Yl{v w q p:aa}(hn:se v w q p)(hy:q.y=p.y):nI v w p=nI v w q:=by
 have key: ∀s,0<=s->s<=1->(bp v w s).y=p.y->(p.x<(bp v w s).x↔q.x<(bp v w s).x):=fun s s0 s1 s2=>by
  have no: ∀a b:Rat,a<=(bp v w s).x->(bp v w s).x<b->((a=q.x/\b=p.x)\/(a=p.x/\b=q.x))->False:=fun a b h1 h2 h3=>by
   obtain⟨a1,a2,a3⟩:=yh (a:=(bp v w s).x-a) (b:=b-a) (by grind) (by grind) (by grind);generalize ((bp v w s).x-a)/(b-a)=t at*;rcases h3 with⟨e1,e2⟩|⟨e1,e2⟩
   ·refine hn s t s0 s1 a1 a2 ?_
    generalize hx:bp v w s=x at*;obtain⟨X,Y⟩:=x;unfold bp;simp only[aa.mk.injEq] at*;subst e1 e2;constructor<;>grind
   ·refine hn s (1-t) s0 s1 (by grind) (by grind) ?_
    generalize hx:bp v w s=x at*;obtain⟨X,Y⟩:=x;unfold bp;simp only[aa.mk.injEq] at*;subst e1 e2;constructor<;>grind
  constructor
  ·intro h
   by_cases k:q.x<(bp v w s).x
   ·exact k
   ·by_cases k2:(bp v w s).x=q.x
    ·exfalso
     refine hn s 0 s0 s1 (by decide) (by decide) ?_;rw[Id];generalize bp v w s=x at*;obtain⟨X,Y⟩:=x;obtain⟨A,B⟩:=q;simp only[aa.mk.injEq] at*;exact⟨k2,by grind⟩
    ·exact(no p.x q.x (by grind) (by grind) (.inr ⟨J,J⟩)).elim
  ·intro h
   by_cases k:p.x<(bp v w s).x
   ·exact k
   ·by_cases k2:(bp v w s).x=p.x
    ·exfalso
     refine hn s 1 s0 s1 (by decide) (by decide) ?_;rw[I7];generalize bp v w s=x at*;obtain⟨X,Y⟩:=x;obtain⟨A,B⟩:=p;simp only[aa.mk.injEq] at*;exact⟨k2,s2⟩
    ·exact(no q.x p.x (by grind) (by grind) (.inl ⟨J,J⟩)).elim
 by_cases hc:(v.y<=p.y/\ ¬w.y<=p.y)\/(¬v.y<=p.y/\w.y<=p.y)
 ·obtain⟨s,s0,s1,s2⟩:=Eu hc
  have uq: ∀t,(bp v w t).y=p.y->t=s:=fun t ht=>by
   rw[Ak] at ht s2;have h4:w.y-v.y≠0:=by grind
   have:=oM.1 (show(w.y-v.y)*(t-s)=0 by grind);rcases this with h5|h5
   ·exact absurd h5 h4
   ·grind
  rw[Cp (p:=p) (r:=p.x<(bp v w s).x) fun t _ _ ht=>by rw[uq t ht],Cp (p:=q) (r:=p.x<(bp v w s).x) fun t _ _ ht=>by rw[uq t (by rw[ht,hy])];exact(key s s0 s1 s2).symm,hy]
 ·unfold nI
  rw[hy];by_cases h1:v.y<=p.y<;>by_cases h2:w.y<=p.y<;>simp[h1,h2] at hc⊢
def ayC(q p:aa)(t:Rat):bp p q t=bp q p (1-t):=by unfold bp;simp only[aa.mk.injEq];constructor<;>grind
def se.symm{v w q p:aa}(h:se v w q p):se v w p q:=fun s t s0 s1 t0 t1 e=>h s (1-t) s0 s1 (by grind) (by grind) (by rw[e,ayC])
def jv(r:List ZP)(p:aa):Nat->Int
 |0=>0
 |k+1=>jv r p k+nI (r.getD k (0,0)).q (fe r k).q p
def xf(r:List ZP)(q p:aa):Prop:= ∀k,k<r.length->se (r.getD k (0,0)).q (fe r k).q q p
def Lr{r:List ZP}{q p:aa}(h:xf r q p)(hy:q.y<p.y): ∀k,k<r.length->jv r p k-jv r q k=tM q p (r.getD 0 (0,0)).q-tM q p (r.getD k (0,0)).q
 |0,_=>by simp[jv]
 |k+1,hk=>by
  have ih:=Lr h hy k (by omega);have e:=Om (h k (by omega)) hy;rw[I9 (by omega)] at e;rw[jv,jv,I9 (by omega)];omega
def Nh{r:List ZP}{q p:aa}(h:xf r q p)(hy:q.y<p.y):jv r p r.length=jv r q r.length:=by
 cases hr:r.length with
 |zero=>rfl
 |succ n=>
  have ih:=Lr h hy n (by omega);have e:=Om (h n (by omega)) hy;rw[KP (by omega)] at e;rw[jv,jv,KP (by omega)];omega
def MT{r:List ZP}{q p:aa}(h:xf r q p)(hy:q.y=p.y): ∀k,k<=r.length->jv r p k=jv r q k
 |0,_=>rfl
 |k+1,hk=>by rw[jv,jv,MT h hy k (by omega),Yl (h k (by omega)) hy]
def aut{r:List ZP}{q p:aa}(h:xf r q p):jv r p r.length=jv r q r.length:=by
 by_cases h1:q.y<p.y
 ·exact Nh h h1
 ·by_cases h2:p.y<q.y
  ·exact(Nh (fun k hk=>(h k hk).symm) h2).symm
  ·exact MT h (by grind) _ (aN _)
def GZ(a b c:aa):mF a b c=(cC a b c).num.sign:=by
 unfold mF cC aa.cross cd;congr 2;grind
def LA(a b:Rat):cp a b<=0↔a<=b:=by
 have:=A6 a b;constructor
 ·intro h
  by_cases q:b<a
  ·have:=this.2 q;omega
  ·grind
 ·intro h
  by_cases q:0<cp a b
  ·have:=this.1 q;grind
  ·omega
def YB(v w p:aa):Eo v w p=nI v w p:=by
 unfold Eo nI;simp only[GZ,mD,kD,LA]
def xG(r:List ZP)(p:aa): ∀k,zi r p k=jv r p k
 |0=>rfl
 |k+1=>by rw[zi,jv,xG r p k,YB]
def VP{r:List ZP}{q p:aa}(h:xf r q p):oo r p=oo r q:=by
 unfold oo;rw[xG,xG,aut h]
def Zz(R:Rat)(p:aa):Prop:=p.x< -R\/R<p.x\/p.y< -R\/R<p.y
def CW(op:Int)(a b:Tr):Bool:=decide ((a.mergeQ op b []).isLeaf=true/\(a.mergeQ op b []).code=false)
def aDH(a b:Tr):Int:=if CW 4 a b then 0 else if CW 3 a b then-1 else if CW 3 b a then 1 else 2
def s5:Tr->aa->Bool
 | .leaf b,_=>b
 | .node l x y,p=>if(l.value p).num.sign=1 then s5 x p else if(l.value p).num.sign= -1 then s5 y p else false
def F2{L:List ab}{p q:aa}(h: ∀l∈L,0<l.value q↔0<l.value p): ∀{t:Tr},(∀l∈t.lns,l∈L)->t.val q=t.val p
 | .leaf _,_=>rfl
 | .node l x y,hl=>by
  have hx:=F2 h (t:=x) fun m hm=>hl m (aZ _ (bJ _ hm));have hy:=F2 h (t:=y) fun m hm=>hl m (aZ _ (cZ _ hm));rw[Tr.val,Tr.val,hx,hy];by_cases h1:0<l.value q
  ·rw[if_pos h1,if_pos ((h l (hl l aQ)).1 h1)]
  ·rw[if_neg h1,if_neg (fun e=>h1 ((h l (hl l aQ)).2 e))]
def D1(t:Tr):List aE:=((t.parts []).filter (·.1)).map (·.2)
def iI(l:ab)(p:aa):aE->Rat->Rat
 |[],f=>f
 |s::c,f=>iI l p c (if Int.sign (s.l.nor.dot l.nor).num<0 then(if-(s.l.value p/s.l.nor.dot l.nor)<f then-(s.l.value p/s.l.nor.dot l.nor) else f) else f)
def o7:aE->aa
 |[]=>⟨0,0⟩
 |s::c=>cd (s.l.at s.v.sample) s.l.nor (iI s.l (s.l.at s.v.sample) c 1*mkRat 1 2)
def GC{v k:Rat}(hk:k<0)(hv:0<v):0< -(v/k):=by
 have e: -(v/k)* -k=v:=by grind
 exact(iH (k:= -k) (by grind)).1 (by rw[e];exact hv)
def DT{l:ab}{p:aa}: ∀{c:aE} {f:Rat},0<f->(∀s∈c,s.l.nor.dot l.nor<0->0<s.l.value p)->0<iI l p c f/\iI l p c f<=f/\ ∀s∈c,s.l.nor.dot l.nor<0->iI l p c f<= -(s.l.value p/s.l.nor.dot l.nor)
 |[],f,hf,_=>⟨hf,gS,fun s hs=>by cases hs⟩
 |s::c,f,hf,h=>by
  have h0:=h s aQ;have h1:=fun u hu=>h u (aZ _ hu);rw[iI];by_cases hk:s.l.nor.dot l.nor<0
  ·have hp:=GC hk (h0 hk)
   rw[if_pos ((kD _).2 hk)];obtain⟨k1,k2,k3⟩:=DT (c:=c) (f:=if-(s.l.value p/s.l.nor.dot l.nor)<f then-(s.l.value p/s.l.nor.dot l.nor) else f) (by split<;>assumption) h1;refine⟨k1,?_,fun u hu=>?_⟩
   ·split at k2<;>grind
   ·rcases aU.1 hu with rfl|hu
    ·intro _;split at k2<;>grind
    ·exact k3 u hu
  ·rw[if_neg (fun e=>hk ((kD _).1 e))]
   obtain⟨k1,k2,k3⟩:=DT (c:=c) hf h1;refine⟨k1,k2,fun u hu=>?_⟩;rcases aU.1 hu with rfl|hu
   ·intro e;exact absurd e hk
   ·exact k3 u hu
def Sf: ∀{c:aE},dG c->bH c (o7 c)
 |[],_=>Xq _
 |s::c,hc=>by
  have hs:s∈s::c:=aQ;obtain⟨p1,p2⟩:=hc.edge s hs;have hin:=(p2 s.v.sample).1 (uj p1).has;have hne:=(hc.ok s hs).ne;have hself:=rm hne s.v.sample;have hpos: ∀g∈c,g.l≠s.l->0<g.l.value (s.l.at s.v.sample):=fun g hg hn=>by
   have h1:=hin g (aZ _ hg);have h2:g.l.value (s.l.at s.v.sample)≠0:=fun e=>hn (Ko hc hs (hc.ok g (aZ _ hg)) (fun p hp=>hp g (aZ _ hg)) e);grind
  have hnn:=n4 hne;have hk: ∀g∈c,g.l.nor.dot s.l.nor<0->0<g.l.value (s.l.at s.v.sample):=fun g hg hk=>hpos g hg (fun e=>by rw[e] at hk;grind);obtain⟨f1,f2,f3⟩:=DT (l:=s.l) (p:=s.l.at s.v.sample) (c:=c) (f:=1) (by decide) hk;show bH (s::c) (cd (s.l.at s.v.sample) s.l.nor (iI s.l (s.l.at s.v.sample) c 1*mkRat 1 2));rw[Pk];generalize iI s.l (s.l.at s.v.sample) c 1=F at f1 f2 f3⊢;intro g hg;rw[ie];have hhalf:0<F*(1/2):=by grind
  rcases aU.1 hg with e|hg
  ·rw[e,hself,Rat.zero_add]
   exact b9 hhalf hnn
  ·by_cases he:g.l=s.l
   ·rw[he,hself]
    have:=b9 (a:=F*(1/2)) (b:=s.l.nor.dot s.l.nor) (by grind) hnn;grind
   ·have hv:=hpos g hg he
    by_cases hk2:g.l.nor.dot s.l.nor<0
    ·have hf:=f3 g hg hk2
     generalize g.l.nor.dot s.l.nor=k at hk2 hf⊢;generalize g.l.value (s.l.at s.v.sample)=v at hf hv⊢;have e1: -(v/k)* -k=v:=by grind
     generalize-(v/k)=w at e1 hf;have:=er (a:=w-F) (b:= -k) (by grind) (by grind);clear hin hpos hk f3 hc p2;grind
    ·have h9:=er (a:=F*(1/2)) (b:=g.l.nor.dot s.l.nor) (fQ hhalf) (by grind)
     generalize F*(1/2)*g.l.nor.dot s.l.nor=z at h9⊢;clear hin hpos hk f3 hc p2;grind
def eG:Tr->aa->aa->Bool×Bool
 | .leaf b,_,_=>(b,true)
 | .node l x y,p,v=>match (if(l.value p).num.sign=0 then(l.dir.cross v).num.sign else(l.value p).num.sign) with
  |1=>eG x p v
  | -1=>eG y p v
  |_=>(false,false)
def tZ(l:ab)(v:aa):l.dir.cross v=l.nor.dot v:=by
 unfold ab.dir ab.nor aa.cross aa.dot;grind
def Gn(L:List ab)(p v:aa):Prop:= ∀l∈L,l.value p=0->l.nor.dot v≠0
def UT{l:ab}{p v:aa}(h:l.value p=0->l.nor.dot v≠0): ∃e:Rat,0<e/\ ∀d,0<d->d<=e->(0<l.value (cd p v d)↔0<l.value p\/(l.value p=0/\0<l.nor.dot v))/\(l.value (cd p v d)<0↔l.value p<0\/(l.value p=0/\l.nor.dot v<0)):=by
 generalize hk:l.nor.dot v=k at*;by_cases h0:l.value p=0
 ·have hk0:=h h0
  refine⟨1,by decide,fun d h1 _=>?_⟩;rw[ie,hk,h0];rcases fp k with e|e|e
  ·exact absurd e hk0
  ·have:=b9 h1 e;grind
  ·have:=b9 (a:=d) (b:= -k) h1 (by grind);grind
 ·have key: ∀w:Rat,0<w-> ∃e:Rat,0<e/\ ∀d,0<d->d<=e-> ∀j:Rat,(j=k\/j= -k)->0<w+d*j:=fun w hw=>by
   have hA: ∃A:Rat,0<A/\k<=A/\ -k<=A:=by
    rcases fp k with e|e|e
    ·exact⟨1,by decide,by grind,by grind⟩
    ·exact⟨k,e,by grind,by grind⟩
    ·exact⟨-k,by grind,by grind,by grind⟩
   obtain⟨A,a1,a2,a3⟩:=hA;refine⟨w/(2*A),?_,fun d d1 d2 j hj=>?_⟩
   ·have e1:w/(2*A)*(2*A)=w:=by grind
    exact(iH (k:=2*A) (by grind)).1 (by rw[e1];exact hw)
   ·have e1:w/(2*A)*(2*A)=w:=by grind
    generalize w/(2*A)=f at*;have h1:=er (a:=f-d) (b:=A) (by grind) (by grind);have h2:=er (a:=d) (b:=A+j) (by grind) (by rcases hj with rfl|rfl<;>grind);grind
  rcases fp (l.value p) with e|e|e
  ·exact absurd e h0
  ·obtain⟨f,f1,f2⟩:=key _ e
   refine⟨f,f1,fun d d1 d2=>?_⟩;have:=f2 d d1 d2 k (.inl J);rw[ie,hk];grind
  ·obtain⟨f,f1,f2⟩:=key (-l.value p) (by grind)
   refine⟨f,f1,fun d d1 d2=>?_⟩;have:=f2 d d1 d2 (-k) (.inr J);rw[ie,hk];grind
def yK: ∀{t:Tr} {p v:aa},Gn t.lns p v-> ∃e:Rat,0<e/\ ∀d,0<d->d<=e->eB t.lns (cd p v d)/\eG t p v=(t.val (cd p v d),true)
 | .leaf b,p,v,_=>⟨1,by decide,fun d _ _=>⟨fun l hl=>(by cases hl),J⟩⟩
 | .node l x y,p,v,h=>by
  obtain⟨e1,a1,b1⟩:=UT (h l aQ);obtain⟨e2,a2,b2⟩:=yK (t:=x) (p:=p) (v:=v) (fun m hm=>h m (aZ _ (bJ _ hm)));obtain⟨e3,a3,b3⟩:=yK (t:=y) (p:=p) (v:=v) (fun m hm=>h m (aZ _ (cZ _ hm)));have hgn:=h l aQ;have hm: ∃e:Rat,0<e/\e<=e1/\e<=e2/\e<=e3:=by
   by_cases h1:e1<=e2
   ·by_cases h2:e1<=e3
    ·exact⟨e1,a1,by grind,h1,h2⟩
    ·exact⟨e3,a3,by grind,by grind,by grind⟩
   ·by_cases h2:e2<=e3
    ·exact⟨e2,a2,by grind,by grind,h2⟩
    ·exact⟨e3,a3,by grind,by grind,by grind⟩
  obtain⟨e,h0,h1,h2,h3⟩:=hm;refine⟨e,h0,fun d d1 d2=>?_⟩;obtain⟨c1,c2⟩:=b1 d d1 (by grind);obtain⟨o2,w2⟩:=b2 d d1 (by grind);obtain⟨o3,w3⟩:=b3 d d1 (by grind);have hs:(if(l.value p).num.sign=0 then(l.dir.cross v).num.sign else(l.value p).num.sign)=if 0<l.value (cd p v d) then 1 else-1:=by
   rw[tZ];by_cases hz:l.value p=0
   ·rw[if_pos ((ke _).2 hz)]
    split
    ·rename_i hp
     exact(i9 _).2 (by rcases c1.1 hp with k|k;exact absurd k (by grind);exact k.2)
    ·rename_i hp
     have:l.nor.dot v<0:=by have:=hgn hz;have: ¬0<l.nor.dot v:=fun e=>hp (c1.2 (.inr ⟨hz,e⟩));grind
     exact Int.sign_eq_neg_one_iff_neg.2 (by have:=(kD _).2 this;rcases lK (l.nor.dot v).num 0 with q|q|q;exact q;rw[q] at this;simp at this;rw[dS q] at this;simp at this)
   ·rw[if_neg (fun e=>hz ((ke _).1 e))]
    split
    ·rename_i hp
     exact(i9 _).2 (by rcases c1.1 hp with k|k;exact k;exact absurd k.1 hz)
    ·rename_i hp
     have:l.value p<0:=by have: ¬0<l.value p:=fun e=>hp (c1.2 (.inl e));grind
     exact Int.sign_eq_neg_one_iff_neg.2 (by have:=(kD _).2 this;rcases lK (l.value p).num 0 with q|q|q;exact q;rw[q] at this;simp at this;rw[dS q] at this;simp at this)
  have hz:l.value (cd p v d)≠0:=fun e=>by
   rcases fp (l.value p) with q|q|q
   ·rcases fp (l.nor.dot v) with r|r|r
    ·exact hgn q r
    ·have:=c1.2 (.inr ⟨q,r⟩);grind
    ·have:=c2.2 (.inr ⟨q,r⟩);grind
   ·have:=c1.2 (.inl q);grind
   ·have:=c2.2 (.inl q);grind
  refine⟨fun m hm=>?_,?_⟩
  ·rcases aU.1 hm with rfl|hm
   ·exact hz
   ·exact(bV.1 hm).elim (o2 m) (o3 m)
  ·rw[eG,hs]
   by_cases hp:0<l.value (cd p v d)
   ·rw[if_pos hp,Tr.val_pos hp];exact w2
   ·rw[if_neg hp,Tr.val_neg hp];exact w3
def kl(p:aa):(p.half=1/\(0<p.y\/(p.y=0/\0<p.x)))\/(p.half=2/\(p.y<0\/(p.y=0/\p.x<0)))\/(p.half=0/\p.y=0/\p.x=0):=by
 unfold aa.half;simp only[mD,kD,ke];split
 ·rename_i h;exact .inl ⟨rfl,h⟩
 ·rename_i h
  split
  ·rename_i h2
   exact .inr (.inl ⟨J,by grind⟩)
  ·rename_i h2
   exact .inr (.inr ⟨J,by grind,by grind⟩)
def uv{p:aa}:p.half=1↔(0<p.y\/(p.y=0/\0<p.x)):=by
 rcases kl p with⟨h,k⟩|⟨h,k⟩|⟨h,k⟩<;>rw[h]<;>grind
def uZ{p:aa}:p.half=2↔(p.y<0\/(p.y=0/\p.x<0)):=by
 rcases kl p with⟨h,k⟩|⟨h,k⟩|⟨h,k⟩<;>rw[h]<;>grind
def c7(u v:aa):Prop:=u.half<v.half\/(u.half=v.half/\0<u.cross v)
def pB{u v:aa}:di u v<0↔c7 u v:=by
 unfold di c7;split
 ·rename_i h;exact⟨fun _=> .inl h,fun _=>by decide⟩
 ·rename_i h
  split
  ·rename_i h2;exact⟨fun e=>absurd e (by decide),fun e=>by omega⟩
  ·rename_i h2
   have e:u.half=v.half:=by omega
   rw[<-mD];constructor
   ·intro k;exact .inr ⟨e,by omega⟩
   ·rintro (k|⟨_,k⟩)
    ·omega
    ·omega
def bO(d:aa):aa:=⟨-d.x, -d.y⟩
def sA{d:aa}(h:d.half≠0):(bO d).half=3-d.half:=by
 rcases kl d with⟨e,k⟩|⟨e,k⟩|⟨e,k⟩
 ·rw[e];exact uZ.2 (by unfold bO;grind)
 ·rw[e];exact uv.2 (by unfold bO;grind)
 ·exact absurd e h
def jG{d:aa}(h:d.half≠0):d.half=1\/d.half=2:=by
 rcases kl d with⟨e,_⟩|⟨e,_⟩|⟨e,_⟩
 ·exact .inl e
 ·exact .inr e
 ·exact absurd e h
def pj(ds:List aa)(u w:aa):Prop:=(c7 u w/\ ∀d∈ds,¬(c7 u d/\c7 d w))\/((∀d∈ds,¬c7 u d)/\ ∀d∈ds,¬c7 d w)
structure tU (ds:List aa):Prop where
 nz: ∀d∈ds,d.half≠0
 neg: ∀d∈ds,bO d∈ds
def Le(u:aa):u.cross u=0:=by unfold aa.cross;grind
def gp(u v:aa):v.cross u= -u.cross v:=by unfold aa.cross;grind
def nj(u v:aa):u.cross (bO v)= -u.cross v:=by unfold aa.cross bO;grind
def pj.spec{ds:List aa}{u w:aa}(h:tU ds)(hu:u∈ds)(hw:w∈ds)(hn:pj ds u w):
  (u.half=w.half/\0<u.cross w/\ ∀d∈ds,¬(c7 u d/\c7 d w))\/(u.half≠w.half/\(∀d∈ds,d.half=u.half->0<=d.cross u)/\ ∀d∈ds,d.half=w.half->0<=w.cross d):=by
 have zu:=jG (h.nz u hu);have zw:=jG (h.nz w hw);rcases hn with⟨h1,h2⟩|⟨h1,h2⟩
 ·rcases h1 with k|⟨k,k2⟩
  ·refine .inr ⟨by omega,fun d hd e=>?_,fun d hd e=>?_⟩
   ·have:=h2 d hd
    rw[gp];by_cases hc:0<u.cross d
    ·exact absurd ⟨.inr ⟨e.symm,hc⟩, .inl (by omega)⟩ this
    ·grind
   ·have:=h2 d hd
    by_cases hc:0<d.cross w
    ·exact absurd ⟨.inl (by omega), .inr ⟨e,hc⟩⟩ this
    ·rw[gp] at hc;grind
  ·exact .inl ⟨k,k2,h2⟩
 ·have nu:=sA (h.nz u hu)
  have a1:=h1 _ (h.neg u hu);have a2:=h2 _ (h.neg u hu);unfold c7 at a1 a2;rw[nu] at a1 a2;refine .inr ⟨fun e=>?_,fun d hd e=>?_,fun d hd e=>?_⟩
  ·rcases zu with z|z
   ·exact a1 (.inl (by omega))
   ·exact a2 (.inl (by omega))
  ·have:=h1 d hd
   rw[gp];by_cases hc:0<u.cross d
   ·exact absurd (.inr ⟨e.symm,hc⟩) this
   ·grind
  ·have:=h2 d hd
   by_cases hc:0<d.cross w
   ·exact absurd (.inr ⟨e,hc⟩) this
   ·rw[gp] at hc;grind
def pj.pos{ds:List aa}{u w:aa}(h:tU ds)(hu:u∈ds)(hw:w∈ds)(hn:pj ds u w):0<=u.cross w:=by
 rcases hn.spec h hu hw with⟨_,h2,_⟩|⟨h1,h2,h3⟩
 ·grind
 ·have:=h3 _ (h.neg u hu) (by rw[sA (h.nz u hu)];have:=jG (h.nz u hu);have:=jG (h.nz w hw);omega)
  rw[nj] at this;rw[gp];exact this
def f8(a b:Rat)(u w:aa):aa:=⟨a*u.x+b*w.x,a*u.y+b*w.y⟩
def KR{a b:Rat}{u w:aa}:u.cross (f8 a b u w)=b*u.cross w/\(f8 a b u w).cross w=a*u.cross w:=by
 unfold aa.cross f8;constructor<;>grind
def Fa{a b:Rat}{u w:aa}(ha:0<a)(hb:0<b)(h:u.half=w.half)(hz:u.half≠0):(f8 a b u w).half=u.half:=by
 rcases kl u with⟨e,k⟩|⟨e,k⟩|⟨e,k⟩
 ·rw[e] at h⊢
  have k2:=uv.1 h.symm;refine uv.2 ?_;unfold f8;simp only;have p1: ∀z:Rat,0<z->0<a*z:=fun z hz=>b9 ha hz;have p2: ∀z:Rat,0<z->0<b*z:=fun z hz=>b9 hb hz;rcases k with k|⟨k,k'⟩<;>rcases k2 with l|⟨l,l'⟩
  ·have:=p1 _ k;have:=p2 _ l;grind
  ·have:=p1 _ k;rw[l];grind
  ·have:=p2 _ l;rw[k];grind
  ·have:=p1 _ k';have:=p2 _ l';rw[k,l];grind
 ·rw[e] at h⊢
  have k2:=uZ.1 h.symm;refine uZ.2 ?_;unfold f8;simp only;have p1: ∀z:Rat,z<0->a*z<0:=fun z hz=>by have:=b9 (a:=a) (b:= -z) ha (by grind);grind
  have p2: ∀z:Rat,z<0->b*z<0:=fun z hz=>by have:=b9 (a:=b) (b:= -z) hb (by grind);grind
  rcases k with k|⟨k,k'⟩<;>rcases k2 with l|⟨l,l'⟩
  ·have:=p1 _ k;have:=p2 _ l;grind
  ·have:=p1 _ k;rw[l];grind
  ·have:=p2 _ l;rw[k];grind
  ·have:=p1 _ k';have:=p2 _ l';rw[k,l];grind
 ·exact absurd e hz
def pj.none{ds:List aa}{u w:aa}(h:tU ds)(hu:u∈ds)(hw:w∈ds)(hn:pj ds u w)(hc:u.cross w≠0){a b:Rat}(ha:0<a)(hb:0<b):f8 a b u w∉ds:=fun hd=>by
 have hp:=hn.pos h hu hw;have hp:0<u.cross w:=by grind
 obtain⟨c1,c2⟩:=KR (a:=a) (b:=b) (u:=u) (w:=w);have d1:0<u.cross (f8 a b u w):=by rw[c1];exact b9 hb hp
 have d2:0<(f8 a b u w).cross w:=by rw[c2];exact b9 ha hp
 have zu:=jG (h.nz u hu);have zw:=jG (h.nz w hw);have zd:=jG (h.nz _ hd);rcases hn.spec h hu hw with⟨h1,_,h3⟩|⟨h1,h2,h3⟩
 ·have e:=Fa ha hb h1 (h.nz u hu)
  exact h3 _ hd ⟨.inr ⟨e.symm,d1⟩, .inr ⟨e.trans h1,d2⟩⟩
 ·rcases(show(f8 a b u w).half=u.half\/(f8 a b u w).half=w.half by omega) with e|e
  ·have:=h2 _ hd e
   rw[gp] at this;grind
  ·have:=h3 _ hd e
   rw[gp] at this;grind
def ta{d e:aa}(h:e.cross d=0)(hp:0<e.dot d): ∃g:Rat,0<g/\e=⟨g*d.x,g*d.y⟩:=by
 have hd:0<d.dot d:=by
  unfold aa.dot at*;have h1:=sF d.x;have h2:=sF d.y;rcases fp d.x with k|k|k
  ·rcases fp d.y with l|l|l
   ·rw[k,l] at hp;grind
   ·have:=b9 l l;grind
   ·have:=b9 (a:= -d.y) (b:= -d.y) (by grind) (by grind);grind
  ·have:=b9 k k;grind
  ·have:=b9 (a:= -d.x) (b:= -d.x) (by grind) (by grind);grind
 have key:e.x*d.dot d=e.dot d*d.x/\e.y*d.dot d=e.dot d*d.y:=by
  unfold aa.dot aa.cross at*;constructor<;>grind
 have hg:e.dot d/d.dot d*d.dot d=e.dot d:=by grind
 refine⟨e.dot d/d.dot d,(iH hd).1 (by rw[hg];exact hp),?_⟩;generalize e.dot d/d.dot d=g at*;have x1:e.x=g*d.x:=by
  have:(e.x-g*d.x)*d.dot d=0:=by rw[<-hg] at key;grind
  have hz:d.dot d≠0:=by grind
  grind
 have x2:e.y=g*d.y:=by
  have:(e.y-g*d.y)*d.dot d=0:=by rw[<-hg] at key;grind
  have hz:d.dot d≠0:=by grind
  grind
 rw[<-x1,<-x2]
def A5{e u:aa}(he:e.half≠0)(hu:u.half≠0)(hp:e.cross u=0):e.dot u≠0:=fun hz=>by
 have e1:e.x*(u.x*u.x+u.y*u.y)=0:=by unfold aa.dot aa.cross at*;grind
 have e2:e.y*(u.x*u.x+u.y*u.y)=0:=by unfold aa.dot aa.cross at*;grind
 have hu2:u.x*u.x+u.y*u.y≠0:=fun q=>by
  have h1:=sF u.x;have h2:=sF u.y;have x0:u.x=0:=by
   have:u.x*u.x=0:=by grind
   grind
  have y0:u.y=0:=by
   have:u.y*u.y=0:=by grind
   grind
  rcases kl u with⟨_,q⟩|⟨_,q⟩|⟨q,_⟩
  ·grind
  ·grind
  ·exact hu q
 have x0:e.x=0:=by grind
 have y0:e.y=0:=by grind
 rcases kl e with⟨_,q⟩|⟨_,q⟩|⟨q,_⟩
 ·grind
 ·grind
 ·exact he q
def pj.gen{ds:List aa}{u w:aa}(h:tU ds)(hu:u∈ds)(hw:w∈ds)(hn:pj ds u w)(hc:u.cross w≠0){a b:Rat}(ha:0<a)(hb:0<b): ∀d∈ds,d.cross (f8 a b u w)≠0:=fun d hd hz=>by
 have hp:=hn.pos h hu hw;have hp:0<u.cross w:=by grind
 obtain⟨c1,c2⟩:=KR (a:=a) (b:=b) (u:=u) (w:=w);have d1:0<u.cross (f8 a b u w):=by rw[c1];exact b9 hb hp
 -- of d and its opposite, one points the same way
 have key: ∀e∈ds,e.cross (f8 a b u w)=0->0<e.dot (f8 a b u w)->False:=fun e he h1 h2=>by
  obtain⟨g,g1,g2⟩:=ta h1 h2;refine hn.none h hu hw hc (a:=g*a) (b:=g*b) (b9 g1 ha) (b9 g1 hb) ?_;have:f8 (g*a) (g*b) u w=e:=by rw[g2];unfold f8;simp only[aa.mk.injEq];constructor<;>grind
  rw[this];exact he
 rcases fp (d.dot (f8 a b u w)) with k|k|k
 ·-- both 0: then d is 0, or the other is
  have hnz:=h.nz d hd;generalize f8 a b u w=v at*;have e1:d.x*(v.x*v.x+v.y*v.y)=0:=by unfold aa.dot aa.cross at*;grind
  have e2:d.y*(v.x*v.x+v.y*v.y)=0:=by unfold aa.dot aa.cross at*;grind
  have hv:v.x*v.x+v.y*v.y≠0:=fun e=>by
   have h1:=sF v.x;have h2:=sF v.y;have x0:v.x=0:=by have:v.x*v.x=0:=(by grind);grind
   have y0:v.y=0:=by have:v.y*v.y=0:=(by grind);grind
   unfold aa.cross at d1;rw[x0,y0] at d1;grind
  have x0:d.x=0:=by grind
  have y0:d.y=0:=by grind
  rcases kl d with⟨_,q⟩|⟨_,q⟩|⟨q,_⟩
  ·grind
  ·grind
  ·exact hnz q
 ·exact key d hd hz k
 ·refine key _ (h.neg d hd) ?_ ?_
  ·unfold aa.cross bO at*;grind
  ·unfold aa.dot bO at*;grind
def MZ(d u:aa):d.cross (jl u)=d.dot u:=by unfold aa.cross jl aa.dot;grind
def pj.turn{ds:List aa}{u w:aa}(h:tU ds)(hu:u∈ds)(hw:w∈ds)(hn:pj ds u w)(hc:u.cross w=0): ∀d∈ds,d.cross (jl u)≠0:=fun d hd=>by
 have zu:=jG (h.nz u hu);have zw:=jG (h.nz w hw);rw[MZ];rcases hn.spec h hu hw with⟨_,h2,_⟩|⟨h1,h2,h3⟩
 ·rw[hc] at h2;exact absurd h2 (by decide)
 have par: ∀e∈ds,e.half=u.half->e.cross u=0:=fun e he k=>by
  have a1:=h2 e he k;have a2:=h3 _ (h.neg e he) (by rw[sA (h.nz e he)];omega);rw[nj] at a2
  -- w = -g u
  have hwu:w.cross u=0:=by rw[gp,hc];rfl
  have huw:w.dot u<0:=by
   rcases fp (w.dot u) with k0|k0|k0
   ·exact absurd k0 (A5 (h.nz w hw) (h.nz u hu) hwu)
   ·obtain⟨g,g1,g2⟩:=ta hwu k0
    exfalso;apply h1;rcases kl u with⟨x,q⟩|⟨x,q⟩|⟨x,q⟩
    ·rw[x]
     refine(uv.2 ?_).symm;rw[g2];simp only;rcases q with q|⟨q,q'⟩
     ·exact .inl (b9 g1 q)
     ·exact .inr ⟨by rw[q];grind,b9 g1 q'⟩
    ·rw[x]
     refine(uZ.2 ?_).symm;rw[g2];simp only;rcases q with q|⟨q,q'⟩
     ·have:=b9 (a:=g) (b:= -u.y) g1 (by grind);exact .inl (by grind)
     ·have:=b9 (a:=g) (b:= -u.x) g1 (by grind);exact .inr ⟨by rw[q];grind,by grind⟩
    ·exact absurd x (h.nz u hu)
   ·exact k0
  obtain⟨g,g1,g2⟩:=ta (d:=u) (e:=bO w) (by unfold aa.cross bO at*;grind) (by unfold aa.dot bO at*;grind);have a3:0<= -(g*e.cross u):=by
   have e1:w=⟨-(g*u.x), -(g*u.y)⟩:=by
    have:=congrArg bO g2;unfold bO at this
    cases w
    simp only[Rat.neg_neg] at this;exact this
   rw[e1] at a2;unfold aa.cross at*;grind
  by_cases hz:0<e.cross u
  ·have:=b9 g1 hz;grind
  ·grind
 have nzd: ∀e∈ds,e.half=u.half->e.dot u≠0:=fun e he k=>A5 (h.nz e he) (h.nz u hu) (par e he k);by_cases k:d.half=u.half
 ·exact nzd d hd k
 ·have:=nzd _ (h.neg d hd) (by rw[sA (h.nz d hd)];have:=jG (h.nz d hd);omega)
  unfold aa.dot bO at*;grind
end Go.Sx
end
section
namespace Go.Sx
open Go
inductive OT where
 |z (π:List (Nat×Bool))
 |q (i:Nat) (t:OT)
 |a (i:Nat) (t:OT)
 |c (i:Nat) (t r:OT)
def OT.sz:OT->Nat
 | .z _=>0
 | .q _ t=>t.sz+1
 | .a _ t=>t.sz+1
 | .c _ t r=>t.sz+r.sz+1
def OT.d:OT->Nat
 | .z π=>π.length
 | .q _ t=>t.d+1
 | .a _ t=>t.d+1
 | .c _ t r=>Nat.max (t.d+1) r.d
section
variable {P:Program} {ops:Array Oper} {Q:Exit->Act->World->Prop} {S:World->Prop} {π₂:List (Nat×Bool)}
def vh(P:Program)(ops:Array Oper)(Q:Exit->Act->World->Prop)(K:(World->Prop)->Act->World->Prop):List Nat->OT->(World->Prop)->Act->World->Prop
 |ks, .z π,S,a,w=>vq P ops Q K ks π S a w
 |ks, .q i t,S,a,w=> ∃o v,ops[i]? =some o/\S w/\YieldsIf P ops S o v a/\vh P ops Q K ks t S (a.put o.dst v) w
 |ks, .a i t,S,a,w=>wpOp P ops Q i (t8 S (vh P ops Q K ks t)) a w/\
   ∀j,(h:j∈ks)->wpOp P ops Q j (t8 S (vh P ops Q K (bD ks j) (.a i t))) a w
 |ks, .c i t r,S,a,w=>wpOp P ops Q i (t8 S (vh P ops Q K ks t)) a w/\vh P ops Q K ks r S a w/\
   ∀j,(h:j∈ks)->wpOp P ops Q j (t8 S (vh P ops Q K (bD ks j) (.c i t r))) a w
termination_by ks t=>ks.length+t.sz
decreasing_by
 all_goals (first|(have:=FQ h;simp only[OT.sz] at*;omega)|(simp only[OT.sz];omega))
def r7(ops:Array Oper)(fin:Nat->Bool)(π₂:List (Nat×Bool)):Nat->Bool->List Nat->OT->Array Bool->List Nat->Bool
 |0,_,_,_,_,_=>false
 |n+1,false,ks, .z π,l,_=>y7 ops fin π₂ n ks π l
 |_+1,true,_, .z _,_,_=>false
 |n+1,false,ks, .q i t,l,_=>wT ops fin l i&&r7 ops fin π₂ n false ks t (l.setIfInBounds i true) []
 |_+1,true,_, .q _ _,_,_=>false
 |n+1,true,ks, .a i t,l,rs=>rs.all (fun j=>Nat.beq j i)&&r7 ops fin π₂ n false ks t (l.setIfInBounds i true) []
 |n+1,false,ks, .a i t,l,_=>!(Region.ready .any ops l).isEmpty&&(Region.ready .any ops l).all (fun j=>Nat.beq j i||ks.contains j)&&r7 ops fin π₂ n false ks t (l.setIfInBounds i true) []&&ks.all fun j=>r7 ops fin π₂ n false (bD ks j) (.a i t) (l.setIfInBounds j true) []
 |n+1,true,ks, .c i t r,l,rs=>r7 ops fin π₂ n false ks t (l.setIfInBounds i true) []&&r7 ops fin π₂ n true ks r l (bD rs i)
 |n+1,false,ks, .c i t r,l,_=>!(Region.ready .any ops l).isEmpty&&r7 ops fin π₂ n false ks t (l.setIfInBounds i true) []&&r7 ops fin π₂ n true ks r l (bD ((Region.ready .any ops l).filter fun j=>!ks.contains j) i)&&ks.all fun j=>r7 ops fin π₂ n false (bD ks j) (.c i t r) (l.setIfInBounds j true) []
end
section
variable {P:Program} {GB:Gh} {C:aC} {n:Nat} {fr fr':d5} {own own' own0 own1 own1':List c9} {bs bs0 bs1 bs1':List dE} {ops:Array Oper} {Q:Exit->Act->World->Prop} {fd:List FD} {π₂:List (Nat×Bool)} {t r:OT}
abbrev dnK (P:Program) (ops:Array Oper) (Q:Exit->Act->World->Prop) (K:(World->Prop)->Act->World->Prop) (t:OT):List Nat->(World->Prop)->Act->World->Prop:=fun ks S=>vh P ops (fi Q) K ks t S
end
end Go.Sx
end
section
namespace Go.Sx
open Go Go.Proofs Tryz
theorem LB.rev{l:ab}(h:LB l):LB l.rev:=⟨⟨by rw[show l.rev.a= -l.a from J,jU];exact h.bl.a,by rw[show l.rev.b= -l.b from J,jU];exact h.bl.b,by rw[show l.rev.c= -l.c from J,jU];exact h.bl.c⟩⟩
structure Cst (c:List ab) (k:Nat) (xs:List ab):Prop where
 le:k<=c.length
 f:F7 c (c.drop k) xs=rp c
 m: ∀m∈xs,m∈c
 n:xs.length<=k
def MO(c:List ab):Bool:=if(((c.map eL).length:Nat):Int)=0 then true else decide ((0:Int)<((((rp c).map eL).length:Nat):Int))
section
variable {α:Type} (c:α->α->Int)
def kB(x:α):List α->List α
 |[]=>[x]
 |u::t=>if c u x<0 then u::kB x t else if c u x=0 then u::t else x::u::t
def aIW(x:α)(xs:List α):Nat:=(xs.takeWhile fun u=>decide (c u x<0)).length
def Dv{x y:α}: ∀{xs:List α},y∈kB c x xs->y=x\/y∈xs
 |[],h=>by rw[kB,aV] at h;exact .inl h
 |u::t,h=>by
  rw[kB] at h;split at h
  ·rcases aU.1 h with rfl|h
   ·exact .inr aQ
   ·rcases Dv h with h|h
    ·exact .inl h
    ·exact .inr (aZ _ h)
  ·split at h
   ·exact .inr h
   ·rcases aU.1 h with rfl|h
    ·exact .inl J
    ·exact .inr h
def D6(l:List α):List α:=l.foldl (fun out x=>kB c x out) []
def FP{y:α}: ∀{l o:List α},y∈l.foldl (fun out x=>kB c x out) o->y∈l\/y∈o
 |[],o,h=> .inr h
 |x::t,o,h=>by
  rcases FP (l:=t) h with h|h
  ·exact .inl (aZ _ h)
  ·rcases Dv c h with rfl|h
   ·exact .inl aQ
   ·exact .inr h
end
def V5{α β:Type}{f:α->β}{l:List α}{k:Nat}{x:α}(h:l[k]? =some x):(l.take k).map f++[f x]=(l.take (k+1)).map f:=by
 rw[iS,h,iJ];rfl
def HR{GB:Gh}{a i:Nat}[ha:BN a i](hi:i<=400000000:=by decide):PF GB prog 194 [dN a] (dN a):=by
 have hl:=fj (dg a);have hb:=ma ha.h;refine fn func194 J J ntmps194 J J (fun C=>?_);refine Ew J J<|ap ((dg a).map dU) J J (um _) J<|?_;refine qi 5 J ?_;exact rz J J
def Zh{GB:Gh}{z:Int}{i:Nat}[hz:BI z i](hi:i<=400000000:=by decide):PF GB prog 193 [eI z] (eI z):=by
 refine fn func193 J J ntmps193 J J (fun C=>?_);refine cl J (HR (a:=z.natAbs) (i:=i) (ha:=⟨hz.h⟩) hi) J<|?_;exact rz J J
def rlD(r:RL):DV:= .tp [if r.nm then eL r.l else .ag [.v (.bool false), .sl [], .v (.bool false), .sl [], .v (.bool false), .sl []],vB (decide (r.nm/\r.l.ok))]
def smB(n:Int)(ls:List (List Nat)):Bool:=ls.all fun d=>decide ((d.length:Int)<=n)
def RL.smB(n:Int)(r:RL):Bool:=Sx.smB n [r.da,r.db,r.dc]
def rlB(n:Int)(ls:List RL):Bool:=ls.all fun r=>r.smB n
end Go.Sx
end
