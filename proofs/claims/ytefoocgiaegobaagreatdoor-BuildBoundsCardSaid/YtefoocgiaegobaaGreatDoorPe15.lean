import Derived.Test.YtefoocgiaegobaaGreatDoorPe14
set_option linter.all false
set_option maxRecDepth 100000
section
namespace Go.Sx
open Go Go.Proofs Tryz
variable {GB:Gh}
def Tr.val:Tr->ab->Bool
 | .leaf b,_=>b
 | .node l x y,p=>if 0<l.value p then x.val p else y.val p
def Tr.lns:Tr->List aa
 | .leaf _=>[]
 | .node l x y=>l::(x.lns++y.lns)
def uF{P:aa->Prop}: ∀{t:Tr},t.all P↔ ∀l∈t.lns,P l
 | .leaf _=>⟨fun _ l hl=>(by cases hl),fun _=>trivial⟩
 | .node l x y=>by
  show(P l/\x.all P/\y.all P)↔ ∀m∈l::(x.lns++y.lns),P m;rw[uF (t:=x),uF (t:=y)];constructor
  ·rintro ⟨h0,h1,h2⟩ m hm
   rcases aW.1 hm with rfl|hm
   ·exact h0
   ·rcases cX.1 hm with hm|hm
    ·exact h1 m hm
    ·exact h2 m hm
  ·intro h
   exact⟨h l aQ,fun m hm=>h m (aZ _ (cZ _ hm)),fun m hm=>h m (aZ _ (cW _ hm))⟩
def gD(L:List aa)(p:ab):Prop:= ∀l∈L,l.value p≠0
def gD.sub{L M:List aa}{p:ab}(h:gD L p)(k: ∀l∈M,l∈L):gD M p:=fun l hl=>h l (k l hl)
def gD.l{l:aa}{x y:Tr}{p:ab}(h:gD (Tr.node l x y).lns p):l.value p≠0:=h l aQ
def gD.x{l:aa}{x y:Tr}{p:ab}(h:gD (Tr.node l x y).lns p):gD x.lns p:=h.sub fun m hm=>aZ _ (cZ _ hm)
def gD.y{l:aa}{x y:Tr}{p:ab}(h:gD (Tr.node l x y).lns p):gD y.lns p:=h.sub fun m hm=>aZ _ (cW _ hm)
def opB(op:Int)(a b:Bool):Bool:=if op=1 then a||b else if op=2 then a&&b else if op=3 then a&&!b else a !=b
def Tr.val_join(l:aa)(X Y:Tr)(p:ab):(Tr.joinQ l X Y).val p=(Tr.node l X Y).val p:=by
 unfold Tr.joinQ;split
 ·rename_i h
  cases X<;>cases Y<;>simp[Tr.isLeaf,Tr.code] at h
  subst h;simp[Tr.val]
 ·rfl
def Tr.val_pos{l:aa}{x y:Tr}{p:ab}(h:0<l.value p):(Tr.node l x y).val p=x.val p:=by rw[Tr.val,if_pos h]
def Tr.val_neg{l:aa}{x y:Tr}{p:ab}(h: ¬0<l.value p):(Tr.node l x y).val p=y.val p:=by rw[Tr.val,if_neg h]
def Lh{c:aF}{l:aa}(hc:dw c)(hl:l.ok)(hb:cE c l.rev=false){p:ab}(hp:bO c p)(h0:l.value p≠0):0<l.value p:=by
 by_cases h:0<l.value p
 ·exact h
 ·exfalso
  have:cE c l.rev=true:=(ri hc hl.rev).2 ⟨p,hp,by rw[ik];grind⟩;rw[hb] at this;cases this
def JI{c:aF}{l:aa}(hc:dw c)(hl:l.ok)(hb:cE c l=false){p:ab}(hp:bO c p): ¬0<l.value p:=fun h=>by
 have:cE c l=true:=(ri hc hl).2 ⟨p,hp,h⟩;rw[hb] at this;cases this
def Tr.val_restrict: ∀(t:Tr) (c:aF) (p:ab),t.all aa.ok->dw c->bO c p->gD t.lns p->(t.restrict c).val p=t.val p
 | .leaf _,_,_,_,_,_,_=>rfl
 | .node l x y,c,p,⟨hl,hx,hy⟩,hc,hp,ho=>by
  cases hb:cE c l.rev with
  |false=>rw[Tr.restrict_A _ _ hb,x.val_restrict c p hx hc hp ho.x,Tr.val_pos (Lh hc hl hb hp ho.l)]
  |true=>
   cases hb2:cE c l with
   |false=>rw[Tr.restrict_B _ _ hb hb2,y.val_restrict c p hy hc hp ho.y,Tr.val_neg (JI hc hl hb2 hp)]
   |true=>
    rw[Tr.restrict_C _ _ hb hb2,Tr.val_join];obtain⟨g1,i1⟩:=js hc hl hb2;obtain⟨g2,i2⟩:=js hc hl.rev hb;by_cases h:0<l.value p
    ·rw[Tr.val_pos h,Tr.val_pos h,x.val_restrict _ p hx g1 ((i1 p).2 ⟨hp,h⟩) ho.x]
    ·rw[Tr.val_neg h,Tr.val_neg h,y.val_restrict _ p hy g2 ((i2 p).2 ⟨hp,by rw[ik];have:=ho.l;grind⟩) ho.y]
def Ju: ∀(L:List aa) (u:ab) (p:ab),gD L p-> ∃e:Rat,0<e/\ ∀d,0<=d->d<=e->gD L (dG p u d)
 |[],u,p,_=>⟨1,by decide,fun d _ _ l hl=>by cases hl⟩
 |l::L,u,p,h=>by
  obtain⟨e,he,hm⟩:=Ju L u p (h.sub fun m hm=>aZ _ hm);have h0:=h l aQ;have key: ∃f:Rat,0<f/\ ∀d,0<=d->d<=f->l.value (dG p u d)≠0:=by
   by_cases hk:l.nor.dot u=0
   ·exact⟨1,by decide,fun d _ _=>by rw[jG,hk];grind⟩
   ·generalize hA:l.value p=A at*
    generalize hB:l.nor.dot u=B at*;rcases n8 A with h|h|h
    ·exact absurd h h0
    ·rcases n8 B with k|k|k
     ·exact absurd k hk
     ·exact⟨1,by decide,fun d hd _=>by rw[jG,hA,hB];have:=fG hd (gJ k);grind⟩
     ·refine⟨A/(-B)/2,?_,fun d hd h2=>?_⟩
      ·have:0<A/(-B):=by
        have e1:A/(-B)*(-B)=A:=by grind
        exact(n7 (k:= -B) (by grind)).1 (by rw[e1];exact h)
       grind
      ·rw[jG,hA,hB]
       have e1:A/(-B)*(-B)=A:=by grind
       generalize A/(-B)=q at*;have h4:=fG (a:=q/2-d) (b:= -B) (by grind) (by grind);grind
    ·rcases n8 B with k|k|k
     ·exact absurd k hk
     ·refine⟨(-A)/B/2,?_,fun d hd h2=>?_⟩
      ·have:0<(-A)/B:=by
        have e1:(-A)/B*B= -A:=by grind
        exact(n7 (k:=B) k).1 (by rw[e1];grind)
       grind
      ·rw[jG,hA,hB]
       have e1:(-A)/B*B= -A:=by grind
       generalize (-A)/B=q at*;have h4:=fG (a:=q/2-d) (b:=B) (by grind) (by grind);grind
     ·exact⟨1,by decide,fun d hd _=>by rw[jG,hA,hB];have:=fG hd (b:= -B) (by grind);grind⟩
  obtain⟨f,hf,hk⟩:=key;refine⟨if e<=f then e else f,by split<;>assumption,fun d hd hde m hm'=>?_⟩;have h1:d<=e/\d<=f:=by split at hde<;>grind
  rcases aW.1 hm' with rfl|hm'
  ·exact hk d hd h1.2
  ·exact hm d hd h1.1 m hm'
def Jc{c:aF}{p:ab}(hp:bO c p): ∀(L:List aa),(∀l∈L,l.ok)-> ∃q,bO c q/\gD L q
 |[],_=>⟨p,hp,fun l hl=>by cases hl⟩
 |l::L,h=>by
  obtain⟨q,hq,ho⟩:=Jc hp L fun m hm=>h m (aZ _ hm);by_cases h0:l.value q=0
  ·have hn:=oF (h l aQ).ne
   obtain⟨e,he,hm⟩:=hq.open l.nor;obtain⟨f,hf,hk⟩:=Ju L l.nor q ho;refine⟨dG q l.nor (if e<=f then e else f),hm _ (by split<;>grind) (by split<;>grind),fun m hm'=>?_⟩;rcases aW.1 hm' with rfl|hm'
   ·rw[jG,h0]
    have:=ji (a:=if e<=f then e else f) (b:=m.nor.dot m.nor) (by split<;>assumption) hn;grind
   ·exact hk _ (by split<;>grind) (by split<;>grind) m hm'
  ·exact⟨q,hq,fun m hm=>by rcases aW.1 hm with rfl|hm;exact h0;exact ho m hm⟩
def RI{c:aF}(hc:dw c)(L:List aa)(h: ∀l∈L,l.ok): ∃q,bO c q/\gD L q:=by
 obtain⟨p,hp⟩:=hc.ne;exact Jc hp L h
def Tr.Red:Tr->aF->Prop
 | .leaf _,_=>True
 | .node l x y,c=>cE c l=true/\cE c l.rev=true/\x.Red (bF c l)/\y.Red (bF c l.rev)/\ ¬(x.isLeaf=true/\y.isLeaf=true/\x.code=y.code)
def Tr.red_leaf{t:Tr}(h:t.isLeaf=true)(c:aF):t.Red c:=by
 cases t with
 |leaf b=>trivial
 |node l x y=>cases h
def Tr.join_red{l:aa}{x y:Tr}{c:aF}(h1:cE c l=true)(h2:cE c l.rev=true)(hx:x.Red (bF c l))(hy:y.Red (bF c l.rev)):(Tr.joinQ l x y).Red c:=by
 rcases Tr.joinQ_cases l x y with⟨e,h⟩|⟨e,h⟩
 ·rw[e];exact Tr.red_leaf h c
 ·rw[e];exact⟨h1,h2,hx,hy,h⟩
def Tr.restrict_red: ∀(t:Tr) (c:aF),(t.restrict c).Red c
 | .leaf _,_=>trivial
 | .node l x y,c=>by
  cases hb:cE c l.rev with
  |false=>rw[Tr.restrict_A _ _ hb];exact x.restrict_red c
  |true=>
   cases hb2:cE c l with
   |false=>rw[Tr.restrict_B _ _ hb hb2];exact y.restrict_red c
   |true=>rw[Tr.restrict_C _ _ hb hb2];exact Tr.join_red hb2 hb (x.restrict_red _) (y.restrict_red _)
def Tr.red_restrict: ∀{t:Tr} {c:aF},t.Red c->t.restrict c=t
 | .leaf _,_,_=>rfl
 | .node l x y,c,⟨h1,h2,h3,h4,h5⟩=>by
  rw[Tr.restrict_C _ _ h2 h1,Tr.red_restrict h3,Tr.red_restrict h4];rcases Tr.joinQ_cases l x y with⟨e,h⟩|⟨e,h⟩
  ·exfalso
   unfold Tr.joinQ at e;split at e
   ·rename_i k;simp at k;exact h5 k
   ·cases x with
    |leaf b=>cases e
    |node a b d=>cases h
  ·exact e
def Rx(p:ab):bO [] p:=fun s hs=>(by cases hs)
def aa.same(l m:aa):Prop:=m=l\/m=l.rev
instance (l m:aa):Decidable (l.same m):=inferInstanceAs (Decidable (_\/_))
def Tr.cnt(l:aa):Tr->Nat
 | .leaf _=>0
 | .node m x y=>(if l.same m then 1 else 0)+(x.cnt l+y.cnt l)
def oA{l m:aa}(h:l.same m){p:ab}(hp:l.value p=0):m.value p=0:=by
 rcases h with rfl|rfl
 ·exact hp
 ·rw[ik,hp];rfl
def AL(l:aa)(c:aF):Prop:= ∃p,bO c p/\l.value p=0
def Tr.cnt_zero{l:aa}: ∀{t:Tr} {c:aF},t.Red c->t.all aa.ok->dw c-> ¬AL l c->t.cnt l=0
 | .leaf _,_,_,_,_,_=>rfl
 | .node m x y,c,⟨h1,h2,h3,h4,_⟩,⟨hm,hx,hy⟩,hc,hn=>by
  obtain⟨g1,i1⟩:=js hc hm h1;obtain⟨g2,i2⟩:=js hc hm.rev h2;have e1:=Tr.cnt_zero (l:=l) h3 hx g1 (fun⟨p,hp,h0⟩=>hn ⟨p,((i1 p).1 hp).1,h0⟩);have e2:=Tr.cnt_zero (l:=l) h4 hy g2 (fun⟨p,hp,h0⟩=>hn ⟨p,((i2 p).1 hp).1,h0⟩);rw[Tr.cnt,e1,e2];by_cases hs:l.same m
  ·exfalso
   -- m crosses the cell
   obtain⟨p,hp,k1⟩:=(ri hc hm).1 h1;obtain⟨q,hq,k2⟩:=(ri hc hm.rev).1 h2;rw[ik] at k2;generalize hA:m.value p=A at*;generalize hB:m.value q=B at*;have hAB:0<A-B:=by grind
   have e:A/(A-B)*(A-B)=A:=by grind
   generalize A/(A-B)=r at*;have r0:0<=r:=(jd hAB).1 (by rw[e];exact gJ k1);have r1:r<=1:=by
    have:=(jd (s:=1-r) hAB).1 (by grind);grind
   have hz:=hp.seg hq r0 r1;have hv:m.value (bp p q r)=0:=by rw[jP,hA,hB];grind
   refine hn ⟨_,hz,?_⟩;rcases hs with rfl|rfl
   ·exact hv
   ·rw[ik] at hv;grind
  ·rw[if_neg hs]
def ow(c:aF)(p:ab):Bool:=c.all fun s=>decide (0<s.l.value p)
def pw{c:aF}{p:ab}:ow c p=true↔bO c p:=by
 unfold ow bO;rw[fJ];simp
def Me(P:List ab)(l:aa)(t:Tr):Prop:=t.all fun m=>l.same m\/ ∀p,l.value p=0->m.value p=0->p∈P
def H0{α:Type}{p q r:α->Bool}: ∀(P:List α),(∀x∈P,q x=true->p x=true)->(∀x∈P,r x=true->p x=true)->(∀x∈P,¬(q x=true/\r x=true))->P.countP q+P.countP r<=P.countP p
 |[],_,_,_=>aL _
 |x::P,h1,h2,h3=>by
  have ih:=H0 (p:=p) (q:=q) (r:=r) P (fun y hy=>h1 y (aZ _ hy)) (fun y hy=>h2 y (aZ _ hy)) (fun y hy=>h3 y (aZ _ hy));have a:=h1 x aQ;have b:=h2 x aQ;have c:=h3 x aQ;rw[oZ,oZ,oZ]
  cases hq:q x<;>cases hr:r x<;>simp_all<;>omega
def Nh{α:Type}{p q r:α->Bool}: ∀(P:List α),(∀x∈P,q x=true->p x=true)->(∀x∈P,r x=true->p x=true)->(∀x∈P,¬(q x=true/\r x=true))->(∃x∈P,p x=true/\q x=false/\r x=false)->P.countP q+P.countP r+1<=P.countP p
 |[],_,_,_,⟨x,hx,_⟩=>by cases hx
 |x::P,h1,h2,h3,h4=>by
  have i2:=H0 (p:=p) (q:=q) (r:=r) P (fun y hy=>h1 y (aZ _ hy)) (fun y hy=>h2 y (aZ _ hy)) (fun y hy=>h3 y (aZ _ hy));have a:=h1 x aQ;have b:=h2 x aQ;have c:=h3 x aQ;rw[oZ,oZ,oZ];obtain⟨z,hz,k1,k2,k3⟩:=h4;rcases aW.1 hz with rfl|hz
  ·simp only[k1,k2,k3];simp;omega
  ·have ih:=Nh (p:=p) (q:=q) (r:=r) P (fun y hy=>h1 y (aZ _ hy)) (fun y hy=>h2 y (aZ _ hy)) (fun y hy=>h3 y (aZ _ hy)) ⟨z,hz,k1,k2,k3⟩
   cases hq:q x<;>cases hr:r x<;>simp_all<;>omega
def Tr.cnt_le{l:aa}(hl:l.ok){P:List ab}: ∀{t:Tr} {c:aF},t.Red c->t.all aa.ok->dw c->Me P l t->t.cnt l<=1+P.countP (ow c)
 | .leaf _,_,_,_,_,_=>bL _
 | .node m x y,c,⟨h1,h2,h3,h4,_⟩,⟨hm,hx,hy⟩,hc,⟨v0,v1,v2⟩=>by
  obtain⟨g1,i1⟩:=js hc hm h1;obtain⟨g2,i2⟩:=js hc hm.rev h2;have q1: ∀p∈P,ow (bF c m) p=true->ow c p=true:=fun p _ h=>pw.2 ((i1 p).1 (pw.1 h)).1;have q2: ∀p∈P,ow (bF c m.rev) p=true->ow c p=true:=fun p _ h=>pw.2 ((i2 p).1 (pw.1 h)).1;have q3: ∀p∈P,¬(ow (bF c m) p=true/\ow (bF c m.rev) p=true):=fun p _ ⟨a,b⟩=>by
   have a:=((i1 p).1 (pw.1 a)).2;have b:=((i2 p).1 (pw.1 b)).2;rw[ik] at b;grind
  have ct:=H0 P q1 q2 q3;rw[Tr.cnt];by_cases hs:l.same m
  ·have e1:=Tr.cnt_zero (l:=l) h3 hx g1 (fun⟨p,hp,h0⟩=>by have:=((i1 p).1 hp).2;rw[oA hs h0] at this;grind)
   have e2:=Tr.cnt_zero (l:=l) h4 hy g2 (fun⟨p,hp,h0⟩=>by have:=((i2 p).1 hp).2;rw[ik,oA hs h0] at this;grind);rw[e1,e2,if_pos hs];omega
  ·rw[if_neg hs]
   have b1:=Tr.cnt_le hl h3 hx g1 v1;have b2:=Tr.cnt_le hl h4 hy g2 v2;by_cases w1:AL l (bF c m)
   ·by_cases w2:AL l (bF c m.rev)
    ·-- the crossing lies in the cell
     obtain⟨p,hp,k1⟩:=w1;obtain⟨q,hq,k2⟩:=w2;obtain⟨hp,ap⟩:=(i1 p).1 hp;obtain⟨hq,aq⟩:=(i2 q).1 hq;rw[ik] at aq;generalize hA:m.value p=A at*;generalize hB:m.value q=B at*;have hAB:0<A-B:=by grind
     have e:A/(A-B)*(A-B)=A:=by grind
     generalize A/(A-B)=r at*;have r0:0<=r:=(jd hAB).1 (by rw[e];exact gJ ap);have r1:r<=1:=by
      have:=(jd (s:=1-r) hAB).1 (by grind);grind
     have hz:=hp.seg hq r0 r1;have hv:m.value (bp p q r)=0:=by rw[jP,hA,hB];grind
     have hv2:l.value (bp p q r)=0:=by rw[jP,k1,k2];grind
     have hmem:bp p q r∈P:=by
      rcases v0 with h|h
      ·exact absurd h hs
      ·exact h _ hv2 hv
     have c3:=Nh P q1 q2 q3 ⟨_,hmem,pw.2 hz,by
      rw[<-mX,pw,i1];rintro ⟨_,h⟩;rw[hv] at h;grind,by
      rw[<-mX,pw,i2];rintro ⟨_,h⟩;rw[ik,hv] at h;grind⟩
     omega
    ·rw[Tr.cnt_zero h4 hy g2 w2];omega
   ·rw[Tr.cnt_zero h3 hx g1 w1];omega
def Gs(l:aa):l.rev.rev=l:=by cases l;simp[aa.rev]
def aa.same.symm{l m:aa}(h:l.same m):m.same l:=by
 rcases h with rfl|rfl
 ·exact .inl J
 ·exact .inr (Gs l).symm
def aa.same.trans{l m n:aa}(h:l.same m)(k:m.same n):l.same n:=by
 rcases h with rfl|rfl
 ·exact k
 ·rcases k with rfl|rfl
  ·exact .inr J
  ·exact .inl (Gs l)
def lf(K:List aa)(t:Tr):Prop:=t.all fun n=> ∃m∈K,m.same n
def vA(l m:aa):ab:=l.at (-(l.cutC m/l.cutK m))
def Bc{l m:aa}(hl:l.ok)(hm:m.ok){p:ab}(h1:l.value p=0)(h2:m.value p=0):l.same m\/p=vA l m:=by
 obtain⟨t,rfl⟩:=CA hl.ne h1;rw[mf] at h2;by_cases hk:l.cutK m=0
 ·left
  have hc:l.cutC m=0:=by rw[hk] at h2;grind
  rcases Dz hm hl (fun s=>by rw[mf,hk,hc];grind) with h|h
  ·exact .inl h
  ·exact .inr h
 ·right
  unfold vA;congr 1;grind
def lf.covers{K:List aa}(hK: ∀m∈K,m.ok){l:aa}(hl:l.ok): ∀{t:Tr},lf K t->Me (K.map (vA l)) l t
 | .leaf _,_=>trivial
 | .node n x y,⟨⟨m,hm,hs⟩,h1,h2⟩=>by
  refine⟨?_,lf.covers hK hl h1,lf.covers hK hl h2⟩;by_cases h:l.same n
  ·exact .inl h
  ·right
   intro p k1 k2;rcases Bc hl (hK m hm) k1 (oA hs.symm k2) with h3|h3
   ·exact absurd (h3.trans hs) h
   ·rw[h3];exact fM hm
def Kc(t:Tr):List aa->Nat
 |[]=>0
 |l::K=>t.cnt l+Kc t K
def Ks(n:aa):List aa->Nat
 |[]=>0
 |l::K=>(if l.same n then 1 else 0)+Ks n K
def Nt{n:aa}{x y:Tr}: ∀K,Kc (.node n x y) K=Ks n K+(Kc x K+Kc y K)
 |[]=>rfl
 |l::K=>by
  have:=Nt (n:=n) (x:=x) (y:=y) K;show(Tr.node n x y).cnt l+Kc (.node n x y) K=_;rw[this,Tr.cnt];show _=(if l.same n then 1 else 0)+Ks n K+(x.cnt l+Kc x K+(y.cnt l+Kc y K));omega
def Mj{n m:aa}(hs:m.same n): ∀{K:List aa},m∈K->1<=Ks n K
 |[],h=>by cases h
 |l::K,h=>by
  show 1<=(if l.same n then 1 else 0)+Ks n K;rcases aW.1 h with rfl|h
  ·rw[if_pos hs];omega
  ·have:=Mj hs h;omega
def H7{K:List aa}: ∀{t:Tr},lf K t->t.size<=Kc t K
 | .leaf _,_=>bL _
 | .node n x y,⟨⟨m,hm,hs⟩,h1,h2⟩=>by
  have a:=H7 h1;have b:=H7 h2;have c:=Mj hs hm;rw[Nt,Tr.size];omega
def IR{t:Tr}{B:Nat}: ∀{K:List aa},(∀l∈K,t.cnt l<=B)->Kc t K<=K.length*B
 |[],_=>bL _
 |l::K,h=>by
  have:=IR (t:=t) (B:=B) (K:=K) fun m hm=>h m (aZ _ hm);have:=h l aQ;show t.cnt l+Kc t K<=(K.length+1)*B;rw[gX];omega
def Tr.size_le{K:List aa}(hK: ∀m∈K,m.ok){t:Tr}{c:aF}(hr:t.Red c)(ht:t.all aa.ok)(hc:dw c)(h:lf K t):t.size<=K.length*(1+K.length):=by
 refine dW (H7 h) (IR fun l hl=>?_);refine dW (Tr.cnt_le (hK l hl) hr ht hc (h.covers hK (hK l hl))) ?_;have:=List.countP_le_length (p:=ow c) (l:=K.map (vA l));rw[aJ] at this;omega
def lf.restrict{K:List aa}{t:Tr}(h:lf K t)(c:aF):lf K (t.restrict c):=t.restrict_all _ c h
def Tr.chooseL(op:Int)(b:Bool)(t:Tr)(c:List aa):Tr:=
 if op=1/\b=true then .leaf true
 else if(op=2\/op=3)/\b=false then .leaf false
 else if(op=3\/op=4)/\b=true then(t.restrictL c).compl else t.restrictL c
def Tr.mergeL(op:Int):Tr->Tr->List aa->Tr
 | .leaf b,u,c=>u.chooseL op b c
 | .node l x y,u,c=>if BH c l=1 then x.mergeL op u c else if BH c l= -1 then y.mergeL op u c else joinQ l (x.mergeL op u (rh (c++[l]))) (y.mergeL op u (rh (c++[l.rev])))
structure Gen (L:List aa) (a b:Tr):Prop where
 oa:a.all aa.ok
 ob:b.all aa.ok
 ok: ∀l∈L,l.ok
 la: ∀l∈a.lns,l∈L
 lb: ∀l∈b.lns,l∈L
def eo(x:Rat):List Rat->List Rat
 |[]=>[x]
 |u::t=>if u<x then u::eo x t else if u=x then u::t else x::u::t
def D2(l:List Rat):List Rat:=l.foldl (fun out x=>eo x out) []
def gG:List Rat->List Rat
 |a::b::t=>(a+b)/2::gG (b::t)
 |_=>[]
def fI:List Rat->List Rat
 |[]=>[0]
 |a::t=>(a-1)::(gG (a::t)++[(a::t).getLast (by simp)+1])
def uj{x y:Rat}: ∀{l:List Rat},y∈eo x l↔y=x\/y∈l
 |[]=>by simp[eo]
 |u::t=>by
  rw[eo];split
  ·rw[aW,uj (l:=t),aW];grind
  ·split
   ·rename_i h;subst h;simp
   ·simp
def ym{x:Rat}: ∀{l:List Rat},l.Pairwise (· < ·)->(eo x l).Pairwise (· < ·)
 |[],_=>by simp[eo]
 |u::t,h=>by
  rw[bX] at h;rw[eo];split
  ·rename_i hu
   rw[bX];refine⟨fun y hy=>?_,ym h.2⟩;rcases uj.1 hy with rfl|hy
   ·exact hu
   ·exact h.1 y hy
  ·rename_i hu
   split
   ·rw[bX];exact h
   ·rename_i hn
    have hx:x<u:=by grind
    rw[bX,bX];refine⟨fun y hy=>?_,h⟩;rcases aW.1 hy with rfl|hy
    ·exact hx
    ·have:=h.1 y hy;grind
def OV: ∀{l:List Rat} (h:l.Pairwise (· < ·)) (hn:l≠[]),∀y∈l,y<=l.getLast hn
 |[a],_,_,y,hy=>by rw[aU] at hy;subst hy;exact iQ
 |a::b::t,h,_,y,hy=>by
  rw[bX] at h;rw[List.getLast_cons (by simp)];have ih:=OV h.2 (by simp);rcases aW.1 hy with rfl|hy
  ·have:=h.1 b aQ
   have:=ih b aQ;grind
  ·exact ih y hy
def Ln:List aa->List Rat
 |[]=>[]
 |a::t=>(if a.b=0 then [a.base.x] else [])++(t.filterMap (fun b=>if crossI a b=0 then none else some (gO a b).x)++Ln t)
def yA(a:aa)(x:Rat):Rat:= -(((a.a:Rat)*x+(a.c:Rat))/(a.b:Rat))
def OF(l:List aa)(x:Rat):List Rat:=l.filterMap fun a=>if a.b=0 then none else some (yA a x)
def Ph(l:List aa):List ab:=(fI (D2 (Ln l))).flatMap fun x=>(fI (D2 (OF l x))).map fun y=>⟨x,y⟩
def aEl(l:aa)(p:ab):aa:=if 0<l.value p then l else l.rev
def gv(out:List Rat)(s:ao):List Rat:=if s.nh then(if s.nl then out else eo s.lo out) else eo s.hi (if s.nl then out else eo s.lo out)
def fP(l:List ao):List Rat:=l.foldl gv []
def Aa:List ao->Rat->Int
 |[],_=>0
 |s::t,x=>
  let a:=if s.nl then 1 else b9 x s.lo
  let b:=if s.nh then-1 else b9 x s.hi
  if 0<a/\b<0 then 2 else if(a=0/\b<=0)\/(b=0/\0<=a) then 1 else Aa t x
def lO(l:List ao)(x:Rat):Bool:=decide (Aa l x=2)
def fH(cuts:List Rat)(i:Nat):ao:=⟨if i=0 then 0 else cuts.getD (i-1) 0,if i<cuts.length then cuts.getD i 0 else 0,decide (i=0),decide (i=cuts.length)⟩
def og(v w:ao):ao:=⟨v.lo,w.hi,v.nl,w.nh⟩
def gw(cuts:List Rat)(marks:List Bool):Nat->List ao
 |0=>[]
 |k+1=>
  let out:=gw cuts marks k
  if marks.getD k false then
   (if 0<k/\marks.getD (k-1) false=true then(match out.getLast? with
    |some v=>out.dropLast++[og v (fH cuts k)]
    |none=>out++[fH cuts k]) else out++[fH cuts k])
  else out
def kg(cuts:List Rat)(marks:List Bool):List ao:=gw cuts marks marks.length
def GX(op:Int)(x y:Bool):Bool:=if op=2 then x&&y else if op=3 then x&&!y else if op=4 then x !=y else x||y
def gI(op:Int)(a b:List ao):List ao:=kg (fP (a++b)) ((fI (fP (a++b))).map fun t=>GX op (lO a t) (lO b t))
def tj(l m:aa)(side:Int):List ao:=
 if crossI l m=0 then(if(m.value l.base).num.sign=side then [ao.all] else [])
 else if(m.value (l.at (en l (gO l m)+1))).num.sign=side then [⟨en l (gO l m),0,false,true⟩] else [⟨0,en l (gO l m),true,false⟩]
def tv(l m:aa):Bool:=decide (crossI l m=0/\(m.value l.base).num.sign=0)
def i4(f:aO)(m:aa)(side:Int):List aO:=if tv f.l m then [] else(gI 2 [f.v] (tj f.l m side)).map fun v=>⟨f.l,v⟩
def LF(l:List ao):(fP l).Pairwise (· < ·)/\ ∀y∈fP l,∃s∈l,(s.nl=false/\y=s.lo)\/(s.nh=false/\y=s.hi):=by
 have key: ∀(l:List ao) (o:List Rat),o.Pairwise (· < ·)->(l.foldl gv o).Pairwise (· < ·)/\ ∀y∈l.foldl gv o,y∈o\/ ∃s∈l,(s.nl=false/\y=s.lo)\/(s.nh=false/\y=s.hi):=by
  intro l
  induction l with
  |nil=>intro o h;exact⟨h,fun y hy=> .inl hy⟩
  |cons s t ih=>
   intro o h;have h1:(gv o s).Pairwise (· < ·)/\ ∀y∈gv o s,y∈o\/(s.nl=false/\y=s.lo)\/(s.nh=false/\y=s.hi):=by
    unfold gv
    cases e1:s.nl<;>cases e2:s.nh<;>simp only[if_true,cM,if_false]
    ·refine⟨ym (ym h),fun y hy=>?_⟩
     rcases uj.1 hy with h|h
     ·exact .inr (.inr ⟨trivial,h⟩)
     ·rcases uj.1 h with h|h
      ·exact .inr (.inl ⟨trivial,h⟩)
      ·exact .inl h
    ·refine⟨ym h,fun y hy=>?_⟩
     rcases uj.1 hy with h|h
     ·exact .inr (.inl ⟨trivial,h⟩)
     ·exact .inl h
    ·refine⟨ym h,fun y hy=>?_⟩
     rcases uj.1 hy with h|h
     ·exact .inr (.inr ⟨trivial,h⟩)
     ·exact .inl h
    ·exact⟨h,fun y hy=> .inl hy⟩
   obtain⟨k1,k2⟩:=ih (gv o s) h1.1;refine⟨k1,fun y hy=>?_⟩;rcases k2 y hy with h2|⟨q,hq,h2⟩
   ·rcases h1.2 y h2 with h3|h3
    ·exact .inl h3
    ·exact .inr ⟨s,aQ,h3⟩
   ·exact .inr ⟨q,aZ _ hq,h2⟩
 have:=key l [] List.Pairwise.nil;refine⟨this.1,fun y hy=>?_⟩;rcases this.2 y hy with h|h
 ·cases h
 ·exact h
structure E7 (cuts:List Rat) (v:ao):Prop where
 z:iB v
 lo:v.nl=true\/v.lo∈cuts
 hi:v.nh=true\/v.hi∈cuts
def Qu{cuts:List Rat}{i:Nat}(h:i<=cuts.length):E7 cuts (fH cuts i):=by
 unfold fH;refine⟨⟨fun e=>?_,fun e=>?_⟩,?_,?_⟩
 ·simp only[decide_eq_true_eq] at e;simp[e]
 ·simp only[decide_eq_true_eq] at e;simp[e]
 ·by_cases h0:i=0
  ·left;simp[h0]
  ·right
   simp only[if_neg h0];rw[aK,aX (by omega)];exact jW _
 ·by_cases h0:i=cuts.length
  ·left;simp[h0]
  ·right
   simp only[if_pos (show i<cuts.length by omega)];rw[aK,aX (by omega)];exact jW _
def Mu{cuts:List Rat}{marks:List Bool}: ∀{k:Nat},k<=cuts.length+1-> ∀v∈gw cuts marks k,E7 cuts v
 |0,_,v,hv=>by cases hv
 |k+1,hk,v,hv=>by
  have ih:=Mu (cuts:=cuts) (marks:=marks) (k:=k) (by omega);have hg:=Qu (cuts:=cuts) (i:=k) (by omega);rw[gw] at hv;split at hv
  ·split at hv
   ·split at hv
    ·rename_i w hw
     rcases cX.1 hv with h|h
     ·exact ih v ((rT _).subset h)
     ·rw[aU] at h;subst h
      have hw':=ih w (pQ hw);exact⟨⟨hw'.z.1,hg.z.2⟩,hw'.lo,hg.hi⟩
    ·rcases cX.1 hv with h|h
     ·exact ih v h
     ·rw[aU] at h;subst h;exact hg
   ·rcases cX.1 hv with h|h
    ·exact ih v h
    ·rw[aU] at h;subst h;exact hg
  ·exact ih v hv
def KO{l:List Rat}:(fI l).length=l.length+1:=by
 have key: ∀(l:List Rat) (a:Rat),(gG (a::l)).length=l.length:=by
  intro l
  induction l with
  |nil=>intro a;rfl
  |cons b t ih=>intro a;rw[gG,bT,ih b,bT]
 cases l with
 |nil=>rfl
 |cons a t=>rw[fI,bT,aR,key];simp
def V6{op:Int}{a b:List ao}: ∀v∈gI op a b,E7 (fP (a++b)) v:=fun v hv=>by
 unfold gI kg at hv;refine Mu ?_ v hv;rw[aJ,KO];omega
structure m8 (f:aO):Prop where
 lb:LB f.l
 ok:f.l.ok
 z:iB f.v
 lo:BQ f.v.lo 1200
 hi:BQ f.v.hi 1200
theorem BQ.zero1200:BQ (0:Rat) 1200:=BQ.mono (k:=1) ⟨by decide,by decide⟩ (by decide)
def Ts{l m:aa}(hl:LB l)(hm:LB m)(hlo:l.ok){side:Int}: ∀v∈tj l m side,iB v/\BQ v.lo 1200/\BQ v.hi 1200:=fun v hv=>by
 unfold tj at hv;split at hv
 ·split at hv
  ·rw[aU] at hv;subst hv;exact⟨iB.all,BQ.zero1200,BQ.zero1200⟩
  ·cases hv
 ·rename_i hc
  have:=K7 hlo.ne hc;split at hv
  ·rw[aU] at hv;subst hv;exact⟨⟨fun h=>(by cases h),fun _=>J⟩,this,BQ.zero1200⟩
  ·rw[aU] at hv;subst hv;exact⟨⟨fun _=>J,fun h=>(by cases h)⟩,BQ.zero1200,this⟩
def Bg{f:aO}{m:aa}(h:m8 f)(hm:LB m){side:Int}: ∀g∈i4 f m side,m8 g/\g.l=f.l/\tv f.l m=false:=fun g hg=>by
 unfold i4 at hg;split at hg
 ·cases hg
 ·rename_i ho
  obtain⟨v,hv,rfl⟩:=bJ.1 hg;have hi:=V6 v hv;have bd: ∀y∈fP ([f.v]++tj f.l m side),BQ y 1200:=fun y hy=>by
   obtain⟨s,hs,h1⟩:=(LF _).2 y hy;rcases cX.1 hs with hs|hs
   ·rw[aU] at hs;subst hs
    rcases h1 with⟨_,rfl⟩|⟨_,rfl⟩
    ·exact h.lo
    ·exact h.hi
   ·have:=Ts h.lb hm h.ok s hs
    rcases h1 with⟨_,rfl⟩|⟨_,rfl⟩
    ·exact this.2.1
    ·exact this.2.2
  refine⟨⟨h.lb,h.ok,hi.z,?_,?_⟩,J,by simpa using ho⟩
  ·rcases hi.lo with e|e
   ·rw[hi.z.1 e];exact BQ.zero1200
   ·exact bd _ e
  ·rcases hi.hi with e|e
   ·rw[hi.z.2 e];exact BQ.zero1200
   ·exact bd _ e
def jq(acc:ab->Bool):Nat->List aO->List aa->Tr
 |_,[],c=> .leaf (acc (uQ c c))
 |0,_::_,_=> .leaf false
 |n+1,f::t,c=> .node f.l (jq acc n ((f::t).flatMap fun g=>i4 g f.l 1) (c++[f.l])) (jq acc n ((f::t).flatMap fun g=>i4 g f.l (-1)) (c++[f.l.rev]))
def VQ{f g:aO}{m:aa}{side:Int}(h:g∈i4 f m side):g.l=f.l:=by
 unfold i4 at h;split at h
 ·cases h
 ·obtain⟨v,_,rfl⟩:=bJ.1 h;rfl
def pp{acc:ab->Bool}{P:aa->Prop}: ∀{n:Nat} {l:List aO} {c:List aa},(∀f∈l,P f.l)->(jq acc n l c).all P
 |n,[],c,_=>by unfold jq;trivial
 |0,_::_,_,_=>by unfold jq;trivial
 |n+1,f::t,c,h=>by
  rw[jq];refine⟨h f aQ,pp fun g hg=>?_,pp fun g hg=>?_⟩<;>
  ·obtain⟨q,hq,hg⟩:=gN.1 hg
   rw[VQ hg];exact h q hq
def Cr{acc:ab->Bool}: ∀{n:Nat} {l:List aO} {c:List aa},(jq acc n l c).depth<=n
 |n,[],c=>by unfold jq;exact bL _
 |0,_::_,_=>by unfold jq;exact bL _
 |n+1,f::t,c=>by
  rw[jq,Tr.depth];have h1:=Cr (acc:=acc) (n:=n) (l:=(f::t).flatMap fun g=>i4 g f.l 1) (c:=c++[f.l]);have h2:=Cr (acc:=acc) (n:=n) (l:=(f::t).flatMap fun g=>i4 g f.l (-1)) (c:=c++[f.l.rev]);omega
def l9(n:Nat)(l:List aO):Prop:= ∃K:List aa,K.length<=n/\ ∀f∈l,∃m∈K,m.same f.l
def Tv{m:aa}(hm:m.Ne):m.value m.base=0:=by
 have h:=qq hm 0;rw[<-rI,jG] at h;grind
def QE{l m:aa}(h:l.same m)(hm:m.Ne):tv m l=true:=by
 unfold tv;rw[decide_eq_true_iff];refine⟨?_,?_⟩
 ·rcases h with rfl|rfl
  ·unfold crossI;omega
  ·unfold crossI aa.rev
   show(-l.a)*l.b-l.a*(-l.b)=0;grind
 ·rw[nG]
  exact oA h.symm (Tv hm)
def l9.split{n:Nat}{f:aO}{t:List aO}(h:l9 (n+1) (f::t))(hok: ∀g∈f::t,m8 g){side:Int}:l9 n ((f::t).flatMap fun g=>i4 g f.l side):=by
 obtain⟨K,hK,hs⟩:=h;refine⟨K.filter fun m=>!decide (m.same f.l),?_,fun g hg=>?_⟩
 ·obtain⟨m,hm,hm2⟩:=hs f aQ
  have:(K.filter fun m=>!decide (m.same f.l)).length<K.length:=by
   refine oS.2 ⟨m,hm,by simp[hm2]⟩
  omega
 ·obtain⟨q,hq,hg⟩:=gN.1 hg
  obtain⟨_,e,ho⟩:=Bg (hok q hq) (hok f aQ).lb g hg;obtain⟨m,hm,hm2⟩:=hs q hq;refine⟨m,sX.2 ⟨hm,?_⟩,by rw[e];exact hm2⟩;simp only[iZ,decide_eq_false_iff_not];intro h;have:=QE (h.symm.trans hm2) (hok q hq).ok.ne;rw[this] at ho;cases ho
def Sy{p q r:Bool}{a b c:Nat}(h:Nat.gcd a b≠0):aa.ok ⟨zv p (a/Nat.gcd (Nat.gcd a b) c),zv q (b/Nat.gcd (Nat.gcd a b) c),zv r (c/Nat.gcd (Nat.gcd a b) c)⟩:=by
 have hg:0<Nat.gcd (Nat.gcd a b) c:=oQ _ (iX h);have d0:Nat.gcd (Nat.gcd a b) c∣Nat.gcd a b:=jL _ _;have d1:Nat.gcd (Nat.gcd a b) c∣a:=qQ d0 (jL _ _);have d2:Nat.gcd (Nat.gcd a b) c∣b:=qQ d0 (kN _ _);have d3:Nat.gcd (Nat.gcd a b) c∣c:=kN _ _;refine⟨?_,?_⟩
 ·rintro ⟨h1,h2⟩
  have h1':=congrArg Int.natAbs h1;have h2':=congrArg Int.natAbs h2;simp only[ot,Int.natAbs_zero] at h1' h2';have e1:=Nat.div_mul_cancel d1;have e2:=Nat.div_mul_cancel d2;rw[h1',kX] at e1;rw[h2',kX] at e2;exact h (by rw[<-e1,<-e2];rfl)
 ·simp only[ot]
  rw[Nat.gcd_div d1 d2,Nat.gcd_div d0 d3,Nat.div_self hg]
def GI(p:Bool)(a g:Nat):(zv p (a/g)).natAbs<=a:=by rw[ot];exact kJ ..
def PF.eq{P:Program}{f:FuncId}{vs:List DV}{r r':DV}(h:PF GB P f vs r)(e:r=r'):PF GB P f vs r':=e▸h
def iP(m n:Int):ab:=⟨(m:Rat),(n:Rat)⟩
theorem jo{m:Int}{k:Nat}(h:m.natAbs<=1000)(hk:10<=k):BI m k:=⟨cN (show m.natAbs<2^10 by omega) (bV (by decide) hk)⟩
instance bg.int (m n:Int) (i:Nat) [h:BI m i] [k:BI n i]:bg (iP m n) (i+1):=⟨inferInstanceAs (BQ (m:Rat) (i+1)),inferInstanceAs (BQ (n:Rat) (i+1))⟩
def Y4{p:ab}{m n:Int}(h1:p.x=(m:Rat))(h2:p.y=(n:Rat)):eP p=eP (iP m n):=by
 obtain⟨x,y⟩:=p;simp only at h1 h2;subst h1 h2;rfl
def gg(a b c:Int):aa:=
 ⟨zv (decide (a<0)) (a.natAbs/Nat.gcd (Nat.gcd a.natAbs b.natAbs) c.natAbs),zv (decide (b<0)) (b.natAbs/Nat.gcd (Nat.gcd a.natAbs b.natAbs) c.natAbs),zv (decide (c<0)) (c.natAbs/Nat.gcd (Nat.gcd a.natAbs b.natAbs) c.natAbs)⟩
def UD{a b c:Int}(h: ¬(a=0/\b=0)):(gg a b c).ok:=
 Sy fun e=>h ⟨mW.1 (nU e),mW.1 (nJ e)⟩
def K4(a b c:Int):(gg a b c).a.natAbs<=a.natAbs/\(gg a b c).b.natAbs<=b.natAbs/\(gg a b c).c.natAbs<=c.natAbs:=⟨GI ..,GI ..,GI ..⟩
def kH{m n:Int}(hm:m.natAbs<=1000)(hn:n.natAbs<=1000):PF GB prog 79 [.v (.int .i64 m), .v (.int .i64 n)] (eP (iP m n)):=by
 refine fn func79 J J ntmps79 J J (fun C=>?_);refine cl J (A1 (n:=m) (by omega) (by omega)) J<|cl J (A1 (n:=n) (by omega) (by omega)) J<|?_;exact rz J J
def Lp{m n m' n' k:Int}(hm:m.natAbs<=1000)(hn:n.natAbs<=1000)(hm':m'.natAbs<=1000)(hn':n'.natAbs<=1000)(hk:k.natAbs<=1000):PF GB prog 100 [eP (iP m n),eQ (k:Rat),eP (iP m' n')] (eP (iP (m+k*m') (n+k*n'))):=by
 haveI:=jo (k:=10) hm (by decide);haveI:=jo (k:=10) hn (by decide);haveI:=jo (k:=10) hm' (by decide);haveI:=jo (k:=10) hn' (by decide);haveI:=jo (k:=10) hk (by decide);exact PF.eq (We (p:=iP m n) (q:=iP m' n') (c:=(k:Rat))) (Y4 (by show(m:Rat)+(k:Rat)*(m':Rat)=_;push_cast;rfl) (by show(n:Rat)+(k:Rat)*(n':Rat)=_;push_cast;rfl))
def Fl{m n m' n':Int}(hm:m.natAbs<=1000)(hn:n.natAbs<=1000)(hm':m'.natAbs<=1000)(hn':n'.natAbs<=1000):PF GB prog 61 [eP (iP m n),eP (iP m' n')] (.v (.bool (decide (m=m'/\n=n')))):=by
 haveI:=jo (k:=10) hm (by decide);haveI:=jo (k:=10) hn (by decide);haveI:=jo (k:=10) hm' (by decide);haveI:=jo (k:=10) hn' (by decide);refine fn func61 J J ntmps61 J J (fun C=>?_);refine cl J (Dh (a:=(m:Rat)) (b:=(m':Rat))) J<|?_;refine cs 11 J J J (fun hg11=>?_) (fun hg11=>?_)
 .
  refine cl J (Dh (a:=(n:Rat)) (b:=(n':Rat))) J<|?_;exact rz J (by rw[tA] at hg11;have e:m=m':=(by exact_mod_cast hg11);exact congrArg (fun z=>DV.v (.bool z)) (decide_eq_decide.2 (by rw[tA,mM];simp[e])))
 .
  exact rz J (by rw[tA] at hg11;have e: ¬m=m':=(fun e=>hg11 (by rw[e]));show DV.v (.bool false)=DV.v (.bool _);rw[decide_eq_false (fun h=>e h.1)])
def jr(n n':Int):Int:= -(n'-n)
def jv(m m':Int):Int:=m'-m
def oq(m n m' n':Int):Int:= -(jr n n'*m+jv m m'*n)
def i6(m n m' n':Int):aa:=gg (jr n n') (jv m m') (oq m n m' n')
def LG{a b:Int}(ha:a.natAbs<=2000)(hb:b.natAbs<=1000):(a*b).natAbs<=2000000:=by
 rw[iN];exact kQ ha hb
def aty{es:List Int}{a:Nat}(h:a<es.length):(es.map vI)[(a:Int).toNat]? =some (vI es[a]):=by simp[h]
def Te:eP (iP 0 0)= .ag [.v (.bool false), .sl [], .sl [], .v (.bool false), .sl [], .sl []]:=by
 unfold eP iP;simp[H9,dD]
def aA(es:List Int)(n:Int)(a:Nat):Nat×Nat:=
 if h:a<es.length then((if Int.tmod es[a] n<0 then Int.tmod es[a] n+n else Int.tmod es[a] n).toNat,a+1) else(0,a)
def j'{es:List Int}{n:Int}{a:Nat}(hn:1<=n):((aA es n a).1:Int)<n:=by
 unfold aA;split
 ·rename_i h
  have q2:=Int.tmod_lt_of_pos es[a] (show 0<n by omega);dsimp only;split<;>omega
 ·exact hn
def i8{es:List Int}{n:Int}{a:Nat}(ha:a<=es.length):(aA es n a).2<=es.length:=by
 unfold aA;split
 ·assumption
 ·exact ha
def pF(es:List Int)(a:Nat):(Int×Int)×Nat:=((((aA es 9 a).1:Int)-4,((aA es 9 (aA es 9 a).2).1:Int)-4),(aA es 9 (aA es 9 a).2).2)
def tI{es:List Int}{a:Nat}(ha:a<=es.length):(pF es a).1.1.natAbs<=4/\(pF es a).1.2.natAbs<=4/\(pF es a).2<=es.length:=by
 have h1:=j' (es:=es) (n:=9) (a:=a) (by decide);have h2:=j' (es:=es) (n:=9) (a:=(aA es 9 a).2) (by decide);have h3:=i8 (n:=9) (i8 (es:=es) (n:=9) ha);unfold pF;exact⟨by dsimp only;omega,by dsimp only;omega,h3⟩
def vF(es:List Int)(a:Nat):(Int×Int)×Nat:=if(pF es a).1.1=0/\(pF es a).1.2=0 then((1,0),(pF es a).2) else pF es a
def vN{es:List Int}{a:Nat}(ha:a<=es.length):(vF es a).1.1.natAbs<=4/\(vF es a).1.2.natAbs<=4/\ ¬((vF es a).1.1=0/\(vF es a).1.2=0)/\(vF es a).2<=es.length:=by
 obtain⟨h1,h2,h3⟩:=tI ha;unfold vF;split
 ·exact⟨show(1:Int).natAbs<=4 by decide,show(0:Int).natAbs<=4 by decide,show¬((1:Int)=0/\(0:Int)=0) by decide,h3⟩
 ·rename_i h;exact⟨h1,h2,h,h3⟩
def lF(es:List Int)(a:Nat):aa×Nat:=(i6 (pF es a).1.1 (pF es a).1.2 ((pF es a).1.1+1*(vF es (pF es a).2).1.1) ((pF es a).1.2+1*(vF es (pF es a).2).1.2),(vF es (pF es a).2).2)
def lm(es:List Int):Nat->Nat->Tr×Nat
 |0,a=>(.leaf (decide (((aA es 2 a).1:Int)=1)),(aA es 2 a).2)
 |d+1,a=>if((aA es 4 a).1:Int)=0 then(.leaf (decide (((aA es 2 (aA es 4 a).2).1:Int)=1)),(aA es 2 (aA es 4 a).2).2) else
  (.node (lF es (aA es 4 a).2).1 (lm es d (lF es (aA es 4 a).2).2).1 (lm es d (lm es d (lF es (aA es 4 a).2).2).2).1,(lm es d (lm es d (lF es (aA es 4 a).2).2).2).2)
def pD{b:Nat}{es:List Int}(hes:es.length<=400){a:Nat}(ha:a<=es.length){n:Int}(hn:1<=n)(hn2:n<=1000):PM GB prog 18 (ir [none,some (.v (.int .i64 n))] b) b 126 [.sl (es.map vI), .v (.int .i64 (a:Nat))] (.v (.int .i64 ((aA es n a).1:Nat))) [.sl (es.map vI), .v (.int .i64 ((aA es n a).2:Nat))]:=by
 have hel:(es.map vI).length=es.length:=by simp
 refine tF func18 J J ntmps18 J J (fun C b m lo hmb=>?_);refine br J J J (fun hc15=>?_) (fun hc15=>?_)
 .
  have hf:aA es n a=(0,a):=by unfold aA;rw[dif_neg (by omega)]
  exact lj hmb J J (by rw[hf]<;>rfl) (by rw[hf]<;>rfl)
 .
  have hal:a<es.length:=by omega
  obtain⟨e,he⟩: ∃e,e=es[a]:=⟨_,rfl⟩;have q2:=Int.tmod_lt_of_pos e (show 0<n by omega);have q3: -n<Int.tmod e n:=by have:=Int.lt_tmod_of_pos e (show 0<n by omega);omega
  refine ix (fu:=⟨1⟩) _ J (aty hal) J<|?_;refine aB 25 (.d (vI e)) J (by rw[he]<;>rfl) ?_;refine gx (hv:=by simp only[ah];exact⟨⟨by omega,by kernel_rfl⟩,by omega⟩) J<|?_;refine br J J J (fun hc36=>?_) (fun hc36=>?_)
  .
   have hf:aA es n a=((Int.tmod e n+n).toNat,a+1):=by unfold aA;rw[dif_pos hal,<-he,if_pos hc36]
   exact lj hmb J J (by rw[hf];show DV.v (.int .i64 _)=DV.v (.int .i64 _);rw[pT (by omega)]) (by rw[hf]<;>rfl)
  .
   have hf:aA es n a=((Int.tmod e n).toNat,a+1):=by unfold aA;rw[dif_pos hal,<-he,if_neg hc36]
   exact lj hmb J J (by rw[hf];show DV.v (.int .i64 _)=DV.v (.int .i64 _);rw[pT (by omega)]) (by rw[hf]<;>rfl)
def GD{b:Nat}{es:List Int}(hes:es.length<=400){a:Nat}(ha:a<=es.length):PM GB prog 97 (ir [none] b) b 126 [.sl (es.map vI), .v (.int .i64 (a:Nat))] (eP (iP (pF es a).1.1 (pF es a).1.2)) [.sl (es.map vI), .v (.int .i64 ((pF es a).2:Nat))]:=by
 have h1:=j' (es:=es) (n:=9) (a:=a) (by decide);have h2:=j' (es:=es) (n:=9) (a:=(aA es 9 a).2) (by decide);refine tF func97 J J ntmps97 J J (fun C b m lo hmb=>?_);refine cm J (fun b=>(pD (n:=9) hes ha (by decide) (by decide))) J<|cm J (fun b=>(pD (n:=9) hes (i8 ha) (by decide) (by decide))) J<|?_;refine cl J (kH (m:=((aA es 9 a).1:Int)-4) (n:=((aA es 9 (aA es 9 a).2).1:Int)-4) (by omega) (by omega)) J<|?_;exact lj hmb J J J J
def OR{b:Nat}{es:List Int}(hes:es.length<=400){a:Nat}(ha:a<=es.length):PM GB prog 98 (ir [none] b) b 126 [.sl (es.map vI), .v (.int .i64 (a:Nat))] (eP (iP (vF es a).1.1 (vF es a).1.2)) [.sl (es.map vI), .v (.int .i64 ((vF es a).2:Nat))]:=by
 obtain⟨hm,hn,ha1⟩:=tI ha;refine tF func98 J J ntmps98 J J (fun C b m lo hmb=>?_);refine cm (fu:=⟨9⟩) J (fun b=>(GD hes ha)) J<|?_;refine aB 7 (.d (eP (iP 0 0))) J (by rw[Te]<;>rfl) ?_;refine gx J<|cl J (Fl (m:=(pF es a).1.1) (n:=(pF es a).1.2) (m':=0) (n':=0) (by omega) (by omega) (by decide) (by decide)) J<|?_;refine bd J J J (fun hc8=>?_) (fun hc8=>?_)
 .
  have hf:vF es a=((1,0),(pF es a).2):=by unfold vF;rw[if_pos hc8]
  refine cl J (kH (m:=1) (n:=0) (by decide) (by decide)) J<|?_;exact lj hmb J J (by rw[hf]<;>rfl) (by rw[hf])
 .
  have hf:vF es a=pF es a:=by unfold vF;rw[if_neg hc8]
  exact lj hmb J J (by rw[hf]<;>rfl) (by rw[hf])
abbrev ZP:=Int×Int
def ZP.q(p:ZP):ab:=iP p.1 p.2
def ZP.le(k:Nat)(p:ZP):Prop:=p.1.natAbs<=k/\p.2.natAbs<=k
def tT(p q:ZP):ZP:=(p.1+1*q.1,p.2+1*q.2)
def p9(u v:ZP):Int:=u.1*v.2-u.2*v.1
theorem Uq{m n p q:Int}(hm:m.natAbs<=1000)(hn:n.natAbs<=1000)(hp:p.natAbs<=1000)(hq:q.natAbs<=1000)(h: ¬(p=m/\q=n)):LB (i6 m n p q)/\(i6 m n p q).ok:=by
 have e1:(jr n q).natAbs<=2000:=by unfold jr;omega
 have e2:(jv m p).natAbs<=2000:=by unfold jv;omega
 have e3:=LG e1 hm;have e4:=LG e2 hn;have e5:(oq m n p q).natAbs<=4000000:=by unfold oq;omega
 unfold i6;obtain⟨k1,k2,k3⟩:=K4 (jr n q) (jv m p) (oq m n p q);have hb:(2:Nat)^96=79228162514264337593543950336:=by decide
 refine⟨⟨⟨?_,?_,?_⟩⟩,UD ?_⟩
 ·rw[hb];omega
 ·rw[hb];omega
 ·rw[hb];omega
 ·unfold jr jv;omega
def c8(v w:ZP):aO:=⟨i6 v.1 v.2 w.1 w.2,⟨en (i6 v.1 v.2 w.1 w.2) v.q,en (i6 v.1 v.2 w.1 w.2) w.q,false,false⟩⟩
def ek(r:List ZP)(i:Nat):ZP:=r.getD ((i+1)%r.length) (0,0)
def kl(r:List ZP):Nat->List aO
 |0=>[]
 |k+1=>kl r k++[c8 (r.getD k (0,0)) (ek r k)]
def gi(r:List ZP):List aO:=kl r r.length
structure dC (r:List ZP):Prop where
 n3:3<=r.length
 n6:r.length<=6
 le: ∀p∈r,ZP.le 100 p
 ne: ∀i<r.length,r.getD i (0,0)≠ek r i
def As{r:List ZP}{i:Nat}(h:i<r.length):r.getD i (0,0)∈r:=by
 rw[aK,aX h];exact jW h
def AB{r:List ZP}{i:Nat}(h:i<r.length):ek r i∈r:=As (dT _ (by omega))
theorem BQ.int1200{m:Int}(h:m.natAbs<=1000):BQ (m:Rat) 1200:=by
 haveI:BI m 11:=jo h (by decide);exact BQ.mono (inferInstance:BQ (m:Rat) 12) (by decide)
theorem N8{l:aa}(hl:LB l)(ho:l.ok){m n:Int}(hm:m.natAbs<=1000)(hn:n.natAbs<=1000):BQ (en l (iP m n)) 1200:=by
 haveI:=jo (k:=11) hm (by decide);haveI:=jo (k:=11) hn (by decide);have hd:=ye ho.ne;have hA:BI (l.a*l.a+l.b*l.b) _:=inferInstance;have hB:BI (m*l.b-n*l.a) _:=inferInstance;have hA':=CL (j:=1200) hA (by decide);have hB':=CL (j:=1200) hB (by decide);have e1:l.dir.dot l.dir=((l.a*l.a+l.b*l.b:Int):Rat):=by
  rw[oU,cR,cR];simp only[aa.dir,ab.dot];grind
 have e2:(iP m n).dot l.dir=((m*l.b-n*l.a:Int):Rat):=by
  rw[oT,cR,cR];simp only[aa.dir,ab.dot,iP];grind
 have hd':((0:Int):Rat)<((l.a*l.a+l.b*l.b:Int):Rat):=by rw[<-e1];exact hd
 unfold en;rw[e2,e1];clear hA hB e1 e2;generalize l.a*l.a+l.b*l.b=D at*;generalize m*l.b-n*l.a=M at*;have hD:0<D:=lL.1 hd';refine BQ.of_fracI (n:=M) (D:=D) (by omega) ?_ hB' hA';have h0:(D:Rat)≠0:=fun e=>by rw[e] at hd';exact absurd hd' (by decide)
 have:((D.natAbs:Nat):Rat)=(D:Rat):=by
  have h1:((D.natAbs:Nat):Int)=D:=by omega
  rw[<-h1];rfl
 rw[this];grind
def J'{v w:ZP}(hv:ZP.le 100 v)(hw:ZP.le 100 w)(h:v≠w):m8 (c8 v w):=by
 obtain⟨h1,h2⟩:=Uq (m:=v.1) (n:=v.2) (p:=w.1) (q:=w.2) (by have:=hv.1;omega) (by have:=hv.2;omega) (by have:=hw.1;omega) (by have:=hw.2;omega) (fun e=>h (Prod.ext e.1.symm e.2.symm));exact⟨h1,h2,⟨fun e=>(by cases e),fun e=>(by cases e)⟩,N8 h1 h2 (by have:=hv.1;omega) (by have:=hv.2;omega),N8 h1 h2 (by have:=hw.1;omega) (by have:=hw.2;omega)⟩
def Mx{r:List ZP}(h:dC r): ∀{k:Nat},k<=r.length->(kl r k).length=k/\ ∀f∈kl r k,m8 f
 |0,_=>⟨J,fun f hf=>by cases hf⟩
 |k+1,hk=>by
  obtain⟨h1,h2⟩:=Mx h (k:=k) (by omega);rw[kl];refine⟨by simp[h1],fun f hf=>?_⟩;rcases cX.1 hf with hf|hf
  ·exact h2 f hf
  ·rw[aU] at hf;subst hf
   exact J' (h.le _ (As (by omega))) (h.le _ (AB (by omega))) (h.ne k (by omega))
def r8{r:List ZP}(h:dC r):(gi r).length=r.length/\ ∀f∈gi r,m8 f:=Mx h (aL _)
def co(rs:List (List ZP)):List aO:=rs.flatMap gi
def n9: ∀{rs:List (List ZP)},(∀r∈rs,dC r)->(co rs).length<=6*rs.length/\ ∀f∈co rs,m8 f
 |[],_=>⟨aL _,fun f hf=>by cases hf⟩
 |r::rs,h=>by
  obtain⟨h1,h2⟩:=n9 (rs:=rs) fun q hq=>h q (aZ _ hq);obtain⟨k1,k2⟩:=r8 (h r aQ);have:=(h r aQ).n6;unfold co at*;rw[nK];refine⟨by rw[aR,k1,bT];omega,fun f hf=>?_⟩;rcases cX.1 hf with hf|hf
  ·exact k2 f hf
  ·exact h2 f hf
def rA(a b c:ab):Int:=(ab.cross (dG b a (-1)) (dG c a (-1))).num.sign
def F0(v w p:ab):Int:=
 (if b9 v.y p.y<=0/\ ¬b9 w.y p.y<=0/\0<rA v w p then 1 else 0)-(if¬b9 v.y p.y<=0/\b9 w.y p.y<=0/\rA v w p<0 then 1 else 0)
def Ar(r:List ZP)(p:ab):Nat->Int
 |0=>0
 |k+1=>Ar r p k+F0 (r.getD k (0,0)).q (ek r k).q p
def mO(r:List ZP)(p:ab):Int:=Ar r p r.length
def uz(fill n:Int):Bool:=(decide (fill=1)&&decide (n.tmod 2≠0))||(decide (fill=2)&&decide (n≠0))
def jw(rs:List (List ZP))(fill:Int)(p:ab):Bool:=uz fill (rs.foldl (fun n r=>n+mO r p) 0)
def oG(rs:List (List ZP))(fill:Int):Tr:=jq (jw rs fill) (co rs).length (co rs) []
def ie(rs:List (List ZP))(fill:Int):Tr:=(oG rs fill).restrict []
structure mG (k:Nat) (t:Tr):Prop where
 gd:t.gd
 dp:t.depth<=k
 am: ∃K:List aa,K.length<=k/\(∀l∈K,l.ok)/\lf K t
def azL{acc:ab->Bool}{n:Nat}{l:List aO}(h: ∀f∈l,m8 f)(hn:l.length=n):mG n (jq acc n l []):=
 ⟨⟨pp fun f hf=>(h f hf).lb,pp fun f hf=>(h f hf).ok⟩,Cr,l.map (·.l),by rw[aJ,hn];exact aL _,fun m hm=>by
  obtain⟨f,hf,rfl⟩:=bJ.1 hm;exact(h f hf).ok,pp fun f hf=>⟨f.l,fM hf, .inl rfl⟩⟩
def mG.restrict{k:Nat}{t:Tr}(h:mG k t)(c:aF):mG k (t.restrict c):=by
 obtain⟨K,h1,h2,h3⟩:=h.am;exact⟨P' h.gd c,dW (t.restrict_depth c) h.dp,K,h1,h2,h3.restrict c⟩
def mG.mono{j k:Nat}{t:Tr}(h:mG j t)(hk:j<=k):mG k t:=by
 obtain⟨K,h1,h2,h3⟩:=h.am;exact⟨h.gd,dW h.dp hk,K,by omega,h2,h3⟩
def HD{rs:List (List ZP)}{fill:Int}(h: ∀r∈rs,dC r)(hn:rs.length<=3):mG 18 (ie rs fill):=by
 obtain⟨h1,h2⟩:=n9 h;exact((azL (acc:=jw rs fill) h2 J).restrict []).mono (by omega)
def jH(p q:ZP):Int:=if p.1<q.1 then-1 else if q.1<p.1 then 1 else if p.2<q.2 then-1 else if q.2<p.2 then 1 else 0
def jp(x:ZP):List ZP->List ZP
 |[]=>[x]
 |u::t=>if jH u x<0 then u::jp x t else if jH u x=0 then u::t else x::u::t
def mH(l:List ZP):List ZP:=l.foldl (fun out x=>jp x out) []
def Li{x:ZP}: ∀{l:List ZP},(jp x l).length<=l.length+1
 |[]=>aL _
 |u::t=>by
  rw[jp];have:=Li (x:=x) (l:=t);split
  ·simp;omega
  ·split<;>simp
def RH(l:List ZP):(mH l).length<=l.length:=by
 have key: ∀(l o:List ZP),(l.foldl (fun out x=>jp x out) o).length<=l.length+o.length:=by
  intro l
  induction l with
  |nil=>intro o;simp
  |cons x t ih=>intro o;have:=ih (jp x o);have:=Li (x:=x) (l:=o);simp only[dS,bT];omega
 have:=key l [];simpa[mH] using this
def pA(a b c d:Int):List ZP:=[(a,b),(c,b),(c,d),(a,d)]
def HX{r:List ZP}{i:Nat}(h:i+1<r.length):ek r i=r.getD (i+1) (0,0):=by unfold ek;rw[fR h]
def HA{r:List ZP}{i:Nat}(h:i+1=r.length):ek r i=r.getD 0 (0,0):=by unfold ek;rw[h,Nat.mod_self]
def VH{a b c d:Int}(h1:a.natAbs<=50)(h2:b.natAbs<=50)(h3:c.natAbs<=50)(h4:d.natAbs<=50)(h5:a<c)(h6:b<d):dC (pA a b c d):=by
 refine⟨by simp[pA],by simp[pA],fun p hp=>?_,fun i hi=>?_⟩
 ·simp only[pA,aW,jM,or_false] at hp
  rcases hp with rfl|rfl|rfl|rfl<;>exact⟨by dsimp only;omega,by dsimp only;omega⟩
 ·have:i=0\/i=1\/i=2\/i=3:=by simp[pA] at hi;omega
  rcases this with rfl|rfl|rfl|rfl<;>simp[pA,ek]<;>omega
def pm(p u v:ZP):List ZP:=[p,tT p u,tT p v]
def VU{p u v:ZP}(h1:ZP.le 40 p)(h2:ZP.le 40 u)(h3:ZP.le 40 v)(h:p9 u v≠0):dC (pm p u v):=by
 obtain⟨p1,p2⟩:=p;obtain⟨u1,u2⟩:=u;obtain⟨v1,v2⟩:=v;unfold ZP.le at h1 h2 h3;dsimp only at h1 h2 h3;unfold p9 at h;dsimp only at h;refine⟨by simp[pm],by simp[pm],fun p hp=>?_,fun i hi=>?_⟩
 ·simp only[pm,tT,aW,jM,or_false] at hp
  rcases hp with rfl|rfl|rfl<;>exact⟨by dsimp only;omega,by dsimp only;omega⟩
 ·have:i=0\/i=1\/i=2:=by simp[pm] at hi;omega
  have hu: ¬(u1=0/\u2=0):=fun e=>h (by rw[e.1,e.2];simp);have hv: ¬(v1=0/\v2=0):=fun e=>h (by rw[e.1,e.2];simp);have huv: ¬(u1=v1/\u2=v2):=fun e=>h (by rw[e.1,e.2,sY];omega);rcases this with rfl|rfl|rfl<;>simp[pm,tT,ek]<;>omega
def ma(es:List Int):Nat->Nat->List ZP->List ZP×Nat
 |0,a,out=>(out,a)
 |n+1,a,out=>ma es n (pF es a).2 (if out.getLast? =some (pF es a).1 then out else out++[(pF es a).1])
structure jB (r:List ZP):Prop where
 ne: ∀i,i+1<r.length->r.getD i (0,0)≠r.getD (i+1) (0,0)
 le: ∀p∈r,ZP.le 100 p
def jB.snoc{r:List ZP}{p:ZP}(h:jB r)(hp:ZP.le 100 p)(hl:r.getLast? ≠some p):jB (r++[p]):=by
 refine⟨fun i hi=>?_,fun q hq=>?_⟩
 ·rw[aR,mT] at hi
  rw[aK,aK];by_cases h1:i+1<r.length
  ·rw[cS (by omega),cS h1]
   have:=h.ne i h1;rwa [aK,aK] at this
  ·have e:i+1=r.length:=by omega
   rw[cS (by omega),e,fV (aL _),qL];rw[mR,<-e,lK] at hl;rw[aX (by omega)] at hl⊢;intro c;exact hl (by simpa using c)
 ·rcases cX.1 hq with hq|hq
  ·exact h.le q hq
  ·rw[aU] at hq;subst hq;exact hp
def DI{es:List Int}: ∀{n a:Nat} {out:List ZP},a<=es.length->jB out->jB (ma es n a out).1/\(ma es n a out).1.length<=out.length+n/\(ma es n a out).2<=es.length
 |0,a,out,ha,h=>⟨h,aL _,ha⟩
 |n+1,a,out,ha,h=>by
  obtain⟨h1,h2,h3⟩:=tI ha;rw[ma];by_cases hl:out.getLast? =some (pF es a).1
  ·rw[if_pos hl]
   obtain⟨k1,k2,k3⟩:=DI (n:=n) h3 h;exact⟨k1,by omega,k3⟩
  ·rw[if_neg hl]
   obtain⟨k1,k2,k3⟩:=DI (n:=n) h3 (h.snoc (p:=(pF es a).1) ⟨by omega,by omega⟩ hl);rw[aR,mT] at k2;exact⟨k1,by omega,k3⟩
def jn:Nat->List ZP->List ZP
 |0,l=>l
 |n+1,l=>if 1<l.length/\l.getD 0 (0,0)=l.getD (l.length-1) (0,0) then jn n l.dropLast else l
def jB.drop{r:List ZP}(h:jB r):jB r.dropLast:=by
 refine⟨fun i hi=>?_,fun p hp=>h.le p ((rT _).subset hp)⟩;rw[nV] at hi;have:=h.ne i (by omega);rw[aK,aK] at this⊢;rw[List.getElem?_dropLast,List.getElem?_dropLast,if_pos (by omega),if_pos (by omega)];exact this
def LZ: ∀{n:Nat} {l:List ZP},jB l->l.length<=n+1->jB (jn n l)/\(jn n l).length<=l.length/\(1<(jn n l).length->(jn n l).getD 0 (0,0)≠(jn n l).getD ((jn n l).length-1) (0,0))
 |0,l,h,hn=>⟨h,aL _,fun k=>absurd k (by unfold jn;omega)⟩
 |n+1,l,h,hn=>by
  rw[jn];split
  ·obtain⟨h1,h2,h3⟩:=LZ (n:=n) h.drop (by rw[nV];omega)
   rw[nV] at h2;exact⟨h1,by omega,h3⟩
  ·rename_i hc
   exact⟨h,aL _,fun k e=>hc ⟨k,e⟩⟩
def XX{r:List ZP}(h:jB r)(h6:r.length<=6)(hc:1<r.length->r.getD 0 (0,0)≠r.getD (r.length-1) (0,0))(h3:3<=(mH r).length):dC r:=by
 have:=RH r;refine⟨by omega,h6,h.le,fun i hi=>?_⟩;by_cases h1:i+1<r.length
 ·rw[HX h1];exact h.ne i h1
 ·have e:i+1=r.length:=by omega
  rw[HA e];have:=hc (by omega);rw[show i=r.length-1 by omega];exact fun k=>this k.symm
def u9:List ZP:=[(0,0),(2,0),(0,2)]
def Kd:dC u9:=⟨by decide,by decide,fun p hp=>by
  simp only[u9,aW,jM,or_false] at hp;rcases hp with rfl|rfl|rfl<;>exact⟨by decide,by decide⟩,fun i hi=>by
  have:i=0\/i=1\/i=2:=by simp[u9] at hi;omega
  rcases this with rfl|rfl|rfl<;>decide⟩
def nD(es:List Int)(a:Nat):List ZP×Nat:=
 ((if(mH (jn 6 (ma es (3+(aA es 4 a).1) (aA es 4 a).2 []).1)).length<3 then u9 else jn 6 (ma es (3+(aA es 4 a).1) (aA es 4 a).2 []).1),(ma es (3+(aA es 4 a).1) (aA es 4 a).2 []).2)
def jB.nil:jB []:=⟨fun i hi=>by simp at hi,fun p hp=>by cases hp⟩
def DF{es:List Int}{a:Nat}(ha:a<=es.length):dC (nD es a).1/\(nD es a).2<=es.length:=by
 have h1:=j' (es:=es) (n:=4) (a:=a) (by decide);obtain⟨k1,k2,k3⟩:=DI (n:=3+(aA es 4 a).1) (i8 (n:=4) ha) jB.nil;obtain⟨t1,t2,t3⟩:=LZ (n:=6) k1 (by simp at k2;omega);refine⟨?_,k3⟩;unfold nD;dsimp only;split
 ·exact Kd
 ·exact XX t1 (by simp at k2;omega) t3 (by omega)
def Ax(es:List Int)(n m k:Int)(a:Nat):List ZP×Nat:=
 let x:=aA es n a
 let y:=aA es n x.2
 let z:=aA es m y.2
 let w:=aA es m z.2
 (pA ((x.1:Int)-k) ((y.1:Int)-k) ((x.1:Int)-k+1+z.1) ((y.1:Int)-k+1+w.1),w.2)
def QB{es:List Int}{n m k:Int}{a:Nat}(ha:a<=es.length)(hn:1<=n)(hn2:n<=10)(hm:1<=m)(hm2:m<=10)(hk:0<=k)(hk2:k<=10):dC (Ax es n m k a).1/\(Ax es n m k a).2<=es.length:=by
 have h1:=j' (es:=es) (a:=a) hn;have h2:=j' (es:=es) (a:=(aA es n a).2) hn;have h3:=j' (es:=es) (a:=(aA es n (aA es n a).2).2) hm;have h4:=j' (es:=es) (a:=(aA es m (aA es n (aA es n a).2).2).2) hm;exact⟨VH (by omega) (by omega) (by omega) (by omega) (by omega) (by omega),i8 (i8 (i8 (i8 ha)))⟩
def gr(es:List Int)(a:Nat):List ZP×Nat:=
 let k:=aA es 4 a
 if(k.1:Int)=0 then Ax es 5 4 4 k.2
 else if(k.1:Int)=1 then
  let p:=pF es k.2
  let u:=vF es p.2
  let v:=vF es u.2
  if p9 u.1 v.1≠0 then(pm p.1 u.1 v.1,v.2) else nD es v.2
 else nD es k.2
def Hl{es:List Int}{a:Nat}(ha:a<=es.length):dC (gr es a).1/\(gr es a).2<=es.length:=by
 have h0:=i8 (n:=4) ha;unfold gr;dsimp only;split
 ·exact QB h0 (by decide) (by decide) (by decide) (by decide) (by decide) (by decide)
 ·split
  ·obtain⟨p1,p2,p3⟩:=tI h0
   obtain⟨u1,u2,u3,u4⟩:=vN p3;obtain⟨v1,v2,v3,v4⟩:=vN u4;split
   ·rename_i hc
    exact⟨VU ⟨by omega,by omega⟩ ⟨by omega,by omega⟩ ⟨by omega,by omega⟩ hc,v4⟩
   ·exact DF v4
  ·exact DF h0
def ZU:List ZP:=[(0,0),(1,0),(0,1)]
def L5(es:List Int)(a:Nat):List ZP×Nat:=
 let k:=aA es 2 a
 if(k.1:Int)=0 then Ax es 3 2 1 k.2
 else
  let x:=aA es 3 k.2
  let y:=aA es 3 x.2
  let u1:=aA es 2 y.2
  let u2:=aA es 3 u1.2
  let v1:=aA es 3 u2.2
  let v2:=aA es 2 v1.2
  (if 0<p9 (1+(u1.1:Int),(u2.1:Int)-1) ((v1.1:Int)-1,1+(v2.1:Int)) then pm ((x.1:Int)-1,(y.1:Int)-1) (1+(u1.1:Int),(u2.1:Int)-1) ((v1.1:Int)-1,1+(v2.1:Int)) else ZU,v2.2)
def sF(es:List Int)(a:Nat):Tr×Nat:=
 let r:=gr es a
 let k:=aA es 3 r.2
 if(k.1:Int)=0 then
  let s:=gr es k.2
  let f:=aA es 2 s.2
  (ie [r.1,s.1] (1+(f.1:Int)),f.2)
 else
  let f:=aA es 2 k.2
  (ie [r.1] (1+(f.1:Int)),f.2)
def H2(l:aa):Tr:=(Tr.node l (.leaf true) (.leaf false)).restrict []
def rj(es:List Int):Nat->Nat->Tr×Nat
 |0,a=>
  let k:=aA es 6 a
  if(k.1:Int)=1 then(H2 (lF es k.2).1,(lF es k.2).2)
  else if(k.1:Int)=2 then((lm es 3 k.2).1.restrict [],(lm es 3 k.2).2)
  else if(k.1:Int)=3 then((sF es k.2).1.compl,(sF es k.2).2)
  else sF es k.2
 |d+1,a=>
  let k:=aA es 6 a
  if(k.1:Int)=0 then
   let x:=rj es d k.2
   let o:=aA es 4 x.2
   let y:=rj es d o.2
   (x.1.mergeQ (1+(o.1:Int)) y.1 [],y.2)
  else if(k.1:Int)=1 then(H2 (lF es k.2).1,(lF es k.2).2)
  else if(k.1:Int)=2 then((lm es 3 k.2).1.restrict [],(lm es 3 k.2).2)
  else if(k.1:Int)=3 then((sF es k.2).1.compl,(sF es k.2).2)
  else sF es k.2
def aFZ(es:List Int)(a:Nat):Tr×Nat:=
 let k:=aA es 4 a
 if(k.1:Int)=0 then(H2 (lF es k.2).1,(lF es k.2).2)
 else if(k.1:Int)=1 then((lm es 2 k.2).1.restrict [],(lm es 2 k.2).2)
 else(ie [(L5 es k.2).1] 2,(L5 es k.2).2)
def c7(a b p:ab):Rat:=(b.x-a.x)*(p.y-a.y)-(b.y-a.y)*(p.x-a.x)
def nA(v w p:ab):Int:=(if v.y<=p.y/\ ¬w.y<=p.y/\0<c7 v w p then 1 else 0)-(if¬v.y<=p.y/\w.y<=p.y/\c7 v w p<0 then 1 else 0)
def rH(v w q p:ab):Prop:= ∀s t:Rat,0<=s->s<=1->0<=t->t<=1->bp v w s≠bp q p t
def zu{a b:Rat}(h0:0<=a)(h1:a<=b)(hb:0<b):0<=a/b/\a/b<=1/\a/b*b=a:=by
 have e:a/b*b=a:=by grind
 generalize a/b=q at*;refine⟨?_,?_,e⟩
 ·exact(jd hb).1 (by rw[e];exact h0)
 ·have:=(jd (s:=1-q) hb).1 (by grind)
  grind
def XY{q p x:ab}(hy:q.y<p.y)(h:c7 q p x=0)(h1:q.y<=x.y)(h2:x.y<=p.y): ∃t,0<=t/\t<=1/\x=bp q p t:=by
 obtain⟨a1,a2,a3⟩:=zu (a:=x.y-q.y) (b:=p.y-q.y) (by grind) (by grind) (by grind);refine⟨_,a1,a2,?_⟩;generalize (x.y-q.y)/(p.y-q.y)=t at*;obtain⟨X,Y⟩:=x;unfold c7 at h;unfold bp;simp only at*;have e:X=q.x+t*(p.x-q.x):=by
  have h3:(p.y-q.y)*(X-q.x)=(p.y-q.y)*(t*(p.x-q.x)):=by grind
  have h4:p.y-q.y≠0:=by grind
  have:=Rat.mul_eq_zero.1 (show(p.y-q.y)*(X-q.x-t*(p.x-q.x))=0 by grind);rcases this with h5|h5
  ·exact absurd h5 h4
  ·grind
 rw[e];congr 1;grind
def Y1(q p v w:ab)(e:Rat):c7 q p (bp v w e)=c7 q p v+e*(c7 q p w-c7 q p v):=by
 unfold c7 bp;grind
def Ij(v w:ab)(a b e:Rat):bp (bp v w a) (bp v w b) e=bp v w (a+e*(b-a)):=by
 unfold bp;simp only[ab.mk.injEq];constructor<;>grind
def BW(v w:ab)(e:Rat):(bp v w e).y=v.y+e*(w.y-v.y):=rfl
def GK{a b e lo hi:Rat}(h0:0<=e)(h1:e<=1)(ha:lo<=a)(hb:lo<=b)(ha2:a<=hi)(hb2:b<=hi):lo<=a+e*(b-a)/\a+e*(b-a)<=hi:=by
 have k1:=fG h0 (show 0<=b-lo by grind);have k2:=fG (show 0<=1-e by grind) (show 0<=a-lo by grind);have k3:=fG h0 (show 0<=hi-b by grind);have k4:=fG (show 0<=1-e by grind) (show 0<=hi-a by grind);constructor<;>grind
def WW{v w q p:ab}(hn:rH v w q p)(hy:q.y<p.y){a b:Rat}(a0:0<=a)(a1:a<=1)(b0:0<=b)(b1:b<=1)(ha:q.y<=(bp v w a).y/\(bp v w a).y<=p.y)(hb:q.y<=(bp v w b).y/\(bp v w b).y<=p.y)(h:c7 q p (bp v w a)<0):c7 q p (bp v w b)<0:=by
 by_cases k:c7 q p (bp v w b)<0
 ·exact k
 ·exfalso
  obtain⟨e0,e1,e2⟩:=zu (a:= -(c7 q p (bp v w a))) (b:=c7 q p (bp v w b)-c7 q p (bp v w a)) (by grind) (by grind) (by grind);generalize-(c7 q p (bp v w a))/(c7 q p (bp v w b)-c7 q p (bp v w a))=e at*;have hz:c7 q p (bp v w (a+e*(b-a)))=0:=by rw[<-Ij,Y1];grind
  have hh:=GK e0 e1 ha.1 hb.1 ha.2 hb.2;rw[<-BW,Ij] at hh;obtain⟨t,t0,t1,ht⟩:=XY hy hz hh.1 hh.2;have h01:=GK e0 e1 a0 b0 a1 b1;exact hn _ t h01.1 h01.2 t0 t1 ht
def Q9{v w q p:ab}(hn:rH v w q p)(hy:q.y<p.y): ∃r:Bool,∀s,0<=s->s<=1->q.y<=(bp v w s).y->(bp v w s).y<=p.y->(c7 q p (bp v w s)<0↔r=true):=by
 by_cases h: ∃s,0<=s/\s<=1/\(q.y<=(bp v w s).y/\(bp v w s).y<=p.y)/\c7 q p (bp v w s)<0
 ·obtain⟨s,s0,s1,s2,s3⟩:=h
  exact⟨true,fun t t0 t1 h1 h2=>⟨fun _=>J,fun _=>WW hn hy s0 s1 t0 t1 s2 ⟨h1,h2⟩ s3⟩⟩
 ·exact⟨false,fun t t0 t1 h1 h2=>⟨fun k=>absurd ⟨t,t0,t1,⟨h1,h2⟩,k⟩ h,fun k=>by cases k⟩⟩
def Jd(v w:ab):bp v w 0=v:=by unfold bp;cases v;simp only[ab.mk.injEq];constructor<;>grind
def Ky(v w:ab):bp v w 1=w:=by unfold bp;cases w;simp only[ab.mk.injEq];constructor<;>grind
def Gt{v w:ab}{y:Rat}(h:(v.y<=y/\ ¬w.y<=y)\/(¬v.y<=y/\w.y<=y)): ∃s,0<=s/\s<=1/\(bp v w s).y=y:=by
 rcases h with⟨h1,h2⟩|⟨h1,h2⟩
 ·obtain⟨a1,a2,a3⟩:=zu (a:=y-v.y) (b:=w.y-v.y) (by grind) (by grind) (by grind)
  refine⟨_,a1,a2,?_⟩;rw[BW];grind
 ·obtain⟨a1,a2,a3⟩:=zu (a:=v.y-y) (b:=v.y-w.y) (by grind) (by grind) (by grind)
  refine⟨_,a1,a2,?_⟩;rw[BW];grind
def If{v w p:ab}{s:Rat}(h:(bp v w s).y=p.y):c7 v w p=(w.y-v.y)*((bp v w s).x-p.x):=by
 unfold c7;unfold bp at*;simp only at*;rw[<-h];grind
def wk{a b:Rat}(ha:0<a):0<a*b↔0<b:=by rw[Rat.mul_comm];exact n7 ha
def Eb{a b:Rat}(ha:a<0):a*b<0↔0<b:=by
 have:=wk (a:= -a) (b:=b) (by grind);constructor
 ·intro h;exact this.1 (by grind)
 ·intro h;have:=this.2 h;grind
def bI(b:Prop)[Decidable b]:Int:=if b then 1 else 0
def A8{v w p:ab}{r:Prop}[Decidable r](h: ∀s,0<=s->s<=1->(bp v w s).y=p.y->(p.x<(bp v w s).x↔r)):nA v w p=if r then bI (v.y<=p.y)-bI (w.y<=p.y) else 0:=by
 unfold nA bI;by_cases h1:v.y<=p.y<;>by_cases h2:w.y<=p.y
 ·simp[h1,h2]
 ·obtain⟨s,s0,s1,s2⟩:=Gt (.inl ⟨h1,h2⟩)
  have e:=If s2;have k:=h s s0 s1 s2;have m:=wk (a:=w.y-v.y) (b:=(bp v w s).x-p.x) (by grind);rw[<-e] at m;have m2:0<c7 v w p↔r:=by rw[m,<-k];grind
  simp only[h1,h2,m2];by_cases q:r<;>simp[q]
 ·obtain⟨s,s0,s1,s2⟩:=Gt (.inr ⟨h1,h2⟩)
  have e:=If s2;have k:=h s s0 s1 s2;have m:=Eb (a:=w.y-v.y) (b:=(bp v w s).x-p.x) (by grind);rw[<-e] at m;have m2:c7 v w p<0↔r:=by rw[m,<-k];grind
  simp only[h1,h2,m2];by_cases q:r<;>simp[q]
 ·simp[h1,h2]
def tg(q p u:ab):Int:=if q.y<u.y/\u.y<=p.y/\c7 q p u<0 then 1 else 0
def MK{v w q p:ab}(hn:rH v w q p)(hy:q.y<p.y):nA v w p-nA v w q=tg q p v-tg q p w:=by
 obtain⟨r,hr⟩:=Q9 hn hy;have ep:=A8 (v:=v) (w:=w) (p:=p) (r:=r=true) fun s s0 s1 s2=>by
  rw[<-hr s s0 s1 (by grind) (by grind)];have m:=wk (a:=p.y-q.y) (b:=(bp v w s).x-p.x) (by grind);have:c7 q p (bp v w s)= -((p.y-q.y)*((bp v w s).x-p.x)):=by unfold c7;rw[s2];grind
  rw[this];generalize (p.y-q.y)*((bp v w s).x-p.x)=z at*;constructor
  ·intro k;have:=m.2 (by grind);grind
  ·intro k;have:=m.1 (by grind);grind
 have eq:=A8 (v:=v) (w:=w) (p:=q) (r:=r=true) fun s s0 s1 s2=>by
  rw[<-hr s s0 s1 (by grind) (by grind)];have m:=wk (a:=p.y-q.y) (b:=(bp v w s).x-q.x) (by grind);have:c7 q p (bp v w s)= -((p.y-q.y)*((bp v w s).x-q.x)):=by unfold c7;rw[s2];grind
  rw[this];generalize (p.y-q.y)*((bp v w s).x-q.x)=z at*;constructor
  ·intro k;have:=m.2 (by grind);grind
  ·intro k;have:=m.1 (by grind);grind
 have fv:tg q p v=if r=true then bI (v.y<=p.y)-bI (v.y<=q.y) else 0:=by
  have h:=hr 0 (by decide) (by decide);rw[Jd] at h;unfold tg bI;by_cases h1:v.y<=p.y<;>by_cases h2:v.y<=q.y
  ·have: ¬q.y<v.y:=by grind
   simp[h1,h2,this]
  ·have h3:q.y<v.y:=by grind
   have:=h (by grind) h1;simp only[h1,h2,h3,this];by_cases q:r=true<;>simp[q]
  ·exfalso;grind
  ·simp[h1,h2]
 have fw:tg q p w=if r=true then bI (w.y<=p.y)-bI (w.y<=q.y) else 0:=by
  have h:=hr 1 (by decide) (by decide);rw[Ky] at h;unfold tg bI;by_cases h1:w.y<=p.y<;>by_cases h2:w.y<=q.y
  ·have: ¬q.y<w.y:=by grind
   simp[h1,h2,this]
  ·have h3:q.y<w.y:=by grind
   have:=h (by grind) h1;simp only[h1,h2,h3,this];by_cases q:r=true<;>simp[q]
  ·exfalso;grind
  ·simp[h1,h2]
 rw[ep,eq,fv,fw];by_cases q:r=true
 ·simp only[if_pos q];omega
 ·simp only[if_neg q]
def QO{v w q p:ab}(hn:rH v w q p)(hy:q.y=p.y):nA v w p=nA v w q:=by
 have key: ∀s,0<=s->s<=1->(bp v w s).y=p.y->(p.x<(bp v w s).x↔q.x<(bp v w s).x):=fun s s0 s1 s2=>by
  have no: ∀a b:Rat,a<=(bp v w s).x->(bp v w s).x<b->((a=q.x/\b=p.x)\/(a=p.x/\b=q.x))->False:=fun a b h1 h2 h3=>by
   obtain⟨a1,a2,a3⟩:=zu (a:=(bp v w s).x-a) (b:=b-a) (by grind) (by grind) (by grind);generalize ((bp v w s).x-a)/(b-a)=t at*;rcases h3 with⟨e1,e2⟩|⟨e1,e2⟩
   ·refine hn s t s0 s1 a1 a2 ?_
    generalize hx:bp v w s=x at*;obtain⟨X,Y⟩:=x;unfold bp;simp only[ab.mk.injEq] at*;subst e1 e2;constructor<;>grind
   ·refine hn s (1-t) s0 s1 (by grind) (by grind) ?_
    generalize hx:bp v w s=x at*;obtain⟨X,Y⟩:=x;unfold bp;simp only[ab.mk.injEq] at*;subst e1 e2;constructor<;>grind
  constructor
  ·intro h
   by_cases k:q.x<(bp v w s).x
   ·exact k
   ·by_cases k2:(bp v w s).x=q.x
    ·exfalso
     refine hn s 0 s0 s1 (by decide) (by decide) ?_;rw[Jd];generalize bp v w s=x at*;obtain⟨X,Y⟩:=x;obtain⟨A,B⟩:=q;simp only[ab.mk.injEq] at*;exact⟨k2,by grind⟩
    ·exact(no p.x q.x (by grind) (by grind) (.inr ⟨J,J⟩)).elim
  ·intro h
   by_cases k:p.x<(bp v w s).x
   ·exact k
   ·by_cases k2:(bp v w s).x=p.x
    ·exfalso
     refine hn s 1 s0 s1 (by decide) (by decide) ?_;rw[Ky];generalize bp v w s=x at*;obtain⟨X,Y⟩:=x;obtain⟨A,B⟩:=p;simp only[ab.mk.injEq] at*;exact⟨k2,s2⟩
    ·exact(no q.x p.x (by grind) (by grind) (.inl ⟨J,J⟩)).elim
 by_cases hc:(v.y<=p.y/\ ¬w.y<=p.y)\/(¬v.y<=p.y/\w.y<=p.y)
 ·obtain⟨s,s0,s1,s2⟩:=Gt hc
  have uq: ∀t,(bp v w t).y=p.y->t=s:=fun t ht=>by
   rw[BW] at ht s2;have h4:w.y-v.y≠0:=by grind
   have:=Rat.mul_eq_zero.1 (show(w.y-v.y)*(t-s)=0 by grind);rcases this with h5|h5
   ·exact absurd h5 h4
   ·grind
  rw[A8 (p:=p) (r:=p.x<(bp v w s).x) fun t _ _ ht=>by rw[uq t ht],A8 (p:=q) (r:=p.x<(bp v w s).x) fun t _ _ ht=>by rw[uq t (by rw[ht,hy])];exact(key s s0 s1 s2).symm,hy]
 ·unfold nA
  rw[hy];by_cases h1:v.y<=p.y<;>by_cases h2:w.y<=p.y<;>simp[h1,h2] at hc⊢
def QF(q p:ab)(t:Rat):bp p q t=bp q p (1-t):=by unfold bp;simp only[ab.mk.injEq];constructor<;>grind
def rH.symm{v w q p:ab}(h:rH v w q p):rH v w p q:=fun s t s0 s1 t0 t1 e=>h s (1-t) s0 s1 (by grind) (by grind) (by rw[e,QF])
def i9(r:List ZP)(p:ab):Nat->Int
 |0=>0
 |k+1=>i9 r p k+nA (r.getD k (0,0)).q (ek r k).q p
def vn(r:List ZP)(q p:ab):Prop:= ∀k,k<r.length->rH (r.getD k (0,0)).q (ek r k).q q p
def Jf{r:List ZP}{q p:ab}(h:vn r q p)(hy:q.y<p.y): ∀k,k<r.length->i9 r p k-i9 r q k=tg q p (r.getD 0 (0,0)).q-tg q p (r.getD k (0,0)).q
 |0,_=>by simp[i9]
 |k+1,hk=>by
  have ih:=Jf h hy k (by omega);have e:=MK (h k (by omega)) hy;rw[HX (by omega)] at e;rw[i9,i9,HX (by omega)];omega
def N6{r:List ZP}{q p:ab}(h:vn r q p)(hy:q.y<p.y):i9 r p r.length=i9 r q r.length:=by
 cases hr:r.length with
 |zero=>rfl
 |succ n=>
  have ih:=Jf h hy n (by omega);have e:=MK (h n (by omega)) hy;rw[HA (by omega)] at e;rw[i9,i9,HA (by omega)];omega
def Pf{r:List ZP}{q p:ab}(h:vn r q p)(hy:q.y=p.y): ∀k,k<=r.length->i9 r p k=i9 r q k
 |0,_=>rfl
 |k+1,hk=>by rw[i9,i9,Pf h hy k (by omega),QO (h k (by omega)) hy]
def ZC{r:List ZP}{q p:ab}(h:vn r q p):i9 r p r.length=i9 r q r.length:=by
 by_cases h1:q.y<p.y
 ·exact N6 h h1
 ·by_cases h2:p.y<q.y
  ·exact(N6 (fun k hk=>(h k hk).symm) h2).symm
  ·exact Pf h (by grind) _ (aL _)
def Yx(a b c:ab):rA a b c=(c7 a b c).num.sign:=by
 unfold rA c7 ab.cross dG;congr 2;grind
def Iy(a b:Rat):b9 a b<=0↔a<=b:=by
 have:=CN a b;constructor
 ·intro h
  by_cases q:b<a
  ·have:=this.2 q;omega
  ·grind
 ·intro h
  by_cases q:0<b9 a b
  ·have:=this.1 q;grind
  ·omega
def ZM(v w p:ab):F0 v w p=nA v w p:=by
 unfold F0 nA;simp only[Yx,sD,oO,Iy]
def Am(r:List ZP)(p:ab): ∀k,Ar r p k=i9 r p k
 |0=>rfl
 |k+1=>by rw[Ar,i9,Am r p k,ZM]
def WK{r:List ZP}{q p:ab}(h:vn r q p):mO r p=mO r q:=by
 unfold mO;rw[Am,Am,ZC h]
def V8(R:Rat)(p:ab):Prop:=p.x< -R\/R<p.x\/p.y< -R\/R<p.y
def EO(op:Int)(a b:Tr):Bool:=decide ((a.mergeQ op b []).isLeaf=true/\(a.mergeQ op b []).code=false)
def aBL(a b:Tr):Int:=if EO 4 a b then 0 else if EO 3 a b then-1 else if EO 3 b a then 1 else 2
def tq:Tr->ab->Bool
 | .leaf b,_=>b
 | .node l x y,p=>if(l.value p).num.sign=1 then tq x p else if(l.value p).num.sign= -1 then tq y p else false
def EH(t:Tr):List aF:=((t.parts []).filter (·.1)).map (·.2)
def ip(l:aa)(p:ab):aF->Rat->Rat
 |[],f=>f
 |s::c,f=>ip l p c (if Int.sign (s.l.nor.dot l.nor).num<0 then(if-(s.l.value p/s.l.nor.dot l.nor)<f then-(s.l.value p/s.l.nor.dot l.nor) else f) else f)
def oB:aF->ab
 |[]=>⟨0,0⟩
 |s::c=>dG (s.l.at s.v.sample) s.l.nor (ip s.l (s.l.at s.v.sample) c 1*mkRat 1 2)
def Gf{v k:Rat}(hk:k<0)(hv:0<v):0< -(v/k):=by
 have e: -(v/k)* -k=v:=by grind
 exact(n7 (k:= -k) (by grind)).1 (by rw[e];exact hv)
def Fv{l:aa}{p:ab}: ∀{c:aF} {f:Rat},0<f->(∀s∈c,s.l.nor.dot l.nor<0->0<s.l.value p)->0<ip l p c f/\ip l p c f<=f/\ ∀s∈c,s.l.nor.dot l.nor<0->ip l p c f<= -(s.l.value p/s.l.nor.dot l.nor)
 |[],f,hf,_=>⟨hf,iQ,fun s hs=>by cases hs⟩
 |s::c,f,hf,h=>by
  have h0:=h s aQ;have h1:=fun u hu=>h u (aZ _ hu);rw[ip];by_cases hk:s.l.nor.dot l.nor<0
  ·have hp:=Gf hk (h0 hk)
   rw[if_pos ((oO _).2 hk)];obtain⟨k1,k2,k3⟩:=Fv (c:=c) (f:=if-(s.l.value p/s.l.nor.dot l.nor)<f then-(s.l.value p/s.l.nor.dot l.nor) else f) (by split<;>assumption) h1;refine⟨k1,?_,fun u hu=>?_⟩
   ·split at k2<;>grind
   ·rcases aW.1 hu with rfl|hu
    ·intro _;split at k2<;>grind
    ·exact k3 u hu
  ·rw[if_neg (fun e=>hk ((oO _).1 e))]
   obtain⟨k1,k2,k3⟩:=Fv (c:=c) hf h1;refine⟨k1,k2,fun u hu=>?_⟩;rcases aW.1 hu with rfl|hu
   ·intro e;exact absurd e hk
   ·exact k3 u hu
def WR: ∀{c:aF},dw c->bO c (oB c)
 |[],_=>Rx _
 |s::c,hc=>by
  have hs:s∈s::c:=aQ;obtain⟨p1,p2⟩:=hc.edge s hs;have hin:=(p2 s.v.sample).1 (uC p1).has;have hne:=(hc.ok s hs).ne;have hself:=qq hne s.v.sample;have hpos: ∀g∈c,g.l≠s.l->0<g.l.value (s.l.at s.v.sample):=fun g hg hn=>by
   have h1:=hin g (aZ _ hg);have h2:g.l.value (s.l.at s.v.sample)≠0:=fun e=>hn (LA hc hs (hc.ok g (aZ _ hg)) (fun p hp=>hp g (aZ _ hg)) e);grind
  have hnn:=oF hne;have hk: ∀g∈c,g.l.nor.dot s.l.nor<0->0<g.l.value (s.l.at s.v.sample):=fun g hg hk=>hpos g hg (fun e=>by rw[e] at hk;grind);obtain⟨f1,f2,f3⟩:=Fv (l:=s.l) (p:=s.l.at s.v.sample) (c:=c) (f:=1) (by decide) hk;show bO (s::c) (dG (s.l.at s.v.sample) s.l.nor (ip s.l (s.l.at s.v.sample) c 1*mkRat 1 2));rw[JR];generalize ip s.l (s.l.at s.v.sample) c 1=F at f1 f2 f3⊢;intro g hg;rw[jG];have hhalf:0<F*(1/2):=by grind
  rcases aW.1 hg with e|hg
  ·rw[e,hself,Rat.zero_add]
   exact ji hhalf hnn
  ·by_cases he:g.l=s.l
   ·rw[he,hself]
    have:=ji (a:=F*(1/2)) (b:=s.l.nor.dot s.l.nor) (by grind) hnn;grind
   ·have hv:=hpos g hg he
    by_cases hk2:g.l.nor.dot s.l.nor<0
    ·have hf:=f3 g hg hk2
     generalize g.l.nor.dot s.l.nor=k at hk2 hf⊢;generalize g.l.value (s.l.at s.v.sample)=v at hf hv⊢;have e1: -(v/k)* -k=v:=by grind
     generalize-(v/k)=w at e1 hf;have:=fG (a:=w-F) (b:= -k) (by grind) (by grind);clear hin hpos hk f3 hc p2;grind
    ·have h9:=fG (a:=F*(1/2)) (b:=g.l.nor.dot s.l.nor) (gJ hhalf) (by grind)
     generalize F*(1/2)*g.l.nor.dot s.l.nor=z at h9⊢;clear hin hpos hk f3 hc p2;grind
def qB:Tr->ab->ab->Bool×Bool
 | .leaf b,_,_=>(b,true)
 | .node l x y,p,v=>match (if(l.value p).num.sign=0 then(l.dir.cross v).num.sign else(l.value p).num.sign) with
  |1=>qB x p v
  | -1=>qB y p v
  |_=>(false,false)
def Gn(L:List aa)(p v:ab):Prop:= ∀l∈L,l.value p=0->l.nor.dot v≠0
def ut(u v:ab):Prop:=u.half<v.half\/(u.half=v.half/\0<u.cross v)
def oc(d:ab):ab:=⟨-d.x, -d.y⟩
def Nxt(ds:List ab)(u w:ab):Prop:=(ut u w/\ ∀d∈ds,¬(ut u d/\ut d w))\/((∀d∈ds,¬ut u d)/\ ∀d∈ds,¬ut d w)
structure aGe (ds:List ab):Prop where
 nz: ∀d∈ds,d.half≠0
 neg: ∀d∈ds,oc d∈ds
def btw(a b:Rat)(u w:ab):ab:=⟨a*u.x+b*w.x,a*u.y+b*w.y⟩
end Go.Sx
end
section
namespace Go.Sx
open Go
inductive OT where
 |z (π:List (Nat×Bool))
 |q (i:Nat) (t:OT)
 |a (i:Nat) (t:OT)
 |c (i:Nat) (t r:OT)
def OT.sz:OT->Nat
 | .z _=>0
 | .q _ t=>t.sz+1
 | .a _ t=>t.sz+1
 | .c _ t r=>t.sz+r.sz+1
def OT.d:OT->Nat
 | .z π=>π.length
 | .q _ t=>t.d+1
 | .a _ t=>t.d+1
 | .c _ t r=>Nat.max (t.d+1) r.d
section
variable {P:Program} {ops:Array Oper} {Q:Exit->Act->World->Prop} {S:World->Prop} {π₂:List (Nat×Bool)}
def uH(P:Program)(ops:Array Oper)(Q:Exit->Act->World->Prop)(K:(World->Prop)->Act->World->Prop):List Nat->OT->(World->Prop)->Act->World->Prop
 |ks, .z π,S,a,w=>vJ P ops Q K ks π S a w
 |ks, .q i t,S,a,w=> ∃o v,ops[i]? =some o/\S w/\YieldsIf P ops S o v a/\uH P ops Q K ks t S (a.put o.dst v) w
 |ks, .a i t,S,a,w=>wpOp P ops Q i (tZ S (uH P ops Q K ks t)) a w/\
   ∀j,(h:j∈ks)->wpOp P ops Q j (tZ S (uH P ops Q K (bD ks j) (.a i t))) a w
 |ks, .c i t r,S,a,w=>wpOp P ops Q i (tZ S (uH P ops Q K ks t)) a w/\uH P ops Q K ks r S a w/\
   ∀j,(h:j∈ks)->wpOp P ops Q j (tZ S (uH P ops Q K (bD ks j) (.c i t r))) a w
termination_by ks t=>ks.length+t.sz
decreasing_by
 all_goals (first|(have:=Gk h;simp only[OT.sz] at*;omega)|(simp only[OT.sz];omega))
def qA(ops:Array Oper)(fin:Nat->Bool)(π₂:List (Nat×Bool)):Nat->Bool->List Nat->OT->Array Bool->List Nat->Bool
 |0,_,_,_,_,_=>false
 |n+1,false,ks, .z π,l,_=>z8 ops fin π₂ n ks π l
 |_+1,true,_, .z _,_,_=>false
 |n+1,false,ks, .q i t,l,_=>uR ops fin l i&&qA ops fin π₂ n false ks t (l.setIfInBounds i true) []
 |_+1,true,_, .q _ _,_,_=>false
 |n+1,true,ks, .a i t,l,rs=>rs.all (fun j=>Nat.beq j i)&&qA ops fin π₂ n false ks t (l.setIfInBounds i true) []
 |n+1,false,ks, .a i t,l,_=>!(Region.ready .any ops l).isEmpty&&(Region.ready .any ops l).all (fun j=>Nat.beq j i||ks.contains j)&&qA ops fin π₂ n false ks t (l.setIfInBounds i true) []&&ks.all fun j=>qA ops fin π₂ n false (bD ks j) (.a i t) (l.setIfInBounds j true) []
 |n+1,true,ks, .c i t r,l,rs=>qA ops fin π₂ n false ks t (l.setIfInBounds i true) []&&qA ops fin π₂ n true ks r l (bD rs i)
 |n+1,false,ks, .c i t r,l,_=>!(Region.ready .any ops l).isEmpty&&qA ops fin π₂ n false ks t (l.setIfInBounds i true) []&&qA ops fin π₂ n true ks r l (bD ((Region.ready .any ops l).filter fun j=>!ks.contains j) i)&&ks.all fun j=>qA ops fin π₂ n false (bD ks j) (.c i t r) (l.setIfInBounds j true) []
end
section
variable {P:Program} {GB:Gh} {C:aD} {n:Nat} {fr fr':dH} {own own' own0 own1 own1':List cI} {bs bs0 bs1 bs1':List dt} {ops:Array Oper} {Q:Exit->Act->World->Prop} {fd:List FD} {π₂:List (Nat×Bool)} {t r:OT}
abbrev dnK (P:Program) (ops:Array Oper) (Q:Exit->Act->World->Prop) (K:(World->Prop)->Act->World->Prop) (t:OT):List Nat->(World->Prop)->Act->World->Prop:=fun ks S=>uH P ops (e7 Q) K ks t S
end
end Go.Sx
end
section
namespace Go.Sx
open Go Go.Proofs Tryz
variable {GB:Gh}
theorem LB.rev{l:aa}(h:LB l):LB l.rev:=⟨⟨by rw[show l.rev.a= -l.a from J,kZ];exact h.bl.a,by rw[show l.rev.b= -l.b from J,kZ];exact h.bl.b,by rw[show l.rev.c= -l.c from J,kZ];exact h.bl.c⟩⟩
def NI{α:Type}{p:α->Bool}: ∀{xs:List α} {n:Nat},n<=xs.length->(∀j (h:j<xs.length),j<n->p xs[j]=true)->(∀h:n<xs.length,p xs[n]=false)->(xs.takeWhile p).length=n
 |[],n,h,_,_=>by simp at h;subst h;rfl
 |x::xs,0,_,_,h3=>by
  have:=h3 (by simp);simp only[oV] at this;simp[pL,this]
 |x::xs,n+1,h1,h2,h3=>by
  have hx:=h2 0 (by simp) (by omega);simp only[oV] at hx;rw[pL,if_pos hx,bT];rw[NI (n:=n) (by simpa using h1) (fun j h hj=>by have:=h2 (j+1) (by simpa using h) (by omega);simpa using this) (fun h=>by have:=h3 (by simpa using h);simpa using this)]
structure Cst (c:List aa) (k:Nat) (xs:List aa):Prop where
 le:k<=c.length
 f:Hs c (c.drop k) xs=rh c
 m: ∀m∈xs,m∈c
 n:xs.length<=k
def Jh(c:List aa):Bool:=if(((c.map eL).length:Nat):Int)=0 then true else decide ((0:Int)<((((rh c).map eL).length:Nat):Int))
section
variable {α:Type} (c:α->α->Int)
def fe(x:α):List α->List α
 |[]=>[x]
 |u::t=>if c u x<0 then u::fe x t else if c u x=0 then u::t else x::u::t
def mn(x:α)(xs:List α):Nat:=(xs.takeWhile fun u=>decide (c u x<0)).length
def SW(x:α)(xs:List α):mn c x xs<=xs.length:=(List.takeWhile_sublist _).length_le
def MJ{x:α}{xs:List α}{n:Nat}(h1:n<=xs.length)(h2: ∀j (h:j<xs.length),j<n->c xs[j] x<0)(h3: ∀h:n<xs.length,¬c xs[n] x<0):mn c x xs=n:=
 NI h1 (fun j h hj=>decide_eq_true (h2 j h hj)) (fun h=>decide_eq_false (h3 h))
def L0{x:α}: ∀{xs:List α} {n:Nat},mn c x xs=n->(h:n<xs.length)->c xs[n] x=0->fe c x xs=xs
 |[],n,_,h,_=>by simp at h
 |u::t,n,hn,h,e=>by
  rw[fe];unfold mn at hn;rw[pL] at hn;by_cases hu:c u x<0
  ·rw[if_pos hu]
   rw[if_pos (by simpa using hu)] at hn;obtain⟨k,rfl⟩: ∃k,n=k+1:=⟨n-1,by simp at hn;omega⟩;rw[L0 (xs:=t) (n:=k) (by unfold mn;simpa using hn) (by simpa using h) (by simpa using e)]
  ·rw[if_neg (by simpa using hu)] at hn
   simp at hn;subst hn;rw[if_neg hu,if_pos (by simpa using e)]
def DZ{x:α}: ∀{xs:List α} {n:Nat},mn c x xs=n->(∀h:n<xs.length,c xs[n] x≠0)->fe c x xs=xs.take n++x::xs.drop n
 |[],n,hn,_=>by simp[mn] at hn;subst hn;rfl
 |u::t,n,hn,e=>by
  rw[fe];unfold mn at hn;rw[pL] at hn;by_cases hu:c u x<0
  ·rw[if_pos hu]
   rw[if_pos (by simpa using hu)] at hn;obtain⟨k,rfl⟩: ∃k,n=k+1:=⟨n-1,by simp at hn;omega⟩;rw[DZ (xs:=t) (n:=k) (by unfold mn;simpa using hn) (fun h=>by have:=e (by simpa using h);simpa using this)];simp
  ·rw[if_neg (by simpa using hu)] at hn
   simp at hn;subst hn;have:=e (by simp);rw[if_neg hu,if_neg (by simpa using this)];rfl
def LR(x:α): ∀(xs:List α),(fe c x xs).length<=xs.length+1
 |[]=>aL _
 |u::t=>by
  have:=LR x t;rw[fe];split
  ·simp;omega
  ·split<;>simp
def HJ{x y:α}: ∀{xs:List α},y∈fe c x xs->y=x\/y∈xs
 |[],h=>by rw[fe,aU] at h;exact .inl h
 |u::t,h=>by
  rw[fe] at h;split at h
  ·rcases aW.1 h with rfl|h
   ·exact .inr aQ
   ·rcases HJ h with h|h
    ·exact .inl h
    ·exact .inr (aZ _ h)
  ·split at h
   ·exact .inr h
   ·rcases aW.1 h with rfl|h
    ·exact .inl J
    ·exact .inr h
def pB(l:List α):List α:=l.foldl (fun out x=>fe c x out) []
def Du: ∀(l o:List α),(l.foldl (fun out x=>fe c x out) o).length<=l.length+o.length
 |[],o=>by simp
 |x::t,o=>by
  have:=Du t (fe c x o);have:=LR c x o;simp only[dS,bT];omega
def EA{y:α}: ∀{l o:List α},y∈l.foldl (fun out x=>fe c x out) o->y∈l\/y∈o
 |[],o,h=> .inr h
 |x::t,o,h=>by
  rcases EA (l:=t) h with h|h
  ·exact .inl (aZ _ h)
  ·rcases HJ c h with rfl|h
   ·exact .inl aQ
   ·exact .inr h
end
def NV{α β:Type}{f:α->β}{l:List α}{k:Nat}{x:α}(h:l[k]? =some x):(l.take k).map f++[f x]=(l.take (k+1)).map f:=by
 rw[gK,h,fQ];rfl
def Pr{a i:Nat}[ha:BN a i](hi:i<=400000000:=by decide):PF GB prog 194 [dN a] (dN a):=by
 have hl:=eO (dg a);have hb:=lD ha.h;refine fn func194 J J ntmps194 J J (fun C=>?_);refine Fa J J<|ap ((dg a).map dU) J J (tJ _) J<|?_;refine nv 5 J ?_;exact rz J J
def UZ{z:Int}{i:Nat}[hz:BI z i](hi:i<=400000000:=by decide):PF GB prog 193 [eI z] (eI z):=by
 refine fn func193 J J ntmps193 J J (fun C=>?_);refine cl J (Pr (a:=z.natAbs) (i:=i) (ha:=⟨hz.h⟩) hi) J<|?_;exact rz J J
def rlD(r:RL):DV:= .tp [if r.nm then eL r.l else .ag [.v (.bool false), .sl [], .v (.bool false), .sl [], .v (.bool false), .sl []],vB (decide (r.nm/\r.l.ok))]
def smB(n:Int)(ls:List (List Nat)):Bool:=ls.all fun d=>decide ((d.length:Int)<=n)
def RL.smB(n:Int)(r:RL):Bool:=Sx.smB n [r.da,r.db,r.dc]
def rlB(n:Int)(ls:List RL):Bool:=ls.all fun r=>r.smB n
instance BQ.m1':BQ (((-1:Int):Int):Rat) 2:=⟨by decide,by decide⟩
instance BQ.m1:BQ (-1:Rat) 2:=⟨by decide,by decide⟩
def Ic{q:Rat}{i:Nat}[h:BQ q i](hi:i<=400000000:=by decide):PF GB prog 106 [eQ q] (eR q):=by
 refine fn func106 J J ntmps106 J J (fun C=>?_);refine cl J (UZ (z:=q.num) hi) J<|cl J (mj (q:=q)) J<|cl J (Pr (a:=q.den) hi) J<|?_;exact rz J J
def Zk{p:ab}{i:Nat}[h:bg p i](hi:i<=20000:=by decide):PF GB prog 35 [eP p] (pb p):=by
 refine fn func35 J J ntmps35 J J (fun C=>?_);refine cl J (Ic (q:=p.x) (i:=i) (by omega)) J<|cl J (Ic (q:=p.y) (i:=i) (by omega)) J<|?_;exact rz J J
def Ao{α:Type}(f:α->DV)(l:List α):(l.map f).length=l.length:=aJ ..
def pj(ps:List ab):dB 6 (ps.map eP):=fun d hd=>by
 obtain⟨u,_,rfl⟩:=bJ.1 hd;exact⟨rfl,rfl⟩
def Vo(ps:List ab):dB 6 (ps.map pb):=fun d hd=>by
 obtain⟨u,_,rfl⟩:=bJ.1 hd;exact⟨rfl,rfl⟩
def Lf{ps:List ab}(hb: ∀p∈ps,bg p 1200)(hn:ps.length<=1000000):PF GB prog 32 [.sl (ps.map eP)] (.sl (ps.map pb)):=by
 have hm:=Ao eP ps;refine fn (fu:=⟨15⟩) func32 J J ntmps32 J J (fun C=>?_);refine aB 7 (.d (vI (ps.length:Nat))) J (by rw[hm]<;>rfl) ?_;refine gx J<|?_;refine nr 3 3 73 6 J J J ?_;refine lp (X:=Nat) (fun k=>[(8, .d (vI (k:Nat))),(3, .rw 3)]) (fun k=>[(3,some (.b 73 6 ((ps.take k).map pb) true))]) (fun k=>k<=ps.length) (fun k=>ps.length-k) 0 J (bL _) (fun _=>J) (fun k hk=>?_);have hml:=Ao pb (ps.take k);rw[bM] at hml;refine br J J J (fun hc9=>?_) (fun hc9=>?_)
 .
  obtain⟨z,hz⟩: ∃s,ps[k]? =some s:=⟨_,aX (by omega)⟩;have hzm:=bZ hz;refine ix _ J (eH hz) J<|cl J (Zk (p:=z) (h:=hb z hzm)) J<|rf J J<|ap ((ps.take (k+1)).map pb) J (NV hz) (Vo [z]) J<|?_;refine kr 16 3 J ?_;exact at_ (k+1) ⟨(by omega),(by omega)⟩
 .
  obtain rfl:k=ps.length:=by omega
  refine nv 3 J ?_;exact rz J (by rw[dY];rfl)
def fj(p q:ab):Int:=if b9 p.x q.x≠0 then b9 p.x q.x else b9 p.y q.y
def LT{p q:ab}{i j:Nat}[hp:bg p i][hq:bg q j](hi:i<=100000:=by decide)(hj:j<=100000:=by decide):PF GB prog 181 [eP p,eP q] (vI (fj p q)):=by
 refine fn func181 J J ntmps181 J J (fun C=>?_);refine cl J (Dh (a:=p.x) (b:=q.x) (by omega) (by omega)) J<|?_;refine br J J J (fun hc12=>?_) (fun hc12=>?_)
 .
  exact rz J (by unfold fj;rw[if_pos hc12];rfl)
 .
  refine cl J (Dh (a:=p.y) (b:=q.y) (by omega) (by omega)) J<|?_;exact rz J (by unfold fj;rw[if_neg hc12];rfl)
def xz(l:aa):Bool:=decide (l.a<0\/(l.a=0/\l.b<0))
def aa.canon(l:aa):aa:=if xz l then l.rev else l
def yy(a:Int):a.sign<0↔a<0:=by
 rcases nX a 0 with h|h|h
 ·rw[eY h];omega
 ·subst h;simp
 ·rw[fL h];omega
def nk(a:Int):a.sign=0↔a=0:=jX
instance LB.canon (l:aa) [h:LB l]:LB l.canon:=by unfold aa.canon;split;exact LB.rev h;exact h
def Zz{l:aa}(h:l.ok):l.canon.ok:=by unfold aa.canon;split;exact h.rev;exact h
end Go.Sx
end
