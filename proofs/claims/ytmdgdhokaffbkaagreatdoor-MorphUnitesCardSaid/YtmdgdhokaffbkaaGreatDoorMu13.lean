import Derived.Test.YtmdgdhokaffbkaaGreatDoorMu12
set_option linter.all false
set_option maxHeartbeats 2000000
set_option maxRecDepth 100000
section
namespace Go.Sx
open Go Go.Proofs Tryz
variable {t u:Tr}{L M K:List aa}{p:ah}{c e:ar}{op m n side m' n' fill d:Int}{a b i k j:Nat}{f:bt}{es:List Int}
variable {GB:Gh}
def Tr.val:Tr->ah->Bool
 | .leaf b,_=>b
 | .node l x y,p=>if 0<l.value p then x.val p else y.val p
def Tr.lns:Tr->List aa
 | .leaf _=>[]
 | .node l x y=>l::(x.lns++y.lns)
def j'{P:aa->Prop}: ∀{t:Tr},t.all P↔ ∀l∈t.lns,P l
 | .leaf _=>⟨fun _ l hl=>(by cases hl),fun _=>trivial⟩
 | .node l x y=>by
  show(P l/\x.all P/\y.all P)↔ ∀m∈l::(x.lns++y.lns),P m;rw[j' (t:=x),j' (t:=y)];constructor
  .rintro ⟨h0,h1,h2⟩ m hm
   rcases aK.1 hm with rfl|hm
   .exact h0
   .rcases aM.1 hm with hm|hm
    .exact h1 m hm
    .exact h2 m hm
  .intro h
   exact⟨h l aQ,fun m hm=>h m (aJ _ (bV _ hm)),fun m hm=>h m (aJ _ (bZ _ hm))⟩
def nP(h:t.all aa.ok): ∀l∈t.lns,l.ok:=j'.1 h
def b9(L:List aa)(p:ah):Prop:= ∀l∈L,l.value p≠0
def b9.sub(h:b9 L p)(k: ∀l∈M,l∈L):b9 M p:=fun l hl=>h l (k l hl)
def b9.l{l:aa}{x y:Tr}{p:ah}(h:b9 (Tr.node l x y).lns p):l.value p≠0:=h l aQ
def b9.x{l:aa}{x y:Tr}{p:ah}(h:b9 (Tr.node l x y).lns p):b9 x.lns p:=h.sub fun m hm=>aJ _ (bV _ hm)
def b9.y{l:aa}{x y:Tr}{p:ah}(h:b9 (Tr.node l x y).lns p):b9 y.lns p:=h.sub fun m hm=>aJ _ (bZ _ hm)
def b9.app:b9 (L++M) p↔b9 L p/\b9 M p:=by
 unfold b9;constructor
 .intro h;exact⟨fun l hl=>h l (bV _ hl),fun l hl=>h l (bZ _ hl)⟩
 .rintro ⟨h1,h2⟩ l hl;rcases aM.1 hl with h|h;exact h1 l h;exact h2 l h
def qE(op:Int)(a b:Bool):Bool:=if op=1 then a||b else if op=2 then a&&b else if op=3 then a&&!b else a !=b
def Tr.val_join(l:aa)(X Y:Tr)(p:ah):(Tr.joinQ l X Y).val p=(Tr.node l X Y).val p:=by
 unfold Tr.joinQ;split
 .rename_i h
  cases X<;>cases Y<;>simp[Tr.isLeaf,Tr.code] at h
  subst h;simp[Tr.val]
 .rfl
def Tr.val_pos{l:aa}{x y:Tr}(h:0<l.value p):(Tr.node l x y).val p=x.val p:=by rw[Tr.val,if_pos h]
def Tr.val_neg{l:aa}{x y:Tr}(h: ¬0<l.value p):(Tr.node l x y).val p=y.val p:=by rw[Tr.val,if_neg h]
def Tr.val_compl: ∀(t:Tr) (p:ah),t.compl.val p=!t.val p
 | .leaf b,p=>rfl
 | .node l x y,p=>by
  rw[Tr.compl];by_cases h:0<l.value p
  .rw[Tr.val_pos h,Tr.val_pos h,x.val_compl]
  .rw[Tr.val_neg h,Tr.val_neg h,y.val_compl]
def N7{l:aa}(hc:bu c)(hl:l.ok)(hb:cg c l.rev=false)(hp:bm c p)(h0:l.value p≠0):0<l.value p:=by
 by_cases h:0<l.value p
 .exact h
 .exfalso
  have:cg c l.rev=true:=(m9 hc hl.rev).2 ⟨p,hp,by rw[en];grind⟩;rw[hb] at this;cases this
def MG{l:aa}(hc:bu c)(hl:l.ok)(hb:cg c l=false)(hp:bm c p): ¬0<l.value p:=fun h=>by
 have:cg c l=true:=(m9 hc hl).2 ⟨p,hp,h⟩;rw[hb] at this;cases this
def Tr.val_restrict: ∀(t:Tr) (c:ar) (p:ah),t.all aa.ok->bu c->bm c p->b9 t.lns p->(t.restrict c).val p=t.val p
 | .leaf _,_,_,_,_,_,_=>rfl
 | .node l x y,c,p,⟨hl,hx,hy⟩,hc,hp,ho=>by
  cases hb:cg c l.rev with
  |false=>rw[Tr.restrict_A _ _ hb,x.val_restrict c p hx hc hp ho.x,Tr.val_pos (N7 hc hl hb hp ho.l)]
  |true=>
   cases hb2:cg c l with
   |false=>rw[Tr.restrict_B _ _ hb hb2,y.val_restrict c p hy hc hp ho.y,Tr.val_neg (MG hc hl hb2 hp)]
   |true=>
    rw[Tr.restrict_C _ _ hb hb2,Tr.val_join];obtain⟨g1,i1⟩:=gk hc hl hb2;obtain⟨g2,i2⟩:=gk hc hl.rev hb;by_cases h:0<l.value p
    .rw[Tr.val_pos h,Tr.val_pos h,x.val_restrict _ p hx g1 ((i1 p).2 ⟨hp,h⟩) ho.x]
    .rw[Tr.val_neg h,Tr.val_neg h,y.val_restrict _ p hy g2 ((i2 p).2 ⟨hp,by rw[en];have:=ho.l;grind⟩) ho.y]
def Tr.val_choose(op:Int)(b:Bool)(t:Tr)(c:ar)(p:ah)(ht:t.all aa.ok)(hc:bu c)(hp:bm c p)(ho:b9 t.lns p):(t.chooseQ op b c).val p=qE op b (t.val p):=by
 have hr:=t.val_restrict c p ht hc hp ho;unfold Tr.chooseQ qE;by_cases h1:op=1
 .subst h1;cases b<;>simp[hr,Tr.val]
 .by_cases h2:op=2
  .subst h2;cases b<;>simp[hr,Tr.val]
  .by_cases h3:op=3
   .subst h3;cases b<;>simp[hr,Tr.val,Tr.val_compl]
   .cases b<;>simp[h1,h2,h3,hr,Tr.val_compl]
def Tr.val_merge(op:Int)(u:Tr)(hu:u.all aa.ok): ∀(t:Tr) (c:ar) (p:ah),t.all aa.ok->bu c->bm c p->b9 t.lns p->b9 u.lns p->(t.mergeQ op u c).val p=qE op (t.val p) (u.val p)
 | .leaf b,c,p,_,hc,hp,_,ho=>u.val_choose op b c p hu hc hp ho
 | .node l x y,c,p,⟨hl,hx,hy⟩,hc,hp,ho,hou=>by
  rw[Tr.mergeQ]
  cases hb:cg c l.rev with
  |false=>
   rw[if_pos (show(!false)=true from J),Tr.val_merge op u hu x c p hx hc hp ho.x hou,Tr.val_pos (N7 hc hl hb hp ho.l)]
  |true=>
   rw[if_neg (by decide)]
   cases hb2:cg c l with
   |false=>rw[if_pos (show(!false)=true from J),Tr.val_merge op u hu y c p hy hc hp ho.y hou,Tr.val_neg (MG hc hl hb2 hp)]
   |true=>
    rw[if_neg (by decide),Tr.val_join];obtain⟨g1,i1⟩:=gk hc hl hb2;obtain⟨g2,i2⟩:=gk hc hl.rev hb;by_cases h:0<l.value p
    .rw[Tr.val_pos h,Tr.val_pos h,Tr.val_merge op u hu x _ p hx g1 ((i1 p).2 ⟨hp,h⟩) ho.x hou]
    .rw[Tr.val_neg h,Tr.val_neg h,Tr.val_merge op u hu y _ p hy g2 ((i2 p).2 ⟨hp,by rw[en];have:=ho.l;grind⟩) ho.y hou]
def PP: ∀(L:List aa) (u:ah) (p:ah),b9 L p-> ∃e:Rat,0<e/\ ∀d,0<=d->d<=e->b9 L (cG p u d)
 |[],u,p,_=>⟨1,by decide,fun d _ _ l hl=>by cases hl⟩
 |l::L,u,p,h=>by
  obtain⟨e,he,hm⟩:=PP L u p (h.sub fun m hm=>aJ _ hm);have h0:=h l aQ;have key: ∃f:Rat,0<f/\ ∀d,0<=d->d<=f->l.value (cG p u d)≠0:=by
   by_cases hk:l.nor.dot u=0
   .exact⟨1,by decide,fun d _ _=>by rw[jf,hk];grind⟩
   .generalize hA:l.value p=A at*
    generalize hB:l.nor.dot u=B at*;rcases jz A with h|h|h
    .exact absurd h h0
    .rcases jz B with k|k|k
     .exact absurd k hk
     .exact⟨1,by decide,fun d hd _=>by rw[jf,hA,hB];have:=cC hd (cM k);grind⟩
     .refine⟨A/(-B)/2,?_,fun d hd h2=>?_⟩
      .have:0<A/(-B):=by
        have e1:A/(-B)*(-B)=A:=by grind
        exact(fC (k:= -B) (by grind)).1 (by rw[e1];exact h)
       grind
      .rw[jf,hA,hB]
       have e1:A/(-B)*(-B)=A:=by grind
       generalize A/(-B)=q at*;have h4:=cC (a:=q/2-d) (b:= -B) (by grind) (by grind);grind
    .rcases jz B with k|k|k
     .exact absurd k hk
     .refine⟨(-A)/B/2,?_,fun d hd h2=>?_⟩
      .have:0<(-A)/B:=by
        have e1:(-A)/B*B= -A:=by grind
        exact(fC (k:=B) k).1 (by rw[e1];grind)
       grind
      .rw[jf,hA,hB]
       have e1:(-A)/B*B= -A:=by grind
       generalize (-A)/B=q at*;have h4:=cC (a:=q/2-d) (b:=B) (by grind) (by grind);grind
     .exact⟨1,by decide,fun d hd _=>by rw[jf,hA,hB];have:=cC hd (b:= -B) (by grind);grind⟩
  obtain⟨f,hf,hk⟩:=key;refine⟨if e<=f then e else f,by split<;>assumption,fun d hd hde m hm'=>?_⟩;have h1:d<=e/\d<=f:=by split at hde<;>grind
  rcases aK.1 hm' with rfl|hm'
  .exact hk d hd h1.2
  .exact hm d hd h1.1 m hm'
def FS{c:ar}{p:ah}(hp:bm c p): ∀(L:List aa),(∀l∈L,l.ok)-> ∃q,bm c q/\b9 L q
 |[],_=>⟨p,hp,fun l hl=>by cases hl⟩
 |l::L,h=>by
  obtain⟨q,hq,ho⟩:=FS hp L fun m hm=>h m (aJ _ hm);by_cases h0:l.value q=0
  .have hn:=mf (h l aQ).ne
   obtain⟨e,he,hm⟩:=hq.open l.nor;obtain⟨f,hf,hk⟩:=PP L l.nor q ho;refine⟨cG q l.nor (if e<=f then e else f),hm _ (by split<;>grind) (by split<;>grind),fun m hm'=>?_⟩;rcases aK.1 hm' with rfl|hm'
   .rw[jf,h0]
    have:=dd (a:=if e<=f then e else f) (b:=m.nor.dot m.nor) (by split<;>assumption) hn;grind
   .exact hk _ (by split<;>grind) (by split<;>grind) m hm'
  .exact⟨q,hq,fun m hm=>by rcases aK.1 hm with rfl|hm;exact h0;exact ho m hm⟩
def aFB(hc:bu c)(L:List aa)(h: ∀l∈L,l.ok): ∃q,bm c q/\b9 L q:=by
 obtain⟨p,hp⟩:=hc.ne;exact FS hp L h
def Tr.Red:Tr->ar->Prop
 | .leaf _,_=>True
 | .node l x y,c=>cg c l=true/\cg c l.rev=true/\x.Red (bz c l)/\y.Red (bz c l.rev)/\ ¬(x.isLeaf=true/\y.isLeaf=true/\x.code=y.code)
def Tr.red_leaf(h:t.isLeaf=true)(c:ar):t.Red c:=by
 cases t with
 |leaf b=>trivial
 |node l x y=>cases h
def Tr.join_red{l:aa}{x y:Tr}(h1:cg c l=true)(h2:cg c l.rev=true)(hx:x.Red (bz c l))(hy:y.Red (bz c l.rev)):(Tr.joinQ l x y).Red c:=by
 rcases Tr.joinQ_cases l x y with⟨e,h⟩|⟨e,h⟩
 .rw[e];exact Tr.red_leaf h c
 .rw[e];exact⟨h1,h2,hx,hy,h⟩
def Tr.restrict_red: ∀(t:Tr) (c:ar),(t.restrict c).Red c
 | .leaf _,_=>trivial
 | .node l x y,c=>by
  cases hb:cg c l.rev with
  |false=>rw[Tr.restrict_A _ _ hb];exact x.restrict_red c
  |true=>
   cases hb2:cg c l with
   |false=>rw[Tr.restrict_B _ _ hb hb2];exact y.restrict_red c
   |true=>rw[Tr.restrict_C _ _ hb hb2];exact Tr.join_red hb2 hb (x.restrict_red _) (y.restrict_red _)
def Tr.compl_leaf:t.compl.isLeaf=t.isLeaf:=by cases t<;>rfl
def Tr.compl_code(h:t.isLeaf=true):t.compl.code=!t.code:=by
 cases t with
 |leaf b=>rfl
 |node l x y=>cases h
def Tr.compl_red: ∀{t:Tr} {c:ar},t.Red c->t.compl.Red c
 | .leaf _,_,_=>trivial
 | .node l x y,c,⟨h1,h2,h3,h4,h5⟩=>by
  refine⟨h1,h2,Tr.compl_red h3,Tr.compl_red h4,fun⟨a,b,e⟩=>?_⟩;rw[Tr.compl_leaf] at a b;rw[Tr.compl_code a,Tr.compl_code b] at e;exact h5 ⟨a,b,by simpa using e⟩
def Tr.choose_red(op:Int)(b:Bool)(t:Tr)(c:ar):(t.chooseQ op b c).Red c:=by
 have h:=t.restrict_red c;unfold Tr.chooseQ;split
 .split
  .trivial
  .exact h
 .split
  .trivial
  .split
   .exact Tr.compl_red h
   .exact h
def Tr.merge_red(op:Int)(u:Tr): ∀(t:Tr) (c:ar),(t.mergeQ op u c).Red c
 | .leaf b,c=>u.choose_red op b c
 | .node l x y,c=>by
  rw[Tr.mergeQ]
  cases hb:cg c l.rev with
  |false=>rw[if_pos (show(!false)=true from J)];exact Tr.merge_red op u x c
  |true=>
   rw[if_neg (by decide)]
   cases hb2:cg c l with
   |false=>rw[if_pos (show(!false)=true from J)];exact Tr.merge_red op u y c
   |true=>rw[if_neg (by decide)];exact Tr.join_red hb2 hb (Tr.merge_red op u x _) (Tr.merge_red op u y _)
def Tr.red_const{L:List aa}(hL: ∀l∈L,l.ok){v:Bool}: ∀{t:Tr} {c:ar},t.Red c->t.all aa.ok->bu c->(∀p,bm c p->b9 L p->t.val p=v)->t= .leaf v
 | .leaf b,c,_,_,hc,h=>by
  obtain⟨q,h1,h2⟩:=aFB hc L hL;have:=h q h1 h2;rw[Tr.val] at this;rw[this]
 | .node l x y,c,⟨h1,h2,h3,h4,h5⟩,⟨hl,hx,hy⟩,hc,h=>by
  obtain⟨g1,i1⟩:=gk hc hl h1;obtain⟨g2,i2⟩:=gk hc hl.rev h2;have ex:=Tr.red_const hL (v:=v) h3 hx g1 (fun p hp ho=>by
   have k:=(i1 p).1 hp;rw[<-h p k.1 ho,Tr.val_pos k.2])
  have ey:=Tr.red_const hL (v:=v) h4 hy g2 (fun p hp ho=>by
   have k:=(i2 p).1 hp;rw[en] at k;rw[<-h p k.1 ho,Tr.val_neg (by have:=k.2;grind)])
  subst ex;subst ey;exact absurd ⟨J,J,J⟩ h5
def O1(p:ah):bm [] p:=fun s hs=>(by cases hs)
def Tr.merge_leaf{a b:Tr}(ha:a.all aa.ok)(hb:b.all aa.ok)(hL: ∀l∈L,l.ok)(hLa: ∀l∈a.lns,l∈L)(hLb: ∀l∈b.lns,l∈L){v:Bool}:a.mergeQ op b []= .leaf v↔ ∀p,b9 L p->qE op (a.val p) (b.val p)=v:=by
 constructor
 .intro h p hp
  rw[<-Tr.val_merge op b hb a [] p ha bu.nil (O1 p) (hp.sub hLa) (hp.sub hLb),h];rfl
 .intro h
  refine Tr.red_const hL (Tr.merge_red op b a []) (Tr.mergeQ_all aa.ok op hb a [] ha) bu.nil (fun p _ hp=>?_);rw[Tr.val_merge op b hb a [] p ha bu.nil (O1 p) (hp.sub hLa) (hp.sub hLb)];exact h p hp
def aa.same(l m:aa):Prop:=m=l\/m=l.rev
instance (l m:aa):Decidable (l.same m):=inferInstanceAs (Decidable (_\/_))
def Tr.cnt(l:aa):Tr->Nat
 | .leaf _=>0
 | .node m x y=>(if l.same m then 1 else 0)+(x.cnt l+y.cnt l)
def nO{l m:aa}(h:l.same m)(hp:l.value p=0):m.value p=0:=by
 rcases h with rfl|rfl
 .exact hp
 .rw[en,hp];rfl
def C0(l:aa)(c:ar):Prop:= ∃p,bm c p/\l.value p=0
def Tr.cnt_zero{l:aa}: ∀{t:Tr} {c:ar},t.Red c->t.all aa.ok->bu c-> ¬C0 l c->t.cnt l=0
 | .leaf _,_,_,_,_,_=>rfl
 | .node m x y,c,⟨h1,h2,h3,h4,_⟩,⟨hm,hx,hy⟩,hc,hn=>by
  obtain⟨g1,i1⟩:=gk hc hm h1;obtain⟨g2,i2⟩:=gk hc hm.rev h2;have e1:=Tr.cnt_zero (l:=l) h3 hx g1 (fun⟨p,hp,h0⟩=>hn ⟨p,((i1 p).1 hp).1,h0⟩);have e2:=Tr.cnt_zero (l:=l) h4 hy g2 (fun⟨p,hp,h0⟩=>hn ⟨p,((i2 p).1 hp).1,h0⟩);rw[Tr.cnt,e1,e2];by_cases hs:l.same m
  .exfalso
   -- m crosses the cell
   obtain⟨p,hp,k1⟩:=(m9 hc hm).1 h1;obtain⟨q,hq,k2⟩:=(m9 hc hm.rev).1 h2;rw[en] at k2;generalize hA:m.value p=A at*;generalize hB:m.value q=B at*;have hAB:0<A-B:=by grind
   have e:A/(A-B)*(A-B)=A:=by grind
   generalize A/(A-B)=r at*;have r0:0<=r:=(gE hAB).1 (by rw[e];exact cM k1);have r1:r<=1:=by
    have:=(gE (s:=1-r) hAB).1 (by grind);grind
   have hz:=hp.seg hq r0 r1;have hv:m.value (jt p q r)=0:=by rw[kw,hA,hB];grind
   refine hn ⟨_,hz,?_⟩;rcases hs with rfl|rfl
   .exact hv
   .rw[en] at hv;grind
  .rw[if_neg hs]
def pz(c:ar)(p:ah):Bool:=c.all fun s=>decide (0<s.l.value p)
def qq:pz c p=true↔bm c p:=by
 unfold pz bm;rw[dJ];simp
def L0(P:List ah)(l:aa)(t:Tr):Prop:=t.all fun m=>l.same m\/ ∀p,l.value p=0->m.value p=0->p∈P
def F9{α:Type}{p q r:α->Bool}: ∀(P:List α),(∀x∈P,q x=true->p x=true)->(∀x∈P,r x=true->p x=true)->(∀x∈P,¬(q x=true/\r x=true))->P.countP q+P.countP r<=P.countP p
 |[],_,_,_=>bW _
 |x::P,h1,h2,h3=>by
  have ih:=F9 (p:=p) (q:=q) (r:=r) P (fun y hy=>h1 y (aJ _ hy)) (fun y hy=>h2 y (aJ _ hy)) (fun y hy=>h3 y (aJ _ hy));have a:=h1 x aQ;have b:=h2 x aQ;have c:=h3 x aQ;rw[oU,oU,oU]
  cases hq:q x<;>cases hr:r x<;>simp_all<;>omega
def R9{α:Type}{p q r:α->Bool}: ∀(P:List α),(∀x∈P,q x=true->p x=true)->(∀x∈P,r x=true->p x=true)->(∀x∈P,¬(q x=true/\r x=true))->(∃x∈P,p x=true/\q x=false/\r x=false)->P.countP q+P.countP r+1<=P.countP p
 |[],_,_,_,⟨x,hx,_⟩=>by cases hx
 |x::P,h1,h2,h3,h4=>by
  have i2:=F9 (p:=p) (q:=q) (r:=r) P (fun y hy=>h1 y (aJ _ hy)) (fun y hy=>h2 y (aJ _ hy)) (fun y hy=>h3 y (aJ _ hy));have a:=h1 x aQ;have b:=h2 x aQ;have c:=h3 x aQ;rw[oU,oU,oU];obtain⟨z,hz,k1,k2,k3⟩:=h4;rcases aK.1 hz with rfl|hz
  .simp only[k1,k2,k3];simp;omega
  .have ih:=R9 (p:=p) (q:=q) (r:=r) P (fun y hy=>h1 y (aJ _ hy)) (fun y hy=>h2 y (aJ _ hy)) (fun y hy=>h3 y (aJ _ hy)) ⟨z,hz,k1,k2,k3⟩
   cases hq:q x<;>cases hr:r x<;>simp_all<;>omega
def Tr.cnt_le{l:aa}(hl:l.ok){P:List ah}: ∀{t:Tr} {c:ar},t.Red c->t.all aa.ok->bu c->L0 P l t->t.cnt l<=1+P.countP (pz c)
 | .leaf _,_,_,_,_,_=>bJ _
 | .node m x y,c,⟨h1,h2,h3,h4,_⟩,⟨hm,hx,hy⟩,hc,⟨v0,v1,v2⟩=>by
  obtain⟨g1,i1⟩:=gk hc hm h1;obtain⟨g2,i2⟩:=gk hc hm.rev h2;have q1: ∀p∈P,pz (bz c m) p=true->pz c p=true:=fun p _ h=>qq.2 ((i1 p).1 (qq.1 h)).1;have q2: ∀p∈P,pz (bz c m.rev) p=true->pz c p=true:=fun p _ h=>qq.2 ((i2 p).1 (qq.1 h)).1;have q3: ∀p∈P,¬(pz (bz c m) p=true/\pz (bz c m.rev) p=true):=fun p _ ⟨a,b⟩=>by
   have a:=((i1 p).1 (qq.1 a)).2;have b:=((i2 p).1 (qq.1 b)).2;rw[en] at b;grind
  have ct:=F9 P q1 q2 q3;rw[Tr.cnt];by_cases hs:l.same m
  .have e1:=Tr.cnt_zero (l:=l) h3 hx g1 (fun⟨p,hp,h0⟩=>by have:=((i1 p).1 hp).2;rw[nO hs h0] at this;grind)
   have e2:=Tr.cnt_zero (l:=l) h4 hy g2 (fun⟨p,hp,h0⟩=>by have:=((i2 p).1 hp).2;rw[en,nO hs h0] at this;grind);rw[e1,e2,if_pos hs];omega
  .rw[if_neg hs]
   have b1:=Tr.cnt_le hl h3 hx g1 v1;have b2:=Tr.cnt_le hl h4 hy g2 v2;by_cases w1:C0 l (bz c m)
   .by_cases w2:C0 l (bz c m.rev)
    .-- the crossing z8 in the cell
     obtain⟨p,hp,k1⟩:=w1;obtain⟨q,hq,k2⟩:=w2;obtain⟨hp,ap⟩:=(i1 p).1 hp;obtain⟨hq,aq⟩:=(i2 q).1 hq;rw[en] at aq;generalize hA:m.value p=A at*;generalize hB:m.value q=B at*;have hAB:0<A-B:=by grind
     have e:A/(A-B)*(A-B)=A:=by grind
     generalize A/(A-B)=r at*;have r0:0<=r:=(gE hAB).1 (by rw[e];exact cM ap);have r1:r<=1:=by
      have:=(gE (s:=1-r) hAB).1 (by grind);grind
     have hz:=hp.seg hq r0 r1;have hv:m.value (jt p q r)=0:=by rw[kw,hA,hB];grind
     have hv2:l.value (jt p q r)=0:=by rw[kw,k1,k2];grind
     have hmem:jt p q r∈P:=by
      rcases v0 with h|h
      .exact absurd h hs
      .exact h _ hv2 hv
     have c3:=R9 P q1 q2 q3 ⟨_,hmem,qq.2 hz,by
      rw[<-jU,qq,i1];rintro ⟨_,h⟩;rw[hv] at h;grind,by
      rw[<-jU,qq,i2];rintro ⟨_,h⟩;rw[en,hv] at h;grind⟩
     omega
    .rw[Tr.cnt_zero h4 hy g2 w2];omega
   .rw[Tr.cnt_zero h3 hx g1 w1];omega
def N9(l:aa):l.rev.rev=l:=by cases l;simp[aa.rev]
def aa.same.symm{l m:aa}(h:l.same m):m.same l:=by
 rcases h with rfl|rfl
 .exact .inl J
 .exact .inr (N9 l).symm
def aa.same.trans{l m n:aa}(h:l.same m)(k:m.same n):l.same n:=by
 rcases h with rfl|rfl
 .exact k
 .rcases k with rfl|rfl
  .exact .inr J
  .exact .inl (N9 l)
def eG(K:List aa)(t:Tr):Prop:=t.all fun n=> ∃m∈K,m.same n
def vZ(l m:aa):ah:=l.at (-(l.cutC m/l.cutK m))
def EW{l m:aa}(hl:l.ok)(hm:m.ok)(h1:l.value p=0)(h2:m.value p=0):l.same m\/p=vZ l m:=by
 obtain⟨t,rfl⟩:=Br hl.ne h1;rw[lh] at h2;by_cases hk:l.cutK m=0
 .left
  have hc:l.cutC m=0:=by rw[hk] at h2;grind
  rcases x6 hm hl (fun s=>by rw[lh,hk,hc];grind) with h|h
  .exact .inl h
  .exact .inr h
 .right
  unfold vZ;congr 1;grind
def eG.covers{K:List aa}(hK: ∀m∈K,m.ok){l:aa}(hl:l.ok): ∀{t:Tr},eG K t->L0 (K.map (vZ l)) l t
 | .leaf _,_=>trivial
 | .node n x y,⟨⟨m,hm,hs⟩,h1,h2⟩=>by
  refine⟨?_,eG.covers hK hl h1,eG.covers hK hl h2⟩;by_cases h:l.same n
  .exact .inl h
  .right
   intro p k1 k2;rcases EW hl (hK m hm) k1 (nO hs.symm k2) with h3|h3
   .exact absurd (h3.trans hs) h
   .rw[h3];exact dY hm
def Kc(t:Tr):List aa->Nat
 |[]=>0
 |l::K=>t.cnt l+Kc t K
def Ks(n:aa):List aa->Nat
 |[]=>0
 |l::K=>(if l.same n then 1 else 0)+Ks n K
def Rx{n:aa}{x y:Tr}: ∀K,Kc (.node n x y) K=Ks n K+(Kc x K+Kc y K)
 |[]=>rfl
 |l::K=>by
  have:=Rx (n:=n) (x:=x) (y:=y) K;show(Tr.node n x y).cnt l+Kc (.node n x y) K=_;rw[this,Tr.cnt];show _=(if l.same n then 1 else 0)+Ks n K+(x.cnt l+Kc x K+(y.cnt l+Kc y K));omega
def RA{n m:aa}(hs:m.same n): ∀{K:List aa},m∈K->1<=Ks n K
 |[],h=>by cases h
 |l::K,h=>by
  show 1<=(if l.same n then 1 else 0)+Ks n K;rcases aK.1 h with rfl|h
  .rw[if_pos hs];omega
  .have:=RA hs h;omega
def H5{K:List aa}: ∀{t:Tr},eG K t->t.size<=Kc t K
 | .leaf _,_=>bJ _
 | .node n x y,⟨⟨m,hm,hs⟩,h1,h2⟩=>by
  have a:=H5 h1;have b:=H5 h2;have c:=RA hs hm;rw[Rx,Tr.size];omega
def LA{t:Tr}{B:Nat}: ∀{K:List aa},(∀l∈K,t.cnt l<=B)->Kc t K<=K.length*B
 |[],_=>bJ _
 |l::K,h=>by
  have:=LA (t:=t) (B:=B) (K:=K) fun m hm=>h m (aJ _ hm);have:=h l aQ;show t.cnt l+Kc t K<=(K.length+1)*B;rw[fS];omega
def Tr.size_le(hK: ∀m∈K,m.ok)(hr:t.Red c)(ht:t.all aa.ok)(hc:bu c)(h:eG K t):t.size<=K.length*(1+K.length):=by
 refine cS (H5 h) (LA fun l hl=>?_);refine cS (Tr.cnt_le (hK l hl) hr ht hc (h.covers hK (hK l hl))) ?_;have:=List.countP_le_length (p:=pz c) (l:=K.map (vZ l));rw[aX] at this;omega
def ayj(h: ∀l∈t.lns,l∈K):eG K t:=j'.2 fun l hl=>⟨l,h l hl, .inl J⟩
def eG.mono(h:eG K t)(k: ∀l∈K,∃m∈M,m.same l):eG M t:=j'.2 fun l hl=>by
 obtain⟨m,hm,hs⟩:=j'.1 h l hl;obtain⟨n,hn,hs2⟩:=k m hm;exact⟨n,hn,hs2.trans hs⟩
def eG.restrict{K:List aa}{t:Tr}(h:eG K t)(c:ar):eG K (t.restrict c):=t.restrict_all _ c h
def eG.compl{K:List aa}{t:Tr}(h:eG K t):eG K t.compl:=t.compl_all _ h
def eG.merge(h:eG K t)(hu:eG K u)(c:ar):eG K (t.mergeQ op u c):=Tr.mergeQ_all _ op hu t c h
def Tr.merge_size(hK: ∀m∈K,m.ok){a b:Tr}(ha:a.all aa.ok)(hb:b.all aa.ok)(ka:eG K a)(kb:eG K b):(a.mergeQ op b []).size<=K.length*(1+K.length):=
 Tr.size_le hK (Tr.merge_red op b a []) (Tr.mergeQ_all aa.ok op hb a [] ha) bu.nil (ka.merge kb [])
def IG{a b:Tr}(hd:a.depth+b.depth<=1024)(hs:(a.mergeQ op b []).size<=65536):hH op a b=some (a.mergeQ op b []):=by
 unfold hH;rw[if_neg (by omega),if_neg (by omega)]
def Tr.mergeQ_depth(op:Int)(u:Tr): ∀(t:Tr) (c:ar),(t.mergeQ op u c).depth<=t.depth+u.depth
 | .leaf b,c=>by
  have:=u.restrict_depth c;have h2:=(u.restrict c).compl_depth;show(u.chooseQ op b c).depth<=_;unfold Tr.chooseQ;split
  .split
   .exact bJ _
   .simp only[Tr.depth];omega
  .split
   .exact bJ _
   .split
    .simp only[Tr.depth];omega
    .simp only[Tr.depth];omega
 | .node l x y,c=>by
  have hx:=fun c=>Tr.mergeQ_depth op u x c;have hy:=fun c=>Tr.mergeQ_depth op u y c;rw[Tr.mergeQ];simp only[Tr.depth];split
  .have:=hx c;omega
  .split
   .have:=hy c;omega
   .have h1:=hx (bz c l)
    have h2:=hy (bz c l.rev);rcases Tr.joinQ_cases l (x.mergeQ op u (bz c l)) (y.mergeQ op u (bz c l.rev)) with⟨h,_⟩|⟨h,_⟩<;>rw[h]<;>(try simp only[Tr.depth])<;>omega
structure rB (L:List aa) (a b:Tr):Prop where
 oa:a.all aa.ok
 ob:b.all aa.ok
 ok: ∀l∈L,l.ok
 la: ∀l∈a.lns,l∈L
 lb: ∀l∈b.lns,l∈L
def rB.mk0{a b:Tr}(ha:a.all aa.ok)(hb:b.all aa.ok):rB (a.lns++b.lns) a b:=
 ⟨ha,hb,fun l hl=>(aM.1 hl).elim (nP ha l) (nP hb l),fun l hl=>bV _ hl,fun l hl=>bZ _ hl⟩
def rB.leaf{L:List aa}{a b:Tr}(h:rB L a b){op:Int}{v:Bool}:a.mergeQ op b []= .leaf v↔ ∀p,b9 L p->qE op (a.val p) (b.val p)=v:=Tr.merge_leaf h.oa h.ob h.ok h.la h.lb
def kd(x:Rat):List Rat->List Rat
 |[]=>[x]
 |u::t=>if u<x then u::kd x t else if u=x then u::t else x::u::t
def fk(l:List Rat):List Rat:=l.foldl (fun out x=>kd x out) []
def iu:List Rat->List Rat
 |a::b::t=>(a+b)/2::iu (b::t)
 |_=>[]
def cd:List Rat->List Rat
 |[]=>[0]
 |a::t=>(a-1)::(iu (a::t)++[(a::t).getLast (by simp)+1])
def pE{x y:Rat}: ∀{l:List Rat},y∈kd x l↔y=x\/y∈l
 |[]=>by simp[kd]
 |u::t=>by
  rw[kd];split
  .rw[aK,pE (l:=t),aK];grind
  .split
   .rename_i h;subst h;simp
   .simp
def xw{x:Rat}: ∀{l:List Rat},l.Pairwise (· < ·)->(kd x l).Pairwise (· < ·)
 |[],_=>by simp[kd]
 |u::t,h=>by
  rw[bS] at h;rw[kd];split
  .rename_i hu
   rw[bS];refine⟨fun y hy=>?_,xw h.2⟩;rcases pE.1 hy with rfl|hy
   .exact hu
   .exact h.1 y hy
  .rename_i hu
   split
   .rw[bS];exact h
   .rename_i hn
    have hx:x<u:=by grind
    rw[bS,bS];refine⟨fun y hy=>?_,h⟩;rcases aK.1 hy with rfl|hy
    .exact hx
    .have:=h.1 y hy;grind
def O'{l:List Rat}: ∀{o:List Rat},o.Pairwise (· < ·)->(l.foldl (fun out x=>kd x out) o).Pairwise (· < ·)/\ ∀y,y∈l.foldl (fun out x=>kd x out) o↔y∈l\/y∈o:=by
 induction l with
 |nil=>intro o h;exact⟨h,fun y=>by simp⟩
 |cons x t ih=>
  intro o h;obtain⟨h1,h2⟩:=ih (xw (x:=x) h);refine⟨h1,fun y=>?_⟩;rw[kY,h2,pE,aK];grind
def xu(l:List Rat):(fk l).Pairwise (· < ·):=(O' (l:=l) List.Pairwise.nil).1
def oP{l:List Rat}{y:Rat}:y∈fk l↔y∈l:=by
 have:=(O' (l:=l) List.Pairwise.nil).2 y;simpa[fk] using this
def LH{g:Rat}: ∀{l:List Rat},l.Pairwise (· < ·)->g∈iu l->g∉l/\(∃a∈l,a<g)/\ ∃b∈l,g<b
 |[],_,h=>by cases h
 |[_],_,h=>by cases h
 |a::b::t,h,hg=>by
  rw[bS] at h;have hab:=h.1 b aQ;rw[iu] at hg;rcases aK.1 hg with rfl|hg
  .refine⟨fun hm=>?_,⟨a,aQ,by grind⟩,b,aJ _ aQ,by grind⟩
   rcases aK.1 hm with e|hm
   .grind
   .rcases aK.1 hm with e|hm
    .grind
    .have h2:=h.2
     rw[bS] at h2;have:=h2.1 _ hm;grind
  .obtain⟨k1,⟨c,hc,k2⟩,d,hd,k3⟩:=LH h.2 hg
   refine⟨fun hm=>?_,⟨c,aJ _ hc,k2⟩,d,aJ _ hd,k3⟩;rcases aK.1 hm with e|hm
   .have:=h.1 c hc;grind
   .exact k1 hm
def Ji: ∀{l:List Rat} (h:l.Pairwise (· < ·)) (hn:l≠[]),∀y∈l,y<=l.getLast hn
 |[a],_,_,y,hy=>by rw[aU] at hy;subst hy;exact iV
 |a::b::t,h,_,y,hy=>by
  rw[bS] at h;rw[List.getLast_cons (by simp)];have ih:=Ji h.2 (by simp);rcases aK.1 hy with rfl|hy
  .have:=h.1 b aQ
   have:=ih b aQ;grind
  .exact ih y hy
def Cx{l:List Rat}(h:l.Pairwise (· < ·)){g:Rat}(hg:g∈cd l):g∉l:=by
 cases l with
 |nil=>simp
 |cons a t=>
  rw[cd] at hg;rcases aK.1 hg with rfl|hg
  .intro hm
   rcases aK.1 hm with e|hm
   .grind
   .rw[bS] at h;have:=h.1 _ hm;grind
  .rcases aM.1 hg with hg|hg
   .exact(LH h hg).1
   .rw[aU] at hg
    intro hm;have:=Ji h (by simp) g hm;grind
def Ln{v:Rat}: ∀{l:List Rat},l.Pairwise (· < ·)->v∉l->(∃a∈l,a<v)->(∃b∈l,v<b)-> ∃g∈iu l,∀u∈l,u<v↔u<g
 |[],_,_,⟨a,h,_⟩,_=>by cases h
 |[c],_,_,⟨a,h,h1⟩,⟨b,k,k1⟩=>by
  rw[aU] at h k;subst h;subst k;grind
 |c::d::t,h,hv,h1,h2=>by
  have h0:=h;rw[bS] at h;have hcd:=h.1 d aQ;have h3:=h.2;rw[bS] at h3;have hvc:c<v:=by
   obtain⟨a,ha,hav⟩:=h1;rcases aK.1 ha with rfl|ha
   .exact hav
   .have:=h.1 a ha;grind
  by_cases hd:v<d
  .refine⟨(c+d)/2,by rw[iu];exact aQ,fun u hu=>?_⟩
   rcases aK.1 hu with rfl|hu
   .constructor<;>intro _<;>grind
   .rcases aK.1 hu with rfl|hu
    .constructor<;>intro _<;>grind
    .have:=h3.1 u hu
     constructor<;>intro _<;>grind
  .have hdv:d<v:=by
    have:v≠d:=fun e=>hv (by rw[e];exact aJ _ aQ);grind
   obtain⟨b,hb,hvb⟩:=h2;have hb':b∈d::t:=by
    rcases aK.1 hb with rfl|hb
    .exfalso;grind
    .exact hb
   obtain⟨g,hg,hr⟩:=Ln h.2 (fun e=>hv (aJ _ e)) ⟨d,aQ,hdv⟩ ⟨b,hb',hvb⟩;refine⟨g,by rw[iu];exact aJ _ hg,fun u hu=>?_⟩;rcases aK.1 hu with rfl|hu
   .have:=(hr d aQ).1 hdv
    constructor<;>intro _<;>grind
   .exact hr u hu
def Nm{v:Rat}{l:List Rat}(h:l.Pairwise (· < ·))(hv:v∉l): ∃g∈cd l,∀u∈l,u<v↔u<g:=by
 cases l with
 |nil=>exact⟨0,by simp[cd],fun u hu=>by cases hu⟩
 |cons a t=>
  by_cases h1: ∃c∈a::t,c<v
  .by_cases h2: ∃c∈a::t,v<c
   .obtain⟨g,hg,hr⟩:=Ln h hv h1 h2
    exact⟨g,by rw[cd];exact aJ _ (bV _ hg),hr⟩
   .refine⟨(a::t).getLast (by simp)+1,by rw[cd];exact aJ _ (bZ _ (aU.2 J)),fun u hu=>?_⟩
    have k1:=Ji h (by simp) u hu;have k2: ¬v<u:=fun e=>h2 ⟨u,hu,e⟩;have k3:u≠v:=fun e=>hv (e▸hu);constructor<;>intro _<;>grind
  .refine⟨a-1,by rw[cd];exact aQ,fun u hu=>?_⟩
   have k1: ¬u<v:=fun e=>h1 ⟨u,hu,e⟩;have k2: ¬u<a-1:=by
    rcases aK.1 hu with rfl|hu
    .grind
    .rw[bS] at h;have:=h.1 u hu;grind
   constructor
   .intro e;exact absurd e k1
   .intro e;exact absurd e k2
def BZ(A B:List Rat)(h: ∀a∈A,∀b∈B,a<b): ∃y,(∀a∈A,a<y)/\ ∀b∈B,y<b:=by
 -- the greatest of A and the least of B
 have hA: ∀(A:List Rat),A≠[]-> ∃m∈A,∀a∈A,a<=m:=by
  intro A
  induction A with
  |nil=>intro h;exact absurd rfl h
  |cons x t ih=>
   intro _;by_cases ht:t=[]
   .subst ht;exact⟨x,aQ,fun a ha=>by rw[aU] at ha;subst ha;exact iV⟩
   .obtain⟨m,hm,hm2⟩:=ih ht
    by_cases hx:m<=x
    .exact⟨x,aQ,fun a ha=>by rcases aK.1 ha with rfl|ha;exact iV;have:=hm2 a ha;grind⟩
    .exact⟨m,aJ _ hm,fun a ha=>by rcases aK.1 ha with rfl|ha;grind;exact hm2 a ha⟩
 have hB: ∀(A:List Rat),A≠[]-> ∃m∈A,∀a∈A,m<=a:=by
  intro A
  induction A with
  |nil=>intro h;exact absurd rfl h
  |cons x t ih=>
   intro _;by_cases ht:t=[]
   .subst ht;exact⟨x,aQ,fun a ha=>by rw[aU] at ha;subst ha;exact iV⟩
   .obtain⟨m,hm,hm2⟩:=ih ht
    by_cases hx:x<=m
    .exact⟨x,aQ,fun a ha=>by rcases aK.1 ha with rfl|ha;exact iV;have:=hm2 a ha;grind⟩
    .exact⟨m,aJ _ hm,fun a ha=>by rcases aK.1 ha with rfl|ha;grind;exact hm2 a ha⟩
 by_cases eA:A=[]
 .subst eA
  by_cases eB:B=[]
  .subst eB;exact⟨0,fun a ha=>(by cases ha),fun a ha=>(by cases ha)⟩
  .obtain⟨m,hm,hm2⟩:=hB B eB
   exact⟨m-1,fun a ha=>(by cases ha),fun b hb=>by have:=hm2 b hb;grind⟩
 .obtain⟨m,hm,hm2⟩:=hA A eA
  by_cases eB:B=[]
  .subst eB;exact⟨m+1,fun a ha=>by have:=hm2 a ha;grind,fun a ha=>(by cases ha)⟩
  .obtain⟨n,hn,hn2⟩:=hB B eB
   have hmn:=h m hm n hn;exact⟨(m+n)/2,fun a ha=>by have:=hm2 a ha;grind,fun b hb=>by have:=hn2 b hb;grind⟩
def dw:List aa->List Rat
 |[]=>[]
 |a::t=>(if a.b=0 then [a.base.x] else [])++(t.filterMap (fun b=>if crossI a b=0 then none else some (c7 a b).x)++dw t)
def yA(a:aa)(x:Rat):Rat:= -(((a.a:Rat)*x+(a.c:Rat))/(a.b:Rat))
def gi(l:List aa)(x:Rat):List Rat:=l.filterMap fun a=>if a.b=0 then none else some (yA a x)
def oz(l:List aa):List ah:=(cd (fk (dw l))).flatMap fun x=>(cd (fk (gi l x))).map fun y=>⟨x,y⟩
def zt{a:aa}: ∀{l:List aa},a∈l->a.b=0->a.base.x∈dw l
 |[],h,_=>by cases h
 |c::t,h,hb=>by
  rw[dw];rcases aK.1 h with rfl|h
  .rw[if_pos hb];exact bV _ aQ
  .exact bZ _ (bZ _ (zt h hb))
def L3{a b:aa}: ∀{l:List aa},a∈l->b∈l->crossI a b≠0->(c7 a b).x∈dw l\/(c7 b a).x∈dw l
 |[],h,_,_=>by cases h
 |c::t,h,k,hx=>by
  have hx2:crossI b a≠0:=by unfold crossI at*;omega
  rw[dw];rcases aK.1 h with h1|h1
  .rcases aK.1 k with k1|k1
   .subst h1;subst k1;unfold crossI at hx;omega
   .subst h1;left
    exact bZ _ (bV _ (jS.2 ⟨b,k1,by rw[if_neg hx]⟩))
  .rcases aK.1 k with k1|k1
   .subst k1;right
    exact bZ _ (bV _ (jS.2 ⟨a,h1,by rw[if_neg hx2]⟩))
   .rcases L3 h1 k1 hx with h2|h2
    .exact .inl (bZ _ (bZ _ h2))
    .exact .inr (bZ _ (bZ _ h2))
def Qm{a b:aa}(h:crossI a b≠0)(h1:a.value p=0)(h2:b.value p=0):p.x=(c7 a b).x:=by
 have hd:((crossI a b:Int):Rat)≠0:=fun e=>h (cW.1 e);unfold c7;rw[if_neg h];show p.x=(meetX a b:Rat)/(crossI a b:Rat);have e1:=tk a b;have e2:=I4 a b;rw[i6] at h1 h2;have e3:((crossI a b:Int):Rat)*p.x=(meetX a b:Rat):=by rw[e1,e2];grind
 grind
def Zr{l:List aa}{a b:aa}(ha:a∈l)(hb:b∈l)(h:crossI a b≠0)(h1:a.value p=0)(h2:b.value p=0):p.x∈dw l:=by
 have h':crossI b a≠0:=by unfold crossI at*;omega
 rcases L3 ha hb h with k|k
 .rw[Qm h h1 h2];exact k
 .rw[Qm h' h2 h1];exact k
def ze{a:aa}(h:a.b≠0)(x y:Rat):a.value ⟨x,y⟩=(a.b:Rat)*(y-yA a x):=by
 have hb:(a.b:Rat)≠0:=fun e=>h (cW.1 e);unfold yA;rw[i6];show(a.a:Rat)*x+(a.b:Rat)*y+(a.c:Rat)=_;grind
def Hi{a:aa}(hn:a.Ne)(h:a.b=0)(x y:Rat):a.value ⟨x,y⟩=(a.a:Rat)*(x-a.base.x):=by
 have ha:(a.a:Rat)≠0:=fun e=>hn ⟨cW.1 e,h⟩;obtain⟨q,hq,hb⟩:=Ag hn;rw[hb,i6];show(a.a:Rat)*x+(a.b:Rat)*y+(a.c:Rat)=(a.a:Rat)*(x-(a.a:Rat)*q);simp only[aa.nor,ah.dot] at hq;rw[h] at hq⊢;have:((0:Int):Rat)=0:=J;rw[this] at hq⊢;grind
def F1{l:List aa}{a:aa}(h:a∈l)(hb:a.b≠0)(x:Rat):yA a x∈gi l x:=jS.2 ⟨a,h,by rw[if_neg hb]⟩
def NI{l:List aa}{x y:Rat}(h:y∈gi l x): ∃a∈l,a.b≠0/\y=yA a x:=by
 obtain⟨a,ha,e⟩:=jS.1 h;split at e
 .cases e
 .rename_i hb;cases e;exact⟨a,ha,hb,rfl⟩
def Fa{l:List aa}:p∈oz l↔p.x∈cd (fk (dw l))/\p.y∈cd (fk (gi l p.x)):=by
 unfold oz;rw[iX];constructor
 .rintro ⟨x,hx,hp⟩
  obtain⟨y,hy,rfl⟩:=aR.1 hp;exact⟨hx,hy⟩
 .rintro ⟨h1,h2⟩
  exact⟨p.x,h1,aR.2 ⟨p.y,h2,J⟩⟩
def Lj{l:List aa}(hok: ∀a∈l,a.Ne)(hp:p∈oz l):b9 l p:=by
 obtain⟨h1,h2⟩:=Fa.1 hp;have k1:=Cx (xu _) h1;have k2:=Cx (xu _) h2;rw[oP] at k1 k2;obtain⟨x,y⟩:=p;intro a ha h0;by_cases hb:a.b=0
 .rw[Hi (hok a ha) hb] at h0
  have ha0:(a.a:Rat)≠0:=fun e=>hok a ha ⟨cW.1 e,hb⟩;apply k1;have:x=a.base.x:=by
   rcases fZ.1 h0 with h|h
   .exact absurd h ha0
   .grind
  show x∈_;rw[this];exact zt ha hb
 .rw[ze hb] at h0
  have hb0:(a.b:Rat)≠0:=fun e=>hb (cW.1 e);apply k2;have:y=yA a x:=by
   rcases fZ.1 h0 with h|h
   .exact absurd h hb0
   .grind
  show y∈gi l x;rw[this];exact F1 ha hb x
def aHs(xs:List Rat)(a e:Rat)(he:0<e): ∃d,0<d/\d<=e/\a+d∉xs:=by
 induction xs generalizing e with
 |nil=>exact⟨e,he,iV,by simp⟩
 |cons x t ih=>
  by_cases hx:a<x
  .obtain⟨d,h1,h2,h3⟩:=ih (if e<=(x-a)/2 then e else(x-a)/2) (by split<;>grind)
   refine⟨d,h1,by split at h2<;>grind,fun hm=>?_⟩;rcases aK.1 hm with h|h
   .split at h2<;>grind
   .exact h3 h
  .obtain⟨d,h1,h2,h3⟩:=ih e he
   refine⟨d,h1,h2,fun hm=>?_⟩;rcases aK.1 hm with h|h
   .grind
   .exact h3 h
def tA(l:aa)(p:ah):aa:=if 0<l.value p then l else l.rev
def arZ{l:aa}(h:l.value p≠0):0<(tA l p).value p:=by
 unfold tA;split
 .assumption
 .rw[en];grind
def Th{l:aa}{q:ah}(h:l.value p≠0)(k:0<(tA l p).value q):0<l.value p↔0<l.value q:=by
 unfold tA at k;split at k
 .rename_i h1;exact⟨fun _=>k,fun _=>h1⟩
 .rename_i h1;rw[en] at k;constructor<;>intro _<;>grind
def shift{l:List aa}{q:ah}(ho:b9 l q)(xs:List Rat): ∃q':ah,(∀a∈l,0<a.value q↔0<a.value q')/\b9 l q'/\q'.x∉xs:=by
 have hD:bm (l.map fun a=>⟨tA a q,ao.all⟩) q:=fun s hs=>by
  obtain⟨a,ha,rfl⟩:=aR.1 hs;exact arZ (ho a ha)
 obtain⟨e,he,hm⟩:=hD.open ⟨1,0⟩;obtain⟨d,h1,h2,h3⟩:=aHs xs q.x e he;have hd:=hm d (cM h1) h2;have key: ∀a∈l,0<(tA a q).value (cG q ⟨1,0⟩ d):=fun a ha=>hd ⟨tA a q,ao.all⟩ (aR.2 ⟨a,ha,J⟩);refine⟨cG q ⟨1,0⟩ d,fun a ha=>Th (ho a ha) (key a ha),fun a ha h0=>?_,?_⟩
 .have:=key a ha
  unfold tA at this;split at this
  .grind
  .rw[en] at this;grind
 .show q.x+d*1∉xs
  rw[show d*1=d by grind];exact h3
def WV{l:List aa}(hok: ∀a∈l,a.Ne){q:ah}(ho:b9 l q): ∃p∈oz l,∀a∈l,0<a.value q↔0<a.value p:=by
 obtain⟨⟨qx,qy⟩,hs,ho2,hx⟩:=shift ho (dw l);obtain⟨x0,hx0,hr⟩:=Nm (xu (dw l)) (v:=qx) (by rw[oP];exact hx);have hx0':=Cx (xu _) hx0;rw[oP] at hx0';have hr': ∀u∈dw l,u<qx↔u<x0:=fun u hu=>hr u (oP.2 hu)
 -- the order on the vertical line is the same
 have order: ∀a∈l,∀b∈l,a.b≠0->b.b≠0->yA a qx<yA b qx->yA a x0<yA b x0:=by
  intro a ha b hb hab hbb hlt;by_cases hc:crossI a b=0
  .have e1:=tk a b
   rw[hc] at e1;have h0:((0:Int):Rat)=0:=J;rw[h0] at e1;have na:(a.b:Rat)≠0:=fun e=>hab (cW.1 e);have nb':(b.b:Rat)≠0:=fun e=>hbb (cW.1 e);have e2: ∀x,yA b x-yA a x=(a.c:Rat)/a.b-(b.c:Rat)/b.b:=fun x=>by
    unfold yA;grind
   have:=e2 qx;have:=e2 x0;grind
  .by_cases h:yA a x0<yA b x0
   .exact h
   .exfalso
    -- a crossing BZ
    generalize hA:yA b qx-yA a qx=A;generalize hB:yA b x0-yA a x0=B;have hAB:0<A-B:=by grind
    have e:A/(A-B)*(A-B)=A:=by grind
    generalize hR:A/(A-B)=r at*;have r0:0<r:=(fC hAB).1 (by rw[e];grind);have r1:r<=1:=by
     have:=(gE (s:=1-r) hAB).1 (by grind);grind
    have na:(a.b:Rat)≠0:=fun e=>hab (cW.1 e);have nb':(b.b:Rat)≠0:=fun e=>hbb (cW.1 e);have lin: ∀c:aa,c.b≠0->yA c (qx+r*(x0-qx))=yA c qx+r*(yA c x0-yA c qx):=fun c hc=>by
     have:(c.b:Rat)≠0:=fun e=>hc (cW.1 e);unfold yA;grind
    have hz:yA a (qx+r*(x0-qx))=yA b (qx+r*(x0-qx)):=by
     rw[lin a hab,lin b hbb];grind
    generalize hzx:qx+r*(x0-qx)=z at*;have hm:z∈dw l:=Zr (p:=⟨z,yA a z⟩) ha hb hc (by rw[ze hab];grind) (by rw[ze hbb,hz];grind);have hi:=hr' z hm;have hne:z≠x0:=fun e=>hx0' (e▸hm);have hne2:z≠qx:=fun e=>hx (e▸hm);rcases jz (x0-qx) with k|k|k
    .apply hne2;rw[<-hzx,k];grind
    .have p1:=dd r0 k
     have p2:=cC (a:=1-r) (b:=x0-qx) (by grind) (cM k);have:z<x0:=by grind
     have:=hi.2 this;grind
    .have p1:=dd r0 (b:=qx-x0) (by grind)
     have p2:=cC (a:=1-r) (b:=qx-x0) (by grind) (by grind);have:z<qx:=by grind
     have:=hi.1 this;grind
 -- a height BZ the lower and the upper lines
 obtain⟨y',hy1,hy2⟩:=BZ ((l.filter fun(a:aa)=>decide (a.b≠0/\yA a qx<qy)).map fun(a:aa)=>yA a x0) ((l.filter fun(a:aa)=>decide (a.b≠0/\qy<yA a qx)).map fun(a:aa)=>yA a x0) (fun u hu v hv=>by
  obtain⟨a,ha,rfl⟩:=aR.1 hu;obtain⟨b,hb,rfl⟩:=aR.1 hv;simp only[oN,decide_eq_true_eq] at ha hb;exact order a ha.1 b hb.1 ha.2.1 hb.2.1 (by have:=ha.2.2;have:=hb.2.2;grind))
 have tri: ∀a∈l,a.b≠0->yA a qx<qy\/qy<yA a qx:=fun a ha hb=>by
  have h1:=ho2 a ha;rw[ze hb] at h1;have:qy≠yA a qx:=fun e=>h1 (by rw[e];grind);grind
 have low: ∀a∈l,a.b≠0->yA a qx<qy->yA a x0<y':=fun a ha hb h=>hy1 _ (aR.2 ⟨a,by simp only[oN,decide_eq_true_eq];exact⟨ha,hb,h⟩,J⟩);have upp: ∀a∈l,a.b≠0->qy<yA a qx->y'<yA a x0:=fun a ha hb h=>hy2 _ (aR.2 ⟨a,by simp only[oN,decide_eq_true_eq];exact⟨ha,hb,h⟩,J⟩);have hy':y'∉gi l x0:=fun hm=>by
  obtain⟨a,ha,hb,e⟩:=NI hm;rcases tri a ha hb with h|h
  .have:=low a ha hb h;grind
  .have:=upp a ha hb h;grind
 obtain⟨y0,hy0,hry⟩:=Nm (xu (gi l x0)) (v:=y') (by rw[oP];exact hy');have hy0':=Cx (xu _) hy0;rw[oP] at hy0';refine⟨⟨x0,y0⟩,Fa.2 ⟨hx0,hy0⟩,fun a ha=>?_⟩;rw[hs a ha];by_cases hb:a.b=0
 .rw[Hi (hok a ha) hb,Hi (hok a ha) hb]
  have hi:=hr' _ (zt ha hb);have n1:a.base.x≠qx:=fun e=>hx (e▸zt ha hb);have n2:a.base.x≠x0:=fun e=>hx0' (e▸zt ha hb);have ha0:(a.a:Rat)≠0:=fun e=>hok a ha ⟨cW.1 e,hb⟩;generalize a.base.x=u at*;generalize (a.a:Rat)=A at*;by_cases h1:u<qx
  .have h2:=hi.1 h1
   rw[fC (k:=qx-u) (by grind),fC (k:=x0-u) (by grind)]
  .have h2: ¬u<x0:=fun e=>h1 (hi.2 e)
   have e1:A*(qx-u)=(-A)*(u-qx):=by grind
   have e2:A*(x0-u)=(-A)*(u-x0):=by grind
   rw[e1,e2,fC (k:=u-qx) (by grind),fC (k:=u-x0) (by grind)]
 .rw[ze hb,ze hb]
  have hi:=hry (yA a x0) (oP.2 (F1 ha hb x0));have n2:yA a x0≠y0:=fun e=>hy0' (e▸F1 ha hb x0);have lo:=low a ha hb;have up:=upp a ha hb;have tri:=tri a ha hb;generalize yA a x0=v at*;generalize yA a qx=u at*;generalize (a.b:Rat)=B at*;rcases tri with h|h
  .have h3:=hi.1 (lo h)
   rw[fC (k:=qy-u) (by grind),fC (k:=y0-v) (by grind)]
  .have h3:=up h
   have h4: ¬v<y0:=fun e=>by have:=hi.2 e;grind
   have e1:B*(qy-u)=(-B)*(u-qy):=by grind
   have e2:B*(y0-v)=(-B)*(v-y0):=by grind
   rw[e1,e2,fC (k:=u-qy) (by grind),fC (k:=v-y0) (by grind)]
def nE(out:List Rat)(s:ao):List Rat:=if s.nh then(if s.nl then out else kd s.lo out) else kd s.hi (if s.nl then out else kd s.lo out)
def jy(l:List ao):List Rat:=l.foldl nE []
def uJ:List ao->Rat->Int
 |[],_=>0
 |s::t,x=>
  let a:=if s.nl then 1 else bA x s.lo
  let b:=if s.nh then-1 else bA x s.hi
  if 0<a/\b<0 then 2 else if(a=0/\b<=0)\/(b=0/\0<=a) then 1 else uJ t x
def gh(l:List ao)(x:Rat):Bool:=decide (uJ l x=2)
def eD(cuts:List Rat)(i:Nat):ao:=⟨if i=0 then 0 else cuts.getD (i-1) 0,if i<cuts.length then cuts.getD i 0 else 0,decide (i=0),decide (i=cuts.length)⟩
def tf(v w:ao):ao:=⟨v.lo,w.hi,v.nl,w.nh⟩
def gy(cuts:List Rat)(marks:List Bool):Nat->List ao
 |0=>[]
 |k+1=>
  let out:=gy cuts marks k
  if marks.getD k false then
   (if 0<k/\marks.getD (k-1) false=true then(match out.getLast? with
    |some v=>out.dropLast++[tf v (eD cuts k)]
    |none=>out++[eD cuts k]) else out++[eD cuts k])
  else out
def vW(cuts:List Rat)(marks:List Bool):List ao:=gy cuts marks marks.length
def m6(op:Int)(x y:Bool):Bool:=if op=2 then x&&y else if op=3 then x&&!y else if op=4 then x !=y else x||y
def pe(op:Int)(a b:List ao):List ao:=vW (jy (a++b)) ((cd (jy (a++b))).map fun t=>m6 op (gh a t) (gh b t))
def i5(l m:aa)(side:Int):List ao:=
 if crossI l m=0 then(if(m.value l.base).num.sign=side then [ao.all] else [])
 else if(m.value (l.at (jb l (c7 l m)+1))).num.sign=side then [⟨jb l (c7 l m),0,false,true⟩] else [⟨0,jb l (c7 l m),true,false⟩]
def l9(l m:aa):Bool:=decide (crossI l m=0/\(m.value l.base).num.sign=0)
def e7(f:bt)(m:aa)(side:Int):List bt:=if l9 f.l m then [] else(pe 2 [f.v] (i5 f.l m side)).map fun v=>⟨f.l,v⟩
def R6(l:List ao):(jy l).Pairwise (· < ·)/\ ∀y∈jy l,∃s∈l,(s.nl=false/\y=s.lo)\/(s.nh=false/\y=s.hi):=by
 have key: ∀(l:List ao) (o:List Rat),o.Pairwise (· < ·)->(l.foldl nE o).Pairwise (· < ·)/\ ∀y∈l.foldl nE o,y∈o\/ ∃s∈l,(s.nl=false/\y=s.lo)\/(s.nh=false/\y=s.hi):=by
  intro l
  induction l with
  |nil=>intro o h;exact⟨h,fun y hy=> .inl hy⟩
  |cons s t ih=>
   intro o h;have h1:(nE o s).Pairwise (· < ·)/\ ∀y∈nE o s,y∈o\/(s.nl=false/\y=s.lo)\/(s.nh=false/\y=s.hi):=by
    unfold nE
    cases e1:s.nl<;>cases e2:s.nh<;>simp only[if_true,kJ,if_false]
    .refine⟨xw (xw h),fun y hy=>?_⟩
     rcases pE.1 hy with h|h
     .exact .inr (.inr ⟨trivial,h⟩)
     .rcases pE.1 h with h|h
      .exact .inr (.inl ⟨trivial,h⟩)
      .exact .inl h
    .refine⟨xw h,fun y hy=>?_⟩
     rcases pE.1 hy with h|h
     .exact .inr (.inl ⟨trivial,h⟩)
     .exact .inl h
    .refine⟨xw h,fun y hy=>?_⟩
     rcases pE.1 hy with h|h
     .exact .inr (.inr ⟨trivial,h⟩)
     .exact .inl h
    .exact⟨h,fun y hy=> .inl hy⟩
   obtain⟨k1,k2⟩:=ih (nE o s) h1.1;refine⟨k1,fun y hy=>?_⟩;rcases k2 y hy with h2|⟨q,hq,h2⟩
   .rcases h1.2 y h2 with h3|h3
    .exact .inl h3
    .exact .inr ⟨s,aQ,h3⟩
   .exact .inr ⟨q,aJ _ hq,h2⟩
 have:=key l [] List.Pairwise.nil;refine⟨this.1,fun y hy=>?_⟩;rcases this.2 y hy with h|h
 .cases h
 .exact h
structure Jy (cuts:List Rat) (v:ao):Prop where
 z:gA v
 lo:v.nl=true\/v.lo∈cuts
 hi:v.nh=true\/v.hi∈cuts
def Tf{cuts:List Rat}(h:i<=cuts.length):Jy cuts (eD cuts i):=by
 unfold eD;refine⟨⟨fun e=>?_,fun e=>?_⟩,?_,?_⟩
 .simp only[decide_eq_true_eq] at e;simp[e]
 .simp only[decide_eq_true_eq] at e;simp[e]
 .by_cases h0:i=0
  .left;simp[h0]
  .right
   simp only[if_neg h0];rw[aW,aZ (by omega)];exact cN _
 .by_cases h0:i=cuts.length
  .left;simp[h0]
  .right
   simp only[if_pos (show i<cuts.length by omega)];rw[aW,aZ (by omega)];exact cN _
def Rz{cuts:List Rat}{marks:List Bool}: ∀{k:Nat},k<=cuts.length+1-> ∀v∈gy cuts marks k,Jy cuts v
 |0,_,v,hv=>by cases hv
 |k+1,hk,v,hv=>by
  have ih:=Rz (cuts:=cuts) (marks:=marks) (k:=k) (by omega);have hg:=Tf (cuts:=cuts) (i:=k) (by omega);rw[gy] at hv;split at hv
  .split at hv
   .split at hv
    .rename_i w hw
     rcases aM.1 hv with h|h
     .exact ih v ((List.dropLast_sublist _).subset h)
     .rw[aU] at h;subst h
      have hw':=ih w (List.mem_of_getLast? hw);exact⟨⟨hw'.z.1,hg.z.2⟩,hw'.lo,hg.hi⟩
    .rcases aM.1 hv with h|h
     .exact ih v h
     .rw[aU] at h;subst h;exact hg
   .rcases aM.1 hv with h|h
    .exact ih v h
    .rw[aU] at h;subst h;exact hg
  .exact ih v hv
def x5{l:List Rat}:(cd l).length=l.length+1:=by
 have key: ∀(l:List Rat) (a:Rat),(iu (a::l)).length=l.length:=by
  intro l
  induction l with
  |nil=>intro a;rfl
  |cons b t ih=>intro a;rw[iu,bQ,ih b,bQ]
 cases l with
 |nil=>rfl
 |cons a t=>rw[cd,bQ,aY,key];simp
def awU{a b:List ao}: ∀v∈pe op a b,Jy (jy (a++b)) v:=fun v hv=>by
 unfold pe vW at hv;refine Rz ?_ v hv;rw[aX,x5];omega
def Jn{cuts:List Rat}{marks:List Bool}: ∀{k:Nat},(gy cuts marks k).length<=k
 |0=>bW _
 |k+1=>by
  have ih:=Jn (cuts:=cuts) (marks:=marks) (k:=k);rw[gy];split
  .split
   .split
    .rename_i w hw
     have:=List.length_pos_of_mem (List.mem_of_getLast? hw);rw[aY,mJ];simp;omega
    .rw[aY];simp;omega
   .rw[aY];simp;omega
  .omega
structure oH (f:bt):Prop where
 lb:LB f.l
 ok:f.l.ok
 z:gA f.v
 lo:BQ f.v.lo 1200
 hi:BQ f.v.hi 1200
theorem BQ.zero1200:BQ (0:Rat) 1200:=BQ.mono (k:=1) ⟨by decide,by decide⟩
def Jm{l m:aa}(hl:LB l)(hm:LB m)(hlo:l.ok): ∀v∈i5 l m side,gA v/\BQ v.lo 1200/\BQ v.hi 1200:=fun v hv=>by
 unfold i5 at hv;split at hv
 .split at hv
  .rw[aU] at hv;subst hv;exact⟨gA.all,BQ.zero1200,BQ.zero1200⟩
  .cases hv
 .rename_i hc
  have:=Ed hlo.ne hc;split at hv
  .rw[aU] at hv;subst hv;exact⟨⟨fun h=>(by cases h),fun _=>J⟩,this,BQ.zero1200⟩
  .rw[aU] at hv;subst hv;exact⟨⟨fun _=>J,fun h=>(by cases h)⟩,BQ.zero1200,this⟩
def JE{m:aa}(h:oH f)(hm:LB m): ∀g∈e7 f m side,oH g/\g.l=f.l/\l9 f.l m=false:=fun g hg=>by
 unfold e7 at hg;split at hg
 .cases hg
 .rename_i ho
  obtain⟨v,hv,rfl⟩:=aR.1 hg;have hi:=awU v hv;have bd: ∀y∈jy ([f.v]++i5 f.l m side),BQ y 1200:=fun y hy=>by
   obtain⟨s,hs,h1⟩:=(R6 _).2 y hy;rcases aM.1 hs with hs|hs
   .rw[aU] at hs;subst hs
    rcases h1 with⟨_,rfl⟩|⟨_,rfl⟩
    .exact h.lo
    .exact h.hi
   .have:=Jm h.lb hm h.ok s hs
    rcases h1 with⟨_,rfl⟩|⟨_,rfl⟩
    .exact this.2.1
    .exact this.2.2
  refine⟨⟨h.lb,h.ok,hi.z,?_,?_⟩,J,by simpa using ho⟩
  .rcases hi.lo with e|e
   .rw[hi.z.1 e];exact BQ.zero1200
   .exact bd _ e
  .rcases hi.hi with e|e
   .rw[hi.z.2 e];exact BQ.zero1200
   .exact bd _ e
def jq(acc:ah->Bool):Nat->List bt->List aa->Tr
 |_,[],c=> .leaf (acc (jF c c))
 |0,_::_,_=> .leaf false
 |n+1,f::t,c=> .node f.l (jq acc n ((f::t).flatMap fun g=>e7 g f.l 1) (c++[f.l])) (jq acc n ((f::t).flatMap fun g=>e7 g f.l (-1)) (c++[f.l.rev]))
def V2{g:bt}{m:aa}(h:g∈e7 f m side):g.l=f.l:=by
 unfold e7 at h;split at h
 .cases h
 .obtain⟨v,_,rfl⟩:=aR.1 h;rfl
def wv{acc:ah->Bool}{P:aa->Prop}: ∀{n:Nat} {l:List bt} {c:List aa},(∀f∈l,P f.l)->(jq acc n l c).all P
 |n,[],c,_=>by unfold jq;trivial
 |0,_::_,_,_=>by unfold jq;trivial
 |n+1,f::t,c,h=>by
  rw[jq];refine⟨h f aQ,wv fun g hg=>?_,wv fun g hg=>?_⟩<;>
  .obtain⟨q,hq,hg⟩:=iX.1 hg
   rw[V2 hg];exact h q hq
def Ih{acc:ah->Bool}: ∀{n:Nat} {l:List bt} {c:List aa},(jq acc n l c).depth<=n
 |n,[],c=>by unfold jq;exact bJ _
 |0,_::_,_=>by unfold jq;exact bJ _
 |n+1,f::t,c=>by
  rw[jq,Tr.depth];have h1:=Ih (acc:=acc) (n:=n) (l:=(f::t).flatMap fun g=>e7 g f.l 1) (c:=c++[f.l]);have h2:=Ih (acc:=acc) (n:=n) (l:=(f::t).flatMap fun g=>e7 g f.l (-1)) (c:=c++[f.l.rev]);omega
def r6(n:Nat)(l:List bt):Prop:= ∃K:List aa,K.length<=n/\ ∀f∈l,∃m∈K,m.same f.l
def ZC{m:aa}(hm:m.Ne):m.value m.base=0:=by
 have h:=lg hm 0;rw[<-yz,jf] at h;grind
def Wz{l m:aa}(h:l.same m)(hm:m.Ne):l9 m l=true:=by
 unfold l9;rw[decide_eq_true_iff];refine⟨?_,?_⟩
 .rcases h with rfl|rfl
  .unfold crossI;omega
  .unfold crossI aa.rev
   show(-l.a)*l.b-l.a*(-l.b)=0;grind
 .rw[pc]
  exact nO h.symm (ZC hm)
def r6.split{n:Nat}{t:List bt}(h:r6 (n+1) (f::t))(hok: ∀g∈f::t,oH g):r6 n ((f::t).flatMap fun g=>e7 g f.l side):=by
 obtain⟨K,hK,hs⟩:=h;refine⟨K.filter fun m=>!decide (m.same f.l),?_,fun g hg=>?_⟩
 .obtain⟨m,hm,hm2⟩:=hs f aQ
  have:(K.filter fun m=>!decide (m.same f.l)).length<K.length:=by
   refine List.length_filter_lt_length_iff_exists.2 ⟨m,hm,by simp[hm2]⟩
  omega
 .obtain⟨q,hq,hg⟩:=iX.1 hg
  obtain⟨_,e,ho⟩:=JE (hok q hq) (hok f aQ).lb g hg;obtain⟨m,hm,hm2⟩:=hs q hq;refine⟨m,oN.2 ⟨hm,?_⟩,by rw[e];exact hm2⟩;simp only[iZ,decide_eq_false_iff_not];intro h;have:=Wz (h.symm.trans hm2) (hok q hq).ok.ne;rw[this] at ho;cases ho
def VT{p q r:Bool}{c:Nat}(h:Nat.gcd a b≠0):aa.ok ⟨zv p (a/Nat.gcd (Nat.gcd a b) c),zv q (b/Nat.gcd (Nat.gcd a b) c),zv r (c/Nat.gcd (Nat.gcd a b) c)⟩:=by
 have hg:0<Nat.gcd (Nat.gcd a b) c:=mW _ (iK h);have d0:Nat.gcd (Nat.gcd a b) c∣Nat.gcd a b:=kR _ _;have d1:Nat.gcd (Nat.gcd a b) c∣a:=qW d0 (kR _ _);have d2:Nat.gcd (Nat.gcd a b) c∣b:=qW d0 (lU _ _);have d3:Nat.gcd (Nat.gcd a b) c∣c:=lU _ _;refine⟨?_,?_⟩
 .rintro ⟨h1,h2⟩
  have h1':=congrArg Int.natAbs h1;have h2':=congrArg Int.natAbs h2;simp only[qF,lX] at h1' h2';have e1:=Nat.div_mul_cancel d1;have e2:=Nat.div_mul_cancel d2;rw[h1',kX] at e1;rw[h2',kX] at e2;exact h (by rw[<-e1,<-e2];rfl)
 .simp only[qF]
  rw[Nat.gcd_div d1 d2,Nat.gcd_div d0 d3,Nat.div_self hg]
def JW(p:Bool)(a g:Nat):(zv p (a/g)).natAbs<=a:=by rw[qF];exact mY ..
def PF.eq{P:Program}{f:FuncId}{vs:List DV}{r r':DV}(h:PF GB P f vs r)(e:r=r'):PF GB P f vs r':=e▸h
def iP(m n:Int):ah:=⟨(m:Rat),(n:Rat)⟩
theorem GS(h:m.natAbs<2^k:=by omega):BI m k:=⟨h⟩
theorem lG(h:m.natAbs<=1000)(hk:10<=k:=by decide):BI m k:=⟨dZ (show m.natAbs<2^10 by omega) (bR (by decide) hk)⟩
instance aI.int (m n:Int) (i:Nat) [h:BI m i] [k:BI n i]:aI (iP m n) (i+1):=⟨inferInstanceAs (BQ (m:Rat) (i+1)),inferInstanceAs (BQ (n:Rat) (i+1))⟩
def uA{q:Rat}{k:Int}(h:q=(k:Rat)):eQ q=eQ (k:Rat):=by rw[h]
def S6(h1:p.x=(m:Rat))(h2:p.y=(n:Rat)):eP p=eP (iP m n):=by
 obtain⟨x,y⟩:=p;simp only at h1 h2;subst h1 h2;rfl
def nD(a b c:Int):aa:=
 ⟨zv (decide (a<0)) (a.natAbs/Nat.gcd (Nat.gcd a.natAbs b.natAbs) c.natAbs),zv (decide (b<0)) (b.natAbs/Nat.gcd (Nat.gcd a.natAbs b.natAbs) c.natAbs),zv (decide (c<0)) (c.natAbs/Nat.gcd (Nat.gcd a.natAbs b.natAbs) c.natAbs)⟩
def Ij{a b c:Int}(h: ¬(a=0/\b=0)):(nD a b c).ok:=
 VT fun e=>h ⟨kW.1 (lM e),kW.1 (lR e)⟩
def zo(a b c:Int):(nD a b c).a.natAbs<=a.natAbs/\(nD a b c).b.natAbs<=b.natAbs/\(nD a b c).c.natAbs<=c.natAbs:=⟨JW ..,JW ..,JW ..⟩
def iF(hm:m.natAbs<=1000:=by omega)(hn:n.natAbs<=1000:=by omega):PF GB prog 13 [.v (.int .i64 m), .v (.int .i64 n)] (eP (iP m n)):=by
 refine fn func13 J J ntmps13 J J (fun C=>?_);refine cl J (jE (n:=m) (by omega) (by omega)) J<|cl J (jE (n:=n) (by omega) (by omega)) J<|rz J J
def DF{k:Int}(hm:m.natAbs<=1000)(hn:n.natAbs<=1000)(hm':m'.natAbs<=1000)(hn':n'.natAbs<=1000)(hk:k.natAbs<=1000:=by decide):PF GB prog 71 [eP (iP m n),eQ (k:Rat),eP (iP m' n')] (eP (iP (m+k*m') (n+k*n'))):=by
 haveI:=lG (k:=10) hm;haveI:=lG (k:=10) hn;haveI:=lG (k:=10) hm';haveI:=lG (k:=10) hn';haveI:=lG (k:=10) hk;exact PF.eq (BS (p:=iP m n) (q:=iP m' n') (c:=(k:Rat))) (S6 (by show(m:Rat)+(k:Rat)*(m':Rat)=_;push_cast;rfl) (by show(n:Rat)+(k:Rat)*(n':Rat)=_;push_cast;rfl))
def Sw(hm:m.natAbs<=1000)(hn:n.natAbs<=1000)(hm':m'.natAbs<=1000)(hn':n'.natAbs<=1000):PF GB prog 32 [eP (iP m n),eP (iP m' n')] (eP (iP (m-m') (n-n'))):=by
 refine fn func32 J J ntmps32 J J (fun C=>?_);refine cl J (jE (n:= -1)) J<|cl J (DF (m:=m) (n:=n) (m':=m') (n':=n') (k:= -1) hm hn hm' hn') J<|rz J (by rw[show m-m'=m+ -1*m' by omega,show n-n'=n+ -1*n' by omega];rfl)
def Uv(hm:m.natAbs<=1000)(hn:n.natAbs<=1000)(hm':m'.natAbs<=1000)(hn':n'.natAbs<=1000):PF GB prog 168 [eP (iP m n),eP (iP m' n')] (.v (.bool (decide (m=m'/\n=n')))):=by
 haveI:=lG (k:=10) hm;haveI:=lG (k:=10) hn;haveI:=lG (k:=10) hm';haveI:=lG (k:=10) hn';refine fn func168 J J ntmps168 J J (fun C=>?_);refine cl J (ld (a:=(m:Rat)) (b:=(m':Rat))) J<|cs 11 J J J (fun hg11=>?_) (fun hg11=>?_)
 .
  refine cl J (ld (a:=(n:Rat)) (b:=(n':Rat))) J<|rz J (by rw[uL] at hg11;have e:m=m':=(by exact_mod_cast hg11);exact congrArg (fun z=>DV.v (.bool z)) (decide_eq_decide.2 (by rw[uL,qR];simp[e])))
 .
  exact rz J (by rw[uL] at hg11;have e: ¬m=m':=(fun e=>hg11 (by rw[e]));show DV.v (.bool false)=DV.v (.bool _);rw[decide_eq_false (fun h=>e h.1)])
def OM(ha:a<k)(hb:b<k):Nat.gcd a b<k:=by
 rcases fU a with rfl|p
 .simpa using hb
 .exact fK (Nat.gcd_le_left b p) ha
def WO{a b c:Int}(ha:BI a i)(hb:BI b i)(hc:BI c i)(hi:i<=100000000)(h0: ¬(a=0/\b=0)):PF GB prog 209 [eI a,eI b,eI c] (.tp [eL (nD a b c), .v (.bool true)]):=by
 have hgn:Nat.gcd a.natAbs b.natAbs≠0:=fun h=>h0 ⟨kW.1 (lM h),kW.1 (lR h)⟩;have hgp:0<Nat.gcd (Nat.gcd a.natAbs b.natAbs) c.natAbs:=mW _ (iK hgn);haveI hb1:BN (Nat.gcd a.natAbs b.natAbs) i:=⟨OM ha.h hb.h⟩;haveI hb2:BN (Nat.gcd (Nat.gcd a.natAbs b.natAbs) c.natAbs) i:=⟨OM hb1.h hc.h⟩;refine fn func209 J J ntmps209 J J (fun C=>?_);refine cl J (Aj (a:=a.natAbs) (b:=b.natAbs) (by omega) (by omega)) J<|br J J J (fun hc22=>?_) (fun hc22=>?_)
 .
  exact absurd hc22 (by rw[aX];intro h;exact hgn (uc.1 (by omega)))
 .
  refine cl J (Aj (a:=Nat.gcd a.natAbs b.natAbs) (b:=c.natAbs) (by omega) (by omega)) J<|cl J (yl (a:=a.natAbs) (b:=Nat.gcd (Nat.gcd a.natAbs b.natAbs) c.natAbs) hgp (by omega) (by omega)) J<|cl J (yl (a:=b.natAbs) (b:=Nat.gcd (Nat.gcd a.natAbs b.natAbs) c.natAbs) hgp (by omega) (by omega)) J<|cl J (yl (a:=c.natAbs) (b:=Nat.gcd (Nat.gcd a.natAbs b.natAbs) c.natAbs) hgp (by omega) (by omega)) J<|cl J (ks (m:=a.natAbs/(Nat.gcd (Nat.gcd a.natAbs b.natAbs) c.natAbs)) (neg:=decide (a<0))) J<|cl J (ks (m:=b.natAbs/(Nat.gcd (Nat.gcd a.natAbs b.natAbs) c.natAbs)) (neg:=decide (b<0))) J<|cl J (ks (m:=c.natAbs/(Nat.gcd (Nat.gcd a.natAbs b.natAbs) c.natAbs)) (neg:=decide (c<0))) J<|rz J J
def lx(n n':Int):Int:= -(n'-n)
def lz(m m':Int):Int:=m'-m
def te(m n m' n':Int):Int:= -(lx n n'*m+lz m m'*n)
def mP(m n m' n':Int):aa:=nD (lx n n') (lz m m') (te m n m' n')
def CT{a b:Int}(ha:a.natAbs<=2000)(hb:b.natAbs<=1000):(a*b).natAbs<=2000000:=by
 rw[fW];exact fJ ha hb
def O4(hm:m.natAbs<=1000)(hn:n.natAbs<=1000)(hm':m'.natAbs<=1000)(hn':n'.natAbs<=1000)(h0: ¬(m=m'/\n=n')):PF GB prog 135 [eP (iP m n),eP (iP m' n')] (.tp [eL (mP m n m' n'), .v (.bool true)]):=by
 obtain⟨a,hA⟩: ∃a,a=lx n n':=⟨_,rfl⟩;obtain⟨b,hB⟩: ∃b,b=lz m m':=⟨_,rfl⟩;have hA':a= -(n'-n):=hA;have hB':b=m'-m:=hB;obtain⟨c,hC⟩: ∃c,c= -(a*m+b*n):=⟨_,rfl⟩;have e1:=CT (a:=a) (b:=m) (by omega) hm;have e2:=CT (a:=b) (b:=n) (by omega) hn;haveI hm0:=lG (k:=10) hm;haveI hn0:=lG (k:=10) hn;haveI ha:BI a 30:=GS;haveI hb:BI b 30:=GS;haveI hc:BI c 30:=GS;have hthr:mP m n m' n'=nD a b c:=by rw[hC,hA,hB];rfl
 have hne: ¬(a=0/\b=0):=fun h=>h0 (by omega);refine fn func135 J J ntmps135 J J (fun C=>?_);refine cl J (Sw (m:=m') (n:=n') (m':=m) (n':=n) hm' hn' hm hn) J<|cl J (PF.eq (tP (q:=(((n'-n):Int):Rat))) (uA (k:=a) (by rw[hA'];push_cast;rfl))) J<|cl J (PF.eq (iG (a:=(a:Rat)) (b:=(m:Rat))) (uA (k:=a*m) (by push_cast;rfl))) J<|cl J (PF.eq (by haveI:BI (m'-m) 30:=(by rw[<-hB'];exact hb);exact iG (a:=(((m'-m):Int):Rat)) (b:=(n:Rat))) (uA (k:=b*n) (by rw[hB'];push_cast;rfl))) J<|cl J (PF.eq (my (a:=((a*m:Int):Rat)) (b:=((b*n:Int):Rat))) (uA (k:=a*m+b*n) (by push_cast;rfl))) J<|cl J (PF.eq (tP (q:=((a*m+b*n:Int):Rat))) (uA (k:=c) (by rw[hC];push_cast;rfl))) J<|cl J (kh (q:=(a:Rat))) J<|cl J (kh (q:=(((m'-m):Int):Rat))) J<|cl J (PF.eq (qg (a:=1) (b:=1)) J) J<|cl J (kh (q:=(c:Rat))) J<|cl J (PF.eq (qg (a:=1) (b:=1)) J) J<|cl (fu:=⟨1⟩) J (ks (neg:=false) (m:=1)) J<|aj 40 (.d (eQ ((1:Int):Rat))) J J<|gx J<|cl J (PF.eq (iG (a:=(a:Rat)) (b:=((1:Int):Rat))) (uA (k:=a) (by push_cast;grind))) J<|cl J (PF.eq (by haveI:BI (m'-m) 30:=(by rw[<-hB'];exact hb);exact iG (a:=(((m'-m):Int):Rat)) (b:=((1:Int):Rat))) (uA (k:=b) (by rw[hB'];push_cast;grind))) J<|cl J (PF.eq (iG (a:=(c:Rat)) (b:=((1:Int):Rat))) (uA (k:=c) (by push_cast;grind))) J<|cl J (WO (a:=a) (b:=b) (c:=c) ha hb hc (by decide) hne) J<|rz J (by rw[hthr];rfl)
def ZE(h:a<es.length):(es.map vI)[(a:Int).toNat]? =some (vI es[a]):=by simp[h]
def awG:eP (iP 0 0)= .ag [.v (.bool false), .sl [], .sl [], .v (.bool false), .sl [], .sl []]:=by
 unfold eP iP;simp[lO,dD]
def ZT{p q:Int}(hm:m.natAbs<=4)(hn:n.natAbs<=4)(hp:p.natAbs<=4)(hq:q.natAbs<=4)(h: ¬(p=0/\q=0)):LS (mP m n (m+1*p) (n+1*q)):=by
 have e1:lx n (n+1*q)= -q:=by unfold lx;omega
 have e2:lz m (m+1*p)=p:=by unfold lz;omega
 have e3:((-q)*m).natAbs<=4*4:=by rw[fW];exact fJ (by omega) hm
 have e4:(p*n).natAbs<=4*4:=by rw[fW];exact fJ hp hn
 have e5:te m n (m+1*p) (n+1*q)= -((-q)*m+p*n):=by unfold te;rw[e1,e2]
 unfold mP;obtain⟨k1,k2,k3⟩:=zo (lx n (n+1*q)) (lz m (m+1*p)) (te m n (m+1*p) (n+1*q));exact⟨Ij (by rw[e1,e2];omega),cS k1 (by rw[e1];omega),cS k2 (by rw[e2];omega),cS k3 (by rw[e5];omega)⟩
def au(es:List Int)(n:Int)(a:Nat):Nat×Nat:=
 if h:a<es.length then((if Int.tmod es[a] n<0 then Int.tmod es[a] n+n else Int.tmod es[a] n).toNat,a+1) else(0,a)
def dx(hn:1<=n:=by decide):((au es n a).1:Int)<n:=by
 unfold au;split
 .rename_i h
  have q2:=Int.tmod_lt_of_pos es[a] (show 0<n by omega);dsimp only;split<;>omega
 .exact hn
def gO(ha:a<=es.length):(au es n a).2<=es.length:=by
 unfold au;split
 .assumption
 .exact ha
def pF(es:List Int)(a:Nat):(Int×Int)×Nat:=((((au es 9 a).1:Int)-4,((au es 9 (au es 9 a).2).1:Int)-4),(au es 9 (au es 9 a).2).2)
def Ap(ha:a<=es.length):(pF es a).1.1.natAbs<=4/\(pF es a).1.2.natAbs<=4/\(pF es a).2<=es.length:=by
 have h1:=dx (es:=es) (n:=9) (a:=a);have h2:=dx (es:=es) (n:=9) (a:=(au es 9 a).2);have h3:=gO (n:=9) (gO (es:=es) (n:=9) ha);unfold pF;exact⟨by dsimp only;omega,by dsimp only;omega,h3⟩
def vF(es:List Int)(a:Nat):(Int×Int)×Nat:=if(pF es a).1.1=0/\(pF es a).1.2=0 then((1,0),(pF es a).2) else pF es a
def HM(ha:a<=es.length):(vF es a).1.1.natAbs<=4/\(vF es a).1.2.natAbs<=4/\ ¬((vF es a).1.1=0/\(vF es a).1.2=0)/\(vF es a).2<=es.length:=by
 obtain⟨h1,h2,h3⟩:=Ap ha;unfold vF;split
 .exact⟨show(1:Int).natAbs<=4 by decide,show(0:Int).natAbs<=4 by decide,show¬((1:Int)=0/\(0:Int)=0) by decide,h3⟩
 .rename_i h;exact⟨h1,h2,h,h3⟩
def lF(es:List Int)(a:Nat):aa×Nat:=(mP (pF es a).1.1 (pF es a).1.2 ((pF es a).1.1+1*(vF es (pF es a).2).1.1) ((pF es a).1.2+1*(vF es (pF es a).2).1.2),(vF es (pF es a).2).2)
def QC(ha:a<=es.length):LS (lF es a).1/\(lF es a).2<=es.length:=by
 obtain⟨h1,h2,h3⟩:=Ap ha;obtain⟨k1,k2,k3,k4⟩:=HM h3;exact⟨ZT h1 h2 k1 k2 k3,k4⟩
def mv(hes:es.length<=400)(ha:a<=es.length)(hn:1<=n:=by decide)(hn2:n<=1000:=by decide):PM GB prog 37 (ku [none,some (.v (.int .i64 n))] b) b 85 [.sl (es.map vI), .v (.int .i64 (a:Nat))] (.v (.int .i64 ((au es n a).1:Nat))) [.sl (es.map vI), .v (.int .i64 ((au es n a).2:Nat))]:=by
 have hel:(es.map vI).length=es.length:=by simp
 refine yg func37 J J ntmps37 J J (fun C b m lo hmb=>?_);refine br J J J (fun hc15=>?_) (fun hc15=>?_)
 .
  have hf:au es n a=(0,a):=by unfold au;rw[dif_neg (by omega)]
  exact m5 hmb J J (by rw[hf]<;>rfl) (by rw[hf]<;>rfl)
 .
  have hal:a<es.length:=by omega
  obtain⟨e,he⟩: ∃e,e=es[a]:=⟨_,rfl⟩;have q2:=Int.tmod_lt_of_pos e (show 0<n by omega);have q3: -n<Int.tmod e n:=by have:=Int.lt_tmod_of_pos e (show 0<n by omega);omega
  refine ix (fu:=⟨1⟩) _ J (ZE hal) J<|aj 25 (.d (vI e)) J (by rw[he]<;>rfl)<|gx (hv:=by simp only[ak];exact⟨⟨by omega,by kernel_rfl⟩,by omega⟩) J<|br J J J (fun hc36=>?_) (fun hc36=>?_)
  .
   have hf:au es n a=((Int.tmod e n+n).toNat,a+1):=by unfold au;rw[dif_pos hal,<-he,if_pos hc36]
   exact m5 hmb J J (by rw[hf];show DV.v (.int .i64 _)=DV.v (.int .i64 _);rw[pN (by omega)]) (by rw[hf]<;>rfl)
  .
   have hf:au es n a=((Int.tmod e n).toNat,a+1):=by unfold au;rw[dif_pos hal,<-he,if_neg hc36]
   exact m5 hmb J J (by rw[hf];show DV.v (.int .i64 _)=DV.v (.int .i64 _);rw[pN (by omega)]) (by rw[hf]<;>rfl)
def Mu(hes:es.length<=400)(ha:a<=es.length):PM GB prog 134 (ku [none] b) b 85 [.sl (es.map vI), .v (.int .i64 (a:Nat))] (eP (iP (pF es a).1.1 (pF es a).1.2)) [.sl (es.map vI), .v (.int .i64 ((pF es a).2:Nat))]:=by
 have h1:=dx (es:=es) (n:=9) (a:=a);have h2:=dx (es:=es) (n:=9) (a:=(au es 9 a).2);refine yg func134 J J ntmps134 J J (fun C b m lo hmb=>?_);refine cm J (fun b=>(mv (n:=9) hes ha)) J<|cm J (fun b=>(mv (n:=9) hes (gO ha))) J<|cl J (iF (m:=((au es 9 a).1:Int)-4) (n:=((au es 9 (au es 9 a).2).1:Int)-4)) J<|?_;exact m5 hmb J J J J
def W9(hes:es.length<=400)(ha:a<=es.length):PM GB prog 136 (ku [none] b) b 85 [.sl (es.map vI), .v (.int .i64 (a:Nat))] (eP (iP (vF es a).1.1 (vF es a).1.2)) [.sl (es.map vI), .v (.int .i64 ((vF es a).2:Nat))]:=by
 obtain⟨hm,hn,ha1⟩:=Ap ha;refine yg func136 J J ntmps136 J J (fun C b m lo hmb=>?_);refine cm (fu:=⟨9⟩) J (fun b=>(Mu hes ha)) J<|aj 7 (.d (eP (iP 0 0))) J (by rw[awG]<;>rfl)<|gx J<|cl J (Uv (m:=(pF es a).1.1) (n:=(pF es a).1.2) (m':=0) (n':=0) (by omega) (by omega) (by decide) (by decide)) J<|bd J J J (fun hc8=>?_) (fun hc8=>?_)
 .
  have hf:vF es a=((1,0),(pF es a).2):=by unfold vF;rw[if_pos hc8]
  refine cl J (iF (m:=1) (n:=0) (by decide) (by decide)) J<|?_;exact m5 hmb J J (by rw[hf]<;>rfl) (by rw[hf])
 .
  have hf:vF es a=pF es a:=by unfold vF;rw[if_neg hc8]
  exact m5 hmb J J (by rw[hf]<;>rfl) (by rw[hf])
def Wf(hes:es.length<=400)(ha:a<=es.length):PM GB prog 68 (ku [none] b) b 85 [.sl (es.map vI), .v (.int .i64 (a:Nat))] (eL (lF es a).1) [.sl (es.map vI), .v (.int .i64 ((lF es a).2:Nat))]:=by
 obtain⟨hm,hn,ha1⟩:=Ap ha;obtain⟨hp,hq,hz,ha2⟩:=HM ha1;refine yg func68 J J ntmps68 J J (fun C b m lo hmb=>?_);refine cm J (fun b=>(Mu hes ha)) J<|cl J (jE (n:=1)) J<|cm J (fun b=>(W9 hes ha1)) J<|cl J (DF (m:=(pF es a).1.1) (n:=(pF es a).1.2) (m':=(vF es (pF es a).2).1.1) (n':=(vF es (pF es a).2).1.2) (k:=1) (by omega) (by omega) (by omega) (by omega)) J<|cl J (O4 (m:=(pF es a).1.1) (n:=(pF es a).1.2) (m':=(pF es a).1.1+1*(vF es (pF es a).2).1.1) (n':=(pF es a).1.2+1*(vF es (pF es a).2).1.2) (by omega) (by omega) (by omega) (by omega) (by omega)) J<|?_;exact m5 hmb J J J J
def B4{p:Bool}:PF GB prog 69 [.v (.bool p)] (eT (.leaf p)):=by
 refine fn func69 J J ntmps69 J J (fun C=>?_);refine ik 5 J<|rz J J
abbrev ZP:=Int×Int
variable {r:List ZP}
def ZP.q(p:ZP):ah:=iP p.1 p.2
def ZP.le(k:Nat)(p:ZP):Prop:=p.1.natAbs<=k/\p.2.natAbs<=k
def jH(p q:ZP):ZP:=(p.1+1*q.1,p.2+1*q.2)
def jr(u v:ZP):Int:=u.1*v.2-u.2*v.1
theorem Rb{p q:Int}(hm:m.natAbs<=1000)(hn:n.natAbs<=1000)(hp:p.natAbs<=1000)(hq:q.natAbs<=1000)(h: ¬(p=m/\q=n)):LB (mP m n p q)/\(mP m n p q).ok:=by
 have e1:(lx n q).natAbs<=2000:=by unfold lx;omega
 have e2:(lz m p).natAbs<=2000:=by unfold lz;omega
 have e3:=CT e1 hm;have e4:=CT e2 hn;have e5:(te m n p q).natAbs<=4000000:=by unfold te;omega
 unfold mP;obtain⟨k1,k2,k3⟩:=zo (lx n q) (lz m p) (te m n p q);have hb:(2:Nat)^96=79228162514264337593543950336:=by decide
 refine⟨⟨⟨?_,?_,?_⟩⟩,Ij ?_⟩
 .rw[hb];omega
 .rw[hb];omega
 .rw[hb];omega
 .unfold lx lz;omega
def Es(v w:ZP):bt:=⟨mP v.1 v.2 w.1 w.2,⟨jb (mP v.1 v.2 w.1 w.2) v.q,jb (mP v.1 v.2 w.1 w.2) w.q,false,false⟩⟩
def i0(r:List ZP)(i:Nat):ZP:=r.getD ((i+1)%r.length) (0,0)
def pi(r:List ZP):Nat->List bt
 |0=>[]
 |k+1=>pi r k++[Es (r.getD k (0,0)) (i0 r k)]
def jO(r:List ZP):List bt:=pi r r.length
structure eg (r:List ZP):Prop where
 n3:3<=r.length
 n6:r.length<=6
 le: ∀p∈r,ZP.le 100 p
 ne: ∀i<r.length,r.getD i (0,0)≠i0 r i
def tN(h:i<r.length:=by omega):r.getD i (0,0)∈r:=by
 rw[aW,aZ h];exact cN h
def yk(h:i<r.length:=by omega):i0 r i∈r:=tN (dK _ (by omega))
theorem K3{l:aa}(hl:LB l)(ho:l.ok)(hm:m.natAbs<=1000)(hn:n.natAbs<=1000):BQ (jb l (iP m n)) 1200:=by
 haveI:=lG (k:=11) hm;haveI:=lG (k:=11) hn;have hd:=A9 ho.ne;have hA:BI (l.a*l.a+l.b*l.b) _:=inferInstance;have hB:BI (m*l.b-n*l.a) _:=inferInstance;have hA':=E5 (j:=1200) hA;have hB':=E5 (j:=1200) hB;have e1:l.dir.dot l.dir=((l.a*l.a+l.b*l.b:Int):Rat):=by
  rw[lZ,bM,bM];simp only[aa.dir,ah.dot];grind
 have e2:(iP m n).dot l.dir=((m*l.b-n*l.a:Int):Rat):=by
  rw[iJ,bM,bM];simp only[aa.dir,ah.dot,iP];grind
 have hd':((0:Int):Rat)<((l.a*l.a+l.b*l.b:Int):Rat):=by rw[<-e1];exact hd
 unfold jb;rw[e2,e1];clear hA hB e1 e2;generalize l.a*l.a+l.b*l.b=D at*;generalize m*l.b-n*l.a=M at*;have hD:0<D:=Rat.intCast_lt_intCast.1 hd';refine BQ.of_fracI (n:=M) (D:=D) (by omega) ?_ hB' hA';have h0:(D:Rat)≠0:=fun e=>by rw[e] at hd';exact absurd hd' (by decide)
 have:((D.natAbs:Nat):Rat)=(D:Rat):=by
  have h1:((D.natAbs:Nat):Int)=D:=by omega
  rw[<-h1];rfl
 rw[this];grind
def aAy{v w:ZP}(hv:ZP.le 100 v)(hw:ZP.le 100 w)(h:v≠w):oH (Es v w):=by
 obtain⟨h1,h2⟩:=Rb (m:=v.1) (n:=v.2) (p:=w.1) (q:=w.2) (by have:=hv.1;omega) (by have:=hv.2;omega) (by have:=hw.1;omega) (by have:=hw.2;omega) (fun e=>h (Prod.ext e.1.symm e.2.symm));exact⟨h1,h2,⟨fun e=>(by cases e),fun e=>(by cases e)⟩,K3 h1 h2 (by have:=hv.1;omega) (by have:=hv.2;omega),K3 h1 h2 (by have:=hw.1;omega) (by have:=hw.2;omega)⟩
def Je{r:List ZP}(h:eg r): ∀{k:Nat},k<=r.length->(pi r k).length=k/\ ∀f∈pi r k,oH f
 |0,_=>⟨J,fun f hf=>by cases hf⟩
 |k+1,hk=>by
  obtain⟨h1,h2⟩:=Je h (k:=k) (by omega);rw[pi];refine⟨by simp[h1],fun f hf=>?_⟩;rcases aM.1 hf with hf|hf
  .exact h2 f hf
  .rw[aU] at hf;subst hf
   exact aAy (h.le _ (tN)) (h.le _ (yk)) (h.ne k (by omega))
def AW(h:eg r):(jO r).length=r.length/\ ∀f∈jO r,oH f:=Je h (bW _)
def ir(rs:List (List ZP)):List bt:=rs.flatMap jO
def x9: ∀{rs:List (List ZP)},(∀r∈rs,eg r)->(ir rs).length<=6*rs.length/\ ∀f∈ir rs,oH f
 |[],_=>⟨bW _,fun f hf=>by cases hf⟩
 |r::rs,h=>by
  obtain⟨h1,h2⟩:=x9 (rs:=rs) fun q hq=>h q (aJ _ hq);obtain⟨k1,k2⟩:=AW (h r aQ);have:=(h r aQ).n6;unfold ir at*;rw[lS];refine⟨by rw[aY,k1,bQ];omega,fun f hf=>?_⟩;rcases aM.1 hf with hf|hf
  .exact k2 f hf
  .exact h2 f hf
def tY(a b c:ah):Int:=(ah.cross (cG b a (-1)) (cG c a (-1))).num.sign
def r8(v w p:ah):Int:=
 (if bA v.y p.y<=0/\ ¬bA w.y p.y<=0/\0<tY v w p then 1 else 0)-(if¬bA v.y p.y<=0/\bA w.y p.y<=0/\tY v w p<0 then 1 else 0)
def pA(r:List ZP)(p:ah):Nat->Int
 |0=>0
 |k+1=>pA r p k+r8 (r.getD k (0,0)).q (i0 r k).q p
def sG(r:List ZP)(p:ah):Int:=pA r p r.length
def vg(fill n:Int):Bool:=(decide (fill=1)&&decide (n.tmod 2≠0))||(decide (fill=2)&&decide (n≠0))
def mj(rs:List (List ZP))(fill:Int)(p:ah):Bool:=vg fill (rs.foldl (fun n r=>n+sG r p) 0)
def sB(rs:List (List ZP))(fill:Int):Tr:=jq (mj rs fill) (ir rs).length (ir rs) []
def fq(rs:List (List ZP))(fill:Int):Tr:=(sB rs fill).restrict []
structure fP (k:Nat) (t:Tr):Prop where
 gd:t.gd
 dp:t.depth<=k
 am: ∃K:List aa,K.length<=k/\(∀l∈K,l.ok)/\eG K t
def CA{acc:ah->Bool}{n:Nat}{l:List bt}(h: ∀f∈l,oH f)(hn:l.length=n):fP n (jq acc n l []):=
 ⟨⟨wv fun f hf=>(h f hf).lb,wv fun f hf=>(h f hf).ok⟩,Ih,l.map (·.l),by rw[aX,hn];exact bW _,fun m hm=>by
  obtain⟨f,hf,rfl⟩:=aR.1 hm;exact(h f hf).ok,wv fun f hf=>⟨f.l,dY hf, .inl rfl⟩⟩
def fP.restrict{k:Nat}{t:Tr}(h:fP k t)(c:ar):fP k (t.restrict c):=by
 obtain⟨K,h1,h2,h3⟩:=h.am;exact⟨Mp h.gd c,cS (t.restrict_depth c) h.dp,K,h1,h2,h3.restrict c⟩
def fP.compl{k:Nat}{t:Tr}(h:fP k t):fP k t.compl:=by
 obtain⟨K,h1,h2,h3⟩:=h.am;exact⟨Y2 h.gd,by rw[t.compl_depth];exact h.dp,K,h1,h2,h3.compl⟩
def fP.mono(h:fP j t)(hk:j<=k):fP k t:=by
 obtain⟨K,h1,h2,h3⟩:=h.am;exact⟨h.gd,cS h.dp hk,K,by omega,h2,h3⟩
def fP.merge{j k:Nat}{op:Int}{t u:Tr}(h:fP j t)(hu:fP k u):fP (j+k) (t.mergeQ op u []):=by
 obtain⟨K,h1,h2,h3⟩:=h.am;obtain⟨M,k1,k2,k3⟩:=hu.am;refine⟨⟨Tr.mergeQ_all LB op hu.gd.lb t [] h.gd.lb,Tr.mergeQ_all aa.ok op hu.gd.ok t [] h.gd.ok⟩,cS (Tr.mergeQ_depth op u t []) (by have:=h.dp;have:=hu.dp;omega),K++M,by rw[aY];omega,fun l hl=>(aM.1 hl).elim (h2 l) (k2 l),?_⟩;exact(h3.mono fun l hl=>⟨l,bV _ hl, .inl J⟩).merge (k3.mono fun l hl=>⟨l,bZ _ hl, .inl J⟩) []
def fP.merge_size{j k:Nat}{op:Int}{t u:Tr}(h:fP j t)(hu:fP k u):(t.mergeQ op u []).size<=(j+k)*(1+(j+k)):=by
 obtain⟨K,h1,h2,h3⟩:=h.am;obtain⟨M,k1,k2,k3⟩:=hu.am;have hle:(K++M).length<=j+k:=by rw[aY];omega
 refine cS (Tr.merge_size (K:=K++M) (op:=op) (fun l hl=>(aM.1 hl).elim (h2 l) (k2 l)) h.gd.ok hu.gd.ok (h3.mono fun l hl=>⟨l,bV _ hl, .inl J⟩) (k3.mono fun l hl=>⟨l,bZ _ hl, .inl J⟩)) ?_;exact fJ hle (by omega)
def fP.lim(h:fP j t)(hu:fP k u)(hk:j+k<=200):hH op t u=some (t.mergeQ op u []):=
 IG (by have:=h.dp;have:=hu.dp;omega) (cS (h.merge_size hu) (cS (fJ hk (show 1+(j+k)<=201 by omega)) (by decide)))
def H2{rs:List (List ZP)}(h: ∀r∈rs,eg r)(hn:rs.length<=3):fP 18 (fq rs fill):=by
 obtain⟨h1,h2⟩:=x9 h;exact((CA (acc:=mj rs fill) h2 J).restrict []).mono (by omega)
def dO(a b c d:Int):List ZP:=[(a,b),(c,b),(c,d),(a,d)]
def I'{a b c:Int}(h1:a.natAbs<=50:=by decide)(h2:b.natAbs<=50:=by decide)(h3:c.natAbs<=50:=by decide)(h4:d.natAbs<=50:=by decide)(h5:a<c:=by decide)(h6:b<d:=by decide):eg (dO a b c d):=by
 refine⟨by simp[dO],by simp[dO],fun p hp=>?_,fun i hi=>?_⟩
 .simp only[dO,aK,dT,or_false] at hp
  rcases hp with rfl|rfl|rfl|rfl<;>exact⟨by dsimp only;omega,by dsimp only;omega⟩
 .have:i=0\/i=1\/i=2\/i=3:=by simp[dO] at hi;omega
  rcases this with rfl|rfl|rfl|rfl<;>simp[dO,i0]<;>omega
def ge(p u v:ZP):List ZP:=[p,jH p u,jH p v]
def aEv{p u v:ZP}(h1:ZP.le 40 p)(h2:ZP.le 40 u)(h3:ZP.le 40 v)(h:jr u v≠0):eg (ge p u v):=by
 obtain⟨p1,p2⟩:=p;obtain⟨u1,u2⟩:=u;obtain⟨v1,v2⟩:=v;unfold ZP.le at h1 h2 h3;dsimp only at h1 h2 h3;unfold jr at h;dsimp only at h;refine⟨by simp[ge],by simp[ge],fun p hp=>?_,fun i hi=>?_⟩
 .simp only[ge,jH,aK,dT,or_false] at hp
  rcases hp with rfl|rfl|rfl<;>exact⟨by dsimp only;omega,by dsimp only;omega⟩
 .have:i=0\/i=1\/i=2:=by simp[ge] at hi;omega
  have hu: ¬(u1=0/\u2=0):=fun e=>h (by rw[e.1,e.2];simp);have hv: ¬(v1=0/\v2=0):=fun e=>h (by rw[e.1,e.2];simp);have huv: ¬(u1=v1/\u2=v2):=fun e=>h (by rw[e.1,e.2,rK];omega);rcases this with rfl|rfl|rfl<;>simp[ge,jH,i0]<;>omega
def yw(es:List Int)(n m k:Int)(a:Nat):List ZP×Nat:=
 let x:=au es n a
 let y:=au es n x.2
 let z:=au es m y.2
 let w:=au es m z.2
 (dO ((x.1:Int)-k) ((y.1:Int)-k) ((x.1:Int)-k+1+z.1) ((y.1:Int)-k+1+w.1),w.2)
def Xa{k:Int}(ha:a<=es.length)(hn:1<=n:=by decide)(hn2:n<=10:=by decide)(hm:1<=m:=by decide)(hm2:m<=10:=by decide)(hk:0<=k:=by decide)(hk2:k<=10:=by decide):eg (yw es n m k a).1/\(yw es n m k a).2<=es.length:=by
 have h1:=dx (es:=es) (a:=a) hn;have h2:=dx (es:=es) (a:=(au es n a).2) hn;have h3:=dx (es:=es) (a:=(au es n (au es n a).2).2) hm;have h4:=dx (es:=es) (a:=(au es m (au es n (au es n a).2).2).2) hm;exact⟨I' (by omega) (by omega) (by omega) (by omega) (by omega) (by omega),gO (gO (gO (gO ha)))⟩
def AO:List ZP:=[(0,0),(1,0),(0,1)]
def OP:eg AO:=⟨by decide,by decide,fun p hp=>by
  simp only[AO,aK,dT,or_false] at hp;rcases hp with rfl|rfl|rfl<;>exact⟨by decide,by decide⟩,fun i hi=>by
  have:i=0\/i=1\/i=2:=by simp[AO] at hi;omega
  rcases this with rfl|rfl|rfl<;>decide⟩
def f8(es:List Int)(a:Nat):List ZP×Nat:=
 let k:=au es 2 a
 if(k.1:Int)=0 then yw es 3 2 1 k.2
 else
  let x:=au es 3 k.2
  let y:=au es 3 x.2
  let u1:=au es 2 y.2
  let u2:=au es 3 u1.2
  let v1:=au es 3 u2.2
  let v2:=au es 2 v1.2
  (if 0<jr (1+(u1.1:Int),(u2.1:Int)-1) ((v1.1:Int)-1,1+(v2.1:Int)) then ge ((x.1:Int)-1,(y.1:Int)-1) (1+(u1.1:Int),(u2.1:Int)-1) ((v1.1:Int)-1,1+(v2.1:Int)) else AO,v2.2)
def BO(ha:a<=es.length):eg (f8 es a).1/\(f8 es a).2<=es.length:=by
 have h0:=gO (n:=2) ha;unfold f8;dsimp only;split
 .exact Xa h0
 .generalize hk:(au es 2 a).2=k at*
  have e1:=dx (es:=es) (n:=3) (a:=k);have f1:=gO (n:=3) h0;generalize hx:au es 3 k=x at*;have e2:=dx (es:=es) (n:=3) (a:=x.2);have f2:=gO (n:=3) f1;generalize hy:au es 3 x.2=y at*;have e3:=dx (es:=es) (n:=2) (a:=y.2);have f3:=gO (n:=2) f2;generalize hu:au es 2 y.2=u1 at*;have e4:=dx (es:=es) (n:=3) (a:=u1.2);have f4:=gO (n:=3) f3;generalize hu2:au es 3 u1.2=u2 at*;have e5:=dx (es:=es) (n:=3) (a:=u2.2);have f5:=gO (n:=3) f4;generalize hv:au es 3 u2.2=v1 at*;have e6:=dx (es:=es) (n:=2) (a:=v1.2);have f6:=gO (n:=2) f5;generalize hv2:au es 2 v1.2=v2 at*;refine⟨?_,f6⟩;split
  .rename_i hc
   exact aEv ⟨by dsimp only;omega,by dsimp only;omega⟩ ⟨by dsimp only;omega,by dsimp only;omega⟩ ⟨by dsimp only;omega,by dsimp only;omega⟩ (by omega)
  .exact OP
def zg(l:aa):Tr:=(Tr.node l (.leaf true) (.leaf false)).restrict []
def sj: ∀t:Tr,t.lns.length=t.size
 | .leaf _=>rfl
 | .node l x y=>by rw[Tr.lns,bQ,aY,sj x,sj y,Tr.size];omega
def Uq(hb:t.all (fun l=>BL l 96))(ho:t.all aa.ok)(hs:t.size<=k):fP k t:=
 ⟨⟨j'.2 fun l hl=>⟨j'.1 hb l hl⟩,ho⟩,cS t.depth_size hs,t.lns,by rw[sj];exact hs,nP ho,ayj fun l hl=>hl⟩
def Zj{l:aa}(h:LS l):fP 18 (zg l):=
 (Uq (k:=18) (t:= .node l (.leaf true) (.leaf false)) ⟨h.bl,trivial,trivial⟩ ⟨h.ok,trivial,trivial⟩ (by simp[Tr.size])).restrict []
def bF(a b p:ah):Rat:=(b.x-a.x)*(p.y-a.y)-(b.y-a.y)*(p.x-a.x)
def aE3(q p v w:ah)(e:Rat):bF q p (jt v w e)=bF q p v+e*(bF q p w-bF q p v):=by
 unfold bF jt;grind
def AS{a b:Rat}(ha:0<a):0<a*b↔0<b:=by rw[Rat.mul_comm];exact fC ha
def DU(op:Int)(a b:Tr):Bool:=decide ((a.mergeQ op b []).isLeaf=true/\(a.mergeQ op b []).code=false)
def Y4{a b:Tr}:DU op a b=true↔a.mergeQ op b []= .leaf false:=by
 unfold DU;rw[decide_eq_true_iff]
 cases a.mergeQ op b [] with
 |leaf v=>simp[Tr.isLeaf,Tr.code]
 |node l x y=>simp[Tr.isLeaf]
def rB.none{a b:Tr}(h:rB L a b):DU op a b=true↔ ∀p,b9 L p->qE op (a.val p) (b.val p)=false:=by rw[Y4,h.leaf]
def jA:Tr->ah->Bool
 | .leaf b,_=>b
 | .node l x y,p=>if(l.value p).num.sign=1 then jA x p else if(l.value p).num.sign= -1 then jA y p else false
def wo: ∀{t:Tr} {p:ah},b9 t.lns p->jA t p=t.val p
 | .leaf b,p,_=>rfl
 | .node l x y,p,h=>by
  rw[jA,Tr.val];have h0:=h.l;by_cases h1:0<l.value p
  .rw[if_pos ((CJ _).2 h1),if_pos h1,wo h.x]
  .have h2:l.value p<0:=by grind
   have h3:=(Nz _).2 h2;have h4:(l.value p).num.sign= -1:=by
    rcases Int.sign_trichotomy (l.value p).num with e|e|e<;>omega
   rw[if_neg (by omega),if_pos h4,if_neg h1,wo h.y]
def CO{L:List aa}{p q:ah}(h: ∀l∈L,0<l.value q↔0<l.value p): ∀{t:Tr},(∀l∈t.lns,l∈L)->t.val q=t.val p
 | .leaf _,_=>rfl
 | .node l x y,hl=>by
  have hx:=CO h (t:=x) fun m hm=>hl m (aJ _ (bV _ hm));have hy:=CO h (t:=y) fun m hm=>hl m (aJ _ (bZ _ hm));rw[Tr.val,Tr.val,hx,hy];by_cases h1:0<l.value q
  .rw[if_pos h1,if_pos ((h l (hl l aQ)).1 h1)]
  .rw[if_neg h1,if_neg (fun e=>h1 ((h l (hl l aQ)).2 e))]
def Bm: ∀{t:Tr} {c:ar} {b:Bool} {e:ar},t.all aa.ok->bu c->(b,e)∈t.parts c->bu e/\ ∀p,bm e p->bm c p/\t.val p=b
 | .leaf v,c,b,e,_,hc,h=>by
  rw[Tr.parts,aU] at h
  cases h
  exact⟨hc,fun p hp=>⟨hp,J⟩⟩
 | .node l x y,c,b,e,⟨hl,hx,hy⟩,hc,h=>by
  rw[Tr.parts] at h;rcases aM.1 h with h|h
  .split at h
   .rename_i hb
    obtain⟨k1,k2⟩:=gk hc hl hb;obtain⟨m1,m2⟩:=Bm hx k1 h;refine⟨m1,fun p hp=>?_⟩;obtain⟨n1,n2⟩:=m2 p hp;obtain⟨o1,o2⟩:=(k2 p).1 n1;exact⟨o1,by rw[Tr.val_pos o2,n2]⟩
   .cases h
  .split at h
   .rename_i hb
    obtain⟨k1,k2⟩:=gk hc hl.rev hb;obtain⟨m1,m2⟩:=Bm hy k1 h;refine⟨m1,fun p hp=>?_⟩;obtain⟨n1,n2⟩:=m2 p hp;obtain⟨o1,o2⟩:=(k2 p).1 n1;rw[en] at o2;exact⟨o1,by rw[Tr.val_neg (by grind),n2]⟩
   .cases h
def IJ: ∀{t:Tr} {c:ar} {p:ah},t.all aa.ok->bu c->bm c p->b9 t.lns p-> ∃b e,(b,e)∈t.parts c/\bm e p
 | .leaf v,c,p,_,_,hp,_=>⟨v,c,aU.2 J,hp⟩
 | .node l x y,c,p,⟨hl,hx,hy⟩,hc,hp,ho=>by
  have h0:=ho.l;rw[Tr.parts];by_cases h:0<l.value p
  .have hb:=(m9 hc hl).2 ⟨p,hp,h⟩
   obtain⟨k1,k2⟩:=gk hc hl hb;obtain⟨b,e,m1,m2⟩:=IJ hx k1 ((k2 p).2 ⟨hp,h⟩) ho.x;exact⟨b,e,bV _ (by rw[if_pos hb];exact m1),m2⟩
  .have h':0<l.rev.value p:=by rw[en];grind
   have hb:=(m9 hc hl.rev).2 ⟨p,hp,h'⟩;obtain⟨k1,k2⟩:=gk hc hl.rev hb;obtain⟨b,e,m1,m2⟩:=IJ hy k1 ((k2 p).2 ⟨hp,h'⟩) ho.y;exact⟨b,e,bZ _ (by rw[if_pos hb];exact m1),m2⟩
def de(t:Tr):List ar:=((t.parts []).filter (·.1)).map (·.2)
def q9:e∈de t↔(true,e)∈t.parts []:=by
 unfold de;simp
def Ga(l:aa)(v:ah):l.dir.cross v=l.nor.dot v:=by
 unfold aa.dir aa.nor ah.cross ah.dot;grind
end Go.Sx
end
