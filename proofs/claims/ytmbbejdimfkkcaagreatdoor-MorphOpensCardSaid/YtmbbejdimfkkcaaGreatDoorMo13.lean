import Derived.Test.YtmbbejdimfkkcaaGreatDoorMo12
set_option linter.all false
set_option maxHeartbeats 2000000
set_option maxRecDepth 100000
section
namespace Go.Sx
open Go Go.Proofs Tryz
variable {GB:Gh}
structure EG (GB:Gh) (ai al ae:Addr):Prop where
 ErrInvalid:GB 0=some [.iface 384 (.pointer (some ai))]
 ErrLimit:GB 1=some [.iface 384 (.pointer (some al))]
structure Tr.gd (t:Tr):Prop where
 lb:t.all LB
 ok:t.all aa.ok
def Tr.restrict_size: ∀(t:Tr) (c:ao),(t.restrict c).size<=t.size
 | .leaf _,_=>bV _
 | .node l x y,c=>by
  rw[Tr.restrict];have hx:=fun c=>x.restrict_size c;have hy:=fun c=>y.restrict_size c;split
  .have:=hx c;simp only[Tr.size];omega
  .split
   .have:=hy c;simp only[Tr.size];omega
   .have h1:=hx (bG c l)
    have h2:=hy (bG c l.rev);rcases Tr.joinQ_cases l (x.restrict (bG c l)) (y.restrict (bG c l.rev)) with⟨h,_⟩|⟨h,_⟩<;>rw[h]<;>(try simp only[Tr.size])<;>omega
def Tr.compl_size: ∀t:Tr,t.compl.size=t.size
 | .leaf _=>rfl
 | .node l x y=>by simp only[Tr.compl,Tr.size,x.compl_size,y.compl_size]
def Tr.compl_all(p:aa->Prop): ∀t:Tr,t.all p->t.compl.all p
 | .leaf _,h=>h
 | .node l x y,⟨h0,h1,h2⟩=>⟨h0,x.compl_all p h1,y.compl_all p h2⟩
def Tr.compl_depth: ∀t:Tr,t.compl.depth=t.depth
 | .leaf _=>rfl
 | .node l x y=>by simp only[Tr.compl,Tr.depth,x.compl_depth,y.compl_depth]
def Tr.chooseQ_all(p:aa->Prop)(op:Int)(b:Bool)(t:Tr)(c:ao)(h:t.all p):(t.chooseQ op b c).all p:=by
 have:=t.restrict_all p c h;unfold chooseQ;split
 .split
  .trivial
  .exact this
 .split
  .trivial
  .split
   .exact(t.restrict c).compl_all p this
   .exact this
def Tr.chooseQ_size(op:Int)(b:Bool)(t:Tr)(c:ao):(t.chooseQ op b c).size<=t.size:=by
 have:=t.restrict_size c;unfold chooseQ;split
 .split
  .exact aN _
  .exact this
 .split
  .exact aN _
  .split
   .rw[(t.restrict c).compl_size];exact this
   .exact this
def Tr.mergeQ_all(p:aa->Prop)(op:Int){u:Tr}(hu:u.all p): ∀(t:Tr) (c:ao),t.all p->(t.mergeQ op u c).all p
 | .leaf b,c,_=>u.chooseQ_all p op b c hu
 | .node l x y,c,⟨h0,h1,h2⟩=>by
  rw[Tr.mergeQ];split
  .exact Tr.mergeQ_all p op hu x c h1
  .split
   .exact Tr.mergeQ_all p op hu y c h2
   .rcases Tr.joinQ_cases l (x.mergeQ op u (bG c l)) (y.mergeQ op u (bG c l.rev)) with⟨h,_⟩|⟨h,_⟩
    .rw[h];exact Tr.mergeQ_all p op hu x _ h1
    .rw[h];exact⟨h0,Tr.mergeQ_all p op hu x _ h1,Tr.mergeQ_all p op hu y _ h2⟩
def Tr.mergeQ_size(op:Int)(u:Tr): ∀(t:Tr) (c:ao),(t.mergeQ op u c).size+1<=(t.size+1)*(u.size+1)
 | .leaf b,c=>by
  have:=u.chooseQ_size op b c;show(u.chooseQ op b c).size+1<=(0+1)*(u.size+1);omega
 | .node l x y,c=>by
  have hx:=fun c=>Tr.mergeQ_size op u x c;have hy:=fun c=>Tr.mergeQ_size op u y c;have e:((Tr.node l x y).size+1)*(u.size+1)=(x.size+1)*(u.size+1)+(y.size+1)*(u.size+1):=by
   rw[<-dS];congr 1;simp only[Tr.size];omega
  rw[e,Tr.mergeQ];split
  .have:=hx c;omega
  .split
   .have:=hy c;omega
   .have h1:=hx (bG c l)
    have h2:=hy (bG c l.rev);rcases Tr.joinQ_cases l (x.mergeQ op u (bG c l)) (y.mergeQ op u (bG c l.rev)) with⟨h,_⟩|⟨h,_⟩<;>rw[h]<;>(try simp only[Tr.size])<;>omega
def Tr.depth_size: ∀t:Tr,t.depth<=t.size
 | .leaf _=>bV _
 | .node l x y=>by
  have h1:=x.depth_size;have h2:=y.depth_size;simp only[Tr.depth,Tr.size];omega
def jG(op:Int)(a b:Tr):Option Tr:=if 1024<a.depth+b.depth then none else if 65536<(a.mergeQ op b []).size then none else some (a.mergeQ op b [])
def VQ(al:Addr):Option Tr->DV
 |some t=> .tp [eU t, .v .nilIface]
 |none=> .tp [.v (.pointer none),VV al]
def ZF{op:Int}{a b t:Tr}(ha:a.gd)(hb:b.gd)(h:jG op a b=some t):t.gd/\t.size<=65536:=by
 unfold jG at h;split at h
 .cases h
 .split at h
  .cases h
  .cases h
   exact⟨⟨Tr.mergeQ_all LB op hb.lb a [] ha.lb,Tr.mergeQ_all aa.ok op hb.ok a [] ha.ok⟩,we⟩
def Tt{ai al ae:Addr}(hE:EG GB ai al ae){op:Int}{a b:Tr}(ha:a.gd)(hb:b.gd)(hsa:a.size<=65536)(hsb:b.size<=65536):PF GB prog 124 [vI op,eU a,eU b] (VQ al (jG op a b)):=by
 have hda:=a.depth_size;have hdb:=b.depth_size;have hms:=Tr.mergeQ_size op b a [];have hmm:(a.size+1)*(b.size+1)<=65537*65537:=fZ we we;refine fn func124 J J ntmps124 J J (fun C=>?_);refine cl J (AJ (t:=a) we) J<|cl J (AJ (t:=b) we) J<|br J J J (fun hc14=>?_) (fun hc14=>?_)
 .
  refine gl J hE.ErrLimit J<|rz J (by unfold jG;rw[if_pos we];rfl)
 .
  refine cl J (J8 (op:=op) (t:=a) (u:=b) (c:=[]) hb.lb hb.ok ha.lb ha.ok (fun s h=>by cases h) (by simp only[eX];omega)) J<|cl J (aHe (t:=a.mergeQ op b []) we) J<|br J J J (fun hc22=>?_) (fun hc22=>?_)
  .
   refine gl J hE.ErrLimit J<|rz J (by unfold jG;rw[if_neg we,if_pos we];rfl)
  .
   exact rz J (by unfold jG;rw[if_neg we,if_neg we];rfl)
def QW{ai al ae:Addr}(hE:EG GB ai al ae){op:Int}{a b t:Tr}(ha:a.gd)(hb:b.gd)(hsa:a.size<=65536)(hsb:b.size<=65536)(h:jG op a b=some t):PF GB prog 124 [vI op,eU a,eU b] (.tp [eU t, .v .nilIface]):=by
 have:=Tt hE (op:=op) ha hb hsa hsb;rw[h] at this;exact this
def Ze{ai al ae:Addr}(hE:EG GB ai al ae){op:Int}{a b:Tr}(ha:a.gd)(hb:b.gd)(hsa:a.size<=65536)(hsb:b.size<=65536)(h:jG op a b=none):PF GB prog 124 [vI op,eU a,eU b] (.tp [.v (.pointer none),VV al]):=by
 have:=Tt hE (op:=op) ha hb hsa hsb;rw[h] at this;exact this
def aGU{ai al ae:Addr}(hE:EG GB ai al ae){op:Int}{a b t:Tr}(ha:a.gd)(hb:b.gd)(hsa:a.size<=65536)(hsb:b.size<=65536)(h:jG op a b=some t):PF GB prog 126 [vI op,eU a,eU b] (.tp [eU t, .v .nilIface]):=by
 refine fn func126 J J ntmps126 J J (fun C=>?_);refine cl J (QW hE ha hb hsa hsb h) J<|rz J J
def mP(op:Int):Tr->List Tr->Option Tr
 |t,[]=>some t
 |t,u::us=>match jG op t u with
  |none=>none
  |some r=>mP op r us
def Ob{op:Int}{t u:Tr}{us:List Tr}{k:Nat}(h:us[k]? =some u):mP op t (us.drop k)=match jG op t u with|none=>none|some r=>mP op r (us.drop (k+1)):=by
 rw[Gr h];rfl
def Oc{t:Tr}(h:t.gd)(c:ao):(t.restrict c).gd:=⟨t.restrict_all LB c h.lb,t.restrict_all aa.ok c h.ok⟩
def ZC{ai al ae:Addr}(hE:EG GB ai al ae){op:Int}{a:Tr}{us:List Tr}(ha:a.gd)(hsa:a.size<=65536)(hus: ∀u∈us,u.gd/\u.size<=65536)(hn:us.length<=1000000):PF GB prog 65 [vI op,eU a, .sl (us.map eU)] (VQ al (if 1024<a.depth then none else mP op (a.restrict []) us)):=by
 have hda:=a.depth_size;have hm:=uC eU us;have hrs:=a.restrict_size [];have hrg:=Oc ha [];refine fn func65 J J ntmps65 J J (fun C=>?_);refine cl J (AJ (t:=a) we) J<|br J J J (fun hc14=>?_) (fun hc14=>?_)
 .
  refine gl J hE.ErrLimit J<|rz J (by rw[if_pos we];rfl)
 .
  refine cl (fu:=⟨8⟩) J (PS (t:=a) ha.lb ha.ok) J<|aj 19 (.d (vI (us.length:Nat))) J omu<|gx J<|lp (X:=Tr×Nat) (fun⟨t,k⟩=>[(20, .d (vI (k:Nat))),(8, .d (eU t))]) (fun⟨t,k⟩=>[]) (fun⟨t,k⟩=>k<=us.length/\t.gd/\t.size<=65536/\mP op t (us.drop k)=mP op (a.restrict []) us) (fun⟨t,k⟩=>us.length-k) (a.restrict [],0) J ⟨aN _,hrg,we,J⟩ (fun _=>J) (fun⟨t,k⟩ hk=>?_);dsimp only at hk⊢;obtain⟨h1,h2,h3,h4⟩:=hk;refine br J J J (fun hc21=>?_) (fun hc21=>?_)
  .
   obtain⟨u,hu0⟩: ∃s,us[k]? =some s:=⟨_,aZ we⟩;have hu:=hus u (aK hu0);refine ix _ J (cp hu0) J<|?_;rcases hr:jG op t u with _|r
   .
    refine cl J (Ze hE h2 hu.1 h3 hu.2 hr) J<|rz J (by rw[if_neg we,<-h4,Ob hu0,hr];rfl)
   .
    have hrr:=ZF h2 hu.1 hr;refine cl J (QW hE h2 hu.1 h3 hu.2 hr) J<|at_ (r,k+1) (by dsimp only;exact⟨⟨we,hrr.1,hrr.2,by rw[<-h4,Ob hu0,hr]⟩,we⟩)
  .
   exact rz J (by rw[if_neg we,<-h4,jQ we];rfl)
def Ms{t:Tr}(h:t.gd):t.compl.gd:=⟨t.compl_all LB h.lb,t.compl_all aa.ok h.ok⟩
abbrev Ej:=Int×List RN
def Ej.d(x:Ej):DV:=eRT x.1 x.2
def aI7: ∀(us:List Tr),cO 1 (us.map eU):=fun us d hd=>by
 obtain⟨u,_,rfl⟩:=aU.1 hd;exact⟨rfl,rfl⟩
structure Ej.ok (x:Ej):Prop where
 s: ∀n∈x.2,n.g.sm
 n:x.2.length<=65536
def YR{ai al ae:Addr}(hE:EG GB ai al ae){op:Int}{a t:Tr}{us:List Tr}(ha:a.gd)(hsa:a.size<=65536)(hus: ∀u∈us,u.gd/\u.size<=65536)(hn:us.length<=1000000)(h:(if 1024<a.depth then none else mP op (a.restrict []) us)=some t):PF GB prog 65 [vI op,eU a, .sl (us.map eU)] (.tp [eU t, .v .nilIface]):=by
 have:=ZC hE (op:=op) ha hsa hus hn;rw[h] at this;exact this
def Tr.val:Tr->ah->Bool
 | .leaf b,_=>b
 | .node l x y,p=>if 0<l.value p then x.val p else y.val p
def Tr.lns:Tr->List aa
 | .leaf _=>[]
 | .node l x y=>l::(x.lns++y.lns)
def l9{P:aa->Prop}: ∀{t:Tr},t.all P↔ ∀l∈t.lns,P l
 | .leaf _=>⟨fun _ l hl=>(by cases hl),fun _=>trivial⟩
 | .node l x y=>by
  show(P l/\x.all P/\y.all P)↔ ∀m∈l::(x.lns++y.lns),P m;rw[l9 (t:=x),l9 (t:=y)];constructor
  .rintro ⟨h0,h1,h2⟩ m hm
   rcases aW.1 hm with rfl|hm
   .exact h0
   .rcases bZ.1 hm with hm|hm
    .exact h1 m hm
    .exact h2 m hm
  .intro h
   exact⟨h l aQ,fun m hm=>h m (aJ _ (bU _ hm)),fun m hm=>h m (aJ _ (bQ _ hm))⟩
def pd{t:Tr}(h:t.all aa.ok): ∀l∈t.lns,l.ok:=l9.1 h
def cA(L:List aa)(p:ah):Prop:= ∀l∈L,l.value p≠0
def cA.sub{L M:List aa}{p:ah}(h:cA L p)(k: ∀l∈M,l∈L):cA M p:=fun l hl=>h l (k l hl)
def cA.l{l:aa}{x y:Tr}{p:ah}(h:cA (Tr.node l x y).lns p):l.value p≠0:=h l aQ
def cA.x{l:aa}{x y:Tr}{p:ah}(h:cA (Tr.node l x y).lns p):cA x.lns p:=h.sub fun m hm=>aJ _ (bU _ hm)
def cA.y{l:aa}{x y:Tr}{p:ah}(h:cA (Tr.node l x y).lns p):cA y.lns p:=h.sub fun m hm=>aJ _ (bQ _ hm)
def cA.app{L M:List aa}{p:ah}:cA (L++M) p↔cA L p/\cA M p:=by
 unfold cA;constructor
 .intro h;exact⟨fun l hl=>h l (bU _ hl),fun l hl=>h l (bQ _ hl)⟩
 .rintro ⟨h1,h2⟩ l hl;rcases bZ.1 hl with h|h;exact h1 l h;exact h2 l h
def uq(op:Int)(a b:Bool):Bool:=if op=1 then a||b else if op=2 then a&&b else if op=3 then a&&!b else a !=b
def Tr.val_join(l:aa)(X Y:Tr)(p:ah):(Tr.joinQ l X Y).val p=(Tr.node l X Y).val p:=by
 unfold Tr.joinQ;split
 .rename_i h
  cases X<;>cases Y<;>simp[Tr.isLeaf,Tr.code] at h
  subst h;simp[Tr.val]
 .rfl
def Tr.val_pos{l:aa}{x y:Tr}{p:ah}(h:0<l.value p):(Tr.node l x y).val p=x.val p:=by rw[Tr.val,if_pos h]
def Tr.val_neg{l:aa}{x y:Tr}{p:ah}(h: ¬0<l.value p):(Tr.node l x y).val p=y.val p:=by rw[Tr.val,if_neg h]
def Tr.val_compl: ∀(t:Tr) (p:ah),t.compl.val p=!t.val p
 | .leaf b,p=>rfl
 | .node l x y,p=>by
  rw[Tr.compl];by_cases h:0<l.value p
  .rw[Tr.val_pos h,Tr.val_pos h,x.val_compl]
  .rw[Tr.val_neg h,Tr.val_neg h,y.val_compl]
def QF{c:ao}{l:aa}(hc:bw c)(hl:l.ok)(hb:cw c l.rev=false){p:ah}(hp:bu c p)(h0:l.value p≠0):0<l.value p:=by
 by_cases h:0<l.value p
 .exact h
 .exfalso
  have:cw c l.rev=true:=(oz hc hl.rev).2 ⟨p,hp,by rw[en];grind⟩;rw[hb] at this;cases this
def Vt{c:ao}{l:aa}(hc:bw c)(hl:l.ok)(hb:cw c l=false){p:ah}(hp:bu c p): ¬0<l.value p:=fun h=>by
 have:cw c l=true:=(oz hc hl).2 ⟨p,hp,h⟩;rw[hb] at this;cases this
def Tr.val_restrict: ∀(t:Tr) (c:ao) (p:ah),t.all aa.ok->bw c->bu c p->cA t.lns p->(t.restrict c).val p=t.val p
 | .leaf _,_,_,_,_,_,_=>rfl
 | .node l x y,c,p,⟨hl,hx,hy⟩,hc,hp,ho=>by
  cases hb:cw c l.rev with
  |false=>rw[Tr.restrict_A _ _ hb,x.val_restrict c p hx hc hp ho.x,Tr.val_pos (QF hc hl hb hp ho.l)]
  |true=>
   cases hb2:cw c l with
   |false=>rw[Tr.restrict_B _ _ hb hb2,y.val_restrict c p hy hc hp ho.y,Tr.val_neg (Vt hc hl hb2 hp)]
   |true=>
    rw[Tr.restrict_C _ _ hb hb2,Tr.val_join];obtain⟨g1,i1⟩:=gz hc hl hb2;obtain⟨g2,i2⟩:=gz hc hl.rev hb;by_cases h:0<l.value p
    .rw[Tr.val_pos h,Tr.val_pos h,x.val_restrict _ p hx g1 ((i1 p).2 ⟨hp,h⟩) ho.x]
    .rw[Tr.val_neg h,Tr.val_neg h,y.val_restrict _ p hy g2 ((i2 p).2 ⟨hp,by rw[en];have:=ho.l;grind⟩) ho.y]
def Tr.val_choose(op:Int)(b:Bool)(t:Tr)(c:ao)(p:ah)(ht:t.all aa.ok)(hc:bw c)(hp:bu c p)(ho:cA t.lns p):(t.chooseQ op b c).val p=uq op b (t.val p):=by
 have hr:=t.val_restrict c p ht hc hp ho;unfold Tr.chooseQ uq;by_cases h1:op=1
 .subst h1;cases b<;>simp[hr,Tr.val]
 .by_cases h2:op=2
  .subst h2;cases b<;>simp[hr,Tr.val]
  .by_cases h3:op=3
   .subst h3;cases b<;>simp[hr,Tr.val,Tr.val_compl]
   .cases b<;>simp[h1,h2,h3,hr,Tr.val_compl]
def Tr.val_merge(op:Int)(u:Tr)(hu:u.all aa.ok): ∀(t:Tr) (c:ao) (p:ah),t.all aa.ok->bw c->bu c p->cA t.lns p->cA u.lns p->(t.mergeQ op u c).val p=uq op (t.val p) (u.val p)
 | .leaf b,c,p,_,hc,hp,_,ho=>u.val_choose op b c p hu hc hp ho
 | .node l x y,c,p,⟨hl,hx,hy⟩,hc,hp,ho,hou=>by
  rw[Tr.mergeQ]
  cases hb:cw c l.rev with
  |false=>
   rw[if_pos (show(!false)=true from J),Tr.val_merge op u hu x c p hx hc hp ho.x hou,Tr.val_pos (QF hc hl hb hp ho.l)]
  |true=>
   rw[if_neg oma]
   cases hb2:cw c l with
   |false=>rw[if_pos (show(!false)=true from J),Tr.val_merge op u hu y c p hy hc hp ho.y hou,Tr.val_neg (Vt hc hl hb2 hp)]
   |true=>
    rw[if_neg oma,Tr.val_join];obtain⟨g1,i1⟩:=gz hc hl hb2;obtain⟨g2,i2⟩:=gz hc hl.rev hb;by_cases h:0<l.value p
    .rw[Tr.val_pos h,Tr.val_pos h,Tr.val_merge op u hu x _ p hx g1 ((i1 p).2 ⟨hp,h⟩) ho.x hou]
    .rw[Tr.val_neg h,Tr.val_neg h,Tr.val_merge op u hu y _ p hy g2 ((i2 p).2 ⟨hp,by rw[en];have:=ho.l;grind⟩) ho.y hou]
def Qd: ∀(L:List aa) (u:ah) (p:ah),cA L p-> ∃e:Rat,0<e/\ ∀d,0<=d->d<=e->cA L (cD p u d)
 |[],u,p,_=>⟨1,oma,fun d _ _ l hl=>by cases hl⟩
 |l::L,u,p,h=>by
  obtain⟨e,he,hm⟩:=Qd L u p (h.sub fun m hm=>aJ _ hm);have h0:=h l aQ;have key: ∃f:Rat,0<f/\ ∀d,0<=d->d<=f->l.value (cD p u d)≠0:=by
   by_cases hk:l.nor.dot u=0
   .exact⟨1,oma,fun d _ _=>by rw[jF,hk];grind⟩
   .generalize hA:l.value p=A at*
    generalize hB:l.nor.dot u=B at*;rcases jI A with h|h|h
    .exact absurd h h0
    .rcases jI B with k|k|k
     .exact absurd k hk
     .exact⟨1,oma,fun d hd _=>by rw[jF,hA,hB];have:=cI hd (dZ k);grind⟩
     .refine⟨A/(-B)/2,?_,fun d hd h2=>?_⟩
      .have:0<A/(-B):=by
        have e1:A/(-B)*(-B)=A:=by grind
        exact(gk (k:= -B) omb).1 (by rw[e1];exact h)
       grind
      .rw[jF,hA,hB]
       have e1:A/(-B)*(-B)=A:=by grind
       generalize A/(-B)=q at*;have h4:=cI (a:=q/2-d) (b:= -B) omb omb;grind
    .rcases jI B with k|k|k
     .exact absurd k hk
     .refine⟨(-A)/B/2,?_,fun d hd h2=>?_⟩
      .have:0<(-A)/B:=by
        have e1:(-A)/B*B= -A:=by grind
        exact(gk (k:=B) k).1 (by rw[e1];grind)
       grind
      .rw[jF,hA,hB]
       have e1:(-A)/B*B= -A:=by grind
       generalize (-A)/B=q at*;have h4:=cI (a:=q/2-d) (b:=B) omb omb;grind
     .exact⟨1,oma,fun d hd _=>by rw[jF,hA,hB];have:=cI hd (b:= -B) omb;grind⟩
  obtain⟨f,hf,hk⟩:=key;refine⟨if e<=f then e else f,by split<;>assumption,fun d hd hde m hm'=>?_⟩;have h1:d<=e/\d<=f:=by split at hde<;>grind
  rcases aW.1 hm' with rfl|hm'
  .exact hk d hd h1.2
  .exact hm d hd h1.1 m hm'
theorem okW{p:Prop}(h:p:=by split<;>grind):p:=h
def Jr{c:ao}{p:ah}(hp:bu c p): ∀(L:List aa),(∀l∈L,l.ok)-> ∃q,bu c q/\cA L q
 |[],_=>⟨p,hp,fun l hl=>by cases hl⟩
 |l::L,h=>by
  obtain⟨q,hq,ho⟩:=Jr hp L fun m hm=>h m (aJ _ hm);by_cases h0:l.value q=0
  .have hn:=mO (h l aQ).ne
   obtain⟨e,he,hm⟩:=hq.open l.nor;obtain⟨f,hf,hk⟩:=Qd L l.nor q ho;refine⟨cD q l.nor (if e<=f then e else f),hm _ okW okW,fun m hm'=>?_⟩;rcases aW.1 hm' with rfl|hm'
   .rw[jF,h0]
    have:=c9 (a:=if e<=f then e else f) (b:=m.nor.dot m.nor) (by split<;>assumption) hn;grind
   .exact hk _ okW okW m hm'
  .exact⟨q,hq,fun m hm=>by rcases aW.1 hm with rfl|hm;exact h0;exact ho m hm⟩
def aJB{c:ao}(hc:bw c)(L:List aa)(h: ∀l∈L,l.ok): ∃q,bu c q/\cA L q:=by
 obtain⟨p,hp⟩:=hc.ne;exact Jr hp L h
def Tr.Red:Tr->ao->Prop
 | .leaf _,_=>True
 | .node l x y,c=>cw c l=true/\cw c l.rev=true/\x.Red (bG c l)/\y.Red (bG c l.rev)/\ ¬(x.isLeaf=true/\y.isLeaf=true/\x.code=y.code)
def Tr.red_leaf{t:Tr}(h:t.isLeaf=true)(c:ao):t.Red c:=by
 cases t with
 |leaf b=>trivial
 |node l x y=>cases h
def Tr.join_red{l:aa}{x y:Tr}{c:ao}(h1:cw c l=true)(h2:cw c l.rev=true)(hx:x.Red (bG c l))(hy:y.Red (bG c l.rev)):(Tr.joinQ l x y).Red c:=by
 rcases Tr.joinQ_cases l x y with⟨e,h⟩|⟨e,h⟩
 .rw[e];exact Tr.red_leaf h c
 .rw[e];exact⟨h1,h2,hx,hy,h⟩
def Tr.restrict_red: ∀(t:Tr) (c:ao),(t.restrict c).Red c
 | .leaf _,_=>trivial
 | .node l x y,c=>by
  cases hb:cw c l.rev with
  |false=>rw[Tr.restrict_A _ _ hb];exact x.restrict_red c
  |true=>
   cases hb2:cw c l with
   |false=>rw[Tr.restrict_B _ _ hb hb2];exact y.restrict_red c
   |true=>rw[Tr.restrict_C _ _ hb hb2];exact Tr.join_red hb2 hb (x.restrict_red _) (y.restrict_red _)
def Tr.compl_leaf{t:Tr}:t.compl.isLeaf=t.isLeaf:=by cases t<;>rfl
def Tr.compl_code{t:Tr}(h:t.isLeaf=true):t.compl.code=!t.code:=by
 cases t with
 |leaf b=>rfl
 |node l x y=>cases h
def Tr.compl_red: ∀{t:Tr} {c:ao},t.Red c->t.compl.Red c
 | .leaf _,_,_=>trivial
 | .node l x y,c,⟨h1,h2,h3,h4,h5⟩=>by
  refine⟨h1,h2,Tr.compl_red h3,Tr.compl_red h4,fun⟨a,b,e⟩=>?_⟩;rw[Tr.compl_leaf] at a b;rw[Tr.compl_code a,Tr.compl_code b] at e;exact h5 ⟨a,b,by simpa using e⟩
def Tr.choose_red(op:Int)(b:Bool)(t:Tr)(c:ao):(t.chooseQ op b c).Red c:=by
 have h:=t.restrict_red c;unfold Tr.chooseQ;split
 .split
  .trivial
  .exact h
 .split
  .trivial
  .split
   .exact Tr.compl_red h
   .exact h
def Tr.merge_red(op:Int)(u:Tr): ∀(t:Tr) (c:ao),(t.mergeQ op u c).Red c
 | .leaf b,c=>u.choose_red op b c
 | .node l x y,c=>by
  rw[Tr.mergeQ]
  cases hb:cw c l.rev with
  |false=>rw[if_pos (show(!false)=true from J)];exact Tr.merge_red op u x c
  |true=>
   rw[if_neg oma]
   cases hb2:cw c l with
   |false=>rw[if_pos (show(!false)=true from J)];exact Tr.merge_red op u y c
   |true=>rw[if_neg oma];exact Tr.join_red hb2 hb (Tr.merge_red op u x _) (Tr.merge_red op u y _)
def Tr.red_const{L:List aa}(hL: ∀l∈L,l.ok){v:Bool}: ∀{t:Tr} {c:ao},t.Red c->t.all aa.ok->bw c->(∀p,bu c p->cA L p->t.val p=v)->t= .leaf v
 | .leaf b,c,_,_,hc,h=>by
  obtain⟨q,h1,h2⟩:=aJB hc L hL;have:=h q h1 h2;rw[Tr.val] at this;rw[this]
 | .node l x y,c,⟨h1,h2,h3,h4,h5⟩,⟨hl,hx,hy⟩,hc,h=>by
  obtain⟨g1,i1⟩:=gz hc hl h1;obtain⟨g2,i2⟩:=gz hc hl.rev h2;have ex:=Tr.red_const hL (v:=v) h3 hx g1 (fun p hp ho=>by
   have k:=(i1 p).1 hp;rw[<-h p k.1 ho,Tr.val_pos k.2])
  have ey:=Tr.red_const hL (v:=v) h4 hy g2 (fun p hp ho=>by
   have k:=(i2 p).1 hp;rw[en] at k;rw[<-h p k.1 ho,Tr.val_neg (by have:=k.2;grind)])
  subst ex;subst ey;exact absurd ⟨J,J,J⟩ h5
def QX(p:ah):bu [] p:=fun s hs=>(by cases hs)
def Tr.merge_leaf{op:Int}{a b:Tr}(ha:a.all aa.ok)(hb:b.all aa.ok){L:List aa}(hL: ∀l∈L,l.ok)(hLa: ∀l∈a.lns,l∈L)(hLb: ∀l∈b.lns,l∈L){v:Bool}:a.mergeQ op b []= .leaf v↔ ∀p,cA L p->uq op (a.val p) (b.val p)=v:=by
 constructor
 .intro h p hp
  rw[<-Tr.val_merge op b hb a [] p ha bw.nil (QX p) (hp.sub hLa) (hp.sub hLb),h];rfl
 .intro h
  refine Tr.red_const hL (Tr.merge_red op b a []) (Tr.mergeQ_all aa.ok op hb a [] ha) bw.nil (fun p _ hp=>?_);rw[Tr.val_merge op b hb a [] p ha bw.nil (QX p) (hp.sub hLa) (hp.sub hLb)];exact h p hp
def aa.same(l m:aa):Prop:=m=l\/m=l.rev
instance (l m:aa):Decidable (l.same m):=inferInstanceAs (Decidable (_\/_))
def Tr.cnt(l:aa):Tr->Nat
 | .leaf _=>0
 | .node m x y=>(if l.same m then 1 else 0)+(x.cnt l+y.cnt l)
def oO{l m:aa}(h:l.same m){p:ah}(hp:l.value p=0):m.value p=0:=by
 rcases h with rfl|rfl
 .exact hp
 .rw[en,hp];rfl
def Fi(l:aa)(c:ao):Prop:= ∃p,bu c p/\l.value p=0
def Tr.cnt_zero{l:aa}: ∀{t:Tr} {c:ao},t.Red c->t.all aa.ok->bw c-> ¬Fi l c->t.cnt l=0
 | .leaf _,_,_,_,_,_=>rfl
 | .node m x y,c,⟨h1,h2,h3,h4,_⟩,⟨hm,hx,hy⟩,hc,hn=>by
  obtain⟨g1,i1⟩:=gz hc hm h1;obtain⟨g2,i2⟩:=gz hc hm.rev h2;have e1:=Tr.cnt_zero (l:=l) h3 hx g1 (fun⟨p,hp,h0⟩=>hn ⟨p,((i1 p).1 hp).1,h0⟩);have e2:=Tr.cnt_zero (l:=l) h4 hy g2 (fun⟨p,hp,h0⟩=>hn ⟨p,((i2 p).1 hp).1,h0⟩);rw[Tr.cnt,e1,e2];by_cases hs:l.same m
  .exfalso
   -- m crosses the cell
   obtain⟨p,hp,k1⟩:=(oz hc hm).1 h1;obtain⟨q,hq,k2⟩:=(oz hc hm.rev).1 h2;rw[en] at k2;generalize hA:m.value p=A at*;generalize hB:m.value q=B at*;have hAB:0<A-B:=by grind
   have e:A/(A-B)*(A-B)=A:=by grind
   generalize A/(A-B)=r at*;have r0:0<=r:=(iH hAB).1 (by rw[e];exact dZ k1);have r1:r<=1:=by
    have:=(iH (s:=1-r) hAB).1 omb;grind
   have hz:=hp.seg hq r0 r1;have hv:m.value (kC p q r)=0:=by rw[lP,hA,hB];grind
   refine hn ⟨_,hz,?_⟩;rcases hs with rfl|rfl
   .exact hv
   .rw[en] at hv;grind
  .rw[if_neg hs]
def qt(c:ao)(p:ah):Bool:=c.all fun s=>decide (0<s.l.value p)
def sP{c:ao}{p:ah}:qt c p=true↔bu c p:=by
 unfold qt bu;rw[dV];simp
def PX(P:List ah)(l:aa)(t:Tr):Prop:=t.all fun m=>l.same m\/ ∀p,l.value p=0->m.value p=0->p∈P
def Mu{α:Type}{p q r:α->Bool}: ∀(P:List α),(∀x∈P,q x=true->p x=true)->(∀x∈P,r x=true->p x=true)->(∀x∈P,¬(q x=true/\r x=true))->P.countP q+P.countP r<=P.countP p
 |[],_,_,_=>bV _
 |x::P,h1,h2,h3=>by
  have ih:=Mu (p:=p) (q:=q) (r:=r) P (fun y hy=>h1 y (aJ _ hy)) (fun y hy=>h2 y (aJ _ hy)) (fun y hy=>h3 y (aJ _ hy));have a:=h1 x aQ;have b:=h2 x aQ;have c:=h3 x aQ;rw[pJ,pJ,pJ]
  cases hq:q x<;>cases hr:r x<;>simp_all<;>omega
def OK{α:Type}{p q r:α->Bool}: ∀(P:List α),(∀x∈P,q x=true->p x=true)->(∀x∈P,r x=true->p x=true)->(∀x∈P,¬(q x=true/\r x=true))->(∃x∈P,p x=true/\q x=false/\r x=false)->P.countP q+P.countP r+1<=P.countP p
 |[],_,_,_,⟨x,hx,_⟩=>by cases hx
 |x::P,h1,h2,h3,h4=>by
  have i2:=Mu (p:=p) (q:=q) (r:=r) P (fun y hy=>h1 y (aJ _ hy)) (fun y hy=>h2 y (aJ _ hy)) (fun y hy=>h3 y (aJ _ hy));have a:=h1 x aQ;have b:=h2 x aQ;have c:=h3 x aQ;rw[pJ,pJ,pJ];obtain⟨z,hz,k1,k2,k3⟩:=h4;rcases aW.1 hz with rfl|hz
  .simp only[k1,k2,k3];simp;omega
  .have ih:=OK (p:=p) (q:=q) (r:=r) P (fun y hy=>h1 y (aJ _ hy)) (fun y hy=>h2 y (aJ _ hy)) (fun y hy=>h3 y (aJ _ hy)) ⟨z,hz,k1,k2,k3⟩
   cases hq:q x<;>cases hr:r x<;>simp_all<;>omega
def Tr.cnt_le{l:aa}(hl:l.ok){P:List ah}: ∀{t:Tr} {c:ao},t.Red c->t.all aa.ok->bw c->PX P l t->t.cnt l<=1+P.countP (qt c)
 | .leaf _,_,_,_,_,_=>aN _
 | .node m x y,c,⟨h1,h2,h3,h4,_⟩,⟨hm,hx,hy⟩,hc,⟨v0,v1,v2⟩=>by
  obtain⟨g1,i1⟩:=gz hc hm h1;obtain⟨g2,i2⟩:=gz hc hm.rev h2;have q1: ∀p∈P,qt (bG c m) p=true->qt c p=true:=fun p _ h=>sP.2 ((i1 p).1 (sP.1 h)).1;have q2: ∀p∈P,qt (bG c m.rev) p=true->qt c p=true:=fun p _ h=>sP.2 ((i2 p).1 (sP.1 h)).1;have q3: ∀p∈P,¬(qt (bG c m) p=true/\qt (bG c m.rev) p=true):=fun p _ ⟨a,b⟩=>by
   have a:=((i1 p).1 (sP.1 a)).2;have b:=((i2 p).1 (sP.1 b)).2;rw[en] at b;grind
  have ct:=Mu P q1 q2 q3;rw[Tr.cnt];by_cases hs:l.same m
  .have e1:=Tr.cnt_zero (l:=l) h3 hx g1 (fun⟨p,hp,h0⟩=>by have:=((i1 p).1 hp).2;rw[oO hs h0] at this;grind)
   have e2:=Tr.cnt_zero (l:=l) h4 hy g2 (fun⟨p,hp,h0⟩=>by have:=((i2 p).1 hp).2;rw[en,oO hs h0] at this;grind);rw[e1,e2,if_pos hs];omega
  .rw[if_neg hs]
   have b1:=Tr.cnt_le hl h3 hx g1 v1;have b2:=Tr.cnt_le hl h4 hy g2 v2;by_cases w1:Fi l (bG c m)
   .by_cases w2:Fi l (bG c m.rev)
    .-- the crossing zf in the cell
     obtain⟨p,hp,k1⟩:=w1;obtain⟨q,hq,k2⟩:=w2;obtain⟨hp,ap⟩:=(i1 p).1 hp;obtain⟨hq,aq⟩:=(i2 q).1 hq;rw[en] at aq;generalize hA:m.value p=A at*;generalize hB:m.value q=B at*;have hAB:0<A-B:=by grind
     have e:A/(A-B)*(A-B)=A:=by grind
     generalize A/(A-B)=r at*;have r0:0<=r:=(iH hAB).1 (by rw[e];exact dZ ap);have r1:r<=1:=by
      have:=(iH (s:=1-r) hAB).1 omb;grind
     have hz:=hp.seg hq r0 r1;have hv:m.value (kC p q r)=0:=by rw[lP,hA,hB];grind
     have hv2:l.value (kC p q r)=0:=by rw[lP,k1,k2];grind
     have hmem:kC p q r∈P:=by
      rcases v0 with h|h
      .exact absurd h hs
      .exact h _ hv2 hv
     have c3:=OK P q1 q2 q3 ⟨_,hmem,sP.2 hz,by
      rw[<-jX,sP,i1];rintro ⟨_,h⟩;rw[hv] at h;grind,by
      rw[<-jX,sP,i2];rintro ⟨_,h⟩;rw[en,hv] at h;grind⟩
     omega
    .rw[Tr.cnt_zero h4 hy g2 w2];omega
   .rw[Tr.cnt_zero h3 hx g1 w1];omega
def Ln(l:aa):l.rev.rev=l:=by cases l;simp[aa.rev]
def aa.same.symm{l m:aa}(h:l.same m):m.same l:=by
 rcases h with rfl|rfl
 .exact .inl J
 .exact .inr (Ln l).symm
def aa.same.trans{l m n:aa}(h:l.same m)(k:m.same n):l.same n:=by
 rcases h with rfl|rfl
 .exact k
 .rcases k with rfl|rfl
  .exact .inr J
  .exact .inl (Ln l)
def dw(K:List aa)(t:Tr):Prop:=t.all fun n=> ∃m∈K,m.same n
def AU(l m:aa):ah:=l.at (-(l.cutC m/l.cutK m))
def GF{l m:aa}(hl:l.ok)(hm:m.ok){p:ah}(h1:l.value p=0)(h2:m.value p=0):l.same m\/p=AU l m:=by
 obtain⟨t,rfl⟩:=AR hl.ne h1;rw[mv] at h2;by_cases hk:l.cutK m=0
 .left
  have hc:l.cutC m=0:=by rw[hk] at h2;grind
  rcases Be hm hl (fun s=>by rw[mv,hk,hc];grind) with h|h
  .exact .inl h
  .exact .inr h
 .right
  unfold AU;congr 1;grind
def dw.covers{K:List aa}(hK: ∀m∈K,m.ok){l:aa}(hl:l.ok): ∀{t:Tr},dw K t->PX (K.map (AU l)) l t
 | .leaf _,_=>trivial
 | .node n x y,⟨⟨m,hm,hs⟩,h1,h2⟩=>by
  refine⟨?_,dw.covers hK hl h1,dw.covers hK hl h2⟩;by_cases h:l.same n
  .exact .inl h
  .right
   intro p k1 k2;rcases GF hl (hK m hm) k1 (oO hs.symm k2) with h3|h3
   .exact absurd (h3.trans hs) h
   .rw[h3];exact dX hm
def Kc(t:Tr):List aa->Nat
 |[]=>0
 |l::K=>t.cnt l+Kc t K
def Ks(n:aa):List aa->Nat
 |[]=>0
 |l::K=>(if l.same n then 1 else 0)+Ks n K
def Sy{n:aa}{x y:Tr}: ∀K,Kc (.node n x y) K=Ks n K+(Kc x K+Kc y K)
 |[]=>rfl
 |l::K=>by
  have:=Sy (n:=n) (x:=x) (y:=y) K;show(Tr.node n x y).cnt l+Kc (.node n x y) K=_;rw[this,Tr.cnt];show _=(if l.same n then 1 else 0)+Ks n K+(x.cnt l+Kc x K+(y.cnt l+Kc y K));omega
def SH{n m:aa}(hs:m.same n): ∀{K:List aa},m∈K->1<=Ks n K
 |[],h=>by cases h
 |l::K,h=>by
  show 1<=(if l.same n then 1 else 0)+Ks n K;rcases aW.1 h with rfl|h
  .rw[if_pos hs];omega
  .have:=SH hs h;omega
def Lw{K:List aa}: ∀{t:Tr},dw K t->t.size<=Kc t K
 | .leaf _,_=>aN _
 | .node n x y,⟨⟨m,hm,hs⟩,h1,h2⟩=>by
  have a:=Lw h1;have b:=Lw h2;have c:=SH hs hm;rw[Sy,Tr.size];omega
def PE{t:Tr}{B:Nat}: ∀{K:List aa},(∀l∈K,t.cnt l<=B)->Kc t K<=K.length*B
 |[],_=>aN _
 |l::K,h=>by
  have:=PE (t:=t) (B:=B) (K:=K) fun m hm=>h m (aJ _ hm);have:=h l aQ;show t.cnt l+Kc t K<=(K.length+1)*B;rw[fS];omega
def Tr.size_le{K:List aa}(hK: ∀m∈K,m.ok){t:Tr}{c:ao}(hr:t.Red c)(ht:t.all aa.ok)(hc:bw c)(h:dw K t):t.size<=K.length*(1+K.length):=by
 refine cX (Lw h) (PE fun l hl=>?_);refine cX (Tr.cnt_le (hK l hl) hr ht hc (h.covers hK (hK l hl))) ?_;have:=List.countP_le_length (p:=qt c) (l:=K.map (AU l));rw[aX] at this;omega
def aBV{K:List aa}{t:Tr}(h: ∀l∈t.lns,l∈K):dw K t:=l9.2 fun l hl=>⟨l,h l hl, .inl J⟩
def dw.mono{K M:List aa}{t:Tr}(h:dw K t)(k: ∀l∈K,∃m∈M,m.same l):dw M t:=l9.2 fun l hl=>by
 obtain⟨m,hm,hs⟩:=l9.1 h l hl;obtain⟨n,hn,hs2⟩:=k m hm;exact⟨n,hn,hs2.trans hs⟩
def dw.restrict{K:List aa}{t:Tr}(h:dw K t)(c:ao):dw K (t.restrict c):=t.restrict_all _ c h
def dw.compl{K:List aa}{t:Tr}(h:dw K t):dw K t.compl:=t.compl_all _ h
def dw.merge{K:List aa}{op:Int}{t u:Tr}(h:dw K t)(hu:dw K u)(c:ao):dw K (t.mergeQ op u c):=Tr.mergeQ_all _ op hu t c h
def Tr.chooseL(op:Int)(b:Bool)(t:Tr)(c:List aa):Tr:=
 if op=1/\b=true then .leaf true
 else if(op=2\/op=3)/\b=false then .leaf false
 else if(op=3\/op=4)/\b=true then(t.restrictL c).compl else t.restrictL c
def Tr.mergeL(op:Int):Tr->Tr->List aa->Tr
 | .leaf b,u,c=>u.chooseL op b c
 | .node l x y,u,c=>if nH c l=1 then x.mergeL op u c else if nH c l= -1 then y.mergeL op u c else joinQ l (x.mergeL op u (cj (c++[l]))) (y.mergeL op u (cj (c++[l.rev])))
def Tr.chooseL_eq{op:Int}(ho:1<=op/\op<=4)(b:Bool)(t:Tr)(c:List aa)(d:ao)(ht:t.all aa.ok)(hc: ∀l∈c,l.ok)(hd:bw d)(he: ∀p,bu d p↔d8 c p):t.chooseL op b c=t.chooseQ op b d:=by
 have h:=t.restrictL_eq c d ht hc hd he;unfold Tr.chooseL Tr.chooseQ;rw[h];have:op=1\/op=2\/op=3\/op=4:=by omega
 rcases this with rfl|rfl|rfl|rfl<;>cases b<;>simp
def Tr.mergeL_eq{op:Int}(ho:1<=op/\op<=4)(u:Tr)(hu:u.all aa.ok): ∀(t:Tr) (c:List aa) (d:ao),t.all aa.ok->(∀l∈c,l.ok)->bw d->(∀p,bu d p↔d8 c p)->t.mergeL op u c=t.mergeQ op u d
 | .leaf b,c,d,_,hc,hd,he=>u.chooseL_eq ho b c d hu hc hd he
 | .node l x y,c,d,h,hc,hd,he=>by
  obtain⟨hl,hx,hy⟩:=h;have i1:=Bj (jp hc hl);have i2:=Bj (jp hc hl.rev);obtain⟨p0,hp0⟩:=hd.ne;rcases zf hd hl with⟨a1,a⟩|⟨a1,a2,a⟩|⟨a1,a2,ag1,ag2,ae1,ae2⟩
  .have b1:jv (c++[l])=true:=i1.2 ⟨p0,lH.2 ⟨(he p0).1 hp0,a p0 hp0⟩⟩
   have b2:jv (c++[l.rev])=false:=by
    rw[<-jX,i2];rintro ⟨p,hp⟩;have hp:=lH.1 hp;have:=a p ((he p).2 hp.1);rw[en] at hp;grind
   rw[Tr.mergeQ,a1,if_pos (show(!false)=true from J),Tr.mergeL,nH,b1,b2];exact Tr.mergeL_eq ho u hu x c d hx hc hd he
  .have b2:jv (c++[l.rev])=true:=i2.2 ⟨p0,lH.2 ⟨(he p0).1 hp0,by rw[en];have:=a p0 hp0;grind⟩⟩
   have b1:jv (c++[l])=false:=by
    rw[<-jX,i1];rintro ⟨p,hp⟩;have hp:=lH.1 hp;have:=a p ((he p).2 hp.1);grind
   rw[Tr.mergeQ,a1,a2,if_neg oma,if_pos (show(!false)=true from J),Tr.mergeL,nH,b1,b2];exact Tr.mergeL_eq ho u hu y c d hy hc hd he
  .have n1: ∃p,d8 (c++[l]) p:=by
    obtain⟨p,hp⟩:=ag1.ne;exact⟨p,lH.2 ⟨(he p).1 ((ae1 p).1 hp).1,((ae1 p).1 hp).2⟩⟩
   have n2: ∃p,d8 (c++[l.rev]) p:=by
    obtain⟨p,hp⟩:=ag2.ne;exact⟨p,lH.2 ⟨(he p).1 ((ae2 p).1 hp).1,by rw[en];have:=((ae2 p).1 hp).2;grind⟩⟩
   rw[Tr.mergeQ,a1,a2,if_neg oma,if_neg oma,Tr.mergeL,nH,i1.2 n1,i2.2 n2];have k1:=Tr.mergeL_eq ho u hu x (cj (c++[l])) (bG d l) hx (fun m hm=>jp hc hl m (ke.1 hm).1) ag1 fun p=>by
    rw[CY (jp hc hl) n1,ae1,lH,he]
   have k2:=Tr.mergeL_eq ho u hu y (cj (c++[l.rev])) (bG d l.rev) hy (fun m hm=>jp hc hl.rev m (ke.1 hm).1) ag2 fun p=>by
    rw[CY (jp hc hl.rev) n2,ae2,lH,he,en];constructor<;>rintro ⟨a,b⟩<;>exact⟨a,omb⟩
   rw[k1,k2];rfl
def aFT(p:ah):bu [] p↔d8 [] p:=by unfold bu d8;simp
def Tr.mergeL_nil{op:Int}(ho:1<=op/\op<=4){t u:Tr}(ht:t.all aa.ok)(hu:u.all aa.ok):t.mergeL op u []=t.mergeQ op u []:=
 Tr.mergeL_eq ho u hu t [] [] ht (fun l hl=>by cases hl) bw.nil aFT
def TX{op:Int}{a b:Tr}(hd:a.depth+b.depth<=1024)(hs:(a.mergeQ op b []).size<=65536):jG op a b=some (a.mergeQ op b []):=by
 unfold jG;rw[if_neg we,if_neg we]
structure u7 (L:List aa) (a b:Tr):Prop where
 oa:a.all aa.ok
 ob:b.all aa.ok
 ok: ∀l∈L,l.ok
 la: ∀l∈a.lns,l∈L
 lb: ∀l∈b.lns,l∈L
def u7.mk0{a b:Tr}(ha:a.all aa.ok)(hb:b.all aa.ok):u7 (a.lns++b.lns) a b:=
 ⟨ha,hb,fun l hl=>(bZ.1 hl).elim (pd ha l) (pd hb l),fun l hl=>bU _ hl,fun l hl=>bQ _ hl⟩
def u7.leaf{L:List aa}{a b:Tr}(h:u7 L a b){op:Int}{v:Bool}:a.mergeQ op b []= .leaf v↔ ∀p,cA L p->uq op (a.val p) (b.val p)=v:=Tr.merge_leaf h.oa h.ob h.ok h.la h.lb
def lu(x:Rat):List Rat->List Rat
 |[]=>[x]
 |u::t=>if u<x then u::lu x t else if u=x then u::t else x::u::t
def f8(l:List Rat):List Rat:=l.foldl (fun out x=>lu x out) []
def je:List Rat->List Rat
 |a::b::t=>(a+b)/2::je (b::t)
 |_=>[]
def cB:List Rat->List Rat
 |[]=>[0]
 |a::t=>(a-1)::(je (a::t)++[(a::t).getLast omc+1])
def rI{x y:Rat}: ∀{l:List Rat},y∈lu x l↔y=x\/y∈l
 |[]=>by simp[lu]
 |u::t=>by
  rw[lu];split
  .rw[aW,rI (l:=t),aW];grind
  .split
   .rename_i h;subst h;simp
   .simp
def An{x:Rat}: ∀{l:List Rat},l.Pairwise (· < ·)->(lu x l).Pairwise (· < ·)
 |[],_=>by simp[lu]
 |u::t,h=>by
  rw[cZ] at h;rw[lu];split
  .rename_i hu
   rw[cZ];refine⟨fun y hy=>?_,An h.2⟩;rcases rI.1 hy with rfl|hy
   .exact hu
   .exact h.1 y hy
  .rename_i hu
   split
   .rw[cZ];exact h
   .rename_i hn
    have hx:x<u:=by grind
    rw[cZ,cZ];refine⟨fun y hy=>?_,h⟩;rcases aW.1 hy with rfl|hy
    .exact hx
    .have:=h.1 y hy;grind
def Nt{l:List Rat}: ∀{o:List Rat},o.Pairwise (· < ·)->(l.foldl (fun out x=>lu x out) o).Pairwise (· < ·)/\ ∀y,y∈l.foldl (fun out x=>lu x out) o↔y∈l\/y∈o:=by
 induction l with
 |nil=>intro o h;exact⟨h,fun y=>by simp⟩
 |cons x t ih=>
  intro o h;obtain⟨h1,h2⟩:=ih (An (x:=x) h);refine⟨h1,fun y=>?_⟩;rw[iQ,h2,rI,aW];grind
def Am(l:List Rat):(f8 l).Pairwise (· < ·):=(Nt (l:=l) List.Pairwise.nil).1
def qm{l:List Rat}{y:Rat}:y∈f8 l↔y∈l:=by
 have:=(Nt (l:=l) List.Pairwise.nil).2 y;simpa[f8] using this
def Rv{g:Rat}: ∀{l:List Rat},l.Pairwise (· < ·)->g∈je l->g∉l/\(∃a∈l,a<g)/\ ∃b∈l,g<b
 |[],_,h=>by cases h
 |[_],_,h=>by cases h
 |a::b::t,h,hg=>by
  rw[cZ] at h;have hab:=h.1 b aQ;rw[je] at hg;rcases aW.1 hg with rfl|hg
  .refine⟨fun hm=>?_,⟨a,aQ,omb⟩,b,aJ _ aQ,omb⟩
   rcases aW.1 hm with e|hm
   .grind
   .rcases aW.1 hm with e|hm
    .grind
    .have h2:=h.2
     rw[cZ] at h2;have:=h2.1 _ hm;grind
  .obtain⟨k1,⟨c,hc,k2⟩,d,hd,k3⟩:=Rv h.2 hg
   refine⟨fun hm=>?_,⟨c,aJ _ hc,k2⟩,d,aJ _ hd,k3⟩;rcases aW.1 hm with e|hm
   .have:=h.1 c hc;grind
   .exact k1 hm
def Iy: ∀{l:List Rat} (h:l.Pairwise (· < ·)) (hn:l≠[]),∀y∈l,y<=l.getLast hn
 |[a],_,_,y,hy=>by rw[aT] at hy;subst hy;exact iR
 |a::b::t,h,_,y,hy=>by
  rw[cZ] at h;rw[List.getLast_cons omc];have ih:=Iy h.2 omc;rcases aW.1 hy with rfl|hy
  .have:=h.1 b aQ
   have:=ih b aQ;grind
  .exact ih y hy
def Hh{l:List Rat}(h:l.Pairwise (· < ·)){g:Rat}(hg:g∈cB l):g∉l:=by
 cases l with
 |nil=>simp
 |cons a t=>
  rw[cB] at hg;rcases aW.1 hg with rfl|hg
  .intro hm
   rcases aW.1 hm with e|hm
   .grind
   .rw[cZ] at h;have:=h.1 _ hm;grind
  .rcases bZ.1 hg with hg|hg
   .exact(Rv h hg).1
   .rw[aT] at hg
    intro hm;have:=Iy h omc g hm;grind
def NL{v:Rat}: ∀{l:List Rat},l.Pairwise (· < ·)->v∉l->(∃a∈l,a<v)->(∃b∈l,v<b)-> ∃g∈je l,∀u∈l,u<v↔u<g
 |[],_,_,⟨a,h,_⟩,_=>by cases h
 |[c],_,_,⟨a,h,h1⟩,⟨b,k,k1⟩=>by
  rw[aT] at h k;subst h;subst k;grind
 |c::d::t,h,hv,h1,h2=>by
  have h0:=h;rw[cZ] at h;have hcd:=h.1 d aQ;have h3:=h.2;rw[cZ] at h3;have hvc:c<v:=by
   obtain⟨a,ha,hav⟩:=h1;rcases aW.1 ha with rfl|ha
   .exact hav
   .have:=h.1 a ha;grind
  by_cases hd:v<d
  .refine⟨(c+d)/2,by rw[je];exact aQ,fun u hu=>?_⟩
   rcases aW.1 hu with rfl|hu
   .constructor<;>intro _<;>grind
   .rcases aW.1 hu with rfl|hu
    .constructor<;>intro _<;>grind
    .have:=h3.1 u hu
     constructor<;>intro _<;>grind
  .have hdv:d<v:=by
    have:v≠d:=fun e=>hv (by rw[e];exact aJ _ aQ);grind
   obtain⟨b,hb,hvb⟩:=h2;have hb':b∈d::t:=by
    rcases aW.1 hb with rfl|hb
    .exfalso;grind
    .exact hb
   obtain⟨g,hg,hr⟩:=NL h.2 (fun e=>hv (aJ _ e)) ⟨d,aQ,hdv⟩ ⟨b,hb',hvb⟩;refine⟨g,by rw[je];exact aJ _ hg,fun u hu=>?_⟩;rcases aW.1 hu with rfl|hu
   .have:=(hr d aQ).1 hdv
    constructor<;>intro _<;>grind
   .exact hr u hu
def Uc{v:Rat}{l:List Rat}(h:l.Pairwise (· < ·))(hv:v∉l): ∃g∈cB l,∀u∈l,u<v↔u<g:=by
 cases l with
 |nil=>exact⟨0,by simp[cB],fun u hu=>by cases hu⟩
 |cons a t=>
  by_cases h1: ∃c∈a::t,c<v
  .by_cases h2: ∃c∈a::t,v<c
   .obtain⟨g,hg,hr⟩:=NL h hv h1 h2
    exact⟨g,by rw[cB];exact aJ _ (bU _ hg),hr⟩
   .refine⟨(a::t).getLast omc+1,by rw[cB];exact aJ _ (bQ _ (aT.2 J)),fun u hu=>?_⟩
    have k1:=Iy h omc u hu;have k2: ¬v<u:=fun e=>h2 ⟨u,hu,e⟩;have k3:u≠v:=fun e=>hv (e▸hu);constructor<;>intro _<;>grind
  .refine⟨a-1,by rw[cB];exact aQ,fun u hu=>?_⟩
   have k1: ¬u<v:=fun e=>h1 ⟨u,hu,e⟩;have k2: ¬u<a-1:=by
    rcases aW.1 hu with rfl|hu
    .grind
    .rw[cZ] at h;have:=h.1 u hu;grind
   constructor
   .intro e;exact absurd e k1
   .intro e;exact absurd e k2
def Hw(A B:List Rat)(h: ∀a∈A,∀b∈B,a<b): ∃y,(∀a∈A,a<y)/\ ∀b∈B,y<b:=by
 -- the greatest of A and the least of B
 have hA: ∀(A:List Rat),A≠[]-> ∃m∈A,∀a∈A,a<=m:=by
  intro A
  induction A with
  |nil=>intro h;exact absurd rfl h
  |cons x t ih=>
   intro _;by_cases ht:t=[]
   .subst ht;exact⟨x,aQ,fun a ha=>by rw[aT] at ha;subst ha;exact iR⟩
   .obtain⟨m,hm,hm2⟩:=ih ht
    by_cases hx:m<=x
    .exact⟨x,aQ,fun a ha=>by rcases aW.1 ha with rfl|ha;exact iR;have:=hm2 a ha;grind⟩
    .exact⟨m,aJ _ hm,fun a ha=>by rcases aW.1 ha with rfl|ha;grind;exact hm2 a ha⟩
 have hB: ∀(A:List Rat),A≠[]-> ∃m∈A,∀a∈A,m<=a:=by
  intro A
  induction A with
  |nil=>intro h;exact absurd rfl h
  |cons x t ih=>
   intro _;by_cases ht:t=[]
   .subst ht;exact⟨x,aQ,fun a ha=>by rw[aT] at ha;subst ha;exact iR⟩
   .obtain⟨m,hm,hm2⟩:=ih ht
    by_cases hx:x<=m
    .exact⟨x,aQ,fun a ha=>by rcases aW.1 ha with rfl|ha;exact iR;have:=hm2 a ha;grind⟩
    .exact⟨m,aJ _ hm,fun a ha=>by rcases aW.1 ha with rfl|ha;grind;exact hm2 a ha⟩
 by_cases eA:A=[]
 .subst eA
  by_cases eB:B=[]
  .subst eB;exact⟨0,fun a ha=>(by cases ha),fun a ha=>(by cases ha)⟩
  .obtain⟨m,hm,hm2⟩:=hB B eB
   exact⟨m-1,fun a ha=>(by cases ha),fun b hb=>by have:=hm2 b hb;grind⟩
 .obtain⟨m,hm,hm2⟩:=hA A eA
  by_cases eB:B=[]
  .subst eB;exact⟨m+1,fun a ha=>by have:=hm2 a ha;grind,fun a ha=>(by cases ha)⟩
  .obtain⟨n,hn,hn2⟩:=hB B eB
   have hmn:=h m hm n hn;exact⟨(m+n)/2,fun a ha=>by have:=hm2 a ha;grind,fun b hb=>by have:=hn2 b hb;grind⟩
def ef:List aa->List Rat
 |[]=>[]
 |a::t=>(if a.b=0 then [a.base.x] else [])++(t.filterMap (fun b=>if crossI a b=0 then none else some (cx a b).x)++ef t)
def yA(a:aa)(x:Rat):Rat:= -(((a.a:Rat)*x+(a.c:Rat))/(a.b:Rat))
def hH(l:List aa)(x:Rat):List Rat:=l.filterMap fun a=>if a.b=0 then none else some (yA a x)
def qo(l:List aa):List ah:=(cB (f8 (ef l))).flatMap fun x=>(cB (f8 (hH l x))).map fun y=>⟨x,y⟩
def Dw{a:aa}: ∀{l:List aa},a∈l->a.b=0->a.base.x∈ef l
 |[],h,_=>by cases h
 |c::t,h,hb=>by
  rw[ef];rcases aW.1 h with rfl|h
  .rw[if_pos hb];exact bU _ aQ
  .exact bQ _ (bQ _ (Dw h hb))
def SA{a b:aa}: ∀{l:List aa},a∈l->b∈l->crossI a b≠0->(cx a b).x∈ef l\/(cx b a).x∈ef l
 |[],h,_,_=>by cases h
 |c::t,h,k,hx=>by
  have hx2:crossI b a≠0:=by unfold crossI at*;omega
  rw[ef];rcases aW.1 h with h1|h1
  .rcases aW.1 k with k1|k1
   .subst h1;subst k1;unfold crossI at hx;omega
   .subst h1;left
    exact bQ _ (bU _ (jU.2 ⟨b,k1,by rw[if_neg hx]⟩))
  .rcases aW.1 k with k1|k1
   .subst k1;right
    exact bQ _ (bU _ (jU.2 ⟨a,h1,by rw[if_neg hx2]⟩))
   .rcases SA h1 k1 hx with h2|h2
    .exact .inl (bQ _ (bQ _ h2))
    .exact .inr (bQ _ (bQ _ h2))
def SK{a b:aa}(h:crossI a b≠0){p:ah}(h1:a.value p=0)(h2:b.value p=0):p.x=(cx a b).x:=by
 have hd:((crossI a b:Int):Rat)≠0:=fun e=>h (cM.1 e);unfold cx;rw[if_neg h];show p.x=(meetX a b:Rat)/(crossI a b:Rat);have e1:=u9 a b;have e2:=Lj a b;rw[iG] at h1 h2;have e3:((crossI a b:Int):Rat)*p.x=(meetX a b:Rat):=by rw[e1,e2];grind
 grind
def avD{l:List aa}{a b:aa}(ha:a∈l)(hb:b∈l)(h:crossI a b≠0){p:ah}(h1:a.value p=0)(h2:b.value p=0):p.x∈ef l:=by
 have h':crossI b a≠0:=by unfold crossI at*;omega
 rcases SA ha hb h with k|k
 .rw[SK h h1 h2];exact k
 .rw[SK h' h2 h1];exact k
def AK{a:aa}(h:a.b≠0)(x y:Rat):a.value ⟨x,y⟩=(a.b:Rat)*(y-yA a x):=by
 have hb:(a.b:Rat)≠0:=fun e=>h (cM.1 e);unfold yA;rw[iG];show(a.a:Rat)*x+(a.b:Rat)*y+(a.c:Rat)=_;grind
def H8{a:aa}(hn:a.Ne)(h:a.b=0)(x y:Rat):a.value ⟨x,y⟩=(a.a:Rat)*(x-a.base.x):=by
 have ha:(a.a:Rat)≠0:=fun e=>hn ⟨cM.1 e,h⟩;obtain⟨q,hq,hb⟩:=Dz hn;rw[hb,iG];show(a.a:Rat)*x+(a.b:Rat)*y+(a.c:Rat)=(a.a:Rat)*(x-(a.a:Rat)*q);simp only[aa.nor,ah.dot] at hq;rw[h] at hq⊢;have:((0:Int):Rat)=0:=J;rw[this] at hq⊢;grind
def L8{l:List aa}{a:aa}(h:a∈l)(hb:a.b≠0)(x:Rat):yA a x∈hH l x:=jU.2 ⟨a,h,by rw[if_neg hb]⟩
def Oy{l:List aa}{x y:Rat}(h:y∈hH l x): ∃a∈l,a.b≠0/\y=yA a x:=by
 obtain⟨a,ha,e⟩:=jU.1 h;split at e
 .cases e
 .rename_i hb;cases e;exact⟨a,ha,hb,rfl⟩
def Lz{l:List aa}{p:ah}:p∈qo l↔p.x∈cB (f8 (ef l))/\p.y∈cB (f8 (hH l p.x)):=by
 unfold qo;rw[fJ];constructor
 .rintro ⟨x,hx,hp⟩
  obtain⟨y,hy,rfl⟩:=aU.1 hp;exact⟨hx,hy⟩
 .rintro ⟨h1,h2⟩
  exact⟨p.x,h1,aU.2 ⟨p.y,h2,J⟩⟩
def NB{l:List aa}(hok: ∀a∈l,a.Ne){p:ah}(hp:p∈qo l):cA l p:=by
 obtain⟨h1,h2⟩:=Lz.1 hp;have k1:=Hh (Am _) h1;have k2:=Hh (Am _) h2;rw[qm] at k1 k2;obtain⟨x,y⟩:=p;intro a ha h0;by_cases hb:a.b=0
 .rw[H8 (hok a ha) hb] at h0
  have ha0:(a.a:Rat)≠0:=fun e=>hok a ha ⟨cM.1 e,hb⟩;apply k1;have:x=a.base.x:=by
   rcases dY.1 h0 with h|h
   .exact absurd h ha0
   .grind
  show x∈_;rw[this];exact Dw ha hb
 .rw[AK hb] at h0
  have hb0:(a.b:Rat)≠0:=fun e=>hb (cM.1 e);apply k2;have:y=yA a x:=by
   rcases dY.1 h0 with h|h
   .exact absurd h hb0
   .grind
  show y∈hH l x;rw[this];exact L8 ha hb x
def aKS(xs:List Rat)(a e:Rat)(he:0<e): ∃d,0<d/\d<=e/\a+d∉xs:=by
 induction xs generalizing e with
 |nil=>exact⟨e,he,iR,omc⟩
 |cons x t ih=>
  by_cases hx:a<x
  .obtain⟨d,h1,h2,h3⟩:=ih (if e<=(x-a)/2 then e else(x-a)/2) okW
   refine⟨d,h1,by split at h2<;>grind,fun hm=>?_⟩;rcases aW.1 hm with h|h
   .split at h2<;>grind
   .exact h3 h
  .obtain⟨d,h1,h2,h3⟩:=ih e he
   refine⟨d,h1,h2,fun hm=>?_⟩;rcases aW.1 hm with h|h
   .grind
   .exact h3 h
def vV(l:aa)(p:ah):aa:=if 0<l.value p then l else l.rev
def auB{l:aa}{p:ah}(h:l.value p≠0):0<(vV l p).value p:=by
 unfold vV;split
 .assumption
 .rw[en];grind
def auU{l:aa}{p q:ah}(h:l.value p≠0)(k:0<(vV l p).value q):0<l.value p↔0<l.value q:=by
 unfold vV at k;split at k
 .rename_i h1;exact⟨fun _=>k,fun _=>h1⟩
 .rename_i h1;rw[en] at k;constructor<;>intro _<;>grind
def shift{l:List aa}{q:ah}(ho:cA l q)(xs:List Rat): ∃q':ah,(∀a∈l,0<a.value q↔0<a.value q')/\cA l q'/\q'.x∉xs:=by
 have hD:bu (l.map fun a=>⟨vV a q,ar.all⟩) q:=fun s hs=>by
  obtain⟨a,ha,rfl⟩:=aU.1 hs;exact auB (ho a ha)
 obtain⟨e,he,hm⟩:=hD.open ⟨1,0⟩;obtain⟨d,h1,h2,h3⟩:=aKS xs q.x e he;have hd:=hm d (dZ h1) h2;have key: ∀a∈l,0<(vV a q).value (cD q ⟨1,0⟩ d):=fun a ha=>hd ⟨vV a q,ar.all⟩ (aU.2 ⟨a,ha,J⟩);refine⟨cD q ⟨1,0⟩ d,fun a ha=>auU (ho a ha) (key a ha),fun a ha h0=>?_,?_⟩
 .have:=key a ha
  unfold vV at this;split at this
  .grind
  .rw[en] at this;grind
 .show q.x+d*1∉xs
  rw[show d*1=d by grind];exact h3
theorem ozl{p:Prop}(h:p:=by rw[e];grind):p:=h
def ayp{l:List aa}(hok: ∀a∈l,a.Ne){q:ah}(ho:cA l q): ∃p∈qo l,∀a∈l,0<a.value q↔0<a.value p:=by
 obtain⟨⟨qx,qy⟩,hs,ho2,hx⟩:=shift ho (ef l);obtain⟨x0,hx0,hr⟩:=Uc (Am (ef l)) (v:=qx) (by rw[qm];exact hx);have hx0':=Hh (Am _) hx0;rw[qm] at hx0';have hr': ∀u∈ef l,u<qx↔u<x0:=fun u hu=>hr u (qm.2 hu)
 -- the order on the vertical line is the same
 have order: ∀a∈l,∀b∈l,a.b≠0->b.b≠0->yA a qx<yA b qx->yA a x0<yA b x0:=by
  intro a ha b hb hab hbb hlt;by_cases hc:crossI a b=0
  .have e1:=u9 a b
   rw[hc] at e1;have h0:((0:Int):Rat)=0:=J;rw[h0] at e1;have na:(a.b:Rat)≠0:=fun e=>hab (cM.1 e);have nb':(b.b:Rat)≠0:=fun e=>hbb (cM.1 e);have e2: ∀x,yA b x-yA a x=(a.c:Rat)/a.b-(b.c:Rat)/b.b:=fun x=>by
    unfold yA;grind
   have:=e2 qx;have:=e2 x0;grind
  .by_cases h:yA a x0<yA b x0
   .exact h
   .exfalso
    -- a crossing Hw
    generalize hA:yA b qx-yA a qx=A;generalize hB:yA b x0-yA a x0=B;have hAB:0<A-B:=by grind
    have e:A/(A-B)*(A-B)=A:=by grind
    generalize hR:A/(A-B)=r at*;have r0:0<r:=(gk hAB).1 ozl;have r1:r<=1:=by
     have:=(iH (s:=1-r) hAB).1 omb;grind
    have na:(a.b:Rat)≠0:=fun e=>hab (cM.1 e);have nb':(b.b:Rat)≠0:=fun e=>hbb (cM.1 e);have lin: ∀c:aa,c.b≠0->yA c (qx+r*(x0-qx))=yA c qx+r*(yA c x0-yA c qx):=fun c hc=>by
     have:(c.b:Rat)≠0:=fun e=>hc (cM.1 e);unfold yA;grind
    have hz:yA a (qx+r*(x0-qx))=yA b (qx+r*(x0-qx)):=by
     rw[lin a hab,lin b hbb];grind
    generalize hzx:qx+r*(x0-qx)=z at*;have hm:z∈ef l:=avD (p:=⟨z,yA a z⟩) ha hb hc (by rw[AK hab];grind) (by rw[AK hbb,hz];grind);have hi:=hr' z hm;have hne:z≠x0:=fun e=>hx0' (e▸hm);have hne2:z≠qx:=fun e=>hx (e▸hm);rcases jI (x0-qx) with k|k|k
    .apply hne2;rw[<-hzx,k];grind
    .have p1:=c9 r0 k
     have p2:=cI (a:=1-r) (b:=x0-qx) omb (dZ k);have:z<x0:=by grind
     have:=hi.2 this;grind
    .have p1:=c9 r0 (b:=qx-x0) omb
     have p2:=cI (a:=1-r) (b:=qx-x0) omb omb;have:z<qx:=by grind
     have:=hi.1 this;grind
 -- a height Hw the lower and the upper lines
 obtain⟨y',hy1,hy2⟩:=Hw ((l.filter fun(a:aa)=>decide (a.b≠0/\yA a qx<qy)).map fun(a:aa)=>yA a x0) ((l.filter fun(a:aa)=>decide (a.b≠0/\qy<yA a qx)).map fun(a:aa)=>yA a x0) (fun u hu v hv=>by
  obtain⟨a,ha,rfl⟩:=aU.1 hu;obtain⟨b,hb,rfl⟩:=aU.1 hv;simp only[lX,decide_eq_true_eq] at ha hb;exact order a ha.1 b hb.1 ha.2.1 hb.2.1 (by have:=ha.2.2;have:=hb.2.2;grind))
 have tri: ∀a∈l,a.b≠0->yA a qx<qy\/qy<yA a qx:=fun a ha hb=>by
  have h1:=ho2 a ha;rw[AK hb] at h1;have:qy≠yA a qx:=fun e=>h1 ozl;grind
 have low: ∀a∈l,a.b≠0->yA a qx<qy->yA a x0<y':=fun a ha hb h=>hy1 _ (aU.2 ⟨a,by simp only[lX,decide_eq_true_eq];exact⟨ha,hb,h⟩,J⟩);have upp: ∀a∈l,a.b≠0->qy<yA a qx->y'<yA a x0:=fun a ha hb h=>hy2 _ (aU.2 ⟨a,by simp only[lX,decide_eq_true_eq];exact⟨ha,hb,h⟩,J⟩);have hy':y'∉hH l x0:=fun hm=>by
  obtain⟨a,ha,hb,e⟩:=Oy hm;rcases tri a ha hb with h|h
  .have:=low a ha hb h;grind
  .have:=upp a ha hb h;grind
 obtain⟨y0,hy0,hry⟩:=Uc (Am (hH l x0)) (v:=y') (by rw[qm];exact hy');have hy0':=Hh (Am _) hy0;rw[qm] at hy0';refine⟨⟨x0,y0⟩,Lz.2 ⟨hx0,hy0⟩,fun a ha=>?_⟩;rw[hs a ha];by_cases hb:a.b=0
 .rw[H8 (hok a ha) hb,H8 (hok a ha) hb]
  have hi:=hr' _ (Dw ha hb);have n1:a.base.x≠qx:=fun e=>hx (e▸Dw ha hb);have n2:a.base.x≠x0:=fun e=>hx0' (e▸Dw ha hb);have ha0:(a.a:Rat)≠0:=fun e=>hok a ha ⟨cM.1 e,hb⟩;generalize a.base.x=u at*;generalize (a.a:Rat)=A at*;by_cases h1:u<qx
  .have h2:=hi.1 h1
   rw[gk (k:=qx-u) omb,gk (k:=x0-u) omb]
  .have h2: ¬u<x0:=fun e=>h1 (hi.2 e)
   have e1:A*(qx-u)=(-A)*(u-qx):=by grind
   have e2:A*(x0-u)=(-A)*(u-x0):=by grind
   rw[e1,e2,gk (k:=u-qx) omb,gk (k:=u-x0) omb]
 .rw[AK hb,AK hb]
  have hi:=hry (yA a x0) (qm.2 (L8 ha hb x0));have n2:yA a x0≠y0:=fun e=>hy0' (e▸L8 ha hb x0);have lo:=low a ha hb;have up:=upp a ha hb;have tri:=tri a ha hb;generalize yA a x0=v at*;generalize yA a qx=u at*;generalize (a.b:Rat)=B at*;rcases tri with h|h
  .have h3:=hi.1 (lo h)
   rw[gk (k:=qy-u) omb,gk (k:=y0-v) omb]
  .have h3:=up h
   have h4: ¬v<y0:=fun e=>by have:=hi.2 e;grind
   have e1:B*(qy-u)=(-B)*(u-qy):=by grind
   have e2:B*(y0-v)=(-B)*(v-y0):=by grind
   rw[e1,e2,gk (k:=u-qy) omb,gk (k:=v-y0) omb]
def pc(out:List Rat)(s:ar):List Rat:=if s.nh then(if s.nl then out else lu s.lo out) else lu s.hi (if s.nl then out else lu s.lo out)
def kr(l:List ar):List Rat:=l.foldl pc []
def vY:List ar->Rat->Int
 |[],_=>0
 |s::t,x=>
  let a:=if s.nl then 1 else bE x s.lo
  let b:=if s.nh then-1 else bE x s.hi
  if 0<a/\b<0 then 2 else if(a=0/\b<=0)\/(b=0/\0<=a) then 1 else vY t x
def gH(l:List ar)(x:Rat):Bool:=decide (vY l x=2)
def fB(cuts:List Rat)(i:Nat):ar:=⟨if i=0 then 0 else cuts.getD (i-1) 0,if i<cuts.length then cuts.getD i 0 else 0,decide (i=0),decide (i=cuts.length)⟩
def xm(v w:ar):ar:=⟨v.lo,w.hi,v.nl,w.nh⟩
def iz(cuts:List Rat)(marks:List Bool):Nat->List ar
 |0=>[]
 |k+1=>
  let out:=iz cuts marks k
  if marks.getD k false then
   (if 0<k/\marks.getD (k-1) false=true then(match out.getLast? with
    |some v=>out.dropLast++[xm v (fB cuts k)]
    |none=>out++[fB cuts k]) else out++[fB cuts k])
  else out
def y7(cuts:List Rat)(marks:List Bool):List ar:=iz cuts marks marks.length
def pD(op:Int)(x y:Bool):Bool:=if op=2 then x&&y else if op=3 then x&&!y else if op=4 then x !=y else x||y
def qB(op:Int)(a b:List ar):List ar:=y7 (kr (a++b)) ((cB (kr (a++b))).map fun t=>pD op (gH a t) (gH b t))
def jC(l m:aa)(side:Int):List ar:=
 if crossI l m=0 then(if(m.value l.base).num.sign=side then [ar.all] else [])
 else if(m.value (l.at (iC l (cx l m)+1))).num.sign=side then [⟨iC l (cx l m),0,false,true⟩] else [⟨0,iC l (cx l m),true,false⟩]
def nB(l m:aa):Bool:=decide (crossI l m=0/\(m.value l.base).num.sign=0)
def fE(f:bD)(m:aa)(side:Int):List bD:=if nB f.l m then [] else(qB 2 [f.v] (jC f.l m side)).map fun v=>⟨f.l,v⟩
def Tj(l:List ar):(kr l).Pairwise (· < ·)/\ ∀y∈kr l,∃s∈l,(s.nl=false/\y=s.lo)\/(s.nh=false/\y=s.hi):=by
 have key: ∀(l:List ar) (o:List Rat),o.Pairwise (· < ·)->(l.foldl pc o).Pairwise (· < ·)/\ ∀y∈l.foldl pc o,y∈o\/ ∃s∈l,(s.nl=false/\y=s.lo)\/(s.nh=false/\y=s.hi):=by
  intro l
  induction l with
  |nil=>intro o h;exact⟨h,fun y hy=> .inl hy⟩
  |cons s t ih=>
   intro o h;have h1:(pc o s).Pairwise (· < ·)/\ ∀y∈pc o s,y∈o\/(s.nl=false/\y=s.lo)\/(s.nh=false/\y=s.hi):=by
    unfold pc
    cases e1:s.nl<;>cases e2:s.nh<;>simp only[if_true,gR,if_false]
    .refine⟨An (An h),fun y hy=>?_⟩
     rcases rI.1 hy with h|h
     .exact .inr (.inr ⟨trivial,h⟩)
     .rcases rI.1 h with h|h
      .exact .inr (.inl ⟨trivial,h⟩)
      .exact .inl h
    .refine⟨An h,fun y hy=>?_⟩
     rcases rI.1 hy with h|h
     .exact .inr (.inl ⟨trivial,h⟩)
     .exact .inl h
    .refine⟨An h,fun y hy=>?_⟩
     rcases rI.1 hy with h|h
     .exact .inr (.inr ⟨trivial,h⟩)
     .exact .inl h
    .exact⟨h,fun y hy=> .inl hy⟩
   obtain⟨k1,k2⟩:=ih (pc o s) h1.1;refine⟨k1,fun y hy=>?_⟩;rcases k2 y hy with h2|⟨q,hq,h2⟩
   .rcases h1.2 y h2 with h3|h3
    .exact .inl h3
    .exact .inr ⟨s,aQ,h3⟩
   .exact .inr ⟨q,aJ _ hq,h2⟩
 have:=key l [] List.Pairwise.nil;refine⟨this.1,fun y hy=>?_⟩;rcases this.2 y hy with h|h
 .cases h
 .exact h
structure MT (cuts:List Rat) (v:ar):Prop where
 z:ir v
 lo:v.nl=true\/v.lo∈cuts
 hi:v.nh=true\/v.hi∈cuts
def aDv{cuts:List Rat}{i:Nat}(h:i<=cuts.length):MT cuts (fB cuts i):=by
 unfold fB;refine⟨⟨fun e=>?_,fun e=>?_⟩,?_,?_⟩
 .simp only[decide_eq_true_eq] at e;simp[e]
 .simp only[decide_eq_true_eq] at e;simp[e]
 .by_cases h0:i=0
  .left;simp[h0]
  .right
   simp only[if_neg h0];rw[aV,aZ we];exact dQ _
 .by_cases h0:i=cuts.length
  .left;simp[h0]
  .right
   simp only[if_pos (show i<cuts.length by omega)];rw[aV,aZ we];exact dQ _
def Vn{cuts:List Rat}{marks:List Bool}: ∀{k:Nat},k<=cuts.length+1-> ∀v∈iz cuts marks k,MT cuts v
 |0,_,v,hv=>by cases hv
 |k+1,hk,v,hv=>by
  have ih:=Vn (cuts:=cuts) (marks:=marks) (k:=k) we;have hg:=aDv (cuts:=cuts) (i:=k) we;rw[iz] at hv;split at hv
  .split at hv
   .split at hv
    .rename_i w hw
     rcases bZ.1 hv with h|h
     .exact ih v ((List.dropLast_sublist _).subset h)
     .rw[aT] at h;subst h
      have hw':=ih w (List.mem_of_getLast? hw);exact⟨⟨hw'.z.1,hg.z.2⟩,hw'.lo,hg.hi⟩
    .rcases bZ.1 hv with h|h
     .exact ih v h
     .rw[aT] at h;subst h;exact hg
   .rcases bZ.1 hv with h|h
    .exact ih v h
    .rw[aT] at h;subst h;exact hg
  .exact ih v hv
def Bc{l:List Rat}:(cB l).length=l.length+1:=by
 have key: ∀(l:List Rat) (a:Rat),(je (a::l)).length=l.length:=by
  intro l
  induction l with
  |nil=>intro a;rfl
  |cons b t ih=>intro a;rw[je,aS,ih b,aS]
 cases l with
 |nil=>rfl
 |cons a t=>rw[cB,aS,aY,key];simp
def Xk{op:Int}{a b:List ar}: ∀v∈qB op a b,MT (kr (a++b)) v:=fun v hv=>by
 unfold qB y7 at hv;refine Vn ?_ v hv;rw[aX,Bc];omega
def Io{cuts:List Rat}{marks:List Bool}: ∀{k:Nat},(iz cuts marks k).length<=k
 |0=>bV _
 |k+1=>by
  have ih:=Io (cuts:=cuts) (marks:=marks) (k:=k);rw[iz];split
  .split
   .split
    .rename_i w hw
     have:=pY (List.mem_of_getLast? hw);rw[aY,nQ];simp;omega
    .rw[aY];simp;omega
   .rw[aY];simp;omega
  .omega
structure ml (f:bD):Prop where
 lb:LB f.l
 ok:f.l.ok
 z:ir f.v
 lo:BQ f.v.lo 1200
 hi:BQ f.v.hi 1200
theorem BQ.zero1200:BQ (0:Rat) 1200:=BQ.mono (k:=1) ⟨oma,oma⟩
def ME{l m:aa}(hl:LB l)(hm:LB m)(hlo:l.ok){side:Int}: ∀v∈jC l m side,ir v/\BQ v.lo 1200/\BQ v.hi 1200:=fun v hv=>by
 unfold jC at hv;split at hv
 .split at hv
  .rw[aT] at hv;subst hv;exact⟨ir.all,BQ.zero1200,BQ.zero1200⟩
  .cases hv
 .rename_i hc
  have:=FO hlo.ne hc;split at hv
  .rw[aT] at hv;subst hv;exact⟨⟨fun h=>okA,fun _=>J⟩,this,BQ.zero1200⟩
  .rw[aT] at hv;subst hv;exact⟨⟨fun _=>J,fun h=>okA⟩,BQ.zero1200,this⟩
def JJ{f:bD}{m:aa}(h:ml f)(hm:LB m){side:Int}: ∀g∈fE f m side,ml g/\g.l=f.l/\nB f.l m=false:=fun g hg=>by
 unfold fE at hg;split at hg
 .cases hg
 .rename_i ho
  obtain⟨v,hv,rfl⟩:=aU.1 hg;have hi:=Xk v hv;have bd: ∀y∈kr ([f.v]++jC f.l m side),BQ y 1200:=fun y hy=>by
   obtain⟨s,hs,h1⟩:=(Tj _).2 y hy;rcases bZ.1 hs with hs|hs
   .rw[aT] at hs;subst hs
    rcases h1 with⟨_,rfl⟩|⟨_,rfl⟩
    .exact h.lo
    .exact h.hi
   .have:=ME h.lb hm h.ok s hs
    rcases h1 with⟨_,rfl⟩|⟨_,rfl⟩
    .exact this.2.1
    .exact this.2.2
  refine⟨⟨h.lb,h.ok,hi.z,?_,?_⟩,J,by simpa using ho⟩
  .rcases hi.lo with e|e
   .rw[hi.z.1 e];exact BQ.zero1200
   .exact bd _ e
  .rcases hi.hi with e|e
   .rw[hi.z.2 e];exact BQ.zero1200
   .exact bd _ e
def jD(acc:ah->Bool):Nat->List bD->List aa->Tr
 |_,[],c=> .leaf (acc (kv c c))
 |0,_::_,_=> .leaf false
 |n+1,f::t,c=> .node f.l (jD acc n ((f::t).flatMap fun g=>fE g f.l 1) (c++[f.l])) (jD acc n ((f::t).flatMap fun g=>fE g f.l (-1)) (c++[f.l.rev]))
def aBv{f g:bD}{m:aa}{side:Int}(h:g∈fE f m side):g.l=f.l:=by
 unfold fE at h;split at h
 .cases h
 .obtain⟨v,_,rfl⟩:=aU.1 h;rfl
def zh{acc:ah->Bool}{P:aa->Prop}: ∀{n:Nat} {l:List bD} {c:List aa},(∀f∈l,P f.l)->(jD acc n l c).all P
 |n,[],c,_=>by unfold jD;trivial
 |0,_::_,_,_=>by unfold jD;trivial
 |n+1,f::t,c,h=>by
  rw[jD];refine⟨h f aQ,zh fun g hg=>?_,zh fun g hg=>?_⟩<;>
  .obtain⟨q,hq,hg⟩:=fJ.1 hg
   rw[aBv hg];exact h q hq
def Jc{acc:ah->Bool}: ∀{n:Nat} {l:List bD} {c:List aa},(jD acc n l c).depth<=n
 |n,[],c=>by unfold jD;exact aN _
 |0,_::_,_=>by unfold jD;exact aN _
 |n+1,f::t,c=>by
  rw[jD,Tr.depth];have h1:=Jc (acc:=acc) (n:=n) (l:=(f::t).flatMap fun g=>fE g f.l 1) (c:=c++[f.l]);have h2:=Jc (acc:=acc) (n:=n) (l:=(f::t).flatMap fun g=>fE g f.l (-1)) (c:=c++[f.l.rev]);omega
def uI(n:Nat)(l:List bD):Prop:= ∃K:List aa,K.length<=n/\ ∀f∈l,∃m∈K,m.same f.l
def Ud{m:aa}(hm:m.Ne):m.value m.base=0:=by
 have h:=ly hm 0;rw[<-AQ,jF] at h;grind
def aAW{l m:aa}(h:l.same m)(hm:m.Ne):nB m l=true:=by
 unfold nB;rw[decide_eq_true_iff];refine⟨?_,?_⟩
 .rcases h with rfl|rfl
  .unfold crossI;omega
  .unfold crossI aa.rev
   show(-l.a)*l.b-l.a*(-l.b)=0;grind
 .rw[qp]
  exact oO h.symm (Ud hm)
def uI.split{n:Nat}{f:bD}{t:List bD}(h:uI (n+1) (f::t))(hok: ∀g∈f::t,ml g){side:Int}:uI n ((f::t).flatMap fun g=>fE g f.l side):=by
 obtain⟨K,hK,hs⟩:=h;refine⟨K.filter fun m=>!decide (m.same f.l),?_,fun g hg=>?_⟩
 .obtain⟨m,hm,hm2⟩:=hs f aQ
  have:(K.filter fun m=>!decide (m.same f.l)).length<K.length:=by
   refine List.length_filter_lt_length_iff_exists.2 ⟨m,hm,by simp[hm2]⟩
  omega
 .obtain⟨q,hq,hg⟩:=fJ.1 hg
  obtain⟨_,e,ho⟩:=JJ (hok q hq) (hok f aQ).lb g hg;obtain⟨m,hm,hm2⟩:=hs q hq;refine⟨m,lX.2 ⟨hm,?_⟩,by rw[e];exact hm2⟩;simp only[iW,decide_eq_false_iff_not];intro h;have:=aAW (h.symm.trans hm2) (hok q hq).ok.ne;rw[this] at ho;cases ho
def Yy{p q r:Bool}{a b c:Nat}(h:Nat.gcd a b≠0):aa.ok ⟨zv p (a/Nat.gcd (Nat.gcd a b) c),zv q (b/Nat.gcd (Nat.gcd a b) c),zv r (c/Nat.gcd (Nat.gcd a b) c)⟩:=by
 have hg:0<Nat.gcd (Nat.gcd a b) c:=nJ _ (iM h);have d0:Nat.gcd (Nat.gcd a b) c∣Nat.gcd a b:=lK _ _;have d1:Nat.gcd (Nat.gcd a b) c∣a:=rK d0 (lK _ _);have d2:Nat.gcd (Nat.gcd a b) c∣b:=rK d0 (mK _ _);have d3:Nat.gcd (Nat.gcd a b) c∣c:=mK _ _;refine⟨?_,?_⟩
 .rintro ⟨h1,h2⟩
  have h1':=congrArg Int.natAbs h1;have h2':=congrArg Int.natAbs h2;simp only[tn,lN] at h1' h2';have e1:=Nat.div_mul_cancel d1;have e2:=Nat.div_mul_cancel d2;rw[h1',kL] at e1;rw[h2',kL] at e2;exact h (by rw[<-e1,<-e2];rfl)
 .simp only[tn]
  rw[Nat.gcd_div d1 d2,Nat.gcd_div d0 d3,Nat.div_self hg]
def MZ(p:Bool)(a g:Nat):(zv p (a/g)).natAbs<=a:=by rw[tn];exact nK ..
def PF.eq{P:Program}{f:FuncId}{vs:List DV}{r r':DV}(h:PF GB P f vs r)(e:r=r'):PF GB P f vs r':=e▸h
def iP(m n:Int):ah:=⟨(m:Rat),(n:Rat)⟩
theorem IU{m:Int}{k:Nat}(h:m.natAbs<2^k:=by omega):BI m k:=⟨h⟩
theorem m5{m:Int}{k:Nat}(h:m.natAbs<=1000)(hk:10<=k:=by decide):BI m k:=⟨cS (show m.natAbs<2^10 by omega) (bR oma hk)⟩
instance aD.int (m n:Int) (i:Nat) [h:BI m i] [k:BI n i]:aD (iP m n) (i+1):=⟨inferInstanceAs (BQ (m:Rat) (i+1)),inferInstanceAs (BQ (n:Rat) (i+1))⟩
def xb{q:Rat}{k:Int}(h:q=(k:Rat)):eQ q=eQ (k:Rat):=by rw[h]
def XB{p:ah}{m n:Int}(h1:p.x=(m:Rat))(h2:p.y=(n:Rat)):eP p=eP (iP m n):=by
 obtain⟨x,y⟩:=p;simp only at h1 h2;subst h1 h2;rfl
def m7(a b c:Int):aa:=
 ⟨zv (decide (a<0)) (a.natAbs/Nat.gcd (Nat.gcd a.natAbs b.natAbs) c.natAbs),zv (decide (b<0)) (b.natAbs/Nat.gcd (Nat.gcd a.natAbs b.natAbs) c.natAbs),zv (decide (c<0)) (c.natAbs/Nat.gcd (Nat.gcd a.natAbs b.natAbs) c.natAbs)⟩
def LT{a b c:Int}(h: ¬(a=0/\b=0)):(m7 a b c).ok:=
 Yy fun e=>h ⟨lQ.1 (mR e),lQ.1 (mW e)⟩
def xo(a b c:Int):(m7 a b c).a.natAbs<=a.natAbs/\(m7 a b c).b.natAbs<=b.natAbs/\(m7 a b c).c.natAbs<=c.natAbs:=⟨MZ ..,MZ ..,MZ ..⟩
def jn{m n:Int}(hm:m.natAbs<=1000:=by omega)(hn:n.natAbs<=1000:=by omega):PF GB prog 22 [.v (.int .i64 m), .v (.int .i64 n)] (eP (iP m n)):=by
 refine fn func22 J J ntmps22 J J (fun C=>?_);refine cl J (jh (n:=m) we we) J<|cl J (jh (n:=n) we we) J<|rz J J
def FU{m n m' n' k:Int}(hm:m.natAbs<=1000)(hn:n.natAbs<=1000)(hm':m'.natAbs<=1000)(hn':n'.natAbs<=1000)(hk:k.natAbs<=1000:=by decide):PF GB prog 23 [eP (iP m n),eQ (k:Rat),eP (iP m' n')] (eP (iP (m+k*m') (n+k*n'))):=by
 haveI:=m5 (k:=10) hm;haveI:=m5 (k:=10) hn;haveI:=m5 (k:=10) hm';haveI:=m5 (k:=10) hn';haveI:=m5 (k:=10) hk;exact PF.eq (uE (p:=iP m n) (q:=iP m' n') (c:=(k:Rat))) (XB (by show(m:Rat)+(k:Rat)*(m':Rat)=_;push_cast;rfl) (by show(n:Rat)+(k:Rat)*(n':Rat)=_;push_cast;rfl))
def aI2{m n m' n':Int}(hm:m.natAbs<=1000)(hn:n.natAbs<=1000)(hm':m'.natAbs<=1000)(hn':n'.natAbs<=1000):PF GB prog 86 [eP (iP m n),eP (iP m' n')] (eP (iP (m-m') (n-n'))):=by
 refine fn func86 J J ntmps86 J J (fun C=>?_);refine cl J (jh (n:= -1)) J<|cl J (FU (m:=m) (n:=n) (m':=m') (n':=n') (k:= -1) hm hn hm' hn') J<|rz J (by rw[show m-m'=m+ -1*m' by omega,show n-n'=n+ -1*n' by omega];rfl)
def azU{m n m' n':Int}(hm:m.natAbs<=1000)(hn:n.natAbs<=1000)(hm':m'.natAbs<=1000)(hn':n'.natAbs<=1000):PF GB prog 91 [eP (iP m n),eP (iP m' n')] (.v (.bool (decide (m=m'/\n=n')))):=by
 haveI:=m5 (k:=10) hm;haveI:=m5 (k:=10) hn;haveI:=m5 (k:=10) hm';haveI:=m5 (k:=10) hn';refine fn func91 J J ntmps91 J J (fun C=>?_);refine cl J (lm (a:=(m:Rat)) (b:=(m':Rat))) J<|cs 11 J J J (fun hg11=>?_) (fun hg11=>?_)
 .
  refine cl J (lm (a:=(n:Rat)) (b:=(n':Rat))) J<|rz J (by rw[vG] at hg11;have e:m=m':=(by exact_mod_cast hg11);exact congrArg (fun z=>DV.v (.bool z)) (decide_eq_decide.2 (by rw[vG,oK];simp[e])))
 .
  exact rz J (by rw[vG] at hg11;have e: ¬m=m':=(fun e=>hg11 okJ);show DV.v (.bool false)=DV.v (.bool _);rw[decide_eq_false (fun h=>e h.1)])
def VE{a b k:Nat}(ha:a<k)(hb:b<k):Nat.gcd a b<k:=by
 rcases gX a with rfl|p
 .simpa using hb
 .exact dR (Nat.gcd_le_left b p) ha
def Ut{a b c:Int}{i:Nat}(ha:BI a i)(hb:BI b i)(hc:BI c i)(hi:i<=100000000)(h0: ¬(a=0/\b=0)):PF GB prog 90 [eI a,eI b,eI c] (.tp [eL (m7 a b c), .v (.bool true)]):=by
 have hgn:Nat.gcd a.natAbs b.natAbs≠0:=fun h=>h0 ⟨lQ.1 (mR h),lQ.1 (mW h)⟩;have hgp:0<Nat.gcd (Nat.gcd a.natAbs b.natAbs) c.natAbs:=nJ _ (iM hgn);haveI hb1:BN (Nat.gcd a.natAbs b.natAbs) i:=⟨VE ha.h hb.h⟩;haveI hb2:BN (Nat.gcd (Nat.gcd a.natAbs b.natAbs) c.natAbs) i:=⟨VE hb1.h hc.h⟩;refine fn func90 J J ntmps90 J J (fun C=>?_);refine cl J (CU (a:=a.natAbs) (b:=b.natAbs) we we) J<|br J J J (fun hc22=>?_) (fun hc22=>?_)
 .
  exact absurd hc22 (by rw[aX];intro h;exact hgn (wv.1 we))
 .
  refine cl J (CU (a:=Nat.gcd a.natAbs b.natAbs) (b:=c.natAbs) we we) J<|cl J (BF (a:=a.natAbs) (b:=Nat.gcd (Nat.gcd a.natAbs b.natAbs) c.natAbs) hgp we we) J<|cl J (BF (a:=b.natAbs) (b:=Nat.gcd (Nat.gcd a.natAbs b.natAbs) c.natAbs) hgp we we) J<|cl J (BF (a:=c.natAbs) (b:=Nat.gcd (Nat.gcd a.natAbs b.natAbs) c.natAbs) hgp we we) J<|cl J (kG (m:=a.natAbs/(Nat.gcd (Nat.gcd a.natAbs b.natAbs) c.natAbs)) (neg:=decide (a<0))) J<|cl J (kG (m:=b.natAbs/(Nat.gcd (Nat.gcd a.natAbs b.natAbs) c.natAbs)) (neg:=decide (b<0))) J<|cl J (kG (m:=c.natAbs/(Nat.gcd (Nat.gcd a.natAbs b.natAbs) c.natAbs)) (neg:=decide (c<0))) J<|rz J J
def jl(n n':Int):Int:= -(n'-n)
def jr(m m':Int):Int:=m'-m
def oD(m n m' n':Int):Int:= -(jl n n'*m+jr m m'*n)
def ji(m n m' n':Int):aa:=m7 (jl n n') (jr m m') (oD m n m' n')
def EF{a b:Int}(ha:a.natAbs<=2000)(hb:b.natAbs<=1000):(a*b).natAbs<=2000000:=by
 rw[fU];exact fZ ha hb
def axN{m n m' n':Int}(hm:m.natAbs<=1000)(hn:n.natAbs<=1000)(hm':m'.natAbs<=1000)(hn':n'.natAbs<=1000)(h0: ¬(m=m'/\n=n')):PF GB prog 45 [eP (iP m n),eP (iP m' n')] (.tp [eL (ji m n m' n'), .v (.bool true)]):=by
 obtain⟨a,hA⟩: ∃a,a=jl n n':=⟨_,rfl⟩;obtain⟨b,hB⟩: ∃b,b=jr m m':=⟨_,rfl⟩;have hA':a= -(n'-n):=hA;have hB':b=m'-m:=hB;obtain⟨c,hC⟩: ∃c,c= -(a*m+b*n):=⟨_,rfl⟩;have e1:=EF (a:=a) (b:=m) we hm;have e2:=EF (a:=b) (b:=n) we hn;haveI hm0:=m5 (k:=10) hm;haveI hn0:=m5 (k:=10) hn;haveI ha:BI a 30:=IU;haveI hb:BI b 30:=IU;haveI hc:BI c 30:=IU;have hthr:ji m n m' n'=m7 a b c:=by rw[hC,hA,hB];rfl
 have hne: ¬(a=0/\b=0):=fun h=>h0 we;refine fn func45 J J ntmps45 J J (fun C=>?_);refine cl J (aI2 (m:=m') (n:=n') (m':=m) (n':=n) hm' hn' hm hn) J<|cl J (PF.eq (pz (q:=(((n'-n):Int):Rat))) (xb (k:=a) (by rw[hA'];push_cast;rfl))) J<|cl J (PF.eq (ik (a:=(a:Rat)) (b:=(m:Rat))) (xb (k:=a*m) (by push_cast;rfl))) J<|cl J (PF.eq (by haveI:BI (m'-m) 30:=(by rw[<-hB'];exact hb);exact ik (a:=(((m'-m):Int):Rat)) (b:=(n:Rat))) (xb (k:=b*n) (by rw[hB'];push_cast;rfl))) J<|cl J (PF.eq (m8 (a:=((a*m:Int):Rat)) (b:=((b*n:Int):Rat))) (xb (k:=a*m+b*n) (by push_cast;rfl))) J<|cl J (PF.eq (pz (q:=((a*m+b*n:Int):Rat))) (xb (k:=c) (by rw[hC];push_cast;rfl))) J<|cl J (jx (q:=(a:Rat))) J<|cl J (jx (q:=(((m'-m):Int):Rat))) J<|cl J (PF.eq (qi (a:=1) (b:=1)) J) J<|cl J (jx (q:=(c:Rat))) J<|cl J (PF.eq (qi (a:=1) (b:=1)) J) J<|cl (fu:=⟨1⟩) J (kG (neg:=false) (m:=1)) J<|aj 40 (.d (eQ ((1:Int):Rat))) J J<|gx J<|cl J (PF.eq (ik (a:=(a:Rat)) (b:=((1:Int):Rat))) (xb (k:=a) (by push_cast;grind))) J<|cl J (PF.eq (by haveI:BI (m'-m) 30:=(by rw[<-hB'];exact hb);exact ik (a:=(((m'-m):Int):Rat)) (b:=((1:Int):Rat))) (xb (k:=b) (by rw[hB'];push_cast;grind))) J<|cl J (PF.eq (ik (a:=(c:Rat)) (b:=((1:Int):Rat))) (xb (k:=c) (by push_cast;grind))) J<|cl J (Ut (a:=a) (b:=b) (c:=c) ha hb hc oma hne) J<|rz J (by rw[hthr];rfl)
def aA8{es:List Int}{a:Nat}(h:a<es.length):(es.map vI)[(a:Int).toNat]? =some (vI es[a]):=by simp[h]
def az3:eP (iP 0 0)= .ag [.v (.bool false), .sl [], .sl [], .v (.bool false), .sl [], .sl []]:=by
 unfold eP iP;simp[mH,dD]
def aI3{m n p q:Int}(hm:m.natAbs<=4)(hn:n.natAbs<=4)(hp:p.natAbs<=4)(hq:q.natAbs<=4)(h: ¬(p=0/\q=0)):LS (ji m n (m+1*p) (n+1*q)):=by
 have e1:jl n (n+1*q)= -q:=by unfold jl;omega
 have e2:jr m (m+1*p)=p:=by unfold jr;omega
 have e3:((-q)*m).natAbs<=4*4:=by rw[fU];exact fZ we hm
 have e4:(p*n).natAbs<=4*4:=by rw[fU];exact fZ hp hn
 have e5:oD m n (m+1*p) (n+1*q)= -((-q)*m+p*n):=by unfold oD;rw[e1,e2]
 unfold ji;obtain⟨k1,k2,k3⟩:=xo (jl n (n+1*q)) (jr m (m+1*p)) (oD m n (m+1*p) (n+1*q));exact⟨LT (by rw[e1,e2];omega),cX k1 (by rw[e1];omega),cX k2 (by rw[e2];omega),cX k3 (by rw[e5];omega)⟩
def au(es:List Int)(n:Int)(a:Nat):Nat×Nat:=
 if h:a<es.length then((if Int.tmod es[a] n<0 then Int.tmod es[a] n+n else Int.tmod es[a] n).toNat,a+1) else(0,a)
def c8{es:List Int}{n:Int}{a:Nat}(hn:1<=n:=by decide):((au es n a).1:Int)<n:=by
 unfold au;split
 .rename_i h
  have q2:=Int.tmod_lt_of_pos es[a] (show 0<n by omega);dsimp only;split<;>omega
 .exact hn
def im{es:List Int}{n:Int}{a:Nat}(ha:a<=es.length):(au es n a).2<=es.length:=by
 unfold au;split
 .assumption
 .exact ha
def pF(es:List Int)(a:Nat):(Int×Int)×Nat:=((((au es 9 a).1:Int)-4,((au es 9 (au es 9 a).2).1:Int)-4),(au es 9 (au es 9 a).2).2)
def Dr{es:List Int}{a:Nat}(ha:a<=es.length):(pF es a).1.1.natAbs<=4/\(pF es a).1.2.natAbs<=4/\(pF es a).2<=es.length:=by
 have h1:=c8 (es:=es) (n:=9) (a:=a);have h2:=c8 (es:=es) (n:=9) (a:=(au es 9 a).2);have h3:=im (n:=9) (im (es:=es) (n:=9) ha);unfold pF;exact⟨by dsimp only;omega,by dsimp only;omega,h3⟩
def vF(es:List Int)(a:Nat):(Int×Int)×Nat:=if(pF es a).1.1=0/\(pF es a).1.2=0 then((1,0),(pF es a).2) else pF es a
def LU{es:List Int}{a:Nat}(ha:a<=es.length):(vF es a).1.1.natAbs<=4/\(vF es a).1.2.natAbs<=4/\ ¬((vF es a).1.1=0/\(vF es a).1.2=0)/\(vF es a).2<=es.length:=by
 obtain⟨h1,h2,h3⟩:=Dr ha;unfold vF;split
 .exact⟨show(1:Int).natAbs<=4 by decide,show(0:Int).natAbs<=4 by decide,show¬((1:Int)=0/\(0:Int)=0) by decide,h3⟩
 .rename_i h;exact⟨h1,h2,h,h3⟩
def lF(es:List Int)(a:Nat):aa×Nat:=(ji (pF es a).1.1 (pF es a).1.2 ((pF es a).1.1+1*(vF es (pF es a).2).1.1) ((pF es a).1.2+1*(vF es (pF es a).2).1.2),(vF es (pF es a).2).2)
def I2{es:List Int}{a:Nat}(ha:a<=es.length):LS (lF es a).1/\(lF es a).2<=es.length:=by
 obtain⟨h1,h2,h3⟩:=Dr ha;obtain⟨k1,k2,k3,k4⟩:=LU h3;exact⟨aI3 h1 h2 k1 k2 k3,k4⟩
theorem okG{p:Prop}(h:p:=by rw[hf]<;>rfl):p:=h
theorem okR{p:Prop}(h:p:=by rw[hf];show DV.v (.int .i64 _)=DV.v (.int .i64 _);rw[qS we]):p:=h
def nD{b:Nat}{es:List Int}(hes:es.length<=400){a:Nat}(ha:a<=es.length){n:Int}(hn:1<=n:=by decide)(hn2:n<=1000:=by decide):PM GB prog 16 (lg [none,some (.v (.int .i64 n))] b) b 46 [.sl (es.map vI), .v (.int .i64 (a:Nat))] (.v (.int .i64 ((au es n a).1:Nat))) [.sl (es.map vI), .v (.int .i64 ((au es n a).2:Nat))]:=by
 have hel:(es.map vI).length=es.length:=by simp
 refine Au func16 J J ntmps16 J J (fun C b m lo hmb=>?_);refine br J J J (fun hc15=>?_) (fun hc15=>?_)
 .
  have hf:au es n a=(0,a):=by unfold au;rw[dif_neg we]
  exact oo hmb J J okG okG
 .
  have hal:a<es.length:=by omega
  obtain⟨e,he⟩: ∃e,e=es[a]:=⟨_,rfl⟩;have q2:=Int.tmod_lt_of_pos e (show 0<n by omega);have q3: -n<Int.tmod e n:=by have:=Int.lt_tmod_of_pos e (show 0<n by omega);omega
  refine ix (fu:=⟨1⟩) _ J (aA8 hal) J<|aj 25 (.d (vI e)) J (by rw[he]<;>rfl)<|gx (hv:=by simp only[ak];exact⟨⟨we,omd⟩,we⟩) J<|br J J J (fun hc36=>?_) (fun hc36=>?_)
  .
   have hf:au es n a=((Int.tmod e n+n).toNat,a+1):=by unfold au;rw[dif_pos hal,<-he,if_pos hc36]
   exact oo hmb J J okR okG
  .
   have hf:au es n a=((Int.tmod e n).toNat,a+1):=by unfold au;rw[dif_pos hal,<-he,if_neg hc36]
   exact oo hmb J J okR okG
def RF{b:Nat}{es:List Int}(hes:es.length<=400){a:Nat}(ha:a<=es.length):PM GB prog 44 (lg [none] b) b 46 [.sl (es.map vI), .v (.int .i64 (a:Nat))] (eP (iP (pF es a).1.1 (pF es a).1.2)) [.sl (es.map vI), .v (.int .i64 ((pF es a).2:Nat))]:=by
 have h1:=c8 (es:=es) (n:=9) (a:=a);have h2:=c8 (es:=es) (n:=9) (a:=(au es 9 a).2);refine Au func44 J J ntmps44 J J (fun C b m lo hmb=>?_);refine cm J (fun b=>(nD (n:=9) hes ha)) J<|cm J (fun b=>(nD (n:=9) hes (im ha))) J<|cl J (jn (m:=((au es 9 a).1:Int)-4) (n:=((au es 9 (au es 9 a).2).1:Int)-4)) J<|?_;exact oo hmb J J J J
def Ww{b:Nat}{es:List Int}(hes:es.length<=400){a:Nat}(ha:a<=es.length):PM GB prog 46 (lg [none] b) b 46 [.sl (es.map vI), .v (.int .i64 (a:Nat))] (eP (iP (vF es a).1.1 (vF es a).1.2)) [.sl (es.map vI), .v (.int .i64 ((vF es a).2:Nat))]:=by
 obtain⟨hm,hn,ha1⟩:=Dr ha;refine Au func46 J J ntmps46 J J (fun C b m lo hmb=>?_);refine cm (fu:=⟨9⟩) J (fun b=>(RF hes ha)) J<|aj 7 (.d (eP (iP 0 0))) J (by rw[az3]<;>rfl)<|gx J<|cl J (azU (m:=(pF es a).1.1) (n:=(pF es a).1.2) (m':=0) (n':=0) we we oma oma) J<|bd J J J (fun hc8=>?_) (fun hc8=>?_)
 .
  have hf:vF es a=((1,0),(pF es a).2):=by unfold vF;rw[if_pos hc8]
  refine cl J (jn (m:=1) (n:=0) oma oma) J<|?_;exact oo hmb J J okG (by rw[hf])
 .
  have hf:vF es a=pF es a:=by unfold vF;rw[if_neg hc8]
  exact oo hmb J J okG (by rw[hf])
def aM5{b:Nat}{es:List Int}(hes:es.length<=400){a:Nat}(ha:a<=es.length):PM GB prog 18 (lg [none] b) b 46 [.sl (es.map vI), .v (.int .i64 (a:Nat))] (eL (lF es a).1) [.sl (es.map vI), .v (.int .i64 ((lF es a).2:Nat))]:=by
 obtain⟨hm,hn,ha1⟩:=Dr ha;obtain⟨hp,hq,hz,ha2⟩:=LU ha1;refine Au func18 J J ntmps18 J J (fun C b m lo hmb=>?_);refine cm J (fun b=>(RF hes ha)) J<|cl J (jh (n:=1)) J<|cm J (fun b=>(Ww hes ha1)) J<|cl J (FU (m:=(pF es a).1.1) (n:=(pF es a).1.2) (m':=(vF es (pF es a).2).1.1) (n':=(vF es (pF es a).2).1.2) (k:=1) we we we we) J<|cl J (axN (m:=(pF es a).1.1) (n:=(pF es a).1.2) (m':=(pF es a).1.1+1*(vF es (pF es a).2).1.1) (n':=(pF es a).1.2+1*(vF es (pF es a).2).1.2) we we we we we) J<|?_;exact oo hmb J J J J
def oC{p:Bool}:PF GB prog 19 [.v (.bool p)] (eT (.leaf p)):=by
 refine fn func19 J J ntmps19 J J (fun C=>?_);refine gw 5 J<|rz J J
abbrev ZP:=Int×Int
def ZP.q(p:ZP):ah:=iP p.1 p.2
def ZP.le(k:Nat)(p:ZP):Prop:=p.1.natAbs<=k/\p.2.natAbs<=k
def kt(p q:ZP):ZP:=(p.1+1*q.1,p.2+1*q.2)
def jd(u v:ZP):Int:=u.1*v.2-u.2*v.1
theorem aH0{m n p q:Int}(hm:m.natAbs<=1000)(hn:n.natAbs<=1000)(hp:p.natAbs<=1000)(hq:q.natAbs<=1000)(h: ¬(p=m/\q=n)):LB (ji m n p q)/\(ji m n p q).ok:=by
 have e1:(jl n q).natAbs<=2000:=by unfold jl;omega
 have e2:(jr m p).natAbs<=2000:=by unfold jr;omega
 have e3:=EF e1 hm;have e4:=EF e2 hn;have e5:(oD m n p q).natAbs<=4000000:=by unfold oD;omega
 unfold ji;obtain⟨k1,k2,k3⟩:=xo (jl n q) (jr m p) (oD m n p q);have hb:(2:Nat)^96=79228162514264337593543950336:=by decide
 refine⟨⟨⟨?_,?_,?_⟩⟩,LT ?_⟩
 .rw[hb];omega
 .rw[hb];omega
 .rw[hb];omega
 .unfold jl jr;omega
def ph(v w:ZP):bD:=⟨ji v.1 v.2 w.1 w.2,⟨iC (ji v.1 v.2 w.1 w.2) v.q,iC (ji v.1 v.2 w.1 w.2) w.q,false,false⟩⟩
def jy(r:List ZP)(i:Nat):ZP:=r.getD ((i+1)%r.length) (0,0)
def s9(r:List ZP):Nat->List bD
 |0=>[]
 |k+1=>s9 r k++[ph (r.getD k (0,0)) (jy r k)]
def wq(r:List ZP):List bD:=s9 r r.length
structure gE (r:List ZP):Prop where
 n3:3<=r.length
 n6:r.length<=6
 le: ∀p∈r,ZP.le 100 p
 ne: ∀i<r.length,r.getD i (0,0)≠jy r i
def Bm{r:List ZP}{i:Nat}(h:i<r.length:=by omega):r.getD i (0,0)∈r:=by
 rw[aV,aZ h];exact dQ h
def Gy{r:List ZP}{i:Nat}(h:i<r.length:=by omega):jy r i∈r:=Bm (dW _ we)
theorem O'{l:aa}(hl:LB l)(ho:l.ok){m n:Int}(hm:m.natAbs<=1000)(hn:n.natAbs<=1000):BQ (iC l (iP m n)) 1200:=by
 haveI:=m5 (k:=11) hm;haveI:=m5 (k:=11) hn;have hd:=DK ho.ne;have hA:BI (l.a*l.a+l.b*l.b) _:=inferInstance;have hB:BI (m*l.b-n*l.a) _:=inferInstance;have hA':=EP (j:=1200) hA;have hB':=EP (j:=1200) hB;have e1:l.dir.dot l.dir=((l.a*l.a+l.b*l.b:Int):Rat):=by
  rw[lS,bS,bS];simp only[aa.dir,ah.dot];grind
 have e2:(iP m n).dot l.dir=((m*l.b-n*l.a:Int):Rat):=by
  rw[iX,bS,bS];simp only[aa.dir,ah.dot,iP];grind
 have hd':((0:Int):Rat)<((l.a*l.a+l.b*l.b:Int):Rat):=by rw[<-e1];exact hd
 unfold iC;rw[e2,e1];clear hA hB e1 e2;generalize l.a*l.a+l.b*l.b=D at*;generalize m*l.b-n*l.a=M at*;have hD:0<D:=mY.1 hd';refine BQ.of_fracI (n:=M) (D:=D) we ?_ hB' hA';have h0:(D:Rat)≠0:=fun e=>by rw[e] at hd';exact absurd hd' oma
 have:((D.natAbs:Nat):Rat)=(D:Rat):=by
  have h1:((D.natAbs:Nat):Int)=D:=by omega
  rw[<-h1];rfl
 rw[this];grind
def aEf{v w:ZP}(hv:ZP.le 100 v)(hw:ZP.le 100 w)(h:v≠w):ml (ph v w):=by
 obtain⟨h1,h2⟩:=aH0 (m:=v.1) (n:=v.2) (p:=w.1) (q:=w.2) (by have:=hv.1;omega) (by have:=hv.2;omega) (by have:=hw.1;omega) (by have:=hw.2;omega) (fun e=>h (Prod.ext e.1.symm e.2.symm));exact⟨h1,h2,⟨fun e=>(by cases e),fun e=>(by cases e)⟩,O' h1 h2 (by have:=hv.1;omega) (by have:=hv.2;omega),O' h1 h2 (by have:=hw.1;omega) (by have:=hw.2;omega)⟩
def Vy{r:List ZP}(h:gE r): ∀{k:Nat},k<=r.length->(s9 r k).length=k/\ ∀f∈s9 r k,ml f
 |0,_=>⟨J,fun f hf=>by cases hf⟩
 |k+1,hk=>by
  obtain⟨h1,h2⟩:=Vy h (k:=k) we;rw[s9];refine⟨by simp[h1],fun f hf=>?_⟩;rcases bZ.1 hf with hf|hf
  .exact h2 f hf
  .rw[aT] at hf;subst hf
   exact aEf (h.le _ (Bm)) (h.le _ (Gy)) (h.ne k we)
def Fo{r:List ZP}(h:gE r):(wq r).length=r.length/\ ∀f∈wq r,ml f:=Vy h (bV _)
def qO(rs:List (List ZP)):List bD:=rs.flatMap wq
def Sd: ∀{rs:List (List ZP)},(∀r∈rs,gE r)->(qO rs).length<=6*rs.length/\ ∀f∈qO rs,ml f
 |[],_=>⟨bV _,fun f hf=>by cases hf⟩
 |r::rs,h=>by
  obtain⟨h1,h2⟩:=Sd (rs:=rs) fun q hq=>h q (aJ _ hq);obtain⟨k1,k2⟩:=Fo (h r aQ);have:=(h r aQ).n6;unfold qO at*;rw[gJ];refine⟨by rw[aY,k1,aS];omega,fun f hf=>?_⟩;rcases bZ.1 hf with hf|hf
  .exact k2 f hf
  .exact h2 f hf
def vp(a b c:ah):Int:=(ah.cross (cD b a (-1)) (cD c a (-1))).num.sign
def sH(v w p:ah):Int:=
 (if bE v.y p.y<=0/\ ¬bE w.y p.y<=0/\0<vp v w p then 1 else 0)-(if¬bE v.y p.y<=0/\bE w.y p.y<=0/\vp v w p<0 then 1 else 0)
def GQ(r:List ZP)(p:ah):Nat->Int
 |0=>0
 |k+1=>GQ r p k+sH (r.getD k (0,0)).q (jy r k).q p
def Qg(r:List ZP)(p:ah):Int:=GQ r p r.length
def vz(fill n:Int):Bool:=(decide (fill=1)&&decide (n.tmod 2≠0))||(decide (fill=2)&&decide (n≠0))
def vj(rs:List (List ZP))(fill:Int)(p:ah):Bool:=vz fill (rs.foldl (fun n r=>n+Qg r p) 0)
def rx(rs:List (List ZP))(fill:Int):Tr:=jD (vj rs fill) (qO rs).length (qO rs) []
def dd(rs:List (List ZP))(fill:Int):Tr:=(rx rs fill).restrict []
structure kh (k:Nat) (t:Tr):Prop where
 gd:t.gd
 dp:t.depth<=k
 am: ∃K:List aa,K.length<=k/\(∀l∈K,l.ok)/\dw K t
def Ex{acc:ah->Bool}{n:Nat}{l:List bD}(h: ∀f∈l,ml f)(hn:l.length=n):kh n (jD acc n l []):=
 ⟨⟨zh fun f hf=>(h f hf).lb,zh fun f hf=>(h f hf).ok⟩,Jc,l.map (·.l),by rw[aX,hn];exact bV _,fun m hm=>by
  obtain⟨f,hf,rfl⟩:=aU.1 hm;exact(h f hf).ok,zh fun f hf=>⟨f.l,dX hf, .inl rfl⟩⟩
def kh.restrict{k:Nat}{t:Tr}(h:kh k t)(c:ao):kh k (t.restrict c):=by
 obtain⟨K,h1,h2,h3⟩:=h.am;exact⟨Oc h.gd c,cX (t.restrict_depth c) h.dp,K,h1,h2,h3.restrict c⟩
def kh.compl{k:Nat}{t:Tr}(h:kh k t):kh k t.compl:=by
 obtain⟨K,h1,h2,h3⟩:=h.am;exact⟨Ms h.gd,by rw[t.compl_depth];exact h.dp,K,h1,h2,h3.compl⟩
def kh.mono{j k:Nat}{t:Tr}(h:kh j t)(hk:j<=k):kh k t:=by
 obtain⟨K,h1,h2,h3⟩:=h.am;exact⟨h.gd,cX h.dp hk,K,we,h2,h3⟩
def IQ{rs:List (List ZP)}{fill:Int}(h: ∀r∈rs,gE r)(hn:rs.length<=3):kh 18 (dd rs fill):=by
 obtain⟨h1,h2⟩:=Sd h;exact((Ex (acc:=vj rs fill) h2 J).restrict []).mono we
end Go.Sx
end
