import Derived.Test.YtliglnbeohlnnaaGreatDoorMq12
set_option linter.all false
set_option maxHeartbeats 2000000
set_option maxRecDepth 100000
section
namespace Go.Sx
open Go Go.Proofs Tryz
variable {op m side m' n' fill:Int}{a b k i j:Nat}{t u:Tr}{ai al ae:Addr}{L M K:List aa}{p:ah}{c:av}{f:bB}{es:List Int}
variable {GB:Gh}
structure EG (GB:Gh) (ai al ae:Addr):Prop where
 ErrInvalid:GB 0=some [.iface 395 (.pointer (some ai))]
 ErrLimit:GB 3=some [.iface 395 (.pointer (some al))]
structure Tr.gd (t:Tr):Prop where
 lb:t.all LB
 ok:t.all aa.ok
def Tr.restrict_size: ∀(t:Tr) (c:av),(t.restrict c).size<=t.size
 | .leaf _,_=>bJ _
 | .node l x y,c=>by
  rw[Tr.restrict];have hx:=fun c=>x.restrict_size c;have hy:=fun c=>y.restrict_size c;split
  .have:=hx c;simp only[Tr.size];omega
  .split
   .have:=hy c;simp only[Tr.size];omega
   .have h1:=hx (bE c l)
    have h2:=hy (bE c l.rev);rcases Tr.joinQ_cases l (x.restrict (bE c l)) (y.restrict (bE c l.rev)) with⟨h,_⟩|⟨h,_⟩<;>rw[h]<;>(try simp only[Tr.size])<;>omega
def Tr.compl_size: ∀t:Tr,t.compl.size=t.size
 | .leaf _=>rfl
 | .node l x y=>by simp only[Tr.compl,Tr.size,x.compl_size,y.compl_size]
def Tr.compl_all(p:aa->Prop): ∀t:Tr,t.all p->t.compl.all p
 | .leaf _,h=>h
 | .node l x y,⟨h0,h1,h2⟩=>⟨h0,x.compl_all p h1,y.compl_all p h2⟩
def Tr.compl_depth: ∀t:Tr,t.compl.depth=t.depth
 | .leaf _=>rfl
 | .node l x y=>by simp only[Tr.compl,Tr.depth,x.compl_depth,y.compl_depth]
def Tr.chooseQ_all(p:aa->Prop)(op:Int)(b:Bool)(t:Tr)(c:av)(h:t.all p):(t.chooseQ op b c).all p:=by
 have:=t.restrict_all p c h;unfold chooseQ;split
 .split
  .trivial
  .exact this
 .split
  .trivial
  .split
   .exact(t.restrict c).compl_all p this
   .exact this
def Tr.chooseQ_size(op:Int)(b:Bool)(t:Tr)(c:av):(t.chooseQ op b c).size<=t.size:=by
 have:=t.restrict_size c;unfold chooseQ;split
 .split
  .exact aS _
  .exact this
 .split
  .exact aS _
  .split
   .rw[(t.restrict c).compl_size];exact this
   .exact this
def Tr.mergeQ_all(p:aa->Prop)(op:Int){u:Tr}(hu:u.all p): ∀(t:Tr) (c:av),t.all p->(t.mergeQ op u c).all p
 | .leaf b,c,_=>u.chooseQ_all p op b c hu
 | .node l x y,c,⟨h0,h1,h2⟩=>by
  rw[Tr.mergeQ];split
  .exact Tr.mergeQ_all p op hu x c h1
  .split
   .exact Tr.mergeQ_all p op hu y c h2
   .rcases Tr.joinQ_cases l (x.mergeQ op u (bE c l)) (y.mergeQ op u (bE c l.rev)) with⟨h,_⟩|⟨h,_⟩
    .rw[h];exact Tr.mergeQ_all p op hu x _ h1
    .rw[h];exact⟨h0,Tr.mergeQ_all p op hu x _ h1,Tr.mergeQ_all p op hu y _ h2⟩
def Tr.mergeQ_size(op:Int)(u:Tr): ∀(t:Tr) (c:av),(t.mergeQ op u c).size+1<=(t.size+1)*(u.size+1)
 | .leaf b,c=>by
  have:=u.chooseQ_size op b c;show(u.chooseQ op b c).size+1<=(0+1)*(u.size+1);omega
 | .node l x y,c=>by
  have hx:=fun c=>Tr.mergeQ_size op u x c;have hy:=fun c=>Tr.mergeQ_size op u y c;have e:((Tr.node l x y).size+1)*(u.size+1)=(x.size+1)*(u.size+1)+(y.size+1)*(u.size+1):=by
   rw[<-dY];congr 1;simp only[Tr.size];omega
  rw[e,Tr.mergeQ];split
  .have:=hx c;omega
  .split
   .have:=hy c;omega
   .have h1:=hx (bE c l)
    have h2:=hy (bE c l.rev);rcases Tr.joinQ_cases l (x.mergeQ op u (bE c l)) (y.mergeQ op u (bE c l.rev)) with⟨h,_⟩|⟨h,_⟩<;>rw[h]<;>(try simp only[Tr.size])<;>omega
def Tr.depth_size: ∀t:Tr,t.depth<=t.size
 | .leaf _=>bJ _
 | .node l x y=>by
  have h1:=x.depth_size;have h2:=y.depth_size;simp only[Tr.depth,Tr.size];omega
def nI(op:Int)(a b:Tr):Option Tr:=if 1024<a.depth+b.depth then none else if 65536<(a.mergeQ op b []).size then none else some (a.mergeQ op b [])
def Ol(al:Addr):Option Tr->DV
 |some t=> .tp [eU t, .v .nilIface]
 |none=> .tp [.v (.pointer none),mc al]
def Z3{a b:Tr}(ha:a.gd)(hb:b.gd)(h:nI op a b=some t):t.gd/\t.size<=65536:=by
 unfold nI at h;split at h
 .cases h
 .split at h
  .cases h
  .cases h
   exact⟨⟨Tr.mergeQ_all LB op hb.lb a [] ha.lb,Tr.mergeQ_all aa.ok op hb.ok a [] ha.ok⟩,we⟩
def SU(hE:EG GB ai al ae){a b:Tr}(ha:a.gd)(hb:b.gd)(hsa:a.size<=65536)(hsb:b.size<=65536):PF GB prog 138 [vI op,eU a,eU b] (Ol al (nI op a b)):=by
 have hda:=a.depth_size;have hdb:=b.depth_size;have hms:=Tr.mergeQ_size op b a [];have hmm:(a.size+1)*(b.size+1)<=65537*65537:=fU we we;refine fn func138 J J ntmps138 J J (fun C=>?_);refine cl J (yB (t:=a) we) J<|cl J (yB (t:=b) we) J<|br J J J (fun hc14=>?_) (fun hc14=>?_)
 .
  refine gl J hE.ErrLimit J<|rz J (by unfold nI;rw[if_pos we];rfl)
 .
  refine cl J (Gq (op:=op) (t:=a) (u:=b) (c:=[]) hb.lb hb.ok ha.lb ha.ok (fun s h=>by cases h) (by simp only[fX];omega)) J<|cl J (Wu (t:=a.mergeQ op b []) we) J<|br J J J (fun hc22=>?_) (fun hc22=>?_)
  .
   refine gl J hE.ErrLimit J<|rz J (by unfold nI;rw[if_neg we,if_pos we];rfl)
  .
   exact rz J (by unfold nI;rw[if_neg we,if_neg we];rfl)
def XP(hE:EG GB ai al ae){a b:Tr}(ha:a.gd)(hb:b.gd)(hsa:a.size<=65536)(hsb:b.size<=65536)(h:nI op a b=some t):PF GB prog 138 [vI op,eU a,eU b] (.tp [eU t, .v .nilIface]):=by
 have:=SU hE (op:=op) ha hb hsa hsb;rw[h] at this;exact this
def aHN(hE:EG GB ai al ae){a b:Tr}(ha:a.gd)(hb:b.gd)(hsa:a.size<=65536)(hsb:b.size<=65536)(h:nI op a b=none):PF GB prog 138 [vI op,eU a,eU b] (.tp [.v (.pointer none),mc al]):=by
 have:=SU hE (op:=op) ha hb hsa hsb;rw[h] at this;exact this
def mE(op:Int):Tr->List Tr->Option Tr
 |t,[]=>some t
 |t,u::us=>match nI op t u with
  |none=>none
  |some r=>mE op r us
def Ng{us:List Tr}(h:us[k]? =some u):mE op t (us.drop k)=match nI op t u with|none=>none|some r=>mE op r (us.drop (k+1)):=by
 rw[yi h];rfl
def T4(h:t.gd)(c:av):(t.restrict c).gd:=⟨t.restrict_all LB c h.lb,t.restrict_all aa.ok c h.ok⟩
def aKq(hE:EG GB ai al ae){a:Tr}{us:List Tr}(ha:a.gd)(hsa:a.size<=65536)(hus: ∀u∈us,u.gd/\u.size<=65536)(hn:us.length<=1000000):PF GB prog 80 [vI op,eU a, .sl (us.map eU)] (Ol al (if 1024<a.depth then none else mE op (a.restrict []) us)):=by
 have hda:=a.depth_size;have hm:=nj eU us;have hrs:=a.restrict_size [];have hrg:=T4 ha [];refine fn func80 J J ntmps80 J J (fun C=>?_);refine cl J (yB (t:=a) we) J<|br J J J (fun hc14=>?_) (fun hc14=>?_)
 .
  refine gl J hE.ErrLimit J<|rz J (by rw[if_pos we];rfl)
 .
  refine cl (fu:=⟨8⟩) J (PA (t:=a) ha.lb ha.ok) J<|aj 19 (.d (vI (us.length:Nat))) J omn<|gx J<|lp (X:=Tr×Nat) (fun⟨t,k⟩=>[(20, .d (vI (k:Nat))),(8, .d (eU t))]) (fun⟨t,k⟩=>[]) (fun⟨t,k⟩=>k<=us.length/\t.gd/\t.size<=65536/\mE op t (us.drop k)=mE op (a.restrict []) us) (fun⟨t,k⟩=>us.length-k) (a.restrict [],0) J ⟨aS _,hrg,we,J⟩ (fun _=>J) (fun⟨t,k⟩ hk=>?_);dsimp only at hk⊢;obtain⟨h1,h2,h3,h4⟩:=hk;refine br J J J (fun hc21=>?_) (fun hc21=>?_)
  .
   obtain⟨u,hu0⟩: ∃s,us[k]? =some s:=⟨_,aQ we⟩;have hu:=hus u (aK hu0);refine ix _ J (ce hu0) J<|?_;rcases hr:nI op t u with _|r
   .
    refine cl J (aHN hE h2 hu.1 h3 hu.2 hr) J<|rz J (by rw[if_neg we,<-h4,Ng hu0,hr];rfl)
   .
    have hrr:=Z3 h2 hu.1 hr;refine cl J (XP hE h2 hu.1 h3 hu.2 hr) J<|at_ (r,k+1) (by dsimp only;exact⟨⟨we,hrr.1,hrr.2,by rw[<-h4,Ng hu0,hr]⟩,we⟩)
  .
   exact rz J (by rw[if_neg we,<-h4,iW we];rfl)
def tP:DV:= .ag [vI 0, .sl []]
def Xy(h:t.gd):t.compl.gd:=⟨t.compl_all LB h.lb,t.compl_all aa.ok h.ok⟩
abbrev Ff:=Int×List RN
def Ff.d(x:Ff):DV:=YN x.1 x.2
def aJz: ∀(us:List Tr),cI 1 (us.map eU):=fun us d hd=>by
 obtain⟨u,_,rfl⟩:=aU.1 hd;exact⟨rfl,rfl⟩
structure Ff.ok (x:Ff):Prop where
 s: ∀n∈x.2,n.g.sm
 n:x.2.length<=65536
def aD2(hE:EG GB ai al ae){a:Tr}{us:List Tr}(ha:a.gd)(hsa:a.size<=65536)(hus: ∀u∈us,u.gd/\u.size<=65536)(hn:us.length<=1000000)(h:(if 1024<a.depth then none else mE op (a.restrict []) us)=some t):PF GB prog 80 [vI op,eU a, .sl (us.map eU)] (.tp [eU t, .v .nilIface]):=by
 have:=aKq hE (op:=op) ha hsa hus hn;rw[h] at this;exact this
def Tr.val:Tr->ah->Bool
 | .leaf b,_=>b
 | .node l x y,p=>if 0<l.value p then x.val p else y.val p
def Tr.lns:Tr->List aa
 | .leaf _=>[]
 | .node l x y=>l::(x.lns++y.lns)
def uP{P:aa->Prop}: ∀{t:Tr},t.all P↔ ∀l∈t.lns,P l
 | .leaf _=>⟨fun _ l hl=>(by cases hl),fun _=>trivial⟩
 | .node l x y=>by
  show(P l/\x.all P/\y.all P)↔ ∀m∈l::(x.lns++y.lns),P m;rw[uP (t:=x),uP (t:=y)];constructor
  .rintro ⟨h0,h1,h2⟩ m hm
   rcases aW.1 hm with rfl|hm
   .exact h0
   .rcases bX.1 hm with hm|hm
    .exact h1 m hm
    .exact h2 m hm
  .intro h
   exact⟨h l aZ,fun m hm=>h m (aJ _ (bM _ hm)),fun m hm=>h m (aJ _ (bU _ hm))⟩
def wo(h:t.all aa.ok): ∀l∈t.lns,l.ok:=uP.1 h
def dP(L:List aa)(p:ah):Prop:= ∀l∈L,l.value p≠0
def dP.sub(h:dP L p)(k: ∀l∈M,l∈L):dP M p:=fun l hl=>h l (k l hl)
def dP.l{l:aa}{x y:Tr}{p:ah}(h:dP (Tr.node l x y).lns p):l.value p≠0:=h l aZ
def dP.x{l:aa}{x y:Tr}{p:ah}(h:dP (Tr.node l x y).lns p):dP x.lns p:=h.sub fun m hm=>aJ _ (bM _ hm)
def dP.y{l:aa}{x y:Tr}{p:ah}(h:dP (Tr.node l x y).lns p):dP y.lns p:=h.sub fun m hm=>aJ _ (bU _ hm)
def dP.app:dP (L++M) p↔dP L p/\dP M p:=by
 unfold dP;constructor
 .intro h;exact⟨fun l hl=>h l (bM _ hl),fun l hl=>h l (bU _ hl)⟩
 .rintro ⟨h1,h2⟩ l hl;rcases bX.1 hl with h|h;exact h1 l h;exact h2 l h
def vh(op:Int)(a b:Bool):Bool:=if op=1 then a||b else if op=2 then a&&b else if op=3 then a&&!b else a !=b
def Tr.val_join(l:aa)(X Y:Tr)(p:ah):(Tr.joinQ l X Y).val p=(Tr.node l X Y).val p:=by
 unfold Tr.joinQ;split
 .rename_i h
  cases X<;>cases Y<;>simp[Tr.isLeaf,Tr.code] at h
  subst h;simp[Tr.val]
 .rfl
def Tr.val_pos{l:aa}{x y:Tr}(h:0<l.value p):(Tr.node l x y).val p=x.val p:=by rw[Tr.val,if_pos h]
def Tr.val_neg{l:aa}{x y:Tr}(h: ¬0<l.value p):(Tr.node l x y).val p=y.val p:=by rw[Tr.val,if_neg h]
def Tr.val_compl: ∀(t:Tr) (p:ah),t.compl.val p=!t.val p
 | .leaf b,p=>rfl
 | .node l x y,p=>by
  rw[Tr.compl];by_cases h:0<l.value p
  .rw[Tr.val_pos h,Tr.val_pos h,x.val_compl]
  .rw[Tr.val_neg h,Tr.val_neg h,y.val_compl]
def UN{l:aa}(hc:bF c)(hl:l.ok)(hb:cx c l.rev=false)(hp:bA c p)(h0:l.value p≠0):0<l.value p:=by
 by_cases h:0<l.value p
 .exact h
 .exfalso
  have:cx c l.rev=true:=(qF hc hl.rev).2 ⟨p,hp,by rw[fA];grind⟩;rw[hb] at this;cases this
def MX{l:aa}(hc:bF c)(hl:l.ok)(hb:cx c l=false)(hp:bA c p): ¬0<l.value p:=fun h=>by
 have:cx c l=true:=(qF hc hl).2 ⟨p,hp,h⟩;rw[hb] at this;cases this
def Tr.val_restrict: ∀(t:Tr) (c:av) (p:ah),t.all aa.ok->bF c->bA c p->dP t.lns p->(t.restrict c).val p=t.val p
 | .leaf _,_,_,_,_,_,_=>rfl
 | .node l x y,c,p,⟨hl,hx,hy⟩,hc,hp,ho=>by
  cases hb:cx c l.rev with
  |false=>rw[Tr.restrict_A _ _ hb,x.val_restrict c p hx hc hp ho.x,Tr.val_pos (UN hc hl hb hp ho.l)]
  |true=>
   cases hb2:cx c l with
   |false=>rw[Tr.restrict_B _ _ hb hb2,y.val_restrict c p hy hc hp ho.y,Tr.val_neg (MX hc hl hb2 hp)]
   |true=>
    rw[Tr.restrict_C _ _ hb hb2,Tr.val_join];obtain⟨g1,i1⟩:=gO hc hl hb2;obtain⟨g2,i2⟩:=gO hc hl.rev hb;by_cases h:0<l.value p
    .rw[Tr.val_pos h,Tr.val_pos h,x.val_restrict _ p hx g1 ((i1 p).2 ⟨hp,h⟩) ho.x]
    .rw[Tr.val_neg h,Tr.val_neg h,y.val_restrict _ p hy g2 ((i2 p).2 ⟨hp,by rw[fA];have:=ho.l;grind⟩) ho.y]
def Tr.val_choose(op:Int)(b:Bool)(t:Tr)(c:av)(p:ah)(ht:t.all aa.ok)(hc:bF c)(hp:bA c p)(ho:dP t.lns p):(t.chooseQ op b c).val p=vh op b (t.val p):=by
 have hr:=t.val_restrict c p ht hc hp ho;unfold Tr.chooseQ vh;by_cases h1:op=1
 .subst h1;cases b<;>simp[hr,Tr.val]
 .by_cases h2:op=2
  .subst h2;cases b<;>simp[hr,Tr.val]
  .by_cases h3:op=3
   .subst h3;cases b<;>simp[hr,Tr.val,Tr.val_compl]
   .cases b<;>simp[h1,h2,h3,hr,Tr.val_compl]
def Tr.val_merge(op:Int)(u:Tr)(hu:u.all aa.ok): ∀(t:Tr) (c:av) (p:ah),t.all aa.ok->bF c->bA c p->dP t.lns p->dP u.lns p->(t.mergeQ op u c).val p=vh op (t.val p) (u.val p)
 | .leaf b,c,p,_,hc,hp,_,ho=>u.val_choose op b c p hu hc hp ho
 | .node l x y,c,p,⟨hl,hx,hy⟩,hc,hp,ho,hou=>by
  rw[Tr.mergeQ]
  cases hb:cx c l.rev with
  |false=>
   rw[if_pos (show(!false)=true from J),Tr.val_merge op u hu x c p hx hc hp ho.x hou,Tr.val_pos (UN hc hl hb hp ho.l)]
  |true=>
   rw[if_neg oma]
   cases hb2:cx c l with
   |false=>rw[if_pos (show(!false)=true from J),Tr.val_merge op u hu y c p hy hc hp ho.y hou,Tr.val_neg (MX hc hl hb2 hp)]
   |true=>
    rw[if_neg oma,Tr.val_join];obtain⟨g1,i1⟩:=gO hc hl hb2;obtain⟨g2,i2⟩:=gO hc hl.rev hb;by_cases h:0<l.value p
    .rw[Tr.val_pos h,Tr.val_pos h,Tr.val_merge op u hu x _ p hx g1 ((i1 p).2 ⟨hp,h⟩) ho.x hou]
    .rw[Tr.val_neg h,Tr.val_neg h,Tr.val_merge op u hu y _ p hy g2 ((i2 p).2 ⟨hp,by rw[fA];have:=ho.l;grind⟩) ho.y hou]
def Mc: ∀(L:List aa) (u:ah) (p:ah),dP L p-> ∃e:Rat,0<e/\ ∀d,0<=d->d<=e->dP L (de p u d)
 |[],u,p,_=>⟨1,oma,fun d _ _ l hl=>by cases hl⟩
 |l::L,u,p,h=>by
  obtain⟨e,he,hm⟩:=Mc L u p (h.sub fun m hm=>aJ _ hm);have h0:=h l aZ;have key: ∃f:Rat,0<f/\ ∀d,0<=d->d<=f->l.value (de p u d)≠0:=by
   by_cases hk:l.nor.dot u=0
   .exact⟨1,oma,fun d _ _=>by rw[jD,hk];grind⟩
   .generalize hA:l.value p=A at*
    generalize hB:l.nor.dot u=B at*;rcases kt A with h|h|h
    .exact absurd h h0
    .rcases kt B with k|k|k
     .exact absurd k hk
     .exact⟨1,oma,fun d hd _=>by rw[jD,hA,hB];have:=dh hd (dX k);grind⟩
     .refine⟨A/(-B)/2,?_,fun d hd h2=>?_⟩
      .have:0<A/(-B):=by
        have e1:A/(-B)*(-B)=A:=by grind
        exact(gh (k:= -B) omb).1 (by rw[e1];exact h)
       grind
      .rw[jD,hA,hB]
       have e1:A/(-B)*(-B)=A:=by grind
       generalize A/(-B)=q at*;have h4:=dh (a:=q/2-d) (b:= -B) omb omb;grind
    .rcases kt B with k|k|k
     .exact absurd k hk
     .refine⟨(-A)/B/2,?_,fun d hd h2=>?_⟩
      .have:0<(-A)/B:=by
        have e1:(-A)/B*B= -A:=by grind
        exact(gh (k:=B) k).1 (by rw[e1];grind)
       grind
      .rw[jD,hA,hB]
       have e1:(-A)/B*B= -A:=by grind
       generalize (-A)/B=q at*;have h4:=dh (a:=q/2-d) (b:=B) omb omb;grind
     .exact⟨1,oma,fun d hd _=>by rw[jD,hA,hB];have:=dh hd (b:= -B) omb;grind⟩
  obtain⟨f,hf,hk⟩:=key;refine⟨if e<=f then e else f,by split<;>assumption,fun d hd hde m hm'=>?_⟩;have h1:d<=e/\d<=f:=by split at hde<;>grind
  rcases aW.1 hm' with rfl|hm'
  .exact hk d hd h1.2
  .exact hm d hd h1.1 m hm'
theorem oze{p:Prop}(h:p:=by split<;>grind):p:=h
def TZ{c:av}{p:ah}(hp:bA c p): ∀(L:List aa),(∀l∈L,l.ok)-> ∃q,bA c q/\dP L q
 |[],_=>⟨p,hp,fun l hl=>by cases hl⟩
 |l::L,h=>by
  obtain⟨q,hq,ho⟩:=TZ hp L fun m hm=>h m (aJ _ hm);by_cases h0:l.value q=0
  .have hn:=nE (h l aZ).ne
   obtain⟨e,he,hm⟩:=hq.open l.nor;obtain⟨f,hf,hk⟩:=Mc L l.nor q ho;refine⟨de q l.nor (if e<=f then e else f),hm _ oze oze,fun m hm'=>?_⟩;rcases aW.1 hm' with rfl|hm'
   .rw[jD,h0]
    have:=dx (a:=if e<=f then e else f) (b:=m.nor.dot m.nor) (by split<;>assumption) hn;grind
   .exact hk _ oze oze m hm'
  .exact⟨q,hq,fun m hm=>by rcases aW.1 hm with rfl|hm;exact h0;exact ho m hm⟩
def Z6(hc:bF c)(L:List aa)(h: ∀l∈L,l.ok): ∃q,bA c q/\dP L q:=by
 obtain⟨p,hp⟩:=hc.ne;exact TZ hp L h
def Tr.Red:Tr->av->Prop
 | .leaf _,_=>True
 | .node l x y,c=>cx c l=true/\cx c l.rev=true/\x.Red (bE c l)/\y.Red (bE c l.rev)/\ ¬(x.isLeaf=true/\y.isLeaf=true/\x.code=y.code)
def Tr.red_leaf(h:t.isLeaf=true)(c:av):t.Red c:=by
 cases t with
 |leaf b=>trivial
 |node l x y=>cases h
def Tr.join_red{l:aa}{x y:Tr}(h1:cx c l=true)(h2:cx c l.rev=true)(hx:x.Red (bE c l))(hy:y.Red (bE c l.rev)):(Tr.joinQ l x y).Red c:=by
 rcases Tr.joinQ_cases l x y with⟨e,h⟩|⟨e,h⟩
 .rw[e];exact Tr.red_leaf h c
 .rw[e];exact⟨h1,h2,hx,hy,h⟩
def Tr.restrict_red: ∀(t:Tr) (c:av),(t.restrict c).Red c
 | .leaf _,_=>trivial
 | .node l x y,c=>by
  cases hb:cx c l.rev with
  |false=>rw[Tr.restrict_A _ _ hb];exact x.restrict_red c
  |true=>
   cases hb2:cx c l with
   |false=>rw[Tr.restrict_B _ _ hb hb2];exact y.restrict_red c
   |true=>rw[Tr.restrict_C _ _ hb hb2];exact Tr.join_red hb2 hb (x.restrict_red _) (y.restrict_red _)
def Tr.compl_leaf:t.compl.isLeaf=t.isLeaf:=by cases t<;>rfl
def Tr.compl_code(h:t.isLeaf=true):t.compl.code=!t.code:=by
 cases t with
 |leaf b=>rfl
 |node l x y=>cases h
def Tr.compl_red: ∀{t:Tr} {c:av},t.Red c->t.compl.Red c
 | .leaf _,_,_=>trivial
 | .node l x y,c,⟨h1,h2,h3,h4,h5⟩=>by
  refine⟨h1,h2,Tr.compl_red h3,Tr.compl_red h4,fun⟨a,b,e⟩=>?_⟩;rw[Tr.compl_leaf] at a b;rw[Tr.compl_code a,Tr.compl_code b] at e;exact h5 ⟨a,b,by simpa using e⟩
def Tr.choose_red(op:Int)(b:Bool)(t:Tr)(c:av):(t.chooseQ op b c).Red c:=by
 have h:=t.restrict_red c;unfold Tr.chooseQ;split
 .split
  .trivial
  .exact h
 .split
  .trivial
  .split
   .exact Tr.compl_red h
   .exact h
def Tr.merge_red(op:Int)(u:Tr): ∀(t:Tr) (c:av),(t.mergeQ op u c).Red c
 | .leaf b,c=>u.choose_red op b c
 | .node l x y,c=>by
  rw[Tr.mergeQ]
  cases hb:cx c l.rev with
  |false=>rw[if_pos (show(!false)=true from J)];exact Tr.merge_red op u x c
  |true=>
   rw[if_neg oma]
   cases hb2:cx c l with
   |false=>rw[if_pos (show(!false)=true from J)];exact Tr.merge_red op u y c
   |true=>rw[if_neg oma];exact Tr.join_red hb2 hb (Tr.merge_red op u x _) (Tr.merge_red op u y _)
def Tr.red_const{L:List aa}(hL: ∀l∈L,l.ok){v:Bool}: ∀{t:Tr} {c:av},t.Red c->t.all aa.ok->bF c->(∀p,bA c p->dP L p->t.val p=v)->t= .leaf v
 | .leaf b,c,_,_,hc,h=>by
  obtain⟨q,h1,h2⟩:=Z6 hc L hL;have:=h q h1 h2;rw[Tr.val] at this;rw[this]
 | .node l x y,c,⟨h1,h2,h3,h4,h5⟩,⟨hl,hx,hy⟩,hc,h=>by
  obtain⟨g1,i1⟩:=gO hc hl h1;obtain⟨g2,i2⟩:=gO hc hl.rev h2;have ex:=Tr.red_const hL (v:=v) h3 hx g1 (fun p hp ho=>by
   have k:=(i1 p).1 hp;rw[<-h p k.1 ho,Tr.val_pos k.2])
  have ey:=Tr.red_const hL (v:=v) h4 hy g2 (fun p hp ho=>by
   have k:=(i2 p).1 hp;rw[fA] at k;rw[<-h p k.1 ho,Tr.val_neg (by have:=k.2;grind)])
  subst ex;subst ey;exact absurd ⟨J,J,J⟩ h5
def UH(p:ah):bA [] p:=fun s hs=>(by cases hs)
def Tr.merge_leaf{a b:Tr}(ha:a.all aa.ok)(hb:b.all aa.ok)(hL: ∀l∈L,l.ok)(hLa: ∀l∈a.lns,l∈L)(hLb: ∀l∈b.lns,l∈L){v:Bool}:a.mergeQ op b []= .leaf v↔ ∀p,dP L p->vh op (a.val p) (b.val p)=v:=by
 constructor
 .intro h p hp
  rw[<-Tr.val_merge op b hb a [] p ha bF.nil (UH p) (hp.sub hLa) (hp.sub hLb),h];rfl
 .intro h
  refine Tr.red_const hL (Tr.merge_red op b a []) (Tr.mergeQ_all aa.ok op hb a [] ha) bF.nil (fun p _ hp=>?_);rw[Tr.val_merge op b hb a [] p ha bF.nil (UH p) (hp.sub hLa) (hp.sub hLb)];exact h p hp
def aa.same(l m:aa):Prop:=m=l\/m=l.rev
instance (l m:aa):Decidable (l.same m):=inferInstanceAs (Decidable (_\/_))
def Tr.cnt(l:aa):Tr->Nat
 | .leaf _=>0
 | .node m x y=>(if l.same m then 1 else 0)+(x.cnt l+y.cnt l)
def oG{l m:aa}(h:l.same m)(hp:l.value p=0):m.value p=0:=by
 rcases h with rfl|rfl
 .exact hp
 .rw[fA,hp];rfl
def Dh(l:aa)(c:av):Prop:= ∃p,bA c p/\l.value p=0
def Tr.cnt_zero{l:aa}: ∀{t:Tr} {c:av},t.Red c->t.all aa.ok->bF c-> ¬Dh l c->t.cnt l=0
 | .leaf _,_,_,_,_,_=>rfl
 | .node m x y,c,⟨h1,h2,h3,h4,_⟩,⟨hm,hx,hy⟩,hc,hn=>by
  obtain⟨g1,i1⟩:=gO hc hm h1;obtain⟨g2,i2⟩:=gO hc hm.rev h2;have e1:=Tr.cnt_zero (l:=l) h3 hx g1 (fun⟨p,hp,h0⟩=>hn ⟨p,((i1 p).1 hp).1,h0⟩);have e2:=Tr.cnt_zero (l:=l) h4 hy g2 (fun⟨p,hp,h0⟩=>hn ⟨p,((i2 p).1 hp).1,h0⟩);rw[Tr.cnt,e1,e2];by_cases hs:l.same m
  .exfalso
   -- m crosses the cell
   obtain⟨p,hp,k1⟩:=(qF hc hm).1 h1;obtain⟨q,hq,k2⟩:=(qF hc hm.rev).1 h2;rw[fA] at k2;generalize hA:m.value p=A at*;generalize hB:m.value q=B at*;have hAB:0<A-B:=by grind
   have e:A/(A-B)*(A-B)=A:=by grind
   generalize A/(A-B)=r at*;have r0:0<=r:=(iw hAB).1 (by rw[e];exact dX k1);have r1:r<=1:=by
    have:=(iw (s:=1-r) hAB).1 omb;grind
   have hz:=hp.seg hq r0 r1;have hv:m.value (kD p q r)=0:=by rw[lH,hA,hB];grind
   refine hn ⟨_,hz,?_⟩;rcases hs with rfl|rfl
   .exact hv
   .rw[fA] at hv;grind
  .rw[if_neg hs]
def rH(c:av)(p:ah):Bool:=c.all fun s=>decide (0<s.l.value p)
def so:rH c p=true↔bA c p:=by
 unfold rH bA;rw[dJ];simp
def ON(P:List ah)(l:aa)(t:Tr):Prop:=t.all fun m=>l.same m\/ ∀p,l.value p=0->m.value p=0->p∈P
def JO{α:Type}{p q r:α->Bool}: ∀(P:List α),(∀x∈P,q x=true->p x=true)->(∀x∈P,r x=true->p x=true)->(∀x∈P,¬(q x=true/\r x=true))->P.countP q+P.countP r<=P.countP p
 |[],_,_,_=>bJ _
 |x::P,h1,h2,h3=>by
  have ih:=JO (p:=p) (q:=q) (r:=r) P (fun y hy=>h1 y (aJ _ hy)) (fun y hy=>h2 y (aJ _ hy)) (fun y hy=>h3 y (aJ _ hy));have a:=h1 x aZ;have b:=h2 x aZ;have c:=h3 x aZ;rw[pZ,pZ,pZ]
  cases hq:q x<;>cases hr:r x<;>simp_all<;>omega
def QS{α:Type}{p q r:α->Bool}: ∀(P:List α),(∀x∈P,q x=true->p x=true)->(∀x∈P,r x=true->p x=true)->(∀x∈P,¬(q x=true/\r x=true))->(∃x∈P,p x=true/\q x=false/\r x=false)->P.countP q+P.countP r+1<=P.countP p
 |[],_,_,_,⟨x,hx,_⟩=>by cases hx
 |x::P,h1,h2,h3,h4=>by
  have i2:=JO (p:=p) (q:=q) (r:=r) P (fun y hy=>h1 y (aJ _ hy)) (fun y hy=>h2 y (aJ _ hy)) (fun y hy=>h3 y (aJ _ hy));have a:=h1 x aZ;have b:=h2 x aZ;have c:=h3 x aZ;rw[pZ,pZ,pZ];obtain⟨z,hz,k1,k2,k3⟩:=h4;rcases aW.1 hz with rfl|hz
  .simp only[k1,k2,k3];simp;omega
  .have ih:=QS (p:=p) (q:=q) (r:=r) P (fun y hy=>h1 y (aJ _ hy)) (fun y hy=>h2 y (aJ _ hy)) (fun y hy=>h3 y (aJ _ hy)) ⟨z,hz,k1,k2,k3⟩
   cases hq:q x<;>cases hr:r x<;>simp_all<;>omega
def Tr.cnt_le{l:aa}(hl:l.ok){P:List ah}: ∀{t:Tr} {c:av},t.Red c->t.all aa.ok->bF c->ON P l t->t.cnt l<=1+P.countP (rH c)
 | .leaf _,_,_,_,_,_=>aS _
 | .node m x y,c,⟨h1,h2,h3,h4,_⟩,⟨hm,hx,hy⟩,hc,⟨v0,v1,v2⟩=>by
  obtain⟨g1,i1⟩:=gO hc hm h1;obtain⟨g2,i2⟩:=gO hc hm.rev h2;have q1: ∀p∈P,rH (bE c m) p=true->rH c p=true:=fun p _ h=>so.2 ((i1 p).1 (so.1 h)).1;have q2: ∀p∈P,rH (bE c m.rev) p=true->rH c p=true:=fun p _ h=>so.2 ((i2 p).1 (so.1 h)).1;have q3: ∀p∈P,¬(rH (bE c m) p=true/\rH (bE c m.rev) p=true):=fun p _ ⟨a,b⟩=>by
   have a:=((i1 p).1 (so.1 a)).2;have b:=((i2 p).1 (so.1 b)).2;rw[fA] at b;grind
  have ct:=JO P q1 q2 q3;rw[Tr.cnt];by_cases hs:l.same m
  .have e1:=Tr.cnt_zero (l:=l) h3 hx g1 (fun⟨p,hp,h0⟩=>by have:=((i1 p).1 hp).2;rw[oG hs h0] at this;grind)
   have e2:=Tr.cnt_zero (l:=l) h4 hy g2 (fun⟨p,hp,h0⟩=>by have:=((i2 p).1 hp).2;rw[fA,oG hs h0] at this;grind);rw[e1,e2,if_pos hs];omega
  .rw[if_neg hs]
   have b1:=Tr.cnt_le hl h3 hx g1 v1;have b2:=Tr.cnt_le hl h4 hy g2 v2;by_cases w1:Dh l (bE c m)
   .by_cases w2:Dh l (bE c m.rev)
    .-- the crossing BJ in the cell
     obtain⟨p,hp,k1⟩:=w1;obtain⟨q,hq,k2⟩:=w2;obtain⟨hp,ap⟩:=(i1 p).1 hp;obtain⟨hq,aq⟩:=(i2 q).1 hq;rw[fA] at aq;generalize hA:m.value p=A at*;generalize hB:m.value q=B at*;have hAB:0<A-B:=by grind
     have e:A/(A-B)*(A-B)=A:=by grind
     generalize A/(A-B)=r at*;have r0:0<=r:=(iw hAB).1 (by rw[e];exact dX ap);have r1:r<=1:=by
      have:=(iw (s:=1-r) hAB).1 omb;grind
     have hz:=hp.seg hq r0 r1;have hv:m.value (kD p q r)=0:=by rw[lH,hA,hB];grind
     have hv2:l.value (kD p q r)=0:=by rw[lH,k1,k2];grind
     have hmem:kD p q r∈P:=by
      rcases v0 with h|h
      .exact absurd h hs
      .exact h _ hv2 hv
     have c3:=QS P q1 q2 q3 ⟨_,hmem,so.2 hz,by
      rw[<-kX,so,i1];rintro ⟨_,h⟩;rw[hv] at h;grind,by
      rw[<-kX,so,i2];rintro ⟨_,h⟩;rw[fA,hv] at h;grind⟩
     omega
    .rw[Tr.cnt_zero h4 hy g2 w2];omega
   .rw[Tr.cnt_zero h3 hx g1 w1];omega
def Q8(l:aa):l.rev.rev=l:=by cases l;simp[aa.rev]
def aa.same.symm{l m:aa}(h:l.same m):m.same l:=by
 rcases h with rfl|rfl
 .exact .inl J
 .exact .inr (Q8 l).symm
def aa.same.trans{l m n:aa}(h:l.same m)(k:m.same n):l.same n:=by
 rcases h with rfl|rfl
 .exact k
 .rcases k with rfl|rfl
  .exact .inr J
  .exact .inl (Q8 l)
def gi(K:List aa)(t:Tr):Prop:=t.all fun n=> ∃m∈K,m.same n
def yr(l m:aa):ah:=l.at (-(l.cutC m/l.cutK m))
def F'{l m:aa}(hl:l.ok)(hm:m.ok)(h1:l.value p=0)(h2:m.value p=0):l.same m\/p=yr l m:=by
 obtain⟨t,rfl⟩:=Bj hl.ne h1;rw[mG] at h2;by_cases hk:l.cutK m=0
 .left
  have hc:l.cutC m=0:=by rw[hk] at h2;grind
  rcases zq hm hl (fun s=>by rw[mG,hk,hc];grind) with h|h
  .exact .inl h
  .exact .inr h
 .right
  unfold yr;congr 1;grind
def gi.covers{K:List aa}(hK: ∀m∈K,m.ok){l:aa}(hl:l.ok): ∀{t:Tr},gi K t->ON (K.map (yr l)) l t
 | .leaf _,_=>trivial
 | .node n x y,⟨⟨m,hm,hs⟩,h1,h2⟩=>by
  refine⟨?_,gi.covers hK hl h1,gi.covers hK hl h2⟩;by_cases h:l.same n
  .exact .inl h
  .right
   intro p k1 k2;rcases F' hl (hK m hm) k1 (oG hs.symm k2) with h3|h3
   .exact absurd (h3.trans hs) h
   .rw[h3];exact fQ hm
def Kc(t:Tr):List aa->Nat
 |[]=>0
 |l::K=>t.cnt l+Kc t K
def Ks(n:aa):List aa->Nat
 |[]=>0
 |l::K=>(if l.same n then 1 else 0)+Ks n K
def O0{n:aa}{x y:Tr}: ∀K,Kc (.node n x y) K=Ks n K+(Kc x K+Kc y K)
 |[]=>rfl
 |l::K=>by
  have:=O0 (n:=n) (x:=x) (y:=y) K;show(Tr.node n x y).cnt l+Kc (.node n x y) K=_;rw[this,Tr.cnt];show _=(if l.same n then 1 else 0)+Ks n K+(x.cnt l+Kc x K+(y.cnt l+Kc y K));omega
def SA{n m:aa}(hs:m.same n): ∀{K:List aa},m∈K->1<=Ks n K
 |[],h=>by cases h
 |l::K,h=>by
  show 1<=(if l.same n then 1 else 0)+Ks n K;rcases aW.1 h with rfl|h
  .rw[if_pos hs];omega
  .have:=SA hs h;omega
def If{K:List aa}: ∀{t:Tr},gi K t->t.size<=Kc t K
 | .leaf _,_=>aS _
 | .node n x y,⟨⟨m,hm,hs⟩,h1,h2⟩=>by
  have a:=If h1;have b:=If h2;have c:=SA hs hm;rw[O0,Tr.size];omega
def PK{t:Tr}{B:Nat}: ∀{K:List aa},(∀l∈K,t.cnt l<=B)->Kc t K<=K.length*B
 |[],_=>aS _
 |l::K,h=>by
  have:=PK (t:=t) (B:=B) (K:=K) fun m hm=>h m (aJ _ hm);have:=h l aZ;show t.cnt l+Kc t K<=(K.length+1)*B;rw[gQ];omega
def Tr.size_le(hK: ∀m∈K,m.ok)(hr:t.Red c)(ht:t.all aa.ok)(hc:bF c)(h:gi K t):t.size<=K.length*(1+K.length):=by
 refine cN (If h) (PK fun l hl=>?_);refine cN (Tr.cnt_le (hK l hl) hr ht hc (h.covers hK (hK l hl))) ?_;have:=List.countP_le_length (p:=rH c) (l:=K.map (yr l));rw[aX] at this;omega
def aBb(h: ∀l∈t.lns,l∈K):gi K t:=uP.2 fun l hl=>⟨l,h l hl, .inl J⟩
def gi.restrict{K:List aa}{t:Tr}(h:gi K t)(c:av):gi K (t.restrict c):=t.restrict_all _ c h
def gi.compl{K:List aa}{t:Tr}(h:gi K t):gi K t.compl:=t.compl_all _ h
def gi.merge(h:gi K t)(hu:gi K u)(c:av):gi K (t.mergeQ op u c):=Tr.mergeQ_all _ op hu t c h
def awF{a b:Tr}(hd:a.depth+b.depth<=1024)(hs:(a.mergeQ op b []).size<=65536):nI op a b=some (a.mergeQ op b []):=by
 unfold nI;rw[if_neg we,if_neg we]
structure wz (L:List aa) (a b:Tr):Prop where
 oa:a.all aa.ok
 ob:b.all aa.ok
 ok: ∀l∈L,l.ok
 la: ∀l∈a.lns,l∈L
 lb: ∀l∈b.lns,l∈L
def wz.mk0{a b:Tr}(ha:a.all aa.ok)(hb:b.all aa.ok):wz (a.lns++b.lns) a b:=
 ⟨ha,hb,fun l hl=>(bX.1 hl).elim (wo ha l) (wo hb l),fun l hl=>bM _ hl,fun l hl=>bU _ hl⟩
def wz.leaf{L:List aa}{a b:Tr}(h:wz L a b){op:Int}{v:Bool}:a.mergeQ op b []= .leaf v↔ ∀p,dP L p->vh op (a.val p) (b.val p)=v:=Tr.merge_leaf h.oa h.ob h.ok h.la h.lb
def kI(x:Rat):List Rat->List Rat
 |[]=>[x]
 |u::t=>if u<x then u::kI x t else if u=x then u::t else x::u::t
def fP(l:List Rat):List Rat:=l.foldl (fun out x=>kI x out) []
def jd:List Rat->List Rat
 |a::b::t=>(a+b)/2::jd (b::t)
 |_=>[]
def cv:List Rat->List Rat
 |[]=>[0]
 |a::t=>(a-1)::(jd (a::t)++[(a::t).getLast omc+1])
def qO{x y:Rat}: ∀{l:List Rat},y∈kI x l↔y=x\/y∈l
 |[]=>by simp[kI]
 |u::t=>by
  rw[kI];split
  .rw[aW,qO (l:=t),aW];grind
  .split
   .rename_i h;subst h;simp
   .simp
def zh{x:Rat}: ∀{l:List Rat},l.Pairwise (· < ·)->(kI x l).Pairwise (· < ·)
 |[],_=>by simp[kI]
 |u::t,h=>by
  rw[bY] at h;rw[kI];split
  .rename_i hu
   rw[bY];refine⟨fun y hy=>?_,zh h.2⟩;rcases qO.1 hy with rfl|hy
   .exact hu
   .exact h.1 y hy
  .rename_i hu
   split
   .rw[bY];exact h
   .rename_i hn
    have hx:x<u:=by grind
    rw[bY,bY];refine⟨fun y hy=>?_,h⟩;rcases aW.1 hy with rfl|hy
    .exact hx
    .have:=h.1 y hy;grind
def MO{l:List Rat}: ∀{o:List Rat},o.Pairwise (· < ·)->(l.foldl (fun out x=>kI x out) o).Pairwise (· < ·)/\ ∀y,y∈l.foldl (fun out x=>kI x out) o↔y∈l\/y∈o:=by
 induction l with
 |nil=>intro o h;exact⟨h,fun y=>by simp⟩
 |cons x t ih=>
  intro o h;obtain⟨h1,h2⟩:=ih (zh (x:=x) h);refine⟨h1,fun y=>?_⟩;rw[iK,h2,qO,aW];grind
def yX(l:List Rat):(fP l).Pairwise (· < ·):=(MO (l:=l) List.Pairwise.nil).1
def pE{l:List Rat}{y:Rat}:y∈fP l↔y∈l:=by
 have:=(MO (l:=l) List.Pairwise.nil).2 y;simpa[fP] using this
def U7{g:Rat}: ∀{l:List Rat},l.Pairwise (· < ·)->g∈jd l->g∉l/\(∃a∈l,a<g)/\ ∃b∈l,g<b
 |[],_,h=>by cases h
 |[_],_,h=>by cases h
 |a::b::t,h,hg=>by
  rw[bY] at h;have hab:=h.1 b aZ;rw[jd] at hg;rcases aW.1 hg with rfl|hg
  .refine⟨fun hm=>?_,⟨a,aZ,omb⟩,b,aJ _ aZ,omb⟩
   rcases aW.1 hm with e|hm
   .grind
   .rcases aW.1 hm with e|hm
    .grind
    .have h2:=h.2
     rw[bY] at h2;have:=h2.1 _ hm;grind
  .obtain⟨k1,⟨c,hc,k2⟩,d,hd,k3⟩:=U7 h.2 hg
   refine⟨fun hm=>?_,⟨c,aJ _ hc,k2⟩,d,aJ _ hd,k3⟩;rcases aW.1 hm with e|hm
   .have:=h.1 c hc;grind
   .exact k1 hm
def KB: ∀{l:List Rat} (h:l.Pairwise (· < ·)) (hn:l≠[]),∀y∈l,y<=l.getLast hn
 |[a],_,_,y,hy=>by rw[aR] at hy;subst hy;exact iS
 |a::b::t,h,_,y,hy=>by
  rw[bY] at h;rw[List.getLast_cons omc];have ih:=KB h.2 omc;rcases aW.1 hy with rfl|hy
  .have:=h.1 b aZ
   have:=ih b aZ;grind
  .exact ih y hy
def Es{l:List Rat}(h:l.Pairwise (· < ·)){g:Rat}(hg:g∈cv l):g∉l:=by
 cases l with
 |nil=>simp
 |cons a t=>
  rw[cv] at hg;rcases aW.1 hg with rfl|hg
  .intro hm
   rcases aW.1 hm with e|hm
   .grind
   .rw[bY] at h;have:=h.1 _ hm;grind
  .rcases bX.1 hg with hg|hg
   .exact(U7 h hg).1
   .rw[aR] at hg
    intro hm;have:=KB h omc g hm;grind
def QU{v:Rat}: ∀{l:List Rat},l.Pairwise (· < ·)->v∉l->(∃a∈l,a<v)->(∃b∈l,v<b)-> ∃g∈jd l,∀u∈l,u<v↔u<g
 |[],_,_,⟨a,h,_⟩,_=>by cases h
 |[c],_,_,⟨a,h,h1⟩,⟨b,k,k1⟩=>by
  rw[aR] at h k;subst h;subst k;grind
 |c::d::t,h,hv,h1,h2=>by
  have h0:=h;rw[bY] at h;have hcd:=h.1 d aZ;have h3:=h.2;rw[bY] at h3;have hvc:c<v:=by
   obtain⟨a,ha,hav⟩:=h1;rcases aW.1 ha with rfl|ha
   .exact hav
   .have:=h.1 a ha;grind
  by_cases hd:v<d
  .refine⟨(c+d)/2,by rw[jd];exact aZ,fun u hu=>?_⟩
   rcases aW.1 hu with rfl|hu
   .constructor<;>intro _<;>grind
   .rcases aW.1 hu with rfl|hu
    .constructor<;>intro _<;>grind
    .have:=h3.1 u hu
     constructor<;>intro _<;>grind
  .have hdv:d<v:=by
    have:v≠d:=fun e=>hv (by rw[e];exact aJ _ aZ);grind
   obtain⟨b,hb,hvb⟩:=h2;have hb':b∈d::t:=by
    rcases aW.1 hb with rfl|hb
    .exfalso;grind
    .exact hb
   obtain⟨g,hg,hr⟩:=QU h.2 (fun e=>hv (aJ _ e)) ⟨d,aZ,hdv⟩ ⟨b,hb',hvb⟩;refine⟨g,by rw[jd];exact aJ _ hg,fun u hu=>?_⟩;rcases aW.1 hu with rfl|hu
   .have:=(hr d aZ).1 hdv
    constructor<;>intro _<;>grind
   .exact hr u hu
def Ti{v:Rat}{l:List Rat}(h:l.Pairwise (· < ·))(hv:v∉l): ∃g∈cv l,∀u∈l,u<v↔u<g:=by
 cases l with
 |nil=>exact⟨0,by simp[cv],fun u hu=>by cases hu⟩
 |cons a t=>
  by_cases h1: ∃c∈a::t,c<v
  .by_cases h2: ∃c∈a::t,v<c
   .obtain⟨g,hg,hr⟩:=QU h hv h1 h2
    exact⟨g,by rw[cv];exact aJ _ (bM _ hg),hr⟩
   .refine⟨(a::t).getLast omc+1,by rw[cv];exact aJ _ (bU _ (aR.2 J)),fun u hu=>?_⟩
    have k1:=KB h omc u hu;have k2: ¬v<u:=fun e=>h2 ⟨u,hu,e⟩;have k3:u≠v:=fun e=>hv (e▸hu);constructor<;>intro _<;>grind
  .refine⟨a-1,by rw[cv];exact aZ,fun u hu=>?_⟩
   have k1: ¬u<v:=fun e=>h1 ⟨u,hu,e⟩;have k2: ¬u<a-1:=by
    rcases aW.1 hu with rfl|hu
    .grind
    .rw[bY] at h;have:=h.1 u hu;grind
   constructor
   .intro e;exact absurd e k1
   .intro e;exact absurd e k2
def EV(A B:List Rat)(h: ∀a∈A,∀b∈B,a<b): ∃y,(∀a∈A,a<y)/\ ∀b∈B,y<b:=by
 -- the greatest of A and the least of B
 have hA: ∀(A:List Rat),A≠[]-> ∃m∈A,∀a∈A,a<=m:=by
  intro A
  induction A with
  |nil=>intro h;exact absurd rfl h
  |cons x t ih=>
   intro _;by_cases ht:t=[]
   .subst ht;exact⟨x,aZ,fun a ha=>by rw[aR] at ha;subst ha;exact iS⟩
   .obtain⟨m,hm,hm2⟩:=ih ht
    by_cases hx:m<=x
    .exact⟨x,aZ,fun a ha=>by rcases aW.1 ha with rfl|ha;exact iS;have:=hm2 a ha;grind⟩
    .exact⟨m,aJ _ hm,fun a ha=>by rcases aW.1 ha with rfl|ha;grind;exact hm2 a ha⟩
 have hB: ∀(A:List Rat),A≠[]-> ∃m∈A,∀a∈A,m<=a:=by
  intro A
  induction A with
  |nil=>intro h;exact absurd rfl h
  |cons x t ih=>
   intro _;by_cases ht:t=[]
   .subst ht;exact⟨x,aZ,fun a ha=>by rw[aR] at ha;subst ha;exact iS⟩
   .obtain⟨m,hm,hm2⟩:=ih ht
    by_cases hx:x<=m
    .exact⟨x,aZ,fun a ha=>by rcases aW.1 ha with rfl|ha;exact iS;have:=hm2 a ha;grind⟩
    .exact⟨m,aJ _ hm,fun a ha=>by rcases aW.1 ha with rfl|ha;grind;exact hm2 a ha⟩
 by_cases eA:A=[]
 .subst eA
  by_cases eB:B=[]
  .subst eB;exact⟨0,fun a ha=>(by cases ha),fun a ha=>(by cases ha)⟩
  .obtain⟨m,hm,hm2⟩:=hB B eB
   exact⟨m-1,fun a ha=>(by cases ha),fun b hb=>by have:=hm2 b hb;grind⟩
 .obtain⟨m,hm,hm2⟩:=hA A eA
  by_cases eB:B=[]
  .subst eB;exact⟨m+1,fun a ha=>by have:=hm2 a ha;grind,fun a ha=>(by cases ha)⟩
  .obtain⟨n,hn,hn2⟩:=hB B eB
   have hmn:=h m hm n hn;exact⟨(m+n)/2,fun a ha=>by have:=hm2 a ha;grind,fun b hb=>by have:=hn2 b hb;grind⟩
def d6:List aa->List Rat
 |[]=>[]
 |a::t=>(if a.b=0 then [a.base.x] else [])++(t.filterMap (fun b=>if crossI a b=0 then none else some (dw a b).x)++d6 t)
def yA(a:aa)(x:Rat):Rat:= -(((a.a:Rat)*x+(a.c:Rat))/(a.b:Rat))
def gw(l:List aa)(x:Rat):List Rat:=l.filterMap fun a=>if a.b=0 then none else some (yA a x)
def p7(l:List aa):List ah:=(cv (fP (d6 l))).flatMap fun x=>(cv (fP (gw l x))).map fun y=>⟨x,y⟩
def Az{a:aa}: ∀{l:List aa},a∈l->a.b=0->a.base.x∈d6 l
 |[],h,_=>by cases h
 |c::t,h,hb=>by
  rw[d6];rcases aW.1 h with rfl|h
  .rw[if_pos hb];exact bM _ aZ
  .exact bU _ (bU _ (Az h hb))
def Sk{a b:aa}: ∀{l:List aa},a∈l->b∈l->crossI a b≠0->(dw a b).x∈d6 l\/(dw b a).x∈d6 l
 |[],h,_,_=>by cases h
 |c::t,h,k,hx=>by
  have hx2:crossI b a≠0:=by unfold crossI at*;omega
  rw[d6];rcases aW.1 h with h1|h1
  .rcases aW.1 k with k1|k1
   .subst h1;subst k1;unfold crossI at hx;omega
   .subst h1;left
    exact bU _ (bM _ (gV.2 ⟨b,k1,by rw[if_neg hx]⟩))
  .rcases aW.1 k with k1|k1
   .subst k1;right
    exact bU _ (bM _ (gV.2 ⟨a,h1,by rw[if_neg hx2]⟩))
   .rcases Sk h1 k1 hx with h2|h2
    .exact .inl (bU _ (bU _ h2))
    .exact .inr (bU _ (bU _ h2))
def UW{a b:aa}(h:crossI a b≠0)(h1:a.value p=0)(h2:b.value p=0):p.x=(dw a b).x:=by
 have hd:((crossI a b:Int):Rat)≠0:=fun e=>h (cX.1 e);unfold dw;rw[if_neg h];show p.x=(meetX a b:Rat)/(crossI a b:Rat);have e1:=vO a b;have e2:=IF a b;rw[jy] at h1 h2;have e3:((crossI a b:Int):Rat)*p.x=(meetX a b:Rat):=by rw[e1,e2];grind
 grind
def V8{l:List aa}{a b:aa}(ha:a∈l)(hb:b∈l)(h:crossI a b≠0)(h1:a.value p=0)(h2:b.value p=0):p.x∈d6 l:=by
 have h':crossI b a≠0:=by unfold crossI at*;omega
 rcases Sk ha hb h with k|k
 .rw[UW h h1 h2];exact k
 .rw[UW h' h2 h1];exact k
def zV{a:aa}(h:a.b≠0)(x y:Rat):a.value ⟨x,y⟩=(a.b:Rat)*(y-yA a x):=by
 have hb:(a.b:Rat)≠0:=fun e=>h (cX.1 e);unfold yA;rw[jy];show(a.a:Rat)*x+(a.b:Rat)*y+(a.c:Rat)=_;grind
def Gm{a:aa}(hn:a.Ne)(h:a.b=0)(x y:Rat):a.value ⟨x,y⟩=(a.a:Rat)*(x-a.base.x):=by
 have ha:(a.a:Rat)≠0:=fun e=>hn ⟨cX.1 e,h⟩;obtain⟨q,hq,hb⟩:=Bd hn;rw[hb,jy];show(a.a:Rat)*x+(a.b:Rat)*y+(a.c:Rat)=(a.a:Rat)*(x-(a.a:Rat)*q);simp only[aa.nor,ah.dot] at hq;rw[h] at hq⊢;have:((0:Int):Rat)=0:=J;rw[this] at hq⊢;grind
def Hv{l:List aa}{a:aa}(h:a∈l)(hb:a.b≠0)(x:Rat):yA a x∈gw l x:=gV.2 ⟨a,h,by rw[if_neg hb]⟩
def M8{l:List aa}{x y:Rat}(h:y∈gw l x): ∃a∈l,a.b≠0/\y=yA a x:=by
 obtain⟨a,ha,e⟩:=gV.1 h;split at e
 .cases e
 .rename_i hb;cases e;exact⟨a,ha,hb,rfl⟩
def Hu{l:List aa}:p∈p7 l↔p.x∈cv (fP (d6 l))/\p.y∈cv (fP (gw l p.x)):=by
 unfold p7;rw[iR];constructor
 .rintro ⟨x,hx,hp⟩
  obtain⟨y,hy,rfl⟩:=aU.1 hp;exact⟨hx,hy⟩
 .rintro ⟨h1,h2⟩
  exact⟨p.x,h1,aU.2 ⟨p.y,h2,J⟩⟩
def Qb{l:List aa}(hok: ∀a∈l,a.Ne)(hp:p∈p7 l):dP l p:=by
 obtain⟨h1,h2⟩:=Hu.1 hp;have k1:=Es (yX _) h1;have k2:=Es (yX _) h2;rw[pE] at k1 k2;obtain⟨x,y⟩:=p;intro a ha h0;by_cases hb:a.b=0
 .rw[Gm (hok a ha) hb] at h0
  have ha0:(a.a:Rat)≠0:=fun e=>hok a ha ⟨cX.1 e,hb⟩;apply k1;have:x=a.base.x:=by
   rcases fJ.1 h0 with h|h
   .exact absurd h ha0
   .grind
  show x∈_;rw[this];exact Az ha hb
 .rw[zV hb] at h0
  have hb0:(a.b:Rat)≠0:=fun e=>hb (cX.1 e);apply k2;have:y=yA a x:=by
   rcases fJ.1 h0 with h|h
   .exact absurd h hb0
   .grind
  show y∈gw l x;rw[this];exact Hv ha hb x
def aK8(xs:List Rat)(a e:Rat)(he:0<e): ∃d,0<d/\d<=e/\a+d∉xs:=by
 induction xs generalizing e with
 |nil=>exact⟨e,he,iS,omc⟩
 |cons x t ih=>
  by_cases hx:a<x
  .obtain⟨d,h1,h2,h3⟩:=ih (if e<=(x-a)/2 then e else(x-a)/2) oze
   refine⟨d,h1,by split at h2<;>grind,fun hm=>?_⟩;rcases aW.1 hm with h|h
   .split at h2<;>grind
   .exact h3 h
  .obtain⟨d,h1,h2,h3⟩:=ih e he
   refine⟨d,h1,h2,fun hm=>?_⟩;rcases aW.1 hm with h|h
   .grind
   .exact h3 h
def vK(l:aa)(p:ah):aa:=if 0<l.value p then l else l.rev
def Y2{l:aa}(h:l.value p≠0):0<(vK l p).value p:=by
 unfold vK;split
 .assumption
 .rw[fA];grind
def auI{l:aa}{q:ah}(h:l.value p≠0)(k:0<(vK l p).value q):0<l.value p↔0<l.value q:=by
 unfold vK at k;split at k
 .rename_i h1;exact⟨fun _=>k,fun _=>h1⟩
 .rename_i h1;rw[fA] at k;constructor<;>intro _<;>grind
def shift{l:List aa}{q:ah}(ho:dP l q)(xs:List Rat): ∃q':ah,(∀a∈l,0<a.value q↔0<a.value q')/\dP l q'/\q'.x∉xs:=by
 have hD:bA (l.map fun a=>⟨vK a q,au.all⟩) q:=fun s hs=>by
  obtain⟨a,ha,rfl⟩:=aU.1 hs;exact Y2 (ho a ha)
 obtain⟨e,he,hm⟩:=hD.open ⟨1,0⟩;obtain⟨d,h1,h2,h3⟩:=aK8 xs q.x e he;have hd:=hm d (dX h1) h2;have key: ∀a∈l,0<(vK a q).value (de q ⟨1,0⟩ d):=fun a ha=>hd ⟨vK a q,au.all⟩ (aU.2 ⟨a,ha,J⟩);refine⟨de q ⟨1,0⟩ d,fun a ha=>auI (ho a ha) (key a ha),fun a ha h0=>?_,?_⟩
 .have:=key a ha
  unfold vK at this;split at this
  .grind
  .rw[fA] at this;grind
 .show q.x+d*1∉xs
  rw[show d*1=d by grind];exact h3
theorem ozw{p:Prop}(h:p:=by rw[e];grind):p:=h
def axW{l:List aa}(hok: ∀a∈l,a.Ne){q:ah}(ho:dP l q): ∃p∈p7 l,∀a∈l,0<a.value q↔0<a.value p:=by
 obtain⟨⟨qx,qy⟩,hs,ho2,hx⟩:=shift ho (d6 l);obtain⟨x0,hx0,hr⟩:=Ti (yX (d6 l)) (v:=qx) (by rw[pE];exact hx);have hx0':=Es (yX _) hx0;rw[pE] at hx0';have hr': ∀u∈d6 l,u<qx↔u<x0:=fun u hu=>hr u (pE.2 hu)
 -- the order on the vertical line is the same
 have order: ∀a∈l,∀b∈l,a.b≠0->b.b≠0->yA a qx<yA b qx->yA a x0<yA b x0:=by
  intro a ha b hb hab hbb hlt;by_cases hc:crossI a b=0
  .have e1:=vO a b
   rw[hc] at e1;have h0:((0:Int):Rat)=0:=J;rw[h0] at e1;have na:(a.b:Rat)≠0:=fun e=>hab (cX.1 e);have nb':(b.b:Rat)≠0:=fun e=>hbb (cX.1 e);have e2: ∀x,yA b x-yA a x=(a.c:Rat)/a.b-(b.c:Rat)/b.b:=fun x=>by
    unfold yA;grind
   have:=e2 qx;have:=e2 x0;grind
  .by_cases h:yA a x0<yA b x0
   .exact h
   .exfalso
    -- a crossing EV
    generalize hA:yA b qx-yA a qx=A;generalize hB:yA b x0-yA a x0=B;have hAB:0<A-B:=by grind
    have e:A/(A-B)*(A-B)=A:=by grind
    generalize hR:A/(A-B)=r at*;have r0:0<r:=(gh hAB).1 ozw;have r1:r<=1:=by
     have:=(iw (s:=1-r) hAB).1 omb;grind
    have na:(a.b:Rat)≠0:=fun e=>hab (cX.1 e);have nb':(b.b:Rat)≠0:=fun e=>hbb (cX.1 e);have lin: ∀c:aa,c.b≠0->yA c (qx+r*(x0-qx))=yA c qx+r*(yA c x0-yA c qx):=fun c hc=>by
     have:(c.b:Rat)≠0:=fun e=>hc (cX.1 e);unfold yA;grind
    have hz:yA a (qx+r*(x0-qx))=yA b (qx+r*(x0-qx)):=by
     rw[lin a hab,lin b hbb];grind
    generalize hzx:qx+r*(x0-qx)=z at*;have hm:z∈d6 l:=V8 (p:=⟨z,yA a z⟩) ha hb hc (by rw[zV hab];grind) (by rw[zV hbb,hz];grind);have hi:=hr' z hm;have hne:z≠x0:=fun e=>hx0' (e▸hm);have hne2:z≠qx:=fun e=>hx (e▸hm);rcases kt (x0-qx) with k|k|k
    .apply hne2;rw[<-hzx,k];grind
    .have p1:=dx r0 k
     have p2:=dh (a:=1-r) (b:=x0-qx) omb (dX k);have:z<x0:=by grind
     have:=hi.2 this;grind
    .have p1:=dx r0 (b:=qx-x0) omb
     have p2:=dh (a:=1-r) (b:=qx-x0) omb omb;have:z<qx:=by grind
     have:=hi.1 this;grind
 -- a height EV the lower and the upper lines
 obtain⟨y',hy1,hy2⟩:=EV ((l.filter fun(a:aa)=>decide (a.b≠0/\yA a qx<qy)).map fun(a:aa)=>yA a x0) ((l.filter fun(a:aa)=>decide (a.b≠0/\qy<yA a qx)).map fun(a:aa)=>yA a x0) (fun u hu v hv=>by
  obtain⟨a,ha,rfl⟩:=aU.1 hu;obtain⟨b,hb,rfl⟩:=aU.1 hv;simp only[nX,decide_eq_true_eq] at ha hb;exact order a ha.1 b hb.1 ha.2.1 hb.2.1 (by have:=ha.2.2;have:=hb.2.2;grind))
 have tri: ∀a∈l,a.b≠0->yA a qx<qy\/qy<yA a qx:=fun a ha hb=>by
  have h1:=ho2 a ha;rw[zV hb] at h1;have:qy≠yA a qx:=fun e=>h1 ozw;grind
 have low: ∀a∈l,a.b≠0->yA a qx<qy->yA a x0<y':=fun a ha hb h=>hy1 _ (aU.2 ⟨a,by simp only[nX,decide_eq_true_eq];exact⟨ha,hb,h⟩,J⟩);have upp: ∀a∈l,a.b≠0->qy<yA a qx->y'<yA a x0:=fun a ha hb h=>hy2 _ (aU.2 ⟨a,by simp only[nX,decide_eq_true_eq];exact⟨ha,hb,h⟩,J⟩);have hy':y'∉gw l x0:=fun hm=>by
  obtain⟨a,ha,hb,e⟩:=M8 hm;rcases tri a ha hb with h|h
  .have:=low a ha hb h;grind
  .have:=upp a ha hb h;grind
 obtain⟨y0,hy0,hry⟩:=Ti (yX (gw l x0)) (v:=y') (by rw[pE];exact hy');have hy0':=Es (yX _) hy0;rw[pE] at hy0';refine⟨⟨x0,y0⟩,Hu.2 ⟨hx0,hy0⟩,fun a ha=>?_⟩;rw[hs a ha];by_cases hb:a.b=0
 .rw[Gm (hok a ha) hb,Gm (hok a ha) hb]
  have hi:=hr' _ (Az ha hb);have n1:a.base.x≠qx:=fun e=>hx (e▸Az ha hb);have n2:a.base.x≠x0:=fun e=>hx0' (e▸Az ha hb);have ha0:(a.a:Rat)≠0:=fun e=>hok a ha ⟨cX.1 e,hb⟩;generalize a.base.x=u at*;generalize (a.a:Rat)=A at*;by_cases h1:u<qx
  .have h2:=hi.1 h1
   rw[gh (k:=qx-u) omb,gh (k:=x0-u) omb]
  .have h2: ¬u<x0:=fun e=>h1 (hi.2 e)
   have e1:A*(qx-u)=(-A)*(u-qx):=by grind
   have e2:A*(x0-u)=(-A)*(u-x0):=by grind
   rw[e1,e2,gh (k:=u-qx) omb,gh (k:=u-x0) omb]
 .rw[zV hb,zV hb]
  have hi:=hry (yA a x0) (pE.2 (Hv ha hb x0));have n2:yA a x0≠y0:=fun e=>hy0' (e▸Hv ha hb x0);have lo:=low a ha hb;have up:=upp a ha hb;have tri:=tri a ha hb;generalize yA a x0=v at*;generalize yA a qx=u at*;generalize (a.b:Rat)=B at*;rcases tri with h|h
  .have h3:=hi.1 (lo h)
   rw[gh (k:=qy-u) omb,gh (k:=y0-v) omb]
  .have h3:=up h
   have h4: ¬v<y0:=fun e=>by have:=hi.2 e;grind
   have e1:B*(qy-u)=(-B)*(u-qy):=by grind
   have e2:B*(y0-v)=(-B)*(v-y0):=by grind
   rw[e1,e2,gh (k:=u-qy) omb,gh (k:=v-y0) omb]
def pq(out:List Rat)(s:au):List Rat:=if s.nh then(if s.nl then out else kI s.lo out) else kI s.hi (if s.nl then out else kI s.lo out)
def ks(l:List au):List Rat:=l.foldl pq []
def vw:List au->Rat->Int
 |[],_=>0
 |s::t,x=>
  let a:=if s.nl then 1 else bw x s.lo
  let b:=if s.nh then-1 else bw x s.hi
  if 0<a/\b<0 then 2 else if(a=0/\b<=0)\/(b=0/\0<=a) then 1 else vw t x
def gy(l:List au)(x:Rat):Bool:=decide (vw l x=2)
def fq(cuts:List Rat)(i:Nat):au:=⟨if i=0 then 0 else cuts.getD (i-1) 0,if i<cuts.length then cuts.getD i 0 else 0,decide (i=0),decide (i=cuts.length)⟩
def vg(v w:au):au:=⟨v.lo,w.hi,v.nl,w.nh⟩
def il(cuts:List Rat)(marks:List Bool):Nat->List au
 |0=>[]
 |k+1=>
  let out:=il cuts marks k
  if marks.getD k false then
   (if 0<k/\marks.getD (k-1) false=true then(match out.getLast? with
    |some v=>out.dropLast++[vg v (fq cuts k)]
    |none=>out++[fq cuts k]) else out++[fq cuts k])
  else out
def wN(cuts:List Rat)(marks:List Bool):List au:=il cuts marks marks.length
def oB(op:Int)(x y:Bool):Bool:=if op=2 then x&&y else if op=3 then x&&!y else if op=4 then x !=y else x||y
def rF(op:Int)(a b:List au):List au:=wN (ks (a++b)) ((cv (ks (a++b))).map fun t=>oB op (gy a t) (gy b t))
def jo(l m:aa)(side:Int):List au:=
 if crossI l m=0 then(if(m.value l.base).num.sign=side then [au.all] else [])
 else if(m.value (l.at (ir l (dw l m)+1))).num.sign=side then [⟨ir l (dw l m),0,false,true⟩] else [⟨0,ir l (dw l m),true,false⟩]
def mP(l m:aa):Bool:=decide (crossI l m=0/\(m.value l.base).num.sign=0)
def fC(f:bB)(m:aa)(side:Int):List bB:=if mP f.l m then [] else(rF 2 [f.v] (jo f.l m side)).map fun v=>⟨f.l,v⟩
def Ul(l:List au):(ks l).Pairwise (· < ·)/\ ∀y∈ks l,∃s∈l,(s.nl=false/\y=s.lo)\/(s.nh=false/\y=s.hi):=by
 have key: ∀(l:List au) (o:List Rat),o.Pairwise (· < ·)->(l.foldl pq o).Pairwise (· < ·)/\ ∀y∈l.foldl pq o,y∈o\/ ∃s∈l,(s.nl=false/\y=s.lo)\/(s.nh=false/\y=s.hi):=by
  intro l
  induction l with
  |nil=>intro o h;exact⟨h,fun y hy=> .inl hy⟩
  |cons s t ih=>
   intro o h;have h1:(pq o s).Pairwise (· < ·)/\ ∀y∈pq o s,y∈o\/(s.nl=false/\y=s.lo)\/(s.nh=false/\y=s.hi):=by
    unfold pq
    cases e1:s.nl<;>cases e2:s.nh<;>simp only[if_true,lQ,if_false]
    .refine⟨zh (zh h),fun y hy=>?_⟩
     rcases qO.1 hy with h|h
     .exact .inr (.inr ⟨trivial,h⟩)
     .rcases qO.1 h with h|h
      .exact .inr (.inl ⟨trivial,h⟩)
      .exact .inl h
    .refine⟨zh h,fun y hy=>?_⟩
     rcases qO.1 hy with h|h
     .exact .inr (.inl ⟨trivial,h⟩)
     .exact .inl h
    .refine⟨zh h,fun y hy=>?_⟩
     rcases qO.1 hy with h|h
     .exact .inr (.inr ⟨trivial,h⟩)
     .exact .inl h
    .exact⟨h,fun y hy=> .inl hy⟩
   obtain⟨k1,k2⟩:=ih (pq o s) h1.1;refine⟨k1,fun y hy=>?_⟩;rcases k2 y hy with h2|⟨q,hq,h2⟩
   .rcases h1.2 y h2 with h3|h3
    .exact .inl h3
    .exact .inr ⟨s,aZ,h3⟩
   .exact .inr ⟨q,aJ _ hq,h2⟩
 have:=key l [] List.Pairwise.nil;refine⟨this.1,fun y hy=>?_⟩;rcases this.2 y hy with h|h
 .cases h
 .exact h
structure Iw (cuts:List Rat) (v:au):Prop where
 z:ik v
 lo:v.nl=true\/v.lo∈cuts
 hi:v.nh=true\/v.hi∈cuts
def V'{cuts:List Rat}(h:i<=cuts.length):Iw cuts (fq cuts i):=by
 unfold fq;refine⟨⟨fun e=>?_,fun e=>?_⟩,?_,?_⟩
 .simp only[decide_eq_true_eq] at e;simp[e]
 .simp only[decide_eq_true_eq] at e;simp[e]
 .by_cases h0:i=0
  .left;simp[h0]
  .right
   simp only[if_neg h0];rw[aV,aQ we];exact cR _
 .by_cases h0:i=cuts.length
  .left;simp[h0]
  .right
   simp only[if_pos (show i<cuts.length by omega)];rw[aV,aQ we];exact cR _
def Th{cuts:List Rat}{marks:List Bool}: ∀{k:Nat},k<=cuts.length+1-> ∀v∈il cuts marks k,Iw cuts v
 |0,_,v,hv=>by cases hv
 |k+1,hk,v,hv=>by
  have ih:=Th (cuts:=cuts) (marks:=marks) (k:=k) we;have hg:=V' (cuts:=cuts) (i:=k) we;rw[il] at hv;split at hv
  .split at hv
   .split at hv
    .rename_i w hw
     rcases bX.1 hv with h|h
     .exact ih v ((List.dropLast_sublist _).subset h)
     .rw[aR] at h;subst h
      have hw':=ih w (tW hw);exact⟨⟨hw'.z.1,hg.z.2⟩,hw'.lo,hg.hi⟩
    .rcases bX.1 hv with h|h
     .exact ih v h
     .rw[aR] at h;subst h;exact hg
   .rcases bX.1 hv with h|h
    .exact ih v h
    .rw[aR] at h;subst h;exact hg
  .exact ih v hv
def yy{l:List Rat}:(cv l).length=l.length+1:=by
 have key: ∀(l:List Rat) (a:Rat),(jd (a::l)).length=l.length:=by
  intro l
  induction l with
  |nil=>intro a;rfl
  |cons b t ih=>intro a;rw[jd,bZ,ih b,bZ]
 cases l with
 |nil=>rfl
 |cons a t=>rw[cv,bZ,aY,key];simp
def azU{a b:List au}: ∀v∈rF op a b,Iw (ks (a++b)) v:=fun v hv=>by
 unfold rF wN at hv;refine Th ?_ v hv;rw[aX,yy];omega
def Kj{cuts:List Rat}{marks:List Bool}: ∀{k:Nat},(il cuts marks k).length<=k
 |0=>bJ _
 |k+1=>by
  have ih:=Kj (cuts:=cuts) (marks:=marks) (k:=k);rw[il];split
  .split
   .split
    .rename_i w hw
     have:=List.length_pos_of_mem (tW hw);rw[aY,iM];simp;omega
    .rw[aY];simp;omega
   .rw[aY];simp;omega
  .omega
structure mj (f:bB):Prop where
 lb:LB f.l
 ok:f.l.ok
 z:ik f.v
 lo:BQ f.v.lo 1200
 hi:BQ f.v.hi 1200
theorem BQ.zero1200:BQ (0:Rat) 1200:=BQ.mono (k:=1) ⟨oma,oma⟩
def Kw{l m:aa}(hl:LB l)(hm:LB m)(hlo:l.ok): ∀v∈jo l m side,ik v/\BQ v.lo 1200/\BQ v.hi 1200:=fun v hv=>by
 unfold jo at hv;split at hv
 .split at hv
  .rw[aR] at hv;subst hv;exact⟨ik.all,BQ.zero1200,BQ.zero1200⟩
  .cases hv
 .rename_i hc
  have:=DS hlo.ne hc;split at hv
  .rw[aR] at hv;subst hv;exact⟨⟨fun h=>okZ,fun _=>J⟩,this,BQ.zero1200⟩
  .rw[aR] at hv;subst hv;exact⟨⟨fun _=>J,fun h=>okZ⟩,BQ.zero1200,this⟩
def HG{m:aa}(h:mj f)(hm:LB m): ∀g∈fC f m side,mj g/\g.l=f.l/\mP f.l m=false:=fun g hg=>by
 unfold fC at hg;split at hg
 .cases hg
 .rename_i ho
  obtain⟨v,hv,rfl⟩:=aU.1 hg;have hi:=azU v hv;have bd: ∀y∈ks ([f.v]++jo f.l m side),BQ y 1200:=fun y hy=>by
   obtain⟨s,hs,h1⟩:=(Ul _).2 y hy;rcases bX.1 hs with hs|hs
   .rw[aR] at hs;subst hs
    rcases h1 with⟨_,rfl⟩|⟨_,rfl⟩
    .exact h.lo
    .exact h.hi
   .have:=Kw h.lb hm h.ok s hs
    rcases h1 with⟨_,rfl⟩|⟨_,rfl⟩
    .exact this.2.1
    .exact this.2.2
  refine⟨⟨h.lb,h.ok,hi.z,?_,?_⟩,J,by simpa using ho⟩
  .rcases hi.lo with e|e
   .rw[hi.z.1 e];exact BQ.zero1200
   .exact bd _ e
  .rcases hi.hi with e|e
   .rw[hi.z.2 e];exact BQ.zero1200
   .exact bd _ e
def jv(acc:ah->Bool):Nat->List bB->List aa->Tr
 |_,[],c=> .leaf (acc (ki c c))
 |0,_::_,_=> .leaf false
 |n+1,f::t,c=> .node f.l (jv acc n ((f::t).flatMap fun g=>fC g f.l 1) (c++[f.l])) (jv acc n ((f::t).flatMap fun g=>fC g f.l (-1)) (c++[f.l.rev]))
def YU{g:bB}{m:aa}(h:g∈fC f m side):g.l=f.l:=by
 unfold fC at h;split at h
 .cases h
 .obtain⟨v,_,rfl⟩:=aU.1 h;rfl
def zr{acc:ah->Bool}{P:aa->Prop}: ∀{n:Nat} {l:List bB} {c:List aa},(∀f∈l,P f.l)->(jv acc n l c).all P
 |n,[],c,_=>by unfold jv;trivial
 |0,_::_,_,_=>by unfold jv;trivial
 |n+1,f::t,c,h=>by
  rw[jv];refine⟨h f aZ,zr fun g hg=>?_,zr fun g hg=>?_⟩<;>
  .obtain⟨q,hq,hg⟩:=iR.1 hg
   rw[YU hg];exact h q hq
def IE{acc:ah->Bool}: ∀{n:Nat} {l:List bB} {c:List aa},(jv acc n l c).depth<=n
 |n,[],c=>by unfold jv;exact aS _
 |0,_::_,_=>by unfold jv;exact aS _
 |n+1,f::t,c=>by
  rw[jv,Tr.depth];have h1:=IE (acc:=acc) (n:=n) (l:=(f::t).flatMap fun g=>fC g f.l 1) (c:=c++[f.l]);have h2:=IE (acc:=acc) (n:=n) (l:=(f::t).flatMap fun g=>fC g f.l (-1)) (c:=c++[f.l.rev]);omega
def ul(n:Nat)(l:List bB):Prop:= ∃K:List aa,K.length<=n/\ ∀f∈l,∃m∈K,m.same f.l
def aoX{m:aa}(hm:m.Ne):m.value m.base=0:=by
 have h:=mn hm 0;rw[<-yU,jD] at h;grind
def aAA{l m:aa}(h:l.same m)(hm:m.Ne):mP m l=true:=by
 unfold mP;rw[decide_eq_true_iff];refine⟨?_,?_⟩
 .rcases h with rfl|rfl
  .unfold crossI;omega
  .unfold crossI aa.rev
   show(-l.a)*l.b-l.a*(-l.b)=0;grind
 .rw[qg]
  exact oG h.symm (aoX hm)
def ul.split{n:Nat}{t:List bB}(h:ul (n+1) (f::t))(hok: ∀g∈f::t,mj g):ul n ((f::t).flatMap fun g=>fC g f.l side):=by
 obtain⟨K,hK,hs⟩:=h;refine⟨K.filter fun m=>!decide (m.same f.l),?_,fun g hg=>?_⟩
 .obtain⟨m,hm,hm2⟩:=hs f aZ
  have:(K.filter fun m=>!decide (m.same f.l)).length<K.length:=by
   refine List.length_filter_lt_length_iff_exists.2 ⟨m,hm,by simp[hm2]⟩
  omega
 .obtain⟨q,hq,hg⟩:=iR.1 hg
  obtain⟨_,e,ho⟩:=HG (hok q hq) (hok f aZ).lb g hg;obtain⟨m,hm,hm2⟩:=hs q hq;refine⟨m,nX.2 ⟨hm,?_⟩,by rw[e];exact hm2⟩;simp only[iT,decide_eq_false_iff_not];intro h;have:=aAA (h.symm.trans hm2) (hok q hq).ok.ne;rw[this] at ho;cases ho
def V9{p q r:Bool}{c:Nat}(h:Nat.gcd a b≠0):aa.ok ⟨zv p (a/Nat.gcd (Nat.gcd a b) c),zv q (b/Nat.gcd (Nat.gcd a b) c),zv r (c/Nat.gcd (Nat.gcd a b) c)⟩:=by
 have hg:0<Nat.gcd (Nat.gcd a b) c:=mJ _ (fZ h);have d0:Nat.gcd (Nat.gcd a b) c∣Nat.gcd a b:=lW _ _;have d1:Nat.gcd (Nat.gcd a b) c∣a:=rQ d0 (lW _ _);have d2:Nat.gcd (Nat.gcd a b) c∣b:=rQ d0 (mV _ _);have d3:Nat.gcd (Nat.gcd a b) c∣c:=mV _ _;refine⟨?_,?_⟩
 .rintro ⟨h1,h2⟩
  have h1':=congrArg Int.natAbs h1;have h2':=congrArg Int.natAbs h2;simp only[m7,lN] at h1' h2';have e1:=Nat.div_mul_cancel d1;have e2:=Nat.div_mul_cancel d2;rw[h1',kS] at e1;rw[h2',kS] at e2;exact h (by rw[<-e1,<-e2];rfl)
 .simp only[m7]
  rw[Nat.gcd_div d1 d2,Nat.gcd_div d0 d3,Nat.div_self hg]
def Js(p:Bool)(a g:Nat):(zv p (a/g)).natAbs<=a:=by rw[m7];exact mT ..
def PF.eq{P:Program}{f:FuncId}{vs:List DV}{r r':DV}(h:PF GB P f vs r)(e:r=r'):PF GB P f vs r':=e▸h
def iP(m n:Int):ah:=⟨(m:Rat),(n:Rat)⟩
theorem Jz(h:m.natAbs<2^k:=by omega):BI m k:=⟨rk h⟩
theorem ku(h:m.natAbs<=1000)(hk:10<=k:=by decide):BI m k:=⟨rk (cM (show m.natAbs<2^10 by omega) (cZ oma hk))⟩
instance aE.int (m n:Int) (i:Nat) [h:BI m i] [k:BI n i]:aE (iP m n) (i+1):=⟨inferInstanceAs (BQ (m:Rat) (i+1)),inferInstanceAs (BQ (n:Rat) (i+1))⟩
def wI{q:Rat}{k:Int}(h:q=(k:Rat)):eQ q=eQ (k:Rat):=by rw[h]
def ePI{n:Int}(h1:p.x=(m:Rat))(h2:p.y=(n:Rat)):eP p=eP (iP m n):=by
 obtain⟨x,y⟩:=p;simp only at h1 h2;subst h1 h2;rfl
def nH(a b c:Int):aa:=
 ⟨zv (decide (a<0)) (a.natAbs/Nat.gcd (Nat.gcd a.natAbs b.natAbs) c.natAbs),zv (decide (b<0)) (b.natAbs/Nat.gcd (Nat.gcd a.natAbs b.natAbs) c.natAbs),zv (decide (c<0)) (c.natAbs/Nat.gcd (Nat.gcd a.natAbs b.natAbs) c.natAbs)⟩
def Gz{a b c:Int}(h: ¬(a=0/\b=0)):(nH a b c).ok:=
 V9 fun e=>h ⟨jU.1 (kN e),jU.1 (kM e)⟩
def yH(a b c:Int):(nH a b c).a.natAbs<=a.natAbs/\(nH a b c).b.natAbs<=b.natAbs/\(nH a b c).c.natAbs<=c.natAbs:=⟨Js ..,Js ..,Js ..⟩
def f8{n:Int}(hm:m.natAbs<=1000:=by decide)(hn:n.natAbs<=1000:=by decide):PF GB prog 29 [.v (.int .i64 m), .v (.int .i64 n)] (eP (iP m n)):=by
 refine fn func29 J J ntmps29 J J (fun C=>?_);refine cl J (ju (n:=m) we we) J<|cl J (ju (n:=n) we we) J<|rz J J
def yl{n k:Int}(hm:m.natAbs<=1000)(hn:n.natAbs<=1000)(hm':m'.natAbs<=1000)(hn':n'.natAbs<=1000)(hk:k.natAbs<=1000:=by decide):PF GB prog 34 [eP (iP m n),eQ (k:Rat),eP (iP m' n')] (eP (iP (m+k*m') (n+k*n'))):=by
 haveI:=ku (k:=10) hm;haveI:=ku (k:=10) hn;haveI:=ku (k:=10) hm';haveI:=ku (k:=10) hn';haveI:=ku (k:=10) hk;exact PF.eq (Ai (p:=iP m n) (q:=iP m' n') (c:=(k:Rat))) (ePI (by show(m:Rat)+(k:Rat)*(m':Rat)=_;push_cast;rfl) (by show(n:Rat)+(k:Rat)*(n':Rat)=_;push_cast;rfl))
def aJ3{n:Int}(hm:m.natAbs<=1000)(hn:n.natAbs<=1000)(hm':m'.natAbs<=1000)(hn':n'.natAbs<=1000):PF GB prog 109 [eP (iP m n),eP (iP m' n')] (eP (iP (m-m') (n-n'))):=by
 refine fn func109 J J ntmps109 J J (fun C=>?_);refine cl J (ju (n:= -1)) J<|cl J (yl (m:=m) (n:=n) (m':=m') (n':=n') (k:= -1) hm hn hm' hn') J<|rz J (by rw[show m-m'=m+ -1*m' by omega,show n-n'=n+ -1*n' by omega];rfl)
def HV{n:Int}(hm:m.natAbs<=1000:=by omega)(hn:n.natAbs<=1000:=by omega)(hm':m'.natAbs<=1000:=by omega)(hn':n'.natAbs<=1000:=by omega):PF GB prog 36 [eP (iP m n),eP (iP m' n')] (.v (.bool (decide (m=m'/\n=n')))):=by
 haveI:=ku (k:=10) hm;haveI:=ku (k:=10) hn;haveI:=ku (k:=10) hm';haveI:=ku (k:=10) hn';refine fn func36 J J ntmps36 J J (fun C=>?_);refine cl J (jF (a:=(m:Rat)) (b:=(m':Rat))) J<|cs 11 J J J (fun hg11=>?_) (fun hg11=>?_)
 .
  refine cl J (jF (a:=(n:Rat)) (b:=(n':Rat))) J<|rz J (by rw[pz] at hg11;have e:m=m':=(by exact_mod_cast hg11);exact congrArg (fun z=>DV.v (.bool z)) (decide_eq_decide.2 (by rw[pz,mY];simp[e])))
 .
  exact rz J (by rw[pz] at hg11;have e: ¬m=m':=(fun e=>hg11 ozI);show DV.v (.bool false)=DV.v (.bool _);rw[decide_eq_false (fun h=>e h.1)])
def Sl(ha:a<k)(hb:b<k):Nat.gcd a b<k:=by
 rcases fL a with rfl|p
 .simpa using hb
 .exact dZ (Nat.gcd_le_left b p) ha
def L4{a b c:Int}(ha:BI a i)(hb:BI b i)(hc:BI c i)(hi:i<=100000000)(h0: ¬(a=0/\b=0)):PF GB prog 143 [eI a,eI b,eI c] (.tp [eL (nH a b c), .v (.bool true)]):=by
 have hgn:Nat.gcd a.natAbs b.natAbs≠0:=fun h=>h0 ⟨jU.1 (kN h),jU.1 (kM h)⟩;have hgp:0<Nat.gcd (Nat.gcd a.natAbs b.natAbs) c.natAbs:=mJ _ (fZ hgn);haveI hb1:BN (Nat.gcd a.natAbs b.natAbs) i:=⟨Sl ha.h hb.h⟩;haveI hb2:BN (Nat.gcd (Nat.gcd a.natAbs b.natAbs) c.natAbs) i:=⟨Sl hb1.h hc.h⟩;refine fn func143 J J ntmps143 J J (fun C=>?_);refine cl J (B9 (a:=a.natAbs) (b:=b.natAbs) we we) J<|br J J J (fun hc22=>?_) (fun hc22=>?_)
 .
  exact absurd hc22 (by rw[aX];intro h;exact hgn (qn.1 we))
 .
  refine cl J (B9 (a:=Nat.gcd a.natAbs b.natAbs) (b:=c.natAbs) we we) J<|cl J (zz (a:=a.natAbs) (b:=Nat.gcd (Nat.gcd a.natAbs b.natAbs) c.natAbs) hgp we we) J<|cl J (zz (a:=b.natAbs) (b:=Nat.gcd (Nat.gcd a.natAbs b.natAbs) c.natAbs) hgp we we) J<|cl J (zz (a:=c.natAbs) (b:=Nat.gcd (Nat.gcd a.natAbs b.natAbs) c.natAbs) hgp we we) J<|cl J (kj (m:=a.natAbs/(Nat.gcd (Nat.gcd a.natAbs b.natAbs) c.natAbs)) (neg:=decide (a<0))) J<|cl J (kj (m:=b.natAbs/(Nat.gcd (Nat.gcd a.natAbs b.natAbs) c.natAbs)) (neg:=decide (b<0))) J<|cl J (kj (m:=c.natAbs/(Nat.gcd (Nat.gcd a.natAbs b.natAbs) c.natAbs)) (neg:=decide (c<0))) J<|rz J J
def lD(n n':Int):Int:= -(n'-n)
def lO(m m':Int):Int:=m'-m
def tw(m n m' n':Int):Int:= -(lD n n'*m+lO m m'*n)
def nO(m n m' n':Int):aa:=nH (lD n n') (lO m m') (tw m n m' n')
def FT{a b:Int}(ha:a.natAbs<=2000)(hb:b.natAbs<=1000):(a*b).natAbs<=2000000:=by
 rw[eY];exact fU ha hb
def VT{n:Int}(hm:m.natAbs<=1000)(hn:n.natAbs<=1000)(hm':m'.natAbs<=1000)(hn':n'.natAbs<=1000)(h0: ¬(m=m'/\n=n')):PF GB prog 84 [eP (iP m n),eP (iP m' n')] (.tp [eL (nO m n m' n'), .v (.bool true)]):=by
 obtain⟨a,hA⟩: ∃a,a=lD n n':=⟨_,rfl⟩;obtain⟨b,hB⟩: ∃b,b=lO m m':=⟨_,rfl⟩;have hA':a= -(n'-n):=hA;have hB':b=m'-m:=hB;obtain⟨c,hC⟩: ∃c,c= -(a*m+b*n):=⟨_,rfl⟩;have e1:=FT (a:=a) (b:=m) we hm;have e2:=FT (a:=b) (b:=n) we hn;haveI hm0:=ku (k:=10) hm;haveI hn0:=ku (k:=10) hn;haveI ha:BI a 30:=Jz;haveI hb:BI b 30:=Jz;haveI hc:BI c 30:=Jz;have hthr:nO m n m' n'=nH a b c:=by rw[hC,hA,hB];rfl
 have hne: ¬(a=0/\b=0):=fun h=>h0 we;refine fn func84 J J ntmps84 J J (fun C=>?_);refine cl J (aJ3 (m:=m') (n:=n') (m':=m) (n':=n) hm' hn' hm hn) J<|cl J (PF.eq (tC (q:=(((n'-n):Int):Rat))) (wI (k:=a) (by rw[hA'];push_cast;rfl))) J<|cl J (PF.eq (gH (a:=(a:Rat)) (b:=(m:Rat))) (wI (k:=a*m) (by push_cast;rfl))) J<|cl J (PF.eq (by haveI:BI (m'-m) 30:=(by rw[<-hB'];exact hb);exact gH (a:=(((m'-m):Int):Rat)) (b:=(n:Rat))) (wI (k:=b*n) (by rw[hB'];push_cast;rfl))) J<|cl J (PF.eq (ng (a:=((a*m:Int):Rat)) (b:=((b*n:Int):Rat))) (wI (k:=a*m+b*n) (by push_cast;rfl))) J<|cl J (PF.eq (tC (q:=((a*m+b*n:Int):Rat))) (wI (k:=c) (by rw[hC];push_cast;rfl))) J<|cl J (jr (q:=(a:Rat))) J<|cl J (jr (q:=(((m'-m):Int):Rat))) J<|cl J (PF.eq (qp (a:=1) (b:=1)) J) J<|cl J (jr (q:=(c:Rat))) J<|cl J (PF.eq (qp (a:=1) (b:=1)) J) J<|cl (fu:=⟨1⟩) J (kj (neg:=false) (m:=1)) J<|aj 40 (.d (eQ ((1:Int):Rat))) J J<|gx J<|cl J (PF.eq (gH (a:=(a:Rat)) (b:=((1:Int):Rat))) (wI (k:=a) (by push_cast;grind))) J<|cl J (PF.eq (by haveI:BI (m'-m) 30:=(by rw[<-hB'];exact hb);exact gH (a:=(((m'-m):Int):Rat)) (b:=((1:Int):Rat))) (wI (k:=b) (by rw[hB'];push_cast;grind))) J<|cl J (PF.eq (gH (a:=(c:Rat)) (b:=((1:Int):Rat))) (wI (k:=c) (by push_cast;grind))) J<|cl J (L4 (a:=a) (b:=b) (c:=c) ha hb hc oma hne) J<|rz J (by rw[hthr];rfl)
def aAo(h:a<es.length):(es.map vI)[(a:Int).toNat]? =some (vI es[a]):=by simp[h]
def aAy:eP (iP 0 0)= .ag [.v (.bool false), .sl [], .sl [], .v (.bool false), .sl [], .sl []]:=by
 unfold eP iP;simp[nD,dD]
def Xu{n p q:Int}(hm:m.natAbs<=4)(hn:n.natAbs<=4)(hp:p.natAbs<=4)(hq:q.natAbs<=4)(h: ¬(p=0/\q=0)):LS (nO m n (m+1*p) (n+1*q)):=by
 have e1:lD n (n+1*q)= -q:=by unfold lD;omega
 have e2:lO m (m+1*p)=p:=by unfold lO;omega
 have e3:((-q)*m).natAbs<=4*4:=by rw[eY];exact fU we hm
 have e4:(p*n).natAbs<=4*4:=by rw[eY];exact fU hp hn
 have e5:tw m n (m+1*p) (n+1*q)= -((-q)*m+p*n):=by unfold tw;rw[e1,e2]
 unfold nO;obtain⟨k1,k2,k3⟩:=yH (lD n (n+1*q)) (lO m (m+1*p)) (tw m n (m+1*p) (n+1*q));exact⟨Gz (by rw[e1,e2];omega),cN k1 (by rw[e1];omega),cN k2 (by rw[e2];omega),cN k3 (by rw[e5];omega)⟩
def ao(es:List Int)(n:Int)(a:Nat):Nat×Nat:=
 if h:a<es.length then((if Int.tmod es[a] n<0 then Int.tmod es[a] n+n else Int.tmod es[a] n).toNat,a+1) else(0,a)
def e8{n:Int}(hn:1<=n:=by decide):((ao es n a).1:Int)<n:=by
 unfold ao;split
 .rename_i h
  have q2:=Int.tmod_lt_of_pos es[a] (show 0<n by omega);dsimp only;split<;>omega
 .exact hn
def fI{n:Int}(ha:a<=es.length):(ao es n a).2<=es.length:=by
 unfold ao;split
 .assumption
 .exact ha
def pF(es:List Int)(a:Nat):(Int×Int)×Nat:=((((ao es 9 a).1:Int)-4,((ao es 9 (ao es 9 a).2).1:Int)-4),(ao es 9 (ao es 9 a).2).2)
def ua(ha:a<=es.length):(pF es a).1.1.natAbs<=4/\(pF es a).1.2.natAbs<=4/\(pF es a).2<=es.length:=by
 have h1:=e8 (es:=es) (n:=9) (a:=a);have h2:=e8 (es:=es) (n:=9) (a:=(ao es 9 a).2);have h3:=fI (n:=9) (fI (es:=es) (n:=9) ha);unfold pF;exact⟨by dsimp only;omega,by dsimp only;omega,h3⟩
def vF(es:List Int)(a:Nat):(Int×Int)×Nat:=if(pF es a).1.1=0/\(pF es a).1.2=0 then((1,0),(pF es a).2) else pF es a
def xA(ha:a<=es.length):(vF es a).1.1.natAbs<=4/\(vF es a).1.2.natAbs<=4/\ ¬((vF es a).1.1=0/\(vF es a).1.2=0)/\(vF es a).2<=es.length:=by
 obtain⟨h1,h2,h3⟩:=ua ha;unfold vF;split
 .exact⟨show(1:Int).natAbs<=4 by decide,show(0:Int).natAbs<=4 by decide,show¬((1:Int)=0/\(0:Int)=0) by decide,h3⟩
 .rename_i h;exact⟨h1,h2,h,h3⟩
def lF(es:List Int)(a:Nat):aa×Nat:=(nO (pF es a).1.1 (pF es a).1.2 ((pF es a).1.1+1*(vF es (pF es a).2).1.1) ((pF es a).1.2+1*(vF es (pF es a).2).1.2),(vF es (pF es a).2).2)
def Q7(ha:a<=es.length):LS (lF es a).1/\(lF es a).2<=es.length:=by
 obtain⟨h1,h2,h3⟩:=ua ha;obtain⟨k1,k2,k3,k4⟩:=xA h3;exact⟨Xu h1 h2 k1 k2 k3,k4⟩
theorem okM{p:Prop}(h:p:=by rw[hf]<;>rfl):p:=h
theorem okY{p:Prop}(h:p:=by rw[hf];show DV.v (.int .i64 _)=DV.v (.int .i64 _);rw[qT we]):p:=h
def js(hes:es.length<=400)(ha:a<=es.length){n:Int}(hn:1<=n:=by decide)(hn2:n<=1000:=by decide):PM GB prog 8 (kw [none,some (.v (.int .i64 n))] b) b 76 [.sl (es.map vI), .v (.int .i64 (a:Nat))] (.v (.int .i64 ((ao es n a).1:Nat))) [.sl (es.map vI), .v (.int .i64 ((ao es n a).2:Nat))]:=by
 have hel:(es.map vI).length=es.length:=by simp
 refine vU func8 J J ntmps8 J J (fun C b m lo hmb=>?_);refine br J J J (fun hc15=>?_) (fun hc15=>?_)
 .
  have hf:ao es n a=(0,a):=by unfold ao;rw[dif_neg we]
  exact jn hmb J J okM okM
 .
  have hal:a<es.length:=by omega
  obtain⟨e,he⟩: ∃e,e=es[a]:=⟨_,rfl⟩;have q2:=Int.tmod_lt_of_pos e (show 0<n by omega);have q3: -n<Int.tmod e n:=by have:=Int.lt_tmod_of_pos e (show 0<n by omega);omega
  refine ix (fu:=⟨1⟩) _ J (aAo hal) J<|aj 25 (.d (vI e)) J (by rw[he]<;>rfl)<|gx (hv:=by simp only[ak];exact⟨⟨we,omd⟩,we⟩) J<|br J J J (fun hc36=>?_) (fun hc36=>?_)
  .
   have hf:ao es n a=((Int.tmod e n+n).toNat,a+1):=by unfold ao;rw[dif_pos hal,<-he,if_pos hc36]
   exact jn hmb J J okY okM
  .
   have hf:ao es n a=((Int.tmod e n).toNat,a+1):=by unfold ao;rw[dif_pos hal,<-he,if_neg hc36]
   exact jn hmb J J okY okM
def EQ(hes:es.length<=400)(ha:a<=es.length):PM GB prog 30 (kw [none] b) b 76 [.sl (es.map vI), .v (.int .i64 (a:Nat))] (eP (iP (pF es a).1.1 (pF es a).1.2)) [.sl (es.map vI), .v (.int .i64 ((pF es a).2:Nat))]:=by
 have h1:=e8 (es:=es) (n:=9) (a:=a);have h2:=e8 (es:=es) (n:=9) (a:=(ao es 9 a).2);refine vU func30 J J ntmps30 J J (fun C b m lo hmb=>?_);refine cm J (fun b=>(js (n:=9) hes ha)) J<|cm J (fun b=>(js (n:=9) hes (fI ha))) J<|cl J (f8 (m:=((ao es 9 a).1:Int)-4) (n:=((ao es 9 (ao es 9 a).2).1:Int)-4) we we) J<|?_;exact jn hmb J J J J
def JV(hes:es.length<=400)(ha:a<=es.length):PM GB prog 31 (kw [none] b) b 76 [.sl (es.map vI), .v (.int .i64 (a:Nat))] (eP (iP (vF es a).1.1 (vF es a).1.2)) [.sl (es.map vI), .v (.int .i64 ((vF es a).2:Nat))]:=by
 obtain⟨hm,hn,ha1⟩:=ua ha;refine vU func31 J J ntmps31 J J (fun C b m lo hmb=>?_);refine cm (fu:=⟨9⟩) J (fun b=>(EQ hes ha)) J<|aj 7 (.d (eP (iP 0 0))) J (by rw[aAy]<;>rfl)<|gx J<|cl J (HV (m:=(pF es a).1.1) (n:=(pF es a).1.2) (m':=0) (n':=0) we we oma oma) J<|bd J J J (fun hc8=>?_) (fun hc8=>?_)
 .
  have hf:vF es a=((1,0),(pF es a).2):=by unfold vF;rw[if_pos hc8]
  refine cl J (f8 (m:=1) (n:=0)) J<|?_;exact jn hmb J J okM (by rw[hf])
 .
  have hf:vF es a=pF es a:=by unfold vF;rw[if_neg hc8]
  exact jn hmb J J okM (by rw[hf])
def aNB(hes:es.length<=400)(ha:a<=es.length):PM GB prog 42 (kw [none] b) b 76 [.sl (es.map vI), .v (.int .i64 (a:Nat))] (eL (lF es a).1) [.sl (es.map vI), .v (.int .i64 ((lF es a).2:Nat))]:=by
 obtain⟨hm,hn,ha1⟩:=ua ha;obtain⟨hp,hq,hz,ha2⟩:=xA ha1;refine vU func42 J J ntmps42 J J (fun C b m lo hmb=>?_);refine cm J (fun b=>(EQ hes ha)) J<|cl J (ju (n:=1)) J<|cm J (fun b=>(JV hes ha1)) J<|cl J (yl (m:=(pF es a).1.1) (n:=(pF es a).1.2) (m':=(vF es (pF es a).2).1.1) (n':=(vF es (pF es a).2).1.2) (k:=1) we we we we) J<|cl J (VT (m:=(pF es a).1.1) (n:=(pF es a).1.2) (m':=(pF es a).1.1+1*(vF es (pF es a).2).1.1) (n':=(pF es a).1.2+1*(vF es (pF es a).2).1.2) we we we we we) J<|?_;exact jn hmb J J J J
def Ee{p:Bool}:PF GB prog 43 [.v (.bool p)] (eT (.leaf p)):=by
 refine fn func43 J J ntmps43 J J (fun C=>?_);refine gD 5 J<|rz J J
abbrev ZP:=Int×Int
variable {r:List ZP}
def ZP.q(p:ZP):ah:=iP p.1 p.2
def ZP.le(k:Nat)(p:ZP):Prop:=p.1.natAbs<=k/\p.2.natAbs<=k
def uN(p q:ZP):ZP:=(p.1+1*q.1,p.2+1*q.2)
def kA(u v:ZP):Int:=u.1*v.2-u.2*v.1
theorem aHE{n p q:Int}(hm:m.natAbs<=1000)(hn:n.natAbs<=1000)(hp:p.natAbs<=1000)(hq:q.natAbs<=1000)(h: ¬(p=m/\q=n)):LB (nO m n p q)/\(nO m n p q).ok:=by
 have e1:(lD n q).natAbs<=2000:=by unfold lD;omega
 have e2:(lO m p).natAbs<=2000:=by unfold lO;omega
 have e3:=FT e1 hm;have e4:=FT e2 hn;have e5:(tw m n p q).natAbs<=4000000:=by unfold tw;omega
 unfold nO;obtain⟨k1,k2,k3⟩:=yH (lD n q) (lO m p) (tw m n p q);have hb: ∀{a:Nat},a<=4000000->a<2^672:=fun h=>CN (m:=30) (k:=672) (show _<2^30 by omega);refine⟨⟨⟨hb we,hb we,hb we⟩⟩,Gz ?_⟩
 .unfold lD lO;omega
def Em(v w:ZP):bB:=⟨nO v.1 v.2 w.1 w.2,⟨ir (nO v.1 v.2 w.1 w.2) v.q,ir (nO v.1 v.2 w.1 w.2) w.q,false,false⟩⟩
def iv(r:List ZP)(i:Nat):ZP:=r.getD ((i+1)%r.length) (0,0)
def ur(r:List ZP):Nat->List bB
 |0=>[]
 |k+1=>ur r k++[Em (r.getD k (0,0)) (iv r k)]
def yL(r:List ZP):List bB:=ur r r.length
structure gk (r:List ZP):Prop where
 n3:3<=r.length
 n6:r.length<=6
 le: ∀p∈r,ZP.le 100 p
 ne: ∀i<r.length,r.getD i (0,0)≠iv r i
def An(h:i<r.length:=by omega):r.getD i (0,0)∈r:=by
 rw[aV,aQ h];exact cR h
def Ir(h:i<r.length:=by omega):iv r i∈r:=An (dK _ we)
theorem MM{l:aa}(hl:LB l)(ho:l.ok){n:Int}(hm:m.natAbs<=1000)(hn:n.natAbs<=1000):BQ (ir l (iP m n)) 1200:=by
 haveI:=ku (k:=11) hm;haveI:=ku (k:=11) hn;have hd:=BE ho.ne;have hA:BI (l.a*l.a+l.b*l.b) _:=inferInstance;have hB:BI (m*l.b-n*l.a) _:=inferInstance;have hA':=CY (j:=1200) hA;have hB':=CY (j:=1200) hB;have e1:l.dir.dot l.dir=((l.a*l.a+l.b*l.b:Int):Rat):=by
  rw[nJ,cS,cS];simp only[aa.dir,ah.dot];grind
 have e2:(iP m n).dot l.dir=((m*l.b-n*l.a:Int):Rat):=by
  rw[jM,cS,cS];simp only[aa.dir,ah.dot,iP];grind
 have hd':((0:Int):Rat)<((l.a*l.a+l.b*l.b:Int):Rat):=by rw[<-e1];exact hd
 unfold ir;rw[e2,e1];clear hA hB e1 e2;generalize l.a*l.a+l.b*l.b=D at*;generalize m*l.b-n*l.a=M at*;have hD:0<D:=Rat.intCast_lt_intCast.1 hd';refine BQ.of_fracI (n:=M) (D:=D) we ?_ hB' hA';have h0:(D:Rat)≠0:=fun e=>by rw[e] at hd';exact absurd hd' oma
 have:((D.natAbs:Nat):Rat)=(D:Rat):=by
  have h1:((D.natAbs:Nat):Int)=D:=by omega
  rw[<-h1];rfl
 rw[this];grind
def aGc{v w:ZP}(hv:ZP.le 100 v)(hw:ZP.le 100 w)(h:v≠w):mj (Em v w):=by
 obtain⟨h1,h2⟩:=aHE (m:=v.1) (n:=v.2) (p:=w.1) (q:=w.2) (by have:=hv.1;omega) (by have:=hv.2;omega) (by have:=hw.1;omega) (by have:=hw.2;omega) (fun e=>h (Prod.ext e.1.symm e.2.symm));exact⟨h1,h2,⟨fun e=>(by cases e),fun e=>(by cases e)⟩,MM h1 h2 (by have:=hv.1;omega) (by have:=hv.2;omega),MM h1 h2 (by have:=hw.1;omega) (by have:=hw.2;omega)⟩
def OL{r:List ZP}(h:gk r): ∀{k:Nat},k<=r.length->(ur r k).length=k/\ ∀f∈ur r k,mj f
 |0,_=>⟨J,fun f hf=>by cases hf⟩
 |k+1,hk=>by
  obtain⟨h1,h2⟩:=OL h (k:=k) we;rw[ur];refine⟨by simp[h1],fun f hf=>?_⟩;rcases bX.1 hf with hf|hf
  .exact h2 f hf
  .rw[aR] at hf;subst hf
   exact aGc (h.le _ (An)) (h.le _ (Ir)) (h.ne k we)
def HR(h:gk r):(yL r).length=r.length/\ ∀f∈yL r,mj f:=OL h (bJ _)
def tG(rs:List (List ZP)):List bB:=rs.flatMap yL
def UZ: ∀{rs:List (List ZP)},(∀r∈rs,gk r)->(tG rs).length<=6*rs.length/\ ∀f∈tG rs,mj f
 |[],_=>⟨bJ _,fun f hf=>by cases hf⟩
 |r::rs,h=>by
  obtain⟨h1,h2⟩:=UZ (rs:=rs) fun q hq=>h q (aJ _ hq);obtain⟨k1,k2⟩:=HR (h r aZ);have:=(h r aZ).n6;unfold tG at*;rw[kJ];refine⟨by rw[aY,k1,bZ];omega,fun f hf=>?_⟩;rcases bX.1 hf with hf|hf
  .exact k2 f hf
  .exact h2 f hf
def qB(a b c:ah):Int:=(ah.cross (de b a (-1)) (de c a (-1))).num.sign
def tA(v w p:ah):Int:=
 (if bw v.y p.y<=0/\ ¬bw w.y p.y<=0/\0<qB v w p then 1 else 0)-(if¬bw v.y p.y<=0/\bw w.y p.y<=0/\qB v w p<0 then 1 else 0)
def D3(r:List ZP)(p:ah):Nat->Int
 |0=>0
 |k+1=>D3 r p k+tA (r.getD k (0,0)).q (iv r k).q p
def U4(r:List ZP)(p:ah):Int:=D3 r p r.length
def vT(fill n:Int):Bool:=(decide (fill=1)&&decide (n.tmod 2≠0))||(decide (fill=2)&&decide (n≠0))
def vM(rs:List (List ZP))(fill:Int)(p:ah):Bool:=vT fill (rs.foldl (fun n r=>n+U4 r p) 0)
def ux(rs:List (List ZP))(fill:Int):Tr:=jv (vM rs fill) (tG rs).length (tG rs) []
def fm(rs:List (List ZP))(fill:Int):Tr:=(ux rs fill).restrict []
structure jz (k:Nat) (t:Tr):Prop where
 gd:t.gd
 dp:t.depth<=k
 am: ∃K:List aa,K.length<=k/\(∀l∈K,l.ok)/\gi K t
def DF{acc:ah->Bool}{n:Nat}{l:List bB}(h: ∀f∈l,mj f)(hn:l.length=n):jz n (jv acc n l []):=
 ⟨⟨zr fun f hf=>(h f hf).lb,zr fun f hf=>(h f hf).ok⟩,IE,l.map (·.l),by rw[aX,hn];exact bJ _,fun m hm=>by
  obtain⟨f,hf,rfl⟩:=aU.1 hm;exact(h f hf).ok,zr fun f hf=>⟨f.l,fQ hf, .inl rfl⟩⟩
def jz.restrict{k:Nat}{t:Tr}(h:jz k t)(c:av):jz k (t.restrict c):=by
 obtain⟨K,h1,h2,h3⟩:=h.am;exact⟨T4 h.gd c,cN (t.restrict_depth c) h.dp,K,h1,h2,h3.restrict c⟩
def jz.compl{k:Nat}{t:Tr}(h:jz k t):jz k t.compl:=by
 obtain⟨K,h1,h2,h3⟩:=h.am;exact⟨Xy h.gd,by rw[t.compl_depth];exact h.dp,K,h1,h2,h3.compl⟩
def jz.mono(h:jz j t)(hk:j<=k):jz k t:=by
 obtain⟨K,h1,h2,h3⟩:=h.am;exact⟨h.gd,cN h.dp hk,K,we,h2,h3⟩
def JE{rs:List (List ZP)}(h: ∀r∈rs,gk r)(hn:rs.length<=3):jz 18 (fm rs fill):=by
 obtain⟨h1,h2⟩:=UZ h;exact((DF (acc:=vM rs fill) h2 J).restrict []).mono we
end Go.Sx
end
