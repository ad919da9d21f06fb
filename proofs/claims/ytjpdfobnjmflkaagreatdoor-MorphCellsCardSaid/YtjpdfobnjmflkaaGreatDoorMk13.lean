import Derived.Test.YtjpdfobnjmflkaaGreatDoorMk12
set_option linter.all false
set_option maxHeartbeats 2000000
set_option maxRecDepth 100000
section
namespace Go.Sx
open Go Go.Proofs Tryz
variable {op m side m' n' fill:Int}{a b k i j:Nat}{t u:Tr}{ai al ae:Addr}{L M K:List aa}{p:ah}{c:ao}{f:bA}{es:List Int}
variable {GB:Gh}
structure EG (GB:Gh) (ai al ae:Addr):Prop where
 ErrInvalid:GB 1=some [.iface 433 (.pointer (some ai))]
 ErrLimit:GB 2=some [.iface 433 (.pointer (some al))]
structure D0 (GB:Gh) (ai al ae:Addr):Prop extends EG GB ai al ae where
 ErrEmpty:GB 0=some [.iface 433 (.pointer (some ae))]
structure Tr.gd (t:Tr):Prop where
 lb:t.all LB
 ok:t.all aa.ok
def Tr.restrict_size: ∀(t:Tr) (c:ao),(t.restrict c).size<=t.size
 | .leaf _,_=>bW _
 | .node l x y,c=>by
  rw[Tr.restrict];have hx:=fun c=>x.restrict_size c;have hy:=fun c=>y.restrict_size c;split
  .have:=hx c;simp only[Tr.size];omega
  .split
   .have:=hy c;simp only[Tr.size];omega
   .have h1:=hx (bE c l)
    have h2:=hy (bE c l.rev);rcases Tr.joinQ_cases l (x.restrict (bE c l)) (y.restrict (bE c l.rev)) with⟨h,_⟩|⟨h,_⟩<;>rw[h]<;>(try simp only[Tr.size])<;>omega
def Tr.compl_size: ∀t:Tr,t.compl.size=t.size
 | .leaf _=>rfl
 | .node l x y=>by simp only[Tr.compl,Tr.size,x.compl_size,y.compl_size]
def Tr.compl_all(p:aa->Prop): ∀t:Tr,t.all p->t.compl.all p
 | .leaf _,h=>h
 | .node l x y,⟨h0,h1,h2⟩=>⟨h0,x.compl_all p h1,y.compl_all p h2⟩
def Tr.chooseQ_all(p:aa->Prop)(op:Int)(b:Bool)(t:Tr)(c:ao)(h:t.all p):(t.chooseQ op b c).all p:=by
 have:=t.restrict_all p c h;unfold chooseQ;split
 .split
  .trivial
  .exact this
 .split
  .trivial
  .split
   .exact(t.restrict c).compl_all p this
   .exact this
def Tr.chooseQ_size(op:Int)(b:Bool)(t:Tr)(c:ao):(t.chooseQ op b c).size<=t.size:=by
 have:=t.restrict_size c;unfold chooseQ;split
 .split
  .exact aM _
  .exact this
 .split
  .exact aM _
  .split
   .rw[(t.restrict c).compl_size];exact this
   .exact this
def Tr.mergeQ_all(p:aa->Prop)(op:Int){u:Tr}(hu:u.all p): ∀(t:Tr) (c:ao),t.all p->(t.mergeQ op u c).all p
 | .leaf b,c,_=>u.chooseQ_all p op b c hu
 | .node l x y,c,⟨h0,h1,h2⟩=>by
  rw[Tr.mergeQ];split
  .exact Tr.mergeQ_all p op hu x c h1
  .split
   .exact Tr.mergeQ_all p op hu y c h2
   .rcases Tr.joinQ_cases l (x.mergeQ op u (bE c l)) (y.mergeQ op u (bE c l.rev)) with⟨h,_⟩|⟨h,_⟩
    .rw[h];exact Tr.mergeQ_all p op hu x _ h1
    .rw[h];exact⟨h0,Tr.mergeQ_all p op hu x _ h1,Tr.mergeQ_all p op hu y _ h2⟩
def Tr.mergeQ_size(op:Int)(u:Tr): ∀(t:Tr) (c:ao),(t.mergeQ op u c).size+1<=(t.size+1)*(u.size+1)
 | .leaf b,c=>by
  have:=u.chooseQ_size op b c;show(u.chooseQ op b c).size+1<=(0+1)*(u.size+1);omega
 | .node l x y,c=>by
  have hx:=fun c=>Tr.mergeQ_size op u x c;have hy:=fun c=>Tr.mergeQ_size op u y c;have e:((Tr.node l x y).size+1)*(u.size+1)=(x.size+1)*(u.size+1)+(y.size+1)*(u.size+1):=by
   rw[<-dY];congr 1;simp only[Tr.size];omega
  rw[e,Tr.mergeQ];split
  .have:=hx c;omega
  .split
   .have:=hy c;omega
   .have h1:=hx (bE c l)
    have h2:=hy (bE c l.rev);rcases Tr.joinQ_cases l (x.mergeQ op u (bE c l)) (y.mergeQ op u (bE c l.rev)) with⟨h,_⟩|⟨h,_⟩<;>rw[h]<;>(try simp only[Tr.size])<;>omega
def Tr.depth_size: ∀t:Tr,t.depth<=t.size
 | .leaf _=>bW _
 | .node l x y=>by
  have h1:=x.depth_size;have h2:=y.depth_size;simp only[Tr.depth,Tr.size];omega
def mv(op:Int)(a b:Tr):Option Tr:=if 1024<a.depth+b.depth then none else if 65536<(a.mergeQ op b []).size then none else some (a.mergeQ op b [])
def PD(al:Addr):Option Tr->DV
 |some t=> .tp [eU t, .v .nilIface]
 |none=> .tp [.v (.pointer none),Aw al]
def Xc{a b:Tr}(ha:a.gd)(hb:b.gd)(h:mv op a b=some t):t.gd/\t.size<=65536:=by
 unfold mv at h;split at h
 .cases h
 .split at h
  .cases h
  .cases h
   exact⟨⟨Tr.mergeQ_all LB op hb.lb a [] ha.lb,Tr.mergeQ_all aa.ok op hb.ok a [] ha.ok⟩,by omega⟩
def Pu(hE:EG GB ai al ae){a b:Tr}(ha:a.gd)(hb:b.gd)(hsa:a.size<=65536)(hsb:b.size<=65536):PF GB prog 167 [vI op,eU a,eU b] (PD al (mv op a b)):=by
 have hda:=a.depth_size;have hdb:=b.depth_size;have hms:=Tr.mergeQ_size op b a [];have hmm:(a.size+1)*(b.size+1)<=65537*65537:=gL (by omega) (by omega);refine fn func167 J J ntmps167 J J (fun C=>?_);refine cl J (wS (t:=a) (by omega)) J<|cl J (wS (t:=b) (by omega)) J<|br J J J (fun hc14=>?_) (fun hc14=>?_)
 .
  refine gl J hE.ErrLimit J<|rz J (by unfold mv;rw[if_pos (by omega)];rfl)
 .
  refine cl J (Hs (op:=op) (t:=a) (u:=b) (c:=[]) hb.lb hb.ok ha.lb ha.ok (fun s h=>by cases h) (by simp only[eY];omega)) J<|cl J (Vx (t:=a.mergeQ op b []) (by omega)) J<|br J J J (fun hc22=>?_) (fun hc22=>?_)
  .
   refine gl J hE.ErrLimit J<|rz J (by unfold mv;rw[if_neg (by omega),if_pos (by omega)];rfl)
  .
   exact rz J (by unfold mv;rw[if_neg (by omega),if_neg (by omega)];rfl)
def Xt(hE:EG GB ai al ae){a b:Tr}(ha:a.gd)(hb:b.gd)(hsa:a.size<=65536)(hsb:b.size<=65536)(h:mv op a b=some t):PF GB prog 167 [vI op,eU a,eU b] (.tp [eU t, .v .nilIface]):=by
 have:=Pu hE (op:=op) ha hb hsa hsb;rw[h] at this;exact this
def aFA(hE:EG GB ai al ae){a b:Tr}(ha:a.gd)(hb:b.gd)(hsa:a.size<=65536)(hsb:b.size<=65536)(h:mv op a b=none):PF GB prog 167 [vI op,eU a,eU b] (.tp [.v (.pointer none),Aw al]):=by
 have:=Pu hE (op:=op) ha hb hsa hsb;rw[h] at this;exact this
def pi(op:Int):Tr->List Tr->Option Tr
 |t,[]=>some t
 |t,u::us=>match mv op t u with
  |none=>none
  |some r=>pi op r us
def Lu{us:List Tr}(h:us[k]? =some u):pi op t (us.drop k)=match mv op t u with|none=>none|some r=>pi op r (us.drop (k+1)):=by
 rw[DN h];rfl
def KK(h:t.gd)(c:ao):(t.restrict c).gd:=⟨t.restrict_all LB c h.lb,t.restrict_all aa.ok c h.ok⟩
def Ur(hE:EG GB ai al ae){a:Tr}{us:List Tr}(ha:a.gd)(hsa:a.size<=65536)(hus: ∀u∈us,u.gd/\u.size<=65536)(hn:us.length<=1000000):PF GB prog 95 [vI op,eU a, .sl (us.map eU)] (PD al (if 1024<a.depth then none else pi op (a.restrict []) us)):=by
 have hda:=a.depth_size;have hm:=qq eU us;have hrs:=a.restrict_size [];have hrg:=KK ha [];refine fn func95 J J ntmps95 J J (fun C=>?_);refine cl J (wS (t:=a) (by omega)) J<|br J J J (fun hc14=>?_) (fun hc14=>?_)
 .
  refine gl J hE.ErrLimit J<|rz J (by rw[if_pos (by omega)];rfl)
 .
  refine cl (fu:=⟨8⟩) J (Nc (t:=a) ha.lb ha.ok) J<|aj 19 (.d (vI (us.length:Nat))) J (by rw[hm]<;>rfl)<|gx J<|lp (X:=Tr×Nat) (fun⟨t,k⟩=>[(20, .d (vI (k:Nat))),(8, .d (eU t))]) (fun⟨t,k⟩=>[]) (fun⟨t,k⟩=>k<=us.length/\t.gd/\t.size<=65536/\pi op t (us.drop k)=pi op (a.restrict []) us) (fun⟨t,k⟩=>us.length-k) (a.restrict [],0) J ⟨aM _,hrg,by omega,J⟩ (fun _=>J) (fun⟨t,k⟩ hk=>?_);dsimp only at hk⊢;obtain⟨h1,h2,h3,h4⟩:=hk;refine br J J J (fun hc21=>?_) (fun hc21=>?_)
  .
   obtain⟨u,hu0⟩: ∃s,us[k]? =some s:=⟨_,aZ (by omega)⟩;have hu:=hus u (aK hu0);refine ix _ J (cg hu0) J<|?_;rcases hr:mv op t u with _|r
   .
    refine cl J (aFA hE h2 hu.1 h3 hu.2 hr) J<|rz J (by rw[if_neg (by omega),<-h4,Lu hu0,hr];rfl)
   .
    have hrr:=Xc h2 hu.1 hr;refine cl J (Xt hE h2 hu.1 h3 hu.2 hr) J<|at_ (r,k+1) (by dsimp only;exact⟨⟨by omega,hrr.1,hrr.2,by rw[<-h4,Lu hu0,hr]⟩,(by omega)⟩)
  .
   exact rz J (by rw[if_neg (by omega),<-h4,iY (by omega)];rfl)
abbrev Eo:=Int×List RN
def Eo.d(x:Eo):DV:=eRT x.1 x.2
def VF: ∀(us:List Tr),cE 1 (us.map eU):=fun us d hd=>by
 obtain⟨u,_,rfl⟩:=aT.1 hd;exact⟨rfl,rfl⟩
structure Eo.ok (x:Eo):Prop where
 s: ∀n∈x.2,n.g.sm
 n:x.2.length<=65536
def UT(hE:EG GB ai al ae){a:Tr}{us:List Tr}(ha:a.gd)(hsa:a.size<=65536)(hus: ∀u∈us,u.gd/\u.size<=65536)(hn:us.length<=1000000)(h:(if 1024<a.depth then none else pi op (a.restrict []) us)=some t):PF GB prog 95 [vI op,eU a, .sl (us.map eU)] (.tp [eU t, .v .nilIface]):=by
 have:=Ur hE (op:=op) ha hsa hus hn;rw[h] at this;exact this
def Tr.val:Tr->ah->Bool
 | .leaf b,_=>b
 | .node l x y,p=>if 0<l.value p then x.val p else y.val p
def Tr.lns:Tr->List aa
 | .leaf _=>[]
 | .node l x y=>l::(x.lns++y.lns)
def xt{P:aa->Prop}: ∀{t:Tr},t.all P↔ ∀l∈t.lns,P l
 | .leaf _=>⟨fun _ l hl=>(by cases hl),fun _=>trivial⟩
 | .node l x y=>by
  show(P l/\x.all P/\y.all P)↔ ∀m∈l::(x.lns++y.lns),P m;rw[xt (t:=x),xt (t:=y)];constructor
  .rintro ⟨h0,h1,h2⟩ m hm
   rcases aW.1 hm with rfl|hm
   .exact h0
   .rcases bJ.1 hm with hm|hm
    .exact h1 m hm
    .exact h2 m hm
  .intro h
   exact⟨h l aQ,fun m hm=>h m (aJ _ (bR _ hm)),fun m hm=>h m (aJ _ (bV _ hm))⟩
def vy(h:t.all aa.ok): ∀l∈t.lns,l.ok:=xt.1 h
def dB(L:List aa)(p:ah):Prop:= ∀l∈L,l.value p≠0
def dB.sub(h:dB L p)(k: ∀l∈M,l∈L):dB M p:=fun l hl=>h l (k l hl)
def dB.l{l:aa}{x y:Tr}{p:ah}(h:dB (Tr.node l x y).lns p):l.value p≠0:=h l aQ
def dB.x{l:aa}{x y:Tr}{p:ah}(h:dB (Tr.node l x y).lns p):dB x.lns p:=h.sub fun m hm=>aJ _ (bR _ hm)
def dB.y{l:aa}{x y:Tr}{p:ah}(h:dB (Tr.node l x y).lns p):dB y.lns p:=h.sub fun m hm=>aJ _ (bV _ hm)
def dB.app:dB (L++M) p↔dB L p/\dB M p:=by
 unfold dB;constructor
 .intro h;exact⟨fun l hl=>h l (bR _ hl),fun l hl=>h l (bV _ hl)⟩
 .rintro ⟨h1,h2⟩ l hl;rcases bJ.1 hl with h|h;exact h1 l h;exact h2 l h
def uT(op:Int)(a b:Bool):Bool:=if op=1 then a||b else if op=2 then a&&b else if op=3 then a&&!b else a !=b
def Tr.val_join(l:aa)(X Y:Tr)(p:ah):(Tr.joinQ l X Y).val p=(Tr.node l X Y).val p:=by
 unfold Tr.joinQ;split
 .rename_i h
  cases X<;>cases Y<;>simp[Tr.isLeaf,Tr.code] at h
  subst h;simp[Tr.val]
 .rfl
def Tr.val_pos{l:aa}{x y:Tr}(h:0<l.value p):(Tr.node l x y).val p=x.val p:=by rw[Tr.val,if_pos h]
def Tr.val_neg{l:aa}{x y:Tr}(h: ¬0<l.value p):(Tr.node l x y).val p=y.val p:=by rw[Tr.val,if_neg h]
def Tr.val_compl: ∀(t:Tr) (p:ah),t.compl.val p=!t.val p
 | .leaf b,p=>rfl
 | .node l x y,p=>by
  rw[Tr.compl];by_cases h:0<l.value p
  .rw[Tr.val_pos h,Tr.val_pos h,x.val_compl]
  .rw[Tr.val_neg h,Tr.val_neg h,y.val_compl]
def Lx{l:aa}(hc:bC c)(hl:l.ok)(hb:cp c l.rev=false)(hp:bu c p)(h0:l.value p≠0):0<l.value p:=by
 by_cases h:0<l.value p
 .exact h
 .exfalso
  have:cp c l.rev=true:=(qn hc hl.rev).2 ⟨p,hp,by rw[fe];grind⟩;rw[hb] at this;cases this
def Rg{l:aa}(hc:bC c)(hl:l.ok)(hb:cp c l=false)(hp:bu c p): ¬0<l.value p:=fun h=>by
 have:cp c l=true:=(qn hc hl).2 ⟨p,hp,h⟩;rw[hb] at this;cases this
def Tr.val_restrict: ∀(t:Tr) (c:ao) (p:ah),t.all aa.ok->bC c->bu c p->dB t.lns p->(t.restrict c).val p=t.val p
 | .leaf _,_,_,_,_,_,_=>rfl
 | .node l x y,c,p,⟨hl,hx,hy⟩,hc,hp,ho=>by
  cases hb:cp c l.rev with
  |false=>rw[Tr.restrict_A _ _ hb,x.val_restrict c p hx hc hp ho.x,Tr.val_pos (Lx hc hl hb hp ho.l)]
  |true=>
   cases hb2:cp c l with
   |false=>rw[Tr.restrict_B _ _ hb hb2,y.val_restrict c p hy hc hp ho.y,Tr.val_neg (Rg hc hl hb2 hp)]
   |true=>
    rw[Tr.restrict_C _ _ hb hb2,Tr.val_join];obtain⟨g1,i1⟩:=gG hc hl hb2;obtain⟨g2,i2⟩:=gG hc hl.rev hb;by_cases h:0<l.value p
    .rw[Tr.val_pos h,Tr.val_pos h,x.val_restrict _ p hx g1 ((i1 p).2 ⟨hp,h⟩) ho.x]
    .rw[Tr.val_neg h,Tr.val_neg h,y.val_restrict _ p hy g2 ((i2 p).2 ⟨hp,by rw[fe];have:=ho.l;grind⟩) ho.y]
def Tr.val_choose(op:Int)(b:Bool)(t:Tr)(c:ao)(p:ah)(ht:t.all aa.ok)(hc:bC c)(hp:bu c p)(ho:dB t.lns p):(t.chooseQ op b c).val p=uT op b (t.val p):=by
 have hr:=t.val_restrict c p ht hc hp ho;unfold Tr.chooseQ uT;by_cases h1:op=1
 .subst h1;cases b<;>simp[hr,Tr.val]
 .by_cases h2:op=2
  .subst h2;cases b<;>simp[hr,Tr.val]
  .by_cases h3:op=3
   .subst h3;cases b<;>simp[hr,Tr.val,Tr.val_compl]
   .cases b<;>simp[h1,h2,h3,hr,Tr.val_compl]
def Tr.val_merge(op:Int)(u:Tr)(hu:u.all aa.ok): ∀(t:Tr) (c:ao) (p:ah),t.all aa.ok->bC c->bu c p->dB t.lns p->dB u.lns p->(t.mergeQ op u c).val p=uT op (t.val p) (u.val p)
 | .leaf b,c,p,_,hc,hp,_,ho=>u.val_choose op b c p hu hc hp ho
 | .node l x y,c,p,⟨hl,hx,hy⟩,hc,hp,ho,hou=>by
  rw[Tr.mergeQ]
  cases hb:cp c l.rev with
  |false=>
   rw[if_pos (show(!false)=true from J),Tr.val_merge op u hu x c p hx hc hp ho.x hou,Tr.val_pos (Lx hc hl hb hp ho.l)]
  |true=>
   rw[if_neg (by decide)]
   cases hb2:cp c l with
   |false=>rw[if_pos (show(!false)=true from J),Tr.val_merge op u hu y c p hy hc hp ho.y hou,Tr.val_neg (Rg hc hl hb2 hp)]
   |true=>
    rw[if_neg (by decide),Tr.val_join];obtain⟨g1,i1⟩:=gG hc hl hb2;obtain⟨g2,i2⟩:=gG hc hl.rev hb;by_cases h:0<l.value p
    .rw[Tr.val_pos h,Tr.val_pos h,Tr.val_merge op u hu x _ p hx g1 ((i1 p).2 ⟨hp,h⟩) ho.x hou]
    .rw[Tr.val_neg h,Tr.val_neg h,Tr.val_merge op u hu y _ p hy g2 ((i2 p).2 ⟨hp,by rw[fe];have:=ho.l;grind⟩) ho.y hou]
def Mp: ∀(L:List aa) (u:ah) (p:ah),dB L p-> ∃e:Rat,0<e/\ ∀d,0<=d->d<=e->dB L (cF p u d)
 |[],u,p,_=>⟨1,by decide,fun d _ _ l hl=>by cases hl⟩
 |l::L,u,p,h=>by
  obtain⟨e,he,hm⟩:=Mp L u p (h.sub fun m hm=>aJ _ hm);have h0:=h l aQ;have key: ∃f:Rat,0<f/\ ∀d,0<=d->d<=f->l.value (cF p u d)≠0:=by
   by_cases hk:l.nor.dot u=0
   .exact⟨1,by decide,fun d _ _=>by rw[jc,hk];grind⟩
   .generalize hA:l.value p=A at*
    generalize hB:l.nor.dot u=B at*;rcases j0 A with h|h|h
    .exact absurd h h0
    .rcases j0 B with k|k|k
     .exact absurd k hk
     .exact⟨1,by decide,fun d hd _=>by rw[jc,hA,hB];have:=cG hd (dQ k);grind⟩
     .refine⟨A/(-B)/2,?_,fun d hd h2=>?_⟩
      .have:0<A/(-B):=by
        have e1:A/(-B)*(-B)=A:=by grind
        exact(f8 (k:= -B) (by grind)).1 (by rw[e1];exact h)
       grind
      .rw[jc,hA,hB]
       have e1:A/(-B)*(-B)=A:=by grind
       generalize A/(-B)=q at*;have h4:=cG (a:=q/2-d) (b:= -B) (by grind) (by grind);grind
    .rcases j0 B with k|k|k
     .exact absurd k hk
     .refine⟨(-A)/B/2,?_,fun d hd h2=>?_⟩
      .have:0<(-A)/B:=by
        have e1:(-A)/B*B= -A:=by grind
        exact(f8 (k:=B) k).1 (by rw[e1];grind)
       grind
      .rw[jc,hA,hB]
       have e1:(-A)/B*B= -A:=by grind
       generalize (-A)/B=q at*;have h4:=cG (a:=q/2-d) (b:=B) (by grind) (by grind);grind
     .exact⟨1,by decide,fun d hd _=>by rw[jc,hA,hB];have:=cG hd (b:= -B) (by grind);grind⟩
  obtain⟨f,hf,hk⟩:=key;refine⟨if e<=f then e else f,by split<;>assumption,fun d hd hde m hm'=>?_⟩;have h1:d<=e/\d<=f:=by split at hde<;>grind
  rcases aW.1 hm' with rfl|hm'
  .exact hk d hd h1.2
  .exact hm d hd h1.1 m hm'
def P3{c:ao}{p:ah}(hp:bu c p): ∀(L:List aa),(∀l∈L,l.ok)-> ∃q,bu c q/\dB L q
 |[],_=>⟨p,hp,fun l hl=>by cases hl⟩
 |l::L,h=>by
  obtain⟨q,hq,ho⟩:=P3 hp L fun m hm=>h m (aJ _ hm);by_cases h0:l.value q=0
  .have hn:=mG (h l aQ).ne
   obtain⟨e,he,hm⟩:=hq.open l.nor;obtain⟨f,hf,hk⟩:=Mp L l.nor q ho;refine⟨cF q l.nor (if e<=f then e else f),hm _ (by split<;>grind) (by split<;>grind),fun m hm'=>?_⟩;rcases aW.1 hm' with rfl|hm'
   .rw[jc,h0]
    have:=dd (a:=if e<=f then e else f) (b:=m.nor.dot m.nor) (by split<;>assumption) hn;grind
   .exact hk _ (by split<;>grind) (by split<;>grind) m hm'
  .exact⟨q,hq,fun m hm=>by rcases aW.1 hm with rfl|hm;exact h0;exact ho m hm⟩
def YY(hc:bC c)(L:List aa)(h: ∀l∈L,l.ok): ∃q,bu c q/\dB L q:=by
 obtain⟨p,hp⟩:=hc.ne;exact P3 hp L h
def Tr.Red:Tr->ao->Prop
 | .leaf _,_=>True
 | .node l x y,c=>cp c l=true/\cp c l.rev=true/\x.Red (bE c l)/\y.Red (bE c l.rev)/\ ¬(x.isLeaf=true/\y.isLeaf=true/\x.code=y.code)
def Tr.red_leaf(h:t.isLeaf=true)(c:ao):t.Red c:=by
 cases t with
 |leaf b=>trivial
 |node l x y=>cases h
def Tr.join_red{l:aa}{x y:Tr}(h1:cp c l=true)(h2:cp c l.rev=true)(hx:x.Red (bE c l))(hy:y.Red (bE c l.rev)):(Tr.joinQ l x y).Red c:=by
 rcases Tr.joinQ_cases l x y with⟨e,h⟩|⟨e,h⟩
 .rw[e];exact Tr.red_leaf h c
 .rw[e];exact⟨h1,h2,hx,hy,h⟩
def Tr.restrict_red: ∀(t:Tr) (c:ao),(t.restrict c).Red c
 | .leaf _,_=>trivial
 | .node l x y,c=>by
  cases hb:cp c l.rev with
  |false=>rw[Tr.restrict_A _ _ hb];exact x.restrict_red c
  |true=>
   cases hb2:cp c l with
   |false=>rw[Tr.restrict_B _ _ hb hb2];exact y.restrict_red c
   |true=>rw[Tr.restrict_C _ _ hb hb2];exact Tr.join_red hb2 hb (x.restrict_red _) (y.restrict_red _)
def Tr.compl_leaf:t.compl.isLeaf=t.isLeaf:=by cases t<;>rfl
def Tr.compl_code(h:t.isLeaf=true):t.compl.code=!t.code:=by
 cases t with
 |leaf b=>rfl
 |node l x y=>cases h
def Tr.compl_red: ∀{t:Tr} {c:ao},t.Red c->t.compl.Red c
 | .leaf _,_,_=>trivial
 | .node l x y,c,⟨h1,h2,h3,h4,h5⟩=>by
  refine⟨h1,h2,Tr.compl_red h3,Tr.compl_red h4,fun⟨a,b,e⟩=>?_⟩;rw[Tr.compl_leaf] at a b;rw[Tr.compl_code a,Tr.compl_code b] at e;exact h5 ⟨a,b,by simpa using e⟩
def Tr.choose_red(op:Int)(b:Bool)(t:Tr)(c:ao):(t.chooseQ op b c).Red c:=by
 have h:=t.restrict_red c;unfold Tr.chooseQ;split
 .split
  .trivial
  .exact h
 .split
  .trivial
  .split
   .exact Tr.compl_red h
   .exact h
def Tr.merge_red(op:Int)(u:Tr): ∀(t:Tr) (c:ao),(t.mergeQ op u c).Red c
 | .leaf b,c=>u.choose_red op b c
 | .node l x y,c=>by
  rw[Tr.mergeQ]
  cases hb:cp c l.rev with
  |false=>rw[if_pos (show(!false)=true from J)];exact Tr.merge_red op u x c
  |true=>
   rw[if_neg (by decide)]
   cases hb2:cp c l with
   |false=>rw[if_pos (show(!false)=true from J)];exact Tr.merge_red op u y c
   |true=>rw[if_neg (by decide)];exact Tr.join_red hb2 hb (Tr.merge_red op u x _) (Tr.merge_red op u y _)
def Tr.red_const{L:List aa}(hL: ∀l∈L,l.ok){v:Bool}: ∀{t:Tr} {c:ao},t.Red c->t.all aa.ok->bC c->(∀p,bu c p->dB L p->t.val p=v)->t= .leaf v
 | .leaf b,c,_,_,hc,h=>by
  obtain⟨q,h1,h2⟩:=YY hc L hL;have:=h q h1 h2;rw[Tr.val] at this;rw[this]
 | .node l x y,c,⟨h1,h2,h3,h4,h5⟩,⟨hl,hx,hy⟩,hc,h=>by
  obtain⟨g1,i1⟩:=gG hc hl h1;obtain⟨g2,i2⟩:=gG hc hl.rev h2;have ex:=Tr.red_const hL (v:=v) h3 hx g1 (fun p hp ho=>by
   have k:=(i1 p).1 hp;rw[<-h p k.1 ho,Tr.val_pos k.2])
  have ey:=Tr.red_const hL (v:=v) h4 hy g2 (fun p hp ho=>by
   have k:=(i2 p).1 hp;rw[fe] at k;rw[<-h p k.1 ho,Tr.val_neg (by have:=k.2;grind)])
  subst ex;subst ey;exact absurd ⟨J,J,J⟩ h5
def PJ(p:ah):bu [] p:=fun s hs=>(by cases hs)
def Tr.merge_leaf{a b:Tr}(ha:a.all aa.ok)(hb:b.all aa.ok)(hL: ∀l∈L,l.ok)(hLa: ∀l∈a.lns,l∈L)(hLb: ∀l∈b.lns,l∈L){v:Bool}:a.mergeQ op b []= .leaf v↔ ∀p,dB L p->uT op (a.val p) (b.val p)=v:=by
 constructor
 .intro h p hp
  rw[<-Tr.val_merge op b hb a [] p ha bC.nil (PJ p) (hp.sub hLa) (hp.sub hLb),h];rfl
 .intro h
  refine Tr.red_const hL (Tr.merge_red op b a []) (Tr.mergeQ_all aa.ok op hb a [] ha) bC.nil (fun p _ hp=>?_);rw[Tr.val_merge op b hb a [] p ha bC.nil (PJ p) (hp.sub hLa) (hp.sub hLb)];exact h p hp
def aa.same(l m:aa):Prop:=m=l\/m=l.rev
instance (l m:aa):Decidable (l.same m):=inferInstanceAs (Decidable (_\/_))
def Tr.cnt(l:aa):Tr->Nat
 | .leaf _=>0
 | .node m x y=>(if l.same m then 1 else 0)+(x.cnt l+y.cnt l)
def nk{l m:aa}(h:l.same m)(hp:l.value p=0):m.value p=0:=by
 rcases h with rfl|rfl
 .exact hp
 .rw[fe,hp];rfl
def E'(l:aa)(c:ao):Prop:= ∃p,bu c p/\l.value p=0
def Tr.cnt_zero{l:aa}: ∀{t:Tr} {c:ao},t.Red c->t.all aa.ok->bC c-> ¬E' l c->t.cnt l=0
 | .leaf _,_,_,_,_,_=>rfl
 | .node m x y,c,⟨h1,h2,h3,h4,_⟩,⟨hm,hx,hy⟩,hc,hn=>by
  obtain⟨g1,i1⟩:=gG hc hm h1;obtain⟨g2,i2⟩:=gG hc hm.rev h2;have e1:=Tr.cnt_zero (l:=l) h3 hx g1 (fun⟨p,hp,h0⟩=>hn ⟨p,((i1 p).1 hp).1,h0⟩);have e2:=Tr.cnt_zero (l:=l) h4 hy g2 (fun⟨p,hp,h0⟩=>hn ⟨p,((i2 p).1 hp).1,h0⟩);rw[Tr.cnt,e1,e2];by_cases hs:l.same m
  .exfalso
   -- m crosses the cell
   obtain⟨p,hp,k1⟩:=(qn hc hm).1 h1;obtain⟨q,hq,k2⟩:=(qn hc hm.rev).1 h2;rw[fe] at k2;generalize hA:m.value p=A at*;generalize hB:m.value q=B at*;have hAB:0<A-B:=by grind
   have e:A/(A-B)*(A-B)=A:=by grind
   generalize A/(A-B)=r at*;have r0:0<=r:=(ij hAB).1 (by rw[e];exact dQ k1);have r1:r<=1:=by
    have:=(ij (s:=1-r) hAB).1 (by grind);grind
   have hz:=hp.seg hq r0 r1;have hv:m.value (jv p q r)=0:=by rw[lc,hA,hB];grind
   refine hn ⟨_,hz,?_⟩;rcases hs with rfl|rfl
   .exact hv
   .rw[fe] at hv;grind
  .rw[if_neg hs]
def p7(c:ao)(p:ah):Bool:=c.all fun s=>decide (0<s.l.value p)
def ry:p7 c p=true↔bu c p:=by
 unfold p7 bu;rw[dJ];simp
def PC(P:List ah)(l:aa)(t:Tr):Prop:=t.all fun m=>l.same m\/ ∀p,l.value p=0->m.value p=0->p∈P
def Gp{α:Type}{p q r:α->Bool}: ∀(P:List α),(∀x∈P,q x=true->p x=true)->(∀x∈P,r x=true->p x=true)->(∀x∈P,¬(q x=true/\r x=true))->P.countP q+P.countP r<=P.countP p
 |[],_,_,_=>bW _
 |x::P,h1,h2,h3=>by
  have ih:=Gp (p:=p) (q:=q) (r:=r) P (fun y hy=>h1 y (aJ _ hy)) (fun y hy=>h2 y (aJ _ hy)) (fun y hy=>h3 y (aJ _ hy));have a:=h1 x aQ;have b:=h2 x aQ;have c:=h3 x aQ;rw[oS,oS,oS]
  cases hq:q x<;>cases hr:r x<;>simp_all<;>omega
def MQ{α:Type}{p q r:α->Bool}: ∀(P:List α),(∀x∈P,q x=true->p x=true)->(∀x∈P,r x=true->p x=true)->(∀x∈P,¬(q x=true/\r x=true))->(∃x∈P,p x=true/\q x=false/\r x=false)->P.countP q+P.countP r+1<=P.countP p
 |[],_,_,_,⟨x,hx,_⟩=>by cases hx
 |x::P,h1,h2,h3,h4=>by
  have i2:=Gp (p:=p) (q:=q) (r:=r) P (fun y hy=>h1 y (aJ _ hy)) (fun y hy=>h2 y (aJ _ hy)) (fun y hy=>h3 y (aJ _ hy));have a:=h1 x aQ;have b:=h2 x aQ;have c:=h3 x aQ;rw[oS,oS,oS];obtain⟨z,hz,k1,k2,k3⟩:=h4;rcases aW.1 hz with rfl|hz
  .simp only[k1,k2,k3];simp;omega
  .have ih:=MQ (p:=p) (q:=q) (r:=r) P (fun y hy=>h1 y (aJ _ hy)) (fun y hy=>h2 y (aJ _ hy)) (fun y hy=>h3 y (aJ _ hy)) ⟨z,hz,k1,k2,k3⟩
   cases hq:q x<;>cases hr:r x<;>simp_all<;>omega
def Tr.cnt_le{l:aa}(hl:l.ok){P:List ah}: ∀{t:Tr} {c:ao},t.Red c->t.all aa.ok->bC c->PC P l t->t.cnt l<=1+P.countP (p7 c)
 | .leaf _,_,_,_,_,_=>aM _
 | .node m x y,c,⟨h1,h2,h3,h4,_⟩,⟨hm,hx,hy⟩,hc,⟨v0,v1,v2⟩=>by
  obtain⟨g1,i1⟩:=gG hc hm h1;obtain⟨g2,i2⟩:=gG hc hm.rev h2;have q1: ∀p∈P,p7 (bE c m) p=true->p7 c p=true:=fun p _ h=>ry.2 ((i1 p).1 (ry.1 h)).1;have q2: ∀p∈P,p7 (bE c m.rev) p=true->p7 c p=true:=fun p _ h=>ry.2 ((i2 p).1 (ry.1 h)).1;have q3: ∀p∈P,¬(p7 (bE c m) p=true/\p7 (bE c m.rev) p=true):=fun p _ ⟨a,b⟩=>by
   have a:=((i1 p).1 (ry.1 a)).2;have b:=((i2 p).1 (ry.1 b)).2;rw[fe] at b;grind
  have ct:=Gp P q1 q2 q3;rw[Tr.cnt];by_cases hs:l.same m
  .have e1:=Tr.cnt_zero (l:=l) h3 hx g1 (fun⟨p,hp,h0⟩=>by have:=((i1 p).1 hp).2;rw[nk hs h0] at this;grind)
   have e2:=Tr.cnt_zero (l:=l) h4 hy g2 (fun⟨p,hp,h0⟩=>by have:=((i2 p).1 hp).2;rw[fe,nk hs h0] at this;grind);rw[e1,e2,if_pos hs];omega
  .rw[if_neg hs]
   have b1:=Tr.cnt_le hl h3 hx g1 v1;have b2:=Tr.cnt_le hl h4 hy g2 v2;by_cases w1:E' l (bE c m)
   .by_cases w2:E' l (bE c m.rev)
    .-- the crossing Bb in the cell
     obtain⟨p,hp,k1⟩:=w1;obtain⟨q,hq,k2⟩:=w2;obtain⟨hp,ap⟩:=(i1 p).1 hp;obtain⟨hq,aq⟩:=(i2 q).1 hq;rw[fe] at aq;generalize hA:m.value p=A at*;generalize hB:m.value q=B at*;have hAB:0<A-B:=by grind
     have e:A/(A-B)*(A-B)=A:=by grind
     generalize A/(A-B)=r at*;have r0:0<=r:=(ij hAB).1 (by rw[e];exact dQ ap);have r1:r<=1:=by
      have:=(ij (s:=1-r) hAB).1 (by grind);grind
     have hz:=hp.seg hq r0 r1;have hv:m.value (jv p q r)=0:=by rw[lc,hA,hB];grind
     have hv2:l.value (jv p q r)=0:=by rw[lc,k1,k2];grind
     have hmem:jv p q r∈P:=by
      rcases v0 with h|h
      .exact absurd h hs
      .exact h _ hv2 hv
     have c3:=MQ P q1 q2 q3 ⟨_,hmem,ry.2 hz,by
      rw[<-jR,ry,i1];rintro ⟨_,h⟩;rw[hv] at h;grind,by
      rw[<-jR,ry,i2];rintro ⟨_,h⟩;rw[fe,hv] at h;grind⟩
     omega
    .rw[Tr.cnt_zero h4 hy g2 w2];omega
   .rw[Tr.cnt_zero h3 hx g1 w1];omega
def Kh(l:aa):l.rev.rev=l:=by cases l;simp[aa.rev]
def aa.same.symm{l m:aa}(h:l.same m):m.same l:=by
 rcases h with rfl|rfl
 .exact .inl J
 .exact .inr (Kh l).symm
def aa.same.trans{l m n:aa}(h:l.same m)(k:m.same n):l.same n:=by
 rcases h with rfl|rfl
 .exact k
 .rcases k with rfl|rfl
  .exact .inr J
  .exact .inl (Kh l)
def ig(K:List aa)(t:Tr):Prop:=t.all fun n=> ∃m∈K,m.same n
def yj(l m:aa):ah:=l.at (-(l.cutC m/l.cutK m))
def DO{l m:aa}(hl:l.ok)(hm:m.ok)(h1:l.value p=0)(h2:m.value p=0):l.same m\/p=yj l m:=by
 obtain⟨t,rfl⟩:=AB hl.ne h1;rw[li] at h2;by_cases hk:l.cutK m=0
 .left
  have hc:l.cutC m=0:=by rw[hk] at h2;grind
  rcases w8 hm hl (fun s=>by rw[li,hk,hc];grind) with h|h
  .exact .inl h
  .exact .inr h
 .right
  unfold yj;congr 1;grind
def ig.covers{K:List aa}(hK: ∀m∈K,m.ok){l:aa}(hl:l.ok): ∀{t:Tr},ig K t->PC (K.map (yj l)) l t
 | .leaf _,_=>trivial
 | .node n x y,⟨⟨m,hm,hs⟩,h1,h2⟩=>by
  refine⟨?_,ig.covers hK hl h1,ig.covers hK hl h2⟩;by_cases h:l.same n
  .exact .inl h
  .right
   intro p k1 k2;rcases DO hl (hK m hm) k1 (nk hs.symm k2) with h3|h3
   .exact absurd (h3.trans hs) h
   .rw[h3];exact dT hm
def Kc(t:Tr):List aa->Nat
 |[]=>0
 |l::K=>t.cnt l+Kc t K
def Ks(n:aa):List aa->Nat
 |[]=>0
 |l::K=>(if l.same n then 1 else 0)+Ks n K
def M6{n:aa}{x y:Tr}: ∀K,Kc (.node n x y) K=Ks n K+(Kc x K+Kc y K)
 |[]=>rfl
 |l::K=>by
  have:=M6 (n:=n) (x:=x) (y:=y) K;show(Tr.node n x y).cnt l+Kc (.node n x y) K=_;rw[this,Tr.cnt];show _=(if l.same n then 1 else 0)+Ks n K+(x.cnt l+Kc x K+(y.cnt l+Kc y K));omega
def Sb{n m:aa}(hs:m.same n): ∀{K:List aa},m∈K->1<=Ks n K
 |[],h=>by cases h
 |l::K,h=>by
  show 1<=(if l.same n then 1 else 0)+Ks n K;rcases aW.1 h with rfl|h
  .rw[if_pos hs];omega
  .have:=Sb hs h;omega
def J7{K:List aa}: ∀{t:Tr},ig K t->t.size<=Kc t K
 | .leaf _,_=>aM _
 | .node n x y,⟨⟨m,hm,hs⟩,h1,h2⟩=>by
  have a:=J7 h1;have b:=J7 h2;have c:=Sb hs hm;rw[M6,Tr.size];omega
def KP{t:Tr}{B:Nat}: ∀{K:List aa},(∀l∈K,t.cnt l<=B)->Kc t K<=K.length*B
 |[],_=>aM _
 |l::K,h=>by
  have:=KP (t:=t) (B:=B) (K:=K) fun m hm=>h m (aJ _ hm);have:=h l aQ;show t.cnt l+Kc t K<=(K.length+1)*B;rw[fM];omega
def Tr.size_le(hK: ∀m∈K,m.ok)(hr:t.Red c)(ht:t.all aa.ok)(hc:bC c)(h:ig K t):t.size<=K.length*(1+K.length):=by
 refine cN (J7 h) (KP fun l hl=>?_);refine cN (Tr.cnt_le (hK l hl) hr ht hc (h.covers hK (hK l hl))) ?_;have:=List.countP_le_length (p:=p7 c) (l:=K.map (yj l));rw[aX] at this;omega
def ig.restrict{K:List aa}{t:Tr}(h:ig K t)(c:ao):ig K (t.restrict c):=t.restrict_all _ c h
def ig.merge(h:ig K t)(hu:ig K u)(c:ao):ig K (t.mergeQ op u c):=Tr.mergeQ_all _ op hu t c h
def Yc{a b:Tr}(hd:a.depth+b.depth<=1024)(hs:(a.mergeQ op b []).size<=65536):mv op a b=some (a.mergeQ op b []):=by
 unfold mv;rw[if_neg (by omega),if_neg (by omega)]
structure uK (L:List aa) (a b:Tr):Prop where
 oa:a.all aa.ok
 ob:b.all aa.ok
 ok: ∀l∈L,l.ok
 la: ∀l∈a.lns,l∈L
 lb: ∀l∈b.lns,l∈L
def uK.mk0{a b:Tr}(ha:a.all aa.ok)(hb:b.all aa.ok):uK (a.lns++b.lns) a b:=
 ⟨ha,hb,fun l hl=>(bJ.1 hl).elim (vy ha l) (vy hb l),fun l hl=>bR _ hl,fun l hl=>bV _ hl⟩
def uK.leaf{L:List aa}{a b:Tr}(h:uK L a b){op:Int}{v:Bool}:a.mergeQ op b []= .leaf v↔ ∀p,dB L p->uT op (a.val p) (b.val p)=v:=Tr.merge_leaf h.oa h.ob h.ok h.la h.lb
def ke(x:Rat):List Rat->List Rat
 |[]=>[x]
 |u::t=>if u<x then u::ke x t else if u=x then u::t else x::u::t
def fy(l:List Rat):List Rat:=l.foldl (fun out x=>ke x out) []
def iC:List Rat->List Rat
 |a::b::t=>(a+b)/2::iC (b::t)
 |_=>[]
def cj:List Rat->List Rat
 |[]=>[0]
 |a::t=>(a-1)::(iC (a::t)++[(a::t).getLast (by simp)+1])
def qa{x y:Rat}: ∀{l:List Rat},y∈ke x l↔y=x\/y∈l
 |[]=>by simp[ke]
 |u::t=>by
  rw[ke];split
  .rw[aW,qa (l:=t),aW];grind
  .split
   .rename_i h;subst h;simp
   .simp
def y7{x:Rat}: ∀{l:List Rat},l.Pairwise (· < ·)->(ke x l).Pairwise (· < ·)
 |[],_=>by simp[ke]
 |u::t,h=>by
  rw[bL] at h;rw[ke];split
  .rename_i hu
   rw[bL];refine⟨fun y hy=>?_,y7 h.2⟩;rcases qa.1 hy with rfl|hy
   .exact hu
   .exact h.1 y hy
  .rename_i hu
   split
   .rw[bL];exact h
   .rename_i hn
    have hx:x<u:=by grind
    rw[bL,bL];refine⟨fun y hy=>?_,h⟩;rcases aW.1 hy with rfl|hy
    .exact hx
    .have:=h.1 y hy;grind
def SI{l:List Rat}: ∀{o:List Rat},o.Pairwise (· < ·)->(l.foldl (fun out x=>ke x out) o).Pairwise (· < ·)/\ ∀y,y∈l.foldl (fun out x=>ke x out) o↔y∈l\/y∈o:=by
 induction l with
 |nil=>intro o h;exact⟨h,fun y=>by simp⟩
 |cons x t ih=>
  intro o h;obtain⟨h1,h2⟩:=ih (y7 (x:=x) h);refine⟨h1,fun y=>?_⟩;rw[iS,h2,qa,aW];grind
def w5(l:List Rat):(fy l).Pairwise (· < ·):=(SI (l:=l) List.Pairwise.nil).1
def pg{l:List Rat}{y:Rat}:y∈fy l↔y∈l:=by
 have:=(SI (l:=l) List.Pairwise.nil).2 y;simpa[fy] using this
def Qd{g:Rat}: ∀{l:List Rat},l.Pairwise (· < ·)->g∈iC l->g∉l/\(∃a∈l,a<g)/\ ∃b∈l,g<b
 |[],_,h=>by cases h
 |[_],_,h=>by cases h
 |a::b::t,h,hg=>by
  rw[bL] at h;have hab:=h.1 b aQ;rw[iC] at hg;rcases aW.1 hg with rfl|hg
  .refine⟨fun hm=>?_,⟨a,aQ,by grind⟩,b,aJ _ aQ,by grind⟩
   rcases aW.1 hm with e|hm
   .grind
   .rcases aW.1 hm with e|hm
    .grind
    .have h2:=h.2
     rw[bL] at h2;have:=h2.1 _ hm;grind
  .obtain⟨k1,⟨c,hc,k2⟩,d,hd,k3⟩:=Qd h.2 hg
   refine⟨fun hm=>?_,⟨c,aJ _ hc,k2⟩,d,aJ _ hd,k3⟩;rcases aW.1 hm with e|hm
   .have:=h.1 c hc;grind
   .exact k1 hm
def Hb: ∀{l:List Rat} (h:l.Pairwise (· < ·)) (hn:l≠[]),∀y∈l,y<=l.getLast hn
 |[a],_,_,y,hy=>by rw[aU] at hy;subst hy;exact iW
 |a::b::t,h,_,y,hy=>by
  rw[bL] at h;rw[List.getLast_cons (by simp)];have ih:=Hb h.2 (by simp);rcases aW.1 hy with rfl|hy
  .have:=h.1 b aQ
   have:=ih b aQ;grind
  .exact ih y hy
def Ct{l:List Rat}(h:l.Pairwise (· < ·)){g:Rat}(hg:g∈cj l):g∉l:=by
 cases l with
 |nil=>simp
 |cons a t=>
  rw[cj] at hg;rcases aW.1 hg with rfl|hg
  .intro hm
   rcases aW.1 hm with e|hm
   .grind
   .rw[bL] at h;have:=h.1 _ hm;grind
  .rcases bJ.1 hg with hg|hg
   .exact(Qd h hg).1
   .rw[aU] at hg
    intro hm;have:=Hb h (by simp) g hm;grind
def Oe{v:Rat}: ∀{l:List Rat},l.Pairwise (· < ·)->v∉l->(∃a∈l,a<v)->(∃b∈l,v<b)-> ∃g∈iC l,∀u∈l,u<v↔u<g
 |[],_,_,⟨a,h,_⟩,_=>by cases h
 |[c],_,_,⟨a,h,h1⟩,⟨b,k,k1⟩=>by
  rw[aU] at h k;subst h;subst k;grind
 |c::d::t,h,hv,h1,h2=>by
  have h0:=h;rw[bL] at h;have hcd:=h.1 d aQ;have h3:=h.2;rw[bL] at h3;have hvc:c<v:=by
   obtain⟨a,ha,hav⟩:=h1;rcases aW.1 ha with rfl|ha
   .exact hav
   .have:=h.1 a ha;grind
  by_cases hd:v<d
  .refine⟨(c+d)/2,by rw[iC];exact aQ,fun u hu=>?_⟩
   rcases aW.1 hu with rfl|hu
   .constructor<;>intro _<;>grind
   .rcases aW.1 hu with rfl|hu
    .constructor<;>intro _<;>grind
    .have:=h3.1 u hu
     constructor<;>intro _<;>grind
  .have hdv:d<v:=by
    have:v≠d:=fun e=>hv (by rw[e];exact aJ _ aQ);grind
   obtain⟨b,hb,hvb⟩:=h2;have hb':b∈d::t:=by
    rcases aW.1 hb with rfl|hb
    .exfalso;grind
    .exact hb
   obtain⟨g,hg,hr⟩:=Oe h.2 (fun e=>hv (aJ _ e)) ⟨d,aQ,hdv⟩ ⟨b,hb',hvb⟩;refine⟨g,by rw[iC];exact aJ _ hg,fun u hu=>?_⟩;rcases aW.1 hu with rfl|hu
   .have:=(hr d aQ).1 hdv
    constructor<;>intro _<;>grind
   .exact hr u hu
def RS{v:Rat}{l:List Rat}(h:l.Pairwise (· < ·))(hv:v∉l): ∃g∈cj l,∀u∈l,u<v↔u<g:=by
 cases l with
 |nil=>exact⟨0,by simp[cj],fun u hu=>by cases hu⟩
 |cons a t=>
  by_cases h1: ∃c∈a::t,c<v
  .by_cases h2: ∃c∈a::t,v<c
   .obtain⟨g,hg,hr⟩:=Oe h hv h1 h2
    exact⟨g,by rw[cj];exact aJ _ (bR _ hg),hr⟩
   .refine⟨(a::t).getLast (by simp)+1,by rw[cj];exact aJ _ (bV _ (aU.2 J)),fun u hu=>?_⟩
    have k1:=Hb h (by simp) u hu;have k2: ¬v<u:=fun e=>h2 ⟨u,hu,e⟩;have k3:u≠v:=fun e=>hv (e▸hu);constructor<;>intro _<;>grind
  .refine⟨a-1,by rw[cj];exact aQ,fun u hu=>?_⟩
   have k1: ¬u<v:=fun e=>h1 ⟨u,hu,e⟩;have k2: ¬u<a-1:=by
    rcases aW.1 hu with rfl|hu
    .grind
    .rw[bL] at h;have:=h.1 u hu;grind
   constructor
   .intro e;exact absurd e k1
   .intro e;exact absurd e k2
def EO(A B:List Rat)(h: ∀a∈A,∀b∈B,a<b): ∃y,(∀a∈A,a<y)/\ ∀b∈B,y<b:=by
 -- the greatest of A and the least of B
 have hA: ∀(A:List Rat),A≠[]-> ∃m∈A,∀a∈A,a<=m:=by
  intro A
  induction A with
  |nil=>intro h;exact absurd rfl h
  |cons x t ih=>
   intro _;by_cases ht:t=[]
   .subst ht;exact⟨x,aQ,fun a ha=>by rw[aU] at ha;subst ha;exact iW⟩
   .obtain⟨m,hm,hm2⟩:=ih ht
    by_cases hx:m<=x
    .exact⟨x,aQ,fun a ha=>by rcases aW.1 ha with rfl|ha;exact iW;have:=hm2 a ha;grind⟩
    .exact⟨m,aJ _ hm,fun a ha=>by rcases aW.1 ha with rfl|ha;grind;exact hm2 a ha⟩
 have hB: ∀(A:List Rat),A≠[]-> ∃m∈A,∀a∈A,m<=a:=by
  intro A
  induction A with
  |nil=>intro h;exact absurd rfl h
  |cons x t ih=>
   intro _;by_cases ht:t=[]
   .subst ht;exact⟨x,aQ,fun a ha=>by rw[aU] at ha;subst ha;exact iW⟩
   .obtain⟨m,hm,hm2⟩:=ih ht
    by_cases hx:x<=m
    .exact⟨x,aQ,fun a ha=>by rcases aW.1 ha with rfl|ha;exact iW;have:=hm2 a ha;grind⟩
    .exact⟨m,aJ _ hm,fun a ha=>by rcases aW.1 ha with rfl|ha;grind;exact hm2 a ha⟩
 by_cases eA:A=[]
 .subst eA
  by_cases eB:B=[]
  .subst eB;exact⟨0,fun a ha=>(by cases ha),fun a ha=>(by cases ha)⟩
  .obtain⟨m,hm,hm2⟩:=hB B eB
   exact⟨m-1,fun a ha=>(by cases ha),fun b hb=>by have:=hm2 b hb;grind⟩
 .obtain⟨m,hm,hm2⟩:=hA A eA
  by_cases eB:B=[]
  .subst eB;exact⟨m+1,fun a ha=>by have:=hm2 a ha;grind,fun a ha=>(by cases ha)⟩
  .obtain⟨n,hn,hn2⟩:=hB B eB
   have hmn:=h m hm n hn;exact⟨(m+n)/2,fun a ha=>by have:=hm2 a ha;grind,fun b hb=>by have:=hn2 b hb;grind⟩
def dH:List aa->List Rat
 |[]=>[]
 |a::t=>(if a.b=0 then [a.base.x] else [])++(t.filterMap (fun b=>if crossI a b=0 then none else some (cP a b).x)++dH t)
def yA(a:aa)(x:Rat):Rat:= -(((a.a:Rat)*x+(a.c:Rat))/(a.b:Rat))
def gk(l:List aa)(x:Rat):List Rat:=l.filterMap fun a=>if a.b=0 then none else some (yA a x)
def oI(l:List aa):List ah:=(cj (fy (dH l))).flatMap fun x=>(cj (fy (gk l x))).map fun y=>⟨x,y⟩
def Ae{a:aa}: ∀{l:List aa},a∈l->a.b=0->a.base.x∈dH l
 |[],h,_=>by cases h
 |c::t,h,hb=>by
  rw[dH];rcases aW.1 h with rfl|h
  .rw[if_pos hb];exact bR _ aQ
  .exact bV _ (bV _ (Ae h hb))
def KF{a b:aa}: ∀{l:List aa},a∈l->b∈l->crossI a b≠0->(cP a b).x∈dH l\/(cP b a).x∈dH l
 |[],h,_,_=>by cases h
 |c::t,h,k,hx=>by
  have hx2:crossI b a≠0:=by unfold crossI at*;omega
  rw[dH];rcases aW.1 h with h1|h1
  .rcases aW.1 k with k1|k1
   .subst h1;subst k1;unfold crossI at hx;omega
   .subst h1;left
    exact bV _ (bR _ (jL.2 ⟨b,k1,by rw[if_neg hx]⟩))
  .rcases aW.1 k with k1|k1
   .subst k1;right
    exact bV _ (bR _ (jL.2 ⟨a,h1,by rw[if_neg hx2]⟩))
   .rcases KF h1 k1 hx with h2|h2
    .exact .inl (bV _ (bV _ h2))
    .exact .inr (bV _ (bV _ h2))
def P6{a b:aa}(h:crossI a b≠0)(h1:a.value p=0)(h2:b.value p=0):p.x=(cP a b).x:=by
 have hd:((crossI a b:Int):Rat)≠0:=fun e=>h (cY.1 e);unfold cP;rw[if_neg h];show p.x=(meetX a b:Rat)/(crossI a b:Rat);have e1:=vi a b;have e2:=IB a b;rw[jd] at h1 h2;have e3:((crossI a b:Int):Rat)*p.x=(meetX a b:Rat):=by rw[e1,e2];grind
 grind
def av0{l:List aa}{a b:aa}(ha:a∈l)(hb:b∈l)(h:crossI a b≠0)(h1:a.value p=0)(h2:b.value p=0):p.x∈dH l:=by
 have h':crossI b a≠0:=by unfold crossI at*;omega
 rcases KF ha hb h with k|k
 .rw[P6 h h1 h2];exact k
 .rw[P6 h' h2 h1];exact k
def xw{a:aa}(h:a.b≠0)(x y:Rat):a.value ⟨x,y⟩=(a.b:Rat)*(y-yA a x):=by
 have hb:(a.b:Rat)≠0:=fun e=>h (cY.1 e);unfold yA;rw[jd];show(a.a:Rat)*x+(a.b:Rat)*y+(a.c:Rat)=_;grind
def Gu{a:aa}(hn:a.Ne)(h:a.b=0)(x y:Rat):a.value ⟨x,y⟩=(a.a:Rat)*(x-a.base.x):=by
 have ha:(a.a:Rat)≠0:=fun e=>hn ⟨cY.1 e,h⟩;obtain⟨q,hq,hb⟩:=AY hn;rw[hb,jd];show(a.a:Rat)*x+(a.b:Rat)*y+(a.c:Rat)=(a.a:Rat)*(x-(a.a:Rat)*q);simp only[aa.nor,ah.dot] at hq;rw[h] at hq⊢;have:((0:Int):Rat)=0:=J;rw[this] at hq⊢;grind
def JA{l:List aa}{a:aa}(h:a∈l)(hb:a.b≠0)(x:Rat):yA a x∈gk l x:=jL.2 ⟨a,h,by rw[if_neg hb]⟩
def R2{l:List aa}{x y:Rat}(h:y∈gk l x): ∃a∈l,a.b≠0/\y=yA a x:=by
 obtain⟨a,ha,e⟩:=jL.1 h;split at e
 .cases e
 .rename_i hb;cases e;exact⟨a,ha,hb,rfl⟩
def J3{l:List aa}:p∈oI l↔p.x∈cj (fy (dH l))/\p.y∈cj (fy (gk l p.x)):=by
 unfold oI;rw[iQ];constructor
 .rintro ⟨x,hx,hp⟩
  obtain⟨y,hy,rfl⟩:=aT.1 hp;exact⟨hx,hy⟩
 .rintro ⟨h1,h2⟩
  exact⟨p.x,h1,aT.2 ⟨p.y,h2,J⟩⟩
def Qz{l:List aa}(hok: ∀a∈l,a.Ne)(hp:p∈oI l):dB l p:=by
 obtain⟨h1,h2⟩:=J3.1 hp;have k1:=Ct (w5 _) h1;have k2:=Ct (w5 _) h2;rw[pg] at k1 k2;obtain⟨x,y⟩:=p;intro a ha h0;by_cases hb:a.b=0
 .rw[Gu (hok a ha) hb] at h0
  have ha0:(a.a:Rat)≠0:=fun e=>hok a ha ⟨cY.1 e,hb⟩;apply k1;have:x=a.base.x:=by
   rcases fJ.1 h0 with h|h
   .exact absurd h ha0
   .grind
  show x∈_;rw[this];exact Ae ha hb
 .rw[xw hb] at h0
  have hb0:(a.b:Rat)≠0:=fun e=>hb (cY.1 e);apply k2;have:y=yA a x:=by
   rcases fJ.1 h0 with h|h
   .exact absurd h hb0
   .grind
  show y∈gk l x;rw[this];exact JA ha hb x
def ZT(xs:List Rat)(a e:Rat)(he:0<e): ∃d,0<d/\d<=e/\a+d∉xs:=by
 induction xs generalizing e with
 |nil=>exact⟨e,he,iW,by simp⟩
 |cons x t ih=>
  by_cases hx:a<x
  .obtain⟨d,h1,h2,h3⟩:=ih (if e<=(x-a)/2 then e else(x-a)/2) (by split<;>grind)
   refine⟨d,h1,by split at h2<;>grind,fun hm=>?_⟩;rcases aW.1 hm with h|h
   .split at h2<;>grind
   .exact h3 h
  .obtain⟨d,h1,h2,h3⟩:=ih e he
   refine⟨d,h1,h2,fun hm=>?_⟩;rcases aW.1 hm with h|h
   .grind
   .exact h3 h
def ul(l:aa)(p:ah):aa:=if 0<l.value p then l else l.rev
def YV{l:aa}(h:l.value p≠0):0<(ul l p).value p:=by
 unfold ul;split
 .assumption
 .rw[fe];grind
def T'{l:aa}{q:ah}(h:l.value p≠0)(k:0<(ul l p).value q):0<l.value p↔0<l.value q:=by
 unfold ul at k;split at k
 .rename_i h1;exact⟨fun _=>k,fun _=>h1⟩
 .rename_i h1;rw[fe] at k;constructor<;>intro _<;>grind
def shift{l:List aa}{q:ah}(ho:dB l q)(xs:List Rat): ∃q':ah,(∀a∈l,0<a.value q↔0<a.value q')/\dB l q'/\q'.x∉xs:=by
 have hD:bu (l.map fun a=>⟨ul a q,ar.all⟩) q:=fun s hs=>by
  obtain⟨a,ha,rfl⟩:=aT.1 hs;exact YV (ho a ha)
 obtain⟨e,he,hm⟩:=hD.open ⟨1,0⟩;obtain⟨d,h1,h2,h3⟩:=ZT xs q.x e he;have hd:=hm d (dQ h1) h2;have key: ∀a∈l,0<(ul a q).value (cF q ⟨1,0⟩ d):=fun a ha=>hd ⟨ul a q,ar.all⟩ (aT.2 ⟨a,ha,J⟩);refine⟨cF q ⟨1,0⟩ d,fun a ha=>T' (ho a ha) (key a ha),fun a ha h0=>?_,?_⟩
 .have:=key a ha
  unfold ul at this;split at this
  .grind
  .rw[fe] at this;grind
 .show q.x+d*1∉xs
  rw[show d*1=d by grind];exact h3
def axd{l:List aa}(hok: ∀a∈l,a.Ne){q:ah}(ho:dB l q): ∃p∈oI l,∀a∈l,0<a.value q↔0<a.value p:=by
 obtain⟨⟨qx,qy⟩,hs,ho2,hx⟩:=shift ho (dH l);obtain⟨x0,hx0,hr⟩:=RS (w5 (dH l)) (v:=qx) (by rw[pg];exact hx);have hx0':=Ct (w5 _) hx0;rw[pg] at hx0';have hr': ∀u∈dH l,u<qx↔u<x0:=fun u hu=>hr u (pg.2 hu)
 -- the order on the vertical line is the same
 have order: ∀a∈l,∀b∈l,a.b≠0->b.b≠0->yA a qx<yA b qx->yA a x0<yA b x0:=by
  intro a ha b hb hab hbb hlt;by_cases hc:crossI a b=0
  .have e1:=vi a b
   rw[hc] at e1;have h0:((0:Int):Rat)=0:=J;rw[h0] at e1;have na:(a.b:Rat)≠0:=fun e=>hab (cY.1 e);have nb':(b.b:Rat)≠0:=fun e=>hbb (cY.1 e);have e2: ∀x,yA b x-yA a x=(a.c:Rat)/a.b-(b.c:Rat)/b.b:=fun x=>by
    unfold yA;grind
   have:=e2 qx;have:=e2 x0;grind
  .by_cases h:yA a x0<yA b x0
   .exact h
   .exfalso
    -- a crossing EO
    generalize hA:yA b qx-yA a qx=A;generalize hB:yA b x0-yA a x0=B;have hAB:0<A-B:=by grind
    have e:A/(A-B)*(A-B)=A:=by grind
    generalize hR:A/(A-B)=r at*;have r0:0<r:=(f8 hAB).1 (by rw[e];grind);have r1:r<=1:=by
     have:=(ij (s:=1-r) hAB).1 (by grind);grind
    have na:(a.b:Rat)≠0:=fun e=>hab (cY.1 e);have nb':(b.b:Rat)≠0:=fun e=>hbb (cY.1 e);have lin: ∀c:aa,c.b≠0->yA c (qx+r*(x0-qx))=yA c qx+r*(yA c x0-yA c qx):=fun c hc=>by
     have:(c.b:Rat)≠0:=fun e=>hc (cY.1 e);unfold yA;grind
    have hz:yA a (qx+r*(x0-qx))=yA b (qx+r*(x0-qx)):=by
     rw[lin a hab,lin b hbb];grind
    generalize hzx:qx+r*(x0-qx)=z at*;have hm:z∈dH l:=av0 (p:=⟨z,yA a z⟩) ha hb hc (by rw[xw hab];grind) (by rw[xw hbb,hz];grind);have hi:=hr' z hm;have hne:z≠x0:=fun e=>hx0' (e▸hm);have hne2:z≠qx:=fun e=>hx (e▸hm);rcases j0 (x0-qx) with k|k|k
    .apply hne2;rw[<-hzx,k];grind
    .have p1:=dd r0 k
     have p2:=cG (a:=1-r) (b:=x0-qx) (by grind) (dQ k);have:z<x0:=by grind
     have:=hi.2 this;grind
    .have p1:=dd r0 (b:=qx-x0) (by grind)
     have p2:=cG (a:=1-r) (b:=qx-x0) (by grind) (by grind);have:z<qx:=by grind
     have:=hi.1 this;grind
 -- a height EO the lower and the upper lines
 obtain⟨y',hy1,hy2⟩:=EO ((l.filter fun(a:aa)=>decide (a.b≠0/\yA a qx<qy)).map fun(a:aa)=>yA a x0) ((l.filter fun(a:aa)=>decide (a.b≠0/\qy<yA a qx)).map fun(a:aa)=>yA a x0) (fun u hu v hv=>by
  obtain⟨a,ha,rfl⟩:=aT.1 hu;obtain⟨b,hb,rfl⟩:=aT.1 hv;simp only[pZ,decide_eq_true_eq] at ha hb;exact order a ha.1 b hb.1 ha.2.1 hb.2.1 (by have:=ha.2.2;have:=hb.2.2;grind))
 have tri: ∀a∈l,a.b≠0->yA a qx<qy\/qy<yA a qx:=fun a ha hb=>by
  have h1:=ho2 a ha;rw[xw hb] at h1;have:qy≠yA a qx:=fun e=>h1 (by rw[e];grind);grind
 have low: ∀a∈l,a.b≠0->yA a qx<qy->yA a x0<y':=fun a ha hb h=>hy1 _ (aT.2 ⟨a,by simp only[pZ,decide_eq_true_eq];exact⟨ha,hb,h⟩,J⟩);have upp: ∀a∈l,a.b≠0->qy<yA a qx->y'<yA a x0:=fun a ha hb h=>hy2 _ (aT.2 ⟨a,by simp only[pZ,decide_eq_true_eq];exact⟨ha,hb,h⟩,J⟩);have hy':y'∉gk l x0:=fun hm=>by
  obtain⟨a,ha,hb,e⟩:=R2 hm;rcases tri a ha hb with h|h
  .have:=low a ha hb h;grind
  .have:=upp a ha hb h;grind
 obtain⟨y0,hy0,hry⟩:=RS (w5 (gk l x0)) (v:=y') (by rw[pg];exact hy');have hy0':=Ct (w5 _) hy0;rw[pg] at hy0';refine⟨⟨x0,y0⟩,J3.2 ⟨hx0,hy0⟩,fun a ha=>?_⟩;rw[hs a ha];by_cases hb:a.b=0
 .rw[Gu (hok a ha) hb,Gu (hok a ha) hb]
  have hi:=hr' _ (Ae ha hb);have n1:a.base.x≠qx:=fun e=>hx (e▸Ae ha hb);have n2:a.base.x≠x0:=fun e=>hx0' (e▸Ae ha hb);have ha0:(a.a:Rat)≠0:=fun e=>hok a ha ⟨cY.1 e,hb⟩;generalize a.base.x=u at*;generalize (a.a:Rat)=A at*;by_cases h1:u<qx
  .have h2:=hi.1 h1
   rw[f8 (k:=qx-u) (by grind),f8 (k:=x0-u) (by grind)]
  .have h2: ¬u<x0:=fun e=>h1 (hi.2 e)
   have e1:A*(qx-u)=(-A)*(u-qx):=by grind
   have e2:A*(x0-u)=(-A)*(u-x0):=by grind
   rw[e1,e2,f8 (k:=u-qx) (by grind),f8 (k:=u-x0) (by grind)]
 .rw[xw hb,xw hb]
  have hi:=hry (yA a x0) (pg.2 (JA ha hb x0));have n2:yA a x0≠y0:=fun e=>hy0' (e▸JA ha hb x0);have lo:=low a ha hb;have up:=upp a ha hb;have tri:=tri a ha hb;generalize yA a x0=v at*;generalize yA a qx=u at*;generalize (a.b:Rat)=B at*;rcases tri with h|h
  .have h3:=hi.1 (lo h)
   rw[f8 (k:=qy-u) (by grind),f8 (k:=y0-v) (by grind)]
  .have h3:=up h
   have h4: ¬v<y0:=fun e=>by have:=hi.2 e;grind
   have e1:B*(qy-u)=(-B)*(u-qy):=by grind
   have e2:B*(y0-v)=(-B)*(v-y0):=by grind
   rw[e1,e2,f8 (k:=u-qy) (by grind),f8 (k:=v-y0) (by grind)]
def oe(out:List Rat)(s:ar):List Rat:=if s.nh then(if s.nl then out else ke s.lo out) else ke s.hi (if s.nl then out else ke s.lo out)
def jy(l:List ar):List Rat:=l.foldl oe []
def vg:List ar->Rat->Int
 |[],_=>0
 |s::t,x=>
  let a:=if s.nl then 1 else bw x s.lo
  let b:=if s.nh then-1 else bw x s.hi
  if 0<a/\b<0 then 2 else if(a=0/\b<=0)\/(b=0/\0<=a) then 1 else vg t x
def gn(l:List ar)(x:Rat):Bool:=decide (vg l x=2)
def fg(cuts:List Rat)(i:Nat):ar:=⟨if i=0 then 0 else cuts.getD (i-1) 0,if i<cuts.length then cuts.getD i 0 else 0,decide (i=0),decide (i=cuts.length)⟩
def ui(v w:ar):ar:=⟨v.lo,w.hi,v.nl,w.nh⟩
def gI(cuts:List Rat)(marks:List Bool):Nat->List ar
 |0=>[]
 |k+1=>
  let out:=gI cuts marks k
  if marks.getD k false then
   (if 0<k/\marks.getD (k-1) false=true then(match out.getLast? with
    |some v=>out.dropLast++[ui v (fg cuts k)]
    |none=>out++[fg cuts k]) else out++[fg cuts k])
  else out
def vY(cuts:List Rat)(marks:List Bool):List ar:=gI cuts marks marks.length
def nP(op:Int)(x y:Bool):Bool:=if op=2 then x&&y else if op=3 then x&&!y else if op=4 then x !=y else x||y
def qb(op:Int)(a b:List ar):List ar:=vY (jy (a++b)) ((cj (jy (a++b))).map fun t=>nP op (gn a t) (gn b t))
def jf(l m:aa)(side:Int):List ar:=
 if crossI l m=0 then(if(m.value l.base).num.sign=side then [ar.all] else [])
 else if(m.value (l.at (ja l (cP l m)+1))).num.sign=side then [⟨ja l (cP l m),0,false,true⟩] else [⟨0,ja l (cP l m),true,false⟩]
def lI(l m:aa):Bool:=decide (crossI l m=0/\(m.value l.base).num.sign=0)
def fm(f:bA)(m:aa)(side:Int):List bA:=if lI f.l m then [] else(qb 2 [f.v] (jf f.l m side)).map fun v=>⟨f.l,v⟩
def O0(l:List ar):(jy l).Pairwise (· < ·)/\ ∀y∈jy l,∃s∈l,(s.nl=false/\y=s.lo)\/(s.nh=false/\y=s.hi):=by
 have key: ∀(l:List ar) (o:List Rat),o.Pairwise (· < ·)->(l.foldl oe o).Pairwise (· < ·)/\ ∀y∈l.foldl oe o,y∈o\/ ∃s∈l,(s.nl=false/\y=s.lo)\/(s.nh=false/\y=s.hi):=by
  intro l
  induction l with
  |nil=>intro o h;exact⟨h,fun y hy=> .inl hy⟩
  |cons s t ih=>
   intro o h;have h1:(oe o s).Pairwise (· < ·)/\ ∀y∈oe o s,y∈o\/(s.nl=false/\y=s.lo)\/(s.nh=false/\y=s.hi):=by
    unfold oe
    cases e1:s.nl<;>cases e2:s.nh<;>simp only[if_true,kW,if_false]
    .refine⟨y7 (y7 h),fun y hy=>?_⟩
     rcases qa.1 hy with h|h
     .exact .inr (.inr ⟨trivial,h⟩)
     .rcases qa.1 h with h|h
      .exact .inr (.inl ⟨trivial,h⟩)
      .exact .inl h
    .refine⟨y7 h,fun y hy=>?_⟩
     rcases qa.1 hy with h|h
     .exact .inr (.inl ⟨trivial,h⟩)
     .exact .inl h
    .refine⟨y7 h,fun y hy=>?_⟩
     rcases qa.1 hy with h|h
     .exact .inr (.inr ⟨trivial,h⟩)
     .exact .inl h
    .exact⟨h,fun y hy=> .inl hy⟩
   obtain⟨k1,k2⟩:=ih (oe o s) h1.1;refine⟨k1,fun y hy=>?_⟩;rcases k2 y hy with h2|⟨q,hq,h2⟩
   .rcases h1.2 y h2 with h3|h3
    .exact .inl h3
    .exact .inr ⟨s,aQ,h3⟩
   .exact .inr ⟨q,aJ _ hq,h2⟩
 have:=key l [] List.Pairwise.nil;refine⟨this.1,fun y hy=>?_⟩;rcases this.2 y hy with h|h
 .cases h
 .exact h
structure HX (cuts:List Rat) (v:ar):Prop where
 z:gy v
 lo:v.nl=true\/v.lo∈cuts
 hi:v.nh=true\/v.hi∈cuts
def Xd{cuts:List Rat}(h:i<=cuts.length):HX cuts (fg cuts i):=by
 unfold fg;refine⟨⟨fun e=>?_,fun e=>?_⟩,?_,?_⟩
 .simp only[decide_eq_true_eq] at e;simp[e]
 .simp only[decide_eq_true_eq] at e;simp[e]
 .by_cases h0:i=0
  .left;simp[h0]
  .right
   simp only[if_neg h0];rw[aV,aZ (by omega)];exact dX _
 .by_cases h0:i=cuts.length
  .left;simp[h0]
  .right
   simp only[if_pos (show i<cuts.length by omega)];rw[aV,aZ (by omega)];exact dX _
def Lp{cuts:List Rat}{marks:List Bool}: ∀{k:Nat},k<=cuts.length+1-> ∀v∈gI cuts marks k,HX cuts v
 |0,_,v,hv=>by cases hv
 |k+1,hk,v,hv=>by
  have ih:=Lp (cuts:=cuts) (marks:=marks) (k:=k) (by omega);have hg:=Xd (cuts:=cuts) (i:=k) (by omega);rw[gI] at hv;split at hv
  .split at hv
   .split at hv
    .rename_i w hw
     rcases bJ.1 hv with h|h
     .exact ih v ((List.dropLast_sublist _).subset h)
     .rw[aU] at h;subst h
      have hw':=ih w (List.mem_of_getLast? hw);exact⟨⟨hw'.z.1,hg.z.2⟩,hw'.lo,hg.hi⟩
    .rcases bJ.1 hv with h|h
     .exact ih v h
     .rw[aU] at h;subst h;exact hg
   .rcases bJ.1 hv with h|h
    .exact ih v h
    .rw[aU] at h;subst h;exact hg
  .exact ih v hv
def yn{l:List Rat}:(cj l).length=l.length+1:=by
 have key: ∀(l:List Rat) (a:Rat),(iC (a::l)).length=l.length:=by
  intro l
  induction l with
  |nil=>intro a;rfl
  |cons b t ih=>intro a;rw[iC,bZ,ih b,bZ]
 cases l with
 |nil=>rfl
 |cons a t=>rw[cj,bZ,aY,key];simp
def axJ{a b:List ar}: ∀v∈qb op a b,HX (jy (a++b)) v:=fun v hv=>by
 unfold qb vY at hv;refine Lp ?_ v hv;rw[aX,yn];omega
def Io{cuts:List Rat}{marks:List Bool}: ∀{k:Nat},(gI cuts marks k).length<=k
 |0=>bW _
 |k+1=>by
  have ih:=Io (cuts:=cuts) (marks:=marks) (k:=k);rw[gI];split
  .split
   .split
    .rename_i w hw
     have:=List.length_pos_of_mem (List.mem_of_getLast? hw);rw[aY,mY];simp;omega
    .rw[aY];simp;omega
   .rw[aY];simp;omega
  .omega
structure pj (f:bA):Prop where
 lb:LB f.l
 ok:f.l.ok
 z:gy f.v
 lo:BQ f.v.lo 1200
 hi:BQ f.v.hi 1200
theorem BQ.zero1200:BQ (0:Rat) 1200:=BQ.mono (k:=1) ⟨by decide,by decide⟩
def Jt{l m:aa}(hl:LB l)(hm:LB m)(hlo:l.ok): ∀v∈jf l m side,gy v/\BQ v.lo 1200/\BQ v.hi 1200:=fun v hv=>by
 unfold jf at hv;split at hv
 .split at hv
  .rw[aU] at hv;subst hv;exact⟨gy.all,BQ.zero1200,BQ.zero1200⟩
  .cases hv
 .rename_i hc
  have:=CT hlo.ne hc;split at hv
  .rw[aU] at hv;subst hv;exact⟨⟨fun h=>(by cases h),fun _=>J⟩,this,BQ.zero1200⟩
  .rw[aU] at hv;subst hv;exact⟨⟨fun _=>J,fun h=>(by cases h)⟩,BQ.zero1200,this⟩
def GS{m:aa}(h:pj f)(hm:LB m): ∀g∈fm f m side,pj g/\g.l=f.l/\lI f.l m=false:=fun g hg=>by
 unfold fm at hg;split at hg
 .cases hg
 .rename_i ho
  obtain⟨v,hv,rfl⟩:=aT.1 hg;have hi:=axJ v hv;have bd: ∀y∈jy ([f.v]++jf f.l m side),BQ y 1200:=fun y hy=>by
   obtain⟨s,hs,h1⟩:=(O0 _).2 y hy;rcases bJ.1 hs with hs|hs
   .rw[aU] at hs;subst hs
    rcases h1 with⟨_,rfl⟩|⟨_,rfl⟩
    .exact h.lo
    .exact h.hi
   .have:=Jt h.lb hm h.ok s hs
    rcases h1 with⟨_,rfl⟩|⟨_,rfl⟩
    .exact this.2.1
    .exact this.2.2
  refine⟨⟨h.lb,h.ok,hi.z,?_,?_⟩,J,by simpa using ho⟩
  .rcases hi.lo with e|e
   .rw[hi.z.1 e];exact BQ.zero1200
   .exact bd _ e
  .rcases hi.hi with e|e
   .rw[hi.z.2 e];exact BQ.zero1200
   .exact bd _ e
def jo(acc:ah->Bool):Nat->List bA->List aa->Tr
 |_,[],c=> .leaf (acc (jB c c))
 |0,_::_,_=> .leaf false
 |n+1,f::t,c=> .node f.l (jo acc n ((f::t).flatMap fun g=>fm g f.l 1) (c++[f.l])) (jo acc n ((f::t).flatMap fun g=>fm g f.l (-1)) (c++[f.l.rev]))
def azU{g:bA}{m:aa}(h:g∈fm f m side):g.l=f.l:=by
 unfold fm at h;split at h
 .cases h
 .obtain⟨v,_,rfl⟩:=aT.1 h;rfl
def y6{acc:ah->Bool}{P:aa->Prop}: ∀{n:Nat} {l:List bA} {c:List aa},(∀f∈l,P f.l)->(jo acc n l c).all P
 |n,[],c,_=>by unfold jo;trivial
 |0,_::_,_,_=>by unfold jo;trivial
 |n+1,f::t,c,h=>by
  rw[jo];refine⟨h f aQ,y6 fun g hg=>?_,y6 fun g hg=>?_⟩<;>
  .obtain⟨q,hq,hg⟩:=iQ.1 hg
   rw[azU hg];exact h q hq
def Ie{acc:ah->Bool}: ∀{n:Nat} {l:List bA} {c:List aa},(jo acc n l c).depth<=n
 |n,[],c=>by unfold jo;exact aM _
 |0,_::_,_=>by unfold jo;exact aM _
 |n+1,f::t,c=>by
  rw[jo,Tr.depth];have h1:=Ie (acc:=acc) (n:=n) (l:=(f::t).flatMap fun g=>fm g f.l 1) (c:=c++[f.l]);have h2:=Ie (acc:=acc) (n:=n) (l:=(f::t).flatMap fun g=>fm g f.l (-1)) (c:=c++[f.l.rev]);omega
def sk(n:Nat)(l:List bA):Prop:= ∃K:List aa,K.length<=n/\ ∀f∈l,∃m∈K,m.same f.l
def LH{m:aa}(hm:m.Ne):m.value m.base=0:=by
 have h:=lE hm 0;rw[<-wW,jc] at h;grind
def azg{l m:aa}(h:l.same m)(hm:m.Ne):lI m l=true:=by
 unfold lI;rw[decide_eq_true_iff];refine⟨?_,?_⟩
 .rcases h with rfl|rfl
  .unfold crossI;omega
  .unfold crossI aa.rev
   show(-l.a)*l.b-l.a*(-l.b)=0;grind
 .rw[o9]
  exact nk h.symm (LH hm)
def sk.split{n:Nat}{t:List bA}(h:sk (n+1) (f::t))(hok: ∀g∈f::t,pj g):sk n ((f::t).flatMap fun g=>fm g f.l side):=by
 obtain⟨K,hK,hs⟩:=h;refine⟨K.filter fun m=>!decide (m.same f.l),?_,fun g hg=>?_⟩
 .obtain⟨m,hm,hm2⟩:=hs f aQ
  have:(K.filter fun m=>!decide (m.same f.l)).length<K.length:=by
   refine List.length_filter_lt_length_iff_exists.2 ⟨m,hm,by simp[hm2]⟩
  omega
 .obtain⟨q,hq,hg⟩:=iQ.1 hg
  obtain⟨_,e,ho⟩:=GS (hok q hq) (hok f aQ).lb g hg;obtain⟨m,hm,hm2⟩:=hs q hq;refine⟨m,pZ.2 ⟨hm,?_⟩,by rw[e];exact hm2⟩;simp only[gM,decide_eq_false_iff_not];intro h;have:=azg (h.symm.trans hm2) (hok q hq).ok.ne;rw[this] at ho;cases ho
def TQ{p q r:Bool}{c:Nat}(h:Nat.gcd a b≠0):aa.ok ⟨zv p (a/Nat.gcd (Nat.gcd a b) c),zv q (b/Nat.gcd (Nat.gcd a b) c),zv r (c/Nat.gcd (Nat.gcd a b) c)⟩:=by
 have hg:0<Nat.gcd (Nat.gcd a b) c:=mS _ (iV h);have d0:Nat.gcd (Nat.gcd a b) c∣Nat.gcd a b:=kS _ _;have d1:Nat.gcd (Nat.gcd a b) c∣a:=qS d0 (kS _ _);have d2:Nat.gcd (Nat.gcd a b) c∣b:=qS d0 (lN _ _);have d3:Nat.gcd (Nat.gcd a b) c∣c:=lN _ _;refine⟨?_,?_⟩
 .rintro ⟨h1,h2⟩
  have h1':=congrArg Int.natAbs h1;have h2':=congrArg Int.natAbs h2;simp only[q8,lW] at h1' h2';have e1:=Nat.div_mul_cancel d1;have e2:=Nat.div_mul_cancel d2;rw[h1',kK] at e1;rw[h2',kK] at e2;exact h (by rw[<-e1,<-e2];rfl)
 .simp only[q8]
  rw[Nat.gcd_div d1 d2,Nat.gcd_div d0 d3,Nat.div_self hg]
def Gy(p:Bool)(a g:Nat):(zv p (a/g)).natAbs<=a:=by rw[q8];exact mM ..
def PF.eq{P:Program}{f:FuncId}{vs:List DV}{r r':DV}(h:PF GB P f vs r)(e:r=r'):PF GB P f vs r':=e▸h
def iP(m n:Int):ah:=⟨(m:Rat),(n:Rat)⟩
theorem Er(h:m.natAbs<2^k:=by omega):BI m k:=⟨h⟩
theorem me(h:m.natAbs<=1000)(hk:10<=k:=by decide):BI m k:=⟨cM (show m.natAbs<2^10 by omega) (bY (by decide) hk)⟩
instance aD.int (m n:Int) (i:Nat) [h:BI m i] [k:BI n i]:aD (iP m n) (i+1):=⟨inferInstanceAs (BQ (m:Rat) (i+1)),inferInstanceAs (BQ (n:Rat) (i+1))⟩
def ub{q:Rat}{k:Int}(h:q=(k:Rat)):eQ q=eQ (k:Rat):=by rw[h]
def ePI{n:Int}(h1:p.x=(m:Rat))(h2:p.y=(n:Rat)):eP p=eP (iP m n):=by
 obtain⟨x,y⟩:=p;simp only at h1 h2;subst h1 h2;rfl
def my(a b c:Int):aa:=
 ⟨zv (decide (a<0)) (a.natAbs/Nat.gcd (Nat.gcd a.natAbs b.natAbs) c.natAbs),zv (decide (b<0)) (b.natAbs/Nat.gcd (Nat.gcd a.natAbs b.natAbs) c.natAbs),zv (decide (c<0)) (c.natAbs/Nat.gcd (Nat.gcd a.natAbs b.natAbs) c.natAbs)⟩
def GN{a b c:Int}(h: ¬(a=0/\b=0)):(my a b c).ok:=
 TQ fun e=>h ⟨kU.1 (mJ e),kU.1 (mQ e)⟩
def zc(a b c:Int):(my a b c).a.natAbs<=a.natAbs/\(my a b c).b.natAbs<=b.natAbs/\(my a b c).c.natAbs<=c.natAbs:=⟨Gy ..,Gy ..,Gy ..⟩
def ll{n:Int}(hm:m.natAbs<=1000:=by omega)(hn:n.natAbs<=1000:=by omega):PF GB prog 38 [.v (.int .i64 m), .v (.int .i64 n)] (eP (iP m n)):=by
 refine fn func38 J J ntmps38 J J (fun C=>?_);refine cl J (iD (n:=m) (by omega) (by omega)) J<|cl J (iD (n:=n) (by omega) (by omega)) J<|rz J J
def Ej{n k:Int}(hm:m.natAbs<=1000)(hn:n.natAbs<=1000)(hm':m'.natAbs<=1000)(hn':n'.natAbs<=1000)(hk:k.natAbs<=1000:=by decide):PF GB prog 31 [eP (iP m n),eQ (k:Rat),eP (iP m' n')] (eP (iP (m+k*m') (n+k*n'))):=by
 haveI:=me (k:=10) hm;haveI:=me (k:=10) hn;haveI:=me (k:=10) hm';haveI:=me (k:=10) hn';haveI:=me (k:=10) hk;exact PF.eq (sB (p:=iP m n) (q:=iP m' n') (c:=(k:Rat))) (ePI (by show(m:Rat)+(k:Rat)*(m':Rat)=_;push_cast;rfl) (by show(n:Rat)+(k:Rat)*(n':Rat)=_;push_cast;rfl))
def UF{n:Int}(hm:m.natAbs<=1000)(hn:n.natAbs<=1000)(hm':m'.natAbs<=1000)(hn':n'.natAbs<=1000):PF GB prog 143 [eP (iP m n),eP (iP m' n')] (eP (iP (m-m') (n-n'))):=by
 refine fn func143 J J ntmps143 J J (fun C=>?_);refine cl J (iD (n:= -1)) J<|cl J (Ej (m:=m) (n:=n) (m':=m') (n':=n') (k:= -1) hm hn hm' hn') J<|rz J (by rw[show m-m'=m+ -1*m' by omega,show n-n'=n+ -1*n' by omega];rfl)
def V2{n:Int}(hm:m.natAbs<=1000)(hn:n.natAbs<=1000)(hm':m'.natAbs<=1000)(hn':n'.natAbs<=1000):PF GB prog 158 [eP (iP m n),eP (iP m' n')] (.v (.bool (decide (m=m'/\n=n')))):=by
 haveI:=me (k:=10) hm;haveI:=me (k:=10) hn;haveI:=me (k:=10) hm';haveI:=me (k:=10) hn';refine fn func158 J J ntmps158 J J (fun C=>?_);refine cl J (ki (a:=(m:Rat)) (b:=(m':Rat))) J<|cs 11 J J J (fun hg11=>?_) (fun hg11=>?_)
 .
  refine cl J (ki (a:=(n:Rat)) (b:=(n':Rat))) J<|rz J (by rw[u7] at hg11;have e:m=m':=(by exact_mod_cast hg11);exact congrArg (fun z=>DV.v (.bool z)) (decide_eq_decide.2 (by rw[u7,rQ];simp[e])))
 .
  exact rz J (by rw[u7] at hg11;have e: ¬m=m':=(fun e=>hg11 (by rw[e]));show DV.v (.bool false)=DV.v (.bool _);rw[decide_eq_false (fun h=>e h.1)])
def O7(ha:a<k)(hb:b<k):Nat.gcd a b<k:=by
 rcases fT a with rfl|p
 .simpa using hb
 .exact dR (Nat.gcd_le_left b p) ha
def Qe{a b c:Int}(ha:BI a i)(hb:BI b i)(hc:BI c i)(hi:i<=100000000)(h0: ¬(a=0/\b=0)):PF GB prog 146 [eI a,eI b,eI c] (.tp [eL (my a b c), .v (.bool true)]):=by
 have hgn:Nat.gcd a.natAbs b.natAbs≠0:=fun h=>h0 ⟨kU.1 (mJ h),kU.1 (mQ h)⟩;have hgp:0<Nat.gcd (Nat.gcd a.natAbs b.natAbs) c.natAbs:=mS _ (iV hgn);haveI hb1:BN (Nat.gcd a.natAbs b.natAbs) i:=⟨O7 ha.h hb.h⟩;haveI hb2:BN (Nat.gcd (Nat.gcd a.natAbs b.natAbs) c.natAbs) i:=⟨O7 hb1.h hc.h⟩;refine fn func146 J J ntmps146 J J (fun C=>?_);refine cl J (Ad (a:=a.natAbs) (b:=b.natAbs) (by omega) (by omega)) J<|br J J J (fun hc22=>?_) (fun hc22=>?_)
 .
  exact absurd hc22 (by rw[aX];intro h;exact hgn (vq.1 (by omega)))
 .
  refine cl J (Ad (a:=Nat.gcd a.natAbs b.natAbs) (b:=c.natAbs) (by omega) (by omega)) J<|cl J (y9 (a:=a.natAbs) (b:=Nat.gcd (Nat.gcd a.natAbs b.natAbs) c.natAbs) hgp (by omega) (by omega)) J<|cl J (y9 (a:=b.natAbs) (b:=Nat.gcd (Nat.gcd a.natAbs b.natAbs) c.natAbs) hgp (by omega) (by omega)) J<|cl J (y9 (a:=c.natAbs) (b:=Nat.gcd (Nat.gcd a.natAbs b.natAbs) c.natAbs) hgp (by omega) (by omega)) J<|cl J (jF (m:=a.natAbs/(Nat.gcd (Nat.gcd a.natAbs b.natAbs) c.natAbs)) (neg:=decide (a<0))) J<|cl J (jF (m:=b.natAbs/(Nat.gcd (Nat.gcd a.natAbs b.natAbs) c.natAbs)) (neg:=decide (b<0))) J<|cl J (jF (m:=c.natAbs/(Nat.gcd (Nat.gcd a.natAbs b.natAbs) c.natAbs)) (neg:=decide (c<0))) J<|rz J J
def ln(n n':Int):Int:= -(n'-n)
def lw(m m':Int):Int:=m'-m
def sv(m n m' n':Int):Int:= -(ln n n'*m+lw m m'*n)
def mA(m n m' n':Int):aa:=my (ln n n') (lw m m') (sv m n m' n')
def E8{a b:Int}(ha:a.natAbs<=2000)(hb:b.natAbs<=1000):(a*b).natAbs<=2000000:=by
 rw[fV];exact gL ha hb
def Pq{n:Int}(hm:m.natAbs<=1000)(hn:n.natAbs<=1000)(hm':m'.natAbs<=1000)(hn':n'.natAbs<=1000)(h0: ¬(m=m'/\n=n')):PF GB prog 73 [eP (iP m n),eP (iP m' n')] (.tp [eL (mA m n m' n'), .v (.bool true)]):=by
 obtain⟨a,hA⟩: ∃a,a=ln n n':=⟨_,rfl⟩;obtain⟨b,hB⟩: ∃b,b=lw m m':=⟨_,rfl⟩;have hA':a= -(n'-n):=hA;have hB':b=m'-m:=hB;obtain⟨c,hC⟩: ∃c,c= -(a*m+b*n):=⟨_,rfl⟩;have e1:=E8 (a:=a) (b:=m) (by omega) hm;have e2:=E8 (a:=b) (b:=n) (by omega) hn;haveI hm0:=me (k:=10) hm;haveI hn0:=me (k:=10) hn;haveI ha:BI a 30:=Er;haveI hb:BI b 30:=Er;haveI hc:BI c 30:=Er;have hthr:mA m n m' n'=my a b c:=by rw[hC,hA,hB];rfl
 have hne: ¬(a=0/\b=0):=fun h=>h0 (by omega);refine fn func73 J J ntmps73 J J (fun C=>?_);refine cl J (UF (m:=m') (n:=n') (m':=m) (n':=n) hm' hn' hm hn) J<|cl J (PF.eq (nE (q:=(((n'-n):Int):Rat))) (ub (k:=a) (by rw[hA'];push_cast;rfl))) J<|cl J (PF.eq (gr (a:=(a:Rat)) (b:=(m:Rat))) (ub (k:=a*m) (by push_cast;rfl))) J<|cl J (PF.eq (by haveI:BI (m'-m) 30:=(by rw[<-hB'];exact hb);exact gr (a:=(((m'-m):Int):Rat)) (b:=(n:Rat))) (ub (k:=b*n) (by rw[hB'];push_cast;rfl))) J<|cl J (PF.eq (ml (a:=((a*m:Int):Rat)) (b:=((b*n:Int):Rat))) (ub (k:=a*m+b*n) (by push_cast;rfl))) J<|cl J (PF.eq (nE (q:=((a*m+b*n:Int):Rat))) (ub (k:=c) (by rw[hC];push_cast;rfl))) J<|cl J (je (q:=(a:Rat))) J<|cl J (je (q:=(((m'-m):Int):Rat))) J<|cl J (PF.eq (pc (a:=1) (b:=1)) J) J<|cl J (je (q:=(c:Rat))) J<|cl J (PF.eq (pc (a:=1) (b:=1)) J) J<|cl (fu:=⟨1⟩) J (jF (neg:=false) (m:=1)) J<|aj 40 (.d (eQ ((1:Int):Rat))) J J<|gx J<|cl J (PF.eq (gr (a:=(a:Rat)) (b:=((1:Int):Rat))) (ub (k:=a) (by push_cast;grind))) J<|cl J (PF.eq (by haveI:BI (m'-m) 30:=(by rw[<-hB'];exact hb);exact gr (a:=(((m'-m):Int):Rat)) (b:=((1:Int):Rat))) (ub (k:=b) (by rw[hB'];push_cast;grind))) J<|cl J (PF.eq (gr (a:=(c:Rat)) (b:=((1:Int):Rat))) (ub (k:=c) (by push_cast;grind))) J<|cl J (Qe (a:=a) (b:=b) (c:=c) ha hb hc (by decide) hne) J<|rz J (by rw[hthr];rfl)
def axv(h:a<es.length):(es.map vI)[(a:Int).toNat]? =some (vI es[a]):=by simp[h]
def ay9:eP (iP 0 0)= .ag [.v (.bool false), .sl [], .sl [], .v (.bool false), .sl [], .sl []]:=by
 unfold eP iP;simp[l9,dD]
def S6{n p q:Int}(hm:m.natAbs<=4)(hn:n.natAbs<=4)(hp:p.natAbs<=4)(hq:q.natAbs<=4)(h: ¬(p=0/\q=0)):LS (mA m n (m+1*p) (n+1*q)):=by
 have e1:ln n (n+1*q)= -q:=by unfold ln;omega
 have e2:lw m (m+1*p)=p:=by unfold lw;omega
 have e3:((-q)*m).natAbs<=4*4:=by rw[fV];exact gL (by omega) hm
 have e4:(p*n).natAbs<=4*4:=by rw[fV];exact gL hp hn
 have e5:sv m n (m+1*p) (n+1*q)= -((-q)*m+p*n):=by unfold sv;rw[e1,e2]
 unfold mA;obtain⟨k1,k2,k3⟩:=zc (ln n (n+1*q)) (lw m (m+1*p)) (sv m n (m+1*p) (n+1*q));exact⟨GN (by rw[e1,e2];omega),cN k1 (by rw[e1];omega),cN k2 (by rw[e2];omega),cN k3 (by rw[e5];omega)⟩
def au(es:List Int)(n:Int)(a:Nat):Nat×Nat:=
 if h:a<es.length then((if Int.tmod es[a] n<0 then Int.tmod es[a] n+n else Int.tmod es[a] n).toNat,a+1) else(0,a)
def fp{n:Int}(hn:1<=n:=by decide):((au es n a).1:Int)<n:=by
 unfold au;split
 .rename_i h
  have q2:=Int.tmod_lt_of_pos es[a] (show 0<n by omega);dsimp only;split<;>omega
 .exact hn
def gD{n:Int}(ha:a<=es.length):(au es n a).2<=es.length:=by
 unfold au;split
 .assumption
 .exact ha
def pF(es:List Int)(a:Nat):(Int×Int)×Nat:=((((au es 9 a).1:Int)-4,((au es 9 (au es 9 a).2).1:Int)-4),(au es 9 (au es 9 a).2).2)
def EV(ha:a<=es.length):(pF es a).1.1.natAbs<=4/\(pF es a).1.2.natAbs<=4/\(pF es a).2<=es.length:=by
 have h1:=fp (es:=es) (n:=9) (a:=a);have h2:=fp (es:=es) (n:=9) (a:=(au es 9 a).2);have h3:=gD (n:=9) (gD (es:=es) (n:=9) ha);unfold pF;exact⟨by dsimp only;omega,by dsimp only;omega,h3⟩
def vF(es:List Int)(a:Nat):(Int×Int)×Nat:=if(pF es a).1.1=0/\(pF es a).1.2=0 then((1,0),(pF es a).2) else pF es a
def Sa(ha:a<=es.length):(vF es a).1.1.natAbs<=4/\(vF es a).1.2.natAbs<=4/\ ¬((vF es a).1.1=0/\(vF es a).1.2=0)/\(vF es a).2<=es.length:=by
 obtain⟨h1,h2,h3⟩:=EV ha;unfold vF;split
 .exact⟨show(1:Int).natAbs<=4 by decide,show(0:Int).natAbs<=4 by decide,show¬((1:Int)=0/\(0:Int)=0) by decide,h3⟩
 .rename_i h;exact⟨h1,h2,h,h3⟩
def lF(es:List Int)(a:Nat):aa×Nat:=(mA (pF es a).1.1 (pF es a).1.2 ((pF es a).1.1+1*(vF es (pF es a).2).1.1) ((pF es a).1.2+1*(vF es (pF es a).2).1.2),(vF es (pF es a).2).2)
def QM(ha:a<=es.length):LS (lF es a).1/\(lF es a).2<=es.length:=by
 obtain⟨h1,h2,h3⟩:=EV ha;obtain⟨k1,k2,k3,k4⟩:=Sa h3;exact⟨S6 h1 h2 k1 k2 k3,k4⟩
def lH(hes:es.length<=400)(ha:a<=es.length){n:Int}(hn:1<=n:=by decide)(hn2:n<=1000:=by decide):PM GB prog 20 (i9 [none,some (.v (.int .i64 n))] b) b 84 [.sl (es.map vI), .v (.int .i64 (a:Nat))] (.v (.int .i64 ((au es n a).1:Nat))) [.sl (es.map vI), .v (.int .i64 ((au es n a).2:Nat))]:=by
 have hel:(es.map vI).length=es.length:=by simp
 refine AD func20 J J ntmps20 J J (fun C b m lo hmb=>?_);refine br J J J (fun hc15=>?_) (fun hc15=>?_)
 .
  have hf:au es n a=(0,a):=by unfold au;rw[dif_neg (by omega)]
  exact qr hmb J J (by rw[hf]<;>rfl) (by rw[hf]<;>rfl)
 .
  have hal:a<es.length:=by omega
  obtain⟨e,he⟩: ∃e,e=es[a]:=⟨_,rfl⟩;have q2:=Int.tmod_lt_of_pos e (show 0<n by omega);have q3: -n<Int.tmod e n:=by have:=Int.lt_tmod_of_pos e (show 0<n by omega);omega
  refine ix (fu:=⟨1⟩) _ J (axv hal) J<|aj 25 (.d (vI e)) J (by rw[he]<;>rfl)<|gx (hv:=by simp only[ak];exact⟨⟨by omega,by kernel_rfl⟩,by omega⟩) J<|br J J J (fun hc36=>?_) (fun hc36=>?_)
  .
   have hf:au es n a=((Int.tmod e n+n).toNat,a+1):=by unfold au;rw[dif_pos hal,<-he,if_pos hc36]
   exact qr hmb J J (by rw[hf];show DV.v (.int .i64 _)=DV.v (.int .i64 _);rw[qK (by omega)]) (by rw[hf]<;>rfl)
  .
   have hf:au es n a=((Int.tmod e n).toNat,a+1):=by unfold au;rw[dif_pos hal,<-he,if_neg hc36]
   exact qr hmb J J (by rw[hf];show DV.v (.int .i64 _)=DV.v (.int .i64 _);rw[qK (by omega)]) (by rw[hf]<;>rfl)
def OO(hes:es.length<=400)(ha:a<=es.length):PM GB prog 84 (i9 [none] b) b 84 [.sl (es.map vI), .v (.int .i64 (a:Nat))] (eP (iP (pF es a).1.1 (pF es a).1.2)) [.sl (es.map vI), .v (.int .i64 ((pF es a).2:Nat))]:=by
 have h1:=fp (es:=es) (n:=9) (a:=a);have h2:=fp (es:=es) (n:=9) (a:=(au es 9 a).2);refine AD func84 J J ntmps84 J J (fun C b m lo hmb=>?_);refine cm J (fun b=>(lH (n:=9) hes ha)) J<|cm J (fun b=>(lH (n:=9) hes (gD ha))) J<|cl J (ll (m:=((au es 9 a).1:Int)-4) (n:=((au es 9 (au es 9 a).2).1:Int)-4)) J<|?_;exact qr hmb J J J J
def UG(hes:es.length<=400)(ha:a<=es.length):PM GB prog 85 (i9 [none] b) b 84 [.sl (es.map vI), .v (.int .i64 (a:Nat))] (eP (iP (vF es a).1.1 (vF es a).1.2)) [.sl (es.map vI), .v (.int .i64 ((vF es a).2:Nat))]:=by
 obtain⟨hm,hn,ha1⟩:=EV ha;refine AD func85 J J ntmps85 J J (fun C b m lo hmb=>?_);refine cm (fu:=⟨9⟩) J (fun b=>(OO hes ha)) J<|aj 7 (.d (eP (iP 0 0))) J (by rw[ay9]<;>rfl)<|gx J<|cl J (V2 (m:=(pF es a).1.1) (n:=(pF es a).1.2) (m':=0) (n':=0) (by omega) (by omega) (by decide) (by decide)) J<|bd J J J (fun hc8=>?_) (fun hc8=>?_)
 .
  have hf:vF es a=((1,0),(pF es a).2):=by unfold vF;rw[if_pos hc8]
  refine cl J (ll (m:=1) (n:=0) (by decide) (by decide)) J<|?_;exact qr hmb J J (by rw[hf]<;>rfl) (by rw[hf])
 .
  have hf:vF es a=pF es a:=by unfold vF;rw[if_neg hc8]
  exact qr hmb J J (by rw[hf]<;>rfl) (by rw[hf])
def WC(hes:es.length<=400)(ha:a<=es.length):PM GB prog 34 (i9 [none] b) b 84 [.sl (es.map vI), .v (.int .i64 (a:Nat))] (eL (lF es a).1) [.sl (es.map vI), .v (.int .i64 ((lF es a).2:Nat))]:=by
 obtain⟨hm,hn,ha1⟩:=EV ha;obtain⟨hp,hq,hz,ha2⟩:=Sa ha1;refine AD func34 J J ntmps34 J J (fun C b m lo hmb=>?_);refine cm J (fun b=>(OO hes ha)) J<|cl J (iD (n:=1)) J<|cm J (fun b=>(UG hes ha1)) J<|cl J (Ej (m:=(pF es a).1.1) (n:=(pF es a).1.2) (m':=(vF es (pF es a).2).1.1) (n':=(vF es (pF es a).2).1.2) (k:=1) (by omega) (by omega) (by omega) (by omega)) J<|cl J (Pq (m:=(pF es a).1.1) (n:=(pF es a).1.2) (m':=(pF es a).1.1+1*(vF es (pF es a).2).1.1) (n':=(pF es a).1.2+1*(vF es (pF es a).2).1.2) (by omega) (by omega) (by omega) (by omega) (by omega)) J<|?_;exact qr hmb J J J J
def Tj{p:Bool}:PF GB prog 35 [.v (.bool p)] (eT (.leaf p)):=by
 refine fn func35 J J ntmps35 J J (fun C=>?_);refine gp 5 J<|rz J J
abbrev ZP:=Int×Int
variable {r:List ZP}
def ZP.q(p:ZP):ah:=iP p.1 p.2
def ZP.le(k:Nat)(p:ZP):Prop:=p.1.natAbs<=k/\p.2.natAbs<=k
def kj(p q:ZP):ZP:=(p.1+1*q.1,p.2+1*q.2)
def ji(u v:ZP):Int:=u.1*v.2-u.2*v.1
theorem L9{n p q:Int}(hm:m.natAbs<=1000)(hn:n.natAbs<=1000)(hp:p.natAbs<=1000)(hq:q.natAbs<=1000)(h: ¬(p=m/\q=n)):LB (mA m n p q)/\(mA m n p q).ok:=by
 have e1:(ln n q).natAbs<=2000:=by unfold ln;omega
 have e2:(lw m p).natAbs<=2000:=by unfold lw;omega
 have e3:=E8 e1 hm;have e4:=E8 e2 hn;have e5:(sv m n p q).natAbs<=4000000:=by unfold sv;omega
 unfold mA;obtain⟨k1,k2,k3⟩:=zc (ln n q) (lw m p) (sv m n p q);have hb:(2:Nat)^96=79228162514264337593543950336:=by decide
 refine⟨⟨⟨?_,?_,?_⟩⟩,GN ?_⟩
 .rw[hb];omega
 .rw[hb];omega
 .rw[hb];omega
 .unfold ln lw;omega
def Fa(v w:ZP):bA:=⟨mA v.1 v.2 w.1 w.2,⟨ja (mA v.1 v.2 w.1 w.2) v.q,ja (mA v.1 v.2 w.1 w.2) w.q,false,false⟩⟩
def i6(r:List ZP)(i:Nat):ZP:=r.getD ((i+1)%r.length) (0,0)
def qi(r:List ZP):Nat->List bA
 |0=>[]
 |k+1=>qi r k++[Fa (r.getD k (0,0)) (i6 r k)]
def jH(r:List ZP):List bA:=qi r r.length
structure ew (r:List ZP):Prop where
 n3:3<=r.length
 n6:r.length<=6
 le: ∀p∈r,ZP.le 100 p
 ne: ∀i<r.length,r.getD i (0,0)≠i6 r i
def uO(h:i<r.length:=by omega):r.getD i (0,0)∈r:=by
 rw[aV,aZ h];exact dX h
def xP(h:i<r.length:=by omega):i6 r i∈r:=uO (dK _ (by omega))
theorem K9{l:aa}(hl:LB l)(ho:l.ok){n:Int}(hm:m.natAbs<=1000)(hn:n.natAbs<=1000):BQ (ja l (iP m n)) 1200:=by
 haveI:=me (k:=11) hm;haveI:=me (k:=11) hn;have hd:=Bc ho.ne;have hA:BI (l.a*l.a+l.b*l.b) _:=inferInstance;have hB:BI (m*l.b-n*l.a) _:=inferInstance;have hA':=Cr (j:=1200) hA;have hB':=Cr (j:=1200) hB;have e1:l.dir.dot l.dir=((l.a*l.a+l.b*l.b:Int):Rat):=by
  rw[lV,cZ,cZ];simp only[aa.dir,ah.dot];grind
 have e2:(iP m n).dot l.dir=((m*l.b-n*l.a:Int):Rat):=by
  rw[iK,cZ,cZ];simp only[aa.dir,ah.dot,iP];grind
 have hd':((0:Int):Rat)<((l.a*l.a+l.b*l.b:Int):Rat):=by rw[<-e1];exact hd
 unfold ja;rw[e2,e1];clear hA hB e1 e2;generalize l.a*l.a+l.b*l.b=D at*;generalize m*l.b-n*l.a=M at*;have hD:0<D:=Rat.intCast_lt_intCast.1 hd';refine BQ.of_fracI (n:=M) (D:=D) (by omega) ?_ hB' hA';have h0:(D:Rat)≠0:=fun e=>by rw[e] at hd';exact absurd hd' (by decide)
 have:((D.natAbs:Nat):Rat)=(D:Rat):=by
  have h1:((D.natAbs:Nat):Int)=D:=by omega
  rw[<-h1];rfl
 rw[this];grind
def aDb{v w:ZP}(hv:ZP.le 100 v)(hw:ZP.le 100 w)(h:v≠w):pj (Fa v w):=by
 obtain⟨h1,h2⟩:=L9 (m:=v.1) (n:=v.2) (p:=w.1) (q:=w.2) (by have:=hv.1;omega) (by have:=hv.2;omega) (by have:=hw.1;omega) (by have:=hw.2;omega) (fun e=>h (Prod.ext e.1.symm e.2.symm));exact⟨h1,h2,⟨fun e=>(by cases e),fun e=>(by cases e)⟩,K9 h1 h2 (by have:=hv.1;omega) (by have:=hv.2;omega),K9 h1 h2 (by have:=hw.1;omega) (by have:=hw.2;omega)⟩
def IA{r:List ZP}(h:ew r): ∀{k:Nat},k<=r.length->(qi r k).length=k/\ ∀f∈qi r k,pj f
 |0,_=>⟨J,fun f hf=>by cases hf⟩
 |k+1,hk=>by
  obtain⟨h1,h2⟩:=IA h (k:=k) (by omega);rw[qi];refine⟨by simp[h1],fun f hf=>?_⟩;rcases bJ.1 hf with hf|hf
  .exact h2 f hf
  .rw[aU] at hf;subst hf
   exact aDb (h.le _ (uO)) (h.le _ (xP)) (h.ne k (by omega))
def Be(h:ew r):(jH r).length=r.length/\ ∀f∈jH r,pj f:=IA h (bW _)
def iz(rs:List (List ZP)):List bA:=rs.flatMap jH
def xl: ∀{rs:List (List ZP)},(∀r∈rs,ew r)->(iz rs).length<=6*rs.length/\ ∀f∈iz rs,pj f
 |[],_=>⟨bW _,fun f hf=>by cases hf⟩
 |r::rs,h=>by
  obtain⟨h1,h2⟩:=xl (rs:=rs) fun q hq=>h q (aJ _ hq);obtain⟨k1,k2⟩:=Be (h r aQ);have:=(h r aQ).n6;unfold iz at*;rw[lZ];refine⟨by rw[aY,k1,bZ];omega,fun f hf=>?_⟩;rcases bJ.1 hf with hf|hf
  .exact k2 f hf
  .exact h2 f hf
def uB(a b c:ah):Int:=(ah.cross (cF b a (-1)) (cF c a (-1))).num.sign
def sH(v w p:ah):Int:=
 (if bw v.y p.y<=0/\ ¬bw w.y p.y<=0/\0<uB v w p then 1 else 0)-(if¬bw v.y p.y<=0/\bw w.y p.y<=0/\uB v w p<0 then 1 else 0)
def qp(r:List ZP)(p:ah):Nat->Int
 |0=>0
 |k+1=>qp r p k+sH (r.getD k (0,0)).q (i6 r k).q p
def td(r:List ZP)(p:ah):Int:=qp r p r.length
def vA(fill n:Int):Bool:=(decide (fill=1)&&decide (n.tmod 2≠0))||(decide (fill=2)&&decide (n≠0))
def nf(rs:List (List ZP))(fill:Int)(p:ah):Bool:=vA fill (rs.foldl (fun n r=>n+td r p) 0)
def tD(rs:List (List ZP))(fill:Int):Tr:=jo (nf rs fill) (iz rs).length (iz rs) []
def ie(rs:List (List ZP))(fill:Int):Tr:=(tD rs fill).restrict []
structure mf (k:Nat) (t:Tr):Prop where
 gd:t.gd
 dp:t.depth<=k
 am: ∃K:List aa,K.length<=k/\(∀l∈K,l.ok)/\ig K t
def Fl{acc:ah->Bool}{n:Nat}{l:List bA}(h: ∀f∈l,pj f)(hn:l.length=n):mf n (jo acc n l []):=
 ⟨⟨y6 fun f hf=>(h f hf).lb,y6 fun f hf=>(h f hf).ok⟩,Ie,l.map (·.l),by rw[aX,hn];exact bW _,fun m hm=>by
  obtain⟨f,hf,rfl⟩:=aT.1 hm;exact(h f hf).ok,y6 fun f hf=>⟨f.l,dT hf, .inl rfl⟩⟩
def mf.restrict{k:Nat}{t:Tr}(h:mf k t)(c:ao):mf k (t.restrict c):=by
 obtain⟨K,h1,h2,h3⟩:=h.am;exact⟨KK h.gd c,cN (t.restrict_depth c) h.dp,K,h1,h2,h3.restrict c⟩
def mf.mono(h:mf j t)(hk:j<=k):mf k t:=by
 obtain⟨K,h1,h2,h3⟩:=h.am;exact⟨h.gd,cN h.dp hk,K,by omega,h2,h3⟩
def HE{rs:List (List ZP)}(h: ∀r∈rs,ew r)(hn:rs.length<=3):mf 18 (ie rs fill):=by
 obtain⟨h1,h2⟩:=xl h;exact((Fl (acc:=nf rs fill) h2 J).restrict []).mono (by omega)
def eo(a b c d:Int):List ZP:=[(a,b),(c,b),(c,d),(a,d)]
def H7{a b c d:Int}(h1:a.natAbs<=50:=by decide)(h2:b.natAbs<=50:=by decide)(h3:c.natAbs<=50:=by decide)(h4:d.natAbs<=50:=by decide)(h5:a<c:=by decide)(h6:b<d:=by decide):ew (eo a b c d):=by
 refine⟨by simp[eo],by simp[eo],fun p hp=>?_,fun i hi=>?_⟩
 .simp only[eo,aW,fK,or_false] at hp
  rcases hp with rfl|rfl|rfl|rfl<;>exact⟨by dsimp only;omega,by dsimp only;omega⟩
 .have:i=0\/i=1\/i=2\/i=3:=by simp[eo] at hi;omega
  rcases this with rfl|rfl|rfl|rfl<;>simp[eo,i6]<;>omega
def gE(p u v:ZP):List ZP:=[p,kj p u,kj p v]
def aFZ{p u v:ZP}(h1:ZP.le 40 p)(h2:ZP.le 40 u)(h3:ZP.le 40 v)(h:ji u v≠0):ew (gE p u v):=by
 obtain⟨p1,p2⟩:=p;obtain⟨u1,u2⟩:=u;obtain⟨v1,v2⟩:=v;unfold ZP.le at h1 h2 h3;dsimp only at h1 h2 h3;unfold ji at h;dsimp only at h;refine⟨by simp[gE],by simp[gE],fun p hp=>?_,fun i hi=>?_⟩
 .simp only[gE,kj,aW,fK,or_false] at hp
  rcases hp with rfl|rfl|rfl<;>exact⟨by dsimp only;omega,by dsimp only;omega⟩
 .have:i=0\/i=1\/i=2:=by simp[gE] at hi;omega
  have hu: ¬(u1=0/\u2=0):=fun e=>h (by rw[e.1,e.2];simp);have hv: ¬(v1=0/\v2=0):=fun e=>h (by rw[e.1,e.2];simp);have huv: ¬(u1=v1/\u2=v2):=fun e=>h (by rw[e.1,e.2,rS];omega);rcases this with rfl|rfl|rfl<;>simp[gE,kj,i6]<;>omega
def Ax(es:List Int)(n m k:Int)(a:Nat):List ZP×Nat:=
 let x:=au es n a
 let y:=au es n x.2
 let z:=au es m y.2
 let w:=au es m z.2
 (eo ((x.1:Int)-k) ((y.1:Int)-k) ((x.1:Int)-k+1+z.1) ((y.1:Int)-k+1+w.1),w.2)
def YS{n k:Int}(ha:a<=es.length)(hn:1<=n:=by decide)(hn2:n<=10:=by decide)(hm:1<=m:=by decide)(hm2:m<=10:=by decide)(hk:0<=k:=by decide)(hk2:k<=10:=by decide):ew (Ax es n m k a).1/\(Ax es n m k a).2<=es.length:=by
 have h1:=fp (es:=es) (a:=a) hn;have h2:=fp (es:=es) (a:=(au es n a).2) hn;have h3:=fp (es:=es) (a:=(au es n (au es n a).2).2) hm;have h4:=fp (es:=es) (a:=(au es m (au es n (au es n a).2).2).2) hm;exact⟨H7 (by omega) (by omega) (by omega) (by omega) (by omega) (by omega),gD (gD (gD (gD ha)))⟩
def El:List ZP:=[(0,0),(1,0),(0,1)]
def Pm:ew El:=⟨by decide,by decide,fun p hp=>by
  simp only[El,aW,fK,or_false] at hp;rcases hp with rfl|rfl|rfl<;>exact⟨by decide,by decide⟩,fun i hi=>by
  have:i=0\/i=1\/i=2:=by simp[El] at hi;omega
  rcases this with rfl|rfl|rfl<;>decide⟩
def jj(es:List Int)(a:Nat):List ZP×Nat:=
 let k:=au es 2 a
 if(k.1:Int)=0 then Ax es 3 2 1 k.2
 else
  let x:=au es 3 k.2
  let y:=au es 3 x.2
  let u1:=au es 2 y.2
  let u2:=au es 3 u1.2
  let v1:=au es 3 u2.2
  let v2:=au es 2 v1.2
  (if 0<ji (1+(u1.1:Int),(u2.1:Int)-1) ((v1.1:Int)-1,1+(v2.1:Int)) then gE ((x.1:Int)-1,(y.1:Int)-1) (1+(u1.1:Int),(u2.1:Int)-1) ((v1.1:Int)-1,1+(v2.1:Int)) else El,v2.2)
def Rx(ha:a<=es.length):ew (jj es a).1/\(jj es a).2<=es.length:=by
 have h0:=gD (n:=2) ha;unfold jj;dsimp only;split
 .exact YS h0
 .generalize hk:(au es 2 a).2=k at*
  have e1:=fp (es:=es) (n:=3) (a:=k);have f1:=gD (n:=3) h0;generalize hx:au es 3 k=x at*;have e2:=fp (es:=es) (n:=3) (a:=x.2);have f2:=gD (n:=3) f1;generalize hy:au es 3 x.2=y at*;have e3:=fp (es:=es) (n:=2) (a:=y.2);have f3:=gD (n:=2) f2;generalize hu:au es 2 y.2=u1 at*;have e4:=fp (es:=es) (n:=3) (a:=u1.2);have f4:=gD (n:=3) f3;generalize hu2:au es 3 u1.2=u2 at*;have e5:=fp (es:=es) (n:=3) (a:=u2.2);have f5:=gD (n:=3) f4;generalize hv:au es 3 u2.2=v1 at*;have e6:=fp (es:=es) (n:=2) (a:=v1.2);have f6:=gD (n:=2) f5;generalize hv2:au es 2 v1.2=v2 at*;refine⟨?_,f6⟩;split
  .rename_i hc
   exact aFZ ⟨by dsimp only;omega,by dsimp only;omega⟩ ⟨by dsimp only;omega,by dsimp only;omega⟩ ⟨by dsimp only;omega,by dsimp only;omega⟩ (by omega)
  .exact Pm
def ua: ∀t:Tr,t.lns.length=t.size
 | .leaf _=>rfl
 | .node l x y=>by rw[Tr.lns,bZ,aY,ua x,ua y,Tr.size];omega
def bG(a b p:ah):Rat:=(b.x-a.x)*(p.y-a.y)-(b.y-a.y)*(p.x-a.x)
def Wm(q p v w:ah)(e:Rat):bG q p (jv v w e)=bG q p v+e*(bG q p w-bG q p v):=by
 unfold bG jv;grind
def w6{a b:Rat}(ha:0<a):0<a*b↔0<b:=by rw[Rat.mul_comm];exact f8 ha
end Go.Sx
end
