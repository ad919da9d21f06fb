import Derived.Test.YtnnpcjkdmmjknaaGreatDoorMg13
set_option linter.all false
set_option maxHeartbeats 2000000
set_option maxRecDepth 100000
section
namespace Go.Sx
open Go Go.Proofs Tryz
variable {op rt m side m' n' fill:Int}{a b k i j:Nat}{t u:Tr}{ai al ae:Addr}{L M K:List aa}{p:ah}{c:ar}{f:bz}{es:List Int}
variable {GB:Gh}
structure EG (GB:Gh) (ai al ae:Addr):Prop where
 ErrInvalid:GB 2=some [.iface 464 (.pointer (some ai))]
 ErrLimit:GB 3=some [.iface 464 (.pointer (some al))]
structure Tr.gd (t:Tr):Prop where
 lb:t.all LB
 ok:t.all aa.ok
def Tr.restrict_size: ∀(t:Tr) (c:ar),(t.restrict c).size<=t.size
 | .leaf _,_=>bX _
 | .node l x y,c=>by
  rw[Tr.restrict];have hx:=fun c=>x.restrict_size c;have hy:=fun c=>y.restrict_size c;split
  .have:=hx c;simp only[Tr.size];omega
  .split
   .have:=hy c;simp only[Tr.size];omega
   .have h1:=hx (bC c l)
    have h2:=hy (bC c l.rev);rcases Tr.joinQ_cases l (x.restrict (bC c l)) (y.restrict (bC c l.rev)) with⟨h,_⟩|⟨h,_⟩<;>rw[h]<;>(try simp only[Tr.size])<;>omega
def Tr.compl_size: ∀t:Tr,t.compl.size=t.size
 | .leaf _=>rfl
 | .node l x y=>by simp only[Tr.compl,Tr.size,x.compl_size,y.compl_size]
def Tr.compl_all(p:aa->Prop): ∀t:Tr,t.all p->t.compl.all p
 | .leaf _,h=>h
 | .node l x y,⟨h0,h1,h2⟩=>⟨h0,x.compl_all p h1,y.compl_all p h2⟩
def Tr.compl_depth: ∀t:Tr,t.compl.depth=t.depth
 | .leaf _=>rfl
 | .node l x y=>by simp only[Tr.compl,Tr.depth,x.compl_depth,y.compl_depth]
def Tr.chooseQ_all(p:aa->Prop)(op:Int)(b:Bool)(t:Tr)(c:ar)(h:t.all p):(t.chooseQ op b c).all p:=by
 have:=t.restrict_all p c h;unfold chooseQ;split
 .split
  .trivial
  .exact this
 .split
  .trivial
  .split
   .exact(t.restrict c).compl_all p this
   .exact this
def Tr.chooseQ_size(op:Int)(b:Bool)(t:Tr)(c:ar):(t.chooseQ op b c).size<=t.size:=by
 have:=t.restrict_size c;unfold chooseQ;split
 .split
  .exact bZ _
  .exact this
 .split
  .exact bZ _
  .split
   .rw[(t.restrict c).compl_size];exact this
   .exact this
def Tr.mergeQ_all(p:aa->Prop)(op:Int){u:Tr}(hu:u.all p): ∀(t:Tr) (c:ar),t.all p->(t.mergeQ op u c).all p
 | .leaf b,c,_=>u.chooseQ_all p op b c hu
 | .node l x y,c,⟨h0,h1,h2⟩=>by
  rw[Tr.mergeQ];split
  .exact Tr.mergeQ_all p op hu x c h1
  .split
   .exact Tr.mergeQ_all p op hu y c h2
   .rcases Tr.joinQ_cases l (x.mergeQ op u (bC c l)) (y.mergeQ op u (bC c l.rev)) with⟨h,_⟩|⟨h,_⟩
    .rw[h];exact Tr.mergeQ_all p op hu x _ h1
    .rw[h];exact⟨h0,Tr.mergeQ_all p op hu x _ h1,Tr.mergeQ_all p op hu y _ h2⟩
def Tr.mergeQ_size(op:Int)(u:Tr): ∀(t:Tr) (c:ar),(t.mergeQ op u c).size+1<=(t.size+1)*(u.size+1)
 | .leaf b,c=>by
  have:=u.chooseQ_size op b c;show(u.chooseQ op b c).size+1<=(0+1)*(u.size+1);omega
 | .node l x y,c=>by
  have hx:=fun c=>Tr.mergeQ_size op u x c;have hy:=fun c=>Tr.mergeQ_size op u y c;have e:((Tr.node l x y).size+1)*(u.size+1)=(x.size+1)*(u.size+1)+(y.size+1)*(u.size+1):=by
   rw[<-dJ];congr 1;simp only[Tr.size];omega
  rw[e,Tr.mergeQ];split
  .have:=hx c;omega
  .split
   .have:=hy c;omega
   .have h1:=hx (bC c l)
    have h2:=hy (bC c l.rev);rcases Tr.joinQ_cases l (x.mergeQ op u (bC c l)) (y.mergeQ op u (bC c l.rev)) with⟨h,_⟩|⟨h,_⟩<;>rw[h]<;>(try simp only[Tr.size])<;>omega
def Tr.depth_size: ∀t:Tr,t.depth<=t.size
 | .leaf _=>bX _
 | .node l x y=>by
  have h1:=x.depth_size;have h2:=y.depth_size;simp only[Tr.depth,Tr.size];omega
def lG(op:Int)(a b:Tr):Option Tr:=if 1024<a.depth+b.depth then none else if 65536<(a.mergeQ op b []).size then none else some (a.mergeQ op b [])
def Qe(al:Addr):Option Tr->DV
 |some t=> .tp [eU t, .v .nilIface]
 |none=> .tp [.v (.pointer none),Le al]
def XI{a b:Tr}(ha:a.gd)(hb:b.gd)(h:lG op a b=some t):t.gd/\t.size<=65536:=by
 unfold lG at h;split at h
 .cases h
 .split at h
  .cases h
  .cases h
   exact⟨⟨Tr.mergeQ_all LB op hb.lb a [] ha.lb,Tr.mergeQ_all aa.ok op hb.ok a [] ha.ok⟩,by omega⟩
def Sm(hE:EG GB ai al ae){a b:Tr}(ha:a.gd)(hb:b.gd)(hsa:a.size<=65536)(hsb:b.size<=65536):PF GB prog 187 [vI op,eU a,eU b] (Qe al (lG op a b)):=by
 have hda:=a.depth_size;have hdb:=b.depth_size;have hms:=Tr.mergeQ_size op b a [];have hmm:(a.size+1)*(b.size+1)<=65537*65537:=gX (by omega) (by omega);refine fn func187 J J ntmps187 J J (fun C=>?_);refine cl J (yp (t:=a) (by omega)) J<|cl J (yp (t:=b) (by omega)) J<|?_;refine br J J J (fun hc14=>?_) (fun hc14=>?_)
 .
  refine gl J hE.ErrLimit J<|?_;exact rz J (by unfold lG;rw[if_pos (by omega)];rfl)
 .
  refine cl J (GQ (op:=op) (t:=a) (u:=b) (c:=[]) hb.lb hb.ok ha.lb ha.ok (fun s h=>by cases h) (by simp only[eX];omega)) J<|cl J (YP (t:=a.mergeQ op b []) (by omega)) J<|?_;refine br J J J (fun hc22=>?_) (fun hc22=>?_)
  .
   refine gl J hE.ErrLimit J<|?_;exact rz J (by unfold lG;rw[if_neg (by omega),if_pos (by omega)];rfl)
  .
   exact rz J (by unfold lG;rw[if_neg (by omega),if_neg (by omega)];rfl)
def LL(hE:EG GB ai al ae){a b:Tr}(ha:a.gd)(hb:b.gd)(hsa:a.size<=65536)(hsb:b.size<=65536)(h:lG op a b=some t):PF GB prog 187 [vI op,eU a,eU b] (.tp [eU t, .v .nilIface]):=by
 have:=Sm hE (op:=op) ha hb hsa hsb;rw[h] at this;exact this
def Y2(hE:EG GB ai al ae){a b:Tr}(ha:a.gd)(hb:b.gd)(hsa:a.size<=65536)(hsb:b.size<=65536)(h:lG op a b=none):PF GB prog 187 [vI op,eU a,eU b] (.tp [.v (.pointer none),Le al]):=by
 have:=Sm hE (op:=op) ha hb hsa hsb;rw[h] at this;exact this
def aFo(hE:EG GB ai al ae){a b:Tr}(ha:a.gd)(hb:b.gd)(hsa:a.size<=65536)(hsb:b.size<=65536)(h:lG op a b=some t):PF GB prog 105 [vI op,eU a,eU b] (.tp [eU t, .v .nilIface]):=by
 refine fn func105 J J ntmps105 J J (fun C=>?_);refine cl J (LL hE ha hb hsa hsb h) J<|?_;exact rz J J
def oG(op:Int):Tr->List Tr->Option Tr
 |t,[]=>some t
 |t,u::us=>match lG op t u with
  |none=>none
  |some r=>oG op r us
def NL{us:List Tr}(h:us[k]? =some u):oG op t (us.drop k)=match lG op t u with|none=>none|some r=>oG op r (us.drop (k+1)):=by
 rw[Di h];rfl
def N2(h:t.gd)(c:ar):(t.restrict c).gd:=⟨t.restrict_all LB c h.lb,t.restrict_all aa.ok c h.ok⟩
def XR(hE:EG GB ai al ae){a:Tr}{us:List Tr}(ha:a.gd)(hsa:a.size<=65536)(hus: ∀u∈us,u.gd/\u.size<=65536)(hn:us.length<=1000000):PF GB prog 179 [vI op,eU a, .sl (us.map eU)] (Qe al (if 1024<a.depth then none else oG op (a.restrict []) us)):=by
 have hda:=a.depth_size;have hm:=uh eU us;have hrs:=a.restrict_size [];have hrg:=N2 ha [];refine fn func179 J J ntmps179 J J (fun C=>?_);refine cl J (yp (t:=a) (by omega)) J<|?_;refine br J J J (fun hc14=>?_) (fun hc14=>?_)
 .
  refine gl J hE.ErrLimit J<|?_;exact rz J (by rw[if_pos (by omega)];rfl)
 .
  refine cl (fu:=⟨8⟩) J (R9 (t:=a) ha.lb ha.ok) J<|?_;refine ak 19 (.d (vI (us.length:Nat))) J (by rw[hm]<;>rfl) ?_;refine gx J<|?_;refine lp (X:=Tr×Nat) (fun⟨t,k⟩=>[(20, .d (vI (k:Nat))),(8, .d (eU t))]) (fun⟨t,k⟩=>[]) (fun⟨t,k⟩=>k<=us.length/\t.gd/\t.size<=65536/\oG op t (us.drop k)=oG op (a.restrict []) us) (fun⟨t,k⟩=>us.length-k) (a.restrict [],0) J ⟨bZ _,hrg,by omega,J⟩ (fun _=>J) (fun⟨t,k⟩ hk=>?_);dsimp only at hk⊢;obtain⟨h1,h2,h3,h4⟩:=hk;refine br J J J (fun hc21=>?_) (fun hc21=>?_)
  .
   obtain⟨u,hu0⟩: ∃s,us[k]? =some s:=⟨_,aZ (by omega)⟩;have hu:=hus u (aV hu0);refine ix _ J (cH hu0) J<|?_;rcases hr:lG op t u with _|r
   .
    refine cl J (Y2 hE h2 hu.1 h3 hu.2 hr) J<|?_;exact rz J (by rw[if_neg (by omega),<-h4,NL hu0,hr];rfl)
   .
    have hrr:=XI h2 hu.1 hr;refine cl J (LL hE h2 hu.1 h3 hu.2 hr) J<|?_;exact at_ (r,k+1) (by dsimp only;exact⟨⟨by omega,hrr.1,hrr.2,by rw[<-h4,NL hu0,hr]⟩,(by omega)⟩)
  .
   exact rz J (by rw[if_neg (by omega),<-h4,iV (by omega)];rfl)
def VA{ns:List RN}(hs: ∀n∈ns,n.g.sm)(hn:ns.length<=65536)(h:tg ns rt=some t):PF GB prog 103 [vA rt ns] (.tp [eU t,vB true]):=by
 have:=TP (GB:=GB) (rt:=rt) hs hn;rw[h] at this;exact this
def axF(h:t.gd):t.compl.gd:=⟨t.compl_all LB h.lb,t.compl_all aa.ok h.ok⟩
abbrev Ao:=Int×List RN
def Ao.d(x:Ao):DV:=vA x.1 x.2
def Ao.q(x:Ao):Option Tr:=tg x.2 x.1
def aFk: ∀(us:List Tr),cP 1 (us.map eU):=fun us d hd=>by
 obtain⟨u,_,rfl⟩:=aT.1 hd;exact⟨rfl,rfl⟩
structure Ao.ok (x:Ao):Prop where
 s: ∀n∈x.2,n.g.sm
 n:x.2.length<=65536
def WD(hE:EG GB ai al ae){a:Tr}{us:List Tr}(ha:a.gd)(hsa:a.size<=65536)(hus: ∀u∈us,u.gd/\u.size<=65536)(hn:us.length<=1000000)(h:(if 1024<a.depth then none else oG op (a.restrict []) us)=some t):PF GB prog 179 [vI op,eU a, .sl (us.map eU)] (.tp [eU t, .v .nilIface]):=by
 have:=XR hE (op:=op) ha hsa hus hn;rw[h] at this;exact this
def Tr.val:Tr->ah->Bool
 | .leaf b,_=>b
 | .node l x y,p=>if 0<l.value p then x.val p else y.val p
def Tr.lns:Tr->List aa
 | .leaf _=>[]
 | .node l x y=>l::(x.lns++y.lns)
def lg{P:aa->Prop}: ∀{t:Tr},t.all P↔ ∀l∈t.lns,P l
 | .leaf _=>⟨fun _ l hl=>(by cases hl),fun _=>trivial⟩
 | .node l x y=>by
  show(P l/\x.all P/\y.all P)↔ ∀m∈l::(x.lns++y.lns),P m;rw[lg (t:=x),lg (t:=y)];constructor
  .rintro ⟨h0,h1,h2⟩ m hm
   rcases aW.1 hm with rfl|hm
   .exact h0
   .rcases bW.1 hm with hm|hm
    .exact h1 m hm
    .exact h2 m hm
  .intro h
   exact⟨h l aQ,fun m hm=>h m (aJ _ (bU _ hm)),fun m hm=>h m (aJ _ (bK _ hm))⟩
def pA(h:t.all aa.ok): ∀l∈t.lns,l.ok:=lg.1 h
def cF(L:List aa)(p:ah):Prop:= ∀l∈L,l.value p≠0
def cF.sub(h:cF L p)(k: ∀l∈M,l∈L):cF M p:=fun l hl=>h l (k l hl)
def cF.l{l:aa}{x y:Tr}{p:ah}(h:cF (Tr.node l x y).lns p):l.value p≠0:=h l aQ
def cF.x{l:aa}{x y:Tr}{p:ah}(h:cF (Tr.node l x y).lns p):cF x.lns p:=h.sub fun m hm=>aJ _ (bU _ hm)
def cF.y{l:aa}{x y:Tr}{p:ah}(h:cF (Tr.node l x y).lns p):cF y.lns p:=h.sub fun m hm=>aJ _ (bK _ hm)
def cF.app:cF (L++M) p↔cF L p/\cF M p:=by
 unfold cF;constructor
 .intro h;exact⟨fun l hl=>h l (bU _ hl),fun l hl=>h l (bK _ hl)⟩
 .rintro ⟨h1,h2⟩ l hl;rcases bW.1 hl with h|h;exact h1 l h;exact h2 l h
def pP(op:Int)(a b:Bool):Bool:=if op=1 then a||b else if op=2 then a&&b else if op=3 then a&&!b else a !=b
def Tr.val_join(l:aa)(X Y:Tr)(p:ah):(Tr.joinQ l X Y).val p=(Tr.node l X Y).val p:=by
 unfold Tr.joinQ;split
 .rename_i h
  cases X<;>cases Y<;>simp[Tr.isLeaf,Tr.code] at h
  subst h;simp[Tr.val]
 .rfl
def Tr.val_pos{l:aa}{x y:Tr}(h:0<l.value p):(Tr.node l x y).val p=x.val p:=by rw[Tr.val,if_pos h]
def Tr.val_neg{l:aa}{x y:Tr}(h: ¬0<l.value p):(Tr.node l x y).val p=y.val p:=by rw[Tr.val,if_neg h]
def Tr.val_compl: ∀(t:Tr) (p:ah),t.compl.val p=!t.val p
 | .leaf b,p=>rfl
 | .node l x y,p=>by
  rw[Tr.compl];by_cases h:0<l.value p
  .rw[Tr.val_pos h,Tr.val_pos h,x.val_compl]
  .rw[Tr.val_neg h,Tr.val_neg h,y.val_compl]
def Rp{l:aa}(hc:bD c)(hl:l.ok)(hb:co c l.rev=false)(hp:bt c p)(h0:l.value p≠0):0<l.value p:=by
 by_cases h:0<l.value p
 .exact h
 .exfalso
  have:co c l.rev=true:=(oH hc hl.rev).2 ⟨p,hp,by rw[eD];grind⟩;rw[hb] at this;cases this
def Q1{l:aa}(hc:bD c)(hl:l.ok)(hb:co c l=false)(hp:bt c p): ¬0<l.value p:=fun h=>by
 have:co c l=true:=(oH hc hl).2 ⟨p,hp,h⟩;rw[hb] at this;cases this
def Tr.val_restrict: ∀(t:Tr) (c:ar) (p:ah),t.all aa.ok->bD c->bt c p->cF t.lns p->(t.restrict c).val p=t.val p
 | .leaf _,_,_,_,_,_,_=>rfl
 | .node l x y,c,p,⟨hl,hx,hy⟩,hc,hp,ho=>by
  cases hb:co c l.rev with
  |false=>rw[Tr.restrict_A _ _ hb,x.val_restrict c p hx hc hp ho.x,Tr.val_pos (Rp hc hl hb hp ho.l)]
  |true=>
   cases hb2:co c l with
   |false=>rw[Tr.restrict_B _ _ hb hb2,y.val_restrict c p hy hc hp ho.y,Tr.val_neg (Q1 hc hl hb2 hp)]
   |true=>
    rw[Tr.restrict_C _ _ hb hb2,Tr.val_join];obtain⟨g1,i1⟩:=gt hc hl hb2;obtain⟨g2,i2⟩:=gt hc hl.rev hb;by_cases h:0<l.value p
    .rw[Tr.val_pos h,Tr.val_pos h,x.val_restrict _ p hx g1 ((i1 p).2 ⟨hp,h⟩) ho.x]
    .rw[Tr.val_neg h,Tr.val_neg h,y.val_restrict _ p hy g2 ((i2 p).2 ⟨hp,by rw[eD];have:=ho.l;grind⟩) ho.y]
def Tr.val_choose(op:Int)(b:Bool)(t:Tr)(c:ar)(p:ah)(ht:t.all aa.ok)(hc:bD c)(hp:bt c p)(ho:cF t.lns p):(t.chooseQ op b c).val p=pP op b (t.val p):=by
 have hr:=t.val_restrict c p ht hc hp ho;unfold Tr.chooseQ pP;by_cases h1:op=1
 .subst h1;cases b<;>simp[hr,Tr.val]
 .by_cases h2:op=2
  .subst h2;cases b<;>simp[hr,Tr.val]
  .by_cases h3:op=3
   .subst h3;cases b<;>simp[hr,Tr.val,Tr.val_compl]
   .cases b<;>simp[h1,h2,h3,hr,Tr.val_compl]
def Tr.val_merge(op:Int)(u:Tr)(hu:u.all aa.ok): ∀(t:Tr) (c:ar) (p:ah),t.all aa.ok->bD c->bt c p->cF t.lns p->cF u.lns p->(t.mergeQ op u c).val p=pP op (t.val p) (u.val p)
 | .leaf b,c,p,_,hc,hp,_,ho=>u.val_choose op b c p hu hc hp ho
 | .node l x y,c,p,⟨hl,hx,hy⟩,hc,hp,ho,hou=>by
  rw[Tr.mergeQ]
  cases hb:co c l.rev with
  |false=>
   rw[if_pos (show(!false)=true from J),Tr.val_merge op u hu x c p hx hc hp ho.x hou,Tr.val_pos (Rp hc hl hb hp ho.l)]
  |true=>
   rw[if_neg (by decide)]
   cases hb2:co c l with
   |false=>rw[if_pos (show(!false)=true from J),Tr.val_merge op u hu y c p hy hc hp ho.y hou,Tr.val_neg (Q1 hc hl hb2 hp)]
   |true=>
    rw[if_neg (by decide),Tr.val_join];obtain⟨g1,i1⟩:=gt hc hl hb2;obtain⟨g2,i2⟩:=gt hc hl.rev hb;by_cases h:0<l.value p
    .rw[Tr.val_pos h,Tr.val_pos h,Tr.val_merge op u hu x _ p hx g1 ((i1 p).2 ⟨hp,h⟩) ho.x hou]
    .rw[Tr.val_neg h,Tr.val_neg h,Tr.val_merge op u hu y _ p hy g2 ((i2 p).2 ⟨hp,by rw[eD];have:=ho.l;grind⟩) ho.y hou]
def Qf: ∀(L:List aa) (u:ah) (p:ah),cF L p-> ∃e:Rat,0<e/\ ∀d,0<=d->d<=e->cF L (cD p u d)
 |[],u,p,_=>⟨1,by decide,fun d _ _ l hl=>by cases hl⟩
 |l::L,u,p,h=>by
  obtain⟨e,he,hm⟩:=Qf L u p (h.sub fun m hm=>aJ _ hm);have h0:=h l aQ;have key: ∃f:Rat,0<f/\ ∀d,0<=d->d<=f->l.value (cD p u d)≠0:=by
   by_cases hk:l.nor.dot u=0
   .exact⟨1,by decide,fun d _ _=>by rw[jF,hk];grind⟩
   .generalize hA:l.value p=A at*
    generalize hB:l.nor.dot u=B at*;rcases kE A with h|h|h
    .exact absurd h h0
    .rcases kE B with k|k|k
     .exact absurd k hk
     .exact⟨1,by decide,fun d hd _=>by rw[jF,hA,hB];have:=cG hd (cM k);grind⟩
     .refine⟨A/(-B)/2,?_,fun d hd h2=>?_⟩
      .have:0<A/(-B):=by
        have e1:A/(-B)*(-B)=A:=by grind
        exact(f9 (k:= -B) (by grind)).1 (by rw[e1];exact h)
       grind
      .rw[jF,hA,hB]
       have e1:A/(-B)*(-B)=A:=by grind
       generalize A/(-B)=q at*;have h4:=cG (a:=q/2-d) (b:= -B) (by grind) (by grind);grind
    .rcases kE B with k|k|k
     .exact absurd k hk
     .refine⟨(-A)/B/2,?_,fun d hd h2=>?_⟩
      .have:0<(-A)/B:=by
        have e1:(-A)/B*B= -A:=by grind
        exact(f9 (k:=B) k).1 (by rw[e1];grind)
       grind
      .rw[jF,hA,hB]
       have e1:(-A)/B*B= -A:=by grind
       generalize (-A)/B=q at*;have h4:=cG (a:=q/2-d) (b:=B) (by grind) (by grind);grind
     .exact⟨1,by decide,fun d hd _=>by rw[jF,hA,hB];have:=cG hd (b:= -B) (by grind);grind⟩
  obtain⟨f,hf,hk⟩:=key;refine⟨if e<=f then e else f,by split<;>assumption,fun d hd hde m hm'=>?_⟩;have h1:d<=e/\d<=f:=by split at hde<;>grind
  rcases aW.1 hm' with rfl|hm'
  .exact hk d hd h1.2
  .exact hm d hd h1.1 m hm'
def Pv{c:ar}{p:ah}(hp:bt c p): ∀(L:List aa),(∀l∈L,l.ok)-> ∃q,bt c q/\cF L q
 |[],_=>⟨p,hp,fun l hl=>by cases hl⟩
 |l::L,h=>by
  obtain⟨q,hq,ho⟩:=Pv hp L fun m hm=>h m (aJ _ hm);by_cases h0:l.value q=0
  .have hn:=oq (h l aQ).ne
   obtain⟨e,he,hm⟩:=hq.open l.nor;obtain⟨f,hf,hk⟩:=Qf L l.nor q ho;refine⟨cD q l.nor (if e<=f then e else f),hm _ (by split<;>grind) (by split<;>grind),fun m hm'=>?_⟩;rcases aW.1 hm' with rfl|hm'
   .rw[jF,h0]
    have:=dh (a:=if e<=f then e else f) (b:=m.nor.dot m.nor) (by split<;>assumption) hn;grind
   .exact hk _ (by split<;>grind) (by split<;>grind) m hm'
  .exact⟨q,hq,fun m hm=>by rcases aW.1 hm with rfl|hm;exact h0;exact ho m hm⟩
def Uj(hc:bD c)(L:List aa)(h: ∀l∈L,l.ok): ∃q,bt c q/\cF L q:=by
 obtain⟨p,hp⟩:=hc.ne;exact Pv hp L h
def Tr.Red:Tr->ar->Prop
 | .leaf _,_=>True
 | .node l x y,c=>co c l=true/\co c l.rev=true/\x.Red (bC c l)/\y.Red (bC c l.rev)/\ ¬(x.isLeaf=true/\y.isLeaf=true/\x.code=y.code)
def Tr.red_leaf(h:t.isLeaf=true)(c:ar):t.Red c:=by
 cases t with
 |leaf b=>trivial
 |node l x y=>cases h
def Tr.join_red{l:aa}{x y:Tr}(h1:co c l=true)(h2:co c l.rev=true)(hx:x.Red (bC c l))(hy:y.Red (bC c l.rev)):(Tr.joinQ l x y).Red c:=by
 rcases Tr.joinQ_cases l x y with⟨e,h⟩|⟨e,h⟩
 .rw[e];exact Tr.red_leaf h c
 .rw[e];exact⟨h1,h2,hx,hy,h⟩
def Tr.restrict_red: ∀(t:Tr) (c:ar),(t.restrict c).Red c
 | .leaf _,_=>trivial
 | .node l x y,c=>by
  cases hb:co c l.rev with
  |false=>rw[Tr.restrict_A _ _ hb];exact x.restrict_red c
  |true=>
   cases hb2:co c l with
   |false=>rw[Tr.restrict_B _ _ hb hb2];exact y.restrict_red c
   |true=>rw[Tr.restrict_C _ _ hb hb2];exact Tr.join_red hb2 hb (x.restrict_red _) (y.restrict_red _)
def Tr.compl_leaf:t.compl.isLeaf=t.isLeaf:=by cases t<;>rfl
def Tr.compl_code(h:t.isLeaf=true):t.compl.code=!t.code:=by
 cases t with
 |leaf b=>rfl
 |node l x y=>cases h
def Tr.compl_red: ∀{t:Tr} {c:ar},t.Red c->t.compl.Red c
 | .leaf _,_,_=>trivial
 | .node l x y,c,⟨h1,h2,h3,h4,h5⟩=>by
  refine⟨h1,h2,Tr.compl_red h3,Tr.compl_red h4,fun⟨a,b,e⟩=>?_⟩;rw[Tr.compl_leaf] at a b;rw[Tr.compl_code a,Tr.compl_code b] at e;exact h5 ⟨a,b,by simpa using e⟩
def Tr.choose_red(op:Int)(b:Bool)(t:Tr)(c:ar):(t.chooseQ op b c).Red c:=by
 have h:=t.restrict_red c;unfold Tr.chooseQ;split
 .split
  .trivial
  .exact h
 .split
  .trivial
  .split
   .exact Tr.compl_red h
   .exact h
def Tr.merge_red(op:Int)(u:Tr): ∀(t:Tr) (c:ar),(t.mergeQ op u c).Red c
 | .leaf b,c=>u.choose_red op b c
 | .node l x y,c=>by
  rw[Tr.mergeQ]
  cases hb:co c l.rev with
  |false=>rw[if_pos (show(!false)=true from J)];exact Tr.merge_red op u x c
  |true=>
   rw[if_neg (by decide)]
   cases hb2:co c l with
   |false=>rw[if_pos (show(!false)=true from J)];exact Tr.merge_red op u y c
   |true=>rw[if_neg (by decide)];exact Tr.join_red hb2 hb (Tr.merge_red op u x _) (Tr.merge_red op u y _)
def Tr.red_const{L:List aa}(hL: ∀l∈L,l.ok){v:Bool}: ∀{t:Tr} {c:ar},t.Red c->t.all aa.ok->bD c->(∀p,bt c p->cF L p->t.val p=v)->t= .leaf v
 | .leaf b,c,_,_,hc,h=>by
  obtain⟨q,h1,h2⟩:=Uj hc L hL;have:=h q h1 h2;rw[Tr.val] at this;rw[this]
 | .node l x y,c,⟨h1,h2,h3,h4,h5⟩,⟨hl,hx,hy⟩,hc,h=>by
  obtain⟨g1,i1⟩:=gt hc hl h1;obtain⟨g2,i2⟩:=gt hc hl.rev h2;have ex:=Tr.red_const hL (v:=v) h3 hx g1 (fun p hp ho=>by
   have k:=(i1 p).1 hp;rw[<-h p k.1 ho,Tr.val_pos k.2])
  have ey:=Tr.red_const hL (v:=v) h4 hy g2 (fun p hp ho=>by
   have k:=(i2 p).1 hp;rw[eD] at k;rw[<-h p k.1 ho,Tr.val_neg (by have:=k.2;grind)])
  subst ex;subst ey;exact absurd ⟨J,J,J⟩ h5
def Px(p:ah):bt [] p:=fun s hs=>(by cases hs)
def Tr.merge_leaf{a b:Tr}(ha:a.all aa.ok)(hb:b.all aa.ok)(hL: ∀l∈L,l.ok)(hLa: ∀l∈a.lns,l∈L)(hLb: ∀l∈b.lns,l∈L){v:Bool}:a.mergeQ op b []= .leaf v↔ ∀p,cF L p->pP op (a.val p) (b.val p)=v:=by
 constructor
 .intro h p hp
  rw[<-Tr.val_merge op b hb a [] p ha bD.nil (Px p) (hp.sub hLa) (hp.sub hLb),h];rfl
 .intro h
  refine Tr.red_const hL (Tr.merge_red op b a []) (Tr.mergeQ_all aa.ok op hb a [] ha) bD.nil (fun p _ hp=>?_);rw[Tr.val_merge op b hb a [] p ha bD.nil (Px p) (hp.sub hLa) (hp.sub hLb)];exact h p hp
def aa.same(l m:aa):Prop:=m=l\/m=l.rev
instance (l m:aa):Decidable (l.same m):=inferInstanceAs (Decidable (_\/_))
def Tr.cnt(l:aa):Tr->Nat
 | .leaf _=>0
 | .node m x y=>(if l.same m then 1 else 0)+(x.cnt l+y.cnt l)
def oO{l m:aa}(h:l.same m)(hp:l.value p=0):m.value p=0:=by
 rcases h with rfl|rfl
 .exact hp
 .rw[eD,hp];rfl
def DL(l:aa)(c:ar):Prop:= ∃p,bt c p/\l.value p=0
def Tr.cnt_zero{l:aa}: ∀{t:Tr} {c:ar},t.Red c->t.all aa.ok->bD c-> ¬DL l c->t.cnt l=0
 | .leaf _,_,_,_,_,_=>rfl
 | .node m x y,c,⟨h1,h2,h3,h4,_⟩,⟨hm,hx,hy⟩,hc,hn=>by
  obtain⟨g1,i1⟩:=gt hc hm h1;obtain⟨g2,i2⟩:=gt hc hm.rev h2;have e1:=Tr.cnt_zero (l:=l) h3 hx g1 (fun⟨p,hp,h0⟩=>hn ⟨p,((i1 p).1 hp).1,h0⟩);have e2:=Tr.cnt_zero (l:=l) h4 hy g2 (fun⟨p,hp,h0⟩=>hn ⟨p,((i2 p).1 hp).1,h0⟩);rw[Tr.cnt,e1,e2];by_cases hs:l.same m
  .exfalso
   -- m crosses the cell
   obtain⟨p,hp,k1⟩:=(oH hc hm).1 h1;obtain⟨q,hq,k2⟩:=(oH hc hm.rev).1 h2;rw[eD] at k2;generalize hA:m.value p=A at*;generalize hB:m.value q=B at*;have hAB:0<A-B:=by grind
   have e:A/(A-B)*(A-B)=A:=by grind
   generalize A/(A-B)=r at*;have r0:0<=r:=(iv hAB).1 (by rw[e];exact cM k1);have r1:r<=1:=by
    have:=(iv (s:=1-r) hAB).1 (by grind);grind
   have hz:=hp.seg hq r0 r1;have hv:m.value (kB p q r)=0:=by rw[l9,hA,hB];grind
   refine hn ⟨_,hz,?_⟩;rcases hs with rfl|rfl
   .exact hv
   .rw[eD] at hv;grind
  .rw[if_neg hs]
def rx(c:ar)(p:ah):Bool:=c.all fun s=>decide (0<s.l.value p)
def sF:rx c p=true↔bt c p:=by
 unfold rx bt;rw[dK];simp
def P2(P:List ah)(l:aa)(t:Tr):Prop:=t.all fun m=>l.same m\/ ∀p,l.value p=0->m.value p=0->p∈P
def I4{α:Type}{p q r:α->Bool}: ∀(P:List α),(∀x∈P,q x=true->p x=true)->(∀x∈P,r x=true->p x=true)->(∀x∈P,¬(q x=true/\r x=true))->P.countP q+P.countP r<=P.countP p
 |[],_,_,_=>bX _
 |x::P,h1,h2,h3=>by
  have ih:=I4 (p:=p) (q:=q) (r:=r) P (fun y hy=>h1 y (aJ _ hy)) (fun y hy=>h2 y (aJ _ hy)) (fun y hy=>h3 y (aJ _ hy));have a:=h1 x aQ;have b:=h2 x aQ;have c:=h3 x aQ;rw[pX,pX,pX]
  cases hq:q x<;>cases hr:r x<;>simp_all<;>omega
def SF{α:Type}{p q r:α->Bool}: ∀(P:List α),(∀x∈P,q x=true->p x=true)->(∀x∈P,r x=true->p x=true)->(∀x∈P,¬(q x=true/\r x=true))->(∃x∈P,p x=true/\q x=false/\r x=false)->P.countP q+P.countP r+1<=P.countP p
 |[],_,_,_,⟨x,hx,_⟩=>by cases hx
 |x::P,h1,h2,h3,h4=>by
  have i2:=I4 (p:=p) (q:=q) (r:=r) P (fun y hy=>h1 y (aJ _ hy)) (fun y hy=>h2 y (aJ _ hy)) (fun y hy=>h3 y (aJ _ hy));have a:=h1 x aQ;have b:=h2 x aQ;have c:=h3 x aQ;rw[pX,pX,pX];obtain⟨z,hz,k1,k2,k3⟩:=h4;rcases aW.1 hz with rfl|hz
  .simp only[k1,k2,k3];simp;omega
  .have ih:=SF (p:=p) (q:=q) (r:=r) P (fun y hy=>h1 y (aJ _ hy)) (fun y hy=>h2 y (aJ _ hy)) (fun y hy=>h3 y (aJ _ hy)) ⟨z,hz,k1,k2,k3⟩
   cases hq:q x<;>cases hr:r x<;>simp_all<;>omega
def Tr.cnt_le{l:aa}(hl:l.ok){P:List ah}: ∀{t:Tr} {c:ar},t.Red c->t.all aa.ok->bD c->P2 P l t->t.cnt l<=1+P.countP (rx c)
 | .leaf _,_,_,_,_,_=>bZ _
 | .node m x y,c,⟨h1,h2,h3,h4,_⟩,⟨hm,hx,hy⟩,hc,⟨v0,v1,v2⟩=>by
  obtain⟨g1,i1⟩:=gt hc hm h1;obtain⟨g2,i2⟩:=gt hc hm.rev h2;have q1: ∀p∈P,rx (bC c m) p=true->rx c p=true:=fun p _ h=>sF.2 ((i1 p).1 (sF.1 h)).1;have q2: ∀p∈P,rx (bC c m.rev) p=true->rx c p=true:=fun p _ h=>sF.2 ((i2 p).1 (sF.1 h)).1;have q3: ∀p∈P,¬(rx (bC c m) p=true/\rx (bC c m.rev) p=true):=fun p _ ⟨a,b⟩=>by
   have a:=((i1 p).1 (sF.1 a)).2;have b:=((i2 p).1 (sF.1 b)).2;rw[eD] at b;grind
  have ct:=I4 P q1 q2 q3;rw[Tr.cnt];by_cases hs:l.same m
  .have e1:=Tr.cnt_zero (l:=l) h3 hx g1 (fun⟨p,hp,h0⟩=>by have:=((i1 p).1 hp).2;rw[oO hs h0] at this;grind)
   have e2:=Tr.cnt_zero (l:=l) h4 hy g2 (fun⟨p,hp,h0⟩=>by have:=((i2 p).1 hp).2;rw[eD,oO hs h0] at this;grind);rw[e1,e2,if_pos hs];omega
  .rw[if_neg hs]
   have b1:=Tr.cnt_le hl h3 hx g1 v1;have b2:=Tr.cnt_le hl h4 hy g2 v2;by_cases w1:DL l (bC c m)
   .by_cases w2:DL l (bC c m.rev)
    .-- the crossing Bc in the cell
     obtain⟨p,hp,k1⟩:=w1;obtain⟨q,hq,k2⟩:=w2;obtain⟨hp,ap⟩:=(i1 p).1 hp;obtain⟨hq,aq⟩:=(i2 q).1 hq;rw[eD] at aq;generalize hA:m.value p=A at*;generalize hB:m.value q=B at*;have hAB:0<A-B:=by grind
     have e:A/(A-B)*(A-B)=A:=by grind
     generalize A/(A-B)=r at*;have r0:0<=r:=(iv hAB).1 (by rw[e];exact cM ap);have r1:r<=1:=by
      have:=(iv (s:=1-r) hAB).1 (by grind);grind
     have hz:=hp.seg hq r0 r1;have hv:m.value (kB p q r)=0:=by rw[l9,hA,hB];grind
     have hv2:l.value (kB p q r)=0:=by rw[l9,k1,k2];grind
     have hmem:kB p q r∈P:=by
      rcases v0 with h|h
      .exact absurd h hs
      .exact h _ hv2 hv
     have c3:=SF P q1 q2 q3 ⟨_,hmem,sF.2 hz,by
      rw[<-jL,sF,i1];rintro ⟨_,h⟩;rw[hv] at h;grind,by
      rw[<-jL,sF,i2];rintro ⟨_,h⟩;rw[eD,hv] at h;grind⟩
     omega
    .rw[Tr.cnt_zero h4 hy g2 w2];omega
   .rw[Tr.cnt_zero h3 hx g1 w1];omega
def Lw(l:aa):l.rev.rev=l:=by cases l;simp[aa.rev]
def aa.same.symm{l m:aa}(h:l.same m):m.same l:=by
 rcases h with rfl|rfl
 .exact .inl J
 .exact .inr (Lw l).symm
def aa.same.trans{l m n:aa}(h:l.same m)(k:m.same n):l.same n:=by
 rcases h with rfl|rfl
 .exact k
 .rcases k with rfl|rfl
  .exact .inr J
  .exact .inl (Lw l)
def fi(K:List aa)(t:Tr):Prop:=t.all fun n=> ∃m∈K,m.same n
def zf(l m:aa):ah:=l.at (-(l.cutC m/l.cutK m))
def CM{l m:aa}(hl:l.ok)(hm:m.ok)(h1:l.value p=0)(h2:m.value p=0):l.same m\/p=zf l m:=by
 obtain⟨t,rfl⟩:=Bu hl.ne h1;rw[mC] at h2;by_cases hk:l.cutK m=0
 .left
  have hc:l.cutC m=0:=by rw[hk] at h2;grind
  rcases zq hm hl (fun s=>by rw[mC,hk,hc];grind) with h|h
  .exact .inl h
  .exact .inr h
 .right
  unfold zf;congr 1;grind
def fi.covers{K:List aa}(hK: ∀m∈K,m.ok){l:aa}(hl:l.ok): ∀{t:Tr},fi K t->P2 (K.map (zf l)) l t
 | .leaf _,_=>trivial
 | .node n x y,⟨⟨m,hm,hs⟩,h1,h2⟩=>by
  refine⟨?_,fi.covers hK hl h1,fi.covers hK hl h2⟩;by_cases h:l.same n
  .exact .inl h
  .right
   intro p k1 k2;rcases CM hl (hK m hm) k1 (oO hs.symm k2) with h3|h3
   .exact absurd (h3.trans hs) h
   .rw[h3];exact dX hm
def Kc(t:Tr):List aa->Nat
 |[]=>0
 |l::K=>t.cnt l+Kc t K
def Ks(n:aa):List aa->Nat
 |[]=>0
 |l::K=>(if l.same n then 1 else 0)+Ks n K
def Su{n:aa}{x y:Tr}: ∀K,Kc (.node n x y) K=Ks n K+(Kc x K+Kc y K)
 |[]=>rfl
 |l::K=>by
  have:=Su (n:=n) (x:=x) (y:=y) K;show(Tr.node n x y).cnt l+Kc (.node n x y) K=_;rw[this,Tr.cnt];show _=(if l.same n then 1 else 0)+Ks n K+(x.cnt l+Kc x K+(y.cnt l+Kc y K));omega
def Rf{n m:aa}(hs:m.same n): ∀{K:List aa},m∈K->1<=Ks n K
 |[],h=>by cases h
 |l::K,h=>by
  show 1<=(if l.same n then 1 else 0)+Ks n K;rcases aW.1 h with rfl|h
  .rw[if_pos hs];omega
  .have:=Rf hs h;omega
def Ju{K:List aa}: ∀{t:Tr},fi K t->t.size<=Kc t K
 | .leaf _,_=>bZ _
 | .node n x y,⟨⟨m,hm,hs⟩,h1,h2⟩=>by
  have a:=Ju h1;have b:=Ju h2;have c:=Rf hs hm;rw[Su,Tr.size];omega
def S4{t:Tr}{B:Nat}: ∀{K:List aa},(∀l∈K,t.cnt l<=B)->Kc t K<=K.length*B
 |[],_=>bZ _
 |l::K,h=>by
  have:=S4 (t:=t) (B:=B) (K:=K) fun m hm=>h m (aJ _ hm);have:=h l aQ;show t.cnt l+Kc t K<=(K.length+1)*B;rw[gJ];omega
def Tr.size_le(hK: ∀m∈K,m.ok)(hr:t.Red c)(ht:t.all aa.ok)(hc:bD c)(h:fi K t):t.size<=K.length*(1+K.length):=by
 refine cS (Ju h) (S4 fun l hl=>?_);refine cS (Tr.cnt_le (hK l hl) hr ht hc (h.covers hK (hK l hl))) ?_;have:=List.countP_le_length (p:=rx c) (l:=K.map (zf l));rw[aX] at this;omega
def ayx(h: ∀l∈t.lns,l∈K):fi K t:=lg.2 fun l hl=>⟨l,h l hl, .inl J⟩
def fi.mono(h:fi K t)(k: ∀l∈K,∃m∈M,m.same l):fi M t:=lg.2 fun l hl=>by
 obtain⟨m,hm,hs⟩:=lg.1 h l hl;obtain⟨n,hn,hs2⟩:=k m hm;exact⟨n,hn,hs2.trans hs⟩
def fi.restrict{K:List aa}{t:Tr}(h:fi K t)(c:ar):fi K (t.restrict c):=t.restrict_all _ c h
def fi.compl{K:List aa}{t:Tr}(h:fi K t):fi K t.compl:=t.compl_all _ h
def fi.merge(h:fi K t)(hu:fi K u)(c:ar):fi K (t.mergeQ op u c):=Tr.mergeQ_all _ op hu t c h
def Tr.merge_size(hK: ∀m∈K,m.ok){a b:Tr}(ha:a.all aa.ok)(hb:b.all aa.ok)(ka:fi K a)(kb:fi K b):(a.mergeQ op b []).size<=K.length*(1+K.length):=
 Tr.size_le hK (Tr.merge_red op b a []) (Tr.mergeQ_all aa.ok op hb a [] ha) bD.nil (ka.merge kb [])
def RG{a b:Tr}(hd:a.depth+b.depth<=1024)(hs:(a.mergeQ op b []).size<=65536):lG op a b=some (a.mergeQ op b []):=by
 unfold lG;rw[if_neg (by omega),if_neg (by omega)]
structure oE (L:List aa) (a b:Tr):Prop where
 oa:a.all aa.ok
 ob:b.all aa.ok
 ok: ∀l∈L,l.ok
 la: ∀l∈a.lns,l∈L
 lb: ∀l∈b.lns,l∈L
def oE.mk0{a b:Tr}(ha:a.all aa.ok)(hb:b.all aa.ok):oE (a.lns++b.lns) a b:=
 ⟨ha,hb,fun l hl=>(bW.1 hl).elim (pA ha l) (pA hb l),fun l hl=>bU _ hl,fun l hl=>bK _ hl⟩
def oE.leaf{L:List aa}{a b:Tr}(h:oE L a b){op:Int}{v:Bool}:a.mergeQ op b []= .leaf v↔ ∀p,cF L p->pP op (a.val p) (b.val p)=v:=Tr.merge_leaf h.oa h.ob h.ok h.la h.lb
def lf(x:Rat):List Rat->List Rat
 |[]=>[x]
 |u::t=>if u<x then u::lf x t else if u=x then u::t else x::u::t
def fE(l:List Rat):List Rat:=l.foldl (fun out x=>lf x out) []
def i8:List Rat->List Rat
 |a::b::t=>(a+b)/2::i8 (b::t)
 |_=>[]
def ck:List Rat->List Rat
 |[]=>[0]
 |a::t=>(a-1)::(i8 (a::t)++[(a::t).getLast (by simp)+1])
def qI{x y:Rat}: ∀{l:List Rat},y∈lf x l↔y=x\/y∈l
 |[]=>by simp[lf]
 |u::t=>by
  rw[lf];split
  .rw[aW,qI (l:=t),aW];grind
  .split
   .rename_i h;subst h;simp
   .simp
def Aq{x:Rat}: ∀{l:List Rat},l.Pairwise (· < ·)->(lf x l).Pairwise (· < ·)
 |[],_=>by simp[lf]
 |u::t,h=>by
  rw[cV] at h;rw[lf];split
  .rename_i hu
   rw[cV];refine⟨fun y hy=>?_,Aq h.2⟩;rcases qI.1 hy with rfl|hy
   .exact hu
   .exact h.1 y hy
  .rename_i hu
   split
   .rw[cV];exact h
   .rename_i hn
    have hx:x<u:=by grind
    rw[cV,cV];refine⟨fun y hy=>?_,h⟩;rcases aW.1 hy with rfl|hy
    .exact hx
    .have:=h.1 y hy;grind
def QE{l:List Rat}: ∀{o:List Rat},o.Pairwise (· < ·)->(l.foldl (fun out x=>lf x out) o).Pairwise (· < ·)/\ ∀y,y∈l.foldl (fun out x=>lf x out) o↔y∈l\/y∈o:=by
 induction l with
 |nil=>intro o h;exact⟨h,fun y=>by simp⟩
 |cons x t ih=>
  intro o h;obtain⟨h1,h2⟩:=ih (Aq (x:=x) h);refine⟨h1,fun y=>?_⟩;rw[kK,h2,qI,aW];grind
def zm(l:List Rat):(fE l).Pairwise (· < ·):=(QE (l:=l) List.Pairwise.nil).1
def pB{l:List Rat}{y:Rat}:y∈fE l↔y∈l:=by
 have:=(QE (l:=l) List.Pairwise.nil).2 y;simpa[fE] using this
def PH{g:Rat}: ∀{l:List Rat},l.Pairwise (· < ·)->g∈i8 l->g∉l/\(∃a∈l,a<g)/\ ∃b∈l,g<b
 |[],_,h=>by cases h
 |[_],_,h=>by cases h
 |a::b::t,h,hg=>by
  rw[cV] at h;have hab:=h.1 b aQ;rw[i8] at hg;rcases aW.1 hg with rfl|hg
  .refine⟨fun hm=>?_,⟨a,aQ,by grind⟩,b,aJ _ aQ,by grind⟩
   rcases aW.1 hm with e|hm
   .grind
   .rcases aW.1 hm with e|hm
    .grind
    .have h2:=h.2
     rw[cV] at h2;have:=h2.1 _ hm;grind
  .obtain⟨k1,⟨c,hc,k2⟩,d,hd,k3⟩:=PH h.2 hg
   refine⟨fun hm=>?_,⟨c,aJ _ hc,k2⟩,d,aJ _ hd,k3⟩;rcases aW.1 hm with e|hm
   .have:=h.1 c hc;grind
   .exact k1 hm
def Kk: ∀{l:List Rat} (h:l.Pairwise (· < ·)) (hn:l≠[]),∀y∈l,y<=l.getLast hn
 |[a],_,_,y,hy=>by rw[aS] at hy;subst hy;exact iS
 |a::b::t,h,_,y,hy=>by
  rw[cV] at h;rw[List.getLast_cons (by simp)];have ih:=Kk h.2 (by simp);rcases aW.1 hy with rfl|hy
  .have:=h.1 b aQ
   have:=ih b aQ;grind
  .exact ih y hy
def El{l:List Rat}(h:l.Pairwise (· < ·)){g:Rat}(hg:g∈ck l):g∉l:=by
 cases l with
 |nil=>simp
 |cons a t=>
  rw[ck] at hg;rcases aW.1 hg with rfl|hg
  .intro hm
   rcases aW.1 hm with e|hm
   .grind
   .rw[cV] at h;have:=h.1 _ hm;grind
  .rcases bW.1 hg with hg|hg
   .exact(PH h hg).1
   .rw[aS] at hg
    intro hm;have:=Kk h (by simp) g hm;grind
def Ll{v:Rat}: ∀{l:List Rat},l.Pairwise (· < ·)->v∉l->(∃a∈l,a<v)->(∃b∈l,v<b)-> ∃g∈i8 l,∀u∈l,u<v↔u<g
 |[],_,_,⟨a,h,_⟩,_=>by cases h
 |[c],_,_,⟨a,h,h1⟩,⟨b,k,k1⟩=>by
  rw[aS] at h k;subst h;subst k;grind
 |c::d::t,h,hv,h1,h2=>by
  have h0:=h;rw[cV] at h;have hcd:=h.1 d aQ;have h3:=h.2;rw[cV] at h3;have hvc:c<v:=by
   obtain⟨a,ha,hav⟩:=h1;rcases aW.1 ha with rfl|ha
   .exact hav
   .have:=h.1 a ha;grind
  by_cases hd:v<d
  .refine⟨(c+d)/2,by rw[i8];exact aQ,fun u hu=>?_⟩
   rcases aW.1 hu with rfl|hu
   .constructor<;>intro _<;>grind
   .rcases aW.1 hu with rfl|hu
    .constructor<;>intro _<;>grind
    .have:=h3.1 u hu
     constructor<;>intro _<;>grind
  .have hdv:d<v:=by
    have:v≠d:=fun e=>hv (by rw[e];exact aJ _ aQ);grind
   obtain⟨b,hb,hvb⟩:=h2;have hb':b∈d::t:=by
    rcases aW.1 hb with rfl|hb
    .exfalso;grind
    .exact hb
   obtain⟨g,hg,hr⟩:=Ll h.2 (fun e=>hv (aJ _ e)) ⟨d,aQ,hdv⟩ ⟨b,hb',hvb⟩;refine⟨g,by rw[i8];exact aJ _ hg,fun u hu=>?_⟩;rcases aW.1 hu with rfl|hu
   .have:=(hr d aQ).1 hdv
    constructor<;>intro _<;>grind
   .exact hr u hu
def Th{v:Rat}{l:List Rat}(h:l.Pairwise (· < ·))(hv:v∉l): ∃g∈ck l,∀u∈l,u<v↔u<g:=by
 cases l with
 |nil=>exact⟨0,by simp[ck],fun u hu=>by cases hu⟩
 |cons a t=>
  by_cases h1: ∃c∈a::t,c<v
  .by_cases h2: ∃c∈a::t,v<c
   .obtain⟨g,hg,hr⟩:=Ll h hv h1 h2
    exact⟨g,by rw[ck];exact aJ _ (bU _ hg),hr⟩
   .refine⟨(a::t).getLast (by simp)+1,by rw[ck];exact aJ _ (bK _ (aS.2 J)),fun u hu=>?_⟩
    have k1:=Kk h (by simp) u hu;have k2: ¬v<u:=fun e=>h2 ⟨u,hu,e⟩;have k3:u≠v:=fun e=>hv (e▸hu);constructor<;>intro _<;>grind
  .refine⟨a-1,by rw[ck];exact aQ,fun u hu=>?_⟩
   have k1: ¬u<v:=fun e=>h1 ⟨u,hu,e⟩;have k2: ¬u<a-1:=by
    rcases aW.1 hu with rfl|hu
    .grind
    .rw[cV] at h;have:=h.1 u hu;grind
   constructor
   .intro e;exact absurd e k1
   .intro e;exact absurd e k2
def CK(A B:List Rat)(h: ∀a∈A,∀b∈B,a<b): ∃y,(∀a∈A,a<y)/\ ∀b∈B,y<b:=by
 -- the greatest of A and the least of B
 have hA: ∀(A:List Rat),A≠[]-> ∃m∈A,∀a∈A,a<=m:=by
  intro A
  induction A with
  |nil=>intro h;exact absurd rfl h
  |cons x t ih=>
   intro _;by_cases ht:t=[]
   .subst ht;exact⟨x,aQ,fun a ha=>by rw[aS] at ha;subst ha;exact iS⟩
   .obtain⟨m,hm,hm2⟩:=ih ht
    by_cases hx:m<=x
    .exact⟨x,aQ,fun a ha=>by rcases aW.1 ha with rfl|ha;exact iS;have:=hm2 a ha;grind⟩
    .exact⟨m,aJ _ hm,fun a ha=>by rcases aW.1 ha with rfl|ha;grind;exact hm2 a ha⟩
 have hB: ∀(A:List Rat),A≠[]-> ∃m∈A,∀a∈A,m<=a:=by
  intro A
  induction A with
  |nil=>intro h;exact absurd rfl h
  |cons x t ih=>
   intro _;by_cases ht:t=[]
   .subst ht;exact⟨x,aQ,fun a ha=>by rw[aS] at ha;subst ha;exact iS⟩
   .obtain⟨m,hm,hm2⟩:=ih ht
    by_cases hx:x<=m
    .exact⟨x,aQ,fun a ha=>by rcases aW.1 ha with rfl|ha;exact iS;have:=hm2 a ha;grind⟩
    .exact⟨m,aJ _ hm,fun a ha=>by rcases aW.1 ha with rfl|ha;grind;exact hm2 a ha⟩
 by_cases eA:A=[]
 .subst eA
  by_cases eB:B=[]
  .subst eB;exact⟨0,fun a ha=>(by cases ha),fun a ha=>(by cases ha)⟩
  .obtain⟨m,hm,hm2⟩:=hB B eB
   exact⟨m-1,fun a ha=>(by cases ha),fun b hb=>by have:=hm2 b hb;grind⟩
 .obtain⟨m,hm,hm2⟩:=hA A eA
  by_cases eB:B=[]
  .subst eB;exact⟨m+1,fun a ha=>by have:=hm2 a ha;grind,fun a ha=>(by cases ha)⟩
  .obtain⟨n,hn,hn2⟩:=hB B eB
   have hmn:=h m hm n hn;exact⟨(m+n)/2,fun a ha=>by have:=hm2 a ha;grind,fun b hb=>by have:=hn2 b hb;grind⟩
def dG:List aa->List Rat
 |[]=>[]
 |a::t=>(if a.b=0 then [a.base.x] else [])++(t.filterMap (fun b=>if crossI a b=0 then none else some (di a b).x)++dG t)
def yA(a:aa)(x:Rat):Rat:= -(((a.a:Rat)*x+(a.c:Rat))/(a.b:Rat))
def gy(l:List aa)(x:Rat):List Rat:=l.filterMap fun a=>if a.b=0 then none else some (yA a x)
def qe(l:List aa):List ah:=(ck (fE (dG l))).flatMap fun x=>(ck (fE (gy l x))).map fun y=>⟨x,y⟩
def BV{a:aa}: ∀{l:List aa},a∈l->a.b=0->a.base.x∈dG l
 |[],h,_=>by cases h
 |c::t,h,hb=>by
  rw[dG];rcases aW.1 h with rfl|h
  .rw[if_pos hb];exact bU _ aQ
  .exact bK _ (bK _ (BV h hb))
def OH{a b:aa}: ∀{l:List aa},a∈l->b∈l->crossI a b≠0->(di a b).x∈dG l\/(di b a).x∈dG l
 |[],h,_,_=>by cases h
 |c::t,h,k,hx=>by
  have hx2:crossI b a≠0:=by unfold crossI at*;omega
  rw[dG];rcases aW.1 h with h1|h1
  .rcases aW.1 k with k1|k1
   .subst h1;subst k1;unfold crossI at hx;omega
   .subst h1;left
    exact bK _ (bU _ (jM.2 ⟨b,k1,by rw[if_neg hx]⟩))
  .rcases aW.1 k with k1|k1
   .subst k1;right
    exact bK _ (bU _ (jM.2 ⟨a,h1,by rw[if_neg hx2]⟩))
   .rcases OH h1 k1 hx with h2|h2
    .exact .inl (bK _ (bK _ h2))
    .exact .inr (bK _ (bK _ h2))
def Nx{a b:aa}(h:crossI a b≠0)(h1:a.value p=0)(h2:b.value p=0):p.x=(di a b).x:=by
 have hd:((crossI a b:Int):Rat)≠0:=fun e=>h (cX.1 e);unfold di;rw[if_neg h];show p.x=(meetX a b:Rat)/(crossI a b:Rat);have e1:=u' a b;have e2:=IQ a b;rw[jw] at h1 h2;have e3:((crossI a b:Int):Rat)*p.x=(meetX a b:Rat):=by rw[e1,e2];grind
 grind
def T3{l:List aa}{a b:aa}(ha:a∈l)(hb:b∈l)(h:crossI a b≠0)(h1:a.value p=0)(h2:b.value p=0):p.x∈dG l:=by
 have h':crossI b a≠0:=by unfold crossI at*;omega
 rcases OH ha hb h with k|k
 .rw[Nx h h1 h2];exact k
 .rw[Nx h' h2 h1];exact k
def zj{a:aa}(h:a.b≠0)(x y:Rat):a.value ⟨x,y⟩=(a.b:Rat)*(y-yA a x):=by
 have hb:(a.b:Rat)≠0:=fun e=>h (cX.1 e);unfold yA;rw[jw];show(a.a:Rat)*x+(a.b:Rat)*y+(a.c:Rat)=_;grind
def GM{a:aa}(hn:a.Ne)(h:a.b=0)(x y:Rat):a.value ⟨x,y⟩=(a.a:Rat)*(x-a.base.x):=by
 have ha:(a.a:Rat)≠0:=fun e=>hn ⟨cX.1 e,h⟩;obtain⟨q,hq,hb⟩:=BK hn;rw[hb,jw];show(a.a:Rat)*x+(a.b:Rat)*y+(a.c:Rat)=(a.a:Rat)*(x-(a.a:Rat)*q);simp only[aa.nor,ah.dot] at hq;rw[h] at hq⊢;have:((0:Int):Rat)=0:=J;rw[this] at hq⊢;grind
def Gq{l:List aa}{a:aa}(h:a∈l)(hb:a.b≠0)(x:Rat):yA a x∈gy l x:=jM.2 ⟨a,h,by rw[if_neg hb]⟩
def La{l:List aa}{x y:Rat}(h:y∈gy l x): ∃a∈l,a.b≠0/\y=yA a x:=by
 obtain⟨a,ha,e⟩:=jM.1 h;split at e
 .cases e
 .rename_i hb;cases e;exact⟨a,ha,hb,rfl⟩
def Gl{l:List aa}:p∈qe l↔p.x∈ck (fE (dG l))/\p.y∈ck (fE (gy l p.x)):=by
 unfold qe;rw[iU];constructor
 .rintro ⟨x,hx,hp⟩
  obtain⟨y,hy,rfl⟩:=aT.1 hp;exact⟨hx,hy⟩
 .rintro ⟨h1,h2⟩
  exact⟨p.x,h1,aT.2 ⟨p.y,h2,J⟩⟩
def Mw{l:List aa}(hok: ∀a∈l,a.Ne)(hp:p∈qe l):cF l p:=by
 obtain⟨h1,h2⟩:=Gl.1 hp;have k1:=El (zm _) h1;have k2:=El (zm _) h2;rw[pB] at k1 k2;obtain⟨x,y⟩:=p;intro a ha h0;by_cases hb:a.b=0
 .rw[GM (hok a ha) hb] at h0
  have ha0:(a.a:Rat)≠0:=fun e=>hok a ha ⟨cX.1 e,hb⟩;apply k1;have:x=a.base.x:=by
   rcases fW.1 h0 with h|h
   .exact absurd h ha0
   .grind
  show x∈_;rw[this];exact BV ha hb
 .rw[zj hb] at h0
  have hb0:(a.b:Rat)≠0:=fun e=>hb (cX.1 e);apply k2;have:y=yA a x:=by
   rcases fW.1 h0 with h|h
   .exact absurd h hb0
   .grind
  show y∈gy l x;rw[this];exact Gq ha hb x
def aI3(xs:List Rat)(a e:Rat)(he:0<e): ∃d,0<d/\d<=e/\a+d∉xs:=by
 induction xs generalizing e with
 |nil=>exact⟨e,he,iS,by simp⟩
 |cons x t ih=>
  by_cases hx:a<x
  .obtain⟨d,h1,h2,h3⟩:=ih (if e<=(x-a)/2 then e else(x-a)/2) (by split<;>grind)
   refine⟨d,h1,by split at h2<;>grind,fun hm=>?_⟩;rcases aW.1 hm with h|h
   .split at h2<;>grind
   .exact h3 h
  .obtain⟨d,h1,h2,h3⟩:=ih e he
   refine⟨d,h1,h2,fun hm=>?_⟩;rcases aW.1 hm with h|h
   .grind
   .exact h3 h
def vn(l:aa)(p:ah):aa:=if 0<l.value p then l else l.rev
def Vg{l:aa}(h:l.value p≠0):0<(vn l p).value p:=by
 unfold vn;split
 .assumption
 .rw[eD];grind
def UU{l:aa}{q:ah}(h:l.value p≠0)(k:0<(vn l p).value q):0<l.value p↔0<l.value q:=by
 unfold vn at k;split at k
 .rename_i h1;exact⟨fun _=>k,fun _=>h1⟩
 .rename_i h1;rw[eD] at k;constructor<;>intro _<;>grind
def shift{l:List aa}{q:ah}(ho:cF l q)(xs:List Rat): ∃q':ah,(∀a∈l,0<a.value q↔0<a.value q')/\cF l q'/\q'.x∉xs:=by
 have hD:bt (l.map fun a=>⟨vn a q,ao.all⟩) q:=fun s hs=>by
  obtain⟨a,ha,rfl⟩:=aT.1 hs;exact Vg (ho a ha)
 obtain⟨e,he,hm⟩:=hD.open ⟨1,0⟩;obtain⟨d,h1,h2,h3⟩:=aI3 xs q.x e he;have hd:=hm d (cM h1) h2;have key: ∀a∈l,0<(vn a q).value (cD q ⟨1,0⟩ d):=fun a ha=>hd ⟨vn a q,ao.all⟩ (aT.2 ⟨a,ha,J⟩);refine⟨cD q ⟨1,0⟩ d,fun a ha=>UU (ho a ha) (key a ha),fun a ha h0=>?_,?_⟩
 .have:=key a ha
  unfold vn at this;split at this
  .grind
  .rw[eD] at this;grind
 .show q.x+d*1∉xs
  rw[show d*1=d by grind];exact h3
def av2{l:List aa}(hok: ∀a∈l,a.Ne){q:ah}(ho:cF l q): ∃p∈qe l,∀a∈l,0<a.value q↔0<a.value p:=by
 obtain⟨⟨qx,qy⟩,hs,ho2,hx⟩:=shift ho (dG l);obtain⟨x0,hx0,hr⟩:=Th (zm (dG l)) (v:=qx) (by rw[pB];exact hx);have hx0':=El (zm _) hx0;rw[pB] at hx0';have hr': ∀u∈dG l,u<qx↔u<x0:=fun u hu=>hr u (pB.2 hu)
 -- the order on the vertical line is the same
 have order: ∀a∈l,∀b∈l,a.b≠0->b.b≠0->yA a qx<yA b qx->yA a x0<yA b x0:=by
  intro a ha b hb hab hbb hlt;by_cases hc:crossI a b=0
  .have e1:=u' a b
   rw[hc] at e1;have h0:((0:Int):Rat)=0:=J;rw[h0] at e1;have na:(a.b:Rat)≠0:=fun e=>hab (cX.1 e);have nb':(b.b:Rat)≠0:=fun e=>hbb (cX.1 e);have e2: ∀x,yA b x-yA a x=(a.c:Rat)/a.b-(b.c:Rat)/b.b:=fun x=>by
    unfold yA;grind
   have:=e2 qx;have:=e2 x0;grind
  .by_cases h:yA a x0<yA b x0
   .exact h
   .exfalso
    -- a crossing CK
    generalize hA:yA b qx-yA a qx=A;generalize hB:yA b x0-yA a x0=B;have hAB:0<A-B:=by grind
    have e:A/(A-B)*(A-B)=A:=by grind
    generalize hR:A/(A-B)=r at*;have r0:0<r:=(f9 hAB).1 (by rw[e];grind);have r1:r<=1:=by
     have:=(iv (s:=1-r) hAB).1 (by grind);grind
    have na:(a.b:Rat)≠0:=fun e=>hab (cX.1 e);have nb':(b.b:Rat)≠0:=fun e=>hbb (cX.1 e);have lin: ∀c:aa,c.b≠0->yA c (qx+r*(x0-qx))=yA c qx+r*(yA c x0-yA c qx):=fun c hc=>by
     have:(c.b:Rat)≠0:=fun e=>hc (cX.1 e);unfold yA;grind
    have hz:yA a (qx+r*(x0-qx))=yA b (qx+r*(x0-qx)):=by
     rw[lin a hab,lin b hbb];grind
    generalize hzx:qx+r*(x0-qx)=z at*;have hm:z∈dG l:=T3 (p:=⟨z,yA a z⟩) ha hb hc (by rw[zj hab];grind) (by rw[zj hbb,hz];grind);have hi:=hr' z hm;have hne:z≠x0:=fun e=>hx0' (e▸hm);have hne2:z≠qx:=fun e=>hx (e▸hm);rcases kE (x0-qx) with k|k|k
    .apply hne2;rw[<-hzx,k];grind
    .have p1:=dh r0 k
     have p2:=cG (a:=1-r) (b:=x0-qx) (by grind) (cM k);have:z<x0:=by grind
     have:=hi.2 this;grind
    .have p1:=dh r0 (b:=qx-x0) (by grind)
     have p2:=cG (a:=1-r) (b:=qx-x0) (by grind) (by grind);have:z<qx:=by grind
     have:=hi.1 this;grind
 -- a height CK the lower and the upper lines
 obtain⟨y',hy1,hy2⟩:=CK ((l.filter fun(a:aa)=>decide (a.b≠0/\yA a qx<qy)).map fun(a:aa)=>yA a x0) ((l.filter fun(a:aa)=>decide (a.b≠0/\qy<yA a qx)).map fun(a:aa)=>yA a x0) (fun u hu v hv=>by
  obtain⟨a,ha,rfl⟩:=aT.1 hu;obtain⟨b,hb,rfl⟩:=aT.1 hv;simp only[pL,decide_eq_true_eq] at ha hb;exact order a ha.1 b hb.1 ha.2.1 hb.2.1 (by have:=ha.2.2;have:=hb.2.2;grind))
 have tri: ∀a∈l,a.b≠0->yA a qx<qy\/qy<yA a qx:=fun a ha hb=>by
  have h1:=ho2 a ha;rw[zj hb] at h1;have:qy≠yA a qx:=fun e=>h1 (by rw[e];grind);grind
 have low: ∀a∈l,a.b≠0->yA a qx<qy->yA a x0<y':=fun a ha hb h=>hy1 _ (aT.2 ⟨a,by simp only[pL,decide_eq_true_eq];exact⟨ha,hb,h⟩,J⟩);have upp: ∀a∈l,a.b≠0->qy<yA a qx->y'<yA a x0:=fun a ha hb h=>hy2 _ (aT.2 ⟨a,by simp only[pL,decide_eq_true_eq];exact⟨ha,hb,h⟩,J⟩);have hy':y'∉gy l x0:=fun hm=>by
  obtain⟨a,ha,hb,e⟩:=La hm;rcases tri a ha hb with h|h
  .have:=low a ha hb h;grind
  .have:=upp a ha hb h;grind
 obtain⟨y0,hy0,hry⟩:=Th (zm (gy l x0)) (v:=y') (by rw[pB];exact hy');have hy0':=El (zm _) hy0;rw[pB] at hy0';refine⟨⟨x0,y0⟩,Gl.2 ⟨hx0,hy0⟩,fun a ha=>?_⟩;rw[hs a ha];by_cases hb:a.b=0
 .rw[GM (hok a ha) hb,GM (hok a ha) hb]
  have hi:=hr' _ (BV ha hb);have n1:a.base.x≠qx:=fun e=>hx (e▸BV ha hb);have n2:a.base.x≠x0:=fun e=>hx0' (e▸BV ha hb);have ha0:(a.a:Rat)≠0:=fun e=>hok a ha ⟨cX.1 e,hb⟩;generalize a.base.x=u at*;generalize (a.a:Rat)=A at*;by_cases h1:u<qx
  .have h2:=hi.1 h1
   rw[f9 (k:=qx-u) (by grind),f9 (k:=x0-u) (by grind)]
  .have h2: ¬u<x0:=fun e=>h1 (hi.2 e)
   have e1:A*(qx-u)=(-A)*(u-qx):=by grind
   have e2:A*(x0-u)=(-A)*(u-x0):=by grind
   rw[e1,e2,f9 (k:=u-qx) (by grind),f9 (k:=u-x0) (by grind)]
 .rw[zj hb,zj hb]
  have hi:=hry (yA a x0) (pB.2 (Gq ha hb x0));have n2:yA a x0≠y0:=fun e=>hy0' (e▸Gq ha hb x0);have lo:=low a ha hb;have up:=upp a ha hb;have tri:=tri a ha hb;generalize yA a x0=v at*;generalize yA a qx=u at*;generalize (a.b:Rat)=B at*;rcases tri with h|h
  .have h3:=hi.1 (lo h)
   rw[f9 (k:=qy-u) (by grind),f9 (k:=y0-v) (by grind)]
  .have h3:=up h
   have h4: ¬v<y0:=fun e=>by have:=hi.2 e;grind
   have e1:B*(qy-u)=(-B)*(u-qy):=by grind
   have e2:B*(y0-v)=(-B)*(v-y0):=by grind
   rw[e1,e2,f9 (k:=u-qy) (by grind),f9 (k:=v-y0) (by grind)]
def pk(out:List Rat)(s:ao):List Rat:=if s.nh then(if s.nl then out else lf s.lo out) else lf s.hi (if s.nl then out else lf s.lo out)
def km(l:List ao):List Rat:=l.foldl pk []
def vQ:List ao->Rat->Int
 |[],_=>0
 |s::t,x=>
  let a:=if s.nl then 1 else bA x s.lo
  let b:=if s.nh then-1 else bA x s.hi
  if 0<a/\b<0 then 2 else if(a=0/\b<=0)\/(b=0/\0<=a) then 1 else vQ t x
def gv(l:List ao)(x:Rat):Bool:=decide (vQ l x=2)
def fm(cuts:List Rat)(i:Nat):ao:=⟨if i=0 then 0 else cuts.getD (i-1) 0,if i<cuts.length then cuts.getD i 0 else 0,decide (i=0),decide (i=cuts.length)⟩
def vy(v w:ao):ao:=⟨v.lo,w.hi,v.nl,w.nh⟩
def gH(cuts:List Rat)(marks:List Bool):Nat->List ao
 |0=>[]
 |k+1=>
  let out:=gH cuts marks k
  if marks.getD k false then
   (if 0<k/\marks.getD (k-1) false=true then(match out.getLast? with
    |some v=>out.dropLast++[vy v (fm cuts k)]
    |none=>out++[fm cuts k]) else out++[fm cuts k])
  else out
def wU(cuts:List Rat)(marks:List Bool):List ao:=gH cuts marks marks.length
def oD(op:Int)(x y:Bool):Bool:=if op=2 then x&&y else if op=3 then x&&!y else if op=4 then x !=y else x||y
def q6(op:Int)(a b:List ao):List ao:=wU (km (a++b)) ((ck (km (a++b))).map fun t=>oD op (gv a t) (gv b t))
def jn(l m:aa)(side:Int):List ao:=
 if crossI l m=0 then(if(m.value l.base).num.sign=side then [ao.all] else [])
 else if(m.value (l.at (jo l (di l m)+1))).num.sign=side then [⟨jo l (di l m),0,false,true⟩] else [⟨0,jo l (di l m),true,false⟩]
def ng(l m:aa):Bool:=decide (crossI l m=0/\(m.value l.base).num.sign=0)
def fp(f:bz)(m:aa)(side:Int):List bz:=if ng f.l m then [] else(q6 2 [f.v] (jn f.l m side)).map fun v=>⟨f.l,v⟩
def Nd(l:List ao):(km l).Pairwise (· < ·)/\ ∀y∈km l,∃s∈l,(s.nl=false/\y=s.lo)\/(s.nh=false/\y=s.hi):=by
 have key: ∀(l:List ao) (o:List Rat),o.Pairwise (· < ·)->(l.foldl pk o).Pairwise (· < ·)/\ ∀y∈l.foldl pk o,y∈o\/ ∃s∈l,(s.nl=false/\y=s.lo)\/(s.nh=false/\y=s.hi):=by
  intro l
  induction l with
  |nil=>intro o h;exact⟨h,fun y hy=> .inl hy⟩
  |cons s t ih=>
   intro o h;have h1:(pk o s).Pairwise (· < ·)/\ ∀y∈pk o s,y∈o\/(s.nl=false/\y=s.lo)\/(s.nh=false/\y=s.hi):=by
    unfold pk
    cases e1:s.nl<;>cases e2:s.nh<;>simp only[if_true,kZ,if_false]
    .refine⟨Aq (Aq h),fun y hy=>?_⟩
     rcases qI.1 hy with h|h
     .exact .inr (.inr ⟨trivial,h⟩)
     .rcases qI.1 h with h|h
      .exact .inr (.inl ⟨trivial,h⟩)
      .exact .inl h
    .refine⟨Aq h,fun y hy=>?_⟩
     rcases qI.1 hy with h|h
     .exact .inr (.inl ⟨trivial,h⟩)
     .exact .inl h
    .refine⟨Aq h,fun y hy=>?_⟩
     rcases qI.1 hy with h|h
     .exact .inr (.inr ⟨trivial,h⟩)
     .exact .inl h
    .exact⟨h,fun y hy=> .inl hy⟩
   obtain⟨k1,k2⟩:=ih (pk o s) h1.1;refine⟨k1,fun y hy=>?_⟩;rcases k2 y hy with h2|⟨q,hq,h2⟩
   .rcases h1.2 y h2 with h3|h3
    .exact .inl h3
    .exact .inr ⟨s,aQ,h3⟩
   .exact .inr ⟨q,aJ _ hq,h2⟩
 have:=key l [] List.Pairwise.nil;refine⟨this.1,fun y hy=>?_⟩;rcases this.2 y hy with h|h
 .cases h
 .exact h
structure JX (cuts:List Rat) (v:ao):Prop where
 z:il v
 lo:v.nl=true\/v.lo∈cuts
 hi:v.nh=true\/v.hi∈cuts
def UZ{cuts:List Rat}(h:i<=cuts.length):JX cuts (fm cuts i):=by
 unfold fm;refine⟨⟨fun e=>?_,fun e=>?_⟩,?_,?_⟩
 .simp only[decide_eq_true_eq] at e;simp[e]
 .simp only[decide_eq_true_eq] at e;simp[e]
 .by_cases h0:i=0
  .left;simp[h0]
  .right
   simp only[if_neg h0];rw[aK,aZ (by omega)];exact cN _
 .by_cases h0:i=cuts.length
  .left;simp[h0]
  .right
   simp only[if_pos (show i<cuts.length by omega)];rw[aK,aZ (by omega)];exact cN _
def QK{cuts:List Rat}{marks:List Bool}: ∀{k:Nat},k<=cuts.length+1-> ∀v∈gH cuts marks k,JX cuts v
 |0,_,v,hv=>by cases hv
 |k+1,hk,v,hv=>by
  have ih:=QK (cuts:=cuts) (marks:=marks) (k:=k) (by omega);have hg:=UZ (cuts:=cuts) (i:=k) (by omega);rw[gH] at hv;split at hv
  .split at hv
   .split at hv
    .rename_i w hw
     rcases bW.1 hv with h|h
     .exact ih v ((List.dropLast_sublist _).subset h)
     .rw[aS] at h;subst h
      have hw':=ih w (List.mem_of_getLast? hw);exact⟨⟨hw'.z.1,hg.z.2⟩,hw'.lo,hg.hi⟩
    .rcases bW.1 hv with h|h
     .exact ih v h
     .rw[aS] at h;subst h;exact hg
   .rcases bW.1 hv with h|h
    .exact ih v h
    .rw[aS] at h;subst h;exact hg
  .exact ih v hv
def yt{l:List Rat}:(ck l).length=l.length+1:=by
 have key: ∀(l:List Rat) (a:Rat),(i8 (a::l)).length=l.length:=by
  intro l
  induction l with
  |nil=>intro a;rfl
  |cons b t ih=>intro a;rw[i8,bJ,ih b,bJ]
 cases l with
 |nil=>rfl
 |cons a t=>rw[ck,bJ,aU,key];simp
def ayq{a b:List ao}: ∀v∈q6 op a b,JX (km (a++b)) v:=fun v hv=>by
 unfold q6 wU at hv;refine QK ?_ v hv;rw[aX,yt];omega
def Kg{cuts:List Rat}{marks:List Bool}: ∀{k:Nat},(gH cuts marks k).length<=k
 |0=>bX _
 |k+1=>by
  have ih:=Kg (cuts:=cuts) (marks:=marks) (k:=k);rw[gH];split
  .split
   .split
    .rename_i w hw
     have:=List.length_pos_of_mem (List.mem_of_getLast? hw);rw[aU,mU];simp;omega
    .rw[aU];simp;omega
   .rw[aU];simp;omega
  .omega
structure pD (f:bz):Prop where
 lb:LB f.l
 ok:f.l.ok
 z:il f.v
 lo:BQ f.v.lo 1200
 hi:BQ f.v.hi 1200
theorem BQ.zero1200:BQ (0:Rat) 1200:=BQ.mono (k:=1) ⟨by decide,by decide⟩
def Hg{l m:aa}(hl:LB l)(hm:LB m)(hlo:l.ok): ∀v∈jn l m side,il v/\BQ v.lo 1200/\BQ v.hi 1200:=fun v hv=>by
 unfold jn at hv;split at hv
 .split at hv
  .rw[aS] at hv;subst hv;exact⟨il.all,BQ.zero1200,BQ.zero1200⟩
  .cases hv
 .rename_i hc
  have:=Ez hlo.ne hc;split at hv
  .rw[aS] at hv;subst hv;exact⟨⟨fun h=>(by cases h),fun _=>J⟩,this,BQ.zero1200⟩
  .rw[aS] at hv;subst hv;exact⟨⟨fun _=>J,fun h=>(by cases h)⟩,BQ.zero1200,this⟩
def JY{m:aa}(h:pD f)(hm:LB m): ∀g∈fp f m side,pD g/\g.l=f.l/\ng f.l m=false:=fun g hg=>by
 unfold fp at hg;split at hg
 .cases hg
 .rename_i ho
  obtain⟨v,hv,rfl⟩:=aT.1 hg;have hi:=ayq v hv;have bd: ∀y∈km ([f.v]++jn f.l m side),BQ y 1200:=fun y hy=>by
   obtain⟨s,hs,h1⟩:=(Nd _).2 y hy;rcases bW.1 hs with hs|hs
   .rw[aS] at hs;subst hs
    rcases h1 with⟨_,rfl⟩|⟨_,rfl⟩
    .exact h.lo
    .exact h.hi
   .have:=Hg h.lb hm h.ok s hs
    rcases h1 with⟨_,rfl⟩|⟨_,rfl⟩
    .exact this.2.1
    .exact this.2.2
  refine⟨⟨h.lb,h.ok,hi.z,?_,?_⟩,J,by simpa using ho⟩
  .rcases hi.lo with e|e
   .rw[hi.z.1 e];exact BQ.zero1200
   .exact bd _ e
  .rcases hi.hi with e|e
   .rw[hi.z.2 e];exact BQ.zero1200
   .exact bd _ e
def jP(acc:ah->Bool):Nat->List bz->List aa->Tr
 |_,[],c=> .leaf (acc (kH c c))
 |0,_::_,_=> .leaf false
 |n+1,f::t,c=> .node f.l (jP acc n ((f::t).flatMap fun g=>fp g f.l 1) (c++[f.l])) (jP acc n ((f::t).flatMap fun g=>fp g f.l (-1)) (c++[f.l.rev]))
def T8{g:bz}{m:aa}(h:g∈fp f m side):g.l=f.l:=by
 unfold fp at h;split at h
 .cases h
 .obtain⟨v,_,rfl⟩:=aT.1 h;rfl
def Aj{acc:ah->Bool}{P:aa->Prop}: ∀{n:Nat} {l:List bz} {c:List aa},(∀f∈l,P f.l)->(jP acc n l c).all P
 |n,[],c,_=>by unfold jP;trivial
 |0,_::_,_,_=>by unfold jP;trivial
 |n+1,f::t,c,h=>by
  rw[jP];refine⟨h f aQ,Aj fun g hg=>?_,Aj fun g hg=>?_⟩<;>
  .obtain⟨q,hq,hg⟩:=iU.1 hg
   rw[T8 hg];exact h q hq
def FT{acc:ah->Bool}: ∀{n:Nat} {l:List bz} {c:List aa},(jP acc n l c).depth<=n
 |n,[],c=>by unfold jP;exact bZ _
 |0,_::_,_=>by unfold jP;exact bZ _
 |n+1,f::t,c=>by
  rw[jP,Tr.depth];have h1:=FT (acc:=acc) (n:=n) (l:=(f::t).flatMap fun g=>fp g f.l 1) (c:=c++[f.l]);have h2:=FT (acc:=acc) (n:=n) (l:=(f::t).flatMap fun g=>fp g f.l (-1)) (c:=c++[f.l.rev]);omega
def tF(n:Nat)(l:List bz):Prop:= ∃K:List aa,K.length<=n/\ ∀f∈l,∃m∈K,m.same f.l
def Vo{m:aa}(hm:m.Ne):m.value m.base=0:=by
 have h:=mj hm 0;rw[<-yl,jF] at h;grind
def T1{l m:aa}(h:l.same m)(hm:m.Ne):ng m l=true:=by
 unfold ng;rw[decide_eq_true_iff];refine⟨?_,?_⟩
 .rcases h with rfl|rfl
  .unfold crossI;omega
  .unfold crossI aa.rev
   show(-l.a)*l.b-l.a*(-l.b)=0;grind
 .rw[pH]
  exact oO h.symm (Vo hm)
def tF.split{n:Nat}{t:List bz}(h:tF (n+1) (f::t))(hok: ∀g∈f::t,pD g):tF n ((f::t).flatMap fun g=>fp g f.l side):=by
 obtain⟨K,hK,hs⟩:=h;refine⟨K.filter fun m=>!decide (m.same f.l),?_,fun g hg=>?_⟩
 .obtain⟨m,hm,hm2⟩:=hs f aQ
  have:(K.filter fun m=>!decide (m.same f.l)).length<K.length:=by
   refine List.length_filter_lt_length_iff_exists.2 ⟨m,hm,by simp[hm2]⟩
  omega
 .obtain⟨q,hq,hg⟩:=iU.1 hg
  obtain⟨_,e,ho⟩:=JY (hok q hq) (hok f aQ).lb g hg;obtain⟨m,hm,hm2⟩:=hs q hq;refine⟨m,pL.2 ⟨hm,?_⟩,by rw[e];exact hm2⟩;simp only[iM,decide_eq_false_iff_not];intro h;have:=T1 (h.symm.trans hm2) (hok q hq).ok.ne;rw[this] at ho;cases ho
def aGE{p q r:Bool}{c:Nat}(h:Nat.gcd a b≠0):aa.ok ⟨zv p (a/Nat.gcd (Nat.gcd a b) c),zv q (b/Nat.gcd (Nat.gcd a b) c),zv r (c/Nat.gcd (Nat.gcd a b) c)⟩:=by
 have hg:0<Nat.gcd (Nat.gcd a b) c:=mL _ (iK h);have d0:Nat.gcd (Nat.gcd a b) c∣Nat.gcd a b:=kS _ _;have d1:Nat.gcd (Nat.gcd a b) c∣a:=rW d0 (kS _ _);have d2:Nat.gcd (Nat.gcd a b) c∣b:=rW d0 (lL _ _);have d3:Nat.gcd (Nat.gcd a b) c∣c:=lL _ _;refine⟨?_,?_⟩
 .rintro ⟨h1,h2⟩
  have h1':=congrArg Int.natAbs h1;have h2':=congrArg Int.natAbs h2;simp only[sA,lW] at h1' h2';have e1:=Nat.div_mul_cancel d1;have e2:=Nat.div_mul_cancel d2;rw[h1',lJ] at e1;rw[h2',lJ] at e2;exact h (by rw[<-e1,<-e2];rfl)
 .simp only[sA]
  rw[Nat.gcd_div d1 d2,Nat.gcd_div d0 d3,Nat.div_self hg]
def Iw(p:Bool)(a g:Nat):(zv p (a/g)).natAbs<=a:=by rw[sA];exact lK ..
def PF.eq{P:Program}{f:FuncId}{vs:List DV}{r r':DV}(h:PF GB P f vs r)(e:r=r'):PF GB P f vs r':=e▸h
def iP(m n:Int):ah:=⟨(m:Rat),(n:Rat)⟩
theorem H3(h:m.natAbs<2^k:=by omega):BI m k:=⟨h⟩
theorem mO(h:m.natAbs<=1000)(hk:10<=k:=by decide):BI m k:=⟨dZ (show m.natAbs<2^10 by omega) (bR (by decide) hk)⟩
instance aG.int (m n:Int) (i:Nat) [h:BI m i] [k:BI n i]:aG (iP m n) (i+1):=⟨inferInstanceAs (BQ (m:Rat) (i+1)),inferInstanceAs (BQ (n:Rat) (i+1))⟩
def vN{q:Rat}{k:Int}(h:q=(k:Rat)):eQ q=eQ (k:Rat):=by rw[h]
def WT{n:Int}(h1:p.x=(m:Rat))(h2:p.y=(n:Rat)):eP p=eP (iP m n):=by
 obtain⟨x,y⟩:=p;simp only at h1 h2;subst h1 h2;rfl
def py(a b c:Int):aa:=
 ⟨zv (decide (a<0)) (a.natAbs/Nat.gcd (Nat.gcd a.natAbs b.natAbs) c.natAbs),zv (decide (b<0)) (b.natAbs/Nat.gcd (Nat.gcd a.natAbs b.natAbs) c.natAbs),zv (decide (c<0)) (c.natAbs/Nat.gcd (Nat.gcd a.natAbs b.natAbs) c.natAbs)⟩
def I2{a b c:Int}(h: ¬(a=0/\b=0)):(py a b c).ok:=
 aGE fun e=>h ⟨kX.1 (mZ e),kX.1 (lM e)⟩
def AP(a b c:Int):(py a b c).a.natAbs<=a.natAbs/\(py a b c).b.natAbs<=b.natAbs/\(py a b c).c.natAbs<=c.natAbs:=⟨Iw ..,Iw ..,Iw ..⟩
def jk{n:Int}(hm:m.natAbs<=1000:=by omega)(hn:n.natAbs<=1000:=by omega):PF GB prog 18 [.v (.int .i64 m), .v (.int .i64 n)] (eP (iP m n)):=by
 refine fn func18 J J ntmps18 J J (fun C=>?_);refine cl J (kl (n:=m) (by omega) (by omega)) J<|cl J (kl (n:=n) (by omega) (by omega)) J<|?_;exact rz J J
def Dj{n k:Int}(hm:m.natAbs<=1000)(hn:n.natAbs<=1000)(hm':m'.natAbs<=1000)(hn':n'.natAbs<=1000)(hk:k.natAbs<=1000:=by decide):PF GB prog 56 [eP (iP m n),eQ (k:Rat),eP (iP m' n')] (eP (iP (m+k*m') (n+k*n'))):=by
 haveI:=mO (k:=10) hm;haveI:=mO (k:=10) hn;haveI:=mO (k:=10) hm';haveI:=mO (k:=10) hn';haveI:=mO (k:=10) hk;exact PF.eq (Ct (p:=iP m n) (q:=iP m' n') (c:=(k:Rat))) (WT (by show(m:Rat)+(k:Rat)*(m':Rat)=_;push_cast;rfl) (by show(n:Rat)+(k:Rat)*(n':Rat)=_;push_cast;rfl))
def Xi{n:Int}(hm:m.natAbs<=1000)(hn:n.natAbs<=1000)(hm':m'.natAbs<=1000)(hn':n'.natAbs<=1000):PF GB prog 54 [eP (iP m n),eP (iP m' n')] (eP (iP (m-m') (n-n'))):=by
 refine fn func54 J J ntmps54 J J (fun C=>?_);refine cl J (kl (n:= -1)) J<|cl J (Dj (m:=m) (n:=n) (m':=m') (n':=n') (k:= -1) hm hn hm' hn') J<|?_;exact rz J (by rw[show m-m'=m+ -1*m' by omega,show n-n'=n+ -1*n' by omega];rfl)
def Vq{n:Int}(hm:m.natAbs<=1000)(hn:n.natAbs<=1000)(hm':m'.natAbs<=1000)(hn':n'.natAbs<=1000):PF GB prog 220 [eP (iP m n),eP (iP m' n')] (.v (.bool (decide (m=m'/\n=n')))):=by
 haveI:=mO (k:=10) hm;haveI:=mO (k:=10) hn;haveI:=mO (k:=10) hm';haveI:=mO (k:=10) hn';refine fn func220 J J ntmps220 J J (fun C=>?_);refine cl J (mD (a:=(m:Rat)) (b:=(m':Rat))) J<|?_;refine cs 11 J J J (fun hg11=>?_) (fun hg11=>?_)
 .
  refine cl J (mD (a:=(n:Rat)) (b:=(n':Rat))) J<|?_;exact rz J (by rw[vx] at hg11;have e:m=m':=(by exact_mod_cast hg11);exact congrArg (fun z=>DV.v (.bool z)) (decide_eq_decide.2 (by rw[vx,pS];simp[e])))
 .
  exact rz J (by rw[vx] at hg11;have e: ¬m=m':=(fun e=>hg11 (by rw[e]));show DV.v (.bool false)=DV.v (.bool _);rw[decide_eq_false (fun h=>e h.1)])
def NH(ha:a<k)(hb:b<k):Nat.gcd a b<k:=by
 rcases gU a with rfl|p
 .simpa using hb
 .exact eK (Nat.gcd_le_left b p) ha
def Yx{a b c:Int}(ha:BI a i)(hb:BI b i)(hc:BI c i)(hi:i<=100000000)(h0: ¬(a=0/\b=0)):PF GB prog 210 [eI a,eI b,eI c] (.tp [eL (py a b c), .v (.bool true)]):=by
 have hgn:Nat.gcd a.natAbs b.natAbs≠0:=fun h=>h0 ⟨kX.1 (mZ h),kX.1 (lM h)⟩;have hgp:0<Nat.gcd (Nat.gcd a.natAbs b.natAbs) c.natAbs:=mL _ (iK hgn);haveI hb1:BN (Nat.gcd a.natAbs b.natAbs) i:=⟨NH ha.h hb.h⟩;haveI hb2:BN (Nat.gcd (Nat.gcd a.natAbs b.natAbs) c.natAbs) i:=⟨NH hb1.h hc.h⟩;refine fn func210 J J ntmps210 J J (fun C=>?_);refine cl J (By (a:=a.natAbs) (b:=b.natAbs) (by omega) (by omega)) J<|?_;refine br J J J (fun hc22=>?_) (fun hc22=>?_)
 .
  exact absurd hc22 (by rw[aX];intro h;exact hgn (vO.1 (by omega)))
 .
  refine cl J (By (a:=Nat.gcd a.natAbs b.natAbs) (b:=c.natAbs) (by omega) (by omega)) J<|cl J (xp (a:=a.natAbs) (b:=Nat.gcd (Nat.gcd a.natAbs b.natAbs) c.natAbs) hgp (by omega) (by omega)) J<|?_;refine cl J (xp (a:=b.natAbs) (b:=Nat.gcd (Nat.gcd a.natAbs b.natAbs) c.natAbs) hgp (by omega) (by omega)) J<|cl J (xp (a:=c.natAbs) (b:=Nat.gcd (Nat.gcd a.natAbs b.natAbs) c.natAbs) hgp (by omega) (by omega)) J<|?_;refine cl J (lz (m:=a.natAbs/(Nat.gcd (Nat.gcd a.natAbs b.natAbs) c.natAbs)) (neg:=decide (a<0))) J<|cl J (lz (m:=b.natAbs/(Nat.gcd (Nat.gcd a.natAbs b.natAbs) c.natAbs)) (neg:=decide (b<0))) J<|?_;refine cl J (lz (m:=c.natAbs/(Nat.gcd (Nat.gcd a.natAbs b.natAbs) c.natAbs)) (neg:=decide (c<0))) J<|?_;exact rz J J
def mn(n n':Int):Int:= -(n'-n)
def mH(m m':Int):Int:=m'-m
def tB(m n m' n':Int):Int:= -(mn n n'*m+mH m m'*n)
def oc(m n m' n':Int):aa:=py (mn n n') (mH m m') (tB m n m' n')
def E1{a b:Int}(ha:a.natAbs<=2000)(hb:b.natAbs<=1000):(a*b).natAbs<=2000000:=by
 rw[fR];exact gX ha hb
def QI{n:Int}(hm:m.natAbs<=1000)(hn:n.natAbs<=1000)(hm':m'.natAbs<=1000)(hn':n'.natAbs<=1000)(h0: ¬(m=m'/\n=n')):PF GB prog 126 [eP (iP m n),eP (iP m' n')] (.tp [eL (oc m n m' n'), .v (.bool true)]):=by
 obtain⟨a,hA⟩: ∃a,a=mn n n':=⟨_,rfl⟩;obtain⟨b,hB⟩: ∃b,b=mH m m':=⟨_,rfl⟩;have hA':a= -(n'-n):=hA;have hB':b=m'-m:=hB;obtain⟨c,hC⟩: ∃c,c= -(a*m+b*n):=⟨_,rfl⟩;have e1:=E1 (a:=a) (b:=m) (by omega) hm;have e2:=E1 (a:=b) (b:=n) (by omega) hn;haveI hm0:=mO (k:=10) hm;haveI hn0:=mO (k:=10) hn;haveI ha:BI a 30:=H3;haveI hb:BI b 30:=H3;haveI hc:BI c 30:=H3;have hthr:oc m n m' n'=py a b c:=by rw[hC,hA,hB];rfl
 have hne: ¬(a=0/\b=0):=fun h=>h0 (by omega);refine fn func126 J J ntmps126 J J (fun C=>?_);refine cl J (Xi (m:=m') (n:=n') (m':=m) (n':=n) hm' hn' hm hn) J<|cl J (PF.eq (vD (q:=(((n'-n):Int):Rat))) (vN (k:=a) (by rw[hA'];push_cast;rfl))) J<|?_;refine cl J (PF.eq (jm (a:=(a:Rat)) (b:=(m:Rat))) (vN (k:=a*m) (by push_cast;rfl))) J<|cl J (PF.eq (by haveI:BI (m'-m) 30:=(by rw[<-hB'];exact hb);exact jm (a:=(((m'-m):Int):Rat)) (b:=(n:Rat))) (vN (k:=b*n) (by rw[hB'];push_cast;rfl))) J<|?_;refine cl J (PF.eq (ol (a:=((a*m:Int):Rat)) (b:=((b*n:Int):Rat))) (vN (k:=a*m+b*n) (by push_cast;rfl))) J<|cl J (PF.eq (vD (q:=((a*m+b*n:Int):Rat))) (vN (k:=c) (by rw[hC];push_cast;rfl))) J<|?_;refine cl J (lD (q:=(a:Rat))) J<|cl J (lD (q:=(((m'-m):Int):Rat))) J<|cl J (PF.eq (sj (a:=1) (b:=1)) J) J<|?_;refine cl J (lD (q:=(c:Rat))) J<|cl J (PF.eq (sj (a:=1) (b:=1)) J) J<|cl (fu:=⟨1⟩) J (lz (neg:=false) (m:=1)) J<|?_;refine ak 40 (.d (eQ ((1:Int):Rat))) J J ?_;refine gx J<|cl J (PF.eq (jm (a:=(a:Rat)) (b:=((1:Int):Rat))) (vN (k:=a) (by push_cast;grind))) J<|cl J (PF.eq (by haveI:BI (m'-m) 30:=(by rw[<-hB'];exact hb);exact jm (a:=(((m'-m):Int):Rat)) (b:=((1:Int):Rat))) (vN (k:=b) (by rw[hB'];push_cast;grind))) J<|?_;refine cl J (PF.eq (jm (a:=(c:Rat)) (b:=((1:Int):Rat))) (vN (k:=c) (by push_cast;grind))) J<|cl J (Yx (a:=a) (b:=b) (c:=c) ha hb hc (by decide) hne) J<|?_;exact rz J (by rw[hthr];rfl)
def Xo(h:a<es.length):(es.map vI)[(a:Int).toNat]? =some (vI es[a]):=by simp[h]
def ayo:eP (iP 0 0)= .ag [.v (.bool false), .sl [], .sl [], .v (.bool false), .sl [], .sl []]:=by
 unfold eP iP;simp[qv,dD]
def X7{n p q:Int}(hm:m.natAbs<=4)(hn:n.natAbs<=4)(hp:p.natAbs<=4)(hq:q.natAbs<=4)(h: ¬(p=0/\q=0)):LS (oc m n (m+1*p) (n+1*q)):=by
 have e1:mn n (n+1*q)= -q:=by unfold mn;omega
 have e2:mH m (m+1*p)=p:=by unfold mH;omega
 have e3:((-q)*m).natAbs<=4*4:=by rw[fR];exact gX (by omega) hm
 have e4:(p*n).natAbs<=4*4:=by rw[fR];exact gX hp hn
 have e5:tB m n (m+1*p) (n+1*q)= -((-q)*m+p*n):=by unfold tB;rw[e1,e2]
 unfold oc;obtain⟨k1,k2,k3⟩:=AP (mn n (n+1*q)) (mH m (m+1*p)) (tB m n (m+1*p) (n+1*q));exact⟨I2 (by rw[e1,e2];omega),cS k1 (by rw[e1];omega),cS k2 (by rw[e2];omega),cS k3 (by rw[e5];omega)⟩
def au(es:List Int)(n:Int)(a:Nat):Nat×Nat:=
 if h:a<es.length then((if Int.tmod es[a] n<0 then Int.tmod es[a] n+n else Int.tmod es[a] n).toNat,a+1) else(0,a)
def dH{n:Int}(hn:1<=n:=by decide):((au es n a).1:Int)<n:=by
 unfold au;split
 .rename_i h
  have q2:=Int.tmod_lt_of_pos es[a] (show 0<n by omega);dsimp only;split<;>omega
 .exact hn
def iw{n:Int}(ha:a<=es.length):(au es n a).2<=es.length:=by
 unfold au;split
 .assumption
 .exact ha
def pF(es:List Int)(a:Nat):(Int×Int)×Nat:=((((au es 9 a).1:Int)-4,((au es 9 (au es 9 a).2).1:Int)-4),(au es 9 (au es 9 a).2).2)
def Cp(ha:a<=es.length):(pF es a).1.1.natAbs<=4/\(pF es a).1.2.natAbs<=4/\(pF es a).2<=es.length:=by
 have h1:=dH (es:=es) (n:=9) (a:=a);have h2:=dH (es:=es) (n:=9) (a:=(au es 9 a).2);have h3:=iw (n:=9) (iw (es:=es) (n:=9) ha);unfold pF;exact⟨by dsimp only;omega,by dsimp only;omega,h3⟩
def vF(es:List Int)(a:Nat):(Int×Int)×Nat:=if(pF es a).1.1=0/\(pF es a).1.2=0 then((1,0),(pF es a).2) else pF es a
def FB(ha:a<=es.length):(vF es a).1.1.natAbs<=4/\(vF es a).1.2.natAbs<=4/\ ¬((vF es a).1.1=0/\(vF es a).1.2=0)/\(vF es a).2<=es.length:=by
 obtain⟨h1,h2,h3⟩:=Cp ha;unfold vF;split
 .exact⟨show(1:Int).natAbs<=4 by decide,show(0:Int).natAbs<=4 by decide,show¬((1:Int)=0/\(0:Int)=0) by decide,h3⟩
 .rename_i h;exact⟨h1,h2,h,h3⟩
def lF(es:List Int)(a:Nat):aa×Nat:=(oc (pF es a).1.1 (pF es a).1.2 ((pF es a).1.1+1*(vF es (pF es a).2).1.1) ((pF es a).1.2+1*(vF es (pF es a).2).1.2),(vF es (pF es a).2).2)
def PE(ha:a<=es.length):LS (lF es a).1/\(lF es a).2<=es.length:=by
 obtain⟨h1,h2,h3⟩:=Cp ha;obtain⟨k1,k2,k3,k4⟩:=FB h3;exact⟨X7 h1 h2 k1 k2 k3,k4⟩
def oh(hes:es.length<=400)(ha:a<=es.length){n:Int}(hn:1<=n:=by decide)(hn2:n<=1000:=by decide):PM GB prog 45 (lA [none,some (.v (.int .i64 n))] b) b 107 [.sl (es.map vI), .v (.int .i64 (a:Nat))] (.v (.int .i64 ((au es n a).1:Nat))) [.sl (es.map vI), .v (.int .i64 ((au es n a).2:Nat))]:=by
 have hel:(es.map vI).length=es.length:=by simp
 refine z' func45 J J ntmps45 J J (fun C b m lo hmb=>?_);refine br J J J (fun hc15=>?_) (fun hc15=>?_)
 .
  have hf:au es n a=(0,a):=by unfold au;rw[dif_neg (by omega)]
  exact om hmb J J (by rw[hf]<;>rfl) (by rw[hf]<;>rfl)
 .
  have hal:a<es.length:=by omega
  obtain⟨e,he⟩: ∃e,e=es[a]:=⟨_,rfl⟩;have q2:=Int.tmod_lt_of_pos e (show 0<n by omega);have q3: -n<Int.tmod e n:=by have:=Int.lt_tmod_of_pos e (show 0<n by omega);omega
  refine ix (fu:=⟨1⟩) _ J (Xo hal) J<|?_;refine ak 25 (.d (vI e)) J (by rw[he]<;>rfl) ?_;refine gx (hv:=by simp only[aj];exact⟨⟨by omega,by kernel_rfl⟩,by omega⟩) J<|?_;refine br J J J (fun hc36=>?_) (fun hc36=>?_)
  .
   have hf:au es n a=((Int.tmod e n+n).toNat,a+1):=by unfold au;rw[dif_pos hal,<-he,if_pos hc36]
   exact om hmb J J (by rw[hf];show DV.v (.int .i64 _)=DV.v (.int .i64 _);rw[qN (by omega)]) (by rw[hf]<;>rfl)
  .
   have hf:au es n a=((Int.tmod e n).toNat,a+1):=by unfold au;rw[dif_pos hal,<-he,if_neg hc36]
   exact om hmb J J (by rw[hf];show DV.v (.int .i64 _)=DV.v (.int .i64 _);rw[qN (by omega)]) (by rw[hf]<;>rfl)
def SH(hes:es.length<=400)(ha:a<=es.length):PM GB prog 173 (lA [none] b) b 107 [.sl (es.map vI), .v (.int .i64 (a:Nat))] (eP (iP (pF es a).1.1 (pF es a).1.2)) [.sl (es.map vI), .v (.int .i64 ((pF es a).2:Nat))]:=by
 have h1:=dH (es:=es) (n:=9) (a:=a);have h2:=dH (es:=es) (n:=9) (a:=(au es 9 a).2);refine z' func173 J J ntmps173 J J (fun C b m lo hmb=>?_);refine cm J (fun b=>(oh (n:=9) hes ha)) J<|cm J (fun b=>(oh (n:=9) hes (iw ha))) J<|?_;refine cl J (jk (m:=((au es 9 a).1:Int)-4) (n:=((au es 9 (au es 9 a).2).1:Int)-4)) J<|?_;exact om hmb J J J J
def Xx(hes:es.length<=400)(ha:a<=es.length):PM GB prog 174 (lA [none] b) b 107 [.sl (es.map vI), .v (.int .i64 (a:Nat))] (eP (iP (vF es a).1.1 (vF es a).1.2)) [.sl (es.map vI), .v (.int .i64 ((vF es a).2:Nat))]:=by
 obtain⟨hm,hn,ha1⟩:=Cp ha;refine z' func174 J J ntmps174 J J (fun C b m lo hmb=>?_);refine cm (fu:=⟨9⟩) J (fun b=>(SH hes ha)) J<|?_;refine ak 7 (.d (eP (iP 0 0))) J (by rw[ayo]<;>rfl) ?_;refine gx J<|cl J (Vq (m:=(pF es a).1.1) (n:=(pF es a).1.2) (m':=0) (n':=0) (by omega) (by omega) (by decide) (by decide)) J<|?_;refine bd J J J (fun hc8=>?_) (fun hc8=>?_)
 .
  have hf:vF es a=((1,0),(pF es a).2):=by unfold vF;rw[if_pos hc8]
  refine cl J (jk (m:=1) (n:=0) (by decide) (by decide)) J<|?_;exact om hmb J J (by rw[hf]<;>rfl) (by rw[hf])
 .
  have hf:vF es a=pF es a:=by unfold vF;rw[if_neg hc8]
  exact om hmb J J (by rw[hf]<;>rfl) (by rw[hf])
def YX(hes:es.length<=400)(ha:a<=es.length):PM GB prog 89 (lA [none] b) b 107 [.sl (es.map vI), .v (.int .i64 (a:Nat))] (eL (lF es a).1) [.sl (es.map vI), .v (.int .i64 ((lF es a).2:Nat))]:=by
 obtain⟨hm,hn,ha1⟩:=Cp ha;obtain⟨hp,hq,hz,ha2⟩:=FB ha1;refine z' func89 J J ntmps89 J J (fun C b m lo hmb=>?_);refine cm J (fun b=>(SH hes ha)) J<|cl J (kl (n:=1)) J<|cm J (fun b=>(Xx hes ha1)) J<|cl J (Dj (m:=(pF es a).1.1) (n:=(pF es a).1.2) (m':=(vF es (pF es a).2).1.1) (n':=(vF es (pF es a).2).1.2) (k:=1) (by omega) (by omega) (by omega) (by omega)) J<|?_;refine cl J (QI (m:=(pF es a).1.1) (n:=(pF es a).1.2) (m':=(pF es a).1.1+1*(vF es (pF es a).2).1.1) (n':=(pF es a).1.2+1*(vF es (pF es a).2).1.2) (by omega) (by omega) (by omega) (by omega) (by omega)) J<|?_;exact om hmb J J J J
def Dv{p:Bool}:PF GB prog 90 [.v (.bool p)] (eT (.leaf p)):=by
 refine fn func90 J J ntmps90 J J (fun C=>?_);refine ir 5 J ?_;exact rz J J
abbrev ZP:=Int×Int
variable {r:List ZP}
def ZP.q(p:ZP):ah:=iP p.1 p.2
def ZP.le(k:Nat)(p:ZP):Prop:=p.1.natAbs<=k/\p.2.natAbs<=k
def kC(p q:ZP):ZP:=(p.1+1*q.1,p.2+1*q.2)
def kd(u v:ZP):Int:=u.1*v.2-u.2*v.1
theorem Qz{n p q:Int}(hm:m.natAbs<=1000)(hn:n.natAbs<=1000)(hp:p.natAbs<=1000)(hq:q.natAbs<=1000)(h: ¬(p=m/\q=n)):LB (oc m n p q)/\(oc m n p q).ok:=by
 have e1:(mn n q).natAbs<=2000:=by unfold mn;omega
 have e2:(mH m p).natAbs<=2000:=by unfold mH;omega
 have e3:=E1 e1 hm;have e4:=E1 e2 hn;have e5:(tB m n p q).natAbs<=4000000:=by unfold tB;omega
 unfold oc;obtain⟨k1,k2,k3⟩:=AP (mn n q) (mH m p) (tB m n p q);have hb:(2:Nat)^96=79228162514264337593543950336:=by decide
 refine⟨⟨⟨?_,?_,?_⟩⟩,I2 ?_⟩
 .rw[hb];omega
 .rw[hb];omega
 .rw[hb];omega
 .unfold mn mH;omega
def C4(v w:ZP):bz:=⟨oc v.1 v.2 w.1 w.2,⟨jo (oc v.1 v.2 w.1 w.2) v.q,jo (oc v.1 v.2 w.1 w.2) w.q,false,false⟩⟩
def iC(r:List ZP)(i:Nat):ZP:=r.getD ((i+1)%r.length) (0,0)
def rk(r:List ZP):Nat->List bz
 |0=>[]
 |k+1=>rk r k++[C4 (r.getD k (0,0)) (iC r k)]
def kO(r:List ZP):List bz:=rk r r.length
structure ew (r:List ZP):Prop where
 n3:3<=r.length
 n6:r.length<=6
 le: ∀p∈r,ZP.le 100 p
 ne: ∀i<r.length,r.getD i (0,0)≠iC r i
def uR(h:i<r.length:=by omega):r.getD i (0,0)∈r:=by
 rw[aK,aZ h];exact cN h
def y7(h:i<r.length:=by omega):iC r i∈r:=uR (dV _ (by omega))
theorem Rj{l:aa}(hl:LB l)(ho:l.ok){n:Int}(hm:m.natAbs<=1000)(hn:n.natAbs<=1000):BQ (jo l (iP m n)) 1200:=by
 haveI:=mO (k:=11) hm;haveI:=mO (k:=11) hn;have hd:=AO ho.ne;have hA:BI (l.a*l.a+l.b*l.b) _:=inferInstance;have hB:BI (m*l.b-n*l.a) _:=inferInstance;have hA':=CO (j:=1200) hA;have hB':=CO (j:=1200) hB;have e1:l.dir.dot l.dir=((l.a*l.a+l.b*l.b:Int):Rat):=by
  rw[lV,cW,cW];simp only[aa.dir,ah.dot];grind
 have e2:(iP m n).dot l.dir=((m*l.b-n*l.a:Int):Rat):=by
  rw[iR,cW,cW];simp only[aa.dir,ah.dot,iP];grind
 have hd':((0:Int):Rat)<((l.a*l.a+l.b*l.b:Int):Rat):=by rw[<-e1];exact hd
 unfold jo;rw[e2,e1];clear hA hB e1 e2;generalize l.a*l.a+l.b*l.b=D at*;generalize m*l.b-n*l.a=M at*;have hD:0<D:=Rat.intCast_lt_intCast.1 hd';refine BQ.of_fracI (n:=M) (D:=D) (by omega) ?_ hB' hA';have h0:(D:Rat)≠0:=fun e=>by rw[e] at hd';exact absurd hd' (by decide)
 have:((D.natAbs:Nat):Rat)=(D:Rat):=by
  have h1:((D.natAbs:Nat):Int)=D:=by omega
  rw[<-h1];rfl
 rw[this];grind
def Zf{v w:ZP}(hv:ZP.le 100 v)(hw:ZP.le 100 w)(h:v≠w):pD (C4 v w):=by
 obtain⟨h1,h2⟩:=Qz (m:=v.1) (n:=v.2) (p:=w.1) (q:=w.2) (by have:=hv.1;omega) (by have:=hv.2;omega) (by have:=hw.1;omega) (by have:=hw.2;omega) (fun e=>h (Prod.ext e.1.symm e.2.symm));exact⟨h1,h2,⟨fun e=>(by cases e),fun e=>(by cases e)⟩,Rj h1 h2 (by have:=hv.1;omega) (by have:=hv.2;omega),Rj h1 h2 (by have:=hw.1;omega) (by have:=hw.2;omega)⟩
def Ih{r:List ZP}(h:ew r): ∀{k:Nat},k<=r.length->(rk r k).length=k/\ ∀f∈rk r k,pD f
 |0,_=>⟨J,fun f hf=>by cases hf⟩
 |k+1,hk=>by
  obtain⟨h1,h2⟩:=Ih h (k:=k) (by omega);rw[rk];refine⟨by simp[h1],fun f hf=>?_⟩;rcases bW.1 hf with hf|hf
  .exact h2 f hf
  .rw[aS] at hf;subst hf
   exact Zf (h.le _ (uR)) (h.le _ (y7)) (h.ne k (by omega))
def BP(h:ew r):(kO r).length=r.length/\ ∀f∈kO r,pD f:=Ih h (bX _)
def i9(rs:List (List ZP)):List bz:=rs.flatMap kO
def zg: ∀{rs:List (List ZP)},(∀r∈rs,ew r)->(i9 rs).length<=6*rs.length/\ ∀f∈i9 rs,pD f
 |[],_=>⟨bX _,fun f hf=>by cases hf⟩
 |r::rs,h=>by
  obtain⟨h1,h2⟩:=zg (rs:=rs) fun q hq=>h q (aJ _ hq);obtain⟨k1,k2⟩:=BP (h r aQ);have:=(h r aQ).n6;unfold i9 at*;rw[lN];refine⟨by rw[aU,k1,bJ];omega,fun f hf=>?_⟩;rcases bW.1 hf with hf|hf
  .exact k2 f hf
  .exact h2 f hf
def nI(a b c:ah):Int:=(ah.cross (cD b a (-1)) (cD c a (-1))).num.sign
def ui(v w p:ah):Int:=
 (if bA v.y p.y<=0/\ ¬bA w.y p.y<=0/\0<nI v w p then 1 else 0)-(if¬bA v.y p.y<=0/\bA w.y p.y<=0/\nI v w p<0 then 1 else 0)
def q8(r:List ZP)(p:ah):Nat->Int
 |0=>0
 |k+1=>q8 r p k+ui (r.getD k (0,0)).q (iC r k).q p
def uA(r:List ZP)(p:ah):Int:=q8 r p r.length
def wz(fill n:Int):Bool:=(decide (fill=1)&&decide (n.tmod 2≠0))||(decide (fill=2)&&decide (n≠0))
def nC(rs:List (List ZP))(fill:Int)(p:ah):Bool:=wz fill (rs.foldl (fun n r=>n+uA r p) 0)
def um(rs:List (List ZP))(fill:Int):Tr:=jP (nC rs fill) (i9 rs).length (i9 rs) []
def fI(rs:List (List ZP))(fill:Int):Tr:=(um rs fill).restrict []
structure ie (k:Nat) (t:Tr):Prop where
 gd:t.gd
 dp:t.depth<=k
 am: ∃K:List aa,K.length<=k/\(∀l∈K,l.ok)/\fi K t
def DI{acc:ah->Bool}{n:Nat}{l:List bz}(h: ∀f∈l,pD f)(hn:l.length=n):ie n (jP acc n l []):=
 ⟨⟨Aj fun f hf=>(h f hf).lb,Aj fun f hf=>(h f hf).ok⟩,FT,l.map (·.l),by rw[aX,hn];exact bX _,fun m hm=>by
  obtain⟨f,hf,rfl⟩:=aT.1 hm;exact(h f hf).ok,Aj fun f hf=>⟨f.l,dX hf, .inl rfl⟩⟩
def ie.restrict{k:Nat}{t:Tr}(h:ie k t)(c:ar):ie k (t.restrict c):=by
 obtain⟨K,h1,h2,h3⟩:=h.am;exact⟨N2 h.gd c,cS (t.restrict_depth c) h.dp,K,h1,h2,h3.restrict c⟩
def ie.compl{k:Nat}{t:Tr}(h:ie k t):ie k t.compl:=by
 obtain⟨K,h1,h2,h3⟩:=h.am;exact⟨axF h.gd,by rw[t.compl_depth];exact h.dp,K,h1,h2,h3.compl⟩
def ie.mono(h:ie j t)(hk:j<=k):ie k t:=by
 obtain⟨K,h1,h2,h3⟩:=h.am;exact⟨h.gd,cS h.dp hk,K,by omega,h2,h3⟩
def ie.merge_size{j k:Nat}{op:Int}{t u:Tr}(h:ie j t)(hu:ie k u):(t.mergeQ op u []).size<=(j+k)*(1+(j+k)):=by
 obtain⟨K,h1,h2,h3⟩:=h.am;obtain⟨M,k1,k2,k3⟩:=hu.am;have hle:(K++M).length<=j+k:=by rw[aU];omega
 refine cS (Tr.merge_size (K:=K++M) (op:=op) (fun l hl=>(bW.1 hl).elim (h2 l) (k2 l)) h.gd.ok hu.gd.ok (h3.mono fun l hl=>⟨l,bU _ hl, .inl J⟩) (k3.mono fun l hl=>⟨l,bK _ hl, .inl J⟩)) ?_;exact gX hle (by omega)
def ie.lim(h:ie j t)(hu:ie k u)(hk:j+k<=200):lG op t u=some (t.mergeQ op u []):=
 RG (by have:=h.dp;have:=hu.dp;omega) (cS (h.merge_size hu) (cS (gX hk (show 1+(j+k)<=201 by omega)) (by decide)))
def Hq{rs:List (List ZP)}(h: ∀r∈rs,ew r)(hn:rs.length<=3):ie 18 (fI rs fill):=by
 obtain⟨h1,h2⟩:=zg h;exact((DI (acc:=nC rs fill) h2 J).restrict []).mono (by omega)
end Go.Sx
end
