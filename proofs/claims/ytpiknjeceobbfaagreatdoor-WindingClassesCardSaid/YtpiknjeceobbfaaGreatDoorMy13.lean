import Derived.Test.YtpiknjeceobbfaaGreatDoorMy12
set_option linter.all false
set_option maxHeartbeats 2000000
set_option maxRecDepth 100000
section
namespace Go.Sx
open Go Go.Proofs Tryz
variable {GB:Gh}
structure EG (GB:Gh) (ai al ae:Addr):Prop where
 ErrInvalid:GB 0=some [.iface 340 (.pointer (some ai))]
 ErrLimit:GB 2=some [.iface 340 (.pointer (some al))]
structure Tr.gd (t:Tr):Prop where
 lb:t.all LB
 ok:t.all ab.ok
def LH(op:Int)(a b:Tr):Option Tr:=if 1024<a.depth+b.depth then none else if 65536<(a.mergeQ op b []).size then none else some (a.mergeQ op b [])
def aHx(al:Addr):Option Tr->DV
 |some t=> .tp [eU t, .v .nilIface]
 |none=> .tp [.v (.pointer none),tw al]
def La(op:Int):Tr->List Tr->Option Tr
 |t,[]=>some t
 |t,u::us=>match LH op t u with
  |none=>none
  |some r=>La op r us
def Hz:DV:= .ag [vI 0, .sl []]
def aHb:Tr ⊕ Addr->DV
 | .inl t=> .tp [eA t, .v .nilIface]
 | .inr e=> .tp [Hz,tw e]
def aGS(ai:Addr):Option Tr->Tr ⊕ Addr
 |some t=> .inl t.compl
 |none=> .inr ai
def K6(al:Addr):Option Tr->Tr ⊕ Addr
 |some t=> .inl t
 |none=> .inr al
def aFg(ai al:Addr)(op:Int):Option Tr->Option Tr->Tr ⊕ Addr
 |some a,some b=>if 1<=op/\op<=4 then K6 al (LH op a b) else .inr ai
 |_,_=> .inr ai
abbrev qj:=Int×List RN
def qj.d(x:qj):DV:=XN x.1 x.2
def qj.q(x:qj):Option Tr:=QO x.2 x.1
def Sl:Option Tr->DV
 |some t=>eU t
 |none=> .v (.pointer none)
def VO(op:Int)(ts:List qj):Bool:=decide (1<=op/\op<=4)&&ts.all fun x=>x.q.isSome
def aHk(ai al ae:Addr)(op:Int)(ts:List qj):Tr ⊕ Addr:=
 if VO op ts then(match ts.filterMap qj.q with
  |[]=> .inr ae
  |a::us=>if 1024<a.depth then .inr al else K6 al (La op (a.restrict []) us)) else .inr ai
def aHp(ts:List qj):List DV:=ts.map fun x=>Sl x.q
structure qj.ok (x:qj):Prop where
 s: ∀n∈x.2,n.g.sm
 n:x.2.length<=65536
def RN.of(n:NQ):RN:=⟨⟨decide (n.l.a<0),dg n.l.a.natAbs,decide (n.l.b<0),dg n.l.b.natAbs,decide (n.l.c<0),dg n.l.c.natAbs⟩,n.a,n.b⟩
def EK(ns:List NQ):Tr->Int->List Nat->Prop
 | .leaf b,rt,L=>rt=Aq b/\L=[]
 | .node l x y,rt,L=> ∃(k:Nat) (a b:Int) (L1 L2:List Nat),rt=(k:Int)/\ns[k]? =some ⟨l,a,b⟩/\EK ns x a L1/\EK ns y b L2/\L=k::(L1++L2)
def RD'(ns:List NQ)(t:Tr)(rt:Int):Prop:= ∃L,EK ns t rt L/\L.Nodup/\L.length=ns.length
def Ma{a i:Nat}[ha:BN a i](hi:i<=400000000:=by decide):PF GB prog 94 [dN a] (dN a):=by
 have hl:=eB (dg a);have hb:=k8 ha.h;refine fn func94 J J ntmps94 J J (fun C=>?_);refine An J J<|ap ((dg a).map dU) J J (tH _) J<|?_;refine mf 5 J ?_;exact rz J J
def SQ{z:Int}{i:Nat}[hz:BI z i](hi:i<=400000000:=by decide):PF GB prog 93 [eI z] (eI z):=by
 refine fn func93 J J ntmps93 J J (fun C=>?_);refine cl J (Ma (a:=z.natAbs) (i:=i) (ha:=⟨hz.h⟩) hi) J<|?_;exact rz J J
def Kq{ds:List Nat}(hd:bg ds)(hn:ds.length<=1000000):PF GB prog 205 [eG ds] (dN (dv ds)):=by
 have hm:=eB ds;refine fn func205 J J ntmps205 J J (fun C=>?_);refine An J J<|ap (ds.map dU) J J (tH _) J<|fz 5 J J<|cl J (qf (ds:=ds) (by omega)) J<|?_;exact rz J (by unfold dN;rw[nn hd];rfl)
def aFT{neg:Bool}{ds:List Nat}(hd:bg ds)(hn:ds.length<=1000000):PF GB prog 206 [.ag [.v (.bool neg),eG ds]] (eI (vd neg ds)):=by
 refine fn func206 J J ntmps206 J J (fun C=>?_);refine cl J (Kq hd hn) J<|cl J gP J<|?_;exact rz J J
def rlD(r:RL):DV:= .tp [if r.nm then eL r.l else .ag [.v (.bool false), .sl [], .v (.bool false), .sl [], .v (.bool false), .sl []],vB (decide (r.nm/\r.l.ok))]
def smB(n:Int)(ls:List (List Nat)):Bool:=ls.all fun d=>decide ((d.length:Int)<=n)
def RL.smB(n:Int)(r:RL):Bool:=Sx.smB n [r.da,r.db,r.dc]
def rlB(n:Int)(ls:List RL):Bool:=ls.all fun r=>r.smB n
def aHN(cs:List RL):Option (List ab):=if cs.all (fun r=>r.ln.isSome) then some (cs.filterMap RL.ln) else none
def aHd:Option (List ab)->DV
 |some ls=> .tp [.sl (ls.map pf),vB true]
 |none=> .tp [.sl [],vB false]
def aHL:Option bw->DV
 |some c=> .tp [.sl (c.map cp),vB true]
 |none=> .tp [.sl [],vB false]
def aGh(ai al:Addr)(more:Nat):Option Tr->DV
 |none=> .tp [.v (.pointer none),tw ai]
 |some t=>if 1024<t.depth+more then .tp [.v (.pointer none),tw al] else .tp [eU t, .v .nilIface]
def aHG(ai:Addr)(f:Tr->Tr):Option Tr->Tr ⊕ Addr
 |some t=> .inl (f t)
 |none=> .inr ai
def aGd(ai ae:Addr):Option Tr->Option (List ab)->Tr ⊕ Addr
 |some t,some ls=>(match ph ls [] with
  |some c=> .inl (t.restrict c)
  |none=> .inr ae)
 |_,_=> .inr ai
def aHq(ai:Addr):Option ab->Option Tr->DV
 |some m,some t=> .tp [eA (t.restrict (gj [] m)),eA (t.restrict (gj [] m.rev)), .v .nilIface]
 |_,_=> .tp [Hz,Hz,tw ai]

def Tr.val:Tr->aa->Bool
 | .leaf b,_=>b
 | .node l x y,p=>if 0<l.value p then x.val p else y.val p
def Tr.lns:Tr->List ab
 | .leaf _=>[]
 | .node l x y=>l::(x.lns++y.lns)
def EZ{P:ab->Prop}: ∀{t:Tr},t.all P↔ ∀l∈t.lns,P l
 | .leaf _=>⟨fun _ l hl=>(by cases hl),fun _=>trivial⟩
 | .node l x y=>by
  show(P l/\x.all P/\y.all P)↔ ∀m∈l::(x.lns++y.lns),P m;rw[EZ (t:=x),EZ (t:=y)];constructor
  ·rintro ⟨h0,h1,h2⟩ m hm
   rcases aU.1 hm with rfl|hm
   ·exact h0
   ·rcases bT.1 hm with hm|hm
    ·exact h1 m hm
    ·exact h2 m hm
  ·intro h
   exact⟨h l aQ,fun m hm=>h m (aJ _ (bR _ hm)),fun m hm=>h m (aJ _ (cX _ hm))⟩
def tG{t:Tr}(h:t.all ab.ok): ∀l∈t.lns,l.ok:=EZ.1 h
def ji(L:List ab)(p:aa):Prop:= ∀l∈L,l.value p≠0
def ji.sub{L M:List ab}{p:aa}(h:ji L p)(k: ∀l∈M,l∈L):ji M p:=fun l hl=>h l (k l hl)
def ji.l{l:ab}{x y:Tr}{p:aa}(h:ji (Tr.node l x y).lns p):l.value p≠0:=h l aQ
def ji.x{l:ab}{x y:Tr}{p:aa}(h:ji (Tr.node l x y).lns p):ji x.lns p:=h.sub fun m hm=>aJ _ (bR _ hm)
def ji.y{l:ab}{x y:Tr}{p:aa}(h:ji (Tr.node l x y).lns p):ji y.lns p:=h.sub fun m hm=>aJ _ (cX _ hm)
def opB(op:Int)(a b:Bool):Bool:=if op=1 then a||b else if op=2 then a&&b else if op=3 then a&&!b else a !=b
def Tr.val_join(l:ab)(X Y:Tr)(p:aa):(Tr.joinQ l X Y).val p=(Tr.node l X Y).val p:=by
 unfold Tr.joinQ;split
 ·rename_i h
  cases X<;>cases Y<;>simp[Tr.isLeaf,Tr.code] at h
  subst h;simp[Tr.val]
 ·rfl
def Tr.val_pos{l:ab}{x y:Tr}{p:aa}(h:0<l.value p):(Tr.node l x y).val p=x.val p:=by rw[Tr.val,if_pos h]
def Tr.val_neg{l:ab}{x y:Tr}{p:aa}(h: ¬0<l.value p):(Tr.node l x y).val p=y.val p:=by rw[Tr.val,if_neg h]
def T4{c:bw}{l:ab}(hc:ip c)(hl:l.ok)(hb:fi c l.rev=false){p:aa}(hp:cg c p)(h0:l.value p≠0):0<l.value p:=by
 by_cases h:0<l.value p
 ·exact h
 ·exfalso
  have:fi c l.rev=true:=(Ea hc hl.rev).2 ⟨p,hp,by rw[nA];grind⟩;rw[hb] at this;cases this
def YR{c:bw}{l:ab}(hc:ip c)(hl:l.ok)(hb:fi c l=false){p:aa}(hp:cg c p): ¬0<l.value p:=fun h=>by
 have:fi c l=true:=(Ea hc hl).2 ⟨p,hp,h⟩;rw[hb] at this;cases this
def Tr.val_restrict: ∀(t:Tr) (c:bw) (p:aa),t.all ab.ok->ip c->cg c p->ji t.lns p->(t.restrict c).val p=t.val p
 | .leaf _,_,_,_,_,_,_=>rfl
 | .node l x y,c,p,⟨hl,hx,hy⟩,hc,hp,ho=>by
  cases hb:fi c l.rev with
  |false=>rw[Tr.restrict_A _ _ hb,x.val_restrict c p hx hc hp ho.x,Tr.val_pos (T4 hc hl hb hp ho.l)]
  |true=>
   cases hb2:fi c l with
   |false=>rw[Tr.restrict_B _ _ hb hb2,y.val_restrict c p hy hc hp ho.y,Tr.val_neg (YR hc hl hb2 hp)]
   |true=>
    rw[Tr.restrict_C _ _ hb hb2,Tr.val_join];obtain⟨g1,i1⟩:=Di hc hl hb2;obtain⟨g2,i2⟩:=Di hc hl.rev hb;by_cases h:0<l.value p
    ·rw[Tr.val_pos h,Tr.val_pos h,x.val_restrict _ p hx g1 ((i1 p).2 ⟨hp,h⟩) ho.x]
    ·rw[Tr.val_neg h,Tr.val_neg h,y.val_restrict _ p hy g2 ((i2 p).2 ⟨hp,by rw[nA];have:=ho.l;grind⟩) ho.y]
def Oh: ∀(L:List ab) (u:aa) (p:aa),ji L p-> ∃e:Rat,0<e/\ ∀d,0<=d->d<=e->ji L (aD p u d)
 |[],u,p,_=>⟨1,by decide,fun d _ _ l hl=>by cases hl⟩
 |l::L,u,p,h=>by
  obtain⟨e,he,hm⟩:=Oh L u p (h.sub fun m hm=>aJ _ hm);have h0:=h l aQ;have key: ∃f:Rat,0<f/\ ∀d,0<=d->d<=f->l.value (aD p u d)≠0:=by
   by_cases hk:l.nor.dot u=0
   ·exact⟨1,by decide,fun d _ _=>by rw[gA,hk];grind⟩
   ·generalize hA:l.value p=A at*
    generalize hB:l.nor.dot u=B at*;rcases di A with h|h|h
    ·exact absurd h h0
    ·rcases di B with k|k|k
     ·exact absurd k hk
     ·exact⟨1,by decide,fun d hd _=>by rw[gA,hA,hB];have:=bG hd (cS k);grind⟩
     ·refine⟨A/(-B)/2,?_,fun d hd h2=>?_⟩
      ·have:0<A/(-B):=by
        have e1:A/(-B)*(-B)=A:=by grind
        exact(fk (k:= -B) (by grind)).1 (by rw[e1];exact h)
       grind
      ·rw[gA,hA,hB]
       have e1:A/(-B)*(-B)=A:=by grind
       generalize A/(-B)=q at*;have h4:=bG (a:=q/2-d) (b:= -B) (by grind) (by grind);grind
    ·rcases di B with k|k|k
     ·exact absurd k hk
     ·refine⟨(-A)/B/2,?_,fun d hd h2=>?_⟩
      ·have:0<(-A)/B:=by
        have e1:(-A)/B*B= -A:=by grind
        exact(fk (k:=B) k).1 (by rw[e1];grind)
       grind
      ·rw[gA,hA,hB]
       have e1:(-A)/B*B= -A:=by grind
       generalize (-A)/B=q at*;have h4:=bG (a:=q/2-d) (b:=B) (by grind) (by grind);grind
     ·exact⟨1,by decide,fun d hd _=>by rw[gA,hA,hB];have:=bG hd (b:= -B) (by grind);grind⟩
  obtain⟨f,hf,hk⟩:=key;refine⟨if e<=f then e else f,by split<;>assumption,fun d hd hde m hm'=>?_⟩;have h1:d<=e/\d<=f:=by split at hde<;>grind
  rcases aU.1 hm' with rfl|hm'
  ·exact hk d hd h1.2
  ·exact hm d hd h1.1 m hm'
def I9{c:bw}{p:aa}(hp:cg c p): ∀(L:List ab),(∀l∈L,l.ok)-> ∃q,cg c q/\ji L q
 |[],_=>⟨p,hp,fun l hl=>by cases hl⟩
 |l::L,h=>by
  obtain⟨q,hq,ho⟩:=I9 hp L fun m hm=>h m (aJ _ hm);by_cases h0:l.value q=0
  ·have hn:=r4 (h l aQ).ne
   obtain⟨e,he,hm⟩:=hq.open l.nor;obtain⟨f,hf,hk⟩:=Oh L l.nor q ho;refine⟨aD q l.nor (if e<=f then e else f),hm _ (by split<;>grind) (by split<;>grind),fun m hm'=>?_⟩;rcases aU.1 hm' with rfl|hm'
   ·rw[gA,h0]
    have:=bt (a:=if e<=f then e else f) (b:=m.nor.dot m.nor) (by split<;>assumption) hn;grind
   ·exact hk _ (by split<;>grind) (by split<;>grind) m hm'
  ·exact⟨q,hq,fun m hm=>by rcases aU.1 hm with rfl|hm;exact h0;exact ho m hm⟩
def Tr.Red:Tr->bw->Prop
 | .leaf _,_=>True
 | .node l x y,c=>fi c l=true/\fi c l.rev=true/\x.Red (gj c l)/\y.Red (gj c l.rev)/\ ¬(x.isLeaf=true/\y.isLeaf=true/\x.code=y.code)
def ab.same(l m:ab):Prop:=m=l\/m=l.rev
instance (l m:ab):Decidable (l.same m):=inferInstanceAs (Decidable (_\/_))
def Tr.cnt(l:ab):Tr->Nat
 | .leaf _=>0
 | .node m x y=>(if l.same m then 1 else 0)+(x.cnt l+y.cnt l)
def Yn{l m:ab}(h:l.same m){p:aa}(hp:l.value p=0):m.value p=0:=by
 rcases h with rfl|rfl
 ·exact hp
 ·rw[nA,hp];rfl
def aFV(l:ab)(c:bw):Prop:= ∃p,cg c p/\l.value p=0
def inB(c:bw)(p:aa):Bool:=c.all fun s=>decide (0<s.l.value p)
def aEV(P:List aa)(l:ab)(t:Tr):Prop:=t.all fun m=>l.same m\/ ∀p,l.value p=0->m.value p=0->p∈P
def Lm(l:ab):l.rev.rev=l:=by cases l;simp[ab.rev]
def ab.same.symm{l m:ab}(h:l.same m):m.same l:=by
 rcases h with rfl|rfl
 ·exact .inl J
 ·exact .inr (Lm l).symm
def ab.same.trans{l m n:ab}(h:l.same m)(k:m.same n):l.same n:=by
 rcases h with rfl|rfl
 ·exact k
 ·rcases k with rfl|rfl
  ·exact .inr J
  ·exact .inl (Lm l)
def Zc(K:List ab)(t:Tr):Prop:=t.all fun n=> ∃m∈K,m.same n
def aFh(l m:ab):aa:=l.at (-(l.cutC m/l.cutK m))
def Kc(t:Tr):List ab->Nat
 |[]=>0
 |l::K=>t.cnt l+Kc t K
def Ks(n:ab):List ab->Nat
 |[]=>0
 |l::K=>(if l.same n then 1 else 0)+Ks n K
def Tr.chooseL(op:Int)(b:Bool)(t:Tr)(c:List ab):Tr:=
 if op=1/\b=true then .leaf true
 else if(op=2\/op=3)/\b=false then .leaf false
 else if(op=3\/op=4)/\b=true then(t.restrictL c).compl else t.restrictL c
def Tr.mergeL(op:Int):Tr->Tr->List ab->Tr
 | .leaf b,u,c=>u.chooseL op b c
 | .node l x y,u,c=>if AU c l=1 then x.mergeL op u c else if AU c l= -1 then y.mergeL op u c else joinQ l (x.mergeL op u (rx (c++[l]))) (y.mergeL op u (rx (c++[l.rev])))
structure Gen (L:List ab) (a b:Tr):Prop where
 oa:a.all ab.ok
 ob:b.all ab.ok
 ok: ∀l∈L,l.ok
 la: ∀l∈a.lns,l∈L
 lb: ∀l∈b.lns,l∈L
def n4(x:Rat):List Rat->List Rat
 |[]=>[x]
 |u::t=>if u<x then u::n4 x t else if u=x then u::t else x::u::t
def DA(l:List Rat):List Rat:=l.foldl (fun out x=>n4 x out) []
def oI:List Rat->List Rat
 |a::b::t=>(a+b)/2::oI (b::t)
 |_=>[]
def mi:List Rat->List Rat
 |[]=>[0]
 |a::t=>(a-1)::(oI (a::t)++[(a::t).getLast (by simp)+1])
def uC{x y:Rat}: ∀{l:List Rat},y∈n4 x l↔y=x\/y∈l
 |[]=>by simp[n4]
 |u::t=>by
  rw[n4];split
  ·rw[aU,uC (l:=t),aU];grind
  ·split
   ·rename_i h;subst h;simp
   ·simp
def y9{x:Rat}: ∀{l:List Rat},l.Pairwise (· < ·)->(n4 x l).Pairwise (· < ·)
 |[],_=>by simp[n4]
 |u::t,h=>by
  rw[bX] at h;rw[n4];split
  ·rename_i hu
   rw[bX];refine⟨fun y hy=>?_,y9 h.2⟩;rcases uC.1 hy with rfl|hy
   ·exact hu
   ·exact h.1 y hy
  ·rename_i hu
   split
   ·rw[bX];exact h
   ·rename_i hn
    have hx:x<u:=by grind
    rw[bX,bX];refine⟨fun y hy=>?_,h⟩;rcases aU.1 hy with rfl|hy
    ·exact hx
    ·have:=h.1 y hy;grind
def Ii: ∀{l:List Rat} (h:l.Pairwise (· < ·)) (hn:l≠[]),∀y∈l,y<=l.getLast hn
 |[a],_,_,y,hy=>by rw[aV] at hy;subst hy;exact dR
 |a::b::t,h,_,y,hy=>by
  rw[bX] at h;rw[List.getLast_cons (by simp)];have ih:=Ii h.2 (by simp);rcases aU.1 hy with rfl|hy
  ·have:=h.1 b aQ
   have:=ih b aQ;grind
  ·exact ih y hy
def IH:List ab->List Rat
 |[]=>[]
 |a::t=>(if a.b=0 then [a.base.x] else [])++(t.filterMap (fun b=>if crossI a b=0 then none else some (kh a b).x)++IH t)
def yA(a:ab)(x:Rat):Rat:= -(((a.a:Rat)*x+(a.c:Rat))/(a.b:Rat))
def Lj(l:List ab)(x:Rat):List Rat:=l.filterMap fun a=>if a.b=0 then none else some (yA a x)
def Lq(l:List ab):List aa:=(mi (DA (IH l))).flatMap fun x=>(mi (DA (Lj l x))).map fun y=>⟨x,y⟩
def aET(l:ab)(p:aa):ab:=if 0<l.value p then l else l.rev
def nC(out:List Rat)(s:aA):List Rat:=if s.nh then(if s.nl then out else n4 s.lo out) else n4 s.hi (if s.nl then out else n4 s.lo out)
def l5(l:List aA):List Rat:=l.foldl nC []
def Cp:List aA->Rat->Int
 |[],_=>0
 |s::t,x=>
  let a:=if s.nl then 1 else bE x s.lo
  let b:=if s.nh then-1 else bE x s.hi
  if 0<a/\b<0 then 2 else if(a=0/\b<=0)\/(b=0/\0<=a) then 1 else Cp t x
def vm(l:List aA)(x:Rat):Bool:=decide (Cp l x=2)
def kC(cuts:List Rat)(i:Nat):aA:=⟨if i=0 then 0 else cuts.getD (i-1) 0,if i<cuts.length then cuts.getD i 0 else 0,decide (i=0),decide (i=cuts.length)⟩
def Sb(v w:aA):aA:=⟨v.lo,w.hi,v.nl,w.nh⟩
def qo(cuts:List Rat)(marks:List Bool):Nat->List aA
 |0=>[]
 |k+1=>
  let out:=qo cuts marks k
  if marks.getD k false then
   (if 0<k/\marks.getD (k-1) false=true then(match out.getLast? with
    |some v=>out.dropLast++[Sb v (kC cuts k)]
    |none=>out++[kC cuts k]) else out++[kC cuts k])
  else out
def EE(cuts:List Rat)(marks:List Bool):List aA:=qo cuts marks marks.length
def MT(op:Int)(x y:Bool):Bool:=if op=2 then x&&y else if op=3 then x&&!y else if op=4 then x !=y else x||y
def xu(op:Int)(a b:List aA):List aA:=EE (l5 (a++b)) ((mi (l5 (a++b))).map fun t=>MT op (vm a t) (vm b t))
def u'(l m:ab)(side:Int):List aA:=
 if crossI l m=0 then(if(m.value l.base).num.sign=side then [aA.all] else [])
 else if(m.value (l.at (ci l (kh l m)+1))).num.sign=side then [⟨ci l (kh l m),0,false,true⟩] else [⟨0,ci l (kh l m),true,false⟩]
def uM(l m:ab):Bool:=decide (crossI l m=0/\(m.value l.base).num.sign=0)
def m9(f:aH)(m:ab)(side:Int):List aH:=if uM f.l m then [] else(xu 2 [f.v] (u' f.l m side)).map fun v=>⟨f.l,v⟩
def MY(l:List aA):(l5 l).Pairwise (· < ·)/\ ∀y∈l5 l,∃s∈l,(s.nl=false/\y=s.lo)\/(s.nh=false/\y=s.hi):=by
 have key: ∀(l:List aA) (o:List Rat),o.Pairwise (· < ·)->(l.foldl nC o).Pairwise (· < ·)/\ ∀y∈l.foldl nC o,y∈o\/ ∃s∈l,(s.nl=false/\y=s.lo)\/(s.nh=false/\y=s.hi):=by
  intro l
  induction l with
  |nil=>intro o h;exact⟨h,fun y hy=> .inl hy⟩
  |cons s t ih=>
   intro o h;have h1:(nC o s).Pairwise (· < ·)/\ ∀y∈nC o s,y∈o\/(s.nl=false/\y=s.lo)\/(s.nh=false/\y=s.hi):=by
    unfold nC
    cases e1:s.nl<;>cases e2:s.nh<;>simp only[if_true,gM,if_false]
    ·refine⟨y9 (y9 h),fun y hy=>?_⟩
     rcases uC.1 hy with h|h
     ·exact .inr (.inr ⟨trivial,h⟩)
     ·rcases uC.1 h with h|h
      ·exact .inr (.inl ⟨trivial,h⟩)
      ·exact .inl h
    ·refine⟨y9 h,fun y hy=>?_⟩
     rcases uC.1 hy with h|h
     ·exact .inr (.inl ⟨trivial,h⟩)
     ·exact .inl h
    ·refine⟨y9 h,fun y hy=>?_⟩
     rcases uC.1 hy with h|h
     ·exact .inr (.inr ⟨trivial,h⟩)
     ·exact .inl h
    ·exact⟨h,fun y hy=> .inl hy⟩
   obtain⟨k1,k2⟩:=ih (nC o s) h1.1;refine⟨k1,fun y hy=>?_⟩;rcases k2 y hy with h2|⟨q,hq,h2⟩
   ·rcases h1.2 y h2 with h3|h3
    ·exact .inl h3
    ·exact .inr ⟨s,aQ,h3⟩
   ·exact .inr ⟨q,aJ _ hq,h2⟩
 have:=key l [] List.Pairwise.nil;refine⟨this.1,fun y hy=>?_⟩;rcases this.2 y hy with h|h
 ·cases h
 ·exact h
structure EY (cuts:List Rat) (v:aA):Prop where
 z:tj v
 lo:v.nl=true\/v.lo∈cuts
 hi:v.nh=true\/v.hi∈cuts
def R8{cuts:List Rat}{i:Nat}(h:i<=cuts.length):EY cuts (kC cuts i):=by
 unfold kC;refine⟨⟨fun e=>?_,fun e=>?_⟩,?_,?_⟩
 ·simp only[decide_eq_true_eq] at e;simp[e]
 ·simp only[decide_eq_true_eq] at e;simp[e]
 ·by_cases h0:i=0
  ·left;simp[h0]
  ·right
   simp only[if_neg h0];rw[aX,aZ (by omega)];exact cK _
 ·by_cases h0:i=cuts.length
  ·left;simp[h0]
  ·right
   simp only[if_pos (show i<cuts.length by omega)];rw[aX,aZ (by omega)];exact cK _
def Iz{cuts:List Rat}{marks:List Bool}: ∀{k:Nat},k<=cuts.length+1-> ∀v∈qo cuts marks k,EY cuts v
 |0,_,v,hv=>by cases hv
 |k+1,hk,v,hv=>by
  have ih:=Iz (cuts:=cuts) (marks:=marks) (k:=k) (by omega);have hg:=R8 (cuts:=cuts) (i:=k) (by omega);rw[qo] at hv;split at hv
  ·split at hv
   ·split at hv
    ·rename_i w hw
     rcases bT.1 hv with h|h
     ·exact ih v ((rJ _).subset h)
     ·rw[aV] at h;subst h
      have hw':=ih w (oL hw);exact⟨⟨hw'.z.1,hg.z.2⟩,hw'.lo,hg.hi⟩
    ·rcases bT.1 hv with h|h
     ·exact ih v h
     ·rw[aV] at h;subst h;exact hg
   ·rcases bT.1 hv with h|h
    ·exact ih v h
    ·rw[aV] at h;subst h;exact hg
  ·exact ih v hv
def IF{l:List Rat}:(mi l).length=l.length+1:=by
 have key: ∀(l:List Rat) (a:Rat),(oI (a::l)).length=l.length:=by
  intro l
  induction l with
  |nil=>intro a;rfl
  |cons b t ih=>intro a;rw[oI,bU,ih b,bU]
 cases l with
 |nil=>rfl
 |cons a t=>rw[mi,bU,bQ,key];simp
def Wq{op:Int}{a b:List aA}: ∀v∈xu op a b,EY (l5 (a++b)) v:=fun v hv=>by
 unfold xu EE at hv;refine Iz ?_ v hv;rw[aK,IF];omega
structure pp (f:aH):Prop where
 lb:LB f.l
 ok:f.l.ok
 z:tj f.v
 lo:BQ f.v.lo 1200
 hi:BQ f.v.hi 1200
theorem BQ.zero1200:BQ (0:Rat) 1200:=BQ.mono (k:=1) ⟨by decide,by decide⟩ (by decide)
def WY{l m:ab}(hl:LB l)(hm:LB m)(hlo:l.ok){side:Int}: ∀v∈u' l m side,tj v/\BQ v.lo 1200/\BQ v.hi 1200:=fun v hv=>by
 unfold u' at hv;split at hv
 ·split at hv
  ·rw[aV] at hv;subst hv;exact⟨tj.all,BQ.zero1200,BQ.zero1200⟩
  ·cases hv
 ·rename_i hc
  have:=YE hlo.ne hc;split at hv
  ·rw[aV] at hv;subst hv;exact⟨⟨fun h=>(by cases h),fun _=>J⟩,this,BQ.zero1200⟩
  ·rw[aV] at hv;subst hv;exact⟨⟨fun _=>J,fun h=>(by cases h)⟩,BQ.zero1200,this⟩
def NP{f:aH}{m:ab}(h:pp f)(hm:LB m){side:Int}: ∀g∈m9 f m side,pp g/\g.l=f.l/\uM f.l m=false:=fun g hg=>by
 unfold m9 at hg;split at hg
 ·cases hg
 ·rename_i ho
  obtain⟨v,hv,rfl⟩:=bZ.1 hg;have hi:=Wq v hv;have bd: ∀y∈l5 ([f.v]++u' f.l m side),BQ y 1200:=fun y hy=>by
   obtain⟨s,hs,h1⟩:=(MY _).2 y hy;rcases bT.1 hs with hs|hs
   ·rw[aV] at hs;subst hs
    rcases h1 with⟨_,rfl⟩|⟨_,rfl⟩
    ·exact h.lo
    ·exact h.hi
   ·have:=WY h.lb hm h.ok s hs
    rcases h1 with⟨_,rfl⟩|⟨_,rfl⟩
    ·exact this.2.1
    ·exact this.2.2
  refine⟨⟨h.lb,h.ok,hi.z,?_,?_⟩,J,by simpa using ho⟩
  ·rcases hi.lo with e|e
   ·rw[hi.z.1 e];exact BQ.zero1200
   ·exact bd _ e
  ·rcases hi.hi with e|e
   ·rw[hi.z.2 e];exact BQ.zero1200
   ·exact bd _ e
def pc(acc:aa->Bool):Nat->List aH->List ab->Tr
 |_,[],c=> .leaf (acc (wL c c))
 |0,_::_,_=> .leaf false
 |n+1,f::t,c=> .node f.l (pc acc n ((f::t).flatMap fun g=>m9 g f.l 1) (c++[f.l])) (pc acc n ((f::t).flatMap fun g=>m9 g f.l (-1)) (c++[f.l.rev]))
def Y9{f g:aH}{m:ab}{side:Int}(h:g∈m9 f m side):g.l=f.l:=by
 unfold m9 at h;split at h
 ·cases h
 ·obtain⟨v,_,rfl⟩:=bZ.1 h;rfl
def CW{acc:aa->Bool}{P:ab->Prop}: ∀{n:Nat} {l:List aH} {c:List ab},(∀f∈l,P f.l)->(pc acc n l c).all P
 |n,[],c,_=>by unfold pc;trivial
 |0,_::_,_,_=>by unfold pc;trivial
 |n+1,f::t,c,h=>by
  rw[pc];refine⟨h f aQ,CW fun g hg=>?_,CW fun g hg=>?_⟩<;>
  ·obtain⟨q,hq,hg⟩:=cY.1 hg
   rw[Y9 hg];exact h q hq
def Dh(n:Nat)(l:List aH):Prop:= ∃K:List ab,K.length<=n/\ ∀f∈l,∃m∈K,m.same f.l
def Y1{m:ab}(hm:m.Ne):m.value m.base=0:=by
 have h:=qI hm 0;rw[<-r5,gA] at h;grind
def ZE{l m:ab}(h:l.same m)(hm:m.Ne):uM m l=true:=by
 unfold uM;rw[decide_eq_true_iff];refine⟨?_,?_⟩
 ·rcases h with rfl|rfl
  ·unfold crossI;omega
  ·unfold crossI ab.rev
   show(-l.a)*l.b-l.a*(-l.b)=0;grind
 ·rw[fD]
  exact Yn h.symm (Y1 hm)
def Dh.split{n:Nat}{f:aH}{t:List aH}(h:Dh (n+1) (f::t))(hok: ∀g∈f::t,pp g){side:Int}:Dh n ((f::t).flatMap fun g=>m9 g f.l side):=by
 obtain⟨K,hK,hs⟩:=h;refine⟨K.filter fun m=>!decide (m.same f.l),?_,fun g hg=>?_⟩
 ·obtain⟨m,hm,hm2⟩:=hs f aQ
  have:(K.filter fun m=>!decide (m.same f.l)).length<K.length:=by
   refine oU.2 ⟨m,hm,by simp[hm2]⟩
  omega
 ·obtain⟨q,hq,hg⟩:=cY.1 hg
  obtain⟨_,e,ho⟩:=NP (hok q hq) (hok f aQ).lb g hg;obtain⟨m,hm,hm2⟩:=hs q hq;refine⟨m,iJ.2 ⟨hm,?_⟩,by rw[e];exact hm2⟩;simp only[iV,decide_eq_false_iff_not];intro h;have:=ZE (h.symm.trans hm2) (hok q hq).ok.ne;rw[this] at ho;cases ho
def Zo{p q r:Bool}{a b c:Nat}(h:Nat.gcd a b≠0):ab.ok ⟨zv p (a/Nat.gcd (Nat.gcd a b) c),zv q (b/Nat.gcd (Nat.gcd a b) c),zv r (c/Nat.gcd (Nat.gcd a b) c)⟩:=by
 have hg:0<Nat.gcd (Nat.gcd a b) c:=kJ _ (fL h);have d0:Nat.gcd (Nat.gcd a b) c∣Nat.gcd a b:=iN _ _;have d1:Nat.gcd (Nat.gcd a b) c∣a:=pL d0 (iN _ _);have d2:Nat.gcd (Nat.gcd a b) c∣b:=pL d0 (jR _ _);have d3:Nat.gcd (Nat.gcd a b) c∣c:=jR _ _;refine⟨?_,?_⟩
 ·rintro ⟨h1,h2⟩
  have h1':=congrArg Int.natAbs h1;have h2':=congrArg Int.natAbs h2;simp only[my,Int.natAbs_zero] at h1' h2';have e1:=Nat.div_mul_cancel d1;have e2:=Nat.div_mul_cancel d2;rw[h1',lK] at e1;rw[h2',lK] at e2;exact h (by rw[<-e1,<-e2];rfl)
 ·simp only[my]
  rw[Nat.gcd_div d1 d2,Nat.gcd_div d0 d3,Nat.div_self hg]
def Gu(p:Bool)(a g:Nat):(zv p (a/g)).natAbs<=a:=by rw[my];exact iR ..
def PF.eq{P:Program}{f:FuncId}{vs:List DV}{r r':DV}(h:PF GB P f vs r)(e:r=r'):PF GB P f vs r':=e▸h
def iP(m n:Int):aa:=⟨(m:Rat),(n:Rat)⟩
theorem xd{m:Int}{k:Nat}(h:m.natAbs<2^k):BI m k:=⟨h⟩
theorem iu{m:Int}{k:Nat}(h:m.natAbs<=1000)(hk:10<=k):BI m k:=⟨dV (show m.natAbs<2^10 by omega) (bK (by decide) hk)⟩
instance aq.int (m n:Int) (i:Nat) [h:BI m i] [k:BI n i]:aq (iP m n) (i+1):=⟨inferInstanceAs (BQ (m:Rat) (i+1)),inferInstanceAs (BQ (n:Rat) (i+1))⟩
def s5{q:Rat}{k:Int}(h:q=(k:Rat)):eQ q=eQ (k:Rat):=by rw[h]
def UK{p:aa}{m n:Int}(h1:p.x=(m:Rat))(h2:p.y=(n:Rat)):eP p=eP (iP m n):=by
 obtain⟨x,y⟩:=p;simp only at h1 h2;subst h1 h2;rfl
def fA(a b c:Int):ab:=
 ⟨zv (decide (a<0)) (a.natAbs/Nat.gcd (Nat.gcd a.natAbs b.natAbs) c.natAbs),zv (decide (b<0)) (b.natAbs/Nat.gcd (Nat.gcd a.natAbs b.natAbs) c.natAbs),zv (decide (c<0)) (c.natAbs/Nat.gcd (Nat.gcd a.natAbs b.natAbs) c.natAbs)⟩
def V0{a b c:Int}(h: ¬(a=0/\b=0)):(fA a b c).ok:=
 Zo fun e=>h ⟨jN.1 (kM e),jN.1 (kR e)⟩
def ME(a b c:Int):(fA a b c).a.natAbs<=a.natAbs/\(fA a b c).b.natAbs<=b.natAbs/\(fA a b c).c.natAbs<=c.natAbs:=⟨Gu ..,Gu ..,Gu ..⟩
def kg{m n:Int}(hm:m.natAbs<=1000)(hn:n.natAbs<=1000):PF GB prog 33 [.v (.int .i64 m), .v (.int .i64 n)] (eP (iP m n)):=by
 refine fn func33 J J ntmps33 J J (fun C=>?_);refine cl J (nH (n:=m) (by omega) (by omega)) J<|cl J (nH (n:=n) (by omega) (by omega)) J<|?_;exact rz J J
def Gf{m n m' n' k:Int}(hm:m.natAbs<=1000)(hn:n.natAbs<=1000)(hm':m'.natAbs<=1000)(hn':n'.natAbs<=1000)(hk:k.natAbs<=1000):PF GB prog 37 [eP (iP m n),eQ (k:Rat),eP (iP m' n')] (eP (iP (m+k*m') (n+k*n'))):=by
 haveI:=iu (k:=10) hm (by decide);haveI:=iu (k:=10) hn (by decide);haveI:=iu (k:=10) hm' (by decide);haveI:=iu (k:=10) hn' (by decide);haveI:=iu (k:=10) hk (by decide);exact PF.eq (u6 (p:=iP m n) (q:=iP m' n') (c:=(k:Rat))) (UK (by show(m:Rat)+(k:Rat)*(m':Rat)=_;push_cast;rfl) (by show(n:Rat)+(k:Rat)*(n':Rat)=_;push_cast;rfl))
def Yc{m n m' n':Int}(hm:m.natAbs<=1000)(hn:n.natAbs<=1000)(hm':m'.natAbs<=1000)(hn':n'.natAbs<=1000):PF GB prog 58 [eP (iP m n),eP (iP m' n')] (eP (iP (m-m') (n-n'))):=by
 refine fn func58 J J ntmps58 J J (fun C=>?_);refine cl J (nH (n:= -1) (by decide) (by decide)) J<|cl J (Gf (m:=m) (n:=n) (m':=m') (n':=n') (k:= -1) hm hn hm' hn' (by decide)) J<|?_;exact rz J (by rw[show m-m'=m+ -1*m' by omega,show n-n'=n+ -1*n' by omega];rfl)
def F0{m n m' n':Int}(hm:m.natAbs<=1000)(hn:n.natAbs<=1000)(hm':m'.natAbs<=1000)(hn':n'.natAbs<=1000):PF GB prog 74 [eP (iP m n),eP (iP m' n')] (.v (.bool (decide (m=m'/\n=n')))):=by
 haveI:=iu (k:=10) hm (by decide);haveI:=iu (k:=10) hn (by decide);haveI:=iu (k:=10) hm' (by decide);haveI:=iu (k:=10) hn' (by decide);refine fn func74 J J ntmps74 J J (fun C=>?_);refine cl J (ud (a:=(m:Rat)) (b:=(m':Rat))) J<|?_;refine cs 11 J J J (fun hg11=>?_) (fun hg11=>?_)
 .
  refine cl J (ud (a:=(n:Rat)) (b:=(n':Rat))) J<|?_;exact rz J (by rw[Ad] at hg11;have e:m=m':=(by exact_mod_cast hg11);exact congrArg (fun z=>DV.v (.bool z)) (decide_eq_decide.2 (by rw[Ad,qQ];simp[e])))
 .
  exact rz J (by rw[Ad] at hg11;have e: ¬m=m':=(fun e=>hg11 (by rw[e]));show DV.v (.bool false)=DV.v (.bool _);rw[decide_eq_false (fun h=>e h.1)])
def JV{a b k:Nat}(ha:a<k)(hb:b<k):Nat.gcd a b<k:=by
 rcases dS a with rfl|p
 ·simpa using hb
 ·exact dL (rR b p) ha
def Xs{a b c:Int}{i:Nat}(ha:BI a i)(hb:BI b i)(hc:BI c i)(hi:i<=100000000)(h0: ¬(a=0/\b=0)):PF GB prog 126 [eI a,eI b,eI c] (.tp [eL (fA a b c), .v (.bool true)]):=by
 have hgn:Nat.gcd a.natAbs b.natAbs≠0:=fun h=>h0 ⟨jN.1 (kM h),jN.1 (kR h)⟩;have hgp:0<Nat.gcd (Nat.gcd a.natAbs b.natAbs) c.natAbs:=kJ _ (fL hgn);haveI hb1:BN (Nat.gcd a.natAbs b.natAbs) i:=⟨JV ha.h hb.h⟩;haveI hb2:BN (Nat.gcd (Nat.gcd a.natAbs b.natAbs) c.natAbs) i:=⟨JV hb1.h hc.h⟩;refine fn func126 J J ntmps126 J J (fun C=>?_);refine cl J (C9 (a:=a.natAbs) (b:=b.natAbs) (by omega) (by omega)) J<|?_;refine br J J J (fun hc22=>?_) (fun hc22=>?_)
 .
  exact absurd hc22 (by rw[aK];intro h;exact hgn (tO.1 (by omega)))
 .
  refine cl J (C9 (a:=Nat.gcd a.natAbs b.natAbs) (b:=c.natAbs) (by omega) (by omega)) J<|cl J (r8 (a:=a.natAbs) (b:=Nat.gcd (Nat.gcd a.natAbs b.natAbs) c.natAbs) hgp (by omega) (by omega)) J<|?_;refine cl J (r8 (a:=b.natAbs) (b:=Nat.gcd (Nat.gcd a.natAbs b.natAbs) c.natAbs) hgp (by omega) (by omega)) J<|cl J (r8 (a:=c.natAbs) (b:=Nat.gcd (Nat.gcd a.natAbs b.natAbs) c.natAbs) hgp (by omega) (by omega)) J<|?_;refine cl J (gP (m:=a.natAbs/(Nat.gcd (Nat.gcd a.natAbs b.natAbs) c.natAbs)) (neg:=decide (a<0))) J<|cl J (gP (m:=b.natAbs/(Nat.gcd (Nat.gcd a.natAbs b.natAbs) c.natAbs)) (neg:=decide (b<0))) J<|?_;refine cl J (gP (m:=c.natAbs/(Nat.gcd (Nat.gcd a.natAbs b.natAbs) c.natAbs)) (neg:=decide (c<0))) J<|?_;exact rz J J
def jc(n n':Int):Int:= -(n'-n)
def i5(m m':Int):Int:=m'-m
def oq(m n m' n':Int):Int:= -(jc n n'*m+i5 m m'*n)
def gE(m n m' n':Int):ab:=fA (jc n n') (i5 m m') (oq m n m' n')
def AO{a b:Int}(ha:a.natAbs<=2000)(hb:b.natAbs<=1000):(a*b).natAbs<=2000000:=by
 rw[iK];exact nT ha hb
def Wz{m n m' n':Int}(hm:m.natAbs<=1000)(hn:n.natAbs<=1000)(hm':m'.natAbs<=1000)(hn':n'.natAbs<=1000)(h0: ¬(m=m'/\n=n')):PF GB prog 76 [eP (iP m n),eP (iP m' n')] (.tp [eL (gE m n m' n'), .v (.bool true)]):=by
 obtain⟨a,hA⟩: ∃a,a=jc n n':=⟨_,rfl⟩;obtain⟨b,hB⟩: ∃b,b=i5 m m':=⟨_,rfl⟩;have hA':a= -(n'-n):=hA;have hB':b=m'-m:=hB;obtain⟨c,hC⟩: ∃c,c= -(a*m+b*n):=⟨_,rfl⟩;have e1:=AO (a:=a) (b:=m) (by omega) hm;have e2:=AO (a:=b) (b:=n) (by omega) hn;haveI hm0:=iu (k:=10) hm (by decide);haveI hn0:=iu (k:=10) hn (by decide);haveI ha:BI a 30:=xd (by omega);haveI hb:BI b 30:=xd (by omega);haveI hc:BI c 30:=xd (by omega);have hthr:gE m n m' n'=fA a b c:=by rw[hC,hA,hB];rfl
 have hne: ¬(a=0/\b=0):=fun h=>h0 (by omega);refine fn func76 J J ntmps76 J J (fun C=>?_);refine cl J (Yc (m:=m') (n:=n') (m':=m) (n':=n) hm' hn' hm hn) J<|cl J (PF.eq (qb (q:=(((n'-n):Int):Rat))) (s5 (k:=a) (by rw[hA'];push_cast;rfl))) J<|?_;refine cl J (PF.eq (ll (a:=(a:Rat)) (b:=(m:Rat))) (s5 (k:=a*m) (by push_cast;rfl))) J<|cl J (PF.eq (by haveI:BI (m'-m) 30:=(by rw[<-hB'];exact hb);exact ll (a:=(((m'-m):Int):Rat)) (b:=(n:Rat))) (s5 (k:=b*n) (by rw[hB'];push_cast;rfl))) J<|?_;refine cl J (PF.eq (uj (a:=((a*m:Int):Rat)) (b:=((b*n:Int):Rat))) (s5 (k:=a*m+b*n) (by push_cast;rfl))) J<|cl J (PF.eq (qb (q:=((a*m+b*n:Int):Rat))) (s5 (k:=c) (by rw[hC];push_cast;rfl))) J<|?_;refine cl J (iC (q:=(a:Rat))) J<|cl J (iC (q:=(((m'-m):Int):Rat))) J<|cl J (PF.eq (pw (a:=1) (b:=1)) J) J<|?_;refine cl J (iC (q:=(c:Rat))) J<|cl J (PF.eq (pw (a:=1) (b:=1)) J) J<|cl (fu:=⟨1⟩) J (gP (neg:=false) (m:=1)) J<|?_;refine aj 40 (.d (eQ ((1:Int):Rat))) J J ?_;refine gx J<|cl J (PF.eq (ll (a:=(a:Rat)) (b:=((1:Int):Rat))) (s5 (k:=a) (by push_cast;grind))) J<|cl J (PF.eq (by haveI:BI (m'-m) 30:=(by rw[<-hB'];exact hb);exact ll (a:=(((m'-m):Int):Rat)) (b:=((1:Int):Rat))) (s5 (k:=b) (by rw[hB'];push_cast;grind))) J<|?_;refine cl J (PF.eq (ll (a:=(c:Rat)) (b:=((1:Int):Rat))) (s5 (k:=c) (by push_cast;grind))) J<|cl J (Xs (a:=a) (b:=b) (c:=c) ha hb hc (by decide) hne) J<|?_;exact rz J (by rw[hthr];rfl)
def Vn{es:List Int}{a:Nat}(h:a<es.length):(es.map vI)[(a:Int).toNat]? =some (vI es[a]):=by simp[h]
def Tw:eP (iP 0 0)= .ag [.v (.bool false), .sl [], .sl [], .v (.bool false), .sl [], .sl []]:=by
 unfold eP iP;simp[Ft,dD]
def ao(es:List Int)(n:Int)(a:Nat):Nat×Nat:=
 if h:a<es.length then((if Int.tmod es[a] n<0 then Int.tmod es[a] n+n else Int.tmod es[a] n).toNat,a+1) else(0,a)
def iA{es:List Int}{n:Int}{a:Nat}(hn:1<=n):((ao es n a).1:Int)<n:=by
 unfold ao;split
 ·rename_i h
  have q2:=Int.tmod_lt_of_pos es[a] (show 0<n by omega);dsimp only;split<;>omega
 ·exact hn
def f9{es:List Int}{n:Int}{a:Nat}(ha:a<=es.length):(ao es n a).2<=es.length:=by
 unfold ao;split
 ·assumption
 ·exact ha
def pF(es:List Int)(a:Nat):(Int×Int)×Nat:=((((ao es 9 a).1:Int)-4,((ao es 9 (ao es 9 a).2).1:Int)-4),(ao es 9 (ao es 9 a).2).2)
def uH{es:List Int}{a:Nat}(ha:a<=es.length):(pF es a).1.1.natAbs<=4/\(pF es a).1.2.natAbs<=4/\(pF es a).2<=es.length:=by
 have h1:=iA (es:=es) (n:=9) (a:=a) (by decide);have h2:=iA (es:=es) (n:=9) (a:=(ao es 9 a).2) (by decide);have h3:=f9 (n:=9) (f9 (es:=es) (n:=9) ha);unfold pF;exact⟨by dsimp only;omega,by dsimp only;omega,h3⟩
def vF(es:List Int)(a:Nat):(Int×Int)×Nat:=if(pF es a).1.1=0/\(pF es a).1.2=0 then((1,0),(pF es a).2) else pF es a
def vX{es:List Int}{a:Nat}(ha:a<=es.length):(vF es a).1.1.natAbs<=4/\(vF es a).1.2.natAbs<=4/\ ¬((vF es a).1.1=0/\(vF es a).1.2=0)/\(vF es a).2<=es.length:=by
 obtain⟨h1,h2,h3⟩:=uH ha;unfold vF;split
 ·exact⟨show(1:Int).natAbs<=4 by decide,show(0:Int).natAbs<=4 by decide,show¬((1:Int)=0/\(0:Int)=0) by decide,h3⟩
 ·rename_i h;exact⟨h1,h2,h,h3⟩
def lF(es:List Int)(a:Nat):ab×Nat:=(gE (pF es a).1.1 (pF es a).1.2 ((pF es a).1.1+1*(vF es (pF es a).2).1.1) ((pF es a).1.2+1*(vF es (pF es a).2).1.2),(vF es (pF es a).2).2)
def lA(es:List Int):Nat->Nat->Tr×Nat
 |0,a=>(.leaf (decide (((ao es 2 a).1:Int)=1)),(ao es 2 a).2)
 |d+1,a=>if((ao es 4 a).1:Int)=0 then(.leaf (decide (((ao es 2 (ao es 4 a).2).1:Int)=1)),(ao es 2 (ao es 4 a).2).2) else
  (.node (lF es (ao es 4 a).2).1 (lA es d (lF es (ao es 4 a).2).2).1 (lA es d (lA es d (lF es (ao es 4 a).2).2).2).1,(lA es d (lA es d (lF es (ao es 4 a).2).2).2).2)
def lz{b:Nat}{es:List Int}(hes:es.length<=400){a:Nat}(ha:a<=es.length){n:Int}(hn:1<=n)(hn2:n<=1000):PM GB prog 13 (jh [none,some (.v (.int .i64 n))] b) b 89 [.sl (es.map vI), .v (.int .i64 (a:Nat))] (.v (.int .i64 ((ao es n a).1:Nat))) [.sl (es.map vI), .v (.int .i64 ((ao es n a).2:Nat))]:=by
 have hel:(es.map vI).length=es.length:=by simp
 refine u5 func13 J J ntmps13 J J (fun C b m lo hmb=>?_);refine br J J J (fun hc15=>?_) (fun hc15=>?_)
 .
  have hf:ao es n a=(0,a):=by unfold ao;rw[dif_neg (by omega)]
  exact jO hmb J J (by rw[hf]<;>rfl) (by rw[hf]<;>rfl)
 .
  have hal:a<es.length:=by omega
  obtain⟨e,he⟩: ∃e,e=es[a]:=⟨_,rfl⟩;have q2:=Int.tmod_lt_of_pos e (show 0<n by omega);have q3: -n<Int.tmod e n:=by have:=Int.lt_tmod_of_pos e (show 0<n by omega);omega
  refine ix (fu:=⟨1⟩) _ J (Vn hal) J<|?_;refine aj 25 (.d (vI e)) J (by rw[he]<;>rfl) ?_;refine gx (hv:=by simp only[ah];exact⟨⟨by omega,by kernel_rfl⟩,by omega⟩) J<|?_;refine br J J J (fun hc36=>?_) (fun hc36=>?_)
  .
   have hf:ao es n a=((Int.tmod e n+n).toNat,a+1):=by unfold ao;rw[dif_pos hal,<-he,if_pos hc36]
   exact jO hmb J J (by rw[hf];show DV.v (.int .i64 _)=DV.v (.int .i64 _);rw[rN (by omega)]) (by rw[hf]<;>rfl)
  .
   have hf:ao es n a=((Int.tmod e n).toNat,a+1):=by unfold ao;rw[dif_pos hal,<-he,if_neg hc36]
   exact jO hmb J J (by rw[hf];show DV.v (.int .i64 _)=DV.v (.int .i64 _);rw[rN (by omega)]) (by rw[hf]<;>rfl)
def HE{b:Nat}{es:List Int}(hes:es.length<=400){a:Nat}(ha:a<=es.length):PM GB prog 72 (jh [none] b) b 89 [.sl (es.map vI), .v (.int .i64 (a:Nat))] (eP (iP (pF es a).1.1 (pF es a).1.2)) [.sl (es.map vI), .v (.int .i64 ((pF es a).2:Nat))]:=by
 have h1:=iA (es:=es) (n:=9) (a:=a) (by decide);have h2:=iA (es:=es) (n:=9) (a:=(ao es 9 a).2) (by decide);refine u5 func72 J J ntmps72 J J (fun C b m lo hmb=>?_);refine cm J (fun b=>(lz (n:=9) hes ha (by decide) (by decide))) J<|cm J (fun b=>(lz (n:=9) hes (f9 ha) (by decide) (by decide))) J<|?_;refine cl J (kg (m:=((ao es 9 a).1:Int)-4) (n:=((ao es 9 (ao es 9 a).2).1:Int)-4) (by omega) (by omega)) J<|?_;exact jO hmb J J J J
def Jl{b:Nat}{es:List Int}(hes:es.length<=400){a:Nat}(ha:a<=es.length):PM GB prog 73 (jh [none] b) b 89 [.sl (es.map vI), .v (.int .i64 (a:Nat))] (eP (iP (vF es a).1.1 (vF es a).1.2)) [.sl (es.map vI), .v (.int .i64 ((vF es a).2:Nat))]:=by
 obtain⟨hm,hn,ha1⟩:=uH ha;refine u5 func73 J J ntmps73 J J (fun C b m lo hmb=>?_);refine cm (fu:=⟨9⟩) J (fun b=>(HE hes ha)) J<|?_;refine aj 7 (.d (eP (iP 0 0))) J (by rw[Tw]<;>rfl) ?_;refine gx J<|cl J (F0 (m:=(pF es a).1.1) (n:=(pF es a).1.2) (m':=0) (n':=0) (by omega) (by omega) (by decide) (by decide)) J<|?_;refine bd J J J (fun hc8=>?_) (fun hc8=>?_)
 .
  have hf:vF es a=((1,0),(pF es a).2):=by unfold vF;rw[if_pos hc8]
  refine cl J (kg (m:=1) (n:=0) (by decide) (by decide)) J<|?_;exact jO hmb J J (by rw[hf]<;>rfl) (by rw[hf])
 .
  have hf:vF es a=pF es a:=by unfold vF;rw[if_neg hc8]
  exact jO hmb J J (by rw[hf]<;>rfl) (by rw[hf])
abbrev ZP:=Int×Int
def ZP.q(p:ZP):aa:=iP p.1 p.2
def ZP.le(k:Nat)(p:ZP):Prop:=p.1.natAbs<=k/\p.2.natAbs<=k
def uJ(p q:ZP):ZP:=(p.1+1*q.1,p.2+1*q.2)
def po(u v:ZP):Int:=u.1*v.2-u.2*v.1
theorem H9{m n p q:Int}(hm:m.natAbs<=1000)(hn:n.natAbs<=1000)(hp:p.natAbs<=1000)(hq:q.natAbs<=1000)(h: ¬(p=m/\q=n)):LB (gE m n p q)/\(gE m n p q).ok:=by
 have e1:(jc n q).natAbs<=2000:=by unfold jc;omega
 have e2:(i5 m p).natAbs<=2000:=by unfold i5;omega
 have e3:=AO e1 hm;have e4:=AO e2 hn;have e5:(oq m n p q).natAbs<=4000000:=by unfold oq;omega
 unfold gE;obtain⟨k1,k2,k3⟩:=ME (jc n q) (i5 m p) (oq m n p q);have hb:(2:Nat)^96=79228162514264337593543950336:=by decide
 refine⟨⟨⟨?_,?_,?_⟩⟩,V0 ?_⟩
 ·rw[hb];omega
 ·rw[hb];omega
 ·rw[hb];omega
 ·unfold jc i5;omega
def aP(v w:ZP):aH:=⟨gE v.1 v.2 w.1 w.2,⟨ci (gE v.1 v.2 w.1 w.2) v.q,ci (gE v.1 v.2 w.1 w.2) w.q,false,false⟩⟩
def c6(r:List ZP)(i:Nat):ZP:=r.getD ((i+1)%r.length) (0,0)
def iF(r:List ZP):Nat->List aH
 |0=>[]
 |k+1=>iF r k++[aP (r.getD k (0,0)) (c6 r k)]
def cP(r:List ZP):List aH:=iF r r.length
structure b9 (r:List ZP):Prop where
 n3:3<=r.length
 n6:r.length<=6
 le: ∀p∈r,ZP.le 100 p
 ne: ∀i<r.length,r.getD i (0,0)≠c6 r i
def u9{r:List ZP}{i:Nat}(h:i<r.length):r.getD i (0,0)∈r:=by
 rw[aX,aZ h];exact cK h
def wx{r:List ZP}{i:Nat}(h:i<r.length):c6 r i∈r:=u9 (cL _ (by omega))
theorem BQ.int1200{m:Int}(h:m.natAbs<=1000):BQ (m:Rat) 1200:=by
 haveI:BI m 11:=iu h (by decide);exact BQ.mono (inferInstance:BQ (m:Rat) 12) (by decide)
theorem Lc{l:ab}(hl:LB l)(ho:l.ok){m n:Int}(hm:m.natAbs<=1000)(hn:n.natAbs<=1000):BQ (ci l (iP m n)) 1200:=by
 haveI:=iu (k:=11) hm (by decide);haveI:=iu (k:=11) hn (by decide);have hd:=vD ho.ne;have hA:BI (l.a*l.a+l.b*l.b) _:=inferInstance;have hB:BI (m*l.b-n*l.a) _:=inferInstance;have hA':=Av (j:=1200) hA (by decide);have hB':=Av (j:=1200) hB (by decide);have e1:l.dir.dot l.dir=((l.a*l.a+l.b*l.b:Int):Rat):=by
  rw[oK,cR,cR];simp only[ab.dir,aa.dot];grind
 have e2:(iP m n).dot l.dir=((m*l.b-n*l.a:Int):Rat):=by
  rw[lR,cR,cR];simp only[ab.dir,aa.dot,iP];grind
 have hd':((0:Int):Rat)<((l.a*l.a+l.b*l.b:Int):Rat):=by rw[<-e1];exact hd
 unfold ci;rw[e2,e1];clear hA hB e1 e2;generalize l.a*l.a+l.b*l.b=D at*;generalize m*l.b-n*l.a=M at*;have hD:0<D:=qM.1 hd';refine BQ.of_fracI (n:=M) (D:=D) (by omega) ?_ hB' hA';have h0:(D:Rat)≠0:=fun e=>by rw[e] at hd';exact absurd hd' (by decide)
 have:((D.natAbs:Nat):Rat)=(D:Rat):=by
  have h1:((D.natAbs:Nat):Int)=D:=by omega
  rw[<-h1];rfl
 rw[this];grind
def IQ{v w:ZP}(hv:ZP.le 100 v)(hw:ZP.le 100 w)(h:v≠w):pp (aP v w):=by
 obtain⟨h1,h2⟩:=H9 (m:=v.1) (n:=v.2) (p:=w.1) (q:=w.2) (by have:=hv.1;omega) (by have:=hv.2;omega) (by have:=hw.1;omega) (by have:=hw.2;omega) (fun e=>h (Prod.ext e.1.symm e.2.symm));exact⟨h1,h2,⟨fun e=>(by cases e),fun e=>(by cases e)⟩,Lc h1 h2 (by have:=hv.1;omega) (by have:=hv.2;omega),Lc h1 h2 (by have:=hw.1;omega) (by have:=hw.2;omega)⟩
def HD{r:List ZP}(h:b9 r): ∀{k:Nat},k<=r.length->(iF r k).length=k/\ ∀f∈iF r k,pp f
 |0,_=>⟨J,fun f hf=>by cases hf⟩
 |k+1,hk=>by
  obtain⟨h1,h2⟩:=HD h (k:=k) (by omega);rw[iF];refine⟨by simp[h1],fun f hf=>?_⟩;rcases bT.1 hf with hf|hf
  ·exact h2 f hf
  ·rw[aV] at hf;subst hf
   exact IQ (h.le _ (u9 (by omega))) (h.le _ (wx (by omega))) (h.ne k (by omega))
def qz{r:List ZP}(h:b9 r):(cP r).length=r.length/\ ∀f∈cP r,pp f:=HD h (aN _)
def bO(rs:List (List ZP)):List aH:=rs.flatMap cP
def mF: ∀{rs:List (List ZP)},(∀r∈rs,b9 r)->(bO rs).length<=6*rs.length/\ ∀f∈bO rs,pp f
 |[],_=>⟨aN _,fun f hf=>by cases hf⟩
 |r::rs,h=>by
  obtain⟨h1,h2⟩:=mF (rs:=rs) fun q hq=>h q (aJ _ hq);obtain⟨k1,k2⟩:=qz (h r aQ);have:=(h r aQ).n6;unfold bO at*;rw[mN];refine⟨by rw[bQ,k1,bU];omega,fun f hf=>?_⟩;rcases bT.1 hf with hf|hf
  ·exact k2 f hf
  ·exact h2 f hf
def tK(a b c:aa):Int:=(aa.cross (aD b a (-1)) (aD c a (-1))).num.sign
def oz(v w p:aa):Int:=
 (if bE v.y p.y<=0/\ ¬bE w.y p.y<=0/\0<tK v w p then 1 else 0)-(if¬bE v.y p.y<=0/\bE w.y p.y<=0/\tK v w p<0 then 1 else 0)
def l6(r:List ZP)(p:aa):Nat->Int
 |0=>0
 |k+1=>l6 r p k+oz (r.getD k (0,0)).q (c6 r k).q p
def il(r:List ZP)(p:aa):Int:=l6 r p r.length
def jr(fill n:Int):Bool:=(decide (fill=1)&&decide (n.tmod 2≠0))||(decide (fill=2)&&decide (n≠0))
def dP(rs:List (List ZP))(fill:Int)(p:aa):Bool:=jr fill (rs.foldl (fun n r=>n+il r p) 0)
def rE(rs:List (List ZP))(fill:Int):Tr:=pc (dP rs fill) (bO rs).length (bO rs) []
def gg(rs:List (List ZP))(fill:Int):Tr:=(rE rs fill).restrict []
structure WI (k:Nat) (t:Tr):Prop where
 gd:t.gd
 dp:t.depth<=k
 am: ∃K:List ab,K.length<=k/\(∀l∈K,l.ok)/\Zc K t
def jF(p q:ZP):Int:=if p.1<q.1 then-1 else if q.1<p.1 then 1 else if p.2<q.2 then-1 else if q.2<p.2 then 1 else 0
def jq(x:ZP):List ZP->List ZP
 |[]=>[x]
 |u::t=>if jF u x<0 then u::jq x t else if jF u x=0 then u::t else x::u::t
def og(l:List ZP):List ZP:=l.foldl (fun out x=>jq x out) []
def Lh{x:ZP}: ∀{l:List ZP},(jq x l).length<=l.length+1
 |[]=>aN _
 |u::t=>by
  rw[jq];have:=Lh (x:=x) (l:=t);split
  ·simp;omega
  ·split<;>simp
def aqW(l:List ZP):(og l).length<=l.length:=by
 have key: ∀(l o:List ZP),(l.foldl (fun out x=>jq x out) o).length<=l.length+o.length:=by
  intro l
  induction l with
  |nil=>intro o;simp
  |cons x t ih=>intro o;have:=ih (jq x o);have:=Lh (x:=x) (l:=o);simp only[fY,bU];omega
 have:=key l [];simpa[og] using this
def qe(a b c d:Int):List ZP:=[(a,b),(c,b),(c,d),(a,d)]
def FM{r:List ZP}{i:Nat}(h:i+1<r.length):c6 r i=r.getD (i+1) (0,0):=by unfold c6;rw[dT h]
def E9{r:List ZP}{i:Nat}(h:i+1=r.length):c6 r i=r.getD 0 (0,0):=by unfold c6;rw[h,Nat.mod_self]
def KH{a b c d:Int}(h1:a.natAbs<=50)(h2:b.natAbs<=50)(h3:c.natAbs<=50)(h4:d.natAbs<=50)(h5:a<c)(h6:b<d):b9 (qe a b c d):=by
 refine⟨by simp[qe],by simp[qe],fun p hp=>?_,fun i hi=>?_⟩
 ·simp only[qe,aU,lJ,or_false] at hp
  rcases hp with rfl|rfl|rfl|rfl<;>exact⟨by dsimp only;omega,by dsimp only;omega⟩
 ·have:i=0\/i=1\/i=2\/i=3:=by simp[qe] at hi;omega
  rcases this with rfl|rfl|rfl|rfl<;>simp[qe,c6]<;>omega
def pG(p u v:ZP):List ZP:=[p,uJ p u,uJ p v]
def Xa{p u v:ZP}(h1:ZP.le 40 p)(h2:ZP.le 40 u)(h3:ZP.le 40 v)(h:po u v≠0):b9 (pG p u v):=by
 obtain⟨p1,p2⟩:=p;obtain⟨u1,u2⟩:=u;obtain⟨v1,v2⟩:=v;unfold ZP.le at h1 h2 h3;dsimp only at h1 h2 h3;unfold po at h;dsimp only at h;refine⟨by simp[pG],by simp[pG],fun p hp=>?_,fun i hi=>?_⟩
 ·simp only[pG,uJ,aU,lJ,or_false] at hp
  rcases hp with rfl|rfl|rfl<;>exact⟨by dsimp only;omega,by dsimp only;omega⟩
 ·have:i=0\/i=1\/i=2:=by simp[pG] at hi;omega
  have hu: ¬(u1=0/\u2=0):=fun e=>h (by rw[e.1,e.2];simp);have hv: ¬(v1=0/\v2=0):=fun e=>h (by rw[e.1,e.2];simp);have huv: ¬(u1=v1/\u2=v2):=fun e=>h (by rw[e.1,e.2,Int.mul_comm];omega);rcases this with rfl|rfl|rfl<;>simp[pG,uJ,c6]<;>omega
def mh(es:List Int):Nat->Nat->List ZP->List ZP×Nat
 |0,a,out=>(out,a)
 |n+1,a,out=>mh es n (pF es a).2 (if out.getLast? =some (pF es a).1 then out else out++[(pF es a).1])
structure kd (r:List ZP):Prop where
 ne: ∀i,i+1<r.length->r.getD i (0,0)≠r.getD (i+1) (0,0)
 le: ∀p∈r,ZP.le 100 p
def kd.snoc{r:List ZP}{p:ZP}(h:kd r)(hp:ZP.le 100 p)(hl:r.getLast? ≠some p):kd (r++[p]):=by
 refine⟨fun i hi=>?_,fun q hq=>?_⟩
 ·rw[bQ,List.length_singleton] at hi
  rw[aX,aX];by_cases h1:i+1<r.length
  ·rw[dQ (by omega),dQ h1]
   have:=h.ne i h1;rwa [aX,aX] at this
  ·have e:i+1=r.length:=by omega
   rw[dQ (by omega),e,fM (aN _),Nat.sub_self];rw[mV,<-e,lQ] at hl;rw[aZ (by omega)] at hl⊢;intro c;exact hl (by simpa using c)
 ·rcases bT.1 hq with hq|hq
  ·exact h.le q hq
  ·rw[aV] at hq;subst hq;exact hp
def Gr{es:List Int}: ∀{n a:Nat} {out:List ZP},a<=es.length->kd out->kd (mh es n a out).1/\(mh es n a out).1.length<=out.length+n/\(mh es n a out).2<=es.length
 |0,a,out,ha,h=>⟨h,aN _,ha⟩
 |n+1,a,out,ha,h=>by
  obtain⟨h1,h2,h3⟩:=uH ha;rw[mh];by_cases hl:out.getLast? =some (pF es a).1
  ·rw[if_pos hl]
   obtain⟨k1,k2,k3⟩:=Gr (n:=n) h3 h;exact⟨k1,by omega,k3⟩
  ·rw[if_neg hl]
   obtain⟨k1,k2,k3⟩:=Gr (n:=n) h3 (h.snoc (p:=(pF es a).1) ⟨by omega,by omega⟩ hl);rw[bQ,List.length_singleton] at k2;exact⟨k1,by omega,k3⟩
def jk:Nat->List ZP->List ZP
 |0,l=>l
 |n+1,l=>if 1<l.length/\l.getD 0 (0,0)=l.getD (l.length-1) (0,0) then jk n l.dropLast else l
def kd.drop{r:List ZP}(h:kd r):kd r.dropLast:=by
 refine⟨fun i hi=>?_,fun p hp=>h.le p ((rJ _).subset hp)⟩;rw[nQ] at hi;have:=h.ne i (by omega);rw[aX,aX] at this⊢;rw[List.getElem?_dropLast,List.getElem?_dropLast,if_pos (by omega),if_pos (by omega)];exact this
def H8: ∀{n:Nat} {l:List ZP},kd l->l.length<=n+1->kd (jk n l)/\(jk n l).length<=l.length/\(1<(jk n l).length->(jk n l).getD 0 (0,0)≠(jk n l).getD ((jk n l).length-1) (0,0))
 |0,l,h,hn=>⟨h,aN _,fun k=>absurd k (by unfold jk;omega)⟩
 |n+1,l,h,hn=>by
  rw[jk];split
  ·obtain⟨h1,h2,h3⟩:=H8 (n:=n) h.drop (by rw[nQ];omega)
   rw[nQ] at h2;exact⟨h1,by omega,h3⟩
  ·rename_i hc
   exact⟨h,aN _,fun k e=>hc ⟨k,e⟩⟩
def Yx{r:List ZP}(h:kd r)(h6:r.length<=6)(hc:1<r.length->r.getD 0 (0,0)≠r.getD (r.length-1) (0,0))(h3:3<=(og r).length):b9 r:=by
 have:=aqW r;refine⟨by omega,h6,h.le,fun i hi=>?_⟩;by_cases h1:i+1<r.length
 ·rw[FM h1];exact h.ne i h1
 ·have e:i+1=r.length:=by omega
  rw[E9 e];have:=hc (by omega);rw[show i=r.length-1 by omega];exact fun k=>this k.symm
def vj:List ZP:=[(0,0),(2,0),(0,2)]
def Ny:b9 vj:=⟨by decide,by decide,fun p hp=>by
  simp only[vj,aU,lJ,or_false] at hp;rcases hp with rfl|rfl|rfl<;>exact⟨by decide,by decide⟩,fun i hi=>by
  have:i=0\/i=1\/i=2:=by simp[vj] at hi;omega
  rcases this with rfl|rfl|rfl<;>decide⟩
def oc(es:List Int)(a:Nat):List ZP×Nat:=
 ((if(og (jk 6 (mh es (3+(ao es 4 a).1) (ao es 4 a).2 []).1)).length<3 then vj else jk 6 (mh es (3+(ao es 4 a).1) (ao es 4 a).2 []).1),(mh es (3+(ao es 4 a).1) (ao es 4 a).2 []).2)
def kd.nil:kd []:=⟨fun i hi=>by simp at hi,fun p hp=>by cases hp⟩
def Eb{es:List Int}{a:Nat}(ha:a<=es.length):b9 (oc es a).1/\(oc es a).2<=es.length:=by
 have h1:=iA (es:=es) (n:=4) (a:=a) (by decide);obtain⟨k1,k2,k3⟩:=Gr (n:=3+(ao es 4 a).1) (f9 (n:=4) ha) kd.nil;obtain⟨t1,t2,t3⟩:=H8 (n:=6) k1 (by simp at k2;omega);refine⟨?_,k3⟩;unfold oc;dsimp only;split
 ·exact Ny
 ·exact Yx t1 (by simp at k2;omega) t3 (by omega)
def Ac(es:List Int)(n m k:Int)(a:Nat):List ZP×Nat:=
 let x:=ao es n a
 let y:=ao es n x.2
 let z:=ao es m y.2
 let w:=ao es m z.2
 (qe ((x.1:Int)-k) ((y.1:Int)-k) ((x.1:Int)-k+1+z.1) ((y.1:Int)-k+1+w.1),w.2)
def Qq{es:List Int}{n m k:Int}{a:Nat}(ha:a<=es.length)(hn:1<=n)(hn2:n<=10)(hm:1<=m)(hm2:m<=10)(hk:0<=k)(hk2:k<=10):b9 (Ac es n m k a).1/\(Ac es n m k a).2<=es.length:=by
 have h1:=iA (es:=es) (a:=a) hn;have h2:=iA (es:=es) (a:=(ao es n a).2) hn;have h3:=iA (es:=es) (a:=(ao es n (ao es n a).2).2) hm;have h4:=iA (es:=es) (a:=(ao es m (ao es n (ao es n a).2).2).2) hm;exact⟨KH (by omega) (by omega) (by omega) (by omega) (by omega) (by omega),f9 (f9 (f9 (f9 ha)))⟩
def gn(es:List Int)(a:Nat):List ZP×Nat:=
 let k:=ao es 4 a
 if(k.1:Int)=0 then Ac es 5 4 4 k.2
 else if(k.1:Int)=1 then
  let p:=pF es k.2
  let u:=vF es p.2
  let v:=vF es u.2
  if po u.1 v.1≠0 then(pG p.1 u.1 v.1,v.2) else oc es v.2
 else oc es k.2
def HT{es:List Int}{a:Nat}(ha:a<=es.length):b9 (gn es a).1/\(gn es a).2<=es.length:=by
 have h0:=f9 (n:=4) ha;unfold gn;dsimp only;split
 ·exact Qq h0 (by decide) (by decide) (by decide) (by decide) (by decide) (by decide)
 ·split
  ·obtain⟨p1,p2,p3⟩:=uH h0
   obtain⟨u1,u2,u3,u4⟩:=vX p3;obtain⟨v1,v2,v3,v4⟩:=vX u4;split
   ·rename_i hc
    exact⟨Xa ⟨by omega,by omega⟩ ⟨by omega,by omega⟩ ⟨by omega,by omega⟩ hc,v4⟩
   ·exact Eb v4
  ·exact Eb h0
def Xc:List ZP:=[(0,0),(1,0),(0,1)]
def P6(es:List Int)(a:Nat):List ZP×Nat:=
 let k:=ao es 2 a
 if(k.1:Int)=0 then Ac es 3 2 1 k.2
 else
  let x:=ao es 3 k.2
  let y:=ao es 3 x.2
  let u1:=ao es 2 y.2
  let u2:=ao es 3 u1.2
  let v1:=ao es 3 u2.2
  let v2:=ao es 2 v1.2
  (if 0<po (1+(u1.1:Int),(u2.1:Int)-1) ((v1.1:Int)-1,1+(v2.1:Int)) then pG ((x.1:Int)-1,(y.1:Int)-1) (1+(u1.1:Int),(u2.1:Int)-1) ((v1.1:Int)-1,1+(v2.1:Int)) else Xc,v2.2)
def tE(es:List Int)(a:Nat):Tr×Nat:=
 let r:=gn es a
 let k:=ao es 3 r.2
 if(k.1:Int)=0 then
  let s:=gn es k.2
  let f:=ao es 2 s.2
  (gg [r.1,s.1] (1+(f.1:Int)),f.2)
 else
  let f:=ao es 2 k.2
  (gg [r.1] (1+(f.1:Int)),f.2)
def FO(l:ab):Tr:=(Tr.node l (.leaf true) (.leaf false)).restrict []
def qO(es:List Int):Nat->Nat->Tr×Nat
 |0,a=>
  let k:=ao es 6 a
  if(k.1:Int)=1 then(FO (lF es k.2).1,(lF es k.2).2)
  else if(k.1:Int)=2 then((lA es 3 k.2).1.restrict [],(lA es 3 k.2).2)
  else if(k.1:Int)=3 then((tE es k.2).1.compl,(tE es k.2).2)
  else tE es k.2
 |d+1,a=>
  let k:=ao es 6 a
  if(k.1:Int)=0 then
   let x:=qO es d k.2
   let o:=ao es 4 x.2
   let y:=qO es d o.2
   (x.1.mergeQ (1+(o.1:Int)) y.1 [],y.2)
  else if(k.1:Int)=1 then(FO (lF es k.2).1,(lF es k.2).2)
  else if(k.1:Int)=2 then((lA es 3 k.2).1.restrict [],(lA es 3 k.2).2)
  else if(k.1:Int)=3 then((tE es k.2).1.compl,(tE es k.2).2)
  else tE es k.2
def aHg(es:List Int)(a:Nat):Tr×Nat:=
 let k:=ao es 4 a
 if(k.1:Int)=0 then(FO (lF es k.2).1,(lF es k.2).2)
 else if(k.1:Int)=1 then((lA es 2 k.2).1.restrict [],(lA es 2 k.2).2)
 else(gg [(P6 es k.2).1] 2,(P6 es k.2).2)
def Ei(op:Int)(a b:Tr):Bool:=decide ((a.mergeQ op b []).isLeaf=true/\(a.mergeQ op b []).code=false)
def aDg(a b:Tr):Int:=if Ei 4 a b then 0 else if Ei 3 a b then-1 else if Ei 3 b a then 1 else 2
def sO:Tr->aa->Bool
 | .leaf b,_=>b
 | .node l x y,p=>if(l.value p).num.sign=1 then sO x p else if(l.value p).num.sign= -1 then sO y p else false
def GN(t:Tr):List bw:=((t.parts []).filter (·.1)).map (·.2)
def N8(l:ab)(p:aa):bw->Rat->Rat
 |[],f=>f
 |s::c,f=>N8 l p c (if Int.sign (s.l.nor.dot l.nor).num<0 then(if-(s.l.value p/s.l.nor.dot l.nor)<f then-(s.l.value p/s.l.nor.dot l.nor) else f) else f)
def aFk:bw->aa
 |[]=>⟨0,0⟩
 |s::c=>aD (s.l.at s.v.sample) s.l.nor (N8 s.l (s.l.at s.v.sample) c 1*mkRat 1 2)
def Js{v k:Rat}(hk:k<0)(hv:0<v):0< -(v/k):=by
 have e: -(v/k)* -k=v:=by grind
 exact(fk (k:= -k) (by grind)).1 (by rw[e];exact hv)
def fI:Tr->aa->aa->Bool×Bool
 | .leaf b,_,_=>(b,true)
 | .node l x y,p,v=>match (if(l.value p).num.sign=0 then(l.dir.cross v).num.sign else(l.value p).num.sign) with
  |1=>fI x p v
  | -1=>fI y p v
  |_=>(false,false)
def qy(l:ab)(v:aa):l.dir.cross v=l.nor.dot v:=by
 unfold ab.dir ab.nor aa.cross aa.dot;grind
def Gn(L:List ab)(p v:aa):Prop:= ∀l∈L,l.value p=0->l.nor.dot v≠0
def Vf{l:ab}{p v:aa}(h:l.value p=0->l.nor.dot v≠0): ∃e:Rat,0<e/\ ∀d,0<d->d<=e->(0<l.value (aD p v d)↔0<l.value p\/(l.value p=0/\0<l.nor.dot v))/\(l.value (aD p v d)<0↔l.value p<0\/(l.value p=0/\l.nor.dot v<0)):=by
 generalize hk:l.nor.dot v=k at*;by_cases h0:l.value p=0
 ·have hk0:=h h0
  refine⟨1,by decide,fun d h1 _=>?_⟩;rw[gA,hk,h0];rcases di k with e|e|e
  ·exact absurd e hk0
  ·have:=bt h1 e;grind
  ·have:=bt (a:=d) (b:= -k) h1 (by grind);grind
 ·have key: ∀w:Rat,0<w-> ∃e:Rat,0<e/\ ∀d,0<d->d<=e-> ∀j:Rat,(j=k\/j= -k)->0<w+d*j:=fun w hw=>by
   have hA: ∃A:Rat,0<A/\k<=A/\ -k<=A:=by
    rcases di k with e|e|e
    ·exact⟨1,by decide,by grind,by grind⟩
    ·exact⟨k,e,by grind,by grind⟩
    ·exact⟨-k,by grind,by grind,by grind⟩
   obtain⟨A,a1,a2,a3⟩:=hA;refine⟨w/(2*A),?_,fun d d1 d2 j hj=>?_⟩
   ·have e1:w/(2*A)*(2*A)=w:=by grind
    exact(fk (k:=2*A) (by grind)).1 (by rw[e1];exact hw)
   ·have e1:w/(2*A)*(2*A)=w:=by grind
    generalize w/(2*A)=f at*;have h1:=bG (a:=f-d) (b:=A) (by grind) (by grind);have h2:=bG (a:=d) (b:=A+j) (by grind) (by rcases hj with rfl|rfl<;>grind);grind
  rcases di (l.value p) with e|e|e
  ·exact absurd e h0
  ·obtain⟨f,f1,f2⟩:=key _ e
   refine⟨f,f1,fun d d1 d2=>?_⟩;have:=f2 d d1 d2 k (.inl J);rw[gA,hk];grind
  ·obtain⟨f,f1,f2⟩:=key (-l.value p) (by grind)
   refine⟨f,f1,fun d d1 d2=>?_⟩;have:=f2 d d1 d2 (-k) (.inr J);rw[gA,hk];grind
def Bs: ∀{t:Tr} {p v:aa},Gn t.lns p v-> ∃e:Rat,0<e/\ ∀d,0<d->d<=e->ji t.lns (aD p v d)/\fI t p v=(t.val (aD p v d),true)
 | .leaf b,p,v,_=>⟨1,by decide,fun d _ _=>⟨fun l hl=>(by cases hl),J⟩⟩
 | .node l x y,p,v,h=>by
  obtain⟨e1,a1,b1⟩:=Vf (h l aQ);obtain⟨e2,a2,b2⟩:=Bs (t:=x) (p:=p) (v:=v) (fun m hm=>h m (aJ _ (bR _ hm)));obtain⟨e3,a3,b3⟩:=Bs (t:=y) (p:=p) (v:=v) (fun m hm=>h m (aJ _ (cX _ hm)));have hgn:=h l aQ;have hm: ∃e:Rat,0<e/\e<=e1/\e<=e2/\e<=e3:=by
   by_cases h1:e1<=e2
   ·by_cases h2:e1<=e3
    ·exact⟨e1,a1,by grind,h1,h2⟩
    ·exact⟨e3,a3,by grind,by grind,by grind⟩
   ·by_cases h2:e2<=e3
    ·exact⟨e2,a2,by grind,by grind,h2⟩
    ·exact⟨e3,a3,by grind,by grind,by grind⟩
  obtain⟨e,h0,h1,h2,h3⟩:=hm;refine⟨e,h0,fun d d1 d2=>?_⟩;obtain⟨c1,c2⟩:=b1 d d1 (by grind);obtain⟨o2,w2⟩:=b2 d d1 (by grind);obtain⟨o3,w3⟩:=b3 d d1 (by grind);have hs:(if(l.value p).num.sign=0 then(l.dir.cross v).num.sign else(l.value p).num.sign)=if 0<l.value (aD p v d) then 1 else-1:=by
   rw[qy];by_cases hz:l.value p=0
   ·rw[if_pos ((fD _).2 hz)]
    split
    ·rename_i hp
     exact(ij _).2 (by rcases c1.1 hp with k|k;exact absurd k (by grind);exact k.2)
    ·rename_i hp
     have:l.nor.dot v<0:=by have:=hgn hz;have: ¬0<l.nor.dot v:=fun e=>hp (c1.2 (.inr ⟨hz,e⟩));grind
     exact Int.sign_eq_neg_one_iff_neg.2 (by have:=(lw _).2 this;rcases lU (l.nor.dot v).num 0 with q|q|q;exact q;rw[q] at this;simp at this;rw[fK q] at this;simp at this)
   ·rw[if_neg (fun e=>hz ((fD _).1 e))]
    split
    ·rename_i hp
     exact(ij _).2 (by rcases c1.1 hp with k|k;exact k;exact absurd k.1 hz)
    ·rename_i hp
     have:l.value p<0:=by have: ¬0<l.value p:=fun e=>hp (c1.2 (.inl e));grind
     exact Int.sign_eq_neg_one_iff_neg.2 (by have:=(lw _).2 this;rcases lU (l.value p).num 0 with q|q|q;exact q;rw[q] at this;simp at this;rw[fK q] at this;simp at this)
  have hz:l.value (aD p v d)≠0:=fun e=>by
   rcases di (l.value p) with q|q|q
   ·rcases di (l.nor.dot v) with r|r|r
    ·exact hgn q r
    ·have:=c1.2 (.inr ⟨q,r⟩);grind
    ·have:=c2.2 (.inr ⟨q,r⟩);grind
   ·have:=c1.2 (.inl q);grind
   ·have:=c2.2 (.inl q);grind
  refine⟨fun m hm=>?_,?_⟩
  ·rcases aU.1 hm with rfl|hm
   ·exact hz
   ·exact(bT.1 hm).elim (o2 m) (o3 m)
  ·rw[fI,hs]
   by_cases hp:0<l.value (aD p v d)
   ·rw[if_pos hp,Tr.val_pos hp];exact w2
   ·rw[if_neg hp,Tr.val_neg hp];exact w3
def ePa(x:Bool×bw):DV:= .ag [.sl (x.2.map cp),eU (.leaf x.1)]
def J6{q:Rat}{i:Nat}[h:BQ q i](hi:i<=900000000:=by decide):PF GB prog 122 [eF q] (eR q):=by
 refine fn func122 J J ntmps122 J J (fun C=>?_);refine cl J (ur (q:=q) (i:=i) hi) J<|cl J (oP (q:=q) (i:=i) hi) J<|?_;exact rz J J
def aAd{p:aa}{i:Nat}[h:aq p i](hi:i<=900000000:=by decide):PF GB prog 71 [eZ p] (i9 p):=by
 refine fn func71 J J ntmps71 J J (fun C=>?_);refine cl J (J6 (q:=p.x) (i:=i) hi) J<|cl J (J6 (q:=p.y) (i:=i) hi) J<|?_;exact rz J J
def eC(c:bw):DV:= .sl (c.map cp)
def aEM(ps:List (Bool×bw)):List bw:=(ps.filter (·.1)).map (·.2)
def iE(p:aa):(p.half=1/\(0<p.y\/(p.y=0/\0<p.x)))\/(p.half=2/\(p.y<0\/(p.y=0/\p.x<0)))\/(p.half=0/\p.y=0/\p.x=0):=by
 unfold aa.half;simp only[jg,lw,fD];split
 ·rename_i h;exact .inl ⟨rfl,h⟩
 ·rename_i h
  split
  ·rename_i h2
   exact .inr (.inl ⟨J,by grind⟩)
  ·rename_i h2
   exact .inr (.inr ⟨J,by grind,by grind⟩)
def ng{p:aa}:p.half=1↔(0<p.y\/(p.y=0/\0<p.x)):=by
 rcases iE p with⟨h,k⟩|⟨h,k⟩|⟨h,k⟩<;>rw[h]<;>grind
def pg{p:aa}:p.half=2↔(p.y<0\/(p.y=0/\p.x<0)):=by
 rcases iE p with⟨h,k⟩|⟨h,k⟩|⟨h,k⟩<;>rw[h]<;>grind
def bv(u v:aa):Prop:=u.half<v.half\/(u.half=v.half/\0<u.cross v)
def n8{u v:aa}:ce u v<0↔bv u v:=by
 unfold ce bv;split
 ·rename_i h;exact⟨fun _=> .inl h,fun _=>by decide⟩
 ·rename_i h
  split
  ·rename_i h2;exact⟨fun e=>absurd e (by decide),fun e=>by omega⟩
  ·rename_i h2
   have e:u.half=v.half:=by omega
   rw[<-jg];constructor
   ·intro k;exact .inr ⟨e,by omega⟩
   ·rintro (k|⟨_,k⟩)
    ·omega
    ·omega
def ba(d:aa):aa:=⟨-d.x, -d.y⟩
def mB{d:aa}(h:d.half≠0):(ba d).half=3-d.half:=by
 rcases iE d with⟨e,k⟩|⟨e,k⟩|⟨e,k⟩
 ·rw[e];exact pg.2 (by unfold ba;grind)
 ·rw[e];exact ng.2 (by unfold ba;grind)
 ·exact absurd e h
def e8{d:aa}(h:d.half≠0):d.half=1\/d.half=2:=by
 rcases iE d with⟨e,_⟩|⟨e,_⟩|⟨e,_⟩
 ·exact .inl e
 ·exact .inr e
 ·exact absurd e h
def me(ds:List aa)(u w:aa):Prop:=(bv u w/\ ∀d∈ds,¬(bv u d/\bv d w))\/((∀d∈ds,¬bv u d)/\ ∀d∈ds,¬bv d w)
structure rj (ds:List aa):Prop where
 nz: ∀d∈ds,d.half≠0
 neg: ∀d∈ds,ba d∈ds
def AQ(u:aa):u.cross u=0:=by unfold aa.cross;grind
def d5(u v:aa):v.cross u= -u.cross v:=by unfold aa.cross;grind
def je(u v:aa):u.cross (ba v)= -u.cross v:=by unfold aa.cross ba;grind
def me.spec{ds:List aa}{u w:aa}(h:rj ds)(hu:u∈ds)(hw:w∈ds)(hn:me ds u w):
  (u.half=w.half/\0<u.cross w/\ ∀d∈ds,¬(bv u d/\bv d w))\/(u.half≠w.half/\(∀d∈ds,d.half=u.half->0<=d.cross u)/\ ∀d∈ds,d.half=w.half->0<=w.cross d):=by
 have zu:=e8 (h.nz u hu);have zw:=e8 (h.nz w hw);rcases hn with⟨h1,h2⟩|⟨h1,h2⟩
 ·rcases h1 with k|⟨k,k2⟩
  ·refine .inr ⟨by omega,fun d hd e=>?_,fun d hd e=>?_⟩
   ·have:=h2 d hd
    rw[d5];by_cases hc:0<u.cross d
    ·exact absurd ⟨.inr ⟨e.symm,hc⟩, .inl (by omega)⟩ this
    ·grind
   ·have:=h2 d hd
    by_cases hc:0<d.cross w
    ·exact absurd ⟨.inl (by omega), .inr ⟨e,hc⟩⟩ this
    ·rw[d5] at hc;grind
  ·exact .inl ⟨k,k2,h2⟩
 ·have nu:=mB (h.nz u hu)
  have a1:=h1 _ (h.neg u hu);have a2:=h2 _ (h.neg u hu);unfold bv at a1 a2;rw[nu] at a1 a2;refine .inr ⟨fun e=>?_,fun d hd e=>?_,fun d hd e=>?_⟩
  ·rcases zu with z|z
   ·exact a1 (.inl (by omega))
   ·exact a2 (.inl (by omega))
  ·have:=h1 d hd
   rw[d5];by_cases hc:0<u.cross d
   ·exact absurd (.inr ⟨e.symm,hc⟩) this
   ·grind
  ·have:=h2 d hd
   by_cases hc:0<d.cross w
   ·exact absurd (.inr ⟨e,hc⟩) this
   ·rw[d5] at hc;grind
def me.pos{ds:List aa}{u w:aa}(h:rj ds)(hu:u∈ds)(hw:w∈ds)(hn:me ds u w):0<=u.cross w:=by
 rcases hn.spec h hu hw with⟨_,h2,_⟩|⟨h1,h2,h3⟩
 ·grind
 ·have:=h3 _ (h.neg u hu) (by rw[mB (h.nz u hu)];have:=e8 (h.nz u hu);have:=e8 (h.nz w hw);omega)
  rw[je] at this;rw[d5];exact this
def d9(a b:Rat)(u w:aa):aa:=⟨a*u.x+b*w.x,a*u.y+b*w.y⟩
def IK{a b:Rat}{u w:aa}:u.cross (d9 a b u w)=b*u.cross w/\(d9 a b u w).cross w=a*u.cross w:=by
 unfold aa.cross d9;constructor<;>grind
def DK{a b:Rat}{u w:aa}(ha:0<a)(hb:0<b)(h:u.half=w.half)(hz:u.half≠0):(d9 a b u w).half=u.half:=by
 rcases iE u with⟨e,k⟩|⟨e,k⟩|⟨e,k⟩
 ·rw[e] at h⊢
  have k2:=ng.1 h.symm;refine ng.2 ?_;unfold d9;simp only;have p1: ∀z:Rat,0<z->0<a*z:=fun z hz=>bt ha hz;have p2: ∀z:Rat,0<z->0<b*z:=fun z hz=>bt hb hz;rcases k with k|⟨k,k'⟩<;>rcases k2 with l|⟨l,l'⟩
  ·have:=p1 _ k;have:=p2 _ l;grind
  ·have:=p1 _ k;rw[l];grind
  ·have:=p2 _ l;rw[k];grind
  ·have:=p1 _ k';have:=p2 _ l';rw[k,l];grind
 ·rw[e] at h⊢
  have k2:=pg.1 h.symm;refine pg.2 ?_;unfold d9;simp only;have p1: ∀z:Rat,z<0->a*z<0:=fun z hz=>by have:=bt (a:=a) (b:= -z) ha (by grind);grind
  have p2: ∀z:Rat,z<0->b*z<0:=fun z hz=>by have:=bt (a:=b) (b:= -z) hb (by grind);grind
  rcases k with k|⟨k,k'⟩<;>rcases k2 with l|⟨l,l'⟩
  ·have:=p1 _ k;have:=p2 _ l;grind
  ·have:=p1 _ k;rw[l];grind
  ·have:=p2 _ l;rw[k];grind
  ·have:=p1 _ k';have:=p2 _ l';rw[k,l];grind
 ·exact absurd e hz
def me.none{ds:List aa}{u w:aa}(h:rj ds)(hu:u∈ds)(hw:w∈ds)(hn:me ds u w)(hc:u.cross w≠0){a b:Rat}(ha:0<a)(hb:0<b):d9 a b u w∉ds:=fun hd=>by
 have hp:=hn.pos h hu hw;have hp:0<u.cross w:=by grind
 obtain⟨c1,c2⟩:=IK (a:=a) (b:=b) (u:=u) (w:=w);have d1:0<u.cross (d9 a b u w):=by rw[c1];exact bt hb hp
 have d2:0<(d9 a b u w).cross w:=by rw[c2];exact bt ha hp
 have zu:=e8 (h.nz u hu);have zw:=e8 (h.nz w hw);have zd:=e8 (h.nz _ hd);rcases hn.spec h hu hw with⟨h1,_,h3⟩|⟨h1,h2,h3⟩
 ·have e:=DK ha hb h1 (h.nz u hu)
  exact h3 _ hd ⟨.inr ⟨e.symm,d1⟩, .inr ⟨e.trans h1,d2⟩⟩
 ·rcases(show(d9 a b u w).half=u.half\/(d9 a b u w).half=w.half by omega) with e|e
  ·have:=h2 _ hd e
   rw[d5] at this;grind
  ·have:=h3 _ hd e
   rw[d5] at this;grind
def q7{d e:aa}(h:e.cross d=0)(hp:0<e.dot d): ∃g:Rat,0<g/\e=⟨g*d.x,g*d.y⟩:=by
 have hd:0<d.dot d:=by
  unfold aa.dot at*;have h1:=qm d.x;have h2:=qm d.y;rcases di d.x with k|k|k
  ·rcases di d.y with l|l|l
   ·rw[k,l] at hp;grind
   ·have:=bt l l;grind
   ·have:=bt (a:= -d.y) (b:= -d.y) (by grind) (by grind);grind
  ·have:=bt k k;grind
  ·have:=bt (a:= -d.x) (b:= -d.x) (by grind) (by grind);grind
 have key:e.x*d.dot d=e.dot d*d.x/\e.y*d.dot d=e.dot d*d.y:=by
  unfold aa.dot aa.cross at*;constructor<;>grind
 have hg:e.dot d/d.dot d*d.dot d=e.dot d:=by grind
 refine⟨e.dot d/d.dot d,(fk hd).1 (by rw[hg];exact hp),?_⟩;generalize e.dot d/d.dot d=g at*;have x1:e.x=g*d.x:=by
  have:(e.x-g*d.x)*d.dot d=0:=by rw[<-hg] at key;grind
  have hz:d.dot d≠0:=by grind
  grind
 have x2:e.y=g*d.y:=by
  have:(e.y-g*d.y)*d.dot d=0:=by rw[<-hg] at key;grind
  have hz:d.dot d≠0:=by grind
  grind
 rw[<-x1,<-x2]
def Bg{e u:aa}(he:e.half≠0)(hu:u.half≠0)(hp:e.cross u=0):e.dot u≠0:=fun hz=>by
 have e1:e.x*(u.x*u.x+u.y*u.y)=0:=by unfold aa.dot aa.cross at*;grind
 have e2:e.y*(u.x*u.x+u.y*u.y)=0:=by unfold aa.dot aa.cross at*;grind
 have hu2:u.x*u.x+u.y*u.y≠0:=fun q=>by
  have h1:=qm u.x;have h2:=qm u.y;have x0:u.x=0:=by
   have:u.x*u.x=0:=by grind
   grind
  have y0:u.y=0:=by
   have:u.y*u.y=0:=by grind
   grind
  rcases iE u with⟨_,q⟩|⟨_,q⟩|⟨q,_⟩
  ·grind
  ·grind
  ·exact hu q
 have x0:e.x=0:=by grind
 have y0:e.y=0:=by grind
 rcases iE e with⟨_,q⟩|⟨_,q⟩|⟨q,_⟩
 ·grind
 ·grind
 ·exact he q
def me.gen{ds:List aa}{u w:aa}(h:rj ds)(hu:u∈ds)(hw:w∈ds)(hn:me ds u w)(hc:u.cross w≠0){a b:Rat}(ha:0<a)(hb:0<b): ∀d∈ds,d.cross (d9 a b u w)≠0:=fun d hd hz=>by
 have hp:=hn.pos h hu hw;have hp:0<u.cross w:=by grind
 obtain⟨c1,c2⟩:=IK (a:=a) (b:=b) (u:=u) (w:=w);have d1:0<u.cross (d9 a b u w):=by rw[c1];exact bt hb hp
 -- of d and its opposite, one points the same way
 have key: ∀e∈ds,e.cross (d9 a b u w)=0->0<e.dot (d9 a b u w)->False:=fun e he h1 h2=>by
  obtain⟨g,g1,g2⟩:=q7 h1 h2;refine hn.none h hu hw hc (a:=g*a) (b:=g*b) (bt g1 ha) (bt g1 hb) ?_;have:d9 (g*a) (g*b) u w=e:=by rw[g2];unfold d9;simp only[aa.mk.injEq];constructor<;>grind
  rw[this];exact he
 rcases di (d.dot (d9 a b u w)) with k|k|k
 ·-- both 0: then d is 0, or the other is
  have hnz:=h.nz d hd;generalize d9 a b u w=v at*;have e1:d.x*(v.x*v.x+v.y*v.y)=0:=by unfold aa.dot aa.cross at*;grind
  have e2:d.y*(v.x*v.x+v.y*v.y)=0:=by unfold aa.dot aa.cross at*;grind
  have hv:v.x*v.x+v.y*v.y≠0:=fun e=>by
   have h1:=qm v.x;have h2:=qm v.y;have x0:v.x=0:=by have:v.x*v.x=0:=(by grind);grind
   have y0:v.y=0:=by have:v.y*v.y=0:=(by grind);grind
   unfold aa.cross at d1;rw[x0,y0] at d1;grind
  have x0:d.x=0:=by grind
  have y0:d.y=0:=by grind
  rcases iE d with⟨_,q⟩|⟨_,q⟩|⟨q,_⟩
  ·grind
  ·grind
  ·exact hnz q
 ·exact key d hd hz k
 ·refine key _ (h.neg d hd) ?_ ?_
  ·unfold aa.cross ba at*;grind
  ·unfold aa.dot ba at*;grind
def Jq(d u:aa):d.cross (d6 u)=d.dot u:=by unfold aa.cross d6 aa.dot;grind
def me.turn{ds:List aa}{u w:aa}(h:rj ds)(hu:u∈ds)(hw:w∈ds)(hn:me ds u w)(hc:u.cross w=0): ∀d∈ds,d.cross (d6 u)≠0:=fun d hd=>by
 have zu:=e8 (h.nz u hu);have zw:=e8 (h.nz w hw);rw[Jq];rcases hn.spec h hu hw with⟨_,h2,_⟩|⟨h1,h2,h3⟩
 ·rw[hc] at h2;exact absurd h2 (by decide)
 have par: ∀e∈ds,e.half=u.half->e.cross u=0:=fun e he k=>by
  have a1:=h2 e he k;have a2:=h3 _ (h.neg e he) (by rw[mB (h.nz e he)];omega);rw[je] at a2
  -- w = -g u
  have hwu:w.cross u=0:=by rw[d5,hc];rfl
  have huw:w.dot u<0:=by
   rcases di (w.dot u) with k0|k0|k0
   ·exact absurd k0 (Bg (h.nz w hw) (h.nz u hu) hwu)
   ·obtain⟨g,g1,g2⟩:=q7 hwu k0
    exfalso;apply h1;rcases iE u with⟨x,q⟩|⟨x,q⟩|⟨x,q⟩
    ·rw[x]
     refine(ng.2 ?_).symm;rw[g2];simp only;rcases q with q|⟨q,q'⟩
     ·exact .inl (bt g1 q)
     ·exact .inr ⟨by rw[q];grind,bt g1 q'⟩
    ·rw[x]
     refine(pg.2 ?_).symm;rw[g2];simp only;rcases q with q|⟨q,q'⟩
     ·have:=bt (a:=g) (b:= -u.y) g1 (by grind);exact .inl (by grind)
     ·have:=bt (a:=g) (b:= -u.x) g1 (by grind);exact .inr ⟨by rw[q];grind,by grind⟩
    ·exact absurd x (h.nz u hu)
   ·exact k0
  obtain⟨g,g1,g2⟩:=q7 (d:=u) (e:=ba w) (by unfold aa.cross ba at*;grind) (by unfold aa.dot ba at*;grind);have a3:0<= -(g*e.cross u):=by
   have e1:w=⟨-(g*u.x), -(g*u.y)⟩:=by
    have:=congrArg ba g2;unfold ba at this
    cases w
    simp only[Rat.neg_neg] at this;exact this
   rw[e1] at a2;unfold aa.cross at*;grind
  by_cases hz:0<e.cross u
  ·have:=bt g1 hz;grind
  ·grind
 have nzd: ∀e∈ds,e.half=u.half->e.dot u≠0:=fun e he k=>Bg (h.nz e he) (h.nz u hu) (par e he k);by_cases k:d.half=u.half
 ·exact nzd d hd k
 ·have:=nzd _ (h.neg d hd) (by rw[mB (h.nz d hd)];have:=e8 (h.nz d hd);omega)
  unfold aa.dot ba at*;grind
end Go.Sx
end
section
namespace Go.Sx
open Go
inductive OT where
 |z (π:List (Nat×Bool))
 |q (i:Nat) (t:OT)
 |a (i:Nat) (t:OT)
 |c (i:Nat) (t r:OT)
def OT.sz:OT->Nat
 | .z _=>0
 | .q _ t=>t.sz+1
 | .a _ t=>t.sz+1
 | .c _ t r=>t.sz+r.sz+1
def OT.d:OT->Nat
 | .z π=>π.length
 | .q _ t=>t.d+1
 | .a _ t=>t.d+1
 | .c _ t r=>Nat.max (t.d+1) r.d
section
variable {P:Program} {ops:Array Oper} {Q:Exit->Act->World->Prop} {S:World->Prop} {π₂:List (Nat×Bool)}
def ue(P:Program)(ops:Array Oper)(Q:Exit->Act->World->Prop)(K:(World->Prop)->Act->World->Prop):List Nat->OT->(World->Prop)->Act->World->Prop
 |ks, .z π,S,a,w=>wh P ops Q K ks π S a w
 |ks, .q i t,S,a,w=> ∃o v,ops[i]? =some o/\S w/\YieldsIf P ops S o v a/\ue P ops Q K ks t S (a.put o.dst v) w
 |ks, .a i t,S,a,w=>wpOp P ops Q i (tY S (ue P ops Q K ks t)) a w/\
   ∀j,(h:j∈ks)->wpOp P ops Q j (tY S (ue P ops Q K (kB ks j) (.a i t))) a w
 |ks, .c i t r,S,a,w=>wpOp P ops Q i (tY S (ue P ops Q K ks t)) a w/\ue P ops Q K ks r S a w/\
   ∀j,(h:j∈ks)->wpOp P ops Q j (tY S (ue P ops Q K (kB ks j) (.c i t r))) a w
termination_by ks t=>ks.length+t.sz
decreasing_by
 all_goals (first|(have:=HV h;simp only[OT.sz] at*;omega)|(simp only[OT.sz];omega))
def ri(ops:Array Oper)(fin:Nat->Bool)(π₂:List (Nat×Bool)):Nat->Bool->List Nat->OT->Array Bool->List Nat->Bool
 |0,_,_,_,_,_=>false
 |n+1,false,ks, .z π,l,_=>xW ops fin π₂ n ks π l
 |_+1,true,_, .z _,_,_=>false
 |n+1,false,ks, .q i t,l,_=>wN ops fin l i&&ri ops fin π₂ n false ks t (l.setIfInBounds i true) []
 |_+1,true,_, .q _ _,_,_=>false
 |n+1,true,ks, .a i t,l,rs=>rs.all (fun j=>Nat.beq j i)&&ri ops fin π₂ n false ks t (l.setIfInBounds i true) []
 |n+1,false,ks, .a i t,l,_=>!(Region.ready .any ops l).isEmpty&&(Region.ready .any ops l).all (fun j=>Nat.beq j i||ks.contains j)&&ri ops fin π₂ n false ks t (l.setIfInBounds i true) []&&ks.all fun j=>ri ops fin π₂ n false (kB ks j) (.a i t) (l.setIfInBounds j true) []
 |n+1,true,ks, .c i t r,l,rs=>ri ops fin π₂ n false ks t (l.setIfInBounds i true) []&&ri ops fin π₂ n true ks r l (kB rs i)
 |n+1,false,ks, .c i t r,l,_=>!(Region.ready .any ops l).isEmpty&&ri ops fin π₂ n false ks t (l.setIfInBounds i true) []&&ri ops fin π₂ n true ks r l (kB ((Region.ready .any ops l).filter fun j=>!ks.contains j) i)&&ks.all fun j=>ri ops fin π₂ n false (kB ks j) (.c i t r) (l.setIfInBounds j true) []
end
section
variable {P:Program} {GB:Gh} {C:az} {n:Nat} {fr fr':dt} {own own' own0 own1 own1':List cB} {bs bs0 bs1 bs1':List c7} {ops:Array Oper} {Q:Exit->Act->World->Prop} {fd:List FD} {π₂:List (Nat×Bool)} {t r:OT}
abbrev dnK (P:Program) (ops:Array Oper) (Q:Exit->Act->World->Prop) (K:(World->Prop)->Act->World->Prop) (t:OT):List Nat->(World->Prop)->Act->World->Prop:=fun ks S=>ue P ops (j0 Q) K ks t S
end
end Go.Sx
end
section
namespace Go.Sx
open Go Go.Proofs
theorem LB.rev{l:ab}(h:LB l):LB l.rev:=⟨⟨by rw[show l.rev.a= -l.a from J,iS];exact h.bl.a,by rw[show l.rev.b= -l.b from J,iS];exact h.bl.b,by rw[show l.rev.c= -l.c from J,iS];exact h.bl.c⟩⟩
def Pj{α:Type}{p:α->Bool}: ∀{xs:List α} {n:Nat},n<=xs.length->(∀j (h:j<xs.length),j<n->p xs[j]=true)->(∀h:n<xs.length,p xs[n]=false)->(xs.takeWhile p).length=n
 |[],n,h,_,_=>by simp at h;subst h;rfl
 |x::xs,0,_,_,h3=>by
  have:=h3 (by simp);simp only[oQ] at this;simp[pY,this]
 |x::xs,n+1,h1,h2,h3=>by
  have hx:=h2 0 (by simp) (by omega);simp only[oQ] at hx;rw[pY,if_pos hx,bU];rw[Pj (n:=n) (by simpa using h1) (fun j h hj=>by have:=h2 (j+1) (by simpa using h) (by omega);simpa using this) (fun h=>by have:=h3 (by simpa using h);simpa using this)]
structure Cst (c:List ab) (k:Nat) (xs:List ab):Prop where
 le:k<=c.length
 f:Ge c (c.drop k) xs=rx c
 m: ∀m∈xs,m∈c
 n:xs.length<=k
def MI(c:List ab):Bool:=if(((c.map eL).length:Nat):Int)=0 then true else decide ((0:Int)<((((rx c).map eL).length:Nat):Int))
section
variable {α:Type} (c:α->α->Int)
def du(x:α):List α->List α
 |[]=>[x]
 |u::t=>if c u x<0 then u::du x t else if c u x=0 then u::t else x::u::t
def jE(x:α)(xs:List α):Nat:=(xs.takeWhile fun u=>decide (c u x<0)).length
def JU(x:α)(xs:List α):jE c x xs<=xs.length:=(List.takeWhile_sublist _).length_le
def AZ{x:α}{xs:List α}{n:Nat}(h1:n<=xs.length)(h2: ∀j (h:j<xs.length),j<n->c xs[j] x<0)(h3: ∀h:n<xs.length,¬c xs[n] x<0):jE c x xs=n:=
 Pj h1 (fun j h hj=>decide_eq_true (h2 j h hj)) (fun h=>decide_eq_false (h3 h))
def Ek{x:α}: ∀{xs:List α} {n:Nat},jE c x xs=n->(h:n<xs.length)->c xs[n] x=0->du c x xs=xs
 |[],n,_,h,_=>by simp at h
 |u::t,n,hn,h,e=>by
  rw[du];unfold jE at hn;rw[pY] at hn;by_cases hu:c u x<0
  ·rw[if_pos hu]
   rw[if_pos (by simpa using hu)] at hn;obtain⟨k,rfl⟩: ∃k,n=k+1:=⟨n-1,by simp at hn;omega⟩;rw[Ek (xs:=t) (n:=k) (by unfold jE;simpa using hn) (by simpa using h) (by simpa using e)]
  ·rw[if_neg (by simpa using hu)] at hn
   simp at hn;subst hn;rw[if_neg hu,if_pos (by simpa using e)]
def wP{x:α}: ∀{xs:List α} {n:Nat},jE c x xs=n->(∀h:n<xs.length,c xs[n] x≠0)->du c x xs=xs.take n++x::xs.drop n
 |[],n,hn,_=>by simp[jE] at hn;subst hn;rfl
 |u::t,n,hn,e=>by
  rw[du];unfold jE at hn;rw[pY] at hn;by_cases hu:c u x<0
  ·rw[if_pos hu]
   rw[if_pos (by simpa using hu)] at hn;obtain⟨k,rfl⟩: ∃k,n=k+1:=⟨n-1,by simp at hn;omega⟩;rw[wP (xs:=t) (n:=k) (by unfold jE;simpa using hn) (fun h=>by have:=e (by simpa using h);simpa using this)];simp
  ·rw[if_neg (by simpa using hu)] at hn
   simp at hn;subst hn;have:=e (by simp);rw[if_neg hu,if_neg (by simpa using this)];rfl
def LX(x:α): ∀(xs:List α),(du c x xs).length<=xs.length+1
 |[]=>aN _
 |u::t=>by
  have:=LX x t;rw[du];split
  ·simp;omega
  ·split<;>simp
def Dp{x y:α}: ∀{xs:List α},y∈du c x xs->y=x\/y∈xs
 |[],h=>by rw[du,aV] at h;exact .inl h
 |u::t,h=>by
  rw[du] at h;split at h
  ·rcases aU.1 h with rfl|h
   ·exact .inr aQ
   ·rcases Dp h with h|h
    ·exact .inl h
    ·exact .inr (aJ _ h)
  ·split at h
   ·exact .inr h
   ·rcases aU.1 h with rfl|h
    ·exact .inl J
    ·exact .inr h
def pI(l:List α):List α:=l.foldl (fun out x=>du c x out) []
def CS: ∀(l o:List α),(l.foldl (fun out x=>du c x out) o).length<=l.length+o.length
 |[],o=>by simp
 |x::t,o=>by
  have:=CS t (du c x o);have:=LX c x o;simp only[fY,bU];omega
def vz{y:α}: ∀{l o:List α},y∈l.foldl (fun out x=>du c x out) o->y∈l\/y∈o
 |[],o,h=> .inr h
 |x::t,o,h=>by
  rcases vz (l:=t) h with h|h
  ·exact .inl (aJ _ h)
  ·rcases Dp c h with rfl|h
   ·exact .inl aQ
   ·exact .inr h
end
def Az{α β:Type}{f:α->β}{l:List α}{k:Nat}{x:α}(h:l[k]? =some x):(l.take k).map f++[f x]=(l.take (k+1)).map f:=by
 rw[dW,h,cN];rfl
end Go.Sx
end
