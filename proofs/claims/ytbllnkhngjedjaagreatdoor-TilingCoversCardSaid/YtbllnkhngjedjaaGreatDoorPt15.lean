import Derived.Test.YtbllnkhngjedjaaGreatDoorPt14
import Derived.WalkKit
import Derived.LaidEql
import Derived.Stop.Asserts
import Derived.RowKitTokens
set_option linter.all false
set_option maxHeartbeats 2000000
set_option maxRecDepth 100000
section
namespace Go.Sx
open Go Go.Proofs Tryz
def uz(n:Nat)(f:Nat->Bool):Nat:=((List.range n).filter fun j=>!f j).length
def asN{n k:Nat}{f:Nat->Bool}(hk:k<n)(hf:f k=false):uz n (lx f k)+1=uz n f:=by
 unfold uz;have key: ∀l:List Nat,l.Nodup->((l.filter fun j=>!lx f k j).length+(if k∈l then 1 else 0)=(l.filter fun j=>!f j).length):=fun l=>by
  induction l with
  |nil=>intro _;rfl
  |cons a l ih=>
   intro hn;obtain⟨h1,h2⟩:=List.nodup_cons.1 hn;have:=ih h2;by_cases e:a=k
   .subst e
    simp only[qQ,RW,hf,aT,true_or,if_true] at this⊢;rw[if_neg h1] at this;simp at this⊢;omega
   .have e': ¬k=a:=fun h=>e h.symm
    simp only[qQ,y8 e,aT,e',false_or] at this⊢
    cases f a<;>simp at this⊢ <;>omega
 have:=key (List.range n) List.nodup_range;rwa [if_pos (jS.2 hk)] at this
def ug(ns:List RN):Nat->Int->RS->Tr×RS
 |0,_,s=>(.leaf false,s)
 |m+1,rt,s=>
  if rt= -1 then(.leaf false,s) else if rt= -2 then(.leaf true,s) else
  match ns[rt.toNat]? with
  |none=>(.leaf false,⟨s.f,s.c,true⟩)
  |some n=>if rt<0\/s.f rt.toNat=true then(.leaf false,⟨s.f,s.c,true⟩) else
   match n.g.ln with
   |none=>(.leaf false,⟨lx s.f rt.toNat,s.c+1,true⟩)
   |some l=>let a:=ug ns m n.l ⟨lx s.f rt.toNat,s.c+1,s.b⟩;let b:=ug ns m n.r a.2;(.node l a.1 b.1,b.2)
def Dm{ns:List RN}: ∀{m:Nat} {rt:Int} {s:RS},uz ns.length s.f<m->RR ns rt s (ug ns m rt s).1 (ug ns m rt s).2/\(ug ns m rt s).2.c+uz ns.length (ug ns m rt s).2.f=s.c+uz ns.length s.f
 |0,_,_,h=>absurd h (sN _)
 |m+1,rt,s,h=>by
  rw[ug];split
  .rename_i e;subst e;exact⟨.leaf false s,rfl⟩
  rename_i e1;split
  .rename_i e;subst e;exact⟨.leaf true s,rfl⟩
  rename_i e2;split
  .rename_i hn
   have:=List.getElem?_eq_none_iff.1 hn;exact⟨.bad rt s e1 e2 (by omega),J⟩
  rename_i n hn;have hlt:=(aY.1 hn).1;split
  .rename_i hb
   refine⟨.bad rt s e1 e2 ?_,J⟩;rcases hb with hb|hb
   .exact .inl hb
   .by_cases h0:rt<0
    .exact .inl h0
    .exact .inr (.inr ⟨rt.toNat,by omega,hlt,hb⟩)
  rename_i hb;obtain⟨k,rfl⟩: ∃k:Nat,rt=k:=⟨rt.toNat,by omega⟩;rw[bV] at hn hlt hb⊢;have hf:s.f k=false:=by
   cases hh:s.f k with
   |false=>rfl
   |true=>exact absurd (Or.inr hh) hb
  have hu:=asN hlt hf;split
  .rename_i hl;exact⟨.line k n s hn hf hl,by simp only;omega⟩
  rename_i l hl;have h1:=Dm (ns:=ns) (m:=m) (rt:=n.l) (s:=⟨lx s.f k,s.c+1,s.b⟩) (by simp only;omega);have hc:=h1.1.mono;simp only at h1 hc;have h2:=Dm (ns:=ns) (m:=m) (rt:=n.r) (s:=(ug ns m n.l ⟨lx s.f k,s.c+1,s.b⟩).2) (by omega);exact⟨.node k n l s _ _ _ _ hn hf hl h1.1 h2.1,by have:=h1.2;have:=h2.2;dsimp only;omega⟩
def xv(ns:List RN)(rt:Int):Option Tr:=
 let r:=ug ns (ns.length+1) rt sP
 if r.2.b=false/\r.2.c=ns.length then some r.1 else none
def Z9:Option Tr->DV
 |some t=> .tp [eU t,vB true]
 |none=> .tp [.v (.pointer none),vB false]
def HH(n:Nat)(f:Nat->Bool):uz n f<=n:=by
 unfold uz;refine cY (mZ _ _) ?_;rw[lR];exact aM _
def aIf{GB:Gh}{ns:List RN}{rt:Int}(hs: ∀n∈ns,n.g.sm)(hn:ns.length<=65536):PF GB prog 32 [xV rt ns] (Z9 (xv ns rt)):=by
 have h:=Dm (ns:=ns) (m:=ns.length+1) (rt:=rt) (s:=sP) (by have:=HH ns.length sP.f;omega);have hu:=HH ns.length sP.f;have h0:sP.c=0:=J;have h2:=Yc (GB:=GB) hs hn h.1 (by have:=h.2;omega);unfold Bi at h2;unfold xv;simp only;split
 .rename_i e;rw[if_pos e] at h2;exact h2
 .rename_i e;rw[if_neg e] at h2;exact h2
end Go.Sx
end
section
namespace Go.Sx
open Go Go.Proofs Go.RowKit Go.Extern.Stop Go.Stop Go.Extern
def aLr:TypeId->Sem Value:=fun t=>do Go.Extern.Rtype.noPackHeld "Comparable" t;pure (.bool (<-typeInfo t).comparable)
def By(a:Addr):DV:= .v (.iface 378 (.pointer (some a)))
end Go.Sx
end
section
namespace Go.Sx
open Go Go.Proofs Tryz
variable {GB:Gh}
structure EG (GB:Gh) (ai al ae:Addr):Prop where
 ErrInvalid:GB 0=some [.iface 378 (.pointer (some ai))]
 ErrLimit:GB 1=some [.iface 378 (.pointer (some al))]
structure Tr.gd (t:Tr):Prop where
 lb:t.all LB
 ok:t.all ab.ok
def Tr.compl_all(p:ab->Prop): ∀t:Tr,t.all p->t.compl.all p
 | .leaf _,h=>h
 | .node l x y,⟨h0,h1,h2⟩=>⟨h0,x.compl_all p h1,y.compl_all p h2⟩
def Tr.compl_depth: ∀t:Tr,t.compl.depth=t.depth
 | .leaf _=>rfl
 | .node l x y=>by simp only[Tr.compl,Tr.depth,x.compl_depth,y.compl_depth]
def Tr.chooseQ_all(p:ab->Prop)(op:Int)(b:Bool)(t:Tr)(c:az)(h:t.all p):(t.chooseQ op b c).all p:=by
 have:=t.restrict_all p c h;unfold chooseQ;split
 .split
  .trivial
  .exact this
 .split
  .trivial
  .split
   .exact(t.restrict c).compl_all p this
   .exact this
def Tr.mergeQ_all(p:ab->Prop)(op:Int){u:Tr}(hu:u.all p): ∀(t:Tr) (c:az),t.all p->(t.mergeQ op u c).all p
 | .leaf b,c,_=>u.chooseQ_all p op b c hu
 | .node l x y,c,⟨h0,h1,h2⟩=>by
  rw[Tr.mergeQ];split
  .exact Tr.mergeQ_all p op hu x c h1
  .split
   .exact Tr.mergeQ_all p op hu y c h2
   .rcases Tr.joinQ_cases l (x.mergeQ op u (b8 c l)) (y.mergeQ op u (b8 c l.rev)) with⟨h,_⟩|⟨h,_⟩
    .rw[h];exact Tr.mergeQ_all p op hu x _ h1
    .rw[h];exact⟨h0,Tr.mergeQ_all p op hu x _ h1,Tr.mergeQ_all p op hu y _ h2⟩
def Sh(op:Int)(a b:Tr):Option Tr:=if 1024<a.depth+b.depth then none else if 65536<(a.mergeQ op b []).size then none else some (a.mergeQ op b [])
def aL8(al:Addr):Option Tr->DV
 |some t=> .tp [eU t, .v .nilIface]
 |none=> .tp [.v (.pointer none),By al]
def Kq(op:Int):Tr->List Tr->Option Tr
 |t,[]=>some t
 |t,u::us=>match Sh op t u with
  |none=>none
  |some r=>Kq op r us
def apU{t:Tr}(h:t.gd)(c:az):(t.restrict c).gd:=⟨t.restrict_all LB c h.lb,t.restrict_all ab.ok c h.ok⟩
def aIj{ns:List RN}{rt:Int}{t:Tr}(hs: ∀n∈ns,n.g.sm)(hn:ns.length<=65536)(h:xv ns rt=some t):PF GB prog 32 [xV rt ns] (.tp [eU t,vB true]):=by
 have:=aIf (GB:=GB) (rt:=rt) hs hn;rw[h] at this;exact this
def Ja:DV:= .ag [vI 0, .sl []]
def aLZ:Tr ⊕ Addr->DV
 | .inl t=> .tp [eA t, .v .nilIface]
 | .inr e=> .tp [Ja,By e]
def aKp(ai:Addr):Option Tr->Tr ⊕ Addr
 |some t=> .inl t.compl
 |none=> .inr ai
def KX(al:Addr):Option Tr->Tr ⊕ Addr
 |some t=> .inl t
 |none=> .inr al
def aJV(ai al:Addr)(op:Int):Option Tr->Option Tr->Tr ⊕ Addr
 |some a,some b=>if 1<=op/\op<=4 then KX al (Sh op a b) else .inr ai
 |_,_=> .inr ai
abbrev r4:=Int×List RN
def r4.d(x:r4):DV:=xV x.1 x.2
def r4.q(x:r4):Option Tr:=xv x.2 x.1
def Zu:Option Tr->DV
 |some t=>eU t
 |none=> .v (.pointer none)
def US(op:Int)(ts:List r4):Bool:=decide (1<=op/\op<=4)&&ts.all fun x=>x.q.isSome
def aLU(ai al ae:Addr)(op:Int)(ts:List r4):Tr ⊕ Addr:=
 if US op ts then(match ts.filterMap r4.q with
  |[]=> .inr ae
  |a::us=>if 1024<a.depth then .inr al else KX al (Kq op (a.restrict []) us)) else .inr ai
def aLS(ts:List r4):List DV:=ts.map fun x=>Zu x.q
structure r4.ok (x:r4):Prop where
 s: ∀n∈x.2,n.g.sm
 n:x.2.length<=65536
def RN.of(n:NQ):RN:=⟨⟨decide (n.l.a<0),dg n.l.a.natAbs,decide (n.l.b<0),dg n.l.b.natAbs,decide (n.l.c<0),dg n.l.c.natAbs⟩,n.a,n.b⟩
def aJa(ns:List NQ):ns.map eN=(ns.map RN.of).map RN.d:=by
 rw[qV];rfl
def Xm(t:Tr):eA t=xV (t.num 0) ((t.wr 0).map RN.of):=by
 unfold eA xV;rw[aJa];rfl
def ayh(a:Int):o6 (decide (a<0)) (dg a.natAbs)=a:=by
 unfold o6;rw[(ew _).1];split
 .rename_i h;have:=of_decide_eq_true h;omega
 .rename_i h;have: ¬a<0:=fun e=>h (decide_eq_true e);omega
def IJ(a:Int):me (decide (a<0)) (dg a.natAbs):=⟨(ew _).2.2,fun h=>xz.2 (by have:=of_decide_eq_true h;omega)⟩
def RN.of_l(n:NQ):(RN.of n).g.l=n.l:=by
 unfold RN.of RL.l;simp only[ayh]
def RN.of_ln{n:NQ}(h:n.l.ok):(RN.of n).g.ln=some n.l:=by
 unfold RL.ln;rw[if_pos ⟨⟨IJ _,IJ _,IJ _⟩,by rw[RN.of_l];exact h⟩,RN.of_l]
def RN.of_sm{n:NQ}(h:LB n.l):(RN.of n).g.sm:=by
 have key: ∀a:Int,a.natAbs<2^96->bi (dg a.natAbs)/\(dg a.natAbs).length<=3:=fun a ha=>⟨(ew _).2.1,by have:=lm ha;omega⟩;exact⟨key _ h.bl.a,key _ h.bl.b,key _ h.bl.c⟩
def CY(b:Bool)(k:Nat):so b≠(k:Int):=by cases b<;>(unfold so;simp)
def RR.det{ns:List RN}{rt:Int}{s s1:RS}{t1:Tr}(h:RR ns rt s t1 s1): ∀{s2:RS} {t2:Tr},RR ns rt s t2 s2->t1=t2/\s1=s2:=by
 induction h with
 |leaf b s=>
  intro s2 t2 h;generalize hr:so b=r at h
  cases h with
  |leaf b' s=>
   have:b=b':=by cases b<;>cases b'<;>first|rfl|(simp[so] at hr)
   subst this;exact⟨J,J⟩
  |bad rt s h1 h2 h=>cases b<;>simp[so] at hr<;>omega
  |line k=>exact absurd hr (CY _ _)
  |node k=>exact absurd hr (CY _ _)
 |bad rt s h1 h2 h=>
  intro s2 t2 h'
  cases h' with
  |leaf b s=>cases b<;>simp[so] at h1 h2
  |bad=>exact⟨J,J⟩
  |line k n s hn hf=>
   have:=(aY.1 hn).1;rcases h with h|h|⟨j,e,_,hj⟩
   .omega
   .omega
   .have:j=k:=by omega
    subst this;rw[hf] at hj;cases hj
  |node k n l s s2 s3 x y hn hf=>
   have:=(aY.1 hn).1;rcases h with h|h|⟨j,e,_,hj⟩
   .omega
   .omega
   .have:j=k:=by omega
    subst this;rw[hf] at hj;cases hj
 |line k n s hn hf hl=>
  intro s2 t2 h';generalize hr:(k:Int)=r at h'
  cases h' with
  |leaf b s=>exact absurd hr.symm (CY _ _)
  |bad rt s h1 h2 h=>
   have:=(aY.1 hn).1;rcases h with h|h|⟨j,e,_,hj⟩
   .omega
   .omega
   .have:j=k:=by omega
    subst this;rw[hf] at hj;cases hj
  |line k' n' s hn' hf' hl'=>
   have:k=k':=by omega
   subst this;exact⟨J,J⟩
  |node k' n' l s s2 s3 x y hn' hf' hl'=>
   have:k=k':=by omega
   subst this;rw[hn] at hn';cases hn';rw[hl] at hl';cases hl'
 |node k n l s s2 s3 x y hn hf hl h1 h2 i1 i2=>
  intro s4 t4 h';generalize hr:(k:Int)=r at h'
  cases h' with
  |leaf b s=>exact absurd hr.symm (CY _ _)
  |bad rt s h1 h2 h=>
   have:=(aY.1 hn).1;rcases h with h|h|⟨j,e,_,hj⟩
   .omega
   .omega
   .have:j=k:=by omega
    subst this;rw[hf] at hj;cases hj
  |line k' n' s hn' hf' hl'=>
   have:k=k':=by omega
   subst this;rw[hn] at hn';cases hn';rw[hl] at hl';cases hl'
  |node k' n' l' s s2' s3' x' y' hn' hf' hl' h1' h2'=>
   have:k=k':=by omega
   subst this;rw[hn] at hn';cases hn';rw[hl] at hl';cases hl';obtain⟨rfl,rfl⟩:=i1 h1';obtain⟨rfl,rfl⟩:=i2 h2';exact⟨J,J⟩
def pp(ns:List NQ):Tr->Int->List Nat->Prop
 | .leaf b,rt,L=>rt=so b/\L=[]
 | .node l x y,rt,L=> ∃(k:Nat) (a b:Int) (L1 L2:List Nat),rt=(k:Int)/\ns[k]? =some ⟨l,a,b⟩/\pp ns x a L1/\pp ns y b L2/\L=k::(L1++L2)
def pp.rr{ns:List NQ}: ∀{t:Tr} {rt:Int} {L:List Nat} {s:RS},pp ns t rt L->t.all ab.ok->L.Nodup->(∀j∈L,s.f j=false)-> ∃f,RR (ns.map RN.of) rt s t ⟨f,s.c+t.size,s.b⟩/\ ∀j,j∉L->f j=s.f j
 | .leaf b,rt,L,s,⟨e,e2⟩,_,_,_=>by
  subst e e2;exact⟨s.f, .leaf b s,fun _ _=>J⟩
 | .node l x y,rt,L,s,⟨k,a,b,L1,L2,e,hk,hx,hy,e2⟩,⟨h0,h1,h2⟩,hnd,hf=>by
  subst e e2;obtain⟨hkn,hnd⟩:=List.nodup_cons.1 hnd;obtain⟨hd1,hd2,hdis⟩:=List.nodup_append.1 hnd;have hfk:=hf k aZ;have hn1: ∀j∈L1,j≠k:=fun j hj e=>hkn (e▸bM _ hj);have hn2: ∀j∈L2,j≠k:=fun j hj e=>hkn (e▸cW _ hj);obtain⟨f1,r1,g1⟩:=pp.rr (s:=⟨lx s.f k,s.c+1,s.b⟩) hx h1 hd1 (fun j hj=>by simp only;rw[y8 (hn1 j hj)];exact hf j (aK _ (bM _ hj)));simp only at r1 g1;obtain⟨f2,r2,g2⟩:=pp.rr (s:=⟨f1,s.c+1+x.size,s.b⟩) hy h2 hd2 (fun j hj=>by
   simp only;rw[g1 j (fun h=>hdis _ h _ hj J),y8 (hn2 j hj)];exact hf j (aK _ (cW _ hj)))
  simp only at r2 g2;have hc:s.c+(Tr.node l x y).size=s.c+1+x.size+y.size:=by simp only[Tr.size];omega
  rw[hc];refine⟨f2, .node k (RN.of ⟨l,a,b⟩) l s _ _ x y (by rw[cK,hk];rfl) hfk (RN.of_ln h0) r1 r2,fun j hj=>?_⟩;simp only[aT,bK,not_or] at hj;rw[g2 j hj.2.2,g1 j hj.2.1,y8 hj.1]
def pp.len{ns:List NQ}: ∀{t:Tr} {rt:Int} {L:List Nat},pp ns t rt L->L.length=t.size
 | .leaf _,_,_,⟨_,h⟩=>by rw[h];rfl
 | .node l x y,_,_,⟨k,a,b,L1,L2,_,_,h1,h2,h⟩=>by
  rw[h,bJ,aW,pp.len h1,pp.len h2];simp only[Tr.size];omega
def U'(ns:List NQ)(t:Tr)(rt:Int):Prop:= ∃L,pp ns t rt L/\L.Nodup/\L.length=ns.length
def Vt{ns:List NQ}{t:Tr}{rt:Int}(h:U' ns t rt)(ho:t.all ab.ok):xv (ns.map RN.of) rt=some t:=by
 obtain⟨L,h1,h2,h3⟩:=h;obtain⟨f,r,_⟩:=h1.rr (s:=sP) ho h2 (fun _ _=>rfl);have hr:=Dm (ns:=ns.map RN.of) (m:=(ns.map RN.of).length+1) (rt:=rt) (s:=sP) (by have:=HH (ns.map RN.of).length sP.f;omega);obtain⟨e1,e2⟩:=hr.1.det r;unfold xv;simp only;rw[e2,e1,if_pos ⟨J,by show sP.c+t.size=_;rw[aJ,<-h3,h1.len];show 0+_=_;omega⟩]
def JS{ns:List NQ}: ∀{t:Tr} {n:Nat},(∀i,i<t.size->ns[n+i]? =(t.wr n)[i]?)->pp ns t (t.num n) (List.range' n t.size)
 | .leaf b,n,_=>⟨J,J⟩
 | .node l x y,n,h=>by
  have hsz:(Tr.node l x y).size=1+x.size+y.size:=J;have hw:(Tr.node l x y).wr n=⟨l,x.num (n+1),y.num (n+1+x.size)⟩::(x.wr (n+1)++y.wr (n+1+x.size)):=by simp[Tr.wr]
  have hx:=x.wr_len (n+1);have hy:=y.wr_len (n+1+x.size);refine⟨n,x.num (n+1),y.num (n+1+x.size),List.range' (n+1) x.size,List.range' (n+1+x.size) y.size,J,?_,JS fun i hi=>?_,JS fun i hi=>?_,?_⟩
  .have:=h 0 (by omega)
   rw[hw,fX] at this;rw[this];rfl
  .have:=h (1+i) (by omega)
   rw[hw,kJ 1 i,List.getElem?_cons_succ,cN (by omega)] at this;rw[show n+1+i=n+(i+1) by omega];exact this
  .have:=h (1+x.size+i) (by omega)
   rw[hw,show 1+x.size+i=(x.size+i)+1 by omega,List.getElem?_cons_succ,gQ (by omega),hx,Nat.add_sub_cancel_left] at this;rw[show n+1+x.size+i=n+(x.size+i+1) by omega];exact this
  .rw[hsz,show 1+x.size+y.size=(x.size+y.size)+1 by omega,List.range'_succ,List.range'_append_1]
def VS{t:Tr}(ho:t.all ab.ok):xv ((t.wr 0).map RN.of) (t.num 0)=some t:=
 Vt ⟨_,JS (n:=0) (fun i _=>by rw[eK]),List.nodup_range',by rw[List.length_range',t.wr_len]⟩ ho
def T4{t:Tr}(hb:t.all LB): ∀n∈(t.wr 0).map RN.of,n.g.sm:=fun n hn=>by
 obtain⟨m,hm,rfl⟩:=bQ.1 hn;exact RN.of_sm (Tr.all_wr 0 hb m hm)
def Td{a i:Nat}[ha:BN a i](hi:i<=400000000:=by decide):PF GB prog 51 [dN a] (dN a):=by
 have hl:=fp (dg a);have hb:=lm ha.h;refine fn func51 J J ntmps51 J J (fun C=>?_);refine r7 J J<|ap ((dg a).map dU) J J (uD _) J<|?_;refine gI 5 J ?_;exact rz J J
def DD{z:Int}{i:Nat}[hz:BI z i](hi:i<=400000000:=by decide):PF GB prog 50 [eI z] (eI z):=by
 refine fn func50 J J ntmps50 J J (fun C=>?_);refine cl J (Td (a:=z.natAbs) (i:=i) (ha:=⟨hz.h⟩) hi) J<|?_;exact rz J J
def ZY{l:ab}(hl:BL l 96):PF GB prog 40 [eL l] (eL l):=by
 haveI h1:BI l.a 96:=⟨hl.a⟩;haveI h2:BI l.b 96:=⟨hl.b⟩;haveI h3:BI l.c 96:=⟨hl.c⟩;refine fn func40 J J ntmps40 J J (fun C=>?_);refine cl J (DD (z:=l.a)) J<|cl J (DD (z:=l.b)) J<|cl J (DD (z:=l.c)) J<|?_;exact rz J J
def QQ{ds:List Nat}(hd:bi ds)(hn:ds.length<=1000000):PF GB prog 251 [fC ds] (dN (dv ds)):=by
 have hm:=fp ds;refine fn func251 J J ntmps251 J J (fun C=>?_);refine r7 J J<|ap (ds.map dU) J J (uD _) J<|fz 5 J J<|cl J (rE (ds:=ds)) J<|?_;exact rz J (by unfold dN;rw[qc hd];rfl)
def ZQ{neg:Bool}{ds:List Nat}(hd:bi ds)(hn:ds.length<=1000000):PF GB prog 252 [.ag [.v (.bool neg),fC ds]] (eI (o6 neg ds)):=by
 refine fn func252 J J ntmps252 J J (fun C=>?_);refine cl J (QQ hd hn) J<|cl J kC J<|?_;exact rz J J
def rlD(r:RL):DV:= .tp [if r.nm then eL r.l else .ag [.v (.bool false), .sl [], .v (.bool false), .sl [], .v (.bool false), .sl []],vB (decide (r.nm/\r.l.ok))]
def smB(n:Int)(ls:List (List Nat)):Bool:=ls.all fun d=>decide ((d.length:Int)<=n)
def RL.smB(n:Int)(r:RL):Bool:=Sx.smB n [r.da,r.db,r.dc]
def rlB(n:Int)(ls:List RL):Bool:=ls.all fun r=>r.smB n
def aLm(cs:List RL):Option (List ab):=if cs.all (fun r=>r.ln.isSome) then some (cs.filterMap RL.ln) else none
def aLo:Option (List ab)->DV
 |some ls=> .tp [.sl (ls.map fA),vB true]
 |none=> .tp [.sl [],vB false]
def aLK:Option az->DV
 |some c=> .tp [.sl (c.map eG),vB true]
 |none=> .tp [.sl [],vB false]
def iq.nil:iq []:=fun s hs=>by cases hs
def aKF(ai al:Addr)(more:Nat):Option Tr->DV
 |none=> .tp [.v (.pointer none),By ai]
 |some t=>if 1024<t.depth+more then .tp [.v (.pointer none),By al] else .tp [eU t, .v .nilIface]
def aLq(ai:Addr)(f:Tr->Tr):Option Tr->Tr ⊕ Addr
 |some t=> .inl (f t)
 |none=> .inr ai
def aKL(ai ae:Addr):Option Tr->Option (List ab)->Tr ⊕ Addr
 |some t,some ls=>(match qP ls [] with
  |some c=> .inl (t.restrict c)
  |none=> .inr ae)
 |_,_=> .inr ai
def aLE(ai:Addr):Option ab->Option Tr->DV
 |some m,some t=> .tp [eA (t.restrict (b8 [] m)),eA (t.restrict (b8 [] m.rev)), .v .nilIface]
 |_,_=> .tp [Ja,Ja,By ai]

def Tr.val:Tr->aa->Bool
 | .leaf b,_=>b
 | .node l x y,p=>if 0<l.value p then x.val p else y.val p
def Tr.lns:Tr->List ab
 | .leaf _=>[]
 | .node l x y=>l::(x.lns++y.lns)
def r6{P:ab->Prop}: ∀{t:Tr},t.all P↔ ∀l∈t.lns,P l
 | .leaf _=>⟨fun _ l hl=>(by cases hl),fun _=>trivial⟩
 | .node l x y=>by
  show(P l/\x.all P/\y.all P)↔ ∀m∈l::(x.lns++y.lns),P m;rw[r6 (t:=x),r6 (t:=y)];constructor
  .rintro ⟨h0,h1,h2⟩ m hm
   rcases aT.1 hm with rfl|hm
   .exact h0
   .rcases bK.1 hm with hm|hm
    .exact h1 m hm
    .exact h2 m hm
  .intro h
   exact⟨h l aZ,fun m hm=>h m (aK _ (bM _ hm)),fun m hm=>h m (aK _ (cW _ hm))⟩
def pg{t:Tr}(h:t.all ab.ok): ∀l∈t.lns,l.ok:=r6.1 h
def fk(L:List ab)(p:aa):Prop:= ∀l∈L,l.value p≠0
def fk.sub{L M:List ab}{p:aa}(h:fk L p)(k: ∀l∈M,l∈L):fk M p:=fun l hl=>h l (k l hl)
def fk.l{l:ab}{x y:Tr}{p:aa}(h:fk (Tr.node l x y).lns p):l.value p≠0:=h l aZ
def fk.x{l:ab}{x y:Tr}{p:aa}(h:fk (Tr.node l x y).lns p):fk x.lns p:=h.sub fun m hm=>aK _ (bM _ hm)
def fk.y{l:ab}{x y:Tr}{p:aa}(h:fk (Tr.node l x y).lns p):fk y.lns p:=h.sub fun m hm=>aK _ (cW _ hm)
def fk.app{L M:List ab}{p:aa}:fk (L++M) p↔fk L p/\fk M p:=by
 unfold fk;constructor
 .intro h;exact⟨fun l hl=>h l (bM _ hl),fun l hl=>h l (cW _ hl)⟩
 .rintro ⟨h1,h2⟩ l hl;rcases bK.1 hl with h|h;exact h1 l h;exact h2 l h
def Aj(op:Int)(a b:Bool):Bool:=if op=1 then a||b else if op=2 then a&&b else if op=3 then a&&!b else a !=b
def Tr.val_join(l:ab)(X Y:Tr)(p:aa):(Tr.joinQ l X Y).val p=(Tr.node l X Y).val p:=by
 unfold Tr.joinQ;split
 .rename_i h
  cases X<;>cases Y<;>simp[Tr.isLeaf,Tr.code] at h
  subst h;simp[Tr.val]
 .rfl
def Tr.val_pos{l:ab}{x y:Tr}{p:aa}(h:0<l.value p):(Tr.node l x y).val p=x.val p:=by rw[Tr.val,if_pos h]
def Tr.val_neg{l:ab}{x y:Tr}{p:aa}(h: ¬0<l.value p):(Tr.node l x y).val p=y.val p:=by rw[Tr.val,if_neg h]
def Tr.val_compl: ∀(t:Tr) (p:aa),t.compl.val p=!t.val p
 | .leaf b,p=>rfl
 | .node l x y,p=>by
  rw[Tr.compl];by_cases h:0<l.value p
  .rw[Tr.val_pos h,Tr.val_pos h,x.val_compl]
  .rw[Tr.val_neg h,Tr.val_neg h,y.val_compl]
def Qi{c:az}{l:ab}(hc:bO c)(hl:l.ok)(hb:di c l.rev=false){p:aa}(hp:bm c p)(h0:l.value p≠0):0<l.value p:=by
 by_cases h:0<l.value p
 .exact h
 .exfalso
  have:di c l.rev=true:=(sF hc hl.rev).2 ⟨p,hp,by rw[fq];grind⟩;rw[hb] at this;cases this
def LQ{c:az}{l:ab}(hc:bO c)(hl:l.ok)(hb:di c l=false){p:aa}(hp:bm c p): ¬0<l.value p:=fun h=>by
 have:di c l=true:=(sF hc hl).2 ⟨p,hp,h⟩;rw[hb] at this;cases this
def Tr.val_restrict: ∀(t:Tr) (c:az) (p:aa),t.all ab.ok->bO c->bm c p->fk t.lns p->(t.restrict c).val p=t.val p
 | .leaf _,_,_,_,_,_,_=>rfl
 | .node l x y,c,p,⟨hl,hx,hy⟩,hc,hp,ho=>by
  cases hb:di c l.rev with
  |false=>rw[Tr.restrict_A _ _ hb,x.val_restrict c p hx hc hp ho.x,Tr.val_pos (Qi hc hl hb hp ho.l)]
  |true=>
   cases hb2:di c l with
   |false=>rw[Tr.restrict_B _ _ hb hb2,y.val_restrict c p hy hc hp ho.y,Tr.val_neg (LQ hc hl hb2 hp)]
   |true=>
    rw[Tr.restrict_C _ _ hb hb2,Tr.val_join];obtain⟨g1,i1⟩:=jA hc hl hb2;obtain⟨g2,i2⟩:=jA hc hl.rev hb;by_cases h:0<l.value p
    .rw[Tr.val_pos h,Tr.val_pos h,x.val_restrict _ p hx g1 ((i1 p).2 ⟨hp,h⟩) ho.x]
    .rw[Tr.val_neg h,Tr.val_neg h,y.val_restrict _ p hy g2 ((i2 p).2 ⟨hp,by rw[fq];have:=ho.l;grind⟩) ho.y]
def Tr.val_choose(op:Int)(b:Bool)(t:Tr)(c:az)(p:aa)(ht:t.all ab.ok)(hc:bO c)(hp:bm c p)(ho:fk t.lns p):(t.chooseQ op b c).val p=Aj op b (t.val p):=by
 have hr:=t.val_restrict c p ht hc hp ho;unfold Tr.chooseQ Aj;by_cases h1:op=1
 .subst h1;cases b<;>simp[hr,Tr.val]
 .by_cases h2:op=2
  .subst h2;cases b<;>simp[hr,Tr.val]
  .by_cases h3:op=3
   .subst h3;cases b<;>simp[hr,Tr.val,Tr.val_compl]
   .cases b<;>simp[h1,h2,h3,hr,Tr.val_compl]
def Tr.val_merge(op:Int)(u:Tr)(hu:u.all ab.ok): ∀(t:Tr) (c:az) (p:aa),t.all ab.ok->bO c->bm c p->fk t.lns p->fk u.lns p->(t.mergeQ op u c).val p=Aj op (t.val p) (u.val p)
 | .leaf b,c,p,_,hc,hp,_,ho=>u.val_choose op b c p hu hc hp ho
 | .node l x y,c,p,⟨hl,hx,hy⟩,hc,hp,ho,hou=>by
  rw[Tr.mergeQ]
  cases hb:di c l.rev with
  |false=>
   rw[if_pos (show(!false)=true from J),Tr.val_merge op u hu x c p hx hc hp ho.x hou,Tr.val_pos (Qi hc hl hb hp ho.l)]
  |true=>
   rw[if_neg (by decide)]
   cases hb2:di c l with
   |false=>rw[if_pos (show(!false)=true from J),Tr.val_merge op u hu y c p hy hc hp ho.y hou,Tr.val_neg (LQ hc hl hb2 hp)]
   |true=>
    rw[if_neg (by decide),Tr.val_join];obtain⟨g1,i1⟩:=jA hc hl hb2;obtain⟨g2,i2⟩:=jA hc hl.rev hb;by_cases h:0<l.value p
    .rw[Tr.val_pos h,Tr.val_pos h,Tr.val_merge op u hu x _ p hx g1 ((i1 p).2 ⟨hp,h⟩) ho.x hou]
    .rw[Tr.val_neg h,Tr.val_neg h,Tr.val_merge op u hu y _ p hy g2 ((i2 p).2 ⟨hp,by rw[fq];have:=ho.l;grind⟩) ho.y hou]
def OE: ∀(L:List ab) (u:aa) (p:aa),fk L p-> ∃e:Rat,0<e/\ ∀d,0<=d->d<=e->fk L (bP p u d)
 |[],u,p,_=>⟨1,by decide,fun d _ _ l hl=>by cases hl⟩
 |l::L,u,p,h=>by
  obtain⟨e,he,hm⟩:=OE L u p (h.sub fun m hm=>aK _ hm);have h0:=h l aZ;have key: ∃f:Rat,0<f/\ ∀d,0<=d->d<=f->l.value (bP p u d)≠0:=by
   by_cases hk:l.nor.dot u=0
   .exact⟨1,by decide,fun d _ _=>by rw[gH,hk];grind⟩
   .generalize hA:l.value p=A at*
    generalize hB:l.nor.dot u=B at*;rcases ge A with h|h|h
    .exact absurd h h0
    .rcases ge B with k|k|k
     .exact absurd k hk
     .exact⟨1,by decide,fun d hd _=>by rw[gH,hA,hB];have:=cO hd (dQ k);grind⟩
     .refine⟨A/(-B)/2,?_,fun d hd h2=>?_⟩
      .have:0<A/(-B):=by
        have e1:A/(-B)*(-B)=A:=by grind
        exact(gv (k:= -B) (by grind)).1 (by rw[e1];exact h)
       grind
      .rw[gH,hA,hB]
       have e1:A/(-B)*(-B)=A:=by grind
       generalize A/(-B)=q at*;have h4:=cO (a:=q/2-d) (b:= -B) (by grind) (by grind);grind
    .rcases ge B with k|k|k
     .exact absurd k hk
     .refine⟨(-A)/B/2,?_,fun d hd h2=>?_⟩
      .have:0<(-A)/B:=by
        have e1:(-A)/B*B= -A:=by grind
        exact(gv (k:=B) k).1 (by rw[e1];grind)
       grind
      .rw[gH,hA,hB]
       have e1:(-A)/B*B= -A:=by grind
       generalize (-A)/B=q at*;have h4:=cO (a:=q/2-d) (b:=B) (by grind) (by grind);grind
     .exact⟨1,by decide,fun d hd _=>by rw[gH,hA,hB];have:=cO hd (b:= -B) (by grind);grind⟩
  obtain⟨f,hf,hk⟩:=key;refine⟨if e<=f then e else f,by split<;>assumption,fun d hd hde m hm'=>?_⟩;have h1:d<=e/\d<=f:=by split at hde<;>grind
  rcases aT.1 hm' with rfl|hm'
  .exact hk d hd h1.2
  .exact hm d hd h1.1 m hm'
def Jl{c:az}{p:aa}(hp:bm c p): ∀(L:List ab),(∀l∈L,l.ok)-> ∃q,bm c q/\fk L q
 |[],_=>⟨p,hp,fun l hl=>by cases hl⟩
 |l::L,h=>by
  obtain⟨q,hq,ho⟩:=Jl hp L fun m hm=>h m (aK _ hm);by_cases h0:l.value q=0
  .have hn:=sG (h l aZ).ne
   obtain⟨e,he,hm⟩:=hq.open l.nor;obtain⟨f,hf,hk⟩:=OE L l.nor q ho;refine⟨bP q l.nor (if e<=f then e else f),hm _ (by split<;>grind) (by split<;>grind),fun m hm'=>?_⟩;rcases aT.1 hm' with rfl|hm'
   .rw[gH,h0]
    have:=bH (a:=if e<=f then e else f) (b:=m.nor.dot m.nor) (by split<;>assumption) hn;grind
   .exact hk _ (by split<;>grind) (by split<;>grind) m hm'
  .exact⟨q,hq,fun m hm=>by rcases aT.1 hm with rfl|hm;exact h0;exact ho m hm⟩
def Ql{c:az}(hc:bO c)(L:List ab)(h: ∀l∈L,l.ok): ∃q,bm c q/\fk L q:=by
 obtain⟨p,hp⟩:=hc.ne;exact Jl hp L h
def Tr.Red:Tr->az->Prop
 | .leaf _,_=>True
 | .node l x y,c=>di c l=true/\di c l.rev=true/\x.Red (b8 c l)/\y.Red (b8 c l.rev)/\ ¬(x.isLeaf=true/\y.isLeaf=true/\x.code=y.code)
def Tr.red_leaf{t:Tr}(h:t.isLeaf=true)(c:az):t.Red c:=by
 cases t with
 |leaf b=>trivial
 |node l x y=>cases h
def Tr.join_red{l:ab}{x y:Tr}{c:az}(h1:di c l=true)(h2:di c l.rev=true)(hx:x.Red (b8 c l))(hy:y.Red (b8 c l.rev)):(Tr.joinQ l x y).Red c:=by
 rcases Tr.joinQ_cases l x y with⟨e,h⟩|⟨e,h⟩
 .rw[e];exact Tr.red_leaf h c
 .rw[e];exact⟨h1,h2,hx,hy,h⟩
def Tr.restrict_red: ∀(t:Tr) (c:az),(t.restrict c).Red c
 | .leaf _,_=>trivial
 | .node l x y,c=>by
  cases hb:di c l.rev with
  |false=>rw[Tr.restrict_A _ _ hb];exact x.restrict_red c
  |true=>
   cases hb2:di c l with
   |false=>rw[Tr.restrict_B _ _ hb hb2];exact y.restrict_red c
   |true=>rw[Tr.restrict_C _ _ hb hb2];exact Tr.join_red hb2 hb (x.restrict_red _) (y.restrict_red _)
def Tr.compl_leaf{t:Tr}:t.compl.isLeaf=t.isLeaf:=by cases t<;>rfl
def Tr.compl_code{t:Tr}(h:t.isLeaf=true):t.compl.code=!t.code:=by
 cases t with
 |leaf b=>rfl
 |node l x y=>cases h
def Tr.compl_red: ∀{t:Tr} {c:az},t.Red c->t.compl.Red c
 | .leaf _,_,_=>trivial
 | .node l x y,c,⟨h1,h2,h3,h4,h5⟩=>by
  refine⟨h1,h2,Tr.compl_red h3,Tr.compl_red h4,fun⟨a,b,e⟩=>?_⟩;rw[Tr.compl_leaf] at a b;rw[Tr.compl_code a,Tr.compl_code b] at e;exact h5 ⟨a,b,by simpa using e⟩
def Tr.choose_red(op:Int)(b:Bool)(t:Tr)(c:az):(t.chooseQ op b c).Red c:=by
 have h:=t.restrict_red c;unfold Tr.chooseQ;split
 .split
  .trivial
  .exact h
 .split
  .trivial
  .split
   .exact Tr.compl_red h
   .exact h
def Tr.merge_red(op:Int)(u:Tr): ∀(t:Tr) (c:az),(t.mergeQ op u c).Red c
 | .leaf b,c=>u.choose_red op b c
 | .node l x y,c=>by
  rw[Tr.mergeQ]
  cases hb:di c l.rev with
  |false=>rw[if_pos (show(!false)=true from J)];exact Tr.merge_red op u x c
  |true=>
   rw[if_neg (by decide)]
   cases hb2:di c l with
   |false=>rw[if_pos (show(!false)=true from J)];exact Tr.merge_red op u y c
   |true=>rw[if_neg (by decide)];exact Tr.join_red hb2 hb (Tr.merge_red op u x _) (Tr.merge_red op u y _)
def Tr.red_restrict: ∀{t:Tr} {c:az},t.Red c->t.restrict c=t
 | .leaf _,_,_=>rfl
 | .node l x y,c,⟨h1,h2,h3,h4,h5⟩=>by
  rw[Tr.restrict_C _ _ h2 h1,Tr.red_restrict h3,Tr.red_restrict h4];rcases Tr.joinQ_cases l x y with⟨e,h⟩|⟨e,h⟩
  .exfalso
   unfold Tr.joinQ at e;split at e
   .rename_i k;simp at k;exact h5 k
   .cases x with
    |leaf b=>cases e
    |node a b d=>cases h
  .exact e
def ab.same(l m:ab):Prop:=m=l\/m=l.rev
instance (l m:ab):Decidable (l.same m):=inferInstanceAs (Decidable (_\/_))
def Tr.cnt(l:ab):Tr->Nat
 | .leaf _=>0
 | .node m x y=>(if l.same m then 1 else 0)+(x.cnt l+y.cnt l)
def DB{l m:ab}(h:l.same m){p:aa}(hp:l.value p=0):m.value p=0:=by
 rcases h with rfl|rfl
 .exact hp
 .rw[fq,hp];rfl
def GS(l:ab)(c:az):Prop:= ∃p,bm c p/\l.value p=0
def Tr.cnt_zero{l:ab}: ∀{t:Tr} {c:az},t.Red c->t.all ab.ok->bO c-> ¬GS l c->t.cnt l=0
 | .leaf _,_,_,_,_,_=>rfl
 | .node m x y,c,⟨h1,h2,h3,h4,_⟩,⟨hm,hx,hy⟩,hc,hn=>by
  obtain⟨g1,i1⟩:=jA hc hm h1;obtain⟨g2,i2⟩:=jA hc hm.rev h2;have e1:=Tr.cnt_zero (l:=l) h3 hx g1 (fun⟨p,hp,h0⟩=>hn ⟨p,((i1 p).1 hp).1,h0⟩);have e2:=Tr.cnt_zero (l:=l) h4 hy g2 (fun⟨p,hp,h0⟩=>hn ⟨p,((i2 p).1 hp).1,h0⟩);rw[Tr.cnt,e1,e2];by_cases hs:l.same m
  .exfalso
   -- m crosses the cell
   obtain⟨p,hp,k1⟩:=(sF hc hm).1 h1;obtain⟨q,hq,k2⟩:=(sF hc hm.rev).1 h2;rw[fq] at k2;generalize hA:m.value p=A at*;generalize hB:m.value q=B at*;have hAB:0<A-B:=by grind
   have e:A/(A-B)*(A-B)=A:=by grind
   generalize A/(A-B)=r at*;have r0:0<=r:=(kg hAB).1 (by rw[e];exact dQ k1);have r1:r<=1:=by
    have:=(kg (s:=1-r) hAB).1 (by grind);grind
   have hz:=hp.seg hq r0 r1;have hv:m.value (bj p q r)=0:=by rw[oe,hA,hB];grind
   refine hn ⟨_,hz,?_⟩;rcases hs with rfl|rfl
   .exact hv
   .rw[fq] at hv;grind
  .rw[if_neg hs]
def rO(c:az)(p:aa):Bool:=c.all fun s=>decide (0<s.l.value p)
def t6{c:az}{p:aa}:rO c p=true↔bm c p:=by
 unfold rO bm;rw[dK];simp
def KM(P:List aa)(l:ab)(t:Tr):Prop:=t.all fun m=>l.same m\/ ∀p,l.value p=0->m.value p=0->p∈P
def E6{α:Type}{p q r:α->Bool}: ∀(P:List α),(∀x∈P,q x=true->p x=true)->(∀x∈P,r x=true->p x=true)->(∀x∈P,¬(q x=true/\r x=true))->P.countP q+P.countP r<=P.countP p
 |[],_,_,_=>aM _
 |x::P,h1,h2,h3=>by
  have ih:=E6 (p:=p) (q:=q) (r:=r) P (fun y hy=>h1 y (aK _ hy)) (fun y hy=>h2 y (aK _ hy)) (fun y hy=>h3 y (aK _ hy));have a:=h1 x aZ;have b:=h2 x aZ;have c:=h3 x aZ;rw[pV,pV,pV]
  cases hq:q x<;>cases hr:r x<;>simp_all<;>omega
def P2{α:Type}{p q r:α->Bool}: ∀(P:List α),(∀x∈P,q x=true->p x=true)->(∀x∈P,r x=true->p x=true)->(∀x∈P,¬(q x=true/\r x=true))->(∃x∈P,p x=true/\q x=false/\r x=false)->P.countP q+P.countP r+1<=P.countP p
 |[],_,_,_,⟨x,hx,_⟩=>by cases hx
 |x::P,h1,h2,h3,h4=>by
  have i2:=E6 (p:=p) (q:=q) (r:=r) P (fun y hy=>h1 y (aK _ hy)) (fun y hy=>h2 y (aK _ hy)) (fun y hy=>h3 y (aK _ hy));have a:=h1 x aZ;have b:=h2 x aZ;have c:=h3 x aZ;rw[pV,pV,pV];obtain⟨z,hz,k1,k2,k3⟩:=h4;rcases aT.1 hz with rfl|hz
  .simp only[k1,k2,k3];simp;omega
  .have ih:=P2 (p:=p) (q:=q) (r:=r) P (fun y hy=>h1 y (aK _ hy)) (fun y hy=>h2 y (aK _ hy)) (fun y hy=>h3 y (aK _ hy)) ⟨z,hz,k1,k2,k3⟩
   cases hq:q x<;>cases hr:r x<;>simp_all<;>omega
def Tr.cnt_le{l:ab}(hl:l.ok){P:List aa}: ∀{t:Tr} {c:az},t.Red c->t.all ab.ok->bO c->KM P l t->t.cnt l<=1+P.countP (rO c)
 | .leaf _,_,_,_,_,_=>aN _
 | .node m x y,c,⟨h1,h2,h3,h4,_⟩,⟨hm,hx,hy⟩,hc,⟨v0,v1,v2⟩=>by
  obtain⟨g1,i1⟩:=jA hc hm h1;obtain⟨g2,i2⟩:=jA hc hm.rev h2;have q1: ∀p∈P,rO (b8 c m) p=true->rO c p=true:=fun p _ h=>t6.2 ((i1 p).1 (t6.1 h)).1;have q2: ∀p∈P,rO (b8 c m.rev) p=true->rO c p=true:=fun p _ h=>t6.2 ((i2 p).1 (t6.1 h)).1;have q3: ∀p∈P,¬(rO (b8 c m) p=true/\rO (b8 c m.rev) p=true):=fun p _ ⟨a,b⟩=>by
   have a:=((i1 p).1 (t6.1 a)).2;have b:=((i2 p).1 (t6.1 b)).2;rw[fq] at b;grind
  have ct:=E6 P q1 q2 q3;rw[Tr.cnt];by_cases hs:l.same m
  .have e1:=Tr.cnt_zero (l:=l) h3 hx g1 (fun⟨p,hp,h0⟩=>by have:=((i1 p).1 hp).2;rw[DB hs h0] at this;grind)
   have e2:=Tr.cnt_zero (l:=l) h4 hy g2 (fun⟨p,hp,h0⟩=>by have:=((i2 p).1 hp).2;rw[fq,DB hs h0] at this;grind);rw[e1,e2,if_pos hs];omega
  .rw[if_neg hs]
   have b1:=Tr.cnt_le hl h3 hx g1 v1;have b2:=Tr.cnt_le hl h4 hy g2 v2;by_cases w1:GS l (b8 c m)
   .by_cases w2:GS l (b8 c m.rev)
    .-- the crossing tu in the cell
     obtain⟨p,hp,k1⟩:=w1;obtain⟨q,hq,k2⟩:=w2;obtain⟨hp,ap⟩:=(i1 p).1 hp;obtain⟨hq,aq⟩:=(i2 q).1 hq;rw[fq] at aq;generalize hA:m.value p=A at*;generalize hB:m.value q=B at*;have hAB:0<A-B:=by grind
     have e:A/(A-B)*(A-B)=A:=by grind
     generalize A/(A-B)=r at*;have r0:0<=r:=(kg hAB).1 (by rw[e];exact dQ ap);have r1:r<=1:=by
      have:=(kg (s:=1-r) hAB).1 (by grind);grind
     have hz:=hp.seg hq r0 r1;have hv:m.value (bj p q r)=0:=by rw[oe,hA,hB];grind
     have hv2:l.value (bj p q r)=0:=by rw[oe,k1,k2];grind
     have hmem:bj p q r∈P:=by
      rcases v0 with h|h
      .exact absurd h hs
      .exact h _ hv2 hv
     have c3:=P2 P q1 q2 q3 ⟨_,hmem,t6.2 hz,by
      rw[<-mJ,t6,i1];rintro ⟨_,h⟩;rw[hv] at h;grind,by
      rw[<-mJ,t6,i2];rintro ⟨_,h⟩;rw[fq,hv] at h;grind⟩
     omega
    .rw[Tr.cnt_zero h4 hy g2 w2];omega
   .rw[Tr.cnt_zero h3 hx g1 w1];omega
def Hp(l:ab):l.rev.rev=l:=by cases l;simp[ab.rev]
def ab.same.symm{l m:ab}(h:l.same m):m.same l:=by
 rcases h with rfl|rfl
 .exact .inl J
 .exact .inr (Hp l).symm
def ab.same.trans{l m n:ab}(h:l.same m)(k:m.same n):l.same n:=by
 rcases h with rfl|rfl
 .exact k
 .rcases k with rfl|rfl
  .exact .inr J
  .exact .inl (Hp l)
def lH(K:List ab)(t:Tr):Prop:=t.all fun n=> ∃m∈K,m.same n
def Ey(l m:ab):aa:=l.at (-(l.cutC m/l.cutK m))
def WX{l m:ab}(hl:l.ok)(hm:m.ok){p:aa}(h1:l.value p=0)(h2:m.value p=0):l.same m\/p=Ey l m:=by
 obtain⟨t,rfl⟩:=Bc hl.ne h1;rw[ke] at h2;by_cases hk:l.cutK m=0
 .left
  have hc:l.cutC m=0:=by rw[hk] at h2;grind
  rcases yg hm hl (fun s=>by rw[ke,hk,hc];grind) with h|h
  .exact .inl h
  .exact .inr h
 .right
  unfold Ey;congr 1;grind
def lH.covers{K:List ab}(hK: ∀m∈K,m.ok){l:ab}(hl:l.ok): ∀{t:Tr},lH K t->KM (K.map (Ey l)) l t
 | .leaf _,_=>trivial
 | .node n x y,⟨⟨m,hm,hs⟩,h1,h2⟩=>by
  refine⟨?_,lH.covers hK hl h1,lH.covers hK hl h2⟩;by_cases h:l.same n
  .exact .inl h
  .right
   intro p k1 k2;rcases WX hl (hK m hm) k1 (DB hs.symm k2) with h3|h3
   .exact absurd (h3.trans hs) h
   .rw[h3];exact fS hm
def Kc(t:Tr):List ab->Nat
 |[]=>0
 |l::K=>t.cnt l+Kc t K
def Ks(n:ab):List ab->Nat
 |[]=>0
 |l::K=>(if l.same n then 1 else 0)+Ks n K
def Kl{n:ab}{x y:Tr}: ∀K,Kc (.node n x y) K=Ks n K+(Kc x K+Kc y K)
 |[]=>rfl
 |l::K=>by
  have:=Kl (n:=n) (x:=x) (y:=y) K;show(Tr.node n x y).cnt l+Kc (.node n x y) K=_;rw[this,Tr.cnt];show _=(if l.same n then 1 else 0)+Ks n K+(x.cnt l+Kc x K+(y.cnt l+Kc y K));omega
def KF{n m:ab}(hs:m.same n): ∀{K:List ab},m∈K->1<=Ks n K
 |[],h=>by cases h
 |l::K,h=>by
  show 1<=(if l.same n then 1 else 0)+Ks n K;rcases aT.1 h with rfl|h
  .rw[if_pos hs];omega
  .have:=KF hs h;omega
def Gg{K:List ab}: ∀{t:Tr},lH K t->t.size<=Kc t K
 | .leaf _,_=>aN _
 | .node n x y,⟨⟨m,hm,hs⟩,h1,h2⟩=>by
  have a:=Gg h1;have b:=Gg h2;have c:=KF hs hm;rw[Kl,Tr.size];omega
def Qy{t:Tr}{B:Nat}: ∀{K:List ab},(∀l∈K,t.cnt l<=B)->Kc t K<=K.length*B
 |[],_=>aN _
 |l::K,h=>by
  have:=Qy (t:=t) (B:=B) (K:=K) fun m hm=>h m (aK _ hm);have:=h l aZ;show t.cnt l+Kc t K<=(K.length+1)*B;rw[iM];omega
def Tr.size_le{K:List ab}(hK: ∀m∈K,m.ok){t:Tr}{c:az}(hr:t.Red c)(ht:t.all ab.ok)(hc:bO c)(h:lH K t):t.size<=K.length*(1+K.length):=by
 refine cY (Gg h) (Qy fun l hl=>?_);refine cY (Tr.cnt_le (hK l hl) hr ht hc (h.covers hK (hK l hl))) ?_;have:=List.countP_le_length (p:=rO c) (l:=K.map (Ey l));rw[aJ] at this;omega
def lH.mono{K M:List ab}{t:Tr}(h:lH K t)(k: ∀l∈K,∃m∈M,m.same l):lH M t:=r6.2 fun l hl=>by
 obtain⟨m,hm,hs⟩:=r6.1 h l hl;obtain⟨n,hn,hs2⟩:=k m hm;exact⟨n,hn,hs2.trans hs⟩
def lH.restrict{K:List ab}{t:Tr}(h:lH K t)(c:az):lH K (t.restrict c):=t.restrict_all _ c h
def lH.merge{K:List ab}{op:Int}{t u:Tr}(h:lH K t)(hu:lH K u)(c:az):lH K (t.mergeQ op u c):=Tr.mergeQ_all _ op hu t c h
def Tr.chooseL(op:Int)(b:Bool)(t:Tr)(c:List ab):Tr:=
 if op=1/\b=true then .leaf true
 else if(op=2\/op=3)/\b=false then .leaf false
 else if(op=3\/op=4)/\b=true then(t.restrictL c).compl else t.restrictL c
def Tr.mergeL(op:Int):Tr->Tr->List ab->Tr
 | .leaf b,u,c=>u.chooseL op b c
 | .node l x y,u,c=>if og c l=1 then x.mergeL op u c else if og c l= -1 then y.mergeL op u c else joinQ l (x.mergeL op u (fj (c++[l]))) (y.mergeL op u (fj (c++[l.rev])))
def Tr.chooseL_eq{op:Int}(ho:1<=op/\op<=4)(b:Bool)(t:Tr)(c:List ab)(d:az)(ht:t.all ab.ok)(hc: ∀l∈c,l.ok)(hd:bO d)(he: ∀p,bm d p↔cI c p):t.chooseL op b c=t.chooseQ op b d:=by
 have h:=t.restrictL_eq c d ht hc hd he;unfold Tr.chooseL Tr.chooseQ;rw[h];have:op=1\/op=2\/op=3\/op=4:=by omega
 rcases this with rfl|rfl|rfl|rfl<;>cases b<;>simp
def Tr.mergeL_eq{op:Int}(ho:1<=op/\op<=4)(u:Tr)(hu:u.all ab.ok): ∀(t:Tr) (c:List ab) (d:az),t.all ab.ok->(∀l∈c,l.ok)->bO d->(∀p,bm d p↔cI c p)->t.mergeL op u c=t.mergeQ op u d
 | .leaf b,c,d,_,hc,hd,he=>u.chooseL_eq ho b c d hu hc hd he
 | .node l x y,c,d,h,hc,hd,he=>by
  obtain⟨hl,hx,hy⟩:=h;have i1:=xN (iO hc hl);have i2:=xN (iO hc hl.rev);obtain⟨p0,hp0⟩:=hd.ne;rcases tu hd hl with⟨a1,a⟩|⟨a1,a2,a⟩|⟨a1,a2,ag1,ag2,ae1,ae2⟩
  .have b1:i7 (c++[l])=true:=i1.2 ⟨p0,jB.2 ⟨(he p0).1 hp0,a p0 hp0⟩⟩
   have b2:i7 (c++[l.rev])=false:=by
    rw[<-mJ,i2];rintro ⟨p,hp⟩;have hp:=jB.1 hp;have:=a p ((he p).2 hp.1);rw[fq] at hp;grind
   rw[Tr.mergeQ,a1,if_pos (show(!false)=true from J),Tr.mergeL,og,b1,b2];exact Tr.mergeL_eq ho u hu x c d hx hc hd he
  .have b2:i7 (c++[l.rev])=true:=i2.2 ⟨p0,jB.2 ⟨(he p0).1 hp0,by rw[fq];have:=a p0 hp0;grind⟩⟩
   have b1:i7 (c++[l])=false:=by
    rw[<-mJ,i1];rintro ⟨p,hp⟩;have hp:=jB.1 hp;have:=a p ((he p).2 hp.1);grind
   rw[Tr.mergeQ,a1,a2,if_neg (by decide),if_pos (show(!false)=true from J),Tr.mergeL,og,b1,b2];exact Tr.mergeL_eq ho u hu y c d hy hc hd he
  .have n1: ∃p,cI (c++[l]) p:=by
    obtain⟨p,hp⟩:=ag1.ne;exact⟨p,jB.2 ⟨(he p).1 ((ae1 p).1 hp).1,((ae1 p).1 hp).2⟩⟩
   have n2: ∃p,cI (c++[l.rev]) p:=by
    obtain⟨p,hp⟩:=ag2.ne;exact⟨p,jB.2 ⟨(he p).1 ((ae2 p).1 hp).1,by rw[fq];have:=((ae2 p).1 hp).2;grind⟩⟩
   rw[Tr.mergeQ,a1,a2,if_neg (by decide),if_neg (by decide),Tr.mergeL,og,i1.2 n1,i2.2 n2];have k1:=Tr.mergeL_eq ho u hu x (fj (c++[l])) (b8 d l) hx (fun m hm=>iO hc hl m (oD.1 hm).1) ag1 fun p=>by
    rw[z6 (iO hc hl) n1,ae1,jB,he]
   have k2:=Tr.mergeL_eq ho u hu y (fj (c++[l.rev])) (b8 d l.rev) hy (fun m hm=>iO hc hl.rev m (oD.1 hm).1) ag2 fun p=>by
    rw[z6 (iO hc hl.rev) n2,ae2,jB,he,fq];constructor<;>rintro ⟨a,b⟩<;>exact⟨a,by grind⟩
   rw[k1,k2];rfl
def aDO(p:aa):bm [] p↔cI [] p:=by unfold bm cI;simp
def Tr.mergeL_nil{op:Int}(ho:1<=op/\op<=4){t u:Tr}(ht:t.all ab.ok)(hu:u.all ab.ok):t.mergeL op u []=t.mergeQ op u []:=
 Tr.mergeL_eq ho u hu t [] [] ht (fun l hl=>by cases hl) bO.nil aDO
def Tr.mergeQ_depth(op:Int)(u:Tr): ∀(t:Tr) (c:az),(t.mergeQ op u c).depth<=t.depth+u.depth
 | .leaf b,c=>by
  have:=u.restrict_depth c;have h2:=(u.restrict c).compl_depth;show(u.chooseQ op b c).depth<=_;unfold Tr.chooseQ;split
  .split
   .exact aN _
   .simp only[Tr.depth];omega
  .split
   .exact aN _
   .split
    .simp only[Tr.depth];omega
    .simp only[Tr.depth];omega
 | .node l x y,c=>by
  have hx:=fun c=>Tr.mergeQ_depth op u x c;have hy:=fun c=>Tr.mergeQ_depth op u y c;rw[Tr.mergeQ];simp only[Tr.depth];split
  .have:=hx c;omega
  .split
   .have:=hy c;omega
   .have h1:=hx (b8 c l)
    have h2:=hy (b8 c l.rev);rcases Tr.joinQ_cases l (x.mergeQ op u (b8 c l)) (y.mergeQ op u (b8 c l.rev)) with⟨h,_⟩|⟨h,_⟩<;>rw[h]<;>(try simp only[Tr.depth])<;>omega
structure Gen (L:List ab) (a b:Tr):Prop where
 oa:a.all ab.ok
 ob:b.all ab.ok
 ok: ∀l∈L,l.ok
 la: ∀l∈a.lns,l∈L
 lb: ∀l∈b.lns,l∈L
def m7(x:Rat):List Rat->List Rat
 |[]=>[x]
 |u::t=>if u<x then u::m7 x t else if u=x then u::t else x::u::t
def Ib(l:List Rat):List Rat:=l.foldl (fun out x=>m7 x out) []
def i6:List Rat->List Rat
 |a::b::t=>(a+b)/2::i6 (b::t)
 |_=>[]
def e8:List Rat->List Rat
 |[]=>[0]
 |a::t=>(a-1)::(i6 (a::t)++[(a::t).getLast (by simp)+1])
def qq{x y:Rat}: ∀{l:List Rat},y∈m7 x l↔y=x\/y∈l
 |[]=>by simp[m7]
 |u::t=>by
  rw[m7];split
  .rw[aT,qq (l:=t),aT];grind
  .split
   .rename_i h;subst h;simp
   .simp
def AM{x:Rat}: ∀{l:List Rat},l.Pairwise (· < ·)->(m7 x l).Pairwise (· < ·)
 |[],_=>by simp[m7]
 |u::t,h=>by
  rw[bR] at h;rw[m7];split
  .rename_i hu
   rw[bR];refine⟨fun y hy=>?_,AM h.2⟩;rcases qq.1 hy with rfl|hy
   .exact hu
   .exact h.1 y hy
  .rename_i hu
   split
   .rw[bR];exact h
   .rename_i hn
    have hx:x<u:=by grind
    rw[bR,bR];refine⟨fun y hy=>?_,h⟩;rcases aT.1 hy with rfl|hy
    .exact hx
    .have:=h.1 y hy;grind
def Nk: ∀{l:List Rat} (h:l.Pairwise (· < ·)) (hn:l≠[]),∀y∈l,y<=l.getLast hn
 |[a],_,_,y,hy=>by rw[aU] at hy;subst hy;exact fN
 |a::b::t,h,_,y,hy=>by
  rw[bR] at h;rw[List.getLast_cons (by simp)];have ih:=Nk h.2 (by simp);rcases aT.1 hy with rfl|hy
  .have:=h.1 b aZ
   have:=ih b aZ;grind
  .exact ih y hy
def Oa:List ab->List Rat
 |[]=>[]
 |a::t=>(if a.b=0 then [a.base.x] else [])++(t.filterMap (fun b=>if crossI a b=0 then none else some (d8 a b).x)++Oa t)
def yA(a:ab)(x:Rat):Rat:= -(((a.a:Rat)*x+(a.c:Rat))/(a.b:Rat))
def ML(l:List ab)(x:Rat):List Rat:=l.filterMap fun a=>if a.b=0 then none else some (yA a x)
def Tk(l:List ab):List aa:=(e8 (Ib (Oa l))).flatMap fun x=>(e8 (Ib (ML l x))).map fun y=>⟨x,y⟩
def aJL(l:ab)(p:aa):ab:=if 0<l.value p then l else l.rev
def lA(out:List Rat)(s:aj):List Rat:=if s.nh then(if s.nl then out else m7 s.lo out) else m7 s.hi (if s.nl then out else m7 s.lo out)
def ig(l:List aj):List Rat:=l.foldl lA []
def rj:List aj->Rat->Int
 |[],_=>0
 |s::t,x=>
  let a:=if s.nl then 1 else bg x s.lo
  let b:=if s.nh then-1 else bg x s.hi
  if 0<a/\b<0 then 2 else if(a=0/\b<=0)\/(b=0/\0<=a) then 1 else rj t x
def fD(l:List aj)(x:Rat):Bool:=decide (rj l x=2)
def dx(cuts:List Rat)(i:Nat):aj:=⟨if i=0 then 0 else cuts.getD (i-1) 0,if i<cuts.length then cuts.getD i 0 else 0,decide (i=0),decide (i=cuts.length)⟩
def va(v w:aj):aj:=⟨v.lo,w.hi,v.nl,w.nh⟩
def fH(cuts:List Rat)(marks:List Bool):Nat->List aj
 |0=>[]
 |k+1=>
  let out:=fH cuts marks k
  if marks.getD k false then
   (if 0<k/\marks.getD (k-1) false=true then(match out.getLast? with
    |some v=>out.dropLast++[va v (dx cuts k)]
    |none=>out++[dx cuts k]) else out++[dx cuts k])
  else out
def vl(cuts:List Rat)(marks:List Bool):List aj:=fH cuts marks marks.length
def nP(op:Int)(x y:Bool):Bool:=if op=2 then x&&y else if op=3 then x&&!y else if op=4 then x !=y else x||y
def o9(op:Int)(a b:List aj):List aj:=vl (ig (a++b)) ((e8 (ig (a++b))).map fun t=>nP op (fD a t) (fD b t))
def jb(l m:ab)(side:Int):List aj:=
 if crossI l m=0 then(if(m.value l.base).num.sign=side then [aj.all] else [])
 else if(m.value (l.at (fG l (d8 l m)+1))).num.sign=side then [⟨fG l (d8 l m),0,false,true⟩] else [⟨0,fG l (d8 l m),true,false⟩]
def lP(l m:ab):Bool:=decide (crossI l m=0/\(m.value l.base).num.sign=0)
def eE(f:aP)(m:ab)(side:Int):List aP:=if lP f.l m then [] else(o9 2 [f.v] (jb f.l m side)).map fun v=>⟨f.l,v⟩
def Hx(l:List aj):(ig l).Pairwise (· < ·)/\ ∀y∈ig l,∃s∈l,(s.nl=false/\y=s.lo)\/(s.nh=false/\y=s.hi):=by
 have key: ∀(l:List aj) (o:List Rat),o.Pairwise (· < ·)->(l.foldl lA o).Pairwise (· < ·)/\ ∀y∈l.foldl lA o,y∈o\/ ∃s∈l,(s.nl=false/\y=s.lo)\/(s.nh=false/\y=s.hi):=by
  intro l
  induction l with
  |nil=>intro o h;exact⟨h,fun y hy=> .inl hy⟩
  |cons s t ih=>
   intro o h;have h1:(lA o s).Pairwise (· < ·)/\ ∀y∈lA o s,y∈o\/(s.nl=false/\y=s.lo)\/(s.nh=false/\y=s.hi):=by
    unfold lA
    cases e1:s.nl<;>cases e2:s.nh<;>simp only[if_true,jT,if_false]
    .refine⟨AM (AM h),fun y hy=>?_⟩
     rcases qq.1 hy with h|h
     .exact .inr (.inr ⟨trivial,h⟩)
     .rcases qq.1 h with h|h
      .exact .inr (.inl ⟨trivial,h⟩)
      .exact .inl h
    .refine⟨AM h,fun y hy=>?_⟩
     rcases qq.1 hy with h|h
     .exact .inr (.inl ⟨trivial,h⟩)
     .exact .inl h
    .refine⟨AM h,fun y hy=>?_⟩
     rcases qq.1 hy with h|h
     .exact .inr (.inr ⟨trivial,h⟩)
     .exact .inl h
    .exact⟨h,fun y hy=> .inl hy⟩
   obtain⟨k1,k2⟩:=ih (lA o s) h1.1;refine⟨k1,fun y hy=>?_⟩;rcases k2 y hy with h2|⟨q,hq,h2⟩
   .rcases h1.2 y h2 with h3|h3
    .exact .inl h3
    .exact .inr ⟨s,aZ,h3⟩
   .exact .inr ⟨q,aK _ hq,h2⟩
 have:=key l [] List.Pairwise.nil;refine⟨this.1,fun y hy=>?_⟩;rcases this.2 y hy with h|h
 .cases h
 .exact h
structure Fh (cuts:List Rat) (v:aj):Prop where
 z:ic v
 lo:v.nl=true\/v.lo∈cuts
 hi:v.nh=true\/v.hi∈cuts
def aD5{cuts:List Rat}{i:Nat}(h:i<=cuts.length):Fh cuts (dx cuts i):=by
 unfold dx;refine⟨⟨fun e=>?_,fun e=>?_⟩,?_,?_⟩
 .simp only[decide_eq_true_eq] at e;simp[e]
 .simp only[decide_eq_true_eq] at e;simp[e]
 .by_cases h0:i=0
  .left;simp[h0]
  .right
   simp only[if_neg h0];rw[aX,aQ (by omega)];exact bL _
 .by_cases h0:i=cuts.length
  .left;simp[h0]
  .right
   simp only[if_pos (show i<cuts.length by omega)];rw[aX,aQ (by omega)];exact bL _
def Qa{cuts:List Rat}{marks:List Bool}: ∀{k:Nat},k<=cuts.length+1-> ∀v∈fH cuts marks k,Fh cuts v
 |0,_,v,hv=>by cases hv
 |k+1,hk,v,hv=>by
  have ih:=Qa (cuts:=cuts) (marks:=marks) (k:=k) (by omega);have hg:=aD5 (cuts:=cuts) (i:=k) (by omega);rw[fH] at hv;split at hv
  .split at hv
   .split at hv
    .rename_i w hw
     rcases bK.1 hv with h|h
     .exact ih v ((sK _).subset h)
     .rw[aU] at h;subst h
      have hw':=ih w (oW hw);exact⟨⟨hw'.z.1,hg.z.2⟩,hw'.lo,hg.hi⟩
    .rcases bK.1 hv with h|h
     .exact ih v h
     .rw[aU] at h;subst h;exact hg
   .rcases bK.1 hv with h|h
    .exact ih v h
    .rw[aU] at h;subst h;exact hg
  .exact ih v hv
def yZ{l:List Rat}:(e8 l).length=l.length+1:=by
 have key: ∀(l:List Rat) (a:Rat),(i6 (a::l)).length=l.length:=by
  intro l
  induction l with
  |nil=>intro a;rfl
  |cons b t ih=>intro a;rw[i6,bJ,ih b,bJ]
 cases l with
 |nil=>rfl
 |cons a t=>rw[e8,bJ,aW,key];simp
def Yj{op:Int}{a b:List aj}: ∀v∈o9 op a b,Fh (ig (a++b)) v:=fun v hv=>by
 unfold o9 vl at hv;refine Qa ?_ v hv;rw[aJ,yZ];omega
def FF{cuts:List Rat}{marks:List Bool}: ∀{k:Nat},(fH cuts marks k).length<=k
 |0=>aM _
 |k+1=>by
  have ih:=FF (cuts:=cuts) (marks:=marks) (k:=k);rw[fH];split
  .split
   .split
    .rename_i w hw
     have:=List.length_pos_of_mem (oW hw);rw[aW,iJ];simp;omega
    .rw[aW];simp;omega
   .rw[aW];simp;omega
  .omega
structure nk (f:aP):Prop where
 lb:LB f.l
 ok:f.l.ok
 z:ic f.v
 lo:BQ f.v.lo 1200
 hi:BQ f.v.hi 1200
theorem BQ.zero1200:BQ (0:Rat) 1200:=BQ.mono (k:=1) ⟨by decide,by decide⟩
def GU{l m:ab}(hl:LB l)(hm:LB m)(hlo:l.ok){side:Int}: ∀v∈jb l m side,ic v/\BQ v.lo 1200/\BQ v.hi 1200:=fun v hv=>by
 unfold jb at hv;split at hv
 .split at hv
  .rw[aU] at hv;subst hv;exact⟨ic.all,BQ.zero1200,BQ.zero1200⟩
  .cases hv
 .rename_i hc
  have:=BV hlo.ne hc;split at hv
  .rw[aU] at hv;subst hv;exact⟨⟨fun h=>(by cases h),fun _=>J⟩,this,BQ.zero1200⟩
  .rw[aU] at hv;subst hv;exact⟨⟨fun _=>J,fun h=>(by cases h)⟩,BQ.zero1200,this⟩
def EM{f:aP}{m:ab}(h:nk f)(hm:LB m){side:Int}: ∀g∈eE f m side,nk g/\g.l=f.l/\lP f.l m=false:=fun g hg=>by
 unfold eE at hg;split at hg
 .cases hg
 .rename_i ho
  obtain⟨v,hv,rfl⟩:=bQ.1 hg;have hi:=Yj v hv;have bd: ∀y∈ig ([f.v]++jb f.l m side),BQ y 1200:=fun y hy=>by
   obtain⟨s,hs,h1⟩:=(Hx _).2 y hy;rcases bK.1 hs with hs|hs
   .rw[aU] at hs;subst hs
    rcases h1 with⟨_,rfl⟩|⟨_,rfl⟩
    .exact h.lo
    .exact h.hi
   .have:=GU h.lb hm h.ok s hs
    rcases h1 with⟨_,rfl⟩|⟨_,rfl⟩
    .exact this.2.1
    .exact this.2.2
  refine⟨⟨h.lb,h.ok,hi.z,?_,?_⟩,J,by simpa using ho⟩
  .rcases hi.lo with e|e
   .rw[hi.z.1 e];exact BQ.zero1200
   .exact bd _ e
  .rcases hi.hi with e|e
   .rw[hi.z.2 e];exact BQ.zero1200
   .exact bd _ e
def jg(acc:aa->Bool):Nat->List aP->List ab->Tr
 |_,[],c=> .leaf (acc (i5 c c))
 |0,_::_,_=> .leaf false
 |n+1,f::t,c=> .node f.l (jg acc n ((f::t).flatMap fun g=>eE g f.l 1) (c++[f.l])) (jg acc n ((f::t).flatMap fun g=>eE g f.l (-1)) (c++[f.l.rev]))
def azm{f g:aP}{m:ab}{side:Int}(h:g∈eE f m side):g.l=f.l:=by
 unfold eE at h;split at h
 .cases h
 .obtain⟨v,_,rfl⟩:=bQ.1 h;rfl
def wn{acc:aa->Bool}{P:ab->Prop}: ∀{n:Nat} {l:List aP} {c:List ab},(∀f∈l,P f.l)->(jg acc n l c).all P
 |n,[],c,_=>by unfold jg;trivial
 |0,_::_,_,_=>by unfold jg;trivial
 |n+1,f::t,c,h=>by
  rw[jg];refine⟨h f aZ,wn fun g hg=>?_,wn fun g hg=>?_⟩<;>
  .obtain⟨q,hq,hg⟩:=fZ.1 hg
   rw[azm hg];exact h q hq
def HJ{acc:aa->Bool}: ∀{n:Nat} {l:List aP} {c:List ab},(jg acc n l c).depth<=n
 |n,[],c=>by unfold jg;exact aN _
 |0,_::_,_=>by unfold jg;exact aN _
 |n+1,f::t,c=>by
  rw[jg,Tr.depth];have h1:=HJ (acc:=acc) (n:=n) (l:=(f::t).flatMap fun g=>eE g f.l 1) (c:=c++[f.l]);have h2:=HJ (acc:=acc) (n:=n) (l:=(f::t).flatMap fun g=>eE g f.l (-1)) (c:=c++[f.l.rev]);omega
def q7(n:Nat)(l:List aP):Prop:= ∃K:List ab,K.length<=n/\ ∀f∈l,∃m∈K,m.same f.l
def anw{m:ab}(hm:m.Ne):m.value m.base=0:=by
 have h:=mz hm 0;rw[<-tE,gH] at h;grind
def axN{l m:ab}(h:l.same m)(hm:m.Ne):lP m l=true:=by
 unfold lP;rw[decide_eq_true_iff];refine⟨?_,?_⟩
 .rcases h with rfl|rfl
  .unfold crossI;omega
  .unfold crossI ab.rev
   show(-l.a)*l.b-l.a*(-l.b)=0;grind
 .rw[lz]
  exact DB h.symm (anw hm)
def q7.split{n:Nat}{f:aP}{t:List aP}(h:q7 (n+1) (f::t))(hok: ∀g∈f::t,nk g){side:Int}:q7 n ((f::t).flatMap fun g=>eE g f.l side):=by
 obtain⟨K,hK,hs⟩:=h;refine⟨K.filter fun m=>!decide (m.same f.l),?_,fun g hg=>?_⟩
 .obtain⟨m,hm,hm2⟩:=hs f aZ
  have:(K.filter fun m=>!decide (m.same f.l)).length<K.length:=by
   refine pS.2 ⟨m,hm,by simp[hm2]⟩
  omega
 .obtain⟨q,hq,hg⟩:=fZ.1 hg
  obtain⟨_,e,ho⟩:=EM (hok q hq) (hok f aZ).lb g hg;obtain⟨m,hm,hm2⟩:=hs q hq;refine⟨m,jL.2 ⟨hm,?_⟩,by rw[e];exact hm2⟩;simp only[gT,decide_eq_false_iff_not];intro h;have:=axN (h.symm.trans hm2) (hok q hq).ok.ne;rw[this] at ho;cases ho
def aFT{p q r:Bool}{a b c:Nat}(h:Nat.gcd a b≠0):ab.ok ⟨zv p (a/Nat.gcd (Nat.gcd a b) c),zv q (b/Nat.gcd (Nat.gcd a b) c),zv r (c/Nat.gcd (Nat.gcd a b) c)⟩:=by
 have hg:0<Nat.gcd (Nat.gcd a b) c:=mS _ (iY h);have d0:Nat.gcd (Nat.gcd a b) c∣Nat.gcd a b:=nU _ _;have d1:Nat.gcd (Nat.gcd a b) c∣a:=sU d0 (nU _ _);have d2:Nat.gcd (Nat.gcd a b) c∣b:=sU d0 (oV _ _);have d3:Nat.gcd (Nat.gcd a b) c∣c:=oV _ _;refine⟨?_,?_⟩
 .rintro ⟨h1,h2⟩
  have h1':=congrArg Int.natAbs h1;have h2':=congrArg Int.natAbs h2;simp only[rx,lQ] at h1' h2';have e1:=Nat.div_mul_cancel d1;have e2:=Nat.div_mul_cancel d2;rw[h1',mK] at e1;rw[h2',mK] at e2;exact h (by rw[<-e1,<-e2];rfl)
 .simp only[rx]
  rw[Nat.gcd_div d1 d2,Nat.gcd_div d0 d3,Nat.div_self hg]
def Jr(p:Bool)(a g:Nat):(zv p (a/g)).natAbs<=a:=by rw[rx];exact kN ..
def PF.eq{P:Program}{f:FuncId}{vs:List DV}{r r':DV}(h:PF GB P f vs r)(e:r=r'):PF GB P f vs r':=e▸h
def iP(m n:Int):aa:=⟨(m:Rat),(n:Rat)⟩
theorem AV{m:Int}{k:Nat}(h:m.natAbs<2^k:=by omega):BI m k:=⟨h⟩
theorem jz{m:Int}{k:Nat}(h:m.natAbs<=1000)(hk:10<=k:=by decide):BI m k:=⟨dY (show m.natAbs<2^10 by omega) (bU (by decide) hk)⟩
instance aC.int (m n:Int) (i:Nat) [h:BI m i] [k:BI n i]:aC (iP m n) (i+1):=⟨inferInstanceAs (BQ (m:Rat) (i+1)),inferInstanceAs (BQ (n:Rat) (i+1))⟩
def uR{q:Rat}{k:Int}(h:q=(k:Rat)):eQ q=eQ (k:Rat):=by rw[h]
def UD{p:aa}{m n:Int}(h1:p.x=(m:Rat))(h2:p.y=(n:Rat)):eP p=eP (iP m n):=by
 obtain⟨x,y⟩:=p;simp only at h1 h2;subst h1 h2;rfl
def qE(a b c:Int):ab:=
 ⟨zv (decide (a<0)) (a.natAbs/Nat.gcd (Nat.gcd a.natAbs b.natAbs) c.natAbs),zv (decide (b<0)) (b.natAbs/Nat.gcd (Nat.gcd a.natAbs b.natAbs) c.natAbs),zv (decide (c<0)) (c.natAbs/Nat.gcd (Nat.gcd a.natAbs b.natAbs) c.natAbs)⟩
def VO{a b c:Int}(h: ¬(a=0/\b=0)):(qE a b c).ok:=
 aFT fun e=>h ⟨nL.1 (oR e),nL.1 (oY e)⟩
def aFn(a b c:Int):(qE a b c).a.natAbs<=a.natAbs/\(qE a b c).b.natAbs<=b.natAbs/\(qE a b c).c.natAbs<=c.natAbs:=⟨Jr ..,Jr ..,Jr ..⟩
def m9{m n:Int}(hm:m.natAbs<=1000:=by omega)(hn:n.natAbs<=1000:=by omega):PF GB prog 35 [.v (.int .i64 m), .v (.int .i64 n)] (eP (iP m n)):=by
 refine fn func35 J J ntmps35 J J (fun C=>?_);refine cl J (lu (n:=m) (by omega) (by omega)) J<|cl J (lu (n:=n) (by omega) (by omega)) J<|?_;exact rz J J
def Ii{m n m' n' k:Int}(hm:m.natAbs<=1000)(hn:n.natAbs<=1000)(hm':m'.natAbs<=1000)(hn':n'.natAbs<=1000)(hk:k.natAbs<=1000:=by decide):PF GB prog 98 [eP (iP m n),eQ (k:Rat),eP (iP m' n')] (eP (iP (m+k*m') (n+k*n'))):=by
 haveI:=jz (k:=10) hm;haveI:=jz (k:=10) hn;haveI:=jz (k:=10) hm';haveI:=jz (k:=10) hn';haveI:=jz (k:=10) hk;exact PF.eq (A5 (p:=iP m n) (q:=iP m' n') (c:=(k:Rat))) (UD (by show(m:Rat)+(k:Rat)*(m':Rat)=_;push_cast;rfl) (by show(n:Rat)+(k:Rat)*(n':Rat)=_;push_cast;rfl))
def aGu{m n m' n':Int}(hm:m.natAbs<=1000)(hn:n.natAbs<=1000)(hm':m'.natAbs<=1000)(hn':n'.natAbs<=1000):PF GB prog 243 [eP (iP m n),eP (iP m' n')] (eP (iP (m-m') (n-n'))):=by
 refine fn func243 J J ntmps243 J J (fun C=>?_);refine cl J (lu (n:= -1)) J<|cl J (Ii (m:=m) (n:=n) (m':=m') (n':=n') (k:= -1) hm hn hm' hn') J<|?_;exact rz J (by rw[show m-m'=m+ -1*m' by omega,show n-n'=n+ -1*n' by omega];rfl)
def HP{m n m' n':Int}(hm:m.natAbs<=1000:=by omega)(hn:n.natAbs<=1000:=by omega)(hm':m'.natAbs<=1000:=by omega)(hn':n'.natAbs<=1000:=by omega):PF GB prog 99 [eP (iP m n),eP (iP m' n')] (.v (.bool (decide (m=m'/\n=n')))):=by
 haveI:=jz (k:=10) hm;haveI:=jz (k:=10) hn;haveI:=jz (k:=10) hm';haveI:=jz (k:=10) hn';refine fn func99 J J ntmps99 J J (fun C=>?_);refine cl J (mF (a:=(m:Rat)) (b:=(m':Rat))) J<|?_;refine cs 11 J J J (fun hg11=>?_) (fun hg11=>?_)
 .
  refine cl J (mF (a:=(n:Rat)) (b:=(n':Rat))) J<|?_;exact rz J (by rw[tc] at hg11;have e:m=m':=(by exact_mod_cast hg11);exact congrArg (fun z=>DV.v (.bool z)) (decide_eq_decide.2 (by rw[tc,oQ];simp[e])))
 .
  exact rz J (by rw[tc] at hg11;have e: ¬m=m':=(fun e=>hg11 (by rw[e]));show DV.v (.bool false)=DV.v (.bool _);rw[decide_eq_false (fun h=>e h.1)])
def MP{a b k:Nat}(ha:a<k)(hb:b<k):Nat.gcd a b<k:=by
 rcases fT a with rfl|p
 .simpa using hb
 .exact fR (Nat.gcd_le_left b p) ha
def aEt{a b c:Int}{i:Nat}(ha:BI a i)(hb:BI b i)(hc:BI c i)(hi:i<=100000000)(h0: ¬(a=0/\b=0)):PF GB prog 244 [eI a,eI b,eI c] (.tp [eL (qE a b c), .v (.bool true)]):=by
 have hgn:Nat.gcd a.natAbs b.natAbs≠0:=fun h=>h0 ⟨nL.1 (oR h),nL.1 (oY h)⟩;have hgp:0<Nat.gcd (Nat.gcd a.natAbs b.natAbs) c.natAbs:=mS _ (iY hgn);haveI hb1:BN (Nat.gcd a.natAbs b.natAbs) i:=⟨MP ha.h hb.h⟩;haveI hb2:BN (Nat.gcd (Nat.gcd a.natAbs b.natAbs) c.natAbs) i:=⟨MP hb1.h hc.h⟩;refine fn func244 J J ntmps244 J J (fun C=>?_);refine cl J (GX (a:=a.natAbs) (b:=b.natAbs) (by omega) (by omega)) J<|?_;refine br J J J (fun hc22=>?_) (fun hc22=>?_)
 .
  exact absurd hc22 (by rw[aJ];intro h;exact hgn (vJ.1 (by omega)))
 .
  refine cl J (GX (a:=Nat.gcd a.natAbs b.natAbs) (b:=c.natAbs) (by omega) (by omega)) J<|cl J (xy (a:=a.natAbs) (b:=Nat.gcd (Nat.gcd a.natAbs b.natAbs) c.natAbs) hgp (by omega) (by omega)) J<|?_;refine cl J (xy (a:=b.natAbs) (b:=Nat.gcd (Nat.gcd a.natAbs b.natAbs) c.natAbs) hgp (by omega) (by omega)) J<|cl J (xy (a:=c.natAbs) (b:=Nat.gcd (Nat.gcd a.natAbs b.natAbs) c.natAbs) hgp (by omega) (by omega)) J<|?_;refine cl J (kC (m:=a.natAbs/(Nat.gcd (Nat.gcd a.natAbs b.natAbs) c.natAbs)) (neg:=decide (a<0))) J<|cl J (kC (m:=b.natAbs/(Nat.gcd (Nat.gcd a.natAbs b.natAbs) c.natAbs)) (neg:=decide (b<0))) J<|?_;refine cl J (kC (m:=c.natAbs/(Nat.gcd (Nat.gcd a.natAbs b.natAbs) c.natAbs)) (neg:=decide (c<0))) J<|?_;exact rz J J
def pf(n n':Int):Int:= -(n'-n)
def qa(m m':Int):Int:=m'-m
def vS(m n m' n':Int):Int:= -(pf n n'*m+qa m m'*n)
def mh(m n m' n':Int):ab:=qE (pf n n') (qa m m') (vS m n m' n')
def Eq{a b:Int}(ha:a.natAbs<=2000)(hb:b.natAbs<=1000):(a*b).natAbs<=2000000:=by
 rw[jV];exact iW ha hb
def aw9{m n m' n':Int}(hm:m.natAbs<=1000)(hn:n.natAbs<=1000)(hm':m'.natAbs<=1000)(hn':n'.natAbs<=1000)(h0: ¬(m=m'/\n=n')):PF GB prog 200 [eP (iP m n),eP (iP m' n')] (.tp [eL (mh m n m' n'), .v (.bool true)]):=by
 obtain⟨a,hA⟩: ∃a,a=pf n n':=⟨_,rfl⟩;obtain⟨b,hB⟩: ∃b,b=qa m m':=⟨_,rfl⟩;have hA':a= -(n'-n):=hA;have hB':b=m'-m:=hB;obtain⟨c,hC⟩: ∃c,c= -(a*m+b*n):=⟨_,rfl⟩;have e1:=Eq (a:=a) (b:=m) (by omega) hm;have e2:=Eq (a:=b) (b:=n) (by omega) hn;haveI hm0:=jz (k:=10) hm;haveI hn0:=jz (k:=10) hn;haveI ha:BI a 30:=AV;haveI hb:BI b 30:=AV;haveI hc:BI c 30:=AV;have hthr:mh m n m' n'=qE a b c:=by rw[hC,hA,hB];rfl
 have hne: ¬(a=0/\b=0):=fun h=>h0 (by omega);refine fn func200 J J ntmps200 J J (fun C=>?_);refine cl J (aGu (m:=m') (n:=n') (m':=m) (n':=n) hm' hn' hm hn) J<|cl J (PF.eq (vQ (q:=(((n'-n):Int):Rat))) (uR (k:=a) (by rw[hA'];push_cast;rfl))) J<|?_;refine cl J (PF.eq (jp (a:=(a:Rat)) (b:=(m:Rat))) (uR (k:=a*m) (by push_cast;rfl))) J<|cl J (PF.eq (by haveI:BI (m'-m) 30:=(by rw[<-hB'];exact hb);exact jp (a:=(((m'-m):Int):Rat)) (b:=(n:Rat))) (uR (k:=b*n) (by rw[hB'];push_cast;rfl))) J<|?_;refine cl J (PF.eq (po (a:=((a*m:Int):Rat)) (b:=((b*n:Int):Rat))) (uR (k:=a*m+b*n) (by push_cast;rfl))) J<|cl J (PF.eq (vQ (q:=((a*m+b*n:Int):Rat))) (uR (k:=c) (by rw[hC];push_cast;rfl))) J<|?_;refine cl J (kw (q:=(a:Rat))) J<|cl J (kw (q:=(((m'-m):Int):Rat))) J<|cl J (PF.eq (se (a:=1) (b:=1)) J) J<|?_;refine cl J (kw (q:=(c:Rat))) J<|cl J (PF.eq (se (a:=1) (b:=1)) J) J<|cl (fu:=⟨1⟩) J (kC (neg:=false) (m:=1)) J<|?_;refine ak 40 (.d (eQ ((1:Int):Rat))) J J ?_;refine gx J<|cl J (PF.eq (jp (a:=(a:Rat)) (b:=((1:Int):Rat))) (uR (k:=a) (by push_cast;grind))) J<|cl J (PF.eq (by haveI:BI (m'-m) 30:=(by rw[<-hB'];exact hb);exact jp (a:=(((m'-m):Int):Rat)) (b:=((1:Int):Rat))) (uR (k:=b) (by rw[hB'];push_cast;grind))) J<|?_;refine cl J (PF.eq (jp (a:=(c:Rat)) (b:=((1:Int):Rat))) (uR (k:=c) (by push_cast;grind))) J<|cl J (aEt (a:=a) (b:=b) (c:=c) ha hb hc (by decide) hne) J<|?_;exact rz J (by rw[hthr];rfl)
def Xa{es:List Int}{a:Nat}(h:a<es.length):(es.map vI)[(a:Int).toNat]? =some (vI es[a]):=by simp[h]
def Tm:eP (iP 0 0)= .ag [.v (.bool false), .sl [], .sl [], .v (.bool false), .sl [], .sl []]:=by
 unfold eP iP;simp[p6,dD]
def av(es:List Int)(n:Int)(a:Nat):Nat×Nat:=
 if h:a<es.length then((if Int.tmod es[a] n<0 then Int.tmod es[a] n+n else Int.tmod es[a] n).toNat,a+1) else(0,a)
def kG{es:List Int}{n:Int}{a:Nat}(hn:1<=n:=by decide):((av es n a).1:Int)<n:=by
 unfold av;split
 .rename_i h
  have q2:=Int.tmod_lt_of_pos es[a] (show 0<n by omega);dsimp only;split<;>omega
 .exact hn
def gG{es:List Int}{n:Int}{a:Nat}(ha:a<=es.length):(av es n a).2<=es.length:=by
 unfold av;split
 .assumption
 .exact ha
def pF(es:List Int)(a:Nat):(Int×Int)×Nat:=((((av es 9 a).1:Int)-4,((av es 9 (av es 9 a).2).1:Int)-4),(av es 9 (av es 9 a).2).2)
def xO{es:List Int}{a:Nat}(ha:a<=es.length):(pF es a).1.1.natAbs<=4/\(pF es a).1.2.natAbs<=4/\(pF es a).2<=es.length:=by
 have h1:=kG (es:=es) (n:=9) (a:=a);have h2:=kG (es:=es) (n:=9) (a:=(av es 9 a).2);have h3:=gG (n:=9) (gG (es:=es) (n:=9) ha);unfold pF;exact⟨by dsimp only;omega,by dsimp only;omega,h3⟩
def vF(es:List Int)(a:Nat):(Int×Int)×Nat:=if(pF es a).1.1=0/\(pF es a).1.2=0 then((1,0),(pF es a).2) else pF es a
def Ee{es:List Int}{a:Nat}(ha:a<=es.length):(vF es a).1.1.natAbs<=4/\(vF es a).1.2.natAbs<=4/\ ¬((vF es a).1.1=0/\(vF es a).1.2=0)/\(vF es a).2<=es.length:=by
 obtain⟨h1,h2,h3⟩:=xO ha;unfold vF;split
 .exact⟨show(1:Int).natAbs<=4 by decide,show(0:Int).natAbs<=4 by decide,show¬((1:Int)=0/\(0:Int)=0) by decide,h3⟩
 .rename_i h;exact⟨h1,h2,h,h3⟩
def lF(es:List Int)(a:Nat):ab×Nat:=(mh (pF es a).1.1 (pF es a).1.2 ((pF es a).1.1+1*(vF es (pF es a).2).1.1) ((pF es a).1.2+1*(vF es (pF es a).2).1.2),(vF es (pF es a).2).2)
def nf(es:List Int):Nat->Nat->Tr×Nat
 |0,a=>(.leaf (decide (((av es 2 a).1:Int)=1)),(av es 2 a).2)
 |d+1,a=>if((av es 4 a).1:Int)=0 then(.leaf (decide (((av es 2 (av es 4 a).2).1:Int)=1)),(av es 2 (av es 4 a).2).2) else
  (.node (lF es (av es 4 a).2).1 (nf es d (lF es (av es 4 a).2).2).1 (nf es d (nf es d (lF es (av es 4 a).2).2).2).1,(nf es d (nf es d (lF es (av es 4 a).2).2).2).2)
def oq{b:Nat}{es:List Int}(hes:es.length<=400){a:Nat}(ha:a<=es.length){n:Int}(hn:1<=n:=by decide)(hn2:n<=1000:=by decide):PM GB prog 17 (iH [none,some (.v (.int .i64 n))] b) b 64 [.sl (es.map vI), .v (.int .i64 (a:Nat))] (.v (.int .i64 ((av es n a).1:Nat))) [.sl (es.map vI), .v (.int .i64 ((av es n a).2:Nat))]:=by
 have hel:(es.map vI).length=es.length:=by simp
 refine tC func17 J J ntmps17 J J (fun C b m lo hmb=>?_);refine br J J J (fun hc15=>?_) (fun hc15=>?_)
 .
  have hf:av es n a=(0,a):=by unfold av;rw[dif_neg (by omega)]
  exact jE hmb J J (by rw[hf]<;>rfl) (by rw[hf]<;>rfl)
 .
  have hal:a<es.length:=by omega
  obtain⟨e,he⟩: ∃e,e=es[a]:=⟨_,rfl⟩;have q2:=Int.tmod_lt_of_pos e (show 0<n by omega);have q3: -n<Int.tmod e n:=by have:=Int.lt_tmod_of_pos e (show 0<n by omega);omega
  refine ix (fu:=⟨1⟩) _ J (Xa hal) J<|?_;refine ak 25 (.d (vI e)) J (by rw[he]<;>rfl) ?_;refine gx (hv:=by simp only[ah];exact⟨⟨by omega,by kernel_rfl⟩,by omega⟩) J<|?_;refine br J J J (fun hc36=>?_) (fun hc36=>?_)
  .
   have hf:av es n a=((Int.tmod e n+n).toNat,a+1):=by unfold av;rw[dif_pos hal,<-he,if_pos hc36]
   exact jE hmb J J (by rw[hf];show DV.v (.int .i64 _)=DV.v (.int .i64 _);rw[qY (by omega)]) (by rw[hf]<;>rfl)
  .
   have hf:av es n a=((Int.tmod e n).toNat,a+1):=by unfold av;rw[dif_pos hal,<-he,if_neg hc36]
   exact jE hmb J J (by rw[hf];show DV.v (.int .i64 _)=DV.v (.int .i64 _);rw[qY (by omega)]) (by rw[hf]<;>rfl)
def E8{b:Nat}{es:List Int}(hes:es.length<=400){a:Nat}(ha:a<=es.length):PM GB prog 94 (iH [none] b) b 64 [.sl (es.map vI), .v (.int .i64 (a:Nat))] (eP (iP (pF es a).1.1 (pF es a).1.2)) [.sl (es.map vI), .v (.int .i64 ((pF es a).2:Nat))]:=by
 have h1:=kG (es:=es) (n:=9) (a:=a);have h2:=kG (es:=es) (n:=9) (a:=(av es 9 a).2);refine tC func94 J J ntmps94 J J (fun C b m lo hmb=>?_);refine cm J (fun b=>(oq (n:=9) hes ha)) J<|cm J (fun b=>(oq (n:=9) hes (gG ha))) J<|?_;refine cl J (m9 (m:=((av es 9 a).1:Int)-4) (n:=((av es 9 (av es 9 a).2).1:Int)-4)) J<|?_;exact jE hmb J J J J
def P3{b:Nat}{es:List Int}(hes:es.length<=400){a:Nat}(ha:a<=es.length):PM GB prog 95 (iH [none] b) b 64 [.sl (es.map vI), .v (.int .i64 (a:Nat))] (eP (iP (vF es a).1.1 (vF es a).1.2)) [.sl (es.map vI), .v (.int .i64 ((vF es a).2:Nat))]:=by
 obtain⟨hm,hn,ha1⟩:=xO ha;refine tC func95 J J ntmps95 J J (fun C b m lo hmb=>?_);refine cm (fu:=⟨9⟩) J (fun b=>(E8 hes ha)) J<|?_;refine ak 7 (.d (eP (iP 0 0))) J (by rw[Tm]<;>rfl) ?_;refine gx J<|cl J (HP (m:=(pF es a).1.1) (n:=(pF es a).1.2) (m':=0) (n':=0) (by omega) (by omega) (by decide) (by decide)) J<|?_;refine bd J J J (fun hc8=>?_) (fun hc8=>?_)
 .
  have hf:vF es a=((1,0),(pF es a).2):=by unfold vF;rw[if_pos hc8]
  refine cl J (m9 (m:=1) (n:=0) (by decide) (by decide)) J<|?_;exact jE hmb J J (by rw[hf]<;>rfl) (by rw[hf])
 .
  have hf:vF es a=pF es a:=by unfold vF;rw[if_neg hc8]
  exact jE hmb J J (by rw[hf]<;>rfl) (by rw[hf])
def wP{p:Bool}:PF GB prog 42 [.v (.bool p)] (eT (.leaf p)):=by
 refine fn func42 J J ntmps42 J J (fun C=>?_);refine gI 5 J ?_;exact rz J J
abbrev ZP:=Int×Int
def ZP.q(p:ZP):aa:=iP p.1 p.2
def ZP.le(k:Nat)(p:ZP):Prop:=p.1.natAbs<=k/\p.2.natAbs<=k
def D4(p q:ZP):ZP:=(p.1+1*q.1,p.2+1*q.2)
def wh(u v:ZP):Int:=u.1*v.2-u.2*v.1
theorem KL{m n p q:Int}(hm:m.natAbs<=1000)(hn:n.natAbs<=1000)(hp:p.natAbs<=1000)(hq:q.natAbs<=1000)(h: ¬(p=m/\q=n)):LB (mh m n p q)/\(mh m n p q).ok:=by
 have e1:(pf n q).natAbs<=2000:=by unfold pf;omega
 have e2:(qa m p).natAbs<=2000:=by unfold qa;omega
 have e3:=Eq e1 hm;have e4:=Eq e2 hn;have e5:(vS m n p q).natAbs<=4000000:=by unfold vS;omega
 unfold mh;obtain⟨k1,k2,k3⟩:=aFn (pf n q) (qa m p) (vS m n p q);have hb:(2:Nat)^96=79228162514264337593543950336:=by decide
 refine⟨⟨⟨?_,?_,?_⟩⟩,VO ?_⟩
 .rw[hb];omega
 .rw[hb];omega
 .rw[hb];omega
 .unfold pf qa;omega
def kv(v w:ZP):aP:=⟨mh v.1 v.2 w.1 w.2,⟨fG (mh v.1 v.2 w.1 w.2) v.q,fG (mh v.1 v.2 w.1 w.2) w.q,false,false⟩⟩
def gu(r:List ZP)(i:Nat):ZP:=r.getD ((i+1)%r.length) (0,0)
def qv(r:List ZP):Nat->List aP
 |0=>[]
 |k+1=>qv r k++[kv (r.getD k (0,0)) (gu r k)]
def km(r:List ZP):List aP:=qv r r.length
structure d7 (r:List ZP):Prop where
 n3:3<=r.length
 n6:r.length<=6
 le: ∀p∈r,ZP.le 100 p
 ne: ∀i<r.length,r.getD i (0,0)≠gu r i
def Bq{r:List ZP}{i:Nat}(h:i<r.length):r.getD i (0,0)∈r:=by
 rw[aX,aQ h];exact bL h
def BX{r:List ZP}{i:Nat}(h:i<r.length):gu r i∈r:=Bq (cS _ (by omega))
theorem BQ.int1200{m:Int}(h:m.natAbs<=1000:=by decide):BQ (m:Rat) 1200:=by
 haveI:BI m 11:=jz h;exact BQ.mono (inferInstance:BQ (m:Rat) 12)
theorem M9{l:ab}(hl:LB l)(ho:l.ok){m n:Int}(hm:m.natAbs<=1000)(hn:n.natAbs<=1000):BQ (fG l (iP m n)) 1200:=by
 haveI:=jz (k:=11) hm;haveI:=jz (k:=11) hn;have hd:=Bh ho.ne;have hA:BI (l.a*l.a+l.b*l.b) _:=inferInstance;have hB:BI (m*l.b-n*l.a) _:=inferInstance;have hA':=ED (j:=1200) hA;have hB':=ED (j:=1200) hB;have e1:l.dir.dot l.dir=((l.a*l.a+l.b*l.b:Int):Rat):=by
  rw[pY,cR,cR];simp only[ab.dir,aa.dot];grind
 have e2:(iP m n).dot l.dir=((m*l.b-n*l.a:Int):Rat):=by
  rw[jM,cR,cR];simp only[ab.dir,aa.dot,iP];grind
 have hd':((0:Int):Rat)<((l.a*l.a+l.b*l.b:Int):Rat):=by rw[<-e1];exact hd
 unfold fG;rw[e2,e1];clear hA hB e1 e2;generalize l.a*l.a+l.b*l.b=D at*;generalize m*l.b-n*l.a=M at*;have hD:0<D:=Rat.intCast_lt_intCast.1 hd';refine BQ.of_fracI (n:=M) (D:=D) (by omega) ?_ hB' hA';have h0:(D:Rat)≠0:=fun e=>by rw[e] at hd';exact absurd hd' (by decide)
 have:((D.natAbs:Nat):Rat)=(D:Rat):=by
  have h1:((D.natAbs:Nat):Int)=D:=by omega
  rw[<-h1];rfl
 rw[this];grind
def aDo{v w:ZP}(hv:ZP.le 100 v)(hw:ZP.le 100 w)(h:v≠w):nk (kv v w):=by
 obtain⟨h1,h2⟩:=KL (m:=v.1) (n:=v.2) (p:=w.1) (q:=w.2) (by have:=hv.1;omega) (by have:=hv.2;omega) (by have:=hw.1;omega) (by have:=hw.2;omega) (fun e=>h (Prod.ext e.1.symm e.2.symm));exact⟨h1,h2,⟨fun e=>(by cases e),fun e=>(by cases e)⟩,M9 h1 h2 (by have:=hv.1;omega) (by have:=hv.2;omega),M9 h1 h2 (by have:=hw.1;omega) (by have:=hw.2;omega)⟩
def J'{r:List ZP}(h:d7 r): ∀{k:Nat},k<=r.length->(qv r k).length=k/\ ∀f∈qv r k,nk f
 |0,_=>⟨J,fun f hf=>by cases hf⟩
 |k+1,hk=>by
  obtain⟨h1,h2⟩:=J' h (k:=k) (by omega);rw[qv];refine⟨by simp[h1],fun f hf=>?_⟩;rcases bK.1 hf with hf|hf
  .exact h2 f hf
  .rw[aU] at hf;subst hf
   exact aDo (h.le _ (Bq (by omega))) (h.le _ (BX (by omega))) (h.ne k (by omega))
def EC{r:List ZP}(h:d7 r):(km r).length=r.length/\ ∀f∈km r,nk f:=J' h (aM _)
def ip(rs:List (List ZP)):List aP:=rs.flatMap km
def tO: ∀{rs:List (List ZP)},(∀r∈rs,d7 r)->(ip rs).length<=6*rs.length/\ ∀f∈ip rs,nk f
 |[],_=>⟨aM _,fun f hf=>by cases hf⟩
 |r::rs,h=>by
  obtain⟨h1,h2⟩:=tO (rs:=rs) fun q hq=>h q (aK _ hq);obtain⟨k1,k2⟩:=EC (h r aZ);have:=(h r aZ).n6;unfold ip at*;rw[kR];refine⟨by rw[aW,k1,bJ];omega,fun f hf=>?_⟩;rcases bK.1 hf with hf|hf
  .exact k2 f hf
  .exact h2 f hf
def yP(a b c:aa):Int:=(aa.cross (bP b a (-1)) (bP c a (-1))).num.sign
def qp(v w p:aa):Int:=
 (if bg v.y p.y<=0/\ ¬bg w.y p.y<=0/\0<yP v w p then 1 else 0)-(if¬bg v.y p.y<=0/\bg w.y p.y<=0/\yP v w p<0 then 1 else 0)
def oE(r:List ZP)(p:aa):Nat->Int
 |0=>0
 |k+1=>oE r p k+qp (r.getD k (0,0)).q (gu r k).q p
def ly(r:List ZP)(p:aa):Int:=oE r p r.length
def ur(fill n:Int):Bool:=(decide (fill=1)&&decide (n.tmod 2≠0))||(decide (fill=2)&&decide (n≠0))
def l6(rs:List (List ZP))(fill:Int)(p:aa):Bool:=ur fill (rs.foldl (fun n r=>n+ly r p) 0)
def wD(rs:List (List ZP))(fill:Int):Tr:=jg (l6 rs fill) (ip rs).length (ip rs) []
def l7(rs:List (List ZP))(fill:Int):Tr:=(wD rs fill).restrict []
structure jj (k:Nat) (t:Tr):Prop where
 gd:t.gd
 dp:t.depth<=k
 am: ∃K:List ab,K.length<=k/\(∀l∈K,l.ok)/\lH K t
def Gm{acc:aa->Bool}{n:Nat}{l:List aP}(h: ∀f∈l,nk f)(hn:l.length=n):jj n (jg acc n l []):=
 ⟨⟨wn fun f hf=>(h f hf).lb,wn fun f hf=>(h f hf).ok⟩,HJ,l.map (·.l),by rw[aJ,hn];exact aM _,fun m hm=>by
  obtain⟨f,hf,rfl⟩:=bQ.1 hm;exact(h f hf).ok,wn fun f hf=>⟨f.l,fS hf, .inl rfl⟩⟩
def jj.restrict{k:Nat}{t:Tr}(h:jj k t)(c:az):jj k (t.restrict c):=by
 obtain⟨K,h1,h2,h3⟩:=h.am;exact⟨apU h.gd c,cY (t.restrict_depth c) h.dp,K,h1,h2,h3.restrict c⟩
def jj.mono{j k:Nat}{t:Tr}(h:jj j t)(hk:j<=k):jj k t:=by
 obtain⟨K,h1,h2,h3⟩:=h.am;exact⟨h.gd,cY h.dp hk,K,by omega,h2,h3⟩
def jj.merge{j k:Nat}{op:Int}{t u:Tr}(h:jj j t)(hu:jj k u):jj (j+k) (t.mergeQ op u []):=by
 obtain⟨K,h1,h2,h3⟩:=h.am;obtain⟨M,k1,k2,k3⟩:=hu.am;refine⟨⟨Tr.mergeQ_all LB op hu.gd.lb t [] h.gd.lb,Tr.mergeQ_all ab.ok op hu.gd.ok t [] h.gd.ok⟩,cY (Tr.mergeQ_depth op u t []) (by have:=h.dp;have:=hu.dp;omega),K++M,by rw[aW];omega,fun l hl=>(bK.1 hl).elim (h2 l) (k2 l),?_⟩;exact(h3.mono fun l hl=>⟨l,bM _ hl, .inl J⟩).merge (k3.mono fun l hl=>⟨l,cW _ hl, .inl J⟩) []
def Mq{rs:List (List ZP)}{fill:Int}(h: ∀r∈rs,d7 r)(hn:rs.length<=3):jj 18 (l7 rs fill):=by
 obtain⟨h1,h2⟩:=tO h;exact((Gm (acc:=l6 rs fill) h2 J).restrict []).mono (by omega)
end Go.Sx
end
