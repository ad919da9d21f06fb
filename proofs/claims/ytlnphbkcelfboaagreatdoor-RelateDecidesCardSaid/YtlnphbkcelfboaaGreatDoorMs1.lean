/-
  A way of stating and walking calls that only make memory: what lies in memory, what is known of a frame, operations that yield a value. Steps that change the world, results, loops, regions that draw their order.
-/
import Derived.Calls
import Derived.Orders
import Derived.OrdersHeld
import Derived.Laws.World
import Derived.Below
import Derived.IntWalk
import Derived.KernelRfl
import Derived.Laws.Append
set_option linter.unusedSimpArgs false
set_option linter.unusedVariables false
section
namespace Go.Sx
theorem J{α:Sort _}{a:α}:a=a:=rfl
open Go
/-! ### The store of what no one writes any more: block number to its cells -/
abbrev Gh:=Nat→Option (List Value)
def GLe(G G':Gh):Prop:= ∀b cs,G b=some cs→G' b=some cs
theorem GLe.refl(G:Gh):GLe G G:=fun _ _ h=>h
theorem GLe.trans{a b c:Gh}(h:GLe a b)(k:GLe b c):GLe a c:=fun _ _ x=>k _ _ (h _ _ x)
structure Own where
 b:Nat
 cs:List Value
 ty:TypeId
 lo:Bool
structure Ctx where
 w0:World
 G0:Gh
 mb:List Nat
structure HRel (C:Ctx) (own:List Own) (G:Gh) (w:World):Prop where
 os:w.os=C.w0.os
 tape:w.tape=C.w0.tape
 output:w.output=C.w0.output
 size:C.w0.heap.size≤w.heap.size
 keep: ∀b,b<C.w0.heap.size→b∉C.mb→w.heap[b]? =C.w0.heap[b]?
 sub: ∀b cs,G b=some cs→ ∃ty fz,w.heap[b]? =some (.cells ⟨cs⟩ ty fz)
 gle:GLe C.G0 G
 gold: ∀b,b<C.w0.heap.size→G b=C.G0 b
 hown: ∀o∈own,w.heap[o.b]? =some (.cells ⟨o.cs⟩ o.ty (0,0))∧G o.b=none∧(o.lo=true→C.w0.heap.size≤o.b)∧(o.lo=false→o.b∈C.mb)
 nd:own.Pairwise (fun x y=>x.b≠y.b)
abbrev Fr:=List (Nat×Value)
def look:Fr→Nat→Option Value
 |[],_=>none
 |(k,v)::t,j=>bif Nat.beq k j then some v else look t j
def put(fr:Fr)(dst:Option Nat)(v:Value):Fr:=match dst with|some d=>(d,v)::fr|none=>fr
def FrOk(fr:Fr)(a:Act):Prop:= ∀k v,look fr k=some v→a.tmps[k]? =some v
structure Rel (C:Ctx) (n:Nat) (fr:Fr) (own:List Own) (G:Gh) (a:Act) (w:World):Prop where
 h:HRel C own G w
 sz:a.tmps.size=n
 fr:FrOk fr a
 df:a.defers=[]
def St(C:Ctx)(n:Nat)(fr:Fr)(own:List Own)(G:Gh)(Φ:Act→World→Prop):Prop:=
 ∀a w,Rel C n fr own G a w→Φ a w
def opv(fr:Fr):Operand→Option Value
 | .tmp k=>look fr k
 | .const v=>some v
 | .global g=>some (.pointer (some ⟨g,0,none⟩))
 | .func f=>some (.func (.func f) #[] #[])
theorem opv_eval{fr:Fr}{a:Act}(h:FrOk fr a){x:Operand}{v:Value}(hx:opv fr x=some v):a.eval x=v:=by
 cases x with
 |tmp k=>
  have:=h k v hx
  simp only[Act.eval,Array.getD_eq_getD_getElem?,this,Option.getD_some]
 |const u=>simpa[opv,Act.eval] using hx
 |global g=>simpa[opv,Act.eval] using hx
 |func f=>simpa[opv,Act.eval] using hx
theorem look_cons(k:Nat)(v:Value)(t:Fr)(j:Nat):look ((k,v)::t) j=if k=j then some v else look t j:=by
 simp only[look]
 by_cases h:k=j
 ·simp[h]
 ·have:Nat.beq k j=false:=by
   cases hb:Nat.beq k j with
   |false=>rfl
   |true=>exact absurd (Nat.eq_of_beq_eq_true hb) h
  simp[this,h]
def dstOk(n:Nat):Option Nat→Bool
 |some d=>Nat.blt d n
 |none=>true
theorem FrOk.put{fr:Fr}{a:Act}{n:Nat}(h:FrOk fr a)(hs:a.tmps.size=n){dst:Option Nat}{v:Value}(hd:dstOk n dst=true):FrOk (Sx.put fr dst v) (a.put dst v):=by
 cases dst with
 |none=>exact h
 |some d=>
  intro k u hk
  have hdn:d<n:=by simpa[dstOk,Nat.blt_eq] using hd
  simp only[Sx.put,look_cons] at hk
  simp only[Act.put,Array.getElem?_setIfInBounds]
  by_cases hkd:d=k
  ·simp only[hkd,if_true] at hk
   subst hkd
   simp[hs,hdn,hk]
  ·simp only[hkd,if_false] at hk
   simp only[hkd,if_false]
   exact h k u hk
theorem put_size(a:Act)(dst:Option Nat)(v:Value):(a.put dst v).tmps.size=a.tmps.size:=by cases dst<;>simp[Act.put]
theorem put_defers(a:Act)(dst:Option Nat)(v:Value):(a.put dst v).defers=a.defers:=by cases dst<;>simp[Act.put]
theorem Rel.put{C n fr own G a w}(r:Rel C n fr own G a w){dst:Option Nat}(v:Value)(hd:dstOk n dst=true):Rel C n (Sx.put fr dst v) own G (a.put dst v) w:=
 ⟨r.h,by rw[put_size];exact r.sz,r.fr.put r.sz hd,by rw[put_defers];exact r.df⟩
theorem Rel.heap{C n fr own G own' G' a w w'}(r:Rel C n fr own G a w)(h:HRel C own' G' w'):Rel C n fr own' G' a w':=⟨h,r.sz,r.fr,r.df⟩
/-! ### Regions, a row of operations -/
def wpL(P:Program)(ops:Array Oper)(Q:Exit→Act→World→Prop):List Oper→Act→World→Prop
 |[],a,w=>Q .normal a w
 |o::r,a,w=>if Region.wanted o (yielded ops a.tmps) then o.wp P a w (wpL P ops Q r) Q else wpL P ops Q r (a.put o.dst undef) w
theorem wpOps_of_wpL{P:Program}{ops:Array Oper}{Q:Exit→Act→World→Prop}: ∀(l:List Nat) (k:Nat) (a:Act) (w:World),l=(List.range ops.size).drop k→wpL P ops Q (ops.toList.drop k) a w→wpOps P ops Q l a w:=by
 intro l
 induction l with
 |nil=>
  intro k a w hl h
  have hk:ops.size≤k:=by
   have:=congrArg List.length hl
   simp at this;omega
  rw[List.drop_eq_nil_of_le (by simpa using hk)] at h
  exact h
 |cons i t ih=>
  intro k a w hl h
  have hk:k<ops.size:=by
   have:=congrArg List.length hl
   simp at this;omega
  rw[List.drop_eq_getElem_cons (by simpa using hk)] at hl
  obtain⟨hi,ht⟩:=List.cons.inj hl
  simp only[List.getElem_range] at hi
  subst hi
  rw[List.drop_eq_getElem_cons (by simpa using hk)] at h
  have ho:ops[i]? =some ops[i]:=Array.getElem?_eq_getElem hk
  simp only[wpOps,ho]
  simp only[wpL,Array.getElem_toList] at h
  split
  ·rename_i hw
   simp only[hw,if_true] at h
   exact .inl (Oper.wp_mono (fun a w h=>ih (i+1) a w ht h) h)
  ·rename_i hw
   simp only[hw] at h
   exact ih (i+1) _ w ht h
theorem wp_region_L{P:Program}{id:Nat}{ops:Array Oper}{Q:Exit→Act→World→Prop}{a:Act}{w:World}
  (h:wpL P ops Q ops.toList a w):(Code.region id ops false).wp P Q a w:=
 wp_region (wpOps_of_wpL _ 0 a w (by simp) (by simpa using h))
/-! ### Operations that yield a value and leave the world alone -/
def Yd(P:Program)(C:Ctx)(fr:Fr)(own:List Own)(G:Gh)(o:Oper)(v:Value):Prop:=
 ∀a w,FrOk fr a→HRel C own G w→(execOp a.eval o).run P w= .ok (.value v) w
section
variable {P:Program} {C:Ctx} {n:Nat} {fr:Fr} {own:List Own} {G:Gh} {ops:Array Oper} {Q:Exit→Act→World→Prop} {r:List Oper}
theorem st_y{o:Oper}{v:Value}(hy:Yd P C fr own G o v)(hg:o.guard=none)(hd:dstOk n o.dst=true)
  (h:St C n (put fr o.dst v) own G (wpL P ops Q r)):St C n fr own G (wpL P ops Q (o::r)):=by
 intro a w rl
 simp only[wpL,Region.wanted,hg,if_true,Oper.wp,hy a w rl.fr rl.h,Oper.upon]
 exact h _ _ (rl.put v hd)
theorem yielded_of{a:Act}{j d:Nat}{b:Bool}(hf:FrOk fr a)(hj:(ops[j]?).bind (·.dst)=some d)(hl:look fr d=some (.bool b)):yielded ops a.tmps j=some b:=by
 unfold yielded
 rw[hj]
 simp[hf d _ hl]
theorem st_yg{o:Oper}{v:Value}{j d:Nat}{b:Bool}(hg:o.guard=some (j,b))(hj:(ops[j]?).bind (·.dst)=some d)(hl:look fr d=some (.bool b))
  (hy:Yd P C fr own G o v)(hd:dstOk n o.dst=true)
  (h:St C n (put fr o.dst v) own G (wpL P ops Q r)):St C n fr own G (wpL P ops Q (o::r)):=by
 intro a w rl
 have:Region.wanted o (yielded ops a.tmps)=true:=by simp[Region.wanted,hg,yielded_of rl.fr hj hl]
 simp only[wpL,this,if_true,Oper.wp,hy a w rl.fr rl.h,Oper.upon]
 exact h _ _ (rl.put v hd)
theorem st_skip{o:Oper}{j d:Nat}{b c:Bool}(hg:o.guard=some (j,b))(hj:(ops[j]?).bind (·.dst)=some d)(hl:look fr d=some (.bool c))(hbc:(c==b)=false)
  (hd:dstOk n o.dst=true)(h:St C n (put fr o.dst undef) own G (wpL P ops Q r)):St C n fr own G (wpL P ops Q (o::r)):=by
 intro a w rl
 have:Region.wanted o (yielded ops a.tmps)=false:=by simp[Region.wanted,hg,yielded_of rl.fr hj hl,hbc]
 simp only[wpL,this]
 exact h _ _ (rl.put undef hd)
theorem zE(h:St C n fr own G (Q .normal)):St C n fr own G (wpL P ops Q []):=h
theorem st_region{id:Nat}(h:St C n fr own G (wpL P ops Q ops.toList)):St C n fr own G ((Code.region id ops false).wp P Q):=
 fun a w rl=>wp_region_L (h a w rl)
theorem st_seq{x y:Code}(h:St C n fr own G (x.wp P (Exit.then (y.wp P Q) Q))):St C n fr own G ((Code.seq x y).wp P Q):=
 fun a w rl=>wp_seq (h a w rl)
theorem zK(h:St C n fr own G (Q .normal)):St C n fr own G (Code.skip.wp P Q):=fun a w rl=>wp_skip (h a w rl)
theorem st_ret(h:St C n fr own G (Q .ret)):St C n fr own G (Code.ret.wp P Q):=fun a w rl=>wp_ret (h a w rl)
theorem st_exit{id:Nat}(h:St C n fr own G (Q (.exit id))):St C n fr own G ((Code.exit id).wp P Q):=fun a w rl=>wp_exit (h a w rl)
theorem st_block{id:Nat}{c:Code}(h:St C n fr own G (c.wp P (Exit.inBlock id Q))):St C n fr own G ((Code.block id c).wp P Q):=
 fun a w rl=>wp_block (h a w rl)
theorem st_inBlock_eq{id:Nat}{Q:Exit→Act→World→Prop}(h:St C n fr own G (Q .normal)):St C n fr own G (Exit.inBlock id Q (.exit id)):=
 fun a w rl=>by simp only[Exit.inBlock,if_true];exact h a w rl
theorem st_inBlock_ne{id j:Nat}{Q:Exit→Act→World→Prop}(hne:Nat.beq j id=false)(h:St C n fr own G (Q (.exit j))):St C n fr own G (Exit.inBlock id Q (.exit j)):=
 fun a w rl=>by
  have:j≠id:=fun e=>by subst e;simp at hne
  simp only[Exit.inBlock,this,if_false];exact h a w rl
theorem st_condT{c:Operand}{x y:Code}(hc:opv fr c=some (.bool true))(h:St C n fr own G (x.wp P Q)):St C n fr own G ((Code.cond c x y).wp P Q):=
 fun a w rl=>wp_cond_true (opv_eval rl.fr hc) (h a w rl)
theorem st_condF{c:Operand}{x y:Code}(hc:opv fr c=some (.bool false))(h:St C n fr own G (y.wp P Q)):St C n fr own G ((Code.cond c x y).wp P Q):=
 fun a w rl=>wp_cond_false (opv_eval rl.fr hc) (h a w rl)
theorem st_condP{p:Prop}{inst:Decidable p}{c:Operand}{x y:Code}(hc:opv fr c=some (.bool (@decide p inst)))(h1:p→St C n fr own G (x.wp P Q))(h2: ¬p→St C n fr own G (y.wp P Q)):
  St C n fr own G ((Code.cond c x y).wp P Q):=
 fun a w rl=>wp_cond_split (opv_eval rl.fr hc) (fun h=>h1 (of_decide_eq_true h) a w rl) (fun h=>h2 (of_decide_eq_false h) a w rl)
theorem st_condB{b:Bool}{c:Operand}{x y:Code}(hc:opv fr c=some (.bool b))(h1:b=true→St C n fr own G (x.wp P Q))(h2:b=false→St C n fr own G (y.wp P Q)):
  St C n fr own G ((Code.cond c x y).wp P Q):=
 fun a w rl=>wp_cond_split (opv_eval rl.fr hc) (fun h=>h1 h a w rl) (fun h=>h2 h a w rl)
theorem st_case{Φ:Act→World→Prop}(d:Nat){b:Bool}(hl:look fr d=some (.bool b))(h1:b=true→St C n ((d, .bool true)::fr) own G Φ)(h2:b=false→St C n ((d, .bool false)::fr) own G Φ):St C n fr own G Φ:=by
 intro a w rl
 cases b with
 |true=>exact h1 rfl a w ⟨rl.h,rl.sz,fun k v hk=>by
   rw[look_cons] at hk;split at hk
   ·subst_vars;cases hk;exact rl.fr _ _ hl
   ·exact rl.fr _ _ hk,rl.df⟩
 |false=>exact h2 rfl a w ⟨rl.h,rl.sz,fun k v hk=>by
   rw[look_cons] at hk;split at hk
   ·subst_vars;cases hk;exact rl.fr _ _ hl
   ·exact rl.fr _ _ hk,rl.df⟩
theorem st_caseP{Φ:Act→World→Prop}(d:Nat){p:Prop}{inst:Decidable p}(hl:look fr d=some (.bool (@decide p inst)))(h1:p→St C n ((d, .bool true)::fr) own G Φ)(h2: ¬p→St C n ((d, .bool false)::fr) own G Φ):St C n fr own G Φ:=
 st_case d hl (fun h=>h1 (of_decide_eq_true h)) (fun h=>h2 (of_decide_eq_false h))
def FrLe(fr' fr:Fr):Prop:= ∀k v,look fr' k=some v→look fr k=some v
theorem FrLe.nil:FrLe [] fr:=fun _ _ h=>by cases h
theorem FrLe.cons{fr':Fr}{k:Nat}{v:Value}(h:look fr k=some v)(t:FrLe fr' fr):FrLe ((k,v)::fr') fr:=fun j u hj=>by
 rw[look_cons] at hj
 split at hj
 ·subst_vars;cases hj;exact h
 ·exact t _ _ hj
theorem st_frame{Φ:Act→World→Prop}(fr':Fr)(hle:FrLe fr' fr)(h:St C n fr' own G Φ):St C n fr own G Φ:=
 fun a w rl=>h a w ⟨rl.h,rl.sz,fun k v hk=>rl.fr _ _ (hle _ _ hk),rl.df⟩
end
/-! ### What lies in memory -/
class OAt (own:List Own) (b:Nat) (cs:outParam (List Value)) (ty:outParam TypeId) (lo:outParam Bool):Prop where
 mem:⟨b,cs,ty,lo⟩∈own
instance OAt.i1 (b:Nat) (cs:List Value) (ty:TypeId) (lo:Bool) (t:List Own):OAt (⟨b,cs,ty,lo⟩::t) b cs ty lo:=⟨List.mem_cons_self⟩
instance OAt.i2 (o:Own) (t:List Own) (b:Nat) (cs:List Value) (ty:TypeId) (lo:Bool) [h:OAt t b cs ty lo]:OAt (o::t) b cs ty lo:=⟨List.mem_cons_of_mem _ h.mem⟩
inductive OUpd:List Own→Nat→List Value→TypeId→Bool→List Value→List Own→Prop
 |hd (b:Nat) (cs cs':List Value) (ty:TypeId) (lo:Bool) (t:List Own):OUpd (⟨b,cs,ty,lo⟩::t) b cs ty lo cs' (⟨b,cs',ty,lo⟩::t)
 |tl (o:Own) (t t':List Own) (b:Nat) (cs cs':List Value) (ty:TypeId) (lo:Bool) (h:OUpd t b cs ty lo cs' t'):OUpd (o::t) b cs ty lo cs' (o::t')
inductive ORem:List Own→Own→List Own→Prop
 |hd (o:Own) (t:List Own):ORem (o::t) o t
 |tl (x:Own) (t t':List Own) (o:Own) (h:ORem t o t'):ORem (x::t) o (x::t')
class GE (A:outParam Gh) (B:Gh):Prop where le:GLe A B
class GL (A B:Gh):Prop where le:GLe A B
instance GL.refl (A:Gh):GL A A:=⟨GLe.refl A⟩
instance GL.step (A B C:Gh) [h:GE B C] [k:GL A B]:GL A C:=⟨k.le.trans h.le⟩
class GHas (G:outParam Gh) (b:Nat) (cs:outParam (List Value)):Prop where h:G b=some cs
theorem GHas.up{A G:Gh}{b:Nat}{cs:List Value}(h:GHas A b cs)[k:GL A G]:G b=some cs:=k.le _ _ h.h
def takeL:List Value→Nat→Nat→Option (List Value)
 |_,0,0=>some []
 |[],0,_+1=>none
 |v::t,0,k+1=>match takeL t 0 k with|some l=>some (v::l)|none=>none
 |[],_+1,_=>none
 |_::t,off+1,k=>takeL t off k
def ovw:List Value→Nat→List Value→List Value
 |cs,_,[]=>cs
 |cs,off,v::vs=>ovw (cs.set off v) (off+1) vs
theorem takeL_spec: ∀(cs:List Value) (off k:Nat) (l:List Value),takeL cs off k=some l→l.length=k∧ ∀i,i<k→cs[off+i]? =l[i]?
 |cs,0,0,l,h=>by
  cases cs<;>(simp only[takeL] at h;cases h;exact⟨rfl,fun i hi=>absurd hi (Nat.not_lt_zero _)⟩)
 |[],0,_+1,l,h=>by simp[takeL] at h
 |v::t,0,k+1,l,h=>by
  simp only[takeL] at h
  split at h
  ·rename_i l' hl'
   cases h
   obtain⟨h1,h2⟩:=takeL_spec t 0 k l' hl'
   refine⟨by simp[h1],fun i hi=>?_⟩
   cases i with
   |zero=>rfl
   |succ i=>
    have:=h2 i (by omega)
    simpa using this
  ·cases h
 |[],_+1,_,l,h=>by simp[takeL] at h
 |_::t,off+1,k,l,h=>by
  simp only[takeL] at h
  obtain⟨h1,h2⟩:=takeL_spec t off k l h
  refine⟨h1,fun i hi=>?_⟩
  have:=h2 i hi
  rw[←this,show off+1+i=(off+i)+1 by omega]
  rfl
/-! ### What the program's types are -/
class TyA (P:Program) (t:TypeId) (k:outParam Nat):Prop where
 agg: ∀w,(isAgg t).run P w= .ok true w
 siz: ∀w,(sizeOf t).run P w= .ok k w
class TyS (P:Program) (t:TypeId):Prop where
 agg: ∀w,(isAgg t).run P w= .ok false w
 siz: ∀w,(sizeOf t).run P w= .ok 1 w
class TyZ (P:Program) (t:TypeId) (z:outParam Value):Prop where
 inf:(P.info? t).map (·.zero)=some (some z)
class TyF (P:Program) (t:TypeId) (f:Nat) (off:outParam Nat):Prop where
 at_: ∀(b o:Nat) w,(Instr.fieldAt t (.pointer (some ⟨b,o,none⟩)) f).run P w= .ok (.pointer (some (Addr.add ⟨b,o,none⟩ off))) w
class TySl (P:Program) (t:TypeId) (e s by_:outParam Nat):Prop where
 un:P.underlying t=some (.slice e)
 inf:(P.info? e).map (fun i=>(i.size,i.bytes))=some (s,by_)
theorem TyZ.info{P:Program}{t:TypeId}{z:Value}(h:TyZ P t z): ∃i,P.info? t=some i∧i.zero=some z:=by
 have:=h.inf
 cases hi:P.info? t with
 |none=>rw[hi] at this;cases this
 |some i=>rw[hi] at this;exact⟨i,rfl,by simpa using this⟩
theorem TySl.info{P:Program}{t e s by_:Nat}(h:TySl P t e s by_): ∃i,P.info? e=some i∧i.size=s∧i.bytes=by_:=by
 have:=h.inf
 cases hi:P.info? e with
 |none=>rw[hi] at this;cases this
 |some i=>rw[hi] at this;simp at this;exact⟨i,rfl,this.1,this.2⟩
theorem addr_add(b o n:Nat):Addr.add ⟨b,o,none⟩ n=⟨b,o+n,none⟩:=by
 unfold Addr.add
 split
 ·subst_vars;rfl
 ·rfl
theorem Sem.run_bind{α β:Type}(P:Program)(x:Sem α)(f:α→Sem β): ∀(w:World),(x>>=f).run P w=match x.run P w with| .ok a w'=>(f a).run P w'| .halt h w'=> .halt h w':=by
 show∀w,(Sem.bind x f).run P w=_
 induction x with
 |pure a=>intro w;rfl
 |load m a k ih=>
  intro w
  simp only[Sem.bind,Sem.run]
  split
  ·exact ih _ w
  ·split
   ·exact ih _ w
   ·rfl
 |store m a v k ih=>
  intro w
  cases v<;>simp only[Sem.bind,Sem.run]<;>(try rfl)<;>(split<;>first|(split<;>first|rfl|exact ih _)|rfl)
 |new o k ih=>intro w;exact ih _ _
 |shape r k ih=>intro w;exact ih _ _
 |freeze a n k ih=>intro w;exact ih _
 |frozen a k ih=>intro w;exact ih _ _
 |getObj r k ih=>
  intro w
  simp only[Sem.bind,Sem.run]
  split
  ·rfl
  ·exact ih _ w
  ·rfl
 |setObj r o k ih=>
  intro w
  simp only[Sem.bind,Sem.run]
  split
  ·rfl
  ·exact ih _
  ·rfl
 |choose q k ih=>
  intro w
  simp only[Sem.bind,Sem.run]
  split
  ·exact ih _ _
  ·exact ih _ _
 |sys c k ih=>intro w;exact ih _ _
 |program k ih=>intro w;exact ih _ _
 |mark m k ih=>intro w;exact ih _
 |halt h=>intro w;rfl
theorem run_pure{α:Type}(P:Program)(a:α)(w:World):(pure a:Sem α).run P w= .ok a w:=rfl
theorem run_ok_bind{α β:Type}{P:Program}{x:Sem α}{f:α→Sem β}{w w':World}{a:α}(h:x.run P w= .ok a w'):(x>>=f).run P w=(f a).run P w':=by
 rw[Sem.run_bind,h]
theorem TyZ.zero{P:Program}{t:TypeId}{z:Value}(h:TyZ P t z)(w:World):(zeroValue t).run P w= .ok z w:=by
 obtain⟨i,h1,h2⟩:=h.info
 simp[zeroValue,typeInfo,program,Sem.run_bind,Sem.run,h1,h2,run_pure]
theorem TySl.u{P:Program}{t e s by_:Nat}(h:TySl P t e s by_)(w:World):(underlying t).run P w= .ok (.slice e) w:=by
 simp[underlying,program,Sem.run_bind,Sem.run,h.un,run_pure]
theorem TySl.siz{P:Program}{t e s by_:Nat}(h:TySl P t e s by_)(w:World):(sizeOf e).run P w= .ok s w:=by
 obtain⟨i,h1,h2,_⟩:=h.info
 simp[sizeOf,typeInfo,program,Sem.run_bind,Sem.run,h1,h2,run_pure]
section
variable {P:Program} {C:Ctx} {n:Nat} {fr:Fr} {own:List Own} {G:Gh} {ops:Array Oper} {Q:Exit→Act→World→Prop} {r:List Oper}
/-! ### loads -/
theorem cell_of_block{w:World}{b:Nat}{cs:List Value}{ty:TypeId}{fz:Nat×Nat}(h:w.heap[b]? =some (.cells ⟨cs⟩ ty fz))(i:Nat):w.cell? ⟨b,i,none⟩=cs[i]? :=by
 simp[World.cell?,h]
theorem run_load{w:World}{a:Addr}{v:Value}(h:w.cell? a=some v):(load a).run P w= .ok v w:=by
 simp[load,Sem.run,h]
theorem run_loadCellsFrom{w:World}{b off:Nat}{l:List Value}: ∀(m i:Nat) (acc:Array Value),(∀j,j<m→w.cell? ⟨b,off+(i+j),none⟩=l[i+j]?)→i+m≤l.length→
  (loadCellsFrom ⟨b,off,none⟩ i m acc).run P w= .ok (acc++((l.drop i).take m).toArray) w
 |0,i,acc,_,_=>by simp[loadCellsFrom,run_pure]
 |m+1,i,acc,h,hl=>by
  have h0:=h 0 (by omega)
  rw[Nat.add_zero,List.getElem?_eq_getElem (by omega)] at h0
  unfold loadCellsFrom
  rw[run_ok_bind (a:=l[i]) (w':=w) (by rw[addr_add];exact run_load h0)]
  rw[run_loadCellsFrom m (i+1) (acc.push l[i]) (fun j hj=>by have:=h (j+1) (by omega);rw[show i+1+j=i+(j+1) by omega];exact this) (by omega)]
  congr 1
  rw[List.drop_eq_getElem_cons (by omega:i<l.length),List.take_succ_cons]
  apply Array.ext'
  simp
theorem run_loadVar_agg{w:World}{b off k:Nat}{t:TypeId}{cs l:List Value}[ht:TyA P t k]{ty:TypeId}{fz:Nat×Nat}(h:w.heap[b]? =some (.cells ⟨cs⟩ ty fz))(hl:takeL cs off k=some l):
  (loadVar t ⟨b,off,none⟩).run P w= .ok (.agg ⟨l⟩) w:=by
 obtain⟨h1,h2⟩:=takeL_spec _ _ _ _ hl
 unfold loadVar
 rw[run_ok_bind (ht.agg w)]
 simp only[if_true]
 rw[run_ok_bind (ht.siz w)]
 unfold loadCells
 rw[run_ok_bind (run_loadCellsFrom (l:=l) k 0 #[] (fun j hj=>by rw[cell_of_block h];simpa using h2 j hj) (by omega))]
 simp[run_pure,←h1]
theorem run_loadVar_sc{w:World}{b off:Nat}{t:TypeId}{cs:List Value}{v:Value}[ht:TyS P t]{ty:TypeId}{fz:Nat×Nat}(h:w.heap[b]? =some (.cells ⟨cs⟩ ty fz))(hl:cs[off]? =some v):
  (loadVar t ⟨b,off,none⟩).run P w= .ok v w:=by
 unfold loadVar
 rw[run_ok_bind (ht.agg w)]
 simp only[Bool.false_eq_true,if_false]
 exact run_load (by rw[cell_of_block h];exact hl)
theorem value_of{α:Type}{f:α→Next}{s:Sem α}{w w':World}{a:α}(h:s.run P w= .ok a w'):(do pure (f (←s)):Sem Next).run P w= .ok (f a) w':=by
 rw[run_ok_bind h];rfl
theorem yd_load_own{dst:Option Nat}{t ty':TypeId}{pos:String}{af:Array Edge}{gd:Option (Nat×Bool)}{x:Operand}{b off k:Nat}{cs l:List Value}{lo:Bool}{ty:TypeId}
  (hx:opv fr x=some (.pointer (some ⟨b,off,none⟩)))[ho:OAt own b cs ty lo][TyA P t k](hl:takeL cs off k=some l):
  Yd P C fr own G ⟨dst, .load t x,ty',pos,af,gd⟩ (.agg ⟨l⟩):=by
 intro a w hf hh
 simp only[execOp,opv_eval hf hx,Instr.loadAt,Instr.sureAddr]
 exact value_of (run_loadVar_agg (hh.hown _ ho.mem).1 hl)
theorem yd_load_own1{dst:Option Nat}{t ty':TypeId}{pos:String}{af:Array Edge}{gd:Option (Nat×Bool)}{x:Operand}{b off:Nat}{cs:List Value}{v:Value}{lo:Bool}{ty:TypeId}
  (hx:opv fr x=some (.pointer (some ⟨b,off,none⟩)))[ho:OAt own b cs ty lo][TyS P t](hl:cs[off]? =some v):
  Yd P C fr own G ⟨dst, .load t x,ty',pos,af,gd⟩ v:=by
 intro a w hf hh
 simp only[execOp,opv_eval hf hx,Instr.loadAt,Instr.sureAddr]
 exact value_of (run_loadVar_sc (hh.hown _ ho.mem).1 hl)
theorem yd_load_gh{dst:Option Nat}{t ty':TypeId}{pos:String}{af:Array Edge}{gd:Option (Nat×Bool)}{x:Operand}{b off k:Nat}{cs l:List Value}
  (hx:opv fr x=some (.pointer (some ⟨b,off,none⟩)))(hg:G b=some cs)[TyA P t k](hl:takeL cs off k=some l):
  Yd P C fr own G ⟨dst, .load t x,ty',pos,af,gd⟩ (.agg ⟨l⟩):=by
 intro a w hf hh
 obtain⟨ty,fz,hb⟩:=hh.sub _ _ hg
 simp only[execOp,opv_eval hf hx,Instr.loadAt,Instr.sureAddr]
 exact value_of (run_loadVar_agg hb hl)
theorem yd_load_gh1{dst:Option Nat}{t ty':TypeId}{pos:String}{af:Array Edge}{gd:Option (Nat×Bool)}{x:Operand}{b off:Nat}{cs:List Value}{v:Value}
  (hx:opv fr x=some (.pointer (some ⟨b,off,none⟩)))(hg:G b=some cs)[TyS P t](hl:cs[off]? =some v):
  Yd P C fr own G ⟨dst, .load t x,ty',pos,af,gd⟩ v:=by
 intro a w hf hh
 obtain⟨ty,fz,hb⟩:=hh.sub _ _ hg
 simp only[execOp,opv_eval hf hx,Instr.loadAt,Instr.sureAddr]
 exact value_of (run_loadVar_sc hb hl)
/-! ### values alone -/
variable {dst:Option Nat} {t t' ty':TypeId} {pos:String} {af:Array Edge} {gd:Option (Nat×Bool)} {x y:Operand}
theorem yd_move{v:Value}(hx:opv fr x=some v):Yd P C fr own G ⟨dst, .move x,ty',pos,af,gd⟩ v:=by
 intro a w hf hh;simp only[execOp,opv_eval hf hx];rfl
theorem yd_assign{v:Value}(hx:opv fr x=some v):Yd P C fr own G ⟨dst, .assign x,ty',pos,af,gd⟩ v:=by
 intro a w hf hh;simp only[execOp,opv_eval hf hx];rfl
theorem yd_pickT{z:Operand}{v:Value}(hc:opv fr z=some (.bool true))(hx:opv fr x=some v):Yd P C fr own G ⟨dst, .pick z x y,ty',pos,af,gd⟩ v:=by
 intro a w hf hh;simp only[execOp,opv_eval hf hc,opv_eval hf hx,asBool];rfl
theorem yd_pickF{z:Operand}{v:Value}(hc:opv fr z=some (.bool false))(hx:opv fr y=some v):Yd P C fr own G ⟨dst, .pick z x y,ty',pos,af,gd⟩ v:=by
 intro a w hf hh;simp only[execOp,opv_eval hf hc,opv_eval hf hx,asBool];rfl
theorem yd_nilCheck{ad:Addr}(hx:opv fr x=some (.pointer (some ad))):Yd P C fr own G ⟨dst, .nilCheck x,ty',pos,af,gd⟩ (.pointer (some ad)):=by
 intro a w hf hh;simp only[execOp,opv_eval hf hx];rfl
theorem yd_fieldAddr{b o f off:Nat}[hF:TyF P t f off](hx:opv fr x=some (.pointer (some ⟨b,o,none⟩))):
  Yd P C fr own G ⟨dst, .fieldAddr t x f,ty',pos,af,gd⟩ (.pointer (some ⟨b,o+off,none⟩)):=by
 intro a w hf hh;simp only[execOp,opv_eval hf hx]
 have:=hF.at_ b o w
 rw[addr_add] at this
 exact value_of this
theorem yd_extract{vs:Array Value}{i:Nat}{v:Value}(hx:opv fr x=some (.tuple vs))(hv:vs[i]? =some v):Yd P C fr own G ⟨dst, .extract x i,ty',pos,af,gd⟩ v:=by
 intro a w hf hh;simp only[execOp,opv_eval hf hx,Instr.extract,hv];rfl
theorem yd_makeFunc{fn:Fn}{c1 c2:Array Operand}{l1 l2:List Value}(h1:c1.toList.mapM (opv fr)=some l1)(h2:c2.toList.mapM (opv fr)=some l2):
  Yd P C fr own G ⟨dst, .makeFunc fn c1 c2,ty',pos,af,gd⟩ (.func fn ⟨l1⟩ ⟨l2⟩):=by
 intro a w hf hh
 have key: ∀(l:List Operand) (m:List Value),l.mapM (opv fr)=some m→l.map a.eval=m:=by
  intro l
  induction l with
  |nil=>intro m h;simp at h;subst h;rfl
  |cons o t ih=>
   intro m h
   rw[List.mapM_cons] at h
   cases ho:opv fr o with
   |none=>simp[ho] at h
   |some u=>
    cases ht:t.mapM (opv fr) with
    |none=>simp[ho,ht] at h
    |some m'=>
     simp[ho,ht] at h
     subst h
     simp[opv_eval hf ho,ih _ ht]
 have e1:c1.map a.eval=⟨l1⟩:=by apply Array.ext';simpa using key _ _ h1
 have e2:c2.map a.eval=⟨l2⟩:=by apply Array.ext';simpa using key _ _ h2
 simp only[execOp,e1,e2];rfl
/-! ### integers -/
theorem yd_int{op:BinOp}{k:IntKind}{p q:Int}{v:Value}(hx:opv fr x=some (.int k p))(hy:opv fr y=some (.int k q))(hs: ∀w,(binOp op t (.int k p) (.int k q)).run P w= .ok v w):
  Yd P C fr own G ⟨dst, .binOp op t x y t',ty',pos,af,gd⟩ v:=by
 intro a w hf hh
 simp only[execOp,opv_eval hf hx,opv_eval hf hy]
 have:(eqGuard op t x y (.int k p) (.int k q)).run P w= .ok () w:=by cases op<;>rfl
 exact value_of (by rw[run_ok_bind this];exact hs w)
theorem binOp_add(k:IntKind)(p q:Int)(w:World):(binOp .add t (.int k p) (.int k q)).run P w= .ok (.int k (k.wrap (p+q))) w:=by simp[binOp,Op.intArith,run_pure]
theorem binOp_sub(k:IntKind)(p q:Int)(w:World):(binOp .sub t (.int k p) (.int k q)).run P w= .ok (.int k (k.wrap (p-q))) w:=by simp[binOp,Op.intArith,run_pure]
theorem binOp_mul(k:IntKind)(p q:Int)(w:World):(binOp .mul t (.int k p) (.int k q)).run P w= .ok (.int k (k.wrap (p*q))) w:=by simp[binOp,Op.intArith,run_pure]
theorem binOp_quo(k:IntKind)(p q:Int)(w:World)(h:q≠0):(binOp .quo t (.int k p) (.int k q)).run P w= .ok (.int k (k.wrap (p.tdiv q))) w:=by simp[binOp,Op.intDiv,run_pure,h]
theorem binOp_rem(k:IntKind)(p q:Int)(w:World)(h:q≠0):(binOp .rem t (.int k p) (.int k q)).run P w= .ok (.int k (p.tmod q)) w:=by simp[binOp,Op.intDiv,run_pure,h]
theorem binOp_lss(k:IntKind)(p q:Int)(w:World):(binOp .lss t (.int k p) (.int k q)).run P w= .ok (.bool (decide (p<q))) w:=by simp[binOp,Op.intCmp,run_pure]
theorem binOp_leq(k:IntKind)(p q:Int)(w:World):(binOp .leq t (.int k p) (.int k q)).run P w= .ok (.bool (decide (p≤q))) w:=by simp[binOp,Op.intCmp,run_pure]
theorem binOp_gtr(k:IntKind)(p q:Int)(w:World):(binOp .gtr t (.int k p) (.int k q)).run P w= .ok (.bool (decide (q<p))) w:=by simp[binOp,Op.intCmp,run_pure]
theorem binOp_geq(k:IntKind)(p q:Int)(w:World):(binOp .geq t (.int k p) (.int k q)).run P w= .ok (.bool (decide (q≤p))) w:=by simp[binOp,Op.intCmp,run_pure]
theorem binOp_eql(k:IntKind)(p q:Int)(w:World):(binOp .eql t (.int k p) (.int k q)).run P w= .ok (.bool (decide (p=q))) w:=by
 have:(p==q)=decide (p=q):=by rw[Bool.eq_iff_iff];simp
 simp[binOp,Op.intCmp,run_pure,this]
theorem binOp_neq(k:IntKind)(p q:Int)(w:World):(binOp .neq t (.int k p) (.int k q)).run P w= .ok (.bool (decide (p≠q))) w:=by
 have:(p !=q)=decide (p≠q):=by rw[Bool.eq_iff_iff];simp
 simp[binOp,Op.intCmp,run_pure,this]
theorem wrap_in{k:IntKind}{p:Int}(h:k.min≤p∧p≤k.max):k.wrap p=p:=by
 cases k<;>simp only[IntKind.min,IntKind.max,IntKind.wrap,IntKind.bits,IntKind.signed] at* <;>simp at h⊢ <;>(try split)<;>omega
theorem yd_add{k:IntKind}{p q:Int}(hx:opv fr x=some (.int k p))(hy:opv fr y=some (.int k q))(h:k.min≤p+q∧p+q≤k.max):Yd P C fr own G ⟨dst, .binOp .add t x y t',ty',pos,af,gd⟩ (.int k (p+q)):=
 yd_int hx hy fun w=>by rw[binOp_add,wrap_in h]
theorem yd_sub{k:IntKind}{p q:Int}(hx:opv fr x=some (.int k p))(hy:opv fr y=some (.int k q))(h:k.min≤p-q∧p-q≤k.max):Yd P C fr own G ⟨dst, .binOp .sub t x y t',ty',pos,af,gd⟩ (.int k (p-q)):=
 yd_int hx hy fun w=>by rw[binOp_sub,wrap_in h]
theorem yd_mul{k:IntKind}{p q:Int}(hx:opv fr x=some (.int k p))(hy:opv fr y=some (.int k q))(h:k.min≤p*q∧p*q≤k.max):Yd P C fr own G ⟨dst, .binOp .mul t x y t',ty',pos,af,gd⟩ (.int k (p*q)):=
 yd_int hx hy fun w=>by rw[binOp_mul,wrap_in h]
theorem yd_addw{k:IntKind}{p q:Int}(hx:opv fr x=some (.int k p))(hy:opv fr y=some (.int k q)):Yd P C fr own G ⟨dst, .binOp .add t x y t',ty',pos,af,gd⟩ (.int k (k.wrap (p+q))):=yd_int hx hy fun w=>binOp_add k p q w
theorem yd_subw{k:IntKind}{p q:Int}(hx:opv fr x=some (.int k p))(hy:opv fr y=some (.int k q)):Yd P C fr own G ⟨dst, .binOp .sub t x y t',ty',pos,af,gd⟩ (.int k (k.wrap (p-q))):=yd_int hx hy fun w=>binOp_sub k p q w
theorem yd_quow{k:IntKind}{p q:Int}(hx:opv fr x=some (.int k p))(hy:opv fr y=some (.int k q))(h:q≠0):Yd P C fr own G ⟨dst, .binOp .quo t x y t',ty',pos,af,gd⟩ (.int k (k.wrap (p.tdiv q))):=yd_int hx hy fun w=>binOp_quo k p q w h
theorem yd_rem{k:IntKind}{p q:Int}(hx:opv fr x=some (.int k p))(hy:opv fr y=some (.int k q))(h:q≠0):Yd P C fr own G ⟨dst, .binOp .rem t x y t',ty',pos,af,gd⟩ (.int k (p.tmod q)):=yd_int hx hy fun w=>binOp_rem k p q w h
theorem yd_lss{k:IntKind}{p q:Int}(hx:opv fr x=some (.int k p))(hy:opv fr y=some (.int k q)):Yd P C fr own G ⟨dst, .binOp .lss t x y t',ty',pos,af,gd⟩ (.bool (decide (p<q))):=yd_int hx hy fun w=>binOp_lss k p q w
theorem yd_leq{k:IntKind}{p q:Int}(hx:opv fr x=some (.int k p))(hy:opv fr y=some (.int k q)):Yd P C fr own G ⟨dst, .binOp .leq t x y t',ty',pos,af,gd⟩ (.bool (decide (p≤q))):=yd_int hx hy fun w=>binOp_leq k p q w
theorem yd_gtr{k:IntKind}{p q:Int}(hx:opv fr x=some (.int k p))(hy:opv fr y=some (.int k q)):Yd P C fr own G ⟨dst, .binOp .gtr t x y t',ty',pos,af,gd⟩ (.bool (decide (q<p))):=yd_int hx hy fun w=>binOp_gtr k p q w
theorem yd_geq{k:IntKind}{p q:Int}(hx:opv fr x=some (.int k p))(hy:opv fr y=some (.int k q)):Yd P C fr own G ⟨dst, .binOp .geq t x y t',ty',pos,af,gd⟩ (.bool (decide (q≤p))):=yd_int hx hy fun w=>binOp_geq k p q w
theorem yd_eql{k:IntKind}{p q:Int}(hx:opv fr x=some (.int k p))(hy:opv fr y=some (.int k q)):Yd P C fr own G ⟨dst, .binOp .eql t x y t',ty',pos,af,gd⟩ (.bool (decide (p=q))):=yd_int hx hy fun w=>binOp_eql k p q w
theorem yd_neq{k:IntKind}{p q:Int}(hx:opv fr x=some (.int k p))(hy:opv fr y=some (.int k q)):Yd P C fr own G ⟨dst, .binOp .neq t x y t',ty',pos,af,gd⟩ (.bool (decide (p≠q))):=yd_int hx hy fun w=>binOp_neq k p q w
/-! ### slices -/
variable {e s by_:Nat}
theorem yd_len[hT:TySl P t e s by_]{ad:Option Addr}{len cap:Nat}(hx:opv fr x=some (.slice ad len cap)):
  Yd P C fr own G ⟨dst, .call ⟨.builtin .len, #[x], #[t]⟩,ty',pos,af,gd⟩ (.int .i64 len):=by
 intro a w hf hh
 simp only[execOp,resolve,List.map_toArray,List.map_cons,List.map_nil,opv_eval hf hx]
 have h1:(Builtin.len_ #[t] ty' #[.slice ad len cap]).run P w= .ok (.int .i64 len) w:=by
  simp only[Builtin.len_]
  show(underlying t>>=_).run P w=_
  rw[run_ok_bind (hT.u w)]
  rfl
 exact value_of h1
theorem yd_index[hT:TySl P t e s by_]{k:IntKind}{b off len cap:Nat}{i:Int}(hx:opv fr x=some (.slice (some ⟨b,off,none⟩) len cap))(hy:opv fr y=some (.int k i))(h0:0≤i)(h1:i<len):
  Yd P C fr own G ⟨dst, .indexAddr t x y,ty',pos,af,gd⟩ (.pointer (some ⟨b,off+i.toNat*s,none⟩)):=by
 intro a w hf hh
 simp only[execOp,opv_eval hf hx,opv_eval hf hy]
 have:(Instr.indexAt t (.slice (some ⟨b,off,none⟩) len cap) (.int k i)).run P w= .ok (.pointer (some ⟨b,off+i.toNat*s,none⟩)) w:=by
  unfold Instr.indexAt
  show(underlying t>>=_).run P w=_
  rw[run_ok_bind (hT.u w)]
  show(underlying t>>=_).run P w=_
  rw[run_ok_bind (hT.u w)]
  simp only[h0,h1,and_self,if_true]
  show(sizeOf e>>=_).run P w=_
  rw[run_ok_bind (hT.siz w),addr_add]
  rfl
 exact value_of this
theorem run_sliceBound{k:IntKind}{v:Int}{m:Nat}{c:BoundsCode}(w:World)(h0:0≤v)(h1:v≤m):(Instr.sliceBound (.int k v) m c).run P w= .ok v.toNat w:=by
 unfold Instr.sliceBound
 simp[asIntOf,h0,h1,run_pure]
def slTo(ad:Option Addr)(len cap lo hi mx s:Nat):Value:= .slice (if mx=lo then ad else ad.map (·.add (lo*s))) (hi-lo) (mx-lo)
theorem run_slice[hT:TySl P t e s by_]{ad:Option Addr}{len cap:Nat}(w:World){lo hi mx:Option Value}{l h m:Nat}(hb: ∀w,(Instr.sliceBounds true len cap lo hi mx).run P w= .ok (l,h,m) w):
  (Instr.sliceAt t (.slice ad len cap) lo hi mx).run P w= .ok (slTo ad len cap l h m s) w:=by
 unfold Instr.sliceAt
 rw[run_ok_bind (hT.u w)]
 show(Instr.slice t (.slice ad len cap) lo hi mx).run P w=_
 unfold Instr.slice
 rw[run_ok_bind (hT.u w)]
 show(Instr.sliceBounds true len cap lo hi mx>>=_).run P w=_
 rw[run_ok_bind (hb w)]
 show(sizeOf e>>=_).run P w=_
 rw[run_ok_bind (hT.siz w)]
 rfl
theorem yd_slice_hi[hT:TySl P t e s by_]{k:IntKind}{ad:Option Addr}{len cap:Nat}{h:Int}(hx:opv fr x=some (.slice ad len cap))(hy:opv fr y=some (.int k h))(h0:0≤h)(h1:h≤cap):
  Yd P C fr own G ⟨dst, .slice t x none (some y) none,ty',pos,af,gd⟩ (.slice ad h.toNat cap):=by
 intro a w hf hh
 simp only[execOp,opv_eval hf hx,opv_eval hf hy,Option.map_none,Option.map_some]
 have:=run_slice (P:=P) (t:=t) (ad:=ad) (len:=len) (cap:=cap) w (lo:=none) (hi:=some (.int k h)) (mx:=none) (l:=0) (h:=h.toNat) (m:=cap) (fun w=>by
  simp[Instr.sliceBounds,run_sliceBound w h0 h1,Result.andThen])
 have e2:slTo ad len cap 0 h.toNat cap s= .slice ad h.toNat cap:=by
  unfold slTo
  cases ad with
  |none=>simp
  |some ad=>simp[Addr.add]
 rw[←e2]
 exact value_of this
theorem yd_slice_lo[hT:TySl P t e s by_]{k:IntKind}{ad:Option Addr}{len cap:Nat}{l:Int}(hx:opv fr x=some (.slice ad len cap))(hy:opv fr y=some (.int k l))(h0:0≤l)(h1:l≤len):
  Yd P C fr own G ⟨dst, .slice t x (some y) none none,ty',pos,af,gd⟩ (slTo ad len cap l.toNat len cap s):=by
 intro a w hf hh
 simp only[execOp,opv_eval hf hx,opv_eval hf hy,Option.map_none,Option.map_some]
 exact value_of (run_slice (P:=P) (t:=t) (ad:=ad) (len:=len) (cap:=cap) w (lo:=some (.int k l)) (hi:=none) (mx:=none) (fun w=>by
  simp[Instr.sliceBounds,run_sliceBound w h0 h1,Result.andThen]))
theorem yd_slice_lohi[hT:TySl P t e s by_]{k k':IntKind}{ad:Option Addr}{len cap:Nat}{l h:Int}{z:Operand}(hx:opv fr x=some (.slice ad len cap))(hy:opv fr y=some (.int k l))(hz:opv fr z=some (.int k' h))(h0:0≤l)(h1:l≤h)(h2:h≤cap):
  Yd P C fr own G ⟨dst, .slice t x (some y) (some z) none,ty',pos,af,gd⟩ (slTo ad len cap l.toNat h.toNat cap s):=by
 intro a w hf hh
 simp only[execOp,opv_eval hf hx,opv_eval hf hy,opv_eval hf hz,Option.map_none,Option.map_some]
 exact value_of (run_slice (P:=P) (t:=t) (ad:=ad) (len:=len) (cap:=cap) w (lo:=some (.int k l)) (hi:=some (.int k' h)) (mx:=none) (fun w=>by
  have h1':l≤(h.toNat:Int):=by omega
  simp[Instr.sliceBounds,run_sliceBound w (Int.le_trans h0 h1) h2,run_sliceBound w h0 h1',Result.andThen]))
theorem yd_slice_3[hT:TySl P t e s by_]{k k':IntKind}{ad:Option Addr}{len cap:Nat}{h m:Int}{z:Operand}(hx:opv fr x=some (.slice ad len cap))(hy:opv fr y=some (.int k h))(hz:opv fr z=some (.int k' m))(h0:0≤h)(h1:h≤m)(h2:m≤cap):
  Yd P C fr own G ⟨dst, .slice t x none (some y) (some z),ty',pos,af,gd⟩ (.slice ad h.toNat m.toNat):=by
 intro a w hf hh
 simp only[execOp,opv_eval hf hx,opv_eval hf hy,opv_eval hf hz,Option.map_none,Option.map_some]
 have:=run_slice (P:=P) (t:=t) (ad:=ad) (len:=len) (cap:=cap) w (lo:=none) (hi:=some (.int k h)) (mx:=some (.int k' m)) (l:=0) (h:=h.toNat) (m:=m.toNat) (fun w=>by
  have h1':h≤(m.toNat:Int):=by omega
  simp[Instr.sliceBounds,run_sliceBound w (Int.le_trans h0 h1) h2,run_sliceBound w h0 h1',Result.andThen])
 have e2:slTo ad len cap 0 h.toNat m.toNat s= .slice ad h.toNat m.toNat:=by
  unfold slTo
  cases ad with
  |none=>simp
  |some ad=>simp[Addr.add]
 rw[←e2]
 exact value_of this
/-! ### conversions of integers, unary operations -/
class TyI (P:Program) (t:TypeId) (k:outParam IntKind):Prop where u: ∀w,(underlying t).run P w= .ok (.int k) w
theorem yd_conv{k k':IntKind}{p:Int}[hs:TyI P t k][hd:TyI P t' k'](hx:opv fr x=some (.int k p)):Yd P C fr own G ⟨dst, .convert t t' x,ty',pos,af,gd⟩ (.int k' (k'.wrap p)):=by
 intro a w hf hh
 simp only[execOp,opv_eval hf hx]
 have:(convert t t' (.int k p)).run P w= .ok (.int k' (k'.wrap p)) w:=by
  unfold convert
  rw[run_ok_bind (hs.u w),run_ok_bind (hd.u w)]
  rfl
 exact value_of this
theorem yd_convi{k k':IntKind}{p:Int}[hs:TyI P t k][hd:TyI P t' k'](hx:opv fr x=some (.int k p))(h:k'.min≤p∧p≤k'.max):Yd P C fr own G ⟨dst, .convert t t' x,ty',pos,af,gd⟩ (.int k' p):=by
 have:=yd_conv (P:=P) (C:=C) (own:=own) (G:=G) (dst:=dst) (ty':=ty') (pos:=pos) (af:=af) (gd:=gd) (t:=t) (t':=t') hx
 rwa [wrap_in h] at this
theorem yd_not{b:Bool}(hx:opv fr x=some (.bool b)):Yd P C fr own G ⟨dst, .unOp .not t x,ty',pos,af,gd⟩ (.bool (!b)):=by
 intro a w hf hh;simp only[execOp,opv_eval hf hx,Op.unary];rfl
theorem yd_neg{k:IntKind}{p:Int}(hx:opv fr x=some (.int k p)):Yd P C fr own G ⟨dst, .unOp .neg t x,ty',pos,af,gd⟩ (.int k (k.wrap (0-p))):=by
 intro a w hf hh;simp only[execOp,opv_eval hf hx,Op.unary,Op.intArith];rfl
end
theorem blk_lt{w:World}{b:Nat}{o:Obj}(h:w.heap[b]? =some o):b<w.heap.size:=by
 rcases Nat.lt_or_ge b w.heap.size with h'|h'
 ·exact h'
 ·simp[Array.getElem?_eq_none h'] at h
theorem HRel.gnone{C:Ctx}{own:List Own}{G:Gh}{w:World}(h:HRel C own G w){b:Nat}(hb:w.heap.size≤b):G b=none:=by
 cases hG:G b with
 |none=>rfl
 |some cs=>
  obtain⟨ty,fz,hc⟩:=h.sub b cs hG
  have:=blk_lt hc
  omega
theorem HRel.alloc{C:Ctx}{own:List Own}{G:Gh}{w:World}(h:HRel C own G w)(cs:List Value)(ty:TypeId):
  HRel C (⟨w.heap.size,cs,ty,true⟩::own) G (w.alloc (.cells ⟨cs⟩ ty)):=by
 have old: ∀b,b<w.heap.size→(w.alloc (.cells ⟨cs⟩ ty)).heap[b]? =w.heap[b]? :=fun b hb=>RowKit.Below.heap_alloc _ _ _ hb
 refine⟨h.os,h.tape,h.output,?_,?_,?_,h.gle,h.gold,?_,?_⟩
 ·have:=h.size;simp;omega
 ·intro b hb hm;rw[old b (by have:=h.size;omega)];exact h.keep b hb hm
 ·intro b cs' hb
  obtain⟨ty',fz,hc⟩:=h.sub b cs' hb
  exact⟨ty',fz,by rw[old b (blk_lt hc)];exact hc⟩
 ·intro o ho
  rcases List.mem_cons.1 ho with rfl|ho
  ·refine⟨by show(w.heap.push _)[w.heap.size]? =_;simp,h.gnone (Nat.le_refl _),fun _=>h.size,fun e=>by cases e⟩
  ·obtain⟨h1,h2⟩:=h.hown o ho
   exact⟨by rw[old _ (blk_lt h1)];exact h1,h2⟩
 ·refine List.Pairwise.cons ?_ h.nd
  intro o ho
  have:=blk_lt (h.hown o ho).1
  show w.heap.size≠o.b
  omega
def setBlk(w:World)(b:Nat)(o:Obj):World:={w with heap:=w.heap.setIfInBounds b o}
theorem nd_map{l:List Own}:l.Pairwise (fun x y=>x.b≠y.b)↔(l.map (·.b)).Pairwise (· ≠ ·):=by rw[List.pairwise_map]
theorem OUpd.spec{own own':List Own}{b:Nat}{cs cs':List Value}{ty:TypeId}{lo:Bool}(h:OUpd own b cs ty lo cs' own')(nd:own.Pairwise (fun x y=>x.b≠y.b)):
  ⟨b,cs,ty,lo⟩∈own∧(∀o,o∈own'→o=⟨b,cs',ty,lo⟩∨(o∈own∧o.b≠b))∧own'.map (·.b)=own.map (·.b):=by
 induction h with
 |hd b cs cs' ty lo t=>
  refine⟨List.mem_cons_self,fun o ho=>?_,rfl⟩
  rcases List.mem_cons.1 ho with rfl|h
  ·exact .inl rfl
  ·exact .inr ⟨List.mem_cons_of_mem _ h,Ne.symm ((List.pairwise_cons.1 nd).1 _ h)⟩
 |tl o t t' b cs cs' ty lo h ih=>
  obtain⟨h1,h2,h3⟩:=ih (List.pairwise_cons.1 nd).2
  refine⟨List.mem_cons_of_mem _ h1,fun x hx=>?_,by simp[h3]⟩
  rcases List.mem_cons.1 hx with rfl|hx
  ·exact .inr ⟨List.mem_cons_self,(List.pairwise_cons.1 nd).1 _ h1⟩
  ·exact(h2 x hx).imp id (fun k=>⟨List.mem_cons_of_mem _ k.1,k.2⟩)
theorem setBlk_other{w:World}{b k:Nat}{o:Obj}(hk:k≠b):(setBlk w b o).heap[k]? =w.heap[k]? :=by
 simp only[setBlk];rw[Array.getElem?_setIfInBounds];simp[Ne.symm hk]
theorem setBlk_same{w:World}{b:Nat}{o:Obj}(hb:b<w.heap.size):(setBlk w b o).heap[b]? =some o:=by
 simp only[setBlk];rw[Array.getElem?_setIfInBounds];simp[hb]
theorem HRel.store{C:Ctx}{own own':List Own}{G:Gh}{w:World}{b:Nat}{cs cs':List Value}{ty:TypeId}{lo:Bool}(h:HRel C own G w)(hu:OUpd own b cs ty lo cs' own'):
  HRel C own' G (setBlk w b (.cells ⟨cs'⟩ ty (0,0))):=by
 obtain⟨h1,h2,h3⟩:=hu.spec h.nd
 obtain⟨hb,hGb,hlo1,hlo2⟩:=h.hown _ h1
 have hlt:=blk_lt hb
 refine⟨h.os,h.tape,h.output,by simpa[setBlk] using h.size,?_,?_,h.gle,h.gold,?_,nd_map.2 (h3▸nd_map.1 h.nd)⟩
 ·intro k hk hm
  by_cases hkb:k=b
  ·subst hkb
   cases hlo:lo with
   |true=>have h5:=hlo1 hlo;simp only[] at h5;omega
   |false=>exact absurd (hlo2 hlo) hm
  ·rw[setBlk_other hkb];exact h.keep k hk hm
 ·intro k cs1 hk
  obtain⟨ty',fz,hc⟩:=h.sub k cs1 hk
  have:k≠b:=fun e=>by subst e;rw[show G k=none from hGb] at hk;cases hk
  exact⟨ty',fz,by rw[setBlk_other this];exact hc⟩
 ·intro o ho
  rcases h2 o ho with rfl|⟨ho',hne⟩
  ·exact⟨setBlk_same hlt,hGb,hlo1,hlo2⟩
  ·obtain⟨k1,k2⟩:=h.hown o ho'
   exact⟨by rw[setBlk_other hne];exact k1,k2⟩
theorem ORem.spec{own own':List Own}{o:Own}(h:ORem own o own')(nd:own.Pairwise (fun x y=>x.b≠y.b)):
  o∈own∧(∀x,x∈own'→x∈own∧x.b≠o.b)∧own'.Pairwise (fun x y=>x.b≠y.b):=by
 induction h with
 |hd o t=>exact⟨List.mem_cons_self,fun x hx=>⟨List.mem_cons_of_mem _ hx,Ne.symm ((List.pairwise_cons.1 nd).1 _ hx)⟩,(List.pairwise_cons.1 nd).2⟩
 |tl y t t' o h ih=>
  obtain⟨h1,h2,h3⟩:=ih (List.pairwise_cons.1 nd).2
  refine⟨List.mem_cons_of_mem _ h1,fun x hx=>?_,List.Pairwise.cons (fun x hx=>(List.pairwise_cons.1 nd).1 _ (h2 x hx).1) h3⟩
  rcases List.mem_cons.1 hx with rfl|hx
  ·exact⟨List.mem_cons_self,(List.pairwise_cons.1 nd).1 _ h1⟩
  ·exact⟨List.mem_cons_of_mem _ (h2 x hx).1,(h2 x hx).2⟩
theorem HRel.freeze{C:Ctx}{own own':List Own}{G:Gh}{w:World}{b:Nat}{cs:List Value}{ty:TypeId}(h:HRel C own G w)(hr:ORem own ⟨b,cs,ty,true⟩ own'):
  HRel C own' (fun k=>if k=b then some cs else G k) w∧GLe G (fun k=>if k=b then some cs else G k):=by
 obtain⟨h1,h2,h3⟩:=hr.spec h.nd
 obtain⟨hb,hGb,hlo,_⟩:=h.hown _ h1
 have hle:GLe G (fun k=>if k=b then some cs else G k):=fun k c hk=>by
  have:k≠b:=fun e=>by subst e;rw[show G k=none from hGb] at hk;cases hk
  simp[this,hk]
 refine⟨⟨h.os,h.tape,h.output,h.size,h.keep,?_,h.gle.trans hle,?_,?_,h3⟩,hle⟩
 ·intro k c hk
  by_cases e:k=b
  ·subst e;simp only[if_true] at hk;cases hk;exact⟨ty,(0,0),hb⟩
  ·simp only[e,if_false] at hk;exact h.sub k c hk
 ·intro k hk
  have h5:C.w0.heap.size≤b:=hlo rfl
  have:k≠b:=by omega
  simp only[this,if_false]
  exact h.gold k hk
 ·intro o ho
  obtain⟨k1,k2⟩:=h2 o ho
  obtain⟨m1,m2,m3⟩:=h.hown o k1
  exact⟨m1,by rw[if_neg k2];exact m2,m3⟩
theorem HRel.drop{C:Ctx}{own own':List Own}{G:Gh}{w:World}(h:HRel C own G w)(hs:own'.Sublist own):HRel C own' G w:=
 ⟨h.os,h.tape,h.output,h.size,h.keep,h.sub,h.gle,h.gold,fun o ho=>h.hown o (hs.subset ho),h.nd.sublist hs⟩
theorem HRel.perm{C:Ctx}{own own':List Own}{G:Gh}{w:World}(h:HRel C own G w)(hs:own.Perm own'):HRel C own' G w:=
 ⟨h.os,h.tape,h.output,h.size,h.keep,h.sub,h.gle,h.gold,fun o ho=>h.hown o (hs.mem_iff.2 ho),(hs.pairwise_iff (fun h=>Ne.symm h)).1 h.nd⟩
theorem HRel.drew{C:Ctx}{own:List Own}{G:Gh}{w:World}(h:HRel C own G w):HRel C own G {w with drawn:=w.drawn+1}:=
 ⟨h.os,h.tape,h.output,h.size,h.keep,h.sub,h.gle,h.gold,h.hown,h.nd⟩
/-! ### Calls -/
def Callable(P:Program)(f:FuncId):Prop:= ∃fn,P.funcs[f]? =some fn∧(fn.name== "runtime.NumGoroutine")=false∧fn.body.isNone=false
def reown(M:List Own)(css:List (List Value)):List Own:=(M.zip css).map fun p=>{p.1 with cs:=p.2}
def asB(M:List Own):List Own:=M.map fun o=>{o with lo:=false}
structure Fn (P:Program) (f:FuncId) (vs:List Value) (G:Gh) (K:Value→Gh→Prop):Prop where
 able:Callable P f
 run: ∀w,(∀b cs,G b=some cs→ ∃ty fz,w.heap[b]? =some (.cells ⟨cs⟩ ty fz))→
  Calls P f ⟨vs⟩ w fun e w'=> ∃v G',e= .returned v∧HRel ⟨w,G,[]⟩ [] G' w'∧K v G'
structure FnM (P:Program) (f:FuncId) (vs:List Value) (M:List Own) (G:Gh) (K:Value→List (List Value)→Gh→Prop):Prop where
 able:Callable P f
 run: ∀w,HRel ⟨w,G,M.map (·.b)⟩ (asB M) G w→
  Calls P f ⟨vs⟩ w fun e w'=> ∃v css G',e= .returned v∧css.length=M.length∧HRel ⟨w,G,M.map (·.b)⟩ (reown (asB M) css) G' w'∧K v css G'
theorem Fn.mono{P:Program}{f:FuncId}{vs:List Value}{G:Gh}{K K':Value→Gh→Prop}(h:Fn P f vs G K)(hk: ∀v G',GLe G G'→K v G'→K' v G'):Fn P f vs G K':=
 ⟨h.able,fun w hw=>(h.run w hw).mono fun _ _ ⟨v,G',he,hh,hK⟩=>⟨v,G',he,hh,hk v G' hh.gle hK⟩⟩
theorem HRel.called{C:Ctx}{own:List Own}{G G':Gh}{w w':World}(h:HRel C own G w)(k:HRel ⟨w,G,[]⟩ [] G' w'):HRel C own G' w':=by
 have same: ∀b o,w.heap[b]? =some o→w'.heap[b]? =some o:=fun b o hb=>by rw[k.keep b (blk_lt hb) (by simp)];exact hb
 have hsz:w.heap.size≤w'.heap.size:=k.size
 refine⟨k.os.trans h.os,k.tape.trans h.tape,k.output.trans h.output,Nat.le_trans h.size hsz,?_,k.sub,h.gle.trans k.gle,?_,?_,h.nd⟩
 ·intro b hb hm;have:=h.size;rw[k.keep b (by show b<w.heap.size;omega) (by simp)];exact h.keep b hb hm
 ·intro b hb;have:=h.size;rw[k.gold b (by show b<w.heap.size;omega)];exact h.gold b hb
 ·intro o ho
  obtain⟨h1,h2,h3⟩:=h.hown o ho
  exact⟨same _ _ h1,by rw[k.gold _ (blk_lt h1)];exact h2,h3⟩
theorem reown_b(M:List Own)(css:List (List Value))(h:css.length=M.length):(reown M css).map (·.b)=M.map (·.b):=by
 induction M generalizing css with
 |nil=>simp[reown]
 |cons o M ih=>
  cases css with
  |nil=>simp at h
  |cons c css=>simp only[List.length_cons,Nat.add_right_cancel_iff] at h;simpa[reown] using ih css h
theorem reown_mem{M:List Own}{css:List (List Value)}{o:Own}(ho:o∈reown M css): ∃c∈css,∃m∈M,o={m with cs:=c}∧{m with cs:=c,lo:=false}∈reown (asB M) css:=by
 induction M generalizing css with
 |nil=>simp[reown] at ho
 |cons x M ih=>
  cases css with
  |nil=>simp[reown] at ho
  |cons c css=>
   simp only[reown,List.zip_cons_cons,List.map_cons,List.mem_cons] at ho
   rcases ho with rfl|ho
   ·exact⟨c,List.mem_cons_self,x,List.mem_cons_self,rfl,by simp[reown,asB]⟩
   ·obtain⟨c',hc',m,hm,e,hh⟩:=ih ho
    refine⟨c',List.mem_cons_of_mem _ hc',m,List.mem_cons_of_mem _ hm,e,?_⟩
    simp only[reown,asB,List.map_cons,List.zip_cons_cons,List.mem_cons]
    exact .inr hh
theorem HRel.lend{C:Ctx}{M rest:List Own}{G:Gh}{w:World}(h:HRel C (M++rest) G w):HRel ⟨w,G,M.map (·.b)⟩ (asB M) G w:=by
 refine⟨rfl,rfl,rfl,Nat.le_refl _,fun _ _ _=>rfl,h.sub,GLe.refl _,fun _ _=>rfl,?_,?_⟩
 ·intro o ho
  obtain⟨m,hm,rfl⟩:=List.mem_map.1 ho
  obtain⟨h1,h2,_⟩:=h.hown m (List.mem_append_left _ hm)
  exact⟨h1,h2,by simp,fun _=>List.mem_map.2 ⟨m,hm,rfl⟩⟩
 ·have:=(List.pairwise_append.1 h.nd).1
  unfold asB
  rw[List.pairwise_map]
  exact this
theorem HRel.calledM{C:Ctx}{M rest:List Own}{G G':Gh}{w w':World}{css:List (List Value)}(h:HRel C (M++rest) G w)(hl:css.length=M.length)(k:HRel ⟨w,G,M.map (·.b)⟩ (reown (asB M) css) G' w'):
  HRel C (reown M css++rest) G' w':=by
 have hsz:w.heap.size≤w'.heap.size:=k.size
 have hnd:=h.nd
 have inM: ∀b,b∈M.map (·.b)→ ∀o∈rest,o.b≠b:=fun b hb o ho e=>by
  obtain⟨m,hm,rfl⟩:=List.mem_map.1 hb
  exact(List.pairwise_append.1 hnd).2.2 m hm o ho e.symm
 refine⟨k.os.trans h.os,k.tape.trans h.tape,k.output.trans h.output,Nat.le_trans h.size hsz,?_,k.sub,h.gle.trans k.gle,?_,?_,?_⟩
 ·intro b hb hm
  have hs:=h.size
  have hnM:b∉M.map (·.b):=fun hb'=>by
   obtain⟨m,hmM,rfl⟩:=List.mem_map.1 hb'
   obtain⟨_,_,h3,h4⟩:=h.hown m (List.mem_append_left _ hmM)
   cases hlo:m.lo with
   |true=>have:=h3 hlo;omega
   |false=>exact hm (h4 hlo)
  rw[k.keep b (by show b<w.heap.size;omega) hnM];exact h.keep b hb hm
 ·intro b hb;have:=h.size;rw[k.gold b (by show b<w.heap.size;omega)];exact h.gold b hb
 ·intro o ho
  rcases List.mem_append.1 ho with ho|ho
  ·obtain⟨c,hc,m,hm,rfl,hmem⟩:=reown_mem ho
   obtain⟨k1,k2,_⟩:=k.hown _ hmem
   obtain⟨_,_,h3⟩:=h.hown m (List.mem_append_left _ hm)
   exact⟨k1,k2,h3⟩
  ·obtain⟨h1,h2,h3⟩:=h.hown o (List.mem_append_right _ ho)
   have hnM:o.b∉M.map (·.b):=fun hb=>inM _ hb o ho rfl
   exact⟨by rw[k.keep _ (blk_lt h1) hnM];exact h1,by rw[k.gold _ (blk_lt h1)];exact h2,h3⟩
 ·rw[nd_map,List.map_append,reown_b _ _ hl,←List.map_append,←nd_map];exact hnd
/-! short names, for texts that must be short -/
theorem zs1{α:Type}{a b:α}{l:List α}:(a::l).set 0 b=b::l:=rfl
theorem zs2{α:Type}{a b:α}{l:List α}{n:Nat}:(a::l).set (n+1) b=a::l.set n b:=rfl
theorem zs3{α:Type}{a:α}{l:List α}{n:Nat}:(a::l).drop (n+1)=l.drop n:=rfl
theorem zs4{α:Type}{l:List α}:l.drop 0=l:=rfl
theorem zf1{α β:Type}{f:α→Option β}{a:α}{l:List α}:List.filterMap f (a::l)=match f a with|none=>List.filterMap f l|some b=>b::List.filterMap f l:=List.filterMap_cons
theorem zf2{α β:Type}{f:α→Option β}:List.filterMap f []=[]:=rfl
theorem zf3{α:Type}{a:α}{l:List α}:(a::l)[0]? =some a:=rfl
theorem zf4{α:Type}{a:α}{l:List α}{n:Nat}:(a::l)[n+1]? =l[n]? :=rfl
abbrev ii:= @inferInstance.{0}
theorem nb{a b:Nat}(h:Nat.ble a b=true):a≤b:=Nat.le_of_ble_eq_true h
theorem sR{P:Program}{C:Ctx}{n:Nat}{fr:Fr}{own:List Own}{G:Gh}{Q:Exit→Act→World→Prop}{id:Nat}{ops:Array Oper}{y:Code}(h:St C n fr own G (wpL P ops (Exit.then (y.wp P Q) Q) ops.toList)):St C n fr own G ((Code.seq (Code.region id ops false) y).wp P Q):=st_seq (st_region h)
end Go.Sx
end

section
namespace Go.Sx
open Go
def cellsL:Value→List Value
 | .agg ⟨l⟩=>l
 |v=>[v]
theorem cells_eq(v:Value):v.cells=⟨cellsL v⟩:=by
 cases v<;>first|rfl|(rename_i a;cases a;rfl)
def flat:Value→Bool
 | .agg _=>false
 | .tuple _=>false
 |_=>true
def opvs(fr:Fr):List Operand→Option (List Value)
 |[]=>some []
 |x::t=>match opv fr x,opvs fr t with
  |some v,some l=>some (v::l)
  |_,_=>none
theorem opvs_eval{fr:Fr}{a:Act}(h:FrOk fr a): ∀{l:List Operand} {vs:List Value},opvs fr l=some vs→l.map a.eval=vs
 |[],vs,e=>by simp[opvs] at e;subst e;rfl
 |x::t,vs,e=>by
  simp only[opvs] at e
  split at e
  ·rename_i v l hv hl
   cases e
   simp[opv_eval h hv,opvs_eval h hl]
  ·cases e
section
variable {P:Program} {C:Ctx} {n:Nat} {fr:Fr} {own own':List Own} {G:Gh} {ops:Array Oper} {Q:Exit→Act→World→Prop} {r:List Oper}
variable {dst:Option Nat} {t t' ty':TypeId} {pos:String} {af:Array Edge} {x y:Operand}
def Ch(P:Program)(C:Ctx)(n:Nat)(fr:Fr)(own:List Own)(G:Gh)(o:Oper)(Φ:Act→World→Prop):Prop:=
 ∀(a:Act) (w:World) (Q:Exit→Act→World→Prop),Rel C n fr own G a w→o.wp P a w Φ Q
theorem st_ch{o:Oper}(hg:o.guard=none)(hc:Ch P C n fr own G o (wpL P ops Q r)):St C n fr own G (wpL P ops Q (o::r)):=by
 intro a w rl
 simp only[wpL,Region.wanted,hg,if_true]
 exact hc a w _ rl
variable {Φ:Act→World→Prop} {gd:Option (Nat×Bool)}
theorem run_newVar{w:World}{ty:TypeId}{v:Value}:(newVar ty v).run P w= .ok ⟨w.heap.size,0,none⟩ (w.alloc (.cells ⟨cellsL v⟩ ty)):=by
 unfold newVar newRow
 rw[cells_eq]
 rfl
theorem ch_value{o:Oper}{v:Value}{w':World}{a:Act}{w:World}{Φ:Act→World→Prop}{Q:Exit→Act→World→Prop}(h:(execOp a.eval o).run P w= .ok (.value v) w')(hk:Φ (a.put o.dst v) w'):o.wp P a w Φ Q:=by
 simp only[Oper.wp,h,Oper.upon];exact hk
theorem ch_alloc{z:Value}[hz:TyZ P t z](hd:dstOk n dst=true)(h: ∀b,St C n (put fr dst (.pointer (some ⟨b,0,none⟩))) (⟨b,cellsL z,t,true⟩::own) G Φ):
  Ch P C n fr own G ⟨dst, .alloc t,ty',pos,af,gd⟩ Φ:=by
 intro a w Q rl
 have h1:(Instr.alloc t true (.tuple #[])).run P w= .ok (.pointer (some ⟨w.heap.size,0,none⟩)) (w.alloc (.cells ⟨cellsL z⟩ t)):=by
  unfold Instr.alloc
  rw[run_ok_bind (hz.zero w)]
  show(newVar t z>>=_).run P w=_
  rw[run_ok_bind run_newVar];rfl
 refine ch_value (value_of h1) (h w.heap.size _ _ ?_)
 exact(rl.heap (rl.h.alloc _ _)).put _ hd
theorem ch_box{v:Value}(hx:opv fr x=some v)(hd:dstOk n dst=true)(h: ∀b,St C n (put fr dst (.pointer (some ⟨b,0,none⟩))) (⟨b,cellsL v,t,true⟩::own) G Φ):
  Ch P C n fr own G ⟨dst, .box t x,ty',pos,af,gd⟩ Φ:=by
 intro a w Q rl
 have h1:(Instr.box t (a.eval x)).run P w= .ok (.pointer (some ⟨w.heap.size,0,none⟩)) (w.alloc (.cells ⟨cellsL v⟩ t)):=by
  unfold Instr.box
  rw[opv_eval rl.fr hx,run_ok_bind run_newVar];rfl
 refine ch_value (value_of h1) (h w.heap.size _ _ ?_)
 exact(rl.heap (rl.h.alloc _ _)).put _ hd
/-! ### stores -/
theorem setCell_setBlk{w:World}{b off:Nat}{cs:List Value}{ty:TypeId}{fz:Nat×Nat}{v:Value}(h:w.heap[b]? =some (.cells ⟨cs⟩ ty fz)):w.setCell ⟨b,off,none⟩ v=setBlk w b (.cells ⟨cs.set off v⟩ ty fz):=by
 unfold World.setCell setBlk
 congr 1
 apply Array.ext_getElem?
 intro i
 rw[Array.getElem?_modify,Array.getElem?_setIfInBounds]
 by_cases hi:b=i
 ·subst hi
  have:=blk_lt h
  simp only[if_true,h,Option.map_some,this]
  simp
 ·simp[hi]
theorem run_store{w:World}{b off:Nat}{cs:List Value}{ty:TypeId}{v:Value}(hv:flat v=true)(h:w.heap[b]? =some (.cells ⟨cs⟩ ty (0,0)))(ho:off<cs.length):
  (store ⟨b,off,none⟩ v).run P w= .ok () (setBlk w b (.cells ⟨cs.set off v⟩ ty (0,0))):=by
 have hc:w.cell? ⟨b,off,none⟩=some cs[off]:=by rw[cell_of_block h,List.getElem?_eq_getElem ho]
 have hf:w.frozen? ⟨b,off,none⟩=false:=by simp[World.frozen?,h]
 cases v<;>first|(simp[flat] at hv;done)|(simp only[store,Sem.run,hc,hf,setCell_setBlk h];rfl)
theorem setBlk_setBlk(w:World)(b:Nat)(o o':Obj):setBlk (setBlk w b o) b o'=setBlk w b o':=by
 simp[setBlk]
theorem setBlk_self{w:World}{b:Nat}{o:Obj}(h:w.heap[b]? =some o):setBlk w b o=w:=by
 unfold setBlk
 congr 1
 apply Array.ext_getElem?
 intro i
 rw[Array.getElem?_setIfInBounds]
 by_cases hi:b=i
 ·subst hi
  have hlt:=blk_lt h
  simp only[if_true,hlt]
  rw[h]
 ·simp[hi]
theorem run_storeCells{b:Nat}{ty:TypeId}: ∀(vs:List Value) (w:World) (off i:Nat) (cs:List Value),(∀v∈vs,flat v=true)→w.heap[b]? =some (.cells ⟨cs⟩ ty (0,0))→off+i+vs.length≤cs.length→
  (storeCells ⟨b,off,none⟩ vs i).run P w= .ok () (setBlk w b (.cells ⟨ovw cs (off+i) vs⟩ ty (0,0)))
 |[],w,off,i,cs,_,h,_=>by
  unfold storeCells ovw
  rw[setBlk_self h];rfl
 |v::vs,w,off,i,cs,hf,h,hl=>by
  unfold storeCells
  simp only[List.length_cons] at hl
  rw[addr_add,run_ok_bind (run_store (hf v List.mem_cons_self) h (by omega))]
  rw[run_storeCells vs _ off (i+1) (cs.set (off+i) v) (fun u hu=>hf u (List.mem_cons_of_mem _ hu)) (setBlk_same (blk_lt h)) (by simp;omega)]
  rw[setBlk_setBlk]
  rfl
theorem ch_store{v:Value}{b off k:Nat}{cs:List Value}{ty:TypeId}{lo:Bool}(hx:opv fr x=some (.pointer (some ⟨b,off,none⟩)))(hy:opv fr y=some v)[hs:TyA P t k]
  (hu:OUpd own b cs ty lo (ovw cs off (cellsL v)) own')(hk:(cellsL v).length=k)(hl:off+k≤cs.length)(hf:(cellsL v).all flat=true)(hd:dstOk n dst=true)(h:St C n (put fr dst undef) own' G Φ):
  Ch P C n fr own G ⟨dst, .store t x y,ty',pos,af,gd⟩ Φ:=by
 intro a w Q rl
 have hb:=(rl.h.hown _ (hu.spec rl.h.nd).1).1
 have h1:(Instr.storeAt t (a.eval x) (a.eval y)).run P w= .ok () (setBlk w b (.cells ⟨ovw cs off (cellsL v)⟩ ty (0,0))):=by
  rw[opv_eval rl.fr hx,opv_eval rl.fr hy]
  simp only[Instr.storeAt,Instr.sureAddr]
  show(storeVar t ⟨b,off,none⟩ v).run P w=_
  unfold storeVar
  rw[run_ok_bind (hs.siz w),cells_eq]
  simp only[List.size_toArray,hk,ne_eq,not_true_eq_false,if_false]
  have:=run_storeCells (P:=P) (cellsL v) w off 0 cs (by simpa using hf) hb (by omega)
  simpa using this
 have h2:(execOp a.eval ⟨dst, .store t x y,ty',pos,af,gd⟩).run P w= .ok .skip (setBlk w b (.cells ⟨ovw cs off (cellsL v)⟩ ty (0,0))):=by
  simp only[execOp]
  rw[run_ok_bind h1];rfl
 simp only[Oper.wp,h2,Oper.upon]
 exact h _ _ ((rl.heap (rl.h.store hu)).put _ hd)
theorem ch_store1{v:Value}{b off:Nat}{cs:List Value}{ty:TypeId}{lo:Bool}(hx:opv fr x=some (.pointer (some ⟨b,off,none⟩)))(hy:opv fr y=some v)[hs:TyS P t]
  (hu:OUpd own b cs ty lo (cs.set off v) own')(hl:off<cs.length)(hf:flat v=true)(hd:dstOk n dst=true)(h:St C n (put fr dst undef) own' G Φ):
  Ch P C n fr own G ⟨dst, .store t x y,ty',pos,af,gd⟩ Φ:=by
 intro a w Q rl
 have hb:=(rl.h.hown _ (hu.spec rl.h.nd).1).1
 have hc:v.cells= #[v]:=by cases v<;>first|rfl|(simp[flat] at hf)
 have h1:(Instr.storeAt t (a.eval x) (a.eval y)).run P w= .ok () (setBlk w b (.cells ⟨cs.set off v⟩ ty (0,0))):=by
  rw[opv_eval rl.fr hx,opv_eval rl.fr hy]
  simp only[Instr.storeAt,Instr.sureAddr]
  show(storeVar t ⟨b,off,none⟩ v).run P w=_
  unfold storeVar
  rw[run_ok_bind (hs.siz w),hc]
  simp only[List.size_toArray,List.length_cons,List.length_nil,ne_eq,not_true_eq_false,if_false,Nat.zero_add]
  have:=run_storeCells (P:=P) [v] w off 0 cs (by simpa using hf) hb (by simp;omega)
  simpa[ovw] using this
 have h2:(execOp a.eval ⟨dst, .store t x y,ty',pos,af,gd⟩).run P w= .ok .skip (setBlk w b (.cells ⟨cs.set off v⟩ ty (0,0))):=by
  simp only[execOp]
  rw[run_ok_bind h1];rfl
 simp only[Oper.wp,h2,Oper.upon]
 exact h _ _ ((rl.heap (rl.h.store hu)).put _ hd)
/-! ### calls -/
theorem run_callFunc{f:FuncId}(h:Callable P f)(args:Array Value)(w:World):(callFunc f args).run P w= .ok (.enter f args) w:=by
 obtain⟨fn,h1,h2,h3⟩:=h
 unfold callFunc
 show(program>>=_).run P w=_
 rw[run_ok_bind (a:=P) (w':=w) rfl]
 simp only[h1,h2,h3]
 rfl
theorem run_call{f:FuncId}{fo:Operand}{args:Array Operand}{tys:Array TypeId}{vs c1 c2:List Value}{a:Act}{w:World}(h:Callable P f)(hf:FrOk fr a)(ho:opv fr fo=some (.func (.func f) ⟨c1⟩ ⟨c2⟩))(hv:opvs fr args.toList=some vs):
  (execOp a.eval ⟨dst, .call ⟨.value fo,args,tys⟩,ty',pos,af,gd⟩).run P w= .ok (.enter f ⟨c1++vs++c2⟩) w:=by
 have e:args.map a.eval=⟨vs⟩:=by apply Array.ext';simpa using opvs_eval hf hv
 simp only[execOp,resolve,opv_eval hf ho,e,Deferred.ofValue]
 show(invoke (.fn (.func f) ⟨c2⟩) (⟨c1⟩++⟨vs⟩)).run P w=_
 simp only[invoke]
 rw[run_callFunc h]
 simp
theorem ch_callc{f:FuncId}{fo:Operand}{args:Array Operand}{tys:Array TypeId}{vs c1 c2:List Value}{K:Value→Gh→Prop}(ho:opv fr fo=some (.func (.func f) ⟨c1⟩ ⟨c2⟩))(hv:opvs fr args.toList=some vs)
  (hF:Fn P f (c1++vs++c2) G K)(hd:dstOk n dst=true)(h: ∀v (G':Gh),[GE G G']→K v G'→St C n (put fr dst v) own G' Φ):
  Ch P C n fr own G ⟨dst, .call ⟨.value fo,args,tys⟩,ty',pos,af,gd⟩ Φ:=by
 intro a w Q rl
 have h2:=run_call (P:=P) (dst:=dst) (ty':=ty') (pos:=pos) (af:=af) (gd:=gd) (tys:=tys) (w:=w) hF.able rl.fr ho hv
 simp only[Oper.wp,h2,Oper.upon]
 refine(hF.run w rl.h.sub).mono ?_
 rintro e w' ⟨v,G',rfl,hh,hK⟩
 exact @h v G' ⟨hh.gle⟩ hK _ _ ((rl.heap (rl.h.called hh)).put _ hd)
theorem zC{f:FuncId}{fo:Operand}{args:Array Operand}{tys:Array TypeId}{vs:List Value}{K:Value→Gh→Prop}(ho:opv fr fo=some (.func (.func f) #[] #[]))(hv:opvs fr args.toList=some vs)
  (hF:Fn P f vs G K)(hd:dstOk n dst=true)(h: ∀v (G':Gh),[GE G G']→K v G'→St C n (put fr dst v) own G' Φ):
  Ch P C n fr own G ⟨dst, .call ⟨.value fo,args,tys⟩,ty',pos,af,gd⟩ Φ:=
 ch_callc (c1:=[]) (c2:=[]) ho hv (by simpa using hF) hd h
theorem ch_callcM{f:FuncId}{fo:Operand}{args:Array Operand}{tys:Array TypeId}{vs c1 c2:List Value}{M rest:List Own}{K:Value→List (List Value)→Gh→Prop}(ho:opv fr fo=some (.func (.func f) ⟨c1⟩ ⟨c2⟩))(hv:opvs fr args.toList=some vs)
  (hp:own.Perm (M++rest))(hF:FnM P f (c1++vs++c2) M G K)(hd:dstOk n dst=true)(h: ∀v css (G':Gh),[GE G G']→css.length=M.length→K v css G'→St C n (put fr dst v) (reown M css++rest) G' Φ):
  Ch P C n fr own G ⟨dst, .call ⟨.value fo,args,tys⟩,ty',pos,af,gd⟩ Φ:=by
 intro a w Q rl
 have h2:=run_call (P:=P) (dst:=dst) (ty':=ty') (pos:=pos) (af:=af) (gd:=gd) (tys:=tys) (w:=w) hF.able rl.fr ho hv
 simp only[Oper.wp,h2,Oper.upon]
 have hh0:=rl.h.perm hp
 refine(hF.run w hh0.lend).mono ?_
 rintro e w' ⟨v,css,G',rfl,hl,hh,hK⟩
 exact @h v css G' ⟨hh.gle⟩ hl hK _ _ ((rl.heap (hh0.calledM hl hh)).put _ hd)
theorem ch_callM{f:FuncId}{fo:Operand}{args:Array Operand}{tys:Array TypeId}{vs:List Value}{M rest:List Own}{K:Value→List (List Value)→Gh→Prop}(ho:opv fr fo=some (.func (.func f) #[] #[]))(hv:opvs fr args.toList=some vs)
  (hp:own.Perm (M++rest))(hF:FnM P f vs M G K)(hd:dstOk n dst=true)(h: ∀v css (G':Gh),[GE G G']→css.length=M.length→K v css G'→St C n (put fr dst v) (reown M css++rest) G' Φ):
  Ch P C n fr own G ⟨dst, .call ⟨.value fo,args,tys⟩,ty',pos,af,gd⟩ Φ:=
 ch_callcM (c1:=[]) (c2:=[]) ho hv hp (by simpa using hF) hd h
end
section
variable {P:Program} {C:Ctx} {n:Nat} {fr:Fr} {own own':List Own} {G:Gh}
/-! ### results -/
inductive RVs (P:Program) (fr:Fr) (own:List Own):List ResultVar→List Value→Prop
 |nil:RVs P fr own [] []
 |tmp {t:Nat} {v:Value} {rs:List ResultVar} {vs:List Value} (h:look fr t=some v) (k:RVs P fr own rs vs):RVs P fr own (.tmp t::rs) (v::vs)
 |agg {a b k:Nat} {t ty:TypeId} {cs l:List Value} {lo:Bool} {rs:List ResultVar} {vs:List Value} (h:look fr a=some (.pointer (some ⟨b,0,none⟩))) (ho:OAt own b cs ty lo) (ht:TyA P t k) (hl:takeL cs 0 k=some l) (h2:RVs P fr own rs vs):
   RVs P fr own (.cell a t::rs) (.agg ⟨l⟩::vs)
 |sc {a b:Nat} {t ty:TypeId} {cs:List Value} {v:Value} {lo:Bool} {rs:List ResultVar} {vs:List Value} (h:look fr a=some (.pointer (some ⟨b,0,none⟩))) (ho:OAt own b cs ty lo) (ht:TyS P t) (hl:cs[0]? =some v) (h2:RVs P fr own rs vs):
   RVs P fr own (.cell a t::rs) (v::vs)
def rv1(a:Act):ResultVar→Sem Value
 | .tmp t=>pure (a.tmps.getD t undef)
 | .cell x t=>do loadVar t (←asAddr (a.tmps.getD x undef))
theorem RVs.run{rs:List ResultVar}{vs:List Value}(h:RVs P fr own rs vs){a:Act}{w:World}(hf:FrOk fr a)(hh:HRel C own G w):
  (rs.mapM (rv1 a)).run P w= .ok vs w:=by
 induction h with
 |nil=>rfl
 | @tmp t v rs vs h k ih=>
  rw[List.mapM_cons]
  have e:=hf _ _ h
  have e2:a.tmps.getD t undef=v:=by rw[Array.getD_eq_getD_getElem?,e];rfl
  rw[run_ok_bind (a:=v) (w':=w) (by simp only[rv1,e2];exact run_pure _ _ _),run_ok_bind ih]
  rfl
 | @agg x b k t ty cs l lo rs vs h ho ht hl h2 ih=>
  rw[List.mapM_cons]
  have e:=hf _ _ h
  have e2:a.tmps.getD x undef= .pointer (some ⟨b,0,none⟩):=by rw[Array.getD_eq_getD_getElem?,e];rfl
  rw[run_ok_bind (a:= .agg ⟨l⟩) (w':=w) (by simp only[rv1,e2,asAddr];rw[run_ok_bind (run_pure _ _ _)];exact run_loadVar_agg (hh.hown _ ho.mem).1 hl),run_ok_bind ih]
  rfl
 | @sc x b t ty cs v lo rs vs h ho ht hl h2 ih=>
  rw[List.mapM_cons]
  have e:=hf _ _ h
  have e2:a.tmps.getD x undef= .pointer (some ⟨b,0,none⟩):=by rw[Array.getD_eq_getD_getElem?,e];rfl
  rw[run_ok_bind (a:=v) (w':=w) (by simp only[rv1,e2,asAddr];rw[run_ok_bind (run_pure _ _ _)];exact run_loadVar_sc (hh.hown _ ho.mem).1 hl),run_ok_bind ih]
  rfl
def tupled:List Value→Value
 |[v]=>v
 |vs=> .tuple ⟨vs⟩
theorem run_results{fn:Func}{vs:List Value}{a:Act}{w:World}(hr:RVs P fr own fn.results.toList vs)(hf:FrOk fr a)(hh:HRel C own G w):(results fn a.tmps).run P w= .ok (tupled vs) w:=by
 have h0:=RVs.run (C:=C) (G:=G) hr hf hh
 have h1:(fn.results.mapM (rv1 a)).run P w= .ok (⟨vs⟩:Array Value) w:=by
  rw[←Array.toArray_toList (xs:=fn.results),List.mapM_toArray,map_eq_pure_bind,run_ok_bind h0]
  rfl
 have h2:results fn a.tmps=(do
   let vs←fn.results.mapM (rv1 a)
   pure (if h:vs.size=1 then vs[0] else .tuple vs)):=by
  unfold results
  congr 1
 rw[h2,run_ok_bind h1]
 match vs with
 |[]=>rfl
 |[v]=>rfl
 |_::_::_=>rfl
def RPost(C:Ctx)(K:Value→Gh→Prop):Ending→World→Prop:=fun e w'=> ∃v G',e= .returned v∧HRel C [] G' w'∧K v G'
def RPostM(C:Ctx)(M:List Own)(K:Value→List (List Value)→Gh→Prop):Ending→World→Prop:=fun e w'=> ∃v css G',e= .returned v∧css.length=M.length∧HRel C (reown (asB M) css) G' w'∧K v css G'
theorem zD{fn:Func}{K:Value→Gh→Prop}{vs:List Value}(hr:RVs P fr own fn.results.toList vs)(hk:K (tupled vs) G):St C n fr own G (bodyPost P fn (RPost C K) .ret):=
 fun a w rl=>⟨rl.df,_,run_results hr rl.fr rl.h,_,G,rfl,rl.h.drop (List.nil_sublist _),hk⟩
theorem st_doneN{fn:Func}{K:Value→Gh→Prop}{vs:List Value}(hr:RVs P fr own fn.results.toList vs)(hk:K (tupled vs) G):St C n fr own G (bodyPost P fn (RPost C K) .normal):=
 fun a w rl=>⟨rl.df,_,run_results hr rl.fr rl.h,_,G,rfl,rl.h.drop (List.nil_sublist _),hk⟩
theorem st_doneM{fn:Func}{M:List Own}{css:List (List Value)}{K:Value→List (List Value)→Gh→Prop}{vs:List Value}(hr:RVs P fr own fn.results.toList vs)(hl:css.length=M.length)(own2:List Own)(hp:own.Perm own2)(hs:(reown (asB M) css).Sublist own2)(hk:K (tupled vs) css G):St C n fr own G (bodyPost P fn (RPostM C M K) .ret):=
 fun a w rl=>⟨rl.df,_,run_results hr rl.fr rl.h,_,css,G,rfl,hl,(rl.h.perm hp).drop hs,hk⟩
/-! ### the function's beginning -/
def args0:Nat→List Value→Fr
 |_,[]=>[]
 |i,v::t=>(i,v)::args0 (i+1) t
theorem look_args0: ∀(vs:List Value) (i k:Nat) (v:Value),look (args0 i vs) k=some v→ ∃j,k=i+j∧vs[j]? =some v
 |[],i,k,v,h=>by cases h
 |u::vs,i,k,v,h=>by
  rw[args0,look_cons] at h
  split at h
  ·subst_vars;cases h;exact⟨0,rfl,rfl⟩
  ·obtain⟨j,rfl,hj⟩:=look_args0 vs (i+1) k v h
   exact⟨j+1,by omega,by simpa using hj⟩
theorem Fn.intro{f:FuncId}{fn:Func}{c:Code}{vs:List Value}{m:Nat}{K:Value→Gh→Prop}(hf:P.funcs[f]? =some fn)(hb:fn.body=some c)(hn:(fn.name== "runtime.NumGoroutine")=false)(hm:fn.ntmps=m)(hlen:Nat.ble vs.length m=true)
  (h: ∀C:Ctx,C.G0=G→C.mb=[]→St C m (args0 0 vs) [] G (c.wp P (bodyPost P fn (RPost C K)))):Fn P f vs G K:=by
 refine⟨⟨fn,hf,hn,by simp[hb]⟩,fun w hw=>?_⟩
 have hlen':vs.length≤m:=by simpa using hlen
 have:=calls_of_wp (P:=P) (f:=f) (args:=⟨vs⟩) (w:=w) (R:=RPost ⟨w,G,[]⟩ K) hf hb (h ⟨w,G,[]⟩ J J _ w
  ⟨⟨rfl,rfl,rfl,Nat.le_refl _,fun _ _ _=>rfl,hw,GLe.refl _,fun _ _=>rfl,fun o ho=>(by cases ho), .nil⟩,by simp;omega,fun k v hk=>by
   obtain⟨j,rfl,hj⟩:=look_args0 vs 0 k v hk
   have hj':=(List.getElem?_eq_some_iff.1 hj).1
   rw[Array.getElem?_append_left (by simpa using hj')]
   simpa using hj,rfl⟩)
 exact this
theorem FnM.intro{f:FuncId}{fn:Func}{c:Code}{vs:List Value}{m:Nat}{M:List Own}{K:Value→List (List Value)→Gh→Prop}(hf:P.funcs[f]? =some fn)(hb:fn.body=some c)(hn:(fn.name== "runtime.NumGoroutine")=false)(hm:fn.ntmps=m)(hlen:Nat.ble vs.length m=true)
  (h: ∀C:Ctx,C.G0=G→C.mb=M.map (·.b)→St C m (args0 0 vs) (asB M) G (c.wp P (bodyPost P fn (RPostM C M K)))):FnM P f vs M G K:=by
 refine⟨⟨fn,hf,hn,by simp[hb]⟩,fun w hw=>?_⟩
 have hlen':vs.length≤m:=by simpa using hlen
 have:=calls_of_wp (P:=P) (f:=f) (args:=⟨vs⟩) (w:=w) (R:=RPostM ⟨w,G,M.map (·.b)⟩ M K) hf hb (h ⟨w,G,M.map (·.b)⟩ J J _ w
  ⟨hw,by simp;omega,fun k v hk=>by
   obtain⟨j,rfl,hj⟩:=look_args0 vs 0 k v hk
   have hj':=(List.getElem?_eq_some_iff.1 hj).1
   rw[Array.getElem?_append_left (by simpa using hj')]
   simpa using hj,rfl⟩)
 exact this
/-! ### freezing, weakening -/
theorem st_freeze{Φ:Act→World→Prop}(b:Nat){cs:List Value}{ty:TypeId}(hr:ORem own ⟨b,cs,ty,true⟩ own')(h: ∀G':Gh,[GE G G']→[GHas G' b cs]→St C n fr own' G' Φ):St C n fr own G Φ:=
 fun a w rl=>by
  obtain⟨h1,h2⟩:=rl.h.freeze hr
  exact @h _ ⟨h2⟩ ⟨by simp⟩ a w (rl.heap h1)
theorem st_drop{Φ:Act→World→Prop}(own':List Own)(hs:own'.Sublist own)(h:St C n fr own' G Φ):St C n fr own G Φ:=
 fun a w rl=>h a w (rl.heap (rl.h.drop hs))
theorem st_perm{Φ:Act→World→Prop}(own':List Own)(hs:own.Perm own')(h:St C n fr own' G Φ):St C n fr own G Φ:=
 fun a w rl=>h a w (rl.heap (rl.h.perm hs))
/-! ### loops -/
def Again(C:Ctx)(n:Nat){X:Type}(F:X→Fr)(O:X→List Own)(I:X→Gh→Prop)(μ:X→Nat)(m:Nat)(G:Gh)(a:Act)(w:World):Prop:=
 ∃x G',GLe G G'∧I x G'∧μ x<m∧Rel C n (F x) (O x) G' a w
theorem st_loop{Q:Exit→Act→World→Prop}{c:Code}{X:Type}(F:X→Fr)(O:X→List Own)(I:X→Gh→Prop)(μ:X→Nat)(x0:X)(hI:I x0 G)(hF:FrLe (F x0) fr)(hO:O x0=own)
  (round: ∀(x:X) (G':Gh),[GE G G']→I x G'→St C n (F x) (O x) G' (c.wp P (Exit.then (Again C n F O I μ (μ x) G') Q))):St C n fr own G ((Code.loop c).wp P Q):=by
 intro a w rl
 subst hO
 intro b k cs
 have key: ∀m a w,(∃x G',GLe G G'∧I x G'∧μ x=m∧Rel C n (F x) (O x) G' a w)→
   ∃e a' w',Q e a' w'∧Arrives P (lone (b.at a (.code c:: .inLoop c::k)) cs w) b k cs e a' w':=by
  intro m
  induction m using Nat.strongRecOn with
  |_ m ih=>
   intro a w ⟨x,G',hle,hx,hm,hr⟩
   obtain⟨e,a₁,w₁,hq,harr⟩:= @round x G' ⟨hle⟩ hx a w hr b (.inLoop c::k) cs
   cases e with
   |normal=>
    obtain⟨x',G'',hle',hx',hlt,hr'⟩:=hq
    obtain⟨e₂,a₂,w₂,hq₂,harr₂⟩:=ih (μ x') (hm▸hlt) a₁ w₁ ⟨x',G'',hle.trans hle',hx',rfl,hr'⟩
    exact⟨e₂,a₂,w₂,hq₂, .of_steps (Steps.trans harr (.one step_inLoop)) harr₂⟩
   |exit id=>exact⟨_,a₁,w₁,hq, .pass (x:= .inLoop c) rfl (fun _ _=> .inl (by simp)) harr⟩
   |goto l=>exact⟨_,a₁,w₁,hq, .pass (x:= .inLoop c) rfl (fun _ _=> .inl (by simp)) harr⟩
   |ret=>exact⟨_,a₁,w₁,hq, .pass (x:= .inLoop c) rfl (fun _ _=> .inl (by simp)) harr⟩
   |panic ch=>exact⟨_,a₁,w₁,hq, .pass (x:= .inLoop c) rfl (fun _ _=> .inl (by simp)) harr⟩
   |outgrown=>exact⟨_,a₁,w₁,hq, .pass (x:= .inLoop c) rfl (fun _ _=> .inl (by simp)) harr⟩
 obtain⟨e,a',w',q,r⟩:=key (μ x0) a w ⟨x0,G,GLe.refl _,hI,rfl,rl.h,rl.sz,fun k v hk=>rl.fr _ _ (hF _ _ hk),rl.df⟩
 exact⟨e,a',w',q, .of_steps (.one step_loop) r⟩
/-! ### where ways meet again -/
def At(C:Ctx)(n:Nat){X:Type}(F:X→Fr)(O:X→List Own)(I:X→Gh→Prop)(G:Gh)(a:Act)(w:World):Prop:=
 ∃x G',GLe G G'∧I x G'∧Rel C n (F x) (O x) G' a w
theorem st_cut{Q:Exit→Act→World→Prop}{c d:Code}(X:Type)(F:X→Fr)(O:X→List Own)(I:X→Gh→Prop)(h1:St C n fr own G (c.wp P (Exit.then (At C n F O I G) Q)))
  (h2: ∀(x:X) (G':Gh),[GE G G']→I x G'→St C n (F x) (O x) G' (d.wp P Q)):St C n fr own G ((Code.seq c d).wp P Q):=by
 intro a w rl
 refine wp_seq (wp_mono (h1 a w rl) ?_)
 intro e a w h
 cases e with
 |normal=>obtain⟨x,G',hle,hI,hr⟩:=h;exact @h2 x G' ⟨hle⟩ hI a w hr
 |_=>exact h
theorem st_at{X:Type}{F:X→Fr}{O:X→List Own}{I:X→Gh→Prop}{G0:Gh}[hg:GL G0 G](x:X)(hI:I x G)(hF:FrLe (F x) fr)(hO:O x=own):St C n fr own G (At C n F O I G0):=
 fun a w rl=>⟨x,G,hg.le,hI,⟨hO▸rl.h,rl.sz,fun k v hk=>rl.fr _ _ (hF _ _ hk),rl.df⟩⟩
theorem st_again{X:Type}{F:X→Fr}{O:X→List Own}{I:X→Gh→Prop}{μ:X→Nat}{m:Nat}{G0:Gh}[hg:GL G0 G](x:X)(hI:I x G)(hμ:μ x<m)(hF:FrLe (F x) fr)(hO:O x=own):St C n fr own G (Again C n F O I μ m G0):=
 fun a w rl=>⟨x,G,hg.le,hI,hμ,⟨hO▸rl.h,rl.sz,fun k v hk=>rl.fr _ _ (hF _ _ hk),rl.df⟩⟩
end
def NoPan(Q:Exit→Act→World→Prop):Exit→Act→World→Prop
 | .panic _,_,_=>False
 |e,a,w=>Q e a w
theorem NoPan.imp{Q:Exit→Act→World→Prop}: ∀(e:Exit) (a:Act) (w:World),NoPan Q e a w→Q e a w:=fun e a w h=>by
 cases e<;>first|exact h|exact(h:False).elim
section
variable {P:Program} {ops:Array Oper} {Q:Exit→Act→World→Prop} {S:World→Prop} {fin:Nat→Bool}
def wpAnyZ(P:Program)(ops:Array Oper)(Q:Exit→Act→World→Prop)(S:World→Prop)(fin:Nat→Bool):Nat→Array Bool→Act→World→Prop
 |0,listed,a,w=>Region.ready .any ops listed=[]∧Q .normal a w
 |fuel+1,listed,a,w=>
  (Region.ready .any ops listed=[]→Q .normal a w)∧
  ∀i∈Region.ready .any ops listed,wpOp P ops Q i (fun a' w'=>(fin i=true∨S w')∧wpAnyZ P ops Q S fin fuel (listed.setIfInBounds i true) a' w') a w
theorem wpAny_of_Z: ∀(fuel:Nat) (listed:Array Bool) (a:Act) (w:World),wpAnyZ P ops Q S fin fuel listed a w→wpAny P .any ops Q fuel listed a w
 |0,_,_,_,h=>h
 |fuel+1,_,_,_,h=>⟨h.1,fun i hi=>wpOp_mono (fun a' w' h'=>wpAny_of_Z fuel _ a' w' h'.2) (h.2 i hi)⟩
def finOk(ops:Array Oper)(fin:Nat→Bool)(i:Nat):Bool:=
 !fin i&&(List.range ops.size).all fun j=>!fin j||((ops[j]?).map fun o=>o.after.any fun e=>Region.binds .any e&&e.on==i).getD true
theorem finOk_spec{i:Nat}(h:finOk ops fin i=true):fin i=false∧ ∀j oj,ops[j]? =some oj→fin j=true→ ∃e∈oj.after,Region.binds .any e=true∧e.on=i:=by
 simp only[finOk,Bool.and_eq_true,Bool.not_eq_true'] at h
 refine⟨h.1,fun j oj hoj hf=>?_⟩
 have hj:j<ops.size:=(Array.getElem?_eq_some_iff.1 hoj).1
 have h1:=List.all_eq_true.1 h.2 j (by simpa using hj)
 rw[hf,hoj] at h1
 simp only[Bool.not_true,Option.map_some,Option.getD_some,Bool.false_or] at h1
 obtain⟨e,he,hb⟩:=Array.any_eq_true'.1 h1
 simp only[Bool.and_eq_true,beq_iff_eq] at hb
 exact⟨e,he,hb.1,hb.2⟩
theorem wpAnyZ_first{i:Nat}{oi:Oper}{v:Value}(hi:ops[i]? =some oi)(hsel: ∀(j:Nat) (o:Oper) cs b,ops[j]? =some o→o.op≠ .select cs b)
  (hQ: ∀c a w,Q (.panic c) (a.put oi.dst v) w→Q (.panic c) a w)(hfi:fin i=false)
  (hfin: ∀j oj,ops[j]? =some oj→fin j=true→ ∃e∈oj.after,Region.binds .any e=true∧e.on=i):
  ∀(fuel:Nat) (listed:Array Bool) (a:Act) (w:World),
   (∀j oj,ops[j]? =some oj→j≠i→listed.getD j true=false→(∀e∈oj.after,Region.binds .any e=true→e.on≠i)→oi.apart ops oj=true)→
   i∈Region.ready .any ops listed→YieldsIf P ops S oi v a→S w→
   wpAnyZ P ops Q S fin fuel (listed.setIfInBounds i true) (a.put oi.dst v) w→wpAnyZ P ops Q S fin (fuel+1) listed a w:=by
 intro fuel
 induction fuel with
 |zero=>
  intro listed a w _ hr hy hS H
  refine⟨fun h=>(by rw[h] at hr;cases hr),fun j hj=>?_⟩
  by_cases hji:j=i
  ·subst hji;exact hy.wpOp hi hS ⟨.inr hS,H⟩
  ·have:=ready_mono hj hji
   rw[H.1] at this
   cases this
 |succ fuel ih=>
  intro listed a w hfree hr hy hS H
  refine⟨fun h=>(by rw[h] at hr;cases hr),fun j hj=>?_⟩
  by_cases hji:j=i
  ·subst hji;exact hy.wpOp hi hS ⟨.inr hS,H⟩
  ·have h1:=H.2 j (ready_mono hj hji)
   obtain⟨hjun,oj,hoj,hall⟩:=mem_ready.1 hj
   have hnot: ∀e∈oj.after,Region.binds .any e=true→e.on≠i:=fun e he hb heq=>by
    have h1:=hall e he hb
    have h0:=(mem_ready.1 hr).1
    rw[heq] at h1
    rcases Nat.lt_or_ge i listed.size with h'|h'
    ·simp[h'] at h0 h1;rw[h0] at h1;cases h1
    ·simp[Array.getElem?_eq_none h'] at h1
   have hnf:fin j=false:=by
    cases hf:fin j with
    |false=>rfl
    |true=>obtain⟨e,he,hb,heq⟩:=hfin j oj hoj hf;exact absurd heq (hnot e he hb)
   have h2:=wpOp_putIf hoj (hfree j oj hoj hji hjun hnot) (fun cs b=>hsel i oi cs b hi) (fun cs b=>hsel j oj cs b hoj) hQ hy h1
   have hfree': ∀k ok,ops[k]? =some ok→k≠i→(listed.setIfInBounds j true).getD k true=false→
     (∀e∈ok.after,Region.binds .any e=true→e.on≠i)→oi.apart ops ok=true:=fun k ok hk hki hun hno=>by
    refine hfree k ok hk hki ?_ hno
    by_cases hjk:j=k
    ·subst hjk;exact hjun
    ·rw[getD_set_ne true hjk] at hun;exact hun
   refine wpOp_mono (fun a' w' h3=>?_) h2
   have hS':S w':=h3.2.1.resolve_left (by rw[hnf];simp)
   refine⟨.inr hS',ih (listed.setIfInBounds j true) a' w' hfree' (ready_mono hr (Ne.symm hji)) h3.1 hS' ?_⟩
   rw[Array.setIfInBounds_comm _ _ hji]
   exact h3.2.2
theorem wpAnyZ_all{i:Nat}{fuel:Nat}{listed:Array Bool}{a:Act}{w:World}(hr:Region.ready .any ops listed=[i])
  (h:wpOp P ops Q i (fun a' w'=>(fin i=true∨S w')∧wpAnyZ P ops Q S fin fuel (listed.setIfInBounds i true) a' w') a w):wpAnyZ P ops Q S fin (fuel+1) listed a w:=
 ⟨fun h0=>absurd (hr.symm.trans h0) (by simp),fun j hj=>by rw[hr,List.mem_singleton] at hj;subst hj;exact h⟩
def takeOk(ops:Array Oper)(fin:Nat→Bool)(listed:Array Bool)(i:Nat):Bool:=
 Region.noSelect ops&&Region.free .any ops listed i&&(Region.ready .any ops listed).contains i&&finOk ops fin i
end
class SubL (l m:List Own):Prop where s:l.Sublist m
instance SubL.refl (l:List Own):SubL l l:=⟨List.Sublist.refl l⟩
instance SubL.cons (l m:List Own) (o:Own) [h:SubL l m]:SubL l (o::m):=⟨h.s.cons o⟩
def HS(C:Ctx)(own:List Own)(G:Gh):World→Prop:=fun w=> ∃G',GLe G G'∧HRel C own G' w
section
variable {P:Program} {C:Ctx} {n:Nat} {fr:Fr} {own own0:List Own} {G G0:Gh} {ops:Array Oper} {Q:Exit→Act→World→Prop} {fin:Nat→Bool}
theorem dr_region{id:Nat}(fin:Nat→Bool)(hm:P.follows .mixedOrders=true)
  (h:St C n fr own G (wpAnyZ P ops (NoPan Q) (HS C own G) fin ops.size (Array.replicate ops.size false))):St C n fr own G ((Code.region id ops true).wp P Q):=by
 intro a w rl
 exact wp_mono (wp_region_any hm (wpAny_of_Z _ _ _ _ (h a _ (rl.heap rl.h.drew)))) NoPan.imp
theorem dr_s{b:Bool}{Φ:Act→World→Prop}[hs:SubL own0 own][hl:GL G0 G](h:St C n fr own G Φ):St C n fr own G (fun a w=>(b=true∨HS C own0 G0 w)∧Φ a w):=
 fun a w rl=>⟨.inr ⟨G,hl.le,rl.h.drop hs.s⟩,h a w rl⟩
end
end Go.Sx
end
