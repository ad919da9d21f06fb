import Derived.Calls
import Derived.Orders
import Derived.OrdersHeld
import Derived.Laws.World
import Derived.Below
import Derived.IntWalk
import Derived.KernelRfl
import Derived.Laws.Append
set_option linter.all false
section
namespace Go.Sx
def J{α:Sort _}{a:α}:a=a:=rfl
open Go
def aQ:=@List.mem_cons_self
def aZ:=@List.length_map
def aX:=@List.getElem?_eq_getElem
def aJ:=@List.length_replicate
def aK:=@List.mem_cons_of_mem
def aV:=@List.getD_eq_getElem?_getD
def aW:=@Nat.eq_of_beq_eq_true
def aY:=@List.length_set
def aU:=@Array.getD_eq_getD_getElem?
def aT:=@List.take_of_length_le
def aR:=@Bool.and_eq_true
def aS:=@List.getElem?_eq_some_iff
def aL:=@List.mem_singleton
def aM:=@Nat.mul_le_mul_right
def aN:=@List.mem_of_getElem?
def bQ:=@List.mem_cons
def bZ:=@Nat.le_refl
def bX:=@List.length_append
def bJ:=@Int.toNat_natCast
def bK:=@List.eq_nil_of_length_eq_zero
def bV:=@Nat.mul_assoc
def bW:=@Nat.pow_le_pow_right
def bY:=@Nat.mul_comm
def bU:=@List.pairwise_cons
def bT:=@List.length_cons
def bR:=@List.length_take
def bS:=@Nat.zero_le
def bL:=@List.drop_eq_getElem_cons
def bM:=@Array.getElem?_setIfInBounds
def bN:=@List.map_cons
def cZ:=@Nat.mul_add
def cX:=@List.mem_map
def cJ:=@Nat.add_mul
def cK:=@Array.getElem?_eq_some_iff
def cV:=@List.getElem?_append_left
def cW:=@List.all_eq_true
def cY:=@Nat.zero_add
def cR:=@List.take_add_one
def cS:=@Array.getElem?_eq_getElem
def cL:=@List.getElem?_eq_none
def cM:=@Nat.mod_lt
def cN:=@Nat.lt_of_lt_of_le
def dQ:=@Nat.add_zero
def dZ:=@List.take_succ_eq_append_getElem
def dX:=@List.take_length
def dJ:=@Nat.eq_zero_or_pos
def dK:=@Rat.intCast_mul
def dV:=@List.mem_append_left
def dW:=@List.take_append_of_le_length
def dY:=@Array.length_toList
def dT:=@Nat.min_eq_left
def dR:=@List.mem_append
def dS:=@Nat.le_trans
def dL:=@List.append_assoc
def eX:=@Nat.lt_of_le_of_lt
def eJ:=@List.replicate_succ
def eK:=@Nat.mul_le_mul_left
def eY:=@Nat.mod_eq_of_lt
def fQ:=@List.getElem?_append_right
def fZ:=@List.getElem?_map
def fX:=@Nat.pow_succ
def fJ:=@List.drop_of_length_le
def fK:=@Bool.or_eq_true
def fV:=@Int.natAbs_mul
def fW:=@Int.natAbs_neg
def fY:=@List.map_append
def fU:=@Bool.not_eq_true'
def fT:=@Nat.succ_mul
def fR:=@Int.fdiv_eq_ediv_of_nonneg
def fS:=@Int.sign_eq_neg_one_of_neg
def fL:=@Option.map_some
def fM:=@List.map_toArray
def fN:=@Nat.pow_pos
def gQ:=@List.drop_append_of_le_length
def gX:=@Nat.pow_add
def gJ:=@List.mem_append_right
def gK:=@List.map_nil
def gV:=@Nat.gcd_comm
def gW:=@List.cons_append
def gU:=@List.mem_of_mem_take
def gT:=@Array.getElem?_append_left
def gR:=@List.flatten_cons
def gS:=@Int.ofNat_natAbs_of_nonpos
def gL:=@Int.sign_eq_one_of_pos
def gM:=@List.length_nil
def gN:=@List.nil_append
def hZ:=@Option.getD_some
def iQ:=@Nat.pos_of_ne_zero
def iZ:=@Int.natAbs_natCast
def iX:=@Nat.lt_or_ge
def iJ:=@List.eq_of_mem_replicate
def iK:=@List.pairwise_append
def iV:=@Nat.mul_pos
def iW:=@Nat.div_le_self
def iY:=@Rat.num_eq_zero
def iU:=@Array.getElem?_eq_none
def iT:=@Nat.mul_one
def iR:=@List.drop_length
def iS:=@Nat.gcd_dvd_left
def iL:=@Nat.add_sub_cancel
def iM:=@Int.natAbs_ediv_le_natAbs
def iN:=@List.foldl_cons
def jQ:=@List.size_toArray
def jZ:=@List.ext_getElem?
def jX:=@Nat.zero_mul
def jJ:=@Int.natAbs_of_nonneg
def jK:=@Rat.neg_num
def jV:=@Nat.blt_eq
def jW:=@Nat.pow_lt_pow_iff_right
def jY:=@Array.toList_map
def jU:=@Nat.shiftLeft_eq
def jT:=@Rat.mul_nonneg
def jR:=@Rat.intCast_eq_zero_iff
def jS:=@List.not_mem_nil
def jL:=@Nat.shiftLeft_add_eq_or_of_lt
def jM:=@Bool.false_eq_true
def jN:=@List.getElem?_drop
def kQ:=@Int.natCast_mul
def kZ:=@Nat.add_assoc
def kX:=@List.take_append_drop
def kJ:=@Array.getElem?_toList
def kK:=@List.getElem?_set
def kV:=@Nat.mul_lt_mul_of_pos_right
def kW:=@Nat.gcd_dvd_right
def kY:=@List.mapM_cons
def kU:=@Nat.mul_le_mul
def kT:=@Nat.one_mul
def kR:=@List.nil_sublist
def kS:=@List.length_drop
def kL:=@Nat.le_of_lt
def kM:=@List.any_eq_true
def kN:=@Nat.lt_trans
def lQ:=@Int.le_of_lt
def lZ:=@Nat.div_eq_of_lt
def lX:=@Int.natCast_emod
def lJ:=@Nat.le_add_right
def lK:=@Rat.mkRat_eq_div
def lV:=@List.mem_flatMap
def lW:=@List.take_succ_cons
def lY:=@Array.getElem?_replicate
def lU:=@Nat.gcd_pos_of_pos_right
def lT:=@Option.map_none
def lR:=@List.append_nil
def lS:=@Nat.gcd_zero_right
def lL:=@Int.natAbs_eq_zero
def lM:=@Int.natCast_dvd_natCast
def lN:=@Rat.neg_den
def mQ:=@Nat.gcd_pos_of_pos_left
def mZ:=@List.pairwise_map
def mX:=@List.drop_zero
def mJ:=@Nat.add_comm
def mK:=@List.length_range
def mV:=@List.eq_nil_or_concat
def mW:=@List.concat_eq_append
def mY:=@List.getElem_mem
def mU:=@Nat.pow_mul
def mT:=@Bool.or_eq_false_iff
def mR:=@Nat.div_lt_of_lt_mul
def mS:=@Nat.add_mul_div_left
def mL:=@Int.natCast_add
def mM:=@Rat.den_intCast
def mN:=@List.getElem?_range
def nQ:=@List.drop_set_of_lt
def nZ:=@List.length_pos_iff
abbrev Gh:=Nat->Option (List Value)
def aO(G G':Gh):Prop:= ∀b cs,G b=some cs->G' b=some cs
def aO.refl(G:Gh):aO G G:=fun _ _ h=>h
def aO.trans{a b c:Gh}(h:aO a b)(k:aO b c):aO a c:=fun _ _ x=>k _ _ (h _ _ x)
structure ao where
 b:Nat
 cs:List Value
 ty:TypeId
 lo:Bool
structure au where
 w0:World
 G0:Gh
 mb:List Nat
 /-- other objects that stay: records of loops, marks -/
 ex:List (Nat×Obj)
 /-- the marks among the deferred calls; the round -/
 mks:List Deferred
 rd:Option Nat
 /-- where names that are fixed lie -/
 fx:Nat->Option Addr
structure bc (C:au) (own:List ao) (G:Gh) (w:World):Prop where
 os:w.os=C.w0.os
 tape:w.tape=C.w0.tape
 output:w.output=C.w0.output
 size:C.w0.heap.size<=w.heap.size
 keep: ∀b,b<C.w0.heap.size->b∉C.mb->w.heap[b]? =C.w0.heap[b]?
 sub: ∀b cs,G b=some cs-> ∃ty fz,w.heap[b]? =some (.cells ⟨cs⟩ ty fz)
 gle:aO C.G0 G
 gold: ∀b,b<C.w0.heap.size->G b=C.G0 b
 hown: ∀o∈own,w.heap[o.b]? =some (.cells ⟨o.cs⟩ o.ty (0,0))/\G o.b=none/\(o.lo=true->C.w0.heap.size<=o.b)/\(o.lo=false->o.b∈C.mb)
 nd:own.Pairwise (fun x y=>x.b≠y.b)
 dr:C.w0.drawn<=w.drawn
 ext: ∀p∈C.ex,(∀cs ty z,p.2≠ .cells cs ty z)/\w.heap[p.1]? =some p.2
abbrev Fr:=List (Nat×Value)
def d6:Fr->Nat->Option Value
 |[],_=>none
 |(k,v)::t,j=>bif Nat.beq k j then some v else d6 t j
def put(fr:Fr)(dst:Option Nat)(v:Value):Fr:=match dst with|some d=>(d,v)::fr|none=>fr
def fH(fr:Fr)(a:Act):Prop:= ∀k v,d6 fr k=some v->a.tmps[k]? =some v
structure d4 (C:au) (n:Nat) (fr:Fr) (own:List ao) (G:Gh) (a:Act) (w:World):Prop where
 h:bc C own G w
 sz:a.tmps.size=n
 fr:fH fr a
 df:a.defers=C.mks
def St(C:au)(n:Nat)(fr:Fr)(own:List ao)(G:Gh)(Φ:Act->World->Prop):Prop:=
 ∀a w,d4 C n fr own G a w->Φ a w
def aq(fr:Fr):Operand->Option Value
 | .tmp k=>d6 fr k
 | .const v=>some v
 | .global g=>some (.pointer (some ⟨g,0,none⟩))
 | .func f=>some (.func (.func f) #[] #[])
def aG{fr:Fr}{a:Act}(h:fH fr a){x:Operand}{v:Value}(hx:aq fr x=some v):a.eval x=v:=by
 cases x with
 |tmp k=>
  have:=h k v hx;simp only[Act.eval,aU,this,hZ]
 |const u=>simpa[aq,Act.eval] using hx
 |global g=>simpa[aq,Act.eval] using hx
 |func f=>simpa[aq,Act.eval] using hx
def lx(k:Nat)(v:Value)(t:Fr)(j:Nat):d6 ((k,v)::t) j=if k=j then some v else d6 t j:=by
 simp only[d6];by_cases h:k=j
 ·simp[h]
 ·have:Nat.beq k j=false:=by
   cases hb:Nat.beq k j with
   |false=>rfl
   |true=>exact absurd (aW hb) h
  simp[this,h]
def bD(n:Nat):Option Nat->Bool
 |some d=>Nat.blt d n
 |none=>true
def fH.put{fr:Fr}{a:Act}{n:Nat}(h:fH fr a)(hs:a.tmps.size=n){dst:Option Nat}{v:Value}(hd:bD n dst=true):fH (Sx.put fr dst v) (a.put dst v):=by
 cases dst with
 |none=>exact h
 |some d=>
  intro k u hk;have hdn:d<n:=by simpa[bD,jV] using hd
  simp only[Sx.put,lx] at hk;simp only[Act.put,bM];by_cases hkd:d=k
  ·simp only[hkd,if_true] at hk
   subst hkd;simp[hs,hdn,hk]
  ·simp only[hkd,if_false] at hk
   simp only[hkd,if_false];exact h k u hk
def Cy(a:Act)(dst:Option Nat)(v:Value):(a.put dst v).tmps.size=a.tmps.size:=by cases dst<;>simp[Act.put]
def Ay(a:Act)(dst:Option Nat)(v:Value):(a.put dst v).defers=a.defers:=by cases dst<;>simp[Act.put]
def d4.put{C n fr own G a w}(r:d4 C n fr own G a w){dst:Option Nat}(v:Value)(hd:bD n dst=true):d4 C n (Sx.put fr dst v) own G (a.put dst v) w:=
 ⟨r.h,by rw[Cy];exact r.sz,r.fr.put r.sz hd,by rw[Ay];exact r.df⟩
def d4.heap{C n fr own G own' G' a w w'}(r:d4 C n fr own G a w)(h:bc C own' G' w'):d4 C n fr own' G' a w':=⟨h,r.sz,r.fr,r.df⟩
def cH(P:Program)(ops:Array Oper)(Q:Exit->Act->World->Prop):List Oper->Act->World->Prop
 |[],a,w=>Q .normal a w
 |o::r,a,w=>if Region.wanted o (yielded ops a.tmps) then o.wp P a w (cH P ops Q r) Q else cH P ops Q r (a.put o.dst undef) w
def Kh{P:Program}{ops:Array Oper}{Q:Exit->Act->World->Prop}: ∀(l:List Nat) (k:Nat) (a:Act) (w:World),l=(List.range ops.size).drop k->cH P ops Q (ops.toList.drop k) a w->wpOps P ops Q l a w:=by
 intro l
 induction l with
 |nil=>
  intro k a w hl h;have hk:ops.size<=k:=by
   have:=congrArg List.length hl;simp at this;omega
  rw[List.drop_eq_nil_of_le (by simpa using hk)] at h;exact h
 |cons i t ih=>
  intro k a w hl h;have hk:k<ops.size:=by
   have:=congrArg List.length hl;simp at this;omega
  rw[bL (by simpa using hk)] at hl;obtain⟨hi,ht⟩:=List.cons.inj hl;simp only[List.getElem_range] at hi;subst hi;rw[bL (by simpa using hk)] at h;have ho:ops[i]? =some ops[i]:=cS hk;simp only[wpOps,ho];simp only[cH,Array.getElem_toList] at h;split
  ·rename_i hw
   simp only[hw,if_true] at h;exact .inl (Oper.wp_mono (fun a w h=>ih (i+1) a w ht h) h)
  ·rename_i hw
   simp only[hw] at h;exact ih (i+1) _ w ht h
def KR{P:Program}{id:Nat}{ops:Array Oper}{Q:Exit->Act->World->Prop}{a:Act}{w:World}
  (h:cH P ops Q ops.toList a w):(Code.region id ops false).wp P Q a w:=
 wp_region (Kh _ 0 a w (by simp) (by simpa using h))
def Yd(P:Program)(C:au)(fr:Fr)(own:List ao)(G:Gh)(o:Oper)(v:Value):Prop:=
 ∀a w,fH fr a->bc C own G w->(execOp a.eval o).run P w= .ok (.value v) w
section
variable {P:Program} {C:au} {n:Nat} {fr:Fr} {own:List ao} {G:Gh} {ops:Array Oper} {Q:Exit->Act->World->Prop} {r:List Oper}
def pb{o:Oper}{v:Value}(hy:Yd P C fr own G o v)(hg:o.guard=none)(hd:bD n o.dst=true)
  (h:St C n (put fr o.dst v) own G (cH P ops Q r)):St C n fr own G (cH P ops Q (o::r)):=by
 intro a w rl;simp only[cH,Region.wanted,hg,if_true,Oper.wp,hy a w rl.fr rl.h,Oper.upon];exact h _ _ (rl.put v hd)
def A3{a:Act}{j d:Nat}{b:Bool}(hf:fH fr a)(hj:(ops[j]?).bind (·.dst)=some d)(hl:d6 fr d=some (.bool b)):yielded ops a.tmps j=some b:=by
 unfold yielded;rw[hj];simp[hf d _ hl]
def GV{o:Oper}{v:Value}{j d:Nat}{b:Bool}(hg:o.guard=some (j,b))(hj:(ops[j]?).bind (·.dst)=some d)(hl:d6 fr d=some (.bool b))
  (hy:Yd P C fr own G o v)(hd:bD n o.dst=true)
  (h:St C n (put fr o.dst v) own G (cH P ops Q r)):St C n fr own G (cH P ops Q (o::r)):=by
 intro a w rl;have:Region.wanted o (yielded ops a.tmps)=true:=by simp[Region.wanted,hg,A3 rl.fr hj hl]
 simp only[cH,this,if_true,Oper.wp,hy a w rl.fr rl.h,Oper.upon];exact h _ _ (rl.put v hd)
def Ij{o:Oper}{j d:Nat}{b c:Bool}(hg:o.guard=some (j,b))(hj:(ops[j]?).bind (·.dst)=some d)(hl:d6 fr d=some (.bool c))(hbc:(c==b)=false)
  (hd:bD n o.dst=true)(h:St C n (put fr o.dst undef) own G (cH P ops Q r)):St C n fr own G (cH P ops Q (o::r)):=by
 intro a w rl;have:Region.wanted o (yielded ops a.tmps)=false:=by simp[Region.wanted,hg,A3 rl.fr hj hl,hbc]
 simp only[cH,this];exact h _ _ (rl.put undef hd)
def zE(h:St C n fr own G (Q .normal)):St C n fr own G (cH P ops Q []):=h
def cv{id:Nat}(h:St C n fr own G (cH P ops Q ops.toList)):St C n fr own G ((Code.region id ops false).wp P Q):=
 fun a w rl=>KR (h a w rl)
def bm{x y:Code}(h:St C n fr own G (x.wp P (Exit.then (y.wp P Q) Q))):St C n fr own G ((Code.seq x y).wp P Q):=
 fun a w rl=>wp_seq (h a w rl)
def zK(h:St C n fr own G (Q .normal)):St C n fr own G (Code.skip.wp P Q):=fun a w rl=>wp_skip (h a w rl)
def c7(h:St C n fr own G (Q .ret)):St C n fr own G (Code.ret.wp P Q):=fun a w rl=>wp_ret (h a w rl)
def eH{id:Nat}(h:St C n fr own G (Q (.exit id))):St C n fr own G ((Code.exit id).wp P Q):=fun a w rl=>wp_exit (h a w rl)
def c6{id:Nat}{c:Code}(h:St C n fr own G (c.wp P (Exit.inBlock id Q))):St C n fr own G ((Code.block id c).wp P Q):=
 fun a w rl=>wp_block (h a w rl)
def e8{id:Nat}{Q:Exit->Act->World->Prop}(h:St C n fr own G (Q .normal)):St C n fr own G (Exit.inBlock id Q (.exit id)):=
 fun a w rl=>by simp only[Exit.inBlock,if_true];exact h a w rl
def A8{id j:Nat}{Q:Exit->Act->World->Prop}(hne:Nat.beq j id=false)(h:St C n fr own G (Q (.exit j))):St C n fr own G (Exit.inBlock id Q (.exit j)):=
 fun a w rl=>by
  have:j≠id:=fun e=>by subst e;simp at hne
  simp only[Exit.inBlock,this,if_false];exact h a w rl
def xz{c:Operand}{x y:Code}(hc:aq fr c=some (.bool true))(h:St C n fr own G (x.wp P Q)):St C n fr own G ((Code.cond c x y).wp P Q):=
 fun a w rl=>wp_cond_true (aG rl.fr hc) (h a w rl)
def Hr{c:Operand}{x y:Code}(hc:aq fr c=some (.bool false))(h:St C n fr own G (y.wp P Q)):St C n fr own G ((Code.cond c x y).wp P Q):=
 fun a w rl=>wp_cond_false (aG rl.fr hc) (h a w rl)
def er{p:Prop}{inst:Decidable p}{c:Operand}{x y:Code}(hc:aq fr c=some (.bool (@decide p inst)))(h1:p->St C n fr own G (x.wp P Q))(h2: ¬p->St C n fr own G (y.wp P Q)):
  St C n fr own G ((Code.cond c x y).wp P Q):=
 fun a w rl=>wp_cond_split (aG rl.fr hc) (fun h=>h1 (of_decide_eq_true h) a w rl) (fun h=>h2 (of_decide_eq_false h) a w rl)
def MJ{b:Bool}{c:Operand}{x y:Code}(hc:aq fr c=some (.bool b))(h1:b=true->St C n fr own G (x.wp P Q))(h2:b=false->St C n fr own G (y.wp P Q)):
  St C n fr own G ((Code.cond c x y).wp P Q):=
 fun a w rl=>wp_cond_split (aG rl.fr hc) (fun h=>h1 h a w rl) (fun h=>h2 h a w rl)
def K2{Φ:Act->World->Prop}(d:Nat){b:Bool}(hl:d6 fr d=some (.bool b))(h1:b=true->St C n ((d, .bool true)::fr) own G Φ)(h2:b=false->St C n ((d, .bool false)::fr) own G Φ):St C n fr own G Φ:=by
 intro a w rl
 cases b with
 |true=>exact h1 J a w ⟨rl.h,rl.sz,fun k v hk=>by
   rw[lx] at hk;split at hk
   ·subst_vars;cases hk;exact rl.fr _ _ hl
   ·exact rl.fr _ _ hk,rl.df⟩
 |false=>exact h2 J a w ⟨rl.h,rl.sz,fun k v hk=>by
   rw[lx] at hk;split at hk
   ·subst_vars;cases hk;exact rl.fr _ _ hl
   ·exact rl.fr _ _ hk,rl.df⟩
def q9{Φ:Act->World->Prop}(d:Nat){p:Prop}{inst:Decidable p}(hl:d6 fr d=some (.bool (@decide p inst)))(h1:p->St C n ((d, .bool true)::fr) own G Φ)(h2: ¬p->St C n ((d, .bool false)::fr) own G Φ):St C n fr own G Φ:=
 K2 d hl (fun h=>h1 (of_decide_eq_true h)) (fun h=>h2 (of_decide_eq_false h))
def mn(fr' fr:Fr):Prop:= ∀k v,d6 fr' k=some v->d6 fr k=some v
def mn.nil:mn [] fr:=fun _ _ h=>by cases h
def mn.cons{fr':Fr}{k:Nat}{v:Value}(h:d6 fr k=some v)(t:mn fr' fr):mn ((k,v)::fr') fr:=fun j u hj=>by
 rw[lx] at hj;split at hj
 ·subst_vars;cases hj;exact h
 ·exact t _ _ hj
end
class fD (own:List ao) (b:Nat) (cs:outParam (List Value)) (ty:outParam TypeId) (lo:outParam Bool):Prop where
 mem:⟨b,cs,ty,lo⟩∈own
instance fD.i1 (b:Nat) (cs:List Value) (ty:TypeId) (lo:Bool) (t:List ao):fD (⟨b,cs,ty,lo⟩::t) b cs ty lo:=⟨aQ⟩
instance fD.i2 (o:ao) (t:List ao) (b:Nat) (cs:List Value) (ty:TypeId) (lo:Bool) [h:fD t b cs ty lo]:fD (o::t) b cs ty lo:=⟨aK _ h.mem⟩
inductive e7:List ao->Nat->List Value->TypeId->Bool->List Value->List ao->Prop
 |hd (b:Nat) (cs cs':List Value) (ty:TypeId) (lo:Bool) (t:List ao):e7 (⟨b,cs,ty,lo⟩::t) b cs ty lo cs' (⟨b,cs',ty,lo⟩::t)
 |tl (o:ao) (t t':List ao) (b:Nat) (cs cs':List Value) (ty:TypeId) (lo:Bool) (h:e7 t b cs ty lo cs' t'):e7 (o::t) b cs ty lo cs' (o::t')
inductive gm:List ao->ao->List ao->Prop
 |hd (o:ao) (t:List ao):gm (o::t) o t
 |tl (x:ao) (t t':List ao) (o:ao) (h:gm t o t'):gm (x::t) o (x::t')
class GE (A:outParam Gh) (B:Gh):Prop where le:aO A B
class GL (A B:Gh):Prop where le:aO A B
instance GL.refl (A:Gh):GL A A:=⟨aO.refl A⟩
instance GL.step (A B C:Gh) [h:GE B C] [k:GL A B]:GL A C:=⟨k.le.trans h.le⟩
class ww (G:outParam Gh) (b:Nat) (cs:outParam (List Value)):Prop where h:G b=some cs
def ww.up{A G:Gh}{b:Nat}{cs:List Value}(h:ww A b cs)[k:GL A G]:G b=some cs:=k.le _ _ h.h
def bF:List Value->Nat->Nat->Option (List Value)
 |_,0,0=>some []
 |[],0,_+1=>none
 |v::t,0,k+1=>match bF t 0 k with|some l=>some (v::l)|none=>none
 |[],_+1,_=>none
 |_::t,off+1,k=>bF t off k
def cp:List Value->Nat->List Value->List Value
 |cs,_,[]=>cs
 |cs,off,v::vs=>cp (cs.set off v) (off+1) vs
def kd: ∀(cs:List Value) (off k:Nat) (l:List Value),bF cs off k=some l->l.length=k/\ ∀i,i<k->cs[off+i]? =l[i]?
 |cs,0,0,l,h=>by
  cases cs<;>(simp only[bF] at h;cases h;exact⟨J,fun i hi=>absurd hi (Nat.not_lt_zero _)⟩)
 |[],0,_+1,l,h=>by simp[bF] at h
 |v::t,0,k+1,l,h=>by
  simp only[bF] at h;split at h
  ·rename_i l' hl'
   cases h
   obtain⟨h1,h2⟩:=kd t 0 k l' hl';refine⟨by simp[h1],fun i hi=>?_⟩
   cases i with
   |zero=>rfl
   |succ i=>
    have:=h2 i (by omega);simpa using this
  ·cases h
 |[],_+1,_,l,h=>by simp[bF] at h
 |_::t,off+1,k,l,h=>by
  simp only[bF] at h;obtain⟨h1,h2⟩:=kd t off k l h;refine⟨h1,fun i hi=>?_⟩;have:=h2 i hi;rw[<-this,show off+1+i=(off+i)+1 by omega];rfl
class kg (P:Program) (t:TypeId) (k:outParam Nat):Prop where
 agg: ∀w,(isAgg t).run P w= .ok true w
 siz: ∀w,(sizeOf t).run P w= .ok k w
class gH (P:Program) (t:TypeId):Prop where
 agg: ∀w,(isAgg t).run P w= .ok false w
 siz: ∀w,(sizeOf t).run P w= .ok 1 w
class fp (P:Program) (t:TypeId) (z:outParam Value):Prop where
 inf:(P.info? t).map (·.zero)=some (some z)
class CI (P:Program) (t:TypeId) (f:Nat) (off:outParam Nat):Prop where
 at_: ∀(b o:Nat) w,(Instr.fieldAt t (.pointer (some ⟨b,o,none⟩)) f).run P w= .ok (.pointer (some (Addr.add ⟨b,o,none⟩ off))) w
class ce (P:Program) (t:TypeId) (e s by_:outParam Nat):Prop where
 un:P.underlying t=some (.slice e)
 inf:(P.info? e).map (fun i=>(i.size,i.bytes))=some (s,by_)
def fp.info{P:Program}{t:TypeId}{z:Value}(h:fp P t z): ∃i,P.info? t=some i/\i.zero=some z:=by
 have:=h.inf
 cases hi:P.info? t with
 |none=>rw[hi] at this;cases this
 |some i=>rw[hi] at this;exact⟨i,J,by simpa using this⟩
def ce.info{P:Program}{t e s by_:Nat}(h:ce P t e s by_): ∃i,P.info? e=some i/\i.size=s/\i.bytes=by_:=by
 have:=h.inf
 cases hi:P.info? e with
 |none=>rw[hi] at this;cases this
 |some i=>rw[hi] at this;simp at this;exact⟨i,J,this.1,this.2⟩
def kA(b o n:Nat):Addr.add ⟨b,o,none⟩ n=⟨b,o+n,none⟩:=by
 unfold Addr.add;split
 ·subst_vars;rfl
 ·rfl
def Sem.run_bind{α β:Type}(P:Program)(x:Sem α)(f:α->Sem β): ∀(w:World),(x>>=f).run P w=match x.run P w with| .ok a w'=>(f a).run P w'| .halt h w'=> .halt h w':=by
 show∀w,(Sem.bind x f).run P w=_
 induction x with
 |pure a=>intro w;rfl
 |load m a k ih=>
  intro w;simp only[Sem.bind,Sem.run];split
  ·exact ih _ w
  ·split
   ·exact ih _ w
   ·rfl
 |store m a v k ih=>
  intro w
  cases v<;>simp only[Sem.bind,Sem.run]<;>(try rfl)<;>(split<;>first|(split<;>first|rfl|exact ih _)|rfl)
 |new o k ih=>intro w;exact ih _ _
 |shape r k ih=>intro w;exact ih _ _
 |freeze a n k ih=>intro w;exact ih _
 |frozen a k ih=>intro w;exact ih _ _
 |getObj r k ih=>
  intro w;simp only[Sem.bind,Sem.run];split
  ·rfl
  ·exact ih _ w
  ·rfl
 |setObj r o k ih=>
  intro w;simp only[Sem.bind,Sem.run];split
  ·rfl
  ·exact ih _
  ·rfl
 |choose q k ih=>
  intro w;simp only[Sem.bind,Sem.run];split
  ·exact ih _ _
  ·exact ih _ _
 |sys c k ih=>intro w;exact ih _ _
 |program k ih=>intro w;exact ih _ _
 |mark m k ih=>intro w;exact ih _
 |halt h=>intro w;rfl
def run_pure{α:Type}(P:Program)(a:α)(w:World):(pure a:Sem α).run P w= .ok a w:=rfl
def aB{α β:Type}{P:Program}{x:Sem α}{f:α->Sem β}{w w':World}{a:α}(h:x.run P w= .ok a w'):(x>>=f).run P w=(f a).run P w':=by
 rw[Sem.run_bind,h]
def fp.zero{P:Program}{t:TypeId}{z:Value}(h:fp P t z)(w:World):(zeroValue t).run P w= .ok z w:=by
 obtain⟨i,h1,h2⟩:=h.info;simp[zeroValue,typeInfo,program,Sem.run_bind,Sem.run,h1,h2,run_pure]
def ce.u{P:Program}{t e s by_:Nat}(h:ce P t e s by_)(w:World):(underlying t).run P w= .ok (.slice e) w:=by
 simp[underlying,program,Sem.run_bind,Sem.run,h.un,run_pure]
def ce.siz{P:Program}{t e s by_:Nat}(h:ce P t e s by_)(w:World):(sizeOf e).run P w= .ok s w:=by
 obtain⟨i,h1,h2,_⟩:=h.info;simp[sizeOf,typeInfo,program,Sem.run_bind,Sem.run,h1,h2,run_pure]
section
variable {P:Program} {C:au} {n:Nat} {fr:Fr} {own:List ao} {G:Gh} {ops:Array Oper} {Q:Exit->Act->World->Prop} {r:List Oper}
def pK{w:World}{b:Nat}{cs:List Value}{ty:TypeId}{fz:Nat×Nat}(h:w.heap[b]? =some (.cells ⟨cs⟩ ty fz))(i:Nat):w.cell? ⟨b,i,none⟩=cs[i]? :=by
 simp[World.cell?,h]
def Ec{w:World}{a:Addr}{v:Value}(h:w.cell? a=some v):(load a).run P w= .ok v w:=by
 simp[load,Sem.run,h]
def tM{w:World}{b off:Nat}{l:List Value}: ∀(m i:Nat) (acc:Array Value),(∀j,j<m->w.cell? ⟨b,off+(i+j),none⟩=l[i+j]?)->i+m<=l.length->
  (loadCellsFrom ⟨b,off,none⟩ i m acc).run P w= .ok (acc++((l.drop i).take m).toArray) w
 |0,i,acc,_,_=>by simp[loadCellsFrom,run_pure]
 |m+1,i,acc,h,hl=>by
  have h0:=h 0 (by omega);rw[dQ,aX (by omega)] at h0;unfold loadCellsFrom;rw[aB (a:=l[i]) (w':=w) (by rw[kA];exact Ec h0)];rw[tM m (i+1) (acc.push l[i]) (fun j hj=>by have:=h (j+1) (by omega);rw[show i+1+j=i+(j+1) by omega];exact this) (by omega)];congr 1;rw[bL (by omega:i<l.length),lW];apply Array.ext';simp
def ud{w:World}{b off k:Nat}{t:TypeId}{cs l:List Value}[ht:kg P t k]{ty:TypeId}{fz:Nat×Nat}(h:w.heap[b]? =some (.cells ⟨cs⟩ ty fz))(hl:bF cs off k=some l):
  (loadVar t ⟨b,off,none⟩).run P w= .ok (.agg ⟨l⟩) w:=by
 obtain⟨h1,h2⟩:=kd _ _ _ _ hl;unfold loadVar;rw[aB (ht.agg w)];simp only[if_true];rw[aB (ht.siz w)];unfold loadCells;rw[aB (tM (l:=l) k 0 #[] (fun j hj=>by rw[pK h];simpa using h2 j hj) (by omega))];simp[run_pure,<-h1]
def va{w:World}{b off:Nat}{t:TypeId}{cs:List Value}{v:Value}[ht:gH P t]{ty:TypeId}{fz:Nat×Nat}(h:w.heap[b]? =some (.cells ⟨cs⟩ ty fz))(hl:cs[off]? =some v):
  (loadVar t ⟨b,off,none⟩).run P w= .ok v w:=by
 unfold loadVar;rw[aB (ht.agg w)];simp only[jM,if_false];exact Ec (by rw[pK h];exact hl)
def cd{α:Type}{f:α->Next}{s:Sem α}{w w':World}{a:α}(h:s.run P w= .ok a w'):(do pure (f (<-s)):Sem Next).run P w= .ok (f a) w':=by
 rw[aB h];rfl
def td{dst:Option Nat}{t ty':TypeId}{pos:String}{af:Array Edge}{gd:Option (Nat×Bool)}{x:Operand}{b off k:Nat}{cs l:List Value}{lo:Bool}{ty:TypeId}
  (hx:aq fr x=some (.pointer (some ⟨b,off,none⟩)))[ho:fD own b cs ty lo][kg P t k](hl:bF cs off k=some l):
  Yd P C fr own G ⟨dst, .load t x,ty',pos,af,gd⟩ (.agg ⟨l⟩):=by
 intro a w hf hh;simp only[execOp,aG hf hx,Instr.loadAt,Instr.sureAddr];exact cd (ud (hh.hown _ ho.mem).1 hl)
def tB{dst:Option Nat}{t ty':TypeId}{pos:String}{af:Array Edge}{gd:Option (Nat×Bool)}{x:Operand}{b off:Nat}{cs:List Value}{v:Value}{lo:Bool}{ty:TypeId}
  (hx:aq fr x=some (.pointer (some ⟨b,off,none⟩)))[ho:fD own b cs ty lo][gH P t](hl:cs[off]? =some v):
  Yd P C fr own G ⟨dst, .load t x,ty',pos,af,gd⟩ v:=by
 intro a w hf hh;simp only[execOp,aG hf hx,Instr.loadAt,Instr.sureAddr];exact cd (va (hh.hown _ ho.mem).1 hl)
def GD{dst:Option Nat}{t ty':TypeId}{pos:String}{af:Array Edge}{gd:Option (Nat×Bool)}{x:Operand}{b off k:Nat}{cs l:List Value}
  (hx:aq fr x=some (.pointer (some ⟨b,off,none⟩)))(hg:G b=some cs)[kg P t k](hl:bF cs off k=some l):
  Yd P C fr own G ⟨dst, .load t x,ty',pos,af,gd⟩ (.agg ⟨l⟩):=by
 intro a w hf hh;obtain⟨ty,fz,hb⟩:=hh.sub _ _ hg;simp only[execOp,aG hf hx,Instr.loadAt,Instr.sureAddr];exact cd (ud hb hl)
def uC{dst:Option Nat}{t ty':TypeId}{pos:String}{af:Array Edge}{gd:Option (Nat×Bool)}{x:Operand}{b off:Nat}{cs:List Value}{v:Value}
  (hx:aq fr x=some (.pointer (some ⟨b,off,none⟩)))(hg:G b=some cs)[gH P t](hl:cs[off]? =some v):
  Yd P C fr own G ⟨dst, .load t x,ty',pos,af,gd⟩ v:=by
 intro a w hf hh;obtain⟨ty,fz,hb⟩:=hh.sub _ _ hg;simp only[execOp,aG hf hx,Instr.loadAt,Instr.sureAddr];exact cd (va hb hl)
variable {dst:Option Nat} {t t' ty':TypeId} {pos:String} {af:Array Edge} {gd:Option (Nat×Bool)} {x y:Operand}
def ie{v:Value}(hx:aq fr x=some v):Yd P C fr own G ⟨dst, .move x,ty',pos,af,gd⟩ v:=by
 intro a w hf hh;simp only[execOp,aG hf hx];rfl
def th{v:Value}(hx:aq fr x=some v):Yd P C fr own G ⟨dst, .assign x,ty',pos,af,gd⟩ v:=by
 intro a w hf hh;simp only[execOp,aG hf hx];rfl
def qg{z:Operand}{v:Value}(hc:aq fr z=some (.bool true))(hx:aq fr x=some v):Yd P C fr own G ⟨dst, .pick z x y,ty',pos,af,gd⟩ v:=by
 intro a w hf hh;simp only[execOp,aG hf hc,aG hf hx,asBool];rfl
def qo{z:Operand}{v:Value}(hc:aq fr z=some (.bool false))(hx:aq fr y=some v):Yd P C fr own G ⟨dst, .pick z x y,ty',pos,af,gd⟩ v:=by
 intro a w hf hh;simp only[execOp,aG hf hc,aG hf hx,asBool];rfl
def sP{ad:Addr}(hx:aq fr x=some (.pointer (some ad))):Yd P C fr own G ⟨dst, .nilCheck x,ty',pos,af,gd⟩ (.pointer (some ad)):=by
 intro a w hf hh;simp only[execOp,aG hf hx];rfl
def tE{b o f off:Nat}[hF:CI P t f off](hx:aq fr x=some (.pointer (some ⟨b,o,none⟩))):
  Yd P C fr own G ⟨dst, .fieldAddr t x f,ty',pos,af,gd⟩ (.pointer (some ⟨b,o+off,none⟩)):=by
 intro a w hf hh;simp only[execOp,aG hf hx];have:=hF.at_ b o w;rw[kA] at this;exact cd this
def v7{vs:Array Value}{i:Nat}{v:Value}(hx:aq fr x=some (.tuple vs))(hv:vs[i]? =some v):Yd P C fr own G ⟨dst, .extract x i,ty',pos,af,gd⟩ v:=by
 intro a w hf hh;simp only[execOp,aG hf hx,Instr.extract,hv];rfl
def wK{fn:Fn}{c1 c2:Array Operand}{l1 l2:List Value}(h1:c1.toList.mapM (aq fr)=some l1)(h2:c2.toList.mapM (aq fr)=some l2):
  Yd P C fr own G ⟨dst, .makeFunc fn c1 c2,ty',pos,af,gd⟩ (.func fn ⟨l1⟩ ⟨l2⟩):=by
 intro a w hf hh;have key: ∀(l:List Operand) (m:List Value),l.mapM (aq fr)=some m->l.map a.eval=m:=by
  intro l
  induction l with
  |nil=>intro m h;simp at h;subst h;rfl
  |cons o t ih=>
   intro m h;rw[kY] at h
   cases ho:aq fr o with
   |none=>simp[ho] at h
   |some u=>
    cases ht:t.mapM (aq fr) with
    |none=>simp[ho,ht] at h
    |some m'=>
     simp[ho,ht] at h;subst h;simp[aG hf ho,ih _ ht]
 have e1:c1.map a.eval=⟨l1⟩:=by apply Array.ext';simpa using key _ _ h1
 have e2:c2.map a.eval=⟨l2⟩:=by apply Array.ext';simpa using key _ _ h2
 simp only[execOp,e1,e2];rfl
def en{op:BinOp}{k:IntKind}{p q:Int}{v:Value}(hx:aq fr x=some (.int k p))(hy:aq fr y=some (.int k q))(hs: ∀w,(binOp op t (.int k p) (.int k q)).run P w= .ok v w):
  Yd P C fr own G ⟨dst, .binOp op t x y t',ty',pos,af,gd⟩ v:=by
 intro a w hf hh;simp only[execOp,aG hf hx,aG hf hy];have:(eqGuard op t x y (.int k p) (.int k q)).run P w= .ok () w:=by cases op<;>rfl
 exact cd (by rw[aB this];exact hs w)
def AU(k:IntKind)(p q:Int)(w:World):(binOp .add t (.int k p) (.int k q)).run P w= .ok (.int k (k.wrap (p+q))) w:=by simp[binOp,Op.intArith,run_pure]
def xk(k:IntKind)(p q:Int)(w:World):(binOp .sub t (.int k p) (.int k q)).run P w= .ok (.int k (k.wrap (p-q))) w:=by simp[binOp,Op.intArith,run_pure]
def Gc(k:IntKind)(p q:Int)(w:World):(binOp .mul t (.int k p) (.int k q)).run P w= .ok (.int k (k.wrap (p*q))) w:=by simp[binOp,Op.intArith,run_pure]
def Ko(k:IntKind)(p q:Int)(w:World)(h:q≠0):(binOp .quo t (.int k p) (.int k q)).run P w= .ok (.int k (k.wrap (p.tdiv q))) w:=by simp[binOp,Op.intDiv,run_pure,h]
def E3(k:IntKind)(p q:Int)(w:World)(h:q≠0):(binOp .rem t (.int k p) (.int k q)).run P w= .ok (.int k (p.tmod q)) w:=by simp[binOp,Op.intDiv,run_pure,h]
def KA(k:IntKind)(p q:Int)(w:World):(binOp .lss t (.int k p) (.int k q)).run P w= .ok (.bool (decide (p<q))) w:=by simp[binOp,Op.intCmp,run_pure]
def IB(k:IntKind)(p q:Int)(w:World):(binOp .leq t (.int k p) (.int k q)).run P w= .ok (.bool (decide (p<=q))) w:=by simp[binOp,Op.intCmp,run_pure]
def MC(k:IntKind)(p q:Int)(w:World):(binOp .gtr t (.int k p) (.int k q)).run P w= .ok (.bool (decide (q<p))) w:=by simp[binOp,Op.intCmp,run_pure]
def Jt(k:IntKind)(p q:Int)(w:World):(binOp .geq t (.int k p) (.int k q)).run P w= .ok (.bool (decide (q<=p))) w:=by simp[binOp,Op.intCmp,run_pure]
def Gl(k:IntKind)(p q:Int)(w:World):(binOp .eql t (.int k p) (.int k q)).run P w= .ok (.bool (decide (p=q))) w:=by
 have:(p==q)=decide (p=q):=by rw[Bool.eq_iff_iff];simp
 simp[binOp,Op.intCmp,run_pure,this]
def IU(k:IntKind)(p q:Int)(w:World):(binOp .neq t (.int k p) (.int k q)).run P w= .ok (.bool (decide (p≠q))) w:=by
 have:(p !=q)=decide (p≠q):=by rw[Bool.eq_iff_iff];simp
 simp[binOp,Op.intCmp,run_pure,this]
def l8{k:IntKind}{p:Int}(h:k.min<=p/\p<=k.max):k.wrap p=p:=by
 cases k<;>simp only[IntKind.min,IntKind.max,IntKind.wrap,IntKind.bits,IntKind.signed] at* <;>simp at h⊢ <;>(try split)<;>omega
def vu{k:IntKind}{p q:Int}(hx:aq fr x=some (.int k p))(hy:aq fr y=some (.int k q))(h:k.min<=p+q/\p+q<=k.max):Yd P C fr own G ⟨dst, .binOp .add t x y t',ty',pos,af,gd⟩ (.int k (p+q)):=
 en hx hy fun w=>by rw[AU,l8 h]
def u7{k:IntKind}{p q:Int}(hx:aq fr x=some (.int k p))(hy:aq fr y=some (.int k q))(h:k.min<=p-q/\p-q<=k.max):Yd P C fr own G ⟨dst, .binOp .sub t x y t',ty',pos,af,gd⟩ (.int k (p-q)):=
 en hx hy fun w=>by rw[xk,l8 h]
def vn{k:IntKind}{p q:Int}(hx:aq fr x=some (.int k p))(hy:aq fr y=some (.int k q))(h:k.min<=p*q/\p*q<=k.max):Yd P C fr own G ⟨dst, .binOp .mul t x y t',ty',pos,af,gd⟩ (.int k (p*q)):=
 en hx hy fun w=>by rw[Gc,l8 h]
def KW{k:IntKind}{p q:Int}(hx:aq fr x=some (.int k p))(hy:aq fr y=some (.int k q)):Yd P C fr own G ⟨dst, .binOp .add t x y t',ty',pos,af,gd⟩ (.int k (k.wrap (p+q))):=en hx hy fun w=>AU k p q w
def ow{k:IntKind}{p q:Int}(hx:aq fr x=some (.int k p))(hy:aq fr y=some (.int k q)):Yd P C fr own G ⟨dst, .binOp .sub t x y t',ty',pos,af,gd⟩ (.int k (k.wrap (p-q))):=en hx hy fun w=>xk k p q w
def AX{k:IntKind}{p q:Int}(hx:aq fr x=some (.int k p))(hy:aq fr y=some (.int k q))(h:q≠0):Yd P C fr own G ⟨dst, .binOp .quo t x y t',ty',pos,af,gd⟩ (.int k (k.wrap (p.tdiv q))):=en hx hy fun w=>Ko k p q w h
def AW{k:IntKind}{p q:Int}(hx:aq fr x=some (.int k p))(hy:aq fr y=some (.int k q))(h:q≠0):Yd P C fr own G ⟨dst, .binOp .rem t x y t',ty',pos,af,gd⟩ (.int k (p.tmod q)):=en hx hy fun w=>E3 k p q w h
def fB{k:IntKind}{p q:Int}(hx:aq fr x=some (.int k p))(hy:aq fr y=some (.int k q)):Yd P C fr own G ⟨dst, .binOp .lss t x y t',ty',pos,af,gd⟩ (.bool (decide (p<q))):=en hx hy fun w=>KA k p q w
def H9{k:IntKind}{p q:Int}(hx:aq fr x=some (.int k p))(hy:aq fr y=some (.int k q)):Yd P C fr own G ⟨dst, .binOp .leq t x y t',ty',pos,af,gd⟩ (.bool (decide (p<=q))):=en hx hy fun w=>IB k p q w
def nq{k:IntKind}{p q:Int}(hx:aq fr x=some (.int k p))(hy:aq fr y=some (.int k q)):Yd P C fr own G ⟨dst, .binOp .gtr t x y t',ty',pos,af,gd⟩ (.bool (decide (q<p))):=en hx hy fun w=>MC k p q w
def qc{k:IntKind}{p q:Int}(hx:aq fr x=some (.int k p))(hy:aq fr y=some (.int k q)):Yd P C fr own G ⟨dst, .binOp .geq t x y t',ty',pos,af,gd⟩ (.bool (decide (q<=p))):=en hx hy fun w=>Jt k p q w
def kl{k:IntKind}{p q:Int}(hx:aq fr x=some (.int k p))(hy:aq fr y=some (.int k q)):Yd P C fr own G ⟨dst, .binOp .eql t x y t',ty',pos,af,gd⟩ (.bool (decide (p=q))):=en hx hy fun w=>Gl k p q w
def nO{k:IntKind}{p q:Int}(hx:aq fr x=some (.int k p))(hy:aq fr y=some (.int k q)):Yd P C fr own G ⟨dst, .binOp .neq t x y t',ty',pos,af,gd⟩ (.bool (decide (p≠q))):=en hx hy fun w=>IU k p q w
variable {e s by_:Nat}
def my[hT:ce P t e s by_]{ad:Option Addr}{len cap:Nat}(hx:aq fr x=some (.slice ad len cap)):
  Yd P C fr own G ⟨dst, .call ⟨.builtin .len, #[x], #[t]⟩,ty',pos,af,gd⟩ (.int .i64 len):=by
 intro a w hf hh;simp only[execOp,resolve,fM,bN,gK,aG hf hx];have h1:(Builtin.len_ #[t] ty' #[.slice ad len cap]).run P w= .ok (.int .i64 len) w:=by
  simp only[Builtin.len_];show(underlying t>>=_).run P w=_;rw[aB (hT.u w)];rfl
 exact cd h1
def pn[hT:ce P t e s by_]{k:IntKind}{b off len cap:Nat}{i:Int}(hx:aq fr x=some (.slice (some ⟨b,off,none⟩) len cap))(hy:aq fr y=some (.int k i))(h0:0<=i)(h1:i<len):
  Yd P C fr own G ⟨dst, .indexAddr t x y,ty',pos,af,gd⟩ (.pointer (some ⟨b,off+i.toNat*s,none⟩)):=by
 intro a w hf hh;simp only[execOp,aG hf hx,aG hf hy];have:(Instr.indexAt t (.slice (some ⟨b,off,none⟩) len cap) (.int k i)).run P w= .ok (.pointer (some ⟨b,off+i.toNat*s,none⟩)) w:=by
  unfold Instr.indexAt;show(underlying t>>=_).run P w=_;rw[aB (hT.u w)];show(underlying t>>=_).run P w=_;rw[aB (hT.u w)];simp only[h0,h1,and_self,if_true];show(sizeOf e>>=_).run P w=_;rw[aB (hT.siz w),kA];rfl
 exact cd this
def n5{k:IntKind}{v:Int}{m:Nat}{c:BoundsCode}(w:World)(h0:0<=v)(h1:v<=m):(Instr.sliceBound (.int k v) m c).run P w= .ok v.toNat w:=by
 unfold Instr.sliceBound;simp[asIntOf,h0,h1,run_pure]
def gI(ad:Option Addr)(len cap lo hi mx s:Nat):Value:= .slice (if mx=lo then ad else ad.map (·.add (lo*s))) (hi-lo) (mx-lo)
def pp[hT:ce P t e s by_]{ad:Option Addr}{len cap:Nat}(w:World){lo hi mx:Option Value}{l h m:Nat}(hb: ∀w,(Instr.sliceBounds true len cap lo hi mx).run P w= .ok (l,h,m) w):
  (Instr.sliceAt t (.slice ad len cap) lo hi mx).run P w= .ok (gI ad len cap l h m s) w:=by
 unfold Instr.sliceAt;rw[aB (hT.u w)];show(Instr.slice t (.slice ad len cap) lo hi mx).run P w=_;unfold Instr.slice;rw[aB (hT.u w)];show(Instr.sliceBounds true len cap lo hi mx>>=_).run P w=_;rw[aB (hb w)];show(sizeOf e>>=_).run P w=_;rw[aB (hT.siz w)];rfl
def pH[hT:ce P t e s by_]{k:IntKind}{ad:Option Addr}{len cap:Nat}{h:Int}(hx:aq fr x=some (.slice ad len cap))(hy:aq fr y=some (.int k h))(h0:0<=h)(h1:h<=cap):
  Yd P C fr own G ⟨dst, .slice t x none (some y) none,ty',pos,af,gd⟩ (.slice ad h.toNat cap):=by
 intro a w hf hh;simp only[execOp,aG hf hx,aG hf hy,lT,fL];have:=pp (P:=P) (t:=t) (ad:=ad) (len:=len) (cap:=cap) w (lo:=none) (hi:=some (.int k h)) (mx:=none) (l:=0) (h:=h.toNat) (m:=cap) (fun w=>by
  simp[Instr.sliceBounds,n5 w h0 h1,Result.andThen])
 have e2:gI ad len cap 0 h.toNat cap s= .slice ad h.toNat cap:=by
  unfold gI
  cases ad with
  |none=>simp
  |some ad=>simp[Addr.add]
 rw[<-e2];exact cd this
def Bt[hT:ce P t e s by_]{k:IntKind}{ad:Option Addr}{len cap:Nat}{l:Int}(hx:aq fr x=some (.slice ad len cap))(hy:aq fr y=some (.int k l))(h0:0<=l)(h1:l<=len):
  Yd P C fr own G ⟨dst, .slice t x (some y) none none,ty',pos,af,gd⟩ (gI ad len cap l.toNat len cap s):=by
 intro a w hf hh;simp only[execOp,aG hf hx,aG hf hy,lT,fL];exact cd (pp (P:=P) (t:=t) (ad:=ad) (len:=len) (cap:=cap) w (lo:=some (.int k l)) (hi:=none) (mx:=none) (fun w=>by
  simp[Instr.sliceBounds,n5 w h0 h1,Result.andThen]))
def Fm[hT:ce P t e s by_]{k k':IntKind}{ad:Option Addr}{len cap:Nat}{l h:Int}{z:Operand}(hx:aq fr x=some (.slice ad len cap))(hy:aq fr y=some (.int k l))(hz:aq fr z=some (.int k' h))(h0:0<=l)(h1:l<=h)(h2:h<=cap):
  Yd P C fr own G ⟨dst, .slice t x (some y) (some z) none,ty',pos,af,gd⟩ (gI ad len cap l.toNat h.toNat cap s):=by
 intro a w hf hh;simp only[execOp,aG hf hx,aG hf hy,aG hf hz,lT,fL];exact cd (pp (P:=P) (t:=t) (ad:=ad) (len:=len) (cap:=cap) w (lo:=some (.int k l)) (hi:=some (.int k' h)) (mx:=none) (fun w=>by
  have h1':l<=(h.toNat:Int):=by omega
  simp[Instr.sliceBounds,n5 w (Int.le_trans h0 h1) h2,n5 w h0 h1',Result.andThen]))
def EY[hT:ce P t e s by_]{k k':IntKind}{ad:Option Addr}{len cap:Nat}{h m:Int}{z:Operand}(hx:aq fr x=some (.slice ad len cap))(hy:aq fr y=some (.int k h))(hz:aq fr z=some (.int k' m))(h0:0<=h)(h1:h<=m)(h2:m<=cap):
  Yd P C fr own G ⟨dst, .slice t x none (some y) (some z),ty',pos,af,gd⟩ (.slice ad h.toNat m.toNat):=by
 intro a w hf hh;simp only[execOp,aG hf hx,aG hf hy,aG hf hz,lT,fL];have:=pp (P:=P) (t:=t) (ad:=ad) (len:=len) (cap:=cap) w (lo:=none) (hi:=some (.int k h)) (mx:=some (.int k' m)) (l:=0) (h:=h.toNat) (m:=m.toNat) (fun w=>by
  have h1':h<=(m.toNat:Int):=by omega
  simp[Instr.sliceBounds,n5 w (Int.le_trans h0 h1) h2,n5 w h0 h1',Result.andThen])
 have e2:gI ad len cap 0 h.toNat m.toNat s= .slice ad h.toNat m.toNat:=by
  unfold gI
  cases ad with
  |none=>simp
  |some ad=>simp[Addr.add]
 rw[<-e2];exact cd this
class gD (P:Program) (t:TypeId) (k:outParam IntKind):Prop where u: ∀w,(underlying t).run P w= .ok (.int k) w
def qP{k k':IntKind}{p:Int}[hs:gD P t k][hd:gD P t' k'](hx:aq fr x=some (.int k p)):Yd P C fr own G ⟨dst, .convert t t' x,ty',pos,af,gd⟩ (.int k' (k'.wrap p)):=by
 intro a w hf hh;simp only[execOp,aG hf hx];have:(convert t t' (.int k p)).run P w= .ok (.int k' (k'.wrap p)) w:=by
  unfold convert;rw[aB (hs.u w),aB (hd.u w)];rfl
 exact cd this
def uD{k k':IntKind}{p:Int}[hs:gD P t k][hd:gD P t' k'](hx:aq fr x=some (.int k p))(h:k'.min<=p/\p<=k'.max):Yd P C fr own G ⟨dst, .convert t t' x,ty',pos,af,gd⟩ (.int k' p):=by
 have:=qP (P:=P) (C:=C) (own:=own) (G:=G) (dst:=dst) (ty':=ty') (pos:=pos) (af:=af) (gd:=gd) (t:=t) (t':=t') hx;rwa [l8 h] at this
def Hz{b:Bool}(hx:aq fr x=some (.bool b)):Yd P C fr own G ⟨dst, .unOp .not t x,ty',pos,af,gd⟩ (.bool (!b)):=by
 intro a w hf hh;simp only[execOp,aG hf hx,Op.unary];rfl
def uu{k:IntKind}{p:Int}(hx:aq fr x=some (.int k p)):Yd P C fr own G ⟨dst, .unOp .neg t x,ty',pos,af,gd⟩ (.int k (k.wrap (0-p))):=by
 intro a w hf hh;simp only[execOp,aG hf hx,Op.unary,Op.intArith];rfl
end
def eo{w:World}{b:Nat}{o:Obj}(h:w.heap[b]? =some o):b<w.heap.size:=by
 rcases iX b w.heap.size with h'|h'
 ·exact h'
 ·simp[iU h'] at h
def bc.gnone{C:au}{own:List ao}{G:Gh}{w:World}(h:bc C own G w){b:Nat}(hb:w.heap.size<=b):G b=none:=by
 cases hG:G b with
 |none=>rfl
 |some cs=>
  obtain⟨ty,fz,hc⟩:=h.sub b cs hG;have:=eo hc;omega
def bc.alloc{C:au}{own:List ao}{G:Gh}{w:World}(h:bc C own G w)(cs:List Value)(ty:TypeId):
  bc C (⟨w.heap.size,cs,ty,true⟩::own) G (w.alloc (.cells ⟨cs⟩ ty)):=by
 have old: ∀b,b<w.heap.size->(w.alloc (.cells ⟨cs⟩ ty)).heap[b]? =w.heap[b]? :=fun b hb=>RowKit.Below.heap_alloc _ _ _ hb;refine⟨h.os,h.tape,h.output,?_,?_,?_,h.gle,h.gold,?_,?_,h.dr,fun p hp=>⟨(h.ext p hp).1,by rw[old _ (eo (h.ext p hp).2)];exact(h.ext p hp).2⟩⟩
 ·have:=h.size;simp;omega
 ·intro b hb hm;rw[old b (by have:=h.size;omega)];exact h.keep b hb hm
 ·intro b cs' hb
  obtain⟨ty',fz,hc⟩:=h.sub b cs' hb;exact⟨ty',fz,by rw[old b (eo hc)];exact hc⟩
 ·intro o ho
  rcases bQ.1 ho with rfl|ho
  ·refine⟨by show(w.heap.push _)[w.heap.size]? =_;simp,h.gnone (bZ _),fun _=>h.size,fun e=>by cases e⟩
  ·obtain⟨h1,h2⟩:=h.hown o ho
   exact⟨by rw[old _ (eo h1)];exact h1,h2⟩
 ·refine List.Pairwise.cons ?_ h.nd
  intro o ho;have:=eo (h.hown o ho).1;show w.heap.size≠o.b;omega
def dO(w:World)(b:Nat)(o:Obj):World:={w with heap:=w.heap.setIfInBounds b o}
def xg{l:List ao}:l.Pairwise (fun x y=>x.b≠y.b)↔(l.map (·.b)).Pairwise (· ≠ ·):=by rw[mZ]
def e7.spec{own own':List ao}{b:Nat}{cs cs':List Value}{ty:TypeId}{lo:Bool}(h:e7 own b cs ty lo cs' own')(nd:own.Pairwise (fun x y=>x.b≠y.b)):
  ⟨b,cs,ty,lo⟩∈own/\(∀o,o∈own'->o=⟨b,cs',ty,lo⟩\/(o∈own/\o.b≠b))/\own'.map (·.b)=own.map (·.b):=by
 induction h with
 |hd b cs cs' ty lo t=>
  refine⟨aQ,fun o ho=>?_,J⟩;rcases bQ.1 ho with rfl|h
  ·exact .inl J
  ·exact .inr ⟨aK _ h,Ne.symm ((bU.1 nd).1 _ h)⟩
 |tl o t t' b cs cs' ty lo h ih=>
  obtain⟨h1,h2,h3⟩:=ih (bU.1 nd).2;refine⟨aK _ h1,fun x hx=>?_,by simp[h3]⟩;rcases bQ.1 hx with rfl|hx
  ·exact .inr ⟨aQ,(bU.1 nd).1 _ h1⟩
  ·exact(h2 x hx).imp id (fun k=>⟨aK _ k.1,k.2⟩)
def sL{w:World}{b k:Nat}{o:Obj}(hk:k≠b):(dO w b o).heap[k]? =w.heap[k]? :=by
 simp only[dO];rw[bM];simp[Ne.symm hk]
def AO{w:World}{b:Nat}{o:Obj}(hb:b<w.heap.size):(dO w b o).heap[b]? =some o:=by
 simp only[dO];rw[bM];simp[hb]
def bc.extNe{C:au}{own:List ao}{G:Gh}{w:World}(h:bc C own G w){p:Nat×Obj}(hp:p∈C.ex){b:Nat}{cs:Array Value}{ty:TypeId}{z:Nat×Nat}(hb:w.heap[b]? =some (.cells cs ty z)):p.1≠b:=fun e=>by
 obtain⟨h1,h2⟩:=h.ext p hp;rw[e,hb] at h2;exact h1 _ _ _ (Option.some.inj h2).symm
def bc.extM{C:au}{M rest:List ao}{G:Gh}{w:World}(h:bc C (M++rest) G w){p:Nat×Obj}(hp:p∈C.ex):p.1∉M.map (·.b):=fun hm=>by
 obtain⟨m,hm,e⟩:=cX.1 hm;exact h.extNe hp (h.hown m (dV _ hm)).1 e.symm
def bc.store{C:au}{own own':List ao}{G:Gh}{w:World}{b:Nat}{cs cs':List Value}{ty:TypeId}{lo:Bool}(h:bc C own G w)(hu:e7 own b cs ty lo cs' own'):
  bc C own' G (dO w b (.cells ⟨cs'⟩ ty (0,0))):=by
 obtain⟨h1,h2,h3⟩:=hu.spec h.nd;obtain⟨hb,hGb,hlo1,hlo2⟩:=h.hown _ h1;have hlt:=eo hb;refine⟨h.os,h.tape,h.output,by simpa[dO] using h.size,?_,?_,h.gle,h.gold,?_,xg.2 (h3▸xg.1 h.nd),h.dr,fun p hp=>⟨(h.ext p hp).1,by rw[sL (h.extNe hp hb)];exact(h.ext p hp).2⟩⟩
 ·intro k hk hm
  by_cases hkb:k=b
  ·subst hkb
   cases hlo:lo with
   |true=>have h5:=hlo1 hlo;simp only[] at h5;omega
   |false=>exact absurd (hlo2 hlo) hm
  ·rw[sL hkb];exact h.keep k hk hm
 ·intro k cs1 hk
  obtain⟨ty',fz,hc⟩:=h.sub k cs1 hk;have:k≠b:=fun e=>by subst e;rw[show G k=none from hGb] at hk;cases hk
  exact⟨ty',fz,by rw[sL this];exact hc⟩
 ·intro o ho
  rcases h2 o ho with rfl|⟨ho',hne⟩
  ·exact⟨AO hlt,hGb,hlo1,hlo2⟩
  ·obtain⟨k1,k2⟩:=h.hown o ho'
   exact⟨by rw[sL hne];exact k1,k2⟩
def gm.spec{own own':List ao}{o:ao}(h:gm own o own')(nd:own.Pairwise (fun x y=>x.b≠y.b)):
  o∈own/\(∀x,x∈own'->x∈own/\x.b≠o.b)/\own'.Pairwise (fun x y=>x.b≠y.b):=by
 induction h with
 |hd o t=>exact⟨aQ,fun x hx=>⟨aK _ hx,Ne.symm ((bU.1 nd).1 _ hx)⟩,(bU.1 nd).2⟩
 |tl y t t' o h ih=>
  obtain⟨h1,h2,h3⟩:=ih (bU.1 nd).2;refine⟨aK _ h1,fun x hx=>?_,List.Pairwise.cons (fun x hx=>(bU.1 nd).1 _ (h2 x hx).1) h3⟩;rcases bQ.1 hx with rfl|hx
  ·exact⟨aQ,(bU.1 nd).1 _ h1⟩
  ·exact⟨aK _ (h2 x hx).1,(h2 x hx).2⟩
def bc.freeze{C:au}{own own':List ao}{G:Gh}{w:World}{b:Nat}{cs:List Value}{ty:TypeId}(h:bc C own G w)(hr:gm own ⟨b,cs,ty,true⟩ own'):
  bc C own' (fun k=>if k=b then some cs else G k) w/\aO G (fun k=>if k=b then some cs else G k):=by
 obtain⟨h1,h2,h3⟩:=hr.spec h.nd;obtain⟨hb,hGb,hlo,_⟩:=h.hown _ h1;have hle:aO G (fun k=>if k=b then some cs else G k):=fun k c hk=>by
  have:k≠b:=fun e=>by subst e;rw[show G k=none from hGb] at hk;cases hk
  simp[this,hk]
 refine⟨⟨h.os,h.tape,h.output,h.size,h.keep,?_,h.gle.trans hle,?_,?_,h3,h.dr,h.ext⟩,hle⟩
 ·intro k c hk
  by_cases e:k=b
  ·subst e;simp only[if_true] at hk;cases hk;exact⟨ty,(0,0),hb⟩
  ·simp only[e,if_false] at hk;exact h.sub k c hk
 ·intro k hk
  have h5:C.w0.heap.size<=b:=hlo J;have:k≠b:=by omega
  simp only[this,if_false];exact h.gold k hk
 ·intro o ho
  obtain⟨k1,k2⟩:=h2 o ho;obtain⟨m1,m2,m3⟩:=h.hown o k1;exact⟨m1,by rw[if_neg k2];exact m2,m3⟩
def bc.drop{C:au}{own own':List ao}{G:Gh}{w:World}(h:bc C own G w)(hs:own'.Sublist own):bc C own' G w:=
 ⟨h.os,h.tape,h.output,h.size,h.keep,h.sub,h.gle,h.gold,fun o ho=>h.hown o (hs.subset ho),h.nd.sublist hs,h.dr,h.ext⟩
def bc.perm{C:au}{own own':List ao}{G:Gh}{w:World}(h:bc C own G w)(hs:own.Perm own'):bc C own' G w:=
 ⟨h.os,h.tape,h.output,h.size,h.keep,h.sub,h.gle,h.gold,fun o ho=>h.hown o (hs.mem_iff.2 ho),(hs.pairwise_iff (fun h=>Ne.symm h)).1 h.nd,h.dr,h.ext⟩
def bc.drew{C:au}{own:List ao}{G:Gh}{w:World}(h:bc C own G w):bc C own G {w with drawn:=w.drawn+1}:=
 ⟨h.os,h.tape,h.output,h.size,h.keep,h.sub,h.gle,h.gold,h.hown,h.nd,Nat.le_succ_of_le h.dr,h.ext⟩
def jp(P:Program)(f:FuncId):Prop:= ∃fn,P.funcs[f]? =some fn/\(fn.name== "runtime.NumGoroutine")=false/\fn.body.isNone=false
def Eh(M:List ao)(css:List (List Value)):List ao:=(M.zip css).map fun p=>{p.1 with cs:=p.2}
def asB(M:List ao):List ao:=M.map fun o=>{o with lo:=false}
structure Fn (P:Program) (f:FuncId) (vs:List Value) (G:Gh) (K:Value->Gh->Prop):Prop where
 able:jp P f
 run: ∀w,(∀b cs,G b=some cs-> ∃ty fz,w.heap[b]? =some (.cells ⟨cs⟩ ty fz))->
  Calls P f ⟨vs⟩ w fun e w'=> ∃v G',e= .returned v/\bc ⟨w,G,[],[],[],none,fun _=>none⟩ [] G' w'/\K v G'
structure y7 (P:Program) (f:FuncId) (vs:List Value) (M:List ao) (G:Gh) (K:Value->List (List Value)->Gh->Prop):Prop where
 able:jp P f
 run: ∀w,bc ⟨w,G,M.map (·.b),[],[],none,fun _=>none⟩ (asB M) G w->
  Calls P f ⟨vs⟩ w fun e w'=> ∃v css G',e= .returned v/\css.length=M.length/\bc ⟨w,G,M.map (·.b),[],[],none,fun _=>none⟩ (Eh (asB M) css) G' w'/\K v css G'
def Fn.mono{P:Program}{f:FuncId}{vs:List Value}{G:Gh}{K K':Value->Gh->Prop}(h:Fn P f vs G K)(hk: ∀v G',aO G G'->K v G'->K' v G'):Fn P f vs G K':=
 ⟨h.able,fun w hw=>(h.run w hw).mono fun _ _ ⟨v,G',he,hh,hK⟩=>⟨v,G',he,hh,hk v G' hh.gle hK⟩⟩
def bc.called{C:au}{own:List ao}{G G':Gh}{w w':World}(h:bc C own G w)(k:bc ⟨w,G,[],[],[],none,fun _=>none⟩ [] G' w'):bc C own G' w':=by
 have same: ∀b o,w.heap[b]? =some o->w'.heap[b]? =some o:=fun b o hb=>by rw[k.keep b (eo hb) (by simp)];exact hb
 have hsz:w.heap.size<=w'.heap.size:=k.size;refine⟨k.os.trans h.os,k.tape.trans h.tape,k.output.trans h.output,dS h.size hsz,?_,k.sub,h.gle.trans k.gle,?_,?_,h.nd,dS h.dr k.dr,fun p hp=>⟨(h.ext p hp).1,same _ _ (h.ext p hp).2⟩⟩
 ·intro b hb hm;have:=h.size;rw[k.keep b (by show b<w.heap.size;omega) (by simp)];exact h.keep b hb hm
 ·intro b hb;have:=h.size;rw[k.gold b (by show b<w.heap.size;omega)];exact h.gold b hb
 ·intro o ho
  obtain⟨h1,h2,h3⟩:=h.hown o ho;exact⟨same _ _ h1,by rw[k.gold _ (eo h1)];exact h2,h3⟩
def bc.lend{C:au}{M rest:List ao}{G:Gh}{w:World}(h:bc C (M++rest) G w):bc ⟨w,G,M.map (·.b),[],[],none,fun _=>none⟩ (asB M) G w:=by
 refine⟨J,J,J,bZ _,fun _ _ _=>J,h.sub,aO.refl _,fun _ _=>J,?_,?_,bZ _,fun p hp=>by cases hp⟩
 ·intro o ho
  obtain⟨m,hm,rfl⟩:=cX.1 ho;obtain⟨h1,h2,_⟩:=h.hown m (dV _ hm);exact⟨h1,h2,by simp,fun _=>cX.2 ⟨m,hm,J⟩⟩
 ·have:=(iK.1 h.nd).1
  unfold asB;rw[mZ];exact this
abbrev ii:= @inferInstance.{0}
def nb{a b:Nat}(h:Nat.ble a b=true):a<=b:=Nat.le_of_ble_eq_true h
def sR{P:Program}{C:au}{n:Nat}{fr:Fr}{own:List ao}{G:Gh}{Q:Exit->Act->World->Prop}{id:Nat}{ops:Array Oper}{y:Code}(h:St C n fr own G (cH P ops (Exit.then (y.wp P Q) Q) ops.toList)):St C n fr own G ((Code.seq (Code.region id ops false) y).wp P Q):=bm (cv h)
end Go.Sx
end
section
namespace Go.Sx
open Go
def aC:Value->List Value
 | .agg ⟨l⟩=>l
 |v=>[v]
def kn(v:Value):v.cells=⟨aC v⟩:=by
 cases v<;>first|rfl|(rename_i a;cases a;rfl)
def flat:Value->Bool
 | .agg _=>false
 | .tuple _=>false
 |_=>true
def gc(fr:Fr):List Operand->Option (List Value)
 |[]=>some []
 |x::t=>match aq fr x,gc fr t with
  |some v,some l=>some (v::l)
  |_,_=>none
def rK{fr:Fr}{a:Act}(h:fH fr a): ∀{l:List Operand} {vs:List Value},gc fr l=some vs->l.map a.eval=vs
 |[],vs,e=>by simp[gc] at e;subst e;rfl
 |x::t,vs,e=>by
  simp only[gc] at e;split at e
  ·rename_i v l hv hl
   cases e
   simp[aG h hv,rK h hl]
  ·cases e
section
variable {P:Program} {C:au} {n:Nat} {fr:Fr} {own own':List ao} {G:Gh} {ops:Array Oper} {Q:Exit->Act->World->Prop} {r:List Oper}
variable {dst:Option Nat} {t t' ty':TypeId} {pos:String} {af:Array Edge} {x y:Operand}
def Ch(P:Program)(C:au)(n:Nat)(fr:Fr)(own:List ao)(G:Gh)(o:Oper)(Φ:Act->World->Prop):Prop:=
 ∀(a:Act) (w:World) (Q:Exit->Act->World->Prop),d4 C n fr own G a w->o.wp P a w Φ Q
def Lr{o:Oper}(hg:o.guard=none)(hc:Ch P C n fr own G o (cH P ops Q r)):St C n fr own G (cH P ops Q (o::r)):=by
 intro a w rl;simp only[cH,Region.wanted,hg,if_true];exact hc a w _ rl
variable {Φ:Act->World->Prop} {gd:Option (Nat×Bool)}
def Df{w:World}{ty:TypeId}{v:Value}:(newVar ty v).run P w= .ok ⟨w.heap.size,0,none⟩ (w.alloc (.cells ⟨aC v⟩ ty)):=by
 unfold newVar newRow;rw[kn];rfl
def iO{o:Oper}{v:Value}{w':World}{a:Act}{w:World}{Φ:Act->World->Prop}{Q:Exit->Act->World->Prop}(h:(execOp a.eval o).run P w= .ok (.value v) w')(hk:Φ (a.put o.dst v) w'):o.wp P a w Φ Q:=by
 simp only[Oper.wp,h,Oper.upon];exact hk
def JI{z:Value}[hz:fp P t z](hd:bD n dst=true)(h: ∀b,St C n (put fr dst (.pointer (some ⟨b,0,none⟩))) (⟨b,aC z,t,true⟩::own) G Φ):
  Ch P C n fr own G ⟨dst, .alloc t,ty',pos,af,gd⟩ Φ:=by
 intro a w Q rl;have h1:(Instr.alloc t true (.tuple #[])).run P w= .ok (.pointer (some ⟨w.heap.size,0,none⟩)) (w.alloc (.cells ⟨aC z⟩ t)):=by
  unfold Instr.alloc;rw[aB (hz.zero w)];show(newVar t z>>=_).run P w=_;rw[aB Df];rfl
 refine iO (cd h1) (h w.heap.size _ _ ?_);exact(rl.heap (rl.h.alloc _ _)).put _ hd
def I6{v:Value}(hx:aq fr x=some v)(hd:bD n dst=true)(h: ∀b,St C n (put fr dst (.pointer (some ⟨b,0,none⟩))) (⟨b,aC v,t,true⟩::own) G Φ):
  Ch P C n fr own G ⟨dst, .box t x,ty',pos,af,gd⟩ Φ:=by
 intro a w Q rl;have h1:(Instr.box t (a.eval x)).run P w= .ok (.pointer (some ⟨w.heap.size,0,none⟩)) (w.alloc (.cells ⟨aC v⟩ t)):=by
  unfold Instr.box;rw[aG rl.fr hx,aB Df];rfl
 refine iO (cd h1) (h w.heap.size _ _ ?_);exact(rl.heap (rl.h.alloc _ _)).put _ hd
def KI{w:World}{b off:Nat}{cs:List Value}{ty:TypeId}{fz:Nat×Nat}{v:Value}(h:w.heap[b]? =some (.cells ⟨cs⟩ ty fz)):w.setCell ⟨b,off,none⟩ v=dO w b (.cells ⟨cs.set off v⟩ ty fz):=by
 unfold World.setCell dO;congr 1;apply Array.ext_getElem?;intro i;rw[Array.getElem?_modify,bM];by_cases hi:b=i
 ·subst hi
  have:=eo h;simp only[if_true,h,fL,this];simp
 ·simp[hi]
def Ju{w:World}{b off:Nat}{cs:List Value}{ty:TypeId}{v:Value}(hv:flat v=true)(h:w.heap[b]? =some (.cells ⟨cs⟩ ty (0,0)))(ho:off<cs.length):
  (store ⟨b,off,none⟩ v).run P w= .ok () (dO w b (.cells ⟨cs.set off v⟩ ty (0,0))):=by
 have hc:w.cell? ⟨b,off,none⟩=some cs[off]:=by rw[pK h,aX ho]
 have hf:w.frozen? ⟨b,off,none⟩=false:=by simp[World.frozen?,h]
 cases v<;>first|(simp[flat] at hv;done)|(simp only[store,Sem.run,hc,hf,KI h];rfl)
def J0(w:World)(b:Nat)(o o':Obj):dO (dO w b o) b o'=dO w b o':=by
 simp[dO]
def E2{w:World}{b:Nat}{o:Obj}(h:w.heap[b]? =some o):dO w b o=w:=by
 unfold dO;congr 1;apply Array.ext_getElem?;intro i;rw[bM];by_cases hi:b=i
 ·subst hi
  have hlt:=eo h;simp only[if_true,hlt];rw[h]
 ·simp[hi]
def qA{b:Nat}{ty:TypeId}: ∀(vs:List Value) (w:World) (off i:Nat) (cs:List Value),(∀v∈vs,flat v=true)->w.heap[b]? =some (.cells ⟨cs⟩ ty (0,0))->off+i+vs.length<=cs.length->
  (storeCells ⟨b,off,none⟩ vs i).run P w= .ok () (dO w b (.cells ⟨cp cs (off+i) vs⟩ ty (0,0)))
 |[],w,off,i,cs,_,h,_=>by
  unfold storeCells cp;rw[E2 h];rfl
 |v::vs,w,off,i,cs,hf,h,hl=>by
  unfold storeCells;simp only[bT] at hl;rw[kA,aB (Ju (hf v aQ) h (by omega))];rw[qA vs _ off (i+1) (cs.set (off+i) v) (fun u hu=>hf u (aK _ hu)) (AO (eo h)) (by simp;omega)];rw[J0];rfl
def uB{v:Value}{b off k:Nat}{cs:List Value}{ty:TypeId}{lo:Bool}(hx:aq fr x=some (.pointer (some ⟨b,off,none⟩)))(hy:aq fr y=some v)[hs:kg P t k]
  (hu:e7 own b cs ty lo (cp cs off (aC v)) own')(hk:(aC v).length=k)(hl:off+k<=cs.length)(hf:(aC v).all flat=true)(hd:bD n dst=true)(h:St C n (put fr dst undef) own' G Φ):
  Ch P C n fr own G ⟨dst, .store t x y,ty',pos,af,gd⟩ Φ:=by
 intro a w Q rl;have hb:=(rl.h.hown _ (hu.spec rl.h.nd).1).1;have h1:(Instr.storeAt t (a.eval x) (a.eval y)).run P w= .ok () (dO w b (.cells ⟨cp cs off (aC v)⟩ ty (0,0))):=by
  rw[aG rl.fr hx,aG rl.fr hy];simp only[Instr.storeAt,Instr.sureAddr];show(storeVar t ⟨b,off,none⟩ v).run P w=_;unfold storeVar;rw[aB (hs.siz w),kn];simp only[jQ,hk,ne_eq,not_true_eq_false,if_false];have:=qA (P:=P) (aC v) w off 0 cs (by simpa using hf) hb (by omega);simpa using this
 have h2:(execOp a.eval ⟨dst, .store t x y,ty',pos,af,gd⟩).run P w= .ok .skip (dO w b (.cells ⟨cp cs off (aC v)⟩ ty (0,0))):=by
  simp only[execOp];rw[aB h1];rfl
 simp only[Oper.wp,h2,Oper.upon];exact h _ _ ((rl.heap (rl.h.store hu)).put _ hd)
def rI{v:Value}{b off:Nat}{cs:List Value}{ty:TypeId}{lo:Bool}(hx:aq fr x=some (.pointer (some ⟨b,off,none⟩)))(hy:aq fr y=some v)[hs:gH P t]
  (hu:e7 own b cs ty lo (cs.set off v) own')(hl:off<cs.length)(hf:flat v=true)(hd:bD n dst=true)(h:St C n (put fr dst undef) own' G Φ):
  Ch P C n fr own G ⟨dst, .store t x y,ty',pos,af,gd⟩ Φ:=by
 intro a w Q rl;have hb:=(rl.h.hown _ (hu.spec rl.h.nd).1).1;have hc:v.cells= #[v]:=by cases v<;>first|rfl|(simp[flat] at hf)
 have h1:(Instr.storeAt t (a.eval x) (a.eval y)).run P w= .ok () (dO w b (.cells ⟨cs.set off v⟩ ty (0,0))):=by
  rw[aG rl.fr hx,aG rl.fr hy];simp only[Instr.storeAt,Instr.sureAddr];show(storeVar t ⟨b,off,none⟩ v).run P w=_;unfold storeVar;rw[aB (hs.siz w),hc];simp only[jQ,bT,gM,ne_eq,not_true_eq_false,if_false,cY];have:=qA (P:=P) [v] w off 0 cs (by simpa using hf) hb (by simp;omega);simpa[cp] using this
 have h2:(execOp a.eval ⟨dst, .store t x y,ty',pos,af,gd⟩).run P w= .ok .skip (dO w b (.cells ⟨cs.set off v⟩ ty (0,0))):=by
  simp only[execOp];rw[aB h1];rfl
 simp only[Oper.wp,h2,Oper.upon];exact h _ _ ((rl.heap (rl.h.store hu)).put _ hd)
def s5{f:FuncId}(h:jp P f)(args:Array Value)(w:World):(callFunc f args).run P w= .ok (.enter f args) w:=by
 obtain⟨fn,h1,h2,h3⟩:=h;unfold callFunc;show(program>>=_).run P w=_;rw[aB (a:=P) (w':=w) J];simp only[h1,h2,h3];rfl
def Dg{f:FuncId}{fo:Operand}{args:Array Operand}{tys:Array TypeId}{vs c1 c2:List Value}{a:Act}{w:World}(h:jp P f)(hf:fH fr a)(ho:aq fr fo=some (.func (.func f) ⟨c1⟩ ⟨c2⟩))(hv:gc fr args.toList=some vs):
  (execOp a.eval ⟨dst, .call ⟨.value fo,args,tys⟩,ty',pos,af,gd⟩).run P w= .ok (.enter f ⟨c1++vs++c2⟩) w:=by
 have e:args.map a.eval=⟨vs⟩:=by apply Array.ext';simpa using rK hf hv
 simp only[execOp,resolve,aG hf ho,e,Deferred.ofValue];show(invoke (.fn (.func f) ⟨c2⟩) (⟨c1⟩++⟨vs⟩)).run P w=_;simp only[invoke];rw[s5 h];simp
def C7{f:FuncId}{fo:Operand}{args:Array Operand}{tys:Array TypeId}{vs c1 c2:List Value}{K:Value->Gh->Prop}(ho:aq fr fo=some (.func (.func f) ⟨c1⟩ ⟨c2⟩))(hv:gc fr args.toList=some vs)
  (hF:Fn P f (c1++vs++c2) G K)(hd:bD n dst=true)(h: ∀v (G':Gh),[GE G G']->K v G'->St C n (put fr dst v) own G' Φ):
  Ch P C n fr own G ⟨dst, .call ⟨.value fo,args,tys⟩,ty',pos,af,gd⟩ Φ:=by
 intro a w Q rl;have h2:=Dg (P:=P) (dst:=dst) (ty':=ty') (pos:=pos) (af:=af) (gd:=gd) (tys:=tys) (w:=w) hF.able rl.fr ho hv;simp only[Oper.wp,h2,Oper.upon];refine(hF.run w rl.h.sub).mono ?_;rintro e w' ⟨v,G',rfl,hh,hK⟩;exact @h v G' ⟨hh.gle⟩ hK _ _ ((rl.heap (rl.h.called hh)).put _ hd)
def zC{f:FuncId}{fo:Operand}{args:Array Operand}{tys:Array TypeId}{vs:List Value}{K:Value->Gh->Prop}(ho:aq fr fo=some (.func (.func f) #[] #[]))(hv:gc fr args.toList=some vs)
  (hF:Fn P f vs G K)(hd:bD n dst=true)(h: ∀v (G':Gh),[GE G G']->K v G'->St C n (put fr dst v) own G' Φ):
  Ch P C n fr own G ⟨dst, .call ⟨.value fo,args,tys⟩,ty',pos,af,gd⟩ Φ:=
 C7 (c1:=[]) (c2:=[]) ho hv (by simpa using hF) hd h
end
section
variable {P:Program} {C:au} {n:Nat} {fr:Fr} {own own':List ao} {G:Gh}
inductive gg (P:Program) (fr:Fr) (own:List ao):List ResultVar->List Value->Prop
 |nil:gg P fr own [] []
 |tmp {t:Nat} {v:Value} {rs:List ResultVar} {vs:List Value} (h:d6 fr t=some v) (k:gg P fr own rs vs):gg P fr own (.tmp t::rs) (v::vs)
 |agg {a b k:Nat} {t ty:TypeId} {cs l:List Value} {lo:Bool} {rs:List ResultVar} {vs:List Value} (h:d6 fr a=some (.pointer (some ⟨b,0,none⟩))) (ho:fD own b cs ty lo) (ht:kg P t k) (hl:bF cs 0 k=some l) (h2:gg P fr own rs vs):
   gg P fr own (.cell a t::rs) (.agg ⟨l⟩::vs)
 |sc {a b:Nat} {t ty:TypeId} {cs:List Value} {v:Value} {lo:Bool} {rs:List ResultVar} {vs:List Value} (h:d6 fr a=some (.pointer (some ⟨b,0,none⟩))) (ho:fD own b cs ty lo) (ht:gH P t) (hl:cs[0]? =some v) (h2:gg P fr own rs vs):
   gg P fr own (.cell a t::rs) (v::vs)
def og(a:Act):ResultVar->Sem Value
 | .tmp t=>pure (a.tmps.getD t undef)
 | .cell x t=>do loadVar t (<-asAddr (a.tmps.getD x undef))
def gg.run{rs:List ResultVar}{vs:List Value}(h:gg P fr own rs vs){a:Act}{w:World}(hf:fH fr a)(hh:bc C own G w):
  (rs.mapM (og a)).run P w= .ok vs w:=by
 induction h with
 |nil=>rfl
 | @tmp t v rs vs h k ih=>
  rw[kY];have e:=hf _ _ h;have e2:a.tmps.getD t undef=v:=by rw[aU,e];rfl
  rw[aB (a:=v) (w':=w) (by simp only[og,e2];exact run_pure _ _ _),aB ih];rfl
 | @agg x b k t ty cs l lo rs vs h ho ht hl h2 ih=>
  rw[kY];have e:=hf _ _ h;have e2:a.tmps.getD x undef= .pointer (some ⟨b,0,none⟩):=by rw[aU,e];rfl
  rw[aB (a:= .agg ⟨l⟩) (w':=w) (by simp only[og,e2,asAddr];rw[aB (run_pure _ _ _)];exact ud (hh.hown _ ho.mem).1 hl),aB ih];rfl
 | @sc x b t ty cs v lo rs vs h ho ht hl h2 ih=>
  rw[kY];have e:=hf _ _ h;have e2:a.tmps.getD x undef= .pointer (some ⟨b,0,none⟩):=by rw[aU,e];rfl
  rw[aB (a:=v) (w':=w) (by simp only[og,e2,asAddr];rw[aB (run_pure _ _ _)];exact va (hh.hown _ ho.mem).1 hl),aB ih];rfl
def d5:List Value->Value
 |[v]=>v
 |vs=> .tuple ⟨vs⟩
def oK{fn:Func}{vs:List Value}{a:Act}{w:World}(hr:gg P fr own fn.results.toList vs)(hf:fH fr a)(hh:bc C own G w):(results fn a.tmps).run P w= .ok (d5 vs) w:=by
 have h0:=gg.run (C:=C) (G:=G) hr hf hh;have h1:(fn.results.mapM (og a)).run P w= .ok (⟨vs⟩:Array Value) w:=by
  rw[<-Array.toArray_toList (xs:=fn.results),List.mapM_toArray,map_eq_pure_bind,aB h0];rfl
 have h2:results fn a.tmps=(do
   let vs<-fn.results.mapM (og a)
   pure (if h:vs.size=1 then vs[0] else .tuple vs)):=by
  unfold results;congr 1
 rw[h2,aB h1]
 match vs with
 |[]=>rfl
 |[v]=>rfl
 |_::_::_=>rfl
def fk(C:au)(K:Value->Gh->Prop):Ending->World->Prop:=fun e w'=> ∃v G',e= .returned v/\bc C [] G' w'/\K v G'
def xi(C:au)(M:List ao)(K:Value->List (List Value)->Gh->Prop):Ending->World->Prop:=fun e w'=> ∃v css G',e= .returned v/\css.length=M.length/\bc C (Eh (asB M) css) G' w'/\K v css G'
def fg(C:au)(P:Program)(fn:Func)(R:Ending->World->Prop):Exit->Act->World->Prop:=fun e a w=>C.mks=[]->bodyPost P fn R e a w
def zD{fn:Func}{K:Value->Gh->Prop}{vs:List Value}(hr:gg P fr own fn.results.toList vs)(hk:K (d5 vs) G):St C n fr own G (fg C P fn (fk C K) .ret):=
 fun a w rl hmk=>⟨rl.df.trans hmk,_,oK hr rl.fr rl.h,_,G,J,rl.h.drop (kR _),hk⟩
def ui{fn:Func}{K:Value->Gh->Prop}{vs:List Value}(hr:gg P fr own fn.results.toList vs)(hk:K (d5 vs) G):St C n fr own G (fg C P fn (fk C K) .normal):=
 fun a w rl hmk=>⟨rl.df.trans hmk,_,oK hr rl.fr rl.h,_,G,J,rl.h.drop (kR _),hk⟩
def jF:Nat->List Value->Fr
 |_,[]=>[]
 |i,v::t=>(i,v)::jF (i+1) t
def oU: ∀(vs:List Value) (i k:Nat) (v:Value),d6 (jF i vs) k=some v-> ∃j,k=i+j/\vs[j]? =some v
 |[],i,k,v,h=>by cases h
 |u::vs,i,k,v,h=>by
  rw[jF,lx] at h;split at h
  ·subst_vars;cases h;exact⟨0,J,J⟩
  ·obtain⟨j,rfl,hj⟩:=oU vs (i+1) k v h
   exact⟨j+1,by omega,by simpa using hj⟩
def Fn.introR{f:FuncId}{fn:Func}{c:Code}{vs:List Value}{m:Nat}{K:Value->Gh->Prop}(hf:P.funcs[f]? =some fn)(hb:fn.body=some c)(hn:(fn.name== "runtime.NumGoroutine")=false)(hm:fn.ntmps=m)(hlen:Nat.ble vs.length m=true)
  (h: ∀C:au,C.G0=G->C.mb=[]->C.rd=none->(C.fx=fun _=>none)->St C m (jF 0 vs) [] G (c.wp P (fg C P fn (fk C K)))):Fn P f vs G K:=by
 refine⟨⟨fn,hf,hn,by simp[hb]⟩,fun w hw=>?_⟩;have hlen':vs.length<=m:=by simpa using hlen
 have:=calls_of_wp (P:=P) (f:=f) (args:=⟨vs⟩) (w:=w) (R:=fk ⟨w,G,[],[],[],none,fun _=>none⟩ K) hf hb (wp_mono (h ⟨w,G,[],[],[],none,fun _=>none⟩ J J J J _ w
  ⟨⟨J,J,J,bZ _,fun _ _ _=>J,hw,aO.refl _,fun _ _=>J,fun o ho=>(by cases ho), .nil,bZ _,fun p hp=>by cases hp⟩,by simp;omega,fun k v hk=>by
   obtain⟨j,rfl,hj⟩:=oU vs 0 k v hk;have hj':=(aS.1 hj).1;rw[gT (by simpa using hj')];simpa using hj,J⟩) fun _ _ _ k=>k J)
 exact this
def Fn.intro{f:FuncId}{fn:Func}{c:Code}{vs:List Value}{m:Nat}{K:Value->Gh->Prop}(hf:P.funcs[f]? =some fn)(hb:fn.body=some c)(hn:(fn.name== "runtime.NumGoroutine")=false)(hm:fn.ntmps=m)(hlen:Nat.ble vs.length m=true)
  (h: ∀C:au,C.G0=G->C.mb=[]->St C m (jF 0 vs) [] G (c.wp P (fg C P fn (fk C K)))):Fn P f vs G K:=
 Fn.introR hf hb hn hm hlen fun C a b _ _=>h C a b
def j0{Φ:Act->World->Prop}(b:Nat){cs:List Value}{ty:TypeId}(hr:gm own ⟨b,cs,ty,true⟩ own')(h: ∀G':Gh,[GE G G']->[ww G' b cs]->St C n fr own' G' Φ):St C n fr own G Φ:=
 fun a w rl=>by
  obtain⟨h1,h2⟩:=rl.h.freeze hr;exact @h _ ⟨h2⟩ ⟨by simp⟩ a w (rl.heap h1)
def GA{Φ:Act->World->Prop}(own':List ao)(hs:own'.Sublist own)(h:St C n fr own' G Φ):St C n fr own G Φ:=
 fun a w rl=>h a w (rl.heap (rl.h.drop hs))
def CU(C:au)(n:Nat){X:Type}(F:X->Fr)(O:X->List ao)(I:X->Gh->Prop)(μ:X->Nat)(m:Nat)(G:Gh)(a:Act)(w:World):Prop:=
 ∃x G',aO G G'/\I x G'/\μ x<m/\d4 C n (F x) (O x) G' a w
def gh{Q:Exit->Act->World->Prop}{c:Code}{X:Type}(F:X->Fr)(O:X->List ao)(I:X->Gh->Prop)(μ:X->Nat)(x0:X)(hI:I x0 G)(hF:mn (F x0) fr)(hO:O x0=own)
  (round: ∀(x:X) (G':Gh),[GE G G']->I x G'->St C n (F x) (O x) G' (c.wp P (Exit.then (CU C n F O I μ (μ x) G') Q))):St C n fr own G ((Code.loop c).wp P Q):=by
 intro a w rl;subst hO;intro b k cs;have key: ∀m a w,(∃x G',aO G G'/\I x G'/\μ x=m/\d4 C n (F x) (O x) G' a w)->
   ∃e a' w',Q e a' w'/\Arrives P (lone (b.at a (.code c:: .inLoop c::k)) cs w) b k cs e a' w':=by
  intro m
  induction m using Nat.strongRecOn with
  |_ m ih=>
   intro a w ⟨x,G',hle,hx,hm,hr⟩;obtain⟨e,a₁,w₁,hq,harr⟩:= @round x G' ⟨hle⟩ hx a w hr b (.inLoop c::k) cs
   cases e with
   |normal=>
    obtain⟨x',G'',hle',hx',hlt,hr'⟩:=hq;obtain⟨e₂,a₂,w₂,hq₂,harr₂⟩:=ih (μ x') (hm▸hlt) a₁ w₁ ⟨x',G'',hle.trans hle',hx',rfl,hr'⟩;exact⟨e₂,a₂,w₂,hq₂, .of_steps (Steps.trans harr (.one step_inLoop)) harr₂⟩
   |exit id=>exact⟨_,a₁,w₁,hq, .pass (x:= .inLoop c) J (fun _ _=> .inl (by simp)) harr⟩
   |goto l=>exact⟨_,a₁,w₁,hq, .pass (x:= .inLoop c) J (fun _ _=> .inl (by simp)) harr⟩
   |ret=>exact⟨_,a₁,w₁,hq, .pass (x:= .inLoop c) J (fun _ _=> .inl (by simp)) harr⟩
   |panic ch=>exact⟨_,a₁,w₁,hq, .pass (x:= .inLoop c) J (fun _ _=> .inl (by simp)) harr⟩
   |outgrown=>exact⟨_,a₁,w₁,hq, .pass (x:= .inLoop c) J (fun _ _=> .inl (by simp)) harr⟩
 obtain⟨e,a',w',q,r⟩:=key (μ x0) a w ⟨x0,G,aO.refl _,hI,rfl,rl.h,rl.sz,fun k v hk=>rl.fr _ _ (hF _ _ hk),rl.df⟩;exact⟨e,a',w',q, .of_steps (.one step_loop) r⟩
def At(C:au)(n:Nat){X:Type}(F:X->Fr)(O:X->List ao)(I:X->Gh->Prop)(G:Gh)(a:Act)(w:World):Prop:=
 ∃x G',aO G G'/\I x G'/\d4 C n (F x) (O x) G' a w
def pT{Q:Exit->Act->World->Prop}{c d:Code}(X:Type)(F:X->Fr)(O:X->List ao)(I:X->Gh->Prop)(h1:St C n fr own G (c.wp P (Exit.then (At C n F O I G) Q)))
  (h2: ∀(x:X) (G':Gh),[GE G G']->I x G'->St C n (F x) (O x) G' (d.wp P Q)):St C n fr own G ((Code.seq c d).wp P Q):=by
 intro a w rl;refine wp_seq (wp_mono (h1 a w rl) ?_);intro e a w h
 cases e with
 |normal=>obtain⟨x,G',hle,hI,hr⟩:=h;exact @h2 x G' ⟨hle⟩ hI a w hr
 |_=>exact h
def jw{X:Type}{F:X->Fr}{O:X->List ao}{I:X->Gh->Prop}{G0:Gh}[hg:GL G0 G](x:X)(hI:I x G)(hF:mn (F x) fr)(hO:O x=own):St C n fr own G (At C n F O I G0):=
 fun a w rl=>⟨x,G,hg.le,hI,⟨hO▸rl.h,rl.sz,fun k v hk=>rl.fr _ _ (hF _ _ hk),rl.df⟩⟩
def eG{X:Type}{F:X->Fr}{O:X->List ao}{I:X->Gh->Prop}{μ:X->Nat}{m:Nat}{G0:Gh}[hg:GL G0 G](x:X)(hI:I x G)(hμ:μ x<m)(hF:mn (F x) fr)(hO:O x=own):St C n fr own G (CU C n F O I μ m G0):=
 fun a w rl=>⟨x,G,hg.le,hI,hμ,⟨hO▸rl.h,rl.sz,fun k v hk=>rl.fr _ _ (hF _ _ hk),rl.df⟩⟩
end
def fP(Q:Exit->Act->World->Prop):Exit->Act->World->Prop
 | .panic _,_,_=>False
 |e,a,w=>Q e a w
def fP.imp{Q:Exit->Act->World->Prop}: ∀(e:Exit) (a:Act) (w:World),fP Q e a w->Q e a w:=fun e a w h=>by
 cases e<;>first|exact h|exact(h:False).elim
section
variable {P:Program} {ops:Array Oper} {Q:Exit->Act->World->Prop} {S:World->Prop} {fin:Nat->Bool}
def lq(P:Program)(ops:Array Oper)(Q:Exit->Act->World->Prop)(S:World->Prop)(fin:Nat->Bool):Nat->Array Bool->Act->World->Prop
 |0,listed,a,w=>Region.ready .any ops listed=[]/\Q .normal a w
 |fuel+1,listed,a,w=>
  (Region.ready .any ops listed=[]->Q .normal a w)/\
  ∀i∈Region.ready .any ops listed,wpOp P ops Q i (fun a' w'=>(fin i=true\/S w')/\lq P ops Q S fin fuel (listed.setIfInBounds i true) a' w') a w
def yg: ∀(fuel:Nat) (listed:Array Bool) (a:Act) (w:World),lq P ops Q S fin fuel listed a w->wpAny P .any ops Q fuel listed a w
 |0,_,_,_,h=>h
 |fuel+1,_,_,_,h=>⟨h.1,fun i hi=>wpOp_mono (fun a' w' h'=>yg fuel _ a' w' h'.2) (h.2 i hi)⟩
def vY(ops:Array Oper)(fin:Nat->Bool)(i:Nat):Bool:=
 !fin i&&(List.range ops.size).all fun j=>!fin j||((ops[j]?).map fun o=>o.after.any fun e=>Region.binds .any e&&e.on==i).getD true
def Mb{i:Nat}(h:vY ops fin i=true):fin i=false/\ ∀j oj,ops[j]? =some oj->fin j=true-> ∃e∈oj.after,Region.binds .any e=true/\e.on=i:=by
 simp only[vY,aR,fU] at h;refine⟨h.1,fun j oj hoj hf=>?_⟩;have hj:j<ops.size:=(cK.1 hoj).1;have h1:=cW.1 h.2 j (by simpa using hj);rw[hf,hoj] at h1;simp only[Bool.not_true,fL,hZ,Bool.false_or] at h1;obtain⟨e,he,hb⟩:=Array.any_eq_true'.1 h1;simp only[aR,beq_iff_eq] at hb;exact⟨e,he,hb.1,hb.2⟩
def Fy{i:Nat}{oi:Oper}{v:Value}(hi:ops[i]? =some oi)(hsel: ∀(j:Nat) (o:Oper) cs b,ops[j]? =some o->o.op≠ .select cs b)
  (hQ: ∀c a w,Q (.panic c) (a.put oi.dst v) w->Q (.panic c) a w)(hfi:fin i=false)
  (hfin: ∀j oj,ops[j]? =some oj->fin j=true-> ∃e∈oj.after,Region.binds .any e=true/\e.on=i):
  ∀(fuel:Nat) (listed:Array Bool) (a:Act) (w:World),
   (∀j oj,ops[j]? =some oj->j≠i->listed.getD j true=false->(∀e∈oj.after,Region.binds .any e=true->e.on≠i)->oi.apart ops oj=true)->
   i∈Region.ready .any ops listed->YieldsIf P ops S oi v a->S w->
   lq P ops Q S fin fuel (listed.setIfInBounds i true) (a.put oi.dst v) w->lq P ops Q S fin (fuel+1) listed a w:=by
 intro fuel
 induction fuel with
 |zero=>
  intro listed a w _ hr hy hS H;refine⟨fun h=>(by rw[h] at hr;cases hr),fun j hj=>?_⟩;by_cases hji:j=i
  ·subst hji;exact hy.wpOp hi hS ⟨.inr hS,H⟩
  ·have:=ready_mono hj hji
   rw[H.1] at this
   cases this
 |succ fuel ih=>
  intro listed a w hfree hr hy hS H;refine⟨fun h=>(by rw[h] at hr;cases hr),fun j hj=>?_⟩;by_cases hji:j=i
  ·subst hji;exact hy.wpOp hi hS ⟨.inr hS,H⟩
  ·have h1:=H.2 j (ready_mono hj hji)
   obtain⟨hjun,oj,hoj,hall⟩:=mem_ready.1 hj;have hnot: ∀e∈oj.after,Region.binds .any e=true->e.on≠i:=fun e he hb heq=>by
    have h1:=hall e he hb;have h0:=(mem_ready.1 hr).1;rw[heq] at h1;rcases iX i listed.size with h'|h'
    ·simp[h'] at h0 h1;rw[h0] at h1;cases h1
    ·simp[iU h'] at h1
   have hnf:fin j=false:=by
    cases hf:fin j with
    |false=>rfl
    |true=>obtain⟨e,he,hb,heq⟩:=hfin j oj hoj hf;exact absurd heq (hnot e he hb)
   have h2:=wpOp_putIf hoj (hfree j oj hoj hji hjun hnot) (fun cs b=>hsel i oi cs b hi) (fun cs b=>hsel j oj cs b hoj) hQ hy h1;have hfree': ∀k ok,ops[k]? =some ok->k≠i->(listed.setIfInBounds j true).getD k true=false->
     (∀e∈ok.after,Region.binds .any e=true->e.on≠i)->oi.apart ops ok=true:=fun k ok hk hki hun hno=>by
    refine hfree k ok hk hki ?_ hno;by_cases hjk:j=k
    ·subst hjk;exact hjun
    ·rw[getD_set_ne true hjk] at hun;exact hun
   refine wpOp_mono (fun a' w' h3=>?_) h2;have hS':S w':=h3.2.1.resolve_left (by rw[hnf];simp);refine⟨.inr hS',ih (listed.setIfInBounds j true) a' w' hfree' (ready_mono hr (Ne.symm hji)) h3.1 hS' ?_⟩;rw[Array.setIfInBounds_comm _ _ hji];exact h3.2.2
def IE{i:Nat}{fuel:Nat}{listed:Array Bool}{a:Act}{w:World}(hr:Region.ready .any ops listed=[i])
  (h:wpOp P ops Q i (fun a' w'=>(fin i=true\/S w')/\lq P ops Q S fin fuel (listed.setIfInBounds i true) a' w') a w):lq P ops Q S fin (fuel+1) listed a w:=
 ⟨fun h0=>absurd (hr.symm.trans h0) (by simp),fun j hj=>by rw[hr,aL] at hj;subst hj;exact h⟩
def oP(ops:Array Oper)(fin:Nat->Bool)(listed:Array Bool)(i:Nat):Bool:=
 Region.noSelect ops&&Region.free .any ops listed i&&(Region.ready .any ops listed).contains i&&vY ops fin i
end
class im (l m:List ao):Prop where s:l.Sublist m
instance im.refl (l:List ao):im l l:=⟨List.Sublist.refl l⟩
instance im.cons (l m:List ao) (o:ao) [h:im l m]:im l (o::m):=⟨h.s.cons o⟩
def HS(C:au)(own:List ao)(G:Gh):World->Prop:=fun w=> ∃G',aO G G'/\bc C own G' w
section
variable {P:Program} {C:au} {n:Nat} {fr:Fr} {own own0:List ao} {G G0:Gh} {ops:Array Oper} {Q:Exit->Act->World->Prop} {fin:Nat->Bool}
def Mj{id:Nat}(fin:Nat->Bool)(hm:P.follows .mixedOrders=true)
  (h:St C n fr own G (lq P ops (fP Q) (HS C own G) fin ops.size (Array.replicate ops.size false))):St C n fr own G ((Code.region id ops true).wp P Q):=by
 intro a w rl;exact wp_mono (wp_region_any hm (yg _ _ _ _ (h a _ (rl.heap rl.h.drew)))) fP.imp
def Dq{b:Bool}{Φ:Act->World->Prop}[hs:im own0 own][hl:GL G0 G](h:St C n fr own G Φ):St C n fr own G (fun a w=>(b=true\/HS C own0 G0 w)/\Φ a w):=
 fun a w rl=>⟨.inr ⟨G,hl.le,rl.h.drop hs.s⟩,h a w rl⟩
end
end Go.Sx
end
