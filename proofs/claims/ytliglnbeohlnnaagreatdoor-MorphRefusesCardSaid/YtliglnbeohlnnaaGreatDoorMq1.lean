import Derived.Calls
import Derived.Orders
import Derived.OrdersHeld
import Derived.Laws.World
import Derived.Below
import Derived.IntWalk
import Derived.KernelRfl
import Derived.Laws.Append
set_option linter.all false
section
namespace Go.Sx
theorem we{p:Prop}(h:p:=by omega):p:=h
theorem oma{p:Prop}(h:p:=by decide):p:=h
theorem omb{p:Prop}(h:p:=by grind):p:=h
theorem omc{p:Prop}(h:p:=by simp):p:=h
theorem omd{p:Prop}(h:p:=by kernel_rfl):p:=h
theorem ome{p:Prop}(h:p:=by assumption):p:=h
theorem omg{p:Prop}{i:Decidable p}(h:p):some (@decide p i)=some true:=by rw[decide_eq_true h]
theorem omh{p:Prop}{i:Decidable p}(h: ¬p):some (@decide p i)=some false:=by rw[decide_eq_false h]
def J{α:Sort _}{a:α}:a=a:=rfl
open Go
variable {α β:Type}{a:Act}{c x z:Operand}{v:Value}{P:Program}{ops:Array Oper}{Q:Exit->Act->World->Prop}{w w':World}{n j d e s by_ off f i len cap m:Nat}{r:List Oper}{o:Oper}{y:Code}{p q:Int}{Φ:Act->World->Prop}{t ty' t':TypeId}{k k':IntKind}{l l1 l2 cs':List Value}{dst:Option Nat}{pos:String}{af:Array Edge}{ad:Option Addr}{css:List (List Value)}
def aQ:=@List.getElem?_eq_getElem
def aZ:=@List.mem_cons_self
def aX:=@List.length_map
def aJ:=@List.mem_cons_of_mem
def aK:=@List.mem_of_getElem?
def aV:=@List.getD_eq_getElem?_getD
def aW:=@List.mem_cons
def aY:=@List.length_append
def aU:=@List.mem_map
def aT:=@List.getElem?_eq_some_iff
def aR:=@List.mem_singleton
def aS:=@Nat.zero_le
def aL:=@List.length_replicate
def aM:=@List.map_append
def aN:=@Nat.eq_of_beq_eq_true
def bQ:=@List.length_set
def bZ:=@List.length_cons
def bX:=@List.mem_append
def bJ:=@Nat.le_refl
def bK:=@List.drop_eq_getElem_cons
def bV:=@List.map_cons
def bW:=@Bool.and_eq_true
def bY:=@List.pairwise_cons
def bU:=@List.mem_append_right
def bT:=@List.length_take
def bR:=@Nat.mul_le_mul_right
def bS:=@List.take_of_length_le
def bL:=@List.getElem?_map
def bM:=@List.mem_append_left
def cZ:=@Nat.pow_le_pow_right
def cX:=@Rat.intCast_eq_zero_iff
def cJ:=@List.eq_nil_of_length_eq_zero
def cK:=@Int.toNat_natCast
def cV:=@Array.getD_eq_getD_getElem?
def cW:=@Nat.mul_comm
def cY:=@Nat.mul_assoc
def cR:=@List.getElem_mem
def cS:=@Rat.intCast_mul
def cM:=@Nat.lt_of_lt_of_le
def cN:=@Nat.le_trans
def dQ:=@List.take_length
def dZ:=@Nat.lt_of_le_of_lt
def dX:=@Rat.le_of_lt
def dJ:=@List.all_eq_true
def dK:=@Nat.mod_lt
def dV:=@List.append_assoc
def dW:=@List.take_add_one
def dY:=@Nat.add_mul
def dT:=@List.getElem?_eq_none
def dR:=@List.forall_mem_cons
def dS:=@Int.natAbs_natCast
def eX:=@Nat.mul_add
def eJ:=@Array.getElem?_setIfInBounds
def eK:=@Int.sign_eq_neg_one_of_neg
def eY:=@Int.natAbs_mul
def eM:=@Nat.zero_add
def fQ:=@List.mem_map_of_mem
def fZ:=@Nat.pos_of_ne_zero
def fX:=@List.length_nil
def fJ:=@Rat.mul_eq_zero
def fK:=@List.not_mem_nil
def fV:=@Array.getElem?_eq_some_iff
def fW:=@List.mem_of_mem_take
def fY:=@List.length_singleton
def fU:=@Nat.mul_le_mul
def fT:=@Nat.pow_add
def fR:=@Nat.le_of_lt
def fS:=@Int.sign_eq_one_of_pos
def fL:=@Nat.eq_zero_or_pos
def fM:=@Int.sign_eq_zero_iff_zero
def fN:=@List.map_take
def gQ:=@Nat.succ_mul
def gX:=@List.append_nil
def gJ:=@List.take_append_of_le_length
def gK:=@Nat.add_zero
def gV:=@List.mem_filterMap
def gW:=@List.length_drop
def gU:=@Nat.mul_le_mul_left
def gT:=@List.drop_length
def gR:=@List.pairwise_append
def gS:=@List.mem_of_mem_drop
def gL:=@List.map_drop
def gM:=@Array.getElem?_eq_getElem
def gN:=@Nat.lt_or_ge
def iQ:=@List.getElem?_append_left
def iZ:=@List.drop_zero
def iX:=@Nat.pow_pos
def iJ:=@List.cons_append
def iK:=@List.foldl_cons
def iV:=@Bool.or_eq_true
def iW:=@List.drop_of_length_le
def iY:=@Nat.mul_pos
def iU:=@List.map_nil
def iT:=@Bool.not_eq_true'
def iR:=@List.mem_flatMap
def iS:=@Rat.le_refl
def iL:=@Nat.pow_succ
def iM:=@List.length_dropLast
def iN:=@List.map_toArray
def jQ:=@Int.natCast_mul
def jZ:=@List.getElem?_append_right
def jX:=@Int.natAbs_neg
def jJ:=@List.mem_range
def jK:=@List.perm_append_comm
def jV:=@List.nil_sublist
def jW:=@List.drop_eq_nil_of_le
def jY:=@List.take_succ_eq_append_getElem
def jU:=@Int.natAbs_eq_zero
def jT:=@List.length_filterMap_le
def jR:=@List.take_append_drop
def jS:=@Nat.mul_one
def jL:=@Nat.gcd_comm
def jM:=@Rat.intCast_sub
def jN:=@Rat.num_intCast
def kQ:=@Nat.mod_eq_of_lt
def kZ:=@List.any_eq_true
def kX:=@Bool.not_eq_true
def kJ:=@List.flatMap_cons
def kK:=@List.map_set
def kV:=@List.nil_append
def kW:=@Nat.min_eq_left
def kY:=@Rat.den_intCast
def kU:=@Rat.intCast_neg
def kR:=@Nat.div_lt_iff_lt_mul
def kS:=@Nat.zero_mul
def kL:=@List.length_range
def kM:=@Nat.eq_zero_of_gcd_eq_zero_right
def kN:=@Nat.eq_zero_of_gcd_eq_zero_left
def lQ:=@Bool.false_eq_true
def lZ:=@Array.getElem?_append_left
def lX:=@Int.fdiv_eq_ediv_of_nonneg
def lJ:=@List.mem_iff_getElem
def lK:=@Option.getD_some
def lV:=@Nat.add_comm
def lW:=@Nat.gcd_dvd_left
def lY:=@List.getLast?_eq_getElem?
def lU:=@Nat.blt_eq
def lT:=@Array.length_toList
def lR:=@List.ext_getElem?
def lS:=@List.drop_append_of_le_length
def lL:=@Nat.add_assoc
def lM:=@Option.map_some
def lN:=@Int.natAbs_zero
def mQ:=@List.getElem?_drop
def mZ:=@Nat.le_mul_of_pos_right
def mX:=@Bool.or_eq_false_iff
def mJ:=@Nat.gcd_pos_of_pos_left
def mK:=@Int.ofNat_natAbs_of_nonpos
def mV:=@Nat.gcd_dvd_right
def mW:=@Rat.num_eq_zero
def mY:=@Rat.intCast_inj
def mT:=@Nat.div_le_self
def mS:=@Int.natAbs_ediv_le_natAbs
def mL:=@Rat.mkRat_eq_div
def mM:=@Nat.add_sub_cancel
def mN:=@List.append_of_mem
def nQ:=@Nat.div_eq_of_lt
def nZ:=@Nat.mul_left_comm
def nX:=@List.mem_filter
def nJ:=@Rat.intCast_add
def nK:=@List.sublist_cons_self
def nV:=@Nat.mul_lt_mul_of_pos_right
def nY:=@Option.map_eq_some_iff
def nU:=@Nat.one_mul
def nT:=@List.drop_append
def nR:=@Nat.mul_right_comm
def nS:=@Nat.mul_lt_mul_of_lt_of_le
def nL:=@Nat.gcd_zero_right
def nM:=@List.set_append_right
def nN:=@List.eq_nil_or_concat
def oQ:=@List.concat_eq_append
def oZ:=@Int.natAbs_of_nonneg
def oX:=@Rat.neg_num
def oJ:=@Nat.beq_refl
def oK:=@List.foldl_append
def oV:=@Nat.pow_lt_pow_iff_right
def oW:=@List.sublist_append_left
def oY:=@Nat.gcd_pos_of_pos_right
def oU:=@List.take_succ_cons
def oT:=@List.getD_cons_succ
def oR:=@List.length_pos_iff
def oS:=@List.takeWhile_cons
def oL:=@List.getElem_map
def oM:=@Nat.le_add_right
def oN:=@Rat.mkRat_self
def pQ:=@List.perm_middle
def pZ:=@List.countP_cons
def pX:=@Array.getElem?_eq_none
def pJ:=@List.getElem?_take
def pK:=@Nat.sub_self
def pV:=@List.getElem_cons_zero
def pW:=@Option.toList_some
def pY:=@List.map_map
def pU:=@Nat.not_lt_zero
def pT:=@Int.mul_eq_zero
def pR:=@Bool.true_and
def pS:=@Array.getElem?_toList
def pL:=@List.length_filter_le
def pM:=@List.size_toArray
def pN:=@Int.lt_trichotomy
def qQ:=@List.getElem?_set
def qZ:=@Nat.add_mul_div_left
def qX:=@Array.toList_map
def qJ:=@Int.le_of_lt
def qK:=@List.filter_cons
def qV:=@Nat.le_max_right
def qW:=@Nat.add_mul_mod_self_left
def qY:=@List.pairwise_iff_getElem
def qU:=@List.getElem?_range
def qT:=@Int.toNat_of_nonneg
def qR:=@List.take_replicate
def qS:=@List.getD_cons_zero
def qL:=@List.filterMap_cons
def qM:=@Option.isSome_iff_exists
def qN:=@Array.getElem?_replicate
def rQ:=@Nat.dvd_trans
def rZ:=@Bool.eq_iff_iff
def rX:=@Option.map_none
def rJ:=@Nat.div_add_mod
def rK:=@Nat.le_max_left
def rV:=@Array.foldl_toList
def rW:=@Rat.mul_inv_cancel
def rY:=@Rat.div_mul_cancel
def rU:=@Int.natCast_dvd_natCast
def rT:=@Nat.mul_div_cancel_left
def rR:=@List.mapM_cons
def rS:=@List.flatten_cons
def rL:=@Nat.lt_trichotomy
def rM:=@Rat.num_nonneg
def rN:=@List.forall_mem_append
def sQ:=@List.all_eq_false
def sZ:=@List.getElem?_set_self
def sX:=@Nat.div_div_eq_div_mul
def sJ:=@Bool.or_true
def sV:=@List.getElem?_dropLast
def sW:=@Nat.le_of_ble_eq_true
def sY:=@Nat.le_div_iff_mul_le
def sU:=@List.filterMap_append
def sT:=@Int.natCast_ediv
def sS:=@Nat.mul_lt_mul''
def sL:=@Nat.le_of_not_lt
def sM:=@Rat.num_mkRat
def sN:=@Rat.den_mkRat
def tQ:=@Rat.mkRat_one
def tZ:=@List.all_cons
def tX:=@List.sum_cons
def tJ:=@Nat.pow_mul
def tK:=@Rat.neg_den
def tV:=@Nat.div_one
def tW:=@List.mem_of_getLast?
def tY:=@List.sum_append
def tU:=@List.range_succ
def tL:=@Array.toList_zipIdx
def tM:=@List.replicate_succ
def tN:=@List.drop_set_of_lt
def uQ:=@List.drop_succ_cons
def uZ:=@List.flatMap_append
def uX:=@List.map_eq_nil_iff
def uJ:=@List.map_congr_left
def uK:=@Nat.mul_zero
def uV:=@Int.mul_comm
def uY:=@Nat.lt_trans
def uU:=@Nat.pow_zero
def uT:=@List.take_zero
def uR:=@List.drop_drop
def uS:=@Rat.mkRat_zero
def uL:=@Nat.gcd_rec
abbrev Gh:=Nat->Option (List Value)
variable {G G':Gh}
def bI(G G':Gh):Prop:= ∀b cs,G b=some cs->G' b=some cs
def bI.refl(G:Gh):bI G G:=fun _ _ h=>h
def bI.trans{a b c:Gh}(h:bI a b)(k:bI b c):bI a c:=fun _ _ x=>k _ _ (h _ _ x)
structure aB where
 b:Nat
 cs:List Value
 ty:TypeId
 lo:Bool
variable {own' M rest:List aB}
structure aF where
 w0:World
 G0:Gh
 mb:List Nat
 /-- other objects that stay: records of loops, marks -/
 ex:List (Nat×Obj)
 /-- the marks among the deferred calls; the round -/
 mks:List Deferred
 rd:Option Nat
 /-- where names that are fixed lie -/
 fx:Nat->Option Addr
variable {C:aF}
structure bH (C:aF) (own:List aB) (G:Gh) (w:World):Prop where
 os:w.os=C.w0.os
 tape:w.tape=C.w0.tape
 output:w.output=C.w0.output
 size:C.w0.heap.size<=w.heap.size
 keep: ∀b,b<C.w0.heap.size->b∉C.mb->w.heap[b]? =C.w0.heap[b]?
 sub: ∀b cs,G b=some cs-> ∃ty fz,w.heap[b]? =some (.cells ⟨cs⟩ ty fz)
 gle:bI C.G0 G
 gold: ∀b,b<C.w0.heap.size->G b=C.G0 b
 hown: ∀o∈own,w.heap[o.b]? =some (.cells ⟨o.cs⟩ o.ty (0,0))/\G o.b=none/\(o.lo=true->C.w0.heap.size<=o.b)/\(o.lo=false->o.b∈C.mb)
 nd:own.Pairwise (fun x y=>x.b≠y.b)
 dr:C.w0.drawn<=w.drawn
 ext: ∀p∈C.ex,(∀cs ty z,p.2≠ .cells cs ty z)/\w.heap[p.1]? =some p.2
abbrev Fr:=List (Nat×Value)
def iI:Fr->Nat->Option Value
 |[],_=>none
 |(k,v)::t,j=>bif Nat.beq k j then some v else iI t j
def put(fr:Fr)(dst:Option Nat)(v:Value):Fr:=match dst with|some d=>(d,v)::fr|none=>fr
def l6(fr:Fr)(a:Act):Prop:= ∀k v,iI fr k=some v->a.tmps[k]? =some v
structure gA (C:aF) (n:Nat) (fr:Fr) (own:List aB) (G:Gh) (a:Act) (w:World):Prop where
 h:bH C own G w
 sz:a.tmps.size=n
 fr:l6 fr a
 df:a.defers=C.mks
def St(C:aF)(n:Nat)(fr:Fr)(own:List aB)(G:Gh)(Φ:Act->World->Prop):Prop:=
 ∀a w,gA C n fr own G a w->Φ a w
def aD(fr:Fr):Operand->Option Value
 | .tmp k=>iI fr k
 | .const v=>some v
 | .global g=>some (.pointer (some ⟨g,0,none⟩))
 | .func f=>some (.func (.func f) #[] #[])
def bC{fr:Fr}(h:l6 fr a)(hx:aD fr x=some v):a.eval x=v:=by
 cases x with
 |tmp k=>
  have:=h k v hx;simp only[Act.eval,cV,this,lK]
 |const u=>simpa[aD,Act.eval] using hx
 |global g=>simpa[aD,Act.eval] using hx
 |func f=>simpa[aD,Act.eval] using hx
def wJ(k:Nat)(v:Value)(t:Fr)(j:Nat):iI ((k,v)::t) j=if k=j then some v else iI t j:=by
 simp only[iI];by_cases h:k=j
 .simp[h]
 .have:Nat.beq k j=false:=by
   cases hb:Nat.beq k j with
   |false=>rfl
   |true=>exact absurd (aN hb) h
  simp[this,h]
def cg(n:Nat):Option Nat->Bool
 |some d=>Nat.blt d n
 |none=>true
def l6.put{fr:Fr}{a:Act}{n:Nat}(h:l6 fr a)(hs:a.tmps.size=n){dst:Option Nat}{v:Value}(hd:cg n dst=true):l6 (Sx.put fr dst v) (a.put dst v):=by
 cases dst with
 |none=>exact h
 |some d=>
  intro k u hk;have hdn:d<n:=by simpa[cg,lU] using hd
  simp only[Sx.put,wJ] at hk;simp only[Act.put,eJ];by_cases hkd:d=k
  .simp only[hkd,if_true] at hk
   subst hkd;simp[hs,hdn,hk]
  .simp only[hkd,if_false] at hk
   simp only[hkd,if_false];exact h k u hk
def Nu(a:Act)(dst:Option Nat)(v:Value):(a.put dst v).tmps.size=a.tmps.size:=by cases dst<;>simp[Act.put]
def ME(a:Act)(dst:Option Nat)(v:Value):(a.put dst v).defers=a.defers:=by cases dst<;>simp[Act.put]
def gA.put{C n fr own G a w}(r:gA C n fr own G a w){dst:Option Nat}(v:Value)(hd:cg n dst=true):gA C n (Sx.put fr dst v) own G (a.put dst v) w:=
 ⟨r.h,by rw[Nu];exact r.sz,r.fr.put r.sz hd,by rw[ME];exact r.df⟩
def gA.heap{C n fr own G own' G' a w w'}(r:gA C n fr own G a w)(h:bH C own' G' w'):gA C n fr own' G' a w':=⟨h,r.sz,r.fr,r.df⟩
def dq(P:Program)(ops:Array Oper)(Q:Exit->Act->World->Prop):List Oper->Act->World->Prop
 |[],a,w=>Q .normal a w
 |o::r,a,w=>if Region.wanted o (yielded ops a.tmps) then o.wp P a w (dq P ops Q r) Q else dq P ops Q r (a.put o.dst undef) w
theorem ozC{p:Prop}(h:p:=by simpa using hk):p:=h
def anX: ∀(l:List Nat) (k:Nat) (a:Act) (w:World),l=(List.range ops.size).drop k->dq P ops Q (ops.toList.drop k) a w->wpOps P ops Q l a w:=by
 intro l
 induction l with
 |nil=>
  intro k a w hl h;have hk:ops.size<=k:=by
   have:=congrArg List.length hl;simp at this;omega
  rw[jW ozC] at h;exact h
 |cons i t ih=>
  intro k a w hl h;have hk:k<ops.size:=by
   have:=congrArg List.length hl;simp at this;omega
  rw[bK ozC] at hl;obtain⟨hi,ht⟩:=List.cons.inj hl;simp only[List.getElem_range] at hi;subst hi;rw[bK ozC] at h;have ho:ops[i]? =some ops[i]:=gM hk;simp only[wpOps,ho];simp only[dq,Array.getElem_toList] at h;split
  .rename_i hw
   simp only[hw,if_true] at h;exact .inl (Oper.wp_mono (fun a w h=>ih (i+1) a w ht h) h)
  .rename_i hw
   simp only[hw] at h;exact ih (i+1) _ w ht h
theorem omE{p:Prop}(h:p:=by simpa using h):p:=h
def U'{id:Nat}
  (h:dq P ops Q ops.toList a w):(Code.region id ops false).wp P Q a w:=
 wp_region (anX _ 0 a w omc omE)
def Yd(P:Program)(C:aF)(fr:Fr)(own:List aB)(G:Gh)(o:Oper)(v:Value):Prop:=
 ∀a w,l6 fr a->bH C own G w->(execOp a.eval o).run P w= .ok (.value v) w
section
variable {fr:Fr}{own:List aB}
def rA(hy:Yd P C fr own G o v)(hg:o.guard=none)(hd:cg n o.dst=true)
  (h:St C n (put fr o.dst v) own G (dq P ops Q r)):St C n fr own G (dq P ops Q (o::r)):=by
 intro a w rl;simp only[dq,Region.wanted,hg,if_true,Oper.wp,hy a w rl.fr rl.h,Oper.upon];exact h _ _ (rl.put v hd)
def HD{b:Bool}(hf:l6 fr a)(hj:(ops[j]?).bind (·.dst)=some d)(hl:iI fr d=some (.bool b)):yielded ops a.tmps j=some b:=by
 unfold yielded;rw[hj];simp[hf d _ hl]
def aLq{b:Bool}(hg:o.guard=some (j,b))(hj:(ops[j]?).bind (·.dst)=some d)(hl:iI fr d=some (.bool b))
  (hy:Yd P C fr own G o v)(hd:cg n o.dst=true)
  (h:St C n (put fr o.dst v) own G (dq P ops Q r)):St C n fr own G (dq P ops Q (o::r)):=by
 intro a w rl;have:Region.wanted o (yielded ops a.tmps)=true:=by simp[Region.wanted,hg,HD rl.fr hj hl]
 simp only[dq,this,if_true,Oper.wp,hy a w rl.fr rl.h,Oper.upon];exact h _ _ (rl.put v hd)
def aD1{b c:Bool}(hg:o.guard=some (j,b))(hj:(ops[j]?).bind (·.dst)=some d)(hl:iI fr d=some (.bool c))(hbc:(c==b)=false)
  (hd:cg n o.dst=true)(h:St C n (put fr o.dst undef) own G (dq P ops Q r)):St C n fr own G (dq P ops Q (o::r)):=by
 intro a w rl;have:Region.wanted o (yielded ops a.tmps)=false:=by simp[Region.wanted,hg,HD rl.fr hj hl,hbc]
 simp only[dq,this];exact h _ _ (rl.put undef hd)
def zE(h:St C n fr own G (Q .normal)):St C n fr own G (dq P ops Q []):=h
def D9{id:Nat}(h:St C n fr own G (dq P ops Q ops.toList)):St C n fr own G ((Code.region id ops false).wp P Q):=
 fun a w rl=>U' (h a w rl)
def fy{x:Code}(h:St C n fr own G (x.wp P (Exit.then (y.wp P Q) Q))):St C n fr own G ((Code.seq x y).wp P Q):=
 fun a w rl=>wp_seq (h a w rl)
def zK(h:St C n fr own G (Q .normal)):St C n fr own G (Code.skip.wp P Q):=fun a w rl=>wp_skip (h a w rl)
def me(h:St C n fr own G (Q .ret)):St C n fr own G (Code.ret.wp P Q):=fun a w rl=>wp_ret (h a w rl)
def TS{id:Nat}(h:St C n fr own G (Q (.exit id))):St C n fr own G ((Code.exit id).wp P Q):=fun a w rl=>wp_exit (h a w rl)
def xE{id:Nat}{c:Code}(h:St C n fr own G (c.wp P (Exit.inBlock id Q))):St C n fr own G ((Code.block id c).wp P Q):=
 fun a w rl=>wp_block (h a w rl)
def Od{id:Nat}(h:St C n fr own G (Q .normal)):St C n fr own G (Exit.inBlock id Q (.exit id)):=
 fun a w rl=>by simp only[Exit.inBlock,if_true];exact h a w rl
def uc{x:Code}(hc:aD fr c=some (.bool true))(h:St C n fr own G (x.wp P Q)):St C n fr own G ((Code.cond c x y).wp P Q):=
 fun a w rl=>wp_cond_true (bC rl.fr hc) (h a w rl)
def tq{x:Code}(hc:aD fr c=some (.bool false))(h:St C n fr own G (y.wp P Q)):St C n fr own G ((Code.cond c x y).wp P Q):=
 fun a w rl=>wp_cond_false (bC rl.fr hc) (h a w rl)
def vZ{p:Prop}{inst:Decidable p}{x:Code}(hc:aD fr c=some (.bool (@decide p inst)))(h1:p->St C n fr own G (x.wp P Q))(h2: ¬p->St C n fr own G (y.wp P Q)):
  St C n fr own G ((Code.cond c x y).wp P Q):=
 fun a w rl=>wp_cond_split (bC rl.fr hc) (fun h=>h1 (of_decide_eq_true h) a w rl) (fun h=>h2 (of_decide_eq_false h) a w rl)
def Vp{b:Bool}{x:Code}(hc:aD fr c=some (.bool b))(h1:b=true->St C n fr own G (x.wp P Q))(h2:b=false->St C n fr own G (y.wp P Q)):
  St C n fr own G ((Code.cond c x y).wp P Q):=
 fun a w rl=>wp_cond_split (bC rl.fr hc) (fun h=>h1 h a w rl) (fun h=>h2 h a w rl)
def aFN(d:Nat){b:Bool}(hl:iI fr d=some (.bool b))(h1:b=true->St C n ((d, .bool true)::fr) own G Φ)(h2:b=false->St C n ((d, .bool false)::fr) own G Φ):St C n fr own G Φ:=by
 intro a w rl
 cases b with
 |true=>exact h1 J a w ⟨rl.h,rl.sz,fun k v hk=>by
   rw[wJ] at hk;split at hk
   .subst_vars;cases hk;exact rl.fr _ _ hl
   .exact rl.fr _ _ hk,rl.df⟩
 |false=>exact h2 J a w ⟨rl.h,rl.sz,fun k v hk=>by
   rw[wJ] at hk;split at hk
   .subst_vars;cases hk;exact rl.fr _ _ hl
   .exact rl.fr _ _ hk,rl.df⟩
def zm(d:Nat){p:Prop}{inst:Decidable p}(hl:iI fr d=some (.bool (@decide p inst)))(h1:p->St C n ((d, .bool true)::fr) own G Φ)(h2: ¬p->St C n ((d, .bool false)::fr) own G Φ):St C n fr own G Φ:=
 aFN d hl (fun h=>h1 (of_decide_eq_true h)) (fun h=>h2 (of_decide_eq_false h))
def vi(fr' fr:Fr):Prop:= ∀k v,iI fr' k=some v->iI fr k=some v
def vi.nil:vi [] fr:=fun _ _ h=>by cases h
def vi.cons{fr':Fr}{k:Nat}{v:Value}(h:iI fr k=some v)(t:vi fr' fr):vi ((k,v)::fr') fr:=fun j u hj=>by
 rw[wJ] at hj;split at hj
 .subst_vars;cases hj;exact h
 .exact t _ _ hj
def aB8(fr':Fr)(hle:vi fr' fr)(h:St C n fr' own G Φ):St C n fr own G Φ:=
 fun a w rl=>h a w ⟨rl.h,rl.sz,fun k v hk=>rl.fr _ _ (hle _ _ hk),rl.df⟩
end
class i7 (own:List aB) (b:Nat) (cs:outParam (List Value)) (ty:outParam TypeId) (lo:outParam Bool):Prop where
 mem:⟨b,cs,ty,lo⟩∈own
instance i7.i1 (b:Nat) (cs:List Value) (ty:TypeId) (lo:Bool) (t:List aB):i7 (⟨b,cs,ty,lo⟩::t) b cs ty lo:=⟨aZ⟩
instance i7.i2 (o:aB) (t:List aB) (b:Nat) (cs:List Value) (ty:TypeId) (lo:Bool) [h:i7 t b cs ty lo]:i7 (o::t) b cs ty lo:=⟨aJ _ h.mem⟩
inductive iq:List aB->Nat->List Value->TypeId->Bool->List Value->List aB->Prop
 |hd (b:Nat) (cs cs':List Value) (ty:TypeId) (lo:Bool) (t:List aB):iq (⟨b,cs,ty,lo⟩::t) b cs ty lo cs' (⟨b,cs',ty,lo⟩::t)
 |tl (o:aB) (t t':List aB) (b:Nat) (cs cs':List Value) (ty:TypeId) (lo:Bool) (h:iq t b cs ty lo cs' t'):iq (o::t) b cs ty lo cs' (o::t')
inductive jE:List aB->aB->List aB->Prop
 |hd (o:aB) (t:List aB):jE (o::t) o t
 |tl (x:aB) (t t':List aB) (o:aB) (h:jE t o t'):jE (x::t) o (x::t')
class GE (A:outParam Gh) (B:Gh):Prop where le:bI A B
class GL (A B:Gh):Prop where le:bI A B
instance GL.refl (A:Gh):GL A A:=⟨bI.refl A⟩
instance GL.step (A B C:Gh) [h:GE B C] [k:GL A B]:GL A C:=⟨k.le.trans h.le⟩
class vd (G:outParam Gh) (b:Nat) (cs:outParam (List Value)):Prop where h:G b=some cs
def cw:List Value->Nat->Nat->Option (List Value)
 |_,0,0=>some []
 |[],0,_+1=>none
 |v::t,0,k+1=>match cw t 0 k with|some l=>some (v::l)|none=>none
 |[],_+1,_=>none
 |_::t,off+1,k=>cw t off k
def cH:List Value->Nat->List Value->List Value
 |cs,_,[]=>cs
 |cs,off,v::vs=>cH (cs.set off v) (off+1) vs
def rI: ∀(cs:List Value) (off k:Nat) (l:List Value),cw cs off k=some l->l.length=k/\ ∀i,i<k->cs[off+i]? =l[i]?
 |cs,0,0,l,h=>by
  cases cs<;>(simp only[cw] at h;cases h;exact⟨J,fun i hi=>absurd hi (pU _)⟩)
 |[],0,_+1,l,h=>by simp[cw] at h
 |v::t,0,k+1,l,h=>by
  simp only[cw] at h;split at h
  .rename_i l' hl'
   cases h
   obtain⟨h1,h2⟩:=rI t 0 k l' hl';refine⟨by simp[h1],fun i hi=>?_⟩
   cases i with
   |zero=>rfl
   |succ i=>
    have:=h2 i we;simpa using this
  .cases h
 |[],_+1,_,l,h=>by simp[cw] at h
 |_::t,off+1,k,l,h=>by
  simp only[cw] at h;obtain⟨h1,h2⟩:=rI t off k l h;refine⟨h1,fun i hi=>?_⟩;have:=h2 i hi;rw[<-this,show off+1+i=(off+i)+1 by omega];rfl
class ll (P:Program) (t:TypeId) (k:outParam Nat):Prop where
 agg: ∀w,(isAgg t).run P w= .ok true w
 siz: ∀w,(sizeOf t).run P w= .ok k w
class kC (P:Program) (t:TypeId):Prop where
 agg: ∀w,(isAgg t).run P w= .ok false w
 siz: ∀w,(sizeOf t).run P w= .ok 1 w
class gv (P:Program) (t:TypeId) (z:outParam Value):Prop where
 inf:(P.info? t).map (·.zero)=some (some z)
class lx (P:Program) (t:TypeId) (f:Nat) (off:outParam Nat):Prop where
 at_: ∀(b o:Nat) w,(Instr.fieldAt t (.pointer (some ⟨b,o,none⟩)) f).run P w= .ok (.pointer (some (Addr.add ⟨b,o,none⟩ off))) w
class cD (P:Program) (t:TypeId) (e s by_:outParam Nat):Prop where
 un:P.underlying t=some (.slice e)
 inf:(P.info? e).map (fun i=>(i.size,i.bytes))=some (s,by_)
def gv.info{P:Program}{t:TypeId}{z:Value}(h:gv P t z): ∃i,P.info? t=some i/\i.zero=some z:=by
 have:=h.inf
 cases hi:P.info? t with
 |none=>rw[hi] at this;cases this
 |some i=>rw[hi] at this;exact⟨i,J,by simpa using this⟩
def cD.info{P:Program}{t e s by_:Nat}(h:cD P t e s by_): ∃i,P.info? e=some i/\i.size=s/\i.bytes=by_:=by
 have:=h.inf
 cases hi:P.info? e with
 |none=>rw[hi] at this;cases this
 |some i=>rw[hi] at this;simp at this;exact⟨i,J,this.1,this.2⟩
def tk(b o n:Nat):Addr.add ⟨b,o,none⟩ n=⟨b,o+n,none⟩:=by
 unfold Addr.add;split
 .subst_vars;rfl
 .rfl
def Sem.run_bind(P:Program)(x:Sem α)(f:α->Sem β): ∀(w:World),(x>>=f).run P w=match x.run P w with| .ok a w'=>(f a).run P w'| .halt h w'=> .halt h w':=by
 show∀w,(Sem.bind x f).run P w=_
 induction x with
 |pure a=>intro w;rfl
 |load m a k ih=>
  intro w;simp only[Sem.bind,Sem.run];split
  .exact ih _ w
  .split
   .exact ih _ w
   .rfl
 |store m a v k ih=>
  intro w
  cases v<;>simp only[Sem.bind,Sem.run]<;>(try rfl)<;>(split<;>first|(split<;>first|rfl|exact ih _)|rfl)
 |new o k ih=>intro w;exact ih _ _
 |shape r k ih=>intro w;exact ih _ _
 |freeze a n k ih=>intro w;exact ih _
 |frozen a k ih=>intro w;exact ih _ _
 |getObj r k ih=>
  intro w;simp only[Sem.bind,Sem.run];split
  .rfl
  .exact ih _ w
  .rfl
 |setObj r o k ih=>
  intro w;simp only[Sem.bind,Sem.run];split
  .rfl
  .exact ih _
  .rfl
 |choose q k ih=>
  intro w;simp only[Sem.bind,Sem.run];split
  .exact ih _ _
  .exact ih _ _
 |sys c k ih=>intro w;exact ih _ _
 |program k ih=>intro w;exact ih _ _
 |mark m k ih=>intro w;exact ih _
 |halt h=>intro w;rfl
def run_pure(P:Program)(a:α)(w:World):(pure a:Sem α).run P w= .ok a w:=rfl
def aP{x:Sem α}{f:α->Sem β}{a:α}(h:x.run P w= .ok a w'):(x>>=f).run P w=(f a).run P w':=by
 rw[Sem.run_bind,h]
def gv.zero{z:Value}(h:gv P t z)(w:World):(zeroValue t).run P w= .ok z w:=by
 obtain⟨i,h1,h2⟩:=h.info;simp[zeroValue,typeInfo,program,Sem.run_bind,Sem.run,h1,h2,run_pure]
def cD.u{t:Nat}(h:cD P t e s by_)(w:World):(underlying t).run P w= .ok (.slice e) w:=by
 simp[underlying,program,Sem.run_bind,Sem.run,h.un,run_pure]
def cD.siz{t:Nat}(h:cD P t e s by_)(w:World):(sizeOf e).run P w= .ok s w:=by
 obtain⟨i,h1,h2,_⟩:=h.info;simp[sizeOf,typeInfo,program,Sem.run_bind,Sem.run,h1,h2,run_pure]
section
variable {fr:Fr}{own:List aB}
def DG{b:Nat}{cs:List Value}{ty:TypeId}{fz:Nat×Nat}(h:w.heap[b]? =some (.cells ⟨cs⟩ ty fz))(i:Nat):w.cell? ⟨b,i,none⟩=cs[i]? :=by
 simp[World.cell?,h]
def S'{a:Addr}(h:w.cell? a=some v):(load a).run P w= .ok v w:=by
 simp[load,Sem.run,h]
def Gw{w:World}{b off:Nat}{l:List Value}: ∀(m i:Nat) (acc:Array Value),(∀j,j<m->w.cell? ⟨b,off+(i+j),none⟩=l[i+j]?)->i+m<=l.length->
  (loadCellsFrom ⟨b,off,none⟩ i m acc).run P w= .ok (acc++((l.drop i).take m).toArray) w
 |0,i,acc,_,_=>by simp[loadCellsFrom,run_pure]
 |m+1,i,acc,h,hl=>by
  have h0:=h 0 we;rw[gK,aQ we] at h0;unfold loadCellsFrom;rw[aP (a:=l[i]) (w':=w) (by rw[tk];exact S' h0)];rw[Gw m (i+1) (acc.push l[i]) (fun j hj=>by have:=h (j+1) we;rw[show i+1+j=i+(j+1) by omega];exact this) we];congr 1;rw[bK (by omega:i<l.length),oU];apply Array.ext';simp
def GG{b k:Nat}{cs:List Value}[ht:ll P t k]{ty:TypeId}{fz:Nat×Nat}(h:w.heap[b]? =some (.cells ⟨cs⟩ ty fz))(hl:cw cs off k=some l):
  (loadVar t ⟨b,off,none⟩).run P w= .ok (.agg ⟨l⟩) w:=by
 obtain⟨h1,h2⟩:=rI _ _ _ _ hl;unfold loadVar;rw[aP (ht.agg w)];simp only[if_true];rw[aP (ht.siz w)];unfold loadCells;rw[aP (Gw (l:=l) k 0 #[] (fun j hj=>by rw[DG h];simpa using h2 j hj) we)];simp[run_pure,<-h1]
def IZ{b:Nat}{cs:List Value}[ht:kC P t]{ty:TypeId}{fz:Nat×Nat}(h:w.heap[b]? =some (.cells ⟨cs⟩ ty fz))(hl:cs[off]? =some v):
  (loadVar t ⟨b,off,none⟩).run P w= .ok v w:=by
 unfold loadVar;rw[aP (ht.agg w)];simp only[lQ,if_false];exact S' (by rw[DG h];exact hl)
def c7{f:α->Next}{s:Sem α}{a:α}(h:s.run P w= .ok a w'):(do pure (f (<-s)):Sem Next).run P w= .ok (f a) w':=by
 rw[aP h];rfl
def Dw{gd:Option (Nat×Bool)}{b k:Nat}{cs:List Value}{lo:Bool}{ty:TypeId}
  (hx:aD fr x=some (.pointer (some ⟨b,off,none⟩)))[ho:i7 own b cs ty lo][ll P t k](hl:cw cs off k=some l):
  Yd P C fr own G ⟨dst, .load t x,ty',pos,af,gd⟩ (.agg ⟨l⟩):=by
 intro a w hf hh;simp only[execOp,bC hf hx,Instr.loadAt,Instr.sureAddr];exact c7 (GG (hh.hown _ ho.mem).1 hl)
def pk{gd:Option (Nat×Bool)}{b:Nat}{cs:List Value}{lo:Bool}{ty:TypeId}
  (hx:aD fr x=some (.pointer (some ⟨b,off,none⟩)))[ho:i7 own b cs ty lo][kC P t](hl:cs[off]? =some v):
  Yd P C fr own G ⟨dst, .load t x,ty',pos,af,gd⟩ v:=by
 intro a w hf hh;simp only[execOp,bC hf hx,Instr.loadAt,Instr.sureAddr];exact c7 (IZ (hh.hown _ ho.mem).1 hl)
def CL{gd:Option (Nat×Bool)}{b k:Nat}{cs:List Value}
  (hx:aD fr x=some (.pointer (some ⟨b,off,none⟩)))(hg:G b=some cs)[ll P t k](hl:cw cs off k=some l):
  Yd P C fr own G ⟨dst, .load t x,ty',pos,af,gd⟩ (.agg ⟨l⟩):=by
 intro a w hf hh;obtain⟨ty,fz,hb⟩:=hh.sub _ _ hg;simp only[execOp,bC hf hx,Instr.loadAt,Instr.sureAddr];exact c7 (GG hb hl)
def si{gd:Option (Nat×Bool)}{b:Nat}{cs:List Value}
  (hx:aD fr x=some (.pointer (some ⟨b,off,none⟩)))(hg:G b=some cs)[kC P t](hl:cs[off]? =some v):
  Yd P C fr own G ⟨dst, .load t x,ty',pos,af,gd⟩ v:=by
 intro a w hf hh;obtain⟨ty,fz,hb⟩:=hh.sub _ _ hg;simp only[execOp,bC hf hx,Instr.loadAt,Instr.sureAddr];exact c7 (IZ hb hl)
variable {gd:Option (Nat×Bool)}{y:Operand}
def mv(hx:aD fr x=some v):Yd P C fr own G ⟨dst, .move x,ty',pos,af,gd⟩ v:=by
 intro a w hf hh;simp only[execOp,bC hf hx];rfl
def Lp(hx:aD fr x=some v):Yd P C fr own G ⟨dst, .assign x,ty',pos,af,gd⟩ v:=by
 intro a w hf hh;simp only[execOp,bC hf hx];rfl
def Df(hc:aD fr z=some (.bool true))(hx:aD fr x=some v):Yd P C fr own G ⟨dst, .pick z x y,ty',pos,af,gd⟩ v:=by
 intro a w hf hh;simp only[execOp,bC hf hc,bC hf hx,asBool];rfl
def s5(hc:aD fr z=some (.bool false))(hx:aD fr y=some v):Yd P C fr own G ⟨dst, .pick z x y,ty',pos,af,gd⟩ v:=by
 intro a w hf hh;simp only[execOp,bC hf hc,bC hf hx,asBool];rfl
def oc{ad:Addr}(hx:aD fr x=some (.pointer (some ad))):Yd P C fr own G ⟨dst, .nilCheck x,ty',pos,af,gd⟩ (.pointer (some ad)):=by
 intro a w hf hh;simp only[execOp,bC hf hx];rfl
def tH{b o:Nat}[hF:lx P t f off](hx:aD fr x=some (.pointer (some ⟨b,o,none⟩))):
  Yd P C fr own G ⟨dst, .fieldAddr t x f,ty',pos,af,gd⟩ (.pointer (some ⟨b,o+off,none⟩)):=by
 intro a w hf hh;simp only[execOp,bC hf hx];have:=hF.at_ b o w;rw[tk] at this;exact c7 this
def xk{vs:Array Value}(hx:aD fr x=some (.tuple vs))(hv:vs[i]? =some v):Yd P C fr own G ⟨dst, .extract x i,ty',pos,af,gd⟩ v:=by
 intro a w hf hh;simp only[execOp,bC hf hx,Instr.extract,hv];rfl
def Gs{fn:Fn}{c1 c2:Array Operand}(h1:c1.toList.mapM (aD fr)=some l1)(h2:c2.toList.mapM (aD fr)=some l2):
  Yd P C fr own G ⟨dst, .makeFunc fn c1 c2,ty',pos,af,gd⟩ (.func fn ⟨l1⟩ ⟨l2⟩):=by
 intro a w hf hh;have key: ∀(l:List Operand) (m:List Value),l.mapM (aD fr)=some m->l.map a.eval=m:=by
  intro l
  induction l with
  |nil=>intro m h;simp at h;subst h;rfl
  |cons o t ih=>
   intro m h;rw[rR] at h
   cases ho:aD fr o with
   |none=>simp[ho] at h
   |some u=>
    cases ht:t.mapM (aD fr) with
    |none=>simp[ho,ht] at h
    |some m'=>
     simp[ho,ht] at h;subst h;simp[bC hf ho,ih _ ht]
 have e1:c1.map a.eval=⟨l1⟩:=by apply Array.ext';simpa using key _ _ h1
 have e2:c2.map a.eval=⟨l2⟩:=by apply Array.ext';simpa using key _ _ h2
 simp only[execOp,e1,e2];rfl
def ly{op:BinOp}(hx:aD fr x=some (.int k p))(hy:aD fr y=some (.int k q))(hs: ∀w,(binOp op t (.int k p) (.int k q)).run P w= .ok v w):
  Yd P C fr own G ⟨dst, .binOp op t x y t',ty',pos,af,gd⟩ v:=by
 intro a w hf hh;simp only[execOp,bC hf hx,bC hf hy];have:(eqGuard op t x y (.int k p) (.int k q)).run P w= .ok () w:=by cases op<;>rfl
 exact c7 (by rw[aP this];exact hs w)
def avR(k:IntKind)(p q:Int)(w:World):(binOp .add t (.int k p) (.int k q)).run P w= .ok (.int k (k.wrap (p+q))) w:=by simp[binOp,Op.intArith,run_pure]
def N0(k:IntKind)(p q:Int)(w:World):(binOp .sub t (.int k p) (.int k q)).run P w= .ok (.int k (k.wrap (p-q))) w:=by simp[binOp,Op.intArith,run_pure]
def axq(k:IntKind)(p q:Int)(w:World):(binOp .mul t (.int k p) (.int k q)).run P w= .ok (.int k (k.wrap (p*q))) w:=by simp[binOp,Op.intArith,run_pure]
def axR(k:IntKind)(p q:Int)(w:World)(h:q≠0):(binOp .quo t (.int k p) (.int k q)).run P w= .ok (.int k (k.wrap (p.tdiv q))) w:=by simp[binOp,Op.intDiv,run_pure,h]
def avK(k:IntKind)(p q:Int)(w:World)(h:q≠0):(binOp .rem t (.int k p) (.int k q)).run P w= .ok (.int k (p.tmod q)) w:=by simp[binOp,Op.intDiv,run_pure,h]
def axh(k:IntKind)(p q:Int)(w:World):(binOp .lss t (.int k p) (.int k q)).run P w= .ok (.bool (decide (p<q))) w:=by simp[binOp,Op.intCmp,run_pure]
def awC(k:IntKind)(p q:Int)(w:World):(binOp .leq t (.int k p) (.int k q)).run P w= .ok (.bool (decide (p<=q))) w:=by simp[binOp,Op.intCmp,run_pure]
def WY(k:IntKind)(p q:Int)(w:World):(binOp .gtr t (.int k p) (.int k q)).run P w= .ok (.bool (decide (q<p))) w:=by simp[binOp,Op.intCmp,run_pure]
def Xt(k:IntKind)(p q:Int)(w:World):(binOp .geq t (.int k p) (.int k q)).run P w= .ok (.bool (decide (q<=p))) w:=by simp[binOp,Op.intCmp,run_pure]
def axj(k:IntKind)(p q:Int)(w:World):(binOp .eql t (.int k p) (.int k q)).run P w= .ok (.bool (decide (p=q))) w:=by
 have:(p==q)=decide (p=q):=by rw[rZ];simp
 simp[binOp,Op.intCmp,run_pure,this]
def Yu(k:IntKind)(p q:Int)(w:World):(binOp .neq t (.int k p) (.int k q)).run P w= .ok (.bool (decide (p≠q))) w:=by
 have:(p !=q)=decide (p≠q):=by rw[rZ];simp
 simp[binOp,Op.intCmp,run_pure,this]
def uE(h:k.min<=p/\p<=k.max):k.wrap p=p:=by
 cases k<;>simp only[IntKind.min,IntKind.max,IntKind.wrap,IntKind.bits,IntKind.signed] at* <;>simp at h⊢ <;>(try split)<;>omega
def S4(hx:aD fr x=some (.int k p))(hy:aD fr y=some (.int k q))(h:k.min<=p+q/\p+q<=k.max):Yd P C fr own G ⟨dst, .binOp .add t x y t',ty',pos,af,gd⟩ (.int k (p+q)):=
 ly hx hy fun w=>by rw[avR,uE h]
def My(hx:aD fr x=some (.int k p))(hy:aD fr y=some (.int k q))(h:k.min<=p-q/\p-q<=k.max):Yd P C fr own G ⟨dst, .binOp .sub t x y t',ty',pos,af,gd⟩ (.int k (p-q)):=
 ly hx hy fun w=>by rw[N0,uE h]
def aIC(hx:aD fr x=some (.int k p))(hy:aD fr y=some (.int k q))(h:k.min<=p*q/\p*q<=k.max):Yd P C fr own G ⟨dst, .binOp .mul t x y t',ty',pos,af,gd⟩ (.int k (p*q)):=
 ly hx hy fun w=>by rw[axq,uE h]
def Y4(hx:aD fr x=some (.int k p))(hy:aD fr y=some (.int k q)):Yd P C fr own G ⟨dst, .binOp .sub t x y t',ty',pos,af,gd⟩ (.int k (k.wrap (p-q))):=ly hx hy fun w=>N0 k p q w
def OW(hx:aD fr x=some (.int k p))(hy:aD fr y=some (.int k q))(h:q≠0):Yd P C fr own G ⟨dst, .binOp .quo t x y t',ty',pos,af,gd⟩ (.int k (k.wrap (p.tdiv q))):=ly hx hy fun w=>axR k p q w h
def U2(hx:aD fr x=some (.int k p))(hy:aD fr y=some (.int k q))(h:q≠0):Yd P C fr own G ⟨dst, .binOp .rem t x y t',ty',pos,af,gd⟩ (.int k (p.tmod q)):=ly hx hy fun w=>avK k p q w h
def EO(hx:aD fr x=some (.int k p))(hy:aD fr y=some (.int k q)):Yd P C fr own G ⟨dst, .binOp .lss t x y t',ty',pos,af,gd⟩ (.bool (decide (p<q))):=ly hx hy fun w=>axh k p q w
def Vv(hx:aD fr x=some (.int k p))(hy:aD fr y=some (.int k q)):Yd P C fr own G ⟨dst, .binOp .leq t x y t',ty',pos,af,gd⟩ (.bool (decide (p<=q))):=ly hx hy fun w=>awC k p q w
def AQ(hx:aD fr x=some (.int k p))(hy:aD fr y=some (.int k q)):Yd P C fr own G ⟨dst, .binOp .gtr t x y t',ty',pos,af,gd⟩ (.bool (decide (q<p))):=ly hx hy fun w=>WY k p q w
def Jb(hx:aD fr x=some (.int k p))(hy:aD fr y=some (.int k q)):Yd P C fr own G ⟨dst, .binOp .geq t x y t',ty',pos,af,gd⟩ (.bool (decide (q<=p))):=ly hx hy fun w=>Xt k p q w
def mH(hx:aD fr x=some (.int k p))(hy:aD fr y=some (.int k q)):Yd P C fr own G ⟨dst, .binOp .eql t x y t',ty',pos,af,gd⟩ (.bool (decide (p=q))):=ly hx hy fun w=>axj k p q w
def TB(hx:aD fr x=some (.int k p))(hy:aD fr y=some (.int k q)):Yd P C fr own G ⟨dst, .binOp .neq t x y t',ty',pos,af,gd⟩ (.bool (decide (p≠q))):=ly hx hy fun w=>Yu k p q w
def vQ[hT:cD P t e s by_](hx:aD fr x=some (.slice ad len cap)):
  Yd P C fr own G ⟨dst, .call ⟨.builtin .len, #[x], #[t]⟩,ty',pos,af,gd⟩ (.int .i64 len):=by
 intro a w hf hh;simp only[execOp,resolve,iN,bV,iU,bC hf hx];have h1:(Builtin.len_ #[t] ty' #[.slice ad len cap]).run P w= .ok (.int .i64 len) w:=by
  simp only[Builtin.len_];show(underlying t>>=_).run P w=_;rw[aP (hT.u w)];rfl
 exact c7 h1
def xW[hT:cD P t e s by_]{b:Nat}{i:Int}(hx:aD fr x=some (.slice (some ⟨b,off,none⟩) len cap))(hy:aD fr y=some (.int k i))(h0:0<=i:=by omega)(h1:i<len:=by omega):
  Yd P C fr own G ⟨dst, .indexAddr t x y,ty',pos,af,gd⟩ (.pointer (some ⟨b,off+i.toNat*s,none⟩)):=by
 intro a w hf hh;simp only[execOp,bC hf hx,bC hf hy];have:(Instr.indexAt t (.slice (some ⟨b,off,none⟩) len cap) (.int k i)).run P w= .ok (.pointer (some ⟨b,off+i.toNat*s,none⟩)) w:=by
  unfold Instr.indexAt;show(underlying t>>=_).run P w=_;rw[aP (hT.u w)];show(underlying t>>=_).run P w=_;rw[aP (hT.u w)];simp only[h0,h1,and_self,if_true];show(sizeOf e>>=_).run P w=_;rw[aP (hT.siz w),tk];rfl
 exact c7 this
def z6{v:Int}{c:BoundsCode}(w:World)(h0:0<=v)(h1:v<=m):(Instr.sliceBound (.int k v) m c).run P w= .ok v.toNat w:=by
 unfold Instr.sliceBound;simp[asIntOf,h0,h1,run_pure]
def oo(ad:Option Addr)(len cap lo hi mx s:Nat):Value:= .slice (if mx=lo then ad else ad.map (·.add (lo*s))) (hi-lo) (mx-lo)
def At[hT:cD P t e s by_](w:World){lo hi mx:Option Value}{l h:Nat}(hb: ∀w,(Instr.sliceBounds true len cap lo hi mx).run P w= .ok (l,h,m) w):
  (Instr.sliceAt t (.slice ad len cap) lo hi mx).run P w= .ok (oo ad len cap l h m s) w:=by
 unfold Instr.sliceAt;rw[aP (hT.u w)];show(Instr.slice t (.slice ad len cap) lo hi mx).run P w=_;unfold Instr.slice;rw[aP (hT.u w)];show(Instr.sliceBounds true len cap lo hi mx>>=_).run P w=_;rw[aP (hb w)];show(sizeOf e>>=_).run P w=_;rw[aP (hT.siz w)];rfl
def Eo[hT:cD P t e s by_]{h:Int}(hx:aD fr x=some (.slice ad len cap))(hy:aD fr y=some (.int k h))(h0:0<=h:=by omega)(h1:h<=cap:=by omega):
  Yd P C fr own G ⟨dst, .slice t x none (some y) none,ty',pos,af,gd⟩ (.slice ad h.toNat cap):=by
 intro a w hf hh;simp only[execOp,bC hf hx,bC hf hy,rX,lM];have:=At (P:=P) (t:=t) (ad:=ad) (len:=len) (cap:=cap) w (lo:=none) (hi:=some (.int k h)) (mx:=none) (l:=0) (h:=h.toNat) (m:=cap) (fun w=>by
  simp[Instr.sliceBounds,z6 w h0 h1,Result.andThen])
 have e2:oo ad len cap 0 h.toNat cap s= .slice ad h.toNat cap:=by
  unfold oo
  cases ad with
  |none=>simp
  |some ad=>simp[Addr.add]
 rw[<-e2];exact c7 this
def K0[hT:cD P t e s by_]{l:Int}(hx:aD fr x=some (.slice ad len cap))(hy:aD fr y=some (.int k l))(h0:0<=l:=by omega)(h1:l<=len:=by omega):
  Yd P C fr own G ⟨dst, .slice t x (some y) none none,ty',pos,af,gd⟩ (oo ad len cap l.toNat len cap s):=by
 intro a w hf hh;simp only[execOp,bC hf hx,bC hf hy,rX,lM];exact c7 (At (P:=P) (t:=t) (ad:=ad) (len:=len) (cap:=cap) w (lo:=some (.int k l)) (hi:=none) (mx:=none) (fun w=>by
  simp[Instr.sliceBounds,z6 w h0 h1,Result.andThen]))
def Y1[hT:cD P t e s by_]{l h:Int}(hx:aD fr x=some (.slice ad len cap))(hy:aD fr y=some (.int k l))(hz:aD fr z=some (.int k' h))(h0:0<=l)(h1:l<=h)(h2:h<=cap):
  Yd P C fr own G ⟨dst, .slice t x (some y) (some z) none,ty',pos,af,gd⟩ (oo ad len cap l.toNat h.toNat cap s):=by
 intro a w hf hh;simp only[execOp,bC hf hx,bC hf hy,bC hf hz,rX,lM];exact c7 (At (P:=P) (t:=t) (ad:=ad) (len:=len) (cap:=cap) w (lo:=some (.int k l)) (hi:=some (.int k' h)) (mx:=none) (fun w=>by
  have h1':l<=(h.toNat:Int):=by omega
  simp[Instr.sliceBounds,z6 w (Int.le_trans h0 h1) h2,z6 w h0 h1',Result.andThen]))
def atZ[hT:cD P t e s by_]{h m:Int}(hx:aD fr x=some (.slice ad len cap))(hy:aD fr y=some (.int k h))(hz:aD fr z=some (.int k' m))(h0:0<=h)(h1:h<=m)(h2:m<=cap):
  Yd P C fr own G ⟨dst, .slice t x none (some y) (some z),ty',pos,af,gd⟩ (.slice ad h.toNat m.toNat):=by
 intro a w hf hh;simp only[execOp,bC hf hx,bC hf hy,bC hf hz,rX,lM];have:=At (P:=P) (t:=t) (ad:=ad) (len:=len) (cap:=cap) w (lo:=none) (hi:=some (.int k h)) (mx:=some (.int k' m)) (l:=0) (h:=h.toNat) (m:=m.toNat) (fun w=>by
  have h1':h<=(m.toNat:Int):=by omega
  simp[Instr.sliceBounds,z6 w (Int.le_trans h0 h1) h2,z6 w h0 h1',Result.andThen])
 have e2:oo ad len cap 0 h.toNat m.toNat s= .slice ad h.toNat m.toNat:=by
  unfold oo
  cases ad with
  |none=>simp
  |some ad=>simp[Addr.add]
 rw[<-e2];exact c7 this
class xC (P:Program) (t:TypeId) (k:outParam IntKind):Prop where u: ∀w,(underlying t).run P w= .ok (.int k) w
def CG[hs:xC P t k][hd:xC P t' k'](hx:aD fr x=some (.int k p)):Yd P C fr own G ⟨dst, .convert t t' x,ty',pos,af,gd⟩ (.int k' (k'.wrap p)):=by
 intro a w hf hh;simp only[execOp,bC hf hx];have:(convert t t' (.int k p)).run P w= .ok (.int k' (k'.wrap p)) w:=by
  unfold convert;rw[aP (hs.u w),aP (hd.u w)];rfl
 exact c7 this
def aAM[hs:xC P t k][hd:xC P t' k'](hx:aD fr x=some (.int k p))(h:k'.min<=p/\p<=k'.max):Yd P C fr own G ⟨dst, .convert t t' x,ty',pos,af,gd⟩ (.int k' p):=by
 have:=CG (P:=P) (C:=C) (own:=own) (G:=G) (dst:=dst) (ty':=ty') (pos:=pos) (af:=af) (gd:=gd) (t:=t) (t':=t') hx;rwa [uE h] at this
def uh{b:Bool}(hx:aD fr x=some (.bool b)):Yd P C fr own G ⟨dst, .unOp .not t x,ty',pos,af,gd⟩ (.bool (!b)):=by
 intro a w hf hh;simp only[execOp,bC hf hx,Op.unary];rfl
def LC(hx:aD fr x=some (.int k p)):Yd P C fr own G ⟨dst, .unOp .neg t x,ty',pos,af,gd⟩ (.int k (k.wrap (0-p))):=by
 intro a w hf hh;simp only[execOp,bC hf hx,Op.unary,Op.intArith];rfl
end
def iO{b:Nat}{o:Obj}(h:w.heap[b]? =some o):b<w.heap.size:=by
 rcases gN b w.heap.size with h'|h'
 .exact h'
 .simp[pX h'] at h
def bH.gnone{own:List aB}(h:bH C own G w){b:Nat}(hb:w.heap.size<=b):G b=none:=by
 cases hG:G b with
 |none=>rfl
 |some cs=>
  obtain⟨ty,fz,hc⟩:=h.sub b cs hG;have:=iO hc;omega
def bH.alloc{C:aF}{own:List aB}{G:Gh}{w:World}(h:bH C own G w)(cs:List Value)(ty:TypeId):
  bH C (⟨w.heap.size,cs,ty,true⟩::own) G (w.alloc (.cells ⟨cs⟩ ty)):=by
 have old: ∀b,b<w.heap.size->(w.alloc (.cells ⟨cs⟩ ty)).heap[b]? =w.heap[b]? :=fun b hb=>RowKit.Below.heap_alloc _ _ _ hb;refine⟨h.os,h.tape,h.output,?_,?_,?_,h.gle,h.gold,?_,?_,h.dr,fun p hp=>⟨(h.ext p hp).1,by rw[old _ (iO (h.ext p hp).2)];exact(h.ext p hp).2⟩⟩
 .have:=h.size;simp;omega
 .intro b hb hm;rw[old b (by have:=h.size;omega)];exact h.keep b hb hm
 .intro b cs' hb
  obtain⟨ty',fz,hc⟩:=h.sub b cs' hb;exact⟨ty',fz,by rw[old b (iO hc)];exact hc⟩
 .intro o ho
  rcases aW.1 ho with rfl|ho
  .refine⟨by show(w.heap.push _)[w.heap.size]? =_;simp,h.gnone (bJ _),fun _=>h.size,fun e=>by cases e⟩
  .obtain⟨h1,h2⟩:=h.hown o ho
   exact⟨by rw[old _ (iO h1)];exact h1,h2⟩
 .refine List.Pairwise.cons ?_ h.nd
  intro o ho;have:=iO (h.hown o ho).1;show w.heap.size≠o.b;omega
def ig(w:World)(b:Nat)(o:Obj):World:={w with heap:=w.heap.setIfInBounds b o}
def EN{l:List aB}:l.Pairwise (fun x y=>x.b≠y.b)↔(l.map (·.b)).Pairwise (· ≠ ·):=by rw[List.pairwise_map]
def iq.spec{own:List aB}{b:Nat}{cs:List Value}{ty:TypeId}{lo:Bool}(h:iq own b cs ty lo cs' own')(nd:own.Pairwise (fun x y=>x.b≠y.b)):
  ⟨b,cs,ty,lo⟩∈own/\(∀o,o∈own'->o=⟨b,cs',ty,lo⟩\/(o∈own/\o.b≠b))/\own'.map (·.b)=own.map (·.b):=by
 induction h with
 |hd b cs cs' ty lo t=>
  refine⟨aZ,fun o ho=>?_,J⟩;rcases aW.1 ho with rfl|h
  .exact .inl J
  .exact .inr ⟨aJ _ h,Ne.symm ((bY.1 nd).1 _ h)⟩
 |tl o t t' b cs cs' ty lo h ih=>
  obtain⟨h1,h2,h3⟩:=ih (bY.1 nd).2;refine⟨aJ _ h1,fun x hx=>?_,by simp[h3]⟩;rcases aW.1 hx with rfl|hx
  .exact .inr ⟨aZ,(bY.1 nd).1 _ h1⟩
  .exact(h2 x hx).imp id (fun k=>⟨aJ _ k.1,k.2⟩)
def Er{b k:Nat}{o:Obj}(hk:k≠b):(ig w b o).heap[k]? =w.heap[k]? :=by
 simp only[ig];rw[eJ];simp[Ne.symm hk]
def Us{b:Nat}{o:Obj}(hb:b<w.heap.size):(ig w b o).heap[b]? =some o:=by
 simp only[ig];rw[eJ];simp[hb]
def bH.extNe{own:List aB}(h:bH C own G w){p:Nat×Obj}(hp:p∈C.ex){b:Nat}{cs:Array Value}{ty:TypeId}{z:Nat×Nat}(hb:w.heap[b]? =some (.cells cs ty z)):p.1≠b:=fun e=>by
 obtain⟨h1,h2⟩:=h.ext p hp;rw[e,hb] at h2;exact h1 _ _ _ (Option.some.inj h2).symm
def bH.extM(h:bH C (M++rest) G w){p:Nat×Obj}(hp:p∈C.ex):p.1∉M.map (·.b):=fun hm=>by
 obtain⟨m,hm,e⟩:=aU.1 hm;exact h.extNe hp (h.hown m (bM _ hm)).1 e.symm
def bH.store{own:List aB}{b:Nat}{cs:List Value}{ty:TypeId}{lo:Bool}(h:bH C own G w)(hu:iq own b cs ty lo cs' own'):
  bH C own' G (ig w b (.cells ⟨cs'⟩ ty (0,0))):=by
 obtain⟨h1,h2,h3⟩:=hu.spec h.nd;obtain⟨hb,hGb,hlo1,hlo2⟩:=h.hown _ h1;have hlt:=iO hb;refine⟨h.os,h.tape,h.output,by simpa[ig] using h.size,?_,?_,h.gle,h.gold,?_,EN.2 (h3▸EN.1 h.nd),h.dr,fun p hp=>⟨(h.ext p hp).1,by rw[Er (h.extNe hp hb)];exact(h.ext p hp).2⟩⟩
 .intro k hk hm
  by_cases hkb:k=b
  .subst hkb
   cases hlo:lo with
   |true=>have h5:=hlo1 hlo;simp only[] at h5;omega
   |false=>exact absurd (hlo2 hlo) hm
  .rw[Er hkb];exact h.keep k hk hm
 .intro k cs1 hk
  obtain⟨ty',fz,hc⟩:=h.sub k cs1 hk;have:k≠b:=fun e=>by subst e;rw[show G k=none from hGb] at hk;cases hk
  exact⟨ty',fz,by rw[Er this];exact hc⟩
 .intro o ho
  rcases h2 o ho with rfl|⟨ho',hne⟩
  .exact⟨Us hlt,hGb,hlo1,hlo2⟩
  .obtain⟨k1,k2⟩:=h.hown o ho'
   exact⟨by rw[Er hne];exact k1,k2⟩
def jE.spec{own:List aB}{o:aB}(h:jE own o own')(nd:own.Pairwise (fun x y=>x.b≠y.b)):
  o∈own/\(∀x,x∈own'->x∈own/\x.b≠o.b)/\own'.Pairwise (fun x y=>x.b≠y.b):=by
 induction h with
 |hd o t=>exact⟨aZ,fun x hx=>⟨aJ _ hx,Ne.symm ((bY.1 nd).1 _ hx)⟩,(bY.1 nd).2⟩
 |tl y t t' o h ih=>
  obtain⟨h1,h2,h3⟩:=ih (bY.1 nd).2;refine⟨aJ _ h1,fun x hx=>?_,List.Pairwise.cons (fun x hx=>(bY.1 nd).1 _ (h2 x hx).1) h3⟩;rcases aW.1 hx with rfl|hx
  .exact⟨aZ,(bY.1 nd).1 _ h1⟩
  .exact⟨aJ _ (h2 x hx).1,(h2 x hx).2⟩
def bH.freeze{own:List aB}{b:Nat}{cs:List Value}{ty:TypeId}(h:bH C own G w)(hr:jE own ⟨b,cs,ty,true⟩ own'):
  bH C own' (fun k=>if k=b then some cs else G k) w/\bI G (fun k=>if k=b then some cs else G k):=by
 obtain⟨h1,h2,h3⟩:=hr.spec h.nd;obtain⟨hb,hGb,hlo,_⟩:=h.hown _ h1;have hle:bI G (fun k=>if k=b then some cs else G k):=fun k c hk=>by
  have:k≠b:=fun e=>by subst e;rw[show G k=none from hGb] at hk;cases hk
  simp[this,hk]
 refine⟨⟨h.os,h.tape,h.output,h.size,h.keep,?_,h.gle.trans hle,?_,?_,h3,h.dr,h.ext⟩,hle⟩
 .intro k c hk
  by_cases e:k=b
  .subst e;simp only[if_true] at hk;cases hk;exact⟨ty,(0,0),hb⟩
  .simp only[e,if_false] at hk;exact h.sub k c hk
 .intro k hk
  have h5:C.w0.heap.size<=b:=hlo J;have:k≠b:=by omega
  simp only[this,if_false];exact h.gold k hk
 .intro o ho
  obtain⟨k1,k2⟩:=h2 o ho;obtain⟨m1,m2,m3⟩:=h.hown o k1;exact⟨m1,by rw[if_neg k2];exact m2,m3⟩
def bH.drop{own:List aB}(h:bH C own G w)(hs:own'.Sublist own):bH C own' G w:=
 ⟨h.os,h.tape,h.output,h.size,h.keep,h.sub,h.gle,h.gold,fun o ho=>h.hown o (hs.subset ho),h.nd.sublist hs,h.dr,h.ext⟩
def bH.perm{own:List aB}(h:bH C own G w)(hs:own.Perm own'):bH C own' G w:=
 ⟨h.os,h.tape,h.output,h.size,h.keep,h.sub,h.gle,h.gold,fun o ho=>h.hown o (hs.mem_iff.2 ho),(hs.pairwise_iff (fun h=>Ne.symm h)).1 h.nd,h.dr,h.ext⟩
def bH.drew{own:List aB}(h:bH C own G w):bH C own G {w with drawn:=w.drawn+1}:=
 ⟨h.os,h.tape,h.output,h.size,h.keep,h.sub,h.gle,h.gold,h.hown,h.nd,Nat.le_succ_of_le h.dr,h.ext⟩
def s6(P:Program)(f:FuncId):Prop:= ∃fn,P.funcs[f]? =some fn/\(fn.name== "runtime.NumGoroutine")=false/\fn.body.isNone=false
def li(M:List aB)(css:List (List Value)):List aB:=(M.zip css).map fun p=>{p.1 with cs:=p.2}
def asB(M:List aB):List aB:=M.map fun o=>{o with lo:=false}
structure Fn (P:Program) (f:FuncId) (vs:List Value) (G:Gh) (K:Value->Gh->Prop):Prop where
 able:s6 P f
 run: ∀w,(∀b cs,G b=some cs-> ∃ty fz,w.heap[b]? =some (.cells ⟨cs⟩ ty fz))->
  Calls P f ⟨vs⟩ w fun e w'=> ∃v G',e= .returned v/\bH ⟨w,G,[],[],[],none,fun _=>none⟩ [] G' w'/\K v G'
structure kG (P:Program) (f:FuncId) (vs:List Value) (M:List aB) (G:Gh) (K:Value->List (List Value)->Gh->Prop):Prop where
 able:s6 P f
 run: ∀w,bH ⟨w,G,M.map (·.b),[],[],none,fun _=>none⟩ (asB M) G w->
  Calls P f ⟨vs⟩ w fun e w'=> ∃v css G',e= .returned v/\css.length=M.length/\bH ⟨w,G,M.map (·.b),[],[],none,fun _=>none⟩ (li (asB M) css) G' w'/\K v css G'
def Fn.mono{P:Program}{f:FuncId}{vs:List Value}{G:Gh}{K K':Value->Gh->Prop}(h:Fn P f vs G K)(hk: ∀v G',bI G G'->K v G'->K' v G'):Fn P f vs G K':=
 ⟨h.able,fun w hw=>(h.run w hw).mono fun _ _ ⟨v,G',he,hh,hK⟩=>⟨v,G',he,hh,hk v G' hh.gle hK⟩⟩
theorem omP{p:Prop}(h:p:=by show b<w.heap.size;omega):p:=h
def bH.called{own:List aB}(h:bH C own G w)(k:bH ⟨w,G,[],[],[],none,fun _=>none⟩ [] G' w'):bH C own G' w':=by
 have same: ∀b o,w.heap[b]? =some o->w'.heap[b]? =some o:=fun b o hb=>by rw[k.keep b (iO hb) omc];exact hb
 have hsz:w.heap.size<=w'.heap.size:=k.size;refine⟨k.os.trans h.os,k.tape.trans h.tape,k.output.trans h.output,cN h.size hsz,?_,k.sub,h.gle.trans k.gle,?_,?_,h.nd,cN h.dr k.dr,fun p hp=>⟨(h.ext p hp).1,same _ _ (h.ext p hp).2⟩⟩
 .intro b hb hm;have:=h.size;rw[k.keep b omP omc];exact h.keep b hb hm
 .intro b hb;have:=h.size;rw[k.gold b omP];exact h.gold b hb
 .intro o ho
  obtain⟨h1,h2,h3⟩:=h.hown o ho;exact⟨same _ _ h1,by rw[k.gold _ (iO h1)];exact h2,h3⟩
def aG4(M:List aB)(css:List (List Value))(h:css.length=M.length):(li M css).map (·.b)=M.map (·.b):=by
 induction M generalizing css with
 |nil=>simp[li]
 |cons o M ih=>
  cases css with
  |nil=>simp at h
  |cons c css=>simp only[bZ,Nat.add_right_cancel_iff] at h;simpa[li] using ih css h
def W9{o:aB}(ho:o∈li M css): ∃c∈css,∃m∈M,o={m with cs:=c}/\{m with cs:=c,lo:=false}∈li (asB M) css:=by
 induction M generalizing css with
 |nil=>simp[li] at ho
 |cons x M ih=>
  cases css with
  |nil=>simp[li] at ho
  |cons c css=>
   simp only[li,List.zip_cons_cons,bV,aW] at ho;rcases ho with rfl|ho
   .exact⟨c,aZ,x,aZ,J,by simp[li,asB]⟩
   .obtain⟨c',hc',m,hm,e,hh⟩:=ih ho
    refine⟨c',aJ _ hc',m,aJ _ hm,e,?_⟩;simp only[li,asB,bV,List.zip_cons_cons,aW];exact .inr hh
def bH.lend(h:bH C (M++rest) G w):bH ⟨w,G,M.map (·.b),[],[],none,fun _=>none⟩ (asB M) G w:=by
 refine⟨J,J,J,bJ _,fun _ _ _=>J,h.sub,bI.refl _,fun _ _=>J,?_,?_,bJ _,fun p hp=>by cases hp⟩
 .intro o ho
  obtain⟨m,hm,rfl⟩:=aU.1 ho;obtain⟨h1,h2,_⟩:=h.hown m (bM _ hm);exact⟨h1,h2,omc,fun _=>aU.2 ⟨m,hm,J⟩⟩
 .have:=(gR.1 h.nd).1
  unfold asB;rw[List.pairwise_map];exact this
def bH.calledM(h:bH C (M++rest) G w)(hl:css.length=M.length)(k:bH ⟨w,G,M.map (·.b),[],[],none,fun _=>none⟩ (li (asB M) css) G' w'):
  bH C (li M css++rest) G' w':=by
 have hsz:w.heap.size<=w'.heap.size:=k.size;have hnd:=h.nd;have inM: ∀b,b∈M.map (·.b)-> ∀o∈rest,o.b≠b:=fun b hb o ho e=>by
  obtain⟨m,hm,rfl⟩:=aU.1 hb;exact(gR.1 hnd).2.2 m hm o ho e.symm
 refine⟨k.os.trans h.os,k.tape.trans h.tape,k.output.trans h.output,cN h.size hsz,?_,k.sub,h.gle.trans k.gle,?_,?_,?_,cN h.dr k.dr,fun p hp=>⟨(h.ext p hp).1,by rw[k.keep _ (iO (h.ext p hp).2) (h.extM hp)];exact(h.ext p hp).2⟩⟩
 .intro b hb hm
  have hs:=h.size;have hnM:b∉M.map (·.b):=fun hb'=>by
   obtain⟨m,hmM,rfl⟩:=aU.1 hb';obtain⟨_,_,h3,h4⟩:=h.hown m (bM _ hmM)
   cases hlo:m.lo with
   |true=>have:=h3 hlo;omega
   |false=>exact hm (h4 hlo)
  rw[k.keep b omP hnM];exact h.keep b hb hm
 .intro b hb;have:=h.size;rw[k.gold b omP];exact h.gold b hb
 .intro o ho
  rcases bX.1 ho with ho|ho
  .obtain⟨c,hc,m,hm,rfl,hmem⟩:=W9 ho
   obtain⟨k1,k2,_⟩:=k.hown _ hmem;obtain⟨_,_,h3⟩:=h.hown m (bM _ hm);exact⟨k1,k2,h3⟩
  .obtain⟨h1,h2,h3⟩:=h.hown o (bU _ ho)
   have hnM:o.b∉M.map (·.b):=fun hb=>inM _ hb o ho J;exact⟨by rw[k.keep _ (iO h1) hnM];exact h1,by rw[k.gold _ (iO h1)];exact h2,h3⟩
 .rw[EN,aM,aG4 _ _ hl,<-aM,<-EN];exact hnd
def O1{a b:α}{l:List α}:(a::l).set (n+1) b=a::l.set n b:=rfl
def zt{a:α}{l:List α}:(a::l).drop (n+1)=l.drop n:=rfl
abbrev ii:= @inferInstance.{0}
def nb{a b:Nat}(h:Nat.ble a b=true):a<=b:=sW h
def sR{fr:Fr}{own:List aB}{id:Nat}(h:St C n fr own G (dq P ops (Exit.then (y.wp P Q) Q) ops.toList)):St C n fr own G ((Code.seq (Code.region id ops false) y).wp P Q):=fy (D9 h)
end Go.Sx
end
section
namespace Go.Sx
open Go
variable {C:aF}{n b off k m i fuel:Nat}{own' M rest own0:List aB}{G G0:Gh}{ops:Array Oper}{Q:Exit->Act->World->Prop}{t t' ty' ty:TypeId}{x y fo:Operand}{o:Oper}{Φ:Act->World->Prop}{w w':World}{v z:Value}{a:Act}{lo:Bool}{f:FuncId}{args:Array Operand}{tys:Array TypeId}{vs c1 c2:List Value}{K:Value->List (List Value)->Gh->Prop}{c:Code}{X:Type}{S:World->Prop}{fin:Nat->Bool}
def aG:Value->List Value
 | .agg ⟨l⟩=>l
 |v=>[v]
def pO(v:Value):v.cells=⟨aG v⟩:=by
 cases v<;>first|rfl|(rename_i a;cases a;rfl)
def flat:Value->Bool
 | .agg _=>false
 | .tuple _=>false
 |_=>true
def fG(fr:Fr):List Operand->Option (List Value)
 |[]=>some []
 |x::t=>match aD fr x,fG fr t with
  |some v,some l=>some (v::l)
  |_,_=>none
def Ca{fr:Fr}{a:Act}(h:l6 fr a): ∀{l:List Operand} {vs:List Value},fG fr l=some vs->l.map a.eval=vs
 |[],vs,e=>by simp[fG] at e;subst e;rfl
 |x::t,vs,e=>by
  simp only[fG] at e;split at e
  .rename_i v l hv hl
   cases e
   simp[bC h hv,Ca h hl]
  .cases e
section
variable {P:Program}{fr:Fr}{own:List aB}{r:List Oper}
variable {dst:Option Nat}{pos:String}{af:Array Edge}
def Ch(P:Program)(C:aF)(n:Nat)(fr:Fr)(own:List aB)(G:Gh)(o:Oper)(Φ:Act->World->Prop):Prop:=
 ∀(a:Act) (w:World) (Q:Exit->Act->World->Prop),gA C n fr own G a w->o.wp P a w Φ Q
def aMm(hg:o.guard=none)(hc:Ch P C n fr own G o (dq P ops Q r)):St C n fr own G (dq P ops Q (o::r)):=by
 intro a w rl;simp only[dq,Region.wanted,hg,if_true];exact hc a w _ rl
variable {gd:Option (Nat×Bool)}
def Q3:(newVar ty v).run P w= .ok ⟨w.heap.size,0,none⟩ (w.alloc (.cells ⟨aG v⟩ ty)):=by
 unfold newVar newRow;rw[pO];rfl
def kO(h:(execOp a.eval o).run P w= .ok (.value v) w')(hk:Φ (a.put o.dst v) w'):o.wp P a w Φ Q:=by
 simp only[Oper.wp,h,Oper.upon];exact hk
def wF[hz:gv P t z](hd:cg n dst=true)(h: ∀b,St C n (put fr dst (.pointer (some ⟨b,0,none⟩))) (⟨b,aG z,t,true⟩::own) G Φ):
  Ch P C n fr own G ⟨dst, .alloc t,ty',pos,af,gd⟩ Φ:=by
 intro a w Q rl;have h1:(Instr.alloc t true (.tuple #[])).run P w= .ok (.pointer (some ⟨w.heap.size,0,none⟩)) (w.alloc (.cells ⟨aG z⟩ t)):=by
  unfold Instr.alloc;rw[aP (hz.zero w)];show(newVar t z>>=_).run P w=_;rw[aP Q3];rfl
 refine kO (c7 h1) (h w.heap.size _ _ ?_);exact(rl.heap (rl.h.alloc _ _)).put _ hd
def t6(hx:aD fr x=some v)(hd:cg n dst=true)(h: ∀b,St C n (put fr dst (.pointer (some ⟨b,0,none⟩))) (⟨b,aG v,t,true⟩::own) G Φ):
  Ch P C n fr own G ⟨dst, .box t x,ty',pos,af,gd⟩ Φ:=by
 intro a w Q rl;have h1:(Instr.box t (a.eval x)).run P w= .ok (.pointer (some ⟨w.heap.size,0,none⟩)) (w.alloc (.cells ⟨aG v⟩ t)):=by
  unfold Instr.box;rw[bC rl.fr hx,aP Q3];rfl
 refine kO (c7 h1) (h w.heap.size _ _ ?_);exact(rl.heap (rl.h.alloc _ _)).put _ hd
def ak3{cs:List Value}{fz:Nat×Nat}(h:w.heap[b]? =some (.cells ⟨cs⟩ ty fz)):w.setCell ⟨b,off,none⟩ v=ig w b (.cells ⟨cs.set off v⟩ ty fz):=by
 unfold World.setCell ig;congr 1;apply Array.ext_getElem?;intro i;rw[Array.getElem?_modify,eJ];by_cases hi:b=i
 .subst hi
  have:=iO h;simp only[if_true,h,lM,this];simp
 .simp[hi]
def aw4{cs:List Value}(hv:flat v=true)(h:w.heap[b]? =some (.cells ⟨cs⟩ ty (0,0)))(ho:off<cs.length):
  (store ⟨b,off,none⟩ v).run P w= .ok () (ig w b (.cells ⟨cs.set off v⟩ ty (0,0))):=by
 have hc:w.cell? ⟨b,off,none⟩=some cs[off]:=by rw[DG h,aQ ho]
 have hf:w.frozen? ⟨b,off,none⟩=false:=by simp[World.frozen?,h]
 cases v<;>first|(simp[flat] at hv;done)|(simp only[store,Sem.run,hc,hf,ak3 h];rfl)
def am6(w:World)(b:Nat)(o o':Obj):ig (ig w b o) b o'=ig w b o':=by
 simp[ig]
def aqZ{o:Obj}(h:w.heap[b]? =some o):ig w b o=w:=by
 unfold ig;congr 1;apply Array.ext_getElem?;intro i;rw[eJ];by_cases hi:b=i
 .subst hi
  have hlt:=iO h;simp only[if_true,hlt];rw[h]
 .simp[hi]
theorem omp{p:Prop}(h:p:=by simp;omega):p:=h
def BF{b:Nat}{ty:TypeId}: ∀(vs:List Value) (w:World) (off i:Nat) (cs:List Value),(∀v∈vs,flat v=true)->w.heap[b]? =some (.cells ⟨cs⟩ ty (0,0))->off+i+vs.length<=cs.length->
  (storeCells ⟨b,off,none⟩ vs i).run P w= .ok () (ig w b (.cells ⟨cH cs (off+i) vs⟩ ty (0,0)))
 |[],w,off,i,cs,_,h,_=>by
  unfold storeCells cH;rw[aqZ h];rfl
 |v::vs,w,off,i,cs,hf,h,hl=>by
  unfold storeCells;simp only[bZ] at hl;rw[tk,aP (aw4 (hf v aZ) h we)];rw[BF vs _ off (i+1) (cs.set (off+i) v) (fun u hu=>hf u (aJ _ hu)) (Us (iO h)) omp];rw[am6];rfl
theorem ozD{p:Prop}(h:p:=by simpa using hf):p:=h
def Dm{cs:List Value}(hx:aD fr x=some (.pointer (some ⟨b,off,none⟩)))(hy:aD fr y=some v)[hs:ll P t k]
  (hu:iq own b cs ty lo (cH cs off (aG v)) own')(hk:(aG v).length=k)(hl:off+k<=cs.length)(hf:(aG v).all flat=true)(hd:cg n dst=true)(h:St C n (put fr dst undef) own' G Φ):
  Ch P C n fr own G ⟨dst, .store t x y,ty',pos,af,gd⟩ Φ:=by
 intro a w Q rl;have hb:=(rl.h.hown _ (hu.spec rl.h.nd).1).1;have h1:(Instr.storeAt t (a.eval x) (a.eval y)).run P w= .ok () (ig w b (.cells ⟨cH cs off (aG v)⟩ ty (0,0))):=by
  rw[bC rl.fr hx,bC rl.fr hy];simp only[Instr.storeAt,Instr.sureAddr];show(storeVar t ⟨b,off,none⟩ v).run P w=_;unfold storeVar;rw[aP (hs.siz w),pO];simp only[pM,hk,ne_eq,not_true_eq_false,if_false];have:=BF (P:=P) (aG v) w off 0 cs ozD hb we;simpa using this
 have h2:(execOp a.eval ⟨dst, .store t x y,ty',pos,af,gd⟩).run P w= .ok .skip (ig w b (.cells ⟨cH cs off (aG v)⟩ ty (0,0))):=by
  simp only[execOp];rw[aP h1];rfl
 simp only[Oper.wp,h2,Oper.upon];exact h _ _ ((rl.heap (rl.h.store hu)).put _ hd)
def vW{cs:List Value}(hx:aD fr x=some (.pointer (some ⟨b,off,none⟩)))(hy:aD fr y=some v)[hs:kC P t]
  (hu:iq own b cs ty lo (cs.set off v) own')(hl:off<cs.length)(hf:flat v=true)(hd:cg n dst=true)(h:St C n (put fr dst undef) own' G Φ):
  Ch P C n fr own G ⟨dst, .store t x y,ty',pos,af,gd⟩ Φ:=by
 intro a w Q rl;have hb:=(rl.h.hown _ (hu.spec rl.h.nd).1).1;have hc:v.cells= #[v]:=by cases v<;>first|rfl|(simp[flat] at hf)
 have h1:(Instr.storeAt t (a.eval x) (a.eval y)).run P w= .ok () (ig w b (.cells ⟨cs.set off v⟩ ty (0,0))):=by
  rw[bC rl.fr hx,bC rl.fr hy];simp only[Instr.storeAt,Instr.sureAddr];show(storeVar t ⟨b,off,none⟩ v).run P w=_;unfold storeVar;rw[aP (hs.siz w),hc];simp only[pM,bZ,fX,ne_eq,not_true_eq_false,if_false,eM];have:=BF (P:=P) [v] w off 0 cs ozD hb omp;simpa[cH] using this
 have h2:(execOp a.eval ⟨dst, .store t x y,ty',pos,af,gd⟩).run P w= .ok .skip (ig w b (.cells ⟨cs.set off v⟩ ty (0,0))):=by
  simp only[execOp];rw[aP h1];rfl
 simp only[Oper.wp,h2,Oper.upon];exact h _ _ ((rl.heap (rl.h.store hu)).put _ hd)
def Jk(h:s6 P f)(args:Array Value)(w:World):(callFunc f args).run P w= .ok (.enter f args) w:=by
 obtain⟨fn,h1,h2,h3⟩:=h;unfold callFunc;show(program>>=_).run P w=_;rw[aP (a:=P) (w':=w) J];simp only[h1,h2,h3];rfl
def D6(h:s6 P f)(hf:l6 fr a)(ho:aD fr fo=some (.func (.func f) ⟨c1⟩ ⟨c2⟩))(hv:fG fr args.toList=some vs):
  (execOp a.eval ⟨dst, .call ⟨.value fo,args,tys⟩,ty',pos,af,gd⟩).run P w= .ok (.enter f ⟨c1++vs++c2⟩) w:=by
 have e:args.map a.eval=⟨vs⟩:=by apply Array.ext';simpa using Ca hf hv
 simp only[execOp,resolve,bC hf ho,e,Deferred.ofValue];show(invoke (.fn (.func f) ⟨c2⟩) (⟨c1⟩++⟨vs⟩)).run P w=_;simp only[invoke];rw[Jk h];simp
def Mz{K:Value->Gh->Prop}(ho:aD fr fo=some (.func (.func f) ⟨c1⟩ ⟨c2⟩))(hv:fG fr args.toList=some vs)
  (hF:Fn P f (c1++vs++c2) G K)(hd:cg n dst=true)(h: ∀v (G':Gh),[GE G G']->K v G'->St C n (put fr dst v) own G' Φ):
  Ch P C n fr own G ⟨dst, .call ⟨.value fo,args,tys⟩,ty',pos,af,gd⟩ Φ:=by
 intro a w Q rl;have h2:=D6 (P:=P) (dst:=dst) (ty':=ty') (pos:=pos) (af:=af) (gd:=gd) (tys:=tys) (w:=w) hF.able rl.fr ho hv;simp only[Oper.wp,h2,Oper.upon];refine(hF.run w rl.h.sub).mono ?_;rintro e w' ⟨v,G',rfl,hh,hK⟩;exact @h v G' ⟨hh.gle⟩ hK _ _ ((rl.heap (rl.h.called hh)).put _ hd)
theorem ozE{p:Prop}(h:p:=by simpa using hF):p:=h
def zC{K:Value->Gh->Prop}(ho:aD fr fo=some (.func (.func f) #[] #[]))(hv:fG fr args.toList=some vs)
  (hF:Fn P f vs G K)(hd:cg n dst=true)(h: ∀v (G':Gh),[GE G G']->K v G'->St C n (put fr dst v) own G' Φ):
  Ch P C n fr own G ⟨dst, .call ⟨.value fo,args,tys⟩,ty',pos,af,gd⟩ Φ:=
 Mz (c1:=[]) (c2:=[]) ho hv ozE hd h
def ayB(ho:aD fr fo=some (.func (.func f) ⟨c1⟩ ⟨c2⟩))(hv:fG fr args.toList=some vs)
  (hp:own.Perm (M++rest))(hF:kG P f (c1++vs++c2) M G K)(hd:cg n dst=true)(h: ∀v css (G':Gh),[GE G G']->css.length=M.length->K v css G'->St C n (put fr dst v) (li M css++rest) G' Φ):
  Ch P C n fr own G ⟨dst, .call ⟨.value fo,args,tys⟩,ty',pos,af,gd⟩ Φ:=by
 intro a w Q rl;have h2:=D6 (P:=P) (dst:=dst) (ty':=ty') (pos:=pos) (af:=af) (gd:=gd) (tys:=tys) (w:=w) hF.able rl.fr ho hv;simp only[Oper.wp,h2,Oper.upon];have hh0:=rl.h.perm hp;refine(hF.run w hh0.lend).mono ?_;rintro e w' ⟨v,css,G',rfl,hl,hh,hK⟩;exact @h v css G' ⟨hh.gle⟩ hl hK _ _ ((rl.heap (hh0.calledM hl hh)).put _ hd)
def xJ(ho:aD fr fo=some (.func (.func f) #[] #[]))(hv:fG fr args.toList=some vs)
  (hp:own.Perm (M++rest))(hF:kG P f vs M G K)(hd:cg n dst=true)(h: ∀v css (G':Gh),[GE G G']->css.length=M.length->K v css G'->St C n (put fr dst v) (li M css++rest) G' Φ):
  Ch P C n fr own G ⟨dst, .call ⟨.value fo,args,tys⟩,ty',pos,af,gd⟩ Φ:=
 ayB (c1:=[]) (c2:=[]) ho hv hp ozE hd h
end
section
variable {P:Program}{fr:Fr}{own:List aB}
inductive kh (P:Program) (fr:Fr) (own:List aB):List ResultVar->List Value->Prop
 |nil:kh P fr own [] []
 |tmp {t:Nat} {v:Value} {rs:List ResultVar} {vs:List Value} (h:iI fr t=some v) (k:kh P fr own rs vs):kh P fr own (.tmp t::rs) (v::vs)
 |agg {a b k:Nat} {t ty:TypeId} {cs l:List Value} {lo:Bool} {rs:List ResultVar} {vs:List Value} (h:iI fr a=some (.pointer (some ⟨b,0,none⟩))) (ho:i7 own b cs ty lo) (ht:ll P t k) (hl:cw cs 0 k=some l) (h2:kh P fr own rs vs):
   kh P fr own (.cell a t::rs) (.agg ⟨l⟩::vs)
 |sc {a b:Nat} {t ty:TypeId} {cs:List Value} {v:Value} {lo:Bool} {rs:List ResultVar} {vs:List Value} (h:iI fr a=some (.pointer (some ⟨b,0,none⟩))) (ho:i7 own b cs ty lo) (ht:kC P t) (hl:cs[0]? =some v) (h2:kh P fr own rs vs):
   kh P fr own (.cell a t::rs) (v::vs)
def zL(a:Act):ResultVar->Sem Value
 | .tmp t=>pure (a.tmps.getD t undef)
 | .cell x t=>do loadVar t (<-asAddr (a.tmps.getD x undef))
def kh.run{rs:List ResultVar}{vs:List Value}(h:kh P fr own rs vs){a:Act}{w:World}(hf:l6 fr a)(hh:bH C own G w):
  (rs.mapM (zL a)).run P w= .ok vs w:=by
 induction h with
 |nil=>rfl
 | @tmp t v rs vs h k ih=>
  rw[rR];have e:=hf _ _ h;have e2:a.tmps.getD t undef=v:=by rw[cV,e];rfl
  rw[aP (a:=v) (w':=w) (by simp only[zL,e2];exact run_pure _ _ _),aP ih];rfl
 | @agg x b k t ty cs l lo rs vs h ho ht hl h2 ih=>
  rw[rR];have e:=hf _ _ h;have e2:a.tmps.getD x undef= .pointer (some ⟨b,0,none⟩):=by rw[cV,e];rfl
  rw[aP (a:= .agg ⟨l⟩) (w':=w) (by simp only[zL,e2,asAddr];rw[aP (run_pure _ _ _)];exact GG (hh.hown _ ho.mem).1 hl),aP ih];rfl
 | @sc x b t ty cs v lo rs vs h ho ht hl h2 ih=>
  rw[rR];have e:=hf _ _ h;have e2:a.tmps.getD x undef= .pointer (some ⟨b,0,none⟩):=by rw[cV,e];rfl
  rw[aP (a:=v) (w':=w) (by simp only[zL,e2,asAddr];rw[aP (run_pure _ _ _)];exact IZ (hh.hown _ ho.mem).1 hl),aP ih];rfl
def m9:List Value->Value
 |[v]=>v
 |vs=> .tuple ⟨vs⟩
def r8{fn:Func}(hr:kh P fr own fn.results.toList vs)(hf:l6 fr a)(hh:bH C own G w):(results fn a.tmps).run P w= .ok (m9 vs) w:=by
 have h0:=kh.run (C:=C) (G:=G) hr hf hh;have h1:(fn.results.mapM (zL a)).run P w= .ok (⟨vs⟩:Array Value) w:=by
  rw[<-Array.toArray_toList (xs:=fn.results),List.mapM_toArray,map_eq_pure_bind,aP h0];rfl
 have h2:results fn a.tmps=(do
   let vs<-fn.results.mapM (zL a)
   pure (if h:vs.size=1 then vs[0] else .tuple vs)):=by
  unfold results;congr 1
 rw[h2,aP h1]
 match vs with
 |[]=>rfl
 |[v]=>rfl
 |_::_::_=>rfl
def jb(C:aF)(K:Value->Gh->Prop):Ending->World->Prop:=fun e w'=> ∃v G',e= .returned v/\bH C [] G' w'/\K v G'
def B4(C:aF)(M:List aB)(K:Value->List (List Value)->Gh->Prop):Ending->World->Prop:=fun e w'=> ∃v css G',e= .returned v/\css.length=M.length/\bH C (li (asB M) css) G' w'/\K v css G'
def eH(C:aF)(P:Program)(fn:Func)(R:Ending->World->Prop):Exit->Act->World->Prop:=fun e a w=>C.mks=[]->bodyPost P fn R e a w
def zD{fn:Func}{K:Value->Gh->Prop}(hr:kh P fr own fn.results.toList vs)(hk:K (m9 vs) G):St C n fr own G (eH C P fn (jb C K) .ret):=
 fun a w rl hmk=>⟨rl.df.trans hmk,_,r8 hr rl.fr rl.h,_,G,J,rl.h.drop (jV _),hk⟩
def II{fn:Func}{K:Value->Gh->Prop}(hr:kh P fr own fn.results.toList vs)(hk:K (m9 vs) G):St C n fr own G (eH C P fn (jb C K) .normal):=
 fun a w rl hmk=>⟨rl.df.trans hmk,_,r8 hr rl.fr rl.h,_,G,J,rl.h.drop (jV _),hk⟩
def u6{fn:Func}{css:List (List Value)}(hr:kh P fr own fn.results.toList vs)(hl:css.length=M.length)(own2:List aB)(hp:own.Perm own2)(hs:(li (asB M) css).Sublist own2)(hk:K (m9 vs) css G):St C n fr own G (eH C P fn (B4 C M K) .ret):=
 fun a w rl hmk=>⟨rl.df.trans hmk,_,r8 hr rl.fr rl.h,_,css,G,J,hl,(rl.h.perm hp).drop hs,hk⟩
def nP:Nat->List Value->Fr
 |_,[]=>[]
 |i,v::t=>(i,v)::nP (i+1) t
def wD: ∀(vs:List Value) (i k:Nat) (v:Value),iI (nP i vs) k=some v-> ∃j,k=i+j/\vs[j]? =some v
 |[],i,k,v,h=>by cases h
 |u::vs,i,k,v,h=>by
  rw[nP,wJ] at h;split at h
  .subst_vars;cases h;exact⟨0,J,J⟩
  .obtain⟨j,rfl,hj⟩:=wD vs (i+1) k v h
   exact⟨j+1,we,by simpa using hj⟩
theorem omO{p:Prop}(h:p:=by simpa using hj'):p:=h
def Fn.introR{fn:Func}{K:Value->Gh->Prop}(hf:P.funcs[f]? =some fn)(hb:fn.body=some c)(hn:(fn.name== "runtime.NumGoroutine")=false)(hm:fn.ntmps=m)(hlen:Nat.ble vs.length m=true)
  (h: ∀C:aF,C.G0=G->C.mb=[]->C.rd=none->(C.fx=fun _=>none)->St C m (nP 0 vs) [] G (c.wp P (eH C P fn (jb C K)))):Fn P f vs G K:=by
 refine⟨⟨fn,hf,hn,by simp[hb]⟩,fun w hw=>?_⟩;have hlen':vs.length<=m:=by simpa using hlen
 have:=calls_of_wp (P:=P) (f:=f) (args:=⟨vs⟩) (w:=w) (R:=jb ⟨w,G,[],[],[],none,fun _=>none⟩ K) hf hb (wp_mono (h ⟨w,G,[],[],[],none,fun _=>none⟩ J J J J _ w
  ⟨⟨J,J,J,bJ _,fun _ _ _=>J,hw,bI.refl _,fun _ _=>J,fun o ho=>(by cases ho), .nil,bJ _,fun p hp=>by cases hp⟩,by simp;omega,fun k v hk=>by
   obtain⟨j,rfl,hj⟩:=wD vs 0 k v hk;have hj':=(aT.1 hj).1;rw[lZ omO];simpa using hj,J⟩) fun _ _ _ k=>k J)
 exact this
def Fn.intro{fn:Func}{K:Value->Gh->Prop}(hf:P.funcs[f]? =some fn)(hb:fn.body=some c)(hn:(fn.name== "runtime.NumGoroutine")=false)(hm:fn.ntmps=m)(hlen:Nat.ble vs.length m=true)
  (h: ∀C:aF,C.G0=G->C.mb=[]->St C m (nP 0 vs) [] G (c.wp P (eH C P fn (jb C K)))):Fn P f vs G K:=
 Fn.introR hf hb hn hm hlen fun C a b _ _=>h C a b
def kG.introR{fn:Func}(hf:P.funcs[f]? =some fn)(hb:fn.body=some c)(hn:(fn.name== "runtime.NumGoroutine")=false)(hm:fn.ntmps=m)(hlen:Nat.ble vs.length m=true)
  (h: ∀C:aF,C.G0=G->C.mb=M.map (·.b)->C.rd=none->(C.fx=fun _=>none)->St C m (nP 0 vs) (asB M) G (c.wp P (eH C P fn (B4 C M K)))):kG P f vs M G K:=by
 refine⟨⟨fn,hf,hn,by simp[hb]⟩,fun w hw=>?_⟩;have hlen':vs.length<=m:=by simpa using hlen
 have:=calls_of_wp (P:=P) (f:=f) (args:=⟨vs⟩) (w:=w) (R:=B4 ⟨w,G,M.map (·.b),[],[],none,fun _=>none⟩ M K) hf hb (wp_mono (h ⟨w,G,M.map (·.b),[],[],none,fun _=>none⟩ J J J J _ w
  ⟨hw,by simp;omega,fun k v hk=>by
   obtain⟨j,rfl,hj⟩:=wD vs 0 k v hk;have hj':=(aT.1 hj).1;rw[lZ omO];simpa using hj,J⟩) fun _ _ _ k=>k J)
 exact this
def kG.intro{fn:Func}(hf:P.funcs[f]? =some fn)(hb:fn.body=some c)(hn:(fn.name== "runtime.NumGoroutine")=false)(hm:fn.ntmps=m)(hlen:Nat.ble vs.length m=true)
  (h: ∀C:aF,C.G0=G->C.mb=M.map (·.b)->St C m (nP 0 vs) (asB M) G (c.wp P (eH C P fn (B4 C M K)))):kG P f vs M G K:=
 kG.introR hf hb hn hm hlen fun C a b _ _=>h C a b
def Bm(b:Nat){cs:List Value}(hr:jE own ⟨b,cs,ty,true⟩ own')(h: ∀G':Gh,[GE G G']->[vd G' b cs]->St C n fr own' G' Φ):St C n fr own G Φ:=
 fun a w rl=>by
  obtain⟨h1,h2⟩:=rl.h.freeze hr;exact @h _ ⟨h2⟩ ⟨omc⟩ a w (rl.heap h1)
def NO(own':List aB)(hs:own'.Sublist own)(h:St C n fr own' G Φ):St C n fr own G Φ:=
 fun a w rl=>h a w (rl.heap (rl.h.drop hs))
def AV(own':List aB)(hs:own.Perm own')(h:St C n fr own' G Φ):St C n fr own G Φ:=
 fun a w rl=>h a w (rl.heap (rl.h.perm hs))
def R8(C:aF)(n:Nat)(F:X->Fr)(O:X->List aB)(I:X->Gh->Prop)(μ:X->Nat)(m:Nat)(G:Gh)(a:Act)(w:World):Prop:=
 ∃x G',bI G G'/\I x G'/\μ x<m/\gA C n (F x) (O x) G' a w
def P8(F:X->Fr)(O:X->List aB)(I:X->Gh->Prop)(μ:X->Nat)(x0:X)(hI:I x0 G)(hF:vi (F x0) fr)(hO:O x0=own)
  (round: ∀(x:X) (G':Gh),[GE G G']->I x G'->St C n (F x) (O x) G' (c.wp P (Exit.then (R8 C n F O I μ (μ x) G') Q))):St C n fr own G ((Code.loop c).wp P Q):=by
 intro a w rl;subst hO;intro b k cs;have key: ∀m a w,(∃x G',bI G G'/\I x G'/\μ x=m/\gA C n (F x) (O x) G' a w)->
   ∃e a' w',Q e a' w'/\Arrives P (lone (b.at a (.code c:: .inLoop c::k)) cs w) b k cs e a' w':=by
  intro m
  induction m using Nat.strongRecOn with
  |_ m ih=>
   intro a w ⟨x,G',hle,hx,hm,hr⟩;obtain⟨e,a₁,w₁,hq,harr⟩:= @round x G' ⟨hle⟩ hx a w hr b (.inLoop c::k) cs
   cases e with
   |normal=>
    obtain⟨x',G'',hle',hx',hlt,hr'⟩:=hq;obtain⟨e₂,a₂,w₂,hq₂,harr₂⟩:=ih (μ x') (hm▸hlt) a₁ w₁ ⟨x',G'',hle.trans hle',hx',rfl,hr'⟩;exact⟨e₂,a₂,w₂,hq₂, .of_steps (Steps.trans harr (.one step_inLoop)) harr₂⟩
   |exit id=>exact⟨_,a₁,w₁,hq, .pass (x:= .inLoop c) J (fun _ _=> .inl omc) harr⟩
   |goto l=>exact⟨_,a₁,w₁,hq, .pass (x:= .inLoop c) J (fun _ _=> .inl omc) harr⟩
   |ret=>exact⟨_,a₁,w₁,hq, .pass (x:= .inLoop c) J (fun _ _=> .inl omc) harr⟩
   |panic ch=>exact⟨_,a₁,w₁,hq, .pass (x:= .inLoop c) J (fun _ _=> .inl omc) harr⟩
   |outgrown=>exact⟨_,a₁,w₁,hq, .pass (x:= .inLoop c) J (fun _ _=> .inl omc) harr⟩
 obtain⟨e,a',w',q,r⟩:=key (μ x0) a w ⟨x0,G,bI.refl _,hI,rfl,rl.h,rl.sz,fun k v hk=>rl.fr _ _ (hF _ _ hk),rl.df⟩;exact⟨e,a',w',q, .of_steps (.one step_loop) r⟩
def Iy{F:X->Fr}{O:X->List aB}{I:X->Gh->Prop}{μ:X->Nat}[hg:GL G0 G](x:X)(hI:I x G)(hμ:μ x<m)(hF:vi (F x) fr)(hO:O x=own):St C n fr own G (R8 C n F O I μ m G0):=
 fun a w rl=>⟨x,G,hg.le,hI,hμ,⟨hO▸rl.h,rl.sz,fun k v hk=>rl.fr _ _ (hF _ _ hk),rl.df⟩⟩
end
def gG(Q:Exit->Act->World->Prop):Exit->Act->World->Prop
 | .panic _,_,_=>False
 |e,a,w=>Q e a w
def gG.imp: ∀(e:Exit) (a:Act) (w:World),gG Q e a w->Q e a w:=fun e a w h=>by
 cases e<;>first|exact h|exact(h:False).elim
section
variable {P:Program}
def vp(P:Program)(ops:Array Oper)(Q:Exit->Act->World->Prop)(S:World->Prop)(fin:Nat->Bool):Nat->Array Bool->Act->World->Prop
 |0,listed,a,w=>Region.ready .any ops listed=[]/\Q .normal a w
 |fuel+1,listed,a,w=>
  (Region.ready .any ops listed=[]->Q .normal a w)/\
  ∀i∈Region.ready .any ops listed,wpOp P ops Q i (fun a' w'=>(fin i=true\/S w')/\vp P ops Q S fin fuel (listed.setIfInBounds i true) a' w') a w
def Cv: ∀(fuel:Nat) (listed:Array Bool) (a:Act) (w:World),vp P ops Q S fin fuel listed a w->wpAny P .any ops Q fuel listed a w
 |0,_,_,_,h=>h
 |fuel+1,_,_,_,h=>⟨h.1,fun i hi=>wpOp_mono (fun a' w' h'=>Cv fuel _ a' w' h'.2) (h.2 i hi)⟩
def H7(ops:Array Oper)(fin:Nat->Bool)(i:Nat):Bool:=
 !fin i&&(List.range ops.size).all fun j=>!fin j||((ops[j]?).map fun o=>o.after.any fun e=>Region.binds .any e&&e.on==i).getD true
theorem okq{p:Prop}(h:p:=by simpa using hj):p:=h
def auy(h:H7 ops fin i=true):fin i=false/\ ∀j oj,ops[j]? =some oj->fin j=true-> ∃e∈oj.after,Region.binds .any e=true/\e.on=i:=by
 simp only[H7,bW,iT] at h;refine⟨h.1,fun j oj hoj hf=>?_⟩;have hj:j<ops.size:=(fV.1 hoj).1;have h1:=dJ.1 h.2 j okq;rw[hf,hoj] at h1;simp only[Bool.not_true,lM,lK,Bool.false_or] at h1;obtain⟨e,he,hb⟩:=Array.any_eq_true'.1 h1;simp only[bW,beq_iff_eq] at hb;exact⟨e,he,hb.1,hb.2⟩
def apW{i:Nat}{oi:Oper}{v:Value}(hi:ops[i]? =some oi)(hsel: ∀(j:Nat) (o:Oper) cs b,ops[j]? =some o->o.op≠ .select cs b)
  (hQ: ∀c a w,Q (.panic c) (a.put oi.dst v) w->Q (.panic c) a w)(hfi:fin i=false)
  (hfin: ∀j oj,ops[j]? =some oj->fin j=true-> ∃e∈oj.after,Region.binds .any e=true/\e.on=i):
  ∀(fuel:Nat) (listed:Array Bool) (a:Act) (w:World),
   (∀j oj,ops[j]? =some oj->j≠i->listed.getD j true=false->(∀e∈oj.after,Region.binds .any e=true->e.on≠i)->oi.apart ops oj=true)->
   i∈Region.ready .any ops listed->YieldsIf P ops S oi v a->S w->
   vp P ops Q S fin fuel (listed.setIfInBounds i true) (a.put oi.dst v) w->vp P ops Q S fin (fuel+1) listed a w:=by
 intro fuel
 induction fuel with
 |zero=>
  intro listed a w _ hr hy hS H;refine⟨fun h=>(by rw[h] at hr;cases hr),fun j hj=>?_⟩;by_cases hji:j=i
  .subst hji;exact hy.wpOp hi hS ⟨.inr hS,H⟩
  .have:=ready_mono hj hji
   rw[H.1] at this
   cases this
 |succ fuel ih=>
  intro listed a w hfree hr hy hS H;refine⟨fun h=>(by rw[h] at hr;cases hr),fun j hj=>?_⟩;by_cases hji:j=i
  .subst hji;exact hy.wpOp hi hS ⟨.inr hS,H⟩
  .have h1:=H.2 j (ready_mono hj hji)
   obtain⟨hjun,oj,hoj,hall⟩:=mem_ready.1 hj;have hnot: ∀e∈oj.after,Region.binds .any e=true->e.on≠i:=fun e he hb heq=>by
    have h1:=hall e he hb;have h0:=(mem_ready.1 hr).1;rw[heq] at h1;rcases gN i listed.size with h'|h'
    .simp[h'] at h0 h1;rw[h0] at h1;cases h1
    .simp[pX h'] at h1
   have hnf:fin j=false:=by
    cases hf:fin j with
    |false=>rfl
    |true=>obtain⟨e,he,hb,heq⟩:=hfin j oj hoj hf;exact absurd heq (hnot e he hb)
   have h2:=wpOp_putIf hoj (hfree j oj hoj hji hjun hnot) (fun cs b=>hsel i oi cs b hi) (fun cs b=>hsel j oj cs b hoj) hQ hy h1;have hfree': ∀k ok,ops[k]? =some ok->k≠i->(listed.setIfInBounds j true).getD k true=false->
     (∀e∈ok.after,Region.binds .any e=true->e.on≠i)->oi.apart ops ok=true:=fun k ok hk hki hun hno=>by
    refine hfree k ok hk hki ?_ hno;by_cases hjk:j=k
    .subst hjk;exact hjun
    .rw[getD_set_ne true hjk] at hun;exact hun
   refine wpOp_mono (fun a' w' h3=>?_) h2;have hS':S w':=h3.2.1.resolve_left (by rw[hnf];simp);refine⟨.inr hS',ih (listed.setIfInBounds j true) a' w' hfree' (ready_mono hr (Ne.symm hji)) h3.1 hS' ?_⟩;rw[Array.setIfInBounds_comm _ _ hji];exact h3.2.2
def Ya{listed:Array Bool}(hr:Region.ready .any ops listed=[i])
  (h:wpOp P ops Q i (fun a' w'=>(fin i=true\/S w')/\vp P ops Q S fin fuel (listed.setIfInBounds i true) a' w') a w):vp P ops Q S fin (fuel+1) listed a w:=
 ⟨fun h0=>absurd (hr.symm.trans h0) omc,fun j hj=>by rw[hr,aR] at hj;subst hj;exact h⟩
def OY(ops:Array Oper)(fin:Nat->Bool)(listed:Array Bool)(i:Nat):Bool:=
 Region.noSelect ops&&Region.free .any ops listed i&&(Region.ready .any ops listed).contains i&&H7 ops fin i
end
class mz (l m:List aB):Prop where s:l.Sublist m
instance mz.cons (l m:List aB) (o:aB) [h:mz l m]:mz l (o::m):=⟨h.s.cons o⟩
def HS(C:aF)(own:List aB)(G:Gh):World->Prop:=fun w=> ∃G',bI G G'/\bH C own G' w
section
variable {P:Program}{fr:Fr}{own:List aB}
def Zw{id:Nat}(fin:Nat->Bool)(hm:P.follows .mixedOrders=true)
  (h:St C n fr own G (vp P ops (gG Q) (HS C own G) fin ops.size (Array.replicate ops.size false))):St C n fr own G ((Code.region id ops true).wp P Q):=by
 intro a w rl;exact wp_mono (wp_region_any hm (Cv _ _ _ _ (h a _ (rl.heap rl.h.drew)))) gG.imp
def mr{b:Bool}[hs:mz own0 own][hl:GL G0 G](h:St C n fr own G Φ):St C n fr own G (fun a w=>(b=true\/HS C own0 G0 w)/\Φ a w):=
 fun a w rl=>⟨.inr ⟨G,hl.le,rl.h.drop hs.s⟩,h a w rl⟩
def Wd{b:Bool}(hb:b=true)(h:St C n fr own G Φ):St C n fr own G (fun a w=>(b=true\/S w)/\Φ a w):=
 fun a w rl=>⟨.inl hb,h a w rl⟩
end
end Go.Sx
end
