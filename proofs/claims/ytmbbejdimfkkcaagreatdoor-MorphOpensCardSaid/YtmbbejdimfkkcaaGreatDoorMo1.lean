import Derived.Calls
import Derived.Orders
import Derived.OrdersHeld
import Derived.Laws.World
import Derived.Below
import Derived.IntWalk
import Derived.KernelRfl
import Derived.Laws.Append
set_option linter.all false
section
namespace Go.Sx
theorem we{p:Prop}(h:p:=by omega):p:=h
theorem oma{p:Prop}(h:p:=by decide):p:=h
theorem omb{p:Prop}(h:p:=by grind):p:=h
theorem omc{p:Prop}(h:p:=by simp):p:=h
theorem omd{p:Prop}(h:p:=by kernel_rfl):p:=h
theorem ome{p:Prop}(h:p:=by assumption):p:=h
theorem omg{p:Prop}{i:Decidable p}(h:p):some (@decide p i)=some true:=by rw[decide_eq_true h]
theorem omh{p:Prop}{i:Decidable p}(h: ¬p):some (@decide p i)=some false:=by rw[decide_eq_false h]
def J{α:Sort _}{a:α}:a=a:=rfl
open Go
variable {α β:Type}{a:Act}{c x z:Operand}{v:Value}{P:Program}{ops:Array Oper}{Q:Exit->Act->World->Prop}{w w':World}{n j d e s by_ off f i len cap m:Nat}{r:List Oper}{o:Oper}{y:Code}{p q:Int}{Φ:Act->World->Prop}{t ty' t':TypeId}{k k':IntKind}{l l1 l2 cs':List Value}{dst:Option Nat}{pos:String}{af:Array Edge}{ad:Option Addr}{css:List (List Value)}
def aQ:=@List.mem_cons_self
def aZ:=@List.getElem?_eq_getElem
def aX:=@List.length_map
def aJ:=@List.mem_cons_of_mem
def aK:=@List.mem_of_getElem?
def aV:=@List.getD_eq_getElem?_getD
def aW:=@List.mem_cons
def aY:=@List.length_append
def aU:=@List.mem_map
def aT:=@List.mem_singleton
def aR:=@List.getElem?_eq_some_iff
def aS:=@List.length_cons
def aL:=@List.map_append
def aM:=@List.length_replicate
def aN:=@Nat.zero_le
def bQ:=@List.mem_append_right
def bZ:=@List.mem_append
def bX:=@Nat.eq_of_beq_eq_true
def bJ:=@List.length_set
def bK:=@List.drop_eq_getElem_cons
def bV:=@Nat.le_refl
def bW:=@Nat.mul_le_mul_right
def bY:=@List.map_cons
def bU:=@List.mem_append_left
def bT:=@Bool.and_eq_true
def bR:=@Nat.pow_le_pow_right
def bS:=@Rat.intCast_mul
def bL:=@List.length_take
def bM:=@List.take_of_length_le
def cZ:=@List.pairwise_cons
def cX:=@Nat.le_trans
def cJ:=@List.getElem?_map
def cK:=@Int.toNat_natCast
def cV:=@Array.getD_eq_getD_getElem?
def cW:=@Nat.mul_comm
def cY:=@List.eq_nil_of_length_eq_zero
def cR:=@Nat.mul_assoc
def cS:=@Nat.lt_of_lt_of_le
def cM:=@Rat.intCast_eq_zero_iff
def cN:=@List.take_length
def dQ:=@List.getElem_mem
def dZ:=@Rat.le_of_lt
def dX:=@List.mem_map_of_mem
def dJ:=@List.take_add_one
def dK:=@List.not_mem_nil
def dV:=@List.all_eq_true
def dW:=@Nat.mod_lt
def dY:=@Rat.mul_eq_zero
def dT:=@List.append_assoc
def dR:=@Nat.lt_of_le_of_lt
def dS:=@Nat.add_mul
def eX:=@List.length_nil
def eJ:=@List.forall_mem_cons
def eK:=@List.mem_of_mem_take
def eY:=@List.length_singleton
def eM:=@Array.getElem?_setIfInBounds
def fQ:=@Int.sign_eq_neg_one_of_neg
def fZ:=@Nat.mul_le_mul
def fX:=@Nat.zero_add
def fJ:=@List.mem_flatMap
def fK:=@List.getElem?_eq_none
def fV:=@Nat.mul_le_mul_left
def fW:=@Nat.mul_add
def fY:=@Nat.pow_add
def fU:=@Int.natAbs_mul
def fT:=@Int.natAbs_natCast
def fR:=@List.append_nil
def fS:=@Nat.succ_mul
def fL:=@List.drop_length
def fM:=@Array.getElem?_eq_some_iff
def fN:=@Bool.or_eq_true
def gQ:=@Int.sign_eq_one_of_pos
def gX:=@Nat.eq_zero_or_pos
def gJ:=@List.flatMap_cons
def gK:=@List.any_eq_true
def gV:=@Nat.add_zero
def gW:=@Rat.intCast_neg
def gU:=@Nat.pow_pos
def gT:=@List.take_append_of_le_length
def gR:=@Bool.false_eq_true
def gS:=@Nat.le_of_lt
def gL:=@List.cons_append
def gM:=@List.length_drop
def gN:=@List.pairwise_append
def iQ:=@List.foldl_cons
def iZ:=@List.mem_of_mem_drop
def iX:=@Rat.intCast_sub
def iJ:=@Array.getElem?_eq_getElem
def iK:=@Nat.pow_succ
def iV:=@Int.sign_eq_zero_iff_zero
def iW:=@Bool.not_eq_true'
def iY:=@List.filter_cons
def iU:=@List.map_nil
def iT:=@List.map_take
def iR:=@Rat.le_refl
def iS:=@List.drop_zero
def iL:=@List.map_drop
def iM:=@Nat.pos_of_ne_zero
def iN:=@List.drop_eq_nil_of_le
def jQ:=@List.drop_of_length_le
def jZ:=@List.map_toArray
def jX:=@Bool.not_eq_true
def jJ:=@Int.natCast_mul
def jK:=@List.perm_append_comm
def jV:=@List.length_filter_le
def jW:=@List.take_succ_eq_append_getElem
def jY:=@List.length_range
def jU:=@List.mem_filterMap
def jT:=@Nat.mul_one
def jR:=@Nat.mul_pos
def jS:=@Nat.lt_or_ge
def jL:=@Nat.gcd_comm
def jM:=@List.nil_sublist
def jN:=@List.getElem?_append_right
def kQ:=@Int.natAbs_neg
def kZ:=@List.mem_range
def kX:=@Bool.or_eq_false_iff
def kJ:=@List.getElem?_append_left
def kK:=@List.map_set
def kV:=@List.nil_append
def kW:=@Nat.min_eq_left
def kY:=@Nat.mod_eq_of_lt
def kU:=@List.length_filterMap_le
def kR:=@List.take_append_drop
def kS:=@Nat.div_lt_iff_lt_mul
def kL:=@Nat.zero_mul
def kM:=@Int.fdiv_eq_ediv_of_nonneg
def kN:=@Nat.add_sub_cancel
def lQ:=@Int.natAbs_eq_zero
def lZ:=@Option.toList_some
def lX:=@List.mem_filter
def lJ:=@Nat.add_comm
def lK:=@Nat.gcd_dvd_left
def lV:=@Nat.blt_eq
def lW:=@Array.length_toList
def lY:=@List.filterMap_cons
def lU:=@List.drop_append_of_le_length
def lT:=@Nat.add_assoc
def lR:=@Option.map_some
def lS:=@Rat.intCast_add
def lL:=@Rat.num_intCast
def lM:=@Rat.den_intCast
def lN:=@Int.natAbs_zero
def mQ:=@Option.getD_some
def mZ:=@Array.getElem?_append_left
def mX:=@List.ext_getElem?
def mJ:=@Int.ofNat_natAbs_of_nonpos
def mK:=@Nat.gcd_dvd_right
def mV:=@List.foldl_append
def mW:=@Nat.eq_zero_of_gcd_eq_zero_right
def mY:=@Rat.intCast_lt_intCast
def mU:=@List.length_pos_iff
def mT:=@Rat.num_eq_zero
def mR:=@Nat.eq_zero_of_gcd_eq_zero_left
def mS:=@List.getElem?_drop
def mL:=@List.append_of_mem
def mM:=@Nat.div_eq_of_lt
def mN:=@Nat.one_mul
def nQ:=@List.length_dropLast
def nZ:=@Nat.le_mul_of_pos_right
def nX:=@Nat.mul_left_comm
def nJ:=@Nat.gcd_pos_of_pos_left
def nK:=@Nat.div_le_self
def nV:=@List.sublist_cons_self
def nW:=@Nat.mul_lt_mul_of_pos_right
def nY:=@List.sum_cons
def nU:=@List.drop_append
def nT:=@Nat.le_add_right
def nR:=@Rat.mkRat_eq_div
def nS:=@Nat.mul_right_comm
def nL:=@Nat.mul_lt_mul_of_lt_of_le
def nM:=@Nat.gcd_zero_right
def nN:=@List.set_append_right
def oQ:=@List.eq_nil_or_concat
def oZ:=@List.concat_eq_append
def oX:=@List.getLast?_eq_getElem?
def oJ:=@Int.natAbs_ediv_le_natAbs
def oK:=@Rat.intCast_inj
def oV:=@Int.natAbs_of_nonneg
def oW:=@Rat.neg_num
def oY:=@Nat.beq_refl
def oU:=@List.map_map
def oT:=@List.mem_iff_getElem
def oR:=@Nat.pow_lt_pow_iff_right
def oS:=@List.sublist_append_left
def oL:=@List.take_succ_cons
def oM:=@List.getD_cons_succ
def oN:=@List.takeWhile_cons
def pQ:=@List.perm_middle
def pZ:=@Nat.mul_lt_mul''
def pX:=@Nat.le_max_right
def pJ:=@List.countP_cons
def pK:=@Array.getElem?_eq_none
def pV:=@List.getElem?_take
def pW:=@List.getElem_cons_zero
def pY:=@List.length_pos_of_mem
def pU:=@Int.mul_eq_zero
def pT:=@Nat.le_max_left
def pR:=@Bool.false_or
def pS:=@Bool.true_and
def pL:=@Array.getElem?_toList
def pM:=@List.filterMap_append
def pN:=@List.size_toArray
def qQ:=@Int.lt_trichotomy
def qZ:=@List.getElem?_set
def qX:=@Nat.add_mul_div_left
def qJ:=@Array.toList_map
def qK:=@Nat.sub_self
def qV:=@List.getElem_map
def qW:=@Int.le_of_lt
def qY:=@List.isEmpty_iff
def qU:=@Nat.add_mul_mod_self_left
def qT:=@List.pairwise_iff_getElem
def qR:=@List.getElem?_range
def qS:=@Int.toNat_of_nonneg
def qL:=@List.take_replicate
def qM:=@List.getD_cons_zero
def qN:=@List.flatMap_append
def rQ:=@Bool.not_true
def rZ:=@Option.isSome_iff_exists
def rX:=@Array.getElem?_replicate
def rJ:=@Nat.gcd_pos_of_pos_right
def rK:=@Nat.dvd_trans
def rW:=@Bool.eq_iff_iff
def rY:=@Option.map_none
def rU:=@Nat.div_add_mod
def rT:=@List.range_succ
def rR:=@Array.foldl_toList
def rS:=@Rat.div_mul_cancel
def rL:=@List.filterMap_nil
def rM:=@Int.natCast_dvd_natCast
def rN:=@Nat.mul_div_cancel_left
def sQ:=@List.mapM_cons
def sZ:=@List.pairwise_map
def sX:=@List.flatten_cons
def sJ:=@Int.mul_comm
def sV:=@Nat.lt_trichotomy
def sW:=@Rat.mkRat_self
def sY:=@Rat.num_nonneg
def sU:=@List.forall_mem_append
def sT:=@List.all_eq_false
def sS:=@List.getElem?_set_self
def sL:=@Nat.div_div_eq_div_mul
def sM:=@Bool.or_true
def tQ:=@Nat.le_of_ble_eq_true
def tZ:=@Nat.le_div_iff_mul_le
def tX:=@Int.natCast_ediv
def tJ:=@Nat.le_of_not_lt
def tK:=@List.flatMap_nil
def tV:=@Rat.mkRat_one
def tW:=@List.all_cons
def tY:=@Int.mul_neg
def tU:=@Rat.neg_den
def tT:=@Nat.not_lt_zero
def tL:=@List.sum_append
def tM:=@Array.toList_zipIdx
def tN:=@List.replicate_succ
def uQ:=@List.drop_set_of_lt
def uZ:=@List.drop_succ_cons
def uX:=@List.map_congr_left
def uJ:=@List.map_eq_nil_iff
def uK:=@Nat.mul_zero
def uV:=@Nat.lt_trans
def uW:=@Nat.pow_zero
def uY:=@Rat.mul_comm
def uU:=@List.take_zero
def uT:=@List.foldl_map
def uR:=@Nat.pow_mul
def uS:=@Int.neg_mul
def uL:=@Rat.mul_pos
def uM:=@Nat.gcd_rec
def uN:=@Nat.div_one
abbrev Gh:=Nat->Option (List Value)
variable {G G':Gh}
def b7(G G':Gh):Prop:= ∀b cs,G b=some cs->G' b=some cs
def b7.refl(G:Gh):b7 G G:=fun _ _ h=>h
def b7.trans{a b c:Gh}(h:b7 a b)(k:b7 b c):b7 a c:=fun _ _ x=>k _ _ (h _ _ x)
structure aA where
 b:Nat
 cs:List Value
 ty:TypeId
 lo:Bool
variable {own' M rest:List aA}
structure aH where
 w0:World
 G0:Gh
 mb:List Nat
 /-- other objects that stay: records of loops, marks -/
 ex:List (Nat×Obj)
 /-- the marks among the deferred calls; the round -/
 mks:List Deferred
 rd:Option Nat
 /-- where names that are fixed lie -/
 fx:Nat->Option Addr
variable {C:aH}
structure bI (C:aH) (own:List aA) (G:Gh) (w:World):Prop where
 os:w.os=C.w0.os
 tape:w.tape=C.w0.tape
 output:w.output=C.w0.output
 size:C.w0.heap.size<=w.heap.size
 keep: ∀b,b<C.w0.heap.size->b∉C.mb->w.heap[b]? =C.w0.heap[b]?
 sub: ∀b cs,G b=some cs-> ∃ty fz,w.heap[b]? =some (.cells ⟨cs⟩ ty fz)
 gle:b7 C.G0 G
 gold: ∀b,b<C.w0.heap.size->G b=C.G0 b
 hown: ∀o∈own,w.heap[o.b]? =some (.cells ⟨o.cs⟩ o.ty (0,0))/\G o.b=none/\(o.lo=true->C.w0.heap.size<=o.b)/\(o.lo=false->o.b∈C.mb)
 nd:own.Pairwise (fun x y=>x.b≠y.b)
 dr:C.w0.drawn<=w.drawn
 ext: ∀p∈C.ex,(∀cs ty z,p.2≠ .cells cs ty z)/\w.heap[p.1]? =some p.2
abbrev Fr:=List (Nat×Value)
def i0:Fr->Nat->Option Value
 |[],_=>none
 |(k,v)::t,j=>bif Nat.beq k j then some v else i0 t j
def put(fr:Fr)(dst:Option Nat)(v:Value):Fr:=match dst with|some d=>(d,v)::fr|none=>fr
def ma(fr:Fr)(a:Act):Prop:= ∀k v,i0 fr k=some v->a.tmps[k]? =some v
structure io (C:aH) (n:Nat) (fr:Fr) (own:List aA) (G:Gh) (a:Act) (w:World):Prop where
 h:bI C own G w
 sz:a.tmps.size=n
 fr:ma fr a
 df:a.defers=C.mks
def St(C:aH)(n:Nat)(fr:Fr)(own:List aA)(G:Gh)(Φ:Act->World->Prop):Prop:=
 ∀a w,io C n fr own G a w->Φ a w
def aE(fr:Fr):Operand->Option Value
 | .tmp k=>i0 fr k
 | .const v=>some v
 | .global g=>some (.pointer (some ⟨g,0,none⟩))
 | .func f=>some (.func (.func f) #[] #[])
def bF{fr:Fr}(h:ma fr a)(hx:aE fr x=some v):a.eval x=v:=by
 cases x with
 |tmp k=>
  have:=h k v hx;simp only[Act.eval,cV,this,mQ]
 |const u=>simpa[aE,Act.eval] using hx
 |global g=>simpa[aE,Act.eval] using hx
 |func f=>simpa[aE,Act.eval] using hx
def vP(k:Nat)(v:Value)(t:Fr)(j:Nat):i0 ((k,v)::t) j=if k=j then some v else i0 t j:=by
 simp only[i0];by_cases h:k=j
 .simp[h]
 .have:Nat.beq k j=false:=by
   cases hb:Nat.beq k j with
   |false=>rfl
   |true=>exact absurd (bX hb) h
  simp[this,h]
def co(n:Nat):Option Nat->Bool
 |some d=>Nat.blt d n
 |none=>true
def ma.put{fr:Fr}{a:Act}{n:Nat}(h:ma fr a)(hs:a.tmps.size=n){dst:Option Nat}{v:Value}(hd:co n dst=true):ma (Sx.put fr dst v) (a.put dst v):=by
 cases dst with
 |none=>exact h
 |some d=>
  intro k u hk;have hdn:d<n:=by simpa[co,lV] using hd
  simp only[Sx.put,vP] at hk;simp only[Act.put,eM];by_cases hkd:d=k
  .simp only[hkd,if_true] at hk
   subst hkd;simp[hs,hdn,hk]
  .simp only[hkd,if_false] at hk
   simp only[hkd,if_false];exact h k u hk
def Qp(a:Act)(dst:Option Nat)(v:Value):(a.put dst v).tmps.size=a.tmps.size:=by cases dst<;>simp[Act.put]
def T9(a:Act)(dst:Option Nat)(v:Value):(a.put dst v).defers=a.defers:=by cases dst<;>simp[Act.put]
def io.put{C n fr own G a w}(r:io C n fr own G a w){dst:Option Nat}(v:Value)(hd:co n dst=true):io C n (Sx.put fr dst v) own G (a.put dst v) w:=
 ⟨r.h,by rw[Qp];exact r.sz,r.fr.put r.sz hd,by rw[T9];exact r.df⟩
def io.heap{C n fr own G own' G' a w w'}(r:io C n fr own G a w)(h:bI C own' G' w'):io C n fr own' G' a w':=⟨h,r.sz,r.fr,r.df⟩
def dt(P:Program)(ops:Array Oper)(Q:Exit->Act->World->Prop):List Oper->Act->World->Prop
 |[],a,w=>Q .normal a w
 |o::r,a,w=>if Region.wanted o (yielded ops a.tmps) then o.wp P a w (dt P ops Q r) Q else dt P ops Q r (a.put o.dst undef) w
theorem ozq{p:Prop}(h:p:=by simpa using hk):p:=h
def Z7: ∀(l:List Nat) (k:Nat) (a:Act) (w:World),l=(List.range ops.size).drop k->dt P ops Q (ops.toList.drop k) a w->wpOps P ops Q l a w:=by
 intro l
 induction l with
 |nil=>
  intro k a w hl h;have hk:ops.size<=k:=by
   have:=congrArg List.length hl;simp at this;omega
  rw[iN ozq] at h;exact h
 |cons i t ih=>
  intro k a w hl h;have hk:k<ops.size:=by
   have:=congrArg List.length hl;simp at this;omega
  rw[bK ozq] at hl;obtain⟨hi,ht⟩:=List.cons.inj hl;simp only[List.getElem_range] at hi;subst hi;rw[bK ozq] at h;have ho:ops[i]? =some ops[i]:=iJ hk;simp only[wpOps,ho];simp only[dt,Array.getElem_toList] at h;split
  .rename_i hw
   simp only[hw,if_true] at h;exact .inl (Oper.wp_mono (fun a w h=>ih (i+1) a w ht h) h)
  .rename_i hw
   simp only[hw] at h;exact ih (i+1) _ w ht h
theorem omE{p:Prop}(h:p:=by simpa using h):p:=h
def aqT{id:Nat}
  (h:dt P ops Q ops.toList a w):(Code.region id ops false).wp P Q a w:=
 wp_region (Z7 _ 0 a w omc omE)
def Yd(P:Program)(C:aH)(fr:Fr)(own:List aA)(G:Gh)(o:Oper)(v:Value):Prop:=
 ∀a w,ma fr a->bI C own G w->(execOp a.eval o).run P w= .ok (.value v) w
section
variable {fr:Fr}{own:List aA}
def rp(hy:Yd P C fr own G o v)(hg:o.guard=none)(hd:co n o.dst=true)
  (h:St C n (put fr o.dst v) own G (dt P ops Q r)):St C n fr own G (dt P ops Q (o::r)):=by
 intro a w rl;simp only[dt,Region.wanted,hg,if_true,Oper.wp,hy a w rl.fr rl.h,Oper.upon];exact h _ _ (rl.put v hd)
def Na{b:Bool}(hf:ma fr a)(hj:(ops[j]?).bind (·.dst)=some d)(hl:i0 fr d=some (.bool b)):yielded ops a.tmps j=some b:=by
 unfold yielded;rw[hj];simp[hf d _ hl]
def aK0{b:Bool}(hg:o.guard=some (j,b))(hj:(ops[j]?).bind (·.dst)=some d)(hl:i0 fr d=some (.bool b))
  (hy:Yd P C fr own G o v)(hd:co n o.dst=true)
  (h:St C n (put fr o.dst v) own G (dt P ops Q r)):St C n fr own G (dt P ops Q (o::r)):=by
 intro a w rl;have:Region.wanted o (yielded ops a.tmps)=true:=by simp[Region.wanted,hg,Na rl.fr hj hl]
 simp only[dt,this,if_true,Oper.wp,hy a w rl.fr rl.h,Oper.upon];exact h _ _ (rl.put v hd)
def aEJ{b c:Bool}(hg:o.guard=some (j,b))(hj:(ops[j]?).bind (·.dst)=some d)(hl:i0 fr d=some (.bool c))(hbc:(c==b)=false)
  (hd:co n o.dst=true)(h:St C n (put fr o.dst undef) own G (dt P ops Q r)):St C n fr own G (dt P ops Q (o::r)):=by
 intro a w rl;have:Region.wanted o (yielded ops a.tmps)=false:=by simp[Region.wanted,hg,Na rl.fr hj hl,hbc]
 simp only[dt,this];exact h _ _ (rl.put undef hd)
def zE(h:St C n fr own G (Q .normal)):St C n fr own G (dt P ops Q []):=h
def Fa{id:Nat}(h:St C n fr own G (dt P ops Q ops.toList)):St C n fr own G ((Code.region id ops false).wp P Q):=
 fun a w rl=>aqT (h a w rl)
def fw{x:Code}(h:St C n fr own G (x.wp P (Exit.then (y.wp P Q) Q))):St C n fr own G ((Code.seq x y).wp P Q):=
 fun a w rl=>wp_seq (h a w rl)
def zK(h:St C n fr own G (Q .normal)):St C n fr own G (Code.skip.wp P Q):=fun a w rl=>wp_skip (h a w rl)
def lD(h:St C n fr own G (Q .ret)):St C n fr own G (Code.ret.wp P Q):=fun a w rl=>wp_ret (h a w rl)
def Pu{id:Nat}(h:St C n fr own G (Q (.exit id))):St C n fr own G ((Code.exit id).wp P Q):=fun a w rl=>wp_exit (h a w rl)
def yf{id:Nat}{c:Code}(h:St C n fr own G (c.wp P (Exit.inBlock id Q))):St C n fr own G ((Code.block id c).wp P Q):=
 fun a w rl=>wp_block (h a w rl)
def RP{id:Nat}(h:St C n fr own G (Q .normal)):St C n fr own G (Exit.inBlock id Q (.exit id)):=
 fun a w rl=>by simp only[Exit.inBlock,if_true];exact h a w rl
def uz{x:Code}(hc:aE fr c=some (.bool true))(h:St C n fr own G (x.wp P Q)):St C n fr own G ((Code.cond c x y).wp P Q):=
 fun a w rl=>wp_cond_true (bF rl.fr hc) (h a w rl)
def s5{x:Code}(hc:aE fr c=some (.bool false))(h:St C n fr own G (y.wp P Q)):St C n fr own G ((Code.cond c x y).wp P Q):=
 fun a w rl=>wp_cond_false (bF rl.fr hc) (h a w rl)
def xj{p:Prop}{inst:Decidable p}{x:Code}(hc:aE fr c=some (.bool (@decide p inst)))(h1:p->St C n fr own G (x.wp P Q))(h2: ¬p->St C n fr own G (y.wp P Q)):
  St C n fr own G ((Code.cond c x y).wp P Q):=
 fun a w rl=>wp_cond_split (bF rl.fr hc) (fun h=>h1 (of_decide_eq_true h) a w rl) (fun h=>h2 (of_decide_eq_false h) a w rl)
def aBQ{b:Bool}{x:Code}(hc:aE fr c=some (.bool b))(h1:b=true->St C n fr own G (x.wp P Q))(h2:b=false->St C n fr own G (y.wp P Q)):
  St C n fr own G ((Code.cond c x y).wp P Q):=
 fun a w rl=>wp_cond_split (bF rl.fr hc) (fun h=>h1 h a w rl) (fun h=>h2 h a w rl)
def aFr(d:Nat){b:Bool}(hl:i0 fr d=some (.bool b))(h1:b=true->St C n ((d, .bool true)::fr) own G Φ)(h2:b=false->St C n ((d, .bool false)::fr) own G Φ):St C n fr own G Φ:=by
 intro a w rl
 cases b with
 |true=>exact h1 J a w ⟨rl.h,rl.sz,fun k v hk=>by
   rw[vP] at hk;split at hk
   .subst_vars;cases hk;exact rl.fr _ _ hl
   .exact rl.fr _ _ hk,rl.df⟩
 |false=>exact h2 J a w ⟨rl.h,rl.sz,fun k v hk=>by
   rw[vP] at hk;split at hk
   .subst_vars;cases hk;exact rl.fr _ _ hl
   .exact rl.fr _ _ hk,rl.df⟩
def Aq(d:Nat){p:Prop}{inst:Decidable p}(hl:i0 fr d=some (.bool (@decide p inst)))(h1:p->St C n ((d, .bool true)::fr) own G Φ)(h2: ¬p->St C n ((d, .bool false)::fr) own G Φ):St C n fr own G Φ:=
 aFr d hl (fun h=>h1 (of_decide_eq_true h)) (fun h=>h2 (of_decide_eq_false h))
def xk(fr' fr:Fr):Prop:= ∀k v,i0 fr' k=some v->i0 fr k=some v
def xk.nil:xk [] fr:=fun _ _ h=>by cases h
def xk.cons{fr':Fr}{k:Nat}{v:Value}(h:i0 fr k=some v)(t:xk fr' fr):xk ((k,v)::fr') fr:=fun j u hj=>by
 rw[vP] at hj;split at hj
 .subst_vars;cases hj;exact h
 .exact t _ _ hj
def aBH(fr':Fr)(hle:xk fr' fr)(h:St C n fr' own G Φ):St C n fr own G Φ:=
 fun a w rl=>h a w ⟨rl.h,rl.sz,fun k v hk=>rl.fr _ _ (hle _ _ hk),rl.df⟩
end
class jc (own:List aA) (b:Nat) (cs:outParam (List Value)) (ty:outParam TypeId) (lo:outParam Bool):Prop where
 mem:⟨b,cs,ty,lo⟩∈own
instance jc.i1 (b:Nat) (cs:List Value) (ty:TypeId) (lo:Bool) (t:List aA):jc (⟨b,cs,ty,lo⟩::t) b cs ty lo:=⟨aQ⟩
instance jc.i2 (o:aA) (t:List aA) (b:Nat) (cs:List Value) (ty:TypeId) (lo:Bool) [h:jc t b cs ty lo]:jc (o::t) b cs ty lo:=⟨aJ _ h.mem⟩
inductive iE:List aA->Nat->List Value->TypeId->Bool->List Value->List aA->Prop
 |hd (b:Nat) (cs cs':List Value) (ty:TypeId) (lo:Bool) (t:List aA):iE (⟨b,cs,ty,lo⟩::t) b cs ty lo cs' (⟨b,cs',ty,lo⟩::t)
 |tl (o:aA) (t t':List aA) (b:Nat) (cs cs':List Value) (ty:TypeId) (lo:Bool) (h:iE t b cs ty lo cs' t'):iE (o::t) b cs ty lo cs' (o::t')
inductive kn:List aA->aA->List aA->Prop
 |hd (o:aA) (t:List aA):kn (o::t) o t
 |tl (x:aA) (t t':List aA) (o:aA) (h:kn t o t'):kn (x::t) o (x::t')
class GE (A:outParam Gh) (B:Gh):Prop where le:b7 A B
class GL (A B:Gh):Prop where le:b7 A B
instance GL.refl (A:Gh):GL A A:=⟨b7.refl A⟩
instance GL.step (A B C:Gh) [h:GE B C] [k:GL A B]:GL A C:=⟨k.le.trans h.le⟩
class ub (G:outParam Gh) (b:Nat) (cs:outParam (List Value)):Prop where h:G b=some cs
def cF:List Value->Nat->Nat->Option (List Value)
 |_,0,0=>some []
 |[],0,_+1=>none
 |v::t,0,k+1=>match cF t 0 k with|some l=>some (v::l)|none=>none
 |[],_+1,_=>none
 |_::t,off+1,k=>cF t off k
def cH:List Value->Nat->List Value->List Value
 |cs,_,[]=>cs
 |cs,off,v::vs=>cH (cs.set off v) (off+1) vs
def ru: ∀(cs:List Value) (off k:Nat) (l:List Value),cF cs off k=some l->l.length=k/\ ∀i,i<k->cs[off+i]? =l[i]?
 |cs,0,0,l,h=>by
  cases cs<;>(simp only[cF] at h;cases h;exact⟨J,fun i hi=>absurd hi (tT _)⟩)
 |[],0,_+1,l,h=>by simp[cF] at h
 |v::t,0,k+1,l,h=>by
  simp only[cF] at h;split at h
  .rename_i l' hl'
   cases h
   obtain⟨h1,h2⟩:=ru t 0 k l' hl';refine⟨by simp[h1],fun i hi=>?_⟩
   cases i with
   |zero=>rfl
   |succ i=>
    have:=h2 i we;simpa using this
  .cases h
 |[],_+1,_,l,h=>by simp[cF] at h
 |_::t,off+1,k,l,h=>by
  simp only[cF] at h;obtain⟨h1,h2⟩:=ru t off k l h;refine⟨h1,fun i hi=>?_⟩;have:=h2 i hi;rw[<-this,show off+1+i=(off+i)+1 by omega];rfl
class li (P:Program) (t:TypeId) (k:outParam Nat):Prop where
 agg: ∀w,(isAgg t).run P w= .ok true w
 siz: ∀w,(sizeOf t).run P w= .ok k w
class kO (P:Program) (t:TypeId):Prop where
 agg: ∀w,(isAgg t).run P w= .ok false w
 siz: ∀w,(sizeOf t).run P w= .ok 1 w
class gA (P:Program) (t:TypeId) (z:outParam Value):Prop where
 inf:(P.info? t).map (·.zero)=some (some z)
class lE (P:Program) (t:TypeId) (f:Nat) (off:outParam Nat):Prop where
 at_: ∀(b o:Nat) w,(Instr.fieldAt t (.pointer (some ⟨b,o,none⟩)) f).run P w= .ok (.pointer (some (Addr.add ⟨b,o,none⟩ off))) w
class cE (P:Program) (t:TypeId) (e s by_:outParam Nat):Prop where
 un:P.underlying t=some (.slice e)
 inf:(P.info? e).map (fun i=>(i.size,i.bytes))=some (s,by_)
def gA.info{P:Program}{t:TypeId}{z:Value}(h:gA P t z): ∃i,P.info? t=some i/\i.zero=some z:=by
 have:=h.inf
 cases hi:P.info? t with
 |none=>rw[hi] at this;cases this
 |some i=>rw[hi] at this;exact⟨i,J,by simpa using this⟩
def cE.info{P:Program}{t e s by_:Nat}(h:cE P t e s by_): ∃i,P.info? e=some i/\i.size=s/\i.bytes=by_:=by
 have:=h.inf
 cases hi:P.info? e with
 |none=>rw[hi] at this;cases this
 |some i=>rw[hi] at this;simp at this;exact⟨i,J,this.1,this.2⟩
def si(b o n:Nat):Addr.add ⟨b,o,none⟩ n=⟨b,o+n,none⟩:=by
 unfold Addr.add;split
 .subst_vars;rfl
 .rfl
def Sem.run_bind(P:Program)(x:Sem α)(f:α->Sem β): ∀(w:World),(x>>=f).run P w=match x.run P w with| .ok a w'=>(f a).run P w'| .halt h w'=> .halt h w':=by
 show∀w,(Sem.bind x f).run P w=_
 induction x with
 |pure a=>intro w;rfl
 |load m a k ih=>
  intro w;simp only[Sem.bind,Sem.run];split
  .exact ih _ w
  .split
   .exact ih _ w
   .rfl
 |store m a v k ih=>
  intro w
  cases v<;>simp only[Sem.bind,Sem.run]<;>(try rfl)<;>(split<;>first|(split<;>first|rfl|exact ih _)|rfl)
 |new o k ih=>intro w;exact ih _ _
 |shape r k ih=>intro w;exact ih _ _
 |freeze a n k ih=>intro w;exact ih _
 |frozen a k ih=>intro w;exact ih _ _
 |getObj r k ih=>
  intro w;simp only[Sem.bind,Sem.run];split
  .rfl
  .exact ih _ w
  .rfl
 |setObj r o k ih=>
  intro w;simp only[Sem.bind,Sem.run];split
  .rfl
  .exact ih _
  .rfl
 |choose q k ih=>
  intro w;simp only[Sem.bind,Sem.run];split
  .exact ih _ _
  .exact ih _ _
 |sys c k ih=>intro w;exact ih _ _
 |program k ih=>intro w;exact ih _ _
 |mark m k ih=>intro w;exact ih _
 |halt h=>intro w;rfl
def run_pure(P:Program)(a:α)(w:World):(pure a:Sem α).run P w= .ok a w:=rfl
def bj{x:Sem α}{f:α->Sem β}{a:α}(h:x.run P w= .ok a w'):(x>>=f).run P w=(f a).run P w':=by
 rw[Sem.run_bind,h]
def gA.zero{z:Value}(h:gA P t z)(w:World):(zeroValue t).run P w= .ok z w:=by
 obtain⟨i,h1,h2⟩:=h.info;simp[zeroValue,typeInfo,program,Sem.run_bind,Sem.run,h1,h2,run_pure]
def cE.u{t:Nat}(h:cE P t e s by_)(w:World):(underlying t).run P w= .ok (.slice e) w:=by
 simp[underlying,program,Sem.run_bind,Sem.run,h.un,run_pure]
def cE.siz{t:Nat}(h:cE P t e s by_)(w:World):(sizeOf e).run P w= .ok s w:=by
 obtain⟨i,h1,h2,_⟩:=h.info;simp[sizeOf,typeInfo,program,Sem.run_bind,Sem.run,h1,h2,run_pure]
section
variable {fr:Fr}{own:List aA}
def FH{b:Nat}{cs:List Value}{ty:TypeId}{fz:Nat×Nat}(h:w.heap[b]? =some (.cells ⟨cs⟩ ty fz))(i:Nat):w.cell? ⟨b,i,none⟩=cs[i]? :=by
 simp[World.cell?,h]
def O7{a:Addr}(h:w.cell? a=some v):(load a).run P w= .ok v w:=by
 simp[load,Sem.run,h]
def Im{w:World}{b off:Nat}{l:List Value}: ∀(m i:Nat) (acc:Array Value),(∀j,j<m->w.cell? ⟨b,off+(i+j),none⟩=l[i+j]?)->i+m<=l.length->
  (loadCellsFrom ⟨b,off,none⟩ i m acc).run P w= .ok (acc++((l.drop i).take m).toArray) w
 |0,i,acc,_,_=>by simp[loadCellsFrom,run_pure]
 |m+1,i,acc,h,hl=>by
  have h0:=h 0 we;rw[gV,aZ we] at h0;unfold loadCellsFrom;rw[bj (a:=l[i]) (w':=w) (by rw[si];exact O7 h0)];rw[Im m (i+1) (acc.push l[i]) (fun j hj=>by have:=h (j+1) we;rw[show i+1+j=i+(j+1) by omega];exact this) we];congr 1;rw[bK (by omega:i<l.length),oL];apply Array.ext';simp
def J3{b k:Nat}{cs:List Value}[ht:li P t k]{ty:TypeId}{fz:Nat×Nat}(h:w.heap[b]? =some (.cells ⟨cs⟩ ty fz))(hl:cF cs off k=some l):
  (loadVar t ⟨b,off,none⟩).run P w= .ok (.agg ⟨l⟩) w:=by
 obtain⟨h1,h2⟩:=ru _ _ _ _ hl;unfold loadVar;rw[bj (ht.agg w)];simp only[if_true];rw[bj (ht.siz w)];unfold loadCells;rw[bj (Im (l:=l) k 0 #[] (fun j hj=>by rw[FH h];simpa using h2 j hj) we)];simp[run_pure,<-h1]
def JR{b:Nat}{cs:List Value}[ht:kO P t]{ty:TypeId}{fz:Nat×Nat}(h:w.heap[b]? =some (.cells ⟨cs⟩ ty fz))(hl:cs[off]? =some v):
  (loadVar t ⟨b,off,none⟩).run P w= .ok v w:=by
 unfold loadVar;rw[bj (ht.agg w)];simp only[gR,if_false];exact O7 (by rw[FH h];exact hl)
def dh{f:α->Next}{s:Sem α}{a:α}(h:s.run P w= .ok a w'):(do pure (f (<-s)):Sem Next).run P w= .ok (f a) w':=by
 rw[bj h];rfl
def D6{gd:Option (Nat×Bool)}{b k:Nat}{cs:List Value}{lo:Bool}{ty:TypeId}
  (hx:aE fr x=some (.pointer (some ⟨b,off,none⟩)))[ho:jc own b cs ty lo][li P t k](hl:cF cs off k=some l):
  Yd P C fr own G ⟨dst, .load t x,ty',pos,af,gd⟩ (.agg ⟨l⟩):=by
 intro a w hf hh;simp only[execOp,bF hf hx,Instr.loadAt,Instr.sureAddr];exact dh (J3 (hh.hown _ ho.mem).1 hl)
def pp{gd:Option (Nat×Bool)}{b:Nat}{cs:List Value}{lo:Bool}{ty:TypeId}
  (hx:aE fr x=some (.pointer (some ⟨b,off,none⟩)))[ho:jc own b cs ty lo][kO P t](hl:cs[off]? =some v):
  Yd P C fr own G ⟨dst, .load t x,ty',pos,af,gd⟩ v:=by
 intro a w hf hh;simp only[execOp,bF hf hx,Instr.loadAt,Instr.sureAddr];exact dh (JR (hh.hown _ ho.mem).1 hl)
def GH{gd:Option (Nat×Bool)}{b k:Nat}{cs:List Value}
  (hx:aE fr x=some (.pointer (some ⟨b,off,none⟩)))(hg:G b=some cs)[li P t k](hl:cF cs off k=some l):
  Yd P C fr own G ⟨dst, .load t x,ty',pos,af,gd⟩ (.agg ⟨l⟩):=by
 intro a w hf hh;obtain⟨ty,fz,hb⟩:=hh.sub _ _ hg;simp only[execOp,bF hf hx,Instr.loadAt,Instr.sureAddr];exact dh (J3 hb hl)
def tA{gd:Option (Nat×Bool)}{b:Nat}{cs:List Value}
  (hx:aE fr x=some (.pointer (some ⟨b,off,none⟩)))(hg:G b=some cs)[kO P t](hl:cs[off]? =some v):
  Yd P C fr own G ⟨dst, .load t x,ty',pos,af,gd⟩ v:=by
 intro a w hf hh;obtain⟨ty,fz,hb⟩:=hh.sub _ _ hg;simp only[execOp,bF hf hx,Instr.loadAt,Instr.sureAddr];exact dh (JR hb hl)
variable {gd:Option (Nat×Bool)}{y:Operand}
def mo(hx:aE fr x=some v):Yd P C fr own G ⟨dst, .move x,ty',pos,af,gd⟩ v:=by
 intro a w hf hh;simp only[execOp,bF hf hx];rfl
def La(hx:aE fr x=some v):Yd P C fr own G ⟨dst, .assign x,ty',pos,af,gd⟩ v:=by
 intro a w hf hh;simp only[execOp,bF hf hx];rfl
def HE(hc:aE fr z=some (.bool true))(hx:aE fr x=some v):Yd P C fr own G ⟨dst, .pick z x y,ty',pos,af,gd⟩ v:=by
 intro a w hf hh;simp only[execOp,bF hf hc,bF hf hx,asBool];rfl
def ta(hc:aE fr z=some (.bool false))(hx:aE fr y=some v):Yd P C fr own G ⟨dst, .pick z x y,ty',pos,af,gd⟩ v:=by
 intro a w hf hh;simp only[execOp,bF hf hc,bF hf hx,asBool];rfl
def og{ad:Addr}(hx:aE fr x=some (.pointer (some ad))):Yd P C fr own G ⟨dst, .nilCheck x,ty',pos,af,gd⟩ (.pointer (some ad)):=by
 intro a w hf hh;simp only[execOp,bF hf hx];rfl
def sj{b o:Nat}[hF:lE P t f off](hx:aE fr x=some (.pointer (some ⟨b,o,none⟩))):
  Yd P C fr own G ⟨dst, .fieldAddr t x f,ty',pos,af,gd⟩ (.pointer (some ⟨b,o+off,none⟩)):=by
 intro a w hf hh;simp only[execOp,bF hf hx];have:=hF.at_ b o w;rw[si] at this;exact dh this
def zj{vs:Array Value}(hx:aE fr x=some (.tuple vs))(hv:vs[i]? =some v):Yd P C fr own G ⟨dst, .extract x i,ty',pos,af,gd⟩ v:=by
 intro a w hf hh;simp only[execOp,bF hf hx,Instr.extract,hv];rfl
def L1{fn:Fn}{c1 c2:Array Operand}(h1:c1.toList.mapM (aE fr)=some l1)(h2:c2.toList.mapM (aE fr)=some l2):
  Yd P C fr own G ⟨dst, .makeFunc fn c1 c2,ty',pos,af,gd⟩ (.func fn ⟨l1⟩ ⟨l2⟩):=by
 intro a w hf hh;have key: ∀(l:List Operand) (m:List Value),l.mapM (aE fr)=some m->l.map a.eval=m:=by
  intro l
  induction l with
  |nil=>intro m h;simp at h;subst h;rfl
  |cons o t ih=>
   intro m h;rw[sQ] at h
   cases ho:aE fr o with
   |none=>simp[ho] at h
   |some u=>
    cases ht:t.mapM (aE fr) with
    |none=>simp[ho,ht] at h
    |some m'=>
     simp[ho,ht] at h;subst h;simp[bF hf ho,ih _ ht]
 have e1:c1.map a.eval=⟨l1⟩:=by apply Array.ext';simpa using key _ _ h1
 have e2:c2.map a.eval=⟨l2⟩:=by apply Array.ext';simpa using key _ _ h2
 simp only[execOp,e1,e2];rfl
def mf{op:BinOp}(hx:aE fr x=some (.int k p))(hy:aE fr y=some (.int k q))(hs: ∀w,(binOp op t (.int k p) (.int k q)).run P w= .ok v w):
  Yd P C fr own G ⟨dst, .binOp op t x y t',ty',pos,af,gd⟩ v:=by
 intro a w hf hh;simp only[execOp,bF hf hx,bF hf hy];have:(eqGuard op t x y (.int k p) (.int k q)).run P w= .ok () w:=by cases op<;>rfl
 exact dh (by rw[bj this];exact hs w)
def awf(k:IntKind)(p q:Int)(w:World):(binOp .add t (.int k p) (.int k q)).run P w= .ok (.int k (k.wrap (p+q))) w:=by simp[binOp,Op.intArith,run_pure]
def UL(k:IntKind)(p q:Int)(w:World):(binOp .sub t (.int k p) (.int k q)).run P w= .ok (.int k (k.wrap (p-q))) w:=by simp[binOp,Op.intArith,run_pure]
def avI(k:IntKind)(p q:Int)(w:World):(binOp .mul t (.int k p) (.int k q)).run P w= .ok (.int k (k.wrap (p*q))) w:=by simp[binOp,Op.intArith,run_pure]
def ayI(k:IntKind)(p q:Int)(w:World)(h:q≠0):(binOp .quo t (.int k p) (.int k q)).run P w= .ok (.int k (k.wrap (p.tdiv q))) w:=by simp[binOp,Op.intDiv,run_pure,h]
def avv(k:IntKind)(p q:Int)(w:World)(h:q≠0):(binOp .rem t (.int k p) (.int k q)).run P w= .ok (.int k (p.tmod q)) w:=by simp[binOp,Op.intDiv,run_pure,h]
def axV(k:IntKind)(p q:Int)(w:World):(binOp .lss t (.int k p) (.int k q)).run P w= .ok (.bool (decide (p<q))) w:=by simp[binOp,Op.intCmp,run_pure]
def Z8(k:IntKind)(p q:Int)(w:World):(binOp .leq t (.int k p) (.int k q)).run P w= .ok (.bool (decide (p<=q))) w:=by simp[binOp,Op.intCmp,run_pure]
def avU(k:IntKind)(p q:Int)(w:World):(binOp .gtr t (.int k p) (.int k q)).run P w= .ok (.bool (decide (q<p))) w:=by simp[binOp,Op.intCmp,run_pure]
def ay1(k:IntKind)(p q:Int)(w:World):(binOp .geq t (.int k p) (.int k q)).run P w= .ok (.bool (decide (q<=p))) w:=by simp[binOp,Op.intCmp,run_pure]
def avr(k:IntKind)(p q:Int)(w:World):(binOp .eql t (.int k p) (.int k q)).run P w= .ok (.bool (decide (p=q))) w:=by
 have:(p==q)=decide (p=q):=by rw[rW];simp
 simp[binOp,Op.intCmp,run_pure,this]
def avx(k:IntKind)(p q:Int)(w:World):(binOp .neq t (.int k p) (.int k q)).run P w= .ok (.bool (decide (p≠q))) w:=by
 have:(p !=q)=decide (p≠q):=by rw[rW];simp
 simp[binOp,Op.intCmp,run_pure,this]
def tI(h:k.min<=p/\p<=k.max):k.wrap p=p:=by
 cases k<;>simp only[IntKind.min,IntKind.max,IntKind.wrap,IntKind.bits,IntKind.signed] at* <;>simp at h⊢ <;>(try split)<;>omega
def U2(hx:aE fr x=some (.int k p))(hy:aE fr y=some (.int k q))(h:k.min<=p+q/\p+q<=k.max):Yd P C fr own G ⟨dst, .binOp .add t x y t',ty',pos,af,gd⟩ (.int k (p+q)):=
 mf hx hy fun w=>by rw[awf,tI h]
def QU(hx:aE fr x=some (.int k p))(hy:aE fr y=some (.int k q))(h:k.min<=p-q/\p-q<=k.max):Yd P C fr own G ⟨dst, .binOp .sub t x y t',ty',pos,af,gd⟩ (.int k (p-q)):=
 mf hx hy fun w=>by rw[UL,tI h]
def aJW(hx:aE fr x=some (.int k p))(hy:aE fr y=some (.int k q))(h:k.min<=p*q/\p*q<=k.max):Yd P C fr own G ⟨dst, .binOp .mul t x y t',ty',pos,af,gd⟩ (.int k (p*q)):=
 mf hx hy fun w=>by rw[avI,tI h]
def aEQ(hx:aE fr x=some (.int k p))(hy:aE fr y=some (.int k q)):Yd P C fr own G ⟨dst, .binOp .sub t x y t',ty',pos,af,gd⟩ (.int k (k.wrap (p-q))):=mf hx hy fun w=>UL k p q w
def QR(hx:aE fr x=some (.int k p))(hy:aE fr y=some (.int k q))(h:q≠0):Yd P C fr own G ⟨dst, .binOp .quo t x y t',ty',pos,af,gd⟩ (.int k (k.wrap (p.tdiv q))):=mf hx hy fun w=>ayI k p q w h
def UO(hx:aE fr x=some (.int k p))(hy:aE fr y=some (.int k q))(h:q≠0):Yd P C fr own G ⟨dst, .binOp .rem t x y t',ty',pos,af,gd⟩ (.int k (p.tmod q)):=mf hx hy fun w=>avv k p q w h
def Gn(hx:aE fr x=some (.int k p))(hy:aE fr y=some (.int k q)):Yd P C fr own G ⟨dst, .binOp .lss t x y t',ty',pos,af,gd⟩ (.bool (decide (p<q))):=mf hx hy fun w=>axV k p q w
def aIy(hx:aE fr x=some (.int k p))(hy:aE fr y=some (.int k q)):Yd P C fr own G ⟨dst, .binOp .leq t x y t',ty',pos,af,gd⟩ (.bool (decide (p<=q))):=mf hx hy fun w=>Z8 k p q w
def CV(hx:aE fr x=some (.int k p))(hy:aE fr y=some (.int k q)):Yd P C fr own G ⟨dst, .binOp .gtr t x y t',ty',pos,af,gd⟩ (.bool (decide (q<p))):=mf hx hy fun w=>avU k p q w
def Mi(hx:aE fr x=some (.int k p))(hy:aE fr y=some (.int k q)):Yd P C fr own G ⟨dst, .binOp .geq t x y t',ty',pos,af,gd⟩ (.bool (decide (q<=p))):=mf hx hy fun w=>ay1 k p q w
def mn(hx:aE fr x=some (.int k p))(hy:aE fr y=some (.int k q)):Yd P C fr own G ⟨dst, .binOp .eql t x y t',ty',pos,af,gd⟩ (.bool (decide (p=q))):=mf hx hy fun w=>avr k p q w
def Vl(hx:aE fr x=some (.int k p))(hy:aE fr y=some (.int k q)):Yd P C fr own G ⟨dst, .binOp .neq t x y t',ty',pos,af,gd⟩ (.bool (decide (p≠q))):=mf hx hy fun w=>avx k p q w
def wx[hT:cE P t e s by_](hx:aE fr x=some (.slice ad len cap)):
  Yd P C fr own G ⟨dst, .call ⟨.builtin .len, #[x], #[t]⟩,ty',pos,af,gd⟩ (.int .i64 len):=by
 intro a w hf hh;simp only[execOp,resolve,jZ,bY,iU,bF hf hx];have h1:(Builtin.len_ #[t] ty' #[.slice ad len cap]).run P w= .ok (.int .i64 len) w:=by
  simp only[Builtin.len_];show(underlying t>>=_).run P w=_;rw[bj (hT.u w)];rfl
 exact dh h1
def xz[hT:cE P t e s by_]{b:Nat}{i:Int}(hx:aE fr x=some (.slice (some ⟨b,off,none⟩) len cap))(hy:aE fr y=some (.int k i))(h0:0<=i:=by omega)(h1:i<len:=by omega):
  Yd P C fr own G ⟨dst, .indexAddr t x y,ty',pos,af,gd⟩ (.pointer (some ⟨b,off+i.toNat*s,none⟩)):=by
 intro a w hf hh;simp only[execOp,bF hf hx,bF hf hy];have:(Instr.indexAt t (.slice (some ⟨b,off,none⟩) len cap) (.int k i)).run P w= .ok (.pointer (some ⟨b,off+i.toNat*s,none⟩)) w:=by
  unfold Instr.indexAt;show(underlying t>>=_).run P w=_;rw[bj (hT.u w)];show(underlying t>>=_).run P w=_;rw[bj (hT.u w)];simp only[h0,h1,and_self,if_true];show(sizeOf e>>=_).run P w=_;rw[bj (hT.siz w),si];rfl
 exact dh this
def AH{v:Int}{c:BoundsCode}(w:World)(h0:0<=v)(h1:v<=m):(Instr.sliceBound (.int k v) m c).run P w= .ok v.toNat w:=by
 unfold Instr.sliceBound;simp[asIntOf,h0,h1,run_pure]
def nP(ad:Option Addr)(len cap lo hi mx s:Nat):Value:= .slice (if mx=lo then ad else ad.map (·.add (lo*s))) (hi-lo) (mx-lo)
def Dt[hT:cE P t e s by_](w:World){lo hi mx:Option Value}{l h:Nat}(hb: ∀w,(Instr.sliceBounds true len cap lo hi mx).run P w= .ok (l,h,m) w):
  (Instr.sliceAt t (.slice ad len cap) lo hi mx).run P w= .ok (nP ad len cap l h m s) w:=by
 unfold Instr.sliceAt;rw[bj (hT.u w)];show(Instr.slice t (.slice ad len cap) lo hi mx).run P w=_;unfold Instr.slice;rw[bj (hT.u w)];show(Instr.sliceBounds true len cap lo hi mx>>=_).run P w=_;rw[bj (hb w)];show(sizeOf e>>=_).run P w=_;rw[bj (hT.siz w)];rfl
def Hl[hT:cE P t e s by_]{h:Int}(hx:aE fr x=some (.slice ad len cap))(hy:aE fr y=some (.int k h))(h0:0<=h:=by omega)(h1:h<=cap:=by omega):
  Yd P C fr own G ⟨dst, .slice t x none (some y) none,ty',pos,af,gd⟩ (.slice ad h.toNat cap):=by
 intro a w hf hh;simp only[execOp,bF hf hx,bF hf hy,rY,lR];have:=Dt (P:=P) (t:=t) (ad:=ad) (len:=len) (cap:=cap) w (lo:=none) (hi:=some (.int k h)) (mx:=none) (l:=0) (h:=h.toNat) (m:=cap) (fun w=>by
  simp[Instr.sliceBounds,AH w h0 h1,Result.andThen])
 have e2:nP ad len cap 0 h.toNat cap s= .slice ad h.toNat cap:=by
  unfold nP
  cases ad with
  |none=>simp
  |some ad=>simp[Addr.add]
 rw[<-e2];exact dh this
def Lo[hT:cE P t e s by_]{l:Int}(hx:aE fr x=some (.slice ad len cap))(hy:aE fr y=some (.int k l))(h0:0<=l:=by omega)(h1:l<=len:=by omega):
  Yd P C fr own G ⟨dst, .slice t x (some y) none none,ty',pos,af,gd⟩ (nP ad len cap l.toNat len cap s):=by
 intro a w hf hh;simp only[execOp,bF hf hx,bF hf hy,rY,lR];exact dh (Dt (P:=P) (t:=t) (ad:=ad) (len:=len) (cap:=cap) w (lo:=some (.int k l)) (hi:=none) (mx:=none) (fun w=>by
  simp[Instr.sliceBounds,AH w h0 h1,Result.andThen]))
def XY[hT:cE P t e s by_]{l h:Int}(hx:aE fr x=some (.slice ad len cap))(hy:aE fr y=some (.int k l))(hz:aE fr z=some (.int k' h))(h0:0<=l)(h1:l<=h)(h2:h<=cap):
  Yd P C fr own G ⟨dst, .slice t x (some y) (some z) none,ty',pos,af,gd⟩ (nP ad len cap l.toNat h.toNat cap s):=by
 intro a w hf hh;simp only[execOp,bF hf hx,bF hf hy,bF hf hz,rY,lR];exact dh (Dt (P:=P) (t:=t) (ad:=ad) (len:=len) (cap:=cap) w (lo:=some (.int k l)) (hi:=some (.int k' h)) (mx:=none) (fun w=>by
  have h1':l<=(h.toNat:Int):=by omega
  simp[Instr.sliceBounds,AH w (Int.le_trans h0 h1) h2,AH w h0 h1',Result.andThen]))
def auS[hT:cE P t e s by_]{h m:Int}(hx:aE fr x=some (.slice ad len cap))(hy:aE fr y=some (.int k h))(hz:aE fr z=some (.int k' m))(h0:0<=h)(h1:h<=m)(h2:m<=cap):
  Yd P C fr own G ⟨dst, .slice t x none (some y) (some z),ty',pos,af,gd⟩ (.slice ad h.toNat m.toNat):=by
 intro a w hf hh;simp only[execOp,bF hf hx,bF hf hy,bF hf hz,rY,lR];have:=Dt (P:=P) (t:=t) (ad:=ad) (len:=len) (cap:=cap) w (lo:=none) (hi:=some (.int k h)) (mx:=some (.int k' m)) (l:=0) (h:=h.toNat) (m:=m.toNat) (fun w=>by
  have h1':h<=(m.toNat:Int):=by omega
  simp[Instr.sliceBounds,AH w (Int.le_trans h0 h1) h2,AH w h0 h1',Result.andThen])
 have e2:nP ad len cap 0 h.toNat m.toNat s= .slice ad h.toNat m.toNat:=by
  unfold nP
  cases ad with
  |none=>simp
  |some ad=>simp[Addr.add]
 rw[<-e2];exact dh this
class yu (P:Program) (t:TypeId) (k:outParam IntKind):Prop where u: ∀w,(underlying t).run P w= .ok (.int k) w
def F2[hs:yu P t k][hd:yu P t' k'](hx:aE fr x=some (.int k p)):Yd P C fr own G ⟨dst, .convert t t' x,ty',pos,af,gd⟩ (.int k' (k'.wrap p)):=by
 intro a w hf hh;simp only[execOp,bF hf hx];have:(convert t t' (.int k p)).run P w= .ok (.int k' (k'.wrap p)) w:=by
  unfold convert;rw[bj (hs.u w),bj (hd.u w)];rfl
 exact dh this
def WX[hs:yu P t k][hd:yu P t' k'](hx:aE fr x=some (.int k p))(h:k'.min<=p/\p<=k'.max):Yd P C fr own G ⟨dst, .convert t t' x,ty',pos,af,gd⟩ (.int k' p):=by
 have:=F2 (P:=P) (C:=C) (own:=own) (G:=G) (dst:=dst) (ty':=ty') (pos:=pos) (af:=af) (gd:=gd) (t:=t) (t':=t') hx;rwa [tI h] at this
def uc{b:Bool}(hx:aE fr x=some (.bool b)):Yd P C fr own G ⟨dst, .unOp .not t x,ty',pos,af,gd⟩ (.bool (!b)):=by
 intro a w hf hh;simp only[execOp,bF hf hx,Op.unary];rfl
def LJ(hx:aE fr x=some (.int k p)):Yd P C fr own G ⟨dst, .unOp .neg t x,ty',pos,af,gd⟩ (.int k (k.wrap (0-p))):=by
 intro a w hf hh;simp only[execOp,bF hf hx,Op.unary,Op.intArith];rfl
end
def i6{b:Nat}{o:Obj}(h:w.heap[b]? =some o):b<w.heap.size:=by
 rcases jS b w.heap.size with h'|h'
 .exact h'
 .simp[pK h'] at h
def bI.gnone{own:List aA}(h:bI C own G w){b:Nat}(hb:w.heap.size<=b):G b=none:=by
 cases hG:G b with
 |none=>rfl
 |some cs=>
  obtain⟨ty,fz,hc⟩:=h.sub b cs hG;have:=i6 hc;omega
def bI.alloc{C:aH}{own:List aA}{G:Gh}{w:World}(h:bI C own G w)(cs:List Value)(ty:TypeId):
  bI C (⟨w.heap.size,cs,ty,true⟩::own) G (w.alloc (.cells ⟨cs⟩ ty)):=by
 have old: ∀b,b<w.heap.size->(w.alloc (.cells ⟨cs⟩ ty)).heap[b]? =w.heap[b]? :=fun b hb=>RowKit.Below.heap_alloc _ _ _ hb;refine⟨h.os,h.tape,h.output,?_,?_,?_,h.gle,h.gold,?_,?_,h.dr,fun p hp=>⟨(h.ext p hp).1,by rw[old _ (i6 (h.ext p hp).2)];exact(h.ext p hp).2⟩⟩
 .have:=h.size;simp;omega
 .intro b hb hm;rw[old b (by have:=h.size;omega)];exact h.keep b hb hm
 .intro b cs' hb
  obtain⟨ty',fz,hc⟩:=h.sub b cs' hb;exact⟨ty',fz,by rw[old b (i6 hc)];exact hc⟩
 .intro o ho
  rcases aW.1 ho with rfl|ho
  .refine⟨by show(w.heap.push _)[w.heap.size]? =_;simp,h.gnone (bV _),fun _=>h.size,fun e=>by cases e⟩
  .obtain⟨h1,h2⟩:=h.hown o ho
   exact⟨by rw[old _ (i6 h1)];exact h1,h2⟩
 .refine List.Pairwise.cons ?_ h.nd
  intro o ho;have:=i6 (h.hown o ho).1;show w.heap.size≠o.b;omega
def iv(w:World)(b:Nat)(o:Obj):World:={w with heap:=w.heap.setIfInBounds b o}
def F8{l:List aA}:l.Pairwise (fun x y=>x.b≠y.b)↔(l.map (·.b)).Pairwise (· ≠ ·):=by rw[sZ]
def iE.spec{own:List aA}{b:Nat}{cs:List Value}{ty:TypeId}{lo:Bool}(h:iE own b cs ty lo cs' own')(nd:own.Pairwise (fun x y=>x.b≠y.b)):
  ⟨b,cs,ty,lo⟩∈own/\(∀o,o∈own'->o=⟨b,cs',ty,lo⟩\/(o∈own/\o.b≠b))/\own'.map (·.b)=own.map (·.b):=by
 induction h with
 |hd b cs cs' ty lo t=>
  refine⟨aQ,fun o ho=>?_,J⟩;rcases aW.1 ho with rfl|h
  .exact .inl J
  .exact .inr ⟨aJ _ h,Ne.symm ((cZ.1 nd).1 _ h)⟩
 |tl o t t' b cs cs' ty lo h ih=>
  obtain⟨h1,h2,h3⟩:=ih (cZ.1 nd).2;refine⟨aJ _ h1,fun x hx=>?_,by simp[h3]⟩;rcases aW.1 hx with rfl|hx
  .exact .inr ⟨aQ,(cZ.1 nd).1 _ h1⟩
  .exact(h2 x hx).imp id (fun k=>⟨aJ _ k.1,k.2⟩)
def Fc{b k:Nat}{o:Obj}(hk:k≠b):(iv w b o).heap[k]? =w.heap[k]? :=by
 simp only[iv];rw[eM];simp[Ne.symm hk]
def Ok{b:Nat}{o:Obj}(hb:b<w.heap.size):(iv w b o).heap[b]? =some o:=by
 simp only[iv];rw[eM];simp[hb]
def bI.extNe{own:List aA}(h:bI C own G w){p:Nat×Obj}(hp:p∈C.ex){b:Nat}{cs:Array Value}{ty:TypeId}{z:Nat×Nat}(hb:w.heap[b]? =some (.cells cs ty z)):p.1≠b:=fun e=>by
 obtain⟨h1,h2⟩:=h.ext p hp;rw[e,hb] at h2;exact h1 _ _ _ (Option.some.inj h2).symm
def bI.extM(h:bI C (M++rest) G w){p:Nat×Obj}(hp:p∈C.ex):p.1∉M.map (·.b):=fun hm=>by
 obtain⟨m,hm,e⟩:=aU.1 hm;exact h.extNe hp (h.hown m (bU _ hm)).1 e.symm
def bI.store{own:List aA}{b:Nat}{cs:List Value}{ty:TypeId}{lo:Bool}(h:bI C own G w)(hu:iE own b cs ty lo cs' own'):
  bI C own' G (iv w b (.cells ⟨cs'⟩ ty (0,0))):=by
 obtain⟨h1,h2,h3⟩:=hu.spec h.nd;obtain⟨hb,hGb,hlo1,hlo2⟩:=h.hown _ h1;have hlt:=i6 hb;refine⟨h.os,h.tape,h.output,by simpa[iv] using h.size,?_,?_,h.gle,h.gold,?_,F8.2 (h3▸F8.1 h.nd),h.dr,fun p hp=>⟨(h.ext p hp).1,by rw[Fc (h.extNe hp hb)];exact(h.ext p hp).2⟩⟩
 .intro k hk hm
  by_cases hkb:k=b
  .subst hkb
   cases hlo:lo with
   |true=>have h5:=hlo1 hlo;simp only[] at h5;omega
   |false=>exact absurd (hlo2 hlo) hm
  .rw[Fc hkb];exact h.keep k hk hm
 .intro k cs1 hk
  obtain⟨ty',fz,hc⟩:=h.sub k cs1 hk;have:k≠b:=fun e=>by subst e;rw[show G k=none from hGb] at hk;cases hk
  exact⟨ty',fz,by rw[Fc this];exact hc⟩
 .intro o ho
  rcases h2 o ho with rfl|⟨ho',hne⟩
  .exact⟨Ok hlt,hGb,hlo1,hlo2⟩
  .obtain⟨k1,k2⟩:=h.hown o ho'
   exact⟨by rw[Fc hne];exact k1,k2⟩
def kn.spec{own:List aA}{o:aA}(h:kn own o own')(nd:own.Pairwise (fun x y=>x.b≠y.b)):
  o∈own/\(∀x,x∈own'->x∈own/\x.b≠o.b)/\own'.Pairwise (fun x y=>x.b≠y.b):=by
 induction h with
 |hd o t=>exact⟨aQ,fun x hx=>⟨aJ _ hx,Ne.symm ((cZ.1 nd).1 _ hx)⟩,(cZ.1 nd).2⟩
 |tl y t t' o h ih=>
  obtain⟨h1,h2,h3⟩:=ih (cZ.1 nd).2;refine⟨aJ _ h1,fun x hx=>?_,List.Pairwise.cons (fun x hx=>(cZ.1 nd).1 _ (h2 x hx).1) h3⟩;rcases aW.1 hx with rfl|hx
  .exact⟨aQ,(cZ.1 nd).1 _ h1⟩
  .exact⟨aJ _ (h2 x hx).1,(h2 x hx).2⟩
def bI.freeze{own:List aA}{b:Nat}{cs:List Value}{ty:TypeId}(h:bI C own G w)(hr:kn own ⟨b,cs,ty,true⟩ own'):
  bI C own' (fun k=>if k=b then some cs else G k) w/\b7 G (fun k=>if k=b then some cs else G k):=by
 obtain⟨h1,h2,h3⟩:=hr.spec h.nd;obtain⟨hb,hGb,hlo,_⟩:=h.hown _ h1;have hle:b7 G (fun k=>if k=b then some cs else G k):=fun k c hk=>by
  have:k≠b:=fun e=>by subst e;rw[show G k=none from hGb] at hk;cases hk
  simp[this,hk]
 refine⟨⟨h.os,h.tape,h.output,h.size,h.keep,?_,h.gle.trans hle,?_,?_,h3,h.dr,h.ext⟩,hle⟩
 .intro k c hk
  by_cases e:k=b
  .subst e;simp only[if_true] at hk;cases hk;exact⟨ty,(0,0),hb⟩
  .simp only[e,if_false] at hk;exact h.sub k c hk
 .intro k hk
  have h5:C.w0.heap.size<=b:=hlo J;have:k≠b:=by omega
  simp only[this,if_false];exact h.gold k hk
 .intro o ho
  obtain⟨k1,k2⟩:=h2 o ho;obtain⟨m1,m2,m3⟩:=h.hown o k1;exact⟨m1,by rw[if_neg k2];exact m2,m3⟩
def bI.drop{own:List aA}(h:bI C own G w)(hs:own'.Sublist own):bI C own' G w:=
 ⟨h.os,h.tape,h.output,h.size,h.keep,h.sub,h.gle,h.gold,fun o ho=>h.hown o (hs.subset ho),h.nd.sublist hs,h.dr,h.ext⟩
def bI.perm{own:List aA}(h:bI C own G w)(hs:own.Perm own'):bI C own' G w:=
 ⟨h.os,h.tape,h.output,h.size,h.keep,h.sub,h.gle,h.gold,fun o ho=>h.hown o (hs.mem_iff.2 ho),(hs.pairwise_iff (fun h=>Ne.symm h)).1 h.nd,h.dr,h.ext⟩
def bI.drew{own:List aA}(h:bI C own G w):bI C own G {w with drawn:=w.drawn+1}:=
 ⟨h.os,h.tape,h.output,h.size,h.keep,h.sub,h.gle,h.gold,h.hown,h.nd,Nat.le_succ_of_le h.dr,h.ext⟩
def ua(P:Program)(f:FuncId):Prop:= ∃fn,P.funcs[f]? =some fn/\(fn.name== "runtime.NumGoroutine")=false/\fn.body.isNone=false
def k8(M:List aA)(css:List (List Value)):List aA:=(M.zip css).map fun p=>{p.1 with cs:=p.2}
def asB(M:List aA):List aA:=M.map fun o=>{o with lo:=false}
structure Fn (P:Program) (f:FuncId) (vs:List Value) (G:Gh) (K:Value->Gh->Prop):Prop where
 able:ua P f
 run: ∀w,(∀b cs,G b=some cs-> ∃ty fz,w.heap[b]? =some (.cells ⟨cs⟩ ty fz))->
  Calls P f ⟨vs⟩ w fun e w'=> ∃v G',e= .returned v/\bI ⟨w,G,[],[],[],none,fun _=>none⟩ [] G' w'/\K v G'
structure kD (P:Program) (f:FuncId) (vs:List Value) (M:List aA) (G:Gh) (K:Value->List (List Value)->Gh->Prop):Prop where
 able:ua P f
 run: ∀w,bI ⟨w,G,M.map (·.b),[],[],none,fun _=>none⟩ (asB M) G w->
  Calls P f ⟨vs⟩ w fun e w'=> ∃v css G',e= .returned v/\css.length=M.length/\bI ⟨w,G,M.map (·.b),[],[],none,fun _=>none⟩ (k8 (asB M) css) G' w'/\K v css G'
def Fn.mono{P:Program}{f:FuncId}{vs:List Value}{G:Gh}{K K':Value->Gh->Prop}(h:Fn P f vs G K)(hk: ∀v G',b7 G G'->K v G'->K' v G'):Fn P f vs G K':=
 ⟨h.able,fun w hw=>(h.run w hw).mono fun _ _ ⟨v,G',he,hh,hK⟩=>⟨v,G',he,hh,hk v G' hh.gle hK⟩⟩
theorem omN{p:Prop}(h:p:=by show b<w.heap.size;omega):p:=h
def bI.called{own:List aA}(h:bI C own G w)(k:bI ⟨w,G,[],[],[],none,fun _=>none⟩ [] G' w'):bI C own G' w':=by
 have same: ∀b o,w.heap[b]? =some o->w'.heap[b]? =some o:=fun b o hb=>by rw[k.keep b (i6 hb) omc];exact hb
 have hsz:w.heap.size<=w'.heap.size:=k.size;refine⟨k.os.trans h.os,k.tape.trans h.tape,k.output.trans h.output,cX h.size hsz,?_,k.sub,h.gle.trans k.gle,?_,?_,h.nd,cX h.dr k.dr,fun p hp=>⟨(h.ext p hp).1,same _ _ (h.ext p hp).2⟩⟩
 .intro b hb hm;have:=h.size;rw[k.keep b omN omc];exact h.keep b hb hm
 .intro b hb;have:=h.size;rw[k.gold b omN];exact h.gold b hb
 .intro o ho
  obtain⟨h1,h2,h3⟩:=h.hown o ho;exact⟨same _ _ h1,by rw[k.gold _ (i6 h1)];exact h2,h3⟩
def aGq(M:List aA)(css:List (List Value))(h:css.length=M.length):(k8 M css).map (·.b)=M.map (·.b):=by
 induction M generalizing css with
 |nil=>simp[k8]
 |cons o M ih=>
  cases css with
  |nil=>simp at h
  |cons c css=>simp only[aS,Nat.add_right_cancel_iff] at h;simpa[k8] using ih css h
def awn{o:aA}(ho:o∈k8 M css): ∃c∈css,∃m∈M,o={m with cs:=c}/\{m with cs:=c,lo:=false}∈k8 (asB M) css:=by
 induction M generalizing css with
 |nil=>simp[k8] at ho
 |cons x M ih=>
  cases css with
  |nil=>simp[k8] at ho
  |cons c css=>
   simp only[k8,List.zip_cons_cons,bY,aW] at ho;rcases ho with rfl|ho
   .exact⟨c,aQ,x,aQ,J,by simp[k8,asB]⟩
   .obtain⟨c',hc',m,hm,e,hh⟩:=ih ho
    refine⟨c',aJ _ hc',m,aJ _ hm,e,?_⟩;simp only[k8,asB,bY,List.zip_cons_cons,aW];exact .inr hh
def bI.lend(h:bI C (M++rest) G w):bI ⟨w,G,M.map (·.b),[],[],none,fun _=>none⟩ (asB M) G w:=by
 refine⟨J,J,J,bV _,fun _ _ _=>J,h.sub,b7.refl _,fun _ _=>J,?_,?_,bV _,fun p hp=>by cases hp⟩
 .intro o ho
  obtain⟨m,hm,rfl⟩:=aU.1 ho;obtain⟨h1,h2,_⟩:=h.hown m (bU _ hm);exact⟨h1,h2,omc,fun _=>aU.2 ⟨m,hm,J⟩⟩
 .have:=(gN.1 h.nd).1
  unfold asB;rw[sZ];exact this
def bI.calledM(h:bI C (M++rest) G w)(hl:css.length=M.length)(k:bI ⟨w,G,M.map (·.b),[],[],none,fun _=>none⟩ (k8 (asB M) css) G' w'):
  bI C (k8 M css++rest) G' w':=by
 have hsz:w.heap.size<=w'.heap.size:=k.size;have hnd:=h.nd;have inM: ∀b,b∈M.map (·.b)-> ∀o∈rest,o.b≠b:=fun b hb o ho e=>by
  obtain⟨m,hm,rfl⟩:=aU.1 hb;exact(gN.1 hnd).2.2 m hm o ho e.symm
 refine⟨k.os.trans h.os,k.tape.trans h.tape,k.output.trans h.output,cX h.size hsz,?_,k.sub,h.gle.trans k.gle,?_,?_,?_,cX h.dr k.dr,fun p hp=>⟨(h.ext p hp).1,by rw[k.keep _ (i6 (h.ext p hp).2) (h.extM hp)];exact(h.ext p hp).2⟩⟩
 .intro b hb hm
  have hs:=h.size;have hnM:b∉M.map (·.b):=fun hb'=>by
   obtain⟨m,hmM,rfl⟩:=aU.1 hb';obtain⟨_,_,h3,h4⟩:=h.hown m (bU _ hmM)
   cases hlo:m.lo with
   |true=>have:=h3 hlo;omega
   |false=>exact hm (h4 hlo)
  rw[k.keep b omN hnM];exact h.keep b hb hm
 .intro b hb;have:=h.size;rw[k.gold b omN];exact h.gold b hb
 .intro o ho
  rcases bZ.1 ho with ho|ho
  .obtain⟨c,hc,m,hm,rfl,hmem⟩:=awn ho
   obtain⟨k1,k2,_⟩:=k.hown _ hmem;obtain⟨_,_,h3⟩:=h.hown m (bU _ hm);exact⟨k1,k2,h3⟩
  .obtain⟨h1,h2,h3⟩:=h.hown o (bQ _ ho)
   have hnM:o.b∉M.map (·.b):=fun hb=>inM _ hb o ho J;exact⟨by rw[k.keep _ (i6 h1) hnM];exact h1,by rw[k.gold _ (i6 h1)];exact h2,h3⟩
 .rw[F8,aL,aGq _ _ hl,<-aL,<-F8];exact hnd
def TY{a b:α}{l:List α}:(a::l).set (n+1) b=a::l.set n b:=rfl
def Br{a:α}{l:List α}:(a::l).drop (n+1)=l.drop n:=rfl
abbrev ii:= @inferInstance.{0}
def nb{a b:Nat}(h:Nat.ble a b=true):a<=b:=tQ h
def sR{fr:Fr}{own:List aA}{id:Nat}(h:St C n fr own G (dt P ops (Exit.then (y.wp P Q) Q) ops.toList)):St C n fr own G ((Code.seq (Code.region id ops false) y).wp P Q):=fw (Fa h)
end Go.Sx
end
section
namespace Go.Sx
open Go
variable {C:aH}{n b off k m i fuel:Nat}{own' M rest own0:List aA}{G G0:Gh}{ops:Array Oper}{Q:Exit->Act->World->Prop}{t t' ty' ty:TypeId}{x y fo:Operand}{o:Oper}{Φ:Act->World->Prop}{w w':World}{v z:Value}{a:Act}{lo:Bool}{f:FuncId}{args:Array Operand}{tys:Array TypeId}{vs c1 c2:List Value}{K:Value->List (List Value)->Gh->Prop}{c:Code}{X:Type}{S:World->Prop}{fin:Nat->Bool}
def aO:Value->List Value
 | .agg ⟨l⟩=>l
 |v=>[v]
def pP(v:Value):v.cells=⟨aO v⟩:=by
 cases v<;>first|rfl|(rename_i a;cases a;rfl)
def flat:Value->Bool
 | .agg _=>false
 | .tuple _=>false
 |_=>true
def fI(fr:Fr):List Operand->Option (List Value)
 |[]=>some []
 |x::t=>match aE fr x,fI fr t with
  |some v,some l=>some (v::l)
  |_,_=>none
def Dp{fr:Fr}{a:Act}(h:ma fr a): ∀{l:List Operand} {vs:List Value},fI fr l=some vs->l.map a.eval=vs
 |[],vs,e=>by simp[fI] at e;subst e;rfl
 |x::t,vs,e=>by
  simp only[fI] at e;split at e
  .rename_i v l hv hl
   cases e
   simp[bF h hv,Dp h hl]
  .cases e
section
variable {P:Program}{fr:Fr}{own:List aA}{r:List Oper}
variable {dst:Option Nat}{pos:String}{af:Array Edge}
def Ch(P:Program)(C:aH)(n:Nat)(fr:Fr)(own:List aA)(G:Gh)(o:Oper)(Φ:Act->World->Prop):Prop:=
 ∀(a:Act) (w:World) (Q:Exit->Act->World->Prop),io C n fr own G a w->o.wp P a w Φ Q
def aLa(hg:o.guard=none)(hc:Ch P C n fr own G o (dt P ops Q r)):St C n fr own G (dt P ops Q (o::r)):=by
 intro a w rl;simp only[dt,Region.wanted,hg,if_true];exact hc a w _ rl
variable {gd:Option (Nat×Bool)}
def PT:(newVar ty v).run P w= .ok ⟨w.heap.size,0,none⟩ (w.alloc (.cells ⟨aO v⟩ ty)):=by
 unfold newVar newRow;rw[pP];rfl
def lw(h:(execOp a.eval o).run P w= .ok (.value v) w')(hk:Φ (a.put o.dst v) w'):o.wp P a w Φ Q:=by
 simp only[Oper.wp,h,Oper.upon];exact hk
def vL[hz:gA P t z](hd:co n dst=true)(h: ∀b,St C n (put fr dst (.pointer (some ⟨b,0,none⟩))) (⟨b,aO z,t,true⟩::own) G Φ):
  Ch P C n fr own G ⟨dst, .alloc t,ty',pos,af,gd⟩ Φ:=by
 intro a w Q rl;have h1:(Instr.alloc t true (.tuple #[])).run P w= .ok (.pointer (some ⟨w.heap.size,0,none⟩)) (w.alloc (.cells ⟨aO z⟩ t)):=by
  unfold Instr.alloc;rw[bj (hz.zero w)];show(newVar t z>>=_).run P w=_;rw[bj PT];rfl
 refine lw (dh h1) (h w.heap.size _ _ ?_);exact(rl.heap (rl.h.alloc _ _)).put _ hd
def u6(hx:aE fr x=some v)(hd:co n dst=true)(h: ∀b,St C n (put fr dst (.pointer (some ⟨b,0,none⟩))) (⟨b,aO v,t,true⟩::own) G Φ):
  Ch P C n fr own G ⟨dst, .box t x,ty',pos,af,gd⟩ Φ:=by
 intro a w Q rl;have h1:(Instr.box t (a.eval x)).run P w= .ok (.pointer (some ⟨w.heap.size,0,none⟩)) (w.alloc (.cells ⟨aO v⟩ t)):=by
  unfold Instr.box;rw[bF rl.fr hx,bj PT];rfl
 refine lw (dh h1) (h w.heap.size _ _ ?_);exact(rl.heap (rl.h.alloc _ _)).put _ hd
def alu{cs:List Value}{fz:Nat×Nat}(h:w.heap[b]? =some (.cells ⟨cs⟩ ty fz)):w.setCell ⟨b,off,none⟩ v=iv w b (.cells ⟨cs.set off v⟩ ty fz):=by
 unfold World.setCell iv;congr 1;apply Array.ext_getElem?;intro i;rw[Array.getElem?_modify,eM];by_cases hi:b=i
 .subst hi
  have:=i6 h;simp only[if_true,h,lR,this];simp
 .simp[hi]
def XV{cs:List Value}(hv:flat v=true)(h:w.heap[b]? =some (.cells ⟨cs⟩ ty (0,0)))(ho:off<cs.length):
  (store ⟨b,off,none⟩ v).run P w= .ok () (iv w b (.cells ⟨cs.set off v⟩ ty (0,0))):=by
 have hc:w.cell? ⟨b,off,none⟩=some cs[off]:=by rw[FH h,aZ ho]
 have hf:w.frozen? ⟨b,off,none⟩=false:=by simp[World.frozen?,h]
 cases v<;>first|(simp[flat] at hv;done)|(simp only[store,Sem.run,hc,hf,alu h];rfl)
def YD(w:World)(b:Nat)(o o':Obj):iv (iv w b o) b o'=iv w b o':=by
 simp[iv]
def arO{o:Obj}(h:w.heap[b]? =some o):iv w b o=w:=by
 unfold iv;congr 1;apply Array.ext_getElem?;intro i;rw[eM];by_cases hi:b=i
 .subst hi
  have hlt:=i6 h;simp only[if_true,hlt];rw[h]
 .simp[hi]
theorem omq{p:Prop}(h:p:=by simp;omega):p:=h
def DB{b:Nat}{ty:TypeId}: ∀(vs:List Value) (w:World) (off i:Nat) (cs:List Value),(∀v∈vs,flat v=true)->w.heap[b]? =some (.cells ⟨cs⟩ ty (0,0))->off+i+vs.length<=cs.length->
  (storeCells ⟨b,off,none⟩ vs i).run P w= .ok () (iv w b (.cells ⟨cH cs (off+i) vs⟩ ty (0,0)))
 |[],w,off,i,cs,_,h,_=>by
  unfold storeCells cH;rw[arO h];rfl
 |v::vs,w,off,i,cs,hf,h,hl=>by
  unfold storeCells;simp only[aS] at hl;rw[si,bj (XV (hf v aQ) h we)];rw[DB vs _ off (i+1) (cs.set (off+i) v) (fun u hu=>hf u (aJ _ hu)) (Ok (i6 h)) omq];rw[YD];rfl
theorem ozr{p:Prop}(h:p:=by simpa using hf):p:=h
def Fd{cs:List Value}(hx:aE fr x=some (.pointer (some ⟨b,off,none⟩)))(hy:aE fr y=some v)[hs:li P t k]
  (hu:iE own b cs ty lo (cH cs off (aO v)) own')(hk:(aO v).length=k)(hl:off+k<=cs.length)(hf:(aO v).all flat=true)(hd:co n dst=true)(h:St C n (put fr dst undef) own' G Φ):
  Ch P C n fr own G ⟨dst, .store t x y,ty',pos,af,gd⟩ Φ:=by
 intro a w Q rl;have hb:=(rl.h.hown _ (hu.spec rl.h.nd).1).1;have h1:(Instr.storeAt t (a.eval x) (a.eval y)).run P w= .ok () (iv w b (.cells ⟨cH cs off (aO v)⟩ ty (0,0))):=by
  rw[bF rl.fr hx,bF rl.fr hy];simp only[Instr.storeAt,Instr.sureAddr];show(storeVar t ⟨b,off,none⟩ v).run P w=_;unfold storeVar;rw[bj (hs.siz w),pP];simp only[pN,hk,ne_eq,not_true_eq_false,if_false];have:=DB (P:=P) (aO v) w off 0 cs ozr hb we;simpa using this
 have h2:(execOp a.eval ⟨dst, .store t x y,ty',pos,af,gd⟩).run P w= .ok .skip (iv w b (.cells ⟨cH cs off (aO v)⟩ ty (0,0))):=by
  simp only[execOp];rw[bj h1];rfl
 simp only[Oper.wp,h2,Oper.upon];exact h _ _ ((rl.heap (rl.h.store hu)).put _ hd)
def vD{cs:List Value}(hx:aE fr x=some (.pointer (some ⟨b,off,none⟩)))(hy:aE fr y=some v)[hs:kO P t]
  (hu:iE own b cs ty lo (cs.set off v) own')(hl:off<cs.length)(hf:flat v=true)(hd:co n dst=true)(h:St C n (put fr dst undef) own' G Φ):
  Ch P C n fr own G ⟨dst, .store t x y,ty',pos,af,gd⟩ Φ:=by
 intro a w Q rl;have hb:=(rl.h.hown _ (hu.spec rl.h.nd).1).1;have hc:v.cells= #[v]:=by cases v<;>first|rfl|(simp[flat] at hf)
 have h1:(Instr.storeAt t (a.eval x) (a.eval y)).run P w= .ok () (iv w b (.cells ⟨cs.set off v⟩ ty (0,0))):=by
  rw[bF rl.fr hx,bF rl.fr hy];simp only[Instr.storeAt,Instr.sureAddr];show(storeVar t ⟨b,off,none⟩ v).run P w=_;unfold storeVar;rw[bj (hs.siz w),hc];simp only[pN,aS,eX,ne_eq,not_true_eq_false,if_false,fX];have:=DB (P:=P) [v] w off 0 cs ozr hb omq;simpa[cH] using this
 have h2:(execOp a.eval ⟨dst, .store t x y,ty',pos,af,gd⟩).run P w= .ok .skip (iv w b (.cells ⟨cs.set off v⟩ ty (0,0))):=by
  simp only[execOp];rw[bj h1];rfl
 simp only[Oper.wp,h2,Oper.upon];exact h _ _ ((rl.heap (rl.h.store hu)).put _ hd)
def Ku(h:ua P f)(args:Array Value)(w:World):(callFunc f args).run P w= .ok (.enter f args) w:=by
 obtain⟨fn,h1,h2,h3⟩:=h;unfold callFunc;show(program>>=_).run P w=_;rw[bj (a:=P) (w':=w) J];simp only[h1,h2,h3];rfl
def Hp(h:ua P f)(hf:ma fr a)(ho:aE fr fo=some (.func (.func f) ⟨c1⟩ ⟨c2⟩))(hv:fI fr args.toList=some vs):
  (execOp a.eval ⟨dst, .call ⟨.value fo,args,tys⟩,ty',pos,af,gd⟩).run P w= .ok (.enter f ⟨c1++vs++c2⟩) w:=by
 have e:args.map a.eval=⟨vs⟩:=by apply Array.ext';simpa using Dp hf hv
 simp only[execOp,resolve,bF hf ho,e,Deferred.ofValue];show(invoke (.fn (.func f) ⟨c2⟩) (⟨c1⟩++⟨vs⟩)).run P w=_;simp only[invoke];rw[Ku h];simp
def Q6{K:Value->Gh->Prop}(ho:aE fr fo=some (.func (.func f) ⟨c1⟩ ⟨c2⟩))(hv:fI fr args.toList=some vs)
  (hF:Fn P f (c1++vs++c2) G K)(hd:co n dst=true)(h: ∀v (G':Gh),[GE G G']->K v G'->St C n (put fr dst v) own G' Φ):
  Ch P C n fr own G ⟨dst, .call ⟨.value fo,args,tys⟩,ty',pos,af,gd⟩ Φ:=by
 intro a w Q rl;have h2:=Hp (P:=P) (dst:=dst) (ty':=ty') (pos:=pos) (af:=af) (gd:=gd) (tys:=tys) (w:=w) hF.able rl.fr ho hv;simp only[Oper.wp,h2,Oper.upon];refine(hF.run w rl.h.sub).mono ?_;rintro e w' ⟨v,G',rfl,hh,hK⟩;exact @h v G' ⟨hh.gle⟩ hK _ _ ((rl.heap (rl.h.called hh)).put _ hd)
theorem ozs{p:Prop}(h:p:=by simpa using hF):p:=h
def zC{K:Value->Gh->Prop}(ho:aE fr fo=some (.func (.func f) #[] #[]))(hv:fI fr args.toList=some vs)
  (hF:Fn P f vs G K)(hd:co n dst=true)(h: ∀v (G':Gh),[GE G G']->K v G'->St C n (put fr dst v) own G' Φ):
  Ch P C n fr own G ⟨dst, .call ⟨.value fo,args,tys⟩,ty',pos,af,gd⟩ Φ:=
 Q6 (c1:=[]) (c2:=[]) ho hv ozs hd h
def awb(ho:aE fr fo=some (.func (.func f) ⟨c1⟩ ⟨c2⟩))(hv:fI fr args.toList=some vs)
  (hp:own.Perm (M++rest))(hF:kD P f (c1++vs++c2) M G K)(hd:co n dst=true)(h: ∀v css (G':Gh),[GE G G']->css.length=M.length->K v css G'->St C n (put fr dst v) (k8 M css++rest) G' Φ):
  Ch P C n fr own G ⟨dst, .call ⟨.value fo,args,tys⟩,ty',pos,af,gd⟩ Φ:=by
 intro a w Q rl;have h2:=Hp (P:=P) (dst:=dst) (ty':=ty') (pos:=pos) (af:=af) (gd:=gd) (tys:=tys) (w:=w) hF.able rl.fr ho hv;simp only[Oper.wp,h2,Oper.upon];have hh0:=rl.h.perm hp;refine(hF.run w hh0.lend).mono ?_;rintro e w' ⟨v,css,G',rfl,hl,hh,hK⟩;exact @h v css G' ⟨hh.gle⟩ hl hK _ _ ((rl.heap (hh0.calledM hl hh)).put _ hd)
def zz(ho:aE fr fo=some (.func (.func f) #[] #[]))(hv:fI fr args.toList=some vs)
  (hp:own.Perm (M++rest))(hF:kD P f vs M G K)(hd:co n dst=true)(h: ∀v css (G':Gh),[GE G G']->css.length=M.length->K v css G'->St C n (put fr dst v) (k8 M css++rest) G' Φ):
  Ch P C n fr own G ⟨dst, .call ⟨.value fo,args,tys⟩,ty',pos,af,gd⟩ Φ:=
 awb (c1:=[]) (c2:=[]) ho hv hp ozs hd h
end
section
variable {P:Program}{fr:Fr}{own:List aA}
inductive ku (P:Program) (fr:Fr) (own:List aA):List ResultVar->List Value->Prop
 |nil:ku P fr own [] []
 |tmp {t:Nat} {v:Value} {rs:List ResultVar} {vs:List Value} (h:i0 fr t=some v) (k:ku P fr own rs vs):ku P fr own (.tmp t::rs) (v::vs)
 |agg {a b k:Nat} {t ty:TypeId} {cs l:List Value} {lo:Bool} {rs:List ResultVar} {vs:List Value} (h:i0 fr a=some (.pointer (some ⟨b,0,none⟩))) (ho:jc own b cs ty lo) (ht:li P t k) (hl:cF cs 0 k=some l) (h2:ku P fr own rs vs):
   ku P fr own (.cell a t::rs) (.agg ⟨l⟩::vs)
 |sc {a b:Nat} {t ty:TypeId} {cs:List Value} {v:Value} {lo:Bool} {rs:List ResultVar} {vs:List Value} (h:i0 fr a=some (.pointer (some ⟨b,0,none⟩))) (ho:jc own b cs ty lo) (ht:kO P t) (hl:cs[0]? =some v) (h2:ku P fr own rs vs):
   ku P fr own (.cell a t::rs) (v::vs)
def AS(a:Act):ResultVar->Sem Value
 | .tmp t=>pure (a.tmps.getD t undef)
 | .cell x t=>do loadVar t (<-asAddr (a.tmps.getD x undef))
def ku.run{rs:List ResultVar}{vs:List Value}(h:ku P fr own rs vs){a:Act}{w:World}(hf:ma fr a)(hh:bI C own G w):
  (rs.mapM (AS a)).run P w= .ok vs w:=by
 induction h with
 |nil=>rfl
 | @tmp t v rs vs h k ih=>
  rw[sQ];have e:=hf _ _ h;have e2:a.tmps.getD t undef=v:=by rw[cV,e];rfl
  rw[bj (a:=v) (w':=w) (by simp only[AS,e2];exact run_pure _ _ _),bj ih];rfl
 | @agg x b k t ty cs l lo rs vs h ho ht hl h2 ih=>
  rw[sQ];have e:=hf _ _ h;have e2:a.tmps.getD x undef= .pointer (some ⟨b,0,none⟩):=by rw[cV,e];rfl
  rw[bj (a:= .agg ⟨l⟩) (w':=w) (by simp only[AS,e2,asAddr];rw[bj (run_pure _ _ _)];exact J3 (hh.hown _ ho.mem).1 hl),bj ih];rfl
 | @sc x b t ty cs v lo rs vs h ho ht hl h2 ih=>
  rw[sQ];have e:=hf _ _ h;have e2:a.tmps.getD x undef= .pointer (some ⟨b,0,none⟩):=by rw[cV,e];rfl
  rw[bj (a:=v) (w':=w) (by simp only[AS,e2,asAddr];rw[bj (run_pure _ _ _)];exact JR (hh.hown _ ho.mem).1 hl),bj ih];rfl
def pf:List Value->Value
 |[v]=>v
 |vs=> .tuple ⟨vs⟩
def uA{fn:Func}(hr:ku P fr own fn.results.toList vs)(hf:ma fr a)(hh:bI C own G w):(results fn a.tmps).run P w= .ok (pf vs) w:=by
 have h0:=ku.run (C:=C) (G:=G) hr hf hh;have h1:(fn.results.mapM (AS a)).run P w= .ok (⟨vs⟩:Array Value) w:=by
  rw[<-Array.toArray_toList (xs:=fn.results),List.mapM_toArray,map_eq_pure_bind,bj h0];rfl
 have h2:results fn a.tmps=(do
   let vs<-fn.results.mapM (AS a)
   pure (if h:vs.size=1 then vs[0] else .tuple vs)):=by
  unfold results;congr 1
 rw[h2,bj h1]
 match vs with
 |[]=>rfl
 |[v]=>rfl
 |_::_::_=>rfl
def mD(C:aH)(K:Value->Gh->Prop):Ending->World->Prop:=fun e w'=> ∃v G',e= .returned v/\bI C [] G' w'/\K v G'
def DI(C:aH)(M:List aA)(K:Value->List (List Value)->Gh->Prop):Ending->World->Prop:=fun e w'=> ∃v css G',e= .returned v/\css.length=M.length/\bI C (k8 (asB M) css) G' w'/\K v css G'
def fC(C:aH)(P:Program)(fn:Func)(R:Ending->World->Prop):Exit->Act->World->Prop:=fun e a w=>C.mks=[]->bodyPost P fn R e a w
def zD{fn:Func}{K:Value->Gh->Prop}(hr:ku P fr own fn.results.toList vs)(hk:K (pf vs) G):St C n fr own G (fC C P fn (mD C K) .ret):=
 fun a w rl hmk=>⟨rl.df.trans hmk,_,uA hr rl.fr rl.h,_,G,J,rl.h.drop (jM _),hk⟩
def N0{fn:Func}{K:Value->Gh->Prop}(hr:ku P fr own fn.results.toList vs)(hk:K (pf vs) G):St C n fr own G (fC C P fn (mD C K) .normal):=
 fun a w rl hmk=>⟨rl.df.trans hmk,_,uA hr rl.fr rl.h,_,G,J,rl.h.drop (jM _),hk⟩
def t6{fn:Func}{css:List (List Value)}(hr:ku P fr own fn.results.toList vs)(hl:css.length=M.length)(own2:List aA)(hp:own.Perm own2)(hs:(k8 (asB M) css).Sublist own2)(hk:K (pf vs) css G):St C n fr own G (fC C P fn (DI C M K) .ret):=
 fun a w rl hmk=>⟨rl.df.trans hmk,_,uA hr rl.fr rl.h,_,css,G,J,hl,(rl.h.perm hp).drop hs,hk⟩
def oc:Nat->List Value->Fr
 |_,[]=>[]
 |i,v::t=>(i,v)::oc (i+1) t
def zl: ∀(vs:List Value) (i k:Nat) (v:Value),i0 (oc i vs) k=some v-> ∃j,k=i+j/\vs[j]? =some v
 |[],i,k,v,h=>by cases h
 |u::vs,i,k,v,h=>by
  rw[oc,vP] at h;split at h
  .subst_vars;cases h;exact⟨0,J,J⟩
  .obtain⟨j,rfl,hj⟩:=zl vs (i+1) k v h
   exact⟨j+1,we,by simpa using hj⟩
theorem omP{p:Prop}(h:p:=by simpa using hj'):p:=h
def Fn.introR{fn:Func}{K:Value->Gh->Prop}(hf:P.funcs[f]? =some fn)(hb:fn.body=some c)(hn:(fn.name== "runtime.NumGoroutine")=false)(hm:fn.ntmps=m)(hlen:Nat.ble vs.length m=true)
  (h: ∀C:aH,C.G0=G->C.mb=[]->C.rd=none->(C.fx=fun _=>none)->St C m (oc 0 vs) [] G (c.wp P (fC C P fn (mD C K)))):Fn P f vs G K:=by
 refine⟨⟨fn,hf,hn,by simp[hb]⟩,fun w hw=>?_⟩;have hlen':vs.length<=m:=by simpa using hlen
 have:=calls_of_wp (P:=P) (f:=f) (args:=⟨vs⟩) (w:=w) (R:=mD ⟨w,G,[],[],[],none,fun _=>none⟩ K) hf hb (wp_mono (h ⟨w,G,[],[],[],none,fun _=>none⟩ J J J J _ w
  ⟨⟨J,J,J,bV _,fun _ _ _=>J,hw,b7.refl _,fun _ _=>J,fun o ho=>(by cases ho), .nil,bV _,fun p hp=>by cases hp⟩,by simp;omega,fun k v hk=>by
   obtain⟨j,rfl,hj⟩:=zl vs 0 k v hk;have hj':=(aR.1 hj).1;rw[mZ omP];simpa using hj,J⟩) fun _ _ _ k=>k J)
 exact this
def Fn.intro{fn:Func}{K:Value->Gh->Prop}(hf:P.funcs[f]? =some fn)(hb:fn.body=some c)(hn:(fn.name== "runtime.NumGoroutine")=false)(hm:fn.ntmps=m)(hlen:Nat.ble vs.length m=true)
  (h: ∀C:aH,C.G0=G->C.mb=[]->St C m (oc 0 vs) [] G (c.wp P (fC C P fn (mD C K)))):Fn P f vs G K:=
 Fn.introR hf hb hn hm hlen fun C a b _ _=>h C a b
def kD.introR{fn:Func}(hf:P.funcs[f]? =some fn)(hb:fn.body=some c)(hn:(fn.name== "runtime.NumGoroutine")=false)(hm:fn.ntmps=m)(hlen:Nat.ble vs.length m=true)
  (h: ∀C:aH,C.G0=G->C.mb=M.map (·.b)->C.rd=none->(C.fx=fun _=>none)->St C m (oc 0 vs) (asB M) G (c.wp P (fC C P fn (DI C M K)))):kD P f vs M G K:=by
 refine⟨⟨fn,hf,hn,by simp[hb]⟩,fun w hw=>?_⟩;have hlen':vs.length<=m:=by simpa using hlen
 have:=calls_of_wp (P:=P) (f:=f) (args:=⟨vs⟩) (w:=w) (R:=DI ⟨w,G,M.map (·.b),[],[],none,fun _=>none⟩ M K) hf hb (wp_mono (h ⟨w,G,M.map (·.b),[],[],none,fun _=>none⟩ J J J J _ w
  ⟨hw,by simp;omega,fun k v hk=>by
   obtain⟨j,rfl,hj⟩:=zl vs 0 k v hk;have hj':=(aR.1 hj).1;rw[mZ omP];simpa using hj,J⟩) fun _ _ _ k=>k J)
 exact this
def kD.intro{fn:Func}(hf:P.funcs[f]? =some fn)(hb:fn.body=some c)(hn:(fn.name== "runtime.NumGoroutine")=false)(hm:fn.ntmps=m)(hlen:Nat.ble vs.length m=true)
  (h: ∀C:aH,C.G0=G->C.mb=M.map (·.b)->St C m (oc 0 vs) (asB M) G (c.wp P (fC C P fn (DI C M K)))):kD P f vs M G K:=
 kD.introR hf hb hn hm hlen fun C a b _ _=>h C a b
def DG(b:Nat){cs:List Value}(hr:kn own ⟨b,cs,ty,true⟩ own')(h: ∀G':Gh,[GE G G']->[ub G' b cs]->St C n fr own' G' Φ):St C n fr own G Φ:=
 fun a w rl=>by
  obtain⟨h1,h2⟩:=rl.h.freeze hr;exact @h _ ⟨h2⟩ ⟨omc⟩ a w (rl.heap h1)
def Rk(own':List aA)(hs:own'.Sublist own)(h:St C n fr own' G Φ):St C n fr own G Φ:=
 fun a w rl=>h a w (rl.heap (rl.h.drop hs))
def Dx(own':List aA)(hs:own.Perm own')(h:St C n fr own' G Φ):St C n fr own G Φ:=
 fun a w rl=>h a w (rl.heap (rl.h.perm hs))
def QC(C:aH)(n:Nat)(F:X->Fr)(O:X->List aA)(I:X->Gh->Prop)(μ:X->Nat)(m:Nat)(G:Gh)(a:Act)(w:World):Prop:=
 ∃x G',b7 G G'/\I x G'/\μ x<m/\io C n (F x) (O x) G' a w
def Ts(F:X->Fr)(O:X->List aA)(I:X->Gh->Prop)(μ:X->Nat)(x0:X)(hI:I x0 G)(hF:xk (F x0) fr)(hO:O x0=own)
  (round: ∀(x:X) (G':Gh),[GE G G']->I x G'->St C n (F x) (O x) G' (c.wp P (Exit.then (QC C n F O I μ (μ x) G') Q))):St C n fr own G ((Code.loop c).wp P Q):=by
 intro a w rl;subst hO;intro b k cs;have key: ∀m a w,(∃x G',b7 G G'/\I x G'/\μ x=m/\io C n (F x) (O x) G' a w)->
   ∃e a' w',Q e a' w'/\Arrives P (lone (b.at a (.code c:: .inLoop c::k)) cs w) b k cs e a' w':=by
  intro m
  induction m using Nat.strongRecOn with
  |_ m ih=>
   intro a w ⟨x,G',hle,hx,hm,hr⟩;obtain⟨e,a₁,w₁,hq,harr⟩:= @round x G' ⟨hle⟩ hx a w hr b (.inLoop c::k) cs
   cases e with
   |normal=>
    obtain⟨x',G'',hle',hx',hlt,hr'⟩:=hq;obtain⟨e₂,a₂,w₂,hq₂,harr₂⟩:=ih (μ x') (hm▸hlt) a₁ w₁ ⟨x',G'',hle.trans hle',hx',rfl,hr'⟩;exact⟨e₂,a₂,w₂,hq₂, .of_steps (Steps.trans harr (.one step_inLoop)) harr₂⟩
   |exit id=>exact⟨_,a₁,w₁,hq, .pass (x:= .inLoop c) J (fun _ _=> .inl omc) harr⟩
   |goto l=>exact⟨_,a₁,w₁,hq, .pass (x:= .inLoop c) J (fun _ _=> .inl omc) harr⟩
   |ret=>exact⟨_,a₁,w₁,hq, .pass (x:= .inLoop c) J (fun _ _=> .inl omc) harr⟩
   |panic ch=>exact⟨_,a₁,w₁,hq, .pass (x:= .inLoop c) J (fun _ _=> .inl omc) harr⟩
   |outgrown=>exact⟨_,a₁,w₁,hq, .pass (x:= .inLoop c) J (fun _ _=> .inl omc) harr⟩
 obtain⟨e,a',w',q,r⟩:=key (μ x0) a w ⟨x0,G,b7.refl _,hI,rfl,rl.h,rl.sz,fun k v hk=>rl.fr _ _ (hF _ _ hk),rl.df⟩;exact⟨e,a',w',q, .of_steps (.one step_loop) r⟩
def KN{F:X->Fr}{O:X->List aA}{I:X->Gh->Prop}{μ:X->Nat}[hg:GL G0 G](x:X)(hI:I x G)(hμ:μ x<m)(hF:xk (F x) fr)(hO:O x=own):St C n fr own G (QC C n F O I μ m G0):=
 fun a w rl=>⟨x,G,hg.le,hI,hμ,⟨hO▸rl.h,rl.sz,fun k v hk=>rl.fr _ _ (hF _ _ hk),rl.df⟩⟩
end
def il(Q:Exit->Act->World->Prop):Exit->Act->World->Prop
 | .panic _,_,_=>False
 |e,a,w=>Q e a w
def il.imp: ∀(e:Exit) (a:Act) (w:World),il Q e a w->Q e a w:=fun e a w h=>by
 cases e<;>first|exact h|exact(h:False).elim
section
variable {P:Program}
def wj(P:Program)(ops:Array Oper)(Q:Exit->Act->World->Prop)(S:World->Prop)(fin:Nat->Bool):Nat->Array Bool->Act->World->Prop
 |0,listed,a,w=>Region.ready .any ops listed=[]/\Q .normal a w
 |fuel+1,listed,a,w=>
  (Region.ready .any ops listed=[]->Q .normal a w)/\
  ∀i∈Region.ready .any ops listed,wpOp P ops Q i (fun a' w'=>(fin i=true\/S w')/\wj P ops Q S fin fuel (listed.setIfInBounds i true) a' w') a w
def EO: ∀(fuel:Nat) (listed:Array Bool) (a:Act) (w:World),wj P ops Q S fin fuel listed a w->wpAny P .any ops Q fuel listed a w
 |0,_,_,_,h=>h
 |fuel+1,_,_,_,h=>⟨h.1,fun i hi=>wpOp_mono (fun a' w' h'=>EO fuel _ a' w' h'.2) (h.2 i hi)⟩
def MF(ops:Array Oper)(fin:Nat->Bool)(i:Nat):Bool:=
 !fin i&&(List.range ops.size).all fun j=>!fin j||((ops[j]?).map fun o=>o.after.any fun e=>Region.binds .any e&&e.on==i).getD true
theorem okm{p:Prop}(h:p:=by simpa using hj):p:=h
def auF(h:MF ops fin i=true):fin i=false/\ ∀j oj,ops[j]? =some oj->fin j=true-> ∃e∈oj.after,Region.binds .any e=true/\e.on=i:=by
 simp only[MF,bT,iW] at h;refine⟨h.1,fun j oj hoj hf=>?_⟩;have hj:j<ops.size:=(fM.1 hoj).1;have h1:=dV.1 h.2 j okm;rw[hf,hoj] at h1;simp only[rQ,lR,mQ,pR] at h1;obtain⟨e,he,hb⟩:=Array.any_eq_true'.1 h1;simp only[bT,beq_iff_eq] at hb;exact⟨e,he,hb.1,hb.2⟩
def apL{i:Nat}{oi:Oper}{v:Value}(hi:ops[i]? =some oi)(hsel: ∀(j:Nat) (o:Oper) cs b,ops[j]? =some o->o.op≠ .select cs b)
  (hQ: ∀c a w,Q (.panic c) (a.put oi.dst v) w->Q (.panic c) a w)(hfi:fin i=false)
  (hfin: ∀j oj,ops[j]? =some oj->fin j=true-> ∃e∈oj.after,Region.binds .any e=true/\e.on=i):
  ∀(fuel:Nat) (listed:Array Bool) (a:Act) (w:World),
   (∀j oj,ops[j]? =some oj->j≠i->listed.getD j true=false->(∀e∈oj.after,Region.binds .any e=true->e.on≠i)->oi.apart ops oj=true)->
   i∈Region.ready .any ops listed->YieldsIf P ops S oi v a->S w->
   wj P ops Q S fin fuel (listed.setIfInBounds i true) (a.put oi.dst v) w->wj P ops Q S fin (fuel+1) listed a w:=by
 intro fuel
 induction fuel with
 |zero=>
  intro listed a w _ hr hy hS H;refine⟨fun h=>(by rw[h] at hr;cases hr),fun j hj=>?_⟩;by_cases hji:j=i
  .subst hji;exact hy.wpOp hi hS ⟨.inr hS,H⟩
  .have:=ready_mono hj hji
   rw[H.1] at this
   cases this
 |succ fuel ih=>
  intro listed a w hfree hr hy hS H;refine⟨fun h=>(by rw[h] at hr;cases hr),fun j hj=>?_⟩;by_cases hji:j=i
  .subst hji;exact hy.wpOp hi hS ⟨.inr hS,H⟩
  .have h1:=H.2 j (ready_mono hj hji)
   obtain⟨hjun,oj,hoj,hall⟩:=mem_ready.1 hj;have hnot: ∀e∈oj.after,Region.binds .any e=true->e.on≠i:=fun e he hb heq=>by
    have h1:=hall e he hb;have h0:=(mem_ready.1 hr).1;rw[heq] at h1;rcases jS i listed.size with h'|h'
    .simp[h'] at h0 h1;rw[h0] at h1;cases h1
    .simp[pK h'] at h1
   have hnf:fin j=false:=by
    cases hf:fin j with
    |false=>rfl
    |true=>obtain⟨e,he,hb,heq⟩:=hfin j oj hoj hf;exact absurd heq (hnot e he hb)
   have h2:=wpOp_putIf hoj (hfree j oj hoj hji hjun hnot) (fun cs b=>hsel i oi cs b hi) (fun cs b=>hsel j oj cs b hoj) hQ hy h1;have hfree': ∀k ok,ops[k]? =some ok->k≠i->(listed.setIfInBounds j true).getD k true=false->
     (∀e∈ok.after,Region.binds .any e=true->e.on≠i)->oi.apart ops ok=true:=fun k ok hk hki hun hno=>by
    refine hfree k ok hk hki ?_ hno;by_cases hjk:j=k
    .subst hjk;exact hjun
    .rw[getD_set_ne true hjk] at hun;exact hun
   refine wpOp_mono (fun a' w' h3=>?_) h2;have hS':S w':=h3.2.1.resolve_left (by rw[hnf];simp);refine⟨.inr hS',ih (listed.setIfInBounds j true) a' w' hfree' (ready_mono hr (Ne.symm hji)) h3.1 hS' ?_⟩;rw[Array.setIfInBounds_comm _ _ hji];exact h3.2.2
def at7{listed:Array Bool}(hr:Region.ready .any ops listed=[i])
  (h:wpOp P ops Q i (fun a' w'=>(fin i=true\/S w')/\wj P ops Q S fin fuel (listed.setIfInBounds i true) a' w') a w):wj P ops Q S fin (fuel+1) listed a w:=
 ⟨fun h0=>absurd (hr.symm.trans h0) omc,fun j hj=>by rw[hr,aT] at hj;subst hj;exact h⟩
def VG(ops:Array Oper)(fin:Nat->Bool)(listed:Array Bool)(i:Nat):Bool:=
 Region.noSelect ops&&Region.free .any ops listed i&&(Region.ready .any ops listed).contains i&&MF ops fin i
end
class mz (l m:List aA):Prop where s:l.Sublist m
instance mz.cons (l m:List aA) (o:aA) [h:mz l m]:mz l (o::m):=⟨h.s.cons o⟩
def HS(C:aH)(own:List aA)(G:Gh):World->Prop:=fun w=> ∃G',b7 G G'/\bI C own G' w
section
variable {P:Program}{fr:Fr}{own:List aA}
def ay9{id:Nat}(fin:Nat->Bool)(hm:P.follows .mixedOrders=true)
  (h:St C n fr own G (wj P ops (il Q) (HS C own G) fin ops.size (Array.replicate ops.size false))):St C n fr own G ((Code.region id ops true).wp P Q):=by
 intro a w rl;exact wp_mono (wp_region_any hm (EO _ _ _ _ (h a _ (rl.heap rl.h.drew)))) il.imp
def mA{b:Bool}[hs:mz own0 own][hl:GL G0 G](h:St C n fr own G Φ):St C n fr own G (fun a w=>(b=true\/HS C own0 G0 w)/\Φ a w):=
 fun a w rl=>⟨.inr ⟨G,hl.le,rl.h.drop hs.s⟩,h a w rl⟩
def X8{b:Bool}(hb:b=true)(h:St C n fr own G Φ):St C n fr own G (fun a w=>(b=true\/S w)/\Φ a w):=
 fun a w rl=>⟨.inl hb,h a w rl⟩
end
end Go.Sx
end
