import Derived.Calls
import Derived.Orders
import Derived.OrdersHeld
import Derived.Laws.World
import Derived.Below
import Derived.IntWalk
import Derived.KernelRfl
import Derived.Laws.Append
set_option linter.unusedSimpArgs false
set_option linter.unusedVariables false
set_option linter.defProp false
section
namespace Go.Sx
theorem J{α:Sort _}{a:α}:a=a:=rfl
open Go
def aQ:=@List.getElem?_eq_getElem
def aZ:=@List.mem_cons_self
def aX:=@List.getD_eq_getElem?_getD
def aJ:=@List.mem_cons_of_mem
def aK:=@List.length_map
def aV:=@List.length_append
def aW:=@List.length_replicate
def aY:=@List.mem_singleton
def aU:=@List.mem_cons
def aT:=@Nat.eq_of_beq_eq_true
def aR:=@List.take_of_length_le
def aS:=@List.mem_of_getElem?
def aL:=@List.getElem?_eq_some_iff
def aM:=@Nat.le_refl
def aN:=@List.length_set
def bQ:=@List.drop_eq_getElem_cons
def bZ:=@List.mem_append
def bX:=@Nat.zero_le
def bJ:=@List.mem_map
def bK:=@Int.toNat_natCast
def bV:=@List.map_append
def bW:=@Nat.mul_le_mul_right
def bY:=@List.length_cons
def bU:=@List.mem_append_left
def bT:=@Nat.pow_le_pow_right
def bR:=@List.pairwise_cons
def bS:=@List.eq_nil_of_length_eq_zero
def bL:=@Nat.mul_comm
def bM:=@List.mem_append_right
def bN:=@Nat.mul_assoc
def cZ:=@List.getElem_mem
def cX:=@Bool.and_eq_true
def cJ:=@List.length_take
def cK:=@List.map_cons
def cV:=@List.getElem?_map
def cW:=@Rat.intCast_mul
def cY:=@Nat.mod_lt
def cR:=@Nat.le_trans
def cS:=@Nat.add_mul
def cM:=@Rat.le_of_lt
def cN:=@List.getElem?_eq_none
def dQ:=@Rat.intCast_eq_zero_iff
def dZ:=@List.mem_of_mem_take
def dX:=@Nat.lt_of_lt_of_le
def dJ:=@Nat.mul_add
def dK:=@List.forall_mem_cons
def dV:=@Nat.mod_eq_of_lt
def dW:=@List.take_append_of_le_length
def dY:=@Nat.add_zero
def dT:=@Int.sign_eq_neg_one_of_neg
def dR:=@List.drop_length
def dS:=@Int.sign_eq_one_of_pos
def eX:=@Nat.pow_pos
def eJ:=@List.getElem?_append_left
def eK:=@Nat.eq_zero_or_pos
def eY:=@Nat.mul_le_mul_left
def fQ:=@Nat.zero_add
def fZ:=@Nat.pow_succ
def fX:=@List.drop_of_length_le
def fJ:=@List.mem_map_of_mem
def fK:=@List.all_eq_true
def fV:=@Nat.pow_add
def fW:=@Rat.le_refl
def fY:=@List.take_length
def fU:=@List.length_nil
def fT:=@List.append_assoc
def fR:=@List.take_succ_eq_append_getElem
def fS:=@Nat.lt_of_le_of_lt
def fL:=@List.pairwise_append
def fM:=@Nat.min_eq_left
def fN:=@Rat.mul_eq_zero
def gQ:=@List.length_singleton
def gX:=@List.map_take
def gJ:=@List.getElem?_append_right
def gK:=@List.mem_of_mem_drop
def gV:=@Int.fdiv_eq_ediv_of_nonneg
def gW:=@List.map_toArray
def gU:=@Bool.not_eq_true'
def gT:=@List.length_drop
def gR:=@List.take_add_one
def gS:=@Array.getD_eq_getD_getElem?
def gL:=@List.length_dropLast
def gM:=@Bool.or_eq_true
def gN:=@Nat.mul_one
def hJ:=@Array.getElem?_setIfInBounds
def iQ:=@List.mem_flatMap
def iZ:=@Nat.lt_or_ge
def iX:=@List.drop_zero
def iJ:=@Nat.pos_of_ne_zero
def iK:=@List.map_drop
def iV:=@List.replicate_succ
def iW:=@Nat.succ_mul
def iY:=@Nat.gcd_comm
def iU:=@Int.natCast_mul
def iT:=@Nat.div_le_self
def iR:=@List.not_mem_nil
def iS:=@List.drop_append_of_le_length
def iL:=@Nat.mul_pos
def iM:=@Int.sign_eq_zero_iff_zero
def iN:=@List.pairwise_iff_getElem
def jQ:=@Bool.false_eq_true
def jZ:=@Int.natAbs_natCast
def jX:=@Int.natAbs_neg
def jJ:=@Nat.div_eq_of_lt
def jK:=@List.take_append_drop
def jV:=@List.map_nil
def jW:=@Int.natAbs_mul
def jY:=@Option.map_some
def jU:=@Nat.add_assoc
def jT:=@List.drop_eq_nil_of_le
def jR:=@List.cons_append
def jS:=@List.any_eq_true
def jL:=@Array.getElem?_eq_getElem
def jM:=@List.ext_getElem?
def jN:=@Nat.div_lt_iff_lt_mul
def kQ:=@List.map_set
def kZ:=@Nat.add_comm
def kX:=@List.mem_filter
def kJ:=@Rat.intCast_sub
def kK:=@Int.natAbs_zero
def kV:=@Nat.add_sub_cancel
def kW:=@List.append_of_mem
def kY:=@List.getElem_map
def kU:=@List.mem_iff_getElem
def kR:=@Nat.mul_lt_mul_of_pos_right
def kS:=@List.flatten_cons
def kL:=@List.mem_range
def kM:=@Nat.mul_left_comm
def kN:=@Int.ofNat_natAbs_of_nonpos
def lQ:=@Int.lt_trichotomy
def lZ:=@List.getD_cons_succ
def lX:=@List.foldl_cons
def lJ:=@List.nil_append
def lK:=@List.getLast?_eq_getElem?
def lV:=@Option.getD_some
def lW:=@Nat.shiftLeft_eq
def lY:=@Nat.zero_mul
def lU:=@List.eq_of_mem_replicate
def lT:=@Nat.shiftLeft_add_eq_or_of_lt
def lR:=@Nat.mul_le_mul
def lS:=@Nat.add_mul_div_left
def lL:=@Nat.gcd_pos_of_pos_left
def lM:=@List.append_nil
def lN:=@Rat.num_eq_zero
def mQ:=@List.length_pos_iff
def mZ:=@List.flatMap_append
def mX:=@List.getElem?_set_self
def mJ:=@Nat.div_div_eq_div_mul
def mK:=@Rat.neg_num
def mV:=@List.nil_sublist
def mW:=@List.drop_append
def mY:=@List.perm_middle
def mU:=@Nat.le_add_right
def mT:=@Nat.gcd_dvd_left
def mS:=@Bool.not_eq_true
def mL:=@Nat.blt_eq
def mM:=@Array.getElem?_append_left
def mN:=@Array.getElem?_eq_some_iff
def nQ:=@Nat.gcd_zero_right
def nZ:=@Nat.mul_lt_mul_of_lt_of_le
def nX:=@Int.natAbs_eq_zero
def nJ:=@Nat.add_mul_mod_self_left
def nK:=@Int.natAbs_ediv_le_natAbs
def nV:=@Rat.intCast_inj
def nW:=@List.size_toArray
def nY:=@Nat.beq_refl
def nU:=@Int.natAbs_of_nonneg
def nT:=@Nat.gcd_dvd_right
def nR:=@List.mem_of_getLast?
def nS:=@Nat.eq_zero_of_gcd_eq_zero_right
def nL:=@List.flatMap_cons
def nM:=@Nat.pow_lt_pow_iff_right
def nN:=@Nat.gcd_pos_of_pos_right
def oQ:=@Nat.eq_zero_of_gcd_eq_zero_left
def oZ:=@List.take_succ_cons
def oX:=@List.takeWhile_cons
def oJ:=@Int.natCast_emod
def oK:=@Nat.mul_lt_mul''
def oV:=@Rat.mul_nonneg
def oW:=@Rat.mkRat_eq_div
def oY:=@List.countP_cons
def oU:=@Nat.one_mul
def oT:=@List.getElem?_drop
def oR:=@Nat.le_of_lt
def oS:=@List.getElem_cons_zero
def oN:=@Rat.intCast_neg
def pQ:=@List.length_filter_le
def pZ:=@Nat.lt_trichotomy
def pX:=@List.getElem?_set
def pJ:=@List.length_range
def pK:=@List.length_filter_lt_length_iff_exists
def pV:=@Nat.pow_mul
def pW:=@Rat.neg_den
def pY:=@Nat.mul_zero
def pU:=@List.filter_cons
def pT:=@Nat.lt_trans
def pR:=@Int.le_of_lt
def pS:=@Int.natCast_ediv
def pL:=@Nat.le_max_right
def pM:=@List.map_map
def pN:=@List.getElem?_range
def qQ:=@Int.toNat_of_nonneg
def qZ:=@List.drop_set_of_lt
def qX:=@Array.length_toList
def qJ:=@List.getElem_of_mem
def qK:=@List.sublist_append_left
def qV:=@Option.isSome_iff_exists
def qW:=@Option.map_none
def qY:=@Nat.div_add_mod
def qU:=@Rat.num_intCast
def qT:=@Rat.den_intCast
def qR:=@Rat.intCast_add
def qS:=@Nat.le_max_left
def qL:=@List.getElem?_take
def qM:=@Nat.mul_right_comm
def qN:=@Nat.le_mul_of_pos_right
def rQ:=@Int.natCast_dvd_natCast
def rZ:=@Array.getElem?_eq_none
def rX:=@List.pairwise_map
def rJ:=@Nat.pow_zero
def rK:=@List.forall_mem_append
def rV:=@List.getElem?_dropLast
def rW:=@List.foldl_append
def rY:=@List.eq_nil_or_concat
def rU:=@List.concat_eq_append
def rT:=@Nat.mul_mod_mul_right
def rR:=@Nat.le_div_iff_mul_le
def rS:=@List.dropLast_sublist
def rL:=@Array.toList_map
def rM:=@Nat.le_of_not_lt
def rN:=@Rat.mkRat_one
def sQ:=@Bool.or_eq_false_iff
def sZ:=@Nat.div_lt_of_lt_mul
def sX:=@Int.natCast_add
def sJ:=@Int.mul_eq_zero
def sK:=@List.range_succ
def sV:=@List.drop_succ_cons
def sW:=@List.getD_cons_zero
def sY:=@Int.sign_trichotomy
def sU:=@List.mapM_cons
def sT:=@List.take_zero
def sS:=@List.drop_drop
def sL:=@Rat.mkRat_self
def sM:=@Nat.gcd_rec
def sN:=@Nat.div_one
abbrev Gh:=Nat→Option (List Value)
def GLe(G G':Gh):Prop:= ∀b cs,G b=some cs→G' b=some cs
theorem GLe.refl(G:Gh):GLe G G:=fun _ _ h=>h
theorem GLe.trans{a b c:Gh}(h:GLe a b)(k:GLe b c):GLe a c:=fun _ _ x=>k _ _ (h _ _ x)
structure Own where
 b:Nat
 cs:List Value
 ty:TypeId
 lo:Bool
structure Ctx where
 w0:World
 G0:Gh
 mb:List Nat
 /-- other objects that stay: records of loops, marks -/
 ex:List (Nat×Obj)
 /-- the marks among the deferred calls; the round -/
 mks:List Deferred
 rd:Option Nat
 /-- where names that are fixed lie -/
 fx:Nat→Option Addr
structure ab5 (C:Ctx) (own:List Own) (G:Gh) (w:World):Prop where
 os:w.os=C.w0.os
 tape:w.tape=C.w0.tape
 output:w.output=C.w0.output
 size:C.w0.heap.size≤w.heap.size
 keep: ∀b,b<C.w0.heap.size→b∉C.mb→w.heap[b]? =C.w0.heap[b]?
 sub: ∀b cs,G b=some cs→ ∃ty fz,w.heap[b]? =some (.cells ⟨cs⟩ ty fz)
 gle:GLe C.G0 G
 gold: ∀b,b<C.w0.heap.size→G b=C.G0 b
 hown: ∀o∈own,w.heap[o.b]? =some (.cells ⟨o.cs⟩ o.ty (0,0))∧G o.b=none∧(o.lo=true→C.w0.heap.size≤o.b)∧(o.lo=false→o.b∈C.mb)
 nd:own.Pairwise (fun x y=>x.b≠y.b)
 dr:C.w0.drawn≤w.drawn
 ext: ∀p∈C.ex,(∀cs ty z,p.2≠ .cells cs ty z)∧w.heap[p.1]? =some p.2
abbrev Fr:=List (Nat×Value)
def aig:Fr→Nat→Option Value
 |[],_=>none
 |(k,v)::t,j=>bif Nat.beq k j then some v else aig t j
def put(fr:Fr)(dst:Option Nat)(v:Value):Fr:=match dst with|some d=>(d,v)::fr|none=>fr
def aoO(fr:Fr)(a:Act):Prop:= ∀k v,aig fr k=some v→a.tmps[k]? =some v
structure Rel (C:Ctx) (n:Nat) (fr:Fr) (own:List Own) (G:Gh) (a:Act) (w:World):Prop where
 h:ab5 C own G w
 sz:a.tmps.size=n
 fr:aoO fr a
 df:a.defers=C.mks
def St(C:Ctx)(n:Nat)(fr:Fr)(own:List Own)(G:Gh)(Φ:Act→World→Prop):Prop:=
 ∀a w,Rel C n fr own G a w→Φ a w
def opv(fr:Fr):Operand→Option Value
 | .tmp k=>aig fr k
 | .const v=>some v
 | .global g=>some (.pointer (some ⟨g,0,none⟩))
 | .func f=>some (.func (.func f) #[] #[])
theorem aad{fr:Fr}{a:Act}(h:aoO fr a){x:Operand}{v:Value}(hx:opv fr x=some v):a.eval x=v:=by
 cases x with
 |tmp k=>
  have:=h k v hx
  simp only[Act.eval,gS,this,lV]
 |const u=>simpa[opv,Act.eval] using hx
 |global g=>simpa[opv,Act.eval] using hx
 |func f=>simpa[opv,Act.eval] using hx
theorem adk(k:Nat)(v:Value)(t:Fr)(j:Nat):aig ((k,v)::t) j=if k=j then some v else aig t j:=by
 simp only[aig]
 by_cases h:k=j
 ·simp[h]
 ·have:Nat.beq k j=false:=by
   cases hb:Nat.beq k j with
   |false=>rfl
   |true=>exact absurd (aT hb) h
  simp[this,h]
def aaO(n:Nat):Option Nat→Bool
 |some d=>Nat.blt d n
 |none=>true
theorem aoO.put{fr:Fr}{a:Act}{n:Nat}(h:aoO fr a)(hs:a.tmps.size=n){dst:Option Nat}{v:Value}(hd:aaO n dst=true):aoO (Sx.put fr dst v) (a.put dst v):=by
 cases dst with
 |none=>exact h
 |some d=>
  intro k u hk
  have hdn:d<n:=by simpa[aaO,mL] using hd
  simp only[Sx.put,adk] at hk
  simp only[Act.put,hJ]
  by_cases hkd:d=k
  ·simp only[hkd,if_true] at hk
   subst hkd
   simp[hs,hdn,hk]
  ·simp only[hkd,if_false] at hk
   simp only[hkd,if_false]
   exact h k u hk
theorem apQ(a:Act)(dst:Option Nat)(v:Value):(a.put dst v).tmps.size=a.tmps.size:=by cases dst<;>simp[Act.put]
theorem akZ(a:Act)(dst:Option Nat)(v:Value):(a.put dst v).defers=a.defers:=by cases dst<;>simp[Act.put]
theorem Rel.put{C n fr own G a w}(r:Rel C n fr own G a w){dst:Option Nat}(v:Value)(hd:aaO n dst=true):Rel C n (Sx.put fr dst v) own G (a.put dst v) w:=
 ⟨r.h,by rw[apQ];exact r.sz,r.fr.put r.sz hd,by rw[akZ];exact r.df⟩
theorem Rel.heap{C n fr own G own' G' a w w'}(r:Rel C n fr own G a w)(h:ab5 C own' G' w'):Rel C n fr own' G' a w':=⟨h,r.sz,r.fr,r.df⟩
def wpL(P:Program)(ops:Array Oper)(Q:Exit→Act→World→Prop):List Oper→Act→World→Prop
 |[],a,w=>Q .normal a w
 |o::r,a,w=>if Region.wanted o (yielded ops a.tmps) then o.wp P a w (wpL P ops Q r) Q else wpL P ops Q r (a.put o.dst undef) w
theorem ang{P:Program}{ops:Array Oper}{Q:Exit→Act→World→Prop}: ∀(l:List Nat) (k:Nat) (a:Act) (w:World),l=(List.range ops.size).drop k→wpL P ops Q (ops.toList.drop k) a w→wpOps P ops Q l a w:=by
 intro l
 induction l with
 |nil=>
  intro k a w hl h
  have hk:ops.size≤k:=by
   have:=congrArg List.length hl
   simp at this;omega
  rw[jT (by simpa using hk)] at h
  exact h
 |cons i t ih=>
  intro k a w hl h
  have hk:k<ops.size:=by
   have:=congrArg List.length hl
   simp at this;omega
  rw[bQ (by simpa using hk)] at hl
  obtain⟨hi,ht⟩:=List.cons.inj hl
  simp only[List.getElem_range] at hi
  subst hi
  rw[bQ (by simpa using hk)] at h
  have ho:ops[i]? =some ops[i]:=jL hk
  simp only[wpOps,ho]
  simp only[wpL,Array.getElem_toList] at h
  split
  ·rename_i hw
   simp only[hw,if_true] at h
   exact .inl (Oper.wp_mono (fun a w h=>ih (i+1) a w ht h) h)
  ·rename_i hw
   simp only[hw] at h
   exact ih (i+1) _ w ht h
theorem aoJ{P:Program}{id:Nat}{ops:Array Oper}{Q:Exit→Act→World→Prop}{a:Act}{w:World}
  (h:wpL P ops Q ops.toList a w):(Code.region id ops false).wp P Q a w:=
 wp_region (ang _ 0 a w (by simp) (by simpa using h))
def Yd(P:Program)(C:Ctx)(fr:Fr)(own:List Own)(G:Gh)(o:Oper)(v:Value):Prop:=
 ∀a w,aoO fr a→ab5 C own G w→(execOp a.eval o).run P w= .ok (.value v) w
section
variable {P:Program} {C:Ctx} {n:Nat} {fr:Fr} {own:List Own} {G:Gh} {ops:Array Oper} {Q:Exit→Act→World→Prop} {r:List Oper}
theorem awM{o:Oper}{v:Value}(hy:Yd P C fr own G o v)(hg:o.guard=none)(hd:aaO n o.dst=true)
  (h:St C n (put fr o.dst v) own G (wpL P ops Q r)):St C n fr own G (wpL P ops Q (o::r)):=by
 intro a w rl
 simp only[wpL,Region.wanted,hg,if_true,Oper.wp,hy a w rl.fr rl.h,Oper.upon]
 exact h _ _ (rl.put v hd)
theorem afR{a:Act}{j d:Nat}{b:Bool}(hf:aoO fr a)(hj:(ops[j]?).bind (·.dst)=some d)(hl:aig fr d=some (.bool b)):yielded ops a.tmps j=some b:=by
 unfold yielded
 rw[hj]
 simp[hf d _ hl]
theorem aGz{o:Oper}{v:Value}{j d:Nat}{b:Bool}(hg:o.guard=some (j,b))(hj:(ops[j]?).bind (·.dst)=some d)(hl:aig fr d=some (.bool b))
  (hy:Yd P C fr own G o v)(hd:aaO n o.dst=true)
  (h:St C n (put fr o.dst v) own G (wpL P ops Q r)):St C n fr own G (wpL P ops Q (o::r)):=by
 intro a w rl
 have:Region.wanted o (yielded ops a.tmps)=true:=by simp[Region.wanted,hg,afR rl.fr hj hl]
 simp only[wpL,this,if_true,Oper.wp,hy a w rl.fr rl.h,Oper.upon]
 exact h _ _ (rl.put v hd)
theorem az2{o:Oper}{j d:Nat}{b c:Bool}(hg:o.guard=some (j,b))(hj:(ops[j]?).bind (·.dst)=some d)(hl:aig fr d=some (.bool c))(hbc:(c==b)=false)
  (hd:aaO n o.dst=true)(h:St C n (put fr o.dst undef) own G (wpL P ops Q r)):St C n fr own G (wpL P ops Q (o::r)):=by
 intro a w rl
 have:Region.wanted o (yielded ops a.tmps)=false:=by simp[Region.wanted,hg,afR rl.fr hj hl,hbc]
 simp only[wpL,this]
 exact h _ _ (rl.put undef hd)
theorem zE(h:St C n fr own G (Q .normal)):St C n fr own G (wpL P ops Q []):=h
theorem aao{id:Nat}(h:St C n fr own G (wpL P ops Q ops.toList)):St C n fr own G ((Code.region id ops false).wp P Q):=
 fun a w rl=>aoJ (h a w rl)
theorem aan{x y:Code}(h:St C n fr own G (x.wp P (Exit.then (y.wp P Q) Q))):St C n fr own G ((Code.seq x y).wp P Q):=
 fun a w rl=>wp_seq (h a w rl)
theorem zK(h:St C n fr own G (Q .normal)):St C n fr own G (Code.skip.wp P Q):=fun a w rl=>wp_skip (h a w rl)
theorem aaH(h:St C n fr own G (Q .ret)):St C n fr own G (Code.ret.wp P Q):=fun a w rl=>wp_ret (h a w rl)
theorem abI{id:Nat}(h:St C n fr own G (Q (.exit id))):St C n fr own G ((Code.exit id).wp P Q):=fun a w rl=>wp_exit (h a w rl)
theorem aat{id:Nat}{c:Code}(h:St C n fr own G (c.wp P (Exit.inBlock id Q))):St C n fr own G ((Code.block id c).wp P Q):=
 fun a w rl=>wp_block (h a w rl)
theorem aau{id:Nat}{Q:Exit→Act→World→Prop}(h:St C n fr own G (Q .normal)):St C n fr own G (Exit.inBlock id Q (.exit id)):=
 fun a w rl=>by simp only[Exit.inBlock,if_true];exact h a w rl
theorem ag0{id j:Nat}{Q:Exit→Act→World→Prop}(hne:Nat.beq j id=false)(h:St C n fr own G (Q (.exit j))):St C n fr own G (Exit.inBlock id Q (.exit j)):=
 fun a w rl=>by
  have:j≠id:=fun e=>by subst e;simp at hne
  simp only[Exit.inBlock,this,if_false];exact h a w rl
theorem adc{c:Operand}{x y:Code}(hc:opv fr c=some (.bool true))(h:St C n fr own G (x.wp P Q)):St C n fr own G ((Code.cond c x y).wp P Q):=
 fun a w rl=>wp_cond_true (aad rl.fr hc) (h a w rl)
theorem agW{c:Operand}{x y:Code}(hc:opv fr c=some (.bool false))(h:St C n fr own G (y.wp P Q)):St C n fr own G ((Code.cond c x y).wp P Q):=
 fun a w rl=>wp_cond_false (aad rl.fr hc) (h a w rl)
theorem aaE{p:Prop}{inst:Decidable p}{c:Operand}{x y:Code}(hc:opv fr c=some (.bool (@decide p inst)))(h1:p→St C n fr own G (x.wp P Q))(h2: ¬p→St C n fr own G (y.wp P Q)):
  St C n fr own G ((Code.cond c x y).wp P Q):=
 fun a w rl=>wp_cond_split (aad rl.fr hc) (fun h=>h1 (of_decide_eq_true h) a w rl) (fun h=>h2 (of_decide_eq_false h) a w rl)
theorem awT{b:Bool}{c:Operand}{x y:Code}(hc:opv fr c=some (.bool b))(h1:b=true→St C n fr own G (x.wp P Q))(h2:b=false→St C n fr own G (y.wp P Q)):
  St C n fr own G ((Code.cond c x y).wp P Q):=
 fun a w rl=>wp_cond_split (aad rl.fr hc) (fun h=>h1 h a w rl) (fun h=>h2 h a w rl)
theorem aBL{Φ:Act→World→Prop}(d:Nat){b:Bool}(hl:aig fr d=some (.bool b))(h1:b=true→St C n ((d, .bool true)::fr) own G Φ)(h2:b=false→St C n ((d, .bool false)::fr) own G Φ):St C n fr own G Φ:=by
 intro a w rl
 cases b with
 |true=>exact h1 rfl a w ⟨rl.h,rl.sz,fun k v hk=>by
   rw[adk] at hk;split at hk
   ·subst_vars;cases hk;exact rl.fr _ _ hl
   ·exact rl.fr _ _ hk,rl.df⟩
 |false=>exact h2 rfl a w ⟨rl.h,rl.sz,fun k v hk=>by
   rw[adk] at hk;split at hk
   ·subst_vars;cases hk;exact rl.fr _ _ hl
   ·exact rl.fr _ _ hk,rl.df⟩
theorem aci{Φ:Act→World→Prop}(d:Nat){p:Prop}{inst:Decidable p}(hl:aig fr d=some (.bool (@decide p inst)))(h1:p→St C n ((d, .bool true)::fr) own G Φ)(h2: ¬p→St C n ((d, .bool false)::fr) own G Φ):St C n fr own G Φ:=
 aBL d hl (fun h=>h1 (of_decide_eq_true h)) (fun h=>h2 (of_decide_eq_false h))
def azK(fr' fr:Fr):Prop:= ∀k v,aig fr' k=some v→aig fr k=some v
theorem azK.nil:azK [] fr:=fun _ _ h=>by cases h
theorem azK.cons{fr':Fr}{k:Nat}{v:Value}(h:aig fr k=some v)(t:azK fr' fr):azK ((k,v)::fr') fr:=fun j u hj=>by
 rw[adk] at hj
 split at hj
 ·subst_vars;cases hj;exact h
 ·exact t _ _ hj
end
class OAt (own:List Own) (b:Nat) (cs:outParam (List Value)) (ty:outParam TypeId) (lo:outParam Bool):Prop where
 mem:⟨b,cs,ty,lo⟩∈own
instance OAt.i1 (b:Nat) (cs:List Value) (ty:TypeId) (lo:Bool) (t:List Own):OAt (⟨b,cs,ty,lo⟩::t) b cs ty lo:=⟨aZ⟩
instance OAt.i2 (o:Own) (t:List Own) (b:Nat) (cs:List Value) (ty:TypeId) (lo:Bool) [h:OAt t b cs ty lo]:OAt (o::t) b cs ty lo:=⟨aJ _ h.mem⟩
inductive agq:List Own→Nat→List Value→TypeId→Bool→List Value→List Own→Prop
 |hd (b:Nat) (cs cs':List Value) (ty:TypeId) (lo:Bool) (t:List Own):agq (⟨b,cs,ty,lo⟩::t) b cs ty lo cs' (⟨b,cs',ty,lo⟩::t)
 |tl (o:Own) (t t':List Own) (b:Nat) (cs cs':List Value) (ty:TypeId) (lo:Bool) (h:agq t b cs ty lo cs' t'):agq (o::t) b cs ty lo cs' (o::t')
inductive alT:List Own→Own→List Own→Prop
 |hd (o:Own) (t:List Own):alT (o::t) o t
 |tl (x:Own) (t t':List Own) (o:Own) (h:alT t o t'):alT (x::t) o (x::t')
class GE (A:outParam Gh) (B:Gh):Prop where le:GLe A B
class GL (A B:Gh):Prop where le:GLe A B
instance GL.refl (A:Gh):GL A A:=⟨GLe.refl A⟩
instance GL.step (A B C:Gh) [h:GE B C] [k:GL A B]:GL A C:=⟨k.le.trans h.le⟩
class aET (G:outParam Gh) (b:Nat) (cs:outParam (List Value)):Prop where h:G b=some cs
theorem aET.up{A G:Gh}{b:Nat}{cs:List Value}(h:aET A b cs)[k:GL A G]:G b=some cs:=k.le _ _ h.h
def aa1:List Value→Nat→Nat→Option (List Value)
 |_,0,0=>some []
 |[],0,_+1=>none
 |v::t,0,k+1=>match aa1 t 0 k with|some l=>some (v::l)|none=>none
 |[],_+1,_=>none
 |_::t,off+1,k=>aa1 t off k
def ovw:List Value→Nat→List Value→List Value
 |cs,_,[]=>cs
 |cs,off,v::vs=>ovw (cs.set off v) (off+1) vs
theorem abK: ∀(cs:List Value) (off k:Nat) (l:List Value),aa1 cs off k=some l→l.length=k∧ ∀i,i<k→cs[off+i]? =l[i]?
 |cs,0,0,l,h=>by
  cases cs<;>(simp only[aa1] at h;cases h;exact⟨rfl,fun i hi=>absurd hi (Nat.not_lt_zero _)⟩)
 |[],0,_+1,l,h=>by simp[aa1] at h
 |v::t,0,k+1,l,h=>by
  simp only[aa1] at h
  split at h
  ·rename_i l' hl'
   cases h
   obtain⟨h1,h2⟩:=abK t 0 k l' hl'
   refine⟨by simp[h1],fun i hi=>?_⟩
   cases i with
   |zero=>rfl
   |succ i=>
    have:=h2 i (by omega)
    simpa using this
  ·cases h
 |[],_+1,_,l,h=>by simp[aa1] at h
 |_::t,off+1,k,l,h=>by
  simp only[aa1] at h
  obtain⟨h1,h2⟩:=abK t off k l h
  refine⟨h1,fun i hi=>?_⟩
  have:=h2 i hi
  rw[←this,show off+1+i=(off+i)+1 by omega]
  rfl
class TyA (P:Program) (t:TypeId) (k:outParam Nat):Prop where
 agg: ∀w,(isAgg t).run P w= .ok true w
 siz: ∀w,(sizeOf t).run P w= .ok k w
class TyS (P:Program) (t:TypeId):Prop where
 agg: ∀w,(isAgg t).run P w= .ok false w
 siz: ∀w,(sizeOf t).run P w= .ok 1 w
class TyZ (P:Program) (t:TypeId) (z:outParam Value):Prop where
 inf:(P.info? t).map (·.zero)=some (some z)
class TyF (P:Program) (t:TypeId) (f:Nat) (off:outParam Nat):Prop where
 at_: ∀(b o:Nat) w,(Instr.fieldAt t (.pointer (some ⟨b,o,none⟩)) f).run P w= .ok (.pointer (some (Addr.add ⟨b,o,none⟩ off))) w
class acJ (P:Program) (t:TypeId) (e s by_:outParam Nat):Prop where
 un:P.underlying t=some (.slice e)
 inf:(P.info? e).map (fun i=>(i.size,i.bytes))=some (s,by_)
theorem TyZ.info{P:Program}{t:TypeId}{z:Value}(h:TyZ P t z): ∃i,P.info? t=some i∧i.zero=some z:=by
 have:=h.inf
 cases hi:P.info? t with
 |none=>rw[hi] at this;cases this
 |some i=>rw[hi] at this;exact⟨i,rfl,by simpa using this⟩
theorem acJ.info{P:Program}{t e s by_:Nat}(h:acJ P t e s by_): ∃i,P.info? e=some i∧i.size=s∧i.bytes=by_:=by
 have:=h.inf
 cases hi:P.info? e with
 |none=>rw[hi] at this;cases this
 |some i=>rw[hi] at this;simp at this;exact⟨i,rfl,this.1,this.2⟩
theorem acx(b o n:Nat):Addr.add ⟨b,o,none⟩ n=⟨b,o+n,none⟩:=by
 unfold Addr.add
 split
 ·subst_vars;rfl
 ·rfl
theorem Sem.run_bind{α β:Type}(P:Program)(x:Sem α)(f:α→Sem β): ∀(w:World),(x>>=f).run P w=match x.run P w with| .ok a w'=>(f a).run P w'| .halt h w'=> .halt h w':=by
 show∀w,(Sem.bind x f).run P w=_
 induction x with
 |pure a=>intro w;rfl
 |load m a k ih=>
  intro w
  simp only[Sem.bind,Sem.run]
  split
  ·exact ih _ w
  ·split
   ·exact ih _ w
   ·rfl
 |store m a v k ih=>
  intro w
  cases v<;>simp only[Sem.bind,Sem.run]<;>(try rfl)<;>(split<;>first|(split<;>first|rfl|exact ih _)|rfl)
 |new o k ih=>intro w;exact ih _ _
 |shape r k ih=>intro w;exact ih _ _
 |freeze a n k ih=>intro w;exact ih _
 |frozen a k ih=>intro w;exact ih _ _
 |getObj r k ih=>
  intro w
  simp only[Sem.bind,Sem.run]
  split
  ·rfl
  ·exact ih _ w
  ·rfl
 |setObj r o k ih=>
  intro w
  simp only[Sem.bind,Sem.run]
  split
  ·rfl
  ·exact ih _
  ·rfl
 |choose q k ih=>
  intro w
  simp only[Sem.bind,Sem.run]
  split
  ·exact ih _ _
  ·exact ih _ _
 |sys c k ih=>intro w;exact ih _ _
 |program k ih=>intro w;exact ih _ _
 |mark m k ih=>intro w;exact ih _
 |halt h=>intro w;rfl
theorem run_pure{α:Type}(P:Program)(a:α)(w:World):(pure a:Sem α).run P w= .ok a w:=rfl
theorem aaa{α β:Type}{P:Program}{x:Sem α}{f:α→Sem β}{w w':World}{a:α}(h:x.run P w= .ok a w'):(x>>=f).run P w=(f a).run P w':=by
 rw[Sem.run_bind,h]
theorem TyZ.zero{P:Program}{t:TypeId}{z:Value}(h:TyZ P t z)(w:World):(zeroValue t).run P w= .ok z w:=by
 obtain⟨i,h1,h2⟩:=h.info
 simp[zeroValue,typeInfo,program,Sem.run_bind,Sem.run,h1,h2,run_pure]
theorem acJ.u{P:Program}{t e s by_:Nat}(h:acJ P t e s by_)(w:World):(underlying t).run P w= .ok (.slice e) w:=by
 simp[underlying,program,Sem.run_bind,Sem.run,h.un,run_pure]
theorem acJ.siz{P:Program}{t e s by_:Nat}(h:acJ P t e s by_)(w:World):(sizeOf e).run P w= .ok s w:=by
 obtain⟨i,h1,h2,_⟩:=h.info
 simp[sizeOf,typeInfo,program,Sem.run_bind,Sem.run,h1,h2,run_pure]
section
variable {P:Program} {C:Ctx} {n:Nat} {fr:Fr} {own:List Own} {G:Gh} {ops:Array Oper} {Q:Exit→Act→World→Prop} {r:List Oper}
theorem acT{w:World}{b:Nat}{cs:List Value}{ty:TypeId}{fz:Nat×Nat}(h:w.heap[b]? =some (.cells ⟨cs⟩ ty fz))(i:Nat):w.cell? ⟨b,i,none⟩=cs[i]? :=by
 simp[World.cell?,h]
theorem aqp{w:World}{a:Addr}{v:Value}(h:w.cell? a=some v):(load a).run P w= .ok v w:=by
 simp[load,Sem.run,h]
theorem ac4{w:World}{b off:Nat}{l:List Value}: ∀(m i:Nat) (acc:Array Value),(∀j,j<m→w.cell? ⟨b,off+(i+j),none⟩=l[i+j]?)→i+m≤l.length→
  (loadCellsFrom ⟨b,off,none⟩ i m acc).run P w= .ok (acc++((l.drop i).take m).toArray) w
 |0,i,acc,_,_=>by simp[loadCellsFrom,run_pure]
 |m+1,i,acc,h,hl=>by
  have h0:=h 0 (by omega)
  rw[dY,aQ (by omega)] at h0
  unfold loadCellsFrom
  rw[aaa (a:=l[i]) (w':=w) (by rw[acx];exact aqp h0)]
  rw[ac4 m (i+1) (acc.push l[i]) (fun j hj=>by have:=h (j+1) (by omega);rw[show i+1+j=i+(j+1) by omega];exact this) (by omega)]
  congr 1
  rw[bQ (by omega:i<l.length),oZ]
  apply Array.ext'
  simp
theorem adT{w:World}{b off k:Nat}{t:TypeId}{cs l:List Value}[ht:TyA P t k]{ty:TypeId}{fz:Nat×Nat}(h:w.heap[b]? =some (.cells ⟨cs⟩ ty fz))(hl:aa1 cs off k=some l):
  (loadVar t ⟨b,off,none⟩).run P w= .ok (.agg ⟨l⟩) w:=by
 obtain⟨h1,h2⟩:=abK _ _ _ _ hl
 unfold loadVar
 rw[aaa (ht.agg w)]
 simp only[if_true]
 rw[aaa (ht.siz w)]
 unfold loadCells
 rw[aaa (ac4 (l:=l) k 0 #[] (fun j hj=>by rw[acT h];simpa using h2 j hj) (by omega))]
 simp[run_pure,←h1]
theorem aek{w:World}{b off:Nat}{t:TypeId}{cs:List Value}{v:Value}[ht:TyS P t]{ty:TypeId}{fz:Nat×Nat}(h:w.heap[b]? =some (.cells ⟨cs⟩ ty fz))(hl:cs[off]? =some v):
  (loadVar t ⟨b,off,none⟩).run P w= .ok v w:=by
 unfold loadVar
 rw[aaa (ht.agg w)]
 simp only[jQ,if_false]
 exact aqp (by rw[acT h];exact hl)
theorem aap{α:Type}{f:α→Next}{s:Sem α}{w w':World}{a:α}(h:s.run P w= .ok a w'):(do pure (f (←s)):Sem Next).run P w= .ok (f a) w':=by
 rw[aaa h];rfl
theorem ae5{dst:Option Nat}{t ty':TypeId}{pos:String}{af:Array Edge}{gd:Option (Nat×Bool)}{x:Operand}{b off k:Nat}{cs l:List Value}{lo:Bool}{ty:TypeId}
  (hx:opv fr x=some (.pointer (some ⟨b,off,none⟩)))[ho:OAt own b cs ty lo][TyA P t k](hl:aa1 cs off k=some l):
  Yd P C fr own G ⟨dst, .load t x,ty',pos,af,gd⟩ (.agg ⟨l⟩):=by
 intro a w hf hh
 simp only[execOp,aad hf hx,Instr.loadAt,Instr.sureAddr]
 exact aap (adT (hh.hown _ ho.mem).1 hl)
theorem aaC{dst:Option Nat}{t ty':TypeId}{pos:String}{af:Array Edge}{gd:Option (Nat×Bool)}{x:Operand}{b off:Nat}{cs:List Value}{v:Value}{lo:Bool}{ty:TypeId}
  (hx:opv fr x=some (.pointer (some ⟨b,off,none⟩)))[ho:OAt own b cs ty lo][TyS P t](hl:cs[off]? =some v):
  Yd P C fr own G ⟨dst, .load t x,ty',pos,af,gd⟩ v:=by
 intro a w hf hh
 simp only[execOp,aad hf hx,Instr.loadAt,Instr.sureAddr]
 exact aap (aek (hh.hown _ ho.mem).1 hl)
theorem akx{dst:Option Nat}{t ty':TypeId}{pos:String}{af:Array Edge}{gd:Option (Nat×Bool)}{x:Operand}{b off k:Nat}{cs l:List Value}
  (hx:opv fr x=some (.pointer (some ⟨b,off,none⟩)))(hg:G b=some cs)[TyA P t k](hl:aa1 cs off k=some l):
  Yd P C fr own G ⟨dst, .load t x,ty',pos,af,gd⟩ (.agg ⟨l⟩):=by
 intro a w hf hh
 obtain⟨ty,fz,hb⟩:=hh.sub _ _ hg
 simp only[execOp,aad hf hx,Instr.loadAt,Instr.sureAddr]
 exact aap (adT hb hl)
theorem af8{dst:Option Nat}{t ty':TypeId}{pos:String}{af:Array Edge}{gd:Option (Nat×Bool)}{x:Operand}{b off:Nat}{cs:List Value}{v:Value}
  (hx:opv fr x=some (.pointer (some ⟨b,off,none⟩)))(hg:G b=some cs)[TyS P t](hl:cs[off]? =some v):
  Yd P C fr own G ⟨dst, .load t x,ty',pos,af,gd⟩ v:=by
 intro a w hf hh
 obtain⟨ty,fz,hb⟩:=hh.sub _ _ hg
 simp only[execOp,aad hf hx,Instr.loadAt,Instr.sureAddr]
 exact aap (aek hb hl)
variable {dst:Option Nat} {t t' ty':TypeId} {pos:String} {af:Array Edge} {gd:Option (Nat×Bool)} {x y:Operand}
theorem aaQ{v:Value}(hx:opv fr x=some v):Yd P C fr own G ⟨dst, .move x,ty',pos,af,gd⟩ v:=by
 intro a w hf hh;simp only[execOp,aad hf hx];rfl
theorem aiU{v:Value}(hx:opv fr x=some v):Yd P C fr own G ⟨dst, .assign x,ty',pos,af,gd⟩ v:=by
 intro a w hf hh;simp only[execOp,aad hf hx];rfl
theorem ac9{z:Operand}{v:Value}(hc:opv fr z=some (.bool true))(hx:opv fr x=some v):Yd P C fr own G ⟨dst, .pick z x y,ty',pos,af,gd⟩ v:=by
 intro a w hf hh;simp only[execOp,aad hf hc,aad hf hx,asBool];rfl
theorem abD{z:Operand}{v:Value}(hc:opv fr z=some (.bool false))(hx:opv fr y=some v):Yd P C fr own G ⟨dst, .pick z x y,ty',pos,af,gd⟩ v:=by
 intro a w hf hh;simp only[execOp,aad hf hc,aad hf hx,asBool];rfl
theorem aaX{ad:Addr}(hx:opv fr x=some (.pointer (some ad))):Yd P C fr own G ⟨dst, .nilCheck x,ty',pos,af,gd⟩ (.pointer (some ad)):=by
 intro a w hf hh;simp only[execOp,aad hf hx];rfl
theorem aaS{b o f off:Nat}[hF:TyF P t f off](hx:opv fr x=some (.pointer (some ⟨b,o,none⟩))):
  Yd P C fr own G ⟨dst, .fieldAddr t x f,ty',pos,af,gd⟩ (.pointer (some ⟨b,o+off,none⟩)):=by
 intro a w hf hh;simp only[execOp,aad hf hx]
 have:=hF.at_ b o w
 rw[acx] at this
 exact aap this
theorem ahK{vs:Array Value}{i:Nat}{v:Value}(hx:opv fr x=some (.tuple vs))(hv:vs[i]? =some v):Yd P C fr own G ⟨dst, .extract x i,ty',pos,af,gd⟩ v:=by
 intro a w hf hh;simp only[execOp,aad hf hx,Instr.extract,hv];rfl
theorem aca{op:BinOp}{k:IntKind}{p q:Int}{v:Value}(hx:opv fr x=some (.int k p))(hy:opv fr y=some (.int k q))(hs: ∀w,(binOp op t (.int k p) (.int k q)).run P w= .ok v w):
  Yd P C fr own G ⟨dst, .binOp op t x y t',ty',pos,af,gd⟩ v:=by
 intro a w hf hh
 simp only[execOp,aad hf hx,aad hf hy]
 have:(eqGuard op t x y (.int k p) (.int k q)).run P w= .ok () w:=by cases op<;>rfl
 exact aap (by rw[aaa this];exact hs w)
theorem anm(k:IntKind)(p q:Int)(w:World):(binOp .add t (.int k p) (.int k q)).run P w= .ok (.int k (k.wrap (p+q))) w:=by simp[binOp,Op.intArith,run_pure]
theorem ann(k:IntKind)(p q:Int)(w:World):(binOp .sub t (.int k p) (.int k q)).run P w= .ok (.int k (k.wrap (p-q))) w:=by simp[binOp,Op.intArith,run_pure]
theorem atC(k:IntKind)(p q:Int)(w:World):(binOp .mul t (.int k p) (.int k q)).run P w= .ok (.int k (k.wrap (p*q))) w:=by simp[binOp,Op.intArith,run_pure]
theorem au0(k:IntKind)(p q:Int)(w:World)(h:q≠0):(binOp .quo t (.int k p) (.int k q)).run P w= .ok (.int k (k.wrap (p.tdiv q))) w:=by simp[binOp,Op.intDiv,run_pure,h]
theorem auw(k:IntKind)(p q:Int)(w:World)(h:q≠0):(binOp .rem t (.int k p) (.int k q)).run P w= .ok (.int k (p.tmod q)) w:=by simp[binOp,Op.intDiv,run_pure,h]
theorem avp(k:IntKind)(p q:Int)(w:World):(binOp .lss t (.int k p) (.int k q)).run P w= .ok (.bool (decide (p<q))) w:=by simp[binOp,Op.intCmp,run_pure]
theorem ase(k:IntKind)(p q:Int)(w:World):(binOp .leq t (.int k p) (.int k q)).run P w= .ok (.bool (decide (p≤q))) w:=by simp[binOp,Op.intCmp,run_pure]
theorem auV(k:IntKind)(p q:Int)(w:World):(binOp .gtr t (.int k p) (.int k q)).run P w= .ok (.bool (decide (q<p))) w:=by simp[binOp,Op.intCmp,run_pure]
theorem ato(k:IntKind)(p q:Int)(w:World):(binOp .geq t (.int k p) (.int k q)).run P w= .ok (.bool (decide (q≤p))) w:=by simp[binOp,Op.intCmp,run_pure]
theorem as0(k:IntKind)(p q:Int)(w:World):(binOp .eql t (.int k p) (.int k q)).run P w= .ok (.bool (decide (p=q))) w:=by
 have:(p==q)=decide (p=q):=by rw[Bool.eq_iff_iff];simp
 simp[binOp,Op.intCmp,run_pure,this]
theorem auL(k:IntKind)(p q:Int)(w:World):(binOp .neq t (.int k p) (.int k q)).run P w= .ok (.bool (decide (p≠q))) w:=by
 have:(p !=q)=decide (p≠q):=by rw[Bool.eq_iff_iff];simp
 simp[binOp,Op.intCmp,run_pure,this]
theorem aeO{k:IntKind}{p:Int}(h:k.min≤p∧p≤k.max):k.wrap p=p:=by
 cases k<;>simp only[IntKind.min,IntKind.max,IntKind.wrap,IntKind.bits,IntKind.signed] at* <;>simp at h⊢ <;>(try split)<;>omega
theorem atw{k:IntKind}{p q:Int}(hx:opv fr x=some (.int k p))(hy:opv fr y=some (.int k q))(h:k.min≤p+q∧p+q≤k.max):Yd P C fr own G ⟨dst, .binOp .add t x y t',ty',pos,af,gd⟩ (.int k (p+q)):=
 aca hx hy fun w=>by rw[anm,aeO h]
theorem ar9{k:IntKind}{p q:Int}(hx:opv fr x=some (.int k p))(hy:opv fr y=some (.int k q))(h:k.min≤p-q∧p-q≤k.max):Yd P C fr own G ⟨dst, .binOp .sub t x y t',ty',pos,af,gd⟩ (.int k (p-q)):=
 aca hx hy fun w=>by rw[ann,aeO h]
theorem atB{k:IntKind}{p q:Int}(hx:opv fr x=some (.int k p))(hy:opv fr y=some (.int k q))(h:k.min≤p*q∧p*q≤k.max):Yd P C fr own G ⟨dst, .binOp .mul t x y t',ty',pos,af,gd⟩ (.int k (p*q)):=
 aca hx hy fun w=>by rw[atC,aeO h]
theorem aA8{k:IntKind}{p q:Int}(hx:opv fr x=some (.int k p))(hy:opv fr y=some (.int k q)):Yd P C fr own G ⟨dst, .binOp .add t x y t',ty',pos,af,gd⟩ (.int k (k.wrap (p+q))):=aca hx hy fun w=>anm k p q w
theorem agn{k:IntKind}{p q:Int}(hx:opv fr x=some (.int k p))(hy:opv fr y=some (.int k q)):Yd P C fr own G ⟨dst, .binOp .sub t x y t',ty',pos,af,gd⟩ (.int k (k.wrap (p-q))):=aca hx hy fun w=>ann k p q w
theorem auc{k:IntKind}{p q:Int}(hx:opv fr x=some (.int k p))(hy:opv fr y=some (.int k q))(h:q≠0):Yd P C fr own G ⟨dst, .binOp .quo t x y t',ty',pos,af,gd⟩ (.int k (k.wrap (p.tdiv q))):=aca hx hy fun w=>au0 k p q w h
theorem ays{k:IntKind}{p q:Int}(hx:opv fr x=some (.int k p))(hy:opv fr y=some (.int k q))(h:q≠0):Yd P C fr own G ⟨dst, .binOp .rem t x y t',ty',pos,af,gd⟩ (.int k (p.tmod q)):=aca hx hy fun w=>auw k p q w h
theorem acu{k:IntKind}{p q:Int}(hx:opv fr x=some (.int k p))(hy:opv fr y=some (.int k q)):Yd P C fr own G ⟨dst, .binOp .lss t x y t',ty',pos,af,gd⟩ (.bool (decide (p<q))):=aca hx hy fun w=>avp k p q w
theorem aEB{k:IntKind}{p q:Int}(hx:opv fr x=some (.int k p))(hy:opv fr y=some (.int k q)):Yd P C fr own G ⟨dst, .binOp .leq t x y t',ty',pos,af,gd⟩ (.bool (decide (p≤q))):=aca hx hy fun w=>ase k p q w
theorem ahc{k:IntKind}{p q:Int}(hx:opv fr x=some (.int k p))(hy:opv fr y=some (.int k q)):Yd P C fr own G ⟨dst, .binOp .gtr t x y t',ty',pos,af,gd⟩ (.bool (decide (q<p))):=aca hx hy fun w=>auV k p q w
theorem ahY{k:IntKind}{p q:Int}(hx:opv fr x=some (.int k p))(hy:opv fr y=some (.int k q)):Yd P C fr own G ⟨dst, .binOp .geq t x y t',ty',pos,af,gd⟩ (.bool (decide (q≤p))):=aca hx hy fun w=>ato k p q w
theorem ab9{k:IntKind}{p q:Int}(hx:opv fr x=some (.int k p))(hy:opv fr y=some (.int k q)):Yd P C fr own G ⟨dst, .binOp .eql t x y t',ty',pos,af,gd⟩ (.bool (decide (p=q))):=aca hx hy fun w=>as0 k p q w
theorem aia{k:IntKind}{p q:Int}(hx:opv fr x=some (.int k p))(hy:opv fr y=some (.int k q)):Yd P C fr own G ⟨dst, .binOp .neq t x y t',ty',pos,af,gd⟩ (.bool (decide (p≠q))):=aca hx hy fun w=>auL k p q w
variable {e s by_:Nat}
theorem aew[hT:acJ P t e s by_]{ad:Option Addr}{len cap:Nat}(hx:opv fr x=some (.slice ad len cap)):
  Yd P C fr own G ⟨dst, .call ⟨.builtin .len, #[x], #[t]⟩,ty',pos,af,gd⟩ (.int .i64 len):=by
 intro a w hf hh
 simp only[execOp,resolve,gW,cK,jV,aad hf hx]
 have h1:(Builtin.len_ #[t] ty' #[.slice ad len cap]).run P w= .ok (.int .i64 len) w:=by
  simp only[Builtin.len_]
  show(underlying t>>=_).run P w=_
  rw[aaa (hT.u w)]
  rfl
 exact aap h1
theorem ahj[hT:acJ P t e s by_]{k:IntKind}{b off len cap:Nat}{i:Int}(hx:opv fr x=some (.slice (some ⟨b,off,none⟩) len cap))(hy:opv fr y=some (.int k i))(h0:0≤i)(h1:i<len):
  Yd P C fr own G ⟨dst, .indexAddr t x y,ty',pos,af,gd⟩ (.pointer (some ⟨b,off+i.toNat*s,none⟩)):=by
 intro a w hf hh
 simp only[execOp,aad hf hx,aad hf hy]
 have:(Instr.indexAt t (.slice (some ⟨b,off,none⟩) len cap) (.int k i)).run P w= .ok (.pointer (some ⟨b,off+i.toNat*s,none⟩)) w:=by
  unfold Instr.indexAt
  show(underlying t>>=_).run P w=_
  rw[aaa (hT.u w)]
  show(underlying t>>=_).run P w=_
  rw[aaa (hT.u w)]
  simp only[h0,h1,and_self,if_true]
  show(sizeOf e>>=_).run P w=_
  rw[aaa (hT.siz w),acx]
  rfl
 exact aap this
theorem abU{k:IntKind}{v:Int}{m:Nat}{c:BoundsCode}(w:World)(h0:0≤v)(h1:v≤m):(Instr.sliceBound (.int k v) m c).run P w= .ok v.toNat w:=by
 unfold Instr.sliceBound
 simp[asIntOf,h0,h1,run_pure]
def aoA(ad:Option Addr)(len cap lo hi mx s:Nat):Value:= .slice (if mx=lo then ad else ad.map (·.add (lo*s))) (hi-lo) (mx-lo)
theorem afi[hT:acJ P t e s by_]{ad:Option Addr}{len cap:Nat}(w:World){lo hi mx:Option Value}{l h m:Nat}(hb: ∀w,(Instr.sliceBounds true len cap lo hi mx).run P w= .ok (l,h,m) w):
  (Instr.sliceAt t (.slice ad len cap) lo hi mx).run P w= .ok (aoA ad len cap l h m s) w:=by
 unfold Instr.sliceAt
 rw[aaa (hT.u w)]
 show(Instr.slice t (.slice ad len cap) lo hi mx).run P w=_
 unfold Instr.slice
 rw[aaa (hT.u w)]
 show(Instr.sliceBounds true len cap lo hi mx>>=_).run P w=_
 rw[aaa (hb w)]
 show(sizeOf e>>=_).run P w=_
 rw[aaa (hT.siz w)]
 rfl
theorem ac6[hT:acJ P t e s by_]{k:IntKind}{ad:Option Addr}{len cap:Nat}{h:Int}(hx:opv fr x=some (.slice ad len cap))(hy:opv fr y=some (.int k h))(h0:0≤h)(h1:h≤cap):
  Yd P C fr own G ⟨dst, .slice t x none (some y) none,ty',pos,af,gd⟩ (.slice ad h.toNat cap):=by
 intro a w hf hh
 simp only[execOp,aad hf hx,aad hf hy,qW,jY]
 have:=afi (P:=P) (t:=t) (ad:=ad) (len:=len) (cap:=cap) w (lo:=none) (hi:=some (.int k h)) (mx:=none) (l:=0) (h:=h.toNat) (m:=cap) (fun w=>by
  simp[Instr.sliceBounds,abU w h0 h1,Result.andThen])
 have e2:aoA ad len cap 0 h.toNat cap s= .slice ad h.toNat cap:=by
  unfold aoA
  cases ad with
  |none=>simp
  |some ad=>simp[Addr.add]
 rw[←e2]
 exact aap this
theorem aeL[hT:acJ P t e s by_]{k:IntKind}{ad:Option Addr}{len cap:Nat}{l:Int}(hx:opv fr x=some (.slice ad len cap))(hy:opv fr y=some (.int k l))(h0:0≤l)(h1:l≤len):
  Yd P C fr own G ⟨dst, .slice t x (some y) none none,ty',pos,af,gd⟩ (aoA ad len cap l.toNat len cap s):=by
 intro a w hf hh
 simp only[execOp,aad hf hx,aad hf hy,qW,jY]
 exact aap (afi (P:=P) (t:=t) (ad:=ad) (len:=len) (cap:=cap) w (lo:=some (.int k l)) (hi:=none) (mx:=none) (fun w=>by
  simp[Instr.sliceBounds,abU w h0 h1,Result.andThen]))
theorem amo[hT:acJ P t e s by_]{k k':IntKind}{ad:Option Addr}{len cap:Nat}{l h:Int}{z:Operand}(hx:opv fr x=some (.slice ad len cap))(hy:opv fr y=some (.int k l))(hz:opv fr z=some (.int k' h))(h0:0≤l)(h1:l≤h)(h2:h≤cap):
  Yd P C fr own G ⟨dst, .slice t x (some y) (some z) none,ty',pos,af,gd⟩ (aoA ad len cap l.toNat h.toNat cap s):=by
 intro a w hf hh
 simp only[execOp,aad hf hx,aad hf hy,aad hf hz,qW,jY]
 exact aap (afi (P:=P) (t:=t) (ad:=ad) (len:=len) (cap:=cap) w (lo:=some (.int k l)) (hi:=some (.int k' h)) (mx:=none) (fun w=>by
  have h1':l≤(h.toNat:Int):=by omega
  simp[Instr.sliceBounds,abU w (Int.le_trans h0 h1) h2,abU w h0 h1',Result.andThen]))
theorem arr[hT:acJ P t e s by_]{k k':IntKind}{ad:Option Addr}{len cap:Nat}{h m:Int}{z:Operand}(hx:opv fr x=some (.slice ad len cap))(hy:opv fr y=some (.int k h))(hz:opv fr z=some (.int k' m))(h0:0≤h)(h1:h≤m)(h2:m≤cap):
  Yd P C fr own G ⟨dst, .slice t x none (some y) (some z),ty',pos,af,gd⟩ (.slice ad h.toNat m.toNat):=by
 intro a w hf hh
 simp only[execOp,aad hf hx,aad hf hy,aad hf hz,qW,jY]
 have:=afi (P:=P) (t:=t) (ad:=ad) (len:=len) (cap:=cap) w (lo:=none) (hi:=some (.int k h)) (mx:=some (.int k' m)) (l:=0) (h:=h.toNat) (m:=m.toNat) (fun w=>by
  have h1':h≤(m.toNat:Int):=by omega
  simp[Instr.sliceBounds,abU w (Int.le_trans h0 h1) h2,abU w h0 h1',Result.andThen])
 have e2:aoA ad len cap 0 h.toNat m.toNat s= .slice ad h.toNat m.toNat:=by
  unfold aoA
  cases ad with
  |none=>simp
  |some ad=>simp[Addr.add]
 rw[←e2]
 exact aap this
class TyI (P:Program) (t:TypeId) (k:outParam IntKind):Prop where u: ∀w,(underlying t).run P w= .ok (.int k) w
theorem alk{k k':IntKind}{p:Int}[hs:TyI P t k][hd:TyI P t' k'](hx:opv fr x=some (.int k p)):Yd P C fr own G ⟨dst, .convert t t' x,ty',pos,af,gd⟩ (.int k' (k'.wrap p)):=by
 intro a w hf hh
 simp only[execOp,aad hf hx]
 have:(convert t t' (.int k p)).run P w= .ok (.int k' (k'.wrap p)) w:=by
  unfold convert
  rw[aaa (hs.u w),aaa (hd.u w)]
  rfl
 exact aap this
theorem al8{k k':IntKind}{p:Int}[hs:TyI P t k][hd:TyI P t' k'](hx:opv fr x=some (.int k p))(h:k'.min≤p∧p≤k'.max):Yd P C fr own G ⟨dst, .convert t t' x,ty',pos,af,gd⟩ (.int k' p):=by
 have:=alk (P:=P) (C:=C) (own:=own) (G:=G) (dst:=dst) (ty':=ty') (pos:=pos) (af:=af) (gd:=gd) (t:=t) (t':=t') hx
 rwa [aeO h] at this
theorem arj{b:Bool}(hx:opv fr x=some (.bool b)):Yd P C fr own G ⟨dst, .unOp .not t x,ty',pos,af,gd⟩ (.bool (!b)):=by
 intro a w hf hh;simp only[execOp,aad hf hx,Op.unary];rfl
theorem as2{k:IntKind}{p:Int}(hx:opv fr x=some (.int k p)):Yd P C fr own G ⟨dst, .unOp .neg t x,ty',pos,af,gd⟩ (.int k (k.wrap (0-p))):=by
 intro a w hf hh;simp only[execOp,aad hf hx,Op.unary,Op.intArith];rfl
end
theorem aco{w:World}{b:Nat}{o:Obj}(h:w.heap[b]? =some o):b<w.heap.size:=by
 rcases iZ b w.heap.size with h'|h'
 ·exact h'
 ·simp[rZ h'] at h
theorem ab5.gnone{C:Ctx}{own:List Own}{G:Gh}{w:World}(h:ab5 C own G w){b:Nat}(hb:w.heap.size≤b):G b=none:=by
 cases hG:G b with
 |none=>rfl
 |some cs=>
  obtain⟨ty,fz,hc⟩:=h.sub b cs hG
  have:=aco hc
  omega
theorem ab5.alloc{C:Ctx}{own:List Own}{G:Gh}{w:World}(h:ab5 C own G w)(cs:List Value)(ty:TypeId):
  ab5 C (⟨w.heap.size,cs,ty,true⟩::own) G (w.alloc (.cells ⟨cs⟩ ty)):=by
 have old: ∀b,b<w.heap.size→(w.alloc (.cells ⟨cs⟩ ty)).heap[b]? =w.heap[b]? :=fun b hb=>RowKit.Below.heap_alloc _ _ _ hb
 refine⟨h.os,h.tape,h.output,?_,?_,?_,h.gle,h.gold,?_,?_,h.dr,fun p hp=>⟨(h.ext p hp).1,by rw[old _ (aco (h.ext p hp).2)];exact(h.ext p hp).2⟩⟩
 ·have:=h.size;simp;omega
 ·intro b hb hm;rw[old b (by have:=h.size;omega)];exact h.keep b hb hm
 ·intro b cs' hb
  obtain⟨ty',fz,hc⟩:=h.sub b cs' hb
  exact⟨ty',fz,by rw[old b (aco hc)];exact hc⟩
 ·intro o ho
  rcases aU.1 ho with rfl|ho
  ·refine⟨by show(w.heap.push _)[w.heap.size]? =_;simp,h.gnone (aM _),fun _=>h.size,fun e=>by cases e⟩
  ·obtain⟨h1,h2⟩:=h.hown o ho
   exact⟨by rw[old _ (aco h1)];exact h1,h2⟩
 ·refine List.Pairwise.cons ?_ h.nd
  intro o ho
  have:=aco (h.hown o ho).1
  show w.heap.size≠o.b
  omega
def abA(w:World)(b:Nat)(o:Obj):World:={w with heap:=w.heap.setIfInBounds b o}
theorem apR{l:List Own}:l.Pairwise (fun x y=>x.b≠y.b)↔(l.map (·.b)).Pairwise (· ≠ ·):=by rw[rX]
theorem agq.spec{own own':List Own}{b:Nat}{cs cs':List Value}{ty:TypeId}{lo:Bool}(h:agq own b cs ty lo cs' own')(nd:own.Pairwise (fun x y=>x.b≠y.b)):
  ⟨b,cs,ty,lo⟩∈own∧(∀o,o∈own'→o=⟨b,cs',ty,lo⟩∨(o∈own∧o.b≠b))∧own'.map (·.b)=own.map (·.b):=by
 induction h with
 |hd b cs cs' ty lo t=>
  refine⟨aZ,fun o ho=>?_,rfl⟩
  rcases aU.1 ho with rfl|h
  ·exact .inl rfl
  ·exact .inr ⟨aJ _ h,Ne.symm ((bR.1 nd).1 _ h)⟩
 |tl o t t' b cs cs' ty lo h ih=>
  obtain⟨h1,h2,h3⟩:=ih (bR.1 nd).2
  refine⟨aJ _ h1,fun x hx=>?_,by simp[h3]⟩
  rcases aU.1 hx with rfl|hx
  ·exact .inr ⟨aZ,(bR.1 nd).1 _ h1⟩
  ·exact(h2 x hx).imp id (fun k=>⟨aJ _ k.1,k.2⟩)
theorem aeb{w:World}{b k:Nat}{o:Obj}(hk:k≠b):(abA w b o).heap[k]? =w.heap[k]? :=by
 simp only[abA];rw[hJ];simp[Ne.symm hk]
theorem aji{w:World}{b:Nat}{o:Obj}(hb:b<w.heap.size):(abA w b o).heap[b]? =some o:=by
 simp only[abA];rw[hJ];simp[hb]
theorem ab5.extNe{C:Ctx}{own:List Own}{G:Gh}{w:World}(h:ab5 C own G w){p:Nat×Obj}(hp:p∈C.ex){b:Nat}{cs:Array Value}{ty:TypeId}{z:Nat×Nat}(hb:w.heap[b]? =some (.cells cs ty z)):p.1≠b:=fun e=>by
 obtain⟨h1,h2⟩:=h.ext p hp
 rw[e,hb] at h2
 exact h1 _ _ _ (Option.some.inj h2).symm
theorem ab5.extM{C:Ctx}{M rest:List Own}{G:Gh}{w:World}(h:ab5 C (M++rest) G w){p:Nat×Obj}(hp:p∈C.ex):p.1∉M.map (·.b):=fun hm=>by
 obtain⟨m,hm,e⟩:=bJ.1 hm
 exact h.extNe hp (h.hown m (bU _ hm)).1 e.symm
theorem ab5.store{C:Ctx}{own own':List Own}{G:Gh}{w:World}{b:Nat}{cs cs':List Value}{ty:TypeId}{lo:Bool}(h:ab5 C own G w)(hu:agq own b cs ty lo cs' own'):
  ab5 C own' G (abA w b (.cells ⟨cs'⟩ ty (0,0))):=by
 obtain⟨h1,h2,h3⟩:=hu.spec h.nd
 obtain⟨hb,hGb,hlo1,hlo2⟩:=h.hown _ h1
 have hlt:=aco hb
 refine⟨h.os,h.tape,h.output,by simpa[abA] using h.size,?_,?_,h.gle,h.gold,?_,apR.2 (h3▸apR.1 h.nd),h.dr,fun p hp=>⟨(h.ext p hp).1,by rw[aeb (h.extNe hp hb)];exact(h.ext p hp).2⟩⟩
 ·intro k hk hm
  by_cases hkb:k=b
  ·subst hkb
   cases hlo:lo with
   |true=>have h5:=hlo1 hlo;simp only[] at h5;omega
   |false=>exact absurd (hlo2 hlo) hm
  ·rw[aeb hkb];exact h.keep k hk hm
 ·intro k cs1 hk
  obtain⟨ty',fz,hc⟩:=h.sub k cs1 hk
  have:k≠b:=fun e=>by subst e;rw[show G k=none from hGb] at hk;cases hk
  exact⟨ty',fz,by rw[aeb this];exact hc⟩
 ·intro o ho
  rcases h2 o ho with rfl|⟨ho',hne⟩
  ·exact⟨aji hlt,hGb,hlo1,hlo2⟩
  ·obtain⟨k1,k2⟩:=h.hown o ho'
   exact⟨by rw[aeb hne];exact k1,k2⟩
theorem alT.spec{own own':List Own}{o:Own}(h:alT own o own')(nd:own.Pairwise (fun x y=>x.b≠y.b)):
  o∈own∧(∀x,x∈own'→x∈own∧x.b≠o.b)∧own'.Pairwise (fun x y=>x.b≠y.b):=by
 induction h with
 |hd o t=>exact⟨aZ,fun x hx=>⟨aJ _ hx,Ne.symm ((bR.1 nd).1 _ hx)⟩,(bR.1 nd).2⟩
 |tl y t t' o h ih=>
  obtain⟨h1,h2,h3⟩:=ih (bR.1 nd).2
  refine⟨aJ _ h1,fun x hx=>?_,List.Pairwise.cons (fun x hx=>(bR.1 nd).1 _ (h2 x hx).1) h3⟩
  rcases aU.1 hx with rfl|hx
  ·exact⟨aZ,(bR.1 nd).1 _ h1⟩
  ·exact⟨aJ _ (h2 x hx).1,(h2 x hx).2⟩
theorem ab5.freeze{C:Ctx}{own own':List Own}{G:Gh}{w:World}{b:Nat}{cs:List Value}{ty:TypeId}(h:ab5 C own G w)(hr:alT own ⟨b,cs,ty,true⟩ own'):
  ab5 C own' (fun k=>if k=b then some cs else G k) w∧GLe G (fun k=>if k=b then some cs else G k):=by
 obtain⟨h1,h2,h3⟩:=hr.spec h.nd
 obtain⟨hb,hGb,hlo,_⟩:=h.hown _ h1
 have hle:GLe G (fun k=>if k=b then some cs else G k):=fun k c hk=>by
  have:k≠b:=fun e=>by subst e;rw[show G k=none from hGb] at hk;cases hk
  simp[this,hk]
 refine⟨⟨h.os,h.tape,h.output,h.size,h.keep,?_,h.gle.trans hle,?_,?_,h3,h.dr,h.ext⟩,hle⟩
 ·intro k c hk
  by_cases e:k=b
  ·subst e;simp only[if_true] at hk;cases hk;exact⟨ty,(0,0),hb⟩
  ·simp only[e,if_false] at hk;exact h.sub k c hk
 ·intro k hk
  have h5:C.w0.heap.size≤b:=hlo rfl
  have:k≠b:=by omega
  simp only[this,if_false]
  exact h.gold k hk
 ·intro o ho
  obtain⟨k1,k2⟩:=h2 o ho
  obtain⟨m1,m2,m3⟩:=h.hown o k1
  exact⟨m1,by rw[if_neg k2];exact m2,m3⟩
theorem ab5.drop{C:Ctx}{own own':List Own}{G:Gh}{w:World}(h:ab5 C own G w)(hs:own'.Sublist own):ab5 C own' G w:=
 ⟨h.os,h.tape,h.output,h.size,h.keep,h.sub,h.gle,h.gold,fun o ho=>h.hown o (hs.subset ho),h.nd.sublist hs,h.dr,h.ext⟩
theorem ab5.perm{C:Ctx}{own own':List Own}{G:Gh}{w:World}(h:ab5 C own G w)(hs:own.Perm own'):ab5 C own' G w:=
 ⟨h.os,h.tape,h.output,h.size,h.keep,h.sub,h.gle,h.gold,fun o ho=>h.hown o (hs.mem_iff.2 ho),(hs.pairwise_iff (fun h=>Ne.symm h)).1 h.nd,h.dr,h.ext⟩
theorem ab5.drew{C:Ctx}{own:List Own}{G:Gh}{w:World}(h:ab5 C own G w):ab5 C own G {w with drawn:=w.drawn+1}:=
 ⟨h.os,h.tape,h.output,h.size,h.keep,h.sub,h.gle,h.gold,h.hown,h.nd,Nat.le_succ_of_le h.dr,h.ext⟩
def acP(P:Program)(f:FuncId):Prop:= ∃fn,P.funcs[f]? =some fn∧(fn.name== "runtime.NumGoroutine")=false∧fn.body.isNone=false
def aff(M:List Own)(css:List (List Value)):List Own:=(M.zip css).map fun p=>{p.1 with cs:=p.2}
def asB(M:List Own):List Own:=M.map fun o=>{o with lo:=false}
structure Fn (P:Program) (f:FuncId) (vs:List Value) (G:Gh) (K:Value→Gh→Prop):Prop where
 able:acP P f
 run: ∀w,(∀b cs,G b=some cs→ ∃ty fz,w.heap[b]? =some (.cells ⟨cs⟩ ty fz))→
  Calls P f ⟨vs⟩ w fun e w'=> ∃v G',e= .returned v∧ab5 ⟨w,G,[],[],[],none,fun _=>none⟩ [] G' w'∧K v G'
structure FnM (P:Program) (f:FuncId) (vs:List Value) (M:List Own) (G:Gh) (K:Value→List (List Value)→Gh→Prop):Prop where
 able:acP P f
 run: ∀w,ab5 ⟨w,G,M.map (·.b),[],[],none,fun _=>none⟩ (asB M) G w→
  Calls P f ⟨vs⟩ w fun e w'=> ∃v css G',e= .returned v∧css.length=M.length∧ab5 ⟨w,G,M.map (·.b),[],[],none,fun _=>none⟩ (aff (asB M) css) G' w'∧K v css G'
theorem Fn.mono{P:Program}{f:FuncId}{vs:List Value}{G:Gh}{K K':Value→Gh→Prop}(h:Fn P f vs G K)(hk: ∀v G',GLe G G'→K v G'→K' v G'):Fn P f vs G K':=
 ⟨h.able,fun w hw=>(h.run w hw).mono fun _ _ ⟨v,G',he,hh,hK⟩=>⟨v,G',he,hh,hk v G' hh.gle hK⟩⟩
theorem ab5.called{C:Ctx}{own:List Own}{G G':Gh}{w w':World}(h:ab5 C own G w)(k:ab5 ⟨w,G,[],[],[],none,fun _=>none⟩ [] G' w'):ab5 C own G' w':=by
 have same: ∀b o,w.heap[b]? =some o→w'.heap[b]? =some o:=fun b o hb=>by rw[k.keep b (aco hb) (by simp)];exact hb
 have hsz:w.heap.size≤w'.heap.size:=k.size
 refine⟨k.os.trans h.os,k.tape.trans h.tape,k.output.trans h.output,cR h.size hsz,?_,k.sub,h.gle.trans k.gle,?_,?_,h.nd,cR h.dr k.dr,fun p hp=>⟨(h.ext p hp).1,same _ _ (h.ext p hp).2⟩⟩
 ·intro b hb hm;have:=h.size;rw[k.keep b (by show b<w.heap.size;omega) (by simp)];exact h.keep b hb hm
 ·intro b hb;have:=h.size;rw[k.gold b (by show b<w.heap.size;omega)];exact h.gold b hb
 ·intro o ho
  obtain⟨h1,h2,h3⟩:=h.hown o ho
  exact⟨same _ _ h1,by rw[k.gold _ (aco h1)];exact h2,h3⟩
theorem aBQ(M:List Own)(css:List (List Value))(h:css.length=M.length):(aff M css).map (·.b)=M.map (·.b):=by
 induction M generalizing css with
 |nil=>simp[aff]
 |cons o M ih=>
  cases css with
  |nil=>simp at h
  |cons c css=>simp only[bY,Nat.add_right_cancel_iff] at h;simpa[aff] using ih css h
theorem asc{M:List Own}{css:List (List Value)}{o:Own}(ho:o∈aff M css): ∃c∈css,∃m∈M,o={m with cs:=c}∧{m with cs:=c,lo:=false}∈aff (asB M) css:=by
 induction M generalizing css with
 |nil=>simp[aff] at ho
 |cons x M ih=>
  cases css with
  |nil=>simp[aff] at ho
  |cons c css=>
   simp only[aff,List.zip_cons_cons,cK,aU] at ho
   rcases ho with rfl|ho
   ·exact⟨c,aZ,x,aZ,rfl,by simp[aff,asB]⟩
   ·obtain⟨c',hc',m,hm,e,hh⟩:=ih ho
    refine⟨c',aJ _ hc',m,aJ _ hm,e,?_⟩
    simp only[aff,asB,cK,List.zip_cons_cons,aU]
    exact .inr hh
theorem ab5.lend{C:Ctx}{M rest:List Own}{G:Gh}{w:World}(h:ab5 C (M++rest) G w):ab5 ⟨w,G,M.map (·.b),[],[],none,fun _=>none⟩ (asB M) G w:=by
 refine⟨rfl,rfl,rfl,aM _,fun _ _ _=>rfl,h.sub,GLe.refl _,fun _ _=>rfl,?_,?_,aM _,fun p hp=>by cases hp⟩
 ·intro o ho
  obtain⟨m,hm,rfl⟩:=bJ.1 ho
  obtain⟨h1,h2,_⟩:=h.hown m (bU _ hm)
  exact⟨h1,h2,by simp,fun _=>bJ.2 ⟨m,hm,rfl⟩⟩
 ·have:=(fL.1 h.nd).1
  unfold asB
  rw[rX]
  exact this
theorem ab5.calledM{C:Ctx}{M rest:List Own}{G G':Gh}{w w':World}{css:List (List Value)}(h:ab5 C (M++rest) G w)(hl:css.length=M.length)(k:ab5 ⟨w,G,M.map (·.b),[],[],none,fun _=>none⟩ (aff (asB M) css) G' w'):
  ab5 C (aff M css++rest) G' w':=by
 have hsz:w.heap.size≤w'.heap.size:=k.size
 have hnd:=h.nd
 have inM: ∀b,b∈M.map (·.b)→ ∀o∈rest,o.b≠b:=fun b hb o ho e=>by
  obtain⟨m,hm,rfl⟩:=bJ.1 hb
  exact(fL.1 hnd).2.2 m hm o ho e.symm
 refine⟨k.os.trans h.os,k.tape.trans h.tape,k.output.trans h.output,cR h.size hsz,?_,k.sub,h.gle.trans k.gle,?_,?_,?_,cR h.dr k.dr,fun p hp=>⟨(h.ext p hp).1,by rw[k.keep _ (aco (h.ext p hp).2) (h.extM hp)];exact(h.ext p hp).2⟩⟩
 ·intro b hb hm
  have hs:=h.size
  have hnM:b∉M.map (·.b):=fun hb'=>by
   obtain⟨m,hmM,rfl⟩:=bJ.1 hb'
   obtain⟨_,_,h3,h4⟩:=h.hown m (bU _ hmM)
   cases hlo:m.lo with
   |true=>have:=h3 hlo;omega
   |false=>exact hm (h4 hlo)
  rw[k.keep b (by show b<w.heap.size;omega) hnM];exact h.keep b hb hm
 ·intro b hb;have:=h.size;rw[k.gold b (by show b<w.heap.size;omega)];exact h.gold b hb
 ·intro o ho
  rcases bZ.1 ho with ho|ho
  ·obtain⟨c,hc,m,hm,rfl,hmem⟩:=asc ho
   obtain⟨k1,k2,_⟩:=k.hown _ hmem
   obtain⟨_,_,h3⟩:=h.hown m (bU _ hm)
   exact⟨k1,k2,h3⟩
  ·obtain⟨h1,h2,h3⟩:=h.hown o (bM _ ho)
   have hnM:o.b∉M.map (·.b):=fun hb=>inM _ hb o ho rfl
   exact⟨by rw[k.keep _ (aco h1) hnM];exact h1,by rw[k.gold _ (aco h1)];exact h2,h3⟩
 ·rw[apR,bV,aBQ _ _ hl,←bV,←apR];exact hnd
abbrev ii:= @inferInstance.{0}
theorem nb{a b:Nat}(h:Nat.ble a b=true):a≤b:=Nat.le_of_ble_eq_true h
theorem sR{P:Program}{C:Ctx}{n:Nat}{fr:Fr}{own:List Own}{G:Gh}{Q:Exit→Act→World→Prop}{id:Nat}{ops:Array Oper}{y:Code}(h:St C n fr own G (wpL P ops (Exit.then (y.wp P Q) Q) ops.toList)):St C n fr own G ((Code.seq (Code.region id ops false) y).wp P Q):=aan (aao h)
end Go.Sx
end
section
namespace Go.Sx
open Go
def aag:Value→List Value
 | .agg ⟨l⟩=>l
 |v=>[v]
theorem ada(v:Value):v.cells=⟨aag v⟩:=by
 cases v<;>first|rfl|(rename_i a;cases a;rfl)
def flat:Value→Bool
 | .agg _=>false
 | .tuple _=>false
 |_=>true
def agr(fr:Fr):List Operand→Option (List Value)
 |[]=>some []
 |x::t=>match opv fr x,agr fr t with
  |some v,some l=>some (v::l)
  |_,_=>none
theorem aiK{fr:Fr}{a:Act}(h:aoO fr a): ∀{l:List Operand} {vs:List Value},agr fr l=some vs→l.map a.eval=vs
 |[],vs,e=>by simp[agr] at e;subst e;rfl
 |x::t,vs,e=>by
  simp only[agr] at e
  split at e
  ·rename_i v l hv hl
   cases e
   simp[aad h hv,aiK h hl]
  ·cases e
section
variable {P:Program} {C:Ctx} {n:Nat} {fr:Fr} {own own':List Own} {G:Gh} {ops:Array Oper} {Q:Exit→Act→World→Prop} {r:List Oper}
variable {dst:Option Nat} {t t' ty':TypeId} {pos:String} {af:Array Edge} {x y:Operand}
def Ch(P:Program)(C:Ctx)(n:Nat)(fr:Fr)(own:List Own)(G:Gh)(o:Oper)(Φ:Act→World→Prop):Prop:=
 ∀(a:Act) (w:World) (Q:Exit→Act→World→Prop),Rel C n fr own G a w→o.wp P a w Φ Q
theorem aGp{o:Oper}(hg:o.guard=none)(hc:Ch P C n fr own G o (wpL P ops Q r)):St C n fr own G (wpL P ops Q (o::r)):=by
 intro a w rl
 simp only[wpL,Region.wanted,hg,if_true]
 exact hc a w _ rl
variable {Φ:Act→World→Prop} {gd:Option (Nat×Bool)}
theorem ak2{w:World}{ty:TypeId}{v:Value}:(newVar ty v).run P w= .ok ⟨w.heap.size,0,none⟩ (w.alloc (.cells ⟨aag v⟩ ty)):=by
 unfold newVar newRow
 rw[ada]
 rfl
theorem abl{o:Oper}{v:Value}{w':World}{a:Act}{w:World}{Φ:Act→World→Prop}{Q:Exit→Act→World→Prop}(h:(execOp a.eval o).run P w= .ok (.value v) w')(hk:Φ (a.put o.dst v) w'):o.wp P a w Φ Q:=by
 simp only[Oper.wp,h,Oper.upon];exact hk
theorem agt{z:Value}[hz:TyZ P t z](hd:aaO n dst=true)(h: ∀b,St C n (put fr dst (.pointer (some ⟨b,0,none⟩))) (⟨b,aag z,t,true⟩::own) G Φ):
  Ch P C n fr own G ⟨dst, .alloc t,ty',pos,af,gd⟩ Φ:=by
 intro a w Q rl
 have h1:(Instr.alloc t true (.tuple #[])).run P w= .ok (.pointer (some ⟨w.heap.size,0,none⟩)) (w.alloc (.cells ⟨aag z⟩ t)):=by
  unfold Instr.alloc
  rw[aaa (hz.zero w)]
  show(newVar t z>>=_).run P w=_
  rw[aaa ak2];rfl
 refine abl (aap h1) (h w.heap.size _ _ ?_)
 exact(rl.heap (rl.h.alloc _ _)).put _ hd
theorem auy{v:Value}(hx:opv fr x=some v)(hd:aaO n dst=true)(h: ∀b,St C n (put fr dst (.pointer (some ⟨b,0,none⟩))) (⟨b,aag v,t,true⟩::own) G Φ):
  Ch P C n fr own G ⟨dst, .box t x,ty',pos,af,gd⟩ Φ:=by
 intro a w Q rl
 have h1:(Instr.box t (a.eval x)).run P w= .ok (.pointer (some ⟨w.heap.size,0,none⟩)) (w.alloc (.cells ⟨aag v⟩ t)):=by
  unfold Instr.box
  rw[aad rl.fr hx,aaa ak2];rfl
 refine abl (aap h1) (h w.heap.size _ _ ?_)
 exact(rl.heap (rl.h.alloc _ _)).put _ hd
theorem akd{w:World}{b off:Nat}{cs:List Value}{ty:TypeId}{fz:Nat×Nat}{v:Value}(h:w.heap[b]? =some (.cells ⟨cs⟩ ty fz)):w.setCell ⟨b,off,none⟩ v=abA w b (.cells ⟨cs.set off v⟩ ty fz):=by
 unfold World.setCell abA
 congr 1
 apply Array.ext_getElem?
 intro i
 rw[Array.getElem?_modify,hJ]
 by_cases hi:b=i
 ·subst hi
  have:=aco h
  simp only[if_true,h,jY,this]
  simp
 ·simp[hi]
theorem aur{w:World}{b off:Nat}{cs:List Value}{ty:TypeId}{v:Value}(hv:flat v=true)(h:w.heap[b]? =some (.cells ⟨cs⟩ ty (0,0)))(ho:off<cs.length):
  (store ⟨b,off,none⟩ v).run P w= .ok () (abA w b (.cells ⟨cs.set off v⟩ ty (0,0))):=by
 have hc:w.cell? ⟨b,off,none⟩=some cs[off]:=by rw[acT h,aQ ho]
 have hf:w.frozen? ⟨b,off,none⟩=false:=by simp[World.frozen?,h]
 cases v<;>first|(simp[flat] at hv;done)|(simp only[store,Sem.run,hc,hf,akd h];rfl)
theorem al2(w:World)(b:Nat)(o o':Obj):abA (abA w b o) b o'=abA w b o':=by
 simp[abA]
theorem ao4{w:World}{b:Nat}{o:Obj}(h:w.heap[b]? =some o):abA w b o=w:=by
 unfold abA
 congr 1
 apply Array.ext_getElem?
 intro i
 rw[hJ]
 by_cases hi:b=i
 ·subst hi
  have hlt:=aco h
  simp only[if_true,hlt]
  rw[h]
 ·simp[hi]
theorem abV{b:Nat}{ty:TypeId}: ∀(vs:List Value) (w:World) (off i:Nat) (cs:List Value),(∀v∈vs,flat v=true)→w.heap[b]? =some (.cells ⟨cs⟩ ty (0,0))→off+i+vs.length≤cs.length→
  (storeCells ⟨b,off,none⟩ vs i).run P w= .ok () (abA w b (.cells ⟨ovw cs (off+i) vs⟩ ty (0,0)))
 |[],w,off,i,cs,_,h,_=>by
  unfold storeCells ovw
  rw[ao4 h];rfl
 |v::vs,w,off,i,cs,hf,h,hl=>by
  unfold storeCells
  simp only[bY] at hl
  rw[acx,aaa (aur (hf v aZ) h (by omega))]
  rw[abV vs _ off (i+1) (cs.set (off+i) v) (fun u hu=>hf u (aJ _ hu)) (aji (aco h)) (by simp;omega)]
  rw[al2]
  rfl
theorem alJ{v:Value}{b off k:Nat}{cs:List Value}{ty:TypeId}{lo:Bool}(hx:opv fr x=some (.pointer (some ⟨b,off,none⟩)))(hy:opv fr y=some v)[hs:TyA P t k]
  (hu:agq own b cs ty lo (ovw cs off (aag v)) own')(hk:(aag v).length=k)(hl:off+k≤cs.length)(hf:(aag v).all flat=true)(hd:aaO n dst=true)(h:St C n (put fr dst undef) own' G Φ):
  Ch P C n fr own G ⟨dst, .store t x y,ty',pos,af,gd⟩ Φ:=by
 intro a w Q rl
 have hb:=(rl.h.hown _ (hu.spec rl.h.nd).1).1
 have h1:(Instr.storeAt t (a.eval x) (a.eval y)).run P w= .ok () (abA w b (.cells ⟨ovw cs off (aag v)⟩ ty (0,0))):=by
  rw[aad rl.fr hx,aad rl.fr hy]
  simp only[Instr.storeAt,Instr.sureAddr]
  show(storeVar t ⟨b,off,none⟩ v).run P w=_
  unfold storeVar
  rw[aaa (hs.siz w),ada]
  simp only[nW,hk,ne_eq,not_true_eq_false,if_false]
  have:=abV (P:=P) (aag v) w off 0 cs (by simpa using hf) hb (by omega)
  simpa using this
 have h2:(execOp a.eval ⟨dst, .store t x y,ty',pos,af,gd⟩).run P w= .ok .skip (abA w b (.cells ⟨ovw cs off (aag v)⟩ ty (0,0))):=by
  simp only[execOp]
  rw[aaa h1];rfl
 simp only[Oper.wp,h2,Oper.upon]
 exact h _ _ ((rl.heap (rl.h.store hu)).put _ hd)
theorem adM{v:Value}{b off:Nat}{cs:List Value}{ty:TypeId}{lo:Bool}(hx:opv fr x=some (.pointer (some ⟨b,off,none⟩)))(hy:opv fr y=some v)[hs:TyS P t]
  (hu:agq own b cs ty lo (cs.set off v) own')(hl:off<cs.length)(hf:flat v=true)(hd:aaO n dst=true)(h:St C n (put fr dst undef) own' G Φ):
  Ch P C n fr own G ⟨dst, .store t x y,ty',pos,af,gd⟩ Φ:=by
 intro a w Q rl
 have hb:=(rl.h.hown _ (hu.spec rl.h.nd).1).1
 have hc:v.cells= #[v]:=by cases v<;>first|rfl|(simp[flat] at hf)
 have h1:(Instr.storeAt t (a.eval x) (a.eval y)).run P w= .ok () (abA w b (.cells ⟨cs.set off v⟩ ty (0,0))):=by
  rw[aad rl.fr hx,aad rl.fr hy]
  simp only[Instr.storeAt,Instr.sureAddr]
  show(storeVar t ⟨b,off,none⟩ v).run P w=_
  unfold storeVar
  rw[aaa (hs.siz w),hc]
  simp only[nW,bY,fU,ne_eq,not_true_eq_false,if_false,fQ]
  have:=abV (P:=P) [v] w off 0 cs (by simpa using hf) hb (by simp;omega)
  simpa[ovw] using this
 have h2:(execOp a.eval ⟨dst, .store t x y,ty',pos,af,gd⟩).run P w= .ok .skip (abA w b (.cells ⟨cs.set off v⟩ ty (0,0))):=by
  simp only[execOp]
  rw[aaa h1];rfl
 simp only[Oper.wp,h2,Oper.upon]
 exact h _ _ ((rl.heap (rl.h.store hu)).put _ hd)
theorem ahX{f:FuncId}(h:acP P f)(args:Array Value)(w:World):(callFunc f args).run P w= .ok (.enter f args) w:=by
 obtain⟨fn,h1,h2,h3⟩:=h
 unfold callFunc
 show(program>>=_).run P w=_
 rw[aaa (a:=P) (w':=w) rfl]
 simp only[h1,h2,h3]
 rfl
theorem aiE{f:FuncId}{fo:Operand}{args:Array Operand}{tys:Array TypeId}{vs c1 c2:List Value}{a:Act}{w:World}(h:acP P f)(hf:aoO fr a)(ho:opv fr fo=some (.func (.func f) ⟨c1⟩ ⟨c2⟩))(hv:agr fr args.toList=some vs):
  (execOp a.eval ⟨dst, .call ⟨.value fo,args,tys⟩,ty',pos,af,gd⟩).run P w= .ok (.enter f ⟨c1++vs++c2⟩) w:=by
 have e:args.map a.eval=⟨vs⟩:=by apply Array.ext';simpa using aiK hf hv
 simp only[execOp,resolve,aad hf ho,e,Deferred.ofValue]
 show(invoke (.fn (.func f) ⟨c2⟩) (⟨c1⟩++⟨vs⟩)).run P w=_
 simp only[invoke]
 rw[ahX h]
 simp
theorem awi{f:FuncId}{fo:Operand}{args:Array Operand}{tys:Array TypeId}{vs c1 c2:List Value}{K:Value→Gh→Prop}(ho:opv fr fo=some (.func (.func f) ⟨c1⟩ ⟨c2⟩))(hv:agr fr args.toList=some vs)
  (hF:Fn P f (c1++vs++c2) G K)(hd:aaO n dst=true)(h: ∀v (G':Gh),[GE G G']→K v G'→St C n (put fr dst v) own G' Φ):
  Ch P C n fr own G ⟨dst, .call ⟨.value fo,args,tys⟩,ty',pos,af,gd⟩ Φ:=by
 intro a w Q rl
 have h2:=aiE (P:=P) (dst:=dst) (ty':=ty') (pos:=pos) (af:=af) (gd:=gd) (tys:=tys) (w:=w) hF.able rl.fr ho hv
 simp only[Oper.wp,h2,Oper.upon]
 refine(hF.run w rl.h.sub).mono ?_
 rintro e w' ⟨v,G',rfl,hh,hK⟩
 exact @h v G' ⟨hh.gle⟩ hK _ _ ((rl.heap (rl.h.called hh)).put _ hd)
theorem zC{f:FuncId}{fo:Operand}{args:Array Operand}{tys:Array TypeId}{vs:List Value}{K:Value→Gh→Prop}(ho:opv fr fo=some (.func (.func f) #[] #[]))(hv:agr fr args.toList=some vs)
  (hF:Fn P f vs G K)(hd:aaO n dst=true)(h: ∀v (G':Gh),[GE G G']→K v G'→St C n (put fr dst v) own G' Φ):
  Ch P C n fr own G ⟨dst, .call ⟨.value fo,args,tys⟩,ty',pos,af,gd⟩ Φ:=
 awi (c1:=[]) (c2:=[]) ho hv (by simpa using hF) hd h
theorem auv{f:FuncId}{fo:Operand}{args:Array Operand}{tys:Array TypeId}{vs c1 c2:List Value}{M rest:List Own}{K:Value→List (List Value)→Gh→Prop}(ho:opv fr fo=some (.func (.func f) ⟨c1⟩ ⟨c2⟩))(hv:agr fr args.toList=some vs)
  (hp:own.Perm (M++rest))(hF:FnM P f (c1++vs++c2) M G K)(hd:aaO n dst=true)(h: ∀v css (G':Gh),[GE G G']→css.length=M.length→K v css G'→St C n (put fr dst v) (aff M css++rest) G' Φ):
  Ch P C n fr own G ⟨dst, .call ⟨.value fo,args,tys⟩,ty',pos,af,gd⟩ Φ:=by
 intro a w Q rl
 have h2:=aiE (P:=P) (dst:=dst) (ty':=ty') (pos:=pos) (af:=af) (gd:=gd) (tys:=tys) (w:=w) hF.able rl.fr ho hv
 simp only[Oper.wp,h2,Oper.upon]
 have hh0:=rl.h.perm hp
 refine(hF.run w hh0.lend).mono ?_
 rintro e w' ⟨v,css,G',rfl,hl,hh,hK⟩
 exact @h v css G' ⟨hh.gle⟩ hl hK _ _ ((rl.heap (hh0.calledM hl hh)).put _ hd)
theorem aiH{f:FuncId}{fo:Operand}{args:Array Operand}{tys:Array TypeId}{vs:List Value}{M rest:List Own}{K:Value→List (List Value)→Gh→Prop}(ho:opv fr fo=some (.func (.func f) #[] #[]))(hv:agr fr args.toList=some vs)
  (hp:own.Perm (M++rest))(hF:FnM P f vs M G K)(hd:aaO n dst=true)(h: ∀v css (G':Gh),[GE G G']→css.length=M.length→K v css G'→St C n (put fr dst v) (aff M css++rest) G' Φ):
  Ch P C n fr own G ⟨dst, .call ⟨.value fo,args,tys⟩,ty',pos,af,gd⟩ Φ:=
 auv (c1:=[]) (c2:=[]) ho hv hp (by simpa using hF) hd h
end
section
variable {P:Program} {C:Ctx} {n:Nat} {fr:Fr} {own own':List Own} {G:Gh}
inductive RVs (P:Program) (fr:Fr) (own:List Own):List ResultVar→List Value→Prop
 |nil:RVs P fr own [] []
 |tmp {t:Nat} {v:Value} {rs:List ResultVar} {vs:List Value} (h:aig fr t=some v) (k:RVs P fr own rs vs):RVs P fr own (.tmp t::rs) (v::vs)
 |agg {a b k:Nat} {t ty:TypeId} {cs l:List Value} {lo:Bool} {rs:List ResultVar} {vs:List Value} (h:aig fr a=some (.pointer (some ⟨b,0,none⟩))) (ho:OAt own b cs ty lo) (ht:TyA P t k) (hl:aa1 cs 0 k=some l) (h2:RVs P fr own rs vs):
   RVs P fr own (.cell a t::rs) (.agg ⟨l⟩::vs)
 |sc {a b:Nat} {t ty:TypeId} {cs:List Value} {v:Value} {lo:Bool} {rs:List ResultVar} {vs:List Value} (h:aig fr a=some (.pointer (some ⟨b,0,none⟩))) (ho:OAt own b cs ty lo) (ht:TyS P t) (hl:cs[0]? =some v) (h2:RVs P fr own rs vs):
   RVs P fr own (.cell a t::rs) (v::vs)
def rv1(a:Act):ResultVar→Sem Value
 | .tmp t=>pure (a.tmps.getD t undef)
 | .cell x t=>do loadVar t (←asAddr (a.tmps.getD x undef))
theorem RVs.run{rs:List ResultVar}{vs:List Value}(h:RVs P fr own rs vs){a:Act}{w:World}(hf:aoO fr a)(hh:ab5 C own G w):
  (rs.mapM (rv1 a)).run P w= .ok vs w:=by
 induction h with
 |nil=>rfl
 | @tmp t v rs vs h k ih=>
  rw[sU]
  have e:=hf _ _ h
  have e2:a.tmps.getD t undef=v:=by rw[gS,e];rfl
  rw[aaa (a:=v) (w':=w) (by simp only[rv1,e2];exact run_pure _ _ _),aaa ih]
  rfl
 | @agg x b k t ty cs l lo rs vs h ho ht hl h2 ih=>
  rw[sU]
  have e:=hf _ _ h
  have e2:a.tmps.getD x undef= .pointer (some ⟨b,0,none⟩):=by rw[gS,e];rfl
  rw[aaa (a:= .agg ⟨l⟩) (w':=w) (by simp only[rv1,e2,asAddr];rw[aaa (run_pure _ _ _)];exact adT (hh.hown _ ho.mem).1 hl),aaa ih]
  rfl
 | @sc x b t ty cs v lo rs vs h ho ht hl h2 ih=>
  rw[sU]
  have e:=hf _ _ h
  have e2:a.tmps.getD x undef= .pointer (some ⟨b,0,none⟩):=by rw[gS,e];rfl
  rw[aaa (a:=v) (w':=w) (by simp only[rv1,e2,asAddr];rw[aaa (run_pure _ _ _)];exact aek (hh.hown _ ho.mem).1 hl),aaa ih]
  rfl
def ab0:List Value→Value
 |[v]=>v
 |vs=> .tuple ⟨vs⟩
theorem adI{fn:Func}{vs:List Value}{a:Act}{w:World}(hr:RVs P fr own fn.results.toList vs)(hf:aoO fr a)(hh:ab5 C own G w):(results fn a.tmps).run P w= .ok (ab0 vs) w:=by
 have h0:=RVs.run (C:=C) (G:=G) hr hf hh
 have h1:(fn.results.mapM (rv1 a)).run P w= .ok (⟨vs⟩:Array Value) w:=by
  rw[←Array.toArray_toList (xs:=fn.results),List.mapM_toArray,map_eq_pure_bind,aaa h0]
  rfl
 have h2:results fn a.tmps=(do
   let vs←fn.results.mapM (rv1 a)
   pure (if h:vs.size=1 then vs[0] else .tuple vs)):=by
  unfold results
  congr 1
 rw[h2,aaa h1]
 match vs with
 |[]=>rfl
 |[v]=>rfl
 |_::_::_=>rfl
def amf(C:Ctx)(K:Value→Gh→Prop):Ending→World→Prop:=fun e w'=> ∃v G',e= .returned v∧ab5 C [] G' w'∧K v G'
def akt(C:Ctx)(M:List Own)(K:Value→List (List Value)→Gh→Prop):Ending→World→Prop:=fun e w'=> ∃v css G',e= .returned v∧css.length=M.length∧ab5 C (aff (asB M) css) G' w'∧K v css G'
def adi(C:Ctx)(P:Program)(fn:Func)(R:Ending→World→Prop):Exit→Act→World→Prop:=fun e a w=>C.mks=[]→bodyPost P fn R e a w
theorem zD{fn:Func}{K:Value→Gh→Prop}{vs:List Value}(hr:RVs P fr own fn.results.toList vs)(hk:K (ab0 vs) G):St C n fr own G (adi C P fn (amf C K) .ret):=
 fun a w rl hmk=>⟨rl.df.trans hmk,_,adI hr rl.fr rl.h,_,G,rfl,rl.h.drop (mV _),hk⟩
theorem aqQ{fn:Func}{K:Value→Gh→Prop}{vs:List Value}(hr:RVs P fr own fn.results.toList vs)(hk:K (ab0 vs) G):St C n fr own G (adi C P fn (amf C K) .normal):=
 fun a w rl hmk=>⟨rl.df.trans hmk,_,adI hr rl.fr rl.h,_,G,rfl,rl.h.drop (mV _),hk⟩
theorem adf{fn:Func}{M:List Own}{css:List (List Value)}{K:Value→List (List Value)→Gh→Prop}{vs:List Value}(hr:RVs P fr own fn.results.toList vs)(hl:css.length=M.length)(own2:List Own)(hp:own.Perm own2)(hs:(aff (asB M) css).Sublist own2)(hk:K (ab0 vs) css G):St C n fr own G (adi C P fn (akt C M K) .ret):=
 fun a w rl hmk=>⟨rl.df.trans hmk,_,adI hr rl.fr rl.h,_,css,G,rfl,hl,(rl.h.perm hp).drop hs,hk⟩
def aht:Nat→List Value→Fr
 |_,[]=>[]
 |i,v::t=>(i,v)::aht (i+1) t
theorem aeI: ∀(vs:List Value) (i k:Nat) (v:Value),aig (aht i vs) k=some v→ ∃j,k=i+j∧vs[j]? =some v
 |[],i,k,v,h=>by cases h
 |u::vs,i,k,v,h=>by
  rw[aht,adk] at h
  split at h
  ·subst_vars;cases h;exact⟨0,rfl,rfl⟩
  ·obtain⟨j,rfl,hj⟩:=aeI vs (i+1) k v h
   exact⟨j+1,by omega,by simpa using hj⟩
theorem Fn.introR{f:FuncId}{fn:Func}{c:Code}{vs:List Value}{m:Nat}{K:Value→Gh→Prop}(hf:P.funcs[f]? =some fn)(hb:fn.body=some c)(hn:(fn.name== "runtime.NumGoroutine")=false)(hm:fn.ntmps=m)(hlen:Nat.ble vs.length m=true)
  (h: ∀C:Ctx,C.G0=G→C.mb=[]→C.rd=none→(C.fx=fun _=>none)→St C m (aht 0 vs) [] G (c.wp P (adi C P fn (amf C K)))):Fn P f vs G K:=by
 refine⟨⟨fn,hf,hn,by simp[hb]⟩,fun w hw=>?_⟩
 have hlen':vs.length≤m:=by simpa using hlen
 have:=calls_of_wp (P:=P) (f:=f) (args:=⟨vs⟩) (w:=w) (R:=amf ⟨w,G,[],[],[],none,fun _=>none⟩ K) hf hb (wp_mono (h ⟨w,G,[],[],[],none,fun _=>none⟩ J J J J _ w
  ⟨⟨rfl,rfl,rfl,aM _,fun _ _ _=>rfl,hw,GLe.refl _,fun _ _=>rfl,fun o ho=>(by cases ho), .nil,aM _,fun p hp=>by cases hp⟩,by simp;omega,fun k v hk=>by
   obtain⟨j,rfl,hj⟩:=aeI vs 0 k v hk
   have hj':=(aL.1 hj).1
   rw[mM (by simpa using hj')]
   simpa using hj,rfl⟩) fun _ _ _ k=>k rfl)
 exact this
theorem Fn.intro{f:FuncId}{fn:Func}{c:Code}{vs:List Value}{m:Nat}{K:Value→Gh→Prop}(hf:P.funcs[f]? =some fn)(hb:fn.body=some c)(hn:(fn.name== "runtime.NumGoroutine")=false)(hm:fn.ntmps=m)(hlen:Nat.ble vs.length m=true)
  (h: ∀C:Ctx,C.G0=G→C.mb=[]→St C m (aht 0 vs) [] G (c.wp P (adi C P fn (amf C K)))):Fn P f vs G K:=
 Fn.introR hf hb hn hm hlen fun C a b _ _=>h C a b
theorem FnM.introR{f:FuncId}{fn:Func}{c:Code}{vs:List Value}{m:Nat}{M:List Own}{K:Value→List (List Value)→Gh→Prop}(hf:P.funcs[f]? =some fn)(hb:fn.body=some c)(hn:(fn.name== "runtime.NumGoroutine")=false)(hm:fn.ntmps=m)(hlen:Nat.ble vs.length m=true)
  (h: ∀C:Ctx,C.G0=G→C.mb=M.map (·.b)→C.rd=none→(C.fx=fun _=>none)→St C m (aht 0 vs) (asB M) G (c.wp P (adi C P fn (akt C M K)))):FnM P f vs M G K:=by
 refine⟨⟨fn,hf,hn,by simp[hb]⟩,fun w hw=>?_⟩
 have hlen':vs.length≤m:=by simpa using hlen
 have:=calls_of_wp (P:=P) (f:=f) (args:=⟨vs⟩) (w:=w) (R:=akt ⟨w,G,M.map (·.b),[],[],none,fun _=>none⟩ M K) hf hb (wp_mono (h ⟨w,G,M.map (·.b),[],[],none,fun _=>none⟩ J J J J _ w
  ⟨hw,by simp;omega,fun k v hk=>by
   obtain⟨j,rfl,hj⟩:=aeI vs 0 k v hk
   have hj':=(aL.1 hj).1
   rw[mM (by simpa using hj')]
   simpa using hj,rfl⟩) fun _ _ _ k=>k rfl)
 exact this
theorem FnM.intro{f:FuncId}{fn:Func}{c:Code}{vs:List Value}{m:Nat}{M:List Own}{K:Value→List (List Value)→Gh→Prop}(hf:P.funcs[f]? =some fn)(hb:fn.body=some c)(hn:(fn.name== "runtime.NumGoroutine")=false)(hm:fn.ntmps=m)(hlen:Nat.ble vs.length m=true)
  (h: ∀C:Ctx,C.G0=G→C.mb=M.map (·.b)→St C m (aht 0 vs) (asB M) G (c.wp P (adi C P fn (akt C M K)))):FnM P f vs M G K:=
 FnM.introR hf hb hn hm hlen fun C a b _ _=>h C a b
theorem acr{Φ:Act→World→Prop}(b:Nat){cs:List Value}{ty:TypeId}(hr:alT own ⟨b,cs,ty,true⟩ own')(h: ∀G':Gh,[GE G G']→[aET G' b cs]→St C n fr own' G' Φ):St C n fr own G Φ:=
 fun a w rl=>by
  obtain⟨h1,h2⟩:=rl.h.freeze hr
  exact @h _ ⟨h2⟩ ⟨by simp⟩ a w (rl.heap h1)
theorem aAI{Φ:Act→World→Prop}(own':List Own)(hs:own'.Sublist own)(h:St C n fr own' G Φ):St C n fr own G Φ:=
 fun a w rl=>h a w (rl.heap (rl.h.drop hs))
def aDA(C:Ctx)(n:Nat){X:Type}(F:X→Fr)(O:X→List Own)(I:X→Gh→Prop)(μ:X→Nat)(m:Nat)(G:Gh)(a:Act)(w:World):Prop:=
 ∃x G',GLe G G'∧I x G'∧μ x<m∧Rel C n (F x) (O x) G' a w
theorem acm{Q:Exit→Act→World→Prop}{c:Code}{X:Type}(F:X→Fr)(O:X→List Own)(I:X→Gh→Prop)(μ:X→Nat)(x0:X)(hI:I x0 G)(hF:azK (F x0) fr)(hO:O x0=own)
  (round: ∀(x:X) (G':Gh),[GE G G']→I x G'→St C n (F x) (O x) G' (c.wp P (Exit.then (aDA C n F O I μ (μ x) G') Q))):St C n fr own G ((Code.loop c).wp P Q):=by
 intro a w rl
 subst hO
 intro b k cs
 have key: ∀m a w,(∃x G',GLe G G'∧I x G'∧μ x=m∧Rel C n (F x) (O x) G' a w)→
   ∃e a' w',Q e a' w'∧Arrives P (lone (b.at a (.code c:: .inLoop c::k)) cs w) b k cs e a' w':=by
  intro m
  induction m using Nat.strongRecOn with
  |_ m ih=>
   intro a w ⟨x,G',hle,hx,hm,hr⟩
   obtain⟨e,a₁,w₁,hq,harr⟩:= @round x G' ⟨hle⟩ hx a w hr b (.inLoop c::k) cs
   cases e with
   |normal=>
    obtain⟨x',G'',hle',hx',hlt,hr'⟩:=hq
    obtain⟨e₂,a₂,w₂,hq₂,harr₂⟩:=ih (μ x') (hm▸hlt) a₁ w₁ ⟨x',G'',hle.trans hle',hx',rfl,hr'⟩
    exact⟨e₂,a₂,w₂,hq₂, .of_steps (Steps.trans harr (.one step_inLoop)) harr₂⟩
   |exit id=>exact⟨_,a₁,w₁,hq, .pass (x:= .inLoop c) rfl (fun _ _=> .inl (by simp)) harr⟩
   |goto l=>exact⟨_,a₁,w₁,hq, .pass (x:= .inLoop c) rfl (fun _ _=> .inl (by simp)) harr⟩
   |ret=>exact⟨_,a₁,w₁,hq, .pass (x:= .inLoop c) rfl (fun _ _=> .inl (by simp)) harr⟩
   |panic ch=>exact⟨_,a₁,w₁,hq, .pass (x:= .inLoop c) rfl (fun _ _=> .inl (by simp)) harr⟩
   |outgrown=>exact⟨_,a₁,w₁,hq, .pass (x:= .inLoop c) rfl (fun _ _=> .inl (by simp)) harr⟩
 obtain⟨e,a',w',q,r⟩:=key (μ x0) a w ⟨x0,G,GLe.refl _,hI,rfl,rl.h,rl.sz,fun k v hk=>rl.fr _ _ (hF _ _ hk),rl.df⟩
 exact⟨e,a',w',q, .of_steps (.one step_loop) r⟩
def At(C:Ctx)(n:Nat){X:Type}(F:X→Fr)(O:X→List Own)(I:X→Gh→Prop)(G:Gh)(a:Act)(w:World):Prop:=
 ∃x G',GLe G G'∧I x G'∧Rel C n (F x) (O x) G' a w
theorem ane{Q:Exit→Act→World→Prop}{c d:Code}(X:Type)(F:X→Fr)(O:X→List Own)(I:X→Gh→Prop)(h1:St C n fr own G (c.wp P (Exit.then (At C n F O I G) Q)))
  (h2: ∀(x:X) (G':Gh),[GE G G']→I x G'→St C n (F x) (O x) G' (d.wp P Q)):St C n fr own G ((Code.seq c d).wp P Q):=by
 intro a w rl
 refine wp_seq (wp_mono (h1 a w rl) ?_)
 intro e a w h
 cases e with
 |normal=>obtain⟨x,G',hle,hI,hr⟩:=h;exact @h2 x G' ⟨hle⟩ hI a w hr
 |_=>exact h
theorem ajZ{X:Type}{F:X→Fr}{O:X→List Own}{I:X→Gh→Prop}{G0:Gh}[hg:GL G0 G](x:X)(hI:I x G)(hF:azK (F x) fr)(hO:O x=own):St C n fr own G (At C n F O I G0):=
 fun a w rl=>⟨x,G,hg.le,hI,⟨hO▸rl.h,rl.sz,fun k v hk=>rl.fr _ _ (hF _ _ hk),rl.df⟩⟩
theorem aa6{X:Type}{F:X→Fr}{O:X→List Own}{I:X→Gh→Prop}{μ:X→Nat}{m:Nat}{G0:Gh}[hg:GL G0 G](x:X)(hI:I x G)(hμ:μ x<m)(hF:azK (F x) fr)(hO:O x=own):St C n fr own G (aDA C n F O I μ m G0):=
 fun a w rl=>⟨x,G,hg.le,hI,hμ,⟨hO▸rl.h,rl.sz,fun k v hk=>rl.fr _ _ (hF _ _ hk),rl.df⟩⟩
end
def acG(Q:Exit→Act→World→Prop):Exit→Act→World→Prop
 | .panic _,_,_=>False
 |e,a,w=>Q e a w
theorem acG.imp{Q:Exit→Act→World→Prop}: ∀(e:Exit) (a:Act) (w:World),acG Q e a w→Q e a w:=fun e a w h=>by
 cases e<;>first|exact h|exact(h:False).elim
section
variable {P:Program} {ops:Array Oper} {Q:Exit→Act→World→Prop} {S:World→Prop} {fin:Nat→Bool}
def aib(P:Program)(ops:Array Oper)(Q:Exit→Act→World→Prop)(S:World→Prop)(fin:Nat→Bool):Nat→Array Bool→Act→World→Prop
 |0,listed,a,w=>Region.ready .any ops listed=[]∧Q .normal a w
 |fuel+1,listed,a,w=>
  (Region.ready .any ops listed=[]→Q .normal a w)∧
  ∀i∈Region.ready .any ops listed,wpOp P ops Q i (fun a' w'=>(fin i=true∨S w')∧aib P ops Q S fin fuel (listed.setIfInBounds i true) a' w') a w
theorem afN: ∀(fuel:Nat) (listed:Array Bool) (a:Act) (w:World),aib P ops Q S fin fuel listed a w→wpAny P .any ops Q fuel listed a w
 |0,_,_,_,h=>h
 |fuel+1,_,_,_,h=>⟨h.1,fun i hi=>wpOp_mono (fun a' w' h'=>afN fuel _ a' w' h'.2) (h.2 i hi)⟩
def aA1(ops:Array Oper)(fin:Nat→Bool)(i:Nat):Bool:=
 !fin i&&(List.range ops.size).all fun j=>!fin j||((ops[j]?).map fun o=>o.after.any fun e=>Region.binds .any e&&e.on==i).getD true
theorem arW{i:Nat}(h:aA1 ops fin i=true):fin i=false∧ ∀j oj,ops[j]? =some oj→fin j=true→ ∃e∈oj.after,Region.binds .any e=true∧e.on=i:=by
 simp only[aA1,cX,gU] at h
 refine⟨h.1,fun j oj hoj hf=>?_⟩
 have hj:j<ops.size:=(mN.1 hoj).1
 have h1:=fK.1 h.2 j (by simpa using hj)
 rw[hf,hoj] at h1
 simp only[Bool.not_true,jY,lV,Bool.false_or] at h1
 obtain⟨e,he,hb⟩:=Array.any_eq_true'.1 h1
 simp only[cX,beq_iff_eq] at hb
 exact⟨e,he,hb.1,hb.2⟩
theorem amz{i:Nat}{oi:Oper}{v:Value}(hi:ops[i]? =some oi)(hsel: ∀(j:Nat) (o:Oper) cs b,ops[j]? =some o→o.op≠ .select cs b)
  (hQ: ∀c a w,Q (.panic c) (a.put oi.dst v) w→Q (.panic c) a w)(hfi:fin i=false)
  (hfin: ∀j oj,ops[j]? =some oj→fin j=true→ ∃e∈oj.after,Region.binds .any e=true∧e.on=i):
  ∀(fuel:Nat) (listed:Array Bool) (a:Act) (w:World),
   (∀j oj,ops[j]? =some oj→j≠i→listed.getD j true=false→(∀e∈oj.after,Region.binds .any e=true→e.on≠i)→oi.apart ops oj=true)→
   i∈Region.ready .any ops listed→YieldsIf P ops S oi v a→S w→
   aib P ops Q S fin fuel (listed.setIfInBounds i true) (a.put oi.dst v) w→aib P ops Q S fin (fuel+1) listed a w:=by
 intro fuel
 induction fuel with
 |zero=>
  intro listed a w _ hr hy hS H
  refine⟨fun h=>(by rw[h] at hr;cases hr),fun j hj=>?_⟩
  by_cases hji:j=i
  ·subst hji;exact hy.wpOp hi hS ⟨.inr hS,H⟩
  ·have:=ready_mono hj hji
   rw[H.1] at this
   cases this
 |succ fuel ih=>
  intro listed a w hfree hr hy hS H
  refine⟨fun h=>(by rw[h] at hr;cases hr),fun j hj=>?_⟩
  by_cases hji:j=i
  ·subst hji;exact hy.wpOp hi hS ⟨.inr hS,H⟩
  ·have h1:=H.2 j (ready_mono hj hji)
   obtain⟨hjun,oj,hoj,hall⟩:=mem_ready.1 hj
   have hnot: ∀e∈oj.after,Region.binds .any e=true→e.on≠i:=fun e he hb heq=>by
    have h1:=hall e he hb
    have h0:=(mem_ready.1 hr).1
    rw[heq] at h1
    rcases iZ i listed.size with h'|h'
    ·simp[h'] at h0 h1;rw[h0] at h1;cases h1
    ·simp[rZ h'] at h1
   have hnf:fin j=false:=by
    cases hf:fin j with
    |false=>rfl
    |true=>obtain⟨e,he,hb,heq⟩:=hfin j oj hoj hf;exact absurd heq (hnot e he hb)
   have h2:=wpOp_putIf hoj (hfree j oj hoj hji hjun hnot) (fun cs b=>hsel i oi cs b hi) (fun cs b=>hsel j oj cs b hoj) hQ hy h1
   have hfree': ∀k ok,ops[k]? =some ok→k≠i→(listed.setIfInBounds j true).getD k true=false→
     (∀e∈ok.after,Region.binds .any e=true→e.on≠i)→oi.apart ops ok=true:=fun k ok hk hki hun hno=>by
    refine hfree k ok hk hki ?_ hno
    by_cases hjk:j=k
    ·subst hjk;exact hjun
    ·rw[getD_set_ne true hjk] at hun;exact hun
   refine wpOp_mono (fun a' w' h3=>?_) h2
   have hS':S w':=h3.2.1.resolve_left (by rw[hnf];simp)
   refine⟨.inr hS',ih (listed.setIfInBounds j true) a' w' hfree' (ready_mono hr (Ne.symm hji)) h3.1 hS' ?_⟩
   rw[Array.setIfInBounds_comm _ _ hji]
   exact h3.2.2
theorem arz{i:Nat}{fuel:Nat}{listed:Array Bool}{a:Act}{w:World}(hr:Region.ready .any ops listed=[i])
  (h:wpOp P ops Q i (fun a' w'=>(fin i=true∨S w')∧aib P ops Q S fin fuel (listed.setIfInBounds i true) a' w') a w):aib P ops Q S fin (fuel+1) listed a w:=
 ⟨fun h0=>absurd (hr.symm.trans h0) (by simp),fun j hj=>by rw[hr,aY] at hj;subst hj;exact h⟩
def akS(ops:Array Oper)(fin:Nat→Bool)(listed:Array Bool)(i:Nat):Bool:=
 Region.noSelect ops&&Region.free .any ops listed i&&(Region.ready .any ops listed).contains i&&aA1 ops fin i
end
class alH (l m:List Own):Prop where s:l.Sublist m
instance alH.refl (l:List Own):alH l l:=⟨List.Sublist.refl l⟩
instance alH.cons (l m:List Own) (o:Own) [h:alH l m]:alH l (o::m):=⟨h.s.cons o⟩
def HS(C:Ctx)(own:List Own)(G:Gh):World→Prop:=fun w=> ∃G',GLe G G'∧ab5 C own G' w
section
variable {P:Program} {C:Ctx} {n:Nat} {fr:Fr} {own own0:List Own} {G G0:Gh} {ops:Array Oper} {Q:Exit→Act→World→Prop} {fin:Nat→Bool}
theorem asd{id:Nat}(fin:Nat→Bool)(hm:P.follows .mixedOrders=true)
  (h:St C n fr own G (aib P ops (acG Q) (HS C own G) fin ops.size (Array.replicate ops.size false))):St C n fr own G ((Code.region id ops true).wp P Q):=by
 intro a w rl
 exact wp_mono (wp_region_any hm (afN _ _ _ _ (h a _ (rl.heap rl.h.drew)))) acG.imp
theorem aBD{b:Bool}{Φ:Act→World→Prop}[hs:alH own0 own][hl:GL G0 G](h:St C n fr own G Φ):St C n fr own G (fun a w=>(b=true∨HS C own0 G0 w)∧Φ a w):=
 fun a w rl=>⟨.inr ⟨G,hl.le,rl.h.drop hs.s⟩,h a w rl⟩
end
end Go.Sx
end
