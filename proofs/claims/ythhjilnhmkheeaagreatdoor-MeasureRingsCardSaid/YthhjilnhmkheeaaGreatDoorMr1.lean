import Derived.Calls
import Derived.Orders
import Derived.OrdersHeld
import Derived.Laws.World
import Derived.Below
import Derived.IntWalk
import Derived.KernelRfl
import Derived.Laws.Append
set_option linter.all false
section
namespace Go.Sx
theorem we{p:Prop}(h:p:=by omega):p:=h
theorem oma{p:Prop}(h:p:=by decide):p:=h
theorem omb{p:Prop}(h:p:=by grind):p:=h
theorem omc{p:Prop}(h:p:=by simp):p:=h
theorem omd{p:Prop}(h:p:=by kernel_rfl):p:=h
theorem ome{p:Prop}(h:p:=by assumption):p:=h
theorem omg{p:Prop}{i:Decidable p}(h:p):some (@decide p i)=some true:=by rw[decide_eq_true h]
theorem omh{p:Prop}{i:Decidable p}(h: ¬p):some (@decide p i)=some false:=by rw[decide_eq_false h]
def J{α:Sort _}{a:α}:a=a:=rfl
open Go
def aQ:=@List.mem_cons_self
def aZ:=@List.getElem?_eq_getElem
def aX:=@List.mem_cons_of_mem
def aJ:=@List.getD_eq_getElem?_getD
def aK:=@List.length_map
def aV:=@List.mem_singleton
def aW:=@List.mem_cons
def aU:=@List.length_replicate
def aT:=@List.mem_of_getElem?
def aR:=@List.length_append
def aS:=@List.mem_map
def aL:=@Nat.eq_of_beq_eq_true
def aM:=@List.length_set
def aN:=@Rat.le_of_lt
def bQ:=@List.getElem?_eq_some_iff
def bZ:=@List.length_cons
def bX:=@Rat.mul_eq_zero
def bJ:=@List.mem_append
def bK:=@List.mem_append_left
def bV:=@Nat.le_refl
def bW:=@List.mem_append_right
def bU:=@List.drop_eq_getElem_cons
def bT:=@Bool.and_eq_true
def bR:=@Nat.mul_le_mul_right
def bS:=@Nat.zero_le
def bL:=@List.map_append
def bM:=@List.pairwise_cons
def bN:=@List.getElem_mem
def cZ:=@List.take_of_length_le
def cX:=@Array.getD_eq_getD_getElem?
def cJ:=@List.map_cons
def cK:=@Nat.mul_comm
def cV:=@List.getElem?_map
def cW:=@List.eq_nil_of_length_eq_zero
def cY:=@Nat.pow_le_pow_right
def cR:=@List.length_take
def cS:=@Rat.intCast_mul
def cM:=@Nat.mul_assoc
def cN:=@List.all_eq_true
def dQ:=@Nat.mod_lt
def dZ:=@Nat.mod_eq_of_lt
def dX:=@Rat.le_refl
def dJ:=@Nat.le_trans
def dK:=@List.mem_flatMap
def dV:=@List.take_length
def dW:=@Nat.add_mul
def dY:=@List.getElem?_append_left
def dT:=@List.mem_of_mem_take
def dR:=@Int.toNat_natCast
def dS:=@List.mem_range
def eX:=@List.mem_map_of_mem
def eJ:=@List.getElem?_eq_none
def eK:=@List.forall_mem_cons
def eY:=@Nat.lt_of_lt_of_le
def eM:=@Rat.intCast_eq_zero_iff
def fQ:=@Array.getElem?_setIfInBounds
def fZ:=@Int.sign_eq_neg_one_of_neg
def fX:=@Nat.zero_add
def fJ:=@Int.sign_eq_one_of_pos
def fK:=@List.take_append_of_le_length
def fV:=@Nat.mul_le_mul_left
def fW:=@Nat.eq_zero_or_pos
def fY:=@Nat.mul_add
def fU:=@Bool.or_eq_true
def fT:=@Bool.false_eq_true
def fR:=@List.drop_length
def fS:=@Array.getElem?_eq_some_iff
def fL:=@List.getElem?_append_right
def fM:=@Bool.not_eq_true'
def fN:=@Nat.pow_add
def gQ:=@List.length_nil
def gX:=@List.append_assoc
def gJ:=@List.drop_zero
def gK:=@List.pairwise_append
def gV:=@Array.getElem?_eq_getElem
def gW:=@Nat.add_zero
def gU:=@Nat.lt_of_le_of_lt
def gT:=@List.drop_of_length_le
def gR:=@List.map_take
def gS:=@List.mem_of_mem_drop
def gL:=@Nat.pow_pos
def gM:=@Nat.mul_pos
def gN:=@List.length_drop
def iQ:=@Nat.pow_succ
def iZ:=@List.mem_filter
def iX:=@Rat.intCast_neg
def iJ:=@Int.natAbs_neg
def iK:=@Nat.mul_le_mul
def iV:=@List.length_dropLast
def iW:=@List.map_toArray
def iY:=@Int.natCast_mul
def iU:=@Nat.min_eq_left
def iT:=@List.take_add_one
def iR:=@Int.natAbs_mul
def iS:=@List.length_singleton
def iL:=@Array.length_toList
def iM:=@List.take_succ_eq_append_getElem
def iN:=@Nat.succ_mul
def jQ:=@List.map_drop
def jZ:=@List.take_append_drop
def jX:=@Nat.lt_or_ge
def jJ:=@List.getD_cons_succ
def jK:=@Nat.gcd_comm
def jV:=@List.foldl_cons
def jW:=@List.cons_append
def jY:=@List.any_eq_true
def jU:=@List.not_mem_nil
def jT:=@List.drop_append_of_le_length
def jR:=@Int.sign_eq_zero_iff_zero
def jS:=@List.pairwise_iff_getElem
def jL:=@Int.natAbs_natCast
def jM:=@Nat.pos_of_ne_zero
def jN:=@Option.map_some
def kQ:=@Nat.div_lt_iff_lt_mul
def kZ:=@List.ext_getElem?
def kX:=@Nat.add_comm
def kJ:=@List.map_set
def kK:=@Array.getElem?_append_left
def kV:=@Int.fdiv_eq_ediv_of_nonneg
def kW:=@Rat.intCast_sub
def kY:=@Int.natAbs_zero
def kU:=@List.drop_eq_nil_of_le
def kR:=@List.map_nil
def kS:=@Int.lt_trichotomy
def kL:=@List.flatMap_cons
def kM:=@Nat.add_assoc
def kN:=@Nat.zero_mul
def lQ:=@List.nil_append
def lZ:=@List.append_nil
def lX:=@Nat.mod_self
def lJ:=@Nat.blt_eq
def lK:=@Nat.add_sub_cancel
def lV:=@List.append_of_mem
def lW:=@Option.getD_some
def lY:=@Nat.mul_one
def lU:=@List.getElem_map
def lT:=@Nat.div_eq_of_lt
def lR:=@Int.ofNat_natAbs_of_nonpos
def lS:=@Rat.intCast_le_intCast
def lL:=@List.replicate_succ
def lM:=@List.getLast?_eq_getElem?
def lN:=@List.nil_sublist
def mQ:=@List.getElem?_drop
def mZ:=@List.eq_of_mem_replicate
def mX:=@Nat.le_of_lt
def mJ:=@List.mem_iff_getElem
def mK:=@List.flatten_cons
def mV:=@Nat.gcd_pos_of_pos_left
def mW:=@Rat.num_eq_zero
def mY:=@Rat.intCast_add
def mU:=@Nat.div_le_self
def mT:=@List.take_succ_cons
def mR:=@List.length_pos_iff
def mS:=@List.getD_cons_zero
def mL:=@List.flatMap_append
def mM:=@Array.getElem?_eq_none
def mN:=@Nat.mul_lt_mul_of_pos_right
def nQ:=@Rat.neg_num
def nZ:=@List.drop_append
def nX:=@Bool.not_eq_true
def nJ:=@List.perm_middle
def nK:=@Nat.gcd_dvd_left
def nV:=@Nat.mul_lt_mul_of_lt_of_le
def nW:=@Nat.gcd_zero_right
def nY:=@Int.natAbs_eq_zero
def nU:=@List.length_filter_le
def nT:=@Int.natAbs_ediv_le_natAbs
def nR:=@List.pairwise_map
def nS:=@List.size_toArray
def nL:=@Nat.one_mul
def nM:=@Int.natAbs_of_nonneg
def nN:=@Nat.beq_refl
def oQ:=@Nat.mul_left_comm
def oZ:=@Nat.gcd_dvd_right
def oX:=@List.mem_of_getLast?
def oJ:=@Nat.eq_zero_of_gcd_eq_zero_right
def oK:=@Nat.pow_lt_pow_iff_right
def oV:=@List.sublist_append_left
def oW:=@Nat.gcd_pos_of_pos_right
def oY:=@Nat.eq_zero_of_gcd_eq_zero_left
def oU:=@List.getElem?_range
def oS:=@List.takeWhile_cons
def oL:=@List.getElem_of_mem
def oN:=@Array.toList_map
def pQ:=@Nat.le_add_right
def pZ:=@Rat.mul_nonneg
def pX:=@Rat.mkRat_eq_div
def pJ:=@Nat.mul_lt_mul''
def pK:=@List.countP_cons
def pV:=@List.getElem?_take
def pW:=@List.getElem_cons_zero
def pY:=@List.getElem?_set_self
def pU:=@Rat.intCast_inj
def pT:=@Rat.num_intCast
def pR:=@List.range_succ
def pS:=@Array.getElem?_toList
def pL:=@Nat.lt_trichotomy
def pM:=@List.getElem?_set
def pN:=@List.length_range
def qQ:=@Bool.or_eq_false_iff
def qZ:=@Rat.neg_den
def qX:=@Nat.add_mul_div_left
def qJ:=@Int.le_of_lt
def qK:=@List.map_map
def qV:=@Nat.add_mul_mod_self_left
def qW:=@Int.toNat_of_nonneg
def qY:=@List.drop_set_of_lt
def qU:=@List.take_replicate
def qT:=@Bool.true_and
def qR:=@Option.isSome_iff_exists
def qS:=@Array.getElem?_replicate
def qL:=@Option.map_none
def qM:=@Nat.div_add_mod
def qN:=@Rat.den_intCast
def rQ:=@Nat.mul_right_comm
def rZ:=@Nat.lt_or_gt_of_ne
def rX:=@Int.natCast_nonneg
def rJ:=@Nat.le_mul_of_pos_right
def rK:=@Int.natCast_dvd_natCast
def rV:=@List.mapM_cons
def rW:=@List.take_zero
def rY:=@List.forall_mem_append
def rU:=@Nat.div_div_eq_div_mul
def rT:=@List.length_pos_of_mem
def rR:=@List.getElem?_dropLast
def rS:=@List.foldl_append
def rL:=@Bool.false_and
def rM:=@Bool.and_false
def rN:=@List.eq_nil_or_concat
def sQ:=@List.concat_eq_append
def sZ:=@Nat.le_div_iff_mul_le
def sX:=@List.dropLast_sublist
def sJ:=@Int.natCast_ediv
def sV:=@Nat.le_of_not_lt
def sW:=@Bool.false_or
def sY:=@Bool.or_false
def sU:=@Rat.mkRat_one
def sT:=@Nat.dvd_trans
def sS:=@Int.mul_neg
def sL:=@Nat.pow_lt_pow_right
def sM:=@Int.mul_eq_zero
def sN:=@List.drop_succ_cons
def tQ:=@Int.sign_trichotomy
def tZ:=@Nat.mul_zero
def tX:=@Nat.lt_trans
def tJ:=@Nat.sub_self
def tK:=@Nat.pow_zero
def tV:=@Rat.mkRat_self
def tW:=@List.drop_drop
def tY:=@Nat.pow_mul
def tU:=@Nat.gcd_rec
def tT:=@Nat.div_one
abbrev Gh:=Nat->Option (List Value)
def cc(G G':Gh):Prop:= ∀b cs,G b=some cs->G' b=some cs
def cc.refl(G:Gh):cc G G:=fun _ _ h=>h
def cc.trans{a b c:Gh}(h:cc a b)(k:cc b c):cc a c:=fun _ _ x=>k _ _ (h _ _ x)
structure az where
 b:Nat
 cs:List Value
 ty:TypeId
 lo:Bool
structure aH where
 w0:World
 G0:Gh
 mb:List Nat
 /-- other objects that stay: records of loops, marks -/
 ex:List (Nat×Obj)
 /-- the marks among the deferred calls; the round -/
 mks:List Deferred
 rd:Option Nat
 /-- where names that are fixed lie -/
 fx:Nat->Option Addr
structure bC (C:aH) (own:List az) (G:Gh) (w:World):Prop where
 os:w.os=C.w0.os
 tape:w.tape=C.w0.tape
 output:w.output=C.w0.output
 size:C.w0.heap.size<=w.heap.size
 keep: ∀b,b<C.w0.heap.size->b∉C.mb->w.heap[b]? =C.w0.heap[b]?
 sub: ∀b cs,G b=some cs-> ∃ty fz,w.heap[b]? =some (.cells ⟨cs⟩ ty fz)
 gle:cc C.G0 G
 gold: ∀b,b<C.w0.heap.size->G b=C.G0 b
 hown: ∀o∈own,w.heap[o.b]? =some (.cells ⟨o.cs⟩ o.ty (0,0))/\G o.b=none/\(o.lo=true->C.w0.heap.size<=o.b)/\(o.lo=false->o.b∈C.mb)
 nd:own.Pairwise (fun x y=>x.b≠y.b)
 dr:C.w0.drawn<=w.drawn
 ext: ∀p∈C.ex,(∀cs ty z,p.2≠ .cells cs ty z)/\w.heap[p.1]? =some p.2
abbrev Fr:=List (Nat×Value)
def j0:Fr->Nat->Option Value
 |[],_=>none
 |(k,v)::t,j=>bif Nat.beq k j then some v else j0 t j
def put(fr:Fr)(dst:Option Nat)(v:Value):Fr:=match dst with|some d=>(d,v)::fr|none=>fr
def ng(fr:Fr)(a:Act):Prop:= ∀k v,j0 fr k=some v->a.tmps[k]? =some v
structure jg (C:aH) (n:Nat) (fr:Fr) (own:List az) (G:Gh) (a:Act) (w:World):Prop where
 h:bC C own G w
 sz:a.tmps.size=n
 fr:ng fr a
 df:a.defers=C.mks
def St(C:aH)(n:Nat)(fr:Fr)(own:List az)(G:Gh)(Φ:Act->World->Prop):Prop:=
 ∀a w,jg C n fr own G a w->Φ a w
def aF(fr:Fr):Operand->Option Value
 | .tmp k=>j0 fr k
 | .const v=>some v
 | .global g=>some (.pointer (some ⟨g,0,none⟩))
 | .func f=>some (.func (.func f) #[] #[])
def bu{fr:Fr}{a:Act}(h:ng fr a){x:Operand}{v:Value}(hx:aF fr x=some v):a.eval x=v:=by
 cases x with
 |tmp k=>
  have:=h k v hx;simp only[Act.eval,cX,this,lW]
 |const u=>simpa[aF,Act.eval] using hx
 |global g=>simpa[aF,Act.eval] using hx
 |func f=>simpa[aF,Act.eval] using hx
def xi(k:Nat)(v:Value)(t:Fr)(j:Nat):j0 ((k,v)::t) j=if k=j then some v else j0 t j:=by
 simp only[j0];by_cases h:k=j
 .simp[h]
 .have:Nat.beq k j=false:=by
   cases hb:Nat.beq k j with
   |false=>rfl
   |true=>exact absurd (aL hb) h
  simp[this,h]
def cA(n:Nat):Option Nat->Bool
 |some d=>Nat.blt d n
 |none=>true
def ng.put{fr:Fr}{a:Act}{n:Nat}(h:ng fr a)(hs:a.tmps.size=n){dst:Option Nat}{v:Value}(hd:cA n dst=true):ng (Sx.put fr dst v) (a.put dst v):=by
 cases dst with
 |none=>exact h
 |some d=>
  intro k u hk;have hdn:d<n:=by simpa[cA,lJ] using hd
  simp only[Sx.put,xi] at hk;simp only[Act.put,fQ];by_cases hkd:d=k
  .simp only[hkd,if_true] at hk
   subst hkd;simp[hs,hdn,hk]
  .simp only[hkd,if_false] at hk
   simp only[hkd,if_false];exact h k u hk
def T6(a:Act)(dst:Option Nat)(v:Value):(a.put dst v).tmps.size=a.tmps.size:=by cases dst<;>simp[Act.put]
def NU(a:Act)(dst:Option Nat)(v:Value):(a.put dst v).defers=a.defers:=by cases dst<;>simp[Act.put]
def jg.put{C n fr own G a w}(r:jg C n fr own G a w){dst:Option Nat}(v:Value)(hd:cA n dst=true):jg C n (Sx.put fr dst v) own G (a.put dst v) w:=
 ⟨r.h,by rw[T6];exact r.sz,r.fr.put r.sz hd,by rw[NU];exact r.df⟩
def jg.heap{C n fr own G own' G' a w w'}(r:jg C n fr own G a w)(h:bC C own' G' w'):jg C n fr own' G' a w':=⟨h,r.sz,r.fr,r.df⟩
def e7(P:Program)(ops:Array Oper)(Q:Exit->Act->World->Prop):List Oper->Act->World->Prop
 |[],a,w=>Q .normal a w
 |o::r,a,w=>if Region.wanted o (yielded ops a.tmps) then o.wp P a w (e7 P ops Q r) Q else e7 P ops Q r (a.put o.dst undef) w
theorem okO{p:Prop}(h:p:=by simpa using hk):p:=h
def Zc{P:Program}{ops:Array Oper}{Q:Exit->Act->World->Prop}: ∀(l:List Nat) (k:Nat) (a:Act) (w:World),l=(List.range ops.size).drop k->e7 P ops Q (ops.toList.drop k) a w->wpOps P ops Q l a w:=by
 intro l
 induction l with
 |nil=>
  intro k a w hl h;have hk:ops.size<=k:=by
   have:=congrArg List.length hl;simp at this;omega
  rw[kU okO] at h;exact h
 |cons i t ih=>
  intro k a w hl h;have hk:k<ops.size:=by
   have:=congrArg List.length hl;simp at this;omega
  rw[bU okO] at hl;obtain⟨hi,ht⟩:=List.cons.inj hl;simp only[List.getElem_range] at hi;subst hi;rw[bU okO] at h;have ho:ops[i]? =some ops[i]:=gV hk;simp only[wpOps,ho];simp only[e7,Array.getElem_toList] at h;split
  .rename_i hw
   simp only[hw,if_true] at h;exact .inl (Oper.wp_mono (fun a w h=>ih (i+1) a w ht h) h)
  .rename_i hw
   simp only[hw] at h;exact ih (i+1) _ w ht h
theorem omy{p:Prop}(h:p:=by simpa using h):p:=h
def arm{P:Program}{id:Nat}{ops:Array Oper}{Q:Exit->Act->World->Prop}{a:Act}{w:World}
  (h:e7 P ops Q ops.toList a w):(Code.region id ops false).wp P Q a w:=
 wp_region (Zc _ 0 a w omc omy)
def Yd(P:Program)(C:aH)(fr:Fr)(own:List az)(G:Gh)(o:Oper)(v:Value):Prop:=
 ∀a w,ng fr a->bC C own G w->(execOp a.eval o).run P w= .ok (.value v) w
section
variable {P:Program} {C:aH} {n:Nat} {fr:Fr} {own:List az} {G:Gh} {ops:Array Oper} {Q:Exit->Act->World->Prop} {r:List Oper}
def ub{o:Oper}{v:Value}(hy:Yd P C fr own G o v)(hg:o.guard=none)(hd:cA n o.dst=true)
  (h:St C n (put fr o.dst v) own G (e7 P ops Q r)):St C n fr own G (e7 P ops Q (o::r)):=by
 intro a w rl;simp only[e7,Region.wanted,hg,if_true,Oper.wp,hy a w rl.fr rl.h,Oper.upon];exact h _ _ (rl.put v hd)
def Gq{a:Act}{j d:Nat}{b:Bool}(hf:ng fr a)(hj:(ops[j]?).bind (·.dst)=some d)(hl:j0 fr d=some (.bool b)):yielded ops a.tmps j=some b:=by
 unfold yielded;rw[hj];simp[hf d _ hl]
def aK9{o:Oper}{v:Value}{j d:Nat}{b:Bool}(hg:o.guard=some (j,b))(hj:(ops[j]?).bind (·.dst)=some d)(hl:j0 fr d=some (.bool b))
  (hy:Yd P C fr own G o v)(hd:cA n o.dst=true)
  (h:St C n (put fr o.dst v) own G (e7 P ops Q r)):St C n fr own G (e7 P ops Q (o::r)):=by
 intro a w rl;have:Region.wanted o (yielded ops a.tmps)=true:=by simp[Region.wanted,hg,Gq rl.fr hj hl]
 simp only[e7,this,if_true,Oper.wp,hy a w rl.fr rl.h,Oper.upon];exact h _ _ (rl.put v hd)
def WM{o:Oper}{j d:Nat}{b c:Bool}(hg:o.guard=some (j,b))(hj:(ops[j]?).bind (·.dst)=some d)(hl:j0 fr d=some (.bool c))(hbc:(c==b)=false)
  (hd:cA n o.dst=true)(h:St C n (put fr o.dst undef) own G (e7 P ops Q r)):St C n fr own G (e7 P ops Q (o::r)):=by
 intro a w rl;have:Region.wanted o (yielded ops a.tmps)=false:=by simp[Region.wanted,hg,Gq rl.fr hj hl,hbc]
 simp only[e7,this];exact h _ _ (rl.put undef hd)
def zE(h:St C n fr own G (Q .normal)):St C n fr own G (e7 P ops Q []):=h
def WS{id:Nat}(h:St C n fr own G (e7 P ops Q ops.toList)):St C n fr own G ((Code.region id ops false).wp P Q):=
 fun a w rl=>arm (h a w rl)
def mG{x y:Code}(h:St C n fr own G (x.wp P (Exit.then (y.wp P Q) Q))):St C n fr own G ((Code.seq x y).wp P Q):=
 fun a w rl=>wp_seq (h a w rl)
def zK(h:St C n fr own G (Q .normal)):St C n fr own G (Code.skip.wp P Q):=fun a w rl=>wp_skip (h a w rl)
def vG(h:St C n fr own G (Q .ret)):St C n fr own G (Code.ret.wp P Q):=fun a w rl=>wp_ret (h a w rl)
def KD{id:Nat}{c:Code}(h:St C n fr own G (c.wp P (Exit.inBlock id Q))):St C n fr own G ((Code.block id c).wp P Q):=
 fun a w rl=>wp_block (h a w rl)
def Jz{c:Operand}{x y:Code}(hc:aF fr c=some (.bool true))(h:St C n fr own G (x.wp P Q)):St C n fr own G ((Code.cond c x y).wp P Q):=
 fun a w rl=>wp_cond_true (bu rl.fr hc) (h a w rl)
def Jy{c:Operand}{x y:Code}(hc:aF fr c=some (.bool false))(h:St C n fr own G (y.wp P Q)):St C n fr own G ((Code.cond c x y).wp P Q):=
 fun a w rl=>wp_cond_false (bu rl.fr hc) (h a w rl)
def Aj{p:Prop}{inst:Decidable p}{c:Operand}{x y:Code}(hc:aF fr c=some (.bool (@decide p inst)))(h1:p->St C n fr own G (x.wp P Q))(h2: ¬p->St C n fr own G (y.wp P Q)):
  St C n fr own G ((Code.cond c x y).wp P Q):=
 fun a w rl=>wp_cond_split (bu rl.fr hc) (fun h=>h1 (of_decide_eq_true h) a w rl) (fun h=>h2 (of_decide_eq_false h) a w rl)
def XU{b:Bool}{c:Operand}{x y:Code}(hc:aF fr c=some (.bool b))(h1:b=true->St C n fr own G (x.wp P Q))(h2:b=false->St C n fr own G (y.wp P Q)):
  St C n fr own G ((Code.cond c x y).wp P Q):=
 fun a w rl=>wp_cond_split (bu rl.fr hc) (fun h=>h1 h a w rl) (fun h=>h2 h a w rl)
def aDk{Φ:Act->World->Prop}(d:Nat){b:Bool}(hl:j0 fr d=some (.bool b))(h1:b=true->St C n ((d, .bool true)::fr) own G Φ)(h2:b=false->St C n ((d, .bool false)::fr) own G Φ):St C n fr own G Φ:=by
 intro a w rl
 cases b with
 |true=>exact h1 J a w ⟨rl.h,rl.sz,fun k v hk=>by
   rw[xi] at hk;split at hk
   .subst_vars;cases hk;exact rl.fr _ _ hl
   .exact rl.fr _ _ hk,rl.df⟩
 |false=>exact h2 J a w ⟨rl.h,rl.sz,fun k v hk=>by
   rw[xi] at hk;split at hk
   .subst_vars;cases hk;exact rl.fr _ _ hl
   .exact rl.fr _ _ hk,rl.df⟩
def HP{Φ:Act->World->Prop}(d:Nat){p:Prop}{inst:Decidable p}(hl:j0 fr d=some (.bool (@decide p inst)))(h1:p->St C n ((d, .bool true)::fr) own G Φ)(h2: ¬p->St C n ((d, .bool false)::fr) own G Φ):St C n fr own G Φ:=
 aDk d hl (fun h=>h1 (of_decide_eq_true h)) (fun h=>h2 (of_decide_eq_false h))
end
class jf (own:List az) (b:Nat) (cs:outParam (List Value)) (ty:outParam TypeId) (lo:outParam Bool):Prop where
 mem:⟨b,cs,ty,lo⟩∈own
instance jf.i1 (b:Nat) (cs:List Value) (ty:TypeId) (lo:Bool) (t:List az):jf (⟨b,cs,ty,lo⟩::t) b cs ty lo:=⟨aQ⟩
instance jf.i2 (o:az) (t:List az) (b:Nat) (cs:List Value) (ty:TypeId) (lo:Bool) [h:jf t b cs ty lo]:jf (o::t) b cs ty lo:=⟨aX _ h.mem⟩
inductive i7:List az->Nat->List Value->TypeId->Bool->List Value->List az->Prop
 |hd (b:Nat) (cs cs':List Value) (ty:TypeId) (lo:Bool) (t:List az):i7 (⟨b,cs,ty,lo⟩::t) b cs ty lo cs' (⟨b,cs',ty,lo⟩::t)
 |tl (o:az) (t t':List az) (b:Nat) (cs cs':List Value) (ty:TypeId) (lo:Bool) (h:i7 t b cs ty lo cs' t'):i7 (o::t) b cs ty lo cs' (o::t')
inductive kI:List az->az->List az->Prop
 |hd (o:az) (t:List az):kI (o::t) o t
 |tl (x:az) (t t':List az) (o:az) (h:kI t o t'):kI (x::t) o (x::t')
class GE (A:outParam Gh) (B:Gh):Prop where le:cc A B
class GL (A B:Gh):Prop where le:cc A B
instance GL.refl (A:Gh):GL A A:=⟨cc.refl A⟩
instance GL.step (A B C:Gh) [h:GE B C] [k:GL A B]:GL A C:=⟨k.le.trans h.le⟩
class aMb (G:outParam Gh) (b:Nat) (cs:outParam (List Value)):Prop where h:G b=some cs
def dh:List Value->Nat->Nat->Option (List Value)
 |_,0,0=>some []
 |[],0,_+1=>none
 |v::t,0,k+1=>match dh t 0 k with|some l=>some (v::l)|none=>none
 |[],_+1,_=>none
 |_::t,off+1,k=>dh t off k
def dd:List Value->Nat->List Value->List Value
 |cs,_,[]=>cs
 |cs,off,v::vs=>dd (cs.set off v) (off+1) vs
def rA: ∀(cs:List Value) (off k:Nat) (l:List Value),dh cs off k=some l->l.length=k/\ ∀i,i<k->cs[off+i]? =l[i]?
 |cs,0,0,l,h=>by
  cases cs<;>(simp only[dh] at h;cases h;exact⟨J,fun i hi=>absurd hi (Nat.not_lt_zero _)⟩)
 |[],0,_+1,l,h=>by simp[dh] at h
 |v::t,0,k+1,l,h=>by
  simp only[dh] at h;split at h
  .rename_i l' hl'
   cases h
   obtain⟨h1,h2⟩:=rA t 0 k l' hl';refine⟨by simp[h1],fun i hi=>?_⟩
   cases i with
   |zero=>rfl
   |succ i=>
    have:=h2 i we;simpa using this
  .cases h
 |[],_+1,_,l,h=>by simp[dh] at h
 |_::t,off+1,k,l,h=>by
  simp only[dh] at h;obtain⟨h1,h2⟩:=rA t off k l h;refine⟨h1,fun i hi=>?_⟩;have:=h2 i hi;rw[<-this,show off+1+i=(off+i)+1 by omega];rfl
class nf (P:Program) (t:TypeId) (k:outParam Nat):Prop where
 agg: ∀w,(isAgg t).run P w= .ok true w
 siz: ∀w,(sizeOf t).run P w= .ok k w
class nF (P:Program) (t:TypeId):Prop where
 agg: ∀w,(isAgg t).run P w= .ok false w
 siz: ∀w,(sizeOf t).run P w= .ok 1 w
class jC (P:Program) (t:TypeId) (z:outParam Value):Prop where
 inf:(P.info? t).map (·.zero)=some (some z)
class qd (P:Program) (t:TypeId) (f:Nat) (off:outParam Nat):Prop where
 at_: ∀(b o:Nat) w,(Instr.fieldAt t (.pointer (some ⟨b,o,none⟩)) f).run P w= .ok (.pointer (some (Addr.add ⟨b,o,none⟩ off))) w
class cO (P:Program) (t:TypeId) (e s by_:outParam Nat):Prop where
 un:P.underlying t=some (.slice e)
 inf:(P.info? e).map (fun i=>(i.size,i.bytes))=some (s,by_)
def jC.info{P:Program}{t:TypeId}{z:Value}(h:jC P t z): ∃i,P.info? t=some i/\i.zero=some z:=by
 have:=h.inf
 cases hi:P.info? t with
 |none=>rw[hi] at this;cases this
 |some i=>rw[hi] at this;exact⟨i,J,by simpa using this⟩
def cO.info{P:Program}{t e s by_:Nat}(h:cO P t e s by_): ∃i,P.info? e=some i/\i.size=s/\i.bytes=by_:=by
 have:=h.inf
 cases hi:P.info? e with
 |none=>rw[hi] at this;cases this
 |some i=>rw[hi] at this;simp at this;exact⟨i,J,this.1,this.2⟩
def rH(b o n:Nat):Addr.add ⟨b,o,none⟩ n=⟨b,o+n,none⟩:=by
 unfold Addr.add;split
 .subst_vars;rfl
 .rfl
def Sem.run_bind{α β:Type}(P:Program)(x:Sem α)(f:α->Sem β): ∀(w:World),(x>>=f).run P w=match x.run P w with| .ok a w'=>(f a).run P w'| .halt h w'=> .halt h w':=by
 show∀w,(Sem.bind x f).run P w=_
 induction x with
 |pure a=>intro w;rfl
 |load m a k ih=>
  intro w;simp only[Sem.bind,Sem.run];split
  .exact ih _ w
  .split
   .exact ih _ w
   .rfl
 |store m a v k ih=>
  intro w
  cases v<;>simp only[Sem.bind,Sem.run]<;>(try rfl)<;>(split<;>first|(split<;>first|rfl|exact ih _)|rfl)
 |new o k ih=>intro w;exact ih _ _
 |shape r k ih=>intro w;exact ih _ _
 |freeze a n k ih=>intro w;exact ih _
 |frozen a k ih=>intro w;exact ih _ _
 |getObj r k ih=>
  intro w;simp only[Sem.bind,Sem.run];split
  .rfl
  .exact ih _ w
  .rfl
 |setObj r o k ih=>
  intro w;simp only[Sem.bind,Sem.run];split
  .rfl
  .exact ih _
  .rfl
 |choose q k ih=>
  intro w;simp only[Sem.bind,Sem.run];split
  .exact ih _ _
  .exact ih _ _
 |sys c k ih=>intro w;exact ih _ _
 |program k ih=>intro w;exact ih _ _
 |mark m k ih=>intro w;exact ih _
 |halt h=>intro w;rfl
def run_pure{α:Type}(P:Program)(a:α)(w:World):(pure a:Sem α).run P w= .ok a w:=rfl
def bc{α β:Type}{P:Program}{x:Sem α}{f:α->Sem β}{w w':World}{a:α}(h:x.run P w= .ok a w'):(x>>=f).run P w=(f a).run P w':=by
 rw[Sem.run_bind,h]
def jC.zero{P:Program}{t:TypeId}{z:Value}(h:jC P t z)(w:World):(zeroValue t).run P w= .ok z w:=by
 obtain⟨i,h1,h2⟩:=h.info;simp[zeroValue,typeInfo,program,Sem.run_bind,Sem.run,h1,h2,run_pure]
def cO.u{P:Program}{t e s by_:Nat}(h:cO P t e s by_)(w:World):(underlying t).run P w= .ok (.slice e) w:=by
 simp[underlying,program,Sem.run_bind,Sem.run,h.un,run_pure]
def cO.siz{P:Program}{t e s by_:Nat}(h:cO P t e s by_)(w:World):(sizeOf e).run P w= .ok s w:=by
 obtain⟨i,h1,h2,_⟩:=h.info;simp[sizeOf,typeInfo,program,Sem.run_bind,Sem.run,h1,h2,run_pure]
section
variable {P:Program} {C:aH} {n:Nat} {fr:Fr} {own:List az} {G:Gh} {ops:Array Oper} {Q:Exit->Act->World->Prop} {r:List Oper}
def Bo{w:World}{b:Nat}{cs:List Value}{ty:TypeId}{fz:Nat×Nat}(h:w.heap[b]? =some (.cells ⟨cs⟩ ty fz))(i:Nat):w.cell? ⟨b,i,none⟩=cs[i]? :=by
 simp[World.cell?,h]
def TR{w:World}{a:Addr}{v:Value}(h:w.cell? a=some v):(load a).run P w= .ok v w:=by
 simp[load,Sem.run,h]
def F0{w:World}{b off:Nat}{l:List Value}: ∀(m i:Nat) (acc:Array Value),(∀j,j<m->w.cell? ⟨b,off+(i+j),none⟩=l[i+j]?)->i+m<=l.length->
  (loadCellsFrom ⟨b,off,none⟩ i m acc).run P w= .ok (acc++((l.drop i).take m).toArray) w
 |0,i,acc,_,_=>by simp[loadCellsFrom,run_pure]
 |m+1,i,acc,h,hl=>by
  have h0:=h 0 we;rw[gW,aZ we] at h0;unfold loadCellsFrom;rw[bc (a:=l[i]) (w':=w) (by rw[rH];exact TR h0)];rw[F0 m (i+1) (acc.push l[i]) (fun j hj=>by have:=h (j+1) we;rw[show i+1+j=i+(j+1) by omega];exact this) we];congr 1;rw[bU (by omega:i<l.length),mT];apply Array.ext';simp
def GA{w:World}{b off k:Nat}{t:TypeId}{cs l:List Value}[ht:nf P t k]{ty:TypeId}{fz:Nat×Nat}(h:w.heap[b]? =some (.cells ⟨cs⟩ ty fz))(hl:dh cs off k=some l):
  (loadVar t ⟨b,off,none⟩).run P w= .ok (.agg ⟨l⟩) w:=by
 obtain⟨h1,h2⟩:=rA _ _ _ _ hl;unfold loadVar;rw[bc (ht.agg w)];simp only[if_true];rw[bc (ht.siz w)];unfold loadCells;rw[bc (F0 (l:=l) k 0 #[] (fun j hj=>by rw[Bo h];simpa using h2 j hj) we)];simp[run_pure,<-h1]
def JE{w:World}{b off:Nat}{t:TypeId}{cs:List Value}{v:Value}[ht:nF P t]{ty:TypeId}{fz:Nat×Nat}(h:w.heap[b]? =some (.cells ⟨cs⟩ ty fz))(hl:cs[off]? =some v):
  (loadVar t ⟨b,off,none⟩).run P w= .ok v w:=by
 unfold loadVar;rw[bc (ht.agg w)];simp only[fT,if_false];exact TR (by rw[Bo h];exact hl)
def dC{α:Type}{f:α->Next}{s:Sem α}{w w':World}{a:α}(h:s.run P w= .ok a w'):(do pure (f (<-s)):Sem Next).run P w= .ok (f a) w':=by
 rw[bc h];rfl
def Ag{dst:Option Nat}{t ty':TypeId}{pos:String}{af:Array Edge}{gd:Option (Nat×Bool)}{x:Operand}{b off k:Nat}{cs l:List Value}{lo:Bool}{ty:TypeId}
  (hx:aF fr x=some (.pointer (some ⟨b,off,none⟩)))[ho:jf own b cs ty lo][nf P t k](hl:dh cs off k=some l):
  Yd P C fr own G ⟨dst, .load t x,ty',pos,af,gd⟩ (.agg ⟨l⟩):=by
 intro a w hf hh;simp only[execOp,bu hf hx,Instr.loadAt,Instr.sureAddr];exact dC (GA (hh.hown _ ho.mem).1 hl)
def ue{dst:Option Nat}{t ty':TypeId}{pos:String}{af:Array Edge}{gd:Option (Nat×Bool)}{x:Operand}{b off:Nat}{cs:List Value}{v:Value}{lo:Bool}{ty:TypeId}
  (hx:aF fr x=some (.pointer (some ⟨b,off,none⟩)))[ho:jf own b cs ty lo][nF P t](hl:cs[off]? =some v):
  Yd P C fr own G ⟨dst, .load t x,ty',pos,af,gd⟩ v:=by
 intro a w hf hh;simp only[execOp,bu hf hx,Instr.loadAt,Instr.sureAddr];exact dC (JE (hh.hown _ ho.mem).1 hl)
def P2{dst:Option Nat}{t ty':TypeId}{pos:String}{af:Array Edge}{gd:Option (Nat×Bool)}{x:Operand}{b off k:Nat}{cs l:List Value}
  (hx:aF fr x=some (.pointer (some ⟨b,off,none⟩)))(hg:G b=some cs)[nf P t k](hl:dh cs off k=some l):
  Yd P C fr own G ⟨dst, .load t x,ty',pos,af,gd⟩ (.agg ⟨l⟩):=by
 intro a w hf hh;obtain⟨ty,fz,hb⟩:=hh.sub _ _ hg;simp only[execOp,bu hf hx,Instr.loadAt,Instr.sureAddr];exact dC (GA hb hl)
def VL{dst:Option Nat}{t ty':TypeId}{pos:String}{af:Array Edge}{gd:Option (Nat×Bool)}{x:Operand}{b off:Nat}{cs:List Value}{v:Value}
  (hx:aF fr x=some (.pointer (some ⟨b,off,none⟩)))(hg:G b=some cs)[nF P t](hl:cs[off]? =some v):
  Yd P C fr own G ⟨dst, .load t x,ty',pos,af,gd⟩ v:=by
 intro a w hf hh;obtain⟨ty,fz,hb⟩:=hh.sub _ _ hg;simp only[execOp,bu hf hx,Instr.loadAt,Instr.sureAddr];exact dC (JE hb hl)
variable {dst:Option Nat} {t t' ty':TypeId} {pos:String} {af:Array Edge} {gd:Option (Nat×Bool)} {x y:Operand}
def sH{v:Value}(hx:aF fr x=some v):Yd P C fr own G ⟨dst, .move x,ty',pos,af,gd⟩ v:=by
 intro a w hf hh;simp only[execOp,bu hf hx];rfl
def JR{v:Value}(hx:aF fr x=some v):Yd P C fr own G ⟨dst, .assign x,ty',pos,af,gd⟩ v:=by
 intro a w hf hh;simp only[execOp,bu hf hx];rfl
def Pu{z:Operand}{v:Value}(hc:aF fr z=some (.bool true))(hx:aF fr x=some v):Yd P C fr own G ⟨dst, .pick z x y,ty',pos,af,gd⟩ v:=by
 intro a w hf hh;simp only[execOp,bu hf hc,bu hf hx,asBool];rfl
def yL{z:Operand}{v:Value}(hc:aF fr z=some (.bool false))(hx:aF fr y=some v):Yd P C fr own G ⟨dst, .pick z x y,ty',pos,af,gd⟩ v:=by
 intro a w hf hh;simp only[execOp,bu hf hc,bu hf hx,asBool];rfl
def uI{ad:Addr}(hx:aF fr x=some (.pointer (some ad))):Yd P C fr own G ⟨dst, .nilCheck x,ty',pos,af,gd⟩ (.pointer (some ad)):=by
 intro a w hf hh;simp only[execOp,bu hf hx];rfl
def uN{b o f off:Nat}[hF:qd P t f off](hx:aF fr x=some (.pointer (some ⟨b,o,none⟩))):
  Yd P C fr own G ⟨dst, .fieldAddr t x f,ty',pos,af,gd⟩ (.pointer (some ⟨b,o+off,none⟩)):=by
 intro a w hf hh;simp only[execOp,bu hf hx];have:=hF.at_ b o w;rw[rH] at this;exact dC this
def Kw{vs:Array Value}{i:Nat}{v:Value}(hx:aF fr x=some (.tuple vs))(hv:vs[i]? =some v):Yd P C fr own G ⟨dst, .extract x i,ty',pos,af,gd⟩ v:=by
 intro a w hf hh;simp only[execOp,bu hf hx,Instr.extract,hv];rfl
def ari{fn:Fn}{c1 c2:Array Operand}{l1 l2:List Value}(h1:c1.toList.mapM (aF fr)=some l1)(h2:c2.toList.mapM (aF fr)=some l2):
  Yd P C fr own G ⟨dst, .makeFunc fn c1 c2,ty',pos,af,gd⟩ (.func fn ⟨l1⟩ ⟨l2⟩):=by
 intro a w hf hh;have key: ∀(l:List Operand) (m:List Value),l.mapM (aF fr)=some m->l.map a.eval=m:=by
  intro l
  induction l with
  |nil=>intro m h;simp at h;subst h;rfl
  |cons o t ih=>
   intro m h;rw[rV] at h
   cases ho:aF fr o with
   |none=>simp[ho] at h
   |some u=>
    cases ht:t.mapM (aF fr) with
    |none=>simp[ho,ht] at h
    |some m'=>
     simp[ho,ht] at h;subst h;simp[bu hf ho,ih _ ht]
 have e1:c1.map a.eval=⟨l1⟩:=by apply Array.ext';simpa using key _ _ h1
 have e2:c2.map a.eval=⟨l2⟩:=by apply Array.ext';simpa using key _ _ h2
 simp only[execOp,e1,e2];rfl
def mj{op:BinOp}{k:IntKind}{p q:Int}{v:Value}(hx:aF fr x=some (.int k p))(hy:aF fr y=some (.int k q))(hs: ∀w,(binOp op t (.int k p) (.int k q)).run P w= .ok v w):
  Yd P C fr own G ⟨dst, .binOp op t x y t',ty',pos,af,gd⟩ v:=by
 intro a w hf hh;simp only[execOp,bu hf hx,bu hf hy];have:(eqGuard op t x y (.int k p) (.int k q)).run P w= .ok () w:=by cases op<;>rfl
 exact dC (by rw[bc this];exact hs w)
def Y3(k:IntKind)(p q:Int)(w:World):(binOp .add t (.int k p) (.int k q)).run P w= .ok (.int k (k.wrap (p+q))) w:=by simp[binOp,Op.intArith,run_pure]
def Lz(k:IntKind)(p q:Int)(w:World):(binOp .sub t (.int k p) (.int k q)).run P w= .ok (.int k (k.wrap (p-q))) w:=by simp[binOp,Op.intArith,run_pure]
def awo(k:IntKind)(p q:Int)(w:World):(binOp .mul t (.int k p) (.int k q)).run P w= .ok (.int k (k.wrap (p*q))) w:=by simp[binOp,Op.intArith,run_pure]
def avW(k:IntKind)(p q:Int)(w:World)(h:q≠0):(binOp .quo t (.int k p) (.int k q)).run P w= .ok (.int k (k.wrap (p.tdiv q))) w:=by simp[binOp,Op.intDiv,run_pure,h]
def Y6(k:IntKind)(p q:Int)(w:World)(h:q≠0):(binOp .rem t (.int k p) (.int k q)).run P w= .ok (.int k (p.tmod q)) w:=by simp[binOp,Op.intDiv,run_pure,h]
def VQ(k:IntKind)(p q:Int)(w:World):(binOp .lss t (.int k p) (.int k q)).run P w= .ok (.bool (decide (p<q))) w:=by simp[binOp,Op.intCmp,run_pure]
def aya(k:IntKind)(p q:Int)(w:World):(binOp .leq t (.int k p) (.int k q)).run P w= .ok (.bool (decide (p<=q))) w:=by simp[binOp,Op.intCmp,run_pure]
def V4(k:IntKind)(p q:Int)(w:World):(binOp .gtr t (.int k p) (.int k q)).run P w= .ok (.bool (decide (q<p))) w:=by simp[binOp,Op.intCmp,run_pure]
def aw6(k:IntKind)(p q:Int)(w:World):(binOp .geq t (.int k p) (.int k q)).run P w= .ok (.bool (decide (q<=p))) w:=by simp[binOp,Op.intCmp,run_pure]
def X5(k:IntKind)(p q:Int)(w:World):(binOp .eql t (.int k p) (.int k q)).run P w= .ok (.bool (decide (p=q))) w:=by
 have:(p==q)=decide (p=q):=by rw[Bool.eq_iff_iff];simp
 simp[binOp,Op.intCmp,run_pure,this]
def ZR(k:IntKind)(p q:Int)(w:World):(binOp .neq t (.int k p) (.int k q)).run P w= .ok (.bool (decide (p≠q))) w:=by
 have:(p !=q)=decide (p≠q):=by rw[Bool.eq_iff_iff];simp
 simp[binOp,Op.intCmp,run_pure,this]
def ud{k:IntKind}{p:Int}(h:k.min<=p/\p<=k.max):k.wrap p=p:=by
 cases k<;>simp only[IntKind.min,IntKind.max,IntKind.wrap,IntKind.bits,IntKind.signed] at* <;>simp at h⊢ <;>(try split)<;>omega
def Tn{k:IntKind}{p q:Int}(hx:aF fr x=some (.int k p))(hy:aF fr y=some (.int k q))(h:k.min<=p+q/\p+q<=k.max):Yd P C fr own G ⟨dst, .binOp .add t x y t',ty',pos,af,gd⟩ (.int k (p+q)):=
 mj hx hy fun w=>by rw[Y3,ud h]
def UN{k:IntKind}{p q:Int}(hx:aF fr x=some (.int k p))(hy:aF fr y=some (.int k q))(h:k.min<=p-q/\p-q<=k.max):Yd P C fr own G ⟨dst, .binOp .sub t x y t',ty',pos,af,gd⟩ (.int k (p-q)):=
 mj hx hy fun w=>by rw[Lz,ud h]
def aHY{k:IntKind}{p q:Int}(hx:aF fr x=some (.int k p))(hy:aF fr y=some (.int k q))(h:k.min<=p*q/\p*q<=k.max):Yd P C fr own G ⟨dst, .binOp .mul t x y t',ty',pos,af,gd⟩ (.int k (p*q)):=
 mj hx hy fun w=>by rw[awo,ud h]
def aEo{k:IntKind}{p q:Int}(hx:aF fr x=some (.int k p))(hy:aF fr y=some (.int k q)):Yd P C fr own G ⟨dst, .binOp .sub t x y t',ty',pos,af,gd⟩ (.int k (k.wrap (p-q))):=mj hx hy fun w=>Lz k p q w
def K9{k:IntKind}{p q:Int}(hx:aF fr x=some (.int k p))(hy:aF fr y=some (.int k q))(h:q≠0):Yd P C fr own G ⟨dst, .binOp .quo t x y t',ty',pos,af,gd⟩ (.int k (k.wrap (p.tdiv q))):=mj hx hy fun w=>avW k p q w h
def Ue{k:IntKind}{p q:Int}(hx:aF fr x=some (.int k p))(hy:aF fr y=some (.int k q))(h:q≠0):Yd P C fr own G ⟨dst, .binOp .rem t x y t',ty',pos,af,gd⟩ (.int k (p.tmod q)):=mj hx hy fun w=>Y6 k p q w h
def Ti{k:IntKind}{p q:Int}(hx:aF fr x=some (.int k p))(hy:aF fr y=some (.int k q)):Yd P C fr own G ⟨dst, .binOp .lss t x y t',ty',pos,af,gd⟩ (.bool (decide (p<q))):=mj hx hy fun w=>VQ k p q w
def Vk{k:IntKind}{p q:Int}(hx:aF fr x=some (.int k p))(hy:aF fr y=some (.int k q)):Yd P C fr own G ⟨dst, .binOp .leq t x y t',ty',pos,af,gd⟩ (.bool (decide (p<=q))):=mj hx hy fun w=>aya k p q w
def F7{k:IntKind}{p q:Int}(hx:aF fr x=some (.int k p))(hy:aF fr y=some (.int k q)):Yd P C fr own G ⟨dst, .binOp .gtr t x y t',ty',pos,af,gd⟩ (.bool (decide (q<p))):=mj hx hy fun w=>V4 k p q w
def N0{k:IntKind}{p q:Int}(hx:aF fr x=some (.int k p))(hy:aF fr y=some (.int k q)):Yd P C fr own G ⟨dst, .binOp .geq t x y t',ty',pos,af,gd⟩ (.bool (decide (q<=p))):=mj hx hy fun w=>aw6 k p q w
def tu{k:IntKind}{p q:Int}(hx:aF fr x=some (.int k p))(hy:aF fr y=some (.int k q)):Yd P C fr own G ⟨dst, .binOp .eql t x y t',ty',pos,af,gd⟩ (.bool (decide (p=q))):=mj hx hy fun w=>X5 k p q w
def Rs{k:IntKind}{p q:Int}(hx:aF fr x=some (.int k p))(hy:aF fr y=some (.int k q)):Yd P C fr own G ⟨dst, .binOp .neq t x y t',ty',pos,af,gd⟩ (.bool (decide (p≠q))):=mj hx hy fun w=>ZR k p q w
variable {e s by_:Nat}
def vZ[hT:cO P t e s by_]{ad:Option Addr}{len cap:Nat}(hx:aF fr x=some (.slice ad len cap)):
  Yd P C fr own G ⟨dst, .call ⟨.builtin .len, #[x], #[t]⟩,ty',pos,af,gd⟩ (.int .i64 len):=by
 intro a w hf hh;simp only[execOp,resolve,iW,cJ,kR,bu hf hx];have h1:(Builtin.len_ #[t] ty' #[.slice ad len cap]).run P w= .ok (.int .i64 len) w:=by
  simp only[Builtin.len_];show(underlying t>>=_).run P w=_;rw[bc (hT.u w)];rfl
 exact dC h1
def Af[hT:cO P t e s by_]{k:IntKind}{b off len cap:Nat}{i:Int}(hx:aF fr x=some (.slice (some ⟨b,off,none⟩) len cap))(hy:aF fr y=some (.int k i))(h0:0<=i)(h1:i<len):
  Yd P C fr own G ⟨dst, .indexAddr t x y,ty',pos,af,gd⟩ (.pointer (some ⟨b,off+i.toNat*s,none⟩)):=by
 intro a w hf hh;simp only[execOp,bu hf hx,bu hf hy];have:(Instr.indexAt t (.slice (some ⟨b,off,none⟩) len cap) (.int k i)).run P w= .ok (.pointer (some ⟨b,off+i.toNat*s,none⟩)) w:=by
  unfold Instr.indexAt;show(underlying t>>=_).run P w=_;rw[bc (hT.u w)];show(underlying t>>=_).run P w=_;rw[bc (hT.u w)];simp only[h0,h1,and_self,if_true];show(sizeOf e>>=_).run P w=_;rw[bc (hT.siz w),rH];rfl
 exact dC this
def yH{k:IntKind}{v:Int}{m:Nat}{c:BoundsCode}(w:World)(h0:0<=v)(h1:v<=m):(Instr.sliceBound (.int k v) m c).run P w= .ok v.toNat w:=by
 unfold Instr.sliceBound;simp[asIntOf,h0,h1,run_pure]
def nP(ad:Option Addr)(len cap lo hi mx s:Nat):Value:= .slice (if mx=lo then ad else ad.map (·.add (lo*s))) (hi-lo) (mx-lo)
def BW[hT:cO P t e s by_]{ad:Option Addr}{len cap:Nat}(w:World){lo hi mx:Option Value}{l h m:Nat}(hb: ∀w,(Instr.sliceBounds true len cap lo hi mx).run P w= .ok (l,h,m) w):
  (Instr.sliceAt t (.slice ad len cap) lo hi mx).run P w= .ok (nP ad len cap l h m s) w:=by
 unfold Instr.sliceAt;rw[bc (hT.u w)];show(Instr.slice t (.slice ad len cap) lo hi mx).run P w=_;unfold Instr.slice;rw[bc (hT.u w)];show(Instr.sliceBounds true len cap lo hi mx>>=_).run P w=_;rw[bc (hb w)];show(sizeOf e>>=_).run P w=_;rw[bc (hT.siz w)];rfl
def JN[hT:cO P t e s by_]{k:IntKind}{ad:Option Addr}{len cap:Nat}{h:Int}(hx:aF fr x=some (.slice ad len cap))(hy:aF fr y=some (.int k h))(h0:0<=h:=by omega)(h1:h<=cap:=by omega):
  Yd P C fr own G ⟨dst, .slice t x none (some y) none,ty',pos,af,gd⟩ (.slice ad h.toNat cap):=by
 intro a w hf hh;simp only[execOp,bu hf hx,bu hf hy,qL,jN];have:=BW (P:=P) (t:=t) (ad:=ad) (len:=len) (cap:=cap) w (lo:=none) (hi:=some (.int k h)) (mx:=none) (l:=0) (h:=h.toNat) (m:=cap) (fun w=>by
  simp[Instr.sliceBounds,yH w h0 h1,Result.andThen])
 have e2:nP ad len cap 0 h.toNat cap s= .slice ad h.toNat cap:=by
  unfold nP
  cases ad with
  |none=>simp
  |some ad=>simp[Addr.add]
 rw[<-e2];exact dC this
def EH[hT:cO P t e s by_]{k:IntKind}{ad:Option Addr}{len cap:Nat}{l:Int}(hx:aF fr x=some (.slice ad len cap))(hy:aF fr y=some (.int k l))(h0:0<=l:=by omega)(h1:l<=len:=by omega):
  Yd P C fr own G ⟨dst, .slice t x (some y) none none,ty',pos,af,gd⟩ (nP ad len cap l.toNat len cap s):=by
 intro a w hf hh;simp only[execOp,bu hf hx,bu hf hy,qL,jN];exact dC (BW (P:=P) (t:=t) (ad:=ad) (len:=len) (cap:=cap) w (lo:=some (.int k l)) (hi:=none) (mx:=none) (fun w=>by
  simp[Instr.sliceBounds,yH w h0 h1,Result.andThen]))
def Vu[hT:cO P t e s by_]{k k':IntKind}{ad:Option Addr}{len cap:Nat}{l h:Int}{z:Operand}(hx:aF fr x=some (.slice ad len cap))(hy:aF fr y=some (.int k l))(hz:aF fr z=some (.int k' h))(h0:0<=l)(h1:l<=h)(h2:h<=cap):
  Yd P C fr own G ⟨dst, .slice t x (some y) (some z) none,ty',pos,af,gd⟩ (nP ad len cap l.toNat h.toNat cap s):=by
 intro a w hf hh;simp only[execOp,bu hf hx,bu hf hy,bu hf hz,qL,jN];exact dC (BW (P:=P) (t:=t) (ad:=ad) (len:=len) (cap:=cap) w (lo:=some (.int k l)) (hi:=some (.int k' h)) (mx:=none) (fun w=>by
  have h1':l<=(h.toNat:Int):=by omega
  simp[Instr.sliceBounds,yH w (Int.le_trans h0 h1) h2,yH w h0 h1',Result.andThen]))
def auk[hT:cO P t e s by_]{k k':IntKind}{ad:Option Addr}{len cap:Nat}{h m:Int}{z:Operand}(hx:aF fr x=some (.slice ad len cap))(hy:aF fr y=some (.int k h))(hz:aF fr z=some (.int k' m))(h0:0<=h)(h1:h<=m)(h2:m<=cap):
  Yd P C fr own G ⟨dst, .slice t x none (some y) (some z),ty',pos,af,gd⟩ (.slice ad h.toNat m.toNat):=by
 intro a w hf hh;simp only[execOp,bu hf hx,bu hf hy,bu hf hz,qL,jN];have:=BW (P:=P) (t:=t) (ad:=ad) (len:=len) (cap:=cap) w (lo:=none) (hi:=some (.int k h)) (mx:=some (.int k' m)) (l:=0) (h:=h.toNat) (m:=m.toNat) (fun w=>by
  have h1':h<=(m.toNat:Int):=by omega
  simp[Instr.sliceBounds,yH w (Int.le_trans h0 h1) h2,yH w h0 h1',Result.andThen])
 have e2:nP ad len cap 0 h.toNat m.toNat s= .slice ad h.toNat m.toNat:=by
  unfold nP
  cases ad with
  |none=>simp
  |some ad=>simp[Addr.add]
 rw[<-e2];exact dC this
class xF (P:Program) (t:TypeId) (k:outParam IntKind):Prop where u: ∀w,(underlying t).run P w= .ok (.int k) w
def Ff{k k':IntKind}{p:Int}[hs:xF P t k][hd:xF P t' k'](hx:aF fr x=some (.int k p)):Yd P C fr own G ⟨dst, .convert t t' x,ty',pos,af,gd⟩ (.int k' (k'.wrap p)):=by
 intro a w hf hh;simp only[execOp,bu hf hx];have:(convert t t' (.int k p)).run P w= .ok (.int k' (k'.wrap p)) w:=by
  unfold convert;rw[bc (hs.u w),bc (hd.u w)];rfl
 exact dC this
def azX{k k':IntKind}{p:Int}[hs:xF P t k][hd:xF P t' k'](hx:aF fr x=some (.int k p))(h:k'.min<=p/\p<=k'.max):Yd P C fr own G ⟨dst, .convert t t' x,ty',pos,af,gd⟩ (.int k' p):=by
 have:=Ff (P:=P) (C:=C) (own:=own) (G:=G) (dst:=dst) (ty':=ty') (pos:=pos) (af:=af) (gd:=gd) (t:=t) (t':=t') hx;rwa [ud h] at this
def HE{b:Bool}(hx:aF fr x=some (.bool b)):Yd P C fr own G ⟨dst, .unOp .not t x,ty',pos,af,gd⟩ (.bool (!b)):=by
 intro a w hf hh;simp only[execOp,bu hf hx,Op.unary];rfl
def IK{k:IntKind}{p:Int}(hx:aF fr x=some (.int k p)):Yd P C fr own G ⟨dst, .unOp .neg t x,ty',pos,af,gd⟩ (.int k (k.wrap (0-p))):=by
 intro a w hf hh;simp only[execOp,bu hf hx,Op.unary,Op.intArith];rfl
end
def i5{w:World}{b:Nat}{o:Obj}(h:w.heap[b]? =some o):b<w.heap.size:=by
 rcases jX b w.heap.size with h'|h'
 .exact h'
 .simp[mM h'] at h
def bC.gnone{C:aH}{own:List az}{G:Gh}{w:World}(h:bC C own G w){b:Nat}(hb:w.heap.size<=b):G b=none:=by
 cases hG:G b with
 |none=>rfl
 |some cs=>
  obtain⟨ty,fz,hc⟩:=h.sub b cs hG;have:=i5 hc;omega
def bC.alloc{C:aH}{own:List az}{G:Gh}{w:World}(h:bC C own G w)(cs:List Value)(ty:TypeId):
  bC C (⟨w.heap.size,cs,ty,true⟩::own) G (w.alloc (.cells ⟨cs⟩ ty)):=by
 have old: ∀b,b<w.heap.size->(w.alloc (.cells ⟨cs⟩ ty)).heap[b]? =w.heap[b]? :=fun b hb=>RowKit.Below.heap_alloc _ _ _ hb;refine⟨h.os,h.tape,h.output,?_,?_,?_,h.gle,h.gold,?_,?_,h.dr,fun p hp=>⟨(h.ext p hp).1,by rw[old _ (i5 (h.ext p hp).2)];exact(h.ext p hp).2⟩⟩
 .have:=h.size;simp;omega
 .intro b hb hm;rw[old b (by have:=h.size;omega)];exact h.keep b hb hm
 .intro b cs' hb
  obtain⟨ty',fz,hc⟩:=h.sub b cs' hb;exact⟨ty',fz,by rw[old b (i5 hc)];exact hc⟩
 .intro o ho
  rcases aW.1 ho with rfl|ho
  .refine⟨by show(w.heap.push _)[w.heap.size]? =_;simp,h.gnone (bV _),fun _=>h.size,fun e=>by cases e⟩
  .obtain⟨h1,h2⟩:=h.hown o ho
   exact⟨by rw[old _ (i5 h1)];exact h1,h2⟩
 .refine List.Pairwise.cons ?_ h.nd
  intro o ho;have:=i5 (h.hown o ho).1;show w.heap.size≠o.b;omega
def io(w:World)(b:Nat)(o:Obj):World:={w with heap:=w.heap.setIfInBounds b o}
def Ey{l:List az}:l.Pairwise (fun x y=>x.b≠y.b)↔(l.map (·.b)).Pairwise (· ≠ ·):=by rw[nR]
def i7.spec{own own':List az}{b:Nat}{cs cs':List Value}{ty:TypeId}{lo:Bool}(h:i7 own b cs ty lo cs' own')(nd:own.Pairwise (fun x y=>x.b≠y.b)):
  ⟨b,cs,ty,lo⟩∈own/\(∀o,o∈own'->o=⟨b,cs',ty,lo⟩\/(o∈own/\o.b≠b))/\own'.map (·.b)=own.map (·.b):=by
 induction h with
 |hd b cs cs' ty lo t=>
  refine⟨aQ,fun o ho=>?_,J⟩;rcases aW.1 ho with rfl|h
  .exact .inl J
  .exact .inr ⟨aX _ h,Ne.symm ((bM.1 nd).1 _ h)⟩
 |tl o t t' b cs cs' ty lo h ih=>
  obtain⟨h1,h2,h3⟩:=ih (bM.1 nd).2;refine⟨aX _ h1,fun x hx=>?_,by simp[h3]⟩;rcases aW.1 hx with rfl|hx
  .exact .inr ⟨aQ,(bM.1 nd).1 _ h1⟩
  .exact(h2 x hx).imp id (fun k=>⟨aX _ k.1,k.2⟩)
def ES{w:World}{b k:Nat}{o:Obj}(hk:k≠b):(io w b o).heap[k]? =w.heap[k]? :=by
 simp only[io];rw[fQ];simp[Ne.symm hk]
def NA{w:World}{b:Nat}{o:Obj}(hb:b<w.heap.size):(io w b o).heap[b]? =some o:=by
 simp only[io];rw[fQ];simp[hb]
def bC.extNe{C:aH}{own:List az}{G:Gh}{w:World}(h:bC C own G w){p:Nat×Obj}(hp:p∈C.ex){b:Nat}{cs:Array Value}{ty:TypeId}{z:Nat×Nat}(hb:w.heap[b]? =some (.cells cs ty z)):p.1≠b:=fun e=>by
 obtain⟨h1,h2⟩:=h.ext p hp;rw[e,hb] at h2;exact h1 _ _ _ (Option.some.inj h2).symm
def bC.extM{C:aH}{M rest:List az}{G:Gh}{w:World}(h:bC C (M++rest) G w){p:Nat×Obj}(hp:p∈C.ex):p.1∉M.map (·.b):=fun hm=>by
 obtain⟨m,hm,e⟩:=aS.1 hm;exact h.extNe hp (h.hown m (bK _ hm)).1 e.symm
def bC.store{C:aH}{own own':List az}{G:Gh}{w:World}{b:Nat}{cs cs':List Value}{ty:TypeId}{lo:Bool}(h:bC C own G w)(hu:i7 own b cs ty lo cs' own'):
  bC C own' G (io w b (.cells ⟨cs'⟩ ty (0,0))):=by
 obtain⟨h1,h2,h3⟩:=hu.spec h.nd;obtain⟨hb,hGb,hlo1,hlo2⟩:=h.hown _ h1;have hlt:=i5 hb;refine⟨h.os,h.tape,h.output,by simpa[io] using h.size,?_,?_,h.gle,h.gold,?_,Ey.2 (h3▸Ey.1 h.nd),h.dr,fun p hp=>⟨(h.ext p hp).1,by rw[ES (h.extNe hp hb)];exact(h.ext p hp).2⟩⟩
 .intro k hk hm
  by_cases hkb:k=b
  .subst hkb
   cases hlo:lo with
   |true=>have h5:=hlo1 hlo;simp only[] at h5;omega
   |false=>exact absurd (hlo2 hlo) hm
  .rw[ES hkb];exact h.keep k hk hm
 .intro k cs1 hk
  obtain⟨ty',fz,hc⟩:=h.sub k cs1 hk;have:k≠b:=fun e=>by subst e;rw[show G k=none from hGb] at hk;cases hk
  exact⟨ty',fz,by rw[ES this];exact hc⟩
 .intro o ho
  rcases h2 o ho with rfl|⟨ho',hne⟩
  .exact⟨NA hlt,hGb,hlo1,hlo2⟩
  .obtain⟨k1,k2⟩:=h.hown o ho'
   exact⟨by rw[ES hne];exact k1,k2⟩
def kI.spec{own own':List az}{o:az}(h:kI own o own')(nd:own.Pairwise (fun x y=>x.b≠y.b)):
  o∈own/\(∀x,x∈own'->x∈own/\x.b≠o.b)/\own'.Pairwise (fun x y=>x.b≠y.b):=by
 induction h with
 |hd o t=>exact⟨aQ,fun x hx=>⟨aX _ hx,Ne.symm ((bM.1 nd).1 _ hx)⟩,(bM.1 nd).2⟩
 |tl y t t' o h ih=>
  obtain⟨h1,h2,h3⟩:=ih (bM.1 nd).2;refine⟨aX _ h1,fun x hx=>?_,List.Pairwise.cons (fun x hx=>(bM.1 nd).1 _ (h2 x hx).1) h3⟩;rcases aW.1 hx with rfl|hx
  .exact⟨aQ,(bM.1 nd).1 _ h1⟩
  .exact⟨aX _ (h2 x hx).1,(h2 x hx).2⟩
def bC.freeze{C:aH}{own own':List az}{G:Gh}{w:World}{b:Nat}{cs:List Value}{ty:TypeId}(h:bC C own G w)(hr:kI own ⟨b,cs,ty,true⟩ own'):
  bC C own' (fun k=>if k=b then some cs else G k) w/\cc G (fun k=>if k=b then some cs else G k):=by
 obtain⟨h1,h2,h3⟩:=hr.spec h.nd;obtain⟨hb,hGb,hlo,_⟩:=h.hown _ h1;have hle:cc G (fun k=>if k=b then some cs else G k):=fun k c hk=>by
  have:k≠b:=fun e=>by subst e;rw[show G k=none from hGb] at hk;cases hk
  simp[this,hk]
 refine⟨⟨h.os,h.tape,h.output,h.size,h.keep,?_,h.gle.trans hle,?_,?_,h3,h.dr,h.ext⟩,hle⟩
 .intro k c hk
  by_cases e:k=b
  .subst e;simp only[if_true] at hk;cases hk;exact⟨ty,(0,0),hb⟩
  .simp only[e,if_false] at hk;exact h.sub k c hk
 .intro k hk
  have h5:C.w0.heap.size<=b:=hlo J;have:k≠b:=by omega
  simp only[this,if_false];exact h.gold k hk
 .intro o ho
  obtain⟨k1,k2⟩:=h2 o ho;obtain⟨m1,m2,m3⟩:=h.hown o k1;exact⟨m1,by rw[if_neg k2];exact m2,m3⟩
def bC.drop{C:aH}{own own':List az}{G:Gh}{w:World}(h:bC C own G w)(hs:own'.Sublist own):bC C own' G w:=
 ⟨h.os,h.tape,h.output,h.size,h.keep,h.sub,h.gle,h.gold,fun o ho=>h.hown o (hs.subset ho),h.nd.sublist hs,h.dr,h.ext⟩
def bC.perm{C:aH}{own own':List az}{G:Gh}{w:World}(h:bC C own G w)(hs:own.Perm own'):bC C own' G w:=
 ⟨h.os,h.tape,h.output,h.size,h.keep,h.sub,h.gle,h.gold,fun o ho=>h.hown o (hs.mem_iff.2 ho),(hs.pairwise_iff (fun h=>Ne.symm h)).1 h.nd,h.dr,h.ext⟩
def bC.drew{C:aH}{own:List az}{G:Gh}{w:World}(h:bC C own G w):bC C own G {w with drawn:=w.drawn+1}:=
 ⟨h.os,h.tape,h.output,h.size,h.keep,h.sub,h.gle,h.gold,h.hown,h.nd,Nat.le_succ_of_le h.dr,h.ext⟩
def ta(P:Program)(f:FuncId):Prop:= ∃fn,P.funcs[f]? =some fn/\(fn.name== "runtime.NumGoroutine")=false/\fn.body.isNone=false
def l6(M:List az)(css:List (List Value)):List az:=(M.zip css).map fun p=>{p.1 with cs:=p.2}
def asB(M:List az):List az:=M.map fun o=>{o with lo:=false}
structure Fn (P:Program) (f:FuncId) (vs:List Value) (G:Gh) (K:Value->Gh->Prop):Prop where
 able:ta P f
 run: ∀w,(∀b cs,G b=some cs-> ∃ty fz,w.heap[b]? =some (.cells ⟨cs⟩ ty fz))->
  Calls P f ⟨vs⟩ w fun e w'=> ∃v G',e= .returned v/\bC ⟨w,G,[],[],[],none,fun _=>none⟩ [] G' w'/\K v G'
structure nv (P:Program) (f:FuncId) (vs:List Value) (M:List az) (G:Gh) (K:Value->List (List Value)->Gh->Prop):Prop where
 able:ta P f
 run: ∀w,bC ⟨w,G,M.map (·.b),[],[],none,fun _=>none⟩ (asB M) G w->
  Calls P f ⟨vs⟩ w fun e w'=> ∃v css G',e= .returned v/\css.length=M.length/\bC ⟨w,G,M.map (·.b),[],[],none,fun _=>none⟩ (l6 (asB M) css) G' w'/\K v css G'
def Fn.mono{P:Program}{f:FuncId}{vs:List Value}{G:Gh}{K K':Value->Gh->Prop}(h:Fn P f vs G K)(hk: ∀v G',cc G G'->K v G'->K' v G'):Fn P f vs G K':=
 ⟨h.able,fun w hw=>(h.run w hw).mono fun _ _ ⟨v,G',he,hh,hK⟩=>⟨v,G',he,hh,hk v G' hh.gle hK⟩⟩
theorem omI{p:Prop}(h:p:=by show b<w.heap.size;omega):p:=h
def bC.called{C:aH}{own:List az}{G G':Gh}{w w':World}(h:bC C own G w)(k:bC ⟨w,G,[],[],[],none,fun _=>none⟩ [] G' w'):bC C own G' w':=by
 have same: ∀b o,w.heap[b]? =some o->w'.heap[b]? =some o:=fun b o hb=>by rw[k.keep b (i5 hb) omc];exact hb
 have hsz:w.heap.size<=w'.heap.size:=k.size;refine⟨k.os.trans h.os,k.tape.trans h.tape,k.output.trans h.output,dJ h.size hsz,?_,k.sub,h.gle.trans k.gle,?_,?_,h.nd,dJ h.dr k.dr,fun p hp=>⟨(h.ext p hp).1,same _ _ (h.ext p hp).2⟩⟩
 .intro b hb hm;have:=h.size;rw[k.keep b omI omc];exact h.keep b hb hm
 .intro b hb;have:=h.size;rw[k.gold b omI];exact h.gold b hb
 .intro o ho
  obtain⟨h1,h2,h3⟩:=h.hown o ho;exact⟨same _ _ h1,by rw[k.gold _ (i5 h1)];exact h2,h3⟩
def aER(M:List az)(css:List (List Value))(h:css.length=M.length):(l6 M css).map (·.b)=M.map (·.b):=by
 induction M generalizing css with
 |nil=>simp[l6]
 |cons o M ih=>
  cases css with
  |nil=>simp at h
  |cons c css=>simp only[bZ,Nat.add_right_cancel_iff] at h;simpa[l6] using ih css h
def Wf{M:List az}{css:List (List Value)}{o:az}(ho:o∈l6 M css): ∃c∈css,∃m∈M,o={m with cs:=c}/\{m with cs:=c,lo:=false}∈l6 (asB M) css:=by
 induction M generalizing css with
 |nil=>simp[l6] at ho
 |cons x M ih=>
  cases css with
  |nil=>simp[l6] at ho
  |cons c css=>
   simp only[l6,List.zip_cons_cons,cJ,aW] at ho;rcases ho with rfl|ho
   .exact⟨c,aQ,x,aQ,J,by simp[l6,asB]⟩
   .obtain⟨c',hc',m,hm,e,hh⟩:=ih ho
    refine⟨c',aX _ hc',m,aX _ hm,e,?_⟩;simp only[l6,asB,cJ,List.zip_cons_cons,aW];exact .inr hh
def bC.lend{C:aH}{M rest:List az}{G:Gh}{w:World}(h:bC C (M++rest) G w):bC ⟨w,G,M.map (·.b),[],[],none,fun _=>none⟩ (asB M) G w:=by
 refine⟨J,J,J,bV _,fun _ _ _=>J,h.sub,cc.refl _,fun _ _=>J,?_,?_,bV _,fun p hp=>by cases hp⟩
 .intro o ho
  obtain⟨m,hm,rfl⟩:=aS.1 ho;obtain⟨h1,h2,_⟩:=h.hown m (bK _ hm);exact⟨h1,h2,omc,fun _=>aS.2 ⟨m,hm,J⟩⟩
 .have:=(gK.1 h.nd).1
  unfold asB;rw[nR];exact this
def bC.calledM{C:aH}{M rest:List az}{G G':Gh}{w w':World}{css:List (List Value)}(h:bC C (M++rest) G w)(hl:css.length=M.length)(k:bC ⟨w,G,M.map (·.b),[],[],none,fun _=>none⟩ (l6 (asB M) css) G' w'):
  bC C (l6 M css++rest) G' w':=by
 have hsz:w.heap.size<=w'.heap.size:=k.size;have hnd:=h.nd;have inM: ∀b,b∈M.map (·.b)-> ∀o∈rest,o.b≠b:=fun b hb o ho e=>by
  obtain⟨m,hm,rfl⟩:=aS.1 hb;exact(gK.1 hnd).2.2 m hm o ho e.symm
 refine⟨k.os.trans h.os,k.tape.trans h.tape,k.output.trans h.output,dJ h.size hsz,?_,k.sub,h.gle.trans k.gle,?_,?_,?_,dJ h.dr k.dr,fun p hp=>⟨(h.ext p hp).1,by rw[k.keep _ (i5 (h.ext p hp).2) (h.extM hp)];exact(h.ext p hp).2⟩⟩
 .intro b hb hm
  have hs:=h.size;have hnM:b∉M.map (·.b):=fun hb'=>by
   obtain⟨m,hmM,rfl⟩:=aS.1 hb';obtain⟨_,_,h3,h4⟩:=h.hown m (bK _ hmM)
   cases hlo:m.lo with
   |true=>have:=h3 hlo;omega
   |false=>exact hm (h4 hlo)
  rw[k.keep b omI hnM];exact h.keep b hb hm
 .intro b hb;have:=h.size;rw[k.gold b omI];exact h.gold b hb
 .intro o ho
  rcases bJ.1 ho with ho|ho
  .obtain⟨c,hc,m,hm,rfl,hmem⟩:=Wf ho
   obtain⟨k1,k2,_⟩:=k.hown _ hmem;obtain⟨_,_,h3⟩:=h.hown m (bK _ hm);exact⟨k1,k2,h3⟩
  .obtain⟨h1,h2,h3⟩:=h.hown o (bW _ ho)
   have hnM:o.b∉M.map (·.b):=fun hb=>inM _ hb o ho J;exact⟨by rw[k.keep _ (i5 h1) hnM];exact h1,by rw[k.gold _ (i5 h1)];exact h2,h3⟩
 .rw[Ey,bL,aER _ _ hl,<-bL,<-Ey];exact hnd
def nb{a b:Nat}(h:Nat.ble a b=true):a<=b:=Nat.le_of_ble_eq_true h
def sR{P:Program}{C:aH}{n:Nat}{fr:Fr}{own:List az}{G:Gh}{Q:Exit->Act->World->Prop}{id:Nat}{ops:Array Oper}{y:Code}(h:St C n fr own G (e7 P ops (Exit.then (y.wp P Q) Q) ops.toList)):St C n fr own G ((Code.seq (Code.region id ops false) y).wp P Q):=mG (WS h)
end Go.Sx
end
section
namespace Go.Sx
open Go
def aP:Value->List Value
 | .agg ⟨l⟩=>l
 |v=>[v]
def ry(v:Value):v.cells=⟨aP v⟩:=by
 cases v<;>first|rfl|(rename_i a;cases a;rfl)
def flat:Value->Bool
 | .agg _=>false
 | .tuple _=>false
 |_=>true
def gH(fr:Fr):List Operand->Option (List Value)
 |[]=>some []
 |x::t=>match aF fr x,gH fr t with
  |some v,some l=>some (v::l)
  |_,_=>none
def Eu{fr:Fr}{a:Act}(h:ng fr a): ∀{l:List Operand} {vs:List Value},gH fr l=some vs->l.map a.eval=vs
 |[],vs,e=>by simp[gH] at e;subst e;rfl
 |x::t,vs,e=>by
  simp only[gH] at e;split at e
  .rename_i v l hv hl
   cases e
   simp[bu h hv,Eu h hl]
  .cases e
section
variable {P:Program} {C:aH} {n:Nat} {fr:Fr} {own own':List az} {G:Gh} {ops:Array Oper} {Q:Exit->Act->World->Prop} {r:List Oper}
variable {dst:Option Nat} {t t' ty':TypeId} {pos:String} {af:Array Edge} {x y:Operand}
def Ch(P:Program)(C:aH)(n:Nat)(fr:Fr)(own:List az)(G:Gh)(o:Oper)(Φ:Act->World->Prop):Prop:=
 ∀(a:Act) (w:World) (Q:Exit->Act->World->Prop),jg C n fr own G a w->o.wp P a w Φ Q
def Y2{o:Oper}(hg:o.guard=none)(hc:Ch P C n fr own G o (e7 P ops Q r)):St C n fr own G (e7 P ops Q (o::r)):=by
 intro a w rl;simp only[e7,Region.wanted,hg,if_true];exact hc a w _ rl
variable {Φ:Act->World->Prop} {gd:Option (Nat×Bool)}
def Ms{w:World}{ty:TypeId}{v:Value}:(newVar ty v).run P w= .ok ⟨w.heap.size,0,none⟩ (w.alloc (.cells ⟨aP v⟩ ty)):=by
 unfold newVar newRow;rw[ry];rfl
def ly{o:Oper}{v:Value}{w':World}{a:Act}{w:World}{Φ:Act->World->Prop}{Q:Exit->Act->World->Prop}(h:(execOp a.eval o).run P w= .ok (.value v) w')(hk:Φ (a.put o.dst v) w'):o.wp P a w Φ Q:=by
 simp only[Oper.wp,h,Oper.upon];exact hk
def FU{z:Value}[hz:jC P t z](hd:cA n dst=true)(h: ∀b,St C n (put fr dst (.pointer (some ⟨b,0,none⟩))) (⟨b,aP z,t,true⟩::own) G Φ):
  Ch P C n fr own G ⟨dst, .alloc t,ty',pos,af,gd⟩ Φ:=by
 intro a w Q rl;have h1:(Instr.alloc t true (.tuple #[])).run P w= .ok (.pointer (some ⟨w.heap.size,0,none⟩)) (w.alloc (.cells ⟨aP z⟩ t)):=by
  unfold Instr.alloc;rw[bc (hz.zero w)];show(newVar t z>>=_).run P w=_;rw[bc Ms];rfl
 refine ly (dC h1) (h w.heap.size _ _ ?_);exact(rl.heap (rl.h.alloc _ _)).put _ hd
def KW{v:Value}(hx:aF fr x=some v)(hd:cA n dst=true)(h: ∀b,St C n (put fr dst (.pointer (some ⟨b,0,none⟩))) (⟨b,aP v,t,true⟩::own) G Φ):
  Ch P C n fr own G ⟨dst, .box t x,ty',pos,af,gd⟩ Φ:=by
 intro a w Q rl;have h1:(Instr.box t (a.eval x)).run P w= .ok (.pointer (some ⟨w.heap.size,0,none⟩)) (w.alloc (.cells ⟨aP v⟩ t)):=by
  unfold Instr.box;rw[bu rl.fr hx,bc Ms];rfl
 refine ly (dC h1) (h w.heap.size _ _ ?_);exact(rl.heap (rl.h.alloc _ _)).put _ hd
def U'{w:World}{b off:Nat}{cs:List Value}{ty:TypeId}{fz:Nat×Nat}{v:Value}(h:w.heap[b]? =some (.cells ⟨cs⟩ ty fz)):w.setCell ⟨b,off,none⟩ v=io w b (.cells ⟨cs.set off v⟩ ty fz):=by
 unfold World.setCell io;congr 1;apply Array.ext_getElem?;intro i;rw[Array.getElem?_modify,fQ];by_cases hi:b=i
 .subst hi
  have:=i5 h;simp only[if_true,h,jN,this];simp
 .simp[hi]
def UY{w:World}{b off:Nat}{cs:List Value}{ty:TypeId}{v:Value}(hv:flat v=true)(h:w.heap[b]? =some (.cells ⟨cs⟩ ty (0,0)))(ho:off<cs.length):
  (store ⟨b,off,none⟩ v).run P w= .ok () (io w b (.cells ⟨cs.set off v⟩ ty (0,0))):=by
 have hc:w.cell? ⟨b,off,none⟩=some cs[off]:=by rw[Bo h,aZ ho]
 have hf:w.frozen? ⟨b,off,none⟩=false:=by simp[World.frozen?,h]
 cases v<;>first|(simp[flat] at hv;done)|(simp only[store,Sem.run,hc,hf,U' h];rfl)
def amJ(w:World)(b:Nat)(o o':Obj):io (io w b o) b o'=io w b o':=by
 simp[io]
def arf{w:World}{b:Nat}{o:Obj}(h:w.heap[b]? =some o):io w b o=w:=by
 unfold io;congr 1;apply Array.ext_getElem?;intro i;rw[fQ];by_cases hi:b=i
 .subst hi
  have hlt:=i5 h;simp only[if_true,hlt];rw[h]
 .simp[hi]
theorem omo{p:Prop}(h:p:=by simp;omega):p:=h
def yf{b:Nat}{ty:TypeId}: ∀(vs:List Value) (w:World) (off i:Nat) (cs:List Value),(∀v∈vs,flat v=true)->w.heap[b]? =some (.cells ⟨cs⟩ ty (0,0))->off+i+vs.length<=cs.length->
  (storeCells ⟨b,off,none⟩ vs i).run P w= .ok () (io w b (.cells ⟨dd cs (off+i) vs⟩ ty (0,0)))
 |[],w,off,i,cs,_,h,_=>by
  unfold storeCells dd;rw[arf h];rfl
 |v::vs,w,off,i,cs,hf,h,hl=>by
  unfold storeCells;simp only[bZ] at hl;rw[rH,bc (UY (hf v aQ) h we)];rw[yf vs _ off (i+1) (cs.set (off+i) v) (fun u hu=>hf u (aX _ hu)) (NA (i5 h)) omo];rw[amJ];rfl
theorem ozp{p:Prop}(h:p:=by simpa using hf):p:=h
def DE{v:Value}{b off k:Nat}{cs:List Value}{ty:TypeId}{lo:Bool}(hx:aF fr x=some (.pointer (some ⟨b,off,none⟩)))(hy:aF fr y=some v)[hs:nf P t k]
  (hu:i7 own b cs ty lo (dd cs off (aP v)) own')(hk:(aP v).length=k)(hl:off+k<=cs.length)(hf:(aP v).all flat=true)(hd:cA n dst=true)(h:St C n (put fr dst undef) own' G Φ):
  Ch P C n fr own G ⟨dst, .store t x y,ty',pos,af,gd⟩ Φ:=by
 intro a w Q rl;have hb:=(rl.h.hown _ (hu.spec rl.h.nd).1).1;have h1:(Instr.storeAt t (a.eval x) (a.eval y)).run P w= .ok () (io w b (.cells ⟨dd cs off (aP v)⟩ ty (0,0))):=by
  rw[bu rl.fr hx,bu rl.fr hy];simp only[Instr.storeAt,Instr.sureAddr];show(storeVar t ⟨b,off,none⟩ v).run P w=_;unfold storeVar;rw[bc (hs.siz w),ry];simp only[nS,hk,ne_eq,not_true_eq_false,if_false];have:=yf (P:=P) (aP v) w off 0 cs ozp hb we;simpa using this
 have h2:(execOp a.eval ⟨dst, .store t x y,ty',pos,af,gd⟩).run P w= .ok .skip (io w b (.cells ⟨dd cs off (aP v)⟩ ty (0,0))):=by
  simp only[execOp];rw[bc h1];rfl
 simp only[Oper.wp,h2,Oper.upon];exact h _ _ ((rl.heap (rl.h.store hu)).put _ hd)
def Aq{v:Value}{b off:Nat}{cs:List Value}{ty:TypeId}{lo:Bool}(hx:aF fr x=some (.pointer (some ⟨b,off,none⟩)))(hy:aF fr y=some v)[hs:nF P t]
  (hu:i7 own b cs ty lo (cs.set off v) own')(hl:off<cs.length)(hf:flat v=true)(hd:cA n dst=true)(h:St C n (put fr dst undef) own' G Φ):
  Ch P C n fr own G ⟨dst, .store t x y,ty',pos,af,gd⟩ Φ:=by
 intro a w Q rl;have hb:=(rl.h.hown _ (hu.spec rl.h.nd).1).1;have hc:v.cells= #[v]:=by cases v<;>first|rfl|(simp[flat] at hf)
 have h1:(Instr.storeAt t (a.eval x) (a.eval y)).run P w= .ok () (io w b (.cells ⟨cs.set off v⟩ ty (0,0))):=by
  rw[bu rl.fr hx,bu rl.fr hy];simp only[Instr.storeAt,Instr.sureAddr];show(storeVar t ⟨b,off,none⟩ v).run P w=_;unfold storeVar;rw[bc (hs.siz w),hc];simp only[nS,bZ,gQ,ne_eq,not_true_eq_false,if_false,fX];have:=yf (P:=P) [v] w off 0 cs ozp hb omo;simpa[dd] using this
 have h2:(execOp a.eval ⟨dst, .store t x y,ty',pos,af,gd⟩).run P w= .ok .skip (io w b (.cells ⟨cs.set off v⟩ ty (0,0))):=by
  simp only[execOp];rw[bc h1];rfl
 simp only[Oper.wp,h2,Oper.upon];exact h _ _ ((rl.heap (rl.h.store hu)).put _ hd)
def Hc{f:FuncId}(h:ta P f)(args:Array Value)(w:World):(callFunc f args).run P w= .ok (.enter f args) w:=by
 obtain⟨fn,h1,h2,h3⟩:=h;unfold callFunc;show(program>>=_).run P w=_;rw[bc (a:=P) (w':=w) J];simp only[h1,h2,h3];rfl
def EI{f:FuncId}{fo:Operand}{args:Array Operand}{tys:Array TypeId}{vs c1 c2:List Value}{a:Act}{w:World}(h:ta P f)(hf:ng fr a)(ho:aF fr fo=some (.func (.func f) ⟨c1⟩ ⟨c2⟩))(hv:gH fr args.toList=some vs):
  (execOp a.eval ⟨dst, .call ⟨.value fo,args,tys⟩,ty',pos,af,gd⟩).run P w= .ok (.enter f ⟨c1++vs++c2⟩) w:=by
 have e:args.map a.eval=⟨vs⟩:=by apply Array.ext';simpa using Eu hf hv
 simp only[execOp,resolve,bu hf ho,e,Deferred.ofValue];show(invoke (.fn (.func f) ⟨c2⟩) (⟨c1⟩++⟨vs⟩)).run P w=_;simp only[invoke];rw[Hc h];simp
def VZ{f:FuncId}{fo:Operand}{args:Array Operand}{tys:Array TypeId}{vs c1 c2:List Value}{K:Value->Gh->Prop}(ho:aF fr fo=some (.func (.func f) ⟨c1⟩ ⟨c2⟩))(hv:gH fr args.toList=some vs)
  (hF:Fn P f (c1++vs++c2) G K)(hd:cA n dst=true)(h: ∀v (G':Gh),[GE G G']->K v G'->St C n (put fr dst v) own G' Φ):
  Ch P C n fr own G ⟨dst, .call ⟨.value fo,args,tys⟩,ty',pos,af,gd⟩ Φ:=by
 intro a w Q rl;have h2:=EI (P:=P) (dst:=dst) (ty':=ty') (pos:=pos) (af:=af) (gd:=gd) (tys:=tys) (w:=w) hF.able rl.fr ho hv;simp only[Oper.wp,h2,Oper.upon];refine(hF.run w rl.h.sub).mono ?_;rintro e w' ⟨v,G',rfl,hh,hK⟩;exact @h v G' ⟨hh.gle⟩ hK _ _ ((rl.heap (rl.h.called hh)).put _ hd)
def zC{f:FuncId}{fo:Operand}{args:Array Operand}{tys:Array TypeId}{vs:List Value}{K:Value->Gh->Prop}(ho:aF fr fo=some (.func (.func f) #[] #[]))(hv:gH fr args.toList=some vs)
  (hF:Fn P f vs G K)(hd:cA n dst=true)(h: ∀v (G':Gh),[GE G G']->K v G'->St C n (put fr dst v) own G' Φ):
  Ch P C n fr own G ⟨dst, .call ⟨.value fo,args,tys⟩,ty',pos,af,gd⟩ Φ:=
 VZ (c1:=[]) (c2:=[]) ho hv (by simpa using hF) hd h
def Wt{f:FuncId}{fo:Operand}{args:Array Operand}{tys:Array TypeId}{vs c1 c2:List Value}{M rest:List az}{K:Value->List (List Value)->Gh->Prop}(ho:aF fr fo=some (.func (.func f) ⟨c1⟩ ⟨c2⟩))(hv:gH fr args.toList=some vs)
  (hp:own.Perm (M++rest))(hF:nv P f (c1++vs++c2) M G K)(hd:cA n dst=true)(h: ∀v css (G':Gh),[GE G G']->css.length=M.length->K v css G'->St C n (put fr dst v) (l6 M css++rest) G' Φ):
  Ch P C n fr own G ⟨dst, .call ⟨.value fo,args,tys⟩,ty',pos,af,gd⟩ Φ:=by
 intro a w Q rl;have h2:=EI (P:=P) (dst:=dst) (ty':=ty') (pos:=pos) (af:=af) (gd:=gd) (tys:=tys) (w:=w) hF.able rl.fr ho hv;simp only[Oper.wp,h2,Oper.upon];have hh0:=rl.h.perm hp;refine(hF.run w hh0.lend).mono ?_;rintro e w' ⟨v,css,G',rfl,hl,hh,hK⟩;exact @h v css G' ⟨hh.gle⟩ hl hK _ _ ((rl.heap (hh0.calledM hl hh)).put _ hd)
def Ew{f:FuncId}{fo:Operand}{args:Array Operand}{tys:Array TypeId}{vs:List Value}{M rest:List az}{K:Value->List (List Value)->Gh->Prop}(ho:aF fr fo=some (.func (.func f) #[] #[]))(hv:gH fr args.toList=some vs)
  (hp:own.Perm (M++rest))(hF:nv P f vs M G K)(hd:cA n dst=true)(h: ∀v css (G':Gh),[GE G G']->css.length=M.length->K v css G'->St C n (put fr dst v) (l6 M css++rest) G' Φ):
  Ch P C n fr own G ⟨dst, .call ⟨.value fo,args,tys⟩,ty',pos,af,gd⟩ Φ:=
 Wt (c1:=[]) (c2:=[]) ho hv hp (by simpa using hF) hd h
end
section
variable {P:Program} {C:aH} {n:Nat} {fr:Fr} {own own':List az} {G:Gh}
inductive lD (P:Program) (fr:Fr) (own:List az):List ResultVar->List Value->Prop
 |nil:lD P fr own [] []
 |tmp {t:Nat} {v:Value} {rs:List ResultVar} {vs:List Value} (h:j0 fr t=some v) (k:lD P fr own rs vs):lD P fr own (.tmp t::rs) (v::vs)
 |agg {a b k:Nat} {t ty:TypeId} {cs l:List Value} {lo:Bool} {rs:List ResultVar} {vs:List Value} (h:j0 fr a=some (.pointer (some ⟨b,0,none⟩))) (ho:jf own b cs ty lo) (ht:nf P t k) (hl:dh cs 0 k=some l) (h2:lD P fr own rs vs):
   lD P fr own (.cell a t::rs) (.agg ⟨l⟩::vs)
 |sc {a b:Nat} {t ty:TypeId} {cs:List Value} {v:Value} {lo:Bool} {rs:List ResultVar} {vs:List Value} (h:j0 fr a=some (.pointer (some ⟨b,0,none⟩))) (ho:jf own b cs ty lo) (ht:nF P t) (hl:cs[0]? =some v) (h2:lD P fr own rs vs):
   lD P fr own (.cell a t::rs) (v::vs)
def Ae(a:Act):ResultVar->Sem Value
 | .tmp t=>pure (a.tmps.getD t undef)
 | .cell x t=>do loadVar t (<-asAddr (a.tmps.getD x undef))
def lD.run{rs:List ResultVar}{vs:List Value}(h:lD P fr own rs vs){a:Act}{w:World}(hf:ng fr a)(hh:bC C own G w):
  (rs.mapM (Ae a)).run P w= .ok vs w:=by
 induction h with
 |nil=>rfl
 | @tmp t v rs vs h k ih=>
  rw[rV];have e:=hf _ _ h;have e2:a.tmps.getD t undef=v:=by rw[cX,e];rfl
  rw[bc (a:=v) (w':=w) (by simp only[Ae,e2];exact run_pure _ _ _),bc ih];rfl
 | @agg x b k t ty cs l lo rs vs h ho ht hl h2 ih=>
  rw[rV];have e:=hf _ _ h;have e2:a.tmps.getD x undef= .pointer (some ⟨b,0,none⟩):=by rw[cX,e];rfl
  rw[bc (a:= .agg ⟨l⟩) (w':=w) (by simp only[Ae,e2,asAddr];rw[bc (run_pure _ _ _)];exact GA (hh.hown _ ho.mem).1 hl),bc ih];rfl
 | @sc x b t ty cs v lo rs vs h ho ht hl h2 ih=>
  rw[rV];have e:=hf _ _ h;have e2:a.tmps.getD x undef= .pointer (some ⟨b,0,none⟩):=by rw[cX,e];rfl
  rw[bc (a:=v) (w':=w) (by simp only[Ae,e2,asAddr];rw[bc (run_pure _ _ _)];exact JE (hh.hown _ ho.mem).1 hl),bc ih];rfl
def qo:List Value->Value
 |[v]=>v
 |vs=> .tuple ⟨vs⟩
def wx{fn:Func}{vs:List Value}{a:Act}{w:World}(hr:lD P fr own fn.results.toList vs)(hf:ng fr a)(hh:bC C own G w):(results fn a.tmps).run P w= .ok (qo vs) w:=by
 have h0:=lD.run (C:=C) (G:=G) hr hf hh;have h1:(fn.results.mapM (Ae a)).run P w= .ok (⟨vs⟩:Array Value) w:=by
  rw[<-Array.toArray_toList (xs:=fn.results),List.mapM_toArray,map_eq_pure_bind,bc h0];rfl
 have h2:results fn a.tmps=(do
   let vs<-fn.results.mapM (Ae a)
   pure (if h:vs.size=1 then vs[0] else .tuple vs)):=by
  unfold results;congr 1
 rw[h2,bc h1]
 match vs with
 |[]=>rfl
 |[v]=>rfl
 |_::_::_=>rfl
def mE(C:aH)(K:Value->Gh->Prop):Ending->World->Prop:=fun e w'=> ∃v G',e= .returned v/\bC C [] G' w'/\K v G'
def Bs(C:aH)(M:List az)(K:Value->List (List Value)->Gh->Prop):Ending->World->Prop:=fun e w'=> ∃v css G',e= .returned v/\css.length=M.length/\bC C (l6 (asB M) css) G' w'/\K v css G'
def gu(C:aH)(P:Program)(fn:Func)(R:Ending->World->Prop):Exit->Act->World->Prop:=fun e a w=>C.mks=[]->bodyPost P fn R e a w
def zD{fn:Func}{K:Value->Gh->Prop}{vs:List Value}(hr:lD P fr own fn.results.toList vs)(hk:K (qo vs) G):St C n fr own G (gu C P fn (mE C K) .ret):=
 fun a w rl hmk=>⟨rl.df.trans hmk,_,wx hr rl.fr rl.h,_,G,J,rl.h.drop (lN _),hk⟩
def Pr{fn:Func}{K:Value->Gh->Prop}{vs:List Value}(hr:lD P fr own fn.results.toList vs)(hk:K (qo vs) G):St C n fr own G (gu C P fn (mE C K) .normal):=
 fun a w rl hmk=>⟨rl.df.trans hmk,_,wx hr rl.fr rl.h,_,G,J,rl.h.drop (lN _),hk⟩
def zn{fn:Func}{M:List az}{css:List (List Value)}{K:Value->List (List Value)->Gh->Prop}{vs:List Value}(hr:lD P fr own fn.results.toList vs)(hl:css.length=M.length)(own2:List az)(hp:own.Perm own2)(hs:(l6 (asB M) css).Sublist own2)(hk:K (qo vs) css G):St C n fr own G (gu C P fn (Bs C M K) .ret):=
 fun a w rl hmk=>⟨rl.df.trans hmk,_,wx hr rl.fr rl.h,_,css,G,J,hl,(rl.h.perm hp).drop hs,hk⟩
def pn:Nat->List Value->Fr
 |_,[]=>[]
 |i,v::t=>(i,v)::pn (i+1) t
def xp: ∀(vs:List Value) (i k:Nat) (v:Value),j0 (pn i vs) k=some v-> ∃j,k=i+j/\vs[j]? =some v
 |[],i,k,v,h=>by cases h
 |u::vs,i,k,v,h=>by
  rw[pn,xi] at h;split at h
  .subst_vars;cases h;exact⟨0,J,J⟩
  .obtain⟨j,rfl,hj⟩:=xp vs (i+1) k v h
   exact⟨j+1,we,by simpa using hj⟩
theorem omJ{p:Prop}(h:p:=by simpa using hj'):p:=h
def Fn.introR{f:FuncId}{fn:Func}{c:Code}{vs:List Value}{m:Nat}{K:Value->Gh->Prop}(hf:P.funcs[f]? =some fn)(hb:fn.body=some c)(hn:(fn.name== "runtime.NumGoroutine")=false)(hm:fn.ntmps=m)(hlen:Nat.ble vs.length m=true)
  (h: ∀C:aH,C.G0=G->C.mb=[]->C.rd=none->(C.fx=fun _=>none)->St C m (pn 0 vs) [] G (c.wp P (gu C P fn (mE C K)))):Fn P f vs G K:=by
 refine⟨⟨fn,hf,hn,by simp[hb]⟩,fun w hw=>?_⟩;have hlen':vs.length<=m:=by simpa using hlen
 have:=calls_of_wp (P:=P) (f:=f) (args:=⟨vs⟩) (w:=w) (R:=mE ⟨w,G,[],[],[],none,fun _=>none⟩ K) hf hb (wp_mono (h ⟨w,G,[],[],[],none,fun _=>none⟩ J J J J _ w
  ⟨⟨J,J,J,bV _,fun _ _ _=>J,hw,cc.refl _,fun _ _=>J,fun o ho=>(by cases ho), .nil,bV _,fun p hp=>by cases hp⟩,by simp;omega,fun k v hk=>by
   obtain⟨j,rfl,hj⟩:=xp vs 0 k v hk;have hj':=(bQ.1 hj).1;rw[kK omJ];simpa using hj,J⟩) fun _ _ _ k=>k J)
 exact this
def Fn.intro{f:FuncId}{fn:Func}{c:Code}{vs:List Value}{m:Nat}{K:Value->Gh->Prop}(hf:P.funcs[f]? =some fn)(hb:fn.body=some c)(hn:(fn.name== "runtime.NumGoroutine")=false)(hm:fn.ntmps=m)(hlen:Nat.ble vs.length m=true)
  (h: ∀C:aH,C.G0=G->C.mb=[]->St C m (pn 0 vs) [] G (c.wp P (gu C P fn (mE C K)))):Fn P f vs G K:=
 Fn.introR hf hb hn hm hlen fun C a b _ _=>h C a b
def nv.introR{f:FuncId}{fn:Func}{c:Code}{vs:List Value}{m:Nat}{M:List az}{K:Value->List (List Value)->Gh->Prop}(hf:P.funcs[f]? =some fn)(hb:fn.body=some c)(hn:(fn.name== "runtime.NumGoroutine")=false)(hm:fn.ntmps=m)(hlen:Nat.ble vs.length m=true)
  (h: ∀C:aH,C.G0=G->C.mb=M.map (·.b)->C.rd=none->(C.fx=fun _=>none)->St C m (pn 0 vs) (asB M) G (c.wp P (gu C P fn (Bs C M K)))):nv P f vs M G K:=by
 refine⟨⟨fn,hf,hn,by simp[hb]⟩,fun w hw=>?_⟩;have hlen':vs.length<=m:=by simpa using hlen
 have:=calls_of_wp (P:=P) (f:=f) (args:=⟨vs⟩) (w:=w) (R:=Bs ⟨w,G,M.map (·.b),[],[],none,fun _=>none⟩ M K) hf hb (wp_mono (h ⟨w,G,M.map (·.b),[],[],none,fun _=>none⟩ J J J J _ w
  ⟨hw,by simp;omega,fun k v hk=>by
   obtain⟨j,rfl,hj⟩:=xp vs 0 k v hk;have hj':=(bQ.1 hj).1;rw[kK omJ];simpa using hj,J⟩) fun _ _ _ k=>k J)
 exact this
def nv.intro{f:FuncId}{fn:Func}{c:Code}{vs:List Value}{m:Nat}{M:List az}{K:Value->List (List Value)->Gh->Prop}(hf:P.funcs[f]? =some fn)(hb:fn.body=some c)(hn:(fn.name== "runtime.NumGoroutine")=false)(hm:fn.ntmps=m)(hlen:Nat.ble vs.length m=true)
  (h: ∀C:aH,C.G0=G->C.mb=M.map (·.b)->St C m (pn 0 vs) (asB M) G (c.wp P (gu C P fn (Bs C M K)))):nv P f vs M G K:=
 nv.introR hf hb hn hm hlen fun C a b _ _=>h C a b
def axn{Φ:Act->World->Prop}(b:Nat){cs:List Value}{ty:TypeId}(hr:kI own ⟨b,cs,ty,true⟩ own')(h: ∀G':Gh,[GE G G']->[aMb G' b cs]->St C n fr own' G' Φ):St C n fr own G Φ:=
 fun a w rl=>by
  obtain⟨h1,h2⟩:=rl.h.freeze hr;exact @h _ ⟨h2⟩ ⟨omc⟩ a w (rl.heap h1)
end
def iv(Q:Exit->Act->World->Prop):Exit->Act->World->Prop
 | .panic _,_,_=>False
 |e,a,w=>Q e a w
def iv.imp{Q:Exit->Act->World->Prop}: ∀(e:Exit) (a:Act) (w:World),iv Q e a w->Q e a w:=fun e a w h=>by
 cases e<;>first|exact h|exact(h:False).elim
section
variable {P:Program} {ops:Array Oper} {Q:Exit->Act->World->Prop} {S:World->Prop} {fin:Nat->Bool}
def wA(P:Program)(ops:Array Oper)(Q:Exit->Act->World->Prop)(S:World->Prop)(fin:Nat->Bool):Nat->Array Bool->Act->World->Prop
 |0,listed,a,w=>Region.ready .any ops listed=[]/\Q .normal a w
 |fuel+1,listed,a,w=>
  (Region.ready .any ops listed=[]->Q .normal a w)/\
  ∀i∈Region.ready .any ops listed,wpOp P ops Q i (fun a' w'=>(fin i=true\/S w')/\wA P ops Q S fin fuel (listed.setIfInBounds i true) a' w') a w
def DH: ∀(fuel:Nat) (listed:Array Bool) (a:Act) (w:World),wA P ops Q S fin fuel listed a w->wpAny P .any ops Q fuel listed a w
 |0,_,_,_,h=>h
 |fuel+1,_,_,_,h=>⟨h.1,fun i hi=>wpOp_mono (fun a' w' h'=>DH fuel _ a' w' h'.2) (h.2 i hi)⟩
def KO(ops:Array Oper)(fin:Nat->Bool)(i:Nat):Bool:=
 !fin i&&(List.range ops.size).all fun j=>!fin j||((ops[j]?).map fun o=>o.after.any fun e=>Region.binds .any e&&e.on==i).getD true
theorem omQ{p:Prop}(h:p:=by simpa using hj):p:=h
def Yf{i:Nat}(h:KO ops fin i=true):fin i=false/\ ∀j oj,ops[j]? =some oj->fin j=true-> ∃e∈oj.after,Region.binds .any e=true/\e.on=i:=by
 simp only[KO,bT,fM] at h;refine⟨h.1,fun j oj hoj hf=>?_⟩;have hj:j<ops.size:=(fS.1 hoj).1;have h1:=cN.1 h.2 j omQ;rw[hf,hoj] at h1;simp only[Bool.not_true,jN,lW,sW] at h1;obtain⟨e,he,hb⟩:=Array.any_eq_true'.1 h1;simp only[bT,beq_iff_eq] at hb;exact⟨e,he,hb.1,hb.2⟩
def apo{i:Nat}{oi:Oper}{v:Value}(hi:ops[i]? =some oi)(hsel: ∀(j:Nat) (o:Oper) cs b,ops[j]? =some o->o.op≠ .select cs b)
  (hQ: ∀c a w,Q (.panic c) (a.put oi.dst v) w->Q (.panic c) a w)(hfi:fin i=false)
  (hfin: ∀j oj,ops[j]? =some oj->fin j=true-> ∃e∈oj.after,Region.binds .any e=true/\e.on=i):
  ∀(fuel:Nat) (listed:Array Bool) (a:Act) (w:World),
   (∀j oj,ops[j]? =some oj->j≠i->listed.getD j true=false->(∀e∈oj.after,Region.binds .any e=true->e.on≠i)->oi.apart ops oj=true)->
   i∈Region.ready .any ops listed->YieldsIf P ops S oi v a->S w->
   wA P ops Q S fin fuel (listed.setIfInBounds i true) (a.put oi.dst v) w->wA P ops Q S fin (fuel+1) listed a w:=by
 intro fuel
 induction fuel with
 |zero=>
  intro listed a w _ hr hy hS H;refine⟨fun h=>(by rw[h] at hr;cases hr),fun j hj=>?_⟩;by_cases hji:j=i
  .subst hji;exact hy.wpOp hi hS ⟨.inr hS,H⟩
  .have:=ready_mono hj hji
   rw[H.1] at this
   cases this
 |succ fuel ih=>
  intro listed a w hfree hr hy hS H;refine⟨fun h=>(by rw[h] at hr;cases hr),fun j hj=>?_⟩;by_cases hji:j=i
  .subst hji;exact hy.wpOp hi hS ⟨.inr hS,H⟩
  .have h1:=H.2 j (ready_mono hj hji)
   obtain⟨hjun,oj,hoj,hall⟩:=mem_ready.1 hj;have hnot: ∀e∈oj.after,Region.binds .any e=true->e.on≠i:=fun e he hb heq=>by
    have h1:=hall e he hb;have h0:=(mem_ready.1 hr).1;rw[heq] at h1;rcases jX i listed.size with h'|h'
    .simp[h'] at h0 h1;rw[h0] at h1;cases h1
    .simp[mM h'] at h1
   have hnf:fin j=false:=by
    cases hf:fin j with
    |false=>rfl
    |true=>obtain⟨e,he,hb,heq⟩:=hfin j oj hoj hf;exact absurd heq (hnot e he hb)
   have h2:=wpOp_putIf hoj (hfree j oj hoj hji hjun hnot) (fun cs b=>hsel i oi cs b hi) (fun cs b=>hsel j oj cs b hoj) hQ hy h1;have hfree': ∀k ok,ops[k]? =some ok->k≠i->(listed.setIfInBounds j true).getD k true=false->
     (∀e∈ok.after,Region.binds .any e=true->e.on≠i)->oi.apart ops ok=true:=fun k ok hk hki hun hno=>by
    refine hfree k ok hk hki ?_ hno;by_cases hjk:j=k
    .subst hjk;exact hjun
    .rw[getD_set_ne true hjk] at hun;exact hun
   refine wpOp_mono (fun a' w' h3=>?_) h2;have hS':S w':=h3.2.1.resolve_left (by rw[hnf];simp);refine⟨.inr hS',ih (listed.setIfInBounds j true) a' w' hfree' (ready_mono hr (Ne.symm hji)) h3.1 hS' ?_⟩;rw[Array.setIfInBounds_comm _ _ hji];exact h3.2.2
def aux{i:Nat}{fuel:Nat}{listed:Array Bool}{a:Act}{w:World}(hr:Region.ready .any ops listed=[i])
  (h:wpOp P ops Q i (fun a' w'=>(fin i=true\/S w')/\wA P ops Q S fin fuel (listed.setIfInBounds i true) a' w') a w):wA P ops Q S fin (fuel+1) listed a w:=
 ⟨fun h0=>absurd (hr.symm.trans h0) omc,fun j hj=>by rw[hr,aV] at hj;subst hj;exact h⟩
def S6(ops:Array Oper)(fin:Nat->Bool)(listed:Array Bool)(i:Nat):Bool:=
 Region.noSelect ops&&Region.free .any ops listed i&&(Region.ready .any ops listed).contains i&&KO ops fin i
end
class nj (l m:List az):Prop where s:l.Sublist m
instance nj.cons (l m:List az) (o:az) [h:nj l m]:nj l (o::m):=⟨h.s.cons o⟩
def HS(C:aH)(own:List az)(G:Gh):World->Prop:=fun w=> ∃G',cc G G'/\bC C own G' w
section
variable {P:Program} {C:aH} {n:Nat} {fr:Fr} {own own0:List az} {G G0:Gh} {ops:Array Oper} {Q:Exit->Act->World->Prop} {fin:Nat->Bool}
def awt{id:Nat}(fin:Nat->Bool)(hm:P.follows .mixedOrders=true)
  (h:St C n fr own G (wA P ops (iv Q) (HS C own G) fin ops.size (Array.replicate ops.size false))):St C n fr own G ((Code.region id ops true).wp P Q):=by
 intro a w rl;exact wp_mono (wp_region_any hm (DH _ _ _ _ (h a _ (rl.heap rl.h.drew)))) iv.imp
def Am{b:Bool}{Φ:Act->World->Prop}[hs:nj own0 own][hl:GL G0 G](h:St C n fr own G Φ):St C n fr own G (fun a w=>(b=true\/HS C own0 G0 w)/\Φ a w):=
 fun a w rl=>⟨.inr ⟨G,hl.le,rl.h.drop hs.s⟩,h a w rl⟩
end
end Go.Sx
end
