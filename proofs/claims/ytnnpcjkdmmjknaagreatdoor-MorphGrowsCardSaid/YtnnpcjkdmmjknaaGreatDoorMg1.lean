import Derived.Calls
import Derived.Orders
import Derived.OrdersHeld
import Derived.Laws.World
import Derived.Below
import Derived.IntWalk
import Derived.KernelRfl
import Derived.Laws.Append
set_option linter.all false
section
namespace Go.Sx
def J{α:Sort _}{a:α}:a=a:=rfl
open Go
variable {α β:Type}{a:Act}{c x z:Operand}{v:Value}{P:Program}{ops:Array Oper}{Q:Exit->Act->World->Prop}{w w':World}{n j d e s by_ off f i len cap m:Nat}{r:List Oper}{o:Oper}{y:Code}{p q:Int}{Φ:Act->World->Prop}{t ty' t':TypeId}{k k':IntKind}{l l1 l2 cs':List Value}{dst:Option Nat}{pos:String}{af:Array Edge}{gd:Option (Nat×Bool)}{ad:Option Addr}{css:List (List Value)}
def aQ:=@List.mem_cons_self
def aZ:=@List.getElem?_eq_getElem
def aX:=@List.length_map
def aJ:=@List.mem_cons_of_mem
def aK:=@List.getD_eq_getElem?_getD
def aV:=@List.mem_of_getElem?
def aW:=@List.mem_cons
def aY:=@List.getElem?_eq_some_iff
def aU:=@List.length_append
def aT:=@List.mem_map
def aR:=@Int.toNat_natCast
def aS:=@List.mem_singleton
def aL:=@List.length_replicate
def aM:=@List.take_of_length_le
def aN:=@Nat.eq_of_beq_eq_true
def bQ:=@List.drop_eq_getElem_cons
def bZ:=@Nat.zero_le
def bX:=@Nat.le_refl
def bJ:=@List.length_cons
def bK:=@List.mem_append_right
def bV:=@List.map_append
def bW:=@List.mem_append
def bY:=@List.length_set
def bU:=@List.mem_append_left
def bT:=@List.map_cons
def bR:=@Nat.pow_le_pow_right
def bS:=@List.getElem?_map
def bL:=@Nat.mul_le_mul_right
def bM:=@List.eq_nil_of_length_eq_zero
def cZ:=@Bool.and_eq_true
def cX:=@Rat.intCast_eq_zero_iff
def cJ:=@Nat.mul_assoc
def cK:=@Nat.mul_comm
def cV:=@List.pairwise_cons
def cW:=@Rat.intCast_mul
def cY:=@Array.getD_eq_getD_getElem?
def cR:=@List.length_take
def cS:=@Nat.le_trans
def cM:=@Rat.le_of_lt
def cN:=@List.getElem_mem
def dQ:=@List.take_length
def dZ:=@Nat.lt_of_lt_of_le
def dX:=@List.mem_map_of_mem
def dJ:=@Nat.add_mul
def dK:=@List.all_eq_true
def dV:=@Nat.mod_lt
def dW:=@List.append_assoc
def dY:=@List.getElem?_eq_none
def dT:=@List.forall_mem_cons
def dR:=@List.not_mem_nil
def dS:=@Nat.mul_add
def eX:=@List.length_nil
def eJ:=@Nat.zero_add
def eK:=@Nat.lt_of_le_of_lt
def eY:=@Nat.pow_add
def eM:=@List.take_add_one
def fQ:=@Array.getElem?_setIfInBounds
def fZ:=@Int.sign_eq_neg_one_of_neg
def fX:=@Nat.pow_pos
def fJ:=@List.perm_append_comm
def fK:=@Nat.add_zero
def fV:=@Nat.mul_one
def fW:=@Rat.mul_eq_zero
def fY:=@Nat.pow_succ
def fU:=@Int.natAbs_natCast
def fT:=@Array.getElem?_eq_some_iff
def fR:=@Int.natAbs_mul
def fS:=@Int.sign_eq_one_of_pos
def fL:=@Nat.mul_le_mul_left
def fM:=@List.nil_sublist
def fN:=@List.mem_of_mem_take
def gQ:=@List.drop_length
def gX:=@Nat.mul_le_mul
def gJ:=@Nat.succ_mul
def gK:=@List.append_nil
def gV:=@List.length_singleton
def gW:=@List.take_append_of_le_length
def gU:=@Nat.eq_zero_or_pos
def gT:=@List.take_succ_eq_append_getElem
def gR:=@Nat.le_of_lt
def gS:=@Nat.mod_eq_of_lt
def gL:=@List.length_drop
def gM:=@List.pairwise_append
def gN:=@List.mem_of_mem_drop
def iQ:=@Array.getElem?_eq_getElem
def iZ:=@List.map_nil
def iX:=@Int.sign_eq_zero_iff_zero
def iJ:=@List.cons_append
def iK:=@Nat.pos_of_ne_zero
def iV:=@List.drop_of_length_le
def iW:=@Int.fdiv_eq_ediv_of_nonneg
def iY:=@List.map_toArray
def iU:=@List.mem_flatMap
def iT:=@Bool.or_eq_true
def iR:=@Rat.intCast_sub
def iS:=@Rat.le_refl
def iL:=@List.map_take
def iM:=@Bool.not_eq_true'
def iN:=@Nat.min_eq_left
def jQ:=@Rat.intCast_neg
def jZ:=@List.map_drop
def jX:=@List.getElem?_append_left
def jJ:=@List.drop_eq_nil_of_le
def jK:=@Nat.lt_or_ge
def jV:=@List.drop_zero
def jW:=@Nat.mul_pos
def jY:=@Nat.gcd_comm
def jU:=@Int.natCast_mul
def jT:=@List.getElem?_append_right
def jR:=@Int.natAbs_neg
def jS:=@List.any_eq_true
def jL:=@Bool.not_eq_true
def jM:=@List.mem_filterMap
def jN:=@List.nil_append
def kQ:=@List.mem_range
def kZ:=@Bool.false_eq_true
def kX:=@Int.natAbs_eq_zero
def kJ:=@Option.map_some
def kK:=@List.foldl_cons
def kV:=@Nat.add_assoc
def kW:=@Option.getD_some
def kY:=@List.map_set
def kU:=@Nat.div_eq_of_lt
def kR:=@Nat.add_comm
def kS:=@Nat.gcd_dvd_left
def kL:=@Array.length_toList
def kM:=@Nat.mul_left_comm
def kN:=@List.drop_append_of_le_length
def lQ:=@List.length_range
def lZ:=@List.take_append_drop
def lX:=@Nat.div_lt_iff_lt_mul
def lJ:=@Nat.zero_mul
def lK:=@Nat.div_le_self
def lV:=@Rat.intCast_add
def lW:=@Int.natAbs_zero
def lY:=@Bool.or_eq_false_iff
def lU:=@Nat.mul_lt_mul_of_pos_right
def lT:=@Array.getElem?_append_left
def lR:=@List.ext_getElem?
def lS:=@Int.ofNat_natAbs_of_nonpos
def lL:=@Nat.gcd_dvd_right
def lM:=@Nat.eq_zero_of_gcd_eq_zero_right
def lN:=@List.flatMap_cons
def mQ:=@Rat.num_eq_zero
def mZ:=@Nat.eq_zero_of_gcd_eq_zero_left
def mX:=@List.getElem?_drop
def mJ:=@Nat.shiftLeft_eq
def mK:=@List.append_of_mem
def mV:=@List.length_filterMap_le
def mW:=@Nat.shiftLeft_add_eq_or_of_lt
def mY:=@Nat.add_mul_div_left
def mU:=@List.length_dropLast
def mT:=@List.mem_iff_getElem
def mR:=@Nat.le_mul_of_pos_right
def mS:=@List.getElem?_set
def mL:=@Nat.gcd_pos_of_pos_left
def mM:=@Nat.blt_eq
def mN:=@List.replicate_succ
def nQ:=@List.sublist_cons_self
def nZ:=@Nat.div_div_eq_div_mul
def nX:=@Nat.one_mul
def nJ:=@List.drop_append
def nK:=@Rat.mkRat_eq_div
def nV:=@Nat.mul_right_comm
def nW:=@Nat.gcd_zero_right
def nY:=@Nat.add_sub_cancel
def nU:=@Nat.mul_lt_mul_of_lt_of_le
def nT:=@List.set_append_right
def nR:=@List.eq_nil_or_concat
def nS:=@List.concat_eq_append
def nL:=@List.length_filter_le
def nM:=@List.getLast?_eq_getElem?
def nN:=@Nat.add_mul_mod_self_left
def oQ:=@Int.natAbs_ediv_le_natAbs
def oZ:=@Rat.num_intCast
def oX:=@Rat.den_intCast
def oJ:=@Int.natAbs_of_nonneg
def oK:=@Rat.neg_num
def oV:=@List.foldl_append
def oW:=@Nat.pow_lt_pow_iff_right
def oY:=@List.sublist_append_left
def oU:=@List.take_succ_cons
def oT:=@List.getElem?_range
def oR:=@List.getD_cons_succ
def oS:=@List.length_pos_iff
def oL:=@List.takeWhile_cons
def oM:=@Int.natCast_emod
def oN:=@Nat.le_add_right
def pQ:=@Nat.mul_lt_mul''
def pZ:=@List.perm_middle
def pX:=@List.countP_cons
def pJ:=@Array.getElem?_eq_none
def pK:=@List.getElem?_take
def pV:=@List.getElem?_set_self
def pW:=@Nat.beq_refl
def pY:=@List.getElem_cons_zero
def pU:=@Option.toList_some
def pT:=@Nat.not_lt_zero
def pR:=@Int.mul_eq_zero
def pS:=@Rat.intCast_inj
def pL:=@List.mem_filter
def pM:=@List.range_succ
def pN:=@Bool.true_and
def qQ:=@Array.getElem?_toList
def qZ:=@List.size_toArray
def qX:=@List.flatten_cons
def qJ:=@Int.lt_trichotomy
def qK:=@Nat.pow_mul
def qV:=@Array.toList_map
def qW:=@Nat.mul_zero
def qY:=@List.getElem_map
def qU:=@Nat.lt_trans
def qT:=@Int.le_of_lt
def qR:=@Int.natCast_ediv
def qS:=@List.filter_cons
def qL:=@Nat.le_max_right
def qM:=@List.pairwise_iff_getElem
def qN:=@Int.toNat_of_nonneg
def rQ:=@List.getD_cons_zero
def rZ:=@List.filterMap_cons
def rX:=@Option.isSome_iff_exists
def rJ:=@Array.getElem?_replicate
def rK:=@Nat.gcd_pos_of_pos_right
def rW:=@Nat.dvd_trans
def rY:=@Bool.eq_iff_iff
def rU:=@Option.map_none
def rT:=@Nat.div_add_mod
def rR:=@Nat.le_max_left
def rS:=@Array.foldl_toList
def rL:=@Rat.div_mul_cancel
def rM:=@Int.natCast_dvd_natCast
def rN:=@Nat.mul_div_cancel_left
def sQ:=@List.mapM_cons
def sZ:=@Int.mul_comm
def sX:=@Nat.sub_self
def sJ:=@Nat.lt_trichotomy
def sK:=@Nat.pow_zero
def sV:=@Rat.mkRat_self
def sW:=@Rat.num_nonneg
def sY:=@List.forall_mem_append
def sU:=@Bool.or_true
def sT:=@Nat.le_of_ble_eq_true
def sS:=@Nat.mul_mod_mul_right
def sL:=@Nat.le_div_iff_mul_le
def sM:=@Nat.le_of_not_lt
def sN:=@Rat.mkRat_one
def tQ:=@List.sum_cons
def tZ:=@Rat.neg_den
def tX:=@Int.natCast_add
def tJ:=@List.sum_append
def tK:=@Array.toList_zipIdx
def tV:=@List.drop_set_of_lt
def tW:=@List.drop_succ_cons
def tY:=@List.flatMap_append
def tU:=@List.take_zero
def tT:=@Nat.gcd_rec
def tL:=@Nat.div_one
abbrev Gh:=Nat->Option (List Value)
variable {G A G':Gh}
def bI(G G':Gh):Prop:= ∀b cs,G b=some cs->G' b=some cs
def bI.refl(G:Gh):bI G G:=fun _ _ h=>h
def bI.trans{a b c:Gh}(h:bI a b)(k:bI b c):bI a c:=fun _ _ x=>k _ _ (h _ _ x)
structure av where
 b:Nat
 cs:List Value
 ty:TypeId
 lo:Bool
variable {own' M rest:List av}
structure aD where
 w0:World
 G0:Gh
 mb:List Nat
 /-- other objects that stay: records of loops, marks -/
 ex:List (Nat×Obj)
 /-- the marks among the deferred calls; the round -/
 mks:List Deferred
 rd:Option Nat
 /-- where names that are fixed lie -/
 fx:Nat->Option Addr
variable {C:aD}
structure bF (C:aD) (own:List av) (G:Gh) (w:World):Prop where
 os:w.os=C.w0.os
 tape:w.tape=C.w0.tape
 output:w.output=C.w0.output
 size:C.w0.heap.size<=w.heap.size
 keep: ∀b,b<C.w0.heap.size->b∉C.mb->w.heap[b]? =C.w0.heap[b]?
 sub: ∀b cs,G b=some cs-> ∃ty fz,w.heap[b]? =some (.cells ⟨cs⟩ ty fz)
 gle:bI C.G0 G
 gold: ∀b,b<C.w0.heap.size->G b=C.G0 b
 hown: ∀o∈own,w.heap[o.b]? =some (.cells ⟨o.cs⟩ o.ty (0,0))/\G o.b=none/\(o.lo=true->C.w0.heap.size<=o.b)/\(o.lo=false->o.b∈C.mb)
 nd:own.Pairwise (fun x y=>x.b≠y.b)
 dr:C.w0.drawn<=w.drawn
 ext: ∀p∈C.ex,(∀cs ty z,p.2≠ .cells cs ty z)/\w.heap[p.1]? =some p.2
abbrev Fr:=List (Nat×Value)
def iB:Fr->Nat->Option Value
 |[],_=>none
 |(k,v)::t,j=>bif Nat.beq k j then some v else iB t j
def put(fr:Fr)(dst:Option Nat)(v:Value):Fr:=match dst with|some d=>(d,v)::fr|none=>fr
def mf(fr:Fr)(a:Act):Prop:= ∀k v,iB fr k=some v->a.tmps[k]? =some v
structure gD (C:aD) (n:Nat) (fr:Fr) (own:List av) (G:Gh) (a:Act) (w:World):Prop where
 h:bF C own G w
 sz:a.tmps.size=n
 fr:mf fr a
 df:a.defers=C.mks
def St(C:aD)(n:Nat)(fr:Fr)(own:List av)(G:Gh)(Φ:Act->World->Prop):Prop:=
 ∀a w,gD C n fr own G a w->Φ a w
def aA(fr:Fr):Operand->Option Value
 | .tmp k=>iB fr k
 | .const v=>some v
 | .global g=>some (.pointer (some ⟨g,0,none⟩))
 | .func f=>some (.func (.func f) #[] #[])
def bw{fr:Fr}(h:mf fr a)(hx:aA fr x=some v):a.eval x=v:=by
 cases x with
 |tmp k=>
  have:=h k v hx;simp only[Act.eval,cY,this,kW]
 |const u=>simpa[aA,Act.eval] using hx
 |global g=>simpa[aA,Act.eval] using hx
 |func f=>simpa[aA,Act.eval] using hx
def vq(k:Nat)(v:Value)(t:Fr)(j:Nat):iB ((k,v)::t) j=if k=j then some v else iB t j:=by
 simp only[iB];by_cases h:k=j
 .simp[h]
 .have:Nat.beq k j=false:=by
   cases hb:Nat.beq k j with
   |false=>rfl
   |true=>exact absurd (aN hb) h
  simp[this,h]
def b7(n:Nat):Option Nat->Bool
 |some d=>Nat.blt d n
 |none=>true
def mf.put{fr:Fr}{a:Act}{n:Nat}(h:mf fr a)(hs:a.tmps.size=n){dst:Option Nat}{v:Value}(hd:b7 n dst=true):mf (Sx.put fr dst v) (a.put dst v):=by
 cases dst with
 |none=>exact h
 |some d=>
  intro k u hk;have hdn:d<n:=by simpa[b7,mM] using hd
  simp only[Sx.put,vq] at hk;simp only[Act.put,fQ];by_cases hkd:d=k
  .simp only[hkd,if_true] at hk
   subst hkd;simp[hs,hdn,hk]
  .simp only[hkd,if_false] at hk
   simp only[hkd,if_false];exact h k u hk
def NT(a:Act)(dst:Option Nat)(v:Value):(a.put dst v).tmps.size=a.tmps.size:=by cases dst<;>simp[Act.put]
def NN(a:Act)(dst:Option Nat)(v:Value):(a.put dst v).defers=a.defers:=by cases dst<;>simp[Act.put]
def gD.put{C n fr own G a w}(r:gD C n fr own G a w){dst:Option Nat}(v:Value)(hd:b7 n dst=true):gD C n (Sx.put fr dst v) own G (a.put dst v) w:=
 ⟨r.h,by rw[NT];exact r.sz,r.fr.put r.sz hd,by rw[NN];exact r.df⟩
def gD.heap{C n fr own G own' G' a w w'}(r:gD C n fr own G a w)(h:bF C own' G' w'):gD C n fr own' G' a w':=⟨h,r.sz,r.fr,r.df⟩
def c9(P:Program)(ops:Array Oper)(Q:Exit->Act->World->Prop):List Oper->Act->World->Prop
 |[],a,w=>Q .normal a w
 |o::r,a,w=>if Region.wanted o (yielded ops a.tmps) then o.wp P a w (c9 P ops Q r) Q else c9 P ops Q r (a.put o.dst undef) w
def anM: ∀(l:List Nat) (k:Nat) (a:Act) (w:World),l=(List.range ops.size).drop k->c9 P ops Q (ops.toList.drop k) a w->wpOps P ops Q l a w:=by
 intro l
 induction l with
 |nil=>
  intro k a w hl h;have hk:ops.size<=k:=by
   have:=congrArg List.length hl;simp at this;omega
  rw[jJ (by simpa using hk)] at h;exact h
 |cons i t ih=>
  intro k a w hl h;have hk:k<ops.size:=by
   have:=congrArg List.length hl;simp at this;omega
  rw[bQ (by simpa using hk)] at hl;obtain⟨hi,ht⟩:=List.cons.inj hl;simp only[List.getElem_range] at hi;subst hi;rw[bQ (by simpa using hk)] at h;have ho:ops[i]? =some ops[i]:=iQ hk;simp only[wpOps,ho];simp only[c9,Array.getElem_toList] at h;split
  .rename_i hw
   simp only[hw,if_true] at h;exact .inl (Oper.wp_mono (fun a w h=>ih (i+1) a w ht h) h)
  .rename_i hw
   simp only[hw] at h;exact ih (i+1) _ w ht h
def aqw{id:Nat}
  (h:c9 P ops Q ops.toList a w):(Code.region id ops false).wp P Q a w:=
 wp_region (anM _ 0 a w (by simp) (by simpa using h))
def Yd(P:Program)(C:aD)(fr:Fr)(own:List av)(G:Gh)(o:Oper)(v:Value):Prop:=
 ∀a w,mf fr a->bF C own G w->(execOp a.eval o).run P w= .ok (.value v) w
section
variable {fr:Fr}{own:List av}
def rj(hy:Yd P C fr own G o v)(hg:o.guard=none)(hd:b7 n o.dst=true)
  (h:St C n (put fr o.dst v) own G (c9 P ops Q r)):St C n fr own G (c9 P ops Q (o::r)):=by
 intro a w rl;simp only[c9,Region.wanted,hg,if_true,Oper.wp,hy a w rl.fr rl.h,Oper.upon];exact h _ _ (rl.put v hd)
def Fp{b:Bool}(hf:mf fr a)(hj:(ops[j]?).bind (·.dst)=some d)(hl:iB fr d=some (.bool b)):yielded ops a.tmps j=some b:=by
 unfold yielded;rw[hj];simp[hf d _ hl]
def aIP{b:Bool}(hg:o.guard=some (j,b))(hj:(ops[j]?).bind (·.dst)=some d)(hl:iB fr d=some (.bool b))
  (hy:Yd P C fr own G o v)(hd:b7 n o.dst=true)
  (h:St C n (put fr o.dst v) own G (c9 P ops Q r)):St C n fr own G (c9 P ops Q (o::r)):=by
 intro a w rl;have:Region.wanted o (yielded ops a.tmps)=true:=by simp[Region.wanted,hg,Fp rl.fr hj hl]
 simp only[c9,this,if_true,Oper.wp,hy a w rl.fr rl.h,Oper.upon];exact h _ _ (rl.put v hd)
def Yi{b c:Bool}(hg:o.guard=some (j,b))(hj:(ops[j]?).bind (·.dst)=some d)(hl:iB fr d=some (.bool c))(hbc:(c==b)=false)
  (hd:b7 n o.dst=true)(h:St C n (put fr o.dst undef) own G (c9 P ops Q r)):St C n fr own G (c9 P ops Q (o::r)):=by
 intro a w rl;have:Region.wanted o (yielded ops a.tmps)=false:=by simp[Region.wanted,hg,Fp rl.fr hj hl,hbc]
 simp only[c9,this];exact h _ _ (rl.put undef hd)
def zE(h:St C n fr own G (Q .normal)):St C n fr own G (c9 P ops Q []):=h
def dl{id:Nat}(h:St C n fr own G (c9 P ops Q ops.toList)):St C n fr own G ((Code.region id ops false).wp P Q):=
 fun a w rl=>aqw (h a w rl)
def bi{x:Code}(h:St C n fr own G (x.wp P (Exit.then (y.wp P Q) Q))):St C n fr own G ((Code.seq x y).wp P Q):=
 fun a w rl=>wp_seq (h a w rl)
def zK(h:St C n fr own G (Q .normal)):St C n fr own G (Code.skip.wp P Q):=fun a w rl=>wp_skip (h a w rl)
def cg(h:St C n fr own G (Q .ret)):St C n fr own G (Code.ret.wp P Q):=fun a w rl=>wp_ret (h a w rl)
def jl{id:Nat}(h:St C n fr own G (Q (.exit id))):St C n fr own G ((Code.exit id).wp P Q):=fun a w rl=>wp_exit (h a w rl)
def du{id:Nat}{c:Code}(h:St C n fr own G (c.wp P (Exit.inBlock id Q))):St C n fr own G ((Code.block id c).wp P Q):=
 fun a w rl=>wp_block (h a w rl)
def jg{id:Nat}(h:St C n fr own G (Q .normal)):St C n fr own G (Exit.inBlock id Q (.exit id)):=
 fun a w rl=>by simp only[Exit.inBlock,if_true];exact h a w rl
def PX{id:Nat}(hne:Nat.beq j id=false)(h:St C n fr own G (Q (.exit j))):St C n fr own G (Exit.inBlock id Q (.exit j)):=
 fun a w rl=>by
  have:j≠id:=fun e=>by subst e;simp at hne
  simp only[Exit.inBlock,this,if_false];exact h a w rl
def js{x:Code}(hc:aA fr c=some (.bool true))(h:St C n fr own G (x.wp P Q)):St C n fr own G ((Code.cond c x y).wp P Q):=
 fun a w rl=>wp_cond_true (bw rl.fr hc) (h a w rl)
def mP{x:Code}(hc:aA fr c=some (.bool false))(h:St C n fr own G (y.wp P Q)):St C n fr own G ((Code.cond c x y).wp P Q):=
 fun a w rl=>wp_cond_false (bw rl.fr hc) (h a w rl)
def fq{p:Prop}{inst:Decidable p}{x:Code}(hc:aA fr c=some (.bool (@decide p inst)))(h1:p->St C n fr own G (x.wp P Q))(h2: ¬p->St C n fr own G (y.wp P Q)):
  St C n fr own G ((Code.cond c x y).wp P Q):=
 fun a w rl=>wp_cond_split (bw rl.fr hc) (fun h=>h1 (of_decide_eq_true h) a w rl) (fun h=>h2 (of_decide_eq_false h) a w rl)
def YQ{b:Bool}{x:Code}(hc:aA fr c=some (.bool b))(h1:b=true->St C n fr own G (x.wp P Q))(h2:b=false->St C n fr own G (y.wp P Q)):
  St C n fr own G ((Code.cond c x y).wp P Q):=
 fun a w rl=>wp_cond_split (bw rl.fr hc) (fun h=>h1 h a w rl) (fun h=>h2 h a w rl)
def P9(d:Nat){b:Bool}(hl:iB fr d=some (.bool b))(h1:b=true->St C n ((d, .bool true)::fr) own G Φ)(h2:b=false->St C n ((d, .bool false)::fr) own G Φ):St C n fr own G Φ:=by
 intro a w rl
 cases b with
 |true=>exact h1 J a w ⟨rl.h,rl.sz,fun k v hk=>by
   rw[vq] at hk;split at hk
   .subst_vars;cases hk;exact rl.fr _ _ hl
   .exact rl.fr _ _ hk,rl.df⟩
 |false=>exact h2 J a w ⟨rl.h,rl.sz,fun k v hk=>by
   rw[vq] at hk;split at hk
   .subst_vars;cases hk;exact rl.fr _ _ hl
   .exact rl.fr _ _ hk,rl.df⟩
def iD(d:Nat){p:Prop}{inst:Decidable p}(hl:iB fr d=some (.bool (@decide p inst)))(h1:p->St C n ((d, .bool true)::fr) own G Φ)(h2: ¬p->St C n ((d, .bool false)::fr) own G Φ):St C n fr own G Φ:=
 P9 d hl (fun h=>h1 (of_decide_eq_true h)) (fun h=>h2 (of_decide_eq_false h))
def uF(fr' fr:Fr):Prop:= ∀k v,iB fr' k=some v->iB fr k=some v
def uF.nil:uF [] fr:=fun _ _ h=>by cases h
def uF.cons{fr':Fr}{k:Nat}{v:Value}(h:iB fr k=some v)(t:uF fr' fr):uF ((k,v)::fr') fr:=fun j u hj=>by
 rw[vq] at hj;split at hj
 .subst_vars;cases hj;exact h
 .exact t _ _ hj
def Uo(fr':Fr)(hle:uF fr' fr)(h:St C n fr' own G Φ):St C n fr own G Φ:=
 fun a w rl=>h a w ⟨rl.h,rl.sz,fun k v hk=>rl.fr _ _ (hle _ _ hk),rl.df⟩
end
class i6 (own:List av) (b:Nat) (cs:outParam (List Value)) (ty:outParam TypeId) (lo:outParam Bool):Prop where
 mem:⟨b,cs,ty,lo⟩∈own
instance i6.i1 (b:Nat) (cs:List Value) (ty:TypeId) (lo:Bool) (t:List av):i6 (⟨b,cs,ty,lo⟩::t) b cs ty lo:=⟨aQ⟩
instance i6.i2 (o:av) (t:List av) (b:Nat) (cs:List Value) (ty:TypeId) (lo:Bool) [h:i6 t b cs ty lo]:i6 (o::t) b cs ty lo:=⟨aJ _ h.mem⟩
inductive fC:List av->Nat->List Value->TypeId->Bool->List Value->List av->Prop
 |hd (b:Nat) (cs cs':List Value) (ty:TypeId) (lo:Bool) (t:List av):fC (⟨b,cs,ty,lo⟩::t) b cs ty lo cs' (⟨b,cs',ty,lo⟩::t)
 |tl (o:av) (t t':List av) (b:Nat) (cs cs':List Value) (ty:TypeId) (lo:Bool) (h:fC t b cs ty lo cs' t'):fC (o::t) b cs ty lo cs' (o::t')
inductive kh:List av->av->List av->Prop
 |hd (o:av) (t:List av):kh (o::t) o t
 |tl (x:av) (t t':List av) (o:av) (h:kh t o t'):kh (x::t) o (x::t')
class GE (A:outParam Gh) (B:Gh):Prop where le:bI A B
class GL (A B:Gh):Prop where le:bI A B
instance GL.refl (A:Gh):GL A A:=⟨bI.refl A⟩
instance GL.step (A B C:Gh) [h:GE B C] [k:GL A B]:GL A C:=⟨k.le.trans h.le⟩
class pw (G:outParam Gh) (b:Nat) (cs:outParam (List Value)):Prop where h:G b=some cs
def pw.up{b:Nat}{cs:List Value}(h:pw A b cs)[k:GL A G]:G b=some cs:=k.le _ _ h.h
def cw:List Value->Nat->Nat->Option (List Value)
 |_,0,0=>some []
 |[],0,_+1=>none
 |v::t,0,k+1=>match cw t 0 k with|some l=>some (v::l)|none=>none
 |[],_+1,_=>none
 |_::t,off+1,k=>cw t off k
def cA:List Value->Nat->List Value->List Value
 |cs,_,[]=>cs
 |cs,off,v::vs=>cA (cs.set off v) (off+1) vs
def qa: ∀(cs:List Value) (off k:Nat) (l:List Value),cw cs off k=some l->l.length=k/\ ∀i,i<k->cs[off+i]? =l[i]?
 |cs,0,0,l,h=>by
  cases cs<;>(simp only[cw] at h;cases h;exact⟨J,fun i hi=>absurd hi (pT _)⟩)
 |[],0,_+1,l,h=>by simp[cw] at h
 |v::t,0,k+1,l,h=>by
  simp only[cw] at h;split at h
  .rename_i l' hl'
   cases h
   obtain⟨h1,h2⟩:=qa t 0 k l' hl';refine⟨by simp[h1],fun i hi=>?_⟩
   cases i with
   |zero=>rfl
   |succ i=>
    have:=h2 i (by omega);simpa using this
  .cases h
 |[],_+1,_,l,h=>by simp[cw] at h
 |_::t,off+1,k,l,h=>by
  simp only[cw] at h;obtain⟨h1,h2⟩:=qa t off k l h;refine⟨h1,fun i hi=>?_⟩;have:=h2 i hi;rw[<-this,show off+1+i=(off+i)+1 by omega];rfl
class lu (P:Program) (t:TypeId) (k:outParam Nat):Prop where
 agg: ∀w,(isAgg t).run P w= .ok true w
 siz: ∀w,(sizeOf t).run P w= .ok k w
class iF (P:Program) (t:TypeId):Prop where
 agg: ∀w,(isAgg t).run P w= .ok false w
 siz: ∀w,(sizeOf t).run P w= .ok 1 w
class gq (P:Program) (t:TypeId) (z:outParam Value):Prop where
 inf:(P.info? t).map (·.zero)=some (some z)
class me (P:Program) (t:TypeId) (f:Nat) (off:outParam Nat):Prop where
 at_: ∀(b o:Nat) w,(Instr.fieldAt t (.pointer (some ⟨b,o,none⟩)) f).run P w= .ok (.pointer (some (Addr.add ⟨b,o,none⟩ off))) w
class cv (P:Program) (t:TypeId) (e s by_:outParam Nat):Prop where
 un:P.underlying t=some (.slice e)
 inf:(P.info? e).map (fun i=>(i.size,i.bytes))=some (s,by_)
def gq.info{P:Program}{t:TypeId}{z:Value}(h:gq P t z): ∃i,P.info? t=some i/\i.zero=some z:=by
 have:=h.inf
 cases hi:P.info? t with
 |none=>rw[hi] at this;cases this
 |some i=>rw[hi] at this;exact⟨i,J,by simpa using this⟩
def cv.info{P:Program}{t e s by_:Nat}(h:cv P t e s by_): ∃i,P.info? e=some i/\i.size=s/\i.bytes=by_:=by
 have:=h.inf
 cases hi:P.info? e with
 |none=>rw[hi] at this;cases this
 |some i=>rw[hi] at this;simp at this;exact⟨i,J,this.1,this.2⟩
def qD(b o n:Nat):Addr.add ⟨b,o,none⟩ n=⟨b,o+n,none⟩:=by
 unfold Addr.add;split
 .subst_vars;rfl
 .rfl
def Sem.run_bind(P:Program)(x:Sem α)(f:α->Sem β): ∀(w:World),(x>>=f).run P w=match x.run P w with| .ok a w'=>(f a).run P w'| .halt h w'=> .halt h w':=by
 show∀w,(Sem.bind x f).run P w=_
 induction x with
 |pure a=>intro w;rfl
 |load m a k ih=>
  intro w;simp only[Sem.bind,Sem.run];split
  .exact ih _ w
  .split
   .exact ih _ w
   .rfl
 |store m a v k ih=>
  intro w
  cases v<;>simp only[Sem.bind,Sem.run]<;>(try rfl)<;>(split<;>first|(split<;>first|rfl|exact ih _)|rfl)
 |new o k ih=>intro w;exact ih _ _
 |shape r k ih=>intro w;exact ih _ _
 |freeze a n k ih=>intro w;exact ih _
 |frozen a k ih=>intro w;exact ih _ _
 |getObj r k ih=>
  intro w;simp only[Sem.bind,Sem.run];split
  .rfl
  .exact ih _ w
  .rfl
 |setObj r o k ih=>
  intro w;simp only[Sem.bind,Sem.run];split
  .rfl
  .exact ih _
  .rfl
 |choose q k ih=>
  intro w;simp only[Sem.bind,Sem.run];split
  .exact ih _ _
  .exact ih _ _
 |sys c k ih=>intro w;exact ih _ _
 |program k ih=>intro w;exact ih _ _
 |mark m k ih=>intro w;exact ih _
 |halt h=>intro w;rfl
def run_pure(P:Program)(a:α)(w:World):(pure a:Sem α).run P w= .ok a w:=rfl
def aP{x:Sem α}{f:α->Sem β}{a:α}(h:x.run P w= .ok a w'):(x>>=f).run P w=(f a).run P w':=by
 rw[Sem.run_bind,h]
def gq.zero{z:Value}(h:gq P t z)(w:World):(zeroValue t).run P w= .ok z w:=by
 obtain⟨i,h1,h2⟩:=h.info;simp[zeroValue,typeInfo,program,Sem.run_bind,Sem.run,h1,h2,run_pure]
def cv.u{t:Nat}(h:cv P t e s by_)(w:World):(underlying t).run P w= .ok (.slice e) w:=by
 simp[underlying,program,Sem.run_bind,Sem.run,h.un,run_pure]
def cv.siz{t:Nat}(h:cv P t e s by_)(w:World):(sizeOf e).run P w= .ok s w:=by
 obtain⟨i,h1,h2,_⟩:=h.info;simp[sizeOf,typeInfo,program,Sem.run_bind,Sem.run,h1,h2,run_pure]
section
variable {fr:Fr}{own:List av}
def D4{b:Nat}{cs:List Value}{ty:TypeId}{fz:Nat×Nat}(h:w.heap[b]? =some (.cells ⟨cs⟩ ty fz))(i:Nat):w.cell? ⟨b,i,none⟩=cs[i]? :=by
 simp[World.cell?,h]
def Ox{a:Addr}(h:w.cell? a=some v):(load a).run P w= .ok v w:=by
 simp[load,Sem.run,h]
def Ja{w:World}{b off:Nat}{l:List Value}: ∀(m i:Nat) (acc:Array Value),(∀j,j<m->w.cell? ⟨b,off+(i+j),none⟩=l[i+j]?)->i+m<=l.length->
  (loadCellsFrom ⟨b,off,none⟩ i m acc).run P w= .ok (acc++((l.drop i).take m).toArray) w
 |0,i,acc,_,_=>by simp[loadCellsFrom,run_pure]
 |m+1,i,acc,h,hl=>by
  have h0:=h 0 (by omega);rw[fK,aZ (by omega)] at h0;unfold loadCellsFrom;rw[aP (a:=l[i]) (w':=w) (by rw[qD];exact Ox h0)];rw[Ja m (i+1) (acc.push l[i]) (fun j hj=>by have:=h (j+1) (by omega);rw[show i+1+j=i+(j+1) by omega];exact this) (by omega)];congr 1;rw[bQ (by omega:i<l.length),oU];apply Array.ext';simp
def Hv{b k:Nat}{cs:List Value}[ht:lu P t k]{ty:TypeId}{fz:Nat×Nat}(h:w.heap[b]? =some (.cells ⟨cs⟩ ty fz))(hl:cw cs off k=some l):
  (loadVar t ⟨b,off,none⟩).run P w= .ok (.agg ⟨l⟩) w:=by
 obtain⟨h1,h2⟩:=qa _ _ _ _ hl;unfold loadVar;rw[aP (ht.agg w)];simp only[if_true];rw[aP (ht.siz w)];unfold loadCells;rw[aP (Ja (l:=l) k 0 #[] (fun j hj=>by rw[D4 h];simpa using h2 j hj) (by omega))];simp[run_pure,<-h1]
def H6{b:Nat}{cs:List Value}[ht:iF P t]{ty:TypeId}{fz:Nat×Nat}(h:w.heap[b]? =some (.cells ⟨cs⟩ ty fz))(hl:cs[off]? =some v):
  (loadVar t ⟨b,off,none⟩).run P w= .ok v w:=by
 unfold loadVar;rw[aP (ht.agg w)];simp only[kZ,if_false];exact Ox (by rw[D4 h];exact hl)
def cE{f:α->Next}{s:Sem α}{a:α}(h:s.run P w= .ok a w'):(do pure (f (<-s)):Sem Next).run P w= .ok (f a) w':=by
 rw[aP h];rfl
def CT{b k:Nat}{cs:List Value}{lo:Bool}{ty:TypeId}
  (hx:aA fr x=some (.pointer (some ⟨b,off,none⟩)))[ho:i6 own b cs ty lo][lu P t k](hl:cw cs off k=some l):
  Yd P C fr own G ⟨dst, .load t x,ty',pos,af,gd⟩ (.agg ⟨l⟩):=by
 intro a w hf hh;simp only[execOp,bw hf hx,Instr.loadAt,Instr.sureAddr];exact cE (Hv (hh.hown _ ho.mem).1 hl)
def ik{b:Nat}{cs:List Value}{lo:Bool}{ty:TypeId}
  (hx:aA fr x=some (.pointer (some ⟨b,off,none⟩)))[ho:i6 own b cs ty lo][iF P t](hl:cs[off]? =some v):
  Yd P C fr own G ⟨dst, .load t x,ty',pos,af,gd⟩ v:=by
 intro a w hf hh;simp only[execOp,bw hf hx,Instr.loadAt,Instr.sureAddr];exact cE (H6 (hh.hown _ ho.mem).1 hl)
def E8{b k:Nat}{cs:List Value}
  (hx:aA fr x=some (.pointer (some ⟨b,off,none⟩)))(hg:G b=some cs)[lu P t k](hl:cw cs off k=some l):
  Yd P C fr own G ⟨dst, .load t x,ty',pos,af,gd⟩ (.agg ⟨l⟩):=by
 intro a w hf hh;obtain⟨ty,fz,hb⟩:=hh.sub _ _ hg;simp only[execOp,bw hf hx,Instr.loadAt,Instr.sureAddr];exact cE (Hv hb hl)
def p8{b:Nat}{cs:List Value}
  (hx:aA fr x=some (.pointer (some ⟨b,off,none⟩)))(hg:G b=some cs)[iF P t](hl:cs[off]? =some v):
  Yd P C fr own G ⟨dst, .load t x,ty',pos,af,gd⟩ v:=by
 intro a w hf hh;obtain⟨ty,fz,hb⟩:=hh.sub _ _ hg;simp only[execOp,bw hf hx,Instr.loadAt,Instr.sureAddr];exact cE (H6 hb hl)
variable {y:Operand}
def c8(hx:aA fr x=some v):Yd P C fr own G ⟨dst, .move x,ty',pos,af,gd⟩ v:=by
 intro a w hf hh;simp only[execOp,bw hf hx];rfl
def Kz(hx:aA fr x=some v):Yd P C fr own G ⟨dst, .assign x,ty',pos,af,gd⟩ v:=by
 intro a w hf hh;simp only[execOp,bw hf hx];rfl
def m5(hc:aA fr z=some (.bool true))(hx:aA fr x=some v):Yd P C fr own G ⟨dst, .pick z x y,ty',pos,af,gd⟩ v:=by
 intro a w hf hh;simp only[execOp,bw hf hc,bw hf hx,asBool];rfl
def gm(hc:aA fr z=some (.bool false))(hx:aA fr y=some v):Yd P C fr own G ⟨dst, .pick z x y,ty',pos,af,gd⟩ v:=by
 intro a w hf hh;simp only[execOp,bw hf hc,bw hf hx,asBool];rfl
def kI{ad:Addr}(hx:aA fr x=some (.pointer (some ad))):Yd P C fr own G ⟨dst, .nilCheck x,ty',pos,af,gd⟩ (.pointer (some ad)):=by
 intro a w hf hh;simp only[execOp,bw hf hx];rfl
def mh{b o:Nat}[hF:me P t f off](hx:aA fr x=some (.pointer (some ⟨b,o,none⟩))):
  Yd P C fr own G ⟨dst, .fieldAddr t x f,ty',pos,af,gd⟩ (.pointer (some ⟨b,o+off,none⟩)):=by
 intro a w hf hh;simp only[execOp,bw hf hx];have:=hF.at_ b o w;rw[qD] at this;exact cE this
def uw{vs:Array Value}(hx:aA fr x=some (.tuple vs))(hv:vs[i]? =some v):Yd P C fr own G ⟨dst, .extract x i,ty',pos,af,gd⟩ v:=by
 intro a w hf hh;simp only[execOp,bw hf hx,Instr.extract,hv];rfl
def GY{fn:Fn}{c1 c2:Array Operand}(h1:c1.toList.mapM (aA fr)=some l1)(h2:c2.toList.mapM (aA fr)=some l2):
  Yd P C fr own G ⟨dst, .makeFunc fn c1 c2,ty',pos,af,gd⟩ (.func fn ⟨l1⟩ ⟨l2⟩):=by
 intro a w hf hh;have key: ∀(l:List Operand) (m:List Value),l.mapM (aA fr)=some m->l.map a.eval=m:=by
  intro l
  induction l with
  |nil=>intro m h;simp at h;subst h;rfl
  |cons o t ih=>
   intro m h;rw[sQ] at h
   cases ho:aA fr o with
   |none=>simp[ho] at h
   |some u=>
    cases ht:t.mapM (aA fr) with
    |none=>simp[ho,ht] at h
    |some m'=>
     simp[ho,ht] at h;subst h;simp[bw hf ho,ih _ ht]
 have e1:c1.map a.eval=⟨l1⟩:=by apply Array.ext';simpa using key _ _ h1
 have e2:c2.map a.eval=⟨l2⟩:=by apply Array.ext';simpa using key _ _ h2
 simp only[execOp,e1,e2];rfl
def jc{op:BinOp}(hx:aA fr x=some (.int k p))(hy:aA fr y=some (.int k q))(hs: ∀w,(binOp op t (.int k p) (.int k q)).run P w= .ok v w):
  Yd P C fr own G ⟨dst, .binOp op t x y t',ty',pos,af,gd⟩ v:=by
 intro a w hf hh;simp only[execOp,bw hf hx,bw hf hy];have:(eqGuard op t x y (.int k p) (.int k q)).run P w= .ok () w:=by cases op<;>rfl
 exact cE (by rw[aP this];exact hs w)
def Mf(k:IntKind)(p q:Int)(w:World):(binOp .add t (.int k p) (.int k q)).run P w= .ok (.int k (k.wrap (p+q))) w:=by simp[binOp,Op.intArith,run_pure]
def Pd(k:IntKind)(p q:Int)(w:World):(binOp .sub t (.int k p) (.int k q)).run P w= .ok (.int k (k.wrap (p-q))) w:=by simp[binOp,Op.intArith,run_pure]
def Y1(k:IntKind)(p q:Int)(w:World):(binOp .mul t (.int k p) (.int k q)).run P w= .ok (.int k (k.wrap (p*q))) w:=by simp[binOp,Op.intArith,run_pure]
def axk(k:IntKind)(p q:Int)(w:World)(h:q≠0):(binOp .quo t (.int k p) (.int k q)).run P w= .ok (.int k (k.wrap (p.tdiv q))) w:=by simp[binOp,Op.intDiv,run_pure,h]
def U2(k:IntKind)(p q:Int)(w:World)(h:q≠0):(binOp .rem t (.int k p) (.int k q)).run P w= .ok (.int k (p.tmod q)) w:=by simp[binOp,Op.intDiv,run_pure,h]
def awA(k:IntKind)(p q:Int)(w:World):(binOp .lss t (.int k p) (.int k q)).run P w= .ok (.bool (decide (p<q))) w:=by simp[binOp,Op.intCmp,run_pure]
def atZ(k:IntKind)(p q:Int)(w:World):(binOp .leq t (.int k p) (.int k q)).run P w= .ok (.bool (decide (p<=q))) w:=by simp[binOp,Op.intCmp,run_pure]
def UH(k:IntKind)(p q:Int)(w:World):(binOp .gtr t (.int k p) (.int k q)).run P w= .ok (.bool (decide (q<p))) w:=by simp[binOp,Op.intCmp,run_pure]
def Yq(k:IntKind)(p q:Int)(w:World):(binOp .geq t (.int k p) (.int k q)).run P w= .ok (.bool (decide (q<=p))) w:=by simp[binOp,Op.intCmp,run_pure]
def UF(k:IntKind)(p q:Int)(w:World):(binOp .eql t (.int k p) (.int k q)).run P w= .ok (.bool (decide (p=q))) w:=by
 have:(p==q)=decide (p=q):=by rw[rY];simp
 simp[binOp,Op.intCmp,run_pure,this]
def au5(k:IntKind)(p q:Int)(w:World):(binOp .neq t (.int k p) (.int k q)).run P w= .ok (.bool (decide (p≠q))) w:=by
 have:(p !=q)=decide (p≠q):=by rw[rY];simp
 simp[binOp,Op.intCmp,run_pure,this]
def tk(h:k.min<=p/\p<=k.max):k.wrap p=p:=by
 cases k<;>simp only[IntKind.min,IntKind.max,IntKind.wrap,IntKind.bits,IntKind.signed] at* <;>simp at h⊢ <;>(try split)<;>omega
def GR(hx:aA fr x=some (.int k p))(hy:aA fr y=some (.int k q))(h:k.min<=p+q/\p+q<=k.max):Yd P C fr own G ⟨dst, .binOp .add t x y t',ty',pos,af,gd⟩ (.int k (p+q)):=
 jc hx hy fun w=>by rw[Mf,tk h]
def FK(hx:aA fr x=some (.int k p))(hy:aA fr y=some (.int k q))(h:k.min<=p-q/\p-q<=k.max):Yd P C fr own G ⟨dst, .binOp .sub t x y t',ty',pos,af,gd⟩ (.int k (p-q)):=
 jc hx hy fun w=>by rw[Pd,tk h]
def IK(hx:aA fr x=some (.int k p))(hy:aA fr y=some (.int k q))(h:k.min<=p*q/\p*q<=k.max):Yd P C fr own G ⟨dst, .binOp .mul t x y t',ty',pos,af,gd⟩ (.int k (p*q)):=
 jc hx hy fun w=>by rw[Y1,tk h]
def Wh(hx:aA fr x=some (.int k p))(hy:aA fr y=some (.int k q)):Yd P C fr own G ⟨dst, .binOp .add t x y t',ty',pos,af,gd⟩ (.int k (k.wrap (p+q))):=jc hx hy fun w=>Mf k p q w
def wP(hx:aA fr x=some (.int k p))(hy:aA fr y=some (.int k q)):Yd P C fr own G ⟨dst, .binOp .sub t x y t',ty',pos,af,gd⟩ (.int k (k.wrap (p-q))):=jc hx hy fun w=>Pd k p q w
def PP(hx:aA fr x=some (.int k p))(hy:aA fr y=some (.int k q))(h:q≠0):Yd P C fr own G ⟨dst, .binOp .quo t x y t',ty',pos,af,gd⟩ (.int k (k.wrap (p.tdiv q))):=jc hx hy fun w=>axk k p q w h
def QW(hx:aA fr x=some (.int k p))(hy:aA fr y=some (.int k q))(h:q≠0):Yd P C fr own G ⟨dst, .binOp .rem t x y t',ty',pos,af,gd⟩ (.int k (p.tmod q)):=jc hx hy fun w=>U2 k p q w h
def gG(hx:aA fr x=some (.int k p))(hy:aA fr y=some (.int k q)):Yd P C fr own G ⟨dst, .binOp .lss t x y t',ty',pos,af,gd⟩ (.bool (decide (p<q))):=jc hx hy fun w=>awA k p q w
def aFQ(hx:aA fr x=some (.int k p))(hy:aA fr y=some (.int k q)):Yd P C fr own G ⟨dst, .binOp .leq t x y t',ty',pos,af,gd⟩ (.bool (decide (p<=q))):=jc hx hy fun w=>atZ k p q w
def q7(hx:aA fr x=some (.int k p))(hy:aA fr y=some (.int k q)):Yd P C fr own G ⟨dst, .binOp .gtr t x y t',ty',pos,af,gd⟩ (.bool (decide (q<p))):=jc hx hy fun w=>UH k p q w
def qi(hx:aA fr x=some (.int k p))(hy:aA fr y=some (.int k q)):Yd P C fr own G ⟨dst, .binOp .geq t x y t',ty',pos,af,gd⟩ (.bool (decide (q<=p))):=jc hx hy fun w=>Yq k p q w
def fk(hx:aA fr x=some (.int k p))(hy:aA fr y=some (.int k q)):Yd P C fr own G ⟨dst, .binOp .eql t x y t',ty',pos,af,gd⟩ (.bool (decide (p=q))):=jc hx hy fun w=>UF k p q w
def vP(hx:aA fr x=some (.int k p))(hy:aA fr y=some (.int k q)):Yd P C fr own G ⟨dst, .binOp .neq t x y t',ty',pos,af,gd⟩ (.bool (decide (p≠q))):=jc hx hy fun w=>au5 k p q w
def my[hT:cv P t e s by_](hx:aA fr x=some (.slice ad len cap)):
  Yd P C fr own G ⟨dst, .call ⟨.builtin .len, #[x], #[t]⟩,ty',pos,af,gd⟩ (.int .i64 len):=by
 intro a w hf hh;simp only[execOp,resolve,iY,bT,iZ,bw hf hx];have h1:(Builtin.len_ #[t] ty' #[.slice ad len cap]).run P w= .ok (.int .i64 len) w:=by
  simp only[Builtin.len_];show(underlying t>>=_).run P w=_;rw[aP (hT.u w)];rfl
 exact cE h1
def r7[hT:cv P t e s by_]{b:Nat}{i:Int}(hx:aA fr x=some (.slice (some ⟨b,off,none⟩) len cap))(hy:aA fr y=some (.int k i))(h0:0<=i:=by omega)(h1:i<len:=by omega):
  Yd P C fr own G ⟨dst, .indexAddr t x y,ty',pos,af,gd⟩ (.pointer (some ⟨b,off+i.toNat*s,none⟩)):=by
 intro a w hf hh;simp only[execOp,bw hf hx,bw hf hy];have:(Instr.indexAt t (.slice (some ⟨b,off,none⟩) len cap) (.int k i)).run P w= .ok (.pointer (some ⟨b,off+i.toNat*s,none⟩)) w:=by
  unfold Instr.indexAt;show(underlying t>>=_).run P w=_;rw[aP (hT.u w)];show(underlying t>>=_).run P w=_;rw[aP (hT.u w)];simp only[h0,h1,and_self,if_true];show(sizeOf e>>=_).run P w=_;rw[aP (hT.siz w),qD];rfl
 exact cE this
def yx{v:Int}{c:BoundsCode}(w:World)(h0:0<=v)(h1:v<=m):(Instr.sliceBound (.int k v) m c).run P w= .ok v.toNat w:=by
 unfold Instr.sliceBound;simp[asIntOf,h0,h1,run_pure]
def nF(ad:Option Addr)(len cap lo hi mx s:Nat):Value:= .slice (if mx=lo then ad else ad.map (·.add (lo*s))) (hi-lo) (mx-lo)
def Cu[hT:cv P t e s by_](w:World){lo hi mx:Option Value}{l h:Nat}(hb: ∀w,(Instr.sliceBounds true len cap lo hi mx).run P w= .ok (l,h,m) w):
  (Instr.sliceAt t (.slice ad len cap) lo hi mx).run P w= .ok (nF ad len cap l h m s) w:=by
 unfold Instr.sliceAt;rw[aP (hT.u w)];show(Instr.slice t (.slice ad len cap) lo hi mx).run P w=_;unfold Instr.slice;rw[aP (hT.u w)];show(Instr.sliceBounds true len cap lo hi mx>>=_).run P w=_;rw[aP (hb w)];show(sizeOf e>>=_).run P w=_;rw[aP (hT.siz w)];rfl
def yg[hT:cv P t e s by_]{h:Int}(hx:aA fr x=some (.slice ad len cap))(hy:aA fr y=some (.int k h))(h0:0<=h:=by omega)(h1:h<=cap:=by omega):
  Yd P C fr own G ⟨dst, .slice t x none (some y) none,ty',pos,af,gd⟩ (.slice ad h.toNat cap):=by
 intro a w hf hh;simp only[execOp,bw hf hx,bw hf hy,rU,kJ];have:=Cu (P:=P) (t:=t) (ad:=ad) (len:=len) (cap:=cap) w (lo:=none) (hi:=some (.int k h)) (mx:=none) (l:=0) (h:=h.toNat) (m:=cap) (fun w=>by
  simp[Instr.sliceBounds,yx w h0 h1,Result.andThen])
 have e2:nF ad len cap 0 h.toNat cap s= .slice ad h.toNat cap:=by
  unfold nF
  cases ad with
  |none=>simp
  |some ad=>simp[Addr.add]
 rw[<-e2];exact cE this
def Ki[hT:cv P t e s by_]{l:Int}(hx:aA fr x=some (.slice ad len cap))(hy:aA fr y=some (.int k l))(h0:0<=l:=by omega)(h1:l<=len:=by omega):
  Yd P C fr own G ⟨dst, .slice t x (some y) none none,ty',pos,af,gd⟩ (nF ad len cap l.toNat len cap s):=by
 intro a w hf hh;simp only[execOp,bw hf hx,bw hf hy,rU,kJ];exact cE (Cu (P:=P) (t:=t) (ad:=ad) (len:=len) (cap:=cap) w (lo:=some (.int k l)) (hi:=none) (mx:=none) (fun w=>by
  simp[Instr.sliceBounds,yx w h0 h1,Result.andThen]))
def Zn[hT:cv P t e s by_]{l h:Int}(hx:aA fr x=some (.slice ad len cap))(hy:aA fr y=some (.int k l))(hz:aA fr z=some (.int k' h))(h0:0<=l)(h1:l<=h)(h2:h<=cap):
  Yd P C fr own G ⟨dst, .slice t x (some y) (some z) none,ty',pos,af,gd⟩ (nF ad len cap l.toNat h.toNat cap s):=by
 intro a w hf hh;simp only[execOp,bw hf hx,bw hf hy,bw hf hz,rU,kJ];exact cE (Cu (P:=P) (t:=t) (ad:=ad) (len:=len) (cap:=cap) w (lo:=some (.int k l)) (hi:=some (.int k' h)) (mx:=none) (fun w=>by
  have h1':l<=(h.toNat:Int):=by omega
  simp[Instr.sliceBounds,yx w (Int.le_trans h0 h1) h2,yx w h0 h1',Result.andThen]))
def Y0[hT:cv P t e s by_]{h m:Int}(hx:aA fr x=some (.slice ad len cap))(hy:aA fr y=some (.int k h))(hz:aA fr z=some (.int k' m))(h0:0<=h)(h1:h<=m)(h2:m<=cap):
  Yd P C fr own G ⟨dst, .slice t x none (some y) (some z),ty',pos,af,gd⟩ (.slice ad h.toNat m.toNat):=by
 intro a w hf hh;simp only[execOp,bw hf hx,bw hf hy,bw hf hz,rU,kJ];have:=Cu (P:=P) (t:=t) (ad:=ad) (len:=len) (cap:=cap) w (lo:=none) (hi:=some (.int k h)) (mx:=some (.int k' m)) (l:=0) (h:=h.toNat) (m:=m.toNat) (fun w=>by
  have h1':h<=(m.toNat:Int):=by omega
  simp[Instr.sliceBounds,yx w (Int.le_trans h0 h1) h2,yx w h0 h1',Result.andThen])
 have e2:nF ad len cap 0 h.toNat m.toNat s= .slice ad h.toNat m.toNat:=by
  unfold nF
  cases ad with
  |none=>simp
  |some ad=>simp[Addr.add]
 rw[<-e2];exact cE this
class nf (P:Program) (t:TypeId) (k:outParam IntKind):Prop where u: ∀w,(underlying t).run P w= .ok (.int k) w
def DS[hs:nf P t k][hd:nf P t' k'](hx:aA fr x=some (.int k p)):Yd P C fr own G ⟨dst, .convert t t' x,ty',pos,af,gd⟩ (.int k' (k'.wrap p)):=by
 intro a w hf hh;simp only[execOp,bw hf hx];have:(convert t t' (.int k p)).run P w= .ok (.int k' (k'.wrap p)) w:=by
  unfold convert;rw[aP (hs.u w),aP (hd.u w)];rfl
 exact cE this
def GS[hs:nf P t k][hd:nf P t' k'](hx:aA fr x=some (.int k p))(h:k'.min<=p/\p<=k'.max):Yd P C fr own G ⟨dst, .convert t t' x,ty',pos,af,gd⟩ (.int k' p):=by
 have:=DS (P:=P) (C:=C) (own:=own) (G:=G) (dst:=dst) (ty':=ty') (pos:=pos) (af:=af) (gd:=gd) (t:=t) (t':=t') hx;rwa [tk h] at this
def ph{b:Bool}(hx:aA fr x=some (.bool b)):Yd P C fr own G ⟨dst, .unOp .not t x,ty',pos,af,gd⟩ (.bool (!b)):=by
 intro a w hf hh;simp only[execOp,bw hf hx,Op.unary];rfl
def HU(hx:aA fr x=some (.int k p)):Yd P C fr own G ⟨dst, .unOp .neg t x,ty',pos,af,gd⟩ (.int k (k.wrap (0-p))):=by
 intro a w hf hh;simp only[execOp,bw hf hx,Op.unary,Op.intArith];rfl
end
def iG{b:Nat}{o:Obj}(h:w.heap[b]? =some o):b<w.heap.size:=by
 rcases jK b w.heap.size with h'|h'
 .exact h'
 .simp[pJ h'] at h
def bF.gnone{own:List av}(h:bF C own G w){b:Nat}(hb:w.heap.size<=b):G b=none:=by
 cases hG:G b with
 |none=>rfl
 |some cs=>
  obtain⟨ty,fz,hc⟩:=h.sub b cs hG;have:=iG hc;omega
def bF.alloc{C:aD}{own:List av}{G:Gh}{w:World}(h:bF C own G w)(cs:List Value)(ty:TypeId):
  bF C (⟨w.heap.size,cs,ty,true⟩::own) G (w.alloc (.cells ⟨cs⟩ ty)):=by
 have old: ∀b,b<w.heap.size->(w.alloc (.cells ⟨cs⟩ ty)).heap[b]? =w.heap[b]? :=fun b hb=>RowKit.Below.heap_alloc _ _ _ hb;refine⟨h.os,h.tape,h.output,?_,?_,?_,h.gle,h.gold,?_,?_,h.dr,fun p hp=>⟨(h.ext p hp).1,by rw[old _ (iG (h.ext p hp).2)];exact(h.ext p hp).2⟩⟩
 .have:=h.size;simp;omega
 .intro b hb hm;rw[old b (by have:=h.size;omega)];exact h.keep b hb hm
 .intro b cs' hb
  obtain⟨ty',fz,hc⟩:=h.sub b cs' hb;exact⟨ty',fz,by rw[old b (iG hc)];exact hc⟩
 .intro o ho
  rcases aW.1 ho with rfl|ho
  .refine⟨by show(w.heap.push _)[w.heap.size]? =_;simp,h.gnone (bX _),fun _=>h.size,fun e=>by cases e⟩
  .obtain⟨h1,h2⟩:=h.hown o ho
   exact⟨by rw[old _ (iG h1)];exact h1,h2⟩
 .refine List.Pairwise.cons ?_ h.nd
  intro o ho;have:=iG (h.hown o ho).1;show w.heap.size≠o.b;omega
def ig(w:World)(b:Nat)(o:Obj):World:={w with heap:=w.heap.setIfInBounds b o}
def E7{l:List av}:l.Pairwise (fun x y=>x.b≠y.b)↔(l.map (·.b)).Pairwise (· ≠ ·):=by rw[List.pairwise_map]
def fC.spec{own:List av}{b:Nat}{cs:List Value}{ty:TypeId}{lo:Bool}(h:fC own b cs ty lo cs' own')(nd:own.Pairwise (fun x y=>x.b≠y.b)):
  ⟨b,cs,ty,lo⟩∈own/\(∀o,o∈own'->o=⟨b,cs',ty,lo⟩\/(o∈own/\o.b≠b))/\own'.map (·.b)=own.map (·.b):=by
 induction h with
 |hd b cs cs' ty lo t=>
  refine⟨aQ,fun o ho=>?_,J⟩;rcases aW.1 ho with rfl|h
  .exact .inl J
  .exact .inr ⟨aJ _ h,Ne.symm ((cV.1 nd).1 _ h)⟩
 |tl o t t' b cs cs' ty lo h ih=>
  obtain⟨h1,h2,h3⟩:=ih (cV.1 nd).2;refine⟨aJ _ h1,fun x hx=>?_,by simp[h3]⟩;rcases aW.1 hx with rfl|hx
  .exact .inr ⟨aQ,(cV.1 nd).1 _ h1⟩
  .exact(h2 x hx).imp id (fun k=>⟨aJ _ k.1,k.2⟩)
def D8{b k:Nat}{o:Obj}(hk:k≠b):(ig w b o).heap[k]? =w.heap[k]? :=by
 simp only[ig];rw[fQ];simp[Ne.symm hk]
def QY{b:Nat}{o:Obj}(hb:b<w.heap.size):(ig w b o).heap[b]? =some o:=by
 simp only[ig];rw[fQ];simp[hb]
def bF.extNe{own:List av}(h:bF C own G w){p:Nat×Obj}(hp:p∈C.ex){b:Nat}{cs:Array Value}{ty:TypeId}{z:Nat×Nat}(hb:w.heap[b]? =some (.cells cs ty z)):p.1≠b:=fun e=>by
 obtain⟨h1,h2⟩:=h.ext p hp;rw[e,hb] at h2;exact h1 _ _ _ (Option.some.inj h2).symm
def bF.extM(h:bF C (M++rest) G w){p:Nat×Obj}(hp:p∈C.ex):p.1∉M.map (·.b):=fun hm=>by
 obtain⟨m,hm,e⟩:=aT.1 hm;exact h.extNe hp (h.hown m (bU _ hm)).1 e.symm
def bF.store{own:List av}{b:Nat}{cs:List Value}{ty:TypeId}{lo:Bool}(h:bF C own G w)(hu:fC own b cs ty lo cs' own'):
  bF C own' G (ig w b (.cells ⟨cs'⟩ ty (0,0))):=by
 obtain⟨h1,h2,h3⟩:=hu.spec h.nd;obtain⟨hb,hGb,hlo1,hlo2⟩:=h.hown _ h1;have hlt:=iG hb;refine⟨h.os,h.tape,h.output,by simpa[ig] using h.size,?_,?_,h.gle,h.gold,?_,E7.2 (h3▸E7.1 h.nd),h.dr,fun p hp=>⟨(h.ext p hp).1,by rw[D8 (h.extNe hp hb)];exact(h.ext p hp).2⟩⟩
 .intro k hk hm
  by_cases hkb:k=b
  .subst hkb
   cases hlo:lo with
   |true=>have h5:=hlo1 hlo;simp only[] at h5;omega
   |false=>exact absurd (hlo2 hlo) hm
  .rw[D8 hkb];exact h.keep k hk hm
 .intro k cs1 hk
  obtain⟨ty',fz,hc⟩:=h.sub k cs1 hk;have:k≠b:=fun e=>by subst e;rw[show G k=none from hGb] at hk;cases hk
  exact⟨ty',fz,by rw[D8 this];exact hc⟩
 .intro o ho
  rcases h2 o ho with rfl|⟨ho',hne⟩
  .exact⟨QY hlt,hGb,hlo1,hlo2⟩
  .obtain⟨k1,k2⟩:=h.hown o ho'
   exact⟨by rw[D8 hne];exact k1,k2⟩
def kh.spec{own:List av}{o:av}(h:kh own o own')(nd:own.Pairwise (fun x y=>x.b≠y.b)):
  o∈own/\(∀x,x∈own'->x∈own/\x.b≠o.b)/\own'.Pairwise (fun x y=>x.b≠y.b):=by
 induction h with
 |hd o t=>exact⟨aQ,fun x hx=>⟨aJ _ hx,Ne.symm ((cV.1 nd).1 _ hx)⟩,(cV.1 nd).2⟩
 |tl y t t' o h ih=>
  obtain⟨h1,h2,h3⟩:=ih (cV.1 nd).2;refine⟨aJ _ h1,fun x hx=>?_,List.Pairwise.cons (fun x hx=>(cV.1 nd).1 _ (h2 x hx).1) h3⟩;rcases aW.1 hx with rfl|hx
  .exact⟨aQ,(cV.1 nd).1 _ h1⟩
  .exact⟨aJ _ (h2 x hx).1,(h2 x hx).2⟩
def bF.freeze{own:List av}{b:Nat}{cs:List Value}{ty:TypeId}(h:bF C own G w)(hr:kh own ⟨b,cs,ty,true⟩ own'):
  bF C own' (fun k=>if k=b then some cs else G k) w/\bI G (fun k=>if k=b then some cs else G k):=by
 obtain⟨h1,h2,h3⟩:=hr.spec h.nd;obtain⟨hb,hGb,hlo,_⟩:=h.hown _ h1;have hle:bI G (fun k=>if k=b then some cs else G k):=fun k c hk=>by
  have:k≠b:=fun e=>by subst e;rw[show G k=none from hGb] at hk;cases hk
  simp[this,hk]
 refine⟨⟨h.os,h.tape,h.output,h.size,h.keep,?_,h.gle.trans hle,?_,?_,h3,h.dr,h.ext⟩,hle⟩
 .intro k c hk
  by_cases e:k=b
  .subst e;simp only[if_true] at hk;cases hk;exact⟨ty,(0,0),hb⟩
  .simp only[e,if_false] at hk;exact h.sub k c hk
 .intro k hk
  have h5:C.w0.heap.size<=b:=hlo J;have:k≠b:=by omega
  simp only[this,if_false];exact h.gold k hk
 .intro o ho
  obtain⟨k1,k2⟩:=h2 o ho;obtain⟨m1,m2,m3⟩:=h.hown o k1;exact⟨m1,by rw[if_neg k2];exact m2,m3⟩
def bF.drop{own:List av}(h:bF C own G w)(hs:own'.Sublist own):bF C own' G w:=
 ⟨h.os,h.tape,h.output,h.size,h.keep,h.sub,h.gle,h.gold,fun o ho=>h.hown o (hs.subset ho),h.nd.sublist hs,h.dr,h.ext⟩
def bF.perm{own:List av}(h:bF C own G w)(hs:own.Perm own'):bF C own' G w:=
 ⟨h.os,h.tape,h.output,h.size,h.keep,h.sub,h.gle,h.gold,fun o ho=>h.hown o (hs.mem_iff.2 ho),(hs.pairwise_iff (fun h=>Ne.symm h)).1 h.nd,h.dr,h.ext⟩
def bF.drew{own:List av}(h:bF C own G w):bF C own G {w with drawn:=w.drawn+1}:=
 ⟨h.os,h.tape,h.output,h.size,h.keep,h.sub,h.gle,h.gold,h.hown,h.nd,Nat.le_succ_of_le h.dr,h.ext⟩
def uE(P:Program)(f:FuncId):Prop:= ∃fn,P.funcs[f]? =some fn/\(fn.name== "runtime.NumGoroutine")=false/\fn.body.isNone=false
def lh(M:List av)(css:List (List Value)):List av:=(M.zip css).map fun p=>{p.1 with cs:=p.2}
def asB(M:List av):List av:=M.map fun o=>{o with lo:=false}
structure Fn (P:Program) (f:FuncId) (vs:List Value) (G:Gh) (K:Value->Gh->Prop):Prop where
 able:uE P f
 run: ∀w,(∀b cs,G b=some cs-> ∃ty fz,w.heap[b]? =some (.cells ⟨cs⟩ ty fz))->
  Calls P f ⟨vs⟩ w fun e w'=> ∃v G',e= .returned v/\bF ⟨w,G,[],[],[],none,fun _=>none⟩ [] G' w'/\K v G'
structure iE (P:Program) (f:FuncId) (vs:List Value) (M:List av) (G:Gh) (K:Value->List (List Value)->Gh->Prop):Prop where
 able:uE P f
 run: ∀w,bF ⟨w,G,M.map (·.b),[],[],none,fun _=>none⟩ (asB M) G w->
  Calls P f ⟨vs⟩ w fun e w'=> ∃v css G',e= .returned v/\css.length=M.length/\bF ⟨w,G,M.map (·.b),[],[],none,fun _=>none⟩ (lh (asB M) css) G' w'/\K v css G'
def Fn.mono{P:Program}{f:FuncId}{vs:List Value}{G:Gh}{K K':Value->Gh->Prop}(h:Fn P f vs G K)(hk: ∀v G',bI G G'->K v G'->K' v G'):Fn P f vs G K':=
 ⟨h.able,fun w hw=>(h.run w hw).mono fun _ _ ⟨v,G',he,hh,hK⟩=>⟨v,G',he,hh,hk v G' hh.gle hK⟩⟩
def bF.called{own:List av}(h:bF C own G w)(k:bF ⟨w,G,[],[],[],none,fun _=>none⟩ [] G' w'):bF C own G' w':=by
 have same: ∀b o,w.heap[b]? =some o->w'.heap[b]? =some o:=fun b o hb=>by rw[k.keep b (iG hb) (by simp)];exact hb
 have hsz:w.heap.size<=w'.heap.size:=k.size;refine⟨k.os.trans h.os,k.tape.trans h.tape,k.output.trans h.output,cS h.size hsz,?_,k.sub,h.gle.trans k.gle,?_,?_,h.nd,cS h.dr k.dr,fun p hp=>⟨(h.ext p hp).1,same _ _ (h.ext p hp).2⟩⟩
 .intro b hb hm;have:=h.size;rw[k.keep b (by show b<w.heap.size;omega) (by simp)];exact h.keep b hb hm
 .intro b hb;have:=h.size;rw[k.gold b (by show b<w.heap.size;omega)];exact h.gold b hb
 .intro o ho
  obtain⟨h1,h2,h3⟩:=h.hown o ho;exact⟨same _ _ h1,by rw[k.gold _ (iG h1)];exact h2,h3⟩
def aEd(M:List av)(css:List (List Value))(h:css.length=M.length):(lh M css).map (·.b)=M.map (·.b):=by
 induction M generalizing css with
 |nil=>simp[lh]
 |cons o M ih=>
  cases css with
  |nil=>simp at h
  |cons c css=>simp only[bJ,Nat.add_right_cancel_iff] at h;simpa[lh] using ih css h
def TR{o:av}(ho:o∈lh M css): ∃c∈css,∃m∈M,o={m with cs:=c}/\{m with cs:=c,lo:=false}∈lh (asB M) css:=by
 induction M generalizing css with
 |nil=>simp[lh] at ho
 |cons x M ih=>
  cases css with
  |nil=>simp[lh] at ho
  |cons c css=>
   simp only[lh,List.zip_cons_cons,bT,aW] at ho;rcases ho with rfl|ho
   .exact⟨c,aQ,x,aQ,J,by simp[lh,asB]⟩
   .obtain⟨c',hc',m,hm,e,hh⟩:=ih ho
    refine⟨c',aJ _ hc',m,aJ _ hm,e,?_⟩;simp only[lh,asB,bT,List.zip_cons_cons,aW];exact .inr hh
def bF.lend(h:bF C (M++rest) G w):bF ⟨w,G,M.map (·.b),[],[],none,fun _=>none⟩ (asB M) G w:=by
 refine⟨J,J,J,bX _,fun _ _ _=>J,h.sub,bI.refl _,fun _ _=>J,?_,?_,bX _,fun p hp=>by cases hp⟩
 .intro o ho
  obtain⟨m,hm,rfl⟩:=aT.1 ho;obtain⟨h1,h2,_⟩:=h.hown m (bU _ hm);exact⟨h1,h2,by simp,fun _=>aT.2 ⟨m,hm,J⟩⟩
 .have:=(gM.1 h.nd).1
  unfold asB;rw[List.pairwise_map];exact this
def bF.calledM(h:bF C (M++rest) G w)(hl:css.length=M.length)(k:bF ⟨w,G,M.map (·.b),[],[],none,fun _=>none⟩ (lh (asB M) css) G' w'):
  bF C (lh M css++rest) G' w':=by
 have hsz:w.heap.size<=w'.heap.size:=k.size;have hnd:=h.nd;have inM: ∀b,b∈M.map (·.b)-> ∀o∈rest,o.b≠b:=fun b hb o ho e=>by
  obtain⟨m,hm,rfl⟩:=aT.1 hb;exact(gM.1 hnd).2.2 m hm o ho e.symm
 refine⟨k.os.trans h.os,k.tape.trans h.tape,k.output.trans h.output,cS h.size hsz,?_,k.sub,h.gle.trans k.gle,?_,?_,?_,cS h.dr k.dr,fun p hp=>⟨(h.ext p hp).1,by rw[k.keep _ (iG (h.ext p hp).2) (h.extM hp)];exact(h.ext p hp).2⟩⟩
 .intro b hb hm
  have hs:=h.size;have hnM:b∉M.map (·.b):=fun hb'=>by
   obtain⟨m,hmM,rfl⟩:=aT.1 hb';obtain⟨_,_,h3,h4⟩:=h.hown m (bU _ hmM)
   cases hlo:m.lo with
   |true=>have:=h3 hlo;omega
   |false=>exact hm (h4 hlo)
  rw[k.keep b (by show b<w.heap.size;omega) hnM];exact h.keep b hb hm
 .intro b hb;have:=h.size;rw[k.gold b (by show b<w.heap.size;omega)];exact h.gold b hb
 .intro o ho
  rcases bW.1 ho with ho|ho
  .obtain⟨c,hc,m,hm,rfl,hmem⟩:=TR ho
   obtain⟨k1,k2,_⟩:=k.hown _ hmem;obtain⟨_,_,h3⟩:=h.hown m (bU _ hm);exact⟨k1,k2,h3⟩
  .obtain⟨h1,h2,h3⟩:=h.hown o (bK _ ho)
   have hnM:o.b∉M.map (·.b):=fun hb=>inM _ hb o ho J;exact⟨by rw[k.keep _ (iG h1) hnM];exact h1,by rw[k.gold _ (iG h1)];exact h2,h3⟩
 .rw[E7,bV,aEd _ _ hl,<-bV,<-E7];exact hnd
def Ru{a b:α}{l:List α}:(a::l).set (n+1) b=a::l.set n b:=rfl
def xt{a:α}{l:List α}:(a::l).drop (n+1)=l.drop n:=rfl
abbrev ii:= @inferInstance.{0}
def nb{a b:Nat}(h:Nat.ble a b=true):a<=b:=sT h
def sR{fr:Fr}{own:List av}{id:Nat}(h:St C n fr own G (c9 P ops (Exit.then (y.wp P Q) Q) ops.toList)):St C n fr own G ((Code.seq (Code.region id ops false) y).wp P Q):=bi (dl h)
end Go.Sx
end
section
namespace Go.Sx
open Go
variable {C:aD}{n b off k m i fuel:Nat}{own' M rest own0:List av}{G G0:Gh}{ops:Array Oper}{Q:Exit->Act->World->Prop}{t t' ty' ty:TypeId}{x y fo:Operand}{o:Oper}{Φ:Act->World->Prop}{w w':World}{v z:Value}{a:Act}{lo:Bool}{f:FuncId}{args:Array Operand}{tys:Array TypeId}{vs c1 c2:List Value}{K:Value->List (List Value)->Gh->Prop}{c d:Code}{X:Type}{S:World->Prop}{fin:Nat->Bool}
def aE:Value->List Value
 | .agg ⟨l⟩=>l
 |v=>[v]
def pz(v:Value):v.cells=⟨aE v⟩:=by
 cases v<;>first|rfl|(rename_i a;cases a;rfl)
def flat:Value->Bool
 | .agg _=>false
 | .tuple _=>false
 |_=>true
def fy(fr:Fr):List Operand->Option (List Value)
 |[]=>some []
 |x::t=>match aA fr x,fy fr t with
  |some v,some l=>some (v::l)
  |_,_=>none
def Ba{fr:Fr}{a:Act}(h:mf fr a): ∀{l:List Operand} {vs:List Value},fy fr l=some vs->l.map a.eval=vs
 |[],vs,e=>by simp[fy] at e;subst e;rfl
 |x::t,vs,e=>by
  simp only[fy] at e;split at e
  .rename_i v l hv hl
   cases e
   simp[bw h hv,Ba h hl]
  .cases e
section
variable {P:Program}{fr:Fr}{own:List av}{r:List Oper}
variable {dst:Option Nat}{pos:String}{af:Array Edge}
def Ch(P:Program)(C:aD)(n:Nat)(fr:Fr)(own:List av)(G:Gh)(o:Oper)(Φ:Act->World->Prop):Prop:=
 ∀(a:Act) (w:World) (Q:Exit->Act->World->Prop),gD C n fr own G a w->o.wp P a w Φ Q
def Wv(hg:o.guard=none)(hc:Ch P C n fr own G o (c9 P ops Q r)):St C n fr own G (c9 P ops Q (o::r)):=by
 intro a w rl;simp only[c9,Region.wanted,hg,if_true];exact hc a w _ rl
variable {gd:Option (Nat×Bool)}
def Mi:(newVar ty v).run P w= .ok ⟨w.heap.size,0,none⟩ (w.alloc (.cells ⟨aE v⟩ ty)):=by
 unfold newVar newRow;rw[pz];rfl
def mi(h:(execOp a.eval o).run P w= .ok (.value v) w')(hk:Φ (a.put o.dst v) w'):o.wp P a w Φ Q:=by
 simp only[Oper.wp,h,Oper.upon];exact hk
def qg[hz:gq P t z](hd:b7 n dst=true)(h: ∀b,St C n (put fr dst (.pointer (some ⟨b,0,none⟩))) (⟨b,aE z,t,true⟩::own) G Φ):
  Ch P C n fr own G ⟨dst, .alloc t,ty',pos,af,gd⟩ Φ:=by
 intro a w Q rl;have h1:(Instr.alloc t true (.tuple #[])).run P w= .ok (.pointer (some ⟨w.heap.size,0,none⟩)) (w.alloc (.cells ⟨aE z⟩ t)):=by
  unfold Instr.alloc;rw[aP (hz.zero w)];show(newVar t z>>=_).run P w=_;rw[aP Mi];rfl
 refine mi (cE h1) (h w.heap.size _ _ ?_);exact(rl.heap (rl.h.alloc _ _)).put _ hd
def p7(hx:aA fr x=some v)(hd:b7 n dst=true)(h: ∀b,St C n (put fr dst (.pointer (some ⟨b,0,none⟩))) (⟨b,aE v,t,true⟩::own) G Φ):
  Ch P C n fr own G ⟨dst, .box t x,ty',pos,af,gd⟩ Φ:=by
 intro a w Q rl;have h1:(Instr.box t (a.eval x)).run P w= .ok (.pointer (some ⟨w.heap.size,0,none⟩)) (w.alloc (.cells ⟨aE v⟩ t)):=by
  unfold Instr.box;rw[bw rl.fr hx,aP Mi];rfl
 refine mi (cE h1) (h w.heap.size _ _ ?_);exact(rl.heap (rl.h.alloc _ _)).put _ hd
def ZS{cs:List Value}{fz:Nat×Nat}(h:w.heap[b]? =some (.cells ⟨cs⟩ ty fz)):w.setCell ⟨b,off,none⟩ v=ig w b (.cells ⟨cs.set off v⟩ ty fz):=by
 unfold World.setCell ig;congr 1;apply Array.ext_getElem?;intro i;rw[Array.getElem?_modify,fQ];by_cases hi:b=i
 .subst hi
  have:=iG h;simp only[if_true,h,kJ,this];simp
 .simp[hi]
def av7{cs:List Value}(hv:flat v=true)(h:w.heap[b]? =some (.cells ⟨cs⟩ ty (0,0)))(ho:off<cs.length):
  (store ⟨b,off,none⟩ v).run P w= .ok () (ig w b (.cells ⟨cs.set off v⟩ ty (0,0))):=by
 have hc:w.cell? ⟨b,off,none⟩=some cs[off]:=by rw[D4 h,aZ ho]
 have hf:w.frozen? ⟨b,off,none⟩=false:=by simp[World.frozen?,h]
 cases v<;>first|(simp[flat] at hv;done)|(simp only[store,Sem.run,hc,hf,ZS h];rfl)
def amt(w:World)(b:Nat)(o o':Obj):ig (ig w b o) b o'=ig w b o':=by
 simp[ig]
def YV{o:Obj}(h:w.heap[b]? =some o):ig w b o=w:=by
 unfold ig;congr 1;apply Array.ext_getElem?;intro i;rw[fQ];by_cases hi:b=i
 .subst hi
  have hlt:=iG h;simp only[if_true,hlt];rw[h]
 .simp[hi]
def Bs{b:Nat}{ty:TypeId}: ∀(vs:List Value) (w:World) (off i:Nat) (cs:List Value),(∀v∈vs,flat v=true)->w.heap[b]? =some (.cells ⟨cs⟩ ty (0,0))->off+i+vs.length<=cs.length->
  (storeCells ⟨b,off,none⟩ vs i).run P w= .ok () (ig w b (.cells ⟨cA cs (off+i) vs⟩ ty (0,0)))
 |[],w,off,i,cs,_,h,_=>by
  unfold storeCells cA;rw[YV h];rfl
 |v::vs,w,off,i,cs,hf,h,hl=>by
  unfold storeCells;simp only[bJ] at hl;rw[qD,aP (av7 (hf v aQ) h (by omega))];rw[Bs vs _ off (i+1) (cs.set (off+i) v) (fun u hu=>hf u (aJ _ hu)) (QY (iG h)) (by simp;omega)];rw[amt];rfl
def Ee{cs:List Value}(hx:aA fr x=some (.pointer (some ⟨b,off,none⟩)))(hy:aA fr y=some v)[hs:lu P t k]
  (hu:fC own b cs ty lo (cA cs off (aE v)) own')(hk:(aE v).length=k)(hl:off+k<=cs.length)(hf:(aE v).all flat=true)(hd:b7 n dst=true)(h:St C n (put fr dst undef) own' G Φ):
  Ch P C n fr own G ⟨dst, .store t x y,ty',pos,af,gd⟩ Φ:=by
 intro a w Q rl;have hb:=(rl.h.hown _ (hu.spec rl.h.nd).1).1;have h1:(Instr.storeAt t (a.eval x) (a.eval y)).run P w= .ok () (ig w b (.cells ⟨cA cs off (aE v)⟩ ty (0,0))):=by
  rw[bw rl.fr hx,bw rl.fr hy];simp only[Instr.storeAt,Instr.sureAddr];show(storeVar t ⟨b,off,none⟩ v).run P w=_;unfold storeVar;rw[aP (hs.siz w),pz];simp only[qZ,hk,ne_eq,not_true_eq_false,if_false];have:=Bs (P:=P) (aE v) w off 0 cs (by simpa using hf) hb (by omega);simpa using this
 have h2:(execOp a.eval ⟨dst, .store t x y,ty',pos,af,gd⟩).run P w= .ok .skip (ig w b (.cells ⟨cA cs off (aE v)⟩ ty (0,0))):=by
  simp only[execOp];rw[aP h1];rfl
 simp only[Oper.wp,h2,Oper.upon];exact h _ _ ((rl.heap (rl.h.store hu)).put _ hd)
def pG{cs:List Value}(hx:aA fr x=some (.pointer (some ⟨b,off,none⟩)))(hy:aA fr y=some v)[hs:iF P t]
  (hu:fC own b cs ty lo (cs.set off v) own')(hl:off<cs.length)(hf:flat v=true)(hd:b7 n dst=true)(h:St C n (put fr dst undef) own' G Φ):
  Ch P C n fr own G ⟨dst, .store t x y,ty',pos,af,gd⟩ Φ:=by
 intro a w Q rl;have hb:=(rl.h.hown _ (hu.spec rl.h.nd).1).1;have hc:v.cells= #[v]:=by cases v<;>first|rfl|(simp[flat] at hf)
 have h1:(Instr.storeAt t (a.eval x) (a.eval y)).run P w= .ok () (ig w b (.cells ⟨cs.set off v⟩ ty (0,0))):=by
  rw[bw rl.fr hx,bw rl.fr hy];simp only[Instr.storeAt,Instr.sureAddr];show(storeVar t ⟨b,off,none⟩ v).run P w=_;unfold storeVar;rw[aP (hs.siz w),hc];simp only[qZ,bJ,eX,ne_eq,not_true_eq_false,if_false,eJ];have:=Bs (P:=P) [v] w off 0 cs (by simpa using hf) hb (by simp;omega);simpa[cA] using this
 have h2:(execOp a.eval ⟨dst, .store t x y,ty',pos,af,gd⟩).run P w= .ok .skip (ig w b (.cells ⟨cs.set off v⟩ ty (0,0))):=by
  simp only[execOp];rw[aP h1];rfl
 simp only[Oper.wp,h2,Oper.upon];exact h _ _ ((rl.heap (rl.h.store hu)).put _ hd)
def Jl(h:uE P f)(args:Array Value)(w:World):(callFunc f args).run P w= .ok (.enter f args) w:=by
 obtain⟨fn,h1,h2,h3⟩:=h;unfold callFunc;show(program>>=_).run P w=_;rw[aP (a:=P) (w':=w) J];simp only[h1,h2,h3];rfl
def EZ(h:uE P f)(hf:mf fr a)(ho:aA fr fo=some (.func (.func f) ⟨c1⟩ ⟨c2⟩))(hv:fy fr args.toList=some vs):
  (execOp a.eval ⟨dst, .call ⟨.value fo,args,tys⟩,ty',pos,af,gd⟩).run P w= .ok (.enter f ⟨c1++vs++c2⟩) w:=by
 have e:args.map a.eval=⟨vs⟩:=by apply Array.ext';simpa using Ba hf hv
 simp only[execOp,resolve,bw hf ho,e,Deferred.ofValue];show(invoke (.fn (.func f) ⟨c2⟩) (⟨c1⟩++⟨vs⟩)).run P w=_;simp only[invoke];rw[Jl h];simp
def Lm{K:Value->Gh->Prop}(ho:aA fr fo=some (.func (.func f) ⟨c1⟩ ⟨c2⟩))(hv:fy fr args.toList=some vs)
  (hF:Fn P f (c1++vs++c2) G K)(hd:b7 n dst=true)(h: ∀v (G':Gh),[GE G G']->K v G'->St C n (put fr dst v) own G' Φ):
  Ch P C n fr own G ⟨dst, .call ⟨.value fo,args,tys⟩,ty',pos,af,gd⟩ Φ:=by
 intro a w Q rl;have h2:=EZ (P:=P) (dst:=dst) (ty':=ty') (pos:=pos) (af:=af) (gd:=gd) (tys:=tys) (w:=w) hF.able rl.fr ho hv;simp only[Oper.wp,h2,Oper.upon];refine(hF.run w rl.h.sub).mono ?_;rintro e w' ⟨v,G',rfl,hh,hK⟩;exact @h v G' ⟨hh.gle⟩ hK _ _ ((rl.heap (rl.h.called hh)).put _ hd)
def zC{K:Value->Gh->Prop}(ho:aA fr fo=some (.func (.func f) #[] #[]))(hv:fy fr args.toList=some vs)
  (hF:Fn P f vs G K)(hd:b7 n dst=true)(h: ∀v (G':Gh),[GE G G']->K v G'->St C n (put fr dst v) own G' Φ):
  Ch P C n fr own G ⟨dst, .call ⟨.value fo,args,tys⟩,ty',pos,af,gd⟩ Φ:=
 Lm (c1:=[]) (c2:=[]) ho hv (by simpa using hF) hd h
def V4(ho:aA fr fo=some (.func (.func f) ⟨c1⟩ ⟨c2⟩))(hv:fy fr args.toList=some vs)
  (hp:own.Perm (M++rest))(hF:iE P f (c1++vs++c2) M G K)(hd:b7 n dst=true)(h: ∀v css (G':Gh),[GE G G']->css.length=M.length->K v css G'->St C n (put fr dst v) (lh M css++rest) G' Φ):
  Ch P C n fr own G ⟨dst, .call ⟨.value fo,args,tys⟩,ty',pos,af,gd⟩ Φ:=by
 intro a w Q rl;have h2:=EZ (P:=P) (dst:=dst) (ty':=ty') (pos:=pos) (af:=af) (gd:=gd) (tys:=tys) (w:=w) hF.able rl.fr ho hv;simp only[Oper.wp,h2,Oper.upon];have hh0:=rl.h.perm hp;refine(hF.run w hh0.lend).mono ?_;rintro e w' ⟨v,css,G',rfl,hl,hh,hK⟩;exact @h v css G' ⟨hh.gle⟩ hl hK _ _ ((rl.heap (hh0.calledM hl hh)).put _ hd)
def uO(ho:aA fr fo=some (.func (.func f) #[] #[]))(hv:fy fr args.toList=some vs)
  (hp:own.Perm (M++rest))(hF:iE P f vs M G K)(hd:b7 n dst=true)(h: ∀v css (G':Gh),[GE G G']->css.length=M.length->K v css G'->St C n (put fr dst v) (lh M css++rest) G' Φ):
  Ch P C n fr own G ⟨dst, .call ⟨.value fo,args,tys⟩,ty',pos,af,gd⟩ Φ:=
 V4 (c1:=[]) (c2:=[]) ho hv hp (by simpa using hF) hd h
end
section
variable {P:Program}{fr:Fr}{own:List av}
inductive kz (P:Program) (fr:Fr) (own:List av):List ResultVar->List Value->Prop
 |nil:kz P fr own [] []
 |tmp {t:Nat} {v:Value} {rs:List ResultVar} {vs:List Value} (h:iB fr t=some v) (k:kz P fr own rs vs):kz P fr own (.tmp t::rs) (v::vs)
 |agg {a b k:Nat} {t ty:TypeId} {cs l:List Value} {lo:Bool} {rs:List ResultVar} {vs:List Value} (h:iB fr a=some (.pointer (some ⟨b,0,none⟩))) (ho:i6 own b cs ty lo) (ht:lu P t k) (hl:cw cs 0 k=some l) (h2:kz P fr own rs vs):
   kz P fr own (.cell a t::rs) (.agg ⟨l⟩::vs)
 |sc {a b:Nat} {t ty:TypeId} {cs:List Value} {v:Value} {lo:Bool} {rs:List ResultVar} {vs:List Value} (h:iB fr a=some (.pointer (some ⟨b,0,none⟩))) (ho:i6 own b cs ty lo) (ht:iF P t) (hl:cs[0]? =some v) (h2:kz P fr own rs vs):
   kz P fr own (.cell a t::rs) (v::vs)
def ye(a:Act):ResultVar->Sem Value
 | .tmp t=>pure (a.tmps.getD t undef)
 | .cell x t=>do loadVar t (<-asAddr (a.tmps.getD x undef))
def kz.run{rs:List ResultVar}{vs:List Value}(h:kz P fr own rs vs){a:Act}{w:World}(hf:mf fr a)(hh:bF C own G w):
  (rs.mapM (ye a)).run P w= .ok vs w:=by
 induction h with
 |nil=>rfl
 | @tmp t v rs vs h k ih=>
  rw[sQ];have e:=hf _ _ h;have e2:a.tmps.getD t undef=v:=by rw[cY,e];rfl
  rw[aP (a:=v) (w':=w) (by simp only[ye,e2];exact run_pure _ _ _),aP ih];rfl
 | @agg x b k t ty cs l lo rs vs h ho ht hl h2 ih=>
  rw[sQ];have e:=hf _ _ h;have e2:a.tmps.getD x undef= .pointer (some ⟨b,0,none⟩):=by rw[cY,e];rfl
  rw[aP (a:= .agg ⟨l⟩) (w':=w) (by simp only[ye,e2,asAddr];rw[aP (run_pure _ _ _)];exact Hv (hh.hown _ ho.mem).1 hl),aP ih];rfl
 | @sc x b t ty cs v lo rs vs h ho ht hl h2 ih=>
  rw[sQ];have e:=hf _ _ h;have e2:a.tmps.getD x undef= .pointer (some ⟨b,0,none⟩):=by rw[cY,e];rfl
  rw[aP (a:=v) (w':=w) (by simp only[ye,e2,asAddr];rw[aP (run_pure _ _ _)];exact H6 (hh.hown _ ho.mem).1 hl),aP ih];rfl
def gI:List Value->Value
 |[v]=>v
 |vs=> .tuple ⟨vs⟩
def tC{fn:Func}(hr:kz P fr own fn.results.toList vs)(hf:mf fr a)(hh:bF C own G w):(results fn a.tmps).run P w= .ok (gI vs) w:=by
 have h0:=kz.run (C:=C) (G:=G) hr hf hh;have h1:(fn.results.mapM (ye a)).run P w= .ok (⟨vs⟩:Array Value) w:=by
  rw[<-Array.toArray_toList (xs:=fn.results),List.mapM_toArray,map_eq_pure_bind,aP h0];rfl
 have h2:results fn a.tmps=(do
   let vs<-fn.results.mapM (ye a)
   pure (if h:vs.size=1 then vs[0] else .tuple vs)):=by
  unfold results;congr 1
 rw[h2,aP h1]
 match vs with
 |[]=>rfl
 |[v]=>rfl
 |_::_::_=>rfl
def mv(C:aD)(K:Value->Gh->Prop):Ending->World->Prop:=fun e w'=> ∃v G',e= .returned v/\bF C [] G' w'/\K v G'
def BF(C:aD)(M:List av)(K:Value->List (List Value)->Gh->Prop):Ending->World->Prop:=fun e w'=> ∃v css G',e= .returned v/\css.length=M.length/\bF C (lh (asB M) css) G' w'/\K v css G'
def fg(C:aD)(P:Program)(fn:Func)(R:Ending->World->Prop):Exit->Act->World->Prop:=fun e a w=>C.mks=[]->bodyPost P fn R e a w
def zD{fn:Func}{K:Value->Gh->Prop}(hr:kz P fr own fn.results.toList vs)(hk:K (gI vs) G):St C n fr own G (fg C P fn (mv C K) .ret):=
 fun a w rl hmk=>⟨rl.df.trans hmk,_,tC hr rl.fr rl.h,_,G,J,rl.h.drop (fM _),hk⟩
def Ov{fn:Func}{K:Value->Gh->Prop}(hr:kz P fr own fn.results.toList vs)(hk:K (gI vs) G):St C n fr own G (fg C P fn (mv C K) .normal):=
 fun a w rl hmk=>⟨rl.df.trans hmk,_,tC hr rl.fr rl.h,_,G,J,rl.h.drop (fM _),hk⟩
def lj{fn:Func}{css:List (List Value)}(hr:kz P fr own fn.results.toList vs)(hl:css.length=M.length)(own2:List av)(hp:own.Perm own2)(hs:(lh (asB M) css).Sublist own2)(hk:K (gI vs) css G):St C n fr own G (fg C P fn (BF C M K) .ret):=
 fun a w rl hmk=>⟨rl.df.trans hmk,_,tC hr rl.fr rl.h,_,css,G,J,hl,(rl.h.perm hp).drop hs,hk⟩
def n8:Nat->List Value->Fr
 |_,[]=>[]
 |i,v::t=>(i,v)::n8 (i+1) t
def wZ: ∀(vs:List Value) (i k:Nat) (v:Value),iB (n8 i vs) k=some v-> ∃j,k=i+j/\vs[j]? =some v
 |[],i,k,v,h=>by cases h
 |u::vs,i,k,v,h=>by
  rw[n8,vq] at h;split at h
  .subst_vars;cases h;exact⟨0,J,J⟩
  .obtain⟨j,rfl,hj⟩:=wZ vs (i+1) k v h
   exact⟨j+1,by omega,by simpa using hj⟩
def Fn.introR{fn:Func}{K:Value->Gh->Prop}(hf:P.funcs[f]? =some fn)(hb:fn.body=some c)(hn:(fn.name== "runtime.NumGoroutine")=false)(hm:fn.ntmps=m)(hlen:Nat.ble vs.length m=true)
  (h: ∀C:aD,C.G0=G->C.mb=[]->C.rd=none->(C.fx=fun _=>none)->St C m (n8 0 vs) [] G (c.wp P (fg C P fn (mv C K)))):Fn P f vs G K:=by
 refine⟨⟨fn,hf,hn,by simp[hb]⟩,fun w hw=>?_⟩;have hlen':vs.length<=m:=by simpa using hlen
 have:=calls_of_wp (P:=P) (f:=f) (args:=⟨vs⟩) (w:=w) (R:=mv ⟨w,G,[],[],[],none,fun _=>none⟩ K) hf hb (wp_mono (h ⟨w,G,[],[],[],none,fun _=>none⟩ J J J J _ w
  ⟨⟨J,J,J,bX _,fun _ _ _=>J,hw,bI.refl _,fun _ _=>J,fun o ho=>(by cases ho), .nil,bX _,fun p hp=>by cases hp⟩,by simp;omega,fun k v hk=>by
   obtain⟨j,rfl,hj⟩:=wZ vs 0 k v hk;have hj':=(aY.1 hj).1;rw[lT (by simpa using hj')];simpa using hj,J⟩) fun _ _ _ k=>k J)
 exact this
def Fn.intro{fn:Func}{K:Value->Gh->Prop}(hf:P.funcs[f]? =some fn)(hb:fn.body=some c)(hn:(fn.name== "runtime.NumGoroutine")=false)(hm:fn.ntmps=m)(hlen:Nat.ble vs.length m=true)
  (h: ∀C:aD,C.G0=G->C.mb=[]->St C m (n8 0 vs) [] G (c.wp P (fg C P fn (mv C K)))):Fn P f vs G K:=
 Fn.introR hf hb hn hm hlen fun C a b _ _=>h C a b
def iE.introR{fn:Func}(hf:P.funcs[f]? =some fn)(hb:fn.body=some c)(hn:(fn.name== "runtime.NumGoroutine")=false)(hm:fn.ntmps=m)(hlen:Nat.ble vs.length m=true)
  (h: ∀C:aD,C.G0=G->C.mb=M.map (·.b)->C.rd=none->(C.fx=fun _=>none)->St C m (n8 0 vs) (asB M) G (c.wp P (fg C P fn (BF C M K)))):iE P f vs M G K:=by
 refine⟨⟨fn,hf,hn,by simp[hb]⟩,fun w hw=>?_⟩;have hlen':vs.length<=m:=by simpa using hlen
 have:=calls_of_wp (P:=P) (f:=f) (args:=⟨vs⟩) (w:=w) (R:=BF ⟨w,G,M.map (·.b),[],[],none,fun _=>none⟩ M K) hf hb (wp_mono (h ⟨w,G,M.map (·.b),[],[],none,fun _=>none⟩ J J J J _ w
  ⟨hw,by simp;omega,fun k v hk=>by
   obtain⟨j,rfl,hj⟩:=wZ vs 0 k v hk;have hj':=(aY.1 hj).1;rw[lT (by simpa using hj')];simpa using hj,J⟩) fun _ _ _ k=>k J)
 exact this
def iE.intro{fn:Func}(hf:P.funcs[f]? =some fn)(hb:fn.body=some c)(hn:(fn.name== "runtime.NumGoroutine")=false)(hm:fn.ntmps=m)(hlen:Nat.ble vs.length m=true)
  (h: ∀C:aD,C.G0=G->C.mb=M.map (·.b)->St C m (n8 0 vs) (asB M) G (c.wp P (fg C P fn (BF C M K)))):iE P f vs M G K:=
 iE.introR hf hb hn hm hlen fun C a b _ _=>h C a b
def nH(b:Nat){cs:List Value}(hr:kh own ⟨b,cs,ty,true⟩ own')(h: ∀G':Gh,[GE G G']->[pw G' b cs]->St C n fr own' G' Φ):St C n fr own G Φ:=
 fun a w rl=>by
  obtain⟨h1,h2⟩:=rl.h.freeze hr;exact @h _ ⟨h2⟩ ⟨by simp⟩ a w (rl.heap h1)
def F8(own':List av)(hs:own'.Sublist own)(h:St C n fr own' G Φ):St C n fr own G Φ:=
 fun a w rl=>h a w (rl.heap (rl.h.drop hs))
def Ck(own':List av)(hs:own.Perm own')(h:St C n fr own' G Φ):St C n fr own G Φ:=
 fun a w rl=>h a w (rl.heap (rl.h.perm hs))
def Pu(C:aD)(n:Nat)(F:X->Fr)(O:X->List av)(I:X->Gh->Prop)(μ:X->Nat)(m:Nat)(G:Gh)(a:Act)(w:World):Prop:=
 ∃x G',bI G G'/\I x G'/\μ x<m/\gD C n (F x) (O x) G' a w
def lx(F:X->Fr)(O:X->List av)(I:X->Gh->Prop)(μ:X->Nat)(x0:X)(hI:I x0 G)(hF:uF (F x0) fr)(hO:O x0=own)
  (round: ∀(x:X) (G':Gh),[GE G G']->I x G'->St C n (F x) (O x) G' (c.wp P (Exit.then (Pu C n F O I μ (μ x) G') Q))):St C n fr own G ((Code.loop c).wp P Q):=by
 intro a w rl;subst hO;intro b k cs;have key: ∀m a w,(∃x G',bI G G'/\I x G'/\μ x=m/\gD C n (F x) (O x) G' a w)->
   ∃e a' w',Q e a' w'/\Arrives P (lone (b.at a (.code c:: .inLoop c::k)) cs w) b k cs e a' w':=by
  intro m
  induction m using Nat.strongRecOn with
  |_ m ih=>
   intro a w ⟨x,G',hle,hx,hm,hr⟩;obtain⟨e,a₁,w₁,hq,harr⟩:= @round x G' ⟨hle⟩ hx a w hr b (.inLoop c::k) cs
   cases e with
   |normal=>
    obtain⟨x',G'',hle',hx',hlt,hr'⟩:=hq;obtain⟨e₂,a₂,w₂,hq₂,harr₂⟩:=ih (μ x') (hm▸hlt) a₁ w₁ ⟨x',G'',hle.trans hle',hx',rfl,hr'⟩;exact⟨e₂,a₂,w₂,hq₂, .of_steps (Steps.trans harr (.one step_inLoop)) harr₂⟩
   |exit id=>exact⟨_,a₁,w₁,hq, .pass (x:= .inLoop c) J (fun _ _=> .inl (by simp)) harr⟩
   |goto l=>exact⟨_,a₁,w₁,hq, .pass (x:= .inLoop c) J (fun _ _=> .inl (by simp)) harr⟩
   |ret=>exact⟨_,a₁,w₁,hq, .pass (x:= .inLoop c) J (fun _ _=> .inl (by simp)) harr⟩
   |panic ch=>exact⟨_,a₁,w₁,hq, .pass (x:= .inLoop c) J (fun _ _=> .inl (by simp)) harr⟩
   |outgrown=>exact⟨_,a₁,w₁,hq, .pass (x:= .inLoop c) J (fun _ _=> .inl (by simp)) harr⟩
 obtain⟨e,a',w',q,r⟩:=key (μ x0) a w ⟨x0,G,bI.refl _,hI,rfl,rl.h,rl.sz,fun k v hk=>rl.fr _ _ (hF _ _ hk),rl.df⟩;exact⟨e,a',w',q, .of_steps (.one step_loop) r⟩
def At(C:aD)(n:Nat)(F:X->Fr)(O:X->List av)(I:X->Gh->Prop)(G:Gh)(a:Act)(w:World):Prop:=
 ∃x G',bI G G'/\I x G'/\gD C n (F x) (O x) G' a w
def B8(X:Type)(F:X->Fr)(O:X->List av)(I:X->Gh->Prop)(h1:St C n fr own G (c.wp P (Exit.then (At C n F O I G) Q)))
  (h2: ∀(x:X) (G':Gh),[GE G G']->I x G'->St C n (F x) (O x) G' (d.wp P Q)):St C n fr own G ((Code.seq c d).wp P Q):=by
 intro a w rl;refine wp_seq (wp_mono (h1 a w rl) ?_);intro e a w h
 cases e with
 |normal=>obtain⟨x,G',hle,hI,hr⟩:=h;exact @h2 x G' ⟨hle⟩ hI a w hr
 |_=>exact h
def qP{F:X->Fr}{O:X->List av}{I:X->Gh->Prop}[hg:GL G0 G](x:X)(hI:I x G)(hF:uF (F x) fr)(hO:O x=own):St C n fr own G (At C n F O I G0):=
 fun a w rl=>⟨x,G,hg.le,hI,⟨hO▸rl.h,rl.sz,fun k v hk=>rl.fr _ _ (hF _ _ hk),rl.df⟩⟩
def i7{F:X->Fr}{O:X->List av}{I:X->Gh->Prop}{μ:X->Nat}[hg:GL G0 G](x:X)(hI:I x G)(hμ:μ x<m)(hF:uF (F x) fr)(hO:O x=own):St C n fr own G (Pu C n F O I μ m G0):=
 fun a w rl=>⟨x,G,hg.le,hI,hμ,⟨hO▸rl.h,rl.sz,fun k v hk=>rl.fr _ _ (hF _ _ hk),rl.df⟩⟩
end
def gr(Q:Exit->Act->World->Prop):Exit->Act->World->Prop
 | .panic _,_,_=>False
 |e,a,w=>Q e a w
def gr.imp: ∀(e:Exit) (a:Act) (w:World),gr Q e a w->Q e a w:=fun e a w h=>by
 cases e<;>first|exact h|exact(h:False).elim
section
variable {P:Program}
def uJ(P:Program)(ops:Array Oper)(Q:Exit->Act->World->Prop)(S:World->Prop)(fin:Nat->Bool):Nat->Array Bool->Act->World->Prop
 |0,listed,a,w=>Region.ready .any ops listed=[]/\Q .normal a w
 |fuel+1,listed,a,w=>
  (Region.ready .any ops listed=[]->Q .normal a w)/\
  ∀i∈Region.ready .any ops listed,wpOp P ops Q i (fun a' w'=>(fin i=true\/S w')/\uJ P ops Q S fin fuel (listed.setIfInBounds i true) a' w') a w
def D6: ∀(fuel:Nat) (listed:Array Bool) (a:Act) (w:World),uJ P ops Q S fin fuel listed a w->wpAny P .any ops Q fuel listed a w
 |0,_,_,_,h=>h
 |fuel+1,_,_,_,h=>⟨h.1,fun i hi=>wpOp_mono (fun a' w' h'=>D6 fuel _ a' w' h'.2) (h.2 i hi)⟩
def Jh(ops:Array Oper)(fin:Nat->Bool)(i:Nat):Bool:=
 !fin i&&(List.range ops.size).all fun j=>!fin j||((ops[j]?).map fun o=>o.after.any fun e=>Region.binds .any e&&e.on==i).getD true
def Uh(h:Jh ops fin i=true):fin i=false/\ ∀j oj,ops[j]? =some oj->fin j=true-> ∃e∈oj.after,Region.binds .any e=true/\e.on=i:=by
 simp only[Jh,cZ,iM] at h;refine⟨h.1,fun j oj hoj hf=>?_⟩;have hj:j<ops.size:=(fT.1 hoj).1;have h1:=dK.1 h.2 j (by simpa using hj);rw[hf,hoj] at h1;simp only[Bool.not_true,kJ,kW,Bool.false_or] at h1;obtain⟨e,he,hb⟩:=Array.any_eq_true'.1 h1;simp only[cZ,beq_iff_eq] at hb;exact⟨e,he,hb.1,hb.2⟩
def Z3{i:Nat}{oi:Oper}{v:Value}(hi:ops[i]? =some oi)(hsel: ∀(j:Nat) (o:Oper) cs b,ops[j]? =some o->o.op≠ .select cs b)
  (hQ: ∀c a w,Q (.panic c) (a.put oi.dst v) w->Q (.panic c) a w)(hfi:fin i=false)
  (hfin: ∀j oj,ops[j]? =some oj->fin j=true-> ∃e∈oj.after,Region.binds .any e=true/\e.on=i):
  ∀(fuel:Nat) (listed:Array Bool) (a:Act) (w:World),
   (∀j oj,ops[j]? =some oj->j≠i->listed.getD j true=false->(∀e∈oj.after,Region.binds .any e=true->e.on≠i)->oi.apart ops oj=true)->
   i∈Region.ready .any ops listed->YieldsIf P ops S oi v a->S w->
   uJ P ops Q S fin fuel (listed.setIfInBounds i true) (a.put oi.dst v) w->uJ P ops Q S fin (fuel+1) listed a w:=by
 intro fuel
 induction fuel with
 |zero=>
  intro listed a w _ hr hy hS H;refine⟨fun h=>(by rw[h] at hr;cases hr),fun j hj=>?_⟩;by_cases hji:j=i
  .subst hji;exact hy.wpOp hi hS ⟨.inr hS,H⟩
  .have:=ready_mono hj hji
   rw[H.1] at this
   cases this
 |succ fuel ih=>
  intro listed a w hfree hr hy hS H;refine⟨fun h=>(by rw[h] at hr;cases hr),fun j hj=>?_⟩;by_cases hji:j=i
  .subst hji;exact hy.wpOp hi hS ⟨.inr hS,H⟩
  .have h1:=H.2 j (ready_mono hj hji)
   obtain⟨hjun,oj,hoj,hall⟩:=mem_ready.1 hj;have hnot: ∀e∈oj.after,Region.binds .any e=true->e.on≠i:=fun e he hb heq=>by
    have h1:=hall e he hb;have h0:=(mem_ready.1 hr).1;rw[heq] at h1;rcases jK i listed.size with h'|h'
    .simp[h'] at h0 h1;rw[h0] at h1;cases h1
    .simp[pJ h'] at h1
   have hnf:fin j=false:=by
    cases hf:fin j with
    |false=>rfl
    |true=>obtain⟨e,he,hb,heq⟩:=hfin j oj hoj hf;exact absurd heq (hnot e he hb)
   have h2:=wpOp_putIf hoj (hfree j oj hoj hji hjun hnot) (fun cs b=>hsel i oi cs b hi) (fun cs b=>hsel j oj cs b hoj) hQ hy h1;have hfree': ∀k ok,ops[k]? =some ok->k≠i->(listed.setIfInBounds j true).getD k true=false->
     (∀e∈ok.after,Region.binds .any e=true->e.on≠i)->oi.apart ops ok=true:=fun k ok hk hki hun hno=>by
    refine hfree k ok hk hki ?_ hno;by_cases hjk:j=k
    .subst hjk;exact hjun
    .rw[getD_set_ne true hjk] at hun;exact hun
   refine wpOp_mono (fun a' w' h3=>?_) h2;have hS':S w':=h3.2.1.resolve_left (by rw[hnf];simp);refine⟨.inr hS',ih (listed.setIfInBounds j true) a' w' hfree' (ready_mono hr (Ne.symm hji)) h3.1 hS' ?_⟩;rw[Array.setIfInBounds_comm _ _ hji];exact h3.2.2
def Yg{listed:Array Bool}(hr:Region.ready .any ops listed=[i])
  (h:wpOp P ops Q i (fun a' w'=>(fin i=true\/S w')/\uJ P ops Q S fin fuel (listed.setIfInBounds i true) a' w') a w):uJ P ops Q S fin (fuel+1) listed a w:=
 ⟨fun h0=>absurd (hr.symm.trans h0) (by simp),fun j hj=>by rw[hr,aS] at hj;subst hj;exact h⟩
def Sl(ops:Array Oper)(fin:Nat->Bool)(listed:Array Bool)(i:Nat):Bool:=
 Region.noSelect ops&&Region.free .any ops listed i&&(Region.ready .any ops listed).contains i&&Jh ops fin i
end
class ks (l m:List av):Prop where s:l.Sublist m
instance ks.refl (l:List av):ks l l:=⟨List.Sublist.refl l⟩
instance ks.cons (l m:List av) (o:av) [h:ks l m]:ks l (o::m):=⟨h.s.cons o⟩
def HS(C:aD)(own:List av)(G:Gh):World->Prop:=fun w=> ∃G',bI G G'/\bF C own G' w
section
variable {P:Program}{fr:Fr}{own:List av}
def U7{id:Nat}(fin:Nat->Bool)(hm:P.follows .mixedOrders=true)
  (h:St C n fr own G (uJ P ops (gr Q) (HS C own G) fin ops.size (Array.replicate ops.size false))):St C n fr own G ((Code.region id ops true).wp P Q):=by
 intro a w rl;exact wp_mono (wp_region_any hm (D6 _ _ _ _ (h a _ (rl.heap rl.h.drew)))) gr.imp
def kP{b:Bool}[hs:ks own0 own][hl:GL G0 G](h:St C n fr own G Φ):St C n fr own G (fun a w=>(b=true\/HS C own0 G0 w)/\Φ a w):=
 fun a w rl=>⟨.inr ⟨G,hl.le,rl.h.drop hs.s⟩,h a w rl⟩
def Z0{b:Bool}(hb:b=true)(h:St C n fr own G Φ):St C n fr own G (fun a w=>(b=true\/S w)/\Φ a w):=
 fun a w rl=>⟨.inl hb,h a w rl⟩
end
end Go.Sx
end
