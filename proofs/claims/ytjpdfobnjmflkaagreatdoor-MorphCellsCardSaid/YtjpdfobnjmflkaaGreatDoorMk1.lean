import Derived.Calls
import Derived.Orders
import Derived.OrdersHeld
import Derived.Laws.World
import Derived.Below
import Derived.IntWalk
import Derived.KernelRfl
import Derived.Laws.Append
set_option linter.all false
section
namespace Go.Sx
def J{α:Sort _}{a:α}:a=a:=rfl
open Go
variable {α β:Type}{a:Act}{c x z:Operand}{v:Value}{P:Program}{ops:Array Oper}{Q:Exit->Act->World->Prop}{w w':World}{n j d e s by_ off f i len cap m:Nat}{r:List Oper}{o:Oper}{y:Code}{p q:Int}{Φ:Act->World->Prop}{t ty' t':TypeId}{k k':IntKind}{l l1 l2 cs':List Value}{dst:Option Nat}{pos:String}{af:Array Edge}{ad:Option Addr}{css:List (List Value)}
def aQ:=@List.mem_cons_self
def aZ:=@List.getElem?_eq_getElem
def aX:=@List.length_map
def aJ:=@List.mem_cons_of_mem
def aK:=@List.mem_of_getElem?
def aV:=@List.getD_eq_getElem?_getD
def aW:=@List.mem_cons
def aY:=@List.length_append
def aU:=@List.mem_singleton
def aT:=@List.mem_map
def aR:=@List.getElem?_eq_some_iff
def aS:=@List.length_replicate
def aL:=@List.map_append
def aM:=@Nat.zero_le
def aN:=@Nat.eq_of_beq_eq_true
def bQ:=@List.length_set
def bZ:=@List.length_cons
def bX:=@List.drop_eq_getElem_cons
def bJ:=@List.mem_append
def bK:=@Bool.and_eq_true
def bV:=@List.mem_append_right
def bW:=@Nat.le_refl
def bY:=@Nat.pow_le_pow_right
def bU:=@List.map_cons
def bT:=@List.length_take
def bR:=@List.mem_append_left
def bS:=@Nat.mul_le_mul_right
def bL:=@List.pairwise_cons
def bM:=@Int.toNat_natCast
def cZ:=@Rat.intCast_mul
def cX:=@List.take_of_length_le
def cJ:=@Array.getD_eq_getD_getElem?
def cK:=@Nat.mul_comm
def cV:=@List.eq_nil_of_length_eq_zero
def cW:=@Nat.mul_assoc
def cY:=@Rat.intCast_eq_zero_iff
def cR:=@List.getElem?_map
def cS:=@List.take_length
def cM:=@Nat.lt_of_lt_of_le
def cN:=@Nat.le_trans
def dQ:=@Rat.le_of_lt
def dZ:=@List.take_add_one
def dX:=@List.getElem_mem
def dJ:=@List.all_eq_true
def dK:=@Nat.mod_lt
def dV:=@List.append_assoc
def dW:=@List.forall_mem_cons
def dY:=@Nat.add_mul
def dT:=@List.mem_map_of_mem
def dR:=@Nat.lt_of_le_of_lt
def dS:=@Array.getElem?_setIfInBounds
def eX:=@Int.sign_eq_neg_one_of_neg
def eJ:=@Nat.zero_add
def eK:=@List.getElem?_eq_none
def eY:=@List.length_nil
def eM:=@List.mem_of_mem_take
def fQ:=@Nat.mul_add
def fZ:=@Nat.pow_add
def fX:=@Int.natAbs_natCast
def fJ:=@Rat.mul_eq_zero
def fK:=@List.not_mem_nil
def fV:=@Int.natAbs_mul
def fW:=@List.append_nil
def fY:=@Array.getElem?_eq_some_iff
def fU:=@Int.sign_eq_one_of_pos
def fT:=@Nat.eq_zero_or_pos
def fR:=@Nat.mul_le_mul_left
def fS:=@List.pairwise_append
def fL:=@List.drop_length
def fM:=@Nat.succ_mul
def fN:=@Bool.or_eq_true
def gQ:=@Nat.pow_pos
def gX:=@List.take_append_of_le_length
def gJ:=@Nat.add_zero
def gK:=@Nat.le_of_lt
def gV:=@List.length_drop
def gW:=@List.mem_of_mem_drop
def gU:=@Array.getElem?_eq_getElem
def gT:=@Nat.pow_succ
def gR:=@Int.sign_eq_zero_iff_zero
def gS:=@List.length_singleton
def gL:=@Nat.mul_le_mul
def gM:=@Bool.not_eq_true'
def gN:=@List.cons_append
def iQ:=@List.mem_flatMap
def iZ:=@List.map_nil
def iX:=@List.drop_zero
def iJ:=@List.take_succ_eq_append_getElem
def iK:=@Rat.intCast_sub
def iV:=@Nat.pos_of_ne_zero
def iW:=@Rat.le_refl
def iY:=@List.drop_of_length_le
def iU:=@List.map_take
def iT:=@List.map_toArray
def iR:=@List.any_eq_true
def iS:=@List.foldl_cons
def iL:=@Int.natCast_mul
def iM:=@List.perm_append_comm
def iN:=@List.map_drop
def jQ:=@List.nil_sublist
def jZ:=@List.drop_eq_nil_of_le
def jX:=@Nat.mul_one
def jJ:=@Nat.mul_pos
def jK:=@Nat.lt_or_ge
def jV:=@Nat.gcd_comm
def jW:=@List.map_set
def jY:=@Rat.intCast_neg
def jU:=@List.getElem?_append_right
def jT:=@Int.natAbs_neg
def jR:=@Bool.not_eq_true
def jS:=@List.getElem?_append_left
def jL:=@List.mem_filterMap
def jM:=@List.nil_append
def jN:=@Nat.min_eq_left
def kQ:=@List.mem_range
def kZ:=@Nat.mod_eq_of_lt
def kX:=@List.take_append_drop
def kJ:=@Nat.div_lt_iff_lt_mul
def kK:=@Nat.zero_mul
def kV:=@List.length_range
def kW:=@Bool.false_eq_true
def kY:=@Int.fdiv_eq_ediv_of_nonneg
def kU:=@Int.natAbs_eq_zero
def kR:=@Nat.add_comm
def kS:=@Nat.gcd_dvd_left
def kL:=@Nat.blt_eq
def kM:=@Array.length_toList
def kN:=@List.filterMap_cons
def lQ:=@List.drop_append_of_le_length
def lZ:=@List.flatMap_cons
def lX:=@Nat.add_assoc
def lJ:=@List.length_filterMap_le
def lK:=@Option.map_some
def lV:=@Rat.intCast_add
def lW:=@Int.natAbs_zero
def lY:=@Option.toList_some
def lU:=@Option.getD_some
def lT:=@Bool.or_eq_false_iff
def lR:=@Array.getElem?_append_left
def lS:=@List.ext_getElem?
def lL:=@Int.ofNat_natAbs_of_nonpos
def lM:=@Nat.beq_refl
def lN:=@Nat.gcd_dvd_right
def mQ:=@Nat.eq_zero_of_gcd_eq_zero_right
def mZ:=@List.length_pos_iff
def mX:=@Rat.num_eq_zero
def mJ:=@Nat.eq_zero_of_gcd_eq_zero_left
def mK:=@List.getElem?_drop
def mV:=@List.append_of_mem
def mW:=@Nat.div_eq_of_lt
def mY:=@List.length_dropLast
def mU:=@Nat.le_mul_of_pos_right
def mT:=@Nat.mul_left_comm
def mS:=@Nat.gcd_pos_of_pos_left
def mL:=@List.foldl_append
def mM:=@Nat.div_le_self
def mN:=@Rat.num_intCast
def nQ:=@Rat.den_intCast
def nZ:=@List.sublist_cons_self
def nX:=@Nat.mul_lt_mul_of_pos_right
def nJ:=@Nat.one_mul
def nK:=@List.drop_append
def nV:=@Rat.mkRat_eq_div
def nW:=@Nat.mul_right_comm
def nY:=@Nat.add_sub_cancel
def nU:=@Nat.mul_lt_mul_of_lt_of_le
def nT:=@Nat.gcd_zero_right
def nR:=@List.set_append_right
def nS:=@List.eq_nil_or_concat
def nL:=@List.concat_eq_append
def nM:=@List.getLast?_eq_getElem?
def nN:=@Int.natAbs_ediv_le_natAbs
def oQ:=@Int.natAbs_of_nonneg
def oZ:=@Rat.neg_num
def oX:=@List.mem_iff_getElem
def oJ:=@Nat.pow_lt_pow_iff_right
def oK:=@List.sublist_append_left
def oV:=@List.take_succ_cons
def oW:=@List.getD_cons_succ
def oY:=@List.takeWhile_cons
def oU:=@Nat.le_add_right
def oT:=@List.perm_middle
def oR:=@Nat.mul_lt_mul''
def oS:=@List.countP_cons
def oL:=@Array.getElem?_eq_none
def oM:=@List.getElem?_take
def oN:=@List.getElem_cons_zero
def pQ:=@Int.mul_eq_zero
def pZ:=@List.mem_filter
def pX:=@Array.getElem?_toList
def pJ:=@List.length_filter_le
def pK:=@List.filterMap_append
def pV:=@List.size_toArray
def pW:=@Int.lt_trichotomy
def pY:=@List.getElem?_set
def pU:=@Nat.add_mul_div_left
def pT:=@Array.toList_map
def pR:=@Nat.sub_self
def pS:=@List.getElem_map
def pL:=@Int.le_of_lt
def pM:=@List.isEmpty_iff
def pN:=@Nat.le_max_right
def qQ:=@List.mem_or_eq_of_mem_set
def qZ:=@Nat.add_mul_mod_self_left
def qX:=@List.pairwise_iff_getElem
def qJ:=@List.getElem?_range
def qK:=@Int.toNat_of_nonneg
def qV:=@List.take_replicate
def qW:=@List.getD_cons_zero
def qY:=@List.flatMap_append
def qU:=@Option.isSome_iff_exists
def qT:=@Array.getElem?_replicate
def qR:=@Nat.gcd_pos_of_pos_right
def qS:=@Nat.dvd_trans
def qL:=@Bool.eq_iff_iff
def qM:=@Option.map_none
def qN:=@Nat.div_add_mod
def rQ:=@Rat.intCast_inj
def rZ:=@Nat.le_max_left
def rX:=@List.range_succ
def rJ:=@Array.foldl_toList
def rK:=@Rat.div_mul_cancel
def rW:=@List.filterMap_nil
def rY:=@Int.natCast_dvd_natCast
def rU:=@Nat.mul_div_cancel_left
def rT:=@List.mapM_cons
def rR:=@List.flatten_cons
def rS:=@Int.mul_comm
def rL:=@Nat.lt_trichotomy
def rM:=@Rat.mkRat_self
def rN:=@Rat.num_nonneg
def sQ:=@List.forall_mem_append
def sZ:=@List.all_eq_false
def sX:=@List.getElem?_set_self
def sJ:=@Nat.div_div_eq_div_mul
def sV:=@Bool.or_true
def sW:=@Nat.le_div_iff_mul_le
def sY:=@Int.natCast_ediv
def sU:=@Nat.le_of_not_lt
def sT:=@Bool.true_and
def sS:=@Rat.mkRat_one
def sL:=@List.all_cons
def sM:=@List.sum_cons
def sN:=@Rat.neg_den
def tQ:=@Nat.not_lt_zero
def tZ:=@List.sum_append
def tX:=@Array.toList_zipIdx
def tJ:=@List.replicate_succ
def tK:=@List.drop_set_of_lt
def tV:=@List.drop_succ_cons
def tW:=@List.map_eq_nil_iff
def tY:=@Nat.mul_zero
def tU:=@Nat.lt_trans
def tL:=@Nat.pow_zero
def tM:=@List.take_zero
def tN:=@Nat.pow_mul
def uQ:=@Nat.gcd_rec
def uZ:=@Nat.div_one
abbrev Gh:=Nat->Option (List Value)
variable {G G':Gh}
def bI(G G':Gh):Prop:= ∀b cs,G b=some cs->G' b=some cs
def bI.refl(G:Gh):bI G G:=fun _ _ h=>h
def bI.trans{a b c:Gh}(h:bI a b)(k:bI b c):bI a c:=fun _ _ x=>k _ _ (h _ _ x)
structure aA where
 b:Nat
 cs:List Value
 ty:TypeId
 lo:Bool
variable {own' M rest:List aA}
structure aF where
 w0:World
 G0:Gh
 mb:List Nat
 /-- other objects that stay: records of loops, marks -/
 ex:List (Nat×Obj)
 /-- the marks among the deferred calls; the round -/
 mks:List Deferred
 rd:Option Nat
 /-- where names that are fixed lie -/
 fx:Nat->Option Addr
variable {C:aF}
structure bF (C:aF) (own:List aA) (G:Gh) (w:World):Prop where
 os:w.os=C.w0.os
 tape:w.tape=C.w0.tape
 output:w.output=C.w0.output
 size:C.w0.heap.size<=w.heap.size
 keep: ∀b,b<C.w0.heap.size->b∉C.mb->w.heap[b]? =C.w0.heap[b]?
 sub: ∀b cs,G b=some cs-> ∃ty fz,w.heap[b]? =some (.cells ⟨cs⟩ ty fz)
 gle:bI C.G0 G
 gold: ∀b,b<C.w0.heap.size->G b=C.G0 b
 hown: ∀o∈own,w.heap[o.b]? =some (.cells ⟨o.cs⟩ o.ty (0,0))/\G o.b=none/\(o.lo=true->C.w0.heap.size<=o.b)/\(o.lo=false->o.b∈C.mb)
 nd:own.Pairwise (fun x y=>x.b≠y.b)
 dr:C.w0.drawn<=w.drawn
 ext: ∀p∈C.ex,(∀cs ty z,p.2≠ .cells cs ty z)/\w.heap[p.1]? =some p.2
abbrev Fr:=List (Nat×Value)
def iq:Fr->Nat->Option Value
 |[],_=>none
 |(k,v)::t,j=>bif Nat.beq k j then some v else iq t j
def put(fr:Fr)(dst:Option Nat)(v:Value):Fr:=match dst with|some d=>(d,v)::fr|none=>fr
def kB(fr:Fr)(a:Act):Prop:= ∀k v,iq fr k=some v->a.tmps[k]? =some v
structure gq (C:aF) (n:Nat) (fr:Fr) (own:List aA) (G:Gh) (a:Act) (w:World):Prop where
 h:bF C own G w
 sz:a.tmps.size=n
 fr:kB fr a
 df:a.defers=C.mks
def St(C:aF)(n:Nat)(fr:Fr)(own:List aA)(G:Gh)(Φ:Act->World->Prop):Prop:=
 ∀a w,gq C n fr own G a w->Φ a w
def aB(fr:Fr):Operand->Option Value
 | .tmp k=>iq fr k
 | .const v=>some v
 | .global g=>some (.pointer (some ⟨g,0,none⟩))
 | .func f=>some (.func (.func f) #[] #[])
def bB{fr:Fr}(h:kB fr a)(hx:aB fr x=some v):a.eval x=v:=by
 cases x with
 |tmp k=>
  have:=h k v hx;simp only[Act.eval,cJ,this,lU]
 |const u=>simpa[aB,Act.eval] using hx
 |global g=>simpa[aB,Act.eval] using hx
 |func f=>simpa[aB,Act.eval] using hx
def tO(k:Nat)(v:Value)(t:Fr)(j:Nat):iq ((k,v)::t) j=if k=j then some v else iq t j:=by
 simp only[iq];by_cases h:k=j
 .simp[h]
 .have:Nat.beq k j=false:=by
   cases hb:Nat.beq k j with
   |false=>rfl
   |true=>exact absurd (aN hb) h
  simp[this,h]
def ce(n:Nat):Option Nat->Bool
 |some d=>Nat.blt d n
 |none=>true
def kB.put{fr:Fr}{a:Act}{n:Nat}(h:kB fr a)(hs:a.tmps.size=n){dst:Option Nat}{v:Value}(hd:ce n dst=true):kB (Sx.put fr dst v) (a.put dst v):=by
 cases dst with
 |none=>exact h
 |some d=>
  intro k u hk;have hdn:d<n:=by simpa[ce,kL] using hd
  simp only[Sx.put,tO] at hk;simp only[Act.put,dS];by_cases hkd:d=k
  .simp only[hkd,if_true] at hk
   subst hkd;simp[hs,hdn,hk]
  .simp only[hkd,if_false] at hk
   simp only[hkd,if_false];exact h k u hk
def MN(a:Act)(dst:Option Nat)(v:Value):(a.put dst v).tmps.size=a.tmps.size:=by cases dst<;>simp[Act.put]
def M5(a:Act)(dst:Option Nat)(v:Value):(a.put dst v).defers=a.defers:=by cases dst<;>simp[Act.put]
def gq.put{C n fr own G a w}(r:gq C n fr own G a w){dst:Option Nat}(v:Value)(hd:ce n dst=true):gq C n (Sx.put fr dst v) own G (a.put dst v) w:=
 ⟨r.h,by rw[MN];exact r.sz,r.fr.put r.sz hd,by rw[M5];exact r.df⟩
def gq.heap{C n fr own G own' G' a w w'}(r:gq C n fr own G a w)(h:bF C own' G' w'):gq C n fr own' G' a w':=⟨h,r.sz,r.fr,r.df⟩
def c9(P:Program)(ops:Array Oper)(Q:Exit->Act->World->Prop):List Oper->Act->World->Prop
 |[],a,w=>Q .normal a w
 |o::r,a,w=>if Region.wanted o (yielded ops a.tmps) then o.wp P a w (c9 P ops Q r) Q else c9 P ops Q r (a.put o.dst undef) w
def Xw: ∀(l:List Nat) (k:Nat) (a:Act) (w:World),l=(List.range ops.size).drop k->c9 P ops Q (ops.toList.drop k) a w->wpOps P ops Q l a w:=by
 intro l
 induction l with
 |nil=>
  intro k a w hl h;have hk:ops.size<=k:=by
   have:=congrArg List.length hl;simp at this;omega
  rw[jZ (by simpa using hk)] at h;exact h
 |cons i t ih=>
  intro k a w hl h;have hk:k<ops.size:=by
   have:=congrArg List.length hl;simp at this;omega
  rw[bX (by simpa using hk)] at hl;obtain⟨hi,ht⟩:=List.cons.inj hl;simp only[List.getElem_range] at hi;subst hi;rw[bX (by simpa using hk)] at h;have ho:ops[i]? =some ops[i]:=gU hk;simp only[wpOps,ho];simp only[c9,Array.getElem_toList] at h;split
  .rename_i hw
   simp only[hw,if_true] at h;exact .inl (Oper.wp_mono (fun a w h=>ih (i+1) a w ht h) h)
  .rename_i hw
   simp only[hw] at h;exact ih (i+1) _ w ht h
def apY{id:Nat}
  (h:c9 P ops Q ops.toList a w):(Code.region id ops false).wp P Q a w:=
 wp_region (Xw _ 0 a w (by simp) (by simpa using h))
def Yd(P:Program)(C:aF)(fr:Fr)(own:List aA)(G:Gh)(o:Oper)(v:Value):Prop:=
 ∀a w,kB fr a->bF C own G w->(execOp a.eval o).run P w= .ok (.value v) w
section
variable {fr:Fr}{own:List aA}
def pu(hy:Yd P C fr own G o v)(hg:o.guard=none)(hd:ce n o.dst=true)
  (h:St C n (put fr o.dst v) own G (c9 P ops Q r)):St C n fr own G (c9 P ops Q (o::r)):=by
 intro a w rl;simp only[c9,Region.wanted,hg,if_true,Oper.wp,hy a w rl.fr rl.h,Oper.upon];exact h _ _ (rl.put v hd)
def Gv{b:Bool}(hf:kB fr a)(hj:(ops[j]?).bind (·.dst)=some d)(hl:iq fr d=some (.bool b)):yielded ops a.tmps j=some b:=by
 unfold yielded;rw[hj];simp[hf d _ hl]
def T3{b:Bool}(hg:o.guard=some (j,b))(hj:(ops[j]?).bind (·.dst)=some d)(hl:iq fr d=some (.bool b))
  (hy:Yd P C fr own G o v)(hd:ce n o.dst=true)
  (h:St C n (put fr o.dst v) own G (c9 P ops Q r)):St C n fr own G (c9 P ops Q (o::r)):=by
 intro a w rl;have:Region.wanted o (yielded ops a.tmps)=true:=by simp[Region.wanted,hg,Gv rl.fr hj hl]
 simp only[c9,this,if_true,Oper.wp,hy a w rl.fr rl.h,Oper.upon];exact h _ _ (rl.put v hd)
def ZV{b c:Bool}(hg:o.guard=some (j,b))(hj:(ops[j]?).bind (·.dst)=some d)(hl:iq fr d=some (.bool c))(hbc:(c==b)=false)
  (hd:ce n o.dst=true)(h:St C n (put fr o.dst undef) own G (c9 P ops Q r)):St C n fr own G (c9 P ops Q (o::r)):=by
 intro a w rl;have:Region.wanted o (yielded ops a.tmps)=false:=by simp[Region.wanted,hg,Gv rl.fr hj hl,hbc]
 simp only[c9,this];exact h _ _ (rl.put undef hd)
def zE(h:St C n fr own G (Q .normal)):St C n fr own G (c9 P ops Q []):=h
def Dl{id:Nat}(h:St C n fr own G (c9 P ops Q ops.toList)):St C n fr own G ((Code.region id ops false).wp P Q):=
 fun a w rl=>apY (h a w rl)
def eO{x:Code}(h:St C n fr own G (x.wp P (Exit.then (y.wp P Q) Q))):St C n fr own G ((Code.seq x y).wp P Q):=
 fun a w rl=>wp_seq (h a w rl)
def zK(h:St C n fr own G (Q .normal)):St C n fr own G (Code.skip.wp P Q):=fun a w rl=>wp_skip (h a w rl)
def lf(h:St C n fr own G (Q .ret)):St C n fr own G (Code.ret.wp P Q):=fun a w rl=>wp_ret (h a w rl)
def Pk{id:Nat}(h:St C n fr own G (Q (.exit id))):St C n fr own G ((Code.exit id).wp P Q):=fun a w rl=>wp_exit (h a w rl)
def wA{id:Nat}{c:Code}(h:St C n fr own G (c.wp P (Exit.inBlock id Q))):St C n fr own G ((Code.block id c).wp P Q):=
 fun a w rl=>wp_block (h a w rl)
def M'{id:Nat}(h:St C n fr own G (Q .normal)):St C n fr own G (Exit.inBlock id Q (.exit id)):=
 fun a w rl=>by simp only[Exit.inBlock,if_true];exact h a w rl
def sg{x:Code}(hc:aB fr c=some (.bool true))(h:St C n fr own G (x.wp P Q)):St C n fr own G ((Code.cond c x y).wp P Q):=
 fun a w rl=>wp_cond_true (bB rl.fr hc) (h a w rl)
def ri{x:Code}(hc:aB fr c=some (.bool false))(h:St C n fr own G (y.wp P Q)):St C n fr own G ((Code.cond c x y).wp P Q):=
 fun a w rl=>wp_cond_false (bB rl.fr hc) (h a w rl)
def ut{p:Prop}{inst:Decidable p}{x:Code}(hc:aB fr c=some (.bool (@decide p inst)))(h1:p->St C n fr own G (x.wp P Q))(h2: ¬p->St C n fr own G (y.wp P Q)):
  St C n fr own G ((Code.cond c x y).wp P Q):=
 fun a w rl=>wp_cond_split (bB rl.fr hc) (fun h=>h1 (of_decide_eq_true h) a w rl) (fun h=>h2 (of_decide_eq_false h) a w rl)
def Yq{b:Bool}{x:Code}(hc:aB fr c=some (.bool b))(h1:b=true->St C n fr own G (x.wp P Q))(h2:b=false->St C n fr own G (y.wp P Q)):
  St C n fr own G ((Code.cond c x y).wp P Q):=
 fun a w rl=>wp_cond_split (bB rl.fr hc) (fun h=>h1 h a w rl) (fun h=>h2 h a w rl)
def aBL(d:Nat){b:Bool}(hl:iq fr d=some (.bool b))(h1:b=true->St C n ((d, .bool true)::fr) own G Φ)(h2:b=false->St C n ((d, .bool false)::fr) own G Φ):St C n fr own G Φ:=by
 intro a w rl
 cases b with
 |true=>exact h1 J a w ⟨rl.h,rl.sz,fun k v hk=>by
   rw[tO] at hk;split at hk
   .subst_vars;cases hk;exact rl.fr _ _ hl
   .exact rl.fr _ _ hk,rl.df⟩
 |false=>exact h2 J a w ⟨rl.h,rl.sz,fun k v hk=>by
   rw[tO] at hk;split at hk
   .subst_vars;cases hk;exact rl.fr _ _ hl
   .exact rl.fr _ _ hk,rl.df⟩
def wV(d:Nat){p:Prop}{inst:Decidable p}(hl:iq fr d=some (.bool (@decide p inst)))(h1:p->St C n ((d, .bool true)::fr) own G Φ)(h2: ¬p->St C n ((d, .bool false)::fr) own G Φ):St C n fr own G Φ:=
 aBL d hl (fun h=>h1 (of_decide_eq_true h)) (fun h=>h2 (of_decide_eq_false h))
def uR(fr' fr:Fr):Prop:= ∀k v,iq fr' k=some v->iq fr k=some v
def uR.nil:uR [] fr:=fun _ _ h=>by cases h
def uR.cons{fr':Fr}{k:Nat}{v:Value}(h:iq fr k=some v)(t:uR fr' fr):uR ((k,v)::fr') fr:=fun j u hj=>by
 rw[tO] at hj;split at hj
 .subst_vars;cases hj;exact h
 .exact t _ _ hj
def axx(fr':Fr)(hle:uR fr' fr)(h:St C n fr' own G Φ):St C n fr own G Φ:=
 fun a w rl=>h a w ⟨rl.h,rl.sz,fun k v hk=>rl.fr _ _ (hle _ _ hk),rl.df⟩
end
class iB (own:List aA) (b:Nat) (cs:outParam (List Value)) (ty:outParam TypeId) (lo:outParam Bool):Prop where
 mem:⟨b,cs,ty,lo⟩∈own
instance iB.i1 (b:Nat) (cs:List Value) (ty:TypeId) (lo:Bool) (t:List aA):iB (⟨b,cs,ty,lo⟩::t) b cs ty lo:=⟨aQ⟩
instance iB.i2 (o:aA) (t:List aA) (b:Nat) (cs:List Value) (ty:TypeId) (lo:Bool) [h:iB t b cs ty lo]:iB (o::t) b cs ty lo:=⟨aJ _ h.mem⟩
inductive ik:List aA->Nat->List Value->TypeId->Bool->List Value->List aA->Prop
 |hd (b:Nat) (cs cs':List Value) (ty:TypeId) (lo:Bool) (t:List aA):ik (⟨b,cs,ty,lo⟩::t) b cs ty lo cs' (⟨b,cs',ty,lo⟩::t)
 |tl (o:aA) (t t':List aA) (b:Nat) (cs cs':List Value) (ty:TypeId) (lo:Bool) (h:ik t b cs ty lo cs' t'):ik (o::t) b cs ty lo cs' (o::t')
inductive jq:List aA->aA->List aA->Prop
 |hd (o:aA) (t:List aA):jq (o::t) o t
 |tl (x:aA) (t t':List aA) (o:aA) (h:jq t o t'):jq (x::t) o (x::t')
class GE (A:outParam Gh) (B:Gh):Prop where le:bI A B
class GL (A B:Gh):Prop where le:bI A B
instance GL.refl (A:Gh):GL A A:=⟨bI.refl A⟩
instance GL.step (A B C:Gh) [h:GE B C] [k:GL A B]:GL A C:=⟨k.le.trans h.le⟩
class r8 (G:outParam Gh) (b:Nat) (cs:outParam (List Value)):Prop where h:G b=some cs
def cx:List Value->Nat->Nat->Option (List Value)
 |_,0,0=>some []
 |[],0,_+1=>none
 |v::t,0,k+1=>match cx t 0 k with|some l=>some (v::l)|none=>none
 |[],_+1,_=>none
 |_::t,off+1,k=>cx t off k
def cA:List Value->Nat->List Value->List Value
 |cs,_,[]=>cs
 |cs,off,v::vs=>cA (cs.set off v) (off+1) vs
def qf: ∀(cs:List Value) (off k:Nat) (l:List Value),cx cs off k=some l->l.length=k/\ ∀i,i<k->cs[off+i]? =l[i]?
 |cs,0,0,l,h=>by
  cases cs<;>(simp only[cx] at h;cases h;exact⟨J,fun i hi=>absurd hi (tQ _)⟩)
 |[],0,_+1,l,h=>by simp[cx] at h
 |v::t,0,k+1,l,h=>by
  simp only[cx] at h;split at h
  .rename_i l' hl'
   cases h
   obtain⟨h1,h2⟩:=qf t 0 k l' hl';refine⟨by simp[h1],fun i hi=>?_⟩
   cases i with
   |zero=>rfl
   |succ i=>
    have:=h2 i (by omega);simpa using this
  .cases h
 |[],_+1,_,l,h=>by simp[cx] at h
 |_::t,off+1,k,l,h=>by
  simp only[cx] at h;obtain⟨h1,h2⟩:=qf t off k l h;refine⟨h1,fun i hi=>?_⟩;have:=h2 i hi;rw[<-this,show off+1+i=(off+i)+1 by omega];rfl
class ks (P:Program) (t:TypeId) (k:outParam Nat):Prop where
 agg: ∀w,(isAgg t).run P w= .ok true w
 siz: ∀w,(sizeOf t).run P w= .ok k w
class j' (P:Program) (t:TypeId):Prop where
 agg: ∀w,(isAgg t).run P w= .ok false w
 siz: ∀w,(sizeOf t).run P w= .ok 1 w
class gj (P:Program) (t:TypeId) (z:outParam Value):Prop where
 inf:(P.info? t).map (·.zero)=some (some z)
class kE (P:Program) (t:TypeId) (f:Nat) (off:outParam Nat):Prop where
 at_: ∀(b o:Nat) w,(Instr.fieldAt t (.pointer (some ⟨b,o,none⟩)) f).run P w= .ok (.pointer (some (Addr.add ⟨b,o,none⟩ off))) w
class cw (P:Program) (t:TypeId) (e s by_:outParam Nat):Prop where
 un:P.underlying t=some (.slice e)
 inf:(P.info? e).map (fun i=>(i.size,i.bytes))=some (s,by_)
def gj.info{P:Program}{t:TypeId}{z:Value}(h:gj P t z): ∃i,P.info? t=some i/\i.zero=some z:=by
 have:=h.inf
 cases hi:P.info? t with
 |none=>rw[hi] at this;cases this
 |some i=>rw[hi] at this;exact⟨i,J,by simpa using this⟩
def cw.info{P:Program}{t e s by_:Nat}(h:cw P t e s by_): ∃i,P.info? e=some i/\i.size=s/\i.bytes=by_:=by
 have:=h.inf
 cases hi:P.info? e with
 |none=>rw[hi] at this;cases this
 |some i=>rw[hi] at this;simp at this;exact⟨i,J,this.1,this.2⟩
def rG(b o n:Nat):Addr.add ⟨b,o,none⟩ n=⟨b,o+n,none⟩:=by
 unfold Addr.add;split
 .subst_vars;rfl
 .rfl
def Sem.run_bind(P:Program)(x:Sem α)(f:α->Sem β): ∀(w:World),(x>>=f).run P w=match x.run P w with| .ok a w'=>(f a).run P w'| .halt h w'=> .halt h w':=by
 show∀w,(Sem.bind x f).run P w=_
 induction x with
 |pure a=>intro w;rfl
 |load m a k ih=>
  intro w;simp only[Sem.bind,Sem.run];split
  .exact ih _ w
  .split
   .exact ih _ w
   .rfl
 |store m a v k ih=>
  intro w
  cases v<;>simp only[Sem.bind,Sem.run]<;>(try rfl)<;>(split<;>first|(split<;>first|rfl|exact ih _)|rfl)
 |new o k ih=>intro w;exact ih _ _
 |shape r k ih=>intro w;exact ih _ _
 |freeze a n k ih=>intro w;exact ih _
 |frozen a k ih=>intro w;exact ih _ _
 |getObj r k ih=>
  intro w;simp only[Sem.bind,Sem.run];split
  .rfl
  .exact ih _ w
  .rfl
 |setObj r o k ih=>
  intro w;simp only[Sem.bind,Sem.run];split
  .rfl
  .exact ih _
  .rfl
 |choose q k ih=>
  intro w;simp only[Sem.bind,Sem.run];split
  .exact ih _ _
  .exact ih _ _
 |sys c k ih=>intro w;exact ih _ _
 |program k ih=>intro w;exact ih _ _
 |mark m k ih=>intro w;exact ih _
 |halt h=>intro w;rfl
def run_pure(P:Program)(a:α)(w:World):(pure a:Sem α).run P w= .ok a w:=rfl
def aP{x:Sem α}{f:α->Sem β}{a:α}(h:x.run P w= .ok a w'):(x>>=f).run P w=(f a).run P w':=by
 rw[Sem.run_bind,h]
def gj.zero{z:Value}(h:gj P t z)(w:World):(zeroValue t).run P w= .ok z w:=by
 obtain⟨i,h1,h2⟩:=h.info;simp[zeroValue,typeInfo,program,Sem.run_bind,Sem.run,h1,h2,run_pure]
def cw.u{t:Nat}(h:cw P t e s by_)(w:World):(underlying t).run P w= .ok (.slice e) w:=by
 simp[underlying,program,Sem.run_bind,Sem.run,h.un,run_pure]
def cw.siz{t:Nat}(h:cw P t e s by_)(w:World):(sizeOf e).run P w= .ok s w:=by
 obtain⟨i,h1,h2,_⟩:=h.info;simp[sizeOf,typeInfo,program,Sem.run_bind,Sem.run,h1,h2,run_pure]
section
variable {fr:Fr}{own:List aA}
def B4{b:Nat}{cs:List Value}{ty:TypeId}{fz:Nat×Nat}(h:w.heap[b]? =some (.cells ⟨cs⟩ ty fz))(i:Nat):w.cell? ⟨b,i,none⟩=cs[i]? :=by
 simp[World.cell?,h]
def QY{a:Addr}(h:w.cell? a=some v):(load a).run P w= .ok v w:=by
 simp[load,Sem.run,h]
def JJ{w:World}{b off:Nat}{l:List Value}: ∀(m i:Nat) (acc:Array Value),(∀j,j<m->w.cell? ⟨b,off+(i+j),none⟩=l[i+j]?)->i+m<=l.length->
  (loadCellsFrom ⟨b,off,none⟩ i m acc).run P w= .ok (acc++((l.drop i).take m).toArray) w
 |0,i,acc,_,_=>by simp[loadCellsFrom,run_pure]
 |m+1,i,acc,h,hl=>by
  have h0:=h 0 (by omega);rw[gJ,aZ (by omega)] at h0;unfold loadCellsFrom;rw[aP (a:=l[i]) (w':=w) (by rw[rG];exact QY h0)];rw[JJ m (i+1) (acc.push l[i]) (fun j hj=>by have:=h (j+1) (by omega);rw[show i+1+j=i+(j+1) by omega];exact this) (by omega)];congr 1;rw[bX (by omega:i<l.length),oV];apply Array.ext';simp
def H8{b k:Nat}{cs:List Value}[ht:ks P t k]{ty:TypeId}{fz:Nat×Nat}(h:w.heap[b]? =some (.cells ⟨cs⟩ ty fz))(hl:cx cs off k=some l):
  (loadVar t ⟨b,off,none⟩).run P w= .ok (.agg ⟨l⟩) w:=by
 obtain⟨h1,h2⟩:=qf _ _ _ _ hl;unfold loadVar;rw[aP (ht.agg w)];simp only[if_true];rw[aP (ht.siz w)];unfold loadCells;rw[aP (JJ (l:=l) k 0 #[] (fun j hj=>by rw[B4 h];simpa using h2 j hj) (by omega))];simp[run_pure,<-h1]
def Gs{b:Nat}{cs:List Value}[ht:j' P t]{ty:TypeId}{fz:Nat×Nat}(h:w.heap[b]? =some (.cells ⟨cs⟩ ty fz))(hl:cs[off]? =some v):
  (loadVar t ⟨b,off,none⟩).run P w= .ok v w:=by
 unfold loadVar;rw[aP (ht.agg w)];simp only[kW,if_false];exact QY (by rw[B4 h];exact hl)
def c6{f:α->Next}{s:Sem α}{a:α}(h:s.run P w= .ok a w'):(do pure (f (<-s)):Sem Next).run P w= .ok (f a) w':=by
 rw[aP h];rfl
def BV{gd:Option (Nat×Bool)}{b k:Nat}{cs:List Value}{lo:Bool}{ty:TypeId}
  (hx:aB fr x=some (.pointer (some ⟨b,off,none⟩)))[ho:iB own b cs ty lo][ks P t k](hl:cx cs off k=some l):
  Yd P C fr own G ⟨dst, .load t x,ty',pos,af,gd⟩ (.agg ⟨l⟩):=by
 intro a w hf hh;simp only[execOp,bB hf hx,Instr.loadAt,Instr.sureAddr];exact c6 (H8 (hh.hown _ ho.mem).1 hl)
def n8{gd:Option (Nat×Bool)}{b:Nat}{cs:List Value}{lo:Bool}{ty:TypeId}
  (hx:aB fr x=some (.pointer (some ⟨b,off,none⟩)))[ho:iB own b cs ty lo][j' P t](hl:cs[off]? =some v):
  Yd P C fr own G ⟨dst, .load t x,ty',pos,af,gd⟩ v:=by
 intro a w hf hh;simp only[execOp,bB hf hx,Instr.loadAt,Instr.sureAddr];exact c6 (Gs (hh.hown _ ho.mem).1 hl)
def CG{gd:Option (Nat×Bool)}{b k:Nat}{cs:List Value}
  (hx:aB fr x=some (.pointer (some ⟨b,off,none⟩)))(hg:G b=some cs)[ks P t k](hl:cx cs off k=some l):
  Yd P C fr own G ⟨dst, .load t x,ty',pos,af,gd⟩ (.agg ⟨l⟩):=by
 intro a w hf hh;obtain⟨ty,fz,hb⟩:=hh.sub _ _ hg;simp only[execOp,bB hf hx,Instr.loadAt,Instr.sureAddr];exact c6 (H8 hb hl)
def qD{gd:Option (Nat×Bool)}{b:Nat}{cs:List Value}
  (hx:aB fr x=some (.pointer (some ⟨b,off,none⟩)))(hg:G b=some cs)[j' P t](hl:cs[off]? =some v):
  Yd P C fr own G ⟨dst, .load t x,ty',pos,af,gd⟩ v:=by
 intro a w hf hh;obtain⟨ty,fz,hb⟩:=hh.sub _ _ hg;simp only[execOp,bB hf hx,Instr.loadAt,Instr.sureAddr];exact c6 (Gs hb hl)
variable {gd:Option (Nat×Bool)}{y:Operand}
def ly(hx:aB fr x=some v):Yd P C fr own G ⟨dst, .move x,ty',pos,af,gd⟩ v:=by
 intro a w hf hh;simp only[execOp,bB hf hx];rfl
def Ft(hx:aB fr x=some v):Yd P C fr own G ⟨dst, .assign x,ty',pos,af,gd⟩ v:=by
 intro a w hf hh;simp only[execOp,bB hf hx];rfl
def CY(hc:aB fr z=some (.bool true))(hx:aB fr x=some v):Yd P C fr own G ⟨dst, .pick z x y,ty',pos,af,gd⟩ v:=by
 intro a w hf hh;simp only[execOp,bB hf hc,bB hf hx,asBool];rfl
def rH(hc:aB fr z=some (.bool false))(hx:aB fr y=some v):Yd P C fr own G ⟨dst, .pick z x y,ty',pos,af,gd⟩ v:=by
 intro a w hf hh;simp only[execOp,bB hf hc,bB hf hx,asBool];rfl
def m8{ad:Addr}(hx:aB fr x=some (.pointer (some ad))):Yd P C fr own G ⟨dst, .nilCheck x,ty',pos,af,gd⟩ (.pointer (some ad)):=by
 intro a w hf hh;simp only[execOp,bB hf hx];rfl
def qA{b o:Nat}[hF:kE P t f off](hx:aB fr x=some (.pointer (some ⟨b,o,none⟩))):
  Yd P C fr own G ⟨dst, .fieldAddr t x f,ty',pos,af,gd⟩ (.pointer (some ⟨b,o+off,none⟩)):=by
 intro a w hf hh;simp only[execOp,bB hf hx];have:=hF.at_ b o w;rw[rG] at this;exact c6 this
def wi{vs:Array Value}(hx:aB fr x=some (.tuple vs))(hv:vs[i]? =some v):Yd P C fr own G ⟨dst, .extract x i,ty',pos,af,gd⟩ v:=by
 intro a w hf hh;simp only[execOp,bB hf hx,Instr.extract,hv];rfl
def JW{fn:Fn}{c1 c2:Array Operand}(h1:c1.toList.mapM (aB fr)=some l1)(h2:c2.toList.mapM (aB fr)=some l2):
  Yd P C fr own G ⟨dst, .makeFunc fn c1 c2,ty',pos,af,gd⟩ (.func fn ⟨l1⟩ ⟨l2⟩):=by
 intro a w hf hh;have key: ∀(l:List Operand) (m:List Value),l.mapM (aB fr)=some m->l.map a.eval=m:=by
  intro l
  induction l with
  |nil=>intro m h;simp at h;subst h;rfl
  |cons o t ih=>
   intro m h;rw[rT] at h
   cases ho:aB fr o with
   |none=>simp[ho] at h
   |some u=>
    cases ht:t.mapM (aB fr) with
    |none=>simp[ho,ht] at h
    |some m'=>
     simp[ho,ht] at h;subst h;simp[bB hf ho,ih _ ht]
 have e1:c1.map a.eval=⟨l1⟩:=by apply Array.ext';simpa using key _ _ h1
 have e2:c2.map a.eval=⟨l2⟩:=by apply Array.ext';simpa using key _ _ h2
 simp only[execOp,e1,e2];rfl
def lh{op:BinOp}(hx:aB fr x=some (.int k p))(hy:aB fr y=some (.int k q))(hs: ∀w,(binOp op t (.int k p) (.int k q)).run P w= .ok v w):
  Yd P C fr own G ⟨dst, .binOp op t x y t',ty',pos,af,gd⟩ v:=by
 intro a w hf hh;simp only[execOp,bB hf hx,bB hf hy];have:(eqGuard op t x y (.int k p) (.int k q)).run P w= .ok () w:=by cases op<;>rfl
 exact c6 (by rw[aP this];exact hs w)
def YZ(k:IntKind)(p q:Int)(w:World):(binOp .add t (.int k p) (.int k q)).run P w= .ok (.int k (k.wrap (p+q))) w:=by simp[binOp,Op.intArith,run_pure]
def Nn(k:IntKind)(p q:Int)(w:World):(binOp .sub t (.int k p) (.int k q)).run P w= .ok (.int k (k.wrap (p-q))) w:=by simp[binOp,Op.intArith,run_pure]
def Ye(k:IntKind)(p q:Int)(w:World):(binOp .mul t (.int k p) (.int k q)).run P w= .ok (.int k (k.wrap (p*q))) w:=by simp[binOp,Op.intArith,run_pure]
def VJ(k:IntKind)(p q:Int)(w:World)(h:q≠0):(binOp .quo t (.int k p) (.int k q)).run P w= .ok (.int k (k.wrap (p.tdiv q))) w:=by simp[binOp,Op.intDiv,run_pure,h]
def atE(k:IntKind)(p q:Int)(w:World)(h:q≠0):(binOp .rem t (.int k p) (.int k q)).run P w= .ok (.int k (p.tmod q)) w:=by simp[binOp,Op.intDiv,run_pure,h]
def UC(k:IntKind)(p q:Int)(w:World):(binOp .lss t (.int k p) (.int k q)).run P w= .ok (.bool (decide (p<q))) w:=by simp[binOp,Op.intCmp,run_pure]
def Wj(k:IntKind)(p q:Int)(w:World):(binOp .leq t (.int k p) (.int k q)).run P w= .ok (.bool (decide (p<=q))) w:=by simp[binOp,Op.intCmp,run_pure]
def YO(k:IntKind)(p q:Int)(w:World):(binOp .gtr t (.int k p) (.int k q)).run P w= .ok (.bool (decide (q<p))) w:=by simp[binOp,Op.intCmp,run_pure]
def UK(k:IntKind)(p q:Int)(w:World):(binOp .geq t (.int k p) (.int k q)).run P w= .ok (.bool (decide (q<=p))) w:=by simp[binOp,Op.intCmp,run_pure]
def T6(k:IntKind)(p q:Int)(w:World):(binOp .eql t (.int k p) (.int k q)).run P w= .ok (.bool (decide (p=q))) w:=by
 have:(p==q)=decide (p=q):=by rw[qL];simp
 simp[binOp,Op.intCmp,run_pure,this]
def Uz(k:IntKind)(p q:Int)(w:World):(binOp .neq t (.int k p) (.int k q)).run P w= .ok (.bool (decide (p≠q))) w:=by
 have:(p !=q)=decide (p≠q):=by rw[qL];simp
 simp[binOp,Op.intCmp,run_pure,this]
def tq(h:k.min<=p/\p<=k.max):k.wrap p=p:=by
 cases k<;>simp only[IntKind.min,IntKind.max,IntKind.wrap,IntKind.bits,IntKind.signed] at* <;>simp at h⊢ <;>(try split)<;>omega
def N0(hx:aB fr x=some (.int k p))(hy:aB fr y=some (.int k q))(h:k.min<=p+q/\p+q<=k.max):Yd P C fr own G ⟨dst, .binOp .add t x y t',ty',pos,af,gd⟩ (.int k (p+q)):=
 lh hx hy fun w=>by rw[YZ,tq h]
def LJ(hx:aB fr x=some (.int k p))(hy:aB fr y=some (.int k q))(h:k.min<=p-q/\p-q<=k.max):Yd P C fr own G ⟨dst, .binOp .sub t x y t',ty',pos,af,gd⟩ (.int k (p-q)):=
 lh hx hy fun w=>by rw[Nn,tq h]
def ZO(hx:aB fr x=some (.int k p))(hy:aB fr y=some (.int k q))(h:k.min<=p*q/\p*q<=k.max):Yd P C fr own G ⟨dst, .binOp .mul t x y t',ty',pos,af,gd⟩ (.int k (p*q)):=
 lh hx hy fun w=>by rw[Ye,tq h]
def Wb(hx:aB fr x=some (.int k p))(hy:aB fr y=some (.int k q)):Yd P C fr own G ⟨dst, .binOp .sub t x y t',ty',pos,af,gd⟩ (.int k (k.wrap (p-q))):=lh hx hy fun w=>Nn k p q w
def Ki(hx:aB fr x=some (.int k p))(hy:aB fr y=some (.int k q))(h:q≠0):Yd P C fr own G ⟨dst, .binOp .quo t x y t',ty',pos,af,gd⟩ (.int k (k.wrap (p.tdiv q))):=lh hx hy fun w=>VJ k p q w h
def Kv(hx:aB fr x=some (.int k p))(hy:aB fr y=some (.int k q))(h:q≠0):Yd P C fr own G ⟨dst, .binOp .rem t x y t',ty',pos,af,gd⟩ (.int k (p.tmod q)):=lh hx hy fun w=>atE k p q w h
def Fd(hx:aB fr x=some (.int k p))(hy:aB fr y=some (.int k q)):Yd P C fr own G ⟨dst, .binOp .lss t x y t',ty',pos,af,gd⟩ (.bool (decide (p<q))):=lh hx hy fun w=>UC k p q w
def Uy(hx:aB fr x=some (.int k p))(hy:aB fr y=some (.int k q)):Yd P C fr own G ⟨dst, .binOp .leq t x y t',ty',pos,af,gd⟩ (.bool (decide (p<=q))):=lh hx hy fun w=>Wj k p q w
def A'(hx:aB fr x=some (.int k p))(hy:aB fr y=some (.int k q)):Yd P C fr own G ⟨dst, .binOp .gtr t x y t',ty',pos,af,gd⟩ (.bool (decide (q<p))):=lh hx hy fun w=>YO k p q w
def Hz(hx:aB fr x=some (.int k p))(hy:aB fr y=some (.int k q)):Yd P C fr own G ⟨dst, .binOp .geq t x y t',ty',pos,af,gd⟩ (.bool (decide (q<=p))):=lh hx hy fun w=>UK k p q w
def lm(hx:aB fr x=some (.int k p))(hy:aB fr y=some (.int k q)):Yd P C fr own G ⟨dst, .binOp .eql t x y t',ty',pos,af,gd⟩ (.bool (decide (p=q))):=lh hx hy fun w=>T6 k p q w
def R9(hx:aB fr x=some (.int k p))(hy:aB fr y=some (.int k q)):Yd P C fr own G ⟨dst, .binOp .neq t x y t',ty',pos,af,gd⟩ (.bool (decide (p≠q))):=lh hx hy fun w=>Uz k p q w
def uV[hT:cw P t e s by_](hx:aB fr x=some (.slice ad len cap)):
  Yd P C fr own G ⟨dst, .call ⟨.builtin .len, #[x], #[t]⟩,ty',pos,af,gd⟩ (.int .i64 len):=by
 intro a w hf hh;simp only[execOp,resolve,iT,bU,iZ,bB hf hx];have h1:(Builtin.len_ #[t] ty' #[.slice ad len cap]).run P w= .ok (.int .i64 len) w:=by
  simp only[Builtin.len_];show(underlying t>>=_).run P w=_;rw[aP (hT.u w)];rfl
 exact c6 h1
def vw[hT:cw P t e s by_]{b:Nat}{i:Int}(hx:aB fr x=some (.slice (some ⟨b,off,none⟩) len cap))(hy:aB fr y=some (.int k i))(h0:0<=i:=by omega)(h1:i<len:=by omega):
  Yd P C fr own G ⟨dst, .indexAddr t x y,ty',pos,af,gd⟩ (.pointer (some ⟨b,off+i.toNat*s,none⟩)):=by
 intro a w hf hh;simp only[execOp,bB hf hx,bB hf hy];have:(Instr.indexAt t (.slice (some ⟨b,off,none⟩) len cap) (.int k i)).run P w= .ok (.pointer (some ⟨b,off+i.toNat*s,none⟩)) w:=by
  unfold Instr.indexAt;show(underlying t>>=_).run P w=_;rw[aP (hT.u w)];show(underlying t>>=_).run P w=_;rw[aP (hT.u w)];simp only[h0,h1,and_self,if_true];show(sizeOf e>>=_).run P w=_;rw[aP (hT.siz w),rG];rfl
 exact c6 this
def yq{v:Int}{c:BoundsCode}(w:World)(h0:0<=v)(h1:v<=m):(Instr.sliceBound (.int k v) m c).run P w= .ok v.toNat w:=by
 unfold Instr.sliceBound;simp[asIntOf,h0,h1,run_pure]
def mI(ad:Option Addr)(len cap lo hi mx s:Nat):Value:= .slice (if mx=lo then ad else ad.map (·.add (lo*s))) (hi-lo) (mx-lo)
def BF[hT:cw P t e s by_](w:World){lo hi mx:Option Value}{l h:Nat}(hb: ∀w,(Instr.sliceBounds true len cap lo hi mx).run P w= .ok (l,h,m) w):
  (Instr.sliceAt t (.slice ad len cap) lo hi mx).run P w= .ok (mI ad len cap l h m s) w:=by
 unfold Instr.sliceAt;rw[aP (hT.u w)];show(Instr.slice t (.slice ad len cap) lo hi mx).run P w=_;unfold Instr.slice;rw[aP (hT.u w)];show(Instr.sliceBounds true len cap lo hi mx>>=_).run P w=_;rw[aP (hb w)];show(sizeOf e>>=_).run P w=_;rw[aP (hT.siz w)];rfl
def EM[hT:cw P t e s by_]{h:Int}(hx:aB fr x=some (.slice ad len cap))(hy:aB fr y=some (.int k h))(h0:0<=h:=by omega)(h1:h<=cap:=by omega):
  Yd P C fr own G ⟨dst, .slice t x none (some y) none,ty',pos,af,gd⟩ (.slice ad h.toNat cap):=by
 intro a w hf hh;simp only[execOp,bB hf hx,bB hf hy,qM,lK];have:=BF (P:=P) (t:=t) (ad:=ad) (len:=len) (cap:=cap) w (lo:=none) (hi:=some (.int k h)) (mx:=none) (l:=0) (h:=h.toNat) (m:=cap) (fun w=>by
  simp[Instr.sliceBounds,yq w h0 h1,Result.andThen])
 have e2:mI ad len cap 0 h.toNat cap s= .slice ad h.toNat cap:=by
  unfold mI
  cases ad with
  |none=>simp
  |some ad=>simp[Addr.add]
 rw[<-e2];exact c6 this
def IP[hT:cw P t e s by_]{l:Int}(hx:aB fr x=some (.slice ad len cap))(hy:aB fr y=some (.int k l))(h0:0<=l:=by omega)(h1:l<=len:=by omega):
  Yd P C fr own G ⟨dst, .slice t x (some y) none none,ty',pos,af,gd⟩ (mI ad len cap l.toNat len cap s):=by
 intro a w hf hh;simp only[execOp,bB hf hx,bB hf hy,qM,lK];exact c6 (BF (P:=P) (t:=t) (ad:=ad) (len:=len) (cap:=cap) w (lo:=some (.int k l)) (hi:=none) (mx:=none) (fun w=>by
  simp[Instr.sliceBounds,yq w h0 h1,Result.andThen]))
def amb[hT:cw P t e s by_]{l h:Int}(hx:aB fr x=some (.slice ad len cap))(hy:aB fr y=some (.int k l))(hz:aB fr z=some (.int k' h))(h0:0<=l)(h1:l<=h)(h2:h<=cap):
  Yd P C fr own G ⟨dst, .slice t x (some y) (some z) none,ty',pos,af,gd⟩ (mI ad len cap l.toNat h.toNat cap s):=by
 intro a w hf hh;simp only[execOp,bB hf hx,bB hf hy,bB hf hz,qM,lK];exact c6 (BF (P:=P) (t:=t) (ad:=ad) (len:=len) (cap:=cap) w (lo:=some (.int k l)) (hi:=some (.int k' h)) (mx:=none) (fun w=>by
  have h1':l<=(h.toNat:Int):=by omega
  simp[Instr.sliceBounds,yq w (Int.le_trans h0 h1) h2,yq w h0 h1',Result.andThen]))
def UV[hT:cw P t e s by_]{h m:Int}(hx:aB fr x=some (.slice ad len cap))(hy:aB fr y=some (.int k h))(hz:aB fr z=some (.int k' m))(h0:0<=h)(h1:h<=m)(h2:m<=cap):
  Yd P C fr own G ⟨dst, .slice t x none (some y) (some z),ty',pos,af,gd⟩ (.slice ad h.toNat m.toNat):=by
 intro a w hf hh;simp only[execOp,bB hf hx,bB hf hy,bB hf hz,qM,lK];have:=BF (P:=P) (t:=t) (ad:=ad) (len:=len) (cap:=cap) w (lo:=none) (hi:=some (.int k h)) (mx:=some (.int k' m)) (l:=0) (h:=h.toNat) (m:=m.toNat) (fun w=>by
  have h1':h<=(m.toNat:Int):=by omega
  simp[Instr.sliceBounds,yq w (Int.le_trans h0 h1) h2,yq w h0 h1',Result.andThen])
 have e2:mI ad len cap 0 h.toNat m.toNat s= .slice ad h.toNat m.toNat:=by
  unfold mI
  cases ad with
  |none=>simp
  |some ad=>simp[Addr.add]
 rw[<-e2];exact c6 this
class vL (P:Program) (t:TypeId) (k:outParam IntKind):Prop where u: ∀w,(underlying t).run P w= .ok (.int k) w
def Cu[hs:vL P t k][hd:vL P t' k'](hx:aB fr x=some (.int k p)):Yd P C fr own G ⟨dst, .convert t t' x,ty',pos,af,gd⟩ (.int k' (k'.wrap p)):=by
 intro a w hf hh;simp only[execOp,bB hf hx];have:(convert t t' (.int k p)).run P w= .ok (.int k' (k'.wrap p)) w:=by
  unfold convert;rw[aP (hs.u w),aP (hd.u w)];rfl
 exact c6 this
def Uf[hs:vL P t k][hd:vL P t' k'](hx:aB fr x=some (.int k p))(h:k'.min<=p/\p<=k'.max):Yd P C fr own G ⟨dst, .convert t t' x,ty',pos,af,gd⟩ (.int k' p):=by
 have:=Cu (P:=P) (C:=C) (own:=own) (G:=G) (dst:=dst) (ty':=ty') (pos:=pos) (af:=af) (gd:=gd) (t:=t) (t':=t') hx;rwa [tq h] at this
def ti{b:Bool}(hx:aB fr x=some (.bool b)):Yd P C fr own G ⟨dst, .unOp .not t x,ty',pos,af,gd⟩ (.bool (!b)):=by
 intro a w hf hh;simp only[execOp,bB hf hx,Op.unary];rfl
def Ge(hx:aB fr x=some (.int k p)):Yd P C fr own G ⟨dst, .unOp .neg t x,ty',pos,af,gd⟩ (.int k (k.wrap (0-p))):=by
 intro a w hf hh;simp only[execOp,bB hf hx,Op.unary,Op.intArith];rfl
end
def ip{b:Nat}{o:Obj}(h:w.heap[b]? =some o):b<w.heap.size:=by
 rcases jK b w.heap.size with h'|h'
 .exact h'
 .simp[oL h'] at h
def bF.gnone{own:List aA}(h:bF C own G w){b:Nat}(hb:w.heap.size<=b):G b=none:=by
 cases hG:G b with
 |none=>rfl
 |some cs=>
  obtain⟨ty,fz,hc⟩:=h.sub b cs hG;have:=ip hc;omega
def bF.alloc{C:aF}{own:List aA}{G:Gh}{w:World}(h:bF C own G w)(cs:List Value)(ty:TypeId):
  bF C (⟨w.heap.size,cs,ty,true⟩::own) G (w.alloc (.cells ⟨cs⟩ ty)):=by
 have old: ∀b,b<w.heap.size->(w.alloc (.cells ⟨cs⟩ ty)).heap[b]? =w.heap[b]? :=fun b hb=>RowKit.Below.heap_alloc _ _ _ hb;refine⟨h.os,h.tape,h.output,?_,?_,?_,h.gle,h.gold,?_,?_,h.dr,fun p hp=>⟨(h.ext p hp).1,by rw[old _ (ip (h.ext p hp).2)];exact(h.ext p hp).2⟩⟩
 .have:=h.size;simp;omega
 .intro b hb hm;rw[old b (by have:=h.size;omega)];exact h.keep b hb hm
 .intro b cs' hb
  obtain⟨ty',fz,hc⟩:=h.sub b cs' hb;exact⟨ty',fz,by rw[old b (ip hc)];exact hc⟩
 .intro o ho
  rcases aW.1 ho with rfl|ho
  .refine⟨by show(w.heap.push _)[w.heap.size]? =_;simp,h.gnone (bW _),fun _=>h.size,fun e=>by cases e⟩
  .obtain⟨h1,h2⟩:=h.hown o ho
   exact⟨by rw[old _ (ip h1)];exact h1,h2⟩
 .refine List.Pairwise.cons ?_ h.nd
  intro o ho;have:=ip (h.hown o ho).1;show w.heap.size≠o.b;omega
def gO(w:World)(b:Nat)(o:Obj):World:={w with heap:=w.heap.setIfInBounds b o}
def BX{l:List aA}:l.Pairwise (fun x y=>x.b≠y.b)↔(l.map (·.b)).Pairwise (· ≠ ·):=by rw[List.pairwise_map]
def ik.spec{own:List aA}{b:Nat}{cs:List Value}{ty:TypeId}{lo:Bool}(h:ik own b cs ty lo cs' own')(nd:own.Pairwise (fun x y=>x.b≠y.b)):
  ⟨b,cs,ty,lo⟩∈own/\(∀o,o∈own'->o=⟨b,cs',ty,lo⟩\/(o∈own/\o.b≠b))/\own'.map (·.b)=own.map (·.b):=by
 induction h with
 |hd b cs cs' ty lo t=>
  refine⟨aQ,fun o ho=>?_,J⟩;rcases aW.1 ho with rfl|h
  .exact .inl J
  .exact .inr ⟨aJ _ h,Ne.symm ((bL.1 nd).1 _ h)⟩
 |tl o t t' b cs cs' ty lo h ih=>
  obtain⟨h1,h2,h3⟩:=ih (bL.1 nd).2;refine⟨aJ _ h1,fun x hx=>?_,by simp[h3]⟩;rcases aW.1 hx with rfl|hx
  .exact .inr ⟨aQ,(bL.1 nd).1 _ h1⟩
  .exact(h2 x hx).imp id (fun k=>⟨aJ _ k.1,k.2⟩)
def DD{b k:Nat}{o:Obj}(hk:k≠b):(gO w b o).heap[k]? =w.heap[k]? :=by
 simp only[gO];rw[dS];simp[Ne.symm hk]
def SN{b:Nat}{o:Obj}(hb:b<w.heap.size):(gO w b o).heap[b]? =some o:=by
 simp only[gO];rw[dS];simp[hb]
def bF.extNe{own:List aA}(h:bF C own G w){p:Nat×Obj}(hp:p∈C.ex){b:Nat}{cs:Array Value}{ty:TypeId}{z:Nat×Nat}(hb:w.heap[b]? =some (.cells cs ty z)):p.1≠b:=fun e=>by
 obtain⟨h1,h2⟩:=h.ext p hp;rw[e,hb] at h2;exact h1 _ _ _ (Option.some.inj h2).symm
def bF.extM(h:bF C (M++rest) G w){p:Nat×Obj}(hp:p∈C.ex):p.1∉M.map (·.b):=fun hm=>by
 obtain⟨m,hm,e⟩:=aT.1 hm;exact h.extNe hp (h.hown m (bR _ hm)).1 e.symm
def bF.store{own:List aA}{b:Nat}{cs:List Value}{ty:TypeId}{lo:Bool}(h:bF C own G w)(hu:ik own b cs ty lo cs' own'):
  bF C own' G (gO w b (.cells ⟨cs'⟩ ty (0,0))):=by
 obtain⟨h1,h2,h3⟩:=hu.spec h.nd;obtain⟨hb,hGb,hlo1,hlo2⟩:=h.hown _ h1;have hlt:=ip hb;refine⟨h.os,h.tape,h.output,by simpa[gO] using h.size,?_,?_,h.gle,h.gold,?_,BX.2 (h3▸BX.1 h.nd),h.dr,fun p hp=>⟨(h.ext p hp).1,by rw[DD (h.extNe hp hb)];exact(h.ext p hp).2⟩⟩
 .intro k hk hm
  by_cases hkb:k=b
  .subst hkb
   cases hlo:lo with
   |true=>have h5:=hlo1 hlo;simp only[] at h5;omega
   |false=>exact absurd (hlo2 hlo) hm
  .rw[DD hkb];exact h.keep k hk hm
 .intro k cs1 hk
  obtain⟨ty',fz,hc⟩:=h.sub k cs1 hk;have:k≠b:=fun e=>by subst e;rw[show G k=none from hGb] at hk;cases hk
  exact⟨ty',fz,by rw[DD this];exact hc⟩
 .intro o ho
  rcases h2 o ho with rfl|⟨ho',hne⟩
  .exact⟨SN hlt,hGb,hlo1,hlo2⟩
  .obtain⟨k1,k2⟩:=h.hown o ho'
   exact⟨by rw[DD hne];exact k1,k2⟩
def jq.spec{own:List aA}{o:aA}(h:jq own o own')(nd:own.Pairwise (fun x y=>x.b≠y.b)):
  o∈own/\(∀x,x∈own'->x∈own/\x.b≠o.b)/\own'.Pairwise (fun x y=>x.b≠y.b):=by
 induction h with
 |hd o t=>exact⟨aQ,fun x hx=>⟨aJ _ hx,Ne.symm ((bL.1 nd).1 _ hx)⟩,(bL.1 nd).2⟩
 |tl y t t' o h ih=>
  obtain⟨h1,h2,h3⟩:=ih (bL.1 nd).2;refine⟨aJ _ h1,fun x hx=>?_,List.Pairwise.cons (fun x hx=>(bL.1 nd).1 _ (h2 x hx).1) h3⟩;rcases aW.1 hx with rfl|hx
  .exact⟨aQ,(bL.1 nd).1 _ h1⟩
  .exact⟨aJ _ (h2 x hx).1,(h2 x hx).2⟩
def bF.freeze{own:List aA}{b:Nat}{cs:List Value}{ty:TypeId}(h:bF C own G w)(hr:jq own ⟨b,cs,ty,true⟩ own'):
  bF C own' (fun k=>if k=b then some cs else G k) w/\bI G (fun k=>if k=b then some cs else G k):=by
 obtain⟨h1,h2,h3⟩:=hr.spec h.nd;obtain⟨hb,hGb,hlo,_⟩:=h.hown _ h1;have hle:bI G (fun k=>if k=b then some cs else G k):=fun k c hk=>by
  have:k≠b:=fun e=>by subst e;rw[show G k=none from hGb] at hk;cases hk
  simp[this,hk]
 refine⟨⟨h.os,h.tape,h.output,h.size,h.keep,?_,h.gle.trans hle,?_,?_,h3,h.dr,h.ext⟩,hle⟩
 .intro k c hk
  by_cases e:k=b
  .subst e;simp only[if_true] at hk;cases hk;exact⟨ty,(0,0),hb⟩
  .simp only[e,if_false] at hk;exact h.sub k c hk
 .intro k hk
  have h5:C.w0.heap.size<=b:=hlo J;have:k≠b:=by omega
  simp only[this,if_false];exact h.gold k hk
 .intro o ho
  obtain⟨k1,k2⟩:=h2 o ho;obtain⟨m1,m2,m3⟩:=h.hown o k1;exact⟨m1,by rw[if_neg k2];exact m2,m3⟩
def bF.drop{own:List aA}(h:bF C own G w)(hs:own'.Sublist own):bF C own' G w:=
 ⟨h.os,h.tape,h.output,h.size,h.keep,h.sub,h.gle,h.gold,fun o ho=>h.hown o (hs.subset ho),h.nd.sublist hs,h.dr,h.ext⟩
def bF.perm{own:List aA}(h:bF C own G w)(hs:own.Perm own'):bF C own' G w:=
 ⟨h.os,h.tape,h.output,h.size,h.keep,h.sub,h.gle,h.gold,fun o ho=>h.hown o (hs.mem_iff.2 ho),(hs.pairwise_iff (fun h=>Ne.symm h)).1 h.nd,h.dr,h.ext⟩
def bF.drew{own:List aA}(h:bF C own G w):bF C own G {w with drawn:=w.drawn+1}:=
 ⟨h.os,h.tape,h.output,h.size,h.keep,h.sub,h.gle,h.gold,h.hown,h.nd,Nat.le_succ_of_le h.dr,h.ext⟩
def rB(P:Program)(f:FuncId):Prop:= ∃fn,P.funcs[f]? =some fn/\(fn.name== "runtime.NumGoroutine")=false/\fn.body.isNone=false
def kz(M:List aA)(css:List (List Value)):List aA:=(M.zip css).map fun p=>{p.1 with cs:=p.2}
def asB(M:List aA):List aA:=M.map fun o=>{o with lo:=false}
structure Fn (P:Program) (f:FuncId) (vs:List Value) (G:Gh) (K:Value->Gh->Prop):Prop where
 able:rB P f
 run: ∀w,(∀b cs,G b=some cs-> ∃ty fz,w.heap[b]? =some (.cells ⟨cs⟩ ty fz))->
  Calls P f ⟨vs⟩ w fun e w'=> ∃v G',e= .returned v/\bF ⟨w,G,[],[],[],none,fun _=>none⟩ [] G' w'/\K v G'
structure jx (P:Program) (f:FuncId) (vs:List Value) (M:List aA) (G:Gh) (K:Value->List (List Value)->Gh->Prop):Prop where
 able:rB P f
 run: ∀w,bF ⟨w,G,M.map (·.b),[],[],none,fun _=>none⟩ (asB M) G w->
  Calls P f ⟨vs⟩ w fun e w'=> ∃v css G',e= .returned v/\css.length=M.length/\bF ⟨w,G,M.map (·.b),[],[],none,fun _=>none⟩ (kz (asB M) css) G' w'/\K v css G'
def Fn.mono{P:Program}{f:FuncId}{vs:List Value}{G:Gh}{K K':Value->Gh->Prop}(h:Fn P f vs G K)(hk: ∀v G',bI G G'->K v G'->K' v G'):Fn P f vs G K':=
 ⟨h.able,fun w hw=>(h.run w hw).mono fun _ _ ⟨v,G',he,hh,hK⟩=>⟨v,G',he,hh,hk v G' hh.gle hK⟩⟩
def bF.called{own:List aA}(h:bF C own G w)(k:bF ⟨w,G,[],[],[],none,fun _=>none⟩ [] G' w'):bF C own G' w':=by
 have same: ∀b o,w.heap[b]? =some o->w'.heap[b]? =some o:=fun b o hb=>by rw[k.keep b (ip hb) (by simp)];exact hb
 have hsz:w.heap.size<=w'.heap.size:=k.size;refine⟨k.os.trans h.os,k.tape.trans h.tape,k.output.trans h.output,cN h.size hsz,?_,k.sub,h.gle.trans k.gle,?_,?_,h.nd,cN h.dr k.dr,fun p hp=>⟨(h.ext p hp).1,same _ _ (h.ext p hp).2⟩⟩
 .intro b hb hm;have:=h.size;rw[k.keep b (by show b<w.heap.size;omega) (by simp)];exact h.keep b hb hm
 .intro b hb;have:=h.size;rw[k.gold b (by show b<w.heap.size;omega)];exact h.gold b hb
 .intro o ho
  obtain⟨h1,h2,h3⟩:=h.hown o ho;exact⟨same _ _ h1,by rw[k.gold _ (ip h1)];exact h2,h3⟩
def Yb(M:List aA)(css:List (List Value))(h:css.length=M.length):(kz M css).map (·.b)=M.map (·.b):=by
 induction M generalizing css with
 |nil=>simp[kz]
 |cons o M ih=>
  cases css with
  |nil=>simp at h
  |cons c css=>simp only[bZ,Nat.add_right_cancel_iff] at h;simpa[kz] using ih css h
def YH{o:aA}(ho:o∈kz M css): ∃c∈css,∃m∈M,o={m with cs:=c}/\{m with cs:=c,lo:=false}∈kz (asB M) css:=by
 induction M generalizing css with
 |nil=>simp[kz] at ho
 |cons x M ih=>
  cases css with
  |nil=>simp[kz] at ho
  |cons c css=>
   simp only[kz,List.zip_cons_cons,bU,aW] at ho;rcases ho with rfl|ho
   .exact⟨c,aQ,x,aQ,J,by simp[kz,asB]⟩
   .obtain⟨c',hc',m,hm,e,hh⟩:=ih ho
    refine⟨c',aJ _ hc',m,aJ _ hm,e,?_⟩;simp only[kz,asB,bU,List.zip_cons_cons,aW];exact .inr hh
def bF.lend(h:bF C (M++rest) G w):bF ⟨w,G,M.map (·.b),[],[],none,fun _=>none⟩ (asB M) G w:=by
 refine⟨J,J,J,bW _,fun _ _ _=>J,h.sub,bI.refl _,fun _ _=>J,?_,?_,bW _,fun p hp=>by cases hp⟩
 .intro o ho
  obtain⟨m,hm,rfl⟩:=aT.1 ho;obtain⟨h1,h2,_⟩:=h.hown m (bR _ hm);exact⟨h1,h2,by simp,fun _=>aT.2 ⟨m,hm,J⟩⟩
 .have:=(fS.1 h.nd).1
  unfold asB;rw[List.pairwise_map];exact this
def bF.calledM(h:bF C (M++rest) G w)(hl:css.length=M.length)(k:bF ⟨w,G,M.map (·.b),[],[],none,fun _=>none⟩ (kz (asB M) css) G' w'):
  bF C (kz M css++rest) G' w':=by
 have hsz:w.heap.size<=w'.heap.size:=k.size;have hnd:=h.nd;have inM: ∀b,b∈M.map (·.b)-> ∀o∈rest,o.b≠b:=fun b hb o ho e=>by
  obtain⟨m,hm,rfl⟩:=aT.1 hb;exact(fS.1 hnd).2.2 m hm o ho e.symm
 refine⟨k.os.trans h.os,k.tape.trans h.tape,k.output.trans h.output,cN h.size hsz,?_,k.sub,h.gle.trans k.gle,?_,?_,?_,cN h.dr k.dr,fun p hp=>⟨(h.ext p hp).1,by rw[k.keep _ (ip (h.ext p hp).2) (h.extM hp)];exact(h.ext p hp).2⟩⟩
 .intro b hb hm
  have hs:=h.size;have hnM:b∉M.map (·.b):=fun hb'=>by
   obtain⟨m,hmM,rfl⟩:=aT.1 hb';obtain⟨_,_,h3,h4⟩:=h.hown m (bR _ hmM)
   cases hlo:m.lo with
   |true=>have:=h3 hlo;omega
   |false=>exact hm (h4 hlo)
  rw[k.keep b (by show b<w.heap.size;omega) hnM];exact h.keep b hb hm
 .intro b hb;have:=h.size;rw[k.gold b (by show b<w.heap.size;omega)];exact h.gold b hb
 .intro o ho
  rcases bJ.1 ho with ho|ho
  .obtain⟨c,hc,m,hm,rfl,hmem⟩:=YH ho
   obtain⟨k1,k2,_⟩:=k.hown _ hmem;obtain⟨_,_,h3⟩:=h.hown m (bR _ hm);exact⟨k1,k2,h3⟩
  .obtain⟨h1,h2,h3⟩:=h.hown o (bV _ ho)
   have hnM:o.b∉M.map (·.b):=fun hb=>inM _ hb o ho J;exact⟨by rw[k.keep _ (ip h1) hnM];exact h1,by rw[k.gold _ (ip h1)];exact h2,h3⟩
 .rw[BX,aL,Yb _ _ hl,<-aL,<-BX];exact hnd
def NU{a b:α}{l:List α}:(a::l).set (n+1) b=a::l.set n b:=rfl
def xg{a:α}{l:List α}:(a::l).drop (n+1)=l.drop n:=rfl
abbrev ii:= @inferInstance.{0}
def nb{a b:Nat}(h:Nat.ble a b=true):a<=b:=Nat.le_of_ble_eq_true h
def sR{fr:Fr}{own:List aA}{id:Nat}(h:St C n fr own G (c9 P ops (Exit.then (y.wp P Q) Q) ops.toList)):St C n fr own G ((Code.seq (Code.region id ops false) y).wp P Q):=eO (Dl h)
end Go.Sx
end
section
namespace Go.Sx
open Go
variable {C:aF}{n b off k m i fuel:Nat}{own' M rest own0:List aA}{G G0:Gh}{ops:Array Oper}{Q:Exit->Act->World->Prop}{t t' ty' ty:TypeId}{x y fo:Operand}{o:Oper}{Φ:Act->World->Prop}{w w':World}{v z:Value}{a:Act}{lo:Bool}{f:FuncId}{args:Array Operand}{tys:Array TypeId}{vs c1 c2:List Value}{K:Value->List (List Value)->Gh->Prop}{c:Code}{X:Type}{S:World->Prop}{fin:Nat->Bool}
def aG:Value->List Value
 | .agg ⟨l⟩=>l
 |v=>[v]
def oC(v:Value):v.cells=⟨aG v⟩:=by
 cases v<;>first|rfl|(rename_i a;cases a;rfl)
def flat:Value->Bool
 | .agg _=>false
 | .tuple _=>false
 |_=>true
def fi(fr:Fr):List Operand->Option (List Value)
 |[]=>some []
 |x::t=>match aB fr x,fi fr t with
  |some v,some l=>some (v::l)
  |_,_=>none
def AI{fr:Fr}{a:Act}(h:kB fr a): ∀{l:List Operand} {vs:List Value},fi fr l=some vs->l.map a.eval=vs
 |[],vs,e=>by simp[fi] at e;subst e;rfl
 |x::t,vs,e=>by
  simp only[fi] at e;split at e
  .rename_i v l hv hl
   cases e
   simp[bB h hv,AI h hl]
  .cases e
section
variable {P:Program}{fr:Fr}{own:List aA}{r:List Oper}
variable {dst:Option Nat}{pos:String}{af:Array Edge}
def Ch(P:Program)(C:aF)(n:Nat)(fr:Fr)(own:List aA)(G:Gh)(o:Oper)(Φ:Act->World->Prop):Prop:=
 ∀(a:Act) (w:World) (Q:Exit->Act->World->Prop),gq C n fr own G a w->o.wp P a w Φ Q
def Z'(hg:o.guard=none)(hc:Ch P C n fr own G o (c9 P ops Q r)):St C n fr own G (c9 P ops Q (o::r)):=by
 intro a w rl;simp only[c9,Region.wanted,hg,if_true];exact hc a w _ rl
variable {gd:Option (Nat×Bool)}
def PY:(newVar ty v).run P w= .ok ⟨w.heap.size,0,none⟩ (w.alloc (.cells ⟨aG v⟩ ty)):=by
 unfold newVar newRow;rw[oC];rfl
def kr(h:(execOp a.eval o).run P w= .ok (.value v) w')(hk:Φ (a.put o.dst v) w'):o.wp P a w Φ Q:=by
 simp only[Oper.wp,h,Oper.upon];exact hk
def vm[hz:gj P t z](hd:ce n dst=true)(h: ∀b,St C n (put fr dst (.pointer (some ⟨b,0,none⟩))) (⟨b,aG z,t,true⟩::own) G Φ):
  Ch P C n fr own G ⟨dst, .alloc t,ty',pos,af,gd⟩ Φ:=by
 intro a w Q rl;have h1:(Instr.alloc t true (.tuple #[])).run P w= .ok (.pointer (some ⟨w.heap.size,0,none⟩)) (w.alloc (.cells ⟨aG z⟩ t)):=by
  unfold Instr.alloc;rw[aP (hz.zero w)];show(newVar t z>>=_).run P w=_;rw[aP PY];rfl
 refine kr (c6 h1) (h w.heap.size _ _ ?_);exact(rl.heap (rl.h.alloc _ _)).put _ hd
def tf(hx:aB fr x=some v)(hd:ce n dst=true)(h: ∀b,St C n (put fr dst (.pointer (some ⟨b,0,none⟩))) (⟨b,aG v,t,true⟩::own) G Φ):
  Ch P C n fr own G ⟨dst, .box t x,ty',pos,af,gd⟩ Φ:=by
 intro a w Q rl;have h1:(Instr.box t (a.eval x)).run P w= .ok (.pointer (some ⟨w.heap.size,0,none⟩)) (w.alloc (.cells ⟨aG v⟩ t)):=by
  unfold Instr.box;rw[bB rl.fr hx,aP PY];rfl
 refine kr (c6 h1) (h w.heap.size _ _ ?_);exact(rl.heap (rl.h.alloc _ _)).put _ hd
def TM{cs:List Value}{fz:Nat×Nat}(h:w.heap[b]? =some (.cells ⟨cs⟩ ty fz)):w.setCell ⟨b,off,none⟩ v=gO w b (.cells ⟨cs.set off v⟩ ty fz):=by
 unfold World.setCell gO;congr 1;apply Array.ext_getElem?;intro i;rw[Array.getElem?_modify,dS];by_cases hi:b=i
 .subst hi
  have:=ip h;simp only[if_true,h,lK,this];simp
 .simp[hi]
def awn{cs:List Value}(hv:flat v=true)(h:w.heap[b]? =some (.cells ⟨cs⟩ ty (0,0)))(ho:off<cs.length):
  (store ⟨b,off,none⟩ v).run P w= .ok () (gO w b (.cells ⟨cs.set off v⟩ ty (0,0))):=by
 have hc:w.cell? ⟨b,off,none⟩=some cs[off]:=by rw[B4 h,aZ ho]
 have hf:w.frozen? ⟨b,off,none⟩=false:=by simp[World.frozen?,h]
 cases v<;>first|(simp[flat] at hv;done)|(simp only[store,Sem.run,hc,hf,TM h];rfl)
def amJ(w:World)(b:Nat)(o o':Obj):gO (gO w b o) b o'=gO w b o':=by
 simp[gO]
def Xf{o:Obj}(h:w.heap[b]? =some o):gO w b o=w:=by
 unfold gO;congr 1;apply Array.ext_getElem?;intro i;rw[dS];by_cases hi:b=i
 .subst hi
  have hlt:=ip h;simp only[if_true,hlt];rw[h]
 .simp[hi]
def zj{b:Nat}{ty:TypeId}: ∀(vs:List Value) (w:World) (off i:Nat) (cs:List Value),(∀v∈vs,flat v=true)->w.heap[b]? =some (.cells ⟨cs⟩ ty (0,0))->off+i+vs.length<=cs.length->
  (storeCells ⟨b,off,none⟩ vs i).run P w= .ok () (gO w b (.cells ⟨cA cs (off+i) vs⟩ ty (0,0)))
 |[],w,off,i,cs,_,h,_=>by
  unfold storeCells cA;rw[Xf h];rfl
 |v::vs,w,off,i,cs,hf,h,hl=>by
  unfold storeCells;simp only[bZ] at hl;rw[rG,aP (awn (hf v aQ) h (by omega))];rw[zj vs _ off (i+1) (cs.set (off+i) v) (fun u hu=>hf u (aJ _ hu)) (SN (ip h)) (by simp;omega)];rw[amJ];rfl
def Dg{cs:List Value}(hx:aB fr x=some (.pointer (some ⟨b,off,none⟩)))(hy:aB fr y=some v)[hs:ks P t k]
  (hu:ik own b cs ty lo (cA cs off (aG v)) own')(hk:(aG v).length=k)(hl:off+k<=cs.length)(hf:(aG v).all flat=true)(hd:ce n dst=true)(h:St C n (put fr dst undef) own' G Φ):
  Ch P C n fr own G ⟨dst, .store t x y,ty',pos,af,gd⟩ Φ:=by
 intro a w Q rl;have hb:=(rl.h.hown _ (hu.spec rl.h.nd).1).1;have h1:(Instr.storeAt t (a.eval x) (a.eval y)).run P w= .ok () (gO w b (.cells ⟨cA cs off (aG v)⟩ ty (0,0))):=by
  rw[bB rl.fr hx,bB rl.fr hy];simp only[Instr.storeAt,Instr.sureAddr];show(storeVar t ⟨b,off,none⟩ v).run P w=_;unfold storeVar;rw[aP (hs.siz w),oC];simp only[pV,hk,ne_eq,not_true_eq_false,if_false];have:=zj (P:=P) (aG v) w off 0 cs (by simpa using hf) hb (by omega);simpa using this
 have h2:(execOp a.eval ⟨dst, .store t x y,ty',pos,af,gd⟩).run P w= .ok .skip (gO w b (.cells ⟨cA cs off (aG v)⟩ ty (0,0))):=by
  simp only[execOp];rw[aP h1];rfl
 simp only[Oper.wp,h2,Oper.upon];exact h _ _ ((rl.heap (rl.h.store hu)).put _ hd)
def ur{cs:List Value}(hx:aB fr x=some (.pointer (some ⟨b,off,none⟩)))(hy:aB fr y=some v)[hs:j' P t]
  (hu:ik own b cs ty lo (cs.set off v) own')(hl:off<cs.length)(hf:flat v=true)(hd:ce n dst=true)(h:St C n (put fr dst undef) own' G Φ):
  Ch P C n fr own G ⟨dst, .store t x y,ty',pos,af,gd⟩ Φ:=by
 intro a w Q rl;have hb:=(rl.h.hown _ (hu.spec rl.h.nd).1).1;have hc:v.cells= #[v]:=by cases v<;>first|rfl|(simp[flat] at hf)
 have h1:(Instr.storeAt t (a.eval x) (a.eval y)).run P w= .ok () (gO w b (.cells ⟨cs.set off v⟩ ty (0,0))):=by
  rw[bB rl.fr hx,bB rl.fr hy];simp only[Instr.storeAt,Instr.sureAddr];show(storeVar t ⟨b,off,none⟩ v).run P w=_;unfold storeVar;rw[aP (hs.siz w),hc];simp only[pV,bZ,eY,ne_eq,not_true_eq_false,if_false,eJ];have:=zj (P:=P) [v] w off 0 cs (by simpa using hf) hb (by simp;omega);simpa[cA] using this
 have h2:(execOp a.eval ⟨dst, .store t x y,ty',pos,af,gd⟩).run P w= .ok .skip (gO w b (.cells ⟨cs.set off v⟩ ty (0,0))):=by
  simp only[execOp];rw[aP h1];rfl
 simp only[Oper.wp,h2,Oper.upon];exact h _ _ ((rl.heap (rl.h.store hu)).put _ hd)
def IL(h:rB P f)(args:Array Value)(w:World):(callFunc f args).run P w= .ok (.enter f args) w:=by
 obtain⟨fn,h1,h2,h3⟩:=h;unfold callFunc;show(program>>=_).run P w=_;rw[aP (a:=P) (w':=w) J];simp only[h1,h2,h3];rfl
def DF(h:rB P f)(hf:kB fr a)(ho:aB fr fo=some (.func (.func f) ⟨c1⟩ ⟨c2⟩))(hv:fi fr args.toList=some vs):
  (execOp a.eval ⟨dst, .call ⟨.value fo,args,tys⟩,ty',pos,af,gd⟩).run P w= .ok (.enter f ⟨c1++vs++c2⟩) w:=by
 have e:args.map a.eval=⟨vs⟩:=by apply Array.ext';simpa using AI hf hv
 simp only[execOp,resolve,bB hf ho,e,Deferred.ofValue];show(invoke (.fn (.func f) ⟨c2⟩) (⟨c1⟩++⟨vs⟩)).run P w=_;simp only[invoke];rw[IL h];simp
def LU{K:Value->Gh->Prop}(ho:aB fr fo=some (.func (.func f) ⟨c1⟩ ⟨c2⟩))(hv:fi fr args.toList=some vs)
  (hF:Fn P f (c1++vs++c2) G K)(hd:ce n dst=true)(h: ∀v (G':Gh),[GE G G']->K v G'->St C n (put fr dst v) own G' Φ):
  Ch P C n fr own G ⟨dst, .call ⟨.value fo,args,tys⟩,ty',pos,af,gd⟩ Φ:=by
 intro a w Q rl;have h2:=DF (P:=P) (dst:=dst) (ty':=ty') (pos:=pos) (af:=af) (gd:=gd) (tys:=tys) (w:=w) hF.able rl.fr ho hv;simp only[Oper.wp,h2,Oper.upon];refine(hF.run w rl.h.sub).mono ?_;rintro e w' ⟨v,G',rfl,hh,hK⟩;exact @h v G' ⟨hh.gle⟩ hK _ _ ((rl.heap (rl.h.called hh)).put _ hd)
def zC{K:Value->Gh->Prop}(ho:aB fr fo=some (.func (.func f) #[] #[]))(hv:fi fr args.toList=some vs)
  (hF:Fn P f vs G K)(hd:ce n dst=true)(h: ∀v (G':Gh),[GE G G']->K v G'->St C n (put fr dst v) own G' Φ):
  Ch P C n fr own G ⟨dst, .call ⟨.value fo,args,tys⟩,ty',pos,af,gd⟩ Φ:=
 LU (c1:=[]) (c2:=[]) ho hv (by simpa using hF) hd h
def aut(ho:aB fr fo=some (.func (.func f) ⟨c1⟩ ⟨c2⟩))(hv:fi fr args.toList=some vs)
  (hp:own.Perm (M++rest))(hF:jx P f (c1++vs++c2) M G K)(hd:ce n dst=true)(h: ∀v css (G':Gh),[GE G G']->css.length=M.length->K v css G'->St C n (put fr dst v) (kz M css++rest) G' Φ):
  Ch P C n fr own G ⟨dst, .call ⟨.value fo,args,tys⟩,ty',pos,af,gd⟩ Φ:=by
 intro a w Q rl;have h2:=DF (P:=P) (dst:=dst) (ty':=ty') (pos:=pos) (af:=af) (gd:=gd) (tys:=tys) (w:=w) hF.able rl.fr ho hv;simp only[Oper.wp,h2,Oper.upon];have hh0:=rl.h.perm hp;refine(hF.run w hh0.lend).mono ?_;rintro e w' ⟨v,css,G',rfl,hl,hh,hK⟩;exact @h v css G' ⟨hh.gle⟩ hl hK _ _ ((rl.heap (hh0.calledM hl hh)).put _ hd)
def vT(ho:aB fr fo=some (.func (.func f) #[] #[]))(hv:fi fr args.toList=some vs)
  (hp:own.Perm (M++rest))(hF:jx P f vs M G K)(hd:ce n dst=true)(h: ∀v css (G':Gh),[GE G G']->css.length=M.length->K v css G'->St C n (put fr dst v) (kz M css++rest) G' Φ):
  Ch P C n fr own G ⟨dst, .call ⟨.value fo,args,tys⟩,ty',pos,af,gd⟩ Φ:=
 aut (c1:=[]) (c2:=[]) ho hv hp (by simpa using hF) hd h
end
section
variable {P:Program}{fr:Fr}{own:List aA}
inductive jE (P:Program) (fr:Fr) (own:List aA):List ResultVar->List Value->Prop
 |nil:jE P fr own [] []
 |tmp {t:Nat} {v:Value} {rs:List ResultVar} {vs:List Value} (h:iq fr t=some v) (k:jE P fr own rs vs):jE P fr own (.tmp t::rs) (v::vs)
 |agg {a b k:Nat} {t ty:TypeId} {cs l:List Value} {lo:Bool} {rs:List ResultVar} {vs:List Value} (h:iq fr a=some (.pointer (some ⟨b,0,none⟩))) (ho:iB own b cs ty lo) (ht:ks P t k) (hl:cx cs 0 k=some l) (h2:jE P fr own rs vs):
   jE P fr own (.cell a t::rs) (.agg ⟨l⟩::vs)
 |sc {a b:Nat} {t ty:TypeId} {cs:List Value} {v:Value} {lo:Bool} {rs:List ResultVar} {vs:List Value} (h:iq fr a=some (.pointer (some ⟨b,0,none⟩))) (ho:iB own b cs ty lo) (ht:j' P t) (hl:cs[0]? =some v) (h2:jE P fr own rs vs):
   jE P fr own (.cell a t::rs) (v::vs)
def xq(a:Act):ResultVar->Sem Value
 | .tmp t=>pure (a.tmps.getD t undef)
 | .cell x t=>do loadVar t (<-asAddr (a.tmps.getD x undef))
def jE.run{rs:List ResultVar}{vs:List Value}(h:jE P fr own rs vs){a:Act}{w:World}(hf:kB fr a)(hh:bF C own G w):
  (rs.mapM (xq a)).run P w= .ok vs w:=by
 induction h with
 |nil=>rfl
 | @tmp t v rs vs h k ih=>
  rw[rT];have e:=hf _ _ h;have e2:a.tmps.getD t undef=v:=by rw[cJ,e];rfl
  rw[aP (a:=v) (w':=w) (by simp only[xq,e2];exact run_pure _ _ _),aP ih];rfl
 | @agg x b k t ty cs l lo rs vs h ho ht hl h2 ih=>
  rw[rT];have e:=hf _ _ h;have e2:a.tmps.getD x undef= .pointer (some ⟨b,0,none⟩):=by rw[cJ,e];rfl
  rw[aP (a:= .agg ⟨l⟩) (w':=w) (by simp only[xq,e2,asAddr];rw[aP (run_pure _ _ _)];exact H8 (hh.hown _ ho.mem).1 hl),aP ih];rfl
 | @sc x b t ty cs v lo rs vs h ho ht hl h2 ih=>
  rw[rT];have e:=hf _ _ h;have e2:a.tmps.getD x undef= .pointer (some ⟨b,0,none⟩):=by rw[cJ,e];rfl
  rw[aP (a:=v) (w':=w) (by simp only[xq,e2,asAddr];rw[aP (run_pure _ _ _)];exact Gs (hh.hown _ ho.mem).1 hl),aP ih];rfl
def nv:List Value->Value
 |[v]=>v
 |vs=> .tuple ⟨vs⟩
def sA{fn:Func}(hr:jE P fr own fn.results.toList vs)(hf:kB fr a)(hh:bF C own G w):(results fn a.tmps).run P w= .ok (nv vs) w:=by
 have h0:=jE.run (C:=C) (G:=G) hr hf hh;have h1:(fn.results.mapM (xq a)).run P w= .ok (⟨vs⟩:Array Value) w:=by
  rw[<-Array.toArray_toList (xs:=fn.results),List.mapM_toArray,map_eq_pure_bind,aP h0];rfl
 have h2:results fn a.tmps=(do
   let vs<-fn.results.mapM (xq a)
   pure (if h:vs.size=1 then vs[0] else .tuple vs)):=by
  unfold results;congr 1
 rw[h2,aP h1]
 match vs with
 |[]=>rfl
 |[v]=>rfl
 |_::_::_=>rfl
def lB(C:aF)(K:Value->Gh->Prop):Ending->World->Prop:=fun e w'=> ∃v G',e= .returned v/\bF C [] G' w'/\K v G'
def Az(C:aF)(M:List aA)(K:Value->List (List Value)->Gh->Prop):Ending->World->Prop:=fun e w'=> ∃v css G',e= .returned v/\css.length=M.length/\bF C (kz (asB M) css) G' w'/\K v css G'
def eg(C:aF)(P:Program)(fn:Func)(R:Ending->World->Prop):Exit->Act->World->Prop:=fun e a w=>C.mks=[]->bodyPost P fn R e a w
def zD{fn:Func}{K:Value->Gh->Prop}(hr:jE P fr own fn.results.toList vs)(hk:K (nv vs) G):St C n fr own G (eg C P fn (lB C K) .ret):=
 fun a w rl hmk=>⟨rl.df.trans hmk,_,sA hr rl.fr rl.h,_,G,J,rl.h.drop (jQ _),hk⟩
def Qt{fn:Func}{K:Value->Gh->Prop}(hr:jE P fr own fn.results.toList vs)(hk:K (nv vs) G):St C n fr own G (eg C P fn (lB C K) .normal):=
 fun a w rl hmk=>⟨rl.df.trans hmk,_,sA hr rl.fr rl.h,_,G,J,rl.h.drop (jQ _),hk⟩
def sh{fn:Func}{css:List (List Value)}(hr:jE P fr own fn.results.toList vs)(hl:css.length=M.length)(own2:List aA)(hp:own.Perm own2)(hs:(kz (asB M) css).Sublist own2)(hk:K (nv vs) css G):St C n fr own G (eg C P fn (Az C M K) .ret):=
 fun a w rl hmk=>⟨rl.df.trans hmk,_,sA hr rl.fr rl.h,_,css,G,J,hl,(rl.h.perm hp).drop hs,hk⟩
def mO:Nat->List Value->Fr
 |_,[]=>[]
 |i,v::t=>(i,v)::mO (i+1) t
def vZ: ∀(vs:List Value) (i k:Nat) (v:Value),iq (mO i vs) k=some v-> ∃j,k=i+j/\vs[j]? =some v
 |[],i,k,v,h=>by cases h
 |u::vs,i,k,v,h=>by
  rw[mO,tO] at h;split at h
  .subst_vars;cases h;exact⟨0,J,J⟩
  .obtain⟨j,rfl,hj⟩:=vZ vs (i+1) k v h
   exact⟨j+1,by omega,by simpa using hj⟩
def Fn.introR{fn:Func}{K:Value->Gh->Prop}(hf:P.funcs[f]? =some fn)(hb:fn.body=some c)(hn:(fn.name== "runtime.NumGoroutine")=false)(hm:fn.ntmps=m)(hlen:Nat.ble vs.length m=true)
  (h: ∀C:aF,C.G0=G->C.mb=[]->C.rd=none->(C.fx=fun _=>none)->St C m (mO 0 vs) [] G (c.wp P (eg C P fn (lB C K)))):Fn P f vs G K:=by
 refine⟨⟨fn,hf,hn,by simp[hb]⟩,fun w hw=>?_⟩;have hlen':vs.length<=m:=by simpa using hlen
 have:=calls_of_wp (P:=P) (f:=f) (args:=⟨vs⟩) (w:=w) (R:=lB ⟨w,G,[],[],[],none,fun _=>none⟩ K) hf hb (wp_mono (h ⟨w,G,[],[],[],none,fun _=>none⟩ J J J J _ w
  ⟨⟨J,J,J,bW _,fun _ _ _=>J,hw,bI.refl _,fun _ _=>J,fun o ho=>(by cases ho), .nil,bW _,fun p hp=>by cases hp⟩,by simp;omega,fun k v hk=>by
   obtain⟨j,rfl,hj⟩:=vZ vs 0 k v hk;have hj':=(aR.1 hj).1;rw[lR (by simpa using hj')];simpa using hj,J⟩) fun _ _ _ k=>k J)
 exact this
def Fn.intro{fn:Func}{K:Value->Gh->Prop}(hf:P.funcs[f]? =some fn)(hb:fn.body=some c)(hn:(fn.name== "runtime.NumGoroutine")=false)(hm:fn.ntmps=m)(hlen:Nat.ble vs.length m=true)
  (h: ∀C:aF,C.G0=G->C.mb=[]->St C m (mO 0 vs) [] G (c.wp P (eg C P fn (lB C K)))):Fn P f vs G K:=
 Fn.introR hf hb hn hm hlen fun C a b _ _=>h C a b
def jx.introR{fn:Func}(hf:P.funcs[f]? =some fn)(hb:fn.body=some c)(hn:(fn.name== "runtime.NumGoroutine")=false)(hm:fn.ntmps=m)(hlen:Nat.ble vs.length m=true)
  (h: ∀C:aF,C.G0=G->C.mb=M.map (·.b)->C.rd=none->(C.fx=fun _=>none)->St C m (mO 0 vs) (asB M) G (c.wp P (eg C P fn (Az C M K)))):jx P f vs M G K:=by
 refine⟨⟨fn,hf,hn,by simp[hb]⟩,fun w hw=>?_⟩;have hlen':vs.length<=m:=by simpa using hlen
 have:=calls_of_wp (P:=P) (f:=f) (args:=⟨vs⟩) (w:=w) (R:=Az ⟨w,G,M.map (·.b),[],[],none,fun _=>none⟩ M K) hf hb (wp_mono (h ⟨w,G,M.map (·.b),[],[],none,fun _=>none⟩ J J J J _ w
  ⟨hw,by simp;omega,fun k v hk=>by
   obtain⟨j,rfl,hj⟩:=vZ vs 0 k v hk;have hj':=(aR.1 hj).1;rw[lR (by simpa using hj')];simpa using hj,J⟩) fun _ _ _ k=>k J)
 exact this
def jx.intro{fn:Func}(hf:P.funcs[f]? =some fn)(hb:fn.body=some c)(hn:(fn.name== "runtime.NumGoroutine")=false)(hm:fn.ntmps=m)(hlen:Nat.ble vs.length m=true)
  (h: ∀C:aF,C.G0=G->C.mb=M.map (·.b)->St C m (mO 0 vs) (asB M) G (c.wp P (eg C P fn (Az C M K)))):jx P f vs M G K:=
 jx.introR hf hb hn hm hlen fun C a b _ _=>h C a b
def AA(b:Nat){cs:List Value}(hr:jq own ⟨b,cs,ty,true⟩ own')(h: ∀G':Gh,[GE G G']->[r8 G' b cs]->St C n fr own' G' Φ):St C n fr own G Φ:=
 fun a w rl=>by
  obtain⟨h1,h2⟩:=rl.h.freeze hr;exact @h _ ⟨h2⟩ ⟨by simp⟩ a w (rl.heap h1)
def R8(own':List aA)(hs:own'.Sublist own)(h:St C n fr own' G Φ):St C n fr own G Φ:=
 fun a w rl=>h a w (rl.heap (rl.h.drop hs))
def AN(own':List aA)(hs:own.Perm own')(h:St C n fr own' G Φ):St C n fr own G Φ:=
 fun a w rl=>h a w (rl.heap (rl.h.perm hs))
def Rs(C:aF)(n:Nat)(F:X->Fr)(O:X->List aA)(I:X->Gh->Prop)(μ:X->Nat)(m:Nat)(G:Gh)(a:Act)(w:World):Prop:=
 ∃x G',bI G G'/\I x G'/\μ x<m/\gq C n (F x) (O x) G' a w
def K7(F:X->Fr)(O:X->List aA)(I:X->Gh->Prop)(μ:X->Nat)(x0:X)(hI:I x0 G)(hF:uR (F x0) fr)(hO:O x0=own)
  (round: ∀(x:X) (G':Gh),[GE G G']->I x G'->St C n (F x) (O x) G' (c.wp P (Exit.then (Rs C n F O I μ (μ x) G') Q))):St C n fr own G ((Code.loop c).wp P Q):=by
 intro a w rl;subst hO;intro b k cs;have key: ∀m a w,(∃x G',bI G G'/\I x G'/\μ x=m/\gq C n (F x) (O x) G' a w)->
   ∃e a' w',Q e a' w'/\Arrives P (lone (b.at a (.code c:: .inLoop c::k)) cs w) b k cs e a' w':=by
  intro m
  induction m using Nat.strongRecOn with
  |_ m ih=>
   intro a w ⟨x,G',hle,hx,hm,hr⟩;obtain⟨e,a₁,w₁,hq,harr⟩:= @round x G' ⟨hle⟩ hx a w hr b (.inLoop c::k) cs
   cases e with
   |normal=>
    obtain⟨x',G'',hle',hx',hlt,hr'⟩:=hq;obtain⟨e₂,a₂,w₂,hq₂,harr₂⟩:=ih (μ x') (hm▸hlt) a₁ w₁ ⟨x',G'',hle.trans hle',hx',rfl,hr'⟩;exact⟨e₂,a₂,w₂,hq₂, .of_steps (Steps.trans harr (.one step_inLoop)) harr₂⟩
   |exit id=>exact⟨_,a₁,w₁,hq, .pass (x:= .inLoop c) J (fun _ _=> .inl (by simp)) harr⟩
   |goto l=>exact⟨_,a₁,w₁,hq, .pass (x:= .inLoop c) J (fun _ _=> .inl (by simp)) harr⟩
   |ret=>exact⟨_,a₁,w₁,hq, .pass (x:= .inLoop c) J (fun _ _=> .inl (by simp)) harr⟩
   |panic ch=>exact⟨_,a₁,w₁,hq, .pass (x:= .inLoop c) J (fun _ _=> .inl (by simp)) harr⟩
   |outgrown=>exact⟨_,a₁,w₁,hq, .pass (x:= .inLoop c) J (fun _ _=> .inl (by simp)) harr⟩
 obtain⟨e,a',w',q,r⟩:=key (μ x0) a w ⟨x0,G,bI.refl _,hI,rfl,rl.h,rl.sz,fun k v hk=>rl.fr _ _ (hF _ _ hk),rl.df⟩;exact⟨e,a',w',q, .of_steps (.one step_loop) r⟩
def Iw{F:X->Fr}{O:X->List aA}{I:X->Gh->Prop}{μ:X->Nat}[hg:GL G0 G](x:X)(hI:I x G)(hμ:μ x<m)(hF:uR (F x) fr)(hO:O x=own):St C n fr own G (Rs C n F O I μ m G0):=
 fun a w rl=>⟨x,G,hg.le,hI,hμ,⟨hO▸rl.h,rl.sz,fun k v hk=>rl.fr _ _ (hF _ _ hk),rl.df⟩⟩
end
def gu(Q:Exit->Act->World->Prop):Exit->Act->World->Prop
 | .panic _,_,_=>False
 |e,a,w=>Q e a w
def gu.imp: ∀(e:Exit) (a:Act) (w:World),gu Q e a w->Q e a w:=fun e a w h=>by
 cases e<;>first|exact h|exact(h:False).elim
section
variable {P:Program}
def tG(P:Program)(ops:Array Oper)(Q:Exit->Act->World->Prop)(S:World->Prop)(fin:Nat->Bool):Nat->Array Bool->Act->World->Prop
 |0,listed,a,w=>Region.ready .any ops listed=[]/\Q .normal a w
 |fuel+1,listed,a,w=>
  (Region.ready .any ops listed=[]->Q .normal a w)/\
  ∀i∈Region.ready .any ops listed,wpOp P ops Q i (fun a' w'=>(fin i=true\/S w')/\tG P ops Q S fin fuel (listed.setIfInBounds i true) a' w') a w
def CL: ∀(fuel:Nat) (listed:Array Bool) (a:Act) (w:World),tG P ops Q S fin fuel listed a w->wpAny P .any ops Q fuel listed a w
 |0,_,_,_,h=>h
 |fuel+1,_,_,_,h=>⟨h.1,fun i hi=>wpOp_mono (fun a' w' h'=>CL fuel _ a' w' h'.2) (h.2 i hi)⟩
def JS(ops:Array Oper)(fin:Nat->Bool)(i:Nat):Bool:=
 !fin i&&(List.range ops.size).all fun j=>!fin j||((ops[j]?).map fun o=>o.after.any fun e=>Region.binds .any e&&e.on==i).getD true
def Yj(h:JS ops fin i=true):fin i=false/\ ∀j oj,ops[j]? =some oj->fin j=true-> ∃e∈oj.after,Region.binds .any e=true/\e.on=i:=by
 simp only[JS,bK,gM] at h;refine⟨h.1,fun j oj hoj hf=>?_⟩;have hj:j<ops.size:=(fY.1 hoj).1;have h1:=dJ.1 h.2 j (by simpa using hj);rw[hf,hoj] at h1;simp only[Bool.not_true,lK,lU,Bool.false_or] at h1;obtain⟨e,he,hb⟩:=Array.any_eq_true'.1 h1;simp only[bK,beq_iff_eq] at hb;exact⟨e,he,hb.1,hb.2⟩
def V'{i:Nat}{oi:Oper}{v:Value}(hi:ops[i]? =some oi)(hsel: ∀(j:Nat) (o:Oper) cs b,ops[j]? =some o->o.op≠ .select cs b)
  (hQ: ∀c a w,Q (.panic c) (a.put oi.dst v) w->Q (.panic c) a w)(hfi:fin i=false)
  (hfin: ∀j oj,ops[j]? =some oj->fin j=true-> ∃e∈oj.after,Region.binds .any e=true/\e.on=i):
  ∀(fuel:Nat) (listed:Array Bool) (a:Act) (w:World),
   (∀j oj,ops[j]? =some oj->j≠i->listed.getD j true=false->(∀e∈oj.after,Region.binds .any e=true->e.on≠i)->oi.apart ops oj=true)->
   i∈Region.ready .any ops listed->YieldsIf P ops S oi v a->S w->
   tG P ops Q S fin fuel (listed.setIfInBounds i true) (a.put oi.dst v) w->tG P ops Q S fin (fuel+1) listed a w:=by
 intro fuel
 induction fuel with
 |zero=>
  intro listed a w _ hr hy hS H;refine⟨fun h=>(by rw[h] at hr;cases hr),fun j hj=>?_⟩;by_cases hji:j=i
  .subst hji;exact hy.wpOp hi hS ⟨.inr hS,H⟩
  .have:=ready_mono hj hji
   rw[H.1] at this
   cases this
 |succ fuel ih=>
  intro listed a w hfree hr hy hS H;refine⟨fun h=>(by rw[h] at hr;cases hr),fun j hj=>?_⟩;by_cases hji:j=i
  .subst hji;exact hy.wpOp hi hS ⟨.inr hS,H⟩
  .have h1:=H.2 j (ready_mono hj hji)
   obtain⟨hjun,oj,hoj,hall⟩:=mem_ready.1 hj;have hnot: ∀e∈oj.after,Region.binds .any e=true->e.on≠i:=fun e he hb heq=>by
    have h1:=hall e he hb;have h0:=(mem_ready.1 hr).1;rw[heq] at h1;rcases jK i listed.size with h'|h'
    .simp[h'] at h0 h1;rw[h0] at h1;cases h1
    .simp[oL h'] at h1
   have hnf:fin j=false:=by
    cases hf:fin j with
    |false=>rfl
    |true=>obtain⟨e,he,hb,heq⟩:=hfin j oj hoj hf;exact absurd heq (hnot e he hb)
   have h2:=wpOp_putIf hoj (hfree j oj hoj hji hjun hnot) (fun cs b=>hsel i oi cs b hi) (fun cs b=>hsel j oj cs b hoj) hQ hy h1;have hfree': ∀k ok,ops[k]? =some ok->k≠i->(listed.setIfInBounds j true).getD k true=false->
     (∀e∈ok.after,Region.binds .any e=true->e.on≠i)->oi.apart ops ok=true:=fun k ok hk hki hun hno=>by
    refine hfree k ok hk hki ?_ hno;by_cases hjk:j=k
    .subst hjk;exact hjun
    .rw[getD_set_ne true hjk] at hun;exact hun
   refine wpOp_mono (fun a' w' h3=>?_) h2;have hS':S w':=h3.2.1.resolve_left (by rw[hnf];simp);refine⟨.inr hS',ih (listed.setIfInBounds j true) a' w' hfree' (ready_mono hr (Ne.symm hji)) h3.1 hS' ?_⟩;rw[Array.setIfInBounds_comm _ _ hji];exact h3.2.2
def as5{listed:Array Bool}(hr:Region.ready .any ops listed=[i])
  (h:wpOp P ops Q i (fun a' w'=>(fin i=true\/S w')/\tG P ops Q S fin fuel (listed.setIfInBounds i true) a' w') a w):tG P ops Q S fin (fuel+1) listed a w:=
 ⟨fun h0=>absurd (hr.symm.trans h0) (by simp),fun j hj=>by rw[hr,aU] at hj;subst hj;exact h⟩
def QS(ops:Array Oper)(fin:Nat->Bool)(listed:Array Bool)(i:Nat):Bool:=
 Region.noSelect ops&&Region.free .any ops listed i&&(Region.ready .any ops listed).contains i&&JS ops fin i
end
class lu (l m:List aA):Prop where s:l.Sublist m
instance lu.cons (l m:List aA) (o:aA) [h:lu l m]:lu l (o::m):=⟨h.s.cons o⟩
def HS(C:aF)(own:List aA)(G:Gh):World->Prop:=fun w=> ∃G',bI G G'/\bF C own G' w
section
variable {P:Program}{fr:Fr}{own:List aA}
def at7{id:Nat}(fin:Nat->Bool)(hm:P.follows .mixedOrders=true)
  (h:St C n fr own G (tG P ops (gu Q) (HS C own G) fin ops.size (Array.replicate ops.size false))):St C n fr own G ((Code.region id ops true).wp P Q):=by
 intro a w rl;exact wp_mono (wp_region_any hm (CL _ _ _ _ (h a _ (rl.heap rl.h.drew)))) gu.imp
def lG{b:Bool}[hs:lu own0 own][hl:GL G0 G](h:St C n fr own G Φ):St C n fr own G (fun a w=>(b=true\/HS C own0 G0 w)/\Φ a w):=
 fun a w rl=>⟨.inr ⟨G,hl.le,rl.h.drop hs.s⟩,h a w rl⟩
def aKp{b:Bool}(hb:b=true)(h:St C n fr own G Φ):St C n fr own G (fun a w=>(b=true\/S w)/\Φ a w):=
 fun a w rl=>⟨.inl hb,h a w rl⟩
end
end Go.Sx
end
