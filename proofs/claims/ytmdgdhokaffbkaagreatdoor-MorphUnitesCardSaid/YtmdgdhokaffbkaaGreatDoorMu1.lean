import Derived.Calls
import Derived.Orders
import Derived.OrdersHeld
import Derived.Laws.World
import Derived.Below
import Derived.IntWalk
import Derived.KernelRfl
import Derived.Laws.Append
set_option linter.all false
section
namespace Go.Sx
def J{α:Sort _}{a:α}:a=a:=rfl
open Go
variable {α β:Type}{a:Act}{c x z:Operand}{v:Value}{P:Program}{ops:Array Oper}{Q:Exit->Act->World->Prop}{w w':World}{n j d e s by_ off f i len cap m:Nat}{r:List Oper}{o:Oper}{y:Code}{p q:Int}{Φ:Act->World->Prop}{t ty' t':TypeId}{k k':IntKind}{l l1 l2 cs':List Value}{dst:Option Nat}{pos:String}{af:Array Edge}{ad:Option Addr}{css:List (List Value)}
def aQ:=@List.mem_cons_self
def aZ:=@List.getElem?_eq_getElem
def aX:=@List.length_map
def aJ:=@List.mem_cons_of_mem
def aK:=@List.mem_cons
def aV:=@List.mem_of_getElem?
def aW:=@List.getD_eq_getElem?_getD
def aY:=@List.length_append
def aU:=@List.mem_singleton
def aT:=@List.getElem?_eq_some_iff
def aR:=@List.mem_map
def aS:=@List.length_replicate
def aL:=@Nat.eq_of_beq_eq_true
def aM:=@List.mem_append
def aN:=@List.length_set
def bQ:=@List.length_cons
def bZ:=@List.mem_append_right
def bX:=@List.map_append
def bJ:=@Nat.zero_le
def bK:=@List.drop_eq_getElem_cons
def bV:=@List.mem_append_left
def bW:=@Nat.le_refl
def bY:=@List.map_cons
def bU:=@Bool.and_eq_true
def bT:=@Nat.mul_le_mul_right
def bR:=@Nat.pow_le_pow_right
def bS:=@List.pairwise_cons
def bL:=@List.length_take
def bM:=@Rat.intCast_mul
def cZ:=@List.take_of_length_le
def cX:=@Array.getD_eq_getD_getElem?
def cJ:=@Nat.mul_comm
def cK:=@Int.toNat_natCast
def cV:=@Nat.mul_assoc
def cW:=@Rat.intCast_eq_zero_iff
def cY:=@List.getElem?_map
def cR:=@List.eq_nil_of_length_eq_zero
def cS:=@Nat.le_trans
def cM:=@Rat.le_of_lt
def cN:=@List.getElem_mem
def dQ:=@List.take_length
def dZ:=@Nat.lt_of_lt_of_le
def dX:=@List.append_assoc
def dJ:=@List.all_eq_true
def dK:=@Nat.mod_lt
def dV:=@Nat.add_mul
def dW:=@List.forall_mem_cons
def dY:=@List.mem_map_of_mem
def dT:=@List.not_mem_nil
def dR:=@Array.getElem?_setIfInBounds
def dS:=@Int.sign_eq_neg_one_of_neg
def eX:=@Nat.zero_add
def eJ:=@List.getElem?_eq_none
def eK:=@List.take_add_one
def eY:=@List.length_nil
def eM:=@List.mem_of_mem_take
def fQ:=@Nat.mul_add
def fZ:=@Rat.mul_eq_zero
def fX:=@Nat.pow_add
def fJ:=@Nat.mul_le_mul
def fK:=@Nat.lt_of_le_of_lt
def fV:=@Array.getElem?_eq_some_iff
def fW:=@Int.natAbs_mul
def fY:=@Int.sign_eq_one_of_pos
def fU:=@Nat.eq_zero_or_pos
def fT:=@Int.natAbs_natCast
def fR:=@Nat.mul_le_mul_left
def fS:=@Nat.succ_mul
def fL:=@List.append_nil
def fM:=@List.length_singleton
def fN:=@Nat.pow_pos
def gQ:=@List.take_append_of_le_length
def gX:=@Nat.add_zero
def gJ:=@Nat.le_of_lt
def gK:=@List.length_drop
def gV:=@List.drop_length
def gW:=@List.pairwise_append
def gU:=@List.mem_of_mem_drop
def gT:=@Array.getElem?_eq_getElem
def gR:=@Nat.pow_succ
def gS:=@Int.sign_eq_zero_iff_zero
def gL:=@List.cons_append
def gM:=@Bool.or_eq_true
def gN:=@List.map_nil
def iQ:=@List.drop_zero
def iZ:=@Bool.not_eq_true'
def iX:=@List.mem_flatMap
def iJ:=@Rat.intCast_sub
def iK:=@Nat.pos_of_ne_zero
def iV:=@Rat.le_refl
def iW:=@List.map_take
def iY:=@List.map_toArray
def iU:=@Int.natCast_mul
def iT:=@List.perm_append_comm
def iR:=@List.map_drop
def iS:=@List.drop_eq_nil_of_le
def iL:=@List.take_succ_eq_append_getElem
def iM:=@List.drop_of_length_le
def iN:=@Nat.mul_one
def jQ:=@Nat.mul_pos
def jZ:=@Nat.lt_or_ge
def jX:=@Nat.gcd_comm
def jJ:=@Rat.intCast_neg
def jK:=@List.nil_sublist
def jV:=@List.getElem?_append_right
def jW:=@Int.natAbs_neg
def jY:=@List.any_eq_true
def jU:=@Bool.not_eq_true
def jT:=@List.getElem?_append_left
def jR:=@List.map_set
def jS:=@List.mem_filterMap
def jL:=@List.nil_append
def jM:=@Nat.min_eq_left
def jN:=@Nat.mod_eq_of_lt
def kQ:=@List.take_append_drop
def kZ:=@Nat.div_lt_iff_lt_mul
def kX:=@Nat.zero_mul
def kJ:=@Bool.false_eq_true
def kK:=@Int.fdiv_eq_ediv_of_nonneg
def kV:=@List.mem_range
def kW:=@Int.natAbs_eq_zero
def kY:=@List.foldl_cons
def kU:=@Nat.add_comm
def kR:=@Nat.gcd_dvd_left
def kS:=@Nat.blt_eq
def kL:=@Array.length_toList
def kM:=@List.drop_append_of_le_length
def kN:=@Nat.add_assoc
def lQ:=@Option.map_some
def lZ:=@Rat.intCast_add
def lX:=@Int.natAbs_zero
def lJ:=@Option.getD_some
def lK:=@Bool.or_eq_false_iff
def lV:=@Array.getElem?_append_left
def lW:=@List.ext_getElem?
def lY:=@Int.ofNat_natAbs_of_nonpos
def lU:=@Nat.gcd_dvd_right
def lT:=@List.length_range
def lR:=@Nat.eq_zero_of_gcd_eq_zero_right
def lS:=@List.flatMap_cons
def lL:=@Rat.num_eq_zero
def lM:=@Nat.eq_zero_of_gcd_eq_zero_left
def lN:=@List.getElem?_drop
def mQ:=@List.append_of_mem
def mZ:=@Nat.div_eq_of_lt
def mX:=@List.length_filterMap_le
def mJ:=@List.length_dropLast
def mK:=@Nat.le_mul_of_pos_right
def mV:=@Nat.mul_left_comm
def mW:=@Nat.gcd_pos_of_pos_left
def mY:=@Nat.div_le_self
def mU:=@List.sublist_cons_self
def mT:=@Nat.mul_lt_mul_of_pos_right
def mR:=@Nat.one_mul
def mS:=@List.drop_append
def mL:=@Rat.mkRat_eq_div
def mM:=@Nat.mul_right_comm
def mN:=@Nat.add_sub_cancel
def nQ:=@Nat.mul_lt_mul_of_lt_of_le
def nZ:=@Nat.gcd_zero_right
def nX:=@List.set_append_right
def nJ:=@List.eq_nil_or_concat
def nK:=@List.concat_eq_append
def nV:=@List.getLast?_eq_getElem?
def nW:=@Int.natAbs_ediv_le_natAbs
def nY:=@Rat.num_intCast
def nU:=@Rat.den_intCast
def nT:=@Int.natAbs_of_nonneg
def nR:=@Rat.neg_num
def nS:=@Nat.beq_refl
def nL:=@List.foldl_append
def nM:=@List.mem_iff_getElem
def nN:=@Nat.pow_lt_pow_iff_right
def oQ:=@List.sublist_append_left
def oZ:=@List.take_succ_cons
def oX:=@List.getD_cons_succ
def oJ:=@List.length_pos_iff
def oK:=@List.takeWhile_cons
def oV:=@Nat.le_add_right
def oW:=@List.perm_middle
def oY:=@Nat.mul_lt_mul''
def oU:=@List.countP_cons
def oT:=@Array.getElem?_eq_none
def oR:=@List.getElem?_take
def oS:=@List.getElem_cons_zero
def oL:=@Option.toList_some
def oM:=@Int.mul_eq_zero
def oN:=@List.mem_filter
def pQ:=@Array.getElem?_toList
def pZ:=@List.length_filter_le
def pX:=@List.size_toArray
def pJ:=@Int.lt_trichotomy
def pK:=@List.getElem?_set
def pV:=@Nat.add_mul_div_left
def pW:=@Array.toList_map
def pY:=@Nat.sub_self
def pU:=@List.getElem_map
def pT:=@Int.le_of_lt
def pR:=@Nat.le_max_right
def pS:=@Nat.add_mul_mod_self_left
def pL:=@List.pairwise_iff_getElem
def pM:=@List.getElem?_range
def pN:=@Int.toNat_of_nonneg
def qQ:=@List.take_replicate
def qZ:=@List.getD_cons_zero
def qX:=@List.filterMap_cons
def qJ:=@Option.isSome_iff_exists
def qK:=@Array.getElem?_replicate
def qV:=@Nat.gcd_pos_of_pos_right
def qW:=@Nat.dvd_trans
def qY:=@Bool.eq_iff_iff
def qU:=@Option.map_none
def qT:=@Nat.div_add_mod
def qR:=@Rat.intCast_inj
def qS:=@Nat.le_max_left
def qL:=@List.range_succ
def qM:=@Array.foldl_toList
def qN:=@Rat.div_mul_cancel
def rQ:=@Int.natCast_dvd_natCast
def rZ:=@Nat.mul_div_cancel_left
def rX:=@List.mapM_cons
def rJ:=@List.flatten_cons
def rK:=@Int.mul_comm
def rW:=@Nat.lt_trichotomy
def rY:=@Rat.mkRat_self
def rU:=@Rat.num_nonneg
def rT:=@List.forall_mem_append
def rR:=@List.getElem?_set_self
def rS:=@Nat.div_div_eq_div_mul
def rL:=@Bool.or_true
def rM:=@Nat.le_of_ble_eq_true
def rN:=@Nat.le_div_iff_mul_le
def sQ:=@Int.natCast_ediv
def sZ:=@Nat.le_of_not_lt
def sX:=@Bool.true_and
def sJ:=@Rat.mkRat_one
def sV:=@List.sum_cons
def sW:=@Rat.neg_den
def sY:=@Nat.not_lt_zero
def sU:=@List.sum_append
def sT:=@Array.toList_zipIdx
def sS:=@List.replicate_succ
def sL:=@List.drop_set_of_lt
def sM:=@List.drop_succ_cons
def sN:=@List.flatMap_append
def tQ:=@Nat.mul_zero
def tZ:=@Nat.lt_trans
def tX:=@Nat.pow_zero
def tJ:=@List.take_zero
def tK:=@Nat.pow_mul
def tV:=@Nat.gcd_rec
def tW:=@Nat.div_one
abbrev Gh:=Nat->Option (List Value)
variable {G G':Gh}
def bH(G G':Gh):Prop:= ∀b cs,G b=some cs->G' b=some cs
def bH.refl(G:Gh):bH G G:=fun _ _ h=>h
def bH.trans{a b c:Gh}(h:bH a b)(k:bH b c):bH a c:=fun _ _ x=>k _ _ (h _ _ x)
structure av where
 b:Nat
 cs:List Value
 ty:TypeId
 lo:Bool
variable {own' M rest:List av}
structure aE where
 w0:World
 G0:Gh
 mb:List Nat
 /-- other objects that stay: records of loops, marks -/
 ex:List (Nat×Obj)
 /-- the marks among the deferred calls; the round -/
 mks:List Deferred
 rd:Option Nat
 /-- where names that are fixed lie -/
 fx:Nat->Option Addr
variable {C:aE}
structure bE (C:aE) (own:List av) (G:Gh) (w:World):Prop where
 os:w.os=C.w0.os
 tape:w.tape=C.w0.tape
 output:w.output=C.w0.output
 size:C.w0.heap.size<=w.heap.size
 keep: ∀b,b<C.w0.heap.size->b∉C.mb->w.heap[b]? =C.w0.heap[b]?
 sub: ∀b cs,G b=some cs-> ∃ty fz,w.heap[b]? =some (.cells ⟨cs⟩ ty fz)
 gle:bH C.G0 G
 gold: ∀b,b<C.w0.heap.size->G b=C.G0 b
 hown: ∀o∈own,w.heap[o.b]? =some (.cells ⟨o.cs⟩ o.ty (0,0))/\G o.b=none/\(o.lo=true->C.w0.heap.size<=o.b)/\(o.lo=false->o.b∈C.mb)
 nd:own.Pairwise (fun x y=>x.b≠y.b)
 dr:C.w0.drawn<=w.drawn
 ext: ∀p∈C.ex,(∀cs ty z,p.2≠ .cells cs ty z)/\w.heap[p.1]? =some p.2
abbrev Fr:=List (Nat×Value)
def io:Fr->Nat->Option Value
 |[],_=>none
 |(k,v)::t,j=>bif Nat.beq k j then some v else io t j
def put(fr:Fr)(dst:Option Nat)(v:Value):Fr:=match dst with|some d=>(d,v)::fr|none=>fr
def kG(fr:Fr)(a:Act):Prop:= ∀k v,io fr k=some v->a.tmps[k]? =some v
structure gm (C:aE) (n:Nat) (fr:Fr) (own:List av) (G:Gh) (a:Act) (w:World):Prop where
 h:bE C own G w
 sz:a.tmps.size=n
 fr:kG fr a
 df:a.defers=C.mks
def St(C:aE)(n:Nat)(fr:Fr)(own:List av)(G:Gh)(Φ:Act->World->Prop):Prop:=
 ∀a w,gm C n fr own G a w->Φ a w
def aB(fr:Fr):Operand->Option Value
 | .tmp k=>io fr k
 | .const v=>some v
 | .global g=>some (.pointer (some ⟨g,0,none⟩))
 | .func f=>some (.func (.func f) #[] #[])
def bw{fr:Fr}(h:kG fr a)(hx:aB fr x=some v):a.eval x=v:=by
 cases x with
 |tmp k=>
  have:=h k v hx;simp only[Act.eval,cX,this,lJ]
 |const u=>simpa[aB,Act.eval] using hx
 |global g=>simpa[aB,Act.eval] using hx
 |func f=>simpa[aB,Act.eval] using hx
def tL(k:Nat)(v:Value)(t:Fr)(j:Nat):io ((k,v)::t) j=if k=j then some v else io t j:=by
 simp only[io];by_cases h:k=j
 .simp[h]
 .have:Nat.beq k j=false:=by
   cases hb:Nat.beq k j with
   |false=>rfl
   |true=>exact absurd (aL hb) h
  simp[this,h]
def b8(n:Nat):Option Nat->Bool
 |some d=>Nat.blt d n
 |none=>true
def kG.put{fr:Fr}{a:Act}{n:Nat}(h:kG fr a)(hs:a.tmps.size=n){dst:Option Nat}{v:Value}(hd:b8 n dst=true):kG (Sx.put fr dst v) (a.put dst v):=by
 cases dst with
 |none=>exact h
 |some d=>
  intro k u hk;have hdn:d<n:=by simpa[b8,kS] using hd
  simp only[Sx.put,tL] at hk;simp only[Act.put,dR];by_cases hkd:d=k
  .simp only[hkd,if_true] at hk
   subst hkd;simp[hs,hdn,hk]
  .simp only[hkd,if_false] at hk
   simp only[hkd,if_false];exact h k u hk
def Ll(a:Act)(dst:Option Nat)(v:Value):(a.put dst v).tmps.size=a.tmps.size:=by cases dst<;>simp[Act.put]
def Oy(a:Act)(dst:Option Nat)(v:Value):(a.put dst v).defers=a.defers:=by cases dst<;>simp[Act.put]
def gm.put{C n fr own G a w}(r:gm C n fr own G a w){dst:Option Nat}(v:Value)(hd:b8 n dst=true):gm C n (Sx.put fr dst v) own G (a.put dst v) w:=
 ⟨r.h,by rw[Ll];exact r.sz,r.fr.put r.sz hd,by rw[Oy];exact r.df⟩
def gm.heap{C n fr own G own' G' a w w'}(r:gm C n fr own G a w)(h:bE C own' G' w'):gm C n fr own' G' a w':=⟨h,r.sz,r.fr,r.df⟩
def cP(P:Program)(ops:Array Oper)(Q:Exit->Act->World->Prop):List Oper->Act->World->Prop
 |[],a,w=>Q .normal a w
 |o::r,a,w=>if Region.wanted o (yielded ops a.tmps) then o.wp P a w (cP P ops Q r) Q else cP P ops Q r (a.put o.dst undef) w
def Tk: ∀(l:List Nat) (k:Nat) (a:Act) (w:World),l=(List.range ops.size).drop k->cP P ops Q (ops.toList.drop k) a w->wpOps P ops Q l a w:=by
 intro l
 induction l with
 |nil=>
  intro k a w hl h;have hk:ops.size<=k:=by
   have:=congrArg List.length hl;simp at this;omega
  rw[iS (by simpa using hk)] at h;exact h
 |cons i t ih=>
  intro k a w hl h;have hk:k<ops.size:=by
   have:=congrArg List.length hl;simp at this;omega
  rw[bK (by simpa using hk)] at hl;obtain⟨hi,ht⟩:=List.cons.inj hl;simp only[List.getElem_range] at hi;subst hi;rw[bK (by simpa using hk)] at h;have ho:ops[i]? =some ops[i]:=gT hk;simp only[wpOps,ho];simp only[cP,Array.getElem_toList] at h;split
  .rename_i hw
   simp only[hw,if_true] at h;exact .inl (Oper.wp_mono (fun a w h=>ih (i+1) a w ht h) h)
  .rename_i hw
   simp only[hw] at h;exact ih (i+1) _ w ht h
def S7{id:Nat}
  (h:cP P ops Q ops.toList a w):(Code.region id ops false).wp P Q a w:=
 wp_region (Tk _ 0 a w (by simp) (by simpa using h))
def Yd(P:Program)(C:aE)(fr:Fr)(own:List av)(G:Gh)(o:Oper)(v:Value):Prop:=
 ∀a w,kG fr a->bE C own G w->(execOp a.eval o).run P w= .ok (.value v) w
section
variable {fr:Fr}{own:List av}
def pk(hy:Yd P C fr own G o v)(hg:o.guard=none)(hd:b8 n o.dst=true)
  (h:St C n (put fr o.dst v) own G (cP P ops Q r)):St C n fr own G (cP P ops Q (o::r)):=by
 intro a w rl;simp only[cP,Region.wanted,hg,if_true,Oper.wp,hy a w rl.fr rl.h,Oper.upon];exact h _ _ (rl.put v hd)
def Jr{b:Bool}(hf:kG fr a)(hj:(ops[j]?).bind (·.dst)=some d)(hl:io fr d=some (.bool b)):yielded ops a.tmps j=some b:=by
 unfold yielded;rw[hj];simp[hf d _ hl]
def aHb{b:Bool}(hg:o.guard=some (j,b))(hj:(ops[j]?).bind (·.dst)=some d)(hl:io fr d=some (.bool b))
  (hy:Yd P C fr own G o v)(hd:b8 n o.dst=true)
  (h:St C n (put fr o.dst v) own G (cP P ops Q r)):St C n fr own G (cP P ops Q (o::r)):=by
 intro a w rl;have:Region.wanted o (yielded ops a.tmps)=true:=by simp[Region.wanted,hg,Jr rl.fr hj hl]
 simp only[cP,this,if_true,Oper.wp,hy a w rl.fr rl.h,Oper.upon];exact h _ _ (rl.put v hd)
def Ux{b c:Bool}(hg:o.guard=some (j,b))(hj:(ops[j]?).bind (·.dst)=some d)(hl:io fr d=some (.bool c))(hbc:(c==b)=false)
  (hd:b8 n o.dst=true)(h:St C n (put fr o.dst undef) own G (cP P ops Q r)):St C n fr own G (cP P ops Q (o::r)):=by
 intro a w rl;have:Region.wanted o (yielded ops a.tmps)=false:=by simp[Region.wanted,hg,Jr rl.fr hj hl,hbc]
 simp only[cP,this];exact h _ _ (rl.put undef hd)
def zE(h:St C n fr own G (Q .normal)):St C n fr own G (cP P ops Q []):=h
def EF{id:Nat}(h:St C n fr own G (cP P ops Q ops.toList)):St C n fr own G ((Code.region id ops false).wp P Q):=
 fun a w rl=>S7 (h a w rl)
def eE{x:Code}(h:St C n fr own G (x.wp P (Exit.then (y.wp P Q) Q))):St C n fr own G ((Code.seq x y).wp P Q):=
 fun a w rl=>wp_seq (h a w rl)
def zK(h:St C n fr own G (Q .normal)):St C n fr own G (Code.skip.wp P Q):=fun a w rl=>wp_skip (h a w rl)
def kD(h:St C n fr own G (Q .ret)):St C n fr own G (Code.ret.wp P Q):=fun a w rl=>wp_ret (h a w rl)
def Kv{id:Nat}(h:St C n fr own G (Q (.exit id))):St C n fr own G ((Code.exit id).wp P Q):=fun a w rl=>wp_exit (h a w rl)
def uQ{id:Nat}{c:Code}(h:St C n fr own G (c.wp P (Exit.inBlock id Q))):St C n fr own G ((Code.block id c).wp P Q):=
 fun a w rl=>wp_block (h a w rl)
def Lk{id:Nat}(h:St C n fr own G (Q .normal)):St C n fr own G (Exit.inBlock id Q (.exit id)):=
 fun a w rl=>by simp only[Exit.inBlock,if_true];exact h a w rl
def sC{x:Code}(hc:aB fr c=some (.bool true))(h:St C n fr own G (x.wp P Q)):St C n fr own G ((Code.cond c x y).wp P Q):=
 fun a w rl=>wp_cond_true (bw rl.fr hc) (h a w rl)
def qD{x:Code}(hc:aB fr c=some (.bool false))(h:St C n fr own G (y.wp P Q)):St C n fr own G ((Code.cond c x y).wp P Q):=
 fun a w rl=>wp_cond_false (bw rl.fr hc) (h a w rl)
def uB{p:Prop}{inst:Decidable p}{x:Code}(hc:aB fr c=some (.bool (@decide p inst)))(h1:p->St C n fr own G (x.wp P Q))(h2: ¬p->St C n fr own G (y.wp P Q)):
  St C n fr own G ((Code.cond c x y).wp P Q):=
 fun a w rl=>wp_cond_split (bw rl.fr hc) (fun h=>h1 (of_decide_eq_true h) a w rl) (fun h=>h2 (of_decide_eq_false h) a w rl)
def Zp{b:Bool}{x:Code}(hc:aB fr c=some (.bool b))(h1:b=true->St C n fr own G (x.wp P Q))(h2:b=false->St C n fr own G (y.wp P Q)):
  St C n fr own G ((Code.cond c x y).wp P Q):=
 fun a w rl=>wp_cond_split (bw rl.fr hc) (fun h=>h1 h a w rl) (fun h=>h2 h a w rl)
def aCQ(d:Nat){b:Bool}(hl:io fr d=some (.bool b))(h1:b=true->St C n ((d, .bool true)::fr) own G Φ)(h2:b=false->St C n ((d, .bool false)::fr) own G Φ):St C n fr own G Φ:=by
 intro a w rl
 cases b with
 |true=>exact h1 J a w ⟨rl.h,rl.sz,fun k v hk=>by
   rw[tL] at hk;split at hk
   .subst_vars;cases hk;exact rl.fr _ _ hl
   .exact rl.fr _ _ hk,rl.df⟩
 |false=>exact h2 J a w ⟨rl.h,rl.sz,fun k v hk=>by
   rw[tL] at hk;split at hk
   .subst_vars;cases hk;exact rl.fr _ _ hl
   .exact rl.fr _ _ hk,rl.df⟩
def zi(d:Nat){p:Prop}{inst:Decidable p}(hl:io fr d=some (.bool (@decide p inst)))(h1:p->St C n ((d, .bool true)::fr) own G Φ)(h2: ¬p->St C n ((d, .bool false)::fr) own G Φ):St C n fr own G Φ:=
 aCQ d hl (fun h=>h1 (of_decide_eq_true h)) (fun h=>h2 (of_decide_eq_false h))
def uw(fr' fr:Fr):Prop:= ∀k v,io fr' k=some v->io fr k=some v
def uw.nil:uw [] fr:=fun _ _ h=>by cases h
def uw.cons{fr':Fr}{k:Nat}{v:Value}(h:io fr k=some v)(t:uw fr' fr):uw ((k,v)::fr') fr:=fun j u hj=>by
 rw[tL] at hj;split at hj
 .subst_vars;cases hj;exact h
 .exact t _ _ hj
def Sp(fr':Fr)(hle:uw fr' fr)(h:St C n fr' own G Φ):St C n fr own G Φ:=
 fun a w rl=>h a w ⟨rl.h,rl.sz,fun k v hk=>rl.fr _ _ (hle _ _ hk),rl.df⟩
end
class iw (own:List av) (b:Nat) (cs:outParam (List Value)) (ty:outParam TypeId) (lo:outParam Bool):Prop where
 mem:⟨b,cs,ty,lo⟩∈own
instance iw.i1 (b:Nat) (cs:List Value) (ty:TypeId) (lo:Bool) (t:List av):iw (⟨b,cs,ty,lo⟩::t) b cs ty lo:=⟨aQ⟩
instance iw.i2 (o:av) (t:List av) (b:Nat) (cs:List Value) (ty:TypeId) (lo:Bool) [h:iw t b cs ty lo]:iw (o::t) b cs ty lo:=⟨aJ _ h.mem⟩
inductive gP:List av->Nat->List Value->TypeId->Bool->List Value->List av->Prop
 |hd (b:Nat) (cs cs':List Value) (ty:TypeId) (lo:Bool) (t:List av):gP (⟨b,cs,ty,lo⟩::t) b cs ty lo cs' (⟨b,cs',ty,lo⟩::t)
 |tl (o:av) (t t':List av) (b:Nat) (cs cs':List Value) (ty:TypeId) (lo:Bool) (h:gP t b cs ty lo cs' t'):gP (o::t) b cs ty lo cs' (o::t')
inductive jo:List av->av->List av->Prop
 |hd (o:av) (t:List av):jo (o::t) o t
 |tl (x:av) (t t':List av) (o:av) (h:jo t o t'):jo (x::t) o (x::t')
class GE (A:outParam Gh) (B:Gh):Prop where le:bH A B
class GL (A B:Gh):Prop where le:bH A B
instance GL.refl (A:Gh):GL A A:=⟨bH.refl A⟩
instance GL.step (A B C:Gh) [h:GE B C] [k:GL A B]:GL A C:=⟨k.le.trans h.le⟩
class s8 (G:outParam Gh) (b:Nat) (cs:outParam (List Value)):Prop where h:G b=some cs
def co:List Value->Nat->Nat->Option (List Value)
 |_,0,0=>some []
 |[],0,_+1=>none
 |v::t,0,k+1=>match co t 0 k with|some l=>some (v::l)|none=>none
 |[],_+1,_=>none
 |_::t,off+1,k=>co t off k
def cp:List Value->Nat->List Value->List Value
 |cs,_,[]=>cs
 |cs,off,v::vs=>cp (cs.set off v) (off+1) vs
def pn: ∀(cs:List Value) (off k:Nat) (l:List Value),co cs off k=some l->l.length=k/\ ∀i,i<k->cs[off+i]? =l[i]?
 |cs,0,0,l,h=>by
  cases cs<;>(simp only[co] at h;cases h;exact⟨J,fun i hi=>absurd hi (sY _)⟩)
 |[],0,_+1,l,h=>by simp[co] at h
 |v::t,0,k+1,l,h=>by
  simp only[co] at h;split at h
  .rename_i l' hl'
   cases h
   obtain⟨h1,h2⟩:=pn t 0 k l' hl';refine⟨by simp[h1],fun i hi=>?_⟩
   cases i with
   |zero=>rfl
   |succ i=>
    have:=h2 i (by omega);simpa using this
  .cases h
 |[],_+1,_,l,h=>by simp[co] at h
 |_::t,off+1,k,l,h=>by
  simp only[co] at h;obtain⟨h1,h2⟩:=pn t off k l h;refine⟨h1,fun i hi=>?_⟩;have:=h2 i hi;rw[<-this,show off+1+i=(off+i)+1 by omega];rfl
class kl (P:Program) (t:TypeId) (k:outParam Nat):Prop where
 agg: ∀w,(isAgg t).run P w= .ok true w
 siz: ∀w,(sizeOf t).run P w= .ok k w
class jB (P:Program) (t:TypeId):Prop where
 agg: ∀w,(isAgg t).run P w= .ok false w
 siz: ∀w,(sizeOf t).run P w= .ok 1 w
class gc (P:Program) (t:TypeId) (z:outParam Value):Prop where
 inf:(P.info? t).map (·.zero)=some (some z)
class kP (P:Program) (t:TypeId) (f:Nat) (off:outParam Nat):Prop where
 at_: ∀(b o:Nat) w,(Instr.fieldAt t (.pointer (some ⟨b,o,none⟩)) f).run P w= .ok (.pointer (some (Addr.add ⟨b,o,none⟩ off))) w
class cj (P:Program) (t:TypeId) (e s by_:outParam Nat):Prop where
 un:P.underlying t=some (.slice e)
 inf:(P.info? e).map (fun i=>(i.size,i.bytes))=some (s,by_)
def gc.info{P:Program}{t:TypeId}{z:Value}(h:gc P t z): ∃i,P.info? t=some i/\i.zero=some z:=by
 have:=h.inf
 cases hi:P.info? t with
 |none=>rw[hi] at this;cases this
 |some i=>rw[hi] at this;exact⟨i,J,by simpa using this⟩
def cj.info{P:Program}{t e s by_:Nat}(h:cj P t e s by_): ∃i,P.info? e=some i/\i.size=s/\i.bytes=by_:=by
 have:=h.inf
 cases hi:P.info? e with
 |none=>rw[hi] at this;cases this
 |some i=>rw[hi] at this;simp at this;exact⟨i,J,this.1,this.2⟩
def qA(b o n:Nat):Addr.add ⟨b,o,none⟩ n=⟨b,o+n,none⟩:=by
 unfold Addr.add;split
 .subst_vars;rfl
 .rfl
def Sem.run_bind(P:Program)(x:Sem α)(f:α->Sem β): ∀(w:World),(x>>=f).run P w=match x.run P w with| .ok a w'=>(f a).run P w'| .halt h w'=> .halt h w':=by
 show∀w,(Sem.bind x f).run P w=_
 induction x with
 |pure a=>intro w;rfl
 |load m a k ih=>
  intro w;simp only[Sem.bind,Sem.run];split
  .exact ih _ w
  .split
   .exact ih _ w
   .rfl
 |store m a v k ih=>
  intro w
  cases v<;>simp only[Sem.bind,Sem.run]<;>(try rfl)<;>(split<;>first|(split<;>first|rfl|exact ih _)|rfl)
 |new o k ih=>intro w;exact ih _ _
 |shape r k ih=>intro w;exact ih _ _
 |freeze a n k ih=>intro w;exact ih _
 |frozen a k ih=>intro w;exact ih _ _
 |getObj r k ih=>
  intro w;simp only[Sem.bind,Sem.run];split
  .rfl
  .exact ih _ w
  .rfl
 |setObj r o k ih=>
  intro w;simp only[Sem.bind,Sem.run];split
  .rfl
  .exact ih _
  .rfl
 |choose q k ih=>
  intro w;simp only[Sem.bind,Sem.run];split
  .exact ih _ _
  .exact ih _ _
 |sys c k ih=>intro w;exact ih _ _
 |program k ih=>intro w;exact ih _ _
 |mark m k ih=>intro w;exact ih _
 |halt h=>intro w;rfl
def run_pure(P:Program)(a:α)(w:World):(pure a:Sem α).run P w= .ok a w:=rfl
def aO{x:Sem α}{f:α->Sem β}{a:α}(h:x.run P w= .ok a w'):(x>>=f).run P w=(f a).run P w':=by
 rw[Sem.run_bind,h]
def gc.zero{z:Value}(h:gc P t z)(w:World):(zeroValue t).run P w= .ok z w:=by
 obtain⟨i,h1,h2⟩:=h.info;simp[zeroValue,typeInfo,program,Sem.run_bind,Sem.run,h1,h2,run_pure]
def cj.u{t:Nat}(h:cj P t e s by_)(w:World):(underlying t).run P w= .ok (.slice e) w:=by
 simp[underlying,program,Sem.run_bind,Sem.run,h.un,run_pure]
def cj.siz{t:Nat}(h:cj P t e s by_)(w:World):(sizeOf e).run P w= .ok s w:=by
 obtain⟨i,h1,h2,_⟩:=h.info;simp[sizeOf,typeInfo,program,Sem.run_bind,Sem.run,h1,h2,run_pure]
section
variable {fr:Fr}{own:List av}
def EA{b:Nat}{cs:List Value}{ty:TypeId}{fz:Nat×Nat}(h:w.heap[b]? =some (.cells ⟨cs⟩ ty fz))(i:Nat):w.cell? ⟨b,i,none⟩=cs[i]? :=by
 simp[World.cell?,h]
def MY{a:Addr}(h:w.cell? a=some v):(load a).run P w= .ok v w:=by
 simp[load,Sem.run,h]
def GQ{w:World}{b off:Nat}{l:List Value}: ∀(m i:Nat) (acc:Array Value),(∀j,j<m->w.cell? ⟨b,off+(i+j),none⟩=l[i+j]?)->i+m<=l.length->
  (loadCellsFrom ⟨b,off,none⟩ i m acc).run P w= .ok (acc++((l.drop i).take m).toArray) w
 |0,i,acc,_,_=>by simp[loadCellsFrom,run_pure]
 |m+1,i,acc,h,hl=>by
  have h0:=h 0 (by omega);rw[gX,aZ (by omega)] at h0;unfold loadCellsFrom;rw[aO (a:=l[i]) (w':=w) (by rw[qA];exact MY h0)];rw[GQ m (i+1) (acc.push l[i]) (fun j hj=>by have:=h (j+1) (by omega);rw[show i+1+j=i+(j+1) by omega];exact this) (by omega)];congr 1;rw[bK (by omega:i<l.length),oZ];apply Array.ext';simp
def I7{b k:Nat}{cs:List Value}[ht:kl P t k]{ty:TypeId}{fz:Nat×Nat}(h:w.heap[b]? =some (.cells ⟨cs⟩ ty fz))(hl:co cs off k=some l):
  (loadVar t ⟨b,off,none⟩).run P w= .ok (.agg ⟨l⟩) w:=by
 obtain⟨h1,h2⟩:=pn _ _ _ _ hl;unfold loadVar;rw[aO (ht.agg w)];simp only[if_true];rw[aO (ht.siz w)];unfold loadCells;rw[aO (GQ (l:=l) k 0 #[] (fun j hj=>by rw[EA h];simpa using h2 j hj) (by omega))];simp[run_pure,<-h1]
def Hr{b:Nat}{cs:List Value}[ht:jB P t]{ty:TypeId}{fz:Nat×Nat}(h:w.heap[b]? =some (.cells ⟨cs⟩ ty fz))(hl:cs[off]? =some v):
  (loadVar t ⟨b,off,none⟩).run P w= .ok v w:=by
 unfold loadVar;rw[aO (ht.agg w)];simp only[kJ,if_false];exact MY (by rw[EA h];exact hl)
def cD{f:α->Next}{s:Sem α}{a:α}(h:s.run P w= .ok a w'):(do pure (f (<-s)):Sem Next).run P w= .ok (f a) w':=by
 rw[aO h];rfl
def Da{gd:Option (Nat×Bool)}{b k:Nat}{cs:List Value}{lo:Bool}{ty:TypeId}
  (hx:aB fr x=some (.pointer (some ⟨b,off,none⟩)))[ho:iw own b cs ty lo][kl P t k](hl:co cs off k=some l):
  Yd P C fr own G ⟨dst, .load t x,ty',pos,af,gd⟩ (.agg ⟨l⟩):=by
 intro a w hf hh;simp only[execOp,bw hf hx,Instr.loadAt,Instr.sureAddr];exact cD (I7 (hh.hown _ ho.mem).1 hl)
def nn{gd:Option (Nat×Bool)}{b:Nat}{cs:List Value}{lo:Bool}{ty:TypeId}
  (hx:aB fr x=some (.pointer (some ⟨b,off,none⟩)))[ho:iw own b cs ty lo][jB P t](hl:cs[off]? =some v):
  Yd P C fr own G ⟨dst, .load t x,ty',pos,af,gd⟩ v:=by
 intro a w hf hh;simp only[execOp,bw hf hx,Instr.loadAt,Instr.sureAddr];exact cD (Hr (hh.hown _ ho.mem).1 hl)
def EP{gd:Option (Nat×Bool)}{b k:Nat}{cs:List Value}
  (hx:aB fr x=some (.pointer (some ⟨b,off,none⟩)))(hg:G b=some cs)[kl P t k](hl:co cs off k=some l):
  Yd P C fr own G ⟨dst, .load t x,ty',pos,af,gd⟩ (.agg ⟨l⟩):=by
 intro a w hf hh;obtain⟨ty,fz,hb⟩:=hh.sub _ _ hg;simp only[execOp,bw hf hx,Instr.loadAt,Instr.sureAddr];exact cD (I7 hb hl)
def qv{gd:Option (Nat×Bool)}{b:Nat}{cs:List Value}
  (hx:aB fr x=some (.pointer (some ⟨b,off,none⟩)))(hg:G b=some cs)[jB P t](hl:cs[off]? =some v):
  Yd P C fr own G ⟨dst, .load t x,ty',pos,af,gd⟩ v:=by
 intro a w hf hh;obtain⟨ty,fz,hb⟩:=hh.sub _ _ hg;simp only[execOp,bw hf hx,Instr.loadAt,Instr.sureAddr];exact cD (Hr hb hl)
variable {gd:Option (Nat×Bool)}{y:Operand}
def lf(hx:aB fr x=some v):Yd P C fr own G ⟨dst, .move x,ty',pos,af,gd⟩ v:=by
 intro a w hf hh;simp only[execOp,bw hf hx];rfl
def Hy(hx:aB fr x=some v):Yd P C fr own G ⟨dst, .assign x,ty',pos,af,gd⟩ v:=by
 intro a w hf hh;simp only[execOp,bw hf hx];rfl
def De(hc:aB fr z=some (.bool true))(hx:aB fr x=some v):Yd P C fr own G ⟨dst, .pick z x y,ty',pos,af,gd⟩ v:=by
 intro a w hf hh;simp only[execOp,bw hf hc,bw hf hx,asBool];rfl
def qr(hc:aB fr z=some (.bool false))(hx:aB fr y=some v):Yd P C fr own G ⟨dst, .pick z x y,ty',pos,af,gd⟩ v:=by
 intro a w hf hh;simp only[execOp,bw hf hc,bw hf hx,asBool];rfl
def mI{ad:Addr}(hx:aB fr x=some (.pointer (some ad))):Yd P C fr own G ⟨dst, .nilCheck x,ty',pos,af,gd⟩ (.pointer (some ad)):=by
 intro a w hf hh;simp only[execOp,bw hf hx];rfl
def ri{b o:Nat}[hF:kP P t f off](hx:aB fr x=some (.pointer (some ⟨b,o,none⟩))):
  Yd P C fr own G ⟨dst, .fieldAddr t x f,ty',pos,af,gd⟩ (.pointer (some ⟨b,o+off,none⟩)):=by
 intro a w hf hh;simp only[execOp,bw hf hx];have:=hF.at_ b o w;rw[qA] at this;exact cD this
def vD{vs:Array Value}(hx:aB fr x=some (.tuple vs))(hv:vs[i]? =some v):Yd P C fr own G ⟨dst, .extract x i,ty',pos,af,gd⟩ v:=by
 intro a w hf hh;simp only[execOp,bw hf hx,Instr.extract,hv];rfl
def F'{fn:Fn}{c1 c2:Array Operand}(h1:c1.toList.mapM (aB fr)=some l1)(h2:c2.toList.mapM (aB fr)=some l2):
  Yd P C fr own G ⟨dst, .makeFunc fn c1 c2,ty',pos,af,gd⟩ (.func fn ⟨l1⟩ ⟨l2⟩):=by
 intro a w hf hh;have key: ∀(l:List Operand) (m:List Value),l.mapM (aB fr)=some m->l.map a.eval=m:=by
  intro l
  induction l with
  |nil=>intro m h;simp at h;subst h;rfl
  |cons o t ih=>
   intro m h;rw[rX] at h
   cases ho:aB fr o with
   |none=>simp[ho] at h
   |some u=>
    cases ht:t.mapM (aB fr) with
    |none=>simp[ho,ht] at h
    |some m'=>
     simp[ho,ht] at h;subst h;simp[bw hf ho,ih _ ht]
 have e1:c1.map a.eval=⟨l1⟩:=by apply Array.ext';simpa using key _ _ h1
 have e2:c2.map a.eval=⟨l2⟩:=by apply Array.ext';simpa using key _ _ h2
 simp only[execOp,e1,e2];rfl
def lc{op:BinOp}(hx:aB fr x=some (.int k p))(hy:aB fr y=some (.int k q))(hs: ∀w,(binOp op t (.int k p) (.int k q)).run P w= .ok v w):
  Yd P C fr own G ⟨dst, .binOp op t x y t',ty',pos,af,gd⟩ v:=by
 intro a w hf hh;simp only[execOp,bw hf hx,bw hf hy];have:(eqGuard op t x y (.int k p) (.int k q)).run P w= .ok () w:=by cases op<;>rfl
 exact cD (by rw[aO this];exact hs w)
def UD(k:IntKind)(p q:Int)(w:World):(binOp .add t (.int k p) (.int k q)).run P w= .ok (.int k (k.wrap (p+q))) w:=by simp[binOp,Op.intArith,run_pure]
def J3(k:IntKind)(p q:Int)(w:World):(binOp .sub t (.int k p) (.int k q)).run P w= .ok (.int k (k.wrap (p-q))) w:=by simp[binOp,Op.intArith,run_pure]
def To(k:IntKind)(p q:Int)(w:World):(binOp .mul t (.int k p) (.int k q)).run P w= .ok (.int k (k.wrap (p*q))) w:=by simp[binOp,Op.intArith,run_pure]
def XE(k:IntKind)(p q:Int)(w:World)(h:q≠0):(binOp .quo t (.int k p) (.int k q)).run P w= .ok (.int k (k.wrap (p.tdiv q))) w:=by simp[binOp,Op.intDiv,run_pure,h]
def Xy(k:IntKind)(p q:Int)(w:World)(h:q≠0):(binOp .rem t (.int k p) (.int k q)).run P w= .ok (.int k (p.tmod q)) w:=by simp[binOp,Op.intDiv,run_pure,h]
def YV(k:IntKind)(p q:Int)(w:World):(binOp .lss t (.int k p) (.int k q)).run P w= .ok (.bool (decide (p<q))) w:=by simp[binOp,Op.intCmp,run_pure]
def V7(k:IntKind)(p q:Int)(w:World):(binOp .leq t (.int k p) (.int k q)).run P w= .ok (.bool (decide (p<=q))) w:=by simp[binOp,Op.intCmp,run_pure]
def atj(k:IntKind)(p q:Int)(w:World):(binOp .gtr t (.int k p) (.int k q)).run P w= .ok (.bool (decide (q<p))) w:=by simp[binOp,Op.intCmp,run_pure]
def X6(k:IntKind)(p q:Int)(w:World):(binOp .geq t (.int k p) (.int k q)).run P w= .ok (.bool (decide (q<=p))) w:=by simp[binOp,Op.intCmp,run_pure]
def X0(k:IntKind)(p q:Int)(w:World):(binOp .eql t (.int k p) (.int k q)).run P w= .ok (.bool (decide (p=q))) w:=by
 have:(p==q)=decide (p=q):=by rw[qY];simp
 simp[binOp,Op.intCmp,run_pure,this]
def auc(k:IntKind)(p q:Int)(w:World):(binOp .neq t (.int k p) (.int k q)).run P w= .ok (.bool (decide (p≠q))) w:=by
 have:(p !=q)=decide (p≠q):=by rw[qY];simp
 simp[binOp,Op.intCmp,run_pure,this]
def rp(h:k.min<=p/\p<=k.max):k.wrap p=p:=by
 cases k<;>simp only[IntKind.min,IntKind.max,IntKind.wrap,IntKind.bits,IntKind.signed] at* <;>simp at h⊢ <;>(try split)<;>omega
def MV(hx:aB fr x=some (.int k p))(hy:aB fr y=some (.int k q))(h:k.min<=p+q/\p+q<=k.max):Yd P C fr own G ⟨dst, .binOp .add t x y t',ty',pos,af,gd⟩ (.int k (p+q)):=
 lc hx hy fun w=>by rw[UD,rp h]
def Ov(hx:aB fr x=some (.int k p))(hy:aB fr y=some (.int k q))(h:k.min<=p-q/\p-q<=k.max):Yd P C fr own G ⟨dst, .binOp .sub t x y t',ty',pos,af,gd⟩ (.int k (p-q)):=
 lc hx hy fun w=>by rw[J3,rp h]
def aEU(hx:aB fr x=some (.int k p))(hy:aB fr y=some (.int k q))(h:k.min<=p*q/\p*q<=k.max):Yd P C fr own G ⟨dst, .binOp .mul t x y t',ty',pos,af,gd⟩ (.int k (p*q)):=
 lc hx hy fun w=>by rw[To,rp h]
def Se(hx:aB fr x=some (.int k p))(hy:aB fr y=some (.int k q)):Yd P C fr own G ⟨dst, .binOp .sub t x y t',ty',pos,af,gd⟩ (.int k (k.wrap (p-q))):=lc hx hy fun w=>J3 k p q w
def J1(hx:aB fr x=some (.int k p))(hy:aB fr y=some (.int k q))(h:q≠0):Yd P C fr own G ⟨dst, .binOp .quo t x y t',ty',pos,af,gd⟩ (.int k (k.wrap (p.tdiv q))):=lc hx hy fun w=>XE k p q w h
def Qu(hx:aB fr x=some (.int k p))(hy:aB fr y=some (.int k q))(h:q≠0):Yd P C fr own G ⟨dst, .binOp .rem t x y t',ty',pos,af,gd⟩ (.int k (p.tmod q)):=lc hx hy fun w=>Xy k p q w h
def E7(hx:aB fr x=some (.int k p))(hy:aB fr y=some (.int k q)):Yd P C fr own G ⟨dst, .binOp .lss t x y t',ty',pos,af,gd⟩ (.bool (decide (p<q))):=lc hx hy fun w=>YV k p q w
def Sy(hx:aB fr x=some (.int k p))(hy:aB fr y=some (.int k q)):Yd P C fr own G ⟨dst, .binOp .leq t x y t',ty',pos,af,gd⟩ (.bool (decide (p<=q))):=lc hx hy fun w=>V7 k p q w
def Bs(hx:aB fr x=some (.int k p))(hy:aB fr y=some (.int k q)):Yd P C fr own G ⟨dst, .binOp .gtr t x y t',ty',pos,af,gd⟩ (.bool (decide (q<p))):=lc hx hy fun w=>atj k p q w
def Ht(hx:aB fr x=some (.int k p))(hy:aB fr y=some (.int k q)):Yd P C fr own G ⟨dst, .binOp .geq t x y t',ty',pos,af,gd⟩ (.bool (decide (q<=p))):=lc hx hy fun w=>X6 k p q w
def ly(hx:aB fr x=some (.int k p))(hy:aB fr y=some (.int k q)):Yd P C fr own G ⟨dst, .binOp .eql t x y t',ty',pos,af,gd⟩ (.bool (decide (p=q))):=lc hx hy fun w=>X0 k p q w
def MC(hx:aB fr x=some (.int k p))(hy:aB fr y=some (.int k q)):Yd P C fr own G ⟨dst, .binOp .neq t x y t',ty',pos,af,gd⟩ (.bool (decide (p≠q))):=lc hx hy fun w=>auc k p q w
def tE[hT:cj P t e s by_](hx:aB fr x=some (.slice ad len cap)):
  Yd P C fr own G ⟨dst, .call ⟨.builtin .len, #[x], #[t]⟩,ty',pos,af,gd⟩ (.int .i64 len):=by
 intro a w hf hh;simp only[execOp,resolve,iY,bY,gN,bw hf hx];have h1:(Builtin.len_ #[t] ty' #[.slice ad len cap]).run P w= .ok (.int .i64 len) w:=by
  simp only[Builtin.len_];show(underlying t>>=_).run P w=_;rw[aO (hT.u w)];rfl
 exact cD h1
def vG[hT:cj P t e s by_]{b:Nat}{i:Int}(hx:aB fr x=some (.slice (some ⟨b,off,none⟩) len cap))(hy:aB fr y=some (.int k i))(h0:0<=i:=by omega)(h1:i<len:=by omega):
  Yd P C fr own G ⟨dst, .indexAddr t x y,ty',pos,af,gd⟩ (.pointer (some ⟨b,off+i.toNat*s,none⟩)):=by
 intro a w hf hh;simp only[execOp,bw hf hx,bw hf hy];have:(Instr.indexAt t (.slice (some ⟨b,off,none⟩) len cap) (.int k i)).run P w= .ok (.pointer (some ⟨b,off+i.toNat*s,none⟩)) w:=by
  unfold Instr.indexAt;show(underlying t>>=_).run P w=_;rw[aO (hT.u w)];show(underlying t>>=_).run P w=_;rw[aO (hT.u w)];simp only[h0,h1,and_self,if_true];show(sizeOf e>>=_).run P w=_;rw[aO (hT.siz w),qA];rfl
 exact cD this
def yv{v:Int}{c:BoundsCode}(w:World)(h0:0<=v)(h1:v<=m):(Instr.sliceBound (.int k v) m c).run P w= .ok v.toNat w:=by
 unfold Instr.sliceBound;simp[asIntOf,h0,h1,run_pure]
def mC(ad:Option Addr)(len cap lo hi mx s:Nat):Value:= .slice (if mx=lo then ad else ad.map (·.add (lo*s))) (hi-lo) (mx-lo)
def AX[hT:cj P t e s by_](w:World){lo hi mx:Option Value}{l h:Nat}(hb: ∀w,(Instr.sliceBounds true len cap lo hi mx).run P w= .ok (l,h,m) w):
  (Instr.sliceAt t (.slice ad len cap) lo hi mx).run P w= .ok (mC ad len cap l h m s) w:=by
 unfold Instr.sliceAt;rw[aO (hT.u w)];show(Instr.slice t (.slice ad len cap) lo hi mx).run P w=_;unfold Instr.slice;rw[aO (hT.u w)];show(Instr.sliceBounds true len cap lo hi mx>>=_).run P w=_;rw[aO (hb w)];show(sizeOf e>>=_).run P w=_;rw[aO (hT.siz w)];rfl
def EN[hT:cj P t e s by_]{h:Int}(hx:aB fr x=some (.slice ad len cap))(hy:aB fr y=some (.int k h))(h0:0<=h:=by omega)(h1:h<=cap:=by omega):
  Yd P C fr own G ⟨dst, .slice t x none (some y) none,ty',pos,af,gd⟩ (.slice ad h.toNat cap):=by
 intro a w hf hh;simp only[execOp,bw hf hx,bw hf hy,qU,lQ];have:=AX (P:=P) (t:=t) (ad:=ad) (len:=len) (cap:=cap) w (lo:=none) (hi:=some (.int k h)) (mx:=none) (l:=0) (h:=h.toNat) (m:=cap) (fun w=>by
  simp[Instr.sliceBounds,yv w h0 h1,Result.andThen])
 have e2:mC ad len cap 0 h.toNat cap s= .slice ad h.toNat cap:=by
  unfold mC
  cases ad with
  |none=>simp
  |some ad=>simp[Addr.add]
 rw[<-e2];exact cD this
def Fv[hT:cj P t e s by_]{l:Int}(hx:aB fr x=some (.slice ad len cap))(hy:aB fr y=some (.int k l))(h0:0<=l:=by omega)(h1:l<=len:=by omega):
  Yd P C fr own G ⟨dst, .slice t x (some y) none none,ty',pos,af,gd⟩ (mC ad len cap l.toNat len cap s):=by
 intro a w hf hh;simp only[execOp,bw hf hx,bw hf hy,qU,lQ];exact cD (AX (P:=P) (t:=t) (ad:=ad) (len:=len) (cap:=cap) w (lo:=some (.int k l)) (hi:=none) (mx:=none) (fun w=>by
  simp[Instr.sliceBounds,yv w h0 h1,Result.andThen]))
def YK[hT:cj P t e s by_]{l h:Int}(hx:aB fr x=some (.slice ad len cap))(hy:aB fr y=some (.int k l))(hz:aB fr z=some (.int k' h))(h0:0<=l)(h1:l<=h)(h2:h<=cap):
  Yd P C fr own G ⟨dst, .slice t x (some y) (some z) none,ty',pos,af,gd⟩ (mC ad len cap l.toNat h.toNat cap s):=by
 intro a w hf hh;simp only[execOp,bw hf hx,bw hf hy,bw hf hz,qU,lQ];exact cD (AX (P:=P) (t:=t) (ad:=ad) (len:=len) (cap:=cap) w (lo:=some (.int k l)) (hi:=some (.int k' h)) (mx:=none) (fun w=>by
  have h1':l<=(h.toNat:Int):=by omega
  simp[Instr.sliceBounds,yv w (Int.le_trans h0 h1) h2,yv w h0 h1',Result.andThen]))
def asa[hT:cj P t e s by_]{h m:Int}(hx:aB fr x=some (.slice ad len cap))(hy:aB fr y=some (.int k h))(hz:aB fr z=some (.int k' m))(h0:0<=h)(h1:h<=m)(h2:m<=cap):
  Yd P C fr own G ⟨dst, .slice t x none (some y) (some z),ty',pos,af,gd⟩ (.slice ad h.toNat m.toNat):=by
 intro a w hf hh;simp only[execOp,bw hf hx,bw hf hy,bw hf hz,qU,lQ];have:=AX (P:=P) (t:=t) (ad:=ad) (len:=len) (cap:=cap) w (lo:=none) (hi:=some (.int k h)) (mx:=some (.int k' m)) (l:=0) (h:=h.toNat) (m:=m.toNat) (fun w=>by
  have h1':h<=(m.toNat:Int):=by omega
  simp[Instr.sliceBounds,yv w (Int.le_trans h0 h1) h2,yv w h0 h1',Result.andThen])
 have e2:mC ad len cap 0 h.toNat m.toNat s= .slice ad h.toNat m.toNat:=by
  unfold mC
  cases ad with
  |none=>simp
  |some ad=>simp[Addr.add]
 rw[<-e2];exact cD this
class uT (P:Program) (t:TypeId) (k:outParam IntKind):Prop where u: ∀w,(underlying t).run P w= .ok (.int k) w
def Ej[hs:uT P t k][hd:uT P t' k'](hx:aB fr x=some (.int k p)):Yd P C fr own G ⟨dst, .convert t t' x,ty',pos,af,gd⟩ (.int k' (k'.wrap p)):=by
 intro a w hf hh;simp only[execOp,bw hf hx];have:(convert t t' (.int k p)).run P w= .ok (.int k' (k'.wrap p)) w:=by
  unfold convert;rw[aO (hs.u w),aO (hd.u w)];rfl
 exact cD this
def Tl[hs:uT P t k][hd:uT P t' k'](hx:aB fr x=some (.int k p))(h:k'.min<=p/\p<=k'.max):Yd P C fr own G ⟨dst, .convert t t' x,ty',pos,af,gd⟩ (.int k' p):=by
 have:=Ej (P:=P) (C:=C) (own:=own) (G:=G) (dst:=dst) (ty':=ty') (pos:=pos) (af:=af) (gd:=gd) (t:=t) (t':=t') hx;rwa [rp h] at this
def r4{b:Bool}(hx:aB fr x=some (.bool b)):Yd P C fr own G ⟨dst, .unOp .not t x,ty',pos,af,gd⟩ (.bool (!b)):=by
 intro a w hf hh;simp only[execOp,bw hf hx,Op.unary];rfl
def GR(hx:aB fr x=some (.int k p)):Yd P C fr own G ⟨dst, .unOp .neg t x,ty',pos,af,gd⟩ (.int k (k.wrap (0-p))):=by
 intro a w hf hh;simp only[execOp,bw hf hx,Op.unary,Op.intArith];rfl
end
def il{b:Nat}{o:Obj}(h:w.heap[b]? =some o):b<w.heap.size:=by
 rcases jZ b w.heap.size with h'|h'
 .exact h'
 .simp[oT h'] at h
def bE.gnone{own:List av}(h:bE C own G w){b:Nat}(hb:w.heap.size<=b):G b=none:=by
 cases hG:G b with
 |none=>rfl
 |some cs=>
  obtain⟨ty,fz,hc⟩:=h.sub b cs hG;have:=il hc;omega
def bE.alloc{C:aE}{own:List av}{G:Gh}{w:World}(h:bE C own G w)(cs:List Value)(ty:TypeId):
  bE C (⟨w.heap.size,cs,ty,true⟩::own) G (w.alloc (.cells ⟨cs⟩ ty)):=by
 have old: ∀b,b<w.heap.size->(w.alloc (.cells ⟨cs⟩ ty)).heap[b]? =w.heap[b]? :=fun b hb=>RowKit.Below.heap_alloc _ _ _ hb;refine⟨h.os,h.tape,h.output,?_,?_,?_,h.gle,h.gold,?_,?_,h.dr,fun p hp=>⟨(h.ext p hp).1,by rw[old _ (il (h.ext p hp).2)];exact(h.ext p hp).2⟩⟩
 .have:=h.size;simp;omega
 .intro b hb hm;rw[old b (by have:=h.size;omega)];exact h.keep b hb hm
 .intro b cs' hb
  obtain⟨ty',fz,hc⟩:=h.sub b cs' hb;exact⟨ty',fz,by rw[old b (il hc)];exact hc⟩
 .intro o ho
  rcases aK.1 ho with rfl|ho
  .refine⟨by show(w.heap.push _)[w.heap.size]? =_;simp,h.gnone (bW _),fun _=>h.size,fun e=>by cases e⟩
  .obtain⟨h1,h2⟩:=h.hown o ho
   exact⟨by rw[old _ (il h1)];exact h1,h2⟩
 .refine List.Pairwise.cons ?_ h.nd
  intro o ho;have:=il (h.hown o ho).1;show w.heap.size≠o.b;omega
def gq(w:World)(b:Nat)(o:Obj):World:={w with heap:=w.heap.setIfInBounds b o}
def EM{l:List av}:l.Pairwise (fun x y=>x.b≠y.b)↔(l.map (·.b)).Pairwise (· ≠ ·):=by rw[List.pairwise_map]
def gP.spec{own:List av}{b:Nat}{cs:List Value}{ty:TypeId}{lo:Bool}(h:gP own b cs ty lo cs' own')(nd:own.Pairwise (fun x y=>x.b≠y.b)):
  ⟨b,cs,ty,lo⟩∈own/\(∀o,o∈own'->o=⟨b,cs',ty,lo⟩\/(o∈own/\o.b≠b))/\own'.map (·.b)=own.map (·.b):=by
 induction h with
 |hd b cs cs' ty lo t=>
  refine⟨aQ,fun o ho=>?_,J⟩;rcases aK.1 ho with rfl|h
  .exact .inl J
  .exact .inr ⟨aJ _ h,Ne.symm ((bS.1 nd).1 _ h)⟩
 |tl o t t' b cs cs' ty lo h ih=>
  obtain⟨h1,h2,h3⟩:=ih (bS.1 nd).2;refine⟨aJ _ h1,fun x hx=>?_,by simp[h3]⟩;rcases aK.1 hx with rfl|hx
  .exact .inr ⟨aQ,(bS.1 nd).1 _ h1⟩
  .exact(h2 x hx).imp id (fun k=>⟨aJ _ k.1,k.2⟩)
def D9{b k:Nat}{o:Obj}(hk:k≠b):(gq w b o).heap[k]? =w.heap[k]? :=by
 simp only[gq];rw[dR];simp[Ne.symm hk]
def L9{b:Nat}{o:Obj}(hb:b<w.heap.size):(gq w b o).heap[b]? =some o:=by
 simp only[gq];rw[dR];simp[hb]
def bE.extNe{own:List av}(h:bE C own G w){p:Nat×Obj}(hp:p∈C.ex){b:Nat}{cs:Array Value}{ty:TypeId}{z:Nat×Nat}(hb:w.heap[b]? =some (.cells cs ty z)):p.1≠b:=fun e=>by
 obtain⟨h1,h2⟩:=h.ext p hp;rw[e,hb] at h2;exact h1 _ _ _ (Option.some.inj h2).symm
def bE.extM(h:bE C (M++rest) G w){p:Nat×Obj}(hp:p∈C.ex):p.1∉M.map (·.b):=fun hm=>by
 obtain⟨m,hm,e⟩:=aR.1 hm;exact h.extNe hp (h.hown m (bV _ hm)).1 e.symm
def bE.store{own:List av}{b:Nat}{cs:List Value}{ty:TypeId}{lo:Bool}(h:bE C own G w)(hu:gP own b cs ty lo cs' own'):
  bE C own' G (gq w b (.cells ⟨cs'⟩ ty (0,0))):=by
 obtain⟨h1,h2,h3⟩:=hu.spec h.nd;obtain⟨hb,hGb,hlo1,hlo2⟩:=h.hown _ h1;have hlt:=il hb;refine⟨h.os,h.tape,h.output,by simpa[gq] using h.size,?_,?_,h.gle,h.gold,?_,EM.2 (h3▸EM.1 h.nd),h.dr,fun p hp=>⟨(h.ext p hp).1,by rw[D9 (h.extNe hp hb)];exact(h.ext p hp).2⟩⟩
 .intro k hk hm
  by_cases hkb:k=b
  .subst hkb
   cases hlo:lo with
   |true=>have h5:=hlo1 hlo;simp only[] at h5;omega
   |false=>exact absurd (hlo2 hlo) hm
  .rw[D9 hkb];exact h.keep k hk hm
 .intro k cs1 hk
  obtain⟨ty',fz,hc⟩:=h.sub k cs1 hk;have:k≠b:=fun e=>by subst e;rw[show G k=none from hGb] at hk;cases hk
  exact⟨ty',fz,by rw[D9 this];exact hc⟩
 .intro o ho
  rcases h2 o ho with rfl|⟨ho',hne⟩
  .exact⟨L9 hlt,hGb,hlo1,hlo2⟩
  .obtain⟨k1,k2⟩:=h.hown o ho'
   exact⟨by rw[D9 hne];exact k1,k2⟩
def jo.spec{own:List av}{o:av}(h:jo own o own')(nd:own.Pairwise (fun x y=>x.b≠y.b)):
  o∈own/\(∀x,x∈own'->x∈own/\x.b≠o.b)/\own'.Pairwise (fun x y=>x.b≠y.b):=by
 induction h with
 |hd o t=>exact⟨aQ,fun x hx=>⟨aJ _ hx,Ne.symm ((bS.1 nd).1 _ hx)⟩,(bS.1 nd).2⟩
 |tl y t t' o h ih=>
  obtain⟨h1,h2,h3⟩:=ih (bS.1 nd).2;refine⟨aJ _ h1,fun x hx=>?_,List.Pairwise.cons (fun x hx=>(bS.1 nd).1 _ (h2 x hx).1) h3⟩;rcases aK.1 hx with rfl|hx
  .exact⟨aQ,(bS.1 nd).1 _ h1⟩
  .exact⟨aJ _ (h2 x hx).1,(h2 x hx).2⟩
def bE.freeze{own:List av}{b:Nat}{cs:List Value}{ty:TypeId}(h:bE C own G w)(hr:jo own ⟨b,cs,ty,true⟩ own'):
  bE C own' (fun k=>if k=b then some cs else G k) w/\bH G (fun k=>if k=b then some cs else G k):=by
 obtain⟨h1,h2,h3⟩:=hr.spec h.nd;obtain⟨hb,hGb,hlo,_⟩:=h.hown _ h1;have hle:bH G (fun k=>if k=b then some cs else G k):=fun k c hk=>by
  have:k≠b:=fun e=>by subst e;rw[show G k=none from hGb] at hk;cases hk
  simp[this,hk]
 refine⟨⟨h.os,h.tape,h.output,h.size,h.keep,?_,h.gle.trans hle,?_,?_,h3,h.dr,h.ext⟩,hle⟩
 .intro k c hk
  by_cases e:k=b
  .subst e;simp only[if_true] at hk;cases hk;exact⟨ty,(0,0),hb⟩
  .simp only[e,if_false] at hk;exact h.sub k c hk
 .intro k hk
  have h5:C.w0.heap.size<=b:=hlo J;have:k≠b:=by omega
  simp only[this,if_false];exact h.gold k hk
 .intro o ho
  obtain⟨k1,k2⟩:=h2 o ho;obtain⟨m1,m2,m3⟩:=h.hown o k1;exact⟨m1,by rw[if_neg k2];exact m2,m3⟩
def bE.drop{own:List av}(h:bE C own G w)(hs:own'.Sublist own):bE C own' G w:=
 ⟨h.os,h.tape,h.output,h.size,h.keep,h.sub,h.gle,h.gold,fun o ho=>h.hown o (hs.subset ho),h.nd.sublist hs,h.dr,h.ext⟩
def bE.perm{own:List av}(h:bE C own G w)(hs:own.Perm own'):bE C own' G w:=
 ⟨h.os,h.tape,h.output,h.size,h.keep,h.sub,h.gle,h.gold,fun o ho=>h.hown o (hs.mem_iff.2 ho),(hs.pairwise_iff (fun h=>Ne.symm h)).1 h.nd,h.dr,h.ext⟩
def bE.drew{own:List av}(h:bE C own G w):bE C own G {w with drawn:=w.drawn+1}:=
 ⟨h.os,h.tape,h.output,h.size,h.keep,h.sub,h.gle,h.gold,h.hown,h.nd,Nat.le_succ_of_le h.dr,h.ext⟩
def rE(P:Program)(f:FuncId):Prop:= ∃fn,P.funcs[f]? =some fn/\(fn.name== "runtime.NumGoroutine")=false/\fn.body.isNone=false
def kr(M:List av)(css:List (List Value)):List av:=(M.zip css).map fun p=>{p.1 with cs:=p.2}
def asB(M:List av):List av:=M.map fun o=>{o with lo:=false}
structure Fn (P:Program) (f:FuncId) (vs:List Value) (G:Gh) (K:Value->Gh->Prop):Prop where
 able:rE P f
 run: ∀w,(∀b cs,G b=some cs-> ∃ty fz,w.heap[b]? =some (.cells ⟨cs⟩ ty fz))->
  Calls P f ⟨vs⟩ w fun e w'=> ∃v G',e= .returned v/\bE ⟨w,G,[],[],[],none,fun _=>none⟩ [] G' w'/\K v G'
structure jI (P:Program) (f:FuncId) (vs:List Value) (M:List av) (G:Gh) (K:Value->List (List Value)->Gh->Prop):Prop where
 able:rE P f
 run: ∀w,bE ⟨w,G,M.map (·.b),[],[],none,fun _=>none⟩ (asB M) G w->
  Calls P f ⟨vs⟩ w fun e w'=> ∃v css G',e= .returned v/\css.length=M.length/\bE ⟨w,G,M.map (·.b),[],[],none,fun _=>none⟩ (kr (asB M) css) G' w'/\K v css G'
def Fn.mono{P:Program}{f:FuncId}{vs:List Value}{G:Gh}{K K':Value->Gh->Prop}(h:Fn P f vs G K)(hk: ∀v G',bH G G'->K v G'->K' v G'):Fn P f vs G K':=
 ⟨h.able,fun w hw=>(h.run w hw).mono fun _ _ ⟨v,G',he,hh,hK⟩=>⟨v,G',he,hh,hk v G' hh.gle hK⟩⟩
def bE.called{own:List av}(h:bE C own G w)(k:bE ⟨w,G,[],[],[],none,fun _=>none⟩ [] G' w'):bE C own G' w':=by
 have same: ∀b o,w.heap[b]? =some o->w'.heap[b]? =some o:=fun b o hb=>by rw[k.keep b (il hb) (by simp)];exact hb
 have hsz:w.heap.size<=w'.heap.size:=k.size;refine⟨k.os.trans h.os,k.tape.trans h.tape,k.output.trans h.output,cS h.size hsz,?_,k.sub,h.gle.trans k.gle,?_,?_,h.nd,cS h.dr k.dr,fun p hp=>⟨(h.ext p hp).1,same _ _ (h.ext p hp).2⟩⟩
 .intro b hb hm;have:=h.size;rw[k.keep b (by show b<w.heap.size;omega) (by simp)];exact h.keep b hb hm
 .intro b hb;have:=h.size;rw[k.gold b (by show b<w.heap.size;omega)];exact h.gold b hb
 .intro o ho
  obtain⟨h1,h2,h3⟩:=h.hown o ho;exact⟨same _ _ h1,by rw[k.gold _ (il h1)];exact h2,h3⟩
def WP(M:List av)(css:List (List Value))(h:css.length=M.length):(kr M css).map (·.b)=M.map (·.b):=by
 induction M generalizing css with
 |nil=>simp[kr]
 |cons o M ih=>
  cases css with
  |nil=>simp at h
  |cons c css=>simp only[bQ,Nat.add_right_cancel_iff] at h;simpa[kr] using ih css h
def WL{o:av}(ho:o∈kr M css): ∃c∈css,∃m∈M,o={m with cs:=c}/\{m with cs:=c,lo:=false}∈kr (asB M) css:=by
 induction M generalizing css with
 |nil=>simp[kr] at ho
 |cons x M ih=>
  cases css with
  |nil=>simp[kr] at ho
  |cons c css=>
   simp only[kr,List.zip_cons_cons,bY,aK] at ho;rcases ho with rfl|ho
   .exact⟨c,aQ,x,aQ,J,by simp[kr,asB]⟩
   .obtain⟨c',hc',m,hm,e,hh⟩:=ih ho
    refine⟨c',aJ _ hc',m,aJ _ hm,e,?_⟩;simp only[kr,asB,bY,List.zip_cons_cons,aK];exact .inr hh
def bE.lend(h:bE C (M++rest) G w):bE ⟨w,G,M.map (·.b),[],[],none,fun _=>none⟩ (asB M) G w:=by
 refine⟨J,J,J,bW _,fun _ _ _=>J,h.sub,bH.refl _,fun _ _=>J,?_,?_,bW _,fun p hp=>by cases hp⟩
 .intro o ho
  obtain⟨m,hm,rfl⟩:=aR.1 ho;obtain⟨h1,h2,_⟩:=h.hown m (bV _ hm);exact⟨h1,h2,by simp,fun _=>aR.2 ⟨m,hm,J⟩⟩
 .have:=(gW.1 h.nd).1
  unfold asB;rw[List.pairwise_map];exact this
def bE.calledM(h:bE C (M++rest) G w)(hl:css.length=M.length)(k:bE ⟨w,G,M.map (·.b),[],[],none,fun _=>none⟩ (kr (asB M) css) G' w'):
  bE C (kr M css++rest) G' w':=by
 have hsz:w.heap.size<=w'.heap.size:=k.size;have hnd:=h.nd;have inM: ∀b,b∈M.map (·.b)-> ∀o∈rest,o.b≠b:=fun b hb o ho e=>by
  obtain⟨m,hm,rfl⟩:=aR.1 hb;exact(gW.1 hnd).2.2 m hm o ho e.symm
 refine⟨k.os.trans h.os,k.tape.trans h.tape,k.output.trans h.output,cS h.size hsz,?_,k.sub,h.gle.trans k.gle,?_,?_,?_,cS h.dr k.dr,fun p hp=>⟨(h.ext p hp).1,by rw[k.keep _ (il (h.ext p hp).2) (h.extM hp)];exact(h.ext p hp).2⟩⟩
 .intro b hb hm
  have hs:=h.size;have hnM:b∉M.map (·.b):=fun hb'=>by
   obtain⟨m,hmM,rfl⟩:=aR.1 hb';obtain⟨_,_,h3,h4⟩:=h.hown m (bV _ hmM)
   cases hlo:m.lo with
   |true=>have:=h3 hlo;omega
   |false=>exact hm (h4 hlo)
  rw[k.keep b (by show b<w.heap.size;omega) hnM];exact h.keep b hb hm
 .intro b hb;have:=h.size;rw[k.gold b (by show b<w.heap.size;omega)];exact h.gold b hb
 .intro o ho
  rcases aM.1 ho with ho|ho
  .obtain⟨c,hc,m,hm,rfl,hmem⟩:=WL ho
   obtain⟨k1,k2,_⟩:=k.hown _ hmem;obtain⟨_,_,h3⟩:=h.hown m (bV _ hm);exact⟨k1,k2,h3⟩
  .obtain⟨h1,h2,h3⟩:=h.hown o (bZ _ ho)
   have hnM:o.b∉M.map (·.b):=fun hb=>inM _ hb o ho J;exact⟨by rw[k.keep _ (il h1) hnM];exact h1,by rw[k.gold _ (il h1)];exact h2,h3⟩
 .rw[EM,bX,WP _ _ hl,<-bX,<-EM];exact hnd
def QU{a b:α}{l:List α}:(a::l).set (n+1) b=a::l.set n b:=rfl
def yn{a:α}{l:List α}:(a::l).drop (n+1)=l.drop n:=rfl
abbrev ii:= @inferInstance.{0}
def nb{a b:Nat}(h:Nat.ble a b=true):a<=b:=rM h
def sR{fr:Fr}{own:List av}{id:Nat}(h:St C n fr own G (cP P ops (Exit.then (y.wp P Q) Q) ops.toList)):St C n fr own G ((Code.seq (Code.region id ops false) y).wp P Q):=eE (EF h)
end Go.Sx
end
section
namespace Go.Sx
open Go
variable {C:aE}{n b off k m i fuel:Nat}{own' M rest own0:List av}{G G0:Gh}{ops:Array Oper}{Q:Exit->Act->World->Prop}{t t' ty' ty:TypeId}{x y fo:Operand}{o:Oper}{Φ:Act->World->Prop}{w w':World}{v z:Value}{a:Act}{lo:Bool}{f:FuncId}{args:Array Operand}{tys:Array TypeId}{vs c1 c2:List Value}{K:Value->List (List Value)->Gh->Prop}{c:Code}{X:Type}{S:World->Prop}{fin:Nat->Bool}
def aF:Value->List Value
 | .agg ⟨l⟩=>l
 |v=>[v]
def oD(v:Value):v.cells=⟨aF v⟩:=by
 cases v<;>first|rfl|(rename_i a;cases a;rfl)
def flat:Value->Bool
 | .agg _=>false
 | .tuple _=>false
 |_=>true
def fg(fr:Fr):List Operand->Option (List Value)
 |[]=>some []
 |x::t=>match aB fr x,fg fr t with
  |some v,some l=>some (v::l)
  |_,_=>none
def Be{fr:Fr}{a:Act}(h:kG fr a): ∀{l:List Operand} {vs:List Value},fg fr l=some vs->l.map a.eval=vs
 |[],vs,e=>by simp[fg] at e;subst e;rfl
 |x::t,vs,e=>by
  simp only[fg] at e;split at e
  .rename_i v l hv hl
   cases e
   simp[bw h hv,Be h hl]
  .cases e
section
variable {P:Program}{fr:Fr}{own:List av}{r:List Oper}
variable {dst:Option Nat}{pos:String}{af:Array Edge}
def Ch(P:Program)(C:aE)(n:Nat)(fr:Fr)(own:List av)(G:Gh)(o:Oper)(Φ:Act->World->Prop):Prop:=
 ∀(a:Act) (w:World) (Q:Exit->Act->World->Prop),gm C n fr own G a w->o.wp P a w Φ Q
def aGk(hg:o.guard=none)(hc:Ch P C n fr own G o (cP P ops Q r)):St C n fr own G (cP P ops Q (o::r)):=by
 intro a w rl;simp only[cP,Region.wanted,hg,if_true];exact hc a w _ rl
variable {gd:Option (Nat×Bool)}
def Rw:(newVar ty v).run P w= .ok ⟨w.heap.size,0,none⟩ (w.alloc (.cells ⟨aF v⟩ ty)):=by
 unfold newVar newRow;rw[oD];rfl
def kv(h:(execOp a.eval o).run P w= .ok (.value v) w')(hk:Φ (a.put o.dst v) w'):o.wp P a w Φ Q:=by
 simp only[Oper.wp,h,Oper.upon];exact hk
def ug[hz:gc P t z](hd:b8 n dst=true)(h: ∀b,St C n (put fr dst (.pointer (some ⟨b,0,none⟩))) (⟨b,aF z,t,true⟩::own) G Φ):
  Ch P C n fr own G ⟨dst, .alloc t,ty',pos,af,gd⟩ Φ:=by
 intro a w Q rl;have h1:(Instr.alloc t true (.tuple #[])).run P w= .ok (.pointer (some ⟨w.heap.size,0,none⟩)) (w.alloc (.cells ⟨aF z⟩ t)):=by
  unfold Instr.alloc;rw[aO (hz.zero w)];show(newVar t z>>=_).run P w=_;rw[aO Rw];rfl
 refine kv (cD h1) (h w.heap.size _ _ ?_);exact(rl.heap (rl.h.alloc _ _)).put _ hd
def si(hx:aB fr x=some v)(hd:b8 n dst=true)(h: ∀b,St C n (put fr dst (.pointer (some ⟨b,0,none⟩))) (⟨b,aF v,t,true⟩::own) G Φ):
  Ch P C n fr own G ⟨dst, .box t x,ty',pos,af,gd⟩ Φ:=by
 intro a w Q rl;have h1:(Instr.box t (a.eval x)).run P w= .ok (.pointer (some ⟨w.heap.size,0,none⟩)) (w.alloc (.cells ⟨aF v⟩ t)):=by
  unfold Instr.box;rw[bw rl.fr hx,aO Rw];rfl
 refine kv (cD h1) (h w.heap.size _ _ ?_);exact(rl.heap (rl.h.alloc _ _)).put _ hd
def Xq{cs:List Value}{fz:Nat×Nat}(h:w.heap[b]? =some (.cells ⟨cs⟩ ty fz)):w.setCell ⟨b,off,none⟩ v=gq w b (.cells ⟨cs.set off v⟩ ty fz):=by
 unfold World.setCell gq;congr 1;apply Array.ext_getElem?;intro i;rw[Array.getElem?_modify,dR];by_cases hi:b=i
 .subst hi
  have:=il h;simp only[if_true,h,lQ,this];simp
 .simp[hi]
def ZJ{cs:List Value}(hv:flat v=true)(h:w.heap[b]? =some (.cells ⟨cs⟩ ty (0,0)))(ho:off<cs.length):
  (store ⟨b,off,none⟩ v).run P w= .ok () (gq w b (.cells ⟨cs.set off v⟩ ty (0,0))):=by
 have hc:w.cell? ⟨b,off,none⟩=some cs[off]:=by rw[EA h,aZ ho]
 have hf:w.frozen? ⟨b,off,none⟩=false:=by simp[World.frozen?,h]
 cases v<;>first|(simp[flat] at hv;done)|(simp only[store,Sem.run,hc,hf,Xq h];rfl)
def SG(w:World)(b:Nat)(o o':Obj):gq (gq w b o) b o'=gq w b o':=by
 simp[gq]
def Vz{o:Obj}(h:w.heap[b]? =some o):gq w b o=w:=by
 unfold gq;congr 1;apply Array.ext_getElem?;intro i;rw[dR];by_cases hi:b=i
 .subst hi
  have hlt:=il h;simp only[if_true,hlt];rw[h]
 .simp[hi]
def Bn{b:Nat}{ty:TypeId}: ∀(vs:List Value) (w:World) (off i:Nat) (cs:List Value),(∀v∈vs,flat v=true)->w.heap[b]? =some (.cells ⟨cs⟩ ty (0,0))->off+i+vs.length<=cs.length->
  (storeCells ⟨b,off,none⟩ vs i).run P w= .ok () (gq w b (.cells ⟨cp cs (off+i) vs⟩ ty (0,0)))
 |[],w,off,i,cs,_,h,_=>by
  unfold storeCells cp;rw[Vz h];rfl
 |v::vs,w,off,i,cs,hf,h,hl=>by
  unfold storeCells;simp only[bQ] at hl;rw[qA,aO (ZJ (hf v aQ) h (by omega))];rw[Bn vs _ off (i+1) (cs.set (off+i) v) (fun u hu=>hf u (aJ _ hu)) (L9 (il h)) (by simp;omega)];rw[SG];rfl
def Ev{cs:List Value}(hx:aB fr x=some (.pointer (some ⟨b,off,none⟩)))(hy:aB fr y=some v)[hs:kl P t k]
  (hu:gP own b cs ty lo (cp cs off (aF v)) own')(hk:(aF v).length=k)(hl:off+k<=cs.length)(hf:(aF v).all flat=true)(hd:b8 n dst=true)(h:St C n (put fr dst undef) own' G Φ):
  Ch P C n fr own G ⟨dst, .store t x y,ty',pos,af,gd⟩ Φ:=by
 intro a w Q rl;have hb:=(rl.h.hown _ (hu.spec rl.h.nd).1).1;have h1:(Instr.storeAt t (a.eval x) (a.eval y)).run P w= .ok () (gq w b (.cells ⟨cp cs off (aF v)⟩ ty (0,0))):=by
  rw[bw rl.fr hx,bw rl.fr hy];simp only[Instr.storeAt,Instr.sureAddr];show(storeVar t ⟨b,off,none⟩ v).run P w=_;unfold storeVar;rw[aO (hs.siz w),oD];simp only[pX,hk,ne_eq,not_true_eq_false,if_false];have:=Bn (P:=P) (aF v) w off 0 cs (by simpa using hf) hb (by omega);simpa using this
 have h2:(execOp a.eval ⟨dst, .store t x y,ty',pos,af,gd⟩).run P w= .ok .skip (gq w b (.cells ⟨cp cs off (aF v)⟩ ty (0,0))):=by
  simp only[execOp];rw[aO h1];rfl
 simp only[Oper.wp,h2,Oper.upon];exact h _ _ ((rl.heap (rl.h.store hu)).put _ hd)
def uH{cs:List Value}(hx:aB fr x=some (.pointer (some ⟨b,off,none⟩)))(hy:aB fr y=some v)[hs:jB P t]
  (hu:gP own b cs ty lo (cs.set off v) own')(hl:off<cs.length)(hf:flat v=true)(hd:b8 n dst=true)(h:St C n (put fr dst undef) own' G Φ):
  Ch P C n fr own G ⟨dst, .store t x y,ty',pos,af,gd⟩ Φ:=by
 intro a w Q rl;have hb:=(rl.h.hown _ (hu.spec rl.h.nd).1).1;have hc:v.cells= #[v]:=by cases v<;>first|rfl|(simp[flat] at hf)
 have h1:(Instr.storeAt t (a.eval x) (a.eval y)).run P w= .ok () (gq w b (.cells ⟨cs.set off v⟩ ty (0,0))):=by
  rw[bw rl.fr hx,bw rl.fr hy];simp only[Instr.storeAt,Instr.sureAddr];show(storeVar t ⟨b,off,none⟩ v).run P w=_;unfold storeVar;rw[aO (hs.siz w),hc];simp only[pX,bQ,eY,ne_eq,not_true_eq_false,if_false,eX];have:=Bn (P:=P) [v] w off 0 cs (by simpa using hf) hb (by simp;omega);simpa[cp] using this
 have h2:(execOp a.eval ⟨dst, .store t x y,ty',pos,af,gd⟩).run P w= .ok .skip (gq w b (.cells ⟨cs.set off v⟩ ty (0,0))):=by
  simp only[execOp];rw[aO h1];rfl
 simp only[Oper.wp,h2,Oper.upon];exact h _ _ ((rl.heap (rl.h.store hu)).put _ hd)
def FJ(h:rE P f)(args:Array Value)(w:World):(callFunc f args).run P w= .ok (.enter f args) w:=by
 obtain⟨fn,h1,h2,h3⟩:=h;unfold callFunc;show(program>>=_).run P w=_;rw[aO (a:=P) (w':=w) J];simp only[h1,h2,h3];rfl
def DG(h:rE P f)(hf:kG fr a)(ho:aB fr fo=some (.func (.func f) ⟨c1⟩ ⟨c2⟩))(hv:fg fr args.toList=some vs):
  (execOp a.eval ⟨dst, .call ⟨.value fo,args,tys⟩,ty',pos,af,gd⟩).run P w= .ok (.enter f ⟨c1++vs++c2⟩) w:=by
 have e:args.map a.eval=⟨vs⟩:=by apply Array.ext';simpa using Be hf hv
 simp only[execOp,resolve,bw hf ho,e,Deferred.ofValue];show(invoke (.fn (.func f) ⟨c2⟩) (⟨c1⟩++⟨vs⟩)).run P w=_;simp only[invoke];rw[FJ h];simp
def Qx{K:Value->Gh->Prop}(ho:aB fr fo=some (.func (.func f) ⟨c1⟩ ⟨c2⟩))(hv:fg fr args.toList=some vs)
  (hF:Fn P f (c1++vs++c2) G K)(hd:b8 n dst=true)(h: ∀v (G':Gh),[GE G G']->K v G'->St C n (put fr dst v) own G' Φ):
  Ch P C n fr own G ⟨dst, .call ⟨.value fo,args,tys⟩,ty',pos,af,gd⟩ Φ:=by
 intro a w Q rl;have h2:=DG (P:=P) (dst:=dst) (ty':=ty') (pos:=pos) (af:=af) (gd:=gd) (tys:=tys) (w:=w) hF.able rl.fr ho hv;simp only[Oper.wp,h2,Oper.upon];refine(hF.run w rl.h.sub).mono ?_;rintro e w' ⟨v,G',rfl,hh,hK⟩;exact @h v G' ⟨hh.gle⟩ hK _ _ ((rl.heap (rl.h.called hh)).put _ hd)
def zC{K:Value->Gh->Prop}(ho:aB fr fo=some (.func (.func f) #[] #[]))(hv:fg fr args.toList=some vs)
  (hF:Fn P f vs G K)(hd:b8 n dst=true)(h: ∀v (G':Gh),[GE G G']->K v G'->St C n (put fr dst v) own G' Φ):
  Ch P C n fr own G ⟨dst, .call ⟨.value fo,args,tys⟩,ty',pos,af,gd⟩ Φ:=
 Qx (c1:=[]) (c2:=[]) ho hv (by simpa using hF) hd h
def Ue(ho:aB fr fo=some (.func (.func f) ⟨c1⟩ ⟨c2⟩))(hv:fg fr args.toList=some vs)
  (hp:own.Perm (M++rest))(hF:jI P f (c1++vs++c2) M G K)(hd:b8 n dst=true)(h: ∀v css (G':Gh),[GE G G']->css.length=M.length->K v css G'->St C n (put fr dst v) (kr M css++rest) G' Φ):
  Ch P C n fr own G ⟨dst, .call ⟨.value fo,args,tys⟩,ty',pos,af,gd⟩ Φ:=by
 intro a w Q rl;have h2:=DG (P:=P) (dst:=dst) (ty':=ty') (pos:=pos) (af:=af) (gd:=gd) (tys:=tys) (w:=w) hF.able rl.fr ho hv;simp only[Oper.wp,h2,Oper.upon];have hh0:=rl.h.perm hp;refine(hF.run w hh0.lend).mono ?_;rintro e w' ⟨v,css,G',rfl,hl,hh,hK⟩;exact @h v css G' ⟨hh.gle⟩ hl hK _ _ ((rl.heap (hh0.calledM hl hh)).put _ hd)
def vM(ho:aB fr fo=some (.func (.func f) #[] #[]))(hv:fg fr args.toList=some vs)
  (hp:own.Perm (M++rest))(hF:jI P f vs M G K)(hd:b8 n dst=true)(h: ∀v css (G':Gh),[GE G G']->css.length=M.length->K v css G'->St C n (put fr dst v) (kr M css++rest) G' Φ):
  Ch P C n fr own G ⟨dst, .call ⟨.value fo,args,tys⟩,ty',pos,af,gd⟩ Φ:=
 Ue (c1:=[]) (c2:=[]) ho hv hp (by simpa using hF) hd h
end
section
variable {P:Program}{fr:Fr}{own:List av}
inductive j0 (P:Program) (fr:Fr) (own:List av):List ResultVar->List Value->Prop
 |nil:j0 P fr own [] []
 |tmp {t:Nat} {v:Value} {rs:List ResultVar} {vs:List Value} (h:io fr t=some v) (k:j0 P fr own rs vs):j0 P fr own (.tmp t::rs) (v::vs)
 |agg {a b k:Nat} {t ty:TypeId} {cs l:List Value} {lo:Bool} {rs:List ResultVar} {vs:List Value} (h:io fr a=some (.pointer (some ⟨b,0,none⟩))) (ho:iw own b cs ty lo) (ht:kl P t k) (hl:co cs 0 k=some l) (h2:j0 P fr own rs vs):
   j0 P fr own (.cell a t::rs) (.agg ⟨l⟩::vs)
 |sc {a b:Nat} {t ty:TypeId} {cs:List Value} {v:Value} {lo:Bool} {rs:List ResultVar} {vs:List Value} (h:io fr a=some (.pointer (some ⟨b,0,none⟩))) (ho:iw own b cs ty lo) (ht:jB P t) (hl:cs[0]? =some v) (h2:j0 P fr own rs vs):
   j0 P fr own (.cell a t::rs) (v::vs)
def w9(a:Act):ResultVar->Sem Value
 | .tmp t=>pure (a.tmps.getD t undef)
 | .cell x t=>do loadVar t (<-asAddr (a.tmps.getD x undef))
def j0.run{rs:List ResultVar}{vs:List Value}(h:j0 P fr own rs vs){a:Act}{w:World}(hf:kG fr a)(hh:bE C own G w):
  (rs.mapM (w9 a)).run P w= .ok vs w:=by
 induction h with
 |nil=>rfl
 | @tmp t v rs vs h k ih=>
  rw[rX];have e:=hf _ _ h;have e2:a.tmps.getD t undef=v:=by rw[cX,e];rfl
  rw[aO (a:=v) (w':=w) (by simp only[w9,e2];exact run_pure _ _ _),aO ih];rfl
 | @agg x b k t ty cs l lo rs vs h ho ht hl h2 ih=>
  rw[rX];have e:=hf _ _ h;have e2:a.tmps.getD x undef= .pointer (some ⟨b,0,none⟩):=by rw[cX,e];rfl
  rw[aO (a:= .agg ⟨l⟩) (w':=w) (by simp only[w9,e2,asAddr];rw[aO (run_pure _ _ _)];exact I7 (hh.hown _ ho.mem).1 hl),aO ih];rfl
 | @sc x b t ty cs v lo rs vs h ho ht hl h2 ih=>
  rw[rX];have e:=hf _ _ h;have e2:a.tmps.getD x undef= .pointer (some ⟨b,0,none⟩):=by rw[cX,e];rfl
  rw[aO (a:=v) (w':=w) (by simp only[w9,e2,asAddr];rw[aO (run_pure _ _ _)];exact Hr (hh.hown _ ho.mem).1 hl),aO ih];rfl
def nv:List Value->Value
 |[v]=>v
 |vs=> .tuple ⟨vs⟩
def sv{fn:Func}(hr:j0 P fr own fn.results.toList vs)(hf:kG fr a)(hh:bE C own G w):(results fn a.tmps).run P w= .ok (nv vs) w:=by
 have h0:=j0.run (C:=C) (G:=G) hr hf hh;have h1:(fn.results.mapM (w9 a)).run P w= .ok (⟨vs⟩:Array Value) w:=by
  rw[<-Array.toArray_toList (xs:=fn.results),List.mapM_toArray,map_eq_pure_bind,aO h0];rfl
 have h2:results fn a.tmps=(do
   let vs<-fn.results.mapM (w9 a)
   pure (if h:vs.size=1 then vs[0] else .tuple vs)):=by
  unfold results;congr 1
 rw[h2,aO h1]
 match vs with
 |[]=>rfl
 |[v]=>rfl
 |_::_::_=>rfl
def li(C:aE)(K:Value->Gh->Prop):Ending->World->Prop:=fun e w'=> ∃v G',e= .returned v/\bE C [] G' w'/\K v G'
def AY(C:aE)(M:List av)(K:Value->List (List Value)->Gh->Prop):Ending->World->Prop:=fun e w'=> ∃v css G',e= .returned v/\css.length=M.length/\bE C (kr (asB M) css) G' w'/\K v css G'
def eH(C:aE)(P:Program)(fn:Func)(R:Ending->World->Prop):Exit->Act->World->Prop:=fun e a w=>C.mks=[]->bodyPost P fn R e a w
def zD{fn:Func}{K:Value->Gh->Prop}(hr:j0 P fr own fn.results.toList vs)(hk:K (nv vs) G):St C n fr own G (eH C P fn (li C K) .ret):=
 fun a w rl hmk=>⟨rl.df.trans hmk,_,sv hr rl.fr rl.h,_,G,J,rl.h.drop (jK _),hk⟩
def Rf{fn:Func}{K:Value->Gh->Prop}(hr:j0 P fr own fn.results.toList vs)(hk:K (nv vs) G):St C n fr own G (eH C P fn (li C K) .normal):=
 fun a w rl hmk=>⟨rl.df.trans hmk,_,sv hr rl.fr rl.h,_,G,J,rl.h.drop (jK _),hk⟩
def rO{fn:Func}{css:List (List Value)}(hr:j0 P fr own fn.results.toList vs)(hl:css.length=M.length)(own2:List av)(hp:own.Perm own2)(hs:(kr (asB M) css).Sublist own2)(hk:K (nv vs) css G):St C n fr own G (eH C P fn (AY C M K) .ret):=
 fun a w rl hmk=>⟨rl.df.trans hmk,_,sv hr rl.fr rl.h,_,css,G,J,hl,(rl.h.perm hp).drop hs,hk⟩
def mo:Nat->List Value->Fr
 |_,[]=>[]
 |i,v::t=>(i,v)::mo (i+1) t
def ve: ∀(vs:List Value) (i k:Nat) (v:Value),io (mo i vs) k=some v-> ∃j,k=i+j/\vs[j]? =some v
 |[],i,k,v,h=>by cases h
 |u::vs,i,k,v,h=>by
  rw[mo,tL] at h;split at h
  .subst_vars;cases h;exact⟨0,J,J⟩
  .obtain⟨j,rfl,hj⟩:=ve vs (i+1) k v h
   exact⟨j+1,by omega,by simpa using hj⟩
def Fn.introR{fn:Func}{K:Value->Gh->Prop}(hf:P.funcs[f]? =some fn)(hb:fn.body=some c)(hn:(fn.name== "runtime.NumGoroutine")=false)(hm:fn.ntmps=m)(hlen:Nat.ble vs.length m=true)
  (h: ∀C:aE,C.G0=G->C.mb=[]->C.rd=none->(C.fx=fun _=>none)->St C m (mo 0 vs) [] G (c.wp P (eH C P fn (li C K)))):Fn P f vs G K:=by
 refine⟨⟨fn,hf,hn,by simp[hb]⟩,fun w hw=>?_⟩;have hlen':vs.length<=m:=by simpa using hlen
 have:=calls_of_wp (P:=P) (f:=f) (args:=⟨vs⟩) (w:=w) (R:=li ⟨w,G,[],[],[],none,fun _=>none⟩ K) hf hb (wp_mono (h ⟨w,G,[],[],[],none,fun _=>none⟩ J J J J _ w
  ⟨⟨J,J,J,bW _,fun _ _ _=>J,hw,bH.refl _,fun _ _=>J,fun o ho=>(by cases ho), .nil,bW _,fun p hp=>by cases hp⟩,by simp;omega,fun k v hk=>by
   obtain⟨j,rfl,hj⟩:=ve vs 0 k v hk;have hj':=(aT.1 hj).1;rw[lV (by simpa using hj')];simpa using hj,J⟩) fun _ _ _ k=>k J)
 exact this
def Fn.intro{fn:Func}{K:Value->Gh->Prop}(hf:P.funcs[f]? =some fn)(hb:fn.body=some c)(hn:(fn.name== "runtime.NumGoroutine")=false)(hm:fn.ntmps=m)(hlen:Nat.ble vs.length m=true)
  (h: ∀C:aE,C.G0=G->C.mb=[]->St C m (mo 0 vs) [] G (c.wp P (eH C P fn (li C K)))):Fn P f vs G K:=
 Fn.introR hf hb hn hm hlen fun C a b _ _=>h C a b
def jI.introR{fn:Func}(hf:P.funcs[f]? =some fn)(hb:fn.body=some c)(hn:(fn.name== "runtime.NumGoroutine")=false)(hm:fn.ntmps=m)(hlen:Nat.ble vs.length m=true)
  (h: ∀C:aE,C.G0=G->C.mb=M.map (·.b)->C.rd=none->(C.fx=fun _=>none)->St C m (mo 0 vs) (asB M) G (c.wp P (eH C P fn (AY C M K)))):jI P f vs M G K:=by
 refine⟨⟨fn,hf,hn,by simp[hb]⟩,fun w hw=>?_⟩;have hlen':vs.length<=m:=by simpa using hlen
 have:=calls_of_wp (P:=P) (f:=f) (args:=⟨vs⟩) (w:=w) (R:=AY ⟨w,G,M.map (·.b),[],[],none,fun _=>none⟩ M K) hf hb (wp_mono (h ⟨w,G,M.map (·.b),[],[],none,fun _=>none⟩ J J J J _ w
  ⟨hw,by simp;omega,fun k v hk=>by
   obtain⟨j,rfl,hj⟩:=ve vs 0 k v hk;have hj':=(aT.1 hj).1;rw[lV (by simpa using hj')];simpa using hj,J⟩) fun _ _ _ k=>k J)
 exact this
def jI.intro{fn:Func}(hf:P.funcs[f]? =some fn)(hb:fn.body=some c)(hn:(fn.name== "runtime.NumGoroutine")=false)(hm:fn.ntmps=m)(hlen:Nat.ble vs.length m=true)
  (h: ∀C:aE,C.G0=G->C.mb=M.map (·.b)->St C m (mo 0 vs) (asB M) G (c.wp P (eH C P fn (AY C M K)))):jI P f vs M G K:=
 jI.introR hf hb hn hm hlen fun C a b _ _=>h C a b
def BD(b:Nat){cs:List Value}(hr:jo own ⟨b,cs,ty,true⟩ own')(h: ∀G':Gh,[GE G G']->[s8 G' b cs]->St C n fr own' G' Φ):St C n fr own G Φ:=
 fun a w rl=>by
  obtain⟨h1,h2⟩:=rl.h.freeze hr;exact @h _ ⟨h2⟩ ⟨by simp⟩ a w (rl.heap h1)
def M'(own':List av)(hs:own'.Sublist own)(h:St C n fr own' G Φ):St C n fr own G Φ:=
 fun a w rl=>h a w (rl.heap (rl.h.drop hs))
def AD(own':List av)(hs:own.Perm own')(h:St C n fr own' G Φ):St C n fr own G Φ:=
 fun a w rl=>h a w (rl.heap (rl.h.perm hs))
def MW(C:aE)(n:Nat)(F:X->Fr)(O:X->List av)(I:X->Gh->Prop)(μ:X->Nat)(m:Nat)(G:Gh)(a:Act)(w:World):Prop:=
 ∃x G',bH G G'/\I x G'/\μ x<m/\gm C n (F x) (O x) G' a w
def Nn(F:X->Fr)(O:X->List av)(I:X->Gh->Prop)(μ:X->Nat)(x0:X)(hI:I x0 G)(hF:uw (F x0) fr)(hO:O x0=own)
  (round: ∀(x:X) (G':Gh),[GE G G']->I x G'->St C n (F x) (O x) G' (c.wp P (Exit.then (MW C n F O I μ (μ x) G') Q))):St C n fr own G ((Code.loop c).wp P Q):=by
 intro a w rl;subst hO;intro b k cs;have key: ∀m a w,(∃x G',bH G G'/\I x G'/\μ x=m/\gm C n (F x) (O x) G' a w)->
   ∃e a' w',Q e a' w'/\Arrives P (lone (b.at a (.code c:: .inLoop c::k)) cs w) b k cs e a' w':=by
  intro m
  induction m using Nat.strongRecOn with
  |_ m ih=>
   intro a w ⟨x,G',hle,hx,hm,hr⟩;obtain⟨e,a₁,w₁,hq,harr⟩:= @round x G' ⟨hle⟩ hx a w hr b (.inLoop c::k) cs
   cases e with
   |normal=>
    obtain⟨x',G'',hle',hx',hlt,hr'⟩:=hq;obtain⟨e₂,a₂,w₂,hq₂,harr₂⟩:=ih (μ x') (hm▸hlt) a₁ w₁ ⟨x',G'',hle.trans hle',hx',rfl,hr'⟩;exact⟨e₂,a₂,w₂,hq₂, .of_steps (Steps.trans harr (.one step_inLoop)) harr₂⟩
   |exit id=>exact⟨_,a₁,w₁,hq, .pass (x:= .inLoop c) J (fun _ _=> .inl (by simp)) harr⟩
   |goto l=>exact⟨_,a₁,w₁,hq, .pass (x:= .inLoop c) J (fun _ _=> .inl (by simp)) harr⟩
   |ret=>exact⟨_,a₁,w₁,hq, .pass (x:= .inLoop c) J (fun _ _=> .inl (by simp)) harr⟩
   |panic ch=>exact⟨_,a₁,w₁,hq, .pass (x:= .inLoop c) J (fun _ _=> .inl (by simp)) harr⟩
   |outgrown=>exact⟨_,a₁,w₁,hq, .pass (x:= .inLoop c) J (fun _ _=> .inl (by simp)) harr⟩
 obtain⟨e,a',w',q,r⟩:=key (μ x0) a w ⟨x0,G,bH.refl _,hI,rfl,rl.h,rl.sz,fun k v hk=>rl.fr _ _ (hF _ _ hk),rl.df⟩;exact⟨e,a',w',q, .of_steps (.one step_loop) r⟩
def Fi{F:X->Fr}{O:X->List av}{I:X->Gh->Prop}{μ:X->Nat}[hg:GL G0 G](x:X)(hI:I x G)(hμ:μ x<m)(hF:uw (F x) fr)(hO:O x=own):St C n fr own G (MW C n F O I μ m G0):=
 fun a w rl=>⟨x,G,hg.le,hI,hμ,⟨hO▸rl.h,rl.sz,fun k v hk=>rl.fr _ _ (hF _ _ hk),rl.df⟩⟩
end
def gn(Q:Exit->Act->World->Prop):Exit->Act->World->Prop
 | .panic _,_,_=>False
 |e,a,w=>Q e a w
def gn.imp: ∀(e:Exit) (a:Act) (w:World),gn Q e a w->Q e a w:=fun e a w h=>by
 cases e<;>first|exact h|exact(h:False).elim
section
variable {P:Program}
def uz(P:Program)(ops:Array Oper)(Q:Exit->Act->World->Prop)(S:World->Prop)(fin:Nat->Bool):Nat->Array Bool->Act->World->Prop
 |0,listed,a,w=>Region.ready .any ops listed=[]/\Q .normal a w
 |fuel+1,listed,a,w=>
  (Region.ready .any ops listed=[]->Q .normal a w)/\
  ∀i∈Region.ready .any ops listed,wpOp P ops Q i (fun a' w'=>(fin i=true\/S w')/\uz P ops Q S fin fuel (listed.setIfInBounds i true) a' w') a w
def B6: ∀(fuel:Nat) (listed:Array Bool) (a:Act) (w:World),uz P ops Q S fin fuel listed a w->wpAny P .any ops Q fuel listed a w
 |0,_,_,_,h=>h
 |fuel+1,_,_,_,h=>⟨h.1,fun i hi=>wpOp_mono (fun a' w' h'=>B6 fuel _ a' w' h'.2) (h.2 i hi)⟩
def HN(ops:Array Oper)(fin:Nat->Bool)(i:Nat):Bool:=
 !fin i&&(List.range ops.size).all fun j=>!fin j||((ops[j]?).map fun o=>o.after.any fun e=>Region.binds .any e&&e.on==i).getD true
def X'(h:HN ops fin i=true):fin i=false/\ ∀j oj,ops[j]? =some oj->fin j=true-> ∃e∈oj.after,Region.binds .any e=true/\e.on=i:=by
 simp only[HN,bU,iZ] at h;refine⟨h.1,fun j oj hoj hf=>?_⟩;have hj:j<ops.size:=(fV.1 hoj).1;have h1:=dJ.1 h.2 j (by simpa using hj);rw[hf,hoj] at h1;simp only[Bool.not_true,lQ,lJ,Bool.false_or] at h1;obtain⟨e,he,hb⟩:=Array.any_eq_true'.1 h1;simp only[bU,beq_iff_eq] at hb;exact⟨e,he,hb.1,hb.2⟩
def Y9{i:Nat}{oi:Oper}{v:Value}(hi:ops[i]? =some oi)(hsel: ∀(j:Nat) (o:Oper) cs b,ops[j]? =some o->o.op≠ .select cs b)
  (hQ: ∀c a w,Q (.panic c) (a.put oi.dst v) w->Q (.panic c) a w)(hfi:fin i=false)
  (hfin: ∀j oj,ops[j]? =some oj->fin j=true-> ∃e∈oj.after,Region.binds .any e=true/\e.on=i):
  ∀(fuel:Nat) (listed:Array Bool) (a:Act) (w:World),
   (∀j oj,ops[j]? =some oj->j≠i->listed.getD j true=false->(∀e∈oj.after,Region.binds .any e=true->e.on≠i)->oi.apart ops oj=true)->
   i∈Region.ready .any ops listed->YieldsIf P ops S oi v a->S w->
   uz P ops Q S fin fuel (listed.setIfInBounds i true) (a.put oi.dst v) w->uz P ops Q S fin (fuel+1) listed a w:=by
 intro fuel
 induction fuel with
 |zero=>
  intro listed a w _ hr hy hS H;refine⟨fun h=>(by rw[h] at hr;cases hr),fun j hj=>?_⟩;by_cases hji:j=i
  .subst hji;exact hy.wpOp hi hS ⟨.inr hS,H⟩
  .have:=ready_mono hj hji
   rw[H.1] at this
   cases this
 |succ fuel ih=>
  intro listed a w hfree hr hy hS H;refine⟨fun h=>(by rw[h] at hr;cases hr),fun j hj=>?_⟩;by_cases hji:j=i
  .subst hji;exact hy.wpOp hi hS ⟨.inr hS,H⟩
  .have h1:=H.2 j (ready_mono hj hji)
   obtain⟨hjun,oj,hoj,hall⟩:=mem_ready.1 hj;have hnot: ∀e∈oj.after,Region.binds .any e=true->e.on≠i:=fun e he hb heq=>by
    have h1:=hall e he hb;have h0:=(mem_ready.1 hr).1;rw[heq] at h1;rcases jZ i listed.size with h'|h'
    .simp[h'] at h0 h1;rw[h0] at h1;cases h1
    .simp[oT h'] at h1
   have hnf:fin j=false:=by
    cases hf:fin j with
    |false=>rfl
    |true=>obtain⟨e,he,hb,heq⟩:=hfin j oj hoj hf;exact absurd heq (hnot e he hb)
   have h2:=wpOp_putIf hoj (hfree j oj hoj hji hjun hnot) (fun cs b=>hsel i oi cs b hi) (fun cs b=>hsel j oj cs b hoj) hQ hy h1;have hfree': ∀k ok,ops[k]? =some ok->k≠i->(listed.setIfInBounds j true).getD k true=false->
     (∀e∈ok.after,Region.binds .any e=true->e.on≠i)->oi.apart ops ok=true:=fun k ok hk hki hun hno=>by
    refine hfree k ok hk hki ?_ hno;by_cases hjk:j=k
    .subst hjk;exact hjun
    .rw[getD_set_ne true hjk] at hun;exact hun
   refine wpOp_mono (fun a' w' h3=>?_) h2;have hS':S w':=h3.2.1.resolve_left (by rw[hnf];simp);refine⟨.inr hS',ih (listed.setIfInBounds j true) a' w' hfree' (ready_mono hr (Ne.symm hji)) h3.1 hS' ?_⟩;rw[Array.setIfInBounds_comm _ _ hji];exact h3.2.2
def Xf{listed:Array Bool}(hr:Region.ready .any ops listed=[i])
  (h:wpOp P ops Q i (fun a' w'=>(fin i=true\/S w')/\uz P ops Q S fin fuel (listed.setIfInBounds i true) a' w') a w):uz P ops Q S fin (fuel+1) listed a w:=
 ⟨fun h0=>absurd (hr.symm.trans h0) (by simp),fun j hj=>by rw[hr,aU] at hj;subst hj;exact h⟩
def Rl(ops:Array Oper)(fin:Nat->Bool)(listed:Array Bool)(i:Nat):Bool:=
 Region.noSelect ops&&Region.free .any ops listed i&&(Region.ready .any ops listed).contains i&&HN ops fin i
end
class ll (l m:List av):Prop where s:l.Sublist m
instance ll.cons (l m:List av) (o:av) [h:ll l m]:ll l (o::m):=⟨h.s.cons o⟩
def HS(C:aE)(own:List av)(G:Gh):World->Prop:=fun w=> ∃G',bH G G'/\bE C own G' w
section
variable {P:Program}{fr:Fr}{own:List av}
def UJ{id:Nat}(fin:Nat->Bool)(hm:P.follows .mixedOrders=true)
  (h:St C n fr own G (uz P ops (gn Q) (HS C own G) fin ops.size (Array.replicate ops.size false))):St C n fr own G ((Code.region id ops true).wp P Q):=by
 intro a w rl;exact wp_mono (wp_region_any hm (B6 _ _ _ _ (h a _ (rl.heap rl.h.drew)))) gn.imp
def ln{b:Bool}[hs:ll own0 own][hl:GL G0 G](h:St C n fr own G Φ):St C n fr own G (fun a w=>(b=true\/HS C own0 G0 w)/\Φ a w):=
 fun a w rl=>⟨.inr ⟨G,hl.le,rl.h.drop hs.s⟩,h a w rl⟩
def So{b:Bool}(hb:b=true)(h:St C n fr own G Φ):St C n fr own G (fun a w=>(b=true\/S w)/\Φ a w):=
 fun a w rl=>⟨.inl hb,h a w rl⟩
end
end Go.Sx
end
