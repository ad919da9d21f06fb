import Derived.Calls
import Derived.Orders
import Derived.OrdersHeld
import Derived.Laws.World
import Derived.Below
import Derived.IntWalk
import Derived.KernelRfl
import Derived.Laws.Append
set_option linter.all false
section
namespace Go.Sx
theorem pb{p:Prop}(h:p:=by omega):p:=h
theorem v6{p:Prop}(h:p:=by decide):p:=h
theorem v7{p:Prop}(h:p:=by grind):p:=h
theorem v8{p:Prop}(h:p:=by simp):p:=h
theorem we{p:Prop}(h:p:=by kernel_rfl):p:=h
theorem oma{p:Prop}(h:p:=by assumption):p:=h
theorem omc{p:Prop}{i:Decidable p}(h:p):some (@decide p i)=some true:=by rw[decide_eq_true h]
theorem omd{p:Prop}{i:Decidable p}(h: ¬p):some (@decide p i)=some false:=by rw[decide_eq_false h]
def J{α:Sort _}{a:α}:a=a:=rfl
open Go
variable {α β:Type}{a:Act}{c x z:Operand}{v:Value}{P:Program}{ops:Array Oper}{Q:Exit->Act->World->Prop}{w w':World}{n j d e s by_ off f i len cap m:Nat}{r:List Oper}{o:Oper}{y:Code}{p q:Int}{Φ:Act->World->Prop}{t ty' t':TypeId}{k k':IntKind}{l l1 l2 cs':List Value}{dst:Option Nat}{pos:String}{af:Array Edge}{ad:Option Addr}{css:List (List Value)}
def aQ:=@List.getElem?_eq_getElem
def aZ:=@List.mem_cons_self
def aX:=@List.length_map
def aJ:=@List.getD_eq_getElem?_getD
def aK:=@List.mem_cons_of_mem
def aV:=@List.mem_of_getElem?
def aW:=@List.mem_singleton
def aY:=@List.length_replicate
def aU:=@List.length_append
def aT:=@List.mem_cons
def aR:=@Nat.eq_of_beq_eq_true
def aS:=@List.getElem?_eq_some_iff
def aL:=@Nat.zero_le
def aM:=@List.length_set
def aN:=@List.mem_map
def bQ:=@List.map_append
def bZ:=@Nat.le_refl
def bX:=@Nat.mul_le_mul_right
def bJ:=@List.mem_append
def bK:=@List.take_of_length_le
def bV:=@Bool.and_eq_true
def bW:=@List.drop_eq_getElem_cons
def bY:=@List.length_cons
def bU:=@Nat.pow_le_pow_right
def bT:=@Array.getD_eq_getD_getElem?
def bR:=@List.length_take
def bS:=@List.mem_append_left
def bL:=@List.getElem_mem
def bM:=@Nat.mul_comm
def bN:=@List.pairwise_cons
def cZ:=@List.map_cons
def cX:=@Nat.mul_assoc
def cJ:=@Nat.le_trans
def cK:=@Rat.intCast_mul
def cV:=@List.eq_nil_of_length_eq_zero
def cW:=@List.mem_append_right
def cY:=@List.getElem?_map
def cR:=@Nat.mod_lt
def cS:=@List.take_length
def cM:=@Rat.le_of_lt
def cN:=@Nat.add_mul
def dQ:=@Int.toNat_natCast
def dZ:=@List.all_eq_true
def dX:=@List.forall_mem_cons
def dJ:=@Nat.lt_of_lt_of_le
def dK:=@Rat.intCast_eq_zero_iff
def dV:=@Array.getElem?_setIfInBounds
def dW:=@List.mem_of_mem_take
def dY:=@Nat.mul_le_mul_left
def dT:=@Int.sign_eq_neg_one_of_neg
def dR:=@List.getElem?_eq_none
def dS:=@List.length_singleton
def eX:=@Nat.zero_add
def eJ:=@Nat.mul_add
def eK:=@List.mem_map_of_mem
def eY:=@List.pairwise_append
def eM:=@List.take_add_one
def fQ:=@List.mem_flatMap
def fZ:=@Array.getElem?_eq_some_iff
def fX:=@Int.sign_eq_one_of_pos
def fJ:=@Nat.eq_zero_or_pos
def fK:=@List.append_assoc
def fV:=@List.getElem?_append_left
def fW:=@Nat.pow_add
def fY:=@List.take_append_of_le_length
def fU:=@List.drop_length
def fT:=@List.not_mem_nil
def fR:=@Rat.le_refl
def fS:=@Rat.mul_eq_zero
def fL:=@Array.getElem?_eq_getElem
def fM:=@List.drop_zero
def fN:=@Bool.not_eq_true'
def gQ:=@Nat.mod_eq_of_lt
def gX:=@Nat.lt_of_le_of_lt
def gJ:=@Nat.pow_succ
def gK:=@List.mem_of_mem_drop
def gV:=@Nat.pow_pos
def gW:=@Nat.add_zero
def gU:=@List.length_drop
def gT:=@List.map_take
def gR:=@Bool.or_eq_true
def gS:=@List.drop_of_length_le
def gL:=@List.length_dropLast
def gM:=@Int.natCast_mul
def gN:=@List.map_toArray
def iQ:=@List.length_nil
def iZ:=@List.take_succ_eq_append_getElem
def iX:=@Nat.succ_mul
def iJ:=@Int.natAbs_neg
def iK:=@Nat.mul_le_mul
def iV:=@Nat.pos_of_ne_zero
def iW:=@List.map_drop
def iY:=@Nat.lt_or_ge
def iU:=@Nat.gcd_comm
def iT:=@List.cons_append
def iR:=@Int.natAbs_mul
def iS:=@Int.sign_eq_zero_iff_zero
def iL:=@Bool.false_eq_true
def iM:=@List.foldl_cons
def iN:=@Nat.min_eq_left
def jQ:=@Rat.intCast_sub
def jZ:=@Option.getD_some
def jX:=@List.any_eq_true
def jJ:=@Nat.mul_pos
def jK:=@List.take_append_drop
def jV:=@Nat.div_lt_iff_lt_mul
def jW:=@Nat.add_comm
def jY:=@List.map_set
def jU:=@List.getElem?_append_right
def jT:=@Int.fdiv_eq_ediv_of_nonneg
def jR:=@Int.natAbs_natCast
def jS:=@Option.map_some
def jL:=@List.drop_eq_nil_of_le
def jM:=@Bool.not_eq_true
def jN:=@Nat.blt_eq
def kQ:=@Array.length_toList
def kZ:=@List.drop_append_of_le_length
def kX:=@Nat.add_assoc
def kJ:=@List.map_nil
def kK:=@Nat.zero_mul
def kV:=@Int.natAbs_zero
def kW:=@List.nil_sublist
def kY:=@Nat.mul_one
def kU:=@List.getElem_map
def kR:=@Array.getElem?_append_left
def kS:=@Nat.beq_refl
def kL:=@Int.ofNat_natAbs_of_nonpos
def kM:=@List.getD_cons_succ
def kN:=@List.nil_append
def lQ:=@List.getLast?_eq_getElem?
def lZ:=@List.pairwise_iff_getElem
def lX:=@List.length_filter_le
def lJ:=@Nat.add_sub_cancel
def lK:=@List.append_of_mem
def lV:=@Nat.div_eq_of_lt
def lW:=@Nat.le_of_lt
def lY:=@List.sublist_append_left
def lU:=@List.mem_range
def lT:=@List.mem_iff_getElem
def lR:=@List.ext_getElem?
def lS:=@List.length_range
def lL:=@Nat.div_le_self
def lM:=@Rat.num_eq_zero
def lN:=@Rat.intCast_neg
def mQ:=@List.length_pos_iff
def mZ:=@Nat.mul_lt_mul_of_pos_right
def mX:=@List.drop_append
def mJ:=@Nat.le_add_right
def mK:=@Nat.gcd_dvd_left
def mV:=@Nat.mul_lt_mul_of_lt_of_le
def mW:=@Nat.gcd_zero_right
def mY:=@Int.natAbs_eq_zero
def mT:=@Int.natAbs_ediv_le_natAbs
def mS:=@Nat.one_mul
def mL:=@Int.natAbs_of_nonneg
def mM:=@Rat.neg_num
def mN:=@Nat.mul_left_comm
def nQ:=@Nat.gcd_dvd_right
def nZ:=@List.mem_of_getLast?
def nX:=@Nat.eq_zero_of_gcd_eq_zero_right
def nJ:=@List.flatMap_cons
def nK:=@Nat.pow_lt_pow_iff_right
def nV:=@Nat.eq_zero_of_gcd_eq_zero_left
def nY:=@List.take_succ_cons
def nU:=@List.getElem?_range
def nT:=@List.takeWhile_cons
def nR:=@List.flatMap_append
def nS:=@List.perm_middle
def nL:=@Nat.mul_lt_mul''
def nM:=@Nat.gcd_pos_of_pos_left
def nN:=@List.countP_cons
def oQ:=@Array.getElem?_eq_none
def oZ:=@List.getElem?_drop
def oX:=@List.getElem_cons_zero
def oJ:=@List.getElem?_set_self
def oK:=@Option.map_eq_some_iff
def oV:=@Rat.intCast_le_intCast
def oW:=@List.append_nil
def oY:=@Rat.intCast_inj
def oU:=@Rat.intCast_add
def oT:=@Nat.le_of_ble_eq_true
def oR:=@Array.getElem?_toList
def oS:=@List.dropLast_sublist
def oN:=@List.size_toArray
def pQ:=@List.getElem?_set
def pZ:=@Rat.num_nonneg
def pX:=@Nat.add_mul_div_left
def pJ:=@Array.toList_map
def pK:=@Int.le_of_lt
def pV:=@Rat.mkRat_eq_div
def pW:=@Nat.le_max_right
def pY:=@List.mem_or_eq_of_mem_set
def pU:=@Nat.add_mul_mod_self_left
def pT:=@Int.toNat_of_nonneg
def pR:=@List.take_replicate
def pS:=@Array.getElem?_replicate
def pL:=@Nat.gcd_pos_of_pos_right
def pM:=@Option.isSome_iff_exists
def pN:=@Nat.not_lt_zero
def qQ:=@Option.map_none
def qZ:=@Nat.div_add_mod
def qX:=@Rat.num_intCast
def qJ:=@Rat.den_intCast
def qK:=@List.mem_filter
def qV:=@Nat.le_max_left
def qW:=@List.getElem?_take
def qY:=@Nat.mul_right_comm
def qU:=@Nat.le_mul_of_pos_right
def qT:=@Int.natCast_dvd_natCast
def qR:=@List.mapM_cons
def qS:=@List.flatten_cons
def qL:=@Nat.lt_trichotomy
def qM:=@Nat.div_div_eq_div_mul
def qN:=@Int.lt_trichotomy
def rQ:=@List.forall_mem_append
def rZ:=@List.getElem?_dropLast
def rX:=@List.foldl_append
def rJ:=@List.eq_nil_or_concat
def rK:=@List.concat_eq_append
def rV:=@Nat.le_div_iff_mul_le
def rW:=@Int.natCast_ediv
def rY:=@Rat.not_le
def rU:=@Rat.not_lt
def rT:=@Nat.le_of_not_lt
def rR:=@List.all_cons
def rS:=@Rat.mkRat_one
def rL:=@Nat.dvd_trans
def rM:=@Bool.or_eq_false_iff
def rN:=@Int.mul_neg
def sQ:=@Rat.neg_den
def sZ:=@Nat.pow_lt_pow_right
def sX:=@Int.mul_eq_zero
def sJ:=@List.range_succ
def sV:=@List.replicate_succ
def sW:=@List.drop_set_of_lt
def sY:=@List.drop_succ_cons
def sU:=@List.getD_cons_zero
def sT:=@Int.sign_trichotomy
def sS:=@Nat.mul_zero
def sL:=@Nat.lt_trans
def sM:=@Nat.pow_zero
def sN:=@List.map_map
def tQ:=@List.take_zero
def tZ:=@Rat.mkRat_self
def tX:=@Nat.pow_mul
def tJ:=@Nat.gcd_rec
def tK:=@Nat.div_one
def tV:=@Rat.div_def
abbrev Gh:=Nat->Option (List Value)
variable {G G':Gh}
def bA(G G':Gh):Prop:= ∀b cs,G b=some cs->G' b=some cs
def bA.refl(G:Gh):bA G G:=fun _ _ h=>h
def bA.trans{a b c:Gh}(h:bA a b)(k:bA b c):bA a c:=fun _ _ x=>k _ _ (h _ _ x)
structure av where
 b:Nat
 cs:List Value
 ty:TypeId
 lo:Bool
variable {own' M rest:List av}
structure aD where
 w0:World
 G0:Gh
 mb:List Nat
 /-- other objects that stay: records of loops, marks -/
 ex:List (Nat×Obj)
 /-- the marks among the deferred calls; the round -/
 mks:List Deferred
 rd:Option Nat
 /-- where names that are fixed lie -/
 fx:Nat->Option Addr
variable {C:aD}
structure bu (C:aD) (own:List av) (G:Gh) (w:World):Prop where
 os:w.os=C.w0.os
 tape:w.tape=C.w0.tape
 output:w.output=C.w0.output
 size:C.w0.heap.size<=w.heap.size
 keep: ∀b,b<C.w0.heap.size->b∉C.mb->w.heap[b]? =C.w0.heap[b]?
 sub: ∀b cs,G b=some cs-> ∃ty fz,w.heap[b]? =some (.cells ⟨cs⟩ ty fz)
 gle:bA C.G0 G
 gold: ∀b,b<C.w0.heap.size->G b=C.G0 b
 hown: ∀o∈own,w.heap[o.b]? =some (.cells ⟨o.cs⟩ o.ty (0,0))/\G o.b=none/\(o.lo=true->C.w0.heap.size<=o.b)/\(o.lo=false->o.b∈C.mb)
 nd:own.Pairwise (fun x y=>x.b≠y.b)
 dr:C.w0.drawn<=w.drawn
 ext: ∀p∈C.ex,(∀cs ty z,p.2≠ .cells cs ty z)/\w.heap[p.1]? =some p.2
abbrev Fr:=List (Nat×Value)
def iq:Fr->Nat->Option Value
 |[],_=>none
 |(k,v)::t,j=>bif Nat.beq k j then some v else iq t j
def put(fr:Fr)(dst:Option Nat)(v:Value):Fr:=match dst with|some d=>(d,v)::fr|none=>fr
def kh(fr:Fr)(a:Act):Prop:= ∀k v,iq fr k=some v->a.tmps[k]? =some v
structure gh (C:aD) (n:Nat) (fr:Fr) (own:List av) (G:Gh) (a:Act) (w:World):Prop where
 h:bu C own G w
 sz:a.tmps.size=n
 fr:kh fr a
 df:a.defers=C.mks
def St(C:aD)(n:Nat)(fr:Fr)(own:List av)(G:Gh)(Φ:Act->World->Prop):Prop:=
 ∀a w,gh C n fr own G a w->Φ a w
def aB(fr:Fr):Operand->Option Value
 | .tmp k=>iq fr k
 | .const v=>some v
 | .global g=>some (.pointer (some ⟨g,0,none⟩))
 | .func f=>some (.func (.func f) #[] #[])
def bg{fr:Fr}(h:kh fr a)(hx:aB fr x=some v):a.eval x=v:=by
 cases x with
 |tmp k=>
  have:=h k v hx;simp only[Act.eval,bT,this,jZ]
 |const u=>simpa[aB,Act.eval] using hx
 |global g=>simpa[aB,Act.eval] using hx
 |func f=>simpa[aB,Act.eval] using hx
def tF(k:Nat)(v:Value)(t:Fr)(j:Nat):iq ((k,v)::t) j=if k=j then some v else iq t j:=by
 simp only[iq];by_cases h:k=j
 .simp[h]
 .have:Nat.beq k j=false:=by
   cases hb:Nat.beq k j with
   |false=>rfl
   |true=>exact absurd (aR hb) h
  simp[this,h]
def bP(n:Nat):Option Nat->Bool
 |some d=>Nat.blt d n
 |none=>true
def kh.put{fr:Fr}{a:Act}{n:Nat}(h:kh fr a)(hs:a.tmps.size=n){dst:Option Nat}{v:Value}(hd:bP n dst=true):kh (Sx.put fr dst v) (a.put dst v):=by
 cases dst with
 |none=>exact h
 |some d=>
  intro k u hk;have hdn:d<n:=by simpa[bP,jN] using hd
  simp only[Sx.put,tF] at hk;simp only[Act.put,dV];by_cases hkd:d=k
  .simp only[hkd,if_true] at hk
   subst hkd;simp[hs,hdn,hk]
  .simp only[hkd,if_false] at hk
   simp only[hkd,if_false];exact h k u hk
def OE(a:Act)(dst:Option Nat)(v:Value):(a.put dst v).tmps.size=a.tmps.size:=by cases dst<;>simp[Act.put]
def Ox(a:Act)(dst:Option Nat)(v:Value):(a.put dst v).defers=a.defers:=by cases dst<;>simp[Act.put]
def gh.put{C n fr own G a w}(r:gh C n fr own G a w){dst:Option Nat}(v:Value)(hd:bP n dst=true):gh C n (Sx.put fr dst v) own G (a.put dst v) w:=
 ⟨r.h,by rw[OE];exact r.sz,r.fr.put r.sz hd,by rw[Ox];exact r.df⟩
def gh.heap{C n fr own G own' G' a w w'}(r:gh C n fr own G a w)(h:bu C own' G' w'):gh C n fr own' G' a w':=⟨h,r.sz,r.fr,r.df⟩
def de(P:Program)(ops:Array Oper)(Q:Exit->Act->World->Prop):List Oper->Act->World->Prop
 |[],a,w=>Q .normal a w
 |o::r,a,w=>if Region.wanted o (yielded ops a.tmps) then o.wp P a w (de P ops Q r) Q else de P ops Q r (a.put o.dst undef) w
theorem ozo{p:Prop}(h:p:=by simpa using hk):p:=h
def T5: ∀(l:List Nat) (k:Nat) (a:Act) (w:World),l=(List.range ops.size).drop k->de P ops Q (ops.toList.drop k) a w->wpOps P ops Q l a w:=by
 intro l
 induction l with
 |nil=>
  intro k a w hl h;have hk:ops.size<=k:=by
   have:=congrArg List.length hl;simp at this;omega
  rw[jL ozo] at h;exact h
 |cons i t ih=>
  intro k a w hl h;have hk:k<ops.size:=by
   have:=congrArg List.length hl;simp at this;omega
  rw[bW ozo] at hl;obtain⟨hi,ht⟩:=List.cons.inj hl;simp only[List.getElem_range] at hi;subst hi;rw[bW ozo] at h;have ho:ops[i]? =some ops[i]:=fL hk;simp only[wpOps,ho];simp only[de,Array.getElem_toList] at h;split
  .rename_i hw
   simp only[hw,if_true] at h;exact .inl (Oper.wp_mono (fun a w h=>ih (i+1) a w ht h) h)
  .rename_i hw
   simp only[hw] at h;exact ih (i+1) _ w ht h
theorem omu{p:Prop}(h:p:=by simpa using h):p:=h
def Zj{id:Nat}
  (h:de P ops Q ops.toList a w):(Code.region id ops false).wp P Q a w:=
 wp_region (T5 _ 0 a w v8 omu)
def Yd(P:Program)(C:aD)(fr:Fr)(own:List av)(G:Gh)(o:Oper)(v:Value):Prop:=
 ∀a w,kh fr a->bu C own G w->(execOp a.eval o).run P w= .ok (.value v) w
section
variable {fr:Fr}{own:List av}
def qB(hy:Yd P C fr own G o v)(hg:o.guard=none)(hd:bP n o.dst=true)
  (h:St C n (put fr o.dst v) own G (de P ops Q r)):St C n fr own G (de P ops Q (o::r)):=by
 intro a w rl;simp only[de,Region.wanted,hg,if_true,Oper.wp,hy a w rl.fr rl.h,Oper.upon];exact h _ _ (rl.put v hd)
def Fc{b:Bool}(hf:kh fr a)(hj:(ops[j]?).bind (·.dst)=some d)(hl:iq fr d=some (.bool b)):yielded ops a.tmps j=some b:=by
 unfold yielded;rw[hj];simp[hf d _ hl]
def Q3{b:Bool}(hg:o.guard=some (j,b))(hj:(ops[j]?).bind (·.dst)=some d)(hl:iq fr d=some (.bool b))
  (hy:Yd P C fr own G o v)(hd:bP n o.dst=true)
  (h:St C n (put fr o.dst v) own G (de P ops Q r)):St C n fr own G (de P ops Q (o::r)):=by
 intro a w rl;have:Region.wanted o (yielded ops a.tmps)=true:=by simp[Region.wanted,hg,Fc rl.fr hj hl]
 simp only[de,this,if_true,Oper.wp,hy a w rl.fr rl.h,Oper.upon];exact h _ _ (rl.put v hd)
def Vp{b c:Bool}(hg:o.guard=some (j,b))(hj:(ops[j]?).bind (·.dst)=some d)(hl:iq fr d=some (.bool c))(hbc:(c==b)=false)
  (hd:bP n o.dst=true)(h:St C n (put fr o.dst undef) own G (de P ops Q r)):St C n fr own G (de P ops Q (o::r)):=by
 intro a w rl;have:Region.wanted o (yielded ops a.tmps)=false:=by simp[Region.wanted,hg,Fc rl.fr hj hl,hbc]
 simp only[de,this];exact h _ _ (rl.put undef hd)
def zE(h:St C n fr own G (Q .normal)):St C n fr own G (de P ops Q []):=h
def TF{id:Nat}(h:St C n fr own G (de P ops Q ops.toList)):St C n fr own G ((Code.region id ops false).wp P Q):=
 fun a w rl=>Zj (h a w rl)
def kg{x:Code}(h:St C n fr own G (x.wp P (Exit.then (y.wp P Q) Q))):St C n fr own G ((Code.seq x y).wp P Q):=
 fun a w rl=>wp_seq (h a w rl)
def zK(h:St C n fr own G (Q .normal)):St C n fr own G (Code.skip.wp P Q):=fun a w rl=>wp_skip (h a w rl)
def s8(h:St C n fr own G (Q .ret)):St C n fr own G (Code.ret.wp P Q):=fun a w rl=>wp_ret (h a w rl)
def Gx{id:Nat}{c:Code}(h:St C n fr own G (c.wp P (Exit.inBlock id Q))):St C n fr own G ((Code.block id c).wp P Q):=
 fun a w rl=>wp_block (h a w rl)
def Fw{x:Code}(hc:aB fr c=some (.bool true))(h:St C n fr own G (x.wp P Q)):St C n fr own G ((Code.cond c x y).wp P Q):=
 fun a w rl=>wp_cond_true (bg rl.fr hc) (h a w rl)
def Ej{x:Code}(hc:aB fr c=some (.bool false))(h:St C n fr own G (y.wp P Q)):St C n fr own G ((Code.cond c x y).wp P Q):=
 fun a w rl=>wp_cond_false (bg rl.fr hc) (h a w rl)
def yg{p:Prop}{inst:Decidable p}{x:Code}(hc:aB fr c=some (.bool (@decide p inst)))(h1:p->St C n fr own G (x.wp P Q))(h2: ¬p->St C n fr own G (y.wp P Q)):
  St C n fr own G ((Code.cond c x y).wp P Q):=
 fun a w rl=>wp_cond_split (bg rl.fr hc) (fun h=>h1 (of_decide_eq_true h) a w rl) (fun h=>h2 (of_decide_eq_false h) a w rl)
def ZZ{b:Bool}{x:Code}(hc:aB fr c=some (.bool b))(h1:b=true->St C n fr own G (x.wp P Q))(h2:b=false->St C n fr own G (y.wp P Q)):
  St C n fr own G ((Code.cond c x y).wp P Q):=
 fun a w rl=>wp_cond_split (bg rl.fr hc) (fun h=>h1 h a w rl) (fun h=>h2 h a w rl)
def QJ(d:Nat){b:Bool}(hl:iq fr d=some (.bool b))(h1:b=true->St C n ((d, .bool true)::fr) own G Φ)(h2:b=false->St C n ((d, .bool false)::fr) own G Φ):St C n fr own G Φ:=by
 intro a w rl
 cases b with
 |true=>exact h1 J a w ⟨rl.h,rl.sz,fun k v hk=>by
   rw[tF] at hk;split at hk
   .subst_vars;cases hk;exact rl.fr _ _ hl
   .exact rl.fr _ _ hk,rl.df⟩
 |false=>exact h2 J a w ⟨rl.h,rl.sz,fun k v hk=>by
   rw[tF] at hk;split at hk
   .subst_vars;cases hk;exact rl.fr _ _ hl
   .exact rl.fr _ _ hk,rl.df⟩
def FU(d:Nat){p:Prop}{inst:Decidable p}(hl:iq fr d=some (.bool (@decide p inst)))(h1:p->St C n ((d, .bool true)::fr) own G Φ)(h2: ¬p->St C n ((d, .bool false)::fr) own G Φ):St C n fr own G Φ:=
 QJ d hl (fun h=>h1 (of_decide_eq_true h)) (fun h=>h2 (of_decide_eq_false h))
end
class gA (own:List av) (b:Nat) (cs:outParam (List Value)) (ty:outParam TypeId) (lo:outParam Bool):Prop where
 mem:⟨b,cs,ty,lo⟩∈own
instance gA.i1 (b:Nat) (cs:List Value) (ty:TypeId) (lo:Bool) (t:List av):gA (⟨b,cs,ty,lo⟩::t) b cs ty lo:=⟨aZ⟩
instance gA.i2 (o:av) (t:List av) (b:Nat) (cs:List Value) (ty:TypeId) (lo:Bool) [h:gA t b cs ty lo]:gA (o::t) b cs ty lo:=⟨aK _ h.mem⟩
inductive gv:List av->Nat->List Value->TypeId->Bool->List Value->List av->Prop
 |hd (b:Nat) (cs cs':List Value) (ty:TypeId) (lo:Bool) (t:List av):gv (⟨b,cs,ty,lo⟩::t) b cs ty lo cs' (⟨b,cs',ty,lo⟩::t)
 |tl (o:av) (t t':List av) (b:Nat) (cs cs':List Value) (ty:TypeId) (lo:Bool) (h:gv t b cs ty lo cs' t'):gv (o::t) b cs ty lo cs' (o::t')
inductive iC:List av->av->List av->Prop
 |hd (o:av) (t:List av):iC (o::t) o t
 |tl (x:av) (t t':List av) (o:av) (h:iC t o t'):iC (x::t) o (x::t')
class GE (A:outParam Gh) (B:Gh):Prop where le:bA A B
class GL (A B:Gh):Prop where le:bA A B
instance GL.refl (A:Gh):GL A A:=⟨bA.refl A⟩
instance GL.step (A B C:Gh) [h:GE B C] [k:GL A B]:GL A C:=⟨k.le.trans h.le⟩
class GI (G:outParam Gh) (b:Nat) (cs:outParam (List Value)):Prop where h:G b=some cs
def co:List Value->Nat->Nat->Option (List Value)
 |_,0,0=>some []
 |[],0,_+1=>none
 |v::t,0,k+1=>match co t 0 k with|some l=>some (v::l)|none=>none
 |[],_+1,_=>none
 |_::t,off+1,k=>co t off k
def ck:List Value->Nat->List Value->List Value
 |cs,_,[]=>cs
 |cs,off,v::vs=>ck (cs.set off v) (off+1) vs
def pf: ∀(cs:List Value) (off k:Nat) (l:List Value),co cs off k=some l->l.length=k/\ ∀i,i<k->cs[off+i]? =l[i]?
 |cs,0,0,l,h=>by
  cases cs<;>(simp only[co] at h;cases h;exact⟨J,fun i hi=>absurd hi (pN _)⟩)
 |[],0,_+1,l,h=>by simp[co] at h
 |v::t,0,k+1,l,h=>by
  simp only[co] at h;split at h
  .rename_i l' hl'
   cases h
   obtain⟨h1,h2⟩:=pf t 0 k l' hl';refine⟨by simp[h1],fun i hi=>?_⟩
   cases i with
   |zero=>rfl
   |succ i=>
    have:=h2 i pb;simpa using this
  .cases h
 |[],_+1,_,l,h=>by simp[co] at h
 |_::t,off+1,k,l,h=>by
  simp only[co] at h;obtain⟨h1,h2⟩:=pf t off k l h;refine⟨h1,fun i hi=>?_⟩;have:=h2 i hi;rw[<-this,show off+1+i=(off+i)+1 by omega];rfl
class la (P:Program) (t:TypeId) (k:outParam Nat):Prop where
 agg: ∀w,(isAgg t).run P w= .ok true w
 siz: ∀w,(sizeOf t).run P w= .ok k w
class kI (P:Program) (t:TypeId):Prop where
 agg: ∀w,(isAgg t).run P w= .ok false w
 siz: ∀w,(sizeOf t).run P w= .ok 1 w
class iv (P:Program) (t:TypeId) (z:outParam Value):Prop where
 inf:(P.info? t).map (·.zero)=some (some z)
class mo (P:Program) (t:TypeId) (f:Nat) (off:outParam Nat):Prop where
 at_: ∀(b o:Nat) w,(Instr.fieldAt t (.pointer (some ⟨b,o,none⟩)) f).run P w= .ok (.pointer (some (Addr.add ⟨b,o,none⟩ off))) w
class cg (P:Program) (t:TypeId) (e s by_:outParam Nat):Prop where
 un:P.underlying t=some (.slice e)
 inf:(P.info? e).map (fun i=>(i.size,i.bytes))=some (s,by_)
def iv.info{P:Program}{t:TypeId}{z:Value}(h:iv P t z): ∃i,P.info? t=some i/\i.zero=some z:=by
 have:=h.inf
 cases hi:P.info? t with
 |none=>rw[hi] at this;cases this
 |some i=>rw[hi] at this;exact⟨i,J,by simpa using this⟩
def cg.info{P:Program}{t e s by_:Nat}(h:cg P t e s by_): ∃i,P.info? e=some i/\i.size=s/\i.bytes=by_:=by
 have:=h.inf
 cases hi:P.info? e with
 |none=>rw[hi] at this;cases this
 |some i=>rw[hi] at this;simp at this;exact⟨i,J,this.1,this.2⟩
def qb(b o n:Nat):Addr.add ⟨b,o,none⟩ n=⟨b,o+n,none⟩:=by
 unfold Addr.add;split
 .subst_vars;rfl
 .rfl
def Sem.run_bind(P:Program)(x:Sem α)(f:α->Sem β): ∀(w:World),(x>>=f).run P w=match x.run P w with| .ok a w'=>(f a).run P w'| .halt h w'=> .halt h w':=by
 show∀w,(Sem.bind x f).run P w=_
 induction x with
 |pure a=>intro w;rfl
 |load m a k ih=>
  intro w;simp only[Sem.bind,Sem.run];split
  .exact ih _ w
  .split
   .exact ih _ w
   .rfl
 |store m a v k ih=>
  intro w
  cases v<;>simp only[Sem.bind,Sem.run]<;>(try rfl)<;>(split<;>first|(split<;>first|rfl|exact ih _)|rfl)
 |new o k ih=>intro w;exact ih _ _
 |shape r k ih=>intro w;exact ih _ _
 |freeze a n k ih=>intro w;exact ih _
 |frozen a k ih=>intro w;exact ih _ _
 |getObj r k ih=>
  intro w;simp only[Sem.bind,Sem.run];split
  .rfl
  .exact ih _ w
  .rfl
 |setObj r o k ih=>
  intro w;simp only[Sem.bind,Sem.run];split
  .rfl
  .exact ih _
  .rfl
 |choose q k ih=>
  intro w;simp only[Sem.bind,Sem.run];split
  .exact ih _ _
  .exact ih _ _
 |sys c k ih=>intro w;exact ih _ _
 |program k ih=>intro w;exact ih _ _
 |mark m k ih=>intro w;exact ih _
 |halt h=>intro w;rfl
def run_pure(P:Program)(a:α)(w:World):(pure a:Sem α).run P w= .ok a w:=rfl
def aP{x:Sem α}{f:α->Sem β}{a:α}(h:x.run P w= .ok a w'):(x>>=f).run P w=(f a).run P w':=by
 rw[Sem.run_bind,h]
def iv.zero{z:Value}(h:iv P t z)(w:World):(zeroValue t).run P w= .ok z w:=by
 obtain⟨i,h1,h2⟩:=h.info;simp[zeroValue,typeInfo,program,Sem.run_bind,Sem.run,h1,h2,run_pure]
def cg.u{t:Nat}(h:cg P t e s by_)(w:World):(underlying t).run P w= .ok (.slice e) w:=by
 simp[underlying,program,Sem.run_bind,Sem.run,h.un,run_pure]
def cg.siz{t:Nat}(h:cg P t e s by_)(w:World):(sizeOf e).run P w= .ok s w:=by
 obtain⟨i,h1,h2,_⟩:=h.info;simp[sizeOf,typeInfo,program,Sem.run_bind,Sem.run,h1,h2,run_pure]
section
variable {fr:Fr}{own:List av}
def AA{b:Nat}{cs:List Value}{ty:TypeId}{fz:Nat×Nat}(h:w.heap[b]? =some (.cells ⟨cs⟩ ty fz))(i:Nat):w.cell? ⟨b,i,none⟩=cs[i]? :=by
 simp[World.cell?,h]
def Id{a:Addr}(h:w.cell? a=some v):(load a).run P w= .ok v w:=by
 simp[load,Sem.run,h]
def Dv{w:World}{b off:Nat}{l:List Value}: ∀(m i:Nat) (acc:Array Value),(∀j,j<m->w.cell? ⟨b,off+(i+j),none⟩=l[i+j]?)->i+m<=l.length->
  (loadCellsFrom ⟨b,off,none⟩ i m acc).run P w= .ok (acc++((l.drop i).take m).toArray) w
 |0,i,acc,_,_=>by simp[loadCellsFrom,run_pure]
 |m+1,i,acc,h,hl=>by
  have h0:=h 0 pb;rw[gW,aQ pb] at h0;unfold loadCellsFrom;rw[aP (a:=l[i]) (w':=w) (by rw[qb];exact Id h0)];rw[Dv m (i+1) (acc.push l[i]) (fun j hj=>by have:=h (j+1) pb;rw[show i+1+j=i+(j+1) by omega];exact this) pb];congr 1;rw[bW (by omega:i<l.length),nY];apply Array.ext';simp
def F6{b k:Nat}{cs:List Value}[ht:la P t k]{ty:TypeId}{fz:Nat×Nat}(h:w.heap[b]? =some (.cells ⟨cs⟩ ty fz))(hl:co cs off k=some l):
  (loadVar t ⟨b,off,none⟩).run P w= .ok (.agg ⟨l⟩) w:=by
 obtain⟨h1,h2⟩:=pf _ _ _ _ hl;unfold loadVar;rw[aP (ht.agg w)];simp only[if_true];rw[aP (ht.siz w)];unfold loadCells;rw[aP (Dv (l:=l) k 0 #[] (fun j hj=>by rw[AA h];simpa using h2 j hj) pb)];simp[run_pure,<-h1]
def HE{b:Nat}{cs:List Value}[ht:kI P t]{ty:TypeId}{fz:Nat×Nat}(h:w.heap[b]? =some (.cells ⟨cs⟩ ty fz))(hl:cs[off]? =some v):
  (loadVar t ⟨b,off,none⟩).run P w= .ok v w:=by
 unfold loadVar;rw[aP (ht.agg w)];simp only[iL,if_false];exact Id (by rw[AA h];exact hl)
def cA{f:α->Next}{s:Sem α}{a:α}(h:s.run P w= .ok a w'):(do pure (f (<-s)):Sem Next).run P w= .ok (f a) w':=by
 rw[aP h];rfl
def CV{gd:Option (Nat×Bool)}{b k:Nat}{cs:List Value}{lo:Bool}{ty:TypeId}
  (hx:aB fr x=some (.pointer (some ⟨b,off,none⟩)))[ho:gA own b cs ty lo][la P t k](hl:co cs off k=some l):
  Yd P C fr own G ⟨dst, .load t x,ty',pos,af,gd⟩ (.agg ⟨l⟩):=by
 intro a w hf hh;simp only[execOp,bg hf hx,Instr.loadAt,Instr.sureAddr];exact cA (F6 (hh.hown _ ho.mem).1 hl)
def rh{gd:Option (Nat×Bool)}{b:Nat}{cs:List Value}{lo:Bool}{ty:TypeId}
  (hx:aB fr x=some (.pointer (some ⟨b,off,none⟩)))[ho:gA own b cs ty lo][kI P t](hl:cs[off]? =some v):
  Yd P C fr own G ⟨dst, .load t x,ty',pos,af,gd⟩ v:=by
 intro a w hf hh;simp only[execOp,bg hf hx,Instr.loadAt,Instr.sureAddr];exact cA (HE (hh.hown _ ho.mem).1 hl)
def Jb{gd:Option (Nat×Bool)}{b k:Nat}{cs:List Value}
  (hx:aB fr x=some (.pointer (some ⟨b,off,none⟩)))(hg:G b=some cs)[la P t k](hl:co cs off k=some l):
  Yd P C fr own G ⟨dst, .load t x,ty',pos,af,gd⟩ (.agg ⟨l⟩):=by
 intro a w hf hh;obtain⟨ty,fz,hb⟩:=hh.sub _ _ hg;simp only[execOp,bg hf hx,Instr.loadAt,Instr.sureAddr];exact cA (F6 hb hl)
def Pd{gd:Option (Nat×Bool)}{b:Nat}{cs:List Value}
  (hx:aB fr x=some (.pointer (some ⟨b,off,none⟩)))(hg:G b=some cs)[kI P t](hl:cs[off]? =some v):
  Yd P C fr own G ⟨dst, .load t x,ty',pos,af,gd⟩ v:=by
 intro a w hf hh;obtain⟨ty,fz,hb⟩:=hh.sub _ _ hg;simp only[execOp,bg hf hx,Instr.loadAt,Instr.sureAddr];exact cA (HE hb hl)
variable {gd:Option (Nat×Bool)}{y:Operand}
def pA(hx:aB fr x=some v):Yd P C fr own G ⟨dst, .move x,ty',pos,af,gd⟩ v:=by
 intro a w hf hh;simp only[execOp,bg hf hx];rfl
def Hp(hx:aB fr x=some v):Yd P C fr own G ⟨dst, .assign x,ty',pos,af,gd⟩ v:=by
 intro a w hf hh;simp only[execOp,bg hf hx];rfl
def IZ(hc:aB fr z=some (.bool true))(hx:aB fr x=some v):Yd P C fr own G ⟨dst, .pick z x y,ty',pos,af,gd⟩ v:=by
 intro a w hf hh;simp only[execOp,bg hf hc,bg hf hx,asBool];rfl
def vy(hc:aB fr z=some (.bool false))(hx:aB fr y=some v):Yd P C fr own G ⟨dst, .pick z x y,ty',pos,af,gd⟩ v:=by
 intro a w hf hh;simp only[execOp,bg hf hc,bg hf hx,asBool];rfl
def qD{ad:Addr}(hx:aB fr x=some (.pointer (some ad))):Yd P C fr own G ⟨dst, .nilCheck x,ty',pos,af,gd⟩ (.pointer (some ad)):=by
 intro a w hf hh;simp only[execOp,bg hf hx];rfl
def qC{b o:Nat}[hF:mo P t f off](hx:aB fr x=some (.pointer (some ⟨b,o,none⟩))):
  Yd P C fr own G ⟨dst, .fieldAddr t x f,ty',pos,af,gd⟩ (.pointer (some ⟨b,o+off,none⟩)):=by
 intro a w hf hh;simp only[execOp,bg hf hx];have:=hF.at_ b o w;rw[qb] at this;exact cA this
def Dl{vs:Array Value}(hx:aB fr x=some (.tuple vs))(hv:vs[i]? =some v):Yd P C fr own G ⟨dst, .extract x i,ty',pos,af,gd⟩ v:=by
 intro a w hf hh;simp only[execOp,bg hf hx,Instr.extract,hv];rfl
def Xm{fn:Fn}{c1 c2:Array Operand}(h1:c1.toList.mapM (aB fr)=some l1)(h2:c2.toList.mapM (aB fr)=some l2):
  Yd P C fr own G ⟨dst, .makeFunc fn c1 c2,ty',pos,af,gd⟩ (.func fn ⟨l1⟩ ⟨l2⟩):=by
 intro a w hf hh;have key: ∀(l:List Operand) (m:List Value),l.mapM (aB fr)=some m->l.map a.eval=m:=by
  intro l
  induction l with
  |nil=>intro m h;simp at h;subst h;rfl
  |cons o t ih=>
   intro m h;rw[qR] at h
   cases ho:aB fr o with
   |none=>simp[ho] at h
   |some u=>
    cases ht:t.mapM (aB fr) with
    |none=>simp[ho,ht] at h
    |some m'=>
     simp[ho,ht] at h;subst h;simp[bg hf ho,ih _ ht]
 have e1:c1.map a.eval=⟨l1⟩:=by apply Array.ext';simpa using key _ _ h1
 have e2:c2.map a.eval=⟨l2⟩:=by apply Array.ext';simpa using key _ _ h2
 simp only[execOp,e1,e2];rfl
def jC{op:BinOp}(hx:aB fr x=some (.int k p))(hy:aB fr y=some (.int k q))(hs: ∀w,(binOp op t (.int k p) (.int k q)).run P w= .ok v w):
  Yd P C fr own G ⟨dst, .binOp op t x y t',ty',pos,af,gd⟩ v:=by
 intro a w hf hh;simp only[execOp,bg hf hx,bg hf hy];have:(eqGuard op t x y (.int k p) (.int k q)).run P w= .ok () w:=by cases op<;>rfl
 exact cA (by rw[aP this];exact hs w)
def Rf(k:IntKind)(p q:Int)(w:World):(binOp .add t (.int k p) (.int k q)).run P w= .ok (.int k (k.wrap (p+q))) w:=by simp[binOp,Op.intArith,run_pure]
def N'(k:IntKind)(p q:Int)(w:World):(binOp .sub t (.int k p) (.int k q)).run P w= .ok (.int k (k.wrap (p-q))) w:=by simp[binOp,Op.intArith,run_pure]
def Ri(k:IntKind)(p q:Int)(w:World):(binOp .mul t (.int k p) (.int k q)).run P w= .ok (.int k (k.wrap (p*q))) w:=by simp[binOp,Op.intArith,run_pure]
def Th(k:IntKind)(p q:Int)(w:World)(h:q≠0):(binOp .quo t (.int k p) (.int k q)).run P w= .ok (.int k (k.wrap (p.tdiv q))) w:=by simp[binOp,Op.intDiv,run_pure,h]
def Wn(k:IntKind)(p q:Int)(w:World)(h:q≠0):(binOp .rem t (.int k p) (.int k q)).run P w= .ok (.int k (p.tmod q)) w:=by simp[binOp,Op.intDiv,run_pure,h]
def Zf(k:IntKind)(p q:Int)(w:World):(binOp .lss t (.int k p) (.int k q)).run P w= .ok (.bool (decide (p<q))) w:=by simp[binOp,Op.intCmp,run_pure]
def Ta(k:IntKind)(p q:Int)(w:World):(binOp .leq t (.int k p) (.int k q)).run P w= .ok (.bool (decide (p<=q))) w:=by simp[binOp,Op.intCmp,run_pure]
def P4(k:IntKind)(p q:Int)(w:World):(binOp .gtr t (.int k p) (.int k q)).run P w= .ok (.bool (decide (q<p))) w:=by simp[binOp,Op.intCmp,run_pure]
def Qf(k:IntKind)(p q:Int)(w:World):(binOp .geq t (.int k p) (.int k q)).run P w= .ok (.bool (decide (q<=p))) w:=by simp[binOp,Op.intCmp,run_pure]
def U4(k:IntKind)(p q:Int)(w:World):(binOp .eql t (.int k p) (.int k q)).run P w= .ok (.bool (decide (p=q))) w:=by
 have:(p==q)=decide (p=q):=by rw[Bool.eq_iff_iff];simp
 simp[binOp,Op.intCmp,run_pure,this]
def Yv(k:IntKind)(p q:Int)(w:World):(binOp .neq t (.int k p) (.int k q)).run P w= .ok (.bool (decide (p≠q))) w:=by
 have:(p !=q)=decide (p≠q):=by rw[Bool.eq_iff_iff];simp
 simp[binOp,Op.intCmp,run_pure,this]
def qr(h:k.min<=p/\p<=k.max):k.wrap p=p:=by
 cases k<;>simp only[IntKind.min,IntKind.max,IntKind.wrap,IntKind.bits,IntKind.signed] at* <;>simp at h⊢ <;>(try split)<;>omega
def ML(hx:aB fr x=some (.int k p))(hy:aB fr y=some (.int k q))(h:k.min<=p+q/\p+q<=k.max):Yd P C fr own G ⟨dst, .binOp .add t x y t',ty',pos,af,gd⟩ (.int k (p+q)):=
 jC hx hy fun w=>by rw[Rf,qr h]
def QQ(hx:aB fr x=some (.int k p))(hy:aB fr y=some (.int k q))(h:k.min<=p-q/\p-q<=k.max):Yd P C fr own G ⟨dst, .binOp .sub t x y t',ty',pos,af,gd⟩ (.int k (p-q)):=
 jC hx hy fun w=>by rw[N',qr h]
def aEP(hx:aB fr x=some (.int k p))(hy:aB fr y=some (.int k q))(h:k.min<=p*q/\p*q<=k.max):Yd P C fr own G ⟨dst, .binOp .mul t x y t',ty',pos,af,gd⟩ (.int k (p*q)):=
 jC hx hy fun w=>by rw[Ri,qr h]
def Vd(hx:aB fr x=some (.int k p))(hy:aB fr y=some (.int k q)):Yd P C fr own G ⟨dst, .binOp .sub t x y t',ty',pos,af,gd⟩ (.int k (k.wrap (p-q))):=jC hx hy fun w=>N' k p q w
def Pe(hx:aB fr x=some (.int k p))(hy:aB fr y=some (.int k q))(h:q≠0):Yd P C fr own G ⟨dst, .binOp .quo t x y t',ty',pos,af,gd⟩ (.int k (k.wrap (p.tdiv q))):=jC hx hy fun w=>Th k p q w h
def Po(hx:aB fr x=some (.int k p))(hy:aB fr y=some (.int k q))(h:q≠0):Yd P C fr own G ⟨dst, .binOp .rem t x y t',ty',pos,af,gd⟩ (.int k (p.tmod q)):=jC hx hy fun w=>Wn k p q w h
def K6(hx:aB fr x=some (.int k p))(hy:aB fr y=some (.int k q)):Yd P C fr own G ⟨dst, .binOp .lss t x y t',ty',pos,af,gd⟩ (.bool (decide (p<q))):=jC hx hy fun w=>Zf k p q w
def Tt(hx:aB fr x=some (.int k p))(hy:aB fr y=some (.int k q)):Yd P C fr own G ⟨dst, .binOp .leq t x y t',ty',pos,af,gd⟩ (.bool (decide (p<=q))):=jC hx hy fun w=>Ta k p q w
def Ef(hx:aB fr x=some (.int k p))(hy:aB fr y=some (.int k q)):Yd P C fr own G ⟨dst, .binOp .gtr t x y t',ty',pos,af,gd⟩ (.bool (decide (q<p))):=jC hx hy fun w=>P4 k p q w
def Pi(hx:aB fr x=some (.int k p))(hy:aB fr y=some (.int k q)):Yd P C fr own G ⟨dst, .binOp .geq t x y t',ty',pos,af,gd⟩ (.bool (decide (q<=p))):=jC hx hy fun w=>Qf k p q w
def py(hx:aB fr x=some (.int k p))(hy:aB fr y=some (.int k q)):Yd P C fr own G ⟨dst, .binOp .eql t x y t',ty',pos,af,gd⟩ (.bool (decide (p=q))):=jC hx hy fun w=>U4 k p q w
def MW(hx:aB fr x=some (.int k p))(hy:aB fr y=some (.int k q)):Yd P C fr own G ⟨dst, .binOp .neq t x y t',ty',pos,af,gd⟩ (.bool (decide (p≠q))):=jC hx hy fun w=>Yv k p q w
def ue[hT:cg P t e s by_](hx:aB fr x=some (.slice ad len cap)):
  Yd P C fr own G ⟨dst, .call ⟨.builtin .len, #[x], #[t]⟩,ty',pos,af,gd⟩ (.int .i64 len):=by
 intro a w hf hh;simp only[execOp,resolve,gN,cZ,kJ,bg hf hx];have h1:(Builtin.len_ #[t] ty' #[.slice ad len cap]).run P w= .ok (.int .i64 len) w:=by
  simp only[Builtin.len_];show(underlying t>>=_).run P w=_;rw[aP (hT.u w)];rfl
 exact cA h1
def Bv[hT:cg P t e s by_]{b:Nat}{i:Int}(hx:aB fr x=some (.slice (some ⟨b,off,none⟩) len cap))(hy:aB fr y=some (.int k i))(h0:0<=i)(h1:i<len):
  Yd P C fr own G ⟨dst, .indexAddr t x y,ty',pos,af,gd⟩ (.pointer (some ⟨b,off+i.toNat*s,none⟩)):=by
 intro a w hf hh;simp only[execOp,bg hf hx,bg hf hy];have:(Instr.indexAt t (.slice (some ⟨b,off,none⟩) len cap) (.int k i)).run P w= .ok (.pointer (some ⟨b,off+i.toNat*s,none⟩)) w:=by
  unfold Instr.indexAt;show(underlying t>>=_).run P w=_;rw[aP (hT.u w)];show(underlying t>>=_).run P w=_;rw[aP (hT.u w)];simp only[h0,h1,and_self,if_true];show(sizeOf e>>=_).run P w=_;rw[aP (hT.siz w),qb];rfl
 exact cA this
def vJ{v:Int}{c:BoundsCode}(w:World)(h0:0<=v)(h1:v<=m):(Instr.sliceBound (.int k v) m c).run P w= .ok v.toNat w:=by
 unfold Instr.sliceBound;simp[asIntOf,h0,h1,run_pure]
def lO(ad:Option Addr)(len cap lo hi mx s:Nat):Value:= .slice (if mx=lo then ad else ad.map (·.add (lo*s))) (hi-lo) (mx-lo)
def yc[hT:cg P t e s by_](w:World){lo hi mx:Option Value}{l h:Nat}(hb: ∀w,(Instr.sliceBounds true len cap lo hi mx).run P w= .ok (l,h,m) w):
  (Instr.sliceAt t (.slice ad len cap) lo hi mx).run P w= .ok (lO ad len cap l h m s) w:=by
 unfold Instr.sliceAt;rw[aP (hT.u w)];show(Instr.slice t (.slice ad len cap) lo hi mx).run P w=_;unfold Instr.slice;rw[aP (hT.u w)];show(Instr.sliceBounds true len cap lo hi mx>>=_).run P w=_;rw[aP (hb w)];show(sizeOf e>>=_).run P w=_;rw[aP (hT.siz w)];rfl
def HL[hT:cg P t e s by_]{h:Int}(hx:aB fr x=some (.slice ad len cap))(hy:aB fr y=some (.int k h))(h0:0<=h:=by omega)(h1:h<=cap:=by omega):
  Yd P C fr own G ⟨dst, .slice t x none (some y) none,ty',pos,af,gd⟩ (.slice ad h.toNat cap):=by
 intro a w hf hh;simp only[execOp,bg hf hx,bg hf hy,qQ,jS];have:=yc (P:=P) (t:=t) (ad:=ad) (len:=len) (cap:=cap) w (lo:=none) (hi:=some (.int k h)) (mx:=none) (l:=0) (h:=h.toNat) (m:=cap) (fun w=>by
  simp[Instr.sliceBounds,vJ w h0 h1,Result.andThen])
 have e2:lO ad len cap 0 h.toNat cap s= .slice ad h.toNat cap:=by
  unfold lO
  cases ad with
  |none=>simp
  |some ad=>simp[Addr.add]
 rw[<-e2];exact cA this
def Hu[hT:cg P t e s by_]{l:Int}(hx:aB fr x=some (.slice ad len cap))(hy:aB fr y=some (.int k l))(h0:0<=l:=by omega)(h1:l<=len:=by omega):
  Yd P C fr own G ⟨dst, .slice t x (some y) none none,ty',pos,af,gd⟩ (lO ad len cap l.toNat len cap s):=by
 intro a w hf hh;simp only[execOp,bg hf hx,bg hf hy,qQ,jS];exact cA (yc (P:=P) (t:=t) (ad:=ad) (len:=len) (cap:=cap) w (lo:=some (.int k l)) (hi:=none) (mx:=none) (fun w=>by
  simp[Instr.sliceBounds,vJ w h0 h1,Result.andThen]))
def R8[hT:cg P t e s by_]{l h:Int}(hx:aB fr x=some (.slice ad len cap))(hy:aB fr y=some (.int k l))(hz:aB fr z=some (.int k' h))(h0:0<=l)(h1:l<=h)(h2:h<=cap):
  Yd P C fr own G ⟨dst, .slice t x (some y) (some z) none,ty',pos,af,gd⟩ (lO ad len cap l.toNat h.toNat cap s):=by
 intro a w hf hh;simp only[execOp,bg hf hx,bg hf hy,bg hf hz,qQ,jS];exact cA (yc (P:=P) (t:=t) (ad:=ad) (len:=len) (cap:=cap) w (lo:=some (.int k l)) (hi:=some (.int k' h)) (mx:=none) (fun w=>by
  have h1':l<=(h.toNat:Int):=by omega
  simp[Instr.sliceBounds,vJ w (Int.le_trans h0 h1) h2,vJ w h0 h1',Result.andThen]))
def Xa[hT:cg P t e s by_]{h m:Int}(hx:aB fr x=some (.slice ad len cap))(hy:aB fr y=some (.int k h))(hz:aB fr z=some (.int k' m))(h0:0<=h)(h1:h<=m)(h2:m<=cap):
  Yd P C fr own G ⟨dst, .slice t x none (some y) (some z),ty',pos,af,gd⟩ (.slice ad h.toNat m.toNat):=by
 intro a w hf hh;simp only[execOp,bg hf hx,bg hf hy,bg hf hz,qQ,jS];have:=yc (P:=P) (t:=t) (ad:=ad) (len:=len) (cap:=cap) w (lo:=none) (hi:=some (.int k h)) (mx:=some (.int k' m)) (l:=0) (h:=h.toNat) (m:=m.toNat) (fun w=>by
  have h1':h<=(m.toNat:Int):=by omega
  simp[Instr.sliceBounds,vJ w (Int.le_trans h0 h1) h2,vJ w h0 h1',Result.andThen])
 have e2:lO ad len cap 0 h.toNat m.toNat s= .slice ad h.toNat m.toNat:=by
  unfold lO
  cases ad with
  |none=>simp
  |some ad=>simp[Addr.add]
 rw[<-e2];exact cA this
class tO (P:Program) (t:TypeId) (k:outParam IntKind):Prop where u: ∀w,(underlying t).run P w= .ok (.int k) w
def CL[hs:tO P t k][hd:tO P t' k'](hx:aB fr x=some (.int k p)):Yd P C fr own G ⟨dst, .convert t t' x,ty',pos,af,gd⟩ (.int k' (k'.wrap p)):=by
 intro a w hf hh;simp only[execOp,bg hf hx];have:(convert t t' (.int k p)).run P w= .ok (.int k' (k'.wrap p)) w:=by
  unfold convert;rw[aP (hs.u w),aP (hd.u w)];rfl
 exact cA this
def XL[hs:tO P t k][hd:tO P t' k'](hx:aB fr x=some (.int k p))(h:k'.min<=p/\p<=k'.max):Yd P C fr own G ⟨dst, .convert t t' x,ty',pos,af,gd⟩ (.int k' p):=by
 have:=CL (P:=P) (C:=C) (own:=own) (G:=G) (dst:=dst) (ty':=ty') (pos:=pos) (af:=af) (gd:=gd) (t:=t) (t':=t') hx;rwa [qr h] at this
def EH{b:Bool}(hx:aB fr x=some (.bool b)):Yd P C fr own G ⟨dst, .unOp .not t x,ty',pos,af,gd⟩ (.bool (!b)):=by
 intro a w hf hh;simp only[execOp,bg hf hx,Op.unary];rfl
def Fl(hx:aB fr x=some (.int k p)):Yd P C fr own G ⟨dst, .unOp .neg t x,ty',pos,af,gd⟩ (.int k (k.wrap (0-p))):=by
 intro a w hf hh;simp only[execOp,bg hf hx,Op.unary,Op.intArith];rfl
end
def gq{b:Nat}{o:Obj}(h:w.heap[b]? =some o):b<w.heap.size:=by
 rcases iY b w.heap.size with h'|h'
 .exact h'
 .simp[oQ h'] at h
def bu.gnone{own:List av}(h:bu C own G w){b:Nat}(hb:w.heap.size<=b):G b=none:=by
 cases hG:G b with
 |none=>rfl
 |some cs=>
  obtain⟨ty,fz,hc⟩:=h.sub b cs hG;have:=gq hc;omega
def bu.alloc{C:aD}{own:List av}{G:Gh}{w:World}(h:bu C own G w)(cs:List Value)(ty:TypeId):
  bu C (⟨w.heap.size,cs,ty,true⟩::own) G (w.alloc (.cells ⟨cs⟩ ty)):=by
 have old: ∀b,b<w.heap.size->(w.alloc (.cells ⟨cs⟩ ty)).heap[b]? =w.heap[b]? :=fun b hb=>RowKit.Below.heap_alloc _ _ _ hb;refine⟨h.os,h.tape,h.output,?_,?_,?_,h.gle,h.gold,?_,?_,h.dr,fun p hp=>⟨(h.ext p hp).1,by rw[old _ (gq (h.ext p hp).2)];exact(h.ext p hp).2⟩⟩
 .have:=h.size;simp;omega
 .intro b hb hm;rw[old b (by have:=h.size;omega)];exact h.keep b hb hm
 .intro b cs' hb
  obtain⟨ty',fz,hc⟩:=h.sub b cs' hb;exact⟨ty',fz,by rw[old b (gq hc)];exact hc⟩
 .intro o ho
  rcases aT.1 ho with rfl|ho
  .refine⟨by show(w.heap.push _)[w.heap.size]? =_;simp,h.gnone (bZ _),fun _=>h.size,fun e=>by cases e⟩
  .obtain⟨h1,h2⟩:=h.hown o ho
   exact⟨by rw[old _ (gq h1)];exact h1,h2⟩
 .refine List.Pairwise.cons ?_ h.nd
  intro o ho;have:=gq (h.hown o ho).1;show w.heap.size≠o.b;omega
def ge(w:World)(b:Nat)(o:Obj):World:={w with heap:=w.heap.setIfInBounds b o}
def BR{l:List av}:l.Pairwise (fun x y=>x.b≠y.b)↔(l.map (·.b)).Pairwise (· ≠ ·):=by rw[List.pairwise_map]
def gv.spec{own:List av}{b:Nat}{cs:List Value}{ty:TypeId}{lo:Bool}(h:gv own b cs ty lo cs' own')(nd:own.Pairwise (fun x y=>x.b≠y.b)):
  ⟨b,cs,ty,lo⟩∈own/\(∀o,o∈own'->o=⟨b,cs',ty,lo⟩\/(o∈own/\o.b≠b))/\own'.map (·.b)=own.map (·.b):=by
 induction h with
 |hd b cs cs' ty lo t=>
  refine⟨aZ,fun o ho=>?_,J⟩;rcases aT.1 ho with rfl|h
  .exact .inl J
  .exact .inr ⟨aK _ h,Ne.symm ((bN.1 nd).1 _ h)⟩
 |tl o t t' b cs cs' ty lo h ih=>
  obtain⟨h1,h2,h3⟩:=ih (bN.1 nd).2;refine⟨aK _ h1,fun x hx=>?_,by simp[h3]⟩;rcases aT.1 hx with rfl|hx
  .exact .inr ⟨aZ,(bN.1 nd).1 _ h1⟩
  .exact(h2 x hx).imp id (fun k=>⟨aK _ k.1,k.2⟩)
def Ca{b k:Nat}{o:Obj}(hk:k≠b):(ge w b o).heap[k]? =w.heap[k]? :=by
 simp only[ge];rw[dV];simp[Ne.symm hk]
def MK{b:Nat}{o:Obj}(hb:b<w.heap.size):(ge w b o).heap[b]? =some o:=by
 simp only[ge];rw[dV];simp[hb]
def bu.extNe{own:List av}(h:bu C own G w){p:Nat×Obj}(hp:p∈C.ex){b:Nat}{cs:Array Value}{ty:TypeId}{z:Nat×Nat}(hb:w.heap[b]? =some (.cells cs ty z)):p.1≠b:=fun e=>by
 obtain⟨h1,h2⟩:=h.ext p hp;rw[e,hb] at h2;exact h1 _ _ _ (Option.some.inj h2).symm
def bu.extM(h:bu C (M++rest) G w){p:Nat×Obj}(hp:p∈C.ex):p.1∉M.map (·.b):=fun hm=>by
 obtain⟨m,hm,e⟩:=aN.1 hm;exact h.extNe hp (h.hown m (bS _ hm)).1 e.symm
def bu.store{own:List av}{b:Nat}{cs:List Value}{ty:TypeId}{lo:Bool}(h:bu C own G w)(hu:gv own b cs ty lo cs' own'):
  bu C own' G (ge w b (.cells ⟨cs'⟩ ty (0,0))):=by
 obtain⟨h1,h2,h3⟩:=hu.spec h.nd;obtain⟨hb,hGb,hlo1,hlo2⟩:=h.hown _ h1;have hlt:=gq hb;refine⟨h.os,h.tape,h.output,by simpa[ge] using h.size,?_,?_,h.gle,h.gold,?_,BR.2 (h3▸BR.1 h.nd),h.dr,fun p hp=>⟨(h.ext p hp).1,by rw[Ca (h.extNe hp hb)];exact(h.ext p hp).2⟩⟩
 .intro k hk hm
  by_cases hkb:k=b
  .subst hkb
   cases hlo:lo with
   |true=>have h5:=hlo1 hlo;simp only[] at h5;omega
   |false=>exact absurd (hlo2 hlo) hm
  .rw[Ca hkb];exact h.keep k hk hm
 .intro k cs1 hk
  obtain⟨ty',fz,hc⟩:=h.sub k cs1 hk;have:k≠b:=fun e=>by subst e;rw[show G k=none from hGb] at hk;cases hk
  exact⟨ty',fz,by rw[Ca this];exact hc⟩
 .intro o ho
  rcases h2 o ho with rfl|⟨ho',hne⟩
  .exact⟨MK hlt,hGb,hlo1,hlo2⟩
  .obtain⟨k1,k2⟩:=h.hown o ho'
   exact⟨by rw[Ca hne];exact k1,k2⟩
def iC.spec{own:List av}{o:av}(h:iC own o own')(nd:own.Pairwise (fun x y=>x.b≠y.b)):
  o∈own/\(∀x,x∈own'->x∈own/\x.b≠o.b)/\own'.Pairwise (fun x y=>x.b≠y.b):=by
 induction h with
 |hd o t=>exact⟨aZ,fun x hx=>⟨aK _ hx,Ne.symm ((bN.1 nd).1 _ hx)⟩,(bN.1 nd).2⟩
 |tl y t t' o h ih=>
  obtain⟨h1,h2,h3⟩:=ih (bN.1 nd).2;refine⟨aK _ h1,fun x hx=>?_,List.Pairwise.cons (fun x hx=>(bN.1 nd).1 _ (h2 x hx).1) h3⟩;rcases aT.1 hx with rfl|hx
  .exact⟨aZ,(bN.1 nd).1 _ h1⟩
  .exact⟨aK _ (h2 x hx).1,(h2 x hx).2⟩
def bu.freeze{own:List av}{b:Nat}{cs:List Value}{ty:TypeId}(h:bu C own G w)(hr:iC own ⟨b,cs,ty,true⟩ own'):
  bu C own' (fun k=>if k=b then some cs else G k) w/\bA G (fun k=>if k=b then some cs else G k):=by
 obtain⟨h1,h2,h3⟩:=hr.spec h.nd;obtain⟨hb,hGb,hlo,_⟩:=h.hown _ h1;have hle:bA G (fun k=>if k=b then some cs else G k):=fun k c hk=>by
  have:k≠b:=fun e=>by subst e;rw[show G k=none from hGb] at hk;cases hk
  simp[this,hk]
 refine⟨⟨h.os,h.tape,h.output,h.size,h.keep,?_,h.gle.trans hle,?_,?_,h3,h.dr,h.ext⟩,hle⟩
 .intro k c hk
  by_cases e:k=b
  .subst e;simp only[if_true] at hk;cases hk;exact⟨ty,(0,0),hb⟩
  .simp only[e,if_false] at hk;exact h.sub k c hk
 .intro k hk
  have h5:C.w0.heap.size<=b:=hlo J;have:k≠b:=by omega
  simp only[this,if_false];exact h.gold k hk
 .intro o ho
  obtain⟨k1,k2⟩:=h2 o ho;obtain⟨m1,m2,m3⟩:=h.hown o k1;exact⟨m1,by rw[if_neg k2];exact m2,m3⟩
def bu.drop{own:List av}(h:bu C own G w)(hs:own'.Sublist own):bu C own' G w:=
 ⟨h.os,h.tape,h.output,h.size,h.keep,h.sub,h.gle,h.gold,fun o ho=>h.hown o (hs.subset ho),h.nd.sublist hs,h.dr,h.ext⟩
def bu.perm{own:List av}(h:bu C own G w)(hs:own.Perm own'):bu C own' G w:=
 ⟨h.os,h.tape,h.output,h.size,h.keep,h.sub,h.gle,h.gold,fun o ho=>h.hown o (hs.mem_iff.2 ho),(hs.pairwise_iff (fun h=>Ne.symm h)).1 h.nd,h.dr,h.ext⟩
def bu.drew{own:List av}(h:bu C own G w):bu C own G {w with drawn:=w.drawn+1}:=
 ⟨h.os,h.tape,h.output,h.size,h.keep,h.sub,h.gle,h.gold,h.hown,h.nd,Nat.le_succ_of_le h.dr,h.ext⟩
def qm(P:Program)(f:FuncId):Prop:= ∃fn,P.funcs[f]? =some fn/\(fn.name== "runtime.NumGoroutine")=false/\fn.body.isNone=false
def jz(M:List av)(css:List (List Value)):List av:=(M.zip css).map fun p=>{p.1 with cs:=p.2}
def asB(M:List av):List av:=M.map fun o=>{o with lo:=false}
structure Fn (P:Program) (f:FuncId) (vs:List Value) (G:Gh) (K:Value->Gh->Prop):Prop where
 able:qm P f
 run: ∀w,(∀b cs,G b=some cs-> ∃ty fz,w.heap[b]? =some (.cells ⟨cs⟩ ty fz))->
  Calls P f ⟨vs⟩ w fun e w'=> ∃v G',e= .returned v/\bu ⟨w,G,[],[],[],none,fun _=>none⟩ [] G' w'/\K v G'
structure kl (P:Program) (f:FuncId) (vs:List Value) (M:List av) (G:Gh) (K:Value->List (List Value)->Gh->Prop):Prop where
 able:qm P f
 run: ∀w,bu ⟨w,G,M.map (·.b),[],[],none,fun _=>none⟩ (asB M) G w->
  Calls P f ⟨vs⟩ w fun e w'=> ∃v css G',e= .returned v/\css.length=M.length/\bu ⟨w,G,M.map (·.b),[],[],none,fun _=>none⟩ (jz (asB M) css) G' w'/\K v css G'
def Fn.mono{P:Program}{f:FuncId}{vs:List Value}{G:Gh}{K K':Value->Gh->Prop}(h:Fn P f vs G K)(hk: ∀v G',bA G G'->K v G'->K' v G'):Fn P f vs G K':=
 ⟨h.able,fun w hw=>(h.run w hw).mono fun _ _ ⟨v,G',he,hh,hK⟩=>⟨v,G',he,hh,hk v G' hh.gle hK⟩⟩
theorem omF{p:Prop}(h:p:=by show b<w.heap.size;omega):p:=h
def bu.called{own:List av}(h:bu C own G w)(k:bu ⟨w,G,[],[],[],none,fun _=>none⟩ [] G' w'):bu C own G' w':=by
 have same: ∀b o,w.heap[b]? =some o->w'.heap[b]? =some o:=fun b o hb=>by rw[k.keep b (gq hb) v8];exact hb
 have hsz:w.heap.size<=w'.heap.size:=k.size;refine⟨k.os.trans h.os,k.tape.trans h.tape,k.output.trans h.output,cJ h.size hsz,?_,k.sub,h.gle.trans k.gle,?_,?_,h.nd,cJ h.dr k.dr,fun p hp=>⟨(h.ext p hp).1,same _ _ (h.ext p hp).2⟩⟩
 .intro b hb hm;have:=h.size;rw[k.keep b omF v8];exact h.keep b hb hm
 .intro b hb;have:=h.size;rw[k.gold b omF];exact h.gold b hb
 .intro o ho
  obtain⟨h1,h2,h3⟩:=h.hown o ho;exact⟨same _ _ h1,by rw[k.gold _ (gq h1)];exact h2,h3⟩
def Y1(M:List av)(css:List (List Value))(h:css.length=M.length):(jz M css).map (·.b)=M.map (·.b):=by
 induction M generalizing css with
 |nil=>simp[jz]
 |cons o M ih=>
  cases css with
  |nil=>simp at h
  |cons c css=>simp only[bY,Nat.add_right_cancel_iff] at h;simpa[jz] using ih css h
def WO{o:av}(ho:o∈jz M css): ∃c∈css,∃m∈M,o={m with cs:=c}/\{m with cs:=c,lo:=false}∈jz (asB M) css:=by
 induction M generalizing css with
 |nil=>simp[jz] at ho
 |cons x M ih=>
  cases css with
  |nil=>simp[jz] at ho
  |cons c css=>
   simp only[jz,List.zip_cons_cons,cZ,aT] at ho;rcases ho with rfl|ho
   .exact⟨c,aZ,x,aZ,J,by simp[jz,asB]⟩
   .obtain⟨c',hc',m,hm,e,hh⟩:=ih ho
    refine⟨c',aK _ hc',m,aK _ hm,e,?_⟩;simp only[jz,asB,cZ,List.zip_cons_cons,aT];exact .inr hh
def bu.lend(h:bu C (M++rest) G w):bu ⟨w,G,M.map (·.b),[],[],none,fun _=>none⟩ (asB M) G w:=by
 refine⟨J,J,J,bZ _,fun _ _ _=>J,h.sub,bA.refl _,fun _ _=>J,?_,?_,bZ _,fun p hp=>by cases hp⟩
 .intro o ho
  obtain⟨m,hm,rfl⟩:=aN.1 ho;obtain⟨h1,h2,_⟩:=h.hown m (bS _ hm);exact⟨h1,h2,v8,fun _=>aN.2 ⟨m,hm,J⟩⟩
 .have:=(eY.1 h.nd).1
  unfold asB;rw[List.pairwise_map];exact this
def bu.calledM(h:bu C (M++rest) G w)(hl:css.length=M.length)(k:bu ⟨w,G,M.map (·.b),[],[],none,fun _=>none⟩ (jz (asB M) css) G' w'):
  bu C (jz M css++rest) G' w':=by
 have hsz:w.heap.size<=w'.heap.size:=k.size;have hnd:=h.nd;have inM: ∀b,b∈M.map (·.b)-> ∀o∈rest,o.b≠b:=fun b hb o ho e=>by
  obtain⟨m,hm,rfl⟩:=aN.1 hb;exact(eY.1 hnd).2.2 m hm o ho e.symm
 refine⟨k.os.trans h.os,k.tape.trans h.tape,k.output.trans h.output,cJ h.size hsz,?_,k.sub,h.gle.trans k.gle,?_,?_,?_,cJ h.dr k.dr,fun p hp=>⟨(h.ext p hp).1,by rw[k.keep _ (gq (h.ext p hp).2) (h.extM hp)];exact(h.ext p hp).2⟩⟩
 .intro b hb hm
  have hs:=h.size;have hnM:b∉M.map (·.b):=fun hb'=>by
   obtain⟨m,hmM,rfl⟩:=aN.1 hb';obtain⟨_,_,h3,h4⟩:=h.hown m (bS _ hmM)
   cases hlo:m.lo with
   |true=>have:=h3 hlo;omega
   |false=>exact hm (h4 hlo)
  rw[k.keep b omF hnM];exact h.keep b hb hm
 .intro b hb;have:=h.size;rw[k.gold b omF];exact h.gold b hb
 .intro o ho
  rcases bJ.1 ho with ho|ho
  .obtain⟨c,hc,m,hm,rfl,hmem⟩:=WO ho
   obtain⟨k1,k2,_⟩:=k.hown _ hmem;obtain⟨_,_,h3⟩:=h.hown m (bS _ hm);exact⟨k1,k2,h3⟩
  .obtain⟨h1,h2,h3⟩:=h.hown o (cW _ ho)
   have hnM:o.b∉M.map (·.b):=fun hb=>inM _ hb o ho J;exact⟨by rw[k.keep _ (gq h1) hnM];exact h1,by rw[k.gold _ (gq h1)];exact h2,h3⟩
 .rw[BR,bQ,Y1 _ _ hl,<-bQ,<-BR];exact hnd
def nb{a b:Nat}(h:Nat.ble a b=true):a<=b:=oT h
def sR{fr:Fr}{own:List av}{id:Nat}(h:St C n fr own G (de P ops (Exit.then (y.wp P Q) Q) ops.toList)):St C n fr own G ((Code.seq (Code.region id ops false) y).wp P Q):=kg (TF h)
end Go.Sx
end
section
namespace Go.Sx
open Go
variable {C:aD}{n b off k m i fuel:Nat}{own' M rest own0:List av}{G G0:Gh}{ops:Array Oper}{Q:Exit->Act->World->Prop}{t t' ty' ty:TypeId}{x y fo:Operand}{o:Oper}{Φ:Act->World->Prop}{w w':World}{v z:Value}{a:Act}{lo:Bool}{f:FuncId}{args:Array Operand}{tys:Array TypeId}{vs c1 c2:List Value}{K:Value->List (List Value)->Gh->Prop}{c:Code}{fin:Nat->Bool}
def aH:Value->List Value
 | .agg ⟨l⟩=>l
 |v=>[v]
def pG(v:Value):v.cells=⟨aH v⟩:=by
 cases v<;>first|rfl|(rename_i a;cases a;rfl)
def flat:Value->Bool
 | .agg _=>false
 | .tuple _=>false
 |_=>true
def fm(fr:Fr):List Operand->Option (List Value)
 |[]=>some []
 |x::t=>match aB fr x,fm fr t with
  |some v,some l=>some (v::l)
  |_,_=>none
def Bx{fr:Fr}{a:Act}(h:kh fr a): ∀{l:List Operand} {vs:List Value},fm fr l=some vs->l.map a.eval=vs
 |[],vs,e=>by simp[fm] at e;subst e;rfl
 |x::t,vs,e=>by
  simp only[fm] at e;split at e
  .rename_i v l hv hl
   cases e
   simp[bg h hv,Bx h hl]
  .cases e
section
variable {P:Program}{fr:Fr}{own:List av}{r:List Oper}
variable {dst:Option Nat}{pos:String}{af:Array Edge}
def Ch(P:Program)(C:aD)(n:Nat)(fr:Fr)(own:List av)(G:Gh)(o:Oper)(Φ:Act->World->Prop):Prop:=
 ∀(a:Act) (w:World) (Q:Exit->Act->World->Prop),gh C n fr own G a w->o.wp P a w Φ Q
def Wh(hg:o.guard=none)(hc:Ch P C n fr own G o (de P ops Q r)):St C n fr own G (de P ops Q (o::r)):=by
 intro a w rl;simp only[de,Region.wanted,hg,if_true];exact hc a w _ rl
variable {gd:Option (Nat×Bool)}
def Lw:(newVar ty v).run P w= .ok ⟨w.heap.size,0,none⟩ (w.alloc (.cells ⟨aH v⟩ ty)):=by
 unfold newVar newRow;rw[pG];rfl
def j0(h:(execOp a.eval o).run P w= .ok (.value v) w')(hk:Φ (a.put o.dst v) w'):o.wp P a w Φ Q:=by
 simp only[Oper.wp,h,Oper.upon];exact hk
def EI[hz:iv P t z](hd:bP n dst=true)(h: ∀b,St C n (put fr dst (.pointer (some ⟨b,0,none⟩))) (⟨b,aH z,t,true⟩::own) G Φ):
  Ch P C n fr own G ⟨dst, .alloc t,ty',pos,af,gd⟩ Φ:=by
 intro a w Q rl;have h1:(Instr.alloc t true (.tuple #[])).run P w= .ok (.pointer (some ⟨w.heap.size,0,none⟩)) (w.alloc (.cells ⟨aH z⟩ t)):=by
  unfold Instr.alloc;rw[aP (hz.zero w)];show(newVar t z>>=_).run P w=_;rw[aP Lw];rfl
 refine j0 (cA h1) (h w.heap.size _ _ ?_);exact(rl.heap (rl.h.alloc _ _)).put _ hd
def DY(hx:aB fr x=some v)(hd:bP n dst=true)(h: ∀b,St C n (put fr dst (.pointer (some ⟨b,0,none⟩))) (⟨b,aH v,t,true⟩::own) G Φ):
  Ch P C n fr own G ⟨dst, .box t x,ty',pos,af,gd⟩ Φ:=by
 intro a w Q rl;have h1:(Instr.box t (a.eval x)).run P w= .ok (.pointer (some ⟨w.heap.size,0,none⟩)) (w.alloc (.cells ⟨aH v⟩ t)):=by
  unfold Instr.box;rw[bg rl.fr hx,aP Lw];rfl
 refine j0 (cA h1) (h w.heap.size _ _ ?_);exact(rl.heap (rl.h.alloc _ _)).put _ hd
def XC{cs:List Value}{fz:Nat×Nat}(h:w.heap[b]? =some (.cells ⟨cs⟩ ty fz)):w.setCell ⟨b,off,none⟩ v=ge w b (.cells ⟨cs.set off v⟩ ty fz):=by
 unfold World.setCell ge;congr 1;apply Array.ext_getElem?;intro i;rw[Array.getElem?_modify,dV];by_cases hi:b=i
 .subst hi
  have:=gq h;simp only[if_true,h,jS,this];simp
 .simp[hi]
def QH{cs:List Value}(hv:flat v=true)(h:w.heap[b]? =some (.cells ⟨cs⟩ ty (0,0)))(ho:off<cs.length):
  (store ⟨b,off,none⟩ v).run P w= .ok () (ge w b (.cells ⟨cs.set off v⟩ ty (0,0))):=by
 have hc:w.cell? ⟨b,off,none⟩=some cs[off]:=by rw[AA h,aQ ho]
 have hf:w.frozen? ⟨b,off,none⟩=false:=by simp[World.frozen?,h]
 cases v<;>first|(simp[flat] at hv;done)|(simp only[store,Sem.run,hc,hf,XC h];rfl)
def WZ(w:World)(b:Nat)(o o':Obj):ge (ge w b o) b o'=ge w b o':=by
 simp[ge]
def RW{o:Obj}(h:w.heap[b]? =some o):ge w b o=w:=by
 unfold ge;congr 1;apply Array.ext_getElem?;intro i;rw[dV];by_cases hi:b=i
 .subst hi
  have hlt:=gq h;simp only[if_true,hlt];rw[h]
 .simp[hi]
theorem omk{p:Prop}(h:p:=by simp;omega):p:=h
def wo{b:Nat}{ty:TypeId}: ∀(vs:List Value) (w:World) (off i:Nat) (cs:List Value),(∀v∈vs,flat v=true)->w.heap[b]? =some (.cells ⟨cs⟩ ty (0,0))->off+i+vs.length<=cs.length->
  (storeCells ⟨b,off,none⟩ vs i).run P w= .ok () (ge w b (.cells ⟨ck cs (off+i) vs⟩ ty (0,0)))
 |[],w,off,i,cs,_,h,_=>by
  unfold storeCells ck;rw[RW h];rfl
 |v::vs,w,off,i,cs,hf,h,hl=>by
  unfold storeCells;simp only[bY] at hl;rw[qb,aP (QH (hf v aZ) h pb)];rw[wo vs _ off (i+1) (cs.set (off+i) v) (fun u hu=>hf u (aK _ hu)) (MK (gq h)) omk];rw[WZ];rfl
theorem ozp{p:Prop}(h:p:=by simpa using hf):p:=h
def AM{cs:List Value}(hx:aB fr x=some (.pointer (some ⟨b,off,none⟩)))(hy:aB fr y=some v)[hs:la P t k]
  (hu:gv own b cs ty lo (ck cs off (aH v)) own')(hk:(aH v).length=k)(hl:off+k<=cs.length)(hf:(aH v).all flat=true)(hd:bP n dst=true)(h:St C n (put fr dst undef) own' G Φ):
  Ch P C n fr own G ⟨dst, .store t x y,ty',pos,af,gd⟩ Φ:=by
 intro a w Q rl;have hb:=(rl.h.hown _ (hu.spec rl.h.nd).1).1;have h1:(Instr.storeAt t (a.eval x) (a.eval y)).run P w= .ok () (ge w b (.cells ⟨ck cs off (aH v)⟩ ty (0,0))):=by
  rw[bg rl.fr hx,bg rl.fr hy];simp only[Instr.storeAt,Instr.sureAddr];show(storeVar t ⟨b,off,none⟩ v).run P w=_;unfold storeVar;rw[aP (hs.siz w),pG];simp only[oN,hk,ne_eq,not_true_eq_false,if_false];have:=wo (P:=P) (aH v) w off 0 cs ozp hb pb;simpa using this
 have h2:(execOp a.eval ⟨dst, .store t x y,ty',pos,af,gd⟩).run P w= .ok .skip (ge w b (.cells ⟨ck cs off (aH v)⟩ ty (0,0))):=by
  simp only[execOp];rw[aP h1];rfl
 simp only[Oper.wp,h2,Oper.upon];exact h _ _ ((rl.heap (rl.h.store hu)).put _ hd)
def xW{cs:List Value}(hx:aB fr x=some (.pointer (some ⟨b,off,none⟩)))(hy:aB fr y=some v)[hs:kI P t]
  (hu:gv own b cs ty lo (cs.set off v) own')(hl:off<cs.length)(hf:flat v=true)(hd:bP n dst=true)(h:St C n (put fr dst undef) own' G Φ):
  Ch P C n fr own G ⟨dst, .store t x y,ty',pos,af,gd⟩ Φ:=by
 intro a w Q rl;have hb:=(rl.h.hown _ (hu.spec rl.h.nd).1).1;have hc:v.cells= #[v]:=by cases v<;>first|rfl|(simp[flat] at hf)
 have h1:(Instr.storeAt t (a.eval x) (a.eval y)).run P w= .ok () (ge w b (.cells ⟨cs.set off v⟩ ty (0,0))):=by
  rw[bg rl.fr hx,bg rl.fr hy];simp only[Instr.storeAt,Instr.sureAddr];show(storeVar t ⟨b,off,none⟩ v).run P w=_;unfold storeVar;rw[aP (hs.siz w),hc];simp only[oN,bY,iQ,ne_eq,not_true_eq_false,if_false,eX];have:=wo (P:=P) [v] w off 0 cs ozp hb omk;simpa[ck] using this
 have h2:(execOp a.eval ⟨dst, .store t x y,ty',pos,af,gd⟩).run P w= .ok .skip (ge w b (.cells ⟨cs.set off v⟩ ty (0,0))):=by
  simp only[execOp];rw[aP h1];rfl
 simp only[Oper.wp,h2,Oper.upon];exact h _ _ ((rl.heap (rl.h.store hu)).put _ hd)
def Na(h:qm P f)(args:Array Value)(w:World):(callFunc f args).run P w= .ok (.enter f args) w:=by
 obtain⟨fn,h1,h2,h3⟩:=h;unfold callFunc;show(program>>=_).run P w=_;rw[aP (a:=P) (w':=w) J];simp only[h1,h2,h3];rfl
def A8(h:qm P f)(hf:kh fr a)(ho:aB fr fo=some (.func (.func f) ⟨c1⟩ ⟨c2⟩))(hv:fm fr args.toList=some vs):
  (execOp a.eval ⟨dst, .call ⟨.value fo,args,tys⟩,ty',pos,af,gd⟩).run P w= .ok (.enter f ⟨c1++vs++c2⟩) w:=by
 have e:args.map a.eval=⟨vs⟩:=by apply Array.ext';simpa using Bx hf hv
 simp only[execOp,resolve,bg hf ho,e,Deferred.ofValue];show(invoke (.fn (.func f) ⟨c2⟩) (⟨c1⟩++⟨vs⟩)).run P w=_;simp only[invoke];rw[Na h];simp
def SC{K:Value->Gh->Prop}(ho:aB fr fo=some (.func (.func f) ⟨c1⟩ ⟨c2⟩))(hv:fm fr args.toList=some vs)
  (hF:Fn P f (c1++vs++c2) G K)(hd:bP n dst=true)(h: ∀v (G':Gh),[GE G G']->K v G'->St C n (put fr dst v) own G' Φ):
  Ch P C n fr own G ⟨dst, .call ⟨.value fo,args,tys⟩,ty',pos,af,gd⟩ Φ:=by
 intro a w Q rl;have h2:=A8 (P:=P) (dst:=dst) (ty':=ty') (pos:=pos) (af:=af) (gd:=gd) (tys:=tys) (w:=w) hF.able rl.fr ho hv;simp only[Oper.wp,h2,Oper.upon];refine(hF.run w rl.h.sub).mono ?_;rintro e w' ⟨v,G',rfl,hh,hK⟩;exact @h v G' ⟨hh.gle⟩ hK _ _ ((rl.heap (rl.h.called hh)).put _ hd)
def zC{K:Value->Gh->Prop}(ho:aB fr fo=some (.func (.func f) #[] #[]))(hv:fm fr args.toList=some vs)
  (hF:Fn P f vs G K)(hd:bP n dst=true)(h: ∀v (G':Gh),[GE G G']->K v G'->St C n (put fr dst v) own G' Φ):
  Ch P C n fr own G ⟨dst, .call ⟨.value fo,args,tys⟩,ty',pos,af,gd⟩ Φ:=
 SC (c1:=[]) (c2:=[]) ho hv (by simpa using hF) hd h
def UW(ho:aB fr fo=some (.func (.func f) ⟨c1⟩ ⟨c2⟩))(hv:fm fr args.toList=some vs)
  (hp:own.Perm (M++rest))(hF:kl P f (c1++vs++c2) M G K)(hd:bP n dst=true)(h: ∀v css (G':Gh),[GE G G']->css.length=M.length->K v css G'->St C n (put fr dst v) (jz M css++rest) G' Φ):
  Ch P C n fr own G ⟨dst, .call ⟨.value fo,args,tys⟩,ty',pos,af,gd⟩ Φ:=by
 intro a w Q rl;have h2:=A8 (P:=P) (dst:=dst) (ty':=ty') (pos:=pos) (af:=af) (gd:=gd) (tys:=tys) (w:=w) hF.able rl.fr ho hv;simp only[Oper.wp,h2,Oper.upon];have hh0:=rl.h.perm hp;refine(hF.run w hh0.lend).mono ?_;rintro e w' ⟨v,css,G',rfl,hl,hh,hK⟩;exact @h v css G' ⟨hh.gle⟩ hl hK _ _ ((rl.heap (hh0.calledM hl hh)).put _ hd)
def Dg(ho:aB fr fo=some (.func (.func f) #[] #[]))(hv:fm fr args.toList=some vs)
  (hp:own.Perm (M++rest))(hF:kl P f vs M G K)(hd:bP n dst=true)(h: ∀v css (G':Gh),[GE G G']->css.length=M.length->K v css G'->St C n (put fr dst v) (jz M css++rest) G' Φ):
  Ch P C n fr own G ⟨dst, .call ⟨.value fo,args,tys⟩,ty',pos,af,gd⟩ Φ:=
 UW (c1:=[]) (c2:=[]) ho hv hp (by simpa using hF) hd h
end
section
variable {P:Program}{fr:Fr}{own:List av}
inductive jn (P:Program) (fr:Fr) (own:List av):List ResultVar->List Value->Prop
 |nil:jn P fr own [] []
 |tmp {t:Nat} {v:Value} {rs:List ResultVar} {vs:List Value} (h:iq fr t=some v) (k:jn P fr own rs vs):jn P fr own (.tmp t::rs) (v::vs)
 |agg {a b k:Nat} {t ty:TypeId} {cs l:List Value} {lo:Bool} {rs:List ResultVar} {vs:List Value} (h:iq fr a=some (.pointer (some ⟨b,0,none⟩))) (ho:gA own b cs ty lo) (ht:la P t k) (hl:co cs 0 k=some l) (h2:jn P fr own rs vs):
   jn P fr own (.cell a t::rs) (.agg ⟨l⟩::vs)
 |sc {a b:Nat} {t ty:TypeId} {cs:List Value} {v:Value} {lo:Bool} {rs:List ResultVar} {vs:List Value} (h:iq fr a=some (.pointer (some ⟨b,0,none⟩))) (ho:gA own b cs ty lo) (ht:kI P t) (hl:cs[0]? =some v) (h2:jn P fr own rs vs):
   jn P fr own (.cell a t::rs) (v::vs)
def vD(a:Act):ResultVar->Sem Value
 | .tmp t=>pure (a.tmps.getD t undef)
 | .cell x t=>do loadVar t (<-asAddr (a.tmps.getD x undef))
def jn.run{rs:List ResultVar}{vs:List Value}(h:jn P fr own rs vs){a:Act}{w:World}(hf:kh fr a)(hh:bu C own G w):
  (rs.mapM (vD a)).run P w= .ok vs w:=by
 induction h with
 |nil=>rfl
 | @tmp t v rs vs h k ih=>
  rw[qR];have e:=hf _ _ h;have e2:a.tmps.getD t undef=v:=by rw[bT,e];rfl
  rw[aP (a:=v) (w':=w) (by simp only[vD,e2];exact run_pure _ _ _),aP ih];rfl
 | @agg x b k t ty cs l lo rs vs h ho ht hl h2 ih=>
  rw[qR];have e:=hf _ _ h;have e2:a.tmps.getD x undef= .pointer (some ⟨b,0,none⟩):=by rw[bT,e];rfl
  rw[aP (a:= .agg ⟨l⟩) (w':=w) (by simp only[vD,e2,asAddr];rw[aP (run_pure _ _ _)];exact F6 (hh.hown _ ho.mem).1 hl),aP ih];rfl
 | @sc x b t ty cs v lo rs vs h ho ht hl h2 ih=>
  rw[qR];have e:=hf _ _ h;have e2:a.tmps.getD x undef= .pointer (some ⟨b,0,none⟩):=by rw[bT,e];rfl
  rw[aP (a:=v) (w':=w) (by simp only[vD,e2,asAddr];rw[aP (run_pure _ _ _)];exact HE (hh.hown _ ho.mem).1 hl),aP ih];rfl
def my:List Value->Value
 |[v]=>v
 |vs=> .tuple ⟨vs⟩
def rI{fn:Func}(hr:jn P fr own fn.results.toList vs)(hf:kh fr a)(hh:bu C own G w):(results fn a.tmps).run P w= .ok (my vs) w:=by
 have h0:=jn.run (C:=C) (G:=G) hr hf hh;have h1:(fn.results.mapM (vD a)).run P w= .ok (⟨vs⟩:Array Value) w:=by
  rw[<-Array.toArray_toList (xs:=fn.results),List.mapM_toArray,map_eq_pure_bind,aP h0];rfl
 have h2:results fn a.tmps=(do
   let vs<-fn.results.mapM (vD a)
   pure (if h:vs.size=1 then vs[0] else .tuple vs)):=by
  unfold results;congr 1
 rw[h2,aP h1]
 match vs with
 |[]=>rfl
 |[v]=>rfl
 |_::_::_=>rfl
def je(C:aD)(K:Value->Gh->Prop):Ending->World->Prop:=fun e w'=> ∃v G',e= .returned v/\bu C [] G' w'/\K v G'
def w7(C:aD)(M:List av)(K:Value->List (List Value)->Gh->Prop):Ending->World->Prop:=fun e w'=> ∃v css G',e= .returned v/\css.length=M.length/\bu C (jz (asB M) css) G' w'/\K v css G'
def dx(C:aD)(P:Program)(fn:Func)(R:Ending->World->Prop):Exit->Act->World->Prop:=fun e a w=>C.mks=[]->bodyPost P fn R e a w
def zD{fn:Func}{K:Value->Gh->Prop}(hr:jn P fr own fn.results.toList vs)(hk:K (my vs) G):St C n fr own G (dx C P fn (je C K) .ret):=
 fun a w rl hmk=>⟨rl.df.trans hmk,_,rI hr rl.fr rl.h,_,G,J,rl.h.drop (kW _),hk⟩
def FG{fn:Func}{K:Value->Gh->Prop}(hr:jn P fr own fn.results.toList vs)(hk:K (my vs) G):St C n fr own G (dx C P fn (je C K) .normal):=
 fun a w rl hmk=>⟨rl.df.trans hmk,_,rI hr rl.fr rl.h,_,G,J,rl.h.drop (kW _),hk⟩
def wh{fn:Func}{css:List (List Value)}(hr:jn P fr own fn.results.toList vs)(hl:css.length=M.length)(own2:List av)(hp:own.Perm own2)(hs:(jz (asB M) css).Sublist own2)(hk:K (my vs) css G):St C n fr own G (dx C P fn (w7 C M K) .ret):=
 fun a w rl hmk=>⟨rl.df.trans hmk,_,rI hr rl.fr rl.h,_,css,G,J,hl,(rl.h.perm hp).drop hs,hk⟩
def mG:Nat->List Value->Fr
 |_,[]=>[]
 |i,v::t=>(i,v)::mG (i+1) t
def tG: ∀(vs:List Value) (i k:Nat) (v:Value),iq (mG i vs) k=some v-> ∃j,k=i+j/\vs[j]? =some v
 |[],i,k,v,h=>by cases h
 |u::vs,i,k,v,h=>by
  rw[mG,tF] at h;split at h
  .subst_vars;cases h;exact⟨0,J,J⟩
  .obtain⟨j,rfl,hj⟩:=tG vs (i+1) k v h
   exact⟨j+1,pb,by simpa using hj⟩
theorem omG{p:Prop}(h:p:=by simpa using hj'):p:=h
def Fn.introR{fn:Func}{K:Value->Gh->Prop}(hf:P.funcs[f]? =some fn)(hb:fn.body=some c)(hn:(fn.name== "runtime.NumGoroutine")=false)(hm:fn.ntmps=m)(hlen:Nat.ble vs.length m=true)
  (h: ∀C:aD,C.G0=G->C.mb=[]->C.rd=none->(C.fx=fun _=>none)->St C m (mG 0 vs) [] G (c.wp P (dx C P fn (je C K)))):Fn P f vs G K:=by
 refine⟨⟨fn,hf,hn,by simp[hb]⟩,fun w hw=>?_⟩;have hlen':vs.length<=m:=by simpa using hlen
 have:=calls_of_wp (P:=P) (f:=f) (args:=⟨vs⟩) (w:=w) (R:=je ⟨w,G,[],[],[],none,fun _=>none⟩ K) hf hb (wp_mono (h ⟨w,G,[],[],[],none,fun _=>none⟩ J J J J _ w
  ⟨⟨J,J,J,bZ _,fun _ _ _=>J,hw,bA.refl _,fun _ _=>J,fun o ho=>(by cases ho), .nil,bZ _,fun p hp=>by cases hp⟩,by simp;omega,fun k v hk=>by
   obtain⟨j,rfl,hj⟩:=tG vs 0 k v hk;have hj':=(aS.1 hj).1;rw[kR omG];simpa using hj,J⟩) fun _ _ _ k=>k J)
 exact this
def Fn.intro{fn:Func}{K:Value->Gh->Prop}(hf:P.funcs[f]? =some fn)(hb:fn.body=some c)(hn:(fn.name== "runtime.NumGoroutine")=false)(hm:fn.ntmps=m)(hlen:Nat.ble vs.length m=true)
  (h: ∀C:aD,C.G0=G->C.mb=[]->St C m (mG 0 vs) [] G (c.wp P (dx C P fn (je C K)))):Fn P f vs G K:=
 Fn.introR hf hb hn hm hlen fun C a b _ _=>h C a b
def kl.introR{fn:Func}(hf:P.funcs[f]? =some fn)(hb:fn.body=some c)(hn:(fn.name== "runtime.NumGoroutine")=false)(hm:fn.ntmps=m)(hlen:Nat.ble vs.length m=true)
  (h: ∀C:aD,C.G0=G->C.mb=M.map (·.b)->C.rd=none->(C.fx=fun _=>none)->St C m (mG 0 vs) (asB M) G (c.wp P (dx C P fn (w7 C M K)))):kl P f vs M G K:=by
 refine⟨⟨fn,hf,hn,by simp[hb]⟩,fun w hw=>?_⟩;have hlen':vs.length<=m:=by simpa using hlen
 have:=calls_of_wp (P:=P) (f:=f) (args:=⟨vs⟩) (w:=w) (R:=w7 ⟨w,G,M.map (·.b),[],[],none,fun _=>none⟩ M K) hf hb (wp_mono (h ⟨w,G,M.map (·.b),[],[],none,fun _=>none⟩ J J J J _ w
  ⟨hw,by simp;omega,fun k v hk=>by
   obtain⟨j,rfl,hj⟩:=tG vs 0 k v hk;have hj':=(aS.1 hj).1;rw[kR omG];simpa using hj,J⟩) fun _ _ _ k=>k J)
 exact this
def kl.intro{fn:Func}(hf:P.funcs[f]? =some fn)(hb:fn.body=some c)(hn:(fn.name== "runtime.NumGoroutine")=false)(hm:fn.ntmps=m)(hlen:Nat.ble vs.length m=true)
  (h: ∀C:aD,C.G0=G->C.mb=M.map (·.b)->St C m (mG 0 vs) (asB M) G (c.wp P (dx C P fn (w7 C M K)))):kl P f vs M G K:=
 kl.introR hf hb hn hm hlen fun C a b _ _=>h C a b
def as6(b:Nat){cs:List Value}(hr:iC own ⟨b,cs,ty,true⟩ own')(h: ∀G':Gh,[GE G G']->[GI G' b cs]->St C n fr own' G' Φ):St C n fr own G Φ:=
 fun a w rl=>by
  obtain⟨h1,h2⟩:=rl.h.freeze hr;exact @h _ ⟨h2⟩ ⟨v8⟩ a w (rl.heap h1)
end
def fI(Q:Exit->Act->World->Prop):Exit->Act->World->Prop
 | .panic _,_,_=>False
 |e,a,w=>Q e a w
def fI.imp: ∀(e:Exit) (a:Act) (w:World),fI Q e a w->Q e a w:=fun e a w h=>by
 cases e<;>first|exact h|exact(h:False).elim
section
variable {P:Program}{S:World->Prop}
def tj(P:Program)(ops:Array Oper)(Q:Exit->Act->World->Prop)(S:World->Prop)(fin:Nat->Bool):Nat->Array Bool->Act->World->Prop
 |0,listed,a,w=>Region.ready .any ops listed=[]/\Q .normal a w
 |fuel+1,listed,a,w=>
  (Region.ready .any ops listed=[]->Q .normal a w)/\
  ∀i∈Region.ready .any ops listed,wpOp P ops Q i (fun a' w'=>(fin i=true\/S w')/\tj P ops Q S fin fuel (listed.setIfInBounds i true) a' w') a w
def z7: ∀(fuel:Nat) (listed:Array Bool) (a:Act) (w:World),tj P ops Q S fin fuel listed a w->wpAny P .any ops Q fuel listed a w
 |0,_,_,_,h=>h
 |fuel+1,_,_,_,h=>⟨h.1,fun i hi=>wpOp_mono (fun a' w' h'=>z7 fuel _ a' w' h'.2) (h.2 i hi)⟩
def GF(ops:Array Oper)(fin:Nat->Bool)(i:Nat):Bool:=
 !fin i&&(List.range ops.size).all fun j=>!fin j||((ops[j]?).map fun o=>o.after.any fun e=>Region.binds .any e&&e.on==i).getD true
theorem omV{p:Prop}(h:p:=by simpa using hj):p:=h
def Vr(h:GF ops fin i=true):fin i=false/\ ∀j oj,ops[j]? =some oj->fin j=true-> ∃e∈oj.after,Region.binds .any e=true/\e.on=i:=by
 simp only[GF,bV,fN] at h;refine⟨h.1,fun j oj hoj hf=>?_⟩;have hj:j<ops.size:=(fZ.1 hoj).1;have h1:=dZ.1 h.2 j omV;rw[hf,hoj] at h1;simp only[Bool.not_true,jS,jZ,Bool.false_or] at h1;obtain⟨e,he,hb⟩:=Array.any_eq_true'.1 h1;simp only[bV,beq_iff_eq] at hb;exact⟨e,he,hb.1,hb.2⟩
def Sh{i:Nat}{oi:Oper}{v:Value}(hi:ops[i]? =some oi)(hsel: ∀(j:Nat) (o:Oper) cs b,ops[j]? =some o->o.op≠ .select cs b)
  (hQ: ∀c a w,Q (.panic c) (a.put oi.dst v) w->Q (.panic c) a w)(hfi:fin i=false)
  (hfin: ∀j oj,ops[j]? =some oj->fin j=true-> ∃e∈oj.after,Region.binds .any e=true/\e.on=i):
  ∀(fuel:Nat) (listed:Array Bool) (a:Act) (w:World),
   (∀j oj,ops[j]? =some oj->j≠i->listed.getD j true=false->(∀e∈oj.after,Region.binds .any e=true->e.on≠i)->oi.apart ops oj=true)->
   i∈Region.ready .any ops listed->YieldsIf P ops S oi v a->S w->
   tj P ops Q S fin fuel (listed.setIfInBounds i true) (a.put oi.dst v) w->tj P ops Q S fin (fuel+1) listed a w:=by
 intro fuel
 induction fuel with
 |zero=>
  intro listed a w _ hr hy hS H;refine⟨fun h=>(by rw[h] at hr;cases hr),fun j hj=>?_⟩;by_cases hji:j=i
  .subst hji;exact hy.wpOp hi hS ⟨.inr hS,H⟩
  .have:=ready_mono hj hji
   rw[H.1] at this
   cases this
 |succ fuel ih=>
  intro listed a w hfree hr hy hS H;refine⟨fun h=>(by rw[h] at hr;cases hr),fun j hj=>?_⟩;by_cases hji:j=i
  .subst hji;exact hy.wpOp hi hS ⟨.inr hS,H⟩
  .have h1:=H.2 j (ready_mono hj hji)
   obtain⟨hjun,oj,hoj,hall⟩:=mem_ready.1 hj;have hnot: ∀e∈oj.after,Region.binds .any e=true->e.on≠i:=fun e he hb heq=>by
    have h1:=hall e he hb;have h0:=(mem_ready.1 hr).1;rw[heq] at h1;rcases iY i listed.size with h'|h'
    .simp[h'] at h0 h1;rw[h0] at h1;cases h1
    .simp[oQ h'] at h1
   have hnf:fin j=false:=by
    cases hf:fin j with
    |false=>rfl
    |true=>obtain⟨e,he,hb,heq⟩:=hfin j oj hoj hf;exact absurd heq (hnot e he hb)
   have h2:=wpOp_putIf hoj (hfree j oj hoj hji hjun hnot) (fun cs b=>hsel i oi cs b hi) (fun cs b=>hsel j oj cs b hoj) hQ hy h1;have hfree': ∀k ok,ops[k]? =some ok->k≠i->(listed.setIfInBounds j true).getD k true=false->
     (∀e∈ok.after,Region.binds .any e=true->e.on≠i)->oi.apart ops ok=true:=fun k ok hk hki hun hno=>by
    refine hfree k ok hk hki ?_ hno;by_cases hjk:j=k
    .subst hjk;exact hjun
    .rw[getD_set_ne true hjk] at hun;exact hun
   refine wpOp_mono (fun a' w' h3=>?_) h2;have hS':S w':=h3.2.1.resolve_left (by rw[hnf];simp);refine⟨.inr hS',ih (listed.setIfInBounds j true) a' w' hfree' (ready_mono hr (Ne.symm hji)) h3.1 hS' ?_⟩;rw[Array.setIfInBounds_comm _ _ hji];exact h3.2.2
def aqV{listed:Array Bool}(hr:Region.ready .any ops listed=[i])
  (h:wpOp P ops Q i (fun a' w'=>(fin i=true\/S w')/\tj P ops Q S fin fuel (listed.setIfInBounds i true) a' w') a w):tj P ops Q S fin (fuel+1) listed a w:=
 ⟨fun h0=>absurd (hr.symm.trans h0) v8,fun j hj=>by rw[hr,aW] at hj;subst hj;exact h⟩
def Oe(ops:Array Oper)(fin:Nat->Bool)(listed:Array Bool)(i:Nat):Bool:=
 Region.noSelect ops&&Region.free .any ops listed i&&(Region.ready .any ops listed).contains i&&GF ops fin i
end
class ke (l m:List av):Prop where s:l.Sublist m
instance ke.cons (l m:List av) (o:av) [h:ke l m]:ke l (o::m):=⟨h.s.cons o⟩
def HS(C:aD)(own:List av)(G:Gh):World->Prop:=fun w=> ∃G',bA G G'/\bu C own G' w
section
variable {P:Program}{fr:Fr}{own:List av}
def WB{id:Nat}(fin:Nat->Bool)(hm:P.follows .mixedOrders=true)
  (h:St C n fr own G (tj P ops (fI Q) (HS C own G) fin ops.size (Array.replicate ops.size false))):St C n fr own G ((Code.region id ops true).wp P Q):=by
 intro a w rl;exact wp_mono (wp_region_any hm (z7 _ _ _ _ (h a _ (rl.heap rl.h.drew)))) fI.imp
def xe{b:Bool}[hs:ke own0 own][hl:GL G0 G](h:St C n fr own G Φ):St C n fr own G (fun a w=>(b=true\/HS C own0 G0 w)/\Φ a w):=
 fun a w rl=>⟨.inr ⟨G,hl.le,rl.h.drop hs.s⟩,h a w rl⟩
end
end Go.Sx
end
