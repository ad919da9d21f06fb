import Derived.Calls
import Derived.Orders
import Derived.OrdersHeld
import Derived.Laws.World
import Derived.Below
import Derived.IntWalk
import Derived.KernelRfl
import Derived.Laws.Append
set_option linter.all false
section
namespace Go.Sx
def J{α:Sort _}{a:α}:a=a:=rfl
open Go
def aQ:=@List.getElem?_eq_getElem
def aZ:=@List.mem_cons_self
def aX:=@List.getD_eq_getElem?_getD
def aJ:=@List.length_map
def aK:=@List.mem_cons_of_mem
def aV:=@List.mem_of_getElem?
def aW:=@List.length_append
def aY:=@List.getElem?_eq_some_iff
def aU:=@List.mem_singleton
def aT:=@List.mem_cons
def aR:=@List.length_replicate
def aS:=@List.take_of_length_le
def aL:=@Nat.eq_of_beq_eq_true
def aM:=@Nat.le_refl
def aN:=@Nat.zero_le
def bQ:=@List.mem_map
def bZ:=@List.length_set
def bX:=@List.drop_eq_getElem_cons
def bJ:=@List.length_cons
def bK:=@List.mem_append
def bV:=@Int.toNat_natCast
def bW:=@Nat.mul_le_mul_right
def bY:=@List.map_append
def bU:=@Nat.pow_le_pow_right
def bT:=@Bool.and_eq_true
def bR:=@List.pairwise_cons
def bS:=@List.eq_nil_of_length_eq_zero
def bL:=@List.getElem_mem
def bM:=@List.mem_append_left
def bN:=@Nat.mul_comm
def cZ:=@Array.getD_eq_getD_getElem?
def cX:=@Nat.mul_assoc
def cJ:=@List.length_take
def cK:=@List.getElem?_map
def cV:=@List.map_cons
def cW:=@List.mem_append_right
def cY:=@Nat.le_trans
def cR:=@Rat.intCast_mul
def cS:=@Nat.mod_lt
def cM:=@Nat.add_mul
def cN:=@List.getElem?_append_left
def dQ:=@Rat.le_of_lt
def dZ:=@Rat.intCast_eq_zero_iff
def dX:=@List.getElem?_eq_none
def dJ:=@List.mem_of_mem_take
def dK:=@List.all_eq_true
def dV:=@Nat.mod_eq_of_lt
def dW:=@List.take_length
def dY:=@Nat.lt_of_lt_of_le
def dT:=@Nat.mul_add
def dR:=@List.forall_mem_cons
def dS:=@Int.sign_eq_one_of_pos
def eX:=@Array.getElem?_setIfInBounds
def eJ:=@Int.sign_eq_neg_one_of_neg
def eK:=@Nat.zero_add
def eY:=@List.take_add_one
def fQ:=@List.take_append_of_le_length
def fZ:=@List.mem_flatMap
def fX:=@Nat.add_zero
def fJ:=@Nat.mul_le_mul_left
def fK:=@Nat.pow_add
def fV:=@List.length_nil
def fW:=@List.drop_of_length_le
def fY:=@List.drop_length
def fU:=@Nat.pow_pos
def fT:=@Nat.eq_zero_or_pos
def fR:=@Nat.lt_of_le_of_lt
def fS:=@List.mem_map_of_mem
def fL:=@Nat.pow_succ
def fM:=@Array.getElem?_eq_some_iff
def fN:=@Rat.le_refl
def gQ:=@List.getElem?_append_right
def gX:=@List.append_assoc
def gJ:=@List.take_succ_eq_append_getElem
def gK:=@Nat.min_eq_left
def gV:=@Rat.mul_eq_zero
def gW:=@Array.getElem?_eq_getElem
def gU:=@List.length_singleton
def gT:=@Bool.not_eq_true'
def gR:=@List.map_take
def gS:=@List.pairwise_append
def gL:=@List.mem_of_mem_drop
def gM:=@Int.fdiv_eq_ediv_of_nonneg
def gN:=@List.map_toArray
def iQ:=@List.length_drop
def iZ:=@List.drop_zero
def iX:=@Int.natAbs_neg
def iJ:=@List.length_dropLast
def iK:=@Option.getD_some
def iV:=@Bool.or_eq_true
def iW:=@Nat.mul_le_mul
def iY:=@Nat.pos_of_ne_zero
def iU:=@Nat.mul_one
def iT:=@Nat.mul_pos
def iR:=@Array.length_toList
def iS:=@List.any_eq_true
def iL:=@Nat.lt_or_ge
def iM:=@Nat.succ_mul
def iN:=@List.map_drop
def jQ:=@List.replicate_succ
def jZ:=@Nat.gcd_comm
def jX:=@Option.map_some
def jJ:=@Int.natCast_mul
def jK:=@List.cons_append
def jV:=@Int.natAbs_mul
def jW:=@List.drop_append_of_le_length
def jY:=@Int.sign_eq_zero_iff_zero
def jU:=@List.pairwise_iff_getElem
def jT:=@Bool.false_eq_true
def jR:=@Int.natAbs_natCast
def jS:=@List.mem_range
def jL:=@List.mem_filter
def jM:=@Rat.intCast_sub
def jN:=@Nat.div_eq_of_lt
def kQ:=@List.not_mem_nil
def kZ:=@List.take_append_drop
def kX:=@List.map_nil
def kJ:=@Nat.add_comm
def kK:=@Array.getElem?_append_left
def kV:=@List.foldl_cons
def kW:=@Nat.add_assoc
def kY:=@List.drop_eq_nil_of_le
def kU:=@List.ext_getElem?
def kR:=@List.flatMap_cons
def kS:=@Nat.div_lt_iff_lt_mul
def kL:=@List.nil_append
def kM:=@List.map_set
def kN:=@Nat.div_le_self
def lQ:=@Int.natAbs_zero
def lZ:=@Nat.add_sub_cancel
def lX:=@List.append_of_mem
def lJ:=@List.nil_sublist
def lK:=@List.getElem_map
def lV:=@Nat.mul_lt_mul_of_pos_right
def lW:=@List.flatten_cons
def lY:=@Nat.mul_left_comm
def lU:=@Int.ofNat_natAbs_of_nonpos
def lT:=@Int.lt_trichotomy
def lR:=@List.length_range
def lS:=@List.getD_cons_succ
def lL:=@List.flatMap_append
def lM:=@Rat.num_eq_zero
def lN:=@Rat.intCast_neg
def mQ:=@List.getLast?_eq_getElem?
def mZ:=@List.length_filter_le
def mX:=@Nat.shiftLeft_eq
def mJ:=@Bool.not_eq_true
def mK:=@Nat.zero_mul
def mV:=@List.eq_of_mem_replicate
def mW:=@Nat.le_of_lt
def mY:=@Nat.shiftLeft_add_eq_or_of_lt
def mU:=@Nat.add_mul_div_left
def mT:=@List.mem_iff_getElem
def mR:=@List.getElem?_set
def mS:=@Nat.gcd_pos_of_pos_left
def mL:=@Nat.blt_eq
def mM:=@List.append_nil
def mN:=@List.take_succ_cons
def nQ:=@List.length_pos_iff
def nZ:=@Array.getElem?_eq_none
def nX:=@List.getElem?_set_self
def nJ:=@Nat.div_div_eq_div_mul
def nK:=@Rat.neg_num
def nV:=@List.drop_append
def nW:=@List.perm_middle
def nY:=@Nat.le_add_right
def nU:=@Nat.gcd_dvd_left
def nT:=@List.getElem?_drop
def nR:=@Nat.gcd_zero_right
def nS:=@Nat.mul_lt_mul_of_lt_of_le
def nL:=@Int.natAbs_eq_zero
def nM:=@Nat.add_mul_mod_self_left
def nN:=@Int.natAbs_ediv_le_natAbs
def oQ:=@Rat.intCast_inj
def oZ:=@List.size_toArray
def oX:=@Nat.beq_refl
def oJ:=@Nat.one_mul
def oK:=@Int.natAbs_of_nonneg
def oV:=@Nat.gcd_dvd_right
def oW:=@List.mem_of_getLast?
def oY:=@Nat.eq_zero_of_gcd_eq_zero_right
def oU:=@Nat.pow_lt_pow_iff_right
def oT:=@Nat.gcd_pos_of_pos_right
def oR:=@Nat.eq_zero_of_gcd_eq_zero_left
def oS:=@List.getElem?_range
def oN:=@List.takeWhile_cons
def pQ:=@Array.toList_map
def pZ:=@Int.natCast_emod
def pX:=@Nat.mul_lt_mul''
def pJ:=@Rat.mul_nonneg
def pK:=@Rat.mkRat_eq_div
def pV:=@List.countP_cons
def pW:=@List.getElem_cons_zero
def pY:=@Rat.intCast_add
def pU:=@List.range_succ
def pT:=@Array.getElem?_toList
def pR:=@Nat.lt_trichotomy
def pS:=@List.length_filter_lt_length_iff_exists
def pL:=@Nat.pow_mul
def pM:=@Rat.neg_den
def pN:=@Nat.mul_zero
def qQ:=@List.filter_cons
def qZ:=@Nat.lt_trans
def qX:=@Int.le_of_lt
def qJ:=@Int.natCast_ediv
def qK:=@Nat.le_max_right
def qV:=@List.map_map
def qW:=@Rat.mul_comm
def qY:=@Int.toNat_of_nonneg
def qU:=@List.drop_set_of_lt
def qT:=@List.getElem_of_mem
def qR:=@Array.getElem?_replicate
def qS:=@List.sublist_append_left
def qL:=@Option.isSome_iff_exists
def qM:=@Option.map_none
def qN:=@Nat.div_add_mod
def rQ:=@Rat.num_intCast
def rZ:=@Rat.den_intCast
def rX:=@Nat.le_max_left
def rJ:=@List.getElem?_take
def rK:=@Nat.mul_right_comm
def rW:=@Nat.le_mul_of_pos_right
def rY:=@Int.natCast_dvd_natCast
def rU:=@List.mapM_cons
def rT:=@List.pairwise_map
def rR:=@List.take_zero
def rS:=@Nat.pow_zero
def rL:=@List.forall_mem_append
def rM:=@List.getElem?_dropLast
def rN:=@List.foldl_append
def sQ:=@List.eq_nil_or_concat
def sZ:=@List.concat_eq_append
def sX:=@Nat.mul_mod_mul_right
def sJ:=@Nat.le_div_iff_mul_le
def sK:=@List.dropLast_sublist
def sV:=@Nat.le_of_not_lt
def sW:=@Bool.or_false
def sY:=@Rat.mkRat_one
def sU:=@Nat.dvd_trans
def sT:=@Bool.or_eq_false_iff
def sS:=@Nat.div_lt_of_lt_mul
def sL:=@Nat.pow_lt_pow_right
def sM:=@Int.mul_neg
def sN:=@Nat.not_lt_zero
def tQ:=@Int.natCast_add
def tZ:=@Int.mul_eq_zero
def tX:=@List.drop_succ_cons
def tJ:=@List.getD_cons_zero
def tK:=@Int.sign_trichotomy
def tV:=@Nat.mod_self
def tW:=@List.drop_drop
def tY:=@Rat.mkRat_self
def tU:=@Rat.not_le
def tT:=@Rat.num_nonneg
def tL:=@Rat.not_lt
def tM:=@Nat.gcd_rec
def tN:=@Nat.div_one
abbrev Gh:=Nat->Option (List Value)
def bp(G G':Gh):Prop:= ∀b cs,G b=some cs->G' b=some cs
def bp.refl(G:Gh):bp G G:=fun _ _ h=>h
def bp.trans{a b c:Gh}(h:bp a b)(k:bp b c):bp a c:=fun _ _ x=>k _ _ (h _ _ x)
structure aw where
 b:Nat
 cs:List Value
 ty:TypeId
 lo:Bool
structure aD where
 w0:World
 G0:Gh
 mb:List Nat
 /-- other objects that stay: records of loops, marks -/
 ex:List (Nat×Obj)
 /-- the marks among the deferred calls; the round -/
 mks:List Deferred
 rd:Option Nat
 /-- where names that are fixed lie -/
 fx:Nat->Option Addr
structure bt (C:aD) (own:List aw) (G:Gh) (w:World):Prop where
 os:w.os=C.w0.os
 tape:w.tape=C.w0.tape
 output:w.output=C.w0.output
 size:C.w0.heap.size<=w.heap.size
 keep: ∀b,b<C.w0.heap.size->b∉C.mb->w.heap[b]? =C.w0.heap[b]?
 sub: ∀b cs,G b=some cs-> ∃ty fz,w.heap[b]? =some (.cells ⟨cs⟩ ty fz)
 gle:bp C.G0 G
 gold: ∀b,b<C.w0.heap.size->G b=C.G0 b
 hown: ∀o∈own,w.heap[o.b]? =some (.cells ⟨o.cs⟩ o.ty (0,0))/\G o.b=none/\(o.lo=true->C.w0.heap.size<=o.b)/\(o.lo=false->o.b∈C.mb)
 nd:own.Pairwise (fun x y=>x.b≠y.b)
 dr:C.w0.drawn<=w.drawn
 ext: ∀p∈C.ex,(∀cs ty z,p.2≠ .cells cs ty z)/\w.heap[p.1]? =some p.2
abbrev Fr:=List (Nat×Value)
def iB:Fr->Nat->Option Value
 |[],_=>none
 |(k,v)::t,j=>bif Nat.beq k j then some v else iB t j
def put(fr:Fr)(dst:Option Nat)(v:Value):Fr:=match dst with|some d=>(d,v)::fr|none=>fr
def mj(fr:Fr)(a:Act):Prop:= ∀k v,iB fr k=some v->a.tmps[k]? =some v
structure gD (C:aD) (n:Nat) (fr:Fr) (own:List aw) (G:Gh) (a:Act) (w:World):Prop where
 h:bt C own G w
 sz:a.tmps.size=n
 fr:mj fr a
 df:a.defers=C.mks
def St(C:aD)(n:Nat)(fr:Fr)(own:List aw)(G:Gh)(Φ:Act->World->Prop):Prop:=
 ∀a w,gD C n fr own G a w->Φ a w
def aA(fr:Fr):Operand->Option Value
 | .tmp k=>iB fr k
 | .const v=>some v
 | .global g=>some (.pointer (some ⟨g,0,none⟩))
 | .func f=>some (.func (.func f) #[] #[])
def bh{fr:Fr}{a:Act}(h:mj fr a){x:Operand}{v:Value}(hx:aA fr x=some v):a.eval x=v:=by
 cases x with
 |tmp k=>
  have:=h k v hx;simp only[Act.eval,cZ,this,iK]
 |const u=>simpa[aA,Act.eval] using hx
 |global g=>simpa[aA,Act.eval] using hx
 |func f=>simpa[aA,Act.eval] using hx
def vw(k:Nat)(v:Value)(t:Fr)(j:Nat):iB ((k,v)::t) j=if k=j then some v else iB t j:=by
 simp only[iB];by_cases h:k=j
 .simp[h]
 .have:Nat.beq k j=false:=by
   cases hb:Nat.beq k j with
   |false=>rfl
   |true=>exact absurd (aL hb) h
  simp[this,h]
def b9(n:Nat):Option Nat->Bool
 |some d=>Nat.blt d n
 |none=>true
def mj.put{fr:Fr}{a:Act}{n:Nat}(h:mj fr a)(hs:a.tmps.size=n){dst:Option Nat}{v:Value}(hd:b9 n dst=true):mj (Sx.put fr dst v) (a.put dst v):=by
 cases dst with
 |none=>exact h
 |some d=>
  intro k u hk;have hdn:d<n:=by simpa[b9,mL] using hd
  simp only[Sx.put,vw] at hk;simp only[Act.put,eX];by_cases hkd:d=k
  .simp only[hkd,if_true] at hk
   subst hkd;simp[hs,hdn,hk]
  .simp only[hkd,if_false] at hk
   simp only[hkd,if_false];exact h k u hk
def ME(a:Act)(dst:Option Nat)(v:Value):(a.put dst v).tmps.size=a.tmps.size:=by cases dst<;>simp[Act.put]
def L5(a:Act)(dst:Option Nat)(v:Value):(a.put dst v).defers=a.defers:=by cases dst<;>simp[Act.put]
def gD.put{C n fr own G a w}(r:gD C n fr own G a w){dst:Option Nat}(v:Value)(hd:b9 n dst=true):gD C n (Sx.put fr dst v) own G (a.put dst v) w:=
 ⟨r.h,by rw[ME];exact r.sz,r.fr.put r.sz hd,by rw[L5];exact r.df⟩
def gD.heap{C n fr own G own' G' a w w'}(r:gD C n fr own G a w)(h:bt C own' G' w'):gD C n fr own' G' a w':=⟨h,r.sz,r.fr,r.df⟩
def dB(P:Program)(ops:Array Oper)(Q:Exit->Act->World->Prop):List Oper->Act->World->Prop
 |[],a,w=>Q .normal a w
 |o::r,a,w=>if Region.wanted o (yielded ops a.tmps) then o.wp P a w (dB P ops Q r) Q else dB P ops Q r (a.put o.dst undef) w
def aoZ{P:Program}{ops:Array Oper}{Q:Exit->Act->World->Prop}: ∀(l:List Nat) (k:Nat) (a:Act) (w:World),l=(List.range ops.size).drop k->dB P ops Q (ops.toList.drop k) a w->wpOps P ops Q l a w:=by
 intro l
 induction l with
 |nil=>
  intro k a w hl h;have hk:ops.size<=k:=by
   have:=congrArg List.length hl;simp at this;omega
  rw[kY (by simpa using hk)] at h;exact h
 |cons i t ih=>
  intro k a w hl h;have hk:k<ops.size:=by
   have:=congrArg List.length hl;simp at this;omega
  rw[bX (by simpa using hk)] at hl;obtain⟨hi,ht⟩:=List.cons.inj hl;simp only[List.getElem_range] at hi;subst hi;rw[bX (by simpa using hk)] at h;have ho:ops[i]? =some ops[i]:=gW hk;simp only[wpOps,ho];simp only[dB,Array.getElem_toList] at h;split
  .rename_i hw
   simp only[hw,if_true] at h;exact .inl (Oper.wp_mono (fun a w h=>ih (i+1) a w ht h) h)
  .rename_i hw
   simp only[hw] at h;exact ih (i+1) _ w ht h
def ap1{P:Program}{id:Nat}{ops:Array Oper}{Q:Exit->Act->World->Prop}{a:Act}{w:World}
  (h:dB P ops Q ops.toList a w):(Code.region id ops false).wp P Q a w:=
 wp_region (aoZ _ 0 a w (by simp) (by simpa using h))
def Yd(P:Program)(C:aD)(fr:Fr)(own:List aw)(G:Gh)(o:Oper)(v:Value):Prop:=
 ∀a w,mj fr a->bt C own G w->(execOp a.eval o).run P w= .ok (.value v) w
section
variable {P:Program} {C:aD} {n:Nat} {fr:Fr} {own:List aw} {G:Gh} {ops:Array Oper} {Q:Exit->Act->World->Prop} {r:List Oper}
def tG{o:Oper}{v:Value}(hy:Yd P C fr own G o v)(hg:o.guard=none)(hd:b9 n o.dst=true)
  (h:St C n (put fr o.dst v) own G (dB P ops Q r)):St C n fr own G (dB P ops Q (o::r)):=by
 intro a w rl;simp only[dB,Region.wanted,hg,if_true,Oper.wp,hy a w rl.fr rl.h,Oper.upon];exact h _ _ (rl.put v hd)
def EL{a:Act}{j d:Nat}{b:Bool}(hf:mj fr a)(hj:(ops[j]?).bind (·.dst)=some d)(hl:iB fr d=some (.bool b)):yielded ops a.tmps j=some b:=by
 unfold yielded;rw[hj];simp[hf d _ hl]
def Us{o:Oper}{v:Value}{j d:Nat}{b:Bool}(hg:o.guard=some (j,b))(hj:(ops[j]?).bind (·.dst)=some d)(hl:iB fr d=some (.bool b))
  (hy:Yd P C fr own G o v)(hd:b9 n o.dst=true)
  (h:St C n (put fr o.dst v) own G (dB P ops Q r)):St C n fr own G (dB P ops Q (o::r)):=by
 intro a w rl;have:Region.wanted o (yielded ops a.tmps)=true:=by simp[Region.wanted,hg,EL rl.fr hj hl]
 simp only[dB,this,if_true,Oper.wp,hy a w rl.fr rl.h,Oper.upon];exact h _ _ (rl.put v hd)
def aCf{o:Oper}{j d:Nat}{b c:Bool}(hg:o.guard=some (j,b))(hj:(ops[j]?).bind (·.dst)=some d)(hl:iB fr d=some (.bool c))(hbc:(c==b)=false)
  (hd:b9 n o.dst=true)(h:St C n (put fr o.dst undef) own G (dB P ops Q r)):St C n fr own G (dB P ops Q (o::r)):=by
 intro a w rl;have:Region.wanted o (yielded ops a.tmps)=false:=by simp[Region.wanted,hg,EL rl.fr hj hl,hbc]
 simp only[dB,this];exact h _ _ (rl.put undef hd)
def zE(h:St C n fr own G (Q .normal)):St C n fr own G (dB P ops Q []):=h
def d6{id:Nat}(h:St C n fr own G (dB P ops Q ops.toList)):St C n fr own G ((Code.region id ops false).wp P Q):=
 fun a w rl=>ap1 (h a w rl)
def bw{x y:Code}(h:St C n fr own G (x.wp P (Exit.then (y.wp P Q) Q))):St C n fr own G ((Code.seq x y).wp P Q):=
 fun a w rl=>wp_seq (h a w rl)
def zK(h:St C n fr own G (Q .normal)):St C n fr own G (Code.skip.wp P Q):=fun a w rl=>wp_skip (h a w rl)
def du(h:St C n fr own G (Q .ret)):St C n fr own G (Code.ret.wp P Q):=fun a w rl=>wp_ret (h a w rl)
def jO{id:Nat}(h:St C n fr own G (Q (.exit id))):St C n fr own G ((Code.exit id).wp P Q):=fun a w rl=>wp_exit (h a w rl)
def d9{id:Nat}{c:Code}(h:St C n fr own G (c.wp P (Exit.inBlock id Q))):St C n fr own G ((Code.block id c).wp P Q):=
 fun a w rl=>wp_block (h a w rl)
def jw{id:Nat}{Q:Exit->Act->World->Prop}(h:St C n fr own G (Q .normal)):St C n fr own G (Exit.inBlock id Q (.exit id)):=
 fun a w rl=>by simp only[Exit.inBlock,if_true];exact h a w rl
def L3{id j:Nat}{Q:Exit->Act->World->Prop}(hne:Nat.beq j id=false)(h:St C n fr own G (Q (.exit j))):St C n fr own G (Exit.inBlock id Q (.exit j)):=
 fun a w rl=>by
  have:j≠id:=fun e=>by subst e;simp at hne
  simp only[Exit.inBlock,this,if_false];exact h a w rl
def rP{c:Operand}{x y:Code}(hc:aA fr c=some (.bool true))(h:St C n fr own G (x.wp P Q)):St C n fr own G ((Code.cond c x y).wp P Q):=
 fun a w rl=>wp_cond_true (bh rl.fr hc) (h a w rl)
def zg{c:Operand}{x y:Code}(hc:aA fr c=some (.bool false))(h:St C n fr own G (y.wp P Q)):St C n fr own G ((Code.cond c x y).wp P Q):=
 fun a w rl=>wp_cond_false (bh rl.fr hc) (h a w rl)
def gm{p:Prop}{inst:Decidable p}{c:Operand}{x y:Code}(hc:aA fr c=some (.bool (@decide p inst)))(h1:p->St C n fr own G (x.wp P Q))(h2: ¬p->St C n fr own G (y.wp P Q)):
  St C n fr own G ((Code.cond c x y).wp P Q):=
 fun a w rl=>wp_cond_split (bh rl.fr hc) (fun h=>h1 (of_decide_eq_true h) a w rl) (fun h=>h2 (of_decide_eq_false h) a w rl)
def axH{b:Bool}{c:Operand}{x y:Code}(hc:aA fr c=some (.bool b))(h1:b=true->St C n fr own G (x.wp P Q))(h2:b=false->St C n fr own G (y.wp P Q)):
  St C n fr own G ((Code.cond c x y).wp P Q):=
 fun a w rl=>wp_cond_split (bh rl.fr hc) (fun h=>h1 h a w rl) (fun h=>h2 h a w rl)
def TR{Φ:Act->World->Prop}(d:Nat){b:Bool}(hl:iB fr d=some (.bool b))(h1:b=true->St C n ((d, .bool true)::fr) own G Φ)(h2:b=false->St C n ((d, .bool false)::fr) own G Φ):St C n fr own G Φ:=by
 intro a w rl
 cases b with
 |true=>exact h1 J a w ⟨rl.h,rl.sz,fun k v hk=>by
   rw[vw] at hk;split at hk
   .subst_vars;cases hk;exact rl.fr _ _ hl
   .exact rl.fr _ _ hk,rl.df⟩
 |false=>exact h2 J a w ⟨rl.h,rl.sz,fun k v hk=>by
   rw[vw] at hk;split at hk
   .subst_vars;cases hk;exact rl.fr _ _ hl
   .exact rl.fr _ _ hk,rl.df⟩
def oI{Φ:Act->World->Prop}(d:Nat){p:Prop}{inst:Decidable p}(hl:iB fr d=some (.bool (@decide p inst)))(h1:p->St C n ((d, .bool true)::fr) own G Φ)(h2: ¬p->St C n ((d, .bool false)::fr) own G Φ):St C n fr own G Φ:=
 TR d hl (fun h=>h1 (of_decide_eq_true h)) (fun h=>h2 (of_decide_eq_false h))
def vk(fr' fr:Fr):Prop:= ∀k v,iB fr' k=some v->iB fr k=some v
def vk.nil:vk [] fr:=fun _ _ h=>by cases h
def vk.cons{fr':Fr}{k:Nat}{v:Value}(h:iB fr k=some v)(t:vk fr' fr):vk ((k,v)::fr') fr:=fun j u hj=>by
 rw[vw] at hj;split at hj
 .subst_vars;cases hj;exact h
 .exact t _ _ hj
end
class iI (own:List aw) (b:Nat) (cs:outParam (List Value)) (ty:outParam TypeId) (lo:outParam Bool):Prop where
 mem:⟨b,cs,ty,lo⟩∈own
instance iI.i1 (b:Nat) (cs:List Value) (ty:TypeId) (lo:Bool) (t:List aw):iI (⟨b,cs,ty,lo⟩::t) b cs ty lo:=⟨aZ⟩
instance iI.i2 (o:aw) (t:List aw) (b:Nat) (cs:List Value) (ty:TypeId) (lo:Bool) [h:iI t b cs ty lo]:iI (o::t) b cs ty lo:=⟨aK _ h.mem⟩
inductive f9:List aw->Nat->List Value->TypeId->Bool->List Value->List aw->Prop
 |hd (b:Nat) (cs cs':List Value) (ty:TypeId) (lo:Bool) (t:List aw):f9 (⟨b,cs,ty,lo⟩::t) b cs ty lo cs' (⟨b,cs',ty,lo⟩::t)
 |tl (o:aw) (t t':List aw) (b:Nat) (cs cs':List Value) (ty:TypeId) (lo:Bool) (h:f9 t b cs ty lo cs' t'):f9 (o::t) b cs ty lo cs' (o::t')
inductive kr:List aw->aw->List aw->Prop
 |hd (o:aw) (t:List aw):kr (o::t) o t
 |tl (x:aw) (t t':List aw) (o:aw) (h:kr t o t'):kr (x::t) o (x::t')
class GE (A:outParam Gh) (B:Gh):Prop where le:bp A B
class GL (A B:Gh):Prop where le:bp A B
instance GL.refl (A:Gh):GL A A:=⟨bp.refl A⟩
instance GL.step (A B C:Gh) [h:GE B C] [k:GL A B]:GL A C:=⟨k.le.trans h.le⟩
class Gd (G:outParam Gh) (b:Nat) (cs:outParam (List Value)):Prop where h:G b=some cs
def Gd.up{A G:Gh}{b:Nat}{cs:List Value}(h:Gd A b cs)[k:GL A G]:G b=some cs:=k.le _ _ h.h
def cD:List Value->Nat->Nat->Option (List Value)
 |_,0,0=>some []
 |[],0,_+1=>none
 |v::t,0,k+1=>match cD t 0 k with|some l=>some (v::l)|none=>none
 |[],_+1,_=>none
 |_::t,off+1,k=>cD t off k
def cC:List Value->Nat->List Value->List Value
 |cs,_,[]=>cs
 |cs,off,v::vs=>cC (cs.set off v) (off+1) vs
def qO: ∀(cs:List Value) (off k:Nat) (l:List Value),cD cs off k=some l->l.length=k/\ ∀i,i<k->cs[off+i]? =l[i]?
 |cs,0,0,l,h=>by
  cases cs<;>(simp only[cD] at h;cases h;exact⟨J,fun i hi=>absurd hi (sN _)⟩)
 |[],0,_+1,l,h=>by simp[cD] at h
 |v::t,0,k+1,l,h=>by
  simp only[cD] at h;split at h
  .rename_i l' hl'
   cases h
   obtain⟨h1,h2⟩:=qO t 0 k l' hl';refine⟨by simp[h1],fun i hi=>?_⟩
   cases i with
   |zero=>rfl
   |succ i=>
    have:=h2 i (by omega);simpa using this
  .cases h
 |[],_+1,_,l,h=>by simp[cD] at h
 |_::t,off+1,k,l,h=>by
  simp only[cD] at h;obtain⟨h1,h2⟩:=qO t off k l h;refine⟨h1,fun i hi=>?_⟩;have:=h2 i hi;rw[<-this,show off+1+i=(off+i)+1 by omega];rfl
class mC (P:Program) (t:TypeId) (k:outParam Nat):Prop where
 agg: ∀w,(isAgg t).run P w= .ok true w
 siz: ∀w,(sizeOf t).run P w= .ok k w
class jh (P:Program) (t:TypeId):Prop where
 agg: ∀w,(isAgg t).run P w= .ok false w
 siz: ∀w,(sizeOf t).run P w= .ok 1 w
class iE (P:Program) (t:TypeId) (z:outParam Value):Prop where
 inf:(P.info? t).map (·.zero)=some (some z)
class oG (P:Program) (t:TypeId) (f:Nat) (off:outParam Nat):Prop where
 at_: ∀(b o:Nat) w,(Instr.fieldAt t (.pointer (some ⟨b,o,none⟩)) f).run P w= .ok (.pointer (some (Addr.add ⟨b,o,none⟩ off))) w
class cp (P:Program) (t:TypeId) (e s by_:outParam Nat):Prop where
 un:P.underlying t=some (.slice e)
 inf:(P.info? e).map (fun i=>(i.size,i.bytes))=some (s,by_)
def iE.info{P:Program}{t:TypeId}{z:Value}(h:iE P t z): ∃i,P.info? t=some i/\i.zero=some z:=by
 have:=h.inf
 cases hi:P.info? t with
 |none=>rw[hi] at this;cases this
 |some i=>rw[hi] at this;exact⟨i,J,by simpa using this⟩
def cp.info{P:Program}{t e s by_:Nat}(h:cp P t e s by_): ∃i,P.info? e=some i/\i.size=s/\i.bytes=by_:=by
 have:=h.inf
 cases hi:P.info? e with
 |none=>rw[hi] at this;cases this
 |some i=>rw[hi] at this;simp at this;exact⟨i,J,this.1,this.2⟩
def pB(b o n:Nat):Addr.add ⟨b,o,none⟩ n=⟨b,o+n,none⟩:=by
 unfold Addr.add;split
 .subst_vars;rfl
 .rfl
def Sem.run_bind{α β:Type}(P:Program)(x:Sem α)(f:α->Sem β): ∀(w:World),(x>>=f).run P w=match x.run P w with| .ok a w'=>(f a).run P w'| .halt h w'=> .halt h w':=by
 show∀w,(Sem.bind x f).run P w=_
 induction x with
 |pure a=>intro w;rfl
 |load m a k ih=>
  intro w;simp only[Sem.bind,Sem.run];split
  .exact ih _ w
  .split
   .exact ih _ w
   .rfl
 |store m a v k ih=>
  intro w
  cases v<;>simp only[Sem.bind,Sem.run]<;>(try rfl)<;>(split<;>first|(split<;>first|rfl|exact ih _)|rfl)
 |new o k ih=>intro w;exact ih _ _
 |shape r k ih=>intro w;exact ih _ _
 |freeze a n k ih=>intro w;exact ih _
 |frozen a k ih=>intro w;exact ih _ _
 |getObj r k ih=>
  intro w;simp only[Sem.bind,Sem.run];split
  .rfl
  .exact ih _ w
  .rfl
 |setObj r o k ih=>
  intro w;simp only[Sem.bind,Sem.run];split
  .rfl
  .exact ih _
  .rfl
 |choose q k ih=>
  intro w;simp only[Sem.bind,Sem.run];split
  .exact ih _ _
  .exact ih _ _
 |sys c k ih=>intro w;exact ih _ _
 |program k ih=>intro w;exact ih _ _
 |mark m k ih=>intro w;exact ih _
 |halt h=>intro w;rfl
def run_pure{α:Type}(P:Program)(a:α)(w:World):(pure a:Sem α).run P w= .ok a w:=rfl
def aI{α β:Type}{P:Program}{x:Sem α}{f:α->Sem β}{w w':World}{a:α}(h:x.run P w= .ok a w'):(x>>=f).run P w=(f a).run P w':=by
 rw[Sem.run_bind,h]
def iE.zero{P:Program}{t:TypeId}{z:Value}(h:iE P t z)(w:World):(zeroValue t).run P w= .ok z w:=by
 obtain⟨i,h1,h2⟩:=h.info;simp[zeroValue,typeInfo,program,Sem.run_bind,Sem.run,h1,h2,run_pure]
def cp.u{P:Program}{t e s by_:Nat}(h:cp P t e s by_)(w:World):(underlying t).run P w= .ok (.slice e) w:=by
 simp[underlying,program,Sem.run_bind,Sem.run,h.un,run_pure]
def cp.siz{P:Program}{t e s by_:Nat}(h:cp P t e s by_)(w:World):(sizeOf e).run P w= .ok s w:=by
 obtain⟨i,h1,h2,_⟩:=h.info;simp[sizeOf,typeInfo,program,Sem.run_bind,Sem.run,h1,h2,run_pure]
section
variable {P:Program} {C:aD} {n:Nat} {fr:Fr} {own:List aw} {G:Gh} {ops:Array Oper} {Q:Exit->Act->World->Prop} {r:List Oper}
def BC{w:World}{b:Nat}{cs:List Value}{ty:TypeId}{fz:Nat×Nat}(h:w.heap[b]? =some (.cells ⟨cs⟩ ty fz))(i:Nat):w.cell? ⟨b,i,none⟩=cs[i]? :=by
 simp[World.cell?,h]
def QT{w:World}{a:Addr}{v:Value}(h:w.cell? a=some v):(load a).run P w= .ok v w:=by
 simp[load,Sem.run,h]
def Jc{w:World}{b off:Nat}{l:List Value}: ∀(m i:Nat) (acc:Array Value),(∀j,j<m->w.cell? ⟨b,off+(i+j),none⟩=l[i+j]?)->i+m<=l.length->
  (loadCellsFrom ⟨b,off,none⟩ i m acc).run P w= .ok (acc++((l.drop i).take m).toArray) w
 |0,i,acc,_,_=>by simp[loadCellsFrom,run_pure]
 |m+1,i,acc,h,hl=>by
  have h0:=h 0 (by omega);rw[fX,aQ (by omega)] at h0;unfold loadCellsFrom;rw[aI (a:=l[i]) (w':=w) (by rw[pB];exact QT h0)];rw[Jc m (i+1) (acc.push l[i]) (fun j hj=>by have:=h (j+1) (by omega);rw[show i+1+j=i+(j+1) by omega];exact this) (by omega)];congr 1;rw[bX (by omega:i<l.length),mN];apply Array.ext';simp
def GR{w:World}{b off k:Nat}{t:TypeId}{cs l:List Value}[ht:mC P t k]{ty:TypeId}{fz:Nat×Nat}(h:w.heap[b]? =some (.cells ⟨cs⟩ ty fz))(hl:cD cs off k=some l):
  (loadVar t ⟨b,off,none⟩).run P w= .ok (.agg ⟨l⟩) w:=by
 obtain⟨h1,h2⟩:=qO _ _ _ _ hl;unfold loadVar;rw[aI (ht.agg w)];simp only[if_true];rw[aI (ht.siz w)];unfold loadCells;rw[aI (Jc (l:=l) k 0 #[] (fun j hj=>by rw[BC h];simpa using h2 j hj) (by omega))];simp[run_pure,<-h1]
def F'{w:World}{b off:Nat}{t:TypeId}{cs:List Value}{v:Value}[ht:jh P t]{ty:TypeId}{fz:Nat×Nat}(h:w.heap[b]? =some (.cells ⟨cs⟩ ty fz))(hl:cs[off]? =some v):
  (loadVar t ⟨b,off,none⟩).run P w= .ok v w:=by
 unfold loadVar;rw[aI (ht.agg w)];simp only[jT,if_false];exact QT (by rw[BC h];exact hl)
def c7{α:Type}{f:α->Next}{s:Sem α}{w w':World}{a:α}(h:s.run P w= .ok a w'):(do pure (f (<-s)):Sem Next).run P w= .ok (f a) w':=by
 rw[aI h];rfl
def DS{dst:Option Nat}{t ty':TypeId}{pos:String}{af:Array Edge}{gd:Option (Nat×Bool)}{x:Operand}{b off k:Nat}{cs l:List Value}{lo:Bool}{ty:TypeId}
  (hx:aA fr x=some (.pointer (some ⟨b,off,none⟩)))[ho:iI own b cs ty lo][mC P t k](hl:cD cs off k=some l):
  Yd P C fr own G ⟨dst, .load t x,ty',pos,af,gd⟩ (.agg ⟨l⟩):=by
 intro a w hf hh;simp only[execOp,bh hf hx,Instr.loadAt,Instr.sureAddr];exact c7 (GR (hh.hown _ ho.mem).1 hl)
def ma{dst:Option Nat}{t ty':TypeId}{pos:String}{af:Array Edge}{gd:Option (Nat×Bool)}{x:Operand}{b off:Nat}{cs:List Value}{v:Value}{lo:Bool}{ty:TypeId}
  (hx:aA fr x=some (.pointer (some ⟨b,off,none⟩)))[ho:iI own b cs ty lo][jh P t](hl:cs[off]? =some v):
  Yd P C fr own G ⟨dst, .load t x,ty',pos,af,gd⟩ v:=by
 intro a w hf hh;simp only[execOp,bh hf hx,Instr.loadAt,Instr.sureAddr];exact c7 (F' (hh.hown _ ho.mem).1 hl)
def QW{dst:Option Nat}{t ty':TypeId}{pos:String}{af:Array Edge}{gd:Option (Nat×Bool)}{x:Operand}{b off k:Nat}{cs l:List Value}
  (hx:aA fr x=some (.pointer (some ⟨b,off,none⟩)))(hg:G b=some cs)[mC P t k](hl:cD cs off k=some l):
  Yd P C fr own G ⟨dst, .load t x,ty',pos,af,gd⟩ (.agg ⟨l⟩):=by
 intro a w hf hh;obtain⟨ty,fz,hb⟩:=hh.sub _ _ hg;simp only[execOp,bh hf hx,Instr.loadAt,Instr.sureAddr];exact c7 (GR hb hl)
def LG{dst:Option Nat}{t ty':TypeId}{pos:String}{af:Array Edge}{gd:Option (Nat×Bool)}{x:Operand}{b off:Nat}{cs:List Value}{v:Value}
  (hx:aA fr x=some (.pointer (some ⟨b,off,none⟩)))(hg:G b=some cs)[jh P t](hl:cs[off]? =some v):
  Yd P C fr own G ⟨dst, .load t x,ty',pos,af,gd⟩ v:=by
 intro a w hf hh;obtain⟨ty,fz,hb⟩:=hh.sub _ _ hg;simp only[execOp,bh hf hx,Instr.loadAt,Instr.sureAddr];exact c7 (F' hb hl)
variable {dst:Option Nat} {t t' ty':TypeId} {pos:String} {af:Array Edge} {gd:Option (Nat×Bool)} {x y:Operand}
def f7{v:Value}(hx:aA fr x=some v):Yd P C fr own G ⟨dst, .move x,ty',pos,af,gd⟩ v:=by
 intro a w hf hh;simp only[execOp,bh hf hx];rfl
def Gk{v:Value}(hx:aA fr x=some v):Yd P C fr own G ⟨dst, .assign x,ty',pos,af,gd⟩ v:=by
 intro a w hf hh;simp only[execOp,bh hf hx];rfl
def rG{z:Operand}{v:Value}(hc:aA fr z=some (.bool true))(hx:aA fr x=some v):Yd P C fr own G ⟨dst, .pick z x y,ty',pos,af,gd⟩ v:=by
 intro a w hf hh;simp only[execOp,bh hf hc,bh hf hx,asBool];rfl
def mp{z:Operand}{v:Value}(hc:aA fr z=some (.bool false))(hx:aA fr y=some v):Yd P C fr own G ⟨dst, .pick z x y,ty',pos,af,gd⟩ v:=by
 intro a w hf hh;simp only[execOp,bh hf hc,bh hf hx,asBool];rfl
def n5{ad:Addr}(hx:aA fr x=some (.pointer (some ad))):Yd P C fr own G ⟨dst, .nilCheck x,ty',pos,af,gd⟩ (.pointer (some ad)):=by
 intro a w hf hh;simp only[execOp,bh hf hx];rfl
def ow{b o f off:Nat}[hF:oG P t f off](hx:aA fr x=some (.pointer (some ⟨b,o,none⟩))):
  Yd P C fr own G ⟨dst, .fieldAddr t x f,ty',pos,af,gd⟩ (.pointer (some ⟨b,o+off,none⟩)):=by
 intro a w hf hh;simp only[execOp,bh hf hx];have:=hF.at_ b o w;rw[pB] at this;exact c7 this
def F9{vs:Array Value}{i:Nat}{v:Value}(hx:aA fr x=some (.tuple vs))(hv:vs[i]? =some v):Yd P C fr own G ⟨dst, .extract x i,ty',pos,af,gd⟩ v:=by
 intro a w hf hh;simp only[execOp,bh hf hx,Instr.extract,hv];rfl
def UF{fn:Fn}{c1 c2:Array Operand}{l1 l2:List Value}(h1:c1.toList.mapM (aA fr)=some l1)(h2:c2.toList.mapM (aA fr)=some l2):
  Yd P C fr own G ⟨dst, .makeFunc fn c1 c2,ty',pos,af,gd⟩ (.func fn ⟨l1⟩ ⟨l2⟩):=by
 intro a w hf hh;have key: ∀(l:List Operand) (m:List Value),l.mapM (aA fr)=some m->l.map a.eval=m:=by
  intro l
  induction l with
  |nil=>intro m h;simp at h;subst h;rfl
  |cons o t ih=>
   intro m h;rw[rU] at h
   cases ho:aA fr o with
   |none=>simp[ho] at h
   |some u=>
    cases ht:t.mapM (aA fr) with
    |none=>simp[ho,ht] at h
    |some m'=>
     simp[ho,ht] at h;subst h;simp[bh hf ho,ih _ ht]
 have e1:c1.map a.eval=⟨l1⟩:=by apply Array.ext';simpa using key _ _ h1
 have e2:c2.map a.eval=⟨l2⟩:=by apply Array.ext';simpa using key _ _ h2
 simp only[execOp,e1,e2];rfl
def ja{op:BinOp}{k:IntKind}{p q:Int}{v:Value}(hx:aA fr x=some (.int k p))(hy:aA fr y=some (.int k q))(hs: ∀w,(binOp op t (.int k p) (.int k q)).run P w= .ok v w):
  Yd P C fr own G ⟨dst, .binOp op t x y t',ty',pos,af,gd⟩ v:=by
 intro a w hf hh;simp only[execOp,bh hf hx,bh hf hy];have:(eqGuard op t x y (.int k p) (.int k q)).run P w= .ok () w:=by cases op<;>rfl
 exact c7 (by rw[aI this];exact hs w)
def PA(k:IntKind)(p q:Int)(w:World):(binOp .add t (.int k p) (.int k q)).run P w= .ok (.int k (k.wrap (p+q))) w:=by simp[binOp,Op.intArith,run_pure]
def OQ(k:IntKind)(p q:Int)(w:World):(binOp .sub t (.int k p) (.int k q)).run P w= .ok (.int k (k.wrap (p-q))) w:=by simp[binOp,Op.intArith,run_pure]
def avz(k:IntKind)(p q:Int)(w:World):(binOp .mul t (.int k p) (.int k q)).run P w= .ok (.int k (k.wrap (p*q))) w:=by simp[binOp,Op.intArith,run_pure]
def av4(k:IntKind)(p q:Int)(w:World)(h:q≠0):(binOp .quo t (.int k p) (.int k q)).run P w= .ok (.int k (k.wrap (p.tdiv q))) w:=by simp[binOp,Op.intDiv,run_pure,h]
def Vs(k:IntKind)(p q:Int)(w:World)(h:q≠0):(binOp .rem t (.int k p) (.int k q)).run P w= .ok (.int k (p.tmod q)) w:=by simp[binOp,Op.intDiv,run_pure,h]
def aul(k:IntKind)(p q:Int)(w:World):(binOp .lss t (.int k p) (.int k q)).run P w= .ok (.bool (decide (p<q))) w:=by simp[binOp,Op.intCmp,run_pure]
def TJ(k:IntKind)(p q:Int)(w:World):(binOp .leq t (.int k p) (.int k q)).run P w= .ok (.bool (decide (p<=q))) w:=by simp[binOp,Op.intCmp,run_pure]
def atW(k:IntKind)(p q:Int)(w:World):(binOp .gtr t (.int k p) (.int k q)).run P w= .ok (.bool (decide (q<p))) w:=by simp[binOp,Op.intCmp,run_pure]
def Zd(k:IntKind)(p q:Int)(w:World):(binOp .geq t (.int k p) (.int k q)).run P w= .ok (.bool (decide (q<=p))) w:=by simp[binOp,Op.intCmp,run_pure]
def Tw(k:IntKind)(p q:Int)(w:World):(binOp .eql t (.int k p) (.int k q)).run P w= .ok (.bool (decide (p=q))) w:=by
 have:(p==q)=decide (p=q):=by rw[Bool.eq_iff_iff];simp
 simp[binOp,Op.intCmp,run_pure,this]
def VZ(k:IntKind)(p q:Int)(w:World):(binOp .neq t (.int k p) (.int k q)).run P w= .ok (.bool (decide (p≠q))) w:=by
 have:(p !=q)=decide (p≠q):=by rw[Bool.eq_iff_iff];simp
 simp[binOp,Op.intCmp,run_pure,this]
def uj{k:IntKind}{p:Int}(h:k.min<=p/\p<=k.max):k.wrap p=p:=by
 cases k<;>simp only[IntKind.min,IntKind.max,IntKind.wrap,IntKind.bits,IntKind.signed] at* <;>simp at h⊢ <;>(try split)<;>omega
def HT{k:IntKind}{p q:Int}(hx:aA fr x=some (.int k p))(hy:aA fr y=some (.int k q))(h:k.min<=p+q/\p+q<=k.max):Yd P C fr own G ⟨dst, .binOp .add t x y t',ty',pos,af,gd⟩ (.int k (p+q)):=
 ja hx hy fun w=>by rw[PA,uj h]
def Ih{k:IntKind}{p q:Int}(hx:aA fr x=some (.int k p))(hy:aA fr y=some (.int k q))(h:k.min<=p-q/\p-q<=k.max):Yd P C fr own G ⟨dst, .binOp .sub t x y t',ty',pos,af,gd⟩ (.int k (p-q)):=
 ja hx hy fun w=>by rw[OQ,uj h]
def J9{k:IntKind}{p q:Int}(hx:aA fr x=some (.int k p))(hy:aA fr y=some (.int k q))(h:k.min<=p*q/\p*q<=k.max):Yd P C fr own G ⟨dst, .binOp .mul t x y t',ty',pos,af,gd⟩ (.int k (p*q)):=
 ja hx hy fun w=>by rw[avz,uj h]
def Z5{k:IntKind}{p q:Int}(hx:aA fr x=some (.int k p))(hy:aA fr y=some (.int k q)):Yd P C fr own G ⟨dst, .binOp .add t x y t',ty',pos,af,gd⟩ (.int k (k.wrap (p+q))):=ja hx hy fun w=>PA k p q w
def wK{k:IntKind}{p q:Int}(hx:aA fr x=some (.int k p))(hy:aA fr y=some (.int k q)):Yd P C fr own G ⟨dst, .binOp .sub t x y t',ty',pos,af,gd⟩ (.int k (k.wrap (p-q))):=ja hx hy fun w=>OQ k p q w
def Lv{k:IntKind}{p q:Int}(hx:aA fr x=some (.int k p))(hy:aA fr y=some (.int k q))(h:q≠0):Yd P C fr own G ⟨dst, .binOp .quo t x y t',ty',pos,af,gd⟩ (.int k (k.wrap (p.tdiv q))):=ja hx hy fun w=>av4 k p q w h
def Lr{k:IntKind}{p q:Int}(hx:aA fr x=some (.int k p))(hy:aA fr y=some (.int k q))(h:q≠0):Yd P C fr own G ⟨dst, .binOp .rem t x y t',ty',pos,af,gd⟩ (.int k (p.tmod q)):=ja hx hy fun w=>Vs k p q w h
def ju{k:IntKind}{p q:Int}(hx:aA fr x=some (.int k p))(hy:aA fr y=some (.int k q)):Yd P C fr own G ⟨dst, .binOp .lss t x y t',ty',pos,af,gd⟩ (.bool (decide (p<q))):=ja hx hy fun w=>aul k p q w
def aGo{k:IntKind}{p q:Int}(hx:aA fr x=some (.int k p))(hy:aA fr y=some (.int k q)):Yd P C fr own G ⟨dst, .binOp .leq t x y t',ty',pos,af,gd⟩ (.bool (decide (p<=q))):=ja hx hy fun w=>TJ k p q w
def tP{k:IntKind}{p q:Int}(hx:aA fr x=some (.int k p))(hy:aA fr y=some (.int k q)):Yd P C fr own G ⟨dst, .binOp .gtr t x y t',ty',pos,af,gd⟩ (.bool (decide (q<p))):=ja hx hy fun w=>atW k p q w
def uJ{k:IntKind}{p q:Int}(hx:aA fr x=some (.int k p))(hy:aA fr y=some (.int k q)):Yd P C fr own G ⟨dst, .binOp .geq t x y t',ty',pos,af,gd⟩ (.bool (decide (q<=p))):=ja hx hy fun w=>Zd k p q w
def i9{k:IntKind}{p q:Int}(hx:aA fr x=some (.int k p))(hy:aA fr y=some (.int k q)):Yd P C fr own G ⟨dst, .binOp .eql t x y t',ty',pos,af,gd⟩ (.bool (decide (p=q))):=ja hx hy fun w=>Tw k p q w
def vt{k:IntKind}{p q:Int}(hx:aA fr x=some (.int k p))(hy:aA fr y=some (.int k q)):Yd P C fr own G ⟨dst, .binOp .neq t x y t',ty',pos,af,gd⟩ (.bool (decide (p≠q))):=ja hx hy fun w=>VZ k p q w
variable {e s by_:Nat}
def o4[hT:cp P t e s by_]{ad:Option Addr}{len cap:Nat}(hx:aA fr x=some (.slice ad len cap)):
  Yd P C fr own G ⟨dst, .call ⟨.builtin .len, #[x], #[t]⟩,ty',pos,af,gd⟩ (.int .i64 len):=by
 intro a w hf hh;simp only[execOp,resolve,gN,cV,kX,bh hf hx];have h1:(Builtin.len_ #[t] ty' #[.slice ad len cap]).run P w= .ok (.int .i64 len) w:=by
  simp only[Builtin.len_];show(underlying t>>=_).run P w=_;rw[aI (hT.u w)];rfl
 exact c7 h1
def y9[hT:cp P t e s by_]{k:IntKind}{b off len cap:Nat}{i:Int}(hx:aA fr x=some (.slice (some ⟨b,off,none⟩) len cap))(hy:aA fr y=some (.int k i))(h0:0<=i)(h1:i<len):
  Yd P C fr own G ⟨dst, .indexAddr t x y,ty',pos,af,gd⟩ (.pointer (some ⟨b,off+i.toNat*s,none⟩)):=by
 intro a w hf hh;simp only[execOp,bh hf hx,bh hf hy];have:(Instr.indexAt t (.slice (some ⟨b,off,none⟩) len cap) (.int k i)).run P w= .ok (.pointer (some ⟨b,off+i.toNat*s,none⟩)) w:=by
  unfold Instr.indexAt;show(underlying t>>=_).run P w=_;rw[aI (hT.u w)];show(underlying t>>=_).run P w=_;rw[aI (hT.u w)];simp only[h0,h1,and_self,if_true];show(sizeOf e>>=_).run P w=_;rw[aI (hT.siz w),pB];rfl
 exact c7 this
def yX{k:IntKind}{v:Int}{m:Nat}{c:BoundsCode}(w:World)(h0:0<=v)(h1:v<=m):(Instr.sliceBound (.int k v) m c).run P w= .ok v.toNat w:=by
 unfold Instr.sliceBound;simp[asIntOf,h0,h1,run_pure]
def m8(ad:Option Addr)(len cap lo hi mx s:Nat):Value:= .slice (if mx=lo then ad else ad.map (·.add (lo*s))) (hi-lo) (mx-lo)
def A2[hT:cp P t e s by_]{ad:Option Addr}{len cap:Nat}(w:World){lo hi mx:Option Value}{l h m:Nat}(hb: ∀w,(Instr.sliceBounds true len cap lo hi mx).run P w= .ok (l,h,m) w):
  (Instr.sliceAt t (.slice ad len cap) lo hi mx).run P w= .ok (m8 ad len cap l h m s) w:=by
 unfold Instr.sliceAt;rw[aI (hT.u w)];show(Instr.slice t (.slice ad len cap) lo hi mx).run P w=_;unfold Instr.slice;rw[aI (hT.u w)];show(Instr.sliceBounds true len cap lo hi mx>>=_).run P w=_;rw[aI (hb w)];show(sizeOf e>>=_).run P w=_;rw[aI (hT.siz w)];rfl
def yl[hT:cp P t e s by_]{k:IntKind}{ad:Option Addr}{len cap:Nat}{h:Int}(hx:aA fr x=some (.slice ad len cap))(hy:aA fr y=some (.int k h))(h0:0<=h:=by omega)(h1:h<=cap:=by omega):
  Yd P C fr own G ⟨dst, .slice t x none (some y) none,ty',pos,af,gd⟩ (.slice ad h.toNat cap):=by
 intro a w hf hh;simp only[execOp,bh hf hx,bh hf hy,qM,jX];have:=A2 (P:=P) (t:=t) (ad:=ad) (len:=len) (cap:=cap) w (lo:=none) (hi:=some (.int k h)) (mx:=none) (l:=0) (h:=h.toNat) (m:=cap) (fun w=>by
  simp[Instr.sliceBounds,yX w h0 h1,Result.andThen])
 have e2:m8 ad len cap 0 h.toNat cap s= .slice ad h.toNat cap:=by
  unfold m8
  cases ad with
  |none=>simp
  |some ad=>simp[Addr.add]
 rw[<-e2];exact c7 this
def Ca[hT:cp P t e s by_]{k:IntKind}{ad:Option Addr}{len cap:Nat}{l:Int}(hx:aA fr x=some (.slice ad len cap))(hy:aA fr y=some (.int k l))(h0:0<=l:=by omega)(h1:l<=len:=by omega):
  Yd P C fr own G ⟨dst, .slice t x (some y) none none,ty',pos,af,gd⟩ (m8 ad len cap l.toNat len cap s):=by
 intro a w hf hh;simp only[execOp,bh hf hx,bh hf hy,qM,jX];exact c7 (A2 (P:=P) (t:=t) (ad:=ad) (len:=len) (cap:=cap) w (lo:=some (.int k l)) (hi:=none) (mx:=none) (fun w=>by
  simp[Instr.sliceBounds,yX w h0 h1,Result.andThen]))
def Y4[hT:cp P t e s by_]{k k':IntKind}{ad:Option Addr}{len cap:Nat}{l h:Int}{z:Operand}(hx:aA fr x=some (.slice ad len cap))(hy:aA fr y=some (.int k l))(hz:aA fr z=some (.int k' h))(h0:0<=l)(h1:l<=h)(h2:h<=cap):
  Yd P C fr own G ⟨dst, .slice t x (some y) (some z) none,ty',pos,af,gd⟩ (m8 ad len cap l.toNat h.toNat cap s):=by
 intro a w hf hh;simp only[execOp,bh hf hx,bh hf hy,bh hf hz,qM,jX];exact c7 (A2 (P:=P) (t:=t) (ad:=ad) (len:=len) (cap:=cap) w (lo:=some (.int k l)) (hi:=some (.int k' h)) (mx:=none) (fun w=>by
  have h1':l<=(h.toNat:Int):=by omega
  simp[Instr.sliceBounds,yX w (Int.le_trans h0 h1) h2,yX w h0 h1',Result.andThen]))
def asp[hT:cp P t e s by_]{k k':IntKind}{ad:Option Addr}{len cap:Nat}{h m:Int}{z:Operand}(hx:aA fr x=some (.slice ad len cap))(hy:aA fr y=some (.int k h))(hz:aA fr z=some (.int k' m))(h0:0<=h)(h1:h<=m)(h2:m<=cap):
  Yd P C fr own G ⟨dst, .slice t x none (some y) (some z),ty',pos,af,gd⟩ (.slice ad h.toNat m.toNat):=by
 intro a w hf hh;simp only[execOp,bh hf hx,bh hf hy,bh hf hz,qM,jX];have:=A2 (P:=P) (t:=t) (ad:=ad) (len:=len) (cap:=cap) w (lo:=none) (hi:=some (.int k h)) (mx:=some (.int k' m)) (l:=0) (h:=h.toNat) (m:=m.toNat) (fun w=>by
  have h1':h<=(m.toNat:Int):=by omega
  simp[Instr.sliceBounds,yX w (Int.le_trans h0 h1) h2,yX w h0 h1',Result.andThen])
 have e2:m8 ad len cap 0 h.toNat m.toNat s= .slice ad h.toNat m.toNat:=by
  unfold m8
  cases ad with
  |none=>simp
  |some ad=>simp[Addr.add]
 rw[<-e2];exact c7 this
class ng (P:Program) (t:TypeId) (k:outParam IntKind):Prop where u: ∀w,(underlying t).run P w= .ok (.int k) w
def D2{k k':IntKind}{p:Int}[hs:ng P t k][hd:ng P t' k'](hx:aA fr x=some (.int k p)):Yd P C fr own G ⟨dst, .convert t t' x,ty',pos,af,gd⟩ (.int k' (k'.wrap p)):=by
 intro a w hf hh;simp only[execOp,bh hf hx];have:(convert t t' (.int k p)).run P w= .ok (.int k' (k'.wrap p)) w:=by
  unfold convert;rw[aI (hs.u w),aI (hd.u w)];rfl
 exact c7 this
def IK{k k':IntKind}{p:Int}[hs:ng P t k][hd:ng P t' k'](hx:aA fr x=some (.int k p))(h:k'.min<=p/\p<=k'.max):Yd P C fr own G ⟨dst, .convert t t' x,ty',pos,af,gd⟩ (.int k' p):=by
 have:=D2 (P:=P) (C:=C) (own:=own) (G:=G) (dst:=dst) (ty':=ty') (pos:=pos) (af:=af) (gd:=gd) (t:=t) (t':=t') hx;rwa [uj h] at this
def Dd{b:Bool}(hx:aA fr x=some (.bool b)):Yd P C fr own G ⟨dst, .unOp .not t x,ty',pos,af,gd⟩ (.bool (!b)):=by
 intro a w hf hh;simp only[execOp,bh hf hx,Op.unary];rfl
def F5{k:IntKind}{p:Int}(hx:aA fr x=some (.int k p)):Yd P C fr own G ⟨dst, .unOp .neg t x,ty',pos,af,gd⟩ (.int k (k.wrap (0-p))):=by
 intro a w hf hh;simp only[execOp,bh hf hx,Op.unary,Op.intArith];rfl
end
def il{w:World}{b:Nat}{o:Obj}(h:w.heap[b]? =some o):b<w.heap.size:=by
 rcases iL b w.heap.size with h'|h'
 .exact h'
 .simp[nZ h'] at h
def bt.gnone{C:aD}{own:List aw}{G:Gh}{w:World}(h:bt C own G w){b:Nat}(hb:w.heap.size<=b):G b=none:=by
 cases hG:G b with
 |none=>rfl
 |some cs=>
  obtain⟨ty,fz,hc⟩:=h.sub b cs hG;have:=il hc;omega
def bt.alloc{C:aD}{own:List aw}{G:Gh}{w:World}(h:bt C own G w)(cs:List Value)(ty:TypeId):
  bt C (⟨w.heap.size,cs,ty,true⟩::own) G (w.alloc (.cells ⟨cs⟩ ty)):=by
 have old: ∀b,b<w.heap.size->(w.alloc (.cells ⟨cs⟩ ty)).heap[b]? =w.heap[b]? :=fun b hb=>RowKit.Below.heap_alloc _ _ _ hb;refine⟨h.os,h.tape,h.output,?_,?_,?_,h.gle,h.gold,?_,?_,h.dr,fun p hp=>⟨(h.ext p hp).1,by rw[old _ (il (h.ext p hp).2)];exact(h.ext p hp).2⟩⟩
 .have:=h.size;simp;omega
 .intro b hb hm;rw[old b (by have:=h.size;omega)];exact h.keep b hb hm
 .intro b cs' hb
  obtain⟨ty',fz,hc⟩:=h.sub b cs' hb;exact⟨ty',fz,by rw[old b (il hc)];exact hc⟩
 .intro o ho
  rcases aT.1 ho with rfl|ho
  .refine⟨by show(w.heap.push _)[w.heap.size]? =_;simp,h.gnone (aM _),fun _=>h.size,fun e=>by cases e⟩
  .obtain⟨h1,h2⟩:=h.hown o ho
   exact⟨by rw[old _ (il h1)];exact h1,h2⟩
 .refine List.Pairwise.cons ?_ h.nd
  intro o ho;have:=il (h.hown o ho).1;show w.heap.size≠o.b;omega
def gz(w:World)(b:Nat)(o:Obj):World:={w with heap:=w.heap.setIfInBounds b o}
def Da{l:List aw}:l.Pairwise (fun x y=>x.b≠y.b)↔(l.map (·.b)).Pairwise (· ≠ ·):=by rw[rT]
def f9.spec{own own':List aw}{b:Nat}{cs cs':List Value}{ty:TypeId}{lo:Bool}(h:f9 own b cs ty lo cs' own')(nd:own.Pairwise (fun x y=>x.b≠y.b)):
  ⟨b,cs,ty,lo⟩∈own/\(∀o,o∈own'->o=⟨b,cs',ty,lo⟩\/(o∈own/\o.b≠b))/\own'.map (·.b)=own.map (·.b):=by
 induction h with
 |hd b cs cs' ty lo t=>
  refine⟨aZ,fun o ho=>?_,J⟩;rcases aT.1 ho with rfl|h
  .exact .inl J
  .exact .inr ⟨aK _ h,Ne.symm ((bR.1 nd).1 _ h)⟩
 |tl o t t' b cs cs' ty lo h ih=>
  obtain⟨h1,h2,h3⟩:=ih (bR.1 nd).2;refine⟨aK _ h1,fun x hx=>?_,by simp[h3]⟩;rcases aT.1 hx with rfl|hx
  .exact .inr ⟨aZ,(bR.1 nd).1 _ h1⟩
  .exact(h2 x hx).imp id (fun k=>⟨aK _ k.1,k.2⟩)
def CX{w:World}{b k:Nat}{o:Obj}(hk:k≠b):(gz w b o).heap[k]? =w.heap[k]? :=by
 simp only[gz];rw[eX];simp[Ne.symm hk]
def OK{w:World}{b:Nat}{o:Obj}(hb:b<w.heap.size):(gz w b o).heap[b]? =some o:=by
 simp only[gz];rw[eX];simp[hb]
def bt.extNe{C:aD}{own:List aw}{G:Gh}{w:World}(h:bt C own G w){p:Nat×Obj}(hp:p∈C.ex){b:Nat}{cs:Array Value}{ty:TypeId}{z:Nat×Nat}(hb:w.heap[b]? =some (.cells cs ty z)):p.1≠b:=fun e=>by
 obtain⟨h1,h2⟩:=h.ext p hp;rw[e,hb] at h2;exact h1 _ _ _ (Option.some.inj h2).symm
def bt.extM{C:aD}{M rest:List aw}{G:Gh}{w:World}(h:bt C (M++rest) G w){p:Nat×Obj}(hp:p∈C.ex):p.1∉M.map (·.b):=fun hm=>by
 obtain⟨m,hm,e⟩:=bQ.1 hm;exact h.extNe hp (h.hown m (bM _ hm)).1 e.symm
def bt.store{C:aD}{own own':List aw}{G:Gh}{w:World}{b:Nat}{cs cs':List Value}{ty:TypeId}{lo:Bool}(h:bt C own G w)(hu:f9 own b cs ty lo cs' own'):
  bt C own' G (gz w b (.cells ⟨cs'⟩ ty (0,0))):=by
 obtain⟨h1,h2,h3⟩:=hu.spec h.nd;obtain⟨hb,hGb,hlo1,hlo2⟩:=h.hown _ h1;have hlt:=il hb;refine⟨h.os,h.tape,h.output,by simpa[gz] using h.size,?_,?_,h.gle,h.gold,?_,Da.2 (h3▸Da.1 h.nd),h.dr,fun p hp=>⟨(h.ext p hp).1,by rw[CX (h.extNe hp hb)];exact(h.ext p hp).2⟩⟩
 .intro k hk hm
  by_cases hkb:k=b
  .subst hkb
   cases hlo:lo with
   |true=>have h5:=hlo1 hlo;simp only[] at h5;omega
   |false=>exact absurd (hlo2 hlo) hm
  .rw[CX hkb];exact h.keep k hk hm
 .intro k cs1 hk
  obtain⟨ty',fz,hc⟩:=h.sub k cs1 hk;have:k≠b:=fun e=>by subst e;rw[show G k=none from hGb] at hk;cases hk
  exact⟨ty',fz,by rw[CX this];exact hc⟩
 .intro o ho
  rcases h2 o ho with rfl|⟨ho',hne⟩
  .exact⟨OK hlt,hGb,hlo1,hlo2⟩
  .obtain⟨k1,k2⟩:=h.hown o ho'
   exact⟨by rw[CX hne];exact k1,k2⟩
def kr.spec{own own':List aw}{o:aw}(h:kr own o own')(nd:own.Pairwise (fun x y=>x.b≠y.b)):
  o∈own/\(∀x,x∈own'->x∈own/\x.b≠o.b)/\own'.Pairwise (fun x y=>x.b≠y.b):=by
 induction h with
 |hd o t=>exact⟨aZ,fun x hx=>⟨aK _ hx,Ne.symm ((bR.1 nd).1 _ hx)⟩,(bR.1 nd).2⟩
 |tl y t t' o h ih=>
  obtain⟨h1,h2,h3⟩:=ih (bR.1 nd).2;refine⟨aK _ h1,fun x hx=>?_,List.Pairwise.cons (fun x hx=>(bR.1 nd).1 _ (h2 x hx).1) h3⟩;rcases aT.1 hx with rfl|hx
  .exact⟨aZ,(bR.1 nd).1 _ h1⟩
  .exact⟨aK _ (h2 x hx).1,(h2 x hx).2⟩
def bt.freeze{C:aD}{own own':List aw}{G:Gh}{w:World}{b:Nat}{cs:List Value}{ty:TypeId}(h:bt C own G w)(hr:kr own ⟨b,cs,ty,true⟩ own'):
  bt C own' (fun k=>if k=b then some cs else G k) w/\bp G (fun k=>if k=b then some cs else G k):=by
 obtain⟨h1,h2,h3⟩:=hr.spec h.nd;obtain⟨hb,hGb,hlo,_⟩:=h.hown _ h1;have hle:bp G (fun k=>if k=b then some cs else G k):=fun k c hk=>by
  have:k≠b:=fun e=>by subst e;rw[show G k=none from hGb] at hk;cases hk
  simp[this,hk]
 refine⟨⟨h.os,h.tape,h.output,h.size,h.keep,?_,h.gle.trans hle,?_,?_,h3,h.dr,h.ext⟩,hle⟩
 .intro k c hk
  by_cases e:k=b
  .subst e;simp only[if_true] at hk;cases hk;exact⟨ty,(0,0),hb⟩
  .simp only[e,if_false] at hk;exact h.sub k c hk
 .intro k hk
  have h5:C.w0.heap.size<=b:=hlo J;have:k≠b:=by omega
  simp only[this,if_false];exact h.gold k hk
 .intro o ho
  obtain⟨k1,k2⟩:=h2 o ho;obtain⟨m1,m2,m3⟩:=h.hown o k1;exact⟨m1,by rw[if_neg k2];exact m2,m3⟩
def bt.drop{C:aD}{own own':List aw}{G:Gh}{w:World}(h:bt C own G w)(hs:own'.Sublist own):bt C own' G w:=
 ⟨h.os,h.tape,h.output,h.size,h.keep,h.sub,h.gle,h.gold,fun o ho=>h.hown o (hs.subset ho),h.nd.sublist hs,h.dr,h.ext⟩
def bt.perm{C:aD}{own own':List aw}{G:Gh}{w:World}(h:bt C own G w)(hs:own.Perm own'):bt C own' G w:=
 ⟨h.os,h.tape,h.output,h.size,h.keep,h.sub,h.gle,h.gold,fun o ho=>h.hown o (hs.mem_iff.2 ho),(hs.pairwise_iff (fun h=>Ne.symm h)).1 h.nd,h.dr,h.ext⟩
def bt.drew{C:aD}{own:List aw}{G:Gh}{w:World}(h:bt C own G w):bt C own G {w with drawn:=w.drawn+1}:=
 ⟨h.os,h.tape,h.output,h.size,h.keep,h.sub,h.gle,h.gold,h.hown,h.nd,Nat.le_succ_of_le h.dr,h.ext⟩
def ri(P:Program)(f:FuncId):Prop:= ∃fn,P.funcs[f]? =some fn/\(fn.name== "runtime.NumGoroutine")=false/\fn.body.isNone=false
def lh(M:List aw)(css:List (List Value)):List aw:=(M.zip css).map fun p=>{p.1 with cs:=p.2}
def asB(M:List aw):List aw:=M.map fun o=>{o with lo:=false}
structure Fn (P:Program) (f:FuncId) (vs:List Value) (G:Gh) (K:Value->Gh->Prop):Prop where
 able:ri P f
 run: ∀w,(∀b cs,G b=some cs-> ∃ty fz,w.heap[b]? =some (.cells ⟨cs⟩ ty fz))->
  Calls P f ⟨vs⟩ w fun e w'=> ∃v G',e= .returned v/\bt ⟨w,G,[],[],[],none,fun _=>none⟩ [] G' w'/\K v G'
structure j' (P:Program) (f:FuncId) (vs:List Value) (M:List aw) (G:Gh) (K:Value->List (List Value)->Gh->Prop):Prop where
 able:ri P f
 run: ∀w,bt ⟨w,G,M.map (·.b),[],[],none,fun _=>none⟩ (asB M) G w->
  Calls P f ⟨vs⟩ w fun e w'=> ∃v css G',e= .returned v/\css.length=M.length/\bt ⟨w,G,M.map (·.b),[],[],none,fun _=>none⟩ (lh (asB M) css) G' w'/\K v css G'
def Fn.mono{P:Program}{f:FuncId}{vs:List Value}{G:Gh}{K K':Value->Gh->Prop}(h:Fn P f vs G K)(hk: ∀v G',bp G G'->K v G'->K' v G'):Fn P f vs G K':=
 ⟨h.able,fun w hw=>(h.run w hw).mono fun _ _ ⟨v,G',he,hh,hK⟩=>⟨v,G',he,hh,hk v G' hh.gle hK⟩⟩
def bt.called{C:aD}{own:List aw}{G G':Gh}{w w':World}(h:bt C own G w)(k:bt ⟨w,G,[],[],[],none,fun _=>none⟩ [] G' w'):bt C own G' w':=by
 have same: ∀b o,w.heap[b]? =some o->w'.heap[b]? =some o:=fun b o hb=>by rw[k.keep b (il hb) (by simp)];exact hb
 have hsz:w.heap.size<=w'.heap.size:=k.size;refine⟨k.os.trans h.os,k.tape.trans h.tape,k.output.trans h.output,cY h.size hsz,?_,k.sub,h.gle.trans k.gle,?_,?_,h.nd,cY h.dr k.dr,fun p hp=>⟨(h.ext p hp).1,same _ _ (h.ext p hp).2⟩⟩
 .intro b hb hm;have:=h.size;rw[k.keep b (by show b<w.heap.size;omega) (by simp)];exact h.keep b hb hm
 .intro b hb;have:=h.size;rw[k.gold b (by show b<w.heap.size;omega)];exact h.gold b hb
 .intro o ho
  obtain⟨h1,h2,h3⟩:=h.hown o ho;exact⟨same _ _ h1,by rw[k.gold _ (il h1)];exact h2,h3⟩
def aDG(M:List aw)(css:List (List Value))(h:css.length=M.length):(lh M css).map (·.b)=M.map (·.b):=by
 induction M generalizing css with
 |nil=>simp[lh]
 |cons o M ih=>
  cases css with
  |nil=>simp at h
  |cons c css=>simp only[bJ,Nat.add_right_cancel_iff] at h;simpa[lh] using ih css h
def auI{M:List aw}{css:List (List Value)}{o:aw}(ho:o∈lh M css): ∃c∈css,∃m∈M,o={m with cs:=c}/\{m with cs:=c,lo:=false}∈lh (asB M) css:=by
 induction M generalizing css with
 |nil=>simp[lh] at ho
 |cons x M ih=>
  cases css with
  |nil=>simp[lh] at ho
  |cons c css=>
   simp only[lh,List.zip_cons_cons,cV,aT] at ho;rcases ho with rfl|ho
   .exact⟨c,aZ,x,aZ,J,by simp[lh,asB]⟩
   .obtain⟨c',hc',m,hm,e,hh⟩:=ih ho
    refine⟨c',aK _ hc',m,aK _ hm,e,?_⟩;simp only[lh,asB,cV,List.zip_cons_cons,aT];exact .inr hh
def bt.lend{C:aD}{M rest:List aw}{G:Gh}{w:World}(h:bt C (M++rest) G w):bt ⟨w,G,M.map (·.b),[],[],none,fun _=>none⟩ (asB M) G w:=by
 refine⟨J,J,J,aM _,fun _ _ _=>J,h.sub,bp.refl _,fun _ _=>J,?_,?_,aM _,fun p hp=>by cases hp⟩
 .intro o ho
  obtain⟨m,hm,rfl⟩:=bQ.1 ho;obtain⟨h1,h2,_⟩:=h.hown m (bM _ hm);exact⟨h1,h2,by simp,fun _=>bQ.2 ⟨m,hm,J⟩⟩
 .have:=(gS.1 h.nd).1
  unfold asB;rw[rT];exact this
def bt.calledM{C:aD}{M rest:List aw}{G G':Gh}{w w':World}{css:List (List Value)}(h:bt C (M++rest) G w)(hl:css.length=M.length)(k:bt ⟨w,G,M.map (·.b),[],[],none,fun _=>none⟩ (lh (asB M) css) G' w'):
  bt C (lh M css++rest) G' w':=by
 have hsz:w.heap.size<=w'.heap.size:=k.size;have hnd:=h.nd;have inM: ∀b,b∈M.map (·.b)-> ∀o∈rest,o.b≠b:=fun b hb o ho e=>by
  obtain⟨m,hm,rfl⟩:=bQ.1 hb;exact(gS.1 hnd).2.2 m hm o ho e.symm
 refine⟨k.os.trans h.os,k.tape.trans h.tape,k.output.trans h.output,cY h.size hsz,?_,k.sub,h.gle.trans k.gle,?_,?_,?_,cY h.dr k.dr,fun p hp=>⟨(h.ext p hp).1,by rw[k.keep _ (il (h.ext p hp).2) (h.extM hp)];exact(h.ext p hp).2⟩⟩
 .intro b hb hm
  have hs:=h.size;have hnM:b∉M.map (·.b):=fun hb'=>by
   obtain⟨m,hmM,rfl⟩:=bQ.1 hb';obtain⟨_,_,h3,h4⟩:=h.hown m (bM _ hmM)
   cases hlo:m.lo with
   |true=>have:=h3 hlo;omega
   |false=>exact hm (h4 hlo)
  rw[k.keep b (by show b<w.heap.size;omega) hnM];exact h.keep b hb hm
 .intro b hb;have:=h.size;rw[k.gold b (by show b<w.heap.size;omega)];exact h.gold b hb
 .intro o ho
  rcases bK.1 ho with ho|ho
  .obtain⟨c,hc,m,hm,rfl,hmem⟩:=auI ho
   obtain⟨k1,k2,_⟩:=k.hown _ hmem;obtain⟨_,_,h3⟩:=h.hown m (bM _ hm);exact⟨k1,k2,h3⟩
  .obtain⟨h1,h2,h3⟩:=h.hown o (cW _ ho)
   have hnM:o.b∉M.map (·.b):=fun hb=>inM _ hb o ho J;exact⟨by rw[k.keep _ (il h1) hnM];exact h1,by rw[k.gold _ (il h1)];exact h2,h3⟩
 .rw[Da,bY,aDG _ _ hl,<-bY,<-Da];exact hnd
abbrev ii:= @inferInstance.{0}
def nb{a b:Nat}(h:Nat.ble a b=true):a<=b:=Nat.le_of_ble_eq_true h
def sR{P:Program}{C:aD}{n:Nat}{fr:Fr}{own:List aw}{G:Gh}{Q:Exit->Act->World->Prop}{id:Nat}{ops:Array Oper}{y:Code}(h:St C n fr own G (dB P ops (Exit.then (y.wp P Q) Q) ops.toList)):St C n fr own G ((Code.seq (Code.region id ops false) y).wp P Q):=bw (d6 h)
end Go.Sx
end
section
namespace Go.Sx
open Go
def aG:Value->List Value
 | .agg ⟨l⟩=>l
 |v=>[v]
def qG(v:Value):v.cells=⟨aG v⟩:=by
 cases v<;>first|rfl|(rename_i a;cases a;rfl)
def flat:Value->Bool
 | .agg _=>false
 | .tuple _=>false
 |_=>true
def f8(fr:Fr):List Operand->Option (List Value)
 |[]=>some []
 |x::t=>match aA fr x,f8 fr t with
  |some v,some l=>some (v::l)
  |_,_=>none
def Ce{fr:Fr}{a:Act}(h:mj fr a): ∀{l:List Operand} {vs:List Value},f8 fr l=some vs->l.map a.eval=vs
 |[],vs,e=>by simp[f8] at e;subst e;rfl
 |x::t,vs,e=>by
  simp only[f8] at e;split at e
  .rename_i v l hv hl
   cases e
   simp[bh h hv,Ce h hl]
  .cases e
section
variable {P:Program} {C:aD} {n:Nat} {fr:Fr} {own own':List aw} {G:Gh} {ops:Array Oper} {Q:Exit->Act->World->Prop} {r:List Oper}
variable {dst:Option Nat} {t t' ty':TypeId} {pos:String} {af:Array Edge} {x y:Operand}
def Ch(P:Program)(C:aD)(n:Nat)(fr:Fr)(own:List aw)(G:Gh)(o:Oper)(Φ:Act->World->Prop):Prop:=
 ∀(a:Act) (w:World) (Q:Exit->Act->World->Prop),gD C n fr own G a w->o.wp P a w Φ Q
def V6{o:Oper}(hg:o.guard=none)(hc:Ch P C n fr own G o (dB P ops Q r)):St C n fr own G (dB P ops Q (o::r)):=by
 intro a w rl;simp only[dB,Region.wanted,hg,if_true];exact hc a w _ rl
variable {Φ:Act->World->Prop} {gd:Option (Nat×Bool)}
def Qx{w:World}{ty:TypeId}{v:Value}:(newVar ty v).run P w= .ok ⟨w.heap.size,0,none⟩ (w.alloc (.cells ⟨aG v⟩ ty)):=by
 unfold newVar newRow;rw[qG];rfl
def kz{o:Oper}{v:Value}{w':World}{a:Act}{w:World}{Φ:Act->World->Prop}{Q:Exit->Act->World->Prop}(h:(execOp a.eval o).run P w= .ok (.value v) w')(hk:Φ (a.put o.dst v) w'):o.wp P a w Φ Q:=by
 simp only[Oper.wp,h,Oper.upon];exact hk
def Ak{z:Value}[hz:iE P t z](hd:b9 n dst=true)(h: ∀b,St C n (put fr dst (.pointer (some ⟨b,0,none⟩))) (⟨b,aG z,t,true⟩::own) G Φ):
  Ch P C n fr own G ⟨dst, .alloc t,ty',pos,af,gd⟩ Φ:=by
 intro a w Q rl;have h1:(Instr.alloc t true (.tuple #[])).run P w= .ok (.pointer (some ⟨w.heap.size,0,none⟩)) (w.alloc (.cells ⟨aG z⟩ t)):=by
  unfold Instr.alloc;rw[aI (hz.zero w)];show(newVar t z>>=_).run P w=_;rw[aI Qx];rfl
 refine kz (c7 h1) (h w.heap.size _ _ ?_);exact(rl.heap (rl.h.alloc _ _)).put _ hd
def H'{v:Value}(hx:aA fr x=some v)(hd:b9 n dst=true)(h: ∀b,St C n (put fr dst (.pointer (some ⟨b,0,none⟩))) (⟨b,aG v,t,true⟩::own) G Φ):
  Ch P C n fr own G ⟨dst, .box t x,ty',pos,af,gd⟩ Φ:=by
 intro a w Q rl;have h1:(Instr.box t (a.eval x)).run P w= .ok (.pointer (some ⟨w.heap.size,0,none⟩)) (w.alloc (.cells ⟨aG v⟩ t)):=by
  unfold Instr.box;rw[bh rl.fr hx,aI Qx];rfl
 refine kz (c7 h1) (h w.heap.size _ _ ?_);exact(rl.heap (rl.h.alloc _ _)).put _ hd
def ZF{w:World}{b off:Nat}{cs:List Value}{ty:TypeId}{fz:Nat×Nat}{v:Value}(h:w.heap[b]? =some (.cells ⟨cs⟩ ty fz)):w.setCell ⟨b,off,none⟩ v=gz w b (.cells ⟨cs.set off v⟩ ty fz):=by
 unfold World.setCell gz;congr 1;apply Array.ext_getElem?;intro i;rw[Array.getElem?_modify,eX];by_cases hi:b=i
 .subst hi
  have:=il h;simp only[if_true,h,jX,this];simp
 .simp[hi]
def atG{w:World}{b off:Nat}{cs:List Value}{ty:TypeId}{v:Value}(hv:flat v=true)(h:w.heap[b]? =some (.cells ⟨cs⟩ ty (0,0)))(ho:off<cs.length):
  (store ⟨b,off,none⟩ v).run P w= .ok () (gz w b (.cells ⟨cs.set off v⟩ ty (0,0))):=by
 have hc:w.cell? ⟨b,off,none⟩=some cs[off]:=by rw[BC h,aQ ho]
 have hf:w.frozen? ⟨b,off,none⟩=false:=by simp[World.frozen?,h]
 cases v<;>first|(simp[flat] at hv;done)|(simp only[store,Sem.run,hc,hf,ZF h];rfl)
def ZN(w:World)(b:Nat)(o o':Obj):gz (gz w b o) b o'=gz w b o':=by
 simp[gz]
def ZU{w:World}{b:Nat}{o:Obj}(h:w.heap[b]? =some o):gz w b o=w:=by
 unfold gz;congr 1;apply Array.ext_getElem?;intro i;rw[eX];by_cases hi:b=i
 .subst hi
  have hlt:=il h;simp only[if_true,hlt];rw[h]
 .simp[hi]
def ym{b:Nat}{ty:TypeId}: ∀(vs:List Value) (w:World) (off i:Nat) (cs:List Value),(∀v∈vs,flat v=true)->w.heap[b]? =some (.cells ⟨cs⟩ ty (0,0))->off+i+vs.length<=cs.length->
  (storeCells ⟨b,off,none⟩ vs i).run P w= .ok () (gz w b (.cells ⟨cC cs (off+i) vs⟩ ty (0,0)))
 |[],w,off,i,cs,_,h,_=>by
  unfold storeCells cC;rw[ZU h];rfl
 |v::vs,w,off,i,cs,hf,h,hl=>by
  unfold storeCells;simp only[bJ] at hl;rw[pB,aI (atG (hf v aZ) h (by omega))];rw[ym vs _ off (i+1) (cs.set (off+i) v) (fun u hu=>hf u (aK _ hu)) (OK (il h)) (by simp;omega)];rw[ZN];rfl
def DL{v:Value}{b off k:Nat}{cs:List Value}{ty:TypeId}{lo:Bool}(hx:aA fr x=some (.pointer (some ⟨b,off,none⟩)))(hy:aA fr y=some v)[hs:mC P t k]
  (hu:f9 own b cs ty lo (cC cs off (aG v)) own')(hk:(aG v).length=k)(hl:off+k<=cs.length)(hf:(aG v).all flat=true)(hd:b9 n dst=true)(h:St C n (put fr dst undef) own' G Φ):
  Ch P C n fr own G ⟨dst, .store t x y,ty',pos,af,gd⟩ Φ:=by
 intro a w Q rl;have hb:=(rl.h.hown _ (hu.spec rl.h.nd).1).1;have h1:(Instr.storeAt t (a.eval x) (a.eval y)).run P w= .ok () (gz w b (.cells ⟨cC cs off (aG v)⟩ ty (0,0))):=by
  rw[bh rl.fr hx,bh rl.fr hy];simp only[Instr.storeAt,Instr.sureAddr];show(storeVar t ⟨b,off,none⟩ v).run P w=_;unfold storeVar;rw[aI (hs.siz w),qG];simp only[oZ,hk,ne_eq,not_true_eq_false,if_false];have:=ym (P:=P) (aG v) w off 0 cs (by simpa using hf) hb (by omega);simpa using this
 have h2:(execOp a.eval ⟨dst, .store t x y,ty',pos,af,gd⟩).run P w= .ok .skip (gz w b (.cells ⟨cC cs off (aG v)⟩ ty (0,0))):=by
  simp only[execOp];rw[aI h1];rfl
 simp only[Oper.wp,h2,Oper.upon];exact h _ _ ((rl.heap (rl.h.store hu)).put _ hd)
def wH{v:Value}{b off:Nat}{cs:List Value}{ty:TypeId}{lo:Bool}(hx:aA fr x=some (.pointer (some ⟨b,off,none⟩)))(hy:aA fr y=some v)[hs:jh P t]
  (hu:f9 own b cs ty lo (cs.set off v) own')(hl:off<cs.length)(hf:flat v=true)(hd:b9 n dst=true)(h:St C n (put fr dst undef) own' G Φ):
  Ch P C n fr own G ⟨dst, .store t x y,ty',pos,af,gd⟩ Φ:=by
 intro a w Q rl;have hb:=(rl.h.hown _ (hu.spec rl.h.nd).1).1;have hc:v.cells= #[v]:=by cases v<;>first|rfl|(simp[flat] at hf)
 have h1:(Instr.storeAt t (a.eval x) (a.eval y)).run P w= .ok () (gz w b (.cells ⟨cs.set off v⟩ ty (0,0))):=by
  rw[bh rl.fr hx,bh rl.fr hy];simp only[Instr.storeAt,Instr.sureAddr];show(storeVar t ⟨b,off,none⟩ v).run P w=_;unfold storeVar;rw[aI (hs.siz w),hc];simp only[oZ,bJ,fV,ne_eq,not_true_eq_false,if_false,eK];have:=ym (P:=P) [v] w off 0 cs (by simpa using hf) hb (by simp;omega);simpa[cC] using this
 have h2:(execOp a.eval ⟨dst, .store t x y,ty',pos,af,gd⟩).run P w= .ok .skip (gz w b (.cells ⟨cs.set off v⟩ ty (0,0))):=by
  simp only[execOp];rw[aI h1];rfl
 simp only[Oper.wp,h2,Oper.upon];exact h _ _ ((rl.heap (rl.h.store hu)).put _ hd)
def Ij{f:FuncId}(h:ri P f)(args:Array Value)(w:World):(callFunc f args).run P w= .ok (.enter f args) w:=by
 obtain⟨fn,h1,h2,h3⟩:=h;unfold callFunc;show(program>>=_).run P w=_;rw[aI (a:=P) (w':=w) J];simp only[h1,h2,h3];rfl
def Ek{f:FuncId}{fo:Operand}{args:Array Operand}{tys:Array TypeId}{vs c1 c2:List Value}{a:Act}{w:World}(h:ri P f)(hf:mj fr a)(ho:aA fr fo=some (.func (.func f) ⟨c1⟩ ⟨c2⟩))(hv:f8 fr args.toList=some vs):
  (execOp a.eval ⟨dst, .call ⟨.value fo,args,tys⟩,ty',pos,af,gd⟩).run P w= .ok (.enter f ⟨c1++vs++c2⟩) w:=by
 have e:args.map a.eval=⟨vs⟩:=by apply Array.ext';simpa using Ce hf hv
 simp only[execOp,resolve,bh hf ho,e,Deferred.ofValue];show(invoke (.fn (.func f) ⟨c2⟩) (⟨c1⟩++⟨vs⟩)).run P w=_;simp only[invoke];rw[Ij h];simp
def ayu{f:FuncId}{fo:Operand}{args:Array Operand}{tys:Array TypeId}{vs c1 c2:List Value}{K:Value->Gh->Prop}(ho:aA fr fo=some (.func (.func f) ⟨c1⟩ ⟨c2⟩))(hv:f8 fr args.toList=some vs)
  (hF:Fn P f (c1++vs++c2) G K)(hd:b9 n dst=true)(h: ∀v (G':Gh),[GE G G']->K v G'->St C n (put fr dst v) own G' Φ):
  Ch P C n fr own G ⟨dst, .call ⟨.value fo,args,tys⟩,ty',pos,af,gd⟩ Φ:=by
 intro a w Q rl;have h2:=Ek (P:=P) (dst:=dst) (ty':=ty') (pos:=pos) (af:=af) (gd:=gd) (tys:=tys) (w:=w) hF.able rl.fr ho hv;simp only[Oper.wp,h2,Oper.upon];refine(hF.run w rl.h.sub).mono ?_;rintro e w' ⟨v,G',rfl,hh,hK⟩;exact @h v G' ⟨hh.gle⟩ hK _ _ ((rl.heap (rl.h.called hh)).put _ hd)
def zC{f:FuncId}{fo:Operand}{args:Array Operand}{tys:Array TypeId}{vs:List Value}{K:Value->Gh->Prop}(ho:aA fr fo=some (.func (.func f) #[] #[]))(hv:f8 fr args.toList=some vs)
  (hF:Fn P f vs G K)(hd:b9 n dst=true)(h: ∀v (G':Gh),[GE G G']->K v G'->St C n (put fr dst v) own G' Φ):
  Ch P C n fr own G ⟨dst, .call ⟨.value fo,args,tys⟩,ty',pos,af,gd⟩ Φ:=
 ayu (c1:=[]) (c2:=[]) ho hv (by simpa using hF) hd h
def V1{f:FuncId}{fo:Operand}{args:Array Operand}{tys:Array TypeId}{vs c1 c2:List Value}{M rest:List aw}{K:Value->List (List Value)->Gh->Prop}(ho:aA fr fo=some (.func (.func f) ⟨c1⟩ ⟨c2⟩))(hv:f8 fr args.toList=some vs)
  (hp:own.Perm (M++rest))(hF:j' P f (c1++vs++c2) M G K)(hd:b9 n dst=true)(h: ∀v css (G':Gh),[GE G G']->css.length=M.length->K v css G'->St C n (put fr dst v) (lh M css++rest) G' Φ):
  Ch P C n fr own G ⟨dst, .call ⟨.value fo,args,tys⟩,ty',pos,af,gd⟩ Φ:=by
 intro a w Q rl;have h2:=Ek (P:=P) (dst:=dst) (ty':=ty') (pos:=pos) (af:=af) (gd:=gd) (tys:=tys) (w:=w) hF.able rl.fr ho hv;simp only[Oper.wp,h2,Oper.upon];have hh0:=rl.h.perm hp;refine(hF.run w hh0.lend).mono ?_;rintro e w' ⟨v,css,G',rfl,hl,hh,hK⟩;exact @h v css G' ⟨hh.gle⟩ hl hK _ _ ((rl.heap (hh0.calledM hl hh)).put _ hd)
def CJ{f:FuncId}{fo:Operand}{args:Array Operand}{tys:Array TypeId}{vs:List Value}{M rest:List aw}{K:Value->List (List Value)->Gh->Prop}(ho:aA fr fo=some (.func (.func f) #[] #[]))(hv:f8 fr args.toList=some vs)
  (hp:own.Perm (M++rest))(hF:j' P f vs M G K)(hd:b9 n dst=true)(h: ∀v css (G':Gh),[GE G G']->css.length=M.length->K v css G'->St C n (put fr dst v) (lh M css++rest) G' Φ):
  Ch P C n fr own G ⟨dst, .call ⟨.value fo,args,tys⟩,ty',pos,af,gd⟩ Φ:=
 V1 (c1:=[]) (c2:=[]) ho hv hp (by simpa using hF) hd h
end
section
variable {P:Program} {C:aD} {n:Nat} {fr:Fr} {own own':List aw} {G:Gh}
inductive kA (P:Program) (fr:Fr) (own:List aw):List ResultVar->List Value->Prop
 |nil:kA P fr own [] []
 |tmp {t:Nat} {v:Value} {rs:List ResultVar} {vs:List Value} (h:iB fr t=some v) (k:kA P fr own rs vs):kA P fr own (.tmp t::rs) (v::vs)
 |agg {a b k:Nat} {t ty:TypeId} {cs l:List Value} {lo:Bool} {rs:List ResultVar} {vs:List Value} (h:iB fr a=some (.pointer (some ⟨b,0,none⟩))) (ho:iI own b cs ty lo) (ht:mC P t k) (hl:cD cs 0 k=some l) (h2:kA P fr own rs vs):
   kA P fr own (.cell a t::rs) (.agg ⟨l⟩::vs)
 |sc {a b:Nat} {t ty:TypeId} {cs:List Value} {v:Value} {lo:Bool} {rs:List ResultVar} {vs:List Value} (h:iB fr a=some (.pointer (some ⟨b,0,none⟩))) (ho:iI own b cs ty lo) (ht:jh P t) (hl:cs[0]? =some v) (h2:kA P fr own rs vs):
   kA P fr own (.cell a t::rs) (v::vs)
def yb(a:Act):ResultVar->Sem Value
 | .tmp t=>pure (a.tmps.getD t undef)
 | .cell x t=>do loadVar t (<-asAddr (a.tmps.getD x undef))
def kA.run{rs:List ResultVar}{vs:List Value}(h:kA P fr own rs vs){a:Act}{w:World}(hf:mj fr a)(hh:bt C own G w):
  (rs.mapM (yb a)).run P w= .ok vs w:=by
 induction h with
 |nil=>rfl
 | @tmp t v rs vs h k ih=>
  rw[rU];have e:=hf _ _ h;have e2:a.tmps.getD t undef=v:=by rw[cZ,e];rfl
  rw[aI (a:=v) (w':=w) (by simp only[yb,e2];exact run_pure _ _ _),aI ih];rfl
 | @agg x b k t ty cs l lo rs vs h ho ht hl h2 ih=>
  rw[rU];have e:=hf _ _ h;have e2:a.tmps.getD x undef= .pointer (some ⟨b,0,none⟩):=by rw[cZ,e];rfl
  rw[aI (a:= .agg ⟨l⟩) (w':=w) (by simp only[yb,e2,asAddr];rw[aI (run_pure _ _ _)];exact GR (hh.hown _ ho.mem).1 hl),aI ih];rfl
 | @sc x b t ty cs v lo rs vs h ho ht hl h2 ih=>
  rw[rU];have e:=hf _ _ h;have e2:a.tmps.getD x undef= .pointer (some ⟨b,0,none⟩):=by rw[cZ,e];rfl
  rw[aI (a:=v) (w':=w) (by simp only[yb,e2,asAddr];rw[aI (run_pure _ _ _)];exact F' (hh.hown _ ho.mem).1 hl),aI ih];rfl
def iv:List Value->Value
 |[v]=>v
 |vs=> .tuple ⟨vs⟩
def uQ{fn:Func}{vs:List Value}{a:Act}{w:World}(hr:kA P fr own fn.results.toList vs)(hf:mj fr a)(hh:bt C own G w):(results fn a.tmps).run P w= .ok (iv vs) w:=by
 have h0:=kA.run (C:=C) (G:=G) hr hf hh;have h1:(fn.results.mapM (yb a)).run P w= .ok (⟨vs⟩:Array Value) w:=by
  rw[<-Array.toArray_toList (xs:=fn.results),List.mapM_toArray,map_eq_pure_bind,aI h0];rfl
 have h2:results fn a.tmps=(do
   let vs<-fn.results.mapM (yb a)
   pure (if h:vs.size=1 then vs[0] else .tuple vs)):=by
  unfold results;congr 1
 rw[h2,aI h1]
 match vs with
 |[]=>rfl
 |[v]=>rfl
 |_::_::_=>rfl
def mn(C:aD)(K:Value->Gh->Prop):Ending->World->Prop:=fun e w'=> ∃v G',e= .returned v/\bt C [] G' w'/\K v G'
def xJ(C:aD)(M:List aw)(K:Value->List (List Value)->Gh->Prop):Ending->World->Prop:=fun e w'=> ∃v css G',e= .returned v/\css.length=M.length/\bt C (lh (asB M) css) G' w'/\K v css G'
def gn(C:aD)(P:Program)(fn:Func)(R:Ending->World->Prop):Exit->Act->World->Prop:=fun e a w=>C.mks=[]->bodyPost P fn R e a w
def zD{fn:Func}{K:Value->Gh->Prop}{vs:List Value}(hr:kA P fr own fn.results.toList vs)(hk:K (iv vs) G):St C n fr own G (gn C P fn (mn C K) .ret):=
 fun a w rl hmk=>⟨rl.df.trans hmk,_,uQ hr rl.fr rl.h,_,G,J,rl.h.drop (lJ _),hk⟩
def Ta{fn:Func}{K:Value->Gh->Prop}{vs:List Value}(hr:kA P fr own fn.results.toList vs)(hk:K (iv vs) G):St C n fr own G (gn C P fn (mn C K) .normal):=
 fun a w rl hmk=>⟨rl.df.trans hmk,_,uQ hr rl.fr rl.h,_,G,J,rl.h.drop (lJ _),hk⟩
def rD{fn:Func}{M:List aw}{css:List (List Value)}{K:Value->List (List Value)->Gh->Prop}{vs:List Value}(hr:kA P fr own fn.results.toList vs)(hl:css.length=M.length)(own2:List aw)(hp:own.Perm own2)(hs:(lh (asB M) css).Sublist own2)(hk:K (iv vs) css G):St C n fr own G (gn C P fn (xJ C M K) .ret):=
 fun a w rl hmk=>⟨rl.df.trans hmk,_,uQ hr rl.fr rl.h,_,css,G,J,hl,(rl.h.perm hp).drop hs,hk⟩
def pe:Nat->List Value->Fr
 |_,[]=>[]
 |i,v::t=>(i,v)::pe (i+1) t
def wT: ∀(vs:List Value) (i k:Nat) (v:Value),iB (pe i vs) k=some v-> ∃j,k=i+j/\vs[j]? =some v
 |[],i,k,v,h=>by cases h
 |u::vs,i,k,v,h=>by
  rw[pe,vw] at h;split at h
  .subst_vars;cases h;exact⟨0,J,J⟩
  .obtain⟨j,rfl,hj⟩:=wT vs (i+1) k v h
   exact⟨j+1,by omega,by simpa using hj⟩
def Fn.introR{f:FuncId}{fn:Func}{c:Code}{vs:List Value}{m:Nat}{K:Value->Gh->Prop}(hf:P.funcs[f]? =some fn)(hb:fn.body=some c)(hn:(fn.name== "runtime.NumGoroutine")=false)(hm:fn.ntmps=m)(hlen:Nat.ble vs.length m=true)
  (h: ∀C:aD,C.G0=G->C.mb=[]->C.rd=none->(C.fx=fun _=>none)->St C m (pe 0 vs) [] G (c.wp P (gn C P fn (mn C K)))):Fn P f vs G K:=by
 refine⟨⟨fn,hf,hn,by simp[hb]⟩,fun w hw=>?_⟩;have hlen':vs.length<=m:=by simpa using hlen
 have:=calls_of_wp (P:=P) (f:=f) (args:=⟨vs⟩) (w:=w) (R:=mn ⟨w,G,[],[],[],none,fun _=>none⟩ K) hf hb (wp_mono (h ⟨w,G,[],[],[],none,fun _=>none⟩ J J J J _ w
  ⟨⟨J,J,J,aM _,fun _ _ _=>J,hw,bp.refl _,fun _ _=>J,fun o ho=>(by cases ho), .nil,aM _,fun p hp=>by cases hp⟩,by simp;omega,fun k v hk=>by
   obtain⟨j,rfl,hj⟩:=wT vs 0 k v hk;have hj':=(aY.1 hj).1;rw[kK (by simpa using hj')];simpa using hj,J⟩) fun _ _ _ k=>k J)
 exact this
def Fn.intro{f:FuncId}{fn:Func}{c:Code}{vs:List Value}{m:Nat}{K:Value->Gh->Prop}(hf:P.funcs[f]? =some fn)(hb:fn.body=some c)(hn:(fn.name== "runtime.NumGoroutine")=false)(hm:fn.ntmps=m)(hlen:Nat.ble vs.length m=true)
  (h: ∀C:aD,C.G0=G->C.mb=[]->St C m (pe 0 vs) [] G (c.wp P (gn C P fn (mn C K)))):Fn P f vs G K:=
 Fn.introR hf hb hn hm hlen fun C a b _ _=>h C a b
def j'.introR{f:FuncId}{fn:Func}{c:Code}{vs:List Value}{m:Nat}{M:List aw}{K:Value->List (List Value)->Gh->Prop}(hf:P.funcs[f]? =some fn)(hb:fn.body=some c)(hn:(fn.name== "runtime.NumGoroutine")=false)(hm:fn.ntmps=m)(hlen:Nat.ble vs.length m=true)
  (h: ∀C:aD,C.G0=G->C.mb=M.map (·.b)->C.rd=none->(C.fx=fun _=>none)->St C m (pe 0 vs) (asB M) G (c.wp P (gn C P fn (xJ C M K)))):j' P f vs M G K:=by
 refine⟨⟨fn,hf,hn,by simp[hb]⟩,fun w hw=>?_⟩;have hlen':vs.length<=m:=by simpa using hlen
 have:=calls_of_wp (P:=P) (f:=f) (args:=⟨vs⟩) (w:=w) (R:=xJ ⟨w,G,M.map (·.b),[],[],none,fun _=>none⟩ M K) hf hb (wp_mono (h ⟨w,G,M.map (·.b),[],[],none,fun _=>none⟩ J J J J _ w
  ⟨hw,by simp;omega,fun k v hk=>by
   obtain⟨j,rfl,hj⟩:=wT vs 0 k v hk;have hj':=(aY.1 hj).1;rw[kK (by simpa using hj')];simpa using hj,J⟩) fun _ _ _ k=>k J)
 exact this
def j'.intro{f:FuncId}{fn:Func}{c:Code}{vs:List Value}{m:Nat}{M:List aw}{K:Value->List (List Value)->Gh->Prop}(hf:P.funcs[f]? =some fn)(hb:fn.body=some c)(hn:(fn.name== "runtime.NumGoroutine")=false)(hm:fn.ntmps=m)(hlen:Nat.ble vs.length m=true)
  (h: ∀C:aD,C.G0=G->C.mb=M.map (·.b)->St C m (pe 0 vs) (asB M) G (c.wp P (gn C P fn (xJ C M K)))):j' P f vs M G K:=
 j'.introR hf hb hn hm hlen fun C a b _ _=>h C a b
def sE{Φ:Act->World->Prop}(b:Nat){cs:List Value}{ty:TypeId}(hr:kr own ⟨b,cs,ty,true⟩ own')(h: ∀G':Gh,[GE G G']->[Gd G' b cs]->St C n fr own' G' Φ):St C n fr own G Φ:=
 fun a w rl=>by
  obtain⟨h1,h2⟩:=rl.h.freeze hr;exact @h _ ⟨h2⟩ ⟨by simp⟩ a w (rl.heap h1)
def aDv{Φ:Act->World->Prop}(own':List aw)(hs:own'.Sublist own)(h:St C n fr own' G Φ):St C n fr own G Φ:=
 fun a w rl=>h a w (rl.heap (rl.h.drop hs))
def Tj(C:aD)(n:Nat){X:Type}(F:X->Fr)(O:X->List aw)(I:X->Gh->Prop)(μ:X->Nat)(m:Nat)(G:Gh)(a:Act)(w:World):Prop:=
 ∃x G',bp G G'/\I x G'/\μ x<m/\gD C n (F x) (O x) G' a w
def l8{Q:Exit->Act->World->Prop}{c:Code}{X:Type}(F:X->Fr)(O:X->List aw)(I:X->Gh->Prop)(μ:X->Nat)(x0:X)(hI:I x0 G)(hF:vk (F x0) fr)(hO:O x0=own)
  (round: ∀(x:X) (G':Gh),[GE G G']->I x G'->St C n (F x) (O x) G' (c.wp P (Exit.then (Tj C n F O I μ (μ x) G') Q))):St C n fr own G ((Code.loop c).wp P Q):=by
 intro a w rl;subst hO;intro b k cs;have key: ∀m a w,(∃x G',bp G G'/\I x G'/\μ x=m/\gD C n (F x) (O x) G' a w)->
   ∃e a' w',Q e a' w'/\Arrives P (lone (b.at a (.code c:: .inLoop c::k)) cs w) b k cs e a' w':=by
  intro m
  induction m using Nat.strongRecOn with
  |_ m ih=>
   intro a w ⟨x,G',hle,hx,hm,hr⟩;obtain⟨e,a₁,w₁,hq,harr⟩:= @round x G' ⟨hle⟩ hx a w hr b (.inLoop c::k) cs
   cases e with
   |normal=>
    obtain⟨x',G'',hle',hx',hlt,hr'⟩:=hq;obtain⟨e₂,a₂,w₂,hq₂,harr₂⟩:=ih (μ x') (hm▸hlt) a₁ w₁ ⟨x',G'',hle.trans hle',hx',rfl,hr'⟩;exact⟨e₂,a₂,w₂,hq₂, .of_steps (Steps.trans harr (.one step_inLoop)) harr₂⟩
   |exit id=>exact⟨_,a₁,w₁,hq, .pass (x:= .inLoop c) J (fun _ _=> .inl (by simp)) harr⟩
   |goto l=>exact⟨_,a₁,w₁,hq, .pass (x:= .inLoop c) J (fun _ _=> .inl (by simp)) harr⟩
   |ret=>exact⟨_,a₁,w₁,hq, .pass (x:= .inLoop c) J (fun _ _=> .inl (by simp)) harr⟩
   |panic ch=>exact⟨_,a₁,w₁,hq, .pass (x:= .inLoop c) J (fun _ _=> .inl (by simp)) harr⟩
   |outgrown=>exact⟨_,a₁,w₁,hq, .pass (x:= .inLoop c) J (fun _ _=> .inl (by simp)) harr⟩
 obtain⟨e,a',w',q,r⟩:=key (μ x0) a w ⟨x0,G,bp.refl _,hI,rfl,rl.h,rl.sz,fun k v hk=>rl.fr _ _ (hF _ _ hk),rl.df⟩;exact⟨e,a',w',q, .of_steps (.one step_loop) r⟩
def At(C:aD)(n:Nat){X:Type}(F:X->Fr)(O:X->List aw)(I:X->Gh->Prop)(G:Gh)(a:Act)(w:World):Prop:=
 ∃x G',bp G G'/\I x G'/\gD C n (F x) (O x) G' a w
def Ao{Q:Exit->Act->World->Prop}{c d:Code}(X:Type)(F:X->Fr)(O:X->List aw)(I:X->Gh->Prop)(h1:St C n fr own G (c.wp P (Exit.then (At C n F O I G) Q)))
  (h2: ∀(x:X) (G':Gh),[GE G G']->I x G'->St C n (F x) (O x) G' (d.wp P Q)):St C n fr own G ((Code.seq c d).wp P Q):=by
 intro a w rl;refine wp_seq (wp_mono (h1 a w rl) ?_);intro e a w h
 cases e with
 |normal=>obtain⟨x,G',hle,hI,hr⟩:=h;exact @h2 x G' ⟨hle⟩ hI a w hr
 |_=>exact h
def qI{X:Type}{F:X->Fr}{O:X->List aw}{I:X->Gh->Prop}{G0:Gh}[hg:GL G0 G](x:X)(hI:I x G)(hF:vk (F x) fr)(hO:O x=own):St C n fr own G (At C n F O I G0):=
 fun a w rl=>⟨x,G,hg.le,hI,⟨hO▸rl.h,rl.sz,fun k v hk=>rl.fr _ _ (hF _ _ hk),rl.df⟩⟩
def jD{X:Type}{F:X->Fr}{O:X->List aw}{I:X->Gh->Prop}{μ:X->Nat}{m:Nat}{G0:Gh}[hg:GL G0 G](x:X)(hI:I x G)(hμ:μ x<m)(hF:vk (F x) fr)(hO:O x=own):St C n fr own G (Tj C n F O I μ m G0):=
 fun a w rl=>⟨x,G,hg.le,hI,hμ,⟨hO▸rl.h,rl.sz,fun k v hk=>rl.fr _ _ (hF _ _ hk),rl.df⟩⟩
end
def f5(Q:Exit->Act->World->Prop):Exit->Act->World->Prop
 | .panic _,_,_=>False
 |e,a,w=>Q e a w
def f5.imp{Q:Exit->Act->World->Prop}: ∀(e:Exit) (a:Act) (w:World),f5 Q e a w->Q e a w:=fun e a w h=>by
 cases e<;>first|exact h|exact(h:False).elim
section
variable {P:Program} {ops:Array Oper} {Q:Exit->Act->World->Prop} {S:World->Prop} {fin:Nat->Bool}
def uW(P:Program)(ops:Array Oper)(Q:Exit->Act->World->Prop)(S:World->Prop)(fin:Nat->Bool):Nat->Array Bool->Act->World->Prop
 |0,listed,a,w=>Region.ready .any ops listed=[]/\Q .normal a w
 |fuel+1,listed,a,w=>
  (Region.ready .any ops listed=[]->Q .normal a w)/\
  ∀i∈Region.ready .any ops listed,wpOp P ops Q i (fun a' w'=>(fin i=true\/S w')/\uW P ops Q S fin fuel (listed.setIfInBounds i true) a' w') a w
def Dh: ∀(fuel:Nat) (listed:Array Bool) (a:Act) (w:World),uW P ops Q S fin fuel listed a w->wpAny P .any ops Q fuel listed a w
 |0,_,_,_,h=>h
 |fuel+1,_,_,_,h=>⟨h.1,fun i hi=>wpOp_mono (fun a' w' h'=>Dh fuel _ a' w' h'.2) (h.2 i hi)⟩
def JN(ops:Array Oper)(fin:Nat->Bool)(i:Nat):Bool:=
 !fin i&&(List.range ops.size).all fun j=>!fin j||((ops[j]?).map fun o=>o.after.any fun e=>Region.binds .any e&&e.on==i).getD true
def TU{i:Nat}(h:JN ops fin i=true):fin i=false/\ ∀j oj,ops[j]? =some oj->fin j=true-> ∃e∈oj.after,Region.binds .any e=true/\e.on=i:=by
 simp only[JN,bT,gT] at h;refine⟨h.1,fun j oj hoj hf=>?_⟩;have hj:j<ops.size:=(fM.1 hoj).1;have h1:=dK.1 h.2 j (by simpa using hj);rw[hf,hoj] at h1;simp only[Bool.not_true,jX,iK,Bool.false_or] at h1;obtain⟨e,he,hb⟩:=Array.any_eq_true'.1 h1;simp only[bT,beq_iff_eq] at hb;exact⟨e,he,hb.1,hb.2⟩
def aoX{i:Nat}{oi:Oper}{v:Value}(hi:ops[i]? =some oi)(hsel: ∀(j:Nat) (o:Oper) cs b,ops[j]? =some o->o.op≠ .select cs b)
  (hQ: ∀c a w,Q (.panic c) (a.put oi.dst v) w->Q (.panic c) a w)(hfi:fin i=false)
  (hfin: ∀j oj,ops[j]? =some oj->fin j=true-> ∃e∈oj.after,Region.binds .any e=true/\e.on=i):
  ∀(fuel:Nat) (listed:Array Bool) (a:Act) (w:World),
   (∀j oj,ops[j]? =some oj->j≠i->listed.getD j true=false->(∀e∈oj.after,Region.binds .any e=true->e.on≠i)->oi.apart ops oj=true)->
   i∈Region.ready .any ops listed->YieldsIf P ops S oi v a->S w->
   uW P ops Q S fin fuel (listed.setIfInBounds i true) (a.put oi.dst v) w->uW P ops Q S fin (fuel+1) listed a w:=by
 intro fuel
 induction fuel with
 |zero=>
  intro listed a w _ hr hy hS H;refine⟨fun h=>(by rw[h] at hr;cases hr),fun j hj=>?_⟩;by_cases hji:j=i
  .subst hji;exact hy.wpOp hi hS ⟨.inr hS,H⟩
  .have:=ready_mono hj hji
   rw[H.1] at this
   cases this
 |succ fuel ih=>
  intro listed a w hfree hr hy hS H;refine⟨fun h=>(by rw[h] at hr;cases hr),fun j hj=>?_⟩;by_cases hji:j=i
  .subst hji;exact hy.wpOp hi hS ⟨.inr hS,H⟩
  .have h1:=H.2 j (ready_mono hj hji)
   obtain⟨hjun,oj,hoj,hall⟩:=mem_ready.1 hj;have hnot: ∀e∈oj.after,Region.binds .any e=true->e.on≠i:=fun e he hb heq=>by
    have h1:=hall e he hb;have h0:=(mem_ready.1 hr).1;rw[heq] at h1;rcases iL i listed.size with h'|h'
    .simp[h'] at h0 h1;rw[h0] at h1;cases h1
    .simp[nZ h'] at h1
   have hnf:fin j=false:=by
    cases hf:fin j with
    |false=>rfl
    |true=>obtain⟨e,he,hb,heq⟩:=hfin j oj hoj hf;exact absurd heq (hnot e he hb)
   have h2:=wpOp_putIf hoj (hfree j oj hoj hji hjun hnot) (fun cs b=>hsel i oi cs b hi) (fun cs b=>hsel j oj cs b hoj) hQ hy h1;have hfree': ∀k ok,ops[k]? =some ok->k≠i->(listed.setIfInBounds j true).getD k true=false->
     (∀e∈ok.after,Region.binds .any e=true->e.on≠i)->oi.apart ops ok=true:=fun k ok hk hki hun hno=>by
    refine hfree k ok hk hki ?_ hno;by_cases hjk:j=k
    .subst hjk;exact hjun
    .rw[getD_set_ne true hjk] at hun;exact hun
   refine wpOp_mono (fun a' w' h3=>?_) h2;have hS':S w':=h3.2.1.resolve_left (by rw[hnf];simp);refine⟨.inr hS',ih (listed.setIfInBounds j true) a' w' hfree' (ready_mono hr (Ne.symm hji)) h3.1 hS' ?_⟩;rw[Array.setIfInBounds_comm _ _ hji];exact h3.2.2
def ZJ{i:Nat}{fuel:Nat}{listed:Array Bool}{a:Act}{w:World}(hr:Region.ready .any ops listed=[i])
  (h:wpOp P ops Q i (fun a' w'=>(fin i=true\/S w')/\uW P ops Q S fin fuel (listed.setIfInBounds i true) a' w') a w):uW P ops Q S fin (fuel+1) listed a w:=
 ⟨fun h0=>absurd (hr.symm.trans h0) (by simp),fun j hj=>by rw[hr,aU] at hj;subst hj;exact h⟩
def yF(ops:Array Oper)(fin:Nat->Bool)(listed:Array Bool)(i:Nat):Bool:=
 Region.noSelect ops&&Region.free .any ops listed i&&(Region.ready .any ops listed).contains i&&JN ops fin i
end
class kd (l m:List aw):Prop where s:l.Sublist m
instance kd.refl (l:List aw):kd l l:=⟨List.Sublist.refl l⟩
instance kd.cons (l m:List aw) (o:aw) [h:kd l m]:kd l (o::m):=⟨h.s.cons o⟩
def HS(C:aD)(own:List aw)(G:Gh):World->Prop:=fun w=> ∃G',bp G G'/\bt C own G' w
section
variable {P:Program} {C:aD} {n:Nat} {fr:Fr} {own own0:List aw} {G G0:Gh} {ops:Array Oper} {Q:Exit->Act->World->Prop} {fin:Nat->Bool}
def U4{id:Nat}(fin:Nat->Bool)(hm:P.follows .mixedOrders=true)
  (h:St C n fr own G (uW P ops (f5 Q) (HS C own G) fin ops.size (Array.replicate ops.size false))):St C n fr own G ((Code.region id ops true).wp P Q):=by
 intro a w rl;exact wp_mono (wp_region_any hm (Dh _ _ _ _ (h a _ (rl.heap rl.h.drew)))) f5.imp
def wQ{b:Bool}{Φ:Act->World->Prop}[hs:kd own0 own][hl:GL G0 G](h:St C n fr own G Φ):St C n fr own G (fun a w=>(b=true\/HS C own0 G0 w)/\Φ a w):=
 fun a w rl=>⟨.inr ⟨G,hl.le,rl.h.drop hs.s⟩,h a w rl⟩
end
end Go.Sx
end
