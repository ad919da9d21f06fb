import Derived.Calls
import Derived.Orders
import Derived.OrdersHeld
import Derived.Laws.World
import Derived.Below
import Derived.IntWalk
import Derived.KernelRfl
import Derived.Laws.Append
set_option linter.all false
section
namespace Go.Sx
def J{α:Sort _}{a:α}:a=a:=rfl
open Go
def aQ:=@List.mem_cons_self
def aZ:=@List.mem_cons_of_mem
def aX:=@List.getElem?_eq_getElem
def aJ:=@List.length_map
def aK:=@List.getD_eq_getElem?_getD
def aV:=@List.mem_cons
def aW:=@List.length_replicate
def aY:=@List.mem_singleton
def aU:=@List.getElem?_eq_some_iff
def aT:=@List.length_append
def aR:=@Nat.eq_of_beq_eq_true
def aS:=@List.mem_of_getElem?
def aL:=@List.length_set
def aM:=@Nat.le_refl
def aN:=@Bool.and_eq_true
def bQ:=@List.take_of_length_le
def bZ:=@Int.toNat_natCast
def bX:=@List.length_cons
def bJ:=@List.pairwise_cons
def bK:=@Nat.zero_le
def bV:=@List.mem_map
def bW:=@List.map_cons
def bY:=@List.drop_eq_getElem_cons
def bU:=@Nat.mul_le_mul_right
def bT:=@List.eq_nil_of_length_eq_zero
def bR:=@Nat.pow_le_pow_right
def bS:=@List.mem_append
def bL:=@Array.getD_eq_getD_getElem?
def bM:=@List.length_take
def cZ:=@Nat.mul_comm
def cX:=@Nat.mul_assoc
def cJ:=@List.mem_append_left
def cK:=@List.cons_append
def cV:=@List.mem_append_right
def cW:=@Rat.intCast_eq_zero_iff
def cY:=@List.nil_append
def cR:=@List.map_append
def cS:=@Nat.add_mul
def cM:=@Rat.intCast_mul
def cN:=@List.getElem?_append_left
def dQ:=@List.append_assoc
def dZ:=@Nat.mod_lt
def dX:=@List.foldl_cons
def dJ:=@Bool.false_eq_true
def dK:=@Nat.lt_of_lt_of_le
def dV:=@Nat.mul_add
def dW:=@List.forall_mem_cons
def dY:=@List.getElem?_eq_none
def dT:=@List.take_length
def dR:=@Nat.le_trans
def dS:=@Nat.zero_add
def eX:=@List.getElem?_map
def eJ:=@Array.getElem?_setIfInBounds
def eK:=@List.map_nil
def eY:=@List.take_append_of_le_length
def fQ:=@Nat.add_zero
def fZ:=@Int.sign_eq_neg_one_of_neg
def fX:=@List.all_eq_true
def fJ:=@List.getElem_mem
def fK:=@Nat.eq_zero_or_pos
def fV:=@List.mem_of_mem_take
def fW:=@Nat.pow_pos
def fY:=@Rat.le_of_lt
def fU:=@Nat.mod_eq_of_lt
def fT:=@Array.getElem?_eq_some_iff
def fR:=@List.getElem?_append_right
def fS:=@Nat.pow_add
def fL:=@Nat.mul_le_mul_left
def fM:=@Int.sign_eq_zero_iff_zero
def fN:=@Nat.pow_succ
def gQ:=@Nat.lt_of_le_of_lt
def gX:=@Nat.succ_mul
def gJ:=@Int.sign_eq_one_of_pos
def gK:=@List.mem_flatMap
def gV:=@Nat.min_eq_left
def gW:=@Array.getElem?_eq_getElem
def gU:=@List.take_add_one
def gT:=@List.map_toArray
def gR:=@List.length_drop
def gS:=@List.mem_map_of_mem
def gL:=@List.drop_of_length_le
def gM:=@List.getLast_cons_cons
def gN:=@List.getLast_singleton
def iQ:=@Int.fdiv_eq_ediv_of_nonneg
def iZ:=@Rat.le_refl
def iX:=@Bool.not_eq_true'
def iJ:=@List.take_succ_eq_append_getElem
def iK:=@List.length_nil
def iV:=@Nat.pos_of_ne_zero
def iW:=@List.append_nil
def iY:=@Bool.and_eq_false_iff
def iU:=@Nat.mul_one
def iT:=@Array.length_toList
def iR:=@Bool.or_eq_true
def iS:=@Nat.lt_or_ge
def iL:=@List.mem_of_mem_drop
def iM:=@List.replicate_succ
def iN:=@Nat.gcd_comm
def jQ:=@Int.natCast_mul
def jZ:=@Option.getD_some
def jX:=@Array.getElem?_append_left
def jJ:=@List.drop_zero
def jK:=@List.drop_length
def jV:=@Int.natAbs_mul
def jW:=@List.pairwise_append
def jY:=@List.drop_append_of_le_length
def jU:=@Nat.mul_pos
def jT:=@Option.map_some
def jR:=@Int.natAbs_neg
def jS:=@Nat.div_eq_of_lt
def jL:=@Nat.mul_le_mul
def jM:=@Int.natAbs_natCast
def jN:=@List.mem_filter
def kQ:=@List.nil_sublist
def kZ:=@Nat.gcd_dvd_left
def kX:=@List.not_mem_nil
def kJ:=@Nat.div_lt_iff_lt_mul
def kK:=@List.map_take
def kV:=@Nat.zero_mul
def kW:=@Nat.div_le_self
def kY:=@Int.natAbs_eq_zero
def kU:=@List.any_eq_true
def kR:=@Nat.gcd_pos_of_pos_left
def kS:=@Nat.mul_lt_mul_of_pos_right
def kL:=@Nat.add_assoc
def kN:=@List.ext_getElem?
def lQ:=@List.flatten_cons
def lZ:=@Nat.add_comm
def lX:=@Nat.mul_left_comm
def lJ:=@Int.ofNat_natAbs_of_nonpos
def lK:=@Nat.gcd_dvd_right
def lV:=@Nat.eq_zero_of_gcd_eq_zero_right
def lW:=@List.flatMap_cons
def lY:=@List.foldl_nil
def lU:=@List.getD_cons_succ
def lT:=@Nat.eq_zero_of_gcd_eq_zero_left
def lR:=@List.take_append_drop
def lS:=@List.perm_append_comm
def lL:=@List.getElem?_drop
def lM:=@Nat.add_sub_cancel
def lN:=@List.append_of_mem
def mQ:=@Nat.shiftLeft_eq
def mZ:=@Bool.not_eq_true
def mX:=@List.eq_of_mem_replicate
def mJ:=@Nat.shiftLeft_add_eq_or_of_lt
def mK:=@Nat.add_mul_div_left
def mV:=@Nat.blt_eq
def mW:=@Rat.num_eq_zero
def mY:=@Array.getElem?_eq_none
def mU:=@Nat.div_div_eq_div_mul
def mT:=@Nat.one_mul
def mR:=@Rat.neg_num
def mS:=@List.map_drop
def mL:=@List.drop_append
def mM:=@List.filter_cons
def mN:=@Nat.mul_lt_mul''
def nQ:=@List.mem_range
def nZ:=@Nat.gcd_zero_right
def nX:=@Nat.mul_lt_mul_of_lt_of_le
def nJ:=@List.set_append_right
def nK:=@List.length_singleton
def nV:=@List.getLast?_eq_getElem?
def nW:=@Nat.add_mul_mod_self_left
def nY:=@Int.natAbs_ediv_le_natAbs
def nU:=@Bool.eq_iff_iff
def nT:=@Rat.intCast_inj
def nR:=@List.size_toArray
def nS:=@List.getElem?_set
def nL:=@Int.natAbs_of_nonneg
def nM:=@Int.lt_trichotomy
def nN:=@List.length_range
def oQ:=@List.length_dropLast
def oZ:=@Nat.pow_lt_pow_iff_right
def oX:=@Nat.gcd_pos_of_pos_right
def oJ:=@List.take_succ_cons
def oK:=@List.mapM_cons
def oV:=@Array.toList_map
def oW:=@List.perm_middle
def oY:=@Int.natCast_emod
def oU:=@Rat.mul_nonneg
def oT:=@Rat.mkRat_eq_div
def oR:=@List.countP_cons
def oS:=@List.drop_eq_nil_of_le
def oL:=@Nat.le_of_lt
def oM:=@Nat.beq_refl
def oN:=@List.getElem_cons_zero
def pQ:=@Rat.intCast_add
def pZ:=@Rat.intCast_neg
def pX:=@Rat.intCast_sub
def pJ:=@Array.getElem?_toList
def pK:=@List.length_filter_lt_length_iff_exists
def pV:=@Nat.pow_mul
def pW:=@Rat.neg_den
def pY:=@List.mem_of_getLast?
def pU:=@Nat.mul_zero
def pT:=@List.map_set
def pR:=@Nat.lt_trans
def pS:=@Int.le_of_lt
def pL:=@Int.natCast_ediv
def pM:=@Nat.le_add_right
def pN:=@List.pairwise_iff_getElem
def qQ:=@List.getElem?_range
def qZ:=@Int.toNat_of_nonneg
def qX:=@List.drop_set_of_lt
def qJ:=@List.length_pos_iff
def qK:=@Int.sign_trichotomy
def qV:=@List.takeWhile_cons
def qW:=@List.getElem_of_mem
def qY:=@List.flatMap_append
def qU:=@Array.getElem?_replicate
def qT:=@Nat.dvd_trans
def qR:=@Option.map_none
def qS:=@Nat.div_add_mod
def qL:=@Rat.num_intCast
def qM:=@Rat.den_intCast
def qN:=@Rat.mul_eq_zero
def rQ:=@List.getElem?_take
def rZ:=@Array.foldl_toList
def rX:=@Nat.mul_right_comm
def rJ:=@Int.natCast_dvd_natCast
def rK:=@Nat.mul_div_cancel_left
def rW:=@List.pairwise_map
def rY:=@Nat.sub_self
def rU:=@List.sublist_cons_self
def rT:=@Nat.lt_trichotomy
def rR:=@List.getElem?_set_self
def rS:=@Nat.pow_zero
def rL:=@Rat.intCast_lt_intCast
def rM:=@List.eq_nil_or_concat
def rN:=@List.concat_eq_append
def sQ:=@List.length_filter_le
def sZ:=@Nat.mul_mod_mul_right
def sX:=@Nat.le_div_iff_mul_le
def sJ:=@List.dropLast_sublist
def sK:=@Nat.le_of_not_lt
def sV:=@List.all_cons
def sW:=@Rat.mkRat_one
def sY:=@Bool.or_eq_false_iff
def sU:=@Nat.div_lt_of_lt_mul
def sT:=@Int.natCast_add
def sS:=@Int.mul_eq_zero
def sL:=@Array.toList_zipIdx
def sM:=@List.drop_succ_cons
def sN:=@List.getD_cons_zero
def tQ:=@Int.mul_comm
def tZ:=@List.drop_drop
def tX:=@Rat.mkRat_self
def tJ:=@Nat.gcd_rec
def tK:=@Nat.div_one
abbrev Gh:=Nat->Option (List Value)
def bw(G G':Gh):Prop:= ∀b cs,G b=some cs->G' b=some cs
def bw.refl(G:Gh):bw G G:=fun _ _ h=>h
def bw.trans{a b c:Gh}(h:bw a b)(k:bw b c):bw a c:=fun _ _ x=>k _ _ (h _ _ x)
structure ak where
 b:Nat
 cs:List Value
 ty:TypeId
 lo:Bool
structure aD where
 w0:World
 G0:Gh
 mb:List Nat
 /-- other objects that stay: records of loops, marks -/
 ex:List (Nat×Obj)
 /-- the marks among the deferred calls; the round -/
 mks:List Deferred
 rd:Option Nat
 /-- where names that are fixed lie -/
 fx:Nat->Option Addr
structure bm (C:aD) (own:List ak) (G:Gh) (w:World):Prop where
 os:w.os=C.w0.os
 tape:w.tape=C.w0.tape
 output:w.output=C.w0.output
 size:C.w0.heap.size<=w.heap.size
 keep: ∀b,b<C.w0.heap.size->b∉C.mb->w.heap[b]? =C.w0.heap[b]?
 sub: ∀b cs,G b=some cs-> ∃ty fz,w.heap[b]? =some (.cells ⟨cs⟩ ty fz)
 gle:bw C.G0 G
 gold: ∀b,b<C.w0.heap.size->G b=C.G0 b
 hown: ∀o∈own,w.heap[o.b]? =some (.cells ⟨o.cs⟩ o.ty (0,0))/\G o.b=none/\(o.lo=true->C.w0.heap.size<=o.b)/\(o.lo=false->o.b∈C.mb)
 nd:own.Pairwise (fun x y=>x.b≠y.b)
 dr:C.w0.drawn<=w.drawn
 ext: ∀p∈C.ex,(∀cs ty z,p.2≠ .cells cs ty z)/\w.heap[p.1]? =some p.2
abbrev Fr:=List (Nat×Value)
def il:Fr->Nat->Option Value
 |[],_=>none
 |(k,v)::t,j=>bif Nat.beq k j then some v else il t j
def put(fr:Fr)(dst:Option Nat)(v:Value):Fr:=match dst with|some d=>(d,v)::fr|none=>fr
def ll(fr:Fr)(a:Act):Prop:= ∀k v,il fr k=some v->a.tmps[k]? =some v
structure gg (C:aD) (n:Nat) (fr:Fr) (own:List ak) (G:Gh) (a:Act) (w:World):Prop where
 h:bm C own G w
 sz:a.tmps.size=n
 fr:ll fr a
 df:a.defers=C.mks
def St(C:aD)(n:Nat)(fr:Fr)(own:List ak)(G:Gh)(Φ:Act->World->Prop):Prop:=
 ∀a w,gg C n fr own G a w->Φ a w
def aw(fr:Fr):Operand->Option Value
 | .tmp k=>il fr k
 | .const v=>some v
 | .global g=>some (.pointer (some ⟨g,0,none⟩))
 | .func f=>some (.func (.func f) #[] #[])
def bj{fr:Fr}{a:Act}(h:ll fr a){x:Operand}{v:Value}(hx:aw fr x=some v):a.eval x=v:=by
 cases x with
 |tmp k=>
  have:=h k v hx;simp only[Act.eval,bL,this,jZ]
 |const u=>simpa[aw,Act.eval] using hx
 |global g=>simpa[aw,Act.eval] using hx
 |func f=>simpa[aw,Act.eval] using hx
def tW(k:Nat)(v:Value)(t:Fr)(j:Nat):il ((k,v)::t) j=if k=j then some v else il t j:=by
 simp only[il];by_cases h:k=j
 ·simp[h]
 ·have:Nat.beq k j=false:=by
   cases hb:Nat.beq k j with
   |false=>rfl
   |true=>exact absurd (aR hb) h
  simp[this,h]
def b9(n:Nat):Option Nat->Bool
 |some d=>Nat.blt d n
 |none=>true
def ll.put{fr:Fr}{a:Act}{n:Nat}(h:ll fr a)(hs:a.tmps.size=n){dst:Option Nat}{v:Value}(hd:b9 n dst=true):ll (Sx.put fr dst v) (a.put dst v):=by
 cases dst with
 |none=>exact h
 |some d=>
  intro k u hk;have hdn:d<n:=by simpa[b9,mV] using hd
  simp only[Sx.put,tW] at hk;simp only[Act.put,eJ];by_cases hkd:d=k
  ·simp only[hkd,if_true] at hk
   subst hkd;simp[hs,hdn,hk]
  ·simp only[hkd,if_false] at hk
   simp only[hkd,if_false];exact h k u hk
def LD(a:Act)(dst:Option Nat)(v:Value):(a.put dst v).tmps.size=a.tmps.size:=by cases dst<;>simp[Act.put]
def Nl(a:Act)(dst:Option Nat)(v:Value):(a.put dst v).defers=a.defers:=by cases dst<;>simp[Act.put]
def gg.put{C n fr own G a w}(r:gg C n fr own G a w){dst:Option Nat}(v:Value)(hd:b9 n dst=true):gg C n (Sx.put fr dst v) own G (a.put dst v) w:=
 ⟨r.h,by rw[LD];exact r.sz,r.fr.put r.sz hd,by rw[Nl];exact r.df⟩
def gg.heap{C n fr own G own' G' a w w'}(r:gg C n fr own G a w)(h:bm C own' G' w'):gg C n fr own' G' a w':=⟨h,r.sz,r.fr,r.df⟩
def dE(P:Program)(ops:Array Oper)(Q:Exit->Act->World->Prop):List Oper->Act->World->Prop
 |[],a,w=>Q .normal a w
 |o::r,a,w=>if Region.wanted o (yielded ops a.tmps) then o.wp P a w (dE P ops Q r) Q else dE P ops Q r (a.put o.dst undef) w
def Yj{P:Program}{ops:Array Oper}{Q:Exit->Act->World->Prop}: ∀(l:List Nat) (k:Nat) (a:Act) (w:World),l=(List.range ops.size).drop k->dE P ops Q (ops.toList.drop k) a w->wpOps P ops Q l a w:=by
 intro l
 induction l with
 |nil=>
  intro k a w hl h;have hk:ops.size<=k:=by
   have:=congrArg List.length hl;simp at this;omega
  rw[oS (by simpa using hk)] at h;exact h
 |cons i t ih=>
  intro k a w hl h;have hk:k<ops.size:=by
   have:=congrArg List.length hl;simp at this;omega
  rw[bY (by simpa using hk)] at hl;obtain⟨hi,ht⟩:=List.cons.inj hl;simp only[List.getElem_range] at hi;subst hi;rw[bY (by simpa using hk)] at h;have ho:ops[i]? =some ops[i]:=gW hk;simp only[wpOps,ho];simp only[dE,Array.getElem_toList] at h;split
  ·rename_i hw
   simp only[hw,if_true] at h;exact .inl (Oper.wp_mono (fun a w h=>ih (i+1) a w ht h) h)
  ·rename_i hw
   simp only[hw] at h;exact ih (i+1) _ w ht h
def apm{P:Program}{id:Nat}{ops:Array Oper}{Q:Exit->Act->World->Prop}{a:Act}{w:World}
  (h:dE P ops Q ops.toList a w):(Code.region id ops false).wp P Q a w:=
 wp_region (Yj _ 0 a w (by simp) (by simpa using h))
def Yd(P:Program)(C:aD)(fr:Fr)(own:List ak)(G:Gh)(o:Oper)(v:Value):Prop:=
 ∀a w,ll fr a->bm C own G w->(execOp a.eval o).run P w= .ok (.value v) w
section
variable {P:Program} {C:aD} {n:Nat} {fr:Fr} {own:List ak} {G:Gh} {ops:Array Oper} {Q:Exit->Act->World->Prop} {r:List Oper}
def qG{o:Oper}{v:Value}(hy:Yd P C fr own G o v)(hg:o.guard=none)(hd:b9 n o.dst=true)
  (h:St C n (put fr o.dst v) own G (dE P ops Q r)):St C n fr own G (dE P ops Q (o::r)):=by
 intro a w rl;simp only[dE,Region.wanted,hg,if_true,Oper.wp,hy a w rl.fr rl.h,Oper.upon];exact h _ _ (rl.put v hd)
def CL{a:Act}{j d:Nat}{b:Bool}(hf:ll fr a)(hj:(ops[j]?).bind (·.dst)=some d)(hl:il fr d=some (.bool b)):yielded ops a.tmps j=some b:=by
 unfold yielded;rw[hj];simp[hf d _ hl]
def S9{o:Oper}{v:Value}{j d:Nat}{b:Bool}(hg:o.guard=some (j,b))(hj:(ops[j]?).bind (·.dst)=some d)(hl:il fr d=some (.bool b))
  (hy:Yd P C fr own G o v)(hd:b9 n o.dst=true)
  (h:St C n (put fr o.dst v) own G (dE P ops Q r)):St C n fr own G (dE P ops Q (o::r)):=by
 intro a w rl;have:Region.wanted o (yielded ops a.tmps)=true:=by simp[Region.wanted,hg,CL rl.fr hj hl]
 simp only[dE,this,if_true,Oper.wp,hy a w rl.fr rl.h,Oper.upon];exact h _ _ (rl.put v hd)
def UR{o:Oper}{j d:Nat}{b c:Bool}(hg:o.guard=some (j,b))(hj:(ops[j]?).bind (·.dst)=some d)(hl:il fr d=some (.bool c))(hbc:(c==b)=false)
  (hd:b9 n o.dst=true)(h:St C n (put fr o.dst undef) own G (dE P ops Q r)):St C n fr own G (dE P ops Q (o::r)):=by
 intro a w rl;have:Region.wanted o (yielded ops a.tmps)=false:=by simp[Region.wanted,hg,CL rl.fr hj hl,hbc]
 simp only[dE,this];exact h _ _ (rl.put undef hd)
def zE(h:St C n fr own G (Q .normal)):St C n fr own G (dE P ops Q []):=h
def d7{id:Nat}(h:St C n fr own G (dE P ops Q ops.toList)):St C n fr own G ((Code.region id ops false).wp P Q):=
 fun a w rl=>apm (h a w rl)
def bt{x y:Code}(h:St C n fr own G (x.wp P (Exit.then (y.wp P Q) Q))):St C n fr own G ((Code.seq x y).wp P Q):=
 fun a w rl=>wp_seq (h a w rl)
def zK(h:St C n fr own G (Q .normal)):St C n fr own G (Code.skip.wp P Q):=fun a w rl=>wp_skip (h a w rl)
def c6(h:St C n fr own G (Q .ret)):St C n fr own G (Code.ret.wp P Q):=fun a w rl=>wp_ret (h a w rl)
def jt{id:Nat}(h:St C n fr own G (Q (.exit id))):St C n fr own G ((Code.exit id).wp P Q):=fun a w rl=>wp_exit (h a w rl)
def ee{id:Nat}{c:Code}(h:St C n fr own G (c.wp P (Exit.inBlock id Q))):St C n fr own G ((Code.block id c).wp P Q):=
 fun a w rl=>wp_block (h a w rl)
def jr{id:Nat}{Q:Exit->Act->World->Prop}(h:St C n fr own G (Q .normal)):St C n fr own G (Exit.inBlock id Q (.exit id)):=
 fun a w rl=>by simp only[Exit.inBlock,if_true];exact h a w rl
def Qm{id j:Nat}{Q:Exit->Act->World->Prop}(hne:Nat.beq j id=false)(h:St C n fr own G (Q (.exit j))):St C n fr own G (Exit.inBlock id Q (.exit j)):=
 fun a w rl=>by
  have:j≠id:=fun e=>by subst e;simp at hne
  simp only[Exit.inBlock,this,if_false];exact h a w rl
def pj{c:Operand}{x y:Code}(hc:aw fr c=some (.bool true))(h:St C n fr own G (x.wp P Q)):St C n fr own G ((Code.cond c x y).wp P Q):=
 fun a w rl=>wp_cond_true (bj rl.fr hc) (h a w rl)
def vQ{c:Operand}{x y:Code}(hc:aw fr c=some (.bool false))(h:St C n fr own G (y.wp P Q)):St C n fr own G ((Code.cond c x y).wp P Q):=
 fun a w rl=>wp_cond_false (bj rl.fr hc) (h a w rl)
def f7{p:Prop}{inst:Decidable p}{c:Operand}{x y:Code}(hc:aw fr c=some (.bool (@decide p inst)))(h1:p->St C n fr own G (x.wp P Q))(h2: ¬p->St C n fr own G (y.wp P Q)):
  St C n fr own G ((Code.cond c x y).wp P Q):=
 fun a w rl=>wp_cond_split (bj rl.fr hc) (fun h=>h1 (of_decide_eq_true h) a w rl) (fun h=>h2 (of_decide_eq_false h) a w rl)
def axg{b:Bool}{c:Operand}{x y:Code}(hc:aw fr c=some (.bool b))(h1:b=true->St C n fr own G (x.wp P Q))(h2:b=false->St C n fr own G (y.wp P Q)):
  St C n fr own G ((Code.cond c x y).wp P Q):=
 fun a w rl=>wp_cond_split (bj rl.fr hc) (fun h=>h1 h a w rl) (fun h=>h2 h a w rl)
def YV{Φ:Act->World->Prop}(d:Nat){b:Bool}(hl:il fr d=some (.bool b))(h1:b=true->St C n ((d, .bool true)::fr) own G Φ)(h2:b=false->St C n ((d, .bool false)::fr) own G Φ):St C n fr own G Φ:=by
 intro a w rl
 cases b with
 |true=>exact h1 J a w ⟨rl.h,rl.sz,fun k v hk=>by
   rw[tW] at hk;split at hk
   ·subst_vars;cases hk;exact rl.fr _ _ hl
   ·exact rl.fr _ _ hk,rl.df⟩
 |false=>exact h2 J a w ⟨rl.h,rl.sz,fun k v hk=>by
   rw[tW] at hk;split at hk
   ·subst_vars;cases hk;exact rl.fr _ _ hl
   ·exact rl.fr _ _ hk,rl.df⟩
def n5{Φ:Act->World->Prop}(d:Nat){p:Prop}{inst:Decidable p}(hl:il fr d=some (.bool (@decide p inst)))(h1:p->St C n ((d, .bool true)::fr) own G Φ)(h2: ¬p->St C n ((d, .bool false)::fr) own G Φ):St C n fr own G Φ:=
 YV d hl (fun h=>h1 (of_decide_eq_true h)) (fun h=>h2 (of_decide_eq_false h))
def uU(fr' fr:Fr):Prop:= ∀k v,il fr' k=some v->il fr k=some v
def uU.nil:uU [] fr:=fun _ _ h=>by cases h
def uU.cons{fr':Fr}{k:Nat}{v:Value}(h:il fr k=some v)(t:uU fr' fr):uU ((k,v)::fr') fr:=fun j u hj=>by
 rw[tW] at hj;split at hj
 ·subst_vars;cases hj;exact h
 ·exact t _ _ hj
end
class ig (own:List ak) (b:Nat) (cs:outParam (List Value)) (ty:outParam TypeId) (lo:outParam Bool):Prop where
 mem:⟨b,cs,ty,lo⟩∈own
instance ig.i1 (b:Nat) (cs:List Value) (ty:TypeId) (lo:Bool) (t:List ak):ig (⟨b,cs,ty,lo⟩::t) b cs ty lo:=⟨aQ⟩
instance ig.i2 (o:ak) (t:List ak) (b:Nat) (cs:List Value) (ty:TypeId) (lo:Bool) [h:ig t b cs ty lo]:ig (o::t) b cs ty lo:=⟨aZ _ h.mem⟩
inductive fD:List ak->Nat->List Value->TypeId->Bool->List Value->List ak->Prop
 |hd (b:Nat) (cs cs':List Value) (ty:TypeId) (lo:Bool) (t:List ak):fD (⟨b,cs,ty,lo⟩::t) b cs ty lo cs' (⟨b,cs',ty,lo⟩::t)
 |tl (o:ak) (t t':List ak) (b:Nat) (cs cs':List Value) (ty:TypeId) (lo:Bool) (h:fD t b cs ty lo cs' t'):fD (o::t) b cs ty lo cs' (o::t')
inductive jn:List ak->ak->List ak->Prop
 |hd (o:ak) (t:List ak):jn (o::t) o t
 |tl (x:ak) (t t':List ak) (o:ak) (h:jn t o t'):jn (x::t) o (x::t')
class GE (A:outParam Gh) (B:Gh):Prop where le:bw A B
class GL (A B:Gh):Prop where le:bw A B
instance GL.refl (A:Gh):GL A A:=⟨bw.refl A⟩
instance GL.step (A B C:Gh) [h:GE B C] [k:GL A B]:GL A C:=⟨k.le.trans h.le⟩
class vV (G:outParam Gh) (b:Nat) (cs:outParam (List Value)):Prop where h:G b=some cs
def vV.up{A G:Gh}{b:Nat}{cs:List Value}(h:vV A b cs)[k:GL A G]:G b=some cs:=k.le _ _ h.h
def cF:List Value->Nat->Nat->Option (List Value)
 |_,0,0=>some []
 |[],0,_+1=>none
 |v::t,0,k+1=>match cF t 0 k with|some l=>some (v::l)|none=>none
 |[],_+1,_=>none
 |_::t,off+1,k=>cF t off k
def cp:List Value->Nat->List Value->List Value
 |cs,_,[]=>cs
 |cs,off,v::vs=>cp (cs.set off v) (off+1) vs
def qz: ∀(cs:List Value) (off k:Nat) (l:List Value),cF cs off k=some l->l.length=k/\ ∀i,i<k->cs[off+i]? =l[i]?
 |cs,0,0,l,h=>by
  cases cs<;>(simp only[cF] at h;cases h;exact⟨J,fun i hi=>absurd hi (Nat.not_lt_zero _)⟩)
 |[],0,_+1,l,h=>by simp[cF] at h
 |v::t,0,k+1,l,h=>by
  simp only[cF] at h;split at h
  ·rename_i l' hl'
   cases h
   obtain⟨h1,h2⟩:=qz t 0 k l' hl';refine⟨by simp[h1],fun i hi=>?_⟩
   cases i with
   |zero=>rfl
   |succ i=>
    have:=h2 i (by omega);simpa using this
  ·cases h
 |[],_+1,_,l,h=>by simp[cF] at h
 |_::t,off+1,k,l,h=>by
  simp only[cF] at h;obtain⟨h1,h2⟩:=qz t off k l h;refine⟨h1,fun i hi=>?_⟩;have:=h2 i hi;rw[<-this,show off+1+i=(off+i)+1 by omega];rfl
class lj (P:Program) (t:TypeId) (k:outParam Nat):Prop where
 agg: ∀w,(isAgg t).run P w= .ok true w
 siz: ∀w,(sizeOf t).run P w= .ok k w
class ik (P:Program) (t:TypeId):Prop where
 agg: ∀w,(isAgg t).run P w= .ok false w
 siz: ∀w,(sizeOf t).run P w= .ok 1 w
class gj (P:Program) (t:TypeId) (z:outParam Value):Prop where
 inf:(P.info? t).map (·.zero)=some (some z)
class lw (P:Program) (t:TypeId) (f:Nat) (off:outParam Nat):Prop where
 at_: ∀(b o:Nat) w,(Instr.fieldAt t (.pointer (some ⟨b,o,none⟩)) f).run P w= .ok (.pointer (some (Addr.add ⟨b,o,none⟩ off))) w
class cg (P:Program) (t:TypeId) (e s by_:outParam Nat):Prop where
 un:P.underlying t=some (.slice e)
 inf:(P.info? e).map (fun i=>(i.size,i.bytes))=some (s,by_)
def gj.info{P:Program}{t:TypeId}{z:Value}(h:gj P t z): ∃i,P.info? t=some i/\i.zero=some z:=by
 have:=h.inf
 cases hi:P.info? t with
 |none=>rw[hi] at this;cases this
 |some i=>rw[hi] at this;exact⟨i,J,by simpa using this⟩
def cg.info{P:Program}{t e s by_:Nat}(h:cg P t e s by_): ∃i,P.info? e=some i/\i.size=s/\i.bytes=by_:=by
 have:=h.inf
 cases hi:P.info? e with
 |none=>rw[hi] at this;cases this
 |some i=>rw[hi] at this;simp at this;exact⟨i,J,this.1,this.2⟩
def o8(b o n:Nat):Addr.add ⟨b,o,none⟩ n=⟨b,o+n,none⟩:=by
 unfold Addr.add;split
 ·subst_vars;rfl
 ·rfl
def Sem.run_bind{α β:Type}(P:Program)(x:Sem α)(f:α->Sem β): ∀(w:World),(x>>=f).run P w=match x.run P w with| .ok a w'=>(f a).run P w'| .halt h w'=> .halt h w':=by
 show∀w,(Sem.bind x f).run P w=_
 induction x with
 |pure a=>intro w;rfl
 |load m a k ih=>
  intro w;simp only[Sem.bind,Sem.run];split
  ·exact ih _ w
  ·split
   ·exact ih _ w
   ·rfl
 |store m a v k ih=>
  intro w
  cases v<;>simp only[Sem.bind,Sem.run]<;>(try rfl)<;>(split<;>first|(split<;>first|rfl|exact ih _)|rfl)
 |new o k ih=>intro w;exact ih _ _
 |shape r k ih=>intro w;exact ih _ _
 |freeze a n k ih=>intro w;exact ih _
 |frozen a k ih=>intro w;exact ih _ _
 |getObj r k ih=>
  intro w;simp only[Sem.bind,Sem.run];split
  ·rfl
  ·exact ih _ w
  ·rfl
 |setObj r o k ih=>
  intro w;simp only[Sem.bind,Sem.run];split
  ·rfl
  ·exact ih _
  ·rfl
 |choose q k ih=>
  intro w;simp only[Sem.bind,Sem.run];split
  ·exact ih _ _
  ·exact ih _ _
 |sys c k ih=>intro w;exact ih _ _
 |program k ih=>intro w;exact ih _ _
 |mark m k ih=>intro w;exact ih _
 |halt h=>intro w;rfl
def run_pure{α:Type}(P:Program)(a:α)(w:World):(pure a:Sem α).run P w= .ok a w:=rfl
def bc{α β:Type}{P:Program}{x:Sem α}{f:α->Sem β}{w w':World}{a:α}(h:x.run P w= .ok a w'):(x>>=f).run P w=(f a).run P w':=by
 rw[Sem.run_bind,h]
def gj.zero{P:Program}{t:TypeId}{z:Value}(h:gj P t z)(w:World):(zeroValue t).run P w= .ok z w:=by
 obtain⟨i,h1,h2⟩:=h.info;simp[zeroValue,typeInfo,program,Sem.run_bind,Sem.run,h1,h2,run_pure]
def cg.u{P:Program}{t e s by_:Nat}(h:cg P t e s by_)(w:World):(underlying t).run P w= .ok (.slice e) w:=by
 simp[underlying,program,Sem.run_bind,Sem.run,h.un,run_pure]
def cg.siz{P:Program}{t e s by_:Nat}(h:cg P t e s by_)(w:World):(sizeOf e).run P w= .ok s w:=by
 obtain⟨i,h1,h2,_⟩:=h.info;simp[sizeOf,typeInfo,program,Sem.run_bind,Sem.run,h1,h2,run_pure]
section
variable {P:Program} {C:aD} {n:Nat} {fr:Fr} {own:List ak} {G:Gh} {ops:Array Oper} {Q:Exit->Act->World->Prop} {r:List Oper}
def zi{w:World}{b:Nat}{cs:List Value}{ty:TypeId}{fz:Nat×Nat}(h:w.heap[b]? =some (.cells ⟨cs⟩ ty fz))(i:Nat):w.cell? ⟨b,i,none⟩=cs[i]? :=by
 simp[World.cell?,h]
def RA{w:World}{a:Addr}{v:Value}(h:w.cell? a=some v):(load a).run P w= .ok v w:=by
 simp[load,Sem.run,h]
def FL{w:World}{b off:Nat}{l:List Value}: ∀(m i:Nat) (acc:Array Value),(∀j,j<m->w.cell? ⟨b,off+(i+j),none⟩=l[i+j]?)->i+m<=l.length->
  (loadCellsFrom ⟨b,off,none⟩ i m acc).run P w= .ok (acc++((l.drop i).take m).toArray) w
 |0,i,acc,_,_=>by simp[loadCellsFrom,run_pure]
 |m+1,i,acc,h,hl=>by
  have h0:=h 0 (by omega);rw[fQ,aX (by omega)] at h0;unfold loadCellsFrom;rw[bc (a:=l[i]) (w':=w) (by rw[o8];exact RA h0)];rw[FL m (i+1) (acc.push l[i]) (fun j hj=>by have:=h (j+1) (by omega);rw[show i+1+j=i+(j+1) by omega];exact this) (by omega)];congr 1;rw[bY (by omega:i<l.length),oJ];apply Array.ext';simp
def Ex{w:World}{b off k:Nat}{t:TypeId}{cs l:List Value}[ht:lj P t k]{ty:TypeId}{fz:Nat×Nat}(h:w.heap[b]? =some (.cells ⟨cs⟩ ty fz))(hl:cF cs off k=some l):
  (loadVar t ⟨b,off,none⟩).run P w= .ok (.agg ⟨l⟩) w:=by
 obtain⟨h1,h2⟩:=qz _ _ _ _ hl;unfold loadVar;rw[bc (ht.agg w)];simp only[if_true];rw[bc (ht.siz w)];unfold loadCells;rw[bc (FL (l:=l) k 0 #[] (fun j hj=>by rw[zi h];simpa using h2 j hj) (by omega))];simp[run_pure,<-h1]
def Ef{w:World}{b off:Nat}{t:TypeId}{cs:List Value}{v:Value}[ht:ik P t]{ty:TypeId}{fz:Nat×Nat}(h:w.heap[b]? =some (.cells ⟨cs⟩ ty fz))(hl:cs[off]? =some v):
  (loadVar t ⟨b,off,none⟩).run P w= .ok v w:=by
 unfold loadVar;rw[bc (ht.agg w)];simp only[dJ,if_false];exact RA (by rw[zi h];exact hl)
def cH{α:Type}{f:α->Next}{s:Sem α}{w w':World}{a:α}(h:s.run P w= .ok a w'):(do pure (f (<-s)):Sem Next).run P w= .ok (f a) w':=by
 rw[bc h];rfl
def BK{dst:Option Nat}{t ty':TypeId}{pos:String}{af:Array Edge}{gd:Option (Nat×Bool)}{x:Operand}{b off k:Nat}{cs l:List Value}{lo:Bool}{ty:TypeId}
  (hx:aw fr x=some (.pointer (some ⟨b,off,none⟩)))[ho:ig own b cs ty lo][lj P t k](hl:cF cs off k=some l):
  Yd P C fr own G ⟨dst, .load t x,ty',pos,af,gd⟩ (.agg ⟨l⟩):=by
 intro a w hf hh;simp only[execOp,bj hf hx,Instr.loadAt,Instr.sureAddr];exact cH (Ex (hh.hown _ ho.mem).1 hl)
def lm{dst:Option Nat}{t ty':TypeId}{pos:String}{af:Array Edge}{gd:Option (Nat×Bool)}{x:Operand}{b off:Nat}{cs:List Value}{v:Value}{lo:Bool}{ty:TypeId}
  (hx:aw fr x=some (.pointer (some ⟨b,off,none⟩)))[ho:ig own b cs ty lo][ik P t](hl:cs[off]? =some v):
  Yd P C fr own G ⟨dst, .load t x,ty',pos,af,gd⟩ v:=by
 intro a w hf hh;simp only[execOp,bj hf hx,Instr.loadAt,Instr.sureAddr];exact cH (Ef (hh.hown _ ho.mem).1 hl)
def Eq{dst:Option Nat}{t ty':TypeId}{pos:String}{af:Array Edge}{gd:Option (Nat×Bool)}{x:Operand}{b off k:Nat}{cs l:List Value}
  (hx:aw fr x=some (.pointer (some ⟨b,off,none⟩)))(hg:G b=some cs)[lj P t k](hl:cF cs off k=some l):
  Yd P C fr own G ⟨dst, .load t x,ty',pos,af,gd⟩ (.agg ⟨l⟩):=by
 intro a w hf hh;obtain⟨ty,fz,hb⟩:=hh.sub _ _ hg;simp only[execOp,bj hf hx,Instr.loadAt,Instr.sureAddr];exact cH (Ex hb hl)
def Aw{dst:Option Nat}{t ty':TypeId}{pos:String}{af:Array Edge}{gd:Option (Nat×Bool)}{x:Operand}{b off:Nat}{cs:List Value}{v:Value}
  (hx:aw fr x=some (.pointer (some ⟨b,off,none⟩)))(hg:G b=some cs)[ik P t](hl:cs[off]? =some v):
  Yd P C fr own G ⟨dst, .load t x,ty',pos,af,gd⟩ v:=by
 intro a w hf hh;obtain⟨ty,fz,hb⟩:=hh.sub _ _ hg;simp only[execOp,bj hf hx,Instr.loadAt,Instr.sureAddr];exact cH (Ef hb hl)
variable {dst:Option Nat} {t t' ty':TypeId} {pos:String} {af:Array Edge} {gd:Option (Nat×Bool)} {x y:Operand}
def fE{v:Value}(hx:aw fr x=some v):Yd P C fr own G ⟨dst, .move x,ty',pos,af,gd⟩ v:=by
 intro a w hf hh;simp only[execOp,bj hf hx];rfl
def Ii{v:Value}(hx:aw fr x=some v):Yd P C fr own G ⟨dst, .assign x,ty',pos,af,gd⟩ v:=by
 intro a w hf hh;simp only[execOp,bj hf hx];rfl
def r7{z:Operand}{v:Value}(hc:aw fr z=some (.bool true))(hx:aw fr x=some v):Yd P C fr own G ⟨dst, .pick z x y,ty',pos,af,gd⟩ v:=by
 intro a w hf hh;simp only[execOp,bj hf hc,bj hf hx,asBool];rfl
def me{z:Operand}{v:Value}(hc:aw fr z=some (.bool false))(hx:aw fr y=some v):Yd P C fr own G ⟨dst, .pick z x y,ty',pos,af,gd⟩ v:=by
 intro a w hf hh;simp only[execOp,bj hf hc,bj hf hx,asBool];rfl
def lf{ad:Addr}(hx:aw fr x=some (.pointer (some ad))):Yd P C fr own G ⟨dst, .nilCheck x,ty',pos,af,gd⟩ (.pointer (some ad)):=by
 intro a w hf hh;simp only[execOp,bj hf hx];rfl
def ou{b o f off:Nat}[hF:lw P t f off](hx:aw fr x=some (.pointer (some ⟨b,o,none⟩))):
  Yd P C fr own G ⟨dst, .fieldAddr t x f,ty',pos,af,gd⟩ (.pointer (some ⟨b,o+off,none⟩)):=by
 intro a w hf hh;simp only[execOp,bj hf hx];have:=hF.at_ b o w;rw[o8] at this;exact cH this
def Ev{vs:Array Value}{i:Nat}{v:Value}(hx:aw fr x=some (.tuple vs))(hv:vs[i]? =some v):Yd P C fr own G ⟨dst, .extract x i,ty',pos,af,gd⟩ v:=by
 intro a w hf hh;simp only[execOp,bj hf hx,Instr.extract,hv];rfl
def zG{fn:Fn}{c1 c2:Array Operand}{l1 l2:List Value}(h1:c1.toList.mapM (aw fr)=some l1)(h2:c2.toList.mapM (aw fr)=some l2):
  Yd P C fr own G ⟨dst, .makeFunc fn c1 c2,ty',pos,af,gd⟩ (.func fn ⟨l1⟩ ⟨l2⟩):=by
 intro a w hf hh;have key: ∀(l:List Operand) (m:List Value),l.mapM (aw fr)=some m->l.map a.eval=m:=by
  intro l
  induction l with
  |nil=>intro m h;simp at h;subst h;rfl
  |cons o t ih=>
   intro m h;rw[oK] at h
   cases ho:aw fr o with
   |none=>simp[ho] at h
   |some u=>
    cases ht:t.mapM (aw fr) with
    |none=>simp[ho,ht] at h
    |some m'=>
     simp[ho,ht] at h;subst h;simp[bj hf ho,ih _ ht]
 have e1:c1.map a.eval=⟨l1⟩:=by apply Array.ext';simpa using key _ _ h1
 have e2:c2.map a.eval=⟨l2⟩:=by apply Array.ext';simpa using key _ _ h2
 simp only[execOp,e1,e2];rfl
def iI{op:BinOp}{k:IntKind}{p q:Int}{v:Value}(hx:aw fr x=some (.int k p))(hy:aw fr y=some (.int k q))(hs: ∀w,(binOp op t (.int k p) (.int k q)).run P w= .ok v w):
  Yd P C fr own G ⟨dst, .binOp op t x y t',ty',pos,af,gd⟩ v:=by
 intro a w hf hh;simp only[execOp,bj hf hx,bj hf hy];have:(eqGuard op t x y (.int k p) (.int k q)).run P w= .ok () w:=by cases op<;>rfl
 exact cH (by rw[bc this];exact hs w)
def Rg(k:IntKind)(p q:Int)(w:World):(binOp .add t (.int k p) (.int k q)).run P w= .ok (.int k (k.wrap (p+q))) w:=by simp[binOp,Op.intArith,run_pure]
def NP(k:IntKind)(p q:Int)(w:World):(binOp .sub t (.int k p) (.int k q)).run P w= .ok (.int k (k.wrap (p-q))) w:=by simp[binOp,Op.intArith,run_pure]
def Td(k:IntKind)(p q:Int)(w:World):(binOp .mul t (.int k p) (.int k q)).run P w= .ok (.int k (k.wrap (p*q))) w:=by simp[binOp,Op.intArith,run_pure]
def UH(k:IntKind)(p q:Int)(w:World)(h:q≠0):(binOp .quo t (.int k p) (.int k q)).run P w= .ok (.int k (k.wrap (p.tdiv q))) w:=by simp[binOp,Op.intDiv,run_pure,h]
def Zd(k:IntKind)(p q:Int)(w:World)(h:q≠0):(binOp .rem t (.int k p) (.int k q)).run P w= .ok (.int k (p.tmod q)) w:=by simp[binOp,Op.intDiv,run_pure,h]
def asR(k:IntKind)(p q:Int)(w:World):(binOp .lss t (.int k p) (.int k q)).run P w= .ok (.bool (decide (p<q))) w:=by simp[binOp,Op.intCmp,run_pure]
def au0(k:IntKind)(p q:Int)(w:World):(binOp .leq t (.int k p) (.int k q)).run P w= .ok (.bool (decide (p<=q))) w:=by simp[binOp,Op.intCmp,run_pure]
def auy(k:IntKind)(p q:Int)(w:World):(binOp .gtr t (.int k p) (.int k q)).run P w= .ok (.bool (decide (q<p))) w:=by simp[binOp,Op.intCmp,run_pure]
def XF(k:IntKind)(p q:Int)(w:World):(binOp .geq t (.int k p) (.int k q)).run P w= .ok (.bool (decide (q<=p))) w:=by simp[binOp,Op.intCmp,run_pure]
def ZH(k:IntKind)(p q:Int)(w:World):(binOp .eql t (.int k p) (.int k q)).run P w= .ok (.bool (decide (p=q))) w:=by
 have:(p==q)=decide (p=q):=by rw[nU];simp
 simp[binOp,Op.intCmp,run_pure,this]
def ZA(k:IntKind)(p q:Int)(w:World):(binOp .neq t (.int k p) (.int k q)).run P w= .ok (.bool (decide (p≠q))) w:=by
 have:(p !=q)=decide (p≠q):=by rw[nU];simp
 simp[binOp,Op.intCmp,run_pure,this]
def sC{k:IntKind}{p:Int}(h:k.min<=p/\p<=k.max):k.wrap p=p:=by
 cases k<;>simp only[IntKind.min,IntKind.max,IntKind.wrap,IntKind.bits,IntKind.signed] at* <;>simp at h⊢ <;>(try split)<;>omega
def Em{k:IntKind}{p q:Int}(hx:aw fr x=some (.int k p))(hy:aw fr y=some (.int k q))(h:k.min<=p+q/\p+q<=k.max):Yd P C fr own G ⟨dst, .binOp .add t x y t',ty',pos,af,gd⟩ (.int k (p+q)):=
 iI hx hy fun w=>by rw[Rg,sC h]
def Eh{k:IntKind}{p q:Int}(hx:aw fr x=some (.int k p))(hy:aw fr y=some (.int k q))(h:k.min<=p-q/\p-q<=k.max):Yd P C fr own G ⟨dst, .binOp .sub t x y t',ty',pos,af,gd⟩ (.int k (p-q)):=
 iI hx hy fun w=>by rw[NP,sC h]
def IE{k:IntKind}{p q:Int}(hx:aw fr x=some (.int k p))(hy:aw fr y=some (.int k q))(h:k.min<=p*q/\p*q<=k.max):Yd P C fr own G ⟨dst, .binOp .mul t x y t',ty',pos,af,gd⟩ (.int k (p*q)):=
 iI hx hy fun w=>by rw[Td,sC h]
def VA{k:IntKind}{p q:Int}(hx:aw fr x=some (.int k p))(hy:aw fr y=some (.int k q)):Yd P C fr own G ⟨dst, .binOp .add t x y t',ty',pos,af,gd⟩ (.int k (k.wrap (p+q))):=iI hx hy fun w=>Rg k p q w
def wl{k:IntKind}{p q:Int}(hx:aw fr x=some (.int k p))(hy:aw fr y=some (.int k q)):Yd P C fr own G ⟨dst, .binOp .sub t x y t',ty',pos,af,gd⟩ (.int k (k.wrap (p-q))):=iI hx hy fun w=>NP k p q w
def Ly{k:IntKind}{p q:Int}(hx:aw fr x=some (.int k p))(hy:aw fr y=some (.int k q))(h:q≠0):Yd P C fr own G ⟨dst, .binOp .quo t x y t',ty',pos,af,gd⟩ (.int k (k.wrap (p.tdiv q))):=iI hx hy fun w=>UH k p q w h
def Mg{k:IntKind}{p q:Int}(hx:aw fr x=some (.int k p))(hy:aw fr y=some (.int k q))(h:q≠0):Yd P C fr own G ⟨dst, .binOp .rem t x y t',ty',pos,af,gd⟩ (.int k (p.tmod q)):=iI hx hy fun w=>Zd k p q w h
def jg{k:IntKind}{p q:Int}(hx:aw fr x=some (.int k p))(hy:aw fr y=some (.int k q)):Yd P C fr own G ⟨dst, .binOp .lss t x y t',ty',pos,af,gd⟩ (.bool (decide (p<q))):=iI hx hy fun w=>asR k p q w
def aEp{k:IntKind}{p q:Int}(hx:aw fr x=some (.int k p))(hy:aw fr y=some (.int k q)):Yd P C fr own G ⟨dst, .binOp .leq t x y t',ty',pos,af,gd⟩ (.bool (decide (p<=q))):=iI hx hy fun w=>au0 k p q w
def sO{k:IntKind}{p q:Int}(hx:aw fr x=some (.int k p))(hy:aw fr y=some (.int k q)):Yd P C fr own G ⟨dst, .binOp .gtr t x y t',ty',pos,af,gd⟩ (.bool (decide (q<p))):=iI hx hy fun w=>auy k p q w
def tM{k:IntKind}{p q:Int}(hx:aw fr x=some (.int k p))(hy:aw fr y=some (.int k q)):Yd P C fr own G ⟨dst, .binOp .geq t x y t',ty',pos,af,gd⟩ (.bool (decide (q<=p))):=iI hx hy fun w=>XF k p q w
def iF{k:IntKind}{p q:Int}(hx:aw fr x=some (.int k p))(hy:aw fr y=some (.int k q)):Yd P C fr own G ⟨dst, .binOp .eql t x y t',ty',pos,af,gd⟩ (.bool (decide (p=q))):=iI hx hy fun w=>ZH k p q w
def tG{k:IntKind}{p q:Int}(hx:aw fr x=some (.int k p))(hy:aw fr y=some (.int k q)):Yd P C fr own G ⟨dst, .binOp .neq t x y t',ty',pos,af,gd⟩ (.bool (decide (p≠q))):=iI hx hy fun w=>ZA k p q w
variable {e s by_:Nat}
def oh[hT:cg P t e s by_]{ad:Option Addr}{len cap:Nat}(hx:aw fr x=some (.slice ad len cap)):
  Yd P C fr own G ⟨dst, .call ⟨.builtin .len, #[x], #[t]⟩,ty',pos,af,gd⟩ (.int .i64 len):=by
 intro a w hf hh;simp only[execOp,resolve,gT,bW,eK,bj hf hx];have h1:(Builtin.len_ #[t] ty' #[.slice ad len cap]).run P w= .ok (.int .i64 len) w:=by
  simp only[Builtin.len_];show(underlying t>>=_).run P w=_;rw[bc (hT.u w)];rfl
 exact cH h1
def zV[hT:cg P t e s by_]{k:IntKind}{b off len cap:Nat}{i:Int}(hx:aw fr x=some (.slice (some ⟨b,off,none⟩) len cap))(hy:aw fr y=some (.int k i))(h0:0<=i)(h1:i<len):
  Yd P C fr own G ⟨dst, .indexAddr t x y,ty',pos,af,gd⟩ (.pointer (some ⟨b,off+i.toNat*s,none⟩)):=by
 intro a w hf hh;simp only[execOp,bj hf hx,bj hf hy];have:(Instr.indexAt t (.slice (some ⟨b,off,none⟩) len cap) (.int k i)).run P w= .ok (.pointer (some ⟨b,off+i.toNat*s,none⟩)) w:=by
  unfold Instr.indexAt;show(underlying t>>=_).run P w=_;rw[bc (hT.u w)];show(underlying t>>=_).run P w=_;rw[bc (hT.u w)];simp only[h0,h1,and_self,if_true];show(sizeOf e>>=_).run P w=_;rw[bc (hT.siz w),o8];rfl
 exact cH this
def yc{k:IntKind}{v:Int}{m:Nat}{c:BoundsCode}(w:World)(h0:0<=v)(h1:v<=m):(Instr.sliceBound (.int k v) m c).run P w= .ok v.toNat w:=by
 unfold Instr.sliceBound;simp[asIntOf,h0,h1,run_pure]
def mp(ad:Option Addr)(len cap lo hi mx s:Nat):Value:= .slice (if mx=lo then ad else ad.map (·.add (lo*s))) (hi-lo) (mx-lo)
def AM[hT:cg P t e s by_]{ad:Option Addr}{len cap:Nat}(w:World){lo hi mx:Option Value}{l h m:Nat}(hb: ∀w,(Instr.sliceBounds true len cap lo hi mx).run P w= .ok (l,h,m) w):
  (Instr.sliceAt t (.slice ad len cap) lo hi mx).run P w= .ok (mp ad len cap l h m s) w:=by
 unfold Instr.sliceAt;rw[bc (hT.u w)];show(Instr.slice t (.slice ad len cap) lo hi mx).run P w=_;unfold Instr.slice;rw[bc (hT.u w)];show(Instr.sliceBounds true len cap lo hi mx>>=_).run P w=_;rw[bc (hb w)];show(sizeOf e>>=_).run P w=_;rw[bc (hT.siz w)];rfl
def xZ[hT:cg P t e s by_]{k:IntKind}{ad:Option Addr}{len cap:Nat}{h:Int}(hx:aw fr x=some (.slice ad len cap))(hy:aw fr y=some (.int k h))(h0:0<=h)(h1:h<=cap):
  Yd P C fr own G ⟨dst, .slice t x none (some y) none,ty',pos,af,gd⟩ (.slice ad h.toNat cap):=by
 intro a w hf hh;simp only[execOp,bj hf hx,bj hf hy,qR,jT];have:=AM (P:=P) (t:=t) (ad:=ad) (len:=len) (cap:=cap) w (lo:=none) (hi:=some (.int k h)) (mx:=none) (l:=0) (h:=h.toNat) (m:=cap) (fun w=>by
  simp[Instr.sliceBounds,yc w h0 h1,Result.andThen])
 have e2:mp ad len cap 0 h.toNat cap s= .slice ad h.toNat cap:=by
  unfold mp
  cases ad with
  |none=>simp
  |some ad=>simp[Addr.add]
 rw[<-e2];exact cH this
def CQ[hT:cg P t e s by_]{k:IntKind}{ad:Option Addr}{len cap:Nat}{l:Int}(hx:aw fr x=some (.slice ad len cap))(hy:aw fr y=some (.int k l))(h0:0<=l)(h1:l<=len):
  Yd P C fr own G ⟨dst, .slice t x (some y) none none,ty',pos,af,gd⟩ (mp ad len cap l.toNat len cap s):=by
 intro a w hf hh;simp only[execOp,bj hf hx,bj hf hy,qR,jT];exact cH (AM (P:=P) (t:=t) (ad:=ad) (len:=len) (cap:=cap) w (lo:=some (.int k l)) (hi:=none) (mx:=none) (fun w=>by
  simp[Instr.sliceBounds,yc w h0 h1,Result.andThen]))
def alE[hT:cg P t e s by_]{k k':IntKind}{ad:Option Addr}{len cap:Nat}{l h:Int}{z:Operand}(hx:aw fr x=some (.slice ad len cap))(hy:aw fr y=some (.int k l))(hz:aw fr z=some (.int k' h))(h0:0<=l)(h1:l<=h)(h2:h<=cap):
  Yd P C fr own G ⟨dst, .slice t x (some y) (some z) none,ty',pos,af,gd⟩ (mp ad len cap l.toNat h.toNat cap s):=by
 intro a w hf hh;simp only[execOp,bj hf hx,bj hf hy,bj hf hz,qR,jT];exact cH (AM (P:=P) (t:=t) (ad:=ad) (len:=len) (cap:=cap) w (lo:=some (.int k l)) (hi:=some (.int k' h)) (mx:=none) (fun w=>by
  have h1':l<=(h.toNat:Int):=by omega
  simp[Instr.sliceBounds,yc w (Int.le_trans h0 h1) h2,yc w h0 h1',Result.andThen]))
def arR[hT:cg P t e s by_]{k k':IntKind}{ad:Option Addr}{len cap:Nat}{h m:Int}{z:Operand}(hx:aw fr x=some (.slice ad len cap))(hy:aw fr y=some (.int k h))(hz:aw fr z=some (.int k' m))(h0:0<=h)(h1:h<=m)(h2:m<=cap):
  Yd P C fr own G ⟨dst, .slice t x none (some y) (some z),ty',pos,af,gd⟩ (.slice ad h.toNat m.toNat):=by
 intro a w hf hh;simp only[execOp,bj hf hx,bj hf hy,bj hf hz,qR,jT];have:=AM (P:=P) (t:=t) (ad:=ad) (len:=len) (cap:=cap) w (lo:=none) (hi:=some (.int k h)) (mx:=some (.int k' m)) (l:=0) (h:=h.toNat) (m:=m.toNat) (fun w=>by
  have h1':h<=(m.toNat:Int):=by omega
  simp[Instr.sliceBounds,yc w (Int.le_trans h0 h1) h2,yc w h0 h1',Result.andThen])
 have e2:mp ad len cap 0 h.toNat m.toNat s= .slice ad h.toNat m.toNat:=by
  unfold mp
  cases ad with
  |none=>simp
  |some ad=>simp[Addr.add]
 rw[<-e2];exact cH this
class ml (P:Program) (t:TypeId) (k:outParam IntKind):Prop where u: ∀w,(underlying t).run P w= .ok (.int k) w
def B4{k k':IntKind}{p:Int}[hs:ml P t k][hd:ml P t' k'](hx:aw fr x=some (.int k p)):Yd P C fr own G ⟨dst, .convert t t' x,ty',pos,af,gd⟩ (.int k' (k'.wrap p)):=by
 intro a w hf hh;simp only[execOp,bj hf hx];have:(convert t t' (.int k p)).run P w= .ok (.int k' (k'.wrap p)) w:=by
  unfold convert;rw[bc (hs.u w),bc (hd.u w)];rfl
 exact cH this
def Ir{k k':IntKind}{p:Int}[hs:ml P t k][hd:ml P t' k'](hx:aw fr x=some (.int k p))(h:k'.min<=p/\p<=k'.max):Yd P C fr own G ⟨dst, .convert t t' x,ty',pos,af,gd⟩ (.int k' p):=by
 have:=B4 (P:=P) (C:=C) (own:=own) (G:=G) (dst:=dst) (ty':=ty') (pos:=pos) (af:=af) (gd:=gd) (t:=t) (t':=t') hx;rwa [sC h] at this
def Dt{b:Bool}(hx:aw fr x=some (.bool b)):Yd P C fr own G ⟨dst, .unOp .not t x,ty',pos,af,gd⟩ (.bool (!b)):=by
 intro a w hf hh;simp only[execOp,bj hf hx,Op.unary];rfl
def IS{k:IntKind}{p:Int}(hx:aw fr x=some (.int k p)):Yd P C fr own G ⟨dst, .unOp .neg t x,ty',pos,af,gd⟩ (.int k (k.wrap (0-p))):=by
 intro a w hf hh;simp only[execOp,bj hf hx,Op.unary,Op.intArith];rfl
end
def gG{w:World}{b:Nat}{o:Obj}(h:w.heap[b]? =some o):b<w.heap.size:=by
 rcases iS b w.heap.size with h'|h'
 ·exact h'
 ·simp[mY h'] at h
def bm.gnone{C:aD}{own:List ak}{G:Gh}{w:World}(h:bm C own G w){b:Nat}(hb:w.heap.size<=b):G b=none:=by
 cases hG:G b with
 |none=>rfl
 |some cs=>
  obtain⟨ty,fz,hc⟩:=h.sub b cs hG;have:=gG hc;omega
def bm.alloc{C:aD}{own:List ak}{G:Gh}{w:World}(h:bm C own G w)(cs:List Value)(ty:TypeId):
  bm C (⟨w.heap.size,cs,ty,true⟩::own) G (w.alloc (.cells ⟨cs⟩ ty)):=by
 have old: ∀b,b<w.heap.size->(w.alloc (.cells ⟨cs⟩ ty)).heap[b]? =w.heap[b]? :=fun b hb=>RowKit.Below.heap_alloc _ _ _ hb;refine⟨h.os,h.tape,h.output,?_,?_,?_,h.gle,h.gold,?_,?_,h.dr,fun p hp=>⟨(h.ext p hp).1,by rw[old _ (gG (h.ext p hp).2)];exact(h.ext p hp).2⟩⟩
 ·have:=h.size;simp;omega
 ·intro b hb hm;rw[old b (by have:=h.size;omega)];exact h.keep b hb hm
 ·intro b cs' hb
  obtain⟨ty',fz,hc⟩:=h.sub b cs' hb;exact⟨ty',fz,by rw[old b (gG hc)];exact hc⟩
 ·intro o ho
  rcases aV.1 ho with rfl|ho
  ·refine⟨by show(w.heap.push _)[w.heap.size]? =_;simp,h.gnone (aM _),fun _=>h.size,fun e=>by cases e⟩
  ·obtain⟨h1,h2⟩:=h.hown o ho
   exact⟨by rw[old _ (gG h1)];exact h1,h2⟩
 ·refine List.Pairwise.cons ?_ h.nd
  intro o ho;have:=gG (h.hown o ho).1;show w.heap.size≠o.b;omega
def gh(w:World)(b:Nat)(o:Obj):World:={w with heap:=w.heap.setIfInBounds b o}
def Do{l:List ak}:l.Pairwise (fun x y=>x.b≠y.b)↔(l.map (·.b)).Pairwise (· ≠ ·):=by rw[rW]
def fD.spec{own own':List ak}{b:Nat}{cs cs':List Value}{ty:TypeId}{lo:Bool}(h:fD own b cs ty lo cs' own')(nd:own.Pairwise (fun x y=>x.b≠y.b)):
  ⟨b,cs,ty,lo⟩∈own/\(∀o,o∈own'->o=⟨b,cs',ty,lo⟩\/(o∈own/\o.b≠b))/\own'.map (·.b)=own.map (·.b):=by
 induction h with
 |hd b cs cs' ty lo t=>
  refine⟨aQ,fun o ho=>?_,J⟩;rcases aV.1 ho with rfl|h
  ·exact .inl J
  ·exact .inr ⟨aZ _ h,Ne.symm ((bJ.1 nd).1 _ h)⟩
 |tl o t t' b cs cs' ty lo h ih=>
  obtain⟨h1,h2,h3⟩:=ih (bJ.1 nd).2;refine⟨aZ _ h1,fun x hx=>?_,by simp[h3]⟩;rcases aV.1 hx with rfl|hx
  ·exact .inr ⟨aQ,(bJ.1 nd).1 _ h1⟩
  ·exact(h2 x hx).imp id (fun k=>⟨aZ _ k.1,k.2⟩)
def Bv{w:World}{b k:Nat}{o:Obj}(hk:k≠b):(gh w b o).heap[k]? =w.heap[k]? :=by
 simp only[gh];rw[eJ];simp[Ne.symm hk]
def KM{w:World}{b:Nat}{o:Obj}(hb:b<w.heap.size):(gh w b o).heap[b]? =some o:=by
 simp only[gh];rw[eJ];simp[hb]
def bm.extNe{C:aD}{own:List ak}{G:Gh}{w:World}(h:bm C own G w){p:Nat×Obj}(hp:p∈C.ex){b:Nat}{cs:Array Value}{ty:TypeId}{z:Nat×Nat}(hb:w.heap[b]? =some (.cells cs ty z)):p.1≠b:=fun e=>by
 obtain⟨h1,h2⟩:=h.ext p hp;rw[e,hb] at h2;exact h1 _ _ _ (Option.some.inj h2).symm
def bm.extM{C:aD}{M rest:List ak}{G:Gh}{w:World}(h:bm C (M++rest) G w){p:Nat×Obj}(hp:p∈C.ex):p.1∉M.map (·.b):=fun hm=>by
 obtain⟨m,hm,e⟩:=bV.1 hm;exact h.extNe hp (h.hown m (cJ _ hm)).1 e.symm
def bm.store{C:aD}{own own':List ak}{G:Gh}{w:World}{b:Nat}{cs cs':List Value}{ty:TypeId}{lo:Bool}(h:bm C own G w)(hu:fD own b cs ty lo cs' own'):
  bm C own' G (gh w b (.cells ⟨cs'⟩ ty (0,0))):=by
 obtain⟨h1,h2,h3⟩:=hu.spec h.nd;obtain⟨hb,hGb,hlo1,hlo2⟩:=h.hown _ h1;have hlt:=gG hb;refine⟨h.os,h.tape,h.output,by simpa[gh] using h.size,?_,?_,h.gle,h.gold,?_,Do.2 (h3▸Do.1 h.nd),h.dr,fun p hp=>⟨(h.ext p hp).1,by rw[Bv (h.extNe hp hb)];exact(h.ext p hp).2⟩⟩
 ·intro k hk hm
  by_cases hkb:k=b
  ·subst hkb
   cases hlo:lo with
   |true=>have h5:=hlo1 hlo;simp only[] at h5;omega
   |false=>exact absurd (hlo2 hlo) hm
  ·rw[Bv hkb];exact h.keep k hk hm
 ·intro k cs1 hk
  obtain⟨ty',fz,hc⟩:=h.sub k cs1 hk;have:k≠b:=fun e=>by subst e;rw[show G k=none from hGb] at hk;cases hk
  exact⟨ty',fz,by rw[Bv this];exact hc⟩
 ·intro o ho
  rcases h2 o ho with rfl|⟨ho',hne⟩
  ·exact⟨KM hlt,hGb,hlo1,hlo2⟩
  ·obtain⟨k1,k2⟩:=h.hown o ho'
   exact⟨by rw[Bv hne];exact k1,k2⟩
def jn.spec{own own':List ak}{o:ak}(h:jn own o own')(nd:own.Pairwise (fun x y=>x.b≠y.b)):
  o∈own/\(∀x,x∈own'->x∈own/\x.b≠o.b)/\own'.Pairwise (fun x y=>x.b≠y.b):=by
 induction h with
 |hd o t=>exact⟨aQ,fun x hx=>⟨aZ _ hx,Ne.symm ((bJ.1 nd).1 _ hx)⟩,(bJ.1 nd).2⟩
 |tl y t t' o h ih=>
  obtain⟨h1,h2,h3⟩:=ih (bJ.1 nd).2;refine⟨aZ _ h1,fun x hx=>?_,List.Pairwise.cons (fun x hx=>(bJ.1 nd).1 _ (h2 x hx).1) h3⟩;rcases aV.1 hx with rfl|hx
  ·exact⟨aQ,(bJ.1 nd).1 _ h1⟩
  ·exact⟨aZ _ (h2 x hx).1,(h2 x hx).2⟩
def bm.freeze{C:aD}{own own':List ak}{G:Gh}{w:World}{b:Nat}{cs:List Value}{ty:TypeId}(h:bm C own G w)(hr:jn own ⟨b,cs,ty,true⟩ own'):
  bm C own' (fun k=>if k=b then some cs else G k) w/\bw G (fun k=>if k=b then some cs else G k):=by
 obtain⟨h1,h2,h3⟩:=hr.spec h.nd;obtain⟨hb,hGb,hlo,_⟩:=h.hown _ h1;have hle:bw G (fun k=>if k=b then some cs else G k):=fun k c hk=>by
  have:k≠b:=fun e=>by subst e;rw[show G k=none from hGb] at hk;cases hk
  simp[this,hk]
 refine⟨⟨h.os,h.tape,h.output,h.size,h.keep,?_,h.gle.trans hle,?_,?_,h3,h.dr,h.ext⟩,hle⟩
 ·intro k c hk
  by_cases e:k=b
  ·subst e;simp only[if_true] at hk;cases hk;exact⟨ty,(0,0),hb⟩
  ·simp only[e,if_false] at hk;exact h.sub k c hk
 ·intro k hk
  have h5:C.w0.heap.size<=b:=hlo J;have:k≠b:=by omega
  simp only[this,if_false];exact h.gold k hk
 ·intro o ho
  obtain⟨k1,k2⟩:=h2 o ho;obtain⟨m1,m2,m3⟩:=h.hown o k1;exact⟨m1,by rw[if_neg k2];exact m2,m3⟩
def bm.drop{C:aD}{own own':List ak}{G:Gh}{w:World}(h:bm C own G w)(hs:own'.Sublist own):bm C own' G w:=
 ⟨h.os,h.tape,h.output,h.size,h.keep,h.sub,h.gle,h.gold,fun o ho=>h.hown o (hs.subset ho),h.nd.sublist hs,h.dr,h.ext⟩
def bm.perm{C:aD}{own own':List ak}{G:Gh}{w:World}(h:bm C own G w)(hs:own.Perm own'):bm C own' G w:=
 ⟨h.os,h.tape,h.output,h.size,h.keep,h.sub,h.gle,h.gold,fun o ho=>h.hown o (hs.mem_iff.2 ho),(hs.pairwise_iff (fun h=>Ne.symm h)).1 h.nd,h.dr,h.ext⟩
def bm.drew{C:aD}{own:List ak}{G:Gh}{w:World}(h:bm C own G w):bm C own G {w with drawn:=w.drawn+1}:=
 ⟨h.os,h.tape,h.output,h.size,h.keep,h.sub,h.gle,h.gold,h.hown,h.nd,Nat.le_succ_of_le h.dr,h.ext⟩
def pn(P:Program)(f:FuncId):Prop:= ∃fn,P.funcs[f]? =some fn/\(fn.name== "runtime.NumGoroutine")=false/\fn.body.isNone=false
def kw(M:List ak)(css:List (List Value)):List ak:=(M.zip css).map fun p=>{p.1 with cs:=p.2}
def asB(M:List ak):List ak:=M.map fun o=>{o with lo:=false}
structure Fn (P:Program) (f:FuncId) (vs:List Value) (G:Gh) (K:Value->Gh->Prop):Prop where
 able:pn P f
 run: ∀w,(∀b cs,G b=some cs-> ∃ty fz,w.heap[b]? =some (.cells ⟨cs⟩ ty fz))->
  Calls P f ⟨vs⟩ w fun e w'=> ∃v G',e= .returned v/\bm ⟨w,G,[],[],[],none,fun _=>none⟩ [] G' w'/\K v G'
structure jB (P:Program) (f:FuncId) (vs:List Value) (M:List ak) (G:Gh) (K:Value->List (List Value)->Gh->Prop):Prop where
 able:pn P f
 run: ∀w,bm ⟨w,G,M.map (·.b),[],[],none,fun _=>none⟩ (asB M) G w->
  Calls P f ⟨vs⟩ w fun e w'=> ∃v css G',e= .returned v/\css.length=M.length/\bm ⟨w,G,M.map (·.b),[],[],none,fun _=>none⟩ (kw (asB M) css) G' w'/\K v css G'
def Fn.mono{P:Program}{f:FuncId}{vs:List Value}{G:Gh}{K K':Value->Gh->Prop}(h:Fn P f vs G K)(hk: ∀v G',bw G G'->K v G'->K' v G'):Fn P f vs G K':=
 ⟨h.able,fun w hw=>(h.run w hw).mono fun _ _ ⟨v,G',he,hh,hK⟩=>⟨v,G',he,hh,hk v G' hh.gle hK⟩⟩
def bm.called{C:aD}{own:List ak}{G G':Gh}{w w':World}(h:bm C own G w)(k:bm ⟨w,G,[],[],[],none,fun _=>none⟩ [] G' w'):bm C own G' w':=by
 have same: ∀b o,w.heap[b]? =some o->w'.heap[b]? =some o:=fun b o hb=>by rw[k.keep b (gG hb) (by simp)];exact hb
 have hsz:w.heap.size<=w'.heap.size:=k.size;refine⟨k.os.trans h.os,k.tape.trans h.tape,k.output.trans h.output,dR h.size hsz,?_,k.sub,h.gle.trans k.gle,?_,?_,h.nd,dR h.dr k.dr,fun p hp=>⟨(h.ext p hp).1,same _ _ (h.ext p hp).2⟩⟩
 ·intro b hb hm;have:=h.size;rw[k.keep b (by show b<w.heap.size;omega) (by simp)];exact h.keep b hb hm
 ·intro b hb;have:=h.size;rw[k.gold b (by show b<w.heap.size;omega)];exact h.gold b hb
 ·intro o ho
  obtain⟨h1,h2,h3⟩:=h.hown o ho;exact⟨same _ _ h1,by rw[k.gold _ (gG h1)];exact h2,h3⟩
def U3(M:List ak)(css:List (List Value))(h:css.length=M.length):(kw M css).map (·.b)=M.map (·.b):=by
 induction M generalizing css with
 |nil=>simp[kw]
 |cons o M ih=>
  cases css with
  |nil=>simp at h
  |cons c css=>simp only[bX,Nat.add_right_cancel_iff] at h;simpa[kw] using ih css h
def Wp{M:List ak}{css:List (List Value)}{o:ak}(ho:o∈kw M css): ∃c∈css,∃m∈M,o={m with cs:=c}/\{m with cs:=c,lo:=false}∈kw (asB M) css:=by
 induction M generalizing css with
 |nil=>simp[kw] at ho
 |cons x M ih=>
  cases css with
  |nil=>simp[kw] at ho
  |cons c css=>
   simp only[kw,List.zip_cons_cons,bW,aV] at ho;rcases ho with rfl|ho
   ·exact⟨c,aQ,x,aQ,J,by simp[kw,asB]⟩
   ·obtain⟨c',hc',m,hm,e,hh⟩:=ih ho
    refine⟨c',aZ _ hc',m,aZ _ hm,e,?_⟩;simp only[kw,asB,bW,List.zip_cons_cons,aV];exact .inr hh
def bm.lend{C:aD}{M rest:List ak}{G:Gh}{w:World}(h:bm C (M++rest) G w):bm ⟨w,G,M.map (·.b),[],[],none,fun _=>none⟩ (asB M) G w:=by
 refine⟨J,J,J,aM _,fun _ _ _=>J,h.sub,bw.refl _,fun _ _=>J,?_,?_,aM _,fun p hp=>by cases hp⟩
 ·intro o ho
  obtain⟨m,hm,rfl⟩:=bV.1 ho;obtain⟨h1,h2,_⟩:=h.hown m (cJ _ hm);exact⟨h1,h2,by simp,fun _=>bV.2 ⟨m,hm,J⟩⟩
 ·have:=(jW.1 h.nd).1
  unfold asB;rw[rW];exact this
def bm.calledM{C:aD}{M rest:List ak}{G G':Gh}{w w':World}{css:List (List Value)}(h:bm C (M++rest) G w)(hl:css.length=M.length)(k:bm ⟨w,G,M.map (·.b),[],[],none,fun _=>none⟩ (kw (asB M) css) G' w'):
  bm C (kw M css++rest) G' w':=by
 have hsz:w.heap.size<=w'.heap.size:=k.size;have hnd:=h.nd;have inM: ∀b,b∈M.map (·.b)-> ∀o∈rest,o.b≠b:=fun b hb o ho e=>by
  obtain⟨m,hm,rfl⟩:=bV.1 hb;exact(jW.1 hnd).2.2 m hm o ho e.symm
 refine⟨k.os.trans h.os,k.tape.trans h.tape,k.output.trans h.output,dR h.size hsz,?_,k.sub,h.gle.trans k.gle,?_,?_,?_,dR h.dr k.dr,fun p hp=>⟨(h.ext p hp).1,by rw[k.keep _ (gG (h.ext p hp).2) (h.extM hp)];exact(h.ext p hp).2⟩⟩
 ·intro b hb hm
  have hs:=h.size;have hnM:b∉M.map (·.b):=fun hb'=>by
   obtain⟨m,hmM,rfl⟩:=bV.1 hb';obtain⟨_,_,h3,h4⟩:=h.hown m (cJ _ hmM)
   cases hlo:m.lo with
   |true=>have:=h3 hlo;omega
   |false=>exact hm (h4 hlo)
  rw[k.keep b (by show b<w.heap.size;omega) hnM];exact h.keep b hb hm
 ·intro b hb;have:=h.size;rw[k.gold b (by show b<w.heap.size;omega)];exact h.gold b hb
 ·intro o ho
  rcases bS.1 ho with ho|ho
  ·obtain⟨c,hc,m,hm,rfl,hmem⟩:=Wp ho
   obtain⟨k1,k2,_⟩:=k.hown _ hmem;obtain⟨_,_,h3⟩:=h.hown m (cJ _ hm);exact⟨k1,k2,h3⟩
  ·obtain⟨h1,h2,h3⟩:=h.hown o (cV _ ho)
   have hnM:o.b∉M.map (·.b):=fun hb=>inM _ hb o ho J;exact⟨by rw[k.keep _ (gG h1) hnM];exact h1,by rw[k.gold _ (gG h1)];exact h2,h3⟩
 ·rw[Do,cR,U3 _ _ hl,<-cR,<-Do];exact hnd
def MT{α:Type}{a b:α}{l:List α}{n:Nat}:(a::l).set (n+1) b=a::l.set n b:=rfl
def wP{α:Type}{a:α}{l:List α}{n:Nat}:(a::l).drop (n+1)=l.drop n:=rfl
abbrev ii:= @inferInstance.{0}
def nb{a b:Nat}(h:Nat.ble a b=true):a<=b:=Nat.le_of_ble_eq_true h
def sR{P:Program}{C:aD}{n:Nat}{fr:Fr}{own:List ak}{G:Gh}{Q:Exit->Act->World->Prop}{id:Nat}{ops:Array Oper}{y:Code}(h:St C n fr own G (dE P ops (Exit.then (y.wp P Q) Q) ops.toList)):St C n fr own G ((Code.seq (Code.region id ops false) y).wp P Q):=bt (d7 h)
end Go.Sx
end
section
namespace Go.Sx
open Go
def aE:Value->List Value
 | .agg ⟨l⟩=>l
 |v=>[v]
def oe(v:Value):v.cells=⟨aE v⟩:=by
 cases v<;>first|rfl|(rename_i a;cases a;rfl)
def flat:Value->Bool
 | .agg _=>false
 | .tuple _=>false
 |_=>true
def fP(fr:Fr):List Operand->Option (List Value)
 |[]=>some []
 |x::t=>match aw fr x,fP fr t with
  |some v,some l=>some (v::l)
  |_,_=>none
def Ai{fr:Fr}{a:Act}(h:ll fr a): ∀{l:List Operand} {vs:List Value},fP fr l=some vs->l.map a.eval=vs
 |[],vs,e=>by simp[fP] at e;subst e;rfl
 |x::t,vs,e=>by
  simp only[fP] at e;split at e
  ·rename_i v l hv hl
   cases e
   simp[bj h hv,Ai h hl]
  ·cases e
section
variable {P:Program} {C:aD} {n:Nat} {fr:Fr} {own own':List ak} {G:Gh} {ops:Array Oper} {Q:Exit->Act->World->Prop} {r:List Oper}
variable {dst:Option Nat} {t t' ty':TypeId} {pos:String} {af:Array Edge} {x y:Operand}
def Ch(P:Program)(C:aD)(n:Nat)(fr:Fr)(own:List ak)(G:Gh)(o:Oper)(Φ:Act->World->Prop):Prop:=
 ∀(a:Act) (w:World) (Q:Exit->Act->World->Prop),gg C n fr own G a w->o.wp P a w Φ Q
def aGd{o:Oper}(hg:o.guard=none)(hc:Ch P C n fr own G o (dE P ops Q r)):St C n fr own G (dE P ops Q (o::r)):=by
 intro a w rl;simp only[dE,Region.wanted,hg,if_true];exact hc a w _ rl
variable {Φ:Act->World->Prop} {gd:Option (Nat×Bool)}
def O'{w:World}{ty:TypeId}{v:Value}:(newVar ty v).run P w= .ok ⟨w.heap.size,0,none⟩ (w.alloc (.cells ⟨aE v⟩ ty)):=by
 unfold newVar newRow;rw[oe];rfl
def jF{o:Oper}{v:Value}{w':World}{a:Act}{w:World}{Φ:Act->World->Prop}{Q:Exit->Act->World->Prop}(h:(execOp a.eval o).run P w= .ok (.value v) w')(hk:Φ (a.put o.dst v) w'):o.wp P a w Φ Q:=by
 simp only[Oper.wp,h,Oper.upon];exact hk
def uG{z:Value}[hz:gj P t z](hd:b9 n dst=true)(h: ∀b,St C n (put fr dst (.pointer (some ⟨b,0,none⟩))) (⟨b,aE z,t,true⟩::own) G Φ):
  Ch P C n fr own G ⟨dst, .alloc t,ty',pos,af,gd⟩ Φ:=by
 intro a w Q rl;have h1:(Instr.alloc t true (.tuple #[])).run P w= .ok (.pointer (some ⟨w.heap.size,0,none⟩)) (w.alloc (.cells ⟨aE z⟩ t)):=by
  unfold Instr.alloc;rw[bc (hz.zero w)];show(newVar t z>>=_).run P w=_;rw[bc O'];rfl
 refine jF (cH h1) (h w.heap.size _ _ ?_);exact(rl.heap (rl.h.alloc _ _)).put _ hd
def Hz{v:Value}(hx:aw fr x=some v)(hd:b9 n dst=true)(h: ∀b,St C n (put fr dst (.pointer (some ⟨b,0,none⟩))) (⟨b,aE v,t,true⟩::own) G Φ):
  Ch P C n fr own G ⟨dst, .box t x,ty',pos,af,gd⟩ Φ:=by
 intro a w Q rl;have h1:(Instr.box t (a.eval x)).run P w= .ok (.pointer (some ⟨w.heap.size,0,none⟩)) (w.alloc (.cells ⟨aE v⟩ t)):=by
  unfold Instr.box;rw[bj rl.fr hx,bc O'];rfl
 refine jF (cH h1) (h w.heap.size _ _ ?_);exact(rl.heap (rl.h.alloc _ _)).put _ hd
def aj8{w:World}{b off:Nat}{cs:List Value}{ty:TypeId}{fz:Nat×Nat}{v:Value}(h:w.heap[b]? =some (.cells ⟨cs⟩ ty fz)):w.setCell ⟨b,off,none⟩ v=gh w b (.cells ⟨cs.set off v⟩ ty fz):=by
 unfold World.setCell gh;congr 1;apply Array.ext_getElem?;intro i;rw[Array.getElem?_modify,eJ];by_cases hi:b=i
 ·subst hi
  have:=gG h;simp only[if_true,h,jT,this];simp
 ·simp[hi]
def Zs{w:World}{b off:Nat}{cs:List Value}{ty:TypeId}{v:Value}(hv:flat v=true)(h:w.heap[b]? =some (.cells ⟨cs⟩ ty (0,0)))(ho:off<cs.length):
  (store ⟨b,off,none⟩ v).run P w= .ok () (gh w b (.cells ⟨cs.set off v⟩ ty (0,0))):=by
 have hc:w.cell? ⟨b,off,none⟩=some cs[off]:=by rw[zi h,aX ho]
 have hf:w.frozen? ⟨b,off,none⟩=false:=by simp[World.frozen?,h]
 cases v<;>first|(simp[flat] at hv;done)|(simp only[store,Sem.run,hc,hf,aj8 h];rfl)
def SB(w:World)(b:Nat)(o o':Obj):gh (gh w b o) b o'=gh w b o':=by
 simp[gh]
def VO{w:World}{b:Nat}{o:Obj}(h:w.heap[b]? =some o):gh w b o=w:=by
 unfold gh;congr 1;apply Array.ext_getElem?;intro i;rw[eJ];by_cases hi:b=i
 ·subst hi
  have hlt:=gG h;simp only[if_true,hlt];rw[h]
 ·simp[hi]
def yu{b:Nat}{ty:TypeId}: ∀(vs:List Value) (w:World) (off i:Nat) (cs:List Value),(∀v∈vs,flat v=true)->w.heap[b]? =some (.cells ⟨cs⟩ ty (0,0))->off+i+vs.length<=cs.length->
  (storeCells ⟨b,off,none⟩ vs i).run P w= .ok () (gh w b (.cells ⟨cp cs (off+i) vs⟩ ty (0,0)))
 |[],w,off,i,cs,_,h,_=>by
  unfold storeCells cp;rw[VO h];rfl
 |v::vs,w,off,i,cs,hf,h,hl=>by
  unfold storeCells;simp only[bX] at hl;rw[o8,bc (Zs (hf v aQ) h (by omega))];rw[yu vs _ off (i+1) (cs.set (off+i) v) (fun u hu=>hf u (aZ _ hu)) (KM (gG h)) (by simp;omega)];rw[SB];rfl
def B7{v:Value}{b off k:Nat}{cs:List Value}{ty:TypeId}{lo:Bool}(hx:aw fr x=some (.pointer (some ⟨b,off,none⟩)))(hy:aw fr y=some v)[hs:lj P t k]
  (hu:fD own b cs ty lo (cp cs off (aE v)) own')(hk:(aE v).length=k)(hl:off+k<=cs.length)(hf:(aE v).all flat=true)(hd:b9 n dst=true)(h:St C n (put fr dst undef) own' G Φ):
  Ch P C n fr own G ⟨dst, .store t x y,ty',pos,af,gd⟩ Φ:=by
 intro a w Q rl;have hb:=(rl.h.hown _ (hu.spec rl.h.nd).1).1;have h1:(Instr.storeAt t (a.eval x) (a.eval y)).run P w= .ok () (gh w b (.cells ⟨cp cs off (aE v)⟩ ty (0,0))):=by
  rw[bj rl.fr hx,bj rl.fr hy];simp only[Instr.storeAt,Instr.sureAddr];show(storeVar t ⟨b,off,none⟩ v).run P w=_;unfold storeVar;rw[bc (hs.siz w),oe];simp only[nR,hk,ne_eq,not_true_eq_false,if_false];have:=yu (P:=P) (aE v) w off 0 cs (by simpa using hf) hb (by omega);simpa using this
 have h2:(execOp a.eval ⟨dst, .store t x y,ty',pos,af,gd⟩).run P w= .ok .skip (gh w b (.cells ⟨cp cs off (aE v)⟩ ty (0,0))):=by
  simp only[execOp];rw[bc h1];rfl
 simp only[Oper.wp,h2,Oper.upon];exact h _ _ ((rl.heap (rl.h.store hu)).put _ hd)
def tn{v:Value}{b off:Nat}{cs:List Value}{ty:TypeId}{lo:Bool}(hx:aw fr x=some (.pointer (some ⟨b,off,none⟩)))(hy:aw fr y=some v)[hs:ik P t]
  (hu:fD own b cs ty lo (cs.set off v) own')(hl:off<cs.length)(hf:flat v=true)(hd:b9 n dst=true)(h:St C n (put fr dst undef) own' G Φ):
  Ch P C n fr own G ⟨dst, .store t x y,ty',pos,af,gd⟩ Φ:=by
 intro a w Q rl;have hb:=(rl.h.hown _ (hu.spec rl.h.nd).1).1;have hc:v.cells= #[v]:=by cases v<;>first|rfl|(simp[flat] at hf)
 have h1:(Instr.storeAt t (a.eval x) (a.eval y)).run P w= .ok () (gh w b (.cells ⟨cs.set off v⟩ ty (0,0))):=by
  rw[bj rl.fr hx,bj rl.fr hy];simp only[Instr.storeAt,Instr.sureAddr];show(storeVar t ⟨b,off,none⟩ v).run P w=_;unfold storeVar;rw[bc (hs.siz w),hc];simp only[nR,bX,iK,ne_eq,not_true_eq_false,if_false,dS];have:=yu (P:=P) [v] w off 0 cs (by simpa using hf) hb (by simp;omega);simpa[cp] using this
 have h2:(execOp a.eval ⟨dst, .store t x y,ty',pos,af,gd⟩).run P w= .ok .skip (gh w b (.cells ⟨cs.set off v⟩ ty (0,0))):=by
  simp only[execOp];rw[bc h1];rfl
 simp only[Oper.wp,h2,Oper.upon];exact h _ _ ((rl.heap (rl.h.store hu)).put _ hd)
def Ar{f:FuncId}(h:pn P f)(args:Array Value)(w:World):(callFunc f args).run P w= .ok (.enter f args) w:=by
 obtain⟨fn,h1,h2,h3⟩:=h;unfold callFunc;show(program>>=_).run P w=_;rw[bc (a:=P) (w':=w) J];simp only[h1,h2,h3];rfl
def DB{f:FuncId}{fo:Operand}{args:Array Operand}{tys:Array TypeId}{vs c1 c2:List Value}{a:Act}{w:World}(h:pn P f)(hf:ll fr a)(ho:aw fr fo=some (.func (.func f) ⟨c1⟩ ⟨c2⟩))(hv:fP fr args.toList=some vs):
  (execOp a.eval ⟨dst, .call ⟨.value fo,args,tys⟩,ty',pos,af,gd⟩).run P w= .ok (.enter f ⟨c1++vs++c2⟩) w:=by
 have e:args.map a.eval=⟨vs⟩:=by apply Array.ext';simpa using Ai hf hv
 simp only[execOp,resolve,bj hf ho,e,Deferred.ofValue];show(invoke (.fn (.func f) ⟨c2⟩) (⟨c1⟩++⟨vs⟩)).run P w=_;simp only[invoke];rw[Ar h];simp
def JA{f:FuncId}{fo:Operand}{args:Array Operand}{tys:Array TypeId}{vs c1 c2:List Value}{K:Value->Gh->Prop}(ho:aw fr fo=some (.func (.func f) ⟨c1⟩ ⟨c2⟩))(hv:fP fr args.toList=some vs)
  (hF:Fn P f (c1++vs++c2) G K)(hd:b9 n dst=true)(h: ∀v (G':Gh),[GE G G']->K v G'->St C n (put fr dst v) own G' Φ):
  Ch P C n fr own G ⟨dst, .call ⟨.value fo,args,tys⟩,ty',pos,af,gd⟩ Φ:=by
 intro a w Q rl;have h2:=DB (P:=P) (dst:=dst) (ty':=ty') (pos:=pos) (af:=af) (gd:=gd) (tys:=tys) (w:=w) hF.able rl.fr ho hv;simp only[Oper.wp,h2,Oper.upon];refine(hF.run w rl.h.sub).mono ?_;rintro e w' ⟨v,G',rfl,hh,hK⟩;exact @h v G' ⟨hh.gle⟩ hK _ _ ((rl.heap (rl.h.called hh)).put _ hd)
def zC{f:FuncId}{fo:Operand}{args:Array Operand}{tys:Array TypeId}{vs:List Value}{K:Value->Gh->Prop}(ho:aw fr fo=some (.func (.func f) #[] #[]))(hv:fP fr args.toList=some vs)
  (hF:Fn P f vs G K)(hd:b9 n dst=true)(h: ∀v (G':Gh),[GE G G']->K v G'->St C n (put fr dst v) own G' Φ):
  Ch P C n fr own G ⟨dst, .call ⟨.value fo,args,tys⟩,ty',pos,af,gd⟩ Φ:=
 JA (c1:=[]) (c2:=[]) ho hv (by simpa using hF) hd h
def asm{f:FuncId}{fo:Operand}{args:Array Operand}{tys:Array TypeId}{vs c1 c2:List Value}{M rest:List ak}{K:Value->List (List Value)->Gh->Prop}(ho:aw fr fo=some (.func (.func f) ⟨c1⟩ ⟨c2⟩))(hv:fP fr args.toList=some vs)
  (hp:own.Perm (M++rest))(hF:jB P f (c1++vs++c2) M G K)(hd:b9 n dst=true)(h: ∀v css (G':Gh),[GE G G']->css.length=M.length->K v css G'->St C n (put fr dst v) (kw M css++rest) G' Φ):
  Ch P C n fr own G ⟨dst, .call ⟨.value fo,args,tys⟩,ty',pos,af,gd⟩ Φ:=by
 intro a w Q rl;have h2:=DB (P:=P) (dst:=dst) (ty':=ty') (pos:=pos) (af:=af) (gd:=gd) (tys:=tys) (w:=w) hF.able rl.fr ho hv;simp only[Oper.wp,h2,Oper.upon];have hh0:=rl.h.perm hp;refine(hF.run w hh0.lend).mono ?_;rintro e w' ⟨v,css,G',rfl,hl,hh,hK⟩;exact @h v css G' ⟨hh.gle⟩ hl hK _ _ ((rl.heap (hh0.calledM hl hh)).put _ hd)
def Cz{f:FuncId}{fo:Operand}{args:Array Operand}{tys:Array TypeId}{vs:List Value}{M rest:List ak}{K:Value->List (List Value)->Gh->Prop}(ho:aw fr fo=some (.func (.func f) #[] #[]))(hv:fP fr args.toList=some vs)
  (hp:own.Perm (M++rest))(hF:jB P f vs M G K)(hd:b9 n dst=true)(h: ∀v css (G':Gh),[GE G G']->css.length=M.length->K v css G'->St C n (put fr dst v) (kw M css++rest) G' Φ):
  Ch P C n fr own G ⟨dst, .call ⟨.value fo,args,tys⟩,ty',pos,af,gd⟩ Φ:=
 asm (c1:=[]) (c2:=[]) ho hv hp (by simpa using hF) hd h
end
section
variable {P:Program} {C:aD} {n:Nat} {fr:Fr} {own own':List ak} {G:Gh}
inductive kr (P:Program) (fr:Fr) (own:List ak):List ResultVar->List Value->Prop
 |nil:kr P fr own [] []
 |tmp {t:Nat} {v:Value} {rs:List ResultVar} {vs:List Value} (h:il fr t=some v) (k:kr P fr own rs vs):kr P fr own (.tmp t::rs) (v::vs)
 |agg {a b k:Nat} {t ty:TypeId} {cs l:List Value} {lo:Bool} {rs:List ResultVar} {vs:List Value} (h:il fr a=some (.pointer (some ⟨b,0,none⟩))) (ho:ig own b cs ty lo) (ht:lj P t k) (hl:cF cs 0 k=some l) (h2:kr P fr own rs vs):
   kr P fr own (.cell a t::rs) (.agg ⟨l⟩::vs)
 |sc {a b:Nat} {t ty:TypeId} {cs:List Value} {v:Value} {lo:Bool} {rs:List ResultVar} {vs:List Value} (h:il fr a=some (.pointer (some ⟨b,0,none⟩))) (ho:ig own b cs ty lo) (ht:ik P t) (hl:cs[0]? =some v) (h2:kr P fr own rs vs):
   kr P fr own (.cell a t::rs) (v::vs)
def xq(a:Act):ResultVar->Sem Value
 | .tmp t=>pure (a.tmps.getD t undef)
 | .cell x t=>do loadVar t (<-asAddr (a.tmps.getD x undef))
def kr.run{rs:List ResultVar}{vs:List Value}(h:kr P fr own rs vs){a:Act}{w:World}(hf:ll fr a)(hh:bm C own G w):
  (rs.mapM (xq a)).run P w= .ok vs w:=by
 induction h with
 |nil=>rfl
 | @tmp t v rs vs h k ih=>
  rw[oK];have e:=hf _ _ h;have e2:a.tmps.getD t undef=v:=by rw[bL,e];rfl
  rw[bc (a:=v) (w':=w) (by simp only[xq,e2];exact run_pure _ _ _),bc ih];rfl
 | @agg x b k t ty cs l lo rs vs h ho ht hl h2 ih=>
  rw[oK];have e:=hf _ _ h;have e2:a.tmps.getD x undef= .pointer (some ⟨b,0,none⟩):=by rw[bL,e];rfl
  rw[bc (a:= .agg ⟨l⟩) (w':=w) (by simp only[xq,e2,asAddr];rw[bc (run_pure _ _ _)];exact Ex (hh.hown _ ho.mem).1 hl),bc ih];rfl
 | @sc x b t ty cs v lo rs vs h ho ht hl h2 ih=>
  rw[oK];have e:=hf _ _ h;have e2:a.tmps.getD x undef= .pointer (some ⟨b,0,none⟩):=by rw[bL,e];rfl
  rw[bc (a:=v) (w':=w) (by simp only[xq,e2,asAddr];rw[bc (run_pure _ _ _)];exact Ef (hh.hown _ ho.mem).1 hl),bc ih];rfl
def gm:List Value->Value
 |[v]=>v
 |vs=> .tuple ⟨vs⟩
def tr{fn:Func}{vs:List Value}{a:Act}{w:World}(hr:kr P fr own fn.results.toList vs)(hf:ll fr a)(hh:bm C own G w):(results fn a.tmps).run P w= .ok (gm vs) w:=by
 have h0:=kr.run (C:=C) (G:=G) hr hf hh;have h1:(fn.results.mapM (xq a)).run P w= .ok (⟨vs⟩:Array Value) w:=by
  rw[<-Array.toArray_toList (xs:=fn.results),List.mapM_toArray,map_eq_pure_bind,bc h0];rfl
 have h2:results fn a.tmps=(do
   let vs<-fn.results.mapM (xq a)
   pure (if h:vs.size=1 then vs[0] else .tuple vs)):=by
  unfold results;congr 1
 rw[h2,bc h1]
 match vs with
 |[]=>rfl
 |[v]=>rfl
 |_::_::_=>rfl
def iB(C:aD)(K:Value->Gh->Prop):Ending->World->Prop:=fun e w'=> ∃v G',e= .returned v/\bm C [] G' w'/\K v G'
def xb(C:aD)(M:List ak)(K:Value->List (List Value)->Gh->Prop):Ending->World->Prop:=fun e w'=> ∃v css G',e= .returned v/\css.length=M.length/\bm C (kw (asB M) css) G' w'/\K v css G'
def fH(C:aD)(P:Program)(fn:Func)(R:Ending->World->Prop):Exit->Act->World->Prop:=fun e a w=>C.mks=[]->bodyPost P fn R e a w
def zD{fn:Func}{K:Value->Gh->Prop}{vs:List Value}(hr:kr P fr own fn.results.toList vs)(hk:K (gm vs) G):St C n fr own G (fH C P fn (iB C K) .ret):=
 fun a w rl hmk=>⟨rl.df.trans hmk,_,tr hr rl.fr rl.h,_,G,J,rl.h.drop (kQ _),hk⟩
def Gi{fn:Func}{K:Value->Gh->Prop}{vs:List Value}(hr:kr P fr own fn.results.toList vs)(hk:K (gm vs) G):St C n fr own G (fH C P fn (iB C K) .normal):=
 fun a w rl hmk=>⟨rl.df.trans hmk,_,tr hr rl.fr rl.h,_,G,J,rl.h.drop (kQ _),hk⟩
def r8{fn:Func}{M:List ak}{css:List (List Value)}{K:Value->List (List Value)->Gh->Prop}{vs:List Value}(hr:kr P fr own fn.results.toList vs)(hl:css.length=M.length)(own2:List ak)(hp:own.Perm own2)(hs:(kw (asB M) css).Sublist own2)(hk:K (gm vs) css G):St C n fr own G (fH C P fn (xb C M K) .ret):=
 fun a w rl hmk=>⟨rl.df.trans hmk,_,tr hr rl.fr rl.h,_,css,G,J,hl,(rl.h.perm hp).drop hs,hk⟩
def mP:Nat->List Value->Fr
 |_,[]=>[]
 |i,v::t=>(i,v)::mP (i+1) t
def uv: ∀(vs:List Value) (i k:Nat) (v:Value),il (mP i vs) k=some v-> ∃j,k=i+j/\vs[j]? =some v
 |[],i,k,v,h=>by cases h
 |u::vs,i,k,v,h=>by
  rw[mP,tW] at h;split at h
  ·subst_vars;cases h;exact⟨0,J,J⟩
  ·obtain⟨j,rfl,hj⟩:=uv vs (i+1) k v h
   exact⟨j+1,by omega,by simpa using hj⟩
def Fn.introR{f:FuncId}{fn:Func}{c:Code}{vs:List Value}{m:Nat}{K:Value->Gh->Prop}(hf:P.funcs[f]? =some fn)(hb:fn.body=some c)(hn:(fn.name== "runtime.NumGoroutine")=false)(hm:fn.ntmps=m)(hlen:Nat.ble vs.length m=true)
  (h: ∀C:aD,C.G0=G->C.mb=[]->C.rd=none->(C.fx=fun _=>none)->St C m (mP 0 vs) [] G (c.wp P (fH C P fn (iB C K)))):Fn P f vs G K:=by
 refine⟨⟨fn,hf,hn,by simp[hb]⟩,fun w hw=>?_⟩;have hlen':vs.length<=m:=by simpa using hlen
 have:=calls_of_wp (P:=P) (f:=f) (args:=⟨vs⟩) (w:=w) (R:=iB ⟨w,G,[],[],[],none,fun _=>none⟩ K) hf hb (wp_mono (h ⟨w,G,[],[],[],none,fun _=>none⟩ J J J J _ w
  ⟨⟨J,J,J,aM _,fun _ _ _=>J,hw,bw.refl _,fun _ _=>J,fun o ho=>(by cases ho), .nil,aM _,fun p hp=>by cases hp⟩,by simp;omega,fun k v hk=>by
   obtain⟨j,rfl,hj⟩:=uv vs 0 k v hk;have hj':=(aU.1 hj).1;rw[jX (by simpa using hj')];simpa using hj,J⟩) fun _ _ _ k=>k J)
 exact this
def Fn.intro{f:FuncId}{fn:Func}{c:Code}{vs:List Value}{m:Nat}{K:Value->Gh->Prop}(hf:P.funcs[f]? =some fn)(hb:fn.body=some c)(hn:(fn.name== "runtime.NumGoroutine")=false)(hm:fn.ntmps=m)(hlen:Nat.ble vs.length m=true)
  (h: ∀C:aD,C.G0=G->C.mb=[]->St C m (mP 0 vs) [] G (c.wp P (fH C P fn (iB C K)))):Fn P f vs G K:=
 Fn.introR hf hb hn hm hlen fun C a b _ _=>h C a b
def jB.introR{f:FuncId}{fn:Func}{c:Code}{vs:List Value}{m:Nat}{M:List ak}{K:Value->List (List Value)->Gh->Prop}(hf:P.funcs[f]? =some fn)(hb:fn.body=some c)(hn:(fn.name== "runtime.NumGoroutine")=false)(hm:fn.ntmps=m)(hlen:Nat.ble vs.length m=true)
  (h: ∀C:aD,C.G0=G->C.mb=M.map (·.b)->C.rd=none->(C.fx=fun _=>none)->St C m (mP 0 vs) (asB M) G (c.wp P (fH C P fn (xb C M K)))):jB P f vs M G K:=by
 refine⟨⟨fn,hf,hn,by simp[hb]⟩,fun w hw=>?_⟩;have hlen':vs.length<=m:=by simpa using hlen
 have:=calls_of_wp (P:=P) (f:=f) (args:=⟨vs⟩) (w:=w) (R:=xb ⟨w,G,M.map (·.b),[],[],none,fun _=>none⟩ M K) hf hb (wp_mono (h ⟨w,G,M.map (·.b),[],[],none,fun _=>none⟩ J J J J _ w
  ⟨hw,by simp;omega,fun k v hk=>by
   obtain⟨j,rfl,hj⟩:=uv vs 0 k v hk;have hj':=(aU.1 hj).1;rw[jX (by simpa using hj')];simpa using hj,J⟩) fun _ _ _ k=>k J)
 exact this
def jB.intro{f:FuncId}{fn:Func}{c:Code}{vs:List Value}{m:Nat}{M:List ak}{K:Value->List (List Value)->Gh->Prop}(hf:P.funcs[f]? =some fn)(hb:fn.body=some c)(hn:(fn.name== "runtime.NumGoroutine")=false)(hm:fn.ntmps=m)(hlen:Nat.ble vs.length m=true)
  (h: ∀C:aD,C.G0=G->C.mb=M.map (·.b)->St C m (mP 0 vs) (asB M) G (c.wp P (fH C P fn (xb C M K)))):jB P f vs M G K:=
 jB.introR hf hb hn hm hlen fun C a b _ _=>h C a b
def p8{Φ:Act->World->Prop}(b:Nat){cs:List Value}{ty:TypeId}(hr:jn own ⟨b,cs,ty,true⟩ own')(h: ∀G':Gh,[GE G G']->[vV G' b cs]->St C n fr own' G' Φ):St C n fr own G Φ:=
 fun a w rl=>by
  obtain⟨h1,h2⟩:=rl.h.freeze hr;exact @h _ ⟨h2⟩ ⟨by simp⟩ a w (rl.heap h1)
def Ky{Φ:Act->World->Prop}(own':List ak)(hs:own'.Sublist own)(h:St C n fr own' G Φ):St C n fr own G Φ:=
 fun a w rl=>h a w (rl.heap (rl.h.drop hs))
def A4{Φ:Act->World->Prop}(own':List ak)(hs:own.Perm own')(h:St C n fr own' G Φ):St C n fr own G Φ:=
 fun a w rl=>h a w (rl.heap (rl.h.perm hs))
def Oz(C:aD)(n:Nat){X:Type}(F:X->Fr)(O:X->List ak)(I:X->Gh->Prop)(μ:X->Nat)(m:Nat)(G:Gh)(a:Act)(w:World):Prop:=
 ∃x G',bw G G'/\I x G'/\μ x<m/\gg C n (F x) (O x) G' a w
def lI{Q:Exit->Act->World->Prop}{c:Code}{X:Type}(F:X->Fr)(O:X->List ak)(I:X->Gh->Prop)(μ:X->Nat)(x0:X)(hI:I x0 G)(hF:uU (F x0) fr)(hO:O x0=own)
  (round: ∀(x:X) (G':Gh),[GE G G']->I x G'->St C n (F x) (O x) G' (c.wp P (Exit.then (Oz C n F O I μ (μ x) G') Q))):St C n fr own G ((Code.loop c).wp P Q):=by
 intro a w rl;subst hO;intro b k cs;have key: ∀m a w,(∃x G',bw G G'/\I x G'/\μ x=m/\gg C n (F x) (O x) G' a w)->
   ∃e a' w',Q e a' w'/\Arrives P (lone (b.at a (.code c:: .inLoop c::k)) cs w) b k cs e a' w':=by
  intro m
  induction m using Nat.strongRecOn with
  |_ m ih=>
   intro a w ⟨x,G',hle,hx,hm,hr⟩;obtain⟨e,a₁,w₁,hq,harr⟩:= @round x G' ⟨hle⟩ hx a w hr b (.inLoop c::k) cs
   cases e with
   |normal=>
    obtain⟨x',G'',hle',hx',hlt,hr'⟩:=hq;obtain⟨e₂,a₂,w₂,hq₂,harr₂⟩:=ih (μ x') (hm▸hlt) a₁ w₁ ⟨x',G'',hle.trans hle',hx',rfl,hr'⟩;exact⟨e₂,a₂,w₂,hq₂, .of_steps (Steps.trans harr (.one step_inLoop)) harr₂⟩
   |exit id=>exact⟨_,a₁,w₁,hq, .pass (x:= .inLoop c) J (fun _ _=> .inl (by simp)) harr⟩
   |goto l=>exact⟨_,a₁,w₁,hq, .pass (x:= .inLoop c) J (fun _ _=> .inl (by simp)) harr⟩
   |ret=>exact⟨_,a₁,w₁,hq, .pass (x:= .inLoop c) J (fun _ _=> .inl (by simp)) harr⟩
   |panic ch=>exact⟨_,a₁,w₁,hq, .pass (x:= .inLoop c) J (fun _ _=> .inl (by simp)) harr⟩
   |outgrown=>exact⟨_,a₁,w₁,hq, .pass (x:= .inLoop c) J (fun _ _=> .inl (by simp)) harr⟩
 obtain⟨e,a',w',q,r⟩:=key (μ x0) a w ⟨x0,G,bw.refl _,hI,rfl,rl.h,rl.sz,fun k v hk=>rl.fr _ _ (hF _ _ hk),rl.df⟩;exact⟨e,a',w',q, .of_steps (.one step_loop) r⟩
def At(C:aD)(n:Nat){X:Type}(F:X->Fr)(O:X->List ak)(I:X->Gh->Prop)(G:Gh)(a:Act)(w:World):Prop:=
 ∃x G',bw G G'/\I x G'/\gg C n (F x) (O x) G' a w
def y4{Q:Exit->Act->World->Prop}{c d:Code}(X:Type)(F:X->Fr)(O:X->List ak)(I:X->Gh->Prop)(h1:St C n fr own G (c.wp P (Exit.then (At C n F O I G) Q)))
  (h2: ∀(x:X) (G':Gh),[GE G G']->I x G'->St C n (F x) (O x) G' (d.wp P Q)):St C n fr own G ((Code.seq c d).wp P Q):=by
 intro a w rl;refine wp_seq (wp_mono (h1 a w rl) ?_);intro e a w h
 cases e with
 |normal=>obtain⟨x,G',hle,hI,hr⟩:=h;exact @h2 x G' ⟨hle⟩ hI a w hr
 |_=>exact h
def pI{X:Type}{F:X->Fr}{O:X->List ak}{I:X->Gh->Prop}{G0:Gh}[hg:GL G0 G](x:X)(hI:I x G)(hF:uU (F x) fr)(hO:O x=own):St C n fr own G (At C n F O I G0):=
 fun a w rl=>⟨x,G,hg.le,hI,⟨hO▸rl.h,rl.sz,fun k v hk=>rl.fr _ _ (hF _ _ hk),rl.df⟩⟩
def jk{X:Type}{F:X->Fr}{O:X->List ak}{I:X->Gh->Prop}{μ:X->Nat}{m:Nat}{G0:Gh}[hg:GL G0 G](x:X)(hI:I x G)(hμ:μ x<m)(hF:uU (F x) fr)(hO:O x=own):St C n fr own G (Oz C n F O I μ m G0):=
 fun a w rl=>⟨x,G,hg.le,hI,hμ,⟨hO▸rl.h,rl.sz,fun k v hk=>rl.fr _ _ (hF _ _ hk),rl.df⟩⟩
end
def fC(Q:Exit->Act->World->Prop):Exit->Act->World->Prop
 | .panic _,_,_=>False
 |e,a,w=>Q e a w
def fC.imp{Q:Exit->Act->World->Prop}: ∀(e:Exit) (a:Act) (w:World),fC Q e a w->Q e a w:=fun e a w h=>by
 cases e<;>first|exact h|exact(h:False).elim
section
variable {P:Program} {ops:Array Oper} {Q:Exit->Act->World->Prop} {S:World->Prop} {fin:Nat->Bool}
def uC(P:Program)(ops:Array Oper)(Q:Exit->Act->World->Prop)(S:World->Prop)(fin:Nat->Bool):Nat->Array Bool->Act->World->Prop
 |0,listed,a,w=>Region.ready .any ops listed=[]/\Q .normal a w
 |fuel+1,listed,a,w=>
  (Region.ready .any ops listed=[]->Q .normal a w)/\
  ∀i∈Region.ready .any ops listed,wpOp P ops Q i (fun a' w'=>(fin i=true\/S w')/\uC P ops Q S fin fuel (listed.setIfInBounds i true) a' w') a w
def Cm: ∀(fuel:Nat) (listed:Array Bool) (a:Act) (w:World),uC P ops Q S fin fuel listed a w->wpAny P .any ops Q fuel listed a w
 |0,_,_,_,h=>h
 |fuel+1,_,_,_,h=>⟨h.1,fun i hi=>wpOp_mono (fun a' w' h'=>Cm fuel _ a' w' h'.2) (h.2 i hi)⟩
def D9(ops:Array Oper)(fin:Nat->Bool)(i:Nat):Bool:=
 !fin i&&(List.range ops.size).all fun j=>!fin j||((ops[j]?).map fun o=>o.after.any fun e=>Region.binds .any e&&e.on==i).getD true
def YT{i:Nat}(h:D9 ops fin i=true):fin i=false/\ ∀j oj,ops[j]? =some oj->fin j=true-> ∃e∈oj.after,Region.binds .any e=true/\e.on=i:=by
 simp only[D9,aN,iX] at h;refine⟨h.1,fun j oj hoj hf=>?_⟩;have hj:j<ops.size:=(fT.1 hoj).1;have h1:=fX.1 h.2 j (by simpa using hj);rw[hf,hoj] at h1;simp only[Bool.not_true,jT,jZ,Bool.false_or] at h1;obtain⟨e,he,hb⟩:=Array.any_eq_true'.1 h1;simp only[aN,beq_iff_eq] at hb;exact⟨e,he,hb.1,hb.2⟩
def UT{i:Nat}{oi:Oper}{v:Value}(hi:ops[i]? =some oi)(hsel: ∀(j:Nat) (o:Oper) cs b,ops[j]? =some o->o.op≠ .select cs b)
  (hQ: ∀c a w,Q (.panic c) (a.put oi.dst v) w->Q (.panic c) a w)(hfi:fin i=false)
  (hfin: ∀j oj,ops[j]? =some oj->fin j=true-> ∃e∈oj.after,Region.binds .any e=true/\e.on=i):
  ∀(fuel:Nat) (listed:Array Bool) (a:Act) (w:World),
   (∀j oj,ops[j]? =some oj->j≠i->listed.getD j true=false->(∀e∈oj.after,Region.binds .any e=true->e.on≠i)->oi.apart ops oj=true)->
   i∈Region.ready .any ops listed->YieldsIf P ops S oi v a->S w->
   uC P ops Q S fin fuel (listed.setIfInBounds i true) (a.put oi.dst v) w->uC P ops Q S fin (fuel+1) listed a w:=by
 intro fuel
 induction fuel with
 |zero=>
  intro listed a w _ hr hy hS H;refine⟨fun h=>(by rw[h] at hr;cases hr),fun j hj=>?_⟩;by_cases hji:j=i
  ·subst hji;exact hy.wpOp hi hS ⟨.inr hS,H⟩
  ·have:=ready_mono hj hji
   rw[H.1] at this
   cases this
 |succ fuel ih=>
  intro listed a w hfree hr hy hS H;refine⟨fun h=>(by rw[h] at hr;cases hr),fun j hj=>?_⟩;by_cases hji:j=i
  ·subst hji;exact hy.wpOp hi hS ⟨.inr hS,H⟩
  ·have h1:=H.2 j (ready_mono hj hji)
   obtain⟨hjun,oj,hoj,hall⟩:=mem_ready.1 hj;have hnot: ∀e∈oj.after,Region.binds .any e=true->e.on≠i:=fun e he hb heq=>by
    have h1:=hall e he hb;have h0:=(mem_ready.1 hr).1;rw[heq] at h1;rcases iS i listed.size with h'|h'
    ·simp[h'] at h0 h1;rw[h0] at h1;cases h1
    ·simp[mY h'] at h1
   have hnf:fin j=false:=by
    cases hf:fin j with
    |false=>rfl
    |true=>obtain⟨e,he,hb,heq⟩:=hfin j oj hoj hf;exact absurd heq (hnot e he hb)
   have h2:=wpOp_putIf hoj (hfree j oj hoj hji hjun hnot) (fun cs b=>hsel i oi cs b hi) (fun cs b=>hsel j oj cs b hoj) hQ hy h1;have hfree': ∀k ok,ops[k]? =some ok->k≠i->(listed.setIfInBounds j true).getD k true=false->
     (∀e∈ok.after,Region.binds .any e=true->e.on≠i)->oi.apart ops ok=true:=fun k ok hk hki hun hno=>by
    refine hfree k ok hk hki ?_ hno;by_cases hjk:j=k
    ·subst hjk;exact hjun
    ·rw[getD_set_ne true hjk] at hun;exact hun
   refine wpOp_mono (fun a' w' h3=>?_) h2;have hS':S w':=h3.2.1.resolve_left (by rw[hnf];simp);refine⟨.inr hS',ih (listed.setIfInBounds j true) a' w' hfree' (ready_mono hr (Ne.symm hji)) h3.1 hS' ?_⟩;rw[Array.setIfInBounds_comm _ _ hji];exact h3.2.2
def Ta{i:Nat}{fuel:Nat}{listed:Array Bool}{a:Act}{w:World}(hr:Region.ready .any ops listed=[i])
  (h:wpOp P ops Q i (fun a' w'=>(fin i=true\/S w')/\uC P ops Q S fin fuel (listed.setIfInBounds i true) a' w') a w):uC P ops Q S fin (fuel+1) listed a w:=
 ⟨fun h0=>absurd (hr.symm.trans h0) (by simp),fun j hj=>by rw[hr,aY] at hj;subst hj;exact h⟩
def yw(ops:Array Oper)(fin:Nat->Bool)(listed:Array Bool)(i:Nat):Bool:=
 Region.noSelect ops&&Region.free .any ops listed i&&(Region.ready .any ops listed).contains i&&D9 ops fin i
end
class kh (l m:List ak):Prop where s:l.Sublist m
instance kh.refl (l:List ak):kh l l:=⟨List.Sublist.refl l⟩
instance kh.cons (l m:List ak) (o:ak) [h:kh l m]:kh l (o::m):=⟨h.s.cons o⟩
def HS(C:aD)(own:List ak)(G:Gh):World->Prop:=fun w=> ∃G',bw G G'/\bm C own G' w
section
variable {P:Program} {C:aD} {n:Nat} {fr:Fr} {own own0:List ak} {G G0:Gh} {ops:Array Oper} {Q:Exit->Act->World->Prop} {fin:Nat->Bool}
def ZL{id:Nat}(fin:Nat->Bool)(hm:P.follows .mixedOrders=true)
  (h:St C n fr own G (uC P ops (fC Q) (HS C own G) fin ops.size (Array.replicate ops.size false))):St C n fr own G ((Code.region id ops true).wp P Q):=by
 intro a w rl;exact wp_mono (wp_region_any hm (Cm _ _ _ _ (h a _ (rl.heap rl.h.drew)))) fC.imp
def mO{b:Bool}{Φ:Act->World->Prop}[hs:kh own0 own][hl:GL G0 G](h:St C n fr own G Φ):St C n fr own G (fun a w=>(b=true\/HS C own0 G0 w)/\Φ a w):=
 fun a w rl=>⟨.inr ⟨G,hl.le,rl.h.drop hs.s⟩,h a w rl⟩
def S8{b:Bool}{S:World->Prop}{Φ:Act->World->Prop}(hb:b=true)(h:St C n fr own G Φ):St C n fr own G (fun a w=>(b=true\/S w)/\Φ a w):=
 fun a w rl=>⟨.inl hb,h a w rl⟩
end
end Go.Sx
end
