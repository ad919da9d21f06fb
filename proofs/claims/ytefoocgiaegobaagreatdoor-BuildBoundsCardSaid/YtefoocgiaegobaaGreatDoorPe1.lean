import Derived.Calls
import Derived.Orders
import Derived.OrdersHeld
import Derived.Laws.World
import Derived.Below
import Derived.IntWalk
import Derived.KernelRfl
import Derived.Laws.Append
set_option linter.all false
section
namespace Go.Sx
def J{α:Sort _}{a:α}:a=a:=rfl
open Go
def aQ:=@List.mem_cons_self
def aZ:=@List.mem_cons_of_mem
def aX:=@List.getElem?_eq_getElem
def aJ:=@List.length_map
def aK:=@List.getD_eq_getElem?_getD
def aV:=@List.length_replicate
def aW:=@List.mem_cons
def aY:=@Nat.eq_of_beq_eq_true
def aU:=@List.mem_singleton
def aT:=@List.length_set
def aR:=@List.length_append
def aS:=@List.getElem?_eq_some_iff
def aL:=@Nat.le_refl
def aM:=@Int.toNat_natCast
def aN:=@Bool.and_eq_true
def bQ:=@List.take_of_length_le
def bZ:=@List.mem_of_getElem?
def bX:=@List.pairwise_cons
def bJ:=@List.mem_map
def bK:=@Nat.mul_le_mul_right
def bV:=@Nat.pow_le_pow_right
def bW:=@List.map_cons
def bY:=@Array.getD_eq_getD_getElem?
def bU:=@List.eq_nil_of_length_eq_zero
def bT:=@List.length_cons
def bR:=@Nat.mul_comm
def bS:=@Nat.mul_assoc
def bL:=@Nat.zero_le
def bM:=@List.length_take
def cZ:=@List.mem_append_left
def cX:=@List.mem_append
def cJ:=@List.drop_eq_getElem_cons
def cK:=@List.nil_append
def cV:=@List.cons_append
def cW:=@List.mem_append_right
def cY:=@Nat.add_mul
def cR:=@Rat.intCast_mul
def cS:=@List.getElem?_append_left
def cM:=@Bool.false_eq_true
def cN:=@Nat.lt_of_lt_of_le
def dQ:=@List.append_assoc
def dZ:=@Nat.mul_add
def dX:=@List.forall_mem_cons
def dJ:=@List.getElem?_eq_none
def dK:=@Nat.zero_add
def dV:=@Array.getElem?_setIfInBounds
def dW:=@Nat.le_trans
def dY:=@List.take_length
def dT:=@Nat.mod_lt
def dR:=@List.map_nil
def dS:=@List.foldl_cons
def eX:=@List.take_append_of_le_length
def eJ:=@Nat.add_zero
def eK:=@List.mem_of_mem_take
def eY:=@Int.sign_eq_neg_one_of_neg
def fQ:=@List.map_append
def fZ:=@Rat.intCast_eq_zero_iff
def fX:=@Nat.pow_pos
def fJ:=@List.all_eq_true
def fK:=@Array.getElem?_eq_some_iff
def fV:=@List.getElem?_append_right
def fW:=@Nat.pow_add
def fY:=@Nat.eq_zero_or_pos
def fU:=@List.getElem?_map
def fT:=@Nat.mul_le_mul_left
def fR:=@Nat.mod_eq_of_lt
def fS:=@Nat.pow_succ
def fL:=@Int.sign_eq_one_of_pos
def fM:=@List.mem_map_of_mem
def fN:=@Nat.min_eq_left
def gQ:=@Array.getElem?_eq_getElem
def gX:=@Nat.succ_mul
def gJ:=@Rat.le_of_lt
def gK:=@List.take_add_one
def gV:=@List.map_toArray
def gW:=@Nat.lt_of_le_of_lt
def gU:=@List.drop_of_length_le
def gT:=@List.getLast_cons_cons
def gR:=@List.getLast_singleton
def gS:=@Int.fdiv_eq_ediv_of_nonneg
def gL:=@List.take_succ_eq_append_getElem
def gM:=@List.length_drop
def gN:=@List.mem_flatMap
def iQ:=@Rat.le_refl
def iZ:=@Bool.not_eq_true'
def iX:=@Nat.pos_of_ne_zero
def iJ:=@Bool.and_eq_false_iff
def iK:=@Nat.mul_one
def iV:=@Array.length_toList
def iW:=@Nat.lt_or_ge
def iY:=@List.replicate_succ
def iU:=@Nat.gcd_comm
def iT:=@Bool.or_eq_true
def iR:=@Int.natCast_mul
def iS:=@List.append_nil
def iL:=@Array.getElem?_append_left
def iM:=@List.drop_zero
def iN:=@Int.natAbs_mul
def jQ:=@List.mem_of_mem_drop
def jZ:=@List.drop_append_of_le_length
def jX:=@Int.sign_eq_zero_iff_zero
def jJ:=@Option.map_some
def jK:=@List.length_nil
def jV:=@Option.getD_some
def jW:=@List.getElem_mem
def jY:=@List.drop_length
def jU:=@Nat.div_eq_of_lt
def jT:=@List.pairwise_append
def jR:=@Int.natAbs_natCast
def jS:=@List.nil_sublist
def jL:=@Nat.gcd_dvd_left
def jM:=@List.not_mem_nil
def jN:=@Nat.div_lt_iff_lt_mul
def kQ:=@Nat.mul_le_mul
def kZ:=@Int.natAbs_neg
def kX:=@Nat.zero_mul
def kJ:=@Nat.div_le_self
def kK:=@Nat.mul_pos
def kV:=@Nat.mul_lt_mul_of_pos_right
def kW:=@Nat.add_assoc
def kY:=@List.ext_getElem?
def kU:=@List.flatten_cons
def kR:=@Nat.add_comm
def kS:=@Nat.mul_left_comm
def kL:=@Int.ofNat_natAbs_of_nonpos
def kN:=@Nat.gcd_dvd_right
def lQ:=@List.foldl_nil
def lZ:=@List.getD_cons_succ
def lX:=@List.perm_append_comm
def lJ:=@List.getElem?_drop
def lK:=@Nat.add_sub_cancel
def lV:=@List.append_of_mem
def lW:=@Nat.shiftLeft_eq
def lY:=@List.eq_of_mem_replicate
def lU:=@Nat.shiftLeft_add_eq_or_of_lt
def lT:=@Nat.add_mul_div_left
def lR:=@Array.getElem?_eq_none
def lS:=@Nat.div_div_eq_div_mul
def lL:=@Rat.intCast_lt_intCast
def lM:=@Nat.one_mul
def lN:=@List.drop_append
def mQ:=@List.filter_cons
def mZ:=@Nat.mul_lt_mul''
def mX:=@Bool.not_eq_true
def mJ:=@Nat.blt_eq
def mK:=@Nat.gcd_zero_right
def mV:=@Nat.mul_lt_mul_of_lt_of_le
def mW:=@Int.natAbs_eq_zero
def mY:=@List.set_append_right
def mU:=@List.take_append_drop
def mT:=@List.length_singleton
def mR:=@List.getLast?_eq_getElem?
def mS:=@Nat.add_mul_mod_self_left
def mL:=@Int.natAbs_ediv_le_natAbs
def mM:=@Rat.intCast_inj
def mN:=@List.size_toArray
def nQ:=@List.getElem?_set
def nZ:=@Int.natAbs_of_nonneg
def nX:=@Int.lt_trichotomy
def nJ:=@Nat.eq_zero_of_gcd_eq_zero_right
def nK:=@List.flatMap_cons
def nV:=@List.length_dropLast
def nW:=@Nat.pow_lt_pow_iff_right
def nY:=@List.map_take
def nU:=@Nat.eq_zero_of_gcd_eq_zero_left
def nT:=@List.take_succ_cons
def nR:=@List.mapM_cons
def nS:=@Array.toList_map
def nL:=@List.any_eq_true
def nM:=@List.perm_middle
def nN:=@Int.natCast_emod
def oQ:=@Nat.gcd_pos_of_pos_left
def oZ:=@List.countP_cons
def oX:=@List.drop_eq_nil_of_le
def oJ:=@Nat.le_of_lt
def oK:=@Nat.beq_refl
def oV:=@List.getElem_cons_zero
def oW:=@Bool.eq_iff_iff
def oY:=@Rat.num_eq_zero
def oU:=@Rat.intCast_add
def oT:=@Rat.intCast_sub
def oR:=@Array.getElem?_toList
def oS:=@List.length_filter_lt_length_iff_exists
def oL:=@Nat.pow_mul
def oM:=@Int.tdiv_eq_ediv_of_nonneg
def oN:=@Rat.neg_num
def pQ:=@List.mem_of_getLast?
def pZ:=@Nat.mul_zero
def pX:=@List.map_set
def pJ:=@Nat.lt_trans
def pK:=@Int.le_of_lt
def pV:=@Int.natCast_ediv
def pW:=@Nat.le_add_right
def pY:=@Rat.mkRat_eq_div
def pU:=@List.getElem?_range
def pT:=@Int.toNat_of_nonneg
def pR:=@List.drop_set_of_lt
def pS:=@Int.sign_trichotomy
def pL:=@List.takeWhile_cons
def pM:=@Array.getElem?_replicate
def pN:=@Nat.gcd_pos_of_pos_right
def qQ:=@Nat.dvd_trans
def qZ:=@Option.map_none
def qX:=@Nat.div_add_mod
def qJ:=@Rat.num_intCast
def qK:=@Rat.den_intCast
def qV:=@Rat.intCast_neg
def qW:=@List.getElem?_take
def qY:=@Array.foldl_toList
def qU:=@Nat.mul_right_comm
def qT:=@Int.natCast_dvd_natCast
def qR:=@Nat.mul_div_cancel_left
def qS:=@List.pairwise_map
def qL:=@Nat.sub_self
def qM:=@List.sublist_cons_self
def qN:=@List.mem_range
def rQ:=@List.getElem?_set_self
def rZ:=@Nat.pow_zero
def rX:=@List.length_range
def rJ:=@List.eq_nil_or_concat
def rK:=@List.concat_eq_append
def rW:=@List.length_filter_le
def rY:=@Nat.mul_mod_mul_right
def rU:=@Nat.le_div_iff_mul_le
def rT:=@List.dropLast_sublist
def rR:=@Nat.le_of_not_lt
def rS:=@Rat.mkRat_one
def rL:=@Bool.or_eq_false_iff
def rM:=@Nat.div_lt_of_lt_mul
def rN:=@Rat.neg_den
def sQ:=@Int.natCast_add
def sZ:=@Int.mul_eq_zero
def sX:=@List.mem_filter
def sJ:=@Array.toList_zipIdx
def sK:=@List.drop_succ_cons
def sV:=@List.length_pos_iff
def sW:=@List.getD_cons_zero
def sY:=@Int.mul_comm
def sU:=@List.drop_drop
def sT:=@Nat.gcd_rec
def sS:=@Nat.div_one
abbrev Gh:=Nat->Option (List Value)
def bz(G G':Gh):Prop:= ∀b cs,G b=some cs->G' b=some cs
def bz.refl(G:Gh):bz G G:=fun _ _ h=>h
def bz.trans{a b c:Gh}(h:bz a b)(k:bz b c):bz a c:=fun _ _ x=>k _ _ (h _ _ x)
structure aj where
 b:Nat
 cs:List Value
 ty:TypeId
 lo:Bool
structure aD where
 w0:World
 G0:Gh
 mb:List Nat
 /-- other objects that stay: records of loops, marks -/
 ex:List (Nat×Obj)
 /-- the marks among the deferred calls; the round -/
 mks:List Deferred
 rd:Option Nat
 /-- where names that are fixed lie -/
 fx:Nat->Option Addr
structure bm (C:aD) (own:List aj) (G:Gh) (w:World):Prop where
 os:w.os=C.w0.os
 tape:w.tape=C.w0.tape
 output:w.output=C.w0.output
 size:C.w0.heap.size<=w.heap.size
 keep: ∀b,b<C.w0.heap.size->b∉C.mb->w.heap[b]? =C.w0.heap[b]?
 sub: ∀b cs,G b=some cs-> ∃ty fz,w.heap[b]? =some (.cells ⟨cs⟩ ty fz)
 gle:bz C.G0 G
 gold: ∀b,b<C.w0.heap.size->G b=C.G0 b
 hown: ∀o∈own,w.heap[o.b]? =some (.cells ⟨o.cs⟩ o.ty (0,0))/\G o.b=none/\(o.lo=true->C.w0.heap.size<=o.b)/\(o.lo=false->o.b∈C.mb)
 nd:own.Pairwise (fun x y=>x.b≠y.b)
 dr:C.w0.drawn<=w.drawn
 ext: ∀p∈C.ex,(∀cs ty z,p.2≠ .cells cs ty z)/\w.heap[p.1]? =some p.2
abbrev Fr:=List (Nat×Value)
def gj:Fr->Nat->Option Value
 |[],_=>none
 |(k,v)::t,j=>bif Nat.beq k j then some v else gj t j
def put(fr:Fr)(dst:Option Nat)(v:Value):Fr:=match dst with|some d=>(d,v)::fr|none=>fr
def jD(fr:Fr)(a:Act):Prop:= ∀k v,gj fr k=some v->a.tmps[k]? =some v
structure gh (C:aD) (n:Nat) (fr:Fr) (own:List aj) (G:Gh) (a:Act) (w:World):Prop where
 h:bm C own G w
 sz:a.tmps.size=n
 fr:jD fr a
 df:a.defers=C.mks
def St(C:aD)(n:Nat)(fr:Fr)(own:List aj)(G:Gh)(Φ:Act->World->Prop):Prop:=
 ∀a w,gh C n fr own G a w->Φ a w
def av(fr:Fr):Operand->Option Value
 | .tmp k=>gj fr k
 | .const v=>some v
 | .global g=>some (.pointer (some ⟨g,0,none⟩))
 | .func f=>some (.func (.func f) #[] #[])
def bh{fr:Fr}{a:Act}(h:jD fr a){x:Operand}{v:Value}(hx:av fr x=some v):a.eval x=v:=by
 cases x with
 |tmp k=>
  have:=h k v hx;simp only[Act.eval,bY,this,jV]
 |const u=>simpa[av,Act.eval] using hx
 |global g=>simpa[av,Act.eval] using hx
 |func f=>simpa[av,Act.eval] using hx
def rC(k:Nat)(v:Value)(t:Fr)(j:Nat):gj ((k,v)::t) j=if k=j then some v else gj t j:=by
 simp only[gj];by_cases h:k=j
 ·simp[h]
 ·have:Nat.beq k j=false:=by
   cases hb:Nat.beq k j with
   |false=>rfl
   |true=>exact absurd (aY hb) h
  simp[this,h]
def b7(n:Nat):Option Nat->Bool
 |some d=>Nat.blt d n
 |none=>true
def jD.put{fr:Fr}{a:Act}{n:Nat}(h:jD fr a)(hs:a.tmps.size=n){dst:Option Nat}{v:Value}(hd:b7 n dst=true):jD (Sx.put fr dst v) (a.put dst v):=by
 cases dst with
 |none=>exact h
 |some d=>
  intro k u hk;have hdn:d<n:=by simpa[b7,mJ] using hd
  simp only[Sx.put,rC] at hk;simp only[Act.put,dV];by_cases hkd:d=k
  ·simp only[hkd,if_true] at hk
   subst hkd;simp[hs,hdn,hk]
  ·simp only[hkd,if_false] at hk
   simp only[hkd,if_false];exact h k u hk
def LL(a:Act)(dst:Option Nat)(v:Value):(a.put dst v).tmps.size=a.tmps.size:=by cases dst<;>simp[Act.put]
def JU(a:Act)(dst:Option Nat)(v:Value):(a.put dst v).defers=a.defers:=by cases dst<;>simp[Act.put]
def gh.put{C n fr own G a w}(r:gh C n fr own G a w){dst:Option Nat}(v:Value)(hd:b7 n dst=true):gh C n (Sx.put fr dst v) own G (a.put dst v) w:=
 ⟨r.h,by rw[LL];exact r.sz,r.fr.put r.sz hd,by rw[JU];exact r.df⟩
def gh.heap{C n fr own G own' G' a w w'}(r:gh C n fr own G a w)(h:bm C own' G' w'):gh C n fr own' G' a w':=⟨h,r.sz,r.fr,r.df⟩
def dh(P:Program)(ops:Array Oper)(Q:Exit->Act->World->Prop):List Oper->Act->World->Prop
 |[],a,w=>Q .normal a w
 |o::r,a,w=>if Region.wanted o (yielded ops a.tmps) then o.wp P a w (dh P ops Q r) Q else dh P ops Q r (a.put o.dst undef) w
def RJ{P:Program}{ops:Array Oper}{Q:Exit->Act->World->Prop}: ∀(l:List Nat) (k:Nat) (a:Act) (w:World),l=(List.range ops.size).drop k->dh P ops Q (ops.toList.drop k) a w->wpOps P ops Q l a w:=by
 intro l
 induction l with
 |nil=>
  intro k a w hl h;have hk:ops.size<=k:=by
   have:=congrArg List.length hl;simp at this;omega
  rw[oX (by simpa using hk)] at h;exact h
 |cons i t ih=>
  intro k a w hl h;have hk:k<ops.size:=by
   have:=congrArg List.length hl;simp at this;omega
  rw[cJ (by simpa using hk)] at hl;obtain⟨hi,ht⟩:=List.cons.inj hl;simp only[List.getElem_range] at hi;subst hi;rw[cJ (by simpa using hk)] at h;have ho:ops[i]? =some ops[i]:=gQ hk;simp only[wpOps,ho];simp only[dh,Array.getElem_toList] at h;split
  ·rename_i hw
   simp only[hw,if_true] at h;exact .inl (Oper.wp_mono (fun a w h=>ih (i+1) a w ht h) h)
  ·rename_i hw
   simp only[hw] at h;exact ih (i+1) _ w ht h
def SS{P:Program}{id:Nat}{ops:Array Oper}{Q:Exit->Act->World->Prop}{a:Act}{w:World}
  (h:dh P ops Q ops.toList a w):(Code.region id ops false).wp P Q a w:=
 wp_region (RJ _ 0 a w (by simp) (by simpa using h))
def Yd(P:Program)(C:aD)(fr:Fr)(own:List aj)(G:Gh)(o:Oper)(v:Value):Prop:=
 ∀a w,jD fr a->bm C own G w->(execOp a.eval o).run P w= .ok (.value v) w
section
variable {P:Program} {C:aD} {n:Nat} {fr:Fr} {own:List aj} {G:Gh} {ops:Array Oper} {Q:Exit->Act->World->Prop} {r:List Oper}
def qo{o:Oper}{v:Value}(hy:Yd P C fr own G o v)(hg:o.guard=none)(hd:b7 n o.dst=true)
  (h:St C n (put fr o.dst v) own G (dh P ops Q r)):St C n fr own G (dh P ops Q (o::r)):=by
 intro a w rl;simp only[dh,Region.wanted,hg,if_true,Oper.wp,hy a w rl.fr rl.h,Oper.upon];exact h _ _ (rl.put v hd)
def BJ{a:Act}{j d:Nat}{b:Bool}(hf:jD fr a)(hj:(ops[j]?).bind (·.dst)=some d)(hl:gj fr d=some (.bool b)):yielded ops a.tmps j=some b:=by
 unfold yielded;rw[hj];simp[hf d _ hl]
def Qq{o:Oper}{v:Value}{j d:Nat}{b:Bool}(hg:o.guard=some (j,b))(hj:(ops[j]?).bind (·.dst)=some d)(hl:gj fr d=some (.bool b))
  (hy:Yd P C fr own G o v)(hd:b7 n o.dst=true)
  (h:St C n (put fr o.dst v) own G (dh P ops Q r)):St C n fr own G (dh P ops Q (o::r)):=by
 intro a w rl;have:Region.wanted o (yielded ops a.tmps)=true:=by simp[Region.wanted,hg,BJ rl.fr hj hl]
 simp only[dh,this,if_true,Oper.wp,hy a w rl.fr rl.h,Oper.upon];exact h _ _ (rl.put v hd)
def SG{o:Oper}{j d:Nat}{b c:Bool}(hg:o.guard=some (j,b))(hj:(ops[j]?).bind (·.dst)=some d)(hl:gj fr d=some (.bool c))(hbc:(c==b)=false)
  (hd:b7 n o.dst=true)(h:St C n (put fr o.dst undef) own G (dh P ops Q r)):St C n fr own G (dh P ops Q (o::r)):=by
 intro a w rl;have:Region.wanted o (yielded ops a.tmps)=false:=by simp[Region.wanted,hg,BJ rl.fr hj hl,hbc]
 simp only[dh,this];exact h _ _ (rl.put undef hd)
def zE(h:St C n fr own G (Q .normal)):St C n fr own G (dh P ops Q []):=h
def dz{id:Nat}(h:St C n fr own G (dh P ops Q ops.toList)):St C n fr own G ((Code.region id ops false).wp P Q):=
 fun a w rl=>SS (h a w rl)
def bt{x y:Code}(h:St C n fr own G (x.wp P (Exit.then (y.wp P Q) Q))):St C n fr own G ((Code.seq x y).wp P Q):=
 fun a w rl=>wp_seq (h a w rl)
def zK(h:St C n fr own G (Q .normal)):St C n fr own G (Code.skip.wp P Q):=fun a w rl=>wp_skip (h a w rl)
def cG(h:St C n fr own G (Q .ret)):St C n fr own G (Code.ret.wp P Q):=fun a w rl=>wp_ret (h a w rl)
def iE{id:Nat}(h:St C n fr own G (Q (.exit id))):St C n fr own G ((Code.exit id).wp P Q):=fun a w rl=>wp_exit (h a w rl)
def dE{id:Nat}{c:Code}(h:St C n fr own G (c.wp P (Exit.inBlock id Q))):St C n fr own G ((Code.block id c).wp P Q):=
 fun a w rl=>wp_block (h a w rl)
def iC{id:Nat}{Q:Exit->Act->World->Prop}(h:St C n fr own G (Q .normal)):St C n fr own G (Exit.inBlock id Q (.exit id)):=
 fun a w rl=>by simp only[Exit.inBlock,if_true];exact h a w rl
def Oz{id j:Nat}{Q:Exit->Act->World->Prop}(hne:Nat.beq j id=false)(h:St C n fr own G (Q (.exit j))):St C n fr own G (Exit.inBlock id Q (.exit j)):=
 fun a w rl=>by
  have:j≠id:=fun e=>by subst e;simp at hne
  simp only[Exit.inBlock,this,if_false];exact h a w rl
def od{c:Operand}{x y:Code}(hc:av fr c=some (.bool true))(h:St C n fr own G (x.wp P Q)):St C n fr own G ((Code.cond c x y).wp P Q):=
 fun a w rl=>wp_cond_true (bh rl.fr hc) (h a w rl)
def tP{c:Operand}{x y:Code}(hc:av fr c=some (.bool false))(h:St C n fr own G (y.wp P Q)):St C n fr own G ((Code.cond c x y).wp P Q):=
 fun a w rl=>wp_cond_false (bh rl.fr hc) (h a w rl)
def fi{p:Prop}{inst:Decidable p}{c:Operand}{x y:Code}(hc:av fr c=some (.bool (@decide p inst)))(h1:p->St C n fr own G (x.wp P Q))(h2: ¬p->St C n fr own G (y.wp P Q)):
  St C n fr own G ((Code.cond c x y).wp P Q):=
 fun a w rl=>wp_cond_split (bh rl.fr hc) (fun h=>h1 (of_decide_eq_true h) a w rl) (fun h=>h2 (of_decide_eq_false h) a w rl)
def Ri{b:Bool}{c:Operand}{x y:Code}(hc:av fr c=some (.bool b))(h1:b=true->St C n fr own G (x.wp P Q))(h2:b=false->St C n fr own G (y.wp P Q)):
  St C n fr own G ((Code.cond c x y).wp P Q):=
 fun a w rl=>wp_cond_split (bh rl.fr hc) (fun h=>h1 h a w rl) (fun h=>h2 h a w rl)
def SB{Φ:Act->World->Prop}(d:Nat){b:Bool}(hl:gj fr d=some (.bool b))(h1:b=true->St C n ((d, .bool true)::fr) own G Φ)(h2:b=false->St C n ((d, .bool false)::fr) own G Φ):St C n fr own G Φ:=by
 intro a w rl
 cases b with
 |true=>exact h1 J a w ⟨rl.h,rl.sz,fun k v hk=>by
   rw[rC] at hk;split at hk
   ·subst_vars;cases hk;exact rl.fr _ _ hl
   ·exact rl.fr _ _ hk,rl.df⟩
 |false=>exact h2 J a w ⟨rl.h,rl.sz,fun k v hk=>by
   rw[rC] at hk;split at hk
   ·subst_vars;cases hk;exact rl.fr _ _ hl
   ·exact rl.fr _ _ hk,rl.df⟩
def mi{Φ:Act->World->Prop}(d:Nat){p:Prop}{inst:Decidable p}(hl:gj fr d=some (.bool (@decide p inst)))(h1:p->St C n ((d, .bool true)::fr) own G Φ)(h2: ¬p->St C n ((d, .bool false)::fr) own G Φ):St C n fr own G Φ:=
 SB d hl (fun h=>h1 (of_decide_eq_true h)) (fun h=>h2 (of_decide_eq_false h))
def th(fr' fr:Fr):Prop:= ∀k v,gj fr' k=some v->gj fr k=some v
def th.nil:th [] fr:=fun _ _ h=>by cases h
def th.cons{fr':Fr}{k:Nat}{v:Value}(h:gj fr k=some v)(t:th fr' fr):th ((k,v)::fr') fr:=fun j u hj=>by
 rw[rC] at hj;split at hj
 ·subst_vars;cases hj;exact h
 ·exact t _ _ hj
end
class gm (own:List aj) (b:Nat) (cs:outParam (List Value)) (ty:outParam TypeId) (lo:outParam Bool):Prop where
 mem:⟨b,cs,ty,lo⟩∈own
instance gm.i1 (b:Nat) (cs:List Value) (ty:TypeId) (lo:Bool) (t:List aj):gm (⟨b,cs,ty,lo⟩::t) b cs ty lo:=⟨aQ⟩
instance gm.i2 (o:aj) (t:List aj) (b:Nat) (cs:List Value) (ty:TypeId) (lo:Bool) [h:gm t b cs ty lo]:gm (o::t) b cs ty lo:=⟨aZ _ h.mem⟩
inductive eE:List aj->Nat->List Value->TypeId->Bool->List Value->List aj->Prop
 |hd (b:Nat) (cs cs':List Value) (ty:TypeId) (lo:Bool) (t:List aj):eE (⟨b,cs,ty,lo⟩::t) b cs ty lo cs' (⟨b,cs',ty,lo⟩::t)
 |tl (o:aj) (t t':List aj) (b:Nat) (cs cs':List Value) (ty:TypeId) (lo:Bool) (h:eE t b cs ty lo cs' t'):eE (o::t) b cs ty lo cs' (o::t')
inductive je:List aj->aj->List aj->Prop
 |hd (o:aj) (t:List aj):je (o::t) o t
 |tl (x:aj) (t t':List aj) (o:aj) (h:je t o t'):je (x::t) o (x::t')
class GE (A:outParam Gh) (B:Gh):Prop where le:bz A B
class GL (A B:Gh):Prop where le:bz A B
instance GL.refl (A:Gh):GL A A:=⟨bz.refl A⟩
instance GL.step (A B C:Gh) [h:GE B C] [k:GL A B]:GL A C:=⟨k.le.trans h.le⟩
class rB (G:outParam Gh) (b:Nat) (cs:outParam (List Value)):Prop where h:G b=some cs
def rB.up{A G:Gh}{b:Nat}{cs:List Value}(h:rB A b cs)[k:GL A G]:G b=some cs:=k.le _ _ h.h
def cv:List Value->Nat->Nat->Option (List Value)
 |_,0,0=>some []
 |[],0,_+1=>none
 |v::t,0,k+1=>match cv t 0 k with|some l=>some (v::l)|none=>none
 |[],_+1,_=>none
 |_::t,off+1,k=>cv t off k
def ck:List Value->Nat->List Value->List Value
 |cs,_,[]=>cs
 |cs,off,v::vs=>ck (cs.set off v) (off+1) vs
def o9: ∀(cs:List Value) (off k:Nat) (l:List Value),cv cs off k=some l->l.length=k/\ ∀i,i<k->cs[off+i]? =l[i]?
 |cs,0,0,l,h=>by
  cases cs<;>(simp only[cv] at h;cases h;exact⟨J,fun i hi=>absurd hi (Nat.not_lt_zero _)⟩)
 |[],0,_+1,l,h=>by simp[cv] at h
 |v::t,0,k+1,l,h=>by
  simp only[cv] at h;split at h
  ·rename_i l' hl'
   cases h
   obtain⟨h1,h2⟩:=o9 t 0 k l' hl';refine⟨by simp[h1],fun i hi=>?_⟩
   cases i with
   |zero=>rfl
   |succ i=>
    have:=h2 i (by omega);simpa using this
  ·cases h
 |[],_+1,_,l,h=>by simp[cv] at h
 |_::t,off+1,k,l,h=>by
  simp only[cv] at h;obtain⟨h1,h2⟩:=o9 t off k l h;refine⟨h1,fun i hi=>?_⟩;have:=h2 i hi;rw[<-this,show off+1+i=(off+i)+1 by omega];rfl
class jI (P:Program) (t:TypeId) (k:outParam Nat):Prop where
 agg: ∀w,(isAgg t).run P w= .ok true w
 siz: ∀w,(sizeOf t).run P w= .ok k w
class gk (P:Program) (t:TypeId):Prop where
 agg: ∀w,(isAgg t).run P w= .ok false w
 siz: ∀w,(sizeOf t).run P w= .ok 1 w
class fk (P:Program) (t:TypeId) (z:outParam Value):Prop where
 inf:(P.info? t).map (·.zero)=some (some z)
class jF (P:Program) (t:TypeId) (f:Nat) (off:outParam Nat):Prop where
 at_: ∀(b o:Nat) w,(Instr.fieldAt t (.pointer (some ⟨b,o,none⟩)) f).run P w= .ok (.pointer (some (Addr.add ⟨b,o,none⟩ off))) w
class cd (P:Program) (t:TypeId) (e s by_:outParam Nat):Prop where
 un:P.underlying t=some (.slice e)
 inf:(P.info? e).map (fun i=>(i.size,i.bytes))=some (s,by_)
def fk.info{P:Program}{t:TypeId}{z:Value}(h:fk P t z): ∃i,P.info? t=some i/\i.zero=some z:=by
 have:=h.inf
 cases hi:P.info? t with
 |none=>rw[hi] at this;cases this
 |some i=>rw[hi] at this;exact⟨i,J,by simpa using this⟩
def cd.info{P:Program}{t e s by_:Nat}(h:cd P t e s by_): ∃i,P.info? e=some i/\i.size=s/\i.bytes=by_:=by
 have:=h.inf
 cases hi:P.info? e with
 |none=>rw[hi] at this;cases this
 |some i=>rw[hi] at this;simp at this;exact⟨i,J,this.1,this.2⟩
def nj(b o n:Nat):Addr.add ⟨b,o,none⟩ n=⟨b,o+n,none⟩:=by
 unfold Addr.add;split
 ·subst_vars;rfl
 ·rfl
def Sem.run_bind{α β:Type}(P:Program)(x:Sem α)(f:α->Sem β): ∀(w:World),(x>>=f).run P w=match x.run P w with| .ok a w'=>(f a).run P w'| .halt h w'=> .halt h w':=by
 show∀w,(Sem.bind x f).run P w=_
 induction x with
 |pure a=>intro w;rfl
 |load m a k ih=>
  intro w;simp only[Sem.bind,Sem.run];split
  ·exact ih _ w
  ·split
   ·exact ih _ w
   ·rfl
 |store m a v k ih=>
  intro w
  cases v<;>simp only[Sem.bind,Sem.run]<;>(try rfl)<;>(split<;>first|(split<;>first|rfl|exact ih _)|rfl)
 |new o k ih=>intro w;exact ih _ _
 |shape r k ih=>intro w;exact ih _ _
 |freeze a n k ih=>intro w;exact ih _
 |frozen a k ih=>intro w;exact ih _ _
 |getObj r k ih=>
  intro w;simp only[Sem.bind,Sem.run];split
  ·rfl
  ·exact ih _ w
  ·rfl
 |setObj r o k ih=>
  intro w;simp only[Sem.bind,Sem.run];split
  ·rfl
  ·exact ih _
  ·rfl
 |choose q k ih=>
  intro w;simp only[Sem.bind,Sem.run];split
  ·exact ih _ _
  ·exact ih _ _
 |sys c k ih=>intro w;exact ih _ _
 |program k ih=>intro w;exact ih _ _
 |mark m k ih=>intro w;exact ih _
 |halt h=>intro w;rfl
def run_pure{α:Type}(P:Program)(a:α)(w:World):(pure a:Sem α).run P w= .ok a w:=rfl
def aP{α β:Type}{P:Program}{x:Sem α}{f:α->Sem β}{w w':World}{a:α}(h:x.run P w= .ok a w'):(x>>=f).run P w=(f a).run P w':=by
 rw[Sem.run_bind,h]
def fk.zero{P:Program}{t:TypeId}{z:Value}(h:fk P t z)(w:World):(zeroValue t).run P w= .ok z w:=by
 obtain⟨i,h1,h2⟩:=h.info;simp[zeroValue,typeInfo,program,Sem.run_bind,Sem.run,h1,h2,run_pure]
def cd.u{P:Program}{t e s by_:Nat}(h:cd P t e s by_)(w:World):(underlying t).run P w= .ok (.slice e) w:=by
 simp[underlying,program,Sem.run_bind,Sem.run,h.un,run_pure]
def cd.siz{P:Program}{t e s by_:Nat}(h:cd P t e s by_)(w:World):(sizeOf e).run P w= .ok s w:=by
 obtain⟨i,h1,h2,_⟩:=h.info;simp[sizeOf,typeInfo,program,Sem.run_bind,Sem.run,h1,h2,run_pure]
section
variable {P:Program} {C:aD} {n:Nat} {fr:Fr} {own:List aj} {G:Gh} {ops:Array Oper} {Q:Exit->Act->World->Prop} {r:List Oper}
def An{w:World}{b:Nat}{cs:List Value}{ty:TypeId}{fz:Nat×Nat}(h:w.heap[b]? =some (.cells ⟨cs⟩ ty fz))(i:Nat):w.cell? ⟨b,i,none⟩=cs[i]? :=by
 simp[World.cell?,h]
def K1{w:World}{a:Addr}{v:Value}(h:w.cell? a=some v):(load a).run P w= .ok v w:=by
 simp[load,Sem.run,h]
def Hc{w:World}{b off:Nat}{l:List Value}: ∀(m i:Nat) (acc:Array Value),(∀j,j<m->w.cell? ⟨b,off+(i+j),none⟩=l[i+j]?)->i+m<=l.length->
  (loadCellsFrom ⟨b,off,none⟩ i m acc).run P w= .ok (acc++((l.drop i).take m).toArray) w
 |0,i,acc,_,_=>by simp[loadCellsFrom,run_pure]
 |m+1,i,acc,h,hl=>by
  have h0:=h 0 (by omega);rw[eJ,aX (by omega)] at h0;unfold loadCellsFrom;rw[aP (a:=l[i]) (w':=w) (by rw[nj];exact K1 h0)];rw[Hc m (i+1) (acc.push l[i]) (fun j hj=>by have:=h (j+1) (by omega);rw[show i+1+j=i+(j+1) by omega];exact this) (by omega)];congr 1;rw[cJ (by omega:i<l.length),nT];apply Array.ext';simp
def H'{w:World}{b off k:Nat}{t:TypeId}{cs l:List Value}[ht:jI P t k]{ty:TypeId}{fz:Nat×Nat}(h:w.heap[b]? =some (.cells ⟨cs⟩ ty fz))(hl:cv cs off k=some l):
  (loadVar t ⟨b,off,none⟩).run P w= .ok (.agg ⟨l⟩) w:=by
 obtain⟨h1,h2⟩:=o9 _ _ _ _ hl;unfold loadVar;rw[aP (ht.agg w)];simp only[if_true];rw[aP (ht.siz w)];unfold loadCells;rw[aP (Hc (l:=l) k 0 #[] (fun j hj=>by rw[An h];simpa using h2 j hj) (by omega))];simp[run_pure,<-h1]
def Gw{w:World}{b off:Nat}{t:TypeId}{cs:List Value}{v:Value}[ht:gk P t]{ty:TypeId}{fz:Nat×Nat}(h:w.heap[b]? =some (.cells ⟨cs⟩ ty fz))(hl:cs[off]? =some v):
  (loadVar t ⟨b,off,none⟩).run P w= .ok v w:=by
 unfold loadVar;rw[aP (ht.agg w)];simp only[cM,if_false];exact K1 (by rw[An h];exact hl)
def cx{α:Type}{f:α->Next}{s:Sem α}{w w':World}{a:α}(h:s.run P w= .ok a w'):(do pure (f (<-s)):Sem Next).run P w= .ok (f a) w':=by
 rw[aP h];rfl
def Bz{dst:Option Nat}{t ty':TypeId}{pos:String}{af:Array Edge}{gd:Option (Nat×Bool)}{x:Operand}{b off k:Nat}{cs l:List Value}{lo:Bool}{ty:TypeId}
  (hx:av fr x=some (.pointer (some ⟨b,off,none⟩)))[ho:gm own b cs ty lo][jI P t k](hl:cv cs off k=some l):
  Yd P C fr own G ⟨dst, .load t x,ty',pos,af,gd⟩ (.agg ⟨l⟩):=by
 intro a w hf hh;simp only[execOp,bh hf hx,Instr.loadAt,Instr.sureAddr];exact cx (H' (hh.hown _ ho.mem).1 hl)
def jx{dst:Option Nat}{t ty':TypeId}{pos:String}{af:Array Edge}{gd:Option (Nat×Bool)}{x:Operand}{b off:Nat}{cs:List Value}{v:Value}{lo:Bool}{ty:TypeId}
  (hx:av fr x=some (.pointer (some ⟨b,off,none⟩)))[ho:gm own b cs ty lo][gk P t](hl:cs[off]? =some v):
  Yd P C fr own G ⟨dst, .load t x,ty',pos,af,gd⟩ v:=by
 intro a w hf hh;simp only[execOp,bh hf hx,Instr.loadAt,Instr.sureAddr];exact cx (Gw (hh.hown _ ho.mem).1 hl)
def Hu{dst:Option Nat}{t ty':TypeId}{pos:String}{af:Array Edge}{gd:Option (Nat×Bool)}{x:Operand}{b off k:Nat}{cs l:List Value}
  (hx:av fr x=some (.pointer (some ⟨b,off,none⟩)))(hg:G b=some cs)[jI P t k](hl:cv cs off k=some l):
  Yd P C fr own G ⟨dst, .load t x,ty',pos,af,gd⟩ (.agg ⟨l⟩):=by
 intro a w hf hh;obtain⟨ty,fz,hb⟩:=hh.sub _ _ hg;simp only[execOp,bh hf hx,Instr.loadAt,Instr.sureAddr];exact cx (H' hb hl)
def vd{dst:Option Nat}{t ty':TypeId}{pos:String}{af:Array Edge}{gd:Option (Nat×Bool)}{x:Operand}{b off:Nat}{cs:List Value}{v:Value}
  (hx:av fr x=some (.pointer (some ⟨b,off,none⟩)))(hg:G b=some cs)[gk P t](hl:cs[off]? =some v):
  Yd P C fr own G ⟨dst, .load t x,ty',pos,af,gd⟩ v:=by
 intro a w hf hh;obtain⟨ty,fz,hb⟩:=hh.sub _ _ hg;simp only[execOp,bh hf hx,Instr.loadAt,Instr.sureAddr];exact cx (Gw hb hl)
variable {dst:Option Nat} {t t' ty':TypeId} {pos:String} {af:Array Edge} {gd:Option (Nat×Bool)} {x y:Operand}
def eG{v:Value}(hx:av fr x=some v):Yd P C fr own G ⟨dst, .move x,ty',pos,af,gd⟩ v:=by
 intro a w hf hh;simp only[execOp,bh hf hx];rfl
def Fo{v:Value}(hx:av fr x=some v):Yd P C fr own G ⟨dst, .assign x,ty',pos,af,gd⟩ v:=by
 intro a w hf hh;simp only[execOp,bh hf hx];rfl
def qa{z:Operand}{v:Value}(hc:av fr z=some (.bool true))(hx:av fr x=some v):Yd P C fr own G ⟨dst, .pick z x y,ty',pos,af,gd⟩ v:=by
 intro a w hf hh;simp only[execOp,bh hf hc,bh hf hx,asBool];rfl
def kh{z:Operand}{v:Value}(hc:av fr z=some (.bool false))(hx:av fr y=some v):Yd P C fr own G ⟨dst, .pick z x y,ty',pos,af,gd⟩ v:=by
 intro a w hf hh;simp only[execOp,bh hf hc,bh hf hx,asBool];rfl
def jC{ad:Addr}(hx:av fr x=some (.pointer (some ad))):Yd P C fr own G ⟨dst, .nilCheck x,ty',pos,af,gd⟩ (.pointer (some ad)):=by
 intro a w hf hh;simp only[execOp,bh hf hx];rfl
def mF{b o f off:Nat}[hF:jF P t f off](hx:av fr x=some (.pointer (some ⟨b,o,none⟩))):
  Yd P C fr own G ⟨dst, .fieldAddr t x f,ty',pos,af,gd⟩ (.pointer (some ⟨b,o+off,none⟩)):=by
 intro a w hf hh;simp only[execOp,bh hf hx];have:=hF.at_ b o w;rw[nj] at this;exact cx this
def Eu{vs:Array Value}{i:Nat}{v:Value}(hx:av fr x=some (.tuple vs))(hv:vs[i]? =some v):Yd P C fr own G ⟨dst, .extract x i,ty',pos,af,gd⟩ v:=by
 intro a w hf hh;simp only[execOp,bh hf hx,Instr.extract,hv];rfl
def zl{fn:Fn}{c1 c2:Array Operand}{l1 l2:List Value}(h1:c1.toList.mapM (av fr)=some l1)(h2:c2.toList.mapM (av fr)=some l2):
  Yd P C fr own G ⟨dst, .makeFunc fn c1 c2,ty',pos,af,gd⟩ (.func fn ⟨l1⟩ ⟨l2⟩):=by
 intro a w hf hh;have key: ∀(l:List Operand) (m:List Value),l.mapM (av fr)=some m->l.map a.eval=m:=by
  intro l
  induction l with
  |nil=>intro m h;simp at h;subst h;rfl
  |cons o t ih=>
   intro m h;rw[nR] at h
   cases ho:av fr o with
   |none=>simp[ho] at h
   |some u=>
    cases ht:t.mapM (av fr) with
    |none=>simp[ho,ht] at h
    |some m'=>
     simp[ho,ht] at h;subst h;simp[bh hf ho,ih _ ht]
 have e1:c1.map a.eval=⟨l1⟩:=by apply Array.ext';simpa using key _ _ h1
 have e2:c2.map a.eval=⟨l2⟩:=by apply Array.ext';simpa using key _ _ h2
 simp only[execOp,e1,e2];rfl
def gA{op:BinOp}{k:IntKind}{p q:Int}{v:Value}(hx:av fr x=some (.int k p))(hy:av fr y=some (.int k q))(hs: ∀w,(binOp op t (.int k p) (.int k q)).run P w= .ok v w):
  Yd P C fr own G ⟨dst, .binOp op t x y t',ty',pos,af,gd⟩ v:=by
 intro a w hf hh;simp only[execOp,bh hf hx,bh hf hy];have:(eqGuard op t x y (.int k p) (.int k q)).run P w= .ok () w:=by cases op<;>rfl
 exact cx (by rw[aP this];exact hs w)
def Ih(k:IntKind)(p q:Int)(w:World):(binOp .add t (.int k p) (.int k q)).run P w= .ok (.int k (k.wrap (p+q))) w:=by simp[binOp,Op.intArith,run_pure]
def MO(k:IntKind)(p q:Int)(w:World):(binOp .sub t (.int k p) (.int k q)).run P w= .ok (.int k (k.wrap (p-q))) w:=by simp[binOp,Op.intArith,run_pure]
def Tc(k:IntKind)(p q:Int)(w:World):(binOp .mul t (.int k p) (.int k q)).run P w= .ok (.int k (k.wrap (p*q))) w:=by simp[binOp,Op.intArith,run_pure]
def WN(k:IntKind)(p q:Int)(w:World)(h:q≠0):(binOp .quo t (.int k p) (.int k q)).run P w= .ok (.int k (k.wrap (p.tdiv q))) w:=by simp[binOp,Op.intDiv,run_pure,h]
def Rp(k:IntKind)(p q:Int)(w:World)(h:q≠0):(binOp .rem t (.int k p) (.int k q)).run P w= .ok (.int k (p.tmod q)) w:=by simp[binOp,Op.intDiv,run_pure,h]
def Rr(k:IntKind)(p q:Int)(w:World):(binOp .lss t (.int k p) (.int k q)).run P w= .ok (.bool (decide (p<q))) w:=by simp[binOp,Op.intCmp,run_pure]
def Ru(k:IntKind)(p q:Int)(w:World):(binOp .leq t (.int k p) (.int k q)).run P w= .ok (.bool (decide (p<=q))) w:=by simp[binOp,Op.intCmp,run_pure]
def VL(k:IntKind)(p q:Int)(w:World):(binOp .gtr t (.int k p) (.int k q)).run P w= .ok (.bool (decide (q<p))) w:=by simp[binOp,Op.intCmp,run_pure]
def U3(k:IntKind)(p q:Int)(w:World):(binOp .geq t (.int k p) (.int k q)).run P w= .ok (.bool (decide (q<=p))) w:=by simp[binOp,Op.intCmp,run_pure]
def QN(k:IntKind)(p q:Int)(w:World):(binOp .eql t (.int k p) (.int k q)).run P w= .ok (.bool (decide (p=q))) w:=by
 have:(p==q)=decide (p=q):=by rw[oW];simp
 simp[binOp,Op.intCmp,run_pure,this]
def Sa(k:IntKind)(p q:Int)(w:World):(binOp .neq t (.int k p) (.int k q)).run P w= .ok (.bool (decide (p≠q))) w:=by
 have:(p !=q)=decide (p≠q):=by rw[oW];simp
 simp[binOp,Op.intCmp,run_pure,this]
def qw{k:IntKind}{p:Int}(h:k.min<=p/\p<=k.max):k.wrap p=p:=by
 cases k<;>simp only[IntKind.min,IntKind.max,IntKind.wrap,IntKind.bits,IntKind.signed] at* <;>simp at h⊢ <;>(try split)<;>omega
def Fj{k:IntKind}{p q:Int}(hx:av fr x=some (.int k p))(hy:av fr y=some (.int k q))(h:k.min<=p+q/\p+q<=k.max):Yd P C fr own G ⟨dst, .binOp .add t x y t',ty',pos,af,gd⟩ (.int k (p+q)):=
 gA hx hy fun w=>by rw[Ih,qw h]
def FI{k:IntKind}{p q:Int}(hx:av fr x=some (.int k p))(hy:av fr y=some (.int k q))(h:k.min<=p-q/\p-q<=k.max):Yd P C fr own G ⟨dst, .binOp .sub t x y t',ty',pos,af,gd⟩ (.int k (p-q)):=
 gA hx hy fun w=>by rw[MO,qw h]
def Ff{k:IntKind}{p q:Int}(hx:av fr x=some (.int k p))(hy:av fr y=some (.int k q))(h:k.min<=p*q/\p*q<=k.max):Yd P C fr own G ⟨dst, .binOp .mul t x y t',ty',pos,af,gd⟩ (.int k (p*q)):=
 gA hx hy fun w=>by rw[Tc,qw h]
def VS{k:IntKind}{p q:Int}(hx:av fr x=some (.int k p))(hy:av fr y=some (.int k q)):Yd P C fr own G ⟨dst, .binOp .add t x y t',ty',pos,af,gd⟩ (.int k (k.wrap (p+q))):=gA hx hy fun w=>Ih k p q w
def tG{k:IntKind}{p q:Int}(hx:av fr x=some (.int k p))(hy:av fr y=some (.int k q)):Yd P C fr own G ⟨dst, .binOp .sub t x y t',ty',pos,af,gd⟩ (.int k (k.wrap (p-q))):=gA hx hy fun w=>MO k p q w
def OA{k:IntKind}{p q:Int}(hx:av fr x=some (.int k p))(hy:av fr y=some (.int k q))(h:q≠0):Yd P C fr own G ⟨dst, .binOp .quo t x y t',ty',pos,af,gd⟩ (.int k (k.wrap (p.tdiv q))):=gA hx hy fun w=>WN k p q w h
def MU{k:IntKind}{p q:Int}(hx:av fr x=some (.int k p))(hy:av fr y=some (.int k q))(h:q≠0):Yd P C fr own G ⟨dst, .binOp .rem t x y t',ty',pos,af,gd⟩ (.int k (p.tmod q)):=gA hx hy fun w=>Rp k p q w h
def io{k:IntKind}{p q:Int}(hx:av fr x=some (.int k p))(hy:av fr y=some (.int k q)):Yd P C fr own G ⟨dst, .binOp .lss t x y t',ty',pos,af,gd⟩ (.bool (decide (p<q))):=gA hx hy fun w=>Rr k p q w
def Qt{k:IntKind}{p q:Int}(hx:av fr x=some (.int k p))(hy:av fr y=some (.int k q)):Yd P C fr own G ⟨dst, .binOp .leq t x y t',ty',pos,af,gd⟩ (.bool (decide (p<=q))):=gA hx hy fun w=>Ru k p q w
def rg{k:IntKind}{p q:Int}(hx:av fr x=some (.int k p))(hy:av fr y=some (.int k q)):Yd P C fr own G ⟨dst, .binOp .gtr t x y t',ty',pos,af,gd⟩ (.bool (decide (q<p))):=gA hx hy fun w=>VL k p q w
def sH{k:IntKind}{p q:Int}(hx:av fr x=some (.int k p))(hy:av fr y=some (.int k q)):Yd P C fr own G ⟨dst, .binOp .geq t x y t',ty',pos,af,gd⟩ (.bool (decide (q<=p))):=gA hx hy fun w=>U3 k p q w
def gE{k:IntKind}{p q:Int}(hx:av fr x=some (.int k p))(hy:av fr y=some (.int k q)):Yd P C fr own G ⟨dst, .binOp .eql t x y t',ty',pos,af,gd⟩ (.bool (decide (p=q))):=gA hx hy fun w=>QN k p q w
def tc{k:IntKind}{p q:Int}(hx:av fr x=some (.int k p))(hy:av fr y=some (.int k q)):Yd P C fr own G ⟨dst, .binOp .neq t x y t',ty',pos,af,gd⟩ (.bool (decide (p≠q))):=gA hx hy fun w=>Sa k p q w
variable {e s by_:Nat}
def mv[hT:cd P t e s by_]{ad:Option Addr}{len cap:Nat}(hx:av fr x=some (.slice ad len cap)):
  Yd P C fr own G ⟨dst, .call ⟨.builtin .len, #[x], #[t]⟩,ty',pos,af,gd⟩ (.int .i64 len):=by
 intro a w hf hh;simp only[execOp,resolve,gV,bW,dR,bh hf hx];have h1:(Builtin.len_ #[t] ty' #[.slice ad len cap]).run P w= .ok (.int .i64 len) w:=by
  simp only[Builtin.len_];show(underlying t>>=_).run P w=_;rw[aP (hT.u w)];rfl
 exact cx h1
def xw[hT:cd P t e s by_]{k:IntKind}{b off len cap:Nat}{i:Int}(hx:av fr x=some (.slice (some ⟨b,off,none⟩) len cap))(hy:av fr y=some (.int k i))(h0:0<=i)(h1:i<len):
  Yd P C fr own G ⟨dst, .indexAddr t x y,ty',pos,af,gd⟩ (.pointer (some ⟨b,off+i.toNat*s,none⟩)):=by
 intro a w hf hh;simp only[execOp,bh hf hx,bh hf hy];have:(Instr.indexAt t (.slice (some ⟨b,off,none⟩) len cap) (.int k i)).run P w= .ok (.pointer (some ⟨b,off+i.toNat*s,none⟩)) w:=by
  unfold Instr.indexAt;show(underlying t>>=_).run P w=_;rw[aP (hT.u w)];show(underlying t>>=_).run P w=_;rw[aP (hT.u w)];simp only[h0,h1,and_self,if_true];show(sizeOf e>>=_).run P w=_;rw[aP (hT.siz w),nj];rfl
 exact cx this
def vS{k:IntKind}{v:Int}{m:Nat}{c:BoundsCode}(w:World)(h0:0<=v)(h1:v<=m):(Instr.sliceBound (.int k v) m c).run P w= .ok v.toNat w:=by
 unfold Instr.sliceBound;simp[asIntOf,h0,h1,run_pure]
def kP(ad:Option Addr)(len cap lo hi mx s:Nat):Value:= .slice (if mx=lo then ad else ad.map (·.add (lo*s))) (hi-lo) (mx-lo)
def zo[hT:cd P t e s by_]{ad:Option Addr}{len cap:Nat}(w:World){lo hi mx:Option Value}{l h m:Nat}(hb: ∀w,(Instr.sliceBounds true len cap lo hi mx).run P w= .ok (l,h,m) w):
  (Instr.sliceAt t (.slice ad len cap) lo hi mx).run P w= .ok (kP ad len cap l h m s) w:=by
 unfold Instr.sliceAt;rw[aP (hT.u w)];show(Instr.slice t (.slice ad len cap) lo hi mx).run P w=_;unfold Instr.slice;rw[aP (hT.u w)];show(Instr.sliceBounds true len cap lo hi mx>>=_).run P w=_;rw[aP (hb w)];show(sizeOf e>>=_).run P w=_;rw[aP (hT.siz w)];rfl
def uX[hT:cd P t e s by_]{k:IntKind}{ad:Option Addr}{len cap:Nat}{h:Int}(hx:av fr x=some (.slice ad len cap))(hy:av fr y=some (.int k h))(h0:0<=h)(h1:h<=cap):
  Yd P C fr own G ⟨dst, .slice t x none (some y) none,ty',pos,af,gd⟩ (.slice ad h.toNat cap):=by
 intro a w hf hh;simp only[execOp,bh hf hx,bh hf hy,qZ,jJ];have:=zo (P:=P) (t:=t) (ad:=ad) (len:=len) (cap:=cap) w (lo:=none) (hi:=some (.int k h)) (mx:=none) (l:=0) (h:=h.toNat) (m:=cap) (fun w=>by
  simp[Instr.sliceBounds,vS w h0 h1,Result.andThen])
 have e2:kP ad len cap 0 h.toNat cap s= .slice ad h.toNat cap:=by
  unfold kP
  cases ad with
  |none=>simp
  |some ad=>simp[Addr.add]
 rw[<-e2];exact cx this
def A4[hT:cd P t e s by_]{k:IntKind}{ad:Option Addr}{len cap:Nat}{l:Int}(hx:av fr x=some (.slice ad len cap))(hy:av fr y=some (.int k l))(h0:0<=l)(h1:l<=len):
  Yd P C fr own G ⟨dst, .slice t x (some y) none none,ty',pos,af,gd⟩ (kP ad len cap l.toNat len cap s):=by
 intro a w hf hh;simp only[execOp,bh hf hx,bh hf hy,qZ,jJ];exact cx (zo (P:=P) (t:=t) (ad:=ad) (len:=len) (cap:=cap) w (lo:=some (.int k l)) (hi:=none) (mx:=none) (fun w=>by
  simp[Instr.sliceBounds,vS w h0 h1,Result.andThen]))
def akU[hT:cd P t e s by_]{k k':IntKind}{ad:Option Addr}{len cap:Nat}{l h:Int}{z:Operand}(hx:av fr x=some (.slice ad len cap))(hy:av fr y=some (.int k l))(hz:av fr z=some (.int k' h))(h0:0<=l)(h1:l<=h)(h2:h<=cap):
  Yd P C fr own G ⟨dst, .slice t x (some y) (some z) none,ty',pos,af,gd⟩ (kP ad len cap l.toNat h.toNat cap s):=by
 intro a w hf hh;simp only[execOp,bh hf hx,bh hf hy,bh hf hz,qZ,jJ];exact cx (zo (P:=P) (t:=t) (ad:=ad) (len:=len) (cap:=cap) w (lo:=some (.int k l)) (hi:=some (.int k' h)) (mx:=none) (fun w=>by
  have h1':l<=(h.toNat:Int):=by omega
  simp[Instr.sliceBounds,vS w (Int.le_trans h0 h1) h2,vS w h0 h1',Result.andThen]))
def Rb[hT:cd P t e s by_]{k k':IntKind}{ad:Option Addr}{len cap:Nat}{h m:Int}{z:Operand}(hx:av fr x=some (.slice ad len cap))(hy:av fr y=some (.int k h))(hz:av fr z=some (.int k' m))(h0:0<=h)(h1:h<=m)(h2:m<=cap):
  Yd P C fr own G ⟨dst, .slice t x none (some y) (some z),ty',pos,af,gd⟩ (.slice ad h.toNat m.toNat):=by
 intro a w hf hh;simp only[execOp,bh hf hx,bh hf hy,bh hf hz,qZ,jJ];have:=zo (P:=P) (t:=t) (ad:=ad) (len:=len) (cap:=cap) w (lo:=none) (hi:=some (.int k h)) (mx:=some (.int k' m)) (l:=0) (h:=h.toNat) (m:=m.toNat) (fun w=>by
  have h1':h<=(m.toNat:Int):=by omega
  simp[Instr.sliceBounds,vS w (Int.le_trans h0 h1) h2,vS w h0 h1',Result.andThen])
 have e2:kP ad len cap 0 h.toNat m.toNat s= .slice ad h.toNat m.toNat:=by
  unfold kP
  cases ad with
  |none=>simp
  |some ad=>simp[Addr.add]
 rw[<-e2];exact cx this
class kI (P:Program) (t:TypeId) (k:outParam IntKind):Prop where u: ∀w,(underlying t).run P w= .ok (.int k) w
def B7{k k':IntKind}{p:Int}[hs:kI P t k][hd:kI P t' k'](hx:av fr x=some (.int k p)):Yd P C fr own G ⟨dst, .convert t t' x,ty',pos,af,gd⟩ (.int k' (k'.wrap p)):=by
 intro a w hf hh;simp only[execOp,bh hf hx];have:(convert t t' (.int k p)).run P w= .ok (.int k' (k'.wrap p)) w:=by
  unfold convert;rw[aP (hs.u w),aP (hd.u w)];rfl
 exact cx this
def Fk{k k':IntKind}{p:Int}[hs:kI P t k][hd:kI P t' k'](hx:av fr x=some (.int k p))(h:k'.min<=p/\p<=k'.max):Yd P C fr own G ⟨dst, .convert t t' x,ty',pos,af,gd⟩ (.int k' p):=by
 have:=B7 (P:=P) (C:=C) (own:=own) (G:=G) (dst:=dst) (ty':=ty') (pos:=pos) (af:=af) (gd:=gd) (t:=t) (t':=t') hx;rwa [qw h] at this
def BC{b:Bool}(hx:av fr x=some (.bool b)):Yd P C fr own G ⟨dst, .unOp .not t x,ty',pos,af,gd⟩ (.bool (!b)):=by
 intro a w hf hh;simp only[execOp,bh hf hx,Op.unary];rfl
def Hx{k:IntKind}{p:Int}(hx:av fr x=some (.int k p)):Yd P C fr own G ⟨dst, .unOp .neg t x,ty',pos,af,gd⟩ (.int k (k.wrap (0-p))):=by
 intro a w hf hh;simp only[execOp,bh hf hx,Op.unary,Op.intArith];rfl
end
def f8{w:World}{b:Nat}{o:Obj}(h:w.heap[b]? =some o):b<w.heap.size:=by
 rcases iW b w.heap.size with h'|h'
 ·exact h'
 ·simp[lR h'] at h
def bm.gnone{C:aD}{own:List aj}{G:Gh}{w:World}(h:bm C own G w){b:Nat}(hb:w.heap.size<=b):G b=none:=by
 cases hG:G b with
 |none=>rfl
 |some cs=>
  obtain⟨ty,fz,hc⟩:=h.sub b cs hG;have:=f8 hc;omega
def bm.alloc{C:aD}{own:List aj}{G:Gh}{w:World}(h:bm C own G w)(cs:List Value)(ty:TypeId):
  bm C (⟨w.heap.size,cs,ty,true⟩::own) G (w.alloc (.cells ⟨cs⟩ ty)):=by
 have old: ∀b,b<w.heap.size->(w.alloc (.cells ⟨cs⟩ ty)).heap[b]? =w.heap[b]? :=fun b hb=>RowKit.Below.heap_alloc _ _ _ hb;refine⟨h.os,h.tape,h.output,?_,?_,?_,h.gle,h.gold,?_,?_,h.dr,fun p hp=>⟨(h.ext p hp).1,by rw[old _ (f8 (h.ext p hp).2)];exact(h.ext p hp).2⟩⟩
 ·have:=h.size;simp;omega
 ·intro b hb hm;rw[old b (by have:=h.size;omega)];exact h.keep b hb hm
 ·intro b cs' hb
  obtain⟨ty',fz,hc⟩:=h.sub b cs' hb;exact⟨ty',fz,by rw[old b (f8 hc)];exact hc⟩
 ·intro o ho
  rcases aW.1 ho with rfl|ho
  ·refine⟨by show(w.heap.push _)[w.heap.size]? =_;simp,h.gnone (aL _),fun _=>h.size,fun e=>by cases e⟩
  ·obtain⟨h1,h2⟩:=h.hown o ho
   exact⟨by rw[old _ (f8 h1)];exact h1,h2⟩
 ·refine List.Pairwise.cons ?_ h.nd
  intro o ho;have:=f8 (h.hown o ho).1;show w.heap.size≠o.b;omega
def fp(w:World)(b:Nat)(o:Obj):World:={w with heap:=w.heap.setIfInBounds b o}
def CX{l:List aj}:l.Pairwise (fun x y=>x.b≠y.b)↔(l.map (·.b)).Pairwise (· ≠ ·):=by rw[qS]
def eE.spec{own own':List aj}{b:Nat}{cs cs':List Value}{ty:TypeId}{lo:Bool}(h:eE own b cs ty lo cs' own')(nd:own.Pairwise (fun x y=>x.b≠y.b)):
  ⟨b,cs,ty,lo⟩∈own/\(∀o,o∈own'->o=⟨b,cs',ty,lo⟩\/(o∈own/\o.b≠b))/\own'.map (·.b)=own.map (·.b):=by
 induction h with
 |hd b cs cs' ty lo t=>
  refine⟨aQ,fun o ho=>?_,J⟩;rcases aW.1 ho with rfl|h
  ·exact .inl J
  ·exact .inr ⟨aZ _ h,Ne.symm ((bX.1 nd).1 _ h)⟩
 |tl o t t' b cs cs' ty lo h ih=>
  obtain⟨h1,h2,h3⟩:=ih (bX.1 nd).2;refine⟨aZ _ h1,fun x hx=>?_,by simp[h3]⟩;rcases aW.1 hx with rfl|hx
  ·exact .inr ⟨aQ,(bX.1 nd).1 _ h1⟩
  ·exact(h2 x hx).imp id (fun k=>⟨aZ _ k.1,k.2⟩)
def AW{w:World}{b k:Nat}{o:Obj}(hk:k≠b):(fp w b o).heap[k]? =w.heap[k]? :=by
 simp only[fp];rw[dV];simp[Ne.symm hk]
def JB{w:World}{b:Nat}{o:Obj}(hb:b<w.heap.size):(fp w b o).heap[b]? =some o:=by
 simp only[fp];rw[dV];simp[hb]
def bm.extNe{C:aD}{own:List aj}{G:Gh}{w:World}(h:bm C own G w){p:Nat×Obj}(hp:p∈C.ex){b:Nat}{cs:Array Value}{ty:TypeId}{z:Nat×Nat}(hb:w.heap[b]? =some (.cells cs ty z)):p.1≠b:=fun e=>by
 obtain⟨h1,h2⟩:=h.ext p hp;rw[e,hb] at h2;exact h1 _ _ _ (Option.some.inj h2).symm
def bm.extM{C:aD}{M rest:List aj}{G:Gh}{w:World}(h:bm C (M++rest) G w){p:Nat×Obj}(hp:p∈C.ex):p.1∉M.map (·.b):=fun hm=>by
 obtain⟨m,hm,e⟩:=bJ.1 hm;exact h.extNe hp (h.hown m (cZ _ hm)).1 e.symm
def bm.store{C:aD}{own own':List aj}{G:Gh}{w:World}{b:Nat}{cs cs':List Value}{ty:TypeId}{lo:Bool}(h:bm C own G w)(hu:eE own b cs ty lo cs' own'):
  bm C own' G (fp w b (.cells ⟨cs'⟩ ty (0,0))):=by
 obtain⟨h1,h2,h3⟩:=hu.spec h.nd;obtain⟨hb,hGb,hlo1,hlo2⟩:=h.hown _ h1;have hlt:=f8 hb;refine⟨h.os,h.tape,h.output,by simpa[fp] using h.size,?_,?_,h.gle,h.gold,?_,CX.2 (h3▸CX.1 h.nd),h.dr,fun p hp=>⟨(h.ext p hp).1,by rw[AW (h.extNe hp hb)];exact(h.ext p hp).2⟩⟩
 ·intro k hk hm
  by_cases hkb:k=b
  ·subst hkb
   cases hlo:lo with
   |true=>have h5:=hlo1 hlo;simp only[] at h5;omega
   |false=>exact absurd (hlo2 hlo) hm
  ·rw[AW hkb];exact h.keep k hk hm
 ·intro k cs1 hk
  obtain⟨ty',fz,hc⟩:=h.sub k cs1 hk;have:k≠b:=fun e=>by subst e;rw[show G k=none from hGb] at hk;cases hk
  exact⟨ty',fz,by rw[AW this];exact hc⟩
 ·intro o ho
  rcases h2 o ho with rfl|⟨ho',hne⟩
  ·exact⟨JB hlt,hGb,hlo1,hlo2⟩
  ·obtain⟨k1,k2⟩:=h.hown o ho'
   exact⟨by rw[AW hne];exact k1,k2⟩
def je.spec{own own':List aj}{o:aj}(h:je own o own')(nd:own.Pairwise (fun x y=>x.b≠y.b)):
  o∈own/\(∀x,x∈own'->x∈own/\x.b≠o.b)/\own'.Pairwise (fun x y=>x.b≠y.b):=by
 induction h with
 |hd o t=>exact⟨aQ,fun x hx=>⟨aZ _ hx,Ne.symm ((bX.1 nd).1 _ hx)⟩,(bX.1 nd).2⟩
 |tl y t t' o h ih=>
  obtain⟨h1,h2,h3⟩:=ih (bX.1 nd).2;refine⟨aZ _ h1,fun x hx=>?_,List.Pairwise.cons (fun x hx=>(bX.1 nd).1 _ (h2 x hx).1) h3⟩;rcases aW.1 hx with rfl|hx
  ·exact⟨aQ,(bX.1 nd).1 _ h1⟩
  ·exact⟨aZ _ (h2 x hx).1,(h2 x hx).2⟩
def bm.freeze{C:aD}{own own':List aj}{G:Gh}{w:World}{b:Nat}{cs:List Value}{ty:TypeId}(h:bm C own G w)(hr:je own ⟨b,cs,ty,true⟩ own'):
  bm C own' (fun k=>if k=b then some cs else G k) w/\bz G (fun k=>if k=b then some cs else G k):=by
 obtain⟨h1,h2,h3⟩:=hr.spec h.nd;obtain⟨hb,hGb,hlo,_⟩:=h.hown _ h1;have hle:bz G (fun k=>if k=b then some cs else G k):=fun k c hk=>by
  have:k≠b:=fun e=>by subst e;rw[show G k=none from hGb] at hk;cases hk
  simp[this,hk]
 refine⟨⟨h.os,h.tape,h.output,h.size,h.keep,?_,h.gle.trans hle,?_,?_,h3,h.dr,h.ext⟩,hle⟩
 ·intro k c hk
  by_cases e:k=b
  ·subst e;simp only[if_true] at hk;cases hk;exact⟨ty,(0,0),hb⟩
  ·simp only[e,if_false] at hk;exact h.sub k c hk
 ·intro k hk
  have h5:C.w0.heap.size<=b:=hlo J;have:k≠b:=by omega
  simp only[this,if_false];exact h.gold k hk
 ·intro o ho
  obtain⟨k1,k2⟩:=h2 o ho;obtain⟨m1,m2,m3⟩:=h.hown o k1;exact⟨m1,by rw[if_neg k2];exact m2,m3⟩
def bm.drop{C:aD}{own own':List aj}{G:Gh}{w:World}(h:bm C own G w)(hs:own'.Sublist own):bm C own' G w:=
 ⟨h.os,h.tape,h.output,h.size,h.keep,h.sub,h.gle,h.gold,fun o ho=>h.hown o (hs.subset ho),h.nd.sublist hs,h.dr,h.ext⟩
def bm.perm{C:aD}{own own':List aj}{G:Gh}{w:World}(h:bm C own G w)(hs:own.Perm own'):bm C own' G w:=
 ⟨h.os,h.tape,h.output,h.size,h.keep,h.sub,h.gle,h.gold,fun o ho=>h.hown o (hs.mem_iff.2 ho),(hs.pairwise_iff (fun h=>Ne.symm h)).1 h.nd,h.dr,h.ext⟩
def bm.drew{C:aD}{own:List aj}{G:Gh}{w:World}(h:bm C own G w):bm C own G {w with drawn:=w.drawn+1}:=
 ⟨h.os,h.tape,h.output,h.size,h.keep,h.sub,h.gle,h.gold,h.hown,h.nd,Nat.le_succ_of_le h.dr,h.ext⟩
def nO(P:Program)(f:FuncId):Prop:= ∃fn,P.funcs[f]? =some fn/\(fn.name== "runtime.NumGoroutine")=false/\fn.body.isNone=false
def jm(M:List aj)(css:List (List Value)):List aj:=(M.zip css).map fun p=>{p.1 with cs:=p.2}
def asB(M:List aj):List aj:=M.map fun o=>{o with lo:=false}
structure Fn (P:Program) (f:FuncId) (vs:List Value) (G:Gh) (K:Value->Gh->Prop):Prop where
 able:nO P f
 run: ∀w,(∀b cs,G b=some cs-> ∃ty fz,w.heap[b]? =some (.cells ⟨cs⟩ ty fz))->
  Calls P f ⟨vs⟩ w fun e w'=> ∃v G',e= .returned v/\bm ⟨w,G,[],[],[],none,fun _=>none⟩ [] G' w'/\K v G'
structure jb (P:Program) (f:FuncId) (vs:List Value) (M:List aj) (G:Gh) (K:Value->List (List Value)->Gh->Prop):Prop where
 able:nO P f
 run: ∀w,bm ⟨w,G,M.map (·.b),[],[],none,fun _=>none⟩ (asB M) G w->
  Calls P f ⟨vs⟩ w fun e w'=> ∃v css G',e= .returned v/\css.length=M.length/\bm ⟨w,G,M.map (·.b),[],[],none,fun _=>none⟩ (jm (asB M) css) G' w'/\K v css G'
def Fn.mono{P:Program}{f:FuncId}{vs:List Value}{G:Gh}{K K':Value->Gh->Prop}(h:Fn P f vs G K)(hk: ∀v G',bz G G'->K v G'->K' v G'):Fn P f vs G K':=
 ⟨h.able,fun w hw=>(h.run w hw).mono fun _ _ ⟨v,G',he,hh,hK⟩=>⟨v,G',he,hh,hk v G' hh.gle hK⟩⟩
def bm.called{C:aD}{own:List aj}{G G':Gh}{w w':World}(h:bm C own G w)(k:bm ⟨w,G,[],[],[],none,fun _=>none⟩ [] G' w'):bm C own G' w':=by
 have same: ∀b o,w.heap[b]? =some o->w'.heap[b]? =some o:=fun b o hb=>by rw[k.keep b (f8 hb) (by simp)];exact hb
 have hsz:w.heap.size<=w'.heap.size:=k.size;refine⟨k.os.trans h.os,k.tape.trans h.tape,k.output.trans h.output,dW h.size hsz,?_,k.sub,h.gle.trans k.gle,?_,?_,h.nd,dW h.dr k.dr,fun p hp=>⟨(h.ext p hp).1,same _ _ (h.ext p hp).2⟩⟩
 ·intro b hb hm;have:=h.size;rw[k.keep b (by show b<w.heap.size;omega) (by simp)];exact h.keep b hb hm
 ·intro b hb;have:=h.size;rw[k.gold b (by show b<w.heap.size;omega)];exact h.gold b hb
 ·intro o ho
  obtain⟨h1,h2,h3⟩:=h.hown o ho;exact⟨same _ _ h1,by rw[k.gold _ (f8 h1)];exact h2,h3⟩
def YM(M:List aj)(css:List (List Value))(h:css.length=M.length):(jm M css).map (·.b)=M.map (·.b):=by
 induction M generalizing css with
 |nil=>simp[jm]
 |cons o M ih=>
  cases css with
  |nil=>simp at h
  |cons c css=>simp only[bT,Nat.add_right_cancel_iff] at h;simpa[jm] using ih css h
def Zi{M:List aj}{css:List (List Value)}{o:aj}(ho:o∈jm M css): ∃c∈css,∃m∈M,o={m with cs:=c}/\{m with cs:=c,lo:=false}∈jm (asB M) css:=by
 induction M generalizing css with
 |nil=>simp[jm] at ho
 |cons x M ih=>
  cases css with
  |nil=>simp[jm] at ho
  |cons c css=>
   simp only[jm,List.zip_cons_cons,bW,aW] at ho;rcases ho with rfl|ho
   ·exact⟨c,aQ,x,aQ,J,by simp[jm,asB]⟩
   ·obtain⟨c',hc',m,hm,e,hh⟩:=ih ho
    refine⟨c',aZ _ hc',m,aZ _ hm,e,?_⟩;simp only[jm,asB,bW,List.zip_cons_cons,aW];exact .inr hh
def bm.lend{C:aD}{M rest:List aj}{G:Gh}{w:World}(h:bm C (M++rest) G w):bm ⟨w,G,M.map (·.b),[],[],none,fun _=>none⟩ (asB M) G w:=by
 refine⟨J,J,J,aL _,fun _ _ _=>J,h.sub,bz.refl _,fun _ _=>J,?_,?_,aL _,fun p hp=>by cases hp⟩
 ·intro o ho
  obtain⟨m,hm,rfl⟩:=bJ.1 ho;obtain⟨h1,h2,_⟩:=h.hown m (cZ _ hm);exact⟨h1,h2,by simp,fun _=>bJ.2 ⟨m,hm,J⟩⟩
 ·have:=(jT.1 h.nd).1
  unfold asB;rw[qS];exact this
def bm.calledM{C:aD}{M rest:List aj}{G G':Gh}{w w':World}{css:List (List Value)}(h:bm C (M++rest) G w)(hl:css.length=M.length)(k:bm ⟨w,G,M.map (·.b),[],[],none,fun _=>none⟩ (jm (asB M) css) G' w'):
  bm C (jm M css++rest) G' w':=by
 have hsz:w.heap.size<=w'.heap.size:=k.size;have hnd:=h.nd;have inM: ∀b,b∈M.map (·.b)-> ∀o∈rest,o.b≠b:=fun b hb o ho e=>by
  obtain⟨m,hm,rfl⟩:=bJ.1 hb;exact(jT.1 hnd).2.2 m hm o ho e.symm
 refine⟨k.os.trans h.os,k.tape.trans h.tape,k.output.trans h.output,dW h.size hsz,?_,k.sub,h.gle.trans k.gle,?_,?_,?_,dW h.dr k.dr,fun p hp=>⟨(h.ext p hp).1,by rw[k.keep _ (f8 (h.ext p hp).2) (h.extM hp)];exact(h.ext p hp).2⟩⟩
 ·intro b hb hm
  have hs:=h.size;have hnM:b∉M.map (·.b):=fun hb'=>by
   obtain⟨m,hmM,rfl⟩:=bJ.1 hb';obtain⟨_,_,h3,h4⟩:=h.hown m (cZ _ hmM)
   cases hlo:m.lo with
   |true=>have:=h3 hlo;omega
   |false=>exact hm (h4 hlo)
  rw[k.keep b (by show b<w.heap.size;omega) hnM];exact h.keep b hb hm
 ·intro b hb;have:=h.size;rw[k.gold b (by show b<w.heap.size;omega)];exact h.gold b hb
 ·intro o ho
  rcases cX.1 ho with ho|ho
  ·obtain⟨c,hc,m,hm,rfl,hmem⟩:=Zi ho
   obtain⟨k1,k2,_⟩:=k.hown _ hmem;obtain⟨_,_,h3⟩:=h.hown m (cZ _ hm);exact⟨k1,k2,h3⟩
  ·obtain⟨h1,h2,h3⟩:=h.hown o (cW _ ho)
   have hnM:o.b∉M.map (·.b):=fun hb=>inM _ hb o ho J;exact⟨by rw[k.keep _ (f8 h1) hnM];exact h1,by rw[k.gold _ (f8 h1)];exact h2,h3⟩
 ·rw[CX,fQ,YM _ _ hl,<-fQ,<-CX];exact hnd
def NP{α:Type}{a b:α}{l:List α}{n:Nat}:(a::l).set (n+1) b=a::l.set n b:=rfl
def vh{α:Type}{a:α}{l:List α}{n:Nat}:(a::l).drop (n+1)=l.drop n:=rfl
abbrev ii:= @inferInstance.{0}
def nb{a b:Nat}(h:Nat.ble a b=true):a<=b:=Nat.le_of_ble_eq_true h
def sR{P:Program}{C:aD}{n:Nat}{fr:Fr}{own:List aj}{G:Gh}{Q:Exit->Act->World->Prop}{id:Nat}{ops:Array Oper}{y:Code}(h:St C n fr own G (dh P ops (Exit.then (y.wp P Q) Q) ops.toList)):St C n fr own G ((Code.seq (Code.region id ops false) y).wp P Q):=bt (dz h)
end Go.Sx
end
section
namespace Go.Sx
open Go
def aE:Value->List Value
 | .agg ⟨l⟩=>l
 |v=>[v]
def mz(v:Value):v.cells=⟨aE v⟩:=by
 cases v<;>first|rfl|(rename_i a;cases a;rfl)
def flat:Value->Bool
 | .agg _=>false
 | .tuple _=>false
 |_=>true
def fy(fr:Fr):List Operand->Option (List Value)
 |[]=>some []
 |x::t=>match av fr x,fy fr t with
  |some v,some l=>some (v::l)
  |_,_=>none
def x6{fr:Fr}{a:Act}(h:jD fr a): ∀{l:List Operand} {vs:List Value},fy fr l=some vs->l.map a.eval=vs
 |[],vs,e=>by simp[fy] at e;subst e;rfl
 |x::t,vs,e=>by
  simp only[fy] at e;split at e
  ·rename_i v l hv hl
   cases e
   simp[bh h hv,x6 h hl]
  ·cases e
section
variable {P:Program} {C:aD} {n:Nat} {fr:Fr} {own own':List aj} {G:Gh} {ops:Array Oper} {Q:Exit->Act->World->Prop} {r:List Oper}
variable {dst:Option Nat} {t t' ty':TypeId} {pos:String} {af:Array Edge} {x y:Operand}
def Ch(P:Program)(C:aD)(n:Nat)(fr:Fr)(own:List aj)(G:Gh)(o:Oper)(Φ:Act->World->Prop):Prop:=
 ∀(a:Act) (w:World) (Q:Exit->Act->World->Prop),gh C n fr own G a w->o.wp P a w Φ Q
def SK{o:Oper}(hg:o.guard=none)(hc:Ch P C n fr own G o (dh P ops Q r)):St C n fr own G (dh P ops Q (o::r)):=by
 intro a w rl;simp only[dh,Region.wanted,hg,if_true];exact hc a w _ rl
variable {Φ:Act->World->Prop} {gd:Option (Nat×Bool)}
def ON{w:World}{ty:TypeId}{v:Value}:(newVar ty v).run P w= .ok ⟨w.heap.size,0,none⟩ (w.alloc (.cells ⟨aE v⟩ ty)):=by
 unfold newVar newRow;rw[mz];rfl
def jh{o:Oper}{v:Value}{w':World}{a:Act}{w:World}{Φ:Act->World->Prop}{Q:Exit->Act->World->Prop}(h:(execOp a.eval o).run P w= .ok (.value v) w')(hk:Φ (a.put o.dst v) w'):o.wp P a w Φ Q:=by
 simp only[Oper.wp,h,Oper.upon];exact hk
def ta{z:Value}[hz:fk P t z](hd:b7 n dst=true)(h: ∀b,St C n (put fr dst (.pointer (some ⟨b,0,none⟩))) (⟨b,aE z,t,true⟩::own) G Φ):
  Ch P C n fr own G ⟨dst, .alloc t,ty',pos,af,gd⟩ Φ:=by
 intro a w Q rl;have h1:(Instr.alloc t true (.tuple #[])).run P w= .ok (.pointer (some ⟨w.heap.size,0,none⟩)) (w.alloc (.cells ⟨aE z⟩ t)):=by
  unfold Instr.alloc;rw[aP (hz.zero w)];show(newVar t z>>=_).run P w=_;rw[aP ON];rfl
 refine jh (cx h1) (h w.heap.size _ _ ?_);exact(rl.heap (rl.h.alloc _ _)).put _ hd
def H8{v:Value}(hx:av fr x=some v)(hd:b7 n dst=true)(h: ∀b,St C n (put fr dst (.pointer (some ⟨b,0,none⟩))) (⟨b,aE v,t,true⟩::own) G Φ):
  Ch P C n fr own G ⟨dst, .box t x,ty',pos,af,gd⟩ Φ:=by
 intro a w Q rl;have h1:(Instr.box t (a.eval x)).run P w= .ok (.pointer (some ⟨w.heap.size,0,none⟩)) (w.alloc (.cells ⟨aE v⟩ t)):=by
  unfold Instr.box;rw[bh rl.fr hx,aP ON];rfl
 refine jh (cx h1) (h w.heap.size _ _ ?_);exact(rl.heap (rl.h.alloc _ _)).put _ hd
def ZO{w:World}{b off:Nat}{cs:List Value}{ty:TypeId}{fz:Nat×Nat}{v:Value}(h:w.heap[b]? =some (.cells ⟨cs⟩ ty fz)):w.setCell ⟨b,off,none⟩ v=fp w b (.cells ⟨cs.set off v⟩ ty fz):=by
 unfold World.setCell fp;congr 1;apply Array.ext_getElem?;intro i;rw[Array.getElem?_modify,dV];by_cases hi:b=i
 ·subst hi
  have:=f8 h;simp only[if_true,h,jJ,this];simp
 ·simp[hi]
def P0{w:World}{b off:Nat}{cs:List Value}{ty:TypeId}{v:Value}(hv:flat v=true)(h:w.heap[b]? =some (.cells ⟨cs⟩ ty (0,0)))(ho:off<cs.length):
  (store ⟨b,off,none⟩ v).run P w= .ok () (fp w b (.cells ⟨cs.set off v⟩ ty (0,0))):=by
 have hc:w.cell? ⟨b,off,none⟩=some cs[off]:=by rw[An h,aX ho]
 have hf:w.frozen? ⟨b,off,none⟩=false:=by simp[World.frozen?,h]
 cases v<;>first|(simp[flat] at hv;done)|(simp only[store,Sem.run,hc,hf,ZO h];rfl)
def X2(w:World)(b:Nat)(o o':Obj):fp (fp w b o) b o'=fp w b o':=by
 simp[fp]
def XS{w:World}{b:Nat}{o:Obj}(h:w.heap[b]? =some o):fp w b o=w:=by
 unfold fp;congr 1;apply Array.ext_getElem?;intro i;rw[dV];by_cases hi:b=i
 ·subst hi
  have hlt:=f8 h;simp only[if_true,hlt];rw[h]
 ·simp[hi]
def vo{b:Nat}{ty:TypeId}: ∀(vs:List Value) (w:World) (off i:Nat) (cs:List Value),(∀v∈vs,flat v=true)->w.heap[b]? =some (.cells ⟨cs⟩ ty (0,0))->off+i+vs.length<=cs.length->
  (storeCells ⟨b,off,none⟩ vs i).run P w= .ok () (fp w b (.cells ⟨ck cs (off+i) vs⟩ ty (0,0)))
 |[],w,off,i,cs,_,h,_=>by
  unfold storeCells ck;rw[XS h];rfl
 |v::vs,w,off,i,cs,hf,h,hl=>by
  unfold storeCells;simp only[bT] at hl;rw[nj,aP (P0 (hf v aQ) h (by omega))];rw[vo vs _ off (i+1) (cs.set (off+i) v) (fun u hu=>hf u (aZ _ hu)) (JB (f8 h)) (by simp;omega)];rw[X2];rfl
def A0{v:Value}{b off k:Nat}{cs:List Value}{ty:TypeId}{lo:Bool}(hx:av fr x=some (.pointer (some ⟨b,off,none⟩)))(hy:av fr y=some v)[hs:jI P t k]
  (hu:eE own b cs ty lo (ck cs off (aE v)) own')(hk:(aE v).length=k)(hl:off+k<=cs.length)(hf:(aE v).all flat=true)(hd:b7 n dst=true)(h:St C n (put fr dst undef) own' G Φ):
  Ch P C n fr own G ⟨dst, .store t x y,ty',pos,af,gd⟩ Φ:=by
 intro a w Q rl;have hb:=(rl.h.hown _ (hu.spec rl.h.nd).1).1;have h1:(Instr.storeAt t (a.eval x) (a.eval y)).run P w= .ok () (fp w b (.cells ⟨ck cs off (aE v)⟩ ty (0,0))):=by
  rw[bh rl.fr hx,bh rl.fr hy];simp only[Instr.storeAt,Instr.sureAddr];show(storeVar t ⟨b,off,none⟩ v).run P w=_;unfold storeVar;rw[aP (hs.siz w),mz];simp only[mN,hk,ne_eq,not_true_eq_false,if_false];have:=vo (P:=P) (aE v) w off 0 cs (by simpa using hf) hb (by omega);simpa using this
 have h2:(execOp a.eval ⟨dst, .store t x y,ty',pos,af,gd⟩).run P w= .ok .skip (fp w b (.cells ⟨ck cs off (aE v)⟩ ty (0,0))):=by
  simp only[execOp];rw[aP h1];rfl
 simp only[Oper.wp,h2,Oper.upon];exact h _ _ ((rl.heap (rl.h.store hu)).put _ hd)
def q9{v:Value}{b off:Nat}{cs:List Value}{ty:TypeId}{lo:Bool}(hx:av fr x=some (.pointer (some ⟨b,off,none⟩)))(hy:av fr y=some v)[hs:gk P t]
  (hu:eE own b cs ty lo (cs.set off v) own')(hl:off<cs.length)(hf:flat v=true)(hd:b7 n dst=true)(h:St C n (put fr dst undef) own' G Φ):
  Ch P C n fr own G ⟨dst, .store t x y,ty',pos,af,gd⟩ Φ:=by
 intro a w Q rl;have hb:=(rl.h.hown _ (hu.spec rl.h.nd).1).1;have hc:v.cells= #[v]:=by cases v<;>first|rfl|(simp[flat] at hf)
 have h1:(Instr.storeAt t (a.eval x) (a.eval y)).run P w= .ok () (fp w b (.cells ⟨cs.set off v⟩ ty (0,0))):=by
  rw[bh rl.fr hx,bh rl.fr hy];simp only[Instr.storeAt,Instr.sureAddr];show(storeVar t ⟨b,off,none⟩ v).run P w=_;unfold storeVar;rw[aP (hs.siz w),hc];simp only[mN,bT,jK,ne_eq,not_true_eq_false,if_false,dK];have:=vo (P:=P) [v] w off 0 cs (by simpa using hf) hb (by simp;omega);simpa[ck] using this
 have h2:(execOp a.eval ⟨dst, .store t x y,ty',pos,af,gd⟩).run P w= .ok .skip (fp w b (.cells ⟨cs.set off v⟩ ty (0,0))):=by
  simp only[execOp];rw[aP h1];rfl
 simp only[Oper.wp,h2,Oper.upon];exact h _ _ ((rl.heap (rl.h.store hu)).put _ hd)
def zj{f:FuncId}(h:nO P f)(args:Array Value)(w:World):(callFunc f args).run P w= .ok (.enter f args) w:=by
 obtain⟨fn,h1,h2,h3⟩:=h;unfold callFunc;show(program>>=_).run P w=_;rw[aP (a:=P) (w':=w) J];simp only[h1,h2,h3];rfl
def CO{f:FuncId}{fo:Operand}{args:Array Operand}{tys:Array TypeId}{vs c1 c2:List Value}{a:Act}{w:World}(h:nO P f)(hf:jD fr a)(ho:av fr fo=some (.func (.func f) ⟨c1⟩ ⟨c2⟩))(hv:fy fr args.toList=some vs):
  (execOp a.eval ⟨dst, .call ⟨.value fo,args,tys⟩,ty',pos,af,gd⟩).run P w= .ok (.enter f ⟨c1++vs++c2⟩) w:=by
 have e:args.map a.eval=⟨vs⟩:=by apply Array.ext';simpa using x6 hf hv
 simp only[execOp,resolve,bh hf ho,e,Deferred.ofValue];show(invoke (.fn (.func f) ⟨c2⟩) (⟨c1⟩++⟨vs⟩)).run P w=_;simp only[invoke];rw[zj h];simp
def IU{f:FuncId}{fo:Operand}{args:Array Operand}{tys:Array TypeId}{vs c1 c2:List Value}{K:Value->Gh->Prop}(ho:av fr fo=some (.func (.func f) ⟨c1⟩ ⟨c2⟩))(hv:fy fr args.toList=some vs)
  (hF:Fn P f (c1++vs++c2) G K)(hd:b7 n dst=true)(h: ∀v (G':Gh),[GE G G']->K v G'->St C n (put fr dst v) own G' Φ):
  Ch P C n fr own G ⟨dst, .call ⟨.value fo,args,tys⟩,ty',pos,af,gd⟩ Φ:=by
 intro a w Q rl;have h2:=CO (P:=P) (dst:=dst) (ty':=ty') (pos:=pos) (af:=af) (gd:=gd) (tys:=tys) (w:=w) hF.able rl.fr ho hv;simp only[Oper.wp,h2,Oper.upon];refine(hF.run w rl.h.sub).mono ?_;rintro e w' ⟨v,G',rfl,hh,hK⟩;exact @h v G' ⟨hh.gle⟩ hK _ _ ((rl.heap (rl.h.called hh)).put _ hd)
def zC{f:FuncId}{fo:Operand}{args:Array Operand}{tys:Array TypeId}{vs:List Value}{K:Value->Gh->Prop}(ho:av fr fo=some (.func (.func f) #[] #[]))(hv:fy fr args.toList=some vs)
  (hF:Fn P f vs G K)(hd:b7 n dst=true)(h: ∀v (G':Gh),[GE G G']->K v G'->St C n (put fr dst v) own G' Φ):
  Ch P C n fr own G ⟨dst, .call ⟨.value fo,args,tys⟩,ty',pos,af,gd⟩ Φ:=
 IU (c1:=[]) (c2:=[]) ho hv (by simpa using hF) hd h
def YX{f:FuncId}{fo:Operand}{args:Array Operand}{tys:Array TypeId}{vs c1 c2:List Value}{M rest:List aj}{K:Value->List (List Value)->Gh->Prop}(ho:av fr fo=some (.func (.func f) ⟨c1⟩ ⟨c2⟩))(hv:fy fr args.toList=some vs)
  (hp:own.Perm (M++rest))(hF:jb P f (c1++vs++c2) M G K)(hd:b7 n dst=true)(h: ∀v css (G':Gh),[GE G G']->css.length=M.length->K v css G'->St C n (put fr dst v) (jm M css++rest) G' Φ):
  Ch P C n fr own G ⟨dst, .call ⟨.value fo,args,tys⟩,ty',pos,af,gd⟩ Φ:=by
 intro a w Q rl;have h2:=CO (P:=P) (dst:=dst) (ty':=ty') (pos:=pos) (af:=af) (gd:=gd) (tys:=tys) (w:=w) hF.able rl.fr ho hv;simp only[Oper.wp,h2,Oper.upon];have hh0:=rl.h.perm hp;refine(hF.run w hh0.lend).mono ?_;rintro e w' ⟨v,css,G',rfl,hl,hh,hK⟩;exact @h v css G' ⟨hh.gle⟩ hl hK _ _ ((rl.heap (hh0.calledM hl hh)).put _ hd)
def BZ{f:FuncId}{fo:Operand}{args:Array Operand}{tys:Array TypeId}{vs:List Value}{M rest:List aj}{K:Value->List (List Value)->Gh->Prop}(ho:av fr fo=some (.func (.func f) #[] #[]))(hv:fy fr args.toList=some vs)
  (hp:own.Perm (M++rest))(hF:jb P f vs M G K)(hd:b7 n dst=true)(h: ∀v css (G':Gh),[GE G G']->css.length=M.length->K v css G'->St C n (put fr dst v) (jm M css++rest) G' Φ):
  Ch P C n fr own G ⟨dst, .call ⟨.value fo,args,tys⟩,ty',pos,af,gd⟩ Φ:=
 YX (c1:=[]) (c2:=[]) ho hv hp (by simpa using hF) hd h
end
section
variable {P:Program} {C:aD} {n:Nat} {fr:Fr} {own own':List aj} {G:Gh}
inductive jk (P:Program) (fr:Fr) (own:List aj):List ResultVar->List Value->Prop
 |nil:jk P fr own [] []
 |tmp {t:Nat} {v:Value} {rs:List ResultVar} {vs:List Value} (h:gj fr t=some v) (k:jk P fr own rs vs):jk P fr own (.tmp t::rs) (v::vs)
 |agg {a b k:Nat} {t ty:TypeId} {cs l:List Value} {lo:Bool} {rs:List ResultVar} {vs:List Value} (h:gj fr a=some (.pointer (some ⟨b,0,none⟩))) (ho:gm own b cs ty lo) (ht:jI P t k) (hl:cv cs 0 k=some l) (h2:jk P fr own rs vs):
   jk P fr own (.cell a t::rs) (.agg ⟨l⟩::vs)
 |sc {a b:Nat} {t ty:TypeId} {cs:List Value} {v:Value} {lo:Bool} {rs:List ResultVar} {vs:List Value} (h:gj fr a=some (.pointer (some ⟨b,0,none⟩))) (ho:gm own b cs ty lo) (ht:gk P t) (hl:cs[0]? =some v) (h2:jk P fr own rs vs):
   jk P fr own (.cell a t::rs) (v::vs)
def vP(a:Act):ResultVar->Sem Value
 | .tmp t=>pure (a.tmps.getD t undef)
 | .cell x t=>do loadVar t (<-asAddr (a.tmps.getD x undef))
def jk.run{rs:List ResultVar}{vs:List Value}(h:jk P fr own rs vs){a:Act}{w:World}(hf:jD fr a)(hh:bm C own G w):
  (rs.mapM (vP a)).run P w= .ok vs w:=by
 induction h with
 |nil=>rfl
 | @tmp t v rs vs h k ih=>
  rw[nR];have e:=hf _ _ h;have e2:a.tmps.getD t undef=v:=by rw[bY,e];rfl
  rw[aP (a:=v) (w':=w) (by simp only[vP,e2];exact run_pure _ _ _),aP ih];rfl
 | @agg x b k t ty cs l lo rs vs h ho ht hl h2 ih=>
  rw[nR];have e:=hf _ _ h;have e2:a.tmps.getD x undef= .pointer (some ⟨b,0,none⟩):=by rw[bY,e];rfl
  rw[aP (a:= .agg ⟨l⟩) (w':=w) (by simp only[vP,e2,asAddr];rw[aP (run_pure _ _ _)];exact H' (hh.hown _ ho.mem).1 hl),aP ih];rfl
 | @sc x b t ty cs v lo rs vs h ho ht hl h2 ih=>
  rw[nR];have e:=hf _ _ h;have e2:a.tmps.getD x undef= .pointer (some ⟨b,0,none⟩):=by rw[bY,e];rfl
  rw[aP (a:=v) (w':=w) (by simp only[vP,e2,asAddr];rw[aP (run_pure _ _ _)];exact Gw (hh.hown _ ho.mem).1 hl),aP ih];rfl
def f9:List Value->Value
 |[v]=>v
 |vs=> .tuple ⟨vs⟩
def q6{fn:Func}{vs:List Value}{a:Act}{w:World}(hr:jk P fr own fn.results.toList vs)(hf:jD fr a)(hh:bm C own G w):(results fn a.tmps).run P w= .ok (f9 vs) w:=by
 have h0:=jk.run (C:=C) (G:=G) hr hf hh;have h1:(fn.results.mapM (vP a)).run P w= .ok (⟨vs⟩:Array Value) w:=by
  rw[<-Array.toArray_toList (xs:=fn.results),List.mapM_toArray,map_eq_pure_bind,aP h0];rfl
 have h2:results fn a.tmps=(do
   let vs<-fn.results.mapM (vP a)
   pure (if h:vs.size=1 then vs[0] else .tuple vs)):=by
  unfold results;congr 1
 rw[h2,aP h1]
 match vs with
 |[]=>rfl
 |[v]=>rfl
 |_::_::_=>rfl
def iI(C:aD)(K:Value->Gh->Prop):Ending->World->Prop:=fun e w'=> ∃v G',e= .returned v/\bm C [] G' w'/\K v G'
def wj(C:aD)(M:List aj)(K:Value->List (List Value)->Gh->Prop):Ending->World->Prop:=fun e w'=> ∃v css G',e= .returned v/\css.length=M.length/\bm C (jm (asB M) css) G' w'/\K v css G'
def fA(C:aD)(P:Program)(fn:Func)(R:Ending->World->Prop):Exit->Act->World->Prop:=fun e a w=>C.mks=[]->bodyPost P fn R e a w
def zD{fn:Func}{K:Value->Gh->Prop}{vs:List Value}(hr:jk P fr own fn.results.toList vs)(hk:K (f9 vs) G):St C n fr own G (fA C P fn (iI C K) .ret):=
 fun a w rl hmk=>⟨rl.df.trans hmk,_,q6 hr rl.fr rl.h,_,G,J,rl.h.drop (jS _),hk⟩
def JS{fn:Func}{K:Value->Gh->Prop}{vs:List Value}(hr:jk P fr own fn.results.toList vs)(hk:K (f9 vs) G):St C n fr own G (fA C P fn (iI C K) .normal):=
 fun a w rl hmk=>⟨rl.df.trans hmk,_,q6 hr rl.fr rl.h,_,G,J,rl.h.drop (jS _),hk⟩
def qp{fn:Func}{M:List aj}{css:List (List Value)}{K:Value->List (List Value)->Gh->Prop}{vs:List Value}(hr:jk P fr own fn.results.toList vs)(hl:css.length=M.length)(own2:List aj)(hp:own.Perm own2)(hs:(jm (asB M) css).Sublist own2)(hk:K (f9 vs) css G):St C n fr own G (fA C P fn (wj C M K) .ret):=
 fun a w rl hmk=>⟨rl.df.trans hmk,_,q6 hr rl.fr rl.h,_,css,G,J,hl,(rl.h.perm hp).drop hs,hk⟩
def l8:Nat->List Value->Fr
 |_,[]=>[]
 |i,v::t=>(i,v)::l8 (i+1) t
def rO: ∀(vs:List Value) (i k:Nat) (v:Value),gj (l8 i vs) k=some v-> ∃j,k=i+j/\vs[j]? =some v
 |[],i,k,v,h=>by cases h
 |u::vs,i,k,v,h=>by
  rw[l8,rC] at h;split at h
  ·subst_vars;cases h;exact⟨0,J,J⟩
  ·obtain⟨j,rfl,hj⟩:=rO vs (i+1) k v h
   exact⟨j+1,by omega,by simpa using hj⟩
def Fn.introR{f:FuncId}{fn:Func}{c:Code}{vs:List Value}{m:Nat}{K:Value->Gh->Prop}(hf:P.funcs[f]? =some fn)(hb:fn.body=some c)(hn:(fn.name== "runtime.NumGoroutine")=false)(hm:fn.ntmps=m)(hlen:Nat.ble vs.length m=true)
  (h: ∀C:aD,C.G0=G->C.mb=[]->C.rd=none->(C.fx=fun _=>none)->St C m (l8 0 vs) [] G (c.wp P (fA C P fn (iI C K)))):Fn P f vs G K:=by
 refine⟨⟨fn,hf,hn,by simp[hb]⟩,fun w hw=>?_⟩;have hlen':vs.length<=m:=by simpa using hlen
 have:=calls_of_wp (P:=P) (f:=f) (args:=⟨vs⟩) (w:=w) (R:=iI ⟨w,G,[],[],[],none,fun _=>none⟩ K) hf hb (wp_mono (h ⟨w,G,[],[],[],none,fun _=>none⟩ J J J J _ w
  ⟨⟨J,J,J,aL _,fun _ _ _=>J,hw,bz.refl _,fun _ _=>J,fun o ho=>(by cases ho), .nil,aL _,fun p hp=>by cases hp⟩,by simp;omega,fun k v hk=>by
   obtain⟨j,rfl,hj⟩:=rO vs 0 k v hk;have hj':=(aS.1 hj).1;rw[iL (by simpa using hj')];simpa using hj,J⟩) fun _ _ _ k=>k J)
 exact this
def Fn.intro{f:FuncId}{fn:Func}{c:Code}{vs:List Value}{m:Nat}{K:Value->Gh->Prop}(hf:P.funcs[f]? =some fn)(hb:fn.body=some c)(hn:(fn.name== "runtime.NumGoroutine")=false)(hm:fn.ntmps=m)(hlen:Nat.ble vs.length m=true)
  (h: ∀C:aD,C.G0=G->C.mb=[]->St C m (l8 0 vs) [] G (c.wp P (fA C P fn (iI C K)))):Fn P f vs G K:=
 Fn.introR hf hb hn hm hlen fun C a b _ _=>h C a b
def jb.introR{f:FuncId}{fn:Func}{c:Code}{vs:List Value}{m:Nat}{M:List aj}{K:Value->List (List Value)->Gh->Prop}(hf:P.funcs[f]? =some fn)(hb:fn.body=some c)(hn:(fn.name== "runtime.NumGoroutine")=false)(hm:fn.ntmps=m)(hlen:Nat.ble vs.length m=true)
  (h: ∀C:aD,C.G0=G->C.mb=M.map (·.b)->C.rd=none->(C.fx=fun _=>none)->St C m (l8 0 vs) (asB M) G (c.wp P (fA C P fn (wj C M K)))):jb P f vs M G K:=by
 refine⟨⟨fn,hf,hn,by simp[hb]⟩,fun w hw=>?_⟩;have hlen':vs.length<=m:=by simpa using hlen
 have:=calls_of_wp (P:=P) (f:=f) (args:=⟨vs⟩) (w:=w) (R:=wj ⟨w,G,M.map (·.b),[],[],none,fun _=>none⟩ M K) hf hb (wp_mono (h ⟨w,G,M.map (·.b),[],[],none,fun _=>none⟩ J J J J _ w
  ⟨hw,by simp;omega,fun k v hk=>by
   obtain⟨j,rfl,hj⟩:=rO vs 0 k v hk;have hj':=(aS.1 hj).1;rw[iL (by simpa using hj')];simpa using hj,J⟩) fun _ _ _ k=>k J)
 exact this
def jb.intro{f:FuncId}{fn:Func}{c:Code}{vs:List Value}{m:Nat}{M:List aj}{K:Value->List (List Value)->Gh->Prop}(hf:P.funcs[f]? =some fn)(hb:fn.body=some c)(hn:(fn.name== "runtime.NumGoroutine")=false)(hm:fn.ntmps=m)(hlen:Nat.ble vs.length m=true)
  (h: ∀C:aD,C.G0=G->C.mb=M.map (·.b)->St C m (l8 0 vs) (asB M) G (c.wp P (fA C P fn (wj C M K)))):jb P f vs M G K:=
 jb.introR hf hb hn hm hlen fun C a b _ _=>h C a b
def pd{Φ:Act->World->Prop}(b:Nat){cs:List Value}{ty:TypeId}(hr:je own ⟨b,cs,ty,true⟩ own')(h: ∀G':Gh,[GE G G']->[rB G' b cs]->St C n fr own' G' Φ):St C n fr own G Φ:=
 fun a w rl=>by
  obtain⟨h1,h2⟩:=rl.h.freeze hr;exact @h _ ⟨h2⟩ ⟨by simp⟩ a w (rl.heap h1)
def JO{Φ:Act->World->Prop}(own':List aj)(hs:own'.Sublist own)(h:St C n fr own' G Φ):St C n fr own G Φ:=
 fun a w rl=>h a w (rl.heap (rl.h.drop hs))
def CM{Φ:Act->World->Prop}(own':List aj)(hs:own.Perm own')(h:St C n fr own' G Φ):St C n fr own G Φ:=
 fun a w rl=>h a w (rl.heap (rl.h.perm hs))
def Pc(C:aD)(n:Nat){X:Type}(F:X->Fr)(O:X->List aj)(I:X->Gh->Prop)(μ:X->Nat)(m:Nat)(G:Gh)(a:Act)(w:World):Prop:=
 ∃x G',bz G G'/\I x G'/\μ x<m/\gh C n (F x) (O x) G' a w
def kj{Q:Exit->Act->World->Prop}{c:Code}{X:Type}(F:X->Fr)(O:X->List aj)(I:X->Gh->Prop)(μ:X->Nat)(x0:X)(hI:I x0 G)(hF:th (F x0) fr)(hO:O x0=own)
  (round: ∀(x:X) (G':Gh),[GE G G']->I x G'->St C n (F x) (O x) G' (c.wp P (Exit.then (Pc C n F O I μ (μ x) G') Q))):St C n fr own G ((Code.loop c).wp P Q):=by
 intro a w rl;subst hO;intro b k cs;have key: ∀m a w,(∃x G',bz G G'/\I x G'/\μ x=m/\gh C n (F x) (O x) G' a w)->
   ∃e a' w',Q e a' w'/\Arrives P (lone (b.at a (.code c:: .inLoop c::k)) cs w) b k cs e a' w':=by
  intro m
  induction m using Nat.strongRecOn with
  |_ m ih=>
   intro a w ⟨x,G',hle,hx,hm,hr⟩;obtain⟨e,a₁,w₁,hq,harr⟩:= @round x G' ⟨hle⟩ hx a w hr b (.inLoop c::k) cs
   cases e with
   |normal=>
    obtain⟨x',G'',hle',hx',hlt,hr'⟩:=hq;obtain⟨e₂,a₂,w₂,hq₂,harr₂⟩:=ih (μ x') (hm▸hlt) a₁ w₁ ⟨x',G'',hle.trans hle',hx',rfl,hr'⟩;exact⟨e₂,a₂,w₂,hq₂, .of_steps (Steps.trans harr (.one step_inLoop)) harr₂⟩
   |exit id=>exact⟨_,a₁,w₁,hq, .pass (x:= .inLoop c) J (fun _ _=> .inl (by simp)) harr⟩
   |goto l=>exact⟨_,a₁,w₁,hq, .pass (x:= .inLoop c) J (fun _ _=> .inl (by simp)) harr⟩
   |ret=>exact⟨_,a₁,w₁,hq, .pass (x:= .inLoop c) J (fun _ _=> .inl (by simp)) harr⟩
   |panic ch=>exact⟨_,a₁,w₁,hq, .pass (x:= .inLoop c) J (fun _ _=> .inl (by simp)) harr⟩
   |outgrown=>exact⟨_,a₁,w₁,hq, .pass (x:= .inLoop c) J (fun _ _=> .inl (by simp)) harr⟩
 obtain⟨e,a',w',q,r⟩:=key (μ x0) a w ⟨x0,G,bz.refl _,hI,rfl,rl.h,rl.sz,fun k v hk=>rl.fr _ _ (hF _ _ hk),rl.df⟩;exact⟨e,a',w',q, .of_steps (.one step_loop) r⟩
def At(C:aD)(n:Nat){X:Type}(F:X->Fr)(O:X->List aj)(I:X->Gh->Prop)(G:Gh)(a:Act)(w:World):Prop:=
 ∃x G',bz G G'/\I x G'/\gh C n (F x) (O x) G' a w
def xh{Q:Exit->Act->World->Prop}{c d:Code}(X:Type)(F:X->Fr)(O:X->List aj)(I:X->Gh->Prop)(h1:St C n fr own G (c.wp P (Exit.then (At C n F O I G) Q)))
  (h2: ∀(x:X) (G':Gh),[GE G G']->I x G'->St C n (F x) (O x) G' (d.wp P Q)):St C n fr own G ((Code.seq c d).wp P Q):=by
 intro a w rl;refine wp_seq (wp_mono (h1 a w rl) ?_);intro e a w h
 cases e with
 |normal=>obtain⟨x,G',hle,hI,hr⟩:=h;exact @h2 x G' ⟨hle⟩ hI a w hr
 |_=>exact h
def o6{X:Type}{F:X->Fr}{O:X->List aj}{I:X->Gh->Prop}{G0:Gh}[hg:GL G0 G](x:X)(hI:I x G)(hF:th (F x) fr)(hO:O x=own):St C n fr own G (At C n F O I G0):=
 fun a w rl=>⟨x,G,hg.le,hI,⟨hO▸rl.h,rl.sz,fun k v hk=>rl.fr _ _ (hF _ _ hk),rl.df⟩⟩
def iG{X:Type}{F:X->Fr}{O:X->List aj}{I:X->Gh->Prop}{μ:X->Nat}{m:Nat}{G0:Gh}[hg:GL G0 G](x:X)(hI:I x G)(hμ:μ x<m)(hF:th (F x) fr)(hO:O x=own):St C n fr own G (Pc C n F O I μ m G0):=
 fun a w rl=>⟨x,G,hg.le,hI,hμ,⟨hO▸rl.h,rl.sz,fun k v hk=>rl.fr _ _ (hF _ _ hk),rl.df⟩⟩
end
def e7(Q:Exit->Act->World->Prop):Exit->Act->World->Prop
 | .panic _,_,_=>False
 |e,a,w=>Q e a w
def e7.imp{Q:Exit->Act->World->Prop}: ∀(e:Exit) (a:Act) (w:World),e7 Q e a w->Q e a w:=fun e a w h=>by
 cases e<;>first|exact h|exact(h:False).elim
section
variable {P:Program} {ops:Array Oper} {Q:Exit->Act->World->Prop} {S:World->Prop} {fin:Nat->Bool}
def si(P:Program)(ops:Array Oper)(Q:Exit->Act->World->Prop)(S:World->Prop)(fin:Nat->Bool):Nat->Array Bool->Act->World->Prop
 |0,listed,a,w=>Region.ready .any ops listed=[]/\Q .normal a w
 |fuel+1,listed,a,w=>
  (Region.ready .any ops listed=[]->Q .normal a w)/\
  ∀i∈Region.ready .any ops listed,wpOp P ops Q i (fun a' w'=>(fin i=true\/S w')/\si P ops Q S fin fuel (listed.setIfInBounds i true) a' w') a w
def Co: ∀(fuel:Nat) (listed:Array Bool) (a:Act) (w:World),si P ops Q S fin fuel listed a w->wpAny P .any ops Q fuel listed a w
 |0,_,_,_,h=>h
 |fuel+1,_,_,_,h=>⟨h.1,fun i hi=>wpOp_mono (fun a' w' h'=>Co fuel _ a' w' h'.2) (h.2 i hi)⟩
def Hw(ops:Array Oper)(fin:Nat->Bool)(i:Nat):Bool:=
 !fin i&&(List.range ops.size).all fun j=>!fin j||((ops[j]?).map fun o=>o.after.any fun e=>Region.binds .any e&&e.on==i).getD true
def Z3{i:Nat}(h:Hw ops fin i=true):fin i=false/\ ∀j oj,ops[j]? =some oj->fin j=true-> ∃e∈oj.after,Region.binds .any e=true/\e.on=i:=by
 simp only[Hw,aN,iZ] at h;refine⟨h.1,fun j oj hoj hf=>?_⟩;have hj:j<ops.size:=(fK.1 hoj).1;have h1:=fJ.1 h.2 j (by simpa using hj);rw[hf,hoj] at h1;simp only[Bool.not_true,jJ,jV,Bool.false_or] at h1;obtain⟨e,he,hb⟩:=Array.any_eq_true'.1 h1;simp only[aN,beq_iff_eq] at hb;exact⟨e,he,hb.1,hb.2⟩
def QY{i:Nat}{oi:Oper}{v:Value}(hi:ops[i]? =some oi)(hsel: ∀(j:Nat) (o:Oper) cs b,ops[j]? =some o->o.op≠ .select cs b)
  (hQ: ∀c a w,Q (.panic c) (a.put oi.dst v) w->Q (.panic c) a w)(hfi:fin i=false)
  (hfin: ∀j oj,ops[j]? =some oj->fin j=true-> ∃e∈oj.after,Region.binds .any e=true/\e.on=i):
  ∀(fuel:Nat) (listed:Array Bool) (a:Act) (w:World),
   (∀j oj,ops[j]? =some oj->j≠i->listed.getD j true=false->(∀e∈oj.after,Region.binds .any e=true->e.on≠i)->oi.apart ops oj=true)->
   i∈Region.ready .any ops listed->YieldsIf P ops S oi v a->S w->
   si P ops Q S fin fuel (listed.setIfInBounds i true) (a.put oi.dst v) w->si P ops Q S fin (fuel+1) listed a w:=by
 intro fuel
 induction fuel with
 |zero=>
  intro listed a w _ hr hy hS H;refine⟨fun h=>(by rw[h] at hr;cases hr),fun j hj=>?_⟩;by_cases hji:j=i
  ·subst hji;exact hy.wpOp hi hS ⟨.inr hS,H⟩
  ·have:=ready_mono hj hji
   rw[H.1] at this
   cases this
 |succ fuel ih=>
  intro listed a w hfree hr hy hS H;refine⟨fun h=>(by rw[h] at hr;cases hr),fun j hj=>?_⟩;by_cases hji:j=i
  ·subst hji;exact hy.wpOp hi hS ⟨.inr hS,H⟩
  ·have h1:=H.2 j (ready_mono hj hji)
   obtain⟨hjun,oj,hoj,hall⟩:=mem_ready.1 hj;have hnot: ∀e∈oj.after,Region.binds .any e=true->e.on≠i:=fun e he hb heq=>by
    have h1:=hall e he hb;have h0:=(mem_ready.1 hr).1;rw[heq] at h1;rcases iW i listed.size with h'|h'
    ·simp[h'] at h0 h1;rw[h0] at h1;cases h1
    ·simp[lR h'] at h1
   have hnf:fin j=false:=by
    cases hf:fin j with
    |false=>rfl
    |true=>obtain⟨e,he,hb,heq⟩:=hfin j oj hoj hf;exact absurd heq (hnot e he hb)
   have h2:=wpOp_putIf hoj (hfree j oj hoj hji hjun hnot) (fun cs b=>hsel i oi cs b hi) (fun cs b=>hsel j oj cs b hoj) hQ hy h1;have hfree': ∀k ok,ops[k]? =some ok->k≠i->(listed.setIfInBounds j true).getD k true=false->
     (∀e∈ok.after,Region.binds .any e=true->e.on≠i)->oi.apart ops ok=true:=fun k ok hk hki hun hno=>by
    refine hfree k ok hk hki ?_ hno;by_cases hjk:j=k
    ·subst hjk;exact hjun
    ·rw[getD_set_ne true hjk] at hun;exact hun
   refine wpOp_mono (fun a' w' h3=>?_) h2;have hS':S w':=h3.2.1.resolve_left (by rw[hnf];simp);refine⟨.inr hS',ih (listed.setIfInBounds j true) a' w' hfree' (ready_mono hr (Ne.symm hji)) h3.1 hS' ?_⟩;rw[Array.setIfInBounds_comm _ _ hji];exact h3.2.2
def Wh{i:Nat}{fuel:Nat}{listed:Array Bool}{a:Act}{w:World}(hr:Region.ready .any ops listed=[i])
  (h:wpOp P ops Q i (fun a' w'=>(fin i=true\/S w')/\si P ops Q S fin fuel (listed.setIfInBounds i true) a' w') a w):si P ops Q S fin (fuel+1) listed a w:=
 ⟨fun h0=>absurd (hr.symm.trans h0) (by simp),fun j hj=>by rw[hr,aU] at hj;subst hj;exact h⟩
def uR(ops:Array Oper)(fin:Nat->Bool)(listed:Array Bool)(i:Nat):Bool:=
 Region.noSelect ops&&Region.free .any ops listed i&&(Region.ready .any ops listed).contains i&&Hw ops fin i
end
class jf (l m:List aj):Prop where s:l.Sublist m
instance jf.refl (l:List aj):jf l l:=⟨List.Sublist.refl l⟩
instance jf.cons (l m:List aj) (o:aj) [h:jf l m]:jf l (o::m):=⟨h.s.cons o⟩
def HS(C:aD)(own:List aj)(G:Gh):World->Prop:=fun w=> ∃G',bz G G'/\bm C own G' w
section
variable {P:Program} {C:aD} {n:Nat} {fr:Fr} {own own0:List aj} {G G0:Gh} {ops:Array Oper} {Q:Exit->Act->World->Prop} {fin:Nat->Bool}
def Z6{id:Nat}(fin:Nat->Bool)(hm:P.follows .mixedOrders=true)
  (h:St C n fr own G (si P ops (e7 Q) (HS C own G) fin ops.size (Array.replicate ops.size false))):St C n fr own G ((Code.region id ops true).wp P Q):=by
 intro a w rl;exact wp_mono (wp_region_any hm (Co _ _ _ _ (h a _ (rl.heap rl.h.drew)))) e7.imp
def lH{b:Bool}{Φ:Act->World->Prop}[hs:jf own0 own][hl:GL G0 G](h:St C n fr own G Φ):St C n fr own G (fun a w=>(b=true\/HS C own0 G0 w)/\Φ a w):=
 fun a w rl=>⟨.inr ⟨G,hl.le,rl.h.drop hs.s⟩,h a w rl⟩
def WS{b:Bool}{S:World->Prop}{Φ:Act->World->Prop}(hb:b=true)(h:St C n fr own G Φ):St C n fr own G (fun a w=>(b=true\/S w)/\Φ a w):=
 fun a w rl=>⟨.inl hb,h a w rl⟩
end
end Go.Sx
end
