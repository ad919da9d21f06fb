import Derived.Calls
import Derived.Orders
import Derived.OrdersHeld
import Derived.Laws.World
import Derived.Below
import Derived.IntWalk
import Derived.KernelRfl
import Derived.Laws.Append
set_option linter.all false
section
namespace Go.Sx
def J{α:Sort _}{a:α}:a=a:=rfl
open Go
def aQ:=@List.mem_cons_self
def aZ:=@List.mem_cons_of_mem
def aX:=@List.getElem?_eq_getElem
def aJ:=@List.length_map
def aK:=@List.getD_eq_getElem?_getD
def aV:=@List.mem_singleton
def aW:=@List.mem_cons
def aU:=@List.length_replicate
def aT:=@Nat.eq_of_beq_eq_true
def aR:=@List.length_append
def aS:=@List.getElem?_eq_some_iff
def aL:=@Bool.and_eq_true
def aM:=@List.mem_of_getElem?
def aN:=@List.length_set
def bQ:=@Nat.le_refl
def bZ:=@Int.toNat_natCast
def bX:=@List.take_of_length_le
def bJ:=@List.mem_map
def bK:=@List.pairwise_cons
def bV:=@List.length_cons
def bW:=@List.mem_append
def bU:=@List.eq_nil_of_length_eq_zero
def bT:=@Nat.zero_le
def bR:=@Nat.mul_le_mul_right
def bS:=@Nat.pow_le_pow_right
def bL:=@List.map_cons
def bM:=@List.mem_append_left
def cZ:=@Array.getD_eq_getD_getElem?
def cX:=@List.drop_eq_getElem_cons
def cJ:=@List.mem_append_right
def cK:=@List.length_take
def cV:=@Nat.mul_comm
def cW:=@Nat.mul_assoc
def cY:=@List.nil_append
def cR:=@List.cons_append
def cS:=@Rat.mul_eq_zero
def cM:=@Rat.le_of_lt
def cN:=@List.mem_flatMap
def dQ:=@Nat.add_mul
def dZ:=@Rat.intCast_mul
def dX:=@List.append_assoc
def dJ:=@Bool.false_eq_true
def dK:=@List.getElem?_append_left
def dV:=@List.map_append
def dW:=@Nat.mod_lt
def dY:=@Rat.intCast_eq_zero_iff
def dT:=@List.foldl_cons
def dR:=@Nat.lt_of_lt_of_le
def dS:=@List.take_length
def eX:=@Nat.mul_add
def eJ:=@List.forall_mem_cons
def eK:=@List.getElem?_eq_none
def eY:=@Nat.le_trans
def fQ:=@Nat.zero_add
def fZ:=@Rat.le_refl
def fX:=@Array.getElem?_setIfInBounds
def fJ:=@Nat.add_zero
def fK:=@List.map_nil
def fV:=@List.take_append_of_le_length
def fW:=@List.all_eq_true
def fY:=@Int.sign_eq_neg_one_of_neg
def fU:=@Nat.mod_eq_of_lt
def fT:=@Int.sign_eq_one_of_pos
def fR:=@Nat.eq_zero_or_pos
def fS:=@List.getElem?_map
def fL:=@List.mem_of_mem_take
def fM:=@Nat.pow_pos
def fN:=@List.take_add_one
def gQ:=@Array.getElem?_eq_some_iff
def gX:=@List.getElem?_append_right
def gJ:=@Nat.pow_add
def gK:=@Nat.mul_le_mul_left
def gV:=@List.getElem_mem
def gW:=@Nat.pow_succ
def gU:=@Nat.lt_of_le_of_lt
def gT:=@Nat.min_eq_left
def gR:=@Array.getElem?_eq_getElem
def gS:=@Nat.succ_mul
def gL:=@List.map_toArray
def gM:=@List.length_nil
def gN:=@List.mem_map_of_mem
def iQ:=@List.drop_of_length_le
def iZ:=@List.getLast_cons_cons
def iX:=@List.getLast_singleton
def iJ:=@Int.fdiv_eq_ediv_of_nonneg
def iK:=@Bool.not_eq_true'
def iV:=@List.take_succ_eq_append_getElem
def iW:=@List.length_drop
def iY:=@Nat.pos_of_ne_zero
def iU:=@List.append_nil
def iT:=@Bool.and_eq_false_iff
def iR:=@Nat.mul_one
def iS:=@Array.length_toList
def iL:=@Bool.or_eq_true
def iM:=@List.drop_length
def iN:=@Nat.lt_or_ge
def jQ:=@List.replicate_succ
def jZ:=@Nat.gcd_comm
def jX:=@Int.natCast_mul
def jJ:=@List.mem_filter
def jK:=@Option.getD_some
def jV:=@Array.getElem?_append_left
def jW:=@List.drop_zero
def jY:=@List.mem_range
def jU:=@Int.natAbs_mul
def jT:=@List.mem_of_mem_drop
def jR:=@List.drop_append_of_le_length
def jS:=@Nat.mul_pos
def jL:=@Int.sign_eq_zero_iff_zero
def jM:=@Option.map_some
def jN:=@Int.natAbs_neg
def kQ:=@Nat.div_eq_of_lt
def kZ:=@List.pairwise_append
def kX:=@Int.natAbs_natCast
def kJ:=@List.nil_sublist
def kK:=@Nat.gcd_dvd_left
def kV:=@List.not_mem_nil
def kW:=@Nat.div_lt_iff_lt_mul
def kY:=@Nat.zero_mul
def kU:=@Nat.div_le_self
def kR:=@Int.natAbs_eq_zero
def kS:=@Nat.gcd_pos_of_pos_left
def kL:=@Nat.mul_lt_mul_of_pos_right
def kN:=@Nat.add_assoc
def lQ:=@List.ext_getElem?
def lZ:=@List.flatten_cons
def lX:=@Nat.add_comm
def lJ:=@Nat.mul_le_mul
def lK:=@Nat.mul_left_comm
def lV:=@Int.ofNat_natAbs_of_nonpos
def lW:=@Int.lt_trichotomy
def lY:=@Nat.gcd_dvd_right
def lU:=@Nat.eq_zero_of_gcd_eq_zero_right
def lT:=@List.flatMap_cons
def lR:=@List.foldl_nil
def lS:=@List.getD_cons_succ
def lL:=@Nat.eq_zero_of_gcd_eq_zero_left
def lM:=@List.take_append_drop
def lN:=@List.perm_append_comm
def mQ:=@List.getElem?_drop
def mZ:=@Nat.add_sub_cancel
def mX:=@List.any_eq_true
def mJ:=@List.append_of_mem
def mK:=@Nat.shiftLeft_eq
def mV:=@List.eq_of_mem_replicate
def mW:=@List.map_take
def mY:=@Nat.shiftLeft_add_eq_or_of_lt
def mU:=@Nat.add_mul_div_left
def mT:=@Nat.blt_eq
def mR:=@Rat.num_eq_zero
def mS:=@Rat.intCast_sub
def mL:=@Array.getElem?_eq_none
def mM:=@Nat.div_div_eq_div_mul
def mN:=@Nat.one_mul
def nQ:=@Rat.neg_num
def nZ:=@List.drop_append
def nX:=@List.filter_cons
def nJ:=@Nat.mul_lt_mul''
def nK:=@Bool.not_eq_true
def nV:=@Nat.gcd_zero_right
def nW:=@Nat.mul_lt_mul_of_lt_of_le
def nY:=@List.set_append_right
def nU:=@List.length_singleton
def nT:=@List.getLast?_eq_getElem?
def nR:=@Nat.add_mul_mod_self_left
def nS:=@Int.natAbs_ediv_le_natAbs
def nL:=@List.pairwise_iff_getElem
def nM:=@Rat.intCast_inj
def nN:=@List.size_toArray
def oQ:=@List.getElem?_set
def oZ:=@Int.natAbs_of_nonneg
def oX:=@List.length_range
def oJ:=@List.length_dropLast
def oK:=@Nat.pow_lt_pow_iff_right
def oV:=@Nat.gcd_pos_of_pos_right
def oW:=@List.take_succ_cons
def oY:=@List.getElem_of_mem
def oU:=@List.mapM_cons
def oT:=@Array.toList_map
def oR:=@List.perm_middle
def oS:=@Int.natCast_emod
def oL:=@Rat.mul_nonneg
def oM:=@Rat.mkRat_eq_div
def oN:=@List.countP_cons
def pQ:=@List.drop_eq_nil_of_le
def pZ:=@Nat.le_of_lt
def pX:=@Nat.beq_refl
def pJ:=@List.getElem_cons_zero
def pK:=@Bool.eq_iff_iff
def pV:=@Rat.intCast_add
def pW:=@Rat.intCast_neg
def pY:=@Array.getElem?_toList
def pU:=@Nat.lt_trichotomy
def pT:=@List.length_filter_lt_length_iff_exists
def pR:=@Nat.pow_mul
def pS:=@Rat.neg_den
def pL:=@List.mem_of_getLast?
def pM:=@List.mem_iff_getElem
def pN:=@Nat.mul_zero
def qQ:=@List.map_set
def qZ:=@Nat.lt_trans
def qX:=@Int.le_of_lt
def qJ:=@Int.natCast_ediv
def qK:=@Nat.le_add_right
def qV:=@List.getElem?_range
def qW:=@Int.toNat_of_nonneg
def qY:=@List.drop_set_of_lt
def qU:=@List.length_pos_iff
def qT:=@Int.sign_trichotomy
def qR:=@List.takeWhile_cons
def qS:=@List.flatMap_append
def qL:=@Array.getElem?_replicate
def qM:=@List.map_drop
def qN:=@Nat.dvd_trans
def rQ:=@Option.map_none
def rZ:=@Nat.div_add_mod
def rX:=@Rat.num_intCast
def rJ:=@Rat.den_intCast
def rK:=@List.getElem?_take
def rW:=@Array.foldl_toList
def rY:=@Nat.mul_right_comm
def rU:=@Int.natCast_dvd_natCast
def rT:=@Nat.mul_div_cancel_left
def rR:=@List.pairwise_map
def rS:=@Nat.sub_self
def rL:=@List.sublist_cons_self
def rM:=@List.getElem?_set_self
def rN:=@Nat.pow_zero
def sQ:=@Rat.intCast_lt_intCast
def sZ:=@List.eq_nil_or_concat
def sX:=@List.concat_eq_append
def sJ:=@List.length_filter_le
def sK:=@Nat.mul_mod_mul_right
def sV:=@Nat.le_div_iff_mul_le
def sW:=@List.dropLast_sublist
def sY:=@Nat.le_of_not_lt
def sU:=@Bool.false_or
def sT:=@Bool.or_false
def sS:=@List.all_cons
def sL:=@Rat.mkRat_one
def sM:=@Bool.or_eq_false_iff
def sN:=@Nat.div_lt_of_lt_mul
def tQ:=@Int.natCast_add
def tZ:=@Int.mul_eq_zero
def tX:=@Array.toList_zipIdx
def tJ:=@List.drop_succ_cons
def tK:=@List.getD_cons_zero
def tV:=@Int.mul_comm
def tW:=@List.drop_drop
def tY:=@Rat.mkRat_self
def tU:=@Nat.gcd_rec
def tT:=@Nat.div_one
abbrev Gh:=Nat->Option (List Value)
def bD(G G':Gh):Prop:= ∀b cs,G b=some cs->G' b=some cs
def bD.refl(G:Gh):bD G G:=fun _ _ h=>h
def bD.trans{a b c:Gh}(h:bD a b)(k:bD b c):bD a c:=fun _ _ x=>k _ _ (h _ _ x)
structure ak where
 b:Nat
 cs:List Value
 ty:TypeId
 lo:Bool
structure aD where
 w0:World
 G0:Gh
 mb:List Nat
 /-- other objects that stay: records of loops, marks -/
 ex:List (Nat×Obj)
 /-- the marks among the deferred calls; the round -/
 mks:List Deferred
 rd:Option Nat
 /-- where names that are fixed lie -/
 fx:Nat->Option Addr
structure bu (C:aD) (own:List ak) (G:Gh) (w:World):Prop where
 os:w.os=C.w0.os
 tape:w.tape=C.w0.tape
 output:w.output=C.w0.output
 size:C.w0.heap.size<=w.heap.size
 keep: ∀b,b<C.w0.heap.size->b∉C.mb->w.heap[b]? =C.w0.heap[b]?
 sub: ∀b cs,G b=some cs-> ∃ty fz,w.heap[b]? =some (.cells ⟨cs⟩ ty fz)
 gle:bD C.G0 G
 gold: ∀b,b<C.w0.heap.size->G b=C.G0 b
 hown: ∀o∈own,w.heap[o.b]? =some (.cells ⟨o.cs⟩ o.ty (0,0))/\G o.b=none/\(o.lo=true->C.w0.heap.size<=o.b)/\(o.lo=false->o.b∈C.mb)
 nd:own.Pairwise (fun x y=>x.b≠y.b)
 dr:C.w0.drawn<=w.drawn
 ext: ∀p∈C.ex,(∀cs ty z,p.2≠ .cells cs ty z)/\w.heap[p.1]? =some p.2
abbrev Fr:=List (Nat×Value)
def io:Fr->Nat->Option Value
 |[],_=>none
 |(k,v)::t,j=>bif Nat.beq k j then some v else io t j
def put(fr:Fr)(dst:Option Nat)(v:Value):Fr:=match dst with|some d=>(d,v)::fr|none=>fr
def l7(fr:Fr)(a:Act):Prop:= ∀k v,io fr k=some v->a.tmps[k]? =some v
structure gu (C:aD) (n:Nat) (fr:Fr) (own:List ak) (G:Gh) (a:Act) (w:World):Prop where
 h:bu C own G w
 sz:a.tmps.size=n
 fr:l7 fr a
 df:a.defers=C.mks
def St(C:aD)(n:Nat)(fr:Fr)(own:List ak)(G:Gh)(Φ:Act->World->Prop):Prop:=
 ∀a w,gu C n fr own G a w->Φ a w
def aw(fr:Fr):Operand->Option Value
 | .tmp k=>io fr k
 | .const v=>some v
 | .global g=>some (.pointer (some ⟨g,0,none⟩))
 | .func f=>some (.func (.func f) #[] #[])
def bm{fr:Fr}{a:Act}(h:l7 fr a){x:Operand}{v:Value}(hx:aw fr x=some v):a.eval x=v:=by
 cases x with
 |tmp k=>
  have:=h k v hx;simp only[Act.eval,cZ,this,jK]
 |const u=>simpa[aw,Act.eval] using hx
 |global g=>simpa[aw,Act.eval] using hx
 |func f=>simpa[aw,Act.eval] using hx
def vS(k:Nat)(v:Value)(t:Fr)(j:Nat):io ((k,v)::t) j=if k=j then some v else io t j:=by
 simp only[io];by_cases h:k=j
 ·simp[h]
 ·have:Nat.beq k j=false:=by
   cases hb:Nat.beq k j with
   |false=>rfl
   |true=>exact absurd (aT hb) h
  simp[this,h]
def cd(n:Nat):Option Nat->Bool
 |some d=>Nat.blt d n
 |none=>true
def l7.put{fr:Fr}{a:Act}{n:Nat}(h:l7 fr a)(hs:a.tmps.size=n){dst:Option Nat}{v:Value}(hd:cd n dst=true):l7 (Sx.put fr dst v) (a.put dst v):=by
 cases dst with
 |none=>exact h
 |some d=>
  intro k u hk;have hdn:d<n:=by simpa[cd,mT] using hd
  simp only[Sx.put,vS] at hk;simp only[Act.put,fX];by_cases hkd:d=k
  ·simp only[hkd,if_true] at hk
   subst hkd;simp[hs,hdn,hk]
  ·simp only[hkd,if_false] at hk
   simp only[hkd,if_false];exact h k u hk
def Q2(a:Act)(dst:Option Nat)(v:Value):(a.put dst v).tmps.size=a.tmps.size:=by cases dst<;>simp[Act.put]
def LU(a:Act)(dst:Option Nat)(v:Value):(a.put dst v).defers=a.defers:=by cases dst<;>simp[Act.put]
def gu.put{C n fr own G a w}(r:gu C n fr own G a w){dst:Option Nat}(v:Value)(hd:cd n dst=true):gu C n (Sx.put fr dst v) own G (a.put dst v) w:=
 ⟨r.h,by rw[Q2];exact r.sz,r.fr.put r.sz hd,by rw[LU];exact r.df⟩
def gu.heap{C n fr own G own' G' a w w'}(r:gu C n fr own G a w)(h:bu C own' G' w'):gu C n fr own' G' a w':=⟨h,r.sz,r.fr,r.df⟩
def dG(P:Program)(ops:Array Oper)(Q:Exit->Act->World->Prop):List Oper->Act->World->Prop
 |[],a,w=>Q .normal a w
 |o::r,a,w=>if Region.wanted o (yielded ops a.tmps) then o.wp P a w (dG P ops Q r) Q else dG P ops Q r (a.put o.dst undef) w
def anh{P:Program}{ops:Array Oper}{Q:Exit->Act->World->Prop}: ∀(l:List Nat) (k:Nat) (a:Act) (w:World),l=(List.range ops.size).drop k->dG P ops Q (ops.toList.drop k) a w->wpOps P ops Q l a w:=by
 intro l
 induction l with
 |nil=>
  intro k a w hl h;have hk:ops.size<=k:=by
   have:=congrArg List.length hl;simp at this;omega
  rw[pQ (by simpa using hk)] at h;exact h
 |cons i t ih=>
  intro k a w hl h;have hk:k<ops.size:=by
   have:=congrArg List.length hl;simp at this;omega
  rw[cX (by simpa using hk)] at hl;obtain⟨hi,ht⟩:=List.cons.inj hl;simp only[List.getElem_range] at hi;subst hi;rw[cX (by simpa using hk)] at h;have ho:ops[i]? =some ops[i]:=gR hk;simp only[wpOps,ho];simp only[dG,Array.getElem_toList] at h;split
  ·rename_i hw
   simp only[hw,if_true] at h;exact .inl (Oper.wp_mono (fun a w h=>ih (i+1) a w ht h) h)
  ·rename_i hw
   simp only[hw] at h;exact ih (i+1) _ w ht h
def apu{P:Program}{id:Nat}{ops:Array Oper}{Q:Exit->Act->World->Prop}{a:Act}{w:World}
  (h:dG P ops Q ops.toList a w):(Code.region id ops false).wp P Q a w:=
 wp_region (anh _ 0 a w (by simp) (by simpa using h))
def Yd(P:Program)(C:aD)(fr:Fr)(own:List ak)(G:Gh)(o:Oper)(v:Value):Prop:=
 ∀a w,l7 fr a->bu C own G w->(execOp a.eval o).run P w= .ok (.value v) w
section
variable {P:Program} {C:aD} {n:Nat} {fr:Fr} {own:List ak} {G:Gh} {ops:Array Oper} {Q:Exit->Act->World->Prop} {r:List Oper}
def s6{o:Oper}{v:Value}(hy:Yd P C fr own G o v)(hg:o.guard=none)(hd:cd n o.dst=true)
  (h:St C n (put fr o.dst v) own G (dG P ops Q r)):St C n fr own G (dG P ops Q (o::r)):=by
 intro a w rl;simp only[dG,Region.wanted,hg,if_true,Oper.wp,hy a w rl.fr rl.h,Oper.upon];exact h _ _ (rl.put v hd)
def DS{a:Act}{j d:Nat}{b:Bool}(hf:l7 fr a)(hj:(ops[j]?).bind (·.dst)=some d)(hl:io fr d=some (.bool b)):yielded ops a.tmps j=some b:=by
 unfold yielded;rw[hj];simp[hf d _ hl]
def aHq{o:Oper}{v:Value}{j d:Nat}{b:Bool}(hg:o.guard=some (j,b))(hj:(ops[j]?).bind (·.dst)=some d)(hl:io fr d=some (.bool b))
  (hy:Yd P C fr own G o v)(hd:cd n o.dst=true)
  (h:St C n (put fr o.dst v) own G (dG P ops Q r)):St C n fr own G (dG P ops Q (o::r)):=by
 intro a w rl;have:Region.wanted o (yielded ops a.tmps)=true:=by simp[Region.wanted,hg,DS rl.fr hj hl]
 simp only[dG,this,if_true,Oper.wp,hy a w rl.fr rl.h,Oper.upon];exact h _ _ (rl.put v hd)
def VL{o:Oper}{j d:Nat}{b c:Bool}(hg:o.guard=some (j,b))(hj:(ops[j]?).bind (·.dst)=some d)(hl:io fr d=some (.bool c))(hbc:(c==b)=false)
  (hd:cd n o.dst=true)(h:St C n (put fr o.dst undef) own G (dG P ops Q r)):St C n fr own G (dG P ops Q (o::r)):=by
 intro a w rl;have:Region.wanted o (yielded ops a.tmps)=false:=by simp[Region.wanted,hg,DS rl.fr hj hl,hbc]
 simp only[dG,this];exact h _ _ (rl.put undef hd)
def zE(h:St C n fr own G (Q .normal)):St C n fr own G (dG P ops Q []):=h
def d7{id:Nat}(h:St C n fr own G (dG P ops Q ops.toList)):St C n fr own G ((Code.region id ops false).wp P Q):=
 fun a w rl=>apu (h a w rl)
def bz{x y:Code}(h:St C n fr own G (x.wp P (Exit.then (y.wp P Q) Q))):St C n fr own G ((Code.seq x y).wp P Q):=
 fun a w rl=>wp_seq (h a w rl)
def zK(h:St C n fr own G (Q .normal)):St C n fr own G (Code.skip.wp P Q):=fun a w rl=>wp_skip (h a w rl)
def di(h:St C n fr own G (Q .ret)):St C n fr own G (Code.ret.wp P Q):=fun a w rl=>wp_ret (h a w rl)
def jC{id:Nat}(h:St C n fr own G (Q (.exit id))):St C n fr own G ((Code.exit id).wp P Q):=fun a w rl=>wp_exit (h a w rl)
def eh{id:Nat}{c:Code}(h:St C n fr own G (c.wp P (Exit.inBlock id Q))):St C n fr own G ((Code.block id c).wp P Q):=
 fun a w rl=>wp_block (h a w rl)
def jB{id:Nat}{Q:Exit->Act->World->Prop}(h:St C n fr own G (Q .normal)):St C n fr own G (Exit.inBlock id Q (.exit id)):=
 fun a w rl=>by simp only[Exit.inBlock,if_true];exact h a w rl
def Th{id j:Nat}{Q:Exit->Act->World->Prop}(hne:Nat.beq j id=false)(h:St C n fr own G (Q (.exit j))):St C n fr own G (Exit.inBlock id Q (.exit j)):=
 fun a w rl=>by
  have:j≠id:=fun e=>by subst e;simp at hne
  simp only[Exit.inBlock,this,if_false];exact h a w rl
def pm{c:Operand}{x y:Code}(hc:aw fr c=some (.bool true))(h:St C n fr own G (x.wp P Q)):St C n fr own G ((Code.cond c x y).wp P Q):=
 fun a w rl=>wp_cond_true (bm rl.fr hc) (h a w rl)
def wl{c:Operand}{x y:Code}(hc:aw fr c=some (.bool false))(h:St C n fr own G (y.wp P Q)):St C n fr own G ((Code.cond c x y).wp P Q):=
 fun a w rl=>wp_cond_false (bm rl.fr hc) (h a w rl)
def f8{p:Prop}{inst:Decidable p}{c:Operand}{x y:Code}(hc:aw fr c=some (.bool (@decide p inst)))(h1:p->St C n fr own G (x.wp P Q))(h2: ¬p->St C n fr own G (y.wp P Q)):
  St C n fr own G ((Code.cond c x y).wp P Q):=
 fun a w rl=>wp_cond_split (bm rl.fr hc) (fun h=>h1 (of_decide_eq_true h) a w rl) (fun h=>h2 (of_decide_eq_false h) a w rl)
def YU{b:Bool}{c:Operand}{x y:Code}(hc:aw fr c=some (.bool b))(h1:b=true->St C n fr own G (x.wp P Q))(h2:b=false->St C n fr own G (y.wp P Q)):
  St C n fr own G ((Code.cond c x y).wp P Q):=
 fun a w rl=>wp_cond_split (bm rl.fr hc) (fun h=>h1 h a w rl) (fun h=>h2 h a w rl)
def aBY{Φ:Act->World->Prop}(d:Nat){b:Bool}(hl:io fr d=some (.bool b))(h1:b=true->St C n ((d, .bool true)::fr) own G Φ)(h2:b=false->St C n ((d, .bool false)::fr) own G Φ):St C n fr own G Φ:=by
 intro a w rl
 cases b with
 |true=>exact h1 J a w ⟨rl.h,rl.sz,fun k v hk=>by
   rw[vS] at hk;split at hk
   ·subst_vars;cases hk;exact rl.fr _ _ hl
   ·exact rl.fr _ _ hk,rl.df⟩
 |false=>exact h2 J a w ⟨rl.h,rl.sz,fun k v hk=>by
   rw[vS] at hk;split at hk
   ·subst_vars;cases hk;exact rl.fr _ _ hl
   ·exact rl.fr _ _ hk,rl.df⟩
def oz{Φ:Act->World->Prop}(d:Nat){p:Prop}{inst:Decidable p}(hl:io fr d=some (.bool (@decide p inst)))(h1:p->St C n ((d, .bool true)::fr) own G Φ)(h2: ¬p->St C n ((d, .bool false)::fr) own G Φ):St C n fr own G Φ:=
 aBY d hl (fun h=>h1 (of_decide_eq_true h)) (fun h=>h2 (of_decide_eq_false h))
def vr(fr' fr:Fr):Prop:= ∀k v,io fr' k=some v->io fr k=some v
def vr.nil:vr [] fr:=fun _ _ h=>by cases h
def vr.cons{fr':Fr}{k:Nat}{v:Value}(h:io fr k=some v)(t:vr fr' fr):vr ((k,v)::fr') fr:=fun j u hj=>by
 rw[vS] at hj;split at hj
 ·subst_vars;cases hj;exact h
 ·exact t _ _ hj
end
class im (own:List ak) (b:Nat) (cs:outParam (List Value)) (ty:outParam TypeId) (lo:outParam Bool):Prop where
 mem:⟨b,cs,ty,lo⟩∈own
instance im.i1 (b:Nat) (cs:List Value) (ty:TypeId) (lo:Bool) (t:List ak):im (⟨b,cs,ty,lo⟩::t) b cs ty lo:=⟨aQ⟩
instance im.i2 (o:ak) (t:List ak) (b:Nat) (cs:List Value) (ty:TypeId) (lo:Bool) [h:im t b cs ty lo]:im (o::t) b cs ty lo:=⟨aZ _ h.mem⟩
inductive fG:List ak->Nat->List Value->TypeId->Bool->List Value->List ak->Prop
 |hd (b:Nat) (cs cs':List Value) (ty:TypeId) (lo:Bool) (t:List ak):fG (⟨b,cs,ty,lo⟩::t) b cs ty lo cs' (⟨b,cs',ty,lo⟩::t)
 |tl (o:ak) (t t':List ak) (b:Nat) (cs cs':List Value) (ty:TypeId) (lo:Bool) (h:fG t b cs ty lo cs' t'):fG (o::t) b cs ty lo cs' (o::t')
inductive jy:List ak->ak->List ak->Prop
 |hd (o:ak) (t:List ak):jy (o::t) o t
 |tl (x:ak) (t t':List ak) (o:ak) (h:jy t o t'):jy (x::t) o (x::t')
class GE (A:outParam Gh) (B:Gh):Prop where le:bD A B
class GL (A B:Gh):Prop where le:bD A B
instance GL.refl (A:Gh):GL A A:=⟨bD.refl A⟩
instance GL.step (A B C:Gh) [h:GE B C] [k:GL A B]:GL A C:=⟨k.le.trans h.le⟩
class yt (G:outParam Gh) (b:Nat) (cs:outParam (List Value)):Prop where h:G b=some cs
def yt.up{A G:Gh}{b:Nat}{cs:List Value}(h:yt A b cs)[k:GL A G]:G b=some cs:=k.le _ _ h.h
def cH:List Value->Nat->Nat->Option (List Value)
 |_,0,0=>some []
 |[],0,_+1=>none
 |v::t,0,k+1=>match cH t 0 k with|some l=>some (v::l)|none=>none
 |[],_+1,_=>none
 |_::t,off+1,k=>cH t off k
def cE:List Value->Nat->List Value->List Value
 |cs,_,[]=>cs
 |cs,off,v::vs=>cE (cs.set off v) (off+1) vs
def qq: ∀(cs:List Value) (off k:Nat) (l:List Value),cH cs off k=some l->l.length=k/\ ∀i,i<k->cs[off+i]? =l[i]?
 |cs,0,0,l,h=>by
  cases cs<;>(simp only[cH] at h;cases h;exact⟨J,fun i hi=>absurd hi (Nat.not_lt_zero _)⟩)
 |[],0,_+1,l,h=>by simp[cH] at h
 |v::t,0,k+1,l,h=>by
  simp only[cH] at h;split at h
  ·rename_i l' hl'
   cases h
   obtain⟨h1,h2⟩:=qq t 0 k l' hl';refine⟨by simp[h1],fun i hi=>?_⟩
   cases i with
   |zero=>rfl
   |succ i=>
    have:=h2 i (by omega);simpa using this
  ·cases h
 |[],_+1,_,l,h=>by simp[cH] at h
 |_::t,off+1,k,l,h=>by
  simp only[cH] at h;obtain⟨h1,h2⟩:=qq t off k l h;refine⟨h1,fun i hi=>?_⟩;have:=h2 i hi;rw[<-this,show off+1+i=(off+i)+1 by omega];rfl
class lA (P:Program) (t:TypeId) (k:outParam Nat):Prop where
 agg: ∀w,(isAgg t).run P w= .ok true w
 siz: ∀w,(sizeOf t).run P w= .ok k w
class gG (P:Program) (t:TypeId):Prop where
 agg: ∀w,(isAgg t).run P w= .ok false w
 siz: ∀w,(sizeOf t).run P w= .ok 1 w
class gh (P:Program) (t:TypeId) (z:outParam Value):Prop where
 inf:(P.info? t).map (·.zero)=some (some z)
class ly (P:Program) (t:TypeId) (f:Nat) (off:outParam Nat):Prop where
 at_: ∀(b o:Nat) w,(Instr.fieldAt t (.pointer (some ⟨b,o,none⟩)) f).run P w= .ok (.pointer (some (Addr.add ⟨b,o,none⟩ off))) w
class cv (P:Program) (t:TypeId) (e s by_:outParam Nat):Prop where
 un:P.underlying t=some (.slice e)
 inf:(P.info? e).map (fun i=>(i.size,i.bytes))=some (s,by_)
def gh.info{P:Program}{t:TypeId}{z:Value}(h:gh P t z): ∃i,P.info? t=some i/\i.zero=some z:=by
 have:=h.inf
 cases hi:P.info? t with
 |none=>rw[hi] at this;cases this
 |some i=>rw[hi] at this;exact⟨i,J,by simpa using this⟩
def cv.info{P:Program}{t e s by_:Nat}(h:cv P t e s by_): ∃i,P.info? e=some i/\i.size=s/\i.bytes=by_:=by
 have:=h.inf
 cases hi:P.info? e with
 |none=>rw[hi] at this;cases this
 |some i=>rw[hi] at this;simp at this;exact⟨i,J,this.1,this.2⟩
def pB(b o n:Nat):Addr.add ⟨b,o,none⟩ n=⟨b,o+n,none⟩:=by
 unfold Addr.add;split
 ·subst_vars;rfl
 ·rfl
def Sem.run_bind{α β:Type}(P:Program)(x:Sem α)(f:α->Sem β): ∀(w:World),(x>>=f).run P w=match x.run P w with| .ok a w'=>(f a).run P w'| .halt h w'=> .halt h w':=by
 show∀w,(Sem.bind x f).run P w=_
 induction x with
 |pure a=>intro w;rfl
 |load m a k ih=>
  intro w;simp only[Sem.bind,Sem.run];split
  ·exact ih _ w
  ·split
   ·exact ih _ w
   ·rfl
 |store m a v k ih=>
  intro w
  cases v<;>simp only[Sem.bind,Sem.run]<;>(try rfl)<;>(split<;>first|(split<;>first|rfl|exact ih _)|rfl)
 |new o k ih=>intro w;exact ih _ _
 |shape r k ih=>intro w;exact ih _ _
 |freeze a n k ih=>intro w;exact ih _
 |frozen a k ih=>intro w;exact ih _ _
 |getObj r k ih=>
  intro w;simp only[Sem.bind,Sem.run];split
  ·rfl
  ·exact ih _ w
  ·rfl
 |setObj r o k ih=>
  intro w;simp only[Sem.bind,Sem.run];split
  ·rfl
  ·exact ih _
  ·rfl
 |choose q k ih=>
  intro w;simp only[Sem.bind,Sem.run];split
  ·exact ih _ _
  ·exact ih _ _
 |sys c k ih=>intro w;exact ih _ _
 |program k ih=>intro w;exact ih _ _
 |mark m k ih=>intro w;exact ih _
 |halt h=>intro w;rfl
def run_pure{α:Type}(P:Program)(a:α)(w:World):(pure a:Sem α).run P w= .ok a w:=rfl
def bc{α β:Type}{P:Program}{x:Sem α}{f:α->Sem β}{w w':World}{a:α}(h:x.run P w= .ok a w'):(x>>=f).run P w=(f a).run P w':=by
 rw[Sem.run_bind,h]
def gh.zero{P:Program}{t:TypeId}{z:Value}(h:gh P t z)(w:World):(zeroValue t).run P w= .ok z w:=by
 obtain⟨i,h1,h2⟩:=h.info;simp[zeroValue,typeInfo,program,Sem.run_bind,Sem.run,h1,h2,run_pure]
def cv.u{P:Program}{t e s by_:Nat}(h:cv P t e s by_)(w:World):(underlying t).run P w= .ok (.slice e) w:=by
 simp[underlying,program,Sem.run_bind,Sem.run,h.un,run_pure]
def cv.siz{P:Program}{t e s by_:Nat}(h:cv P t e s by_)(w:World):(sizeOf e).run P w= .ok s w:=by
 obtain⟨i,h1,h2,_⟩:=h.info;simp[sizeOf,typeInfo,program,Sem.run_bind,Sem.run,h1,h2,run_pure]
section
variable {P:Program} {C:aD} {n:Nat} {fr:Fr} {own:List ak} {G:Gh} {ops:Array Oper} {Q:Exit->Act->World->Prop} {r:List Oper}
def CN{w:World}{b:Nat}{cs:List Value}{ty:TypeId}{fz:Nat×Nat}(h:w.heap[b]? =some (.cells ⟨cs⟩ ty fz))(i:Nat):w.cell? ⟨b,i,none⟩=cs[i]? :=by
 simp[World.cell?,h]
def QD{w:World}{a:Addr}{v:Value}(h:w.cell? a=some v):(load a).run P w= .ok v w:=by
 simp[load,Sem.run,h]
def Km{w:World}{b off:Nat}{l:List Value}: ∀(m i:Nat) (acc:Array Value),(∀j,j<m->w.cell? ⟨b,off+(i+j),none⟩=l[i+j]?)->i+m<=l.length->
  (loadCellsFrom ⟨b,off,none⟩ i m acc).run P w= .ok (acc++((l.drop i).take m).toArray) w
 |0,i,acc,_,_=>by simp[loadCellsFrom,run_pure]
 |m+1,i,acc,h,hl=>by
  have h0:=h 0 (by omega);rw[fJ,aX (by omega)] at h0;unfold loadCellsFrom;rw[bc (a:=l[i]) (w':=w) (by rw[pB];exact QD h0)];rw[Km m (i+1) (acc.push l[i]) (fun j hj=>by have:=h (j+1) (by omega);rw[show i+1+j=i+(j+1) by omega];exact this) (by omega)];congr 1;rw[cX (by omega:i<l.length),oW];apply Array.ext';simp
def J'{w:World}{b off k:Nat}{t:TypeId}{cs l:List Value}[ht:lA P t k]{ty:TypeId}{fz:Nat×Nat}(h:w.heap[b]? =some (.cells ⟨cs⟩ ty fz))(hl:cH cs off k=some l):
  (loadVar t ⟨b,off,none⟩).run P w= .ok (.agg ⟨l⟩) w:=by
 obtain⟨h1,h2⟩:=qq _ _ _ _ hl;unfold loadVar;rw[bc (ht.agg w)];simp only[if_true];rw[bc (ht.siz w)];unfold loadCells;rw[bc (Km (l:=l) k 0 #[] (fun j hj=>by rw[CN h];simpa using h2 j hj) (by omega))];simp[run_pure,<-h1]
def LD{w:World}{b off:Nat}{t:TypeId}{cs:List Value}{v:Value}[ht:gG P t]{ty:TypeId}{fz:Nat×Nat}(h:w.heap[b]? =some (.cells ⟨cs⟩ ty fz))(hl:cs[off]? =some v):
  (loadVar t ⟨b,off,none⟩).run P w= .ok v w:=by
 unfold loadVar;rw[bc (ht.agg w)];simp only[dJ,if_false];exact QD (by rw[CN h];exact hl)
def c6{α:Type}{f:α->Next}{s:Sem α}{w w':World}{a:α}(h:s.run P w= .ok a w'):(do pure (f (<-s)):Sem Next).run P w= .ok (f a) w':=by
 rw[bc h];rfl
def Eo{dst:Option Nat}{t ty':TypeId}{pos:String}{af:Array Edge}{gd:Option (Nat×Bool)}{x:Operand}{b off k:Nat}{cs l:List Value}{lo:Bool}{ty:TypeId}
  (hx:aw fr x=some (.pointer (some ⟨b,off,none⟩)))[ho:im own b cs ty lo][lA P t k](hl:cH cs off k=some l):
  Yd P C fr own G ⟨dst, .load t x,ty',pos,af,gd⟩ (.agg ⟨l⟩):=by
 intro a w hf hh;simp only[execOp,bm hf hx,Instr.loadAt,Instr.sureAddr];exact c6 (J' (hh.hown _ ho.mem).1 hl)
def lE{dst:Option Nat}{t ty':TypeId}{pos:String}{af:Array Edge}{gd:Option (Nat×Bool)}{x:Operand}{b off:Nat}{cs:List Value}{v:Value}{lo:Bool}{ty:TypeId}
  (hx:aw fr x=some (.pointer (some ⟨b,off,none⟩)))[ho:im own b cs ty lo][gG P t](hl:cs[off]? =some v):
  Yd P C fr own G ⟨dst, .load t x,ty',pos,af,gd⟩ v:=by
 intro a w hf hh;simp only[execOp,bm hf hx,Instr.loadAt,Instr.sureAddr];exact c6 (LD (hh.hown _ ho.mem).1 hl)
def Hx{dst:Option Nat}{t ty':TypeId}{pos:String}{af:Array Edge}{gd:Option (Nat×Bool)}{x:Operand}{b off k:Nat}{cs l:List Value}
  (hx:aw fr x=some (.pointer (some ⟨b,off,none⟩)))(hg:G b=some cs)[lA P t k](hl:cH cs off k=some l):
  Yd P C fr own G ⟨dst, .load t x,ty',pos,af,gd⟩ (.agg ⟨l⟩):=by
 intro a w hf hh;obtain⟨ty,fz,hb⟩:=hh.sub _ _ hg;simp only[execOp,bm hf hx,Instr.loadAt,Instr.sureAddr];exact c6 (J' hb hl)
def AB{dst:Option Nat}{t ty':TypeId}{pos:String}{af:Array Edge}{gd:Option (Nat×Bool)}{x:Operand}{b off:Nat}{cs:List Value}{v:Value}
  (hx:aw fr x=some (.pointer (some ⟨b,off,none⟩)))(hg:G b=some cs)[gG P t](hl:cs[off]? =some v):
  Yd P C fr own G ⟨dst, .load t x,ty',pos,af,gd⟩ v:=by
 intro a w hf hh;obtain⟨ty,fz,hb⟩:=hh.sub _ _ hg;simp only[execOp,bm hf hx,Instr.loadAt,Instr.sureAddr];exact c6 (LD hb hl)
variable {dst:Option Nat} {t t' ty':TypeId} {pos:String} {af:Array Edge} {gd:Option (Nat×Bool)} {x y:Operand}
def fD{v:Value}(hx:aw fr x=some v):Yd P C fr own G ⟨dst, .move x,ty',pos,af,gd⟩ v:=by
 intro a w hf hh;simp only[execOp,bm hf hx];rfl
def Ju{v:Value}(hx:aw fr x=some v):Yd P C fr own G ⟨dst, .assign x,ty',pos,af,gd⟩ v:=by
 intro a w hf hh;simp only[execOp,bm hf hx];rfl
def s7{z:Operand}{v:Value}(hc:aw fr z=some (.bool true))(hx:aw fr x=some v):Yd P C fr own G ⟨dst, .pick z x y,ty',pos,af,gd⟩ v:=by
 intro a w hf hh;simp only[execOp,bm hf hc,bm hf hx,asBool];rfl
def mf{z:Operand}{v:Value}(hc:aw fr z=some (.bool false))(hx:aw fr y=some v):Yd P C fr own G ⟨dst, .pick z x y,ty',pos,af,gd⟩ v:=by
 intro a w hf hh;simp only[execOp,bm hf hc,bm hf hx,asBool];rfl
def lw{ad:Addr}(hx:aw fr x=some (.pointer (some ad))):Yd P C fr own G ⟨dst, .nilCheck x,ty',pos,af,gd⟩ (.pointer (some ad)):=by
 intro a w hf hh;simp only[execOp,bm hf hx];rfl
def oF{b o f off:Nat}[hF:ly P t f off](hx:aw fr x=some (.pointer (some ⟨b,o,none⟩))):
  Yd P C fr own G ⟨dst, .fieldAddr t x f,ty',pos,af,gd⟩ (.pointer (some ⟨b,o+off,none⟩)):=by
 intro a w hf hh;simp only[execOp,bm hf hx];have:=hF.at_ b o w;rw[pB] at this;exact c6 this
def H9{vs:Array Value}{i:Nat}{v:Value}(hx:aw fr x=some (.tuple vs))(hv:vs[i]? =some v):Yd P C fr own G ⟨dst, .extract x i,ty',pos,af,gd⟩ v:=by
 intro a w hf hh;simp only[execOp,bm hf hx,Instr.extract,hv];rfl
def BB{fn:Fn}{c1 c2:Array Operand}{l1 l2:List Value}(h1:c1.toList.mapM (aw fr)=some l1)(h2:c2.toList.mapM (aw fr)=some l2):
  Yd P C fr own G ⟨dst, .makeFunc fn c1 c2,ty',pos,af,gd⟩ (.func fn ⟨l1⟩ ⟨l2⟩):=by
 intro a w hf hh;have key: ∀(l:List Operand) (m:List Value),l.mapM (aw fr)=some m->l.map a.eval=m:=by
  intro l
  induction l with
  |nil=>intro m h;simp at h;subst h;rfl
  |cons o t ih=>
   intro m h;rw[oU] at h
   cases ho:aw fr o with
   |none=>simp[ho] at h
   |some u=>
    cases ht:t.mapM (aw fr) with
    |none=>simp[ho,ht] at h
    |some m'=>
     simp[ho,ht] at h;subst h;simp[bm hf ho,ih _ ht]
 have e1:c1.map a.eval=⟨l1⟩:=by apply Array.ext';simpa using key _ _ h1
 have e2:c2.map a.eval=⟨l2⟩:=by apply Array.ext';simpa using key _ _ h2
 simp only[execOp,e1,e2];rfl
def iO{op:BinOp}{k:IntKind}{p q:Int}{v:Value}(hx:aw fr x=some (.int k p))(hy:aw fr y=some (.int k q))(hs: ∀w,(binOp op t (.int k p) (.int k q)).run P w= .ok v w):
  Yd P C fr own G ⟨dst, .binOp op t x y t',ty',pos,af,gd⟩ v:=by
 intro a w hf hh;simp only[execOp,bm hf hx,bm hf hy];have:(eqGuard op t x y (.int k p) (.int k q)).run P w= .ok () w:=by cases op<;>rfl
 exact c6 (by rw[bc this];exact hs w)
def RA(k:IntKind)(p q:Int)(w:World):(binOp .add t (.int k p) (.int k q)).run P w= .ok (.int k (k.wrap (p+q))) w:=by simp[binOp,Op.intArith,run_pure]
def Ps(k:IntKind)(p q:Int)(w:World):(binOp .sub t (.int k p) (.int k q)).run P w= .ok (.int k (k.wrap (p-q))) w:=by simp[binOp,Op.intArith,run_pure]
def XV(k:IntKind)(p q:Int)(w:World):(binOp .mul t (.int k p) (.int k q)).run P w= .ok (.int k (k.wrap (p*q))) w:=by simp[binOp,Op.intArith,run_pure]
def aui(k:IntKind)(p q:Int)(w:World)(h:q≠0):(binOp .quo t (.int k p) (.int k q)).run P w= .ok (.int k (k.wrap (p.tdiv q))) w:=by simp[binOp,Op.intDiv,run_pure,h]
def auw(k:IntKind)(p q:Int)(w:World)(h:q≠0):(binOp .rem t (.int k p) (.int k q)).run P w= .ok (.int k (p.tmod q)) w:=by simp[binOp,Op.intDiv,run_pure,h]
def au9(k:IntKind)(p q:Int)(w:World):(binOp .lss t (.int k p) (.int k q)).run P w= .ok (.bool (decide (p<q))) w:=by simp[binOp,Op.intCmp,run_pure]
def ZS(k:IntKind)(p q:Int)(w:World):(binOp .leq t (.int k p) (.int k q)).run P w= .ok (.bool (decide (p<=q))) w:=by simp[binOp,Op.intCmp,run_pure]
def Y0(k:IntKind)(p q:Int)(w:World):(binOp .gtr t (.int k p) (.int k q)).run P w= .ok (.bool (decide (q<p))) w:=by simp[binOp,Op.intCmp,run_pure]
def Vc(k:IntKind)(p q:Int)(w:World):(binOp .geq t (.int k p) (.int k q)).run P w= .ok (.bool (decide (q<=p))) w:=by simp[binOp,Op.intCmp,run_pure]
def Vi(k:IntKind)(p q:Int)(w:World):(binOp .eql t (.int k p) (.int k q)).run P w= .ok (.bool (decide (p=q))) w:=by
 have:(p==q)=decide (p=q):=by rw[pK];simp
 simp[binOp,Op.intCmp,run_pure,this]
def VO(k:IntKind)(p q:Int)(w:World):(binOp .neq t (.int k p) (.int k q)).run P w= .ok (.bool (decide (p≠q))) w:=by
 have:(p !=q)=decide (p≠q):=by rw[pK];simp
 simp[binOp,Op.intCmp,run_pure,this]
def ul{k:IntKind}{p:Int}(h:k.min<=p/\p<=k.max):k.wrap p=p:=by
 cases k<;>simp only[IntKind.min,IntKind.max,IntKind.wrap,IntKind.bits,IntKind.signed] at* <;>simp at h⊢ <;>(try split)<;>omega
def KJ{k:IntKind}{p q:Int}(hx:aw fr x=some (.int k p))(hy:aw fr y=some (.int k q))(h:k.min<=p+q/\p+q<=k.max):Yd P C fr own G ⟨dst, .binOp .add t x y t',ty',pos,af,gd⟩ (.int k (p+q)):=
 iO hx hy fun w=>by rw[RA,ul h]
def Hh{k:IntKind}{p q:Int}(hx:aw fr x=some (.int k p))(hy:aw fr y=some (.int k q))(h:k.min<=p-q/\p-q<=k.max):Yd P C fr own G ⟨dst, .binOp .sub t x y t',ty',pos,af,gd⟩ (.int k (p-q)):=
 iO hx hy fun w=>by rw[Ps,ul h]
def Jh{k:IntKind}{p q:Int}(hx:aw fr x=some (.int k p))(hy:aw fr y=some (.int k q))(h:k.min<=p*q/\p*q<=k.max):Yd P C fr own G ⟨dst, .binOp .mul t x y t',ty',pos,af,gd⟩ (.int k (p*q)):=
 iO hx hy fun w=>by rw[XV,ul h]
def aA4{k:IntKind}{p q:Int}(hx:aw fr x=some (.int k p))(hy:aw fr y=some (.int k q)):Yd P C fr own G ⟨dst, .binOp .add t x y t',ty',pos,af,gd⟩ (.int k (k.wrap (p+q))):=iO hx hy fun w=>RA k p q w
def xl{k:IntKind}{p q:Int}(hx:aw fr x=some (.int k p))(hy:aw fr y=some (.int k q)):Yd P C fr own G ⟨dst, .binOp .sub t x y t',ty',pos,af,gd⟩ (.int k (k.wrap (p-q))):=iO hx hy fun w=>Ps k p q w
def OF{k:IntKind}{p q:Int}(hx:aw fr x=some (.int k p))(hy:aw fr y=some (.int k q))(h:q≠0):Yd P C fr own G ⟨dst, .binOp .quo t x y t',ty',pos,af,gd⟩ (.int k (k.wrap (p.tdiv q))):=iO hx hy fun w=>aui k p q w h
def QB{k:IntKind}{p q:Int}(hx:aw fr x=some (.int k p))(hy:aw fr y=some (.int k q))(h:q≠0):Yd P C fr own G ⟨dst, .binOp .rem t x y t',ty',pos,af,gd⟩ (.int k (p.tmod q)):=iO hx hy fun w=>auw k p q w h
def jo{k:IntKind}{p q:Int}(hx:aw fr x=some (.int k p))(hy:aw fr y=some (.int k q)):Yd P C fr own G ⟨dst, .binOp .lss t x y t',ty',pos,af,gd⟩ (.bool (decide (p<q))):=iO hx hy fun w=>au9 k p q w
def Xd{k:IntKind}{p q:Int}(hx:aw fr x=some (.int k p))(hy:aw fr y=some (.int k q)):Yd P C fr own G ⟨dst, .binOp .leq t x y t',ty',pos,af,gd⟩ (.bool (decide (p<=q))):=iO hx hy fun w=>ZS k p q w
def tA{k:IntKind}{p q:Int}(hx:aw fr x=some (.int k p))(hy:aw fr y=some (.int k q)):Yd P C fr own G ⟨dst, .binOp .gtr t x y t',ty',pos,af,gd⟩ (.bool (decide (q<p))):=iO hx hy fun w=>Y0 k p q w
def uC{k:IntKind}{p q:Int}(hx:aw fr x=some (.int k p))(hy:aw fr y=some (.int k q)):Yd P C fr own G ⟨dst, .binOp .geq t x y t',ty',pos,af,gd⟩ (.bool (decide (q<=p))):=iO hx hy fun w=>Vc k p q w
def i7{k:IntKind}{p q:Int}(hx:aw fr x=some (.int k p))(hy:aw fr y=some (.int k q)):Yd P C fr own G ⟨dst, .binOp .eql t x y t',ty',pos,af,gd⟩ (.bool (decide (p=q))):=iO hx hy fun w=>Vi k p q w
def vh{k:IntKind}{p q:Int}(hx:aw fr x=some (.int k p))(hy:aw fr y=some (.int k q)):Yd P C fr own G ⟨dst, .binOp .neq t x y t',ty',pos,af,gd⟩ (.bool (decide (p≠q))):=iO hx hy fun w=>VO k p q w
variable {e s by_:Nat}
def o8[hT:cv P t e s by_]{ad:Option Addr}{len cap:Nat}(hx:aw fr x=some (.slice ad len cap)):
  Yd P C fr own G ⟨dst, .call ⟨.builtin .len, #[x], #[t]⟩,ty',pos,af,gd⟩ (.int .i64 len):=by
 intro a w hf hh;simp only[execOp,resolve,gL,bL,fK,bm hf hx];have h1:(Builtin.len_ #[t] ty' #[.slice ad len cap]).run P w= .ok (.int .i64 len) w:=by
  simp only[Builtin.len_];show(underlying t>>=_).run P w=_;rw[bc (hT.u w)];rfl
 exact c6 h1
def Cd[hT:cv P t e s by_]{k:IntKind}{b off len cap:Nat}{i:Int}(hx:aw fr x=some (.slice (some ⟨b,off,none⟩) len cap))(hy:aw fr y=some (.int k i))(h0:0<=i)(h1:i<len):
  Yd P C fr own G ⟨dst, .indexAddr t x y,ty',pos,af,gd⟩ (.pointer (some ⟨b,off+i.toNat*s,none⟩)):=by
 intro a w hf hh;simp only[execOp,bm hf hx,bm hf hy];have:(Instr.indexAt t (.slice (some ⟨b,off,none⟩) len cap) (.int k i)).run P w= .ok (.pointer (some ⟨b,off+i.toNat*s,none⟩)) w:=by
  unfold Instr.indexAt;show(underlying t>>=_).run P w=_;rw[bc (hT.u w)];show(underlying t>>=_).run P w=_;rw[bc (hT.u w)];simp only[h0,h1,and_self,if_true];show(sizeOf e>>=_).run P w=_;rw[bc (hT.siz w),pB];rfl
 exact c6 this
def AU{k:IntKind}{v:Int}{m:Nat}{c:BoundsCode}(w:World)(h0:0<=v)(h1:v<=m):(Instr.sliceBound (.int k v) m c).run P w= .ok v.toNat w:=by
 unfold Instr.sliceBound;simp[asIntOf,h0,h1,run_pure]
def nn(ad:Option Addr)(len cap lo hi mx s:Nat):Value:= .slice (if mx=lo then ad else ad.map (·.add (lo*s))) (hi-lo) (mx-lo)
def Bv[hT:cv P t e s by_]{ad:Option Addr}{len cap:Nat}(w:World){lo hi mx:Option Value}{l h m:Nat}(hb: ∀w,(Instr.sliceBounds true len cap lo hi mx).run P w= .ok (l,h,m) w):
  (Instr.sliceAt t (.slice ad len cap) lo hi mx).run P w= .ok (nn ad len cap l h m s) w:=by
 unfold Instr.sliceAt;rw[bc (hT.u w)];show(Instr.slice t (.slice ad len cap) lo hi mx).run P w=_;unfold Instr.slice;rw[bc (hT.u w)];show(Instr.sliceBounds true len cap lo hi mx>>=_).run P w=_;rw[bc (hb w)];show(sizeOf e>>=_).run P w=_;rw[bc (hT.siz w)];rfl
def Bo[hT:cv P t e s by_]{k:IntKind}{ad:Option Addr}{len cap:Nat}{h:Int}(hx:aw fr x=some (.slice ad len cap))(hy:aw fr y=some (.int k h))(h0:0<=h)(h1:h<=cap):
  Yd P C fr own G ⟨dst, .slice t x none (some y) none,ty',pos,af,gd⟩ (.slice ad h.toNat cap):=by
 intro a w hf hh;simp only[execOp,bm hf hx,bm hf hy,rQ,jM];have:=Bv (P:=P) (t:=t) (ad:=ad) (len:=len) (cap:=cap) w (lo:=none) (hi:=some (.int k h)) (mx:=none) (l:=0) (h:=h.toNat) (m:=cap) (fun w=>by
  simp[Instr.sliceBounds,AU w h0 h1,Result.andThen])
 have e2:nn ad len cap 0 h.toNat cap s= .slice ad h.toNat cap:=by
  unfold nn
  cases ad with
  |none=>simp
  |some ad=>simp[Addr.add]
 rw[<-e2];exact c6 this
def D0[hT:cv P t e s by_]{k:IntKind}{ad:Option Addr}{len cap:Nat}{l:Int}(hx:aw fr x=some (.slice ad len cap))(hy:aw fr y=some (.int k l))(h0:0<=l)(h1:l<=len):
  Yd P C fr own G ⟨dst, .slice t x (some y) none none,ty',pos,af,gd⟩ (nn ad len cap l.toNat len cap s):=by
 intro a w hf hh;simp only[execOp,bm hf hx,bm hf hy,rQ,jM];exact c6 (Bv (P:=P) (t:=t) (ad:=ad) (len:=len) (cap:=cap) w (lo:=some (.int k l)) (hi:=none) (mx:=none) (fun w=>by
  simp[Instr.sliceBounds,AU w h0 h1,Result.andThen]))
def al3[hT:cv P t e s by_]{k k':IntKind}{ad:Option Addr}{len cap:Nat}{l h:Int}{z:Operand}(hx:aw fr x=some (.slice ad len cap))(hy:aw fr y=some (.int k l))(hz:aw fr z=some (.int k' h))(h0:0<=l)(h1:l<=h)(h2:h<=cap):
  Yd P C fr own G ⟨dst, .slice t x (some y) (some z) none,ty',pos,af,gd⟩ (nn ad len cap l.toNat h.toNat cap s):=by
 intro a w hf hh;simp only[execOp,bm hf hx,bm hf hy,bm hf hz,rQ,jM];exact c6 (Bv (P:=P) (t:=t) (ad:=ad) (len:=len) (cap:=cap) w (lo:=some (.int k l)) (hi:=some (.int k' h)) (mx:=none) (fun w=>by
  have h1':l<=(h.toNat:Int):=by omega
  simp[Instr.sliceBounds,AU w (Int.le_trans h0 h1) h2,AU w h0 h1',Result.andThen]))
def ZX[hT:cv P t e s by_]{k k':IntKind}{ad:Option Addr}{len cap:Nat}{h m:Int}{z:Operand}(hx:aw fr x=some (.slice ad len cap))(hy:aw fr y=some (.int k h))(hz:aw fr z=some (.int k' m))(h0:0<=h)(h1:h<=m)(h2:m<=cap):
  Yd P C fr own G ⟨dst, .slice t x none (some y) (some z),ty',pos,af,gd⟩ (.slice ad h.toNat m.toNat):=by
 intro a w hf hh;simp only[execOp,bm hf hx,bm hf hy,bm hf hz,rQ,jM];have:=Bv (P:=P) (t:=t) (ad:=ad) (len:=len) (cap:=cap) w (lo:=none) (hi:=some (.int k h)) (mx:=some (.int k' m)) (l:=0) (h:=h.toNat) (m:=m.toNat) (fun w=>by
  have h1':h<=(m.toNat:Int):=by omega
  simp[Instr.sliceBounds,AU w (Int.le_trans h0 h1) h2,AU w h0 h1',Result.andThen])
 have e2:nn ad len cap 0 h.toNat m.toNat s= .slice ad h.toNat m.toNat:=by
  unfold nn
  cases ad with
  |none=>simp
  |some ad=>simp[Addr.add]
 rw[<-e2];exact c6 this
class nk (P:Program) (t:TypeId) (k:outParam IntKind):Prop where u: ∀w,(underlying t).run P w= .ok (.int k) w
def Eb{k k':IntKind}{p:Int}[hs:nk P t k][hd:nk P t' k'](hx:aw fr x=some (.int k p)):Yd P C fr own G ⟨dst, .convert t t' x,ty',pos,af,gd⟩ (.int k' (k'.wrap p)):=by
 intro a w hf hh;simp only[execOp,bm hf hx];have:(convert t t' (.int k p)).run P w= .ok (.int k' (k'.wrap p)) w:=by
  unfold convert;rw[bc (hs.u w),bc (hd.u w)];rfl
 exact c6 this
def J1{k k':IntKind}{p:Int}[hs:nk P t k][hd:nk P t' k'](hx:aw fr x=some (.int k p))(h:k'.min<=p/\p<=k'.max):Yd P C fr own G ⟨dst, .convert t t' x,ty',pos,af,gd⟩ (.int k' p):=by
 have:=Eb (P:=P) (C:=C) (own:=own) (G:=G) (dst:=dst) (ty':=ty') (pos:=pos) (af:=af) (gd:=gd) (t:=t) (t':=t') hx;rwa [ul h] at this
def GS{b:Bool}(hx:aw fr x=some (.bool b)):Yd P C fr own G ⟨dst, .unOp .not t x,ty',pos,af,gd⟩ (.bool (!b)):=by
 intro a w hf hh;simp only[execOp,bm hf hx,Op.unary];rfl
def KA{k:IntKind}{p:Int}(hx:aw fr x=some (.int k p)):Yd P C fr own G ⟨dst, .unOp .neg t x,ty',pos,af,gd⟩ (.int k (k.wrap (0-p))):=by
 intro a w hf hh;simp only[execOp,bm hf hx,Op.unary,Op.intArith];rfl
end
def ik{w:World}{b:Nat}{o:Obj}(h:w.heap[b]? =some o):b<w.heap.size:=by
 rcases iN b w.heap.size with h'|h'
 ·exact h'
 ·simp[mL h'] at h
def bu.gnone{C:aD}{own:List ak}{G:Gh}{w:World}(h:bu C own G w){b:Nat}(hb:w.heap.size<=b):G b=none:=by
 cases hG:G b with
 |none=>rfl
 |some cs=>
  obtain⟨ty,fz,hc⟩:=h.sub b cs hG;have:=ik hc;omega
def bu.alloc{C:aD}{own:List ak}{G:Gh}{w:World}(h:bu C own G w)(cs:List Value)(ty:TypeId):
  bu C (⟨w.heap.size,cs,ty,true⟩::own) G (w.alloc (.cells ⟨cs⟩ ty)):=by
 have old: ∀b,b<w.heap.size->(w.alloc (.cells ⟨cs⟩ ty)).heap[b]? =w.heap[b]? :=fun b hb=>RowKit.Below.heap_alloc _ _ _ hb;refine⟨h.os,h.tape,h.output,?_,?_,?_,h.gle,h.gold,?_,?_,h.dr,fun p hp=>⟨(h.ext p hp).1,by rw[old _ (ik (h.ext p hp).2)];exact(h.ext p hp).2⟩⟩
 ·have:=h.size;simp;omega
 ·intro b hb hm;rw[old b (by have:=h.size;omega)];exact h.keep b hb hm
 ·intro b cs' hb
  obtain⟨ty',fz,hc⟩:=h.sub b cs' hb;exact⟨ty',fz,by rw[old b (ik hc)];exact hc⟩
 ·intro o ho
  rcases aW.1 ho with rfl|ho
  ·refine⟨by show(w.heap.push _)[w.heap.size]? =_;simp,h.gnone (bQ _),fun _=>h.size,fun e=>by cases e⟩
  ·obtain⟨h1,h2⟩:=h.hown o ho
   exact⟨by rw[old _ (ik h1)];exact h1,h2⟩
 ·refine List.Pairwise.cons ?_ h.nd
  intro o ho;have:=ik (h.hown o ho).1;show w.heap.size≠o.b;omega
def gk(w:World)(b:Nat)(o:Obj):World:={w with heap:=w.heap.setIfInBounds b o}
def Ea{l:List ak}:l.Pairwise (fun x y=>x.b≠y.b)↔(l.map (·.b)).Pairwise (· ≠ ·):=by rw[rR]
def fG.spec{own own':List ak}{b:Nat}{cs cs':List Value}{ty:TypeId}{lo:Bool}(h:fG own b cs ty lo cs' own')(nd:own.Pairwise (fun x y=>x.b≠y.b)):
  ⟨b,cs,ty,lo⟩∈own/\(∀o,o∈own'->o=⟨b,cs',ty,lo⟩\/(o∈own/\o.b≠b))/\own'.map (·.b)=own.map (·.b):=by
 induction h with
 |hd b cs cs' ty lo t=>
  refine⟨aQ,fun o ho=>?_,J⟩;rcases aW.1 ho with rfl|h
  ·exact .inl J
  ·exact .inr ⟨aZ _ h,Ne.symm ((bK.1 nd).1 _ h)⟩
 |tl o t t' b cs cs' ty lo h ih=>
  obtain⟨h1,h2,h3⟩:=ih (bK.1 nd).2;refine⟨aZ _ h1,fun x hx=>?_,by simp[h3]⟩;rcases aW.1 hx with rfl|hx
  ·exact .inr ⟨aQ,(bK.1 nd).1 _ h1⟩
  ·exact(h2 x hx).imp id (fun k=>⟨aZ _ k.1,k.2⟩)
def Fa{w:World}{b k:Nat}{o:Obj}(hk:k≠b):(gk w b o).heap[k]? =w.heap[k]? :=by
 simp only[gk];rw[fX];simp[Ne.symm hk]
def QI{w:World}{b:Nat}{o:Obj}(hb:b<w.heap.size):(gk w b o).heap[b]? =some o:=by
 simp only[gk];rw[fX];simp[hb]
def bu.extNe{C:aD}{own:List ak}{G:Gh}{w:World}(h:bu C own G w){p:Nat×Obj}(hp:p∈C.ex){b:Nat}{cs:Array Value}{ty:TypeId}{z:Nat×Nat}(hb:w.heap[b]? =some (.cells cs ty z)):p.1≠b:=fun e=>by
 obtain⟨h1,h2⟩:=h.ext p hp;rw[e,hb] at h2;exact h1 _ _ _ (Option.some.inj h2).symm
def bu.extM{C:aD}{M rest:List ak}{G:Gh}{w:World}(h:bu C (M++rest) G w){p:Nat×Obj}(hp:p∈C.ex):p.1∉M.map (·.b):=fun hm=>by
 obtain⟨m,hm,e⟩:=bJ.1 hm;exact h.extNe hp (h.hown m (bM _ hm)).1 e.symm
def bu.store{C:aD}{own own':List ak}{G:Gh}{w:World}{b:Nat}{cs cs':List Value}{ty:TypeId}{lo:Bool}(h:bu C own G w)(hu:fG own b cs ty lo cs' own'):
  bu C own' G (gk w b (.cells ⟨cs'⟩ ty (0,0))):=by
 obtain⟨h1,h2,h3⟩:=hu.spec h.nd;obtain⟨hb,hGb,hlo1,hlo2⟩:=h.hown _ h1;have hlt:=ik hb;refine⟨h.os,h.tape,h.output,by simpa[gk] using h.size,?_,?_,h.gle,h.gold,?_,Ea.2 (h3▸Ea.1 h.nd),h.dr,fun p hp=>⟨(h.ext p hp).1,by rw[Fa (h.extNe hp hb)];exact(h.ext p hp).2⟩⟩
 ·intro k hk hm
  by_cases hkb:k=b
  ·subst hkb
   cases hlo:lo with
   |true=>have h5:=hlo1 hlo;simp only[] at h5;omega
   |false=>exact absurd (hlo2 hlo) hm
  ·rw[Fa hkb];exact h.keep k hk hm
 ·intro k cs1 hk
  obtain⟨ty',fz,hc⟩:=h.sub k cs1 hk;have:k≠b:=fun e=>by subst e;rw[show G k=none from hGb] at hk;cases hk
  exact⟨ty',fz,by rw[Fa this];exact hc⟩
 ·intro o ho
  rcases h2 o ho with rfl|⟨ho',hne⟩
  ·exact⟨QI hlt,hGb,hlo1,hlo2⟩
  ·obtain⟨k1,k2⟩:=h.hown o ho'
   exact⟨by rw[Fa hne];exact k1,k2⟩
def jy.spec{own own':List ak}{o:ak}(h:jy own o own')(nd:own.Pairwise (fun x y=>x.b≠y.b)):
  o∈own/\(∀x,x∈own'->x∈own/\x.b≠o.b)/\own'.Pairwise (fun x y=>x.b≠y.b):=by
 induction h with
 |hd o t=>exact⟨aQ,fun x hx=>⟨aZ _ hx,Ne.symm ((bK.1 nd).1 _ hx)⟩,(bK.1 nd).2⟩
 |tl y t t' o h ih=>
  obtain⟨h1,h2,h3⟩:=ih (bK.1 nd).2;refine⟨aZ _ h1,fun x hx=>?_,List.Pairwise.cons (fun x hx=>(bK.1 nd).1 _ (h2 x hx).1) h3⟩;rcases aW.1 hx with rfl|hx
  ·exact⟨aQ,(bK.1 nd).1 _ h1⟩
  ·exact⟨aZ _ (h2 x hx).1,(h2 x hx).2⟩
def bu.freeze{C:aD}{own own':List ak}{G:Gh}{w:World}{b:Nat}{cs:List Value}{ty:TypeId}(h:bu C own G w)(hr:jy own ⟨b,cs,ty,true⟩ own'):
  bu C own' (fun k=>if k=b then some cs else G k) w/\bD G (fun k=>if k=b then some cs else G k):=by
 obtain⟨h1,h2,h3⟩:=hr.spec h.nd;obtain⟨hb,hGb,hlo,_⟩:=h.hown _ h1;have hle:bD G (fun k=>if k=b then some cs else G k):=fun k c hk=>by
  have:k≠b:=fun e=>by subst e;rw[show G k=none from hGb] at hk;cases hk
  simp[this,hk]
 refine⟨⟨h.os,h.tape,h.output,h.size,h.keep,?_,h.gle.trans hle,?_,?_,h3,h.dr,h.ext⟩,hle⟩
 ·intro k c hk
  by_cases e:k=b
  ·subst e;simp only[if_true] at hk;cases hk;exact⟨ty,(0,0),hb⟩
  ·simp only[e,if_false] at hk;exact h.sub k c hk
 ·intro k hk
  have h5:C.w0.heap.size<=b:=hlo J;have:k≠b:=by omega
  simp only[this,if_false];exact h.gold k hk
 ·intro o ho
  obtain⟨k1,k2⟩:=h2 o ho;obtain⟨m1,m2,m3⟩:=h.hown o k1;exact⟨m1,by rw[if_neg k2];exact m2,m3⟩
def bu.drop{C:aD}{own own':List ak}{G:Gh}{w:World}(h:bu C own G w)(hs:own'.Sublist own):bu C own' G w:=
 ⟨h.os,h.tape,h.output,h.size,h.keep,h.sub,h.gle,h.gold,fun o ho=>h.hown o (hs.subset ho),h.nd.sublist hs,h.dr,h.ext⟩
def bu.perm{C:aD}{own own':List ak}{G:Gh}{w:World}(h:bu C own G w)(hs:own.Perm own'):bu C own' G w:=
 ⟨h.os,h.tape,h.output,h.size,h.keep,h.sub,h.gle,h.gold,fun o ho=>h.hown o (hs.mem_iff.2 ho),(hs.pairwise_iff (fun h=>Ne.symm h)).1 h.nd,h.dr,h.ext⟩
def bu.drew{C:aD}{own:List ak}{G:Gh}{w:World}(h:bu C own G w):bu C own G {w with drawn:=w.drawn+1}:=
 ⟨h.os,h.tape,h.output,h.size,h.keep,h.sub,h.gle,h.gold,h.hown,h.nd,Nat.le_succ_of_le h.dr,h.ext⟩
def pO(P:Program)(f:FuncId):Prop:= ∃fn,P.funcs[f]? =some fn/\(fn.name== "runtime.NumGoroutine")=false/\fn.body.isNone=false
def kE(M:List ak)(css:List (List Value)):List ak:=(M.zip css).map fun p=>{p.1 with cs:=p.2}
def asB(M:List ak):List ak:=M.map fun o=>{o with lo:=false}
structure Fn (P:Program) (f:FuncId) (vs:List Value) (G:Gh) (K:Value->Gh->Prop):Prop where
 able:pO P f
 run: ∀w,(∀b cs,G b=some cs-> ∃ty fz,w.heap[b]? =some (.cells ⟨cs⟩ ty fz))->
  Calls P f ⟨vs⟩ w fun e w'=> ∃v G',e= .returned v/\bu ⟨w,G,[],[],[],none,fun _=>none⟩ [] G' w'/\K v G'
structure j0 (P:Program) (f:FuncId) (vs:List Value) (M:List ak) (G:Gh) (K:Value->List (List Value)->Gh->Prop):Prop where
 able:pO P f
 run: ∀w,bu ⟨w,G,M.map (·.b),[],[],none,fun _=>none⟩ (asB M) G w->
  Calls P f ⟨vs⟩ w fun e w'=> ∃v css G',e= .returned v/\css.length=M.length/\bu ⟨w,G,M.map (·.b),[],[],none,fun _=>none⟩ (kE (asB M) css) G' w'/\K v css G'
def Fn.mono{P:Program}{f:FuncId}{vs:List Value}{G:Gh}{K K':Value->Gh->Prop}(h:Fn P f vs G K)(hk: ∀v G',bD G G'->K v G'->K' v G'):Fn P f vs G K':=
 ⟨h.able,fun w hw=>(h.run w hw).mono fun _ _ ⟨v,G',he,hh,hK⟩=>⟨v,G',he,hh,hk v G' hh.gle hK⟩⟩
def bu.called{C:aD}{own:List ak}{G G':Gh}{w w':World}(h:bu C own G w)(k:bu ⟨w,G,[],[],[],none,fun _=>none⟩ [] G' w'):bu C own G' w':=by
 have same: ∀b o,w.heap[b]? =some o->w'.heap[b]? =some o:=fun b o hb=>by rw[k.keep b (ik hb) (by simp)];exact hb
 have hsz:w.heap.size<=w'.heap.size:=k.size;refine⟨k.os.trans h.os,k.tape.trans h.tape,k.output.trans h.output,eY h.size hsz,?_,k.sub,h.gle.trans k.gle,?_,?_,h.nd,eY h.dr k.dr,fun p hp=>⟨(h.ext p hp).1,same _ _ (h.ext p hp).2⟩⟩
 ·intro b hb hm;have:=h.size;rw[k.keep b (by show b<w.heap.size;omega) (by simp)];exact h.keep b hb hm
 ·intro b hb;have:=h.size;rw[k.gold b (by show b<w.heap.size;omega)];exact h.gold b hb
 ·intro o ho
  obtain⟨h1,h2,h3⟩:=h.hown o ho;exact⟨same _ _ h1,by rw[k.gold _ (ik h1)];exact h2,h3⟩
def aBZ(M:List ak)(css:List (List Value))(h:css.length=M.length):(kE M css).map (·.b)=M.map (·.b):=by
 induction M generalizing css with
 |nil=>simp[kE]
 |cons o M ih=>
  cases css with
  |nil=>simp at h
  |cons c css=>simp only[bV,Nat.add_right_cancel_iff] at h;simpa[kE] using ih css h
def atS{M:List ak}{css:List (List Value)}{o:ak}(ho:o∈kE M css): ∃c∈css,∃m∈M,o={m with cs:=c}/\{m with cs:=c,lo:=false}∈kE (asB M) css:=by
 induction M generalizing css with
 |nil=>simp[kE] at ho
 |cons x M ih=>
  cases css with
  |nil=>simp[kE] at ho
  |cons c css=>
   simp only[kE,List.zip_cons_cons,bL,aW] at ho;rcases ho with rfl|ho
   ·exact⟨c,aQ,x,aQ,J,by simp[kE,asB]⟩
   ·obtain⟨c',hc',m,hm,e,hh⟩:=ih ho
    refine⟨c',aZ _ hc',m,aZ _ hm,e,?_⟩;simp only[kE,asB,bL,List.zip_cons_cons,aW];exact .inr hh
def bu.lend{C:aD}{M rest:List ak}{G:Gh}{w:World}(h:bu C (M++rest) G w):bu ⟨w,G,M.map (·.b),[],[],none,fun _=>none⟩ (asB M) G w:=by
 refine⟨J,J,J,bQ _,fun _ _ _=>J,h.sub,bD.refl _,fun _ _=>J,?_,?_,bQ _,fun p hp=>by cases hp⟩
 ·intro o ho
  obtain⟨m,hm,rfl⟩:=bJ.1 ho;obtain⟨h1,h2,_⟩:=h.hown m (bM _ hm);exact⟨h1,h2,by simp,fun _=>bJ.2 ⟨m,hm,J⟩⟩
 ·have:=(kZ.1 h.nd).1
  unfold asB;rw[rR];exact this
def bu.calledM{C:aD}{M rest:List ak}{G G':Gh}{w w':World}{css:List (List Value)}(h:bu C (M++rest) G w)(hl:css.length=M.length)(k:bu ⟨w,G,M.map (·.b),[],[],none,fun _=>none⟩ (kE (asB M) css) G' w'):
  bu C (kE M css++rest) G' w':=by
 have hsz:w.heap.size<=w'.heap.size:=k.size;have hnd:=h.nd;have inM: ∀b,b∈M.map (·.b)-> ∀o∈rest,o.b≠b:=fun b hb o ho e=>by
  obtain⟨m,hm,rfl⟩:=bJ.1 hb;exact(kZ.1 hnd).2.2 m hm o ho e.symm
 refine⟨k.os.trans h.os,k.tape.trans h.tape,k.output.trans h.output,eY h.size hsz,?_,k.sub,h.gle.trans k.gle,?_,?_,?_,eY h.dr k.dr,fun p hp=>⟨(h.ext p hp).1,by rw[k.keep _ (ik (h.ext p hp).2) (h.extM hp)];exact(h.ext p hp).2⟩⟩
 ·intro b hb hm
  have hs:=h.size;have hnM:b∉M.map (·.b):=fun hb'=>by
   obtain⟨m,hmM,rfl⟩:=bJ.1 hb';obtain⟨_,_,h3,h4⟩:=h.hown m (bM _ hmM)
   cases hlo:m.lo with
   |true=>have:=h3 hlo;omega
   |false=>exact hm (h4 hlo)
  rw[k.keep b (by show b<w.heap.size;omega) hnM];exact h.keep b hb hm
 ·intro b hb;have:=h.size;rw[k.gold b (by show b<w.heap.size;omega)];exact h.gold b hb
 ·intro o ho
  rcases bW.1 ho with ho|ho
  ·obtain⟨c,hc,m,hm,rfl,hmem⟩:=atS ho
   obtain⟨k1,k2,_⟩:=k.hown _ hmem;obtain⟨_,_,h3⟩:=h.hown m (bM _ hm);exact⟨k1,k2,h3⟩
  ·obtain⟨h1,h2,h3⟩:=h.hown o (cJ _ ho)
   have hnM:o.b∉M.map (·.b):=fun hb=>inM _ hb o ho J;exact⟨by rw[k.keep _ (ik h1) hnM];exact h1,by rw[k.gold _ (ik h1)];exact h2,h3⟩
 ·rw[Ea,dV,aBZ _ _ hl,<-dV,<-Ea];exact hnd
abbrev ii:= @inferInstance.{0}
def nb{a b:Nat}(h:Nat.ble a b=true):a<=b:=Nat.le_of_ble_eq_true h
def sR{P:Program}{C:aD}{n:Nat}{fr:Fr}{own:List ak}{G:Gh}{Q:Exit->Act->World->Prop}{id:Nat}{ops:Array Oper}{y:Code}(h:St C n fr own G (dG P ops (Exit.then (y.wp P Q) Q) ops.toList)):St C n fr own G ((Code.seq (Code.region id ops false) y).wp P Q):=bz (d7 h)
end Go.Sx
end
section
namespace Go.Sx
open Go
def aF:Value->List Value
 | .agg ⟨l⟩=>l
 |v=>[v]
def oI(v:Value):v.cells=⟨aF v⟩:=by
 cases v<;>first|rfl|(rename_i a;cases a;rfl)
def flat:Value->Bool
 | .agg _=>false
 | .tuple _=>false
 |_=>true
def fI(fr:Fr):List Operand->Option (List Value)
 |[]=>some []
 |x::t=>match aw fr x,fI fr t with
  |some v,some l=>some (v::l)
  |_,_=>none
def BA{fr:Fr}{a:Act}(h:l7 fr a): ∀{l:List Operand} {vs:List Value},fI fr l=some vs->l.map a.eval=vs
 |[],vs,e=>by simp[fI] at e;subst e;rfl
 |x::t,vs,e=>by
  simp only[fI] at e;split at e
  ·rename_i v l hv hl
   cases e
   simp[bm h hv,BA h hl]
  ·cases e
section
variable {P:Program} {C:aD} {n:Nat} {fr:Fr} {own own':List ak} {G:Gh} {ops:Array Oper} {Q:Exit->Act->World->Prop} {r:List Oper}
variable {dst:Option Nat} {t t' ty':TypeId} {pos:String} {af:Array Edge} {x y:Operand}
def Ch(P:Program)(C:aD)(n:Nat)(fr:Fr)(own:List ak)(G:Gh)(o:Oper)(Φ:Act->World->Prop):Prop:=
 ∀(a:Act) (w:World) (Q:Exit->Act->World->Prop),gu C n fr own G a w->o.wp P a w Φ Q
def VF{o:Oper}(hg:o.guard=none)(hc:Ch P C n fr own G o (dG P ops Q r)):St C n fr own G (dG P ops Q (o::r)):=by
 intro a w rl;simp only[dG,Region.wanted,hg,if_true];exact hc a w _ rl
variable {Φ:Act->World->Prop} {gd:Option (Nat×Bool)}
def QX{w:World}{ty:TypeId}{v:Value}:(newVar ty v).run P w= .ok ⟨w.heap.size,0,none⟩ (w.alloc (.cells ⟨aF v⟩ ty)):=by
 unfold newVar newRow;rw[oI];rfl
def ke{o:Oper}{v:Value}{w':World}{a:Act}{w:World}{Φ:Act->World->Prop}{Q:Exit->Act->World->Prop}(h:(execOp a.eval o).run P w= .ok (.value v) w')(hk:Φ (a.put o.dst v) w'):o.wp P a w Φ Q:=by
 simp only[Oper.wp,h,Oper.upon];exact hk
def vp{z:Value}[hz:gh P t z](hd:cd n dst=true)(h: ∀b,St C n (put fr dst (.pointer (some ⟨b,0,none⟩))) (⟨b,aF z,t,true⟩::own) G Φ):
  Ch P C n fr own G ⟨dst, .alloc t,ty',pos,af,gd⟩ Φ:=by
 intro a w Q rl;have h1:(Instr.alloc t true (.tuple #[])).run P w= .ok (.pointer (some ⟨w.heap.size,0,none⟩)) (w.alloc (.cells ⟨aF z⟩ t)):=by
  unfold Instr.alloc;rw[bc (hz.zero w)];show(newVar t z>>=_).run P w=_;rw[bc QX];rfl
 refine ke (c6 h1) (h w.heap.size _ _ ?_);exact(rl.heap (rl.h.alloc _ _)).put _ hd
def Jt{v:Value}(hx:aw fr x=some v)(hd:cd n dst=true)(h: ∀b,St C n (put fr dst (.pointer (some ⟨b,0,none⟩))) (⟨b,aF v,t,true⟩::own) G Φ):
  Ch P C n fr own G ⟨dst, .box t x,ty',pos,af,gd⟩ Φ:=by
 intro a w Q rl;have h1:(Instr.box t (a.eval x)).run P w= .ok (.pointer (some ⟨w.heap.size,0,none⟩)) (w.alloc (.cells ⟨aF v⟩ t)):=by
  unfold Instr.box;rw[bm rl.fr hx,bc QX];rfl
 refine ke (c6 h1) (h w.heap.size _ _ ?_);exact(rl.heap (rl.h.alloc _ _)).put _ hd
def akG{w:World}{b off:Nat}{cs:List Value}{ty:TypeId}{fz:Nat×Nat}{v:Value}(h:w.heap[b]? =some (.cells ⟨cs⟩ ty fz)):w.setCell ⟨b,off,none⟩ v=gk w b (.cells ⟨cs.set off v⟩ ty fz):=by
 unfold World.setCell gk;congr 1;apply Array.ext_getElem?;intro i;rw[Array.getElem?_modify,fX];by_cases hi:b=i
 ·subst hi
  have:=ik h;simp only[if_true,h,jM,this];simp
 ·simp[hi]
def YH{w:World}{b off:Nat}{cs:List Value}{ty:TypeId}{v:Value}(hv:flat v=true)(h:w.heap[b]? =some (.cells ⟨cs⟩ ty (0,0)))(ho:off<cs.length):
  (store ⟨b,off,none⟩ v).run P w= .ok () (gk w b (.cells ⟨cs.set off v⟩ ty (0,0))):=by
 have hc:w.cell? ⟨b,off,none⟩=some cs[off]:=by rw[CN h,aX ho]
 have hf:w.frozen? ⟨b,off,none⟩=false:=by simp[World.frozen?,h]
 cases v<;>first|(simp[flat] at hv;done)|(simp only[store,Sem.run,hc,hf,akG h];rfl)
def X8(w:World)(b:Nat)(o o':Obj):gk (gk w b o) b o'=gk w b o':=by
 simp[gk]
def apK{w:World}{b:Nat}{o:Obj}(h:w.heap[b]? =some o):gk w b o=w:=by
 unfold gk;congr 1;apply Array.ext_getElem?;intro i;rw[fX];by_cases hi:b=i
 ·subst hi
  have hlt:=ik h;simp only[if_true,hlt];rw[h]
 ·simp[hi]
def As{b:Nat}{ty:TypeId}: ∀(vs:List Value) (w:World) (off i:Nat) (cs:List Value),(∀v∈vs,flat v=true)->w.heap[b]? =some (.cells ⟨cs⟩ ty (0,0))->off+i+vs.length<=cs.length->
  (storeCells ⟨b,off,none⟩ vs i).run P w= .ok () (gk w b (.cells ⟨cE cs (off+i) vs⟩ ty (0,0)))
 |[],w,off,i,cs,_,h,_=>by
  unfold storeCells cE;rw[apK h];rfl
 |v::vs,w,off,i,cs,hf,h,hl=>by
  unfold storeCells;simp only[bV] at hl;rw[pB,bc (YH (hf v aQ) h (by omega))];rw[As vs _ off (i+1) (cs.set (off+i) v) (fun u hu=>hf u (aZ _ hu)) (QI (ik h)) (by simp;omega)];rw[X8];rfl
def Fi{v:Value}{b off k:Nat}{cs:List Value}{ty:TypeId}{lo:Bool}(hx:aw fr x=some (.pointer (some ⟨b,off,none⟩)))(hy:aw fr y=some v)[hs:lA P t k]
  (hu:fG own b cs ty lo (cE cs off (aF v)) own')(hk:(aF v).length=k)(hl:off+k<=cs.length)(hf:(aF v).all flat=true)(hd:cd n dst=true)(h:St C n (put fr dst undef) own' G Φ):
  Ch P C n fr own G ⟨dst, .store t x y,ty',pos,af,gd⟩ Φ:=by
 intro a w Q rl;have hb:=(rl.h.hown _ (hu.spec rl.h.nd).1).1;have h1:(Instr.storeAt t (a.eval x) (a.eval y)).run P w= .ok () (gk w b (.cells ⟨cE cs off (aF v)⟩ ty (0,0))):=by
  rw[bm rl.fr hx,bm rl.fr hy];simp only[Instr.storeAt,Instr.sureAddr];show(storeVar t ⟨b,off,none⟩ v).run P w=_;unfold storeVar;rw[bc (hs.siz w),oI];simp only[nN,hk,ne_eq,not_true_eq_false,if_false];have:=As (P:=P) (aF v) w off 0 cs (by simpa using hf) hb (by omega);simpa using this
 have h2:(execOp a.eval ⟨dst, .store t x y,ty',pos,af,gd⟩).run P w= .ok .skip (gk w b (.cells ⟨cE cs off (aF v)⟩ ty (0,0))):=by
  simp only[execOp];rw[bc h1];rfl
 simp only[Oper.wp,h2,Oper.upon];exact h _ _ ((rl.heap (rl.h.store hu)).put _ hd)
def tM{v:Value}{b off:Nat}{cs:List Value}{ty:TypeId}{lo:Bool}(hx:aw fr x=some (.pointer (some ⟨b,off,none⟩)))(hy:aw fr y=some v)[hs:gG P t]
  (hu:fG own b cs ty lo (cs.set off v) own')(hl:off<cs.length)(hf:flat v=true)(hd:cd n dst=true)(h:St C n (put fr dst undef) own' G Φ):
  Ch P C n fr own G ⟨dst, .store t x y,ty',pos,af,gd⟩ Φ:=by
 intro a w Q rl;have hb:=(rl.h.hown _ (hu.spec rl.h.nd).1).1;have hc:v.cells= #[v]:=by cases v<;>first|rfl|(simp[flat] at hf)
 have h1:(Instr.storeAt t (a.eval x) (a.eval y)).run P w= .ok () (gk w b (.cells ⟨cs.set off v⟩ ty (0,0))):=by
  rw[bm rl.fr hx,bm rl.fr hy];simp only[Instr.storeAt,Instr.sureAddr];show(storeVar t ⟨b,off,none⟩ v).run P w=_;unfold storeVar;rw[bc (hs.siz w),hc];simp only[nN,bV,gM,ne_eq,not_true_eq_false,if_false,fQ];have:=As (P:=P) [v] w off 0 cs (by simpa using hf) hb (by simp;omega);simpa[cE] using this
 have h2:(execOp a.eval ⟨dst, .store t x y,ty',pos,af,gd⟩).run P w= .ok .skip (gk w b (.cells ⟨cs.set off v⟩ ty (0,0))):=by
  simp only[execOp];rw[bc h1];rfl
 simp only[Oper.wp,h2,Oper.upon];exact h _ _ ((rl.heap (rl.h.store hu)).put _ hd)
def Df{f:FuncId}(h:pO P f)(args:Array Value)(w:World):(callFunc f args).run P w= .ok (.enter f args) w:=by
 obtain⟨fn,h1,h2,h3⟩:=h;unfold callFunc;show(program>>=_).run P w=_;rw[bc (a:=P) (w':=w) J];simp only[h1,h2,h3];rfl
def Eg{f:FuncId}{fo:Operand}{args:Array Operand}{tys:Array TypeId}{vs c1 c2:List Value}{a:Act}{w:World}(h:pO P f)(hf:l7 fr a)(ho:aw fr fo=some (.func (.func f) ⟨c1⟩ ⟨c2⟩))(hv:fI fr args.toList=some vs):
  (execOp a.eval ⟨dst, .call ⟨.value fo,args,tys⟩,ty',pos,af,gd⟩).run P w= .ok (.enter f ⟨c1++vs++c2⟩) w:=by
 have e:args.map a.eval=⟨vs⟩:=by apply Array.ext';simpa using BA hf hv
 simp only[execOp,resolve,bm hf ho,e,Deferred.ofValue];show(invoke (.fn (.func f) ⟨c2⟩) (⟨c1⟩++⟨vs⟩)).run P w=_;simp only[invoke];rw[Df h];simp
def Un{f:FuncId}{fo:Operand}{args:Array Operand}{tys:Array TypeId}{vs c1 c2:List Value}{K:Value->Gh->Prop}(ho:aw fr fo=some (.func (.func f) ⟨c1⟩ ⟨c2⟩))(hv:fI fr args.toList=some vs)
  (hF:Fn P f (c1++vs++c2) G K)(hd:cd n dst=true)(h: ∀v (G':Gh),[GE G G']->K v G'->St C n (put fr dst v) own G' Φ):
  Ch P C n fr own G ⟨dst, .call ⟨.value fo,args,tys⟩,ty',pos,af,gd⟩ Φ:=by
 intro a w Q rl;have h2:=Eg (P:=P) (dst:=dst) (ty':=ty') (pos:=pos) (af:=af) (gd:=gd) (tys:=tys) (w:=w) hF.able rl.fr ho hv;simp only[Oper.wp,h2,Oper.upon];refine(hF.run w rl.h.sub).mono ?_;rintro e w' ⟨v,G',rfl,hh,hK⟩;exact @h v G' ⟨hh.gle⟩ hK _ _ ((rl.heap (rl.h.called hh)).put _ hd)
def zC{f:FuncId}{fo:Operand}{args:Array Operand}{tys:Array TypeId}{vs:List Value}{K:Value->Gh->Prop}(ho:aw fr fo=some (.func (.func f) #[] #[]))(hv:fI fr args.toList=some vs)
  (hF:Fn P f vs G K)(hd:cd n dst=true)(h: ∀v (G':Gh),[GE G G']->K v G'->St C n (put fr dst v) own G' Φ):
  Ch P C n fr own G ⟨dst, .call ⟨.value fo,args,tys⟩,ty',pos,af,gd⟩ Φ:=
 Un (c1:=[]) (c2:=[]) ho hv (by simpa using hF) hd h
def avN{f:FuncId}{fo:Operand}{args:Array Operand}{tys:Array TypeId}{vs c1 c2:List Value}{M rest:List ak}{K:Value->List (List Value)->Gh->Prop}(ho:aw fr fo=some (.func (.func f) ⟨c1⟩ ⟨c2⟩))(hv:fI fr args.toList=some vs)
  (hp:own.Perm (M++rest))(hF:j0 P f (c1++vs++c2) M G K)(hd:cd n dst=true)(h: ∀v css (G':Gh),[GE G G']->css.length=M.length->K v css G'->St C n (put fr dst v) (kE M css++rest) G' Φ):
  Ch P C n fr own G ⟨dst, .call ⟨.value fo,args,tys⟩,ty',pos,af,gd⟩ Φ:=by
 intro a w Q rl;have h2:=Eg (P:=P) (dst:=dst) (ty':=ty') (pos:=pos) (af:=af) (gd:=gd) (tys:=tys) (w:=w) hF.able rl.fr ho hv;simp only[Oper.wp,h2,Oper.upon];have hh0:=rl.h.perm hp;refine(hF.run w hh0.lend).mono ?_;rintro e w' ⟨v,css,G',rfl,hl,hh,hK⟩;exact @h v css G' ⟨hh.gle⟩ hl hK _ _ ((rl.heap (hh0.calledM hl hh)).put _ hd)
def GM{f:FuncId}{fo:Operand}{args:Array Operand}{tys:Array TypeId}{vs:List Value}{M rest:List ak}{K:Value->List (List Value)->Gh->Prop}(ho:aw fr fo=some (.func (.func f) #[] #[]))(hv:fI fr args.toList=some vs)
  (hp:own.Perm (M++rest))(hF:j0 P f vs M G K)(hd:cd n dst=true)(h: ∀v css (G':Gh),[GE G G']->css.length=M.length->K v css G'->St C n (put fr dst v) (kE M css++rest) G' Φ):
  Ch P C n fr own G ⟨dst, .call ⟨.value fo,args,tys⟩,ty',pos,af,gd⟩ Φ:=
 avN (c1:=[]) (c2:=[]) ho hv hp (by simpa using hF) hd h
end
section
variable {P:Program} {C:aD} {n:Nat} {fr:Fr} {own own':List ak} {G:Gh}
inductive kP (P:Program) (fr:Fr) (own:List ak):List ResultVar->List Value->Prop
 |nil:kP P fr own [] []
 |tmp {t:Nat} {v:Value} {rs:List ResultVar} {vs:List Value} (h:io fr t=some v) (k:kP P fr own rs vs):kP P fr own (.tmp t::rs) (v::vs)
 |agg {a b k:Nat} {t ty:TypeId} {cs l:List Value} {lo:Bool} {rs:List ResultVar} {vs:List Value} (h:io fr a=some (.pointer (some ⟨b,0,none⟩))) (ho:im own b cs ty lo) (ht:lA P t k) (hl:cH cs 0 k=some l) (h2:kP P fr own rs vs):
   kP P fr own (.cell a t::rs) (.agg ⟨l⟩::vs)
 |sc {a b:Nat} {t ty:TypeId} {cs:List Value} {v:Value} {lo:Bool} {rs:List ResultVar} {vs:List Value} (h:io fr a=some (.pointer (some ⟨b,0,none⟩))) (ho:im own b cs ty lo) (ht:gG P t) (hl:cs[0]? =some v) (h2:kP P fr own rs vs):
   kP P fr own (.cell a t::rs) (v::vs)
def Bp(a:Act):ResultVar->Sem Value
 | .tmp t=>pure (a.tmps.getD t undef)
 | .cell x t=>do loadVar t (<-asAddr (a.tmps.getD x undef))
def kP.run{rs:List ResultVar}{vs:List Value}(h:kP P fr own rs vs){a:Act}{w:World}(hf:l7 fr a)(hh:bu C own G w):
  (rs.mapM (Bp a)).run P w= .ok vs w:=by
 induction h with
 |nil=>rfl
 | @tmp t v rs vs h k ih=>
  rw[oU];have e:=hf _ _ h;have e2:a.tmps.getD t undef=v:=by rw[cZ,e];rfl
  rw[bc (a:=v) (w':=w) (by simp only[Bp,e2];exact run_pure _ _ _),bc ih];rfl
 | @agg x b k t ty cs l lo rs vs h ho ht hl h2 ih=>
  rw[oU];have e:=hf _ _ h;have e2:a.tmps.getD x undef= .pointer (some ⟨b,0,none⟩):=by rw[cZ,e];rfl
  rw[bc (a:= .agg ⟨l⟩) (w':=w) (by simp only[Bp,e2,asAddr];rw[bc (run_pure _ _ _)];exact J' (hh.hown _ ho.mem).1 hl),bc ih];rfl
 | @sc x b t ty cs v lo rs vs h ho ht hl h2 ih=>
  rw[oU];have e:=hf _ _ h;have e2:a.tmps.getD x undef= .pointer (some ⟨b,0,none⟩):=by rw[cZ,e];rfl
  rw[bc (a:=v) (w':=w) (by simp only[Bp,e2,asAddr];rw[bc (run_pure _ _ _)];exact LD (hh.hown _ ho.mem).1 hl),bc ih];rfl
def gI:List Value->Value
 |[v]=>v
 |vs=> .tuple ⟨vs⟩
def tD{fn:Func}{vs:List Value}{a:Act}{w:World}(hr:kP P fr own fn.results.toList vs)(hf:l7 fr a)(hh:bu C own G w):(results fn a.tmps).run P w= .ok (gI vs) w:=by
 have h0:=kP.run (C:=C) (G:=G) hr hf hh;have h1:(fn.results.mapM (Bp a)).run P w= .ok (⟨vs⟩:Array Value) w:=by
  rw[<-Array.toArray_toList (xs:=fn.results),List.mapM_toArray,map_eq_pure_bind,bc h0];rfl
 have h2:results fn a.tmps=(do
   let vs<-fn.results.mapM (Bp a)
   pure (if h:vs.size=1 then vs[0] else .tuple vs)):=by
  unfold results;congr 1
 rw[h2,bc h1]
 match vs with
 |[]=>rfl
 |[v]=>rfl
 |_::_::_=>rfl
def jD(C:aD)(K:Value->Gh->Prop):Ending->World->Prop:=fun e w'=> ∃v G',e= .returned v/\bu C [] G' w'/\K v G'
def Bj(C:aD)(M:List ak)(K:Value->List (List Value)->Gh->Prop):Ending->World->Prop:=fun e w'=> ∃v css G',e= .returned v/\css.length=M.length/\bu C (kE (asB M) css) G' w'/\K v css G'
def gv(C:aD)(P:Program)(fn:Func)(R:Ending->World->Prop):Exit->Act->World->Prop:=fun e a w=>C.mks=[]->bodyPost P fn R e a w
def zD{fn:Func}{K:Value->Gh->Prop}{vs:List Value}(hr:kP P fr own fn.results.toList vs)(hk:K (gI vs) G):St C n fr own G (gv C P fn (jD C K) .ret):=
 fun a w rl hmk=>⟨rl.df.trans hmk,_,tD hr rl.fr rl.h,_,G,J,rl.h.drop (kJ _),hk⟩
def N2{fn:Func}{K:Value->Gh->Prop}{vs:List Value}(hr:kP P fr own fn.results.toList vs)(hk:K (gI vs) G):St C n fr own G (gv C P fn (jD C K) .normal):=
 fun a w rl hmk=>⟨rl.df.trans hmk,_,tD hr rl.fr rl.h,_,G,J,rl.h.drop (kJ _),hk⟩
def rH{fn:Func}{M:List ak}{css:List (List Value)}{K:Value->List (List Value)->Gh->Prop}{vs:List Value}(hr:kP P fr own fn.results.toList vs)(hl:css.length=M.length)(own2:List ak)(hp:own.Perm own2)(hs:(kE (asB M) css).Sublist own2)(hk:K (gI vs) css G):St C n fr own G (gv C P fn (Bj C M K) .ret):=
 fun a w rl hmk=>⟨rl.df.trans hmk,_,tD hr rl.fr rl.h,_,css,G,J,hl,(rl.h.perm hp).drop hs,hk⟩
def nP:Nat->List Value->Fr
 |_,[]=>[]
 |i,v::t=>(i,v)::nP (i+1) t
def vm: ∀(vs:List Value) (i k:Nat) (v:Value),io (nP i vs) k=some v-> ∃j,k=i+j/\vs[j]? =some v
 |[],i,k,v,h=>by cases h
 |u::vs,i,k,v,h=>by
  rw[nP,vS] at h;split at h
  ·subst_vars;cases h;exact⟨0,J,J⟩
  ·obtain⟨j,rfl,hj⟩:=vm vs (i+1) k v h
   exact⟨j+1,by omega,by simpa using hj⟩
def Fn.introR{f:FuncId}{fn:Func}{c:Code}{vs:List Value}{m:Nat}{K:Value->Gh->Prop}(hf:P.funcs[f]? =some fn)(hb:fn.body=some c)(hn:(fn.name== "runtime.NumGoroutine")=false)(hm:fn.ntmps=m)(hlen:Nat.ble vs.length m=true)
  (h: ∀C:aD,C.G0=G->C.mb=[]->C.rd=none->(C.fx=fun _=>none)->St C m (nP 0 vs) [] G (c.wp P (gv C P fn (jD C K)))):Fn P f vs G K:=by
 refine⟨⟨fn,hf,hn,by simp[hb]⟩,fun w hw=>?_⟩;have hlen':vs.length<=m:=by simpa using hlen
 have:=calls_of_wp (P:=P) (f:=f) (args:=⟨vs⟩) (w:=w) (R:=jD ⟨w,G,[],[],[],none,fun _=>none⟩ K) hf hb (wp_mono (h ⟨w,G,[],[],[],none,fun _=>none⟩ J J J J _ w
  ⟨⟨J,J,J,bQ _,fun _ _ _=>J,hw,bD.refl _,fun _ _=>J,fun o ho=>(by cases ho), .nil,bQ _,fun p hp=>by cases hp⟩,by simp;omega,fun k v hk=>by
   obtain⟨j,rfl,hj⟩:=vm vs 0 k v hk;have hj':=(aS.1 hj).1;rw[jV (by simpa using hj')];simpa using hj,J⟩) fun _ _ _ k=>k J)
 exact this
def Fn.intro{f:FuncId}{fn:Func}{c:Code}{vs:List Value}{m:Nat}{K:Value->Gh->Prop}(hf:P.funcs[f]? =some fn)(hb:fn.body=some c)(hn:(fn.name== "runtime.NumGoroutine")=false)(hm:fn.ntmps=m)(hlen:Nat.ble vs.length m=true)
  (h: ∀C:aD,C.G0=G->C.mb=[]->St C m (nP 0 vs) [] G (c.wp P (gv C P fn (jD C K)))):Fn P f vs G K:=
 Fn.introR hf hb hn hm hlen fun C a b _ _=>h C a b
def j0.introR{f:FuncId}{fn:Func}{c:Code}{vs:List Value}{m:Nat}{M:List ak}{K:Value->List (List Value)->Gh->Prop}(hf:P.funcs[f]? =some fn)(hb:fn.body=some c)(hn:(fn.name== "runtime.NumGoroutine")=false)(hm:fn.ntmps=m)(hlen:Nat.ble vs.length m=true)
  (h: ∀C:aD,C.G0=G->C.mb=M.map (·.b)->C.rd=none->(C.fx=fun _=>none)->St C m (nP 0 vs) (asB M) G (c.wp P (gv C P fn (Bj C M K)))):j0 P f vs M G K:=by
 refine⟨⟨fn,hf,hn,by simp[hb]⟩,fun w hw=>?_⟩;have hlen':vs.length<=m:=by simpa using hlen
 have:=calls_of_wp (P:=P) (f:=f) (args:=⟨vs⟩) (w:=w) (R:=Bj ⟨w,G,M.map (·.b),[],[],none,fun _=>none⟩ M K) hf hb (wp_mono (h ⟨w,G,M.map (·.b),[],[],none,fun _=>none⟩ J J J J _ w
  ⟨hw,by simp;omega,fun k v hk=>by
   obtain⟨j,rfl,hj⟩:=vm vs 0 k v hk;have hj':=(aS.1 hj).1;rw[jV (by simpa using hj')];simpa using hj,J⟩) fun _ _ _ k=>k J)
 exact this
def j0.intro{f:FuncId}{fn:Func}{c:Code}{vs:List Value}{m:Nat}{M:List ak}{K:Value->List (List Value)->Gh->Prop}(hf:P.funcs[f]? =some fn)(hb:fn.body=some c)(hn:(fn.name== "runtime.NumGoroutine")=false)(hm:fn.ntmps=m)(hlen:Nat.ble vs.length m=true)
  (h: ∀C:aD,C.G0=G->C.mb=M.map (·.b)->St C m (nP 0 vs) (asB M) G (c.wp P (gv C P fn (Bj C M K)))):j0 P f vs M G K:=
 j0.introR hf hb hn hm hlen fun C a b _ _=>h C a b
def qm{Φ:Act->World->Prop}(b:Nat){cs:List Value}{ty:TypeId}(hr:jy own ⟨b,cs,ty,true⟩ own')(h: ∀G':Gh,[GE G G']->[yt G' b cs]->St C n fr own' G' Φ):St C n fr own G Φ:=
 fun a w rl=>by
  obtain⟨h1,h2⟩:=rl.h.freeze hr;exact @h _ ⟨h2⟩ ⟨by simp⟩ a w (rl.heap h1)
def Qg{Φ:Act->World->Prop}(own':List ak)(hs:own'.Sublist own)(h:St C n fr own' G Φ):St C n fr own G Φ:=
 fun a w rl=>h a w (rl.heap (rl.h.drop hs))
def E3{Φ:Act->World->Prop}(own':List ak)(hs:own.Perm own')(h:St C n fr own' G Φ):St C n fr own G Φ:=
 fun a w rl=>h a w (rl.heap (rl.h.perm hs))
def N4(C:aD)(n:Nat){X:Type}(F:X->Fr)(O:X->List ak)(I:X->Gh->Prop)(μ:X->Nat)(m:Nat)(G:Gh)(a:Act)(w:World):Prop:=
 ∃x G',bD G G'/\I x G'/\μ x<m/\gu C n (F x) (O x) G' a w
def mn{Q:Exit->Act->World->Prop}{c:Code}{X:Type}(F:X->Fr)(O:X->List ak)(I:X->Gh->Prop)(μ:X->Nat)(x0:X)(hI:I x0 G)(hF:vr (F x0) fr)(hO:O x0=own)
  (round: ∀(x:X) (G':Gh),[GE G G']->I x G'->St C n (F x) (O x) G' (c.wp P (Exit.then (N4 C n F O I μ (μ x) G') Q))):St C n fr own G ((Code.loop c).wp P Q):=by
 intro a w rl;subst hO;intro b k cs;have key: ∀m a w,(∃x G',bD G G'/\I x G'/\μ x=m/\gu C n (F x) (O x) G' a w)->
   ∃e a' w',Q e a' w'/\Arrives P (lone (b.at a (.code c:: .inLoop c::k)) cs w) b k cs e a' w':=by
  intro m
  induction m using Nat.strongRecOn with
  |_ m ih=>
   intro a w ⟨x,G',hle,hx,hm,hr⟩;obtain⟨e,a₁,w₁,hq,harr⟩:= @round x G' ⟨hle⟩ hx a w hr b (.inLoop c::k) cs
   cases e with
   |normal=>
    obtain⟨x',G'',hle',hx',hlt,hr'⟩:=hq;obtain⟨e₂,a₂,w₂,hq₂,harr₂⟩:=ih (μ x') (hm▸hlt) a₁ w₁ ⟨x',G'',hle.trans hle',hx',rfl,hr'⟩;exact⟨e₂,a₂,w₂,hq₂, .of_steps (Steps.trans harr (.one step_inLoop)) harr₂⟩
   |exit id=>exact⟨_,a₁,w₁,hq, .pass (x:= .inLoop c) J (fun _ _=> .inl (by simp)) harr⟩
   |goto l=>exact⟨_,a₁,w₁,hq, .pass (x:= .inLoop c) J (fun _ _=> .inl (by simp)) harr⟩
   |ret=>exact⟨_,a₁,w₁,hq, .pass (x:= .inLoop c) J (fun _ _=> .inl (by simp)) harr⟩
   |panic ch=>exact⟨_,a₁,w₁,hq, .pass (x:= .inLoop c) J (fun _ _=> .inl (by simp)) harr⟩
   |outgrown=>exact⟨_,a₁,w₁,hq, .pass (x:= .inLoop c) J (fun _ _=> .inl (by simp)) harr⟩
 obtain⟨e,a',w',q,r⟩:=key (μ x0) a w ⟨x0,G,bD.refl _,hI,rfl,rl.h,rl.sz,fun k v hk=>rl.fr _ _ (hF _ _ hk),rl.df⟩;exact⟨e,a',w',q, .of_steps (.one step_loop) r⟩
def At(C:aD)(n:Nat){X:Type}(F:X->Fr)(O:X->List ak)(I:X->Gh->Prop)(G:Gh)(a:Act)(w:World):Prop:=
 ∃x G',bD G G'/\I x G'/\gu C n (F x) (O x) G' a w
def Ca{Q:Exit->Act->World->Prop}{c d:Code}(X:Type)(F:X->Fr)(O:X->List ak)(I:X->Gh->Prop)(h1:St C n fr own G (c.wp P (Exit.then (At C n F O I G) Q)))
  (h2: ∀(x:X) (G':Gh),[GE G G']->I x G'->St C n (F x) (O x) G' (d.wp P Q)):St C n fr own G ((Code.seq c d).wp P Q):=by
 intro a w rl;refine wp_seq (wp_mono (h1 a w rl) ?_);intro e a w h
 cases e with
 |normal=>obtain⟨x,G',hle,hI,hr⟩:=h;exact @h2 x G' ⟨hle⟩ hI a w hr
 |_=>exact h
def qk{X:Type}{F:X->Fr}{O:X->List ak}{I:X->Gh->Prop}{G0:Gh}[hg:GL G0 G](x:X)(hI:I x G)(hF:vr (F x) fr)(hO:O x=own):St C n fr own G (At C n F O I G0):=
 fun a w rl=>⟨x,G,hg.le,hI,⟨hO▸rl.h,rl.sz,fun k v hk=>rl.fr _ _ (hF _ _ hk),rl.df⟩⟩
def jw{X:Type}{F:X->Fr}{O:X->List ak}{I:X->Gh->Prop}{μ:X->Nat}{m:Nat}{G0:Gh}[hg:GL G0 G](x:X)(hI:I x G)(hμ:μ x<m)(hF:vr (F x) fr)(hO:O x=own):St C n fr own G (N4 C n F O I μ m G0):=
 fun a w rl=>⟨x,G,hg.le,hI,hμ,⟨hO▸rl.h,rl.sz,fun k v hk=>rl.fr _ _ (hF _ _ hk),rl.df⟩⟩
end
def fH(Q:Exit->Act->World->Prop):Exit->Act->World->Prop
 | .panic _,_,_=>False
 |e,a,w=>Q e a w
def fH.imp{Q:Exit->Act->World->Prop}: ∀(e:Exit) (a:Act) (w:World),fH Q e a w->Q e a w:=fun e a w h=>by
 cases e<;>first|exact h|exact(h:False).elim
section
variable {P:Program} {ops:Array Oper} {Q:Exit->Act->World->Prop} {S:World->Prop} {fin:Nat->Bool}
def uG(P:Program)(ops:Array Oper)(Q:Exit->Act->World->Prop)(S:World->Prop)(fin:Nat->Bool):Nat->Array Bool->Act->World->Prop
 |0,listed,a,w=>Region.ready .any ops listed=[]/\Q .normal a w
 |fuel+1,listed,a,w=>
  (Region.ready .any ops listed=[]->Q .normal a w)/\
  ∀i∈Region.ready .any ops listed,wpOp P ops Q i (fun a' w'=>(fin i=true\/S w')/\uG P ops Q S fin fuel (listed.setIfInBounds i true) a' w') a w
def Gp: ∀(fuel:Nat) (listed:Array Bool) (a:Act) (w:World),uG P ops Q S fin fuel listed a w->wpAny P .any ops Q fuel listed a w
 |0,_,_,_,h=>h
 |fuel+1,_,_,_,h=>⟨h.1,fun i hi=>wpOp_mono (fun a' w' h'=>Gp fuel _ a' w' h'.2) (h.2 i hi)⟩
def IM(ops:Array Oper)(fin:Nat->Bool)(i:Nat):Bool:=
 !fin i&&(List.range ops.size).all fun j=>!fin j||((ops[j]?).map fun o=>o.after.any fun e=>Region.binds .any e&&e.on==i).getD true
def Zf{i:Nat}(h:IM ops fin i=true):fin i=false/\ ∀j oj,ops[j]? =some oj->fin j=true-> ∃e∈oj.after,Region.binds .any e=true/\e.on=i:=by
 simp only[IM,aL,iK] at h;refine⟨h.1,fun j oj hoj hf=>?_⟩;have hj:j<ops.size:=(gQ.1 hoj).1;have h1:=fW.1 h.2 j (by simpa using hj);rw[hf,hoj] at h1;simp only[Bool.not_true,jM,jK,sU] at h1;obtain⟨e,he,hb⟩:=Array.any_eq_true'.1 h1;simp only[aL,beq_iff_eq] at hb;exact⟨e,he,hb.1,hb.2⟩
def Ur{i:Nat}{oi:Oper}{v:Value}(hi:ops[i]? =some oi)(hsel: ∀(j:Nat) (o:Oper) cs b,ops[j]? =some o->o.op≠ .select cs b)
  (hQ: ∀c a w,Q (.panic c) (a.put oi.dst v) w->Q (.panic c) a w)(hfi:fin i=false)
  (hfin: ∀j oj,ops[j]? =some oj->fin j=true-> ∃e∈oj.after,Region.binds .any e=true/\e.on=i):
  ∀(fuel:Nat) (listed:Array Bool) (a:Act) (w:World),
   (∀j oj,ops[j]? =some oj->j≠i->listed.getD j true=false->(∀e∈oj.after,Region.binds .any e=true->e.on≠i)->oi.apart ops oj=true)->
   i∈Region.ready .any ops listed->YieldsIf P ops S oi v a->S w->
   uG P ops Q S fin fuel (listed.setIfInBounds i true) (a.put oi.dst v) w->uG P ops Q S fin (fuel+1) listed a w:=by
 intro fuel
 induction fuel with
 |zero=>
  intro listed a w _ hr hy hS H;refine⟨fun h=>(by rw[h] at hr;cases hr),fun j hj=>?_⟩;by_cases hji:j=i
  ·subst hji;exact hy.wpOp hi hS ⟨.inr hS,H⟩
  ·have:=ready_mono hj hji
   rw[H.1] at this
   cases this
 |succ fuel ih=>
  intro listed a w hfree hr hy hS H;refine⟨fun h=>(by rw[h] at hr;cases hr),fun j hj=>?_⟩;by_cases hji:j=i
  ·subst hji;exact hy.wpOp hi hS ⟨.inr hS,H⟩
  ·have h1:=H.2 j (ready_mono hj hji)
   obtain⟨hjun,oj,hoj,hall⟩:=mem_ready.1 hj;have hnot: ∀e∈oj.after,Region.binds .any e=true->e.on≠i:=fun e he hb heq=>by
    have h1:=hall e he hb;have h0:=(mem_ready.1 hr).1;rw[heq] at h1;rcases iN i listed.size with h'|h'
    ·simp[h'] at h0 h1;rw[h0] at h1;cases h1
    ·simp[mL h'] at h1
   have hnf:fin j=false:=by
    cases hf:fin j with
    |false=>rfl
    |true=>obtain⟨e,he,hb,heq⟩:=hfin j oj hoj hf;exact absurd heq (hnot e he hb)
   have h2:=wpOp_putIf hoj (hfree j oj hoj hji hjun hnot) (fun cs b=>hsel i oi cs b hi) (fun cs b=>hsel j oj cs b hoj) hQ hy h1;have hfree': ∀k ok,ops[k]? =some ok->k≠i->(listed.setIfInBounds j true).getD k true=false->
     (∀e∈ok.after,Region.binds .any e=true->e.on≠i)->oi.apart ops ok=true:=fun k ok hk hki hun hno=>by
    refine hfree k ok hk hki ?_ hno;by_cases hjk:j=k
    ·subst hjk;exact hjun
    ·rw[getD_set_ne true hjk] at hun;exact hun
   refine wpOp_mono (fun a' w' h3=>?_) h2;have hS':S w':=h3.2.1.resolve_left (by rw[hnf];simp);refine⟨.inr hS',ih (listed.setIfInBounds j true) a' w' hfree' (ready_mono hr (Ne.symm hji)) h3.1 hS' ?_⟩;rw[Array.setIfInBounds_comm _ _ hji];exact h3.2.2
def ar6{i:Nat}{fuel:Nat}{listed:Array Bool}{a:Act}{w:World}(hr:Region.ready .any ops listed=[i])
  (h:wpOp P ops Q i (fun a' w'=>(fin i=true\/S w')/\uG P ops Q S fin fuel (listed.setIfInBounds i true) a' w') a w):uG P ops Q S fin (fuel+1) listed a w:=
 ⟨fun h0=>absurd (hr.symm.trans h0) (by simp),fun j hj=>by rw[hr,aV] at hj;subst hj;exact h⟩
def AT(ops:Array Oper)(fin:Nat->Bool)(listed:Array Bool)(i:Nat):Bool:=
 Region.noSelect ops&&Region.free .any ops listed i&&(Region.ready .any ops listed).contains i&&IM ops fin i
end
class km (l m:List ak):Prop where s:l.Sublist m
instance km.refl (l:List ak):km l l:=⟨List.Sublist.refl l⟩
instance km.cons (l m:List ak) (o:ak) [h:km l m]:km l (o::m):=⟨h.s.cons o⟩
def HS(C:aD)(own:List ak)(G:Gh):World->Prop:=fun w=> ∃G',bD G G'/\bu C own G' w
section
variable {P:Program} {C:aD} {n:Nat} {fr:Fr} {own own0:List ak} {G G0:Gh} {ops:Array Oper} {Q:Exit->Act->World->Prop} {fin:Nat->Bool}
def W4{id:Nat}(fin:Nat->Bool)(hm:P.follows .mixedOrders=true)
  (h:St C n fr own G (uG P ops (fH Q) (HS C own G) fin ops.size (Array.replicate ops.size false))):St C n fr own G ((Code.region id ops true).wp P Q):=by
 intro a w rl;exact wp_mono (wp_region_any hm (Gp _ _ _ _ (h a _ (rl.heap rl.h.drew)))) fH.imp
def nF{b:Bool}{Φ:Act->World->Prop}[hs:km own0 own][hl:GL G0 G](h:St C n fr own G Φ):St C n fr own G (fun a w=>(b=true\/HS C own0 G0 w)/\Φ a w):=
 fun a w rl=>⟨.inr ⟨G,hl.le,rl.h.drop hs.s⟩,h a w rl⟩
def aIX{b:Bool}{S:World->Prop}{Φ:Act->World->Prop}(hb:b=true)(h:St C n fr own G Φ):St C n fr own G (fun a w=>(b=true\/S w)/\Φ a w):=
 fun a w rl=>⟨.inl hb,h a w rl⟩
end
end Go.Sx
end
