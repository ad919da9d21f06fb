import Derived.Calls
import Derived.Orders
import Derived.OrdersHeld
import Derived.Laws.World
import Derived.Below
import Derived.IntWalk
import Derived.KernelRfl
import Derived.Laws.Append
set_option linter.all false
section
namespace Go.Sx
def J{α:Sort _}{a:α}:a=a:=rfl
open Go
def aQ:=@List.mem_cons_self
def aZ:=@List.getElem?_eq_getElem
def aX:=@List.length_map
def aJ:=@List.mem_cons_of_mem
def aK:=@List.getD_eq_getElem?_getD
def aV:=@List.mem_of_getElem?
def aW:=@List.length_replicate
def aY:=@List.mem_singleton
def aU:=@List.mem_cons
def aT:=@List.getElem?_eq_some_iff
def aR:=@List.length_set
def aS:=@Nat.eq_of_beq_eq_true
def aL:=@List.length_append
def aM:=@Bool.and_eq_true
def aN:=@Nat.zero_le
def bQ:=@Nat.le_refl
def bZ:=@List.pairwise_cons
def bX:=@List.mem_map
def bJ:=@List.map_cons
def bK:=@List.length_take
def bV:=@Nat.mul_le_mul_right
def bW:=@Array.getD_eq_getD_getElem?
def bY:=@List.length_cons
def bU:=@Nat.pow_le_pow_right
def bT:=@Nat.mul_comm
def bR:=@Nat.mul_assoc
def bS:=@List.mem_append
def bL:=@List.eq_nil_of_length_eq_zero
def bM:=@Nat.lt_of_lt_of_le
def cZ:=@List.nil_append
def cX:=@List.cons_append
def cJ:=@List.take_length
def cK:=@Rat.intCast_mul
def cV:=@List.mem_append_left
def cW:=@List.drop_eq_getElem_cons
def cY:=@List.map_append
def cR:=@List.take_of_length_le
def cS:=@List.forall_mem_cons
def cM:=@Bool.false_eq_true
def cN:=@List.append_assoc
def dQ:=@Nat.mod_lt
def dZ:=@Nat.add_mul
def dX:=@List.mem_append_right
def dJ:=@Nat.le_trans
def dK:=@Nat.mul_add
def dV:=@Rat.intCast_eq_zero_iff
def dW:=@Array.getElem?_setIfInBounds
def dY:=@List.foldl_cons
def dT:=@List.all_eq_true
def dR:=@Int.natAbs_natCast
def dS:=@List.map_nil
def dL:=@Nat.zero_add
def eX:=@List.getElem?_append_left
def eJ:=@Array.getElem?_eq_some_iff
def eK:=@Nat.pos_of_ne_zero
def eY:=@Int.toNat_natCast
def fQ:=@Rat.le_of_lt
def fZ:=@List.mem_map_of_mem
def fX:=@Int.natAbs_mul
def fJ:=@List.take_add_one
def fK:=@List.mem_of_mem_take
def fV:=@List.take_append_of_le_length
def fW:=@Nat.lt_or_ge
def fY:=@List.getElem?_map
def fU:=@Nat.eq_zero_or_pos
def fT:=@Int.sign_eq_neg_one_of_neg
def fR:=@Nat.mul_le_mul_left
def fS:=@Array.getElem?_eq_getElem
def fL:=@Nat.succ_mul
def fM:=@List.getElem?_eq_none
def fN:=@List.length_drop
def gQ:=@List.mem_flatMap
def gX:=@List.getLast_cons_cons
def gJ:=@List.getLast_singleton
def gK:=@List.getElem?_append_right
def gV:=@Nat.add_zero
def gW:=@Nat.lt_of_le_of_lt
def gU:=@Rat.le_refl
def gT:=@List.drop_zero
def gR:=@List.drop_of_length_le
def gS:=@Int.sign_eq_one_of_pos
def gL:=@List.mem_of_mem_drop
def gM:=@Nat.pow_add
def gN:=@Nat.pow_pos
def iQ:=@List.map_toArray
def iZ:=@List.getElem_mem
def iX:=@Bool.not_eq_true'
def iJ:=@Int.natCast_mul
def iK:=@Bool.and_eq_false_iff
def iV:=@Nat.mul_pos
def iW:=@Nat.gcd_dvd_left
def iY:=@List.pairwise_append
def iU:=@Int.natAbs_eq_zero
def iT:=@Nat.gcd_comm
def iR:=@Bool.or_eq_true
def iS:=@Array.getElem?_append_left
def iL:=@Nat.pow_succ
def iM:=@Nat.min_eq_left
def iN:=@List.append_nil
def jQ:=@Nat.mod_eq_of_lt
def jZ:=@List.take_append_drop
def jX:=@List.length_singleton
def jJ:=@Nat.div_lt_iff_lt_mul
def jK:=@Nat.zero_mul
def jV:=@List.take_succ_eq_append_getElem
def jW:=@Nat.gcd_dvd_right
def jY:=@Nat.eq_zero_of_gcd_eq_zero_right
def jU:=@Nat.eq_zero_of_gcd_eq_zero_left
def jT:=@Int.fdiv_eq_ediv_of_nonneg
def jR:=@Option.getD_some
def jS:=@List.not_mem_nil
def jL:=@Array.length_toList
def jM:=@List.drop_append_of_le_length
def jN:=@Int.natAbs_neg
def kQ:=@List.nil_sublist
def kZ:=@Nat.gcd_pos_of_pos_left
def kX:=@List.map_take
def kJ:=@List.drop_eq_nil_of_le
def kK:=@Nat.add_comm
def kV:=@Int.ofNat_natAbs_of_nonpos
def kW:=@Nat.mul_le_mul
def kY:=@List.foldl_nil
def kU:=@List.getD_cons_succ
def kR:=@Option.map_some
def kS:=@List.length_nil
def kL:=@Rat.mul_eq_zero
def kN:=@List.getLast?_eq_getElem?
def lQ:=@List.getElem?_drop
def lZ:=@List.drop_length
def lX:=@Nat.div_eq_of_lt
def lJ:=@Bool.not_eq_true
def lK:=@Nat.add_assoc
def lV:=@List.mem_iff_getElem
def lW:=@Nat.mul_left_comm
def lY:=@List.flatMap_cons
def lU:=@Nat.div_le_self
def lT:=@Rat.num_eq_zero
def lR:=@Nat.mul_lt_mul_of_pos_right
def lS:=@Option.map_eq_some_iff
def lL:=@Nat.one_mul
def lM:=@Nat.mul_one
def lN:=@List.drop_append
def mQ:=@List.any_eq_true
def mZ:=@Rat.mkRat_eq_div
def mX:=@Nat.blt_eq
def mJ:=@Nat.add_sub_cancel
def mK:=@List.append_of_mem
def mV:=@Nat.mul_right_comm
def mW:=@Nat.mul_lt_mul_of_lt_of_le
def mY:=@Nat.gcd_zero_right
def mT:=@List.set_append_right
def mS:=@Int.natAbs_ediv_le_natAbs
def mL:=@Rat.intCast_inj
def mM:=@Int.natAbs_of_nonneg
def mN:=@List.length_dropLast
def nQ:=@Nat.pow_lt_pow_iff_right
def nZ:=@List.map_drop
def nX:=@Nat.gcd_pos_of_pos_right
def nJ:=@Option.isSome_iff_exists
def nK:=@Nat.dvd_trans
def nV:=@List.take_succ_cons
def nY:=@List.takeWhile_cons
def nU:=@List.mapM_cons
def nT:=@List.getElem_map
def nR:=@Nat.mul_div_cancel_left
def nS:=@List.countP_cons
def nL:=@Rat.neg_num
def nM:=@Array.getElem?_eq_none
def nN:=@Nat.sub_self
def oQ:=@Nat.le_of_lt
def oZ:=@List.getElem_cons_zero
def oX:=@List.map_set
def oJ:=@List.map_map
def oK:=@Bool.eq_iff_iff
def oV:=@Rat.num_intCast
def oW:=@Rat.den_intCast
def oY:=@Int.mul_eq_zero
def oU:=@Rat.intCast_add
def oT:=@Rat.intCast_sub
def oR:=@List.perm_append_comm
def oS:=@Array.getElem?_toList
def oL:=@List.size_toArray
def oM:=@List.ext_getElem?
def oN:=@List.length_range
def pQ:=@List.length_filter_lt_length_iff_exists
def pZ:=@Rat.mkRat_self
def pX:=@Nat.add_mul_div_left
def pJ:=@List.mem_of_getLast?
def pK:=@Array.toList_map
def pV:=@Nat.beq_refl
def pW:=@List.filter_cons
def pY:=@List.perm_middle
def pU:=@Int.le_of_lt
def pT:=@Nat.le_add_right
def pR:=@Nat.add_mul_mod_self_left
def pS:=@Int.sign_eq_zero_iff_zero
def pL:=@List.pairwise_iff_getElem
def pM:=@Int.toNat_of_nonneg
def pN:=@List.take_replicate
def qQ:=@Int.sign_trichotomy
def qZ:=@Array.getElem?_replicate
def qX:=@List.sublist_append_left
def qJ:=@List.length_filterMap_le
def qK:=@Option.map_none
def qV:=@Nat.div_add_mod
def qW:=@List.mem_filter
def qY:=@Rat.intCast_neg
def qU:=@List.getElem?_take
def qT:=@Array.foldl_toList
def qR:=@Rat.mul_inv_cancel
def qS:=@Nat.le_mul_of_pos_right
def qL:=@Int.natCast_dvd_natCast
def qM:=@List.flatten_cons
def qN:=@Int.mul_comm
def rQ:=@List.sublist_cons_self
def rZ:=@List.mem_range
def rX:=@Nat.div_div_eq_div_mul
def rJ:=@Int.lt_trichotomy
def rK:=@Rat.intCast_lt_intCast
def rW:=@List.eq_nil_or_concat
def rY:=@List.concat_eq_append
def rU:=@Nat.le_div_iff_mul_le
def rT:=@List.dropLast_sublist
def rR:=@Int.natCast_ediv
def rS:=@Nat.mul_lt_mul''
def rL:=@Nat.le_of_not_lt
def rM:=@List.all_cons
def rN:=@Rat.mkRat_one
def sQ:=@Nat.pow_mul
def sZ:=@Bool.or_eq_false_iff
def sX:=@Rat.neg_den
def sJ:=@Nat.div_one
def sV:=@Nat.not_lt_zero
def sW:=@Array.toList_zipIdx
def sY:=@List.replicate_succ
def sU:=@List.drop_set_of_lt
def sT:=@List.drop_succ_cons
def sS:=@List.getD_cons_zero
def sL:=@List.flatMap_append
def sM:=@List.map_congr_left
def sN:=@Nat.mul_zero
def tQ:=@Nat.lt_trans
def tZ:=@Nat.pow_zero
def tX:=@List.drop_drop
def tJ:=@Nat.gcd_rec
abbrev Gh:=Nat->Option (List Value)
def bD(G G':Gh):Prop:= ∀b cs,G b=some cs->G' b=some cs
def bD.refl(G:Gh):bD G G:=fun _ _ h=>h
def bD.trans{a b c:Gh}(h:bD a b)(k:bD b c):bD a c:=fun _ _ x=>k _ _ (h _ _ x)
structure au where
 b:Nat
 cs:List Value
 ty:TypeId
 lo:Bool
structure aC where
 w0:World
 G0:Gh
 mb:List Nat
 /-- other objects that stay: records of loops, marks -/
 ex:List (Nat×Obj)
 /-- the marks among the deferred calls; the round -/
 mks:List Deferred
 rd:Option Nat
 /-- where names that are fixed lie -/
 fx:Nat->Option Addr
structure bF (C:aC) (own:List au) (G:Gh) (w:World):Prop where
 os:w.os=C.w0.os
 tape:w.tape=C.w0.tape
 output:w.output=C.w0.output
 size:C.w0.heap.size<=w.heap.size
 keep: ∀b,b<C.w0.heap.size->b∉C.mb->w.heap[b]? =C.w0.heap[b]?
 sub: ∀b cs,G b=some cs-> ∃ty fz,w.heap[b]? =some (.cells ⟨cs⟩ ty fz)
 gle:bD C.G0 G
 gold: ∀b,b<C.w0.heap.size->G b=C.G0 b
 hown: ∀o∈own,w.heap[o.b]? =some (.cells ⟨o.cs⟩ o.ty (0,0))/\G o.b=none/\(o.lo=true->C.w0.heap.size<=o.b)/\(o.lo=false->o.b∈C.mb)
 nd:own.Pairwise (fun x y=>x.b≠y.b)
 dr:C.w0.drawn<=w.drawn
 ext: ∀p∈C.ex,(∀cs ty z,p.2≠ .cells cs ty z)/\w.heap[p.1]? =some p.2
abbrev Fr:=List (Nat×Value)
def kD:Fr->Nat->Option Value
 |[],_=>none
 |(k,v)::t,j=>bif Nat.beq k j then some v else kD t j
def put(fr:Fr)(dst:Option Nat)(v:Value):Fr:=match dst with|some d=>(d,v)::fr|none=>fr
def kc(fr:Fr)(a:Act):Prop:= ∀k v,kD fr k=some v->a.tmps[k]? =some v
structure gq (C:aC) (n:Nat) (fr:Fr) (own:List au) (G:Gh) (a:Act) (w:World):Prop where
 h:bF C own G w
 sz:a.tmps.size=n
 fr:kc fr a
 df:a.defers=C.mks
def St(C:aC)(n:Nat)(fr:Fr)(own:List au)(G:Gh)(Φ:Act->World->Prop):Prop:=
 ∀a w,gq C n fr own G a w->Φ a w
def aD(fr:Fr):Operand->Option Value
 | .tmp k=>kD fr k
 | .const v=>some v
 | .global g=>some (.pointer (some ⟨g,0,none⟩))
 | .func f=>some (.func (.func f) #[] #[])
def bz{fr:Fr}{a:Act}(h:kc fr a){x:Operand}{v:Value}(hx:aD fr x=some v):a.eval x=v:=by
 cases x with
 |tmp k=>
  have:=h k v hx;simp only[Act.eval,bW,this,jR]
 |const u=>simpa[aD,Act.eval] using hx
 |global g=>simpa[aD,Act.eval] using hx
 |func f=>simpa[aD,Act.eval] using hx
def ye(k:Nat)(v:Value)(t:Fr)(j:Nat):kD ((k,v)::t) j=if k=j then some v else kD t j:=by
 simp only[kD];by_cases h:k=j
 .simp[h]
 .have:Nat.beq k j=false:=by
   cases hb:Nat.beq k j with
   |false=>rfl
   |true=>exact absurd (aS hb) h
  simp[this,h]
def cg(n:Nat):Option Nat->Bool
 |some d=>Nat.blt d n
 |none=>true
def kc.put{fr:Fr}{a:Act}{n:Nat}(h:kc fr a)(hs:a.tmps.size=n){dst:Option Nat}{v:Value}(hd:cg n dst=true):kc (Sx.put fr dst v) (a.put dst v):=by
 cases dst with
 |none=>exact h
 |some d=>
  intro k u hk;have hdn:d<n:=by simpa[cg,mX] using hd
  simp only[Sx.put,ye] at hk;simp only[Act.put,dW];by_cases hkd:d=k
  .simp only[hkd,if_true] at hk
   subst hkd;simp[hs,hdn,hk]
  .simp only[hkd,if_false] at hk
   simp only[hkd,if_false];exact h k u hk
def O7(a:Act)(dst:Option Nat)(v:Value):(a.put dst v).tmps.size=a.tmps.size:=by cases dst<;>simp[Act.put]
def LJ(a:Act)(dst:Option Nat)(v:Value):(a.put dst v).defers=a.defers:=by cases dst<;>simp[Act.put]
def gq.put{C n fr own G a w}(r:gq C n fr own G a w){dst:Option Nat}(v:Value)(hd:cg n dst=true):gq C n (Sx.put fr dst v) own G (a.put dst v) w:=
 ⟨r.h,by rw[O7];exact r.sz,r.fr.put r.sz hd,by rw[LJ];exact r.df⟩
def gq.heap{C n fr own G own' G' a w w'}(r:gq C n fr own G a w)(h:bF C own' G' w'):gq C n fr own' G' a w':=⟨h,r.sz,r.fr,r.df⟩
def en(P:Program)(ops:Array Oper)(Q:Exit->Act->World->Prop):List Oper->Act->World->Prop
 |[],a,w=>Q .normal a w
 |o::r,a,w=>if Region.wanted o (yielded ops a.tmps) then o.wp P a w (en P ops Q r) Q else en P ops Q r (a.put o.dst undef) w
def Rw{P:Program}{ops:Array Oper}{Q:Exit->Act->World->Prop}: ∀(l:List Nat) (k:Nat) (a:Act) (w:World),l=(List.range ops.size).drop k->en P ops Q (ops.toList.drop k) a w->wpOps P ops Q l a w:=by
 intro l
 induction l with
 |nil=>
  intro k a w hl h;have hk:ops.size<=k:=by
   have:=congrArg List.length hl;simp at this;omega
  rw[kJ (by simpa using hk)] at h;exact h
 |cons i t ih=>
  intro k a w hl h;have hk:k<ops.size:=by
   have:=congrArg List.length hl;simp at this;omega
  rw[cW (by simpa using hk)] at hl;obtain⟨hi,ht⟩:=List.cons.inj hl;simp only[List.getElem_range] at hi;subst hi;rw[cW (by simpa using hk)] at h;have ho:ops[i]? =some ops[i]:=fS hk;simp only[wpOps,ho];simp only[en,Array.getElem_toList] at h;split
  .rename_i hw
   simp only[hw,if_true] at h;exact .inl (Oper.wp_mono (fun a w h=>ih (i+1) a w ht h) h)
  .rename_i hw
   simp only[hw] at h;exact ih (i+1) _ w ht h
def anv{P:Program}{id:Nat}{ops:Array Oper}{Q:Exit->Act->World->Prop}{a:Act}{w:World}
  (h:en P ops Q ops.toList a w):(Code.region id ops false).wp P Q a w:=
 wp_region (Rw _ 0 a w (by simp) (by simpa using h))
def Yd(P:Program)(C:aC)(fr:Fr)(own:List au)(G:Gh)(o:Oper)(v:Value):Prop:=
 ∀a w,kc fr a->bF C own G w->(execOp a.eval o).run P w= .ok (.value v) w
section
variable {P:Program} {C:aC} {n:Nat} {fr:Fr} {own:List au} {G:Gh} {ops:Array Oper} {Q:Exit->Act->World->Prop} {r:List Oper}
def qb{o:Oper}{v:Value}(hy:Yd P C fr own G o v)(hg:o.guard=none)(hd:cg n o.dst=true)
  (h:St C n (put fr o.dst v) own G (en P ops Q r)):St C n fr own G (en P ops Q (o::r)):=by
 intro a w rl;simp only[en,Region.wanted,hg,if_true,Oper.wp,hy a w rl.fr rl.h,Oper.upon];exact h _ _ (rl.put v hd)
def zE(h:St C n fr own G (Q .normal)):St C n fr own G (en P ops Q []):=h
def UF{id:Nat}(h:St C n fr own G (en P ops Q ops.toList)):St C n fr own G ((Code.region id ops false).wp P Q):=
 fun a w rl=>anv (h a w rl)
def lO{x y:Code}(h:St C n fr own G (x.wp P (Exit.then (y.wp P Q) Q))):St C n fr own G ((Code.seq x y).wp P Q):=
 fun a w rl=>wp_seq (h a w rl)
def zK(h:St C n fr own G (Q .normal)):St C n fr own G (Code.skip.wp P Q):=fun a w rl=>wp_skip (h a w rl)
def sB(h:St C n fr own G (Q .ret)):St C n fr own G (Code.ret.wp P Q):=fun a w rl=>wp_ret (h a w rl)
def Iq{c:Operand}{x y:Code}(hc:aD fr c=some (.bool true))(h:St C n fr own G (x.wp P Q)):St C n fr own G ((Code.cond c x y).wp P Q):=
 fun a w rl=>wp_cond_true (bz rl.fr hc) (h a w rl)
def F2{c:Operand}{x y:Code}(hc:aD fr c=some (.bool false))(h:St C n fr own G (y.wp P Q)):St C n fr own G ((Code.cond c x y).wp P Q):=
 fun a w rl=>wp_cond_false (bz rl.fr hc) (h a w rl)
def MO{p:Prop}{inst:Decidable p}{c:Operand}{x y:Code}(hc:aD fr c=some (.bool (@decide p inst)))(h1:p->St C n fr own G (x.wp P Q))(h2: ¬p->St C n fr own G (y.wp P Q)):
  St C n fr own G ((Code.cond c x y).wp P Q):=
 fun a w rl=>wp_cond_split (bz rl.fr hc) (fun h=>h1 (of_decide_eq_true h) a w rl) (fun h=>h2 (of_decide_eq_false h) a w rl)
def avG{b:Bool}{c:Operand}{x y:Code}(hc:aD fr c=some (.bool b))(h1:b=true->St C n fr own G (x.wp P Q))(h2:b=false->St C n fr own G (y.wp P Q)):
  St C n fr own G ((Code.cond c x y).wp P Q):=
 fun a w rl=>wp_cond_split (bz rl.fr hc) (fun h=>h1 h a w rl) (fun h=>h2 h a w rl)
def aLj(fr' fr:Fr):Prop:= ∀k v,kD fr' k=some v->kD fr k=some v
end
class gz (own:List au) (b:Nat) (cs:outParam (List Value)) (ty:outParam TypeId) (lo:outParam Bool):Prop where
 mem:⟨b,cs,ty,lo⟩∈own
instance gz.i1 (b:Nat) (cs:List Value) (ty:TypeId) (lo:Bool) (t:List au):gz (⟨b,cs,ty,lo⟩::t) b cs ty lo:=⟨aQ⟩
instance gz.i2 (o:au) (t:List au) (b:Nat) (cs:List Value) (ty:TypeId) (lo:Bool) [h:gz t b cs ty lo]:gz (o::t) b cs ty lo:=⟨aJ _ h.mem⟩
inductive iA:List au->Nat->List Value->TypeId->Bool->List Value->List au->Prop
 |hd (b:Nat) (cs cs':List Value) (ty:TypeId) (lo:Bool) (t:List au):iA (⟨b,cs,ty,lo⟩::t) b cs ty lo cs' (⟨b,cs',ty,lo⟩::t)
 |tl (o:au) (t t':List au) (b:Nat) (cs cs':List Value) (ty:TypeId) (lo:Bool) (h:iA t b cs ty lo cs' t'):iA (o::t) b cs ty lo cs' (o::t')
inductive i4:List au->au->List au->Prop
 |hd (o:au) (t:List au):i4 (o::t) o t
 |tl (x:au) (t t':List au) (o:au) (h:i4 t o t'):i4 (x::t) o (x::t')
class GE (A:outParam Gh) (B:Gh):Prop where le:bD A B
class GL (A B:Gh):Prop where le:bD A B
instance GL.refl (A:Gh):GL A A:=⟨bD.refl A⟩
instance GL.step (A B C:Gh) [h:GE B C] [k:GL A B]:GL A C:=⟨k.le.trans h.le⟩
class vG (G:outParam Gh) (b:Nat) (cs:outParam (List Value)):Prop where h:G b=some cs
def cA:List Value->Nat->Nat->Option (List Value)
 |_,0,0=>some []
 |[],0,_+1=>none
 |v::t,0,k+1=>match cA t 0 k with|some l=>some (v::l)|none=>none
 |[],_+1,_=>none
 |_::t,off+1,k=>cA t off k
def cp:List Value->Nat->List Value->List Value
 |cs,_,[]=>cs
 |cs,off,v::vs=>cp (cs.set off v) (off+1) vs
def qh: ∀(cs:List Value) (off k:Nat) (l:List Value),cA cs off k=some l->l.length=k/\ ∀i,i<k->cs[off+i]? =l[i]?
 |cs,0,0,l,h=>by
  cases cs<;>(simp only[cA] at h;cases h;exact⟨J,fun i hi=>absurd hi (sV _)⟩)
 |[],0,_+1,l,h=>by simp[cA] at h
 |v::t,0,k+1,l,h=>by
  simp only[cA] at h;split at h
  .rename_i l' hl'
   cases h
   obtain⟨h1,h2⟩:=qh t 0 k l' hl';refine⟨by simp[h1],fun i hi=>?_⟩
   cases i with
   |zero=>rfl
   |succ i=>
    have:=h2 i (by omega);simpa using this
  .cases h
 |[],_+1,_,l,h=>by simp[cA] at h
 |_::t,off+1,k,l,h=>by
  simp only[cA] at h;obtain⟨h1,h2⟩:=qh t off k l h;refine⟨h1,fun i hi=>?_⟩;have:=h2 i hi;rw[<-this,show off+1+i=(off+i)+1 by omega];rfl
class mz (P:Program) (t:TypeId) (k:outParam Nat):Prop where
 agg: ∀w,(isAgg t).run P w= .ok true w
 siz: ∀w,(sizeOf t).run P w= .ok k w
class i9 (P:Program) (t:TypeId):Prop where
 agg: ∀w,(isAgg t).run P w= .ok false w
 siz: ∀w,(sizeOf t).run P w= .ok 1 w
class gk (P:Program) (t:TypeId) (z:outParam Value):Prop where
 inf:(P.info? t).map (·.zero)=some (some z)
class nI (P:Program) (t:TypeId) (f:Nat) (off:outParam Nat):Prop where
 at_: ∀(b o:Nat) w,(Instr.fieldAt t (.pointer (some ⟨b,o,none⟩)) f).run P w= .ok (.pointer (some (Addr.add ⟨b,o,none⟩ off))) w
class cB (P:Program) (t:TypeId) (e s by_:outParam Nat):Prop where
 un:P.underlying t=some (.slice e)
 inf:(P.info? e).map (fun i=>(i.size,i.bytes))=some (s,by_)
def gk.info{P:Program}{t:TypeId}{z:Value}(h:gk P t z): ∃i,P.info? t=some i/\i.zero=some z:=by
 have:=h.inf
 cases hi:P.info? t with
 |none=>rw[hi] at this;cases this
 |some i=>rw[hi] at this;exact⟨i,J,by simpa using this⟩
def cB.info{P:Program}{t e s by_:Nat}(h:cB P t e s by_): ∃i,P.info? e=some i/\i.size=s/\i.bytes=by_:=by
 have:=h.inf
 cases hi:P.info? e with
 |none=>rw[hi] at this;cases this
 |some i=>rw[hi] at this;simp at this;exact⟨i,J,this.1,this.2⟩
def tc(b o n:Nat):Addr.add ⟨b,o,none⟩ n=⟨b,o+n,none⟩:=by
 unfold Addr.add;split
 .subst_vars;rfl
 .rfl
def Sem.run_bind{α β:Type}(P:Program)(x:Sem α)(f:α->Sem β): ∀(w:World),(x>>=f).run P w=match x.run P w with| .ok a w'=>(f a).run P w'| .halt h w'=> .halt h w':=by
 show∀w,(Sem.bind x f).run P w=_
 induction x with
 |pure a=>intro w;rfl
 |load m a k ih=>
  intro w;simp only[Sem.bind,Sem.run];split
  .exact ih _ w
  .split
   .exact ih _ w
   .rfl
 |store m a v k ih=>
  intro w
  cases v<;>simp only[Sem.bind,Sem.run]<;>(try rfl)<;>(split<;>first|(split<;>first|rfl|exact ih _)|rfl)
 |new o k ih=>intro w;exact ih _ _
 |shape r k ih=>intro w;exact ih _ _
 |freeze a n k ih=>intro w;exact ih _
 |frozen a k ih=>intro w;exact ih _ _
 |getObj r k ih=>
  intro w;simp only[Sem.bind,Sem.run];split
  .rfl
  .exact ih _ w
  .rfl
 |setObj r o k ih=>
  intro w;simp only[Sem.bind,Sem.run];split
  .rfl
  .exact ih _
  .rfl
 |choose q k ih=>
  intro w;simp only[Sem.bind,Sem.run];split
  .exact ih _ _
  .exact ih _ _
 |sys c k ih=>intro w;exact ih _ _
 |program k ih=>intro w;exact ih _ _
 |mark m k ih=>intro w;exact ih _
 |halt h=>intro w;rfl
def run_pure{α:Type}(P:Program)(a:α)(w:World):(pure a:Sem α).run P w= .ok a w:=rfl
def bh{α β:Type}{P:Program}{x:Sem α}{f:α->Sem β}{w w':World}{a:α}(h:x.run P w= .ok a w'):(x>>=f).run P w=(f a).run P w':=by
 rw[Sem.run_bind,h]
def gk.zero{P:Program}{t:TypeId}{z:Value}(h:gk P t z)(w:World):(zeroValue t).run P w= .ok z w:=by
 obtain⟨i,h1,h2⟩:=h.info;simp[zeroValue,typeInfo,program,Sem.run_bind,Sem.run,h1,h2,run_pure]
def cB.u{P:Program}{t e s by_:Nat}(h:cB P t e s by_)(w:World):(underlying t).run P w= .ok (.slice e) w:=by
 simp[underlying,program,Sem.run_bind,Sem.run,h.un,run_pure]
def cB.siz{P:Program}{t e s by_:Nat}(h:cB P t e s by_)(w:World):(sizeOf e).run P w= .ok s w:=by
 obtain⟨i,h1,h2,_⟩:=h.info;simp[sizeOf,typeInfo,program,Sem.run_bind,Sem.run,h1,h2,run_pure]
section
variable {P:Program} {C:aC} {n:Nat} {fr:Fr} {own:List au} {G:Gh} {ops:Array Oper} {Q:Exit->Act->World->Prop} {r:List Oper}
def Bm{w:World}{b:Nat}{cs:List Value}{ty:TypeId}{fz:Nat×Nat}(h:w.heap[b]? =some (.cells ⟨cs⟩ ty fz))(i:Nat):w.cell? ⟨b,i,none⟩=cs[i]? :=by
 simp[World.cell?,h]
def Pm{w:World}{a:Addr}{v:Value}(h:w.cell? a=some v):(load a).run P w= .ok v w:=by
 simp[load,Sem.run,h]
def Fh{w:World}{b off:Nat}{l:List Value}: ∀(m i:Nat) (acc:Array Value),(∀j,j<m->w.cell? ⟨b,off+(i+j),none⟩=l[i+j]?)->i+m<=l.length->
  (loadCellsFrom ⟨b,off,none⟩ i m acc).run P w= .ok (acc++((l.drop i).take m).toArray) w
 |0,i,acc,_,_=>by simp[loadCellsFrom,run_pure]
 |m+1,i,acc,h,hl=>by
  have h0:=h 0 (by omega);rw[gV,aZ (by omega)] at h0;unfold loadCellsFrom;rw[bh (a:=l[i]) (w':=w) (by rw[tc];exact Pm h0)];rw[Fh m (i+1) (acc.push l[i]) (fun j hj=>by have:=h (j+1) (by omega);rw[show i+1+j=i+(j+1) by omega];exact this) (by omega)];congr 1;rw[cW (by omega:i<l.length),nV];apply Array.ext';simp
def FH{w:World}{b off k:Nat}{t:TypeId}{cs l:List Value}[ht:mz P t k]{ty:TypeId}{fz:Nat×Nat}(h:w.heap[b]? =some (.cells ⟨cs⟩ ty fz))(hl:cA cs off k=some l):
  (loadVar t ⟨b,off,none⟩).run P w= .ok (.agg ⟨l⟩) w:=by
 obtain⟨h1,h2⟩:=qh _ _ _ _ hl;unfold loadVar;rw[bh (ht.agg w)];simp only[if_true];rw[bh (ht.siz w)];unfold loadCells;rw[bh (Fh (l:=l) k 0 #[] (fun j hj=>by rw[Bm h];simpa using h2 j hj) (by omega))];simp[run_pure,<-h1]
def F8{w:World}{b off:Nat}{t:TypeId}{cs:List Value}{v:Value}[ht:i9 P t]{ty:TypeId}{fz:Nat×Nat}(h:w.heap[b]? =some (.cells ⟨cs⟩ ty fz))(hl:cs[off]? =some v):
  (loadVar t ⟨b,off,none⟩).run P w= .ok v w:=by
 unfold loadVar;rw[bh (ht.agg w)];simp only[cM,if_false];exact Pm (by rw[Bm h];exact hl)
def cI{α:Type}{f:α->Next}{s:Sem α}{w w':World}{a:α}(h:s.run P w= .ok a w'):(do pure (f (<-s)):Sem Next).run P w= .ok (f a) w':=by
 rw[bh h];rfl
def Dv{dst:Option Nat}{t ty':TypeId}{pos:String}{af:Array Edge}{gd:Option (Nat×Bool)}{x:Operand}{b off k:Nat}{cs l:List Value}{lo:Bool}{ty:TypeId}
  (hx:aD fr x=some (.pointer (some ⟨b,off,none⟩)))[ho:gz own b cs ty lo][mz P t k](hl:cA cs off k=some l):
  Yd P C fr own G ⟨dst, .load t x,ty',pos,af,gd⟩ (.agg ⟨l⟩):=by
 intro a w hf hh;simp only[execOp,bz hf hx,Instr.loadAt,Instr.sureAddr];exact cI (FH (hh.hown _ ho.mem).1 hl)
def yK{dst:Option Nat}{t ty':TypeId}{pos:String}{af:Array Edge}{gd:Option (Nat×Bool)}{x:Operand}{b off:Nat}{cs:List Value}{v:Value}{lo:Bool}{ty:TypeId}
  (hx:aD fr x=some (.pointer (some ⟨b,off,none⟩)))[ho:gz own b cs ty lo][i9 P t](hl:cs[off]? =some v):
  Yd P C fr own G ⟨dst, .load t x,ty',pos,af,gd⟩ v:=by
 intro a w hf hh;simp only[execOp,bz hf hx,Instr.loadAt,Instr.sureAddr];exact cI (F8 (hh.hown _ ho.mem).1 hl)
def O3{dst:Option Nat}{t ty':TypeId}{pos:String}{af:Array Edge}{gd:Option (Nat×Bool)}{x:Operand}{b off k:Nat}{cs l:List Value}
  (hx:aD fr x=some (.pointer (some ⟨b,off,none⟩)))(hg:G b=some cs)[mz P t k](hl:cA cs off k=some l):
  Yd P C fr own G ⟨dst, .load t x,ty',pos,af,gd⟩ (.agg ⟨l⟩):=by
 intro a w hf hh;obtain⟨ty,fz,hb⟩:=hh.sub _ _ hg;simp only[execOp,bz hf hx,Instr.loadAt,Instr.sureAddr];exact cI (FH hb hl)
def xG{dst:Option Nat}{t ty':TypeId}{pos:String}{af:Array Edge}{gd:Option (Nat×Bool)}{x:Operand}{b off:Nat}{cs:List Value}{v:Value}
  (hx:aD fr x=some (.pointer (some ⟨b,off,none⟩)))(hg:G b=some cs)[i9 P t](hl:cs[off]? =some v):
  Yd P C fr own G ⟨dst, .load t x,ty',pos,af,gd⟩ v:=by
 intro a w hf hh;obtain⟨ty,fz,hb⟩:=hh.sub _ _ hg;simp only[execOp,bz hf hx,Instr.loadAt,Instr.sureAddr];exact cI (F8 hb hl)
variable {dst:Option Nat} {t t' ty':TypeId} {pos:String} {af:Array Edge} {gd:Option (Nat×Bool)} {x y:Operand}
def Dl{v:Value}(hx:aD fr x=some v):Yd P C fr own G ⟨dst, .move x,ty',pos,af,gd⟩ v:=by
 intro a w hf hh;simp only[execOp,bz hf hx];rfl
def EK{v:Value}(hx:aD fr x=some v):Yd P C fr own G ⟨dst, .assign x,ty',pos,af,gd⟩ v:=by
 intro a w hf hh;simp only[execOp,bz hf hx];rfl
def R7{z:Operand}{v:Value}(hc:aD fr z=some (.bool true))(hx:aD fr x=some v):Yd P C fr own G ⟨dst, .pick z x y,ty',pos,af,gd⟩ v:=by
 intro a w hf hh;simp only[execOp,bz hf hc,bz hf hx,asBool];rfl
def Xw{z:Operand}{v:Value}(hc:aD fr z=some (.bool false))(hx:aD fr y=some v):Yd P C fr own G ⟨dst, .pick z x y,ty',pos,af,gd⟩ v:=by
 intro a w hf hh;simp only[execOp,bz hf hc,bz hf hx,asBool];rfl
def sk{ad:Addr}(hx:aD fr x=some (.pointer (some ad))):Yd P C fr own G ⟨dst, .nilCheck x,ty',pos,af,gd⟩ (.pointer (some ad)):=by
 intro a w hf hh;simp only[execOp,bz hf hx];rfl
def xO{b o f off:Nat}[hF:nI P t f off](hx:aD fr x=some (.pointer (some ⟨b,o,none⟩))):
  Yd P C fr own G ⟨dst, .fieldAddr t x f,ty',pos,af,gd⟩ (.pointer (some ⟨b,o+off,none⟩)):=by
 intro a w hf hh;simp only[execOp,bz hf hx];have:=hF.at_ b o w;rw[tc] at this;exact cI this
def EE{vs:Array Value}{i:Nat}{v:Value}(hx:aD fr x=some (.tuple vs))(hv:vs[i]? =some v):Yd P C fr own G ⟨dst, .extract x i,ty',pos,af,gd⟩ v:=by
 intro a w hf hh;simp only[execOp,bz hf hx,Instr.extract,hv];rfl
def yJ{fn:Fn}{c1 c2:Array Operand}{l1 l2:List Value}(h1:c1.toList.mapM (aD fr)=some l1)(h2:c2.toList.mapM (aD fr)=some l2):
  Yd P C fr own G ⟨dst, .makeFunc fn c1 c2,ty',pos,af,gd⟩ (.func fn ⟨l1⟩ ⟨l2⟩):=by
 intro a w hf hh;have key: ∀(l:List Operand) (m:List Value),l.mapM (aD fr)=some m->l.map a.eval=m:=by
  intro l
  induction l with
  |nil=>intro m h;simp at h;subst h;rfl
  |cons o t ih=>
   intro m h;rw[nU] at h
   cases ho:aD fr o with
   |none=>simp[ho] at h
   |some u=>
    cases ht:t.mapM (aD fr) with
    |none=>simp[ho,ht] at h
    |some m'=>
     simp[ho,ht] at h;subst h;simp[bz hf ho,ih _ ht]
 have e1:c1.map a.eval=⟨l1⟩:=by apply Array.ext';simpa using key _ _ h1
 have e2:c2.map a.eval=⟨l2⟩:=by apply Array.ext';simpa using key _ _ h2
 simp only[execOp,e1,e2];rfl
def j0{op:BinOp}{k:IntKind}{p q:Int}{v:Value}(hx:aD fr x=some (.int k p))(hy:aD fr y=some (.int k q))(hs: ∀w,(binOp op t (.int k p) (.int k q)).run P w= .ok v w):
  Yd P C fr own G ⟨dst, .binOp op t x y t',ty',pos,af,gd⟩ v:=by
 intro a w hf hh;simp only[execOp,bz hf hx,bz hf hy];have:(eqGuard op t x y (.int k p) (.int k q)).run P w= .ok () w:=by cases op<;>rfl
 exact cI (by rw[bh this];exact hs w)
def auA(k:IntKind)(p q:Int)(w:World):(binOp .add t (.int k p) (.int k q)).run P w= .ok (.int k (k.wrap (p+q))) w:=by simp[binOp,Op.intArith,run_pure]
def My(k:IntKind)(p q:Int)(w:World):(binOp .sub t (.int k p) (.int k q)).run P w= .ok (.int k (k.wrap (p-q))) w:=by simp[binOp,Op.intArith,run_pure]
def as8(k:IntKind)(p q:Int)(w:World):(binOp .mul t (.int k p) (.int k q)).run P w= .ok (.int k (k.wrap (p*q))) w:=by simp[binOp,Op.intArith,run_pure]
def Zn(k:IntKind)(p q:Int)(w:World)(h:q≠0):(binOp .quo t (.int k p) (.int k q)).run P w= .ok (.int k (k.wrap (p.tdiv q))) w:=by simp[binOp,Op.intDiv,run_pure,h]
def SJ(k:IntKind)(p q:Int)(w:World)(h:q≠0):(binOp .rem t (.int k p) (.int k q)).run P w= .ok (.int k (p.tmod q)) w:=by simp[binOp,Op.intDiv,run_pure,h]
def at3(k:IntKind)(p q:Int)(w:World):(binOp .lss t (.int k p) (.int k q)).run P w= .ok (.bool (decide (p<q))) w:=by simp[binOp,Op.intCmp,run_pure]
def atd(k:IntKind)(p q:Int)(w:World):(binOp .leq t (.int k p) (.int k q)).run P w= .ok (.bool (decide (p<=q))) w:=by simp[binOp,Op.intCmp,run_pure]
def Rj(k:IntKind)(p q:Int)(w:World):(binOp .gtr t (.int k p) (.int k q)).run P w= .ok (.bool (decide (q<p))) w:=by simp[binOp,Op.intCmp,run_pure]
def Xa(k:IntKind)(p q:Int)(w:World):(binOp .geq t (.int k p) (.int k q)).run P w= .ok (.bool (decide (q<=p))) w:=by simp[binOp,Op.intCmp,run_pure]
def ar7(k:IntKind)(p q:Int)(w:World):(binOp .eql t (.int k p) (.int k q)).run P w= .ok (.bool (decide (p=q))) w:=by
 have:(p==q)=decide (p=q):=by rw[oK];simp
 simp[binOp,Op.intCmp,run_pure,this]
def ar4(k:IntKind)(p q:Int)(w:World):(binOp .neq t (.int k p) (.int k q)).run P w= .ok (.bool (decide (p≠q))) w:=by
 have:(p !=q)=decide (p≠q):=by rw[oK];simp
 simp[binOp,Op.intCmp,run_pure,this]
def qO{k:IntKind}{p:Int}(h:k.min<=p/\p<=k.max):k.wrap p=p:=by
 cases k<;>simp only[IntKind.min,IntKind.max,IntKind.wrap,IntKind.bits,IntKind.signed] at* <;>simp at h⊢ <;>(try split)<;>omega
def LR{k:IntKind}{p q:Int}(hx:aD fr x=some (.int k p))(hy:aD fr y=some (.int k q))(h:k.min<=p+q/\p+q<=k.max):Yd P C fr own G ⟨dst, .binOp .add t x y t',ty',pos,af,gd⟩ (.int k (p+q)):=
 j0 hx hy fun w=>by rw[auA,qO h]
def Yj{k:IntKind}{p q:Int}(hx:aD fr x=some (.int k p))(hy:aD fr y=some (.int k q))(h:k.min<=p-q/\p-q<=k.max):Yd P C fr own G ⟨dst, .binOp .sub t x y t',ty',pos,af,gd⟩ (.int k (p-q)):=
 j0 hx hy fun w=>by rw[My,qO h]
def WV{k:IntKind}{p q:Int}(hx:aD fr x=some (.int k p))(hy:aD fr y=some (.int k q))(h:k.min<=p*q/\p*q<=k.max):Yd P C fr own G ⟨dst, .binOp .mul t x y t',ty',pos,af,gd⟩ (.int k (p*q)):=
 j0 hx hy fun w=>by rw[as8,qO h]
def aAB{k:IntKind}{p q:Int}(hx:aD fr x=some (.int k p))(hy:aD fr y=some (.int k q)):Yd P C fr own G ⟨dst, .binOp .sub t x y t',ty',pos,af,gd⟩ (.int k (k.wrap (p-q))):=j0 hx hy fun w=>My k p q w
def Jn{k:IntKind}{p q:Int}(hx:aD fr x=some (.int k p))(hy:aD fr y=some (.int k q))(h:q≠0):Yd P C fr own G ⟨dst, .binOp .quo t x y t',ty',pos,af,gd⟩ (.int k (k.wrap (p.tdiv q))):=j0 hx hy fun w=>Zn k p q w h
def Eb{k:IntKind}{p q:Int}(hx:aD fr x=some (.int k p))(hy:aD fr y=some (.int k q))(h:q≠0):Yd P C fr own G ⟨dst, .binOp .rem t x y t',ty',pos,af,gd⟩ (.int k (p.tmod q)):=j0 hx hy fun w=>SJ k p q w h
def YR{k:IntKind}{p q:Int}(hx:aD fr x=some (.int k p))(hy:aD fr y=some (.int k q)):Yd P C fr own G ⟨dst, .binOp .lss t x y t',ty',pos,af,gd⟩ (.bool (decide (p<q))):=j0 hx hy fun w=>at3 k p q w
def Xy{k:IntKind}{p q:Int}(hx:aD fr x=some (.int k p))(hy:aD fr y=some (.int k q)):Yd P C fr own G ⟨dst, .binOp .leq t x y t',ty',pos,af,gd⟩ (.bool (decide (p<=q))):=j0 hx hy fun w=>atd k p q w
def Mh{k:IntKind}{p q:Int}(hx:aD fr x=some (.int k p))(hy:aD fr y=some (.int k q)):Yd P C fr own G ⟨dst, .binOp .gtr t x y t',ty',pos,af,gd⟩ (.bool (decide (q<p))):=j0 hx hy fun w=>Rj k p q w
def WB{k:IntKind}{p q:Int}(hx:aD fr x=some (.int k p))(hy:aD fr y=some (.int k q)):Yd P C fr own G ⟨dst, .binOp .geq t x y t',ty',pos,af,gd⟩ (.bool (decide (q<=p))):=j0 hx hy fun w=>Xa k p q w
def GH{k:IntKind}{p q:Int}(hx:aD fr x=some (.int k p))(hy:aD fr y=some (.int k q)):Yd P C fr own G ⟨dst, .binOp .eql t x y t',ty',pos,af,gd⟩ (.bool (decide (p=q))):=j0 hx hy fun w=>ar7 k p q w
def ZJ{k:IntKind}{p q:Int}(hx:aD fr x=some (.int k p))(hy:aD fr y=some (.int k q)):Yd P C fr own G ⟨dst, .binOp .neq t x y t',ty',pos,af,gd⟩ (.bool (decide (p≠q))):=j0 hx hy fun w=>ar4 k p q w
variable {e s by_:Nat}
def Cr[hT:cB P t e s by_]{ad:Option Addr}{len cap:Nat}(hx:aD fr x=some (.slice ad len cap)):
  Yd P C fr own G ⟨dst, .call ⟨.builtin .len, #[x], #[t]⟩,ty',pos,af,gd⟩ (.int .i64 len):=by
 intro a w hf hh;simp only[execOp,resolve,iQ,bJ,dS,bz hf hx];have h1:(Builtin.len_ #[t] ty' #[.slice ad len cap]).run P w= .ok (.int .i64 len) w:=by
  simp only[Builtin.len_];show(underlying t>>=_).run P w=_;rw[bh (hT.u w)];rfl
 exact cI h1
def Gk[hT:cB P t e s by_]{k:IntKind}{b off len cap:Nat}{i:Int}(hx:aD fr x=some (.slice (some ⟨b,off,none⟩) len cap))(hy:aD fr y=some (.int k i))(h0:0<=i)(h1:i<len):
  Yd P C fr own G ⟨dst, .indexAddr t x y,ty',pos,af,gd⟩ (.pointer (some ⟨b,off+i.toNat*s,none⟩)):=by
 intro a w hf hh;simp only[execOp,bz hf hx,bz hf hy];have:(Instr.indexAt t (.slice (some ⟨b,off,none⟩) len cap) (.int k i)).run P w= .ok (.pointer (some ⟨b,off+i.toNat*s,none⟩)) w:=by
  unfold Instr.indexAt;show(underlying t>>=_).run P w=_;rw[bh (hT.u w)];show(underlying t>>=_).run P w=_;rw[bh (hT.u w)];simp only[h0,h1,and_self,if_true];show(sizeOf e>>=_).run P w=_;rw[bh (hT.siz w),tc];rfl
 exact cI this
def vr{k:IntKind}{v:Int}{m:Nat}{c:BoundsCode}(w:World)(h0:0<=v)(h1:v<=m):(Instr.sliceBound (.int k v) m c).run P w= .ok v.toNat w:=by
 unfold Instr.sliceBound;simp[asIntOf,h0,h1,run_pure]
def lP(ad:Option Addr)(len cap lo hi mx s:Nat):Value:= .slice (if mx=lo then ad else ad.map (·.add (lo*s))) (hi-lo) (mx-lo)
def y5[hT:cB P t e s by_]{ad:Option Addr}{len cap:Nat}(w:World){lo hi mx:Option Value}{l h m:Nat}(hb: ∀w,(Instr.sliceBounds true len cap lo hi mx).run P w= .ok (l,h,m) w):
  (Instr.sliceAt t (.slice ad len cap) lo hi mx).run P w= .ok (lP ad len cap l h m s) w:=by
 unfold Instr.sliceAt;rw[bh (hT.u w)];show(Instr.slice t (.slice ad len cap) lo hi mx).run P w=_;unfold Instr.slice;rw[bh (hT.u w)];show(Instr.sliceBounds true len cap lo hi mx>>=_).run P w=_;rw[bh (hb w)];show(sizeOf e>>=_).run P w=_;rw[bh (hT.siz w)];rfl
def DW[hT:cB P t e s by_]{k:IntKind}{ad:Option Addr}{len cap:Nat}{h:Int}(hx:aD fr x=some (.slice ad len cap))(hy:aD fr y=some (.int k h))(h0:0<=h:=by omega)(h1:h<=cap:=by omega):
  Yd P C fr own G ⟨dst, .slice t x none (some y) none,ty',pos,af,gd⟩ (.slice ad h.toNat cap):=by
 intro a w hf hh;simp only[execOp,bz hf hx,bz hf hy,qK,kR];have:=y5 (P:=P) (t:=t) (ad:=ad) (len:=len) (cap:=cap) w (lo:=none) (hi:=some (.int k h)) (mx:=none) (l:=0) (h:=h.toNat) (m:=cap) (fun w=>by
  simp[Instr.sliceBounds,vr w h0 h1,Result.andThen])
 have e2:lP ad len cap 0 h.toNat cap s= .slice ad h.toNat cap:=by
  unfold lP
  cases ad with
  |none=>simp
  |some ad=>simp[Addr.add]
 rw[<-e2];exact cI this
def Dw[hT:cB P t e s by_]{k:IntKind}{ad:Option Addr}{len cap:Nat}{l:Int}(hx:aD fr x=some (.slice ad len cap))(hy:aD fr y=some (.int k l))(h0:0<=l:=by omega)(h1:l<=len:=by omega):
  Yd P C fr own G ⟨dst, .slice t x (some y) none none,ty',pos,af,gd⟩ (lP ad len cap l.toNat len cap s):=by
 intro a w hf hh;simp only[execOp,bz hf hx,bz hf hy,qK,kR];exact cI (y5 (P:=P) (t:=t) (ad:=ad) (len:=len) (cap:=cap) w (lo:=some (.int k l)) (hi:=none) (mx:=none) (fun w=>by
  simp[Instr.sliceBounds,vr w h0 h1,Result.andThen]))
def aj8[hT:cB P t e s by_]{k k':IntKind}{ad:Option Addr}{len cap:Nat}{l h:Int}{z:Operand}(hx:aD fr x=some (.slice ad len cap))(hy:aD fr y=some (.int k l))(hz:aD fr z=some (.int k' h))(h0:0<=l)(h1:l<=h)(h2:h<=cap):
  Yd P C fr own G ⟨dst, .slice t x (some y) (some z) none,ty',pos,af,gd⟩ (lP ad len cap l.toNat h.toNat cap s):=by
 intro a w hf hh;simp only[execOp,bz hf hx,bz hf hy,bz hf hz,qK,kR];exact cI (y5 (P:=P) (t:=t) (ad:=ad) (len:=len) (cap:=cap) w (lo:=some (.int k l)) (hi:=some (.int k' h)) (mx:=none) (fun w=>by
  have h1':l<=(h.toNat:Int):=by omega
  simp[Instr.sliceBounds,vr w (Int.le_trans h0 h1) h2,vr w h0 h1',Result.andThen]))
def UY[hT:cB P t e s by_]{k k':IntKind}{ad:Option Addr}{len cap:Nat}{h m:Int}{z:Operand}(hx:aD fr x=some (.slice ad len cap))(hy:aD fr y=some (.int k h))(hz:aD fr z=some (.int k' m))(h0:0<=h)(h1:h<=m)(h2:m<=cap):
  Yd P C fr own G ⟨dst, .slice t x none (some y) (some z),ty',pos,af,gd⟩ (.slice ad h.toNat m.toNat):=by
 intro a w hf hh;simp only[execOp,bz hf hx,bz hf hy,bz hf hz,qK,kR];have:=y5 (P:=P) (t:=t) (ad:=ad) (len:=len) (cap:=cap) w (lo:=none) (hi:=some (.int k h)) (mx:=some (.int k' m)) (l:=0) (h:=h.toNat) (m:=m.toNat) (fun w=>by
  have h1':h<=(m.toNat:Int):=by omega
  simp[Instr.sliceBounds,vr w (Int.le_trans h0 h1) h2,vr w h0 h1',Result.andThen])
 have e2:lP ad len cap 0 h.toNat m.toNat s= .slice ad h.toNat m.toNat:=by
  unfold lP
  cases ad with
  |none=>simp
  |some ad=>simp[Addr.add]
 rw[<-e2];exact cI this
class pg (P:Program) (t:TypeId) (k:outParam IntKind):Prop where u: ∀w,(underlying t).run P w= .ok (.int k) w
def A1{k k':IntKind}{p:Int}[hs:pg P t k][hd:pg P t' k'](hx:aD fr x=some (.int k p)):Yd P C fr own G ⟨dst, .convert t t' x,ty',pos,af,gd⟩ (.int k' (k'.wrap p)):=by
 intro a w hf hh;simp only[execOp,bz hf hx];have:(convert t t' (.int k p)).run P w= .ok (.int k' (k'.wrap p)) w:=by
  unfold convert;rw[bh (hs.u w),bh (hd.u w)];rfl
 exact cI this
def Ny{k k':IntKind}{p:Int}[hs:pg P t k][hd:pg P t' k'](hx:aD fr x=some (.int k p))(h:k'.min<=p/\p<=k'.max):Yd P C fr own G ⟨dst, .convert t t' x,ty',pos,af,gd⟩ (.int k' p):=by
 have:=A1 (P:=P) (C:=C) (own:=own) (G:=G) (dst:=dst) (ty':=ty') (pos:=pos) (af:=af) (gd:=gd) (t:=t) (t':=t') hx;rwa [qO h] at this
def Kd{b:Bool}(hx:aD fr x=some (.bool b)):Yd P C fr own G ⟨dst, .unOp .not t x,ty',pos,af,gd⟩ (.bool (!b)):=by
 intro a w hf hh;simp only[execOp,bz hf hx,Op.unary];rfl
def E7{k:IntKind}{p:Int}(hx:aD fr x=some (.int k p)):Yd P C fr own G ⟨dst, .unOp .neg t x,ty',pos,af,gd⟩ (.int k (k.wrap (0-p))):=by
 intro a w hf hh;simp only[execOp,bz hf hx,Op.unary,Op.intArith];rfl
end
def gp{w:World}{b:Nat}{o:Obj}(h:w.heap[b]? =some o):b<w.heap.size:=by
 rcases fW b w.heap.size with h'|h'
 .exact h'
 .simp[nM h'] at h
def bF.gnone{C:aC}{own:List au}{G:Gh}{w:World}(h:bF C own G w){b:Nat}(hb:w.heap.size<=b):G b=none:=by
 cases hG:G b with
 |none=>rfl
 |some cs=>
  obtain⟨ty,fz,hc⟩:=h.sub b cs hG;have:=gp hc;omega
def bF.alloc{C:aC}{own:List au}{G:Gh}{w:World}(h:bF C own G w)(cs:List Value)(ty:TypeId):
  bF C (⟨w.heap.size,cs,ty,true⟩::own) G (w.alloc (.cells ⟨cs⟩ ty)):=by
 have old: ∀b,b<w.heap.size->(w.alloc (.cells ⟨cs⟩ ty)).heap[b]? =w.heap[b]? :=fun b hb=>RowKit.Below.heap_alloc _ _ _ hb;refine⟨h.os,h.tape,h.output,?_,?_,?_,h.gle,h.gold,?_,?_,h.dr,fun p hp=>⟨(h.ext p hp).1,by rw[old _ (gp (h.ext p hp).2)];exact(h.ext p hp).2⟩⟩
 .have:=h.size;simp;omega
 .intro b hb hm;rw[old b (by have:=h.size;omega)];exact h.keep b hb hm
 .intro b cs' hb
  obtain⟨ty',fz,hc⟩:=h.sub b cs' hb;exact⟨ty',fz,by rw[old b (gp hc)];exact hc⟩
 .intro o ho
  rcases aU.1 ho with rfl|ho
  .refine⟨by show(w.heap.push _)[w.heap.size]? =_;simp,h.gnone (bQ _),fun _=>h.size,fun e=>by cases e⟩
  .obtain⟨h1,h2⟩:=h.hown o ho
   exact⟨by rw[old _ (gp h1)];exact h1,h2⟩
 .refine List.Pairwise.cons ?_ h.nd
  intro o ho;have:=gp (h.hown o ho).1;show w.heap.size≠o.b;omega
def f6(w:World)(b:Nat)(o:Obj):World:={w with heap:=w.heap.setIfInBounds b o}
def AT{l:List au}:l.Pairwise (fun x y=>x.b≠y.b)↔(l.map (·.b)).Pairwise (· ≠ ·):=by rw[List.pairwise_map]
def iA.spec{own own':List au}{b:Nat}{cs cs':List Value}{ty:TypeId}{lo:Bool}(h:iA own b cs ty lo cs' own')(nd:own.Pairwise (fun x y=>x.b≠y.b)):
  ⟨b,cs,ty,lo⟩∈own/\(∀o,o∈own'->o=⟨b,cs',ty,lo⟩\/(o∈own/\o.b≠b))/\own'.map (·.b)=own.map (·.b):=by
 induction h with
 |hd b cs cs' ty lo t=>
  refine⟨aQ,fun o ho=>?_,J⟩;rcases aU.1 ho with rfl|h
  .exact .inl J
  .exact .inr ⟨aJ _ h,Ne.symm ((bZ.1 nd).1 _ h)⟩
 |tl o t t' b cs cs' ty lo h ih=>
  obtain⟨h1,h2,h3⟩:=ih (bZ.1 nd).2;refine⟨aJ _ h1,fun x hx=>?_,by simp[h3]⟩;rcases aU.1 hx with rfl|hx
  .exact .inr ⟨aQ,(bZ.1 nd).1 _ h1⟩
  .exact(h2 x hx).imp id (fun k=>⟨aJ _ k.1,k.2⟩)
def CB{w:World}{b k:Nat}{o:Obj}(hk:k≠b):(f6 w b o).heap[k]? =w.heap[k]? :=by
 simp only[f6];rw[dW];simp[Ne.symm hk]
def I9{w:World}{b:Nat}{o:Obj}(hb:b<w.heap.size):(f6 w b o).heap[b]? =some o:=by
 simp only[f6];rw[dW];simp[hb]
def bF.extNe{C:aC}{own:List au}{G:Gh}{w:World}(h:bF C own G w){p:Nat×Obj}(hp:p∈C.ex){b:Nat}{cs:Array Value}{ty:TypeId}{z:Nat×Nat}(hb:w.heap[b]? =some (.cells cs ty z)):p.1≠b:=fun e=>by
 obtain⟨h1,h2⟩:=h.ext p hp;rw[e,hb] at h2;exact h1 _ _ _ (Option.some.inj h2).symm
def bF.extM{C:aC}{M rest:List au}{G:Gh}{w:World}(h:bF C (M++rest) G w){p:Nat×Obj}(hp:p∈C.ex):p.1∉M.map (·.b):=fun hm=>by
 obtain⟨m,hm,e⟩:=bX.1 hm;exact h.extNe hp (h.hown m (cV _ hm)).1 e.symm
def bF.store{C:aC}{own own':List au}{G:Gh}{w:World}{b:Nat}{cs cs':List Value}{ty:TypeId}{lo:Bool}(h:bF C own G w)(hu:iA own b cs ty lo cs' own'):
  bF C own' G (f6 w b (.cells ⟨cs'⟩ ty (0,0))):=by
 obtain⟨h1,h2,h3⟩:=hu.spec h.nd;obtain⟨hb,hGb,hlo1,hlo2⟩:=h.hown _ h1;have hlt:=gp hb;refine⟨h.os,h.tape,h.output,by simpa[f6] using h.size,?_,?_,h.gle,h.gold,?_,AT.2 (h3▸AT.1 h.nd),h.dr,fun p hp=>⟨(h.ext p hp).1,by rw[CB (h.extNe hp hb)];exact(h.ext p hp).2⟩⟩
 .intro k hk hm
  by_cases hkb:k=b
  .subst hkb
   cases hlo:lo with
   |true=>have h5:=hlo1 hlo;simp only[] at h5;omega
   |false=>exact absurd (hlo2 hlo) hm
  .rw[CB hkb];exact h.keep k hk hm
 .intro k cs1 hk
  obtain⟨ty',fz,hc⟩:=h.sub k cs1 hk;have:k≠b:=fun e=>by subst e;rw[show G k=none from hGb] at hk;cases hk
  exact⟨ty',fz,by rw[CB this];exact hc⟩
 .intro o ho
  rcases h2 o ho with rfl|⟨ho',hne⟩
  .exact⟨I9 hlt,hGb,hlo1,hlo2⟩
  .obtain⟨k1,k2⟩:=h.hown o ho'
   exact⟨by rw[CB hne];exact k1,k2⟩
def i4.spec{own own':List au}{o:au}(h:i4 own o own')(nd:own.Pairwise (fun x y=>x.b≠y.b)):
  o∈own/\(∀x,x∈own'->x∈own/\x.b≠o.b)/\own'.Pairwise (fun x y=>x.b≠y.b):=by
 induction h with
 |hd o t=>exact⟨aQ,fun x hx=>⟨aJ _ hx,Ne.symm ((bZ.1 nd).1 _ hx)⟩,(bZ.1 nd).2⟩
 |tl y t t' o h ih=>
  obtain⟨h1,h2,h3⟩:=ih (bZ.1 nd).2;refine⟨aJ _ h1,fun x hx=>?_,List.Pairwise.cons (fun x hx=>(bZ.1 nd).1 _ (h2 x hx).1) h3⟩;rcases aU.1 hx with rfl|hx
  .exact⟨aQ,(bZ.1 nd).1 _ h1⟩
  .exact⟨aJ _ (h2 x hx).1,(h2 x hx).2⟩
def bF.freeze{C:aC}{own own':List au}{G:Gh}{w:World}{b:Nat}{cs:List Value}{ty:TypeId}(h:bF C own G w)(hr:i4 own ⟨b,cs,ty,true⟩ own'):
  bF C own' (fun k=>if k=b then some cs else G k) w/\bD G (fun k=>if k=b then some cs else G k):=by
 obtain⟨h1,h2,h3⟩:=hr.spec h.nd;obtain⟨hb,hGb,hlo,_⟩:=h.hown _ h1;have hle:bD G (fun k=>if k=b then some cs else G k):=fun k c hk=>by
  have:k≠b:=fun e=>by subst e;rw[show G k=none from hGb] at hk;cases hk
  simp[this,hk]
 refine⟨⟨h.os,h.tape,h.output,h.size,h.keep,?_,h.gle.trans hle,?_,?_,h3,h.dr,h.ext⟩,hle⟩
 .intro k c hk
  by_cases e:k=b
  .subst e;simp only[if_true] at hk;cases hk;exact⟨ty,(0,0),hb⟩
  .simp only[e,if_false] at hk;exact h.sub k c hk
 .intro k hk
  have h5:C.w0.heap.size<=b:=hlo J;have:k≠b:=by omega
  simp only[this,if_false];exact h.gold k hk
 .intro o ho
  obtain⟨k1,k2⟩:=h2 o ho;obtain⟨m1,m2,m3⟩:=h.hown o k1;exact⟨m1,by rw[if_neg k2];exact m2,m3⟩
def bF.drop{C:aC}{own own':List au}{G:Gh}{w:World}(h:bF C own G w)(hs:own'.Sublist own):bF C own' G w:=
 ⟨h.os,h.tape,h.output,h.size,h.keep,h.sub,h.gle,h.gold,fun o ho=>h.hown o (hs.subset ho),h.nd.sublist hs,h.dr,h.ext⟩
def bF.perm{C:aC}{own own':List au}{G:Gh}{w:World}(h:bF C own G w)(hs:own.Perm own'):bF C own' G w:=
 ⟨h.os,h.tape,h.output,h.size,h.keep,h.sub,h.gle,h.gold,fun o ho=>h.hown o (hs.mem_iff.2 ho),(hs.pairwise_iff (fun h=>Ne.symm h)).1 h.nd,h.dr,h.ext⟩
def bF.drew{C:aC}{own:List au}{G:Gh}{w:World}(h:bF C own G w):bF C own G {w with drawn:=w.drawn+1}:=
 ⟨h.os,h.tape,h.output,h.size,h.keep,h.sub,h.gle,h.gold,h.hown,h.nd,Nat.le_succ_of_le h.dr,h.ext⟩
def o5(P:Program)(f:FuncId):Prop:= ∃fn,P.funcs[f]? =some fn/\(fn.name== "runtime.NumGoroutine")=false/\fn.body.isNone=false
def jq(M:List au)(css:List (List Value)):List au:=(M.zip css).map fun p=>{p.1 with cs:=p.2}
def asB(M:List au):List au:=M.map fun o=>{o with lo:=false}
structure Fn (P:Program) (f:FuncId) (vs:List Value) (G:Gh) (K:Value->Gh->Prop):Prop where
 able:o5 P f
 run: ∀w,(∀b cs,G b=some cs-> ∃ty fz,w.heap[b]? =some (.cells ⟨cs⟩ ty fz))->
  Calls P f ⟨vs⟩ w fun e w'=> ∃v G',e= .returned v/\bF ⟨w,G,[],[],[],none,fun _=>none⟩ [] G' w'/\K v G'
structure lE (P:Program) (f:FuncId) (vs:List Value) (M:List au) (G:Gh) (K:Value->List (List Value)->Gh->Prop):Prop where
 able:o5 P f
 run: ∀w,bF ⟨w,G,M.map (·.b),[],[],none,fun _=>none⟩ (asB M) G w->
  Calls P f ⟨vs⟩ w fun e w'=> ∃v css G',e= .returned v/\css.length=M.length/\bF ⟨w,G,M.map (·.b),[],[],none,fun _=>none⟩ (jq (asB M) css) G' w'/\K v css G'
def Fn.mono{P:Program}{f:FuncId}{vs:List Value}{G:Gh}{K K':Value->Gh->Prop}(h:Fn P f vs G K)(hk: ∀v G',bD G G'->K v G'->K' v G'):Fn P f vs G K':=
 ⟨h.able,fun w hw=>(h.run w hw).mono fun _ _ ⟨v,G',he,hh,hK⟩=>⟨v,G',he,hh,hk v G' hh.gle hK⟩⟩
def bF.called{C:aC}{own:List au}{G G':Gh}{w w':World}(h:bF C own G w)(k:bF ⟨w,G,[],[],[],none,fun _=>none⟩ [] G' w'):bF C own G' w':=by
 have same: ∀b o,w.heap[b]? =some o->w'.heap[b]? =some o:=fun b o hb=>by rw[k.keep b (gp hb) (by simp)];exact hb
 have hsz:w.heap.size<=w'.heap.size:=k.size;refine⟨k.os.trans h.os,k.tape.trans h.tape,k.output.trans h.output,dJ h.size hsz,?_,k.sub,h.gle.trans k.gle,?_,?_,h.nd,dJ h.dr k.dr,fun p hp=>⟨(h.ext p hp).1,same _ _ (h.ext p hp).2⟩⟩
 .intro b hb hm;have:=h.size;rw[k.keep b (by show b<w.heap.size;omega) (by simp)];exact h.keep b hb hm
 .intro b hb;have:=h.size;rw[k.gold b (by show b<w.heap.size;omega)];exact h.gold b hb
 .intro o ho
  obtain⟨h1,h2,h3⟩:=h.hown o ho;exact⟨same _ _ h1,by rw[k.gold _ (gp h1)];exact h2,h3⟩
def Tm(M:List au)(css:List (List Value))(h:css.length=M.length):(jq M css).map (·.b)=M.map (·.b):=by
 induction M generalizing css with
 |nil=>simp[jq]
 |cons o M ih=>
  cases css with
  |nil=>simp at h
  |cons c css=>simp only[bY,Nat.add_right_cancel_iff] at h;simpa[jq] using ih css h
def US{M:List au}{css:List (List Value)}{o:au}(ho:o∈jq M css): ∃c∈css,∃m∈M,o={m with cs:=c}/\{m with cs:=c,lo:=false}∈jq (asB M) css:=by
 induction M generalizing css with
 |nil=>simp[jq] at ho
 |cons x M ih=>
  cases css with
  |nil=>simp[jq] at ho
  |cons c css=>
   simp only[jq,List.zip_cons_cons,bJ,aU] at ho;rcases ho with rfl|ho
   .exact⟨c,aQ,x,aQ,J,by simp[jq,asB]⟩
   .obtain⟨c',hc',m,hm,e,hh⟩:=ih ho
    refine⟨c',aJ _ hc',m,aJ _ hm,e,?_⟩;simp only[jq,asB,bJ,List.zip_cons_cons,aU];exact .inr hh
def bF.lend{C:aC}{M rest:List au}{G:Gh}{w:World}(h:bF C (M++rest) G w):bF ⟨w,G,M.map (·.b),[],[],none,fun _=>none⟩ (asB M) G w:=by
 refine⟨J,J,J,bQ _,fun _ _ _=>J,h.sub,bD.refl _,fun _ _=>J,?_,?_,bQ _,fun p hp=>by cases hp⟩
 .intro o ho
  obtain⟨m,hm,rfl⟩:=bX.1 ho;obtain⟨h1,h2,_⟩:=h.hown m (cV _ hm);exact⟨h1,h2,by simp,fun _=>bX.2 ⟨m,hm,J⟩⟩
 .have:=(iY.1 h.nd).1
  unfold asB;rw[List.pairwise_map];exact this
def bF.calledM{C:aC}{M rest:List au}{G G':Gh}{w w':World}{css:List (List Value)}(h:bF C (M++rest) G w)(hl:css.length=M.length)(k:bF ⟨w,G,M.map (·.b),[],[],none,fun _=>none⟩ (jq (asB M) css) G' w'):
  bF C (jq M css++rest) G' w':=by
 have hsz:w.heap.size<=w'.heap.size:=k.size;have hnd:=h.nd;have inM: ∀b,b∈M.map (·.b)-> ∀o∈rest,o.b≠b:=fun b hb o ho e=>by
  obtain⟨m,hm,rfl⟩:=bX.1 hb;exact(iY.1 hnd).2.2 m hm o ho e.symm
 refine⟨k.os.trans h.os,k.tape.trans h.tape,k.output.trans h.output,dJ h.size hsz,?_,k.sub,h.gle.trans k.gle,?_,?_,?_,dJ h.dr k.dr,fun p hp=>⟨(h.ext p hp).1,by rw[k.keep _ (gp (h.ext p hp).2) (h.extM hp)];exact(h.ext p hp).2⟩⟩
 .intro b hb hm
  have hs:=h.size;have hnM:b∉M.map (·.b):=fun hb'=>by
   obtain⟨m,hmM,rfl⟩:=bX.1 hb';obtain⟨_,_,h3,h4⟩:=h.hown m (cV _ hmM)
   cases hlo:m.lo with
   |true=>have:=h3 hlo;omega
   |false=>exact hm (h4 hlo)
  rw[k.keep b (by show b<w.heap.size;omega) hnM];exact h.keep b hb hm
 .intro b hb;have:=h.size;rw[k.gold b (by show b<w.heap.size;omega)];exact h.gold b hb
 .intro o ho
  rcases bS.1 ho with ho|ho
  .obtain⟨c,hc,m,hm,rfl,hmem⟩:=US ho
   obtain⟨k1,k2,_⟩:=k.hown _ hmem;obtain⟨_,_,h3⟩:=h.hown m (cV _ hm);exact⟨k1,k2,h3⟩
  .obtain⟨h1,h2,h3⟩:=h.hown o (dX _ ho)
   have hnM:o.b∉M.map (·.b):=fun hb=>inM _ hb o ho J;exact⟨by rw[k.keep _ (gp h1) hnM];exact h1,by rw[k.gold _ (gp h1)];exact h2,h3⟩
 .rw[AT,cY,Tm _ _ hl,<-cY,<-AT];exact hnd
def L'{α:Type}{a b:α}{l:List α}{n:Nat}:(a::l).set (n+1) b=a::l.set n b:=rfl
def wY{α:Type}{a:α}{l:List α}{n:Nat}:(a::l).drop (n+1)=l.drop n:=rfl
abbrev ii:= @inferInstance.{0}
def nb{a b:Nat}(h:Nat.ble a b=true):a<=b:=Nat.le_of_ble_eq_true h
def sR{P:Program}{C:aC}{n:Nat}{fr:Fr}{own:List au}{G:Gh}{Q:Exit->Act->World->Prop}{id:Nat}{ops:Array Oper}{y:Code}(h:St C n fr own G (en P ops (Exit.then (y.wp P Q) Q) ops.toList)):St C n fr own G ((Code.seq (Code.region id ops false) y).wp P Q):=lO (UF h)
end Go.Sx
end
section
namespace Go.Sx
open Go
def aE:Value->List Value
 | .agg ⟨l⟩=>l
 |v=>[v]
def om(v:Value):v.cells=⟨aE v⟩:=by
 cases v<;>first|rfl|(rename_i a;cases a;rfl)
def flat:Value->Bool
 | .agg _=>false
 | .tuple _=>false
 |_=>true
def f5(fr:Fr):List Operand->Option (List Value)
 |[]=>some []
 |x::t=>match aD fr x,f5 fr t with
  |some v,some l=>some (v::l)
  |_,_=>none
def y8{fr:Fr}{a:Act}(h:kc fr a): ∀{l:List Operand} {vs:List Value},f5 fr l=some vs->l.map a.eval=vs
 |[],vs,e=>by simp[f5] at e;subst e;rfl
 |x::t,vs,e=>by
  simp only[f5] at e;split at e
  .rename_i v l hv hl
   cases e
   simp[bz h hv,y8 h hl]
  .cases e
section
variable {P:Program} {C:aC} {n:Nat} {fr:Fr} {own own':List au} {G:Gh} {ops:Array Oper} {Q:Exit->Act->World->Prop} {r:List Oper}
variable {dst:Option Nat} {t t' ty':TypeId} {pos:String} {af:Array Edge} {x y:Operand}
def Ch(P:Program)(C:aC)(n:Nat)(fr:Fr)(own:List au)(G:Gh)(o:Oper)(Φ:Act->World->Prop):Prop:=
 ∀(a:Act) (w:World) (Q:Exit->Act->World->Prop),gq C n fr own G a w->o.wp P a w Φ Q
def UQ{o:Oper}(hg:o.guard=none)(hc:Ch P C n fr own G o (en P ops Q r)):St C n fr own G (en P ops Q (o::r)):=by
 intro a w rl;simp only[en,Region.wanted,hg,if_true];exact hc a w _ rl
variable {Φ:Act->World->Prop} {gd:Option (Nat×Bool)}
def IL{w:World}{ty:TypeId}{v:Value}:(newVar ty v).run P w= .ok ⟨w.heap.size,0,none⟩ (w.alloc (.cells ⟨aE v⟩ ty)):=by
 unfold newVar newRow;rw[om];rfl
def jv{o:Oper}{v:Value}{w':World}{a:Act}{w:World}{Φ:Act->World->Prop}{Q:Exit->Act->World->Prop}(h:(execOp a.eval o).run P w= .ok (.value v) w')(hk:Φ (a.put o.dst v) w'):o.wp P a w Φ Q:=by
 simp only[Oper.wp,h,Oper.upon];exact hk
def AJ{z:Value}[hz:gk P t z](hd:cg n dst=true)(h: ∀b,St C n (put fr dst (.pointer (some ⟨b,0,none⟩))) (⟨b,aE z,t,true⟩::own) G Φ):
  Ch P C n fr own G ⟨dst, .alloc t,ty',pos,af,gd⟩ Φ:=by
 intro a w Q rl;have h1:(Instr.alloc t true (.tuple #[])).run P w= .ok (.pointer (some ⟨w.heap.size,0,none⟩)) (w.alloc (.cells ⟨aE z⟩ t)):=by
  unfold Instr.alloc;rw[bh (hz.zero w)];show(newVar t z>>=_).run P w=_;rw[bh IL];rfl
 refine jv (cI h1) (h w.heap.size _ _ ?_);exact(rl.heap (rl.h.alloc _ _)).put _ hd
def Xb{v:Value}(hx:aD fr x=some v)(hd:cg n dst=true)(h: ∀b,St C n (put fr dst (.pointer (some ⟨b,0,none⟩))) (⟨b,aE v,t,true⟩::own) G Φ):
  Ch P C n fr own G ⟨dst, .box t x,ty',pos,af,gd⟩ Φ:=by
 intro a w Q rl;have h1:(Instr.box t (a.eval x)).run P w= .ok (.pointer (some ⟨w.heap.size,0,none⟩)) (w.alloc (.cells ⟨aE v⟩ t)):=by
  unfold Instr.box;rw[bz rl.fr hx,bh IL];rfl
 refine jv (cI h1) (h w.heap.size _ _ ?_);exact(rl.heap (rl.h.alloc _ _)).put _ hd
def YJ{w:World}{b off:Nat}{cs:List Value}{ty:TypeId}{fz:Nat×Nat}{v:Value}(h:w.heap[b]? =some (.cells ⟨cs⟩ ty fz)):w.setCell ⟨b,off,none⟩ v=f6 w b (.cells ⟨cs.set off v⟩ ty fz):=by
 unfold World.setCell f6;congr 1;apply Array.ext_getElem?;intro i;rw[Array.getElem?_modify,dW];by_cases hi:b=i
 .subst hi
  have:=gp h;simp only[if_true,h,kR,this];simp
 .simp[hi]
def ZX{w:World}{b off:Nat}{cs:List Value}{ty:TypeId}{v:Value}(hv:flat v=true)(h:w.heap[b]? =some (.cells ⟨cs⟩ ty (0,0)))(ho:off<cs.length):
  (store ⟨b,off,none⟩ v).run P w= .ok () (f6 w b (.cells ⟨cs.set off v⟩ ty (0,0))):=by
 have hc:w.cell? ⟨b,off,none⟩=some cs[off]:=by rw[Bm h,aZ ho]
 have hf:w.frozen? ⟨b,off,none⟩=false:=by simp[World.frozen?,h]
 cases v<;>first|(simp[flat] at hv;done)|(simp only[store,Sem.run,hc,hf,YJ h];rfl)
def UX(w:World)(b:Nat)(o o':Obj):f6 (f6 w b o) b o'=f6 w b o':=by
 simp[f6]
def Z7{w:World}{b:Nat}{o:Obj}(h:w.heap[b]? =some o):f6 w b o=w:=by
 unfold f6;congr 1;apply Array.ext_getElem?;intro i;rw[dW];by_cases hi:b=i
 .subst hi
  have hlt:=gp h;simp only[if_true,hlt];rw[h]
 .simp[hi]
def yH{b:Nat}{ty:TypeId}: ∀(vs:List Value) (w:World) (off i:Nat) (cs:List Value),(∀v∈vs,flat v=true)->w.heap[b]? =some (.cells ⟨cs⟩ ty (0,0))->off+i+vs.length<=cs.length->
  (storeCells ⟨b,off,none⟩ vs i).run P w= .ok () (f6 w b (.cells ⟨cp cs (off+i) vs⟩ ty (0,0)))
 |[],w,off,i,cs,_,h,_=>by
  unfold storeCells cp;rw[Z7 h];rfl
 |v::vs,w,off,i,cs,hf,h,hl=>by
  unfold storeCells;simp only[bY] at hl;rw[tc,bh (ZX (hf v aQ) h (by omega))];rw[yH vs _ off (i+1) (cs.set (off+i) v) (fun u hu=>hf u (aJ _ hu)) (I9 (gp h)) (by simp;omega)];rw[UX];rfl
def Dk{v:Value}{b off k:Nat}{cs:List Value}{ty:TypeId}{lo:Bool}(hx:aD fr x=some (.pointer (some ⟨b,off,none⟩)))(hy:aD fr y=some v)[hs:mz P t k]
  (hu:iA own b cs ty lo (cp cs off (aE v)) own')(hk:(aE v).length=k)(hl:off+k<=cs.length)(hf:(aE v).all flat=true)(hd:cg n dst=true)(h:St C n (put fr dst undef) own' G Φ):
  Ch P C n fr own G ⟨dst, .store t x y,ty',pos,af,gd⟩ Φ:=by
 intro a w Q rl;have hb:=(rl.h.hown _ (hu.spec rl.h.nd).1).1;have h1:(Instr.storeAt t (a.eval x) (a.eval y)).run P w= .ok () (f6 w b (.cells ⟨cp cs off (aE v)⟩ ty (0,0))):=by
  rw[bz rl.fr hx,bz rl.fr hy];simp only[Instr.storeAt,Instr.sureAddr];show(storeVar t ⟨b,off,none⟩ v).run P w=_;unfold storeVar;rw[bh (hs.siz w),om];simp only[oL,hk,ne_eq,not_true_eq_false,if_false];have:=yH (P:=P) (aE v) w off 0 cs (by simpa using hf) hb (by omega);simpa using this
 have h2:(execOp a.eval ⟨dst, .store t x y,ty',pos,af,gd⟩).run P w= .ok .skip (f6 w b (.cells ⟨cp cs off (aE v)⟩ ty (0,0))):=by
  simp only[execOp];rw[bh h1];rfl
 simp only[Oper.wp,h2,Oper.upon];exact h _ _ ((rl.heap (rl.h.store hu)).put _ hd)
def wW{v:Value}{b off:Nat}{cs:List Value}{ty:TypeId}{lo:Bool}(hx:aD fr x=some (.pointer (some ⟨b,off,none⟩)))(hy:aD fr y=some v)[hs:i9 P t]
  (hu:iA own b cs ty lo (cs.set off v) own')(hl:off<cs.length)(hf:flat v=true)(hd:cg n dst=true)(h:St C n (put fr dst undef) own' G Φ):
  Ch P C n fr own G ⟨dst, .store t x y,ty',pos,af,gd⟩ Φ:=by
 intro a w Q rl;have hb:=(rl.h.hown _ (hu.spec rl.h.nd).1).1;have hc:v.cells= #[v]:=by cases v<;>first|rfl|(simp[flat] at hf)
 have h1:(Instr.storeAt t (a.eval x) (a.eval y)).run P w= .ok () (f6 w b (.cells ⟨cs.set off v⟩ ty (0,0))):=by
  rw[bz rl.fr hx,bz rl.fr hy];simp only[Instr.storeAt,Instr.sureAddr];show(storeVar t ⟨b,off,none⟩ v).run P w=_;unfold storeVar;rw[bh (hs.siz w),hc];simp only[oL,bY,kS,ne_eq,not_true_eq_false,if_false,dL];have:=yH (P:=P) [v] w off 0 cs (by simpa using hf) hb (by simp;omega);simpa[cp] using this
 have h2:(execOp a.eval ⟨dst, .store t x y,ty',pos,af,gd⟩).run P w= .ok .skip (f6 w b (.cells ⟨cs.set off v⟩ ty (0,0))):=by
  simp only[execOp];rw[bh h1];rfl
 simp only[Oper.wp,h2,Oper.upon];exact h _ _ ((rl.heap (rl.h.store hu)).put _ hd)
def C9{f:FuncId}(h:o5 P f)(args:Array Value)(w:World):(callFunc f args).run P w= .ok (.enter f args) w:=by
 obtain⟨fn,h1,h2,h3⟩:=h;unfold callFunc;show(program>>=_).run P w=_;rw[bh (a:=P) (w':=w) J];simp only[h1,h2,h3];rfl
def CA{f:FuncId}{fo:Operand}{args:Array Operand}{tys:Array TypeId}{vs c1 c2:List Value}{a:Act}{w:World}(h:o5 P f)(hf:kc fr a)(ho:aD fr fo=some (.func (.func f) ⟨c1⟩ ⟨c2⟩))(hv:f5 fr args.toList=some vs):
  (execOp a.eval ⟨dst, .call ⟨.value fo,args,tys⟩,ty',pos,af,gd⟩).run P w= .ok (.enter f ⟨c1++vs++c2⟩) w:=by
 have e:args.map a.eval=⟨vs⟩:=by apply Array.ext';simpa using y8 hf hv
 simp only[execOp,resolve,bz hf ho,e,Deferred.ofValue];show(invoke (.fn (.func f) ⟨c2⟩) (⟨c1⟩++⟨vs⟩)).run P w=_;simp only[invoke];rw[C9 h];simp
def OP{f:FuncId}{fo:Operand}{args:Array Operand}{tys:Array TypeId}{vs c1 c2:List Value}{K:Value->Gh->Prop}(ho:aD fr fo=some (.func (.func f) ⟨c1⟩ ⟨c2⟩))(hv:f5 fr args.toList=some vs)
  (hF:Fn P f (c1++vs++c2) G K)(hd:cg n dst=true)(h: ∀v (G':Gh),[GE G G']->K v G'->St C n (put fr dst v) own G' Φ):
  Ch P C n fr own G ⟨dst, .call ⟨.value fo,args,tys⟩,ty',pos,af,gd⟩ Φ:=by
 intro a w Q rl;have h2:=CA (P:=P) (dst:=dst) (ty':=ty') (pos:=pos) (af:=af) (gd:=gd) (tys:=tys) (w:=w) hF.able rl.fr ho hv;simp only[Oper.wp,h2,Oper.upon];refine(hF.run w rl.h.sub).mono ?_;rintro e w' ⟨v,G',rfl,hh,hK⟩;exact @h v G' ⟨hh.gle⟩ hK _ _ ((rl.heap (rl.h.called hh)).put _ hd)
def zC{f:FuncId}{fo:Operand}{args:Array Operand}{tys:Array TypeId}{vs:List Value}{K:Value->Gh->Prop}(ho:aD fr fo=some (.func (.func f) #[] #[]))(hv:f5 fr args.toList=some vs)
  (hF:Fn P f vs G K)(hd:cg n dst=true)(h: ∀v (G':Gh),[GE G G']->K v G'->St C n (put fr dst v) own G' Φ):
  Ch P C n fr own G ⟨dst, .call ⟨.value fo,args,tys⟩,ty',pos,af,gd⟩ Φ:=
 OP (c1:=[]) (c2:=[]) ho hv (by simpa using hF) hd h
def auo{f:FuncId}{fo:Operand}{args:Array Operand}{tys:Array TypeId}{vs c1 c2:List Value}{M rest:List au}{K:Value->List (List Value)->Gh->Prop}(ho:aD fr fo=some (.func (.func f) ⟨c1⟩ ⟨c2⟩))(hv:f5 fr args.toList=some vs)
  (hp:own.Perm (M++rest))(hF:lE P f (c1++vs++c2) M G K)(hd:cg n dst=true)(h: ∀v css (G':Gh),[GE G G']->css.length=M.length->K v css G'->St C n (put fr dst v) (jq M css++rest) G' Φ):
  Ch P C n fr own G ⟨dst, .call ⟨.value fo,args,tys⟩,ty',pos,af,gd⟩ Φ:=by
 intro a w Q rl;have h2:=CA (P:=P) (dst:=dst) (ty':=ty') (pos:=pos) (af:=af) (gd:=gd) (tys:=tys) (w:=w) hF.able rl.fr ho hv;simp only[Oper.wp,h2,Oper.upon];have hh0:=rl.h.perm hp;refine(hF.run w hh0.lend).mono ?_;rintro e w' ⟨v,css,G',rfl,hl,hh,hK⟩;exact @h v css G' ⟨hh.gle⟩ hl hK _ _ ((rl.heap (hh0.calledM hl hh)).put _ hd)
def aw5{f:FuncId}{fo:Operand}{args:Array Operand}{tys:Array TypeId}{vs:List Value}{M rest:List au}{K:Value->List (List Value)->Gh->Prop}(ho:aD fr fo=some (.func (.func f) #[] #[]))(hv:f5 fr args.toList=some vs)
  (hp:own.Perm (M++rest))(hF:lE P f vs M G K)(hd:cg n dst=true)(h: ∀v css (G':Gh),[GE G G']->css.length=M.length->K v css G'->St C n (put fr dst v) (jq M css++rest) G' Φ):
  Ch P C n fr own G ⟨dst, .call ⟨.value fo,args,tys⟩,ty',pos,af,gd⟩ Φ:=
 auo (c1:=[]) (c2:=[]) ho hv hp (by simpa using hF) hd h
end
section
variable {P:Program} {C:aC} {n:Nat} {fr:Fr} {own own':List au} {G:Gh}
inductive jr (P:Program) (fr:Fr) (own:List au):List ResultVar->List Value->Prop
 |nil:jr P fr own [] []
 |tmp {t:Nat} {v:Value} {rs:List ResultVar} {vs:List Value} (h:kD fr t=some v) (k:jr P fr own rs vs):jr P fr own (.tmp t::rs) (v::vs)
 |agg {a b k:Nat} {t ty:TypeId} {cs l:List Value} {lo:Bool} {rs:List ResultVar} {vs:List Value} (h:kD fr a=some (.pointer (some ⟨b,0,none⟩))) (ho:gz own b cs ty lo) (ht:mz P t k) (hl:cA cs 0 k=some l) (h2:jr P fr own rs vs):
   jr P fr own (.cell a t::rs) (.agg ⟨l⟩::vs)
 |sc {a b:Nat} {t ty:TypeId} {cs:List Value} {v:Value} {lo:Bool} {rs:List ResultVar} {vs:List Value} (h:kD fr a=some (.pointer (some ⟨b,0,none⟩))) (ho:gz own b cs ty lo) (ht:i9 P t) (hl:cs[0]? =some v) (h2:jr P fr own rs vs):
   jr P fr own (.cell a t::rs) (v::vs)
def vz(a:Act):ResultVar->Sem Value
 | .tmp t=>pure (a.tmps.getD t undef)
 | .cell x t=>do loadVar t (<-asAddr (a.tmps.getD x undef))
def jr.run{rs:List ResultVar}{vs:List Value}(h:jr P fr own rs vs){a:Act}{w:World}(hf:kc fr a)(hh:bF C own G w):
  (rs.mapM (vz a)).run P w= .ok vs w:=by
 induction h with
 |nil=>rfl
 | @tmp t v rs vs h k ih=>
  rw[nU];have e:=hf _ _ h;have e2:a.tmps.getD t undef=v:=by rw[bW,e];rfl
  rw[bh (a:=v) (w':=w) (by simp only[vz,e2];exact run_pure _ _ _),bh ih];rfl
 | @agg x b k t ty cs l lo rs vs h ho ht hl h2 ih=>
  rw[nU];have e:=hf _ _ h;have e2:a.tmps.getD x undef= .pointer (some ⟨b,0,none⟩):=by rw[bW,e];rfl
  rw[bh (a:= .agg ⟨l⟩) (w':=w) (by simp only[vz,e2,asAddr];rw[bh (run_pure _ _ _)];exact FH (hh.hown _ ho.mem).1 hl),bh ih];rfl
 | @sc x b t ty cs v lo rs vs h ho ht hl h2 ih=>
  rw[nU];have e:=hf _ _ h;have e2:a.tmps.getD x undef= .pointer (some ⟨b,0,none⟩):=by rw[bW,e];rfl
  rw[bh (a:=v) (w':=w) (by simp only[vz,e2,asAddr];rw[bh (run_pure _ _ _)];exact F8 (hh.hown _ ho.mem).1 hl),bh ih];rfl
def kH:List Value->Value
 |[v]=>v
 |vs=> .tuple ⟨vs⟩
def qx{fn:Func}{vs:List Value}{a:Act}{w:World}(hr:jr P fr own fn.results.toList vs)(hf:kc fr a)(hh:bF C own G w):(results fn a.tmps).run P w= .ok (kH vs) w:=by
 have h0:=jr.run (C:=C) (G:=G) hr hf hh;have h1:(fn.results.mapM (vz a)).run P w= .ok (⟨vs⟩:Array Value) w:=by
  rw[<-Array.toArray_toList (xs:=fn.results),List.mapM_toArray,map_eq_pure_bind,bh h0];rfl
 have h2:results fn a.tmps=(do
   let vs<-fn.results.mapM (vz a)
   pure (if h:vs.size=1 then vs[0] else .tuple vs)):=by
  unfold results;congr 1
 rw[h2,bh h1]
 match vs with
 |[]=>rfl
 |[v]=>rfl
 |_::_::_=>rfl
def fP(C:aC)(K:Value->Gh->Prop):Ending->World->Prop:=fun e w'=> ∃v G',e= .returned v/\bF C [] G' w'/\K v G'
def vp(C:aC)(M:List au)(K:Value->List (List Value)->Gh->Prop):Ending->World->Prop:=fun e w'=> ∃v css G',e= .returned v/\css.length=M.length/\bF C (jq (asB M) css) G' w'/\K v css G'
def eH(C:aC)(P:Program)(fn:Func)(R:Ending->World->Prop):Exit->Act->World->Prop:=fun e a w=>C.mks=[]->bodyPost P fn R e a w
def zD{fn:Func}{K:Value->Gh->Prop}{vs:List Value}(hr:jr P fr own fn.results.toList vs)(hk:K (kH vs) G):St C n fr own G (eH C P fn (fP C K) .ret):=
 fun a w rl hmk=>⟨rl.df.trans hmk,_,qx hr rl.fr rl.h,_,G,J,rl.h.drop (kQ _),hk⟩
def Gs{fn:Func}{K:Value->Gh->Prop}{vs:List Value}(hr:jr P fr own fn.results.toList vs)(hk:K (kH vs) G):St C n fr own G (eH C P fn (fP C K) .normal):=
 fun a w rl hmk=>⟨rl.df.trans hmk,_,qx hr rl.fr rl.h,_,G,J,rl.h.drop (kQ _),hk⟩
def Ip{fn:Func}{M:List au}{css:List (List Value)}{K:Value->List (List Value)->Gh->Prop}{vs:List Value}(hr:jr P fr own fn.results.toList vs)(hl:css.length=M.length)(own2:List au)(hp:own.Perm own2)(hs:(jq (asB M) css).Sublist own2)(hk:K (kH vs) css G):St C n fr own G (eH C P fn (vp C M K) .ret):=
 fun a w rl hmk=>⟨rl.df.trans hmk,_,qx hr rl.fr rl.h,_,css,G,J,hl,(rl.h.perm hp).drop hs,hk⟩
def lA:Nat->List Value->Fr
 |_,[]=>[]
 |i,v::t=>(i,v)::lA (i+1) t
def qE: ∀(vs:List Value) (i k:Nat) (v:Value),kD (lA i vs) k=some v-> ∃j,k=i+j/\vs[j]? =some v
 |[],i,k,v,h=>by cases h
 |u::vs,i,k,v,h=>by
  rw[lA,ye] at h;split at h
  .subst_vars;cases h;exact⟨0,J,J⟩
  .obtain⟨j,rfl,hj⟩:=qE vs (i+1) k v h
   exact⟨j+1,by omega,by simpa using hj⟩
def Fn.introR{f:FuncId}{fn:Func}{c:Code}{vs:List Value}{m:Nat}{K:Value->Gh->Prop}(hf:P.funcs[f]? =some fn)(hb:fn.body=some c)(hn:(fn.name== "runtime.NumGoroutine")=false)(hm:fn.ntmps=m)(hlen:Nat.ble vs.length m=true)
  (h: ∀C:aC,C.G0=G->C.mb=[]->C.rd=none->(C.fx=fun _=>none)->St C m (lA 0 vs) [] G (c.wp P (eH C P fn (fP C K)))):Fn P f vs G K:=by
 refine⟨⟨fn,hf,hn,by simp[hb]⟩,fun w hw=>?_⟩;have hlen':vs.length<=m:=by simpa using hlen
 have:=calls_of_wp (P:=P) (f:=f) (args:=⟨vs⟩) (w:=w) (R:=fP ⟨w,G,[],[],[],none,fun _=>none⟩ K) hf hb (wp_mono (h ⟨w,G,[],[],[],none,fun _=>none⟩ J J J J _ w
  ⟨⟨J,J,J,bQ _,fun _ _ _=>J,hw,bD.refl _,fun _ _=>J,fun o ho=>(by cases ho), .nil,bQ _,fun p hp=>by cases hp⟩,by simp;omega,fun k v hk=>by
   obtain⟨j,rfl,hj⟩:=qE vs 0 k v hk;have hj':=(aT.1 hj).1;rw[iS (by simpa using hj')];simpa using hj,J⟩) fun _ _ _ k=>k J)
 exact this
def Fn.intro{f:FuncId}{fn:Func}{c:Code}{vs:List Value}{m:Nat}{K:Value->Gh->Prop}(hf:P.funcs[f]? =some fn)(hb:fn.body=some c)(hn:(fn.name== "runtime.NumGoroutine")=false)(hm:fn.ntmps=m)(hlen:Nat.ble vs.length m=true)
  (h: ∀C:aC,C.G0=G->C.mb=[]->St C m (lA 0 vs) [] G (c.wp P (eH C P fn (fP C K)))):Fn P f vs G K:=
 Fn.introR hf hb hn hm hlen fun C a b _ _=>h C a b
def lE.introR{f:FuncId}{fn:Func}{c:Code}{vs:List Value}{m:Nat}{M:List au}{K:Value->List (List Value)->Gh->Prop}(hf:P.funcs[f]? =some fn)(hb:fn.body=some c)(hn:(fn.name== "runtime.NumGoroutine")=false)(hm:fn.ntmps=m)(hlen:Nat.ble vs.length m=true)
  (h: ∀C:aC,C.G0=G->C.mb=M.map (·.b)->C.rd=none->(C.fx=fun _=>none)->St C m (lA 0 vs) (asB M) G (c.wp P (eH C P fn (vp C M K)))):lE P f vs M G K:=by
 refine⟨⟨fn,hf,hn,by simp[hb]⟩,fun w hw=>?_⟩;have hlen':vs.length<=m:=by simpa using hlen
 have:=calls_of_wp (P:=P) (f:=f) (args:=⟨vs⟩) (w:=w) (R:=vp ⟨w,G,M.map (·.b),[],[],none,fun _=>none⟩ M K) hf hb (wp_mono (h ⟨w,G,M.map (·.b),[],[],none,fun _=>none⟩ J J J J _ w
  ⟨hw,by simp;omega,fun k v hk=>by
   obtain⟨j,rfl,hj⟩:=qE vs 0 k v hk;have hj':=(aT.1 hj).1;rw[iS (by simpa using hj')];simpa using hj,J⟩) fun _ _ _ k=>k J)
 exact this
def lE.intro{f:FuncId}{fn:Func}{c:Code}{vs:List Value}{m:Nat}{M:List au}{K:Value->List (List Value)->Gh->Prop}(hf:P.funcs[f]? =some fn)(hb:fn.body=some c)(hn:(fn.name== "runtime.NumGoroutine")=false)(hm:fn.ntmps=m)(hlen:Nat.ble vs.length m=true)
  (h: ∀C:aC,C.G0=G->C.mb=M.map (·.b)->St C m (lA 0 vs) (asB M) G (c.wp P (eH C P fn (vp C M K)))):lE P f vs M G K:=
 lE.introR hf hb hn hm hlen fun C a b _ _=>h C a b
def P2{Φ:Act->World->Prop}(b:Nat){cs:List Value}{ty:TypeId}(hr:i4 own ⟨b,cs,ty,true⟩ own')(h: ∀G':Gh,[GE G G']->[vG G' b cs]->St C n fr own' G' Φ):St C n fr own G Φ:=
 fun a w rl=>by
  obtain⟨h1,h2⟩:=rl.h.freeze hr;exact @h _ ⟨h2⟩ ⟨by simp⟩ a w (rl.heap h1)
def azn{Φ:Act->World->Prop}(own':List au)(hs:own'.Sublist own)(h:St C n fr own' G Φ):St C n fr own G Φ:=
 fun a w rl=>h a w (rl.heap (rl.h.drop hs))
def Cm{Φ:Act->World->Prop}(own':List au)(hs:own.Perm own')(h:St C n fr own' G Φ):St C n fr own G Φ:=
 fun a w rl=>h a w (rl.heap (rl.h.perm hs))
def aJQ(C:aC)(n:Nat){X:Type}(F:X->Fr)(O:X->List au)(I:X->Gh->Prop)(μ:X->Nat)(m:Nat)(G:Gh)(a:Act)(w:World):Prop:=
 ∃x G',bD G G'/\I x G'/\μ x<m/\gq C n (F x) (O x) G' a w
def At(C:aC)(n:Nat){X:Type}(F:X->Fr)(O:X->List au)(I:X->Gh->Prop)(G:Gh)(a:Act)(w:World):Prop:=
 ∃x G',bD G G'/\I x G'/\gq C n (F x) (O x) G' a w
end
def gi(Q:Exit->Act->World->Prop):Exit->Act->World->Prop
 | .panic _,_,_=>False
 |e,a,w=>Q e a w
def gi.imp{Q:Exit->Act->World->Prop}: ∀(e:Exit) (a:Act) (w:World),gi Q e a w->Q e a w:=fun e a w h=>by
 cases e<;>first|exact h|exact(h:False).elim
section
variable {P:Program} {ops:Array Oper} {Q:Exit->Act->World->Prop} {S:World->Prop} {fin:Nat->Bool}
def s4(P:Program)(ops:Array Oper)(Q:Exit->Act->World->Prop)(S:World->Prop)(fin:Nat->Bool):Nat->Array Bool->Act->World->Prop
 |0,listed,a,w=>Region.ready .any ops listed=[]/\Q .normal a w
 |fuel+1,listed,a,w=>
  (Region.ready .any ops listed=[]->Q .normal a w)/\
  ∀i∈Region.ready .any ops listed,wpOp P ops Q i (fun a' w'=>(fin i=true\/S w')/\s4 P ops Q S fin fuel (listed.setIfInBounds i true) a' w') a w
def Df: ∀(fuel:Nat) (listed:Array Bool) (a:Act) (w:World),s4 P ops Q S fin fuel listed a w->wpAny P .any ops Q fuel listed a w
 |0,_,_,_,h=>h
 |fuel+1,_,_,_,h=>⟨h.1,fun i hi=>wpOp_mono (fun a' w' h'=>Df fuel _ a' w' h'.2) (h.2 i hi)⟩
def EH(ops:Array Oper)(fin:Nat->Bool)(i:Nat):Bool:=
 !fin i&&(List.range ops.size).all fun j=>!fin j||((ops[j]?).map fun o=>o.after.any fun e=>Region.binds .any e&&e.on==i).getD true
def aqF{i:Nat}(h:EH ops fin i=true):fin i=false/\ ∀j oj,ops[j]? =some oj->fin j=true-> ∃e∈oj.after,Region.binds .any e=true/\e.on=i:=by
 simp only[EH,aM,iX] at h;refine⟨h.1,fun j oj hoj hf=>?_⟩;have hj:j<ops.size:=(eJ.1 hoj).1;have h1:=dT.1 h.2 j (by simpa using hj);rw[hf,hoj] at h1;simp only[Bool.not_true,kR,jR,Bool.false_or] at h1;obtain⟨e,he,hb⟩:=Array.any_eq_true'.1 h1;simp only[aM,beq_iff_eq] at hb;exact⟨e,he,hb.1,hb.2⟩
def VD{i:Nat}{oi:Oper}{v:Value}(hi:ops[i]? =some oi)(hsel: ∀(j:Nat) (o:Oper) cs b,ops[j]? =some o->o.op≠ .select cs b)
  (hQ: ∀c a w,Q (.panic c) (a.put oi.dst v) w->Q (.panic c) a w)(hfi:fin i=false)
  (hfin: ∀j oj,ops[j]? =some oj->fin j=true-> ∃e∈oj.after,Region.binds .any e=true/\e.on=i):
  ∀(fuel:Nat) (listed:Array Bool) (a:Act) (w:World),
   (∀j oj,ops[j]? =some oj->j≠i->listed.getD j true=false->(∀e∈oj.after,Region.binds .any e=true->e.on≠i)->oi.apart ops oj=true)->
   i∈Region.ready .any ops listed->YieldsIf P ops S oi v a->S w->
   s4 P ops Q S fin fuel (listed.setIfInBounds i true) (a.put oi.dst v) w->s4 P ops Q S fin (fuel+1) listed a w:=by
 intro fuel
 induction fuel with
 |zero=>
  intro listed a w _ hr hy hS H;refine⟨fun h=>(by rw[h] at hr;cases hr),fun j hj=>?_⟩;by_cases hji:j=i
  .subst hji;exact hy.wpOp hi hS ⟨.inr hS,H⟩
  .have:=ready_mono hj hji
   rw[H.1] at this
   cases this
 |succ fuel ih=>
  intro listed a w hfree hr hy hS H;refine⟨fun h=>(by rw[h] at hr;cases hr),fun j hj=>?_⟩;by_cases hji:j=i
  .subst hji;exact hy.wpOp hi hS ⟨.inr hS,H⟩
  .have h1:=H.2 j (ready_mono hj hji)
   obtain⟨hjun,oj,hoj,hall⟩:=mem_ready.1 hj;have hnot: ∀e∈oj.after,Region.binds .any e=true->e.on≠i:=fun e he hb heq=>by
    have h1:=hall e he hb;have h0:=(mem_ready.1 hr).1;rw[heq] at h1;rcases fW i listed.size with h'|h'
    .simp[h'] at h0 h1;rw[h0] at h1;cases h1
    .simp[nM h'] at h1
   have hnf:fin j=false:=by
    cases hf:fin j with
    |false=>rfl
    |true=>obtain⟨e,he,hb,heq⟩:=hfin j oj hoj hf;exact absurd heq (hnot e he hb)
   have h2:=wpOp_putIf hoj (hfree j oj hoj hji hjun hnot) (fun cs b=>hsel i oi cs b hi) (fun cs b=>hsel j oj cs b hoj) hQ hy h1;have hfree': ∀k ok,ops[k]? =some ok->k≠i->(listed.setIfInBounds j true).getD k true=false->
     (∀e∈ok.after,Region.binds .any e=true->e.on≠i)->oi.apart ops ok=true:=fun k ok hk hki hun hno=>by
    refine hfree k ok hk hki ?_ hno;by_cases hjk:j=k
    .subst hjk;exact hjun
    .rw[getD_set_ne true hjk] at hun;exact hun
   refine wpOp_mono (fun a' w' h3=>?_) h2;have hS':S w':=h3.2.1.resolve_left (by rw[hnf];simp);refine⟨.inr hS',ih (listed.setIfInBounds j true) a' w' hfree' (ready_mono hr (Ne.symm hji)) h3.1 hS' ?_⟩;rw[Array.setIfInBounds_comm _ _ hji];exact h3.2.2
def XB{i:Nat}{fuel:Nat}{listed:Array Bool}{a:Act}{w:World}(hr:Region.ready .any ops listed=[i])
  (h:wpOp P ops Q i (fun a' w'=>(fin i=true\/S w')/\s4 P ops Q S fin fuel (listed.setIfInBounds i true) a' w') a w):s4 P ops Q S fin (fuel+1) listed a w:=
 ⟨fun h0=>absurd (hr.symm.trans h0) (by simp),fun j hj=>by rw[hr,aY] at hj;subst hj;exact h⟩
def wP(ops:Array Oper)(fin:Nat->Bool)(listed:Array Bool)(i:Nat):Bool:=
 Region.noSelect ops&&Region.free .any ops listed i&&(Region.ready .any ops listed).contains i&&EH ops fin i
end
class kl (l m:List au):Prop where s:l.Sublist m
instance kl.refl (l:List au):kl l l:=⟨List.Sublist.refl l⟩
instance kl.cons (l m:List au) (o:au) [h:kl l m]:kl l (o::m):=⟨h.s.cons o⟩
def HS(C:aC)(own:List au)(G:Gh):World->Prop:=fun w=> ∃G',bD G G'/\bF C own G' w
section
variable {P:Program} {C:aC} {n:Nat} {fr:Fr} {own own0:List au} {G G0:Gh} {ops:Array Oper} {Q:Exit->Act->World->Prop} {fin:Nat->Bool}
def SL{id:Nat}(fin:Nat->Bool)(hm:P.follows .mixedOrders=true)
  (h:St C n fr own G (s4 P ops (gi Q) (HS C own G) fin ops.size (Array.replicate ops.size false))):St C n fr own G ((Code.region id ops true).wp P Q):=by
 intro a w rl;exact wp_mono (wp_region_any hm (Df _ _ _ _ (h a _ (rl.heap rl.h.drew)))) gi.imp
def sP{b:Bool}{Φ:Act->World->Prop}[hs:kl own0 own][hl:GL G0 G](h:St C n fr own G Φ):St C n fr own G (fun a w=>(b=true\/HS C own0 G0 w)/\Φ a w):=
 fun a w rl=>⟨.inr ⟨G,hl.le,rl.h.drop hs.s⟩,h a w rl⟩
def TH{b:Bool}{S:World->Prop}{Φ:Act->World->Prop}(hb:b=true)(h:St C n fr own G Φ):St C n fr own G (fun a w=>(b=true\/S w)/\Φ a w):=
 fun a w rl=>⟨.inl hb,h a w rl⟩
end
end Go.Sx
end
