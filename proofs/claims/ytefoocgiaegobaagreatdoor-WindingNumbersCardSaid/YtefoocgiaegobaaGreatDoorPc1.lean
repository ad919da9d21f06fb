import Derived.Calls
import Derived.Orders
import Derived.OrdersHeld
import Derived.Laws.World
import Derived.Below
import Derived.IntWalk
import Derived.KernelRfl
import Derived.Laws.Append
set_option linter.all false
section
namespace Go.Sx
def J{α:Sort _}{a:α}:a=a:=rfl
open Go
def aQ:=@List.getElem?_eq_getElem
def aZ:=@List.mem_cons_self
def aX:=@List.length_map
def aJ:=@List.getD_eq_getElem?_getD
def aK:=@List.mem_cons_of_mem
def aV:=@List.length_replicate
def aW:=@List.length_set
def aY:=@Nat.eq_of_beq_eq_true
def aU:=@List.mem_of_getElem?
def aT:=@List.take_of_length_le
def aR:=@List.mem_cons
def aS:=@Nat.le_refl
def aL:=@List.getElem?_eq_some_iff
def aM:=@Nat.pow_le_pow_right
def aN:=@List.mem_singleton
def bQ:=@Array.getD_eq_getD_getElem?
def bZ:=@Bool.and_eq_true
def bX:=@Nat.mul_le_mul_right
def bJ:=@Nat.zero_le
def bK:=@List.length_append
def bV:=@Nat.mul_comm
def bW:=@Nat.mul_assoc
def bY:=@List.mem_map
def bU:=@List.pairwise_cons
def bT:=@Int.toNat_natCast
def bR:=@List.length_take
def bS:=@List.drop_eq_getElem_cons
def bL:=@List.length_cons
def bM:=@List.eq_nil_of_length_eq_zero
def bN:=@List.take_length
def cZ:=@List.map_cons
def cX:=@List.map_append
def cJ:=@List.take_add_one
def cK:=@Nat.add_mul
def cV:=@Nat.mod_lt
def cW:=@List.mem_append_left
def cY:=@Nat.mul_add
def cR:=@List.getElem?_append_left
def cS:=@Nat.lt_of_lt_of_le
def cL:=@Array.getElem?_setIfInBounds
def cM:=@Int.sign_eq_neg_one_of_neg
def cN:=@Nat.add_zero
def dQ:=@Nat.eq_zero_or_pos
def dZ:=@Nat.pow_pos
def dX:=@Array.getElem?_eq_some_iff
def dJ:=@Nat.pow_add
def dK:=@List.mem_append
def dV:=@Nat.zero_add
def dW:=@Rat.intCast_mul
def dY:=@Nat.mul_le_mul_left
def dT:=@List.all_eq_true
def dR:=@Nat.mod_eq_of_lt
def dS:=@List.getElem?_eq_none
def dL:=@List.take_succ_eq_append_getElem
def eX:=@Nat.pow_succ
def eJ:=@Nat.lt_of_le_of_lt
def eK:=@Int.sign_eq_one_of_pos
def eY:=@Array.getElem?_eq_getElem
def fQ:=@Nat.le_trans
def fZ:=@List.mem_append_right
def fX:=@List.append_assoc
def fJ:=@List.mem_of_mem_take
def fK:=@List.take_append_of_le_length
def fV:=@Nat.min_eq_left
def fW:=@List.getElem?_map
def fY:=@List.getElem?_append_right
def fU:=@Int.fdiv_eq_ediv_of_nonneg
def fT:=@Nat.pos_of_ne_zero
def fR:=@Array.length_toList
def fS:=@Nat.lt_or_ge
def fL:=@List.drop_of_length_le
def fM:=@List.replicate_succ
def fN:=@Nat.gcd_comm
def gQ:=@Int.natAbs_mul
def gX:=@Nat.mul_pos
def gJ:=@Int.sign_eq_zero_iff_zero
def gK:=@Bool.or_eq_true
def gV:=@List.drop_zero
def gW:=@Int.natAbs_neg
def gU:=@Option.getD_some
def gT:=@List.getElem_mem
def gR:=@List.drop_length
def gS:=@Nat.div_eq_of_lt
def gL:=@List.mem_flatMap
def gM:=@Bool.not_eq_true'
def gN:=@Nat.succ_mul
def iQ:=@List.pairwise_append
def iZ:=@Array.getElem?_append_left
def iX:=@List.mem_range
def iJ:=@Option.map_some
def iK:=@List.foldl_cons
def iV:=@Int.natCast_mul
def iW:=@List.map_toArray
def iY:=@Nat.gcd_dvd_left
def iU:=@List.drop_append_of_le_length
def iT:=@Nat.div_lt_iff_lt_mul
def iR:=@List.map_nil
def iS:=@List.length_nil
def iL:=@Nat.div_le_self
def iM:=@List.getElem?_drop
def iN:=@Nat.add_sub_cancel
def jQ:=@Int.natAbs_eq_zero
def jZ:=@List.cons_append
def jX:=@Nat.mul_one
def jJ:=@List.any_eq_true
def jK:=@Nat.gcd_pos_of_pos_left
def jV:=@Nat.mul_lt_mul_of_pos_right
def jW:=@Nat.add_assoc
def jY:=@List.flatten_cons
def jU:=@Nat.mul_left_comm
def jT:=@Int.ofNat_natAbs_of_nonpos
def jR:=@Nat.gcd_dvd_right
def jS:=@Nat.eq_zero_of_gcd_eq_zero_right
def jL:=@List.nil_append
def jM:=@Nat.eq_zero_of_gcd_eq_zero_left
def jN:=@Nat.shiftLeft_eq
def kQ:=@Int.natAbs_natCast
def kZ:=@List.not_mem_nil
def kX:=@Nat.zero_mul
def kJ:=@List.eq_of_mem_replicate
def kK:=@List.map_take
def kV:=@Nat.shiftLeft_add_eq_or_of_lt
def kW:=@Nat.add_mul_div_left
def kY:=@List.append_nil
def kU:=@Rat.num_eq_zero
def kR:=@Array.getElem?_eq_none
def kS:=@Nat.add_comm
def kL:=@Nat.div_div_eq_div_mul
def kM:=@Rat.intCast_lt_intCast
def kN:=@Rat.neg_num
def lQ:=@List.length_drop
def lZ:=@Nat.mul_lt_mul''
def lX:=@Bool.false_eq_true
def lJ:=@Nat.gcd_zero_right
def lK:=@Nat.mul_lt_mul_of_lt_of_le
def lV:=@List.take_append_drop
def lW:=@List.getLast?_eq_getElem?
def lY:=@Nat.add_mul_mod_self_left
def lU:=@Int.natAbs_ediv_le_natAbs
def lT:=@List.size_toArray
def lR:=@List.ext_getElem?
def lS:=@Int.natAbs_of_nonneg
def lL:=@Int.lt_trichotomy
def lM:=@List.length_dropLast
def lN:=@Nat.blt_eq
def mQ:=@Nat.pow_lt_pow_iff_right
def mZ:=@Nat.gcd_pos_of_pos_right
def mX:=@List.take_succ_cons
def mJ:=@List.drop_set_of_lt
def mK:=@List.mem_map_of_mem
def mV:=@List.nil_sublist
def mW:=@Array.toList_map
def mY:=@Nat.mul_le_mul
def mU:=@Int.natCast_emod
def mT:=@Rat.mul_nonneg
def mS:=@Rat.intCast_eq_zero_iff
def mL:=@Nat.one_mul
def mM:=@Nat.le_of_lt
def mN:=@List.getElem_cons_zero
def nQ:=@List.append_of_mem
def nZ:=@List.getElem?_set_self
def nX:=@Rat.intCast_inj
def nJ:=@Array.getElem?_toList
def nK:=@List.getElem?_set
def nV:=@List.foldl_append
def nW:=@List.mapM_cons
def nY:=@Nat.pow_mul
def nU:=@Rat.neg_den
def nT:=@Nat.mul_zero
def nR:=@List.map_set
def nS:=@List.filter_cons
def nL:=@List.perm_middle
def nM:=@Nat.lt_trans
def nN:=@Int.le_of_lt
def oQ:=@Int.natCast_ediv
def oZ:=@Nat.le_add_right
def oX:=@Rat.mkRat_eq_div
def oJ:=@List.takeWhile_cons
def oK:=@Array.getElem?_replicate
def oV:=@Nat.dvd_trans
def oW:=@Option.map_none
def oY:=@Nat.div_add_mod
def oU:=@Rat.num_intCast
def oT:=@Rat.den_intCast
def oR:=@Rat.mul_eq_zero
def oS:=@List.getElem?_take
def oL:=@Nat.mul_right_comm
def oM:=@Int.natCast_dvd_natCast
def oN:=@Nat.mul_div_cancel_left
def pQ:=@List.drop_eq_nil_of_le
def pZ:=@List.pairwise_map
def pX:=@List.any_eq_false
def pJ:=@List.drop_drop
def pK:=@Nat.pow_zero
def pV:=@List.length_range
def pW:=@List.eq_nil_or_concat
def pY:=@List.concat_eq_append
def pU:=@Nat.mul_mod_mul_right
def pT:=@Nat.le_div_iff_mul_le
def pR:=@Nat.le_of_not_lt
def pS:=@List.map_drop
def pL:=@Bool.or_eq_false_iff
def pM:=@Nat.div_lt_of_lt_mul
def pN:=@Bool.eq_iff_iff
def qQ:=@Int.natCast_add
def qZ:=@Rat.intCast_add
def qX:=@Rat.intCast_neg
def qJ:=@Rat.intCast_sub
def qK:=@List.getElem?_range
def qV:=@Int.toNat_of_nonneg
def qW:=@List.take_set_of_le
def qY:=@List.drop_succ_cons
def qU:=@List.length_pos_iff
def qT:=@Nat.beq_refl
def qR:=@Rat.le_of_lt
def qS:=@Rat.mkRat_self
def qL:=@Nat.gcd_rec
def qM:=@Nat.div_one
abbrev Gh:=Nat->Option (List Value)
def bg(G G':Gh):Prop:= ∀b cs,G b=some cs->G' b=some cs
def bg.refl(G:Gh):bg G G:=fun _ _ h=>h
def bg.trans{a b c:Gh}(h:bg a b)(k:bg b c):bg a c:=fun _ _ x=>k _ _ (h _ _ x)
structure av where
 b:Nat
 cs:List Value
 ty:TypeId
 lo:Bool
structure aA where
 w0:World
 G0:Gh
 mb:List Nat
 /-- other objects that stay: records of loops, marks -/
 ex:List (Nat×Obj)
 /-- the marks among the deferred calls; the round -/
 mks:List Deferred
 rd:Option Nat
 /-- where names that are fixed lie -/
 fx:Nat->Option Addr
structure bh (C:aA) (own:List av) (G:Gh) (w:World):Prop where
 os:w.os=C.w0.os
 tape:w.tape=C.w0.tape
 output:w.output=C.w0.output
 size:C.w0.heap.size<=w.heap.size
 keep: ∀b,b<C.w0.heap.size->b∉C.mb->w.heap[b]? =C.w0.heap[b]?
 sub: ∀b cs,G b=some cs-> ∃ty fz,w.heap[b]? =some (.cells ⟨cs⟩ ty fz)
 gle:bg C.G0 G
 gold: ∀b,b<C.w0.heap.size->G b=C.G0 b
 hown: ∀o∈own,w.heap[o.b]? =some (.cells ⟨o.cs⟩ o.ty (0,0))/\G o.b=none/\(o.lo=true->C.w0.heap.size<=o.b)/\(o.lo=false->o.b∈C.mb)
 nd:own.Pairwise (fun x y=>x.b≠y.b)
 dr:C.w0.drawn<=w.drawn
 ext: ∀p∈C.ex,(∀cs ty z,p.2≠ .cells cs ty z)/\w.heap[p.1]? =some p.2
abbrev Fr:=List (Nat×Value)
def fj:Fr->Nat->Option Value
 |[],_=>none
 |(k,v)::t,j=>bif Nat.beq k j then some v else fj t j
def put(fr:Fr)(dst:Option Nat)(v:Value):Fr:=match dst with|some d=>(d,v)::fr|none=>fr
def iE(fr:Fr)(a:Act):Prop:= ∀k v,fj fr k=some v->a.tmps[k]? =some v
structure eO (C:aA) (n:Nat) (fr:Fr) (own:List av) (G:Gh) (a:Act) (w:World):Prop where
 h:bh C own G w
 sz:a.tmps.size=n
 fr:iE fr a
 df:a.defers=C.mks
def St(C:aA)(n:Nat)(fr:Fr)(own:List av)(G:Gh)(Φ:Act->World->Prop):Prop:=
 ∀a w,eO C n fr own G a w->Φ a w
def az(fr:Fr):Operand->Option Value
 | .tmp k=>fj fr k
 | .const v=>some v
 | .global g=>some (.pointer (some ⟨g,0,none⟩))
 | .func f=>some (.func (.func f) #[] #[])
def aP{fr:Fr}{a:Act}(h:iE fr a){x:Operand}{v:Value}(hx:az fr x=some v):a.eval x=v:=by
 cases x with
 |tmp k=>
  have:=h k v hx;simp only[Act.eval,bQ,this,gU]
 |const u=>simpa[az,Act.eval] using hx
 |global g=>simpa[az,Act.eval] using hx
 |func f=>simpa[az,Act.eval] using hx
def pc(k:Nat)(v:Value)(t:Fr)(j:Nat):fj ((k,v)::t) j=if k=j then some v else fj t j:=by
 simp only[fj];by_cases h:k=j
 ·simp[h]
 ·have:Nat.beq k j=false:=by
   cases hb:Nat.beq k j with
   |false=>rfl
   |true=>exact absurd (aY hb) h
  simp[this,h]
def bH(n:Nat):Option Nat->Bool
 |some d=>Nat.blt d n
 |none=>true
def iE.put{fr:Fr}{a:Act}{n:Nat}(h:iE fr a)(hs:a.tmps.size=n){dst:Option Nat}{v:Value}(hd:bH n dst=true):iE (Sx.put fr dst v) (a.put dst v):=by
 cases dst with
 |none=>exact h
 |some d=>
  intro k u hk;have hdn:d<n:=by simpa[bH,lN] using hd
  simp only[Sx.put,pc] at hk;simp only[Act.put,cL];by_cases hkd:d=k
  ·simp only[hkd,if_true] at hk
   subst hkd;simp[hs,hdn,hk]
  ·simp only[hkd,if_false] at hk
   simp only[hkd,if_false];exact h k u hk
def J7(a:Act)(dst:Option Nat)(v:Value):(a.put dst v).tmps.size=a.tmps.size:=by cases dst<;>simp[Act.put]
def EN(a:Act)(dst:Option Nat)(v:Value):(a.put dst v).defers=a.defers:=by cases dst<;>simp[Act.put]
def eO.put{C n fr own G a w}(r:eO C n fr own G a w){dst:Option Nat}(v:Value)(hd:bH n dst=true):eO C n (Sx.put fr dst v) own G (a.put dst v) w:=
 ⟨r.h,by rw[J7];exact r.sz,r.fr.put r.sz hd,by rw[EN];exact r.df⟩
def eO.heap{C n fr own G own' G' a w w'}(r:eO C n fr own G a w)(h:bh C own' G' w'):eO C n fr own' G' a w':=⟨h,r.sz,r.fr,r.df⟩
def dm(P:Program)(ops:Array Oper)(Q:Exit->Act->World->Prop):List Oper->Act->World->Prop
 |[],a,w=>Q .normal a w
 |o::r,a,w=>if Region.wanted o (yielded ops a.tmps) then o.wp P a w (dm P ops Q r) Q else dm P ops Q r (a.put o.dst undef) w
def RU{P:Program}{ops:Array Oper}{Q:Exit->Act->World->Prop}: ∀(l:List Nat) (k:Nat) (a:Act) (w:World),l=(List.range ops.size).drop k->dm P ops Q (ops.toList.drop k) a w->wpOps P ops Q l a w:=by
 intro l
 induction l with
 |nil=>
  intro k a w hl h;have hk:ops.size<=k:=by
   have:=congrArg List.length hl;simp at this;omega
  rw[pQ (by simpa using hk)] at h;exact h
 |cons i t ih=>
  intro k a w hl h;have hk:k<ops.size:=by
   have:=congrArg List.length hl;simp at this;omega
  rw[bS (by simpa using hk)] at hl;obtain⟨hi,ht⟩:=List.cons.inj hl;simp only[List.getElem_range] at hi;subst hi;rw[bS (by simpa using hk)] at h;have ho:ops[i]? =some ops[i]:=eY hk;simp only[wpOps,ho];simp only[dm,Array.getElem_toList] at h;split
  ·rename_i hw
   simp only[hw,if_true] at h;exact .inl (Oper.wp_mono (fun a w h=>ih (i+1) a w ht h) h)
  ·rename_i hw
   simp only[hw] at h;exact ih (i+1) _ w ht h
def NV{P:Program}{id:Nat}{ops:Array Oper}{Q:Exit->Act->World->Prop}{a:Act}{w:World}
  (h:dm P ops Q ops.toList a w):(Code.region id ops false).wp P Q a w:=
 wp_region (RU _ 0 a w (by simp) (by simpa using h))
def Yd(P:Program)(C:aA)(fr:Fr)(own:List av)(G:Gh)(o:Oper)(v:Value):Prop:=
 ∀a w,iE fr a->bh C own G w->(execOp a.eval o).run P w= .ok (.value v) w
section
variable {P:Program} {C:aA} {n:Nat} {fr:Fr} {own:List av} {G:Gh} {ops:Array Oper} {Q:Exit->Act->World->Prop} {r:List Oper}
def sP{o:Oper}{v:Value}(hy:Yd P C fr own G o v)(hg:o.guard=none)(hd:bH n o.dst=true)
  (h:St C n (put fr o.dst v) own G (dm P ops Q r)):St C n fr own G (dm P ops Q (o::r)):=by
 intro a w rl;simp only[dm,Region.wanted,hg,if_true,Oper.wp,hy a w rl.fr rl.h,Oper.upon];exact h _ _ (rl.put v hd)
def KY{a:Act}{j d:Nat}{b:Bool}(hf:iE fr a)(hj:(ops[j]?).bind (·.dst)=some d)(hl:fj fr d=some (.bool b)):yielded ops a.tmps j=some b:=by
 unfold yielded;rw[hj];simp[hf d _ hl]
def Vs{o:Oper}{v:Value}{j d:Nat}{b:Bool}(hg:o.guard=some (j,b))(hj:(ops[j]?).bind (·.dst)=some d)(hl:fj fr d=some (.bool b))
  (hy:Yd P C fr own G o v)(hd:bH n o.dst=true)
  (h:St C n (put fr o.dst v) own G (dm P ops Q r)):St C n fr own G (dm P ops Q (o::r)):=by
 intro a w rl;have:Region.wanted o (yielded ops a.tmps)=true:=by simp[Region.wanted,hg,KY rl.fr hj hl]
 simp only[dm,this,if_true,Oper.wp,hy a w rl.fr rl.h,Oper.upon];exact h _ _ (rl.put v hd)
def Qt{o:Oper}{j d:Nat}{b c:Bool}(hg:o.guard=some (j,b))(hj:(ops[j]?).bind (·.dst)=some d)(hl:fj fr d=some (.bool c))(hbc:(c==b)=false)
  (hd:bH n o.dst=true)(h:St C n (put fr o.dst undef) own G (dm P ops Q r)):St C n fr own G (dm P ops Q (o::r)):=by
 intro a w rl;have:Region.wanted o (yielded ops a.tmps)=false:=by simp[Region.wanted,hg,KY rl.fr hj hl,hbc]
 simp only[dm,this];exact h _ _ (rl.put undef hd)
def zE(h:St C n fr own G (Q .normal)):St C n fr own G (dm P ops Q []):=h
def cI{id:Nat}(h:St C n fr own G (dm P ops Q ops.toList)):St C n fr own G ((Code.region id ops false).wp P Q):=
 fun a w rl=>NV (h a w rl)
def bu{x y:Code}(h:St C n fr own G (x.wp P (Exit.then (y.wp P Q) Q))):St C n fr own G ((Code.seq x y).wp P Q):=
 fun a w rl=>wp_seq (h a w rl)
def zK(h:St C n fr own G (Q .normal)):St C n fr own G (Code.skip.wp P Q):=fun a w rl=>wp_skip (h a w rl)
def dP(h:St C n fr own G (Q .ret)):St C n fr own G (Code.ret.wp P Q):=fun a w rl=>wp_ret (h a w rl)
def gn{id:Nat}(h:St C n fr own G (Q (.exit id))):St C n fr own G ((Code.exit id).wp P Q):=fun a w rl=>wp_exit (h a w rl)
def dE{id:Nat}{c:Code}(h:St C n fr own G (c.wp P (Exit.inBlock id Q))):St C n fr own G ((Code.block id c).wp P Q):=
 fun a w rl=>wp_block (h a w rl)
def gm{id:Nat}{Q:Exit->Act->World->Prop}(h:St C n fr own G (Q .normal)):St C n fr own G (Exit.inBlock id Q (.exit id)):=
 fun a w rl=>by simp only[Exit.inBlock,if_true];exact h a w rl
def J3{id j:Nat}{Q:Exit->Act->World->Prop}(hne:Nat.beq j id=false)(h:St C n fr own G (Q (.exit j))):St C n fr own G (Exit.inBlock id Q (.exit j)):=
 fun a w rl=>by
  have:j≠id:=fun e=>by subst e;simp at hne
  simp only[Exit.inBlock,this,if_false];exact h a w rl
def Hm{c:Operand}{x y:Code}(hc:az fr c=some (.bool true))(h:St C n fr own G (x.wp P Q)):St C n fr own G ((Code.cond c x y).wp P Q):=
 fun a w rl=>wp_cond_true (aP rl.fr hc) (h a w rl)
def UG{c:Operand}{x y:Code}(hc:az fr c=some (.bool false))(h:St C n fr own G (y.wp P Q)):St C n fr own G ((Code.cond c x y).wp P Q):=
 fun a w rl=>wp_cond_false (aP rl.fr hc) (h a w rl)
def fB{p:Prop}{inst:Decidable p}{c:Operand}{x y:Code}(hc:az fr c=some (.bool (@decide p inst)))(h1:p->St C n fr own G (x.wp P Q))(h2: ¬p->St C n fr own G (y.wp P Q)):
  St C n fr own G ((Code.cond c x y).wp P Q):=
 fun a w rl=>wp_cond_split (aP rl.fr hc) (fun h=>h1 (of_decide_eq_true h) a w rl) (fun h=>h2 (of_decide_eq_false h) a w rl)
def TN{b:Bool}{c:Operand}{x y:Code}(hc:az fr c=some (.bool b))(h1:b=true->St C n fr own G (x.wp P Q))(h2:b=false->St C n fr own G (y.wp P Q)):
  St C n fr own G ((Code.cond c x y).wp P Q):=
 fun a w rl=>wp_cond_split (aP rl.fr hc) (fun h=>h1 h a w rl) (fun h=>h2 h a w rl)
def Mw{Φ:Act->World->Prop}(d:Nat){b:Bool}(hl:fj fr d=some (.bool b))(h1:b=true->St C n ((d, .bool true)::fr) own G Φ)(h2:b=false->St C n ((d, .bool false)::fr) own G Φ):St C n fr own G Φ:=by
 intro a w rl
 cases b with
 |true=>exact h1 J a w ⟨rl.h,rl.sz,fun k v hk=>by
   rw[pc] at hk;split at hk
   ·subst_vars;cases hk;exact rl.fr _ _ hl
   ·exact rl.fr _ _ hk,rl.df⟩
 |false=>exact h2 J a w ⟨rl.h,rl.sz,fun k v hk=>by
   rw[pc] at hk;split at hk
   ·subst_vars;cases hk;exact rl.fr _ _ hl
   ·exact rl.fr _ _ hk,rl.df⟩
def wi{Φ:Act->World->Prop}(d:Nat){p:Prop}{inst:Decidable p}(hl:fj fr d=some (.bool (@decide p inst)))(h1:p->St C n ((d, .bool true)::fr) own G Φ)(h2: ¬p->St C n ((d, .bool false)::fr) own G Φ):St C n fr own G Φ:=
 Mw d hl (fun h=>h1 (of_decide_eq_true h)) (fun h=>h2 (of_decide_eq_false h))
def ql(fr' fr:Fr):Prop:= ∀k v,fj fr' k=some v->fj fr k=some v
def ql.nil:ql [] fr:=fun _ _ h=>by cases h
def ql.cons{fr':Fr}{k:Nat}{v:Value}(h:fj fr k=some v)(t:ql fr' fr):ql ((k,v)::fr') fr:=fun j u hj=>by
 rw[pc] at hj;split at hj
 ·subst_vars;cases hj;exact h
 ·exact t _ _ hj
end
class iO (own:List av) (b:Nat) (cs:outParam (List Value)) (ty:outParam TypeId) (lo:outParam Bool):Prop where
 mem:⟨b,cs,ty,lo⟩∈own
instance iO.i1 (b:Nat) (cs:List Value) (ty:TypeId) (lo:Bool) (t:List av):iO (⟨b,cs,ty,lo⟩::t) b cs ty lo:=⟨aZ⟩
instance iO.i2 (o:av) (t:List av) (b:Nat) (cs:List Value) (ty:TypeId) (lo:Bool) [h:iO t b cs ty lo]:iO (o::t) b cs ty lo:=⟨aK _ h.mem⟩
inductive f5:List av->Nat->List Value->TypeId->Bool->List Value->List av->Prop
 |hd (b:Nat) (cs cs':List Value) (ty:TypeId) (lo:Bool) (t:List av):f5 (⟨b,cs,ty,lo⟩::t) b cs ty lo cs' (⟨b,cs',ty,lo⟩::t)
 |tl (o:av) (t t':List av) (b:Nat) (cs cs':List Value) (ty:TypeId) (lo:Bool) (h:f5 t b cs ty lo cs' t'):f5 (o::t) b cs ty lo cs' (o::t')
inductive jd:List av->av->List av->Prop
 |hd (o:av) (t:List av):jd (o::t) o t
 |tl (x:av) (t t':List av) (o:av) (h:jd t o t'):jd (x::t) o (x::t')
class GE (A:outParam Gh) (B:Gh):Prop where le:bg A B
class GL (A B:Gh):Prop where le:bg A B
instance GL.refl (A:Gh):GL A A:=⟨bg.refl A⟩
instance GL.step (A B C:Gh) [h:GE B C] [k:GL A B]:GL A C:=⟨k.le.trans h.le⟩
class uO (G:outParam Gh) (b:Nat) (cs:outParam (List Value)):Prop where h:G b=some cs
def uO.up{A G:Gh}{b:Nat}{cs:List Value}(h:uO A b cs)[k:GL A G]:G b=some cs:=k.le _ _ h.h
def bO:List Value->Nat->Nat->Option (List Value)
 |_,0,0=>some []
 |[],0,_+1=>none
 |v::t,0,k+1=>match bO t 0 k with|some l=>some (v::l)|none=>none
 |[],_+1,_=>none
 |_::t,off+1,k=>bO t off k
def cP:List Value->Nat->List Value->List Value
 |cs,_,[]=>cs
 |cs,off,v::vs=>cP (cs.set off v) (off+1) vs
def l9: ∀(cs:List Value) (off k:Nat) (l:List Value),bO cs off k=some l->l.length=k/\ ∀i,i<k->cs[off+i]? =l[i]?
 |cs,0,0,l,h=>by
  cases cs<;>(simp only[bO] at h;cases h;exact⟨J,fun i hi=>absurd hi (Nat.not_lt_zero _)⟩)
 |[],0,_+1,l,h=>by simp[bO] at h
 |v::t,0,k+1,l,h=>by
  simp only[bO] at h;split at h
  ·rename_i l' hl'
   cases h
   obtain⟨h1,h2⟩:=l9 t 0 k l' hl';refine⟨by simp[h1],fun i hi=>?_⟩
   cases i with
   |zero=>rfl
   |succ i=>
    have:=h2 i (by omega);simpa using this
  ·cases h
 |[],_+1,_,l,h=>by simp[bO] at h
 |_::t,off+1,k,l,h=>by
  simp only[bO] at h;obtain⟨h1,h2⟩:=l9 t off k l h;refine⟨h1,fun i hi=>?_⟩;have:=h2 i hi;rw[<-this,show off+1+i=(off+i)+1 by omega];rfl
class mq (P:Program) (t:TypeId) (k:outParam Nat):Prop where
 agg: ∀w,(isAgg t).run P w= .ok true w
 siz: ∀w,(sizeOf t).run P w= .ok k w
class jq (P:Program) (t:TypeId):Prop where
 agg: ∀w,(isAgg t).run P w= .ok false w
 siz: ∀w,(sizeOf t).run P w= .ok 1 w
class io (P:Program) (t:TypeId) (z:outParam Value):Prop where
 inf:(P.info? t).map (·.zero)=some (some z)
class K1 (P:Program) (t:TypeId) (f:Nat) (off:outParam Nat):Prop where
 at_: ∀(b o:Nat) w,(Instr.fieldAt t (.pointer (some ⟨b,o,none⟩)) f).run P w= .ok (.pointer (some (Addr.add ⟨b,o,none⟩ off))) w
class cB (P:Program) (t:TypeId) (e s by_:outParam Nat):Prop where
 un:P.underlying t=some (.slice e)
 inf:(P.info? e).map (fun i=>(i.size,i.bytes))=some (s,by_)
def io.info{P:Program}{t:TypeId}{z:Value}(h:io P t z): ∃i,P.info? t=some i/\i.zero=some z:=by
 have:=h.inf
 cases hi:P.info? t with
 |none=>rw[hi] at this;cases this
 |some i=>rw[hi] at this;exact⟨i,J,by simpa using this⟩
def cB.info{P:Program}{t e s by_:Nat}(h:cB P t e s by_): ∃i,P.info? e=some i/\i.size=s/\i.bytes=by_:=by
 have:=h.inf
 cases hi:P.info? e with
 |none=>rw[hi] at this;cases this
 |some i=>rw[hi] at this;simp at this;exact⟨i,J,this.1,this.2⟩
def mO(b o n:Nat):Addr.add ⟨b,o,none⟩ n=⟨b,o+n,none⟩:=by
 unfold Addr.add;split
 ·subst_vars;rfl
 ·rfl
def Sem.run_bind{α β:Type}(P:Program)(x:Sem α)(f:α->Sem β): ∀(w:World),(x>>=f).run P w=match x.run P w with| .ok a w'=>(f a).run P w'| .halt h w'=> .halt h w':=by
 show∀w,(Sem.bind x f).run P w=_
 induction x with
 |pure a=>intro w;rfl
 |load m a k ih=>
  intro w;simp only[Sem.bind,Sem.run];split
  ·exact ih _ w
  ·split
   ·exact ih _ w
   ·rfl
 |store m a v k ih=>
  intro w
  cases v<;>simp only[Sem.bind,Sem.run]<;>(try rfl)<;>(split<;>first|(split<;>first|rfl|exact ih _)|rfl)
 |new o k ih=>intro w;exact ih _ _
 |shape r k ih=>intro w;exact ih _ _
 |freeze a n k ih=>intro w;exact ih _
 |frozen a k ih=>intro w;exact ih _ _
 |getObj r k ih=>
  intro w;simp only[Sem.bind,Sem.run];split
  ·rfl
  ·exact ih _ w
  ·rfl
 |setObj r o k ih=>
  intro w;simp only[Sem.bind,Sem.run];split
  ·rfl
  ·exact ih _
  ·rfl
 |choose q k ih=>
  intro w;simp only[Sem.bind,Sem.run];split
  ·exact ih _ _
  ·exact ih _ _
 |sys c k ih=>intro w;exact ih _ _
 |program k ih=>intro w;exact ih _ _
 |mark m k ih=>intro w;exact ih _
 |halt h=>intro w;rfl
def run_pure{α:Type}(P:Program)(a:α)(w:World):(pure a:Sem α).run P w= .ok a w:=rfl
def aE{α β:Type}{P:Program}{x:Sem α}{f:α->Sem β}{w w':World}{a:α}(h:x.run P w= .ok a w'):(x>>=f).run P w=(f a).run P w':=by
 rw[Sem.run_bind,h]
def io.zero{P:Program}{t:TypeId}{z:Value}(h:io P t z)(w:World):(zeroValue t).run P w= .ok z w:=by
 obtain⟨i,h1,h2⟩:=h.info;simp[zeroValue,typeInfo,program,Sem.run_bind,Sem.run,h1,h2,run_pure]
def cB.u{P:Program}{t e s by_:Nat}(h:cB P t e s by_)(w:World):(underlying t).run P w= .ok (.slice e) w:=by
 simp[underlying,program,Sem.run_bind,Sem.run,h.un,run_pure]
def cB.siz{P:Program}{t e s by_:Nat}(h:cB P t e s by_)(w:World):(sizeOf e).run P w= .ok s w:=by
 obtain⟨i,h1,h2,_⟩:=h.info;simp[sizeOf,typeInfo,program,Sem.run_bind,Sem.run,h1,h2,run_pure]
section
variable {P:Program} {C:aA} {n:Nat} {fr:Fr} {own:List av} {G:Gh} {ops:Array Oper} {Q:Exit->Act->World->Prop} {r:List Oper}
def uT{w:World}{b:Nat}{cs:List Value}{ty:TypeId}{fz:Nat×Nat}(h:w.heap[b]? =some (.cells ⟨cs⟩ ty fz))(i:Nat):w.cell? ⟨b,i,none⟩=cs[i]? :=by
 simp[World.cell?,h]
def FM{w:World}{a:Addr}{v:Value}(h:w.cell? a=some v):(load a).run P w= .ok v w:=by
 simp[load,Sem.run,h]
def CP{w:World}{b off:Nat}{l:List Value}: ∀(m i:Nat) (acc:Array Value),(∀j,j<m->w.cell? ⟨b,off+(i+j),none⟩=l[i+j]?)->i+m<=l.length->
  (loadCellsFrom ⟨b,off,none⟩ i m acc).run P w= .ok (acc++((l.drop i).take m).toArray) w
 |0,i,acc,_,_=>by simp[loadCellsFrom,run_pure]
 |m+1,i,acc,h,hl=>by
  have h0:=h 0 (by omega);rw[cN,aQ (by omega)] at h0;unfold loadCellsFrom;rw[aE (a:=l[i]) (w':=w) (by rw[mO];exact FM h0)];rw[CP m (i+1) (acc.push l[i]) (fun j hj=>by have:=h (j+1) (by omega);rw[show i+1+j=i+(j+1) by omega];exact this) (by omega)];congr 1;rw[bS (by omega:i<l.length),mX];apply Array.ext';simp
def B3{w:World}{b off k:Nat}{t:TypeId}{cs l:List Value}[ht:mq P t k]{ty:TypeId}{fz:Nat×Nat}(h:w.heap[b]? =some (.cells ⟨cs⟩ ty fz))(hl:bO cs off k=some l):
  (loadVar t ⟨b,off,none⟩).run P w= .ok (.agg ⟨l⟩) w:=by
 obtain⟨h1,h2⟩:=l9 _ _ _ _ hl;unfold loadVar;rw[aE (ht.agg w)];simp only[if_true];rw[aE (ht.siz w)];unfold loadCells;rw[aE (CP (l:=l) k 0 #[] (fun j hj=>by rw[uT h];simpa using h2 j hj) (by omega))];simp[run_pure,<-h1]
def BP{w:World}{b off:Nat}{t:TypeId}{cs:List Value}{v:Value}[ht:jq P t]{ty:TypeId}{fz:Nat×Nat}(h:w.heap[b]? =some (.cells ⟨cs⟩ ty fz))(hl:cs[off]? =some v):
  (loadVar t ⟨b,off,none⟩).run P w= .ok v w:=by
 unfold loadVar;rw[aE (ht.agg w)];simp only[lX,if_false];exact FM (by rw[uT h];exact hl)
def cv{α:Type}{f:α->Next}{s:Sem α}{w w':World}{a:α}(h:s.run P w= .ok a w'):(do pure (f (<-s)):Sem Next).run P w= .ok (f a) w':=by
 rw[aE h];rfl
def B7{dst:Option Nat}{t ty':TypeId}{pos:String}{af:Array Edge}{gd:Option (Nat×Bool)}{x:Operand}{b off k:Nat}{cs l:List Value}{lo:Bool}{ty:TypeId}
  (hx:az fr x=some (.pointer (some ⟨b,off,none⟩)))[ho:iO own b cs ty lo][mq P t k](hl:bO cs off k=some l):
  Yd P C fr own G ⟨dst, .load t x,ty',pos,af,gd⟩ (.agg ⟨l⟩):=by
 intro a w hf hh;simp only[execOp,aP hf hx,Instr.loadAt,Instr.sureAddr];exact cv (B3 (hh.hown _ ho.mem).1 hl)
def z7{dst:Option Nat}{t ty':TypeId}{pos:String}{af:Array Edge}{gd:Option (Nat×Bool)}{x:Operand}{b off:Nat}{cs:List Value}{v:Value}{lo:Bool}{ty:TypeId}
  (hx:az fr x=some (.pointer (some ⟨b,off,none⟩)))[ho:iO own b cs ty lo][jq P t](hl:cs[off]? =some v):
  Yd P C fr own G ⟨dst, .load t x,ty',pos,af,gd⟩ v:=by
 intro a w hf hh;simp only[execOp,aP hf hx,Instr.loadAt,Instr.sureAddr];exact cv (BP (hh.hown _ ho.mem).1 hl)
def P'{dst:Option Nat}{t ty':TypeId}{pos:String}{af:Array Edge}{gd:Option (Nat×Bool)}{x:Operand}{b off k:Nat}{cs l:List Value}
  (hx:az fr x=some (.pointer (some ⟨b,off,none⟩)))(hg:G b=some cs)[mq P t k](hl:bO cs off k=some l):
  Yd P C fr own G ⟨dst, .load t x,ty',pos,af,gd⟩ (.agg ⟨l⟩):=by
 intro a w hf hh;obtain⟨ty,fz,hb⟩:=hh.sub _ _ hg;simp only[execOp,aP hf hx,Instr.loadAt,Instr.sureAddr];exact cv (B3 hb hl)
def xN{dst:Option Nat}{t ty':TypeId}{pos:String}{af:Array Edge}{gd:Option (Nat×Bool)}{x:Operand}{b off:Nat}{cs:List Value}{v:Value}
  (hx:az fr x=some (.pointer (some ⟨b,off,none⟩)))(hg:G b=some cs)[jq P t](hl:cs[off]? =some v):
  Yd P C fr own G ⟨dst, .load t x,ty',pos,af,gd⟩ v:=by
 intro a w hf hh;obtain⟨ty,fz,hb⟩:=hh.sub _ _ hg;simp only[execOp,aP hf hx,Instr.loadAt,Instr.sureAddr];exact cv (BP hb hl)
variable {dst:Option Nat} {t t' ty':TypeId} {pos:String} {af:Array Edge} {gd:Option (Nat×Bool)} {x y:Operand}
def jF{v:Value}(hx:az fr x=some v):Yd P C fr own G ⟨dst, .move x,ty',pos,af,gd⟩ v:=by
 intro a w hf hh;simp only[execOp,aP hf hx];rfl
def Ck{v:Value}(hx:az fr x=some v):Yd P C fr own G ⟨dst, .assign x,ty',pos,af,gd⟩ v:=by
 intro a w hf hh;simp only[execOp,aP hf hx];rfl
def tI{z:Operand}{v:Value}(hc:az fr z=some (.bool true))(hx:az fr x=some v):Yd P C fr own G ⟨dst, .pick z x y,ty',pos,af,gd⟩ v:=by
 intro a w hf hh;simp only[execOp,aP hf hc,aP hf hx,asBool];rfl
def ux{z:Operand}{v:Value}(hc:az fr z=some (.bool false))(hx:az fr y=some v):Yd P C fr own G ⟨dst, .pick z x y,ty',pos,af,gd⟩ v:=by
 intro a w hf hh;simp only[execOp,aP hf hc,aP hf hx,asBool];rfl
def yn{ad:Addr}(hx:az fr x=some (.pointer (some ad))):Yd P C fr own G ⟨dst, .nilCheck x,ty',pos,af,gd⟩ (.pointer (some ad)):=by
 intro a w hf hh;simp only[execOp,aP hf hx];rfl
def Bq{b o f off:Nat}[hF:K1 P t f off](hx:az fr x=some (.pointer (some ⟨b,o,none⟩))):
  Yd P C fr own G ⟨dst, .fieldAddr t x f,ty',pos,af,gd⟩ (.pointer (some ⟨b,o+off,none⟩)):=by
 intro a w hf hh;simp only[execOp,aP hf hx];have:=hF.at_ b o w;rw[mO] at this;exact cv this
def Ci{vs:Array Value}{i:Nat}{v:Value}(hx:az fr x=some (.tuple vs))(hv:vs[i]? =some v):Yd P C fr own G ⟨dst, .extract x i,ty',pos,af,gd⟩ v:=by
 intro a w hf hh;simp only[execOp,aP hf hx,Instr.extract,hv];rfl
def CT{fn:Fn}{c1 c2:Array Operand}{l1 l2:List Value}(h1:c1.toList.mapM (az fr)=some l1)(h2:c2.toList.mapM (az fr)=some l2):
  Yd P C fr own G ⟨dst, .makeFunc fn c1 c2,ty',pos,af,gd⟩ (.func fn ⟨l1⟩ ⟨l2⟩):=by
 intro a w hf hh;have key: ∀(l:List Operand) (m:List Value),l.mapM (az fr)=some m->l.map a.eval=m:=by
  intro l
  induction l with
  |nil=>intro m h;simp at h;subst h;rfl
  |cons o t ih=>
   intro m h;rw[nW] at h
   cases ho:az fr o with
   |none=>simp[ho] at h
   |some u=>
    cases ht:t.mapM (az fr) with
    |none=>simp[ho,ht] at h
    |some m'=>
     simp[ho,ht] at h;subst h;simp[aP hf ho,ih _ ht]
 have e1:c1.map a.eval=⟨l1⟩:=by apply Array.ext';simpa using key _ _ h1
 have e2:c2.map a.eval=⟨l2⟩:=by apply Array.ext';simpa using key _ _ h2
 simp only[execOp,e1,e2];rfl
def fm{op:BinOp}{k:IntKind}{p q:Int}{v:Value}(hx:az fr x=some (.int k p))(hy:az fr y=some (.int k q))(hs: ∀w,(binOp op t (.int k p) (.int k q)).run P w= .ok v w):
  Yd P C fr own G ⟨dst, .binOp op t x y t',ty',pos,af,gd⟩ v:=by
 intro a w hf hh;simp only[execOp,aP hf hx,aP hf hy];have:(eqGuard op t x y (.int k p) (.int k q)).run P w= .ok () w:=by cases op<;>rfl
 exact cv (by rw[aE this];exact hs w)
def Js(k:IntKind)(p q:Int)(w:World):(binOp .add t (.int k p) (.int k q)).run P w= .ok (.int k (k.wrap (p+q))) w:=by simp[binOp,Op.intArith,run_pure]
def E4(k:IntKind)(p q:Int)(w:World):(binOp .sub t (.int k p) (.int k q)).run P w= .ok (.int k (k.wrap (p-q))) w:=by simp[binOp,Op.intArith,run_pure]
def Ro(k:IntKind)(p q:Int)(w:World):(binOp .mul t (.int k p) (.int k q)).run P w= .ok (.int k (k.wrap (p*q))) w:=by simp[binOp,Op.intArith,run_pure]
def T0(k:IntKind)(p q:Int)(w:World)(h:q≠0):(binOp .quo t (.int k p) (.int k q)).run P w= .ok (.int k (k.wrap (p.tdiv q))) w:=by simp[binOp,Op.intDiv,run_pure,h]
def Vv(k:IntKind)(p q:Int)(w:World)(h:q≠0):(binOp .rem t (.int k p) (.int k q)).run P w= .ok (.int k (p.tmod q)) w:=by simp[binOp,Op.intDiv,run_pure,h]
def K9(k:IntKind)(p q:Int)(w:World):(binOp .lss t (.int k p) (.int k q)).run P w= .ok (.bool (decide (p<q))) w:=by simp[binOp,Op.intCmp,run_pure]
def Uz(k:IntKind)(p q:Int)(w:World):(binOp .leq t (.int k p) (.int k q)).run P w= .ok (.bool (decide (p<=q))) w:=by simp[binOp,Op.intCmp,run_pure]
def Pc(k:IntKind)(p q:Int)(w:World):(binOp .gtr t (.int k p) (.int k q)).run P w= .ok (.bool (decide (q<p))) w:=by simp[binOp,Op.intCmp,run_pure]
def NO(k:IntKind)(p q:Int)(w:World):(binOp .geq t (.int k p) (.int k q)).run P w= .ok (.bool (decide (q<=p))) w:=by simp[binOp,Op.intCmp,run_pure]
def MW(k:IntKind)(p q:Int)(w:World):(binOp .eql t (.int k p) (.int k q)).run P w= .ok (.bool (decide (p=q))) w:=by
 have:(p==q)=decide (p=q):=by rw[pN];simp
 simp[binOp,Op.intCmp,run_pure,this]
def Lp(k:IntKind)(p q:Int)(w:World):(binOp .neq t (.int k p) (.int k q)).run P w= .ok (.bool (decide (p≠q))) w:=by
 have:(p !=q)=decide (p≠q):=by rw[pN];simp
 simp[binOp,Op.intCmp,run_pure,this]
def pq{k:IntKind}{p:Int}(h:k.min<=p/\p<=k.max):k.wrap p=p:=by
 cases k<;>simp only[IntKind.min,IntKind.max,IntKind.wrap,IntKind.bits,IntKind.signed] at* <;>simp at h⊢ <;>(try split)<;>omega
def Cu{k:IntKind}{p q:Int}(hx:az fr x=some (.int k p))(hy:az fr y=some (.int k q))(h:k.min<=p+q/\p+q<=k.max):Yd P C fr own G ⟨dst, .binOp .add t x y t',ty',pos,af,gd⟩ (.int k (p+q)):=
 fm hx hy fun w=>by rw[Js,pq h]
def AA{k:IntKind}{p q:Int}(hx:az fr x=some (.int k p))(hy:az fr y=some (.int k q))(h:k.min<=p-q/\p-q<=k.max):Yd P C fr own G ⟨dst, .binOp .sub t x y t',ty',pos,af,gd⟩ (.int k (p-q)):=
 fm hx hy fun w=>by rw[E4,pq h]
def A9{k:IntKind}{p q:Int}(hx:az fr x=some (.int k p))(hy:az fr y=some (.int k q))(h:k.min<=p*q/\p*q<=k.max):Yd P C fr own G ⟨dst, .binOp .mul t x y t',ty',pos,af,gd⟩ (.int k (p*q)):=
 fm hx hy fun w=>by rw[Ro,pq h]
def Pj{k:IntKind}{p q:Int}(hx:az fr x=some (.int k p))(hy:az fr y=some (.int k q)):Yd P C fr own G ⟨dst, .binOp .add t x y t',ty',pos,af,gd⟩ (.int k (k.wrap (p+q))):=fm hx hy fun w=>Js k p q w
def rF{k:IntKind}{p q:Int}(hx:az fr x=some (.int k p))(hy:az fr y=some (.int k q)):Yd P C fr own G ⟨dst, .binOp .sub t x y t',ty',pos,af,gd⟩ (.int k (k.wrap (p-q))):=fm hx hy fun w=>E4 k p q w
def KM{k:IntKind}{p q:Int}(hx:az fr x=some (.int k p))(hy:az fr y=some (.int k q))(h:q≠0):Yd P C fr own G ⟨dst, .binOp .quo t x y t',ty',pos,af,gd⟩ (.int k (k.wrap (p.tdiv q))):=fm hx hy fun w=>T0 k p q w h
def Kl{k:IntKind}{p q:Int}(hx:az fr x=some (.int k p))(hy:az fr y=some (.int k q))(h:q≠0):Yd P C fr own G ⟨dst, .binOp .rem t x y t',ty',pos,af,gd⟩ (.int k (p.tmod q)):=fm hx hy fun w=>Vv k p q w h
def ie{k:IntKind}{p q:Int}(hx:az fr x=some (.int k p))(hy:az fr y=some (.int k q)):Yd P C fr own G ⟨dst, .binOp .lss t x y t',ty',pos,af,gd⟩ (.bool (decide (p<q))):=fm hx hy fun w=>K9 k p q w
def Rs{k:IntKind}{p q:Int}(hx:az fr x=some (.int k p))(hy:az fr y=some (.int k q)):Yd P C fr own G ⟨dst, .binOp .leq t x y t',ty',pos,af,gd⟩ (.bool (decide (p<=q))):=fm hx hy fun w=>Uz k p q w
def rA{k:IntKind}{p q:Int}(hx:az fr x=some (.int k p))(hy:az fr y=some (.int k q)):Yd P C fr own G ⟨dst, .binOp .gtr t x y t',ty',pos,af,gd⟩ (.bool (decide (q<p))):=fm hx hy fun w=>Pc k p q w
def vi{k:IntKind}{p q:Int}(hx:az fr x=some (.int k p))(hy:az fr y=some (.int k q)):Yd P C fr own G ⟨dst, .binOp .geq t x y t',ty',pos,af,gd⟩ (.bool (decide (q<=p))):=fm hx hy fun w=>NO k p q w
def nn{k:IntKind}{p q:Int}(hx:az fr x=some (.int k p))(hy:az fr y=some (.int k q)):Yd P C fr own G ⟨dst, .binOp .eql t x y t',ty',pos,af,gd⟩ (.bool (decide (p=q))):=fm hx hy fun w=>MW k p q w
def rL{k:IntKind}{p q:Int}(hx:az fr x=some (.int k p))(hy:az fr y=some (.int k q)):Yd P C fr own G ⟨dst, .binOp .neq t x y t',ty',pos,af,gd⟩ (.bool (decide (p≠q))):=fm hx hy fun w=>Lp k p q w
variable {e s by_:Nat}
def pH[hT:cB P t e s by_]{ad:Option Addr}{len cap:Nat}(hx:az fr x=some (.slice ad len cap)):
  Yd P C fr own G ⟨dst, .call ⟨.builtin .len, #[x], #[t]⟩,ty',pos,af,gd⟩ (.int .i64 len):=by
 intro a w hf hh;simp only[execOp,resolve,iW,cZ,iR,aP hf hx];have h1:(Builtin.len_ #[t] ty' #[.slice ad len cap]).run P w= .ok (.int .i64 len) w:=by
  simp only[Builtin.len_];show(underlying t>>=_).run P w=_;rw[aE (hT.u w)];rfl
 exact cv h1
def t6[hT:cB P t e s by_]{k:IntKind}{b off len cap:Nat}{i:Int}(hx:az fr x=some (.slice (some ⟨b,off,none⟩) len cap))(hy:az fr y=some (.int k i))(h0:0<=i)(h1:i<len):
  Yd P C fr own G ⟨dst, .indexAddr t x y,ty',pos,af,gd⟩ (.pointer (some ⟨b,off+i.toNat*s,none⟩)):=by
 intro a w hf hh;simp only[execOp,aP hf hx,aP hf hy];have:(Instr.indexAt t (.slice (some ⟨b,off,none⟩) len cap) (.int k i)).run P w= .ok (.pointer (some ⟨b,off+i.toNat*s,none⟩)) w:=by
  unfold Instr.indexAt;show(underlying t>>=_).run P w=_;rw[aE (hT.u w)];show(underlying t>>=_).run P w=_;rw[aE (hT.u w)];simp only[h0,h1,and_self,if_true];show(sizeOf e>>=_).run P w=_;rw[aE (hT.siz w),mO];rfl
 exact cv this
def rY{k:IntKind}{v:Int}{m:Nat}{c:BoundsCode}(w:World)(h0:0<=v)(h1:v<=m):(Instr.sliceBound (.int k v) m c).run P w= .ok v.toNat w:=by
 unfold Instr.sliceBound;simp[asIntOf,h0,h1,run_pure]
def jG(ad:Option Addr)(len cap lo hi mx s:Nat):Value:= .slice (if mx=lo then ad else ad.map (·.add (lo*s))) (hi-lo) (mx-lo)
def uJ[hT:cB P t e s by_]{ad:Option Addr}{len cap:Nat}(w:World){lo hi mx:Option Value}{l h m:Nat}(hb: ∀w,(Instr.sliceBounds true len cap lo hi mx).run P w= .ok (l,h,m) w):
  (Instr.sliceAt t (.slice ad len cap) lo hi mx).run P w= .ok (jG ad len cap l h m s) w:=by
 unfold Instr.sliceAt;rw[aE (hT.u w)];show(Instr.slice t (.slice ad len cap) lo hi mx).run P w=_;unfold Instr.slice;rw[aE (hT.u w)];show(Instr.sliceBounds true len cap lo hi mx>>=_).run P w=_;rw[aE (hb w)];show(sizeOf e>>=_).run P w=_;rw[aE (hT.siz w)];rfl
def vr[hT:cB P t e s by_]{k:IntKind}{ad:Option Addr}{len cap:Nat}{h:Int}(hx:az fr x=some (.slice ad len cap))(hy:az fr y=some (.int k h))(h0:0<=h)(h1:h<=cap):
  Yd P C fr own G ⟨dst, .slice t x none (some y) none,ty',pos,af,gd⟩ (.slice ad h.toNat cap):=by
 intro a w hf hh;simp only[execOp,aP hf hx,aP hf hy,oW,iJ];have:=uJ (P:=P) (t:=t) (ad:=ad) (len:=len) (cap:=cap) w (lo:=none) (hi:=some (.int k h)) (mx:=none) (l:=0) (h:=h.toNat) (m:=cap) (fun w=>by
  simp[Instr.sliceBounds,rY w h0 h1,Result.andThen])
 have e2:jG ad len cap 0 h.toNat cap s= .slice ad h.toNat cap:=by
  unfold jG
  cases ad with
  |none=>simp
  |some ad=>simp[Addr.add]
 rw[<-e2];exact cv this
def Ka[hT:cB P t e s by_]{k:IntKind}{ad:Option Addr}{len cap:Nat}{l:Int}(hx:az fr x=some (.slice ad len cap))(hy:az fr y=some (.int k l))(h0:0<=l)(h1:l<=len):
  Yd P C fr own G ⟨dst, .slice t x (some y) none none,ty',pos,af,gd⟩ (jG ad len cap l.toNat len cap s):=by
 intro a w hf hh;simp only[execOp,aP hf hx,aP hf hy,oW,iJ];exact cv (uJ (P:=P) (t:=t) (ad:=ad) (len:=len) (cap:=cap) w (lo:=some (.int k l)) (hi:=none) (mx:=none) (fun w=>by
  simp[Instr.sliceBounds,rY w h0 h1,Result.andThen]))
def PK[hT:cB P t e s by_]{k k':IntKind}{ad:Option Addr}{len cap:Nat}{l h:Int}{z:Operand}(hx:az fr x=some (.slice ad len cap))(hy:az fr y=some (.int k l))(hz:az fr z=some (.int k' h))(h0:0<=l)(h1:l<=h)(h2:h<=cap):
  Yd P C fr own G ⟨dst, .slice t x (some y) (some z) none,ty',pos,af,gd⟩ (jG ad len cap l.toNat h.toNat cap s):=by
 intro a w hf hh;simp only[execOp,aP hf hx,aP hf hy,aP hf hz,oW,iJ];exact cv (uJ (P:=P) (t:=t) (ad:=ad) (len:=len) (cap:=cap) w (lo:=some (.int k l)) (hi:=some (.int k' h)) (mx:=none) (fun w=>by
  have h1':l<=(h.toNat:Int):=by omega
  simp[Instr.sliceBounds,rY w (Int.le_trans h0 h1) h2,rY w h0 h1',Result.andThen]))
def MP[hT:cB P t e s by_]{k k':IntKind}{ad:Option Addr}{len cap:Nat}{h m:Int}{z:Operand}(hx:az fr x=some (.slice ad len cap))(hy:az fr y=some (.int k h))(hz:az fr z=some (.int k' m))(h0:0<=h)(h1:h<=m)(h2:m<=cap):
  Yd P C fr own G ⟨dst, .slice t x none (some y) (some z),ty',pos,af,gd⟩ (.slice ad h.toNat m.toNat):=by
 intro a w hf hh;simp only[execOp,aP hf hx,aP hf hy,aP hf hz,oW,iJ];have:=uJ (P:=P) (t:=t) (ad:=ad) (len:=len) (cap:=cap) w (lo:=none) (hi:=some (.int k h)) (mx:=some (.int k' m)) (l:=0) (h:=h.toNat) (m:=m.toNat) (fun w=>by
  have h1':h<=(m.toNat:Int):=by omega
  simp[Instr.sliceBounds,rY w (Int.le_trans h0 h1) h2,rY w h0 h1',Result.andThen])
 have e2:jG ad len cap 0 h.toNat m.toNat s= .slice ad h.toNat m.toNat:=by
  unfold jG
  cases ad with
  |none=>simp
  |some ad=>simp[Addr.add]
 rw[<-e2];exact cv this
class jn (P:Program) (t:TypeId) (k:outParam IntKind):Prop where u: ∀w,(underlying t).run P w= .ok (.int k) w
def vU{k k':IntKind}{p:Int}[hs:jn P t k][hd:jn P t' k'](hx:az fr x=some (.int k p)):Yd P C fr own G ⟨dst, .convert t t' x,ty',pos,af,gd⟩ (.int k' (k'.wrap p)):=by
 intro a w hf hh;simp only[execOp,aP hf hx];have:(convert t t' (.int k p)).run P w= .ok (.int k' (k'.wrap p)) w:=by
  unfold convert;rw[aE (hs.u w),aE (hd.u w)];rfl
 exact cv this
def BU{k k':IntKind}{p:Int}[hs:jn P t k][hd:jn P t' k'](hx:az fr x=some (.int k p))(h:k'.min<=p/\p<=k'.max):Yd P C fr own G ⟨dst, .convert t t' x,ty',pos,af,gd⟩ (.int k' p):=by
 have:=vU (P:=P) (C:=C) (own:=own) (G:=G) (dst:=dst) (ty':=ty') (pos:=pos) (af:=af) (gd:=gd) (t:=t) (t':=t') hx;rwa [pq h] at this
def U7{b:Bool}(hx:az fr x=some (.bool b)):Yd P C fr own G ⟨dst, .unOp .not t x,ty',pos,af,gd⟩ (.bool (!b)):=by
 intro a w hf hh;simp only[execOp,aP hf hx,Op.unary];rfl
def Cx{k:IntKind}{p:Int}(hx:az fr x=some (.int k p)):Yd P C fr own G ⟨dst, .unOp .neg t x,ty',pos,af,gd⟩ (.int k (k.wrap (0-p))):=by
 intro a w hf hh;simp only[execOp,aP hf hx,Op.unary,Op.intArith];rfl
end
def eH{w:World}{b:Nat}{o:Obj}(h:w.heap[b]? =some o):b<w.heap.size:=by
 rcases fS b w.heap.size with h'|h'
 ·exact h'
 ·simp[kR h'] at h
def bh.gnone{C:aA}{own:List av}{G:Gh}{w:World}(h:bh C own G w){b:Nat}(hb:w.heap.size<=b):G b=none:=by
 cases hG:G b with
 |none=>rfl
 |some cs=>
  obtain⟨ty,fz,hc⟩:=h.sub b cs hG;have:=eH hc;omega
def bh.alloc{C:aA}{own:List av}{G:Gh}{w:World}(h:bh C own G w)(cs:List Value)(ty:TypeId):
  bh C (⟨w.heap.size,cs,ty,true⟩::own) G (w.alloc (.cells ⟨cs⟩ ty)):=by
 have old: ∀b,b<w.heap.size->(w.alloc (.cells ⟨cs⟩ ty)).heap[b]? =w.heap[b]? :=fun b hb=>RowKit.Below.heap_alloc _ _ _ hb;refine⟨h.os,h.tape,h.output,?_,?_,?_,h.gle,h.gold,?_,?_,h.dr,fun p hp=>⟨(h.ext p hp).1,by rw[old _ (eH (h.ext p hp).2)];exact(h.ext p hp).2⟩⟩
 ·have:=h.size;simp;omega
 ·intro b hb hm;rw[old b (by have:=h.size;omega)];exact h.keep b hb hm
 ·intro b cs' hb
  obtain⟨ty',fz,hc⟩:=h.sub b cs' hb;exact⟨ty',fz,by rw[old b (eH hc)];exact hc⟩
 ·intro o ho
  rcases aR.1 ho with rfl|ho
  ·refine⟨by show(w.heap.push _)[w.heap.size]? =_;simp,h.gnone (aS _),fun _=>h.size,fun e=>by cases e⟩
  ·obtain⟨h1,h2⟩:=h.hown o ho
   exact⟨by rw[old _ (eH h1)];exact h1,h2⟩
 ·refine List.Pairwise.cons ?_ h.nd
  intro o ho;have:=eH (h.hown o ho).1;show w.heap.size≠o.b;omega
def e8(w:World)(b:Nat)(o:Obj):World:={w with heap:=w.heap.setIfInBounds b o}
def yq{l:List av}:l.Pairwise (fun x y=>x.b≠y.b)↔(l.map (·.b)).Pairwise (· ≠ ·):=by rw[pZ]
def f5.spec{own own':List av}{b:Nat}{cs cs':List Value}{ty:TypeId}{lo:Bool}(h:f5 own b cs ty lo cs' own')(nd:own.Pairwise (fun x y=>x.b≠y.b)):
  ⟨b,cs,ty,lo⟩∈own/\(∀o,o∈own'->o=⟨b,cs',ty,lo⟩\/(o∈own/\o.b≠b))/\own'.map (·.b)=own.map (·.b):=by
 induction h with
 |hd b cs cs' ty lo t=>
  refine⟨aZ,fun o ho=>?_,J⟩;rcases aR.1 ho with rfl|h
  ·exact .inl J
  ·exact .inr ⟨aK _ h,Ne.symm ((bU.1 nd).1 _ h)⟩
 |tl o t t' b cs cs' ty lo h ih=>
  obtain⟨h1,h2,h3⟩:=ih (bU.1 nd).2;refine⟨aK _ h1,fun x hx=>?_,by simp[h3]⟩;rcases aR.1 hx with rfl|hx
  ·exact .inr ⟨aZ,(bU.1 nd).1 _ h1⟩
  ·exact(h2 x hx).imp id (fun k=>⟨aK _ k.1,k.2⟩)
def vT{w:World}{b k:Nat}{o:Obj}(hk:k≠b):(e8 w b o).heap[k]? =w.heap[k]? :=by
 simp only[e8];rw[cL];simp[Ne.symm hk]
def KQ{w:World}{b:Nat}{o:Obj}(hb:b<w.heap.size):(e8 w b o).heap[b]? =some o:=by
 simp only[e8];rw[cL];simp[hb]
def bh.extNe{C:aA}{own:List av}{G:Gh}{w:World}(h:bh C own G w){p:Nat×Obj}(hp:p∈C.ex){b:Nat}{cs:Array Value}{ty:TypeId}{z:Nat×Nat}(hb:w.heap[b]? =some (.cells cs ty z)):p.1≠b:=fun e=>by
 obtain⟨h1,h2⟩:=h.ext p hp;rw[e,hb] at h2;exact h1 _ _ _ (Option.some.inj h2).symm
def bh.extM{C:aA}{M rest:List av}{G:Gh}{w:World}(h:bh C (M++rest) G w){p:Nat×Obj}(hp:p∈C.ex):p.1∉M.map (·.b):=fun hm=>by
 obtain⟨m,hm,e⟩:=bY.1 hm;exact h.extNe hp (h.hown m (cW _ hm)).1 e.symm
def bh.store{C:aA}{own own':List av}{G:Gh}{w:World}{b:Nat}{cs cs':List Value}{ty:TypeId}{lo:Bool}(h:bh C own G w)(hu:f5 own b cs ty lo cs' own'):
  bh C own' G (e8 w b (.cells ⟨cs'⟩ ty (0,0))):=by
 obtain⟨h1,h2,h3⟩:=hu.spec h.nd;obtain⟨hb,hGb,hlo1,hlo2⟩:=h.hown _ h1;have hlt:=eH hb;refine⟨h.os,h.tape,h.output,by simpa[e8] using h.size,?_,?_,h.gle,h.gold,?_,yq.2 (h3▸yq.1 h.nd),h.dr,fun p hp=>⟨(h.ext p hp).1,by rw[vT (h.extNe hp hb)];exact(h.ext p hp).2⟩⟩
 ·intro k hk hm
  by_cases hkb:k=b
  ·subst hkb
   cases hlo:lo with
   |true=>have h5:=hlo1 hlo;simp only[] at h5;omega
   |false=>exact absurd (hlo2 hlo) hm
  ·rw[vT hkb];exact h.keep k hk hm
 ·intro k cs1 hk
  obtain⟨ty',fz,hc⟩:=h.sub k cs1 hk;have:k≠b:=fun e=>by subst e;rw[show G k=none from hGb] at hk;cases hk
  exact⟨ty',fz,by rw[vT this];exact hc⟩
 ·intro o ho
  rcases h2 o ho with rfl|⟨ho',hne⟩
  ·exact⟨KQ hlt,hGb,hlo1,hlo2⟩
  ·obtain⟨k1,k2⟩:=h.hown o ho'
   exact⟨by rw[vT hne];exact k1,k2⟩
def jd.spec{own own':List av}{o:av}(h:jd own o own')(nd:own.Pairwise (fun x y=>x.b≠y.b)):
  o∈own/\(∀x,x∈own'->x∈own/\x.b≠o.b)/\own'.Pairwise (fun x y=>x.b≠y.b):=by
 induction h with
 |hd o t=>exact⟨aZ,fun x hx=>⟨aK _ hx,Ne.symm ((bU.1 nd).1 _ hx)⟩,(bU.1 nd).2⟩
 |tl y t t' o h ih=>
  obtain⟨h1,h2,h3⟩:=ih (bU.1 nd).2;refine⟨aK _ h1,fun x hx=>?_,List.Pairwise.cons (fun x hx=>(bU.1 nd).1 _ (h2 x hx).1) h3⟩;rcases aR.1 hx with rfl|hx
  ·exact⟨aZ,(bU.1 nd).1 _ h1⟩
  ·exact⟨aK _ (h2 x hx).1,(h2 x hx).2⟩
def bh.freeze{C:aA}{own own':List av}{G:Gh}{w:World}{b:Nat}{cs:List Value}{ty:TypeId}(h:bh C own G w)(hr:jd own ⟨b,cs,ty,true⟩ own'):
  bh C own' (fun k=>if k=b then some cs else G k) w/\bg G (fun k=>if k=b then some cs else G k):=by
 obtain⟨h1,h2,h3⟩:=hr.spec h.nd;obtain⟨hb,hGb,hlo,_⟩:=h.hown _ h1;have hle:bg G (fun k=>if k=b then some cs else G k):=fun k c hk=>by
  have:k≠b:=fun e=>by subst e;rw[show G k=none from hGb] at hk;cases hk
  simp[this,hk]
 refine⟨⟨h.os,h.tape,h.output,h.size,h.keep,?_,h.gle.trans hle,?_,?_,h3,h.dr,h.ext⟩,hle⟩
 ·intro k c hk
  by_cases e:k=b
  ·subst e;simp only[if_true] at hk;cases hk;exact⟨ty,(0,0),hb⟩
  ·simp only[e,if_false] at hk;exact h.sub k c hk
 ·intro k hk
  have h5:C.w0.heap.size<=b:=hlo J;have:k≠b:=by omega
  simp only[this,if_false];exact h.gold k hk
 ·intro o ho
  obtain⟨k1,k2⟩:=h2 o ho;obtain⟨m1,m2,m3⟩:=h.hown o k1;exact⟨m1,by rw[if_neg k2];exact m2,m3⟩
def bh.drop{C:aA}{own own':List av}{G:Gh}{w:World}(h:bh C own G w)(hs:own'.Sublist own):bh C own' G w:=
 ⟨h.os,h.tape,h.output,h.size,h.keep,h.sub,h.gle,h.gold,fun o ho=>h.hown o (hs.subset ho),h.nd.sublist hs,h.dr,h.ext⟩
def bh.perm{C:aA}{own own':List av}{G:Gh}{w:World}(h:bh C own G w)(hs:own.Perm own'):bh C own' G w:=
 ⟨h.os,h.tape,h.output,h.size,h.keep,h.sub,h.gle,h.gold,fun o ho=>h.hown o (hs.mem_iff.2 ho),(hs.pairwise_iff (fun h=>Ne.symm h)).1 h.nd,h.dr,h.ext⟩
def bh.drew{C:aA}{own:List av}{G:Gh}{w:World}(h:bh C own G w):bh C own G {w with drawn:=w.drawn+1}:=
 ⟨h.os,h.tape,h.output,h.size,h.keep,h.sub,h.gle,h.gold,h.hown,h.nd,Nat.le_succ_of_le h.dr,h.ext⟩
def kO(P:Program)(f:FuncId):Prop:= ∃fn,P.funcs[f]? =some fn/\(fn.name== "runtime.NumGoroutine")=false/\fn.body.isNone=false
def iD(M:List av)(css:List (List Value)):List av:=(M.zip css).map fun p=>{p.1 with cs:=p.2}
def asB(M:List av):List av:=M.map fun o=>{o with lo:=false}
structure Fn (P:Program) (f:FuncId) (vs:List Value) (G:Gh) (K:Value->Gh->Prop):Prop where
 able:kO P f
 run: ∀w,(∀b cs,G b=some cs-> ∃ty fz,w.heap[b]? =some (.cells ⟨cs⟩ ty fz))->
  Calls P f ⟨vs⟩ w fun e w'=> ∃v G',e= .returned v/\bh ⟨w,G,[],[],[],none,fun _=>none⟩ [] G' w'/\K v G'
structure rg (P:Program) (f:FuncId) (vs:List Value) (M:List av) (G:Gh) (K:Value->List (List Value)->Gh->Prop):Prop where
 able:kO P f
 run: ∀w,bh ⟨w,G,M.map (·.b),[],[],none,fun _=>none⟩ (asB M) G w->
  Calls P f ⟨vs⟩ w fun e w'=> ∃v css G',e= .returned v/\css.length=M.length/\bh ⟨w,G,M.map (·.b),[],[],none,fun _=>none⟩ (iD (asB M) css) G' w'/\K v css G'
def Fn.mono{P:Program}{f:FuncId}{vs:List Value}{G:Gh}{K K':Value->Gh->Prop}(h:Fn P f vs G K)(hk: ∀v G',bg G G'->K v G'->K' v G'):Fn P f vs G K':=
 ⟨h.able,fun w hw=>(h.run w hw).mono fun _ _ ⟨v,G',he,hh,hK⟩=>⟨v,G',he,hh,hk v G' hh.gle hK⟩⟩
def bh.called{C:aA}{own:List av}{G G':Gh}{w w':World}(h:bh C own G w)(k:bh ⟨w,G,[],[],[],none,fun _=>none⟩ [] G' w'):bh C own G' w':=by
 have same: ∀b o,w.heap[b]? =some o->w'.heap[b]? =some o:=fun b o hb=>by rw[k.keep b (eH hb) (by simp)];exact hb
 have hsz:w.heap.size<=w'.heap.size:=k.size;refine⟨k.os.trans h.os,k.tape.trans h.tape,k.output.trans h.output,fQ h.size hsz,?_,k.sub,h.gle.trans k.gle,?_,?_,h.nd,fQ h.dr k.dr,fun p hp=>⟨(h.ext p hp).1,same _ _ (h.ext p hp).2⟩⟩
 ·intro b hb hm;have:=h.size;rw[k.keep b (by show b<w.heap.size;omega) (by simp)];exact h.keep b hb hm
 ·intro b hb;have:=h.size;rw[k.gold b (by show b<w.heap.size;omega)];exact h.gold b hb
 ·intro o ho
  obtain⟨h1,h2,h3⟩:=h.hown o ho;exact⟨same _ _ h1,by rw[k.gold _ (eH h1)];exact h2,h3⟩
def N4(M:List av)(css:List (List Value))(h:css.length=M.length):(iD M css).map (·.b)=M.map (·.b):=by
 induction M generalizing css with
 |nil=>simp[iD]
 |cons o M ih=>
  cases css with
  |nil=>simp at h
  |cons c css=>simp only[bL,Nat.add_right_cancel_iff] at h;simpa[iD] using ih css h
def Oo{M:List av}{css:List (List Value)}{o:av}(ho:o∈iD M css): ∃c∈css,∃m∈M,o={m with cs:=c}/\{m with cs:=c,lo:=false}∈iD (asB M) css:=by
 induction M generalizing css with
 |nil=>simp[iD] at ho
 |cons x M ih=>
  cases css with
  |nil=>simp[iD] at ho
  |cons c css=>
   simp only[iD,List.zip_cons_cons,cZ,aR] at ho;rcases ho with rfl|ho
   ·exact⟨c,aZ,x,aZ,J,by simp[iD,asB]⟩
   ·obtain⟨c',hc',m,hm,e,hh⟩:=ih ho
    refine⟨c',aK _ hc',m,aK _ hm,e,?_⟩;simp only[iD,asB,cZ,List.zip_cons_cons,aR];exact .inr hh
def bh.lend{C:aA}{M rest:List av}{G:Gh}{w:World}(h:bh C (M++rest) G w):bh ⟨w,G,M.map (·.b),[],[],none,fun _=>none⟩ (asB M) G w:=by
 refine⟨J,J,J,aS _,fun _ _ _=>J,h.sub,bg.refl _,fun _ _=>J,?_,?_,aS _,fun p hp=>by cases hp⟩
 ·intro o ho
  obtain⟨m,hm,rfl⟩:=bY.1 ho;obtain⟨h1,h2,_⟩:=h.hown m (cW _ hm);exact⟨h1,h2,by simp,fun _=>bY.2 ⟨m,hm,J⟩⟩
 ·have:=(iQ.1 h.nd).1
  unfold asB;rw[pZ];exact this
def bh.calledM{C:aA}{M rest:List av}{G G':Gh}{w w':World}{css:List (List Value)}(h:bh C (M++rest) G w)(hl:css.length=M.length)(k:bh ⟨w,G,M.map (·.b),[],[],none,fun _=>none⟩ (iD (asB M) css) G' w'):
  bh C (iD M css++rest) G' w':=by
 have hsz:w.heap.size<=w'.heap.size:=k.size;have hnd:=h.nd;have inM: ∀b,b∈M.map (·.b)-> ∀o∈rest,o.b≠b:=fun b hb o ho e=>by
  obtain⟨m,hm,rfl⟩:=bY.1 hb;exact(iQ.1 hnd).2.2 m hm o ho e.symm
 refine⟨k.os.trans h.os,k.tape.trans h.tape,k.output.trans h.output,fQ h.size hsz,?_,k.sub,h.gle.trans k.gle,?_,?_,?_,fQ h.dr k.dr,fun p hp=>⟨(h.ext p hp).1,by rw[k.keep _ (eH (h.ext p hp).2) (h.extM hp)];exact(h.ext p hp).2⟩⟩
 ·intro b hb hm
  have hs:=h.size;have hnM:b∉M.map (·.b):=fun hb'=>by
   obtain⟨m,hmM,rfl⟩:=bY.1 hb';obtain⟨_,_,h3,h4⟩:=h.hown m (cW _ hmM)
   cases hlo:m.lo with
   |true=>have:=h3 hlo;omega
   |false=>exact hm (h4 hlo)
  rw[k.keep b (by show b<w.heap.size;omega) hnM];exact h.keep b hb hm
 ·intro b hb;have:=h.size;rw[k.gold b (by show b<w.heap.size;omega)];exact h.gold b hb
 ·intro o ho
  rcases dK.1 ho with ho|ho
  ·obtain⟨c,hc,m,hm,rfl,hmem⟩:=Oo ho
   obtain⟨k1,k2,_⟩:=k.hown _ hmem;obtain⟨_,_,h3⟩:=h.hown m (cW _ hm);exact⟨k1,k2,h3⟩
  ·obtain⟨h1,h2,h3⟩:=h.hown o (fZ _ ho)
   have hnM:o.b∉M.map (·.b):=fun hb=>inM _ hb o ho J;exact⟨by rw[k.keep _ (eH h1) hnM];exact h1,by rw[k.gold _ (eH h1)];exact h2,h3⟩
 ·rw[yq,cX,N4 _ _ hl,<-cX,<-yq];exact hnd
abbrev ii:= @inferInstance.{0}
def nb{a b:Nat}(h:Nat.ble a b=true):a<=b:=Nat.le_of_ble_eq_true h
def sR{P:Program}{C:aA}{n:Nat}{fr:Fr}{own:List av}{G:Gh}{Q:Exit->Act->World->Prop}{id:Nat}{ops:Array Oper}{y:Code}(h:St C n fr own G (dm P ops (Exit.then (y.wp P Q) Q) ops.toList)):St C n fr own G ((Code.seq (Code.region id ops false) y).wp P Q):=bu (cI h)
end Go.Sx
end
section
namespace Go.Sx
open Go
def aF:Value->List Value
 | .agg ⟨l⟩=>l
 |v=>[v]
def mv(v:Value):v.cells=⟨aF v⟩:=by
 cases v<;>first|rfl|(rename_i a;cases a;rfl)
def flat:Value->Bool
 | .agg _=>false
 | .tuple _=>false
 |_=>true
def fI(fr:Fr):List Operand->Option (List Value)
 |[]=>some []
 |x::t=>match az fr x,fI fr t with
  |some v,some l=>some (v::l)
  |_,_=>none
def yj{fr:Fr}{a:Act}(h:iE fr a): ∀{l:List Operand} {vs:List Value},fI fr l=some vs->l.map a.eval=vs
 |[],vs,e=>by simp[fI] at e;subst e;rfl
 |x::t,vs,e=>by
  simp only[fI] at e;split at e
  ·rename_i v l hv hl
   cases e
   simp[aP h hv,yj h hl]
  ·cases e
section
variable {P:Program} {C:aA} {n:Nat} {fr:Fr} {own own':List av} {G:Gh} {ops:Array Oper} {Q:Exit->Act->World->Prop} {r:List Oper}
variable {dst:Option Nat} {t t' ty':TypeId} {pos:String} {af:Array Edge} {x y:Operand}
def Ch(P:Program)(C:aA)(n:Nat)(fr:Fr)(own:List av)(G:Gh)(o:Oper)(Φ:Act->World->Prop):Prop:=
 ∀(a:Act) (w:World) (Q:Exit->Act->World->Prop),eO C n fr own G a w->o.wp P a w Φ Q
def Pm{o:Oper}(hg:o.guard=none)(hc:Ch P C n fr own G o (dm P ops Q r)):St C n fr own G (dm P ops Q (o::r)):=by
 intro a w rl;simp only[dm,Region.wanted,hg,if_true];exact hc a w _ rl
variable {Φ:Act->World->Prop} {gd:Option (Nat×Bool)}
def D2{w:World}{ty:TypeId}{v:Value}:(newVar ty v).run P w= .ok ⟨w.heap.size,0,none⟩ (w.alloc (.cells ⟨aF v⟩ ty)):=by
 unfold newVar newRow;rw[mv];rfl
def kr{o:Oper}{v:Value}{w':World}{a:Act}{w:World}{Φ:Act->World->Prop}{Q:Exit->Act->World->Prop}(h:(execOp a.eval o).run P w= .ok (.value v) w')(hk:Φ (a.put o.dst v) w'):o.wp P a w Φ Q:=by
 simp only[Oper.wp,h,Oper.upon];exact hk
def TO{z:Value}[hz:io P t z](hd:bH n dst=true)(h: ∀b,St C n (put fr dst (.pointer (some ⟨b,0,none⟩))) (⟨b,aF z,t,true⟩::own) G Φ):
  Ch P C n fr own G ⟨dst, .alloc t,ty',pos,af,gd⟩ Φ:=by
 intro a w Q rl;have h1:(Instr.alloc t true (.tuple #[])).run P w= .ok (.pointer (some ⟨w.heap.size,0,none⟩)) (w.alloc (.cells ⟨aF z⟩ t)):=by
  unfold Instr.alloc;rw[aE (hz.zero w)];show(newVar t z>>=_).run P w=_;rw[aE D2];rfl
 refine kr (cv h1) (h w.heap.size _ _ ?_);exact(rl.heap (rl.h.alloc _ _)).put _ hd
def Lt{v:Value}(hx:az fr x=some v)(hd:bH n dst=true)(h: ∀b,St C n (put fr dst (.pointer (some ⟨b,0,none⟩))) (⟨b,aF v,t,true⟩::own) G Φ):
  Ch P C n fr own G ⟨dst, .box t x,ty',pos,af,gd⟩ Φ:=by
 intro a w Q rl;have h1:(Instr.box t (a.eval x)).run P w= .ok (.pointer (some ⟨w.heap.size,0,none⟩)) (w.alloc (.cells ⟨aF v⟩ t)):=by
  unfold Instr.box;rw[aP rl.fr hx,aE D2];rfl
 refine kr (cv h1) (h w.heap.size _ _ ?_);exact(rl.heap (rl.h.alloc _ _)).put _ hd
def S3{w:World}{b off:Nat}{cs:List Value}{ty:TypeId}{fz:Nat×Nat}{v:Value}(h:w.heap[b]? =some (.cells ⟨cs⟩ ty fz)):w.setCell ⟨b,off,none⟩ v=e8 w b (.cells ⟨cs.set off v⟩ ty fz):=by
 unfold World.setCell e8;congr 1;apply Array.ext_getElem?;intro i;rw[Array.getElem?_modify,cL];by_cases hi:b=i
 ·subst hi
  have:=eH h;simp only[if_true,h,iJ,this];simp
 ·simp[hi]
def QP{w:World}{b off:Nat}{cs:List Value}{ty:TypeId}{v:Value}(hv:flat v=true)(h:w.heap[b]? =some (.cells ⟨cs⟩ ty (0,0)))(ho:off<cs.length):
  (store ⟨b,off,none⟩ v).run P w= .ok () (e8 w b (.cells ⟨cs.set off v⟩ ty (0,0))):=by
 have hc:w.cell? ⟨b,off,none⟩=some cs[off]:=by rw[uT h,aQ ho]
 have hf:w.frozen? ⟨b,off,none⟩=false:=by simp[World.frozen?,h]
 cases v<;>first|(simp[flat] at hv;done)|(simp only[store,Sem.run,hc,hf,S3 h];rfl)
def OR(w:World)(b:Nat)(o o':Obj):e8 (e8 w b o) b o'=e8 w b o':=by
 simp[e8]
def Pp{w:World}{b:Nat}{o:Obj}(h:w.heap[b]? =some o):e8 w b o=w:=by
 unfold e8;congr 1;apply Array.ext_getElem?;intro i;rw[cL];by_cases hi:b=i
 ·subst hi
  have hlt:=eH h;simp only[if_true,hlt];rw[h]
 ·simp[hi]
def uD{b:Nat}{ty:TypeId}: ∀(vs:List Value) (w:World) (off i:Nat) (cs:List Value),(∀v∈vs,flat v=true)->w.heap[b]? =some (.cells ⟨cs⟩ ty (0,0))->off+i+vs.length<=cs.length->
  (storeCells ⟨b,off,none⟩ vs i).run P w= .ok () (e8 w b (.cells ⟨cP cs (off+i) vs⟩ ty (0,0)))
 |[],w,off,i,cs,_,h,_=>by
  unfold storeCells cP;rw[Pp h];rfl
 |v::vs,w,off,i,cs,hf,h,hl=>by
  unfold storeCells;simp only[bL] at hl;rw[mO,aE (QP (hf v aZ) h (by omega))];rw[uD vs _ off (i+1) (cs.set (off+i) v) (fun u hu=>hf u (aK _ hu)) (KQ (eH h)) (by simp;omega)];rw[OR];rfl
def A4{v:Value}{b off k:Nat}{cs:List Value}{ty:TypeId}{lo:Bool}(hx:az fr x=some (.pointer (some ⟨b,off,none⟩)))(hy:az fr y=some v)[hs:mq P t k]
  (hu:f5 own b cs ty lo (cP cs off (aF v)) own')(hk:(aF v).length=k)(hl:off+k<=cs.length)(hf:(aF v).all flat=true)(hd:bH n dst=true)(h:St C n (put fr dst undef) own' G Φ):
  Ch P C n fr own G ⟨dst, .store t x y,ty',pos,af,gd⟩ Φ:=by
 intro a w Q rl;have hb:=(rl.h.hown _ (hu.spec rl.h.nd).1).1;have h1:(Instr.storeAt t (a.eval x) (a.eval y)).run P w= .ok () (e8 w b (.cells ⟨cP cs off (aF v)⟩ ty (0,0))):=by
  rw[aP rl.fr hx,aP rl.fr hy];simp only[Instr.storeAt,Instr.sureAddr];show(storeVar t ⟨b,off,none⟩ v).run P w=_;unfold storeVar;rw[aE (hs.siz w),mv];simp only[lT,hk,ne_eq,not_true_eq_false,if_false];have:=uD (P:=P) (aF v) w off 0 cs (by simpa using hf) hb (by omega);simpa using this
 have h2:(execOp a.eval ⟨dst, .store t x y,ty',pos,af,gd⟩).run P w= .ok .skip (e8 w b (.cells ⟨cP cs off (aF v)⟩ ty (0,0))):=by
  simp only[execOp];rw[aE h1];rfl
 simp only[Oper.wp,h2,Oper.upon];exact h _ _ ((rl.heap (rl.h.store hu)).put _ hd)
def x5{v:Value}{b off:Nat}{cs:List Value}{ty:TypeId}{lo:Bool}(hx:az fr x=some (.pointer (some ⟨b,off,none⟩)))(hy:az fr y=some v)[hs:jq P t]
  (hu:f5 own b cs ty lo (cs.set off v) own')(hl:off<cs.length)(hf:flat v=true)(hd:bH n dst=true)(h:St C n (put fr dst undef) own' G Φ):
  Ch P C n fr own G ⟨dst, .store t x y,ty',pos,af,gd⟩ Φ:=by
 intro a w Q rl;have hb:=(rl.h.hown _ (hu.spec rl.h.nd).1).1;have hc:v.cells= #[v]:=by cases v<;>first|rfl|(simp[flat] at hf)
 have h1:(Instr.storeAt t (a.eval x) (a.eval y)).run P w= .ok () (e8 w b (.cells ⟨cs.set off v⟩ ty (0,0))):=by
  rw[aP rl.fr hx,aP rl.fr hy];simp only[Instr.storeAt,Instr.sureAddr];show(storeVar t ⟨b,off,none⟩ v).run P w=_;unfold storeVar;rw[aE (hs.siz w),hc];simp only[lT,bL,iS,ne_eq,not_true_eq_false,if_false,dV];have:=uD (P:=P) [v] w off 0 cs (by simpa using hf) hb (by simp;omega);simpa[cP] using this
 have h2:(execOp a.eval ⟨dst, .store t x y,ty',pos,af,gd⟩).run P w= .ok .skip (e8 w b (.cells ⟨cs.set off v⟩ ty (0,0))):=by
  simp only[execOp];rw[aE h1];rfl
 simp only[Oper.wp,h2,Oper.upon];exact h _ _ ((rl.heap (rl.h.store hu)).put _ hd)
def xg{f:FuncId}(h:kO P f)(args:Array Value)(w:World):(callFunc f args).run P w= .ok (.enter f args) w:=by
 obtain⟨fn,h1,h2,h3⟩:=h;unfold callFunc;show(program>>=_).run P w=_;rw[aE (a:=P) (w':=w) J];simp only[h1,h2,h3];rfl
def Cl{f:FuncId}{fo:Operand}{args:Array Operand}{tys:Array TypeId}{vs c1 c2:List Value}{a:Act}{w:World}(h:kO P f)(hf:iE fr a)(ho:az fr fo=some (.func (.func f) ⟨c1⟩ ⟨c2⟩))(hv:fI fr args.toList=some vs):
  (execOp a.eval ⟨dst, .call ⟨.value fo,args,tys⟩,ty',pos,af,gd⟩).run P w= .ok (.enter f ⟨c1++vs++c2⟩) w:=by
 have e:args.map a.eval=⟨vs⟩:=by apply Array.ext';simpa using yj hf hv
 simp only[execOp,resolve,aP hf ho,e,Deferred.ofValue];show(invoke (.fn (.func f) ⟨c2⟩) (⟨c1⟩++⟨vs⟩)).run P w=_;simp only[invoke];rw[xg h];simp
def Gf{f:FuncId}{fo:Operand}{args:Array Operand}{tys:Array TypeId}{vs c1 c2:List Value}{K:Value->Gh->Prop}(ho:az fr fo=some (.func (.func f) ⟨c1⟩ ⟨c2⟩))(hv:fI fr args.toList=some vs)
  (hF:Fn P f (c1++vs++c2) G K)(hd:bH n dst=true)(h: ∀v (G':Gh),[GE G G']->K v G'->St C n (put fr dst v) own G' Φ):
  Ch P C n fr own G ⟨dst, .call ⟨.value fo,args,tys⟩,ty',pos,af,gd⟩ Φ:=by
 intro a w Q rl;have h2:=Cl (P:=P) (dst:=dst) (ty':=ty') (pos:=pos) (af:=af) (gd:=gd) (tys:=tys) (w:=w) hF.able rl.fr ho hv;simp only[Oper.wp,h2,Oper.upon];refine(hF.run w rl.h.sub).mono ?_;rintro e w' ⟨v,G',rfl,hh,hK⟩;exact @h v G' ⟨hh.gle⟩ hK _ _ ((rl.heap (rl.h.called hh)).put _ hd)
def zC{f:FuncId}{fo:Operand}{args:Array Operand}{tys:Array TypeId}{vs:List Value}{K:Value->Gh->Prop}(ho:az fr fo=some (.func (.func f) #[] #[]))(hv:fI fr args.toList=some vs)
  (hF:Fn P f vs G K)(hd:bH n dst=true)(h: ∀v (G':Gh),[GE G G']->K v G'->St C n (put fr dst v) own G' Φ):
  Ch P C n fr own G ⟨dst, .call ⟨.value fo,args,tys⟩,ty',pos,af,gd⟩ Φ:=
 Gf (c1:=[]) (c2:=[]) ho hv (by simpa using hF) hd h
def OF{f:FuncId}{fo:Operand}{args:Array Operand}{tys:Array TypeId}{vs c1 c2:List Value}{M rest:List av}{K:Value->List (List Value)->Gh->Prop}(ho:az fr fo=some (.func (.func f) ⟨c1⟩ ⟨c2⟩))(hv:fI fr args.toList=some vs)
  (hp:own.Perm (M++rest))(hF:rg P f (c1++vs++c2) M G K)(hd:bH n dst=true)(h: ∀v css (G':Gh),[GE G G']->css.length=M.length->K v css G'->St C n (put fr dst v) (iD M css++rest) G' Φ):
  Ch P C n fr own G ⟨dst, .call ⟨.value fo,args,tys⟩,ty',pos,af,gd⟩ Φ:=by
 intro a w Q rl;have h2:=Cl (P:=P) (dst:=dst) (ty':=ty') (pos:=pos) (af:=af) (gd:=gd) (tys:=tys) (w:=w) hF.able rl.fr ho hv;simp only[Oper.wp,h2,Oper.upon];have hh0:=rl.h.perm hp;refine(hF.run w hh0.lend).mono ?_;rintro e w' ⟨v,css,G',rfl,hl,hh,hK⟩;exact @h v css G' ⟨hh.gle⟩ hl hK _ _ ((rl.heap (hh0.calledM hl hh)).put _ hd)
def Sy{f:FuncId}{fo:Operand}{args:Array Operand}{tys:Array TypeId}{vs:List Value}{M rest:List av}{K:Value->List (List Value)->Gh->Prop}(ho:az fr fo=some (.func (.func f) #[] #[]))(hv:fI fr args.toList=some vs)
  (hp:own.Perm (M++rest))(hF:rg P f vs M G K)(hd:bH n dst=true)(h: ∀v css (G':Gh),[GE G G']->css.length=M.length->K v css G'->St C n (put fr dst v) (iD M css++rest) G' Φ):
  Ch P C n fr own G ⟨dst, .call ⟨.value fo,args,tys⟩,ty',pos,af,gd⟩ Φ:=
 OF (c1:=[]) (c2:=[]) ho hv hp (by simpa using hF) hd h
end
section
variable {P:Program} {C:aA} {n:Nat} {fr:Fr} {own own':List av} {G:Gh}
inductive il (P:Program) (fr:Fr) (own:List av):List ResultVar->List Value->Prop
 |nil:il P fr own [] []
 |tmp {t:Nat} {v:Value} {rs:List ResultVar} {vs:List Value} (h:fj fr t=some v) (k:il P fr own rs vs):il P fr own (.tmp t::rs) (v::vs)
 |agg {a b k:Nat} {t ty:TypeId} {cs l:List Value} {lo:Bool} {rs:List ResultVar} {vs:List Value} (h:fj fr a=some (.pointer (some ⟨b,0,none⟩))) (ho:iO own b cs ty lo) (ht:mq P t k) (hl:bO cs 0 k=some l) (h2:il P fr own rs vs):
   il P fr own (.cell a t::rs) (.agg ⟨l⟩::vs)
 |sc {a b:Nat} {t ty:TypeId} {cs:List Value} {v:Value} {lo:Bool} {rs:List ResultVar} {vs:List Value} (h:fj fr a=some (.pointer (some ⟨b,0,none⟩))) (ho:iO own b cs ty lo) (ht:jq P t) (hl:cs[0]? =some v) (h2:il P fr own rs vs):
   il P fr own (.cell a t::rs) (v::vs)
def sJ(a:Act):ResultVar->Sem Value
 | .tmp t=>pure (a.tmps.getD t undef)
 | .cell x t=>do loadVar t (<-asAddr (a.tmps.getD x undef))
def il.run{rs:List ResultVar}{vs:List Value}(h:il P fr own rs vs){a:Act}{w:World}(hf:iE fr a)(hh:bh C own G w):
  (rs.mapM (sJ a)).run P w= .ok vs w:=by
 induction h with
 |nil=>rfl
 | @tmp t v rs vs h k ih=>
  rw[nW];have e:=hf _ _ h;have e2:a.tmps.getD t undef=v:=by rw[bQ,e];rfl
  rw[aE (a:=v) (w':=w) (by simp only[sJ,e2];exact run_pure _ _ _),aE ih];rfl
 | @agg x b k t ty cs l lo rs vs h ho ht hl h2 ih=>
  rw[nW];have e:=hf _ _ h;have e2:a.tmps.getD x undef= .pointer (some ⟨b,0,none⟩):=by rw[bQ,e];rfl
  rw[aE (a:= .agg ⟨l⟩) (w':=w) (by simp only[sJ,e2,asAddr];rw[aE (run_pure _ _ _)];exact B3 (hh.hown _ ho.mem).1 hl),aE ih];rfl
 | @sc x b t ty cs v lo rs vs h ho ht hl h2 ih=>
  rw[nW];have e:=hf _ _ h;have e2:a.tmps.getD x undef= .pointer (some ⟨b,0,none⟩):=by rw[bQ,e];rfl
  rw[aE (a:=v) (w':=w) (by simp only[sJ,e2,asAddr];rw[aE (run_pure _ _ _)];exact BP (hh.hown _ ho.mem).1 hl),aE ih];rfl
def eE:List Value->Value
 |[v]=>v
 |vs=> .tuple ⟨vs⟩
def oP{fn:Func}{vs:List Value}{a:Act}{w:World}(hr:il P fr own fn.results.toList vs)(hf:iE fr a)(hh:bh C own G w):(results fn a.tmps).run P w= .ok (eE vs) w:=by
 have h0:=il.run (C:=C) (G:=G) hr hf hh;have h1:(fn.results.mapM (sJ a)).run P w= .ok (⟨vs⟩:Array Value) w:=by
  rw[<-Array.toArray_toList (xs:=fn.results),List.mapM_toArray,map_eq_pure_bind,aE h0];rfl
 have h2:results fn a.tmps=(do
   let vs<-fn.results.mapM (sJ a)
   pure (if h:vs.size=1 then vs[0] else .tuple vs)):=by
  unfold results;congr 1
 rw[h2,aE h1]
 match vs with
 |[]=>rfl
 |[v]=>rfl
 |_::_::_=>rfl
def gA(C:aA)(K:Value->Gh->Prop):Ending->World->Prop:=fun e w'=> ∃v G',e= .returned v/\bh C [] G' w'/\K v G'
def vw(C:aA)(M:List av)(K:Value->List (List Value)->Gh->Prop):Ending->World->Prop:=fun e w'=> ∃v css G',e= .returned v/\css.length=M.length/\bh C (iD (asB M) css) G' w'/\K v css G'
def en(C:aA)(P:Program)(fn:Func)(R:Ending->World->Prop):Exit->Act->World->Prop:=fun e a w=>C.mks=[]->bodyPost P fn R e a w
def zD{fn:Func}{K:Value->Gh->Prop}{vs:List Value}(hr:il P fr own fn.results.toList vs)(hk:K (eE vs) G):St C n fr own G (en C P fn (gA C K) .ret):=
 fun a w rl hmk=>⟨rl.df.trans hmk,_,oP hr rl.fr rl.h,_,G,J,rl.h.drop (mV _),hk⟩
def AJ{fn:Func}{K:Value->Gh->Prop}{vs:List Value}(hr:il P fr own fn.results.toList vs)(hk:K (eE vs) G):St C n fr own G (en C P fn (gA C K) .normal):=
 fun a w rl hmk=>⟨rl.df.trans hmk,_,oP hr rl.fr rl.h,_,G,J,rl.h.drop (mV _),hk⟩
def Ts{fn:Func}{M:List av}{css:List (List Value)}{K:Value->List (List Value)->Gh->Prop}{vs:List Value}(hr:il P fr own fn.results.toList vs)(hl:css.length=M.length)(own2:List av)(hp:own.Perm own2)(hs:(iD (asB M) css).Sublist own2)(hk:K (eE vs) css G):St C n fr own G (en C P fn (vw C M K) .ret):=
 fun a w rl hmk=>⟨rl.df.trans hmk,_,oP hr rl.fr rl.h,_,css,G,J,hl,(rl.h.perm hp).drop hs,hk⟩
def ld:Nat->List Value->Fr
 |_,[]=>[]
 |i,v::t=>(i,v)::ld (i+1) t
def qG: ∀(vs:List Value) (i k:Nat) (v:Value),fj (ld i vs) k=some v-> ∃j,k=i+j/\vs[j]? =some v
 |[],i,k,v,h=>by cases h
 |u::vs,i,k,v,h=>by
  rw[ld,pc] at h;split at h
  ·subst_vars;cases h;exact⟨0,J,J⟩
  ·obtain⟨j,rfl,hj⟩:=qG vs (i+1) k v h
   exact⟨j+1,by omega,by simpa using hj⟩
def Fn.introR{f:FuncId}{fn:Func}{c:Code}{vs:List Value}{m:Nat}{K:Value->Gh->Prop}(hf:P.funcs[f]? =some fn)(hb:fn.body=some c)(hn:(fn.name== "runtime.NumGoroutine")=false)(hm:fn.ntmps=m)(hlen:Nat.ble vs.length m=true)
  (h: ∀C:aA,C.G0=G->C.mb=[]->C.rd=none->(C.fx=fun _=>none)->St C m (ld 0 vs) [] G (c.wp P (en C P fn (gA C K)))):Fn P f vs G K:=by
 refine⟨⟨fn,hf,hn,by simp[hb]⟩,fun w hw=>?_⟩;have hlen':vs.length<=m:=by simpa using hlen
 have:=calls_of_wp (P:=P) (f:=f) (args:=⟨vs⟩) (w:=w) (R:=gA ⟨w,G,[],[],[],none,fun _=>none⟩ K) hf hb (wp_mono (h ⟨w,G,[],[],[],none,fun _=>none⟩ J J J J _ w
  ⟨⟨J,J,J,aS _,fun _ _ _=>J,hw,bg.refl _,fun _ _=>J,fun o ho=>(by cases ho), .nil,aS _,fun p hp=>by cases hp⟩,by simp;omega,fun k v hk=>by
   obtain⟨j,rfl,hj⟩:=qG vs 0 k v hk;have hj':=(aL.1 hj).1;rw[iZ (by simpa using hj')];simpa using hj,J⟩) fun _ _ _ k=>k J)
 exact this
def Fn.intro{f:FuncId}{fn:Func}{c:Code}{vs:List Value}{m:Nat}{K:Value->Gh->Prop}(hf:P.funcs[f]? =some fn)(hb:fn.body=some c)(hn:(fn.name== "runtime.NumGoroutine")=false)(hm:fn.ntmps=m)(hlen:Nat.ble vs.length m=true)
  (h: ∀C:aA,C.G0=G->C.mb=[]->St C m (ld 0 vs) [] G (c.wp P (en C P fn (gA C K)))):Fn P f vs G K:=
 Fn.introR hf hb hn hm hlen fun C a b _ _=>h C a b
def rg.introR{f:FuncId}{fn:Func}{c:Code}{vs:List Value}{m:Nat}{M:List av}{K:Value->List (List Value)->Gh->Prop}(hf:P.funcs[f]? =some fn)(hb:fn.body=some c)(hn:(fn.name== "runtime.NumGoroutine")=false)(hm:fn.ntmps=m)(hlen:Nat.ble vs.length m=true)
  (h: ∀C:aA,C.G0=G->C.mb=M.map (·.b)->C.rd=none->(C.fx=fun _=>none)->St C m (ld 0 vs) (asB M) G (c.wp P (en C P fn (vw C M K)))):rg P f vs M G K:=by
 refine⟨⟨fn,hf,hn,by simp[hb]⟩,fun w hw=>?_⟩;have hlen':vs.length<=m:=by simpa using hlen
 have:=calls_of_wp (P:=P) (f:=f) (args:=⟨vs⟩) (w:=w) (R:=vw ⟨w,G,M.map (·.b),[],[],none,fun _=>none⟩ M K) hf hb (wp_mono (h ⟨w,G,M.map (·.b),[],[],none,fun _=>none⟩ J J J J _ w
  ⟨hw,by simp;omega,fun k v hk=>by
   obtain⟨j,rfl,hj⟩:=qG vs 0 k v hk;have hj':=(aL.1 hj).1;rw[iZ (by simpa using hj')];simpa using hj,J⟩) fun _ _ _ k=>k J)
 exact this
def nC{Φ:Act->World->Prop}(b:Nat){cs:List Value}{ty:TypeId}(hr:jd own ⟨b,cs,ty,true⟩ own')(h: ∀G':Gh,[GE G G']->[uO G' b cs]->St C n fr own' G' Φ):St C n fr own G Φ:=
 fun a w rl=>by
  obtain⟨h1,h2⟩:=rl.h.freeze hr;exact @h _ ⟨h2⟩ ⟨by simp⟩ a w (rl.heap h1)
def Qm{Φ:Act->World->Prop}(own':List av)(hs:own'.Sublist own)(h:St C n fr own' G Φ):St C n fr own G Φ:=
 fun a w rl=>h a w (rl.heap (rl.h.drop hs))
def Hs(C:aA)(n:Nat){X:Type}(F:X->Fr)(O:X->List av)(I:X->Gh->Prop)(μ:X->Nat)(m:Nat)(G:Gh)(a:Act)(w:World):Prop:=
 ∃x G',bg G G'/\I x G'/\μ x<m/\eO C n (F x) (O x) G' a w
def je{Q:Exit->Act->World->Prop}{c:Code}{X:Type}(F:X->Fr)(O:X->List av)(I:X->Gh->Prop)(μ:X->Nat)(x0:X)(hI:I x0 G)(hF:ql (F x0) fr)(hO:O x0=own)
  (round: ∀(x:X) (G':Gh),[GE G G']->I x G'->St C n (F x) (O x) G' (c.wp P (Exit.then (Hs C n F O I μ (μ x) G') Q))):St C n fr own G ((Code.loop c).wp P Q):=by
 intro a w rl;subst hO;intro b k cs;have key: ∀m a w,(∃x G',bg G G'/\I x G'/\μ x=m/\eO C n (F x) (O x) G' a w)->
   ∃e a' w',Q e a' w'/\Arrives P (lone (b.at a (.code c:: .inLoop c::k)) cs w) b k cs e a' w':=by
  intro m
  induction m using Nat.strongRecOn with
  |_ m ih=>
   intro a w ⟨x,G',hle,hx,hm,hr⟩;obtain⟨e,a₁,w₁,hq,harr⟩:= @round x G' ⟨hle⟩ hx a w hr b (.inLoop c::k) cs
   cases e with
   |normal=>
    obtain⟨x',G'',hle',hx',hlt,hr'⟩:=hq;obtain⟨e₂,a₂,w₂,hq₂,harr₂⟩:=ih (μ x') (hm▸hlt) a₁ w₁ ⟨x',G'',hle.trans hle',hx',rfl,hr'⟩;exact⟨e₂,a₂,w₂,hq₂, .of_steps (Steps.trans harr (.one step_inLoop)) harr₂⟩
   |exit id=>exact⟨_,a₁,w₁,hq, .pass (x:= .inLoop c) J (fun _ _=> .inl (by simp)) harr⟩
   |goto l=>exact⟨_,a₁,w₁,hq, .pass (x:= .inLoop c) J (fun _ _=> .inl (by simp)) harr⟩
   |ret=>exact⟨_,a₁,w₁,hq, .pass (x:= .inLoop c) J (fun _ _=> .inl (by simp)) harr⟩
   |panic ch=>exact⟨_,a₁,w₁,hq, .pass (x:= .inLoop c) J (fun _ _=> .inl (by simp)) harr⟩
   |outgrown=>exact⟨_,a₁,w₁,hq, .pass (x:= .inLoop c) J (fun _ _=> .inl (by simp)) harr⟩
 obtain⟨e,a',w',q,r⟩:=key (μ x0) a w ⟨x0,G,bg.refl _,hI,rfl,rl.h,rl.sz,fun k v hk=>rl.fr _ _ (hF _ _ hk),rl.df⟩;exact⟨e,a',w',q, .of_steps (.one step_loop) r⟩
def At(C:aA)(n:Nat){X:Type}(F:X->Fr)(O:X->List av)(I:X->Gh->Prop)(G:Gh)(a:Act)(w:World):Prop:=
 ∃x G',bg G G'/\I x G'/\eO C n (F x) (O x) G' a w
def uL{Q:Exit->Act->World->Prop}{c d:Code}(X:Type)(F:X->Fr)(O:X->List av)(I:X->Gh->Prop)(h1:St C n fr own G (c.wp P (Exit.then (At C n F O I G) Q)))
  (h2: ∀(x:X) (G':Gh),[GE G G']->I x G'->St C n (F x) (O x) G' (d.wp P Q)):St C n fr own G ((Code.seq c d).wp P Q):=by
 intro a w rl;refine wp_seq (wp_mono (h1 a w rl) ?_);intro e a w h
 cases e with
 |normal=>obtain⟨x,G',hle,hI,hr⟩:=h;exact @h2 x G' ⟨hle⟩ hI a w hr
 |_=>exact h
def l6{X:Type}{F:X->Fr}{O:X->List av}{I:X->Gh->Prop}{G0:Gh}[hg:GL G0 G](x:X)(hI:I x G)(hF:ql (F x) fr)(hO:O x=own):St C n fr own G (At C n F O I G0):=
 fun a w rl=>⟨x,G,hg.le,hI,⟨hO▸rl.h,rl.sz,fun k v hk=>rl.fr _ _ (hF _ _ hk),rl.df⟩⟩
def f7{X:Type}{F:X->Fr}{O:X->List av}{I:X->Gh->Prop}{μ:X->Nat}{m:Nat}{G0:Gh}[hg:GL G0 G](x:X)(hI:I x G)(hμ:μ x<m)(hF:ql (F x) fr)(hO:O x=own):St C n fr own G (Hs C n F O I μ m G0):=
 fun a w rl=>⟨x,G,hg.le,hI,hμ,⟨hO▸rl.h,rl.sz,fun k v hk=>rl.fr _ _ (hF _ _ hk),rl.df⟩⟩
end
def iH(Q:Exit->Act->World->Prop):Exit->Act->World->Prop
 | .panic _,_,_=>False
 |e,a,w=>Q e a w
def iH.imp{Q:Exit->Act->World->Prop}: ∀(e:Exit) (a:Act) (w:World),iH Q e a w->Q e a w:=fun e a w h=>by
 cases e<;>first|exact h|exact(h:False).elim
section
variable {P:Program} {ops:Array Oper} {Q:Exit->Act->World->Prop} {S:World->Prop} {fin:Nat->Bool}
def p9(P:Program)(ops:Array Oper)(Q:Exit->Act->World->Prop)(S:World->Prop)(fin:Nat->Bool):Nat->Array Bool->Act->World->Prop
 |0,listed,a,w=>Region.ready .any ops listed=[]/\Q .normal a w
 |fuel+1,listed,a,w=>
  (Region.ready .any ops listed=[]->Q .normal a w)/\
  ∀i∈Region.ready .any ops listed,wpOp P ops Q i (fun a' w'=>(fin i=true\/S w')/\p9 P ops Q S fin fuel (listed.setIfInBounds i true) a' w') a w
def FQ: ∀(fuel:Nat) (listed:Array Bool) (a:Act) (w:World),p9 P ops Q S fin fuel listed a w->wpAny P .any ops Q fuel listed a w
 |0,_,_,_,h=>h
 |fuel+1,_,_,_,h=>⟨h.1,fun i hi=>wpOp_mono (fun a' w' h'=>FQ fuel _ a' w' h'.2) (h.2 i hi)⟩
def Cy(ops:Array Oper)(fin:Nat->Bool)(i:Nat):Bool:=
 !fin i&&(List.range ops.size).all fun j=>!fin j||((ops[j]?).map fun o=>o.after.any fun e=>Region.binds .any e&&e.on==i).getD true
def Lv{i:Nat}(h:Cy ops fin i=true):fin i=false/\ ∀j oj,ops[j]? =some oj->fin j=true-> ∃e∈oj.after,Region.binds .any e=true/\e.on=i:=by
 simp only[Cy,bZ,gM] at h;refine⟨h.1,fun j oj hoj hf=>?_⟩;have hj:j<ops.size:=(dX.1 hoj).1;have h1:=dT.1 h.2 j (by simpa using hj);rw[hf,hoj] at h1;simp only[Bool.not_true,iJ,gU,Bool.false_or] at h1;obtain⟨e,he,hb⟩:=Array.any_eq_true'.1 h1;simp only[bZ,beq_iff_eq] at hb;exact⟨e,he,hb.1,hb.2⟩
def Mj{i:Nat}{oi:Oper}{v:Value}(hi:ops[i]? =some oi)(hsel: ∀(j:Nat) (o:Oper) cs b,ops[j]? =some o->o.op≠ .select cs b)
  (hQ: ∀c a w,Q (.panic c) (a.put oi.dst v) w->Q (.panic c) a w)(hfi:fin i=false)
  (hfin: ∀j oj,ops[j]? =some oj->fin j=true-> ∃e∈oj.after,Region.binds .any e=true/\e.on=i):
  ∀(fuel:Nat) (listed:Array Bool) (a:Act) (w:World),
   (∀j oj,ops[j]? =some oj->j≠i->listed.getD j true=false->(∀e∈oj.after,Region.binds .any e=true->e.on≠i)->oi.apart ops oj=true)->
   i∈Region.ready .any ops listed->YieldsIf P ops S oi v a->S w->
   p9 P ops Q S fin fuel (listed.setIfInBounds i true) (a.put oi.dst v) w->p9 P ops Q S fin (fuel+1) listed a w:=by
 intro fuel
 induction fuel with
 |zero=>
  intro listed a w _ hr hy hS H;refine⟨fun h=>(by rw[h] at hr;cases hr),fun j hj=>?_⟩;by_cases hji:j=i
  ·subst hji;exact hy.wpOp hi hS ⟨.inr hS,H⟩
  ·have:=ready_mono hj hji
   rw[H.1] at this
   cases this
 |succ fuel ih=>
  intro listed a w hfree hr hy hS H;refine⟨fun h=>(by rw[h] at hr;cases hr),fun j hj=>?_⟩;by_cases hji:j=i
  ·subst hji;exact hy.wpOp hi hS ⟨.inr hS,H⟩
  ·have h1:=H.2 j (ready_mono hj hji)
   obtain⟨hjun,oj,hoj,hall⟩:=mem_ready.1 hj;have hnot: ∀e∈oj.after,Region.binds .any e=true->e.on≠i:=fun e he hb heq=>by
    have h1:=hall e he hb;have h0:=(mem_ready.1 hr).1;rw[heq] at h1;rcases fS i listed.size with h'|h'
    ·simp[h'] at h0 h1;rw[h0] at h1;cases h1
    ·simp[kR h'] at h1
   have hnf:fin j=false:=by
    cases hf:fin j with
    |false=>rfl
    |true=>obtain⟨e,he,hb,heq⟩:=hfin j oj hoj hf;exact absurd heq (hnot e he hb)
   have h2:=wpOp_putIf hoj (hfree j oj hoj hji hjun hnot) (fun cs b=>hsel i oi cs b hi) (fun cs b=>hsel j oj cs b hoj) hQ hy h1;have hfree': ∀k ok,ops[k]? =some ok->k≠i->(listed.setIfInBounds j true).getD k true=false->
     (∀e∈ok.after,Region.binds .any e=true->e.on≠i)->oi.apart ops ok=true:=fun k ok hk hki hun hno=>by
    refine hfree k ok hk hki ?_ hno;by_cases hjk:j=k
    ·subst hjk;exact hjun
    ·rw[getD_set_ne true hjk] at hun;exact hun
   refine wpOp_mono (fun a' w' h3=>?_) h2;have hS':S w':=h3.2.1.resolve_left (by rw[hnf];simp);refine⟨.inr hS',ih (listed.setIfInBounds j true) a' w' hfree' (ready_mono hr (Ne.symm hji)) h3.1 hS' ?_⟩;rw[Array.setIfInBounds_comm _ _ hji];exact h3.2.2
def Vo{i:Nat}{fuel:Nat}{listed:Array Bool}{a:Act}{w:World}(hr:Region.ready .any ops listed=[i])
  (h:wpOp P ops Q i (fun a' w'=>(fin i=true\/S w')/\p9 P ops Q S fin fuel (listed.setIfInBounds i true) a' w') a w):p9 P ops Q S fin (fuel+1) listed a w:=
 ⟨fun h0=>absurd (hr.symm.trans h0) (by simp),fun j hj=>by rw[hr,aN] at hj;subst hj;exact h⟩
def sX(ops:Array Oper)(fin:Nat->Bool)(listed:Array Bool)(i:Nat):Bool:=
 Region.noSelect ops&&Region.free .any ops listed i&&(Region.ready .any ops listed).contains i&&Cy ops fin i
end
class ki (l m:List av):Prop where s:l.Sublist m
instance ki.refl (l:List av):ki l l:=⟨List.Sublist.refl l⟩
instance ki.cons (l m:List av) (o:av) [h:ki l m]:ki l (o::m):=⟨h.s.cons o⟩
def HS(C:aA)(own:List av)(G:Gh):World->Prop:=fun w=> ∃G',bg G G'/\bh C own G' w
section
variable {P:Program} {C:aA} {n:Nat} {fr:Fr} {own own0:List av} {G G0:Gh} {ops:Array Oper} {Q:Exit->Act->World->Prop} {fin:Nat->Bool}
def Sw{id:Nat}(fin:Nat->Bool)(hm:P.follows .mixedOrders=true)
  (h:St C n fr own G (p9 P ops (iH Q) (HS C own G) fin ops.size (Array.replicate ops.size false))):St C n fr own G ((Code.region id ops true).wp P Q):=by
 intro a w rl;exact wp_mono (wp_region_any hm (FQ _ _ _ _ (h a _ (rl.heap rl.h.drew)))) iH.imp
def FB{b:Bool}{Φ:Act->World->Prop}[hs:ki own0 own][hl:GL G0 G](h:St C n fr own G Φ):St C n fr own G (fun a w=>(b=true\/HS C own0 G0 w)/\Φ a w):=
 fun a w rl=>⟨.inr ⟨G,hl.le,rl.h.drop hs.s⟩,h a w rl⟩
end
end Go.Sx
end
