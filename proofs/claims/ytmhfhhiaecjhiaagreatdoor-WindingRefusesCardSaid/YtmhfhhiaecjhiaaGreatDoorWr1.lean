import Derived.Calls
import Derived.Orders
import Derived.OrdersHeld
import Derived.Laws.World
import Derived.Below
import Derived.IntWalk
import Derived.KernelRfl
import Derived.Laws.Append
set_option linter.all false
section
namespace Go.Sx
def J{α:Sort _}{a:α}:a=a:=rfl
open Go
def aQ:=@List.getElem?_eq_getElem
def aZ:=@List.length_map
def aX:=@List.mem_cons_self
def aJ:=@List.getD_eq_getElem?_getD
def aK:=@List.mem_cons_of_mem
def aV:=@List.length_replicate
def aW:=@List.mem_of_getElem?
def aY:=@List.length_set
def aU:=@Nat.eq_of_beq_eq_true
def aT:=@List.getElem?_eq_some_iff
def aR:=@List.mem_cons
def aS:=@List.length_take
def aL:=@List.mem_singleton
def aM:=@Nat.le_refl
def aN:=@List.length_append
def bQ:=@Bool.and_eq_true
def bZ:=@List.pairwise_cons
def bX:=@Array.getD_eq_getD_getElem?
def bJ:=@Nat.zero_le
def bK:=@Nat.mul_le_mul_right
def bV:=@List.mem_map
def bW:=@Nat.mul_comm
def bY:=@Nat.pow_le_pow_right
def bU:=@Nat.mul_assoc
def bT:=@List.take_length
def bR:=@List.length_cons
def bS:=@Nat.lt_of_lt_of_le
def bL:=@List.map_cons
def bM:=@List.drop_eq_getElem_cons
def cZ:=@List.getElem?_append_left
def cX:=@List.take_add_one
def cJ:=@Nat.mod_lt
def cK:=@List.map_append
def cV:=@List.eq_nil_of_length_eq_zero
def cW:=@List.take_of_length_le
def cY:=@Nat.mul_add
def cR:=@Array.getElem?_setIfInBounds
def cS:=@Nat.add_mul
def cL:=@Array.getElem?_eq_some_iff
def cM:=@List.mem_append
def cN:=@Nat.eq_zero_or_pos
def dQ:=@Int.natAbs_natCast
def dZ:=@List.mem_append_left
def dX:=@List.mem_of_mem_take
def dJ:=@List.all_eq_true
def dK:=@Int.sign_eq_neg_one_of_neg
def dV:=@Int.natAbs_mul
def dW:=@Nat.zero_add
def dY:=@List.getElem?_eq_none
def dT:=@Rat.intCast_mul
def dR:=@Nat.lt_or_ge
def dS:=@List.getElem?_append_right
def dL:=@List.append_assoc
def dM:=@Nat.pos_of_ne_zero
def eX:=@Nat.mul_le_mul_left
def eJ:=@Array.getElem?_eq_getElem
def eK:=@Nat.add_zero
def eY:=@Int.sign_eq_one_of_pos
def fQ:=@List.take_append_of_le_length
def fZ:=@List.drop_zero
def fX:=@Nat.mul_pos
def fJ:=@Nat.le_trans
def fK:=@List.getElem?_map
def fV:=@Nat.lt_of_le_of_lt
def fW:=@Nat.pow_add
def fY:=@Nat.pow_pos
def fU:=@Int.toNat_natCast
def fT:=@Array.length_toList
def fR:=@List.mem_append_right
def fS:=@Nat.gcd_comm
def fL:=@Int.natCast_mul
def fM:=@Nat.min_eq_left
def fN:=@Array.getElem?_append_left
def gQ:=@Nat.mod_eq_of_lt
def gX:=@Int.sign_eq_zero_iff_zero
def gJ:=@Nat.pow_succ
def gK:=@Bool.or_eq_true
def gV:=@Int.natAbs_neg
def gW:=@Nat.div_lt_iff_lt_mul
def gU:=@Bool.not_eq_true'
def gT:=@List.take_succ_eq_append_getElem
def gR:=@Nat.succ_mul
def gS:=@List.getElem?_drop
def gL:=@Option.map_some
def gM:=@List.foldl_cons
def gN:=@Option.getD_some
def iQ:=@List.map_nil
def iZ:=@List.drop_of_length_le
def iX:=@List.drop_length
def iJ:=@Nat.gcd_dvd_left
def iK:=@List.drop_append_of_le_length
def iV:=@Nat.zero_mul
def iW:=@Rat.num_eq_zero
def iY:=@Nat.add_sub_cancel
def iU:=@Int.natAbs_eq_zero
def iT:=@List.map_toArray
def iR:=@List.pairwise_append
def iS:=@List.cons_append
def iL:=@List.getElem_mem
def iM:=@Nat.div_eq_of_lt
def iN:=@Nat.gcd_pos_of_pos_left
def jQ:=@Int.fdiv_eq_ediv_of_nonneg
def jZ:=@Int.ofNat_natAbs_of_nonpos
def jX:=@Nat.gcd_dvd_right
def jJ:=@Nat.eq_zero_of_gcd_eq_zero_right
def jK:=@List.replicate_succ
def jV:=@List.nil_append
def jW:=@Nat.eq_zero_of_gcd_eq_zero_left
def jY:=@List.length_drop
def jU:=@List.not_mem_nil
def jT:=@Nat.add_assoc
def jR:=@List.eq_of_mem_replicate
def jS:=@Nat.add_comm
def jL:=@List.map_take
def jM:=@Nat.gcd_pos_of_pos_right
def jN:=@List.ext_getElem?
def kQ:=@List.flatten_cons
def kZ:=@Nat.mul_left_comm
def kX:=@List.length_range
def kJ:=@List.length_nil
def kK:=@Nat.div_le_self
def kV:=@Array.getElem?_eq_none
def kW:=@Nat.mul_lt_mul_of_pos_right
def kY:=@Option.map_eq_some_iff
def kU:=@Rat.intCast_lt_intCast
def kR:=@Nat.mul_one
def kS:=@Rat.neg_num
def kL:=@List.nil_sublist
def kM:=@Rat.mkRat_eq_div
def kN:=@Bool.false_eq_true
def lQ:=@Nat.mul_right_comm
def lZ:=@Nat.mul_lt_mul_of_lt_of_le
def lX:=@Nat.gcd_zero_right
def lJ:=@List.take_append_drop
def lK:=@List.getLast?_eq_getElem?
def lV:=@Int.natAbs_ediv_le_natAbs
def lW:=@List.append_nil
def lY:=@List.size_toArray
def lU:=@Int.natAbs_of_nonneg
def lT:=@List.map_set
def lR:=@List.length_dropLast
def lS:=@Nat.blt_eq
def lL:=@Nat.pow_lt_pow_iff_right
def lM:=@List.take_succ_cons
def lN:=@List.drop_set_of_lt
def mQ:=@List.mem_map_of_mem
def mZ:=@Array.toList_map
def mX:=@Rat.mul_nonneg
def mJ:=@Rat.intCast_eq_zero_iff
def mK:=@List.mem_flatMap
def mV:=@Nat.one_mul
def mW:=@Nat.le_of_lt
def mY:=@List.getElem_cons_zero
def mT:=@List.map_map
def mS:=@Rat.num_intCast
def mL:=@Rat.den_intCast
def mM:=@Rat.intCast_inj
def mN:=@Array.getElem?_toList
def nQ:=@Int.lt_trichotomy
def nZ:=@List.mapM_cons
def nX:=@Int.tmod_eq_emod_of_nonneg
def nJ:=@List.drop_drop
def nK:=@Rat.mkRat_self
def nV:=@Rat.neg_den
def nY:=@Nat.mul_le_mul
def nU:=@Nat.add_mul_div_left
def nT:=@List.any_eq_true
def nR:=@List.filter_cons
def nS:=@Int.le_of_lt
def nL:=@Nat.le_add_right
def nM:=@Nat.add_mul_mod_self_left
def nN:=@List.take_replicate
def oQ:=@List.takeWhile_cons
def oZ:=@Array.getElem?_replicate
def oX:=@List.sublist_append_left
def oJ:=@Nat.dvd_trans
def oK:=@Option.map_none
def oV:=@Nat.div_add_mod
def oW:=@Int.mul_eq_zero
def oY:=@List.getElem?_take
def oU:=@List.append_of_mem
def oT:=@Int.tmod_lt_of_pos
def oR:=@Nat.le_mul_of_pos_right
def oS:=@Int.natCast_dvd_natCast
def oL:=@Nat.mul_div_cancel_left
def oM:=@List.drop_eq_nil_of_le
def oN:=@List.pairwise_map
def pQ:=@List.mem_range
def pZ:=@List.getElem?_set_self
def pX:=@Nat.div_div_eq_div_mul
def pJ:=@List.flatMap_cons
def pK:=@List.eq_nil_or_concat
def pV:=@List.concat_eq_append
def pW:=@Nat.le_div_iff_mul_le
def pY:=@List.length_singleton
def pU:=@List.perm_middle
def pT:=@Int.natCast_ediv
def pR:=@Nat.mul_lt_mul''
def pS:=@Nat.le_of_not_lt
def pL:=@Bool.and_true
def pM:=@List.map_drop
def pN:=@List.mem_of_mem_drop
def qQ:=@Nat.pow_mul
def qZ:=@Bool.or_eq_false_iff
def qX:=@Nat.div_one
def qJ:=@List.mem_iff_getElem
def qK:=@Nat.not_lt_zero
def qV:=@Rat.intCast_add
def qW:=@Rat.intCast_neg
def qY:=@Rat.intCast_sub
def qU:=@List.getElem?_range
def qT:=@Int.toNat_of_nonneg
def qR:=@List.take_set_of_le
def qS:=@List.drop_succ_cons
def qL:=@List.length_pos_iff
def qM:=@List.map_congr_left
def qN:=@Nat.mul_zero
def rQ:=@Int.mul_comm
def rZ:=@Nat.sub_self
def rX:=@Nat.lt_trans
def rJ:=@Nat.pow_zero
def rK:=@Nat.gcd_rec
abbrev Gh:=Nat->Option (List Value)
def ba(G G':Gh):Prop:= ∀b cs,G b=some cs->G' b=some cs
def ba.refl(G:Gh):ba G G:=fun _ _ h=>h
def ba.trans{a b c:Gh}(h:ba a b)(k:ba b c):ba a c:=fun _ _ x=>k _ _ (h _ _ x)
structure av where
 b:Nat
 cs:List Value
 ty:TypeId
 lo:Bool
structure az where
 w0:World
 G0:Gh
 mb:List Nat
 /-- other objects that stay: records of loops, marks -/
 ex:List (Nat×Obj)
 /-- the marks among the deferred calls; the round -/
 mks:List Deferred
 rd:Option Nat
 /-- where names that are fixed lie -/
 fx:Nat->Option Addr
structure bj (C:az) (own:List av) (G:Gh) (w:World):Prop where
 os:w.os=C.w0.os
 tape:w.tape=C.w0.tape
 output:w.output=C.w0.output
 size:C.w0.heap.size<=w.heap.size
 keep: ∀b,b<C.w0.heap.size->b∉C.mb->w.heap[b]? =C.w0.heap[b]?
 sub: ∀b cs,G b=some cs-> ∃ty fz,w.heap[b]? =some (.cells ⟨cs⟩ ty fz)
 gle:ba C.G0 G
 gold: ∀b,b<C.w0.heap.size->G b=C.G0 b
 hown: ∀o∈own,w.heap[o.b]? =some (.cells ⟨o.cs⟩ o.ty (0,0))/\G o.b=none/\(o.lo=true->C.w0.heap.size<=o.b)/\(o.lo=false->o.b∈C.mb)
 nd:own.Pairwise (fun x y=>x.b≠y.b)
 dr:C.w0.drawn<=w.drawn
 ext: ∀p∈C.ex,(∀cs ty z,p.2≠ .cells cs ty z)/\w.heap[p.1]? =some p.2
abbrev Fr:=List (Nat×Value)
def iF:Fr->Nat->Option Value
 |[],_=>none
 |(k,v)::t,j=>bif Nat.beq k j then some v else iF t j
def put(fr:Fr)(dst:Option Nat)(v:Value):Fr:=match dst with|some d=>(d,v)::fr|none=>fr
def gI(fr:Fr)(a:Act):Prop:= ∀k v,iF fr k=some v->a.tmps[k]? =some v
structure eB (C:az) (n:Nat) (fr:Fr) (own:List av) (G:Gh) (a:Act) (w:World):Prop where
 h:bj C own G w
 sz:a.tmps.size=n
 fr:gI fr a
 df:a.defers=C.mks
def St(C:az)(n:Nat)(fr:Fr)(own:List av)(G:Gh)(Φ:Act->World->Prop):Prop:=
 ∀a w,eB C n fr own G a w->Φ a w
def aC(fr:Fr):Operand->Option Value
 | .tmp k=>iF fr k
 | .const v=>some v
 | .global g=>some (.pointer (some ⟨g,0,none⟩))
 | .func f=>some (.func (.func f) #[] #[])
def bh{fr:Fr}{a:Act}(h:gI fr a){x:Operand}{v:Value}(hx:aC fr x=some v):a.eval x=v:=by
 cases x with
 |tmp k=>
  have:=h k v hx;simp only[Act.eval,bX,this,gN]
 |const u=>simpa[aC,Act.eval] using hx
 |global g=>simpa[aC,Act.eval] using hx
 |func f=>simpa[aC,Act.eval] using hx
def tE(k:Nat)(v:Value)(t:Fr)(j:Nat):iF ((k,v)::t) j=if k=j then some v else iF t j:=by
 simp only[iF];by_cases h:k=j
 .simp[h]
 .have:Nat.beq k j=false:=by
   cases hb:Nat.beq k j with
   |false=>rfl
   |true=>exact absurd (aU hb) h
  simp[this,h]
def cC(n:Nat):Option Nat->Bool
 |some d=>Nat.blt d n
 |none=>true
def gI.put{fr:Fr}{a:Act}{n:Nat}(h:gI fr a)(hs:a.tmps.size=n){dst:Option Nat}{v:Value}(hd:cC n dst=true):gI (Sx.put fr dst v) (a.put dst v):=by
 cases dst with
 |none=>exact h
 |some d=>
  intro k u hk;have hdn:d<n:=by simpa[cC,lS] using hd
  simp only[Sx.put,tE] at hk;simp only[Act.put,cR];by_cases hkd:d=k
  .simp only[hkd,if_true] at hk
   subst hkd;simp[hs,hdn,hk]
  .simp only[hkd,if_false] at hk
   simp only[hkd,if_false];exact h k u hk
def Ki(a:Act)(dst:Option Nat)(v:Value):(a.put dst v).tmps.size=a.tmps.size:=by cases dst<;>simp[Act.put]
def Em(a:Act)(dst:Option Nat)(v:Value):(a.put dst v).defers=a.defers:=by cases dst<;>simp[Act.put]
def eB.put{C n fr own G a w}(r:eB C n fr own G a w){dst:Option Nat}(v:Value)(hd:cC n dst=true):eB C n (Sx.put fr dst v) own G (a.put dst v) w:=
 ⟨r.h,by rw[Ki];exact r.sz,r.fr.put r.sz hd,by rw[Em];exact r.df⟩
def eB.heap{C n fr own G own' G' a w w'}(r:eB C n fr own G a w)(h:bj C own' G' w'):eB C n fr own' G' a w':=⟨h,r.sz,r.fr,r.df⟩
def d9(P:Program)(ops:Array Oper)(Q:Exit->Act->World->Prop):List Oper->Act->World->Prop
 |[],a,w=>Q .normal a w
 |o::r,a,w=>if Region.wanted o (yielded ops a.tmps) then o.wp P a w (d9 P ops Q r) Q else d9 P ops Q r (a.put o.dst undef) w
def OD{P:Program}{ops:Array Oper}{Q:Exit->Act->World->Prop}: ∀(l:List Nat) (k:Nat) (a:Act) (w:World),l=(List.range ops.size).drop k->d9 P ops Q (ops.toList.drop k) a w->wpOps P ops Q l a w:=by
 intro l
 induction l with
 |nil=>
  intro k a w hl h;have hk:ops.size<=k:=by
   have:=congrArg List.length hl;simp at this;omega
  rw[oM (by simpa using hk)] at h;exact h
 |cons i t ih=>
  intro k a w hl h;have hk:k<ops.size:=by
   have:=congrArg List.length hl;simp at this;omega
  rw[bM (by simpa using hk)] at hl;obtain⟨hi,ht⟩:=List.cons.inj hl;simp only[List.getElem_range] at hi;subst hi;rw[bM (by simpa using hk)] at h;have ho:ops[i]? =some ops[i]:=eJ hk;simp only[wpOps,ho];simp only[d9,Array.getElem_toList] at h;split
  .rename_i hw
   simp only[hw,if_true] at h;exact .inl (Oper.wp_mono (fun a w h=>ih (i+1) a w ht h) h)
  .rename_i hw
   simp only[hw] at h;exact ih (i+1) _ w ht h
def Sd{P:Program}{id:Nat}{ops:Array Oper}{Q:Exit->Act->World->Prop}{a:Act}{w:World}
  (h:d9 P ops Q ops.toList a w):(Code.region id ops false).wp P Q a w:=
 wp_region (OD _ 0 a w (by simp) (by simpa using h))
def Yd(P:Program)(C:az)(fr:Fr)(own:List av)(G:Gh)(o:Oper)(v:Value):Prop:=
 ∀a w,gI fr a->bj C own G w->(execOp a.eval o).run P w= .ok (.value v) w
section
variable {P:Program} {C:az} {n:Nat} {fr:Fr} {own:List av} {G:Gh} {ops:Array Oper} {Q:Exit->Act->World->Prop} {r:List Oper}
def uN{o:Oper}{v:Value}(hy:Yd P C fr own G o v)(hg:o.guard=none)(hd:cC n o.dst=true)
  (h:St C n (put fr o.dst v) own G (d9 P ops Q r)):St C n fr own G (d9 P ops Q (o::r)):=by
 intro a w rl;simp only[d9,Region.wanted,hg,if_true,Oper.wp,hy a w rl.fr rl.h,Oper.upon];exact h _ _ (rl.put v hd)
def zE(h:St C n fr own G (Q .normal)):St C n fr own G (d9 P ops Q []):=h
def W3{id:Nat}(h:St C n fr own G (d9 P ops Q ops.toList)):St C n fr own G ((Code.region id ops false).wp P Q):=
 fun a w rl=>Sd (h a w rl)
def HN{x y:Code}(h:St C n fr own G (x.wp P (Exit.then (y.wp P Q) Q))):St C n fr own G ((Code.seq x y).wp P Q):=
 fun a w rl=>wp_seq (h a w rl)
def zK(h:St C n fr own G (Q .normal)):St C n fr own G (Code.skip.wp P Q):=fun a w rl=>wp_skip (h a w rl)
def KO(h:St C n fr own G (Q .ret)):St C n fr own G (Code.ret.wp P Q):=fun a w rl=>wp_ret (h a w rl)
def Rb{b:Bool}{c:Operand}{x y:Code}(hc:aC fr c=some (.bool b))(h1:b=true->St C n fr own G (x.wp P Q))(h2:b=false->St C n fr own G (y.wp P Q)):
  St C n fr own G ((Code.cond c x y).wp P Q):=
 fun a w rl=>wp_cond_split (bh rl.fr hc) (fun h=>h1 h a w rl) (fun h=>h2 h a w rl)
def YZ(fr' fr:Fr):Prop:= ∀k v,iF fr' k=some v->iF fr k=some v
end
class ie (own:List av) (b:Nat) (cs:outParam (List Value)) (ty:outParam TypeId) (lo:outParam Bool):Prop where
 mem:⟨b,cs,ty,lo⟩∈own
instance ie.i1 (b:Nat) (cs:List Value) (ty:TypeId) (lo:Bool) (t:List av):ie (⟨b,cs,ty,lo⟩::t) b cs ty lo:=⟨aX⟩
instance ie.i2 (o:av) (t:List av) (b:Nat) (cs:List Value) (ty:TypeId) (lo:Bool) [h:ie t b cs ty lo]:ie (o::t) b cs ty lo:=⟨aK _ h.mem⟩
inductive f5:List av->Nat->List Value->TypeId->Bool->List Value->List av->Prop
 |hd (b:Nat) (cs cs':List Value) (ty:TypeId) (lo:Bool) (t:List av):f5 (⟨b,cs,ty,lo⟩::t) b cs ty lo cs' (⟨b,cs',ty,lo⟩::t)
 |tl (o:av) (t t':List av) (b:Nat) (cs cs':List Value) (ty:TypeId) (lo:Bool) (h:f5 t b cs ty lo cs' t'):f5 (o::t) b cs ty lo cs' (o::t')
inductive ik:List av->av->List av->Prop
 |hd (o:av) (t:List av):ik (o::t) o t
 |tl (x:av) (t t':List av) (o:av) (h:ik t o t'):ik (x::t) o (x::t')
class GE (A:outParam Gh) (B:Gh):Prop where le:ba A B
class GL (A B:Gh):Prop where le:ba A B
instance GL.refl (A:Gh):GL A A:=⟨ba.refl A⟩
instance GL.step (A B C:Gh) [h:GE B C] [k:GL A B]:GL A C:=⟨k.le.trans h.le⟩
class BD (G:outParam Gh) (b:Nat) (cs:outParam (List Value)):Prop where h:G b=some cs
def cc:List Value->Nat->Nat->Option (List Value)
 |_,0,0=>some []
 |[],0,_+1=>none
 |v::t,0,k+1=>match cc t 0 k with|some l=>some (v::l)|none=>none
 |[],_+1,_=>none
 |_::t,off+1,k=>cc t off k
def c9:List Value->Nat->List Value->List Value
 |cs,_,[]=>cs
 |cs,off,v::vs=>c9 (cs.set off v) (off+1) vs
def ma: ∀(cs:List Value) (off k:Nat) (l:List Value),cc cs off k=some l->l.length=k/\ ∀i,i<k->cs[off+i]? =l[i]?
 |cs,0,0,l,h=>by
  cases cs<;>(simp only[cc] at h;cases h;exact⟨J,fun i hi=>absurd hi (qK _)⟩)
 |[],0,_+1,l,h=>by simp[cc] at h
 |v::t,0,k+1,l,h=>by
  simp only[cc] at h;split at h
  .rename_i l' hl'
   cases h
   obtain⟨h1,h2⟩:=ma t 0 k l' hl';refine⟨by simp[h1],fun i hi=>?_⟩
   cases i with
   |zero=>rfl
   |succ i=>
    have:=h2 i (by omega);simpa using this
  .cases h
 |[],_+1,_,l,h=>by simp[cc] at h
 |_::t,off+1,k,l,h=>by
  simp only[cc] at h;obtain⟨h1,h2⟩:=ma t off k l h;refine⟨h1,fun i hi=>?_⟩;have:=h2 i hi;rw[<-this,show off+1+i=(off+i)+1 by omega];rfl
class mf (P:Program) (t:TypeId) (k:outParam Nat):Prop where
 agg: ∀w,(isAgg t).run P w= .ok true w
 siz: ∀w,(sizeOf t).run P w= .ok k w
class mi (P:Program) (t:TypeId):Prop where
 agg: ∀w,(isAgg t).run P w= .ok false w
 siz: ∀w,(sizeOf t).run P w= .ok 1 w
class gg (P:Program) (t:TypeId) (z:outParam Value):Prop where
 inf:(P.info? t).map (·.zero)=some (some z)
class El (P:Program) (t:TypeId) (f:Nat) (off:outParam Nat):Prop where
 at_: ∀(b o:Nat) w,(Instr.fieldAt t (.pointer (some ⟨b,o,none⟩)) f).run P w= .ok (.pointer (some (Addr.add ⟨b,o,none⟩ off))) w
class c8 (P:Program) (t:TypeId) (e s by_:outParam Nat):Prop where
 un:P.underlying t=some (.slice e)
 inf:(P.info? e).map (fun i=>(i.size,i.bytes))=some (s,by_)
def gg.info{P:Program}{t:TypeId}{z:Value}(h:gg P t z): ∃i,P.info? t=some i/\i.zero=some z:=by
 have:=h.inf
 cases hi:P.info? t with
 |none=>rw[hi] at this;cases this
 |some i=>rw[hi] at this;exact⟨i,J,by simpa using this⟩
def c8.info{P:Program}{t e s by_:Nat}(h:c8 P t e s by_): ∃i,P.info? e=some i/\i.size=s/\i.bytes=by_:=by
 have:=h.inf
 cases hi:P.info? e with
 |none=>rw[hi] at this;cases this
 |some i=>rw[hi] at this;simp at this;exact⟨i,J,this.1,this.2⟩
def oE(b o n:Nat):Addr.add ⟨b,o,none⟩ n=⟨b,o+n,none⟩:=by
 unfold Addr.add;split
 .subst_vars;rfl
 .rfl
def Sem.run_bind{α β:Type}(P:Program)(x:Sem α)(f:α->Sem β): ∀(w:World),(x>>=f).run P w=match x.run P w with| .ok a w'=>(f a).run P w'| .halt h w'=> .halt h w':=by
 show∀w,(Sem.bind x f).run P w=_
 induction x with
 |pure a=>intro w;rfl
 |load m a k ih=>
  intro w;simp only[Sem.bind,Sem.run];split
  .exact ih _ w
  .split
   .exact ih _ w
   .rfl
 |store m a v k ih=>
  intro w
  cases v<;>simp only[Sem.bind,Sem.run]<;>(try rfl)<;>(split<;>first|(split<;>first|rfl|exact ih _)|rfl)
 |new o k ih=>intro w;exact ih _ _
 |shape r k ih=>intro w;exact ih _ _
 |freeze a n k ih=>intro w;exact ih _
 |frozen a k ih=>intro w;exact ih _ _
 |getObj r k ih=>
  intro w;simp only[Sem.bind,Sem.run];split
  .rfl
  .exact ih _ w
  .rfl
 |setObj r o k ih=>
  intro w;simp only[Sem.bind,Sem.run];split
  .rfl
  .exact ih _
  .rfl
 |choose q k ih=>
  intro w;simp only[Sem.bind,Sem.run];split
  .exact ih _ _
  .exact ih _ _
 |sys c k ih=>intro w;exact ih _ _
 |program k ih=>intro w;exact ih _ _
 |mark m k ih=>intro w;exact ih _
 |halt h=>intro w;rfl
def run_pure{α:Type}(P:Program)(a:α)(w:World):(pure a:Sem α).run P w= .ok a w:=rfl
def aG{α β:Type}{P:Program}{x:Sem α}{f:α->Sem β}{w w':World}{a:α}(h:x.run P w= .ok a w'):(x>>=f).run P w=(f a).run P w':=by
 rw[Sem.run_bind,h]
def gg.zero{P:Program}{t:TypeId}{z:Value}(h:gg P t z)(w:World):(zeroValue t).run P w= .ok z w:=by
 obtain⟨i,h1,h2⟩:=h.info;simp[zeroValue,typeInfo,program,Sem.run_bind,Sem.run,h1,h2,run_pure]
def c8.u{P:Program}{t e s by_:Nat}(h:c8 P t e s by_)(w:World):(underlying t).run P w= .ok (.slice e) w:=by
 simp[underlying,program,Sem.run_bind,Sem.run,h.un,run_pure]
def c8.siz{P:Program}{t e s by_:Nat}(h:c8 P t e s by_)(w:World):(sizeOf e).run P w= .ok s w:=by
 obtain⟨i,h1,h2,_⟩:=h.info;simp[sizeOf,typeInfo,program,Sem.run_bind,Sem.run,h1,h2,run_pure]
section
variable {P:Program} {C:az} {n:Nat} {fr:Fr} {own:List av} {G:Gh} {ops:Array Oper} {Q:Exit->Act->World->Prop} {r:List Oper}
def uw{w:World}{b:Nat}{cs:List Value}{ty:TypeId}{fz:Nat×Nat}(h:w.heap[b]? =some (.cells ⟨cs⟩ ty fz))(i:Nat):w.cell? ⟨b,i,none⟩=cs[i]? :=by
 simp[World.cell?,h]
def ES{w:World}{a:Addr}{v:Value}(h:w.cell? a=some v):(load a).run P w= .ok v w:=by
 simp[load,Sem.run,h]
def BE{w:World}{b off:Nat}{l:List Value}: ∀(m i:Nat) (acc:Array Value),(∀j,j<m->w.cell? ⟨b,off+(i+j),none⟩=l[i+j]?)->i+m<=l.length->
  (loadCellsFrom ⟨b,off,none⟩ i m acc).run P w= .ok (acc++((l.drop i).take m).toArray) w
 |0,i,acc,_,_=>by simp[loadCellsFrom,run_pure]
 |m+1,i,acc,h,hl=>by
  have h0:=h 0 (by omega);rw[eK,aQ (by omega)] at h0;unfold loadCellsFrom;rw[aG (a:=l[i]) (w':=w) (by rw[oE];exact ES h0)];rw[BE m (i+1) (acc.push l[i]) (fun j hj=>by have:=h (j+1) (by omega);rw[show i+1+j=i+(j+1) by omega];exact this) (by omega)];congr 1;rw[bM (by omega:i<l.length),lM];apply Array.ext';simp
def zH{w:World}{b off k:Nat}{t:TypeId}{cs l:List Value}[ht:mf P t k]{ty:TypeId}{fz:Nat×Nat}(h:w.heap[b]? =some (.cells ⟨cs⟩ ty fz))(hl:cc cs off k=some l):
  (loadVar t ⟨b,off,none⟩).run P w= .ok (.agg ⟨l⟩) w:=by
 obtain⟨h1,h2⟩:=ma _ _ _ _ hl;unfold loadVar;rw[aG (ht.agg w)];simp only[if_true];rw[aG (ht.siz w)];unfold loadCells;rw[aG (BE (l:=l) k 0 #[] (fun j hj=>by rw[uw h];simpa using h2 j hj) (by omega))];simp[run_pure,<-h1]
def CY{w:World}{b off:Nat}{t:TypeId}{cs:List Value}{v:Value}[ht:mi P t]{ty:TypeId}{fz:Nat×Nat}(h:w.heap[b]? =some (.cells ⟨cs⟩ ty fz))(hl:cs[off]? =some v):
  (loadVar t ⟨b,off,none⟩).run P w= .ok v w:=by
 unfold loadVar;rw[aG (ht.agg w)];simp only[kN,if_false];exact ES (by rw[uw h];exact hl)
def cp{α:Type}{f:α->Next}{s:Sem α}{w w':World}{a:α}(h:s.run P w= .ok a w'):(do pure (f (<-s)):Sem Next).run P w= .ok (f a) w':=by
 rw[aG h];rfl
def A6{dst:Option Nat}{t ty':TypeId}{pos:String}{af:Array Edge}{gd:Option (Nat×Bool)}{x:Operand}{b off k:Nat}{cs l:List Value}{lo:Bool}{ty:TypeId}
  (hx:aC fr x=some (.pointer (some ⟨b,off,none⟩)))[ho:ie own b cs ty lo][mf P t k](hl:cc cs off k=some l):
  Yd P C fr own G ⟨dst, .load t x,ty',pos,af,gd⟩ (.agg ⟨l⟩):=by
 intro a w hf hh;simp only[execOp,bh hf hx,Instr.loadAt,Instr.sureAddr];exact cp (zH (hh.hown _ ho.mem).1 hl)
def Ku{dst:Option Nat}{t ty':TypeId}{pos:String}{af:Array Edge}{gd:Option (Nat×Bool)}{x:Operand}{b off:Nat}{cs:List Value}{v:Value}{lo:Bool}{ty:TypeId}
  (hx:aC fr x=some (.pointer (some ⟨b,off,none⟩)))[ho:ie own b cs ty lo][mi P t](hl:cs[off]? =some v):
  Yd P C fr own G ⟨dst, .load t x,ty',pos,af,gd⟩ v:=by
 intro a w hf hh;simp only[execOp,bh hf hx,Instr.loadAt,Instr.sureAddr];exact cp (CY (hh.hown _ ho.mem).1 hl)
def Oa{dst:Option Nat}{t ty':TypeId}{pos:String}{af:Array Edge}{gd:Option (Nat×Bool)}{x:Operand}{b off k:Nat}{cs l:List Value}
  (hx:aC fr x=some (.pointer (some ⟨b,off,none⟩)))(hg:G b=some cs)[mf P t k](hl:cc cs off k=some l):
  Yd P C fr own G ⟨dst, .load t x,ty',pos,af,gd⟩ (.agg ⟨l⟩):=by
 intro a w hf hh;obtain⟨ty,fz,hb⟩:=hh.sub _ _ hg;simp only[execOp,bh hf hx,Instr.loadAt,Instr.sureAddr];exact cp (zH hb hl)
def CI{dst:Option Nat}{t ty':TypeId}{pos:String}{af:Array Edge}{gd:Option (Nat×Bool)}{x:Operand}{b off:Nat}{cs:List Value}{v:Value}
  (hx:aC fr x=some (.pointer (some ⟨b,off,none⟩)))(hg:G b=some cs)[mi P t](hl:cs[off]? =some v):
  Yd P C fr own G ⟨dst, .load t x,ty',pos,af,gd⟩ v:=by
 intro a w hf hh;obtain⟨ty,fz,hb⟩:=hh.sub _ _ hg;simp only[execOp,bh hf hx,Instr.loadAt,Instr.sureAddr];exact cp (CY hb hl)
variable {dst:Option Nat} {t t' ty':TypeId} {pos:String} {af:Array Edge} {gd:Option (Nat×Bool)} {x y:Operand}
def K5{v:Value}(hx:aC fr x=some v):Yd P C fr own G ⟨dst, .move x,ty',pos,af,gd⟩ v:=by
 intro a w hf hh;simp only[execOp,bh hf hx];rfl
def Lg{v:Value}(hx:aC fr x=some v):Yd P C fr own G ⟨dst, .assign x,ty',pos,af,gd⟩ v:=by
 intro a w hf hh;simp only[execOp,bh hf hx];rfl
def Wc{z:Operand}{v:Value}(hc:aC fr z=some (.bool true))(hx:aC fr x=some v):Yd P C fr own G ⟨dst, .pick z x y,ty',pos,af,gd⟩ v:=by
 intro a w hf hh;simp only[execOp,bh hf hc,bh hf hx,asBool];rfl
def M4{z:Operand}{v:Value}(hc:aC fr z=some (.bool false))(hx:aC fr y=some v):Yd P C fr own G ⟨dst, .pick z x y,ty',pos,af,gd⟩ v:=by
 intro a w hf hh;simp only[execOp,bh hf hc,bh hf hx,asBool];rfl
def xD{ad:Addr}(hx:aC fr x=some (.pointer (some ad))):Yd P C fr own G ⟨dst, .nilCheck x,ty',pos,af,gd⟩ (.pointer (some ad)):=by
 intro a w hf hh;simp only[execOp,bh hf hx];rfl
def Bv{b o f off:Nat}[hF:El P t f off](hx:aC fr x=some (.pointer (some ⟨b,o,none⟩))):
  Yd P C fr own G ⟨dst, .fieldAddr t x f,ty',pos,af,gd⟩ (.pointer (some ⟨b,o+off,none⟩)):=by
 intro a w hf hh;simp only[execOp,bh hf hx];have:=hF.at_ b o w;rw[oE] at this;exact cp this
def zw{vs:Array Value}{i:Nat}{v:Value}(hx:aC fr x=some (.tuple vs))(hv:vs[i]? =some v):Yd P C fr own G ⟨dst, .extract x i,ty',pos,af,gd⟩ v:=by
 intro a w hf hh;simp only[execOp,bh hf hx,Instr.extract,hv];rfl
def zA{fn:Fn}{c1 c2:Array Operand}{l1 l2:List Value}(h1:c1.toList.mapM (aC fr)=some l1)(h2:c2.toList.mapM (aC fr)=some l2):
  Yd P C fr own G ⟨dst, .makeFunc fn c1 c2,ty',pos,af,gd⟩ (.func fn ⟨l1⟩ ⟨l2⟩):=by
 intro a w hf hh;have key: ∀(l:List Operand) (m:List Value),l.mapM (aC fr)=some m->l.map a.eval=m:=by
  intro l
  induction l with
  |nil=>intro m h;simp at h;subst h;rfl
  |cons o t ih=>
   intro m h;rw[nZ] at h
   cases ho:aC fr o with
   |none=>simp[ho] at h
   |some u=>
    cases ht:t.mapM (aC fr) with
    |none=>simp[ho,ht] at h
    |some m'=>
     simp[ho,ht] at h;subst h;simp[bh hf ho,ih _ ht]
 have e1:c1.map a.eval=⟨l1⟩:=by apply Array.ext';simpa using key _ _ h1
 have e2:c2.map a.eval=⟨l2⟩:=by apply Array.ext';simpa using key _ _ h2
 simp only[execOp,e1,e2];rfl
def gF{op:BinOp}{k:IntKind}{p q:Int}{v:Value}(hx:aC fr x=some (.int k p))(hy:aC fr y=some (.int k q))(hs: ∀w,(binOp op t (.int k p) (.int k q)).run P w= .ok v w):
  Yd P C fr own G ⟨dst, .binOp op t x y t',ty',pos,af,gd⟩ v:=by
 intro a w hf hh;simp only[execOp,bh hf hx,bh hf hy];have:(eqGuard op t x y (.int k p) (.int k q)).run P w= .ok () w:=by cases op<;>rfl
 exact cp (by rw[aG this];exact hs w)
def O0(k:IntKind)(p q:Int)(w:World):(binOp .add t (.int k p) (.int k q)).run P w= .ok (.int k (k.wrap (p+q))) w:=by simp[binOp,Op.intArith,run_pure]
def Hz(k:IntKind)(p q:Int)(w:World):(binOp .sub t (.int k p) (.int k q)).run P w= .ok (.int k (k.wrap (p-q))) w:=by simp[binOp,Op.intArith,run_pure]
def RC(k:IntKind)(p q:Int)(w:World):(binOp .mul t (.int k p) (.int k q)).run P w= .ok (.int k (k.wrap (p*q))) w:=by simp[binOp,Op.intArith,run_pure]
def Qt(k:IntKind)(p q:Int)(w:World)(h:q≠0):(binOp .quo t (.int k p) (.int k q)).run P w= .ok (.int k (k.wrap (p.tdiv q))) w:=by simp[binOp,Op.intDiv,run_pure,h]
def P5(k:IntKind)(p q:Int)(w:World)(h:q≠0):(binOp .rem t (.int k p) (.int k q)).run P w= .ok (.int k (p.tmod q)) w:=by simp[binOp,Op.intDiv,run_pure,h]
def Qi(k:IntKind)(p q:Int)(w:World):(binOp .lss t (.int k p) (.int k q)).run P w= .ok (.bool (decide (p<q))) w:=by simp[binOp,Op.intCmp,run_pure]
def Xe(k:IntKind)(p q:Int)(w:World):(binOp .leq t (.int k p) (.int k q)).run P w= .ok (.bool (decide (p<=q))) w:=by simp[binOp,Op.intCmp,run_pure]
def RP(k:IntKind)(p q:Int)(w:World):(binOp .gtr t (.int k p) (.int k q)).run P w= .ok (.bool (decide (q<p))) w:=by simp[binOp,Op.intCmp,run_pure]
def Va(k:IntKind)(p q:Int)(w:World):(binOp .geq t (.int k p) (.int k q)).run P w= .ok (.bool (decide (q<=p))) w:=by simp[binOp,Op.intCmp,run_pure]
def WK(k:IntKind)(p q:Int)(w:World):(binOp .eql t (.int k p) (.int k q)).run P w= .ok (.bool (decide (p=q))) w:=by
 have:(p==q)=decide (p=q):=by rw[Bool.eq_iff_iff];simp
 simp[binOp,Op.intCmp,run_pure,this]
def Wa(k:IntKind)(p q:Int)(w:World):(binOp .neq t (.int k p) (.int k q)).run P w= .ok (.bool (decide (p≠q))) w:=by
 have:(p !=q)=decide (p≠q):=by rw[Bool.eq_iff_iff];simp
 simp[binOp,Op.intCmp,run_pure,this]
def oI{k:IntKind}{p:Int}(h:k.min<=p/\p<=k.max):k.wrap p=p:=by
 cases k<;>simp only[IntKind.min,IntKind.max,IntKind.wrap,IntKind.bits,IntKind.signed] at* <;>simp at h⊢ <;>(try split)<;>omega
def MO{k:IntKind}{p q:Int}(hx:aC fr x=some (.int k p))(hy:aC fr y=some (.int k q))(h:k.min<=p+q/\p+q<=k.max):Yd P C fr own G ⟨dst, .binOp .add t x y t',ty',pos,af,gd⟩ (.int k (p+q)):=
 gF hx hy fun w=>by rw[O0,oI h]
def Ts{k:IntKind}{p q:Int}(hx:aC fr x=some (.int k p))(hy:aC fr y=some (.int k q))(h:k.min<=p-q/\p-q<=k.max):Yd P C fr own G ⟨dst, .binOp .sub t x y t',ty',pos,af,gd⟩ (.int k (p-q)):=
 gF hx hy fun w=>by rw[Hz,oI h]
def Wy{k:IntKind}{p q:Int}(hx:aC fr x=some (.int k p))(hy:aC fr y=some (.int k q))(h:k.min<=p*q/\p*q<=k.max):Yd P C fr own G ⟨dst, .binOp .mul t x y t',ty',pos,af,gd⟩ (.int k (p*q)):=
 gF hx hy fun w=>by rw[RC,oI h]
def Uf{k:IntKind}{p q:Int}(hx:aC fr x=some (.int k p))(hy:aC fr y=some (.int k q)):Yd P C fr own G ⟨dst, .binOp .sub t x y t',ty',pos,af,gd⟩ (.int k (k.wrap (p-q))):=gF hx hy fun w=>Hz k p q w
def KK{k:IntKind}{p q:Int}(hx:aC fr x=some (.int k p))(hy:aC fr y=some (.int k q))(h:q≠0):Yd P C fr own G ⟨dst, .binOp .quo t x y t',ty',pos,af,gd⟩ (.int k (k.wrap (p.tdiv q))):=gF hx hy fun w=>Qt k p q w h
def B3{k:IntKind}{p q:Int}(hx:aC fr x=some (.int k p))(hy:aC fr y=some (.int k q))(h:q≠0):Yd P C fr own G ⟨dst, .binOp .rem t x y t',ty',pos,af,gd⟩ (.int k (p.tmod q)):=gF hx hy fun w=>P5 k p q w h
def SI{k:IntKind}{p q:Int}(hx:aC fr x=some (.int k p))(hy:aC fr y=some (.int k q)):Yd P C fr own G ⟨dst, .binOp .lss t x y t',ty',pos,af,gd⟩ (.bool (decide (p<q))):=gF hx hy fun w=>Qi k p q w
def Q6{k:IntKind}{p q:Int}(hx:aC fr x=some (.int k p))(hy:aC fr y=some (.int k q)):Yd P C fr own G ⟨dst, .binOp .leq t x y t',ty',pos,af,gd⟩ (.bool (decide (p<=q))):=gF hx hy fun w=>Xe k p q w
def Qs{k:IntKind}{p q:Int}(hx:aC fr x=some (.int k p))(hy:aC fr y=some (.int k q)):Yd P C fr own G ⟨dst, .binOp .gtr t x y t',ty',pos,af,gd⟩ (.bool (decide (q<p))):=gF hx hy fun w=>RP k p q w
def Me{k:IntKind}{p q:Int}(hx:aC fr x=some (.int k p))(hy:aC fr y=some (.int k q)):Yd P C fr own G ⟨dst, .binOp .geq t x y t',ty',pos,af,gd⟩ (.bool (decide (q<=p))):=gF hx hy fun w=>Va k p q w
def Of{k:IntKind}{p q:Int}(hx:aC fr x=some (.int k p))(hy:aC fr y=some (.int k q)):Yd P C fr own G ⟨dst, .binOp .eql t x y t',ty',pos,af,gd⟩ (.bool (decide (p=q))):=gF hx hy fun w=>WK k p q w
def Qd{k:IntKind}{p q:Int}(hx:aC fr x=some (.int k p))(hy:aC fr y=some (.int k q)):Yd P C fr own G ⟨dst, .binOp .neq t x y t',ty',pos,af,gd⟩ (.bool (decide (p≠q))):=gF hx hy fun w=>Wa k p q w
variable {e s by_:Nat}
def wM[hT:c8 P t e s by_]{ad:Option Addr}{len cap:Nat}(hx:aC fr x=some (.slice ad len cap)):
  Yd P C fr own G ⟨dst, .call ⟨.builtin .len, #[x], #[t]⟩,ty',pos,af,gd⟩ (.int .i64 len):=by
 intro a w hf hh;simp only[execOp,resolve,iT,bL,iQ,bh hf hx];have h1:(Builtin.len_ #[t] ty' #[.slice ad len cap]).run P w= .ok (.int .i64 len) w:=by
  simp only[Builtin.len_];show(underlying t>>=_).run P w=_;rw[aG (hT.u w)];rfl
 exact cp h1
def BV[hT:c8 P t e s by_]{k:IntKind}{b off len cap:Nat}{i:Int}(hx:aC fr x=some (.slice (some ⟨b,off,none⟩) len cap))(hy:aC fr y=some (.int k i))(h0:0<=i)(h1:i<len):
  Yd P C fr own G ⟨dst, .indexAddr t x y,ty',pos,af,gd⟩ (.pointer (some ⟨b,off+i.toNat*s,none⟩)):=by
 intro a w hf hh;simp only[execOp,bh hf hx,bh hf hy];have:(Instr.indexAt t (.slice (some ⟨b,off,none⟩) len cap) (.int k i)).run P w= .ok (.pointer (some ⟨b,off+i.toNat*s,none⟩)) w:=by
  unfold Instr.indexAt;show(underlying t>>=_).run P w=_;rw[aG (hT.u w)];show(underlying t>>=_).run P w=_;rw[aG (hT.u w)];simp only[h0,h1,and_self,if_true];show(sizeOf e>>=_).run P w=_;rw[aG (hT.siz w),oE];rfl
 exact cp this
def th{k:IntKind}{v:Int}{m:Nat}{c:BoundsCode}(w:World)(h0:0<=v)(h1:v<=m):(Instr.sliceBound (.int k v) m c).run P w= .ok v.toNat w:=by
 unfold Instr.sliceBound;simp[asIntOf,h0,h1,run_pure]
def jn(ad:Option Addr)(len cap lo hi mx s:Nat):Value:= .slice (if mx=lo then ad else ad.map (·.add (lo*s))) (hi-lo) (mx-lo)
def uH[hT:c8 P t e s by_]{ad:Option Addr}{len cap:Nat}(w:World){lo hi mx:Option Value}{l h m:Nat}(hb: ∀w,(Instr.sliceBounds true len cap lo hi mx).run P w= .ok (l,h,m) w):
  (Instr.sliceAt t (.slice ad len cap) lo hi mx).run P w= .ok (jn ad len cap l h m s) w:=by
 unfold Instr.sliceAt;rw[aG (hT.u w)];show(Instr.slice t (.slice ad len cap) lo hi mx).run P w=_;unfold Instr.slice;rw[aG (hT.u w)];show(Instr.sliceBounds true len cap lo hi mx>>=_).run P w=_;rw[aG (hb w)];show(sizeOf e>>=_).run P w=_;rw[aG (hT.siz w)];rfl
def GS[hT:c8 P t e s by_]{k:IntKind}{ad:Option Addr}{len cap:Nat}{h:Int}(hx:aC fr x=some (.slice ad len cap))(hy:aC fr y=some (.int k h))(h0:0<=h:=by omega)(h1:h<=cap:=by omega):
  Yd P C fr own G ⟨dst, .slice t x none (some y) none,ty',pos,af,gd⟩ (.slice ad h.toNat cap):=by
 intro a w hf hh;simp only[execOp,bh hf hx,bh hf hy,oK,gL];have:=uH (P:=P) (t:=t) (ad:=ad) (len:=len) (cap:=cap) w (lo:=none) (hi:=some (.int k h)) (mx:=none) (l:=0) (h:=h.toNat) (m:=cap) (fun w=>by
  simp[Instr.sliceBounds,th w h0 h1,Result.andThen])
 have e2:jn ad len cap 0 h.toNat cap s= .slice ad h.toNat cap:=by
  unfold jn
  cases ad with
  |none=>simp
  |some ad=>simp[Addr.add]
 rw[<-e2];exact cp this
def Ip[hT:c8 P t e s by_]{k:IntKind}{ad:Option Addr}{len cap:Nat}{l:Int}(hx:aC fr x=some (.slice ad len cap))(hy:aC fr y=some (.int k l))(h0:0<=l)(h1:l<=len):
  Yd P C fr own G ⟨dst, .slice t x (some y) none none,ty',pos,af,gd⟩ (jn ad len cap l.toNat len cap s):=by
 intro a w hf hh;simp only[execOp,bh hf hx,bh hf hy,oK,gL];exact cp (uH (P:=P) (t:=t) (ad:=ad) (len:=len) (cap:=cap) w (lo:=some (.int k l)) (hi:=none) (mx:=none) (fun w=>by
  simp[Instr.sliceBounds,th w h0 h1,Result.andThen]))
def TE[hT:c8 P t e s by_]{k k':IntKind}{ad:Option Addr}{len cap:Nat}{l h:Int}{z:Operand}(hx:aC fr x=some (.slice ad len cap))(hy:aC fr y=some (.int k l))(hz:aC fr z=some (.int k' h))(h0:0<=l)(h1:l<=h)(h2:h<=cap):
  Yd P C fr own G ⟨dst, .slice t x (some y) (some z) none,ty',pos,af,gd⟩ (jn ad len cap l.toNat h.toNat cap s):=by
 intro a w hf hh;simp only[execOp,bh hf hx,bh hf hy,bh hf hz,oK,gL];exact cp (uH (P:=P) (t:=t) (ad:=ad) (len:=len) (cap:=cap) w (lo:=some (.int k l)) (hi:=some (.int k' h)) (mx:=none) (fun w=>by
  have h1':l<=(h.toNat:Int):=by omega
  simp[Instr.sliceBounds,th w (Int.le_trans h0 h1) h2,th w h0 h1',Result.andThen]))
def QB[hT:c8 P t e s by_]{k k':IntKind}{ad:Option Addr}{len cap:Nat}{h m:Int}{z:Operand}(hx:aC fr x=some (.slice ad len cap))(hy:aC fr y=some (.int k h))(hz:aC fr z=some (.int k' m))(h0:0<=h)(h1:h<=m)(h2:m<=cap):
  Yd P C fr own G ⟨dst, .slice t x none (some y) (some z),ty',pos,af,gd⟩ (.slice ad h.toNat m.toNat):=by
 intro a w hf hh;simp only[execOp,bh hf hx,bh hf hy,bh hf hz,oK,gL];have:=uH (P:=P) (t:=t) (ad:=ad) (len:=len) (cap:=cap) w (lo:=none) (hi:=some (.int k h)) (mx:=some (.int k' m)) (l:=0) (h:=h.toNat) (m:=m.toNat) (fun w=>by
  have h1':h<=(m.toNat:Int):=by omega
  simp[Instr.sliceBounds,th w (Int.le_trans h0 h1) h2,th w h0 h1',Result.andThen])
 have e2:jn ad len cap 0 h.toNat m.toNat s= .slice ad h.toNat m.toNat:=by
  unfold jn
  cases ad with
  |none=>simp
  |some ad=>simp[Addr.add]
 rw[<-e2];exact cp this
class lG (P:Program) (t:TypeId) (k:outParam IntKind):Prop where u: ∀w,(underlying t).run P w= .ok (.int k) w
def xJ{k k':IntKind}{p:Int}[hs:lG P t k][hd:lG P t' k'](hx:aC fr x=some (.int k p)):Yd P C fr own G ⟨dst, .convert t t' x,ty',pos,af,gd⟩ (.int k' (k'.wrap p)):=by
 intro a w hf hh;simp only[execOp,bh hf hx];have:(convert t t' (.int k p)).run P w= .ok (.int k' (k'.wrap p)) w:=by
  unfold convert;rw[aG (hs.u w),aG (hd.u w)];rfl
 exact cp this
def Ix{k k':IntKind}{p:Int}[hs:lG P t k][hd:lG P t' k'](hx:aC fr x=some (.int k p))(h:k'.min<=p/\p<=k'.max):Yd P C fr own G ⟨dst, .convert t t' x,ty',pos,af,gd⟩ (.int k' p):=by
 have:=xJ (P:=P) (C:=C) (own:=own) (G:=G) (dst:=dst) (ty':=ty') (pos:=pos) (af:=af) (gd:=gd) (t:=t) (t':=t') hx;rwa [oI h] at this
def TQ{b:Bool}(hx:aC fr x=some (.bool b)):Yd P C fr own G ⟨dst, .unOp .not t x,ty',pos,af,gd⟩ (.bool (!b)):=by
 intro a w hf hh;simp only[execOp,bh hf hx,Op.unary];rfl
def Bd{k:IntKind}{p:Int}(hx:aC fr x=some (.int k p)):Yd P C fr own G ⟨dst, .unOp .neg t x,ty',pos,af,gd⟩ (.int k (k.wrap (0-p))):=by
 intro a w hf hh;simp only[execOp,bh hf hx,Op.unary,Op.intArith];rfl
end
def ef{w:World}{b:Nat}{o:Obj}(h:w.heap[b]? =some o):b<w.heap.size:=by
 rcases dR b w.heap.size with h'|h'
 .exact h'
 .simp[kV h'] at h
def bj.gnone{C:az}{own:List av}{G:Gh}{w:World}(h:bj C own G w){b:Nat}(hb:w.heap.size<=b):G b=none:=by
 cases hG:G b with
 |none=>rfl
 |some cs=>
  obtain⟨ty,fz,hc⟩:=h.sub b cs hG;have:=ef hc;omega
def bj.alloc{C:az}{own:List av}{G:Gh}{w:World}(h:bj C own G w)(cs:List Value)(ty:TypeId):
  bj C (⟨w.heap.size,cs,ty,true⟩::own) G (w.alloc (.cells ⟨cs⟩ ty)):=by
 have old: ∀b,b<w.heap.size->(w.alloc (.cells ⟨cs⟩ ty)).heap[b]? =w.heap[b]? :=fun b hb=>RowKit.Below.heap_alloc _ _ _ hb;refine⟨h.os,h.tape,h.output,?_,?_,?_,h.gle,h.gold,?_,?_,h.dr,fun p hp=>⟨(h.ext p hp).1,by rw[old _ (ef (h.ext p hp).2)];exact(h.ext p hp).2⟩⟩
 .have:=h.size;simp;omega
 .intro b hb hm;rw[old b (by have:=h.size;omega)];exact h.keep b hb hm
 .intro b cs' hb
  obtain⟨ty',fz,hc⟩:=h.sub b cs' hb;exact⟨ty',fz,by rw[old b (ef hc)];exact hc⟩
 .intro o ho
  rcases aR.1 ho with rfl|ho
  .refine⟨by show(w.heap.push _)[w.heap.size]? =_;simp,h.gnone (aM _),fun _=>h.size,fun e=>by cases e⟩
  .obtain⟨h1,h2⟩:=h.hown o ho
   exact⟨by rw[old _ (ef h1)];exact h1,h2⟩
 .refine List.Pairwise.cons ?_ h.nd
  intro o ho;have:=ef (h.hown o ho).1;show w.heap.size≠o.b;omega
def eo(w:World)(b:Nat)(o:Obj):World:={w with heap:=w.heap.setIfInBounds b o}
def yF{l:List av}:l.Pairwise (fun x y=>x.b≠y.b)↔(l.map (·.b)).Pairwise (· ≠ ·):=by rw[oN]
def f5.spec{own own':List av}{b:Nat}{cs cs':List Value}{ty:TypeId}{lo:Bool}(h:f5 own b cs ty lo cs' own')(nd:own.Pairwise (fun x y=>x.b≠y.b)):
  ⟨b,cs,ty,lo⟩∈own/\(∀o,o∈own'->o=⟨b,cs',ty,lo⟩\/(o∈own/\o.b≠b))/\own'.map (·.b)=own.map (·.b):=by
 induction h with
 |hd b cs cs' ty lo t=>
  refine⟨aX,fun o ho=>?_,J⟩;rcases aR.1 ho with rfl|h
  .exact .inl J
  .exact .inr ⟨aK _ h,Ne.symm ((bZ.1 nd).1 _ h)⟩
 |tl o t t' b cs cs' ty lo h ih=>
  obtain⟨h1,h2,h3⟩:=ih (bZ.1 nd).2;refine⟨aK _ h1,fun x hx=>?_,by simp[h3]⟩;rcases aR.1 hx with rfl|hx
  .exact .inr ⟨aX,(bZ.1 nd).1 _ h1⟩
  .exact(h2 x hx).imp id (fun k=>⟨aK _ k.1,k.2⟩)
def xO{w:World}{b k:Nat}{o:Obj}(hk:k≠b):(eo w b o).heap[k]? =w.heap[k]? :=by
 simp only[eo];rw[cR];simp[Ne.symm hk]
def Hj{w:World}{b:Nat}{o:Obj}(hb:b<w.heap.size):(eo w b o).heap[b]? =some o:=by
 simp only[eo];rw[cR];simp[hb]
def bj.extNe{C:az}{own:List av}{G:Gh}{w:World}(h:bj C own G w){p:Nat×Obj}(hp:p∈C.ex){b:Nat}{cs:Array Value}{ty:TypeId}{z:Nat×Nat}(hb:w.heap[b]? =some (.cells cs ty z)):p.1≠b:=fun e=>by
 obtain⟨h1,h2⟩:=h.ext p hp;rw[e,hb] at h2;exact h1 _ _ _ (Option.some.inj h2).symm
def bj.extM{C:az}{M rest:List av}{G:Gh}{w:World}(h:bj C (M++rest) G w){p:Nat×Obj}(hp:p∈C.ex):p.1∉M.map (·.b):=fun hm=>by
 obtain⟨m,hm,e⟩:=bV.1 hm;exact h.extNe hp (h.hown m (dZ _ hm)).1 e.symm
def bj.store{C:az}{own own':List av}{G:Gh}{w:World}{b:Nat}{cs cs':List Value}{ty:TypeId}{lo:Bool}(h:bj C own G w)(hu:f5 own b cs ty lo cs' own'):
  bj C own' G (eo w b (.cells ⟨cs'⟩ ty (0,0))):=by
 obtain⟨h1,h2,h3⟩:=hu.spec h.nd;obtain⟨hb,hGb,hlo1,hlo2⟩:=h.hown _ h1;have hlt:=ef hb;refine⟨h.os,h.tape,h.output,by simpa[eo] using h.size,?_,?_,h.gle,h.gold,?_,yF.2 (h3▸yF.1 h.nd),h.dr,fun p hp=>⟨(h.ext p hp).1,by rw[xO (h.extNe hp hb)];exact(h.ext p hp).2⟩⟩
 .intro k hk hm
  by_cases hkb:k=b
  .subst hkb
   cases hlo:lo with
   |true=>have h5:=hlo1 hlo;simp only[] at h5;omega
   |false=>exact absurd (hlo2 hlo) hm
  .rw[xO hkb];exact h.keep k hk hm
 .intro k cs1 hk
  obtain⟨ty',fz,hc⟩:=h.sub k cs1 hk;have:k≠b:=fun e=>by subst e;rw[show G k=none from hGb] at hk;cases hk
  exact⟨ty',fz,by rw[xO this];exact hc⟩
 .intro o ho
  rcases h2 o ho with rfl|⟨ho',hne⟩
  .exact⟨Hj hlt,hGb,hlo1,hlo2⟩
  .obtain⟨k1,k2⟩:=h.hown o ho'
   exact⟨by rw[xO hne];exact k1,k2⟩
def ik.spec{own own':List av}{o:av}(h:ik own o own')(nd:own.Pairwise (fun x y=>x.b≠y.b)):
  o∈own/\(∀x,x∈own'->x∈own/\x.b≠o.b)/\own'.Pairwise (fun x y=>x.b≠y.b):=by
 induction h with
 |hd o t=>exact⟨aX,fun x hx=>⟨aK _ hx,Ne.symm ((bZ.1 nd).1 _ hx)⟩,(bZ.1 nd).2⟩
 |tl y t t' o h ih=>
  obtain⟨h1,h2,h3⟩:=ih (bZ.1 nd).2;refine⟨aK _ h1,fun x hx=>?_,List.Pairwise.cons (fun x hx=>(bZ.1 nd).1 _ (h2 x hx).1) h3⟩;rcases aR.1 hx with rfl|hx
  .exact⟨aX,(bZ.1 nd).1 _ h1⟩
  .exact⟨aK _ (h2 x hx).1,(h2 x hx).2⟩
def bj.freeze{C:az}{own own':List av}{G:Gh}{w:World}{b:Nat}{cs:List Value}{ty:TypeId}(h:bj C own G w)(hr:ik own ⟨b,cs,ty,true⟩ own'):
  bj C own' (fun k=>if k=b then some cs else G k) w/\ba G (fun k=>if k=b then some cs else G k):=by
 obtain⟨h1,h2,h3⟩:=hr.spec h.nd;obtain⟨hb,hGb,hlo,_⟩:=h.hown _ h1;have hle:ba G (fun k=>if k=b then some cs else G k):=fun k c hk=>by
  have:k≠b:=fun e=>by subst e;rw[show G k=none from hGb] at hk;cases hk
  simp[this,hk]
 refine⟨⟨h.os,h.tape,h.output,h.size,h.keep,?_,h.gle.trans hle,?_,?_,h3,h.dr,h.ext⟩,hle⟩
 .intro k c hk
  by_cases e:k=b
  .subst e;simp only[if_true] at hk;cases hk;exact⟨ty,(0,0),hb⟩
  .simp only[e,if_false] at hk;exact h.sub k c hk
 .intro k hk
  have h5:C.w0.heap.size<=b:=hlo J;have:k≠b:=by omega
  simp only[this,if_false];exact h.gold k hk
 .intro o ho
  obtain⟨k1,k2⟩:=h2 o ho;obtain⟨m1,m2,m3⟩:=h.hown o k1;exact⟨m1,by rw[if_neg k2];exact m2,m3⟩
def bj.drop{C:az}{own own':List av}{G:Gh}{w:World}(h:bj C own G w)(hs:own'.Sublist own):bj C own' G w:=
 ⟨h.os,h.tape,h.output,h.size,h.keep,h.sub,h.gle,h.gold,fun o ho=>h.hown o (hs.subset ho),h.nd.sublist hs,h.dr,h.ext⟩
def bj.perm{C:az}{own own':List av}{G:Gh}{w:World}(h:bj C own G w)(hs:own.Perm own'):bj C own' G w:=
 ⟨h.os,h.tape,h.output,h.size,h.keep,h.sub,h.gle,h.gold,fun o ho=>h.hown o (hs.mem_iff.2 ho),(hs.pairwise_iff (fun h=>Ne.symm h)).1 h.nd,h.dr,h.ext⟩
def bj.drew{C:az}{own:List av}{G:Gh}{w:World}(h:bj C own G w):bj C own G {w with drawn:=w.drawn+1}:=
 ⟨h.os,h.tape,h.output,h.size,h.keep,h.sub,h.gle,h.gold,h.hown,h.nd,Nat.le_succ_of_le h.dr,h.ext⟩
def kt(P:Program)(f:FuncId):Prop:= ∃fn,P.funcs[f]? =some fn/\(fn.name== "runtime.NumGoroutine")=false/\fn.body.isNone=false
def gG(M:List av)(css:List (List Value)):List av:=(M.zip css).map fun p=>{p.1 with cs:=p.2}
def asB(M:List av):List av:=M.map fun o=>{o with lo:=false}
structure Fn (P:Program) (f:FuncId) (vs:List Value) (G:Gh) (K:Value->Gh->Prop):Prop where
 able:kt P f
 run: ∀w,(∀b cs,G b=some cs-> ∃ty fz,w.heap[b]? =some (.cells ⟨cs⟩ ty fz))->
  Calls P f ⟨vs⟩ w fun e w'=> ∃v G',e= .returned v/\bj ⟨w,G,[],[],[],none,fun _=>none⟩ [] G' w'/\K v G'
structure qp (P:Program) (f:FuncId) (vs:List Value) (M:List av) (G:Gh) (K:Value->List (List Value)->Gh->Prop):Prop where
 able:kt P f
 run: ∀w,bj ⟨w,G,M.map (·.b),[],[],none,fun _=>none⟩ (asB M) G w->
  Calls P f ⟨vs⟩ w fun e w'=> ∃v css G',e= .returned v/\css.length=M.length/\bj ⟨w,G,M.map (·.b),[],[],none,fun _=>none⟩ (gG (asB M) css) G' w'/\K v css G'
def Fn.mono{P:Program}{f:FuncId}{vs:List Value}{G:Gh}{K K':Value->Gh->Prop}(h:Fn P f vs G K)(hk: ∀v G',ba G G'->K v G'->K' v G'):Fn P f vs G K':=
 ⟨h.able,fun w hw=>(h.run w hw).mono fun _ _ ⟨v,G',he,hh,hK⟩=>⟨v,G',he,hh,hk v G' hh.gle hK⟩⟩
def bj.called{C:az}{own:List av}{G G':Gh}{w w':World}(h:bj C own G w)(k:bj ⟨w,G,[],[],[],none,fun _=>none⟩ [] G' w'):bj C own G' w':=by
 have same: ∀b o,w.heap[b]? =some o->w'.heap[b]? =some o:=fun b o hb=>by rw[k.keep b (ef hb) (by simp)];exact hb
 have hsz:w.heap.size<=w'.heap.size:=k.size;refine⟨k.os.trans h.os,k.tape.trans h.tape,k.output.trans h.output,fJ h.size hsz,?_,k.sub,h.gle.trans k.gle,?_,?_,h.nd,fJ h.dr k.dr,fun p hp=>⟨(h.ext p hp).1,same _ _ (h.ext p hp).2⟩⟩
 .intro b hb hm;have:=h.size;rw[k.keep b (by show b<w.heap.size;omega) (by simp)];exact h.keep b hb hm
 .intro b hb;have:=h.size;rw[k.gold b (by show b<w.heap.size;omega)];exact h.gold b hb
 .intro o ho
  obtain⟨h1,h2,h3⟩:=h.hown o ho;exact⟨same _ _ h1,by rw[k.gold _ (ef h1)];exact h2,h3⟩
def On(M:List av)(css:List (List Value))(h:css.length=M.length):(gG M css).map (·.b)=M.map (·.b):=by
 induction M generalizing css with
 |nil=>simp[gG]
 |cons o M ih=>
  cases css with
  |nil=>simp at h
  |cons c css=>simp only[bR,Nat.add_right_cancel_iff] at h;simpa[gG] using ih css h
def Rt{M:List av}{css:List (List Value)}{o:av}(ho:o∈gG M css): ∃c∈css,∃m∈M,o={m with cs:=c}/\{m with cs:=c,lo:=false}∈gG (asB M) css:=by
 induction M generalizing css with
 |nil=>simp[gG] at ho
 |cons x M ih=>
  cases css with
  |nil=>simp[gG] at ho
  |cons c css=>
   simp only[gG,List.zip_cons_cons,bL,aR] at ho;rcases ho with rfl|ho
   .exact⟨c,aX,x,aX,J,by simp[gG,asB]⟩
   .obtain⟨c',hc',m,hm,e,hh⟩:=ih ho
    refine⟨c',aK _ hc',m,aK _ hm,e,?_⟩;simp only[gG,asB,bL,List.zip_cons_cons,aR];exact .inr hh
def bj.lend{C:az}{M rest:List av}{G:Gh}{w:World}(h:bj C (M++rest) G w):bj ⟨w,G,M.map (·.b),[],[],none,fun _=>none⟩ (asB M) G w:=by
 refine⟨J,J,J,aM _,fun _ _ _=>J,h.sub,ba.refl _,fun _ _=>J,?_,?_,aM _,fun p hp=>by cases hp⟩
 .intro o ho
  obtain⟨m,hm,rfl⟩:=bV.1 ho;obtain⟨h1,h2,_⟩:=h.hown m (dZ _ hm);exact⟨h1,h2,by simp,fun _=>bV.2 ⟨m,hm,J⟩⟩
 .have:=(iR.1 h.nd).1
  unfold asB;rw[oN];exact this
def bj.calledM{C:az}{M rest:List av}{G G':Gh}{w w':World}{css:List (List Value)}(h:bj C (M++rest) G w)(hl:css.length=M.length)(k:bj ⟨w,G,M.map (·.b),[],[],none,fun _=>none⟩ (gG (asB M) css) G' w'):
  bj C (gG M css++rest) G' w':=by
 have hsz:w.heap.size<=w'.heap.size:=k.size;have hnd:=h.nd;have inM: ∀b,b∈M.map (·.b)-> ∀o∈rest,o.b≠b:=fun b hb o ho e=>by
  obtain⟨m,hm,rfl⟩:=bV.1 hb;exact(iR.1 hnd).2.2 m hm o ho e.symm
 refine⟨k.os.trans h.os,k.tape.trans h.tape,k.output.trans h.output,fJ h.size hsz,?_,k.sub,h.gle.trans k.gle,?_,?_,?_,fJ h.dr k.dr,fun p hp=>⟨(h.ext p hp).1,by rw[k.keep _ (ef (h.ext p hp).2) (h.extM hp)];exact(h.ext p hp).2⟩⟩
 .intro b hb hm
  have hs:=h.size;have hnM:b∉M.map (·.b):=fun hb'=>by
   obtain⟨m,hmM,rfl⟩:=bV.1 hb';obtain⟨_,_,h3,h4⟩:=h.hown m (dZ _ hmM)
   cases hlo:m.lo with
   |true=>have:=h3 hlo;omega
   |false=>exact hm (h4 hlo)
  rw[k.keep b (by show b<w.heap.size;omega) hnM];exact h.keep b hb hm
 .intro b hb;have:=h.size;rw[k.gold b (by show b<w.heap.size;omega)];exact h.gold b hb
 .intro o ho
  rcases cM.1 ho with ho|ho
  .obtain⟨c,hc,m,hm,rfl,hmem⟩:=Rt ho
   obtain⟨k1,k2,_⟩:=k.hown _ hmem;obtain⟨_,_,h3⟩:=h.hown m (dZ _ hm);exact⟨k1,k2,h3⟩
  .obtain⟨h1,h2,h3⟩:=h.hown o (fR _ ho)
   have hnM:o.b∉M.map (·.b):=fun hb=>inM _ hb o ho J;exact⟨by rw[k.keep _ (ef h1) hnM];exact h1,by rw[k.gold _ (ef h1)];exact h2,h3⟩
 .rw[yF,cK,On _ _ hl,<-cK,<-yF];exact hnd
abbrev ii:= @inferInstance.{0}
def nb{a b:Nat}(h:Nat.ble a b=true):a<=b:=Nat.le_of_ble_eq_true h
def sR{P:Program}{C:az}{n:Nat}{fr:Fr}{own:List av}{G:Gh}{Q:Exit->Act->World->Prop}{id:Nat}{ops:Array Oper}{y:Code}(h:St C n fr own G (d9 P ops (Exit.then (y.wp P Q) Q) ops.toList)):St C n fr own G ((Code.seq (Code.region id ops false) y).wp P Q):=HN (W3 h)
end Go.Sx
end
section
namespace Go.Sx
open Go
def aF:Value->List Value
 | .agg ⟨l⟩=>l
 |v=>[v]
def mG(v:Value):v.cells=⟨aF v⟩:=by
 cases v<;>first|rfl|(rename_i a;cases a;rfl)
def flat:Value->Bool
 | .agg _=>false
 | .tuple _=>false
 |_=>true
def fg(fr:Fr):List Operand->Option (List Value)
 |[]=>some []
 |x::t=>match aC fr x,fg fr t with
  |some v,some l=>some (v::l)
  |_,_=>none
def yb{fr:Fr}{a:Act}(h:gI fr a): ∀{l:List Operand} {vs:List Value},fg fr l=some vs->l.map a.eval=vs
 |[],vs,e=>by simp[fg] at e;subst e;rfl
 |x::t,vs,e=>by
  simp only[fg] at e;split at e
  .rename_i v l hv hl
   cases e
   simp[bh h hv,yb h hl]
  .cases e
section
variable {P:Program} {C:az} {n:Nat} {fr:Fr} {own own':List av} {G:Gh} {ops:Array Oper} {Q:Exit->Act->World->Prop} {r:List Oper}
variable {dst:Option Nat} {t t' ty':TypeId} {pos:String} {af:Array Edge} {x y:Operand}
def Ch(P:Program)(C:az)(n:Nat)(fr:Fr)(own:List av)(G:Gh)(o:Oper)(Φ:Act->World->Prop):Prop:=
 ∀(a:Act) (w:World) (Q:Exit->Act->World->Prop),eB C n fr own G a w->o.wp P a w Φ Q
def SK{o:Oper}(hg:o.guard=none)(hc:Ch P C n fr own G o (d9 P ops Q r)):St C n fr own G (d9 P ops Q (o::r)):=by
 intro a w rl;simp only[d9,Region.wanted,hg,if_true];exact hc a w _ rl
variable {Φ:Act->World->Prop} {gd:Option (Nat×Bool)}
def Ih{w:World}{ty:TypeId}{v:Value}:(newVar ty v).run P w= .ok ⟨w.heap.size,0,none⟩ (w.alloc (.cells ⟨aF v⟩ ty)):=by
 unfold newVar newRow;rw[mG];rfl
def ky{o:Oper}{v:Value}{w':World}{a:Act}{w:World}{Φ:Act->World->Prop}{Q:Exit->Act->World->Prop}(h:(execOp a.eval o).run P w= .ok (.value v) w')(hk:Φ (a.put o.dst v) w'):o.wp P a w Φ Q:=by
 simp only[Oper.wp,h,Oper.upon];exact hk
def NP{z:Value}[hz:gg P t z](hd:cC n dst=true)(h: ∀b,St C n (put fr dst (.pointer (some ⟨b,0,none⟩))) (⟨b,aF z,t,true⟩::own) G Φ):
  Ch P C n fr own G ⟨dst, .alloc t,ty',pos,af,gd⟩ Φ:=by
 intro a w Q rl;have h1:(Instr.alloc t true (.tuple #[])).run P w= .ok (.pointer (some ⟨w.heap.size,0,none⟩)) (w.alloc (.cells ⟨aF z⟩ t)):=by
  unfold Instr.alloc;rw[aG (hz.zero w)];show(newVar t z>>=_).run P w=_;rw[aG Ih];rfl
 refine ky (cp h1) (h w.heap.size _ _ ?_);exact(rl.heap (rl.h.alloc _ _)).put _ hd
def Sy{v:Value}(hx:aC fr x=some v)(hd:cC n dst=true)(h: ∀b,St C n (put fr dst (.pointer (some ⟨b,0,none⟩))) (⟨b,aF v,t,true⟩::own) G Φ):
  Ch P C n fr own G ⟨dst, .box t x,ty',pos,af,gd⟩ Φ:=by
 intro a w Q rl;have h1:(Instr.box t (a.eval x)).run P w= .ok (.pointer (some ⟨w.heap.size,0,none⟩)) (w.alloc (.cells ⟨aF v⟩ t)):=by
  unfold Instr.box;rw[bh rl.fr hx,aG Ih];rfl
 refine ky (cp h1) (h w.heap.size _ _ ?_);exact(rl.heap (rl.h.alloc _ _)).put _ hd
def Xt{w:World}{b off:Nat}{cs:List Value}{ty:TypeId}{fz:Nat×Nat}{v:Value}(h:w.heap[b]? =some (.cells ⟨cs⟩ ty fz)):w.setCell ⟨b,off,none⟩ v=eo w b (.cells ⟨cs.set off v⟩ ty fz):=by
 unfold World.setCell eo;congr 1;apply Array.ext_getElem?;intro i;rw[Array.getElem?_modify,cR];by_cases hi:b=i
 .subst hi
  have:=ef h;simp only[if_true,h,gL,this];simp
 .simp[hi]
def WR{w:World}{b off:Nat}{cs:List Value}{ty:TypeId}{v:Value}(hv:flat v=true)(h:w.heap[b]? =some (.cells ⟨cs⟩ ty (0,0)))(ho:off<cs.length):
  (store ⟨b,off,none⟩ v).run P w= .ok () (eo w b (.cells ⟨cs.set off v⟩ ty (0,0))):=by
 have hc:w.cell? ⟨b,off,none⟩=some cs[off]:=by rw[uw h,aQ ho]
 have hf:w.frozen? ⟨b,off,none⟩=false:=by simp[World.frozen?,h]
 cases v<;>first|(simp[flat] at hv;done)|(simp only[store,Sem.run,hc,hf,Xt h];rfl)
def Mm(w:World)(b:Nat)(o o':Obj):eo (eo w b o) b o'=eo w b o':=by
 simp[eo]
def OO{w:World}{b:Nat}{o:Obj}(h:w.heap[b]? =some o):eo w b o=w:=by
 unfold eo;congr 1;apply Array.ext_getElem?;intro i;rw[cR];by_cases hi:b=i
 .subst hi
  have hlt:=ef h;simp only[if_true,hlt];rw[h]
 .simp[hi]
def uP{b:Nat}{ty:TypeId}: ∀(vs:List Value) (w:World) (off i:Nat) (cs:List Value),(∀v∈vs,flat v=true)->w.heap[b]? =some (.cells ⟨cs⟩ ty (0,0))->off+i+vs.length<=cs.length->
  (storeCells ⟨b,off,none⟩ vs i).run P w= .ok () (eo w b (.cells ⟨c9 cs (off+i) vs⟩ ty (0,0)))
 |[],w,off,i,cs,_,h,_=>by
  unfold storeCells c9;rw[OO h];rfl
 |v::vs,w,off,i,cs,hf,h,hl=>by
  unfold storeCells;simp only[bR] at hl;rw[oE,aG (WR (hf v aX) h (by omega))];rw[uP vs _ off (i+1) (cs.set (off+i) v) (fun u hu=>hf u (aK _ hu)) (Hj (ef h)) (by simp;omega)];rw[Mm];rfl
def A2{v:Value}{b off k:Nat}{cs:List Value}{ty:TypeId}{lo:Bool}(hx:aC fr x=some (.pointer (some ⟨b,off,none⟩)))(hy:aC fr y=some v)[hs:mf P t k]
  (hu:f5 own b cs ty lo (c9 cs off (aF v)) own')(hk:(aF v).length=k)(hl:off+k<=cs.length)(hf:(aF v).all flat=true)(hd:cC n dst=true)(h:St C n (put fr dst undef) own' G Φ):
  Ch P C n fr own G ⟨dst, .store t x y,ty',pos,af,gd⟩ Φ:=by
 intro a w Q rl;have hb:=(rl.h.hown _ (hu.spec rl.h.nd).1).1;have h1:(Instr.storeAt t (a.eval x) (a.eval y)).run P w= .ok () (eo w b (.cells ⟨c9 cs off (aF v)⟩ ty (0,0))):=by
  rw[bh rl.fr hx,bh rl.fr hy];simp only[Instr.storeAt,Instr.sureAddr];show(storeVar t ⟨b,off,none⟩ v).run P w=_;unfold storeVar;rw[aG (hs.siz w),mG];simp only[lY,hk,ne_eq,not_true_eq_false,if_false];have:=uP (P:=P) (aF v) w off 0 cs (by simpa using hf) hb (by omega);simpa using this
 have h2:(execOp a.eval ⟨dst, .store t x y,ty',pos,af,gd⟩).run P w= .ok .skip (eo w b (.cells ⟨c9 cs off (aF v)⟩ ty (0,0))):=by
  simp only[execOp];rw[aG h1];rfl
 simp only[Oper.wp,h2,Oper.upon];exact h _ _ ((rl.heap (rl.h.store hu)).put _ hd)
def AP{v:Value}{b off:Nat}{cs:List Value}{ty:TypeId}{lo:Bool}(hx:aC fr x=some (.pointer (some ⟨b,off,none⟩)))(hy:aC fr y=some v)[hs:mi P t]
  (hu:f5 own b cs ty lo (cs.set off v) own')(hl:off<cs.length)(hf:flat v=true)(hd:cC n dst=true)(h:St C n (put fr dst undef) own' G Φ):
  Ch P C n fr own G ⟨dst, .store t x y,ty',pos,af,gd⟩ Φ:=by
 intro a w Q rl;have hb:=(rl.h.hown _ (hu.spec rl.h.nd).1).1;have hc:v.cells= #[v]:=by cases v<;>first|rfl|(simp[flat] at hf)
 have h1:(Instr.storeAt t (a.eval x) (a.eval y)).run P w= .ok () (eo w b (.cells ⟨cs.set off v⟩ ty (0,0))):=by
  rw[bh rl.fr hx,bh rl.fr hy];simp only[Instr.storeAt,Instr.sureAddr];show(storeVar t ⟨b,off,none⟩ v).run P w=_;unfold storeVar;rw[aG (hs.siz w),hc];simp only[lY,bR,kJ,ne_eq,not_true_eq_false,if_false,dW];have:=uP (P:=P) [v] w off 0 cs (by simpa using hf) hb (by simp;omega);simpa[c9] using this
 have h2:(execOp a.eval ⟨dst, .store t x y,ty',pos,af,gd⟩).run P w= .ok .skip (eo w b (.cells ⟨cs.set off v⟩ ty (0,0))):=by
  simp only[execOp];rw[aG h1];rfl
 simp only[Oper.wp,h2,Oper.upon];exact h _ _ ((rl.heap (rl.h.store hu)).put _ hd)
def wA{f:FuncId}(h:kt P f)(args:Array Value)(w:World):(callFunc f args).run P w= .ok (.enter f args) w:=by
 obtain⟨fn,h1,h2,h3⟩:=h;unfold callFunc;show(program>>=_).run P w=_;rw[aG (a:=P) (w':=w) J];simp only[h1,h2,h3];rfl
def AK{f:FuncId}{fo:Operand}{args:Array Operand}{tys:Array TypeId}{vs c1 c2:List Value}{a:Act}{w:World}(h:kt P f)(hf:gI fr a)(ho:aC fr fo=some (.func (.func f) ⟨c1⟩ ⟨c2⟩))(hv:fg fr args.toList=some vs):
  (execOp a.eval ⟨dst, .call ⟨.value fo,args,tys⟩,ty',pos,af,gd⟩).run P w= .ok (.enter f ⟨c1++vs++c2⟩) w:=by
 have e:args.map a.eval=⟨vs⟩:=by apply Array.ext';simpa using yb hf hv
 simp only[execOp,resolve,bh hf ho,e,Deferred.ofValue];show(invoke (.fn (.func f) ⟨c2⟩) (⟨c1⟩++⟨vs⟩)).run P w=_;simp only[invoke];rw[wA h];simp
def Lu{f:FuncId}{fo:Operand}{args:Array Operand}{tys:Array TypeId}{vs c1 c2:List Value}{K:Value->Gh->Prop}(ho:aC fr fo=some (.func (.func f) ⟨c1⟩ ⟨c2⟩))(hv:fg fr args.toList=some vs)
  (hF:Fn P f (c1++vs++c2) G K)(hd:cC n dst=true)(h: ∀v (G':Gh),[GE G G']->K v G'->St C n (put fr dst v) own G' Φ):
  Ch P C n fr own G ⟨dst, .call ⟨.value fo,args,tys⟩,ty',pos,af,gd⟩ Φ:=by
 intro a w Q rl;have h2:=AK (P:=P) (dst:=dst) (ty':=ty') (pos:=pos) (af:=af) (gd:=gd) (tys:=tys) (w:=w) hF.able rl.fr ho hv;simp only[Oper.wp,h2,Oper.upon];refine(hF.run w rl.h.sub).mono ?_;rintro e w' ⟨v,G',rfl,hh,hK⟩;exact @h v G' ⟨hh.gle⟩ hK _ _ ((rl.heap (rl.h.called hh)).put _ hd)
def zC{f:FuncId}{fo:Operand}{args:Array Operand}{tys:Array TypeId}{vs:List Value}{K:Value->Gh->Prop}(ho:aC fr fo=some (.func (.func f) #[] #[]))(hv:fg fr args.toList=some vs)
  (hF:Fn P f vs G K)(hd:cC n dst=true)(h: ∀v (G':Gh),[GE G G']->K v G'->St C n (put fr dst v) own G' Φ):
  Ch P C n fr own G ⟨dst, .call ⟨.value fo,args,tys⟩,ty',pos,af,gd⟩ Φ:=
 Lu (c1:=[]) (c2:=[]) ho hv (by simpa using hF) hd h
def VR{f:FuncId}{fo:Operand}{args:Array Operand}{tys:Array TypeId}{vs c1 c2:List Value}{M rest:List av}{K:Value->List (List Value)->Gh->Prop}(ho:aC fr fo=some (.func (.func f) ⟨c1⟩ ⟨c2⟩))(hv:fg fr args.toList=some vs)
  (hp:own.Perm (M++rest))(hF:qp P f (c1++vs++c2) M G K)(hd:cC n dst=true)(h: ∀v css (G':Gh),[GE G G']->css.length=M.length->K v css G'->St C n (put fr dst v) (gG M css++rest) G' Φ):
  Ch P C n fr own G ⟨dst, .call ⟨.value fo,args,tys⟩,ty',pos,af,gd⟩ Φ:=by
 intro a w Q rl;have h2:=AK (P:=P) (dst:=dst) (ty':=ty') (pos:=pos) (af:=af) (gd:=gd) (tys:=tys) (w:=w) hF.able rl.fr ho hv;simp only[Oper.wp,h2,Oper.upon];have hh0:=rl.h.perm hp;refine(hF.run w hh0.lend).mono ?_;rintro e w' ⟨v,css,G',rfl,hl,hh,hK⟩;exact @h v css G' ⟨hh.gle⟩ hl hK _ _ ((rl.heap (hh0.calledM hl hh)).put _ hd)
def Mz{f:FuncId}{fo:Operand}{args:Array Operand}{tys:Array TypeId}{vs:List Value}{M rest:List av}{K:Value->List (List Value)->Gh->Prop}(ho:aC fr fo=some (.func (.func f) #[] #[]))(hv:fg fr args.toList=some vs)
  (hp:own.Perm (M++rest))(hF:qp P f vs M G K)(hd:cC n dst=true)(h: ∀v css (G':Gh),[GE G G']->css.length=M.length->K v css G'->St C n (put fr dst v) (gG M css++rest) G' Φ):
  Ch P C n fr own G ⟨dst, .call ⟨.value fo,args,tys⟩,ty',pos,af,gd⟩ Φ:=
 VR (c1:=[]) (c2:=[]) ho hv hp (by simpa using hF) hd h
end
section
variable {P:Program} {C:az} {n:Nat} {fr:Fr} {own own':List av} {G:Gh}
inductive gc (P:Program) (fr:Fr) (own:List av):List ResultVar->List Value->Prop
 |nil:gc P fr own [] []
 |tmp {t:Nat} {v:Value} {rs:List ResultVar} {vs:List Value} (h:iF fr t=some v) (k:gc P fr own rs vs):gc P fr own (.tmp t::rs) (v::vs)
 |agg {a b k:Nat} {t ty:TypeId} {cs l:List Value} {lo:Bool} {rs:List ResultVar} {vs:List Value} (h:iF fr a=some (.pointer (some ⟨b,0,none⟩))) (ho:ie own b cs ty lo) (ht:mf P t k) (hl:cc cs 0 k=some l) (h2:gc P fr own rs vs):
   gc P fr own (.cell a t::rs) (.agg ⟨l⟩::vs)
 |sc {a b:Nat} {t ty:TypeId} {cs:List Value} {v:Value} {lo:Bool} {rs:List ResultVar} {vs:List Value} (h:iF fr a=some (.pointer (some ⟨b,0,none⟩))) (ho:ie own b cs ty lo) (ht:mi P t) (hl:cs[0]? =some v) (h2:gc P fr own rs vs):
   gc P fr own (.cell a t::rs) (v::vs)
def ta(a:Act):ResultVar->Sem Value
 | .tmp t=>pure (a.tmps.getD t undef)
 | .cell x t=>do loadVar t (<-asAddr (a.tmps.getD x undef))
def gc.run{rs:List ResultVar}{vs:List Value}(h:gc P fr own rs vs){a:Act}{w:World}(hf:gI fr a)(hh:bj C own G w):
  (rs.mapM (ta a)).run P w= .ok vs w:=by
 induction h with
 |nil=>rfl
 | @tmp t v rs vs h k ih=>
  rw[nZ];have e:=hf _ _ h;have e2:a.tmps.getD t undef=v:=by rw[bX,e];rfl
  rw[aG (a:=v) (w':=w) (by simp only[ta,e2];exact run_pure _ _ _),aG ih];rfl
 | @agg x b k t ty cs l lo rs vs h ho ht hl h2 ih=>
  rw[nZ];have e:=hf _ _ h;have e2:a.tmps.getD x undef= .pointer (some ⟨b,0,none⟩):=by rw[bX,e];rfl
  rw[aG (a:= .agg ⟨l⟩) (w':=w) (by simp only[ta,e2,asAddr];rw[aG (run_pure _ _ _)];exact zH (hh.hown _ ho.mem).1 hl),aG ih];rfl
 | @sc x b t ty cs v lo rs vs h ho ht hl h2 ih=>
  rw[nZ];have e:=hf _ _ h;have e2:a.tmps.getD x undef= .pointer (some ⟨b,0,none⟩):=by rw[bX,e];rfl
  rw[aG (a:=v) (w':=w) (by simp only[ta,e2,asAddr];rw[aG (run_pure _ _ _)];exact CY (hh.hown _ ho.mem).1 hl),aG ih];rfl
def i4:List Value->Value
 |[v]=>v
 |vs=> .tuple ⟨vs⟩
def nv{fn:Func}{vs:List Value}{a:Act}{w:World}(hr:gc P fr own fn.results.toList vs)(hf:gI fr a)(hh:bj C own G w):(results fn a.tmps).run P w= .ok (i4 vs) w:=by
 have h0:=gc.run (C:=C) (G:=G) hr hf hh;have h1:(fn.results.mapM (ta a)).run P w= .ok (⟨vs⟩:Array Value) w:=by
  rw[<-Array.toArray_toList (xs:=fn.results),List.mapM_toArray,map_eq_pure_bind,aG h0];rfl
 have h2:results fn a.tmps=(do
   let vs<-fn.results.mapM (ta a)
   pure (if h:vs.size=1 then vs[0] else .tuple vs)):=by
  unfold results;congr 1
 rw[h2,aG h1]
 match vs with
 |[]=>rfl
 |[v]=>rfl
 |_::_::_=>rfl
def d6(C:az)(K:Value->Gh->Prop):Ending->World->Prop:=fun e w'=> ∃v G',e= .returned v/\bj C [] G' w'/\K v G'
def uR(C:az)(M:List av)(K:Value->List (List Value)->Gh->Prop):Ending->World->Prop:=fun e w'=> ∃v css G',e= .returned v/\css.length=M.length/\bj C (gG (asB M) css) G' w'/\K v css G'
def dx(C:az)(P:Program)(fn:Func)(R:Ending->World->Prop):Exit->Act->World->Prop:=fun e a w=>C.mks=[]->bodyPost P fn R e a w
def zD{fn:Func}{K:Value->Gh->Prop}{vs:List Value}(hr:gc P fr own fn.results.toList vs)(hk:K (i4 vs) G):St C n fr own G (dx C P fn (d6 C K) .ret):=
 fun a w rl hmk=>⟨rl.df.trans hmk,_,nv hr rl.fr rl.h,_,G,J,rl.h.drop (kL _),hk⟩
def vC{fn:Func}{K:Value->Gh->Prop}{vs:List Value}(hr:gc P fr own fn.results.toList vs)(hk:K (i4 vs) G):St C n fr own G (dx C P fn (d6 C K) .normal):=
 fun a w rl hmk=>⟨rl.df.trans hmk,_,nv hr rl.fr rl.h,_,G,J,rl.h.drop (kL _),hk⟩
def Ql{fn:Func}{M:List av}{css:List (List Value)}{K:Value->List (List Value)->Gh->Prop}{vs:List Value}(hr:gc P fr own fn.results.toList vs)(hl:css.length=M.length)(own2:List av)(hp:own.Perm own2)(hs:(gG (asB M) css).Sublist own2)(hk:K (i4 vs) css G):St C n fr own G (dx C P fn (uR C M K) .ret):=
 fun a w rl hmk=>⟨rl.df.trans hmk,_,nv hr rl.fr rl.h,_,css,G,J,hl,(rl.h.perm hp).drop hs,hk⟩
def kE:Nat->List Value->Fr
 |_,[]=>[]
 |i,v::t=>(i,v)::kE (i+1) t
def pG: ∀(vs:List Value) (i k:Nat) (v:Value),iF (kE i vs) k=some v-> ∃j,k=i+j/\vs[j]? =some v
 |[],i,k,v,h=>by cases h
 |u::vs,i,k,v,h=>by
  rw[kE,tE] at h;split at h
  .subst_vars;cases h;exact⟨0,J,J⟩
  .obtain⟨j,rfl,hj⟩:=pG vs (i+1) k v h
   exact⟨j+1,by omega,by simpa using hj⟩
def Fn.introR{f:FuncId}{fn:Func}{c:Code}{vs:List Value}{m:Nat}{K:Value->Gh->Prop}(hf:P.funcs[f]? =some fn)(hb:fn.body=some c)(hn:(fn.name== "runtime.NumGoroutine")=false)(hm:fn.ntmps=m)(hlen:Nat.ble vs.length m=true)
  (h: ∀C:az,C.G0=G->C.mb=[]->C.rd=none->(C.fx=fun _=>none)->St C m (kE 0 vs) [] G (c.wp P (dx C P fn (d6 C K)))):Fn P f vs G K:=by
 refine⟨⟨fn,hf,hn,by simp[hb]⟩,fun w hw=>?_⟩;have hlen':vs.length<=m:=by simpa using hlen
 have:=calls_of_wp (P:=P) (f:=f) (args:=⟨vs⟩) (w:=w) (R:=d6 ⟨w,G,[],[],[],none,fun _=>none⟩ K) hf hb (wp_mono (h ⟨w,G,[],[],[],none,fun _=>none⟩ J J J J _ w
  ⟨⟨J,J,J,aM _,fun _ _ _=>J,hw,ba.refl _,fun _ _=>J,fun o ho=>(by cases ho), .nil,aM _,fun p hp=>by cases hp⟩,by simp;omega,fun k v hk=>by
   obtain⟨j,rfl,hj⟩:=pG vs 0 k v hk;have hj':=(aT.1 hj).1;rw[fN (by simpa using hj')];simpa using hj,J⟩) fun _ _ _ k=>k J)
 exact this
def Fn.intro{f:FuncId}{fn:Func}{c:Code}{vs:List Value}{m:Nat}{K:Value->Gh->Prop}(hf:P.funcs[f]? =some fn)(hb:fn.body=some c)(hn:(fn.name== "runtime.NumGoroutine")=false)(hm:fn.ntmps=m)(hlen:Nat.ble vs.length m=true)
  (h: ∀C:az,C.G0=G->C.mb=[]->St C m (kE 0 vs) [] G (c.wp P (dx C P fn (d6 C K)))):Fn P f vs G K:=
 Fn.introR hf hb hn hm hlen fun C a b _ _=>h C a b
def qp.introR{f:FuncId}{fn:Func}{c:Code}{vs:List Value}{m:Nat}{M:List av}{K:Value->List (List Value)->Gh->Prop}(hf:P.funcs[f]? =some fn)(hb:fn.body=some c)(hn:(fn.name== "runtime.NumGoroutine")=false)(hm:fn.ntmps=m)(hlen:Nat.ble vs.length m=true)
  (h: ∀C:az,C.G0=G->C.mb=M.map (·.b)->C.rd=none->(C.fx=fun _=>none)->St C m (kE 0 vs) (asB M) G (c.wp P (dx C P fn (uR C M K)))):qp P f vs M G K:=by
 refine⟨⟨fn,hf,hn,by simp[hb]⟩,fun w hw=>?_⟩;have hlen':vs.length<=m:=by simpa using hlen
 have:=calls_of_wp (P:=P) (f:=f) (args:=⟨vs⟩) (w:=w) (R:=uR ⟨w,G,M.map (·.b),[],[],none,fun _=>none⟩ M K) hf hb (wp_mono (h ⟨w,G,M.map (·.b),[],[],none,fun _=>none⟩ J J J J _ w
  ⟨hw,by simp;omega,fun k v hk=>by
   obtain⟨j,rfl,hj⟩:=pG vs 0 k v hk;have hj':=(aT.1 hj).1;rw[fN (by simpa using hj')];simpa using hj,J⟩) fun _ _ _ k=>k J)
 exact this
def N5{Φ:Act->World->Prop}(b:Nat){cs:List Value}{ty:TypeId}(hr:ik own ⟨b,cs,ty,true⟩ own')(h: ∀G':Gh,[GE G G']->[BD G' b cs]->St C n fr own' G' Φ):St C n fr own G Φ:=
 fun a w rl=>by
  obtain⟨h1,h2⟩:=rl.h.freeze hr;exact @h _ ⟨h2⟩ ⟨by simp⟩ a w (rl.heap h1)
def XV(C:az)(n:Nat){X:Type}(F:X->Fr)(O:X->List av)(I:X->Gh->Prop)(μ:X->Nat)(m:Nat)(G:Gh)(a:Act)(w:World):Prop:=
 ∃x G',ba G G'/\I x G'/\μ x<m/\eB C n (F x) (O x) G' a w
def At(C:az)(n:Nat){X:Type}(F:X->Fr)(O:X->List av)(I:X->Gh->Prop)(G:Gh)(a:Act)(w:World):Prop:=
 ∃x G',ba G G'/\I x G'/\eB C n (F x) (O x) G' a w
end
def mv(Q:Exit->Act->World->Prop):Exit->Act->World->Prop
 | .panic _,_,_=>False
 |e,a,w=>Q e a w
def mv.imp{Q:Exit->Act->World->Prop}: ∀(e:Exit) (a:Act) (w:World),mv Q e a w->Q e a w:=fun e a w h=>by
 cases e<;>first|exact h|exact(h:False).elim
section
variable {P:Program} {ops:Array Oper} {Q:Exit->Act->World->Prop} {S:World->Prop} {fin:Nat->Bool}
def pC(P:Program)(ops:Array Oper)(Q:Exit->Act->World->Prop)(S:World->Prop)(fin:Nat->Bool):Nat->Array Bool->Act->World->Prop
 |0,listed,a,w=>Region.ready .any ops listed=[]/\Q .normal a w
 |fuel+1,listed,a,w=>
  (Region.ready .any ops listed=[]->Q .normal a w)/\
  ∀i∈Region.ready .any ops listed,wpOp P ops Q i (fun a' w'=>(fin i=true\/S w')/\pC P ops Q S fin fuel (listed.setIfInBounds i true) a' w') a w
def LL: ∀(fuel:Nat) (listed:Array Bool) (a:Act) (w:World),pC P ops Q S fin fuel listed a w->wpAny P .any ops Q fuel listed a w
 |0,_,_,_,h=>h
 |fuel+1,_,_,_,h=>⟨h.1,fun i hi=>wpOp_mono (fun a' w' h'=>LL fuel _ a' w' h'.2) (h.2 i hi)⟩
def Bx(ops:Array Oper)(fin:Nat->Bool)(i:Nat):Bool:=
 !fin i&&(List.range ops.size).all fun j=>!fin j||((ops[j]?).map fun o=>o.after.any fun e=>Region.binds .any e&&e.on==i).getD true
def Ul{i:Nat}(h:Bx ops fin i=true):fin i=false/\ ∀j oj,ops[j]? =some oj->fin j=true-> ∃e∈oj.after,Region.binds .any e=true/\e.on=i:=by
 simp only[Bx,bQ,gU] at h;refine⟨h.1,fun j oj hoj hf=>?_⟩;have hj:j<ops.size:=(cL.1 hoj).1;have h1:=dJ.1 h.2 j (by simpa using hj);rw[hf,hoj] at h1;simp only[Bool.not_true,gL,gN,Bool.false_or] at h1;obtain⟨e,he,hb⟩:=Array.any_eq_true'.1 h1;simp only[bQ,beq_iff_eq] at hb;exact⟨e,he,hb.1,hb.2⟩
def O1{i:Nat}{oi:Oper}{v:Value}(hi:ops[i]? =some oi)(hsel: ∀(j:Nat) (o:Oper) cs b,ops[j]? =some o->o.op≠ .select cs b)
  (hQ: ∀c a w,Q (.panic c) (a.put oi.dst v) w->Q (.panic c) a w)(hfi:fin i=false)
  (hfin: ∀j oj,ops[j]? =some oj->fin j=true-> ∃e∈oj.after,Region.binds .any e=true/\e.on=i):
  ∀(fuel:Nat) (listed:Array Bool) (a:Act) (w:World),
   (∀j oj,ops[j]? =some oj->j≠i->listed.getD j true=false->(∀e∈oj.after,Region.binds .any e=true->e.on≠i)->oi.apart ops oj=true)->
   i∈Region.ready .any ops listed->YieldsIf P ops S oi v a->S w->
   pC P ops Q S fin fuel (listed.setIfInBounds i true) (a.put oi.dst v) w->pC P ops Q S fin (fuel+1) listed a w:=by
 intro fuel
 induction fuel with
 |zero=>
  intro listed a w _ hr hy hS H;refine⟨fun h=>(by rw[h] at hr;cases hr),fun j hj=>?_⟩;by_cases hji:j=i
  .subst hji;exact hy.wpOp hi hS ⟨.inr hS,H⟩
  .have:=ready_mono hj hji
   rw[H.1] at this
   cases this
 |succ fuel ih=>
  intro listed a w hfree hr hy hS H;refine⟨fun h=>(by rw[h] at hr;cases hr),fun j hj=>?_⟩;by_cases hji:j=i
  .subst hji;exact hy.wpOp hi hS ⟨.inr hS,H⟩
  .have h1:=H.2 j (ready_mono hj hji)
   obtain⟨hjun,oj,hoj,hall⟩:=mem_ready.1 hj;have hnot: ∀e∈oj.after,Region.binds .any e=true->e.on≠i:=fun e he hb heq=>by
    have h1:=hall e he hb;have h0:=(mem_ready.1 hr).1;rw[heq] at h1;rcases dR i listed.size with h'|h'
    .simp[h'] at h0 h1;rw[h0] at h1;cases h1
    .simp[kV h'] at h1
   have hnf:fin j=false:=by
    cases hf:fin j with
    |false=>rfl
    |true=>obtain⟨e,he,hb,heq⟩:=hfin j oj hoj hf;exact absurd heq (hnot e he hb)
   have h2:=wpOp_putIf hoj (hfree j oj hoj hji hjun hnot) (fun cs b=>hsel i oi cs b hi) (fun cs b=>hsel j oj cs b hoj) hQ hy h1;have hfree': ∀k ok,ops[k]? =some ok->k≠i->(listed.setIfInBounds j true).getD k true=false->
     (∀e∈ok.after,Region.binds .any e=true->e.on≠i)->oi.apart ops ok=true:=fun k ok hk hki hun hno=>by
    refine hfree k ok hk hki ?_ hno;by_cases hjk:j=k
    .subst hjk;exact hjun
    .rw[getD_set_ne true hjk] at hun;exact hun
   refine wpOp_mono (fun a' w' h3=>?_) h2;have hS':S w':=h3.2.1.resolve_left (by rw[hnf];simp);refine⟨.inr hS',ih (listed.setIfInBounds j true) a' w' hfree' (ready_mono hr (Ne.symm hji)) h3.1 hS' ?_⟩;rw[Array.setIfInBounds_comm _ _ hji];exact h3.2.2
def Pd{i:Nat}{fuel:Nat}{listed:Array Bool}{a:Act}{w:World}(hr:Region.ready .any ops listed=[i])
  (h:wpOp P ops Q i (fun a' w'=>(fin i=true\/S w')/\pC P ops Q S fin fuel (listed.setIfInBounds i true) a' w') a w):pC P ops Q S fin (fuel+1) listed a w:=
 ⟨fun h0=>absurd (hr.symm.trans h0) (by simp),fun j hj=>by rw[hr,aL] at hj;subst hj;exact h⟩
def sE(ops:Array Oper)(fin:Nat->Bool)(listed:Array Bool)(i:Nat):Bool:=
 Region.noSelect ops&&Region.free .any ops listed i&&(Region.ready .any ops listed).contains i&&Bx ops fin i
end
class my (l m:List av):Prop where s:l.Sublist m
instance my.refl (l:List av):my l l:=⟨List.Sublist.refl l⟩
instance my.cons (l m:List av) (o:av) [h:my l m]:my l (o::m):=⟨h.s.cons o⟩
def HS(C:az)(own:List av)(G:Gh):World->Prop:=fun w=> ∃G',ba G G'/\bj C own G' w
section
variable {P:Program} {C:az} {n:Nat} {fr:Fr} {own own0:List av} {G G0:Gh} {ops:Array Oper} {Q:Exit->Act->World->Prop} {fin:Nat->Bool}
def U8{id:Nat}(fin:Nat->Bool)(hm:P.follows .mixedOrders=true)
  (h:St C n fr own G (pC P ops (mv Q) (HS C own G) fin ops.size (Array.replicate ops.size false))):St C n fr own G ((Code.region id ops true).wp P Q):=by
 intro a w rl;exact wp_mono (wp_region_any hm (LL _ _ _ _ (h a _ (rl.heap rl.h.drew)))) mv.imp
end
end Go.Sx
end
