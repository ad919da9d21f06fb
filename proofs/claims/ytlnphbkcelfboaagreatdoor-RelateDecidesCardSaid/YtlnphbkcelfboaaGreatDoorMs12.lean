/-
  Package geo: LinesOf, Canon; package reduce: Restrict. Reference: the arithmetic of fractions in plain Lean. Reference: integers and fractions of any size. Reference: fractions of any size. The program's rational numbers: sums, products, comparisons. Package cells: All. Trees, nodes and lines as deep values; bridges to what was shown before. Reference: whole numbers as fractions, lines reversed, rows of lines; what is the same. Reference: points and lines of any size; spans. Reference: directions by angle; spans; the edge of a side. Reference: the edge of a side of a cell.
-/
import Derived.Test.YtlnphbkcelfboaaGreatDoorMs11
set_option linter.unusedSimpArgs false
set_option linter.unusedVariables false
section
set_option maxRecDepth 100000
namespace Go.Sx
open Go Go.Proofs
structure LI where
 a:IV
 b:IV
 c:IV
def LI.val(z:LI):Value:= .agg ⟨[.bool z.a.neg, .slice z.a.a.a z.a.a.n z.a.a.c, .bool z.b.neg, .slice z.b.a.a z.b.a.n z.b.a.c, .bool z.c.neg, .slice z.c.a.a z.c.a.n z.c.a.c]⟩
structure IsLI (k:Nat) (G:Gh) (z:LI) (l:LnQ):Prop where
 a:IsI k G z.a l.a
 b:IsI k G z.b l.b
 c:IsI k G z.c l.c
structure IsLIs (k:Nat) (G:Gh) (x:SV) (ls:List LnQ):Prop where
 ex: ∃zs:List LI,IsSl G 6 x (zs.map LI.val)∧All2 (IsLI k G) zs ls
structure IsLns (k:Nat) (G:Gh) (x:SV) (ls:List LnQ):Prop where
 ex: ∃zs:List LV,IsSl G 9 x (zs.map LV.v)∧All2 (IsL k G) zs ls
end Go.Sx
end

section
set_option maxRecDepth 100000
namespace Go.Sx
open Go Go.Proofs
theorem eI_eq{a b:Int}(h:a=b):eI a=eI b:=by rw[h]
theorem eQ_int(z:Int):eQ (z:Rat)= .ag [.v (.bool (decide (z<0))),dN z.natAbs, .sl []]:=by unfold eQ;rw[Rat.num_intCast,Rat.den_intCast];rfl
theorem rat_of_den{a:Rat}(h:a.den=1):((a.num:Int):Rat)=a:=Rat.ext (Rat.num_intCast _) (by rw[Rat.den_intCast,h])
theorem plus_int{a b:Rat}(ha:a.den=1)(hb:b.den=1):a+b=((a.num+b.num:Int):Rat):=by
 rw[Rat.intCast_add,rat_of_den ha,rat_of_den hb]
theorem times_int{a b:Rat}(ha:a.den=1)(hb:b.den=1):a*b=((a.num*b.num:Int):Rat):=by
 rw[Rat.intCast_mul,rat_of_den ha,rat_of_den hb]
theorem dD_len(n:Nat)(h:0<n):(if n=1 then [] else(dg n).map dU).length=0↔n=1:=by
 by_cases q:n=1
 ·simp[q]
 ·rw[if_neg q,List.length_map,dg_len_zero];omega
theorem dD_of{n:Nat}(h:n≠1):dD n=dN n:=by unfold dD;rw[if_neg h];rfl
theorem cmpN_one{g:Nat}:(cmpN g 1=0)↔g=1:=by
 unfold cmpN
 constructor
 ·intro h;split at h
  ·exact absurd h (by decide)
  ·split at h
   ·assumption
   ·exact absurd h (by decide)
 ·rintro rfl;rfl
theorem mk_num{x:Int}{d:Nat}(hd:0<d):zv (decide (x<0)) (x.natAbs/Nat.gcd x.natAbs d)=(mkRat x d).num:=by
 rw[Rat.num_mkRat,if_neg (by omega),Nat.gcd_comm]
 have hg:0<Nat.gcd d x.natAbs:=Nat.gcd_pos_of_pos_left _ hd
 obtain⟨c,hc⟩:Nat.gcd d x.natAbs∣x.natAbs:=Nat.gcd_dvd_right _ _
 generalize Nat.gcd d x.natAbs=g at*
 rw[hc,Nat.mul_div_cancel_left _ hg]
 unfold zv
 by_cases q:x<0
 ·rw[if_pos (by simpa using q),show x=(g:Int)*(-(c:Int)) by rw[Int.mul_neg,←Int.natCast_mul];omega,Int.mul_ediv_cancel_left _ (by omega)]
 ·rw[if_neg (by simpa using q),show x=(g:Int)*(c:Int) by rw[←Int.natCast_mul];omega,Int.mul_ediv_cancel_left _ (by omega)]
theorem mk_den{x:Int}{d:Nat}(hd:0<d):d/Nat.gcd x.natAbs d=(mkRat x d).den:=by
 rw[Rat.den_mkRat,if_neg (by omega),Nat.gcd_comm]
theorem mk_one{x:Int}{d:Nat}(hd:0<d)(h:Nat.gcd x.natAbs d=1):(mkRat x d).num=x∧(mkRat x d).den=d:=by
 rw[←mk_num hd,←mk_den hd,h,Nat.div_one,Nat.div_one]
 exact⟨zv_eta x,rfl⟩
end Go.Sx
end

section
set_option maxRecDepth 100000
namespace Go.Sx
open Go Go.Proofs
instance BI.zv (neg:Bool) (m i:Nat) [h:BN m i]:BI (zv neg m) i:=⟨by rw[zv_abs];exact h.h⟩
section
variable {GB:Gh} {C:Ctx} {n:Nat} {Q0:Exit→Act→World→Prop} {fr fr':FrX} {own own':OwX} {cf cf':Cf} {vc:List Prop}
def cvwA(fr:FrX)(cf:Cf):Option Int:=match opC fr cf with
 |some ⟨_, .convert t t' x,_,_,_,_⟩=>match lookT tt t,lookT tt t' with
  |some ⟨.int .i64,_,_,_⟩,some ⟨.int .u64,_,_,_⟩=>match evX (lkC fr cf) x with
   |some (.d (.v (.int .i64 p)))=>some p
   |_=>none
  |_,_=>none
 |_=>none
theorem cvw[fu:Fu]{p:Int}(q:Int)(h:cvwA fr cf=some p)(e:p%18446744073709551616=q)(hgo:goA tt n fu.n fr own cf (.d (.v (.int .u64 q))) [] []=⟨vc,fr',own',cf'⟩)(k:CfS Tryz.prog GB C n Q0 fr' own' cf')
  (hv:allP vc:=by first|exact trivial|(simp only[allP];omega)):CfS Tryz.prog GB C n Q0 fr own cf:=by
 unfold cvwA at h
 split at h<;>try (cases h;done)
 rename_i hh
 split at h<;>try (cases h;done)
 rename_i hT hT'
 split at h<;>cases h
 rename_i hx
 have:=ti_int (tt_ok _ _ hT) rfl
 have:=ti_int (tt_ok _ _ hT') rfl
 refine us hh (.x1 hx fun ρ G ov a w y _ r h1 h2=>?_) hgo hv k
 rw[isX_int] at h2;subst h2
 refine⟨_,isX_int.2 rfl,?_⟩
 rw[←e,←wrap_u64]
 exact yd_conv h1
def ngwA(fr:FrX)(cf:Cf):Option Int:=match opC fr cf with
 |some ⟨_, .unOp .neg _ x,_,_,_,_⟩=>match evX (lkC fr cf) x with
  |some (.d (.v (.int .u64 p)))=>some p
  |_=>none
 |_=>none
theorem ngw[fu:Fu]{p:Int}(q:Int)(h:ngwA fr cf=some p)(e:(0-p)%18446744073709551616=q)(hgo:goA tt n fu.n fr own cf (.d (.v (.int .u64 q))) [] []=⟨vc,fr',own',cf'⟩)(k:CfS Tryz.prog GB C n Q0 fr' own' cf')
  (hv:allP vc:=by first|exact trivial|(simp only[allP];omega)):CfS Tryz.prog GB C n Q0 fr own cf:=by
 unfold ngwA at h
 split at h<;>try (cases h;done)
 rename_i hh
 split at h<;>cases h
 rename_i hx
 refine us hh (.x1 hx fun ρ G ov a w y _ r h1 h2=>?_) hgo hv k
 rw[isX_int] at h2;subst h2
 refine⟨_,isX_int.2 rfl,?_⟩
 rw[←e,←wrap_u64]
 exact yd_neg h1
end
theorem q_Int{GB:Gh}{n:Int}(h0: -4611686018427387904≤n)(h1:n≤4611686018427387904):PF GB Tryz.prog 124 [.v (.int .i64 n)] (eI n):=by
 refine fn Tryz.func124 J J Tryz.ntmps124 J J (fun C=>?_)
 refine br (fu1:=⟨3⟩) (fu2:=⟨6⟩) J J J (fun hc4=>?_) (fun hc4=>?_)
 ·
  refine cvw (fu:=⟨0⟩) (18446744073709551616+n) rfl (by omega) rfl<|ngw (n.natAbs:Nat) rfl (by omega) rfl<|cl rfl (q_Word (u:=n.natAbs) (by omega)) rfl<|?_
  refine cl rfl q_Make rfl<|?_
  exact rz rfl (eI_eq (by unfold zv;rw[if_pos rfl];omega))
 ·
  refine eqF 11 (.d (.v (.int .u64 (n.natAbs:Nat)))) rfl (by show FX.d (.v (.int _ _))= .d (.v (.int _ _));congr 3;omega) ?_
  refine gx rfl<|cl rfl (q_Word (u:=n.natAbs) (by omega)) rfl<|cl rfl q_Make rfl<|?_
  exact rz rfl (eI_eq (by unfold zv;rw[if_neg (by decide)];omega))
theorem q_Sign{GB:Gh}{z:Int}:PF GB Tryz.prog 128 [eI z] (vI z.sign):=by
 have hl:=mapU_len (dg z.natAbs)
 have hz:= @dg_len_zero z.natAbs
 refine fn Tryz.func128 J J Tryz.ntmps128 J J (fun C=>?_)
 refine br J J J (fun hc6=>?_) (fun hc6=>?_)
 ·
  exact rz rfl (by show DV.v (.int _ 0)=DV.v (.int _ _);rw[show z=0 by omega];rfl)
 ·
  refine bd J J J (fun hc8=>?_) (fun hc8=>?_)
  ·
   exact rz rfl (by show DV.v (.int _ (-1))=DV.v (.int _ _);rw[Int.sign_eq_neg_one_of_neg (by omega)])
  ·
   exact rz rfl (by show DV.v (.int _ 1)=DV.v (.int _ _);rw[Int.sign_eq_one_of_pos (by omega)])
theorem q_Minus{GB:Gh}{z:Int}:PF GB Tryz.prog 141 [eI z] (eI (-z)):=by
 refine fn Tryz.func141 J J Tryz.ntmps141 J J (fun C=>?_)
 refine cl rfl q_Make rfl<|?_
 exact rz rfl (eI_eq (zv_opp z))
theorem add_same{a b:Int}(h:decide (a<0)=decide (b<0)):zv (decide (a<0)) (a.natAbs+b.natAbs)=a+b:=by
 unfold zv
 have h':a<0↔b<0:=by simpa using h
 by_cases q:a<0
 ·have:=h'.1 q
  simp[q];omega
 ·have: ¬b<0:=fun w=>q (h'.2 w)
  simp[q];omega
theorem add_lt'{a b:Int}(h: ¬decide (a<0)=decide (b<0))(k:a.natAbs<b.natAbs):zv (decide (b<0)) (b.natAbs-a.natAbs)=a+b:=by
 unfold zv
 have h': ¬(a<0↔b<0):=by simpa using h
 by_cases q:b<0
 ·have: ¬a<0:=fun w=>h' ⟨fun _=>q,fun _=>w⟩
  simp[q];omega
 ·have:a<0:=Int.not_le.1 fun w=>h' ⟨fun e=>by omega,fun e=>absurd e q⟩
  simp[q];omega
theorem add_ge'{a b:Int}(h: ¬decide (a<0)=decide (b<0))(k:b.natAbs≤a.natAbs):zv (decide (a<0)) (a.natAbs-b.natAbs)=a+b:=by
 unfold zv
 have h': ¬(a<0↔b<0):=by simpa using h
 by_cases q:a<0
 ·have: ¬b<0:=fun w=>h' ⟨fun _=>w,fun _=>q⟩
  simp[q];omega
 ·have:b<0:=Int.not_le.1 fun w=>h' ⟨fun e=>absurd e q,fun e=>by omega⟩
  simp[q];omega
set_option maxHeartbeats 1000000 in
theorem q_Add{GB:Gh}{a b:Int}{i j:Nat}[ha:BI a i][hb:BI b j](hi:i≤400000000:=by decide)(hj:j≤400000000:=by decide):PF GB Tryz.prog 182 [eI a,eI b] (eI (a+b)):=by
 have hba:=dg_len_le ha.h
 have hbb:=dg_len_le hb.h
 refine fn (fu:=⟨15⟩) Tryz.func182 J J Tryz.ntmps182 J J (fun C=>?_)
 refine eqF 9 (.d (.v (.bool (decide (decide (a<0)=decide (b<0)))))) rfl (by congr 2) ?_
 refine gx rfl<|?_
 refine bd J J J (fun hc9=>?_) (fun hc9=>?_)
 ·
  refine cl rfl (q_Sum (by omega) (by omega)) rfl<|cl rfl q_Make rfl<|?_
  exact rz rfl (eI_eq (add_same hc9))
 ·
  refine cl rfl (q_Cmp (by omega) (by omega)) rfl<|?_
  refine br J J J (fun hc23=>?_) (fun hc23=>?_)
  ·
   refine cl rfl (q_Less (by have:=cmpN_neg.1 hc23;omega) (by omega)) rfl<|cl rfl q_Make rfl<|?_
   exact rz rfl (eI_eq (add_lt' hc9 (cmpN_neg.1 hc23)))
  ·
   refine cl rfl (q_Less (Nat.le_of_not_lt fun q=>hc23 (cmpN_neg.2 q)) (by omega)) rfl<|cl rfl q_Make rfl<|?_
   exact rz rfl (eI_eq (add_ge' hc9 (Nat.le_of_not_lt fun q=>hc23 (cmpN_neg.2 q))))
set_option maxHeartbeats 1000000 in
theorem q_Mul{GB:Gh}{a b:Int}{i j:Nat}[ha:BI a i][hb:BI b j](hi:i≤400000000:=by decide)(hj:j≤400000000:=by decide):PF GB Tryz.prog 183 [eI a,eI b] (eI (a*b)):=by
 refine fn Tryz.func183 J J Tryz.ntmps183 J J (fun C=>?_)
 refine cl rfl (q_Product (by omega) (by omega)) rfl<|cl rfl q_Make rfl<|?_
 exact rz rfl (eI_eq (zv_mulI a b))
theorem q_CompareI{GB:Gh}{a b:Int}{i j:Nat}[ha:BI a i][hb:BI b j](hi:i≤400000000:=by decide)(hj:j≤400000000:=by decide):PF GB Tryz.prog 193 [eI a,eI b] (vI (a-b).sign):=by
 refine fn Tryz.func193 J J Tryz.ntmps193 J J (fun C=>?_)
 refine cl rfl q_Minus rfl<|cl rfl (q_Add (by omega) (by omega)) rfl<|cl rfl q_Sign rfl<|?_
 exact rz rfl (by rw[Int.sub_eq_add_neg];rfl)
theorem q_Den{GB:Gh}{q:Rat}:PF GB Tryz.prog 121 [eQ q] (dN q.den):=by
 refine fn Tryz.func121 J J Tryz.ntmps121 J J (fun C=>?_)
 refine br J J J (fun hc6=>?_) (fun hc6=>?_)
 ·
  refine cl rfl q_One rfl<|?_
  exact rz rfl (by rw[(dD_len q.den (den_pos' q)).1 (by omega)];rfl)
 ·
  exact rz rfl (by exact dD_of (fun e=>hc6 (by exact congrArg Int.ofNat ((dD_len q.den (den_pos' q)).2 e))))
theorem dg_len_small{n k:Nat}[h:BN n k](hk:k≤500000000):(dg n).length≤100000000:=by have:=dg_len_le h.h;omega
set_option maxHeartbeats 1000000 in
theorem q_Frac{GB:Gh}{x:Int}{d i j:Nat}[hx:BI x i][hd:BN d j](hd0:0<d)(hi:i≤200000000:=by decide)(hj:j≤200000000:=by decide):PF GB Tryz.prog 169 [eI x,dN d] (eQ (mkRat x d)):=by
 obtain⟨q,hq⟩: ∃q,q=mkRat x d:=⟨_,rfl⟩
 obtain⟨g,hg⟩: ∃g,g=Nat.gcd x.natAbs d:=⟨_,rfl⟩
 have hg0:0<g:=hg▸Nat.gcd_pos_of_pos_right _ hd0
 haveI hgB:BN g (i+j):=hg▸inferInstance
 have hg1:(dg g).length≤100000000:=dg_len_small (k:=i+j) (by omega)
 have ho1:(dg 1).length≤100000000:=by rw[dg_one];decide
 haveI hqB:BQ q (i+j):=hq▸mkRat_bd hd0 (Nat.lt_of_lt_of_le hx.h (Nat.pow_le_pow_right (by decide) (by omega))) (Nat.lt_of_lt_of_le hd.h (Nat.pow_le_pow_right (by decide) (by omega)))
 refine fn Tryz.func169 J J Tryz.ntmps169 J J (fun C=>?_)
 refine cl (fu:=⟨0⟩) rfl (q_Common (by omega) (by omega)) rfl<|?_
 refine eqF 11 (.d (dN g)) rfl (by rw[hg]) ?_
 refine gx (fu:=⟨4⟩) rfl<|?_
 refine mg (fu:=⟨1⟩) (X:=Unit) (fun _=>[(1, .d (dN q.den)),(2, .ov 2 0),(4, .ov 4 0)]) (fun _=>[(4,some (.o 84 [.ff, .nl, .nl] true)),(2,some (.o 44 [.d (.v (.bool (decide (q.num<0)))), .d (dN q.num.natAbs)] true))]) (fun _=>True) [1,2,4] [4,2] rfl ?_ (fun _=>rfl) (fun _ hm=>?_)
 ·
  refine gx rfl<|cl rfl q_One rfl<|cl rfl (q_Cmp hg1 ho1) rfl<|?_
  refine br J J J (fun hc15=>?_) (fun hc15=>?_)
  ·
   refine cl rfl (q_Divide hg0 (by omega) (by omega)) rfl<|cl (fu:=⟨0⟩) rfl q_Make rfl<|?_
   refine eqF 26 (.d (eI q.num)) rfl (by show FX.d (eI (zv _ _))=_;rw[hg,mk_num hd0,hq]) ?_
   refine gx rfl<|cl (fu:=⟨2⟩) rfl (q_Divide hg0 (by omega) (by omega)) rfl<|?_
   refine eqF 31 (.d (dN q.den)) rfl (by rw[hg,mk_den hd0,hq]) ?_
   refine gx rfl<|?_
   exact at_ () trivial
  ·
   have hm:=mk_one (x:=x) hd0 (by rw[←hg];exact cmpN_one.1 (Decidable.not_not.1 hc15))
   rw[←hq] at hm
   refine eqF 1 (.d (dN q.den)) rfl (by rw[hm.2]) ?_
   exact at_ () trivial (hO:=⟨rfl,by rw[hm.1];rfl,trivial⟩)
 ·
  refine mg (X:=Unit) (fun _=>[(1, .d (dD q.den)),(2, .ov 2 0),(4, .ov 4 0)]) (fun _=>[(4,some (.o 84 [.ff, .nl, .nl] true)),(2,some (.o 44 [.d (.v (.bool (decide (q.num<0)))), .d (dN q.num.natAbs)] true))]) (fun _=>True) [1,2,4] [4,2] rfl ?_ (fun _=>rfl) (fun _ hm=>?_)
  ·
   refine gx rfl<|cl rfl q_One rfl<|cl rfl (q_Cmp (dg_len_small (k:=i+j) (by omega)) ho1) rfl<|?_
   refine br J J J (fun hc36=>?_) (fun hc36=>?_)
   ·
    refine nlD 1 rfl ?_
    refine eqF 1 (.d (dD q.den)) rfl (by rw[cmpN_one.1 hc36];rfl) ?_
    exact at_ () trivial
   ·
    refine eqF 1 (.d (dD q.den)) rfl (by rw[dD_of (fun e=>hc36 (cmpN_one.2 e))]) ?_
    exact at_ () trivial
  ·
   exact rz rfl (by rw[←hq];rfl)
end Go.Sx
end

section
set_option maxRecDepth 100000
namespace Go.Sx
open Go Go.Proofs
theorem mkRat_self'(a:Rat):mkRat a.num a.den=a:=by simp[Rat.mkRat_self]
theorem over_mk{a b:Rat}(h:b≠0):a/b=mkRat (a.num*zv (decide (b.num<0)) b.den) (a.den*b.num.natAbs):=by
 rw[Rat.mkRat_eq_div]
 have ha:(a.num:Rat)/(a.den:Rat)=a:=by rw[←Rat.mkRat_eq_div,mkRat_self']
 have hb:(b.num:Rat)/(b.den:Rat)=b:=by rw[←Rat.mkRat_eq_div,mkRat_self']
 have h1:(a.den:Rat)≠0:=by have:=a.den_nz;exact_mod_cast this
 have h2:(b.den:Rat)≠0:=by have:=b.den_nz;exact_mod_cast this
 have h3:(b.num:Rat)≠0:=by
  intro e
  rw[e] at hb
  apply h;rw[←hb];grind
 rw[Rat.intCast_mul,Rat.natCast_mul]
 by_cases q:b.num<0
 ·have e1:((zv (decide (b.num<0)) b.den:Int):Rat)= -(b.den:Rat):=by
   unfold zv;rw[if_pos (by simpa using q),Rat.intCast_neg];rfl
  have e2:((b.num.natAbs:Nat):Rat)= -(b.num:Rat):=by
   have:((b.num.natAbs:Nat):Int)= -b.num:=by omega
   rw[←Rat.intCast_neg,←this];rfl
  rw[e1,e2]
  generalize (a.num:Rat)=an at*
  generalize (a.den:Rat)=ad at*
  generalize (b.num:Rat)=bn at*
  generalize (b.den:Rat)=bd at*
  subst ha hb
  grind
 ·have e1:((zv (decide (b.num<0)) b.den:Int):Rat)=(b.den:Rat):=by
   unfold zv;rw[if_neg (by simpa using q)];rfl
  have e2:((b.num.natAbs:Nat):Rat)=(b.num:Rat):=by
   have:((b.num.natAbs:Nat):Int)=b.num:=by omega
   rw[←this];rfl
  rw[e1,e2]
  generalize (a.num:Rat)=an at*
  generalize (a.den:Rat)=ad at*
  generalize (b.num:Rat)=bn at*
  generalize (b.den:Rat)=bd at*
  subst ha hb
  grind
theorem le_of_frac{q:Rat}{n:Int}{d:Nat}(hd:0<d)(h:q*(d:Rat)=(n:Rat)):q.num.natAbs≤n.natAbs∧q.den≤d:=by
 have e:q=mkRat n d:=by
  rw[Rat.mkRat_eq_div]
  have:(d:Rat)≠0:=by exact_mod_cast (by omega:d≠0)
  rw[←h];grind
 rw[e,Rat.num_mkRat,Rat.den_mkRat,if_neg (by omega),if_neg (by omega)]
 exact⟨Int.natAbs_ediv_le_natAbs n (d.gcd n.natAbs:Nat),Nat.div_le_self ..⟩
theorem BQ.of_frac{q:Rat}{n:Int}{d i:Nat}(hd:0<d)(h:q*(d:Rat)=(n:Rat))(hn:n.natAbs<2^i)(hdi:d<2^i):BQ q i:=by
 have:=le_of_frac hd h
 exact⟨by omega,by omega⟩
theorem num_pos_of{b:Rat}(h:b≠0):0<b.num.natAbs:=by
 have:b.num≠0:=fun e=>h (Rat.num_eq_zero.1 e)
 omega
instance BQ.over (a b:Rat) (i j:Nat) [ha:BQ a i] [hb:BQ b j]:BQ (a/b) (i+j):=by
 by_cases h:b=0
 ·subst h
  rw[Rat.div_def,Rat.inv_zero,Rat.mul_zero]
  have h2:=ha.hd
  have h3:0<a.den:=den_pos' a
  have h4:2^i*1≤2^i*2^j:=Nat.mul_le_mul_left _ (Nat.pow_pos (by decide))
  rw[←Nat.pow_add] at h4
  exact⟨by show 0<_;omega,by show 1<_;omega⟩
 ·rw[over_mk h]
  have hb0:=num_pos_of h
  refine mkRat_bd (Nat.mul_pos (den_pos' a) hb0) ?_ (mul_lt_pow ha.hd hb.hn)
  rw[Int.natAbs_mul,zv_abs]
  exact mul_lt_pow ha.hn hb.hd
theorem q_Of{GB:Gh}{n:Int}(h0: -4611686018427387904≤n)(h1:n≤4611686018427387904):PF GB Tryz.prog 65 [.v (.int .i64 n)] (eQ (n:Rat)):=by
 refine fn Tryz.func65 J J Tryz.ntmps65 J J (fun C=>?_)
 refine cl rfl (q_Int (by omega) (by omega)) rfl<|?_
 exact rz rfl (by rw[eQ_int];rfl)
theorem q_S{GB:Gh}{q:Rat}:PF GB Tryz.prog 165 [eQ q] (vI q.num.sign):=by
 refine fn Tryz.func165 J J Tryz.ntmps165 J J (fun C=>?_)
 refine cl rfl q_Sign rfl<|?_
 exact rz J J
theorem q_Opp{GB:Gh}{q:Rat}:PF GB Tryz.prog 117 [eQ q] (eQ (-q)):=by
 refine fn Tryz.func117 J J Tryz.ntmps117 J J (fun C=>?_)
 refine cl rfl q_Minus rfl<|?_
 exact rz rfl (by unfold eQ;rw[Rat.neg_num,Rat.neg_den];rfl)
set_option maxHeartbeats 1000000 in
theorem q_Times{GB:Gh}{a b:Rat}{i j:Nat}[ha:BQ a i][hb:BQ b j](hi:i≤20000000:=by decide)(hj:j≤20000000:=by decide):PF GB Tryz.prog 119 [eQ a,eQ b] (eQ (a*b)):=by
 have had:=den_pos' a
 have hbd:=den_pos' b
 have hdp:=Nat.mul_pos had hbd
 have e1:=dD_len a.den had
 have e2:=dD_len b.den hbd
 refine fn Tryz.func119 J J Tryz.ntmps119 J J (fun C=>?_)
 refine cs 9 J J J (fun hg9=>?_) (fun hg9=>?_)
 ·
  refine br J J J (fun hc14=>?_) (fun hc14=>?_)
  ·
   refine cl rfl (q_Mul (a:=a.num) (b:=b.num) (by omega) (by omega)) rfl<|?_
   exact rz rfl (by rw[times_int (e1.1 (by omega)) (e2.1 (by omega)),eQ_int];rfl)
  ·
   refine cl rfl (q_Mul (a:=a.num) (b:=b.num) (by omega) (by omega)) rfl<|cl rfl q_Den rfl<|cl rfl q_Den rfl<|cl rfl (q_Product (by omega) (by omega)) rfl<|?_
   refine cl rfl (q_Frac hdp (by omega) (by omega)) rfl<|?_
   exact rz rfl (by rw[rat_mul_mk];rfl)
 ·
  refine cl rfl (q_Mul (a:=a.num) (b:=b.num) (by omega) (by omega)) rfl<|cl rfl q_Den rfl<|cl rfl q_Den rfl<|cl rfl (q_Product (by omega) (by omega)) rfl<|?_
  refine cl rfl (q_Frac hdp (by omega) (by omega)) rfl<|?_
  exact rz rfl (by rw[rat_mul_mk];rfl)
set_option maxHeartbeats 1000000 in
theorem q_Plus{GB:Gh}{a b:Rat}{i j:Nat}[ha:BQ a i][hb:BQ b j](hi:i≤20000000:=by decide)(hj:j≤20000000:=by decide):PF GB Tryz.prog 118 [eQ a,eQ b] (eQ (a+b)):=by
 have had:=den_pos' a
 have hbd:=den_pos' b
 have hdp:=Nat.mul_pos had hbd
 have e1:=dD_len a.den had
 have e2:=dD_len b.den hbd
 refine fn Tryz.func118 J J Tryz.ntmps118 J J (fun C=>?_)
 refine cs 9 J J J (fun hg9=>?_) (fun hg9=>?_)
 ·
  refine br J J J (fun hc14=>?_) (fun hc14=>?_)
  ·
   refine cl rfl (q_Add (by omega) (by omega)) rfl<|?_
   exact rz rfl (by rw[plus_int (e1.1 (by omega)) (e2.1 (by omega)),eQ_int];rfl)
  ·
   refine cl rfl q_Den rfl<|cl rfl q_Make rfl<|cl rfl (q_Mul (a:=a.num) (b:=zv false b.den) (by omega) (by omega)) rfl<|cl rfl q_Den rfl<|cl rfl q_Make rfl<|?_
   refine cl rfl (q_Mul (a:=b.num) (b:=zv false a.den) (by omega) (by omega)) rfl<|cl rfl (q_Add (by omega) (by omega)) rfl<|cl rfl q_Den rfl<|?_
   refine cl rfl q_Den rfl<|cl rfl (q_Product (by omega) (by omega)) rfl<|cl rfl (q_Frac hdp (by omega) (by omega)) rfl<|?_
   exact rz rfl (by rw[rat_add_mk];rfl)
 ·
  refine cl rfl q_Den rfl<|cl rfl q_Make rfl<|cl rfl (q_Mul (a:=a.num) (b:=zv false b.den) (by omega) (by omega)) rfl<|cl rfl q_Den rfl<|?_
  refine cl rfl q_Make rfl<|cl rfl (q_Mul (a:=b.num) (b:=zv false a.den) (by omega) (by omega)) rfl<|cl rfl (q_Add (by omega) (by omega)) rfl<|?_
  refine cl rfl q_Den rfl<|cl rfl q_Den rfl<|cl rfl (q_Product (by omega) (by omega)) rfl<|cl rfl (q_Frac hdp (by omega) (by omega)) rfl<|?_
  exact rz rfl (by rw[rat_add_mk];rfl)
theorem q_Sub{GB:Gh}{a b:Rat}{i j:Nat}[ha:BQ a i][hb:BQ b j](hi:i≤20000000:=by decide)(hj:j≤20000000:=by decide):PF GB Tryz.prog 191 [eQ a,eQ b] (eQ (a-b)):=by
 refine fn Tryz.func191 J J Tryz.ntmps191 J J (fun C=>?_)
 refine cl rfl (q_Opp (q:=b)) rfl<|cl rfl (q_Plus (a:=a) (b:= -b) hi hj) rfl<|?_
 exact rz rfl (by rw[Rat.sub_eq_add_neg];rfl)
set_option maxHeartbeats 1000000 in
theorem q_Over{GB:Gh}{a b:Rat}{i j:Nat}[ha:BQ a i][hb:BQ b j](hb0:b≠0)(hi:i≤20000000:=by decide)(hj:j≤20000000:=by decide):PF GB Tryz.prog 133 [eQ a,eQ b] (eQ (a/b)):=by
 have hbp:=num_pos_of hb0
 have hdp:=Nat.mul_pos (den_pos' a) hbp
 refine fn Tryz.func133 J J Tryz.ntmps133 J J (fun C=>?_)
 refine cl rfl q_Den rfl<|cl rfl q_Make rfl<|cl rfl (q_Mul (a:=a.num) (b:=zv (decide (b.num<0)) b.den) (by omega) (by omega)) rfl<|cl rfl q_Den rfl<|?_
 refine cl rfl (q_Product (a:=a.den) (b:=b.num.natAbs) (by omega) (by omega)) rfl<|cl rfl (q_Frac (x:=a.num*zv (decide (b.num<0)) b.den) (d:=a.den*b.num.natAbs) hdp (by omega) (by omega)) rfl<|?_
 exact rz rfl (by rw[over_mk hb0];rfl)
theorem q_C{GB:Gh}{a b:Rat}{i j:Nat}[ha:BQ a i][hb:BQ b j](hi:i≤20000000:=by decide)(hj:j≤20000000:=by decide):PF GB Tryz.prog 189 [eQ a,eQ b] (vI (rcmp a b)):=by
 refine fn Tryz.func189 J J Tryz.ntmps189 J J (fun C=>?_)
 refine cl rfl (q_Sub hi hj) rfl<|cl rfl q_S rfl<|?_
 exact rz rfl (by show vI _=vI _;rw[sign_sub])
theorem two_ne:((2:Int):Rat)≠0:=by decide
instance BI.two:BI 2 2:=⟨by decide⟩
theorem q_Half{GB:Gh}{a:Rat}{i:Nat}[ha:BQ a i](hi:i≤20000000:=by decide):PF GB Tryz.prog 239 [eQ a] (eQ (a/2)):=by
 refine fn Tryz.func239 J J Tryz.ntmps239 J J (fun C=>?_)
 refine cl rfl (q_Of (n:=2) (by decide) (by decide)) rfl<|cl rfl (q_Over (a:=a) (b:=((2:Int):Rat)) two_ne hi (by decide)) rfl<|?_
 exact rz J J
theorem q_Mid{GB:Gh}{a b:Rat}{i j:Nat}[ha:BQ a i][hb:BQ b j](hi:i≤2000000:=by decide)(hj:j≤2000000:=by decide):PF GB Tryz.prog 192 [eQ a,eQ b] (eQ ((a+b)/2)):=by
 refine fn Tryz.func192 J J Tryz.ntmps192 J J (fun C=>?_)
 refine cl rfl (q_Plus (by omega) (by omega)) rfl<|cl rfl (q_Half (a:=a+b) (by omega)) rfl<|?_
 exact rz J J
end Go.Sx
end

section
set_option maxRecDepth 100000
namespace Go.Sx
open Go Go.Proofs
theorem low_q{m:Int}{g:Nat}(hg:(g:Int)∣m)(hb:m.natAbs<4611686018427387904):IntKind.i64.wrap (m.tdiv g)=m/g:=by
 rw[Int.tdiv_eq_ediv_of_dvd hg]
 have:=Int.natAbs_ediv_le_natAbs m g
 exact i64_small (by omega)
def tm(a b:Int):Int:=if(a*b).natAbs<4611686018427387904 then a*b else 0
theorem tm_lt(a b:Int):(tm a b).natAbs<4611686018427387904:=by unfold tm;split<;>omega
theorem tm_eq{a b:Int}(h:(a*b).natAbs<4611686018427387904):tm a b=a*b:=if_pos h
theorem tm_no{a b:Int}(h: ¬(a*b).natAbs<4611686018427387904):DV.tp [vI 0, .v (.bool false)]= .tp [vI (tm a b),vB (decide ((a*b).natAbs<4611686018427387904))]:=by unfold tm;rw[if_neg h,decide_eq_false h];rfl
theorem tm_yes{a b:Int}{x:Int}(h:(a*b).natAbs<4611686018427387904)(e:x=a*b):DV.tp [vI x, .v (.bool true)]= .tp [vI (tm a b),vB (decide ((a*b).natAbs<4611686018427387904))]:=by unfold tm;rw[if_pos h,decide_eq_true h,e];rfl
theorem eI_nat(n:Nat):eI (n:Int)= .ag [.v (.bool false),dN n]:=by unfold eI;rw[decide_eq_false (by omega),Int.natAbs_natCast]
theorem rgcd_s{p q:Rat}(hp:p.den=1)(hq:q.den=1):rgcd p q=((Nat.gcd p.num.natAbs q.num.natAbs:Nat):Int):=by
 conv=>lhs;rw[rat_int hp,rat_int hq]
 exact rgcd_int _ _
theorem inv_red(q:Rat):mkRat (zv (decide (q.num<0)) q.den) q.num.natAbs=q⁻¹:=by
 rw[Rat.inv_def]
 by_cases h:q.num<0
 ·rw[decide_eq_true h];exact mkRat_neg_abs h
 ·rw[decide_eq_false h,←Rat.divInt_ofNat,Int.natAbs_of_nonneg (by omega)];rfl
instance BQ.inv (q:Rat) (i:Nat) [h:BQ q i]:BQ q⁻¹ i:=by
 have h1:=h.hn
 have h2:=h.hd
 have h3:=q.den_nz
 rcases Int.lt_trichotomy q.num 0 with k|k|k
 ·obtain⟨e1,e2⟩:=rat_inv_num k;exact⟨by omega,by omega⟩
 ·have e:q=0:=Rat.num_eq_zero.1 k
  have e0:(0:Rat)⁻¹=0:=Rat.inv_zero
  rw[e] at h1 h2⊢;rw[e0];exact⟨h1,h2⟩
 ·obtain⟨e1,e2⟩:=rat_inv_pos k;exact⟨by omega,by omega⟩
instance BQ.half:BQ (mkRat 1 2) 2:=⟨by decide,by decide⟩
theorem p_Mul64{GB:Gh}{x y:Nat}(hx:x<18446744073709551616)(hy:y<18446744073709551616):PF GB Tryz.prog 89 [.v (.int .u64 (x:Nat)), .v (.int .u64 (y:Nat))] (.tp [.v (.int .u64 ((x*y/18446744073709551616:Nat):Int)), .v (.int .u64 ((x*y%18446744073709551616:Nat):Int))]):=fun G vs _ hv=>by
 obtain⟨v,m,rfl,h1,h2⟩:=isl_cons.1 hv
 obtain⟨u,m',rfl,h3,h4⟩:=isl_cons.1 h2
 cases isl_nil.1 h4
 rw[is_v.1 h1,is_v.1 h3]
 exact(bits_Mul64' hx hy).mono fun v G' _ h=>by subst h;exact is_tp.2 ⟨_,rfl, .cons (is_v.2 rfl) (.cons (is_v.2 rfl) .nil)⟩
theorem p_gcd{GB:Gh}{a b:Nat}(ha:a<18446744073709551616)(hb:b<18446744073709551616):PF GB Tryz.prog 263 [.v (.int .u64 (a:Nat)), .v (.int .u64 (b:Nat))] (.v (.int .u64 (Nat.gcd a b:Nat))):=by
 refine fn Tryz.func263 J J Tryz.ntmps263 J J (fun C=>?_)
 refine lp (X:=Nat×Nat) (fun⟨u,v⟩=>[(1, .d (.v (.int .u64 (v:Nat)))),(0, .d (.v (.int .u64 (u:Nat))))]) (fun⟨u,v⟩=>[]) (fun⟨u,v⟩=>u<18446744073709551616∧v<18446744073709551616∧Nat.gcd u v=Nat.gcd a b) (fun⟨u,v⟩=>v) (a,b) rfl ⟨ha,hb,rfl⟩ (fun _=>rfl) (fun⟨u,v⟩ hk=>?_)
 dsimp only at hk⊢
 obtain⟨h1,h2,h3⟩:=hk
 refine br (v1:=fun hc6=>by simp only[allP];exact⟨by omega,by kernel_rfl⟩) J J J (fun hc6=>?_) (fun hc6=>?_)
 ·
  have hm:=Nat.mod_lt u (show 0<v by omega)
  exact at_ (v,u%v) (by dsimp only;exact⟨⟨h2,by omega,by rw[←h3,Nat.gcd_comm u v,Nat.gcd_rec v u,Nat.gcd_comm]⟩,hm⟩)
 ·
  exact rz rfl (by rw[←h3,show v=0 by omega,Nat.gcd_zero_right];rfl)
theorem p_Int{GB:Gh}{m:Int}(h:m.natAbs<9223372036854775808):PF GB Tryz.prog 149 [vI m] (eF (m:Rat)):=by
 refine fn Tryz.func149 J J Tryz.ntmps149 J J (fun C=>?_)
 refine cs 5 J J J (fun hg5=>?_) (fun hg5=>?_)
 ·
  refine cl rfl (p_FromInt (m:=m) (by omega) (by omega)) rfl<|rf (fu:=⟨0⟩) J J<|?_
  refine eqF 11 (.d (dN 1)) rfl (by unfold dN;rw[dg_one];rfl) ?_
  refine gx rfl<|cl rfl (p_reduce (n:=decide (m<0)) (a:=m.natAbs) (i:=63) (h:=⟨h⟩) (d:=1)) rfl<|?_
  exact rz rfl (by rw[zv_eta,show mkRat m 1=(m:Rat) from Rat.mkRat_one ..];rfl)
 ·
  refine br J J J (fun hc8=>?_) (fun hc8=>?_)
  ·
   refine cl rfl (p_FromInt (m:=m) (by omega) (by omega)) rfl<|rf (fu:=⟨0⟩) J J<|?_
   refine eqF 11 (.d (dN 1)) rfl (by unfold dN;rw[dg_one];rfl) ?_
   refine gx rfl<|cl rfl (p_reduce (n:=decide (m<0)) (a:=m.natAbs) (i:=63) (h:=⟨h⟩) (d:=1)) rfl<|?_
   exact rz rfl (by rw[zv_eta,show mkRat m 1=(m:Rat) from Rat.mkRat_one ..];rfl)
  ·
   exact rzI rfl (is_m (by omega))
theorem p_times{GB:Gh}{a b:Int}(ha:a.natAbs<4611686018427387904)(hb:b.natAbs<4611686018427387904):PF GB Tryz.prog 245 [vI a,vI b] (.tp [vI (tm a b),vB (decide ((a*b).natAbs<4611686018427387904))]):=by
 have hab:=Int.natAbs_mul a b
 refine fn Tryz.func245 J J Tryz.ntmps245 J J (fun C=>?_)
 refine cl rfl (p_abs (m:=a) (by omega)) rfl<|cl rfl (p_abs (m:=b) (by omega)) rfl<|cl rfl (p_Mul64 (x:=a.natAbs) (y:=b.natAbs) (by omega) (by omega)) rfl<|?_
 refine cs 18 J J J (fun hg18=>?_) (fun hg18=>?_)
 ·
  exact rz rfl (tm_no (by omega))
 ·
  refine br J J J (fun hc21=>?_) (fun hc21=>?_)
  ·
   exact rz rfl (tm_no (by omega))
  ·
   refine bb J J J (fun hc26=>?_) (fun hc26=>?_)
   ·
    have hs:=mul_signs a b
    rw[if_neg (by simpa using hc26)] at hs
    exact rz rfl (tm_yes (by omega) (by rw[hs,←hab];omega))
   ·
    have hs:=mul_signs a b
    rw[if_pos (by simpa using hc26)] at hs
    exact rz rfl (tm_yes (by omega) (by rw[hs,←hab];omega))
theorem p_lowest{GB:Gh}{m:Int}{d:Nat}(h:m.natAbs<4611686018427387904)(h0:0<d)(hd:d<4611686018427387904):PF GB Tryz.prog 246 [vI m,vI (d:Nat)] (eF (mkRat m d)):=by
 have hg:Nat.gcd m.natAbs d≤d:=Nat.gcd_le_right _ h0
 have hg0:0<Nat.gcd m.natAbs d:=Nat.gcd_pos_of_pos_right _ h0
 obtain⟨e1,e2⟩:=rat_num (m:=m) h0
 have e3:=Int.natAbs_ediv_le_natAbs m (Nat.gcd m.natAbs d:Nat)
 have e4:=Nat.div_le_self d (Nat.gcd m.natAbs d)
 have e5:=Nat.div_pos hg hg0
 refine fn Tryz.func246 J J Tryz.ntmps246 J J (fun C=>?_)
 refine cl rfl (p_abs (m:=m) (by omega)) rfl<|cl rfl (p_gcd (a:=m.natAbs) (b:=d) (by omega) (by omega)) rfl<|?_
 refine br (fu1:=⟨4⟩) J J J (fun hc13=>?_) (fun hc13=>?_)
 ·
  refine eqF 16 (.d (vI (m/(Nat.gcd m.natAbs d:Nat)))) rfl (by rw[low_q (Int.dvd_natAbs.1 (Int.natCast_dvd_natCast.2 (Nat.gcd_dvd_left _ _))) h];rfl) ?_
  refine gx (fu:=⟨3⟩) rfl<|?_
  refine eqF 19 (.d (vI ((d/Nat.gcd m.natAbs d:Nat)))) rfl (by rw[low_q (Int.natCast_dvd_natCast.2 (Nat.gcd_dvd_right _ _)) (by rw[Int.natAbs_natCast];exact hd)];rfl) ?_
  refine gx (hv:=by simp only[allP];exact⟨by kernel_rfl,by omega⟩) rfl<|?_
  exact rzI rfl (is_s (fun k=>k ⟨by rw[e1];omega,by rw[e2];omega⟩) e1 (by rw[e2]) rfl)
 ·
  exact rzI rfl (by have h1:Nat.gcd m.natAbs d=1:=(by omega);rw[h1,Nat.div_one] at e2;rw[h1,Int.natCast_one,Int.ediv_one] at e1;exact is_s (fun k=>k ⟨by rw[e1];omega,by rw[e2];omega⟩) e1 (by rw[e2]) rfl)
theorem p_FMul{GB:Gh}{p q:Rat}{i j:Nat}[h:BQ p i][k:BQ q j](hi:i≤100000000:=by decide)(hj:j≤100000000:=by decide):PF GB Tryz.prog 210 [eF p,eF q] (eF (p*q)):=by
 refine fn (fu:=⟨8⟩) Tryz.func210 J J Tryz.ntmps210 J J (fun C=>?_)
 refine mg (X:=Unit) (fun _=>[(2, .ov 2 0),(3, .ov 3 0),(4, .ov 4 0)]) (fun _=>[(2,some (.o 128 [.d (vI (fn_ p)), .d (vI (fd_ p)), .d (fp_ p)] true)),(3,some (.o 128 [.d (vI (fn_ q)), .d (vI (fd_ q)), .d (fp_ q)] true)),(4,some (.o 128 [.d (.v (.int .i64 0)), .d (.v (.int .i64 0)), .d (.v (.pointer none))] true))]) (fun _=>True) [2,3,4] [2,3,4] rfl ?_ (fun _=>rfl) (fun _ _=>?_)
 ·
  refine gx rfl<|?_
  refine cs 12 J J J (fun hg12=>?_) (fun hg12=>?_)
  ·
   refine br (fu1:=⟨4⟩) J J J (fun hc16=>?_) (fun hc16=>?_)
   ·
    have hp:=bgF hg12
    have hq:=bgF hc16
    have p1:=fn_s hp
    have p2:=fd_s hp
    have p3:=small_n hp
    have p4:=small_d hp
    have p5:=p.den_nz
    have q1:=fn_s hq
    have q2:=fd_s hq
    have q3:=small_n hq
    have q4:=small_d hq
    have q5:=q.den_nz
    refine eqF 19 (.d (vI p.num)) rfl (by rw[p1]) ?_
    refine gx (fu:=⟨2⟩) rfl<|?_
    refine eqF 21 (.d (vI q.num)) rfl (by rw[q1]) ?_
    refine gx rfl<|cl (fu:=⟨12⟩) rfl (p_times (a:=p.num) (b:=q.num) (by omega) (by omega)) rfl<|?_
    refine eqF 28 (.d (vI (p.den:Nat))) rfl (by congr 3;omega) ?_
    refine gx (fu:=⟨3⟩) rfl<|?_
    refine eqF 31 (.d (vI (q.den:Nat))) rfl (by congr 3;omega) ?_
    refine gx rfl<|cl rfl (p_times (a:=(p.den:Nat)) (b:=(q.den:Nat)) (by omega) (by omega)) rfl<|?_
    refine csd 36 J J J (fun hg36=>?_) (fun hg36=>?_)
    ·
     refine bd (fu1:=⟨3⟩) J J J (fun hc38=>?_) (fun hc38=>?_)
     ·
      have hd1:p.den*q.den<4611686018427387904:=by omega
      refine eqF 39 (.d (vI (p.num*q.num))) rfl (by rw[tm_eq hg36]) ?_
      refine gx (fu:=⟨1⟩) rfl<|?_
      refine eqF 40 (.d (vI ((p.den*q.den:Nat)))) rfl (by rw[tm_eq hc38];rfl) ?_
      refine gx rfl<|cl rfl (p_lowest (m:=p.num*q.num) (d:=p.den*q.den) hg36 (Nat.mul_pos (by omega) (by omega)) hd1) rfl<|?_
      exact rz rfl (by rw[←rat_mul_mk];rfl)
     ·
      exact at_ () trivial
    ·
     exact at_ () trivial
   ·
    exact at_ () trivial
  ·
   exact at_ () trivial
 ·
  refine cl rfl (p_Num (q:=p) (by omega)) rfl<|cl rfl (p_Num (q:=q) (by omega)) rfl<|cl rfl (p_IMul (a:=p.num) (b:=q.num) (by omega) (by omega)) rfl<|?_
  refine cl rfl (p_Den (q:=p) (by omega)) rfl<|cl rfl (p_Den (q:=q) (by omega)) rfl<|cl rfl (p_Mul (a:=p.den) (b:=q.den) (by omega) (by omega)) rfl<|?_
  refine cl rfl (p_reduce (n:=decide (p.num*q.num<0)) (a:=(p.num*q.num).natAbs) (d:=p.den*q.den) (i:=i+j) (j:=i+j) (by omega) (by omega)) rfl<|?_
  exact rz rfl (by rw[zv_eta,←rat_mul_mk];rfl)
theorem p_FAdd{GB:Gh}{p q:Rat}{i j:Nat}[h:BQ p i][k:BQ q j](hi:i≤100000000:=by decide)(hj:j≤100000000:=by decide):PF GB Tryz.prog 207 [eF p,eF q] (eF (p+q)):=by
 refine fn (fu:=⟨8⟩) Tryz.func207 J J Tryz.ntmps207 J J (fun C=>?_)
 refine mg (X:=Unit) (fun _=>[(2, .ov 2 0),(3, .ov 3 0),(4, .ov 4 0)]) (fun _=>[(2,some (.o 128 [.d (vI (fn_ p)), .d (vI (fd_ p)), .d (fp_ p)] true)),(3,some (.o 128 [.d (vI (fn_ q)), .d (vI (fd_ q)), .d (fp_ q)] true)),(4,some (.o 128 [.d (.v (.int .i64 0)), .d (.v (.int .i64 0)), .d (.v (.pointer none))] true))]) (fun _=>True) [2,3,4] [2,3,4] rfl ?_ (fun _=>rfl) (fun _ _=>?_)
 ·
  refine gx rfl<|?_
  refine cs 16 J J J (fun hg16=>?_) (fun hg16=>?_)
  ·
   refine br (fu1:=⟨1⟩) J J J (fun hc20=>?_) (fun hc20=>?_)
   ·
    have hp:=bgF hg16
    have hq:=bgF hc20
    have p1:=fn_s hp
    have p2:=fd_s hp
    have p3:=small_n hp
    have p4:=small_d hp
    have p5:=p.den_nz
    have q1:=fn_s hq
    have q2:=fd_s hq
    have q3:=small_n hq
    have q4:=small_d hq
    have q5:=q.den_nz
    refine mg (fu:=⟨4⟩) (X:=Unit) (fun _=>[(2, .ov 2 0),(3, .ov 3 0),(4, .ov 4 0)]) (fun _=>[(2,some (.o 128 [.d (vI (fn_ p)), .d (vI (fd_ p)), .d (fp_ p)] true)),(3,some (.o 128 [.d (vI (fn_ q)), .d (vI (fd_ q)), .d (fp_ q)] true)),(4,some (.o 128 [.d (.v (.int .i64 0)), .d (.v (.int .i64 0)), .d (.v (.pointer none))] true))]) (fun _=>True) [2,3,4] [2,3,4] rfl ?_ (fun _=>rfl) (fun _ _=>?_)
    ·
     refine gx rfl<|?_
     refine cs 24 J J J (fun hg24=>?_) (fun hg24=>?_)
     ·
      refine br (fu1:=⟨4⟩) J J J (fun hc28=>?_) (fun hc28=>?_)
      ·
       refine eqF 30 (.d (vI p.num)) rfl (by rw[p1]) ?_
       refine gx (fu:=⟨2⟩) rfl<|?_
       refine eqF 32 (.d (vI q.num)) rfl (by rw[q1]) ?_
       refine gx rfl<|cl rfl (p_Int (m:=p.num+q.num) (by omega)) rfl<|?_
       exact rz rfl (by rw[rat_int (q:=p) (by omega),rat_int (q:=q) (by omega),←Rat.intCast_add];rfl)
      ·
       exact at_ () trivial
     ·
      exact at_ () trivial
    ·
     refine eqF 37 (.d (vI p.num)) rfl (by rw[p1]) ?_
     refine gx (fu:=⟨3⟩) rfl<|?_
     refine eqF 40 (.d (vI (q.den:Nat))) rfl (by congr 3;omega) ?_
     refine gx rfl<|cl (fu:=⟨11⟩) rfl (p_times (a:=p.num) (b:=(q.den:Nat)) (by omega) (by omega)) rfl<|?_
     refine eqF 46 (.d (vI q.num)) rfl (by rw[q1]) ?_
     refine gx (fu:=⟨3⟩) rfl<|?_
     refine eqF 49 (.d (vI (p.den:Nat))) rfl (by congr 3;omega) ?_
     refine gx rfl<|cl (fu:=⟨12⟩) rfl (p_times (a:=q.num) (b:=(p.den:Nat)) (by omega) (by omega)) rfl<|?_
     refine eqF 56 (.d (vI (p.den:Nat))) rfl (by congr 3;omega) ?_
     refine gx (fu:=⟨3⟩) rfl<|?_
     refine eqF 59 (.d (vI (q.den:Nat))) rfl (by congr 3;omega) ?_
     refine gx rfl<|cl (fu:=⟨3⟩) rfl (p_times (a:=(p.den:Nat)) (b:=(q.den:Nat)) (by omega) (by omega)) rfl<|?_
     have t1:=tm_lt p.num (q.den:Nat)
     have t2:=tm_lt q.num (p.den:Nat)
     have t3:=tm_lt (p.den:Nat) (q.den:Nat)
     refine gx rfl<|?_
     refine csd 67 J J J (fun hg67=>?_) (fun hg67=>?_)
     ·
      refine csd 70 J J J (fun hg70=>?_) (fun hg70=>?_)
      ·
       refine csd 73 J J J (fun hg73=>?_) (fun hg73=>?_)
       ·
        refine cs 77 J J J (fun hg77=>?_) (fun hg77=>?_)
        ·
         refine br (fu1:=⟨3⟩) J J J (fun hc80=>?_) (fun hc80=>?_)
         ·
          have u1:=tm_eq hg67
          have u2:=tm_eq hg70
          have u3:=tm_eq hg73
          have hd1:p.den*q.den<4611686018427387904:=by omega
          refine eqF 81 (.d (vI (p.num*(q.den:Nat)+q.num*(p.den:Nat)))) rfl (by rw[u1,u2];rfl) ?_
          refine gx (fu:=⟨1⟩) rfl<|?_
          refine eqF 82 (.d (vI ((p.den*q.den:Nat)))) rfl (by rw[u3];rfl) ?_
          refine gx rfl<|cl rfl (p_lowest (m:=p.num*(q.den:Nat)+q.num*(p.den:Nat)) (d:=p.den*q.den) (by omega) (Nat.mul_pos (by omega) (by omega)) hd1) rfl<|?_
          exact rz rfl (by rw[←rat_add_mk];rfl)
         ·
          exact at_ () trivial
        ·
         exact at_ () trivial
       ·
        exact at_ () trivial
      ·
       exact at_ () trivial
     ·
      exact at_ () trivial
   ·
    exact at_ () trivial
  ·
   exact at_ () trivial
 ·
  refine cl rfl (p_Num (q:=p) (by omega)) rfl<|cl (fu:=⟨1⟩) rfl (p_Den (q:=q) (by omega)) rfl<|?_
  refine eqF 88 (.d (eI (q.den:Nat))) rfl (by rw[eI_nat]) ?_
  refine gx rfl<|cl rfl (p_IMul (a:=p.num) (b:=(q.den:Nat)) (by omega) (by omega)) rfl<|cl rfl (p_Num (q:=q) (by omega)) rfl<|cl (fu:=⟨1⟩) rfl (p_Den (q:=p) (by omega)) rfl<|?_
  refine eqF 94 (.d (eI (p.den:Nat))) rfl (by rw[eI_nat]) ?_
  refine gx rfl<|cl rfl (p_IMul (a:=q.num) (b:=(p.den:Nat)) (by omega) (by omega)) rfl<|cl rfl (p_IAdd (a:=p.num*(q.den:Nat)) (b:=q.num*(p.den:Nat)) (i:=i+j) (j:=j+i) (by omega) (by omega)) rfl<|?_
  refine cl rfl (p_Den (q:=p) (by omega)) rfl<|cl rfl (p_Den (q:=q) (by omega)) rfl<|cl rfl (p_Mul (a:=p.den) (b:=q.den) (by omega) (by omega)) rfl<|?_
  refine cl rfl (p_reduce (n:=decide (p.num*(q.den:Nat)+q.num*(p.den:Nat)<0)) (a:=(p.num*(q.den:Nat)+q.num*(p.den:Nat)).natAbs) (d:=p.den*q.den) (i:=i+j+(j+i)+1) (j:=i+j) (by omega) (by omega)) rfl<|?_
  exact rz rfl (by rw[zv_eta,←rat_add_mk];rfl)
theorem p_FSub{GB:Gh}{p q:Rat}{i j:Nat}[h:BQ p i][k:BQ q j](hi:i≤100000000:=by decide)(hj:j≤100000000:=by decide):PF GB Tryz.prog 206 [eF p,eF q] (eF (p-q)):=by
 refine fn Tryz.func206 J J Tryz.ntmps206 J J (fun C=>?_)
 refine cl rfl (p_FNeg (q:=q) (by omega)) rfl<|cl rfl (p_FAdd (p:=p) (q:= -q) (by omega) (by omega)) rfl<|?_
 exact rz rfl (by rw[←Rat.sub_eq_add_neg];rfl)
theorem p_FInv{GB:Gh}{q:Rat}{i:Nat}[h:BQ q i](hi:i≤400000000:=by decide):PF GB Tryz.prog 213 [eF q] (eF q⁻¹):=by
 refine fn Tryz.func213 J J Tryz.ntmps213 J J (fun C=>?_)
 refine br (v1:=fun hc3=>by simp only[allP];exact⟨⟨hc3,hc3⟩,hc3⟩) J J J (fun hc3=>?_) (fun hc3=>?_)
 ·
  refine cl rfl (p_reduce (n:=decide (q.num<0)) (a:=q.den) (d:=q.num.natAbs) (by omega) (by omega)) rfl<|?_
  exact rz rfl (by rw[inv_red];rfl)
 ·
  have q1:=fn_s (bgF' hc3)
  have q2:=fd_s (bgF' hc3)
  have q3:=small_n (bgF' hc3)
  have q4:=small_d (bgF' hc3)
  have q5:=q.den_nz
  refine br J J J (fun hc26=>?_) (fun hc26=>?_)
  ·
   exact rzI rfl (by obtain⟨e1,e2⟩:=rat_inv_num (q:=q) (by omega);exact is_s (fun k=>k ⟨by omega,by omega⟩) (by omega) (by omega) rfl)
  ·
   refine br J J J (fun hc39=>?_) (fun hc39=>?_)
   ·
    exact rzI rfl (by rw[Rat.num_eq_zero.1 (show q.num=0 by omega),Rat.inv_zero];exact is_0)
   ·
    exact rzI rfl (by obtain⟨e1,e2⟩:=rat_inv_pos (q:=q) (by omega);exact is_s (fun k=>k ⟨by omega,by omega⟩) (by omega) (by omega) rfl)
theorem p_FQuo{GB:Gh}{p q:Rat}{i j:Nat}[h:BQ p i][k:BQ q j](hi:i≤100000000:=by decide)(hj:j≤100000000:=by decide):PF GB Tryz.prog 154 [eF p,eF q] (eF (p/q)):=by
 refine fn Tryz.func154 J J Tryz.ntmps154 J J (fun C=>?_)
 refine cl rfl (p_FInv (q:=q) (by omega)) rfl<|cl rfl (p_FMul (p:=p) (q:=q⁻¹) (by omega) (by omega)) rfl<|?_
 exact rz rfl (by rw[Rat.div_def];rfl)
theorem isl_F{G:Gh}{q r:DV}{t:List DV}{vs:List Value}(h: ∀y,Is G r y→Is G q y)(hv:IsLs G (r::t) vs):IsLs G (q::t) vs:=by
 obtain⟨y,m,rfl,h1,h2⟩:=isl_cons.1 hv
 exact .cons (h _ h1) h2
theorem isl_F2{G:Gh}{a q r:DV}{t:List DV}{vs:List Value}(h: ∀y,Is G r y→Is G q y)(hv:IsLs G (a::r::t) vs):IsLs G (a::q::t) vs:=by
 obtain⟨y,m,rfl,h1,h2⟩:=isl_cons.1 hv
 exact .cons h1 (isl_F h h2)
theorem p_FMulH{GB:Gh}{q:Rat}{i:Nat}[h:BQ q i](hi:i≤100000000:=by decide):PF GB Tryz.prog 210 [eF q, .ag [vI 1,vI 1, .v (.pointer none)]] (eF (q*mkRat 1 2)):=
 (p_FMul (p:=q) (q:=mkRat 1 2) hi).ofI fun G vs hv=>isl_F2 (fun y hy=>is_s (q:=mkRat 1 2) (fun k=>k ⟨by decide,by decide⟩) (by decide) (by decide) rfl G y hy) hv
theorem p_FHalf{GB:Gh}{q:Rat}{i:Nat}[h:BQ q i](hi:i≤100000000:=by decide):PF GB Tryz.prog 158 [eF q] (eF (q*mkRat 1 2)):=by
 refine fn Tryz.func158 J J Tryz.ntmps158 J J (fun C=>?_)
 refine cl rfl (p_FMulH (q:=q) (by omega)) rfl<|?_
 exact rz J J
theorem p_FCmp{GB:Gh}{p q:Rat}{i j:Nat}[h:BQ p i][k:BQ q j](hi:i≤100000000:=by decide)(hj:j≤100000000:=by decide):PF GB Tryz.prog 212 [eF p,eF q] (vI (rcmp p q)):=by
 refine fn Tryz.func212 J J Tryz.ntmps212 J J (fun C=>?_)
 refine cs 8 J J J (fun hg8=>?_) (fun hg8=>?_)
 ·
  refine cs 13 J J J (fun hg13=>?_) (fun hg13=>?_)
  ·
   refine br J J J (fun hc19=>?_) (fun hc19=>?_)
   ·
    have hp:=bgF hg8
    have hq:=bgF hg13
    have p1:=fn_s hp
    have p2:=fd_s hp
    have p3:=small_n hp
    have p4:=small_d hp
    have p5:=p.den_nz
    have q1:=fn_s hq
    have q2:=fd_s hq
    have q3:=small_n hq
    have q4:=small_d hq
    have q5:=q.den_nz
    have hl:=lt_same (a:=p) (b:=q) (by omega)
    have hr:=lt_same (a:=q) (b:=p) (by omega)
    unfold rcmp
    refine br J J J (fun hc20=>?_) (fun hc20=>?_)
    ·
     exact rz rfl (by rw[if_pos (hl.2 (by omega))];rfl)
    ·
     refine br J J J (fun hc26=>?_) (fun hc26=>?_)
     ·
      exact rz rfl (by rw[if_neg (fun e=>by have:=hl.1 e;omega),if_pos (hr.2 (by omega))];rfl)
     ·
      exact rz rfl (by rw[if_neg (fun e=>by have:=hl.1 e;omega),if_neg (fun e=>by have:=hr.1 e;omega)];rfl)
   ·
    refine cl rfl (p_FSub (p:=p) (q:=q) (by omega) (by omega)) rfl<|cl rfl (p_FSign (q:=p-q) (by omega)) rfl<|?_
    exact rz rfl (by rw[sign_sub];rfl)
  ·
   refine cl rfl (p_FSub (p:=p) (q:=q) (by omega) (by omega)) rfl<|cl rfl (p_FSign (q:=p-q) (by omega)) rfl<|?_
   exact rz rfl (by rw[sign_sub];rfl)
 ·
  refine cl rfl (p_FSub (p:=p) (q:=q) (by omega) (by omega)) rfl<|cl rfl (p_FSign (q:=p-q) (by omega)) rfl<|?_
  exact rz rfl (by rw[sign_sub];rfl)
theorem p_FEqual{GB:Gh}{p q:Rat}{i j:Nat}[h:BQ p i][k:BQ q j](hi:i≤100000000:=by decide)(hj:j≤100000000:=by decide):PF GB Tryz.prog 228 [eF p,eF q] (vB (decide (p=q))):=by
 refine fn Tryz.func228 J J Tryz.ntmps228 J J (fun C=>?_)
 refine cl rfl (p_FCmp (p:=p) (q:=q) hi hj) rfl<|?_
 exact rz rfl (by show DV.v (.bool (decide _))= .v (.bool _);congr 2;exact decide_eq_decide.2 (rcmp_eq p q))
theorem p_FMax{GB:Gh}{p q:Rat}{i j:Nat}[h:BQ p i][k:BQ q j](hi:i≤100000000:=by decide)(hj:j≤100000000:=by decide):PF GB Tryz.prog 298 [eF p,eF q] (eF (if p<q then q else p)):=by
 refine fn Tryz.func298 J J Tryz.ntmps298 J J (fun C=>?_)
 refine cl rfl (p_FCmp (p:=q) (q:=p) hj hi) rfl<|?_
 refine br J J J (fun hc8=>?_) (fun hc8=>?_)
 ·
  exact rz rfl (by rw[if_pos ((rcmp_pos q p).1 hc8)];rfl)
 ·
  exact rz rfl (by rw[if_neg (fun e=>hc8 ((rcmp_pos q p).2 e))];rfl)
theorem p_FMin{GB:Gh}{p q:Rat}{i j:Nat}[h:BQ p i][k:BQ q j](hi:i≤100000000:=by decide)(hj:j≤100000000:=by decide):PF GB Tryz.prog 152 [eF p,eF q] (eF (if q<p then q else p)):=by
 refine fn Tryz.func152 J J Tryz.ntmps152 J J (fun C=>?_)
 refine cl rfl (p_FCmp (p:=q) (q:=p) hj hi) rfl<|?_
 refine br J J J (fun hc8=>?_) (fun hc8=>?_)
 ·
  exact rz rfl (by rw[if_pos ((rcmp_neg q p).1 hc8)];rfl)
 ·
  exact rz rfl (by rw[if_neg (fun e=>hc8 ((rcmp_neg q p).2 e))];rfl)
theorem p_FGcd{GB:Gh}{p q:Rat}{i j:Nat}[h:BQ p i][k:BQ q j](hi:i≤100000000:=by decide)(hj:j≤100000000:=by decide):PF GB Tryz.prog 227 [eF p,eF q] (eF (rgcd p q)):=by
 refine fn (fu:=⟨8⟩) Tryz.func227 J J Tryz.ntmps227 J J (fun C=>?_)
 refine mg (X:=Unit) (fun _=>[(2, .ov 2 0),(3, .ov 3 0),(4, .ov 4 0)]) (fun _=>[(2,some (.o 128 [.d (vI (fn_ p)), .d (vI (fd_ p)), .d (fp_ p)] true)),(3,some (.o 128 [.d (vI (fn_ q)), .d (vI (fd_ q)), .d (fp_ q)] true)),(4,some (.o 128 [.d (.v (.int .i64 0)), .d (.v (.int .i64 0)), .d (.v (.pointer none))] true))]) (fun _=>True) [2,3,4] [2,3,4] rfl ?_ (fun _=>rfl) (fun _ _=>?_)
 ·
  refine gx rfl<|?_
  refine cs 10 J J J (fun hg10=>?_) (fun hg10=>?_)
  ·
   refine cs 15 J J J (fun hg15=>?_) (fun hg15=>?_)
   ·
    have hp:=bgF hg10
    have hq:=bgF hg15
    have p1:=fn_s hp
    have p2:=fd_s hp
    have p3:=small_n hp
    have p4:=small_d hp
    have p5:=p.den_nz
    have q1:=fn_s hq
    have q2:=fd_s hq
    have q3:=small_n hq
    have q4:=small_d hq
    have q5:=q.den_nz
    refine cs 20 J J J (fun hg20=>?_) (fun hg20=>?_)
    ·
     refine br (fu1:=⟨4⟩) J J J (fun hc24=>?_) (fun hc24=>?_)
     ·
      have hg:=gcd_lt p3 q3
      refine eqF 26 (.d (vI p.num)) rfl (by rw[p1]) ?_
      refine gx rfl<|cl (fu:=⟨2⟩) rfl (p_abs (m:=p.num) (by omega)) rfl<|?_
      refine eqF 29 (.d (vI q.num)) rfl (by rw[q1]) ?_
      refine gx rfl<|cl rfl (p_abs (m:=q.num) (by omega)) rfl<|cl (hv:=by simp only[allP];exact⟨by omega,by kernel_rfl⟩) rfl (p_gcd (a:=p.num.natAbs) (b:=q.num.natAbs) (by omega) (by omega)) rfl<|?_
      exact rzI rfl (by rw[rgcd_s (p:=p) (q:=q) (by omega) (by omega)];exact is_m (by rw[Int.natAbs_natCast];exact hg))
     ·
      exact at_ () trivial
    ·
     exact at_ () trivial
   ·
    exact at_ () trivial
  ·
   exact at_ () trivial
 ·
  refine cl rfl (p_Den (q:=p) (by omega)) rfl<|cl rfl (p_Den (q:=q) (by omega)) rfl<|cl rfl (p_Mul (a:=p.den) (b:=q.den) (by omega) (by omega)) rfl<|?_
  refine cl rfl (p_Num (q:=p) (by omega)) rfl<|cl rfl (p_Den (q:=q) (by omega)) rfl<|cl rfl (p_Mul (a:=p.num.natAbs) (b:=q.den) (by omega) (by omega)) rfl<|?_
  refine cl rfl (p_Num (q:=q) (by omega)) rfl<|cl rfl (p_Den (q:=p) (by omega)) rfl<|cl rfl (p_Mul (a:=q.num.natAbs) (b:=p.den) (by omega) (by omega)) rfl<|?_
  refine cl rfl (p_Gcd (a:=p.num.natAbs*q.den) (b:=q.num.natAbs*p.den) (i:=i+j) (j:=j+i) (by omega) (by omega)) rfl<|cl rfl (p_reduce (n:=false) (a:=Nat.gcd (p.num.natAbs*q.den) (q.num.natAbs*p.den)) (d:=p.den*q.den) (i:=i+j+(j+i)) (j:=i+j) (by omega) (by omega)) rfl<|?_
  exact rz J J
end Go.Sx
end

section
set_option maxRecDepth 100000
namespace Go.Sx
open Go Go.Proofs
end Go.Sx
end

section
set_option maxRecDepth 100000
namespace Go.Sx
open Go Go.Proofs
def cT:Tr→List DV
 | .leaf b=>[.v (.bool true), .v (.bool b), .v (.bool false), .sl [], .v (.bool false), .sl [], .v (.bool false), .sl [], .v (.pointer none), .v (.pointer none)]
 | .node l x y=>[.v (.bool false), .v (.bool false), .v (.bool (decide (l.a<0))),dN l.a.natAbs, .v (.bool (decide (l.b<0))),dN l.b.natAbs, .v (.bool (decide (l.c<0))),dN l.c.natAbs, .pt (cT x), .pt (cT y)]
def eT(t:Tr):DV:= .pt (cT t)
def eN(n:NQ):DV:= .ag [.v (.bool (decide (n.l.a<0))),dN n.l.a.natAbs, .v (.bool (decide (n.l.b<0))),dN n.l.b.natAbs, .v (.bool (decide (n.l.c<0))),dN n.l.c.natAbs, .v (.int .i64 n.a), .v (.int .i64 n.b)]
def eA(t:Tr):DV:= .ag [.v (.int .i64 (t.num 0)), .sl ((t.wr 0).map eN)]
structure BL (l:LnQ) (k:Nat):Prop where
 a:l.a.natAbs<2^k
 b:l.b.natAbs<2^k
 c:l.c.natAbs<2^k
theorem Tr.all_wr{p:LnQ→Prop}: ∀{t:Tr} (n:Nat),t.all p→ ∀x∈t.wr n,p x.l
 | .leaf b,n,_,x,hx=>by cases hx
 | .node l u v,n,⟨h1,h2,h3⟩,x,hx=>by
  simp only[Tr.wr,List.cons_append,List.mem_cons,List.mem_append] at hx
  rcases hx with rfl|hx|hx
  ·exact h1
  ·exact u.all_wr _ h2 x hx
  ·exact v.all_wr _ h3 x hx
end Go.Sx
end

section
set_option maxRecDepth 100000
namespace Go.Sx
open Go Go.Proofs
structure LS (l:LnQ):Prop where
 ok:l.ok
 a:l.a.natAbs≤4
 b:l.b.natAbs≤4
 c:l.c.natAbs≤40000
theorem LS.bl{l:LnQ}(h:LS l):BL l 96:=⟨by have:=h.a;omega,by have:=h.b;omega,by have:=h.c;omega⟩
theorem mapL_get{xs:List LnQ}{i:Nat}(h:i<xs.length):(xs.map eL)[(i:Int).toNat]? =some (eL xs[i]):=by simp[h]
theorem mapL_len(xs:List LnQ):(xs.map eL).length=xs.length:=List.length_map ..
theorem take_next{α:Type}{xs:List α}{i:Nat}{p:α→Prop}(h: ∀x∈xs.take i,p x)(hi:i<xs.length)(hy:p xs[i]): ∀x∈xs.take (i+1),p x:=by
 intro x hx
 rw[List.take_succ_eq_append_getElem hi] at hx
 simp only[List.mem_append,List.mem_singleton] at hx
 rcases hx with hx|rfl
 ·exact h x hx
 ·exact hy
theorem LnQ.ext'{l m:LnQ}(h1:l.a=m.a)(h2:l.b=m.b)(h3:l.c=m.c):l=m:=by cases l;cases m;simp_all
instance:DecidableEq NQ:=fun x y=>decidable_of_iff (x.l=y.l∧x.a=y.a∧x.b=y.b) (by
 cases x;cases y;simp)
theorem slOkL(ls:List LnQ):slOk 6 (ls.map eL):=fun d hd=>by
 obtain⟨n,_,rfl⟩:=List.mem_map.1 hd;exact⟨rfl,rfl⟩
theorem q_sq{GB:Gh}{z:Int}:PF GB Tryz.prog 134 [eI z] (eQ (z:Rat)):=by
 refine fn Tryz.func134 J J Tryz.ntmps134 J J (fun C=>?_)
 exact rz rfl (by rw[eQ_int];rfl)
theorem q_sRev{GB:Gh}{l:LnQ}:PF GB Tryz.prog 85 [eL l] (eL l.rev):=by
 refine fn Tryz.func85 J J Tryz.ntmps85 J J (fun C=>?_)
 refine cl rfl q_Minus rfl<|cl rfl q_Minus rfl<|cl rfl q_Minus rfl<|?_
 exact rz J J
end Go.Sx
end

section
set_option maxRecDepth 100000
namespace Go.Sx
open Go Go.Proofs
class LB (l:LnQ):Prop where bl:BL l 96
instance LB.a (l:LnQ) [h:LB l]:BI l.a 96:=⟨h.bl.a⟩
instance LB.b (l:LnQ) [h:LB l]:BI l.b 96:=⟨h.bl.b⟩
instance LB.c (l:LnQ) [h:LB l]:BI l.c 96:=⟨h.bl.c⟩
class BPt (p:PtQ) (k:outParam Nat):Prop where
 x:BQ p.x k
 y:BQ p.y k
instance BPt.ix (p:PtQ) (k:Nat) [h:BPt p k]:BQ p.x k:=h.x
instance BPt.iy (p:PtQ) (k:Nat) [h:BPt p k]:BQ p.y k:=h.y
instance BPt.dir (l:LnQ) [LB l]:BPt l.dir 97:=⟨inferInstanceAs (BQ (l.b:Rat) 97),inferInstanceAs (BQ (-(l.a:Rat)) 97)⟩
instance BQ.dot (p q:PtQ) (i j:Nat) [BPt p i] [BPt q j]:BQ (p.dot q) (i+j+(i+j)+1):=inferInstanceAs (BQ (p.x*q.x+p.y*q.y) _)
instance BQ.cross (p q:PtQ) (i j:Nat) [BPt p i] [BPt q j]:BQ (p.cross q) (i+j+(i+j)+1):=inferInstanceAs (BQ (p.x*q.y-p.y*q.x) _)
instance BPt.mov (p q:PtQ) (c:Rat) (i j k:Nat) [BPt p i] [BPt q j] [BQ c k]:BPt (movQ p q c) (i+(k+j)+1):=⟨inferInstanceAs (BQ (p.x+c*q.x) _),inferInstanceAs (BQ (p.y+c*q.y) _)⟩
instance BQ.value (l:LnQ) (p:PtQ) (i:Nat) [LB l] [BPt p i]:BQ (l.value p) (96+1+i+(96+1+i)+1+(96+1)+1):=inferInstanceAs (BQ ((l.a:Rat)*p.x+(l.b:Rat)*p.y+(l.c:Rat)) _)
theorem dd_ne{l:LnQ}(h:l.Ne):l.dir.dot l.dir≠0:=by have:=dd_pos h;grind
theorem q_Dir{GB:Gh}{l:LnQ}:PF GB Tryz.prog 162 [eL l] (eP l.dir):=by
 refine fn Tryz.func162 J J Tryz.ntmps162 J J (fun C=>?_)
 refine cl rfl q_sq rfl<|cl rfl q_sq rfl<|cl rfl q_Opp rfl<|?_
 exact rz J J
theorem q_Dot{GB:Gh}{p q:PtQ}{i j:Nat}[hp:BPt p i][hq:BPt q j](hi:i≤200000:=by decide)(hj:j≤200000:=by decide):PF GB Tryz.prog 190 [eP p,eP q] (eQ (p.dot q)):=by
 refine fn Tryz.func190 J J Tryz.ntmps190 J J (fun C=>?_)
 refine cl rfl (q_Times (by omega) (by omega)) rfl<|cl rfl (q_Times (by omega) (by omega)) rfl<|cl rfl (q_Plus (by omega) (by omega)) rfl<|?_
 exact rz J J
theorem q_Cross{GB:Gh}{p q:PtQ}{i j:Nat}[hp:BPt p i][hq:BPt q j](hi:i≤200000:=by decide)(hj:j≤200000:=by decide):PF GB Tryz.prog 166 [eP p,eP q] (eQ (p.cross q)):=by
 refine fn Tryz.func166 J J Tryz.ntmps166 J J (fun C=>?_)
 refine cl rfl (q_Times (by omega) (by omega)) rfl<|cl rfl (q_Times (by omega) (by omega)) rfl<|cl rfl (q_Sub (by omega) (by omega)) rfl<|?_
 exact rz J J
theorem q_PAdd{GB:Gh}{p q:PtQ}{c:Rat}{i j k:Nat}[hp:BPt p i][hq:BPt q j][hc:BQ c k](hi:i≤200000:=by decide)(hj:j≤200000:=by decide)(hk:k≤200000:=by decide):PF GB Tryz.prog 64 [eP p,eQ c,eP q] (eP (movQ p q c)):=by
 refine fn Tryz.func64 J J Tryz.ntmps64 J J (fun C=>?_)
 refine cl rfl (q_Times (by omega) (by omega)) rfl<|cl rfl (q_Plus (by omega) (by omega)) rfl<|cl rfl (q_Times (by omega) (by omega)) rfl<|cl rfl (q_Plus (by omega) (by omega)) rfl<|?_
 exact rz J J
theorem q_Value{GB:Gh}{l:LnQ}{p:PtQ}{i:Nat}[hl:LB l][hp:BPt p i](hi:i≤400000:=by decide):PF GB Tryz.prog 194 [eL l,eP p] (eQ (l.value p)):=by
 refine fn Tryz.func194 J J Tryz.ntmps194 J J (fun C=>?_)
 refine cl rfl (q_sq (z:=l.a)) rfl<|cl rfl (q_Times (by omega) (by omega)) rfl<|cl rfl (q_sq (z:=l.b)) rfl<|cl rfl (q_Times (by omega) (by omega)) rfl<|?_
 refine cl rfl (q_Plus (by omega) (by omega)) rfl<|cl rfl (q_sq (z:=l.c)) rfl<|cl rfl (q_Plus (by omega) (by omega)) rfl<|?_
 exact rz J J
theorem q_Side{GB:Gh}{l:LnQ}{p:PtQ}{i:Nat}[hl:LB l][hp:BPt p i](hi:i≤400000:=by decide):PF GB Tryz.prog 137 [eL l,eP p] (vI (l.value p).num.sign):=by
 refine fn Tryz.func137 J J Tryz.ntmps137 J J (fun C=>?_)
 refine cl rfl (q_Value hi) rfl<|cl rfl q_S rfl<|?_
 exact rz J J
theorem q_Base{GB:Gh}{l:LnQ}[hl:LB l](hn:l.Ne):PF GB Tryz.prog 129 [eL l] (eP l.base):=by
 refine fn Tryz.func129 J J Tryz.ntmps129 J J (fun C=>?_)
 refine cl rfl q_Dir rfl<|cl rfl (q_sq (z:=l.c)) rfl<|cl rfl q_Dot rfl<|cl rfl (q_Over (dd_ne hn)) rfl<|cl rfl q_Opp rfl<|cl rfl (q_sq (z:=l.a)) rfl<|?_
 refine cl rfl q_Times rfl<|cl rfl (q_sq (z:=l.b)) rfl<|cl rfl q_Times rfl<|?_
 exact rz rfl (by rw[←base_ref];rfl)
instance BPt.base (l:LnQ) [LB l]:BPt l.base 900:=by
 rw[←base_ref]
 constructor
 ·exact BQ.mono (inferInstance:BQ (-((l.c:Rat)/l.dir.dot l.dir)*(l.a:Rat)) _) (by decide)
 ·exact BQ.mono (inferInstance:BQ (-((l.c:Rat)/l.dir.dot l.dir)*(l.b:Rat)) _) (by decide)
theorem q_At{GB:Gh}{l:LnQ}{t:Rat}{k:Nat}[hl:LB l][ht:BQ t k](hn:l.Ne)(hk:k≤200000:=by decide):PF GB Tryz.prog 197 [eL l,eQ t] (eP (l.at t)):=by
 refine fn Tryz.func197 J J Tryz.ntmps197 J J (fun C=>?_)
 refine cl rfl (q_Base hn) rfl<|cl rfl q_Dir rfl<|cl rfl (q_PAdd (by decide) (by decide) hk) rfl<|?_
 exact rz rfl (by rw[←at_ref];rfl)
theorem q_Param{GB:Gh}{l:LnQ}{p:PtQ}{k:Nat}[hl:LB l][hp:BPt p k](hn:l.Ne)(hk:k≤200000:=by decide):PF GB Tryz.prog 219 [eL l,eP p] (eQ (paramQ l p)):=by
 refine fn Tryz.func219 J J Tryz.ntmps219 J J (fun C=>?_)
 refine cl rfl q_Dir rfl<|cl rfl (q_Dot (by omega) (by decide)) rfl<|cl rfl (q_Dot (by omega) (by decide)) rfl<|cl rfl (q_Over (dd_ne hn) (by omega) (by decide)) rfl<|?_
 exact rz J J
instance BI.crossI (l m:LnQ) [LB l] [LB m]:BI (crossI l m) 385:=inferInstanceAs (BI (l.a*m.b-m.a*l.b) 385)
instance BI.meetX (l m:LnQ) [LB l] [LB m]:BI (meetX l m) 385:=inferInstanceAs (BI (l.b*m.c-m.b*l.c) 385)
instance BI.meetY (l m:LnQ) [LB l] [LB m]:BI (meetY l m) 385:=inferInstanceAs (BI (m.a*l.c-l.a*m.c) 385)
instance BPt.imeet (l m:LnQ) [LB l] [LB m]:BPt (meetP l m) 772:=by
 unfold meetP
 split
 ·exact⟨BQ.mono (k:=1) ⟨by decide,by decide⟩ (by decide),BQ.mono (k:=1) ⟨by decide,by decide⟩ (by decide)⟩
 ·exact⟨inferInstanceAs (BQ ((meetX l m:Rat)/(crossI l m:Rat)) 772),inferInstanceAs (BQ ((meetY l m:Rat)/(crossI l m:Rat)) 772)⟩
theorem cross_zero(l m:LnQ):(((l.a:Rat)*(m.b:Rat)-(m.a:Rat)*(l.b:Rat)).num.sign=0)↔crossI l m=0:=by
 rw[sgn_zero,←cross_cast]
 exact Rat.intCast_eq_zero_iff
theorem cross_ne{l m:LnQ}(h:crossI l m≠0):(l.a:Rat)*(m.b:Rat)-(m.a:Rat)*(l.b:Rat)≠0:=by
 rw[←cross_cast]
 exact fun e=>h (Rat.intCast_eq_zero_iff.1 e)
set_option maxHeartbeats 1000000 in
theorem q_Meet{GB:Gh}{l m:LnQ}[hl:LB l][hm:LB m]:PF GB Tryz.prog 130 [eL l,eL m] (.tp [eP (meetP l m),vB (decide (crossI l m≠0))]):=by
 refine fn Tryz.func130 J J Tryz.ntmps130 J J (fun C=>?_)
 refine cl rfl (q_sq (z:=l.a)) rfl<|cl rfl (q_sq (z:=m.b)) rfl<|cl rfl q_Times rfl<|cl rfl (q_sq (z:=m.a)) rfl<|cl rfl (q_sq (z:=l.b)) rfl<|?_
 refine cl rfl q_Times rfl<|cl rfl q_Sub rfl<|cl rfl q_S rfl<|?_
 refine br J J J (fun hc26=>?_) (fun hc26=>?_)
 ·
  have hcr:=(cross_zero l m).1 hc26
  exact rz rfl (by unfold meetP;rw[if_pos hcr,decide_eq_false (fun e=>e hcr)];show DV.tp [.ag [_, .sl [], .sl [],_, .sl [], .sl []],_]= .tp [eP ⟨0,0⟩,_];unfold eP dD;simp only[show(0:Rat).num=0 from rfl,show(0:Rat).den=1 from rfl,Int.natAbs_zero,dN_zero];rfl)
 ·
  have hcr:crossI l m≠0:=fun e=>hc26 ((cross_zero l m).2 e)
  refine cl rfl (q_sq (z:=l.b)) rfl<|cl rfl (q_sq (z:=m.c)) rfl<|cl rfl q_Times rfl<|cl rfl (q_sq (z:=m.b)) rfl<|cl rfl (q_sq (z:=l.c)) rfl<|?_
  refine cl rfl q_Times rfl<|cl rfl q_Sub rfl<|cl rfl (q_sq (z:=m.a)) rfl<|cl rfl (q_sq (z:=l.c)) rfl<|cl rfl q_Times rfl<|cl rfl (q_sq (z:=l.a)) rfl<|?_
  refine cl rfl (q_sq (z:=m.c)) rfl<|cl rfl q_Times rfl<|cl rfl q_Sub rfl<|cl rfl (q_Over (cross_ne hcr)) rfl<|cl rfl (q_Over (cross_ne hcr)) rfl<|?_
  exact rz rfl (by unfold meetP;rw[if_neg hcr,decide_eq_true hcr,meetX_cast,meetY_cast,cross_cast];rfl)
def lcmp(l m:LnQ):Int:=if(l.a-m.a).sign≠0 then(l.a-m.a).sign else if(l.b-m.b).sign≠0 then(l.b-m.b).sign else(l.c-m.c).sign
theorem lcmp_zero(l m:LnQ):lcmp l m=0↔l=m:=by
 unfold lcmp
 constructor
 ·intro h
  split at h
  ·contradiction
  ·split at h
   ·contradiction
   ·rename_i h1 h2
    have a1:=Int.sign_eq_zero_iff_zero.1 (Decidable.not_not.1 h1)
    have a2:=Int.sign_eq_zero_iff_zero.1 (Decidable.not_not.1 h2)
    have a3:=Int.sign_eq_zero_iff_zero.1 h
    exact LnQ.ext' (by omega) (by omega) (by omega)
 ·rintro rfl
  simp
theorem q_LCmp{GB:Gh}{l m:LnQ}[hl:LB l][hm:LB m]:PF GB Tryz.prog 136 [eL l,eL m] (vI (lcmp l m)):=by
 refine fn Tryz.func136 J J Tryz.ntmps136 J J (fun C=>?_)
 refine cl rfl (q_CompareI (a:=l.a) (b:=m.a)) rfl<|?_
 refine br J J J (fun hc13=>?_) (fun hc13=>?_)
 ·
  exact rz rfl (by show vI _=_;unfold lcmp;rw[if_pos hc13])
 ·
  refine cl rfl (q_CompareI (a:=l.b) (b:=m.b)) rfl<|?_
  refine br J J J (fun hc21=>?_) (fun hc21=>?_)
  ·
   exact rz rfl (by show vI _=_;unfold lcmp;rw[if_neg hc13,if_pos hc21])
  ·
   refine cl rfl (q_CompareI (a:=l.c) (b:=m.c)) rfl<|?_
   exact rz rfl (by show vI _=_;unfold lcmp;rw[if_neg hc13,if_neg hc21])
end Go.Sx
end

section
set_option maxRecDepth 100000
namespace Go.Sx
open Go Go.Proofs
theorem q_half{GB:Gh}{v:PtQ}:PF GB Tryz.prog 217 [eP v] (vI v.half):=by
 refine fn Tryz.func217 J J Tryz.ntmps217 J J (fun C=>?_)
 refine cl rfl (q_S (q:=v.x)) rfl<|cl rfl (q_S (q:=v.y)) rfl<|?_
 refine cs 13 J J J (fun hg13=>?_) (fun hg13=>?_)
 ·
  refine br J J J (fun hc16=>?_) (fun hc16=>?_)
  ·
   exact rz rfl (by show vI _=vI _;unfold PtQ.half;generalize v.x.num.sign=sx at*;generalize v.y.num.sign=sy at*;congr 1;(repeat' split)<;>omega)
  ·
   refine cs 19 J J J (fun hg19=>?_) (fun hg19=>?_)
   ·
    exact rz rfl (by show vI _=vI _;unfold PtQ.half;generalize v.x.num.sign=sx at*;generalize v.y.num.sign=sy at*;congr 1;(repeat' split)<;>omega)
   ·
    refine cs 22 J J J (fun hg22=>?_) (fun hg22=>?_)
    ·
     refine br J J J (fun hc26=>?_) (fun hc26=>?_)
     ·
      exact rz rfl (by show vI _=vI _;unfold PtQ.half;generalize v.x.num.sign=sx at*;generalize v.y.num.sign=sy at*;congr 1;(repeat' split)<;>omega)
     ·
      exact rz rfl (by show vI _=vI _;unfold PtQ.half;generalize v.x.num.sign=sx at*;generalize v.y.num.sign=sy at*;congr 1;(repeat' split)<;>omega)
    ·
     exact rz rfl (by show vI _=vI _;unfold PtQ.half;generalize v.x.num.sign=sx at*;generalize v.y.num.sign=sy at*;congr 1;(repeat' split)<;>omega)
 ·
  refine cs 19 J J J (fun hg19=>?_) (fun hg19=>?_)
  ·
   exact rz rfl (by show vI _=vI _;unfold PtQ.half;generalize v.x.num.sign=sx at*;generalize v.y.num.sign=sy at*;congr 1;(repeat' split)<;>omega)
  ·
   refine cs 22 J J J (fun hg22=>?_) (fun hg22=>?_)
   ·
    refine br J J J (fun hc26=>?_) (fun hc26=>?_)
    ·
     exact rz rfl (by show vI _=vI _;unfold PtQ.half;generalize v.x.num.sign=sx at*;generalize v.y.num.sign=sy at*;congr 1;(repeat' split)<;>omega)
    ·
     exact rz rfl (by show vI _=vI _;unfold PtQ.half;generalize v.x.num.sign=sx at*;generalize v.y.num.sign=sy at*;congr 1;(repeat' split)<;>omega)
   ·
    exact rz rfl (by show vI _=vI _;unfold PtQ.half;generalize v.x.num.sign=sx at*;generalize v.y.num.sign=sy at*;congr 1;(repeat' split)<;>omega)
theorem sgn_bd(z:Int): -1≤z.sign∧z.sign≤1:=by
 rcases Int.lt_trichotomy z 0 with h|h|h
 ·rw[Int.sign_eq_neg_one_of_neg h];omega
 ·rw[h];decide
 ·rw[Int.sign_eq_one_of_pos h];omega
theorem q_Angle{GB:Gh}{u v:PtQ}{i j:Nat}[hu:BPt u i][hv:BPt v j](hi:i≤200000:=by decide)(hj:j≤200000:=by decide):PF GB Tryz.prog 164 [eP u,eP v] (vI (angleQ u v)):=by
 refine fn Tryz.func164 J J Tryz.ntmps164 J J (fun C=>?_)
 refine cl rfl (q_half (v:=u)) rfl<|cl rfl (q_half (v:=v)) rfl<|?_
 refine br J J J (fun hc13=>?_) (fun hc13=>?_)
 ·
  refine br J J J (fun hc16=>?_) (fun hc16=>?_)
  ·
   exact rz rfl (by show vI _=vI _;unfold angleQ;rw[if_pos hc16])
  ·
   exact rz rfl (by show vI _=vI _;unfold angleQ;rw[if_neg hc16,if_pos (by omega)])
 ·
  refine cl rfl (q_Cross hi hj) rfl<|cl (hv:=by simp only[allP];exact(by have:=sgn_bd (u.cross v).num;omega)) rfl q_S rfl<|?_
  exact rz rfl (by show vI _=vI _;unfold angleQ;rw[if_neg (by omega),if_neg (by omega)])
instance BQ.i1:BQ (((1:Int):Rat)) 2:=⟨by decide,by decide⟩
def eV(v:IvQ):DV:= .ag [.v (.bool (decide (v.lo.num<0))),dN v.lo.num.natAbs,dD v.lo.den, .v (.bool (decide (v.hi.num<0))),dN v.hi.num.natAbs,dD v.hi.den, .v (.bool v.nl), .v (.bool v.nh)]
theorem eV_all:eV IvQ.all= .ag [.v (.bool false), .sl [], .sl [], .v (.bool false), .sl [], .sl [], .v (.bool true), .v (.bool true)]:=by
 unfold eV IvQ.all dD
 simp only[show(0:Rat).num=0 from rfl,show(0:Rat).den=1 from rfl,Int.natAbs_zero,dN_zero];rfl
theorem eQ_zero:eQ 0= .ag [.v (.bool false), .sl [], .sl []]:=by
 unfold eQ dD
 simp only[show(0:Rat).num=0 from rfl,show(0:Rat).den=1 from rfl,Int.natAbs_zero,dN_zero];rfl
def sampleR(v:IvQ):Rat:=if v.nl=true∧v.nh=true then 0 else if v.nl=true then v.hi-1 else if v.nh=true then v.lo+1 else(v.lo+v.hi)/2
theorem q_Full{GB:Gh}:PF GB Tryz.prog 240 [] (eV IvQ.all):=by
 refine fn Tryz.func240 J J Tryz.ntmps240 J J (fun C=>?_)
 exact rz rfl (by rw[eV_all];rfl)
theorem q_Sample{GB:Gh}{v:IvQ}{i:Nat}[hl:BQ v.lo i][hh:BQ v.hi i](hi:i≤100000:=by decide):PF GB Tryz.prog 198 [eV v] (eQ (sampleR v)):=by
 refine fn Tryz.func198 J J Tryz.ntmps198 J J (fun C=>?_)
 refine csb 6 J J J (fun hg6=>?_) (fun hg6=>?_)
 ·
  refine bb J J J (fun hc3=>?_) (fun hc3=>?_)
  ·
   exact rz rfl (by unfold sampleR;rw[if_pos ⟨hg6,hc3⟩,eQ_zero];rfl)
  ·
   refine bb J J J (fun hc11=>?_) (fun hc11=>?_)
   ·
    refine cl rfl (q_Of (n:=1) (by decide) (by decide)) rfl<|cl rfl (q_Sub (a:=v.hi) (b:=((1:Int):Rat)) (by omega) (by decide)) rfl<|?_
    exact rz rfl (by unfold sampleR;rw[if_neg (by simp[hc3]),if_pos hc11];rfl)
   ·
    refine bb J J J (fun hc18=>?_) (fun hc18=>?_)
    ·
     refine cl rfl (q_Of (n:=1) (by decide) (by decide)) rfl<|cl rfl (q_Plus (a:=v.lo) (b:=((1:Int):Rat)) (by omega) (by decide)) rfl<|?_
     exact rz rfl (by simp[hg6] at hc11)
    ·
     refine cl rfl (q_Mid (a:=v.lo) (b:=v.hi) (by omega) (by omega)) rfl<|?_
     exact rz rfl (by simp[hg6] at hc11)
 ·
  refine bb J J J (fun hc11=>?_) (fun hc11=>?_)
  ·
   refine cl rfl (q_Of (n:=1) (by decide) (by decide)) rfl<|cl rfl (q_Sub (a:=v.hi) (b:=((1:Int):Rat)) (by omega) (by decide)) rfl<|?_
   exact rz rfl (by simp[hg6] at hc11)
  ·
   refine bb J J J (fun hc18=>?_) (fun hc18=>?_)
   ·
    refine cl rfl (q_Of (n:=1) (by decide) (by decide)) rfl<|cl rfl (q_Plus (a:=v.lo) (b:=((1:Int):Rat)) (by omega) (by decide)) rfl<|?_
    exact rz rfl (by unfold sampleR;rw[if_neg (by simp[hg6]),if_neg (by simp[hg6]),if_pos hc18];rfl)
   ·
    refine cl rfl (q_Mid (a:=v.lo) (b:=v.hi) (by omega) (by omega)) rfl<|?_
    exact rz rfl (by unfold sampleR;rw[if_neg (by simp[hg6]),if_neg (by simp[hg6]),if_neg (by simp[hc18])];rfl)
end Go.Sx
end

section
set_option maxRecDepth 100000
namespace Go.Sx
open Go Go.Proofs
theorem BQ.of_fracI{q:Rat}{n D:Int}{i:Nat}(hd:0<D.natAbs)(h:q*((D.natAbs:Nat):Rat)=(n:Rat))(hn:BI n i)(hD:BI D i):BQ q i:=BQ.of_frac hd h hn.h hD.h
theorem biMono{m:Int}{i j:Nat}(h:BI m i)(hij:i≤j):BI m j:=⟨Nat.lt_of_lt_of_le h.h (Nat.pow_le_pow_right (by decide) hij)⟩
theorem param_bd{l m:LnQ}[LB l][LB m](hn:l.Ne)(h:crossI l m≠0):BQ (paramQ l (meetP l m)) 1200:=by
 have e:=param_frac hn h
 have hA:BI (crossI l m*(l.a*l.a+l.b*l.b)) _:=inferInstance
 have hB:BI (meetX l m*l.b-meetY l m*l.a) _:=inferInstance
 have hne:crossI l m*(l.a*l.a+l.b*l.b)≠0:=by
  intro q
  rcases Int.mul_eq_zero.1 q with q|q
  ·exact h q
  ·have h1:=dd_pos hn
   simp only[LnQ.dir,PtQ.dot] at h1
   have h2:((l.a*l.a+l.b*l.b:Int):Rat)=((0:Int):Rat):=by rw[q]
   rw[Rat.intCast_add,Rat.intCast_mul,Rat.intCast_mul] at h2
   have h3:((0:Int):Rat)=0:=rfl
   rw[h3] at h2
   grind
 have hA':=biMono (j:=1200) hA (by decide)
 have hB':=biMono (j:=1200) hB (by decide)
 generalize crossI l m*(l.a*l.a+l.b*l.b)=D at*
 generalize meetX l m*l.b-meetY l m*l.a=M at*
 by_cases hD:0<D
 ·refine BQ.of_fracI (n:=M) (D:=D) (by omega) ?_ hB' hA'
  rw[←e]
  congr 1
  have:((D.natAbs:Nat):Int)=D:=by omega
  rw[←this];rfl
 ·refine BQ.of_fracI (n:= -M) (D:=D) (by omega) ?_ (BI.neg M 1200 (h:=hB')) hA'
  rw[Rat.intCast_neg,←e]
  have:((D.natAbs:Nat):Rat)= -(D:Rat):=by
   have h1:((D.natAbs:Nat):Int)= -D:=by omega
   rw[←Rat.intCast_neg,←h1];rfl
  rw[this];grind
theorem sgn_le(k:Rat):k.num.sign≤0↔ ¬0<k:=by rw[←sgn_pos];omega
theorem empty_of{w:IvQ}(h1: ¬w.nl=true)(h2: ¬w.nh=true)(h3:0≤rcmp w.lo w.hi):w.empty=true:=by
 unfold IvQ.empty
 simp[h1,h2,h3]
theorem not_empty_nl{w:IvQ}(h:w.nl=true):w.empty=false:=by unfold IvQ.empty;simp[h]
theorem not_empty_nh{w:IvQ}(h:w.nh=true):w.empty=false:=by unfold IvQ.empty;simp[h]
theorem not_empty_lt{w:IvQ}(h: ¬0≤rcmp w.lo w.hi):w.empty=false:=by unfold IvQ.empty;simp[h]
def edgeV(l:LnQ):List LnQ→IvQ→IvQ×Bool
 |[],v=>(v,true)
 |m::t,v=>if m=l then edgeV l t v else if l.cutB v m=true then edgeV l t (l.cutV v m) else(l.cutV v m,false)
theorem edgeV_snd{l:LnQ}: ∀{c:List LnQ} {v:IvQ},(edgeV l c v).2=(partL l c v).isSome
 |[],v=>rfl
 |m::t,v=>by
  rw[edgeV,partL_cons]
  split
  ·exact edgeV_snd
  ·split
   ·exact edgeV_snd
   ·rfl
structure Stp (l:LnQ) (c:List LnQ) (k:Nat) (v:IvQ):Prop where
 le:k≤c.length
 p:partL l (c.drop k) v=partL l c IvQ.all
 e:edgeV l (c.drop k) v=edgeV l c IvQ.all
 z:IvZ v
 lo:BQ v.lo 1200
 hi:BQ v.hi 1200
theorem Stp.skip{l:LnQ}{c:List LnQ}{k:Nat}{v:IvQ}(h:Stp l c k v)(hk:k<c.length)(e:c[k]=l):Stp l c (k+1) v:=
 ⟨hk,by have:=h.p;rw[List.drop_eq_getElem_cons hk,partL_cons,if_pos e] at this;exact this,by have:=h.e;rw[List.drop_eq_getElem_cons hk,edgeV,if_pos e] at this;exact this,h.z,h.lo,h.hi⟩
theorem Stp.cut{l:LnQ}{c:List LnQ}{k:Nat}{v w:IvQ}(h:Stp l c k v)(hk:k<c.length)(e:c[k]≠l)(hb:l.cutB v c[k]=true)(hw:l.cutV v c[k]=w)(z:IvZ w)(lo:BQ w.lo 1200)(hi:BQ w.hi 1200):Stp l c (k+1) w:=
 ⟨hk,by have:=h.p;rw[List.drop_eq_getElem_cons hk,partL_cons,if_neg e,if_pos hb,hw] at this;exact this,by have:=h.e;rw[List.drop_eq_getElem_cons hk,edgeV,if_neg e,if_pos hb,hw] at this;exact this,z,lo,hi⟩
theorem Stp.no{l:LnQ}{c:List LnQ}{k:Nat}{v w:IvQ}(h:Stp l c k v)(hk:k<c.length)(e:c[k]≠l)(hb:l.cutB v c[k]=false)(hw:l.cutV v c[k]=w):edgeV l c IvQ.all=(w,false):=by
 rw[←h.e,List.drop_eq_getElem_cons hk,edgeV,if_neg e,if_neg (by rw[hb];decide),hw]
theorem Stp.yes{l:LnQ}{c:List LnQ}{k:Nat}{v:IvQ}(h:Stp l c k v)(hk:c.length≤k):edgeV l c IvQ.all=(v,true):=by
 rw[←h.e,List.drop_eq_nil_of_le hk];rfl
theorem Stp.all{l:LnQ}{c:List LnQ}:Stp l c 0 IvQ.all:=⟨Nat.zero_le _,by rw[List.drop_zero],by rw[List.drop_zero],IvZ.all,BQ.mono (k:=1) ⟨by decide,by decide⟩ (by decide),BQ.mono (k:=1) ⟨by decide,by decide⟩ (by decide)⟩
theorem updLo_y{v:IvQ}{t:Rat}(h:v.nl=true∨0<rcmp t v.lo):(⟨t,v.hi,false,v.nh⟩:IvQ)=updLo v t:=by unfold updLo;rw[if_pos h]
theorem updLo_n{v:IvQ}{t:Rat}(h: ¬v.nl=true)(h2: ¬0<rcmp t v.lo):v=updLo v t:=by unfold updLo;rw[if_neg (fun e=>e.elim h h2)]
theorem updHi_y{v:IvQ}{t:Rat}(h:v.nh=true∨rcmp t v.hi<0):(⟨v.lo,t,v.nl,false⟩:IvQ)=updHi v t:=by unfold updHi;rw[if_pos h]
theorem updHi_n{v:IvQ}{t:Rat}(h: ¬v.nh=true)(h2: ¬rcmp t v.hi<0):v=updHi v t:=by unfold updHi;rw[if_neg (fun e=>e.elim h h2)]
def updB(l m:LnQ)(v:IvQ):IvQ:=if 0<(m.dir.cross l.dir).num.sign then updLo v (paramQ l (meetP l m)) else updHi v (paramQ l (meetP l m))
theorem updB_spec{l m:LnQ}{v:IvQ}[LB l][LB m](hn:l.Ne)(hz:IvZ v)(hlo:BQ v.lo 1200)(hhi:BQ v.hi 1200)(h0:crossI l m≠0):l.cutV v m=updB l m v∧l.cutB v m=!(updB l m v).empty∧IvZ (updB l m v)∧BQ (updB l m v).lo 1200∧BQ (updB l m v).hi 1200:=by
 have hb:=param_bd (l:=l) (m:=m) hn h0
 unfold updB
 split
 ·rename_i h
  obtain⟨_,h1,h2⟩:=step_lo hn hz ((sgn_pos _).1 h)
  refine⟨h1,h2,hz.lo' _,?_⟩
  unfold updLo;split
  ·exact⟨hb,hhi⟩
  ·exact⟨hlo,hhi⟩
 ·rename_i h
  obtain⟨h1,h2⟩:=step_hi hn hz h0 (fun e=>h ((sgn_pos _).2 e))
  refine⟨h1,h2,hz.hi' _,?_⟩
  unfold updHi;split
  ·exact⟨hlo,hb⟩
  ·exact⟨hlo,hhi⟩
theorem edgeV_bd{l:LnQ}[LB l](hn:l.Ne): ∀{c:List LnQ} {v:IvQ},(∀m∈c,LB m)→IvZ v→BQ v.lo 1200→BQ v.hi 1200→BQ (edgeV l c v).1.lo 1200∧BQ (edgeV l c v).1.hi 1200
 |[],v,_,_,h1,h2=>⟨h1,h2⟩
 |m::t,v,hc,hz,h1,h2=>by
  haveI:=hc m List.mem_cons_self
  have hw:IvZ (l.cutV v m)∧BQ (l.cutV v m).lo 1200∧BQ (l.cutV v m).hi 1200:=by
   by_cases h0:crossI l m=0
   ·rw[(step_par (v:=v) h0).1];exact⟨hz,h1,h2⟩
   ·obtain⟨u1,_,u3,u4,u5⟩:=updB_spec (v:=v) hn hz h1 h2 h0
    rw[u1];exact⟨u3,u4,u5⟩
  have hc':=fun m hm=>hc m (List.mem_cons_of_mem _ hm)
  rw[edgeV]
  split
  ·exact edgeV_bd hn hc' hz h1 h2
  ·split
   ·exact edgeV_bd hn hc' hw.1 hw.2.1 hw.2.2
   ·exact hw.2
set_option maxHeartbeats 4000000 in
theorem q_edge{GB:Gh}{c:List LnQ}{i:Nat}(hc: ∀m∈c,LB m)(hok: ∀m∈c,m.ok)(hn:c.length≤1000)(hi:i<c.length):PF GB Tryz.prog 195 [.sl (c.map eL),vI (i:Nat)] (.tp [eV (edgeV (c[i]'hi) c IvQ.all).1,vB (edgeV (c[i]'hi) c IvQ.all).2]):=by
 have hcl:=mapL_len c
 obtain⟨l,hl⟩: ∃l,l=c[i]:=⟨_,rfl⟩
 rw[←hl]
 haveI hlb:LB l:=hl▸hc _ (List.getElem_mem hi)
 have hlo:l.ok:=hl▸hok _ (List.getElem_mem hi)
 refine fn Tryz.func195 J J Tryz.ntmps195 J J (fun C=>?_)
 refine ix (fu:=⟨1⟩) _ rfl (mapL_get hi) rfl<|?_
 refine eqF 16 (.d (eL l)) rfl (by rw[hl];rfl) ?_
 refine gx rfl<|cl (fu:=⟨9⟩) rfl q_Full rfl<|?_
 refine eqF 19 (.d (vI (c.length:Nat))) rfl (by rw[hcl];rfl) ?_
 refine gx rfl<|?_
 refine lp (X:=IvQ×Nat) (fun⟨v,k⟩=>[(20, .d (vI (k:Nat))),(19, .d (vI (c.length:Nat))),(18, .d (.sl (c.map eL))),(1, .d (vI (i:Nat))),(6, .ov 6 0),(7, .ov 7 0),(4, .ov 4 0)]) (fun⟨v,k⟩=>[(7,some (.o 184 [.d ((.v (.bool (decide (v.lo.num<0))))), .d (dN v.lo.num.natAbs), .d (dD v.lo.den), .d ((.v (.bool (decide (v.hi.num<0))))), .d (dN v.hi.num.natAbs), .d (dD v.hi.den), .d ((.v (.bool v.nl))), .d ((.v (.bool v.nh)))] true)),(6,some (.o 46 [.d ((.v (.bool (decide (l.a<0))))), .d (dN l.a.natAbs), .d ((.v (.bool (decide (l.b<0))))), .d (dN l.b.natAbs), .d ((.v (.bool (decide (l.c<0))))), .d (dN l.c.natAbs)] true)),(4,some (.o 184 [.ff, .nl, .nl, .ff, .nl, .nl, .ff, .ff] true))]) (fun⟨v,k⟩=>Stp l c k v) (fun⟨v,k⟩=>c.length-k) ⟨IvQ.all,0⟩ rfl Stp.all (fun _=>rfl) (fun⟨v,k⟩ hk=>?_)
 try dsimp only at hk⊢
 have hS:=hk
 refine br J J J (fun hc21=>?_) (fun hc21=>?_)
 ·
  have hk:k<c.length:=by omega
  obtain⟨m,hm⟩: ∃m,m=c[k]:=⟨_,rfl⟩
  haveI hmb:LB m:=hm▸hc _ (List.getElem_mem hk)
  have hmo:m.ok:=hm▸hok _ (List.getElem_mem hk)
  refine ix (fu:=⟨1⟩) _ rfl (mapL_get hk) rfl<|?_
  refine eqF 24 (.d (eL m)) rfl (by rw[hm];rfl) ?_
  refine gx rfl<|?_
  refine cs 28 J J J (fun hg28=>?_) (fun hg28=>?_)
  ·
   have hinv:Stp l c (k+1) v:=hS.skip hk (by rw[hl];congr 1;omega)
   exact at_ ⟨v,k+1⟩ (by dsimp only;exact⟨hinv,(by omega)⟩)
  ·
   refine cl rfl (q_LCmp (l:=l) (m:=m)) rfl<|?_
   refine br J J J (fun hc33=>?_) (fun hc33=>?_)
   ·
    have hinv:Stp l c (k+1) v:=hS.skip hk (by rw[←hm,(lcmp_zero l m).1 hc33])
    exact at_ ⟨v,k+1⟩ (by dsimp only;exact⟨hinv,(by omega)⟩)
   ·
    have hne:c[k]≠l:=fun e=>hc33 ((lcmp_zero l m).2 (by rw[hm,e]))
    refine cl (fu:=⟨13⟩) rfl (q_Meet (l:=l) (m:=m)) rfl<|?_
    refine eqF 41 (.d (.v (.bool (decide (crossI l m=0))))) rfl (by simp) ?_
    refine gx rfl<|?_
    refine bd J J J (fun hc41=>?_) (fun hc41=>?_)
    ·
     refine cl rfl (q_Base hlo.ne) rfl<|cl rfl (q_Side (l:=m) (p:=l.base)) rfl<|?_
     refine br J J J (fun hc46=>?_) (fun hc46=>?_)
     ·
      have hno:=hS.no (w:=v) hk hne (by have:=(step_par (v:=v) hc41).2;rw[←hm];cases hb:l.cutB v m with|false=>rfl|true=>exact absurd (this.1 hb) ((sgn_le _).1 hc46)) (by rw[←hm];exact(step_par (v:=v) hc41).1)
      exact rz rfl (by rw[hno];rfl)
     ·
      have hinv:Stp l c (k+1) v:=by have:=step_par (v:=v) hc41;exact hS.cut hk hne (by rw[←hm];exact this.2.2 (by have:=mt (sgn_le (m.value l.base)).2 hc46;exact Decidable.not_not.1 this)) (by rw[←hm];exact this.1) hS.z hS.lo hS.hi
      exact at_ ⟨v,k+1⟩ (by dsimp only;exact⟨hinv,(by omega)⟩)
    ·
     obtain⟨u1,u2,u3,u4,u5⟩:=updB_spec (v:=v) hlo.ne hS.z hS.lo hS.hi hc41
     haveI htb:=param_bd hlo.ne hc41
     haveI hvl:=hS.lo
     haveI hvh:=hS.hi
     refine cl (fu:=⟨0⟩) rfl (q_Param (l:=l) (p:=meetP l m) hlo.ne) rfl<|?_
     obtain⟨t,ht⟩: ∃t,t=paramQ l (meetP l m):=⟨_,rfl⟩
     refine eqF 50 (.d (eQ t)) rfl (by rw[ht]) ?_
     rw[←ht] at htb
     refine gx (fu:=⟨5⟩) rfl<|?_
     refine mg (X:=IvQ) (fun w=>[(20, .d (vI (k:Nat))),(19, .d (vI (c.length:Nat))),(18, .d (.sl (c.map eL))),(1, .d (vI (i:Nat))),(6, .ov 6 0),(7, .ov 7 0),(4, .ov 4 0)]) (fun w=>[(7,some (.o 184 [.d ((.v (.bool (decide (w.lo.num<0))))), .d (dN w.lo.num.natAbs), .d (dD w.lo.den), .d ((.v (.bool (decide (w.hi.num<0))))), .d (dN w.hi.num.natAbs), .d (dD w.hi.den), .d ((.v (.bool w.nl))), .d ((.v (.bool w.nh)))] true)),(6,some (.o 46 [.d ((.v (.bool (decide (l.a<0))))), .d (dN l.a.natAbs), .d ((.v (.bool (decide (l.b<0))))), .d (dN l.b.natAbs), .d ((.v (.bool (decide (l.c<0))))), .d (dN l.c.natAbs)] true)),(4,some (.o 184 [.ff, .nl, .nl, .ff, .nl, .nl, .ff, .ff] true))]) (fun w=>w=updB l m v) [20,19,18,1,6,7,4] [7,6,4] rfl ?_ (fun _=>rfl) (fun w hw=>?_)
     ·
      refine gx rfl<|cl rfl (q_Dir (l:=m)) rfl<|cl rfl (q_Dir (l:=l)) rfl<|cl rfl (q_Cross (p:=m.dir) (q:=l.dir)) rfl<|cl rfl (q_S (q:=m.dir.cross l.dir)) rfl<|?_
      refine br J J J (fun hc57=>?_) (fun hc57=>?_)
      ·
       refine csb 60 J J J (fun hg60=>?_) (fun hg60=>?_)
       ·
        refine dpE 7 J J J ?_
        exact at_ ⟨t,v.hi,false,v.nh⟩ (by unfold updB;rw[if_pos hc57,←ht];exact updLo_y (.inl hg60))
       ·
        refine cl rfl (q_C (a:=t) (b:=v.lo)) rfl<|?_
        refine br J J J (fun hc66=>?_) (fun hc66=>?_)
        ·
         refine dpE 7 J J J ?_
         exact at_ ⟨t,v.hi,false,v.nh⟩ (by unfold updB;rw[if_pos hc57,←ht];exact updLo_y (.inr hc66))
        ·
         exact at_ v (by unfold updB;rw[if_pos hc57,←ht];exact updLo_n (by simp[hg60]) hc66)
      ·
       refine csb 72 J J J (fun hg72=>?_) (fun hg72=>?_)
       ·
        refine dpE 7 J J J ?_
        exact at_ ⟨v.lo,t,v.nl,false⟩ (by unfold updB;rw[if_neg hc57,←ht];exact updHi_y (.inl hg72))
       ·
        refine cl rfl (q_C (a:=t) (b:=v.hi)) rfl<|?_
        refine br J J J (fun hc78=>?_) (fun hc78=>?_)
        ·
         refine dpE 7 J J J ?_
         exact at_ ⟨v.lo,t,v.nl,false⟩ (by unfold updB;rw[if_neg hc57,←ht];exact updHi_y (.inr hc78))
        ·
         exact at_ v (by unfold updB;rw[if_neg hc57,←ht];exact updHi_n (by simp[hg72]) hc78)
     ·
      rw[←hw] at u1 u2 u3 u4 u5
      haveI:=u4
      haveI:=u5
      refine csb 85 J J J (fun hg85=>?_) (fun hg85=>?_)
      ·
       refine csb 90 J J J (fun hg90=>?_) (fun hg90=>?_)
       ·
        refine cl rfl (q_C (a:=w.lo) (b:=w.hi)) rfl<|?_
        refine br J J J (fun hc97=>?_) (fun hc97=>?_)
        ·
         have hno:=hS.no (w:=w) hk hne (by rw[←hm,u2,empty_of (by simpa using hg85) (by simpa using hg90) hc97];rfl) (by rw[←hm,u1])
         exact rz rfl (by rw[hno];rfl)
        ·
         have hinv:Stp l c (k+1) w:=hS.cut hk hne (by rw[←hm,u2,not_empty_lt hc97];rfl) (by rw[←hm,u1]) u3 u4 u5
         exact at_ ⟨w,k+1⟩ (by dsimp only;exact⟨hinv,(by omega)⟩)
       ·
        have hinv:Stp l c (k+1) w:=hS.cut hk hne (by rw[←hm,u2,not_empty_nh (by simpa using hg90)];rfl) (by rw[←hm,u1]) u3 u4 u5
        exact at_ ⟨w,k+1⟩ (by dsimp only;exact⟨hinv,(by omega)⟩)
      ·
       have hinv:Stp l c (k+1) w:=hS.cut hk hne (by rw[←hm,u2,not_empty_nl (by simpa using hg85)];rfl) (by rw[←hm,u1]) u3 u4 u5
       exact at_ ⟨w,k+1⟩ (by dsimp only;exact⟨hinv,(by omega)⟩)
 ·
  exact rz rfl (by rw[hS.yes (by omega)];rfl)
end Go.Sx
end
