/-
  Reference: Divide, Common; integers and fractions of any size. What the packages geo, bsp and reduce compute, on fractions and trees, and what the reduced tree is like. Plane geometry of the cells: clipping a cell with an interior cuts it exactly; the place of a cell; trees restricted twice. What the reference does with cells and trees: the same as the code, since both go by the points inside. Package geo: intervals. Package geo: Sample, Cut, Cmp, Equal, half, Angle. Package geo: cells; part, Place. Package geo: Place, the order of sides, binary search. Binary search and insertion in rows of sides. Insertion into a row of sides. Package geo: Clip, Divide. Package geo: Divide. Package bsp: trees in memory; Leaf, New, Join, Restrict, Reduce, Depth. Package bsp: the reader of trees. Package bsp: Of, and lines in the form of package api. Package bsp: trees written for package api. Package bsp: Parts; package reduce: read, Reduce; package cells: parts. Package geo: LinesOf, Canon; package reduce: Restrict. Reference: the arithmetic of fractions in plain Lean. Reference: integers and fractions of any size. Reference: fractions of any size.
-/
import Derived.Test.YtopfgminkdfpkaaGreatDoorMw9
set_option linter.unusedSimpArgs false
set_option maxHeartbeats 4000000
set_option maxRecDepth 100000
set_option linter.unusedVariables false
section
namespace Go.Sx
open Go Go.Proofs
variable {GB:Gh}
theorem ao1{a b:Nat}(h:b≤a):(dg b).length≤(dg a).length:=ahb (Nat.lt_of_le_of_lt h (ade a))
theorem ad9{a b ia ib:Nat}[ha:BN a ia][hb:BN b ib](hb0:0<b)(hi:ia≤500000000:=by decide)(hj:ib≤500000000:=by decide):PF GB Tryz.prog 195 [dN a,dN b] (.tp [dN (a/b),dN (a%b)]):=by
 have hla:=aaB (dg a)
 have hlb:=aaB (dg b)
 have hba:=aa4 ha.h
 have hbb:=aa4 hb.h
 have hba':(dg a).length≤20000000:=by omega
 have hbb':(dg b).length≤20000000:=by omega
 have hlb1:1≤(dg b).length:=anG (k:=0) (by rw[Nat.pow_zero];exact hb0)
 refine fn (fu:=⟨7⟩) Tryz.func195 J J Tryz.ntmps195 J J (fun C=>?_)
 refine mg (X:=Unit) (fun _=>[(0, .d (dN a)),(1, .d (dN b))]) (fun _=>[]) (fun _=>True) [0,1] [] rfl ?_ (fun _=>rfl) (fun _ hm=>?_)
 ·
  refine gx rfl<|cl rfl (aqh (a:=a) (ia:=ia) (by omega)) rfl<|?_
  refine bd (fu1:=⟨0⟩) J J J (fun hc18=>?_) (fun hc18=>?_)
  ·
   refine eqF 6 (.d (.v (.int .u64 (a:Nat)))) rfl (by rw[if_pos hc18]) ?_
   refine gx rfl<|cl rfl (aqh (a:=b) (ia:=ib) (by omega)) rfl<|?_
   refine bd (fu1:=⟨0⟩) J J J (fun hc24=>?_) (fun hc24=>?_)
   ·
    refine eqF 8 (.d (.v (.int .u64 (b:Nat)))) rfl (by rw[if_pos hc24]) ?_
    have hdl:=Nat.div_le_self a b
    have hml:=Nat.mod_le a b
    refine gx (hv:=by simp only[aai];exact⟨(by omega),(by omega),(by omega)⟩) rfl<|cl (hv:=by simp only[aai];exact⟨(by omega),(by omega)⟩) rfl (ah3 (u:=a/b) (by omega)) rfl<|cl rfl (ah3 (u:=a%b) (by omega)) rfl<|?_
    exact rz J J
   ·
    exact at_ () trivial
  ·
   exact at_ () trivial
 ·
  refine cl rfl (at4 (by omega) (by omega)) rfl<|?_
  refine br J J J (fun hc36=>?_) (fun hc36=>?_)
  ·
   have hab:=afV.1 hc36
   refine ro0 J J<|ap _ J J (an8 _) rfl<|?_
   refine fzE 39 rfl ?_
   exact rz rfl (by show DV.tp [_, .sl ([]++_)]= .tp [_,_];rw[Nat.div_eq_of_lt hab,Nat.mod_eq_of_lt hab,adv];rfl)
  ·
   have hab:b≤a:=Nat.le_of_not_lt fun q=>hc36 (afV.2 q)
   have hlab:(dg b).length≤(dg a).length:=ao1 hab
   refine br (fu1:=⟨4⟩) J J J (fun hc42=>?_) (fun hc42=>?_)
   ·
    have hb1:b<4294967296:=by have:=ade b;rw[show(dg b).length=1 by omega] at this;omega
    have hbd:(dg b).getD 0 0=b:=acA (by omega)
    refine eqF 44 (.d (vI ((dg a).length:Nat))) rfl (by rw[hla];rfl) ?_
    refine gx rfl<|mk (fu:=⟨13⟩) ((List.replicate (dg a).length 0).map dU) J J (by rw[←aeU];rfl) rfl<|?_
    refine eqF 47 (.d (vI ((dg a).length:Nat))) rfl (by rw[hla];rfl) ?_
    refine gx rfl<|?_
    refine lp (X:=List Nat×Nat) (fun⟨W,k⟩=>[(0, .d (dN a)),(1, .d (dN b)),(10, .rw 45),(11, .d (dU (dv ((dg a).drop k)%b))),(12, .d (vI ((k:Nat)-1)))]) (fun⟨W,k⟩=>[(45,some (.b 262 1 (W.map dU) true))]) (fun⟨W,k⟩=>W.length=(dg a).length∧DOk W∧k≤(dg a).length∧dv (W.drop k)=dv ((dg a).drop k)/b) (fun⟨W,k⟩=>k) ⟨List.replicate (dg a).length 0,(dg a).length⟩ rfl ⟨by simp, .replicate _,Nat.le_refl _,by simp[dv]⟩ (fun _=>rfl) (fun⟨W,k⟩ hk=>?_) (hF:=(by refine⟨rfl,rfl,rfl,leI rfl (by simp[dv,dU]),leI rfl (by simp[vI]),?_⟩;repeat (first|exact trivial|refine And.intro rfl ?_)))
    try dsimp only at hk⊢
    obtain⟨h1,h2,h3,h4⟩:=hk
    have hlw:=aaB W
    refine br (fu1:=⟨0⟩) J J J (fun hc50=>?_) (fun hc50=>?_)
    ·
     obtain⟨k,rfl⟩: ∃j,k=j+1:=⟨k-1,by omega⟩
     have hsi:=auE hb0 (by omega) h1 h4
     have hrm:=Nat.mod_lt (dv ((dg a).drop (k+1))) hb0
     have hdk:=adt a k
     have hqd:(dv ((dg a).drop (k+1))%b*4294967296+(dg a).getD k 0)/b<4294967296:=by rw[Nat.div_lt_iff_lt_mul hb0];have:=Nat.mul_le_mul_left 4294967296 (show dv ((dg a).drop (k+1))%b+1≤b from hrm);omega
     refine eqF 12 (.d (vI (k:Nat))) rfl (by show FX.d (.v (.int _ _))= .d (.v (.int _ _));congr 3;omega) ?_
     refine gx rfl<|ix _ rfl (aaC (k:=k) (by omega) (by omega)) rfl<|ix _ rfl (aaC (k:=0) rfl (by omega)) rfl<|cl rfl (aAS (h:=dv ((dg a).drop (k+1))%b) (l:=(dg a).getD k 0) (y:=(dg b).getD 0 0) (by omega) hdk (by omega)) rfl<|?_
     refine sb (hv:=by simp only[aai];exact⟨by kernel_rfl,by omega⟩) _ ((W.set k ((dv ((dg a).drop (k+1))%b*4294967296+(dg a).getD k 0)/b)).map dU) rfl (aaC (k:=k) (by omega) (by omega)) rfl (by(rw[hbd,Int.toNat_natCast,←aef])<;>rfl) rfl<|?_
     exact at_ ⟨W.set k ((dv ((dg a).drop (k+1))%b*4294967296+(dg a).getD k 0)/b),k⟩ (by dsimp only;exact⟨⟨by simpa using h1,h2.set _ hqd,by omega,hsi.1⟩,(by omega)⟩) (by refine⟨rfl,rfl,rfl,leI rfl (by rw[hsi.2,hbd]),leI rfl (by first|(simp[vI];done)|(simp[vI];omega)),?_⟩;repeat (first|exact trivial|refine And.intro rfl ?_))
    ·
     refine fz 45 J J<|cl rfl (agc (ds:=W) (by omega)) rfl<|rf J J<|cl rfl (agc (ds:=[dv ((dg a).drop k)%b]) (by simp)) rfl<|?_
     exact rz rfl (by show DV.tp [dLi _,dLi _]= .tp [_,_];obtain rfl:k=0:=(by omega);rw[List.drop_zero,List.drop_zero,aaR] at h4;rw[List.drop_zero,aaR];rw[aeR h2 h4,aeR (.cons (by have:=Nat.mod_lt a hb0;omega) .nil) (n:=a%b) (by simp[dv])])
   ·
    refine cl rfl (aDm (by omega) (by omega) hlb1 hlab) rfl<|?_
    exact rz J J
theorem apS(x y:Nat):Nat.gcd y (x%y)=Nat.gcd x y:=by rw[Nat.gcd_comm x y,Nat.gcd_rec y x,Nat.gcd_comm]
theorem ain{a b ia ib:Nat}[ha:BN a ia][hb:BN b ib](hi:ia≤240000000:=by decide)(hj:ib≤240000000:=by decide):PF GB Tryz.prog 194 [dN a,dN b] (dN (Nat.gcd a b)):=by
 refine fn (fu:=⟨6⟩) Tryz.func194 J J Tryz.ntmps194 J J (fun C=>?_)
 refine mg (X:=Unit) (fun _=>[(0, .d (dN a)),(1, .d (dN b))]) (fun _=>[]) (fun _=>True) [0,1] [] rfl ?_ (fun _=>rfl) (fun _ hm=>?_)
 ·
  refine gx rfl<|cl rfl (aqh (a:=a) (ia:=ia) (by omega)) rfl<|?_
  refine bd (fu1:=⟨0⟩) J J J (fun hc16=>?_) (fun hc16=>?_)
  ·
   refine eqF 5 (.d (.v (.int .u64 (a:Nat)))) rfl (by rw[if_pos hc16]) ?_
   refine gx rfl<|cl rfl (aqh (a:=b) (ia:=ib) (by omega)) rfl<|?_
   refine bd (fu1:=⟨0⟩) J J J (fun hc22=>?_) (fun hc22=>?_)
   ·
    refine eqF 7 (.d (.v (.int .u64 (b:Nat)))) rfl (by rw[if_pos hc22]) ?_
    refine gx rfl<|?_
    refine lp (X:=Nat×Nat) (fun⟨x,y⟩=>[(5, .d (.v (.int .u64 (x:Nat)))),(7, .d (.v (.int .u64 (y:Nat))))]) (fun⟨x,y⟩=>[]) (fun⟨x,y⟩=>x<18446744073709551616∧y<18446744073709551616∧Nat.gcd x y=Nat.gcd a b) (fun⟨x,y⟩=>y) ⟨a,b⟩ rfl ⟨hc16,hc22,rfl⟩ (fun _=>rfl) (fun⟨x,y⟩ hk=>?_)
    try dsimp only at hk⊢
    obtain⟨h1,h2,h3⟩:=hk
    refine br (v1:=fun hc24=>by simp only[aai];exact⟨⟨(by omega),(by omega)⟩,by kernel_rfl⟩) J J J (fun hc24=>?_) (fun hc24=>?_)
    ·
     exact at_ ⟨y,x%y⟩ (by dsimp only;exact⟨⟨h2,by have:=Nat.mod_lt x (show 0<y by omega);omega,by rw[apS,h3]⟩,(by exact Nat.mod_lt _ (by omega))⟩)
    ·
     refine cl rfl (ah3 (u:=x) h1) rfl<|?_
     exact rz rfl (by show dN x=_;rw[←h3,show y=0 by omega,Nat.gcd_zero_right])
   ·
    exact at_ () trivial
  ·
   exact at_ () trivial
 ·
  refine lp (fu:=⟨5⟩) (X:=Nat×Nat) (fun⟨x,y⟩=>[(0, .d (dN x)),(1, .d (dN y))]) (fun⟨x,y⟩=>[]) (fun⟨x,y⟩=>x<2^(ia+ib)∧y<2^(ia+ib)∧Nat.gcd x y=Nat.gcd a b) (fun⟨x,y⟩=>y) ⟨a,b⟩ rfl ⟨(ha.mono (by omega)).h,(hb.mono (by omega)).h,rfl⟩ (fun _=>rfl) (fun⟨x,y⟩ hk=>?_)
  try dsimp only at hk⊢
  obtain⟨h1,h2,h3⟩:=hk
  have hly:=aaB (dg y)
  haveI hx':BN x (ia+ib):=⟨h1⟩
  haveI hy':BN y (ia+ib):=⟨h2⟩
  refine eqF 32 (.d (vI ((dg y).length:Nat))) rfl (by rw[hly];rfl) ?_
  refine gx rfl<|?_
  refine br J J J (fun hc33=>?_) (fun hc33=>?_)
  ·
   have hy0:0<y:=Nat.pos_of_ne_zero fun q=>by subst q;rw[agj] at hc33;simp at hc33
   refine cl rfl (ad9 (a:=x) (b:=y) (ia:=ia+ib) (ib:=ia+ib) hy0 (by omega) (by omega)) rfl<|?_
   exact at_ ⟨y,x%y⟩ (by dsimp only;exact⟨⟨h2,by have:=Nat.mod_lt x hy0;omega,by rw[apS,h3]⟩,(by exact Nat.mod_lt _ hy0)⟩)
  ·
   have hy0:y=0:=ab2.1 (by omega)
   have hlx:=aa4 h1
   have hmx:=aaB (dg x)
   refine ro0 J J<|ap _ J J (an8 _) rfl<|?_
   refine fzE 44 rfl ?_
   exact rz rfl (by show DV.sl ([]++_)=_;rw[←h3,hy0,Nat.gcd_zero_right];rfl)
theorem aDM(neg:Bool)(m:Nat):eI (zv neg m)= .ag [.v (.bool (neg&&decide (0<m))),dN m]:=by unfold eI;rw[aeD,am1]
theorem aCW(z:Int):zv (!decide (z<0)) z.natAbs= -z:=by
 unfold zv
 by_cases h:z<0<;>simp[h]<;>omega
theorem aBT(a b:Int):zv (!(decide (a<0)==decide (b<0))) (a.natAbs*b.natAbs)=a*b:=by
 have h:=ay7 (decide (a<0)) (decide (b<0)) a.natAbs b.natAbs
 rw[adQ,adQ] at h
 exact h
theorem acb{neg:Bool}{m:Nat}:PF GB Tryz.prog 157 [.v (.bool neg),dN m] (eI (zv neg m)):=by
 have hl:=aaB (dg m)
 have hz:= @ab2 m
 refine fn Tryz.func157 J J Tryz.ntmps157 J J (fun C=>?_)
 refine csb 6 J J J (fun hg6=>?_) (fun hg6=>?_)
 ·
  exact rz rfl (by rw[aDM,hg6];show DV.ag [.v (.bool _),_]= .ag [.v (.bool _),_];congr 4;rw[Bool.true_and];exact decide_eq_decide.2 (by omega))
 ·
  exact rz rfl (by rw[aDM,hg6];rfl)
end Go.Sx
end
section
namespace Go.Sx
open Go
instance:DecidableEq LnQ:=fun x y=>decidable_of_iff (x.a=y.a∧x.b=y.b∧x.c=y.c) (by
 cases x;cases y;simp)
structure IvQ where
 lo:Rat
 hi:Rat
 nl:Bool
 nh:Bool
def IvQ.all:IvQ:=⟨0,0,true,true⟩
def IvQ.empty(v:IvQ):Bool:=!v.nl&&(!v.nh&&decide (0≤aa1 v.lo v.hi))
def IvQ.meet(v w:IvQ):IvQ:=
 ⟨if v.nl then w.lo else if w.nl then v.lo else if v.lo<w.lo then w.lo else v.lo,
  if v.nh then w.hi else if w.nh then v.hi else if w.hi<v.hi then w.hi else v.hi,v.nl&&w.nl,v.nh&&w.nh⟩
def IvQ.sample(v:IvQ):Rat:=if v.nl&&v.nh then 0 else if v.nl then v.hi-1 else if v.nh then v.lo+1 else(v.lo+v.hi)*mkRat 1 2
def LnQ.cutK(l m:LnQ):Rat:=m.nor.dot l.dir
def LnQ.cutC(l m:LnQ):Rat:=m.value l.base
def LnQ.cutV(l:LnQ)(v:IvQ)(m:LnQ):IvQ:=
 if Int.sign (l.cutK m).num=0 then v
 else if Int.sign (l.cutK m).num=1 then v.meet ⟨-(l.cutC m/l.cutK m),0,false,true⟩
 else v.meet ⟨0, -(l.cutC m/l.cutK m),true,false⟩
def LnQ.cutB(l:LnQ)(v:IvQ)(m:LnQ):Bool:=
 if Int.sign (l.cutK m).num=0 then decide (0<Int.sign (l.cutC m).num) else !(l.cutV v m).empty
structure FrQ where
 l:LnQ
 v:IvQ
abbrev aaf:=List FrQ
def ahj(l:LnQ):aaf→IvQ→Option IvQ
 |[],v=>some v
 |s::t,v=>if l.cutB v s.l then ahj l t (l.cutV v s.l) else none
def af0(c:aaf)(l:LnQ):Option IvQ:=ahj l c IvQ.all
def aer(l:LnQ)(s:FrQ):Int:=Int.sign (l.value (s.l.at s.v.sample)).num
def aey(l:LnQ):aaf→Int
 |[]=> -1
 |s::t=>if aer l s≠0 then aer l s else if s.l=l then 1 else aey l t
def akd(c:aaf)(l:LnQ):Int:=if(af0 c l).isSome then 0 else aey l c
def PtQ.half(p:PtQ):Int:=
 if 0<Int.sign p.y.num∨(Int.sign p.y.num=0∧0<Int.sign p.x.num) then 1 else if Int.sign p.y.num<0∨Int.sign p.x.num<0 then 2 else 0
def abY(u v:PtQ):Int:=if u.half<v.half then-1 else if v.half<u.half then 1 else-(Int.sign (u.cross v).num)
def acF(l:LnQ):aaf→aaf
 |[]=>[]
 |s::t=>if s.l.cutB s.v l then⟨s.l,s.l.cutV s.v l⟩::acF l t else acF l t
def bsq(p:Nat→Bool)(i j:Nat):Nat:=
 if h:i<j then(if p ((i+j)/2) then bsq p ((i+j)/2+1) j else bsq p i ((i+j)/2)) else i
termination_by j-i
def agJ(c:aaf)(l:LnQ)(i:Nat):Bool:=match c[i]? with
 |some s=>decide (abY s.l.dir l.dir<0)
 |none=>false
def ar3(c:aaf)(l:LnQ)(v:IvQ):aaf:=
 c.take (bsq (agJ c l) 0 c.length)++⟨l,v⟩::c.drop (bsq (agJ c l) 0 c.length)
def aaK(c:aaf)(l:LnQ):aaf:=match af0 c l with
 |some v=>ar3 (acF l c) l v
 |none=>c
def abq(c:aaf)(l:LnQ):Bool:=match af0 c l with
 |some _=>true
 |none=>decide (0<akd c l)
theorem ap3(p:Nat→Bool): ∀(d i j:Nat),j-i≤d→i≤j→i≤bsq p i j∧bsq p i j≤j
 |0,i,j,h,hij=>by
  rw[bsq,dif_neg (by omega)];omega
 |d+1,i,j,h,hij=>by
  rw[bsq]
  split
  ·split
   ·have:=ap3 p d ((i+j)/2+1) j (by omega) (by omega);omega
   ·have:=ap3 p d i ((i+j)/2) (by omega) (by omega);omega
  ·omega
theorem amG(l:LnQ): ∀c:aaf,(acF l c).length≤c.length
 |[]=>Nat.le_refl _
 |s::t=>by
  have:=amG l t
  unfold acF
  split<;>simp<;>omega
theorem axc(c:aaf)(l:LnQ)(v:IvQ):(ar3 c l v).length=c.length+1:=by
 have:=(ap3 (agJ c l) c.length 0 c.length (by omega) (by omega)).2
 simp[ar3];omega
theorem adm(c:aaf)(l:LnQ):(aaK c l).length≤c.length+1:=by
 unfold aaK
 split
 ·rw[axc];have:=amG l c;omega
 ·omega
/-! ### trees -/
inductive Tr where
 |leaf (b:Bool)
 |node (l:LnQ) (x y:Tr)
def Tr.isLeaf:Tr→Bool
 | .leaf _=>true
 | .node .. =>false
def Tr.code:Tr→Bool
 | .leaf b=>b
 | .node .. =>false
def Tr.depth:Tr→Nat
 | .leaf _=>0
 | .node _ x y=>1+max x.depth y.depth
def Tr.size:Tr→Nat
 | .leaf _=>0
 | .node _ x y=>1+x.size+y.size
def Tr.joinQ(l:LnQ)(x y:Tr):Tr:=if x.isLeaf&&(y.isLeaf&&(x.code==y.code)) then x else .node l x y
def Tr.restrict:Tr→aaf→Tr
 | .leaf b,_=> .leaf b
 | .node l x y,c=>if !abq c l.rev then x.restrict c else if !abq c l then y.restrict c else joinQ l (x.restrict (aaK c l)) (y.restrict (aaK c l.rev))
def Tr.parts:Tr→aaf→List (Bool×aaf)
 | .leaf b,c=>[(b,c)]
 | .node l x y,c=>(if abq c l then x.parts (aaK c l) else [])++(if abq c l.rev then y.parts (aaK c l.rev) else [])
def Tr.all(p:LnQ→Prop):Tr→Prop
 | .leaf _=>True
 | .node l x y=>p l∧x.all p∧y.all p
def Tr.good:Tr→Prop
 | .leaf _=>True
 | .node _ x y=> ¬(x.isLeaf=true∧y.isLeaf=true∧x.code=y.code)∧x.good∧y.good
structure NQ where
 l:LnQ
 a:Int
 b:Int
def ac4(b:Bool):Int:=if b then-2 else-1
def Tr.num:Tr→Nat→Int
 | .leaf b,_=>ac4 b
 | .node ..,n=>n
def Tr.wr:Tr→Nat→List NQ
 | .leaf _,_=>[]
 | .node l x y,n=>⟨l,x.num (n+1),y.num (n+1+x.size)⟩::x.wr (n+1)++y.wr (n+1+x.size)
theorem Tr.wr_len: ∀(t:Tr) (n:Nat),(t.wr n).length=t.size
 | .leaf _,n=>rfl
 | .node l x y,n=>by
  have h1:=Tr.wr_len x (n+1)
  have h2:=Tr.wr_len y (n+1+x.size)
  simp[Tr.wr,Tr.size,h1,h2];omega
theorem Tr.size_lt: ∀t:Tr,t.size<2^t.depth
 | .leaf _=>by simp[Tr.size,Tr.depth]
 | .node l x y=>by
  have h1:=x.size_lt
  have h2:=y.size_lt
  have e1:2^x.depth≤2^max x.depth y.depth:=Nat.pow_le_pow_right (by omega) (Nat.le_max_left ..)
  have e2:2^y.depth≤2^max x.depth y.depth:=Nat.pow_le_pow_right (by omega) (Nat.le_max_right ..)
  simp only[Tr.size,Tr.depth,Nat.add_comm 1 (max _ _),Nat.pow_succ]
  omega
theorem Tr.joinQ_cases(l:LnQ)(x y:Tr):(Tr.joinQ l x y=x∧x.isLeaf=true)∨(Tr.joinQ l x y= .node l x y∧ ¬(x.isLeaf=true∧y.isLeaf=true∧x.code=y.code)):=by
 unfold Tr.joinQ
 split
 ·rename_i h
  simp at h
  exact .inl ⟨rfl,h.1⟩
 ·rename_i h
  simp at h
  exact .inr ⟨rfl,fun⟨a,b,c⟩=>h a b c⟩
theorem Tr.restrict_depth: ∀(t:Tr) (c:aaf),(t.restrict c).depth≤t.depth
 | .leaf b,c=>Nat.le_refl _
 | .node l x y,c=>by
  unfold Tr.restrict
  split
  ·have:=x.restrict_depth c;simp only[Tr.depth];omega
  ·split
   ·have:=y.restrict_depth c;simp only[Tr.depth];omega
   ·have h1:=x.restrict_depth (aaK c l)
    have h2:=y.restrict_depth (aaK c l.rev)
    rcases Tr.joinQ_cases l (x.restrict (aaK c l)) (y.restrict (aaK c l.rev)) with⟨h,_⟩|⟨h,_⟩
    ·rw[h];simp only[Tr.depth];omega
    ·rw[h];simp only[Tr.depth];omega
theorem Tr.restrict_all(p:LnQ→Prop): ∀(t:Tr) (c:aaf),t.all p→(t.restrict c).all p
 | .leaf b,c,_=>trivial
 | .node l x y,c,h=>by
  obtain⟨h0,h1,h2⟩:=h
  unfold Tr.restrict
  split
  ·exact x.restrict_all p c h1
  ·split
   ·exact y.restrict_all p c h2
   ·rcases Tr.joinQ_cases l (x.restrict (aaK c l)) (y.restrict (aaK c l.rev)) with⟨h,_⟩|⟨h,_⟩
    ·rw[h];exact x.restrict_all p _ h1
    ·rw[h];exact⟨h0,x.restrict_all p _ h1,y.restrict_all p _ h2⟩
/-! ### values -/
theorem adq(l:LnQ)(p:PtQ):l.value p=(l.a:Rat)*p.x+(l.b:Rat)*p.y+(l.c:Rat):=rfl
theorem aaM(l:LnQ)(p:PtQ):l.rev.value p= -l.value p:=by
 rw[adq,adq]
 have h1:((l.rev.a:Int):Rat)= -(l.a:Rat):=(agk l.a).symm
 have h2:((l.rev.b:Int):Rat)= -(l.b:Rat):=(agk l.b).symm
 have h3:((l.rev.c:Int):Rat)= -(l.c:Rat):=(agk l.c).symm
 rw[h1,h2,h3];grind
def arQ(q p:PtQ)(e:Rat):PtQ:=⟨q.x+e*(p.x-q.x),q.y+e*(p.y-q.y)⟩
theorem acX(l:LnQ)(q p:PtQ)(e:Rat):l.value (arQ q p e)=l.value q+e*(l.value p-l.value q):=by
 simp only[adq,arQ];grind
def acR(q u:PtQ)(e:Rat):PtQ:=⟨q.x+e*u.x,q.y+e*u.y⟩
theorem abS(l:LnQ)(q u:PtQ)(e:Rat):l.value (acR q u e)=l.value q+e*l.nor.dot u:=by
 simp only[adq,acR,LnQ.nor,PtQ.dot];grind
theorem aae{a b:Rat}(ha:0<a)(hb:0<b):0<a*b:=Rat.mul_pos ha hb
theorem aah{a b:Rat}(ha:0≤a)(hb:0≤b):0≤a*b:=Rat.mul_nonneg ha hb
theorem abm(a:Rat):0≤a*a:=by
 by_cases h:0≤a
 ·exact aah h h
 ·have:=aah (a:= -a) (b:= -a) (by grind) (by grind)
  grind
theorem aal{s k:Rat}(hk:0<k):0<s*k↔0<s:=by
 constructor
 ·intro h
  by_cases hs:0<s
  ·exact hs
  ·have:=aah (a:= -s) (b:=k) (by grind) (by grind)
   grind
 ·intro h;exact aae h hk
theorem aap{s k:Rat}(hk:0<k):0≤s*k↔0≤s:=by
 constructor
 ·intro h
  by_cases hs:0≤s
  ·exact hs
  ·have:=aae (a:= -s) (b:=k) (by grind) hk
   grind
 ·intro h;exact aah h (by grind)
theorem ajL{A B u v:Rat}(h0:0≤A)(h1:0≤A+v*B)(hu:0≤u)(huv:u≤v):0≤A+u*B:=by
 by_cases hB:0≤B
 ·have:=aah hu hB;grind
 ·have:=aah (a:=v-u) (b:= -B) (by grind) (by grind)
  grind
def LnQ.Ne(l:LnQ):Prop:= ¬(l.a=0∧l.b=0)
theorem LnQ.ok.ne{l:LnQ}(h:l.ok):l.Ne:=h.1
theorem agI{l:LnQ}(h:l.Ne):0<l.nor.dot l.nor:=by
 show 0<(l.a:Rat)*l.a+(l.b:Rat)*l.b
 have h1:=abm (l.a:Rat)
 have h2:=abm (l.b:Rat)
 by_cases ha:l.a=0
 ·have hb:l.b≠0:=fun hb=>h ⟨ha,hb⟩
  have hb':(l.b:Rat)≠0:=fun e=>hb (Rat.intCast_eq_zero_iff.1 e)
  have:(l.b:Rat)*l.b≠0:=by grind
  grind
 ·have ha':(l.a:Rat)≠0:=fun e=>ha (Rat.intCast_eq_zero_iff.1 e)
  have:(l.a:Rat)*l.a≠0:=by grind
  grind
theorem anI{l:LnQ}(h:l.Ne): ∃q:Rat,l.nor.dot l.nor*q= -(l.c:Rat)∧l.base=⟨(l.a:Rat)*q,(l.b:Rat)*q⟩:=by
 refine⟨-(l.c:Rat)/l.nor.dot l.nor,?_,rfl⟩
 have:=agI h
 grind
theorem afl(l m:LnQ)(t:Rat):m.value (l.at t)=l.cutC m+t*l.cutK m:=by
 simp only[LnQ.cutC,LnQ.cutK,adq,LnQ.at,PtQ.add,PtQ.scale,LnQ.dir,LnQ.nor,PtQ.dot];grind
theorem ahI{l:LnQ}(h:l.Ne)(t:Rat):l.value (l.at t)=0:=by
 obtain⟨q,h1,h2⟩:=anI h
 simp only[adq,LnQ.at,h2,PtQ.add,PtQ.scale,LnQ.dir]
 simp only[LnQ.nor,PtQ.dot] at h1
 grind
theorem avM{l:LnQ}(h:l.Ne){p:PtQ}(hp:l.value p=0): ∃t,p=l.at t:=by
 obtain⟨q,h1,h2⟩:=anI h
 have hn:=agI h
 obtain⟨x,y⟩:=p
 rw[adq] at hp
 simp only[LnQ.nor,PtQ.dot] at h1 hn
 refine⟨((l.b:Rat)*x-(l.a:Rat)*y)/((l.a:Rat)*l.a+(l.b:Rat)*l.b),?_⟩
 generalize ht:((l.b:Rat)*x-(l.a:Rat)*y)/((l.a:Rat)*l.a+(l.b:Rat)*l.b)=t
 have ht':((l.a:Rat)*l.a+(l.b:Rat)*l.b)*t=(l.b:Rat)*x-(l.a:Rat)*y:=by grind
 simp only[LnQ.at,h2,PtQ.add,PtQ.scale,LnQ.dir,PtQ.mk.injEq]
 generalize (l.a:Rat)=a at*
 generalize (l.b:Rat)=b at*
 generalize (l.c:Rat)=c at*
 have e1:(a*a+b*b)*(x-(a*q+b*t))=0:=by grind
 have e2:(a*a+b*b)*(y-(b*q+ -a*t))=0:=by grind
 constructor<;>grind
/-! ### intervals -/
def IvQ.has(v:IvQ)(t:Rat):Prop:=(v.nl=true∨v.lo≤t)∧(v.nh=true∨t≤v.hi)
def IvQ.ins(v:IvQ)(t:Rat):Prop:=(v.nl=true∨v.lo<t)∧(v.nh=true∨t<v.hi)
def IvQ.Pos(v:IvQ):Prop:=v.nl=true∨v.nh=true∨v.lo<v.hi
theorem aoW(a b:Rat):0≤aa1 a b↔b≤a:=by
 unfold aa1;split
 ·constructor
  ·intro h;exact absurd h (by decide)
  ·intro h;grind
 ·split
  ·constructor
   ·intro _;grind
   ·intro _;decide
  ·constructor
   ·intro _;grind
   ·intro _;decide
theorem agE(v:IvQ):v.empty=false↔v.Pos:=by
 obtain⟨lo,hi,nl,nh⟩:=v
 unfold IvQ.empty IvQ.Pos
 cases nl<;>cases nh<;>simp[aoW]
 first|exact Rat.not_le|grind
theorem IvQ.ins.has{v:IvQ}{t:Rat}(h:v.ins t):v.has t:=by
 obtain⟨h1,h2⟩:=h
 exact⟨h1.imp id (fun h=>Rat.le_of_lt h),h2.imp id (fun h=>Rat.le_of_lt h)⟩
theorem atq:mkRat 1 2=(1:Rat)/2:=by rw[Rat.mkRat_eq_div];rfl
theorem acZ{v:IvQ}(h:v.Pos):v.ins v.sample:=by
 obtain⟨lo,hi,nl,nh⟩:=v
 unfold IvQ.Pos at h
 unfold IvQ.ins IvQ.sample
 rw[atq]
 cases nl<;>cases nh<;>simp at* <;>grind
theorem apI(v w:IvQ)(t:Rat):(v.meet w).has t↔v.has t∧w.has t:=by
 obtain⟨lo,hi,nl,nh⟩:=v
 obtain⟨lo',hi',nl',nh'⟩:=w
 unfold IvQ.has IvQ.meet
 cases nl<;>cases nh<;>cases nl'<;>cases nh'<;>simp<;>grind
theorem apQ(v w:IvQ)(t:Rat):(v.meet w).ins t↔v.ins t∧w.ins t:=by
 obtain⟨lo,hi,nl,nh⟩:=v
 obtain⟨lo',hi',nl',nh'⟩:=w
 unfold IvQ.ins IvQ.meet
 cases nl<;>cases nh<;>cases nl'<;>cases nh'<;>simp<;>grind
theorem aow(t:Rat):IvQ.all.has t:=⟨.inl rfl, .inl rfl⟩
theorem ajX:IvQ.all.Pos:= .inl rfl
theorem abh(k:Rat):Int.sign k.num=0↔k=0:=by rw[Int.sign_eq_zero_iff_zero,Rat.num_eq_zero]
theorem ax3(k:Rat):0<k.num↔0<k:=by
 have h1:0≤k.num↔0≤k:=Rat.num_nonneg
 have h2:k.num=0↔k=0:=Rat.num_eq_zero
 constructor
 ·intro h
  have a:=h1.1 (by omega)
  have b:k≠0:=fun e=>by have:=h2.2 e;omega
  grind
 ·intro h
  have a:=h1.2 (by grind)
  have b:k.num≠0:=fun e=>by have:=h2.1 e;grind
  omega
theorem aht(k:Rat):Int.sign k.num=1↔0<k:=by rw[Int.sign_eq_one_iff_pos,ax3]
theorem ae9(k:Rat):0<Int.sign k.num↔0<k:=by
 rw[←aht]
 rcases Int.lt_trichotomy k.num 0 with h|h|h
 ·rw[Int.sign_eq_neg_one_of_neg h];decide
 ·rw[h];decide
 ·rw[Int.sign_eq_one_of_pos h];decide
theorem afj(k:Rat):Int.sign k.num<0↔k<0:=by
 have h1:=abh k
 have h2:=ae9 k
 constructor
 ·intro h
  by_cases hk:0<k
  ·have:=h2.2 hk;omega
  ·by_cases h0:k=0
   ·have:=h1.2 h0;omega
   ·grind
 ·intro h
  have a1: ¬Int.sign k.num=0:=fun e=>by have:=h1.1 e;grind
  have a2: ¬0<Int.sign k.num:=fun e=>by have:=h2.1 e;grind
  omega
theorem ag3{l m:LnQ}(v:IvQ)(hk:l.cutK m=0):l.cutV v m=v∧(l.cutB v m=true↔0<l.cutC m):=by
 have h:=(abh (l.cutK m)).2 hk
 unfold LnQ.cutV LnQ.cutB
 rw[if_pos h,if_pos h,decide_eq_true_iff,ae9]
 exact⟨rfl,Iff.rfl⟩
theorem ang{l m:LnQ}(v:IvQ)(hk:0<l.cutK m):l.cutV v m=v.meet ⟨-(l.cutC m/l.cutK m),0,false,true⟩∧(l.cutB v m=true↔(l.cutV v m).Pos):=by
 have h0: ¬Int.sign (l.cutK m).num=0:=fun e=>by have:=(abh _).1 e;grind
 have h1:=(aht (l.cutK m)).2 hk
 constructor
 ·unfold LnQ.cutV;rw[if_neg h0,if_pos h1]
 ·unfold LnQ.cutB;rw[if_neg h0,←agE];simp
theorem anW{l m:LnQ}(v:IvQ)(hk:l.cutK m<0):l.cutV v m=v.meet ⟨0, -(l.cutC m/l.cutK m),true,false⟩∧(l.cutB v m=true↔(l.cutV v m).Pos):=by
 have h0: ¬Int.sign (l.cutK m).num=0:=fun e=>by have:=(abh _).1 e;grind
 have h1: ¬Int.sign (l.cutK m).num=1:=fun e=>by have:=(aht _).1 e;grind
 constructor
 ·unfold LnQ.cutV;rw[if_neg h0,if_neg h1]
 ·unfold LnQ.cutB;rw[if_neg h0,←agE];simp
theorem aF4{C K t:Rat}(hk:0<K): -(C/K)≤t↔0≤C+t*K:=by
 have e:C=C/K*K:=by grind
 generalize C/K=d at*
 rw[e,show d*K+t*K=(d+t)*K from by grind,aap hk]
 grind
theorem aCi{C K t:Rat}(hk:0<K): -(C/K)<t↔0<C+t*K:=by
 have e:C=C/K*K:=by grind
 generalize C/K=d at*
 rw[e,show d*K+t*K=(d+t)*K from by grind,aal hk]
 grind
theorem aE7{C K t:Rat}(hk:K<0):t≤ -(C/K)↔0≤C+t*K:=by
 have e:C=C/K*K:=by grind
 generalize C/K=d at*
 rw[e,show d*K+t*K=(-(d+t))*(-K) from by grind,aap (by grind)]
 grind
theorem aCO{C K t:Rat}(hk:K<0):t< -(C/K)↔0<C+t*K:=by
 have e:C=C/K*K:=by grind
 generalize C/K=d at*
 rw[e,show d*K+t*K=(-(d+t))*(-K) from by grind,aal (by grind)]
 grind
theorem abj(k:Rat):k=0∨0<k∨k<0:=by grind
theorem al2{l m:LnQ}{v:IvQ}(hb:l.cutB v m=true)(t:Rat):(l.cutV v m).has t↔v.has t∧0≤m.value (l.at t):=by
 rw[afl]
 rcases abj (l.cutK m) with hk|hk|hk
 ·obtain⟨h1,h2⟩:=ag3 v hk
  rw[h1,hk]
  have:=h2.1 hb
  constructor
  ·intro h;exact⟨h,by grind⟩
  ·exact fun h=>h.1
 ·rw[(ang v hk).1,apI,←aF4 hk]
  simp[IvQ.has]
 ·rw[(anW v hk).1,apI,←aE7 hk]
  simp[IvQ.has]
theorem atr{l m:LnQ}{v:IvQ}(hb:l.cutB v m=true)(t:Rat):(l.cutV v m).ins t↔v.ins t∧0<m.value (l.at t):=by
 rw[afl]
 rcases abj (l.cutK m) with hk|hk|hk
 ·obtain⟨h1,h2⟩:=ag3 v hk
  rw[h1,hk]
  have:=h2.1 hb
  constructor
  ·intro h;exact⟨h,by grind⟩
  ·exact fun h=>h.1
 ·rw[(ang v hk).1,apQ,←aCi hk]
  simp[IvQ.ins]
 ·rw[(anW v hk).1,apQ,←aCO hk]
  simp[IvQ.ins]
theorem aiP{l m:LnQ}{v:IvQ}(hv:v.Pos)(hb:l.cutB v m=true):(l.cutV v m).Pos:=by
 rcases abj (l.cutK m) with hk|hk|hk
 ·rw[(ag3 v hk).1];exact hv
 ·exact(ang v hk).2.1 hb
 ·exact(anW v hk).2.1 hb
theorem as6{l m:LnQ}{v:IvQ}(hv:v.Pos)(hb:l.cutB v m=false){t:Rat}(ht:v.has t):m.value (l.at t)≤0:=by
 rw[afl]
 have hb': ¬l.cutB v m=true:=by rw[hb];decide
 rcases abj (l.cutK m) with hk|hk|hk
 ·have h2:=(ag3 v hk).2
  have: ¬0<l.cutC m:=fun h=>hb' (h2.2 h)
  rw[hk];grind
 ·obtain⟨h1,h2⟩:=ang v hk
  have hn: ¬(l.cutV v m).Pos:=fun h=>hb' (h2.2 h)
  rw[h1] at hn
  have h3:=aCi (C:=l.cutC m) (t:=t) hk
  suffices¬(-(l.cutC m/l.cutK m)<t) by grind
  generalize-(l.cutC m/l.cutK m)=d at*
  obtain⟨lo,hi,nl,nh⟩:=v
  unfold IvQ.Pos IvQ.meet at hn
  unfold IvQ.Pos at hv
  unfold IvQ.has at ht
  cases nl<;>cases nh<;>simp at* <;>grind
 ·obtain⟨h1,h2⟩:=anW v hk
  have hn: ¬(l.cutV v m).Pos:=fun h=>hb' (h2.2 h)
  rw[h1] at hn
  have h3:=aCO (C:=l.cutC m) (t:=t) hk
  suffices¬(t< -(l.cutC m/l.cutK m)) by grind
  generalize-(l.cutC m/l.cutK m)=d at*
  obtain⟨lo,hi,nl,nh⟩:=v
  unfold IvQ.Pos IvQ.meet at hn
  unfold IvQ.Pos at hv
  unfold IvQ.has at ht
  cases nl<;>cases nh<;>simp at* <;>grind
/-! ### cells -/
def InD(c:aaf)(p:PtQ):Prop:= ∀s∈c,0<s.l.value p
def InC(c:aaf)(p:PtQ):Prop:= ∀s∈c,0≤s.l.value p
theorem ahJ(l:LnQ): ∀(c:aaf) (v w:IvQ),v.Pos→ahj l c v=some w→
  w.Pos∧(∀t,w.has t↔v.has t∧InC c (l.at t))∧(∀t,w.ins t↔v.ins t∧InD c (l.at t))
 |[],v,w,hv,h=>by
  obtain rfl:v=w:=by simpa[ahj] using h
  exact⟨hv,fun t=>⟨fun h=>⟨h,fun s hs=>absurd hs (by simp)⟩,fun h=>h.1⟩,fun t=>⟨fun h=>⟨h,fun s hs=>absurd hs (by simp)⟩,fun h=>h.1⟩⟩
 |s::c,v,w,hv,h=>by
  rw[ahj] at h
  split at h
  ·rename_i hb
   obtain⟨h1,h2,h3⟩:=ahJ l c _ w (aiP hv hb) h
   refine⟨h1,fun t=>?_,fun t=>?_⟩
   ·rw[h2,al2 hb]
    simp only[InC,List.forall_mem_cons]
    exact and_assoc
   ·rw[h3,atr hb]
    simp only[InD,List.forall_mem_cons]
    exact and_assoc
  ·exact absurd h (by simp)
theorem ala(l:LnQ): ∀(c:aaf) (v:IvQ),v.Pos→ahj l c v=none→ ∀t,v.has t→ ¬InD c (l.at t)
 |[],v,hv,h=>by simp[ahj] at h
 |s::c,v,hv,h=>by
  intro t ht hd
  have hd':=List.forall_mem_cons.1 hd
  rw[ahj] at h
  split at h
  ·rename_i hb
   exact ala l c _ (aiP hv hb) h t ((al2 hb t).2 ⟨ht,Rat.le_of_lt hd'.1⟩) hd'.2
  ·rename_i hb
   have:=as6 hv (by simpa using hb) ht
   have:=hd'.1
   grind
theorem InD.open: ∀{c:aaf} {q:PtQ} (u:PtQ),InD c q→ ∃e:Rat,0<e∧ ∀d,0≤d→d≤e→InD c (acR q u d)
 |[],q,u,_=>⟨1,by decide,fun d _ _ s hs=>absurd hs (by simp)⟩
 |s::c,q,u,h=>by
  have h':=List.forall_mem_cons.1 h
  obtain⟨e,he,hd⟩:=InD.open (c:=c) u h'.2
  have hs:=h'.1
  generalize hk:s.l.nor.dot u=k
  have hf: ∃f:Rat,0<f∧ ∀d,0≤d→d≤f→0<s.l.value q+d*k:=by
   by_cases hk0:0≤k
   ·exact⟨1,by decide,fun d h1 _=>by have:=aah h1 hk0;grind⟩
   ·refine⟨s.l.value q/(2* -k),?_,fun d h1 h2=>?_⟩
    ·have e1:s.l.value q/(2* -k)*(2* -k)=s.l.value q:=by grind
     exact(aal (k:=2* -k) (by grind)).1 (by rw[e1];exact hs)
    ·have e1:s.l.value q/(2* -k)*(2* -k)=s.l.value q:=by grind
     generalize s.l.value q/(2* -k)=f at*
     have:=aah (a:=f-d) (b:= -k) (by grind) (by grind)
     grind
  obtain⟨f,hf0,hf⟩:=hf
  by_cases hef:e≤f
  ·refine⟨e,he,fun d h1 h2=>List.forall_mem_cons.2 ⟨?_,hd d h1 h2⟩⟩
   rw[abS,hk];exact hf d h1 (by grind)
  ·refine⟨f,hf0,fun d h1 h2=>List.forall_mem_cons.2 ⟨?_,hd d h1 (by grind)⟩⟩
   rw[abS,hk];exact hf d h1 h2
theorem akF: ∀{c:aaf} {q p:PtQ},InD c q→(∃s∈c,s.l.value p≤0)→
  ∃e:Rat,0≤e∧e≤1∧(∃s∈c,s.l.value p≤0∧s.l.value (arQ q p e)=0)∧InC c (arQ q p e)
 |[],q,p,_,h=>by obtain⟨s,hs,_⟩:=h;exact absurd hs (by simp)
 |s::c,q,p,h,hex=>by
  have h':=List.forall_mem_cons.1 h
  have hs:=h'.1
  by_cases hc: ∃s∈c,s.l.value p≤0
  ·obtain⟨e,h0,h1,⟨s1,m1,n1,z1⟩,hC⟩:=akF h'.2 hc
   by_cases hp:0≤s.l.value (arQ q p e)
   ·exact⟨e,h0,h1,⟨s1,List.mem_cons_of_mem _ m1,n1,z1⟩,List.forall_mem_cons.2 ⟨hp,hC⟩⟩
   ·rw[acX] at hp
    generalize hB:s.l.value p-s.l.value q=B at*
    have hB0:B<0:=by
     by_cases hB0:0≤B
     ·have:=aah h0 hB0;grind
     ·grind
    have e1:s.l.value q/(-B)*(-B)=s.l.value q:=by grind
    generalize hf:s.l.value q/(-B)=f at*
    have f0:0≤f:=(aap (k:= -B) (by grind)).1 (by rw[e1];grind)
    have f1:f≤e:=by
     have:=(aap (s:=e-f) (k:= -B) (by grind)).1 (by grind)
     grind
    have z:s.l.value (arQ q p f)=0:=by rw[acX,hB];grind
    have np:s.l.value p≤0:=by
     have:=aah (a:=1-e) (b:= -B) (by grind) (by grind)
     grind
    refine⟨f,f0,by grind,⟨s,List.mem_cons_self,np,z⟩,List.forall_mem_cons.2 ⟨by rw[z];exact Rat.le_refl,fun s2 m2=>?_⟩⟩
    have a1:=h'.2 s2 m2
    have a2:=hC s2 m2
    rw[acX] at a2⊢
    exact ajL (Rat.le_of_lt a1) a2 f0 f1
  ·have np:s.l.value p≤0:=by
    obtain⟨s1,m1,n1⟩:=hex
    rcases List.mem_cons.1 m1 with rfl|m1
    ·exact n1
    ·exact absurd ⟨s1,m1,n1⟩ hc
   generalize hB:s.l.value p-s.l.value q=B at*
   have hB0:B<0:=by grind
   have e1:s.l.value q/(-B)*(-B)=s.l.value q:=by grind
   generalize hf:s.l.value q/(-B)=f at*
   have f0:0≤f:=(aap (k:= -B) (by grind)).1 (by rw[e1];grind)
   have f1:f≤1:=by
    have:=(aap (s:=1-f) (k:= -B) (by grind)).1 (by grind)
    grind
   have z:s.l.value (arQ q p f)=0:=by rw[acX,hB];grind
   refine⟨f,f0,f1,⟨s,List.mem_cons_self,np,z⟩,List.forall_mem_cons.2 ⟨by rw[z];exact Rat.le_refl,fun s2 m2=>?_⟩⟩
   have a1:=h'.2 s2 m2
   have a2:0<s2.l.value p:=by
    by_cases h:0<s2.l.value p
    ·exact h
    ·exact absurd ⟨s2,m2,by grind⟩ hc
   rw[acX]
   have:=ajL (A:=s2.l.value q) (B:=s2.l.value p-s2.l.value q) (u:=f) (v:=1) (Rat.le_of_lt a1) (by grind) f0 f1
   exact this
structure aa3 (c:aaf):Prop where
 ne: ∃p,InD c p
 ok: ∀s∈c,s.l.ok
 edge: ∀s∈c,s.v.Pos∧ ∀t,s.v.has t↔InC c (s.l.at t)
theorem aa3.nil:aa3 []:=⟨⟨⟨0,0⟩,fun s hs=>absurd hs (by simp)⟩,fun s hs=>absurd hs (by simp),fun s hs=>absurd hs (by simp)⟩
theorem abP{c:aaf}{m:LnQ}(hne: ∃q,InD c q)(h: ∀p,InD c p→0<m.value p){p:PtQ}(hp:InC c p):0≤m.value p:=by
 obtain⟨q,hq⟩:=hne
 have mq:=h q hq
 by_cases hm:0≤m.value p
 ·exact hm
 ·exfalso
  generalize hB:m.value q-m.value p=B
  have hB0:0<B:=by grind
  have e1: -m.value p/B*B= -m.value p:=by grind
  generalize-m.value p/B=e at*
  have e0:0<e:=(aal hB0).1 (by rw[e1];grind)
  have e2:e≤1:=by
   have:=(aap (s:=1-e) hB0).1 (by grind)
   grind
  have hd:InD c (arQ p q e):=fun s hs=>by
   rw[acX]
   have a:=hp s hs
   have b:=hq s hs
   have:=aae e0 b
   have:=aah (a:=1-e) (b:=s.l.value p) (by grind) a
   grind
  have:=h _ hd
  rw[acX,hB,e1] at this
  grind
theorem adn{l:LnQ}{s':FrQ}: ∀{c:aaf},s'∈acF l c↔ ∃s∈c,s.l.cutB s.v l=true∧s'=⟨s.l,s.l.cutV s.v l⟩
 |[]=>by simp[acF]
 |s::c=>by
  rw[acF]
  split
  ·rename_i hb
   rw[List.mem_cons,adn (c:=c)]
   constructor
   ·rintro (rfl|⟨s1,h1,h2⟩)
    ·exact⟨s,List.mem_cons_self,hb,rfl⟩
    ·exact⟨s1,List.mem_cons_of_mem _ h1,h2⟩
   ·rintro ⟨s1,h1,h2,h3⟩
    rcases List.mem_cons.1 h1 with rfl|h1
    ·exact .inl h3
    ·exact .inr ⟨s1,h1,h2,h3⟩
  ·rename_i hb
   rw[adn (c:=c)]
   constructor
   ·rintro ⟨s1,h1,h2⟩;exact⟨s1,List.mem_cons_of_mem _ h1,h2⟩
   ·rintro ⟨s1,h1,h2,h3⟩
    rcases List.mem_cons.1 h1 with rfl|h1
    ·exact absurd h2 hb
    ·exact⟨s1,h1,h2,h3⟩
theorem aeb{c:aaf}{l:LnQ}{v:IvQ}{s:FrQ}:s∈ar3 c l v↔s=⟨l,v⟩∨s∈c:=by
 unfold ar3
 generalize bsq (agJ c l) 0 c.length=n
 rw[List.mem_append,List.mem_cons]
 have h:=List.take_append_drop n c
 constructor
 ·rintro (h1|h1|h1)
  ·exact .inr (List.mem_of_mem_take h1)
  ·exact .inl h1
  ·exact .inr (List.mem_of_mem_drop h1)
 ·rintro (h1|h1)
  ·exact .inr (.inl h1)
  ·rw[←h,List.mem_append] at h1
   rcases h1 with h1|h1
   ·exact .inl h1
   ·exact .inr (.inr h1)
theorem aws{c:aaf}{l:LnQ}(hl:l.Ne)(hp:af0 c l=none){p:PtQ}(h:InD c p):l.value p≠0:=by
 intro h0
 obtain⟨t,rfl⟩:=avM hl h0
 exact ala l c _ ajX hp t (aow t) h
theorem ak5{c:aaf}{l:LnQ}(hl:l.Ne){v:IvQ}(hp:af0 c l=some v):(∃q,InD c q∧0<l.value q)∧ ∃q,InD c q∧l.value q<0:=by
 obtain⟨h1,_,h3⟩:=ahJ l c _ v ajX hp
 have hd:=((h3 v.sample).1 (acZ h1)).2
 have h0:=ahI hl v.sample
 have hn:=agI hl
 constructor
 ·obtain⟨e,he,hm⟩:=hd.open l.nor
  refine⟨_,hm e (Rat.le_of_lt he) Rat.le_refl,?_⟩
  rw[abS,h0]
  have:=aae he hn
  grind
 ·obtain⟨e,he,hm⟩:=hd.open ⟨-l.nor.x, -l.nor.y⟩
  refine⟨_,hm e (Rat.le_of_lt he) Rat.le_refl,?_⟩
  rw[abS,h0]
  have:=aae he hn
  simp only[PtQ.dot] at this⊢
  grind
theorem ast{c:aaf}{l:LnQ}{v:IvQ}(hc:aa3 c)(hl:l.ok)(hp:af0 c l=some v):
  aa3 (ar3 (acF l c) l v)∧ ∀p,InD (ar3 (acF l c) l v) p↔InD c p∧0<l.value p:=by
 obtain⟨⟨q,hq,lq⟩,_⟩:=ak5 hl.ne hp
 obtain⟨v1,v2,v3⟩:=ahJ l c _ v ajX hp
 have hD: ∀p,InD (ar3 (acF l c) l v) p↔InD c p∧0<l.value p:=by
  intro p
  constructor
  ·intro h
   have lp:0<l.value p:=h ⟨l,v⟩ (aeb.2 (.inl rfl))
   refine⟨fun s0 hs0=>?_,lp⟩
   by_cases h0:0<s0.l.value p
   ·exact h0
   ·exfalso
    obtain⟨e,e0,e1,⟨s,ms,ns,zs⟩,hC⟩:=akF (p:=p) hq ⟨s0,hs0,by grind⟩
    obtain⟨t,ht⟩:=avM (hc.ok s ms).ne zs
    rw[ht] at hC
    obtain⟨p1,p2⟩:=hc.edge s ms
    have hh:=(p2 t).2 hC
    have lr:0<l.value (s.l.at t):=by
     rw[←ht,acX]
     by_cases hB:0≤l.value p-l.value q
     ·have:=aah e0 hB;grind
     ·have:=aah (a:=1-e) (b:= -(l.value p-l.value q)) (by grind) (by grind)
      grind
    have hb:s.l.cutB s.v l=true:=by
     cases hb:s.l.cutB s.v l with
     |true=>rfl
     |false=>have:=as6 p1 hb hh;grind
    have:=h ⟨s.l,s.l.cutV s.v l⟩ (aeb.2 (.inr (adn.2 ⟨s,ms,hb,rfl⟩)))
    simp only at this
    grind
  ·rintro ⟨h1,h2⟩ s hs
   rcases aeb.1 hs with rfl|hs
   ·exact h2
   ·obtain⟨s1,m1,_,rfl⟩:=adn.1 hs
    exact h1 s1 m1
 have hne: ∃p,InD (ar3 (acF l c) l v) p:=⟨q,(hD q).2 ⟨hq,lq⟩⟩
 have hC: ∀p,InC (ar3 (acF l c) l v) p↔InC c p∧0≤l.value p:=by
  intro p
  constructor
  ·intro h
   refine⟨fun s hs=>?_,h ⟨l,v⟩ (aeb.2 (.inl rfl))⟩
   exact abP hne (fun p hp=>((hD p).1 hp).1 s hs) h
  ·rintro ⟨h1,h2⟩ s hs
   rcases aeb.1 hs with rfl|hs
   ·exact h2
   ·obtain⟨s1,m1,_,rfl⟩:=adn.1 hs
    exact h1 s1 m1
 refine⟨⟨hne,fun s hs=>?_,fun s hs=>?_⟩,hD⟩
 ·rcases aeb.1 hs with rfl|hs
  ·exact hl
  ·obtain⟨s1,m1,_,rfl⟩:=adn.1 hs
   exact hc.ok s1 m1
 ·rcases aeb.1 hs with rfl|hs
  ·refine⟨v1,fun t=>?_⟩
   rw[hC]
   simp only
   rw[v2]
   have h0:=ahI hl.ne t
   constructor
   ·intro h;exact⟨h.2,by rw[h0];exact Rat.le_refl⟩
   ·intro h;exact⟨aow t,h.1⟩
  ·obtain⟨s1,m1,hb,rfl⟩:=adn.1 hs
   obtain⟨p1,p2⟩:=hc.edge s1 m1
   refine⟨aiP p1 hb,fun t=>?_⟩
   rw[hC]
   simp only
   rw[al2 hb,p2]
theorem InD.seg{c:aaf}{q p:PtQ}{e:Rat}(hq:InD c q)(hp:InD c p)(h0:0≤e)(h1:e≤1):InD c (arQ q p e):=fun s hs=>by
 rw[acX]
 have a:=hq s hs
 have b:=hp s hs
 by_cases he:e=0
 ·subst he;grind
 ·have:=aae (a:=e) (by grind) b
  have:=aah (a:=1-e) (b:=s.l.value q) (by grind) (by grind)
  grind
theorem aqM{v:IvQ}{t:Rat}(h:v.ins t):(∃u,u<t∧v.has u)∧ ∃u,t<u∧v.has u:=by
 obtain⟨lo,hi,nl,nh⟩:=v
 unfold IvQ.ins at h
 unfold IvQ.has
 refine⟨⟨if nl=true then t-1 else lo,?_⟩,⟨if nh=true then t+1 else hi,?_⟩⟩<;>cases nl<;>cases nh<;>simp at* <;>grind
theorem acT{a b c x y z:Nat}(h1:x*b=a*y)(h2:x*c=a*z)(g:Nat.gcd (Nat.gcd a b) c=1):a∣x:=by
 have e:x=Nat.gcd (Nat.gcd (x*a) (x*b)) (x*c):=by
  rw[Nat.gcd_mul_left,Nat.gcd_mul_left,g,Nat.mul_one]
 rw[e]
 exact Nat.dvd_gcd (Nat.dvd_gcd (Nat.dvd_mul_left ..) (h1▸Nat.dvd_mul_right ..)) (h2▸Nat.dvd_mul_right ..)
theorem atH{a b c x y z:Int}(h1:a*y=b*x)(h2:a*z=c*x)(h3:b*z=c*y)
  (g1:Nat.gcd (Nat.gcd a.natAbs b.natAbs) c.natAbs=1)(g2:Nat.gcd (Nat.gcd x.natAbs y.natAbs) z.natAbs=1):
  (a=x∧b=y∧c=z)∨(a= -x∧b= -y∧c= -z):=by
 have n1:a.natAbs*y.natAbs=b.natAbs*x.natAbs:=by rw[←Int.natAbs_mul,←Int.natAbs_mul,h1]
 have n2:a.natAbs*z.natAbs=c.natAbs*x.natAbs:=by rw[←Int.natAbs_mul,←Int.natAbs_mul,h2]
 have n3:b.natAbs*z.natAbs=c.natAbs*y.natAbs:=by rw[←Int.natAbs_mul,←Int.natAbs_mul,h3]
 generalize ha:a.natAbs=A at*
 generalize hb:b.natAbs=B at*
 generalize hc:c.natAbs=C at*
 generalize hx:x.natAbs=X at*
 generalize hy:y.natAbs=Y at*
 generalize hz:z.natAbs=Z at*
 have gB:Nat.gcd (Nat.gcd B A) C=1:=by rw[Nat.gcd_comm B A];exact g1
 have gC:Nat.gcd (Nat.gcd C A) B=1:=by rw[Nat.gcd_assoc,Nat.gcd_comm];exact g1
 have gY:Nat.gcd (Nat.gcd Y X) Z=1:=by rw[Nat.gcd_comm Y X];exact g2
 have gZ:Nat.gcd (Nat.gcd Z X) Y=1:=by rw[Nat.gcd_assoc,Nat.gcd_comm];exact g2
 have e1:A=X:=Nat.dvd_antisymm (acT (x:=X) (y:=Y) (z:=Z) (by grind) (by grind) g1) (acT (x:=A) (y:=B) (z:=C) (by grind) (by grind) g2)
 have e2:B=Y:=Nat.dvd_antisymm (acT (x:=Y) (y:=X) (z:=Z) (by grind) (by grind) gB) (acT (x:=B) (y:=A) (z:=C) (by grind) (by grind) gY)
 have e3:C=Z:=Nat.dvd_antisymm (acT (x:=Z) (y:=X) (z:=Y) (by grind) (by grind) gC) (acT (x:=C) (y:=A) (z:=B) (by grind) (by grind) gZ)
 have s1:a=x∨a= -x:=by omega
 have s2:b=y∨b= -y:=by omega
 have s3:c=z∨c= -z:=by omega
 clear ha hb hc hx hy hz n1 n2 n3 g1 g2 gB gC gY gZ e1 e2 e3
 have z1:= @Int.mul_eq_zero x y
 have z2:= @Int.mul_eq_zero x z
 have z3:= @Int.mul_eq_zero y z
 rcases s1 with rfl|rfl<;>rcases s2 with rfl|rfl<;>rcases s3 with rfl|rfl<;>grind
theorem aha{l m:LnQ}(hl:l.ok)(hm:m.ok)(h: ∀t,l.value (m.at t)=0):l=m∨l=m.rev:=by
 have h0:=h 0
 have h1:=h 1
 rw[afl] at h0 h1
 have hC:m.cutC l=0:=by grind
 have hK:m.cutK l=0:=by grind
 obtain⟨q,q1,q2⟩:=anI hm.ne
 have hn:=agI hm.ne
 unfold LnQ.cutC at hC
 rw[q2,adq] at hC
 unfold LnQ.cutK at hK
 simp only[LnQ.nor,LnQ.dir,PtQ.dot] at hK q1 hn hC
 obtain⟨a,b,c⟩:=l
 obtain⟨x,y,z⟩:=m
 simp only at*
 have e1:a*y=b*x:=by
  have:((a*y:Int):Rat)=((b*x:Int):Rat):=by rw[Rat.intCast_mul,Rat.intCast_mul];grind
  exact Rat.intCast_inj.1 this
 have e2:a*z=c*x:=by
  have:((a*z:Int):Rat)=((c*x:Int):Rat):=by rw[Rat.intCast_mul,Rat.intCast_mul];grind
  exact Rat.intCast_inj.1 this
 have e3:b*z=c*y:=by
  have:((b*z:Int):Rat)=((c*y:Int):Rat):=by rw[Rat.intCast_mul,Rat.intCast_mul];grind
  exact Rat.intCast_inj.1 this
 rcases atH e1 e2 e3 hl.2 hm.2 with⟨rfl,rfl,rfl⟩|⟨rfl,rfl,rfl⟩
 ·exact .inl rfl
 ·exact .inr rfl
theorem LnQ.ok.rev{l:LnQ}(h:l.ok):l.rev.ok:=by
 obtain⟨h1,h2⟩:=h
 refine⟨?_,?_⟩
 ·simp only[LnQ.rev];omega
 ·simp only[LnQ.rev,Int.natAbs_neg];exact h2
theorem anC(l:LnQ): ∀c:aaf,(∀s∈c,aer l s≤0∧s.l≠l)→ ¬0<aey l c
 |[],_=>by simp[aey]
 |s::c,h=>by
  have h':=List.forall_mem_cons.1 h
  unfold aey
  rw[if_neg h'.1.2]
  split
  ·have:=h'.1.1;omega
  ·exact anC l c h'.2
theorem akv{c:aaf}{l:LnQ}(hc:aa3 c)(hl:l.ok)(hp:af0 c l=none):
  (0<aey l c∧ ∀p,InD c p→0<l.value p)∨(¬0<aey l c∧ ∀p,InD c p→l.value p<0):=by
 have hoff:=fun p (h:InD c p)=>aws hl.ne hp h
 by_cases hq: ∃q,InD c q∧0<l.value q
 ·left
  obtain⟨q,hq,lq⟩:=hq
  have hall: ∀p,InD c p→0<l.value p:=by
   intro p h
   have:=hoff p h
   by_cases h0:0<l.value p
   ·exact h0
   ·exfalso
    have hn:l.value p<0:=by grind
    have e1:l.value q/(l.value q-l.value p)*(l.value q-l.value p)=l.value q:=by grind
    generalize l.value q/(l.value q-l.value p)=e at*
    have f0:0≤e:=(aap (k:=l.value q-l.value p) (by grind)).1 (by grind)
    have f1:e≤1:=by
     have:=(aap (s:=1-e) (k:=l.value q-l.value p) (by grind)).1 (by grind)
     grind
    exact hoff _ (hq.seg h f0 f1) (by rw[acX];grind)
  refine⟨?_,hall⟩
  cases c with
  |nil=>simp[af0,ahj] at hp
  |cons s c=>
   obtain⟨p1,p2⟩:=hc.edge s List.mem_cons_self
   have hi:=acZ p1
   have hr:=abP hc.ne hall ((p2 _).1 hi.has)
   unfold aey
   by_cases h0:aer l s=0
   ·rw[if_neg (by simpa using h0)]
    have hz:l.value (s.l.at s.v.sample)=0:=(abh _).1 h0
    have hge: ∀t,s.v.has t→0≤l.value (s.l.at t):=fun t ht=>abP hc.ne hall ((p2 t).1 ht)
    obtain⟨⟨u1,m1,n1⟩,⟨u2,m2,n2⟩⟩:=aqM hi
    have g1:=hge _ n1
    have g2:=hge _ n2
    rw[afl] at hz g1 g2
    have hK:s.l.cutK l=0:=by
     rcases abj (s.l.cutK l) with h|h|h
     ·exact h
     ·exfalso
      have:=aae (a:=s.v.sample-u1) (b:=s.l.cutK l) (by grind) h
      grind
     ·exfalso
      have:=aae (a:=u2-s.v.sample) (b:= -s.l.cutK l) (by grind) (by grind)
      grind
    have hz2: ∀t,l.value (s.l.at t)=0:=fun t=>by rw[afl,hK];rw[hK] at hz;grind
    rcases aha hl (hc.ok s List.mem_cons_self) hz2 with h|h
    ·rw[if_pos h.symm];decide
    ·exfalso
     have:=hall q hq
     rw[h,aaM] at this
     have:=hq s List.mem_cons_self
     grind
   ·rw[if_pos h0]
    have hz:l.value (s.l.at s.v.sample)≠0:=fun e=>h0 ((abh _).2 e)
    exact(ae9 _).2 (by grind)
 ·right
  have hall: ∀p,InD c p→l.value p<0:=fun p h=>by
   have:=hoff p h
   have: ¬0<l.value p:=fun h'=>hq ⟨p,h,h'⟩
   grind
  refine⟨anC l c fun s hs=>?_,hall⟩
  obtain⟨p1,p2⟩:=hc.edge s hs
  have hr:=abP (m:=l.rev) hc.ne (fun p h=>by rw[aaM];have:=hall p h;grind) ((p2 _).1 (acZ p1).has)
  rw[aaM] at hr
  constructor
  ·have: ¬0<aer l s:=fun h=>by have:=(ae9 _).1 h;grind
   omega
  ·rintro rfl
   obtain⟨p,hp⟩:=hc.ne
   have:=hall p hp
   have:=hp s hs
   grind
/-! ### clipping -/
theorem adE{c:aaf}{l:LnQ}(hc:aa3 c)(hl:l.ok):abq c l=true↔ ∃p,InD c p∧0<l.value p:=by
 unfold abq
 cases hp:af0 c l with
 |some v=>exact⟨fun _=>(ak5 hl.ne hp).1,fun _=>rfl⟩
 |none=>
  simp only[akd,hp,Option.isSome_none,Bool.false_eq_true,if_false,decide_eq_true_iff]
  rcases akv hc hl hp with⟨h1,h2⟩|⟨h1,h2⟩
  ·refine⟨fun _=>?_,fun _=>h1⟩
   obtain⟨p,hp⟩:=hc.ne
   exact⟨p,hp,h2 p hp⟩
  ·refine⟨fun h=>absurd h h1,?_⟩
   rintro ⟨p,hp,h⟩
   have:=h2 p hp
   grind
theorem aaY{c:aaf}{l:LnQ}(hc:aa3 c)(hl:l.ok)(hb:abq c l=true):aa3 (aaK c l)∧ ∀p,InD (aaK c l) p↔InD c p∧0<l.value p:=by
 unfold aaK
 cases hp:af0 c l with
 |some v=>exact ast hc hl hp
 |none=>
  refine⟨hc,fun p=>?_⟩
  unfold abq at hb
  simp only[hp,akd,Option.isSome_none,Bool.false_eq_true,if_false,decide_eq_true_iff] at hb
  rcases akv hc hl hp with⟨h1,h2⟩|⟨h1,h2⟩
  ·exact⟨fun h=>⟨h,h2 p h⟩,fun h=>h.1⟩
  ·exact absurd hb h1
theorem ap5{c:aaf}{l:LnQ}(hl:l.ok){p:PtQ}(hp:InD c p)(h0:l.value p=0):(∃q,InD c q∧0<l.value q)∧ ∃q,InD c q∧l.value q<0:=by
 have hn:=agI hl.ne
 constructor
 ·obtain⟨e,he,hm⟩:=hp.open l.nor
  refine⟨_,hm e (Rat.le_of_lt he) Rat.le_refl,?_⟩
  rw[abS,h0]
  have:=aae he hn
  grind
 ·obtain⟨e,he,hm⟩:=hp.open ⟨-l.nor.x, -l.nor.y⟩
  refine⟨_,hm e (Rat.le_of_lt he) Rat.le_refl,?_⟩
  rw[abS,h0]
  have:=aae he hn
  simp only[PtQ.dot] at this⊢
  grind
inductive aGQ (c:aaf) (l:LnQ):Prop
 |left (h1:abq c l.rev=false) (h: ∀p,InD c p→0<l.value p)
 |right (h1:abq c l.rev=true) (h2:abq c l=false) (h: ∀p,InD c p→l.value p<0)
 |both (h1:abq c l.rev=true) (h2:abq c l=true) (g1:aa3 (aaK c l)) (g2:aa3 (aaK c l.rev))
   (e1: ∀p,InD (aaK c l) p↔InD c p∧0<l.value p) (e2: ∀p,InD (aaK c l.rev) p↔InD c p∧l.value p<0)
theorem lies{c:aaf}{l:LnQ}(hc:aa3 c)(hl:l.ok):aGQ c l:=by
 have hr:=adE hc hl.rev
 have hi:=adE hc hl
 cases h1:abq c l.rev with
 |false=>
  refine .left h1 fun p hp=>?_
  have hn: ¬ ∃q,InD c q∧l.value q<0:=by
   rintro ⟨q,a,b⟩
   have:=hr.2 ⟨q,a,by rw[aaM];grind⟩
   rw[h1] at this;exact absurd this (by decide)
  have n1: ¬l.value p<0:=fun h=>hn ⟨p,hp,h⟩
  have n2:l.value p≠0:=fun h=>hn (ap5 hl hp h).2
  grind
 |true=>
  cases h2:abq c l with
  |false=>
   refine .right h1 h2 fun p hp=>?_
   have hn: ¬ ∃q,InD c q∧0<l.value q:=by
    intro h
    have:=hi.2 h
    rw[h2] at this;exact absurd this (by decide)
   have n1: ¬0<l.value p:=fun h=>hn ⟨p,hp,h⟩
   have n2:l.value p≠0:=fun h=>hn (ap5 hl hp h).1
   grind
  |true=>
   obtain⟨g1,e1⟩:=aaY hc hl h2
   obtain⟨g2,e2⟩:=aaY hc hl.rev h1
   refine .both h1 h2 g1 g2 e1 fun p=>?_
   rw[e2,aaM]
   constructor<;>rintro ⟨a,b⟩<;>exact⟨a,by grind⟩
/-! ### trees -/
theorem Tr.restrict_A{l:LnQ}{e:aaf}(X Y:Tr)(h:abq e l.rev=false):(Tr.node l X Y).restrict e=X.restrict e:=by
 rw[Tr.restrict,h];rfl
theorem Tr.restrict_B{l:LnQ}{e:aaf}(X Y:Tr)(h:abq e l.rev=true)(h2:abq e l=false):(Tr.node l X Y).restrict e=Y.restrict e:=by
 rw[Tr.restrict,h,h2];rfl
theorem Tr.restrict_C{l:LnQ}{e:aaf}(X Y:Tr)(h:abq e l.rev=true)(h2:abq e l=true):(Tr.node l X Y).restrict e=Tr.joinQ l (X.restrict (aaK e l)) (Y.restrict (aaK e l.rev)):=by
 rw[Tr.restrict,h,h2];rfl
def afB:List LnQ→aaf→Option aaf
 |[],c=>some c
 |l::t,c=>if abq c l then afB t (aaK c l) else none
theorem ak8: ∀{ls:List LnQ} {c e:aaf},aa3 c→(∀l∈ls,l.ok)→afB ls c=some e→aa3 e∧ ∀p,InD e p↔InD c p∧ ∀l∈ls,0<l.value p
 |[],c,e,hc,_,h=>by
  obtain rfl:c=e:=by simpa[afB] using h
  exact⟨hc,fun p=>⟨fun h=>⟨h,fun l hl=>absurd hl (by simp)⟩,fun h=>h.1⟩⟩
 |l::t,c,e,hc,hl,h=>by
  have hl':=List.forall_mem_cons.1 hl
  rw[afB] at h
  split at h
  ·rename_i hb
   obtain⟨g1,g2⟩:=aaY hc hl'.1 hb
   obtain⟨k1,k2⟩:=ak8 g1 hl'.2 h
   refine⟨k1,fun p=>?_⟩
   rw[k2,g2,List.forall_mem_cons,and_assoc]
  ·exact absurd h (by simp)
theorem akz: ∀{ls:List LnQ} {c:aaf},aa3 c→(∀l∈ls,l.ok)→(∃p,InD c p∧ ∀l∈ls,0<l.value p)→ ∃e,afB ls c=some e
 |[],c,_,_,_=>⟨c,rfl⟩
 |l::t,c,hc,hl,⟨p,h1,h2⟩=>by
  have hl':=List.forall_mem_cons.1 hl
  have h2':=List.forall_mem_cons.1 h2
  have hb:=(adE hc hl'.1).2 ⟨p,h1,h2'.1⟩
  obtain⟨g1,g2⟩:=aaY hc hl'.1 hb
  rw[afB,if_pos hb]
  exact akz g1 hl'.2 ⟨p,(g2 p).2 ⟨h1,h2'.1⟩,h2'.2⟩
theorem amN{c:aaf}(hc:aa3 c){s:FrQ}(hs:s∈c){m:LnQ}(hm:m.ok)(h: ∀p,InD c p→0<m.value p)(hz:m.value (s.l.at s.v.sample)=0):m=s.l:=by
 obtain⟨p1,p2⟩:=hc.edge s hs
 have hi:=acZ p1
 have hge: ∀t,s.v.has t→0≤m.value (s.l.at t):=fun t ht=>abP hc.ne h ((p2 t).1 ht)
 obtain⟨⟨u1,m1,n1⟩,⟨u2,m2,n2⟩⟩:=aqM hi
 have g1:=hge _ n1
 have g2:=hge _ n2
 rw[afl] at hz g1 g2
 have hK:s.l.cutK m=0:=by
  rcases abj (s.l.cutK m) with h|h|h
  ·exact h
  ·exfalso
   have:=aae (a:=s.v.sample-u1) (b:=s.l.cutK m) (by grind) h
   grind
  ·exfalso
   have:=aae (a:=u2-s.v.sample) (b:= -s.l.cutK m) (by grind) (by grind)
   grind
 have hz2: ∀t,m.value (s.l.at t)=0:=fun t=>by rw[afl,hK];rw[hK] at hz;grind
 rcases aha hm (hc.ok s hs) hz2 with h'|h'
 ·exact h'
 ·exfalso
  obtain⟨q,hq⟩:=hc.ne
  have:=h q hq
  rw[h',aaM] at this
  have:=hq s hs
  grind
def adb(l:LnQ):List LnQ→IvQ→Option IvQ
 |[],v=>some v
 |m::t,v=>if m=l then adb l t v else if l.cutB v m then adb l t (l.cutV v m) else none
def InL(c:List LnQ)(p:PtQ):Prop:= ∀m∈c,0<m.value p
theorem ahN(l:LnQ): ∀(c:List LnQ) (v w:IvQ),v.Pos→adb l c v=some w→
  w.Pos∧(∀t,w.ins t↔v.ins t∧ ∀m∈c,m≠l→0<m.value (l.at t))
 |[],v,w,hv,h=>by
  obtain rfl:v=w:=by simpa[adb] using h
  exact⟨hv,fun t=>⟨fun h=>⟨h,fun s hs=>absurd hs (by simp)⟩,fun h=>h.1⟩⟩
 |m::c,v,w,hv,h=>by
  rw[adb] at h
  split at h
  ·rename_i hm
   obtain⟨h1,h2⟩:=ahN l c _ w hv h
   refine⟨h1,fun t=>?_⟩
   rw[h2,List.forall_mem_cons]
   exact⟨fun h=>⟨h.1,fun h'=>absurd hm h',h.2⟩,fun h=>⟨h.1,h.2.2⟩⟩
  ·rename_i hm
   split at h
   ·rename_i hb
    obtain⟨h1,h2⟩:=ahN l c _ w (aiP hv hb) h
    refine⟨h1,fun t=>?_⟩
    rw[h2,atr hb,List.forall_mem_cons,and_assoc]
    exact⟨fun h=>⟨h.1,fun _=>h.2.1,h.2.2⟩,fun h=>⟨h.1,h.2.1 hm,h.2.2⟩⟩
   ·exact absurd h (by simp)
theorem ahD(l:LnQ): ∀(c:List LnQ) (v:IvQ),v.Pos→adb l c v=none→ ∀t,v.has t→ ¬ ∀m∈c,m≠l→0<m.value (l.at t)
 |[],v,hv,h=>by simp[adb] at h
 |m::c,v,hv,h=>by
  intro t ht hd
  have hd':=List.forall_mem_cons.1 hd
  rw[adb] at h
  split at h
  ·exact ahD l c _ hv h t ht hd'.2
  ·rename_i hm
   split at h
   ·rename_i hb
    exact ahD l c _ (aiP hv hb) h t ((al2 hb t).2 ⟨ht,Rat.le_of_lt (hd'.1 hm)⟩) hd'.2
   ·rename_i hb
    have:=as6 hv (by simpa using hb) ht
    have:=hd'.1 hm
    grind
def acC(c:List LnQ):Bool:=c.isEmpty||c.any (fun l=>(adb l c IvQ.all).isSome)
theorem ak4: ∀{ls:List LnQ} {c e:aaf},afB ls c=some e→ ∀s∈e,s.l∈ls∨ ∃s'∈c,s'.l=s.l
 |[],c,e,h,s,hs=>by
  obtain rfl:c=e:=by simpa[afB] using h
  exact .inr ⟨s,hs,rfl⟩
 |l::t,c,e,h,s,hs=>by
  rw[afB] at h
  split at h
  ·rcases ak4 h s hs with h1|⟨s',h1,h2⟩
   ·exact .inl (List.mem_cons_of_mem _ h1)
   ·unfold aaK at h1
    split at h1
    ·rcases aeb.1 h1 with rfl|h1
     ·exact .inl (by rw[←h2];exact List.mem_cons_self)
     ·obtain⟨s1,m1,_,rfl⟩:=adn.1 h1
      exact .inr ⟨s1,m1,h2⟩
    ·exact .inr ⟨s',h1,h2⟩
  ·exact absurd h (by simp)
theorem aiN{c:List LnQ}(hok: ∀l∈c,l.ok)(hne: ∃p,InL c p): ∃e,afB c []=some e∧aa3 e∧(∀p,InD e p↔InL c p)∧ ∀s∈e,s.l∈c∧(adb s.l c IvQ.all).isSome=true:=by
 obtain⟨p,hp⟩:=hne
 obtain⟨e,he⟩:=akz aa3.nil hok ⟨p,fun s hs=>absurd hs (by simp),hp⟩
 obtain⟨g1,g2⟩:=ak8 aa3.nil hok he
 have g3: ∀p,InD e p↔InL c p:=fun p=>by
  rw[g2]
  exact⟨fun h=>h.2,fun h=>⟨fun s hs=>absurd hs (by simp),h⟩⟩
 refine⟨e,he,g1,g3,fun s hs=>?_⟩
 have hm:s.l∈c:=by
  rcases ak4 he s hs with h|⟨_,h,_⟩
  ·exact h
  ·exact absurd h (by simp)
 refine⟨hm,?_⟩
 cases hp:adb s.l c IvQ.all with
 |some w=>rfl
 |none=>
  exfalso
  obtain⟨p1,p2⟩:=g1.edge s hs
  have hC:=(p2 s.v.sample).1 (acZ p1).has
  refine ahD s.l c _ ajX hp s.v.sample (aow _) fun m hmc hne=>?_
  have hall: ∀p,InD e p→0<m.value p:=fun p hp=>(g3 p).1 hp m hmc
  have h0:=abP g1.ne hall hC
  have h1:m.value (s.l.at s.v.sample)≠0:=fun hz=>hne (amN g1 hs (hok m hmc) hall hz)
  grind
theorem agV{c:List LnQ}(hok: ∀l∈c,l.ok):acC c=true↔ ∃p,InL c p:=by
 unfold acC
 rw[Bool.or_eq_true,List.isEmpty_iff,List.any_eq_true]
 constructor
 ·rintro (rfl|⟨l,hl,h⟩)
  ·exact⟨⟨0,0⟩,fun m hm=>absurd hm (by simp)⟩
  ·obtain⟨w,hw⟩:=Option.isSome_iff_exists.1 h
   obtain⟨w1,w2⟩:=ahN l c _ w ajX hw
   have hi:=((w2 w.sample).1 (acZ w1)).2
   have h0:=ahI (hok l hl).ne w.sample
   have hd:InD ((c.filter (fun m=>decide (m≠l))).map (fun m=>(⟨m,IvQ.all⟩:FrQ))) (l.at w.sample):=by
    intro s hs
    obtain⟨m,hm,rfl⟩:=List.mem_map.1 hs
    rw[List.mem_filter,decide_eq_true_iff] at hm
    exact hi m hm.1 hm.2
   obtain⟨e,he,ho⟩:=hd.open l.nor
   refine⟨acR (l.at w.sample) l.nor e,fun m hm=>?_⟩
   by_cases hml:m=l
   ·subst hml
    rw[abS,h0]
    have:=aae he (agI (hok m hl).ne)
    grind
   ·exact ho e (Rat.le_of_lt he) Rat.le_refl ⟨m,IvQ.all⟩ (List.mem_map.2 ⟨m,List.mem_filter.2 ⟨hm,by simpa using hml⟩,rfl⟩)
 ·intro hne
  obtain⟨e,h1,h2,h3,h4⟩:=aiN hok hne
  cases c with
  |nil=>exact .inl rfl
  |cons l c=>
   right
   cases e with
   |nil=>
    exfalso
    have:=(h3 (l.at 0)).1 (fun s hs=>absurd hs (by simp)) l List.mem_cons_self
    rw[ahI (hok l List.mem_cons_self).ne] at this
    exact absurd this (by decide)
   |cons s e=>
    obtain⟨a,b⟩:=h4 s List.mem_cons_self
    exact⟨s.l,a,b⟩
def aff(out:List LnQ)(l:LnQ):Nat:=(out.takeWhile (fun x=>decide (abY x.dir l.dir<0))).length
def ac5(out:List LnQ)(l:LnQ):List LnQ:=if out[aff out l]? =some l then out else out.take (aff out l)++l::out.drop (aff out l)
def afe(c:List LnQ):List LnQ→List LnQ→List LnQ
 |[],out=>out
 |l::t,out=>afe c t (if(adb l c IvQ.all).isSome then ac5 out l else out)
def abW(c:List LnQ):List LnQ:=afe c c []
theorem ah8{out:List LnQ}{l m:LnQ}:m∈ac5 out l↔m=l∨m∈out:=by
 unfold ac5
 split
 ·rename_i h
  exact⟨fun h=> .inr h,fun h'=>h'.elim (fun e=>e▸List.mem_of_getElem? h) id⟩
 ·generalize aff out l=n
  have h:=List.take_append_drop n out
  rw[List.mem_append,List.mem_cons]
  constructor
  ·rintro (h1|h1|h1)
   ·exact .inr (List.mem_of_mem_take h1)
   ·exact .inl h1
   ·exact .inr (List.mem_of_mem_drop h1)
  ·rintro (h1|h1)
   ·exact .inr (.inl h1)
   ·rw[←h,List.mem_append] at h1
    rcases h1 with h1|h1
    ·exact .inl h1
    ·exact .inr (.inr h1)
theorem akP{c:List LnQ}{m:LnQ}: ∀{t out:List LnQ},m∈afe c t out↔m∈out∨m∈t∧(adb m c IvQ.all).isSome=true
 |[],out=>by simp[afe]
 |l::t,out=>by
  rw[afe,akP]
  split
  ·rename_i h
   rw[ah8,List.mem_cons]
   constructor
   ·rintro ((rfl|h1)|⟨h1,h2⟩)
    ·exact .inr ⟨.inl rfl,h⟩
    ·exact .inl h1
    ·exact .inr ⟨.inr h1,h2⟩
   ·rintro (h1|⟨rfl|h1,h2⟩)
    ·exact .inl (.inr h1)
    ·exact .inl (.inl rfl)
    ·exact .inr ⟨h1,h2⟩
  ·rename_i h
   rw[List.mem_cons]
   constructor
   ·rintro (h1|⟨h1,h2⟩)
    ·exact .inl h1
    ·exact .inr ⟨.inr h1,h2⟩
   ·rintro (h1|⟨rfl|h1,h2⟩)
    ·exact .inl h1
    ·exact absurd h2 h
    ·exact .inr ⟨h1,h2⟩
theorem acy{c:List LnQ}{m:LnQ}:m∈abW c↔m∈c∧(adb m c IvQ.all).isSome=true:=by
 unfold abW;rw[akP];simp
theorem agu{c:List LnQ}(hok: ∀l∈c,l.ok)(hne: ∃p,InL c p)(p:PtQ):InL (abW c) p↔InL c p:=by
 constructor
 ·intro h
  obtain⟨e,h1,h2,h3,h4⟩:=aiN hok hne
  exact(h3 p).1 fun s hs=>h s.l (acy.2 (h4 s hs))
 ·intro h m hm;exact h m (acy.1 hm).1
def aec(c:List LnQ)(l:LnQ):Int:=if acC (c++[l])&&acC (c++[l.rev]) then 0 else if acC (c++[l]) then 1 else-1
def Tr.restrictL:Tr→List LnQ→Tr
 | .leaf b,_=> .leaf b
 | .node l x y,c=>if aec c l=1 then x.restrictL c else if aec c l= -1 then y.restrictL c else joinQ l (x.restrictL (abW (c++[l]))) (y.restrictL (abW (c++[l.rev])))
theorem acd{c:List LnQ}{l:LnQ}{p:PtQ}:InL (c++[l]) p↔InL c p∧0<l.value p:=by
 unfold InL
 rw[List.forall_mem_append]
 simp
theorem acn{c:List LnQ}{l:LnQ}(hok: ∀m∈c,m.ok)(hl:l.ok): ∀m∈c++[l],m.ok:=by
 rw[List.forall_mem_append]
 exact⟨hok,by simpa using hl⟩
theorem Tr.restrictL_eq: ∀(t:Tr) (c:List LnQ) (d:aaf),t.all LnQ.ok→(∀l∈c,l.ok)→aa3 d→(∀p,InD d p↔InL c p)→t.restrictL c=t.restrict d
 | .leaf b,c,d,_,_,_,_=>rfl
 | .node l x y,c,d,h,hc,hd,he=>by
  obtain⟨hl,hx,hy⟩:=h
  have i1:=agV (acn hc hl)
  have i2:=agV (acn hc hl.rev)
  obtain⟨p0,hp0⟩:=hd.ne
  rcases lies hd hl with⟨a1,a⟩|⟨a1,a2,a⟩|⟨a1,a2,ag1,ag2,ae1,ae2⟩
  ·have b1:acC (c++[l])=true:=i1.2 ⟨p0,acd.2 ⟨(he p0).1 hp0,a p0 hp0⟩⟩
   have b2:acC (c++[l.rev])=false:=by
    rw[←Bool.not_eq_true,i2]
    rintro ⟨p,hp⟩
    have hp:=acd.1 hp
    have:=a p ((he p).2 hp.1)
    rw[aaM] at hp
    grind
   rw[Tr.restrict_A _ _ a1,Tr.restrictL,aec,b1,b2]
   exact x.restrictL_eq c d hx hc hd he
  ·have b2:acC (c++[l.rev])=true:=i2.2 ⟨p0,acd.2 ⟨(he p0).1 hp0,by rw[aaM];have:=a p0 hp0;grind⟩⟩
   have b1:acC (c++[l])=false:=by
    rw[←Bool.not_eq_true,i1]
    rintro ⟨p,hp⟩
    have hp:=acd.1 hp
    have:=a p ((he p).2 hp.1)
    grind
   rw[Tr.restrict_B _ _ a1 a2,Tr.restrictL,aec,b1,b2]
   exact y.restrictL_eq c d hy hc hd he
  ·have n1: ∃p,InL (c++[l]) p:=by
    obtain⟨p,hp⟩:=ag1.ne
    exact⟨p,acd.2 ⟨(he p).1 ((ae1 p).1 hp).1,((ae1 p).1 hp).2⟩⟩
   have n2: ∃p,InL (c++[l.rev]) p:=by
    obtain⟨p,hp⟩:=ag2.ne
    exact⟨p,acd.2 ⟨(he p).1 ((ae2 p).1 hp).1,by rw[aaM];have:=((ae2 p).1 hp).2;grind⟩⟩
   rw[Tr.restrict_C _ _ a1 a2,Tr.restrictL,aec,i1.2 n1,i2.2 n2]
   have k1:=x.restrictL_eq (abW (c++[l])) (aaK d l) hx (fun m hm=>acn hc hl m (acy.1 hm).1) ag1 fun p=>by
    rw[agu (acn hc hl) n1,ae1,acd,he]
   have k2:=y.restrictL_eq (abW (c++[l.rev])) (aaK d l.rev) hy (fun m hm=>acn hc hl.rev m (acy.1 hm).1) ag2 fun p=>by
    rw[agu (acn hc hl.rev) n2,ae2,acd,he,aaM]
    constructor<;>rintro ⟨a,b⟩<;>exact⟨a,by grind⟩
   rw[k1,k2]
   rfl
end Go.Sx
end
section
namespace Go.Sx
open Go Go.Proofs
variable {GB:Gh}
structure IvV where
 lo:RV
 hi:RV
 nl:Bool
 nh:Bool
def IvV.v(z:IvV):Value:= .agg ⟨[.int .i64 z.lo.n, .int .i64 z.lo.d, .pointer z.lo.p, .int .i64 z.hi.n, .int .i64 z.hi.d, .pointer z.hi.p, .bool z.nl, .bool z.nh]⟩
section
variable {P:Program} {C:Ctx} {n:Nat} {fr:Fr} {own own' own1:List Own} {G:Gh} {Φ:Act→World→Prop}
variable {dst:Option Nat} {t t' ty':TypeId} {pos:String} {af:Array Edge} {gd:Option (Nat×Bool)} {x y:Operand} {e s by_:Nat}
end
structure aGH (k:Nat) (G:Gh) (z:IvV) (v:IvQ):Prop where
 lo:IsR k G z.lo v.lo
 hi:IsR k G z.hi v.hi
 nl:z.nl=v.nl
 nh:z.nh=v.nh
def orQ:List Int→Int
 |[]=>0
 |x::t=>if x≠0 then x else orQ t
def aHL(l m:LnQ):Int:=orQ [aa1 l.a m.a,aa1 l.b m.b,aa1 l.c m.c]
structure FrV where
 l:LV
 v:IvV
def FrV.val(z:FrV):Value:= .agg ⟨[.int .i64 z.l.a.n, .int .i64 z.l.a.d, .pointer z.l.a.p, .int .i64 z.l.b.n, .int .i64 z.l.b.d, .pointer z.l.b.p, .int .i64 z.l.c.n, .int .i64 z.l.c.d, .pointer z.l.c.p, .int .i64 z.v.lo.n, .int .i64 z.v.lo.d, .pointer z.v.lo.p, .int .i64 z.v.hi.n, .int .i64 z.v.hi.d, .pointer z.v.hi.p, .bool z.v.nl, .bool z.v.nh]⟩
structure aG9 (k:Nat) (G:Gh) (z:FrV) (f:FrQ):Prop where
 l:IsL k G z.l f.l
 v:aGH (25*k+6) G z.v f.v
inductive amM {α β:Type} (R:α→β→Prop):List α→List β→Prop
 |nil:amM R [] []
 |cons {a b us bs} (h:R a b) (t:amM R us bs):amM R (a::us) (b::bs)
theorem amM.len{α β:Type}{R:α→β→Prop}{us:List α}{bs:List β}(h:amM R us bs):us.length=bs.length:=by
 induction h with
 |nil=>rfl
 |cons _ _ ih=>simp[ih]
theorem amM.app{α β:Type}{R:α→β→Prop}{us us':List α}{bs bs':List β}(h:amM R us bs)(k:amM R us' bs'):amM R (us++us') (bs++bs'):=by
 induction h with
 |nil=>exact k
 |cons h _ ih=>exact .cons h ih
structure IsC (k:Nat) (G:Gh) (x:SV) (c:aaf):Prop where
 ex: ∃fs:List FrV,afq G 17 x (fs.map FrV.val)∧amM (aG9 k G) fs c

section
variable {P:Program} {C:Ctx} {n:Nat} {fr:Fr} {own own':List Own} {G:Gh} {Φ:Act→World→Prop}
variable {dst:Option Nat} {t t' ty':TypeId} {pos:String} {af:Array Edge} {gd:Option (Nat×Bool)} {x y:Operand} {e s by_:Nat}
theorem awD{o1 o2:Own}{rest:List Own}(h:o1.b≠o2.b→St C n fr (o1::o2::rest) G Φ):St C n fr (o1::o2::rest) G Φ:=
 fun a w rl=>h ((List.pairwise_cons.1 rl.h.nd).1 _ List.mem_cons_self) a w rl
theorem aeg[hT:acO P t e s by_]{k:IntKind}{b off len cap:Nat}{l:Int}(hx:opv fr x=some (.slice (some ⟨b,off,none⟩) len cap))(hy:opv fr y=some (.int k l))(h0:0≤l)(h1:l≤len)(h2:l<cap):
  Yd P C fr own G ⟨dst, .slice t x (some y) none none,ty',pos,af,gd⟩ (.slice (some ⟨b,off+l.toNat*s,none⟩) (len-l.toNat) (cap-l.toNat)):=by
 have h:=ago (P:=P) (C:=C) (own:=own) (G:=G) (t:=t) (dst:=dst) (ty':=ty') (pos:=pos) (af:=af) (gd:=gd) (by_:=by_) hx hy h0 h1
 unfold aqo at h
 rw[if_neg (by omega)] at h
 simpa[acJ] using h
end

section
variable {P:Program} {C:Ctx} {n:Nat} {fr:Fr} {own own':List Own} {G:Gh} {Φ:Act→World→Prop}
variable {dst:Option Nat} {t t' ty':TypeId} {pos:String} {af:Array Edge} {gd:Option (Nat×Bool)} {x y:Operand} {e s by_:Nat}
end

def IsT(k:Nat)(G:Gh):Tr→Option Addr→Prop
 | .leaf b,p=> ∃n,p=some ⟨n,0,none⟩∧G n=some [.int .i64 0, .int .i64 0, .pointer none, .int .i64 0, .int .i64 0, .pointer none, .int .i64 0, .int .i64 0, .pointer none, .pointer none, .pointer none, .bool b]
 | .node l x y,p=> ∃(n:Nat) (z:LV) (q r:Option Addr),p=some ⟨n,0,none⟩∧G n=some [.int .i64 z.a.n, .int .i64 z.a.d, .pointer z.a.p, .int .i64 z.b.n, .int .i64 z.b.d, .pointer z.b.p, .int .i64 z.c.n, .int .i64 z.c.d, .pointer z.c.p, .pointer q, .pointer r, .bool false]∧IsL k G z l∧IsT k G x q∧IsT k G y r
structure ND where
 a:IV
 b:IV
 c:IV
 l:Int
 r:Int
def ND.val(z:ND):Value:= .agg ⟨[.bool z.a.neg, .slice z.a.a.a z.a.a.n z.a.a.c, .bool z.b.neg, .slice z.b.a.a z.b.a.n z.b.a.c, .bool z.c.neg, .slice z.c.a.a z.c.a.n z.c.a.c, .int .i64 z.l, .int .i64 z.r]⟩
structure aGN (k:Nat) (G:Gh) (z:ND) (n:NQ):Prop where
 a:IsI k G z.a n.l.a
 b:IsI k G z.b n.l.b
 c:IsI k G z.c n.l.c
 l:z.l=n.a
 r:z.r=n.b
structure aHN (k:Nat) (G:Gh) (x:SV) (ns:List NQ):Prop where
 ex: ∃zs:List ND,afq G 8 x (zs.map ND.val)∧amM (aGN k G) zs ns
def aG0(n i:Nat):List Value:=(List.range n).map fun j=> .bool (decide (j<i))

def aGq(ob wb:Nat):Value:= .func (.func 140) #[] #[.pointer (some ⟨ob,0,none⟩), .pointer (some ⟨wb,0,none⟩)]
structure PtV where
 x:SV
 p:Option Addr
def PtV.val(z:PtV):Value:= .agg ⟨[.slice z.x.a z.x.n z.x.c, .pointer z.p]⟩
structure aG5 (k:Nat) (G:Gh) (z:PtV) (b:Bool×aaf):Prop where
 c:IsC k G z.x b.2
 t:IsT k G (.leaf b.1) z.p
structure aHJ (k:Nat) (G:Gh) (w:SV) (ps:List (Bool×aaf)):Prop where
 ex: ∃zs:List PtV,afq G 2 w (zs.map PtV.val)∧amM (aG5 k G) zs ps
structure LI where
 a:IV
 b:IV
 c:IV
def LI.val(z:LI):Value:= .agg ⟨[.bool z.a.neg, .slice z.a.a.a z.a.a.n z.a.a.c, .bool z.b.neg, .slice z.b.a.a z.b.a.n z.b.a.c, .bool z.c.neg, .slice z.c.a.a z.c.a.n z.c.a.c]⟩
structure aGJ (k:Nat) (G:Gh) (z:LI) (l:LnQ):Prop where
 a:IsI k G z.a l.a
 b:IsI k G z.b l.b
 c:IsI k G z.c l.c
structure aG7 (k:Nat) (G:Gh) (x:SV) (ls:List LnQ):Prop where
 ex: ∃zs:List LI,afq G 6 x (zs.map LI.val)∧amM (aGJ k G) zs ls
structure aGT (k:Nat) (G:Gh) (x:SV) (ls:List LnQ):Prop where
 ex: ∃zs:List LV,afq G 9 x (zs.map LV.v)∧amM (IsL k G) zs ls
theorem aoD{a b:Int}(h:a=b):eI a=eI b:=by rw[h]
theorem ap6(z:Int):eQ (z:Rat)= .ag [.v (.bool (decide (z<0))),dN z.natAbs, .sl []]:=by unfold eQ;rw[Rat.num_intCast,Rat.den_intCast];rfl
theorem afF{a:Rat}(h:a.den=1):((a.num:Int):Rat)=a:=Rat.ext (Rat.num_intCast _) (by rw[Rat.den_intCast,h])
theorem axH{a b:Rat}(ha:a.den=1)(hb:b.den=1):a+b=((a.num+b.num:Int):Rat):=by
 rw[Rat.intCast_add,afF ha,afF hb]
theorem auD{a b:Rat}(ha:a.den=1)(hb:b.den=1):a*b=((a.num*b.num:Int):Rat):=by
 rw[Rat.intCast_mul,afF ha,afF hb]
theorem akV(n:Nat)(h:0<n):(if n=1 then [] else(dg n).map dU).length=0↔n=1:=by
 by_cases q:n=1
 ·simp[q]
 ·rw[if_neg q,List.length_map,ab2];omega
theorem aCx{n:Nat}(h:n≠1):dD n=dN n:=by unfold dD;rw[if_neg h];rfl
theorem alD{g:Nat}:(ahF g 1=0)↔g=1:=by
 unfold ahF
 constructor
 ·intro h;split at h
  ·exact absurd h (by decide)
  ·split at h
   ·assumption
   ·exact absurd h (by decide)
 ·rintro rfl;rfl
theorem azg{x:Int}{d:Nat}(hd:0<d):zv (decide (x<0)) (x.natAbs/Nat.gcd x.natAbs d)=(mkRat x d).num:=by
 rw[Rat.num_mkRat,if_neg (by omega),Nat.gcd_comm]
 have hg:0<Nat.gcd d x.natAbs:=Nat.gcd_pos_of_pos_left _ hd
 obtain⟨c,hc⟩:Nat.gcd d x.natAbs∣x.natAbs:=Nat.gcd_dvd_right _ _
 generalize Nat.gcd d x.natAbs=g at*
 rw[hc,Nat.mul_div_cancel_left _ hg]
 unfold zv
 by_cases q:x<0
 ·rw[if_pos (by simpa using q),show x=(g:Int)*(-(c:Int)) by rw[Int.mul_neg,←Int.natCast_mul];omega,Int.mul_ediv_cancel_left _ (by omega)]
 ·rw[if_neg (by simpa using q),show x=(g:Int)*(c:Int) by rw[←Int.natCast_mul];omega,Int.mul_ediv_cancel_left _ (by omega)]
theorem ay9{x:Int}{d:Nat}(hd:0<d):d/Nat.gcd x.natAbs d=(mkRat x d).den:=by
 rw[Rat.den_mkRat,if_neg (by omega),Nat.gcd_comm]
theorem aCp{x:Int}{d:Nat}(hd:0<d)(h:Nat.gcd x.natAbs d=1):(mkRat x d).num=x∧(mkRat x d).den=d:=by
 rw[←azg hd,←ay9 hd,h,Nat.div_one,Nat.div_one]
 exact⟨adQ x,rfl⟩
instance BI.zv (neg:Bool) (m i:Nat) [h:BN m i]:BI (zv neg m) i:=⟨by rw[aeD];exact h.h⟩
section
variable {GB:Gh} {C:Ctx} {n:Nat} {Q0:Exit→Act→World→Prop} {fr fr':FrX} {own own':OwX} {cf cf':Cf} {vc:List Prop}
def aGE(fr:FrX)(cf:Cf):Option Int:=match opC fr cf with
 |some ⟨_, .convert t t' x,_,_,_,_⟩=>match abE tt t,abE tt t' with
  |some ⟨.int .i64,_,_,_⟩,some ⟨.int .u64,_,_,_⟩=>match evX (lkC fr cf) x with
   |some (.d (.v (.int .i64 p)))=>some p
   |_=>none
  |_,_=>none
 |_=>none
theorem cvw[fu:Fu]{p:Int}(q:Int)(h:aGE fr cf=some p)(e:p%18446744073709551616=q)(hgo:goA tt n fu.n fr own cf (.d (.v (.int .u64 q))) [] []=⟨vc,fr',own',cf'⟩)(k:CfS Tryz.prog GB C n Q0 fr' own' cf')
  (hv:aai vc:=by first|exact trivial|(simp only[aai];omega)):CfS Tryz.prog GB C n Q0 fr own cf:=by
 unfold aGE at h
 split at h<;>try (cases h;done)
 rename_i hh
 split at h<;>try (cases h;done)
 rename_i hT hT'
 split at h<;>cases h
 rename_i hx
 have:=ak3 (aca _ _ hT) rfl
 have:=ak3 (aca _ _ hT') rfl
 refine us hh (.x1 hx fun ρ G ov a w y _ r h1 h2=>?_) hgo hv k
 rw[aaz] at h2;subst h2
 refine⟨_,aaz.2 rfl,?_⟩
 rw[←e,←abV]
 exact alR h1
def aF9(fr:FrX)(cf:Cf):Option Int:=match opC fr cf with
 |some ⟨_, .unOp .neg _ x,_,_,_,_⟩=>match evX (lkC fr cf) x with
  |some (.d (.v (.int .u64 p)))=>some p
  |_=>none
 |_=>none
theorem ngw[fu:Fu]{p:Int}(q:Int)(h:aF9 fr cf=some p)(e:(0-p)%18446744073709551616=q)(hgo:goA tt n fu.n fr own cf (.d (.v (.int .u64 q))) [] []=⟨vc,fr',own',cf'⟩)(k:CfS Tryz.prog GB C n Q0 fr' own' cf')
  (hv:aai vc:=by first|exact trivial|(simp only[aai];omega)):CfS Tryz.prog GB C n Q0 fr own cf:=by
 unfold aF9 at h
 split at h<;>try (cases h;done)
 rename_i hh
 split at h<;>cases h
 rename_i hx
 refine us hh (.x1 hx fun ρ G ov a w y _ r h1 h2=>?_) hgo hv k
 rw[aaz] at h2;subst h2
 refine⟨_,aaz.2 rfl,?_⟩
 rw[←e,←abV]
 exact atC h1
end
theorem aFY{n:Int}(h0: -4611686018427387904≤n)(h1:n≤4611686018427387904):PF GB Tryz.prog 174 [.v (.int .i64 n)] (eI n):=by
 refine fn Tryz.func174 J J Tryz.ntmps174 J J (fun C=>?_)
 refine br (fu1:=⟨3⟩) (fu2:=⟨6⟩) J J J (fun hc4=>?_) (fun hc4=>?_)
 ·
  refine cvw (fu:=⟨0⟩) (18446744073709551616+n) rfl (by omega) rfl<|ngw (n.natAbs:Nat) rfl (by omega) rfl<|cl rfl (ah3 (u:=n.natAbs) (by omega)) rfl<|?_
  refine cl rfl acb rfl<|?_
  exact rz rfl (aoD (by unfold zv;rw[if_pos rfl];omega))
 ·
  refine eqF 11 (.d (.v (.int .u64 (n.natAbs:Nat)))) rfl (by show FX.d (.v (.int _ _))= .d (.v (.int _ _));congr 3;omega) ?_
  refine gx rfl<|cl rfl (ah3 (u:=n.natAbs) (by omega)) rfl<|cl rfl acb rfl<|?_
  exact rz rfl (aoD (by unfold zv;rw[if_neg (by decide)];omega))
theorem ak6{z:Int}:PF GB Tryz.prog 80 [eI z] (vI z.sign):=by
 have hl:=aaB (dg z.natAbs)
 have hz:= @ab2 z.natAbs
 refine fn Tryz.func80 J J Tryz.ntmps80 J J (fun C=>?_)
 refine br J J J (fun hc6=>?_) (fun hc6=>?_)
 ·
  exact rz rfl (by show DV.v (.int _ 0)=DV.v (.int _ _);rw[show z=0 by omega];rfl)
 ·
  refine bd J J J (fun hc8=>?_) (fun hc8=>?_)
  ·
   exact rz rfl (by show DV.v (.int _ (-1))=DV.v (.int _ _);rw[Int.sign_eq_neg_one_of_neg (by omega)])
  ·
   exact rz rfl (by show DV.v (.int _ 1)=DV.v (.int _ _);rw[Int.sign_eq_one_of_pos (by omega)])
theorem ai6{z:Int}:PF GB Tryz.prog 162 [eI z] (eI (-z)):=by
 refine fn Tryz.func162 J J Tryz.ntmps162 J J (fun C=>?_)
 refine cl rfl acb rfl<|?_
 exact rz rfl (aoD (aCW z))
theorem awl{a b:Int}(h:decide (a<0)=decide (b<0)):zv (decide (a<0)) (a.natAbs+b.natAbs)=a+b:=by
 unfold zv
 have h':a<0↔b<0:=by simpa using h
 by_cases q:a<0
 ·have:=h'.1 q
  simp[q];omega
 ·have: ¬b<0:=fun w=>q (h'.2 w)
  simp[q];omega
theorem aAw{a b:Int}(h: ¬decide (a<0)=decide (b<0))(k:a.natAbs<b.natAbs):zv (decide (b<0)) (b.natAbs-a.natAbs)=a+b:=by
 unfold zv
 have h': ¬(a<0↔b<0):=by simpa using h
 by_cases q:b<0
 ·have: ¬a<0:=fun w=>h' ⟨fun _=>q,fun _=>w⟩
  simp[q];omega
 ·have:a<0:=Int.not_le.1 fun w=>h' ⟨fun e=>by omega,fun e=>absurd e q⟩
  simp[q];omega
theorem aAT{a b:Int}(h: ¬decide (a<0)=decide (b<0))(k:b.natAbs≤a.natAbs):zv (decide (a<0)) (a.natAbs-b.natAbs)=a+b:=by
 unfold zv
 have h': ¬(a<0↔b<0):=by simpa using h
 by_cases q:a<0
 ·have: ¬b<0:=fun w=>h' ⟨fun _=>w,fun _=>q⟩
  simp[q];omega
 ·have:b<0:=Int.not_le.1 fun w=>h' ⟨fun e=>absurd e q,fun e=>by omega⟩
  simp[q];omega
theorem axs{a b:Int}{i j:Nat}[ha:BI a i][hb:BI b j](hi:i≤400000000:=by decide)(hj:j≤400000000:=by decide):PF GB Tryz.prog 164 [eI a,eI b] (eI (a+b)):=by
 have hba:=aa4 ha.h
 have hbb:=aa4 hb.h
 refine fn (fu:=⟨15⟩) Tryz.func164 J J Tryz.ntmps164 J J (fun C=>?_)
 refine eqF 9 (.d (.v (.bool (decide (decide (a<0)=decide (b<0)))))) rfl (by congr 2) ?_
 refine gx rfl<|?_
 refine bd J J J (fun hc9=>?_) (fun hc9=>?_)
 ·
  refine cl rfl (aFk (by omega) (by omega)) rfl<|cl rfl acb rfl<|?_
  exact rz rfl (aoD (awl hc9))
 ·
  refine cl rfl (at4 (by omega) (by omega)) rfl<|?_
  refine br J J J (fun hc23=>?_) (fun hc23=>?_)
  ·
   refine cl rfl (auc (by have:=afV.1 hc23;omega) (by omega)) rfl<|cl rfl acb rfl<|?_
   exact rz rfl (aoD (aAw hc9 (afV.1 hc23)))
  ·
   refine cl rfl (auc (Nat.le_of_not_lt fun q=>hc23 (afV.2 q)) (by omega)) rfl<|cl rfl acb rfl<|?_
   exact rz rfl (aoD (aAT hc9 (Nat.le_of_not_lt fun q=>hc23 (afV.2 q))))
theorem aki{a b:Int}{i j:Nat}[ha:BI a i][hb:BI b j](hi:i≤400000000:=by decide)(hj:j≤400000000:=by decide):PF GB Tryz.prog 163 [eI a,eI b] (eI (a*b)):=by
 refine fn Tryz.func163 J J Tryz.ntmps163 J J (fun C=>?_)
 refine cl rfl (ack (by omega) (by omega)) rfl<|cl rfl acb rfl<|?_
 exact rz rfl (aoD (aBT a b))
theorem ahK{a b:Int}{i j:Nat}[ha:BI a i][hb:BI b j](hi:i≤400000000:=by decide)(hj:j≤400000000:=by decide):PF GB Tryz.prog 165 [eI a,eI b] (vI (a-b).sign):=by
 refine fn Tryz.func165 J J Tryz.ntmps165 J J (fun C=>?_)
 refine cl rfl ai6 rfl<|cl rfl (axs (by omega) (by omega)) rfl<|cl rfl ak6 rfl<|?_
 exact rz rfl (by rw[Int.sub_eq_add_neg];rfl)
theorem aeA{q:Rat}:PF GB Tryz.prog 145 [eQ q] (dN q.den):=by
 refine fn Tryz.func145 J J Tryz.ntmps145 J J (fun C=>?_)
 refine br J J J (fun hc6=>?_) (fun hc6=>?_)
 ·
  refine cl rfl az3 rfl<|?_
  exact rz rfl (by rw[(akV q.den (abH q)).1 (by omega)];rfl)
 ·
  exact rz rfl (by exact aCx (fun e=>hc6 (by exact congrArg Int.ofNat ((akV q.den (abH q)).2 e))))
theorem ahV{n k:Nat}[h:BN n k](hk:k≤500000000):(dg n).length≤100000000:=by have:=aa4 h.h;omega
theorem akI{x:Int}{d i j:Nat}[hx:BI x i][hd:BN d j](hd0:0<d)(hi:i≤200000000:=by decide)(hj:j≤200000000:=by decide):PF GB Tryz.prog 135 [eI x,dN d] (eQ (mkRat x d)):=by
 obtain⟨q,hq⟩: ∃q,q=mkRat x d:=⟨_,rfl⟩
 obtain⟨g,hg⟩: ∃g,g=Nat.gcd x.natAbs d:=⟨_,rfl⟩
 have hg0:0<g:=hg▸Nat.gcd_pos_of_pos_right _ hd0
 haveI hgB:BN g (i+j):=hg▸inferInstance
 have hg1:(dg g).length≤100000000:=ahV (k:=i+j) (by omega)
 have ho1:(dg 1).length≤100000000:=by rw[aor];decide
 haveI hqB:BQ q (i+j):=hq▸agw hd0 (Nat.lt_of_lt_of_le hx.h (Nat.pow_le_pow_right (by decide) (by omega))) (Nat.lt_of_lt_of_le hd.h (Nat.pow_le_pow_right (by decide) (by omega)))
 refine fn Tryz.func135 J J Tryz.ntmps135 J J (fun C=>?_)
 refine cl (fu:=⟨0⟩) rfl (ain (by omega) (by omega)) rfl<|?_
 refine eqF 11 (.d (dN g)) rfl (by rw[hg]) ?_
 refine gx (fu:=⟨4⟩) rfl<|?_
 refine mg (fu:=⟨1⟩) (X:=Unit) (fun _=>[(1, .d (dN q.den)),(2, .ov 2 0),(4, .ov 4 0)]) (fun _=>[(4,some (.o 56 [.ff, .nl, .nl] true)),(2,some (.o 54 [.d (.v (.bool (decide (q.num<0)))), .d (dN q.num.natAbs)] true))]) (fun _=>True) [1,2,4] [4,2] rfl ?_ (fun _=>rfl) (fun _ hm=>?_)
 ·
  refine gx rfl<|cl rfl az3 rfl<|cl rfl (at4 hg1 ho1) rfl<|?_
  refine br J J J (fun hc15=>?_) (fun hc15=>?_)
  ·
   refine cl rfl (ad9 hg0 (by omega) (by omega)) rfl<|cl (fu:=⟨0⟩) rfl acb rfl<|?_
   refine eqF 26 (.d (eI q.num)) rfl (by show FX.d (eI (zv _ _))=_;rw[hg,azg hd0,hq]) ?_
   refine gx rfl<|cl (fu:=⟨2⟩) rfl (ad9 hg0 (by omega) (by omega)) rfl<|?_
   refine eqF 31 (.d (dN q.den)) rfl (by rw[hg,ay9 hd0,hq]) ?_
   refine gx rfl<|?_
   exact at_ () trivial
  ·
   have hm:=aCp (x:=x) hd0 (by rw[←hg];exact alD.1 (Decidable.not_not.1 hc15))
   rw[←hq] at hm
   refine eqF 1 (.d (dN q.den)) rfl (by rw[hm.2]) ?_
   exact at_ () trivial (hO:=⟨rfl,by rw[hm.1];rfl,trivial⟩)
 ·
  refine mg (X:=Unit) (fun _=>[(1, .d (dD q.den)),(2, .ov 2 0),(4, .ov 4 0)]) (fun _=>[(4,some (.o 56 [.ff, .nl, .nl] true)),(2,some (.o 54 [.d (.v (.bool (decide (q.num<0)))), .d (dN q.num.natAbs)] true))]) (fun _=>True) [1,2,4] [4,2] rfl ?_ (fun _=>rfl) (fun _ hm=>?_)
  ·
   refine gx rfl<|cl rfl az3 rfl<|cl rfl (at4 (ahV (k:=i+j) (by omega)) ho1) rfl<|?_
   refine br J J J (fun hc36=>?_) (fun hc36=>?_)
   ·
    refine nlD 1 rfl ?_
    refine eqF 1 (.d (dD q.den)) rfl (by rw[alD.1 hc36];rfl) ?_
    exact at_ () trivial
   ·
    refine eqF 1 (.d (dD q.den)) rfl (by rw[aCx (fun e=>hc36 (alD.2 e))]) ?_
    exact at_ () trivial
  ·
   exact rz rfl (by rw[←hq];rfl)
theorem ajl(a:Rat):mkRat a.num a.den=a:=by simp[Rat.mkRat_self]
theorem atB{a b:Rat}(h:b≠0):a/b=mkRat (a.num*zv (decide (b.num<0)) b.den) (a.den*b.num.natAbs):=by
 rw[Rat.mkRat_eq_div]
 have ha:(a.num:Rat)/(a.den:Rat)=a:=by rw[←Rat.mkRat_eq_div,ajl]
 have hb:(b.num:Rat)/(b.den:Rat)=b:=by rw[←Rat.mkRat_eq_div,ajl]
 have h1:(a.den:Rat)≠0:=by have:=a.den_nz;exact_mod_cast this
 have h2:(b.den:Rat)≠0:=by have:=b.den_nz;exact_mod_cast this
 have h3:(b.num:Rat)≠0:=by
  intro e
  rw[e] at hb
  apply h;rw[←hb];grind
 rw[Rat.intCast_mul,Rat.natCast_mul]
 by_cases q:b.num<0
 ·have e1:((zv (decide (b.num<0)) b.den:Int):Rat)= -(b.den:Rat):=by
   unfold zv;rw[if_pos (by simpa using q),Rat.intCast_neg];rfl
  have e2:((b.num.natAbs:Nat):Rat)= -(b.num:Rat):=by
   have:((b.num.natAbs:Nat):Int)= -b.num:=by omega
   rw[←Rat.intCast_neg,←this];rfl
  rw[e1,e2]
  generalize (a.num:Rat)=an at*
  generalize (a.den:Rat)=ad at*
  generalize (b.num:Rat)=bn at*
  generalize (b.den:Rat)=bd at*
  subst ha hb
  grind
 ·have e1:((zv (decide (b.num<0)) b.den:Int):Rat)=(b.den:Rat):=by
   unfold zv;rw[if_neg (by simpa using q)];rfl
  have e2:((b.num.natAbs:Nat):Rat)=(b.num:Rat):=by
   have:((b.num.natAbs:Nat):Int)=b.num:=by omega
   rw[←this];rfl
  rw[e1,e2]
  generalize (a.num:Rat)=an at*
  generalize (a.den:Rat)=ad at*
  generalize (b.num:Rat)=bn at*
  generalize (b.den:Rat)=bd at*
  subst ha hb
  grind
theorem arq{q:Rat}{n:Int}{d:Nat}(hd:0<d)(h:q*(d:Rat)=(n:Rat)):q.num.natAbs≤n.natAbs∧q.den≤d:=by
 have e:q=mkRat n d:=by
  rw[Rat.mkRat_eq_div]
  have:(d:Rat)≠0:=by exact_mod_cast (by omega:d≠0)
  rw[←h];grind
 rw[e,Rat.num_mkRat,Rat.den_mkRat,if_neg (by omega),if_neg (by omega)]
 exact⟨Int.natAbs_ediv_le_natAbs n (d.gcd n.natAbs:Nat),Nat.div_le_self ..⟩
theorem BQ.of_frac{q:Rat}{n:Int}{d i:Nat}(hd:0<d)(h:q*(d:Rat)=(n:Rat))(hn:n.natAbs<2^i)(hdi:d<2^i):BQ q i:=by
 have:=arq hd h
 exact⟨by omega,by omega⟩
theorem ak0{b:Rat}(h:b≠0):0<b.num.natAbs:=by
 have:b.num≠0:=fun e=>h (Rat.num_eq_zero.1 e)
 omega
instance BQ.over (a b:Rat) (i j:Nat) [ha:BQ a i] [hb:BQ b j]:BQ (a/b) (i+j):=by
 by_cases h:b=0
 ·subst h
  rw[Rat.div_def,Rat.inv_zero,Rat.mul_zero]
  have h2:=ha.hd
  have h3:0<a.den:=abH a
  have h4:2^i*1≤2^i*2^j:=Nat.mul_le_mul_left _ (Nat.pow_pos (by decide))
  rw[←Nat.pow_add] at h4
  exact⟨by show 0<_;omega,by show 1<_;omega⟩
 ·rw[atB h]
  have hb0:=ak0 h
  refine agw (Nat.mul_pos (abH a) hb0) ?_ (abl ha.hd hb.hn)
  rw[Int.natAbs_mul,aeD]
  exact abl ha.hn hb.hd
theorem akj{n:Int}(h0: -4611686018427387904≤n)(h1:n≤4611686018427387904):PF GB Tryz.prog 101 [.v (.int .i64 n)] (eQ (n:Rat)):=by
 refine fn Tryz.func101 J J Tryz.ntmps101 J J (fun C=>?_)
 refine cl rfl (aFY (by omega) (by omega)) rfl<|?_
 exact rz rfl (by rw[ap6];rfl)
theorem q_S{q:Rat}:PF GB Tryz.prog 131 [eQ q] (vI q.num.sign):=by
 refine fn Tryz.func131 J J Tryz.ntmps131 J J (fun C=>?_)
 refine cl rfl ak6 rfl<|?_
 exact rz J J
theorem aic{q:Rat}:PF GB Tryz.prog 84 [eQ q] (eQ (-q)):=by
 refine fn Tryz.func84 J J Tryz.ntmps84 J J (fun C=>?_)
 refine cl rfl ai6 rfl<|?_
 exact rz rfl (by unfold eQ;rw[Rat.neg_num,Rat.neg_den];rfl)
theorem abi{a b:Rat}{i j:Nat}[ha:BQ a i][hb:BQ b j](hi:i≤20000000:=by decide)(hj:j≤20000000:=by decide):PF GB Tryz.prog 87 [eQ a,eQ b] (eQ (a*b)):=by
 have had:=abH a
 have hbd:=abH b
 have hdp:=Nat.mul_pos had hbd
 have e1:=akV a.den had
 have e2:=akV b.den hbd
 refine fn Tryz.func87 J J Tryz.ntmps87 J J (fun C=>?_)
 refine cs 9 J J J (fun hg9=>?_) (fun hg9=>?_)
 ·
  refine br J J J (fun hc14=>?_) (fun hc14=>?_)
  ·
   refine cl rfl (aki (a:=a.num) (b:=b.num) (by omega) (by omega)) rfl<|?_
   exact rz rfl (by rw[auD (e1.1 (by omega)) (e2.1 (by omega)),ap6];rfl)
  ·
   refine cl rfl (aki (a:=a.num) (b:=b.num) (by omega) (by omega)) rfl<|cl rfl aeA rfl<|cl rfl aeA rfl<|cl rfl (ack (by omega) (by omega)) rfl<|?_
   refine cl rfl (akI hdp (by omega) (by omega)) rfl<|?_
   exact rz rfl (by rw[aeu];rfl)
 ·
  refine cl rfl (aki (a:=a.num) (b:=b.num) (by omega) (by omega)) rfl<|cl rfl aeA rfl<|cl rfl aeA rfl<|cl rfl (ack (by omega) (by omega)) rfl<|?_
  refine cl rfl (akI hdp (by omega) (by omega)) rfl<|?_
  exact rz rfl (by rw[aeu];rfl)
theorem aeh{a b:Rat}{i j:Nat}[ha:BQ a i][hb:BQ b j](hi:i≤20000000:=by decide)(hj:j≤20000000:=by decide):PF GB Tryz.prog 86 [eQ a,eQ b] (eQ (a+b)):=by
 have had:=abH a
 have hbd:=abH b
 have hdp:=Nat.mul_pos had hbd
 have e1:=akV a.den had
 have e2:=akV b.den hbd
 refine fn Tryz.func86 J J Tryz.ntmps86 J J (fun C=>?_)
 refine cs 9 J J J (fun hg9=>?_) (fun hg9=>?_)
 ·
  refine br J J J (fun hc14=>?_) (fun hc14=>?_)
  ·
   refine cl rfl (axs (by omega) (by omega)) rfl<|?_
   exact rz rfl (by rw[axH (e1.1 (by omega)) (e2.1 (by omega)),ap6];rfl)
  ·
   refine cl rfl aeA rfl<|cl rfl acb rfl<|cl rfl (aki (a:=a.num) (b:=zv false b.den) (by omega) (by omega)) rfl<|cl rfl aeA rfl<|cl rfl acb rfl<|?_
   refine cl rfl (aki (a:=b.num) (b:=zv false a.den) (by omega) (by omega)) rfl<|cl rfl (axs (by omega) (by omega)) rfl<|cl rfl aeA rfl<|?_
   refine cl rfl aeA rfl<|cl rfl (ack (by omega) (by omega)) rfl<|cl rfl (akI hdp (by omega) (by omega)) rfl<|?_
   exact rz rfl (by rw[aev];rfl)
 ·
  refine cl rfl aeA rfl<|cl rfl acb rfl<|cl rfl (aki (a:=a.num) (b:=zv false b.den) (by omega) (by omega)) rfl<|cl rfl aeA rfl<|?_
  refine cl rfl acb rfl<|cl rfl (aki (a:=b.num) (b:=zv false a.den) (by omega) (by omega)) rfl<|cl rfl (axs (by omega) (by omega)) rfl<|?_
  refine cl rfl aeA rfl<|cl rfl aeA rfl<|cl rfl (ack (by omega) (by omega)) rfl<|cl rfl (akI hdp (by omega) (by omega)) rfl<|?_
  exact rz rfl (by rw[aev];rfl)
theorem ako{a b:Rat}{i j:Nat}[ha:BQ a i][hb:BQ b j](hi:i≤20000000:=by decide)(hj:j≤20000000:=by decide):PF GB Tryz.prog 146 [eQ a,eQ b] (eQ (a-b)):=by
 refine fn Tryz.func146 J J Tryz.ntmps146 J J (fun C=>?_)
 refine cl rfl (aic (q:=b)) rfl<|cl rfl (aeh (a:=a) (b:= -b) hi hj) rfl<|?_
 exact rz rfl (by rw[Rat.sub_eq_add_neg];rfl)
theorem aj2{a b:Rat}{i j:Nat}[ha:BQ a i][hb:BQ b j](hb0:b≠0)(hi:i≤20000000:=by decide)(hj:j≤20000000:=by decide):PF GB Tryz.prog 85 [eQ a,eQ b] (eQ (a/b)):=by
 have hbp:=ak0 hb0
 have hdp:=Nat.mul_pos (abH a) hbp
 refine fn Tryz.func85 J J Tryz.ntmps85 J J (fun C=>?_)
 refine cl rfl aeA rfl<|cl rfl acb rfl<|cl rfl (aki (a:=a.num) (b:=zv (decide (b.num<0)) b.den) (by omega) (by omega)) rfl<|cl rfl aeA rfl<|?_
 refine cl rfl (ack (a:=a.den) (b:=b.num.natAbs) (by omega) (by omega)) rfl<|cl rfl (akI (x:=a.num*zv (decide (b.num<0)) b.den) (d:=a.den*b.num.natAbs) hdp (by omega) (by omega)) rfl<|?_
 exact rz rfl (by rw[atB hb0];rfl)
theorem q_C{a b:Rat}{i j:Nat}[ha:BQ a i][hb:BQ b j](hi:i≤20000000:=by decide)(hj:j≤20000000:=by decide):PF GB Tryz.prog 161 [eQ a,eQ b] (vI (aa1 a b)):=by
 refine fn Tryz.func161 J J Tryz.ntmps161 J J (fun C=>?_)
 refine cl rfl (ako hi hj) rfl<|cl rfl q_S rfl<|?_
 exact rz rfl (by show vI _=vI _;rw[aiB])
theorem aEe:((2:Int):Rat)≠0:=by decide
instance BI.two:BI 2 2:=⟨by decide⟩
theorem asZ{a:Rat}{i:Nat}[ha:BQ a i](hi:i≤20000000:=by decide):PF GB Tryz.prog 215 [eQ a] (eQ (a/2)):=by
 refine fn Tryz.func215 J J Tryz.ntmps215 J J (fun C=>?_)
 refine cl rfl (akj (n:=2) (by decide) (by decide)) rfl<|cl rfl (aj2 (a:=a) (b:=((2:Int):Rat)) aEe hi (by decide)) rfl<|?_
 exact rz J J
theorem awK{a b:Rat}{i j:Nat}[ha:BQ a i][hb:BQ b j](hi:i≤2000000:=by decide)(hj:j≤2000000:=by decide):PF GB Tryz.prog 160 [eQ a,eQ b] (eQ ((a+b)/2)):=by
 refine fn Tryz.func160 J J Tryz.ntmps160 J J (fun C=>?_)
 refine cl rfl (aeh (by omega) (by omega)) rfl<|cl rfl (asZ (a:=a+b) (by omega)) rfl<|?_
 exact rz J J
end Go.Sx
end
