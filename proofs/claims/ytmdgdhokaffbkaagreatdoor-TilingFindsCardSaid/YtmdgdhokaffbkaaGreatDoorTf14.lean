import Derived.Test.YtmdgdhokaffbkaaGreatDoorTf13
set_option linter.all false
set_option maxHeartbeats 4000000
set_option maxRecDepth 100000
section
namespace Go.Sx
open Go Go.Proofs Tryz
variable {i a b k j:Nat}{l:aa}{op m side n m' n' fill:Int}{f g:bi}{t x y:Tr}{p d u:ab}{c e:az}{es:List Int}
variable {GB:Gh}
def jE(out:List Rat)(s:ak):List Rat:=if s.nh then(if s.nl then out else lG s.lo out) else lG s.hi (if s.nl then out else lG s.lo out)
def f9(l:List ak):List Rat:=l.foldl jE []
def pk:List ak->Rat->Int
 |[],_=>0
 |s::t,x=>
  let a:=if s.nl then 1 else bm x s.lo
  let b:=if s.nh then-1 else bm x s.hi
  if 0<a/\b<0 then 2 else if(a=0/\b<=0)\/(b=0/\0<=a) then 1 else pk t x
def fi(l:List ak)(x:Rat):Bool:=decide (pk l x=2)
def c8(cuts:List Rat)(i:Nat):ak:=⟨if i=0 then 0 else cuts.getD (i-1) 0,if i<cuts.length then cuts.getD i 0 else 0,decide (i=0),decide (i=cuts.length)⟩
def rF(v w:ak):ak:=⟨v.lo,w.hi,v.nl,w.nh⟩
def eH(cuts:List Rat)(marks:List Bool):Nat->List ak
 |0=>[]
 |k+1=>
  let out:=eH cuts marks k
  if marks.getD k false then
   (if 0<k/\marks.getD (k-1) false=true then(match out.getLast? with
    |some v=>out.dropLast++[rF v (c8 cuts k)]
    |none=>out++[c8 cuts k]) else out++[c8 cuts k])
  else out
def si(cuts:List Rat)(marks:List Bool):List ak:=eH cuts marks marks.length
def lA(op:Int)(x y:Bool):Bool:=if op=2 then x&&y else if op=3 then x&&!y else if op=4 then x !=y else x||y
def mA(op:Int)(a b:List ak):List ak:=si (f9 (a++b)) ((fg (f9 (a++b))).map fun t=>lA op (fi a t) (fi b t))
def gH(l m:aa)(side:Int):List ak:=
 if crossI l m=0 then(if(m.value l.base).num.sign=side then [ak.all] else [])
 else if(m.value (l.at (fH l (du l m)+1))).num.sign=side then [⟨fH l (du l m),0,false,true⟩] else [⟨0,fH l (du l m),true,false⟩]
def jH(l m:aa):Bool:=decide (crossI l m=0/\(m.value l.base).num.sign=0)
def dB(f:bi)(m:aa)(side:Int):List bi:=if jH f.l m then [] else(mA 2 [f.v] (gH f.l m side)).map fun v=>⟨f.l,v⟩
def Ed(l:List ak):(f9 l).Pairwise (· < ·)/\ ∀y∈f9 l,∃s∈l,(s.nl=false/\y=s.lo)\/(s.nh=false/\y=s.hi):=by
 have key: ∀(l:List ak) (o:List Rat),o.Pairwise (· < ·)->(l.foldl jE o).Pairwise (· < ·)/\ ∀y∈l.foldl jE o,y∈o\/ ∃s∈l,(s.nl=false/\y=s.lo)\/(s.nh=false/\y=s.hi):=by
  intro l
  induction l with
  |nil=>intro o h;exact⟨h,fun y hy=> .inl hy⟩
  |cons s t ih=>
   intro o h;have h1:(jE o s).Pairwise (· < ·)/\ ∀y∈jE o s,y∈o\/(s.nl=false/\y=s.lo)\/(s.nh=false/\y=s.hi):=by
    unfold jE
    cases e1:s.nl<;>cases e2:s.nh<;>simp only[if_true,iL,if_false]
    .refine⟨xU (xU h),fun y hy=>?_⟩
     rcases ot.1 hy with h|h
     .exact .inr (.inr ⟨trivial,h⟩)
     .rcases ot.1 h with h|h
      .exact .inr (.inl ⟨trivial,h⟩)
      .exact .inl h
    .refine⟨xU h,fun y hy=>?_⟩
     rcases ot.1 hy with h|h
     .exact .inr (.inl ⟨trivial,h⟩)
     .exact .inl h
    .refine⟨xU h,fun y hy=>?_⟩
     rcases ot.1 hy with h|h
     .exact .inr (.inr ⟨trivial,h⟩)
     .exact .inl h
    .exact⟨h,fun y hy=> .inl hy⟩
   obtain⟨k1,k2⟩:=ih (jE o s) h1.1;refine⟨k1,fun y hy=>?_⟩;rcases k2 y hy with h2|⟨q,hq,h2⟩
   .rcases h1.2 y h2 with h3|h3
    .exact .inl h3
    .exact .inr ⟨s,aZ,h3⟩
   .exact .inr ⟨q,aK _ hq,h2⟩
 have:=key l [] List.Pairwise.nil;refine⟨this.1,fun y hy=>?_⟩;rcases this.2 y hy with h|h
 .cases h
 .exact h
structure Ea (cuts:List Rat) (v:ak):Prop where
 z:gg v
 lo:v.nl=true\/v.lo∈cuts
 hi:v.nh=true\/v.hi∈cuts
def Rp{cuts:List Rat}(h:i<=cuts.length):Ea cuts (c8 cuts i):=by
 unfold c8;refine⟨⟨fun e=>?_,fun e=>?_⟩,?_,?_⟩
 .simp only[decide_eq_true_eq] at e;simp[e]
 .simp only[decide_eq_true_eq] at e;simp[e]
 .by_cases h0:i=0
  .left;simp[h0]
  .right
   simp only[if_neg h0];rw[aJ,aQ pb];exact bL _
 .by_cases h0:i=cuts.length
  .left;simp[h0]
  .right
   simp only[if_pos (show i<cuts.length by omega)];rw[aJ,aQ pb];exact bL _
def Mg{cuts:List Rat}{marks:List Bool}: ∀{k:Nat},k<=cuts.length+1-> ∀v∈eH cuts marks k,Ea cuts v
 |0,_,v,hv=>by cases hv
 |k+1,hk,v,hv=>by
  have ih:=Mg (cuts:=cuts) (marks:=marks) (k:=k) pb;have hg:=Rp (cuts:=cuts) (i:=k) pb;rw[eH] at hv;split at hv
  .split at hv
   .split at hv
    .rename_i w hw
     rcases bJ.1 hv with h|h
     .exact ih v ((oS _).subset h)
     .rw[aW] at h;subst h
      have hw':=ih w (nZ hw);exact⟨⟨hw'.z.1,hg.z.2⟩,hw'.lo,hg.hi⟩
    .rcases bJ.1 hv with h|h
     .exact ih v h
     .rw[aW] at h;subst h;exact hg
   .rcases bJ.1 hv with h|h
    .exact ih v h
    .rw[aW] at h;subst h;exact hg
  .exact ih v hv
def xq{l:List Rat}:(fg l).length=l.length+1:=by
 have key: ∀(l:List Rat) (a:Rat),(gF (a::l)).length=l.length:=by
  intro l
  induction l with
  |nil=>intro a;rfl
  |cons b t ih=>intro a;rw[gF,bY,ih b,bY]
 cases l with
 |nil=>rfl
 |cons a t=>rw[fg,bY,aU,key];simp
def Wg{a b:List ak}: ∀v∈mA op a b,Ea (f9 (a++b)) v:=fun v hv=>by
 unfold mA si at hv;refine Mg ?_ v hv;rw[aX,xq];omega
def F5{cuts:List Rat}{marks:List Bool}: ∀{k:Nat},(eH cuts marks k).length<=k
 |0=>bZ _
 |k+1=>by
  have ih:=F5 (cuts:=cuts) (marks:=marks) (k:=k);rw[eH];split
  .split
   .split
    .rename_i w hw
     have:=List.length_pos_of_mem (nZ hw);rw[aU,gL];simp;omega
    .rw[aU];simp;omega
   .rw[aU];simp;omega
  .omega
structure lx (f:bi):Prop where
 lb:LB f.l
 ok:f.l.ok
 z:gg f.v
 lo:BQ f.v.lo 1200
 hi:BQ f.v.hi 1200
theorem BQ.zero1200:BQ (0:Rat) 1200:=BQ.mono (k:=1) ⟨v6,v6⟩
def DN{m:aa}(hl:LB l)(hm:LB m)(hlo:l.ok): ∀v∈gH l m side,gg v/\BQ v.lo 1200/\BQ v.hi 1200:=fun v hv=>by
 unfold gH at hv;split at hv
 .split at hv
  .rw[aW] at hv;subst hv;exact⟨gg.all,BQ.zero1200,BQ.zero1200⟩
  .cases hv
 .rename_i hc
  have:=Al hlo.ne hc;split at hv
  .rw[aW] at hv;subst hv;exact⟨⟨fun h=>okh,fun _=>J⟩,this,BQ.zero1200⟩
  .rw[aW] at hv;subst hv;exact⟨⟨fun _=>J,fun h=>okh⟩,BQ.zero1200,this⟩
def Ct{m:aa}(h:lx f)(hm:LB m): ∀g∈dB f m side,lx g/\g.l=f.l/\jH f.l m=false:=fun g hg=>by
 unfold dB at hg;split at hg
 .cases hg
 .rename_i ho
  obtain⟨v,hv,rfl⟩:=aN.1 hg;have hi:=Wg v hv;have bd: ∀y∈f9 ([f.v]++gH f.l m side),BQ y 1200:=fun y hy=>by
   obtain⟨s,hs,h1⟩:=(Ed _).2 y hy;rcases bJ.1 hs with hs|hs
   .rw[aW] at hs;subst hs
    rcases h1 with⟨_,rfl⟩|⟨_,rfl⟩
    .exact h.lo
    .exact h.hi
   .have:=DN h.lb hm h.ok s hs
    rcases h1 with⟨_,rfl⟩|⟨_,rfl⟩
    .exact this.2.1
    .exact this.2.2
  refine⟨⟨h.lb,h.ok,hi.z,?_,?_⟩,J,by simpa using ho⟩
  .rcases hi.lo with e|e
   .rw[hi.z.1 e];exact BQ.zero1200
   .exact bd _ e
  .rcases hi.hi with e|e
   .rw[hi.z.2 e];exact BQ.zero1200
   .exact bd _ e
def ij(acc:ab->Bool):Nat->List bi->List aa->Tr
 |_,[],c=> .leaf (acc (gI c c))
 |0,_::_,_=> .leaf false
 |n+1,f::t,c=> .node f.l (ij acc n ((f::t).flatMap fun g=>dB g f.l 1) (c++[f.l])) (ij acc n ((f::t).flatMap fun g=>dB g f.l (-1)) (c++[f.l.rev]))
def S8{m:aa}(h:g∈dB f m side):g.l=f.l:=by
 unfold dB at h;split at h
 .cases h
 .obtain⟨v,_,rfl⟩:=aN.1 h;rfl
def tE{acc:ab->Bool}{P:aa->Prop}: ∀{n:Nat} {l:List bi} {c:List aa},(∀f∈l,P f.l)->(ij acc n l c).all P
 |n,[],c,_=>by unfold ij;trivial
 |0,_::_,_,_=>by unfold ij;trivial
 |n+1,f::t,c,h=>by
  rw[ij];refine⟨h f aZ,tE fun g hg=>?_,tE fun g hg=>?_⟩<;>
  .obtain⟨q,hq,hg⟩:=fQ.1 hg
   rw[S8 hg];exact h q hq
def D1{acc:ab->Bool}: ∀{n:Nat} {l:List bi} {c:List aa},(ij acc n l c).depth<=n
 |n,[],c=>by unfold ij;exact aL _
 |0,_::_,_=>by unfold ij;exact aL _
 |n+1,f::t,c=>by
  rw[ij,Tr.depth];have h1:=D1 (acc:=acc) (n:=n) (l:=(f::t).flatMap fun g=>dB g f.l 1) (c:=c++[f.l]);have h2:=D1 (acc:=acc) (n:=n) (l:=(f::t).flatMap fun g=>dB g f.l (-1)) (c:=c++[f.l.rev]);omega
def pe(n:Nat)(l:List bi):Prop:= ∃K:List aa,K.length<=n/\ ∀f∈l,∃m∈K,m.same f.l
def Wx{m:aa}(hm:m.Ne):m.value m.base=0:=by
 have h:=kC hm 0;rw[<-qx,gD] at h;grind
def Tc{m:aa}(h:l.same m)(hm:m.Ne):jH m l=true:=by
 unfold jH;rw[decide_eq_true_iff];refine⟨?_,?_⟩
 .rcases h with rfl|rfl
  .unfold crossI;omega
  .unfold crossI aa.rev
   show(-l.a)*l.b-l.a*(-l.b)=0;grind
 .rw[lC]
  exact Av h.symm (Wx hm)
def pe.split{n:Nat}{t:List bi}(h:pe (n+1) (f::t))(hok: ∀g∈f::t,lx g):pe n ((f::t).flatMap fun g=>dB g f.l side):=by
 obtain⟨K,hK,hs⟩:=h;refine⟨K.filter fun m=>!decide (m.same f.l),?_,fun g hg=>?_⟩
 .obtain⟨m,hm,hm2⟩:=hs f aZ
  have:(K.filter fun m=>!decide (m.same f.l)).length<K.length:=by
   refine List.length_filter_lt_length_iff_exists.2 ⟨m,hm,by simp[hm2]⟩
  omega
 .obtain⟨q,hq,hg⟩:=fQ.1 hg
  obtain⟨_,e,ho⟩:=Ct (hok q hq) (hok f aZ).lb g hg;obtain⟨m,hm,hm2⟩:=hs q hq;refine⟨m,qK.2 ⟨hm,?_⟩,by rw[e];exact hm2⟩;simp only[fN,decide_eq_false_iff_not];intro h;have:=Tc (h.symm.trans hm2) (hok q hq).ok.ne;rw[this] at ho;cases ho
def Sn{p q r:Bool}{c:Nat}(h:Nat.gcd a b≠0):aa.ok ⟨zv p (a/Nat.gcd (Nat.gcd a b) c),zv q (b/Nat.gcd (Nat.gcd a b) c),zv r (c/Nat.gcd (Nat.gcd a b) c)⟩:=by
 have hg:0<Nat.gcd (Nat.gcd a b) c:=nM _ (iV h);have d0:Nat.gcd (Nat.gcd a b) c∣Nat.gcd a b:=mK _ _;have d1:Nat.gcd (Nat.gcd a b) c∣a:=rL d0 (mK _ _);have d2:Nat.gcd (Nat.gcd a b) c∣b:=rL d0 (nQ _ _);have d3:Nat.gcd (Nat.gcd a b) c∣c:=nQ _ _;refine⟨?_,?_⟩
 .rintro ⟨h1,h2⟩
  have h1':=congrArg Int.natAbs h1;have h2':=congrArg Int.natAbs h2;simp only[pI,kV] at h1' h2';have e1:=Nat.div_mul_cancel d1;have e2:=Nat.div_mul_cancel d2;rw[h1',kK] at e1;rw[h2',kK] at e2;exact h (by rw[<-e1,<-e2];rfl)
 .simp only[pI]
  rw[Nat.gcd_div d1 d2,Nat.gcd_div d0 d3,Nat.div_self hg]
def Ha(p:Bool)(a g:Nat):(zv p (a/g)).natAbs<=a:=by rw[pI];exact lL ..
def PF.eq{P:Program}{f:FuncId}{vs:List DV}{r r':DV}(h:PF GB P f vs r)(e:r=r'):PF GB P f vs r':=e▸h
def iP(m n:Int):ab:=⟨(m:Rat),(n:Rat)⟩
theorem wx(h:m.natAbs<2^k:=by omega):BI m k:=⟨h⟩
theorem iz(h:m.natAbs<=1000)(hk:10<=k:=by decide):BI m k:=⟨dJ (show m.natAbs<2^10 by omega) (bU v6 hk)⟩
instance aE.int (m n:Int) (i:Nat) [h:BI m i] [k:BI n i]:aE (iP m n) (i+1):=⟨inferInstanceAs (BQ (m:Rat) (i+1)),inferInstanceAs (BQ (n:Rat) (i+1))⟩
def s4{q:Rat}{k:Int}(h:q=(k:Rat)):eQ q=eQ (k:Rat):=by rw[h]
def V3(h1:p.x=(m:Rat))(h2:p.y=(n:Rat)):eP p=eP (iP m n):=by
 obtain⟨x,y⟩:=p;simp only at h1 h2;subst h1 h2;rfl
def oD(a b c:Int):aa:=
 ⟨zv (decide (a<0)) (a.natAbs/Nat.gcd (Nat.gcd a.natAbs b.natAbs) c.natAbs),zv (decide (b<0)) (b.natAbs/Nat.gcd (Nat.gcd a.natAbs b.natAbs) c.natAbs),zv (decide (c<0)) (c.natAbs/Nat.gcd (Nat.gcd a.natAbs b.natAbs) c.natAbs)⟩
def TD{a b c:Int}(h: ¬(a=0/\b=0)):(oD a b c).ok:=
 Sn fun e=>h ⟨mY.1 (nV e),mY.1 (nX e)⟩
def Tl(a b c:Int):(oD a b c).a.natAbs<=a.natAbs/\(oD a b c).b.natAbs<=b.natAbs/\(oD a b c).c.natAbs<=c.natAbs:=⟨Ha ..,Ha ..,Ha ..⟩
def kB(hm:m.natAbs<=1000:=by decide)(hn:n.natAbs<=1000:=by decide):PF GB prog 13 [.v (.int .i64 m), .v (.int .i64 n)] (eP (iP m n)):=by
 refine fn func13 J J ntmps13 J J (fun C=>?_);refine cl J (kc (n:=m) pb pb) J<|cl J (kc (n:=n) pb pb) J<|rz J J
def Gv{k:Int}(hm:m.natAbs<=1000)(hn:n.natAbs<=1000)(hm':m'.natAbs<=1000)(hn':n'.natAbs<=1000)(hk:k.natAbs<=1000:=by decide):PF GB prog 71 [eP (iP m n),eQ (k:Rat),eP (iP m' n')] (eP (iP (m+k*m') (n+k*n'))):=by
 haveI:=iz (k:=10) hm;haveI:=iz (k:=10) hn;haveI:=iz (k:=10) hm';haveI:=iz (k:=10) hn';haveI:=iz (k:=10) hk;exact PF.eq (xh (p:=iP m n) (q:=iP m' n') (c:=(k:Rat))) (V3 (by show(m:Rat)+(k:Rat)*(m':Rat)=_;push_cast;rfl) (by show(n:Rat)+(k:Rat)*(n':Rat)=_;push_cast;rfl))
def Y9(hm:m.natAbs<=1000)(hn:n.natAbs<=1000)(hm':m'.natAbs<=1000)(hn':n'.natAbs<=1000):PF GB prog 32 [eP (iP m n),eP (iP m' n')] (eP (iP (m-m') (n-n'))):=by
 refine fn func32 J J ntmps32 J J (fun C=>?_);refine cl J (kc (n:= -1)) J<|cl J (Gv (m:=m) (n:=n) (m':=m') (n':=n') (k:= -1) hm hn hm' hn') J<|rz J (by rw[show m-m'=m+ -1*m' by omega,show n-n'=n+ -1*n' by omega];rfl)
def Hf(hm:m.natAbs<=1000:=by omega)(hn:n.natAbs<=1000:=by omega)(hm':m'.natAbs<=1000:=by omega)(hn':n'.natAbs<=1000:=by omega):PF GB prog 168 [eP (iP m n),eP (iP m' n')] (.v (.bool (decide (m=m'/\n=n')))):=by
 haveI:=iz (k:=10) hm;haveI:=iz (k:=10) hn;haveI:=iz (k:=10) hm';haveI:=iz (k:=10) hn';refine fn func168 J J ntmps168 J J (fun C=>?_);refine cl J (kz (a:=(m:Rat)) (b:=(m':Rat))) J<|cs 11 J J J (fun hg11=>?_) (fun hg11=>?_)
 .
  refine cl J (kz (a:=(n:Rat)) (b:=(n':Rat))) J<|rz J (by rw[qh] at hg11;have e:m=m':=(by exact_mod_cast hg11);exact congrArg (fun z=>DV.v (.bool z)) (decide_eq_decide.2 (by rw[qh,oY];simp[e])))
 .
  exact rz J (by rw[qh] at hg11;have e: ¬m=m':=(fun e=>hg11 okE);show DV.v (.bool false)=DV.v (.bool _);rw[decide_eq_false (fun h=>e h.1)])
def OP(ha:a<k)(hb:b<k):Nat.gcd a b<k:=by
 rcases fJ a with rfl|p
 .simpa using hb
 .exact gX (Nat.gcd_le_left b p) ha
def Xx{a b c:Int}(ha:BI a i)(hb:BI b i)(hc:BI c i)(hi:i<=100000000)(h0: ¬(a=0/\b=0)):PF GB prog 209 [eI a,eI b,eI c] (.tp [eL (oD a b c), .v (.bool true)]):=by
 have hgn:Nat.gcd a.natAbs b.natAbs≠0:=fun h=>h0 ⟨mY.1 (nV h),mY.1 (nX h)⟩;have hgp:0<Nat.gcd (Nat.gcd a.natAbs b.natAbs) c.natAbs:=nM _ (iV hgn);haveI hb1:BN (Nat.gcd a.natAbs b.natAbs) i:=⟨OP ha.h hb.h⟩;haveI hb2:BN (Nat.gcd (Nat.gcd a.natAbs b.natAbs) c.natAbs) i:=⟨OP hb1.h hc.h⟩;refine fn func209 J J ntmps209 J J (fun C=>?_);refine cl J (HB (a:=a.natAbs) (b:=b.natAbs) pb pb) J<|br J J J (fun hc22=>?_) (fun hc22=>?_)
 .
  exact absurd hc22 (by rw[aX];intro h;exact hgn (sj.1 pb))
 .
  refine cl J (HB (a:=Nat.gcd a.natAbs b.natAbs) (b:=c.natAbs) pb pb) J<|cl J (uT (a:=a.natAbs) (b:=Nat.gcd (Nat.gcd a.natAbs b.natAbs) c.natAbs) hgp pb pb) J<|cl J (uT (a:=b.natAbs) (b:=Nat.gcd (Nat.gcd a.natAbs b.natAbs) c.natAbs) hgp pb pb) J<|cl J (uT (a:=c.natAbs) (b:=Nat.gcd (Nat.gcd a.natAbs b.natAbs) c.natAbs) hgp pb pb) J<|cl J (jr (m:=a.natAbs/(Nat.gcd (Nat.gcd a.natAbs b.natAbs) c.natAbs)) (neg:=decide (a<0))) J<|cl J (jr (m:=b.natAbs/(Nat.gcd (Nat.gcd a.natAbs b.natAbs) c.natAbs)) (neg:=decide (b<0))) J<|cl J (jr (m:=c.natAbs/(Nat.gcd (Nat.gcd a.natAbs b.natAbs) c.natAbs)) (neg:=decide (c<0))) J<|rz J J
def m8(n n':Int):Int:= -(n'-n)
def m6(m m':Int):Int:=m'-m
def uh(m n m' n':Int):Int:= -(m8 n n'*m+m6 m m'*n)
def lh(m n m' n':Int):aa:=oD (m8 n n') (m6 m m') (uh m n m' n')
def Am{a b:Int}(ha:a.natAbs<=2000)(hb:b.natAbs<=1000):(a*b).natAbs<=2000000:=by
 rw[iR];exact iK ha hb
def Qa(hm:m.natAbs<=1000)(hn:n.natAbs<=1000)(hm':m'.natAbs<=1000)(hn':n'.natAbs<=1000)(h0: ¬(m=m'/\n=n')):PF GB prog 135 [eP (iP m n),eP (iP m' n')] (.tp [eL (lh m n m' n'), .v (.bool true)]):=by
 obtain⟨a,hA⟩: ∃a,a=m8 n n':=⟨_,rfl⟩;obtain⟨b,hB⟩: ∃b,b=m6 m m':=⟨_,rfl⟩;have hA':a= -(n'-n):=hA;have hB':b=m'-m:=hB;obtain⟨c,hC⟩: ∃c,c= -(a*m+b*n):=⟨_,rfl⟩;have e1:=Am (a:=a) (b:=m) pb hm;have e2:=Am (a:=b) (b:=n) pb hn;haveI hm0:=iz (k:=10) hm;haveI hn0:=iz (k:=10) hn;haveI ha:BI a 30:=wx;haveI hb:BI b 30:=wx;haveI hc:BI c 30:=wx;have hthr:lh m n m' n'=oD a b c:=by rw[hC,hA,hB];rfl
 have hne: ¬(a=0/\b=0):=fun h=>h0 pb;refine fn func135 J J ntmps135 J J (fun C=>?_);refine cl J (Y9 (m:=m') (n:=n') (m':=m) (n':=n) hm' hn' hm hn) J<|cl J (PF.eq (uG (q:=(((n'-n):Int):Rat))) (s4 (k:=a) (by rw[hA'];push_cast;rfl))) J<|cl J (PF.eq (iu (a:=(a:Rat)) (b:=(m:Rat))) (s4 (k:=a*m) (by push_cast;rfl))) J<|cl J (PF.eq (by haveI:BI (m'-m) 30:=(by rw[<-hB'];exact hb);exact iu (a:=(((m'-m):Int):Rat)) (b:=(n:Rat))) (s4 (k:=b*n) (by rw[hB'];push_cast;rfl))) J<|cl J (PF.eq (ll (a:=((a*m:Int):Rat)) (b:=((b*n:Int):Rat))) (s4 (k:=a*m+b*n) (by push_cast;rfl))) J<|cl J (PF.eq (uG (q:=((a*m+b*n:Int):Rat))) (s4 (k:=c) (by rw[hC];push_cast;rfl))) J<|cl J (jw (q:=(a:Rat))) J<|cl J (jw (q:=(((m'-m):Int):Rat))) J<|cl J (PF.eq (o9 (a:=1) (b:=1)) J) J<|cl J (jw (q:=(c:Rat))) J<|cl J (PF.eq (o9 (a:=1) (b:=1)) J) J<|cl (fu:=⟨1⟩) J (jr (neg:=false) (m:=1)) J<|ah 40 (.d (eQ ((1:Int):Rat))) J J<|gx J<|cl J (PF.eq (iu (a:=(a:Rat)) (b:=((1:Int):Rat))) (s4 (k:=a) (by push_cast;grind))) J<|cl J (PF.eq (by haveI:BI (m'-m) 30:=(by rw[<-hB'];exact hb);exact iu (a:=(((m'-m):Int):Rat)) (b:=((1:Int):Rat))) (s4 (k:=b) (by rw[hB'];push_cast;grind))) J<|cl J (PF.eq (iu (a:=(c:Rat)) (b:=((1:Int):Rat))) (s4 (k:=c) (by push_cast;grind))) J<|cl J (Xx (a:=a) (b:=b) (c:=c) ha hb hc v6 hne) J<|rz J (by rw[hthr];rfl)
def RF(h:a<es.length):(es.map vI)[(a:Int).toNat]? =some (vI es[a]):=by simp[h]
def QY:eP (iP 0 0)= .ag [.v (.bool false), .sl [], .sl [], .v (.bool false), .sl [], .sl []]:=by
 unfold eP iP;simp[kr,dD]
def aC(es:List Int)(n:Int)(a:Nat):Nat×Nat:=
 if h:a<es.length then((if Int.tmod es[a] n<0 then Int.tmod es[a] n+n else Int.tmod es[a] n).toNat,a+1) else(0,a)
def ig(hn:1<=n:=by decide):((aC es n a).1:Int)<n:=by
 unfold aC;split
 .rename_i h
  have q2:=Int.tmod_lt_of_pos es[a] (show 0<n by omega);dsimp only;split<;>omega
 .exact hn
def e7(ha:a<=es.length):(aC es n a).2<=es.length:=by
 unfold aC;split
 .assumption
 .exact ha
def pF(es:List Int)(a:Nat):(Int×Int)×Nat:=((((aC es 9 a).1:Int)-4,((aC es 9 (aC es 9 a).2).1:Int)-4),(aC es 9 (aC es 9 a).2).2)
def ru(ha:a<=es.length):(pF es a).1.1.natAbs<=4/\(pF es a).1.2.natAbs<=4/\(pF es a).2<=es.length:=by
 have h1:=ig (es:=es) (n:=9) (a:=a);have h2:=ig (es:=es) (n:=9) (a:=(aC es 9 a).2);have h3:=e7 (n:=9) (e7 (es:=es) (n:=9) ha);unfold pF;exact⟨by dsimp only;omega,by dsimp only;omega,h3⟩
def vF(es:List Int)(a:Nat):(Int×Int)×Nat:=if(pF es a).1.1=0/\(pF es a).1.2=0 then((1,0),(pF es a).2) else pF es a
def wl(ha:a<=es.length):(vF es a).1.1.natAbs<=4/\(vF es a).1.2.natAbs<=4/\ ¬((vF es a).1.1=0/\(vF es a).1.2=0)/\(vF es a).2<=es.length:=by
 obtain⟨h1,h2,h3⟩:=ru ha;unfold vF;split
 .exact⟨show(1:Int).natAbs<=4 by decide,show(0:Int).natAbs<=4 by decide,show¬((1:Int)=0/\(0:Int)=0) by decide,h3⟩
 .rename_i h;exact⟨h1,h2,h,h3⟩
theorem okF{p:Prop}(h:p:=by rw[hf]<;>rfl):p:=h
theorem okQ{p:Prop}(h:p:=by rw[hf];show DV.v (.int .i64 _)=DV.v (.int .i64 _);rw[pT pb]):p:=h
theorem okZ{p:Prop}(h:p:=by rw[he]<;>rfl):p:=h
def lI(hes:es.length<=400)(ha:a<=es.length)(hn:1<=n:=by decide)(hn2:n<=1000:=by decide):PM GB prog 37 (gw [none,some (.v (.int .i64 n))] b) b 85 [.sl (es.map vI), .v (.int .i64 (a:Nat))] (.v (.int .i64 ((aC es n a).1:Nat))) [.sl (es.map vI), .v (.int .i64 ((aC es n a).2:Nat))]:=by
 have hel:(es.map vI).length=es.length:=by simp
 refine rg func37 J J ntmps37 J J (fun C b m lo hmb=>?_);refine br J J J (fun hc15=>?_) (fun hc15=>?_)
 .
  have hf:aC es n a=(0,a):=by unfold aC;rw[dif_neg pb]
  exact iG hmb J J okF okF
 .
  have hal:a<es.length:=by omega
  obtain⟨e,he⟩: ∃e,e=es[a]:=⟨_,rfl⟩;have q2:=Int.tmod_lt_of_pos e (show 0<n by omega);have q3: -n<Int.tmod e n:=by have:=Int.lt_tmod_of_pos e (show 0<n by omega);omega
  refine ix (fu:=⟨1⟩) _ J (RF hal) J<|ah 25 (.d (vI e)) J okZ<|gx (hv:=by simp only[aj];exact⟨⟨pb,we⟩,pb⟩) J<|br J J J (fun hc36=>?_) (fun hc36=>?_)
  .
   have hf:aC es n a=((Int.tmod e n+n).toNat,a+1):=by unfold aC;rw[dif_pos hal,<-he,if_pos hc36]
   exact iG hmb J J okQ okF
  .
   have hf:aC es n a=((Int.tmod e n).toNat,a+1):=by unfold aC;rw[dif_pos hal,<-he,if_neg hc36]
   exact iG hmb J J okQ okF
def Ho(hes:es.length<=400)(ha:a<=es.length):PM GB prog 134 (gw [none] b) b 85 [.sl (es.map vI), .v (.int .i64 (a:Nat))] (eP (iP (pF es a).1.1 (pF es a).1.2)) [.sl (es.map vI), .v (.int .i64 ((pF es a).2:Nat))]:=by
 have h1:=ig (es:=es) (n:=9) (a:=a);have h2:=ig (es:=es) (n:=9) (a:=(aC es 9 a).2);refine rg func134 J J ntmps134 J J (fun C b m lo hmb=>?_);refine cm J (fun b=>(lI (n:=9) hes ha)) J<|cm J (fun b=>(lI (n:=9) hes (e7 ha))) J<|cl J (kB (m:=((aC es 9 a).1:Int)-4) (n:=((aC es 9 (aC es 9 a).2).1:Int)-4) pb pb) J<|?_;exact iG hmb J J J J
def Oc(hes:es.length<=400)(ha:a<=es.length):PM GB prog 136 (gw [none] b) b 85 [.sl (es.map vI), .v (.int .i64 (a:Nat))] (eP (iP (vF es a).1.1 (vF es a).1.2)) [.sl (es.map vI), .v (.int .i64 ((vF es a).2:Nat))]:=by
 obtain⟨hm,hn,ha1⟩:=ru ha;refine rg func136 J J ntmps136 J J (fun C b m lo hmb=>?_);refine cm (fu:=⟨9⟩) J (fun b=>(Ho hes ha)) J<|ah 7 (.d (eP (iP 0 0))) J (by rw[QY]<;>rfl)<|gx J<|cl J (Hf (m:=(pF es a).1.1) (n:=(pF es a).1.2) (m':=0) (n':=0) pb pb v6 v6) J<|bd J J J (fun hc8=>?_) (fun hc8=>?_)
 .
  have hf:vF es a=((1,0),(pF es a).2):=by unfold vF;rw[if_pos hc8]
  refine cl J (kB (m:=1) (n:=0)) J<|?_;exact iG hmb J J okF (by rw[hf])
 .
  have hf:vF es a=pF es a:=by unfold vF;rw[if_neg hc8]
  exact iG hmb J J okF (by rw[hf])
def uc{p:Bool}:PF GB prog 69 [.v (.bool p)] (eT (.leaf p)):=by
 refine fn func69 J J ntmps69 J J (fun C=>?_);refine fD 5 J<|rz J J
abbrev ZP:=Int×Int
variable {r:List ZP}
def ZP.q(p:ZP):ab:=iP p.1 p.2
def ZP.le(k:Nat)(p:ZP):Prop:=p.1.natAbs<=k/\p.2.natAbs<=k
def xZ(p q:ZP):ZP:=(p.1+1*q.1,p.2+1*q.2)
def uZ(u v:ZP):Int:=u.1*v.2-u.2*v.1
theorem M7{p q:Int}(hm:m.natAbs<=1000)(hn:n.natAbs<=1000)(hp:p.natAbs<=1000)(hq:q.natAbs<=1000)(h: ¬(p=m/\q=n)):LB (lh m n p q)/\(lh m n p q).ok:=by
 have e1:(m8 n q).natAbs<=2000:=by unfold m8;omega
 have e2:(m6 m p).natAbs<=2000:=by unfold m6;omega
 have e3:=Am e1 hm;have e4:=Am e2 hn;have e5:(uh m n p q).natAbs<=4000000:=by unfold uh;omega
 unfold lh;obtain⟨k1,k2,k3⟩:=Tl (m8 n q) (m6 m p) (uh m n p q);have hb:(2:Nat)^96=79228162514264337593543950336:=by decide
 refine⟨⟨⟨?_,?_,?_⟩⟩,TD ?_⟩
 .rw[hb];omega
 .rw[hb];omega
 .rw[hb];omega
 .unfold m8 m6;omega
def jx(v w:ZP):bi:=⟨lh v.1 v.2 w.1 w.2,⟨fH (lh v.1 v.2 w.1 w.2) v.q,fH (lh v.1 v.2 w.1 w.2) w.q,false,false⟩⟩
def f5(r:List ZP)(i:Nat):ZP:=r.getD ((i+1)%r.length) (0,0)
def o4(r:List ZP):Nat->List bi
 |0=>[]
 |k+1=>o4 r k++[jx (r.getD k (0,0)) (f5 r k)]
def jg(r:List ZP):List bi:=o4 r r.length
structure dl (r:List ZP):Prop where
 n3:3<=r.length
 n6:r.length<=6
 le: ∀p∈r,ZP.le 100 p
 ne: ∀i<r.length,r.getD i (0,0)≠f5 r i
def wz(h:i<r.length):r.getD i (0,0)∈r:=by
 rw[aJ,aQ h];exact bL h
def AY(h:i<r.length):f5 r i∈r:=wz (cR _ pb)
theorem BQ.int1200(h:m.natAbs<=1000:=by decide):BQ (m:Rat) 1200:=by
 haveI:BI m 11:=iz h;exact BQ.mono (inferInstance:BQ (m:Rat) 12)
theorem KT(hl:LB l)(ho:l.ok)(hm:m.natAbs<=1000)(hn:n.natAbs<=1000):BQ (fH l (iP m n)) 1200:=by
 haveI:=iz (k:=11) hm;haveI:=iz (k:=11) hn;have hd:=xV ho.ne;have hA:BI (l.a*l.a+l.b*l.b) _:=inferInstance;have hB:BI (m*l.b-n*l.a) _:=inferInstance;have hA':=BW (j:=1200) hA;have hB':=BW (j:=1200) hB;have e1:l.dir.dot l.dir=((l.a*l.a+l.b*l.b:Int):Rat):=by
  rw[oU,cK,cK];simp only[aa.dir,ab.dot];grind
 have e2:(iP m n).dot l.dir=((m*l.b-n*l.a:Int):Rat):=by
  rw[jQ,cK,cK];simp only[aa.dir,ab.dot,iP];grind
 have hd':((0:Int):Rat)<((l.a*l.a+l.b*l.b:Int):Rat):=by rw[<-e1];exact hd
 unfold fH;rw[e2,e1];clear hA hB e1 e2;generalize l.a*l.a+l.b*l.b=D at*;generalize m*l.b-n*l.a=M at*;have hD:0<D:=Rat.intCast_lt_intCast.1 hd';refine BQ.of_fracI (n:=M) (D:=D) pb ?_ hB' hA';have h0:(D:Rat)≠0:=fun e=>by rw[e] at hd';exact absurd hd' v6
 have:((D.natAbs:Nat):Rat)=(D:Rat):=by
  have h1:((D.natAbs:Nat):Int)=D:=by omega
  rw[<-h1];rfl
 rw[this];grind
theorem ozd{p:Prop}(h:p:=by have:=hv.1;omega):p:=h
theorem oze{p:Prop}(h:p:=by have:=hv.2;omega):p:=h
theorem ozf{p:Prop}(h:p:=by have:=hw.1;omega):p:=h
theorem ozg{p:Prop}(h:p:=by have:=hw.2;omega):p:=h
def P7{v w:ZP}(hv:ZP.le 100 v)(hw:ZP.le 100 w)(h:v≠w):lx (jx v w):=by
 obtain⟨h1,h2⟩:=M7 (m:=v.1) (n:=v.2) (p:=w.1) (q:=w.2) ozd oze ozf ozg (fun e=>h (Prod.ext e.1.symm e.2.symm));exact⟨h1,h2,⟨fun e=>(by cases e),fun e=>(by cases e)⟩,KT h1 h2 ozd oze,KT h1 h2 ozf ozg⟩
def ET{r:List ZP}(h:dl r): ∀{k:Nat},k<=r.length->(o4 r k).length=k/\ ∀f∈o4 r k,lx f
 |0,_=>⟨J,fun f hf=>by cases hf⟩
 |k+1,hk=>by
  obtain⟨h1,h2⟩:=ET h (k:=k) pb;rw[o4];refine⟨by simp[h1],fun f hf=>?_⟩;rcases bJ.1 hf with hf|hf
  .exact h2 f hf
  .rw[aW] at hf;subst hf
   exact P7 (h.le _ (wz pb)) (h.le _ (AY pb)) (h.ne k pb)
def Ce(h:dl r):(jg r).length=r.length/\ ∀f∈jg r,lx f:=ET h (bZ _)
def gr(rs:List (List ZP)):List bi:=rs.flatMap jg
def qA: ∀{rs:List (List ZP)},(∀r∈rs,dl r)->(gr rs).length<=6*rs.length/\ ∀f∈gr rs,lx f
 |[],_=>⟨bZ _,fun f hf=>by cases hf⟩
 |r::rs,h=>by
  obtain⟨h1,h2⟩:=qA (rs:=rs) fun q hq=>h q (aK _ hq);obtain⟨k1,k2⟩:=Ce (h r aZ);have:=(h r aZ).n6;unfold gr at*;rw[nJ];refine⟨by rw[aU,k1,bY];omega,fun f hf=>?_⟩;rcases bJ.1 hf with hf|hf
  .exact k2 f hf
  .exact h2 f hf
def mF(a b c:ab):Int:=(ab.cross (ce b a (-1)) (ce c a (-1))).num.sign
def oz(v w p:ab):Int:=
 (if bm v.y p.y<=0/\ ¬bm w.y p.y<=0/\0<mF v w p then 1 else 0)-(if¬bm v.y p.y<=0/\bm w.y p.y<=0/\mF v w p<0 then 1 else 0)
def mm(r:List ZP)(p:ab):Nat->Int
 |0=>0
 |k+1=>mm r p k+oz (r.getD k (0,0)).q (f5 r k).q p
def i0(r:List ZP)(p:ab):Int:=mm r p r.length
def qq(fill n:Int):Bool:=(decide (fill=1)&&decide (n.tmod 2≠0))||(decide (fill=2)&&decide (n≠0))
def jA(rs:List (List ZP))(fill:Int)(p:ab):Bool:=qq fill (rs.foldl (fun n r=>n+i0 r p) 0)
def so(rs:List (List ZP))(fill:Int):Tr:=ij (jA rs fill) (gr rs).length (gr rs) []
def kw(rs:List (List ZP))(fill:Int):Tr:=(so rs fill).restrict []
structure io (k:Nat) (t:Tr):Prop where
 gd:t.gd
 dp:t.depth<=k
 am: ∃K:List aa,K.length<=k/\(∀l∈K,l.ok)/\jG K t
def Ht{acc:ab->Bool}{n:Nat}{l:List bi}(h: ∀f∈l,lx f)(hn:l.length=n):io n (ij acc n l []):=
 ⟨⟨tE fun f hf=>(h f hf).lb,tE fun f hf=>(h f hf).ok⟩,D1,l.map (·.l),by rw[aX,hn];exact bZ _,fun m hm=>by
  obtain⟨f,hf,rfl⟩:=aN.1 hm;exact(h f hf).ok,tE fun f hf=>⟨f.l,eK hf, .inl rfl⟩⟩
def io.restrict{k:Nat}{t:Tr}(h:io k t)(c:az):io k (t.restrict c):=by
 obtain⟨K,h1,h2,h3⟩:=h.am;exact⟨Qc h.gd c,cJ (t.restrict_depth c) h.dp,K,h1,h2,h3.restrict c⟩
def io.mono(h:io j t)(hk:j<=k):io k t:=by
 obtain⟨K,h1,h2,h3⟩:=h.am;exact⟨h.gd,cJ h.dp hk,K,pb,h2,h3⟩
def io.merge{j k:Nat}{op:Int}{t u:Tr}(h:io j t)(hu:io k u):io (j+k) (t.mergeQ op u []):=by
 obtain⟨K,h1,h2,h3⟩:=h.am;obtain⟨M,k1,k2,k3⟩:=hu.am;refine⟨⟨Tr.mergeQ_all LB op hu.gd.lb t [] h.gd.lb,Tr.mergeQ_all aa.ok op hu.gd.ok t [] h.gd.ok⟩,cJ (Tr.mergeQ_depth op u t []) (by have:=h.dp;have:=hu.dp;omega),K++M,by rw[aU];omega,fun l hl=>(bJ.1 hl).elim (h2 l) (k2 l),?_⟩;exact(h3.mono fun l hl=>⟨l,bS _ hl, .inl J⟩).merge (k3.mono fun l hl=>⟨l,cW _ hl, .inl J⟩) []
def Px{rs:List (List ZP)}(h: ∀r∈rs,dl r)(hn:rs.length<=3):io 18 (kw rs fill):=by
 obtain⟨h1,h2⟩:=qA h;exact((Ht (acc:=jA rs fill) h2 J).restrict []).mono pb
def tC(p q:ZP):Int:=if p.1<q.1 then-1 else if q.1<p.1 then 1 else if p.2<q.2 then-1 else if q.2<p.2 then 1 else 0
def q6(x:ZP):List ZP->List ZP
 |[]=>[x]
 |u::t=>if tC u x<0 then u::q6 x t else if tC u x=0 then u::t else x::u::t
def sC(l:List ZP):List ZP:=l.foldl (fun out x=>q6 x out) []
def H7{x:ZP}: ∀{l:List ZP},(q6 x l).length<=l.length+1
 |[]=>bZ _
 |u::t=>by
  rw[q6];have:=H7 (x:=x) (l:=t);split
  .simp;omega
  .split<;>simp
def XU(l:List ZP):(sC l).length<=l.length:=by
 have key: ∀(l o:List ZP),(l.foldl (fun out x=>q6 x out) o).length<=l.length+o.length:=by
  intro l
  induction l with
  |nil=>intro o;simp
  |cons x t ih=>intro o;have:=ih (q6 x o);have:=H7 (x:=x) (l:=o);simp only[iM,bY];omega
 have:=key l [];simpa[sC] using this
def sF(a b c d:Int):List ZP:=[(a,b),(c,b),(c,d),(a,d)]
def wW(h:i+1<r.length:=by omega):f5 r i=r.getD (i+1) (0,0):=by unfold f5;rw[gQ h]
def yr(h:i+1=r.length:=by omega):f5 r i=r.getD 0 (0,0):=by unfold f5;rw[h,Nat.mod_self]
def Wl{a b c d:Int}(h1:a.natAbs<=50)(h2:b.natAbs<=50)(h3:c.natAbs<=50)(h4:d.natAbs<=50)(h5:a<c)(h6:b<d):dl (sF a b c d):=by
 refine⟨by simp[sF],by simp[sF],fun p hp=>?_,fun i hi=>?_⟩
 .simp only[sF,aT,fT,or_false] at hp
  rcases hp with rfl|rfl|rfl|rfl<;>exact⟨by dsimp only;omega,by dsimp only;omega⟩
 .have:i=0\/i=1\/i=2\/i=3:=by simp[sF] at hi;omega
  rcases this with rfl|rfl|rfl|rfl<;>simp[sF,f5]<;>omega
def q7(p u v:ZP):List ZP:=[p,xZ p u,xZ p v]
def VM{p u v:ZP}(h1:ZP.le 40 p)(h2:ZP.le 40 u)(h3:ZP.le 40 v)(h:uZ u v≠0):dl (q7 p u v):=by
 obtain⟨p1,p2⟩:=p;obtain⟨u1,u2⟩:=u;obtain⟨v1,v2⟩:=v;unfold ZP.le at h1 h2 h3;dsimp only at h1 h2 h3;unfold uZ at h;dsimp only at h;refine⟨by simp[q7],by simp[q7],fun p hp=>?_,fun i hi=>?_⟩
 .simp only[q7,xZ,aT,fT,or_false] at hp
  rcases hp with rfl|rfl|rfl<;>exact⟨by dsimp only;omega,by dsimp only;omega⟩
 .have:i=0\/i=1\/i=2:=by simp[q7] at hi;omega
  have hu: ¬(u1=0/\u2=0):=fun e=>h (by rw[e.1,e.2];simp);have hv: ¬(v1=0/\v2=0):=fun e=>h (by rw[e.1,e.2];simp);have huv: ¬(u1=v1/\u2=v2):=fun e=>h (by rw[e.1,e.2,Int.mul_comm];omega);rcases this with rfl|rfl|rfl<;>simp[q7,xZ,f5]<;>omega
def km(es:List Int):Nat->Nat->List ZP->List ZP×Nat
 |0,a,out=>(out,a)
 |n+1,a,out=>km es n (pF es a).2 (if out.getLast? =some (pF es a).1 then out else out++[(pF es a).1])
structure jD (r:List ZP):Prop where
 ne: ∀i,i+1<r.length->r.getD i (0,0)≠r.getD (i+1) (0,0)
 le: ∀p∈r,ZP.le 100 p
def jD.snoc{p:ZP}(h:jD r)(hp:ZP.le 100 p)(hl:r.getLast? ≠some p):jD (r++[p]):=by
 refine⟨fun i hi=>?_,fun q hq=>?_⟩
 .rw[aU,dS] at hi
  rw[aJ,aJ];by_cases h1:i+1<r.length
  .rw[fV pb,fV h1]
   have:=h.ne i h1;rwa [aJ,aJ] at this
  .have e:i+1=r.length:=by omega
   rw[fV pb,e,jU (bZ _),Nat.sub_self];rw[lQ,<-e,lJ] at hl;rw[aQ pb] at hl⊢;intro c;exact hl (by simpa using c)
 .rcases bJ.1 hq with hq|hq
  .exact h.le q hq
  .rw[aW] at hq;subst hq;exact hp
def Gf{es:List Int}: ∀{n a:Nat} {out:List ZP},a<=es.length->jD out->jD (km es n a out).1/\(km es n a out).1.length<=out.length+n/\(km es n a out).2<=es.length
 |0,a,out,ha,h=>⟨h,bZ _,ha⟩
 |n+1,a,out,ha,h=>by
  obtain⟨h1,h2,h3⟩:=ru ha;rw[km];by_cases hl:out.getLast? =some (pF es a).1
  .rw[if_pos hl]
   obtain⟨k1,k2,k3⟩:=Gf (n:=n) h3 h;exact⟨k1,pb,k3⟩
  .rw[if_neg hl]
   obtain⟨k1,k2,k3⟩:=Gf (n:=n) h3 (h.snoc (p:=(pF es a).1) ⟨pb,pb⟩ hl);rw[aU,dS] at k2;exact⟨k1,pb,k3⟩
def jc:Nat->List ZP->List ZP
 |0,l=>l
 |n+1,l=>if 1<l.length/\l.getD 0 (0,0)=l.getD (l.length-1) (0,0) then jc n l.dropLast else l
def jD.drop(h:jD r):jD r.dropLast:=by
 refine⟨fun i hi=>?_,fun p hp=>h.le p ((oS _).subset hp)⟩;rw[gL] at hi;have:=h.ne i pb;rw[aJ,aJ] at this⊢;rw[rZ,rZ,if_pos pb,if_pos pb];exact this
def Ld: ∀{n:Nat} {l:List ZP},jD l->l.length<=n+1->jD (jc n l)/\(jc n l).length<=l.length/\(1<(jc n l).length->(jc n l).getD 0 (0,0)≠(jc n l).getD ((jc n l).length-1) (0,0))
 |0,l,h,hn=>⟨h,bZ _,fun k=>absurd k (by unfold jc;omega)⟩
 |n+1,l,h,hn=>by
  rw[jc];split
  .obtain⟨h1,h2,h3⟩:=Ld (n:=n) h.drop (by rw[gL];omega)
   rw[gL] at h2;exact⟨h1,pb,h3⟩
  .rename_i hc
   exact⟨h,bZ _,fun k e=>hc ⟨k,e⟩⟩
def Qo(h:jD r)(h6:r.length<=6)(hc:1<r.length->r.getD 0 (0,0)≠r.getD (r.length-1) (0,0))(h3:3<=(sC r).length):dl r:=by
 have:=XU r;refine⟨pb,h6,h.le,fun i hi=>?_⟩;by_cases h1:i+1<r.length
 .rw[wW h1];exact h.ne i h1
 .have e:i+1=r.length:=by omega
  rw[yr e];have:=hc pb;rw[show i=r.length-1 by omega];exact fun k=>this k.symm
def tM:List ZP:=[(0,0),(2,0),(0,2)]
def Zp:dl tM:=⟨v6,v6,fun p hp=>by
  simp only[tM,aT,fT,or_false] at hp;rcases hp with rfl|rfl|rfl<;>exact⟨v6,v6⟩,fun i hi=>by
  have:i=0\/i=1\/i=2:=by simp[tM] at hi;omega
  rcases this with rfl|rfl|rfl<;>decide⟩
def nk(es:List Int)(a:Nat):List ZP×Nat:=
 ((if(sC (jc 6 (km es (3+(aC es 4 a).1) (aC es 4 a).2 []).1)).length<3 then tM else jc 6 (km es (3+(aC es 4 a).1) (aC es 4 a).2 []).1),(km es (3+(aC es 4 a).1) (aC es 4 a).2 []).2)
def jD.nil:jD []:=⟨fun i hi=>by simp at hi,fun p hp=>by cases hp⟩
def LJ(ha:a<=es.length):dl (nk es a).1/\(nk es a).2<=es.length:=by
 have h1:=ig (es:=es) (n:=4) (a:=a);obtain⟨k1,k2,k3⟩:=Gf (n:=3+(aC es 4 a).1) (e7 (n:=4) ha) jD.nil;obtain⟨t1,t2,t3⟩:=Ld (n:=6) k1 (by simp at k2;omega);refine⟨?_,k3⟩;unfold nk;dsimp only;split
 .exact Zp
 .exact Qo t1 (by simp at k2;omega) t3 pb
def Cd(es:List Int)(n m k:Int)(a:Nat):List ZP×Nat:=
 let x:=aC es n a
 let y:=aC es n x.2
 let z:=aC es m y.2
 let w:=aC es m z.2
 (sF ((x.1:Int)-k) ((y.1:Int)-k) ((x.1:Int)-k+1+z.1) ((y.1:Int)-k+1+w.1),w.2)
def Q5{k:Int}(ha:a<=es.length)(hn:1<=n:=by decide)(hn2:n<=10:=by decide)(hm:1<=m:=by decide)(hm2:m<=10:=by decide)(hk:0<=k:=by decide)(hk2:k<=10:=by decide):dl (Cd es n m k a).1/\(Cd es n m k a).2<=es.length:=by
 have h1:=ig (es:=es) (a:=a) hn;have h2:=ig (es:=es) (a:=(aC es n a).2) hn;have h3:=ig (es:=es) (a:=(aC es n (aC es n a).2).2) hm;have h4:=ig (es:=es) (a:=(aC es m (aC es n (aC es n a).2).2).2) hm;exact⟨Wl pb pb pb pb pb pb,e7 (e7 (e7 (e7 ha)))⟩
def ew(es:List Int)(a:Nat):List ZP×Nat:=
 let k:=aC es 4 a
 if(k.1:Int)=0 then Cd es 5 4 4 k.2
 else if(k.1:Int)=1 then
  let p:=pF es k.2
  let u:=vF es p.2
  let v:=vF es u.2
  if uZ u.1 v.1≠0 then(q7 p.1 u.1 v.1,v.2) else nk es v.2
 else nk es k.2
def ti(ha:a<=es.length):dl (ew es a).1/\(ew es a).2<=es.length:=by
 have h0:=e7 (n:=4) ha;unfold ew;dsimp only;split
 .exact Q5 h0
 .split
  .obtain⟨p1,p2,p3⟩:=ru h0
   obtain⟨u1,u2,u3,u4⟩:=wl p3;obtain⟨v1,v2,v3,v4⟩:=wl u4;split
   .rename_i hc
    exact⟨VM ⟨pb,pb⟩ ⟨pb,pb⟩ ⟨pb,pb⟩ hc,v4⟩
   .exact LJ v4
  .exact LJ h0
def lf(es:List Int)(a:Nat):Tr×Nat:=
 let r:=ew es a
 let k:=aC es 3 r.2
 if(k.1:Int)=0 then
  let s:=ew es k.2
  let f:=aC es 2 s.2
  (kw [r.1,s.1] (1+(f.1:Int)),f.2)
 else
  let f:=aC es 2 k.2
  (kw [r.1] (1+(f.1:Int)),f.2)
def M0(ha:a<=es.length):io 18 (lf es a).1/\(lf es a).2<=es.length:=by
 obtain⟨r1,r2⟩:=ti ha;have h3:=e7 (n:=3) r2;unfold lf;dsimp only;split
 .obtain⟨s1,s2⟩:=ti h3
  exact⟨Px (fun r hr=>by simp only[aT,fT,or_false] at hr;rcases hr with rfl|rfl;exact r1;exact s1) v8,e7 s2⟩
 .exact⟨Px (fun r hr=>by simp only[aT,fT,or_false] at hr;subst hr;exact r1) v8,e7 h3⟩

def xX: ∀{t:Tr} {c:az} {b:Bool} {e:az},t.all aa.ok->bO c->(b,e)∈t.parts c->bO e/\ ∀p,bw e p->bw c p/\t.val p=b
 | .leaf v,c,b,e,_,hc,h=>by
  rw[Tr.parts,aW] at h
  cases h
  exact⟨hc,fun p hp=>⟨hp,J⟩⟩
 | .node l x y,c,b,e,⟨hl,hx,hy⟩,hc,h=>by
  rw[Tr.parts] at h;rcases bJ.1 h with h|h
  .split at h
   .rename_i hb
    obtain⟨k1,k2⟩:=jp hc hl hb;obtain⟨m1,m2⟩:=xX hx k1 h;refine⟨m1,fun p hp=>?_⟩;obtain⟨n1,n2⟩:=m2 p hp;obtain⟨o1,o2⟩:=(k2 p).1 n1;exact⟨o1,by rw[Tr.val_pos o2,n2]⟩
   .cases h
  .split at h
   .rename_i hb
    obtain⟨k1,k2⟩:=jp hc hl.rev hb;obtain⟨m1,m2⟩:=xX hy k1 h;refine⟨m1,fun p hp=>?_⟩;obtain⟨n1,n2⟩:=m2 p hp;obtain⟨o1,o2⟩:=(k2 p).1 n1;rw[fE] at o2;exact⟨o1,by rw[Tr.val_neg v7,n2]⟩
   .cases h
def b7(t:Tr):List az:=((t.parts []).filter (·.1)).map (·.2)
def tY:e∈b7 t↔(true,e)∈t.parts []:=by
 unfold b7;simp
def Pq{v k:Rat}(hk:k<0)(hv:0<v):0< -(v/k):=by
 have e: -(v/k)* -k=v:=by grind
 exact(im (k:= -k) v7).1 (by rw[e];exact hv)
def AL(l:aa)(v:ab):l.dir.cross v=l.nor.dot v:=by
 unfold aa.dir aa.nor ab.cross ab.dot;grind
def jB(x:Bool×az):DV:= .ag [.sl (x.2.map d4),eU (.leaf x.1)]
def Ua(l:List (Bool×az)):cd 2 (l.map jB):=fun d hd=>by
 obtain⟨x,_,rfl⟩:=aN.1 hd;exact⟨J,J⟩
def zk: ∀(t:Tr) (c:az),(t.parts c).length<=t.size+1
 | .leaf _,_=>bZ _
 | .node l x y,c=>by
  have h1:=zk x (b4 c l);have h2:=zk y (b4 c l.rev);rw[Tr.parts,aU,Tr.size];split<;>split<;>(try simp only[iQ])<;>omega
def HI{q:Rat}[h:BQ q i](hi:i<=900000000:=by decide):PF GB prog 47 [eF q] (eR q):=by
 refine fn func47 J J ntmps47 J J (fun C=>?_);refine cl J (uI (q:=q) (i:=i) hi) J<|cl J (ou (q:=q) (i:=i) hi) J<|rz J J
def X'[h:aE p i](hi:i<=900000000:=by decide):PF GB prog 198 [eZ p] (fe p):=by
 refine fn func198 J J ntmps198 J J (fun C=>?_);refine cl J (HI (q:=p.x) (i:=i) hi) J<|cl J (HI (q:=p.y) (i:=i) hi) J<|rz J J
theorem omQ{p:Prop}(h:p:=by rw[bQ]<;>rfl):p:=h
def P6{b:Bool}{o:List (Bool×az)}(hs:o.length<=1000000):PB GB prog 273 (fh [some (eU (.leaf b)),some (.sl (c.map d4)),none]) 2 325 (o.map jB) (fun w=> .v (.slice w.a w.n w.c)) ((o++Tr.parts (.leaf b) c).map jB):=by
 refine Gy func273 J J ntmps273 J J (fun C=>?_);refine cl (fu:=⟨0⟩) J wm J<|ii 12 J<|gx J<|rf J J<|I' ((o++[(b,c)]).map jB) J omQ (Ua [(b,c)]) J<|?_;exact tP J J J J
theorem oky{p:Prop}(h:p:=by simp[Tr.parts,hc30,hc38]):p:=h
def RJ{o:List (Bool×az)}(hl:LB l)(hlo:l.ok)(hc:gn c)(hn:c.length+(Tr.node l x y).depth<=100000)(hs:o.length+((Tr.node l x y).size+1)<=1000000)(ihx: ∀{c:az} {o:List (Bool×az)},gn c->c.length+x.depth<=100000->o.length+(x.size+1)<=1000000->PB GB prog 273 (fh [some (eU x),some (.sl (c.map d4)),none]) 2 325 (o.map jB) (fun w=> .v (.slice w.a w.n w.c)) ((o++Tr.parts x c).map jB))(ihy: ∀{c:az} {o:List (Bool×az)},gn c->c.length+y.depth<=100000->o.length+(y.size+1)<=1000000->PB GB prog 273 (fh [some (eU y),some (.sl (c.map d4)),none]) 2 325 (o.map jB) (fun w=> .v (.slice w.a w.n w.c)) ((o++Tr.parts y c).map jB)):PB GB prog 273 (fh [some (eU (.node l x y)),some (.sl (c.map d4)),none]) 2 325 (o.map jB) (fun w=> .v (.slice w.a w.n w.c)) ((o++Tr.parts (.node l x y) c).map jB):=by
 have hk1:=vo c l;have hk2:=vo c l.rev;have hd:(Tr.node l x y).depth=1+max x.depth y.depth:=J;have hz:(Tr.node l x y).size=1+x.size+y.size:=J;have hp:=zk x (b4 c l);refine Gy func273 J J ntmps273 J J (fun C=>?_);refine cl (fu:=⟨0⟩) J yu J<|Bn 12 J<|gx J<|cl J (LP hlo hc) J<|bb J J J (fun hc30=>?_) (fun hc30=>?_)
 .
  have hs2:(o++x.parts (b4 c l)).length+(y.size+1)<=1000000:=by rw[aU];omega
  refine cq ((o++x.parts (b4 c l)).map jB) J (ihx (tr hlo hc) pb pb) J J<|bb J J J (fun hc38=>?_) (fun hc38=>?_)
  .
   refine cq _ J (ihy (tr hlo.rev hc) pb (by first|exact hs2|omega)) J J<|?_;exact tP J J J oky
  .
   exact tP J J J oky
 .
  refine bb J J J (fun hc38=>?_) (fun hc38=>?_)
  .
   refine cq _ J (ihy (tr hlo.rev hc) pb (by first|exact hs2|omega)) J J<|?_;exact tP J J J oky
  .
   exact tP J J J oky
def Fk: ∀{t:Tr} {c:az} {o:List (Bool×az)},t.all LB->t.all aa.ok->gn c->c.length+t.depth<=100000->o.length+(t.size+1)<=1000000->PB GB prog 273 (fh [some (eU t),some (.sl (c.map d4)),none]) 2 325 (o.map jB) (fun w=> .v (.slice w.a w.n w.c)) ((o++Tr.parts t c).map jB)
 | .leaf _,_,_,_,_,_,_,hs=>P6 (by simp only[Tr.size] at hs;omega)
 | .node _ _ _,_,_,hb,ho,hc,hn,hs=>RJ hb.1 ho.1 hc hn hs (fun k1 k2 k3=>Fk hb.2.1 ho.2.1 k1 k2 k3) (fun k1 k2 k3=>Fk hb.2.2 ho.2.2 k1 k2 k3)
def Yp(hb:t.all LB)(ho:t.all aa.ok)(hd:t.depth<=100000)(hs:t.size<=900000):PB GB prog 273 (fh [some (eU t),some (.sl []),none]) 2 325 [] (fun w=> .v (.slice w.a w.n w.c)) ((t.parts []).map jB):=
 Fk (c:=[]) (o:=[]) hb ho gn.nil (by rw[iQ];omega) (by rw[iQ];omega)
def eC(c:az):DV:= .sl (c.map d4)
def Rx(l:List az):cd 1 (l.map eC):=fun d hd=>by
 obtain⟨x,_,rfl⟩:=aN.1 hd;exact⟨J,J⟩
def xg(ps:List (Bool×az)):List az:=(ps.filter (·.1)).map (·.2)
def Or{ps:List (Bool×az)}{b:Bool}(h:ps[k]? =some (b,e)):xg (ps.drop k)=(if b then [e] else [])++xg (ps.drop (k+1)):=by
 obtain⟨h1,h2⟩:=aS.1 h;rw[bW h1,h2];unfold xg
 cases b<;>simp
def TW(hb:t.all LB)(ho:t.all aa.ok)(hd:t.depth<=100000)(hs:t.size<=900000):PF GB prog 215 [eU t] (.sl ((t.parts []).map jB)):=by
 refine fn func215 J J ntmps215 J J (fun C=>?_);refine cqn _ J (Yp hb ho hd hs) J J<|fD 4 J<|rz J J
def KR(hb:t.all LB)(ho:t.all aa.ok)(hd:t.depth<=100000)(hs:t.size<=900000):PF GB prog 145 [eU t] (.sl ((b7 t).map eC)):=by
 obtain⟨ps,hps⟩: ∃ps,ps=t.parts []:=⟨_,rfl⟩;have hpl:=zk t [];rw[<-hps] at hpl;have hml:(ps.map jB).length=ps.length:=aX ..;refine fn func145 J J ntmps145 J J (fun C=>?_);refine cl (fu:=⟨0⟩) J (TW hb ho hd hs) J<|ah 7 (.d (.sl (ps.map jB))) J (by rw[hps])<|gx (fu:=⟨1⟩) J<|ah 8 (.d (vI (ps.length:Nat))) J omj<|gx J<|nr 3 3 254 1 J J J<|lp (X:=List az×Nat) (fun⟨acc,k⟩=>[(9, .d (vI (k:Nat))),(3, .rw 3)]) (fun⟨acc,k⟩=>[(3,some (.b 254 1 (acc.map eC) true))]) (fun⟨acc,k⟩=>acc++xg (ps.drop k)=b7 t/\k<=ps.length) (fun⟨acc,k⟩=>ps.length-k) ⟨[],0⟩ J ⟨by rw[hps];rfl,aL _⟩ (fun _=>J) (fun⟨acc,k⟩ hk=>?_)
 try dsimp only at hk⊢
 obtain⟨h1,h2⟩:=hk;have hal:acc.length<=ps.length:=by
  have q1:=congrArg List.length h1;have q2:(b7 t).length<=ps.length:=by unfold b7;rw[aX,hps];exact lX ..
  rw[aU] at q1;omega
 have ham:(acc.map eC).length=acc.length:=aX ..;refine br J J J (fun hc10=>?_) (fun hc10=>?_)
 .
  obtain⟨⟨b,e⟩,hx⟩: ∃x,ps[k]? =some x:=⟨_,aQ pb⟩;refine ix _ J (bF hx) J<|bb J J J (fun hc17=>?_) (fun hc17=>?_)
  .
   refine rf J J<|ap ((acc++[e]).map eC) J omQ (Rx [e]) J<|dq 22 3 J<|at_ ⟨acc++[e],k+1⟩ (by dsimp only;exact⟨⟨by rw[<-h1,Or hx,if_pos hc17];simp,pb⟩,pb⟩)
  .
   exact at_ ⟨acc,k+1⟩ (by dsimp only;exact⟨⟨by rw[<-h1,Or hx,if_neg (by simp at hc17;rw[hc17];decide)];rfl,pb⟩,pb⟩)
 .
  obtain rfl:k=ps.length:=by omega
  obtain rfl:acc=b7 t:=by rw[fU] at h1;simpa[xg] using h1
  refine fD 3 J<|rz J J
def rG(p:ab):(p.half=1/\(0<p.y\/(p.y=0/\0<p.x)))\/(p.half=2/\(p.y<0\/(p.y=0/\p.x<0)))\/(p.half=0/\p.y=0/\p.x=0):=by
 unfold ab.half;simp only[mc,xv,lC];split
 .rename_i h;exact .inl ⟨rfl,h⟩
 .rename_i h
  split
  .rename_i h2
   exact .inr (.inl ⟨J,v7⟩)
  .rename_i h2
   exact .inr (.inr ⟨J,v7,v7⟩)
def mr:p.half=1↔(0<p.y\/(p.y=0/\0<p.x)):=by
 rcases rG p with⟨h,k⟩|⟨h,k⟩|⟨h,k⟩<;>rw[h]<;>grind
def rC:p.half=2↔(p.y<0\/(p.y=0/\p.x<0)):=by
 rcases rG p with⟨h,k⟩|⟨h,k⟩|⟨h,k⟩<;>rw[h]<;>grind
def dC(u v:ab):Prop:=u.half<v.half\/(u.half=v.half/\0<u.cross v)
def vH{v:ab}:fq u v<0↔dC u v:=by
 unfold fq dC;split
 .rename_i h;exact⟨fun _=> .inl h,fun _=>by decide⟩
 .rename_i h
  split
  .rename_i h2;exact⟨fun e=>absurd e v6,fun e=>by omega⟩
  .rename_i h2
   have e:u.half=v.half:=by omega
   rw[<-mc];constructor
   .intro k;exact .inr ⟨e,pb⟩
   .rintro (k|⟨_,k⟩)
    .omega
    .omega
def kO(d:ab):ab:=⟨-d.x, -d.y⟩
def QX(h:d.half≠0):(kO d).half=3-d.half:=by
 rcases rG d with⟨e,k⟩|⟨e,k⟩|⟨e,k⟩
 .rw[e];exact rC.2 (by unfold kO;grind)
 .rw[e];exact mr.2 (by unfold kO;grind)
 .exact absurd e h
def l9(h:d.half≠0):d.half=1\/d.half=2:=by
 rcases rG d with⟨e,_⟩|⟨e,_⟩|⟨e,_⟩
 .exact .inl e
 .exact .inr e
 .exact absurd e h
def uF(ds:List ab)(u w:ab):Prop:=(dC u w/\ ∀d∈ds,¬(dC u d/\dC d w))\/((∀d∈ds,¬dC u d)/\ ∀d∈ds,¬dC d w)
def m7(u v:ab):v.cross u= -u.cross v:=by unfold ab.cross;grind
def B8(u v:ab):u.cross (kO v)= -u.cross v:=by unfold ab.cross kO;grind
end Go.Sx
end
section
namespace Go.Sx
open Go
variable {P:Program}{ops:Array Oper}{Q:Exit->Act->World->Prop}
inductive OT where
 |z (π:List (Nat×Bool))
 |q (i:Nat) (t:OT)
 |a (i:Nat) (t:OT)
 |c (i:Nat) (t r:OT)
def OT.sz:OT->Nat
 | .z _=>0
 | .q _ t=>t.sz+1
 | .a _ t=>t.sz+1
 | .c _ t r=>t.sz+r.sz+1
def OT.d:OT->Nat
 | .z π=>π.length
 | .q _ t=>t.d+1
 | .a _ t=>t.d+1
 | .c _ t r=>Nat.max (t.d+1) r.d
section
variable {S:World->Prop}{π₂:List (Nat×Bool)}
end
section
variable {GB:Gh}{C:aD}{n:Nat}{fr fr':li}{own own' own0 own1 own1':List ju}{bs bs0 bs1 bs1':List il}{fd:List FD}{π₂:List (Nat×Bool)}{t r:OT}
end
end Go.Sx
end
section
namespace Go.Sx
open Go Go.Proofs Tryz
variable {c xs ys:List aa}{l:aa}{k i j:Nat}{α β:Type}{q:Rat}{p a b:ab}{ps:List ab}
variable {GB:Gh}
theorem qG(hc: ∀m∈c,LB m)(hl:LB l): ∀m∈c++[l],LB m:=by
 rw[rQ];exact⟨hc,by simpa using hl⟩
theorem LB.rev{l:aa}(h:LB l):LB l.rev:=⟨⟨by rw[show l.rev.a= -l.a from J,iJ];exact h.bl.a,by rw[show l.rev.b= -l.b from J,iJ];exact h.bl.b,by rw[show l.rev.c= -l.c from J,iJ];exact h.bl.c⟩⟩
def Lp(hc: ∀m∈c,LB m)(hok: ∀m∈c,m.ok)(hn:c.length<=900)(hl:LB l)(hlo:l.ok):PF GB prog 93 [.sl (c.map eL),eL l] (vI (lB c l)):=by
 have hcl:=tD c;refine fn func93 J J ntmps93 J J (fun C=>?_);refine nD J J<|ap (c.map eL) J J (e8 _) J<|rf J J<|jo ((c++[l]).map eL) J omO (e8 [l]) J<|cl J (EL (c:=c++[l]) (qG hc hl) (gu hok hlo) omk) J<|nD J J<|ap (c.map eL) J J (e8 _) J<|cl J (uD (l:=l)) J<|rf J J<|jo ((c++[l.rev]).map eL) J omO (e8 [l.rev]) J<|cl J (EL (c:=c++[l.rev]) (qG hc hl.rev) (gu hok hlo.rev) omk) J<|ja 31 J J J (fun hg31=>?_) (fun hg31=>?_)
 .
  refine bb J J J (fun hc33=>?_) (fun hc33=>?_)
  .
   exact rz J (by show vI 0=vI _;congr 1;unfold lB;simp_all)
  .
   refine bb J J J (fun hc34=>?_) (fun hc34=>?_)
   .
    exact rz J (by show vI 1=vI _;congr 1;unfold lB;simp_all)
   .
    exact rz J (by simp[hg31] at hc34)
 .
  refine bb J J J (fun hc34=>?_) (fun hc34=>?_)
  .
   exact rz J (by simp[hg31] at hc34)
  .
   exact rz J (by show vI (-1)=vI _;congr 1;unfold lB;simp_all)
def EP{α:Type}{p:α->Bool}: ∀{xs:List α} {n:Nat},n<=xs.length->(∀j (h:j<xs.length),j<n->p xs[j]=true)->(∀h:n<xs.length,p xs[n]=false)->(xs.takeWhile p).length=n
 |[],n,h,_,_=>by simp at h;subst h;rfl
 |x::xs,0,_,_,h3=>by
  have:=h3 v8;simp only[oX] at this;simp[nT,this]
 |x::xs,n+1,h1,h2,h3=>by
  have hx:=h2 0 v8 pb;simp only[oX] at hx;rw[nT,if_pos hx,bY];rw[EP (n:=n) (by simpa using h1) (fun j h hj=>by have:=h2 (j+1) omu pb;simpa using this) (fun h=>by have:=h3 omu;simpa using this)]
def Ls{n:Nat}(h1:n<=xs.length)(h2: ∀j (h:j<xs.length),j<n->fq xs[j].dir l.dir<0)(h3: ∀h:n<xs.length,¬fq xs[n].dir l.dir<0):mi xs l=n:=
 EP h1 (fun j h hj=>decide_eq_true (h2 j h hj)) (fun h=>decide_eq_false (h3 h))
def Xq{n:Nat}(hn:mi xs l=n)(h:n<xs.length)(e:xs[n]=l):ng xs l=xs:=by
 unfold ng;rw[hn,if_pos (by rw[aQ h,e])]
def NO{n:Nat}(hn:mi xs l=n)(h: ∀h:n<xs.length,xs[n]≠l):ng xs l=xs.take n++l::xs.drop n:=by
 unfold ng;rw[hn,if_neg];intro e;obtain⟨h1,h2⟩:=aS.1 e;exact h h1 h2
def Og(xs:List aa)(n:Nat):cd 6 ((xs.map eL).take n):=fun d hd=>e8 xs d (dW hd)
def HC(xs:List aa)(n m:Nat):cd 6 (((xs.map eL).take n).drop m):=fun d hd=>e8 xs d (dW (gK hd))
def MC(xs:List aa)(n m:Nat)(l:aa):cd 6 ([eL l]++((xs.map eL).take n).drop m):=fun d hd=>by
 rcases bJ.1 hd with h|h
 .exact e8 [l] d h
 .exact HC xs n m d h
structure ki (c:List aa) (k:Nat) (xs:List aa):Prop where
 le:k<=c.length
 f:mf c (c.drop k) xs=c7 c
 m: ∀m∈xs,m∈c
 n:xs.length<=k
def ki.skip(h:ki c k xs)(hk:k<c.length)(e:(et c[k] c ak.all).isSome=false):ki c (k+1) xs:=by
 have:=h.f;rw[bW hk,mf,e] at this;exact⟨hk,this,h.m,by have:=h.n;omega⟩
def ki.ins(h:ki c k xs)(hk:k<c.length)(e:(et c[k] c ak.all).isSome=true)(hy:ng xs c[k]=ys)(hl:ys.length<=xs.length+1):ki c (k+1) ys:=by
 have:=h.f;rw[bW hk,mf,e,if_pos J,hy] at this;refine⟨hk,this,fun m hm=>?_,by have:=h.n;omega⟩;rw[<-hy] at hm;rcases Hd.1 hm with rfl|hm
 .exact bL hk
 .exact h.m m hm
def ki.done(h:ki c k xs)(hk:k=c.length):c7 c=xs:=by
 have:=h.f;rw[hk,fU,mf] at this;exact this.symm
def pd(c:List aa):Bool:=if(((c.map eL).length:Nat):Int)=0 then true else decide ((0:Int)<((((c7 c).map eL).length:Nat):Int))
def ki.nil(c:List aa):ki c 0 []:=⟨aL _,J,fun m hm=>absurd hm v8,bZ _⟩
theorem omx{p:Prop}(h:p:=by rw[hys,bQ,cZ,gT,iW,bK (l:=xs.map eL) (i:=xs.length) v8];rfl):p:=h
theorem omE{p:Prop}(h:p:=by rw[hxl];exact hnl):p:=h
theorem okx{p:Prop}(h:p:=by rw[hxl]):p:=h
def FP(hc: ∀m∈c,LB m)(hok: ∀m∈c,m.ok)(hn:c.length<=1000:=by omega):PF GB prog 165 [.sl (c.map eL)] (.tp [.sl ((c7 c).map eL),vB (pd c)]):=by
 have hcl:=tD c;refine fn (fu:=⟨16⟩) func165 J J ntmps165 J J (fun C=>?_);refine ah 11 (.d (vI (c.length:Nat))) J (by rw[hcl];rfl)<|gx J<|AI 4 J<|lp (X:=List aa×Nat) (fun⟨xs,k⟩=>[(12, .d (vI (k:Nat))),(11, .d (vI (c.length:Nat))),(10, .d (.sl (c.map eL))),(0, .d (.sl (c.map eL))),(4, .d (.sl (xs.map eL)))]) (fun⟨xs,k⟩=>[]) (fun⟨xs,k⟩=>ki c k xs) (fun⟨xs,k⟩=>c.length-k) ⟨[],0⟩ J (ki.nil c) (fun _=>J) (fun⟨xs,k⟩ hk=>?_)
 try dsimp only at hk⊢
 have hS:=hk;refine br J J J (fun hc13=>?_) (fun hc13=>?_)
 .
  have hk:k<c.length:=by omega
  obtain⟨m,hm⟩: ∃m,m=c[k]:=⟨_,rfl⟩;haveI hmb:LB m:=hm▸hc _ (bL hk);have hmo:m.ok:=hm▸hok _ (bL hk);have hxl:=tD xs;have hxn:=hS.n;refine ix (fu:=⟨1⟩) _ J (uk hk) J<|ah 16 (.d (eL m)) J okW<|gx J<|cl J (Mb hc hok hn hk) J<|bb (fu2:=⟨8⟩) J J J (fun hc24=>?_) (fun hc24=>?_)
  .
   have hinv:ki c (k+1) xs:=hS.skip hk (by rw[<-t8];simpa using hc24);exact at_ ⟨xs,k+1⟩ oms
  .
   have hyes:(et c[k] c ak.all).isSome=true:=by rw[<-t8];simpa using hc24
   refine mg (fu:=⟨6⟩) (X:=Unit) (fun _=>[(12, .d (vI (k:Nat))),(11, .d (vI (c.length:Nat))),(10, .d (.sl (c.map eL))),(0, .d (.sl (c.map eL))),(4, .d (.sl (xs.map eL))),(6, .ov 6 0),(9, .d (vI (mi xs m:Nat)))]) (fun _=>[(6,some (.o 136 [.d ((.v (.bool (decide (m.a<0))))), .d (dN m.a.natAbs), .d ((.v (.bool (decide (m.b<0))))), .d (dN m.b.natAbs), .d ((.v (.bool (decide (m.c<0))))), .d (dN m.c.natAbs)] true))]) (fun _=>True) [12,11,10,0,4,6,9] [6] rfl ?_ (fun _=>J) (fun _ _=>?_)
   .
    refine gx J<|lp (fu:=⟨6⟩) (X:=Nat) (fun n=>[(12, .d (vI (k:Nat))),(11, .d (vI (c.length:Nat))),(10, .d (.sl (c.map eL))),(0, .d (.sl (c.map eL))),(4, .d (.sl (xs.map eL))),(6, .ov 6 0),(9, .d (vI (n:Nat)))]) (fun n=>[(6,some (.o 136 [.d ((.v (.bool (decide (m.a<0))))), .d (dN m.a.natAbs), .d ((.v (.bool (decide (m.b<0))))), .d (dN m.b.natAbs), .d ((.v (.bool (decide (m.c<0))))), .d (dN m.c.natAbs)] true))]) (fun n=>n<=xs.length/\ ∀j (h:j<xs.length),j<n->fq xs[j].dir m.dir<0) (fun n=>xs.length-n) 0 J ⟨aL _,fun j _ hj=>absurd hj pb⟩ (fun _=>J) (fun n hk=>?_);obtain⟨n1,n2⟩:=hk;refine jk J J J J (fun hg28=>?_) (fun hg28=>?_)
    .
     refine ix _ J (uk) J<|?_;haveI:LB (xs[n]' pb):=hc _ (hS.m _ (bL _));refine cl J (p8 (l:=xs[n]' pb)) J<|cl J (p8 (l:=m)) J<|cl J (UC (u:=(xs[n]' pb).dir) (v:=m.dir)) J<|br J J J (fun hc39=>?_) (fun hc39=>?_)
     .
      exact at_ (n+1) ⟨⟨pb,fun j h hj=>by by_cases q:j=n;(subst q;exact hc39);exact n2 j h pb⟩,pb⟩
     .
      have hidx:mi xs m=n:=Ls n1 n2 (fun h=>hc39);exact at_ () trivial
    .
     have hidx:mi xs m=n:=Ls n1 n2 (fun h=>absurd h pb);exact at_ () trivial
   .
    obtain⟨n,hnx⟩: ∃n,mi xs m=n:=⟨_,rfl⟩;rw[hnx];have hnl:n<=xs.length:=by rw[<-hnx];unfold mi;exact(List.takeWhile_sublist _).length_le
    have hcb: ∀m∈xs,LB m:=fun m hm=>hc m (hS.m m hm);refine jk J J J J (fun hg45=>?_) (fun hg45=>?_)
    .
     refine ix _ J (uk) J<|cl J (As (l:=xs[n]' pb) (m:=m) (hl:=hcb _ (bL pb))) J<|br J J J (fun hc54=>?_) (fun hc54=>?_)
     .
      have hn46:n<xs.length:=by omega
      have hinv:ki c (k+1) xs:=hS.ins hk hyes (by rw[<-hm];exact Xq hnx hn46 ((zn _ m).1 hc54)) pb;exact at_ ⟨xs,k+1⟩ oms
     .
      have hnew: ∀h:n<xs.length,xs[n]≠m:=fun h e=>hc54 ((zn _ m).2 e);obtain⟨ys,hys⟩: ∃ys,ys=xs.take n++m::xs.drop n:=⟨_,rfl⟩;have hinv:ki c (k+1) ys:=hS.ins hk hyes (by rw[<-hm,NO hnx hnew,hys]) (by rw[hys];simp;omega);refine s3 n _ J J J J (e8 _) omE J<|ro J J<|js n xs.length _ J J okx J (e8 _) hnl pb J<|ap _ J J (HC _ _ _) J<|jo (hv:=by simp only[aj];exact⟨we,pb⟩) (ho:=fun _=>⟨Og _ _,v8⟩) (ys.map eL) J omx (MC _ _ _ _) J<|at_ ⟨ys,k+1⟩ oms
    .
     have hnew: ∀h:n<xs.length,xs[n]≠m:=fun h=>absurd h pb;obtain⟨ys,hys⟩: ∃ys,ys=xs.take n++m::xs.drop n:=⟨_,rfl⟩;have hinv:ki c (k+1) ys:=hS.ins hk hyes (by rw[<-hm,NO hnx hnew,hys]) (by rw[hys];simp;omega);refine s3 n _ J J J J (e8 _) omE J<|ro J J<|js n xs.length _ J J okx J (e8 _) hnl pb J<|ap _ J J (HC _ _ _) J<|jo (hv:=by simp only[aj];exact⟨we,pb⟩) (ho:=fun _=>⟨Og _ _,v8⟩) (ys.map eL) J omx (MC _ _ _ _) J<|at_ ⟨ys,k+1⟩ oms
 .
  have hfin:c7 c=xs:=hS.done (by have:=hS.le;omega);refine cs 71 J J J (fun hg71=>?_) (fun hg71=>?_)
  .
   exact rz J (by rw[pd,if_pos hg71,hfin];rfl)
  .
   exact rz J (by rw[pd,if_neg hg71,hfin];rfl)
section
variable (c:α->α->Int)
def eG(x:α):List α->List α
 |[]=>[x]
 |u::t=>if c u x<0 then u::eG x t else if c u x=0 then u::t else x::u::t
def jj(x:α)(xs:List α):Nat:=(xs.takeWhile fun u=>decide (c u x<0)).length
def A6(x:α)(xs:List α):jj c x xs<=xs.length:=(List.takeWhile_sublist _).length_le
def sB{x:α}{xs:List α}{n:Nat}(h1:n<=xs.length)(h2: ∀j (h:j<xs.length),j<n->c xs[j] x<0)(h3: ∀h:n<xs.length,¬c xs[n] x<0):jj c x xs=n:=
 EP h1 (fun j h hj=>decide_eq_true (h2 j h hj)) (fun h=>decide_eq_false (h3 h))
theorem ozr{p:Prop}(h:p:=by simpa using hu):p:=h
def xt{x:α}: ∀{xs:List α} {n:Nat},jj c x xs=n->(h:n<xs.length)->c xs[n] x=0->eG c x xs=xs
 |[],n,_,h,_=>by simp at h
 |u::t,n,hn,h,e=>by
  rw[eG];unfold jj at hn;rw[nT] at hn;by_cases hu:c u x<0
  .rw[if_pos hu]
   rw[if_pos ozr] at hn;obtain⟨k,rfl⟩: ∃k,n=k+1:=⟨n-1,by simp at hn;omega⟩;rw[xt (xs:=t) (n:=k) (by unfold jj;simpa using hn) omu (by simpa using e)]
  .rw[if_neg ozr] at hn
   simp at hn;subst hn;rw[if_neg hu,if_pos (by simpa using e)]
def qt{x:α}: ∀{xs:List α} {n:Nat},jj c x xs=n->(∀h:n<xs.length,c xs[n] x≠0)->eG c x xs=xs.take n++x::xs.drop n
 |[],n,hn,_=>by simp[jj] at hn;subst hn;rfl
 |u::t,n,hn,e=>by
  rw[eG];unfold jj at hn;rw[nT] at hn;by_cases hu:c u x<0
  .rw[if_pos hu]
   rw[if_pos ozr] at hn;obtain⟨k,rfl⟩: ∃k,n=k+1:=⟨n-1,by simp at hn;omega⟩;rw[qt (xs:=t) (n:=k) (by unfold jj;simpa using hn) (fun h=>by have:=e omu;simpa using this)];simp
  .rw[if_neg ozr] at hn
   simp at hn;subst hn;have:=e v8;rw[if_neg hu,if_neg (by simpa using this)];rfl
def Ax(x:α): ∀(xs:List α),(eG c x xs).length<=xs.length+1
 |[]=>bZ _
 |u::t=>by
  have:=Ax x t;rw[eG];split
  .simp;omega
  .split<;>simp
def Iw{x y:α}: ∀{xs:List α},y∈eG c x xs->y=x\/y∈xs
 |[],h=>by rw[eG,aW] at h;exact .inl h
 |u::t,h=>by
  rw[eG] at h;split at h
  .rcases aT.1 h with rfl|h
   .exact .inr aZ
   .rcases Iw h with h|h
    .exact .inl h
    .exact .inr (aK _ h)
  .split at h
   .exact .inr h
   .rcases aT.1 h with rfl|h
    .exact .inl J
    .exact .inr h
def td(l:List α):List α:=l.foldl (fun out x=>eG c x out) []
def K5: ∀(l o:List α),(l.foldl (fun out x=>eG c x out) o).length<=l.length+o.length
 |[],o=>by simp
 |x::t,o=>by
  have:=K5 t (eG c x o);have:=Ax c x o;simp only[iM,bY];omega
def Nz{y:α}: ∀{l o:List α},y∈l.foldl (fun out x=>eG c x out) o->y∈l\/y∈o
 |[],o,h=> .inr h
 |x::t,o,h=>by
  rcases Nz (l:=t) h with h|h
  .exact .inl (aK _ h)
  .rcases Iw c h with rfl|h
   .exact .inl aZ
   .exact .inr h
end
def yv{x:Rat}: ∀{l:List Rat},lG x l=eG bm x l
 |[]=>rfl
 |u::t=>by
  have e1:bm u x<0↔u<x:=yq u x;have e2:bm u x=0↔u=x:=qh u x;rw[lG,eG,yv (l:=t)];by_cases h:u<x
  .rw[if_pos h,if_pos (e1.2 h)]
  .rw[if_neg h,if_neg (fun e=>h (e1.1 e))]
   by_cases h2:u=x
   .rw[if_pos h2,if_pos (e2.2 h2)]
   .rw[if_neg h2,if_neg (fun e=>h2 (e2.1 e))]
def oI{f:α->β}{l:List α}{x:α}(h:l[k]? =some x):(l.take k).map f++[f x]=(l.take (k+1)).map f:=by
 rw[eM,h,bQ];rfl
def Xd{n:Nat}[h:BN n i](hi:i<=20000000:=by decide):PF GB prog 301 [dN n] (dN n):=by
 have hl:=k9 h.h;have:=MU (GB:=GB) (ds:=dg n) (fB n) pb;rw[cG,<-PK] at this;exact this
def W1(z:Int):vA (decide (z<0)) (dg z.natAbs)=z:=by
 unfold vA;rw[cG];split<;>(rename_i h;simp at h;omega)
def TR{z:Int}[h:BI z i](hi:i<=20000000:=by decide):PF GB prog 282 [eI z] (eI z):=by
 have hl:=k9 h.h;have:=PZ (GB:=GB) (neg:=decide (z<0)) (ds:=dg z.natAbs) (fB _) pb;rw[W1,<-PK] at this;exact this
def Q2{n:Nat}(h:0<n): ¬((((dg n).map dU).length:Nat):Int)=0:=by
 rw[aX];have:=sj (n:=n);omega
instance BQ.m1':BQ (((-1:Int):Int):Rat) 2:=⟨v6,v6⟩
instance BQ.m1:BQ (-1:Rat) 2:=⟨v6,v6⟩
def Md[h:BQ q i](hi:i<=20000000:=by decide):PF GB prog 261 [eR q] (eQ q):=by
 have hd:=q.den_pos;refine fn func261 J J ntmps261 J J (fun C=>?_);refine cl (fu:=⟨8⟩) J (Xd (n:=q.den) hi) J<|bG J (omd (Q2 hd)) J<|cl J (TR (z:=q.num) hi) J<|cl J (uN (x:=q.num) (d:=q.den) hd pb pb) J<|rz J (by rw[tZ];rfl)
def By[h:BQ q i](hi:i<=400000000:=by decide):PF GB prog 22 [eQ q] (eR q):=by
 refine fn func22 J J ntmps22 J J (fun C=>?_);refine cl J (zq (z:=q.num) hi) J<|cl J (jw (q:=q)) J<|cl J (Ie (a:=q.den) hi) J<|rz J J
def Wt[h:aE p i](hi:i<=20000000:=by decide):PF GB prog 202 [fe p] (eP p):=by
 refine fn func202 J J ntmps202 J J (fun C=>?_);refine cl J (Md (q:=p.x) hi) J<|cl J (Md (q:=p.y) hi) J<|rz J J
def se[h:aE p i](hi:i<=20000:=by decide):PF GB prog 12 [eP p] (fe p):=by
 refine fn func12 J J ntmps12 J J (fun C=>?_);refine cl J (By (q:=p.x) (i:=i) pb) J<|cl J (By (q:=p.y) (i:=i) pb) J<|rz J J
def fp(f:α->DV)(l:List α):(l.map f).length=l.length:=aX ..
def ol(ps:List ab):cd 6 (ps.map eP):=fun d hd=>by
 obtain⟨u,_,rfl⟩:=aN.1 hd;exact⟨rfl,rfl⟩
def xM(ps:List ab):cd 6 (ps.map fe):=fun d hd=>by
 obtain⟨u,_,rfl⟩:=aN.1 hd;exact⟨rfl,rfl⟩
def SK(hb: ∀p∈ps,aE p 1200)(hn:ps.length<=1000000):PF GB prog 120 [.sl (ps.map fe)] (.sl (ps.map eP)):=by
 have hm:=fp fe ps;refine fn (fu:=⟨15⟩) func120 J J ntmps120 J J (fun C=>?_);refine ah 7 (.d (vI (ps.length:Nat))) J omr<|gx J<|nr 3 3 36 6 J J J<|lp (X:=Nat) (fun k=>[(8, .d (vI (k:Nat))),(3, .rw 3)]) (fun k=>[(3,some (.b 36 6 ((ps.take k).map eP) true))]) (fun k=>k<=ps.length) (fun k=>ps.length-k) 0 J (aL _) (fun _=>J) (fun k hk=>?_);have hml:=fp eP (ps.take k);rw[bR] at hml;refine br J J J (fun hc9=>?_) (fun hc9=>?_)
 .
  obtain⟨z,hz⟩: ∃s,ps[k]? =some s:=⟨_,aQ pb⟩;have hzm:=aV hz;refine ix _ J (bF hz) J<|cl J (Wt (p:=z) (h:=hb z hzm)) J<|rf J J<|ap ((ps.take (k+1)).map eP) J (oI hz) (ol [z]) J<|dq 16 3 J<|at_ (k+1) ⟨pb,pb⟩
 .
  obtain rfl:k=ps.length:=by omega
  refine fD 3 J<|rz J (by rw[cS];rfl)
def w5(hb: ∀p∈ps,aE p 1200)(hn:ps.length<=1000000:=by omega):PF GB prog 11 [.sl (ps.map eP)] (.sl (ps.map fe)):=by
 have hm:=fp eP ps;refine fn (fu:=⟨15⟩) func11 J J ntmps11 J J (fun C=>?_);refine ah 7 (.d (vI (ps.length:Nat))) J omr<|gx J<|nr 3 3 52 6 J J J<|lp (X:=Nat) (fun k=>[(8, .d (vI (k:Nat))),(3, .rw 3)]) (fun k=>[(3,some (.b 52 6 ((ps.take k).map fe) true))]) (fun k=>k<=ps.length) (fun k=>ps.length-k) 0 J (aL _) (fun _=>J) (fun k hk=>?_);have hml:=fp fe (ps.take k);rw[bR] at hml;refine br J J J (fun hc9=>?_) (fun hc9=>?_)
 .
  obtain⟨z,hz⟩: ∃s,ps[k]? =some s:=⟨_,aQ pb⟩;have hzm:=aV hz;refine ix _ J (bF hz) J<|cl J (se (p:=z) (h:=hb z hzm)) J<|rf J J<|ap ((ps.take (k+1)).map fe) J (oI hz) (xM [z]) J<|dq 16 3 J<|at_ (k+1) ⟨pb,pb⟩
 .
  obtain rfl:k=ps.length:=by omega
  refine fD 3 J<|rz J (by rw[cS];rfl)
def I6{q:ab}[hp:aE p i][hq:aE q j](hi:i<=100000:=by decide)(hj:j<=100000:=by decide):PF GB prog 32 [eP p,eP q] (eP (ce p q (-1))):=by
 refine fn func32 J J ntmps32 J J (fun C=>?_);refine cl J (kc (n:= -1)) J<|cl J (xh (p:=p) (q:=q) (c:=((-1:Int):Rat)) (i:=i) (j:=j) (k:=2) pb pb) J<|rz J (by rw[show((-1:Int):Rat)= -1 from J];rfl)
def r5{c:ab}[ha:aE a i][hb:aE b j][hc:aE c k](hi:i<=80000:=by decide)(hj:j<=80000:=by decide)(hk:k<=80000:=by decide):PF GB prog 20 [eP a,eP b,eP c] (vI (mF a b c)):=by
 refine fn func20 J J ntmps20 J J (fun C=>?_);refine cl J (I6 (p:=b) (q:=a) (i:=j) (j:=i) pb pb) J<|cl J (I6 (p:=c) (q:=a) (i:=k) (j:=i) pb pb) J<|cl J (vK (p:=ce b a (-1)) (q:=ce c a (-1)) pb pb) J<|cl J (nB (q:=(ce b a (-1)).cross (ce c a (-1)))) J<|rz J J
def fC(p q:ab):Int:=if bm p.x q.x≠0 then bm p.x q.x else bm p.y q.y
def Lf{q:ab}[hp:aE p i][hq:aE q j](hi:i<=100000:=by decide)(hj:j<=100000:=by decide):PF GB prog 244 [eP p,eP q] (vI (fC p q)):=by
 refine fn func244 J J ntmps244 J J (fun C=>?_);refine cl J (kz (a:=p.x) (b:=q.x) pb pb) J<|br J J J (fun hc12=>?_) (fun hc12=>?_)
 .
  exact rz J (by unfold fC;rw[if_pos hc12];rfl)
 .
  refine cl J (kz (a:=p.y) (b:=q.y) pb pb) J<|rz J (by unfold fC;rw[if_neg hc12];rfl)
def vW(l:aa):Bool:=decide (l.a<0\/(l.a=0/\l.b<0))
def aa.canon(l:aa):aa:=if vW l then l.rev else l
def zl(a:Int):a.sign<0↔a<0:=by
 rcases qN a 0 with h|h|h
 .rw[dT h];omega
 .subst h;simp
 .rw[fX h];omega
def Ix(a:Int):a.sign=0↔a=0:=iS
def OQ(h:l.a<0\/(l.a=0/\l.b<0)):DV.tp [eL l.canon,vB (vW l)]= .tp [eL l.rev,vB true]:=by
 unfold aa.canon vW;rw[decide_eq_true h];rfl
def LN(h: ¬(l.a<0\/(l.a=0/\l.b<0))):DV.tp [eL l.canon,vB (vW l)]= .tp [eL l,vB false]:=by
 unfold aa.canon vW;rw[decide_eq_false h];rfl
def Tv[hl:LB l]:PF GB prog 162 [eL l] (.tp [eL l.canon,vB (vW l)]):=by
 refine fn func162 J J ntmps162 J J (fun C=>?_);refine cl J (AV (z:=l.a)) J<|cs 10 J J J (fun hg10=>?_) (fun hg10=>?_)
 .
  refine cl J (uD (l:=l)) J<|rz J (by rw[OQ (.inl ((zl _).1 hg10))];rfl)
 .
  refine cs 13 J J J (fun hg13=>?_) (fun hg13=>?_)
  .
   refine cl J (AV (z:=l.b)) J<|br J J J (fun hc19=>?_) (fun hc19=>?_)
   .
    refine cl J (uD (l:=l)) J<|rz J (by rw[OQ (.inr ⟨(Ix _).1 hg13,(zl _).1 hc19⟩)];rfl)
   .
    exact rz J (by rw[LN (fun e=>e.elim (fun e=>hg10 ((zl _).2 e)) (fun e=>hc19 ((zl _).2 e.2)))];rfl)
  .
   exact rz J (by rw[LN (fun e=>e.elim (fun e=>hg10 ((zl _).2 e)) (fun e=>hg13 ((Ix _).2 e.1)))];rfl)
instance LB.canon (l:aa) [h:LB l]:LB l.canon:=by unfold aa.canon;split;exact LB.rev h;exact h
end Go.Sx
end
