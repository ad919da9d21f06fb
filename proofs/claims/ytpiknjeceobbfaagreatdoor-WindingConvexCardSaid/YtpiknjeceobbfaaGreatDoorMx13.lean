import Derived.Test.YtpiknjeceobbfaaGreatDoorMx12
set_option linter.all false
set_option maxRecDepth 100000
section
namespace Go.Sx
open Go Go.Proofs Tryz
variable {GB:Gh}
def ni(out:List Rat)(s:aA):List Rat:=if s.nh then(if s.nl then out else mH s.lo out) else mH s.hi (if s.nl then out else mH s.lo out)
def kO(l:List aA):List Rat:=l.foldl ni []
def y9:List aA->Rat->Int
 |[],_=>0
 |s::t,x=>
  let a:=if s.nl then 1 else ce x s.lo
  let b:=if s.nh then-1 else ce x s.hi
  if 0<a/\b<0 then 2 else if(a=0/\b<=0)\/(b=0/\0<=a) then 1 else y9 t x
def uQ(l:List aA)(x:Rat):Bool:=decide (y9 l x=2)
def kg(cuts:List Rat)(i:Nat):aA:=⟨if i=0 then 0 else cuts.getD (i-1) 0,if i<cuts.length then cuts.getD i 0 else 0,decide (i=0),decide (i=cuts.length)⟩
def P5(v w:aA):aA:=⟨v.lo,w.hi,v.nl,w.nh⟩
def pq(cuts:List Rat)(marks:List Bool):Nat->List aA
 |0=>[]
 |k+1=>
  let out:=pq cuts marks k
  if marks.getD k false then
   (if 0<k/\marks.getD (k-1) false=true then(match out.getLast? with
    |some v=>out.dropLast++[P5 v (kg cuts k)]
    |none=>out++[kg cuts k]) else out++[kg cuts k])
  else out
def Eb(cuts:List Rat)(marks:List Bool):List aA:=pq cuts marks marks.length
def Le(op:Int)(x y:Bool):Bool:=if op=2 then x&&y else if op=3 then x&&!y else if op=4 then x !=y else x||y
def wx(op:Int)(a b:List aA):List aA:=Eb (kO (a++b)) ((lx (kO (a++b))).map fun t=>Le op (uQ a t) (uQ b t))
def tq(l m:ab)(side:Int):List aA:=
 if crossI l m=0 then(if(m.value l.base).num.sign=side then [aA.all] else [])
 else if(m.value (l.at (co l (jr l m)+1))).num.sign=side then [⟨co l (jr l m),0,false,true⟩] else [⟨0,co l (jr l m),true,false⟩]
def s7(l m:ab):Bool:=decide (crossI l m=0/\(m.value l.base).num.sign=0)
def lI(f:aP)(m:ab)(side:Int):List aP:=if s7 f.l m then [] else(wx 2 [f.v] (tq f.l m side)).map fun v=>⟨f.l,v⟩
def Lf(l:List aA):(kO l).Pairwise (· < ·)/\ ∀y∈kO l,∃s∈l,(s.nl=false/\y=s.lo)\/(s.nh=false/\y=s.hi):=by
 have key: ∀(l:List aA) (o:List Rat),o.Pairwise (· < ·)->(l.foldl ni o).Pairwise (· < ·)/\ ∀y∈l.foldl ni o,y∈o\/ ∃s∈l,(s.nl=false/\y=s.lo)\/(s.nh=false/\y=s.hi):=by
  intro l
  induction l with
  |nil=>intro o h;exact⟨h,fun y hy=> .inl hy⟩
  |cons s t ih=>
   intro o h;have h1:(ni o s).Pairwise (· < ·)/\ ∀y∈ni o s,y∈o\/(s.nl=false/\y=s.lo)\/(s.nh=false/\y=s.hi):=by
    unfold ni
    cases e1:s.nl<;>cases e2:s.nh<;>simp only[if_true,gV,if_false]
    ·refine⟨w8 (w8 h),fun y hy=>?_⟩
     rcases sJ.1 hy with h|h
     ·exact .inr (.inr ⟨trivial,h⟩)
     ·rcases sJ.1 h with h|h
      ·exact .inr (.inl ⟨trivial,h⟩)
      ·exact .inl h
    ·refine⟨w8 h,fun y hy=>?_⟩
     rcases sJ.1 hy with h|h
     ·exact .inr (.inl ⟨trivial,h⟩)
     ·exact .inl h
    ·refine⟨w8 h,fun y hy=>?_⟩
     rcases sJ.1 hy with h|h
     ·exact .inr (.inr ⟨trivial,h⟩)
     ·exact .inl h
    ·exact⟨h,fun y hy=> .inl hy⟩
   obtain⟨k1,k2⟩:=ih (ni o s) h1.1;refine⟨k1,fun y hy=>?_⟩;rcases k2 y hy with h2|⟨q,hq,h2⟩
   ·rcases h1.2 y h2 with h3|h3
    ·exact .inl h3
    ·exact .inr ⟨s,aQ,h3⟩
   ·exact .inr ⟨q,aZ _ hq,h2⟩
 have:=key l [] List.Pairwise.nil;refine⟨this.1,fun y hy=>?_⟩;rcases this.2 y hy with h|h
 ·cases h
 ·exact h
structure AS (cuts:List Rat) (v:aA):Prop where
 z:rO v
 lo:v.nl=true\/v.lo∈cuts
 hi:v.nh=true\/v.hi∈cuts
def V5{cuts:List Rat}{i:Nat}(h:i<=cuts.length):AS cuts (kg cuts i):=by
 unfold kg;refine⟨⟨fun e=>?_,fun e=>?_⟩,?_,?_⟩
 ·simp only[decide_eq_true_eq] at e;simp[e]
 ·simp only[decide_eq_true_eq] at e;simp[e]
 ·by_cases h0:i=0
  ·left;simp[h0]
  ·right
   simp only[if_neg h0];rw[aJ,aX (by omega)];exact gL _
 ·by_cases h0:i=cuts.length
  ·left;simp[h0]
  ·right
   simp only[if_pos (show i<cuts.length by omega)];rw[aJ,aX (by omega)];exact gL _
def IN{cuts:List Rat}{marks:List Bool}: ∀{k:Nat},k<=cuts.length+1-> ∀v∈pq cuts marks k,AS cuts v
 |0,_,v,hv=>by cases hv
 |k+1,hk,v,hv=>by
  have ih:=IN (cuts:=cuts) (marks:=marks) (k:=k) (by omega);have hg:=V5 (cuts:=cuts) (i:=k) (by omega);rw[pq] at hv;split at hv
  ·split at hv
   ·split at hv
    ·rename_i w hw
     rcases bL.1 hv with h|h
     ·exact ih v ((List.dropLast_sublist _).subset h)
     ·rw[aV] at h;subst h
      have hw':=ih w (qW hw);exact⟨⟨hw'.z.1,hg.z.2⟩,hw'.lo,hg.hi⟩
    ·rcases bL.1 hv with h|h
     ·exact ih v h
     ·rw[aV] at h;subst h;exact hg
   ·rcases bL.1 hv with h|h
    ·exact ih v h
    ·rw[aV] at h;subst h;exact hg
  ·exact ih v hv
def H4{l:List Rat}:(lx l).length=l.length+1:=by
 have key: ∀(l:List Rat) (a:Rat),(nF (a::l)).length=l.length:=by
  intro l
  induction l with
  |nil=>intro a;rfl
  |cons b t ih=>intro a;rw[nF,bS,ih b,bS]
 cases l with
 |nil=>rfl
 |cons a t=>rw[lx,bS,cZ,key];simp
def Tu{op:Int}{a b:List aA}: ∀v∈wx op a b,AS (kO (a++b)) v:=fun v hv=>by
 unfold wx Eb at hv;refine IN ?_ v hv;rw[aK,H4];omega
structure ou (f:aP):Prop where
 lb:LB f.l
 ok:f.l.ok
 z:rO f.v
 lo:BQ f.v.lo 1200
 hi:BQ f.v.hi 1200
theorem BQ.zero1200:BQ (0:Rat) 1200:=BQ.mono (k:=1) ⟨by decide,by decide⟩ (by decide)
def N7{l m:ab}(hl:LB l)(hm:LB m)(hlo:l.ok){side:Int}: ∀v∈tq l m side,rO v/\BQ v.lo 1200/\BQ v.hi 1200:=fun v hv=>by
 unfold tq at hv;split at hv
 ·split at hv
  ·rw[aV] at hv;subst hv;exact⟨rO.all,BQ.zero1200,BQ.zero1200⟩
  ·cases hv
 ·rename_i hc
  have:=Xz hlo.ne hc;split at hv
  ·rw[aV] at hv;subst hv;exact⟨⟨fun h=>(by cases h),fun _=>J⟩,this,BQ.zero1200⟩
  ·rw[aV] at hv;subst hv;exact⟨⟨fun _=>J,fun h=>(by cases h)⟩,BQ.zero1200,this⟩
def IX{f:aP}{m:ab}(h:ou f)(hm:LB m){side:Int}: ∀g∈lI f m side,ou g/\g.l=f.l/\s7 f.l m=false:=fun g hg=>by
 unfold lI at hg;split at hg
 ·cases hg
 ·rename_i ho
  obtain⟨v,hv,rfl⟩:=bK.1 hg;have hi:=Tu v hv;have bd: ∀y∈kO ([f.v]++tq f.l m side),BQ y 1200:=fun y hy=>by
   obtain⟨s,hs,h1⟩:=(Lf _).2 y hy;rcases bL.1 hs with hs|hs
   ·rw[aV] at hs;subst hs
    rcases h1 with⟨_,rfl⟩|⟨_,rfl⟩
    ·exact h.lo
    ·exact h.hi
   ·have:=N7 h.lb hm h.ok s hs
    rcases h1 with⟨_,rfl⟩|⟨_,rfl⟩
    ·exact this.2.1
    ·exact this.2.2
  refine⟨⟨h.lb,h.ok,hi.z,?_,?_⟩,J,by simpa using ho⟩
  ·rcases hi.lo with e|e
   ·rw[hi.z.1 e];exact BQ.zero1200
   ·exact bd _ e
  ·rcases hi.hi with e|e
   ·rw[hi.z.2 e];exact BQ.zero1200
   ·exact bd _ e
def om(acc:aa->Bool):Nat->List aP->List ab->Tr
 |_,[],c=> .leaf (acc (t7 c c))
 |0,_::_,_=> .leaf false
 |n+1,f::t,c=> .node f.l (om acc n ((f::t).flatMap fun g=>lI g f.l 1) (c++[f.l])) (om acc n ((f::t).flatMap fun g=>lI g f.l (-1)) (c++[f.l.rev]))
def PG{f g:aP}{m:ab}{side:Int}(h:g∈lI f m side):g.l=f.l:=by
 unfold lI at h;split at h
 ·cases h
 ·obtain⟨v,_,rfl⟩:=bK.1 h;rfl
def zb{acc:aa->Bool}{P:ab->Prop}: ∀{n:Nat} {l:List aP} {c:List ab},(∀f∈l,P f.l)->(om acc n l c).all P
 |n,[],c,_=>by unfold om;trivial
 |0,_::_,_,_=>by unfold om;trivial
 |n+1,f::t,c,h=>by
  rw[om];refine⟨h f aQ,zb fun g hg=>?_,zb fun g hg=>?_⟩<;>
  ·obtain⟨q,hq,hg⟩:=cR.1 hg
   rw[PG hg];exact h q hq
def yu(n:Nat)(l:List aP):Prop:= ∃K:List ab,K.length<=n/\ ∀f∈l,∃m∈K,m.same f.l
def TV{m:ab}(hm:m.Ne):m.value m.base=0:=by
 have h:=p6 hm 0;rw[<-rD,io] at h;grind
def QF{l m:ab}(h:l.same m)(hm:m.Ne):s7 m l=true:=by
 unfold s7;rw[decide_eq_true_iff];refine⟨?_,?_⟩
 ·rcases h with rfl|rfl
  ·unfold crossI;omega
  ·unfold crossI ab.rev
   show(-l.a)*l.b-l.a*(-l.b)=0;grind
 ·rw[jf]
  exact Sf h.symm (TV hm)
def yu.split{n:Nat}{f:aP}{t:List aP}(h:yu (n+1) (f::t))(hok: ∀g∈f::t,ou g){side:Int}:yu n ((f::t).flatMap fun g=>lI g f.l side):=by
 obtain⟨K,hK,hs⟩:=h;refine⟨K.filter fun m=>!decide (m.same f.l),?_,fun g hg=>?_⟩
 ·obtain⟨m,hm,hm2⟩:=hs f aQ
  have:(K.filter fun m=>!decide (m.same f.l)).length<K.length:=by
   refine nS.2 ⟨m,hm,by simp[hm2]⟩
  omega
 ·obtain⟨q,hq,hg⟩:=cR.1 hg
  obtain⟨_,e,ho⟩:=IX (hok q hq) (hok f aQ).lb g hg;obtain⟨m,hm,hm2⟩:=hs q hq;refine⟨m,iK.2 ⟨hm,?_⟩,by rw[e];exact hm2⟩;simp only[gM,decide_eq_false_iff_not];intro h;have:=QF (h.symm.trans hm2) (hok q hq).ok.ne;rw[this] at ho;cases ho
def Pr{p q r:Bool}{a b c:Nat}(h:Nat.gcd a b≠0):ab.ok ⟨zv p (a/Nat.gcd (Nat.gcd a b) c),zv q (b/Nat.gcd (Nat.gcd a b) c),zv r (c/Nat.gcd (Nat.gcd a b) c)⟩:=by
 have hg:0<Nat.gcd (Nat.gcd a b) c:=kM _ (gW h);have d0:Nat.gcd (Nat.gcd a b) c∣Nat.gcd a b:=jZ _ _;have d1:Nat.gcd (Nat.gcd a b) c∣a:=oR d0 (jZ _ _);have d2:Nat.gcd (Nat.gcd a b) c∣b:=oR d0 (kJ _ _);have d3:Nat.gcd (Nat.gcd a b) c∣c:=kJ _ _;refine⟨?_,?_⟩
 ·rintro ⟨h1,h2⟩
  have h1':=congrArg Int.natAbs h1;have h2':=congrArg Int.natAbs h2;simp only[pg,Int.natAbs_zero] at h1' h2';have e1:=Nat.div_mul_cancel d1;have e2:=Nat.div_mul_cancel d2;rw[h1',kU] at e1;rw[h2',kU] at e2;exact h (by rw[<-e1,<-e2];rfl)
 ·simp only[pg]
  rw[Nat.gcd_div d1 d2,Nat.gcd_div d0 d3,Nat.div_self hg]
def C9(p:Bool)(a g:Nat):(zv p (a/g)).natAbs<=a:=by rw[pg];exact jW ..
def PF.eq{P:Program}{f:FuncId}{vs:List DV}{r r':DV}(h:PF GB P f vs r)(e:r=r'):PF GB P f vs r':=e▸h
def iP(m n:Int):aa:=⟨(m:Rat),(n:Rat)⟩
theorem H2{m:Int}{k:Nat}(h:m.natAbs<2^k):BI m k:=⟨h⟩
theorem ph{m:Int}{k:Nat}(h:m.natAbs<=1000)(hk:10<=k):BI m k:=⟨dZ (show m.natAbs<2^10 by omega) (bQ (by decide) hk)⟩
instance aw.int (m n:Int) (i:Nat) [h:BI m i] [k:BI n i]:aw (iP m n) (i+1):=⟨inferInstanceAs (BQ (m:Rat) (i+1)),inferInstanceAs (BQ (n:Rat) (i+1))⟩
def NB{p:aa}{m n:Int}(h1:p.x=(m:Rat))(h2:p.y=(n:Rat)):eP p=eP (iP m n):=by
 obtain⟨x,y⟩:=p;simp only at h1 h2;subst h1 h2;rfl
def fH(a b c:Int):ab:=
 ⟨zv (decide (a<0)) (a.natAbs/Nat.gcd (Nat.gcd a.natAbs b.natAbs) c.natAbs),zv (decide (b<0)) (b.natAbs/Nat.gcd (Nat.gcd a.natAbs b.natAbs) c.natAbs),zv (decide (c<0)) (c.natAbs/Nat.gcd (Nat.gcd a.natAbs b.natAbs) c.natAbs)⟩
def Sb{a b c:Int}(h: ¬(a=0/\b=0)):(fH a b c).ok:=
 Pr fun e=>h ⟨lS.1 (mU e),lS.1 (mK e)⟩
def FJ(a b c:Int):(fH a b c).a.natAbs<=a.natAbs/\(fH a b c).b.natAbs<=b.natAbs/\(fH a b c).c.natAbs<=c.natAbs:=⟨C9 ..,C9 ..,C9 ..⟩
def lu{m n:Int}(hm:m.natAbs<=1000)(hn:n.natAbs<=1000):PF GB prog 33 [.v (.int .i64 m), .v (.int .i64 n)] (eP (iP m n)):=by
 refine fn func33 J J ntmps33 J J (fun C=>?_);refine cl J (tW (n:=m) (by omega) (by omega)) J<|cl J (tW (n:=n) (by omega) (by omega)) J<|?_;exact rz J J
def IB{m n m' n' k:Int}(hm:m.natAbs<=1000)(hn:n.natAbs<=1000)(hm':m'.natAbs<=1000)(hn':n'.natAbs<=1000)(hk:k.natAbs<=1000):PF GB prog 37 [eP (iP m n),eQ (k:Rat),eP (iP m' n')] (eP (iP (m+k*m') (n+k*n'))):=by
 haveI:=ph (k:=10) hm (by decide);haveI:=ph (k:=10) hn (by decide);haveI:=ph (k:=10) hm' (by decide);haveI:=ph (k:=10) hn' (by decide);haveI:=ph (k:=10) hk (by decide);exact PF.eq (IK (p:=iP m n) (q:=iP m' n') (c:=(k:Rat))) (NB (by show(m:Rat)+(k:Rat)*(m':Rat)=_;push_cast;rfl) (by show(n:Rat)+(k:Rat)*(n':Rat)=_;push_cast;rfl))
def i9(n n':Int):Int:= -(n'-n)
def i6(m m':Int):Int:=m'-m
def n4(m n m' n':Int):Int:= -(i9 n n'*m+i6 m m'*n)
def iF(m n m' n':Int):ab:=fH (i9 n n') (i6 m m') (n4 m n m' n')
def KR{a b:Int}(ha:a.natAbs<=2000)(hb:b.natAbs<=1000):(a*b).natAbs<=2000000:=by
 rw[iX];exact mN ha hb
def Q8{es:List Int}{a:Nat}(h:a<es.length):(es.map vI)[(a:Int).toNat]? =some (vI es[a]):=by simp[h]
def aj(es:List Int)(n:Int)(a:Nat):Nat×Nat:=
 if h:a<es.length then((if Int.tmod es[a] n<0 then Int.tmod es[a] n+n else Int.tmod es[a] n).toNat,a+1) else(0,a)
def ir{es:List Int}{n:Int}{a:Nat}(hn:1<=n):((aj es n a).1:Int)<n:=by
 unfold aj;split
 ·rename_i h
  have q2:=Int.tmod_lt_of_pos es[a] (show 0<n by omega);dsimp only;split<;>omega
 ·exact hn
def ie{es:List Int}{n:Int}{a:Nat}(ha:a<=es.length):(aj es n a).2<=es.length:=by
 unfold aj;split
 ·assumption
 ·exact ha
def pF(es:List Int)(a:Nat):(Int×Int)×Nat:=((((aj es 9 a).1:Int)-4,((aj es 9 (aj es 9 a).2).1:Int)-4),(aj es 9 (aj es 9 a).2).2)
def vF(es:List Int)(a:Nat):(Int×Int)×Nat:=if(pF es a).1.1=0/\(pF es a).1.2=0 then((1,0),(pF es a).2) else pF es a
def lF(es:List Int)(a:Nat):ab×Nat:=(iF (pF es a).1.1 (pF es a).1.2 ((pF es a).1.1+1*(vF es (pF es a).2).1.1) ((pF es a).1.2+1*(vF es (pF es a).2).1.2),(vF es (pF es a).2).2)
def kz(es:List Int):Nat->Nat->Tr×Nat
 |0,a=>(.leaf (decide (((aj es 2 a).1:Int)=1)),(aj es 2 a).2)
 |d+1,a=>if((aj es 4 a).1:Int)=0 then(.leaf (decide (((aj es 2 (aj es 4 a).2).1:Int)=1)),(aj es 2 (aj es 4 a).2).2) else
  (.node (lF es (aj es 4 a).2).1 (kz es d (lF es (aj es 4 a).2).2).1 (kz es d (kz es d (lF es (aj es 4 a).2).2).2).1,(kz es d (kz es d (lF es (aj es 4 a).2).2).2).2)
def l8{b:Nat}{es:List Int}(hes:es.length<=400){a:Nat}(ha:a<=es.length){n:Int}(hn:1<=n)(hn2:n<=1000):PM GB prog 13 (jB [none,some (.v (.int .i64 n))] b) b 89 [.sl (es.map vI), .v (.int .i64 (a:Nat))] (.v (.int .i64 ((aj es n a).1:Nat))) [.sl (es.map vI), .v (.int .i64 ((aj es n a).2:Nat))]:=by
 have hel:(es.map vI).length=es.length:=by simp
 refine yz func13 J J ntmps13 J J (fun C b m lo hmb=>?_);refine br J J J (fun hc15=>?_) (fun hc15=>?_)
 .
  have hf:aj es n a=(0,a):=by unfold aj;rw[dif_neg (by omega)]
  exact pn hmb J J (by rw[hf]<;>rfl) (by rw[hf]<;>rfl)
 .
  have hal:a<es.length:=by omega
  obtain⟨e,he⟩: ∃e,e=es[a]:=⟨_,rfl⟩;have q2:=Int.tmod_lt_of_pos e (show 0<n by omega);have q3: -n<Int.tmod e n:=by have:=Int.lt_tmod_of_pos e (show 0<n by omega);omega
  refine ix (fu:=⟨1⟩) _ J (Q8 hal) J<|?_;refine ak 25 (.d (vI e)) J (by rw[he]<;>rfl) ?_;refine gx (hv:=by simp only[ah];exact⟨⟨by omega,by kernel_rfl⟩,by omega⟩) J<|?_;refine br J J J (fun hc36=>?_) (fun hc36=>?_)
  .
   have hf:aj es n a=((Int.tmod e n+n).toNat,a+1):=by unfold aj;rw[dif_pos hal,<-he,if_pos hc36]
   exact pn hmb J J (by rw[hf];show DV.v (.int .i64 _)=DV.v (.int .i64 _);rw[qR (by omega)]) (by rw[hf]<;>rfl)
  .
   have hf:aj es n a=((Int.tmod e n).toNat,a+1):=by unfold aj;rw[dif_pos hal,<-he,if_neg hc36]
   exact pn hmb J J (by rw[hf];show DV.v (.int .i64 _)=DV.v (.int .i64 _);rw[qR (by omega)]) (by rw[hf]<;>rfl)
abbrev ZP:=Int×Int
def ZP.q(p:ZP):aa:=iP p.1 p.2
def ZP.le(k:Nat)(p:ZP):Prop:=p.1.natAbs<=k/\p.2.natAbs<=k
def lA(p q:ZP):ZP:=(p.1+1*q.1,p.2+1*q.2)
def gE(u v:ZP):Int:=u.1*v.2-u.2*v.1
theorem VF{m n p q:Int}(hm:m.natAbs<=1000)(hn:n.natAbs<=1000)(hp:p.natAbs<=1000)(hq:q.natAbs<=1000)(h: ¬(p=m/\q=n)):LB (iF m n p q)/\(iF m n p q).ok:=by
 have e1:(i9 n q).natAbs<=2000:=by unfold i9;omega
 have e2:(i6 m p).natAbs<=2000:=by unfold i6;omega
 have e3:=KR e1 hm;have e4:=KR e2 hn;have e5:(n4 m n p q).natAbs<=4000000:=by unfold n4;omega
 unfold iF;obtain⟨k1,k2,k3⟩:=FJ (i9 n q) (i6 m p) (n4 m n p q);have hb:(2:Nat)^96=79228162514264337593543950336:=by decide
 refine⟨⟨⟨?_,?_,?_⟩⟩,Sb ?_⟩
 ·rw[hb];omega
 ·rw[hb];omega
 ·rw[hb];omega
 ·unfold i9 i6;omega
def ba(v w:ZP):aP:=⟨iF v.1 v.2 w.1 w.2,⟨co (iF v.1 v.2 w.1 w.2) v.q,co (iF v.1 v.2 w.1 w.2) w.q,false,false⟩⟩
def ci(r:List ZP)(i:Nat):ZP:=r.getD ((i+1)%r.length) (0,0)
def jF(r:List ZP):Nat->List aP
 |0=>[]
 |k+1=>jF r k++[ba (r.getD k (0,0)) (ci r k)]
def i4(r:List ZP):List aP:=jF r r.length
structure cB (r:List ZP):Prop where
 n3:3<=r.length
 n6:r.length<=6
 le: ∀p∈r,ZP.le 100 p
 ne: ∀i<r.length,r.getD i (0,0)≠ci r i
def rm{r:List ZP}{i:Nat}(h:i<r.length):r.getD i (0,0)∈r:=by
 rw[aJ,aX h];exact gL h
def vo{r:List ZP}{i:Nat}(h:i<r.length):ci r i∈r:=rm (cS _ (by omega))
theorem BQ.int1200{m:Int}(h:m.natAbs<=1000):BQ (m:Rat) 1200:=by
 haveI:BI m 11:=ph h (by decide);exact BQ.mono (inferInstance:BQ (m:Rat) 12) (by decide)
theorem I6{l:ab}(hl:LB l)(ho:l.ok){m n:Int}(hm:m.natAbs<=1000)(hn:n.natAbs<=1000):BQ (co l (iP m n)) 1200:=by
 haveI:=ph (k:=11) hm (by decide);haveI:=ph (k:=11) hn (by decide);have hd:=wP ho.ne;have hA:BI (l.a*l.a+l.b*l.b) _:=inferInstance;have hB:BI (m*l.b-n*l.a) _:=inferInstance;have hA':=yT (j:=1200) hA (by decide);have hB':=yT (j:=1200) hB (by decide);have e1:l.dir.dot l.dir=((l.a*l.a+l.b*l.b:Int):Rat):=by
  rw[nW,cY,cY];simp only[ab.dir,aa.dot];grind
 have e2:(iP m n).dot l.dir=((m*l.b-n*l.a:Int):Rat):=by
  rw[lQ,cY,cY];simp only[ab.dir,aa.dot,iP];grind
 have hd':((0:Int):Rat)<((l.a*l.a+l.b*l.b:Int):Rat):=by rw[<-e1];exact hd
 unfold co;rw[e2,e1];clear hA hB e1 e2;generalize l.a*l.a+l.b*l.b=D at*;generalize m*l.b-n*l.a=M at*;have hD:0<D:=Rat.intCast_lt_intCast.1 hd';refine BQ.of_fracI (n:=M) (D:=D) (by omega) ?_ hB' hA';have h0:(D:Rat)≠0:=fun e=>by rw[e] at hd';exact absurd hd' (by decide)
 have:((D.natAbs:Nat):Rat)=(D:Rat):=by
  have h1:((D.natAbs:Nat):Int)=D:=by omega
  rw[<-h1];rfl
 rw[this];grind
def GA{v w:ZP}(hv:ZP.le 100 v)(hw:ZP.le 100 w)(h:v≠w):ou (ba v w):=by
 obtain⟨h1,h2⟩:=VF (m:=v.1) (n:=v.2) (p:=w.1) (q:=w.2) (by have:=hv.1;omega) (by have:=hv.2;omega) (by have:=hw.1;omega) (by have:=hw.2;omega) (fun e=>h (Prod.ext e.1.symm e.2.symm));exact⟨h1,h2,⟨fun e=>(by cases e),fun e=>(by cases e)⟩,I6 h1 h2 (by have:=hv.1;omega) (by have:=hv.2;omega),I6 h1 h2 (by have:=hw.1;omega) (by have:=hw.2;omega)⟩
def I3{r:List ZP}(h:cB r): ∀{k:Nat},k<=r.length->(jF r k).length=k/\ ∀f∈jF r k,ou f
 |0,_=>⟨J,fun f hf=>by cases hf⟩
 |k+1,hk=>by
  obtain⟨h1,h2⟩:=I3 h (k:=k) (by omega);rw[jF];refine⟨by simp[h1],fun f hf=>?_⟩;rcases bL.1 hf with hf|hf
  ·exact h2 f hf
  ·rw[aV] at hf;subst hf
   exact GA (h.le _ (rm (by omega))) (h.le _ (vo (by omega))) (h.ne k (by omega))
def sN{r:List ZP}(h:cB r):(i4 r).length=r.length/\ ∀f∈i4 r,ou f:=I3 h (aN _)
def bz(rs:List (List ZP)):List aP:=rs.flatMap i4
def qq: ∀{rs:List (List ZP)},(∀r∈rs,cB r)->(bz rs).length<=6*rs.length/\ ∀f∈bz rs,ou f
 |[],_=>⟨aN _,fun f hf=>by cases hf⟩
 |r::rs,h=>by
  obtain⟨h1,h2⟩:=qq (rs:=rs) fun q hq=>h q (aZ _ hq);obtain⟨k1,k2⟩:=sN (h r aQ);have:=(h r aQ).n6;unfold bz at*;rw[List.flatMap_cons];refine⟨by rw[cZ,k1,bS];omega,fun f hf=>?_⟩;rcases bL.1 hf with hf|hf
  ·exact k2 f hf
  ·exact h2 f hf
def mG(a b c:aa):Int:=(aa.cross (aG b a (-1)) (aG c a (-1))).num.sign
def Dl(v w p:aa):Int:=
 (if ce v.y p.y<=0/\ ¬ce w.y p.y<=0/\0<mG v w p then 1 else 0)-(if¬ce v.y p.y<=0/\ce w.y p.y<=0/\mG v w p<0 then 1 else 0)
def vr(r:List ZP)(p:aa):Nat->Int
 |0=>0
 |k+1=>vr r p k+Dl (r.getD k (0,0)).q (ci r k).q p
def im(r:List ZP)(p:aa):Int:=vr r p r.length
def iu(fill n:Int):Bool:=(decide (fill=1)&&decide (n.tmod 2≠0))||(decide (fill=2)&&decide (n≠0))
def fi(rs:List (List ZP))(fill:Int)(p:aa):Bool:=iu fill (rs.foldl (fun n r=>n+im r p) 0)
def qf(rs:List (List ZP))(fill:Int):Tr:=om (fi rs fill) (bz rs).length (bz rs) []
def gv(rs:List (List ZP))(fill:Int):Tr:=(qf rs fill).restrict []
structure Qz (k:Nat) (t:Tr):Prop where
 gd:t.gd
 dp:t.depth<=k
 am: ∃K:List ab,K.length<=k/\(∀l∈K,l.ok)/\P3 K t
def F7(p q:ZP):Int:=if p.1<q.1 then-1 else if q.1<p.1 then 1 else if p.2<q.2 then-1 else if q.2<p.2 then 1 else 0
def JV(x:ZP):List ZP->List ZP
 |[]=>[x]
 |u::t=>if F7 u x<0 then u::JV x t else if F7 u x=0 then u::t else x::u::t
def Nk(l:List ZP):List ZP:=l.foldl (fun out x=>JV x out) []
def jn(a b c d:Int):List ZP:=[(a,b),(c,b),(c,d),(a,d)]
def IT{r:List ZP}{i:Nat}(h:i+1<r.length):ci r i=r.getD (i+1) (0,0):=by unfold ci;rw[dY h]
def L4{r:List ZP}{i:Nat}(h:i+1=r.length):ci r i=r.getD 0 (0,0):=by unfold ci;rw[h,Nat.mod_self]
def F5{a b c d:Int}(h1:a.natAbs<=50)(h2:b.natAbs<=50)(h3:c.natAbs<=50)(h4:d.natAbs<=50)(h5:a<c)(h6:b<d):cB (jn a b c d):=by
 refine⟨by simp[jn],by simp[jn],fun p hp=>?_,fun i hi=>?_⟩
 ·simp only[jn,aU,jS,or_false] at hp
  rcases hp with rfl|rfl|rfl|rfl<;>exact⟨by dsimp only;omega,by dsimp only;omega⟩
 ·have:i=0\/i=1\/i=2\/i=3:=by simp[jn] at hi;omega
  rcases this with rfl|rfl|rfl|rfl<;>simp[jn,ci]<;>omega
def fp(p u v:ZP):List ZP:=[p,lA p u,lA p v]
def OA{p u v:ZP}(h1:ZP.le 40 p)(h2:ZP.le 40 u)(h3:ZP.le 40 v)(h:gE u v≠0):cB (fp p u v):=by
 obtain⟨p1,p2⟩:=p;obtain⟨u1,u2⟩:=u;obtain⟨v1,v2⟩:=v;unfold ZP.le at h1 h2 h3;dsimp only at h1 h2 h3;unfold gE at h;dsimp only at h;refine⟨by simp[fp],by simp[fp],fun p hp=>?_,fun i hi=>?_⟩
 ·simp only[fp,lA,aU,jS,or_false] at hp
  rcases hp with rfl|rfl|rfl<;>exact⟨by dsimp only;omega,by dsimp only;omega⟩
 ·have:i=0\/i=1\/i=2:=by simp[fp] at hi;omega
  have hu: ¬(u1=0/\u2=0):=fun e=>h (by rw[e.1,e.2];simp);have hv: ¬(v1=0/\v2=0):=fun e=>h (by rw[e.1,e.2];simp);have huv: ¬(u1=v1/\u2=v2):=fun e=>h (by rw[e.1,e.2,Int.mul_comm];omega);rcases this with rfl|rfl|rfl<;>simp[fp,lA,ci]<;>omega
def yM(es:List Int):Nat->Nat->List ZP->List ZP×Nat
 |0,a,out=>(out,a)
 |n+1,a,out=>yM es n (pF es a).2 (if out.getLast? =some (pF es a).1 then out else out++[(pF es a).1])
structure YB (r:List ZP):Prop where
 ne: ∀i,i+1<r.length->r.getD i (0,0)≠r.getD (i+1) (0,0)
 le: ∀p∈r,ZP.le 100 p
def Em:Nat->List ZP->List ZP
 |0,l=>l
 |n+1,l=>if 1<l.length/\l.getD 0 (0,0)=l.getD (l.length-1) (0,0) then Em n l.dropLast else l
def Wx:List ZP:=[(0,0),(2,0),(0,2)]
def H8(es:List Int)(a:Nat):List ZP×Nat:=
 ((if(Nk (Em 6 (yM es (3+(aj es 4 a).1) (aj es 4 a).2 []).1)).length<3 then Wx else Em 6 (yM es (3+(aj es 4 a).1) (aj es 4 a).2 []).1),(yM es (3+(aj es 4 a).1) (aj es 4 a).2 []).2)
def vb(es:List Int)(n m k:Int)(a:Nat):List ZP×Nat:=
 let x:=aj es n a
 let y:=aj es n x.2
 let z:=aj es m y.2
 let w:=aj es m z.2
 (jn ((x.1:Int)-k) ((y.1:Int)-k) ((x.1:Int)-k+1+z.1) ((y.1:Int)-k+1+w.1),w.2)
def Nw{es:List Int}{n m k:Int}{a:Nat}(ha:a<=es.length)(hn:1<=n)(hn2:n<=10)(hm:1<=m)(hm2:m<=10)(hk:0<=k)(hk2:k<=10):cB (vb es n m k a).1/\(vb es n m k a).2<=es.length:=by
 have h1:=ir (es:=es) (a:=a) hn;have h2:=ir (es:=es) (a:=(aj es n a).2) hn;have h3:=ir (es:=es) (a:=(aj es n (aj es n a).2).2) hm;have h4:=ir (es:=es) (a:=(aj es m (aj es n (aj es n a).2).2).2) hm;exact⟨F5 (by omega) (by omega) (by omega) (by omega) (by omega) (by omega),ie (ie (ie (ie ha)))⟩
def Fq(es:List Int)(a:Nat):List ZP×Nat:=
 let k:=aj es 4 a
 if(k.1:Int)=0 then vb es 5 4 4 k.2
 else if(k.1:Int)=1 then
  let p:=pF es k.2
  let u:=vF es p.2
  let v:=vF es u.2
  if gE u.1 v.1≠0 then(fp p.1 u.1 v.1,v.2) else H8 es v.2
 else H8 es k.2
def yZ:List ZP:=[(0,0),(1,0),(0,1)]
def Ej:cB yZ:=⟨by decide,by decide,fun p hp=>by
  simp only[yZ,aU,jS,or_false] at hp;rcases hp with rfl|rfl|rfl<;>exact⟨by decide,by decide⟩,fun i hi=>by
  have:i=0\/i=1\/i=2:=by simp[yZ] at hi;omega
  rcases this with rfl|rfl|rfl<;>decide⟩
def gI(es:List Int)(a:Nat):List ZP×Nat:=
 let k:=aj es 2 a
 if(k.1:Int)=0 then vb es 3 2 1 k.2
 else
  let x:=aj es 3 k.2
  let y:=aj es 3 x.2
  let u1:=aj es 2 y.2
  let u2:=aj es 3 u1.2
  let v1:=aj es 3 u2.2
  let v2:=aj es 2 v1.2
  (if 0<gE (1+(u1.1:Int),(u2.1:Int)-1) ((v1.1:Int)-1,1+(v2.1:Int)) then fp ((x.1:Int)-1,(y.1:Int)-1) (1+(u1.1:Int),(u2.1:Int)-1) ((v1.1:Int)-1,1+(v2.1:Int)) else yZ,v2.2)
def AO{es:List Int}{a:Nat}(ha:a<=es.length):cB (gI es a).1/\(gI es a).2<=es.length:=by
 have h0:=ie (n:=2) ha;unfold gI;dsimp only;split
 ·exact Nw h0 (by decide) (by decide) (by decide) (by decide) (by decide) (by decide)
 ·generalize hk:(aj es 2 a).2=k at*
  have e1:=ir (es:=es) (n:=3) (a:=k) (by decide);have f1:=ie (n:=3) h0;generalize hx:aj es 3 k=x at*;have e2:=ir (es:=es) (n:=3) (a:=x.2) (by decide);have f2:=ie (n:=3) f1;generalize hy:aj es 3 x.2=y at*;have e3:=ir (es:=es) (n:=2) (a:=y.2) (by decide);have f3:=ie (n:=2) f2;generalize hu:aj es 2 y.2=u1 at*;have e4:=ir (es:=es) (n:=3) (a:=u1.2) (by decide);have f4:=ie (n:=3) f3;generalize hu2:aj es 3 u1.2=u2 at*;have e5:=ir (es:=es) (n:=3) (a:=u2.2) (by decide);have f5:=ie (n:=3) f4;generalize hv:aj es 3 u2.2=v1 at*;have e6:=ir (es:=es) (n:=2) (a:=v1.2) (by decide);have f6:=ie (n:=2) f5;generalize hv2:aj es 2 v1.2=v2 at*;refine⟨?_,f6⟩;split
  ·rename_i hc
   exact OA ⟨by dsimp only;omega,by dsimp only;omega⟩ ⟨by dsimp only;omega,by dsimp only;omega⟩ ⟨by dsimp only;omega,by dsimp only;omega⟩ (by omega)
  ·exact Ej
def sf(es:List Int)(a:Nat):Tr×Nat:=
 let r:=Fq es a
 let k:=aj es 3 r.2
 if(k.1:Int)=0 then
  let s:=Fq es k.2
  let f:=aj es 2 s.2
  (gv [r.1,s.1] (1+(f.1:Int)),f.2)
 else
  let f:=aj es 2 k.2
  (gv [r.1] (1+(f.1:Int)),f.2)
def Ez(l:ab):Tr:=(Tr.node l (.leaf true) (.leaf false)).restrict []
def qi(es:List Int):Nat->Nat->Tr×Nat
 |0,a=>
  let k:=aj es 6 a
  if(k.1:Int)=1 then(Ez (lF es k.2).1,(lF es k.2).2)
  else if(k.1:Int)=2 then((kz es 3 k.2).1.restrict [],(kz es 3 k.2).2)
  else if(k.1:Int)=3 then((sf es k.2).1.compl,(sf es k.2).2)
  else sf es k.2
 |d+1,a=>
  let k:=aj es 6 a
  if(k.1:Int)=0 then
   let x:=qi es d k.2
   let o:=aj es 4 x.2
   let y:=qi es d o.2
   (x.1.mergeQ (1+(o.1:Int)) y.1 [],y.2)
  else if(k.1:Int)=1 then(Ez (lF es k.2).1,(lF es k.2).2)
  else if(k.1:Int)=2 then((kz es 3 k.2).1.restrict [],(kz es 3 k.2).2)
  else if(k.1:Int)=3 then((sf es k.2).1.compl,(sf es k.2).2)
  else sf es k.2
def Yi(es:List Int)(a:Nat):Tr×Nat:=
 let k:=aj es 4 a
 if(k.1:Int)=0 then(Ez (lF es k.2).1,(lF es k.2).2)
 else if(k.1:Int)=1 then((kz es 2 k.2).1.restrict [],(kz es 2 k.2).2)
 else(gv [(gI es k.2).1] 2,(gI es k.2).2)
def EA(op:Int)(a b:Tr):Bool:=decide ((a.mergeQ op b []).isLeaf=true/\(a.mergeQ op b []).code=false)
def XZ(a b:Tr):Int:=if EA 4 a b then 0 else if EA 3 a b then-1 else if EA 3 b a then 1 else 2
def rP:Tr->aa->Bool
 | .leaf b,_=>b
 | .node l x y,p=>if(l.value p).num.sign=1 then rP x p else if(l.value p).num.sign= -1 then rP y p else false
def CG(t:Tr):List bw:=((t.parts []).filter (·.1)).map (·.2)
def Ls(l:ab)(p:aa):bw->Rat->Rat
 |[],f=>f
 |s::c,f=>Ls l p c (if Int.sign (s.l.nor.dot l.nor).num<0 then(if-(s.l.value p/s.l.nor.dot l.nor)<f then-(s.l.value p/s.l.nor.dot l.nor) else f) else f)
def aEb:bw->aa
 |[]=>⟨0,0⟩
 |s::c=>aG (s.l.at s.v.sample) s.l.nor (Ls s.l (s.l.at s.v.sample) c 1*mkRat 1 2)
def FT{v k:Rat}(hk:k<0)(hv:0<v):0< -(v/k):=by
 have e: -(v/k)* -k=v:=by grind
 exact(eO (k:= -k) (by grind)).1 (by rw[e];exact hv)
def gi:Tr->aa->aa->Bool×Bool
 | .leaf b,_,_=>(b,true)
 | .node l x y,p,v=>match (if(l.value p).num.sign=0 then(l.dir.cross v).num.sign else(l.value p).num.sign) with
  |1=>gi x p v
  | -1=>gi y p v
  |_=>(false,false)
def uv(l:ab)(v:aa):l.dir.cross v=l.nor.dot v:=by
 unfold ab.dir ab.nor aa.cross aa.dot;grind
def Gn(L:List ab)(p v:aa):Prop:= ∀l∈L,l.value p=0->l.nor.dot v≠0
def VP{l:ab}{p v:aa}(h:l.value p=0->l.nor.dot v≠0): ∃e:Rat,0<e/\ ∀d,0<d->d<=e->(0<l.value (aG p v d)↔0<l.value p\/(l.value p=0/\0<l.nor.dot v))/\(l.value (aG p v d)<0↔l.value p<0\/(l.value p=0/\l.nor.dot v<0)):=by
 generalize hk:l.nor.dot v=k at*;by_cases h0:l.value p=0
 ·have hk0:=h h0
  refine⟨1,by decide,fun d h1 _=>?_⟩;rw[io,hk,h0];rcases dF k with e|e|e
  ·exact absurd e hk0
  ·have:=bj h1 e;grind
  ·have:=bj (a:=d) (b:= -k) h1 (by grind);grind
 ·have key: ∀w:Rat,0<w-> ∃e:Rat,0<e/\ ∀d,0<d->d<=e-> ∀j:Rat,(j=k\/j= -k)->0<w+d*j:=fun w hw=>by
   have hA: ∃A:Rat,0<A/\k<=A/\ -k<=A:=by
    rcases dF k with e|e|e
    ·exact⟨1,by decide,by grind,by grind⟩
    ·exact⟨k,e,by grind,by grind⟩
    ·exact⟨-k,by grind,by grind,by grind⟩
   obtain⟨A,a1,a2,a3⟩:=hA;refine⟨w/(2*A),?_,fun d d1 d2 j hj=>?_⟩
   ·have e1:w/(2*A)*(2*A)=w:=by grind
    exact(eO (k:=2*A) (by grind)).1 (by rw[e1];exact hw)
   ·have e1:w/(2*A)*(2*A)=w:=by grind
    generalize w/(2*A)=f at*;have h1:=bE (a:=f-d) (b:=A) (by grind) (by grind);have h2:=bE (a:=d) (b:=A+j) (by grind) (by rcases hj with rfl|rfl<;>grind);grind
  rcases dF (l.value p) with e|e|e
  ·exact absurd e h0
  ·obtain⟨f,f1,f2⟩:=key _ e
   refine⟨f,f1,fun d d1 d2=>?_⟩;have:=f2 d d1 d2 k (.inl J);rw[io,hk];grind
  ·obtain⟨f,f1,f2⟩:=key (-l.value p) (by grind)
   refine⟨f,f1,fun d d1 d2=>?_⟩;have:=f2 d d1 d2 (-k) (.inr J);rw[io,hk];grind
def Ae: ∀{t:Tr} {p v:aa},Gn t.lns p v-> ∃e:Rat,0<e/\ ∀d,0<d->d<=e->iD t.lns (aG p v d)/\gi t p v=(t.val (aG p v d),true)
 | .leaf b,p,v,_=>⟨1,by decide,fun d _ _=>⟨fun l hl=>(by cases hl),J⟩⟩
 | .node l x y,p,v,h=>by
  obtain⟨e1,a1,b1⟩:=VP (h l aQ);obtain⟨e2,a2,b2⟩:=Ae (t:=x) (p:=p) (v:=v) (fun m hm=>h m (aZ _ (bU _ hm)));obtain⟨e3,a3,b3⟩:=Ae (t:=y) (p:=p) (v:=v) (fun m hm=>h m (aZ _ (cJ _ hm)));have hgn:=h l aQ;have hm: ∃e:Rat,0<e/\e<=e1/\e<=e2/\e<=e3:=by
   by_cases h1:e1<=e2
   ·by_cases h2:e1<=e3
    ·exact⟨e1,a1,by grind,h1,h2⟩
    ·exact⟨e3,a3,by grind,by grind,by grind⟩
   ·by_cases h2:e2<=e3
    ·exact⟨e2,a2,by grind,by grind,h2⟩
    ·exact⟨e3,a3,by grind,by grind,by grind⟩
  obtain⟨e,h0,h1,h2,h3⟩:=hm;refine⟨e,h0,fun d d1 d2=>?_⟩;obtain⟨c1,c2⟩:=b1 d d1 (by grind);obtain⟨o2,w2⟩:=b2 d d1 (by grind);obtain⟨o3,w3⟩:=b3 d d1 (by grind);have hs:(if(l.value p).num.sign=0 then(l.dir.cross v).num.sign else(l.value p).num.sign)=if 0<l.value (aG p v d) then 1 else-1:=by
   rw[uv];by_cases hz:l.value p=0
   ·rw[if_pos ((jf _).2 hz)]
    split
    ·rename_i hp
     exact(iH _).2 (by rcases c1.1 hp with k|k;exact absurd k (by grind);exact k.2)
    ·rename_i hp
     have:l.nor.dot v<0:=by have:=hgn hz;have: ¬0<l.nor.dot v:=fun e=>hp (c1.2 (.inr ⟨hz,e⟩));grind
     exact Int.sign_eq_neg_one_iff_neg.2 (by have:=(lm _).2 this;rcases kX (l.nor.dot v).num 0 with q|q|q;exact q;rw[q] at this;simp at this;rw[dT q] at this;simp at this)
   ·rw[if_neg (fun e=>hz ((jf _).1 e))]
    split
    ·rename_i hp
     exact(iH _).2 (by rcases c1.1 hp with k|k;exact k;exact absurd k.1 hz)
    ·rename_i hp
     have:l.value p<0:=by have: ¬0<l.value p:=fun e=>hp (c1.2 (.inl e));grind
     exact Int.sign_eq_neg_one_iff_neg.2 (by have:=(lm _).2 this;rcases kX (l.value p).num 0 with q|q|q;exact q;rw[q] at this;simp at this;rw[dT q] at this;simp at this)
  have hz:l.value (aG p v d)≠0:=fun e=>by
   rcases dF (l.value p) with q|q|q
   ·rcases dF (l.nor.dot v) with r|r|r
    ·exact hgn q r
    ·have:=c1.2 (.inr ⟨q,r⟩);grind
    ·have:=c2.2 (.inr ⟨q,r⟩);grind
   ·have:=c1.2 (.inl q);grind
   ·have:=c2.2 (.inl q);grind
  refine⟨fun m hm=>?_,?_⟩
  ·rcases aU.1 hm with rfl|hm
   ·exact hz
   ·exact(bL.1 hm).elim (o2 m) (o3 m)
  ·rw[gi,hs]
   by_cases hp:0<l.value (aG p v d)
   ·rw[if_pos hp,Tr.val_pos hp];exact w2
   ·rw[if_neg hp,Tr.val_neg hp];exact w3
def Ya(x:Bool×bw):DV:= .ag [.sl (x.2.map cC),eU (.leaf x.1)]
def Gt{q:Rat}{i:Nat}[h:BQ q i](hi:i<=900000000:=by decide):PF GB prog 122 [eF q] (eR q):=by
 refine fn func122 J J ntmps122 J J (fun C=>?_);refine cl J (sK (q:=q) (i:=i) hi) J<|cl J (oc (q:=q) (i:=i) hi) J<|?_;exact rz J J
def Oi{p:aa}{i:Nat}[h:aw p i](hi:i<=900000000:=by decide):PF GB prog 71 [eZ p] (jI p):=by
 refine fn func71 J J ntmps71 J J (fun C=>?_);refine cl J (Gt (q:=p.x) (i:=i) hi) J<|cl J (Gt (q:=p.y) (i:=i) hi) J<|?_;exact rz J J
def eC(c:bw):DV:= .sl (c.map cC)
def X6(ps:List (Bool×bw)):List bw:=(ps.filter (·.1)).map (·.2)
def jj(p:aa):(p.half=1/\(0<p.y\/(p.y=0/\0<p.x)))\/(p.half=2/\(p.y<0\/(p.y=0/\p.x<0)))\/(p.half=0/\p.y=0/\p.x=0):=by
 unfold aa.half;simp only[jD,lm,jf];split
 ·rename_i h;exact .inl ⟨rfl,h⟩
 ·rename_i h
  split
  ·rename_i h2
   exact .inr (.inl ⟨J,by grind⟩)
  ·rename_i h2
   exact .inr (.inr ⟨J,by grind,by grind⟩)
def lH{p:aa}:p.half=1↔(0<p.y\/(p.y=0/\0<p.x)):=by
 rcases jj p with⟨h,k⟩|⟨h,k⟩|⟨h,k⟩<;>rw[h]<;>grind
def nn{p:aa}:p.half=2↔(p.y<0\/(p.y=0/\p.x<0)):=by
 rcases jj p with⟨h,k⟩|⟨h,k⟩|⟨h,k⟩<;>rw[h]<;>grind
def cd(u v:aa):Prop:=u.half<v.half\/(u.half=v.half/\0<u.cross v)
def o9{u v:aa}:cA u v<0↔cd u v:=by
 unfold cA cd;split
 ·rename_i h;exact⟨fun _=> .inl h,fun _=>by decide⟩
 ·rename_i h
  split
  ·rename_i h2;exact⟨fun e=>absurd e (by decide),fun e=>by omega⟩
  ·rename_i h2
   have e:u.half=v.half:=by omega
   rw[<-jD];constructor
   ·intro k;exact .inr ⟨e,by omega⟩
   ·rintro (k|⟨_,k⟩)
    ·omega
    ·omega
def bc(d:aa):aa:=⟨-d.x, -d.y⟩
def po{d:aa}(h:d.half≠0):(bc d).half=3-d.half:=by
 rcases jj d with⟨e,k⟩|⟨e,k⟩|⟨e,k⟩
 ·rw[e];exact nn.2 (by unfold bc;grind)
 ·rw[e];exact lH.2 (by unfold bc;grind)
 ·exact absurd e h
def fq{d:aa}(h:d.half≠0):d.half=1\/d.half=2:=by
 rcases jj d with⟨e,_⟩|⟨e,_⟩|⟨e,_⟩
 ·exact .inl e
 ·exact .inr e
 ·exact absurd e h
def lw(ds:List aa)(u w:aa):Prop:=(cd u w/\ ∀d∈ds,¬(cd u d/\cd d w))\/((∀d∈ds,¬cd u d)/\ ∀d∈ds,¬cd d w)
structure r8 (ds:List aa):Prop where
 nz: ∀d∈ds,d.half≠0
 neg: ∀d∈ds,bc d∈ds
def zI(u:aa):u.cross u=0:=by unfold aa.cross;grind
def eE(u v:aa):v.cross u= -u.cross v:=by unfold aa.cross;grind
def kA(u v:aa):u.cross (bc v)= -u.cross v:=by unfold aa.cross bc;grind
def lw.spec{ds:List aa}{u w:aa}(h:r8 ds)(hu:u∈ds)(hw:w∈ds)(hn:lw ds u w):
  (u.half=w.half/\0<u.cross w/\ ∀d∈ds,¬(cd u d/\cd d w))\/(u.half≠w.half/\(∀d∈ds,d.half=u.half->0<=d.cross u)/\ ∀d∈ds,d.half=w.half->0<=w.cross d):=by
 have zu:=fq (h.nz u hu);have zw:=fq (h.nz w hw);rcases hn with⟨h1,h2⟩|⟨h1,h2⟩
 ·rcases h1 with k|⟨k,k2⟩
  ·refine .inr ⟨by omega,fun d hd e=>?_,fun d hd e=>?_⟩
   ·have:=h2 d hd
    rw[eE];by_cases hc:0<u.cross d
    ·exact absurd ⟨.inr ⟨e.symm,hc⟩, .inl (by omega)⟩ this
    ·grind
   ·have:=h2 d hd
    by_cases hc:0<d.cross w
    ·exact absurd ⟨.inl (by omega), .inr ⟨e,hc⟩⟩ this
    ·rw[eE] at hc;grind
  ·exact .inl ⟨k,k2,h2⟩
 ·have nu:=po (h.nz u hu)
  have a1:=h1 _ (h.neg u hu);have a2:=h2 _ (h.neg u hu);unfold cd at a1 a2;rw[nu] at a1 a2;refine .inr ⟨fun e=>?_,fun d hd e=>?_,fun d hd e=>?_⟩
  ·rcases zu with z|z
   ·exact a1 (.inl (by omega))
   ·exact a2 (.inl (by omega))
  ·have:=h1 d hd
   rw[eE];by_cases hc:0<u.cross d
   ·exact absurd (.inr ⟨e.symm,hc⟩) this
   ·grind
  ·have:=h2 d hd
   by_cases hc:0<d.cross w
   ·exact absurd (.inr ⟨e,hc⟩) this
   ·rw[eE] at hc;grind
def lw.pos{ds:List aa}{u w:aa}(h:r8 ds)(hu:u∈ds)(hw:w∈ds)(hn:lw ds u w):0<=u.cross w:=by
 rcases hn.spec h hu hw with⟨_,h2,_⟩|⟨h1,h2,h3⟩
 ·grind
 ·have:=h3 _ (h.neg u hu) (by rw[po (h.nz u hu)];have:=fq (h.nz u hu);have:=fq (h.nz w hw);omega)
  rw[kA] at this;rw[eE];exact this
def fk(a b:Rat)(u w:aa):aa:=⟨a*u.x+b*w.x,a*u.y+b*w.y⟩
def JR{a b:Rat}{u w:aa}:u.cross (fk a b u w)=b*u.cross w/\(fk a b u w).cross w=a*u.cross w:=by
 unfold aa.cross fk;constructor<;>grind
def E4{a b:Rat}{u w:aa}(ha:0<a)(hb:0<b)(h:u.half=w.half)(hz:u.half≠0):(fk a b u w).half=u.half:=by
 rcases jj u with⟨e,k⟩|⟨e,k⟩|⟨e,k⟩
 ·rw[e] at h⊢
  have k2:=lH.1 h.symm;refine lH.2 ?_;unfold fk;simp only;have p1: ∀z:Rat,0<z->0<a*z:=fun z hz=>bj ha hz;have p2: ∀z:Rat,0<z->0<b*z:=fun z hz=>bj hb hz;rcases k with k|⟨k,k'⟩<;>rcases k2 with l|⟨l,l'⟩
  ·have:=p1 _ k;have:=p2 _ l;grind
  ·have:=p1 _ k;rw[l];grind
  ·have:=p2 _ l;rw[k];grind
  ·have:=p1 _ k';have:=p2 _ l';rw[k,l];grind
 ·rw[e] at h⊢
  have k2:=nn.1 h.symm;refine nn.2 ?_;unfold fk;simp only;have p1: ∀z:Rat,z<0->a*z<0:=fun z hz=>by have:=bj (a:=a) (b:= -z) ha (by grind);grind
  have p2: ∀z:Rat,z<0->b*z<0:=fun z hz=>by have:=bj (a:=b) (b:= -z) hb (by grind);grind
  rcases k with k|⟨k,k'⟩<;>rcases k2 with l|⟨l,l'⟩
  ·have:=p1 _ k;have:=p2 _ l;grind
  ·have:=p1 _ k;rw[l];grind
  ·have:=p2 _ l;rw[k];grind
  ·have:=p1 _ k';have:=p2 _ l';rw[k,l];grind
 ·exact absurd e hz
def lw.none{ds:List aa}{u w:aa}(h:r8 ds)(hu:u∈ds)(hw:w∈ds)(hn:lw ds u w)(hc:u.cross w≠0){a b:Rat}(ha:0<a)(hb:0<b):fk a b u w∉ds:=fun hd=>by
 have hp:=hn.pos h hu hw;have hp:0<u.cross w:=by grind
 obtain⟨c1,c2⟩:=JR (a:=a) (b:=b) (u:=u) (w:=w);have d1:0<u.cross (fk a b u w):=by rw[c1];exact bj hb hp
 have d2:0<(fk a b u w).cross w:=by rw[c2];exact bj ha hp
 have zu:=fq (h.nz u hu);have zw:=fq (h.nz w hw);have zd:=fq (h.nz _ hd);rcases hn.spec h hu hw with⟨h1,_,h3⟩|⟨h1,h2,h3⟩
 ·have e:=E4 ha hb h1 (h.nz u hu)
  exact h3 _ hd ⟨.inr ⟨e.symm,d1⟩, .inr ⟨e.trans h1,d2⟩⟩
 ·rcases(show(fk a b u w).half=u.half\/(fk a b u w).half=w.half by omega) with e|e
  ·have:=h2 _ hd e
   rw[eE] at this;grind
  ·have:=h3 _ hd e
   rw[eE] at this;grind
def qD{d e:aa}(h:e.cross d=0)(hp:0<e.dot d): ∃g:Rat,0<g/\e=⟨g*d.x,g*d.y⟩:=by
 have hd:0<d.dot d:=by
  unfold aa.dot at*;have h1:=o8 d.x;have h2:=o8 d.y;rcases dF d.x with k|k|k
  ·rcases dF d.y with l|l|l
   ·rw[k,l] at hp;grind
   ·have:=bj l l;grind
   ·have:=bj (a:= -d.y) (b:= -d.y) (by grind) (by grind);grind
  ·have:=bj k k;grind
  ·have:=bj (a:= -d.x) (b:= -d.x) (by grind) (by grind);grind
 have key:e.x*d.dot d=e.dot d*d.x/\e.y*d.dot d=e.dot d*d.y:=by
  unfold aa.dot aa.cross at*;constructor<;>grind
 have hg:e.dot d/d.dot d*d.dot d=e.dot d:=by grind
 refine⟨e.dot d/d.dot d,(eO hd).1 (by rw[hg];exact hp),?_⟩;generalize e.dot d/d.dot d=g at*;have x1:e.x=g*d.x:=by
  have:(e.x-g*d.x)*d.dot d=0:=by rw[<-hg] at key;grind
  have hz:d.dot d≠0:=by grind
  grind
 have x2:e.y=g*d.y:=by
  have:(e.y-g*d.y)*d.dot d=0:=by rw[<-hg] at key;grind
  have hz:d.dot d≠0:=by grind
  grind
 rw[<-x1,<-x2]
def AF{e u:aa}(he:e.half≠0)(hu:u.half≠0)(hp:e.cross u=0):e.dot u≠0:=fun hz=>by
 have e1:e.x*(u.x*u.x+u.y*u.y)=0:=by unfold aa.dot aa.cross at*;grind
 have e2:e.y*(u.x*u.x+u.y*u.y)=0:=by unfold aa.dot aa.cross at*;grind
 have hu2:u.x*u.x+u.y*u.y≠0:=fun q=>by
  have h1:=o8 u.x;have h2:=o8 u.y;have x0:u.x=0:=by
   have:u.x*u.x=0:=by grind
   grind
  have y0:u.y=0:=by
   have:u.y*u.y=0:=by grind
   grind
  rcases jj u with⟨_,q⟩|⟨_,q⟩|⟨q,_⟩
  ·grind
  ·grind
  ·exact hu q
 have x0:e.x=0:=by grind
 have y0:e.y=0:=by grind
 rcases jj e with⟨_,q⟩|⟨_,q⟩|⟨q,_⟩
 ·grind
 ·grind
 ·exact he q
def lw.gen{ds:List aa}{u w:aa}(h:r8 ds)(hu:u∈ds)(hw:w∈ds)(hn:lw ds u w)(hc:u.cross w≠0){a b:Rat}(ha:0<a)(hb:0<b): ∀d∈ds,d.cross (fk a b u w)≠0:=fun d hd hz=>by
 have hp:=hn.pos h hu hw;have hp:0<u.cross w:=by grind
 obtain⟨c1,c2⟩:=JR (a:=a) (b:=b) (u:=u) (w:=w);have d1:0<u.cross (fk a b u w):=by rw[c1];exact bj hb hp
 -- of d and its opposite, one points the same way
 have key: ∀e∈ds,e.cross (fk a b u w)=0->0<e.dot (fk a b u w)->False:=fun e he h1 h2=>by
  obtain⟨g,g1,g2⟩:=qD h1 h2;refine hn.none h hu hw hc (a:=g*a) (b:=g*b) (bj g1 ha) (bj g1 hb) ?_;have:fk (g*a) (g*b) u w=e:=by rw[g2];unfold fk;simp only[aa.mk.injEq];constructor<;>grind
  rw[this];exact he
 rcases dF (d.dot (fk a b u w)) with k|k|k
 ·-- both 0: then d is 0, or the other is
  have hnz:=h.nz d hd;generalize fk a b u w=v at*;have e1:d.x*(v.x*v.x+v.y*v.y)=0:=by unfold aa.dot aa.cross at*;grind
  have e2:d.y*(v.x*v.x+v.y*v.y)=0:=by unfold aa.dot aa.cross at*;grind
  have hv:v.x*v.x+v.y*v.y≠0:=fun e=>by
   have h1:=o8 v.x;have h2:=o8 v.y;have x0:v.x=0:=by have:v.x*v.x=0:=(by grind);grind
   have y0:v.y=0:=by have:v.y*v.y=0:=(by grind);grind
   unfold aa.cross at d1;rw[x0,y0] at d1;grind
  have x0:d.x=0:=by grind
  have y0:d.y=0:=by grind
  rcases jj d with⟨_,q⟩|⟨_,q⟩|⟨q,_⟩
  ·grind
  ·grind
  ·exact hnz q
 ·exact key d hd hz k
 ·refine key _ (h.neg d hd) ?_ ?_
  ·unfold aa.cross bc at*;grind
  ·unfold aa.dot bc at*;grind
def I8(d u:aa):d.cross (fG u)=d.dot u:=by unfold aa.cross fG aa.dot;grind
def lw.turn{ds:List aa}{u w:aa}(h:r8 ds)(hu:u∈ds)(hw:w∈ds)(hn:lw ds u w)(hc:u.cross w=0): ∀d∈ds,d.cross (fG u)≠0:=fun d hd=>by
 have zu:=fq (h.nz u hu);have zw:=fq (h.nz w hw);rw[I8];rcases hn.spec h hu hw with⟨_,h2,_⟩|⟨h1,h2,h3⟩
 ·rw[hc] at h2;exact absurd h2 (by decide)
 have par: ∀e∈ds,e.half=u.half->e.cross u=0:=fun e he k=>by
  have a1:=h2 e he k;have a2:=h3 _ (h.neg e he) (by rw[po (h.nz e he)];omega);rw[kA] at a2
  -- w = -g u
  have hwu:w.cross u=0:=by rw[eE,hc];rfl
  have huw:w.dot u<0:=by
   rcases dF (w.dot u) with k0|k0|k0
   ·exact absurd k0 (AF (h.nz w hw) (h.nz u hu) hwu)
   ·obtain⟨g,g1,g2⟩:=qD hwu k0
    exfalso;apply h1;rcases jj u with⟨x,q⟩|⟨x,q⟩|⟨x,q⟩
    ·rw[x]
     refine(lH.2 ?_).symm;rw[g2];simp only;rcases q with q|⟨q,q'⟩
     ·exact .inl (bj g1 q)
     ·exact .inr ⟨by rw[q];grind,bj g1 q'⟩
    ·rw[x]
     refine(nn.2 ?_).symm;rw[g2];simp only;rcases q with q|⟨q,q'⟩
     ·have:=bj (a:=g) (b:= -u.y) g1 (by grind);exact .inl (by grind)
     ·have:=bj (a:=g) (b:= -u.x) g1 (by grind);exact .inr ⟨by rw[q];grind,by grind⟩
    ·exact absurd x (h.nz u hu)
   ·exact k0
  obtain⟨g,g1,g2⟩:=qD (d:=u) (e:=bc w) (by unfold aa.cross bc at*;grind) (by unfold aa.dot bc at*;grind);have a3:0<= -(g*e.cross u):=by
   have e1:w=⟨-(g*u.x), -(g*u.y)⟩:=by
    have:=congrArg bc g2;unfold bc at this
    cases w
    simp only[Rat.neg_neg] at this;exact this
   rw[e1] at a2;unfold aa.cross at*;grind
  by_cases hz:0<e.cross u
  ·have:=bj g1 hz;grind
  ·grind
 have nzd: ∀e∈ds,e.half=u.half->e.dot u≠0:=fun e he k=>AF (h.nz e he) (h.nz u hu) (par e he k);by_cases k:d.half=u.half
 ·exact nzd d hd k
 ·have:=nzd _ (h.neg d hd) (by rw[po (h.nz d hd)];have:=fq (h.nz d hd);omega)
  unfold aa.dot bc at*;grind
end Go.Sx
end
section
namespace Go.Sx
open Go
inductive OT where
 |z (π:List (Nat×Bool))
 |q (i:Nat) (t:OT)
 |a (i:Nat) (t:OT)
 |c (i:Nat) (t r:OT)
def OT.sz:OT->Nat
 | .z _=>0
 | .q _ t=>t.sz+1
 | .a _ t=>t.sz+1
 | .c _ t r=>t.sz+r.sz+1
def OT.d:OT->Nat
 | .z π=>π.length
 | .q _ t=>t.d+1
 | .a _ t=>t.d+1
 | .c _ t r=>Nat.max (t.d+1) r.d
section
variable {P:Program} {ops:Array Oper} {Q:Exit->Act->World->Prop} {S:World->Prop} {π₂:List (Nat×Bool)}
def tL(P:Program)(ops:Array Oper)(Q:Exit->Act->World->Prop)(K:(World->Prop)->Act->World->Prop):List Nat->OT->(World->Prop)->Act->World->Prop
 |ks, .z π,S,a,w=>uP P ops Q K ks π S a w
 |ks, .q i t,S,a,w=> ∃o v,ops[i]? =some o/\S w/\YieldsIf P ops S o v a/\tL P ops Q K ks t S (a.put o.dst v) w
 |ks, .a i t,S,a,w=>wpOp P ops Q i (tA S (tL P ops Q K ks t)) a w/\
   ∀j,(h:j∈ks)->wpOp P ops Q j (tA S (tL P ops Q K (jO ks j) (.a i t))) a w
 |ks, .c i t r,S,a,w=>wpOp P ops Q i (tA S (tL P ops Q K ks t)) a w/\tL P ops Q K ks r S a w/\
   ∀j,(h:j∈ks)->wpOp P ops Q j (tA S (tL P ops Q K (jO ks j) (.c i t r))) a w
termination_by ks t=>ks.length+t.sz
decreasing_by
 all_goals (first|(have:=EH h;simp only[OT.sz] at*;omega)|(simp only[OT.sz];omega))
def qh(ops:Array Oper)(fin:Nat->Bool)(π₂:List (Nat×Bool)):Nat->Bool->List Nat->OT->Array Bool->List Nat->Bool
 |0,_,_,_,_,_=>false
 |n+1,false,ks, .z π,l,_=>xp ops fin π₂ n ks π l
 |_+1,true,_, .z _,_,_=>false
 |n+1,false,ks, .q i t,l,_=>uR ops fin l i&&qh ops fin π₂ n false ks t (l.setIfInBounds i true) []
 |_+1,true,_, .q _ _,_,_=>false
 |n+1,true,ks, .a i t,l,rs=>rs.all (fun j=>Nat.beq j i)&&qh ops fin π₂ n false ks t (l.setIfInBounds i true) []
 |n+1,false,ks, .a i t,l,_=>!(Region.ready .any ops l).isEmpty&&(Region.ready .any ops l).all (fun j=>Nat.beq j i||ks.contains j)&&qh ops fin π₂ n false ks t (l.setIfInBounds i true) []&&ks.all fun j=>qh ops fin π₂ n false (jO ks j) (.a i t) (l.setIfInBounds j true) []
 |n+1,true,ks, .c i t r,l,rs=>qh ops fin π₂ n false ks t (l.setIfInBounds i true) []&&qh ops fin π₂ n true ks r l (jO rs i)
 |n+1,false,ks, .c i t r,l,_=>!(Region.ready .any ops l).isEmpty&&qh ops fin π₂ n false ks t (l.setIfInBounds i true) []&&qh ops fin π₂ n true ks r l (jO ((Region.ready .any ops l).filter fun j=>!ks.contains j) i)&&ks.all fun j=>qh ops fin π₂ n false (jO ks j) (.c i t r) (l.setIfInBounds j true) []
end
section
variable {P:Program} {GB:Gh} {C:az} {n:Nat} {fr fr':dB} {own own' own0 own1 own1':List cD} {bs bs0 bs1 bs1':List di} {ops:Array Oper} {Q:Exit->Act->World->Prop} {fd:List FD} {π₂:List (Nat×Bool)} {t r:OT}
abbrev Yf (P:Program) (ops:Array Oper) (Q:Exit->Act->World->Prop) (K:(World->Prop)->Act->World->Prop) (t:OT):List Nat->(World->Prop)->Act->World->Prop:=fun ks S=>tL P ops (js Q) K ks t S
end
end Go.Sx
end
section
namespace Go.Sx
open Go Go.Proofs Tryz
variable {GB:Gh}
theorem LB.rev{l:ab}(h:LB l):LB l.rev:=⟨⟨by rw[show l.rev.a= -l.a from J,iJ];exact h.bl.a,by rw[show l.rev.b= -l.b from J,iJ];exact h.bl.b,by rw[show l.rev.c= -l.c from J,iJ];exact h.bl.c⟩⟩
structure Zz (c:List ab) (k:Nat) (xs:List ab):Prop where
 le:k<=c.length
 f:BC c (c.drop k) xs=p9 c
 m: ∀m∈xs,m∈c
 n:xs.length<=k
def Kl(c:List ab):Bool:=if(((c.map eL).length:Nat):Int)=0 then true else decide ((0:Int)<((((p9 c).map eL).length:Nat):Int))
section
variable {α:Type} (c:α->α->Int)
def fC(x:α):List α->List α
 |[]=>[x]
 |u::t=>if c u x<0 then u::fC x t else if c u x=0 then u::t else x::u::t
def Y5(x:α)(xs:List α):Nat:=(xs.takeWhile fun u=>decide (c u x<0)).length
def J5(x:α): ∀(xs:List α),(fC c x xs).length<=xs.length+1
 |[]=>aN _
 |u::t=>by
  have:=J5 x t;rw[fC];split
  ·simp;omega
  ·split<;>simp
def A1{x y:α}: ∀{xs:List α},y∈fC c x xs->y=x\/y∈xs
 |[],h=>by rw[fC,aV] at h;exact .inl h
 |u::t,h=>by
  rw[fC] at h;split at h
  ·rcases aU.1 h with rfl|h
   ·exact .inr aQ
   ·rcases A1 h with h|h
    ·exact .inl h
    ·exact .inr (aZ _ h)
  ·split at h
   ·exact .inr h
   ·rcases aU.1 h with rfl|h
    ·exact .inl J
    ·exact .inr h
def BY(l:List α):List α:=l.foldl (fun out x=>fC c x out) []
def IC: ∀(l o:List α),(l.foldl (fun out x=>fC c x out) o).length<=l.length+o.length
 |[],o=>by simp
 |x::t,o=>by
  have:=IC t (fC c x o);have:=J5 c x o;simp only[gS,bS];omega
def wD{y:α}: ∀{l o:List α},y∈l.foldl (fun out x=>fC c x out) o->y∈l\/y∈o
 |[],o,h=> .inr h
 |x::t,o,h=>by
  rcases wD (l:=t) h with h|h
  ·exact .inl (aZ _ h)
  ·rcases A1 c h with rfl|h
   ·exact .inl aQ
   ·exact .inr h
end
def LA{α β:Type}{f:α->β}{l:List α}{k:Nat}{x:α}(h:l[k]? =some x):(l.take k).map f++[f x]=(l.take (k+1)).map f:=by
 rw[fX,h,gX];rfl
instance BQ.m1':BQ (((-1:Int):Int):Rat) 2:=⟨by decide,by decide⟩
instance BQ.m1:BQ (-1:Rat) 2:=⟨by decide,by decide⟩
def Jc{q:Rat}{i:Nat}[h:BQ q i](hi:i<=400000000:=by decide):PF GB prog 47 [eQ q] (eR q):=by
 refine fn func47 J J ntmps47 J J (fun C=>?_);refine cl J (NT (z:=q.num) hi) J<|cl J (l5 (q:=q)) J<|cl J (Nd (a:=q.den) hi) J<|?_;exact rz J J
def sU{p:aa}{i:Nat}[h:aw p i](hi:i<=20000:=by decide):PF GB prog 19 [eP p] (jI p):=by
 refine fn func19 J J ntmps19 J J (fun C=>?_);refine cl J (Jc (q:=p.x) (i:=i) (by omega)) J<|cl J (Jc (q:=p.y) (i:=i) (by omega)) J<|?_;exact rz J J
def Aa{α:Type}(f:α->DV)(l:List α):(l.map f).length=l.length:=aK ..
def PT(ps:List aa):gn 6 (ps.map jI):=fun d hd=>by
 obtain⟨u,_,rfl⟩:=bK.1 hd;exact⟨rfl,rfl⟩
def Lj{ps:List aa}(hb: ∀p∈ps,aw p 1200)(hn:ps.length<=1000000):PF GB prog 32 [.sl (ps.map eP)] (.sl (ps.map jI)):=by
 have hm:=Aa eP ps;refine fn (fu:=⟨15⟩) func32 J J ntmps32 J J (fun C=>?_);refine ak 7 (.d (vI (ps.length:Nat))) J (by rw[hm]<;>rfl) ?_;refine gx J<|?_;refine nr 3 3 62 6 J J J ?_;refine lp (X:=Nat) (fun k=>[(8, .d (vI (k:Nat))),(3, .rw 3)]) (fun k=>[(3,some (.b 62 6 ((ps.take k).map jI) true))]) (fun k=>k<=ps.length) (fun k=>ps.length-k) 0 J (cK _) (fun _=>J) (fun k hk=>?_);have hml:=Aa jI (ps.take k);rw[cW] at hml;refine br J J J (fun hc9=>?_) (fun hc9=>?_)
 .
  obtain⟨z,hz⟩: ∃s,ps[k]? =some s:=⟨_,aX (by omega)⟩;have hzm:=bJ hz;refine ix _ J (f9 hz) J<|cl J (sU (p:=z) (h:=hb z hzm)) J<|rf J J<|ap ((ps.take (k+1)).map jI) J (LA hz) (PT [z]) J<|?_;refine mt 16 3 J ?_;exact at_ (k+1) ⟨(by omega),(by omega)⟩
 .
  obtain rfl:k=ps.length:=by omega
  refine n7 3 J ?_;exact rz J (by rw[fJ];rfl)
def Ih{p q:aa}{i j:Nat}[hp:aw p i][hq:aw q j](hi:i<=100000:=by decide)(hj:j<=100000:=by decide):PF GB prog 58 [eP p,eP q] (eP (aG p q (-1))):=by
 refine fn func58 J J ntmps58 J J (fun C=>?_);refine cl J (tW (n:= -1) (by decide) (by decide)) J<|cl J (IK (p:=p) (q:=q) (c:=((-1:Int):Rat)) (i:=i) (j:=j) (k:=2) (by omega) (by omega)) J<|?_;exact rz J (by rw[show((-1:Int):Rat)= -1 from J];rfl)
def H'{a b c:aa}{i j k:Nat}[ha:aw a i][hb:aw b j][hc:aw c k](hi:i<=80000:=by decide)(hj:j<=80000:=by decide)(hk:k<=80000:=by decide):PF GB prog 24 [eP a,eP b,eP c] (vI (mG a b c)):=by
 refine fn func24 J J ntmps24 J J (fun C=>?_);refine cl J (Ih (p:=b) (q:=a) (i:=j) (j:=i) (by omega) (by omega)) J<|cl J (Ih (p:=c) (q:=a) (i:=k) (j:=i) (by omega) (by omega)) J<|?_;refine cl J (O7 (p:=aG b a (-1)) (q:=aG c a (-1)) (by omega) (by omega)) J<|cl J (PO (q:=(aG b a (-1)).cross (aG c a (-1)))) J<|?_;exact rz J J
def XT(p q:aa):Int:=if ce p.x q.x≠0 then ce p.x q.x else ce p.y q.y
def s6(l:ab):Bool:=decide (l.a<0\/(l.a=0/\l.b<0))
def ab.canon(l:ab):ab:=if s6 l then l.rev else l
def E3(a:Int):a.sign<0↔a<0:=by
 rcases kX a 0 with h|h|h
 ·rw[dV h];omega
 ·subst h;simp
 ·rw[dT h];omega
def ny(a:Int):a.sign=0↔a=0:=jX
instance LB.canon (l:ab) [h:LB l]:LB l.canon:=by unfold ab.canon;split;exact LB.rev h;exact h
def SW{l:ab}(h:l.ok):l.canon.ok:=by unfold ab.canon;split;exact h.rev;exact h
def ZT{α β:Type}(c:β->β->Int)(g:α->β)(l:List α)(k:Nat):List β:=BY c ((l.take k).map g)
section
variable {α β:Type} {c:β->β->Int} {g:α->β} {l:List α} {k:Nat}
end
def o5(ls:List ab):List ab:=BY qj (ls.map ab.canon)
def Lm{ls:List ab}{y:ab}(h:y∈o5 ls): ∃x∈ls,y=x.canon:=by
 rcases wD qj h with h|h
 ·obtain⟨x,hx,rfl⟩:=bK.1 h;exact⟨x,hx,rfl⟩
 ·cases h
def zQ{α:Type}{c:α->α->Int}(hc: ∀u x,c u x=0->u=x){x y:α}: ∀{xs:List α},y=x\/y∈xs->y∈fC c x xs
 |[],h=>by
  rcases h with rfl|h
  ·rw[fC];exact aV.2 J
  ·cases h
 |u::t,h=>by
  rw[fC];split
  ·rcases h with rfl|h
   ·exact aZ _ (zQ hc (.inl J))
   ·rcases aU.1 h with rfl|h
    ·exact aQ
    ·exact aZ _ (zQ hc (.inr h))
  ·split
   ·rename_i h0
    rcases h with rfl|h
    ·rw[<-hc _ _ h0];exact aQ
    ·exact h
   ·rcases h with rfl|h
    ·exact aQ
    ·exact aZ _ h
def JC{α:Type}{c:α->α->Int}(hc: ∀u x,c u x=0->u=x){y:α}: ∀{l o:List α},y∈l\/y∈o->y∈l.foldl (fun out x=>fC c x out) o
 |[],o,h=>h.elim (fun h=>by cases h) id
 |x::t,o,h=>by
  refine JC hc (l:=t) ?_;rcases h with h|h
  ·rcases aU.1 h with rfl|h
   ·exact .inr (zQ hc (.inl J))
   ·exact .inl h
  ·exact .inr (zQ hc (.inr h))
def T6{ls:List ab}{x:ab}(h:x∈ls):x.canon∈o5 ls:=
 JC (fun u x e=>(Qn u x).1 e) (.inl (lX h))
def Co(l:ab)(p:aa):l.canon.value p=l.value p\/l.canon.value p= -l.value p:=by
 unfold ab.canon;split
 ·exact .inr (my l p)
 ·exact .inl J
def EW(a b:Tr):List aa:=Jm (o5 (a.lns++b.lns))
def Yk(a b:Tr):Bool:=(EW a b).all fun p=>rP a p==rP b p
def YC(f:Bool->Bool->Bool)(a b:Tr):Bool:=(EW a b).any fun p=>f (rP a p) (rP b p)
def XR(v:Bool)(t:Tr):Bool:=decide ((t.restrict []).isLeaf=true/\(t.restrict []).code=v)
def KK{α:Type}{c:α->α->Int}(hT: ∀u v w,c u v<0->c v w<0->c u w<0)(hA: ∀u v,¬c u v<0->c u v≠0->c v u<0){x:α}: ∀{xs:List α},xs.Pairwise (fun a b=>c a b<0)->(fC c x xs).Pairwise (fun a b=>c a b<0)
 |[],_=>by rw[fC];exact List.pairwise_singleton _ _
 |u::t,h=>by
  obtain⟨h1,h2⟩:=bM.1 h;rw[fC];split
  ·rename_i hu
   refine bM.2 ⟨fun y hy=>?_,KK hT hA h2⟩;rcases A1 c hy with rfl|hy
   ·exact hu
   ·exact h1 y hy
  ·rename_i hu
   split
   ·exact h
   ·rename_i hz
    have hx:=hA u x hu hz;refine bM.2 ⟨fun y hy=>?_,h⟩;rcases aU.1 hy with rfl|hy
    ·exact hx
    ·exact hT _ _ _ hx (h1 y hy)
def EN{α:Type}{c:α->α->Int}(hT: ∀u v w,c u v<0->c v w<0->c u w<0)(hA: ∀u v,¬c u v<0->c u v≠0->c v u<0): ∀{l o:List α},o.Pairwise (fun a b=>c a b<0)->(l.foldl (fun out x=>fC c x out) o).Pairwise (fun a b=>c a b<0)
 |[],o,h=>h
 |x::l,o,h=>EN (l:=l) (o:=fC c x o) hT hA (KK hT hA h)
def BE(l m:ab):qj l m<0↔l.a<m.a\/(l.a=m.a/\(l.b<m.b\/(l.b=m.b/\l.c<m.c))):=by
 unfold qj;split
 ·rename_i h;rw[E3];rw[ne_eq,ny] at h;omega
 ·rename_i h;rw[ne_eq,Decidable.not_not,ny] at h
  split
  ·rename_i k;rw[E3];rw[ne_eq,ny] at k;omega
  ·rename_i k;rw[ne_eq,Decidable.not_not,ny] at k;rw[E3];omega
def VG(l m:ab):qj l m=0↔l.a=m.a/\l.b=m.b/\l.c=m.c:=by
 unfold qj;split
 ·rename_i h;rw[ny];rw[ne_eq,ny] at h;omega
 ·rename_i h;rw[ne_eq,Decidable.not_not,ny] at h
  split
  ·rename_i k;rw[ny];rw[ne_eq,ny] at k;omega
  ·rename_i k;rw[ne_eq,Decidable.not_not,ny] at k;rw[ny];omega
def Xg(ls:List ab):(o5 ls).Pairwise (fun a b=>qj a b<0):=
 EN (fun u v w h k=>by rw[BE] at*;omega) (fun u v h k=>by rw[BE] at*;rw[ne_eq,VG] at k;omega) List.Pairwise.nil
def SE(L:List ab)(p:aa):List aa:=L.flatMap fun l=>if Int.sign (l.value p).num=0 then [l.dir,bc l.dir] else []
def RZ{u v:aa}:0<cA u v↔cd v u:=by
 unfold cA cd;split
 ·rename_i h;exact⟨fun e=>absurd e (by decide),fun e=>by omega⟩
 ·rename_i h
  split
  ·rename_i h2;exact⟨fun _=> .inl h2,fun _=>by decide⟩
  ·rename_i h2
   have e:v.half=u.half:=by omega
   rw[eE u v];constructor
   ·intro k
    have:Int.sign (u.cross v).num<0:=by omega
    rw[lm] at this;exact .inr ⟨e,by grind⟩
   ·rintro (k|⟨_,k⟩)
    ·omega
    ·have:Int.sign (u.cross v).num<0:=(lm _).2 (by grind)
     omega
def cd.trans{u v w:aa}(hu:u.half≠0)(hv:v.half≠0)(hw:w.half≠0)(h:cd u v)(k:cd v w):cd u w:=by
 rcases h with h|⟨h,h'⟩<;>rcases k with k|⟨k,k'⟩
 ·exact .inl (by omega)
 ·exact .inl (by omega)
 ·exact .inl (by omega)
 ·refine .inr ⟨h.trans k,?_⟩
  have id1:u.cross w*v.y=u.cross v*w.y+v.cross w*u.y:=by unfold aa.cross;grind
  rcases jj v with⟨x,q⟩|⟨x,q⟩|⟨x,q⟩
  ·rw[x] at h k
   have qu:=lH.1 h;have qw:=lH.1 k.symm;rcases q with q|⟨q,q'⟩
   ·rw[<-eO q,id1]
    have wy:0<=w.y:=by grind
    have uy:0<=u.y:=by grind
    have a1:=bE (bN h') wy;rcases qu with qu|⟨qu,qu'⟩
    ·have:=bj k' qu;grind
    ·rcases qw with qw|⟨qw,qw'⟩
     ·have:=bj h' qw;rw[qu];grind
     ·exfalso
      have hx:v.cross w= -(w.x*v.y):=by unfold aa.cross;rw[qw];grind
      have:=bj qw' q;grind
   ·exfalso
    have hx:u.cross v= -(v.x*u.y):=by unfold aa.cross;rw[q];grind
    have:=bE (a:=v.x) (b:=u.y) (bN q') (by grind);grind
  ·rw[x] at h k
   have qu:=nn.1 h;have qw:=nn.1 k.symm;rcases q with q|⟨q,q'⟩
   ·have e1:u.cross w* -v.y=u.cross v* -w.y+v.cross w* -u.y:=by grind
    rw[<-eO (k:= -v.y) (by grind),e1];have a1:=bE (a:=u.cross v) (b:= -w.y) (bN h') (by grind);rcases qu with qu|⟨qu,qu'⟩
    ·have:=bj (a:=v.cross w) (b:= -u.y) k' (by grind);grind
    ·rcases qw with qw|⟨qw,qw'⟩
     ·have:=bj (a:=u.cross v) (b:= -w.y) h' (by grind);rw[qu];grind
     ·exfalso
      have hx:v.cross w= -(-w.x* -v.y):=by unfold aa.cross;rw[qw];grind
      have:=bj (a:= -w.x) (b:= -v.y) (by grind) (by grind);grind
   ·exfalso
    have hx:u.cross v= -(-v.x* -u.y):=by unfold aa.cross;rw[q];grind
    have:=bE (a:= -v.x) (b:= -u.y) (by grind) (by grind);grind
  ·exact absurd x hv
def BH(S:List aa)(x:aa):Nat->Nat
 |0=>0
 |k+1=>if 0<cA (S.getD k ⟨0,0⟩) x then BH S x k else k+1
def XG(S:List aa)(x:aa):List aa:=S.take (BH S x S.length)++x::S.drop (BH S x S.length)
def Og(ds:List aa):List aa:=ds.foldl XG []
structure yl (L:List ab):Prop where
 ok: ∀l∈L,l.ok
 cn: ∀l∈L,s6 l=false
 nd:L.Pairwise (fun a b=>a≠b)
def Cl{l:ab}(h:l.ok):s6 l.canon=false:=by
 have hn:=h.ne;unfold ab.Ne at hn;unfold ab.canon;split
 ·rename_i k
  unfold s6 at*;rw[decide_eq_true_eq] at k;rw[decide_eq_false_iff_not];show¬(-l.a<0\/(-l.a=0/\ -l.b<0));omega
 ·rename_i k;simpa using k
def Js{ls:List ab}(h: ∀l∈ls,l.ok):yl (o5 ls) where
 ok:=fun l hl=>by obtain⟨x,hx,rfl⟩:=Lm hl;exact SW (h x hx)
 cn:=fun l hl=>by obtain⟨x,hx,rfl⟩:=Lm hl;exact Cl (h x hx)
 nd:=(Xg ls).imp fun{a b} k e=>by subst e;rw[BE] at k;omega
def sE{l:ab}(h:l.ok):l.dir.half≠0:=fun e=>by
 have hn:=h.ne;unfold ab.Ne at hn;rcases jj l.dir with⟨k,_⟩|⟨k,_⟩|⟨_,k1,k2⟩
 ·rw[k] at e;cases e
 ·rw[k] at e;cases e
 ·unfold ab.dir at k1 k2
  simp only at k1 k2;apply hn;refine⟨?_,iT.1 k2⟩;have:(l.a:Rat)=0:=by grind
  exact iT.1 this
def Uy{d:aa}(h:d.half≠0):(bc d).half≠0:=by rw[po h];have:=fq h;omega
def wk(d:aa):bc (bc d)=d:=by unfold bc;cases d;simp
def SJ{l m:ab}(hl:l.ok)(hm:m.ok)(cl:s6 l=false)(cm:s6 m=false){p:aa}(h1:l.value p=0)(h2:m.value p=0)(hc:l.dir.cross m.dir=0):l=m:=by
 have key: ∀t,l.value (m.at t)=0:=fun t=>by
  obtain⟨s,rfl⟩:=xy hm.ne h2;rw[n8] at h1⊢;have hk:m.cutK l=0:=by
   unfold ab.cutK;rw[<-uv];exact hc
  rw[hk] at h1⊢;grind
 rcases BW hl hm key with e|e
 ·exact e
 ·exfalso
  have hn:=hm.ne;unfold ab.Ne at hn;rw[e] at cl;unfold s6 at cl cm;rw[decide_eq_false_iff_not] at cl cm;have cl: ¬(-m.a<0\/(-m.a=0/\ -m.b<0)):=cl;omega
def GH{ds:List aa}(h:ds.Pairwise cd)(hd:r8 ds){i:Nat}(hi:i<ds.length)(hj:(i+1)%ds.length<ds.length):lw ds ds[i] ds[(i+1)%ds.length]:=by
 have hp:=mQ.1 h;have irr: ∀{u v:aa},cd u v-> ¬cd v u:=fun{u v} a b=>by
  unfold cd at a b;rw[eE u v] at b;rcases a with a|⟨a,a'⟩<;>rcases b with b|⟨b,b'⟩
  ·omega
  ·omega
  ·omega
  ·grind
 have ord: ∀{j k:Nat} (a:j<ds.length) (b:k<ds.length),cd ds[j] ds[k]->j<k:=fun{j k} a b q=>by
  rcases nU j k with e|e|e
  ·exact e
  ·subst e;exact absurd q (irr q)
  ·exact absurd (hp k j b a e) (irr q)
 by_cases hl:i+1<ds.length
 ·have e:(i+1)%ds.length=i+1:=dY hl
  simp only[e];refine .inl ⟨hp i (i+1) hi hl (by omega),fun d hd' ⟨q1,q2⟩=>?_⟩;obtain⟨j,hj',rfl⟩:=mS hd';have:=ord hi hj' q1;have:=ord hj' hl q2;omega
 ·have e:(i+1)%ds.length=0:=by rw[show i+1=ds.length by omega];exact Nat.mod_self _
  simp only[e];refine .inr ⟨fun d hd' q=>?_,fun d hd' q=>?_⟩
  ·obtain⟨j,hj',rfl⟩:=mS hd'
   have:=ord hi hj' q;omega
  ·obtain⟨j,hj',rfl⟩:=mS hd'
   have:=ord hj' (by omega) q;omega
def Ky(v:aa):Nat:=Nat.gcd (v.x.num.natAbs*v.y.den) (v.y.num.natAbs*v.x.den)
def Mv(n:Int)(d g:Nat):Int:=if n<0 then-((n.natAbs*d/g:Nat):Int) else((n.natAbs*d/g:Nat):Int)
def HG(v:aa):aa:=if v.half=0 then⟨0,0⟩ else⟨(Mv v.x.num v.y.den (Ky v):Int),(Mv v.y.num v.x.den (Ky v):Int)⟩
def Vm(ds:List aa)(i:Nat):List aa:=
 if cA (ds.getD i ⟨0,0⟩) (ds.getD ((i+1)%ds.length) ⟨0,0⟩)=0/\2<ds.length then []
 else if Int.sign ((ds.getD i ⟨0,0⟩).cross (ds.getD ((i+1)%ds.length) ⟨0,0⟩)).num=0 then [fG (ds.getD i ⟨0,0⟩)]
 else [aG (HG (ds.getD i ⟨0,0⟩)) (HG (ds.getD ((i+1)%ds.length) ⟨0,0⟩)) 1]
def Wp(ds:List aa):List aa:=if ds.length=0 then [⟨1,0⟩] else(List.range ds.length).flatMap (Vm ds)
def MV(L:List ab)(p:aa):List aa:=Wp (Og (SE L p))
def x8{ds:List aa}{i:Nat}(h:i<ds.length):ds.getD i ⟨0,0⟩=ds[i]:=by
 rw[aJ,aX h,iV]
def Y'(t:Tr)(p:aa):Bool:=(MV (o5 t.lns) p).any fun v=>(gi t p v).1
def YT(t:Tr)(p:aa):Bool:=(MV (o5 t.lns) p).all fun v=>(gi t p v).1
def rx{z:Rat}(h:z<0):Int.sign z.num= -1:=by
 have:=(lm _).2 h;rcases kX z.num 0 with q|q|q
 ·exact dV q
 ·rw[q] at this;simp at this
 ·rw[dT q] at this;simp at this
def kd:Tr->aa->List ab
 | .leaf _,_=>[]
 | .node l x y,p=>(if Int.sign (l.value p).num=0 then [l] else [])++((if 0<=Int.sign (l.value p).num then kd x p else [])++(if Int.sign (l.value p).num<=0 then kd y p else []))
def ot: ∀{t:Tr} {p:aa} {l:ab},l∈kd t p->l∈t.lns/\l.value p=0
 | .leaf _,p,l,h=>by cases h
 | .node m x y,p,l,h=>by
  rw[kd,bL,bL] at h;rcases h with h|h|h
  ·split at h
   ·rw[aV] at h;subst h
    rename_i k;exact⟨aQ,(jf _).1 k⟩
   ·cases h
  ·split at h
   ·have:=ot h;exact⟨aZ _ (bU _ this.1),this.2⟩
   ·cases h
  ·split at h
   ·have:=ot h;exact⟨aZ _ (cJ _ this.1),this.2⟩
   ·cases h
def Ly{t:Tr}{p v:aa}(h:Gn t.lns p v):Gn (kd t p) p v:=fun l hl hz=>h l (ot hl).1 hz
def wJ: ∀{t:Tr} {p v w:aa},(∀l∈kd t p,Int.sign (l.nor.dot v).num=Int.sign (l.nor.dot w).num)->gi t p v=gi t p w
 | .leaf _,_,_,_,_=>rfl
 | .node l x y,p,v,w,h=>by
  have hx:0<=Int.sign (l.value p).num->gi x p v=gi x p w:=fun k=>wJ fun m hm=>h m (by rw[kd,bL,bL,if_pos k];exact .inr (.inl hm));have hy:Int.sign (l.value p).num<=0->gi y p v=gi y p w:=fun k=>wJ fun m hm=>h m (by rw[kd,bL,bL,if_pos k];exact .inr (.inr hm));rw[gi,gi,uv,uv];by_cases k:Int.sign (l.value p).num=0
  ·rw[if_pos k,if_pos k,<-h l (by rw[kd,if_pos k];exact aQ),hx (by omega),hy (by omega)]
  ·rw[if_neg k,if_neg k]
   generalize Int.sign (l.value p).num=s at*;split
   ·exact hx (by decide)
   ·exact hy (by decide)
   ·rfl
def BT{L M:List ab}{p v:aa}(hM: ∀l∈M,l.ok)(hL:Gn L p v): ∃w,Gn M p w/\ ∀l∈L,l.value p=0->Int.sign (l.nor.dot v).num=Int.sign (l.nor.dot w).num:=by
 have e2: ∀l:ab,l.value p=0->l.value (aG p v 1)=l.nor.dot v:=fun l hz=>by rw[io,hz];grind
 have hp':cg ((L.filter fun l=>decide (l.value p=0)).map fun l=>(⟨if 0<l.value (aG p v 1) then l else l.rev,aA.all⟩:aP)) (aG p v 1):=fun s hs=>by
  obtain⟨l,hl,rfl⟩:=bK.1 hs;obtain⟨h1,h2⟩:=iK.1 hl;have h3:=of_decide_eq_true h2;have h0:l.value (aG p v 1)≠0:=by rw[e2 l h3];exact hL l h1 h3
  simp only;split
  ·assumption
  ·rw[my];grind
 obtain⟨q,q1,q2⟩:=Kb hp' M hM;have e: ∀l:ab,l.value p=0->l.value q=l.nor.dot ⟨q.x-p.x,q.y-p.y⟩:=fun l hz=>by
  have h1:=io l p ⟨q.x-p.x,q.y-p.y⟩ 1;rw[hz] at h1;have h2:aG p ⟨q.x-p.x,q.y-p.y⟩ 1=q:=by
   unfold aG
   cases q
   simp only[aa.mk.injEq];constructor<;>grind
  rw[h2] at h1;rw[h1];grind
 refine⟨⟨q.x-p.x,q.y-p.y⟩,fun m hm hz=>?_,fun l hl hz=>?_⟩
 ·rw[<-e m hz];exact q2 m hm
 ·have h1:=q1 _ (bK.2 ⟨l,iK.2 ⟨hl,decide_eq_true hz⟩,J⟩)
  simp only at h1;rw[e2 l hz] at h1;rw[<-e l hz];have h0:=hL l hl hz;split at h1
  ·rename_i k
   rw[(iH _).2 k,(iH _).2 h1]
  ·rename_i k
   rw[my] at h1;rw[rx (by grind),rx (by grind)]
def qm(t:Tr)(p:aa)(b:Bool):Prop:= ∃v,Gn (kd t p) p v/\(gi t p v).1=b
def Ov{t:Tr}{p w:aa}(h:Gn t.lns p w):qm t p (gi t p w).1:=⟨w,Ly h,J⟩
def Wh{t:Tr}{p:aa}{b:Bool}(h:qm t p b){M:List ab}(hM: ∀l∈M,l.ok): ∃w,Gn M p w/\(gi t p w).1=b:=by
 obtain⟨v,h1,h2⟩:=h;obtain⟨w,k1,k2⟩:=BT hM h1;exact⟨w,k1,by rw[<-h2,wJ fun l hl=>k2 l hl (ot hl).2]⟩
def HE{M:List ab}(hM: ∀l∈M,l.ok)(p:aa): ∃w,Gn M p w:=by
 obtain⟨w,h,_⟩:=BT (L:=[]) (M:=M) (p:=p) (v:=⟨1,0⟩) hM fun l hl=>by cases hl
 exact⟨w,h⟩
def O'{t:Tr}(ht:t.all ab.ok)(p:aa):qm t p true\/qm t p false:=by
 obtain⟨w,h⟩:=HE (q6 ht) p;have:=Ov h
 cases hb:(gi t p w).1 with
 |true=>rw[hb] at this;exact .inl this
 |false=>rw[hb] at this;exact .inr this
def min2{a b:Rat}(ha:0<a)(hb:0<b): ∃d:Rat,0<d/\d<=a/\d<=b:=by
 by_cases k:a<=b
 ·exact⟨a,ha,by grind,k⟩
 ·exact⟨b,hb,by grind,by grind⟩
def jp(ds:List aa)(i:Nat):aa:=
 if 0<Int.sign ((ds.getD i ⟨0,0⟩).cross (ds.getD ((i+1)%ds.length) ⟨0,0⟩)).num then(ds.getD i ⟨0,0⟩).add (ds.getD ((i+1)%ds.length) ⟨0,0⟩) else fG (ds.getD i ⟨0,0⟩)
def eG(ds:List aa):List aa:=if ds.length=0 then [⟨1,0⟩] else(List.range ds.length).map (jp ds)
def MP(u w:aa):u.add w=fk 1 1 u w:=by
 unfold aa.add fk;simp only[aa.mk.injEq];constructor<;>grind
def Gs{x:aa}: ∀{S:List aa},S≠[]->(∀d∈S,0<d.cross x)-> ∃u∈S,∀d∈S,0<=d.cross u
 |[],h,_=>absurd J h
 |[d],_,_=>⟨d,aQ,fun e he=>by rw[aV] at he;subst he;rw[zI];exact dJ⟩
 |d0::d1::S,_,h=>by
  obtain⟨u,h1,h2⟩:=Gs (S:=d1::S) (by simp) fun d hd=>h d (aZ _ hd);by_cases k:0<=d0.cross u
  ·exact⟨u,aZ _ h1,fun d hd=>(aU.1 hd).elim (fun e=>e▸k) (h2 d)⟩
  ·refine⟨d0,aQ,fun d hd=>(aU.1 hd).elim (fun e=>by rw[e,zI];exact dJ) fun hd=>?_⟩
   have p0:=h d0 aQ;have pu:=h u (aZ _ h1);have pd:=h d (aZ _ hd);have k1:=h2 d hd;have k2:0<u.cross d0:=by rw[eE] at k;grind
   have e:d.cross d0*u.cross x=u.cross d0*d.cross x+d.cross u*d0.cross x:=by unfold aa.cross;grind
   have n1:=bj k2 pd;have n2:=bE k1 (bN p0);generalize d.cross d0=A at*;generalize u.cross x=B at*;by_cases hA:0<=A
   ·exact hA
   ·have:=bj (a:= -A) (b:=B) (by grind) pu
    grind
def Xk{ds:List aa}(h:ds.Pairwise cd)(hd:r8 ds)(hn:ds≠[]){x:aa}(hx: ∀d∈ds,d.cross x≠0): ∃i,i<ds.length/\ ∀d∈ds,Int.sign (d.cross x).num=Int.sign (d.cross (jp ds i)).num:=by
 have hne:(ds.filter fun d=>decide (0<d.cross x))≠[]:=by
  obtain⟨d,r,rfl⟩:=List.exists_cons_of_ne_nil hn;intro e;have h1: ¬0<d.cross x:=fun k=>by
   have:d∈(d::r).filter fun d=>decide (0<d.cross x):=iK.2 ⟨aQ,decide_eq_true k⟩;rw[e] at this;cases this
  have h2:=hx d aQ;have h3:0<(bc d).cross x:=by rw[eE,kA,<-eE];grind
  have:bc d∈(d::r).filter fun d=>decide (0<d.cross x):=iK.2 ⟨hd.neg d aQ,decide_eq_true h3⟩;rw[e] at this;cases this
 obtain⟨u,hu,hl⟩:=Gs hne fun d hd=>of_decide_eq_true (iK.1 hd).2;obtain⟨hu1,hu2⟩:=iK.1 hu;have hux:=of_decide_eq_true hu2;obtain⟨i,hi,rfl⟩:=mS hu1;have hj:(i+1)%ds.length<ds.length:=cS _ (by omega);have hnx:=GH h hd hi hj;have mw:=gL hj;refine⟨i,hi,?_⟩;have key: ∀d∈ds,0<d.cross x->0<d.cross (jp ds i):=fun d hdm hdx=>by
  have hdu:0<=d.cross ds[i]:=hl d (iK.2 ⟨hdm,decide_eq_true hdx⟩);unfold jp;rw[x8 hi,x8 hj];generalize ds[(i+1)%ds.length]=w at*;generalize ds[i]=u at*;have hp:=hnx.pos hd hu1 mw;have zd:=hd.nz d hdm;have zu:=hd.nz u hu1;split
  ·rename_i k
   have hc:=(jD _).1 k;rw[MP];have hg:=hnx.gen hd hu1 mw (by grind) (a:=1) (b:=1) (by decide) (by decide) d hdm;have e:d.cross (fk 1 1 u w)=d.cross u+d.cross w:=by unfold aa.cross fk;grind
   rw[e] at hg⊢;by_cases hw:0<=d.cross w
   ·grind
   ·exfalso
    -- -d lies between u and w
    rcases dF (d.cross u) with q|q|q
    ·-- d runs along u
     have hdd:0<d.dot u:=by
      rcases dF (d.dot u) with r|r|r
      ·exact absurd r (AF zd zu q)
      ·exact r
      ·exfalso
       have q':(bc d).cross u=0:=by unfold aa.cross bc at*;grind
       have r':0<(bc d).dot u:=by unfold aa.dot bc at*;grind
       obtain⟨g,g1,g2⟩:=qD q' r';have:d.cross x= -(g*u.cross x):=by
        have h1:(bc d).x=g*u.x:=by rw[g2]
        have h2:(bc d).y=g*u.y:=by rw[g2]
        unfold bc at h1 h2;simp only at h1 h2;unfold aa.cross;grind
       have:=bj g1 hux;grind
     obtain⟨g,g1,g2⟩:=qD q hdd;have:d.cross w=g*u.cross w:=by rw[g2];unfold aa.cross;grind
     have:=bj g1 hc;grind
    ·have hb:bc d=fk (-(d.cross w)/u.cross w) (d.cross u/u.cross w) u w:=by
      have hz:u.cross w≠0:=by grind
      have e1: -(d.cross w)/u.cross w*u.cross w= -(d.cross w):=by grind
      have e2:d.cross u/u.cross w*u.cross w=d.cross u:=by grind
      unfold bc fk;generalize-(d.cross w)/u.cross w=a at*;generalize d.cross u/u.cross w=b at*;simp only[aa.mk.injEq];have f1:(a*u.x+b*w.x+d.x)*u.cross w=0:=by
       have:(a*u.x+b*w.x+d.x)*u.cross w=a*u.cross w*u.x+b*u.cross w*w.x+d.x*u.cross w:=by grind
       rw[this,e1,e2];unfold aa.cross;grind
      have f2:(a*u.y+b*w.y+d.y)*u.cross w=0:=by
       have:(a*u.y+b*w.y+d.y)*u.cross w=a*u.cross w*u.y+b*u.cross w*w.y+d.y*u.cross w:=by grind
       rw[this,e1,e2];unfold aa.cross;grind
      constructor<;>grind
     refine hnx.none hd hu1 mw (by grind) (a:= -(d.cross w)/u.cross w) (b:=d.cross u/u.cross w) ?_ ?_ (by rw[<-hb];exact hd.neg d hdm)
     ·refine(eO (k:=u.cross w) hc).1 ?_
      have e1: -(d.cross w)/u.cross w*u.cross w= -(d.cross w):=by grind
      rw[e1];grind
     ·refine(eO (k:=u.cross w) hc).1 ?_
      have e1:d.cross u/u.cross w*u.cross w=d.cross u:=by grind
      rw[e1];exact q
    ·grind
  ·rename_i k
   have hc:u.cross w=0:=by have: ¬0<u.cross w:=fun e=>k ((jD _).2 e);grind
   have hg:=hnx.turn hd hu1 mw hc d hdm;rw[I8] at hg⊢;rcases dF (d.dot u) with r|r|r
   ·exact absurd r hg
   ·exact r
   ·exfalso
    -- all directions run along u
    have hdc:d.cross u=0:=by
     rcases hnx.spec hd hu1 mw with⟨_,h2,_⟩|⟨h1,h2,h3⟩
     ·rw[hc] at h2;exact absurd h2 (by decide)
     ·have zw:=fq (hd.nz w mw)
      have zu':=fq zu;have zd':=fq zd;have hwu: ∃g:Rat,0<g/\w=⟨g*(bc u).x,g*(bc u).y⟩:=by
       refine qD (d:=bc u) (e:=w) (by rw[kA,eE,hc];grind) ?_;rcases dF (w.dot u) with s|s|s
       ·exact absurd s (AF (hd.nz w mw) zu (by rw[eE,hc];rfl))
       ·exfalso
        obtain⟨g,g1,g2⟩:=qD (d:=u) (e:=w) (by rw[eE,hc];rfl) s;apply h1;rw[g2];rcases jj u with⟨x0,s0⟩|⟨x0,s0⟩|⟨x0,s0⟩
        ·rw[x0]
         refine(lH.2 ?_).symm;rcases s0 with s0|⟨s0,s1⟩
         ·exact .inl (bj g1 s0)
         ·exact .inr ⟨by show g*u.y=0;rw[s0];grind,bj g1 s1⟩
        ·rw[x0]
         refine(nn.2 ?_).symm;rcases s0 with s0|⟨s0,s1⟩
         ·exact .inl (by show g*u.y<0;have:=bj (a:=g) (b:= -u.y) g1 (by grind);grind)
         ·exact .inr ⟨by show g*u.y=0;rw[s0];grind,by show g*u.x<0;have:=bj (a:=g) (b:= -u.x) g1 (by grind);grind⟩
        ·exact absurd x0 zu
       ·unfold aa.dot bc at*;grind
      obtain⟨g,g1,g2⟩:=hwu;have cw: ∀e:aa,w.cross e=g* -(u.cross e):=fun e=>by rw[g2];unfold aa.cross bc;grind
      by_cases hh:d.half=u.half
      ·have a1:=h2 d hdm hh
       have a2:=h3 _ (hd.neg d hdm) (by rw[po zd];omega);rw[cw,kA,eE d u] at a2;rcases dF (d.cross u) with s|s|s
       ·exact s
       ·have:=bj g1 s;grind
       ·grind
      ·have a1:=h2 _ (hd.neg d hdm) (by rw[po zd];omega)
       have a2:=h3 d hdm (by omega);rw[cw,eE d u] at a2;have e3:(bc d).cross u= -(d.cross u):=by unfold aa.cross bc;grind
       rw[e3] at a1;rcases dF (d.cross u) with s|s|s
       ·exact s
       ·grind
       ·have:=bj (a:=g) (b:= -(d.cross u)) g1 (by grind);grind
    have q':(bc d).cross u=0:=by unfold aa.cross bc at*;grind
    have r':0<(bc d).dot u:=by unfold aa.dot bc at*;grind
    obtain⟨g,g1,g2⟩:=qD q' r';have:d.cross x= -(g*u.cross x):=by
     have h1:(bc d).x=g*u.x:=by rw[g2]
     have h2:(bc d).y=g*u.y:=by rw[g2]
     unfold bc at h1 h2;simp only at h1 h2;unfold aa.cross;grind
    have:=bj g1 hux;grind
 intro d hdm;rcases dF (d.cross x) with k|k|k
 ·exact absurd k (hx d hdm)
 ·rw[(iH _).2 k,(iH _).2 (key d hdm k)]
 ·have en: ∀y:aa,(bc d).cross y= -(d.cross y):=fun y=>by unfold aa.cross bc;grind
  have:=key _ (hd.neg d hdm) (by rw[en];grind);rw[en] at this;rw[rx k,rx (by grind)]
end Go.Sx
end
