import Derived.Test.YtmhfhhiaecjhiaaGreatDoorBr13
set_option linter.all false
set_option maxHeartbeats 4000000
set_option maxRecDepth 100000
section
namespace Go.Sx
open Go Go.Proofs Tryz
variable {GB:Gh}
def gv(out:List Rat)(s:ao):List Rat:=if s.nh then(if s.nl then out else eG s.lo out) else eG s.hi (if s.nl then out else eG s.lo out)
def f7(l:List ao):List Rat:=l.foldl gv []
def y6:List ao->Rat->Int
 |[],_=>0
 |s::t,x=>
  let a:=if s.nl then 1 else ce x s.lo
  let b:=if s.nh then-1 else ce x s.hi
  if 0<a/\b<0 then 2 else if(a=0/\b<=0)\/(b=0/\0<=a) then 1 else y6 t x
def mf(l:List ao)(x:Rat):Bool:=decide (y6 l x=2)
def fI(cuts:List Rat)(i:Nat):ao:=⟨if i=0 then 0 else cuts.getD (i-1) 0,if i<cuts.length then cuts.getD i 0 else 0,decide (i=0),decide (i=cuts.length)⟩
def pe(v w:ao):ao:=⟨v.lo,w.hi,v.nl,w.nh⟩
def gw(cuts:List Rat)(marks:List Bool):Nat->List ao
 |0=>[]
 |k+1=>
  let out:=gw cuts marks k
  if marks.getD k false then
   (if 0<k/\marks.getD (k-1) false=true then(match out.getLast? with
    |some v=>out.dropLast++[pe v (fI cuts k)]
    |none=>out++[fI cuts k]) else out++[fI cuts k])
  else out
def km(cuts:List Rat)(marks:List Bool):List ao:=gw cuts marks marks.length
def Ex(op:Int)(x y:Bool):Bool:=if op=2 then x&&y else if op=3 then x&&!y else if op=4 then x !=y else x||y
def gO(op:Int)(a b:List ao):List ao:=km (f7 (a++b)) ((gg (f7 (a++b))).map fun t=>Ex op (mf a t) (mf b t))
def sE(l m:ab)(side:Int):List ao:=
 if crossI l m=0 then(if(m.value l.base).num.sign=side then [ao.all] else [])
 else if(m.value (l.at (dH l (gG l m)+1))).num.sign=side then [⟨dH l (gG l m),0,false,true⟩] else [⟨0,dH l (gG l m),true,false⟩]
def sD(l m:ab):Bool:=decide (crossI l m=0/\(m.value l.base).num.sign=0)
def i0(f:aH)(m:ab)(side:Int):List aH:=if sD f.l m then [] else(gO 2 [f.v] (sE f.l m side)).map fun v=>⟨f.l,v⟩
def OL(l:List ao):(f7 l).Pairwise (· < ·)/\ ∀y∈f7 l,∃s∈l,(s.nl=false/\y=s.lo)\/(s.nh=false/\y=s.hi):=by
 have key: ∀(l:List ao) (o:List Rat),o.Pairwise (· < ·)->(l.foldl gv o).Pairwise (· < ·)/\ ∀y∈l.foldl gv o,y∈o\/ ∃s∈l,(s.nl=false/\y=s.lo)\/(s.nh=false/\y=s.hi):=by
  intro l
  induction l with
  |nil=>intro o h;exact⟨h,fun y hy=> .inl hy⟩
  |cons s t ih=>
   intro o h;have h1:(gv o s).Pairwise (· < ·)/\ ∀y∈gv o s,y∈o\/(s.nl=false/\y=s.lo)\/(s.nh=false/\y=s.hi):=by
    unfold gv
    cases e1:s.nl<;>cases e2:s.nh<;>simp only[if_true,cM,if_false]
    .refine⟨yj (yj h),fun y hy=>?_⟩
     rcases uT.1 hy with h|h
     .exact .inr (.inr ⟨trivial,h⟩)
     .rcases uT.1 h with h|h
      .exact .inr (.inl ⟨trivial,h⟩)
      .exact .inl h
    .refine⟨yj h,fun y hy=>?_⟩
     rcases uT.1 hy with h|h
     .exact .inr (.inl ⟨trivial,h⟩)
     .exact .inl h
    .refine⟨yj h,fun y hy=>?_⟩
     rcases uT.1 hy with h|h
     .exact .inr (.inr ⟨trivial,h⟩)
     .exact .inl h
    .exact⟨h,fun y hy=> .inl hy⟩
   obtain⟨k1,k2⟩:=ih (gv o s) h1.1;refine⟨k1,fun y hy=>?_⟩;rcases k2 y hy with h2|⟨q,hq,h2⟩
   .rcases h1.2 y h2 with h3|h3
    .exact .inl h3
    .exact .inr ⟨s,aQ,h3⟩
   .exact .inr ⟨q,aJ _ hq,h2⟩
 have:=key l [] List.Pairwise.nil;refine⟨this.1,fun y hy=>?_⟩;rcases this.2 y hy with h|h
 .cases h
 .exact h
structure EW (cuts:List Rat) (v:ao):Prop where
 z:iI v
 lo:v.nl=true\/v.lo∈cuts
 hi:v.nh=true\/v.hi∈cuts
def aA5{cuts:List Rat}{i:Nat}(h:i<=cuts.length):EW cuts (fI cuts i):=by
 unfold fI;refine⟨⟨fun e=>?_,fun e=>?_⟩,?_,?_⟩
 .simp only[decide_eq_true_eq] at e;simp[e]
 .simp only[decide_eq_true_eq] at e;simp[e]
 .by_cases h0:i=0
  .left;simp[h0]
  .right
   simp only[if_neg h0];rw[aK,aZ (by omega)];exact iZ _
 .by_cases h0:i=cuts.length
  .left;simp[h0]
  .right
   simp only[if_pos (show i<cuts.length by omega)];rw[aK,aZ (by omega)];exact iZ _
def I6{cuts:List Rat}{marks:List Bool}: ∀{k:Nat},k<=cuts.length+1-> ∀v∈gw cuts marks k,EW cuts v
 |0,_,v,hv=>by cases hv
 |k+1,hk,v,hv=>by
  have ih:=I6 (cuts:=cuts) (marks:=marks) (k:=k) (by omega);have hg:=aA5 (cuts:=cuts) (i:=k) (by omega);rw[gw] at hv;split at hv
  .split at hv
   .split at hv
    .rename_i w hw
     rcases bS.1 hv with h|h
     .exact ih v ((rT _).subset h)
     .rw[aY] at h;subst h
      have hw':=ih w (pJ hw);exact⟨⟨hw'.z.1,hg.z.2⟩,hw'.lo,hg.hi⟩
    .rcases bS.1 hv with h|h
     .exact ih v h
     .rw[aY] at h;subst h;exact hg
   .rcases bS.1 hv with h|h
    .exact ih v h
    .rw[aY] at h;subst h;exact hg
  .exact ih v hv
def Kk{l:List Rat}:(gg l).length=l.length+1:=by
 have key: ∀(l:List Rat) (a:Rat),(gP (a::l)).length=l.length:=by
  intro l
  induction l with
  |nil=>intro a;rfl
  |cons b t ih=>intro a;rw[gP,bY,ih b,bY]
 cases l with
 |nil=>rfl
 |cons a t=>rw[gg,bY,aL,key];simp
def awM{op:Int}{a b:List ao}: ∀v∈gO op a b,EW (f7 (a++b)) v:=fun v hv=>by
 unfold gO km at hv;refine I6 ?_ v hv;rw[aX,Kk];omega
structure lc (f:aH):Prop where
 lb:LB f.l
 ok:f.l.ok
 z:iI f.v
 lo:BQ f.v.lo 1200
 hi:BQ f.v.hi 1200
theorem BQ.zero1200:BQ (0:Rat) 1200:=BQ.mono (k:=1) ⟨by decide,by decide⟩
def XI{l m:ab}(hl:LB l)(hm:LB m)(hlo:l.ok){side:Int}: ∀v∈sE l m side,iI v/\BQ v.lo 1200/\BQ v.hi 1200:=fun v hv=>by
 unfold sE at hv;split at hv
 .split at hv
  .rw[aY] at hv;subst hv;exact⟨iI.all,BQ.zero1200,BQ.zero1200⟩
  .cases hv
 .rename_i hc
  have:=Ms hlo.ne hc;split at hv
  .rw[aY] at hv;subst hv;exact⟨⟨fun h=>(by cases h),fun _=>J⟩,this,BQ.zero1200⟩
  .rw[aY] at hv;subst hv;exact⟨⟨fun _=>J,fun h=>(by cases h)⟩,BQ.zero1200,this⟩
def BY{f:aH}{m:ab}(h:lc f)(hm:LB m){side:Int}: ∀g∈i0 f m side,lc g/\g.l=f.l/\sD f.l m=false:=fun g hg=>by
 unfold i0 at hg;split at hg
 .cases hg
 .rename_i ho
  obtain⟨v,hv,rfl⟩:=bX.1 hg;have hi:=awM v hv;have bd: ∀y∈f7 ([f.v]++sE f.l m side),BQ y 1200:=fun y hy=>by
   obtain⟨s,hs,h1⟩:=(OL _).2 y hy;rcases bS.1 hs with hs|hs
   .rw[aY] at hs;subst hs
    rcases h1 with⟨_,rfl⟩|⟨_,rfl⟩
    .exact h.lo
    .exact h.hi
   .have:=XI h.lb hm h.ok s hs
    rcases h1 with⟨_,rfl⟩|⟨_,rfl⟩
    .exact this.2.1
    .exact this.2.2
  refine⟨⟨h.lb,h.ok,hi.z,?_,?_⟩,J,by simpa using ho⟩
  .rcases hi.lo with e|e
   .rw[hi.z.1 e];exact BQ.zero1200
   .exact bd _ e
  .rcases hi.hi with e|e
   .rw[hi.z.2 e];exact BQ.zero1200
   .exact bd _ e
def iu(acc:aa->Bool):Nat->List aH->List ab->Tr
 |_,[],c=> .leaf (acc (vn c c))
 |0,_::_,_=> .leaf false
 |n+1,f::t,c=> .node f.l (iu acc n ((f::t).flatMap fun g=>i0 g f.l 1) (c++[f.l])) (iu acc n ((f::t).flatMap fun g=>i0 g f.l (-1)) (c++[f.l.rev]))
def aw4{f g:aH}{m:ab}{side:Int}(h:g∈i0 f m side):g.l=f.l:=by
 unfold i0 at h;split at h
 .cases h
 .obtain⟨v,_,rfl⟩:=bX.1 h;rfl
def qa{acc:aa->Bool}{P:ab->Prop}: ∀{n:Nat} {l:List aH} {c:List ab},(∀f∈l,P f.l)->(iu acc n l c).all P
 |n,[],c,_=>by unfold iu;trivial
 |0,_::_,_,_=>by unfold iu;trivial
 |n+1,f::t,c,h=>by
  rw[iu];refine⟨h f aQ,qa fun g hg=>?_,qa fun g hg=>?_⟩<;>
  .obtain⟨q,hq,hg⟩:=gQ.1 hg
   rw[aw4 hg];exact h q hq
def zg{acc:aa->Bool}: ∀{n:Nat} {l:List aH} {c:List ab},(iu acc n l c).depth<=n
 |n,[],c=>by unfold iu;exact aN _
 |0,_::_,_=>by unfold iu;exact aN _
 |n+1,f::t,c=>by
  rw[iu,Tr.depth];have h1:=zg (acc:=acc) (n:=n) (l:=(f::t).flatMap fun g=>i0 g f.l 1) (c:=c++[f.l]);have h2:=zg (acc:=acc) (n:=n) (l:=(f::t).flatMap fun g=>i0 g f.l (-1)) (c:=c++[f.l.rev]);omega
def lh(n:Nat)(l:List aH):Prop:= ∃K:List ab,K.length<=n/\ ∀f∈l,∃m∈K,m.same f.l
def alM{m:ab}(hm:m.Ne):m.value m.base=0:=by
 have h:=mD hm 0;rw[<-tg,jF] at h;grind
def ZN{l m:ab}(h:l.same m)(hm:m.Ne):sD m l=true:=by
 unfold sD;rw[decide_eq_true_iff];refine⟨?_,?_⟩
 .rcases h with rfl|rfl
  .unfold crossI;omega
  .unfold crossI ab.rev
   show(-l.a)*l.b-l.a*(-l.b)=0;grind
 .rw[lw]
  exact oH h.symm (alM hm)
def lh.split{n:Nat}{f:aH}{t:List aH}(h:lh (n+1) (f::t))(hok: ∀g∈f::t,lc g){side:Int}:lh n ((f::t).flatMap fun g=>i0 g f.l side):=by
 obtain⟨K,hK,hs⟩:=h;refine⟨K.filter fun m=>!decide (m.same f.l),?_,fun g hg=>?_⟩
 .obtain⟨m,hm,hm2⟩:=hs f aQ
  have:(K.filter fun m=>!decide (m.same f.l)).length<K.length:=by
   refine pQ.2 ⟨m,hm,by simp[hm2]⟩
  omega
 .obtain⟨q,hq,hg⟩:=gQ.1 hg
  obtain⟨_,e,ho⟩:=BY (hok q hq) (hok f aQ).lb g hg;obtain⟨m,hm,hm2⟩:=hs q hq;refine⟨m,qW.2 ⟨hm,?_⟩,by rw[e];exact hm2⟩;simp only[iX,decide_eq_false_iff_not];intro h;have:=ZN (h.symm.trans hm2) (hok q hq).ok.ne;rw[this] at ho;cases ho
def aC4{p q r:Bool}{a b c:Nat}(h:Nat.gcd a b≠0):ab.ok ⟨zv p (a/Nat.gcd (Nat.gcd a b) c),zv q (b/Nat.gcd (Nat.gcd a b) c),zv r (c/Nat.gcd (Nat.gcd a b) c)⟩:=by
 have hg:0<Nat.gcd (Nat.gcd a b) c:=kZ _ (eK h);have d0:Nat.gcd (Nat.gcd a b) c∣Nat.gcd a b:=iW _ _;have d1:Nat.gcd (Nat.gcd a b) c∣a:=nK d0 (iW _ _);have d2:Nat.gcd (Nat.gcd a b) c∣b:=nK d0 (jW _ _);have d3:Nat.gcd (Nat.gcd a b) c∣c:=jW _ _;refine⟨?_,?_⟩
 .rintro ⟨h1,h2⟩
  have h1':=congrArg Int.natAbs h1;have h2':=congrArg Int.natAbs h2;simp only[kI,Int.natAbs_zero] at h1' h2';have e1:=Nat.div_mul_cancel d1;have e2:=Nat.div_mul_cancel d2;rw[h1',jK] at e1;rw[h2',jK] at e2;exact h (by rw[<-e1,<-e2];rfl)
 .simp only[kI]
  rw[Nat.gcd_div d1 d2,Nat.gcd_div d0 d3,Nat.div_self hg]
def Gl(p:Bool)(a g:Nat):(zv p (a/g)).natAbs<=a:=by rw[kI];exact lU ..
def PF.eq{P:Program}{f:FuncId}{vs:List DV}{r r':DV}(h:PF GB P f vs r)(e:r=r'):PF GB P f vs r':=e▸h
def iP(m n:Int):aa:=⟨(m:Rat),(n:Rat)⟩
theorem jf{m:Int}{k:Nat}(h:m.natAbs<=1000)(hk:10<=k:=by decide):BI m k:=⟨u7 (bM (show m.natAbs<2^10 by omega) (bU (by decide) hk))⟩
instance aO.int (m n:Int) (i:Nat) [h:BI m i] [k:BI n i]:aO (iP m n) (i+1):=⟨inferInstanceAs (BQ (m:Rat) (i+1)),inferInstanceAs (BQ (n:Rat) (i+1))⟩
def SY{p:aa}{m n:Int}(h1:p.x=(m:Rat))(h2:p.y=(n:Rat)):eP p=eP (iP m n):=by
 obtain⟨x,y⟩:=p;simp only at h1 h2;subst h1 h2;rfl
def ge(a b c:Int):ab:=
 ⟨zv (decide (a<0)) (a.natAbs/Nat.gcd (Nat.gcd a.natAbs b.natAbs) c.natAbs),zv (decide (b<0)) (b.natAbs/Nat.gcd (Nat.gcd a.natAbs b.natAbs) c.natAbs),zv (decide (c<0)) (c.natAbs/Nat.gcd (Nat.gcd a.natAbs b.natAbs) c.natAbs)⟩
def PD{a b c:Int}(h: ¬(a=0/\b=0)):(ge a b c).ok:=
 aC4 fun e=>h ⟨iU.1 (jU e),iU.1 (jY e)⟩
def Pk(a b c:Int):(ge a b c).a.natAbs<=a.natAbs/\(ge a b c).b.natAbs<=b.natAbs/\(ge a b c).c.natAbs<=c.natAbs:=⟨Gl ..,Gl ..,Gl ..⟩
def lx{m n:Int}(hm:m.natAbs<=1000:=by decide)(hn:n.natAbs<=1000:=by decide):PF GB prog 26 [.v (.int .i64 m), .v (.int .i64 n)] (eP (iP m n)):=by
 refine fn func26 J J ntmps26 J J (fun C=>?_);refine cl J (AC (n:=m) (by omega) (by omega)) J<|cl J (AC (n:=n) (by omega) (by omega)) J<|rz J J
def NG{m n m' n' k:Int}(hm:m.natAbs<=1000)(hn:n.natAbs<=1000)(hm':m'.natAbs<=1000)(hn':n'.natAbs<=1000)(hk:k.natAbs<=1000:=by decide):PF GB prog 66 [eP (iP m n),eQ (k:Rat),eP (iP m' n')] (eP (iP (m+k*m') (n+k*n'))):=by
 haveI:=jf (k:=10) hm;haveI:=jf (k:=10) hn;haveI:=jf (k:=10) hm';haveI:=jf (k:=10) hn';haveI:=jf (k:=10) hk;exact PF.eq (Wr (p:=iP m n) (q:=iP m' n') (c:=(k:Rat))) (SY (by show(m:Rat)+(k:Rat)*(m':Rat)=_;push_cast;rfl) (by show(n:Rat)+(k:Rat)*(n':Rat)=_;push_cast;rfl))
def FF{m n m' n':Int}(hm:m.natAbs<=1000:=by omega)(hn:n.natAbs<=1000:=by omega)(hm':m'.natAbs<=1000:=by omega)(hn':n'.natAbs<=1000:=by omega):PF GB prog 39 [eP (iP m n),eP (iP m' n')] (.v (.bool (decide (m=m'/\n=n')))):=by
 haveI:=jf (k:=10) hm;haveI:=jf (k:=10) hn;haveI:=jf (k:=10) hm';haveI:=jf (k:=10) hn';refine fn func39 J J ntmps39 J J (fun C=>?_);refine cl J (wK (a:=(m:Rat)) (b:=(m':Rat))) J<|cs 11 J J J (fun hg11=>?_) (fun hg11=>?_)
 .
  refine cl J (wK (a:=(n:Rat)) (b:=(n':Rat))) J<|rz J (by rw[oz] at hg11;have e:m=m':=(by exact_mod_cast hg11);exact congrArg (fun z=>DV.v (.bool z)) (decide_eq_decide.2 (by rw[oz,mL];simp[e])))
 .
  exact rz J (by rw[oz] at hg11;have e: ¬m=m':=(fun e=>hg11 (by rw[e]));show DV.v (.bool false)=DV.v (.bool _);rw[decide_eq_false (fun h=>e h.1)])
def jd(n n':Int):Int:= -(n'-n)
def ji(m m':Int):Int:=m'-m
def oy(m n m' n':Int):Int:= -(jd n n'*m+ji m m'*n)
def ja(m n m' n':Int):ab:=ge (jd n n') (ji m m') (oy m n m' n')
def I1{a b:Int}(ha:a.natAbs<=2000)(hb:b.natAbs<=1000):(a*b).natAbs<=2000000:=by
 rw[fX];exact kW ha hb
def UI{es:List Int}{a:Nat}(h:a<es.length):(es.map vI)[(a:Int).toNat]? =some (vI es[a]):=by simp[h]
def Rr:eP (iP 0 0)= .ag [.v (.bool false), .sl [], .sl [], .v (.bool false), .sl [], .sl []]:=by
 unfold eP iP;simp[uc,dD]
def aB(es:List Int)(n:Int)(a:Nat):Nat×Nat:=
 if h:a<es.length then((if Int.tmod es[a] n<0 then Int.tmod es[a] n+n else Int.tmod es[a] n).toNat,a+1) else(0,a)
def kv{es:List Int}{n:Int}{a:Nat}(hn:1<=n:=by decide):((aB es n a).1:Int)<n:=by
 unfold aB;split
 .rename_i h
  have q2:=Int.tmod_lt_of_pos es[a] (show 0<n by omega);dsimp only;split<;>omega
 .exact hn
def jk{es:List Int}{n:Int}{a:Nat}(ha:a<=es.length):(aB es n a).2<=es.length:=by
 unfold aB;split
 .assumption
 .exact ha
def pF(es:List Int)(a:Nat):(Int×Int)×Nat:=((((aB es 9 a).1:Int)-4,((aB es 9 (aB es 9 a).2).1:Int)-4),(aB es 9 (aB es 9 a).2).2)
def vh{es:List Int}{a:Nat}(ha:a<=es.length):(pF es a).1.1.natAbs<=4/\(pF es a).1.2.natAbs<=4/\(pF es a).2<=es.length:=by
 have h1:=kv (es:=es) (n:=9) (a:=a);have h2:=kv (es:=es) (n:=9) (a:=(aB es 9 a).2);have h3:=jk (n:=9) (jk (es:=es) (n:=9) ha);unfold pF;exact⟨by dsimp only;omega,by dsimp only;omega,h3⟩
def vF(es:List Int)(a:Nat):(Int×Int)×Nat:=if(pF es a).1.1=0/\(pF es a).1.2=0 then((1,0),(pF es a).2) else pF es a
def xb{es:List Int}{a:Nat}(ha:a<=es.length):(vF es a).1.1.natAbs<=4/\(vF es a).1.2.natAbs<=4/\ ¬((vF es a).1.1=0/\(vF es a).1.2=0)/\(vF es a).2<=es.length:=by
 obtain⟨h1,h2,h3⟩:=vh ha;unfold vF;split
 .exact⟨show(1:Int).natAbs<=4 by decide,show(0:Int).natAbs<=4 by decide,show¬((1:Int)=0/\(0:Int)=0) by decide,h3⟩
 .rename_i h;exact⟨h1,h2,h,h3⟩
def lF(es:List Int)(a:Nat):ab×Nat:=(ja (pF es a).1.1 (pF es a).1.2 ((pF es a).1.1+1*(vF es (pF es a).2).1.1) ((pF es a).1.2+1*(vF es (pF es a).2).1.2),(vF es (pF es a).2).2)
def lu(es:List Int):Nat->Nat->Tr×Nat
 |0,a=>(.leaf (decide (((aB es 2 a).1:Int)=1)),(aB es 2 a).2)
 |d+1,a=>if((aB es 4 a).1:Int)=0 then(.leaf (decide (((aB es 2 (aB es 4 a).2).1:Int)=1)),(aB es 2 (aB es 4 a).2).2) else
  (.node (lF es (aB es 4 a).2).1 (lu es d (lF es (aB es 4 a).2).2).1 (lu es d (lu es d (lF es (aB es 4 a).2).2).2).1,(lu es d (lu es d (lF es (aB es 4 a).2).2).2).2)
def qH{b:Nat}{es:List Int}(hes:es.length<=400){a:Nat}(ha:a<=es.length){n:Int}(hn:1<=n:=by decide)(hn2:n<=1000:=by decide):PM GB prog 27 (iw [none,some (.v (.int .i64 n))] b) b 85 [.sl (es.map vI), .v (.int .i64 (a:Nat))] (.v (.int .i64 ((aB es n a).1:Nat))) [.sl (es.map vI), .v (.int .i64 ((aB es n a).2:Nat))]:=by
 have hel:(es.map vI).length=es.length:=by simp
 refine uj func27 J J ntmps27 J J (fun C b m lo hmb=>?_);refine br J J J (fun hc15=>?_) (fun hc15=>?_)
 .
  have hf:aB es n a=(0,a):=by unfold aB;rw[dif_neg (by omega)]
  exact lm hmb J J (by rw[hf]<;>rfl) (by rw[hf]<;>rfl)
 .
  have hal:a<es.length:=by omega
  obtain⟨e,he⟩: ∃e,e=es[a]:=⟨_,rfl⟩;have q2:=Int.tmod_lt_of_pos e (show 0<n by omega);have q3: -n<Int.tmod e n:=by have:=Int.lt_tmod_of_pos e (show 0<n by omega);omega
  refine ix (fu:=⟨1⟩) _ J (UI hal) J<|ah 25 (.d (vI e)) J (by rw[he]<;>rfl)<|gx (hv:=by simp only[aj];exact⟨⟨by omega,by kernel_rfl⟩,by omega⟩) J<|br J J J (fun hc36=>?_) (fun hc36=>?_)
  .
   have hf:aB es n a=((Int.tmod e n+n).toNat,a+1):=by unfold aB;rw[dif_pos hal,<-he,if_pos hc36]
   exact lm hmb J J (by rw[hf];show DV.v (.int .i64 _)=DV.v (.int .i64 _);rw[pM (by omega)]) (by rw[hf]<;>rfl)
  .
   have hf:aB es n a=((Int.tmod e n).toNat,a+1):=by unfold aB;rw[dif_pos hal,<-he,if_neg hc36]
   exact lm hmb J J (by rw[hf];show DV.v (.int .i64 _)=DV.v (.int .i64 _);rw[pM (by omega)]) (by rw[hf]<;>rfl)
def Fc{b:Nat}{es:List Int}(hes:es.length<=400){a:Nat}(ha:a<=es.length):PM GB prog 62 (iw [none] b) b 85 [.sl (es.map vI), .v (.int .i64 (a:Nat))] (eP (iP (pF es a).1.1 (pF es a).1.2)) [.sl (es.map vI), .v (.int .i64 ((pF es a).2:Nat))]:=by
 have h1:=kv (es:=es) (n:=9) (a:=a);have h2:=kv (es:=es) (n:=9) (a:=(aB es 9 a).2);refine uj func62 J J ntmps62 J J (fun C b m lo hmb=>?_);refine cm J (fun b=>(qH (n:=9) hes ha)) J<|cm J (fun b=>(qH (n:=9) hes (jk ha))) J<|cl J (lx (m:=((aB es 9 a).1:Int)-4) (n:=((aB es 9 (aB es 9 a).2).1:Int)-4) (by omega) (by omega)) J<|?_;exact lm hmb J J J J
def N7{b:Nat}{es:List Int}(hes:es.length<=400){a:Nat}(ha:a<=es.length):PM GB prog 63 (iw [none] b) b 85 [.sl (es.map vI), .v (.int .i64 (a:Nat))] (eP (iP (vF es a).1.1 (vF es a).1.2)) [.sl (es.map vI), .v (.int .i64 ((vF es a).2:Nat))]:=by
 obtain⟨hm,hn,ha1⟩:=vh ha;refine uj func63 J J ntmps63 J J (fun C b m lo hmb=>?_);refine cm (fu:=⟨9⟩) J (fun b=>(Fc hes ha)) J<|ah 7 (.d (eP (iP 0 0))) J (by rw[Rr]<;>rfl)<|gx J<|cl J (FF (m:=(pF es a).1.1) (n:=(pF es a).1.2) (m':=0) (n':=0) (by omega) (by omega) (by decide) (by decide)) J<|bd J J J (fun hc8=>?_) (fun hc8=>?_)
 .
  have hf:vF es a=((1,0),(pF es a).2):=by unfold vF;rw[if_pos hc8]
  refine cl J (lx (m:=1) (n:=0)) J<|?_;exact lm hmb J J (by rw[hf]<;>rfl) (by rw[hf])
 .
  have hf:vF es a=pF es a:=by unfold vF;rw[if_neg hc8]
  exact lm hmb J J (by rw[hf]<;>rfl) (by rw[hf])
abbrev ZP:=Int×Int
def ZP.q(p:ZP):aa:=iP p.1 p.2
def ZP.le(k:Nat)(p:ZP):Prop:=p.1.natAbs<=k/\p.2.natAbs<=k
def tY(p q:ZP):ZP:=(p.1+1*q.1,p.2+1*q.2)
def qd(u v:ZP):Int:=u.1*v.2-u.2*v.1
theorem RH{m n p q:Int}(hm:m.natAbs<=1000)(hn:n.natAbs<=1000)(hp:p.natAbs<=1000)(hq:q.natAbs<=1000)(h: ¬(p=m/\q=n)):LB (ja m n p q)/\(ja m n p q).ok:=by
 have e1:(jd n q).natAbs<=2000:=by unfold jd;omega
 have e2:(ji m p).natAbs<=2000:=by unfold ji;omega
 have e3:=I1 e1 hm;have e4:=I1 e2 hn;have e5:(oy m n p q).natAbs<=4000000:=by unfold oy;omega
 unfold ja;obtain⟨k1,k2,k3⟩:=Pk (jd n q) (ji m p) (oy m n p q);have hb: ∀{a:Nat},a<=4000000->a<2^576:=fun h=>Ji (m:=30) (k:=576) (show _<2^30 by omega) (by decide);refine⟨⟨⟨hb (by omega),hb (by omega),hb (by omega)⟩⟩,PD ?_⟩
 .unfold jd ji;omega
def di(v w:ZP):aH:=⟨ja v.1 v.2 w.1 w.2,⟨dH (ja v.1 v.2 w.1 w.2) v.q,dH (ja v.1 v.2 w.1 w.2) w.q,false,false⟩⟩
def et(r:List ZP)(i:Nat):ZP:=r.getD ((i+1)%r.length) (0,0)
def kt(r:List ZP):Nat->List aH
 |0=>[]
 |k+1=>kt r k++[di (r.getD k (0,0)) (et r k)]
def ij(r:List ZP):List aH:=kt r r.length
structure dz (r:List ZP):Prop where
 n3:3<=r.length
 n6:r.length<=6
 le: ∀p∈r,ZP.le 100 p
 ne: ∀i<r.length,r.getD i (0,0)≠et r i
def xZ{r:List ZP}{i:Nat}(h:i<r.length):r.getD i (0,0)∈r:=by
 rw[aK,aZ h];exact iZ h
def Ae{r:List ZP}{i:Nat}(h:i<r.length):et r i∈r:=xZ (dQ _ (by omega))
theorem BQ.int1200{m:Int}(h:m.natAbs<=1000:=by decide):BQ (m:Rat) 1200:=by
 haveI:BI m 11:=jf h;exact BQ.mono (inferInstance:BQ (m:Rat) 12)
theorem Jm{l:ab}(hl:LB l)(ho:l.ok){m n:Int}(hm:m.natAbs<=1000)(hn:n.natAbs<=1000):BQ (dH l (iP m n)) 1200:=by
 haveI:=jf (k:=11) hm;haveI:=jf (k:=11) hn;have hd:=y7 ho.ne;have hA:BI (l.a*l.a+l.b*l.b) _:=inferInstance;have hB:BI (m*l.b-n*l.a) _:=inferInstance;have hA':=CL (j:=1200) hA;have hB':=CL (j:=1200) hB;have e1:l.dir.dot l.dir=((l.a*l.a+l.b*l.b:Int):Rat):=by
  rw[oU,cK,cK];simp only[ab.dir,aa.dot];grind
 have e2:(iP m n).dot l.dir=((m*l.b-n*l.a:Int):Rat):=by
  rw[oT,cK,cK];simp only[ab.dir,aa.dot,iP];grind
 have hd':((0:Int):Rat)<((l.a*l.a+l.b*l.b:Int):Rat):=by rw[<-e1];exact hd
 unfold dH;rw[e2,e1];clear hA hB e1 e2;generalize l.a*l.a+l.b*l.b=D at*;generalize m*l.b-n*l.a=M at*;have hD:0<D:=rK.1 hd';refine BQ.of_fracI (n:=M) (D:=D) (by omega) ?_ hB' hA';have h0:(D:Rat)≠0:=fun e=>by rw[e] at hd';exact absurd hd' (by decide)
 have:((D.natAbs:Nat):Rat)=(D:Rat):=by
  have h1:((D.natAbs:Nat):Int)=D:=by omega
  rw[<-h1];rfl
 rw[this];grind
def MX{v w:ZP}(hv:ZP.le 100 v)(hw:ZP.le 100 w)(h:v≠w):lc (di v w):=by
 obtain⟨h1,h2⟩:=RH (m:=v.1) (n:=v.2) (p:=w.1) (q:=w.2) (by have:=hv.1;omega) (by have:=hv.2;omega) (by have:=hw.1;omega) (by have:=hw.2;omega) (fun e=>h (Prod.ext e.1.symm e.2.symm));exact⟨h1,h2,⟨fun e=>(by cases e),fun e=>(by cases e)⟩,Jm h1 h2 (by have:=hv.1;omega) (by have:=hv.2;omega),Jm h1 h2 (by have:=hw.1;omega) (by have:=hw.2;omega)⟩
def KZ{r:List ZP}(h:dz r): ∀{k:Nat},k<=r.length->(kt r k).length=k/\ ∀f∈kt r k,lc f
 |0,_=>⟨J,fun f hf=>by cases hf⟩
 |k+1,hk=>by
  obtain⟨h1,h2⟩:=KZ h (k:=k) (by omega);rw[kt];refine⟨by simp[h1],fun f hf=>?_⟩;rcases bS.1 hf with hf|hf
  .exact h2 f hf
  .rw[aY] at hf;subst hf
   exact MX (h.le _ (xZ (by omega))) (h.le _ (Ae (by omega))) (h.ne k (by omega))
def ud{r:List ZP}(h:dz r):(ij r).length=r.length/\ ∀f∈ij r,lc f:=KZ h (bQ _)
def cP(rs:List (List ZP)):List aH:=rs.flatMap ij
def qI: ∀{rs:List (List ZP)},(∀r∈rs,dz r)->(cP rs).length<=6*rs.length/\ ∀f∈cP rs,lc f
 |[],_=>⟨bQ _,fun f hf=>by cases hf⟩
 |r::rs,h=>by
  obtain⟨h1,h2⟩:=qI (rs:=rs) fun q hq=>h q (aJ _ hq);obtain⟨k1,k2⟩:=ud (h r aQ);have:=(h r aQ).n6;unfold cP at*;rw[lY];refine⟨by rw[aL,k1,bY];omega,fun f hf=>?_⟩;rcases bS.1 hf with hf|hf
  .exact k2 f hf
  .exact h2 f hf
def tu(a b c:aa):Int:=(aa.cross (dB b a (-1)) (dB c a (-1))).num.sign
def z8(v w p:aa):Int:=
 (if ce v.y p.y<=0/\ ¬ce w.y p.y<=0/\0<tu v w p then 1 else 0)-(if¬ce v.y p.y<=0/\ce w.y p.y<=0/\tu v w p<0 then 1 else 0)
def xV(r:List ZP)(p:aa):Nat->Int
 |0=>0
 |k+1=>xV r p k+z8 (r.getD k (0,0)).q (et r k).q p
def oh(r:List ZP)(p:aa):Int:=xV r p r.length
def mm(fill n:Int):Bool:=(decide (fill=1)&&decide (n.tmod 2≠0))||(decide (fill=2)&&decide (n≠0))
def jp(rs:List (List ZP))(fill:Int)(p:aa):Bool:=mm fill (rs.foldl (fun n r=>n+oh r p) 0)
def oo(rs:List (List ZP))(fill:Int):Tr:=iu (jp rs fill) (cP rs).length (cP rs) []
def iB(rs:List (List ZP))(fill:Int):Tr:=(oo rs fill).restrict []
structure mO (k:Nat) (t:Tr):Prop where
 gd:t.gd
 dp:t.depth<=k
 am: ∃K:List ab,K.length<=k/\(∀l∈K,l.ok)/\kg K t
def aCp{acc:aa->Bool}{n:Nat}{l:List aH}(h: ∀f∈l,lc f)(hn:l.length=n):mO n (iu acc n l []):=
 ⟨⟨qa fun f hf=>(h f hf).lb,qa fun f hf=>(h f hf).ok⟩,zg,l.map (·.l),by rw[aX,hn];exact bQ _,fun m hm=>by
  obtain⟨f,hf,rfl⟩:=bX.1 hm;exact(h f hf).ok,qa fun f hf=>⟨f.l,fZ hf, .inl rfl⟩⟩
def mO.restrict{k:Nat}{t:Tr}(h:mO k t)(c:aA):mO k (t.restrict c):=by
 obtain⟨K,h1,h2,h3⟩:=h.am;exact⟨Dz h.gd c,dJ (t.restrict_depth c) h.dp,K,h1,h2,h3.restrict c⟩
def mO.mono{j k:Nat}{t:Tr}(h:mO j t)(hk:j<=k):mO k t:=by
 obtain⟨K,h1,h2,h3⟩:=h.am;exact⟨h.gd,dJ h.dp hk,K,by omega,h2,h3⟩
def avY{rs:List (List ZP)}{fill:Int}(h: ∀r∈rs,dz r)(hn:rs.length<=3):mO 18 (iB rs fill):=by
 obtain⟨h1,h2⟩:=qI h;exact((aCp (acc:=jp rs fill) h2 J).restrict []).mono (by omega)
def jA(p q:ZP):Int:=if p.1<q.1 then-1 else if q.1<p.1 then 1 else if p.2<q.2 then-1 else if q.2<p.2 then 1 else 0
def je(x:ZP):List ZP->List ZP
 |[]=>[x]
 |u::t=>if jA u x<0 then u::je x t else if jA u x=0 then u::t else x::u::t
def nC(l:List ZP):List ZP:=l.foldl (fun out x=>je x out) []
def OC{x:ZP}: ∀{l:List ZP},(je x l).length<=l.length+1
 |[]=>bQ _
 |u::t=>by
  rw[je];have:=OC (x:=x) (l:=t);split
  .simp;omega
  .split<;>simp
def Yw(l:List ZP):(nC l).length<=l.length:=by
 have key: ∀(l o:List ZP),(l.foldl (fun out x=>je x out) o).length<=l.length+o.length:=by
  intro l
  induction l with
  |nil=>intro o;simp
  |cons x t ih=>intro o;have:=ih (je x o);have:=OC (x:=x) (l:=o);simp only[dY,bY];omega
 have:=key l [];simpa[nC] using this
def n7(a b c d:Int):List ZP:=[(a,b),(c,b),(c,d),(a,d)]
def E3{r:List ZP}{i:Nat}(h:i+1<r.length:=by omega):et r i=r.getD (i+1) (0,0):=by unfold et;rw[jQ h]
def Em{r:List ZP}{i:Nat}(h:i+1=r.length:=by omega):et r i=r.getD 0 (0,0):=by unfold et;rw[h,Nat.mod_self]
def VR{a b c d:Int}(h1:a.natAbs<=50)(h2:b.natAbs<=50)(h3:c.natAbs<=50)(h4:d.natAbs<=50)(h5:a<c)(h6:b<d):dz (n7 a b c d):=by
 refine⟨by simp[n7],by simp[n7],fun p hp=>?_,fun i hi=>?_⟩
 .simp only[n7,aU,jS,or_false] at hp
  rcases hp with rfl|rfl|rfl|rfl<;>exact⟨by dsimp only;omega,by dsimp only;omega⟩
 .have:i=0\/i=1\/i=2\/i=3:=by simp[n7] at hi;omega
  rcases this with rfl|rfl|rfl|rfl<;>simp[n7,et]<;>omega
def pA(p u v:ZP):List ZP:=[p,tY p u,tY p v]
def aC6{p u v:ZP}(h1:ZP.le 40 p)(h2:ZP.le 40 u)(h3:ZP.le 40 v)(h:qd u v≠0):dz (pA p u v):=by
 obtain⟨p1,p2⟩:=p;obtain⟨u1,u2⟩:=u;obtain⟨v1,v2⟩:=v;unfold ZP.le at h1 h2 h3;dsimp only at h1 h2 h3;unfold qd at h;dsimp only at h;refine⟨by simp[pA],by simp[pA],fun p hp=>?_,fun i hi=>?_⟩
 .simp only[pA,tY,aU,jS,or_false] at hp
  rcases hp with rfl|rfl|rfl<;>exact⟨by dsimp only;omega,by dsimp only;omega⟩
 .have:i=0\/i=1\/i=2:=by simp[pA] at hi;omega
  have hu: ¬(u1=0/\u2=0):=fun e=>h (by rw[e.1,e.2];simp);have hv: ¬(v1=0/\v2=0):=fun e=>h (by rw[e.1,e.2];simp);have huv: ¬(u1=v1/\u2=v2):=fun e=>h (by rw[e.1,e.2,qN];omega);rcases this with rfl|rfl|rfl<;>simp[pA,tY,et]<;>omega
def lH(es:List Int):Nat->Nat->List ZP->List ZP×Nat
 |0,a,out=>(out,a)
 |n+1,a,out=>lH es n (pF es a).2 (if out.getLast? =some (pF es a).1 then out else out++[(pF es a).1])
structure jy (r:List ZP):Prop where
 ne: ∀i,i+1<r.length->r.getD i (0,0)≠r.getD (i+1) (0,0)
 le: ∀p∈r,ZP.le 100 p
def jy.snoc{r:List ZP}{p:ZP}(h:jy r)(hp:ZP.le 100 p)(hl:r.getLast? ≠some p):jy (r++[p]):=by
 refine⟨fun i hi=>?_,fun q hq=>?_⟩
 .rw[aL,jX] at hi
  rw[aK,aK];by_cases h1:i+1<r.length
  .rw[eX (by omega),eX h1]
   have:=h.ne i h1;rwa [aK,aK] at this
  .have e:i+1=r.length:=by omega
   rw[eX (by omega),e,gK (bQ _),nN];rw[kN,<-e,mJ] at hl;rw[aZ (by omega)] at hl⊢;intro c;exact hl (by simpa using c)
 .rcases bS.1 hq with hq|hq
  .exact h.le q hq
  .rw[aY] at hq;subst hq;exact hp
def Gg{es:List Int}: ∀{n a:Nat} {out:List ZP},a<=es.length->jy out->jy (lH es n a out).1/\(lH es n a out).1.length<=out.length+n/\(lH es n a out).2<=es.length
 |0,a,out,ha,h=>⟨h,bQ _,ha⟩
 |n+1,a,out,ha,h=>by
  obtain⟨h1,h2,h3⟩:=vh ha;rw[lH];by_cases hl:out.getLast? =some (pF es a).1
  .rw[if_pos hl]
   obtain⟨k1,k2,k3⟩:=Gg (n:=n) h3 h;exact⟨k1,by omega,k3⟩
  .rw[if_neg hl]
   obtain⟨k1,k2,k3⟩:=Gg (n:=n) h3 (h.snoc (p:=(pF es a).1) ⟨by omega,by omega⟩ hl);rw[aL,jX] at k2;exact⟨k1,by omega,k3⟩
def jc:Nat->List ZP->List ZP
 |0,l=>l
 |n+1,l=>if 1<l.length/\l.getD 0 (0,0)=l.getD (l.length-1) (0,0) then jc n l.dropLast else l
def jy.drop{r:List ZP}(h:jy r):jy r.dropLast:=by
 refine⟨fun i hi=>?_,fun p hp=>h.le p ((rT _).subset hp)⟩;rw[mN] at hi;have:=h.ne i (by omega);rw[aK,aK] at this⊢;rw[List.getElem?_dropLast,List.getElem?_dropLast,if_pos (by omega),if_pos (by omega)];exact this
def OA: ∀{n:Nat} {l:List ZP},jy l->l.length<=n+1->jy (jc n l)/\(jc n l).length<=l.length/\(1<(jc n l).length->(jc n l).getD 0 (0,0)≠(jc n l).getD ((jc n l).length-1) (0,0))
 |0,l,h,hn=>⟨h,bQ _,fun k=>absurd k (by unfold jc;omega)⟩
 |n+1,l,h,hn=>by
  rw[jc];split
  .obtain⟨h1,h2,h3⟩:=OA (n:=n) h.drop (by rw[mN];omega)
   rw[mN] at h2;exact⟨h1,by omega,h3⟩
  .rename_i hc
   exact⟨h,bQ _,fun k e=>hc ⟨k,e⟩⟩
def Zb{r:List ZP}(h:jy r)(h6:r.length<=6)(hc:1<r.length->r.getD 0 (0,0)≠r.getD (r.length-1) (0,0))(h3:3<=(nC r).length):dz r:=by
 have:=Yw r;refine⟨by omega,h6,h.le,fun i hi=>?_⟩;by_cases h1:i+1<r.length
 .rw[E3 h1];exact h.ne i h1
 .have e:i+1=r.length:=by omega
  rw[Em e];have:=hc (by omega);rw[show i=r.length-1 by omega];exact fun k=>this k.symm
def vE:List ZP:=[(0,0),(2,0),(0,2)]
def Qr:dz vE:=⟨by decide,by decide,fun p hp=>by
  simp only[vE,aU,jS,or_false] at hp;rcases hp with rfl|rfl|rfl<;>exact⟨by decide,by decide⟩,fun i hi=>by
  have:i=0\/i=1\/i=2:=by simp[vE] at hi;omega
  rcases this with rfl|rfl|rfl<;>decide⟩
def nk(es:List Int)(a:Nat):List ZP×Nat:=
 ((if(nC (jc 6 (lH es (3+(aB es 4 a).1) (aB es 4 a).2 []).1)).length<3 then vE else jc 6 (lH es (3+(aB es 4 a).1) (aB es 4 a).2 []).1),(lH es (3+(aB es 4 a).1) (aB es 4 a).2 []).2)
def jy.nil:jy []:=⟨fun i hi=>by simp at hi,fun p hp=>by cases hp⟩
def Fp{es:List Int}{a:Nat}(ha:a<=es.length):dz (nk es a).1/\(nk es a).2<=es.length:=by
 have h1:=kv (es:=es) (n:=4) (a:=a);obtain⟨k1,k2,k3⟩:=Gg (n:=3+(aB es 4 a).1) (jk (n:=4) ha) jy.nil;obtain⟨t1,t2,t3⟩:=OA (n:=6) k1 (by simp at k2;omega);refine⟨?_,k3⟩;unfold nk;dsimp only;split
 .exact Qr
 .exact Zb t1 (by simp at k2;omega) t3 (by omega)
def xP(es:List Int)(n m k:Int)(a:Nat):List ZP×Nat:=
 let x:=aB es n a
 let y:=aB es n x.2
 let z:=aB es m y.2
 let w:=aB es m z.2
 (n7 ((x.1:Int)-k) ((y.1:Int)-k) ((x.1:Int)-k+1+z.1) ((y.1:Int)-k+1+w.1),w.2)
def RU{es:List Int}{n m k:Int}{a:Nat}(ha:a<=es.length)(hn:1<=n:=by decide)(hn2:n<=10:=by decide)(hm:1<=m:=by decide)(hm2:m<=10:=by decide)(hk:0<=k:=by decide)(hk2:k<=10:=by decide):dz (xP es n m k a).1/\(xP es n m k a).2<=es.length:=by
 have h1:=kv (es:=es) (a:=a) hn;have h2:=kv (es:=es) (a:=(aB es n a).2) hn;have h3:=kv (es:=es) (a:=(aB es n (aB es n a).2).2) hm;have h4:=kv (es:=es) (a:=(aB es m (aB es n (aB es n a).2).2).2) hm;exact⟨VR (by omega) (by omega) (by omega) (by omega) (by omega) (by omega),jk (jk (jk (jk ha)))⟩
def gt(es:List Int)(a:Nat):List ZP×Nat:=
 let k:=aB es 4 a
 if(k.1:Int)=0 then xP es 5 4 4 k.2
 else if(k.1:Int)=1 then
  let p:=pF es k.2
  let u:=vF es p.2
  let v:=vF es u.2
  if qd u.1 v.1≠0 then(pA p.1 u.1 v.1,v.2) else nk es v.2
 else nk es k.2
def Hn{es:List Int}{a:Nat}(ha:a<=es.length):dz (gt es a).1/\(gt es a).2<=es.length:=by
 have h0:=jk (n:=4) ha;unfold gt;dsimp only;split
 .exact RU h0
 .split
  .obtain⟨p1,p2,p3⟩:=vh h0
   obtain⟨u1,u2,u3,u4⟩:=xb p3;obtain⟨v1,v2,v3,v4⟩:=xb u4;split
   .rename_i hc
    exact⟨aC6 ⟨by omega,by omega⟩ ⟨by omega,by omega⟩ ⟨by omega,by omega⟩ hc,v4⟩
   .exact Fp v4
  .exact Fp h0
def XM:List ZP:=[(0,0),(1,0),(0,1)]
def wq(es:List Int)(a:Nat):List ZP×Nat:=
 let k:=aB es 2 a
 if(k.1:Int)=0 then xP es 3 2 1 k.2
 else
  let x:=aB es 3 k.2
  let y:=aB es 3 x.2
  let u1:=aB es 2 y.2
  let u2:=aB es 3 u1.2
  let v1:=aB es 3 u2.2
  let v2:=aB es 2 v1.2
  (if 0<qd (1+(u1.1:Int),(u2.1:Int)-1) ((v1.1:Int)-1,1+(v2.1:Int)) then pA ((x.1:Int)-1,(y.1:Int)-1) (1+(u1.1:Int),(u2.1:Int)-1) ((v1.1:Int)-1,1+(v2.1:Int)) else XM,v2.2)
def ta(es:List Int)(a:Nat):Tr×Nat:=
 let r:=gt es a
 let k:=aB es 3 r.2
 if(k.1:Int)=0 then
  let s:=gt es k.2
  let f:=aB es 2 s.2
  (iB [r.1,s.1] (1+(f.1:Int)),f.2)
 else
  let f:=aB es 2 k.2
  (iB [r.1] (1+(f.1:Int)),f.2)
def BX(l:ab):Tr:=(Tr.node l (.leaf true) (.leaf false)).restrict []
def rH(es:List Int):Nat->Nat->Tr×Nat
 |0,a=>
  let k:=aB es 6 a
  if(k.1:Int)=1 then(BX (lF es k.2).1,(lF es k.2).2)
  else if(k.1:Int)=2 then((lu es 3 k.2).1.restrict [],(lu es 3 k.2).2)
  else if(k.1:Int)=3 then((ta es k.2).1.compl,(ta es k.2).2)
  else ta es k.2
 |d+1,a=>
  let k:=aB es 6 a
  if(k.1:Int)=0 then
   let x:=rH es d k.2
   let o:=aB es 4 x.2
   let y:=rH es d o.2
   (x.1.mergeQ (1+(o.1:Int)) y.1 [],y.2)
  else if(k.1:Int)=1 then(BX (lF es k.2).1,(lF es k.2).2)
  else if(k.1:Int)=2 then((lu es 3 k.2).1.restrict [],(lu es 3 k.2).2)
  else if(k.1:Int)=3 then((ta es k.2).1.compl,(ta es k.2).2)
  else ta es k.2
def aLt(es:List Int)(a:Nat):Tr×Nat:=
 let k:=aB es 4 a
 if(k.1:Int)=0 then(BX (lF es k.2).1,(lF es k.2).2)
 else if(k.1:Int)=1 then((lu es 2 k.2).1.restrict [],(lu es 2 k.2).2)
 else(iB [(wq es k.2).1] 2,(wq es k.2).2)
def Iv(op:Int)(a b:Tr):Bool:=decide ((a.mergeQ op b []).isLeaf=true/\(a.mergeQ op b []).code=false)
def aER(a b:Tr):Int:=if Iv 4 a b then 0 else if Iv 3 a b then-1 else if Iv 3 b a then 1 else 2
def sI:Tr->aa->Bool
 | .leaf b,_=>b
 | .node l x y,p=>if(l.value p).num.sign=1 then sI x p else if(l.value p).num.sign= -1 then sI y p else false
def wX(t:Tr):List aA:=((t.parts []).filter (·.1)).map (·.2)
def ik(l:ab)(p:aa):aA->Rat->Rat
 |[],f=>f
 |s::c,f=>ik l p c (if Int.sign (s.l.nor.dot l.nor).num<0 then(if-(s.l.value p/s.l.nor.dot l.nor)<f then-(s.l.value p/s.l.nor.dot l.nor) else f) else f)
def pf:aA->aa
 |[]=>⟨0,0⟩
 |s::c=>dB (s.l.at s.v.sample) s.l.nor (ik s.l (s.l.at s.v.sample) c 1*mkRat 1 2)
def Hu{v k:Rat}(hk:k<0)(hv:0<v):0< -(v/k):=by
 have e: -(v/k)* -k=v:=by grind
 exact(jb (k:= -k) (by grind)).1 (by rw[e];exact hv)
def E1{l:ab}{p:aa}: ∀{c:aA} {f:Rat},0<f->(∀s∈c,s.l.nor.dot l.nor<0->0<s.l.value p)->0<ik l p c f/\ik l p c f<=f/\ ∀s∈c,s.l.nor.dot l.nor<0->ik l p c f<= -(s.l.value p/s.l.nor.dot l.nor)
 |[],f,hf,_=>⟨hf,gU,fun s hs=>by cases hs⟩
 |s::c,f,hf,h=>by
  have h0:=h s aQ;have h1:=fun u hu=>h u (aJ _ hu);rw[ik];by_cases hk:s.l.nor.dot l.nor<0
  .have hp:=Hu hk (h0 hk)
   rw[if_pos ((n8 _).2 hk)];obtain⟨k1,k2,k3⟩:=E1 (c:=c) (f:=if-(s.l.value p/s.l.nor.dot l.nor)<f then-(s.l.value p/s.l.nor.dot l.nor) else f) (by split<;>assumption) h1;refine⟨k1,?_,fun u hu=>?_⟩
   .split at k2<;>grind
   .rcases aU.1 hu with rfl|hu
    .intro _;split at k2<;>grind
    .exact k3 u hu
  .rw[if_neg (fun e=>hk ((n8 _).1 e))]
   obtain⟨k1,k2,k3⟩:=E1 (c:=c) hf h1;refine⟨k1,k2,fun u hu=>?_⟩;rcases aU.1 hu with rfl|hu
   .intro e;exact absurd e hk
   .exact k3 u hu
def avr: ∀{c:aA},cx c->bH c (pf c)
 |[],_=>azY _
 |s::c,hc=>by
  have hs:s∈s::c:=aQ;obtain⟨p1,p2⟩:=hc.edge s hs;have hin:=(p2 s.v.sample).1 (pb p1).has;have hne:=(hc.ok s hs).ne;have hself:=mD hne s.v.sample;have hpos: ∀g∈c,g.l≠s.l->0<g.l.value (s.l.at s.v.sample):=fun g hg hn=>by
   have h1:=hin g (aJ _ hg);have h2:g.l.value (s.l.at s.v.sample)≠0:=fun e=>hn (HP hc hs (hc.ok g (aJ _ hg)) (fun p hp=>hp g (aJ _ hg)) e);grind
  have hnn:=ow hne;have hk: ∀g∈c,g.l.nor.dot s.l.nor<0->0<g.l.value (s.l.at s.v.sample):=fun g hg hk=>hpos g hg (fun e=>by rw[e] at hk;grind);obtain⟨f1,f2,f3⟩:=E1 (l:=s.l) (p:=s.l.at s.v.sample) (c:=c) (f:=1) (by decide) hk;show bH (s::c) (dB (s.l.at s.v.sample) s.l.nor (ik s.l (s.l.at s.v.sample) c 1*mkRat 1 2));rw[Pz];generalize ik s.l (s.l.at s.v.sample) c 1=F at f1 f2 f3⊢;intro g hg;rw[jF];have hhalf:0<F*(1/2):=by grind
  rcases aU.1 hg with e|hg
  .rw[e,hself,Rat.zero_add]
   exact fp hhalf hnn
  .by_cases he:g.l=s.l
   .rw[he,hself]
    have:=fp (a:=F*(1/2)) (b:=s.l.nor.dot s.l.nor) (by grind) hnn;grind
   .have hv:=hpos g hg he
    by_cases hk2:g.l.nor.dot s.l.nor<0
    .have hf:=f3 g hg hk2
     generalize g.l.nor.dot s.l.nor=k at hk2 hf⊢;generalize g.l.value (s.l.at s.v.sample)=v at hf hv⊢;have e1: -(v/k)* -k=v:=by grind
     generalize-(v/k)=w at e1 hf;have:=eO (a:=w-F) (b:= -k) (by grind) (by grind);clear hin hpos hk f3 hc p2;grind
    .have h9:=eO (a:=F*(1/2)) (b:=g.l.nor.dot s.l.nor) (fQ hhalf) (by grind)
     generalize F*(1/2)*g.l.nor.dot s.l.nor=z at h9⊢;clear hin hpos hk f3 hc p2;grind
def qP:Tr->aa->aa->Bool×Bool
 | .leaf b,_,_=>(b,true)
 | .node l x y,p,v=>match (if(l.value p).num.sign=0 then(l.dir.cross v).num.sign else(l.value p).num.sign) with
  |1=>qP x p v
  | -1=>qP y p v
  |_=>(false,false)
def Gn(L:List ab)(p v:aa):Prop:= ∀l∈L,l.value p=0->l.nor.dot v≠0
def ePa(x:Bool×aA):DV:= .ag [.sl (x.2.map bj),eU (.leaf x.1)]
def eC(c:aA):DV:= .sl (c.map bj)
def aHD(ps:List (Bool×aA)):List aA:=(ps.filter (·.1)).map (·.2)
def V3(G:Gh)(y:Value)(h:Is G (.ag [vI 0,vI 0, .v (.pointer none),vI 0,vI 0, .v (.pointer none)]) y):Is G (eZ (pf [])) y:=by
 obtain⟨m,rfl,g⟩:=dm.1 h;obtain⟨v1,m,rfl,h1,g⟩:=bm.1 g;obtain⟨v2,m,rfl,h2,g⟩:=bm.1 g;obtain⟨v3,m,rfl,h3,g⟩:=bm.1 g;obtain⟨v4,m,rfl,h4,g⟩:=bm.1 g;obtain⟨v5,m,rfl,h5,g⟩:=bm.1 g;obtain⟨v6,m,rfl,h6,g⟩:=bm.1 g
 cases ck.1 g
 have e1:=vt G _ (dm.2 ⟨[v1,v2,v3],J, .cons h1 (.cons h2 (.cons h3 .nil))⟩);have e2:=vt G _ (dm.2 ⟨[v4,v5,v6],J, .cons h4 (.cons h5 (.cons h6 .nil))⟩);obtain⟨m1,q1,g1⟩:=dm.1 e1;obtain⟨m2,q2,g2⟩:=dm.1 e2
 cases q1;cases q2
 exact dm.2 ⟨_,J,g1.app g2⟩
theorem BQ.samp(v:ao)(i j:Nat)[h1:BQ v.lo i][h2:BQ v.hi j]:BQ v.sample (i+j+1+2):=by
 have b1:BQ (1:Rat) 1:=⟨by decide,by decide⟩;unfold ao.sample;split
 .exact BQ.z1.mono (by omega)
 .split
  .exact(inferInstance:BQ (v.hi-1) (j+1+1)).mono (by omega)
  .split
   .exact(inferInstance:BQ (v.lo+1) (i+1+1)).mono (by omega)
   .exact inferInstance
theorem IE{s:aH}(h:CO s):aO (s.l.at s.v.sample) 3500:=by
 haveI:=h.lb;haveI:=h.v.lo;haveI:=h.v.hi;have h0:BQ s.v.sample _:=BQ.samp s.v 1200 1200;have:= @aO.at s.l s.v.sample _ _ h0;exact⟨this.x.mono (by decide),this.y.mono (by decide)⟩
theorem DU{s g:aH}(hs:CO s)(hg:CO g):BQ (-(g.l.value (s.l.at s.v.sample)/g.l.nor.dot s.l.nor)) 9000:=by
 haveI:=hs.lb;haveI:=hg.lb;haveI:=IE hs;exact BQ.mono (inferInstance:BQ (-(g.l.value (s.l.at s.v.sample)/g.l.nor.dot s.l.nor)) _)
def TS:PF GB prog 120 [eC []] (eZ (pf [])):=by
 refine fn (fu:=⟨10⟩) func120 J J ntmps120 J J (fun C=>?_);refine dh J (by rfl) J<|iv J V3
def aD2(l:List aH):du 17 (l.map bj):=fun d hd=>by
 obtain⟨x,_,rfl⟩:=bX.1 hd;exact⟨J,J⟩
def OK{l:ab}{p:aa}{cs:aA}{k:Nat}{g:aH}{f:Rat}(h:cs[k]? =some g):ik l p (cs.drop k) f=ik l p (cs.drop (k+1)) (if Int.sign (g.l.nor.dot l.nor).num<0 then(if-(g.l.value p/g.l.nor.dot l.nor)<f then-(g.l.value p/g.l.nor.dot l.nor) else f) else f):=by
 obtain⟨h1,h2⟩:=aT.1 h;rw[cW h1,h2,ik]
def PO(s:aH)(cs:aA):pf (s::cs)=(s.l.at s.v.sample).add (s.l.nor.scale (ik s.l (s.l.at s.v.sample) cs 1*mkRat 1 2)):=by
 show dB _ _ _=_;unfold dB aa.add aa.scale;simp only[aa.mk.injEq];constructor<;>grind
def awb{s:aH}{cs:aA}(hc:gn (s::cs))(hn:cs.length<=100000):PF GB prog 120 [eC (s::cs)] (eZ (pf (s::cs))):=by
 have hs:=hc s aQ;have hsl:=hs.lb;have hv1:=hs.v.lo;have hv2:=hs.v.hi;have hp:=IE hs;have hml:((s::cs).map bj).length=cs.length+1:=by simp
 have hml2:(cs.map bj).length=cs.length:=aX ..;refine fn (fu:=⟨10⟩) func120 J J ntmps120 J J (fun C=>?_);refine b9 J (by show some (decide _)=some false;rw[decide_eq_false (by simp;omega)]) J<|ix _ J J J<|ix _ J J J<|cl J (Q7 (v:=s.v) (i:=1200)) J<|cl J (BU (l:=s.l) (t:=s.v.sample)) J<|ix _ J J J<|cl J (yg (l:=s.l)) J<|cl J (pO (by omega)) J<|py (fu:=⟨1⟩) 1 (cs.length+1) (cs.map bj) J J (by rw[hml]) (by rw[cR (by rw[hml];exact bQ _)];rfl) (aD2 _) (by omega) (by omega) J<|ah 31 (.d (vI (cs.length:Nat))) J (by rw[hml2]<;>rfl)<|gx J<|lp (X:=Rat×Nat) (fun⟨f,k⟩=>[(32, .d (vI (k:Nat))),(5, .ov 5 0)]) (fun⟨f,k⟩=>[(5,some (.o 100 [.d (vI (cc f)), .d (vI (cb f)), .d (dC f)] true))]) (fun⟨f,k⟩=>ik s.l (s.l.at s.v.sample) (cs.drop k) f=ik s.l (s.l.at s.v.sample) cs 1/\k<=cs.length/\BQ f 9000) (fun⟨f,k⟩=>cs.length-k) ⟨((1:Int):Rat),0⟩ J ⟨J,aN _,BQ.mono (k:=2) ⟨by decide,by decide⟩⟩ (fun _=>J) (fun⟨f,k⟩ hk=>?_)
 try dsimp only at hk⊢
 obtain⟨h1,h2,h3⟩:=hk;refine br J J J (fun hc33=>?_) (fun hc33=>?_)
 .
  obtain⟨g,hx⟩: ∃g,cs[k]? =some g:=⟨_,aZ (by omega)⟩;have hg:=hc g (aJ _ (aV hx));have hgl:=hg.lb;have hfb:=DU hs hg;refine ix _ J (cO hx) J<|cl J (yg (l:=g.l)) J<|cl J (sj (p:=g.l.nor) (q:=s.l.nor)) J<|cl J (mE (q:=g.l.nor.dot s.l.nor)) J<|br J J J (fun hc43=>?_) (fun hc43=>?_)
  .
   refine cl J (Ge (l:=g.l) (p:=(s.l.at s.v.sample))) J<|cl J (xu (p:=g.l.value (s.l.at s.v.sample)) (q:=g.l.nor.dot s.l.nor)) J<|cl J (nA (q:=g.l.value (s.l.at s.v.sample)/g.l.nor.dot s.l.nor)) J<|cl (hv:=by simp only[aj];exact⟨by kernel_rfl,by omega⟩) J (PL (p:=f) (q:= -(g.l.value (s.l.at s.v.sample)/g.l.nor.dot s.l.nor))) J<|at_ ⟨if-(g.l.value (s.l.at s.v.sample)/g.l.nor.dot s.l.nor)<f then-(g.l.value (s.l.at s.v.sample)/g.l.nor.dot s.l.nor) else f,k+1⟩ (by dsimp only;exact⟨⟨by rw[<-h1,OK hx,if_pos hc43],by omega,by split;exact DU hs hg;exact h3⟩,(by omega)⟩)
  .
   exact at_ ⟨f,k+1⟩ (by dsimp only;exact⟨⟨by rw[<-h1,OK hx,if_neg hc43],by omega,h3⟩,(by omega)⟩)
 .
  obtain rfl:k=cs.length:=by omega
  obtain rfl:f=ik s.l (s.l.at s.v.sample) cs 1:=by rw[lZ] at h1;exact h1
  refine cl J (D6 (q:=ik s.l (s.l.at s.v.sample) cs 1)) J<|cl J (Iw (p:=s.l.nor) (c:=ik s.l (s.l.at s.v.sample) cs 1*mkRat 1 2)) J<|cl J (O4 (p:=(s.l.at s.v.sample)) (q:=s.l.nor.scale (ik s.l (s.l.at s.v.sample) cs 1*mkRat 1 2))) J<|rz J (by rw[PO];rfl)
def um(p:aa):(p.half=1/\(0<p.y\/(p.y=0/\0<p.x)))\/(p.half=2/\(p.y<0\/(p.y=0/\p.x<0)))\/(p.half=0/\p.y=0/\p.x=0):=by
 unfold aa.half;simp only[pI,n8,lw];split
 .rename_i h;exact .inl ⟨rfl,h⟩
 .rename_i h
  split
  .rename_i h2
   exact .inr (.inl ⟨J,by grind⟩)
  .rename_i h2
   exact .inr (.inr ⟨J,by grind,by grind⟩)
def HJ{p:aa}:p.half=1↔(0<p.y\/(p.y=0/\0<p.x)):=by
 rcases um p with⟨h,k⟩|⟨h,k⟩|⟨h,k⟩<;>rw[h]<;>grind
def DB{p:aa}:p.half=2↔(p.y<0\/(p.y=0/\p.x<0)):=by
 rcases um p with⟨h,k⟩|⟨h,k⟩|⟨h,k⟩<;>rw[h]<;>grind
def eE(u v:aa):Prop:=u.half<v.half\/(u.half=v.half/\0<u.cross v)
def wJ{u v:aa}:fm u v<0↔eE u v:=by
 unfold fm eE;split
 .rename_i h;exact⟨fun _=> .inl h,fun _=>by decide⟩
 .rename_i h
  split
  .rename_i h2;exact⟨fun e=>absurd e (by decide),fun e=>by omega⟩
  .rename_i h2
   have e:u.half=v.half:=by omega
   rw[<-pI];constructor
   .intro k;exact .inr ⟨e,by omega⟩
   .rintro (k|⟨_,k⟩)
    .omega
    .omega
def kP(d:aa):aa:=⟨-d.x, -d.y⟩
def F5{d:aa}(h:d.half≠0):d.half=1\/d.half=2:=by
 rcases um d with⟨e,_⟩|⟨e,_⟩|⟨e,_⟩
 .exact .inl e
 .exact .inr e
 .exact absurd e h
def Nxt(ds:List aa)(u w:aa):Prop:=(eE u w/\ ∀d∈ds,¬(eE u d/\eE d w))\/((∀d∈ds,¬eE u d)/\ ∀d∈ds,¬eE d w)
structure aKD (ds:List aa):Prop where
 nz: ∀d∈ds,d.half≠0
 neg: ∀d∈ds,kP d∈ds
def btw(a b:Rat)(u w:aa):aa:=⟨a*u.x+b*w.x,a*u.y+b*w.y⟩
end Go.Sx
end
section
namespace Go.Sx
open Go
inductive OT where
 |z (π:List (Nat×Bool))
 |q (i:Nat) (t:OT)
 |a (i:Nat) (t:OT)
 |c (i:Nat) (t r:OT)
def OT.sz:OT->Nat
 | .z _=>0
 | .q _ t=>t.sz+1
 | .a _ t=>t.sz+1
 | .c _ t r=>t.sz+r.sz+1
def OT.d:OT->Nat
 | .z π=>π.length
 | .q _ t=>t.d+1
 | .a _ t=>t.d+1
 | .c _ t r=>Nat.max (t.d+1) r.d
section
variable {P:Program} {ops:Array Oper} {Q:Exit->Act->World->Prop} {S:World->Prop} {π₂:List (Nat×Bool)}
def tV(P:Program)(ops:Array Oper)(Q:Exit->Act->World->Prop)(K:(World->Prop)->Act->World->Prop):List Nat->OT->(World->Prop)->Act->World->Prop
 |ks, .z π,S,a,w=>w6 P ops Q K ks π S a w
 |ks, .q i t,S,a,w=> ∃o v,ops[i]? =some o/\S w/\YieldsIf P ops S o v a/\tV P ops Q K ks t S (a.put o.dst v) w
 |ks, .a i t,S,a,w=>wpOp P ops Q i (ub S (tV P ops Q K ks t)) a w/\
   ∀j,(h:j∈ks)->wpOp P ops Q j (ub S (tV P ops Q K (kj ks j) (.a i t))) a w
 |ks, .c i t r,S,a,w=>wpOp P ops Q i (ub S (tV P ops Q K ks t)) a w/\tV P ops Q K ks r S a w/\
   ∀j,(h:j∈ks)->wpOp P ops Q j (ub S (tV P ops Q K (kj ks j) (.c i t r))) a w
termination_by ks t=>ks.length+t.sz
decreasing_by
 all_goals (first|(have:=DC h;simp only[OT.sz] at*;omega)|(simp only[OT.sz];omega))
def rm(ops:Array Oper)(fin:Nat->Bool)(π₂:List (Nat×Bool)):Nat->Bool->List Nat->OT->Array Bool->List Nat->Bool
 |0,_,_,_,_,_=>false
 |n+1,false,ks, .z π,l,_=>yD ops fin π₂ n ks π l
 |_+1,true,_, .z _,_,_=>false
 |n+1,false,ks, .q i t,l,_=>wP ops fin l i&&rm ops fin π₂ n false ks t (l.setIfInBounds i true) []
 |_+1,true,_, .q _ _,_,_=>false
 |n+1,true,ks, .a i t,l,rs=>rs.all (fun j=>Nat.beq j i)&&rm ops fin π₂ n false ks t (l.setIfInBounds i true) []
 |n+1,false,ks, .a i t,l,_=>!(Region.ready .any ops l).isEmpty&&(Region.ready .any ops l).all (fun j=>Nat.beq j i||ks.contains j)&&rm ops fin π₂ n false ks t (l.setIfInBounds i true) []&&ks.all fun j=>rm ops fin π₂ n false (kj ks j) (.a i t) (l.setIfInBounds j true) []
 |n+1,true,ks, .c i t r,l,rs=>rm ops fin π₂ n false ks t (l.setIfInBounds i true) []&&rm ops fin π₂ n true ks r l (kj rs i)
 |n+1,false,ks, .c i t r,l,_=>!(Region.ready .any ops l).isEmpty&&rm ops fin π₂ n false ks t (l.setIfInBounds i true) []&&rm ops fin π₂ n true ks r l (kj ((Region.ready .any ops l).filter fun j=>!ks.contains j) i)&&ks.all fun j=>rm ops fin π₂ n false (kj ks j) (.c i t r) (l.setIfInBounds j true) []
end
section
variable {P:Program} {GB:Gh} {C:aC} {n:Nat} {fr fr':dP} {own own' own0 own1 own1':List c9} {bs bs0 bs1 bs1':List dx} {ops:Array Oper} {Q:Exit->Act->World->Prop} {fd:List FD} {π₂:List (Nat×Bool)} {t r:OT}
abbrev dnK (P:Program) (ops:Array Oper) (Q:Exit->Act->World->Prop) (K:(World->Prop)->Act->World->Prop) (t:OT):List Nat->(World->Prop)->Act->World->Prop:=fun ks S=>tV P ops (gi Q) K ks t S
end
end Go.Sx
end
section
namespace Go.Sx
open Go Go.Proofs Tryz
variable {GB:Gh}
theorem LB.rev{l:ab}(h:LB l):LB l.rev:=⟨⟨by rw[show l.rev.a= -l.a from J,jN];exact h.bl.a,by rw[show l.rev.b= -l.b from J,jN];exact h.bl.b,by rw[show l.rev.c= -l.c from J,jN];exact h.bl.c⟩⟩
def JI{α:Type}{p:α->Bool}: ∀{xs:List α} {n:Nat},n<=xs.length->(∀j (h:j<xs.length),j<n->p xs[j]=true)->(∀h:n<xs.length,p xs[n]=false)->(xs.takeWhile p).length=n
 |[],n,h,_,_=>by simp at h;subst h;rfl
 |x::xs,0,_,_,h3=>by
  have:=h3 (by simp);simp only[oZ] at this;simp[nY,this]
 |x::xs,n+1,h1,h2,h3=>by
  have hx:=h2 0 (by simp) (by omega);simp only[oZ] at hx;rw[nY,if_pos hx,bY];rw[JI (n:=n) (by simpa using h1) (fun j h hj=>by have:=h2 (j+1) (by simpa using h) (by omega);simpa using this) (fun h=>by have:=h3 (by simpa using h);simpa using this)]
structure Cst (c:List ab) (k:Nat) (xs:List ab):Prop where
 le:k<=c.length
 f:oG c (c.drop k) xs=iE c
 m: ∀m∈xs,m∈c
 n:xs.length<=k
def uJ(c:List ab):Bool:=if(((c.map eL).length:Nat):Int)=0 then true else decide ((0:Int)<((((iE c).map eL).length:Nat):Int))
section
variable {α:Type} (c:α->α->Int)
def fh(x:α):List α->List α
 |[]=>[x]
 |u::t=>if c u x<0 then u::fh x t else if c u x=0 then u::t else x::u::t
def mn(x:α)(xs:List α):Nat:=(xs.takeWhile fun u=>decide (c u x<0)).length
def ZY(x:α)(xs:List α):mn c x xs<=xs.length:=(List.takeWhile_sublist _).length_le
def IK{x:α}{xs:List α}{n:Nat}(h1:n<=xs.length)(h2: ∀j (h:j<xs.length),j<n->c xs[j] x<0)(h3: ∀h:n<xs.length,¬c xs[n] x<0):mn c x xs=n:=
 JI h1 (fun j h hj=>decide_eq_true (h2 j h hj)) (fun h=>decide_eq_false (h3 h))
def L7{x:α}: ∀{xs:List α} {n:Nat},mn c x xs=n->(h:n<xs.length)->c xs[n] x=0->fh c x xs=xs
 |[],n,_,h,_=>by simp at h
 |u::t,n,hn,h,e=>by
  rw[fh];unfold mn at hn;rw[nY] at hn;by_cases hu:c u x<0
  .rw[if_pos hu]
   rw[if_pos (by simpa using hu)] at hn;obtain⟨k,rfl⟩: ∃k,n=k+1:=⟨n-1,by simp at hn;omega⟩;rw[L7 (xs:=t) (n:=k) (by unfold mn;simpa using hn) (by simpa using h) (by simpa using e)]
  .rw[if_neg (by simpa using hu)] at hn
   simp at hn;subst hn;rw[if_neg hu,if_pos (by simpa using e)]
def Dm{x:α}: ∀{xs:List α} {n:Nat},mn c x xs=n->(∀h:n<xs.length,c xs[n] x≠0)->fh c x xs=xs.take n++x::xs.drop n
 |[],n,hn,_=>by simp[mn] at hn;subst hn;rfl
 |u::t,n,hn,e=>by
  rw[fh];unfold mn at hn;rw[nY] at hn;by_cases hu:c u x<0
  .rw[if_pos hu]
   rw[if_pos (by simpa using hu)] at hn;obtain⟨k,rfl⟩: ∃k,n=k+1:=⟨n-1,by simp at hn;omega⟩;rw[Dm (xs:=t) (n:=k) (by unfold mn;simpa using hn) (fun h=>by have:=e (by simpa using h);simpa using this)];simp
  .rw[if_neg (by simpa using hu)] at hn
   simp at hn;subst hn;have:=e (by simp);rw[if_neg hu,if_neg (by simpa using this)];rfl
def MH(x:α): ∀(xs:List α),(fh c x xs).length<=xs.length+1
 |[]=>bQ _
 |u::t=>by
  have:=MH x t;rw[fh];split
  .simp;omega
  .split<;>simp
def F1{x y:α}: ∀{xs:List α},y∈fh c x xs->y=x\/y∈xs
 |[],h=>by rw[fh,aY] at h;exact .inl h
 |u::t,h=>by
  rw[fh] at h;split at h
  .rcases aU.1 h with rfl|h
   .exact .inr aQ
   .rcases F1 h with h|h
    .exact .inl h
    .exact .inr (aJ _ h)
  .split at h
   .exact .inr h
   .rcases aU.1 h with rfl|h
    .exact .inl J
    .exact .inr h
def fH(l:List α):List α:=l.foldl (fun out x=>fh c x out) []
def Kr: ∀(l o:List α),(l.foldl (fun out x=>fh c x out) o).length<=l.length+o.length
 |[],o=>by simp
 |x::t,o=>by
  have:=Kr t (fh c x o);have:=MH c x o;simp only[dY,bY];omega
def Iy{y:α}: ∀{l o:List α},y∈l.foldl (fun out x=>fh c x out) o->y∈l\/y∈o
 |[],o,h=> .inr h
 |x::t,o,h=>by
  rcases Iy (l:=t) h with h|h
  .exact .inl (aJ _ h)
  .rcases F1 c h with rfl|h
   .exact .inl aQ
   .exact .inr h
end
def HL{α β:Type}{f:α->β}{l:List α}{k:Nat}{x:α}(h:l[k]? =some x):(l.take k).map f++[f x]=(l.take (k+1)).map f:=by
 rw[fJ,h,cY];rfl
def Sa{n i:Nat}[h:BN n i](hi:i<=20000000:=by decide):PF GB prog 144 [dN n] (dN n):=by
 have hl:=i6 h.h;have:=Af (GB:=GB) (ds:=dg n) (fk n) (by omega);rw[cH,<-DD] at this;exact this
def R6(z:Int):my (decide (z<0)) (dg z.natAbs)=z:=by
 unfold my;rw[cH];split<;>(rename_i h;simp at h;omega)
def WE{z:Int}{i:Nat}[h:BI z i](hi:i<=20000000:=by decide):PF GB prog 85 [eI z] (eI z):=by
 have hl:=i6 h.h;have:=yF (GB:=GB) (neg:=decide (z<0)) (ds:=dg z.natAbs) (fk _) (by omega);rw[R6,<-DD] at this;exact this
def Na{n:Nat}(h:0<n): ¬((((dg n).map dU).length:Nat):Int)=0:=by
 rw[aX];have:=oI (n:=n);omega
instance BQ.m1':BQ (((-1:Int):Int):Rat) 2:=⟨by decide,by decide⟩
instance BQ.m1:BQ (-1:Rat) 2:=⟨by decide,by decide⟩
def LC{q:Rat}{i:Nat}[h:BQ q i](hi:i<=20000000:=by decide):PF GB prog 129 [eR q] (eQ q):=by
 have hd:=q.den_pos;refine fn func129 J J ntmps129 J J (fun C=>?_);refine cl (fu:=⟨8⟩) J (Sa (n:=q.den) hi) J<|b9 J (by show some (decide _)=some false;rw[decide_eq_false (Na hd)]) J<|cl J (WE (z:=q.num) hi) J<|cl J (vK (x:=q.num) (d:=q.den) hd (by omega) (by omega)) J<|rz J (by rw[pZ];rfl)
def CW{q:Rat}{i:Nat}[h:BQ q i](hi:i<=400000000:=by decide):PF GB prog 51 [eQ q] (eR q):=by
 refine fn func51 J J ntmps51 J J (fun C=>?_);refine cl J (aGt (z:=q.num) hi) J<|cl J (nj (q:=q)) J<|cl J (Q8 (a:=q.den) hi) J<|rz J J
def YU{p:aa}{i:Nat}[h:aO p i](hi:i<=20000000:=by decide):PF GB prog 77 [gh p] (eP p):=by
 refine fn func77 J J ntmps77 J J (fun C=>?_);refine cl J (LC (q:=p.x) hi) J<|cl J (LC (q:=p.y) hi) J<|rz J J
def Xm{p:aa}{i:Nat}[h:aO p i](hi:i<=20000:=by decide):PF GB prog 19 [eP p] (gh p):=by
 refine fn func19 J J ntmps19 J J (fun C=>?_);refine cl J (CW (q:=p.x) (i:=i) (by omega)) J<|cl J (CW (q:=p.y) (i:=i) (by omega)) J<|rz J J
def vi{α:Type}(f:α->DV)(l:List α):(l.map f).length=l.length:=aX ..
def ou(ps:List aa):du 6 (ps.map eP):=fun d hd=>by
 obtain⟨u,_,rfl⟩:=bX.1 hd;exact⟨rfl,rfl⟩
def aC5(ps:List aa):du 6 (ps.map gh):=fun d hd=>by
 obtain⟨u,_,rfl⟩:=bX.1 hd;exact⟨rfl,rfl⟩
def XO{ps:List aa}(hb: ∀p∈ps,aO p 1200)(hn:ps.length<=1000000):PF GB prog 37 [.sl (ps.map gh)] (.sl (ps.map eP)):=by
 have hm:=vi gh ps;refine fn (fu:=⟨15⟩) func37 J J ntmps37 J J (fun C=>?_);refine ah 7 (.d (vI (ps.length:Nat))) J (by rw[hm]<;>rfl)<|gx J<|nr 3 3 70 6 J J J<|lp (X:=Nat) (fun k=>[(8, .d (vI (k:Nat))),(3, .rw 3)]) (fun k=>[(3,some (.b 70 6 ((ps.take k).map eP) true))]) (fun k=>k<=ps.length) (fun k=>ps.length-k) 0 J (aN _) (fun _=>J) (fun k hk=>?_);have hml:=vi eP (ps.take k);rw[bK] at hml;refine br J J J (fun hc9=>?_) (fun hc9=>?_)
 .
  obtain⟨z,hz⟩: ∃s,ps[k]? =some s:=⟨_,aZ (by omega)⟩;have hzm:=aV hz;refine ix _ J (cO hz) J<|cl J (YU (p:=z) (h:=hb z hzm)) J<|rf J J<|ap ((ps.take (k+1)).map eP) J (HL hz) (ou [z]) J<|fD 16 3 J<|at_ (k+1) ⟨(by omega),(by omega)⟩
 .
  obtain rfl:k=ps.length:=by omega
  refine ke 3 J<|rz J (by rw[cJ];rfl)
def OH{ps:List aa}(hb: ∀p∈ps,aO p 1200)(hn:ps.length<=1000000):PF GB prog 25 [.sl (ps.map eP)] (.sl (ps.map gh)):=by
 have hm:=vi eP ps;refine fn (fu:=⟨15⟩) func25 J J ntmps25 J J (fun C=>?_);refine ah 7 (.d (vI (ps.length:Nat))) J (by rw[hm]<;>rfl)<|gx J<|nr 3 3 62 6 J J J<|lp (X:=Nat) (fun k=>[(8, .d (vI (k:Nat))),(3, .rw 3)]) (fun k=>[(3,some (.b 62 6 ((ps.take k).map gh) true))]) (fun k=>k<=ps.length) (fun k=>ps.length-k) 0 J (aN _) (fun _=>J) (fun k hk=>?_);have hml:=vi gh (ps.take k);rw[bK] at hml;refine br J J J (fun hc9=>?_) (fun hc9=>?_)
 .
  obtain⟨z,hz⟩: ∃s,ps[k]? =some s:=⟨_,aZ (by omega)⟩;have hzm:=aV hz;refine ix _ J (cO hz) J<|cl J (Xm (p:=z) (h:=hb z hzm)) J<|rf J J<|ap ((ps.take (k+1)).map gh) J (HL hz) (aC5 [z]) J<|fD 16 3 J<|at_ (k+1) ⟨(by omega),(by omega)⟩
 .
  obtain rfl:k=ps.length:=by omega
  refine ke 3 J<|rz J (by rw[cJ];rfl)
def cD(p q:aa):Int:=if ce p.x q.x≠0 then ce p.x q.x else ce p.y q.y
def Pc{p q:aa}{i j:Nat}[hp:aO p i][hq:aO q j](hi:i<=100000:=by decide)(hj:j<=100000:=by decide):PF GB prog 78 [eP p,eP q] (vI (cD p q)):=by
 refine fn func78 J J ntmps78 J J (fun C=>?_);refine cl J (wK (a:=p.x) (b:=q.x) (by omega) (by omega)) J<|br J J J (fun hc12=>?_) (fun hc12=>?_)
 .
  exact rz J (by unfold cD;rw[if_pos hc12];rfl)
 .
  refine cl J (wK (a:=p.y) (b:=q.y) (by omega) (by omega)) J<|rz J (by unfold cD;rw[if_neg hc12];rfl)
def Lr(l:ab):Bool:=decide (l.a<0\/(l.a=0/\l.b<0))
def ab.canon(l:ab):ab:=if Lr l then l.rev else l
instance LB.canon (l:ab) [h:LB l]:LB l.canon:=by unfold ab.canon;split;exact LB.rev h;exact h
def rE{α β:Type}(c:β->β->Int)(g:α->β)(l:List α)(k:Nat):List β:=fH c ((l.take k).map g)
section
variable {α β:Type} {c:β->β->Int} {g:α->β} {l:List α} {k:Nat}
def Hf{x:α}(h:l[k]? =some x):rE c g l (k+1)=fh c (g x) (rE c g l k):=by
 unfold rE fH;rw[fJ,h,Option.toList_some,cY,List.foldl_append];rfl
def Xz(h:k=l.length):rE c g l k=fH c (l.map g):=by unfold rE;rw[h,cJ]
def Y5:(rE c g l k).length<=k:=by
 have:=Kr c ((l.take k).map g) [];have h2:((l.take k).map g).length<=k:=by rw[aX,bK];omega
 rw[kS] at this;unfold rE fH;omega
def auH{y:β}(h:y∈rE c g l k): ∃x∈l,y=g x:=by
 rcases Iy c h with h|h
 .obtain⟨x,hx,rfl⟩:=bX.1 h
  exact⟨x,fK hx,J⟩
 .cases h
end
def OI{α:Type}{f:α->DV}{s:Nat}(ok: ∀l:List α,du s (l.map f))(xs:List α)(n:Nat):du s ((xs.map f).take n):=fun d hd=>ok xs d (fK hd)
def Id{α:Type}{f:α->DV}{s:Nat}(ok: ∀l:List α,du s (l.map f))(xs:List α)(n m:Nat):du s (((xs.map f).take n).drop m):=fun d hd=>ok xs d (fK (gL hd))
def Pu{α:Type}{f:α->DV}{s:Nat}(ok: ∀l:List α,du s (l.map f))(xs:List α)(n m:Nat)(x:α):du s ([f x]++((xs.map f).take n).drop m):=fun d hd=>by
 rcases bS.1 hd with h|h
 .exact ok [x] d h
 .exact Id ok xs n m d h
def E'{α:Type}{f:α->DV}{l:List α}{i:Nat}(h:i<l.length:=by omega):(l.map f)[(i:Int).toNat]? =some (f l[i]):=by
 rw[eY,fY,aZ h];rfl
def Bh{ps:List aa}(hb: ∀p∈ps,aO p 1200)(hn:ps.length<=100000:=by omega):PF GB prog 38 [.sl (ps.map eP)] (.sl ((fH cD ps).map eP)):=by
 have hm':=vi eP ps;refine fn (fu:=⟨15⟩) func38 J J ntmps38 J J (fun C=>?_);refine ah 8 (.d (vI (ps.length:Nat))) J (by rw[hm'];rfl)<|gx J<|Pt 3 J<|lp (X:=List aa×Nat) (fun⟨xs,k⟩=>[(9, .d (vI (k:Nat))),(8, .d (vI (ps.length:Nat))),(7, .d (.sl (ps.map eP))),(0, .d (.sl (ps.map eP))),(3, .d (.sl (xs.map eP)))]) (fun⟨xs,k⟩=>[]) (fun⟨xs,k⟩=>xs=rE cD id ps k/\k<=ps.length) (fun⟨xs,k⟩=>ps.length-k) ⟨[],0⟩ J ⟨J,aN _⟩ (fun _=>J) (fun⟨xs,k⟩ hk=>?_)
 try dsimp only at hk⊢
 obtain⟨hS,hkl⟩:=hk;refine br J J J (fun hc10=>?_) (fun hc10=>?_)
 .
  have hk:k<ps.length:=by omega
  obtain⟨m,hm⟩: ∃m,m=ps[k]:=⟨_,rfl⟩;have hz:ps[k]? =some m:=by rw[hm];exact aZ hk
  haveI hmb:aO m 1200:=hm▸hb _ (iZ hk);have hxl:=vi eP xs;have hxn:xs.length<=k:=by rw[hS];exact Y5
  have hxb: ∀q∈xs,aO q 1200:=fun q hq=>by rw[hS] at hq;obtain⟨z,hz,he⟩:=auH hq;rw[he];exact hb z hz
  refine ix (fu:=⟨1⟩) _ J (E' hk) J<|ah 12 (.d (eP m)) J (by rw[hm];rfl)<|gx (fu:=⟨10⟩) J<|mg (fu:=⟨5⟩) (X:=Unit) (fun _=>[(9, .d (vI (k:Nat))),(8, .d (vI (ps.length:Nat))),(7, .d (.sl (ps.map eP))),(0, .d (.sl (ps.map eP))),(3, .d (.sl (xs.map eP))),(5, .ov 5 0),(6, .d (vI (mn cD m xs:Nat)))]) (fun _=>[(5,some (.o 70 [.d ((.v (.bool (decide (m.x.num<0))))), .d (dN m.x.num.natAbs), .d (dD m.x.den), .d ((.v (.bool (decide (m.y.num<0))))), .d (dN m.y.num.natAbs), .d (dD m.y.den)] true))]) (fun _=>True) [9,8,7,0,3,5,6] [5] rfl ?_ (fun _=>J) (fun _ _=>?_)
  .
   refine gx J<|lp (fu:=⟨6⟩) (X:=Nat) (fun n=>[(9, .d (vI (k:Nat))),(8, .d (vI (ps.length:Nat))),(7, .d (.sl (ps.map eP))),(0, .d (.sl (ps.map eP))),(3, .d (.sl (xs.map eP))),(5, .ov 5 0),(6, .d (vI (n:Nat)))]) (fun n=>[(5,some (.o 70 [.d ((.v (.bool (decide (m.x.num<0))))), .d (dN m.x.num.natAbs), .d (dD m.x.den), .d ((.v (.bool (decide (m.y.num<0))))), .d (dN m.y.num.natAbs), .d (dD m.y.den)] true))]) (fun n=>n<=xs.length/\ ∀j (h:j<xs.length),j<n->cD xs[j] m<0) (fun n=>xs.length-n) 0 J ⟨aN _,fun j _ hj=>absurd hj (by omega)⟩ (fun _=>J) (fun n hk=>?_);obtain⟨n1,n2⟩:=hk;refine ru (v2:=fun hg16=>by simp only[aj];kernel_rfl) J J J J (fun hg16=>?_) (fun hg16=>?_)
   .
    refine ix _ J (E') J<|cl J (Pc (p:=xs[n]'(by omega)) (q:=m) (hp:=hxb _ (iZ (by omega))) (hq:=hmb)) J<|br J J J (fun hc25=>?_) (fun hc25=>?_)
    .
     exact at_ (n+1) ⟨⟨by omega,fun j h hj=>by by_cases q:j=n;(subst q;exact hc25);exact n2 j h (by omega)⟩,(by omega)⟩
    .
     have hidx:mn cD m xs=n:=IK cD n1 n2 (fun h=>hc25);exact at_ () trivial
   .
    have hidx:mn cD m xs=n:=IK cD n1 n2 (fun h=>absurd h (by omega));exact at_ () trivial
  .
   obtain⟨n,hnx⟩: ∃n,mn cD m xs=n:=⟨_,rfl⟩;rw[hnx];have hnl:n<=xs.length:=by rw[<-hnx];exact ZY _ _ _
   refine ru (v1:=fun hg31=>by simp only[aj];kernel_rfl) J J J J (fun hg31=>?_) (fun hg31=>?_)
   .
    have hnew: ∀h:n<xs.length,cD xs[n] m≠0:=fun h=>absurd h (by omega);obtain⟨ys,hys⟩: ∃ys,ys=xs.take n++m::xs.drop n:=⟨_,rfl⟩;have hin:fh cD m xs=ys:=by rw[hys];exact Dm cD hnx hnew
    have hyl:ys.length<=xs.length+1:=by rw[hys];simp;omega
    refine s3 n _ J J J J (ou _) (by rw[hxl];exact hnl) J<|ro J J<|py n xs.length _ J J (by rw[hxl]) J (ou _) hnl (by omega) J<|ap _ J J (Id ou _ _ _) J<|Qb (hv:=by simp only[aj];exact⟨by kernel_rfl,by omega⟩) (ho:=fun _=>⟨OI ou _ _,by simp⟩) (ys.map eP) J (by rw[hys,cY,bJ,kX,nZ,cR (l:=xs.map eP) (i:=xs.length) (by simp)];rfl) (Pu ou _ _ _ _) J<|at_ ⟨ys,k+1⟩ (by dsimp only;exact⟨⟨by rw[Hf hz,<-hS];exact hin.symm,by omega⟩,(by omega)⟩)
   .
    refine ix _ J (E') J<|cl J (Pc (p:=xs[n]'(by omega)) (q:=m) (hp:=hxb _ (iZ (by omega))) (hq:=hmb)) J<|br J J J (fun hc40=>?_) (fun hc40=>?_)
    .
     have hnew: ∀h:n<xs.length,cD xs[n] m≠0:=fun h=>hc40;obtain⟨ys,hys⟩: ∃ys,ys=xs.take n++m::xs.drop n:=⟨_,rfl⟩;have hin:fh cD m xs=ys:=by rw[hys];exact Dm cD hnx hnew
     have hyl:ys.length<=xs.length+1:=by rw[hys];simp;omega
     refine s3 n _ J J J J (ou _) (by rw[hxl];exact hnl) J<|ro J J<|py n xs.length _ J J (by rw[hxl]) J (ou _) hnl (by omega) J<|ap _ J J (Id ou _ _ _) J<|Qb (hv:=by simp only[aj];exact⟨by kernel_rfl,by omega⟩) (ho:=fun _=>⟨OI ou _ _,by simp⟩) (ys.map eP) J (by rw[hys,cY,bJ,kX,nZ,cR (l:=xs.map eP) (i:=xs.length) (by simp)];rfl) (Pu ou _ _ _ _) J<|at_ ⟨ys,k+1⟩ (by dsimp only;exact⟨⟨by rw[Hf hz,<-hS];exact hin.symm,by omega⟩,(by omega)⟩)
    .
     have hin:fh cD m xs=xs:=L7 cD hnx (by omega) (Decidable.not_not.1 hc40);exact at_ ⟨xs,k+1⟩ (by dsimp only;exact⟨⟨by rw[Hf hz,<-hS];exact hin.symm,by omega⟩,(by omega)⟩)
 .
  have hfin:fH cD ps=xs:=by rw[hS,Xz (by omega),List.map_id]
  exact rz J (by rw[hfin];rfl)
def xH(ls:List ab):List ab:=fH U4 (ls.map ab.canon)
def HX(a b:Tr):List aa:=J2 (xH (a.lns++b.lns))
def eqR(a b:Tr):Bool:=(HX a b).all fun p=>sI a p==sI b p
def aKZ(f:Bool->Bool->Bool)(a b:Tr):Bool:=(HX a b).any fun p=>f (sI a p) (sI b p)
def aIF(v:Bool)(t:Tr):Bool:=decide ((t.restrict []).isLeaf=true/\(t.restrict []).code=v)
def Px{α:Type}{c:α->α->Int}(hT: ∀u v w,c u v<0->c v w<0->c u w<0)(hA: ∀u v,¬c u v<0->c u v≠0->c v u<0){x:α}: ∀{xs:List α},xs.Pairwise (fun a b=>c a b<0)->(fh c x xs).Pairwise (fun a b=>c a b<0)
 |[],_=>by rw[fh];exact List.pairwise_singleton _ _
 |u::t,h=>by
  obtain⟨h1,h2⟩:=bZ.1 h;rw[fh];split
  .rename_i hu
   refine bZ.2 ⟨fun y hy=>?_,Px hT hA h2⟩;rcases F1 c hy with rfl|hy
   .exact hu
   .exact h1 y hy
  .rename_i hu
   split
   .exact h
   .rename_i hz
    have hx:=hA u x hu hz;refine bZ.2 ⟨fun y hy=>?_,h⟩;rcases aU.1 hy with rfl|hy
    .exact hx
    .exact hT _ _ _ hx (h1 y hy)
def I0{α:Type}{c:α->α->Int}(hT: ∀u v w,c u v<0->c v w<0->c u w<0)(hA: ∀u v,¬c u v<0->c u v≠0->c v u<0): ∀{l o:List α},o.Pairwise (fun a b=>c a b<0)->(l.foldl (fun out x=>fh c x out) o).Pairwise (fun a b=>c a b<0)
 |[],o,h=>h
 |x::l,o,h=>I0 (l:=l) (o:=fh c x o) hT hA (Px hT hA h)
def TE(L:List ab)(p:aa):List aa:=L.flatMap fun l=>if Int.sign (l.value p).num=0 then [l.dir,kP l.dir] else []
def eE.trans{u v w:aa}(hu:u.half≠0)(hv:v.half≠0)(hw:w.half≠0)(h:eE u v)(k:eE v w):eE u w:=by
 rcases h with h|⟨h,h'⟩<;>rcases k with k|⟨k,k'⟩
 .exact .inl (by omega)
 .exact .inl (by omega)
 .exact .inl (by omega)
 .refine .inr ⟨h.trans k,?_⟩
  have id1:u.cross w*v.y=u.cross v*w.y+v.cross w*u.y:=by unfold aa.cross;grind
  rcases um v with⟨x,q⟩|⟨x,q⟩|⟨x,q⟩
  .rw[x] at h k
   have qu:=HJ.1 h;have qw:=HJ.1 k.symm;rcases q with q|⟨q,q'⟩
   .rw[<-jb q,id1]
    have wy:0<=w.y:=by grind
    have uy:0<=u.y:=by grind
    have a1:=eO (fQ h') wy;rcases qu with qu|⟨qu,qu'⟩
    .have:=fp k' qu;grind
    .rcases qw with qw|⟨qw,qw'⟩
     .have:=fp h' qw;rw[qu];grind
     .exfalso
      have hx:v.cross w= -(w.x*v.y):=by unfold aa.cross;rw[qw];grind
      have:=fp qw' q;grind
   .exfalso
    have hx:u.cross v= -(v.x*u.y):=by unfold aa.cross;rw[q];grind
    have:=eO (a:=v.x) (b:=u.y) (fQ q') (by grind);grind
  .rw[x] at h k
   have qu:=DB.1 h;have qw:=DB.1 k.symm;rcases q with q|⟨q,q'⟩
   .have e1:u.cross w* -v.y=u.cross v* -w.y+v.cross w* -u.y:=by grind
    rw[<-jb (k:= -v.y) (by grind),e1];have a1:=eO (a:=u.cross v) (b:= -w.y) (fQ h') (by grind);rcases qu with qu|⟨qu,qu'⟩
    .have:=fp (a:=v.cross w) (b:= -u.y) k' (by grind);grind
    .rcases qw with qw|⟨qw,qw'⟩
     .have:=fp (a:=u.cross v) (b:= -w.y) h' (by grind);rw[qu];grind
     .exfalso
      have hx:v.cross w= -(-w.x* -v.y):=by unfold aa.cross;rw[qw];grind
      have:=fp (a:= -w.x) (b:= -v.y) (by grind) (by grind);grind
   .exfalso
    have hx:u.cross v= -(-v.x* -u.y):=by unfold aa.cross;rw[q];grind
    have:=eO (a:= -v.x) (b:= -u.y) (by grind) (by grind);grind
  .exact absurd x hv
def DS(S:List aa)(x:aa):Nat->Nat
 |0=>0
 |k+1=>if 0<fm (S.getD k ⟨0,0⟩) x then DS S x k else k+1
def aIC(S:List aa)(x:aa):List aa:=S.take (DS S x S.length)++x::S.drop (DS S x S.length)
def UL(ds:List aa):List aa:=ds.foldl aIC []
structure aKu (L:List ab):Prop where
 ok: ∀l∈L,l.ok
 cn: ∀l∈L,Lr l=false
 nd:L.Pairwise (fun a b=>a≠b)
def XE{l:ab}(h:l.ok):l.dir.half≠0:=fun e=>by
 have hn:=h.ne;unfold ab.Ne at hn;rcases um l.dir with⟨k,_⟩|⟨k,_⟩|⟨_,k1,k2⟩
 .rw[k] at e;cases e
 .rw[k] at e;cases e
 .unfold ab.dir at k1 k2
  simp only at k1 k2;apply hn;refine⟨?_,dV.1 k2⟩;have:(l.a:Rat)=0:=by grind
  exact dV.1 this
def Mt(v:aa):Nat:=Nat.gcd (v.x.num.natAbs*v.y.den) (v.y.num.natAbs*v.x.den)
def Nj(n:Int)(d g:Nat):Int:=if n<0 then-((n.natAbs*d/g:Nat):Int) else((n.natAbs*d/g:Nat):Int)
def Ra(v:aa):aa:=if v.half=0 then⟨0,0⟩ else⟨(Nj v.x.num v.y.den (Mt v):Int),(Nj v.y.num v.x.den (Mt v):Int)⟩
def VW(ds:List aa)(i:Nat):List aa:=
 if fm (ds.getD i ⟨0,0⟩) (ds.getD ((i+1)%ds.length) ⟨0,0⟩)=0/\2<ds.length then []
 else if Int.sign ((ds.getD i ⟨0,0⟩).cross (ds.getD ((i+1)%ds.length) ⟨0,0⟩)).num=0 then [oe (ds.getD i ⟨0,0⟩)]
 else [dB (Ra (ds.getD i ⟨0,0⟩)) (Ra (ds.getD ((i+1)%ds.length) ⟨0,0⟩)) 1]
def W6(ds:List aa):List aa:=if ds.length=0 then [⟨1,0⟩] else(List.range ds.length).flatMap (VW ds)
def OG(L:List ab)(p:aa):List aa:=W6 (UL (TE L p))
def Tg(t:Tr)(p:aa):Bool:=(OG (xH t.lns) p).any fun v=>(qP t p v).1
def X2(t:Tr)(p:aa):Bool:=(OG (xH t.lns) p).all fun v=>(qP t p v).1
def Qc{z:Rat}(h:z<0):Int.sign z.num= -1:=by
 have:=(n8 _).2 h;rcases rJ z.num 0 with q|q|q
 .exact fT q
 .rw[q] at this;simp at this
 .rw[gS q] at this;simp at this
def Ca:Tr->aa->List ab
 | .leaf _,_=>[]
 | .node l x y,p=>(if Int.sign (l.value p).num=0 then [l] else [])++((if 0<=Int.sign (l.value p).num then Ca x p else [])++(if Int.sign (l.value p).num<=0 then Ca y p else []))
def aKy(t:Tr)(p:aa)(b:Bool):Prop:= ∃v,Gn (Ca t p) p v/\(qP t p v).1=b
def XS(ds:List aa)(i:Nat):aa:=
 if 0<Int.sign ((ds.getD i ⟨0,0⟩).cross (ds.getD ((i+1)%ds.length) ⟨0,0⟩)).num then(ds.getD i ⟨0,0⟩).add (ds.getD ((i+1)%ds.length) ⟨0,0⟩) else oe (ds.getD i ⟨0,0⟩)
def yl(ds:List aa):List aa:=if ds.length=0 then [⟨1,0⟩] else(List.range ds.length).map (XS ds)
def yT(v:aa):aa:=v.scale (rgcd v.x v.y)⁻¹
def Ol(t:Tr)(p:aa):List aa:=(Ca t p).flatMap fun l=>[yT l.dir,kP (yT l.dir)]
def Gc(ds:List aa):List aa:=fH fm ds
def RT{u v:aa}:fm u v=0↔u.half=v.half/\u.cross v=0:=by
 unfold fm;split
 .constructor
  .intro h;exact absurd h (by decide)
  .intro h;omega
 .split
  .constructor
   .intro h;exact absurd h (by decide)
   .intro h;omega
  .constructor
   .intro h
    exact⟨by omega,(lw _).1 (by omega)⟩
   .intro h
    rw[(lw _).2 h.2];rfl
def EZ{u v w:aa}(h:eE u v)(k:eE v w):eE u w:=by
 by_cases hu:u.half=0
 .by_cases hw:w.half=0
  .have z: ∀x y:aa,x.half=0->x.cross y=0:=fun x y hx=>by
    rcases um x with⟨e,_⟩|⟨e,_⟩|⟨_,e1,e2⟩
    .rw[hx] at e;exact absurd e (by decide)
    .rw[hx] at e;exact absurd e (by decide)
    .unfold aa.cross;rw[e1,e2];grind
   rcases h with h|⟨h,h'⟩
   .rcases k with k|⟨k,k'⟩
    .omega
    .have hv:v.half≠0:=by omega
     omega
   .rw[z u v hu] at h';exact absurd h' (by decide)
  .refine .inl ?_
   have h1:=F5 hw;omega
 .have hv:v.half≠0:=by
   intro e;rcases h with h|⟨h,_⟩
   .have:=F5 hu;omega
   .omega
  have hw:w.half≠0:=by
   intro e;rcases k with k|⟨k,_⟩
   .have:=F5 hv;omega
   .omega
  exact eE.trans hu hv hw h k
section
variable {α:Type} (c:α->α->Int)
end
def Ky(t:Tr)(p:aa):Bool:=(yl (Gc (Ol t p))).any fun v=>(qP t p v).1
def TW(t:Tr)(p:aa):Bool:=(yl (Gc (Ol t p))).all fun v=>(qP t p v).1
def aHt(t:Tr)(p:aa):Int:=if Ky t p&&TW t p then 2 else if Ky t p then 1 else 0
def Hs(u:aa): ¬eE u u:=by
 rintro (h|⟨_,h⟩)
 .omega
 .have:u.cross u=0:=by unfold aa.cross;grind
  rw[this] at h;exact absurd h (by decide)
def SG{u v:aa}(h:eE u v)(k:eE v u):False:=Hs u (EZ h k)
def Po{x y:aa}(h: ¬eE x y)(k: ¬eE y x):fm x y=0:=by
 rw[<-wJ] at h k;unfold fm at*;split at h<;>try omega
 split at h<;>try omega
 split at k<;>try omega
 rw[show y.cross x= -(x.cross y) by unfold aa.cross;grind,nL,Int.sign_neg] at k;omega
def yz(l:List aa):du 6 (l.map eZ):=fun d hd=>by
 obtain⟨x,_,rfl⟩:=bX.1 hd;exact⟨J,J⟩
instance aO.negp (p:aa) (i:Nat) [h:aO p i]:aO (kP p) i:=⟨inferInstanceAs (BQ (-p.x) i),inferInstanceAs (BQ (-p.y) i)⟩
instance aO.prip (l:ab) [LB l]:aO (yT l.dir) 500:=by
 have h:=(inferInstance:aO (l.dir.scale (rgcd l.dir.x l.dir.y)⁻¹) _);exact⟨h.x.mono (by decide),h.y.mono (by decide)⟩
def Nb{p:aa}{i:Nat}[h:aO p i](hi:i<=900000000:=by decide):PF GB prog 183 [eZ p] (eZ (oe p)):=by
 refine fn func183 J J ntmps183 J J (fun C=>?_);refine cl J (nA (q:=p.y) (i:=i) hi) J<|rz J J
def QS{q:Rat}{i:Nat}[h:BQ q i](hi:i<=400000000:=by decide):PF GB prog 94 [eR q] (eF q):=by
 haveI:BN q.num.natAbs i:=⟨h.hn⟩;haveI:BN q.den i:=⟨h.hd⟩;refine fn func94 J J ntmps94 J J (fun C=>?_);refine cl (fu:=⟨0⟩) J (td (n:=decide (q.num<0)) (a:=q.num.natAbs) (d:=q.den) (i:=i) (j:=i) (by omega) (by omega)) J<|ah 7 (.d (eF q)) J (by rw[jB,pZ])<|gx J<|rz J J
def yY{p:aa}{i:Nat}[h:aO p i](hi:i<=400000000:=by decide):PF GB prog 50 [gh p] (eZ p):=by
 refine fn func50 J J ntmps50 J J (fun C=>?_);refine cl J (QS (q:=p.x) (i:=i) hi) J<|cl J (QS (q:=p.y) (i:=i) hi) J<|rz J J
end Go.Sx
end
