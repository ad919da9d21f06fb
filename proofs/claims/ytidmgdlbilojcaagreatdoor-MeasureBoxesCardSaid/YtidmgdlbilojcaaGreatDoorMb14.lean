import Derived.Test.YtidmgdlbilojcaaGreatDoorMb13
set_option linter.all false
set_option maxHeartbeats 2000000
set_option maxRecDepth 100000
section
namespace Go.Sx
open Go Go.Proofs Tryz
variable {GB:Gh}
def lx(out:List Rat)(s:ah):List Rat:=if s.nh then(if s.nl then out else mH s.lo out) else mH s.hi (if s.nl then out else mH s.lo out)
def gG(l:List ah):List Rat:=l.foldl lx []
def sD:List ah->Rat->Int
 |[],_=>0
 |s::t,x=>
  let a:=if s.nl then 1 else bg x s.lo
  let b:=if s.nh then-1 else bg x s.hi
  if 0<a/\b<0 then 2 else if(a=0/\b<=0)\/(b=0/\0<=a) then 1 else sD t x
def fA(l:List ah)(x:Rat):Bool:=decide (sD l x=2)
def dt(cuts:List Rat)(i:Nat):ah:=⟨if i=0 then 0 else cuts.getD (i-1) 0,if i<cuts.length then cuts.getD i 0 else 0,decide (i=0),decide (i=cuts.length)⟩
def vf(v w:ah):ah:=⟨v.lo,w.hi,v.nl,w.nh⟩
def fC(cuts:List Rat)(marks:List Bool):Nat->List ah
 |0=>[]
 |k+1=>
  let out:=fC cuts marks k
  if marks.getD k false then
   (if 0<k/\marks.getD (k-1) false=true then(match out.getLast? with
    |some v=>out.dropLast++[vf v (dt cuts k)]
    |none=>out++[dt cuts k]) else out++[dt cuts k])
  else out
def uC(cuts:List Rat)(marks:List Bool):List ah:=fC cuts marks marks.length
def nI(op:Int)(x y:Bool):Bool:=if op=2 then x&&y else if op=3 then x&&!y else if op=4 then x !=y else x||y
def oq(op:Int)(a b:List ah):List ah:=uC (gG (a++b)) ((e7 (gG (a++b))).map fun t=>nI op (fA a t) (fA b t))
def iF(l m:aa)(side:Int):List ah:=
 if crossI l m=0 then(if(m.value l.base).num.sign=side then [ah.all] else [])
 else if(m.value (l.at (gk l (d9 l m)+1))).num.sign=side then [⟨gk l (d9 l m),0,false,true⟩] else [⟨0,gk l (d9 l m),true,false⟩]
def ly(l m:aa):Bool:=decide (crossI l m=0/\(m.value l.base).num.sign=0)
def et(f:ba)(m:aa)(side:Int):List ba:=if ly f.l m then [] else(oq 2 [f.v] (iF f.l m side)).map fun v=>⟨f.l,v⟩
def H5(l:List ah):(gG l).Pairwise (· < ·)/\ ∀y∈gG l,∃s∈l,(s.nl=false/\y=s.lo)\/(s.nh=false/\y=s.hi):=by
 have key: ∀(l:List ah) (o:List Rat),o.Pairwise (· < ·)->(l.foldl lx o).Pairwise (· < ·)/\ ∀y∈l.foldl lx o,y∈o\/ ∃s∈l,(s.nl=false/\y=s.lo)\/(s.nh=false/\y=s.hi):=by
  intro l
  induction l with
  |nil=>intro o h;exact⟨h,fun y hy=> .inl hy⟩
  |cons s t ih=>
   intro o h;have h1:(lx o s).Pairwise (· < ·)/\ ∀y∈lx o s,y∈o\/(s.nl=false/\y=s.lo)\/(s.nh=false/\y=s.hi):=by
    unfold lx
    cases e1:s.nl<;>cases e2:s.nh<;>simp only[if_true,jT,if_false]
    ·refine⟨Bq (Bq h),fun y hy=>?_⟩
     rcases qj.1 hy with h|h
     ·exact .inr (.inr ⟨trivial,h⟩)
     ·rcases qj.1 h with h|h
      ·exact .inr (.inl ⟨trivial,h⟩)
      ·exact .inl h
    ·refine⟨Bq h,fun y hy=>?_⟩
     rcases qj.1 hy with h|h
     ·exact .inr (.inl ⟨trivial,h⟩)
     ·exact .inl h
    ·refine⟨Bq h,fun y hy=>?_⟩
     rcases qj.1 hy with h|h
     ·exact .inr (.inr ⟨trivial,h⟩)
     ·exact .inl h
    ·exact⟨h,fun y hy=> .inl hy⟩
   obtain⟨k1,k2⟩:=ih (lx o s) h1.1;refine⟨k1,fun y hy=>?_⟩;rcases k2 y hy with h2|⟨q,hq,h2⟩
   ·rcases h1.2 y h2 with h3|h3
    ·exact .inl h3
    ·exact .inr ⟨s,aQ,h3⟩
   ·exact .inr ⟨q,aJ _ hq,h2⟩
 have:=key l [] List.Pairwise.nil;refine⟨this.1,fun y hy=>?_⟩;rcases this.2 y hy with h|h
 ·cases h
 ·exact h
structure Iz (cuts:List Rat) (v:ah):Prop where
 z:gH v
 lo:v.nl=true\/v.lo∈cuts
 hi:v.nh=true\/v.hi∈cuts
def V9{cuts:List Rat}{i:Nat}(h:i<=cuts.length):Iz cuts (dt cuts i):=by
 unfold dt;refine⟨⟨fun e=>?_,fun e=>?_⟩,?_,?_⟩
 ·simp only[decide_eq_true_eq] at e;simp[e]
 ·simp only[decide_eq_true_eq] at e;simp[e]
 ·by_cases h0:i=0
  ·left;simp[h0]
  ·right
   simp only[if_neg h0];rw[aX,aZ (by omega)];exact bM _
 ·by_cases h0:i=cuts.length
  ·left;simp[h0]
  ·right
   simp only[if_pos (show i<cuts.length by omega)];rw[aX,aZ (by omega)];exact bM _
def Su{cuts:List Rat}{marks:List Bool}: ∀{k:Nat},k<=cuts.length+1-> ∀v∈fC cuts marks k,Iz cuts v
 |0,_,v,hv=>by cases hv
 |k+1,hk,v,hv=>by
  have ih:=Su (cuts:=cuts) (marks:=marks) (k:=k) (by omega);have hg:=V9 (cuts:=cuts) (i:=k) (by omega);rw[fC] at hv;split at hv
  ·split at hv
   ·split at hv
    ·rename_i w hw
     rcases bK.1 hv with h|h
     ·exact ih v ((sZ _).subset h)
     ·rw[aU] at h;subst h
      have hw':=ih w (oV hw);exact⟨⟨hw'.z.1,hg.z.2⟩,hw'.lo,hg.hi⟩
    ·rcases bK.1 hv with h|h
     ·exact ih v h
     ·rw[aU] at h;subst h;exact hg
   ·rcases bK.1 hv with h|h
    ·exact ih v h
    ·rw[aU] at h;subst h;exact hg
  ·exact ih v hv
def A9{l:List Rat}:(e7 l).length=l.length+1:=by
 have key: ∀(l:List Rat) (a:Rat),(iI (a::l)).length=l.length:=by
  intro l
  induction l with
  |nil=>intro a;rfl
  |cons b t ih=>intro a;rw[iI,bX,ih b,bX]
 cases l with
 |nil=>rfl
 |cons a t=>rw[e7,bX,aV,key];simp
def axN{op:Int}{a b:List ah}: ∀v∈oq op a b,Iz (gG (a++b)) v:=fun v hv=>by
 unfold oq uC at hv;refine Su ?_ v hv;rw[aK,A9];omega
def GR{cuts:List Rat}{marks:List Bool}: ∀{k:Nat},(fC cuts marks k).length<=k
 |0=>aN _
 |k+1=>by
  have ih:=GR (cuts:=cuts) (marks:=marks) (k:=k);rw[fC];split
  ·split
   ·split
    ·rename_i w hw
     have:=List.length_pos_of_mem (oV hw);rw[aV,iK];simp;omega
    ·rw[aV];simp;omega
   ·rw[aV];simp;omega
  ·omega
structure nA (f:ba):Prop where
 lb:LB f.l
 ok:f.l.ok
 z:gH f.v
 lo:BQ f.v.lo 1200
 hi:BQ f.v.hi 1200
theorem BQ.zero1200:BQ (0:Rat) 1200:=BQ.mono (k:=1) ⟨by decide,by decide⟩ (by decide)
def F8{l m:aa}(hl:LB l)(hm:LB m)(hlo:l.ok){side:Int}: ∀v∈iF l m side,gH v/\BQ v.lo 1200/\BQ v.hi 1200:=fun v hv=>by
 unfold iF at hv;split at hv
 ·split at hv
  ·rw[aU] at hv;subst hv;exact⟨gH.all,BQ.zero1200,BQ.zero1200⟩
  ·cases hv
 ·rename_i hc
  have:=D9 hlo.ne hc;split at hv
  ·rw[aU] at hv;subst hv;exact⟨⟨fun h=>(by cases h),fun _=>J⟩,this,BQ.zero1200⟩
  ·rw[aU] at hv;subst hv;exact⟨⟨fun _=>J,fun h=>(by cases h)⟩,BQ.zero1200,this⟩
def FT{f:ba}{m:aa}(h:nA f)(hm:LB m){side:Int}: ∀g∈et f m side,nA g/\g.l=f.l/\ly f.l m=false:=fun g hg=>by
 unfold et at hg;split at hg
 ·cases hg
 ·rename_i ho
  obtain⟨v,hv,rfl⟩:=bQ.1 hg;have hi:=axN v hv;have bd: ∀y∈gG ([f.v]++iF f.l m side),BQ y 1200:=fun y hy=>by
   obtain⟨s,hs,h1⟩:=(H5 _).2 y hy;rcases bK.1 hs with hs|hs
   ·rw[aU] at hs;subst hs
    rcases h1 with⟨_,rfl⟩|⟨_,rfl⟩
    ·exact h.lo
    ·exact h.hi
   ·have:=F8 h.lb hm h.ok s hs
    rcases h1 with⟨_,rfl⟩|⟨_,rfl⟩
    ·exact this.2.1
    ·exact this.2.2
  refine⟨⟨h.lb,h.ok,hi.z,?_,?_⟩,J,by simpa using ho⟩
  ·rcases hi.lo with e|e
   ·rw[hi.z.1 e];exact BQ.zero1200
   ·exact bd _ e
  ·rcases hi.hi with e|e
   ·rw[hi.z.2 e];exact BQ.zero1200
   ·exact bd _ e
def i8(acc:ab->Bool):Nat->List ba->List aa->Tr
 |_,[],c=> .leaf (acc (iC c c))
 |0,_::_,_=> .leaf false
 |n+1,f::t,c=> .node f.l (i8 acc n ((f::t).flatMap fun g=>et g f.l 1) (c++[f.l])) (i8 acc n ((f::t).flatMap fun g=>et g f.l (-1)) (c++[f.l.rev]))
def VQ{f g:ba}{m:aa}{side:Int}(h:g∈et f m side):g.l=f.l:=by
 unfold et at h;split at h
 ·cases h
 ·obtain⟨v,_,rfl⟩:=bQ.1 h;rfl
def vM{acc:ab->Bool}{P:aa->Prop}: ∀{n:Nat} {l:List ba} {c:List aa},(∀f∈l,P f.l)->(i8 acc n l c).all P
 |n,[],c,_=>by unfold i8;trivial
 |0,_::_,_,_=>by unfold i8;trivial
 |n+1,f::t,c,h=>by
  rw[i8];refine⟨h f aQ,vM fun g hg=>?_,vM fun g hg=>?_⟩<;>
  ·obtain⟨q,hq,hg⟩:=gQ.1 hg
   rw[VQ hg];exact h q hq
def HI{acc:ab->Bool}: ∀{n:Nat} {l:List ba} {c:List aa},(i8 acc n l c).depth<=n
 |n,[],c=>by unfold i8;exact bV _
 |0,_::_,_=>by unfold i8;exact bV _
 |n+1,f::t,c=>by
  rw[i8,Tr.depth];have h1:=HI (acc:=acc) (n:=n) (l:=(f::t).flatMap fun g=>et g f.l 1) (c:=c++[f.l]);have h2:=HI (acc:=acc) (n:=n) (l:=(f::t).flatMap fun g=>et g f.l (-1)) (c:=c++[f.l.rev]);omega
def r8(n:Nat)(l:List ba):Prop:= ∃K:List aa,K.length<=n/\ ∀f∈l,∃m∈K,m.same f.l
def Vv{m:aa}(hm:m.Ne):m.value m.base=0:=by
 have h:=lm hm 0;rw[<-tL,gv] at h;grind
def Vz{l m:aa}(h:l.same m)(hm:m.Ne):ly m l=true:=by
 unfold ly;rw[decide_eq_true_iff];refine⟨?_,?_⟩
 ·rcases h with rfl|rfl
  ·unfold crossI;omega
  ·unfold crossI aa.rev
   show(-l.a)*l.b-l.a*(-l.b)=0;grind
 ·rw[ll]
  exact CY h.symm (Vv hm)
def r8.split{n:Nat}{f:ba}{t:List ba}(h:r8 (n+1) (f::t))(hok: ∀g∈f::t,nA g){side:Int}:r8 n ((f::t).flatMap fun g=>et g f.l side):=by
 obtain⟨K,hK,hs⟩:=h;refine⟨K.filter fun m=>!decide (m.same f.l),?_,fun g hg=>?_⟩
 ·obtain⟨m,hm,hm2⟩:=hs f aQ
  have:(K.filter fun m=>!decide (m.same f.l)).length<K.length:=by
   refine pM.2 ⟨m,hm,by simp[hm2]⟩
  omega
 ·obtain⟨q,hq,hg⟩:=gQ.1 hg
  obtain⟨_,e,ho⟩:=FT (hok q hq) (hok f aQ).lb g hg;obtain⟨m,hm,hm2⟩:=hs q hq;refine⟨m,jS.2 ⟨hm,?_⟩,by rw[e];exact hm2⟩;simp only[gV,decide_eq_false_iff_not];intro h;have:=Vz (h.symm.trans hm2) (hok q hq).ok.ne;rw[this] at ho;cases ho
def UK{p q r:Bool}{a b c:Nat}(h:Nat.gcd a b≠0):aa.ok ⟨zv p (a/Nat.gcd (Nat.gcd a b) c),zv q (b/Nat.gcd (Nat.gcd a b) c),zv r (c/Nat.gcd (Nat.gcd a b) c)⟩:=by
 have hg:0<Nat.gcd (Nat.gcd a b) c:=mY _ (iS h);have d0:Nat.gcd (Nat.gcd a b) c∣Nat.gcd a b:=nU _ _;have d1:Nat.gcd (Nat.gcd a b) c∣a:=sV d0 (nU _ _);have d2:Nat.gcd (Nat.gcd a b) c∣b:=sV d0 (oK _ _);have d3:Nat.gcd (Nat.gcd a b) c∣c:=oK _ _;refine⟨?_,?_⟩
 ·rintro ⟨h1,h2⟩
  have h1':=congrArg Int.natAbs h1;have h2':=congrArg Int.natAbs h2;simp only[rI,kN] at h1' h2';have e1:=Nat.div_mul_cancel d1;have e2:=Nat.div_mul_cancel d2;rw[h1',mQ] at e1;rw[h2',mQ] at e2;exact h (by rw[<-e1,<-e2];rfl)
 ·simp only[rI]
  rw[Nat.gcd_div d1 d2,Nat.gcd_div d0 d3,Nat.div_self hg]
def Kl(p:Bool)(a g:Nat):(zv p (a/g)).natAbs<=a:=by rw[rI];exact kM ..
def PF.eq{P:Program}{f:FuncId}{vs:List DV}{r r':DV}(h:PF GB P f vs r)(e:r=r'):PF GB P f vs r':=e▸h
def iP(m n:Int):ab:=⟨(m:Rat),(n:Rat)⟩
theorem y7{m:Int}{k:Nat}(h:m.natAbs<2^k):BI m k:=⟨h⟩
theorem ja{m:Int}{k:Nat}(h:m.natAbs<=1000)(hk:10<=k):BI m k:=⟨dW (show m.natAbs<2^10 by omega) (bY (by decide) hk)⟩
instance ay.int (m n:Int) (i:Nat) [h:BI m i] [k:BI n i]:ay (iP m n) (i+1):=⟨inferInstanceAs (BQ (m:Rat) (i+1)),inferInstanceAs (BQ (n:Rat) (i+1))⟩
def vr{q:Rat}{k:Int}(h:q=(k:Rat)):eQ q=eQ (k:Rat):=by rw[h]
def ePI{p:ab}{m n:Int}(h1:p.x=(m:Rat))(h2:p.y=(n:Rat)):eP p=eP (iP m n):=by
 obtain⟨x,y⟩:=p;simp only at h1 h2;subst h1 h2;rfl
def qz(a b c:Int):aa:=
 ⟨zv (decide (a<0)) (a.natAbs/Nat.gcd (Nat.gcd a.natAbs b.natAbs) c.natAbs),zv (decide (b<0)) (b.natAbs/Nat.gcd (Nat.gcd a.natAbs b.natAbs) c.natAbs),zv (decide (c<0)) (c.natAbs/Nat.gcd (Nat.gcd a.natAbs b.natAbs) c.natAbs)⟩
def aEf{a b c:Int}(h: ¬(a=0/\b=0)):(qz a b c).ok:=
 UK fun e=>h ⟨nS.1 (oT e),nS.1 (oW e)⟩
def aDR(a b c:Int):(qz a b c).a.natAbs<=a.natAbs/\(qz a b c).b.natAbs<=b.natAbs/\(qz a b c).c.natAbs<=c.natAbs:=⟨Kl ..,Kl ..,Kl ..⟩
def mf{m n:Int}(hm:m.natAbs<=1000)(hn:n.natAbs<=1000):PF GB prog 57 [.v (.int .i64 m), .v (.int .i64 n)] (eP (iP m n)):=by
 refine fn func57 J J ntmps57 J J (fun C=>?_);refine cl J (ku (n:=m) (by omega) (by omega)) J<|cl J (ku (n:=n) (by omega) (by omega)) J<|?_;exact rz J J
def J3{m n m' n' k:Int}(hm:m.natAbs<=1000)(hn:n.natAbs<=1000)(hm':m'.natAbs<=1000)(hn':n'.natAbs<=1000)(hk:k.natAbs<=1000):PF GB prog 22 [eP (iP m n),eQ (k:Rat),eP (iP m' n')] (eP (iP (m+k*m') (n+k*n'))):=by
 haveI:=ja (k:=10) hm (by decide);haveI:=ja (k:=10) hn (by decide);haveI:=ja (k:=10) hm' (by decide);haveI:=ja (k:=10) hn' (by decide);haveI:=ja (k:=10) hk (by decide);exact PF.eq (A8 (p:=iP m n) (q:=iP m' n') (c:=(k:Rat))) (ePI (by show(m:Rat)+(k:Rat)*(m':Rat)=_;push_cast;rfl) (by show(n:Rat)+(k:Rat)*(n':Rat)=_;push_cast;rfl))
def Xb{m n m' n':Int}(hm:m.natAbs<=1000)(hn:n.natAbs<=1000)(hm':m'.natAbs<=1000)(hn':n'.natAbs<=1000):PF GB prog 275 [eP (iP m n),eP (iP m' n')] (eP (iP (m-m') (n-n'))):=by
 refine fn func275 J J ntmps275 J J (fun C=>?_);refine cl J (ku (n:= -1) (by decide) (by decide)) J<|cl J (J3 (m:=m) (n:=n) (m':=m') (n':=n') (k:= -1) hm hn hm' hn' (by decide)) J<|?_;exact rz J (by rw[show m-m'=m+ -1*m' by omega,show n-n'=n+ -1*n' by omega];rfl)
def IS{m n m' n':Int}(hm:m.natAbs<=1000)(hn:n.natAbs<=1000)(hm':m'.natAbs<=1000)(hn':n'.natAbs<=1000):PF GB prog 24 [eP (iP m n),eP (iP m' n')] (.v (.bool (decide (m=m'/\n=n')))):=by
 haveI:=ja (k:=10) hm (by decide);haveI:=ja (k:=10) hn (by decide);haveI:=ja (k:=10) hm' (by decide);haveI:=ja (k:=10) hn' (by decide);refine fn func24 J J ntmps24 J J (fun C=>?_);refine cl J (jm (a:=(m:Rat)) (b:=(m':Rat))) J<|?_;refine cs 11 J J J (fun hg11=>?_) (fun hg11=>?_)
 .
  refine cl J (jm (a:=(n:Rat)) (b:=(n':Rat))) J<|?_;exact rz J (by rw[tC] at hg11;have e:m=m':=(by exact_mod_cast hg11);exact congrArg (fun z=>DV.v (.bool z)) (decide_eq_decide.2 (by rw[tC,nN];simp[e])))
 .
  exact rz J (by rw[tC] at hg11;have e: ¬m=m':=(fun e=>hg11 (by rw[e]));show DV.v (.bool false)=DV.v (.bool _);rw[decide_eq_false (fun h=>e h.1)])
def O4{a b k:Nat}(ha:a<k)(hb:b<k):Nat.gcd a b<k:=by
 rcases fX a with rfl|p
 ·simpa using hb
 ·exact fT (Nat.gcd_le_left b p) ha
def WO{a b c:Int}{i:Nat}(ha:BI a i)(hb:BI b i)(hc:BI c i)(hi:i<=100000000)(h0: ¬(a=0/\b=0)):PF GB prog 276 [eI a,eI b,eI c] (.tp [eL (qz a b c), .v (.bool true)]):=by
 have hgn:Nat.gcd a.natAbs b.natAbs≠0:=fun h=>h0 ⟨nS.1 (oT h),nS.1 (oW h)⟩;have hgp:0<Nat.gcd (Nat.gcd a.natAbs b.natAbs) c.natAbs:=mY _ (iS hgn);haveI hb1:BN (Nat.gcd a.natAbs b.natAbs) i:=⟨O4 ha.h hb.h⟩;haveI hb2:BN (Nat.gcd (Nat.gcd a.natAbs b.natAbs) c.natAbs) i:=⟨O4 hb1.h hc.h⟩;refine fn func276 J J ntmps276 J J (fun C=>?_);refine cl J (KU (a:=a.natAbs) (b:=b.natAbs) (by omega) (by omega)) J<|?_;refine br J J J (fun hc22=>?_) (fun hc22=>?_)
 .
  exact absurd hc22 (by rw[aK];intro h;exact hgn (xg.1 (by omega)))
 .
  refine cl J (KU (a:=Nat.gcd a.natAbs b.natAbs) (b:=c.natAbs) (by omega) (by omega)) J<|cl J (Af (a:=a.natAbs) (b:=Nat.gcd (Nat.gcd a.natAbs b.natAbs) c.natAbs) hgp (by omega) (by omega)) J<|?_;refine cl J (Af (a:=b.natAbs) (b:=Nat.gcd (Nat.gcd a.natAbs b.natAbs) c.natAbs) hgp (by omega) (by omega)) J<|cl J (Af (a:=c.natAbs) (b:=Nat.gcd (Nat.gcd a.natAbs b.natAbs) c.natAbs) hgp (by omega) (by omega)) J<|?_;refine cl J (kB (m:=a.natAbs/(Nat.gcd (Nat.gcd a.natAbs b.natAbs) c.natAbs)) (neg:=decide (a<0))) J<|cl J (kB (m:=b.natAbs/(Nat.gcd (Nat.gcd a.natAbs b.natAbs) c.natAbs)) (neg:=decide (b<0))) J<|?_;refine cl J (kB (m:=c.natAbs/(Nat.gcd (Nat.gcd a.natAbs b.natAbs) c.natAbs)) (neg:=decide (c<0))) J<|?_;exact rz J J
def p8(n n':Int):Int:= -(n'-n)
def pq(m m':Int):Int:=m'-m
def xb(m n m' n':Int):Int:= -(p8 n n'*m+pq m m'*n)
def mp(m n m' n':Int):aa:=qz (p8 n n') (pq m m') (xb m n m' n')
def FN{a b:Int}(ha:a.natAbs<=2000)(hb:b.natAbs<=1000):(a*b).natAbs<=2000000:=by
 rw[jK];exact iW ha hb
def TZ{m n m' n':Int}(hm:m.natAbs<=1000)(hn:n.natAbs<=1000)(hm':m'.natAbs<=1000)(hn':n'.natAbs<=1000)(h0: ¬(m=m'/\n=n')):PF GB prog 234 [eP (iP m n),eP (iP m' n')] (.tp [eL (mp m n m' n'), .v (.bool true)]):=by
 obtain⟨a,hA⟩: ∃a,a=p8 n n':=⟨_,rfl⟩;obtain⟨b,hB⟩: ∃b,b=pq m m':=⟨_,rfl⟩;have hA':a= -(n'-n):=hA;have hB':b=m'-m:=hB;obtain⟨c,hC⟩: ∃c,c= -(a*m+b*n):=⟨_,rfl⟩;have e1:=FN (a:=a) (b:=m) (by omega) hm;have e2:=FN (a:=b) (b:=n) (by omega) hn;haveI hm0:=ja (k:=10) hm (by decide);haveI hn0:=ja (k:=10) hn (by decide);haveI ha:BI a 30:=y7 (by omega);haveI hb:BI b 30:=y7 (by omega);haveI hc:BI c 30:=y7 (by omega);have hthr:mp m n m' n'=qz a b c:=by rw[hC,hA,hB];rfl
 have hne: ¬(a=0/\b=0):=fun h=>h0 (by omega);refine fn func234 J J ntmps234 J J (fun C=>?_);refine cl J (Xb (m:=m') (n:=n') (m':=m) (n':=n) hm' hn' hm hn) J<|cl J (PF.eq (wS (q:=(((n'-n):Int):Rat))) (vr (k:=a) (by rw[hA'];push_cast;rfl))) J<|?_;refine cl J (PF.eq (jc (a:=(a:Rat)) (b:=(m:Rat))) (vr (k:=a*m) (by push_cast;rfl))) J<|cl J (PF.eq (by haveI:BI (m'-m) 30:=(by rw[<-hB'];exact hb);exact jc (a:=(((m'-m):Int):Rat)) (b:=(n:Rat))) (vr (k:=b*n) (by rw[hB'];push_cast;rfl))) J<|?_;refine cl J (PF.eq (pE (a:=((a*m:Int):Rat)) (b:=((b*n:Int):Rat))) (vr (k:=a*m+b*n) (by push_cast;rfl))) J<|cl J (PF.eq (wS (q:=((a*m+b*n:Int):Rat))) (vr (k:=c) (by rw[hC];push_cast;rfl))) J<|?_;refine cl J (kz (q:=(a:Rat))) J<|cl J (kz (q:=(((m'-m):Int):Rat))) J<|cl J (PF.eq (r4 (a:=1) (b:=1)) J) J<|?_;refine cl J (kz (q:=(c:Rat))) J<|cl J (PF.eq (r4 (a:=1) (b:=1)) J) J<|cl (fu:=⟨1⟩) J (kB (neg:=false) (m:=1)) J<|?_;refine aj 40 (.d (eQ ((1:Int):Rat))) J J ?_;refine gx J<|cl J (PF.eq (jc (a:=(a:Rat)) (b:=((1:Int):Rat))) (vr (k:=a) (by push_cast;grind))) J<|cl J (PF.eq (by haveI:BI (m'-m) 30:=(by rw[<-hB'];exact hb);exact jc (a:=(((m'-m):Int):Rat)) (b:=((1:Int):Rat))) (vr (k:=b) (by rw[hB'];push_cast;grind))) J<|?_;refine cl J (PF.eq (jc (a:=(c:Rat)) (b:=((1:Int):Rat))) (vr (k:=c) (by push_cast;grind))) J<|cl J (WO (a:=a) (b:=b) (c:=c) ha hb hc (by decide) hne) J<|?_;exact rz J (by rw[hthr];rfl)
def aw8{es:List Int}{a:Nat}(h:a<es.length):(es.map vI)[(a:Int).toNat]? =some (vI es[a]):=by simp[h]
def awW:eP (iP 0 0)= .ag [.v (.bool false), .sl [], .sl [], .v (.bool false), .sl [], .sl []]:=by
 unfold eP iP;simp[p9,dD]
def ao(es:List Int)(n:Int)(a:Nat):Nat×Nat:=
 if h:a<es.length then((if Int.tmod es[a] n<0 then Int.tmod es[a] n+n else Int.tmod es[a] n).toNat,a+1) else(0,a)
def kI{es:List Int}{n:Int}{a:Nat}(hn:1<=n):((ao es n a).1:Int)<n:=by
 unfold ao;split
 ·rename_i h
  have q2:=Int.tmod_lt_of_pos es[a] (show 0<n by omega);dsimp only;split<;>omega
 ·exact hn
def gD{es:List Int}{n:Int}{a:Nat}(ha:a<=es.length):(ao es n a).2<=es.length:=by
 unfold ao;split
 ·assumption
 ·exact ha
def pF(es:List Int)(a:Nat):(Int×Int)×Nat:=((((ao es 9 a).1:Int)-4,((ao es 9 (ao es 9 a).2).1:Int)-4),(ao es 9 (ao es 9 a).2).2)
def AB{es:List Int}{a:Nat}(ha:a<=es.length):(pF es a).1.1.natAbs<=4/\(pF es a).1.2.natAbs<=4/\(pF es a).2<=es.length:=by
 have h1:=kI (es:=es) (n:=9) (a:=a) (by decide);have h2:=kI (es:=es) (n:=9) (a:=(ao es 9 a).2) (by decide);have h3:=gD (n:=9) (gD (es:=es) (n:=9) ha);unfold pF;exact⟨by dsimp only;omega,by dsimp only;omega,h3⟩
def vF(es:List Int)(a:Nat):(Int×Int)×Nat:=if(pF es a).1.1=0/\(pF es a).1.2=0 then((1,0),(pF es a).2) else pF es a
def DI{es:List Int}{a:Nat}(ha:a<=es.length):(vF es a).1.1.natAbs<=4/\(vF es a).1.2.natAbs<=4/\ ¬((vF es a).1.1=0/\(vF es a).1.2=0)/\(vF es a).2<=es.length:=by
 obtain⟨h1,h2,h3⟩:=AB ha;unfold vF;split
 ·exact⟨show(1:Int).natAbs<=4 by decide,show(0:Int).natAbs<=4 by decide,show¬((1:Int)=0/\(0:Int)=0) by decide,h3⟩
 ·rename_i h;exact⟨h1,h2,h,h3⟩
def lF(es:List Int)(a:Nat):aa×Nat:=(mp (pF es a).1.1 (pF es a).1.2 ((pF es a).1.1+1*(vF es (pF es a).2).1.1) ((pF es a).1.2+1*(vF es (pF es a).2).1.2),(vF es (pF es a).2).2)
def ng(es:List Int):Nat->Nat->Tr×Nat
 |0,a=>(.leaf (decide (((ao es 2 a).1:Int)=1)),(ao es 2 a).2)
 |d+1,a=>if((ao es 4 a).1:Int)=0 then(.leaf (decide (((ao es 2 (ao es 4 a).2).1:Int)=1)),(ao es 2 (ao es 4 a).2).2) else
  (.node (lF es (ao es 4 a).2).1 (ng es d (lF es (ao es 4 a).2).2).1 (ng es d (ng es d (lF es (ao es 4 a).2).2).2).1,(ng es d (ng es d (lF es (ao es 4 a).2).2).2).2)
def nE{b:Nat}{es:List Int}(hes:es.length<=400){a:Nat}(ha:a<=es.length){n:Int}(hn:1<=n)(hn2:n<=1000):PM GB prog 35 (i5 [none,some (.v (.int .i64 n))] b) b 87 [.sl (es.map vI), .v (.int .i64 (a:Nat))] (.v (.int .i64 ((ao es n a).1:Nat))) [.sl (es.map vI), .v (.int .i64 ((ao es n a).2:Nat))]:=by
 have hel:(es.map vI).length=es.length:=by simp
 refine tH func35 J J ntmps35 J J (fun C b m lo hmb=>?_);refine br J J J (fun hc15=>?_) (fun hc15=>?_)
 .
  have hf:ao es n a=(0,a):=by unfold ao;rw[dif_neg (by omega)]
  exact jF hmb J J (by rw[hf]<;>rfl) (by rw[hf]<;>rfl)
 .
  have hal:a<es.length:=by omega
  obtain⟨e,he⟩: ∃e,e=es[a]:=⟨_,rfl⟩;have q2:=Int.tmod_lt_of_pos e (show 0<n by omega);have q3: -n<Int.tmod e n:=by have:=Int.lt_tmod_of_pos e (show 0<n by omega);omega
  refine ix (fu:=⟨1⟩) _ J (aw8 hal) J<|?_;refine aj 25 (.d (vI e)) J (by rw[he]<;>rfl) ?_;refine gx (hv:=by simp only[ac];exact⟨⟨by omega,by kernel_rfl⟩,by omega⟩) J<|?_;refine br J J J (fun hc36=>?_) (fun hc36=>?_)
  .
   have hf:ao es n a=((Int.tmod e n+n).toNat,a+1):=by unfold ao;rw[dif_pos hal,<-he,if_pos hc36]
   exact jF hmb J J (by rw[hf];show DV.v (.int .i64 _)=DV.v (.int .i64 _);rw[qY (by omega)]) (by rw[hf]<;>rfl)
  .
   have hf:ao es n a=((Int.tmod e n).toNat,a+1):=by unfold ao;rw[dif_pos hal,<-he,if_neg hc36]
   exact jF hmb J J (by rw[hf];show DV.v (.int .i64 _)=DV.v (.int .i64 _);rw[qY (by omega)]) (by rw[hf]<;>rfl)
def Im{b:Nat}{es:List Int}(hes:es.length<=400){a:Nat}(ha:a<=es.length):PM GB prog 153 (i5 [none] b) b 87 [.sl (es.map vI), .v (.int .i64 (a:Nat))] (eP (iP (pF es a).1.1 (pF es a).1.2)) [.sl (es.map vI), .v (.int .i64 ((pF es a).2:Nat))]:=by
 have h1:=kI (es:=es) (n:=9) (a:=a) (by decide);have h2:=kI (es:=es) (n:=9) (a:=(ao es 9 a).2) (by decide);refine tH func153 J J ntmps153 J J (fun C b m lo hmb=>?_);refine cm J (fun b=>(nE (n:=9) hes ha (by decide) (by decide))) J<|cm J (fun b=>(nE (n:=9) hes (gD ha) (by decide) (by decide))) J<|?_;refine cl J (mf (m:=((ao es 9 a).1:Int)-4) (n:=((ao es 9 (ao es 9 a).2).1:Int)-4) (by omega) (by omega)) J<|?_;exact jF hmb J J J J
def O1{b:Nat}{es:List Int}(hes:es.length<=400){a:Nat}(ha:a<=es.length):PM GB prog 154 (i5 [none] b) b 87 [.sl (es.map vI), .v (.int .i64 (a:Nat))] (eP (iP (vF es a).1.1 (vF es a).1.2)) [.sl (es.map vI), .v (.int .i64 ((vF es a).2:Nat))]:=by
 obtain⟨hm,hn,ha1⟩:=AB ha;refine tH func154 J J ntmps154 J J (fun C b m lo hmb=>?_);refine cm (fu:=⟨9⟩) J (fun b=>(Im hes ha)) J<|?_;refine aj 7 (.d (eP (iP 0 0))) J (by rw[awW]<;>rfl) ?_;refine gx J<|cl J (IS (m:=(pF es a).1.1) (n:=(pF es a).1.2) (m':=0) (n':=0) (by omega) (by omega) (by decide) (by decide)) J<|?_;refine bd J J J (fun hc8=>?_) (fun hc8=>?_)
 .
  have hf:vF es a=((1,0),(pF es a).2):=by unfold vF;rw[if_pos hc8]
  refine cl J (mf (m:=1) (n:=0) (by decide) (by decide)) J<|?_;exact jF hmb J J (by rw[hf]<;>rfl) (by rw[hf])
 .
  have hf:vF es a=pF es a:=by unfold vF;rw[if_neg hc8]
  exact jF hmb J J (by rw[hf]<;>rfl) (by rw[hf])
def x5{p:Bool}:PF GB prog 88 [.v (.bool p)] (eT (.leaf p)):=by
 refine fn func88 J J ntmps88 J J (fun C=>?_);refine iE 5 J ?_;exact rz J J
abbrev ZP:=Int×Int
def ZP.q(p:ZP):ab:=iP p.1 p.2
def ZP.le(k:Nat)(p:ZP):Prop:=p.1.natAbs<=k/\p.2.natAbs<=k
def En(p q:ZP):ZP:=(p.1+1*q.1,p.2+1*q.2)
def vN(u v:ZP):Int:=u.1*v.2-u.2*v.1
theorem Sn{m n p q:Int}(hm:m.natAbs<=1000)(hn:n.natAbs<=1000)(hp:p.natAbs<=1000)(hq:q.natAbs<=1000)(h: ¬(p=m/\q=n)):LB (mp m n p q)/\(mp m n p q).ok:=by
 have e1:(p8 n q).natAbs<=2000:=by unfold p8;omega
 have e2:(pq m p).natAbs<=2000:=by unfold pq;omega
 have e3:=FN e1 hm;have e4:=FN e2 hn;have e5:(xb m n p q).natAbs<=4000000:=by unfold xb;omega
 unfold mp;obtain⟨k1,k2,k3⟩:=aDR (p8 n q) (pq m p) (xb m n p q);have hb:(2:Nat)^96=79228162514264337593543950336:=by decide
 refine⟨⟨⟨?_,?_,?_⟩⟩,aEf ?_⟩
 ·rw[hb];omega
 ·rw[hb];omega
 ·rw[hb];omega
 ·unfold p8 pq;omega
def kv(v w:ZP):ba:=⟨mp v.1 v.2 w.1 w.2,⟨gk (mp v.1 v.2 w.1 w.2) v.q,gk (mp v.1 v.2 w.1 w.2) w.q,false,false⟩⟩
def gn(r:List ZP)(i:Nat):ZP:=r.getD ((i+1)%r.length) (0,0)
def qv(r:List ZP):Nat->List ba
 |0=>[]
 |k+1=>qv r k++[kv (r.getD k (0,0)) (gn r k)]
def ki(r:List ZP):List ba:=qv r r.length
structure d5 (r:List ZP):Prop where
 n3:3<=r.length
 n6:r.length<=6
 le: ∀p∈r,ZP.le 100 p
 ne: ∀i<r.length,r.getD i (0,0)≠gn r i
def AV{r:List ZP}{i:Nat}(h:i<r.length):r.getD i (0,0)∈r:=by
 rw[aX,aZ h];exact bM h
def Dz{r:List ZP}{i:Nat}(h:i<r.length):gn r i∈r:=AV (dX _ (by omega))
theorem BQ.int1200{m:Int}(h:m.natAbs<=1000):BQ (m:Rat) 1200:=by
 haveI:BI m 11:=ja h (by decide);exact BQ.mono (inferInstance:BQ (m:Rat) 12) (by decide)
theorem RT{l:aa}(hl:LB l)(ho:l.ok){m n:Int}(hm:m.natAbs<=1000)(hn:n.natAbs<=1000):BQ (gk l (iP m n)) 1200:=by
 haveI:=ja (k:=11) hm (by decide);haveI:=ja (k:=11) hn (by decide);have hd:=Bn ho.ne;have hA:BI (l.a*l.a+l.b*l.b) _:=inferInstance;have hB:BI (m*l.b-n*l.a) _:=inferInstance;have hA':=Da (j:=1200) hA (by decide);have hB':=Da (j:=1200) hB (by decide);have e1:l.dir.dot l.dir=((l.a*l.a+l.b*l.b:Int):Rat):=by
  rw[pT,cY,cY];simp only[aa.dir,ab.dot];grind
 have e2:(iP m n).dot l.dir=((m*l.b-n*l.a:Int):Rat):=by
  rw[jL,cY,cY];simp only[aa.dir,ab.dot,iP];grind
 have hd':((0:Int):Rat)<((l.a*l.a+l.b*l.b:Int):Rat):=by rw[<-e1];exact hd
 unfold gk;rw[e2,e1];clear hA hB e1 e2;generalize l.a*l.a+l.b*l.b=D at*;generalize m*l.b-n*l.a=M at*;have hD:0<D:=Rat.intCast_lt_intCast.1 hd';refine BQ.of_fracI (n:=M) (D:=D) (by omega) ?_ hB' hA';have h0:(D:Rat)≠0:=fun e=>by rw[e] at hd';exact absurd hd' (by decide)
 have:((D.natAbs:Nat):Rat)=(D:Rat):=by
  have h1:((D.natAbs:Nat):Int)=D:=by omega
  rw[<-h1];rfl
 rw[this];grind
def ZW{v w:ZP}(hv:ZP.le 100 v)(hw:ZP.le 100 w)(h:v≠w):nA (kv v w):=by
 obtain⟨h1,h2⟩:=Sn (m:=v.1) (n:=v.2) (p:=w.1) (q:=w.2) (by have:=hv.1;omega) (by have:=hv.2;omega) (by have:=hw.1;omega) (by have:=hw.2;omega) (fun e=>h (Prod.ext e.1.symm e.2.symm));exact⟨h1,h2,⟨fun e=>(by cases e),fun e=>(by cases e)⟩,RT h1 h2 (by have:=hv.1;omega) (by have:=hv.2;omega),RT h1 h2 (by have:=hw.1;omega) (by have:=hw.2;omega)⟩
def IK{r:List ZP}(h:d5 r): ∀{k:Nat},k<=r.length->(qv r k).length=k/\ ∀f∈qv r k,nA f
 |0,_=>⟨J,fun f hf=>by cases hf⟩
 |k+1,hk=>by
  obtain⟨h1,h2⟩:=IK h (k:=k) (by omega);rw[qv];refine⟨by simp[h1],fun f hf=>?_⟩;rcases bK.1 hf with hf|hf
  ·exact h2 f hf
  ·rw[aU] at hf;subst hf
   exact ZW (h.le _ (AV (by omega))) (h.le _ (Dz (by omega))) (h.ne k (by omega))
def CW{r:List ZP}(h:d5 r):(ki r).length=r.length/\ ∀f∈ki r,nA f:=IK h (aN _)
def iw(rs:List (List ZP)):List ba:=rs.flatMap ki
def uh: ∀{rs:List (List ZP)},(∀r∈rs,d5 r)->(iw rs).length<=6*rs.length/\ ∀f∈iw rs,nA f
 |[],_=>⟨aN _,fun f hf=>by cases hf⟩
 |r::rs,h=>by
  obtain⟨h1,h2⟩:=uh (rs:=rs) fun q hq=>h q (aJ _ hq);obtain⟨k1,k2⟩:=CW (h r aQ);have:=(h r aQ).n6;unfold iw at*;rw[kU];refine⟨by rw[aV,k1,bX];omega,fun f hf=>?_⟩;rcases bK.1 hf with hf|hf
  ·exact k2 f hf
  ·exact h2 f hf
def zc(a b c:ab):Int:=(ab.cross (bF b a (-1)) (bF c a (-1))).num.sign
def qr(v w p:ab):Int:=
 (if bg v.y p.y<=0/\ ¬bg w.y p.y<=0/\0<zc v w p then 1 else 0)-(if¬bg v.y p.y<=0/\bg w.y p.y<=0/\zc v w p<0 then 1 else 0)
def oz(r:List ZP)(p:ab):Nat->Int
 |0=>0
 |k+1=>oz r p k+qr (r.getD k (0,0)).q (gn r k).q p
def lA(r:List ZP)(p:ab):Int:=oz r p r.length
def tu(fill n:Int):Bool:=(decide (fill=1)&&decide (n.tmod 2≠0))||(decide (fill=2)&&decide (n≠0))
def mn(rs:List (List ZP))(fill:Int)(p:ab):Bool:=tu fill (rs.foldl (fun n r=>n+lA r p) 0)
def wv(rs:List (List ZP))(fill:Int):Tr:=i8 (mn rs fill) (iw rs).length (iw rs) []
def pf(rs:List (List ZP))(fill:Int):Tr:=(wv rs fill).restrict []
structure jp (k:Nat) (t:Tr):Prop where
 gd:t.gd
 dp:t.depth<=k
 am: ∃K:List aa,K.length<=k/\(∀l∈K,l.ok)/\lz K t
def HN{acc:ab->Bool}{n:Nat}{l:List ba}(h: ∀f∈l,nA f)(hn:l.length=n):jp n (i8 acc n l []):=
 ⟨⟨vM fun f hf=>(h f hf).lb,vM fun f hf=>(h f hf).ok⟩,HI,l.map (·.l),by rw[aK,hn];exact aN _,fun m hm=>by
  obtain⟨f,hf,rfl⟩:=bQ.1 hm;exact(h f hf).ok,vM fun f hf=>⟨f.l,eJ hf, .inl rfl⟩⟩
def jp.restrict{k:Nat}{t:Tr}(h:jp k t)(c:aw):jp k (t.restrict c):=by
 obtain⟨K,h1,h2,h3⟩:=h.am;exact⟨WK h.gd c,cR (t.restrict_depth c) h.dp,K,h1,h2,h3.restrict c⟩
def jp.mono{j k:Nat}{t:Tr}(h:jp j t)(hk:j<=k):jp k t:=by
 obtain⟨K,h1,h2,h3⟩:=h.am;exact⟨h.gd,cR h.dp hk,K,by omega,h2,h3⟩
def jp.merge{j k:Nat}{op:Int}{t u:Tr}(h:jp j t)(hu:jp k u):jp (j+k) (t.mergeQ op u []):=by
 obtain⟨K,h1,h2,h3⟩:=h.am;obtain⟨M,k1,k2,k3⟩:=hu.am;refine⟨⟨Tr.mergeQ_all LB op hu.gd.lb t [] h.gd.lb,Tr.mergeQ_all aa.ok op hu.gd.ok t [] h.gd.ok⟩,cR (Tr.mergeQ_depth op u t []) (by have:=h.dp;have:=hu.dp;omega),K++M,by rw[aV];omega,fun l hl=>(bK.1 hl).elim (h2 l) (k2 l),?_⟩;exact(h3.mono fun l hl=>⟨l,bT _ hl, .inl J⟩).merge (k3.mono fun l hl=>⟨l,cJ _ hl, .inl J⟩) []
def Qx{rs:List (List ZP)}{fill:Int}(h: ∀r∈rs,d5 r)(hn:rs.length<=3):jp 18 (pf rs fill):=by
 obtain⟨h1,h2⟩:=uh h;exact((HN (acc:=mn rs fill) h2 J).restrict []).mono (by omega)
def wW(p q:ZP):Int:=if p.1<q.1 then-1 else if q.1<p.1 then 1 else if p.2<q.2 then-1 else if q.2<p.2 then 1 else 0
def uc(x:ZP):List ZP->List ZP
 |[]=>[x]
 |u::t=>if wW u x<0 then u::uc x t else if wW u x=0 then u::t else x::u::t
def vD(l:List ZP):List ZP:=l.foldl (fun out x=>uc x out) []
def SI{x:ZP}: ∀{l:List ZP},(uc x l).length<=l.length+1
 |[]=>aN _
 |u::t=>by
  rw[uc];have:=SI (x:=x) (l:=t);split
  ·simp;omega
  ·split<;>simp
def Uj(l:List ZP):(vD l).length<=l.length:=by
 have key: ∀(l o:List ZP),(l.foldl (fun out x=>uc x out) o).length<=l.length+o.length:=by
  intro l
  induction l with
  |nil=>intro o;simp
  |cons x t ih=>intro o;have:=ih (uc x o);have:=SI (x:=x) (l:=o);simp only[jZ,bX];omega
 have:=key l [];simpa[vD] using this
def wc(a b c d:Int):List ZP:=[(a,b),(c,b),(c,d),(a,d)]
def Cm{r:List ZP}{i:Nat}(h:i+1<r.length):gn r i=r.getD (i+1) (0,0):=by unfold gn;rw[eX h]
def A7{r:List ZP}{i:Nat}(h:i+1=r.length):gn r i=r.getD 0 (0,0):=by unfold gn;rw[h,tX]
def VI{a b c d:Int}(h1:a.natAbs<=50)(h2:b.natAbs<=50)(h3:c.natAbs<=50)(h4:d.natAbs<=50)(h5:a<c)(h6:b<d):d5 (wc a b c d):=by
 refine⟨by simp[wc],by simp[wc],fun p hp=>?_,fun i hi=>?_⟩
 ·simp only[wc,aW,kW,or_false] at hp
  rcases hp with rfl|rfl|rfl|rfl<;>exact⟨by dsimp only;omega,by dsimp only;omega⟩
 ·have:i=0\/i=1\/i=2\/i=3:=by simp[wc] at hi;omega
  rcases this with rfl|rfl|rfl|rfl<;>simp[wc,gn]<;>omega
def uD(p u v:ZP):List ZP:=[p,En p u,En p v]
def aEE{p u v:ZP}(h1:ZP.le 40 p)(h2:ZP.le 40 u)(h3:ZP.le 40 v)(h:vN u v≠0):d5 (uD p u v):=by
 obtain⟨p1,p2⟩:=p;obtain⟨u1,u2⟩:=u;obtain⟨v1,v2⟩:=v;unfold ZP.le at h1 h2 h3;dsimp only at h1 h2 h3;unfold vN at h;dsimp only at h;refine⟨by simp[uD],by simp[uD],fun p hp=>?_,fun i hi=>?_⟩
 ·simp only[uD,En,aW,kW,or_false] at hp
  rcases hp with rfl|rfl|rfl<;>exact⟨by dsimp only;omega,by dsimp only;omega⟩
 ·have:i=0\/i=1\/i=2:=by simp[uD] at hi;omega
  have hu: ¬(u1=0/\u2=0):=fun e=>h (by rw[e.1,e.2];simp);have hv: ¬(v1=0/\v2=0):=fun e=>h (by rw[e.1,e.2];simp);have huv: ¬(u1=v1/\u2=v2):=fun e=>h (by rw[e.1,e.2,Int.mul_comm];omega);rcases this with rfl|rfl|rfl<;>simp[uD,En,gn]<;>omega
def ol(es:List Int):Nat->Nat->List ZP->List ZP×Nat
 |0,a,out=>(out,a)
 |n+1,a,out=>ol es n (pF es a).2 (if out.getLast? =some (pF es a).1 then out else out++[(pF es a).1])
structure lG (r:List ZP):Prop where
 ne: ∀i,i+1<r.length->r.getD i (0,0)≠r.getD (i+1) (0,0)
 le: ∀p∈r,ZP.le 100 p
def lG.snoc{r:List ZP}{p:ZP}(h:lG r)(hp:ZP.le 100 p)(hl:r.getLast? ≠some p):lG (r++[p]):=by
 refine⟨fun i hi=>?_,fun q hq=>?_⟩
 ·rw[aV,iZ] at hi
  rw[aX,aX];by_cases h1:i+1<r.length
  ·rw[cN (by omega),cN h1]
   have:=h.ne i h1;rwa [aX,aX] at this
  ·have e:i+1=r.length:=by omega
   rw[cN (by omega),e,fM (aN _),Nat.sub_self];rw[lS,<-e,lQ] at hl;rw[aZ (by omega)] at hl⊢;intro c;exact hl (by simpa using c)
 ·rcases bK.1 hq with hq|hq
  ·exact h.le q hq
  ·rw[aU] at hq;subst hq;exact hp
def Gw{es:List Int}: ∀{n a:Nat} {out:List ZP},a<=es.length->lG out->lG (ol es n a out).1/\(ol es n a out).1.length<=out.length+n/\(ol es n a out).2<=es.length
 |0,a,out,ha,h=>⟨h,aN _,ha⟩
 |n+1,a,out,ha,h=>by
  obtain⟨h1,h2,h3⟩:=AB ha;rw[ol];by_cases hl:out.getLast? =some (pF es a).1
  ·rw[if_pos hl]
   obtain⟨k1,k2,k3⟩:=Gw (n:=n) h3 h;exact⟨k1,by omega,k3⟩
  ·rw[if_neg hl]
   obtain⟨k1,k2,k3⟩:=Gw (n:=n) h3 (h.snoc (p:=(pF es a).1) ⟨by omega,by omega⟩ hl);rw[aV,iZ] at k2;exact⟨k1,by omega,k3⟩
def kD:Nat->List ZP->List ZP
 |0,l=>l
 |n+1,l=>if 1<l.length/\l.getD 0 (0,0)=l.getD (l.length-1) (0,0) then kD n l.dropLast else l
def lG.drop{r:List ZP}(h:lG r):lG r.dropLast:=by
 refine⟨fun i hi=>?_,fun p hp=>h.le p ((sZ _).subset hp)⟩;rw[iK] at hi;have:=h.ne i (by omega);rw[aX,aX] at this⊢;rw[rS,rS,if_pos (by omega),if_pos (by omega)];exact this
def Pv: ∀{n:Nat} {l:List ZP},lG l->l.length<=n+1->lG (kD n l)/\(kD n l).length<=l.length/\(1<(kD n l).length->(kD n l).getD 0 (0,0)≠(kD n l).getD ((kD n l).length-1) (0,0))
 |0,l,h,hn=>⟨h,aN _,fun k=>absurd k (by unfold kD;omega)⟩
 |n+1,l,h,hn=>by
  rw[kD];split
  ·obtain⟨h1,h2,h3⟩:=Pv (n:=n) h.drop (by rw[iK];omega)
   rw[iK] at h2;exact⟨h1,by omega,h3⟩
  ·rename_i hc
   exact⟨h,aN _,fun k e=>hc ⟨k,e⟩⟩
def aCK{r:List ZP}(h:lG r)(h6:r.length<=6)(hc:1<r.length->r.getD 0 (0,0)≠r.getD (r.length-1) (0,0))(h3:3<=(vD r).length):d5 r:=by
 have:=Uj r;refine⟨by omega,h6,h.le,fun i hi=>?_⟩;by_cases h1:i+1<r.length
 ·rw[Cm h1];exact h.ne i h1
 ·have e:i+1=r.length:=by omega
  rw[A7 e];have:=hc (by omega);rw[show i=r.length-1 by omega];exact fun k=>this k.symm
def yt:List ZP:=[(0,0),(2,0),(0,2)]
def aDd:d5 yt:=⟨by decide,by decide,fun p hp=>by
  simp only[yt,aW,kW,or_false] at hp;rcases hp with rfl|rfl|rfl<;>exact⟨by decide,by decide⟩,fun i hi=>by
  have:i=0\/i=1\/i=2:=by simp[yt] at hi;omega
  rcases this with rfl|rfl|rfl<;>decide⟩
def rC(es:List Int)(a:Nat):List ZP×Nat:=
 ((if(vD (kD 6 (ol es (3+(ao es 4 a).1) (ao es 4 a).2 []).1)).length<3 then yt else kD 6 (ol es (3+(ao es 4 a).1) (ao es 4 a).2 []).1),(ol es (3+(ao es 4 a).1) (ao es 4 a).2 []).2)
def lG.nil:lG []:=⟨fun i hi=>by simp at hi,fun p hp=>by cases hp⟩
def LM{es:List Int}{a:Nat}(ha:a<=es.length):d5 (rC es a).1/\(rC es a).2<=es.length:=by
 have h1:=kI (es:=es) (n:=4) (a:=a) (by decide);obtain⟨k1,k2,k3⟩:=Gw (n:=3+(ao es 4 a).1) (gD (n:=4) ha) lG.nil;obtain⟨t1,t2,t3⟩:=Pv (n:=6) k1 (by simp at k2;omega);refine⟨?_,k3⟩;unfold rC;dsimp only;split
 ·exact aDd
 ·exact aCK t1 (by simp at k2;omega) t3 (by omega)
def DF(es:List Int)(n m k:Int)(a:Nat):List ZP×Nat:=
 let x:=ao es n a
 let y:=ao es n x.2
 let z:=ao es m y.2
 let w:=ao es m z.2
 (wc ((x.1:Int)-k) ((y.1:Int)-k) ((x.1:Int)-k+1+z.1) ((y.1:Int)-k+1+w.1),w.2)
def T9{es:List Int}{n m k:Int}{a:Nat}(ha:a<=es.length)(hn:1<=n)(hn2:n<=10)(hm:1<=m)(hm2:m<=10)(hk:0<=k)(hk2:k<=10):d5 (DF es n m k a).1/\(DF es n m k a).2<=es.length:=by
 have h1:=kI (es:=es) (a:=a) hn;have h2:=kI (es:=es) (a:=(ao es n a).2) hn;have h3:=kI (es:=es) (a:=(ao es n (ao es n a).2).2) hm;have h4:=kI (es:=es) (a:=(ao es m (ao es n (ao es n a).2).2).2) hm;exact⟨VI (by omega) (by omega) (by omega) (by omega) (by omega) (by omega),gD (gD (gD (gD ha)))⟩
def fB(es:List Int)(a:Nat):List ZP×Nat:=
 let k:=ao es 4 a
 if(k.1:Int)=0 then DF es 5 4 4 k.2
 else if(k.1:Int)=1 then
  let p:=pF es k.2
  let u:=vF es p.2
  let v:=vF es u.2
  if vN u.1 v.1≠0 then(uD p.1 u.1 v.1,v.2) else rC es v.2
 else rC es k.2
def AE{es:List Int}{a:Nat}(ha:a<=es.length):d5 (fB es a).1/\(fB es a).2<=es.length:=by
 have h0:=gD (n:=4) ha;unfold fB;dsimp only;split
 ·exact T9 h0 (by decide) (by decide) (by decide) (by decide) (by decide) (by decide)
 ·split
  ·obtain⟨p1,p2,p3⟩:=AB h0
   obtain⟨u1,u2,u3,u4⟩:=DI p3;obtain⟨v1,v2,v3,v4⟩:=DI u4;split
   ·rename_i hc
    exact⟨aEE ⟨by omega,by omega⟩ ⟨by omega,by omega⟩ ⟨by omega,by omega⟩ hc,v4⟩
   ·exact LM v4
  ·exact LM h0
def aJr:List ZP:=[(0,0),(1,0),(0,1)]
def Qj(es:List Int)(a:Nat):List ZP×Nat:=
 let k:=ao es 2 a
 if(k.1:Int)=0 then DF es 3 2 1 k.2
 else
  let x:=ao es 3 k.2
  let y:=ao es 3 x.2
  let u1:=ao es 2 y.2
  let u2:=ao es 3 u1.2
  let v1:=ao es 3 u2.2
  let v2:=ao es 2 v1.2
  (if 0<vN (1+(u1.1:Int),(u2.1:Int)-1) ((v1.1:Int)-1,1+(v2.1:Int)) then uD ((x.1:Int)-1,(y.1:Int)-1) (1+(u1.1:Int),(u2.1:Int)-1) ((v1.1:Int)-1,1+(v2.1:Int)) else aJr,v2.2)
def kj(es:List Int)(a:Nat):Tr×Nat:=
 let r:=fB es a
 let k:=ao es 3 r.2
 if(k.1:Int)=0 then
  let s:=fB es k.2
  let f:=ao es 2 s.2
  (pf [r.1,s.1] (1+(f.1:Int)),f.2)
 else
  let f:=ao es 2 k.2
  (pf [r.1] (1+(f.1:Int)),f.2)
def MH{es:List Int}{a:Nat}(ha:a<=es.length):jp 18 (kj es a).1/\(kj es a).2<=es.length:=by
 obtain⟨r1,r2⟩:=AE ha;have h3:=gD (n:=3) r2;unfold kj;dsimp only;split
 ·obtain⟨s1,s2⟩:=AE h3
  exact⟨Qx (fun r hr=>by simp only[aW,kW,or_false] at hr;rcases hr with rfl|rfl;exact r1;exact s1) (by simp),gD s2⟩
 ·exact⟨Qx (fun r hr=>by simp only[aW,kW,or_false] at hr;subst hr;exact r1) (by simp),gD h3⟩
def HV(l:aa):Tr:=(Tr.node l (.leaf true) (.leaf false)).restrict []
def sP(es:List Int):Nat->Nat->Tr×Nat
 |0,a=>
  let k:=ao es 6 a
  if(k.1:Int)=1 then(HV (lF es k.2).1,(lF es k.2).2)
  else if(k.1:Int)=2 then((ng es 3 k.2).1.restrict [],(ng es 3 k.2).2)
  else if(k.1:Int)=3 then((kj es k.2).1.compl,(kj es k.2).2)
  else kj es k.2
 |d+1,a=>
  let k:=ao es 6 a
  if(k.1:Int)=0 then
   let x:=sP es d k.2
   let o:=ao es 4 x.2
   let y:=sP es d o.2
   (x.1.mergeQ (1+(o.1:Int)) y.1 [],y.2)
  else if(k.1:Int)=1 then(HV (lF es k.2).1,(lF es k.2).2)
  else if(k.1:Int)=2 then((ng es 3 k.2).1.restrict [],(ng es 3 k.2).2)
  else if(k.1:Int)=3 then((kj es k.2).1.compl,(kj es k.2).2)
  else kj es k.2
def aJT(es:List Int)(a:Nat):Tr×Nat:=
 let k:=ao es 4 a
 if(k.1:Int)=0 then(HV (lF es k.2).1,(lF es k.2).2)
 else if(k.1:Int)=1 then((ng es 2 k.2).1.restrict [],(ng es 2 k.2).2)
 else(pf [(Qj es k.2).1] 2,(Qj es k.2).2)
def fy(a b p:ab):Rat:=(b.x-a.x)*(p.y-a.y)-(b.y-a.y)*(p.x-a.x)
def lO(v w p:ab):Int:=(if v.y<=p.y/\ ¬w.y<=p.y/\0<fy v w p then 1 else 0)-(if¬v.y<=p.y/\w.y<=p.y/\fy v w p<0 then 1 else 0)
def vx(v w q p:ab):Prop:= ∀s t:Rat,0<=s->s<=1->0<=t->t<=1->bj v w s≠bj q p t
def Cx{a b:Rat}(h0:0<=a)(h1:a<=b)(hb:0<b):0<=a/b/\a/b<=1/\a/b*b=a:=by
 have e:a/b*b=a:=by grind
 generalize a/b=q at*;refine⟨?_,?_,e⟩
 ·exact(kw hb).1 (by rw[e];exact h0)
 ·have:=(kw (s:=1-q) hb).1 (by grind)
  grind
def aFj{q p x:ab}(hy:q.y<p.y)(h:fy q p x=0)(h1:q.y<=x.y)(h2:x.y<=p.y): ∃t,0<=t/\t<=1/\x=bj q p t:=by
 obtain⟨a1,a2,a3⟩:=Cx (a:=x.y-q.y) (b:=p.y-q.y) (by grind) (by grind) (by grind);refine⟨_,a1,a2,?_⟩;generalize (x.y-q.y)/(p.y-q.y)=t at*;obtain⟨X,Y⟩:=x;unfold fy at h;unfold bj;simp only at*;have e:X=q.x+t*(p.x-q.x):=by
  have h3:(p.y-q.y)*(X-q.x)=(p.y-q.y)*(t*(p.x-q.x)):=by grind
  have h4:p.y-q.y≠0:=by grind
  have:=gT.1 (show(p.y-q.y)*(X-q.x-t*(p.x-q.x))=0 by grind);rcases this with h5|h5
  ·exact absurd h5 h4
  ·grind
 rw[e];congr 1;grind
def aE5(q p v w:ab)(e:Rat):fy q p (bj v w e)=fy q p v+e*(fy q p w-fy q p v):=by
 unfold fy bj;grind
def N8(v w:ab)(a b e:Rat):bj (bj v w a) (bj v w b) e=bj v w (a+e*(b-a)):=by
 unfold bj;simp only[ab.mk.injEq];constructor<;>grind
def CS(v w:ab)(e:Rat):(bj v w e).y=v.y+e*(w.y-v.y):=rfl
def KV{a b e lo hi:Rat}(h0:0<=e)(h1:e<=1)(ha:lo<=a)(hb:lo<=b)(ha2:a<=hi)(hb2:b<=hi):lo<=a+e*(b-a)/\a+e*(b-a)<=hi:=by
 have k1:=cD h0 (show 0<=b-lo by grind);have k2:=cD (show 0<=1-e by grind) (show 0<=a-lo by grind);have k3:=cD h0 (show 0<=hi-b by grind);have k4:=cD (show 0<=1-e by grind) (show 0<=hi-a by grind);constructor<;>grind
def Uo{v w q p:ab}(hn:vx v w q p)(hy:q.y<p.y){a b:Rat}(a0:0<=a)(a1:a<=1)(b0:0<=b)(b1:b<=1)(ha:q.y<=(bj v w a).y/\(bj v w a).y<=p.y)(hb:q.y<=(bj v w b).y/\(bj v w b).y<=p.y)(h:fy q p (bj v w a)<0):fy q p (bj v w b)<0:=by
 by_cases k:fy q p (bj v w b)<0
 ·exact k
 ·exfalso
  obtain⟨e0,e1,e2⟩:=Cx (a:= -(fy q p (bj v w a))) (b:=fy q p (bj v w b)-fy q p (bj v w a)) (by grind) (by grind) (by grind);generalize-(fy q p (bj v w a))/(fy q p (bj v w b)-fy q p (bj v w a))=e at*;have hz:fy q p (bj v w (a+e*(b-a)))=0:=by rw[<-N8,aE5];grind
  have hh:=KV e0 e1 ha.1 hb.1 ha.2 hb.2;rw[<-CS,N8] at hh;obtain⟨t,t0,t1,ht⟩:=aFj hy hz hh.1 hh.2;have h01:=KV e0 e1 a0 b0 a1 b1;exact hn _ t h01.1 h01.2 t0 t1 ht
def UA{v w q p:ab}(hn:vx v w q p)(hy:q.y<p.y): ∃r:Bool,∀s,0<=s->s<=1->q.y<=(bj v w s).y->(bj v w s).y<=p.y->(fy q p (bj v w s)<0↔r=true):=by
 by_cases h: ∃s,0<=s/\s<=1/\(q.y<=(bj v w s).y/\(bj v w s).y<=p.y)/\fy q p (bj v w s)<0
 ·obtain⟨s,s0,s1,s2,s3⟩:=h
  exact⟨true,fun t t0 t1 h1 h2=>⟨fun _=>J,fun _=>Uo hn hy s0 s1 t0 t1 s2 ⟨h1,h2⟩ s3⟩⟩
 ·exact⟨false,fun t t0 t1 h1 h2=>⟨fun k=>absurd ⟨t,t0,t1,⟨h1,h2⟩,k⟩ h,fun k=>by cases k⟩⟩
def MZ(v w:ab):bj v w 0=v:=by unfold bj;cases v;simp only[ab.mk.injEq];constructor<;>grind
def OR(v w:ab):bj v w 1=w:=by unfold bj;cases w;simp only[ab.mk.injEq];constructor<;>grind
def KW{v w:ab}{y:Rat}(h:(v.y<=y/\ ¬w.y<=y)\/(¬v.y<=y/\w.y<=y)): ∃s,0<=s/\s<=1/\(bj v w s).y=y:=by
 rcases h with⟨h1,h2⟩|⟨h1,h2⟩
 ·obtain⟨a1,a2,a3⟩:=Cx (a:=y-v.y) (b:=w.y-v.y) (by grind) (by grind) (by grind)
  refine⟨_,a1,a2,?_⟩;rw[CS];grind
 ·obtain⟨a1,a2,a3⟩:=Cx (a:=v.y-y) (b:=v.y-w.y) (by grind) (by grind) (by grind)
  refine⟨_,a1,a2,?_⟩;rw[CS];grind
def Tk{v w p:ab}{s:Rat}(h:(bj v w s).y=p.y):fy v w p=(w.y-v.y)*((bj v w s).x-p.x):=by
 unfold fy;unfold bj at*;simp only at*;rw[<-h];grind
def y6{a b:Rat}(ha:0<a):0<a*b↔0<b:=by rw[Rat.mul_comm];exact gy ha
def ID{a b:Rat}(ha:a<0):a*b<0↔0<b:=by
 have:=y6 (a:= -a) (b:=b) (by grind);constructor
 ·intro h;exact this.1 (by grind)
 ·intro h;have:=this.2 h;grind
def bI(b:Prop)[Decidable b]:Int:=if b then 1 else 0
def AR{v w p:ab}{r:Prop}[Decidable r](h: ∀s,0<=s->s<=1->(bj v w s).y=p.y->(p.x<(bj v w s).x↔r)):lO v w p=if r then bI (v.y<=p.y)-bI (w.y<=p.y) else 0:=by
 unfold lO bI;by_cases h1:v.y<=p.y<;>by_cases h2:w.y<=p.y
 ·simp[h1,h2]
 ·obtain⟨s,s0,s1,s2⟩:=KW (.inl ⟨h1,h2⟩)
  have e:=Tk s2;have k:=h s s0 s1 s2;have m:=y6 (a:=w.y-v.y) (b:=(bj v w s).x-p.x) (by grind);rw[<-e] at m;have m2:0<fy v w p↔r:=by rw[m,<-k];grind
  simp only[h1,h2,m2];by_cases q:r<;>simp[q]
 ·obtain⟨s,s0,s1,s2⟩:=KW (.inr ⟨h1,h2⟩)
  have e:=Tk s2;have k:=h s s0 s1 s2;have m:=ID (a:=w.y-v.y) (b:=(bj v w s).x-p.x) (by grind);rw[<-e] at m;have m2:fy v w p<0↔r:=by rw[m,<-k];grind
  simp only[h1,h2,m2];by_cases q:r<;>simp[q]
 ·simp[h1,h2]
def vn(q p u:ab):Int:=if q.y<u.y/\u.y<=p.y/\fy q p u<0 then 1 else 0
def Pz{v w q p:ab}(hn:vx v w q p)(hy:q.y<p.y):lO v w p-lO v w q=vn q p v-vn q p w:=by
 obtain⟨r,hr⟩:=UA hn hy;have ep:=AR (v:=v) (w:=w) (p:=p) (r:=r=true) fun s s0 s1 s2=>by
  rw[<-hr s s0 s1 (by grind) (by grind)];have m:=y6 (a:=p.y-q.y) (b:=(bj v w s).x-p.x) (by grind);have:fy q p (bj v w s)= -((p.y-q.y)*((bj v w s).x-p.x)):=by unfold fy;rw[s2];grind
  rw[this];generalize (p.y-q.y)*((bj v w s).x-p.x)=z at*;constructor
  ·intro k;have:=m.2 (by grind);grind
  ·intro k;have:=m.1 (by grind);grind
 have eq:=AR (v:=v) (w:=w) (p:=q) (r:=r=true) fun s s0 s1 s2=>by
  rw[<-hr s s0 s1 (by grind) (by grind)];have m:=y6 (a:=p.y-q.y) (b:=(bj v w s).x-q.x) (by grind);have:fy q p (bj v w s)= -((p.y-q.y)*((bj v w s).x-q.x)):=by unfold fy;rw[s2];grind
  rw[this];generalize (p.y-q.y)*((bj v w s).x-q.x)=z at*;constructor
  ·intro k;have:=m.2 (by grind);grind
  ·intro k;have:=m.1 (by grind);grind
 have fv:vn q p v=if r=true then bI (v.y<=p.y)-bI (v.y<=q.y) else 0:=by
  have h:=hr 0 (by decide) (by decide);rw[MZ] at h;unfold vn bI;by_cases h1:v.y<=p.y<;>by_cases h2:v.y<=q.y
  ·have: ¬q.y<v.y:=by grind
   simp[h1,h2,this]
  ·have h3:q.y<v.y:=by grind
   have:=h (by grind) h1;simp only[h1,h2,h3,this];by_cases q:r=true<;>simp[q]
  ·exfalso;grind
  ·simp[h1,h2]
 have fw:vn q p w=if r=true then bI (w.y<=p.y)-bI (w.y<=q.y) else 0:=by
  have h:=hr 1 (by decide) (by decide);rw[OR] at h;unfold vn bI;by_cases h1:w.y<=p.y<;>by_cases h2:w.y<=q.y
  ·have: ¬q.y<w.y:=by grind
   simp[h1,h2,this]
  ·have h3:q.y<w.y:=by grind
   have:=h (by grind) h1;simp only[h1,h2,h3,this];by_cases q:r=true<;>simp[q]
  ·exfalso;grind
  ·simp[h1,h2]
 rw[ep,eq,fv,fw];by_cases q:r=true
 ·simp only[if_pos q];omega
 ·simp only[if_neg q]
def asn{v w q p:ab}(hn:vx v w q p)(hy:q.y=p.y):lO v w p=lO v w q:=by
 have key: ∀s,0<=s->s<=1->(bj v w s).y=p.y->(p.x<(bj v w s).x↔q.x<(bj v w s).x):=fun s s0 s1 s2=>by
  have no: ∀a b:Rat,a<=(bj v w s).x->(bj v w s).x<b->((a=q.x/\b=p.x)\/(a=p.x/\b=q.x))->False:=fun a b h1 h2 h3=>by
   obtain⟨a1,a2,a3⟩:=Cx (a:=(bj v w s).x-a) (b:=b-a) (by grind) (by grind) (by grind);generalize ((bj v w s).x-a)/(b-a)=t at*;rcases h3 with⟨e1,e2⟩|⟨e1,e2⟩
   ·refine hn s t s0 s1 a1 a2 ?_
    generalize hx:bj v w s=x at*;obtain⟨X,Y⟩:=x;unfold bj;simp only[ab.mk.injEq] at*;subst e1 e2;constructor<;>grind
   ·refine hn s (1-t) s0 s1 (by grind) (by grind) ?_
    generalize hx:bj v w s=x at*;obtain⟨X,Y⟩:=x;unfold bj;simp only[ab.mk.injEq] at*;subst e1 e2;constructor<;>grind
  constructor
  ·intro h
   by_cases k:q.x<(bj v w s).x
   ·exact k
   ·by_cases k2:(bj v w s).x=q.x
    ·exfalso
     refine hn s 0 s0 s1 (by decide) (by decide) ?_;rw[MZ];generalize bj v w s=x at*;obtain⟨X,Y⟩:=x;obtain⟨A,B⟩:=q;simp only[ab.mk.injEq] at*;exact⟨k2,by grind⟩
    ·exact(no p.x q.x (by grind) (by grind) (.inr ⟨J,J⟩)).elim
  ·intro h
   by_cases k:p.x<(bj v w s).x
   ·exact k
   ·by_cases k2:(bj v w s).x=p.x
    ·exfalso
     refine hn s 1 s0 s1 (by decide) (by decide) ?_;rw[OR];generalize bj v w s=x at*;obtain⟨X,Y⟩:=x;obtain⟨A,B⟩:=p;simp only[ab.mk.injEq] at*;exact⟨k2,s2⟩
    ·exact(no q.x p.x (by grind) (by grind) (.inl ⟨J,J⟩)).elim
 by_cases hc:(v.y<=p.y/\ ¬w.y<=p.y)\/(¬v.y<=p.y/\w.y<=p.y)
 ·obtain⟨s,s0,s1,s2⟩:=KW hc
  have uq: ∀t,(bj v w t).y=p.y->t=s:=fun t ht=>by
   rw[CS] at ht s2;have h4:w.y-v.y≠0:=by grind
   have:=gT.1 (show(w.y-v.y)*(t-s)=0 by grind);rcases this with h5|h5
   ·exact absurd h5 h4
   ·grind
  rw[AR (p:=p) (r:=p.x<(bj v w s).x) fun t _ _ ht=>by rw[uq t ht],AR (p:=q) (r:=p.x<(bj v w s).x) fun t _ _ ht=>by rw[uq t (by rw[ht,hy])];exact(key s s0 s1 s2).symm,hy]
 ·unfold lO
  rw[hy];by_cases h1:v.y<=p.y<;>by_cases h2:w.y<=p.y<;>simp[h1,h2] at hc⊢
def aBQ(q p:ab)(t:Rat):bj p q t=bj q p (1-t):=by unfold bj;simp only[ab.mk.injEq];constructor<;>grind
def vx.symm{v w q p:ab}(h:vx v w q p):vx v w p q:=fun s t s0 s1 t0 t1 e=>h s (1-t) s0 s1 (by grind) (by grind) (by rw[e,aBQ])
def ig(r:List ZP)(p:ab):Nat->Int
 |0=>0
 |k+1=>ig r p k+lO (r.getD k (0,0)).q (gn r k).q p
def zi(r:List ZP)(q p:ab):Prop:= ∀k,k<r.length->vx (r.getD k (0,0)).q (gn r k).q q p
def Mq{r:List ZP}{q p:ab}(h:zi r q p)(hy:q.y<p.y): ∀k,k<r.length->ig r p k-ig r q k=vn q p (r.getD 0 (0,0)).q-vn q p (r.getD k (0,0)).q
 |0,_=>by simp[ig]
 |k+1,hk=>by
  have ih:=Mq h hy k (by omega);have e:=Pz (h k (by omega)) hy;rw[Cm (by omega)] at e;rw[ig,ig,Cm (by omega)];omega
def RU{r:List ZP}{q p:ab}(h:zi r q p)(hy:q.y<p.y):ig r p r.length=ig r q r.length:=by
 cases hr:r.length with
 |zero=>rfl
 |succ n=>
  have ih:=Mq h hy n (by omega);have e:=Pz (h n (by omega)) hy;rw[A7 (by omega)] at e;rw[ig,ig,A7 (by omega)];omega
def Mu{r:List ZP}{q p:ab}(h:zi r q p)(hy:q.y=p.y): ∀k,k<=r.length->ig r p k=ig r q k
 |0,_=>rfl
 |k+1,hk=>by rw[ig,ig,Mu h hy k (by omega),asn (h k (by omega)) hy]
def WZ{r:List ZP}{q p:ab}(h:zi r q p):ig r p r.length=ig r q r.length:=by
 by_cases h1:q.y<p.y
 ·exact RU h h1
 ·by_cases h2:p.y<q.y
  ·exact(RU (fun k hk=>(h k hk).symm) h2).symm
  ·exact Mu h (by grind) _ (aN _)
def VW(a b c:ab):zc a b c=(fy a b c).num.sign:=by
 unfold zc fy ab.cross bF;congr 2;grind
def Cp(a b:Rat):bg a b<=0↔a<=b:=by
 have:=HM a b;constructor
 ·intro h
  by_cases q:b<a
  ·have:=this.2 q;omega
  ·grind
 ·intro h
  by_cases q:0<bg a b
  ·have:=this.1 q;grind
  ·omega
def W4(v w p:ab):qr v w p=lO v w p:=by
 unfold qr lO;simp only[VW,kH,sC,Cp]
def F0(r:List ZP)(p:ab): ∀k,oz r p k=ig r p k
 |0=>rfl
 |k+1=>by rw[oz,ig,F0 r p k,W4]
def W7{r:List ZP}{q p:ab}(h:zi r q p):lA r p=lA r q:=by
 unfold lA;rw[F0,F0,WZ h]
def aDl{v w p:ab}(h:v.y<=p.y)(k:w.y<=p.y):lO v w p=0:=by unfold lO;simp[h,k]
def aEz{v w p:ab}(h:p.y<v.y)(k:p.y<w.y):lO v w p=0:=by
 have h': ¬v.y<=p.y:=by grind
 have k': ¬w.y<=p.y:=by grind
 unfold lO;simp[h',k']
def Hd{v w p:ab}(r:Bool)(h1:p.x<v.x↔r=true)(h2:p.x<w.x↔r=true)(h3:v.x<p.x↔r=false)(h4:w.x<p.x↔r=false):lO v w p=if r=true then bI (v.y<=p.y)-bI (w.y<=p.y) else 0:=by
 refine AR (r:=r=true) fun s s0 s1 _=>?_;have e:(bj v w s).x-p.x=(1-s)*(v.x-p.x)+s*(w.x-p.x):=by unfold bj;grind
 cases r with
 |true=>
  have a:=h1.2 J;have b:=h2.2 J;refine⟨fun _=>J,fun _=>?_⟩;by_cases q:s=0
  ·subst q;grind
  ·have k1:=bO (show 0<s by grind) (show 0<w.x-p.x by grind)
   have k2:=cD (show 0<=1-s by grind) (show 0<=v.x-p.x by grind);grind
 |false=>
  have a:=h3.2 J;have b:=h4.2 J;refine⟨fun k=>?_,fun k=>(by cases k)⟩;exfalso;have k1:=cD (show 0<=s by grind) (show 0<=p.x-w.x by grind);have k2:=cD (show 0<=1-s by grind) (show 0<=p.x-v.x by grind);grind
def vw(R:Rat)(p:ab):Prop:=p.x< -R\/R<p.x\/p.y< -R\/R<p.y
def ay0{r:List ZP}{P:ZP->Prop}(h: ∀v∈r,P v){k:Nat}(hk:k<r.length):P (r.getD k (0,0)):=h _ (AV hk)
def We{r:List ZP}{R:Rat}{p:ab}(hr: ∀v∈r, -R<=v.q.x/\v.q.x<=R/\ -R<=v.q.y/\v.q.y<=R)(hp:vw R p):ig r p r.length=0:=by
 have hv: ∀k,k<r.length->_:=fun k hk=>ay0 hr hk;have hw: ∀k,k<r.length->_:=fun k hk=>hr _ (Dz hk);have zero:(∀k,k<r.length->lO (r.getD k (0,0)).q (gn r k).q p=0)-> ∀k,k<=r.length->ig r p k=0:=fun h=>by
  intro k
  induction k with
  |zero=>intro _;rfl
  |succ k ih=>intro hk;rw[ig,ih (by omega),h k (by omega)];rfl
 rcases hp with h|h|h|h
 ·have tele: ∀k,k<r.length->ig r p k=bI ((r.getD 0 (0,0)).q.y<=p.y)-bI ((r.getD k (0,0)).q.y<=p.y):=by
   intro k
   induction k with
   |zero=>intro _;rw[ig];omega
   |succ k ih=>
    intro hk;have e:=Hd (v:=(r.getD k (0,0)).q) (w:=(gn r k).q) (p:=p) true (by have:=hv k (by omega);constructor<;>grind) (by have:=hw k (by omega);constructor<;>grind) (by have:=hv k (by omega);constructor<;>grind) (by have:=hw k (by omega);constructor<;>grind);rw[if_pos J,Cm (by omega)] at e;rw[ig,ih (by omega),Cm (by omega),e];omega
  cases hr':r.length with
  |zero=>rfl
  |succ n=>
   have e:=Hd (v:=(r.getD n (0,0)).q) (w:=(gn r n).q) (p:=p) true (by have:=hv n (by omega);constructor<;>grind) (by have:=hw n (by omega);constructor<;>grind) (by have:=hv n (by omega);constructor<;>grind) (by have:=hw n (by omega);constructor<;>grind);rw[if_pos J,A7 (by omega)] at e;rw[ig,tele n (by omega),A7 (by omega),e];omega
 ·refine zero (fun k hk=>?_) _ (aN _)
  have e:=Hd (v:=(r.getD k (0,0)).q) (w:=(gn r k).q) (p:=p) false (by have:=hv k (by omega);constructor<;>grind) (by have:=hw k (by omega);constructor<;>grind) (by have:=hv k (by omega);constructor<;>grind) (by have:=hw k (by omega);constructor<;>grind);rw[e,if_neg (by decide)]
 ·exact zero (fun k hk=>aEz (by have:=hv k hk;grind) (by have:=hw k hk;grind)) _ (aN _)
 ·exact zero (fun k hk=>aDl (by have:=hv k hk;grind) (by have:=hw k hk;grind)) _ (aN _)
def HL(op:Int)(a b:Tr):Bool:=decide ((a.mergeQ op b []).isLeaf=true/\(a.mergeQ op b []).code=false)
def aGw(a b:Tr):Int:=if HL 4 a b then 0 else if HL 3 a b then-1 else if HL 3 b a then 1 else 2
def vy:Tr->ab->Bool
 | .leaf b,_=>b
 | .node l x y,p=>if(l.value p).num.sign=1 then vy x p else if(l.value p).num.sign= -1 then vy y p else false
def A1: ∀{t:Tr} {c:aw} {b:Bool} {e:aw},t.all aa.ok->bP c->(b,e)∈t.parts c->bP e/\ ∀p,bm e p->bm c p/\t.val p=b
 | .leaf v,c,b,e,_,hc,h=>by
  rw[Tr.parts,aU] at h
  cases h
  exact⟨hc,fun p hp=>⟨hp,J⟩⟩
 | .node l x y,c,b,e,⟨hl,hx,hy⟩,hc,h=>by
  rw[Tr.parts] at h;rcases bK.1 h with h|h
  ·split at h
   ·rename_i hb
    obtain⟨k1,k2⟩:=jy hc hl hb;obtain⟨m1,m2⟩:=A1 hx k1 h;refine⟨m1,fun p hp=>?_⟩;obtain⟨n1,n2⟩:=m2 p hp;obtain⟨o1,o2⟩:=(k2 p).1 n1;exact⟨o1,by rw[Tr.val_pos o2,n2]⟩
   ·cases h
  ·split at h
   ·rename_i hb
    obtain⟨k1,k2⟩:=jy hc hl.rev hb;obtain⟨m1,m2⟩:=A1 hy k1 h;refine⟨m1,fun p hp=>?_⟩;obtain⟨n1,n2⟩:=m2 p hp;obtain⟨o1,o2⟩:=(k2 p).1 n1;rw[fh] at o2;exact⟨o1,by rw[Tr.val_neg (by grind),n2]⟩
   ·cases h
def Gd: ∀{t:Tr} {c:aw} {p:ab},t.all aa.ok->bP c->bm c p->fi t.lns p-> ∃b e,(b,e)∈t.parts c/\bm e p
 | .leaf v,c,p,_,_,hp,_=>⟨v,c,aU.2 J,hp⟩
 | .node l x y,c,p,⟨hl,hx,hy⟩,hc,hp,ho=>by
  have h0:=ho.l;rw[Tr.parts];by_cases h:0<l.value p
  ·have hb:=(sr hc hl).2 ⟨p,hp,h⟩
   obtain⟨k1,k2⟩:=jy hc hl hb;obtain⟨b,e,m1,m2⟩:=Gd hx k1 ((k2 p).2 ⟨hp,h⟩) ho.x;exact⟨b,e,bT _ (by rw[if_pos hb];exact m1),m2⟩
  ·have h':0<l.rev.value p:=by rw[fh];grind
   have hb:=(sr hc hl.rev).2 ⟨p,hp,h'⟩;obtain⟨k1,k2⟩:=jy hc hl.rev hb;obtain⟨b,e,m1,m2⟩:=Gd hy k1 ((k2 p).2 ⟨hp,h'⟩) ho.y;exact⟨b,e,cJ _ (by rw[if_pos hb];exact m1),m2⟩
def aO(t:Tr):List aw:=((t.parts []).filter (·.1)).map (·.2)
def xh{t:Tr}{e:aw}:e∈aO t↔(true,e)∈t.parts []:=by
 unfold aO;simp
def Qb(l:aa)(p:ab):aw->Rat->Rat
 |[],f=>f
 |s::c,f=>Qb l p c (if Int.sign (s.l.nor.dot l.nor).num<0 then(if-(s.l.value p/s.l.nor.dot l.nor)<f then-(s.l.value p/s.l.nor.dot l.nor) else f) else f)
def aIl:aw->ab
 |[]=>⟨0,0⟩
 |s::c=>bF (s.l.at s.v.sample) s.l.nor (Qb s.l (s.l.at s.v.sample) c 1*mkRat 1 2)
def Q2{v k:Rat}(hk:k<0)(hv:0<v):0< -(v/k):=by
 have e: -(v/k)* -k=v:=by grind
 exact(gy (k:= -k) (by grind)).1 (by rw[e];exact hv)
def gq:Tr->ab->ab->Bool×Bool
 | .leaf b,_,_=>(b,true)
 | .node l x y,p,v=>match (if(l.value p).num.sign=0 then(l.dir.cross v).num.sign else(l.value p).num.sign) with
  |1=>gq x p v
  | -1=>gq y p v
  |_=>(false,false)
def tE(l:aa)(v:ab):l.dir.cross v=l.nor.dot v:=by
 unfold aa.dir aa.nor ab.cross ab.dot;grind
def Gn(L:List aa)(p v:ab):Prop:= ∀l∈L,l.value p=0->l.nor.dot v≠0
def aFa{l:aa}{p v:ab}(h:l.value p=0->l.nor.dot v≠0): ∃e:Rat,0<e/\ ∀d,0<d->d<=e->(0<l.value (bF p v d)↔0<l.value p\/(l.value p=0/\0<l.nor.dot v))/\(l.value (bF p v d)<0↔l.value p<0\/(l.value p=0/\l.nor.dot v<0)):=by
 generalize hk:l.nor.dot v=k at*;by_cases h0:l.value p=0
 ·have hk0:=h h0
  refine⟨1,by decide,fun d h1 _=>?_⟩;rw[gv,hk,h0];rcases fD k with e|e|e
  ·exact absurd e hk0
  ·have:=bO h1 e;grind
  ·have:=bO (a:=d) (b:= -k) h1 (by grind);grind
 ·have key: ∀w:Rat,0<w-> ∃e:Rat,0<e/\ ∀d,0<d->d<=e-> ∀j:Rat,(j=k\/j= -k)->0<w+d*j:=fun w hw=>by
   have hA: ∃A:Rat,0<A/\k<=A/\ -k<=A:=by
    rcases fD k with e|e|e
    ·exact⟨1,by decide,by grind,by grind⟩
    ·exact⟨k,e,by grind,by grind⟩
    ·exact⟨-k,by grind,by grind,by grind⟩
   obtain⟨A,a1,a2,a3⟩:=hA;refine⟨w/(2*A),?_,fun d d1 d2 j hj=>?_⟩
   ·have e1:w/(2*A)*(2*A)=w:=by grind
    exact(gy (k:=2*A) (by grind)).1 (by rw[e1];exact hw)
   ·have e1:w/(2*A)*(2*A)=w:=by grind
    generalize w/(2*A)=f at*;have h1:=cD (a:=f-d) (b:=A) (by grind) (by grind);have h2:=cD (a:=d) (b:=A+j) (by grind) (by rcases hj with rfl|rfl<;>grind);grind
  rcases fD (l.value p) with e|e|e
  ·exact absurd e h0
  ·obtain⟨f,f1,f2⟩:=key _ e
   refine⟨f,f1,fun d d1 d2=>?_⟩;have:=f2 d d1 d2 k (.inl J);rw[gv,hk];grind
  ·obtain⟨f,f1,f2⟩:=key (-l.value p) (by grind)
   refine⟨f,f1,fun d d1 d2=>?_⟩;have:=f2 d d1 d2 (-k) (.inr J);rw[gv,hk];grind
def HZ: ∀{t:Tr} {p v:ab},Gn t.lns p v-> ∃e:Rat,0<e/\ ∀d,0<d->d<=e->fi t.lns (bF p v d)/\gq t p v=(t.val (bF p v d),true)
 | .leaf b,p,v,_=>⟨1,by decide,fun d _ _=>⟨fun l hl=>(by cases hl),J⟩⟩
 | .node l x y,p,v,h=>by
  obtain⟨e1,a1,b1⟩:=aFa (h l aQ);obtain⟨e2,a2,b2⟩:=HZ (t:=x) (p:=p) (v:=v) (fun m hm=>h m (aJ _ (bT _ hm)));obtain⟨e3,a3,b3⟩:=HZ (t:=y) (p:=p) (v:=v) (fun m hm=>h m (aJ _ (cJ _ hm)));have hgn:=h l aQ;have hm: ∃e:Rat,0<e/\e<=e1/\e<=e2/\e<=e3:=by
   by_cases h1:e1<=e2
   ·by_cases h2:e1<=e3
    ·exact⟨e1,a1,by grind,h1,h2⟩
    ·exact⟨e3,a3,by grind,by grind,by grind⟩
   ·by_cases h2:e2<=e3
    ·exact⟨e2,a2,by grind,by grind,h2⟩
    ·exact⟨e3,a3,by grind,by grind,by grind⟩
  obtain⟨e,h0,h1,h2,h3⟩:=hm;refine⟨e,h0,fun d d1 d2=>?_⟩;obtain⟨c1,c2⟩:=b1 d d1 (by grind);obtain⟨o2,w2⟩:=b2 d d1 (by grind);obtain⟨o3,w3⟩:=b3 d d1 (by grind);have hs:(if(l.value p).num.sign=0 then(l.dir.cross v).num.sign else(l.value p).num.sign)=if 0<l.value (bF p v d) then 1 else-1:=by
   rw[tE];by_cases hz:l.value p=0
   ·rw[if_pos ((ll _).2 hz)]
    split
    ·rename_i hp
     exact(oo _).2 (by rcases c1.1 hp with k|k;exact absurd k (by grind);exact k.2)
    ·rename_i hp
     have:l.nor.dot v<0:=by have:=hgn hz;have: ¬0<l.nor.dot v:=fun e=>hp (c1.2 (.inr ⟨hz,e⟩));grind
     exact Int.sign_eq_neg_one_iff_neg.2 (by have:=(sC _).2 this;rcases lU (l.nor.dot v).num 0 with q|q|q;exact q;rw[q] at this;simp at this;rw[fW q] at this;simp at this)
   ·rw[if_neg (fun e=>hz ((ll _).1 e))]
    split
    ·rename_i hp
     exact(oo _).2 (by rcases c1.1 hp with k|k;exact k;exact absurd k.1 hz)
    ·rename_i hp
     have:l.value p<0:=by have: ¬0<l.value p:=fun e=>hp (c1.2 (.inl e));grind
     exact Int.sign_eq_neg_one_iff_neg.2 (by have:=(sC _).2 this;rcases lU (l.value p).num 0 with q|q|q;exact q;rw[q] at this;simp at this;rw[fW q] at this;simp at this)
  have hz:l.value (bF p v d)≠0:=fun e=>by
   rcases fD (l.value p) with q|q|q
   ·rcases fD (l.nor.dot v) with r|r|r
    ·exact hgn q r
    ·have:=c1.2 (.inr ⟨q,r⟩);grind
    ·have:=c2.2 (.inr ⟨q,r⟩);grind
   ·have:=c1.2 (.inl q);grind
   ·have:=c2.2 (.inl q);grind
  refine⟨fun m hm=>?_,?_⟩
  ·rcases aW.1 hm with rfl|hm
   ·exact hz
   ·exact(bK.1 hm).elim (o2 m) (o3 m)
  ·rw[gq,hs]
   by_cases hp:0<l.value (bF p v d)
   ·rw[if_pos hp,Tr.val_pos hp];exact w2
   ·rw[if_neg hp,Tr.val_neg hp];exact w3
def lc(p:ab):(p.half=1/\(0<p.y\/(p.y=0/\0<p.x)))\/(p.half=2/\(p.y<0\/(p.y=0/\p.x<0)))\/(p.half=0/\p.y=0/\p.x=0):=by
 unfold ab.half;simp only[kH,sC,ll];split
 ·rename_i h;exact .inl ⟨rfl,h⟩
 ·rename_i h
  split
  ·rename_i h2
   exact .inr (.inl ⟨J,by grind⟩)
  ·rename_i h2
   exact .inr (.inr ⟨J,by grind,by grind⟩)
def nB{p:ab}:p.half=1↔(0<p.y\/(p.y=0/\0<p.x)):=by
 rcases lc p with⟨h,k⟩|⟨h,k⟩|⟨h,k⟩<;>rw[h]<;>grind
def qd{p:ab}:p.half=2↔(p.y<0\/(p.y=0/\p.x<0)):=by
 rcases lc p with⟨h,k⟩|⟨h,k⟩|⟨h,k⟩<;>rw[h]<;>grind
def b7(u v:ab):Prop:=u.half<v.half\/(u.half=v.half/\0<u.cross v)
def nj{u v:ab}:co u v<0↔b7 u v:=by
 unfold co b7;split
 ·rename_i h;exact⟨fun _=> .inl h,fun _=>by decide⟩
 ·rename_i h
  split
  ·rename_i h2;exact⟨fun e=>absurd e (by decide),fun e=>by omega⟩
  ·rename_i h2
   have e:u.half=v.half:=by omega
   rw[<-kH];constructor
   ·intro k;exact .inr ⟨e,by omega⟩
   ·rintro (k|⟨_,k⟩)
    ·omega
    ·omega
def bG(d:ab):ab:=⟨-d.x, -d.y⟩
def ue{d:ab}(h:d.half≠0):(bG d).half=3-d.half:=by
 rcases lc d with⟨e,k⟩|⟨e,k⟩|⟨e,k⟩
 ·rw[e];exact qd.2 (by unfold bG;grind)
 ·rw[e];exact nB.2 (by unfold bG;grind)
 ·exact absurd e h
def gO{d:ab}(h:d.half≠0):d.half=1\/d.half=2:=by
 rcases lc d with⟨e,_⟩|⟨e,_⟩|⟨e,_⟩
 ·exact .inl e
 ·exact .inr e
 ·exact absurd e h
def lv(ds:List ab)(u w:ab):Prop:=(b7 u w/\ ∀d∈ds,¬(b7 u d/\b7 d w))\/((∀d∈ds,¬b7 u d)/\ ∀d∈ds,¬b7 d w)
structure uM (ds:List ab):Prop where
 nz: ∀d∈ds,d.half≠0
 neg: ∀d∈ds,bG d∈ds
def R8(u:ab):u.cross u=0:=by unfold ab.cross;grind
def fk(u v:ab):v.cross u= -u.cross v:=by unfold ab.cross;grind
def mP(u v:ab):u.cross (bG v)= -u.cross v:=by unfold ab.cross bG;grind
def lv.spec{ds:List ab}{u w:ab}(h:uM ds)(hu:u∈ds)(hw:w∈ds)(hn:lv ds u w):
  (u.half=w.half/\0<u.cross w/\ ∀d∈ds,¬(b7 u d/\b7 d w))\/(u.half≠w.half/\(∀d∈ds,d.half=u.half->0<=d.cross u)/\ ∀d∈ds,d.half=w.half->0<=w.cross d):=by
 have zu:=gO (h.nz u hu);have zw:=gO (h.nz w hw);rcases hn with⟨h1,h2⟩|⟨h1,h2⟩
 ·rcases h1 with k|⟨k,k2⟩
  ·refine .inr ⟨by omega,fun d hd e=>?_,fun d hd e=>?_⟩
   ·have:=h2 d hd
    rw[fk];by_cases hc:0<u.cross d
    ·exact absurd ⟨.inr ⟨e.symm,hc⟩, .inl (by omega)⟩ this
    ·grind
   ·have:=h2 d hd
    by_cases hc:0<d.cross w
    ·exact absurd ⟨.inl (by omega), .inr ⟨e,hc⟩⟩ this
    ·rw[fk] at hc;grind
  ·exact .inl ⟨k,k2,h2⟩
 ·have nu:=ue (h.nz u hu)
  have a1:=h1 _ (h.neg u hu);have a2:=h2 _ (h.neg u hu);unfold b7 at a1 a2;rw[nu] at a1 a2;refine .inr ⟨fun e=>?_,fun d hd e=>?_,fun d hd e=>?_⟩
  ·rcases zu with z|z
   ·exact a1 (.inl (by omega))
   ·exact a2 (.inl (by omega))
  ·have:=h1 d hd
   rw[fk];by_cases hc:0<u.cross d
   ·exact absurd (.inr ⟨e.symm,hc⟩) this
   ·grind
  ·have:=h2 d hd
   by_cases hc:0<d.cross w
   ·exact absurd (.inr ⟨e,hc⟩) this
   ·rw[fk] at hc;grind
def lv.pos{ds:List ab}{u w:ab}(h:uM ds)(hu:u∈ds)(hw:w∈ds)(hn:lv ds u w):0<=u.cross w:=by
 rcases hn.spec h hu hw with⟨_,h2,_⟩|⟨h1,h2,h3⟩
 ·grind
 ·have:=h3 _ (h.neg u hu) (by rw[ue (h.nz u hu)];have:=gO (h.nz u hu);have:=gO (h.nz w hw);omega)
  rw[mP] at this;rw[fk];exact this
def gA(a b:Rat)(u w:ab):ab:=⟨a*u.x+b*w.x,a*u.y+b*w.y⟩
def R9{a b:Rat}{u w:ab}:u.cross (gA a b u w)=b*u.cross w/\(gA a b u w).cross w=a*u.cross w:=by
 unfold ab.cross gA;constructor<;>grind
def In{a b:Rat}{u w:ab}(ha:0<a)(hb:0<b)(h:u.half=w.half)(hz:u.half≠0):(gA a b u w).half=u.half:=by
 rcases lc u with⟨e,k⟩|⟨e,k⟩|⟨e,k⟩
 ·rw[e] at h⊢
  have k2:=nB.1 h.symm;refine nB.2 ?_;unfold gA;simp only;have p1: ∀z:Rat,0<z->0<a*z:=fun z hz=>bO ha hz;have p2: ∀z:Rat,0<z->0<b*z:=fun z hz=>bO hb hz;rcases k with k|⟨k,k'⟩<;>rcases k2 with l|⟨l,l'⟩
  ·have:=p1 _ k;have:=p2 _ l;grind
  ·have:=p1 _ k;rw[l];grind
  ·have:=p2 _ l;rw[k];grind
  ·have:=p1 _ k';have:=p2 _ l';rw[k,l];grind
 ·rw[e] at h⊢
  have k2:=qd.1 h.symm;refine qd.2 ?_;unfold gA;simp only;have p1: ∀z:Rat,z<0->a*z<0:=fun z hz=>by have:=bO (a:=a) (b:= -z) ha (by grind);grind
  have p2: ∀z:Rat,z<0->b*z<0:=fun z hz=>by have:=bO (a:=b) (b:= -z) hb (by grind);grind
  rcases k with k|⟨k,k'⟩<;>rcases k2 with l|⟨l,l'⟩
  ·have:=p1 _ k;have:=p2 _ l;grind
  ·have:=p1 _ k;rw[l];grind
  ·have:=p2 _ l;rw[k];grind
  ·have:=p1 _ k';have:=p2 _ l';rw[k,l];grind
 ·exact absurd e hz
def lv.none{ds:List ab}{u w:ab}(h:uM ds)(hu:u∈ds)(hw:w∈ds)(hn:lv ds u w)(hc:u.cross w≠0){a b:Rat}(ha:0<a)(hb:0<b):gA a b u w∉ds:=fun hd=>by
 have hp:=hn.pos h hu hw;have hp:0<u.cross w:=by grind
 obtain⟨c1,c2⟩:=R9 (a:=a) (b:=b) (u:=u) (w:=w);have d1:0<u.cross (gA a b u w):=by rw[c1];exact bO hb hp
 have d2:0<(gA a b u w).cross w:=by rw[c2];exact bO ha hp
 have zu:=gO (h.nz u hu);have zw:=gO (h.nz w hw);have zd:=gO (h.nz _ hd);rcases hn.spec h hu hw with⟨h1,_,h3⟩|⟨h1,h2,h3⟩
 ·have e:=In ha hb h1 (h.nz u hu)
  exact h3 _ hd ⟨.inr ⟨e.symm,d1⟩, .inr ⟨e.trans h1,d2⟩⟩
 ·rcases(show(gA a b u w).half=u.half\/(gA a b u w).half=w.half by omega) with e|e
  ·have:=h2 _ hd e
   rw[fk] at this;grind
  ·have:=h3 _ hd e
   rw[fk] at this;grind
def uZ{d e:ab}(h:e.cross d=0)(hp:0<e.dot d): ∃g:Rat,0<g/\e=⟨g*d.x,g*d.y⟩:=by
 have hd:0<d.dot d:=by
  unfold ab.dot at*;have h1:=sF d.x;have h2:=sF d.y;rcases fD d.x with k|k|k
  ·rcases fD d.y with l|l|l
   ·rw[k,l] at hp;grind
   ·have:=bO l l;grind
   ·have:=bO (a:= -d.y) (b:= -d.y) (by grind) (by grind);grind
  ·have:=bO k k;grind
  ·have:=bO (a:= -d.x) (b:= -d.x) (by grind) (by grind);grind
 have key:e.x*d.dot d=e.dot d*d.x/\e.y*d.dot d=e.dot d*d.y:=by
  unfold ab.dot ab.cross at*;constructor<;>grind
 have hg:e.dot d/d.dot d*d.dot d=e.dot d:=by grind
 refine⟨e.dot d/d.dot d,(gy hd).1 (by rw[hg];exact hp),?_⟩;generalize e.dot d/d.dot d=g at*;have x1:e.x=g*d.x:=by
  have:(e.x-g*d.x)*d.dot d=0:=by rw[<-hg] at key;grind
  have hz:d.dot d≠0:=by grind
  grind
 have x2:e.y=g*d.y:=by
  have:(e.y-g*d.y)*d.dot d=0:=by rw[<-hg] at key;grind
  have hz:d.dot d≠0:=by grind
  grind
 rw[<-x1,<-x2]
def DT{e u:ab}(he:e.half≠0)(hu:u.half≠0)(hp:e.cross u=0):e.dot u≠0:=fun hz=>by
 have e1:e.x*(u.x*u.x+u.y*u.y)=0:=by unfold ab.dot ab.cross at*;grind
 have e2:e.y*(u.x*u.x+u.y*u.y)=0:=by unfold ab.dot ab.cross at*;grind
 have hu2:u.x*u.x+u.y*u.y≠0:=fun q=>by
  have h1:=sF u.x;have h2:=sF u.y;have x0:u.x=0:=by
   have:u.x*u.x=0:=by grind
   grind
  have y0:u.y=0:=by
   have:u.y*u.y=0:=by grind
   grind
  rcases lc u with⟨_,q⟩|⟨_,q⟩|⟨q,_⟩
  ·grind
  ·grind
  ·exact hu q
 have x0:e.x=0:=by grind
 have y0:e.y=0:=by grind
 rcases lc e with⟨_,q⟩|⟨_,q⟩|⟨q,_⟩
 ·grind
 ·grind
 ·exact he q
def lv.gen{ds:List ab}{u w:ab}(h:uM ds)(hu:u∈ds)(hw:w∈ds)(hn:lv ds u w)(hc:u.cross w≠0){a b:Rat}(ha:0<a)(hb:0<b): ∀d∈ds,d.cross (gA a b u w)≠0:=fun d hd hz=>by
 have hp:=hn.pos h hu hw;have hp:0<u.cross w:=by grind
 obtain⟨c1,c2⟩:=R9 (a:=a) (b:=b) (u:=u) (w:=w);have d1:0<u.cross (gA a b u w):=by rw[c1];exact bO hb hp
 -- of d and its opposite, one points the same way
 have key: ∀e∈ds,e.cross (gA a b u w)=0->0<e.dot (gA a b u w)->False:=fun e he h1 h2=>by
  obtain⟨g,g1,g2⟩:=uZ h1 h2;refine hn.none h hu hw hc (a:=g*a) (b:=g*b) (bO g1 ha) (bO g1 hb) ?_;have:gA (g*a) (g*b) u w=e:=by rw[g2];unfold gA;simp only[ab.mk.injEq];constructor<;>grind
  rw[this];exact he
 rcases fD (d.dot (gA a b u w)) with k|k|k
 ·-- both 0: then d is 0, or the other is
  have hnz:=h.nz d hd;generalize gA a b u w=v at*;have e1:d.x*(v.x*v.x+v.y*v.y)=0:=by unfold ab.dot ab.cross at*;grind
  have e2:d.y*(v.x*v.x+v.y*v.y)=0:=by unfold ab.dot ab.cross at*;grind
  have hv:v.x*v.x+v.y*v.y≠0:=fun e=>by
   have h1:=sF v.x;have h2:=sF v.y;have x0:v.x=0:=by have:v.x*v.x=0:=(by grind);grind
   have y0:v.y=0:=by have:v.y*v.y=0:=(by grind);grind
   unfold ab.cross at d1;rw[x0,y0] at d1;grind
  have x0:d.x=0:=by grind
  have y0:d.y=0:=by grind
  rcases lc d with⟨_,q⟩|⟨_,q⟩|⟨q,_⟩
  ·grind
  ·grind
  ·exact hnz q
 ·exact key d hd hz k
 ·refine key _ (h.neg d hd) ?_ ?_
  ·unfold ab.cross bG at*;grind
  ·unfold ab.dot bG at*;grind
def N0(d u:ab):d.cross (jh u)=d.dot u:=by unfold ab.cross jh ab.dot;grind
def lv.turn{ds:List ab}{u w:ab}(h:uM ds)(hu:u∈ds)(hw:w∈ds)(hn:lv ds u w)(hc:u.cross w=0): ∀d∈ds,d.cross (jh u)≠0:=fun d hd=>by
 have zu:=gO (h.nz u hu);have zw:=gO (h.nz w hw);rw[N0];rcases hn.spec h hu hw with⟨_,h2,_⟩|⟨h1,h2,h3⟩
 ·rw[hc] at h2;exact absurd h2 (by decide)
 have par: ∀e∈ds,e.half=u.half->e.cross u=0:=fun e he k=>by
  have a1:=h2 e he k;have a2:=h3 _ (h.neg e he) (by rw[ue (h.nz e he)];omega);rw[mP] at a2
  -- w = -g u
  have hwu:w.cross u=0:=by rw[fk,hc];rfl
  have huw:w.dot u<0:=by
   rcases fD (w.dot u) with k0|k0|k0
   ·exact absurd k0 (DT (h.nz w hw) (h.nz u hu) hwu)
   ·obtain⟨g,g1,g2⟩:=uZ hwu k0
    exfalso;apply h1;rcases lc u with⟨x,q⟩|⟨x,q⟩|⟨x,q⟩
    ·rw[x]
     refine(nB.2 ?_).symm;rw[g2];simp only;rcases q with q|⟨q,q'⟩
     ·exact .inl (bO g1 q)
     ·exact .inr ⟨by rw[q];grind,bO g1 q'⟩
    ·rw[x]
     refine(qd.2 ?_).symm;rw[g2];simp only;rcases q with q|⟨q,q'⟩
     ·have:=bO (a:=g) (b:= -u.y) g1 (by grind);exact .inl (by grind)
     ·have:=bO (a:=g) (b:= -u.x) g1 (by grind);exact .inr ⟨by rw[q];grind,by grind⟩
    ·exact absurd x (h.nz u hu)
   ·exact k0
  obtain⟨g,g1,g2⟩:=uZ (d:=u) (e:=bG w) (by unfold ab.cross bG at*;grind) (by unfold ab.dot bG at*;grind);have a3:0<= -(g*e.cross u):=by
   have e1:w=⟨-(g*u.x), -(g*u.y)⟩:=by
    have:=congrArg bG g2;unfold bG at this
    cases w
    simp only[Rat.neg_neg] at this;exact this
   rw[e1] at a2;unfold ab.cross at*;grind
  by_cases hz:0<e.cross u
  ·have:=bO g1 hz;grind
  ·grind
 have nzd: ∀e∈ds,e.half=u.half->e.dot u≠0:=fun e he k=>DT (h.nz e he) (h.nz u hu) (par e he k);by_cases k:d.half=u.half
 ·exact nzd d hd k
 ·have:=nzd _ (h.neg d hd) (by rw[ue (h.nz d hd)];have:=gO (h.nz d hd);omega)
  unfold ab.dot bG at*;grind
end Go.Sx
end
section
namespace Go.Sx
open Go
inductive OT where
 |z (π:List (Nat×Bool))
 |q (i:Nat) (t:OT)
 |a (i:Nat) (t:OT)
 |c (i:Nat) (t r:OT)
def OT.sz:OT->Nat
 | .z _=>0
 | .q _ t=>t.sz+1
 | .a _ t=>t.sz+1
 | .c _ t r=>t.sz+r.sz+1
def OT.d:OT->Nat
 | .z π=>π.length
 | .q _ t=>t.d+1
 | .a _ t=>t.d+1
 | .c _ t r=>Nat.max (t.d+1) r.d
section
variable {P:Program} {ops:Array Oper} {Q:Exit->Act->World->Prop} {S:World->Prop} {π₂:List (Nat×Bool)}
def vS(P:Program)(ops:Array Oper)(Q:Exit->Act->World->Prop)(K:(World->Prop)->Act->World->Prop):List Nat->OT->(World->Prop)->Act->World->Prop
 |ks, .z π,S,a,w=>zp P ops Q K ks π S a w
 |ks, .q i t,S,a,w=> ∃o v,ops[i]? =some o/\S w/\YieldsIf P ops S o v a/\vS P ops Q K ks t S (a.put o.dst v) w
 |ks, .a i t,S,a,w=>wpOp P ops Q i (vT S (vS P ops Q K ks t)) a w/\
   ∀j,(h:j∈ks)->wpOp P ops Q j (vT S (vS P ops Q K (bz ks j) (.a i t))) a w
 |ks, .c i t r,S,a,w=>wpOp P ops Q i (vT S (vS P ops Q K ks t)) a w/\vS P ops Q K ks r S a w/\
   ∀j,(h:j∈ks)->wpOp P ops Q j (vT S (vS P ops Q K (bz ks j) (.c i t r))) a w
termination_by ks t=>ks.length+t.sz
decreasing_by
 all_goals (first|(have:=Jd h;simp only[OT.sz] at*;omega)|(simp only[OT.sz];omega))
def tr(ops:Array Oper)(fin:Nat->Bool)(π₂:List (Nat×Bool)):Nat->Bool->List Nat->OT->Array Bool->List Nat->Bool
 |0,_,_,_,_,_=>false
 |n+1,false,ks, .z π,l,_=>AN ops fin π₂ n ks π l
 |_+1,true,_, .z _,_,_=>false
 |n+1,false,ks, .q i t,l,_=>yk ops fin l i&&tr ops fin π₂ n false ks t (l.setIfInBounds i true) []
 |_+1,true,_, .q _ _,_,_=>false
 |n+1,true,ks, .a i t,l,rs=>rs.all (fun j=>Nat.beq j i)&&tr ops fin π₂ n false ks t (l.setIfInBounds i true) []
 |n+1,false,ks, .a i t,l,_=>!(Region.ready .any ops l).isEmpty&&(Region.ready .any ops l).all (fun j=>Nat.beq j i||ks.contains j)&&tr ops fin π₂ n false ks t (l.setIfInBounds i true) []&&ks.all fun j=>tr ops fin π₂ n false (bz ks j) (.a i t) (l.setIfInBounds j true) []
 |n+1,true,ks, .c i t r,l,rs=>tr ops fin π₂ n false ks t (l.setIfInBounds i true) []&&tr ops fin π₂ n true ks r l (bz rs i)
 |n+1,false,ks, .c i t r,l,_=>!(Region.ready .any ops l).isEmpty&&tr ops fin π₂ n false ks t (l.setIfInBounds i true) []&&tr ops fin π₂ n true ks r l (bz ((Region.ready .any ops l).filter fun j=>!ks.contains j) i)&&ks.all fun j=>tr ops fin π₂ n false (bz ks j) (.c i t r) (l.setIfInBounds j true) []
end
section
variable {P:Program} {GB:Gh} {C:aB} {n:Nat} {fr fr':eo} {own own' own0 own1 own1':List c9} {bs bs0 bs1 bs1':List dB} {ops:Array Oper} {Q:Exit->Act->World->Prop} {fd:List FD} {π₂:List (Nat×Bool)} {t r:OT}
abbrev dnK (P:Program) (ops:Array Oper) (Q:Exit->Act->World->Prop) (K:(World->Prop)->Act->World->Prop) (t:OT):List Nat->(World->Prop)->Act->World->Prop:=fun ks S=>vS P ops (fP Q) K ks t S
end
end Go.Sx
end
