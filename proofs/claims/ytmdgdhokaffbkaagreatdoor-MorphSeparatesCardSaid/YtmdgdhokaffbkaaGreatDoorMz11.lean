import Derived.Test.YtmdgdhokaffbkaaGreatDoorMz10
set_option linter.all false
set_option maxHeartbeats 4000000
set_option maxRecDepth 100000
section
namespace Go.Sx
open Go Go.Proofs Tryz
variable {GB G:Gh}{n m D:Int}{g d i j k:Nat}{q t:Rat}{vs:List Value}{v w:ao}{l:ah}
def xg{a b:Int}(h:a=b):eI a=eI b:=by rw[h]
def FP(z:Int):eQ (z:Rat)= .ag [.v (.bool (decide (z<0))),dN z.natAbs, .sl []]:=by unfold eQ;rw[lL,lM];rfl
def CI{a:Rat}(h:a.den=1):((a.num:Int):Rat)=a:=Rat.ext (lL _) (by rw[lM,h])
def aCI{a b:Rat}(ha:a.den=1)(hb:b.den=1):a+b=((a.num+b.num:Int):Rat):=by
 rw[lS,CI ha,CI hb]
def azb{a b:Rat}(ha:a.den=1)(hb:b.den=1):a*b=((a.num*b.num:Int):Rat):=by
 rw[cV,CI ha,CI hb]
def zf(n:Nat)(h:0<n):(if n=1 then [] else(dg n).map dU).length=0↔n=1:=by
 by_cases q:n=1
 .simp[q]
 .rw[if_neg q,aX,wh];omega
def LS{n:Nat}(h:n≠1):dD n=dN n:=by unfold dD;rw[if_neg h];rfl
def I0:(jy g 1=0)↔g=1:=by
 unfold jy;constructor
 .intro h;split at h
  .exact absurd h pb
  .split at h
   .assumption
   .exact absurd h pb
 .rintro rfl;rfl
def Th{x:Int}(hd:0<d):zv (decide (x<0)) (x.natAbs/Nat.gcd x.natAbs d)=(mkRat x d).num:=by
 rw[Rat.num_mkRat,if_neg m5,jL];have hg:0<Nat.gcd d x.natAbs:=mV _ hd;obtain⟨c,hc⟩:Nat.gcd d x.natAbs∣x.natAbs:=mY _ _;generalize Nat.gcd d x.natAbs=g at*;rw[hc,sX _ hg];unfold zv;by_cases q:x<0
 .rw[if_pos (by simpa using q),show x=(g:Int)*(-(c:Int)) by rw[Int.mul_neg,<-jQ];omega,Int.mul_ediv_cancel_left _ m5]
 .rw[if_neg (by simpa using q),show x=(g:Int)*(c:Int) by rw[<-jQ];omega,Int.mul_ediv_cancel_left _ m5]
def R1{x:Int}(hd:0<d):d/Nat.gcd x.natAbs d=(mkRat x d).den:=by
 rw[Rat.den_mkRat,if_neg m5,jL]
def Z5{x:Int}(hd:0<d)(h:Nat.gcd x.natAbs d=1):(mkRat x d).num=x/\(mkRat x d).den=d:=by
 rw[<-Th hd,<-R1 hd,h,uK,uK];exact⟨mF x,J⟩
instance BI.zv (neg:Bool) (m i:Nat) [h:BN m i]:BI (zv neg m) i:=⟨by rw[sC];exact h.h⟩
section
variable {C:aG}{n:Nat}{Q0:Exit->Act->World->Prop}{fr fr':aD}{own own':aI}{cf cf':Cf}{vc:List Prop}
def TV(fr:aD)(cf:Cf):Option Int:=match de fr cf with
 |some ⟨_, .convert t t' x,_,_,_,_⟩=>match d9 tt t,d9 tt t' with
  |some ⟨.int .i64,_,_,_⟩,some ⟨.int .u64,_,_,_⟩=>match aP (cj fr cf) x with
   |some (.d (.v (.int .i64 p)))=>some p
   |_=>none
  |_,_=>none
 |_=>none
def cvw[fu:Fu]{p:Int}(q:Int)(h:TV fr cf=some p)(e:p%18446744073709551616=q)(hgo:cF tt n fu.n fr own cf (.d (.v (.int .u64 q))) [] []=⟨vc,fr',own',cf'⟩)(k:av prog GB C n Q0 fr' own' cf')
  (hv:ak vc:=by first|exact trivial|(simp only[ak];omega)):av prog GB C n Q0 fr own cf:=by
 unfold TV at h;split at h<;>try (cases h;done)
 rename_i hh;split at h<;>try (cases h;done)
 rename_i hT hT';split at h<;>cases h;rename_i hx;have:=zz (fe _ _ hT) J;have:=zz (fe _ _ hT') J;refine us hh (.x1 hx fun ρ G ov a w y _ r h1 h2=>?_) hgo hv k;rw[dl] at h2;subst h2;refine⟨_,dl.2 J,?_⟩;rw[<-e,<-sD];exact El h1
def UI(fr:aD)(cf:Cf):Option Int:=match de fr cf with
 |some ⟨_, .unOp .neg _ x,_,_,_,_⟩=>match aP (cj fr cf) x with
  |some (.d (.v (.int .u64 p)))=>some p
  |_=>none
 |_=>none
def XO[fu:Fu]{p:Int}(q:Int)(h:UI fr cf=some p)(e:(0-p)%18446744073709551616=q)(hgo:cF tt n fu.n fr own cf (.d (.v (.int .u64 q))) [] []=⟨vc,fr',own',cf'⟩)(k:av prog GB C n Q0 fr' own' cf')
  (hv:autoParam (ak vc) cvw._auto_1):av prog GB C n Q0 fr own cf:=by
 unfold UI at h;split at h<;>try (cases h;done)
 rename_i hh;split at h<;>cases h;rename_i hx;refine us hh (.x1 hx fun ρ G ov a w y _ r h1 h2=>?_) hgo hv k;rw[dl] at h2;subst h2;refine⟨_,dl.2 J,?_⟩;rw[<-e,<-sD];exact GT h1
end
def TM(h0: -4611686018427387904<=n:=by omega)(h1:n<=4611686018427387904:=by omega):PF GB prog 99 [.v (.int .i64 n)] (eI n):=by
 refine fn func99 J J ntmps99 J J (fun C=>?_);refine br (fu1:=⟨3⟩) (fu2:=⟨6⟩) J J J (fun hc4=>?_) (fun hc4=>?_)
 .
  refine cvw (fu:=⟨0⟩) (18446744073709551616+n) J m5 J<|XO (n.natAbs:Nat) J m5 J<|cl J (ux (u:=n.natAbs)) J<|cl J lI J<|rz J (xg (by unfold zv;rw[if_pos J];omega))
 .
  refine aj 11 (.d (.v (.int .u64 (n.natAbs:Nat)))) J (omb m5)<|gx J<|cl J (ux (u:=n.natAbs)) J<|cl J lI J<|rz J (xg (by unfold zv;rw[if_neg pb];omega))
def zZ{z:Int}:PF GB prog 130 [eI z] (vI z.sign):=by
 have hl:=ck (dg z.natAbs);have hz:= @wh z.natAbs;refine fn func130 J J ntmps130 J J (fun C=>?_);refine br J J J (fun hc6=>?_) (fun hc6=>?_)
 .
  exact rz J okC
 .
  refine bd J J J (fun hc8=>?_) (fun hc8=>?_)
  .
   exact rz J ozc
  .
   exact rz J oze
def AZ{z:Int}:PF GB prog 167 [eI z] (eI (-z)):=by
 refine fn func167 J J ntmps167 J J (fun C=>?_);refine cl J lI J<|rz J (xg (aK7 z))
def Wx{a b:Int}(h:decide (a<0)=decide (b<0)):zv (decide (a<0)) (a.natAbs+b.natAbs)=a+b:=by
 unfold zv;have h':a<0↔b<0:=by simpa using h
 by_cases q:a<0
 .have:=h'.1 q
  simp[q];omega
 .have: ¬b<0:=fun w=>q (h'.2 w)
  simp[q];omega
def Wk{a b:Int}(h: ¬decide (a<0)=decide (b<0))(k:a.natAbs<b.natAbs):zv (decide (b<0)) (b.natAbs-a.natAbs)=a+b:=by
 unfold zv;have h': ¬(a<0↔b<0):=by simpa using h
 by_cases q:b<0
 .have: ¬a<0:=fun w=>h' ⟨fun _=>q,fun _=>w⟩
  simp[q];omega
 .have:a<0:=Int.not_le.1 fun w=>h' ⟨fun e=>by omega,fun e=>absurd e q⟩
  simp[q];omega
def XJ{a b:Int}(h: ¬decide (a<0)=decide (b<0))(k:b.natAbs<=a.natAbs):zv (decide (a<0)) (a.natAbs-b.natAbs)=a+b:=by
 unfold zv;have h': ¬(a<0↔b<0):=by simpa using h
 by_cases q:a<0
 .have: ¬b<0:=fun w=>h' ⟨fun _=>w,fun _=>q⟩
  simp[q];omega
 .have:b<0:=Int.not_le.1 fun w=>h' ⟨fun e=>absurd e q,fun e=>by omega⟩
  simp[q];omega
def Ee{a b:Int}[ha:BI a i][hb:BI b j](hi:i<=400000000:=by decide)(hj:j<=400000000:=by decide):PF GB prog 53 [eI a,eI b] (eI (a+b)):=by
 have hba:=lx ha.h;have hbb:=lx hb.h;refine fn (fu:=⟨15⟩) func53 J J ntmps53 J J (fun C=>?_);refine aj 9 (.d (.v (.bool (decide (decide (a<0)=decide (b<0)))))) J (by congr 2)<|gx J<|bd J J J (fun hc9=>?_) (fun hc9=>?_)
 .
  refine cl J (aMS m5 m5) J<|cl J lI J<|rz J (xg (Wx hc9))
 .
  refine cl J (yD) J<|br J J J (fun hc23=>?_) (fun hc23=>?_)
  .
   refine cl J (IW (by have:=Ae.1 hc23;omega) m5) J<|cl J lI J<|rz J (xg (Wk hc9 (Ae.1 hc23)))
  .
   refine cl J (IW (tZ fun q=>hc23 (Ae.2 q)) m5) J<|cl J lI J<|rz J (xg (XJ hc9 (tZ fun q=>hc23 (Ae.2 q))))
def vZ{a b:Int}[ha:BI a i][hb:BI b j](hi:i<=400000000:=by decide)(hj:j<=400000000:=by decide):PF GB prog 55 [eI a,eI b] (eI (a*b)):=by
 refine fn func55 J J ntmps55 J J (fun C=>?_);refine cl J (sA m5 m5) J<|cl J lI J<|rz J (xg (aE4 a b))
def J5{a b:Int}[ha:BI a i][hb:BI b j](hi:i<=400000000:=by decide)(hj:j<=400000000:=by decide):PF GB prog 237 [eI a,eI b] (vI (a-b).sign):=by
 refine fn func237 J J ntmps237 J J (fun C=>?_);refine cl J AZ J<|cl J (Ee m5 m5) J<|cl J zZ J<|rz J (by rw[Int.sub_eq_add_neg];rfl)
def lA:PF GB prog 57 [eQ q] (dN q.den):=by
 refine fn func57 J J ntmps57 J J (fun C=>?_);refine br J J J (fun hc6=>?_) (fun hc6=>?_)
 .
  refine cl J Dk J<|rz J (by rw[(zf q.den (nE q)).1 m5];rfl)
 .
  exact rz J (by exact LS (fun e=>hc6 (by exact congrArg Int.ofNat ((zf q.den (nE q)).2 e))))
def Nm{n:Nat}[h:BN n k](hk:k<=500000000:=by omega):(dg n).length<=100000000:=by have:=lx h.h;omega
def xO{x:Int}[hx:BI x i][hd:BN d j](hd0:0<d)(hi:i<=200000000:=by decide)(hj:j<=200000000:=by decide):PF GB prog 54 [eI x,dN d] (eQ (mkRat x d)):=by
 obtain⟨q,hq⟩: ∃q,q=mkRat x d:=⟨_,rfl⟩;obtain⟨g,hg⟩: ∃g,g=Nat.gcd x.natAbs d:=⟨_,rfl⟩;have hg0:0<g:=hg▸pZ _ hd0;haveI hgB:BN g (i+j):=hg▸inferInstance;have hg1:(dg g).length<=100000000:=Nm (k:=i+j);have ho1:(dg 1).length<=100000000:=by rw[B5];decide
 haveI hqB:BQ q (i+j):=hq▸uT hd0 (cN hx.h (bT pb m5)) (cN hd.h (bT pb m5));refine fn func54 J J ntmps54 J J (fun C=>?_);refine cl (fu:=⟨0⟩) J (AI m5 m5) J<|aj 11 (.d (dN g)) J (by rw[hg])<|gx (fu:=⟨4⟩) J<|mg (fu:=⟨1⟩) (X:=Unit) (fun _=>[(1, .d (dN q.den)),(2, .ov 2 0),(4, .ov 4 0)]) (fun _=>[(4,some (.o 34 [.ff, .nl, .nl] true)),(2,some (.o 32 [.d (.v (.bool (decide (q.num<0)))), .d (dN q.num.natAbs)] true))]) (fun _=>True) [1,2,4] [4,2] rfl ?_ (fun _=>J) (fun _ hm=>?_)
 .
  refine gx J<|cl J Dk J<|cl J (yD hg1 ho1) J<|br J J J (fun hc15=>?_) (fun hc15=>?_)
  .
   refine cl J (ze hg0 m5 m5) J<|cl (fu:=⟨0⟩) J lI J<|aj 26 (.d (eI q.num)) J (by show FX.d (eI (zv _ _))=_;rw[hg,Th hd0,hq])<|gx J<|cl (fu:=⟨2⟩) J (ze hg0 m5 m5) J<|aj 31 (.d (dN q.den)) J (by rw[hg,R1 hd0,hq])<|gx J<|at_ () trivial
  .
   have hm:=Z5 (x:=x) hd0 (by rw[<-hg];exact I0.1 (Decidable.not_not.1 hc15));rw[<-hq] at hm;refine aj 1 (.d (dN q.den)) J (by rw[hm.2])<|at_ () trivial (hO:=⟨J,by rw[hm.1];rfl,trivial⟩)
 .
  refine mg (X:=Unit) (fun _=>[(1, .d (dD q.den)),(2, .ov 2 0),(4, .ov 4 0)]) (fun _=>[(4,some (.o 34 [.ff, .nl, .nl] true)),(2,some (.o 32 [.d (.v (.bool (decide (q.num<0)))), .d (dN q.num.natAbs)] true))]) (fun _=>True) [1,2,4] [4,2] rfl ?_ (fun _=>J) (fun _ hm=>?_)
  .
   refine gx J<|cl J Dk J<|cl J (yD (Nm (k:=i+j)) ho1) J<|br J J J (fun hc36=>?_) (fun hc36=>?_)
   .
    refine Zd 1 J<|aj 1 (.d (dD q.den)) J (by rw[I0.1 hc36];rfl)<|at_ () trivial
   .
    refine aj 1 (.d (dD q.den)) J (by rw[LS (fun e=>hc36 (I0.2 e))])<|at_ () trivial
  .
   exact rz J (by rw[<-hq];rfl)
def LM(a:Rat):mkRat a.num a.den=a:=by simp[qY]
def Te{a b:Rat}(h:b≠0):a/b=mkRat (a.num*zv (decide (b.num<0)) b.den) (a.den*b.num.natAbs):=by
 rw[mX];have ha:(a.num:Rat)/(a.den:Rat)=a:=by rw[<-mX,LM]
 have hb:(b.num:Rat)/(b.den:Rat)=b:=by rw[<-mX,LM]
 have h1:(a.den:Rat)≠0:=by have:=a.den_nz;exact_mod_cast this
 have h2:(b.den:Rat)≠0:=by have:=b.den_nz;exact_mod_cast this
 have h3:(b.num:Rat)≠0:=by
  intro e;rw[e] at hb;apply h;rw[<-hb];grind
 rw[cV,Rat.natCast_mul];by_cases q:b.num<0
 .have e1:((zv (decide (b.num<0)) b.den:Int):Rat)= -(b.den:Rat):=by
   unfold zv;rw[if_pos (by simpa using q),jV];rfl
  have e2:((b.num.natAbs:Nat):Rat)= -(b.num:Rat):=by
   have:((b.num.natAbs:Nat):Int)= -b.num:=by omega
   rw[<-jV,<-this];rfl
  rw[e1,e2];generalize (a.num:Rat)=an at*;generalize (a.den:Rat)=ad at*;generalize (b.num:Rat)=bn at*;generalize (b.den:Rat)=bd at*;subst ha hb;grind
 .have e1:((zv (decide (b.num<0)) b.den:Int):Rat)=(b.den:Rat):=by
   unfold zv;rw[if_neg (by simpa using q)];rfl
  have e2:((b.num.natAbs:Nat):Rat)=(b.num:Rat):=by
   have:((b.num.natAbs:Nat):Int)=b.num:=by omega
   rw[<-this];rfl
  rw[e1,e2];generalize (a.num:Rat)=an at*;generalize (a.den:Rat)=ad at*;generalize (b.num:Rat)=bn at*;generalize (b.den:Rat)=bd at*;subst ha hb;grind
def WR(hd:0<d)(h:q*(d:Rat)=(n:Rat)):q.num.natAbs<=n.natAbs/\q.den<=d:=by
 have e:q=mkRat n d:=by
  rw[mX];have:(d:Rat)≠0:=by exact_mod_cast (by omega:d≠0)
  rw[<-h];grind
 rw[e,Rat.num_mkRat,Rat.den_mkRat,if_neg m5,if_neg m5];exact⟨oU n (d.gcd n.natAbs:Nat),nY ..⟩
theorem BQ.of_frac(hd:0<d)(h:q*(d:Rat)=(n:Rat))(hn:n.natAbs<2^i)(hdi:d<2^i):BQ q i:=by
 have:=WR hd h;exact⟨m5,m5⟩
def PE{b:Rat}(h:b≠0):0<b.num.natAbs:=by
 have:b.num≠0:=fun e=>h (lX.1 e);omega
instance BQ.over (a b:Rat) (i j:Nat) [ha:BQ a i] [hb:BQ b j]:BQ (a/b) (i+j):=by
 by_cases h:b=0
 .subst h
  rw[Rat.div_def,Rat.inv_zero,Rat.mul_zero];have h2:=ha.hd;have h3:0<a.den:=nE a;have h4:2^i*1<=2^i*2^j:=gX _ (gW pb);rw[<-fU] at h4;exact⟨by show 0<_;omega,by show 1<_;omega⟩
 .rw[Te h]
  have hb0:=PE h;refine uT (iM (nE a) hb0) ?_ (mv ha.hd hb.hn);rw[fL,sC];exact mv ha.hn hb.hd
def lB(h0: -4611686018427387904<=n:=by decide)(h1:n<=4611686018427387904:=by decide):PF GB prog 41 [.v (.int .i64 n)] (eQ (n:Rat)):=by
 refine fn func41 J J ntmps41 J J (fun C=>?_);refine cl J (TM) J<|rz J (by rw[FP];rfl)
def t6:PF GB prog 61 [eQ q] (vI q.num.sign):=by
 refine fn func61 J J ntmps61 J J (fun C=>?_);refine cl J zZ J<|rz J J
def vQ:PF GB prog 160 [eQ q] (eQ (-q)):=by
 refine fn func160 J J ntmps160 J J (fun C=>?_);refine cl J AZ J<|rz J (by unfold eQ;rw[nQ,qU];rfl)
def jA{a b:Rat}[ha:BQ a i][hb:BQ b j](hi:i<=20000000:=by decide)(hj:j<=20000000:=by decide):PF GB prog 132 [eQ a,eQ b] (eQ (a*b)):=by
 have had:=nE a;have hbd:=nE b;have hdp:=iM had hbd;have e1:=zf a.den had;have e2:=zf b.den hbd;refine fn func132 J J ntmps132 J J (fun C=>?_);refine cs 9 J J J (fun hg9=>?_) (fun hg9=>?_)
 .
  refine br J J J (fun hc14=>?_) (fun hc14=>?_)
  .
   refine cl J (vZ (a:=a.num) (b:=b.num) m5 m5) J<|rz J (by rw[azb (e1.1 m5) (e2.1 m5),FP];rfl)
  .
   refine cl J (vZ (a:=a.num) (b:=b.num) m5 m5) J<|cl J lA J<|cl J lA J<|cl J (sA m5 m5) J<|cl J (xO hdp m5 m5) J<|rz J (by rw[Bx];rfl)
 .
  refine cl J (vZ (a:=a.num) (b:=b.num) m5 m5) J<|cl J lA J<|cl J lA J<|cl J (sA m5 m5) J<|cl J (xO hdp m5 m5) J<|rz J (by rw[Bx];rfl)
def oe{a b:Rat}[ha:BQ a i][hb:BQ b j](hi:i<=20000000:=by decide)(hj:j<=20000000:=by decide):PF GB prog 18 [eQ a,eQ b] (eQ (a+b)):=by
 have had:=nE a;have hbd:=nE b;have hdp:=iM had hbd;have e1:=zf a.den had;have e2:=zf b.den hbd;refine fn func18 J J ntmps18 J J (fun C=>?_);refine cs 9 J J J (fun hg9=>?_) (fun hg9=>?_)
 .
  refine br J J J (fun hc14=>?_) (fun hc14=>?_)
  .
   refine cl J (Ee m5 m5) J<|rz J (by rw[aCI (e1.1 m5) (e2.1 m5),FP];rfl)
  .
   refine cl J lA J<|cl J lI J<|cl J (vZ (a:=a.num) (b:=zv false b.den) m5 m5) J<|cl J lA J<|cl J lI J<|cl J (vZ (a:=b.num) (b:=zv false a.den) m5 m5) J<|cl J (Ee m5 m5) J<|cl J lA J<|cl J lA J<|cl J (sA m5 m5) J<|cl J (xO hdp m5 m5) J<|rz J (by rw[Cr];rfl)
 .
  refine cl J lA J<|cl J lI J<|cl J (vZ (a:=a.num) (b:=zv false b.den) m5 m5) J<|cl J lA J<|cl J lI J<|cl J (vZ (a:=b.num) (b:=zv false a.den) m5 m5) J<|cl J (Ee m5 m5) J<|cl J lA J<|cl J lA J<|cl J (sA m5 m5) J<|cl J (xO hdp m5 m5) J<|rz J (by rw[Cr];rfl)
def sG{a b:Rat}[ha:BQ a i][hb:BQ b j](hi:i<=20000000:=by decide)(hj:j<=20000000:=by decide):PF GB prog 131 [eQ a,eQ b] (eQ (a-b)):=by
 refine fn func131 J J ntmps131 J J (fun C=>?_);refine cl J (vQ (q:=b)) J<|cl J (oe (a:=a) (b:= -b) hi hj) J<|rz J (by rw[Rat.sub_eq_add_neg];rfl)
def xH{a b:Rat}[ha:BQ a i][hb:BQ b j](hb0:b≠0)(hi:i<=20000000:=by decide)(hj:j<=20000000:=by decide):PF GB prog 129 [eQ a,eQ b] (eQ (a/b)):=by
 have hbp:=PE hb0;have hdp:=iM (nE a) hbp;refine fn func129 J J ntmps129 J J (fun C=>?_);refine cl J lA J<|cl J lI J<|cl J (vZ (a:=a.num) (b:=zv (decide (b.num<0)) b.den) m5 m5) J<|cl J lA J<|cl J (sA (a:=a.den) (b:=b.num.natAbs) m5 m5) J<|cl J (xO (x:=a.num*zv (decide (b.num<0)) b.den) (d:=a.den*b.num.natAbs) hdp m5 m5) J<|rz J (by rw[Te hb0];rfl)
def od{a b:Rat}[ha:BQ a i][hb:BQ b j](hi:i<=20000000:=by decide)(hj:j<=20000000:=by decide):PF GB prog 236 [eQ a,eQ b] (vI (bB a b)):=by
 refine fn func236 J J ntmps236 J J (fun C=>?_);refine cl J (sG hi hj) J<|cl J t6 J<|rz J (by show vI _=vI _;rw[Ev])
def aJ0:((2:Int):Rat)≠0:=by decide
instance BI.two:BI 2 2:=⟨pb⟩
def JW{a:Rat}[ha:BQ a i](hi:i<=20000000:=by decide):PF GB prog 59 [eQ a] (eQ (a/2)):=by
 refine fn func59 J J ntmps59 J J (fun C=>?_);refine cl J (lB (n:=2)) J<|cl J (xH (a:=a) (b:=((2:Int):Rat)) aJ0 hi pb) J<|rz J J
def FS{a b:Rat}[ha:BQ a i][hb:BQ b j](hi:i<=2000000:=by decide)(hj:j<=2000000:=by decide):PF GB prog 235 [eQ a,eQ b] (eQ ((a+b)/2)):=by
 refine fn func235 J J ntmps235 J J (fun C=>?_);refine cl J (oe m5 m5) J<|cl J (JW (a:=a+b) m5) J<|rz J J
def MQ(hg:(g:Int)∣m)(hb:m.natAbs<4611686018427387904):IntKind.i64.wrap (m.tdiv g)=m/g:=by
 rw[Int.tdiv_eq_ediv_of_dvd hg];have:=oU m g;exact Y1 m5
def tm(a b:Int):Int:=if(a*b).natAbs<4611686018427387904 then a*b else 0
def Hf(a b:Int):(tm a b).natAbs<4611686018427387904:=by unfold tm;split<;>omega
def Bs{a b:Int}(h:(a*b).natAbs<4611686018427387904):tm a b=a*b:=if_pos h
def TP{a b:Int}(h: ¬(a*b).natAbs<4611686018427387904:=by omega):DV.tp [vI 0, .v (.bool false)]= .tp [vI (tm a b),vB (decide ((a*b).natAbs<4611686018427387904))]:=by unfold tm;rw[if_neg h,decide_eq_false h];rfl
def NA{a b:Int}{x:Int}(h:(a*b).natAbs<4611686018427387904)(e:x=a*b):DV.tp [vI x, .v (.bool true)]= .tp [vI (tm a b),vB (decide ((a*b).natAbs<4611686018427387904))]:=by unfold tm;rw[if_pos h,decide_eq_true h,e];rfl
def Rd(n:Nat):eI (n:Int)= .ag [.v (.bool false),dN n]:=by unfold eI;rw[decide_eq_false m5,fK]
def aJT{p:Rat}(hp:p.den=1)(hq:q.den=1):rgcd p q=((Nat.gcd p.num.natAbs q.num.natAbs:Nat):Int):=by
 conv=>lhs;rw[Dv hp,Dv hq]
 exact KQ _ _
def aEy(q:Rat):mkRat (zv (decide (q.num<0)) q.den) q.num.natAbs=q⁻¹:=by
 rw[Rat.inv_def];by_cases h:q.num<0
 .rw[decide_eq_true h];exact amB h
 .rw[decide_eq_false h,<-Rat.divInt_ofNat,oS m5];rfl
instance BQ.inv (q:Rat) (i:Nat) [h:BQ q i]:BQ q⁻¹ i:=by
 have h1:=h.hn;have h2:=h.hd;have h3:=q.den_nz;rcases lU q.num 0 with k|k|k
 .obtain⟨e1,e2⟩:=OQ k;exact⟨m5,m5⟩
 .have e:q=0:=lX.1 k
  have e0:(0:Rat)⁻¹=0:=Rat.inv_zero;rw[e] at h1 h2⊢;rw[e0];exact⟨h1,h2⟩
 .obtain⟨e1,e2⟩:=Su k;exact⟨m5,m5⟩
instance BQ.half:BQ (mkRat 1 2) 2:=⟨pb,pb⟩
def aEj{x y:Nat}(hx:x<18446744073709551616)(hy:y<18446744073709551616):PF GB prog 178 [.v (.int .u64 (x:Nat)), .v (.int .u64 (y:Nat))] (.tp [.v (.int .u64 ((x*y/18446744073709551616:Nat):Int)), .v (.int .u64 ((x*y%18446744073709551616:Nat):Int))]):=fun G vs _ hv=>by
 obtain⟨v,m,rfl,h1,h2⟩:=bj.1 hv;obtain⟨u,m',rfl,h3,h4⟩:=bj.1 h2
 cases fj.1 h4
 rw[aO.1 h1,aO.1 h3];exact(aqO hx hy).mono fun v G' _ h=>by subst h;exact lh.2 ⟨_,J, .cons (aO.2 J) (.cons (aO.2 J) .nil)⟩
def Va{a b:Nat}(ha:a<18446744073709551616:=by omega)(hb:b<18446744073709551616:=by omega):PF GB prog 180 [.v (.int .u64 (a:Nat)), .v (.int .u64 (b:Nat))] (.v (.int .u64 (Nat.gcd a b:Nat))):=by
 refine fn func180 J J ntmps180 J J (fun C=>?_);refine lp (X:=Nat×Nat) (fun⟨u,v⟩=>[(1, .d (.v (.int .u64 (v:Nat)))),(0, .d (.v (.int .u64 (u:Nat))))]) (fun⟨u,v⟩=>[]) (fun⟨u,v⟩=>u<18446744073709551616/\v<18446744073709551616/\Nat.gcd u v=Nat.gcd a b) (fun⟨u,v⟩=>v) (a,b) J ⟨ha,hb,J⟩ (fun _=>J) (fun⟨u,v⟩ hk=>?_);dsimp only at hk⊢;obtain⟨h1,h2,h3⟩:=hk;refine br (v1:=fun hc6=>by simp only[ak];exact⟨m5,v6⟩) J J J (fun hc6=>?_) (fun hc6=>?_)
 .
  have hm:=dJ u (show 0<v by omega);exact at_ (v,u%v) (by dsimp only;exact⟨⟨h2,m5,by rw[<-h3,jL u v,uJ v u,jL]⟩,hm⟩)
 .
  exact rz J (by rw[<-h3,show v=0 by omega,oJ];rfl)
def vN(h:m.natAbs<9223372036854775808:=by decide):PF GB prog 105 [vI m] (eF (m:Rat)):=by
 refine fn func105 J J ntmps105 J J (fun C=>?_);refine cs 5 J J J (fun hg5=>?_) (fun hg5=>?_)
 .
  refine cl J (KV (m:=m)) J<|rf (fu:=⟨0⟩) J J<|aj 11 (.d (dN 1)) J okx<|gx J<|cl J (vM (n:=decide (m<0)) (a:=m.natAbs) (i:=63) (h:=⟨h⟩) (d:=1)) J<|rz J okb
 .
  refine br J J J (fun hc8=>?_) (fun hc8=>?_)
  .
   refine cl J (KV (m:=m)) J<|rf (fu:=⟨0⟩) J J<|aj 11 (.d (dN 1)) J okx<|gx J<|cl J (vM (n:=decide (m<0)) (a:=m.natAbs) (i:=63) (h:=⟨h⟩) (d:=1)) J<|rz J okb
  .
   exact jO J (NJ m5)
theorem okY{p:Prop}(h:p:=by simpa using hc26):p:=h
def Ak{a b:Int}(ha:a.natAbs<4611686018427387904:=by omega)(hb:b.natAbs<4611686018427387904:=by omega):PF GB prog 106 [vI a,vI b] (.tp [vI (tm a b),vB (decide ((a*b).natAbs<4611686018427387904))]):=by
 have hab:=fL a b;refine fn func106 J J ntmps106 J J (fun C=>?_);refine cl J (Bp (m:=a)) J<|cl J (Bp (m:=b)) J<|cl J (aEj (x:=a.natAbs) (y:=b.natAbs) m5 m5) J<|cs 18 J J J (fun hg18=>?_) (fun hg18=>?_)
 .
  exact rz J (TP)
 .
  refine br J J J (fun hc21=>?_) (fun hc21=>?_)
  .
   exact rz J (TP)
  .
   refine bb J J J (fun hc26=>?_) (fun hc26=>?_)
   .
    have hs:=TW a b;rw[if_neg okY] at hs;exact rz J (NA m5 (by rw[hs,<-hab];omega))
   .
    have hs:=TW a b;rw[if_pos okY] at hs;exact rz J (NA m5 (by rw[hs,<-hab];omega))
def L0(h:m.natAbs<4611686018427387904)(h0:0<d)(hd:d<4611686018427387904):PF GB prog 107 [vI m,vI (d:Nat)] (eF (mkRat m d)):=by
 have hg:Nat.gcd m.natAbs d<=d:=Nat.gcd_le_right _ h0;have hg0:0<Nat.gcd m.natAbs d:=pZ _ h0;obtain⟨e1,e2⟩:=MH (m:=m) h0;have e3:=oU m (Nat.gcd m.natAbs d:Nat);have e4:=nY d (Nat.gcd m.natAbs d);have e5:=Nat.div_pos hg hg0;refine fn func107 J J ntmps107 J J (fun C=>?_);refine cl J (Bp (m:=m)) J<|cl J (Va (a:=m.natAbs) (b:=d)) J<|br (fu1:=⟨4⟩) J J J (fun hc13=>?_) (fun hc13=>?_)
 .
  refine aj 16 (.d (vI (m/(Nat.gcd m.natAbs d:Nat)))) J (by rw[MQ (Int.dvd_natAbs.1 (sZ.2 (lV _ _))) h];rfl)<|gx (fu:=⟨3⟩) J<|aj 19 (.d (vI ((d/Nat.gcd m.natAbs d:Nat)))) J (by rw[MQ (sZ.2 (mY _ _)) (by rw[fK];exact hd)];rfl)<|gx (hv:=by simp only[ak];exact⟨v6,m5⟩) J<|jO J (uR (fun k=>k ⟨by rw[e1];omega,by rw[e2];omega⟩) e1 (by rw[e2]) J)
 .
  exact jO J (by have h1:Nat.gcd m.natAbs d=1:=m5;rw[h1,uK] at e2;rw[h1,Int.natCast_one,Int.ediv_one] at e1;exact uR (fun k=>k ⟨by rw[e1];omega,by rw[e2];omega⟩) e1 (by rw[e2]) J)
def qd{p:Rat}[h:BQ p i][k:BQ q j](hi:i<=100000000:=by decide)(hj:j<=100000000:=by decide):PF GB prog 194 [eF p,eF q] (eF (p*q)):=by
 refine fn (fu:=⟨8⟩) func194 J J ntmps194 J J (fun C=>?_);refine mg (X:=Unit) (fun _=>[(2, .ov 2 0),(3, .ov 3 0),(4, .ov 4 0)]) (fun _=>[(2,some (.o 101 [.d (vI (ek p)), .d (vI (eo p)), .d (dH p)] true)),(3,some (.o 101 [.d (vI (ek q)), .d (vI (eo q)), .d (dH q)] true)),(4,some (.o 101 [.d (.v (.int .i64 0)), .d (.v (.int .i64 0)), .d (.v (.pointer none))] true))]) (fun _=>True) [2,3,4] [2,3,4] rfl ?_ (fun _=>J) (fun _ _=>?_)
 .
  refine gx J<|cs 12 J J J (fun hg12=>?_) (fun hg12=>?_)
  .
   refine br (fu1:=⟨4⟩) J J J (fun hc16=>?_) (fun hc16=>?_)
   .
    have hp:=uI hg12;have hq:=uI hc16;have p1:=oC hp;have p2:=qG hp;have p3:=rg hp;have p4:=rx hp;have p5:=p.den_nz;have q1:=oC hq;have q2:=qG hq;have q3:=rg hq;have q4:=rx hq;have q5:=q.den_nz;refine aj 19 (.d (vI p.num)) J (by rw[p1])<|gx (fu:=⟨2⟩) J<|aj 21 (.d (vI q.num)) J (by rw[q1])<|gx J<|cl (fu:=⟨12⟩) J (Ak (a:=p.num) (b:=q.num)) J<|aj 28 (.d (vI (p.den:Nat))) J omF<|gx (fu:=⟨3⟩) J<|aj 31 (.d (vI (q.den:Nat))) J omF<|gx J<|cl J (Ak (a:=(p.den:Nat)) (b:=(q.den:Nat))) J<|csd 36 J J J (fun hg36=>?_) (fun hg36=>?_)
    .
     refine bd (fu1:=⟨3⟩) J J J (fun hc38=>?_) (fun hc38=>?_)
     .
      have hd1:p.den*q.den<4611686018427387904:=by omega
      refine aj 39 (.d (vI (p.num*q.num))) J (by rw[Bs hg36])<|gx (fu:=⟨1⟩) J<|aj 40 (.d (vI ((p.den*q.den:Nat)))) J (by rw[Bs hc38];rfl)<|gx J<|cl J (L0 (m:=p.num*q.num) (d:=p.den*q.den) hg36 (iM m5 m5) hd1) J<|rz J (by rw[<-Bx];rfl)
     .
      exact at_ () trivial
    .
     exact at_ () trivial
   .
    exact at_ () trivial
  .
   exact at_ () trivial
 .
  refine cl J (vt (q:=p) m5) J<|cl J (vt (q:=q) m5) J<|cl J (GX (a:=p.num) (b:=q.num) m5 m5) J<|cl J (sr (q:=p) m5) J<|cl J (sr (q:=q) m5) J<|cl J (y6 (a:=p.den) (b:=q.den) m5 m5) J<|cl J (vM (n:=decide (p.num*q.num<0)) (a:=(p.num*q.num).natAbs) (d:=p.den*q.den) (i:=i+j) (j:=i+j) m5 m5) J<|rz J (by rw[mF,<-Bx];rfl)
def sE{p:Rat}[h:BQ p i][k:BQ q j](hi:i<=100000000:=by decide)(hj:j<=100000000:=by decide):PF GB prog 45 [eF p,eF q] (eF (p+q)):=by
 refine fn (fu:=⟨8⟩) func45 J J ntmps45 J J (fun C=>?_);refine mg (X:=Unit) (fun _=>[(2, .ov 2 0),(3, .ov 3 0),(4, .ov 4 0)]) (fun _=>[(2,some (.o 101 [.d (vI (ek p)), .d (vI (eo p)), .d (dH p)] true)),(3,some (.o 101 [.d (vI (ek q)), .d (vI (eo q)), .d (dH q)] true)),(4,some (.o 101 [.d (.v (.int .i64 0)), .d (.v (.int .i64 0)), .d (.v (.pointer none))] true))]) (fun _=>True) [2,3,4] [2,3,4] rfl ?_ (fun _=>J) (fun _ _=>?_)
 .
  refine gx J<|cs 16 J J J (fun hg16=>?_) (fun hg16=>?_)
  .
   refine br (fu1:=⟨1⟩) J J J (fun hc20=>?_) (fun hc20=>?_)
   .
    have hp:=uI hg16;have hq:=uI hc20;have p1:=oC hp;have p2:=qG hp;have p3:=rg hp;have p4:=rx hp;have p5:=p.den_nz;have q1:=oC hq;have q2:=qG hq;have q3:=rg hq;have q4:=rx hq;have q5:=q.den_nz;refine mg (fu:=⟨4⟩) (X:=Unit) (fun _=>[(2, .ov 2 0),(3, .ov 3 0),(4, .ov 4 0)]) (fun _=>[(2,some (.o 101 [.d (vI (ek p)), .d (vI (eo p)), .d (dH p)] true)),(3,some (.o 101 [.d (vI (ek q)), .d (vI (eo q)), .d (dH q)] true)),(4,some (.o 101 [.d (.v (.int .i64 0)), .d (.v (.int .i64 0)), .d (.v (.pointer none))] true))]) (fun _=>True) [2,3,4] [2,3,4] rfl ?_ (fun _=>J) (fun _ _=>?_)
    .
     refine gx J<|cs 24 J J J (fun hg24=>?_) (fun hg24=>?_)
     .
      refine br (fu1:=⟨4⟩) J J J (fun hc28=>?_) (fun hc28=>?_)
      .
       refine aj 30 (.d (vI p.num)) J (by rw[p1])<|gx (fu:=⟨2⟩) J<|aj 32 (.d (vI q.num)) J (by rw[q1])<|gx J<|cl J (vN (m:=p.num+q.num) m5) J<|rz J (by rw[Dv (q:=p),Dv (q:=q),<-lS];rfl)
      .
       exact at_ () trivial
     .
      exact at_ () trivial
    .
     refine aj 37 (.d (vI p.num)) J (by rw[p1])<|gx (fu:=⟨3⟩) J<|aj 40 (.d (vI (q.den:Nat))) J omF<|gx J<|cl (fu:=⟨11⟩) J (Ak (a:=p.num) (b:=(q.den:Nat))) J<|aj 46 (.d (vI q.num)) J (by rw[q1])<|gx (fu:=⟨3⟩) J<|aj 49 (.d (vI (p.den:Nat))) J omF<|gx J<|cl (fu:=⟨12⟩) J (Ak (a:=q.num) (b:=(p.den:Nat))) J<|aj 56 (.d (vI (p.den:Nat))) J omF<|gx (fu:=⟨3⟩) J<|aj 59 (.d (vI (q.den:Nat))) J omF<|gx J<|cl (fu:=⟨3⟩) J (Ak (a:=(p.den:Nat)) (b:=(q.den:Nat))) J<|?_;have t1:=Hf p.num (q.den:Nat);have t2:=Hf q.num (p.den:Nat);have t3:=Hf (p.den:Nat) (q.den:Nat);refine gx J<|csd 67 J J J (fun hg67=>?_) (fun hg67=>?_)
     .
      refine csd 70 J J J (fun hg70=>?_) (fun hg70=>?_)
      .
       refine csd 73 J J J (fun hg73=>?_) (fun hg73=>?_)
       .
        refine cs 77 J J J (fun hg77=>?_) (fun hg77=>?_)
        .
         refine br (fu1:=⟨3⟩) J J J (fun hc80=>?_) (fun hc80=>?_)
         .
          have u1:=Bs hg67;have u2:=Bs hg70;have u3:=Bs hg73;have hd1:p.den*q.den<4611686018427387904:=by omega
          refine aj 81 (.d (vI (p.num*(q.den:Nat)+q.num*(p.den:Nat)))) J (by rw[u1,u2];rfl)<|gx (fu:=⟨1⟩) J<|aj 82 (.d (vI ((p.den*q.den:Nat)))) J (by rw[u3];rfl)<|gx J<|cl J (L0 (m:=p.num*(q.den:Nat)+q.num*(p.den:Nat)) (d:=p.den*q.den) m5 (iM m5 m5) hd1) J<|rz J (by rw[<-Cr];rfl)
         .
          exact at_ () trivial
        .
         exact at_ () trivial
       .
        exact at_ () trivial
      .
       exact at_ () trivial
     .
      exact at_ () trivial
   .
    exact at_ () trivial
  .
   exact at_ () trivial
 .
  refine cl J (vt (q:=p) m5) J<|cl (fu:=⟨1⟩) J (sr (q:=q) m5) J<|aj 88 (.d (eI (q.den:Nat))) J (by rw[Rd])<|gx J<|cl J (GX (a:=p.num) (b:=(q.den:Nat)) m5 m5) J<|cl J (vt (q:=q) m5) J<|cl (fu:=⟨1⟩) J (sr (q:=p) m5) J<|aj 94 (.d (eI (p.den:Nat))) J (by rw[Rd])<|gx J<|cl J (GX (a:=q.num) (b:=(p.den:Nat)) m5 m5) J<|cl J (XF (a:=p.num*(q.den:Nat)) (b:=q.num*(p.den:Nat)) (i:=i+j) (j:=j+i) m5 m5) J<|cl J (sr (q:=p) m5) J<|cl J (sr (q:=q) m5) J<|cl J (y6 (a:=p.den) (b:=q.den) m5 m5) J<|cl J (vM (n:=decide (p.num*(q.den:Nat)+q.num*(p.den:Nat)<0)) (a:=(p.num*(q.den:Nat)+q.num*(p.den:Nat)).natAbs) (d:=p.den*q.den) (i:=i+j+(j+i)+1) (j:=i+j) m5 m5) J<|rz J (by rw[mF,<-Cr];rfl)
def rF{p:Rat}[h:BQ p i][k:BQ q j](hi:i<=100000000:=by decide)(hj:j<=100000000:=by decide):PF GB prog 195 [eF p,eF q] (eF (p-q)):=by
 refine fn func195 J J ntmps195 J J (fun C=>?_);refine cl J (qi (q:=q) m5) J<|cl J (sE (p:=p) (q:= -q) m5 m5) J<|rz J (by rw[<-Rat.sub_eq_add_neg];rfl)
def EW[h:BQ q i](hi:i<=400000000:=by decide):PF GB prog 275 [eF q] (eF q⁻¹):=by
 refine fn func275 J J ntmps275 J J (fun C=>?_);refine br (v1:=fun hc3=>by simp only[ak];exact⟨⟨hc3,hc3⟩,hc3⟩) J J J (fun hc3=>?_) (fun hc3=>?_)
 .
  refine cl J (vM (n:=decide (q.num<0)) (a:=q.den) (d:=q.num.natAbs) m5 m5) J<|rz J (by rw[aEy];rfl)
 .
  have q1:=oC (pg hc3);have q2:=qG (pg hc3);have q3:=rg (pg hc3);have q4:=rx (pg hc3);have q5:=q.den_nz;refine br J J J (fun hc26=>?_) (fun hc26=>?_)
  .
   exact jO rfl (by obtain⟨e1,e2⟩:=OQ (q:=q) m5;exact uR (fun k=>k ⟨m5,m5⟩) m5 m5 rfl)
  .
   refine br J J J (fun hc39=>?_) (fun hc39=>?_)
   .
    exact jO J (by rw[lX.1 (show q.num=0 by omega),Rat.inv_zero];exact Bd)
   .
    exact jO rfl (by obtain⟨e1,e2⟩:=Su (q:=q) m5;exact uR (fun k=>k ⟨m5,m5⟩) m5 m5 rfl)
def B8{p:Rat}[h:BQ p i][k:BQ q j](hi:i<=100000000:=by decide)(hj:j<=100000000:=by decide):PF GB prog 296 [eF p,eF q] (eF (p/q)):=by
 refine fn func296 J J ntmps296 J J (fun C=>?_);refine cl J (EW (q:=q) m5) J<|cl J (qd (p:=p) (q:=q⁻¹) m5 m5) J<|rz J (by rw[Rat.div_def];rfl)
def Ti{q r:DV}{t:List DV}(h: ∀y,Is G r y->Is G q y)(hv:IsLs G (r::t) vs):IsLs G (q::t) vs:=by
 obtain⟨y,m,rfl,h1,h2⟩:=bj.1 hv;exact .cons (h _ h1) h2
def Hw{a q r:DV}{t:List DV}(h: ∀y,Is G r y->Is G q y)(hv:IsLs G (a::r::t) vs):IsLs G (a::q::t) vs:=by
 obtain⟨y,m,rfl,h1,h2⟩:=bj.1 hv;exact .cons h1 (Ti h h2)
def aFi[h:BQ q i](hi:i<=100000000:=by decide):PF GB prog 194 [eF q, .ag [vI 1,vI 1, .v (.pointer none)]] (eF (q*mkRat 1 2)):=
 (qd (p:=q) (q:=mkRat 1 2) hi).ofI fun G vs hv=>Hw (fun y hy=>uR (q:=mkRat 1 2) (fun k=>k ⟨pb,pb⟩) pb pb J G y hy) hv
def OH[h:BQ q i](hi:i<=100000000:=by decide):PF GB prog 115 [eF q] (eF (q*mkRat 1 2)):=by
 refine fn func115 J J ntmps115 J J (fun C=>?_);refine cl J (aFi (q:=q) m5) J<|rz J J
def xZ{p:Rat}[h:BQ p i][k:BQ q j](hi:i<=100000000:=by decide)(hj:j<=100000000:=by decide):PF GB prog 292 [eF p,eF q] (vI (bB p q)):=by
 refine fn func292 J J ntmps292 J J (fun C=>?_);refine cs 8 J J J (fun hg8=>?_) (fun hg8=>?_)
 .
  refine cs 13 J J J (fun hg13=>?_) (fun hg13=>?_)
  .
   refine br J J J (fun hc19=>?_) (fun hc19=>?_)
   .
    have hp:=uI hg8;have hq:=uI hg13;have p1:=oC hp;have p2:=qG hp;have p3:=rg hp;have p4:=rx hp;have p5:=p.den_nz;have q1:=oC hq;have q2:=qG hq;have q3:=rg hq;have q4:=rx hq;have q5:=q.den_nz;have hl:=Tl (a:=p) (b:=q);have hr:=Tl (a:=q) (b:=p);unfold bB;refine br J J J (fun hc20=>?_) (fun hc20=>?_)
    .
     exact rz J (by rw[if_pos (hl.2 m5)];rfl)
    .
     refine br J J J (fun hc26=>?_) (fun hc26=>?_)
     .
      exact rz J (by rw[if_neg (fun e=>by have:=hl.1 e;omega),if_pos (hr.2 m5)];rfl)
     .
      exact rz J (by rw[if_neg (fun e=>by have:=hl.1 e;omega),if_neg (fun e=>by have:=hr.1 e;omega)];rfl)
   .
    refine cl J (rF (p:=p) (q:=q) m5 m5) J<|cl J (l6 (q:=p-q) m5) J<|rz J (by rw[Ev];rfl)
  .
   refine cl J (rF (p:=p) (q:=q) m5 m5) J<|cl J (l6 (q:=p-q) m5) J<|rz J (by rw[Ev];rfl)
 .
  refine cl J (rF (p:=p) (q:=q) m5 m5) J<|cl J (l6 (q:=p-q) m5) J<|rz J (by rw[Ev];rfl)
def DO{p:Rat}[h:BQ p i][k:BQ q j](hi:i<=100000000:=by decide)(hj:j<=100000000:=by decide):PF GB prog 247 [eF p,eF q] (vB (decide (p=q))):=by
 refine fn func247 J J ntmps247 J J (fun C=>?_);refine cl J (xZ (p:=p) (q:=q) hi hj) J<|rz J (by show DV.v (.bool (decide _))= .v (.bool _);congr 2;exact decide_eq_decide.2 (Ce p q))
def aJa{p:Rat}[h:BQ p i][k:BQ q j](hi:i<=100000000:=by decide)(hj:j<=100000000:=by decide):PF GB prog 341 [eF p,eF q] (eF (if p<q then q else p)):=by
 refine fn func341 J J ntmps341 J J (fun C=>?_);refine cl J (xZ (p:=q) (q:=p) hj hi) J<|br J J J (fun hc8=>?_) (fun hc8=>?_)
 .
  exact rz J (by rw[if_pos ((NF q p).1 hc8)];rfl)
 .
  exact rz J (by rw[if_neg (fun e=>hc8 ((NF q p).2 e))];rfl)
def QJ{p:Rat}[h:BQ p i][k:BQ q j](hi:i<=100000000:=by decide)(hj:j<=100000000:=by decide):PF GB prog 276 [eF p,eF q] (eF (if q<p then q else p)):=by
 refine fn func276 J J ntmps276 J J (fun C=>?_);refine cl J (xZ (p:=q) (q:=p) hj hi) J<|br J J J (fun hc8=>?_) (fun hc8=>?_)
 .
  exact rz J (by rw[if_pos ((SN q p).1 hc8)];rfl)
 .
  exact rz J (by rw[if_neg (fun e=>hc8 ((SN q p).2 e))];rfl)
def vr{p:Rat}[h:BQ p i][k:BQ q j](hi:i<=100000000:=by decide)(hj:j<=100000000:=by decide):PF GB prog 267 [eF p,eF q] (eF (rgcd p q)):=by
 refine fn (fu:=⟨8⟩) func267 J J ntmps267 J J (fun C=>?_);refine mg (X:=Unit) (fun _=>[(2, .ov 2 0),(3, .ov 3 0),(4, .ov 4 0)]) (fun _=>[(2,some (.o 101 [.d (vI (ek p)), .d (vI (eo p)), .d (dH p)] true)),(3,some (.o 101 [.d (vI (ek q)), .d (vI (eo q)), .d (dH q)] true)),(4,some (.o 101 [.d (.v (.int .i64 0)), .d (.v (.int .i64 0)), .d (.v (.pointer none))] true))]) (fun _=>True) [2,3,4] [2,3,4] rfl ?_ (fun _=>J) (fun _ _=>?_)
 .
  refine gx J<|cs 10 J J J (fun hg10=>?_) (fun hg10=>?_)
  .
   refine cs 15 J J J (fun hg15=>?_) (fun hg15=>?_)
   .
    have hp:=uI hg10;have hq:=uI hg15;have p1:=oC hp;have p2:=qG hp;have p3:=rg hp;have p4:=rx hp;have p5:=p.den_nz;have q1:=oC hq;have q2:=qG hq;have q3:=rg hq;have q4:=rx hq;have q5:=q.den_nz;refine cs 20 J J J (fun hg20=>?_) (fun hg20=>?_)
    .
     refine br (fu1:=⟨4⟩) J J J (fun hc24=>?_) (fun hc24=>?_)
     .
      have hg:=Kb p3 q3;refine aj 26 (.d (vI p.num)) J (by rw[p1])<|gx J<|cl (fu:=⟨2⟩) J (Bp (m:=p.num)) J<|aj 29 (.d (vI q.num)) J (by rw[q1])<|gx J<|cl J (Bp (m:=q.num)) J<|cl (hv:=by simp only[ak];exact⟨m5,v6⟩) J (Va (a:=p.num.natAbs) (b:=q.num.natAbs)) J<|jO J (by rw[aJT (p:=p) (q:=q) m5 m5];exact NJ (by rw[fK];exact hg))
     .
      exact at_ () trivial
    .
     exact at_ () trivial
   .
    exact at_ () trivial
  .
   exact at_ () trivial
 .
  refine cl J (sr (q:=p) m5) J<|cl J (sr (q:=q) m5) J<|cl J (y6 (a:=p.den) (b:=q.den) m5 m5) J<|cl J (vt (q:=p) m5) J<|cl J (sr (q:=q) m5) J<|cl J (y6 (a:=p.num.natAbs) (b:=q.den) m5 m5) J<|cl J (vt (q:=q) m5) J<|cl J (sr (q:=p) m5) J<|cl J (y6 (a:=q.num.natAbs) (b:=p.den) m5 m5) J<|cl J (IA (a:=p.num.natAbs*q.den) (b:=q.num.natAbs*p.den) (i:=i+j) (j:=j+i) m5 m5) J<|cl J (vM (n:=false) (a:=Nat.gcd (p.num.natAbs*q.den) (q.num.natAbs*p.den)) (d:=p.den*q.den) (i:=i+j+(j+i)) (j:=i+j) m5 m5) J<|rz J J

def cT:Tr->List DV
 | .leaf b=>[.v (.bool true), .v (.bool b), .v (.bool false), .sl [], .v (.bool false), .sl [], .v (.bool false), .sl [], .v (.pointer none), .v (.pointer none)]
 | .node l x y=>[.v (.bool false), .v (.bool false), .v (.bool (decide (l.a<0))),dN l.a.natAbs, .v (.bool (decide (l.b<0))),dN l.b.natAbs, .v (.bool (decide (l.c<0))),dN l.c.natAbs, .pt (cT x), .pt (cT y)]
def eT(t:Tr):DV:= .pt (cT t)
def eN(n:NQ):DV:= .ag [.v (.bool (decide (n.l.a<0))),dN n.l.a.natAbs, .v (.bool (decide (n.l.b<0))),dN n.l.b.natAbs, .v (.bool (decide (n.l.c<0))),dN n.l.c.natAbs, .v (.int .i64 n.a), .v (.int .i64 n.b)]
def eA(t:Tr):DV:= .ag [.v (.int .i64 (t.num 0)), .sl ((t.wr 0).map eN)]
def yR{z:IV}(h:ru k G z m):Is G (.v (.bool (decide (m<0)))) (.bool z.neg)/\Is G (dN m.natAbs) (.slice z.a.a z.a.n z.a.c):=
 ⟨aO.2 (by rw[h.neg]),(O4 h.abs.lt).2 ⟨_,J,h.abs⟩⟩
def Iy{u v:Value}(hm:m.natAbs<2^k)(h1:Is G (.v (.bool (decide (m<0)))) u)(h2:Is G (dN m.natAbs) v): ∃z:IV,u= .bool z.neg/\v= .slice z.a.a z.a.n z.a.c/\ru k G z m:=by
 obtain⟨x,rfl,hx⟩:=(O4 hm).1 h2;exact⟨⟨decide (m<0),x⟩,aO.1 h1,J,J,hx⟩
structure BL (l:ah) (k:Nat):Prop where
 a:l.a.natAbs<2^k
 b:l.b.natAbs<2^k
 c:l.c.natAbs<2^k
def X8{v:Value}(hl:BL l k)(h:Is G (eL l) v): ∃a b c:IV,v= .agg ⟨[.bool a.neg, .slice a.a.a a.a.n a.a.c, .bool b.neg, .slice b.a.a b.a.n b.a.c, .bool c.neg, .slice c.a.a c.a.n c.a.c]⟩/\ru k G a l.a/\ru k G b l.b/\ru k G c l.c:=by
 obtain⟨m,rfl,g⟩:=eD.1 h;clear h;obtain⟨v1,m,rfl,h1,h⟩:=bj.1 g;obtain⟨v2,m,rfl,h2,h⟩:=bj.1 h;obtain⟨v3,m,rfl,h3,h⟩:=bj.1 h;obtain⟨v4,m,rfl,h4,h⟩:=bj.1 h;obtain⟨v5,m,rfl,h5,h⟩:=bj.1 h;obtain⟨v6,m,rfl,h6,h⟩:=bj.1 h;rw[fj] at h;subst h;obtain⟨a,rfl,rfl,ha⟩:=Iy hl.a h1 h2;obtain⟨b,rfl,rfl,hb⟩:=Iy hl.b h3 h4;obtain⟨c,rfl,rfl,hc⟩:=Iy hl.c h5 h6;exact⟨a,b,c,J,ha,hb,hc⟩
def aHp{n:NQ}{z:ND}(h:ul k G z n):Is G (eN n) z.val:=by
 refine eD.2 ⟨_,J, .cons (yR h.a).1 (.cons (yR h.a).2 (.cons (yR h.b).1 (.cons (yR h.b).2 (.cons (yR h.c).1 (.cons (yR h.c).2 (.cons (aO.2 ?_) (.cons (aO.2 ?_) .nil)))))))⟩
 .rw[h.l]
 .rw[h.r]
def No{G:Gh}{k:Nat}: ∀{ns:List NQ} {zs:List ND},i8 (ul k G) zs ns->IsLs G (ns.map eN) (zs.map ND.val)
 |_,_, .nil=> .nil
 |_,_, .cons h t=> .cons (aHp h) (No t)
def aLA(ns:List NQ):dm 8 (ns.map eN):=fun d hd=>by
 obtain⟨n,_,rfl⟩:=aT.1 hd;exact⟨rfl,rfl⟩
def aH8{t:Tr}{x:SV}(h:aNT k G x (t.wr 0)):Is G (eA t) (.agg ⟨[.int .i64 (t.num 0), .slice x.a x.n x.c]⟩):=by
 obtain⟨zs,h1,h2⟩:=h;exact eD.2 ⟨_,J, .cons (aO.2 J) (.cons (il.2 ⟨8,x,_,J,h1,No h2⟩) .nil)⟩
def xh{xs:List ah}(h:i<xs.length:=by omega):(xs.map eL)[(i:Int).toNat]? =some (eL xs[i]):=by simp[h]
def xR(xs:List ah):(xs.map eL).length=xs.length:=aX ..
def avP{α:Type}{xs:List α}{p:α->Prop}(h: ∀x∈xs.take i,p x)(hi:i<xs.length)(hy:p xs[i]): ∀x∈xs.take (i+1),p x:=by
 intro x hx;rw[jY hi] at hx;simp only[aL,aY] at hx;rcases hx with hx|rfl
 .exact h x hx
 .exact hy
def ah.ext'{m:ah}(h1:l.a=m.a:=by omega)(h2:l.b=m.b:=by omega)(h3:l.c=m.c:=by omega):l=m:=by cases l;cases m;simp_all
def eE(ls:List ah):dm 6 (ls.map eL):=fun d hd=>by
 obtain⟨n,_,rfl⟩:=aT.1 hd;exact⟨rfl,rfl⟩
def jq{z:Int}:PF GB prog 161 [eI z] (eQ (z:Rat)):=by
 refine fn func161 J J ntmps161 J J (fun C=>?_);exact rz J (by rw[FP];rfl)
def BV:PF GB prog 96 [eL l] (eL l.rev):=by
 refine fn func96 J J ntmps96 J J (fun C=>?_);refine cl J AZ J<|cl J AZ J<|cl J AZ J<|rz J J
class LB (l:ah):Prop where bl:BL l 96
instance LB.a (l:ah) [h:LB l]:BI l.a 96:=⟨h.bl.a⟩
instance LB.b (l:ah) [h:LB l]:BI l.b 96:=⟨h.bl.b⟩
instance LB.c (l:ah) [h:LB l]:BI l.c 96:=⟨h.bl.c⟩
class aC (p:aa) (k:outParam Nat):Prop where
 x:BQ p.x k
 y:BQ p.y k
instance aC.ix (p:aa) (k:Nat) [h:aC p k]:BQ p.x k:=h.x
instance aC.iy (p:aa) (k:Nat) [h:aC p k]:BQ p.y k:=h.y
instance aC.dir (l:ah) [LB l]:aC l.dir 97:=⟨inferInstanceAs (BQ (l.b:Rat) 97),inferInstanceAs (BQ (-(l.a:Rat)) 97)⟩
instance BQ.dot (p q:aa) (i j:Nat) [aC p i] [aC q j]:BQ (p.dot q) (i+j+(i+j)+1):=inferInstanceAs (BQ (p.x*q.x+p.y*q.y) _)
instance BQ.cross (p q:aa) (i j:Nat) [aC p i] [aC q j]:BQ (p.cross q) (i+j+(i+j)+1):=inferInstanceAs (BQ (p.x*q.y-p.y*q.x) _)
instance aC.mov (p q:aa) (c:Rat) (i j k:Nat) [aC p i] [aC q j] [BQ c k]:aC (cd p q c) (i+(k+j)+1):=⟨inferInstanceAs (BQ (p.x+c*q.x) _),inferInstanceAs (BQ (p.y+c*q.y) _)⟩
instance BQ.value (l:ah) (p:aa) (i:Nat) [LB l] [aC p i]:BQ (l.value p) (96+1+i+(96+1+i)+1+(96+1)+1):=inferInstanceAs (BQ ((l.a:Rat)*p.x+(l.b:Rat)*p.y+(l.c:Rat)) _)
def Rq(h:l.Ne):l.dir.dot l.dir≠0:=by have:=Ba h;grind
def vX:PF GB prog 91 [eL l] (eP l.dir):=by
 refine fn func91 J J ntmps91 J J (fun C=>?_);refine cl J jq J<|cl J jq J<|cl J vQ J<|rz J J
def I6{p q:aa}[hp:aC p i][hq:aC q j](hi:i<=200000:=by decide)(hj:j<=200000:=by decide):PF GB prog 234 [eP p,eP q] (eQ (p.dot q)):=by
 refine fn func234 J J ntmps234 J J (fun C=>?_);refine cl J (jA m5 m5) J<|cl J (jA m5 m5) J<|cl J (oe m5 m5) J<|rz J J
def JU{p q:aa}[hp:aC p i][hq:aC q j](hi:i<=200000:=by decide)(hj:j<=200000:=by decide):PF GB prog 62 [eP p,eP q] (eQ (p.cross q)):=by
 refine fn func62 J J ntmps62 J J (fun C=>?_);refine cl J (jA m5 m5) J<|cl J (jA m5 m5) J<|cl J (sG m5 m5) J<|rz J J
def AA{p q:aa}{c:Rat}[hp:aC p i][hq:aC q j][hc:BQ c k](hi:i<=19000000:=by decide)(hj:j<=9000000:=by decide)(hk:k<=9000000:=by decide):PF GB prog 71 [eP p,eQ c,eP q] (eP (cd p q c)):=by
 refine fn func71 J J ntmps71 J J (fun C=>?_);refine cl J (jA m5 m5) J<|cl J (oe m5 m5) J<|cl J (jA m5 m5) J<|cl J (oe m5 m5) J<|rz J J
def E3{p:aa}[hl:LB l][hp:aC p i](hi:i<=400000:=by decide):PF GB prog 238 [eL l,eP p] (eQ (l.value p)):=by
 refine fn func238 J J ntmps238 J J (fun C=>?_);refine cl J (jq (z:=l.a)) J<|cl J (jA m5 m5) J<|cl J (jq (z:=l.b)) J<|cl J (jA m5 m5) J<|cl J (oe m5 m5) J<|cl J (jq (z:=l.c)) J<|cl J (oe m5 m5) J<|rz J J
def BE{p:aa}[hl:LB l][hp:aC p i](hi:i<=400000:=by decide):PF GB prog 164 [eL l,eP p] (vI (l.value p).num.sign):=by
 refine fn func164 J J ntmps164 J J (fun C=>?_);refine cl J (E3 hi) J<|cl J t6 J<|rz J J
def Di[hl:LB l](hn:l.Ne):PF GB prog 157 [eL l] (eP l.base):=by
 refine fn func157 J J ntmps157 J J (fun C=>?_);refine cl J vX J<|cl J (jq (z:=l.c)) J<|cl J I6 J<|cl J (xH (Rq hn)) J<|cl J vQ J<|cl J (jq (z:=l.a)) J<|cl J jA J<|cl J (jq (z:=l.b)) J<|cl J jA J<|rz J (by rw[<-NW];rfl)
instance aC.base (l:ah) [LB l]:aC l.base 900:=by
 rw[<-NW];constructor
 .exact BQ.mono (inferInstance:BQ (-((l.c:Rat)/l.dir.dot l.dir)*(l.a:Rat)) _)
 .exact BQ.mono (inferInstance:BQ (-((l.c:Rat)/l.dir.dot l.dir)*(l.b:Rat)) _)
def Sp[hl:LB l][ht:BQ t k](hn:l.Ne)(hk:k<=200000:=by decide):PF GB prog 242 [eL l,eQ t] (eP (l.at t)):=by
 refine fn func242 J J ntmps242 J J (fun C=>?_);refine cl J (Di hn) J<|cl J vX J<|cl J (AA pb pb m5) J<|rz J (by rw[<-tf];rfl)
def D0{p:aa}[hl:LB l][hp:aC p k](hn:l.Ne)(hk:k<=200000:=by decide):PF GB prog 256 [eL l,eP p] (eQ (gy l p)):=by
 refine fn func256 J J ntmps256 J J (fun C=>?_);refine cl J vX J<|cl J (I6 m5 pb) J<|cl J (I6 m5 pb) J<|cl J (xH (Rq hn) m5 pb) J<|rz J J
instance BI.crossI (l m:ah) [LB l] [LB m]:BI (crossI l m) 385:=inferInstanceAs (BI (l.a*m.b-m.a*l.b) 385)
instance BI.meetX (l m:ah) [LB l] [LB m]:BI (meetX l m) 385:=inferInstanceAs (BI (l.b*m.c-m.b*l.c) 385)
instance BI.meetY (l m:ah) [LB l] [LB m]:BI (meetY l m) 385:=inferInstanceAs (BI (m.a*l.c-l.a*m.c) 385)
instance aC.imeet (l m:ah) [LB l] [LB m]:aC (dC l m) 772:=by
 unfold dC;split
 .exact⟨BQ.mono (k:=1) ⟨pb,pb⟩,BQ.mono (k:=1) ⟨pb,pb⟩⟩
 .exact⟨inferInstanceAs (BQ ((meetX l m:Rat)/(crossI l m:Rat)) 772),inferInstanceAs (BQ ((meetY l m:Rat)/(crossI l m:Rat)) 772)⟩
def Sf(l m:ah):(((l.a:Rat)*(m.b:Rat)-(m.a:Rat)*(l.b:Rat)).num.sign=0)↔crossI l m=0:=by
 rw[mm,<-w6];exact cS
def UB{m:ah}(h:crossI l m≠0):(l.a:Rat)*(m.b:Rat)-(m.a:Rat)*(l.b:Rat)≠0:=by
 rw[<-w6];exact fun e=>h (cS.1 e)
def Lm{m:ah}[hl:LB l][hm:LB m]:PF GB prog 92 [eL l,eL m] (.tp [eP (dC l m),vB (decide (crossI l m≠0))]):=by
 refine fn func92 J J ntmps92 J J (fun C=>?_);refine cl J (jq (z:=l.a)) J<|cl J (jq (z:=m.b)) J<|cl J jA J<|cl J (jq (z:=m.a)) J<|cl J (jq (z:=l.b)) J<|cl J jA J<|cl J sG J<|cl J t6 J<|br J J J (fun hc26=>?_) (fun hc26=>?_)
 .
  have hcr:=(Sf l m).1 hc26;exact rz J (by unfold dC;rw[if_pos hcr,decide_eq_false (fun e=>e hcr)];show DV.tp [.ag [_, .sl [], .sl [],_, .sl [], .sl []],_]= .tp [eP ⟨0,0⟩,_];unfold eP dD;simp only[show(0:Rat).num=0 from J,show(0:Rat).den=1 from J,lN,pe];rfl)
 .
  have hcr:crossI l m≠0:=fun e=>hc26 ((Sf l m).2 e);refine cl J (jq (z:=l.b)) J<|cl J (jq (z:=m.c)) J<|cl J jA J<|cl J (jq (z:=m.b)) J<|cl J (jq (z:=l.c)) J<|cl J jA J<|cl J sG J<|cl J (jq (z:=m.a)) J<|cl J (jq (z:=l.c)) J<|cl J jA J<|cl J (jq (z:=l.a)) J<|cl J (jq (z:=m.c)) J<|cl J jA J<|cl J sG J<|cl J (xH (UB hcr)) J<|cl J (xH (UB hcr)) J<|rz J (by unfold dC;rw[if_neg hcr,decide_eq_true hcr,Lj,O3,w6];rfl)
def fm(l m:ah):Int:=if(l.a-m.a).sign≠0 then(l.a-m.a).sign else if(l.b-m.b).sign≠0 then(l.b-m.b).sign else(l.c-m.c).sign
def AO(l m:ah):fm l m=0↔l=m:=by
 unfold fm;constructor
 .intro h
  split at h
  .contradiction
  .split at h
   .contradiction
   .rename_i h1 h2
    have a1:=iX.1 (Decidable.not_not.1 h1);have a2:=iX.1 (Decidable.not_not.1 h2);have a3:=iX.1 h;exact ah.ext'
 .rintro rfl
  simp
def x9{m:ah}[hl:LB l][hm:LB m]:PF GB prog 163 [eL l,eL m] (vI (fm l m)):=by
 refine fn func163 J J ntmps163 J J (fun C=>?_);refine cl J (J5 (a:=l.a) (b:=m.a)) J<|br J J J (fun hc13=>?_) (fun hc13=>?_)
 .
  exact rz J (by show vI _=_;unfold fm;rw[if_pos hc13])
 .
  refine cl J (J5 (a:=l.b) (b:=m.b)) J<|br J J J (fun hc21=>?_) (fun hc21=>?_)
  .
   exact rz J (by show vI _=_;unfold fm;rw[if_neg hc13,if_pos hc21])
  .
   refine cl J (J5 (a:=l.c) (b:=m.c)) J<|rz J (by show vI _=_;unfold fm;rw[if_neg hc13,if_neg hc21])
theorem omd{p:Prop}(h:p:=by show vI _=vI _;unfold aa.half;generalize v.x.num.sign=sx at*;generalize v.y.num.sign=sy at*;congr 1;(repeat' split)<;>omega):p:=h
def TL{v:aa}:PF GB prog 289 [eP v] (vI v.half):=by
 refine fn func289 J J ntmps289 J J (fun C=>?_);refine cl J (t6 (q:=v.x)) J<|cl J (t6 (q:=v.y)) J<|cs 13 J J J (fun hg13=>?_) (fun hg13=>?_)
 .
  refine br J J J (fun hc16=>?_) (fun hc16=>?_)
  .
   exact rz J omd
  .
   refine cs 19 J J J (fun hg19=>?_) (fun hg19=>?_)
   .
    exact rz J omd
   .
    refine cs 22 J J J (fun hg22=>?_) (fun hg22=>?_)
    .
     refine br J J J (fun hc26=>?_) (fun hc26=>?_)
     .
      exact rz J omd
     .
      exact rz J omd
    .
     exact rz J omd
 .
  refine cs 19 J J J (fun hg19=>?_) (fun hg19=>?_)
  .
   exact rz J omd
  .
   refine cs 22 J J J (fun hg22=>?_) (fun hg22=>?_)
   .
    refine br J J J (fun hc26=>?_) (fun hc26=>?_)
    .
     exact rz J omd
    .
     exact rz J omd
   .
    exact rz J omd
def W3(z:Int): -1<=z.sign/\z.sign<=1:=by
 rcases lU z 0 with h|h|h
 .rw[dY h];omega
 .rw[h];decide
 .rw[eJ h];omega
def aFa{u v:aa}[hu:aC u i][hv:aC v j](hi:i<=200000:=by decide)(hj:j<=200000:=by decide):PF GB prog 240 [eP u,eP v] (vI (cE u v)):=by
 refine fn func240 J J ntmps240 J J (fun C=>?_);refine cl J (TL (v:=u)) J<|cl J (TL (v:=v)) J<|br J J J (fun hc13=>?_) (fun hc13=>?_)
 .
  refine br J J J (fun hc16=>?_) (fun hc16=>?_)
  .
   exact rz J (by show vI _=vI _;unfold cE;rw[if_pos hc16])
  .
   exact rz J (by show vI _=vI _;unfold cE;rw[if_neg hc16,if_pos m5])
 .
  refine cl J (JU hi hj) J<|cl (hv:=by simp only[ak];exact(by have:=W3 (u.cross v).num;omega)) J t6 J<|rz J (by show vI _=vI _;unfold cE;rw[if_neg m5,if_neg m5])
instance BQ.i1:BQ (((1:Int):Rat)) 2:=⟨pb,pb⟩
def eV(v:ao):DV:= .ag [.v (.bool (decide (v.lo.num<0))),dN v.lo.num.natAbs,dD v.lo.den, .v (.bool (decide (v.hi.num<0))),dN v.hi.num.natAbs,dD v.hi.den, .v (.bool v.nl), .v (.bool v.nh)]
def aIP:eV ao.all= .ag [.v (.bool false), .sl [], .sl [], .v (.bool false), .sl [], .sl [], .v (.bool true), .v (.bool true)]:=by
 unfold eV ao.all dD;simp only[show(0:Rat).num=0 from J,show(0:Rat).den=1 from J,lN,pe];rfl
def Jl:eQ 0= .ag [.v (.bool false), .sl [], .sl []]:=by
 unfold eQ dD;simp only[show(0:Rat).num=0 from J,show(0:Rat).den=1 from J,lN,pe];rfl
def kA(v:ao):Rat:=if v.nl=true/\v.nh=true then 0 else if v.nl=true then v.hi-1 else if v.nh=true then v.lo+1 else(v.lo+v.hi)/2
def LH:PF GB prog 288 [] (eV ao.all):=by
 refine fn func288 J J ntmps288 J J (fun C=>?_);exact rz J (by rw[aIP];rfl)
def aBC[hl:BQ v.lo i][hh:BQ v.hi i](hi:i<=100000:=by decide):PF GB prog 243 [eV v] (eQ (kA v)):=by
 refine fn func243 J J ntmps243 J J (fun C=>?_);refine je 6 J J J (fun hg6=>?_) (fun hg6=>?_)
 .
  refine bb J J J (fun hc3=>?_) (fun hc3=>?_)
  .
   exact rz J (by unfold kA;rw[if_pos ⟨hg6,hc3⟩,Jl];rfl)
  .
   refine bb J J J (fun hc11=>?_) (fun hc11=>?_)
   .
    refine cl J (lB (n:=1)) J<|cl J (sG (a:=v.hi) (b:=((1:Int):Rat)) m5 pb) J<|rz J (by unfold kA;rw[if_neg (by simp[hc3]),if_pos hc11];rfl)
   .
    refine bb J J J (fun hc18=>?_) (fun hc18=>?_)
    .
     refine cl J (lB (n:=1)) J<|cl J (oe (a:=v.lo) (b:=((1:Int):Rat)) m5 pb) J<|rz J (by simp[hg6] at hc11)
    .
     refine cl J (FS (a:=v.lo) (b:=v.hi) m5 m5) J<|rz J (by simp[hg6] at hc11)
 .
  refine bb J J J (fun hc11=>?_) (fun hc11=>?_)
  .
   refine cl J (lB (n:=1)) J<|cl J (sG (a:=v.hi) (b:=((1:Int):Rat)) m5 pb) J<|rz J (by simp[hg6] at hc11)
  .
   refine bb J J J (fun hc18=>?_) (fun hc18=>?_)
   .
    refine cl J (lB (n:=1)) J<|cl J (oe (a:=v.lo) (b:=((1:Int):Rat)) m5 pb) J<|rz J (by unfold kA;rw[if_neg (by simp[hg6]),if_neg (by simp[hg6]),if_pos hc18];rfl)
   .
    refine cl J (FS (a:=v.lo) (b:=v.hi) m5 m5) J<|rz J (by unfold kA;rw[if_neg (by simp[hg6]),if_neg (by simp[hg6]),if_neg (by simp[hc18])];rfl)
theorem BQ.of_fracI(hd:0<D.natAbs)(h:q*((D.natAbs:Nat):Rat)=(n:Rat))(hn:BI n i)(hD:BI D i):BQ q i:=BQ.of_frac hd h hn.h hD.h
theorem DM(h:BI m i)(hij:i<=j:=by decide):BI m j:=⟨cN h.h (bT pb hij)⟩
theorem DA{m:ah}[LB l][LB m](hn:l.Ne)(h:crossI l m≠0):BQ (gy l (dC l m)) 1200:=by
 have e:=auq hn h;have hA:BI (crossI l m*(l.a*l.a+l.b*l.b)) _:=inferInstance;have hB:BI (meetX l m*l.b-meetY l m*l.a) _:=inferInstance;have hne:crossI l m*(l.a*l.a+l.b*l.b)≠0:=by
  intro q;rcases qQ.1 q with q|q
  .exact h q
  .have h1:=Ba hn
   simp only[ah.dir,aa.dot] at h1;have h2:((l.a*l.a+l.b*l.b:Int):Rat)=((0:Int):Rat):=by rw[q]
   rw[lS,cV,cV] at h2;have h3:((0:Int):Rat)=0:=J;rw[h3] at h2;grind
 have hA':=DM (j:=1200) hA;have hB':=DM (j:=1200) hB;generalize crossI l m*(l.a*l.a+l.b*l.b)=D at*;generalize meetX l m*l.b-meetY l m*l.a=M at*;by_cases hD:0<D
 .refine BQ.of_fracI (n:=M) (D:=D) m5 ?_ hB' hA'
  rw[<-e];congr 1;have:((D.natAbs:Nat):Int)=D:=by omega
  rw[<-this];rfl
 .refine BQ.of_fracI (n:= -M) (D:=D) m5 ?_ (BI.neg M 1200 (h:=hB')) hA'
  rw[jV,<-e];have:((D.natAbs:Nat):Rat)= -(D:Rat):=by
   have h1:((D.natAbs:Nat):Int)= -D:=by omega
   rw[<-jV,<-h1];rfl
  rw[this];grind
def Q8(k:Rat):k.num.sign<=0↔ ¬0<k:=by rw[<-kg];omega
def YZ(h1: ¬w.nl=true)(h2: ¬w.nh=true)(h3:0<=bB w.lo w.hi):w.empty=true:=by
 unfold ao.empty;simp[h1,h2,h3]
def aoS(h:w.nl=true):w.empty=false:=by unfold ao.empty;simp[h]
def Zr(h:w.nh=true):w.empty=false:=by unfold ao.empty;simp[h]
def aok(h: ¬0<=bB w.lo w.hi):w.empty=false:=by unfold ao.empty;simp[h]
def gt(l:ah):List ah->ao->ao×Bool
 |[],v=>(v,true)
 |m::t,v=>if m=l then gt l t v else if l.cutB v m=true then gt l t (l.cutV v m) else(l.cutV v m,false)
def xQ{l:ah}: ∀{c:List ah} {v:ao},(gt l c v).2=(gp l c v).isSome
 |[],v=>rfl
 |m::t,v=>by
  rw[gt,Iv];split
  .exact xQ
  .split
   .exact xQ
   .rfl
structure kh (l:ah) (c:List ah) (k:Nat) (v:ao):Prop where
 le:k<=c.length
 p:gp l (c.drop k) v=gp l c ao.all
 e:gt l (c.drop k) v=gt l c ao.all
 z:jc v
 lo:BQ v.lo 1200
 hi:BQ v.hi 1200
def kh.skip{c:List ah}(h:kh l c k v)(hk:k<c.length)(e:c[k]=l):kh l c (k+1) v:=
 ⟨hk,by have:=h.p;rw[bV hk,Iv,if_pos e] at this;exact this,by have:=h.e;rw[bV hk,gt,if_pos e] at this;exact this,h.z,h.lo,h.hi⟩
def kh.cut{c:List ah}(h:kh l c k v)(hk:k<c.length)(e:c[k]≠l)(hb:l.cutB v c[k]=true)(hw:l.cutV v c[k]=w)(z:jc w)(lo:BQ w.lo 1200)(hi:BQ w.hi 1200):kh l c (k+1) w:=
 ⟨hk,by have:=h.p;rw[bV hk,Iv,if_neg e,if_pos hb,hw] at this;exact this,by have:=h.e;rw[bV hk,gt,if_neg e,if_pos hb,hw] at this;exact this,z,lo,hi⟩
def kh.no{c:List ah}(h:kh l c k v)(hk:k<c.length)(e:c[k]≠l)(hb:l.cutB v c[k]=false)(hw:l.cutV v c[k]=w):gt l c ao.all=(w,false):=by
 rw[<-h.e,bV hk,gt,if_neg e,if_neg (by rw[hb];decide),hw]
def kh.yes{c:List ah}(h:kh l c k v)(hk:c.length<=k):gt l c ao.all=(v,true):=by
 rw[<-h.e,jW hk];rfl
def kh.all{l:ah}{c:List ah}:kh l c 0 ao.all:=⟨bK _,by rw[iW],by rw[iW],jc.all,BQ.mono (k:=1) ⟨pb,pb⟩,BQ.mono (k:=1) ⟨pb,pb⟩⟩
def On(h:v.nl=true\/0<bB t v.lo):(⟨t,v.hi,false,v.nh⟩:ao)=qr v t:=by unfold qr;rw[if_pos h]
def Yt(h: ¬v.nl=true)(h2: ¬0<bB t v.lo):v=qr v t:=by unfold qr;rw[if_neg (fun e=>e.elim h h2)]
def Tb(h:v.nh=true\/bB t v.hi<0):(⟨v.lo,t,v.nl,false⟩:ao)=qk v t:=by unfold qk;rw[if_pos h]
def Zo(h: ¬v.nh=true)(h2: ¬bB t v.hi<0):v=qk v t:=by unfold qk;rw[if_neg (fun e=>e.elim h h2)]
def pz(l m:ah)(v:ao):ao:=if 0<(m.dir.cross l.dir).num.sign then qr v (gy l (dC l m)) else qk v (gy l (dC l m))
def Jw{m:ah}[LB l][LB m](hn:l.Ne)(hz:jc v)(hlo:BQ v.lo 1200)(hhi:BQ v.hi 1200)(h0:crossI l m≠0):l.cutV v m=pz l m v/\l.cutB v m=!(pz l m v).empty/\jc (pz l m v)/\BQ (pz l m v).lo 1200/\BQ (pz l m v).hi 1200:=by
 have hb:=DA (l:=l) (m:=m) hn h0;unfold pz;split
 .rename_i h
  obtain⟨_,h1,h2⟩:=aHj hn hz ((kg _).1 h);refine⟨h1,h2,hz.lo' _,?_⟩;unfold qr;split
  .exact⟨hb,hhi⟩
  .exact⟨hlo,hhi⟩
 .rename_i h
  obtain⟨h1,h2⟩:=WU hn hz h0 (fun e=>h ((kg _).2 e));refine⟨h1,h2,hz.hi' _,?_⟩;unfold qk;split
  .exact⟨hlo,hb⟩
  .exact⟨hlo,hhi⟩
theorem Cz{l:ah}[LB l](hn:l.Ne): ∀{c:List ah} {v:ao},(∀m∈c,LB m)->jc v->BQ v.lo 1200->BQ v.hi 1200->BQ (gt l c v).1.lo 1200/\BQ (gt l c v).1.hi 1200
 |[],v,_,_,h1,h2=>⟨h1,h2⟩
 |m::t,v,hc,hz,h1,h2=>by
  haveI:=hc m aQ;have hw:jc (l.cutV v m)/\BQ (l.cutV v m).lo 1200/\BQ (l.cutV v m).hi 1200:=by
   by_cases h0:crossI l m=0
   .rw[(BA (v:=v) h0).1];exact⟨hz,h1,h2⟩
   .obtain⟨u1,_,u3,u4,u5⟩:=Jw (v:=v) hn hz h1 h2 h0
    rw[u1];exact⟨u3,u4,u5⟩
  have hc':=fun m hm=>hc m (aJ _ hm);rw[gt];split
  .exact Cz hn hc' hz h1 h2
  .split
   .exact Cz hn hc' hw.1 hw.2.1 hw.2.2
   .exact hw.2
theorem oms{p:Prop}(h:p:=by dsimp only;exact⟨hinv,m5⟩):p:=h
theorem okN{p:Prop}(h:p:=by rw[hm];rfl):p:=h
def T8{c:List ah}(hc: ∀m∈c,LB m)(hok: ∀m∈c,m.ok)(hn:c.length<=1000)(hi:i<c.length):PF GB prog 239 [.sl (c.map eL),vI (i:Nat)] (.tp [eV (gt (c[i]'hi) c ao.all).1,vB (gt (c[i]'hi) c ao.all).2]):=by
 have hcl:=xR c;obtain⟨l,hl⟩: ∃l,l=c[i]:=⟨_,rfl⟩;rw[<-hl];haveI hlb:LB l:=hl▸hc _ (cK hi);have hlo:l.ok:=hl▸hok _ (cK hi);refine fn func239 J J ntmps239 J J (fun C=>?_);refine ix (fu:=⟨1⟩) _ J (xh hi) J<|aj 16 (.d (eL l)) J (by rw[hl];rfl)<|gx J<|cl (fu:=⟨9⟩) J LH J<|aj 19 (.d (vI (c.length:Nat))) J (by rw[hcl];rfl)<|gx J<|lp (X:=ao×Nat) (fun⟨v,k⟩=>[(20, .d (vI (k:Nat))),(19, .d (vI (c.length:Nat))),(18, .d (.sl (c.map eL))),(1, .d (vI (i:Nat))),(6, .ov 6 0),(7, .ov 7 0),(4, .ov 4 0)]) (fun⟨v,k⟩=>[(7,some (.o 205 [.d ((.v (.bool (decide (v.lo.num<0))))), .d (dN v.lo.num.natAbs), .d (dD v.lo.den), .d ((.v (.bool (decide (v.hi.num<0))))), .d (dN v.hi.num.natAbs), .d (dD v.hi.den), .d ((.v (.bool v.nl))), .d ((.v (.bool v.nh)))] true)),(6,some (.o 136 [.d ((.v (.bool (decide (l.a<0))))), .d (dN l.a.natAbs), .d ((.v (.bool (decide (l.b<0))))), .d (dN l.b.natAbs), .d ((.v (.bool (decide (l.c<0))))), .d (dN l.c.natAbs)] true)),(4,some (.o 205 [.ff, .nl, .nl, .ff, .nl, .nl, .ff, .ff] true))]) (fun⟨v,k⟩=>kh l c k v) (fun⟨v,k⟩=>c.length-k) ⟨ao.all,0⟩ J kh.all (fun _=>J) (fun⟨v,k⟩ hk=>?_)
 try dsimp only at hk⊢
 have hS:=hk;refine br J J J (fun hc21=>?_) (fun hc21=>?_)
 .
  have hk:k<c.length:=by omega
  obtain⟨m,hm⟩: ∃m,m=c[k]:=⟨_,rfl⟩;haveI hmb:LB m:=hm▸hc _ (cK hk);have hmo:m.ok:=hm▸hok _ (cK hk);refine ix (fu:=⟨1⟩) _ J (xh hk) J<|aj 24 (.d (eL m)) J okN<|gx J<|cs 28 J J J (fun hg28=>?_) (fun hg28=>?_)
  .
   have hinv:kh l c (k+1) v:=hS.skip hk (by rw[hl];congr 1;omega);exact at_ ⟨v,k+1⟩ oms
  .
   refine cl J (x9 (l:=l) (m:=m)) J<|br J J J (fun hc33=>?_) (fun hc33=>?_)
   .
    have hinv:kh l c (k+1) v:=hS.skip hk (by rw[<-hm,(AO l m).1 hc33]);exact at_ ⟨v,k+1⟩ oms
   .
    have hne:c[k]≠l:=fun e=>hc33 ((AO l m).2 (by rw[hm,e]));refine cl (fu:=⟨13⟩) J (Lm (l:=l) (m:=m)) J<|aj 41 (.d (.v (.bool (decide (crossI l m=0))))) J vb<|gx J<|bd J J J (fun hc41=>?_) (fun hc41=>?_)
    .
     refine cl J (Di hlo.ne) J<|cl J (BE (l:=m) (p:=l.base)) J<|br J J J (fun hc46=>?_) (fun hc46=>?_)
     .
      have hno:=hS.no (w:=v) hk hne (by have:=(BA (v:=v) hc41).2;rw[<-hm];cases hb:l.cutB v m with|false=>rfl|true=>exact absurd (this.1 hb) ((Q8 _).1 hc46)) (by rw[<-hm];exact(BA (v:=v) hc41).1);exact rz J (by rw[hno];rfl)
     .
      have hinv:kh l c (k+1) v:=by have:=BA (v:=v) hc41;exact hS.cut hk hne (by rw[<-hm];exact this.2.2 (by have:=mt (Q8 (m.value l.base)).2 hc46;exact Decidable.not_not.1 this)) (by rw[<-hm];exact this.1) hS.z hS.lo hS.hi
      exact at_ ⟨v,k+1⟩ oms
    .
     obtain⟨u1,u2,u3,u4,u5⟩:=Jw (v:=v) hlo.ne hS.z hS.lo hS.hi hc41;haveI htb:=DA hlo.ne hc41;haveI hvl:=hS.lo;haveI hvh:=hS.hi;refine cl (fu:=⟨0⟩) J (D0 (l:=l) (p:=dC l m) hlo.ne) J<|?_;obtain⟨t,ht⟩: ∃t,t=gy l (dC l m):=⟨_,rfl⟩;refine aj 50 (.d (eQ t)) J (by rw[ht]) ?_;rw[<-ht] at htb;refine gx (fu:=⟨5⟩) J<|mg (X:=ao) (fun w=>[(20, .d (vI (k:Nat))),(19, .d (vI (c.length:Nat))),(18, .d (.sl (c.map eL))),(1, .d (vI (i:Nat))),(6, .ov 6 0),(7, .ov 7 0),(4, .ov 4 0)]) (fun w=>[(7,some (.o 205 [.d ((.v (.bool (decide (w.lo.num<0))))), .d (dN w.lo.num.natAbs), .d (dD w.lo.den), .d ((.v (.bool (decide (w.hi.num<0))))), .d (dN w.hi.num.natAbs), .d (dD w.hi.den), .d ((.v (.bool w.nl))), .d ((.v (.bool w.nh)))] true)),(6,some (.o 136 [.d ((.v (.bool (decide (l.a<0))))), .d (dN l.a.natAbs), .d ((.v (.bool (decide (l.b<0))))), .d (dN l.b.natAbs), .d ((.v (.bool (decide (l.c<0))))), .d (dN l.c.natAbs)] true)),(4,some (.o 205 [.ff, .nl, .nl, .ff, .nl, .nl, .ff, .ff] true))]) (fun w=>w=pz l m v) [20,19,18,1,6,7,4] [7,6,4] rfl ?_ (fun _=>J) (fun w hw=>?_)
     .
      refine gx J<|cl J (vX (l:=m)) J<|cl J (vX (l:=l)) J<|cl J (JU (p:=m.dir) (q:=l.dir)) J<|cl J (t6 (q:=m.dir.cross l.dir)) J<|br J J J (fun hc57=>?_) (fun hc57=>?_)
      .
       refine je 60 J J J (fun hg60=>?_) (fun hg60=>?_)
       .
        refine CS 7 J J J<|at_ ⟨t,v.hi,false,v.nh⟩ (by unfold pz;rw[if_pos hc57,<-ht];exact On (.inl hg60))
       .
        refine cl J (od (a:=t) (b:=v.lo)) J<|br J J J (fun hc66=>?_) (fun hc66=>?_)
        .
         refine CS 7 J J J<|at_ ⟨t,v.hi,false,v.nh⟩ (by unfold pz;rw[if_pos hc57,<-ht];exact On (.inr hc66))
        .
         exact at_ v (by unfold pz;rw[if_pos hc57,<-ht];exact Yt (by simp[hg60]) hc66)
      .
       refine je 72 J J J (fun hg72=>?_) (fun hg72=>?_)
       .
        refine CS 7 J J J<|at_ ⟨v.lo,t,v.nl,false⟩ (by unfold pz;rw[if_neg hc57,<-ht];exact Tb (.inl hg72))
       .
        refine cl J (od (a:=t) (b:=v.hi)) J<|br J J J (fun hc78=>?_) (fun hc78=>?_)
        .
         refine CS 7 J J J<|at_ ⟨v.lo,t,v.nl,false⟩ (by unfold pz;rw[if_neg hc57,<-ht];exact Tb (.inr hc78))
        .
         exact at_ v (by unfold pz;rw[if_neg hc57,<-ht];exact Zo (by simp[hg72]) hc78)
     .
      rw[<-hw] at u1 u2 u3 u4 u5;haveI:=u4;haveI:=u5;refine je 85 J J J (fun hg85=>?_) (fun hg85=>?_)
      .
       refine je 90 J J J (fun hg90=>?_) (fun hg90=>?_)
       .
        refine cl J (od (a:=w.lo) (b:=w.hi)) J<|br J J J (fun hc97=>?_) (fun hc97=>?_)
        .
         have hno:=hS.no (w:=w) hk hne (by rw[<-hm,u2,YZ (by simpa using hg85) (by simpa using hg90) hc97];rfl) (by rw[<-hm,u1]);exact rz J (by rw[hno];rfl)
        .
         have hinv:kh l c (k+1) w:=hS.cut hk hne (by rw[<-hm,u2,aok hc97];rfl) (by rw[<-hm,u1]) u3 u4 u5;exact at_ ⟨w,k+1⟩ oms
       .
        have hinv:kh l c (k+1) w:=hS.cut hk hne (by rw[<-hm,u2,Zr (by simpa using hg90)];rfl) (by rw[<-hm,u1]) u3 u4 u5;exact at_ ⟨w,k+1⟩ oms
      .
       have hinv:kh l c (k+1) w:=hS.cut hk hne (by rw[<-hm,u2,aoS (by simpa using hg85)];rfl) (by rw[<-hm,u1]) u3 u4 u5;exact at_ ⟨w,k+1⟩ oms
 .
  exact rz J (by rw[hS.yes m5];rfl)
def dt(l:ah):DV:= .ag [vI (ek (l.a:Rat)),vI (eo (l.a:Rat)),dH (l.a:Rat),vI (ek (l.b:Rat)),vI (eo (l.b:Rat)),dH (l.b:Rat),vI (ek (l.c:Rat)),vI (eo (l.c:Rat)),dH (l.c:Rat)]
def eZ(p:aa):DV:= .ag [vI (ek p.x),vI (eo p.x),dH p.x,vI (ek p.y),vI (eo p.y),dH p.y]
def eW(v:ao):DV:= .ag [vI (ek v.lo),vI (eo v.lo),dH v.lo,vI (ek v.hi),vI (eo v.hi),dH v.hi, .v (.bool v.nl), .v (.bool v.nh)]
def Fj{t:List DV}(h:IsLs G (vI 0::vI 0:: .v (.pointer none)::t) vs):IsLs G (vI (ek 0)::vI (eo 0)::dH 0::t) vs:=by
 obtain⟨y1,l1,rfl,k1,g1⟩:=bj.1 h;obtain⟨y2,l2,rfl,k2,g2⟩:=bj.1 g1;obtain⟨y3,l3,rfl,k3,g3⟩:=bj.1 g2;have e:decide (ip 0)=false:=decide_eq_false fun h=>He h J;exact .cons k1 (.cons k2 (.cons (vg.2 (.inl ⟨e,aO.1 k3⟩)) g3))
def IC(a:List DV){t:List DV}(h:IsLs G (a++vI 0::vI 0:: .v (.pointer none)::t) vs):IsLs G (a++vI (ek 0)::vI (eo 0)::dH 0::t) vs:=by
 obtain⟨x,y,rfl,h1,h2⟩:=h.unapp;exact h1.app (Fj h2)
def aKG(G:Gh)(y:Value)(k:Is G (.ag [vI 0,vI 0, .v (.pointer none),vI 0,vI 0, .v (.pointer none), .v (.bool true), .v (.bool true)]) y):Is G (eW ao.all) y:=by
 obtain⟨l,rfl,g⟩:=eD.1 k;exact eD.2 ⟨l,J,Fj (IC [vI 0,vI 0, .v (.pointer none)] g)⟩
def qB:List Int->Int
 |[]=>0
 |a::t=>if a≠0 then a else qB t
theorem aC.nor(l:ah)[LB l]:aC l.nor 97:=⟨inferInstanceAs (BQ (l.a:Rat) 97),inferInstanceAs (BQ (l.b:Rat) 97)⟩
attribute [instance] aC.nor
instance aC.scale (p:aa) (c:Rat) (i k:Nat) [aC p i] [BQ c k]:aC (p.scale c) (i+k):=⟨inferInstanceAs (BQ (p.x*c) _),inferInstanceAs (BQ (p.y*c) _)⟩
instance aC.add (p q:aa) (i j:Nat) [aC p i] [aC q j]:aC (p.add q) (i+j+1):=⟨inferInstanceAs (BQ (p.x+q.x) _),inferInstanceAs (BQ (p.y+q.y) _)⟩
instance LB.revA (l:ah) [h:LB l]:LB l.rev:=⟨⟨by rw[show l.rev.a= -l.a from J,jX];exact h.bl.a,by rw[show l.rev.b= -l.b from J,jX];exact h.bl.b,by rw[show l.rev.c= -l.c from J,jX];exact h.bl.c⟩⟩
def aME:PF GB prog 326 [] (eW ao.all):=by
 refine fn func326 J J ntmps326 J J (fun C=>?_);exact jO J aKG
def vJ:PF GB prog 216 [dt l] (eZ l.nor):=by
 refine fn func216 J J ntmps216 J J (fun C=>?_);exact rz J J
def wC[hl:LB l]:PF GB prog 231 [dt l] (eZ l.dir):=by
 refine fn func231 J J ntmps231 J J (fun C=>?_);refine cl J (qi (q:=(l.a:Rat))) J<|rz J J
def uN{p q:aa}[hp:aC p i][hq:aC q j](hi:i<=40000000:=by decide)(hj:j<=40000000:=by decide):PF GB prog 221 [eZ p,eZ q] (eF (p.dot q)):=by
 refine fn func221 J J ntmps221 J J (fun C=>?_);refine cl J (qd (p:=p.x) (q:=q.x) m5 m5) J<|cl J (qd (p:=p.y) (q:=q.y) m5 m5) J<|cl J (sE (p:=p.x*q.x) (q:=p.y*q.y) m5 m5) J<|rz J J
def A8{p q:aa}[hp:aC p i][hq:aC q j](hi:i<=40000000:=by decide)(hj:j<=40000000:=by decide):PF GB prog 114 [eZ p,eZ q] (eF (p.cross q)):=by
 refine fn func114 J J ntmps114 J J (fun C=>?_);refine cl J (qd (p:=p.x) (q:=q.y) m5 m5) J<|cl J (qd (p:=p.y) (q:=q.x) m5 m5) J<|cl J (rF (p:=p.x*q.y) (q:=p.y*q.x) m5 m5) J<|rz J J
def J8{p:aa}{c:Rat}[hp:aC p i][hc:BQ c j](hi:i<=40000000:=by decide)(hj:j<=40000000:=by decide):PF GB prog 287 [eZ p,eF c] (eZ (p.scale c)):=by
 refine fn func287 J J ntmps287 J J (fun C=>?_);refine cl J (qd (p:=p.x) (q:=c) m5 m5) J<|cl J (qd (p:=p.y) (q:=c) m5 m5) J<|rz J J
def LD{p q:aa}[hp:aC p i][hq:aC q j](hi:i<=40000000:=by decide)(hj:j<=40000000:=by decide):PF GB prog 225 [eZ p,eZ q] (eZ (p.add q)):=by
 refine fn func225 J J ntmps225 J J (fun C=>?_);refine cl J (sE m5 m5) J<|cl J (sE m5 m5) J<|rz J J
def PO[hl:LB l]:PF GB prog 304 [dt l] (eZ l.base):=by
 refine fn func304 J J ntmps304 J J (fun C=>?_);refine cl J vJ J<|cl J (qi (q:=(l.c:Rat))) J<|cl J (uN (p:=l.nor) (q:=l.nor)) J<|cl J (B8 (p:= -(l.c:Rat)) (q:=l.nor.dot l.nor)) J<|cl J (J8 (p:=l.nor)) J<|rz J J
def NS{p:aa}[hl:LB l][hp:aC p i](hi:i<=10000000:=by decide):PF GB prog 286 [dt l,eZ p] (eF (l.value p)):=by
 refine fn func286 J J ntmps286 J J (fun C=>?_);refine cl J (vJ (l:=l)) J<|cl J (uN (p:=l.nor) (q:=p) m5 m5) J<|cl J (sE (p:=l.nor.dot p) (q:=(l.c:Rat)) m5 m5) J<|rz J J
def Aw{p:aa}[hl:LB l][hp:aC p i](hi:i<=10000000:=by decide):PF GB prog 230 [dt l,eZ p] (vI (l.value p).num.sign):=by
 refine fn func230 J J ntmps230 J J (fun C=>?_);refine cl J (NS (l:=l) (p:=p) hi) J<|cl J (l6 (q:=l.value p) m5) J<|rz J J
def Rl[hl:LB l][ht:BQ t i](hi:i<=10000000:=by decide):PF GB prog 277 [dt l,eF t] (eZ (l.at t)):=by
 refine fn func277 J J ntmps277 J J (fun C=>?_);refine cl J (PO (l:=l)) J<|cl J (wC (l:=l)) J<|cl J (J8 (p:=l.dir) (c:=t) m5 m5) J<|cl J (LD (p:=l.base) (q:=l.dir.scale t) m5 m5) J<|rz J J
theorem okv{p:Prop}(h:p:=by unfold ao.empty;simp_all [vB,gg]):p:=h
def XG[h1:BQ v.lo i][h2:BQ v.hi j](hi:i<=40000000:=by decide)(hj:j<=40000000:=by decide):PF GB prog 342 [eW v] (vB v.empty):=by
 refine fn func342 J J ntmps342 J J (fun C=>?_);refine je 6 J J J (fun hg6=>?_) (fun hg6=>?_)
 .
  refine je 11 J J J (fun hg11=>?_) (fun hg11=>?_)
  .
   refine cl J (xZ (p:=v.lo) (q:=v.hi) m5 m5) J<|rz J okv
  .
   exact rz J okv
 .
  exact rz J okv
instance ao.meet_lo (v w:ao) (i j:Nat) [h1:BQ v.lo i] [h3:BQ w.lo j]:BQ (v.meet w).lo (i+j):=by
 have a:=h1.mono (pY i j);have b:=h3.mono (Nat.le_add_left j i);unfold ao.meet;dsimp only;(repeat' split)<;>assumption
instance ao.meet_hi (v w:ao) (i j:Nat) [h1:BQ v.hi i] [h3:BQ w.hi j]:BQ (v.meet w).hi (i+j):=by
 have a:=h1.mono (pY i j);have b:=h3.mono (Nat.le_add_left j i);unfold ao.meet;dsimp only;(repeat' split)<;>assumption
def QH[h1:BQ v.lo i][h2:BQ v.hi i][h3:BQ w.lo j][h4:BQ w.hi j](hi:i<=10000000:=by decide)(hj:j<=10000000:=by decide):PF GB prog 328 [eW v,eW w] (.tp [eW (v.meet w),vB (!(v.meet w).empty)]):=by
 refine fn (fu:=⟨16⟩) func328 J J ntmps328 J J (fun C=>?_);refine mg (fu:=⟨1⟩) (X:=Unit) (fun _=>[(6, .ov 6 0)]) (fun _=>[(6,some (.o 328 [.d (vI (ek (v.meet w).lo)), .d (vI (eo (v.meet w).lo)), .d (dH (v.meet w).lo), .d (vI (ek v.hi)), .d (vI (eo v.hi)), .d (dH v.hi), .d (.v (.bool (v.nl&&w.nl))), .d (.v (.bool (v.nh)))] true))]) (fun _=>True) [6] [6] rfl ?_ (fun _=>J) (fun _ _=>?_)
 .
  refine gx J<|bb (v1:=fun hc8=>by simp only[ak];kernel_rfl) J J J (fun hc8=>?_) (fun hc8=>?_)
  .
   have em:(v.meet w).lo=w.lo:=by unfold ao.meet;simp_all
   have eb:(v.nl&&w.nl)=w.nl:=by simp_all
   exact at_ () trivial (hO:=⟨by rw[em,eb]<;>rfl,by repeat (first|exact trivial|refine And.intro J ?_)⟩)
  .
   refine bb J J J (fun hc17=>?_) (fun hc17=>?_)
   .
    refine cl J (aJa (p:=v.lo) (q:=w.lo) m5 m5) J<|?_;have em:(v.meet w).lo=(if v.lo<w.lo then w.lo else v.lo):=by unfold ao.meet;simp_all
    have eb:(v.nl&&w.nl)=v.nl:=by simp_all
    exact at_ () trivial (hO:=⟨by rw[em,eb]<;>rfl,by repeat (first|exact trivial|refine And.intro J ?_)⟩)
   .
    have em:(v.meet w).lo=v.lo:=by unfold ao.meet;simp_all
    have eb:(v.nl&&w.nl)=v.nl:=by simp_all
    exact at_ () trivial (hO:=⟨by rw[em,eb]<;>rfl,by repeat (first|exact trivial|refine And.intro J ?_)⟩)
 .
  refine mg (X:=Unit) (fun _=>[(6, .ov 6 0)]) (fun _=>[(6,some (.o 328 [.d (vI (ek (v.meet w).lo)), .d (vI (eo (v.meet w).lo)), .d (dH (v.meet w).lo), .d (vI (ek (v.meet w).hi)), .d (vI (eo (v.meet w).hi)), .d (dH (v.meet w).hi), .d (.v (.bool (v.nl&&w.nl))), .d (.v (.bool (v.nh&&w.nh)))] true))]) (fun _=>True) [6] [6] rfl ?_ (fun _=>J) (fun _ _=>?_)
  .
   refine gx J<|bb (v1:=fun hc27=>by simp only[ak];kernel_rfl) J J J (fun hc27=>?_) (fun hc27=>?_)
   .
    have em:(v.meet w).hi=w.hi:=by unfold ao.meet;simp_all
    have eb:(v.nh&&w.nh)=w.nh:=by simp_all
    exact at_ () trivial (hO:=⟨by rw[em,eb]<;>rfl,by repeat (first|exact trivial|refine And.intro J ?_)⟩)
   .
    refine bb J J J (fun hc36=>?_) (fun hc36=>?_)
    .
     refine cl J (QJ (p:=v.hi) (q:=w.hi) m5 m5) J<|?_;have em:(v.meet w).hi=(if w.hi<v.hi then w.hi else v.hi):=by unfold ao.meet;simp_all
     have eb:(v.nh&&w.nh)=v.nh:=by simp_all
     exact at_ () trivial (hO:=⟨by rw[em,eb]<;>rfl,by repeat (first|exact trivial|refine And.intro J ?_)⟩)
    .
     have em:(v.meet w).hi=v.hi:=by unfold ao.meet;simp_all
     have eb:(v.nh&&w.nh)=v.nh:=by simp_all
     exact at_ () trivial (hO:=⟨by rw[em,eb]<;>rfl,by repeat (first|exact trivial|refine And.intro J ?_)⟩)
  .
   refine cl J (XG (v:=v.meet w) (i:=i+j) (j:=i+j) m5 m5) J<|rz J J
theorem BQ.z1:BQ (0:Rat) 1:=⟨pb,pb⟩
def ZJ[h1:BQ v.lo i][h2:BQ v.hi i][h3:BQ t j](hi:i<=10000000:=by decide)(hj:j<=9999999:=by decide):PF GB prog 328 [eW v, .ag [vI (ek t),vI (eo t),dH t,vI 0,vI 0, .v (.pointer none), .v (.bool false), .v (.bool true)]] (.tp [eW (v.meet ⟨t,0,false,true⟩),vB (!(v.meet ⟨t,0,false,true⟩).empty)]):=
 (QH (v:=v) (w:=⟨t,0,false,true⟩) (j:=j+1) (h3:=h3.mono m5) (h4:=BQ.z1.mono m5) hi m5).ofI fun G vs hv=>Hw (fun y hy=>by
  obtain⟨l,rfl,g⟩:=eD.1 hy;exact eD.2 ⟨l,J,IC [_,_,_] g⟩) hv
def V7[h1:BQ v.lo i][h2:BQ v.hi i][h3:BQ t j](hi:i<=10000000:=by decide)(hj:j<=9999999:=by decide):PF GB prog 328 [eW v, .ag [vI 0,vI 0, .v (.pointer none),vI (ek t),vI (eo t),dH t, .v (.bool true), .v (.bool false)]] (.tp [eW (v.meet ⟨0,t,true,false⟩),vB (!(v.meet ⟨0,t,true,false⟩).empty)]):=
 (QH (v:=v) (w:=⟨0,t,true,false⟩) (j:=j+1) (h4:=h3.mono m5) (h3:=BQ.z1.mono m5) hi m5).ofI fun G vs hv=>Hw (fun y hy=>by
  obtain⟨l,rfl,g⟩:=eD.1 hy;exact eD.2 ⟨l,J,Fj g⟩) hv
instance BQ.cutK (l m:ah) [LB l] [LB m]:BQ (l.cutK m) 400:=BQ.mono (inferInstance:BQ (m.nor.dot l.dir) _)
instance BQ.cutC (l m:ah) [LB l] [LB m]:BQ (l.cutC m) 2500:=BQ.mono (inferInstance:BQ (m.value l.base) _)
def PK{m:ah}[hl:LB l][hm:LB m][h1:BQ v.lo i][h2:BQ v.hi i](hi:i<=10000000:=by decide):PF GB prog 307 [dt l,eW v,dt m] (.tp [eW (l.cutV v m),vB (l.cutB v m)]):=by
 refine fn func307 J J ntmps307 J J (fun C=>?_);refine cl J (vJ (l:=m)) J<|cl J (wC (l:=l)) J<|cl J (uN (p:=m.nor) (q:=l.dir)) J<|cl J (PO (l:=l)) J<|cl J (NS (l:=m) (p:=l.base)) J<|cl J (l6 (q:=l.cutK m)) J<|br J J J (fun hc21=>?_) (fun hc21=>?_)
 .
  refine cl J (l6 (q:=l.cutC m)) J<|rz J (by unfold ah.cutV ah.cutB;rw[if_pos hc21,if_pos hc21];rfl)
 .
  refine br J J J (fun hc27=>?_) (fun hc27=>?_)
  .
   refine cl J (B8 (p:=l.cutC m) (q:=l.cutK m)) J<|cl J (qi (q:=l.cutC m/l.cutK m)) J<|cl J (ZJ (v:=v) (t:= -(l.cutC m/l.cutK m)) hi) J<|rz J (by unfold ah.cutB ah.cutV;rw[if_neg hc21,if_neg hc21,if_pos hc27];rfl)
  .
   refine cl J (B8 (p:=l.cutC m) (q:=l.cutK m)) J<|cl J (qi (q:=l.cutC m/l.cutK m)) J<|cl J (V7 (v:=v) (t:= -(l.cutC m/l.cutK m)) hi) J<|rz J (by unfold ah.cutB ah.cutV;rw[if_neg hc21,if_neg hc21,if_neg hc27];rfl)
theorem omw{p:Prop}(h:p:=by unfold ao.sample;simp_all [gg]<;>rfl):p:=h
def RZ[h1:BQ v.lo i][h2:BQ v.hi i](hi:i<=10000000:=by decide):PF GB prog 278 [eW v] (eF v.sample):=by
 refine fn func278 J J ntmps278 J J (fun C=>?_);refine je 6 J J J (fun hg6=>?_) (fun hg6=>?_)
 .
  refine bb J J J (fun hc3=>?_) (fun hc3=>?_)
  .
   exact jO J (by unfold ao.sample;rw[hg6,hc3];exact Bd)
  .
   refine bb J J J (fun hc11=>?_) (fun hc11=>?_)
   .
    refine cl J (vN (m:=1)) J<|cl J (rF (p:=v.hi) (q:=((1:Int):Rat)) m5 pb) J<|rz J omw
   .
    refine bb J J J (fun hc18=>?_) (fun hc18=>?_)
    .
     refine cl J (vN (m:=1)) J<|cl J (sE (p:=v.lo) (q:=((1:Int):Rat)) m5 pb) J<|rz J omw
    .
     refine cl J (sE (p:=v.lo) (q:=v.hi) m5 m5) J<|cl J (OH (q:=v.lo+v.hi) m5) J<|rz J omw
 .
  refine bb J J J (fun hc11=>?_) (fun hc11=>?_)
  .
   refine cl J (vN (m:=1)) J<|cl J (rF (p:=v.hi) (q:=((1:Int):Rat)) m5 pb) J<|rz J omw
  .
   refine bb J J J (fun hc18=>?_) (fun hc18=>?_)
   .
    refine cl J (vN (m:=1)) J<|cl J (sE (p:=v.lo) (q:=((1:Int):Rat)) m5 pb) J<|rz J omw
   .
    refine cl J (sE (p:=v.lo) (q:=v.hi) m5 m5) J<|cl J (OH (q:=v.lo+v.hi) m5) J<|rz J omw
end Go.Sx
end
