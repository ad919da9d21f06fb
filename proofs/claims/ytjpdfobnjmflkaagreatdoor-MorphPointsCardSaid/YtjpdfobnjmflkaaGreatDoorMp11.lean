import Derived.Test.YtjpdfobnjmflkaaGreatDoorMp10
set_option linter.all false
set_option maxHeartbeats 4000000
set_option maxRecDepth 100000
section
namespace Go.Sx
open Go Go.Proofs Tryz
variable {GB G:Gh}{n m D:Int}{g d i j k:Nat}{q t:Rat}{vs:List Value}{v w:ao}{l:ah}
def xm{a b:Int}(h:a=b):eI a=eI b:=by rw[h]
def CU(z:Int):eQ (z:Rat)= .ag [.v (.bool (decide (z<0))),dN z.natAbs, .sl []]:=by unfold eQ;rw[oK,oV];rfl
def D0{a:Rat}(h:a.den=1):((a.num:Int):Rat)=a:=Rat.ext (oK _) (by rw[oV,h])
def Xv{a b:Rat}(ha:a.den=1)(hb:b.den=1):a+b=((a.num+b.num:Int):Rat):=by
 rw[lU,D0 ha,D0 hb]
def auk{a b:Rat}(ha:a.den=1)(hb:b.den=1):a*b=((a.num*b.num:Int):Rat):=by
 rw[cX,D0 ha,D0 hb]
def Aa(n:Nat)(h:0<n):(if n=1 then [] else(dg n).map dU).length=0↔n=1:=by
 by_cases q:n=1
 .simp[q]
 .rw[if_neg q,aX,vQ];omega
def NR{n:Nat}(h:n≠1):dD n=dN n:=by unfold dD;rw[if_neg h];rfl
def Kk:(i5 g 1=0)↔g=1:=by
 unfold i5;constructor
 .intro h;split at h
  .exact absurd h (by decide)
  .split at h
   .assumption
   .exact absurd h (by decide)
 .rintro rfl;rfl
def NA{x:Int}(hd:0<d):zv (decide (x<0)) (x.natAbs/Nat.gcd x.natAbs d)=(mkRat x d).num:=by
 rw[Rat.num_mkRat,if_neg (by omega),jN];have hg:0<Nat.gcd d x.natAbs:=lN _ hd;obtain⟨c,hc⟩:Nat.gcd d x.natAbs∣x.natAbs:=mZ _ _;generalize Nat.gcd d x.natAbs=g at*;rw[hc,rL _ hg];unfold zv;by_cases q:x<0
 .rw[if_pos (by simpa using q),show x=(g:Int)*(-(c:Int)) by rw[Int.mul_neg,<-jQ];omega,Int.mul_ediv_cancel_left _ (by omega)]
 .rw[if_neg (by simpa using q),show x=(g:Int)*(c:Int) by rw[<-jQ];omega,Int.mul_ediv_cancel_left _ (by omega)]
def Mz{x:Int}(hd:0<d):d/Nat.gcd x.natAbs d=(mkRat x d).den:=by
 rw[Rat.den_mkRat,if_neg (by omega),jN]
def UD{x:Int}(hd:0<d)(h:Nat.gcd x.natAbs d=1):(mkRat x d).num=x/\(mkRat x d).den=d:=by
 rw[<-NA hd,<-Mz hd,h,tN,tN];exact⟨mf x,J⟩
instance BI.zv (neg:Bool) (m i:Nat) [h:BN m i]:BI (zv neg m) i:=⟨by rw[sh];exact h.h⟩
section
variable {C:aG}{n:Nat}{Q0:Exit->Act->World->Prop}{fr fr':aC}{own own':aH}{cf cf':Cf}{vc:List Prop}
def Td(fr:aC)(cf:Cf):Option Int:=match cG fr cf with
 |some ⟨_, .convert t t' x,_,_,_,_⟩=>match du tt t,du tt t' with
  |some ⟨.int .i64,_,_,_⟩,some ⟨.int .u64,_,_,_⟩=>match aP (b7 fr cf) x with
   |some (.d (.v (.int .i64 p)))=>some p
   |_=>none
  |_,_=>none
 |_=>none
def cvw[fu:Fu]{p:Int}(q:Int)(h:Td fr cf=some p)(e:p%18446744073709551616=q)(hgo:cB tt n fu.n fr own cf (.d (.v (.int .u64 q))) [] []=⟨vc,fr',own',cf'⟩)(k:av prog GB C n Q0 fr' own' cf')
  (hv:ak vc:=by first|exact trivial|(simp only[ak];omega)):av prog GB C n Q0 fr own cf:=by
 unfold Td at h;split at h<;>try (cases h;done)
 rename_i hh;split at h<;>try (cases h;done)
 rename_i hT hT';split at h<;>cases h;rename_i hx;have:=yl (eh _ _ hT) J;have:=yl (eh _ _ hT') J;refine us hh (.x1 hx fun ρ G ov a w y _ r h1 h2=>?_) hgo hv k;rw[cP] at h2;subst h2;refine⟨_,cP.2 J,?_⟩;rw[<-e,<-s5];exact C4 h1
def OU(fr:aC)(cf:Cf):Option Int:=match cG fr cf with
 |some ⟨_, .unOp .neg _ x,_,_,_,_⟩=>match aP (b7 fr cf) x with
  |some (.d (.v (.int .u64 p)))=>some p
  |_=>none
 |_=>none
def ngw[fu:Fu]{p:Int}(q:Int)(h:OU fr cf=some p)(e:(0-p)%18446744073709551616=q)(hgo:cB tt n fu.n fr own cf (.d (.v (.int .u64 q))) [] []=⟨vc,fr',own',cf'⟩)(k:av prog GB C n Q0 fr' own' cf')
  (hv:autoParam (ak vc) cvw._auto_1):av prog GB C n Q0 fr own cf:=by
 unfold OU at h;split at h<;>try (cases h;done)
 rename_i hh;split at h<;>cases h;rename_i hx;refine us hh (.x1 hx fun ρ G ov a w y _ r h1 h2=>?_) hgo hv k;rw[cP] at h2;subst h2;refine⟨_,cP.2 J,?_⟩;rw[<-e,<-s5];exact Jp h1
end
def TS(h0: -4611686018427387904<=n:=by omega)(h1:n<=4611686018427387904:=by omega):PF GB prog 53 [.v (.int .i64 n)] (eI n):=by
 refine fn func53 J J ntmps53 J J (fun C=>?_);refine br (fu1:=⟨3⟩) (fu2:=⟨6⟩) J J J (fun hc4=>?_) (fun hc4=>?_)
 .
  refine cvw (fu:=⟨0⟩) (18446744073709551616+n) J (by omega) J<|ngw (n.natAbs:Nat) J (by omega) J<|cl J (uc (u:=n.natAbs)) J<|cl J kB J<|rz J (xm (by unfold zv;rw[if_pos J];omega))
 .
  refine aj 11 (.d (.v (.int .u64 (n.natAbs:Nat)))) J (by show FX.d (.v (.int _ _))= .d (.v (.int _ _));congr 3;omega)<|gx J<|cl J (uc (u:=n.natAbs)) J<|cl J kB J<|rz J (xm (by unfold zv;rw[if_neg (by decide)];omega))
def zh{z:Int}:PF GB prog 117 [eI z] (vI z.sign):=by
 have hl:=bP (dg z.natAbs);have hz:= @vQ z.natAbs;refine fn func117 J J ntmps117 J J (fun C=>?_);refine br J J J (fun hc6=>?_) (fun hc6=>?_)
 .
  exact rz J (by show DV.v (.int _ 0)=DV.v (.int _ _);rw[show z=0 by omega];rfl)
 .
  refine bd J J J (fun hc8=>?_) (fun hc8=>?_)
  .
   exact rz J (by show DV.v (.int _ (-1))=DV.v (.int _ _);rw[dY (by omega)])
  .
   exact rz J (by show DV.v (.int _ 1)=DV.v (.int _ _);rw[eK (by omega)])
def Cq{z:Int}:PF GB prog 57 [eI z] (eI (-z)):=by
 refine fn func57 J J ntmps57 J J (fun C=>?_);refine cl J kB J<|rz J (xm (Vk z))
def ayC{a b:Int}(h:decide (a<0)=decide (b<0)):zv (decide (a<0)) (a.natAbs+b.natAbs)=a+b:=by
 unfold zv;have h':a<0↔b<0:=by simpa using h
 by_cases q:a<0
 .have:=h'.1 q
  simp[q];omega
 .have: ¬b<0:=fun w=>q (h'.2 w)
  simp[q];omega
def aDR{a b:Int}(h: ¬decide (a<0)=decide (b<0))(k:a.natAbs<b.natAbs):zv (decide (b<0)) (b.natAbs-a.natAbs)=a+b:=by
 unfold zv;have h': ¬(a<0↔b<0):=by simpa using h
 by_cases q:b<0
 .have: ¬a<0:=fun w=>h' ⟨fun _=>q,fun _=>w⟩
  simp[q];omega
 .have:a<0:=Int.not_le.1 fun w=>h' ⟨fun e=>by omega,fun e=>absurd e q⟩
  simp[q];omega
def aFv{a b:Int}(h: ¬decide (a<0)=decide (b<0))(k:b.natAbs<=a.natAbs):zv (decide (a<0)) (a.natAbs-b.natAbs)=a+b:=by
 unfold zv;have h': ¬(a<0↔b<0):=by simpa using h
 by_cases q:a<0
 .have: ¬b<0:=fun w=>h' ⟨fun _=>w,fun _=>q⟩
  simp[q];omega
 .have:b<0:=Int.not_le.1 fun w=>h' ⟨fun e=>absurd e q,fun e=>by omega⟩
  simp[q];omega
def Fg{a b:Int}[ha:BI a i][hb:BI b j](hi:i<=400000000:=by decide)(hj:j<=400000000:=by decide):PF GB prog 156 [eI a,eI b] (eI (a+b)):=by
 have hba:=k9 ha.h;have hbb:=k9 hb.h;refine fn (fu:=⟨15⟩) func156 J J ntmps156 J J (fun C=>?_);refine aj 9 (.d (.v (.bool (decide (decide (a<0)=decide (b<0)))))) J (by congr 2)<|gx J<|bd J J J (fun hc9=>?_) (fun hc9=>?_)
 .
  refine cl J (aJz (by omega) (by omega)) J<|cl J kB J<|rz J (xm (ayC hc9))
 .
  refine cl J (Aw) J<|br J J J (fun hc23=>?_) (fun hc23=>?_)
  .
   refine cl J (Kr (by have:=zr.1 hc23;omega) (by omega)) J<|cl J kB J<|rz J (xm (aDR hc9 (zr.1 hc23)))
  .
   refine cl J (Kr (sS fun q=>hc23 (zr.2 q)) (by omega)) J<|cl J kB J<|rz J (xm (aFv hc9 (sS fun q=>hc23 (zr.2 q))))
def vY{a b:Int}[ha:BI a i][hb:BI b j](hi:i<=400000000:=by decide)(hj:j<=400000000:=by decide):PF GB prog 157 [eI a,eI b] (eI (a*b)):=by
 refine fn func157 J J ntmps157 J J (fun C=>?_);refine cl J (rO (by omega) (by omega)) J<|cl J kB J<|rz J (xm (aDO a b))
def Js{a b:Int}[ha:BI a i][hb:BI b j](hi:i<=400000000:=by decide)(hj:j<=400000000:=by decide):PF GB prog 142 [eI a,eI b] (vI (a-b).sign):=by
 refine fn func142 J J ntmps142 J J (fun C=>?_);refine cl J Cq J<|cl J (Fg (by omega) (by omega)) J<|cl J zh J<|rz J (by rw[Int.sub_eq_add_neg];rfl)
def lg:PF GB prog 145 [eQ q] (dN q.den):=by
 refine fn func145 J J ntmps145 J J (fun C=>?_);refine br J J J (fun hc6=>?_) (fun hc6=>?_)
 .
  refine cl J F2 J<|rz J (by rw[(Aa q.den (mH q)).1 (by omega)];rfl)
 .
  exact rz J (by exact NR (fun e=>hc6 (by exact congrArg Int.ofNat ((Aa q.den (mH q)).2 e))))
def Oc{n:Nat}[h:BN n k](hk:k<=500000000:=by omega):(dg n).length<=100000000:=by have:=k9 h.h;omega
def wM{x:Int}[hx:BI x i][hd:BN d j](hd0:0<d)(hi:i<=200000000:=by decide)(hj:j<=200000000:=by decide):PF GB prog 52 [eI x,dN d] (eQ (mkRat x d)):=by
 obtain⟨q,hq⟩: ∃q,q=mkRat x d:=⟨_,rfl⟩;obtain⟨g,hg⟩: ∃g,g=Nat.gcd x.natAbs d:=⟨_,rfl⟩;have hg0:0<g:=hg▸oM _ hd0;haveI hgB:BN g (i+j):=hg▸inferInstance;have hg1:(dg g).length<=100000000:=Oc (k:=i+j);have ho1:(dg 1).length<=100000000:=by rw[Bt];decide
 haveI hqB:BQ q (i+j):=hq▸wX hd0 (dJ hx.h (bL (by decide) (by omega))) (dJ hd.h (bL (by decide) (by omega)));refine fn func52 J J ntmps52 J J (fun C=>?_);refine cl (fu:=⟨0⟩) J (AZ (by omega) (by omega)) J<|aj 11 (.d (dN g)) J (by rw[hg])<|gx (fu:=⟨4⟩) J<|mg (fu:=⟨1⟩) (X:=Unit) (fun _=>[(1, .d (dN q.den)),(2, .ov 2 0),(4, .ov 4 0)]) (fun _=>[(4,some (.o 50 [.ff, .nl, .nl] true)),(2,some (.o 48 [.d (.v (.bool (decide (q.num<0)))), .d (dN q.num.natAbs)] true))]) (fun _=>True) [1,2,4] [4,2] rfl ?_ (fun _=>J) (fun _ hm=>?_)
 .
  refine gx J<|cl J F2 J<|cl J (Aw hg1 ho1) J<|br J J J (fun hc15=>?_) (fun hc15=>?_)
  .
   refine cl J (x7 hg0 (by omega) (by omega)) J<|cl (fu:=⟨0⟩) J kB J<|aj 26 (.d (eI q.num)) J (by show FX.d (eI (zv _ _))=_;rw[hg,NA hd0,hq])<|gx J<|cl (fu:=⟨2⟩) J (x7 hg0 (by omega) (by omega)) J<|aj 31 (.d (dN q.den)) J (by rw[hg,Mz hd0,hq])<|gx J<|at_ () trivial
  .
   have hm:=UD (x:=x) hd0 (by rw[<-hg];exact Kk.1 (Decidable.not_not.1 hc15));rw[<-hq] at hm;refine aj 1 (.d (dN q.den)) J (by rw[hm.2])<|at_ () trivial (hO:=⟨J,by rw[hm.1];rfl,trivial⟩)
 .
  refine mg (X:=Unit) (fun _=>[(1, .d (dD q.den)),(2, .ov 2 0),(4, .ov 4 0)]) (fun _=>[(4,some (.o 50 [.ff, .nl, .nl] true)),(2,some (.o 48 [.d (.v (.bool (decide (q.num<0)))), .d (dN q.num.natAbs)] true))]) (fun _=>True) [1,2,4] [4,2] rfl ?_ (fun _=>J) (fun _ hm=>?_)
  .
   refine gx J<|cl J F2 J<|cl J (Aw (Oc (k:=i+j)) ho1) J<|br J J J (fun hc36=>?_) (fun hc36=>?_)
   .
    refine nlD 1 J<|aj 1 (.d (dD q.den)) J (by rw[Kk.1 hc36];rfl)<|at_ () trivial
   .
    refine aj 1 (.d (dD q.den)) J (by rw[NR (fun e=>hc36 (Kk.2 e))])<|at_ () trivial
  .
   exact rz J (by rw[<-hq];rfl)
def Uf(a:Rat):mkRat a.num a.den=a:=by simp[sZ]
def TW{a b:Rat}(h:b≠0):a/b=mkRat (a.num*zv (decide (b.num<0)) b.den) (a.den*b.num.natAbs):=by
 rw[mY];have ha:(a.num:Rat)/(a.den:Rat)=a:=by rw[<-mY,Uf]
 have hb:(b.num:Rat)/(b.den:Rat)=b:=by rw[<-mY,Uf]
 have h1:(a.den:Rat)≠0:=by have:=a.den_nz;exact_mod_cast this
 have h2:(b.den:Rat)≠0:=by have:=b.den_nz;exact_mod_cast this
 have h3:(b.num:Rat)≠0:=by
  intro e;rw[e] at hb;apply h;rw[<-hb];grind
 rw[cX,Rat.natCast_mul];by_cases q:b.num<0
 .have e1:((zv (decide (b.num<0)) b.den:Int):Rat)= -(b.den:Rat):=by
   unfold zv;rw[if_pos (by simpa using q),iL];rfl
  have e2:((b.num.natAbs:Nat):Rat)= -(b.num:Rat):=by
   have:((b.num.natAbs:Nat):Int)= -b.num:=by omega
   rw[<-iL,<-this];rfl
  rw[e1,e2];generalize (a.num:Rat)=an at*;generalize (a.den:Rat)=ad at*;generalize (b.num:Rat)=bn at*;generalize (b.den:Rat)=bd at*;subst ha hb;grind
 .have e1:((zv (decide (b.num<0)) b.den:Int):Rat)=(b.den:Rat):=by
   unfold zv;rw[if_neg (by simpa using q)];rfl
  have e2:((b.num.natAbs:Nat):Rat)=(b.num:Rat):=by
   have:((b.num.natAbs:Nat):Int)=b.num:=by omega
   rw[<-this];rfl
  rw[e1,e2];generalize (a.num:Rat)=an at*;generalize (a.den:Rat)=ad at*;generalize (b.num:Rat)=bn at*;generalize (b.den:Rat)=bd at*;subst ha hb;grind
def ZT(hd:0<d)(h:q*(d:Rat)=(n:Rat)):q.num.natAbs<=n.natAbs/\q.den<=d:=by
 have e:q=mkRat n d:=by
  rw[mY];have:(d:Rat)≠0:=by exact_mod_cast (by omega:d≠0)
  rw[<-h];grind
 rw[e,Rat.num_mkRat,Rat.den_mkRat,if_neg (by omega),if_neg (by omega)];exact⟨oX n (d.gcd n.natAbs:Nat),nZ ..⟩
theorem BQ.of_frac(hd:0<d)(h:q*(d:Rat)=(n:Rat))(hn:n.natAbs<2^i)(hdi:d<2^i):BQ q i:=by
 have:=ZT hd h;exact⟨by omega,by omega⟩
def Rn{b:Rat}(h:b≠0):0<b.num.natAbs:=by
 have:b.num≠0:=fun e=>h (lQ.1 e);omega
instance BQ.over (a b:Rat) (i j:Nat) [ha:BQ a i] [hb:BQ b j]:BQ (a/b) (i+j):=by
 by_cases h:b=0
 .subst h
  rw[Rat.div_def,Rat.inv_zero,Rat.mul_zero];have h2:=ha.hd;have h3:0<a.den:=mH a;have h4:2^i*1<=2^i*2^j:=fM _ (gK (by decide));rw[<-fY] at h4;exact⟨by show 0<_;omega,by show 1<_;omega⟩
 .rw[TW h]
  have hb0:=Rn h;refine wX (iN (mH a) hb0) ?_ (qO ha.hd hb.hn);rw[fR,sh];exact qO ha.hn hb.hd
def jl(h0: -4611686018427387904<=n:=by decide)(h1:n<=4611686018427387904:=by decide):PF GB prog 32 [.v (.int .i64 n)] (eQ (n:Rat)):=by
 refine fn func32 J J ntmps32 J J (fun C=>?_);refine cl J (TS) J<|rz J (by rw[CU];rfl)
def sB:PF GB prog 55 [eQ q] (vI q.num.sign):=by
 refine fn func55 J J ntmps55 J J (fun C=>?_);refine cl J zh J<|rz J J
def vN:PF GB prog 110 [eQ q] (eQ (-q)):=by
 refine fn func110 J J ntmps110 J J (fun C=>?_);refine cl J Cq J<|rz J (by unfold eQ;rw[mS,qK];rfl)
def jh{a b:Rat}[ha:BQ a i][hb:BQ b j](hi:i<=20000000:=by decide)(hj:j<=20000000:=by decide):PF GB prog 82 [eQ a,eQ b] (eQ (a*b)):=by
 have had:=mH a;have hbd:=mH b;have hdp:=iN had hbd;have e1:=Aa a.den had;have e2:=Aa b.den hbd;refine fn func82 J J ntmps82 J J (fun C=>?_);refine cs 9 J J J (fun hg9=>?_) (fun hg9=>?_)
 .
  refine br J J J (fun hc14=>?_) (fun hc14=>?_)
  .
   refine cl J (vY (a:=a.num) (b:=b.num) (by omega) (by omega)) J<|rz J (by rw[auk (e1.1 (by omega)) (e2.1 (by omega)),CU];rfl)
  .
   refine cl J (vY (a:=a.num) (b:=b.num) (by omega) (by omega)) J<|cl J lg J<|cl J lg J<|cl J (rO (by omega) (by omega)) J<|cl J (wM hdp (by omega) (by omega)) J<|rz J (by rw[Cs];rfl)
 .
  refine cl J (vY (a:=a.num) (b:=b.num) (by omega) (by omega)) J<|cl J lg J<|cl J lg J<|cl J (rO (by omega) (by omega)) J<|cl J (wM hdp (by omega) (by omega)) J<|rz J (by rw[Cs];rfl)
def nE{a b:Rat}[ha:BQ a i][hb:BQ b j](hi:i<=20000000:=by decide)(hj:j<=20000000:=by decide):PF GB prog 81 [eQ a,eQ b] (eQ (a+b)):=by
 have had:=mH a;have hbd:=mH b;have hdp:=iN had hbd;have e1:=Aa a.den had;have e2:=Aa b.den hbd;refine fn func81 J J ntmps81 J J (fun C=>?_);refine cs 9 J J J (fun hg9=>?_) (fun hg9=>?_)
 .
  refine br J J J (fun hc14=>?_) (fun hc14=>?_)
  .
   refine cl J (Fg (by omega) (by omega)) J<|rz J (by rw[Xv (e1.1 (by omega)) (e2.1 (by omega)),CU];rfl)
  .
   refine cl J lg J<|cl J kB J<|cl J (vY (a:=a.num) (b:=zv false b.den) (by omega) (by omega)) J<|cl J lg J<|cl J kB J<|cl J (vY (a:=b.num) (b:=zv false a.den) (by omega) (by omega)) J<|cl J (Fg (by omega) (by omega)) J<|cl J lg J<|cl J lg J<|cl J (rO (by omega) (by omega)) J<|cl J (wM hdp (by omega) (by omega)) J<|rz J (by rw[Bi];rfl)
 .
  refine cl J lg J<|cl J kB J<|cl J (vY (a:=a.num) (b:=zv false b.den) (by omega) (by omega)) J<|cl J lg J<|cl J kB J<|cl J (vY (a:=b.num) (b:=zv false a.den) (by omega) (by omega)) J<|cl J (Fg (by omega) (by omega)) J<|cl J lg J<|cl J lg J<|cl J (rO (by omega) (by omega)) J<|cl J (wM hdp (by omega) (by omega)) J<|rz J (by rw[Bi];rfl)
def rB{a b:Rat}[ha:BQ a i][hb:BQ b j](hi:i<=20000000:=by decide)(hj:j<=20000000:=by decide):PF GB prog 217 [eQ a,eQ b] (eQ (a-b)):=by
 refine fn func217 J J ntmps217 J J (fun C=>?_);refine cl J (vN (q:=b)) J<|cl J (nE (a:=a) (b:= -b) hi hj) J<|rz J (by rw[Rat.sub_eq_add_neg];rfl)
def w8{a b:Rat}[ha:BQ a i][hb:BQ b j](hb0:b≠0)(hi:i<=20000000:=by decide)(hj:j<=20000000:=by decide):PF GB prog 172 [eQ a,eQ b] (eQ (a/b)):=by
 have hbp:=Rn hb0;have hdp:=iN (mH a) hbp;refine fn func172 J J ntmps172 J J (fun C=>?_);refine cl J lg J<|cl J kB J<|cl J (vY (a:=a.num) (b:=zv (decide (b.num<0)) b.den) (by omega) (by omega)) J<|cl J lg J<|cl J (rO (a:=a.den) (b:=b.num.natAbs) (by omega) (by omega)) J<|cl J (wM (x:=a.num*zv (decide (b.num<0)) b.den) (d:=a.den*b.num.natAbs) hdp (by omega) (by omega)) J<|rz J (by rw[TW hb0];rfl)
def mp{a b:Rat}[ha:BQ a i][hb:BQ b j](hi:i<=20000000:=by decide)(hj:j<=20000000:=by decide):PF GB prog 140 [eQ a,eQ b] (vI (bz a b)):=by
 refine fn func140 J J ntmps140 J J (fun C=>?_);refine cl J (rB hi hj) J<|cl J sB J<|rz J (by show vI _=vI _;rw[EJ])
def VI:((2:Int):Rat)≠0:=by decide
instance BI.two:BI 2 2:=⟨by decide⟩
def K4{a:Rat}[ha:BQ a i](hi:i<=20000000:=by decide):PF GB prog 294 [eQ a] (eQ (a/2)):=by
 refine fn func294 J J ntmps294 J J (fun C=>?_);refine cl J (jl (n:=2)) J<|cl J (w8 (a:=a) (b:=((2:Int):Rat)) VI hi (by decide)) J<|rz J J
def EM{a b:Rat}[ha:BQ a i][hb:BQ b j](hi:i<=2000000:=by decide)(hj:j<=2000000:=by decide):PF GB prog 239 [eQ a,eQ b] (eQ ((a+b)/2)):=by
 refine fn func239 J J ntmps239 J J (fun C=>?_);refine cl J (nE (by omega) (by omega)) J<|cl J (K4 (a:=a+b) (by omega)) J<|rz J J
def OL(hg:(g:Int)∣m)(hb:m.natAbs<4611686018427387904):IntKind.i64.wrap (m.tdiv g)=m/g:=by
 rw[Int.tdiv_eq_ediv_of_dvd hg];have:=oX m g;exact Xs (by omega)
def tm(a b:Int):Int:=if(a*b).natAbs<4611686018427387904 then a*b else 0
def Hs(a b:Int):(tm a b).natAbs<4611686018427387904:=by unfold tm;split<;>omega
def BS{a b:Int}(h:(a*b).natAbs<4611686018427387904):tm a b=a*b:=if_pos h
def NI{a b:Int}(h: ¬(a*b).natAbs<4611686018427387904:=by omega):DV.tp [vI 0, .v (.bool false)]= .tp [vI (tm a b),vB (decide ((a*b).natAbs<4611686018427387904))]:=by unfold tm;rw[if_neg h,decide_eq_false h];rfl
def Ph{a b:Int}{x:Int}(h:(a*b).natAbs<4611686018427387904)(e:x=a*b):DV.tp [vI x, .v (.bool true)]= .tp [vI (tm a b),vB (decide ((a*b).natAbs<4611686018427387904))]:=by unfold tm;rw[if_pos h,decide_eq_true h,e];rfl
def SE(n:Nat):eI (n:Int)= .ag [.v (.bool false),dN n]:=by unfold eI;rw[decide_eq_false (by omega),fL]
def aF0{p:Rat}(hp:p.den=1)(hq:q.den=1):rgcd p q=((Nat.gcd p.num.natAbs q.num.natAbs:Nat):Int):=by
 conv=>lhs;rw[FS hp,FS hq]
 exact JW _ _
def aEF(q:Rat):mkRat (zv (decide (q.num<0)) q.den) q.num.natAbs=q⁻¹:=by
 rw[Rat.inv_def];by_cases h:q.num<0
 .rw[decide_eq_true h];exact alT h
 .rw[decide_eq_false h,<-Rat.divInt_ofNat,oY (by omega)];rfl
instance BQ.inv (q:Rat) (i:Nat) [h:BQ q i]:BQ q⁻¹ i:=by
 have h1:=h.hn;have h2:=h.hd;have h3:=q.den_nz;rcases lV q.num 0 with k|k|k
 .obtain⟨e1,e2⟩:=Ts k;exact⟨by omega,by omega⟩
 .have e:q=0:=lQ.1 k
  have e0:(0:Rat)⁻¹=0:=Rat.inv_zero;rw[e] at h1 h2⊢;rw[e0];exact⟨h1,h2⟩
 .obtain⟨e1,e2⟩:=Lt k;exact⟨by omega,by omega⟩
instance BQ.half:BQ (mkRat 1 2) 2:=⟨by decide,by decide⟩
def aDB{x y:Nat}(hx:x<18446744073709551616)(hy:y<18446744073709551616):PF GB prog 267 [.v (.int .u64 (x:Nat)), .v (.int .u64 (y:Nat))] (.tp [.v (.int .u64 ((x*y/18446744073709551616:Nat):Int)), .v (.int .u64 ((x*y%18446744073709551616:Nat):Int))]):=fun G vs _ hv=>by
 obtain⟨v,m,rfl,h1,h2⟩:=bj.1 hv;obtain⟨u,m',rfl,h3,h4⟩:=bj.1 h2
 cases et.1 h4
 rw[aI.1 h1,aI.1 h3];exact(aqA hx hy).mono fun v G' _ h=>by subst h;exact kh.2 ⟨_,J, .cons (aI.2 J) (.cons (aI.2 J) .nil)⟩
def O3{a b:Nat}(ha:a<18446744073709551616:=by omega)(hb:b<18446744073709551616:=by omega):PF GB prog 247 [.v (.int .u64 (a:Nat)), .v (.int .u64 (b:Nat))] (.v (.int .u64 (Nat.gcd a b:Nat))):=by
 refine fn func247 J J ntmps247 J J (fun C=>?_);refine lp (X:=Nat×Nat) (fun⟨u,v⟩=>[(1, .d (.v (.int .u64 (v:Nat)))),(0, .d (.v (.int .u64 (u:Nat))))]) (fun⟨u,v⟩=>[]) (fun⟨u,v⟩=>u<18446744073709551616/\v<18446744073709551616/\Nat.gcd u v=Nat.gcd a b) (fun⟨u,v⟩=>v) (a,b) J ⟨ha,hb,J⟩ (fun _=>J) (fun⟨u,v⟩ hk=>?_);dsimp only at hk⊢;obtain⟨h1,h2,h3⟩:=hk;refine br (v1:=fun hc6=>by simp only[ak];exact⟨by omega,by kernel_rfl⟩) J J J (fun hc6=>?_) (fun hc6=>?_)
 .
  have hm:=dK u (show 0<v by omega);exact at_ (v,u%v) (by dsimp only;exact⟨⟨h2,by omega,by rw[<-h3,jN u v,tM v u,jN]⟩,hm⟩)
 .
  exact rz J (by rw[<-h3,show v=0 by omega,nL];rfl)
def uR(h:m.natAbs<9223372036854775808:=by decide):PF GB prog 185 [vI m] (eF (m:Rat)):=by
 refine fn func185 J J ntmps185 J J (fun C=>?_);refine cs 5 J J J (fun hg5=>?_) (fun hg5=>?_)
 .
  refine cl J (KU (m:=m)) J<|rf (fu:=⟨0⟩) J J<|aj 11 (.d (dN 1)) J (by unfold dN;rw[Bt];rfl)<|gx J<|cl J (uT (n:=decide (m<0)) (a:=m.natAbs) (i:=63) (h:=⟨h⟩) (d:=1)) J<|rz J (by rw[mf,show mkRat m 1=(m:Rat) from sM ..];rfl)
 .
  refine br J J J (fun hc8=>?_) (fun hc8=>?_)
  .
   refine cl J (KU (m:=m)) J<|rf (fu:=⟨0⟩) J J<|aj 11 (.d (dN 1)) J (by unfold dN;rw[Bt];rfl)<|gx J<|cl J (uT (n:=decide (m<0)) (a:=m.natAbs) (i:=63) (h:=⟨h⟩) (d:=1)) J<|rz J (by rw[mf,show mkRat m 1=(m:Rat) from sM ..];rfl)
  .
   exact jq J (Rx (by omega))
def Bj{a b:Int}(ha:a.natAbs<4611686018427387904:=by omega)(hb:b.natAbs<4611686018427387904:=by omega):PF GB prog 207 [vI a,vI b] (.tp [vI (tm a b),vB (decide ((a*b).natAbs<4611686018427387904))]):=by
 have hab:=fR a b;refine fn func207 J J ntmps207 J J (fun C=>?_);refine cl J (BD (m:=a)) J<|cl J (BD (m:=b)) J<|cl J (aDB (x:=a.natAbs) (y:=b.natAbs) (by omega) (by omega)) J<|cs 18 J J J (fun hg18=>?_) (fun hg18=>?_)
 .
  exact rz J (NI)
 .
  refine br J J J (fun hc21=>?_) (fun hc21=>?_)
  .
   exact rz J (NI)
  .
   refine bb J J J (fun hc26=>?_) (fun hc26=>?_)
   .
    have hs:=OR a b;rw[if_neg (by simpa using hc26)] at hs;exact rz J (Ph (by omega) (by rw[hs,<-hab];omega))
   .
    have hs:=OR a b;rw[if_pos (by simpa using hc26)] at hs;exact rz J (Ph (by omega) (by rw[hs,<-hab];omega))
def TC(h:m.natAbs<4611686018427387904)(h0:0<d)(hd:d<4611686018427387904):PF GB prog 208 [vI m,vI (d:Nat)] (eF (mkRat m d)):=by
 have hg:Nat.gcd m.natAbs d<=d:=Nat.gcd_le_right _ h0;have hg0:0<Nat.gcd m.natAbs d:=oM _ h0;obtain⟨e1,e2⟩:=Ps (m:=m) h0;have e3:=oX m (Nat.gcd m.natAbs d:Nat);have e4:=nZ d (Nat.gcd m.natAbs d);have e5:=Nat.div_pos hg hg0;refine fn func208 J J ntmps208 J J (fun C=>?_);refine cl J (BD (m:=m)) J<|cl J (O3 (a:=m.natAbs) (b:=d)) J<|br (fu1:=⟨4⟩) J J J (fun hc13=>?_) (fun hc13=>?_)
 .
  refine aj 16 (.d (vI (m/(Nat.gcd m.natAbs d:Nat)))) J (by rw[OL (Int.dvd_natAbs.1 (rS.2 (lJ _ _))) h];rfl)<|gx (fu:=⟨3⟩) J<|aj 19 (.d (vI ((d/Nat.gcd m.natAbs d:Nat)))) J (by rw[OL (rS.2 (mZ _ _)) (by rw[fL];exact hd)];rfl)<|gx (hv:=by simp only[ak];exact⟨by kernel_rfl,by omega⟩) J<|jq J (tk (fun k=>k ⟨by rw[e1];omega,by rw[e2];omega⟩) e1 (by rw[e2]) J)
 .
  exact jq J (by have h1:Nat.gcd m.natAbs d=1:=(by omega);rw[h1,tN] at e2;rw[h1,Int.natCast_one,Int.ediv_one] at e1;exact tk (fun k=>k ⟨by rw[e1];omega,by rw[e2];omega⟩) e1 (by rw[e2]) J)
def pf{p:Rat}[h:BQ p i][k:BQ q j](hi:i<=100000000:=by decide)(hj:j<=100000000:=by decide):PF GB prog 215 [eF p,eF q] (eF (p*q)):=by
 refine fn (fu:=⟨8⟩) func215 J J ntmps215 J J (fun C=>?_);refine mg (X:=Unit) (fun _=>[(2, .ov 2 0),(3, .ov 3 0),(4, .ov 4 0)]) (fun _=>[(2,some (.o 158 [.d (vI (dC p)), .d (vI (dx p)), .d (di p)] true)),(3,some (.o 158 [.d (vI (dC q)), .d (vI (dx q)), .d (di q)] true)),(4,some (.o 158 [.d (.v (.int .i64 0)), .d (.v (.int .i64 0)), .d (.v (.pointer none))] true))]) (fun _=>True) [2,3,4] [2,3,4] rfl ?_ (fun _=>J) (fun _ _=>?_)
 .
  refine gx J<|cs 12 J J J (fun hg12=>?_) (fun hg12=>?_)
  .
   refine br (fu1:=⟨4⟩) J J J (fun hc16=>?_) (fun hc16=>?_)
   .
    have hp:=te hg12;have hq:=te hc16;have p1:=nF hp;have p2:=qc hp;have p3:=qD hp;have p4:=q7 hp;have p5:=p.den_nz;have q1:=nF hq;have q2:=qc hq;have q3:=qD hq;have q4:=q7 hq;have q5:=q.den_nz;refine aj 19 (.d (vI p.num)) J (by rw[p1])<|gx (fu:=⟨2⟩) J<|aj 21 (.d (vI q.num)) J (by rw[q1])<|gx J<|cl (fu:=⟨12⟩) J (Bj (a:=p.num) (b:=q.num)) J<|aj 28 (.d (vI (p.den:Nat))) J (by congr 3;omega)<|gx (fu:=⟨3⟩) J<|aj 31 (.d (vI (q.den:Nat))) J (by congr 3;omega)<|gx J<|cl J (Bj (a:=(p.den:Nat)) (b:=(q.den:Nat))) J<|csd 36 J J J (fun hg36=>?_) (fun hg36=>?_)
    .
     refine bd (fu1:=⟨3⟩) J J J (fun hc38=>?_) (fun hc38=>?_)
     .
      have hd1:p.den*q.den<4611686018427387904:=by omega
      refine aj 39 (.d (vI (p.num*q.num))) J (by rw[BS hg36])<|gx (fu:=⟨1⟩) J<|aj 40 (.d (vI ((p.den*q.den:Nat)))) J (by rw[BS hc38];rfl)<|gx J<|cl J (TC (m:=p.num*q.num) (d:=p.den*q.den) hg36 (iN (by omega) (by omega)) hd1) J<|rz J (by rw[<-Cs];rfl)
     .
      exact at_ () trivial
    .
     exact at_ () trivial
   .
    exact at_ () trivial
  .
   exact at_ () trivial
 .
  refine cl J (tu (q:=p) (by omega)) J<|cl J (tu (q:=q) (by omega)) J<|cl J (K6 (a:=p.num) (b:=q.num) (by omega) (by omega)) J<|cl J (sC (q:=p) (by omega)) J<|cl J (sC (q:=q) (by omega)) J<|cl J (z' (a:=p.den) (b:=q.den) (by omega) (by omega)) J<|cl J (uT (n:=decide (p.num*q.num<0)) (a:=(p.num*q.num).natAbs) (d:=p.den*q.den) (i:=i+j) (j:=i+j) (by omega) (by omega)) J<|rz J (by rw[mf,<-Cs];rfl)
def rI{p:Rat}[h:BQ p i][k:BQ q j](hi:i<=100000000:=by decide)(hj:j<=100000000:=by decide):PF GB prog 131 [eF p,eF q] (eF (p+q)):=by
 refine fn (fu:=⟨8⟩) func131 J J ntmps131 J J (fun C=>?_);refine mg (X:=Unit) (fun _=>[(2, .ov 2 0),(3, .ov 3 0),(4, .ov 4 0)]) (fun _=>[(2,some (.o 158 [.d (vI (dC p)), .d (vI (dx p)), .d (di p)] true)),(3,some (.o 158 [.d (vI (dC q)), .d (vI (dx q)), .d (di q)] true)),(4,some (.o 158 [.d (.v (.int .i64 0)), .d (.v (.int .i64 0)), .d (.v (.pointer none))] true))]) (fun _=>True) [2,3,4] [2,3,4] rfl ?_ (fun _=>J) (fun _ _=>?_)
 .
  refine gx J<|cs 16 J J J (fun hg16=>?_) (fun hg16=>?_)
  .
   refine br (fu1:=⟨1⟩) J J J (fun hc20=>?_) (fun hc20=>?_)
   .
    have hp:=te hg16;have hq:=te hc20;have p1:=nF hp;have p2:=qc hp;have p3:=qD hp;have p4:=q7 hp;have p5:=p.den_nz;have q1:=nF hq;have q2:=qc hq;have q3:=qD hq;have q4:=q7 hq;have q5:=q.den_nz;refine mg (fu:=⟨4⟩) (X:=Unit) (fun _=>[(2, .ov 2 0),(3, .ov 3 0),(4, .ov 4 0)]) (fun _=>[(2,some (.o 158 [.d (vI (dC p)), .d (vI (dx p)), .d (di p)] true)),(3,some (.o 158 [.d (vI (dC q)), .d (vI (dx q)), .d (di q)] true)),(4,some (.o 158 [.d (.v (.int .i64 0)), .d (.v (.int .i64 0)), .d (.v (.pointer none))] true))]) (fun _=>True) [2,3,4] [2,3,4] rfl ?_ (fun _=>J) (fun _ _=>?_)
    .
     refine gx J<|cs 24 J J J (fun hg24=>?_) (fun hg24=>?_)
     .
      refine br (fu1:=⟨4⟩) J J J (fun hc28=>?_) (fun hc28=>?_)
      .
       refine aj 30 (.d (vI p.num)) J (by rw[p1])<|gx (fu:=⟨2⟩) J<|aj 32 (.d (vI q.num)) J (by rw[q1])<|gx J<|cl J (uR (m:=p.num+q.num) (by omega)) J<|rz J (by rw[FS (q:=p),FS (q:=q),<-lU];rfl)
      .
       exact at_ () trivial
     .
      exact at_ () trivial
    .
     refine aj 37 (.d (vI p.num)) J (by rw[p1])<|gx (fu:=⟨3⟩) J<|aj 40 (.d (vI (q.den:Nat))) J (by congr 3;omega)<|gx J<|cl (fu:=⟨11⟩) J (Bj (a:=p.num) (b:=(q.den:Nat))) J<|aj 46 (.d (vI q.num)) J (by rw[q1])<|gx (fu:=⟨3⟩) J<|aj 49 (.d (vI (p.den:Nat))) J (by congr 3;omega)<|gx J<|cl (fu:=⟨12⟩) J (Bj (a:=q.num) (b:=(p.den:Nat))) J<|aj 56 (.d (vI (p.den:Nat))) J (by congr 3;omega)<|gx (fu:=⟨3⟩) J<|aj 59 (.d (vI (q.den:Nat))) J (by congr 3;omega)<|gx J<|cl (fu:=⟨3⟩) J (Bj (a:=(p.den:Nat)) (b:=(q.den:Nat))) J<|?_;have t1:=Hs p.num (q.den:Nat);have t2:=Hs q.num (p.den:Nat);have t3:=Hs (p.den:Nat) (q.den:Nat);refine gx J<|csd 67 J J J (fun hg67=>?_) (fun hg67=>?_)
     .
      refine csd 70 J J J (fun hg70=>?_) (fun hg70=>?_)
      .
       refine csd 73 J J J (fun hg73=>?_) (fun hg73=>?_)
       .
        refine cs 77 J J J (fun hg77=>?_) (fun hg77=>?_)
        .
         refine br (fu1:=⟨3⟩) J J J (fun hc80=>?_) (fun hc80=>?_)
         .
          have u1:=BS hg67;have u2:=BS hg70;have u3:=BS hg73;have hd1:p.den*q.den<4611686018427387904:=by omega
          refine aj 81 (.d (vI (p.num*(q.den:Nat)+q.num*(p.den:Nat)))) J (by rw[u1,u2];rfl)<|gx (fu:=⟨1⟩) J<|aj 82 (.d (vI ((p.den*q.den:Nat)))) J (by rw[u3];rfl)<|gx J<|cl J (TC (m:=p.num*(q.den:Nat)+q.num*(p.den:Nat)) (d:=p.den*q.den) (by omega) (iN (by omega) (by omega)) hd1) J<|rz J (by rw[<-Bi];rfl)
         .
          exact at_ () trivial
        .
         exact at_ () trivial
       .
        exact at_ () trivial
      .
       exact at_ () trivial
     .
      exact at_ () trivial
   .
    exact at_ () trivial
  .
   exact at_ () trivial
 .
  refine cl J (tu (q:=p) (by omega)) J<|cl (fu:=⟨1⟩) J (sC (q:=q) (by omega)) J<|aj 88 (.d (eI (q.den:Nat))) J (by rw[SE])<|gx J<|cl J (K6 (a:=p.num) (b:=(q.den:Nat)) (by omega) (by omega)) J<|cl J (tu (q:=q) (by omega)) J<|cl (fu:=⟨1⟩) J (sC (q:=p) (by omega)) J<|aj 94 (.d (eI (p.den:Nat))) J (by rw[SE])<|gx J<|cl J (K6 (a:=q.num) (b:=(p.den:Nat)) (by omega) (by omega)) J<|cl J (aGo (a:=p.num*(q.den:Nat)) (b:=q.num*(p.den:Nat)) (i:=i+j) (j:=j+i) (by omega) (by omega)) J<|cl J (sC (q:=p) (by omega)) J<|cl J (sC (q:=q) (by omega)) J<|cl J (z' (a:=p.den) (b:=q.den) (by omega) (by omega)) J<|cl J (uT (n:=decide (p.num*(q.den:Nat)+q.num*(p.den:Nat)<0)) (a:=(p.num*(q.den:Nat)+q.num*(p.den:Nat)).natAbs) (d:=p.den*q.den) (i:=i+j+(j+i)+1) (j:=i+j) (by omega) (by omega)) J<|rz J (by rw[mf,<-Bi];rfl)
def qC{p:Rat}[h:BQ p i][k:BQ q j](hi:i<=100000000:=by decide)(hj:j<=100000000:=by decide):PF GB prog 125 [eF p,eF q] (eF (p-q)):=by
 refine fn func125 J J ntmps125 J J (fun C=>?_);refine cl J (pA (q:=q) (by omega)) J<|cl J (rI (p:=p) (q:= -q) (by omega) (by omega)) J<|rz J (by rw[<-Rat.sub_eq_add_neg];rfl)
def EV[h:BQ q i](hi:i<=400000000:=by decide):PF GB prog 200 [eF q] (eF q⁻¹):=by
 refine fn func200 J J ntmps200 J J (fun C=>?_);refine br (v1:=fun hc3=>by simp only[ak];exact⟨⟨hc3,hc3⟩,hc3⟩) J J J (fun hc3=>?_) (fun hc3=>?_)
 .
  refine cl J (uT (n:=decide (q.num<0)) (a:=q.den) (d:=q.num.natAbs) (by omega) (by omega)) J<|rz J (by rw[aEF];rfl)
 .
  have q1:=nF (oI hc3);have q2:=qc (oI hc3);have q3:=qD (oI hc3);have q4:=q7 (oI hc3);have q5:=q.den_nz;refine br J J J (fun hc26=>?_) (fun hc26=>?_)
  .
   exact jq rfl (by obtain⟨e1,e2⟩:=Ts (q:=q) (by omega);exact tk (fun k=>k ⟨by omega,by omega⟩) (by omega) (by omega) rfl)
  .
   refine br J J J (fun hc39=>?_) (fun hc39=>?_)
   .
    exact jq J (by rw[lQ.1 (show q.num=0 by omega),Rat.inv_zero];exact AN)
   .
    exact jq rfl (by obtain⟨e1,e2⟩:=Lt (q:=q) (by omega);exact tk (fun k=>k ⟨by omega,by omega⟩) (by omega) (by omega) rfl)
def BV{p:Rat}[h:BQ p i][k:BQ q j](hi:i<=100000000:=by decide)(hj:j<=100000000:=by decide):PF GB prog 259 [eF p,eF q] (eF (p/q)):=by
 refine fn func259 J J ntmps259 J J (fun C=>?_);refine cl J (EV (q:=q) (by omega)) J<|cl J (pf (p:=p) (q:=q⁻¹) (by omega) (by omega)) J<|rz J (by rw[Rat.div_def];rfl)
def Oh{q r:DV}{t:List DV}(h: ∀y,Is G r y->Is G q y)(hv:IsLs G (r::t) vs):IsLs G (q::t) vs:=by
 obtain⟨y,m,rfl,h1,h2⟩:=bj.1 hv;exact .cons (h _ h1) h2
def Jb{a q r:DV}{t:List DV}(h: ∀y,Is G r y->Is G q y)(hv:IsLs G (a::r::t) vs):IsLs G (a::q::t) vs:=by
 obtain⟨y,m,rfl,h1,h2⟩:=bj.1 hv;exact .cons h1 (Oh h h2)
def U6[h:BQ q i](hi:i<=100000000:=by decide):PF GB prog 215 [eF q, .ag [vI 1,vI 1, .v (.pointer none)]] (eF (q*mkRat 1 2)):=
 (pf (p:=q) (q:=mkRat 1 2) hi).ofI fun G vs hv=>Jb (fun y hy=>tk (q:=mkRat 1 2) (fun k=>k ⟨by decide,by decide⟩) (by decide) (by decide) J G y hy) hv
def OQ[h:BQ q i](hi:i<=100000000:=by decide):PF GB prog 265 [eF q] (eF (q*mkRat 1 2)):=by
 refine fn func265 J J ntmps265 J J (fun C=>?_);refine cl J (U6 (q:=q) (by omega)) J<|rz J J
def wn{p:Rat}[h:BQ p i][k:BQ q j](hi:i<=100000000:=by decide)(hj:j<=100000000:=by decide):PF GB prog 250 [eF p,eF q] (vI (bz p q)):=by
 refine fn func250 J J ntmps250 J J (fun C=>?_);refine cs 8 J J J (fun hg8=>?_) (fun hg8=>?_)
 .
  refine cs 13 J J J (fun hg13=>?_) (fun hg13=>?_)
  .
   refine br J J J (fun hc19=>?_) (fun hc19=>?_)
   .
    have hp:=te hg8;have hq:=te hg13;have p1:=nF hp;have p2:=qc hp;have p3:=qD hp;have p4:=q7 hp;have p5:=p.den_nz;have q1:=nF hq;have q2:=qc hq;have q3:=qD hq;have q4:=q7 hq;have q5:=q.den_nz;have hl:=Pb (a:=p) (b:=q);have hr:=Pb (a:=q) (b:=p);unfold bz;refine br J J J (fun hc20=>?_) (fun hc20=>?_)
    .
     exact rz J (by rw[if_pos (hl.2 (by omega))];rfl)
    .
     refine br J J J (fun hc26=>?_) (fun hc26=>?_)
     .
      exact rz J (by rw[if_neg (fun e=>by have:=hl.1 e;omega),if_pos (hr.2 (by omega))];rfl)
     .
      exact rz J (by rw[if_neg (fun e=>by have:=hl.1 e;omega),if_neg (fun e=>by have:=hr.1 e;omega)];rfl)
   .
    refine cl J (qC (p:=p) (q:=q) (by omega) (by omega)) J<|cl J (lu (q:=p-q) (by omega)) J<|rz J (by rw[EJ];rfl)
  .
   refine cl J (qC (p:=p) (q:=q) (by omega) (by omega)) J<|cl J (lu (q:=p-q) (by omega)) J<|rz J (by rw[EJ];rfl)
 .
  refine cl J (qC (p:=p) (q:=q) (by omega) (by omega)) J<|cl J (lu (q:=p-q) (by omega)) J<|rz J (by rw[EJ];rfl)
def C7{p:Rat}[h:BQ p i][k:BQ q j](hi:i<=100000000:=by decide)(hj:j<=100000000:=by decide):PF GB prog 184 [eF p,eF q] (vB (decide (p=q))):=by
 refine fn func184 J J ntmps184 J J (fun C=>?_);refine cl J (wn (p:=p) (q:=q) hi hj) J<|rz J (by show DV.v (.bool (decide _))= .v (.bool _);congr 2;exact decide_eq_decide.2 (vJ p q))
def aGV{p:Rat}[h:BQ p i][k:BQ q j](hi:i<=100000000:=by decide)(hj:j<=100000000:=by decide):PF GB prog 298 [eF p,eF q] (eF (if p<q then q else p)):=by
 refine fn func298 J J ntmps298 J J (fun C=>?_);refine cl J (wn (p:=q) (q:=p) hj hi) J<|br J J J (fun hc8=>?_) (fun hc8=>?_)
 .
  exact rz J (by rw[if_pos ((NU q p).1 hc8)];rfl)
 .
  exact rz J (by rw[if_neg (fun e=>hc8 ((NU q p).2 e))];rfl)
def R4{p:Rat}[h:BQ p i][k:BQ q j](hi:i<=100000000:=by decide)(hj:j<=100000000:=by decide):PF GB prog 201 [eF p,eF q] (eF (if q<p then q else p)):=by
 refine fn func201 J J ntmps201 J J (fun C=>?_);refine cl J (wn (p:=q) (q:=p) hj hi) J<|br J J J (fun hc8=>?_) (fun hc8=>?_)
 .
  exact rz J (by rw[if_pos ((P1 q p).1 hc8)];rfl)
 .
  exact rz J (by rw[if_neg (fun e=>hc8 ((P1 q p).2 e))];rfl)
def tE{p:Rat}[h:BQ p i][k:BQ q j](hi:i<=100000000:=by decide)(hj:j<=100000000:=by decide):PF GB prog 183 [eF p,eF q] (eF (rgcd p q)):=by
 refine fn (fu:=⟨8⟩) func183 J J ntmps183 J J (fun C=>?_);refine mg (X:=Unit) (fun _=>[(2, .ov 2 0),(3, .ov 3 0),(4, .ov 4 0)]) (fun _=>[(2,some (.o 158 [.d (vI (dC p)), .d (vI (dx p)), .d (di p)] true)),(3,some (.o 158 [.d (vI (dC q)), .d (vI (dx q)), .d (di q)] true)),(4,some (.o 158 [.d (.v (.int .i64 0)), .d (.v (.int .i64 0)), .d (.v (.pointer none))] true))]) (fun _=>True) [2,3,4] [2,3,4] rfl ?_ (fun _=>J) (fun _ _=>?_)
 .
  refine gx J<|cs 10 J J J (fun hg10=>?_) (fun hg10=>?_)
  .
   refine cs 15 J J J (fun hg15=>?_) (fun hg15=>?_)
   .
    have hp:=te hg10;have hq:=te hg15;have p1:=nF hp;have p2:=qc hp;have p3:=qD hp;have p4:=q7 hp;have p5:=p.den_nz;have q1:=nF hq;have q2:=qc hq;have q3:=qD hq;have q4:=q7 hq;have q5:=q.den_nz;refine cs 20 J J J (fun hg20=>?_) (fun hg20=>?_)
    .
     refine br (fu1:=⟨4⟩) J J J (fun hc24=>?_) (fun hc24=>?_)
     .
      have hg:=HE p3 q3;refine aj 26 (.d (vI p.num)) J (by rw[p1])<|gx J<|cl (fu:=⟨2⟩) J (BD (m:=p.num)) J<|aj 29 (.d (vI q.num)) J (by rw[q1])<|gx J<|cl J (BD (m:=q.num)) J<|cl (hv:=by simp only[ak];exact⟨by omega,by kernel_rfl⟩) J (O3 (a:=p.num.natAbs) (b:=q.num.natAbs)) J<|jq J (by rw[aF0 (p:=p) (q:=q) (by omega) (by omega)];exact Rx (by rw[fL];exact hg))
     .
      exact at_ () trivial
    .
     exact at_ () trivial
   .
    exact at_ () trivial
  .
   exact at_ () trivial
 .
  refine cl J (sC (q:=p) (by omega)) J<|cl J (sC (q:=q) (by omega)) J<|cl J (z' (a:=p.den) (b:=q.den) (by omega) (by omega)) J<|cl J (tu (q:=p) (by omega)) J<|cl J (sC (q:=q) (by omega)) J<|cl J (z' (a:=p.num.natAbs) (b:=q.den) (by omega) (by omega)) J<|cl J (tu (q:=q) (by omega)) J<|cl J (sC (q:=p) (by omega)) J<|cl J (z' (a:=q.num.natAbs) (b:=p.den) (by omega) (by omega)) J<|cl J (KB (a:=p.num.natAbs*q.den) (b:=q.num.natAbs*p.den) (i:=i+j) (j:=j+i) (by omega) (by omega)) J<|cl J (uT (n:=false) (a:=Nat.gcd (p.num.natAbs*q.den) (q.num.natAbs*p.den)) (d:=p.den*q.den) (i:=i+j+(j+i)) (j:=i+j) (by omega) (by omega)) J<|rz J J

def cT:Tr->List DV
 | .leaf b=>[.v (.bool true), .v (.bool b), .v (.bool false), .sl [], .v (.bool false), .sl [], .v (.bool false), .sl [], .v (.pointer none), .v (.pointer none)]
 | .node l x y=>[.v (.bool false), .v (.bool false), .v (.bool (decide (l.a<0))),dN l.a.natAbs, .v (.bool (decide (l.b<0))),dN l.b.natAbs, .v (.bool (decide (l.c<0))),dN l.c.natAbs, .pt (cT x), .pt (cT y)]
def eT(t:Tr):DV:= .pt (cT t)
def eN(n:NQ):DV:= .ag [.v (.bool (decide (n.l.a<0))),dN n.l.a.natAbs, .v (.bool (decide (n.l.b<0))),dN n.l.b.natAbs, .v (.bool (decide (n.l.c<0))),dN n.l.c.natAbs, .v (.int .i64 n.a), .v (.int .i64 n.b)]
def eA(t:Tr):DV:= .ag [.v (.int .i64 (t.num 0)), .sl ((t.wr 0).map eN)]
def zc{z:IV}(h:ql k G z m):Is G (.v (.bool (decide (m<0)))) (.bool z.neg)/\Is G (dN m.natAbs) (.slice z.a.a z.a.n z.a.c):=
 ⟨aI.2 (by rw[h.neg]),(NT h.abs.lt).2 ⟨_,J,h.abs⟩⟩
def Ip{u v:Value}(hm:m.natAbs<2^k)(h1:Is G (.v (.bool (decide (m<0)))) u)(h2:Is G (dN m.natAbs) v): ∃z:IV,u= .bool z.neg/\v= .slice z.a.a z.a.n z.a.c/\ql k G z m:=by
 obtain⟨x,rfl,hx⟩:=(NT hm).1 h2;exact⟨⟨decide (m<0),x⟩,aI.1 h1,J,J,hx⟩
structure BL (l:ah) (k:Nat):Prop where
 a:l.a.natAbs<2^k
 b:l.b.natAbs<2^k
 c:l.c.natAbs<2^k
def aIH{v:Value}(hl:BL l k)(h:Is G (eL l) v): ∃a b c:IV,v= .agg ⟨[.bool a.neg, .slice a.a.a a.a.n a.a.c, .bool b.neg, .slice b.a.a b.a.n b.a.c, .bool c.neg, .slice c.a.a c.a.n c.a.c]⟩/\ql k G a l.a/\ql k G b l.b/\ql k G c l.c:=by
 obtain⟨m,rfl,g⟩:=dO.1 h;clear h;obtain⟨v1,m,rfl,h1,h⟩:=bj.1 g;obtain⟨v2,m,rfl,h2,h⟩:=bj.1 h;obtain⟨v3,m,rfl,h3,h⟩:=bj.1 h;obtain⟨v4,m,rfl,h4,h⟩:=bj.1 h;obtain⟨v5,m,rfl,h5,h⟩:=bj.1 h;obtain⟨v6,m,rfl,h6,h⟩:=bj.1 h;rw[et] at h;subst h;obtain⟨a,rfl,rfl,ha⟩:=Ip hl.a h1 h2;obtain⟨b,rfl,rfl,hb⟩:=Ip hl.b h3 h4;obtain⟨c,rfl,rfl,hc⟩:=Ip hl.c h5 h6;exact⟨a,b,c,J,ha,hb,hc⟩
def WT{n:NQ}{z:ND}(h:rm k G z n):Is G (eN n) z.val:=by
 refine dO.2 ⟨_,J, .cons (zc h.a).1 (.cons (zc h.a).2 (.cons (zc h.b).1 (.cons (zc h.b).2 (.cons (zc h.c).1 (.cons (zc h.c).2 (.cons (aI.2 ?_) (.cons (aI.2 ?_) .nil)))))))⟩
 .rw[h.l]
 .rw[h.r]
def LL{G:Gh}{k:Nat}: ∀{ns:List NQ} {zs:List ND},iw (rm k G) zs ns->IsLs G (ns.map eN) (zs.map ND.val)
 |_,_, .nil=> .nil
 |_,_, .cons h t=> .cons (WT h) (LL t)
def aJ6(ns:List NQ):c9 8 (ns.map eN):=fun d hd=>by
 obtain⟨n,_,rfl⟩:=aU.1 hd;exact⟨rfl,rfl⟩
def aIc{t:Tr}{x:SV}(h:aLL k G x (t.wr 0)):Is G (eA t) (.agg ⟨[.int .i64 (t.num 0), .slice x.a x.n x.c]⟩):=by
 obtain⟨zs,h1,h2⟩:=h;exact dO.2 ⟨_,J, .cons (aI.2 J) (.cons (gt.2 ⟨8,x,_,J,h1,LL h2⟩) .nil)⟩
structure LS (l:ah):Prop where
 ok:l.ok
 a:l.a.natAbs<=4
 b:l.b.natAbs<=4
 c:l.c.natAbs<=40000
def LS.bl(h:LS l):BL l 96:=⟨by have:=h.a;omega,by have:=h.b;omega,by have:=h.c;omega⟩
def xb{xs:List ah}(h:i<xs.length:=by omega):(xs.map eL)[(i:Int).toNat]? =some (eL xs[i]):=by simp[h]
def ww(xs:List ah):(xs.map eL).length=xs.length:=aX ..
def Yf{α:Type}{xs:List α}{p:α->Prop}(h: ∀x∈xs.take i,p x)(hi:i<xs.length)(hy:p xs[i]): ∀x∈xs.take (i+1),p x:=by
 intro x hx;rw[jT hi] at hx;simp only[aL,aT] at hx;rcases hx with hx|rfl
 .exact h x hx
 .exact hy
def ah.ext'{m:ah}(h1:l.a=m.a:=by omega)(h2:l.b=m.b:=by omega)(h3:l.c=m.c:=by omega):l=m:=by cases l;cases m;simp_all
def fP(ls:List ah):c9 6 (ls.map eL):=fun d hd=>by
 obtain⟨n,_,rfl⟩:=aU.1 hd;exact⟨rfl,rfl⟩
def iO{z:Int}:PF GB prog 118 [eI z] (eQ (z:Rat)):=by
 refine fn func118 J J ntmps118 J J (fun C=>?_);exact rz J (by rw[CU];rfl)
def B9:PF GB prog 21 [eL l] (eL l.rev):=by
 refine fn func21 J J ntmps21 J J (fun C=>?_);refine cl J Cq J<|cl J Cq J<|cl J Cq J<|rz J J
class LB (l:ah):Prop where bl:BL l 96
instance LB.a (l:ah) [h:LB l]:BI l.a 96:=⟨h.bl.a⟩
instance LB.b (l:ah) [h:LB l]:BI l.b 96:=⟨h.bl.b⟩
instance LB.c (l:ah) [h:LB l]:BI l.c 96:=⟨h.bl.c⟩
class aE (p:aa) (k:outParam Nat):Prop where
 x:BQ p.x k
 y:BQ p.y k
instance aE.ix (p:aa) (k:Nat) [h:aE p k]:BQ p.x k:=h.x
instance aE.iy (p:aa) (k:Nat) [h:aE p k]:BQ p.y k:=h.y
instance aE.dir (l:ah) [LB l]:aE l.dir 97:=⟨inferInstanceAs (BQ (l.b:Rat) 97),inferInstanceAs (BQ (-(l.a:Rat)) 97)⟩
instance BQ.dot (p q:aa) (i j:Nat) [aE p i] [aE q j]:BQ (p.dot q) (i+j+(i+j)+1):=inferInstanceAs (BQ (p.x*q.x+p.y*q.y) _)
instance BQ.cross (p q:aa) (i j:Nat) [aE p i] [aE q j]:BQ (p.cross q) (i+j+(i+j)+1):=inferInstanceAs (BQ (p.x*q.y-p.y*q.x) _)
instance aE.mov (p q:aa) (c:Rat) (i j k:Nat) [aE p i] [aE q j] [BQ c k]:aE (b8 p q c) (i+(k+j)+1):=⟨inferInstanceAs (BQ (p.x+c*q.x) _),inferInstanceAs (BQ (p.y+c*q.y) _)⟩
instance BQ.value (l:ah) (p:aa) (i:Nat) [LB l] [aE p i]:BQ (l.value p) (96+1+i+(96+1+i)+1+(96+1)+1):=inferInstanceAs (BQ ((l.a:Rat)*p.x+(l.b:Rat)*p.y+(l.c:Rat)) _)
def M9(h:l.Ne):l.dir.dot l.dir≠0:=by have:=CJ h;grind
def vv:PF GB prog 66 [eL l] (eP l.dir):=by
 refine fn func66 J J ntmps66 J J (fun C=>?_);refine cl J iO J<|cl J iO J<|cl J vN J<|rz J J
def He{p q:aa}[hp:aE p i][hq:aE q j](hi:i<=200000:=by decide)(hj:j<=200000:=by decide):PF GB prog 218 [eP p,eP q] (eQ (p.dot q)):=by
 refine fn func218 J J ntmps218 J J (fun C=>?_);refine cl J (jh (by omega) (by omega)) J<|cl J (jh (by omega) (by omega)) J<|cl J (nE (by omega) (by omega)) J<|rz J J
def GI{p q:aa}[hp:aE p i][hq:aE q j](hi:i<=200000:=by decide)(hj:j<=200000:=by decide):PF GB prog 139 [eP p,eP q] (eQ (p.cross q)):=by
 refine fn func139 J J ntmps139 J J (fun C=>?_);refine cl J (jh (by omega) (by omega)) J<|cl J (jh (by omega) (by omega)) J<|cl J (rB (by omega) (by omega)) J<|rz J J
def wU{p q:aa}{c:Rat}[hp:aE p i][hq:aE q j][hc:BQ c k](hi:i<=19000000:=by decide)(hj:j<=9000000:=by decide)(hk:k<=9000000:=by decide):PF GB prog 31 [eP p,eQ c,eP q] (eP (b8 p q c)):=by
 refine fn func31 J J ntmps31 J J (fun C=>?_);refine cl J (jh (by omega) (by omega)) J<|cl J (nE (by omega) (by omega)) J<|cl J (jh (by omega) (by omega)) J<|cl J (nE (by omega) (by omega)) J<|rz J J
def EB{p:aa}[hl:LB l][hp:aE p i](hi:i<=400000:=by decide):PF GB prog 56 [eL l,eP p] (eQ (l.value p)):=by
 refine fn func56 J J ntmps56 J J (fun C=>?_);refine cl J (iO (z:=l.a)) J<|cl J (jh (by omega) (by omega)) J<|cl J (iO (z:=l.b)) J<|cl J (jh (by omega) (by omega)) J<|cl J (nE (by omega) (by omega)) J<|cl J (iO (z:=l.c)) J<|cl J (nE (by omega) (by omega)) J<|rz J J
def B6{p:aa}[hl:LB l][hp:aE p i](hi:i<=400000:=by decide):PF GB prog 19 [eL l,eP p] (vI (l.value p).num.sign):=by
 refine fn func19 J J ntmps19 J J (fun C=>?_);refine cl J (EB hi) J<|cl J sB J<|rz J J
def Fi[hl:LB l](hn:l.Ne):PF GB prog 137 [eL l] (eP l.base):=by
 refine fn func137 J J ntmps137 J J (fun C=>?_);refine cl J vv J<|cl J (iO (z:=l.c)) J<|cl J He J<|cl J (w8 (M9 hn)) J<|cl J vN J<|cl J (iO (z:=l.a)) J<|cl J jh J<|cl J (iO (z:=l.b)) J<|cl J jh J<|rz J (by rw[<-SA];rfl)
instance aE.base (l:ah) [LB l]:aE l.base 900:=by
 rw[<-SA];constructor
 .exact BQ.mono (inferInstance:BQ (-((l.c:Rat)/l.dir.dot l.dir)*(l.a:Rat)) _)
 .exact BQ.mono (inferInstance:BQ (-((l.c:Rat)/l.dir.dot l.dir)*(l.b:Rat)) _)
def SM[hl:LB l][ht:BQ t k](hn:l.Ne)(hk:k<=200000:=by decide):PF GB prog 241 [eL l,eQ t] (eP (l.at t)):=by
 refine fn func241 J J ntmps241 J J (fun C=>?_);refine cl J (Fi hn) J<|cl J vv J<|cl J (wU (by decide) (by decide) (by omega)) J<|rz J (by rw[<-An];rfl)
def DO{p:aa}[hl:LB l][hp:aE p k](hn:l.Ne)(hk:k<=200000:=by decide):PF GB prog 138 [eL l,eP p] (eQ (ju l p)):=by
 refine fn func138 J J ntmps138 J J (fun C=>?_);refine cl J vv J<|cl J (He (by omega) (by decide)) J<|cl J (He (by omega) (by decide)) J<|cl J (w8 (M9 hn) (by omega) (by decide)) J<|rz J J
instance BI.crossI (l m:ah) [LB l] [LB m]:BI (crossI l m) 385:=inferInstanceAs (BI (l.a*m.b-m.a*l.b) 385)
instance BI.meetX (l m:ah) [LB l] [LB m]:BI (meetX l m) 385:=inferInstanceAs (BI (l.b*m.c-m.b*l.c) 385)
instance BI.meetY (l m:ah) [LB l] [LB m]:BI (meetY l m) 385:=inferInstanceAs (BI (m.a*l.c-l.a*m.c) 385)
instance aE.imeet (l m:ah) [LB l] [LB m]:aE (dm l m) 772:=by
 unfold dm;split
 .exact⟨BQ.mono (k:=1) ⟨by decide,by decide⟩,BQ.mono (k:=1) ⟨by decide,by decide⟩⟩
 .exact⟨inferInstanceAs (BQ ((meetX l m:Rat)/(crossI l m:Rat)) 772),inferInstanceAs (BQ ((meetY l m:Rat)/(crossI l m:Rat)) 772)⟩
def Q6(l m:ah):(((l.a:Rat)*(m.b:Rat)-(m.a:Rat)*(l.b:Rat)).num.sign=0)↔crossI l m=0:=by
 rw[me,<-uO];exact cR
def Ol{m:ah}(h:crossI l m≠0):(l.a:Rat)*(m.b:Rat)-(m.a:Rat)*(l.b:Rat)≠0:=by
 rw[<-uO];exact fun e=>h (cR.1 e)
def K3{m:ah}[hl:LB l][hm:LB m]:PF GB prog 136 [eL l,eL m] (.tp [eP (dm l m),vB (decide (crossI l m≠0))]):=by
 refine fn func136 J J ntmps136 J J (fun C=>?_);refine cl J (iO (z:=l.a)) J<|cl J (iO (z:=m.b)) J<|cl J jh J<|cl J (iO (z:=m.a)) J<|cl J (iO (z:=l.b)) J<|cl J jh J<|cl J rB J<|cl J sB J<|br J J J (fun hc26=>?_) (fun hc26=>?_)
 .
  have hcr:=(Q6 l m).1 hc26;exact rz J (by unfold dm;rw[if_pos hcr,decide_eq_false (fun e=>e hcr)];show DV.tp [.ag [_, .sl [], .sl [],_, .sl [], .sl []],_]= .tp [eP ⟨0,0⟩,_];unfold eP dD;simp only[show(0:Rat).num=0 from J,show(0:Rat).den=1 from J,lT,nk];rfl)
 .
  have hcr:crossI l m≠0:=fun e=>hc26 ((Q6 l m).2 e);refine cl J (iO (z:=l.b)) J<|cl J (iO (z:=m.c)) J<|cl J jh J<|cl J (iO (z:=m.b)) J<|cl J (iO (z:=l.c)) J<|cl J jh J<|cl J rB J<|cl J (iO (z:=m.a)) J<|cl J (iO (z:=l.c)) J<|cl J jh J<|cl J (iO (z:=l.a)) J<|cl J (iO (z:=m.c)) J<|cl J jh J<|cl J rB J<|cl J (w8 (Ol hcr)) J<|cl J (w8 (Ol hcr)) J<|rz J (by unfold dm;rw[if_neg hcr,decide_eq_true hcr,IW,TH,uO];rfl)
def iz(l m:ah):Int:=if(l.a-m.a).sign≠0 then(l.a-m.a).sign else if(l.b-m.b).sign≠0 then(l.b-m.b).sign else(l.c-m.c).sign
def AG(l m:ah):iz l m=0↔l=m:=by
 unfold iz;constructor
 .intro h
  split at h
  .contradiction
  .split at h
   .contradiction
   .rename_i h1 h2
    have a1:=iZ.1 (Decidable.not_not.1 h1);have a2:=iZ.1 (Decidable.not_not.1 h2);have a3:=iZ.1 h;exact ah.ext'
 .rintro rfl
  simp
def DY{m:ah}[hl:LB l][hm:LB m]:PF GB prog 67 [eL l,eL m] (vI (iz l m)):=by
 refine fn func67 J J ntmps67 J J (fun C=>?_);refine cl J (Js (a:=l.a) (b:=m.a)) J<|br J J J (fun hc13=>?_) (fun hc13=>?_)
 .
  exact rz J (by show vI _=_;unfold iz;rw[if_pos hc13])
 .
  refine cl J (Js (a:=l.b) (b:=m.b)) J<|br J J J (fun hc21=>?_) (fun hc21=>?_)
  .
   exact rz J (by show vI _=_;unfold iz;rw[if_neg hc13,if_pos hc21])
  .
   refine cl J (Js (a:=l.c) (b:=m.c)) J<|rz J (by show vI _=_;unfold iz;rw[if_neg hc13,if_neg hc21])
def Sq{v:aa}:PF GB prog 141 [eP v] (vI v.half):=by
 refine fn func141 J J ntmps141 J J (fun C=>?_);refine cl J (sB (q:=v.x)) J<|cl J (sB (q:=v.y)) J<|cs 13 J J J (fun hg13=>?_) (fun hg13=>?_)
 .
  refine br J J J (fun hc16=>?_) (fun hc16=>?_)
  .
   exact rz J (by show vI _=vI _;unfold aa.half;generalize v.x.num.sign=sx at*;generalize v.y.num.sign=sy at*;congr 1;(repeat' split)<;>omega)
  .
   refine cs 19 J J J (fun hg19=>?_) (fun hg19=>?_)
   .
    exact rz J (by show vI _=vI _;unfold aa.half;generalize v.x.num.sign=sx at*;generalize v.y.num.sign=sy at*;congr 1;(repeat' split)<;>omega)
   .
    refine cs 22 J J J (fun hg22=>?_) (fun hg22=>?_)
    .
     refine br J J J (fun hc26=>?_) (fun hc26=>?_)
     .
      exact rz J (by show vI _=vI _;unfold aa.half;generalize v.x.num.sign=sx at*;generalize v.y.num.sign=sy at*;congr 1;(repeat' split)<;>omega)
     .
      exact rz J (by show vI _=vI _;unfold aa.half;generalize v.x.num.sign=sx at*;generalize v.y.num.sign=sy at*;congr 1;(repeat' split)<;>omega)
    .
     exact rz J (by show vI _=vI _;unfold aa.half;generalize v.x.num.sign=sx at*;generalize v.y.num.sign=sy at*;congr 1;(repeat' split)<;>omega)
 .
  refine cs 19 J J J (fun hg19=>?_) (fun hg19=>?_)
  .
   exact rz J (by show vI _=vI _;unfold aa.half;generalize v.x.num.sign=sx at*;generalize v.y.num.sign=sy at*;congr 1;(repeat' split)<;>omega)
  .
   refine cs 22 J J J (fun hg22=>?_) (fun hg22=>?_)
   .
    refine br J J J (fun hc26=>?_) (fun hc26=>?_)
    .
     exact rz J (by show vI _=vI _;unfold aa.half;generalize v.x.num.sign=sx at*;generalize v.y.num.sign=sy at*;congr 1;(repeat' split)<;>omega)
    .
     exact rz J (by show vI _=vI _;unfold aa.half;generalize v.x.num.sign=sx at*;generalize v.y.num.sign=sy at*;congr 1;(repeat' split)<;>omega)
   .
    exact rz J (by show vI _=vI _;unfold aa.half;generalize v.x.num.sign=sx at*;generalize v.y.num.sign=sy at*;congr 1;(repeat' split)<;>omega)
def aID(z:Int): -1<=z.sign/\z.sign<=1:=by
 rcases lV z 0 with h|h|h
 .rw[dY h];omega
 .rw[h];decide
 .rw[eK h];omega
def Xo{u v:aa}[hu:aE u i][hv:aE v j](hi:i<=200000:=by decide)(hj:j<=200000:=by decide):PF GB prog 65 [eP u,eP v] (vI (co u v)):=by
 refine fn func65 J J ntmps65 J J (fun C=>?_);refine cl J (Sq (v:=u)) J<|cl J (Sq (v:=v)) J<|br J J J (fun hc13=>?_) (fun hc13=>?_)
 .
  refine br J J J (fun hc16=>?_) (fun hc16=>?_)
  .
   exact rz J (by show vI _=vI _;unfold co;rw[if_pos hc16])
  .
   exact rz J (by show vI _=vI _;unfold co;rw[if_neg hc16,if_pos (by omega)])
 .
  refine cl J (GI hi hj) J<|cl (hv:=by simp only[ak];exact(by have:=aID (u.cross v).num;omega)) J sB J<|rz J (by show vI _=vI _;unfold co;rw[if_neg (by omega),if_neg (by omega)])
instance BQ.i1:BQ (((1:Int):Rat)) 2:=⟨by decide,by decide⟩
def eV(v:ao):DV:= .ag [.v (.bool (decide (v.lo.num<0))),dN v.lo.num.natAbs,dD v.lo.den, .v (.bool (decide (v.hi.num<0))),dN v.hi.num.natAbs,dD v.hi.den, .v (.bool v.nl), .v (.bool v.nh)]
def XU:eV ao.all= .ag [.v (.bool false), .sl [], .sl [], .v (.bool false), .sl [], .sl [], .v (.bool true), .v (.bool true)]:=by
 unfold eV ao.all dD;simp only[show(0:Rat).num=0 from J,show(0:Rat).den=1 from J,lT,nk];rfl
def GN:eQ 0= .ag [.v (.bool false), .sl [], .sl []]:=by
 unfold eQ dD;simp only[show(0:Rat).num=0 from J,show(0:Rat).den=1 from J,lT,nk];rfl
def kO(v:ao):Rat:=if v.nl=true/\v.nh=true then 0 else if v.nl=true then v.hi-1 else if v.nh=true then v.lo+1 else(v.lo+v.hi)/2
def S1:PF GB prog 135 [] (eV ao.all):=by
 refine fn func135 J J ntmps135 J J (fun C=>?_);exact rz J (by rw[XU];rfl)
def aAu[hl:BQ v.lo i][hh:BQ v.hi i](hi:i<=100000:=by decide):PF GB prog 242 [eV v] (eQ (kO v)):=by
 refine fn func242 J J ntmps242 J J (fun C=>?_);refine iC 6 J J J (fun hg6=>?_) (fun hg6=>?_)
 .
  refine bb J J J (fun hc3=>?_) (fun hc3=>?_)
  .
   exact rz J (by unfold kO;rw[if_pos ⟨hg6,hc3⟩,GN];rfl)
  .
   refine bb J J J (fun hc11=>?_) (fun hc11=>?_)
   .
    refine cl J (jl (n:=1)) J<|cl J (rB (a:=v.hi) (b:=((1:Int):Rat)) (by omega) (by decide)) J<|rz J (by unfold kO;rw[if_neg (by simp[hc3]),if_pos hc11];rfl)
   .
    refine bb J J J (fun hc18=>?_) (fun hc18=>?_)
    .
     refine cl J (jl (n:=1)) J<|cl J (nE (a:=v.lo) (b:=((1:Int):Rat)) (by omega) (by decide)) J<|rz J (by simp[hg6] at hc11)
    .
     refine cl J (EM (a:=v.lo) (b:=v.hi) (by omega) (by omega)) J<|rz J (by simp[hg6] at hc11)
 .
  refine bb J J J (fun hc11=>?_) (fun hc11=>?_)
  .
   refine cl J (jl (n:=1)) J<|cl J (rB (a:=v.hi) (b:=((1:Int):Rat)) (by omega) (by decide)) J<|rz J (by simp[hg6] at hc11)
  .
   refine bb J J J (fun hc18=>?_) (fun hc18=>?_)
   .
    refine cl J (jl (n:=1)) J<|cl J (nE (a:=v.lo) (b:=((1:Int):Rat)) (by omega) (by decide)) J<|rz J (by unfold kO;rw[if_neg (by simp[hg6]),if_neg (by simp[hg6]),if_pos hc18];rfl)
   .
    refine cl J (EM (a:=v.lo) (b:=v.hi) (by omega) (by omega)) J<|rz J (by unfold kO;rw[if_neg (by simp[hg6]),if_neg (by simp[hg6]),if_neg (by simp[hc18])];rfl)
theorem BQ.of_fracI(hd:0<D.natAbs)(h:q*((D.natAbs:Nat):Rat)=(n:Rat))(hn:BI n i)(hD:BI D i):BQ q i:=BQ.of_frac hd h hn.h hD.h
theorem Du(h:BI m i)(hij:i<=j:=by decide):BI m j:=⟨dJ h.h (bL (by decide) hij)⟩
theorem CQ{m:ah}[LB l][LB m](hn:l.Ne)(h:crossI l m≠0):BQ (ju l (dm l m)) 1200:=by
 have e:=atK hn h;have hA:BI (crossI l m*(l.a*l.a+l.b*l.b)) _:=inferInstance;have hB:BI (meetX l m*l.b-meetY l m*l.a) _:=inferInstance;have hne:crossI l m*(l.a*l.a+l.b*l.b)≠0:=by
  intro q;rcases pM.1 q with q|q
  .exact h q
  .have h1:=CJ hn
   simp only[ah.dir,aa.dot] at h1;have h2:((l.a*l.a+l.b*l.b:Int):Rat)=((0:Int):Rat):=by rw[q]
   rw[lU,cX,cX] at h2;have h3:((0:Int):Rat)=0:=J;rw[h3] at h2;grind
 have hA':=Du (j:=1200) hA;have hB':=Du (j:=1200) hB;generalize crossI l m*(l.a*l.a+l.b*l.b)=D at*;generalize meetX l m*l.b-meetY l m*l.a=M at*;by_cases hD:0<D
 .refine BQ.of_fracI (n:=M) (D:=D) (by omega) ?_ hB' hA'
  rw[<-e];congr 1;have:((D.natAbs:Nat):Int)=D:=by omega
  rw[<-this];rfl
 .refine BQ.of_fracI (n:= -M) (D:=D) (by omega) ?_ (BI.neg M 1200 (h:=hB')) hA'
  rw[iL,<-e];have:((D.natAbs:Nat):Rat)= -(D:Rat):=by
   have h1:((D.natAbs:Nat):Int)= -D:=by omega
   rw[<-iL,<-h1];rfl
  rw[this];grind
def S5(k:Rat):k.num.sign<=0↔ ¬0<k:=by rw[<-kC];omega
def Xr(h1: ¬w.nl=true)(h2: ¬w.nh=true)(h3:0<=bz w.lo w.hi):w.empty=true:=by
 unfold ao.empty;simp[h1,h2,h3]
def ZV(h:w.nl=true):w.empty=false:=by unfold ao.empty;simp[h]
def VP(h:w.nh=true):w.empty=false:=by unfold ao.empty;simp[h]
def We(h: ¬0<=bz w.lo w.hi):w.empty=false:=by unfold ao.empty;simp[h]
def gj(l:ah):List ah->ao->ao×Bool
 |[],v=>(v,true)
 |m::t,v=>if m=l then gj l t v else if l.cutB v m=true then gj l t (l.cutV v m) else(l.cutV v m,false)
def yj{l:ah}: ∀{c:List ah} {v:ao},(gj l c v).2=(ge l c v).isSome
 |[],v=>rfl
 |m::t,v=>by
  rw[gj,HI];split
  .exact yj
  .split
   .exact yj
   .rfl
structure jB (l:ah) (c:List ah) (k:Nat) (v:ao):Prop where
 le:k<=c.length
 p:ge l (c.drop k) v=ge l c ao.all
 e:gj l (c.drop k) v=gj l c ao.all
 z:il v
 lo:BQ v.lo 1200
 hi:BQ v.hi 1200
def jB.skip{c:List ah}(h:jB l c k v)(hk:k<c.length)(e:c[k]=l):jB l c (k+1) v:=
 ⟨hk,by have:=h.p;rw[bJ hk,HI,if_pos e] at this;exact this,by have:=h.e;rw[bJ hk,gj,if_pos e] at this;exact this,h.z,h.lo,h.hi⟩
def jB.cut{c:List ah}(h:jB l c k v)(hk:k<c.length)(e:c[k]≠l)(hb:l.cutB v c[k]=true)(hw:l.cutV v c[k]=w)(z:il w)(lo:BQ w.lo 1200)(hi:BQ w.hi 1200):jB l c (k+1) w:=
 ⟨hk,by have:=h.p;rw[bJ hk,HI,if_neg e,if_pos hb,hw] at this;exact this,by have:=h.e;rw[bJ hk,gj,if_neg e,if_pos hb,hw] at this;exact this,z,lo,hi⟩
def jB.no{c:List ah}(h:jB l c k v)(hk:k<c.length)(e:c[k]≠l)(hb:l.cutB v c[k]=false)(hw:l.cutV v c[k]=w):gj l c ao.all=(w,false):=by
 rw[<-h.e,bJ hk,gj,if_neg e,if_neg (by rw[hb];decide),hw]
def jB.yes{c:List ah}(h:jB l c k v)(hk:c.length<=k):gj l c ao.all=(v,true):=by
 rw[<-h.e,jU hk];rfl
def jB.all{l:ah}{c:List ah}:jB l c 0 ao.all:=⟨bV _,by rw[iV],by rw[iV],il.all,BQ.mono (k:=1) ⟨by decide,by decide⟩,BQ.mono (k:=1) ⟨by decide,by decide⟩⟩
def Sy(h:v.nl=true\/0<bz t v.lo):(⟨t,v.hi,false,v.nh⟩:ao)=pD v t:=by unfold pD;rw[if_pos h]
def aDJ(h: ¬v.nl=true)(h2: ¬0<bz t v.lo):v=pD v t:=by unfold pD;rw[if_neg (fun e=>e.elim h h2)]
def Sk(h:v.nh=true\/bz t v.hi<0):(⟨v.lo,t,v.nl,false⟩:ao)=pC v t:=by unfold pC;rw[if_pos h]
def Yw(h: ¬v.nh=true)(h2: ¬bz t v.hi<0):v=pC v t:=by unfold pC;rw[if_neg (fun e=>e.elim h h2)]
def om(l m:ah)(v:ao):ao:=if 0<(m.dir.cross l.dir).num.sign then pD v (ju l (dm l m)) else pC v (ju l (dm l m))
def IQ{m:ah}[LB l][LB m](hn:l.Ne)(hz:il v)(hlo:BQ v.lo 1200)(hhi:BQ v.hi 1200)(h0:crossI l m≠0):l.cutV v m=om l m v/\l.cutB v m=!(om l m v).empty/\il (om l m v)/\BQ (om l m v).lo 1200/\BQ (om l m v).hi 1200:=by
 have hb:=CQ (l:=l) (m:=m) hn h0;unfold om;split
 .rename_i h
  obtain⟨_,h1,h2⟩:=aC2 hn hz ((kC _).1 h);refine⟨h1,h2,hz.lo' _,?_⟩;unfold pD;split
  .exact⟨hb,hhi⟩
  .exact⟨hlo,hhi⟩
 .rename_i h
  obtain⟨h1,h2⟩:=WA hn hz h0 (fun e=>h ((kC _).2 e));refine⟨h1,h2,hz.hi' _,?_⟩;unfold pC;split
  .exact⟨hlo,hb⟩
  .exact⟨hlo,hhi⟩
theorem El{l:ah}[LB l](hn:l.Ne): ∀{c:List ah} {v:ao},(∀m∈c,LB m)->il v->BQ v.lo 1200->BQ v.hi 1200->BQ (gj l c v).1.lo 1200/\BQ (gj l c v).1.hi 1200
 |[],v,_,_,h1,h2=>⟨h1,h2⟩
 |m::t,v,hc,hz,h1,h2=>by
  haveI:=hc m aQ;have hw:il (l.cutV v m)/\BQ (l.cutV v m).lo 1200/\BQ (l.cutV v m).hi 1200:=by
   by_cases h0:crossI l m=0
   .rw[(Ck (v:=v) h0).1];exact⟨hz,h1,h2⟩
   .obtain⟨u1,_,u3,u4,u5⟩:=IQ (v:=v) hn hz h1 h2 h0
    rw[u1];exact⟨u3,u4,u5⟩
  have hc':=fun m hm=>hc m (aJ _ hm);rw[gj];split
  .exact El hn hc' hz h1 h2
  .split
   .exact El hn hc' hw.1 hw.2.1 hw.2.2
   .exact hw.2
def MU{c:List ah}(hc: ∀m∈c,LB m)(hok: ∀m∈c,m.ok)(hn:c.length<=1000)(hi:i<c.length):PF GB prog 64 [.sl (c.map eL),vI (i:Nat)] (.tp [eV (gj (c[i]'hi) c ao.all).1,vB (gj (c[i]'hi) c ao.all).2]):=by
 have hcl:=ww c;obtain⟨l,hl⟩: ∃l,l=c[i]:=⟨_,rfl⟩;rw[<-hl];haveI hlb:LB l:=hl▸hc _ (cN hi);have hlo:l.ok:=hl▸hok _ (cN hi);refine fn func64 J J ntmps64 J J (fun C=>?_);refine ix (fu:=⟨1⟩) _ J (xb hi) J<|aj 16 (.d (eL l)) J (by rw[hl];rfl)<|gx J<|cl (fu:=⟨9⟩) J S1 J<|aj 19 (.d (vI (c.length:Nat))) J (by rw[hcl];rfl)<|gx J<|lp (X:=ao×Nat) (fun⟨v,k⟩=>[(20, .d (vI (k:Nat))),(19, .d (vI (c.length:Nat))),(18, .d (.sl (c.map eL))),(1, .d (vI (i:Nat))),(6, .ov 6 0),(7, .ov 7 0),(4, .ov 4 0)]) (fun⟨v,k⟩=>[(7,some (.o 134 [.d ((.v (.bool (decide (v.lo.num<0))))), .d (dN v.lo.num.natAbs), .d (dD v.lo.den), .d ((.v (.bool (decide (v.hi.num<0))))), .d (dN v.hi.num.natAbs), .d (dD v.hi.den), .d ((.v (.bool v.nl))), .d ((.v (.bool v.nh)))] true)),(6,some (.o 55 [.d ((.v (.bool (decide (l.a<0))))), .d (dN l.a.natAbs), .d ((.v (.bool (decide (l.b<0))))), .d (dN l.b.natAbs), .d ((.v (.bool (decide (l.c<0))))), .d (dN l.c.natAbs)] true)),(4,some (.o 134 [.ff, .nl, .nl, .ff, .nl, .nl, .ff, .ff] true))]) (fun⟨v,k⟩=>jB l c k v) (fun⟨v,k⟩=>c.length-k) ⟨ao.all,0⟩ J jB.all (fun _=>J) (fun⟨v,k⟩ hk=>?_)
 try dsimp only at hk⊢
 have hS:=hk;refine br J J J (fun hc21=>?_) (fun hc21=>?_)
 .
  have hk:k<c.length:=by omega
  obtain⟨m,hm⟩: ∃m,m=c[k]:=⟨_,rfl⟩;haveI hmb:LB m:=hm▸hc _ (cN hk);have hmo:m.ok:=hm▸hok _ (cN hk);refine ix (fu:=⟨1⟩) _ J (xb hk) J<|aj 24 (.d (eL m)) J (by rw[hm];rfl)<|gx J<|cs 28 J J J (fun hg28=>?_) (fun hg28=>?_)
  .
   have hinv:jB l c (k+1) v:=hS.skip hk (by rw[hl];congr 1;omega);exact at_ ⟨v,k+1⟩ (by dsimp only;exact⟨hinv,(by omega)⟩)
  .
   refine cl J (DY (l:=l) (m:=m)) J<|br J J J (fun hc33=>?_) (fun hc33=>?_)
   .
    have hinv:jB l c (k+1) v:=hS.skip hk (by rw[<-hm,(AG l m).1 hc33]);exact at_ ⟨v,k+1⟩ (by dsimp only;exact⟨hinv,(by omega)⟩)
   .
    have hne:c[k]≠l:=fun e=>hc33 ((AG l m).2 (by rw[hm,e]));refine cl (fu:=⟨13⟩) J (K3 (l:=l) (m:=m)) J<|aj 41 (.d (.v (.bool (decide (crossI l m=0))))) J (by simp)<|gx J<|bd J J J (fun hc41=>?_) (fun hc41=>?_)
    .
     refine cl J (Fi hlo.ne) J<|cl J (B6 (l:=m) (p:=l.base)) J<|br J J J (fun hc46=>?_) (fun hc46=>?_)
     .
      have hno:=hS.no (w:=v) hk hne (by have:=(Ck (v:=v) hc41).2;rw[<-hm];cases hb:l.cutB v m with|false=>rfl|true=>exact absurd (this.1 hb) ((S5 _).1 hc46)) (by rw[<-hm];exact(Ck (v:=v) hc41).1);exact rz J (by rw[hno];rfl)
     .
      have hinv:jB l c (k+1) v:=by have:=Ck (v:=v) hc41;exact hS.cut hk hne (by rw[<-hm];exact this.2.2 (by have:=mt (S5 (m.value l.base)).2 hc46;exact Decidable.not_not.1 this)) (by rw[<-hm];exact this.1) hS.z hS.lo hS.hi
      exact at_ ⟨v,k+1⟩ (by dsimp only;exact⟨hinv,(by omega)⟩)
    .
     obtain⟨u1,u2,u3,u4,u5⟩:=IQ (v:=v) hlo.ne hS.z hS.lo hS.hi hc41;haveI htb:=CQ hlo.ne hc41;haveI hvl:=hS.lo;haveI hvh:=hS.hi;refine cl (fu:=⟨0⟩) J (DO (l:=l) (p:=dm l m) hlo.ne) J<|?_;obtain⟨t,ht⟩: ∃t,t=ju l (dm l m):=⟨_,rfl⟩;refine aj 50 (.d (eQ t)) J (by rw[ht]) ?_;rw[<-ht] at htb;refine gx (fu:=⟨5⟩) J<|mg (X:=ao) (fun w=>[(20, .d (vI (k:Nat))),(19, .d (vI (c.length:Nat))),(18, .d (.sl (c.map eL))),(1, .d (vI (i:Nat))),(6, .ov 6 0),(7, .ov 7 0),(4, .ov 4 0)]) (fun w=>[(7,some (.o 134 [.d ((.v (.bool (decide (w.lo.num<0))))), .d (dN w.lo.num.natAbs), .d (dD w.lo.den), .d ((.v (.bool (decide (w.hi.num<0))))), .d (dN w.hi.num.natAbs), .d (dD w.hi.den), .d ((.v (.bool w.nl))), .d ((.v (.bool w.nh)))] true)),(6,some (.o 55 [.d ((.v (.bool (decide (l.a<0))))), .d (dN l.a.natAbs), .d ((.v (.bool (decide (l.b<0))))), .d (dN l.b.natAbs), .d ((.v (.bool (decide (l.c<0))))), .d (dN l.c.natAbs)] true)),(4,some (.o 134 [.ff, .nl, .nl, .ff, .nl, .nl, .ff, .ff] true))]) (fun w=>w=om l m v) [20,19,18,1,6,7,4] [7,6,4] rfl ?_ (fun _=>J) (fun w hw=>?_)
     .
      refine gx J<|cl J (vv (l:=m)) J<|cl J (vv (l:=l)) J<|cl J (GI (p:=m.dir) (q:=l.dir)) J<|cl J (sB (q:=m.dir.cross l.dir)) J<|br J J J (fun hc57=>?_) (fun hc57=>?_)
      .
       refine iC 60 J J J (fun hg60=>?_) (fun hg60=>?_)
       .
        refine FY 7 J J J<|at_ ⟨t,v.hi,false,v.nh⟩ (by unfold om;rw[if_pos hc57,<-ht];exact Sy (.inl hg60))
       .
        refine cl J (mp (a:=t) (b:=v.lo)) J<|br J J J (fun hc66=>?_) (fun hc66=>?_)
        .
         refine FY 7 J J J<|at_ ⟨t,v.hi,false,v.nh⟩ (by unfold om;rw[if_pos hc57,<-ht];exact Sy (.inr hc66))
        .
         exact at_ v (by unfold om;rw[if_pos hc57,<-ht];exact aDJ (by simp[hg60]) hc66)
      .
       refine iC 72 J J J (fun hg72=>?_) (fun hg72=>?_)
       .
        refine FY 7 J J J<|at_ ⟨v.lo,t,v.nl,false⟩ (by unfold om;rw[if_neg hc57,<-ht];exact Sk (.inl hg72))
       .
        refine cl J (mp (a:=t) (b:=v.hi)) J<|br J J J (fun hc78=>?_) (fun hc78=>?_)
        .
         refine FY 7 J J J<|at_ ⟨v.lo,t,v.nl,false⟩ (by unfold om;rw[if_neg hc57,<-ht];exact Sk (.inr hc78))
        .
         exact at_ v (by unfold om;rw[if_neg hc57,<-ht];exact Yw (by simp[hg72]) hc78)
     .
      rw[<-hw] at u1 u2 u3 u4 u5;haveI:=u4;haveI:=u5;refine iC 85 J J J (fun hg85=>?_) (fun hg85=>?_)
      .
       refine iC 90 J J J (fun hg90=>?_) (fun hg90=>?_)
       .
        refine cl J (mp (a:=w.lo) (b:=w.hi)) J<|br J J J (fun hc97=>?_) (fun hc97=>?_)
        .
         have hno:=hS.no (w:=w) hk hne (by rw[<-hm,u2,Xr (by simpa using hg85) (by simpa using hg90) hc97];rfl) (by rw[<-hm,u1]);exact rz J (by rw[hno];rfl)
        .
         have hinv:jB l c (k+1) w:=hS.cut hk hne (by rw[<-hm,u2,We hc97];rfl) (by rw[<-hm,u1]) u3 u4 u5;exact at_ ⟨w,k+1⟩ (by dsimp only;exact⟨hinv,(by omega)⟩)
       .
        have hinv:jB l c (k+1) w:=hS.cut hk hne (by rw[<-hm,u2,VP (by simpa using hg90)];rfl) (by rw[<-hm,u1]) u3 u4 u5;exact at_ ⟨w,k+1⟩ (by dsimp only;exact⟨hinv,(by omega)⟩)
      .
       have hinv:jB l c (k+1) w:=hS.cut hk hne (by rw[<-hm,u2,ZV (by simpa using hg85)];rfl) (by rw[<-hm,u1]) u3 u4 u5;exact at_ ⟨w,k+1⟩ (by dsimp only;exact⟨hinv,(by omega)⟩)
 .
  exact rz J (by rw[hS.yes (by omega)];rfl)
def c8(l:ah):DV:= .ag [vI (dC (l.a:Rat)),vI (dx (l.a:Rat)),di (l.a:Rat),vI (dC (l.b:Rat)),vI (dx (l.b:Rat)),di (l.b:Rat),vI (dC (l.c:Rat)),vI (dx (l.c:Rat)),di (l.c:Rat)]
def eZ(p:aa):DV:= .ag [vI (dC p.x),vI (dx p.x),di p.x,vI (dC p.y),vI (dx p.y),di p.y]
def eW(v:ao):DV:= .ag [vI (dC v.lo),vI (dx v.lo),di v.lo,vI (dC v.hi),vI (dx v.hi),di v.hi, .v (.bool v.nl), .v (.bool v.nh)]
def Fm{t:List DV}(h:IsLs G (vI 0::vI 0:: .v (.pointer none)::t) vs):IsLs G (vI (dC 0)::vI (dx 0)::di 0::t) vs:=by
 obtain⟨y1,l1,rfl,k1,g1⟩:=bj.1 h;obtain⟨y2,l2,rfl,k2,g2⟩:=bj.1 g1;obtain⟨y3,l3,rfl,k3,g3⟩:=bj.1 g2;have e:decide (gz 0)=false:=decide_eq_false fun h=>I7 h J;exact .cons k1 (.cons k2 (.cons (td.2 (.inl ⟨e,aI.1 k3⟩)) g3))
def J6(a:List DV){t:List DV}(h:IsLs G (a++vI 0::vI 0:: .v (.pointer none)::t) vs):IsLs G (a++vI (dC 0)::vI (dx 0)::di 0::t) vs:=by
 obtain⟨x,y,rfl,h1,h2⟩:=h.unapp;exact h1.app (Fm h2)
def ZQ(G:Gh)(y:Value)(k:Is G (.ag [vI 0,vI 0, .v (.pointer none),vI 0,vI 0, .v (.pointer none), .v (.bool true), .v (.bool true)]) y):Is G (eW ao.all) y:=by
 obtain⟨l,rfl,g⟩:=dO.1 k;exact dO.2 ⟨l,J,Fm (J6 [vI 0,vI 0, .v (.pointer none)] g)⟩
def qa:List Int->Int
 |[]=>0
 |a::t=>if a≠0 then a else qa t
theorem aE.nor(l:ah)[LB l]:aE l.nor 97:=⟨inferInstanceAs (BQ (l.a:Rat) 97),inferInstanceAs (BQ (l.b:Rat) 97)⟩
attribute [instance] aE.nor
instance aE.scale (p:aa) (c:Rat) (i k:Nat) [aE p i] [BQ c k]:aE (p.scale c) (i+k):=⟨inferInstanceAs (BQ (p.x*c) _),inferInstanceAs (BQ (p.y*c) _)⟩
instance aE.add (p q:aa) (i j:Nat) [aE p i] [aE q j]:aE (p.add q) (i+j+1):=⟨inferInstanceAs (BQ (p.x+q.x) _),inferInstanceAs (BQ (p.y+q.y) _)⟩
instance LB.revA (l:ah) [h:LB l]:LB l.rev:=⟨⟨by rw[show l.rev.a= -l.a from J,jX];exact h.bl.a,by rw[show l.rev.b= -l.b from J,jX];exact h.bl.b,by rw[show l.rev.c= -l.c from J,jX];exact h.bl.c⟩⟩
def aKb:PF GB prog 254 [] (eW ao.all):=by
 refine fn func254 J J ntmps254 J J (fun C=>?_);exact jq J ZQ
def vd:PF GB prog 123 [c8 l] (eZ l.nor):=by
 refine fn func123 J J ntmps123 J J (fun C=>?_);exact rz J J
def vr[hl:LB l]:PF GB prog 197 [c8 l] (eZ l.dir):=by
 refine fn func197 J J ntmps197 J J (fun C=>?_);refine cl J (pA (q:=(l.a:Rat))) J<|rz J J
def ux{p q:aa}[hp:aE p i][hq:aE q j](hi:i<=40000000:=by decide)(hj:j<=40000000:=by decide):PF GB prog 132 [eZ p,eZ q] (eF (p.dot q)):=by
 refine fn func132 J J ntmps132 J J (fun C=>?_);refine cl J (pf (p:=p.x) (q:=q.x) (by omega) (by omega)) J<|cl J (pf (p:=p.y) (q:=q.y) (by omega) (by omega)) J<|cl J (rI (p:=p.x*q.x) (q:=p.y*q.y) (by omega) (by omega)) J<|rz J J
def AB{p q:aa}[hp:aE p i][hq:aE q j](hi:i<=40000000:=by decide)(hj:j<=40000000:=by decide):PF GB prog 219 [eZ p,eZ q] (eF (p.cross q)):=by
 refine fn func219 J J ntmps219 J J (fun C=>?_);refine cl J (pf (p:=p.x) (q:=q.y) (by omega) (by omega)) J<|cl J (pf (p:=p.y) (q:=q.x) (by omega) (by omega)) J<|cl J (qC (p:=p.x*q.y) (q:=p.y*q.x) (by omega) (by omega)) J<|rz J J
def GJ{p:aa}{c:Rat}[hp:aE p i][hc:BQ c j](hi:i<=40000000:=by decide)(hj:j<=40000000:=by decide):PF GB prog 264 [eZ p,eF c] (eZ (p.scale c)):=by
 refine fn func264 J J ntmps264 J J (fun C=>?_);refine cl J (pf (p:=p.x) (q:=c) (by omega) (by omega)) J<|cl J (pf (p:=p.y) (q:=c) (by omega) (by omega)) J<|rz J J
def Mi{p q:aa}[hp:aE p i][hq:aE q j](hi:i<=40000000:=by decide)(hj:j<=40000000:=by decide):PF GB prog 220 [eZ p,eZ q] (eZ (p.add q)):=by
 refine fn func220 J J ntmps220 J J (fun C=>?_);refine cl J (rI (by omega) (by omega)) J<|cl J (rI (by omega) (by omega)) J<|rz J J
def Tk[hl:LB l]:PF GB prog 257 [c8 l] (eZ l.base):=by
 refine fn func257 J J ntmps257 J J (fun C=>?_);refine cl J vd J<|cl J (pA (q:=(l.c:Rat))) J<|cl J (ux (p:=l.nor) (q:=l.nor)) J<|cl J (BV (p:= -(l.c:Rat)) (q:=l.nor.dot l.nor)) J<|cl J (GJ (p:=l.nor)) J<|rz J J
def Me{p:aa}[hl:LB l][hp:aE p i](hi:i<=10000000:=by decide):PF GB prog 256 [c8 l,eZ p] (eF (l.value p)):=by
 refine fn func256 J J ntmps256 J J (fun C=>?_);refine cl J (vd (l:=l)) J<|cl J (ux (p:=l.nor) (q:=p) (by omega) (by omega)) J<|cl J (rI (p:=l.nor.dot p) (q:=(l.c:Rat)) (by omega) (by omega)) J<|rz J J
def BZ{p:aa}[hl:LB l][hp:aE p i](hi:i<=10000000:=by decide):PF GB prog 224 [c8 l,eZ p] (vI (l.value p).num.sign):=by
 refine fn func224 J J ntmps224 J J (fun C=>?_);refine cl J (Me (l:=l) (p:=p) hi) J<|cl J (lu (q:=l.value p) (by omega)) J<|rz J J
def Pc[hl:LB l][ht:BQ t i](hi:i<=10000000:=by decide):PF GB prog 204 [c8 l,eF t] (eZ (l.at t)):=by
 refine fn func204 J J ntmps204 J J (fun C=>?_);refine cl J (Tk (l:=l)) J<|cl J (vr (l:=l)) J<|cl J (GJ (p:=l.dir) (c:=t) (by omega) (by omega)) J<|cl J (Mi (p:=l.base) (q:=l.dir.scale t) (by omega) (by omega)) J<|rz J J
def aDr[h1:BQ v.lo i][h2:BQ v.hi j](hi:i<=40000000:=by decide)(hj:j<=40000000:=by decide):PF GB prog 299 [eW v] (vB v.empty):=by
 refine fn func299 J J ntmps299 J J (fun C=>?_);refine iC 6 J J J (fun hg6=>?_) (fun hg6=>?_)
 .
  refine iC 11 J J J (fun hg11=>?_) (fun hg11=>?_)
  .
   refine cl J (wn (p:=v.lo) (q:=v.hi) (by omega) (by omega)) J<|rz J (by unfold ao.empty;simp_all [vB,fq])
  .
   exact rz J (by unfold ao.empty;simp_all [vB,fq])
 .
  exact rz J (by unfold ao.empty;simp_all [vB,fq])
instance ao.meet_lo (v w:ao) (i j:Nat) [h1:BQ v.lo i] [h3:BQ w.lo j]:BQ (v.meet w).lo (i+j):=by
 have a:=h1.mono (pV i j);have b:=h3.mono (Nat.le_add_left j i);unfold ao.meet;dsimp only;(repeat' split)<;>assumption
instance ao.meet_hi (v w:ao) (i j:Nat) [h1:BQ v.hi i] [h3:BQ w.hi j]:BQ (v.meet w).hi (i+j):=by
 have a:=h1.mono (pV i j);have b:=h3.mono (Nat.le_add_left j i);unfold ao.meet;dsimp only;(repeat' split)<;>assumption
def Nm[h1:BQ v.lo i][h2:BQ v.hi i][h3:BQ w.lo j][h4:BQ w.hi j](hi:i<=10000000:=by decide)(hj:j<=10000000:=by decide):PF GB prog 258 [eW v,eW w] (.tp [eW (v.meet w),vB (!(v.meet w).empty)]):=by
 refine fn (fu:=⟨16⟩) func258 J J ntmps258 J J (fun C=>?_);refine mg (fu:=⟨1⟩) (X:=Unit) (fun _=>[(6, .ov 6 0)]) (fun _=>[(6,some (.o 218 [.d (vI (dC (v.meet w).lo)), .d (vI (dx (v.meet w).lo)), .d (di (v.meet w).lo), .d (vI (dC v.hi)), .d (vI (dx v.hi)), .d (di v.hi), .d (.v (.bool (v.nl&&w.nl))), .d (.v (.bool (v.nh)))] true))]) (fun _=>True) [6] [6] rfl ?_ (fun _=>J) (fun _ _=>?_)
 .
  refine gx J<|bb (v1:=fun hc8=>by simp only[ak];kernel_rfl) J J J (fun hc8=>?_) (fun hc8=>?_)
  .
   have em:(v.meet w).lo=w.lo:=by unfold ao.meet;simp_all
   have eb:(v.nl&&w.nl)=w.nl:=by simp_all
   exact at_ () trivial (hO:=⟨by rw[em,eb]<;>rfl,by repeat (first|exact trivial|refine And.intro J ?_)⟩)
  .
   refine bb J J J (fun hc17=>?_) (fun hc17=>?_)
   .
    refine cl J (aGV (p:=v.lo) (q:=w.lo) (by omega) (by omega)) J<|?_;have em:(v.meet w).lo=(if v.lo<w.lo then w.lo else v.lo):=by unfold ao.meet;simp_all
    have eb:(v.nl&&w.nl)=v.nl:=by simp_all
    exact at_ () trivial (hO:=⟨by rw[em,eb]<;>rfl,by repeat (first|exact trivial|refine And.intro J ?_)⟩)
   .
    have em:(v.meet w).lo=v.lo:=by unfold ao.meet;simp_all
    have eb:(v.nl&&w.nl)=v.nl:=by simp_all
    exact at_ () trivial (hO:=⟨by rw[em,eb]<;>rfl,by repeat (first|exact trivial|refine And.intro J ?_)⟩)
 .
  refine mg (X:=Unit) (fun _=>[(6, .ov 6 0)]) (fun _=>[(6,some (.o 218 [.d (vI (dC (v.meet w).lo)), .d (vI (dx (v.meet w).lo)), .d (di (v.meet w).lo), .d (vI (dC (v.meet w).hi)), .d (vI (dx (v.meet w).hi)), .d (di (v.meet w).hi), .d (.v (.bool (v.nl&&w.nl))), .d (.v (.bool (v.nh&&w.nh)))] true))]) (fun _=>True) [6] [6] rfl ?_ (fun _=>J) (fun _ _=>?_)
  .
   refine gx J<|bb (v1:=fun hc27=>by simp only[ak];kernel_rfl) J J J (fun hc27=>?_) (fun hc27=>?_)
   .
    have em:(v.meet w).hi=w.hi:=by unfold ao.meet;simp_all
    have eb:(v.nh&&w.nh)=w.nh:=by simp_all
    exact at_ () trivial (hO:=⟨by rw[em,eb]<;>rfl,by repeat (first|exact trivial|refine And.intro J ?_)⟩)
   .
    refine bb J J J (fun hc36=>?_) (fun hc36=>?_)
    .
     refine cl J (R4 (p:=v.hi) (q:=w.hi) (by omega) (by omega)) J<|?_;have em:(v.meet w).hi=(if w.hi<v.hi then w.hi else v.hi):=by unfold ao.meet;simp_all
     have eb:(v.nh&&w.nh)=v.nh:=by simp_all
     exact at_ () trivial (hO:=⟨by rw[em,eb]<;>rfl,by repeat (first|exact trivial|refine And.intro J ?_)⟩)
    .
     have em:(v.meet w).hi=v.hi:=by unfold ao.meet;simp_all
     have eb:(v.nh&&w.nh)=v.nh:=by simp_all
     exact at_ () trivial (hO:=⟨by rw[em,eb]<;>rfl,by repeat (first|exact trivial|refine And.intro J ?_)⟩)
  .
   refine cl J (aDr (v:=v.meet w) (i:=i+j) (j:=i+j) (by omega) (by omega)) J<|rz J J
theorem BQ.z1:BQ (0:Rat) 1:=⟨by decide,by decide⟩
def ayw[h1:BQ v.lo i][h2:BQ v.hi i][h3:BQ t j](hi:i<=10000000:=by decide)(hj:j<=9999999:=by decide):PF GB prog 258 [eW v, .ag [vI (dC t),vI (dx t),di t,vI 0,vI 0, .v (.pointer none), .v (.bool false), .v (.bool true)]] (.tp [eW (v.meet ⟨t,0,false,true⟩),vB (!(v.meet ⟨t,0,false,true⟩).empty)]):=
 (Nm (v:=v) (w:=⟨t,0,false,true⟩) (j:=j+1) (h3:=h3.mono (by omega)) (h4:=BQ.z1.mono (by omega)) hi (by omega)).ofI fun G vs hv=>Jb (fun y hy=>by
  obtain⟨l,rfl,g⟩:=dO.1 hy;exact dO.2 ⟨l,J,J6 [_,_,_] g⟩) hv
def XQ[h1:BQ v.lo i][h2:BQ v.hi i][h3:BQ t j](hi:i<=10000000:=by decide)(hj:j<=9999999:=by decide):PF GB prog 258 [eW v, .ag [vI 0,vI 0, .v (.pointer none),vI (dC t),vI (dx t),di t, .v (.bool true), .v (.bool false)]] (.tp [eW (v.meet ⟨0,t,true,false⟩),vB (!(v.meet ⟨0,t,true,false⟩).empty)]):=
 (Nm (v:=v) (w:=⟨0,t,true,false⟩) (j:=j+1) (h4:=h3.mono (by omega)) (h3:=BQ.z1.mono (by omega)) hi (by omega)).ofI fun G vs hv=>Jb (fun y hy=>by
  obtain⟨l,rfl,g⟩:=dO.1 hy;exact dO.2 ⟨l,J,Fm g⟩) hv
instance BQ.cutK (l m:ah) [LB l] [LB m]:BQ (l.cutK m) 400:=BQ.mono (inferInstance:BQ (m.nor.dot l.dir) _)
instance BQ.cutC (l m:ah) [LB l] [LB m]:BQ (l.cutC m) 2500:=BQ.mono (inferInstance:BQ (m.value l.base) _)
def Rw{m:ah}[hl:LB l][hm:LB m][h1:BQ v.lo i][h2:BQ v.hi i](hi:i<=10000000:=by decide):PF GB prog 193 [c8 l,eW v,c8 m] (.tp [eW (l.cutV v m),vB (l.cutB v m)]):=by
 refine fn func193 J J ntmps193 J J (fun C=>?_);refine cl J (vd (l:=m)) J<|cl J (vr (l:=l)) J<|cl J (ux (p:=m.nor) (q:=l.dir)) J<|cl J (Tk (l:=l)) J<|cl J (Me (l:=m) (p:=l.base)) J<|cl J (lu (q:=l.cutK m)) J<|br J J J (fun hc21=>?_) (fun hc21=>?_)
 .
  refine cl J (lu (q:=l.cutC m)) J<|rz J (by unfold ah.cutV ah.cutB;rw[if_pos hc21,if_pos hc21];rfl)
 .
  refine br J J J (fun hc27=>?_) (fun hc27=>?_)
  .
   refine cl J (BV (p:=l.cutC m) (q:=l.cutK m)) J<|cl J (pA (q:=l.cutC m/l.cutK m)) J<|cl J (ayw (v:=v) (t:= -(l.cutC m/l.cutK m)) hi) J<|rz J (by unfold ah.cutB ah.cutV;rw[if_neg hc21,if_neg hc21,if_pos hc27];rfl)
  .
   refine cl J (BV (p:=l.cutC m) (q:=l.cutK m)) J<|cl J (pA (q:=l.cutC m/l.cutK m)) J<|cl J (XQ (v:=v) (t:= -(l.cutC m/l.cutK m)) hi) J<|rz J (by unfold ah.cutB ah.cutV;rw[if_neg hc21,if_neg hc21,if_neg hc27];rfl)
def R2[h1:BQ v.lo i][h2:BQ v.hi i](hi:i<=10000000:=by decide):PF GB prog 205 [eW v] (eF v.sample):=by
 refine fn func205 J J ntmps205 J J (fun C=>?_);refine iC 6 J J J (fun hg6=>?_) (fun hg6=>?_)
 .
  refine bb J J J (fun hc3=>?_) (fun hc3=>?_)
  .
   exact jq J (by unfold ao.sample;rw[hg6,hc3];exact AN)
  .
   refine bb J J J (fun hc11=>?_) (fun hc11=>?_)
   .
    refine cl J (uR (m:=1)) J<|cl J (qC (p:=v.hi) (q:=((1:Int):Rat)) (by omega) (by decide)) J<|rz J (by unfold ao.sample;simp_all [fq]<;>rfl)
   .
    refine bb J J J (fun hc18=>?_) (fun hc18=>?_)
    .
     refine cl J (uR (m:=1)) J<|cl J (rI (p:=v.lo) (q:=((1:Int):Rat)) (by omega) (by decide)) J<|rz J (by unfold ao.sample;simp_all [fq]<;>rfl)
    .
     refine cl J (rI (p:=v.lo) (q:=v.hi) (by omega) (by omega)) J<|cl J (OQ (q:=v.lo+v.hi) (by omega)) J<|rz J (by unfold ao.sample;simp_all [fq]<;>rfl)
 .
  refine bb J J J (fun hc11=>?_) (fun hc11=>?_)
  .
   refine cl J (uR (m:=1)) J<|cl J (qC (p:=v.hi) (q:=((1:Int):Rat)) (by omega) (by decide)) J<|rz J (by unfold ao.sample;simp_all [fq]<;>rfl)
  .
   refine bb J J J (fun hc18=>?_) (fun hc18=>?_)
   .
    refine cl J (uR (m:=1)) J<|cl J (rI (p:=v.lo) (q:=((1:Int):Rat)) (by omega) (by decide)) J<|rz J (by unfold ao.sample;simp_all [fq]<;>rfl)
   .
    refine cl J (rI (p:=v.lo) (q:=v.hi) (by omega) (by omega)) J<|cl J (OQ (q:=v.lo+v.hi) (by omega)) J<|rz J (by unfold ao.sample;simp_all [fq]<;>rfl)
end Go.Sx
end
