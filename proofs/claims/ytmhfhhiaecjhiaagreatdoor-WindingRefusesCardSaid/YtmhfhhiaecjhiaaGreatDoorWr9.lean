import Derived.Test.YtmhfhhiaecjhiaaGreatDoorWr8
set_option linter.all false
set_option maxHeartbeats 4000000
set_option maxRecDepth 100000
section
namespace Go.Sx
open Go Go.Proofs Tryz
variable {GB:Gh}
section
variable {GB:Gh} {C:az} {n:Nat} {Q0:Exit->Act->World->Prop} {fr fr' fr1 fr2:ao} {own own' own1 own2:aA} {cf cf' cf1 cf2:Cf} {vc vc1 vc2:List Prop}
def gh{fb:Func}{e:Exit}{ds:List DV}{rv:DV}(hr:jP tt fr own fb.results.toList=some ds)(hd: ∀G y,Is G (iH ds) y->Is G rv y)(he:rp e=true:=by rfl):ak prog GB C n (dx C prog fb (d6 C (fun v G'=>Is G' rv v))) fr own (.ex e []):=by
 refine⟨fun ρ G ov a w r=>?_⟩;obtain⟨vs,h1,h2⟩:=qD r hr;have hk:Is G rv (i4 vs):=hd _ _ (rL h2)
 cases e with
 |ret=>exact zD (C:=C) (n:=n) (fr:=cg a) (own:=ov) (G:=G) (K:=fun v G'=>Is G' rv v) h1 hk a w ⟨r.h,r.sz,ci a,r.df⟩
 |normal=>exact vC (C:=C) (n:=n) (fr:=cg a) (own:=ov) (G:=G) (K:=fun v G'=>Is G' rv v) h1 hk a w ⟨r.h,r.sz,ci a,r.df⟩
 |_=>cases he
def LE(fr:ao)(cf:Cf):Option (Int×IntKind):=match bE fr cf with
 |some ⟨_, .convert t t' x,_,_,_,_⟩=>match co tt t,co tt t',aB (aP fr cf) x with
  |some ⟨.int k,_,_,_⟩,some ⟨.int k',_,_,_⟩,some (.d (.v (.int j p)))=>bif kq k j then some (p,k') else none
  |_,_,_=>none
 |_=>none
def cu[fu:Fu]{p:Int}{k':IntKind}(u:Int)(h:LE fr cf=some (p,k'))(e:k'.wrap p=u)(hgo:bP tt n fu.n fr own cf (.d (.v (.int k' u))) [] []=⟨vc,fr',own',cf'⟩)(k:ak prog GB C n Q0 fr' own' cf')
  (hv:autoParam (aj vc) Tb._auto_1):ak prog GB C n Q0 fr own cf:=by
 unfold LE at h;split at h<;>try (cases h;done)
 rename_i hh;split at h<;>try (cases h;done)
 rename_i k0 _ _ _ k1 _ _ _ j p0 hT hT' hx
 cases hk:kq k0 j with
 |false=>rw[hk] at h;cases h
 |true=>
  rw[hk,cond_true] at h;cases h;cases yR hk;have:=sN (dz _ _ hT) J;have:=sN (dz _ _ hT') J;subst e;refine us hh (.x1 hx fun ρ G ov a w y _ r h1 h2=>?_) hgo hv k;rw[ce] at h2;subst h2;exact⟨_,ce.2 J,xJ h1⟩
def E2(fr:ao)(cf:Cf):Option (Int×IntKind):=match bE fr cf with
 |some ⟨_, .unOp .neg _ x,_,_,_,_⟩=>match aB (aP fr cf) x with
  |some (.d (.v (.int j p)))=>some (p,j)
  |_=>none
 |_=>none
def nu[fu:Fu]{p:Int}{k':IntKind}(u:Int)(h:E2 fr cf=some (p,k'))(e:k'.wrap (0-p)=u)(hgo:bP tt n fu.n fr own cf (.d (.v (.int k' u))) [] []=⟨vc,fr',own',cf'⟩)(k:ak prog GB C n Q0 fr' own' cf')
  (hv:autoParam (aj vc) Tb._auto_1):ak prog GB C n Q0 fr own cf:=by
 unfold E2 at h;split at h<;>try (cases h;done)
 rename_i hh;split at h<;>cases h;rename_i hx;subst e;exact us hh (.x1 hx fun ρ G ov a w y _ r h1 h2=>by
  rw[ce] at h2;subst h2;exact⟨_,ce.2 J,Bd h1⟩) hgo hv k
end
def Ly{W:List Nat}(h:0<W.length:=by omega)(hz:W.getD (W.length-1) 0=0:=by omega):trimD W=trimD (W.take (W.length-1)):=by
 have:=HM (ds:=W) (n:=W.length) ⟨h,aM _⟩ hz;rwa [bT] at this
def xi{W:List Nat}(hz:0<W.length->W.getD (W.length-1) 0≠0):trimD W=W:=by
 have:=GQ (ds:=W) (n:=W.length) (aM _) hz;rwa [bT] at this
def ol{ds:List Nat}(hl:ds.length<=1125899906842624:=by omega):PF GB prog 233 [bg ds] (bg (trimD ds)):=by
 refine fn func233 J J ntmps233 J J (fun C=>?_);refine lp (fu:=⟨5⟩) (X:=List Nat) (fun W=>[(0, .d (bg W))]) (fun W=>[]) (fun W=>trimD ds=trimD W/\W.length<=ds.length) (fun W=>W.length) ds J ⟨J,aM _⟩ (fun _=>J) (fun W hk=>?_);obtain⟨h1,h2⟩:=hk;have hml:=bv W;refine ah 4 (.d (vI (W.length:Nat))) J (by rw[hml]<;>rfl)<|gx J<|cs (fu1:=⟨3⟩) 6 J J J (fun hg6=>?_) (fun hg6=>?_)
 .
  refine ah 9 (.d (vI (W.length:Nat))) J (by rw[hml]<;>rfl)<|gx J<|ix _ J (b9 (k:=W.length-1)) J<|br (fu1:=⟨7⟩) J J J (fun hc14=>?_) (fun hc14=>?_)
  .
   refine ah 17 (.d (vI (W.length:Nat))) J (by rw[hml]<;>rfl)<|gx (fu:=⟨1⟩) J<|ah 18 (.d (vI (W.length-1:Nat))) J (by show FX.d (.v (.int _ _))= .d (.v (.int _ _));congr 3;omega)<|gx J<|jx (fu:=⟨0⟩) 0 (W.length-1) _ J J J J (l5 _) (by omega) (by simp) J<|ah 19 (.d (bg (W.take (W.length-1)))) J (by show FX.d (.sl _)=FX.d (.sl _);simp)<|gx J<|at_ (W.take (W.length-1)) ⟨⟨by rw[h1,Ly],by rw[aS];omega⟩,(by rw[aS];omega)⟩
  .
   exact rz J (by rw[h1,xi (fun _=>by omega)];rfl)
 .
  exact rz J (by rw[h1,xi (fun _=>by omega)];rfl)
def QC{G:Gh}{ds:List Nat}{v:Value}(hd:aO ds)(h:Is G (bg ds) v): ∃x:SV,v=x.v/\lh G x ds:=by
 obtain⟨x,rfl,h1⟩:=Jb.1 h;exact⟨x,J,hd,h1⟩
def La{ds:List Nat}(hd:aO ds)(hb:ds.length<=1125899906842:=by omega):PF GB prog 241 [bg ds] (bg ds):=fun G vs _ hv=>by
 obtain⟨v,m,rfl,h1,h2⟩:=bi.1 hv
 cases b4.1 h2
 obtain⟨x,rfl,h3⟩:=QC hd h1;exact(Xp h3 hb).mono fun v G' _ ⟨z,e,h⟩=>by subst e;exact Jb.2 ⟨z,J,h.sl⟩
def Mw{ds:List Nat}(h:ds.length=0):c6 ds:=by rw[cV h];unfold c6;simp
def Rd{ds:List Nat}(h:0<ds.length):c6 ds↔ds.getD (ds.length-1) 0≠0:=by
 unfold c6;rw[lK,aJ,aQ (by omega)];simp
def R6(a:Nat):trimD (dg a)=dg a:=Pb (dE a).2.2
def ki{a:Nat}(h:(dg a).length<=1125899906842624:=by omega):PF GB prog 233 [dN a] (dN a):=(ol (ds:=dg a) h).to (by rw[R6];rfl)
def eH{a i:Nat}[h:BN a i](hi:i<=1000000000:=by omega):(dg a).length<=187500001:=by have:=gP h.h;omega
def pb{a i:Nat}[h:BN a i](hi:i<=1000000000:=by decide):PF GB prog 214 [dN a] (dN a):=by
 have hla:=bv (dg a);have hba:=eH (a:=a) hi;refine fn func214 J J ntmps214 J J (fun C=>?_);refine cl J (ki) J<|cl J (La (dH _)) J<|rz J J
def xt{ds:List Nat}(hd:aO ds)(hl:ds.length<=1125899906842624):PF GB prog 194 [bg ds] (vB (decide (c6 ds))):=by
 have hla:=bv ds;refine fn (fu:=⟨9⟩) func194 J J ntmps194 J J (fun C=>?_);refine ah 4 (.d (vI (ds.length:Nat))) J (by rw[hla]<;>rfl)<|gx J<|cs (fu2:=⟨3⟩) 6 J J J (fun hg6=>?_) (fun hg6=>?_)
 .
  exact rz J (by rw[decide_eq_true (Mw (by omega))];rfl)
 .
  refine ah 9 (.d (vI (ds.length:Nat))) J (by rw[hla]<;>rfl)<|gx J<|ix _ J (b9 (k:=ds.length-1)) J<|rz J (by show DV.v (.bool (decide _))=DV.v (.bool (decide _));congr 2;exact decide_eq_decide.2 (by rw[Rd (by omega)];omega))
def vk{a:Nat}(h:a<18446744073709551616:=by omega):PF GB prog 215 [.v (.int .u64 (a:Nat))] (dN a):=by
 refine fn (fu:=⟨11⟩) (hv:=by simp only[aj];exact(by decide)) func215 J J ntmps215 J J (fun C=>?_);refine ah 6 (.d (.v (.int .u64 (a/4294967296:Nat)))) J (by rw[kn])<|gx J<|rf (fu:=⟨0⟩) J J<|ah 8 (.d (bg [a%4294967296,a/4294967296])) J (by show FX.d (.sl [.v (.int _ _), .v (.int _ _)])= .d (.sl [.v (.int _ _), .v (.int _ _)]);congr 6;omega)<|gx J<|cl J (ol (ds:=[a%4294967296,a/4294967296]) (by simp)) J<|rz J (gA (Hc h) (FI a))
def DO{a b i j:Nat}[h:BN a i][k:BN b j](hi:i<=1000000000:=by decide)(hj:j<=1000000000:=by decide):PF GB prog 240 [dN a,dN b] (vI (fA a b)):=by
 have hla:=bv (dg a);have hba:=eH (a:=a) hi;have hlb:=bv (dg b);have hbb:=eH (a:=b) hj;refine fn func240 J J ntmps240 J J (fun C=>?_);refine cl J (ki) J<|cl (fu:=⟨9⟩) J (ki) J<|ah 11 (.d (vI ((dg a).length:Nat))) J (by rw[hla]<;>rfl)<|gx (fu:=⟨2⟩) J<|ah 13 (.d (vI ((dg b).length:Nat))) J (by rw[hlb]<;>rfl)<|gx J<|br (fu1:=⟨5⟩) (fu2:=⟨7⟩) J J J (fun hc14=>?_) (fun hc14=>?_)
 .
  refine ah 16 (.d (vI ((dg a).length:Nat))) J (by rw[hla]<;>rfl)<|gx (fu:=⟨2⟩) J<|ah 18 (.d (vI ((dg b).length:Nat))) J (by rw[hlb]<;>rfl)<|gx J<|br J J J (fun hc19=>?_) (fun hc19=>?_)
  .
   exact rz J (by show DV.v (.int _ (-1))=_;rw[<-Bg,tC (by omega)];rfl)
  .
   exact rz J (by show DV.v (.int _ 1)=_;rw[<-Bg,tD (by omega)];rfl)
 .
  have hl:(dg a).length=(dg b).length:=by omega
  refine ah 21 (.d (vI ((dg a).length:Nat))) J (by rw[hla]<;>rfl)<|gx J<|lp (X:=Nat) (fun k=>[(5, .d (vI ((k:Nat)-1)))]) (fun k=>[]) (fun k=>k<=(dg a).length/\(dg a).drop k=(dg b).drop k) (fun k=>k) (dg a).length J ⟨aM _,by rw[iX,hl,iX]⟩ (fun _=>J) (fun k hk=>?_);obtain⟨h1,h2⟩:=hk;refine br J J J (fun hc24=>?_) (fun hc24=>?_)
  .
   obtain⟨k,rfl⟩: ∃m,k=m+1:=⟨k-1,by omega⟩;refine ix _ J (b9 (k:=k)) J<|ix _ J (b9 (k:=k)) J<|br J J J (fun hc27=>?_) (fun hc27=>?_)
   .
    exact rz J (by show DV.v (.int _ (-1))=_;rw[tC ((rW hl (by omega) h2).1 (by omega))];rfl)
   .
    refine ix _ J (b9 (k:=k)) J<|ix _ J (b9 (k:=k)) J<|br J J J (fun hc37=>?_) (fun hc37=>?_)
    .
     exact rz J (by show DV.v (.int _ 1)=_;rw[tD ((rW hl (by omega) h2).2.1 (by omega))];rfl)
    .
     exact at_ k ⟨⟨by omega,(rW (i:=k) hl (by omega) h2).2.2 (by omega)⟩,(by omega)⟩
  .
   exact rz rfl (by show DV.v (.int _ 0)=_;rw[Eb];rfl;obtain rfl:k=0:=(by omega);rw[fZ,fZ] at h2;rw[<-cd a,h2,cd])
def Xz{a b i j:Nat}[h:BN a i][k:BN b j](hi:i<=1000000000:=by decide)(hj:j<=1000000000:=by decide):PF GB prog 263 [dN a,dN b] (dN (a+b)):=by
 have hla:=bv (dg a);have hba:=eH (a:=a) hi;have hlb:=bv (dg b);have hbb:=eH (a:=b) hj;refine fn (fu:=⟨6⟩) func263 J J ntmps263 J J (fun C=>?_);refine mg (fu:=⟨4⟩) (X:=Nat×Nat) (fun⟨A,B⟩=>[(0, .d (dN A)),(1, .d (dN B))]) (fun⟨A,B⟩=>[]) (fun⟨A,B⟩=>(dg B).length<=(dg A).length/\A+B=a+b/\(dg A).length<=187500001) [0,1] [] rfl ?_ (fun _=>J) (fun⟨A,B⟩ ⟨hm1,hm2,hm3⟩=>?_)
 .
  refine gx (fu:=⟨4⟩) J<|ah 10 (.d (vI ((dg a).length:Nat))) J (by rw[hla]<;>rfl)<|gx (fu:=⟨2⟩) J<|ah 12 (.d (vI ((dg b).length:Nat))) J (by rw[hlb]<;>rfl)<|gx J<|br J J J (fun hc13=>?_) (fun hc13=>?_)
  .
   exact at_ ⟨b,a⟩ ⟨by omega,jS b a,hbb⟩
  .
   exact at_ ⟨a,b⟩ ⟨by omega,J,hba⟩
 .
  have hlA:=bv (dg A);have hlB:=bv (dg B);refine ah 17 (.d (vI ((dg A).length:Nat))) J (by rw[hlA]<;>rfl)<|gx (fu:=⟨1⟩) J<|ah 18 (.d (vI ((dg A).length+1:Nat))) J (by show FX.d (.v (.int _ _))= .d (.v (.int _ _));congr 3)<|gx J<|mk (fu:=⟨13⟩) ((List.replicate ((dg A).length+1) 0).map dU) J J (by rw[<-jd];rfl) J<|ah 21 (.d (vI ((dg A).length:Nat))) J (by rw[hlA]<;>rfl)<|gx J<|lp (X:=List Nat×Nat×Nat) (fun⟨W,c,i⟩=>[(0, .d (dN A)),(1, .d (dN B)),(5, .rw 19),(6, .d (.v (.int .u64 (c:Nat)))),(20, .d (dN A)),(21, .d (vI ((dg A).length:Nat))),(22, .d (vI (i:Nat)))]) (fun⟨W,c,i⟩=>[(19,some (.b 261 1 (W.map dU) true))]) (fun⟨W,c,i⟩=>W.length=(dg A).length+1/\aO W/\c<=1/\i<=(dg A).length/\dv (W.take i)+4294967296^i*c=dv ((dg A).take i)+dv ((dg B).take i)) (fun⟨W,c,i⟩=>(dg A).length-i) ⟨List.replicate ((dg A).length+1) 0,0,0⟩ J ⟨by simp, .replicate _,by omega,by omega,by simp[dv]⟩ (fun _=>J) (fun⟨W,c,i⟩ hk=>?_)
  try dsimp only at hk⊢
  obtain⟨h1,h2,h3,h4,h5⟩:=hk;have hlw:=bv W;have hda:=cP A i;have hdb:=cP B i;obtain⟨t,ht⟩: ∃t,t=(dg A).getD i 0+(dg B).getD i 0+c:=⟨_,rfl⟩;refine br (fu2:=⟨10⟩) J J J (fun hc23=>?_) (fun hc23=>?_)
  .
   refine ix (fu:=⟨15⟩) _ J (dm) J<|mg (fu:=⟨6⟩) (X:=Unit) (fun _=>[(0, .d (dN A)),(1, .d (dN B)),(5, .rw 19),(6, .d (.v (.int .u64 (t:Nat)))),(20, .d (dN A)),(21, .d (vI ((dg A).length:Nat))),(22, .d (vI (i:Nat))),(7, .d (vI (i:Nat))),(8, .d (dU ((dg A).getD i 0)))]) (fun _=>[(19,some (.b 261 1 (W.map dU) true))]) (fun _=>True) [0,1,5,6,20,21,22,7,8] [19] rfl ?_ (fun _=>J) (fun _ _=>?_)
   .
    refine gx (fu:=⟨5⟩) J<|ah 33 (.d (vI ((dg B).length:Nat))) J (by rw[hlB]<;>rfl)<|gx J<|br J J J (fun hc34=>?_) (fun hc34=>?_)
    .
     refine ix _ J (dm) J<|ah 6 (.d (.v (.int .u64 (t:Nat)))) J (by show FX.d (.v (.int _ _))= .d (.v (.int _ _));congr 3;omega)<|at_ () trivial
    .
     have hz:=lg (ds:=dg B) (i:=i);refine ah 6 (.d (.v (.int .u64 (t:Nat)))) J (by show FX.d (.v (.int _ _))= .d (.v (.int _ _));congr 3;omega)<|at_ () trivial
   .
    refine ah 45 (.d (dU (t%4294967296))) J (by show FX.d (.v (.int _ _))= .d (.v (.int _ _));congr 3)<|gx J<|sb (fu:=⟨5⟩) (hv:=by simp only[aj];exact(by decide)) _ ((W.set i (t%4294967296)).map dU) J (dm) J (by rw[<-fm];rfl) J<|ah 48 (.d (.v (.int .u64 (t/4294967296:Nat)))) J (by rw[kn])<|gx J<|at_ ⟨W.set i (t%4294967296),t/4294967296,i+1⟩ (by dsimp only;exact⟨⟨by simpa using h1,h2.set _ (by omega),by omega,by omega,by rw[ht];exact HJ (by omega) h5⟩,(by omega)⟩)
  .
   obtain rfl:i=(dg A).length:=by omega
   refine ah 52 (.d (vI ((dg A).length:Nat))) J (by rw[hlA]<;>rfl)<|gx (fu:=⟨2⟩) J<|ah 54 (.d (dU c)) J (by show FX.d (.v (.int _ _))= .d (.v (.int _ _));congr 3;omega)<|gx J<|sb _ ((W.set (dg A).length c).map dU) J (dm) J (by rw[<-fm];rfl) J<|fz 19 J J<|cl J (ol (ds:=W.set (dg A).length c) (by simp;omega)) J<|rz J (by rw[<-hm2];exact gA (h2.set _ (by omega)) (EM (by omega) h1 h5))
def U0{x y:Nat}(hx:x<4294967296)(hy:y<=4294967296):IntKind.u64.wrap ((x:Int)-y)=(((if x<y then x+18446744073709551616-y else x-y):Nat):Int):=by
 rw[mr];split<;>omega
def u5{a b:Nat}:fA a b<0↔a<b:=by unfold fA;split<;>(try split)<;>omega
section
variable {GB:Gh} {C:az} {n:Nat} {Q0:Exit->Act->World->Prop} {fr fr':ao} {own own':aA} {cf cf':Cf} {vc:List Prop}
def JF(fr:ao)(cf:Cf):Option (Int×Int):=match bE fr cf with
 |some ⟨_, .binOp .sub _ x y _,_,_,_,_⟩=>match aB (aP fr cf) x,aB (aP fr cf) y with
  |some (.d (.v (.int .u64 p))),some (.d (.v (.int .u64 q)))=>some (p,q)
  |_,_=>none
 |_=>none
def sd[fu:Fu]{p q:Int}(u:Int)(h:JF fr cf=some (p,q))(e:IntKind.u64.wrap (p-q)=u)(hgo:bP tt n fu.n fr own cf (.d (.v (.int .u64 u))) [] []=⟨vc,fr',own',cf'⟩)(k:ak prog GB C n Q0 fr' own' cf')
  (hv:autoParam (aj vc) Tb._auto_1):ak prog GB C n Q0 fr own cf:=by
 unfold JF at h;split at h<;>try (cases h;done)
 rename_i hh;split at h<;>cases h;rename_i h1 h2;subst e;exact us hh (.yd fun ρ G ov a w r=>by
  obtain⟨y1,h3,h4⟩:=r.ev h1;obtain⟨y2,h5,h6⟩:=r.ev h2;rw[ce] at h4 h6;subst h4 h6;exact⟨_,ce.2 J,gF h3 h5 fun w=>J⟩) hgo hv k
end
def y4(u:Nat):(u:Int).fdiv (2^min (63:Int).toNat IntKind.u64.bits)=((u/9223372036854775808:Nat):Int):=by
 rw[show(2:Int)^min (63:Int).toNat IntKind.u64.bits=((9223372036854775808:Nat):Int) from J,jQ _ (by decide)];rfl
def Ur{a b ia ib:Nat}[h:BN a ia][k:BN b ib](hb:b<=a)(hi:ia<=1000000000:=by decide)(hj:ib<=1000000000:=by decide):PF GB prog 270 [dN a,dN b] (dN (a-b)):=by
 have hla:=bv (dg a);have hba:=eH (a:=a) hi;have hlb:=bv (dg b);have hbb:=eH (a:=b) hj;refine fn (fu:=⟨9⟩) func270 J J ntmps270 J J (fun C=>?_);refine ah 12 (.d (vI ((dg a).length:Nat))) J (by rw[hla]<;>rfl)<|gx J<|mk (fu:=⟨13⟩) ((List.replicate (dg a).length 0).map dU) J J (by rw[<-jd];rfl) J<|ah 15 (.d (vI ((dg a).length:Nat))) J (by rw[hla]<;>rfl)<|gx J<|lp (X:=List Nat×Nat×Nat) (fun⟨W,c,i⟩=>[(0, .d (dN a)),(1, .d (dN b)),(5, .rw 13),(6, .d (.v (.int .u64 (c:Nat)))),(14, .d (dN a)),(15, .d (vI ((dg a).length:Nat))),(16, .d (vI (i:Nat)))]) (fun⟨W,c,i⟩=>[(13,some (.b 261 1 (W.map dU) true))]) (fun⟨W,c,i⟩=>W.length=(dg a).length/\aO W/\c<=1/\i<=(dg a).length/\dv (W.take i)+dv ((dg b).take i)=dv ((dg a).take i)+4294967296^i*c) (fun⟨W,c,i⟩=>(dg a).length-i) ⟨List.replicate (dg a).length 0,0,0⟩ J ⟨by simp, .replicate _,by omega,by omega,by simp[dv]⟩ (fun _=>J) (fun⟨W,c,i⟩ hk=>?_)
 try dsimp only at hk⊢
 obtain⟨h1,h2,h3,h4,h5⟩:=hk;have hlw:=bv W;have hda:=cP a i;have hdb:=cP b i;obtain⟨t,ht⟩: ∃t,t=(dg b).getD i 0+c:=⟨_,rfl⟩;obtain⟨v,hv⟩: ∃v:Nat,v=if(dg a).getD i 0<t then(dg a).getD i 0+18446744073709551616-t else(dg a).getD i 0-t:=⟨_,rfl⟩
 obtain⟨d,hd⟩: ∃d:Nat,d=if(dg a).getD i 0<(dg b).getD i 0+c then(dg a).getD i 0+4294967296-((dg b).getD i 0+c) else(dg a).getD i 0-((dg b).getD i 0+c):=⟨_,rfl⟩
 obtain⟨c2,hc2⟩: ∃d:Nat,d=if(dg a).getD i 0<(dg b).getD i 0+c then 1 else 0:=⟨_,rfl⟩
 have hvd:v%4294967296=d:=by rw[hv,hd,<-ht];split<;>omega
 have hvc:v/9223372036854775808=c2:=by rw[hv,hc2,<-ht];split<;>omega
 refine br J J J (fun hc17=>?_) (fun hc17=>?_)
 .
  refine ix (fu:=⟨12⟩) _ J (dm) J<|mg (fu:=⟨5⟩) (X:=Unit) (fun _=>[(0, .d (dN a)),(1, .d (dN b)),(5, .rw 13),(6, .d (.v (.int .u64 (c:Nat)))),(14, .d (dN a)),(15, .d (vI ((dg a).length:Nat))),(16, .d (vI (i:Nat))),(7, .d (vI (i:Nat))),(8, .d (dU ((dg a).getD i 0))),(9, .d (.v (.int .u64 (t:Nat))))]) (fun _=>[(13,some (.b 261 1 (W.map dU) true))]) (fun _=>True) [0,1,5,6,14,15,16,7,8,9] [13] rfl ?_ (fun _=>J) (fun _ _=>?_)
  .
   refine gx (fu:=⟨5⟩) J<|ah 24 (.d (vI ((dg b).length:Nat))) J (by rw[hlb]<;>rfl)<|gx J<|br J J J (fun hc25=>?_) (fun hc25=>?_)
   .
    refine ix _ J (dm) J<|ah 9 (.d (.v (.int .u64 (t:Nat)))) J (by show FX.d (.v (.int _ _))= .d (.v (.int _ _));congr 3;omega)<|at_ () trivial
   .
    have hz:=lg (ds:=dg b) (i:=i);refine ah 9 (.d (.v (.int .u64 (t:Nat)))) J (by show FX.d (.v (.int _ _))= .d (.v (.int _ _));congr 3;omega)<|at_ () trivial
  .
   refine sd (fu:=⟨9⟩) ((v:Nat):Int) J (by rw[hv];exact U0 hda (by omega)) J<|ah 40 (.d (dU d)) J (by show FX.d (.v (.int _ _))= .d (.v (.int _ _));congr 3;omega)<|gx J<|sb (fu:=⟨5⟩) (hv:=by simp only[aj];exact(by decide)) _ ((W.set i d).map dU) J (dm) J (by rw[<-fm];rfl) J<|ah 43 (.d (.v (.int .u64 (c2:Nat)))) J (by rw[y4,hvc])<|gx J<|at_ ⟨W.set i d,c2,i+1⟩ (by dsimp only;exact⟨⟨by simpa using h1,h2.set _ (by rw[hd];split<;>omega),by rw[hc2];split<;>omega,by omega,Lc (dH a) (dH b) (by omega) h3 h5 hd hc2⟩,(by omega)⟩)
 .
  obtain rfl:i=(dg a).length:=by omega
  refine fz 13 J J<|cl J (ol (ds:=W)) J<|rz J (gA h2 (Fo h2 h1 hb h5))
def Js{a b i j:Nat}[h:BN a i][k:BN b j](hi:i<=1000000000:=by decide)(hj:j<=1000000000:=by decide):PF GB prog 264 [dN a,dN b] (.tp [dN (a-b),vB (decide (b<=a))]):=by
 have hla:=bv (dg a);have hba:=eH (a:=a) hi;have hlb:=bv (dg b);have hbb:=eH (a:=b) hj;refine fn func264 J J ntmps264 J J (fun C=>?_);refine cl J (DO (a:=a) (b:=b) hi hj) J<|br J J J (fun hc9=>?_) (fun hc9=>?_)
 .
  exact rz J (by rw[show a-b=0 by have:=u5 (a:=a) (b:=b);omega,decide_eq_false (by have:=u5 (a:=a) (b:=b);omega),qz];rfl)
 .
  refine cl J (ki) J<|cl J (ki) J<|cl J (Ur (by have:=u5 (a:=a) (b:=b);omega) hi hj) J<|rz J (by rw[decide_eq_true (by have:=u5 (a:=a) (b:=b);omega)];rfl)
def sQ{a b ia ib:Nat}[h:BN a ia][k:BN b ib](hi:ia<=1000000000:=by decide)(hj:ib<=1000000000:=by decide):PF GB prog 197 [dN a,dN b] (dN (a*b)):=by
 have hla:=bv (dg a);have hba:=eH (a:=a) hi;have hlb:=bv (dg b);have hbb:=eH (a:=b) hj;refine fn func197 J J ntmps197 J J (fun C=>?_);refine cl J (ki) J<|cl (fu:=⟨8⟩) J (ki) J<|ah 16 (.d (vI ((dg a).length:Nat))) J (by rw[hla]<;>rfl)<|gx (fu:=⟨2⟩) J<|ah 18 (.d (vI ((dg b).length:Nat))) J (by rw[hlb]<;>rfl)<|gx (fu:=⟨1⟩) J<|ah 19 (.d (vI ((dg a).length+(dg b).length:Nat))) J (by show FX.d (.v (.int _ _))= .d (.v (.int _ _));congr 3)<|gx J<|mk (fu:=⟨8⟩) ((List.replicate ((dg a).length+(dg b).length) 0).map dU) J J (by rw[<-jd];rfl) J<|ah 22 (.d (vI ((dg a).length:Nat))) J (by rw[hla]<;>rfl)<|gx J<|lp (X:=List Nat×Nat) (fun⟨W,i⟩=>[(0, .d (dN a)),(1, .d (dN b)),(5, .rw 20),(21, .d (dN a)),(22, .d (vI ((dg a).length:Nat))),(23, .d (vI (i:Nat)))]) (fun⟨W,i⟩=>[(20,some (.b 261 1 (W.map dU) true))]) (fun⟨W,i⟩=>W.length=(dg a).length+(dg b).length/\aO W/\i<=(dg a).length/\dv (W.take (i+(dg b).length))=dv ((dg a).take i)*b) (fun⟨W,i⟩=>(dg a).length-i) ⟨List.replicate ((dg a).length+(dg b).length) 0,0⟩ J ⟨by simp, .replicate _,by omega,by rw[nN,r8];simp[dv]⟩ (fun _=>J) (fun⟨W,i⟩ hk=>?_)
 try dsimp only at hk⊢
 obtain⟨h1,h2,h3,h4⟩:=hk;refine br J J J (fun hc24=>?_) (fun hc24=>?_)
 .
  refine ix (fu:=⟨15⟩) _ J (dm) J<|ah 29 (.d (vI ((dg b).length:Nat))) J (by rw[hlb]<;>rfl)<|gx J<|lp (X:=List Nat×Nat×Nat) (fun⟨W2,c,k⟩=>[(0, .d (dN a)),(1, .d (dN b)),(5, .rw 20),(6, .d (vI (i:Nat))),(7, .d (dU ((dg a).getD i 0))),(8, .d (.v (.int .u64 (c:Nat)))),(21, .d (dN a)),(22, .d (vI ((dg a).length:Nat))),(23, .d (vI (i:Nat))),(28, .d (dN b)),(29, .d (vI ((dg b).length:Nat))),(30, .d (vI (k:Nat)))]) (fun⟨W2,c,k⟩=>[(20,some (.b 261 1 (W2.map dU) true))]) (fun⟨W2,c,k⟩=>W2.length=(dg a).length+(dg b).length/\aO W2/\c<4294967296/\k<=(dg b).length/\dv (W2.take (i+(dg b).length))+4294967296^(i+k)*c=dv ((dg a).take i)*b+(dg a).getD i 0*(4294967296^i*dv ((dg b).take k))) (fun⟨W2,c,k⟩=>(dg b).length-k) ⟨W,0,0⟩ J ⟨h1,h2,by omega,by omega,by rw[h4];simp[dv]⟩ (fun _=>J) (fun⟨W2,c,k⟩ hk=>?_)
  try dsimp only at hk⊢
  obtain⟨g1,g2,g3,g4,g5⟩:=hk;have hlw:=bv W2;have hw:=g2.get (i+k);have hda:=cP a i;have hdb:=cP b k;refine br (fu2:=⟨10⟩) J J J (fun hc31=>?_) (fun hc31=>?_)
  .
   refine ix (fu:=⟨13⟩) (hv:=by simp only[aj];exact⟨⟨by omega,by omega⟩,⟨(vm _ _),(tF (cP _ _) (cP _ _))⟩⟩) _ J (dm) J<|?_;obtain⟨p,hp⟩: ∃p,p=(dg a).getD i 0*(dg b).getD k 0:=⟨_,rfl⟩;have hp1:p<=18446744065119617025:=hp▸w8 hda hdb;refine ah 40 (.d (.v (.int .u64 (p:Nat)))) J (by rw[hp,fL])<|gx J<|lb (fu:=⟨3⟩) _ J (b9 (k:=i+k)) J<|?_;obtain⟨t,ht⟩: ∃t,t=p+W2.getD (i+k) 0+c:=⟨_,rfl⟩;refine ah 49 (.d (.v (.int .u64 (t:Nat)))) J (by show FX.d (.v (.int _ _))= .d (.v (.int _ _));congr 3;omega)<|gx (fu:=⟨11⟩) J<|ah 55 (.d (dU (t%4294967296))) J (by show FX.d (.v (.int _ _))= .d (.v (.int _ _));congr 3)<|gx J<|sb (fu:=⟨5⟩) (hv:=by simp only[aj];exact(by decide)) _ ((W2.set (i+k) (t%4294967296)).map dU) J (b9 (k:=i+k)) J (by(rw[show((i:Int)+k).toNat=i+k by omega,<-fm])<;>rfl) J<|ah 58 (.d (.v (.int .u64 (t/4294967296:Nat)))) J (by rw[kn])<|gx J<|at_ ⟨W2.set (i+k) (t%4294967296),t/4294967296,k+1⟩ (by dsimp only;exact⟨⟨by simpa using g1,g2.set _ (by omega),by omega,by omega,by rw[jv];exact JD (by omega) (by omega) g5 ht hp⟩,(by omega)⟩)
  .
   obtain rfl:k=(dg b).length:=by omega
   refine ah 63 (.d (vI ((dg b).length:Nat))) J (by rw[hlb]<;>rfl)<|gx (fu:=⟨3⟩) J<|ah 66 (.d (dU c)) J (by show FX.d (.v (.int _ _))= .d (.v (.int _ _));congr 3;omega)<|gx J<|sb _ ((W2.set (i+(dg b).length) c).map dU) J (b9 (k:=i+(dg b).length)) J (by(rw[show((i:Int)+((dg b).length:Nat)).toNat=i+(dg b).length by omega,<-fm])<;>rfl) J<|at_ ⟨W2.set (i+(dg b).length) c,i+1⟩ (by dsimp only;exact⟨⟨by simpa using g1,g2.set _ g3,by omega,I2 J (by omega) g5⟩,(by omega)⟩)
 .
  obtain rfl:i=(dg a).length:=by omega
  refine fz 20 J J<|cl J (ol (ds:=W)) J<|rz J (gA h2 (by have:=h4;rw[ge,ge,cd] at this;exact this))
def U6{h l y:Nat}(hh:h<y)(hl:l<4294967296)(hy:y<4294967296):PF GB prog 208 [.v (.int .u32 (h:Int)), .v (.int .u32 (l:Int)), .v (.int .u32 (y:Int))] (.tp [dU ((h*4294967296+l)/y),dU ((h*4294967296+l)%y)]):=by
 refine fn (fu:=⟨11⟩) func208 J J ntmps208 J J (fun C=>?_);refine kT 10 J (by omega)<|gx (fu:=⟨4⟩) J<|kF 14 J (by omega)<|gx (fu:=⟨11⟩) (hv:=by simp only[aj];exact⟨by omega,(by decide)⟩) J<|ah 19 (.d (.v (.int .u64 (h*2^32:Nat)))) J (by show FX.d (.v (.int _ _))= .d (.v (.int _ _));rw[lz _ 32 (by decide) (by show _*4294967296<_;omega) J])<|gx (fu:=⟨3⟩) J<|ah 22 (.d (.v (.int .u64 (l+h*2^32:Nat)))) J (congrArg (fun z:Nat=>FX.d (.v (.int .u64 (z:Int)))) (by rw[BitVec.or_comm];exact lC 64 l h 32 hl (by show _+_*4294967296<18446744073709551616;omega))) ?_;obtain⟨t,ht⟩: ∃t,t=h*4294967296+l:=⟨_,rfl⟩;have hq:t/y<4294967296:=by rw[gW (by omega)];have:=eX 4294967296 (show h+1<=y from hh);omega
 have hr:t%y<y:=cJ _ (by omega);refine ah 22 (.d (.v (.int .u64 (t:Nat)))) J (by show FX.d (.v (.int _ _))= .d (.v (.int _ _));congr 3;rw[ht];omega)<|gx (hv:=by simp only[aj];exact⟨⟨⟨⟨by omega,⟨(by omega),(by omega),(by omega)⟩⟩,by omega⟩,⟨(by omega),(by omega)⟩⟩,by kernel_rfl⟩) J<|rz J (by show DV.tp [.v (.int _ _), .v (.int _ _)]= .tp [.v (.int _ _), .v (.int _ _)];rw[<-ht,<-pT,<-Int.natCast_emod];generalize t/y=q at*;generalize t%y=r at*;congr 4<;>(first|omega|(congr 3;omega)))
def Nm{A r i b:Nat}(d:Nat)(hb:0<b):(A*4294967296+d)/b=A/b*4294967296+(A%b*4294967296+d)/b/\(A*4294967296+d)%b=(A%b*4294967296+d)%b:=by
 have h:=oV A b;have e:A*4294967296+d=(A%b*4294967296+d)+b*(A/b*4294967296):=by
  rw[<-bU,Nat.add_right_comm,<-cS,jS (A%b),h]
 rw[e,nU _ _ hb,nM];exact⟨jS _ _,J⟩
def Dm{ds:List Nat}{i:Nat}(h:i<ds.length):dv (ds.drop i)=dv (ds.drop (i+1))*4294967296+ds.getD i 0:=by
 rw[bM h,aJ,aQ h];simp only[dv,gN];omega
def Kz{W:List Nat}{i q:Nat}(h:i<W.length):dv ((W.set i q).drop i)=dv (W.drop (i+1))*4294967296+q:=by
 rw[Dm (by rw[aY];exact h),lN (by omega),vf h]
def SZ{a b k:Nat}{W:List Nat}(hb:0<b)(hk:k<(dg a).length)(hl:W.length=(dg a).length)(h:dv (W.drop (k+1))=dv ((dg a).drop (k+1))/b):
  dv ((W.set k ((dv ((dg a).drop (k+1))%b*4294967296+(dg a).getD k 0)/b)).drop k)=dv ((dg a).drop k)/b/\dv ((dg a).drop k)%b=(dv ((dg a).drop (k+1))%b*4294967296+(dg a).getD k 0)%b:=by
 have:=Nm (A:=dv ((dg a).drop (k+1))) (r:=0) (i:=0) ((dg a).getD k 0) hb;rw[Kz (by omega),h,Dm hk,this.1,this.2];exact⟨J,J⟩
def s4{a b:Nat}:fA a b<0↔a<b:=by unfold fA;split<;>(try split)<;>omega
def uL{a b:Nat}:0<fA a b↔b<a:=by unfold fA;split<;>(try split)<;>omega
def BB{x:Nat}(hx:x<4294967296):PF GB prog 237 [dU x] (vI (32-(bl x:Int))):=by
 intro G vs hg hv;obtain⟨v,m,rfl,h1,h2⟩:=bi.1 hv;rw[b4] at h2;subst h2;rw[aH.1 h1];exact(O9 hx).mono fun v G' _ h=>aH.2 h
def K7{a k:Nat}(h:4294967296^k<=a):k<(dg a).length:=by
 have h1:=mA a;rcases dR k (dg a).length with q|q
 .exact q
 .have:4294967296^(dg a).length<=4294967296^k:=bY (by decide) q
  omega
def IE{v L:Nat}(hL:L=(dg v).length)(h1:1<=L):(dg v).getD (L-1) 0=v/4294967296^(L-1)/\0<v/4294967296^(L-1):=by
 have h:=wF (dH v) (L-1);rw[lg (by omega:(dg v).length<=L-1+1),cd,qN,eK] at h;have h2:=mA v;rw[<-hL] at h2;rw[iM (show v<4294967296^(L-1+2) from bS h2 (bY (by decide) (by omega))),qN,eK] at h;have h3:=qt (dE v).2.2 (by intro e;rw[e] at hL;simp at hL;omega);rw[cd,<-hL] at h3;exact⟨h.symm,Nat.div_pos h3 (fY (by decide))⟩
def zU{R n:Nat}(h1:1<=n)(h:R<4294967296^(n+1)):R/4294967296^(n-1)=(dg R).getD (n-1) 0+(dg R).getD n 0*4294967296:=by
 have e:=wF (dH R) (n-1);rw[cd,show n-1+1=n by omega,iM (show R<4294967296^(n-1+2) by rwa [show n-1+2=n+1 by omega]),qN,eK,bW] at e;exact e
def OM{R v j L:Nat}(hL:L=(dg v).length)(h1:1<=L)(hR:R<v*4294967296^(j+1)):R/(v*4294967296^j)<=min (R/4294967296^(L+j-1)/(v/4294967296^(L-1))) 4294967295:=by
 have ht:=(IE hL h1).2;have hp:0<4294967296^j:=fY (by decide);have hv0:0<v:=by
  rcases cN v with q|q
  .subst q;simp at ht
  .exact q
 have hvp:0<v*4294967296^j:=fX hv0 hp;refine Nat.le_min.2 ⟨?_,?_⟩
 .rw[pW ht,pW (fY (by decide))]
  have h3:v/4294967296^(L-1)*4294967296^(L-1)<=v:=Nat.div_mul_le_self _ _;have h4:R/(v*4294967296^j)*(v*4294967296^j)<=R:=Nat.div_mul_le_self _ _;rw[show L+j-1=L-1+j by omega,fW]
  calc R/(v*4294967296^j)*(v/4294967296^(L-1))*(4294967296^(L-1)*4294967296^j)
    =R/(v*4294967296^j)*((v/4294967296^(L-1)*4294967296^(L-1))*4294967296^j):=by simp only[bU]
   _<=R/(v*4294967296^j)*(v*4294967296^j):=eX _ (bK _ h3)
   _<=R:=h4
 .have:R/(v*4294967296^j)<4294967296:=by
   rw[gW hvp];rw[gJ] at hR;rwa [bW,bU]
  omega
def wu{R V g:Nat}(hV:0<V)(h:R<V*g):R/V<g:=by
 rw[gW hV,bW];exact h
def TA{R V g:Nat}(hV:0<V)(h1:R/V<=g)(h2:V*g<=R):g=R/V:=by
 have:g<=R/V:=by rw[pW hV,bW];exact h2
 omega
def Hn{R0 R v j g:Nat}{W:List Nat}(hj:j<W.length)(h:R0=R+dv (W.drop (j+1))*4294967296^(j+1)*v)(hv:0<v*4294967296^j)(hg:g=R/(v*4294967296^j)):
  R0=(R-v*4294967296^j*g)+dv ((W.set j g).drop j)*4294967296^j*v/\R-v*4294967296^j*g<v*4294967296^j:=by
 have h1:=oV R (v*4294967296^j);have h2:=cJ R hv;rw[<-hg] at h1;refine⟨?_,by omega⟩;rw[Kz hj,cS,cS,h,gJ];have e:g*4294967296^j*v=v*4294967296^j*g:=by simp only[bU,kZ,bW]
 have e2:dv (W.drop (j+1))*(4294967296^j*4294967296)*v=dv (W.drop (j+1))*4294967296*4294967296^j*v:=by simp only[bU,kZ,bW]
 rw[e,e2];omega
def Mx{a b s R:Nat}{D:Nat}(hR:R<b*2^s)(h:a*2^s=R+D*(b*2^s)):D=a/b/\R/2^s=a%b:=by
 have hp:0<2^s:=fY (by decide);have hb:0<b:=by
  rcases cN b with q|q
  .subst q;simp at hR
  .exact q
 have h1:a=R/2^s+D*b:=by
  have:=congrArg (· /2^s) h;rw[Nat.mul_div_cancel _ hp,<-bU,Nat.add_mul_div_right _ _ hp] at this;exact this
 have h2:R/2^s<b:=by rw[gW hp];exact hR
 have h3:R/2^s+b*D=a:=by rw[bW b];exact h1.symm
 have:=(Nat.div_mod_unique hb).2 ⟨h3,h2⟩;exact⟨this.1.symm,this.2.symm⟩
def Uh{a b s:Nat}(hl:(dg b).length<=(dg a).length)(h2:1<=(dg b).length):a*2^s<b*2^s*4294967296^((dg a).length-(dg b).length+1):=by
 have h1:=mA a;have h3:=qt (dE b).2.2 (by intro e;rw[e] at h2;simp at h2);rw[cd] at h3;have h4:4294967296^(dg a).length<=b*4294967296^((dg a).length-(dg b).length+1):=by
  rw[show(dg a).length=((dg b).length-1)+((dg a).length-(dg b).length+1) by omega,fW];rw[show(dg b).length-1+((dg a).length-(dg b).length+1)-(dg b).length+1=(dg a).length-(dg b).length+1 by omega];exact bK _ h3
 rw[lQ];exact kW (bS h1 h4) (fY (by decide))
def Ig(x j:Nat):x*2^(32*j)=x*4294967296^j:=by rw[qQ]
def V8{R L j:Nat}(h:R<4294967296^(L+j+1))(h1:1<=L):R/4294967296^(L+j-1)<18446744073709551616:=by
 rw[gW (fY (by decide)),show(18446744073709551616:Nat)=4294967296^2 from J,<-fW];rwa [show 2+(L+j-1)=L+j+1 by omega]
def Tl{R v j L:Nat}(hL:L=(dg v).length)(hR:R<v*4294967296^(j+1)):R<4294967296^(L+j+1):=by
 have h:=mA v;rw[<-hL] at h;rw[jT,fW];exact bS hR (bK _ (mW h))
def SM{a b ia ib:Nat}[ha:BN a ia][hb:BN b ib](hi:ia<=500000000)(hj:ib<=500000000)(h2:1<=(dg b).length)(hl:(dg b).length<=(dg a).length):PF GB prog 209 [dN a,dN b] (.tp [dN (a/b),dN (a%b)]):=by
 have hla:=bv (dg a);have hlb:=bv (dg b);have hba:=gP ha.h;have hba':(dg a).length<=100000000:=by omega
 refine fn func209 J J ntmps209 J J (fun C=>?_);refine ix _ J (b9 (k:=(dg b).length-1)) J<|cl (fu:=⟨0⟩) J (BB (cP b ((dg b).length-1))) J<|?_;obtain⟨s,hs⟩: ∃s:Nat,s=32-bl ((dg b).getD ((dg b).length-1) 0):=⟨_,rfl⟩;have hs32:s<=32:=by omega
 refine ah 22 (.d (vI (s:Nat))) J (by show FX.d (.v (.int _ _))= .d (.v (.int _ _));congr 3;have:=iE.2 (show(dg b).getD ((dg b).length-1) 0<2^32 from cP b _);omega)<|gx J<|cl J (wn (a:=b) (k:=s) (ia:=ib) (by omega) (by omega)) J<|cl (fu:=⟨0⟩) J (wn (a:=a) (k:=s) (ia:=ia) (by omega) (by omega)) J<|?_;obtain⟨v,hv⟩: ∃v,v=b*2^s:=⟨_,rfl⟩;obtain⟨R0,hR0⟩: ∃R0,R0=a*2^s:=⟨_,rfl⟩;refine ah 25 (.d (dN v)) J (by rw[hv])<|ah 28 (.d (dN R0)) J (by rw[hR0]) ?_;obtain⟨L,hL⟩: ∃L,L=(dg v).length:=⟨_,rfl⟩;have hlv:((dg v).map dU).length=L:=by rw[bv,hL]
 have hps:2^s<=2^32:=bY (by decide) hs32;have hpp:0<2^s:=fY (by decide);have hst:=Uh (a:=a) (b:=b) (s:=s) hl h2;rw[<-hv,<-hR0] at hst;have hvb:v<2^(6*(ib+32)):=by rw[hv];exact bS (lZ hb.h hps (by decide)) (by rw[<-fW];exact bY (by decide) (by omega))
 have hRb:R0<2^(6*(ia+32)):=by rw[hR0];exact bS (lZ ha.h hps (by decide)) (by rw[<-fW];exact bY (by decide) (by omega))
 have hbp:0<b:=dM (fun q=>by subst q;rw[n8] at h2;simp at h2);have hvp:0<v:=hv▸fX hbp hpp;have hLp:1<=L:=by rw[hL];exact K7 (k:=0) (by rw[rJ];exact hvp)
 have htop:=IE hL hLp;haveI hvB:BN v (ib+32):=⟨hvb⟩;have hLb:=gP hvb;have hLb':L<=100000000:=by omega
 have htl:=cP v (L-1);refine gx (fu:=⟨9⟩) J<|ah 31 (.d (vI (L:Nat))) J (by rw[hlv];rfl)<|gx J<|ix (fu:=⟨2⟩) _ J (b9 (k:=L-1)) J<|ah 35 (.d (.v (.int .u64 (v/4294967296^(L-1):Nat)))) J (by rw[htop.1]) ?_;rw[htop.1] at htl;refine gx (fu:=⟨11⟩) J<|?_;obtain⟨m,hm⟩: ∃m,m=(dg a).length-(dg b).length+1:=⟨_,rfl⟩;rw[<-hm] at hst;have hrl:(List.replicate ((m:Nat):Int).toNat (DV.v (.int .u32 0))).length=m:=by rw[aV,fU]
 refine ah 41 (.d (vI (m:Nat))) J (by show FX.d (.v (.int _ _))= .d (.v (.int _ _));congr 3;omega)<|gx J<|mk ((List.replicate m 0).map dU) J J (by rw[<-jd];rfl) J<|lp (X:=List Nat×Nat×Nat) (fun⟨W,R,k⟩=>[(6, .d (vI (s:Nat))),(7, .d (dN v)),(8, .d (dN R)),(9, .d (.v (.int .u64 (v/4294967296^(L-1):Nat)))),(10, .rw 42),(11, .d (vI ((k:Nat)-1)))]) (fun⟨W,R,k⟩=>[(42,some (.b 261 1 (W.map dU) true))]) (fun⟨W,R,k⟩=>W.length=m/\aO W/\k<=m/\R0=R+dv (W.drop k)*4294967296^k*v/\R<v*4294967296^k/\R<=R0) (fun⟨W,R,k⟩=>k) ⟨List.replicate m 0,R0,m⟩ J ⟨by simp, .replicate _,aM _,by simp[dv],hst,aM _⟩ (fun _=>J) (fun⟨W,R,k⟩ hk=>?_);dsimp only at hk⊢;obtain⟨h1,h2',h3,h4,h5,h6⟩:=hk;have hlw:=bv W;refine br (fu1:=⟨10⟩) J J J (fun hc47=>?_) (fun hc47=>?_)
 .
  obtain⟨j,rfl⟩: ∃j,k=j+1:=⟨k-1,by omega⟩;have hvj:0<v*4294967296^j:=fX hvp (fY (by decide));have hge:=OM hL hLp h5;have hlen:=Tl hL h5;have hlr:((dg R).map dU).length=(dg R).length:=bv _;haveI hRB:BN R (ia+32):=⟨by omega⟩;have hq32:R/(v*4294967296^j)<4294967296:=by omega
  have hz1:=Int.natCast_nonneg (R/4294967296^(L+j-1));have hz2:=Int.natCast_nonneg (R/4294967296^(L+j-1)/(v/4294967296^(L-1)));refine ah 11 (.d (vI (j:Nat))) J (by show FX.d (.v (.int _ _))= .d (.v (.int _ _));congr 3;omega)<|mg (fu:=⟨6⟩) (hv:=fun _ _=>by simp only[aj];exact⟨(by omega),(by have:=V8 hlen hLp;omega),(by omega)⟩) (X:=Unit) (fun _=>[(6, .d (vI (s:Nat))),(7, .d (dN v)),(8, .d (dN R)),(9, .d (.v (.int .u64 (v/4294967296^(L-1):Nat)))),(10, .rw 42),(11, .d (vI (j:Nat))),(12, .d (.v (.int .u64 (R/4294967296^(L+j-1):Nat))))]) (fun _=>[(42,some (.b 261 1 (W.map dU) true))]) (fun _=>True) [6,7,8,9,10,11,12] [42] rfl ?_ (fun _=>J) (fun _ hm=>?_)
  .
   refine gx (fu:=⟨4⟩) J<|ah 51 (.d (vI (L:Nat))) J (by rw[hlv];rfl)<|gx (fu:=⟨2⟩) J<|ah 53 (.d (vI (L+j:Nat))) J (by show FX.d (.v (.int _ _))= .d (.v (.int _ _));congr 3)<|gx (fu:=⟨8⟩) J<|ah 56 (.d (vI ((dg R).length:Nat))) J (by rw[hlr];rfl)<|gx J<|br (fu2:=⟨6⟩) J J J (fun hc57=>?_) (fun hc57=>?_)
   .
    have hd0:=cP R (L+j-1);have hd1:=cP R (L+j);refine ix (hv:=by simp only[aj];exact⟨⟨by omega,(by decide)⟩,by omega⟩) _ J (b9 (k:=L+j)) J<|ix (fu:=⟨3⟩) _ J (b9 (k:=L+j-1)) J<|ah 70 (.d (.v (.int .u64 ((dg R).getD (L+j-1) 0+(dg R).getD (L+j) 0*4294967296:Nat)))) J (congrArg (fun z:Nat=>FX.d (.v (.int .u64 (z:Int)))) (by rw[lz _ 32 (by decide) (by show _*4294967296<_;omega) J,BitVec.or_comm];exact lC 64 ((dg R).getD (L+j-1) 0) ((dg R).getD (L+j) 0) 32 hd0 (by show _+_*4294967296<18446744073709551616;omega)))<|gx J<|ah 12 (.d (.v (.int .u64 (R/4294967296^(L+j-1):Nat)))) J (by rw[zU (by omega) hlen])<|at_ () trivial
   .
    refine ah 74 (.d (vI ((dg R).length:Nat))) J (by rw[hlr];rfl)<|gx J<|br J J J (fun hc75=>?_) (fun hc75=>?_)
    .
     have hd0:=cP R (L+j-1);refine ix _ J (b9 (k:=L+j-1)) J<|ah 12 (.d (.v (.int .u64 (R/4294967296^(L+j-1):Nat)))) J (by rw[zU (by omega) hlen,lg (by omega:(dg R).length<=L+j),iV,eK])<|at_ () trivial
    .
     refine ah 12 (.d (.v (.int .u64 (R/4294967296^(L+j-1):Nat)))) J (by rw[zU (by omega) hlen,lg (by omega:(dg R).length<=L+j),lg (by omega:(dg R).length<=L+j-1)];rfl)<|at_ () trivial
  .
   obtain⟨g0,hg0'⟩: ∃g0,g0=min (R/4294967296^(L+j-1)/(v/4294967296^(L-1))) 4294967295:=⟨_,rfl⟩;rw[<-hg0'] at hge;have hg0:=hge;have hg1:g0<=4294967295:=by omega
   refine ah 85 (.d (.v (.int .u64 (g0:Nat)))) J (by show FX.d (.v (.int _ _))= .d (.v (.int _ _));congr 3;rw[<-pT];split<;>omega)<|gx J<|cl J (nF (u:=g0)) J<|cl (fu:=⟨2⟩) J (rm (ia:=ib+32) (ib:=32) (hb:=⟨pE (by show _<4294967296;omega)⟩) (by omega) (by decide)) J<|ah 91 (.d (vI (32*j:Nat))) J (by show FX.d (.v (.int _ _))= .d (.v (.int _ _));congr 3)<|gx J<|cl (fu:=⟨0⟩) J (wn (k:=32*j) (ia:=ib+64) (ha:=⟨show _<2^(6*(ib+32+32)) from jk hvb (pE (by show _<4294967296;omega))⟩) (by omega) (by omega)) J<|ah 92 (.d (dN (v*4294967296^j*g0))) J (by rw[Ig,lQ])<|gx J<|lp (X:=Nat) (fun g=>[(6, .d (vI (s:Nat))),(7, .d (dN v)),(8, .d (dN R)),(9, .d (.v (.int .u64 (v/4294967296^(L-1):Nat)))),(10, .rw 42),(11, .d (vI (j:Nat))),(14, .d (.v (.int .u64 (g:Nat)))),(15, .d (dN (v*4294967296^j*g)))]) (fun g=>[(42,some (.b 261 1 (W.map dU) true))]) (fun g=>R/(v*4294967296^j)<=g/\g<=4294967295) (fun g=>g) g0 J ⟨hg0,by omega⟩ (fun _=>J) (fun g hk=>?_);obtain⟨g1,g2⟩:=hk;have hlw:=bv W;refine cl J (ua (a:=v*4294967296^j*g) (b:=R) (by have:=uM (a:=v*4294967296^j*g) (k:=L+j+1) (by have h1:=mA v;rw[<-hL] at h1;rw[gJ,fW];exact pR (kW h1 (fY (by decide))) (by omega));omega) (by have:=uM hlen;omega)) J<|br (fu1:=⟨7⟩) (v1:=fun hc96=>by simp only[aj];exact(by have h:=wu hvj (uL.1 hc96);have h1:1<=g:=fV (bJ _) h;omega)) (fu2:=⟨11⟩) J J J (fun hc96=>?_) (fun hc96=>?_)
   .
    have hgd:=wu hvj (uL.1 hc96);have hg1p:1<=g:=fV (bJ _) hgd;refine ah 98 (.d (.v (.int .u64 ((g-1:Nat):Int)))) J (by show FX.d (.v (.int _ _))= .d (.v (.int _ _));congr 3;omega)<|gx J<|cl J (nF (u:=g-1)) J<|cl (fu:=⟨2⟩) J (rm (ia:=ib+32) (ib:=32) (hb:=⟨pE (by show _<4294967296;omega)⟩) (by omega) (by decide)) J<|ah 104 (.d (vI (32*j:Nat))) J (by show FX.d (.v (.int _ _))= .d (.v (.int _ _));congr 3)<|gx J<|cl (fu:=⟨0⟩) J (wn (k:=32*j) (ia:=ib+64) (ha:=⟨show _<2^(6*(ib+32+32)) from jk hvb (pE (by show _<4294967296;omega))⟩) (by omega) (by omega)) J<|ah 105 (.d (dN (v*4294967296^j*(g-1)))) J (by rw[Ig,lQ])<|gx J<|at_ (g-1) ⟨⟨by have h:=wu hvj (uL.1 hc96);omega,by omega⟩,(by have:=wu hvj (uL.1 hc96);omega)⟩
   .
    have hgq:=TA hvj g1 (pS fun q=>hc96 (uL.2 q));refine ah 109 (.d (dU g)) J (by show FX.d (.v (.int _ _))= .d (.v (.int _ _));congr 3;omega)<|gx J<|sb _ ((W.set j (R/(v*4294967296^j))).map dU) J (b9 (k:=j)) J (by(rw[<-hgq,fU,<-fm])<;>rfl) J<|cl (fu:=⟨0⟩) J (zG (a:=R) (b:=v*4294967296^j*g) (ia:=ia+32) (by rw[hgq];exact Nat.mul_div_le _ _) (by omega)) J<|ah 113 (.d (dN (R-v*4294967296^j*(R/(v*4294967296^j))))) J (by rw[hgq])<|gx J<|at_ ⟨W.set j (R/(v*4294967296^j)),R-v*4294967296^j*(R/(v*4294967296^j)),j⟩ (by dsimp only;exact⟨⟨by simpa using h1,h2'.set _ (by omega),by omega,(Hn (by omega) h4 hvj J).1,(Hn (by omega) h4 hvj J).2,by omega⟩,(by omega)⟩)
 .
  obtain rfl:k=0:=by omega
  rw[rJ,kR] at h5;rw[rJ,kR,fZ,hR0,hv] at h4;rw[hv] at h5;have hend:=Mx h5 h4;haveI hRB:BN R (ia+32):=⟨by omega⟩;refine fz 42 J J<|cl J (me (ds:=W)) J<|cl J (My (a:=R) (k:=s) (ia:=ia+32) (by omega) (by omega)) J<|rz J (by show DV.tp [bg _,dN _]= .tp [dN _,dN _];rw[gA h2' hend.1,hend.2])
def R2{ds:List Nat}(hl:ds.length<=1125899906842624):PB GB prog 233 (gH [none]) 1 261 (ds.map dU) (fun w=> .v (.slice w.a w.n w.c)) ((trimD ds).map dU):=by
 refine uv func233 J J ntmps233 J J (fun C=>?_);refine lp (fu:=⟨5⟩) (X:=List Nat) (fun W=>[(0, .rw 1000000)]) (fun W=>[(1000000,some (.b 261 1 (W.map dU) false))]) (fun W=>trimD ds=trimD W/\W.length<=ds.length) (fun W=>W.length) ds J ⟨J,aM _⟩ (fun _=>J) (fun W hk=>?_);obtain⟨h1,h2⟩:=hk;have hml:=bv W;refine ah 4 (.d (vI (W.length:Nat))) J (by rw[hml]<;>rfl)<|gx J<|cs (fu1:=⟨3⟩) 6 J J J (fun hg6=>?_) (fun hg6=>?_)
 .
  refine ah 9 (.d (vI (W.length:Nat))) J (by rw[hml]<;>rfl)<|gx J<|lb _ J (b9 (k:=W.length-1)) J<|br (fu1:=⟨7⟩) J J J (fun hc14=>?_) (fun hc14=>?_)
  .
   refine ah 17 (.d (vI (W.length:Nat))) J (by rw[hml]<;>rfl)<|gx (fu:=⟨1⟩) J<|ah 18 (.d (vI (W.length-1:Nat))) J (by show FX.d (.v (.int _ _))= .d (.v (.int _ _));congr 3;omega)<|gx (fu:=⟨0⟩) J<|yX ((W.take (W.length-1)).map dU) (W.length-1) J J (by rw[hml];omega) (by rw[jL]) J<|d4 19 1000000 J<|at_ (W.take (W.length-1)) ⟨⟨by rw[h1,Ly],by rw[aS];omega⟩,(by rw[aS];omega)⟩
  .
   exact nf J J J (by rw[h1,xi (fun _=>by omega)])
 .
  exact nf J J J (by rw[h1,xi (fun _=>by omega)])
def RT{a:Nat}(h:0<(dg a).length):bl a=32*((dg a).length-1)+bl ((dg a).getD ((dg a).length-1) 0):=by
 have:=Ro (dH a) (dE a).2.2 (fun e=>by rw[e] at h;exact absurd h (by decide));rwa [cd] at this
def tB{a:Nat}(h:(dg a).length=0:=by omega):a=0:=by rw[<-cd a,cV h];rfl
def oe{a i:Nat}[h:BN a i](hi:i<=1000000000:=by decide):PF GB prog 210 [dN a] (vI (bl a:Nat)):=by
 have hla:=bv (dg a);have hba:=eH (a:=a) hi;have hbl:bl ((dg a).getD ((dg a).length-1) 0)<=32:=iE.2 (cP a _);refine fn func210 J J ntmps210 J J (fun C=>?_);refine cl (fu:=⟨8⟩) J (ki) J<|ah 6 (.d (vI ((dg a).length:Nat))) J (by rw[hla]<;>rfl)<|gx J<|br (fu2:=⟨6⟩) J J J (fun hc7=>?_) (fun hc7=>?_)
 .
  exact rz J (by rw[tB (a:=a)];rfl)
 .
  refine ah 9 (.d (vI ((dg a).length:Nat))) J (by rw[hla]<;>rfl)<|gx (fu:=⟨4⟩) J<|ah 13 (.d (vI ((dg a).length:Nat))) J (by rw[hla]<;>rfl)<|gx J<|ix _ J (b9 (k:=(dg a).length-1)) J<|cl J (BB (cP a ((dg a).length-1))) J<|rz J (by show DV.v (.int _ _)=DV.v (.int _ _);have:=RT (a:=a) (by omega);congr 2;omega)
def VJ{a i:Nat}(h:a<18446744073709551616)(hi:i<(dg a).length):dv ((dg a).take i)<2^(32*i)/\dv ((dg a).take i)+(dg a).getD i 0*2^(32*i)=dv ((dg a).take (i+1))/\dv ((dg a).take (i+1))<18446744073709551616:=by
 have h1:=i8 ((dH a).take i);rw[aS,fM (by omega)] at h1;have e:(2:Nat)^(32*i)=4294967296^i:=by rw[qQ]
 have h2:=t8 (dg a) (i+1);rw[cd] at h2;refine⟨by rw[e];exact h1,by rw[e,jv,bW],?_⟩;have:=bJ (4294967296^(i+1)*dv ((dg a).drop (i+1)));omega
def RZ{a:Nat}(h:a<18446744073709551616):(dg a).length<=2:=by have:=gP (u:=a) (k:=64) h;omega
def uh{a:Nat}(h:a<18446744073709551616):PF GB prog 213 [dN a] (.tp [.v (.int .u64 (a:Nat)),vB true]):=by
 have hla:=bv (dg a);have hl2:=RZ h;refine fn func213 J J ntmps213 J J (fun C=>?_);refine cl (fu:=⟨8⟩) J (ki) J<|ah 10 (.d (vI ((dg a).length:Nat))) J (by rw[hla]<;>rfl)<|gx (fu:=⟨0⟩) J<|dq (fu:=⟨15⟩) J (by show some (decide _)=some false;rw[decide_eq_false (by omega)]) J<|ah 13 (.d (vI ((dg a).length:Nat))) J (by rw[hla]<;>rfl)<|gx J<|lp (X:=Nat) (fun i=>[(14, .d (vI (i:Nat))),(4, .d (.v (.int .u64 (dv ((dg a).take i):Nat))))]) (fun i=>[]) (fun i=>i<=(dg a).length) (fun i=>(dg a).length-i) 0 J (bJ _) (fun _=>J) (fun i hk=>?_);refine br J J J (fun hc15=>?_) (fun hc15=>?_)
 .
  obtain⟨u1,u2,u3⟩:=VJ h (i:=i) (by omega);have hda:=cP a i;refine ix (fu:=⟨12⟩) (hv:=by simp only[aj];exact⟨⟨by omega,by omega⟩,(by omega)⟩) _ J (dm) J<|ah 24 (.d (.v (.int .u64 ((dg a).getD i 0*2^(32*i):Nat)))) J (by show FX.d (.v (.int _ _))= .d (.v (.int _ _));rw[lz _ (32*i) (by omega) (by omega)])<|gx (fu:=⟨1⟩) J<|ah 25 (.d (.v (.int .u64 (dv ((dg a).take (i+1)):Nat)))) J (congrArg (fun z:Nat=>FX.d (.v (.int .u64 (z:Int)))) ((lC 64 _ _ (32*i) u1 (by rw[u2];exact u3)).trans u2))<|gx J<|at_ (i+1) ⟨(by omega),(by omega)⟩
 .
  obtain rfl:i=(dg a).length:=by omega
  exact rz J (by rw[ge (aM _),cd];rfl)
def Hq{ds:List Nat}{j:Nat}(h:j<ds.length):dv (ds.drop j)=ds.getD j 0+4294967296*dv (ds.drop (j+1)):=by
 rw[bM h,aJ,aQ h];rfl
def S8{A W:List Nat}{j d r v:Nat}(hA:j<A.length)(hW:j<W.length)(hd:0<d)(h:dv (A.drop (j+1))=d*dv (W.drop (j+1))+r)(hv:v=A.getD j 0+r*4294967296):dv (A.drop j)=d*dv ((W.set j (v/d)).drop j)+v%d:=by
 have e1:dv ((W.set j (v/d)).drop j)=v/d+4294967296*dv (W.drop (j+1)):=by
  rw[Hq (by rw[aY];exact hW),vf hW,lN (by omega)]
 have h2:=oV v d;have e3:d*(v/d+4294967296*dv (W.drop (j+1)))=d*(v/d)+4294967296*(d*dv (W.drop (j+1))):=by rw[cY,kZ]
 rw[e1,Hq hA,h,e3];omega
def SL{a d r:Nat}{W:List Nat}(h:a=d*dv W+r)(hr:r<d):dv W=a/d/\r=a%d:=by
 have:=(Nat.div_mod_unique (by omega:0<d)).2 ⟨show r+d*dv W=a by omega,hr⟩;exact⟨this.1.symm,this.2.symm⟩
def Or{a d i:Nat}[h:BN a i](hd:0<d)(hd2:d<4294967296)(hi:i<=1000000000:=by decide):PF GB prog 242 [dN a,dU d] (.tp [dN (a/d),dU (a%d)]):=by
 have hla:=bv (dg a);have hba:=eH (a:=a) hi;refine fn (fu:=⟨10⟩) func242 J J ntmps242 J J (fun C=>?_);refine ah 11 (.d (vI ((dg a).length:Nat))) J (by rw[hla]<;>rfl)<|gx J<|mk (fu:=⟨13⟩) ((List.replicate (dg a).length 0).map dU) J J (by rw[<-jd];rfl) J<|ah 14 (.d (vI ((dg a).length:Nat))) J (by rw[hla]<;>rfl)<|gx J<|lp (X:=List Nat×Nat×Nat) (fun⟨W,r,k⟩=>[(0, .d (dN a)),(1, .d (dU d)),(6, .rw 12),(7, .d (.v (.int .u64 (r:Nat)))),(8, .d (vI ((k:Nat)-1)))]) (fun⟨W,r,k⟩=>[(12,some (.b 261 1 (W.map dU) true))]) (fun⟨W,r,k⟩=>W.length=(dg a).length/\aO W/\r<d/\k<=(dg a).length/\dv ((dg a).drop k)=d*dv (W.drop k)+r) (fun⟨W,r,k⟩=>k) ⟨List.replicate (dg a).length 0,0,(dg a).length⟩ J ⟨by simp, .replicate _,hd,aM _,by simp[dv]⟩ (fun _=>J) (fun⟨W,r,k⟩ hk=>?_)
 try dsimp only at hk⊢
 obtain⟨h1,h2,h3,h4,h5⟩:=hk;have hlw:=bv W;refine br (fu1:=⟨0⟩) J J J (fun hc17=>?_) (fun hc17=>?_)
 .
  obtain⟨j,rfl⟩: ∃m,k=m+1:=⟨k-1,by omega⟩;have hda:=cP a j;obtain⟨v,hv⟩: ∃v,v=(dg a).getD j 0+r*4294967296:=⟨_,rfl⟩;obtain⟨q,hq⟩: ∃q,q=v/d:=⟨_,rfl⟩;have hvq:q<4294967296:=by rw[hq,gW hd,bW];have:=bK 4294967296 (show r+1<=d from h3);omega
  refine ah 8 (.d (vI (j:Nat))) J (by show FX.d (.v (.int _ _))= .d (.v (.int _ _));congr 3;omega)<|gx (fu:=⟨8⟩) (hv:=by simp only[aj];exact(by decide)) J<|ah 21 (.d (.v (.int .u64 (r*4294967296:Nat)))) J (by show FX.d (.v (.int _ _))= .d (.v (.int _ _));rw[lz _ 32 (by decide) (by show _*4294967296<_;omega) J])<|gx J<|ix (fu:=⟨3⟩) _ J (dm) J<|ah 27 (.d (.v (.int .u64 (v:Nat)))) J (congrArg (fun z:Nat=>FX.d (.v (.int .u64 (z:Int)))) ((congrArg BitVec.toNat (BitVec.or_comm ..)).trans ((lC 64 ((dg a).getD j 0) r 32 hda (by show _+_*4294967296<18446744073709551616;omega)).trans hv.symm)))<|gx (fu:=⟨11⟩) J<|ah 33 (.d (.v (.int .u64 (q:Nat)))) J (by show FX.d (.v (.int _ _))= .d (.v (.int _ _));congr 3;rw[hq];rfl)<|gx (fu:=⟨1⟩) J<|ah 34 (.d (dU q)) J (by show FX.d (.v (.int _ _))= .d (.v (.int _ _));congr 3;omega)<|gx J<|sb (fu:=⟨7⟩) _ ((W.set j q).map dU) J (dm) J (by rw[<-fm];rfl) J<|ah 39 (.d (.v (.int .u64 (v%d:Nat)))) J (by show FX.d (.v (.int _ _))= .d (.v (.int _ _));congr 3)<|gx J<|at_ ⟨W.set j q,v%d,j⟩ (by dsimp only;exact⟨⟨by simpa using h1,h2.set _ hvq,cJ _ hd,by omega,by rw[hq];exact S8 (by omega) (by omega) hd h5 hv⟩,(by omega)⟩)
 .
  obtain rfl:k=0:=by omega
  obtain⟨e1,e2⟩:=SL (a:=a) (W:=W) (by rw[fZ,fZ,cd] at h5;exact h5) h3;refine fz 12 J J<|cl (fu:=⟨2⟩) J (ol (ds:=W)) J<|ah 43 (.d (dU r)) J (by show FX.d (.v (.int _ _))= .d (.v (.int _ _));congr 3;omega)<|gx J<|rz J (by show DV.tp [bg _,dU _]= .tp [dN _,dU _];rw[gA h2 e1,<-e2])
def Ps{A W:List Nat}{k i x:Nat}(hk:k<32)(hl:i+1<W.length)(hx:x=A.getD i 0)(h:dv (W.take (i+1))=dv (A.take i)*2^k):dv (((W.set i (W.getD i 0+x*2^k%4294967296)).set (i+1) (x*2^k/4294967296)).take (i+1+1))=dv (A.take (i+1))*2^k:=by
 have:=E9 (A:=A) (W:=W) (k:=k) (q:=0) (s:=k) (i:=i) (x:=x) (by omega) (by omega) (by omega) hx (by rw[dW];exact h);simpa only[dW] using this
def Px{a k n:Nat}{W:List Nat}(hn:n=(dg a).length)(hl:W.length=n)(h:dv (W.take n)=(a/2^k)%4294967296^n):dv W=a/2^k:=by
 rw[ge] at h;have h1:=mA a;have h2:=kK a (2^k);rw[h,gQ (by rw[hn];omega)]
def UZ{k:Nat}(h:k<32):(k:Int).tdiv 32=0:=Int.tdiv_eq_zero_of_lt (by omega) (by omega)
def I7{a k ia:Nat}[h:BN a ia](hk:k<32)(h0:0<(dg a).length)(hi:ia<=1000000000:=by decide):PR GB prog 259 [dN a, .v (.int .u64 (k:Nat))] 1 261 ((dg (a*2^k)).map dU):=by
 have hla:=bv (dg a);have hba:=eH (a:=a) hi;refine S2 (fu:=⟨8⟩) func259 J J ntmps259 J J (fun C hmb=>?_);refine cl (fu:=⟨2⟩) J (ki (a:=a)) J<|ah 14 (.d (.v (.int .u64 (k:Nat)))) J (by show FX.d (.v (.int _ _))= .d (.v (.int _ _));congr 3;omega)<|gx (fu:=⟨9⟩) J<|ah 16 (.d (vI ((dg a).length:Nat))) J (by rw[hla]<;>rfl)<|gx (fu:=⟨0⟩) J<|dq (fu:=⟨10⟩) J (by show some (decide _)=some false;rw[decide_eq_false (by omega)]) J<|ah 20 (.d (vI (0:Nat))) J (by show FX.d (.v (.int _ _))= .d (.v (.int _ _));congr 3;have:=UZ hk;omega)<|gx (fu:=⟨2⟩) J<|ah 22 (.d (.v (.int .u64 (k:Nat)))) J (by show FX.d (.v (.int _ _))= .d (.v (.int _ _));congr 3;omega)<|gx (fu:=⟨8⟩) J<|ah 24 (.d (vI ((dg a).length:Nat))) J (by rw[hla]<;>rfl)<|gx (fu:=⟨3⟩) J<|ah 27 (.d (vI ((dg a).length+1:Nat))) J (by show FX.d (.v (.int _ _))= .d (.v (.int _ _));congr 3)<|gx J<|mk (fu:=⟨8⟩) ((List.replicate ((dg a).length+1) 0).map dU) J J (by rw[<-jd];rfl) J<|ah 30 (.d (vI ((dg a).length:Nat))) J (by rw[hla]<;>rfl)<|gx J<|lp (X:=List Nat×Nat) (fun⟨W,i⟩=>[(0, .d (dN a)),(1, .d (.v (.int .u64 (k:Nat)))),(5, .d (vI (0:Nat))),(6, .d (.v (.int .u64 (k:Nat)))),(7, .rw 28),(29, .d (dN a)),(30, .d (vI ((dg a).length:Nat))),(31, .d (vI (i:Nat)))]) (fun⟨W,i⟩=>[(28,some (.b 261 1 (W.map dU) true))]) (fun⟨W,i⟩=>W.length=(dg a).length+1/\aO W/\i<=(dg a).length/\dv (W.take (i+1))=dv ((dg a).take i)*2^k/\W.getD i 0<2^k) (fun⟨W,i⟩=>(dg a).length-i) ⟨List.replicate ((dg a).length+1) 0,0⟩ J ⟨by simp, .replicate _,by omega,by rw[nN,r8];simp[dv],by rw[yL];exact fY (by decide)⟩ (fun _=>J) (fun⟨W,i⟩ hk=>?_)
 try dsimp only at hk⊢
 obtain⟨h1,h2,h3,h4,h5⟩:=hk;have hlw:=bv W;have hda:=cP a i;have hpp:2^k<=2^31:=bY (by decide) (by omega);refine br J J J (fun hc32=>?_) (fun hc32=>?_)
 .
  refine ix (fu:=⟨11⟩) (hv:=by simp only[aj];exact⟨by omega,(by omega)⟩) _ J (dm) J<|?_;have hhi:=DY hda hk;have hfit0:=EP hda hk;have hor:=Kh (x:=(dg a).getD i 0) h5 hk;have hfit:W.getD i 0+(dg a).getD i 0*2^k%4294967296<4294967296:=by rw[<-hor];exact BitVec.isLt _
  have hlp:=B8 ((dg a).getD i 0) k;refine ah 39 (.d (.v (.int .u64 ((dg a).getD i 0*2^k:Nat)))) J (by show FX.d (.v (.int _ _))= .d (.v (.int _ _));rw[lz _ k (by omega) hfit0]) ?_;obtain⟨t,ht⟩: ∃t,t=(dg a).getD i 0*2^k:=⟨_,rfl⟩;simp only[<-ht] at hhi hfit0 hor hfit hlp;rw[<-ht];refine gx (fu:=⟨9⟩) J<|ah 43 (.d (vI (i:Nat))) J (by show FX.d (.v (.int _ _))= .d (.v (.int _ _));congr 3)<|gx J<|lb (fu:=⟨2⟩) _ J (dm) J<|ah 47 (.d (dU (t%4294967296))) J (by show FX.d (.v (.int _ _))= .d (.v (.int _ _));congr 3)<|gx (fu:=⟨1⟩) J<|ah 48 _ J (congrArg (fun z:Nat=>FX.d (.v (.int .u32 (z:Int)))) hor)<|gx J<|sb (fu:=⟨7⟩) _ ((W.set i (W.getD i 0+t%4294967296)).map dU) J (dm) J (by simp only[fU,lT]<;>rfl) J<|ah 53 (.d (vI (i:Nat))) J (by show FX.d (.v (.int _ _))= .d (.v (.int _ _));congr 3)<|gx (fu:=⟨1⟩) J<|ah 54 (.d (vI (i+1:Nat))) J (by show FX.d (.v (.int _ _))= .d (.v (.int _ _));congr 3)<|gx (fu:=⟨2⟩) (hv:=by simp only[aj];exact(by decide)) J<|ah 56 (.d (.v (.int .u64 (t/4294967296:Nat)))) J (by rw[kn])<|gx (fu:=⟨1⟩) J<|ah 57 (.d (dU (t/4294967296))) J (by show FX.d (.v (.int _ _))= .d (.v (.int _ _));congr 3;omega)<|gx J<|sb _ (((W.set i (W.getD i 0+t%4294967296)).set (i+1) (t/4294967296)).map dU) J (dm (by rw[aY];omega)) J (by simp only[fU,lT]<;>rfl) J<|at_ ⟨(W.set i (W.getD i 0+t%4294967296)).set (i+1) (t/4294967296),i+1⟩ (by dsimp only;exact⟨⟨by simpa using h1,(h2.set _ hfit).set _ (by omega),by omega,by have q:=Ps (x:=(dg a).getD i 0) hk (by omega) J h4;rw[<-ht] at q;exact q,by rw[vf (by simp;omega)];exact hhi⟩,(by omega)⟩)
 .
  obtain rfl:i=(dg a).length:=by omega
  refine cq _ J (R2 (ds:=W) (by omega)) J J<|?_;exact Pu J J J (by rw[<-yY h2];have:=h4;rw[ge,ge,cd] at this;rw[this])
def WF{ds:List Nat}{k:Nat}(hd:aO ds)(hl:ds.length<=200000000)(hk:k<32):PF GB prog 260 [bg ds, .v (.int .u64 (k:Nat))] (dN (dv ds/2^k)):=by
 obtain⟨a,ha⟩: ∃a,a=dv ds:=⟨_,rfl⟩;rw[<-ha];have hla:=bv (dg a);have hba:(dg a).length<=200000000:=by rw[ha,yY hd];have:=Qq ds;omega
 refine fn func260 J J ntmps260 J J (fun C=>?_);refine cl (fu:=⟨0⟩) J (ol (ds:=ds)) J<|ah 11 (.d (dN a)) J (by rw[gA hd ha.symm])<|gx (fu:=⟨8⟩) J<|ah 13 (.d (.v (.int .u64 (0:Nat)))) J (by show FX.d (.v (.int _ _))= .d (.v (.int _ _));congr 3;omega)<|gx (fu:=⟨2⟩) J<|ah 15 (.d (vI ((dg a).length:Nat))) J (by rw[hla]<;>rfl)<|gx J<|br (fu2:=⟨7⟩) J J J (fun hc17=>?_) (fun hc17=>?_)
 .
  exact rz J (by rw[tB (a:=a),Nat.zero_div,qz];rfl)
 .
  refine ah 20 (.d (vI (0:Nat))) J (by show FX.d (.v (.int _ _))= .d (.v (.int _ _));congr 3;omega)<|gx (fu:=⟨2⟩) J<|ah 22 (.d (.v (.int .u64 (k:Nat)))) J (by show FX.d (.v (.int _ _))= .d (.v (.int _ _));congr 3;omega)<|gx (fu:=⟨8⟩) J<|ah 24 (.d (vI ((dg a).length:Nat))) J (by rw[hla]<;>rfl)<|gx (fu:=⟨2⟩) J<|ah 26 (.d (vI ((dg a).length:Nat))) J (by show FX.d (.v (.int _ _))= .d (.v (.int _ _));congr 3)<|gx J<|mk (fu:=⟨8⟩) ((List.replicate (dg a).length 0).map dU) J J (by rw[<-jd];rfl) J<|ah 29 (.d (vI ((dg a).length:Nat))) J (by rw[bv,aV]<;>rfl)<|gx J<|lp (X:=List Nat×Nat) (fun⟨W,i⟩=>[(0, .d (dN a)),(5, .d (vI (0:Nat))),(6, .d (.v (.int .u64 (k:Nat)))),(7, .rw 27),(29, .d (vI ((dg a).length:Nat))),(30, .d (vI (i:Nat)))]) (fun⟨W,i⟩=>[(27,some (.b 261 1 (W.map dU) true))]) (fun⟨W,i⟩=>W.length=(dg a).length/\aO W/\i<=(dg a).length/\dv (W.take i)=(a/2^k)%4294967296^i) (fun⟨W,i⟩=>(dg a).length-i) ⟨List.replicate (dg a).length 0,0⟩ J ⟨by simp, .replicate _,by omega,by simp[dv,Nat.mod_one]⟩ (fun _=>J) (fun⟨W,i⟩ hk=>?_)
  try dsimp only at hk⊢
  obtain⟨h1,h2,h3,h4⟩:=hk;have hlw:=bv W;have hda:=cP a i;have hdb:=cP a (i+1);refine br (fu1:=⟨16⟩) J J J (fun hc31=>?_) (fun hc31=>?_)
  .
   refine ah 36 (.d (vI (i:Nat))) J (by show FX.d (.v (.int _ _))= .d (.v (.int _ _));congr 3)<|gx J<|ix (fu:=⟨6⟩) _ J (dm) J<|mg (fu:=⟨6⟩) (hv:=fun _ _=>by simp only[aj];exact(by omega)) (X:=Unit) (fun _=>[(0, .d (dN a)),(5, .d (vI (0:Nat))),(6, .d (.v (.int .u64 (k:Nat)))),(7, .rw 27),(29, .d (vI ((dg a).length:Nat))),(30, .d (vI (i:Nat))),(8, .d (vI (i:Nat))),(9, .d (.v (.int .u64 ((dg a).getD i 0+(dg a).getD (i+1) 0*4294967296:Nat))))]) (fun _=>[(27,some (.b 261 1 (W.map dU) true))]) (fun _=>True) [0,5,6,7,29,30,8,9] [27] rfl ?_ (fun _=>J) (fun _ _=>?_)
   .
    refine gx (fu:=⟨5⟩) J<|ah 42 (.d (vI (i:Nat))) J (by show FX.d (.v (.int _ _))= .d (.v (.int _ _));congr 3)<|gx (fu:=⟨1⟩) J<|ah 43 (.d (vI (i+1:Nat))) J (by show FX.d (.v (.int _ _))= .d (.v (.int _ _));congr 3)<|gx (fu:=⟨2⟩) J<|ah 45 (.d (vI ((dg a).length:Nat))) J (by rw[hla]<;>rfl)<|gx J<|br (fu1:=⟨6⟩) J J J (fun hc46=>?_) (fun hc46=>?_)
    .
     refine ah 51 (.d (vI (i:Nat))) J (by show FX.d (.v (.int _ _))= .d (.v (.int _ _));congr 3)<|gx (fu:=⟨1⟩) J<|ah 52 (.d (vI (i+1:Nat))) J (by show FX.d (.v (.int _ _))= .d (.v (.int _ _));congr 3)<|gx J<|ix (fu:=⟨3⟩) (hv:=by simp only[aj];exact⟨by omega,(by decide)⟩) _ J (b9 (k:=i+1)) J<|ah 56 (.d (.v (.int .u64 ((dg a).getD (i+1) 0*4294967296:Nat)))) J (by show FX.d (.v (.int _ _))= .d (.v (.int _ _));rw[lz _ 32 (by decide) (by show _*4294967296<_;omega) J])<|gx (fu:=⟨1⟩) J<|ah 57 _ J (congrArg (fun z:Nat=>FX.d (.v (.int .u64 (z:Int)))) (lC 64 ((dg a).getD i 0) ((dg a).getD (i+1) 0) 32 hda (by show _+_*4294967296<18446744073709551616;omega)))<|gx J<|at_ () trivial
    .
     refine ah 9 (.d (.v (.int .u64 ((dg a).getD i 0+(dg a).getD (i+1) 0*4294967296:Nat)))) J (by rw[lg (by omega:(dg a).length<=i+1),iV,eK])<|at_ () trivial
   .
    refine ah 62 (.d (.v (.int .u64 (((dg a).getD i 0+(dg a).getD (i+1) 0*4294967296)/2^k:Nat)))) J (by show FX.d (.v (.int _ _))= .d (.v (.int _ _));rw[KF _ k])<|gx (fu:=⟨1⟩) J<|?_;obtain⟨w,hw⟩: ∃w,w=((dg a).getD i 0+(dg a).getD (i+1) 0*4294967296)/2^k%4294967296:=⟨_,rfl⟩;have hw1:w<4294967296:=hw▸cJ _ (by decide);refine ah 63 (.d (dU w)) J (by show FX.d (.v (.int _ _))= .d (.v (.int _ _));congr 3;rw[hw];rfl)<|gx J<|sb _ ((W.set i w).map dU) J (dm) J (by rw[<-fm];rfl) J<|at_ ⟨W.set i w,i+1⟩ (by dsimp only;exact⟨⟨by simpa using h1,h2.set _ (by omega),by omega,by rw[qb,h4];exact(LF hk (by have:=wF (dH a) i;rwa [cd] at this) hw).symm⟩,(by omega)⟩)
  .
   refine fz 27 J J<|cl rfl (ol (ds:=W)) rfl<|rz rfl (gA h2 (by obtain rfl:i=(dg a).length:=(by omega);exact Px rfl h1 h4))
def OH(c:Nat)(h:c<18446744073709551616):(BitVec.ofInt 64 (c:Int) &&& BitVec.ofInt 64 4294967295).toNat=c%4294967296:=by
 rw[BitVec.toNat_and,BitVec.ofInt_natCast,BitVec.toNat_ofNat,gQ (by omega),show(BitVec.ofInt 64 4294967295).toNat=2^32-1 from J,Nat.and_two_pow_sub_one_eq_mod]
structure OZ (a b n s l:Nat):Prop where
 hn:(dg b).length=n+2
 hs:s=32-bl ((dg b).getD (n+1) 0)
 hb:bl ((dg b).getD (n+1) 0)<=32
 s32:s<32
 vl:(dg (b*2^s)).length=n+2
 v2:b*2^s<4294967296^(n+2)
 al:(dg a).length=n+1+l
 u0:(dg a).length<=(dg (a*2^s)).length
 u1:a*2^s<4294967296^((dg a).length+1)
 u3:a*2^s<b*2^s*4294967296^l
 bp:0<b
def Qw{a b:Nat}(hb2:2<=(dg b).length)(hle:b<=a): ∃n s l,OZ a b n s l:=by
 have hoa:=dH a;have hob:=dH b;have hna:=(dE a).2.2;have hnb:=(dE b).2.2;have ea:=cd a;have eb:=cd b;obtain⟨n,hn⟩: ∃n,(dg b).length=n+2:=⟨(dg b).length-2,by omega⟩;have hbp:0<b:=dM fun h=>by subst h;rw[n8] at hb2;simp at hb2
 have hnm:(dg b).length<=(dg a).length:=by
  rcases dR (dg a).length (dg b).length with h|h
  .have:=tk hoa hnb h
   omega
  .exact h
 have htp:=KD hnb (n+1) hn;have htl:=hob.get (n+1);have hbv:=TM hob (n+1) hn;have hbt:=vW hob (n+1);obtain⟨s,hs⟩: ∃s,s=32-bl ((dg b).getD (n+1) 0):=⟨_,rfl⟩;obtain⟨hs32,hs1,hs2⟩:=NA htp htl hs;have hpn:0<4294967296^(n+1):=fY (by decide);have hps:0<2^s:=fY (by decide);rw[eb] at hbv;have hV1:2147483648*4294967296^(n+1)<=b*2^s:=by
  refine fJ (bK _ hs1) ?_;rw[bU,bW (2^s),<-bU];exact bK _ (by omega)
 have hV2:b*2^s<4294967296^(n+2):=by
  refine bS (kW (k:=2^s) (m:=((dg b).getD (n+1) 0+1)*4294967296^(n+1)) (by rw[cS,mV];omega) hps) ?_;rw[bU,bW (4294967296^(n+1)),<-bU,rF (n+1),bW _ 4294967296];exact bK _ hs2
 have hVl:(dg (b*2^s)).length=n+2:=Ub (by show 4294967296^(n+1)<=_;omega) hV2 (by omega);have hal:=i8 hoa;rw[ea] at hal;have hU2:a*2^s<4294967296^((dg a).length+1):=by
  rw[rF];exact pR hal (bS (Nat.pow_lt_pow_right (by decide) hs32) (by decide))
 have hUl0:(dg a).length<=(dg (a*2^s)).length:=by
  have hane:dg a≠[]:=fun h=>by
   have:=congrArg List.length h;simp only[kJ] at this;omega
  have h1:=qt hna hane;have h2:=i8 (dE (a*2^s)).2.1;rw[(dE _).1] at h2;rw[ea] at h1;have h3:a<=a*2^s:=oR _ hps;have h4:=(lL (a:=4294967296) (by decide)).1 (fV (fJ h1 h3) h2);omega
 have hU3:a*2^s<b*2^s*4294967296^((dg a).length-n-1):=by
  have h1:4294967296^(n+1)*4294967296^((dg a).length-n-1)=4294967296^(dg a).length:=by rw[<-fW,show n+1+((dg a).length-n-1)=(dg a).length by omega]
  refine bS (kW hal hps) (fJ (eX _ (bY (by decide) (show s<=31 by omega))) ?_);rw[<-h1,bW,<-bU];exact bK _ hV1
 exact⟨n,s,(dg a).length-n-1,hn,hs,iE.2 htl,hs32,hVl,hV2,by omega,hUl0,hU2,hU3,hbp⟩
section
variable {GB:Gh} {C:az} {n:Nat} {Q0:Exit->Act->World->Prop} {fr fr':ao} {own own':aA} {cf cf':Cf} {vc:List Prop}
def Ht(fr:ao)(cf:Cf):Option (Int×Int):=match bE fr cf with
 |some ⟨_, .binOp .add _ x y _,_,_,_,_⟩=>match aB (aP fr cf) x,aB (aP fr cf) y with
  |some (.d (.v (.int .u32 p))),some (.d (.v (.int .u32 q)))=>some (p,q)
  |_,_=>none
 |_=>none
def aw[fu:Fu]{p q:Int}(u:Int)(h:Ht fr cf=some (p,q))(e:IntKind.u32.wrap (p+q)=u)(hgo:bP tt n fu.n fr own cf (.d (.v (.int .u32 u))) [] []=⟨vc,fr',own',cf'⟩)(k:ak prog GB C n Q0 fr' own' cf')
  (hv:autoParam (aj vc) Tb._auto_1):ak prog GB C n Q0 fr own cf:=by
 unfold Ht at h;split at h<;>try (cases h;done)
 rename_i hh;split at h<;>cases h;rename_i h1 h2;subst e;exact us hh (.yd fun ρ G ov a w r=>by
  obtain⟨y1,h3,h4⟩:=r.ev h1;obtain⟨y2,h5,h6⟩:=r.ev h2;rw[ce] at h4 h6;subst h4 h6;exact⟨_,ce.2 J,gF h3 h5 fun w=>J⟩) hgo hv k
end
def Oi{U m:Nat}(h:U<4294967296^m):dv ((dg U++[0,0]).take m)=U:=by
 have h1:dv (dg U++[0,0])=U:=by rw[show([0,0]:List Nat)=List.replicate 2 0 from J,Um,cd]
 have h2:=rG (dg U++[0,0]) m;rw[uO (by rw[h1];exact h),h1] at h2;omega
def Sj{a k ia:Nat}{vs:List Nat}[h:BN a ia](hv:vs=dg (a*2^k))(hk:k<32)(h0:0<(dg a).length)(hi:ia<=1000000000):PR GB prog 259 [dN a, .v (.int .u64 (k:Nat))] 1 261 (vs.map dU):=by
 subst hv;exact I7 hk h0 hi
def Sw{us vs:List Nat}{n i T S:Nat}(huo:aO us)(hvo:aO vs)(hvB:dv vs<4294967296^(n+2))(hv0:0<dv vs)(hvh:dv vs=(T*4294967296+S)*4294967296^n+dv (vs.take n))(hlt:dv us<dv vs*4294967296^(i+1)):
  ∃f p V w:Nat,f=us.getD (i+n+2) 0*4294967296+us.getD (i+n+1) 0/\V=dv vs*4294967296^i/\0<V/\dv us<V*4294967296/\(f*4294967296+us.getD (i+n) 0)*p<=dv us/\dv us<(f*4294967296+us.getD (i+n) 0+1)*p/\V=(T*4294967296+S)*p+w/\w<p/\dv us<4294967296^(i+n+3):=by
 have hpi:0<4294967296^i:=fY (by decide);obtain⟨p,hp⟩: ∃p,p=4294967296^(i+n):=⟨_,rfl⟩;have hM:dv us<4294967296^(i+n+3):=by
  refine bS hlt ?_;rw[show i+n+3=(n+2)+(i+1) by omega,fW 4294967296 (n+2) (i+1)];exact bK _ (mW hvB)
 have huh:=S5 huo (i+n) hM;have hu0:=vW huo (i+n);rw[<-hp] at huh hu0;refine⟨_,p,_,dv (vs.take n)*4294967296^i,J,J,fX hv0 hpi,by rw[bU,<-rF];exact hlt,by omega,by rw[cS _ 1,mV];omega,?_,?_,hM⟩
 .rw[hvh,cS,hp,fW,bW (4294967296^i),bU]
 .rw[hp,fW,bW]
  exact Nat.mul_lt_mul_of_pos_left (vW hvo n) hpi
def QI{ws vs:List Nat}{u g i k bo c c1 xx:Nat}(hl:i+k<ws.length)(hw:dv ws+g*(dv (vs.take k)*4294967296^i)=u+(bo+c)*4294967296^(i+k))(hc1:c1=c+g*vs.getD k 0)(hx1:xx%4294967296+(c1%4294967296+bo)=ws.getD (i+k) 0+xx/9223372036854775808*4294967296):
  dv (ws.set (i+k) (xx%4294967296))+g*(dv (vs.take (k+1))*4294967296^i)=u+(xx/9223372036854775808+c1/4294967296)*4294967296^(i+(k+1)):=by
 rw[jv,cS (dv (vs.take k)),<-jT i k 1,rF,show 4294967296^k*vs.getD k 0*4294967296^i=vs.getD k 0*4294967296^(i+k) by rw[fW,bW (4294967296^k),bU,bW (4294967296^k)],cY,<-bU g (vs.getD k 0)];exact Qc (rP ws (i+k) _ hl) hw hc1 hx1
def L8{wa vs:List Nat}{u i k ca:Nat}(hl:i+k<wa.length)(ha:dv wa+ca*4294967296^(i+k)=u+dv (vs.take k)*4294967296^i):
  dv (wa.set (i+k) ((ca+(wa.getD (i+k) 0+vs.getD k 0))%4294967296))+(ca+(wa.getD (i+k) 0+vs.getD k 0))/4294967296*4294967296^(i+(k+1))=u+dv (vs.take (k+1))*4294967296^i:=by
 rw[jv,cS (dv (vs.take k)),<-jT i k 1,rF,show 4294967296^k*vs.getD k 0*4294967296^i=vs.getD k 0*4294967296^(i+k) by rw[fW,bW (4294967296^k),bU,bW (4294967296^k)]];exact N6 (rP wa (i+k) _ hl) ha
def Wg{a b s n:Nat}{us vs qs:List Nat}(hp:0<2^s)(hvv:dv vs=b*2^s)(hv0:0<dv vs)(hvB:dv vs<4294967296^(n+2))(hinv:a*2^s=dv us+dv vs*dv qs)(hlt:dv us<dv vs*4294967296^0):dv qs=a/b/\dv (us.take (n+2))/2^s=a%b:=by
 rw[rJ,kR] at hlt;have hut:dv (us.take (n+2))=dv us:=by
  have h0:=rG us (n+2);rw[uO (by omega)] at h0;omega
 refine⟨?_,?_⟩
 .rw[<-Nat.mul_div_mul_right _ _ hp,hinv,<-hvv,nU _ _ hv0,iM hlt,dW]
 .have:dv us=a%b*2^s:=by rw[<-Nat.mul_mod_mul_right,hinv,<-hvv,nM,gQ hlt]
  rw[hut,this,Nat.mul_div_cancel _ hp]
def S0{qs:List Nat}{i l d:Nat}(hl:i<qs.length)(h:qs.getD i 0=0):dv (qs.set i d)=dv qs+4294967296^i*d:=by
 have:=rP qs i d hl;rw[h] at this;simpa using this
def EK{a s i R d V u v:Nat}{qs:List Nat}(hl:i<qs.length)(h0:qs.getD i 0=0)(hinv:a*2^s=u+v*dv qs)(hV:V=v*4294967296^i)(h:R+d*V=u):a*2^s=R+v*dv (qs.set i d):=by
 rw[hinv,<-h,S0 (l:=0) hl h0,cY,<-bU,<-hV,bW d];omega
def KB{qs:List Nat}{i d:Nat}(hq: ∀j,j<i+1->qs.getD j 0=0): ∀j,j<i->(qs.set i d).getD j 0=0:=fun j h=>by
 rw[getD_set_ne];exact hq j (by omega)
end Go.Sx
end
