import Derived.Test.YtefoocgiaegobaaGreatDoorPc16
import Derived.Test.YtefoocgiaegobaaGreatDoorCards
import Derived.Test.YtefoocgiaegobaaGreatDoorTie
import Derived.WalkKit
import Derived.ProofKit
import Derived.OpenShut
import Derived.Deep.DeepHandedRow
import Derived.Deep.DeepWitnessRowRef
import Derived.LaidMore
import Derived.Lib.LaidTab
import Derived.SizedLaws
import Derived.Stop.LaidErr
import Derived.MakeChecks
set_option linter.all false
set_option maxHeartbeats 4000000
set_option maxRecDepth 100000
section
namespace Go.Sx
open Go Go.Proofs Tryz
variable {GB:Gh}
def zW{l:ab}[hl:LB l]:PF GB prog 132 [cF l] (.tp [cF l.canon,vB (jp l)]):=by
 have e:fD [Int.sign (l.a:Rat).num,Int.sign (l.b:Rat).num]<0↔(l.a<0\/(l.a=0/\l.b<0)):=by show fD [Int.sign l.a,Int.sign l.b]<0↔_;have h1:=mD l.a;have h2:=mD l.b;have h3:=kd l.a;unfold fD fD fD;split<;>omega
 refine fn func132 J J ntmps132 J J (fun C=>?_);refine cl J (jj (q:=(l.a:Rat))) J<|cl J (jj (q:=(l.b:Rat))) J<|rf J J<|cl J (Jh (es:=[Int.sign (l.a:Rat).num,Int.sign (l.b:Rat).num]) (nb J)) J<|?_;refine br J J J (fun hc14=>?_) (fun hc14=>?_)
 .
  refine cl J (UQ (l:=l)) J<|?_;exact rz J (by have h:=e.1 hc14;show DV.tp _=DV.tp _;unfold ab.canon jp;simp only[h,decide_true,if_true];rfl)
 .
  exact rz J (by have h:=mt e.2 hc14;show DV.tp _=DV.tp _;unfold ab.canon jp;simp only[h,decide_false,lX,if_false];rfl)
def zI(a b:Int):bt (a:Rat) (b:Rat)=(a-b).sign:=by
 unfold bt;have e1:((a:Rat)<(b:Rat))↔a<b:=kM;have e2:((b:Rat)<(a:Rat))↔b<a:=kM;rcases lL a b with h|h|h
 ·rw[if_pos (e1.2 h),cM (by omega)]
 ·subst h;rw[if_neg (fun h=>by have:=e1.1 h;omega),if_neg (fun h=>by have:=e1.1 h;omega),Int.sub_self];rfl
 ·rw[if_neg (fun h=>by have:=e1.1 h;omega),if_pos (e2.2 h),eK (by omega)]
def zY(l m:ab):uc l m=bv l m:=by
 unfold uc bv fD fD fD fD;rw[zI,zI,zI]
 repeat' split
 all_goals omega
def zZ{l m:ab}(hl:LB l)(hm:LB m):PF GB prog 134 [cF l,cF m] (.v (.int .i64 (bv l m))):=by
 haveI:=hl;haveI:=hm;have:=Ih (GB:=GB) (l:=l) (m:=m);rwa [zY] at this
def zV{ds:List ab}(hb: ∀d∈ds,LB d)(hn:ds.length<=10000000):PW GB prog 133 [none,some (.v (.func (.func 134) #[] #[]))] 9 218 (ds.map cF) (.tp []) ((fk bv ds).map cF):=
 IU (GB:=GB) Tryz.SortLn ⟨_,func133,J,J⟩ isAgg218 sizeOf218 cF (fun d=>LB d) (fun x=>⟨_,J,J,J⟩) bv HF ⟨_,func134,J,J⟩ (fun x y hx hy=>zZ hx hy) hb (by omega)
  (fun x hx y hy h k=>by
   have:bv x y=0:=by rw[Cv];rw[oo] at h k;omega
   exact(CI x y).1 this)
def zO{l:List ab}{k:Nat}{y:ab}(h:l[k]? =some y):l.take (k+1)=l.take k++[y]:=by
 rw[cJ,h];rfl
def zX(l:List ab)(k:Nat)(y:ab):(l.map cF).set k (cF y)=(l.set k y).map cF:=(nR ..).symm
def zN{r l:List ab}{a b:Nat}(h:a<=b)(e:r.drop a=l.drop a):r[b]? =l[b]? :=by
 have:=congrArg (·[b-a]?) e;simpa[iM,show a+(b-a)=b by omega] using this
def zQ{r l:List ab}{a b:Nat}(h:a<=b)(e:r.drop a=l.drop a):r.drop b=l.drop b:=by
 have:=congrArg (List.drop (b-a)) e;simpa[pJ,show a+(b-a)=b by omega] using this
def zH{r:List ab}{i:Nat}{u:ab}(h:i<r.length):(r.set i u).take (i+1)=r.take i++[u]:=by
 rw[cJ,nZ h,qW (aS _)];rfl
def zT{r:List ab}{i:Nat}(h:i<r.length):(r.map cF)[(i:Int).toNat]? =some (cF r[i]):=by simp[h]
def zP{l:List ab}(hb: ∀d∈l,LB d)(hn:l.length<=10000000):PB GB prog 135 (iv [none,some (.v (.func (.func 136) #[] #[]))]) 9 218 (l.map cF) (fun w=> .v (.slice w.a w.n w.c)) ((mh l).map cF):=by
 have hml:(l.map cF).length=l.length:=aX ..;refine ww (fu:=⟨10⟩) func135 J J ntmps135 J J (fun C=>?_);refine aj 9 (.d (vI (l.length:Nat))) J (by rw[hml]<;>rfl) ?_;refine gx J<|?_;refine br J J J (fun hc10=>?_) (fun hc10=>?_)
 .
  exact pP J J J (by rw[OM (by omega)])
 .
  obtain⟨x0,hx0⟩: ∃x,l[0]? =some x:=⟨_,aQ (by omega)⟩;refine lp (fu:=⟨6⟩) (X:=Nat×ab) (fun⟨k,x⟩=>[(5, .d (vI (k:Nat)))]) (fun⟨k,x⟩=>[]) (fun⟨k,x⟩=>1<=k/\k<=l.length/\l[k-1]? =some x/\mh l=l.take k++ik x (l.drop k)) (fun⟨k,x⟩=>l.length-k) ⟨1,x0⟩ J ⟨aS _,by omega,hx0,by rw[N0 hx0]⟩ (fun _=>J) (fun⟨k,x⟩ hk=>?_)
  try dsimp only at hk⊢
  obtain⟨h1,h2,h3,h4⟩:=hk;refine aj 14 (.d (vI (l.length:Nat))) J (by rw[hml]<;>rfl) ?_;refine gx J<|?_;refine br J J J (fun hc15=>?_) (fun hc15=>?_)
  .
   obtain⟨y,hy⟩: ∃y,l[k]? =some y:=⟨_,aQ (by omega)⟩;haveI:=hb y (aU hy);haveI:=hb x (aU h3);refine lb (fu:=⟨3⟩) _ J (cO hy) J<|?_;refine aj 25 (.d (vI ((k-1:Nat):Int))) J (by rw[Int.ofNat_sub h1]<;>rfl) ?_;refine gx J<|lb (fu:=⟨0⟩) _ J (cO h3) J<|cl J (GV (l:=y) (m:=x)) J<|?_;refine bd (fu1:=⟨4⟩) J J J (fun hc28=>?_) (fun hc28=>?_)
   .
    have hc28':=hc28;refine yp k (l.length-k) J J (by omega) (by omega) J<|?_;refine lp (fu:=⟨5⟩) (X:=Nat×Nat×ab×List ab) (fun⟨i,m,z,r⟩=>[(5, .d (vI (i:Nat))),(7, .d (vI (m:Nat)))]) (fun⟨i,m,z,r⟩=>[(1000000,some (.b 218 9 (r.map cF) false))]) (fun⟨i,m,z,r⟩=>1<=m/\k+m<=l.length/\i+1<=k+m/\r.length=l.length/\r.drop (k+m-1)=l.drop (k+m-1)/\l[k+m-1]? =some z/\mh l=r.take i++ik z (l.drop (k+m))) (fun⟨i,m,z,r⟩=>l.length-m) ⟨k,1,y,l⟩ J ⟨aS _,by omega,by omega,J,J,by rw[iN];exact hy,by rw[h4,xY hy,if_pos hc28']⟩ (fun _=>J) (fun⟨i,m,z,r⟩ hk=>?_)
    try dsimp only at hk⊢
    obtain⟨g1,g2,g3,g4,g5,g6,g7⟩:=hk;have hrl:(r.map cF).length=r.length:=aX ..;refine HZ J J<|?_;refine br (fu1:=⟨9⟩) (fu2:=⟨9⟩) J J J (fun hc35=>?_) (fun hc35=>?_)
    .
     obtain⟨u,hu⟩: ∃u,l[k+m]? =some u:=⟨_,aQ (by omega)⟩;haveI:=hb u (aU hu);haveI:=hb z (aU g6);have g8:r[k+m]? =some u:=by rw[<-hu];exact zN (by omega) g5
     have g10:r[k+m-1]? =some z:=by rw[<-g6];exact zN (aS _) g5
     have g9:r.drop (k+m)=l.drop (k+m):=zQ (by omega) g5;refine s5 (k+m) J (by omega) (by omega) (by omega) J<|lb (fu:=⟨3⟩) _ J (cO g8) J<|s5 (k+m-1) J (by omega) (by omega) (by omega) J<|?_;refine lb (fu:=⟨0⟩) _ J (cO g10) J<|cl J (GV (l:=u) (m:=z)) J<|?_;refine bb (fu1:=⟨6⟩) J J J (fun hc49=>?_) (fun hc49=>?_)
     .
      have hc49': ¬u=z:=by simpa using hc49
      refine s5 (k+m) J (by omega) (by omega) (by omega) J<|lb _ J (cO g8) J<|sb _ ((r.set i u).map cF) J (zT (by omega)) J (by rw[<-zX]<;>rfl) J<|?_;exact at_ ⟨i+1,m+1,u,r.set i u⟩ (by dsimp only;exact⟨⟨by omega,by omega,by omega,by rw[aW];exact g4,by rw[show k+(m+1)-1=k+m by omega,mJ (by omega)];exact g9,by rw[show k+(m+1)-1=k+m by omega];exact hu,by rw[g7,xY hu,if_neg hc49',zH (by omega),fX];rfl⟩,(by omega)⟩)
     .
      have hc49':u=z:=by simpa using hc49
      exact at_ ⟨i,m+1,u,r⟩ (by dsimp only;exact⟨⟨by omega,by omega,by omega,g4,by rw[show k+(m+1)-1=k+m by omega];exact g9,by rw[show k+(m+1)-1=k+m by omega];exact hu,by rw[g7,xY hu,if_pos hc49'];rfl⟩,(by omega)⟩)
    .
     obtain hm:k+m=l.length:=by omega
     refine yp i (l.length-i) J J (by omega) (by omega) J<|HO (fu:=⟨6⟩) _ J (by rw[hrl];omega) (by omega) J J<|Dq ((r.take i).map cF) i J J (by rw[bK,bR,aV,hrl];omega) (by rw[fK (by rw[bR,hrl];omega),List.take_take,Nat.min_self,kK]) J<|?_;exact pP J J J (by rw[g7,hm,gR,ik,kY])
   .
    have hc28':=hc28;exact at_ ⟨k+1,y⟩ (by dsimp only;exact⟨⟨by omega,by omega,hy,by rw[h4,xY hy,if_neg hc28',zO hy,fX];rfl⟩,(by omega)⟩)
  .
   exact pP J J J (by rw[h4,show k=l.length by omega,gR,ik,kY,bN])
def zA(E:List aI):List ab:=E.map (·.l)
def zR{E:List aI}{k:Nat}{f:aI}(h:E[k]? =some f):((zA (E.take (k+1))).map ab.canon)=(zA (E.take k)).map ab.canon++[f.l.canon]:=by
 unfold zA;rw[cJ,h,cX,cX];rfl
theorem zJ{l:ab}(h:LB l):LB l.canon:=by unfold ab.canon;split;exact h.rev;exact h
theorem zG{E:List aI}(h: ∀f∈E,LB f.l)(k:Nat): ∀l∈(zA (E.take k)).map ab.canon,LB l:=fun l hl=>by
 obtain⟨m,hm,rfl⟩:=bY.1 hl;obtain⟨f,hf,rfl⟩:=bY.1 hm;exact zJ (h f (fJ hf))
def zS{ls:List ab}{k:Nat}{l:ab}(h:ls[k]? =some l):(ls.take k).map eL++[eL l]=(ls.take (k+1)).map eL:=by rw[cJ,h,cX];rfl
def zM{rs:List (List ZP)}(h: ∀r∈rs,gr r)(hn:rs.length<=200):PF GB prog 52 [.sl (rs.map ic)] (.tp [.sl ((jr (px rs)).map eL), .v .nilIface]):=by
 have hel:=uI h hn;obtain⟨E,hE⟩: ∃E,E=ck rs:=⟨_,rfl⟩;have hlb: ∀f∈E,LB f.l:=fun f hf=>by rw[hE] at hf;exact((pg fun r hr=>(h r hr).ok).2 f hf).lb
 have hEl:E.length<=1200:=by rw[hE];exact hel
 have hml:(E.map b6).length=E.length:=aX ..;obtain⟨ls,hls⟩: ∃ls,ls=mh (fk bv ((zA E).map ab.canon)):=⟨_,rfl⟩;have hsl:(fk bv ((zA E).map ab.canon)).length=E.length:=by rw[(ol bv _).length_eq];simp[zA]
 have hll:ls.length<=E.length:=by rw[hls,<-hsl];exact Ei _
 have hls2:ls=jr (px rs):=by rw[hls,FA,hE];rfl
 have hsb: ∀l∈fk bv ((zA E).map ab.canon),LB l:=fun l hl=>zG hlb E.length l (by rw[bN];exact(ol bv _).mem_iff.1 hl);have hlsb: ∀l∈ls,LB l:=fun l hl=>by rw[hls2] at hl;obtain⟨m,hm,rfl⟩:=B5 hl;obtain⟨f,hf,rfl⟩:=bY.1 hm;exact zJ (hlb f (by rw[hE];exact hf))
 have hmL:(ls.map cF).length=ls.length:=aX ..;refine fn func52 J J ntmps52 J J (fun C=>?_);refine cl (fu:=⟨0⟩) J (tG h hn) J<|?_;refine aj 16 (.d (.tp [.sl (E.map b6), .v .nilIface])) J (by rw[hE]) ?_;refine gx (fu:=⟨27⟩) J<|?_;refine aj 23 (.d (vI (E.length:Nat))) J (by rw[hml]<;>rfl) ?_;refine gx J<|?_;refine nr 6 6 218 9 J J J ?_;refine lp (X:=Nat) (fun k=>[(24, .d (vI (k:Nat))),(6, .rw 6)]) (fun k=>[(6,some (.b 218 9 (((zA (E.take k)).map ab.canon).map cF) true))]) (fun k=>k<=E.length) (fun k=>E.length-k) 0 J (bJ _) (fun _=>J) (fun k hk=>?_);have hm3:(zA (E.take k)).length<=k:=by unfold zA;rw[aX,bR];omega
 refine br J J J (fun hc25=>?_) (fun hc25=>?_)
 .
  obtain⟨f,hx⟩: ∃u,E[k]? =some u:=⟨_,aQ (by omega)⟩;haveI:=hlb f (aU hx);refine ix _ J (cO hx) J<|cl J (zW (l:=f.l)) J<|rf J J<|ap (((zA (E.take (k+1))).map ab.canon).map cF) J (by rw[zR hx,cX]<;>rfl) (Lf [f.l.canon]) J<|?_;refine fA 37 6 J ?_;exact at_ (k+1) ⟨(by omega),(by omega)⟩
 .
  obtain rfl:k=E.length:=by omega
  rw[bN];refine cw _ J (zV (ds:=(zA E).map ab.canon) (fun l hl=>zG hlb E.length l (by rw[bN];exact hl)) (by simp[zA];omega)) J J<|?_;refine cq (fu:=⟨1⟩) (ls.map cF) J (zP (l:=fk bv ((zA E).map ab.canon)) hsb (by omega)) (by rw[hls]) J<|?_;refine aj 43 (.d (vI (ls.length:Nat))) J (by rw[hmL]<;>rfl) ?_;refine gx J<|?_;refine nr 11 11 147 6 J J J ?_;refine lp (X:=Nat) (fun k=>[(44, .d (vI (k:Nat))),(11, .rw 11)]) (fun k=>[(11,some (.b 147 6 ((ls.take k).map eL) true))]) (fun k=>k<=ls.length) (fun k=>ls.length-k) 0 J (bJ _) (fun _=>J) (fun k hk=>?_);refine br J J J (fun hc45=>?_) (fun hc45=>?_)
  .
   obtain⟨l,hx⟩: ∃u,ls[k]? =some u:=⟨_,aQ (by omega)⟩;haveI:=hlsb l (aU hx);refine lb _ J (cO hx) J<|cl J (SP (l:=l)) J<|rf J J<|ap ((ls.take (k+1)).map eL) J (by rw[zS hx]<;>rfl) (kz [l]) J<|?_;refine fA 52 11 J ?_;exact at_ (k+1) ⟨(by omega),(by omega)⟩
  .
   obtain rfl:k=ls.length:=by omega
   rw[bN];refine jw 11 J ?_;exact rz J (by rw[hls2]<;>rfl)
def yD(rs:List (List ZP))(fill:Int)(L:List ab)(p:aa)(vs:List aa):Bool:=vs.any fun v=>xP rs fill (Bw L p v)
def yE(rs:List (List ZP))(fill:Int)(L:List ab)(p:aa)(vs:List aa):Bool:=vs.all fun v=>xP rs fill (Bw L p v)
section
variable {GB:Gh} {C:aA} {n:Nat} {Q0:Exit->Act->World->Prop} {fr fr' fr1 fr2:ao} {own own' own1 own2:aB} {cf cf' cf1 cf2:Cf} {vc vc1 vc2:List Prop}
def yC(fr:ao)(cf:Cf):Option Int:=match bw fr cf with
 |some ⟨_, .binOp .and _ x (.const (.int .i64 1)) _,_,_,_,_⟩=>match aC (ba fr cf) x with
  |some (.d (.v (.int .i64 p)))=>some p
  |_=>none
 |_=>none
end
structure EGX (GB:Gh) (ai:Addr):Prop where
 ErrInvalid:GB 0=some [.iface 499 (.pointer (some ai))]
def zU{b:Nat}{es:List Int}(hes:es.length<=400){rs:List (List ZP)}{a':Nat}(hr:rs=(lu es 3 0).1)(ha:a'=(lu es 3 0).2):PM GB prog 17 (gv [none,some (vI 3)] b) b 126 [.sl (es.map vI), .v (.int .i64 (0:Nat))] (.sl (rs.map gk)) [.sl (es.map vI), .v (.int .i64 (a':Nat))]:=by
 subst hr ha;exact NW hes (bJ _) (md:=3) (by decide)
def yB(rs:List (List ZP))(p:aa):Int:=rs.foldl (fun n r=>n+f9 r p) 0
def zL{ls:List ab}(hb: ∀l∈ls,LB l)(hn:ls.length<=1000000):PF GB prog 54 [.sl (ls.map eL), .sl (ls.map eL)] (.v (.bool true)):=by
 have hml:(ls.map eL).length=ls.length:=aX ..;refine fn (fu:=⟨10⟩) func54 J J ntmps54 J J (fun C=>?_);refine aj 7 (.d (vI (ls.length:Nat))) J (by rw[hml]<;>rfl) ?_;refine gx (fu:=⟨2⟩) J<|?_;refine aj 9 (.d (vI (ls.length:Nat))) J (by rw[hml]<;>rfl) ?_;refine gx J<|?_;refine br (fu2:=⟨7⟩) J J J (fun hc10=>?_) (fun hc10=>?_)
 .
  exact absurd J hc10
 .
  refine aj 12 (.d (vI (ls.length:Nat))) J (by rw[hml]<;>rfl) ?_;refine gx J<|?_;refine lp (X:=Nat) (fun k=>[(13, .d (vI (k:Nat)))]) (fun k=>[]) (fun k=>k<=ls.length) (fun k=>ls.length-k) 0 J (bJ _) (fun _=>J) (fun k hk=>?_);refine br J J J (fun hc14=>?_) (fun hc14=>?_)
  .
   obtain⟨l,hx⟩: ∃u,ls[k]? =some u:=⟨_,aQ (by omega)⟩;have hl:=hb l (aU hx);refine ix _ J (cO hx) J<|ix _ J (cO hx) J<|cl (fu:=⟨0⟩) J (T1 (l:=l) (m:=l) hl.bl hl.bl) J<|fq (hv:=by simp only[ah];exact⟨by kernel_rfl,by omega⟩) J (by show some (!decide _)=some false;rw[decide_eq_true J];rfl) J<|?_;exact at_ (k+1) ⟨(by omega),(by omega)⟩
  .
   exact rz J J
def zB{ar:Addr}(hE:Be GB ar){es0:List Int}(hb:es0.length<=1125899906842624):PF GB prog 8 [.sl (es0.map vI)] (.v (.bool true)):=by
 obtain⟨es,hee⟩: ∃es,es=es0.take 400:=⟨_,rfl⟩;have hes:es.length<=400:=by rw[hee];simp;omega
 obtain⟨rs,hre⟩: ∃rs,rs=(lu es 3 0).1:=⟨_,rfl⟩;obtain⟨a1,ha1⟩: ∃a,a=(lu es 3 0).2:=⟨_,rfl⟩;obtain⟨hrg,hrn,hal⟩:(∀r∈rs,gr r)/\rs.length<=3/\a1<=es.length:=by rw[hre,ha1];exact Uy (bJ _)
 have hr1: ∀r∈rs,dt r:=fun r hr=>(hrg r hr).ok;obtain⟨p,hpe⟩: ∃p,p=(nA es a1).1:=⟨_,rfl⟩;haveI:aw p 1200:=by rw[hpe];exact(R7 hal).1
 have hlb: ∀l∈jr (px rs),LB l:=fun l hl=>by obtain⟨m,hm,rfl⟩:=B5 hl;obtain⟨f,hf,rfl⟩:=bY.1 hm;exact zJ ((pg hr1).2 f hf).lb
 have hll:(jr (px rs)).length<=1000000:=by rw[<-FA];refine fQ (Ei _) ?_;rw[(ol bv _).length_eq,aX];have:=(pg hr1).1;unfold px;rw[aX];omega
 refine fn func8 J J ntmps8 J J (fun C=>?_);refine cn J ((L7 hb hee)) (fun _=>J) (fun _=>?_);refine cm J (fun b=>(zU hes hre ha1)) J<|cm J (fun b=>(TV hes hal hpe)) J<|cl J (R4 (rs:=rs) hr1 (by omega)) J<|cl J (yo (p:=p) (i:=1200)) J<|?_;rcases(show ma rs p=true\/ ¬ma rs p=true from Classical.em _) with hoc|hoc
 .
  have hon:ma rs p=true:=by assumption
  have hon2:(rs.any fun r=>lv r p)=true:=by rw[<-Fv hr1];exact hon
  refine cl (fu:=⟨0⟩) J (Ha hrg (by omega) (p:=p) (i:=1200) (by decide)) J<|?_;refine aj 25 (.d (.tp [vB true, .v .nilIface])) J (by rw[hon]) ?_;refine gx J<|cl J (yo (p:=p) (i:=1200)) J<|cl J (Vr hE (rs:=rs) hrg (by omega) (p:=p) (i:=1200) hon (by decide)) J<|cl J (zM hrg (by omega)) J<|?_;refine cl (fu:=⟨0⟩) J (GZ (rs:=rs) hr1 (by omega) (p:=p) (j:=1200) (by decide)) J<|?_;refine aj 50 (.d (vB true)) J (by rw[hon2]) ?_;refine gx (fu:=⟨0⟩) J<|fq J J J<|cl J (Ga (rs:=rs) (fill:=2) hr1 (by omega)) J<|cl (fu:=⟨0⟩) J (Fe (fun l hl=>(hlb l hl).bl) hll) J<|?_;refine vq (fu:=⟨11⟩) J (zL hlb hll) J<|?_;refine ke 62 J ?_;refine gx (fu:=⟨5⟩) J<|vq J HA J<|gl (fu:=⟨0⟩) J hE.ErrRange J<|vq (fu:=⟨3⟩) J UJ J<|iB J J J<|?_;exact rz J J
 .
  have hon:ma rs p=false:=by simpa using hoc
  have hon2:(rs.any fun r=>lv r p)=false:=by rw[<-Fv hr1];exact hon
  have hw:eo (ck rs) p=rs.foldl (fun n r=>n+f9 r p) 0:=Kq hr1 p;refine cl (fu:=⟨0⟩) J (Ha hrg (by omega) (p:=p) (i:=1200) (by decide)) J<|?_;refine aj 25 (.d (.tp [vB false, .v .nilIface])) J (by rw[hon]) ?_;refine gx J<|cl J (yo (p:=p) (i:=1200)) J<|cl (fu:=⟨0⟩) J (JV (rs:=rs) hrg (by omega) (p:=p) (i:=1200) hon (by decide)) J<|?_;refine aj 32 (.d (.tp [vI (rs.foldl (fun n r=>n+f9 r p) 0), .v .nilIface])) J (by rw[hw]) ?_;refine gx J<|cl J (zM hrg (by omega)) J<|cl (fu:=⟨0⟩) J (GZ (rs:=rs) hr1 (by omega) (p:=p) (j:=1200) (by decide)) J<|?_;refine aj 50 (.d (vB false)) J (by rw[hon2]) ?_;refine gx (fu:=⟨0⟩) J<|fq J J J<|cl J (Ga (rs:=rs) (fill:=2) hr1 (by omega)) J<|cl (fu:=⟨0⟩) J (Fe (fun l hl=>(hlb l hl).bl) hll) J<|?_;refine vq (fu:=⟨11⟩) J (zL hlb hll) J<|?_;refine qE 62 J ?_;refine gx (fu:=⟨7⟩) J<|vq J HA J<|cl (fu:=⟨0⟩) J (PA (rs:=rs) hr1 (by omega) (p:=p) (j:=1200) (by decide)) J<|iB J (by show some (decide (_=_))=some true;rw[decide_eq_true J]) J<|?_;exact rz J J
end Go.Sx
end
section
namespace Go.Sx
open Go Go.Proofs Go.ChangeShapes Go.WideShapes Go.ChangeAt Go.RowKit
def GW(w:World):Gh:=fun b=>match w.heap[b]? with|some (.cells cs _ _)=>some cs.toList|_=>none
def GW.sub{w:World}{b:Nat}{cs:List Value}(h:GW w b=some cs): ∃ty fz,w.heap[b]? =some (.cells ⟨cs⟩ ty fz):=by
 unfold GW at h;split at h
 ·rename_i c t f e
  cases h
  exact⟨t,f,by rw[e]⟩
 ·cases h
def GW.of_cell{w:World}{b off:Nat}{v:Value}(h:w.cell? ⟨b,off,none⟩=some v): ∃cs,GW w b=some cs/\cs[off]? =some v:=by
 unfold World.cell? at h;unfold GW;split at h
 ·rename_i c t f e
  simp only at e;refine⟨c.toList,by rw[e],?_⟩;simpa using h
 all_goals first|(rename_i e;cases h)|cases h
def bh.below{w w':World}{G G':Gh}{own:List av}(h:bh ⟨w,G,[],[],[],none,fun _=>none⟩ own G' w'):Below w.heap.size w w':=
 ⟨h.os,h.tape,h.output,h.size,fun k hk=>h.keep k hk (by simp)⟩
def isLs_vI{G:Gh}: ∀es:List Int,IsLs G (es.map vI) (es.map fun n=>Value.int .i64 n)
 |[]=> .nil
 |n::t=> .cons (bc.2 J) (isLs_vI t)
def open_vI{base:Nat}{H:Type}{enc:TypeId×Value->H}{P:Program}{w:World}{t e:TypeId}{v:Value}{d:DataW H}{ps:List MemPlace}(ht:P.underlying t=some (.slice e))(he:P.underlying e=some (.int .i64))(hc:P.cellsOf e=1)
  (hv:Value.okWide P w .any base t v)(h:DataW.Trod enc P w 0 (fun _=>true) true t v d ps):
  ∃es:List Int,Is (GW w) (.sl (es.map vI)) v/\(d= .nil/\es=[]\/ ∃sp,d= .slice (lits .i64 es) sp)/\(∀n∈es,(Lit.int .i64 n).wf=true):=by
 obtain⟨a0,len,cap,rfl⟩:=okWide_slice ht hv;obtain⟨fuel,hf⟩:=h;rcases open_ints ht he hc hf with⟨hcs,hx⟩|⟨a,len',cap',zs,hcs,_,hl,hm,hz,hx,hcell,hwz⟩
 ·simp[Value.cells] at hcs
  obtain⟨rfl,rfl,rfl⟩:=hcs;simp only[Prod.mk.injEq] at hx;exact⟨[],gP.2 ⟨0,⟨none,0,0⟩,[],J,d6.nil _ 0, .nil⟩, .inl ⟨hx.1,J⟩,by simp⟩
 ·simp[Value.cells] at hcs
  obtain⟨rfl,rfl,rfl⟩:=hcs;simp only[Prod.mk.injEq] at hx;simp only[if_true] at hz;refine⟨zs.take len,gP.2 ⟨1,⟨some a,len,cap⟩,(zs.take len).map fun n=>Value.int .i64 n,J,⟨by simp;omega,hl,?_⟩,isLs_vI _⟩, .inr ⟨_,hx.1⟩,fun n hn=>hwz n (fJ hn)⟩;by_cases h0:len=0
  ·exact .inl (by simp[h0])
  ·right
   obtain⟨b,off,spot⟩:=a;have hspot:spot=none:=by simpa[Addr.add] using World.cell?_spot (hcell 0 (by omega))
   subst hspot;have c0: ∀i,i<zs.length->w.cell? ⟨b,off+i,none⟩=some (.int .i64 (zs.getD i 0)):=fun i hi=>by
    have:=hcell i hi;rwa [Go.WideShapes.add_plain] at this
   obtain⟨cs,hcs,_⟩:=GW.of_cell (by have h9:=c0 0 (by omega);rw[cN] at h9;exact h9);refine⟨b,off,cs,J,hcs,fun i hi=>?_⟩;simp only[aX,bR] at hi;obtain⟨cs',hcs',hi'⟩:=GW.of_cell (c0 i (by omega));rw[hcs] at hcs'
   cases hcs'
   rw[jX,LN.2 hi'];simp[aF,List.getD,aQ (show i<zs.length by omega)]
inductive CSh where
 |b
 |i (k:IntKind)
 |sl (ag:Bool) (l:List CSh)
mutual
def Fit:CSh->DV->Prop
 | .b,d=> ∃b,d= .v (.bool b)
 | .i k,d=> ∃n,d= .v (.int k n)/\(Lit.int k n).wf=true
 | .sl ag l,d=> ∃m:List DV,d= .sl m/\m.length<=maxLen/\ ∀x∈m,∃ys,FitL l ys/\((ag=true/\x= .ag ys)\/(ag=false/\ys=[x]))
def FitL:List CSh->List DV->Prop
 |[],ds=>ds=[]
 |s::l,ds=> ∃d t,ds=d::t/\Fit s d/\FitL l t
end
def flatF(r:TypeId->Option (Bool×List CSh))(P:Program):List Field->Nat->Option (List CSh)
 |[],_=>some []
 |f::fs,o=>match r f.type with
  |some (_,l)=>if f.offset=o/\P.cellsOf f.type=l.length then(flatF r P fs (o+l.length)).map (l++ ·) else none
  |none=>none
def flatT(P:Program):Nat->TypeId->Option (Bool×List CSh)
 |0,_=>none
 |n+1,t=>match P.underlying t with
  |some .bool=>some (false,[.b])
  |some (.int k)=>some (false,[.i k])
  |some (.slice e)=>match flatT P n e with
   |some (a,l)=>if P.cellsOf e=l.length/\0<l.length then some (false,[.sl a l]) else none
   |none=>none
  |some (.struct fs)=>match flatF (flatT P n) P fs.toList 0 with
   |some l=>if P.cellsOf t=l.length then some (true,l) else none
   |none=>none
  |_=>none
section
variable {H:Type} {enc:TypeId×Value->H} {P:Program} {w:World}
end
def shI:List CSh:=[.b, .sl false [.i .u32]]
def shL:List CSh:=shI++(shI++shI)
def es_star: "*" ++ "errors.errorString" = "*errors.errorString" :=by decide
def es_row(u:TypeId)(h:Tryz.prog.typeName? 3 u=some "*errors.errorString"):u=499:=
 typeName_ptr_named (nm:= "errors.errorString") (by rw[es_star];kernel_rfl) (by kernel_rfl) (by decide) u (by rw[es_star];exact h)
def sent_of{W:World}{n:String}{g:Nat}{text:List UInt8}{r:List (String×DataW Unit)}(h:laidMet Tryz.prog ((n, .iface "*errors.errorString" (.ptr (.agg [.lit (.string text)])))::r) W)(hg:Tryz.prog.globalNamed n=some g)(ht:(Tryz.prog.globals[g]?).map (·.type)=some 34):
  ∃a,GW W g=some [.iface 499 (.pointer (some a))]:=by
 obtain⟨a,s,hv,_⟩:=laid_sentinel h hg ht Tryz.underlying34 es_row Tryz.underlying499 Tryz.underlying524 rfl rfl Tryz.underlying9 (by kernel_rfl) (by kernel_rfl);refine⟨a,?_⟩;unfold World.var? at hv;rw[hg,Option.bind_some] at hv;unfold GW;split at hv
 ·rename_i c t f e
  rw[e];cases hv;rfl
 ·cases hv
def laid_plain{W:World}{l:List (String×DataW Unit)}(h:laidMetH Tryz.prog l W)(hp:(l.all fun x=>x.2.handleName?.isNone)=true):laidMet Tryz.prog l W:=by rwa [Go.MakeChecks.laidMetH_plain _ _ _ hp] at h
end Go.Sx
end
section
namespace Go.Proofs.YtefoocgiaegobaaGreatDoor
open Go.ChangeShapes Go.WideShapes Go.ChangeAt Go.RowKit Go.Sx
theorem js1:mapsRowed Tryz.pinned.checked.prog=true:=by kernel_rfl
theorem js2:Tryz.pinned.checked.prog.stopsHeard=true:=by kernel_rfl
theorem js3:Tryz.pinned.checked.prog.mayEnter=true:=by kernel_rfl
theorem js4:laidOutB Tryz.prog=true:=by kernel_rfl
end Go.Proofs.YtefoocgiaegobaaGreatDoor
end
section
namespace Go.Proofs.YtefoocgiaegobaaGreatDoor.windingNumbers
open Go.ChangeShapes Go.WideShapes Go.ChangeAt Go.RowKit Go.Sx
theorem own:ownKnob Tryz.prog.godebug=none:=by kernel_rfl
theorem laidOut:laidOutB Tryz.prog=true:=js4
theorem cellsI:Tryz.prog.cellsOf 3=1:=by kernel_rfl
theorem bytesI:Tryz.prog.bytesOf 3=8:=by kernel_rfl
theorem door_met(os:Os)(args:Array Value):laidMetH Tryz.prog Rows.windingNumbersRow.laid ((World.doorLaid Tryz.prog 138 os).forCall (fun _ _=>0) ⟨#[],args,[]⟩).memory:=
 laidMetH_of_parts3 (fuel:=8) (laidMet_of_run' 8 (by kernel_rfl) (by kernel_rfl)) (by kernel_rfl) (by kernel_rfl)
theorem eg_of{W:World}(h:laidMetH Tryz.prog Rows.windingNumbersRow.laid W): ∃ar,Be (GW W) ar:=by
 have h1:=laid_plain h J;obtain⟨ar,hr⟩:=sent_of (g:=2) h1.tail.tail.tail.tail.tail.tail (by kernel_rfl) (by kernel_rfl);exact⟨ar,⟨hr⟩⟩
theorem contract(H:Type)(enc:TypeId×Value->H)(W:World)(base:Nat)(args:Array Value)(ds gs:List (DataW H))(before:List MemPlace)
  (hval: ∀(j:Nat) t v,Tryz.f8.params[j]? =some t->args[j]? =some v->Value.okWide Tryz.prog W .any base t v)
  (hW:DataW.Whole enc Tryz.prog Tryz.f8.params.toList Rows.windingNumbersSpec.vars false W args.toList ds gs before)
  (hz:(DataW.weightsEach Tryz.prog (Tryz.f8.params.toList++(OpenSpec.ofChange Rows.windingNumbersSpec).bare.plain.varTypes Tryz.prog) (ds++gs)).all (· <=reachBytes)=true)(hlaid:laidMetH Tryz.prog Rows.windingNumbersRow.laid W):
  Calls Tryz.prog 8 args W fun e W'=> ∃v,e= .returned v/\Rows.windingNumbersSpec.post enc Tryz.prog Tryz.f8 false true false false W args v W':=by
 have hW':=hW;obtain⟨p,q,hA0,hV,rfl,_,_⟩:=hW;have hA:DataW.TrodAll enc Tryz.prog W 0 (fun _=>true) true Tryz.f8.params.toList args.toList ds p:=hA0;rw[Tryz.params8] at hA hval hz;obtain⟨v0,d0,hargs,rfl,h0⟩:=trodAll_one hA;obtain rfl:args= #[v0]:=by cases args;simp_all
 obtain⟨rfl,rfl⟩:=trodVars_none hV;clear hA0;simp only[List.append_nil] at hW';have hlt: ∀x∈p,x.block<W.heap.size:=fun x hx=>by simpa using hW'.lt x hx
 obtain⟨es,hI,hd,_⟩:=open_vI Tryz.underlying22 Tryz.underlying3 cellsI (hval 0 22 v0 rfl rfl) h0;have hb:es.length<=1125899906842624:=by
  rcases hd with⟨rfl,rfl⟩|⟨sp,rfl⟩
  ·exact Nat.zero_le _
  ·have:=sized_slice hz (j:=0) (t:=22) (e:=3) J J Tryz.underlying22
   rw[bytesI] at this;have hr:=reachBytes_lt;have hl:(lits (H:=H) .i64 es).length=es.length:=by simp[lits]
   rw[hl] at this;omega
 obtain⟨ar,hE⟩:=eg_of hlaid;have hf:=(zB hE (es0:=es) hb) (GW W) [v0] (bg.refl _) (.cons hI .nil);refine(hf.run W (fun b cs hg=>GW.sub hg)).mono fun e W' ⟨v,G',he,hr,hv⟩=>?_;rw[bc] at hv;subst hv;subst he;have hn:=hr.below;have t2:=trodAll_mk1 (Below.trod laidOut (by kernel_rfl) (of_decide_eq_true (by kernel_rfl)) h0 hn hlt);exact⟨_,J,⟨_,_,_,[],_,[],hW',trodAll_mk1 (shut_bool Tryz.underlying4 _),t2,J,hn.frame _,fun h=>by cases h⟩⟩
theorem reads(os:Os){H:Type}(enc:TypeId×Value->H): ∃places,DataW.whole enc Tryz.prog ((World.doorLaid Tryz.prog 138 os).forCall (fun _ _=>0) ⟨#[], #[.slice none 0 0],[]⟩).memory Tryz.f8.params.toList Rows.windingNumbersSpec.vars false #[Value.slice none 0 0].toList 8=some ([.nil],[],places):=
 ⟨[],by kernel_rfl⟩
theorem lifted(os:Os)(started:os.Started)(H:Type)(enc:TypeId×Value->H)(F:Stop.Interp):
  ReturnsInHanded {} Tryz.checked os 8 .any ((OpenSpec.ofChange Rows.windingNumbersSpec).preRow enc Tryz.prog Tryz.f8 Rows.windingNumbersRow.domain false Rows.windingNumbersRow.laid) (((OpenSpec.ofChange Rows.windingNumbersSpec).at F).post enc Tryz.prog Tryz.f8 false true false false):=by
 obtain⟨places,hx⟩:=reads os enc;refine returnsInHanded_of_row (C:=Tryz.checked) (s:=OpenSpec.ofChange Rows.windingNumbersSpec) own started (by kernel_rfl) Tryz.func8
  (witness_row_atRef (enc:=enc) (C:=Tryz.checked) false (World.doorLaid Tryz.prog 138 os) #[.slice none 0 0] rfl (by kernel_rfl) (by kernel_rfl) (by kernel_rfl)
   (OpenSpec.preRow_of_cond 8 hx (by kernel_rfl) (fun k hk=>by cases hk) (by kernel_rfl) (door_met os _))) ?_
 intro W base args ds gs before hval hW _ _ hz hlaid _ _;exact contract H enc W base args ds gs before hval hW hz hlaid
theorem j1:(Rows.windingNumbersRow.inPlace==Tryz.pinned.checked.prog.inPlace 8)=true:=by kernel_rfl
theorem j2:(Rows.windingNumbersRow.unfollowed==Tryz.pinned.checked.prog.unfollowed 8)=true:=by kernel_rfl
theorem j3:(Rows.windingNumbersRow.recurses==Tryz.pinned.checked.prog.recurses 8)=true:=by kernel_rfl
theorem j4:(Rows.windingNumbersRow.named==Tryz.pinned.checked.prog.varsNamed 8)=true:=by kernel_rfl
theorem j5:laidOutB Tryz.pinned.checked.prog=true:=laidOut
theorem j6:mapsRowed Tryz.pinned.checked.prog=true:=js1
theorem j7:Tryz.pinned.checked.prog.mainIs=some (Rows.windingNumbersCard.stood.harness.1,Rows.windingNumbersCard.stood.harness.2.toList):=by kernel_rfl
theorem j8:false=Rows.windingNumbersRow.goesBy Tryz.pinned.checked.prog:=by kernel_rfl
theorem j9:(Rows.windingNumbersRow.plainKeys==Tryz.pinned.checked.prog.plainKeys)=true:=by kernel_rfl
theorem j10:(Rows.windingNumbersRow.lifted==Tryz.pinned.checked.prog.liftsFinal)=true:=by kernel_rfl
theorem j11:(Tryz.pinned.checked.prog.make==some Rows.windingNumbersRow.make)=true:=by kernel_rfl
theorem closed:joinedFacts Tryz.pinned.checked.prog 8 Tryz.f8 (OpenSpec.ofChange Rows.windingNumbersSpec).bare Rows.windingNumbersRow=true:=by
 unfold joinedFacts;rw[j1,j2,j3,j4,j5,j6,j9,j10,j11,js2,js3]
 kernel_rfl
theorem said:Rows.WindingNumbersSaid:=
 OpenClaim.holds_of_cond 8 Tryz.f8 J J J J J J J ⟨J,J,J,J,J⟩ J J J J J (by kernel_rfl) Tryz.func8 closed
  (of_decide_eq_true (by kernel_rfl)) (by unfold Func.isWrapper;first|(rw[if_pos (by decide+kernel)];kernel_rfl)|(rw[if_neg (by decide+kernel)];exact⟨J,J⟩))
  (fun os started H enc _ F=>by rw[OpenClaim.pre_eq_preRow];exact lifted os started H enc F)
theorem plain(f:FuncId)(fn:Func)(hf:Tryz.pinned.checked.prog.funcNamed "bspregion/bspregionlaw10.WindingNumbers" =some f)(hfn:Tryz.pinned.checked.prog.funcs[f]? =some fn):
  true=Tryz.pinned.checked.prog.looks []/\ ∀(j:Nat) t,fn.params[j]? =some t->Tryz.pinned.checked.prog.wantsStandIn t=false:=by
 obtain rfl:f=8:=Option.some.inj ((show Tryz.prog.funcNamed "bspregion/bspregionlaw10.WindingNumbers" =some 8 by kernel_rfl).symm.trans hf) |>.symm;obtain rfl:fn=Tryz.f8:=(Option.some.inj (Tryz.func8.symm.trans hfn)).symm;refine⟨by kernel_rfl,fun j t ht=>?_⟩;rw[Tryz.params8] at ht;have hm:=Array.mem_of_getElem? ht;simp only[List.mem_toArray,List.mem_cons,List.not_mem_nil,or_false] at hm;subst hm;exact(show Tryz.prog.wantsStandIn 22=false by kernel_rfl)
theorem card:Rows.WindingNumbersCardSaid:=
 Claim7.holds_tied_plain_at .later [] _ _ _ _ said (fun _ h=>by cases h) (by kernel_rfl) (fun _ h=>by cases h) windingNumbers_row_tie J ⟨J,J⟩ j7 J plain j8
#print axioms card
end Go.Proofs.YtefoocgiaegobaaGreatDoor.windingNumbers
end
