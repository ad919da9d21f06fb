import Derived.Test.YtmhfhhiaecjhiaaGreatDoorWr15
import Derived.Shelf.SlSortCmp.NoneTotal
import Derived.Test.YtmhfhhiaecjhiaaGreatDoorProg
import Derived.RecoverIn
set_option linter.all false
set_option maxHeartbeats 4000000
set_option maxRecDepth 100000
section
namespace Go.Proofs
open Go.Shelf
def Tryz.SortLn_ren:Go.Shelf.Ren:=⟨fun|6=>54|15=>103|14=>102|28=>165|29=>166|20=>157|21=>158|22=>159|23=>160|24=>161|25=>162|26=>163|27=>164|46=>217|47=>218|48=>219|49=>220|50=>221|57=>244|n=>n,fun|22=>115|24=>135|25=>143|3=>3|39=>219|0=>0|53=>261|55=>255|4=>4|46=>273|45=>272|50=>247|5=>5|9=>9|66=>311|70=>315|76=>328|77=>329|n=>n,fun|n=>n⟩
def Tryz.SortLn:Go.Proofs.SlLaysF0.n6 Tryz.prog Tryz.SortLn_ren:={
 mixed:=by kernel_rfl
 f6:=⟨Tryz.f54.name,by decide,Tryz.func54.trans (congrArg some (by kernel_rfl))⟩
 f14:=⟨Tryz.f102.name,by decide,Tryz.func102.trans (congrArg some (by kernel_rfl))⟩
 f15:=Tryz.func103.trans (congrArg some (by kernel_rfl))
 f20:=⟨Tryz.f157.name,by decide,Tryz.func157.trans (congrArg some (by kernel_rfl))⟩
 f21:=⟨Tryz.f158.name,by decide,Tryz.func158.trans (congrArg some (by kernel_rfl))⟩
 f22:=⟨Tryz.f159.name,by decide,Tryz.func159.trans (congrArg some (by kernel_rfl))⟩
 f23:=⟨Tryz.f160.name,by decide,Tryz.func160.trans (congrArg some (by kernel_rfl))⟩
 f24:=⟨Tryz.f161.name,by decide,Tryz.func161.trans (congrArg some (by kernel_rfl))⟩
 f25:=⟨Tryz.f162.name,by decide,Tryz.func162.trans (congrArg some (by kernel_rfl))⟩
 f26:=⟨Tryz.f163.name,by decide,Tryz.func163.trans (congrArg some (by kernel_rfl))⟩
 f27:=⟨Tryz.f164.name,by decide,Tryz.func164.trans (congrArg some (by kernel_rfl))⟩
 f28:=Tryz.func165.trans (congrArg some (by kernel_rfl))
 f29:=Tryz.func166.trans (congrArg some (by kernel_rfl))
 f46:=⟨Tryz.f217.name,by decide,Tryz.func217.trans (congrArg some (by kernel_rfl))⟩
 f47:=Tryz.func218.trans (congrArg some (by kernel_rfl))
 f48:=Tryz.func219.trans (congrArg some (by kernel_rfl))
 f49:=⟨Tryz.f220.name,by decide,Tryz.func220.trans (congrArg some (by kernel_rfl))⟩
 f50:=⟨Tryz.f221.name,by decide,Tryz.func221.trans (congrArg some (by kernel_rfl))⟩
 f57:=⟨Tryz.f244.name,by decide,Tryz.func244.trans (congrArg some (by kernel_rfl))⟩
 t0:=Tryz.underlying0
 a0:=Tryz.isAgg0
 z0:=Tryz.sizeOf0
 v0:=Tryz.zeroValue0
 t3:=Tryz.underlying3
 a3:=Tryz.isAgg3
 z3:=Tryz.sizeOf3
 v3:=Tryz.zeroValue3
 t4:=Tryz.underlying4
 a4:=Tryz.isAgg4
 z4:=Tryz.sizeOf4
 v4:=Tryz.zeroValue4
 t5:=Tryz.underlying5
 a5:=Tryz.isAgg5
 z5:=Tryz.sizeOf5
 v5:=Tryz.zeroValue5
 t9:=Tryz.underlying9
 a9:=Tryz.isAgg9
 z9:=Tryz.sizeOf9
 v9:=Tryz.zeroValue9
 t22:=Tryz.underlying115
 a22:=Tryz.isAgg115
 z22:=Tryz.sizeOf115
 v22:=Tryz.zeroValue115
 t25:=Tryz.underlying143
 a25:=Tryz.isAgg143
 z25:=Tryz.sizeOf143
 v25:=Tryz.zeroValue143
 t39:=Tryz.underlying219
 a39:=Tryz.isAgg219
 z39:=Tryz.sizeOf219
 v39:=Tryz.zeroValue219
 t45:=Tryz.underlying272
 a45:=Tryz.isAgg272
 z45:=Tryz.sizeOf272
 v45:=Tryz.zeroValue272
 t46:=Tryz.underlying273
 a46:=Tryz.isAgg273
 z46:=Tryz.sizeOf273
 v46:=Tryz.zeroValue273
 t50:=Tryz.underlying247
 a50:=Tryz.isAgg247
 z50:=Tryz.sizeOf247
 v50:=Tryz.zeroValue247
 t53:=Tryz.underlying261
 a53:=Tryz.isAgg261
 z53:=Tryz.sizeOf261
 v53:=Tryz.zeroValue261
 t55:=Tryz.underlying255
 a55:=Tryz.isAgg255
 z55:=Tryz.sizeOf255
 v55:=Tryz.zeroValue255
 t66:=Tryz.underlying311
 a66:=Tryz.isAgg311
 z66:=Tryz.sizeOf311
 v66:=Tryz.zeroValue311
 t70:=Tryz.underlying315
 a70:=Tryz.isAgg315
 z70:=Tryz.sizeOf315
 v70:=Tryz.zeroValue315
 t76:=Tryz.underlying328
 a76:=Tryz.isAgg328
 z76:=Tryz.sizeOf328
 v76:=Tryz.zeroValue328
 t77:=Tryz.underlying329
 a77:=Tryz.isAgg329
 z77:=Tryz.sizeOf329
 v77:=Tryz.zeroValue329}
end Go.Proofs
end
section
namespace Go.Sx
open Go Go.Proofs Tryz
variable {GB:Gh}
def Uy{l:ab}[hl:LB l]:PF GB prog 53 [cA l] (.tp [cA l.canon,vB (mP l)]):=by
 have e:fh [Int.sign (l.a:Rat).num,Int.sign (l.b:Rat).num]<0↔(l.a<0\/(l.a=0/\l.b<0)):=by show fh [Int.sign l.a,Int.sign l.b]<0↔_;have h1:=uc l.a;have h2:=uc l.b;have h3:=kG l.a;unfold fh fh fh;split<;>omega
 refine fn func53 J J ntmps53 J J (fun C=>?_);refine cl J (ij (q:=(l.a:Rat))) J<|cl J (ij (q:=(l.b:Rat))) J<|rf J J<|cl J (Fy (es:=[Int.sign (l.a:Rat).num,Int.sign (l.b:Rat).num]) (nb J)) J<|br J J J (fun hc14=>?_) (fun hc14=>?_)
 .
  refine cl J (Rw (l:=l)) J<|rz J (by have h:=e.1 hc14;show DV.tp _=DV.tp _;unfold ab.canon mP;simp only[h,decide_true,if_true];rfl)
 .
  exact rz J (by have h:=mt e.2 hc14;show DV.tp _=DV.tp _;unfold ab.canon mP;simp only[h,decide_false,kN,if_false];rfl)
def AH(a b:Int):bG (a:Rat) (b:Rat)=(a-b).sign:=by
 unfold bG;have e1:((a:Rat)<(b:Rat))↔a<b:=kU;have e2:((b:Rat)<(a:Rat))↔b<a:=kU;rcases nQ a b with h|h|h
 .rw[if_pos (e1.2 h),dK (by omega)]
 .subst h;rw[if_neg (fun h=>by have:=e1.1 h;omega),if_neg (fun h=>by have:=e1.1 h;omega),Int.sub_self];rfl
 .rw[if_neg (fun h=>by have:=e1.1 h;omega),if_pos (e2.2 h),eY (by omega)]
def Q9(l m:ab):vq l m=cF l m:=by
 unfold vq cF fh fh fh fh;rw[AH,AH,AH]
 repeat' split
 all_goals omega
def TX{l m:ab}(hl:LB l)(hm:LB m):PF GB prog 55 [cA l,cA m] (.v (.int .i64 (cF l m))):=by
 haveI:=hl;haveI:=hm;have:=Fc (GB:=GB) (l:=l) (m:=m);rwa [Q9] at this
def WX{ds:List ab}(hb: ∀d∈ds,LB d)(hn:ds.length<=10000000):PW GB prog 54 [none,some (.v (.func (.func 55) #[] #[]))] 9 135 (ds.map cA) (.tp []) ((ey cF ds).map cA):=
 H8 (GB:=GB) Tryz.SortLn ⟨_,func54,J,J⟩ isAgg135 sizeOf135 cA (fun d=>LB d) (fun x=>⟨_,J,J,J⟩) cF Gb ⟨_,func55,J,J⟩ (fun x y hx hy=>TX hx hy) hb (by omega)
  (fun x hx y hy h k=>by
   have:cF x y=0:=by rw[zX];rw[n7] at h k;omega
   exact(Ce x y).1 this)
def O6{l:List ab}{k:Nat}{y:ab}(h:l[k]? =some y):l.take (k+1)=l.take k++[y]:=by
 rw[cX,h];rfl
def UC(l:List ab)(k:Nat)(y:ab):(l.map cA).set k (cA y)=(l.set k y).map cA:=(lT ..).symm
def E5{r l:List ab}{a b:Nat}(h:a<=b)(e:r.drop a=l.drop a):r[b]? =l[b]? :=by
 have:=congrArg (·[b-a]?) e;simpa[gS,show a+(b-a)=b by omega] using this
def Ut{r l:List ab}{a b:Nat}(h:a<=b)(e:r.drop a=l.drop a):r.drop b=l.drop b:=by
 have:=congrArg (List.drop (b-a)) e;simpa[nJ,show a+(b-a)=b by omega] using this
def Qg{r:List ab}{i:Nat}{u:ab}(h:i<r.length):(r.set i u).take (i+1)=r.take i++[u]:=by
 rw[cX,pZ h,qR (aM _)];rfl
def L6{r:List ab}{i:Nat}(h:i<r.length):(r.map cA)[(i:Int).toNat]? =some (cA r[i]):=by simp[h]
def O4{l:List ab}(hb: ∀d∈l,LB d)(hn:l.length<=10000000):PB GB prog 56 (gH [none,some (.v (.func (.func 57) #[] #[]))]) 9 135 (l.map cA) (fun w=> .v (.slice w.a w.n w.c)) ((lA l).map cA):=by
 have hml:(l.map cA).length=l.length:=aZ ..;refine uv (fu:=⟨10⟩) func56 J J ntmps56 J J (fun C=>?_);refine ah 9 (.d (vI (l.length:Nat))) J (by rw[hml]<;>rfl)<|gx J<|br J J J (fun hc10=>?_) (fun hc10=>?_)
 .
  exact nf J J J (by rw[Uc (by omega)])
 .
  obtain⟨x0,hx0⟩: ∃x,l[0]? =some x:=⟨_,aQ (by omega)⟩;refine lp (fu:=⟨6⟩) (X:=Nat×ab) (fun⟨k,x⟩=>[(5, .d (vI (k:Nat)))]) (fun⟨k,x⟩=>[]) (fun⟨k,x⟩=>1<=k/\k<=l.length/\l[k-1]? =some x/\lA l=l.take k++f0 x (l.drop k)) (fun⟨k,x⟩=>l.length-k) ⟨1,x0⟩ J ⟨aM _,by omega,hx0,by rw[WE hx0]⟩ (fun _=>J) (fun⟨k,x⟩ hk=>?_)
  try dsimp only at hk⊢
  obtain⟨h1,h2,h3,h4⟩:=hk;refine ah 14 (.d (vI (l.length:Nat))) J (by rw[hml]<;>rfl)<|gx J<|br J J J (fun hc15=>?_) (fun hc15=>?_)
  .
   obtain⟨y,hy⟩: ∃y,l[k]? =some y:=⟨_,aQ (by omega)⟩;haveI:=hb y (aW hy);haveI:=hb x (aW h3);refine lb (fu:=⟨3⟩) _ J (b8 hy) J<|ah 25 (.d (vI ((k-1:Nat):Int))) J (by rw[Int.ofNat_sub h1]<;>rfl)<|gx J<|lb (fu:=⟨0⟩) _ J (b8 h3) J<|cl J (KW (l:=y) (m:=x)) J<|bd (fu1:=⟨4⟩) J J J (fun hc28=>?_) (fun hc28=>?_)
   .
    have hc28':=hc28;refine wE k (l.length-k) J J (by omega) (by omega) J<|lp (fu:=⟨5⟩) (X:=Nat×Nat×ab×List ab) (fun⟨i,m,z,r⟩=>[(5, .d (vI (i:Nat))),(7, .d (vI (m:Nat)))]) (fun⟨i,m,z,r⟩=>[(1000000,some (.b 135 9 (r.map cA) false))]) (fun⟨i,m,z,r⟩=>1<=m/\k+m<=l.length/\i+1<=k+m/\r.length=l.length/\r.drop (k+m-1)=l.drop (k+m-1)/\l[k+m-1]? =some z/\lA l=r.take i++f0 z (l.drop (k+m))) (fun⟨i,m,z,r⟩=>l.length-m) ⟨k,1,y,l⟩ J ⟨aM _,by omega,by omega,J,J,by rw[iY];exact hy,by rw[h4,vV hy,if_pos hc28']⟩ (fun _=>J) (fun⟨i,m,z,r⟩ hk=>?_)
    try dsimp only at hk⊢
    obtain⟨g1,g2,g3,g4,g5,g6,g7⟩:=hk;have hrl:(r.map cA).length=r.length:=aZ ..;refine G8 J J<|br (fu1:=⟨9⟩) (fu2:=⟨9⟩) J J J (fun hc35=>?_) (fun hc35=>?_)
    .
     obtain⟨u,hu⟩: ∃u,l[k+m]? =some u:=⟨_,aQ (by omega)⟩;haveI:=hb u (aW hu);haveI:=hb z (aW g6);have g8:r[k+m]? =some u:=by rw[<-hu];exact E5 (by omega) g5
     have g10:r[k+m-1]? =some z:=by rw[<-g6];exact E5 (aM _) g5
     have g9:r.drop (k+m)=l.drop (k+m):=Ut (by omega) g5;refine sJ (k+m) J (by omega) (by omega) (by omega) J<|lb (fu:=⟨3⟩) _ J (b8 g8) J<|sJ (k+m-1) J (by omega) (by omega) (by omega) J<|lb (fu:=⟨0⟩) _ J (b8 g10) J<|cl J (KW (l:=u) (m:=z)) J<|bb (fu1:=⟨6⟩) J J J (fun hc49=>?_) (fun hc49=>?_)
     .
      have hc49': ¬u=z:=by simpa using hc49
      refine sJ (k+m) J (by omega) (by omega) (by omega) J<|lb _ J (b8 g8) J<|sb _ ((r.set i u).map cA) J (L6 (by omega)) J (by rw[<-UC]<;>rfl) J<|at_ ⟨i+1,m+1,u,r.set i u⟩ (by dsimp only;exact⟨⟨by omega,by omega,by omega,by rw[aY];exact g4,by rw[show k+(m+1)-1=k+m by omega,lN (by omega)];exact g9,by rw[show k+(m+1)-1=k+m by omega];exact hu,by rw[g7,vV hu,if_neg hc49',Qg (by omega),dL];rfl⟩,(by omega)⟩)
     .
      have hc49':u=z:=by simpa using hc49
      exact at_ ⟨i,m+1,u,r⟩ (by dsimp only;exact⟨⟨by omega,by omega,by omega,g4,by rw[show k+(m+1)-1=k+m by omega];exact g9,by rw[show k+(m+1)-1=k+m by omega];exact hu,by rw[g7,vV hu,if_pos hc49'];rfl⟩,(by omega)⟩)
    .
     obtain hm:k+m=l.length:=by omega
     refine wE i (l.length-i) J J (by omega) (by omega) J<|HB (fu:=⟨6⟩) _ J (by rw[hrl];omega) (by omega) J J<|yX ((r.take i).map cA) i J J (by rw[aN,aS,aV,hrl];omega) (by rw[fQ (by rw[aS,hrl];omega),List.take_take,Nat.min_self,jL]) J<|?_;exact nf J J J (by rw[g7,hm,iX,f0,lW])
   .
    have hc28':=hc28;exact at_ ⟨k+1,y⟩ (by dsimp only;exact⟨⟨by omega,by omega,hy,by rw[h4,vV hy,if_neg hc28',O6 hy,dL];rfl⟩,(by omega)⟩)
  .
   exact nf J J J (by rw[h4,show k=l.length by omega,iX,f0,lW,bT])
def gp(E:List aE):List ab:=E.map (·.l)
def LU{E:List aE}{k:Nat}{f:aE}(h:E[k]? =some f):((gp (E.take (k+1))).map ab.canon)=(gp (E.take k)).map ab.canon++[f.l.canon]:=by
 unfold gp;rw[cX,h,cK,cK];rfl
theorem DN{l:ab}(h:LB l):LB l.canon:=by unfold ab.canon;split;exact h.rev;exact h
theorem Ln{E:List aE}(h: ∀f∈E,LB f.l)(k:Nat): ∀l∈(gp (E.take k)).map ab.canon,LB l:=fun l hl=>by
 obtain⟨m,hm,rfl⟩:=bV.1 hl;obtain⟨f,hf,rfl⟩:=bV.1 hm;exact DN (h f (dX hf))
def PP{ls:List ab}{k:Nat}{l:ab}(h:ls[k]? =some l):(ls.take k).map eL++[eL l]=(ls.take (k+1)).map eL:=by rw[cX,h,cK];rfl
def Og{v:List aa}{i:Nat}(hb: ∀p∈v,aq p i)(hi:i<=100000)(hn:v.length<=4000)(h3:3<=cB v v.length)(hne: ∀(k:Nat) (p q:aa),v[k]? =some p->v[(k+1)%v.length]? =some q-> ¬(p.x=q.x/\p.y=q.y)):PF GB prog 67 [.sl (v.map dy)] (.tp [.sl (v.map eZ), .v .nilIface]):=by
 have hm1:(v.map dy).length=v.length:=aZ ..;have hm2:(v.map eZ).length=v.length:=aZ ..;have hrl:(gj v).length=v.length:=by unfold gj;rw[aZ,kX]
 refine wk (fu:=⟨11⟩) func67 J J ntmps67 J J (fun C h0=>?_);refine ah 13 (.d (vI (v.length:Nat))) J (by rw[hm1]<;>rfl)<|gx (fu:=⟨0⟩) J<|dq (fu:=⟨15⟩) J (by show some (decide _)=some false;rw[decide_eq_false (by omega)]) J<|ah 20 (.d (vI (v.length:Nat))) J (by rw[hm1]<;>rfl)<|gx J<|nr 4 4 102 6 J J J<|lp (X:=Nat) (fun k=>[(21, .d (vI (k:Nat))),(4, .rw 4)]) (fun k=>[(4,some (.b 102 6 ((v.take k).map eZ) true))]) (fun k=>k<=v.length) (fun k=>v.length-k) 0 J (bJ _) (fun _=>J) (fun k hk=>?_);have hm3:((v.take k).map eZ).length<=k:=by rw[aZ,aS];omega
 refine br (fu2:=⟨0⟩) J J J (fun hc22=>?_) (fun hc22=>?_)
 .
  obtain⟨p,hx⟩: ∃u,v[k]? =some u:=⟨_,aQ (by omega)⟩;haveI:=hb p (aW hx);refine ix _ J (b8 hx) J<|cl (fu:=⟨0⟩) J (wT (p:=p) (i:=i) (by omega)) J<|fy 27 J<|gx J<|cl J (nG (p:=p) (i:=i) (by omega)) J<|rf J J<|ap ((v.take (k+1)).map eZ) J (uS hx) (lj [p]) J<|d4 41 4 J<|at_ (k+1) ⟨(by omega),(by omega)⟩
 .
  obtain rfl:k=v.length:=by omega
  rw[bT];refine px 4 J<|gx (fu:=⟨15⟩) J<|ah 44 (.d (vI (v.length:Nat))) J (by rw[hm2]<;>rfl)<|gx J<|lp (X:=Nat) (fun k=>[(45, .d (vI (k:Nat))),(7, .d (vI ((dF v k):Nat)))]) (fun k=>[]) (fun k=>k<=v.length) (fun k=>v.length-k) 0 J (bJ _) (fun _=>J) (fun k hk=>?_);have hdm:=wD v k;refine br (fu2:=⟨9⟩) J J J (fun hc46=>?_) (fun hc46=>?_)
  .
   obtain⟨p,hx⟩: ∃u,v[k]? =some u:=⟨_,aQ (by omega)⟩;haveI:=hb p (aW hx);have hcm:=u7 (l:=v) (k:=k);refine ix _ J (b8 hx) J<|cs 52 J J J (fun hg52=>?_) (fun hg52=>?_)
   .
    refine cl J (xU (l:=v) (p:=p) (i:=i) hb (by omega) (by omega)) J<|br J J J (fun hc58=>?_) (fun hc58=>?_)
    .
     have he7:=xp (by omega) (rk hx);refine ah 7 (.d (vI (dF v (k+1):Nat))) J (by rw[he7]<;>rfl)<|at_ (k+1) ⟨(by omega),(by omega)⟩
    .
     have he7:=ow (.inr (wN hx)) hcm;refine ah 7 (.d (vI (dF v (k+1):Nat))) J (by rw[he7]<;>rfl)<|at_ (k+1) ⟨(by omega),(by omega)⟩
   .
    have he7:=ow (l:=v) (k:=k) (.inl (by omega)) hcm;refine ah 7 (.d (vI (dF v (k+1):Nat))) J (by rw[he7]<;>rfl)<|at_ (k+1) ⟨(by omega),(by omega)⟩
  .
   obtain rfl:k=v.length:=by omega
   have hd3:=Bq h3;refine dq (fu:=⟨9⟩) J (by show some (decide _)=some false;rw[decide_eq_false (by omega)]) J<|ux J J J uT (fun _=>J) (fun GB1 pv hg1 hpv=>?_);refine pc 2 2000002 h0.fx J<|pc 3 2000003 h0.fx J ?_;refine ul (σ:=Empty) (fun _=>[(2000002,some (.o 93 [.nl] true)),(2000003,some (.o 41 [.d (.v .nilIface)] true))]) (fun _=>True) (fun _=>[]) (fun _=>False) [(2, .ov 2000002 0),(3, .ov 2000003 0),(4, .d (.sl (v.map eZ)))] h0 J (vz) (.cons hpv .nil) ⟨J,J,J,trivial⟩ J ⟨J,J,trivial⟩ trivial tZ J J (fun k e GB' hE hg hp=>?_) (fun D hD hx hp=>?_) (fun D s hD hx hq=>hq.elim)
   .obtain⟨p,q,hpx,hqx,rfl⟩:=ve hE
    haveI:=hb p (aW hpx);haveI:=hb q (aW hqx);have hne2:=hne k p q hpx hqx;refine⟨?_,?_,fun C2=>?_,fun C2=>?_⟩
    rotate_left 2
    .refine gx J<|tK J J J ⟨J,J,J⟩ J ?_
     exact atR
    .refine gx J<|l7 0 (e:=102) (len:=2) (s:=6) J (by kernel_rfl) (by kernel_rfl) (by decide) J<|l7 1 (e:=102) (len:=2) (s:=6) J (by kernel_rfl) (by kernel_rfl) (by decide) J<|cl J (xV (p:=p) (q:=q) (i:=i) (by omega)) J<|bd J J J (fun hc=>absurd hc hne2) (fun hc=>?_)
     exact rq trivial ⟨J,J,trivial⟩
   .refine gx J<|?_
    exact vY hD hx J J
def b7(r:List WP):DV:= .sl (r.map WP.D)
def b6(r:List WP):List aa:=r.map WP.p
def jo(v:List aa):DV:= .sl (v.map eZ)
structure eG (r:List WP):Prop where
 sm: ∀q∈r,q.sm
 nm: ∀q∈r,q.nm
 n9:r.length<=9
 c3:3<=cB (b6 r) (b6 r).length
 ne: ∀i<(b6 r).length,js ((b6 r).getD i PZ) (fB (b6 r) i)
def pP(r:List WP):(b6 r).length=r.length:=aZ ..
theorem pH{r:List WP}(s: ∀q∈r,q.sm)(h: ∀q∈r,q.nm): ∀p∈b6 r,aq p 22:=fun p hp=>by
 obtain⟨q,hq,rfl⟩:=bV.1 hp;exact WP.bpt (s q hq) (h q hq)
def sY{r:List WP}(s: ∀q∈r,q.sm)(h: ∀q∈r,q.nm):b7 r= .sl ((b6 r).map dy):=by
 unfold b7 b6;rw[mT];congr 1;exact qM fun q hq=>WP.eq (s q hq) (h q hq)
def eG.rg{r:List WP}(h:eG r):Ca (b6 r):=by
 have h3:=JU (b6 r) (b6 r).length;have:=h.c3;have:=h.n9;have:=pP r;exact⟨by omega,by omega,pH h.sm h.nm,h.ne⟩
def ue{v:List aa}{k:Nat}{p q:aa}(h1:v[k]? =some p)(h2:v[(k+1)%v.length]? =some q):p=v.getD k PZ/\q=fB v k:=⟨(CM h1).2,I6 h2⟩
def Gj{r:List WP}(h:eG r):PF GB prog 67 [b7 r] (.tp [jo (b6 r), .v .nilIface]):=by
 rw[sY h.sm h.nm];exact Og (i:=22) (pH h.sm h.nm) (by decide) (by have:=h.n9;have:=pP r;omega) h.c3 fun k p q hp hq=>by
  obtain⟨e1,e2⟩:=ue hp hq;rw[e1,e2];exact h.ne k (aT.1 hp).1
def og(ai ar:Addr)(r:List WP)(a:Addr):Prop:=(a=ai/\ ∃q∈r,¬q.nm)\/(a=ar/\(∀q∈r,q.nm)/\(cB (b6 r) (b6 r).length<3\/ ∃i<(b6 r).length,¬js ((b6 r).getD i PZ) (fB (b6 r) i)))
def Hm{α:Type}{P:α->Prop}: ∀{l:List α},(∃q∈l,P q)-> ∃(j:Nat) (q:α),l[j]? =some q/\P q/\ ∀k x,k<j->l[k]? =some x-> ¬P x
 |[],⟨_,h,_⟩=>by cases h
 |a::t,h=>by
  by_cases ha:P a
  .exact⟨0,a,J,ha,fun k x hk=>absurd hk (qK k)⟩
  .obtain⟨q,hq,hp⟩:=h
   have ht: ∃q∈t,P q:=by
    rcases aR.1 hq with rfl|hq
    .exact absurd hp ha
    .exact⟨q,hq,hp⟩
   obtain⟨j,q,h1,h2,h3⟩:=Hm ht;refine⟨j+1,q,h1,h2,fun k x hk hx=>?_⟩
   match k with
   |0=>cases hx;exact ha
   |k+1=>exact h3 k x (by omega) hx
def EL{P:Nat->Prop}: ∀{n:Nat},(∃i<n,P i)-> ∃j<n,P j/\ ∀k<j,¬P k
 |0,⟨_,h,_⟩=>absurd h (qK _)
 |n+1,h=>by
  by_cases hn: ∃i<n,P i
  .obtain⟨j,h1,h2,h3⟩:=EL hn
   exact⟨j,by omega,h2,h3⟩
  .obtain⟨i,h1,h2⟩:=h
   have:i=n:=by
    rcases dR i n with k|k
    .exact absurd ⟨i,k,h2⟩ hn
    .omega
   subst this;exact⟨i,by omega,h2,fun k hk h=>hn ⟨k,hk,h⟩⟩
def Vr{ai al ar:Addr}(hE:ew GB ai al ar){r:List WP}(hs: ∀q∈r,q.sm)(hn:r.length<=9){a:Addr}(h:og ai ar r a): ∃s,PE GB prog 67 [b7 r] (jj a s) (fun u=> .tp [.sl [],jG u]):=by
 have hl:=pP r;rcases h with⟨rfl,hq⟩|⟨rfl,hnm,hc⟩
 .obtain⟨j,q,h1,h2,h3⟩:=Hm hq
  exact Qu hE hs (by omega) h1 h2 fun k x hk hx=>Classical.byContradiction fun e=>h3 k x hk hx e
 .rw[sY hs hnm]
  by_cases h3:cB (b6 r) (b6 r).length<3
  .exact WM hE (i:=22) (pH hs hnm) (by decide) (by omega) (by unfold dF;rw[if_neg (by omega)];exact h3)
  .obtain⟨j,j1,j2,j3⟩:=EL (hc.resolve_left h3)
   exact⟨_,WG hE (i:=22) (pH hs hnm) (by decide) (by omega) (by omega) j1
    (fun p q hp hq=>by obtain⟨e1,e2⟩:=ue hp hq;rw[e1,e2];exact Classical.byContradiction fun e=>j2 e)
    (fun k p q hk hp hq=>by obtain⟨e1,e2⟩:=ue hp hq;rw[e1,e2];exact Classical.byContradiction fun e=>j3 k hk fun d=>e d)⟩
def LH(l:List (List WP)):dl 1 (l.map fun r=>jo (b6 r)):=fun d hd=>by
 obtain⟨x,_,rfl⟩:=bV.1 hd;exact⟨J,J⟩
def F9{L:List (List WP)}{k:Nat}{r:List WP}(h:L[k]? =some r):((L.take k).map fun r=>jo (b6 r))++[jo (b6 r)]=(L.take (k+1)).map fun r=>jo (b6 r):=by
 rw[cX,h,cK];rfl
def il(xs:List (List WP)):List aE:=xs.flatMap fun r=>iw (b6 r)
def P'{L:List (List WP)}{k:Nat}{r:List WP}(h:L[k]? =some r):((il (L.take k)).map bF)++((iw (b6 r)).map bF)=(il (L.take (k+1))).map bF:=by
 unfold il;rw[cX,h,List.flatMap_append,cK];simp
def yI: ∀{L:List (List WP)},(∀r∈L,r.length<=9)->(il L).length<=9*L.length
 |[],_=>aM _
 |r::L,h=>by
  have ih:=yI (L:=L) fun q hq=>h q (aK _ hq);have h1:=h r aX;have h2:(iw (b6 r)).length=r.length:=(oP _ _).trans (pP r);unfold il at*;rw[pJ,aN,bR];omega
def I1{L:List (List WP)}(h: ∀r∈L,r.length<=9)(k:Nat):(il (L.take k)).length<=9*k:=by
 have:=yI (L:=L.take k) fun r hr=>h r (dX hr);rw[aS] at this;omega
def Iv{L:List (List WP)}(h: ∀r∈L,eG r): ∀f∈il L,jI f:=fun f hf=>by
 obtain⟨r,hr,hf⟩:=mK.1 hf;exact(LM (h r hr).rg).2 f hf
def Vf{xs:List (List WP)}(h: ∀r∈xs,eG r)(hn:xs.length<=100):PF GB prog 29 [.sl (xs.map b7)] (.tp [.sl (xs.map fun r=>jo (b6 r)), .v .nilIface]):=by
 have hml:(xs.map b7).length=xs.length:=aZ ..;refine fn (fu:=⟨11⟩) func29 J J ntmps29 J J (fun C=>?_);refine ah 10 (.d (vI (xs.length:Nat))) J (by rw[hml]<;>rfl)<|gx (fu:=⟨0⟩) J<|dq (fu:=⟨15⟩) J (by show some (decide _)=some false;rw[decide_eq_false (by omega)]) J<|ah 17 (.d (vI (xs.length:Nat))) J (by rw[hml]<;>rfl)<|gx J<|nr 4 4 93 1 J J J<|lp (X:=Nat) (fun k=>[(18, .d (vI (k:Nat))),(4, .rw 4)]) (fun k=>[(4,some (.b 93 1 ((xs.take k).map fun r=>jo (b6 r)) true))]) (fun k=>k<=xs.length) (fun k=>xs.length-k) 0 J (bJ _) (fun _=>J) (fun k hk=>?_);have hm3:((xs.take k).map fun r=>jo (b6 r)).length<=k:=by rw[aZ,aS];omega
 refine br J J J (fun hc19=>?_) (fun hc19=>?_)
 .
  obtain⟨r,hx⟩: ∃u,xs[k]? =some u:=⟨_,aQ (by omega)⟩;have hr:=h r (aW hx);refine ix _ J (b8 hx) J<|cl (fu:=⟨11⟩) J (Gj hr) J<|dq J J J<|rf J J<|ap ((xs.take (k+1)).map fun r=>jo (b6 r)) J (F9 hx) (LH [r]) J<|d4 33 4 J<|at_ (k+1) ⟨(by omega),(by omega)⟩
 .
  obtain rfl:k=xs.length:=by omega
  rw[bT];refine gO 4 J<|rz J J
def Md{ai al ar:Addr}(hE:ew GB ai al ar){xs:List (List WP)}(hn:xs.length<=100){j:Nat}{r:List WP}(hj:xs[j]? =some r)(hg: ∀k q,k<j->xs[k]? =some q->eG q)(hs: ∀q∈r,q.sm)(h9:r.length<=9){a:Addr}(hb:og ai ar r a): ∃s,PE GB prog 29 [.sl (xs.map b7)] (jj a s) (fun u=> .tp [.sl [],jG u]):=by
 obtain⟨s,hF⟩:=Vr hE hs h9 hb;refine⟨s,?_⟩;have hjl:=(aT.1 hj).1;have hml:(xs.map b7).length=xs.length:=aZ ..;refine l4 (fu:=⟨11⟩) func29 J J ntmps29 J J (fun C=>?_);refine ah 10 (.d (vI (xs.length:Nat))) J (by rw[hml]<;>rfl)<|gx (fu:=⟨0⟩) J<|dq (fu:=⟨15⟩) J (by show some (decide _)=some false;rw[decide_eq_false (by omega)]) J<|ah 17 (.d (vI (xs.length:Nat))) J (by rw[hml]<;>rfl)<|gx J<|nr 4 4 93 1 J J J<|lp (X:=Nat) (fun k=>[(18, .d (vI (k:Nat))),(4, .rw 4)]) (fun k=>[(4,some (.b 93 1 ((xs.take k).map fun r=>jo (b6 r)) true))]) (fun k=>k<=j) (fun k=>xs.length-k) 0 J (bJ _) (fun _=>J) (fun k hk=>?_);have hm3:((xs.take k).map fun r=>jo (b6 r)).length<=k:=by rw[aZ,aS];omega
 refine br J J J (fun hc19=>?_) (fun hc19=>?_)
 .
  obtain⟨q,hx⟩: ∃u,xs[k]? =some u:=⟨_,aQ (by omega)⟩;refine ix (fu:=⟨7⟩) _ J (b8 hx) J<|?_;rcases dR k j with hkj|hkj
  .have hq:=hg k q hkj hx
   refine cl (fu:=⟨11⟩) J (Gj hq) J<|dq J J J<|rf J J<|ap ((xs.take (k+1)).map fun r=>jo (b6 r)) J (F9 hx) (LH [q]) J<|d4 33 4 J<|at_ (k+1) ⟨by omega,by omega⟩
  .obtain rfl:j=k:=by omega
   obtain rfl:r=q:=Option.some.inj (hj.symm.trans hx);refine cE J hF (fun _=>J) (fun GB1 u hg1 hu=>?_);exact ml u hu J J
 .
  exact absurd hc19 (by omega)
def Q4{ai al ar:Addr}(hE:ew GB ai al ar){ds:List DV}(hn:256<ds.length)(hm:ds.length<=1000000): ∃s,PE GB prog 29 [.sl ds] (jj al s) (fun u=> .tp [.sl [],jG u]):=by
 apply Exists.intro;have hml:ds.length=ds.length:=J;refine l4 (fu:=⟨11⟩) func29 J J ntmps29 J J (fun C=>?_);refine ic J (by show some (decide _)=some true;rw[decide_eq_true (by omega)]) J<|gl (fu:=⟨1⟩) J hE.ErrLimit J<|vv (fu:=⟨0⟩) J J<|wV J yu J<|Oq 3 J (fun GB1 u hg1 hu=>?_);exact ml u hu J J
def CN{xs:List (List WP)}(h: ∀r∈xs,eG r)(hn:xs.length<=100):PF GB prog 48 [.sl (xs.map b7)] (.tp [.sl ((il xs).map bF), .v .nilIface]):=by
 have hml:(xs.map fun r=>jo (b6 r)).length=xs.length:=aZ ..;refine fn func48 J J ntmps48 J J (fun C=>?_);refine cl (fu:=⟨11⟩) J (Vf h hn) J<|dq (fu:=⟨15⟩) J J J<|ah 18 (.d (vI (xs.length:Nat))) J (by rw[hml]<;>rfl)<|gx J<|nr 6 6 139 17 J J J<|lp (X:=Nat) (fun k=>[(19, .d (vI (k:Nat))),(6, .rw 6)]) (fun k=>[(6,some (.b 139 17 ((il (xs.take k)).map bF) true))]) (fun k=>k<=xs.length) (fun k=>xs.length-k) 0 J (bJ _) (fun _=>J) (fun k hk=>?_);have hm5:=I1 (fun r hr=>(h r hr).n9) k;have hm3:((il (xs.take k)).map bF).length<=9*k:=by rw[aZ];exact I1 (fun r hr=>(h r hr).n9) k
 refine br J J J (fun hc20=>?_) (fun hc20=>?_)
 .
  obtain⟨r,hx⟩: ∃u,xs[k]? =some u:=⟨_,aQ (by omega)⟩;have hr:=h r (aW hx);have hn6:=hr.rg.n9;have hel:(iw (b6 r)).length=(b6 r).length:=oP _ _;have hm4:((iw (b6 r)).map bF).length=(iw (b6 r)).length:=aZ ..;refine ix _ J (b8 (f:=fun r=>jo (b6 r)) hx) J<|cl J (SO hr.rg) J<|ap ((il (xs.take (k+1))).map bF) J (P' hx) (vE (iw (b6 r))) J<|d4 26 6 J<|at_ (k+1) ⟨(by omega),(by omega)⟩
 .
  obtain rfl:k=xs.length:=by omega
  rw[bT];refine gO 6 J<|rz J J
def Aj{ai al ar:Addr}(hE:ew GB ai al ar){xs:List (List WP)}(hn:xs.length<=100){j:Nat}{r:List WP}(hj:xs[j]? =some r)(hg: ∀k q,k<j->xs[k]? =some q->eG q)(hs: ∀q∈r,q.sm)(h9:r.length<=9){a:Addr}(hb:og ai ar r a): ∃s,PE GB prog 48 [.sl (xs.map b7)] (jj a s) (fun u=> .tp [.sl [],jG u]):=by
 obtain⟨s,hF⟩:=Md hE hn hj hg hs h9 hb;refine⟨s,?_⟩;refine l4 (fu:=⟨9⟩) func48 J J ntmps48 J J (fun C=>?_);refine cE J hF (fun _=>J) (fun GB1 u hg1 hu=>?_);exact ml u hu J J
def O7{ai al ar:Addr}(hE:ew GB ai al ar){ds:List DV}(hn:256<ds.length)(hm:ds.length<=1000000): ∃s,PE GB prog 48 [.sl ds] (jj al s) (fun u=> .tp [.sl [],jG u]):=by
 obtain⟨s,hF⟩:=Q4 hE hn hm;refine⟨s,?_⟩;refine l4 (fu:=⟨9⟩) func48 J J ntmps48 J J (fun C=>?_);refine cE J hF (fun _=>J) (fun GB1 u hg1 hu=>?_);exact ml u hu J J
def MZ{ai al ar:Addr}(hE:ew GB ai al ar){xs:List (List WP)}(hn:xs.length<=100){j:Nat}{r:List WP}(hj:xs[j]? =some r)(hg: ∀k q,k<j->xs[k]? =some q->eG q)(hs: ∀q∈r,q.sm)(h9:r.length<=9){a:Addr}(hb:og ai ar r a){x:aa}: ∃s,PE GB prog 18 [.sl (xs.map b7),dy x] (jj a s) (fun u=> .tp [vB false,jG u]):=by
 obtain⟨s,hF⟩:=Aj hE hn hj hg hs h9 hb;refine⟨s,?_⟩;refine l4 (fu:=⟨10⟩) func18 J J ntmps18 J J (fun C=>?_);refine cE J hF (fun _=>J) (fun GB1 u hg1 hu=>?_);exact ml u hu J J
def Qx{ai al ar:Addr}(hE:ew GB ai al ar){xs:List (List WP)}(hn:xs.length<=100){j:Nat}{r:List WP}(hj:xs[j]? =some r)(hg: ∀k q,k<j->xs[k]? =some q->eG q)(hs: ∀q∈r,q.sm)(h9:r.length<=9){a:Addr}(hb:og ai ar r a): ∃s,PE GB prog 21 [.sl (xs.map b7)] (jj a s) (fun u=> .tp [.sl [],jG u]):=by
 obtain⟨s,hF⟩:=Aj hE hn hj hg hs h9 hb;refine⟨s,?_⟩;refine l4 (fu:=⟨9⟩) func21 J J ntmps21 J J (fun C=>?_);refine cE J hF (fun _=>J) (fun GB1 u hg1 hu=>?_);exact ml u hu J J
def HQ{ai al ar:Addr}(hE:ew GB ai al ar){ds:List DV}(hn:256<ds.length)(hm:ds.length<=1000000): ∃s,PE GB prog 21 [.sl ds] (jj al s) (fun u=> .tp [.sl [],jG u]):=by
 obtain⟨s,hF⟩:=O7 hE hn hm;refine⟨s,?_⟩;refine l4 (fu:=⟨9⟩) func21 J J ntmps21 J J (fun C=>?_);refine cE J hF (fun _=>J) (fun GB1 u hg1 hu=>?_);exact ml u hu J J
def PY{ai al ar:Addr}(hE:ew GB ai al ar){xs:List (List WP)}(hn:xs.length<=100){j:Nat}{r:List WP}(hj:xs[j]? =some r)(hg: ∀k q,k<j->xs[k]? =some q->eG q)(hs: ∀q∈r,q.sm)(h9:r.length<=9){a:Addr}(hb:og ai ar r a){fill:Int}{x:aa}: ∃s,PE GB prog 22 [.sl (xs.map b7),vI fill,dy x] (jj a s) (fun u=> .tp [vI 0,jG u]):=by
 obtain⟨s,hF⟩:=Aj hE hn hj hg hs h9 hb;refine⟨s,?_⟩;refine l4 (fu:=⟨11⟩) func22 J J ntmps22 J J (fun C=>?_);refine cE J hF (fun _=>J) (fun GB1 u hg1 hu=>?_);exact ml u hu J J
def QJ{xs:List (List WP)}(h: ∀r∈xs,eG r)(hn:xs.length<=100){x:aa}{i:Nat}[hp:aq x i](hi:i<=100000:=by decide):PF GB prog 18 [.sl (xs.map b7),dy x] (.tp [vB ((il xs).any fun f=>fC f x), .v .nilIface]):=by
 have hel:=yI fun r hr=>(h r hr).n9;refine fn func18 J J ntmps18 J J (fun C=>?_);refine cl (fu:=⟨10⟩) J (CN h hn) J<|ic J J J<|cl J (nG (p:=x) (i:=i) (by omega)) J<|cl J (Jp (E:=il xs) (Iv h) (by omega) (p:=x) (i:=i) hi) J<|rz J J
def SH{ai al ar:Addr}(hE:ew GB ai al ar){xs:List (List WP)}(h: ∀r∈xs,eG r)(hn:xs.length<=100){x:aa}:PF GB prog 22 [.sl (xs.map b7),vI 0,dy x] (.tp [vI 0,j' ai]):=by
 refine fn func22 J J ntmps22 J J (fun C=>?_);refine cl (fu:=⟨13⟩) J (CN h hn) J<|dq J J J<|cs 23 J J J (fun hg23=>?_) (fun hg23=>?_)
 .
  refine br J J J (fun hc20=>?_) (fun hc20=>?_)
  .
   refine gl J hE.ErrInvalid J<|rz J J
  .
   exact absurd (by decide) hc20
 .
  exact absurd (by decide) hg23
def VM{xs:List (List WP)}(h: ∀r∈xs,eG r)(hn:xs.length<=100):PF GB prog 21 [.sl (xs.map b7)] (.tp [.sl ((lH (gp (il xs))).map eL), .v .nilIface]):=by
 have hel:=yI fun r hr=>(h r hr).n9;obtain⟨E,hE⟩: ∃E,E=il xs:=⟨_,rfl⟩;have hlb: ∀f∈E,LB f.l:=fun f hf=>by rw[hE] at hf;exact(Iv h f hf).lb
 have hEl:E.length<=1200:=by rw[hE];omega
 have hml:(E.map bF).length=E.length:=aZ ..;obtain⟨ls,hls⟩: ∃ls,ls=lA (ey cF ((gp E).map ab.canon)):=⟨_,rfl⟩;have hsl:(ey cF ((gp E).map ab.canon)).length=E.length:=by rw[(pk cF _).length_eq];simp[gp]
 have hll:ls.length<=E.length:=by rw[hls,<-hsl];exact W1 _
 have hls2:ls=lH (gp (il xs)):=by rw[hls,MB,hE]
 have hsb: ∀l∈ey cF ((gp E).map ab.canon),LB l:=fun l hl=>Ln hlb E.length l (by rw[bT];exact(pk cF _).mem_iff.1 hl);have hlsb: ∀l∈ls,LB l:=fun l hl=>by rw[hls2] at hl;obtain⟨m,hm,rfl⟩:=LD hl;obtain⟨f,hf,rfl⟩:=bV.1 hm;exact DN (hlb f (by rw[hE];exact hf))
 have hmL:(ls.map cA).length=ls.length:=aZ ..;refine fn func21 J J ntmps21 J J (fun C=>?_);refine cl (fu:=⟨0⟩) J (CN h hn) J<|ah 16 (.d (.tp [.sl (E.map bF), .v .nilIface])) J (by rw[hE])<|gx (fu:=⟨27⟩) J<|ah 23 (.d (vI (E.length:Nat))) J (by rw[hml]<;>rfl)<|gx J<|nr 6 6 135 9 J J J<|lp (X:=Nat) (fun k=>[(24, .d (vI (k:Nat))),(6, .rw 6)]) (fun k=>[(6,some (.b 135 9 (((gp (E.take k)).map ab.canon).map cA) true))]) (fun k=>k<=E.length) (fun k=>E.length-k) 0 J (bJ _) (fun _=>J) (fun k hk=>?_);have hm3:(gp (E.take k)).length<=k:=by unfold gp;rw[aZ,aS];omega
 refine br J J J (fun hc25=>?_) (fun hc25=>?_)
 .
  obtain⟨f,hx⟩: ∃u,E[k]? =some u:=⟨_,aQ (by omega)⟩;haveI:=hlb f (aW hx);refine ix _ J (b8 hx) J<|cl J (Uy (l:=f.l)) J<|rf J J<|ap (((gp (E.take (k+1))).map ab.canon).map cA) J (by rw[LU hx,cK]<;>rfl) (MP [f.l.canon]) J<|d4 37 6 J<|at_ (k+1) ⟨(by omega),(by omega)⟩
 .
  obtain rfl:k=E.length:=by omega
  rw[bT];refine cw _ J (WX (ds:=(gp E).map ab.canon) (fun l hl=>Ln hlb E.length l (by rw[bT];exact hl)) (by simp[gp];omega)) J J<|cq (fu:=⟨1⟩) (ls.map cA) J (O4 (l:=ey cF ((gp E).map ab.canon)) hsb (by omega)) (by rw[hls]) J<|ah 43 (.d (vI (ls.length:Nat))) J (by rw[hmL]<;>rfl)<|gx J<|nr 11 11 79 6 J J J<|lp (X:=Nat) (fun k=>[(44, .d (vI (k:Nat))),(11, .rw 11)]) (fun k=>[(11,some (.b 79 6 ((ls.take k).map eL) true))]) (fun k=>k<=ls.length) (fun k=>ls.length-k) 0 J (bJ _) (fun _=>J) (fun k hk=>?_);refine br J J J (fun hc45=>?_) (fun hc45=>?_)
  .
   obtain⟨l,hx⟩: ∃u,ls[k]? =some u:=⟨_,aQ (by omega)⟩;haveI:=hlsb l (aW hx);refine lb _ J (b8 hx) J<|cl J (QA (l:=l)) J<|rf J J<|ap ((ls.take (k+1)).map eL) J (by rw[PP hx]<;>rfl) (O3 [l]) J<|d4 52 11 J<|at_ (k+1) ⟨(by omega),(by omega)⟩
  .
   obtain rfl:k=ls.length:=by omega
   rw[bT];refine gO 11 J<|rz J (by rw[hls2]<;>rfl)
def J4{a b:Rat}:bG a b<0↔a<b:=by
 unfold bG;repeat' split
 all_goals grind
def Cn{a b:Rat}:bG a b=0↔a=b:=by
 unfold bG;repeat' split
 all_goals grind
def KL{p q:aa}:cb p q<0↔p.x<q.x\/(p.x=q.x/\p.y<q.y):=by
 unfold cb;have h1:=J4 (a:=p.x) (b:=q.x);have h2:=Cn (a:=p.x) (b:=q.x);have h3:=J4 (a:=p.y) (b:=q.y);split<;>grind
def AG{p q:aa}:cb p q=0↔p=q:=by
 unfold cb;have h2:=Cn (a:=p.x) (b:=q.x);have h4:=Cn (a:=p.y) (b:=q.y)
 cases p;cases q
 simp only[aa.mk.injEq] at*;split<;>grind
def y8{α:Type}{c:α->α->Int}(h0: ∀a b,c a b=0->a=b){x y:α}: ∀{xs:List α},(y=x\/y∈xs)->y∈de c x xs
 |[],h=>by
  rcases h with rfl|h
  .unfold de;exact aL.2 J
  .cases h
 |u::t,h=>by
  have ih:=fun k=>y8 h0 (x:=x) (y:=y) (xs:=t) k;unfold de;split
  .rcases h with h|h
   .exact aK _ (ih (.inl h))
   .rcases aR.1 h with h|h
    .exact h▸aX
    .exact aK _ (ih (.inr h))
  .split
   .rename_i k
    rcases h with h|h
    .rw[h,<-h0 _ _ k];exact aX
    .exact h
   .rcases h with h|h
    .rw[h];exact aX
    .exact aK _ h
def HO{α:Type}{c:α->α->Int}(h0: ∀a b,c a b=0->a=b){y:α}: ∀{l o:List α},(y∈l\/y∈o)->y∈l.foldl (fun out x=>de c x out) o
 |[],o,h=>h.resolve_left (fun h=>by cases h)
 |x::t,o,h=>by
  rw[gM];refine HO h0 ?_;rcases h with h|h
  .rcases aR.1 h with h|h
   .exact .inr (y8 h0 (.inl h))
   .exact .inl h
  .exact .inr (y8 h0 (.inr h))
def Xf{α:Type}{F:List α}{a b c:α}(ha:a∈F)(hb:b∈F)(hc:c∈F)(h1:a≠b)(h2:a≠c)(h3:b≠c):3<=F.length:=by
 obtain⟨i,hi,ei⟩:=qJ.1 ha;obtain⟨j,hj,ej⟩:=qJ.1 hb;obtain⟨k,hk,ek⟩:=qJ.1 hc;have n1:i≠j:=fun e=>h1 (by subst e;rw[<-ei,<-ej]);have n2:i≠k:=fun e=>h2 (by subst e;rw[<-ei,<-ek]);have n3:j≠k:=fun e=>h3 (by subst e;rw[<-ej,<-ek]);omega
def JR(v:List aa):3<=(dP cb v).length↔3<=cB v v.length:=by
 constructor
 .intro h
  have hs:(dP cb v).Pairwise (fun a b=>cb a b<0):=yU (o:=[])
   (fun u v w h1 h2=>by rw[KL] at*;grind)
   (fun u v h1 h2=>by
    rw[KL] at*;have h2:=mt AG.2 h2
    cases u;cases v
    simp only[aa.mk.injEq] at h2;grind) List.Pairwise.nil
  have hm: ∀y∈dP cb v,y∈v:=fun y hy=>(tf cb hy).resolve_right (fun h=>by cases h)
  match hl:dP cb v,h with
  |a::b::c::t,_=>
   rw[hl] at hs hm;have ne: ∀{p q:aa},cb p q<0->p≠q:=fun{p q} k e=>by have:=AG.2 e;omega
   have p1:=(bZ.1 hs).1;have p2:=(bZ.1 (bZ.1 hs).2).1;exact J9 (hm a (by simp)) (hm b (by simp)) (hm c (by simp)) (ne (p1 b (by simp))) (ne (p1 c (by simp))) (ne (p2 c (by simp)))
 .intro h
  rw[CS] at h;generalize hF:(List.range v.length).filter (fun k=>decide (gt v (v.getD k ⟨0,0⟩)=((k:Nat):Int)))=F at h;have hn:F.Nodup:=hF▸List.Pairwise.filter _ List.nodup_range;have hm: ∀k∈F,k<v.length/\gt v (v.getD k ⟨0,0⟩)=((k:Nat):Int):=fun k hk=>by
   rw[<-hF] at hk;obtain⟨h1,h2⟩:=List.mem_filter.1 hk;exact⟨pQ.1 h1,of_decide_eq_true h2⟩
  match F,h,hn,hm with
  |i::j::k::t,_,hn,hm=>
   have n1:=(List.nodup_cons.1 hn).1;have n2:=(List.nodup_cons.1 (List.nodup_cons.1 hn).2).1;obtain⟨i1,i2⟩:=hm i (by simp);obtain⟨j1,j2⟩:=hm j (by simp);obtain⟨k1,k2⟩:=hm k (by simp);have mem: ∀{m:Nat},m<v.length->v.getD m ⟨0,0⟩∈dP cb v:=fun{m} hm=>HO (fun a b=>AG.1) (.inl (by
    rw[aJ,aQ hm];exact iL hm))
   refine Xf (mem i1) (mem j1) (mem k1) (fun e=>?_) (fun e=>?_) (fun e=>?_)
   .rw[e,j2] at i2;exact n1 (by rw[show j=i by exact_mod_cast i2];simp)
   .rw[e,k2] at i2;exact n1 (by rw[show k=i by exact_mod_cast i2];simp)
   .rw[e,k2] at j2;exact n2 (by rw[show k=j by exact_mod_cast j2];simp)
section
variable {GB:Gh} {C:az} {n:Nat} {Q0:Exit->Act->World->Prop} {fr fr':ao} {own own':aA} {cf cf':Cf} {vc:List Prop} {ops:Array Oper} {r:List Oper} {K:List Kt}
def az.mkD(C:az)(f:FuncId)(c2:List Value):az:={C with mks:=[{target:= .fn (.func f) ⟨c2⟩,args:= #[]}]}
def Z6(P:Program)(fb:Func)(R:Ending->World->Prop):Exit->Act->World->Prop:=bodyPostDIn (FW none) 0 P fb R
def aGY(P:Program)(f:FuncId):Prop:= ∀p q w,CallsDIn (FW none) 0 P f #[p,q] .returning w fun e u' w'=>e= .returned (.tuple #[])/\u'= .returning/\w'=w
def YP(fr:ao)(own:aA)(cf:Cf):Option (TypeId×FX):=match bE fr cf with
 |some ⟨_, .load t x,_,_,_,_⟩=>match aB (aP fr cf) x with
  |some (.ov nm off)=>match dO fr own cf nm with
   |some (.o _ cs _)=>match cs[off]? with
    |some f=>some (t,f)
    |none=>none
   |_=>none
  |_=>none
 |_=>none
end
section
variable {GB:Gh} {ai al ae:Addr} (hE:EG GB ai al ae) {j k:Nat} {a b:Tr} (ha:B7 j a) (hb:B7 k b)
include hE ha
include hb
end
section
variable {GB:Gh} {ai al ae:Addr} (hE:EG GB ai al ae)
include hE
end
def ptZ:DV:= .ag [vI 0,vI 0, .v (.pointer none),vI 0,vI 0, .v (.pointer none)]
def ZV:DV:= .ag [.v (.bool false), .sl [], .sl [], .v (.bool false), .sl [], .sl []]
def FK(d:Rat):Prop:=True
def YA(l:List aE)(m:ab):List aE:=l.flatMap fun g=>Ae g m


def XS(rs:List (List ZP))(fill:Int)(L:List ab)(p:aa)(vs:List aa):Bool:=vs.any fun v=>ub rs fill (Cm L p v)
def XH(rs:List (List ZP))(fill:Int)(L:List ab)(p:aa)(vs:List aa):Bool:=vs.all fun v=>ub rs fill (Cm L p v)
section
variable {GB:Gh} {C:az} {n:Nat} {Q0:Exit->Act->World->Prop} {fr fr' fr1 fr2:ao} {own own' own1 own2:aA} {cf cf' cf1 cf2:Cf} {vc vc1 vc2:List Prop}
def aGh(fr:ao)(cf:Cf):Option Int:=match bE fr cf with
 |some ⟨_, .binOp .and _ x (.const (.int .i64 1)) _,_,_,_,_⟩=>match aB (aP fr cf) x with
  |some (.d (.v (.int .i64 p)))=>some p
  |_=>none
 |_=>none
end
structure Y6 (GB:Gh) (ai:Addr):Prop where
 ErrInvalid:GB 0=some [.iface 364 (.pointer (some ai))]
def K0{b:Nat}{es:List Int}(hes:es.length<=400){rs:List (List ZP)}{a':Nat}(hr:rs=(jf es 3 0).1)(ha:a'=(jf es 3 0).2):PM GB prog 10 (fE [none,some (vI 3)] b) b 85 [.sl (es.map vI), .v (.int .i64 (0:Nat))] (.sl (rs.map ku)) [.sl (es.map vI), .v (.int .i64 (a':Nat))]:=by
 subst hr ha;exact PS hes (bJ _) (md:=3) (by decide)
def v7{b:Nat}{es:List Int}(hes:es.length<=400){a:Nat}(ha:a<=es.length){p:aa}{a':Nat}(hp:p=(gE es a).1)(h':a'=(gE es a).2):PM GB prog 20 (fE [none] b) b 85 [.sl (es.map vI), .v (.int .i64 (a:Nat))] (eP p) [.sl (es.map vI), .v (.int .i64 (a':Nat))]:=by
 subst hp h';exact LO hes ha
def XK(rs:List (List ZP))(p:aa):Int:=rs.foldl (fun n r=>n+xk r p) 0




def zLn:DV:= .ag [vI 0,vI 0, .v (.pointer none),vI 0,vI 0, .v (.pointer none),vI 0,vI 0, .v (.pointer none)]
def HF{p q:aa}{i j:Nat}[hp:aq p i][hq:aq q j](hi:i<=20000:=by decide)(hj:j<=20000:=by decide):PF GB prog 39 [eP p,eP q] (.v (.bool (decide (p.x=q.x/\p.y=q.y)))):=by
 refine fn func39 J J ntmps39 J J (fun C=>?_);refine cl J (so (a:=p.x) (b:=q.x) (i:=i) (j:=j) (by omega) (by omega)) J<|cs 11 J J J (fun hg11=>?_) (fun hg11=>?_)
 .
  refine cl J (so (a:=p.y) (b:=q.y) (i:=i) (j:=j) (by omega) (by omega)) J<|rz J (by rw[ll] at hg11;exact congrArg (fun z=>DV.v (.bool z)) (decide_eq_decide.2 (by rw[ll];simp[hg11])))
 .
  exact rz J (by rw[ll] at hg11;show DV.v (.bool false)=DV.v (.bool _);rw[decide_eq_false (fun h=>hg11 h.1)])
def OA{a b:List Nat}(hl:a.length=b.length)(h: ∀j,j<a.length->a.getD j 0=b.getD j 0):a=b:=by
 apply List.ext_getElem hl;intro i h1 h2;have:=h i h1;rw[aJ,aJ,aQ h1,aQ h2] at this;exact this
def Ek{a b:List Nat}(ha:a.length<=1000000):PF GB prog 193 [bg a,bg b] (vB (decide (a=b))):=by
 have hla:=bv a;have hlb:=bv b;refine fn func193 J J ntmps193 J J (fun C=>?_);refine br (fu2:=⟨7⟩) J J J (fun hc10=>?_) (fun hc10=>?_)
 .
  exact rz J (by rw[decide_eq_false (fun e:a=b=>hc10 (by rw[e]))];rfl)
 .
  refine ah 12 (.d (vI (a.length:Nat))) J (by rw[hla];rfl)<|gx J<|lp (X:=Nat) (fun i=>[(13, .d (vI (i:Nat))),(12, .d (vI (a.length:Nat))),(0, .d (bg a)),(1, .d (bg b))]) (fun i=>[]) (fun i=>i<=a.length/\ ∀j,j<i->a.getD j 0=b.getD j 0) (fun i=>a.length-i) 0 J ⟨bJ _,fun j hj=>absurd hj (by omega)⟩ (fun _=>J) (fun i hk=>?_);obtain⟨h1,h2⟩:=hk;refine br J J J (fun hc14=>?_) (fun hc14=>?_)
  .
   refine ix _ J (dm) J<|ix _ J (dm) J<|br J J J (fun hc24=>?_) (fun hc24=>?_)
   .
    exact rz J (by rw[decide_eq_false (fun e:a=b=>hc24 (by rw[e]))];rfl)
   .
    exact at_ (i+1) ⟨⟨by omega,fun j hj=>by by_cases q:j=i;(subst q;omega);exact h2 j (by omega)⟩,(by omega)⟩
  .
   exact rz J (by rw[decide_eq_true (OA (by omega) (fun j hj=>h2 j (by omega)))];rfl)
def Ww{n m:Bool}{a b:List Nat}(ha:a.length<=1000000):PF GB prog 192 [.ag [.v (.bool n),bg a], .ag [.v (.bool m),bg b]] (vB (decide (n=m/\a=b))):=by
 refine fn (fu:=⟨14⟩) func192 J J ntmps192 J J (fun C=>?_);refine ah 9 (.d (.v (.bool (decide (n=m))))) J (by congr 2<;>cases n<;>cases m<;>rfl)<|gx J<|csd 10 J J J (fun hg10=>?_) (fun hg10=>?_)
 .
  refine cl J (Ek (a:=a) (b:=b) ha) J<|rz J (by show DV.v (.bool _)= .v (.bool _);simp_all)
 .
  exact rz J (by show DV.v (.bool _)= .v (.bool _);simp_all)
def JX{r:WQ}{m:Bool}{a b:List Nat}(s:r.sm):PF GB prog 128 [.ag [.v (.bool r.n),bg r.d,bg r.e], .ag [.v (.bool m),bg a,bg b]] (vB (decide ((r.n=m/\r.d=a)/\r.e=b))):=by
 refine fn func128 J J ntmps128 J J (fun C=>?_);refine cl J (Ww (n:=r.n) (m:=m) (a:=r.d) (b:=a) (by have:=s.d.2;omega)) J<|csd 10 J J J (fun hg10=>?_) (fun hg10=>?_)
 .
  refine cl J (Ek (a:=r.e) (b:=b) (by have:=s.e.2;omega)) J<|rz J (by show DV.v (.bool _)= .v (.bool _);simp_all)
 .
  exact rz J (by show DV.v (.bool _)= .v (.bool _);simp_all)
theorem WQ.bq0{r:WQ}(s:r.sm):BQ r.q 22:=by
 unfold WQ.q;by_cases h:dv r.e=0
 .rw[h,Rat.mkRat_zero];exact⟨by decide,by decide⟩
 .exact pq (by omega) (by rw[i9];exact mh s.d) (mh s.e)
def RA(a:Nat):((dg a).map dU).length=0↔a=0:=by rw[aZ];exact lf
def WQ.nm_iff{r:WQ}(s:r.sm):(((r.n=decide (r.q.num<0)/\r.d=dg r.q.num.natAbs)/\r.e=dg r.q.den)/\0<r.e.length)↔r.nm:=by
 constructor
 .rintro ⟨⟨⟨h1,h2⟩,h3⟩,h4⟩
  have e1:dv r.d=r.q.num.natAbs:=by rw[h2,cd]
  have e2:dv r.e=r.q.den:=by rw[h3,cd]
  refine⟨⟨by rw[h2];exact(dE _).2.2,fun k=>?_⟩,by rw[h3];exact(dE _).2.2,h4,by rw[e1,e2];exact r.q.reduced⟩;rw[k] at h1;have h5:=of_decide_eq_true h1.symm;rw[h2];refine dM fun e=>?_;have:=lf.1 e;omega
 .intro h
  obtain⟨h1,h2⟩:=WQ.nd s h;have hz:decide (zv r.n (dv r.d)<0)=r.n:=J7 fun k=>xN s.d.1 h.1.1 (h.1.2 k);rw[h1,h2,i9,hz,pD s.d.1 h.1.1,pD s.e.1 h.2.1];exact⟨⟨⟨J,J⟩,J⟩,h.2.2.1⟩
def Sn{r:WQ}(s:r.sm)(h:dv r.e=0):PF GB prog 129 [.ag [.v (.bool r.n),bg r.d,bg r.e]] (eQ r.q):=by
 refine fn func129 J J ntmps129 J J (fun C=>?_);refine cl (fu:=⟨8⟩) J (yW s.e.1 (by have:=s.e.2;omega)) J<|ic J (by show some (decide _)=some true;rw[decide_eq_true (by rw[(RA _).2 h];rfl)]) J<|rz J (by unfold WQ.q;rw[h,Rat.mkRat_zero,Xa];rfl)
def UY{r:WQ}(s:r.sm)(h:0<dv r.e):PF GB prog 129 [.ag [.v (.bool r.n),bg r.d,bg r.e]] (eQ r.q):=by
 haveI:BI (lO r.n r.d) 22:=⟨by rw[M'];exact mh s.d⟩;haveI:BN (dv r.e) 22:=⟨mh s.e⟩;refine fn func129 J J ntmps129 J J (fun C=>?_);refine cl (fu:=⟨8⟩) J (yW s.e.1 (by have:=s.e.2;omega)) J<|dq J (by show some (decide _)=some false;rw[decide_eq_false (Ei h)]) J<|cl J (F6 (neg:=r.n) s.d.1 (by have:=s.d.2;omega)) J<|cl J (rO (x:=lO r.n r.d) (d:=dv r.e) (i:=22) (j:=22) h) J<|rz J J
def If{r:WQ}(s:r.sm):PF GB prog 129 [.ag [.v (.bool r.n),bg r.d,bg r.e]] (eQ r.q):=by
 by_cases h:dv r.e=0
 .exact Sn s h
 .exact UY s (by omega)
def V0{r:WQ}(s:r.sm)(h:((r.n=decide (r.q.num<0)/\r.d=dg r.q.num.natAbs)/\r.e=dg r.q.den)):PF GB prog 76 [.ag [.v (.bool r.n),bg r.d,bg r.e]] (vB (decide (0<r.e.length))):=by
 haveI:=WQ.bq0 s;have hml:(r.e.map dU).length=r.e.length:=aZ ..;refine fn func76 J J ntmps76 J J (fun C=>?_);refine cl J (If s) J<|cl J (xh (q:=r.q) (i:=22)) J<|cl (fu:=⟨0⟩) J (JX (r:=r) (m:=decide (r.q.num<0)) (a:=dg r.q.num.natAbs) (b:=dg r.q.den) s) J<|ic J (by show some (decide _)=some true;rw[decide_eq_true h]) J<|rz J (by show DV.v (.bool (decide _))= .v (.bool (decide _));congr 2;rw[decide_eq_decide];omega)
def Wv{r:WQ}(s:r.sm)(h: ¬((r.n=decide (r.q.num<0)/\r.d=dg r.q.num.natAbs)/\r.e=dg r.q.den)):PF GB prog 76 [.ag [.v (.bool r.n),bg r.d,bg r.e]] (.v (.bool false)):=by
 haveI:=WQ.bq0 s;have hml:(r.e.map dU).length=r.e.length:=aZ ..;refine fn func76 J J ntmps76 J J (fun C=>?_);refine cl J (If s) J<|cl J (xh (q:=r.q) (i:=22)) J<|cl (fu:=⟨0⟩) J (JX (r:=r) (m:=decide (r.q.num<0)) (a:=dg r.q.num.natAbs) (b:=dg r.q.den) s) J<|dq J (by show some (decide _)=some false;rw[decide_eq_false h]) J<|rz J J
def Kq{r:WQ}(s:r.sm):PF GB prog 76 [.ag [.v (.bool r.n),bg r.d,bg r.e]] (vB (decide r.nm)):=by
 have hi:=WQ.nm_iff s;by_cases h:((r.n=decide (r.q.num<0)/\r.d=dg r.q.num.natAbs)/\r.e=dg r.q.den)
 .rw[show decide r.nm=decide (0<r.e.length) from decide_eq_decide.2 ⟨fun k=>(hi.2 k).2,fun k=>hi.1 ⟨h,k⟩⟩];exact V0 s h
 .rw[show decide r.nm=false from decide_eq_false fun k=>h (hi.2 k).1];exact Wv s h
def B6{r:List WP}(s: ∀q∈r,q.sm)(h9:r.length<=100){v:List aa}(hv:v=b6 r)(hn: ∀q∈r,q.nm):PF GB prog 37 [b7 r] (.sl (v.map eP)):=by
 have h1:=pP r;rw[sY s hn,hv];exact Nd (fun p hp=>(pH s hn p hp).mono' (by decide)) (by omega)
def w7{r:WP}(s:r.sm):PF GB prog 36 [r.D] (vB (decide r.nm)):=by
 refine fn func36 J J ntmps36 J J (fun C=>?_);refine cl J (Kq (r:=r.x) s.x) J<|csd 6 J J J (fun hg6=>?_) (fun hg6=>?_)
 .
  refine cl J (Kq (r:=r.y) s.y) J<|rz J (by show DV.v (.bool _)= .v (.bool _);unfold WP.nm;simp_all)
 .
  exact rz J (by show DV.v (.bool _)= .v (.bool _);unfold WP.nm;simp_all)
def LW{r:List WP}(s: ∀q∈r,q.sm)(h9:r.length<=100){j:Nat}{b:WP}(hj:r[j]? =some b)(hb: ¬b.nm):PF GB prog 12 [b7 r] (vI 2):=by
 have hml:(r.map WP.D).length=r.length:=aZ ..;have hjl:=(aT.1 hj).1;refine fn (fu:=⟨10⟩) func12 J J ntmps12 J J (fun C=>?_);refine ah 8 (.d (vI (r.length:Nat))) J (by rw[hml]<;>rfl)<|gx (fu:=⟨0⟩) J<|dq (fu:=⟨10⟩) J (by show some (decide _)=some false;rw[decide_eq_false (by omega)]) J<|ah 11 (.d (vI (r.length:Nat))) J (by rw[hml]<;>rfl)<|gx J<|lp (X:=Nat) (fun k=>[(12, .d (vI (k:Nat)))]) (fun k=>[]) (fun k=>k<=j) (fun k=>r.length-k) 0 J (bJ _) (fun _=>J) (fun k hk=>?_);refine br J J J (fun hc13=>?_) (fun hc13=>?_)
 .
  obtain⟨q,hx⟩: ∃u,r[k]? =some u:=⟨_,aQ (by omega)⟩;have hqs:=s q (aW hx);refine ix _ J (b8 hx) J<|cl J (w7 (r:=q) hqs) J<|bb J J J (fun hc18=>?_) (fun hc18=>?_)
  .
   exact rz J J
  .
   exact at_ (k+1) ⟨(by rcases dR k j with h|h;omega;exact absurd (by simpa using hc18) (by obtain rfl:k=j:=(by omega);rw[hj] at hx;cases hx;exact hb)),(by omega)⟩
 .
  exact absurd hc13 (by omega)
def Ml{r:List WP}(s: ∀q∈r,q.sm)(h9:r.length<=100){v:List aa}(hv:v=b6 r)(hn: ∀q∈r,q.nm)(h3:(dP cb v).length<3):PF GB prog 12 [b7 r] (vI 3):=by
 have hml:(r.map WP.D).length=r.length:=aZ ..;have hb22: ∀p∈b6 r,aq p 22:=pH s hn;have hvl:v.length=r.length:=by rw[hv];exact pP r
 have hvb: ∀p∈v,aq p 1200:=fun p hp=>by rw[hv] at hp;exact(hb22 p hp).mono' (by decide)
 have hse:((dP cb v).map eP).length=(dP cb v).length:=aZ ..;have he:b7 r= .sl (v.map dy):=by rw[hv];exact sY s hn
 refine fn (fu:=⟨10⟩) func12 J J ntmps12 J J (fun C=>?_);refine ah 8 (.d (vI (r.length:Nat))) J (by rw[hml]<;>rfl)<|gx (fu:=⟨0⟩) J<|dq (fu:=⟨10⟩) J (by show some (decide _)=some false;rw[decide_eq_false (by omega)]) J<|ah 11 (.d (vI (r.length:Nat))) J (by rw[hml]<;>rfl)<|gx J<|lp (X:=Nat) (fun k=>[(12, .d (vI (k:Nat)))]) (fun k=>[]) (fun k=>k<=r.length) (fun k=>r.length-k) 0 J (bJ _) (fun _=>J) (fun k hk=>?_);refine br J J J (fun hc13=>?_) (fun hc13=>?_)
 .
  obtain⟨q,hx⟩: ∃u,r[k]? =some u:=⟨_,aQ (by omega)⟩;have hqs:=s q (aW hx);refine ix _ J (b8 hx) J<|cl J (w7 (r:=q) hqs) J<|bb J J J (fun hc18=>?_) (fun hc18=>?_)
  .
   exact absurd (hn q (aW hx)) (by simpa using hc18)
  .
   exact at_ (k+1) ⟨(by omega),(by omega)⟩
 .
  refine cl J (B6 s h9 hv hn) J<|cl (fu:=⟨1⟩) J (yy (ps:=v) hvb) J<|ah 24 (.d (vI ((dP cb v).length:Nat))) J (by rw[hse]<;>rfl)<|gx (fu:=⟨0⟩) J<|ic J (by show some (decide _)=some true;rw[decide_eq_true (by omega)]) J<|rz J J
def Oe{r:List WP}(s: ∀q∈r,q.sm)(h9:r.length<=100){v:List aa}(hv:v=b6 r)(hn: ∀q∈r,q.nm)(h3:3<=(dP cb v).length){j:Nat}(hj:j<v.length)(hb: ¬js (v.getD j PZ) (fB v j)):PF GB prog 12 [b7 r] (vI 3):=by
 have hml:(r.map WP.D).length=r.length:=aZ ..;have hb22: ∀p∈b6 r,aq p 22:=pH s hn;have hvl:v.length=r.length:=by rw[hv];exact pP r
 have hvb: ∀p∈v,aq p 1200:=fun p hp=>by rw[hv] at hp;exact(hb22 p hp).mono' (by decide)
 have hse:((dP cb v).map eP).length=(dP cb v).length:=aZ ..;have he:b7 r= .sl (v.map dy):=by rw[hv];exact sY s hn
 have hmv:(v.map eP).length=v.length:=aZ ..;refine fn (fu:=⟨10⟩) func12 J J ntmps12 J J (fun C=>?_);refine ah 8 (.d (vI (r.length:Nat))) J (by rw[hml]<;>rfl)<|gx (fu:=⟨0⟩) J<|dq (fu:=⟨10⟩) J (by show some (decide _)=some false;rw[decide_eq_false (by omega)]) J<|ah 11 (.d (vI (r.length:Nat))) J (by rw[hml]<;>rfl)<|gx J<|lp (X:=Nat) (fun k=>[(12, .d (vI (k:Nat)))]) (fun k=>[]) (fun k=>k<=r.length) (fun k=>r.length-k) 0 J (bJ _) (fun _=>J) (fun k hk=>?_);refine br J J J (fun hc13=>?_) (fun hc13=>?_)
 .
  obtain⟨q,hx⟩: ∃u,r[k]? =some u:=⟨_,aQ (by omega)⟩;have hqs:=s q (aW hx);refine ix _ J (b8 hx) J<|cl J (w7 (r:=q) hqs) J<|bb J J J (fun hc18=>?_) (fun hc18=>?_)
  .
   exact absurd (hn q (aW hx)) (by simpa using hc18)
  .
   exact at_ (k+1) ⟨(by omega),(by omega)⟩
 .
  refine cl J (B6 s h9 hv hn) J<|cl (fu:=⟨1⟩) J (yy (ps:=v) hvb) J<|ah 24 (.d (vI ((dP cb v).length:Nat))) J (by rw[hse]<;>rfl)<|gx (fu:=⟨0⟩) J<|dq (fu:=⟨10⟩) J (by show some (decide _)=some false;rw[decide_eq_false (by omega)]) J<|ah 27 (.d (vI (v.length:Nat))) J (by rw[hmv]<;>rfl)<|gx J<|lp (X:=Nat) (fun k=>[(28, .d (vI (k:Nat)))]) (fun k=>[]) (fun k=>k<=j) (fun k=>v.length-k) 0 J (bJ _) (fun _=>J) (fun k hk=>?_);refine br J J J (fun hc29=>?_) (fun hc29=>?_)
  .
   obtain⟨p,hpx⟩: ∃u,v[k]? =some u:=⟨_,aQ (by omega)⟩;obtain⟨q,hqx⟩: ∃u,v[(k+1)%v.length]? =some u:=⟨_,aQ (cJ _ (by omega))⟩;haveI:=hvb p (aW hpx);haveI:=hvb q (aW hqx);obtain⟨f1,f2⟩:=ue hpx hqx;refine ix (fu:=⟨7⟩) _ J (b8 hpx) J<|ah 40 (.d (vI (((k+1)%v.length:Nat):Int))) J (by rw[hmv]<;>rfl)<|gx J<|ix _ J (b8 hqx) J<|cl J (HF (p:=p) (q:=q) (i:=1200) (j:=1200)) J<|bd J J J (fun hc43=>?_) (fun hc43=>?_)
   .
    exact rz J J
   .
    exact at_ (k+1) ⟨(by rcases dR k j with h|h;omega;exact absurd hc43 (by obtain rfl:k=j:=(by omega);rw[f1,f2];exact fun e=>hb e)),(by omega)⟩
  .
   exact absurd hc29 (by omega)
def NH{r:List WP}(s: ∀q∈r,q.sm)(h9:r.length<=100){v:List aa}(hv:v=b6 r)(hn: ∀q∈r,q.nm)(h3:3<=(dP cb v).length)(hg: ∀j<v.length,js (v.getD j PZ) (fB v j)):PF GB prog 12 [b7 r] (vI 0):=by
 have hml:(r.map WP.D).length=r.length:=aZ ..;have hb22: ∀p∈b6 r,aq p 22:=pH s hn;have hvl:v.length=r.length:=by rw[hv];exact pP r
 have hvb: ∀p∈v,aq p 1200:=fun p hp=>by rw[hv] at hp;exact(hb22 p hp).mono' (by decide)
 have hse:((dP cb v).map eP).length=(dP cb v).length:=aZ ..;have he:b7 r= .sl (v.map dy):=by rw[hv];exact sY s hn
 have hmv:(v.map eP).length=v.length:=aZ ..;refine fn (fu:=⟨10⟩) func12 J J ntmps12 J J (fun C=>?_);refine ah 8 (.d (vI (r.length:Nat))) J (by rw[hml]<;>rfl)<|gx (fu:=⟨0⟩) J<|dq (fu:=⟨10⟩) J (by show some (decide _)=some false;rw[decide_eq_false (by omega)]) J<|ah 11 (.d (vI (r.length:Nat))) J (by rw[hml]<;>rfl)<|gx J<|lp (X:=Nat) (fun k=>[(12, .d (vI (k:Nat)))]) (fun k=>[]) (fun k=>k<=r.length) (fun k=>r.length-k) 0 J (bJ _) (fun _=>J) (fun k hk=>?_);refine br J J J (fun hc13=>?_) (fun hc13=>?_)
 .
  obtain⟨q,hx⟩: ∃u,r[k]? =some u:=⟨_,aQ (by omega)⟩;have hqs:=s q (aW hx);refine ix _ J (b8 hx) J<|cl J (w7 (r:=q) hqs) J<|bb J J J (fun hc18=>?_) (fun hc18=>?_)
  .
   exact absurd (hn q (aW hx)) (by simpa using hc18)
  .
   exact at_ (k+1) ⟨(by omega),(by omega)⟩
 .
  refine cl J (B6 s h9 hv hn) J<|cl (fu:=⟨1⟩) J (yy (ps:=v) hvb) J<|ah 24 (.d (vI ((dP cb v).length:Nat))) J (by rw[hse]<;>rfl)<|gx (fu:=⟨0⟩) J<|dq (fu:=⟨10⟩) J (by show some (decide _)=some false;rw[decide_eq_false (by omega)]) J<|ah 27 (.d (vI (v.length:Nat))) J (by rw[hmv]<;>rfl)<|gx J<|lp (X:=Nat) (fun k=>[(28, .d (vI (k:Nat)))]) (fun k=>[]) (fun k=>k<=v.length) (fun k=>v.length-k) 0 J (bJ _) (fun _=>J) (fun k hk=>?_);refine br J J J (fun hc29=>?_) (fun hc29=>?_)
  .
   obtain⟨p,hpx⟩: ∃u,v[k]? =some u:=⟨_,aQ (by omega)⟩;obtain⟨q,hqx⟩: ∃u,v[(k+1)%v.length]? =some u:=⟨_,aQ (cJ _ (by omega))⟩;haveI:=hvb p (aW hpx);haveI:=hvb q (aW hqx);obtain⟨f1,f2⟩:=ue hpx hqx;refine ix (fu:=⟨7⟩) _ J (b8 hpx) J<|ah 40 (.d (vI (((k+1)%v.length:Nat):Int))) J (by rw[hmv]<;>rfl)<|gx J<|ix _ J (b8 hqx) J<|cl J (HF (p:=p) (q:=q) (i:=1200) (j:=1200)) J<|bd J J J (fun hc43=>?_) (fun hc43=>?_)
   .
    exact absurd (by rw[f1,f2] at hc43;exact hc43) (hg k (by omega))
   .
    exact at_ (k+1) ⟨(by omega),(by omega)⟩
  .
   exact rz J J
def Un{ai al ar:Addr}(hE:ew GB ai al ar):PF GB prog 14 [vI 2] (j' ai):=by
 refine fn func14 J J ntmps14 J J (fun C=>?_);refine br J J J (fun hc4=>?_) (fun hc4=>?_)
 .
  exact absurd hc4 (by decide)
 .
  refine br J J J (fun hc7=>?_) (fun hc7=>?_)
  .
   refine gl J hE.ErrInvalid J<|rz J J
  .
   exact absurd J hc7
def Rj{ai al ar:Addr}(hE:ew GB ai al ar):PF GB prog 14 [vI 3] (j' ar):=by
 refine fn func14 J J ntmps14 J J (fun C=>?_);refine br J J J (fun hc4=>?_) (fun hc4=>?_)
 .
  exact absurd hc4 (by decide)
 .
  refine br J J J (fun hc7=>?_) (fun hc7=>?_)
  .
   exact absurd hc7 (by decide)
  .
   refine gl J hE.ErrRing J<|rz J J
section
variable {GB:Gh} {C:az} {n:Nat} {Q0:Exit->Act->World->Prop} {fr fr':ao} {own own':aA} {cf cf':Cf} {vc:List Prop}
def FC(fr:ao)(cf:Cf):Option ((IntKind×Int)×(IntKind×Int)):=match bE fr cf with
 |some ⟨_, .binOp .rem _ x y _,_,_,_,_⟩=>match aB (aP fr cf) x,aB (aP fr cf) y with
  |some (.d (.v (.int k p))),some (.d (.v (.int k' q)))=>some ((k,p),(k',q))
  |_,_=>none
 |_=>none
def Ge[fu:Fu]{kd:IntKind}{p q:Int}(h:FC fr cf=some ((kd,p),(kd,q)))(hq:q≠0)(hgo:bP tt n fu.n fr own cf (.d (.v (.int kd (p.tmod q)))) [] []=⟨vc,fr',own',cf'⟩)(k:ak prog GB C n Q0 fr' own' cf')
  (hv:autoParam (aj vc) Tb._auto_1):ak prog GB C n Q0 fr own cf:=by
 unfold FC at h;split at h<;>try (cases h;done)
 rename_i hh;split at h<;>cases h;rename_i h1 h2;exact us hh (.yd fun ρ G ov a w r=>by
  obtain⟨y1,h3,h4⟩:=r.ev h1;obtain⟨y2,h5,h6⟩:=r.ev h2;obtain rfl:=(aH (G:=G)).1 h4;obtain rfl:=(aH (G:=G)).1 h6;exact⟨_,(aH (G:=G)).2 J,B3 h3 h5 hq⟩) hgo hv k
def IP(fr:ao)(cf:Cf):Option (TypeId×TypeId×IntKind×Int):=match bE fr cf with
 |some ⟨_, .convert t t' x,_,_,_,_⟩=>match aB (aP fr cf) x with
  |some (.d (.v (.int k p)))=>some (t,t',k,p)
  |_=>none
 |_=>none
def F8[fu:Fu]{t t':TypeId}{kd:IntKind}{p:Int}(h:IP fr cf=some (t,t',kd,p))(h1:lG prog t kd)(h2:lG prog t' .i64)(h0:0<=p/\p<65536)(hgo:bP tt n fu.n fr own cf (.d (.v (.int .i64 p))) [] []=⟨vc,fr',own',cf'⟩)(k:ak prog GB C n Q0 fr' own' cf')
  (hv:autoParam (aj vc) Tb._auto_1):ak prog GB C n Q0 fr own cf:=by
 unfold IP at h;split at h<;>try (cases h;done)
 rename_i hh;split at h<;>cases h;rename_i hx;exact us hh (.yd fun ρ G ov a w r=>by
  obtain⟨y1,h3,h4⟩:=r.ev hx;obtain rfl:=(aH (G:=G)).1 h4;exact⟨_,(aH (G:=G)).2 J,Ix h3 (by simp only[IntKind.min,IntKind.max,IntKind.bits,IntKind.signed];simp;omega)⟩) hgo hv k
end
def CU{α:Type}{f:α->Bool}{l:List α}{k:Nat}{x:α}(hx:l[k]? =some x)(h:f x=false):l.all f=false:=by
 rw[List.all_eq_false];exact⟨x,aW hx,by simp[h]⟩
def GK{α:Type}{f:α->Bool}{l:List α}{k:Nat}{x:α}(hx:l[k]? =some x)(h:(l.take k).all f=true)(hq:f x=true):(l.take (k+1)).all f=true:=by
 rw[cX,hx,List.all_append,h];simp[hq]
def WQ.smB(n:Int)(r:WQ):Bool:=decide ((r.d.length:Int)<=n)&&decide ((r.e.length:Int)<=n)
def WP.smB(n:Int)(r:WP):Bool:=r.x.smB n&&r.y.smB n
def Jy(n:Int)(r:WP):r.smB n=[r.x,r.y].all (WQ.smB n):=by simp[WP.smB]
def Oy{b:Bool}(h:(!b)=true):b=false:=by cases b;rfl;cases h
def y5{b:Bool}(h:(!b)=false):b=true:=by cases b;cases h;rfl
def WQ.A(r:WQ):DV:= .ag [.v (.bool r.n),bg r.d,bg r.e]
structure WQ.wd (r:WQ):Prop where
 d:aO r.d
 e:aO r.e
structure WP.wd (r:WP):Prop where
 x:r.x.wd
 y:r.y.wd
def WQ.sm_of{r:WQ}(h:r.wd)(k:r.smB 4=true):r.sm:=by
 unfold WQ.smB at k;simp only[bQ,decide_eq_true_eq] at k;exact⟨⟨h.d,by omega⟩,⟨h.e,by omega⟩⟩
def WP.sm_of{r:WP}(h:r.wd)(k:r.smB 4=true):r.sm:=by
 unfold WP.smB at k;simp only[bQ] at k;exact⟨WQ.sm_of h.x k.1,WQ.sm_of h.y k.2⟩
def UQ{n:Int}{ls:List WQ}(hn:ls.length<=1000000):PF GB prog 23 [vI n, .sl (ls.map WQ.A)] (vB (ls.all (WQ.smB n))):=by
 have hm:(ls.map WQ.A).length=ls.length:=aZ ..;refine fn (fu:=⟨10⟩) func23 J J ntmps23 J J (fun C=>?_);refine ah 8 (.d (vI (ls.length:Nat))) J (by rw[hm]<;>rfl)<|gx J<|lp (X:=Nat) (fun k=>[(9, .d (vI (k:Nat)))]) (fun k=>[]) (fun k=>k<=ls.length/\(ls.take k).all (WQ.smB n)=true) (fun k=>ls.length-k) 0 J ⟨bJ _,J⟩ (fun _=>J) (fun k hk=>?_);obtain⟨h1,h2⟩:=hk;refine br J J J (fun hc10=>?_) (fun hc10=>?_)
 .
  obtain⟨r,hx⟩: ∃s,ls[k]? =some s:=⟨_,aQ (by omega)⟩;have hmd:=bv r.d;have hme:=bv r.e;refine ix (fu:=⟨11⟩) _ J (b8 hx) J<|ah 16 (.d (vI (r.d.length:Nat))) J (by rw[hmd]<;>rfl)<|gx J<|cs (fu2:=⟨3⟩) 19 J J J (fun hg19=>?_) (fun hg19=>?_)
  .
   exact rz J (by rw[CU hx (by unfold WQ.smB;rw[decide_eq_false (by omega)];rfl)];rfl)
  .
   refine ah 22 (.d (vI (r.e.length:Nat))) J (by rw[hme]<;>rfl)<|gx J<|br J J J (fun hc25=>?_) (fun hc25=>?_)
   .
    exact rz J (by rw[CU hx (by unfold WQ.smB;rw[decide_eq_false (p:=(r.e.length:Int)<=n) (by omega),Bool.and_false])];rfl)
   .
    exact at_ (k+1) ⟨⟨by omega,GK hx h2 (by unfold WQ.smB;rw[decide_eq_true (by omega),decide_eq_true (by omega)];rfl)⟩,(by omega)⟩
 .
  obtain rfl:k=ls.length:=by omega
  rw[bT] at h2;exact rz J (by rw[h2];rfl)
def H0{n:Int}{ls:List WP}(hn:ls.length<=1000000:=by omega):PF GB prog 5 [vI n, .sl (ls.map WP.D)] (vB (ls.all (WP.smB n))):=by
 have hm:(ls.map WP.D).length=ls.length:=aZ ..;refine fn (fu:=⟨10⟩) func5 J J ntmps5 J J (fun C=>?_);refine ah 8 (.d (vI (ls.length:Nat))) J (by rw[hm]<;>rfl)<|gx J<|lp (X:=Nat) (fun k=>[(9, .d (vI (k:Nat)))]) (fun k=>[]) (fun k=>k<=ls.length/\(ls.take k).all (WP.smB n)=true) (fun k=>ls.length-k) 0 J ⟨bJ _,J⟩ (fun _=>J) (fun k hk=>?_);obtain⟨h1,h2⟩:=hk;refine br J J J (fun hc10=>?_) (fun hc10=>?_)
 .
  obtain⟨r,hx⟩: ∃s,ls[k]? =some s:=⟨_,aQ (by omega)⟩;refine ix _ J (b8 hx) J<|rf J J<|cl J (UQ (n:=n) (ls:=[r.x,r.y]) (show 2<=1000000 by decide)) J<|bb J J J (fun hc20=>?_) (fun hc20=>?_)
  .
   exact rz J (by rw[CU hx (by rw[Jy];exact Oy hc20)];rfl)
  .
   exact at_ (k+1) ⟨⟨by omega,GK hx h2 (by rw[Jy];exact y5 hc20)⟩,(by omega)⟩
 .
  obtain rfl:k=ls.length:=by omega
  rw[bT] at h2;exact rz J (by rw[h2];rfl)
def WQ.of(q:Rat):WQ:=⟨decide (q.num<0),dg q.num.natAbs,dg q.den⟩
def WP.of(p:aa):WP:=⟨WQ.of p.x,WQ.of p.y⟩
def WQ.of_q(q:Rat):(WQ.of q).q=q:=by
 unfold WQ.q WQ.of;dsimp only;rw[cd,cd,im,nK]
def WQ.of_nm(q:Rat):(WQ.of q).nm:=by
 have hd:=q.den_pos;refine⟨⟨(dE _).2.2,fun h=>?_⟩,(dE _).2.2,?_,?_⟩
 .have:=of_decide_eq_true h
  exact dM fun e=>by have:=lf.1 e;omega
 .exact dM fun e=>by have:=lf.1 e;omega
 .unfold WQ.of;dsimp only;rw[cd,cd];exact q.reduced
def WQ.of_sm{q:Rat}(h1:q.num.natAbs<2^62)(h2:q.den<2^62):(WQ.of q).sm:=by
 have k1:=gP h1;have k2:=gP h2;exact⟨⟨(dE _).2.1,by show(dg _).length<=4;omega⟩,⟨(dE _).2.1,by show(dg _).length<=4;omega⟩⟩
def I0{z:Int}(h:z.natAbs<=1000):(WQ.of (z:Rat)).sm:=WQ.of_sm (by rw[mS];exact fV h (by decide)) (by rw[mL];decide)
def nB(r:List ZP):List WP:=r.map fun z=>WP.of z.q
def Sl(r:List ZP):b7 (nB r)=iu r:=by
 unfold b7 nB iu;rw[mT,mT];rfl
def DH(r:List ZP):b6 (nB r)=r.map ZP.q:=by
 unfold b6 nB;rw[mT];exact qM fun z _=>by
  show WP.p (WP.of z.q)=z.q;unfold WP.p WP.of;rw[WQ.of_q,WQ.of_q]
def IM{r:List ZP}(h:f9 r):eG (nB r):=by
 have hn:=h.ok.n6;have hl:(nB r).length=r.length:=aZ ..;refine⟨fun q hq=>?_,fun q hq=>?_,by omega,by rw[DH];exact h.c3,fun i hi=>?_⟩
 .obtain⟨z,hz,rfl⟩:=bV.1 hq
  have:=h.ok.le z hz;exact⟨I0 (by have:=this.1;omega),I0 (by have:=this.2;omega)⟩
 .obtain⟨z,hz,rfl⟩:=bV.1 hq
  exact⟨WQ.of_nm _,WQ.of_nm _⟩
 .rw[DH] at hi⊢
  rw[aZ] at hi;have e1:(r.map ZP.q).getD i PZ=(r.getD i (0,0)).q:=by
   rw[aJ,aJ,fK,aQ hi];rfl
  have e2:fB (r.map ZP.q) i=(d5 r i).q:=by
   unfold fB d5;have hm:(i+1)%r.length<r.length:=cJ _ (by omega);rw[aZ,aJ,aJ,fK,aQ hm];rfl
  rw[e1,e2];have:=Hk h.ok hi;exact fun e=>by rw[decide_eq_true e] at this;cases this
def HP(rs:List (List ZP)):rs.map iu=(rs.map nB).map b7:=by
 rw[mT];exact qM fun r _=>(Sl r).symm
def Lr{a:Int}{n:Nat}: -((n:Int)+1)<a.tmod ((n:Int)+1)/\a.tmod ((n:Int)+1)<(n:Int)+1:=by
 have h1:=oT a (show(0:Int)<(n:Int)+1 by omega);have h2:=oT (-a) (show(0:Int)<(n:Int)+1 by omega);rw[Int.neg_tmod] at h2;exact⟨by omega,h1⟩
def HK{a:Int}{n:Nat}(h: -((n:Int)+1)<a)(h2:a<(n:Int)+1): ∃k:Nat,k<=n/\(a+(n:Int)+1).tmod ((n:Int)+1)=(k:Int):=by
 have h0:0<=a+(n:Int)+1:=by omega
 rw[nX h0];have h3:=Int.emod_nonneg (a+(n:Int)+1) (show(n:Int)+1≠0 by omega);have h4:=Int.emod_lt_of_pos (a+(n:Int)+1) (show 0<(n:Int)+1 by omega);exact⟨((a+(n:Int)+1)%((n:Int)+1)).toNat,by omega,by omega⟩
def l8(l:List (List WP)):dl 1 (l.map b7):=fun d hd=>by
 obtain⟨x,_,rfl⟩:=bV.1 hd;exact⟨J,J⟩
def Ez{r:List WP}(h: ∀q∈r,q.wd)(k:r.all (WP.smB 4)=true): ∀q∈r,q.sm:=fun q hq=>WP.sm_of (h q hq) (dJ.1 k q hq)
def km(xs:List (List WP))(k:Nat)(r:List WP):List (List WP):=(xs.take k++[r])++xs.drop k
def P8{xs:List (List WP)}{k:Nat}{r:List WP}(h:k<=xs.length):(km xs k r)[k]? =some r:=by
 unfold km;have e:(xs.take k).length=k:=by rw[aS];omega
 rw[dL,dS (by omega),e,rZ];rfl
def T3{xs:List (List WP)}{k:Nat}{r:List WP}(h:k<=xs.length){j:Nat}{q:List WP}(hj:j<k)(hq:(km xs k r)[j]? =some q):q∈xs:=by
 unfold km at hq;have e:(xs.take k).length=k:=by rw[aS];omega
 rw[dL,cZ (by omega)] at hq;exact dX (aW hq)
def RK{xs:List (List WP)}{k:Nat}{r q:List WP}(h:q∈km xs k r):q=r\/q∈xs:=by
 unfold km at h;simp only[cM,aL] at h;rcases h with(h|h)|h
 .exact .inr (dX h)
 .exact .inl h
 .exact .inr (pN h)
def FF(xs:List (List WP))(k:Nat)(r:List WP):(km xs k r).length=xs.length+1:=by
 unfold km;simp only[aN,aS,jY,pY];omega
def Kg{xs:List (List WP)}{k:Nat}{r:List WP}:((xs.take k).map b7++[b7 r])++(xs.drop k).map b7=(km xs k r).map b7:=by
 unfold km;simp
def VQ{ai ar:Addr}{r:List WP}(s: ∀q∈r,q.sm)(h9:r.length<=9):eG r\/ ∃a,og ai ar r a:=by
 by_cases h: ∀q∈r,q.nm
 .by_cases h3:3<=cB (b6 r) (b6 r).length
  .by_cases he: ∀i<(b6 r).length,js ((b6 r).getD i PZ) (fB (b6 r) i)
   .exact .inl ⟨s,h,h9,h3,he⟩
   .refine .inr ⟨ar, .inr ⟨J,h, .inr ?_⟩⟩
    exact Classical.byContradiction fun k=>he fun i hi=>Classical.byContradiction fun d=>k ⟨i,hi,d⟩
  .exact .inr ⟨ar, .inr ⟨J,h, .inl (by omega)⟩⟩
 .refine .inr ⟨ai, .inl ⟨J,?_⟩⟩
  exact Classical.byContradiction fun k=>h fun q hq=>Classical.byContradiction fun d=>k ⟨q,hq,d⟩
def Qo{ai al ar:Addr}{r:List WP}(s: ∀q∈r,q.sm)(h9:r.length<=9){a:Addr}(h:og ai ar r a): ∃n:Int,n≠0/\(∀GB,PF GB prog 12 [b7 r] (vI n))/\ ∀GB,ew GB ai al ar->PF GB prog 14 [vI n] (j' a):=by
 rcases h with⟨rfl,q,hq,hb⟩|⟨rfl,hn,h⟩
 .obtain⟨j,hj⟩:=List.getElem?_of_mem hq
  exact⟨2,by decide,fun GB=>LW s (by omega) hj hb,fun GB hE=>Un hE⟩
 .refine⟨3,by decide,fun GB=>?_,fun GB hE=>Rj hE⟩
  by_cases h3:(dP cb (b6 r)).length<3
  .exact Ml s (by omega) J hn h3
  .have h3':3<=cB (b6 r) (b6 r).length:=(JR _).1 (by omega)
   obtain⟨j,hj,hd⟩:=h.resolve_left (by omega);exact Oe s (by omega) J hn (by omega) hj hd
def Wd{r:List WP}(h:eG r){GB:Gh}:PF GB prog 12 [b7 r] (vI 0):=NH h.sm (by have:=h.n9;omega) J h.nm ((JR _).2 h.c3) h.ne
def YT(m:Int):Int:=257+m.tmod 3
def Dz{m:Int}(h:0<=m/\m<65536):0<=m.tmod 3/\m.tmod 3<3:=by
 rw[nX h.1];omega
def HG{ai al ar:Addr}(hE:ew GB ai al ar){es0:List Int}(hb:es0.length<=1125899906842624){r:List WP}(hw: ∀q∈r,q.wd){at_:Int}(ha: -9223372036854775808<=at_/\at_<=9223372036854775807){many:Int}(hm:0<=many/\many<65536)(hg:r.length<=8->r.all (WP.smB 4)=true->eG r):PF GB prog 4 [.sl (es0.map vI),b7 r,vI at_, .v (.int .u16 many)] (.v (.bool true)):=by
 obtain⟨es,hee⟩: ∃es,es=es0.take 400:=⟨_,rfl⟩;have hes:es.length<=400:=by rw[hee];simp;omega
 have hlr:(r.map WP.D).length=r.length:=aZ ..;obtain⟨rs,hre⟩: ∃rs,rs=(jf es 3 0).1:=⟨_,rfl⟩;obtain⟨a1,ha1⟩: ∃a,a=(jf es 3 0).2:=⟨_,rfl⟩;obtain⟨hrg,hrn,hal⟩:(∀r∈rs,f9 r)/\rs.length<=3/\a1<=es.length:=by rw[hre,ha1];exact E6 (bJ _)
 have hr1: ∀r∈rs,en r:=fun r hr=>(hrg r hr).ok;obtain⟨p,hpe⟩: ∃p,p=(gE es a1).1:=⟨_,rfl⟩;obtain⟨a2,ha2⟩: ∃a,a=(gE es a1).2:=⟨_,rfl⟩;obtain⟨hpb,ha2l⟩:=yl hal;rw[<-hpe] at hpb;rw[<-ha2] at ha2l;haveI:aq p 1200:=hpb;obtain⟨p2,hpe2⟩: ∃p,p=(gE es a2).1:=⟨_,rfl⟩;haveI:aq p2 1200:=by rw[hpe2];exact(yl ha2l).1
 obtain⟨a3,ha3⟩: ∃a,a=(gE es a2).2:=⟨_,rfl⟩;obtain⟨W,hW⟩: ∃W,W=rs.map nB:=⟨_,rfl⟩;have hWg: ∀q∈W,eG q:=fun q hq=>by rw[hW] at hq;obtain⟨z,hz,rfl⟩:=bV.1 hq;exact IM (hrg z hz)
 have hWl:W.length<=3:=by rw[hW,aZ];exact hrn
 have hlA:(W.map b7).length=W.length:=aZ ..;obtain⟨hx1,hx2⟩:=Lr (a:=at_) (n:=W.length);obtain⟨k,hk,hke⟩:=HK hx1 hx2;obtain⟨X,hX⟩: ∃X,X=km W k r:=⟨_,rfl⟩;have hXl:X.length<=100:=by rw[hX,FF];omega
 obtain⟨hm1,hm2⟩:=Dz hm;obtain⟨ds,hds⟩: ∃ds:List DV,ds=List.replicate (257+many.tmod 3).toNat (.sl []):=⟨_,rfl⟩;have hdl:256<ds.length/\ds.length<=1000000:=by rw[hds,aV];omega
 refine fn (fu:=⟨10⟩) func4 J J ntmps4 J J (fun C=>?_);refine ah 22 (.d (vI (r.length:Nat))) J (by rw[hlr]<;>rfl)<|gx J<|cs 24 J J J (fun hg24=>?_) (fun hg24=>?_)
 .
  refine cl J sU J<|rz J J
 .
  refine cl J (H0 (n:=4) (ls:=r)) J<|bb J J J (fun hc28=>?_) (fun hc28=>?_)
  .
   refine cl J sU J<|rz J J
  .
   have hsm:r.all (WP.smB 4)=true:=y5 hc28;have h8:r.length<=8:=by omega
   have hg:=hg h8 hsm;have hXg: ∀q∈X,eG q:=fun q hq=>by rw[hX] at hq;rcases RK hq with rfl|h;exact hg;exact hWg q h
   refine cn J ((GX hb hee)) (fun _=>J) (fun _=>?_);refine cm J (fun b=>(K0 hes hre ha1)) J<|cl (fu:=⟨0⟩) J (IT (rs:=rs) hr1) J<|ah 34 (.d (.sl (W.map b7))) J (by rw[hW,<-HP])<|gx (fu:=⟨8⟩) J<|ah 37 (.d (vI (W.length:Nat))) J (by rw[hlA]<;>rfl)<|gx (fu:=⟨4⟩) J<|ah 41 (.d (vI (W.length:Nat))) J (by rw[hlA]<;>rfl)<|gx (fu:=⟨4⟩) J<|ah 45 (.d (vI (W.length:Nat))) J (by rw[hlA]<;>rfl)<|gx (fu:=⟨2⟩) J<|ah 47 (.d (vI (k:Nat))) J (by rw[<-hke]<;>rfl)<|gx J<|su J J<|jx 0 k ((W.take k).map b7) J J J (by rw[<-jL,fZ]) (l8 W) (bJ _) (by omega) J<|ap ((W.take k).map b7) J J (l8 (W.take k)) J<|rf J J<|ap ((W.take k).map b7++[b7 r]) J J (l8 [r]) J<|jx k (W.map b7).length ((W.drop k).map b7) J J J (by rw[bT,<-pM]) (l8 W) (by omega) (aM _) J<|ap (X.map b7) J (by rw[hX];exact Kg) (l8 (W.drop k)) J<|cm J (fun b=>(v7 hes hal hpe ha2)) J<|cl J (tM (p:=p) (i:=1200)) J<|fz 59 J J<|cl J (QJ hXg hXl (x:=p) (i:=1200)) J<|cl J (VM hXg hXl) J<|cm J (fun b=>(v7 hes ha2l hpe2 ha3)) J<|cl J (tM (p:=p2) (i:=1200)) J<|cl J (SH hE hXg hXl (x:=p2)) J<|cl (fu:=⟨6⟩) J (Wd hg) J<|dq J (by show some (decide _)=some false;rw[decide_eq_false (by omega)]) J<|gl (fu:=⟨0⟩) J hE.ErrInvalid J<|pw (fu:=⟨10⟩) J VN J<|Ge (fu:=⟨0⟩) J (by decide) J<|F8 J inferInstance inferInstance (by omega) J<|?_;obtain⟨s9,hFm⟩:=HQ hE hdl.1 hdl.2;refine mk ds J J hds.symm J<|fz 120 J J<|cE (fu:=⟨0⟩) J hFm (fun _=>J)<|?_;intro GB9 u9 hg9 hu9;have hE:=hE.up hg9;refine gx (fu:=⟨9⟩) J<|pw J sU J<|gl (fu:=⟨0⟩) J hE.ErrLimit J<|pw J (vy hu9) J<|rz J J
def PG{ai al ar:Addr}(hE:ew GB ai al ar){es0:List Int}(hb:es0.length<=1125899906842624){r:List WP}(hw: ∀q∈r,q.wd){at_:Int}(ha: -9223372036854775808<=at_/\at_<=9223372036854775807){many:Int}(hm:0<=many/\many<65536){a:Addr}(hB:r.length<=8->r.all (WP.smB 4)=true->og ai ar r a):PF GB prog 4 [.sl (es0.map vI),b7 r,vI at_, .v (.int .u16 many)] (.v (.bool true)):=by
 obtain⟨es,hee⟩: ∃es,es=es0.take 400:=⟨_,rfl⟩;have hes:es.length<=400:=by rw[hee];simp;omega
 have hlr:(r.map WP.D).length=r.length:=aZ ..;obtain⟨rs,hre⟩: ∃rs,rs=(jf es 3 0).1:=⟨_,rfl⟩;obtain⟨a1,ha1⟩: ∃a,a=(jf es 3 0).2:=⟨_,rfl⟩;obtain⟨hrg,hrn,hal⟩:(∀r∈rs,f9 r)/\rs.length<=3/\a1<=es.length:=by rw[hre,ha1];exact E6 (bJ _)
 have hr1: ∀r∈rs,en r:=fun r hr=>(hrg r hr).ok;obtain⟨p,hpe⟩: ∃p,p=(gE es a1).1:=⟨_,rfl⟩;obtain⟨a2,ha2⟩: ∃a,a=(gE es a1).2:=⟨_,rfl⟩;obtain⟨hpb,ha2l⟩:=yl hal;rw[<-hpe] at hpb;rw[<-ha2] at ha2l;haveI:aq p 1200:=hpb;obtain⟨p2,hpe2⟩: ∃p,p=(gE es a2).1:=⟨_,rfl⟩;haveI:aq p2 1200:=by rw[hpe2];exact(yl ha2l).1
 obtain⟨a3,ha3⟩: ∃a,a=(gE es a2).2:=⟨_,rfl⟩;obtain⟨W,hW⟩: ∃W,W=rs.map nB:=⟨_,rfl⟩;have hWg: ∀q∈W,eG q:=fun q hq=>by rw[hW] at hq;obtain⟨z,hz,rfl⟩:=bV.1 hq;exact IM (hrg z hz)
 have hWl:W.length<=3:=by rw[hW,aZ];exact hrn
 have hlA:(W.map b7).length=W.length:=aZ ..;obtain⟨hx1,hx2⟩:=Lr (a:=at_) (n:=W.length);obtain⟨k,hk,hke⟩:=HK hx1 hx2;obtain⟨X,hX⟩: ∃X,X=km W k r:=⟨_,rfl⟩;have hXl:X.length<=100:=by rw[hX,FF];omega
 obtain⟨hm1,hm2⟩:=Dz hm;obtain⟨ds,hds⟩: ∃ds:List DV,ds=List.replicate (257+many.tmod 3).toNat (.sl []):=⟨_,rfl⟩;have hdl:256<ds.length/\ds.length<=1000000:=by rw[hds,aV];omega
 refine fn (fu:=⟨10⟩) func4 J J ntmps4 J J (fun C=>?_);refine ah 22 (.d (vI (r.length:Nat))) J (by rw[hlr]<;>rfl)<|gx J<|cs 24 J J J (fun hg24=>?_) (fun hg24=>?_)
 .
  refine cl J sU J<|rz J J
 .
  refine cl J (H0 (n:=4) (ls:=r)) J<|bb J J J (fun hc28=>?_) (fun hc28=>?_)
  .
   refine cl J sU J<|rz J J
  .
   have hsm:r.all (WP.smB 4)=true:=y5 hc28;have h8:r.length<=8:=by omega
   have hB:=hB h8 hsm;have hsr:=Ez hw hsm;have h9:r.length<=9:=by omega
   have hXk:X[k]? =some r:=by rw[hX];exact P8 hk
   have hXp: ∀j q,j<k->X[j]? =some q->eG q:=fun j q hj hq=>by rw[hX] at hq;exact hWg q (T3 hk hj hq)
   obtain⟨n,hn0,hCh,hKd⟩:=Qo (al:=al) hsr h9 hB;refine cn J ((GX hb hee)) (fun _=>J) (fun _=>?_);refine cm J (fun b=>(K0 hes hre ha1)) J<|cl (fu:=⟨0⟩) J (IT (rs:=rs) hr1) J<|ah 34 (.d (.sl (W.map b7))) J (by rw[hW,<-HP])<|gx (fu:=⟨8⟩) J<|ah 37 (.d (vI (W.length:Nat))) J (by rw[hlA]<;>rfl)<|gx (fu:=⟨4⟩) J<|ah 41 (.d (vI (W.length:Nat))) J (by rw[hlA]<;>rfl)<|gx (fu:=⟨4⟩) J<|ah 45 (.d (vI (W.length:Nat))) J (by rw[hlA]<;>rfl)<|gx (fu:=⟨2⟩) J<|ah 47 (.d (vI (k:Nat))) J (by rw[<-hke]<;>rfl)<|gx J<|su J J<|jx 0 k ((W.take k).map b7) J J J (by rw[<-jL,fZ]) (l8 W) (bJ _) (by omega) J<|ap ((W.take k).map b7) J J (l8 (W.take k)) J<|rf J J<|ap ((W.take k).map b7++[b7 r]) J J (l8 [r]) J<|jx k (W.map b7).length ((W.drop k).map b7) J J J (by rw[bT,<-pM]) (l8 W) (by omega) (aM _) J<|ap (X.map b7) J (by rw[hX];exact Kg) (l8 (W.drop k)) J<|cm J (fun b=>(v7 hes hal hpe ha2)) J<|cl J (tM (p:=p) (i:=1200)) J<|?_;obtain⟨s1,hF1⟩:=MZ (x:=p) hE hXl hXk hXp hsr h9 hB;refine fz 59 J J<|cE (fu:=⟨0⟩) J hF1 (fun _=>J)<|?_;intro GB1 u1 hg1 hu1;have hE:=hE.up hg1;refine gx J<|?_;obtain⟨s2,hF2⟩:=Qx hE hXl hXk hXp hsr h9 hB;refine cE (fu:=⟨0⟩) J hF2 (fun _=>J)<|?_;intro GB2 u2 hg2 hu2;have hE:=hE.up hg2;refine gx J<|cm J (fun b=>(v7 hes ha2l hpe2 ha3)) J<|cl J (tM (p:=p2) (i:=1200)) J<|?_;obtain⟨s3,hF3⟩:=PY (fill:=0) (x:=p2) hE hXl hXk hXp hsr h9 hB;refine cE (fu:=⟨0⟩) J hF3 (fun _=>J)<|?_;intro GB3 u3 hg3 hu3;have hE:=hE.up hg3;refine gx J<|cl (fu:=⟨6⟩) J (hCh _) J<|ic J (by show some (decide _)=some true;rw[decide_eq_true hn0]) J<|cl (fu:=⟨7⟩) J (hKd _ hE) J<|pw (fu:=⟨4⟩) J (vy (hu1.up (hg2.trans hg3))) J<|pw (fu:=⟨5⟩) J (vy (hu2.up hg3)) J<|pw (fu:=⟨10⟩) J (vy hu3) J<|Ge (fu:=⟨0⟩) J (by decide) J<|F8 J inferInstance inferInstance (by omega) J<|?_
   obtain⟨s9,hFm⟩:=HQ hE hdl.1 hdl.2;refine mk ds J J hds.symm J<|fz 120 J J<|cE (fu:=⟨0⟩) J hFm (fun _=>J)<|?_;intro GB9 u9 hg9 hu9;have hE:=hE.up hg9;refine gx (fu:=⟨9⟩) J<|pw J sU J<|gl (fu:=⟨0⟩) J hE.ErrLimit J<|pw J (vy hu9) J<|rz J J
def SA{ai al ar:Addr}(hE:ew GB ai al ar){es0:List Int}(hb:es0.length<=1125899906842624){r:List WP}(hw: ∀q∈r,q.wd){at_:Int}(ha: -9223372036854775808<=at_/\at_<=9223372036854775807){many:Int}(hm:0<=many/\many<65536):PF GB prog 4 [.sl (es0.map vI),b7 r,vI at_, .v (.int .u16 many)] (.v (.bool true)):=by
 by_cases h:r.length<=8/\r.all (WP.smB 4)=true
 .rcases VQ (ai:=ai) (ar:=ar) (Ez hw h.2) (by omega) with hg|⟨a,hB⟩
  .exact HG hE hb hw ha hm fun _ _=>hg
  .exact PG hE hb hw ha hm fun _ _=>hB
 .exact HG hE hb hw ha hm fun h1 h2=>absurd ⟨h1,h2⟩ h
end Go.Sx
end
