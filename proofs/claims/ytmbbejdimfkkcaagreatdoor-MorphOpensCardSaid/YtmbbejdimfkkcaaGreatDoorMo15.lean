import Derived.Test.YtmbbejdimfkkcaaGreatDoorMo14
set_option linter.all false
set_option maxHeartbeats 4000000
set_option maxRecDepth 100000
section
namespace Go.Sx
open Go Go.Proofs Tryz
variable {GB:Gh}
def aKK(a b:Bool):eV ⟨0,0,a,b⟩= .ag [.v (.bool false), .sl [], .sl [], .v (.bool false), .sl [], .sl [], .v (.bool a), .v (.bool b)]:=by
 unfold eV dD;simp only[show(0:Rat).num=0 from J,show(0:Rat).den=1 from J,lN,mH];rfl
def Ow(t:Rat)(a b:Bool):eV ⟨t,0,a,b⟩= .ag [.v (.bool (decide (t.num<0))),dN t.num.natAbs,dD t.den, .v (.bool false), .sl [], .sl [], .v (.bool a), .v (.bool b)]:=by
 unfold eV dD;simp only[show(0:Rat).num=0 from J,show(0:Rat).den=1 from J,lN,mH];rfl
def aLR(t:Rat)(a b:Bool):eV ⟨0,t,a,b⟩= .ag [.v (.bool false), .sl [], .sl [], .v (.bool (decide (t.num<0))),dN t.num.natAbs,dD t.den, .v (.bool a), .v (.bool b)]:=by
 unfold eV dD;simp only[show(0:Rat).num=0 from J,show(0:Rat).den=1 from J,lN,mH];rfl
def aD6{cuts:List Rat}{i:Nat}(h:i=0)(k: ¬i<cuts.length):fB cuts i=⟨0,0,decide (i=0),decide (i=cuts.length)⟩:=by unfold fB;rw[if_pos h,if_neg k]
def aEO{cuts:List Rat}{i:Nat}{y:Rat}(h:i=0)(k:cuts[i]? =some y):fB cuts i=⟨0,y,decide (i=0),decide (i=cuts.length)⟩:=by
 unfold fB;rw[if_pos h,if_pos (aR.1 k).1,aV,k];rfl
def aEB{cuts:List Rat}{i:Nat}{x:Rat}(h: ¬i=0)(k:cuts[i-1]? =some x)(k2: ¬i<cuts.length):fB cuts i=⟨x,0,decide (i=0),decide (i=cuts.length)⟩:=by
 unfold fB;rw[if_neg h,if_neg k2,aV,k];rfl
def aDN{cuts:List Rat}{i:Nat}{x y:Rat}(h: ¬i=0)(k:cuts[i-1]? =some x)(k2:cuts[i]? =some y):fB cuts i=⟨x,y,decide (i=0),decide (i=cuts.length)⟩:=by
 unfold fB;rw[if_neg h,if_pos (aR.1 k2).1,aV,k,aV,k2];rfl
def aBT{cuts:List Rat}{marks:List Bool}{k:Nat}(h:marks[k]? =some false):iz cuts marks (k+1)=iz cuts marks k:=by
 rw[iz,aV,h];rfl
def D5{cuts:List Rat}{marks:List Bool}{k:Nat}(h:marks[k]? =some true)(hp: ¬(0<k/\marks[k-1]? =some true)):iz cuts marks (k+1)=iz cuts marks k++[fB cuts k]:=by
 rw[iz,aV,h];show(if 0<k/\_ then _ else _)=_;rw[if_neg];rintro ⟨h1,h2⟩;rw[aV] at h2
 cases e:marks[k-1]? with
 |none=>rw[e] at h2;cases h2
 |some b=>rw[e] at h2;exact hp ⟨h1,by rw[e];simp at h2;rw[h2]⟩
def RT{cuts:List Rat}{marks:List Bool}{k:Nat}(h:marks[k]? =some true):iz cuts marks (k+1)≠[]:=by
 rw[iz,aV,h];show(if 0<k/\_ then _ else _)≠[];split
 .split<;>simp
 .simp
def NV{cuts:List Rat}{marks:List Bool}{k:Nat}{xs:List ar}{v:ar}(hk:0<k)(h:marks[k]? =some true)(hp:marks[k-1]? =some true)(hx:iz cuts marks k=xs)(hv:xs[xs.length-1]? =some v):iz cuts marks (k+1)=xs.set (xs.length-1) (xm v (fB cuts k)):=by
 rw[iz,aV,h];show(if 0<k/\_ then _ else _)=_;rw[if_pos ⟨hk,by rw[aV,hp];rfl⟩,hx,oX,hv];have hn:0<xs.length:=by
  have:=(aR.1 hv).1;omega
 show xs.dropLast++[_]=_;apply mX;intro i;rw[qZ];by_cases hi:i<xs.length-1
 .rw[kJ (by rw[nQ];exact hi),List.getElem?_dropLast,if_pos hi,if_neg we]
 .by_cases hi2:i=xs.length-1
  .subst hi2
   rw[jN (by rw[nQ];exact bV _),nQ,qK,if_pos J,if_pos we];rfl
  .rw[fK (by rw[aY,nQ];simp;omega),if_neg we,fK we]
def AA{α:Type}{f:α->DV}{l:List α}{k:Nat}{x:α}(hk:0<k)(h:l[k-1]? =some x):(l.map f)[(((k:Nat):Int)-1).toNat]? =some (f x):=by
 rw[show(((k:Nat):Int)-1).toNat=k-1 by omega,cJ,h];rfl
def te{k n:Nat}:decide (k=n)=decide (((k:Nat):Int)=((n:Nat):Int)):=decide_eq_decide.2 we
theorem omQ{p:Prop}(h:p:=by dsimp only;exact⟨⟨by rw[D5 hz hnp,<-h1],we⟩,we⟩):p:=h
theorem omR{p:Prop}(h:p:=by rw[show(((xs.length:Nat):Int)-1).toNat=xs.length-1 by omega,kK,List.set_set,kK,hgap];unfold xm;dsimp only;rw[te (k:=k) (n:=cuts.length)]<;>rfl):p:=h
theorem omZ{p:Prop}(h:p:=by rw[hmc]<;>rfl):p:=h
theorem okt{p:Prop}(h:p:=by rw[show(((xs.length:Nat):Int)-1).toNat=xs.length-1 by omega,kK,sS (by rw[hml];omega)]):p:=h
theorem okU{p:Prop}(h:p:=by dsimp only;exact⟨⟨(NV we hz hpb' h1.symm hw).symm,we⟩,we⟩):p:=h
def Z3{cuts:List Rat}{marks:List Bool}(hn:cuts.length<=100000)(hmk:marks.length<=cuts.length+1):PF GB prog 265 [.sl (cuts.map eQ), .sl (marks.map vB)] (.sl ((y7 cuts marks).map eV)):=by
 have hm:=ez vB marks;have hmc:=ez eQ cuts;refine fn (fu:=⟨15⟩) func265 J J ntmps265 J J (fun C=>?_);refine aj 11 (.d (vI (marks.length:Nat))) J omu<|gx J<|nr 5 5 174 8 J J J<|lp (X:=List ar×Nat) (fun⟨xs,k⟩=>[(12, .d (vI (k:Nat))),(5, .rw 5)]) (fun⟨xs,k⟩=>[(5,some (.b 174 8 (xs.map eV) true))]) (fun⟨xs,k⟩=>xs=iz cuts marks k/\k<=marks.length) (fun⟨xs,k⟩=>marks.length-k) ([],0) J ⟨J,aN _⟩ (fun _=>J) (fun⟨xs,k⟩ hk=>?_);dsimp only at hk⊢;obtain⟨h1,h2⟩:=hk;have hml:=ez eV xs;have hxl:xs.length<=k:=by rw[h1];exact Io
 refine br J J J (fun hc13=>?_) (fun hc13=>?_)
 .
  obtain⟨b,hz⟩: ∃s,marks[k]? =some s:=⟨_,aZ we⟩;refine ix (fu:=⟨8⟩) _ J (cp hz) J<|?_
  cases b
  .
   refine cv (fu:=⟨12⟩) J J J<|at_ (xs,k+1) (by dsimp only;exact⟨⟨by rw[aBT hz,<-h1],we⟩,we⟩)
  .
   refine d7 (fu:=⟨13⟩) J J J<|?_;rcases(show(k=0/\k<cuts.length)\/(k=0/\ ¬k<cuts.length)\/(0<k/\k<cuts.length)\/(0<k/\ ¬k<cuts.length) by omega) with⟨c1,c2⟩|⟨c1,c2⟩|⟨c1,c2⟩|⟨c1,c2⟩
   .
    obtain⟨y,hy⟩: ∃s,cuts[k]? =some s:=⟨_,aZ we⟩;have hgap:=aEO (cuts:=cuts) (i:=k) c1 hy;have hnp: ¬(0<k/\marks[k-1]? =some true):=fun e=>by omega
    refine aj 23 (.d (vI (cuts.length:Nat))) J omZ<|gx (fu:=⟨10⟩) J<|cv (fu:=⟨11⟩) J (omh we) J<|aj 36 (.d (vI (cuts.length:Nat))) J omZ<|gx (fu:=⟨0⟩) J<|d7 J (omg we) J<|ix (fu:=⟨10⟩) _ J (cp hy) J<|aj 44 (.d (vI (xs.length:Nat))) J omo<|gx (fu:=⟨6⟩) J<|cv (fu:=⟨19⟩) J (omh we) J<|aj 73 (.d (eV (fB cuts k))) J (by rw[hgap,aLR,te (k:=k) (n:=0),te (k:=k) (n:=cuts.length)]<;>rfl)<|gx J<|rf J J<|ap (fu:=⟨12⟩) ((xs++[fB cuts k]).map eV) J omO (BT [fB cuts k]) J<|ek 75 5 J<|at_ (xs++[fB cuts k],k+1) omQ
   .
    have hgap:=aD6 (cuts:=cuts) (i:=k) c1 c2;have hnp: ¬(0<k/\marks[k-1]? =some true):=fun e=>by omega
    refine aj 23 (.d (vI (cuts.length:Nat))) J omZ<|gx (fu:=⟨10⟩) J<|cv (fu:=⟨11⟩) J (omh we) J<|aj 36 (.d (vI (cuts.length:Nat))) J omZ<|gx (fu:=⟨0⟩) J<|cv (fu:=⟨10⟩) J (omh we) J<|aj 44 (.d (vI (xs.length:Nat))) J omo<|gx (fu:=⟨6⟩) J<|cv (fu:=⟨19⟩) J (omh we) J<|aj 73 (.d (eV (fB cuts k))) J (by rw[hgap,aKK,te (k:=k) (n:=0),te (k:=k) (n:=cuts.length)]<;>rfl)<|gx J<|rf J J<|ap (fu:=⟨12⟩) ((xs++[fB cuts k]).map eV) J omO (BT [fB cuts k]) J<|ek 75 5 J<|at_ (xs++[fB cuts k],k+1) omQ
   .
    obtain⟨x,hx⟩: ∃s,cuts[k-1]? =some s:=⟨_,aZ we⟩;obtain⟨pb,hpb⟩: ∃s,marks[k-1]? =some s:=⟨_,aZ we⟩;obtain⟨y,hy⟩: ∃s,cuts[k]? =some s:=⟨_,aZ we⟩;have hgap:=aDN (cuts:=cuts) (i:=k) we hx hy;refine aj 23 (.d (vI (cuts.length:Nat))) J omZ<|gx (fu:=⟨10⟩) J<|d7 J (omg we) J<|ix (fu:=⟨11⟩) _ J (AA we hx) J<|aj 36 (.d (vI (cuts.length:Nat))) J omZ<|gx (fu:=⟨0⟩) J<|d7 J (omg we) J<|ix (fu:=⟨10⟩) _ J (cp hy) J<|aj 44 (.d (vI (xs.length:Nat))) J omo<|gx (fu:=⟨6⟩) J<|d7 J (omg we) J<|ix _ J (AA we hpb) J<|ja (fu1:=⟨1⟩) (fu2:=⟨11⟩) 54 J J J (fun hg54=>?_) (fun hg54=>?_)
    .
     have hpb':marks[k-1]? =some true:=by rw[hpb];congr 1
     have hxn:0<xs.length:=by rw[h1];have:=RT (cuts:=cuts) hpb';rw[show k-1+1=k by omega] at this;exact mU.2 this
     obtain⟨w,hw⟩: ∃s,xs[xs.length-1]? =some s:=⟨_,aZ we⟩;refine d7 J (omg we) J<|sb (eV w) ((xs.set (xs.length-1) (⟨w.lo,y,w.nl,w.nh⟩:ar)).map eV) J (AA hxn hw) J (by rw[show(((xs.length:Nat):Int)-1).toNat=xs.length-1 by omega,kK];rfl) J<|sb (hv:=by simp only[ak];exact⟨omd,we⟩) (eV (⟨w.lo,y,w.nl,w.nh⟩:ar)) ((xs.set (xs.length-1) (xm w (fB cuts k))).map eV) J okt J omR J<|?_;exact at_ (xs.set (xs.length-1) (xm w (fB cuts k)),k+1) okU
    .
     have hnp: ¬(0<k/\marks[k-1]? =some true):=fun e=>by rw[hpb,hg54] at e;simpa using e.2
     refine aj 73 (.d (eV (fB cuts k))) J (by rw[hgap];unfold eV;dsimp only;rw[te (k:=k) (n:=0),te (k:=k) (n:=cuts.length)]<;>rfl)<|gx J<|rf J J<|ap (fu:=⟨12⟩) ((xs++[fB cuts k]).map eV) J omO (BT [fB cuts k]) J<|ek 75 5 J<|at_ (xs++[fB cuts k],k+1) omQ
   .
    obtain⟨x,hx⟩: ∃s,cuts[k-1]? =some s:=⟨_,aZ we⟩;obtain⟨pb,hpb⟩: ∃s,marks[k-1]? =some s:=⟨_,aZ we⟩;have hgap:=aEB (cuts:=cuts) (i:=k) we hx c2;refine aj 23 (.d (vI (cuts.length:Nat))) J omZ<|gx (fu:=⟨10⟩) J<|d7 J (omg we) J<|ix (fu:=⟨11⟩) _ J (AA we hx) J<|aj 36 (.d (vI (cuts.length:Nat))) J omZ<|gx (fu:=⟨0⟩) J<|cv (fu:=⟨10⟩) J (omh we) J<|aj 44 (.d (vI (xs.length:Nat))) J omo<|gx (fu:=⟨6⟩) J<|d7 J (omg we) J<|ix _ J (AA we hpb) J<|ja (fu1:=⟨1⟩) (fu2:=⟨11⟩) 54 J J J (fun hg54=>?_) (fun hg54=>?_)
    .
     have hpb':marks[k-1]? =some true:=by rw[hpb];congr 1
     have hxn:0<xs.length:=by rw[h1];have:=RT (cuts:=cuts) hpb';rw[show k-1+1=k by omega] at this;exact mU.2 this
     obtain⟨w,hw⟩: ∃s,xs[xs.length-1]? =some s:=⟨_,aZ we⟩;refine d7 J (omg we) J<|sb (eV w) ((xs.set (xs.length-1) (⟨w.lo,0,w.nl,w.nh⟩:ar)).map eV) J (AA hxn hw) J (by rw[show(((xs.length:Nat):Int)-1).toNat=xs.length-1 by omega,kK,Ow];rfl) J<|sb (hv:=by simp only[ak];exact⟨omd,we⟩) (eV (⟨w.lo,0,w.nl,w.nh⟩:ar)) ((xs.set (xs.length-1) (xm w (fB cuts k))).map eV) J okt J omR J<|?_;exact at_ (xs.set (xs.length-1) (xm w (fB cuts k)),k+1) okU
    .
     have hnp: ¬(0<k/\marks[k-1]? =some true):=fun e=>by rw[hpb,hg54] at e;simpa using e.2
     refine aj 73 (.d (eV (fB cuts k))) J (by rw[hgap,Ow,te (k:=k) (n:=0),te (k:=k) (n:=cuts.length)]<;>rfl)<|gx J<|rf J J<|ap ((xs++[fB cuts k]).map eV) J omO (BT [fB cuts k]) J<|ek 75 5 J<|at_ (xs++[fB cuts k],k+1) omQ
 .
  have hfin:y7 cuts marks=xs:=by rw[h1,y7,show k=marks.length by omega]
  refine gw 5 J<|rz J oze
def Il{g:Rat}: ∀{l:List Rat},g∈je l-> ∃a∈l,∃b∈l,g=(a+b)/2
 |[],h=>by cases h
 |[_],h=>by cases h
 |a::b::t,h=>by
  rw[je] at h;rcases aW.1 h with rfl|h
  .exact⟨a,aQ,b,aJ _ aQ,J⟩
  .obtain⟨c,hc,d,hd,e⟩:=Il h
   exact⟨c,aJ _ hc,d,aJ _ hd,e⟩
theorem aF6{l:List Rat}(h: ∀q∈l,BQ q 1200): ∀g∈cB l,BQ g 2500:=fun g hg=>by
 cases l with
 |nil=>
  rw[cB,aT] at hg;subst hg;exact BQ.mono (k:=1) ⟨oma,oma⟩
 |cons a t=>
  rw[cB] at hg;rcases aW.1 hg with rfl|hg
  .haveI:=h a aQ
   exact BQ.mono (inferInstance:BQ (a-1) _) we
  .rcases bZ.1 hg with hg|hg
   .obtain⟨c,hc,d,hd,rfl⟩:=Il hg
    haveI:=h c hc;haveI:=h d hd;exact BQ.mono (inferInstance:BQ ((c+d)/2) _) we
   .rw[aT] at hg
    haveI:=h _ (List.getLast_mem (l:=a::t) omc);subst hg;exact BQ.mono (inferInstance:BQ ((a::t).getLast omc+1) _) we
def VL(l:List ar):rh l l.length=kr l:=by unfold rh;rw[cN]
theorem aAT{l:List ar}(h: ∀v∈l,nE v): ∀y∈kr l,BQ y 1200:=by rw[<-VL];exact Rr h
def Mb(l:List ar):(kr l).length<=2*l.length:=by rw[<-VL];exact FI l _
def nE.app{a b:List ar}(ha: ∀v∈a,nE v)(hb: ∀v∈b,nE v): ∀v∈a++b,nE v:=fun v hv=>(bZ.1 hv).elim (ha v) (hb v)
def SZ{a b:List ar}(ha: ∀v∈a,nE v)(hb: ∀v∈b,nE v)(hna:a.length<=100)(hnb:b.length<=100):PF GB prog 210 [vI 2, .sl (a.map eV), .sl (b.map eV)] (.sl ((qB 2 a b).map eV)):=by
 obtain⟨cuts,hcu⟩: ∃c,c=kr (a++b):=⟨_,rfl⟩;have hab:=nE.app ha hb;have hcb: ∀q∈cuts,BQ q 1200:=by rw[hcu];exact aAT hab
 have hcl:cuts.length<=2*(a.length+b.length):=by rw[hcu];have:=Mb (a++b);rw[aY] at this;exact this
 have hgb:=aF6 hcb;have hgl:=Bc (l:=cuts);have hmp:=ez eQ (cB cuts);refine fn func210 J J ntmps210 J J (fun C=>?_);refine oG J J<|ap (a.map eV) J J (BT _) J<|kz ((a++b).map eV) J (by rw[aL]) (BT b) J<|cl (fu:=⟨0⟩) J (aHR (l:=a++b) hab oky) J<|aj 19 (.d (.sl (cuts.map eQ))) J (by rw[hcu])<|gx J<|cl (fu:=⟨1⟩) J (Zx (cuts:=cuts) hcb we) J<|aj 22 (.d (vI ((cuts.length+1:Nat):Int))) J (by rw[hmp,hgl]<;>rfl)<|gx J<|nr 8 8 4 1 J J J<|lp (X:=Nat) (fun k=>[(23, .d (vI (k:Nat))),(8, .rw 8)]) (fun k=>[(8,some (.b 4 1 ((((cB cuts).map (fun t=>pD 2 (gH a t) (gH b t))).take k).map vB) true))]) (fun k=>k<=cuts.length+1) (fun k=>cuts.length+1-k) 0 J (aN _) (fun _=>J) (fun k hk=>?_);have hml:(((((cB cuts).map (fun t=>pD 2 (gH a t) (gH b t))).take k).map vB)).length=k:=by rw[aX,bL,aX,hgl];omega
 refine br (fu2:=⟨0⟩) J J J (fun hc24=>?_) (fun hc24=>?_)
 .
  obtain⟨t,hz⟩: ∃s,(cB cuts)[k]? =some s:=⟨_,aZ we⟩;haveI:=hgb t (aK hz);have hz2:((cB cuts).map (fun t=>pD 2 (gH a t) (gH b t)))[k]? =some (pD 2 (gH a t) (gH b t)):=by rw[cJ,hz];rfl
  refine ix _ J (cp hz) J<|cl J (Q4 (l:=a) (t:=t) ha we) J<|cl (fu:=⟨6⟩) J (Q4 (l:=b) (t:=t) hb we) J<|?_
  cases hx:gH a t
  .
   refine cv (fu:=⟨15⟩) J J J<|d7 (fu:=⟨5⟩) J J J<|cv J J J<|rf J J<|ap (fu:=⟨8⟩) ((((cB cuts).map (fun t=>pD 2 (gH a t) (gH b t))).take (k+1)).map vB) J (by rw[<-w6 hz2,hx];rfl) (TQ [false]) J<|ek 59 8 J<|at_ (k+1) ⟨we,we⟩
  .
   refine d7 (fu:=⟨15⟩) J J J<|d7 (fu:=⟨5⟩) J J J<|d7 J J J<|rf J J<|ap ((((cB cuts).map (fun t=>pD 2 (gH a t) (gH b t))).take (k+1)).map vB) J (by rw[<-w6 hz2,hx];rfl) (TQ [_]) J<|ek 59 8 J<|at_ (k+1) ⟨we,we⟩
 .
  obtain rfl:k=cuts.length+1:=by omega
  have htk:((cB cuts).map (fun t=>pD 2 (gH a t) (gH b t))).take (cuts.length+1)=(cB cuts).map (fun t=>pD 2 (gH a t) (gH b t)):=bM (by rw[aX,hgl];exact bV _);rw[htk];refine nj 8 J<|gx J<|cl J (Z3 (cuts:=cuts) (marks:=(cB cuts).map (fun t=>pD 2 (gH a t) (gH b t))) we (by rw[aX,hgl];exact bV _)) J<|rz J (by unfold qB;rw[<-hcu];rfl)
section
variable {GB:Gh} {C:aH} {n:Nat} {Q0:Exit->Act->World->Prop} {fr fr':aF} {own own':bh} {cf cf':Cf} {vc:List Prop}
def aJe{lk:LK}{bk:BM}{dst:Option Nat}{t ty':TypeId}{pos:String}{af:Array Edge}{gd:Option (Nat×Bool)}{x y:Operand}{e len s nm off:Nat}{k:IntKind}{i:Nat}(hu:prog.underlying t=some (.array len e))(hs:(prog.info? e).map (·.size)=some s)
  (e1:bt lk x=some (.ov nm off))(e2:bt lk y=some (.d (.v (.int k (i:Nat)))))(hi:i<len):b9 prog GB C n lk bk ⟨dst, .indexAddr t x y,ty',pos,af,gd⟩ (.ov nm (off+i*s)) [] []:= .yd fun ρ G ov a w r=>by
 obtain⟨p,h1,h2⟩:=r.ev e1;obtain⟨q,h3,h4⟩:=r.ev e2;rw[dl] at h4;subst h4;obtain⟨b,hb,rfl⟩:=h2;refine⟨_,⟨b,hb,J⟩,?_⟩;obtain⟨j,hj,hjs⟩: ∃j,prog.info? e=some j/\j.size=s:=by
  cases h:prog.info? e with
  |none=>rw[h] at hs;cases hs
  |some j=>rw[h] at hs;exact⟨j,J,by simpa using hs⟩
 intro a' w' hf hh;simp only[execOp,bF hf h1,bF hf h3];have:(Instr.indexAt t (.pointer (some ⟨b,off,none⟩)) (.int k (i:Nat))).run prog w'= .ok (.pointer (some ⟨b,off+i*s,none⟩)) w':=by
  unfold Instr.indexAt;show(underlying t>>=_).run prog w'=_;rw[bj (rC hu w')];show(underlying t>>=_).run prog w'=_;rw[bj (rC hu w')];have h0:0<=((i:Nat):Int):=Int.natCast_nonneg i;have h1:((i:Nat):Int)<((len:Nat):Int):=by omega
  simp only[h0,h1,and_self,if_true];show(sizeOf e>>=_).run prog w'=_;rw[bj (w8 hj w'),si,hjs,cK];rfl
 exact dh this
def T'(fr:aF)(cf:Cf):Option (TypeId×Nat×Nat×Int):=match di fr cf with
 |some ⟨_, .indexAddr t x y,_,_,_,_⟩=>match bt (ck fr cf) x with
  |some (.ov nm off)=>match bt (ck fr cf) y with
   |some (.d (.v (.int _ i)))=>some (t,nm,off,i)
   |_=>none
  |_=>none
 |_=>none
def pC[fu:Fu](i:Nat){t nm off e len s:Nat}(h:T' fr cf=some (t,nm,off,((i:Nat):Int)))(hu:prog.underlying t=some (.array len e))(hs:(prog.info? e).map (·.size)=some s)(hi:i<len)
  (hgo:c6 tt n fu.n fr own cf (.ov nm (off+i*s)) [] []=⟨vc,fr',own',cf'⟩)(k:av prog GB C n Q0 fr' own' cf')
  (hv:autoParam (ak vc) cL._auto_1):av prog GB C n Q0 fr own cf:=by
 unfold T' at h;split at h<;>try (cases h;done)
 rename_i hh;split at h<;>try (cases h;done)
 rename_i hx;split at h<;>cases h;rename_i hy;exact us hh (aJe hu hs hx hy hi) hgo hv k
def YJ{lk:LK}{bk:BM}{d s:Nat}{e t ty':TypeId}{pos:String}{af:Array Edge}{gd:Option (Nat×Bool)}{ps:List (Nat×Operand)}{fo:List (Nat×Nat×Nat)}{i:TI}{z zx:List FX}{k:Nat}{pre post:List DV}(hi:fq prog t=some i)(hk:i.k= .st fo)(hz:i.z=some z)
  (hb:ur lk fo z ps=some zx)(h0:zx[k]? =some .nl)(h1:jz (zx.take k)=some pre)(h2:jz (zx.drop (k+1))=some post):b9 prog GB C n lk bk ⟨some d, .build t ⟨ps⟩,ty',pos,af,gd⟩ (.bx false pre d post) [(d,some (.b e s [] true))] [d]:=by
 intro hd tl tb K' s1 s2 hf hk';refine⟨fun ρ G ov a w r Q=>?_⟩;obtain⟨v,hv,hv'⟩:=Di hi hz;have:=Ub hi hk;have hsp:zx=zx.take k++ .nl::zx.drop (k+1):=by
  obtain⟨hk1,hk2⟩:=aR.1 h0
  conv=>lhs;rw[<-kR k zx,bK hk1,hk2]
 obtain⟨l,h1',h2'⟩:=HB (r.mono s1 s2) (fo:=fo) ps _ _ _ hb (hv' ρ G);rw[hsp] at h2';obtain⟨m1,m2',rfl,k1,y,m2,rfl,k2,k3⟩:=VT h2'
 cases (show y= .slice none 0 0 from k2)
 have hy:Yd prog C (cG a) ov G ⟨some d, .build t ⟨ps⟩,ty',pos,af,gd⟩ (.agg ⟨m1++Value.slice none 0 0::m2⟩):=yp h1';have r3:=r.new' (x:=⟨none,0,0⟩) (B':= .b e s [] true) (os:=[]) (ov':=ov) (f:= .bx false pre d post) (y:= .agg ⟨m1++Value.slice none 0 0::m2⟩) hf (b7.refl G) r.h
  ⟨[],by simp only[if_true];exact .inl ⟨J,J,J⟩, .nil,omc,fun _ o ho=>by cases ho⟩ (fun o ho=>by cases ho) (fun m B _ _ o ho _=>⟨ho,omc⟩)
  ⟨m1,m2,omc,tr k1 h1,tr k3 h2⟩ (r.putA _ hd)
 exact lw (hy a w (c7 a) r.h) (hk'.run _ G ov _ w r3)
def PG(fr:aF)(cf:Cf):Option (Nat×List FX):=match di fr cf with
 |some ⟨some d, .build t ⟨ps⟩,_,_,_,_⟩=>match eo tt t with
  |some ⟨.st fo,_,some zx,_⟩=>match ur (ck fr cf) fo zx ps with
   |some l=>some (d,l)
   |none=>none
  |_=>none
 |_=>none
def YF[fu:Fu]{d:Nat}{zx:List FX}(e s kk:Nat)(pre post:List DV)(h:PG fr cf=some (d,zx))(h0:zx[kk]? =some .nl)(h1:jz (zx.take kk)=some pre)(h2:jz (zx.drop (kk+1))=some post)(hgo:c6 tt n fu.n fr own cf (.bx false pre d post) [(d,some (.b e s [] true))] [d]=⟨vc,fr',own',cf'⟩)(k:av prog GB C n Q0 fr' own' cf')
  (hv:autoParam (ak vc) cL._auto_1):av prog GB C n Q0 fr own cf:=by
 unfold PG at h;split at h<;>try (cases h;done)
 rename_i hh;split at h<;>try (cases h;done)
 rename_i hT;split at h<;>cases h;rename_i hb;exact us hh (YJ (fi _ _ hT) J J hb h0 h1 h2) hgo hv k
end
def sp1(f:bD)(m:aa)(k:Nat):List bD:=if k=0 then [] else fE f m 1
def sp2(f:bD)(m:aa)(k:Nat):List bD:=if k<=1 then [] else fE f m (-1)
def NH{l m:aa}(hl:LB l)(hm:LB m)(hlo:l.ok){side:Int}: ∀v∈jC l m side,nE v:=fun v hv=>⟨(ME hl hm hlo v hv).2.1,(ME hl hm hlo v hv).2.2⟩
def CD{l m:aa}{side:Int}:(jC l m side).length<=1:=by
 unfold jC;split
 .split<;>simp
 .split<;>simp
def Qq(op:Int)(a b:List ar):(qB op a b).length<=2*(a.length+b.length)+1:=by
 unfold qB y7;refine cX Io ?_;rw[aX,Bc];have:=Mb (a++b);rw[aY] at this;omega
theorem okg{p:Prop}(h:p:=by first|(unfold fE;rw[if_pos hon,if_pos hon];rfl)|rfl):p:=h
def aDz{f:bD}{m:aa}(h:ml f)[hm:LB m](hmo:m.ok):PF GB prog 151 [fG f,eL m] (.tp [.sl ((fE f m 1).map fG), .sl ((fE f m (-1)).map fG)]):=by
 haveI:=h.lb;refine fn func151 J J ntmps151 J J (fun C=>?_);refine rf (fu:=⟨1⟩) J J<|aj 14 (.d (vI (2:Nat))) J J<|gx J<|JB 6 0 60 176 14 J J J J J<|JB 6 1 61 176 14 J J J J J<|lp (X:=Nat) (fun k=>[(15, .d (vI (k:Nat))),(6, .ov 6 0)]) (fun k=>[(6,some (.o 306 [.rw 60, .rw 61] true)),(60,some (.b 176 14 ((sp1 f m k).map fG) true)),(61,some (.b 176 14 ((sp2 f m k).map fG) true))]) (fun k=>k<=2) (fun k=>2-k) 0 J we (fun _=>J) (fun k hk=>?_);refine br J J J (fun hc16=>?_) (fun hc16=>?_)
 .
  rcases(show k=0\/k=1 by omega) with rfl|rfl
  .
   refine ix _ J J J<|cl (fu:=⟨0⟩) J (NK (l:=f.l) (m:=m) (side:=1) h.ok hmo (.inl J)) J<|?_;obtain⟨cs,hcs⟩: ∃c,c=qB 2 [f.v] (jC f.l m 1):=⟨_,rfl⟩;have hcl:cs.length<=5:=by rw[hcs];have h1:=Qq 2 [f.v] (jC f.l m 1);have h2:=CD (l:=f.l) (m:=m) (side:=1);simp only[eY] at h1;omega
   refine aj 25 (.d (.tp [.sl ((jC f.l m 1).map eV),vB (nB f.l m)])) J J<|gx J<|bb J J J (fun hc28=>?_) (fun hc28=>?_)
   .
    have hon:nB f.l m=true:=hc28;exact rz J okg
   .
    have hon:nB f.l m=false:=by simpa using hc28
    refine rf J J<|cl (fu:=⟨0⟩) J (SZ (a:=[f.v]) (b:=jC f.l m 1) (fun v hv=>by rw[aT] at hv;subst hv;exact⟨h.lo,h.hi⟩) (NH h.lb hm h.ok) (by show 1<=100;decide) (by have:=CD (l:=f.l) (m:=m) (side:=1);omega)) J<|aj 33 (.d (.sl (cs.map eV))) J (by rw[hcs])<|gx (fu:=⟨1⟩) J<|aj 34 (.d (vI (cs.length:Nat))) J (by rw[ez eV cs]<;>rfl)<|gx J<|lp (X:=Nat) (fun j=>[(35, .d (vI (j:Nat)))]) (fun j=>[(60,some (.b 176 14 (((cs.take j).map fun v=>(⟨f.l,v⟩:bD)).map fG) true))]) (fun j=>j<=cs.length) (fun j=>cs.length-j) 0 J (aN _) (fun _=>J) (fun j hk=>?_);have hml:(((cs.take j).map fun v=>(⟨f.l,v⟩:bD)).map fG).length<=j:=by rw[aX,aX,bL];omega
    refine br J J J (fun hc36=>?_) (fun hc36=>?_)
    .
     obtain⟨z,hz⟩: ∃s,cs[j]? =some s:=⟨_,aZ we⟩;refine ix _ J (cp hz) J<|pC 0 (e:=169) (len:=2) (s:=1) J omd omd oma J<|rf J J<|ap (((cs.take (j+1)).map fun v=>(⟨f.l,v⟩:bD)).map fG) J (by rw[<-w6 hz,aL];rfl) (AP [⟨f.l,z⟩]) J<|pC (hv:=by simp only[ak];exact⟨omd,we⟩) 0 (e:=169) (len:=2) (s:=1) J omd omd oma J<|ek 48 60 J<|at_ (j+1) ⟨we,we⟩
    .
     obtain rfl:j=cs.length:=by omega
     rw[show(cs.take cs.length).map (fun v=>(⟨f.l,v⟩:bD))=fE f m 1 from by rw[cN];unfold fE;rw[if_neg (by rw[hon];decide),<-hcs]];exact at_ (0+1) ⟨we,we⟩
  .
   refine ix _ J J J<|cl (fu:=⟨0⟩) J (NK (l:=f.l) (m:=m) (side:= -1) h.ok hmo (.inr J)) J<|?_;obtain⟨cs,hcs⟩: ∃c,c=qB 2 [f.v] (jC f.l m (-1)):=⟨_,rfl⟩;have hcl:cs.length<=5:=by rw[hcs];have h1:=Qq 2 [f.v] (jC f.l m (-1));have h2:=CD (l:=f.l) (m:=m) (side:=(-1));simp only[eY] at h1;omega
   refine aj 25 (.d (.tp [.sl ((jC f.l m (-1)).map eV),vB (nB f.l m)])) J J<|gx J<|bb J J J (fun hc28=>?_) (fun hc28=>?_)
   .
    have hon:nB f.l m=true:=hc28;exact rz J okg
   .
    have hon:nB f.l m=false:=by simpa using hc28
    refine rf J J<|cl (fu:=⟨0⟩) J (SZ (a:=[f.v]) (b:=jC f.l m (-1)) (fun v hv=>by rw[aT] at hv;subst hv;exact⟨h.lo,h.hi⟩) (NH h.lb hm h.ok) (by show 1<=100;decide) (by have:=CD (l:=f.l) (m:=m) (side:=(-1));omega)) J<|aj 33 (.d (.sl (cs.map eV))) J (by rw[hcs])<|gx (fu:=⟨1⟩) J<|aj 34 (.d (vI (cs.length:Nat))) J (by rw[ez eV cs]<;>rfl)<|gx J<|lp (X:=Nat) (fun j=>[(35, .d (vI (j:Nat)))]) (fun j=>[(61,some (.b 176 14 (((cs.take j).map fun v=>(⟨f.l,v⟩:bD)).map fG) true))]) (fun j=>j<=cs.length) (fun j=>cs.length-j) 0 J (aN _) (fun _=>J) (fun j hk=>?_);have hml:(((cs.take j).map fun v=>(⟨f.l,v⟩:bD)).map fG).length<=j:=by rw[aX,aX,bL];omega
    refine br J J J (fun hc36=>?_) (fun hc36=>?_)
    .
     obtain⟨z,hz⟩: ∃s,cs[j]? =some s:=⟨_,aZ we⟩;refine ix _ J (cp hz) J<|pC 1 (e:=169) (len:=2) (s:=1) J omd omd oma J<|rf J J<|ap (((cs.take (j+1)).map fun v=>(⟨f.l,v⟩:bD)).map fG) J (by rw[<-w6 hz,aL];rfl) (AP [⟨f.l,z⟩]) J<|pC (hv:=by simp only[ak];exact⟨omd,we⟩) 1 (e:=169) (len:=2) (s:=1) J omd omd oma J<|ek 48 61 J<|at_ (j+1) ⟨we,we⟩
    .
     obtain rfl:j=cs.length:=by omega
     rw[show(cs.take cs.length).map (fun v=>(⟨f.l,v⟩:bD))=fE f m (-1) from by rw[cN];unfold fE;rw[if_neg (by rw[hon];decide),<-hcs]];exact at_ (1+1) ⟨we,we⟩
 .
  obtain rfl:k=2:=by omega
  refine pC 0 (e:=169) (len:=2) (s:=1) J omd omd oma J<|pC 1 (e:=169) (len:=2) (s:=1) J omd omd oma J<|gw 60 J<|gw 61 J<|rz J okg
def xg(p:ZP):DV:=eP p.q
def nI(r:List ZP):DV:= .sl (r.map xg)
def Id{r:List ZP}{i:Nat}(h:i<r.length):(r.map xg)[((i:Nat):Int).toNat]? =some (xg (r.getD i (0,0))):=by
 rw[cK,cJ,aV,aZ h];rfl
def aK9{r:List ZP}{i:Nat}(h:i<r.length):(r.map xg)[(((i+1)%r.length:Nat):Int).toNat]? =some (xg (jy r i)):=Id (dW _ we)
def aHV(v w p:ah):(sH v w p).natAbs<=1:=by
 unfold sH;split<;>split<;>decide
theorem omJ{p:Prop}(h:p:=by show vB _=vB _;unfold vz;congr 1;simp_all):p:=h
def avZ{fill n:Int}(hn:n.natAbs<=1000):PF GB prog 208 [vI fill,vI n] (vB (vz fill n)):=by
 refine fn func208 J J ntmps208 J J (fun C=>?_);refine cs 7 J J J (fun hg7=>?_) (fun hg7=>?_)
 .
  refine cs 12 J J J (fun hg12=>?_) (fun hg12=>?_)
  .
   exact rz J omJ
  .
   refine cs 15 J J J (fun hg15=>?_) (fun hg15=>?_)
   .
    exact rz J omJ
   .
    exact rz J omJ
 .
  refine cs 15 J J J (fun hg15=>?_) (fun hg15=>?_)
  .
   exact rz J omJ
  .
   exact rz J omJ
def rG(r:List ZP):DV:= .sl ((r.map ZP.q).map om)
def CJ(r:List ZP):DV.sl ((r.map ZP.q).map eP)=nI r:=by unfold nI;rw[oU];rfl
def ZY(out:List aa)(l:aa):(qn out l).length<=out.length+1:=by
 unfold qn;split
 .omega
 .simp;omega
def V5(c:List aa): ∀(t out:List aa),(ot c t out).length<=out.length+t.length
 |[],out=>by simp[ot]
 |l::t,out=>by
  rw[ot];refine cX (V5 c t _) ?_;have:=ZY out l;split<;>simp<;>omega
def pI(c:List aa):(cj c).length<=c.length:=cX (V5 c c []) omc
theorem HA{c:List aa}(h: ∀m∈c,LB m): ∀m∈cj c,LB m:=fun m hm=>h m (ke.1 hm).1
def Ez{c:List aa}(h: ∀m∈c,m.ok): ∀m∈cj c,m.ok:=fun m hm=>h m (ke.1 hm).1
def HT{c:List aa}{l:aa}(hc: ∀m∈c,LB m)(hok: ∀m∈c,m.ok)(hn:c.length<=900)(hl:LB l)(hlo:l.ok):PF GB prog 78 [.sl (c.map eL),eL l] (.sl ((cj (c++[l])).map eL)):=by
 have hcl:=yl c;refine fn func78 J J ntmps78 J J (fun C=>?_);refine oG J J<|ap (c.map eL) J J (du _) J<|rf J J<|kz ((c++[l]).map eL) J omO (du [l]) J<|cl J (DL (c:=c++[l]) (tF hc hl) (jp hok hlo) omq) J<|rz J J
def aB3{l l1:aa}{x y u:Tr}:PF GB prog 77 [eL l,eT (.node l1 x y),eT u] (eT (.node l (.node l1 x y) u)):=by
 refine fn (fu:=⟨12⟩) func77 J J ntmps77 J J (fun C=>?_);refine cv J J J<|gw 33 J<|rz J J
def ayY{l l1:aa}{x y:Tr}{p:Bool}:PF GB prog 77 [eL l,eT (.leaf p),eT (.node l1 x y)] (eT (.node l (.leaf p) (.node l1 x y))):=by
 refine fn (fu:=⟨12⟩) func77 J J ntmps77 J J (fun C=>?_);refine d7 (fu:=⟨4⟩) J J J<|cv J J J<|gw 33 J<|rz J J
def ayK{l:aa}{p q:Bool}:PF GB prog 77 [eL l,eT (.leaf p),eT (.leaf q)] (eT (Tr.joinQ l (.leaf p) (.leaf q))):=by
 refine fn (fu:=⟨12⟩) func77 J J ntmps77 J J (fun C=>?_);refine d7 (fu:=⟨4⟩) J J J<|d7 J J J<|bd J J J (fun hc27=>?_) (fun hc27=>?_)
 .
  exact rz J (by rw[show Tr.joinQ l (.leaf p) (.leaf q)= .leaf p by simp[Tr.joinQ,Tr.isLeaf,Tr.code,hc27]];rfl)
 .
  refine gw 33 J<|rz J (by rw[show Tr.joinQ l (.leaf p) (.leaf q)= .node l (.leaf p) (.leaf q) by simp[Tr.joinQ,Tr.isLeaf,Tr.code,hc27]];rfl)
def T5{l:aa}: ∀{x y:Tr},PF GB prog 77 [eL l,eT x,eT y] (eT (Tr.joinQ l x y))
 | .leaf _, .leaf _=>ayK
 | .leaf _, .node .. =>ayY
 | .node ..,_=>aB3
def ai5{b:Bool}{c:List aa}:PF GB prog 43 [eT (.leaf b), .sl (c.map eL)] (eT (Tr.restrictL (.leaf b) c)):=by
 refine fn (fu:=⟨11⟩) func43 J J ntmps43 J J (fun C=>?_);refine d7 J J J<|rz J J
def ai4{l:aa}{x y:Tr}{c:List aa}(hl:LB l)(hlo:l.ok)(hc: ∀m∈c,LB m)(hok: ∀m∈c,m.ok)(hn:c.length+(Tr.node l x y).depth<=900)(ihx: ∀{c:List aa},(∀m∈c,LB m)->(∀m∈c,m.ok)->c.length+x.depth<=900->PF GB prog 43 [eT x, .sl (c.map eL)] (eT (Tr.restrictL x c)))(ihy: ∀{c:List aa},(∀m∈c,LB m)->(∀m∈c,m.ok)->c.length+y.depth<=900->PF GB prog 43 [eT y, .sl (c.map eL)] (eT (Tr.restrictL y c))):PF GB prog 43 [eT (.node l x y), .sl (c.map eL)] (eT (Tr.restrictL (.node l x y) c)):=by
 have hdp:(Tr.node l x y).depth=1+Nat.max x.depth y.depth:=J;have hdx:x.depth<=Nat.max x.depth y.depth:=pT _ _;have hdy:y.depth<=Nat.max x.depth y.depth:=pX _ _;have hca:=pI (c++[l]);have hcb:=pI (c++[l.rev]);rw[aY,eY] at hca hcb;refine fn (fu:=⟨11⟩) func43 J J ntmps43 J J (fun C=>?_);refine cv J J J<|cl J (Ue (c:=c) (l:=l) hc hok we hl hlo) J<|br J J J (fun hc16=>?_) (fun hc16=>?_)
 .
  refine cl J (ihx hc hok we) J<|rz J (by rw[Tr.restrictL,if_pos hc16];rfl)
 .
  refine br J J J (fun hc24=>?_) (fun hc24=>?_)
  .
   refine cl J (ihy hc hok we) J<|rz J (by rw[Tr.restrictL,if_neg hc16,if_pos hc24];rfl)
  .
   refine cl J (HT (c:=c) (l:=l) hc hok we hl hlo) J<|cl J (ihx (c:=cj (c++[l])) (HA (tF hc hl)) (Ez (jp hok hlo)) we) J<|cl J (ym (l:=l)) J<|cl J (HT (c:=c) (l:=l.rev) hc hok we hl.rev hlo.rev) J<|cl J (ihy (c:=cj (c++[l.rev])) (HA (tF hc hl.rev)) (Ez (jp hok hlo.rev)) we) J<|cl J T5 J<|rz J (by rw[Tr.restrictL,if_neg hc16,if_neg hc24];rfl)
def HM: ∀{t:Tr} {c:List aa},t.all LB->t.all aa.ok->(∀m∈c,LB m)->(∀m∈c,m.ok)->c.length+t.depth<=900->PF GB prog 43 [eT t, .sl (c.map eL)] (eT (Tr.restrictL t c))
 | .leaf _,_,_,_,_,_,_=>ai5
 | .node l x y,c,hb,ho,hc,hok,hn=>ai4 hb.1 ho.1 hc hok hn (fun h1 h2 h3=>HM hb.2.1 ho.2.1 h1 h2 h3) (fun h1 h2 h3=>HM hb.2.2 ho.2.2 h1 h2 h3)

def PP(xs ys:List NQ)(n:NQ):((xs++(n::ys)).map eN)[((xs.length:Nat):Int).toNat]? =some (eN n):=by simp
def UE(xs ys:List NQ)(n m:NQ)(e:DV)(h:e=eN m):((xs++(n::ys)).map eN).set ((xs.length:Nat):Int).toNat e=(xs++(m::ys)).map eN:=by subst h;simp
def aqf{ns:List NQ}:PB GB prog 26 (f7 [some (eT (.leaf true)),none]) 8 94 (ns.map eN) (fun w=> .tp ([]++ .v (.slice w.a w.n w.c)::[.v (.int .i64 (Tr.num (.leaf true) ns.length))])) ((ns++Tr.wr (.leaf true) ns.length).map eN):=by
 refine MI (fu:=⟨12⟩) func26 J J ntmps26 J J (fun C=>?_);refine d7 (fu:=⟨9⟩) J J J<|d7 J J J<|?_;exact JX J J J J J (by simp[Tr.wr]) J
def anx{ns:List NQ}:PB GB prog 26 (f7 [some (eT (.leaf false)),none]) 8 94 (ns.map eN) (fun w=> .tp ([]++ .v (.slice w.a w.n w.c)::[.v (.int .i64 (Tr.num (.leaf false) ns.length))])) ((ns++Tr.wr (.leaf false) ns.length).map eN):=by
 refine MI (fu:=⟨12⟩) func26 J J ntmps26 J J (fun C=>?_);refine d7 (fu:=⟨9⟩) J J J<|cv J J J<|?_;exact JX J J J J J (by simp[Tr.wr]) J
theorem okb{p:Prop}(h:p:=by rw[aL]<;>rfl):p:=h
def XT{l:aa}{s u:Tr}{ns:List NQ}(hl:BL l 96)(hs:ns.length+(1+s.size+u.size)<=1000000)(ihs: ∀{ns:List NQ},ns.length+s.size<=1000000->PB GB prog 26 (f7 [some (eT s),none]) 8 94 (ns.map eN) (fun w=> .tp ([]++ .v (.slice w.a w.n w.c)::[.v (.int .i64 (Tr.num s ns.length))])) ((ns++Tr.wr s ns.length).map eN))(ihu: ∀{ns:List NQ},ns.length+u.size<=1000000->PB GB prog 26 (f7 [some (eT u),none]) 8 94 (ns.map eN) (fun w=> .tp ([]++ .v (.slice w.a w.n w.c)::[.v (.int .i64 (Tr.num u ns.length))])) ((ns++Tr.wr u ns.length).map eN)):PB GB prog 26 (f7 [some (eT (.node l s u)),none]) 8 94 (ns.map eN) (fun w=> .tp ([]++ .v (.slice w.a w.n w.c)::[.v (.int .i64 (Tr.num (.node l s u) ns.length))])) ((ns++Tr.wr (.node l s u) ns.length).map eN):=by
 refine MI (fu:=⟨12⟩) func26 J J ntmps26 J J (fun C=>?_);refine cv (fu:=⟨9⟩) J J J<|aj 20 (.d (.v (.int .i64 (ns.length:Nat)))) J omc<|gx J<|cl J (aKT hl) J<|rf J J<|T2 ((ns++[(⟨l,0,0⟩:NQ)]).map eN) J okb (ZO [(⟨l,0,0⟩:NQ)]) J<|cb _ J (ihs (ns:=ns++[(⟨l,0,0⟩:NQ)]) omq) J J<|cb (hv:=by simp only[ak];exact omq) ((ns++((⟨l,0,0⟩:NQ)::(s.wr (ns.length+1)++u.wr (ns.length+1+s.size)))).map eN) J (ihu (ns:=ns++[(⟨l,0,0⟩:NQ)]++s.wr (ns++[(⟨l,0,0⟩:NQ)]).length) (by simp[Tr.wr_len];omega)) (by simp[Tr.wr_len,lT,lJ 1]) J<|sb (hv:=by simp only[ak];exact omq) (eN ⟨l,0,0⟩) ((ns++((⟨l,s.num (ns.length+1),0⟩:NQ)::(s.wr (ns.length+1)++u.wr (ns.length+1+s.size)))).map eN) J (PP ns _ ⟨l,0,0⟩) J (by rw[UE _ _ _ ⟨l,s.num (ns.length+1),0⟩ _ (by simp[eN,DV.cells])]) J<|sb (eN ⟨l,s.num (ns.length+1),0⟩) ((ns++Tr.wr (.node l s u) ns.length).map eN) J (PP ns _ ⟨l,s.num (ns.length+1),0⟩) J (by rw[UE _ _ _ ⟨l,s.num (ns.length+1),u.num (ns.length+1+s.size)⟩ _ (by simp[eN,DV.cells,Tr.wr_len,lT,lJ 1])];simp[Tr.wr]) J<|?_;exact JX J J J J J J J
def Jj: ∀{t:Tr} {ns:List NQ},t.all (fun l=>BL l 96)->ns.length+t.size<=1000000->PB GB prog 26 (f7 [some (eT t),none]) 8 94 (ns.map eN) (fun w=> .tp ([]++ .v (.slice w.a w.n w.c)::[.v (.int .i64 (Tr.num t ns.length))])) ((ns++Tr.wr t ns.length).map eN)
 | .leaf true,ns,_,_=>aqf
 | .leaf false,ns,_,_=>anx
 | .node l s u,ns,hb,hs=>XT hb.1 hs (fun h=>Jj hb.2.1 h) (fun h=>Jj hb.2.2 h)
def Iv{t:Tr}(hb:t.all (fun l=>BL l 96))(hs:t.size<=1000000:=by omega):PF GB prog 7 [eT t] (eA t):=by
 refine fn func7 J J ntmps7 J J (fun C=>?_);refine ZA _ J (Jj (t:=t) (ns:=[]) hb (by simpa using hs)) J J<|gw 6 J<|rz J J
def Z'(ds:List Int):cO 1 (ds.map vI):=fun d hd=>by
 obtain⟨n,_,rfl⟩:=aU.1 hd;exact⟨rfl,rfl⟩
def Pk{ns:List NQ}{i:Nat}(h:i<ns.length:=by omega):(ns.map eN)[(i:Int).toNat]? =some (eN ns[i]):=by simp[h]
def UX(ns:List NQ):(ns.map eN).length=ns.length:=aX ..
def Bi{ns ms:List NQ}(hl:ns.length=ms.length)(h: ∀j (h1:j<ns.length) (h2:j<ms.length),ns[j]=ms[j]):ns=ms:=List.ext_getElem hl h
def aBF(es:List Int):(es.map vI).take (min es.length 400)=(es.take 400).map vI:=by
 rw[iT];rcases Nat.le_total es.length 400 with h|h
 .rw[kW h,bM omc,bM omE]
 .rw[Nat.min_eq_right h]
def aK6{es:List Int}(hb:es.length<=1125899906842624):PN GB prog 4 [.sl (es.map vI)] 46 Unit (fun _=>[.sl ((es.take 400).map vI), .v (.int .i64 (0:Nat))]):=by
 have hel:(es.map vI).length=es.length:=by simp
 refine WA func4 J J ntmps4 J J (fun C hmb=>?_);refine kp 0 (min es.length 400) ((es.take 400).map vI) J J (by rw[hel];show(if _ then _ else _:Int)=_;split<;>omega) (aBF es) (Z' _) we we J<|?_;exact rzN () J J J J J
theorem oml{p:Prop}(h:p:=by first|(rw[decide_eq_true (⟨Decidable.not_not.1 hg13,Bi we (fun j p q=>h2 j p q we)⟩:a=b/\ns=ms)];rfl)|(rw[decide_eq_false (fun e:a=b/\ns=ms=>by obtain⟨e1,e2⟩:=e;subst e2;first|exact hg13 e1|exact hc21 rfl|exact hg40 rfl|exact hg47 rfl|(simp at hc54))];rfl)):p:=h
def aFb{s t:Tr}(hs:s.all (fun l=>BL l 96))(ht:t.all (fun l=>BL l 96))(hn:s.size<=1000000):PF GB prog 13 [eA s,eA t] (vB (decide (s.num 0=t.num 0/\s.wr 0=t.wr 0))):=by
 have hbs:=Tr.all_wr 0 hs;have hbt:=Tr.all_wr 0 ht;have hsl:=s.wr_len 0;have hls:=UX (s.wr 0);have hlt:=UX (t.wr 0);unfold eA;generalize hns:s.wr 0=ns at*;generalize hms:t.wr 0=ms at*;generalize ha:s.num 0=a at*;generalize hb:t.num 0=b at*;refine fn func13 J J ntmps13 J J (fun C=>?_);refine cs 13 J J J (fun hg13=>?_) (fun hg13=>?_)
 .
  exact rz rfl oml
 .
  refine br (fu2:=⟨8⟩) J J J (fun hc21=>?_) (fun hc21=>?_)
  .
   exact rz rfl oml
  .
   refine aj 24 (.d (vI (ns.length:Nat))) J (by rw[hls]<;>rfl)<|gx J<|lp (X:=Nat) (fun i=>[(25, .d (vI (i:Nat)))]) (fun i=>[]) (fun i=>i<=ns.length/\ ∀j (h1:j<ns.length) (h2:j<ms.length),j<i->ns[j]=ms[j]) (fun i=>ns.length-i) 0 J ⟨aN _,fun j _ _ hj=>absurd hj we⟩ (fun _=>J) (fun i hk=>?_);obtain⟨h1,h2⟩:=hk;have hi2:i<ns.length->i<ms.length:=fun h=>by omega
   refine br J J J (fun hc26=>?_) (fun hc26=>?_)
   .
    refine ix _ J (Pk) J<|ix _ J (Pk) J<|cs 40 J J J (fun hg40=>?_) (fun hg40=>?_)
    .
     exact rz rfl oml
    .
     refine cs 47 J J J (fun hg47=>?_) (fun hg47=>?_)
     .
      exact rz rfl oml
     .
      refine cl J (Zo (l:=(ns[i]' we).l) (m:=(ms[i]' we).l) (hbs _ (dQ we)) (hbt _ (dQ we))) J<|bb J J J (fun hc54=>?_) (fun hc54=>?_)
      .
       exact rz rfl oml
      .
       exact at_ (i+1) ⟨⟨we,fun j p q hj=>by by_cases e:j=i;(subst e;exact NQ.ext' (by simpa using hc54) (Decidable.not_not.1 hg40) (Decidable.not_not.1 hg47));exact h2 j p q we⟩,we⟩
   .
    exact rz rfl oml
def JT{t:Tr}(hb:t.all LB)(hok:t.all aa.ok)(hd:t.depth<=900):PF GB prog 17 [eT t] (eT (t.restrict [])):=by
 refine fn func17 J J ntmps17 J J (fun C=>?_);refine cl J (HM (t:=t) (c:=[]) hb hok omc omc (by simpa using hd)) J<|rz J (by rw[<-Tr.restrictL_eq t [] [] hok omc bw.nil (fun p=>by unfold bu d8;simp)];rfl)
def Q5{cuts:List Rat}{marks:List Bool}: ∀k,2*(iz cuts marks k).length<=k+(if 0<k/\marks.getD (k-1) false=true then 1 else 0)
 |0=>by rw[iz];simp
 |k+1=>by
  have ih:=Q5 (cuts:=cuts) (marks:=marks) k;rw[iz];simp only[kN];by_cases hm:marks.getD k false=true
  .rw[if_pos hm,if_pos (show 0<k+1/\marks.getD k false=true from⟨we,hm⟩)]
   by_cases hp:0<k/\marks.getD (k-1) false=true
   .rw[if_pos hp] at ih⊢
    cases hv:(iz cuts marks k).getLast? with
    |some v=>
     have:0<(iz cuts marks k).length:=by
      cases e:iz cuts marks k with
      |nil=>rw[e] at hv;simp at hv
      |cons a t=>simp
     show 2*((iz cuts marks k).dropLast++[_]).length<=_;rw[aY,nQ,eY];omega
    |none=>
     have:iz cuts marks k=[]:=List.getLast?_eq_none_iff.1 hv;simp only[this];simp
   .rw[if_neg hp] at ih⊢
    rw[aY,eY];omega
  .rw[if_neg hm]
   split at ih<;>split<;>omega
def aAn(op:Int)(a b:List ar):(qB op a b).length<=a.length+b.length+1:=by
 unfold qB y7;have h:=Q5 (cuts:=kr (a++b)) (marks:=(cB (kr (a++b))).map fun t=>pD op (gH a t) (gH b t)) ((cB (kr (a++b))).map fun t=>pD op (gH a t) (gH b t)).length;have h2:=Mb (a++b);rw[aY] at h2;have h3:((cB (kr (a++b))).map fun t=>pD op (gH a t) (gH b t)).length=(kr (a++b)).length+1:=by rw[aX,Bc]
 split at h<;>omega
def Jp(f:bD)(m:aa)(side:Int):(fE f m side).length<=3:=by
 unfold fE;split
 .simp
 .rw[aX]
  have:=aAn 2 [f.v] (jC f.l m side);have h2:=CD (l:=f.l) (m:=m) (side:=side);rw[eY] at this;omega
theorem arR{p v:ah}{m:aa}{s:Rat}[hp:aD p 4500][hv:aD v 97][hm:LB m](hs:BQ s 60000):BQ (vh p v m s) 60000:=by
 unfold vh vS;split
 .exact hs
 .split
  .exact hs
  .split
   .split
    .haveI:BQ (-(m.value p/(m.value (cD p v ((1:Int):Rat))-m.value p))) 45000:=BQ.mono inferInstance
     exact BQ.mono (inferInstance:BQ (-(m.value p/(m.value (cD p v ((1:Int):Rat))-m.value p))/2) _)
    .exact hs
   .exact hs
theorem R4{p v:ah}[hp:aD p 4500][hv:aD v 97]: ∀{c:List aa} {s:Rat},(∀m∈c,LB m)->BQ s 60000->BQ (tE p v c s) 60000
 |[],_,_,hs=>hs
 |m::t,s,hc,hs=>by
  haveI:=hc m aQ;exact R4 (c:=t) (fun q hq=>hc q (aJ _ hq)) (arR hs)
theorem Qu{c:List aa}(hc: ∀m∈c,LB m)(hok: ∀m∈c,m.ok): ∀{t:List aa},(∀m∈t,m∈c)->aD (kv c t) 70000
 |[],_=>by
  have h0:BQ (0:Rat) 70000:=BQ.mono (k:=1) ⟨oma,oma⟩;exact⟨h0,h0⟩
 |m::t,h=>by
  have hm:=h m aQ;haveI:=hc m hm;rw[kv];split
  .have hbd:=HK (v:=ar.all) (hok m hm).ne hc ir.all (BQ.mono (k:=1) ⟨oma,oma⟩) (BQ.mono (k:=1) ⟨oma,oma⟩)
   haveI:=hbd.1;haveI:=hbd.2;haveI hsb:=Tg (v:=(gy m c ar.all).1) (i:=1200);haveI hpt:aD (m.at (lz (gy m c ar.all).1)) 4500:=by have:=aD.at m (lz (gy m c ar.all).1) (1200+1200+5);exact⟨this.x.mono oma,this.y.mono oma⟩
   haveI hvt:aD (iF m.dir) 97:=inferInstance;haveI hns:BQ (tE (m.at (lz (gy m c ar.all).1)) (iF m.dir) c ((1:Int):Rat)) 60000:=R4 hc (BQ.mono (k:=2) ⟨oma,oma⟩);have:=aD.mov (m.at (lz (gy m c ar.all).1)) (iF m.dir) (tE (m.at (lz (gy m c ar.all).1)) (iF m.dir) c ((1:Int):Rat)) 4500 97 60000;exact⟨this.x.mono oma,this.y.mono oma⟩
  .exact Qu hc hok (fun q hq=>h q (aJ _ hq))
def Rs{l:List bD}{k:Nat}{g:bD}{m:aa}{side:Int}(h:l[k]? =some g):(l.take (k+1)).flatMap (fun g=>fE g m side)=(l.take k).flatMap (fun g=>fE g m side)++fE g m side:=by
 rw[dJ,h,qN];simp
def GK(l:List bD)(m:aa)(side:Int):(l.flatMap fun g=>fE g m side).length<=3*l.length:=by
 induction l with
 |nil=>simp
 |cons a t ih=>rw[gJ,aY,aS];have:=Jp a m side;omega
def aBu{acc:ah->Bool}{n:Nat}{c:List aa}:jD acc n [] c= .leaf (acc (kv c c)):=by cases n<;>rfl
def aAN(l:List bD):uI l.length l:=⟨l.map bD.l,by rw[aX];exact bV _,fun f hf=>⟨f.l,dX hf, .inl J⟩⟩
def aE9{n:Nat}(h:n<=18):n*3^n<=6973568802:=cX (fZ h (bR oma h)) oma
def auy{b:Bool}:PF GB prog 21 [eT (.leaf b)] (eT (Tr.compl (.leaf b))):=by
 refine fn (fu:=⟨11⟩) func21 J J ntmps21 J J (fun C=>?_);refine d7 J J J<|cl J (oC (p:=!b)) J<|rz J J
def aux{l:aa}{x y:Tr}(ihx:PF GB prog 21 [eT x] (eT x.compl))(ihy:PF GB prog 21 [eT y] (eT y.compl)):PF GB prog 21 [eT (.node l x y)] (eT (Tr.compl (.node l x y))):=by
 refine fn (fu:=⟨11⟩) func21 J J ntmps21 J J (fun C=>?_);refine cv J J J<|cl J ihx J<|cl (fu:=⟨1⟩) J ihy J<|GY J J<|rz J J
def mj: ∀{t:Tr},PF GB prog 21 [eT t] (eT t.compl)
 | .leaf _=>auy
 | .node _ _ _=>aux mj mj
theorem omj{p:Prop}(h:p:=by show eT _=eT _;congr 1;rw[Tr.mergeL];unfold Tr.chooseL;(repeat' split)<;>first|rfl|(exfalso;simp_all;done)|(exfalso;omega)):p:=h
def am9{op:Int}{b:Bool}{u:Tr}{c:List aa}(hu:u.all LB)(huo:u.all aa.ok)(hc: ∀m∈c,LB m)(hok: ∀m∈c,m.ok)(hn:c.length+u.depth<=900):PF GB prog 39 [vI op,eT (.leaf b),eT u, .sl (c.map eL)] (eT (Tr.mergeL op (.leaf b) u c)):=by
 refine fn (fu:=⟨11⟩) func39 J J ntmps39 J J (fun C=>?_);refine d7 J J J<|cl J (HM (t:=u) (c:=c) hu huo hc hok hn) J<|cs 20 J J J (fun hg20=>?_) (fun hg20=>?_)
 .
  refine bb J J J (fun hc17=>?_) (fun hc17=>?_)
  .
   refine cl J (oC (p:=true)) J<|rz J omj
  .
   refine cs 30 J J J (fun hg30=>?_) (fun hg30=>?_)
   .
    refine bb J J J (fun hc27=>?_) (fun hc27=>?_)
    .
     refine cl J (oC (p:=false)) J<|rz J omj
    .
     refine cs 45 J J J (fun hg45=>?_) (fun hg45=>?_)
     .
      refine bb J J J (fun hc42=>?_) (fun hc42=>?_)
      .
       refine cl J mj J<|rz J omj
      .
       exact rz J omj
     .
      refine cs 49 J J J (fun hg49=>?_) (fun hg49=>?_)
      .
       refine bb J J J (fun hc42=>?_) (fun hc42=>?_)
       .
        refine cl J mj J<|rz J omj
       .
        exact rz J omj
      .
       exact rz J omj
   .
    refine cs 34 J J J (fun hg34=>?_) (fun hg34=>?_)
    .
     refine bb J J J (fun hc27=>?_) (fun hc27=>?_)
     .
      refine cl J (oC (p:=false)) J<|rz J omj
     .
      refine cs 45 J J J (fun hg45=>?_) (fun hg45=>?_)
      .
       refine bb J J J (fun hc42=>?_) (fun hc42=>?_)
       .
        refine cl J mj J<|rz J omj
       .
        exact rz J omj
      .
       refine cs 49 J J J (fun hg49=>?_) (fun hg49=>?_)
       .
        refine bb J J J (fun hc42=>?_) (fun hc42=>?_)
        .
         refine cl J mj J<|rz J omj
        .
         exact rz J omj
       .
        exact rz J omj
    .
     refine cs 45 J J J (fun hg45=>?_) (fun hg45=>?_)
     .
      refine bb J J J (fun hc42=>?_) (fun hc42=>?_)
      .
       refine cl J mj J<|rz J omj
      .
       exact rz J omj
     .
      refine cs 49 J J J (fun hg49=>?_) (fun hg49=>?_)
      .
       refine bb J J J (fun hc42=>?_) (fun hc42=>?_)
       .
        refine cl J mj J<|rz J omj
       .
        exact rz J omj
      .
       exact rz J omj
 .
  refine cs 30 J J J (fun hg30=>?_) (fun hg30=>?_)
  .
   refine bb J J J (fun hc27=>?_) (fun hc27=>?_)
   .
    refine cl J (oC (p:=false)) J<|rz J omj
   .
    refine cs 45 J J J (fun hg45=>?_) (fun hg45=>?_)
    .
     refine bb J J J (fun hc42=>?_) (fun hc42=>?_)
     .
      refine cl J mj J<|rz J omj
     .
      exact rz J omj
    .
     refine cs 49 J J J (fun hg49=>?_) (fun hg49=>?_)
     .
      refine bb J J J (fun hc42=>?_) (fun hc42=>?_)
      .
       refine cl J mj J<|rz J omj
      .
       exact rz J omj
     .
      exact rz J omj
  .
   refine cs 34 J J J (fun hg34=>?_) (fun hg34=>?_)
   .
    refine bb J J J (fun hc27=>?_) (fun hc27=>?_)
    .
     refine cl J (oC (p:=false)) J<|rz J omj
    .
     refine cs 45 J J J (fun hg45=>?_) (fun hg45=>?_)
     .
      refine bb J J J (fun hc42=>?_) (fun hc42=>?_)
      .
       refine cl J mj J<|rz J omj
      .
       exact rz J omj
     .
      refine cs 49 J J J (fun hg49=>?_) (fun hg49=>?_)
      .
       refine bb J J J (fun hc42=>?_) (fun hc42=>?_)
       .
        refine cl J mj J<|rz J omj
       .
        exact rz J omj
      .
       exact rz J omj
   .
    refine cs 45 J J J (fun hg45=>?_) (fun hg45=>?_)
    .
     refine bb J J J (fun hc42=>?_) (fun hc42=>?_)
     .
      refine cl J mj J<|rz J omj
     .
      exact rz J omj
    .
     refine cs 49 J J J (fun hg49=>?_) (fun hg49=>?_)
     .
      refine bb J J J (fun hc42=>?_) (fun hc42=>?_)
      .
       refine cl J mj J<|rz J omj
      .
       exact rz J omj
     .
      exact rz J omj
def Y8{op:Int}{l:aa}{x y u:Tr}{c:List aa}(hl:LB l)(hlo:l.ok)(hc: ∀m∈c,LB m)(hok: ∀m∈c,m.ok)(hn:c.length+(Tr.node l x y).depth+u.depth<=900)(ihx: ∀{c:List aa},(∀m∈c,LB m)->(∀m∈c,m.ok)->c.length+x.depth+u.depth<=900->PF GB prog 39 [vI op,eT x,eT u, .sl (c.map eL)] (eT (Tr.mergeL op x u c)))(ihy: ∀{c:List aa},(∀m∈c,LB m)->(∀m∈c,m.ok)->c.length+y.depth+u.depth<=900->PF GB prog 39 [vI op,eT y,eT u, .sl (c.map eL)] (eT (Tr.mergeL op y u c))):PF GB prog 39 [vI op,eT (.node l x y),eT u, .sl (c.map eL)] (eT (Tr.mergeL op (.node l x y) u c)):=by
 have hdp:(Tr.node l x y).depth=1+Nat.max x.depth y.depth:=J;have hdx:x.depth<=Nat.max x.depth y.depth:=pT _ _;have hdy:y.depth<=Nat.max x.depth y.depth:=pX _ _;have hca:=pI (c++[l]);have hcb:=pI (c++[l.rev]);rw[aY,eY] at hca hcb;refine fn (fu:=⟨11⟩) func39 J J ntmps39 J J (fun C=>?_);refine cv J J J<|cl J (Ue (c:=c) (l:=l) hc hok we hl hlo) J<|br J J J (fun hc64=>?_) (fun hc64=>?_)
 .
  refine cl J (ihx hc hok we) J<|rz J (by rw[Tr.mergeL,if_pos hc64];rfl)
 .
  refine br J J J (fun hc74=>?_) (fun hc74=>?_)
  .
   refine cl J (ihy hc hok we) J<|rz J (by rw[Tr.mergeL,if_neg hc64,if_pos hc74];rfl)
  .
   refine cl J (HT (c:=c) (l:=l) hc hok we hl hlo) J<|cl J (ihx (c:=cj (c++[l])) (HA (tF hc hl)) (Ez (jp hok hlo)) we) J<|cl J (ym (l:=l)) J<|cl J (HT (c:=c) (l:=l.rev) hc hok we hl.rev hlo.rev) J<|cl J (ihy (c:=cj (c++[l.rev])) (HA (tF hc hl.rev)) (Ez (jp hok hlo.rev)) we) J<|cl J T5 J<|rz J (by rw[Tr.mergeL,if_neg hc64,if_neg hc74];rfl)
def KH{op:Int}{u:Tr}(hu:u.all LB)(huo:u.all aa.ok): ∀{t:Tr} {c:List aa},t.all LB->t.all aa.ok->(∀m∈c,LB m)->(∀m∈c,m.ok)->c.length+t.depth+u.depth<=900->PF GB prog 39 [vI op,eT t,eT u, .sl (c.map eL)] (eT (Tr.mergeL op t u c))
 | .leaf _,_,_,_,hc,hok,hn=>am9 hu huo hc hok (cX (Nat.add_le_add_right (nT _ _) _) hn)
 | .node l x y,c,hb,ho,hc,hok,hn=>Y8 hb.1 ho.1 hc hok hn (fun h1 h2 h3=>KH hu huo hb.2.1 ho.2.1 h1 h2 h3) (fun h1 h2 h3=>KH hu huo hb.2.2 ho.2.2 h1 h2 h3)

def XG(l:aa)(p q:DV):List DV:=[.v (.bool false), .v (.bool false), .v (.bool (decide (l.a<0))),dN l.a.natAbs, .v (.bool (decide (l.b<0))),dN l.b.natAbs, .v (.bool (decide (l.c<0))),dN l.c.natAbs,p,q]
def aKM{G:Gh}{b1 b2 b3:Bool}{l1 l2 l3:List DV}{v:Value}(h:Is G (.ag [.v (.bool b1), .sl l1, .v (.bool b2), .sl l2, .v (.bool b3), .sl l3]) v): ∃x1 x2 x3:SV,v= .agg ⟨[.bool b1, .slice x1.a x1.n x1.c, .bool b2, .slice x2.a x2.n x2.c, .bool b3, .slice x3.a x3.n x3.c]⟩:=by
 obtain⟨m,rfl,g⟩:=eH.1 h;clear h;obtain⟨v1,m,rfl,h1,h⟩:=bA.1 g;obtain⟨v2,m,rfl,h2,h⟩:=bA.1 h;obtain⟨v3,m,rfl,h3,h⟩:=bA.1 h;obtain⟨v4,m,rfl,h4,h⟩:=bA.1 h;obtain⟨v5,m,rfl,h5,h⟩:=bA.1 h;obtain⟨v6,m,rfl,h6,h⟩:=bA.1 h;rw[fh] at h;subst h;obtain⟨_,x1,_,rfl,_,_⟩:=ie.1 h2;obtain⟨_,x2,_,rfl,_,_⟩:=ie.1 h4;obtain⟨_,x3,_,rfl,_,_⟩:=ie.1 h6;rw[aP.1 h1,aP.1 h3,aP.1 h5];exact⟨x1,x2,x3,J⟩
def TO{G:Gh}{b:Bool}:IsLs G (cT (.leaf b)) [.bool true, .bool b, .bool false, .slice none 0 0, .bool false, .slice none 0 0, .bool false, .slice none 0 0, .pointer none, .pointer none]:=by
 have hs:Is G (.sl []) (.slice none 0 0):=ie.2 ⟨0,⟨none,0,0⟩,[],J, .nil G 0, .nil⟩;exact .cons (aP.2 J) (.cons (aP.2 J) (.cons (aP.2 J) (.cons hs (.cons (aP.2 J) (.cons hs (.cons (aP.2 J) (.cons hs (.cons (aP.2 J) (.cons (aP.2 J) .nil)))))))))
def X3{acs:List Value}{o:Nat}{a b c d e f l r:Value}(h:cF acs o 8=some [a,b,c,d,e,f,l,r]):cF acs (o+0) 6=some [a,b,c,d,e,f]/\acs[o+6]? =some l/\acs[o+7]? =some r:=by
 obtain⟨_,hg⟩:=ru _ _ _ _ h;have h7:=hg 7 oma;have hlen:=(aR.1 h7).1;refine⟨?_,hg 6 oma,h7⟩;rw[mi _ _ _ we];congr 1;apply mX;intro i;rw[pV];split
 .rename_i hi
  rw[mS];have:=hg i we;rw[gV,this]
  match i,hi with
  |0,_=>rfl
  |1,_=>rfl
  |2,_=>rfl
  |3,_=>rfl
  |4,_=>rfl
  |5,_=>rfl
 .rename_i hi
  rw[fK (by simp only[aS,eX];omega)]
def Yw{G:Gh}{l:aa}{p q:DV}{a b c d e f v w:Value}(h:Is G (eL l) (.agg ⟨[a,b,c,d,e,f]⟩))(hp:Is G p v)(hq:Is G q w):IsLs G (XG l p q) [.bool false, .bool false,a,b,c,d,e,f,v,w]:=by
 obtain⟨m,e',g⟩:=eH.1 h
 cases e'
 obtain⟨h1,g⟩:=g.uncons;obtain⟨h2,g⟩:=g.uncons;obtain⟨h3,g⟩:=g.uncons;obtain⟨h4,g⟩:=g.uncons;obtain⟨h5,g⟩:=g.uncons;obtain⟨h6,g⟩:=g.uncons;exact .cons (aP.2 J) (.cons (aP.2 J) (.cons h1 (.cons h2 (.cons h3 (.cons h4 (.cons h5 (.cons h6 (.cons hp (.cons hq .nil)))))))))
def RN.of(n:NQ):RN:=⟨⟨decide (n.l.a<0),dg n.l.a.natAbs,decide (n.l.b<0),dg n.l.b.natAbs,decide (n.l.c<0),dg n.l.c.natAbs⟩,n.a,n.b⟩
def Xf(a:Int):qE (decide (a<0)) (dg a.natAbs)=a:=by
 unfold qE;rw[(gh _).1];split
 .rename_i h;have:=of_decide_eq_true h;omega
 .rename_i h;have: ¬a<0:=fun e=>h (decide_eq_true e);omega
def IL(a:Int):uH (decide (a<0)) (dg a.natAbs):=⟨(gh _).2.2,fun h=>vH.2 (by have:=of_decide_eq_true h;omega)⟩
def RN.of_l(n:NQ):(RN.of n).g.l=n.l:=by
 unfold RN.of RL.l;simp only[Xf]
def RN.of_sm{n:NQ}(h:LB n.l):(RN.of n).g.sm:=by
 have key: ∀a:Int,a.natAbs<2^96->bH (dg a.natAbs)/\(dg a.natAbs).length<=3:=fun a ha=>⟨(gh _).2.1,by have:=kA ha;omega⟩;exact⟨key _ h.bl.a,key _ h.bl.b,key _ h.bl.c⟩
def Tr.all_imp{p q:aa->Prop}(h: ∀l,p l->q l): ∀{t:Tr},t.all p->t.all q
 | .leaf _,_=>trivial
 | .node _ _ _,⟨h0,h1,h2⟩=>⟨h _ h0,Tr.all_imp h h1,Tr.all_imp h h2⟩
def kh.red_size{k:Nat}{t:Tr}(h:kh k t)(hr:t.Red []):t.size<=k*(1+k):=by
 obtain⟨K,h1,h2,h3⟩:=h.am;exact cX (Tr.size_le h2 hr h.gd.ok bw.nil h3) (fZ h1 we)
structure gF (k:Nat) (t:Tr):Prop where
 o:kh k t
 s:t.size<=3000
def gF.gd{k:Nat}{t:Tr}(h:gF k t):t.gd:=h.o.gd
def gF.lb{k:Nat}{t:Tr}(h:gF k t):t.all LB:=h.o.gd.lb
def gF.ok{k:Nat}{t:Tr}(h:gF k t):t.all aa.ok:=h.o.gd.ok
def gF.bl{k:Nat}{t:Tr}(h:gF k t):t.all (fun l=>BL l 96):=Tr.all_imp (fun _ h=>h.bl) h.o.gd.lb
def gF.dp{k:Nat}{t:Tr}(h:gF k t):t.depth<=k:=h.o.dp
def gF.compl{k:Nat}{t:Tr}(h:gF k t):gF k t.compl:=⟨h.o.compl,by rw[t.compl_size];exact h.s⟩
def kh.x{k:Nat}{t:Tr}(h:kh k t)(hr:t.Red [])(hk:k<=54):gF k t:=
 ⟨h,cX (h.red_size hr) (cX (fZ hk (show 1+k<=55 by omega)) oma)⟩
def Ht(rs:List (List ZP))(fill:Int):(dd rs fill).Red []:=Tr.restrict_red _ _
def i9(r:List ZP)(i k:Nat):Bool:=decide (k=i)||decide (k=(i+1)%r.length)||decide (0<vp (r.getD i (0,0)).q (jy r i).q (r.getD k (0,0)).q)
def Fg(r:List ZP):Bool:=(List.range r.length).all fun i=>(List.range r.length).all fun k=>i9 r i k
def Rz{r:List ZP}{i k:Nat}(hi:i<r.length)(hk:k<r.length)(h:i9 r i k=false):Fg r=false:=by
 rw[Bool.eq_false_iff];intro e;have:=(dV.1 ((dV.1 e) i (kZ.2 hi))) k (kZ.2 hk);rw[h] at this;cases this
def VP{r:List ZP}(h: ∀i,i<r.length-> ∀k,k<r.length->i9 r i k=true):Fg r=true:=
 dV.2 fun i hi=>dV.2 fun k hk=>h i (kZ.1 hi) k (kZ.1 hk)
def Ia(a b c:ZP):vp a.q b.q c.q=(jd (b.1-a.1,b.2-a.2) (c.1-a.1,c.2-a.2)).sign:=by
 have e:ah.cross (cD b.q a.q (-1)) (cD c.q a.q (-1))=((jd (b.1-a.1,b.2-a.2) (c.1-a.1,c.2-a.2):Int):Rat):=by
  unfold ah.cross cD jd ZP.q iP;push_cast;grind
 unfold vp;rw[e,lL]
def KF{a:Int}:0<a.sign↔0<a:=by
 rcases qQ a 0 with h|h|h
 .rw[fQ h];omega
 .subst h;simp
 .rw[gQ h];omega
def aru{p u v:ZP}:Fg (gq p u v)=decide (0<jd u v):=by
 obtain⟨p1,p2⟩:=p;obtain⟨u1,u2⟩:=u;obtain⟨v1,v2⟩:=v;have e1:i9 (gq (p1,p2) (u1,u2) (v1,v2)) 0 2=decide (0<jd (u1,u2) (v1,v2)):=by
  unfold i9 jy gq kt;simp only[aS,eX,qM,oM,Nat.reduceAdd,Nat.reduceMod,Ia,KF];simp[jd];congr 2
  all_goals (first|omega|grind)
 have e2:i9 (gq (p1,p2) (u1,u2) (v1,v2)) 1 0=decide (0<jd (u1,u2) (v1,v2)):=by
  unfold i9 jy gq kt;simp only[aS,eX,qM,oM,Nat.reduceAdd,Nat.reduceMod,Ia,KF];simp[jd];constructor<;>intro h<;>grind
 have e3:i9 (gq (p1,p2) (u1,u2) (v1,v2)) 2 1=decide (0<jd (u1,u2) (v1,v2)):=by
  unfold i9 jy gq kt;simp only[aS,eX,qM,oM,Nat.reduceAdd,Nat.reduceMod,Ia,KF];simp[jd];constructor<;>intro h<;>grind
 by_cases h:0<jd (u1,u2) (v1,v2)
 .rw[decide_eq_true h] at e1 e2 e3⊢
  refine VP fun i hi k hk=>?_;have hl:(gq (p1,p2) (u1,u2) (v1,v2)).length=3:=J;rw[hl] at hi hk;have hs: ∀j,i9 (gq (p1,p2) (u1,u2) (v1,v2)) j j=true:=fun j=>by unfold i9;simp
  have hn: ∀j,i9 (gq (p1,p2) (u1,u2) (v1,v2)) j ((j+1)%3)=true:=fun j=>by unfold i9;simp[hl]
  have h1:i=0\/i=1\/i=2:=by omega
  have h2:k=0\/k=1\/k=2:=by omega
  rcases h1 with rfl|rfl|rfl<;>rcases h2 with rfl|rfl|rfl<;>first|assumption|exact hs _|exact hn _
 .rw[decide_eq_false h] at e1⊢
  exact Rz (i:=0) (k:=2) (by simp[gq]) (by simp[gq]) e1
def awT{r:List ZP}(hle: ∀p∈r,ZP.le 100 p)(h6:r.length<=6):PF GB prog 25 [.sl (r.map xg)] (vB (Fg r)):=by
 have hm:=ez xg r;refine fn (fu:=⟨9⟩) func25 J J ntmps25 J J (fun C=>?_);refine aj 7 (.d (vI (r.length:Nat))) J omu<|gx (fu:=⟨8⟩) J<|aj 9 (.d (vI (r.length:Nat))) J omu<|gx J<|lp (X:=Nat) (fun i=>[(10, .d (vI (i:Nat)))]) (fun i=>[]) (fun i=>i<=r.length/\ ∀j,j<i-> ∀q,q<r.length->i9 r j q=true) (fun i=>r.length-i) 0 J ⟨aN _,fun j hj=>absurd hj we⟩ (fun _=>J) (fun i hk=>?_);obtain⟨i1,i2⟩:=hk;refine br (fu1:=⟨14⟩) J J J (fun hc11=>?_) (fun hc11=>?_)
 .
  have hir:i<r.length:=by omega
  refine aj 14 (.d (vI (r.length:Nat))) J omu<|gx J<|lp (X:=Nat) (fun k=>[(15, .d (vI (k:Nat)))]) (fun k=>[]) (fun k=>k<=r.length/\ ∀q,q<k->i9 r i q=true) (fun k=>r.length-k) 0 J ⟨aN _,fun j hj=>absurd hj we⟩ (fun _=>J) (fun k hk=>?_);obtain⟨k1,k2⟩:=hk;refine br (fu1:=⟨14⟩) J J J (fun hc16=>?_) (fun hc16=>?_)
  .
   have hkr:k<r.length:=by omega
   haveI hvb:aD (r.getD i (0,0)).q 12:=IK (hle _ (Bm hir));haveI hwb:aD (jy r i).q 12:=IK (hle _ (Gy hir));haveI hub:aD (r.getD k (0,0)).q 12:=IK (hle _ (Bm hkr));refine jP (fu1:=⟨6⟩) (v2:=fun hg20=>by simp only[ak];exact⟨omd,we⟩) J J J J (fun hg20=>?_) (fun hg20=>?_)
   .
    refine aj 26 (.d (vI ((i+1)%r.length:Nat))) J okS<|gx (fu:=⟨0⟩) J<|jP (v2:=fun hg27=>by simp only[ak];exact⟨omd,we⟩) J J J J (fun hg27=>?_) (fun hg27=>?_)
    .
     refine ix (fu:=⟨6⟩) _ J (Id hir) J<|aj 38 (.d (vI ((i+1)%r.length:Nat))) J okS<|gx J<|ix _ J (aK9 hir) J<|ix _ J (Id hkr) J<|cl J (In (a:=(r.getD i (0,0)).q) (b:=(jy r i).q) (c:=(r.getD k (0,0)).q) (i:=12) (j:=12) (k:=12)) J<|br J J J (fun hc47=>?_) (fun hc47=>?_)
     .
      have hcv:i9 r i k=false:=by unfold i9;rw[decide_eq_false (show¬k=i by omega),decide_eq_false (show¬k=(i+1)%r.length by omega),decide_eq_false (show¬0<(vp (r.getD i (0,0)).q (jy r i).q (r.getD k (0,0)).q) by omega)];rfl
      exact rz J (by rw[Rz hir hkr hcv];rfl)
     .
      have hcv:i9 r i k=true:=by unfold i9;rw[decide_eq_true (show 0<vp _ _ _ by omega)];simp
      exact at_ (k+1) ⟨⟨we,fun q hq=>by by_cases e:q=k;(subst e;exact hcv);exact k2 q we⟩,we⟩
    .
     have hcv:i9 r i k=true:=by unfold i9;rw[decide_eq_true (show k=(i+1)%r.length by omega)];simp
     exact at_ (k+1) ⟨⟨we,fun q hq=>by by_cases e:q=k;(subst e;exact hcv);exact k2 q we⟩,we⟩
   .
    have hcv:i9 r i k=true:=by unfold i9;rw[decide_eq_true (show k=i by omega)];rfl
    exact at_ (k+1) ⟨⟨we,fun q hq=>by by_cases e:q=k;(subst e;exact hcv);exact k2 q we⟩,we⟩
  .
   obtain rfl:k=r.length:=by omega
   exact at_ (i+1) ⟨⟨we,fun j hj q hq=>by by_cases e:j=i;(subst e;exact k2 q we);exact i2 j we q hq⟩,we⟩
 .
  obtain rfl:i=r.length:=by omega
  exact rz J (by rw[VP fun j hj q hq=>i2 j hj q hq];rfl)
def WP{p u v:ZP}(h1:ZP.le 40 p)(h2:ZP.le 40 u)(h3:ZP.le 40 v): ∀q∈gq p u v,ZP.le 100 q:=fun q hq=>by
 unfold ZP.le at*;simp only[gq,kt,aW,dK,or_false] at hq;rcases hq with rfl|rfl|rfl<;>((try dsimp only);omega)
def arI{p u v:ZP}(h1:ZP.le 40 p)(h2:ZP.le 40 u)(h3:ZP.le 40 v):PF GB prog 25 [.sl ((gq p u v).map xg)] (vB (decide (0<jd u v))):=by
 have:=awT (GB:=GB) (r:=gq p u v) (WP h1 h2 h3) (by simp[gq]);rw[aru] at this;exact this
def M4{b:Nat}{es:List Int}(hes:es.length<=400){a:Nat}(ha:a<=es.length):PM GB prog 6 (lg [none] b) b 46 [.sl (es.map vI), .v (.int .i64 (a:Nat))] (nI (cg es a).1) [.sl (es.map vI), .v (.int .i64 ((cg es a).2:Nat))]:=by
 have hk0:=im (n:=2) ha;have hx1:=im (n:=3) hk0;have hy1:=im (n:=3) hx1;have l1:=c8 (es:=es) (n:=3) (a:=(au es 2 a).2);have l2:=c8 (es:=es) (n:=3) (a:=(au es 3 (au es 2 a).2).2);refine Au func6 J J ntmps6 J J (fun C b m lo hmb=>?_);refine cm J (fun b=>(nD (n:=2) hes ha)) J<|br J J J (fun hc13=>?_) (fun hc13=>?_)
 .
  have hz1:=im (n:=2) hy1;have l3:=c8 (es:=es) (n:=2) (a:=(au es 3 (au es 3 (au es 2 a).2).2).2);have l4:=c8 (es:=es) (n:=2) (a:=(au es 2 (au es 3 (au es 3 (au es 2 a).2).2).2).2);refine cm J (fun b=>(nD (n:=3) hes hk0)) J<|cm J (fun b=>(nD (n:=3) hes hx1)) J<|cm J (fun b=>(nD (n:=2) hes hy1)) J<|cm J (fun b=>(nD (n:=2) hes hz1)) J<|cl J (jn (m:=(((au es 3 (au es 2 a).2).1:Int)-1)) (n:=(((au es 3 (au es 3 (au es 2 a).2).2).1:Int)-1))) J<|cl J (jn (m:=(((au es 3 (au es 2 a).2).1:Int)-1+1+((au es 2 (au es 3 (au es 3 (au es 2 a).2).2).2).1:Int))) (n:=(((au es 3 (au es 3 (au es 2 a).2).2).1:Int)-1))) J<|cl J (jn (m:=(((au es 3 (au es 2 a).2).1:Int)-1+1+((au es 2 (au es 3 (au es 3 (au es 2 a).2).2).2).1:Int))) (n:=(((au es 3 (au es 3 (au es 2 a).2).2).1:Int)-1+1+((au es 2 (au es 2 (au es 3 (au es 3 (au es 2 a).2).2).2).2).1:Int)))) J<|cl J (jn (m:=(((au es 3 (au es 2 a).2).1:Int)-1)) (n:=(((au es 3 (au es 3 (au es 2 a).2).2).1:Int)-1+1+((au es 2 (au es 2 (au es 3 (au es 3 (au es 2 a).2).2).2).2).1:Int)))) J<|rf J J<|?_;exact oo hmb J J (by rw[show cg es a=_ from if_pos hc13];rfl) (by rw[show cg es a=_ from if_pos hc13];rfl)
 .
  have hu1:=im (n:=2) hy1;have hu2:=im (n:=3) hu1;have hv1:=im (n:=3) hu2;have m1:=c8 (es:=es) (n:=2) (a:=(au es 3 (au es 3 (au es 2 a).2).2).2);have m2:=c8 (es:=es) (n:=3) (a:=(au es 2 (au es 3 (au es 3 (au es 2 a).2).2).2).2);have m3:=c8 (es:=es) (n:=3) (a:=(au es 3 (au es 2 (au es 3 (au es 3 (au es 2 a).2).2).2).2).2);have m4:=c8 (es:=es) (n:=2) (a:=(au es 3 (au es 3 (au es 2 (au es 3 (au es 3 (au es 2 a).2).2).2).2).2).2);refine cm J (fun b=>(nD (n:=3) hes hk0)) J<|cm J (fun b=>(nD (n:=3) hes hx1)) J<|cl J (jn (m:=(((au es 3 (au es 2 a).2).1:Int)-1)) (n:=(((au es 3 (au es 3 (au es 2 a).2).2).1:Int)-1))) J<|cm J (fun b=>(nD (n:=2) hes hy1)) J<|cm J (fun b=>(nD (n:=3) hes hu1)) J<|cl J (jn (m:=(1+((au es 2 (au es 3 (au es 3 (au es 2 a).2).2).2).1:Int))) (n:=(((au es 3 (au es 2 (au es 3 (au es 3 (au es 2 a).2).2).2).2).1:Int)-1))) J<|cm J (fun b=>(nD (n:=3) hes hu2)) J<|cm J (fun b=>(nD (n:=2) hes hv1)) J<|cl J (jn (m:=(((au es 3 (au es 3 (au es 2 (au es 3 (au es 3 (au es 2 a).2).2).2).2).2).1:Int)-1)) (n:=(1+((au es 2 (au es 3 (au es 3 (au es 2 (au es 3 (au es 3 (au es 2 a).2).2).2).2).2).2).1:Int)))) J<|cl J (jh (n:=1)) J<|cl J (FU (m:=(((au es 3 (au es 2 a).2).1:Int)-1)) (n:=(((au es 3 (au es 3 (au es 2 a).2).2).1:Int)-1)) (m':=(1+((au es 2 (au es 3 (au es 3 (au es 2 a).2).2).2).1:Int))) (n':=(((au es 3 (au es 2 (au es 3 (au es 3 (au es 2 a).2).2).2).2).1:Int)-1)) (k:=1) we we we we) J<|cl J (jh (n:=1)) J<|cl J (FU (m:=(((au es 3 (au es 2 a).2).1:Int)-1)) (n:=(((au es 3 (au es 3 (au es 2 a).2).2).1:Int)-1)) (m':=(((au es 3 (au es 3 (au es 2 (au es 3 (au es 3 (au es 2 a).2).2).2).2).2).1:Int)-1)) (n':=(1+((au es 2 (au es 3 (au es 3 (au es 2 (au es 3 (au es 3 (au es 2 a).2).2).2).2).2).2).1:Int))) (k:=1) we we we we) J<|rf J J<|cl J (arI (p:=((((au es 3 (au es 2 a).2).1:Int)-1),(((au es 3 (au es 3 (au es 2 a).2).2).1:Int)-1))) (u:=((1+((au es 2 (au es 3 (au es 3 (au es 2 a).2).2).2).1:Int)),(((au es 3 (au es 2 (au es 3 (au es 3 (au es 2 a).2).2).2).2).1:Int)-1))) (v:=((((au es 3 (au es 3 (au es 2 (au es 3 (au es 3 (au es 2 a).2).2).2).2).2).1:Int)-1),(1+((au es 2 (au es 3 (au es 3 (au es 2 (au es 3 (au es 3 (au es 2 a).2).2).2).2).2).2).1:Int)))) ⟨we,we⟩ ⟨we,we⟩ ⟨we,we⟩) J<|bb J J J (fun hc76=>?_) (fun hc76=>?_)
  .
   refine cl J (jn (m:=0) (n:=0) oma oma) J<|cl J (jn (m:=1) (n:=0) oma oma) J<|cl J (jn (m:=0) (n:=1) oma oma) J<|rf J J<|?_;exact oo hmb J J (by rw[show cg es a=_ from(if_neg hc13).trans (congrArg (fun r=>(r,(au es 2 (au es 3 (au es 3 (au es 2 (au es 3 (au es 3 (au es 2 a).2).2).2).2).2).2).2)) (if_neg (by simpa using hc76)))];rfl) (by rw[show cg es a=_ from if_neg hc13])
  .
   exact oo hmb J J (by rw[show cg es a=_ from(if_neg hc13).trans (congrArg (fun r=>(r,(au es 2 (au es 3 (au es 3 (au es 2 (au es 3 (au es 3 (au es 2 a).2).2).2).2).2).2).2)) (if_pos (by simpa using hc76)))];rfl) (by rw[show cg es a=_ from if_neg hc13])
section
variable {GB:Gh} {C:aH} {n:Nat} {Q0:Exit->Act->World->Prop} {fr fr' fr1 fr2:aF} {own own' own1 own2:bh} {cf cf' cf1 cf2:Cf} {vc vc1 vc2:List Prop}
end
def XM{es0 es:List Int}(hb:es0.length<=1125899906842624)(he:es=es0.take 400):PN GB prog 4 [.sl (es0.map vI)] 46 Unit (fun _=>[.sl (es.map vI), .v (.int .i64 (0:Nat))]):=by
 subst he;exact aK6 hb
def RC{s t:Tr}(hs:s.all (fun l=>BL l 96))(h:t=s)(hn:s.size<=1000000:=by omega):PF GB prog 13 [eA s,eA t] (.v (.bool true)):=by
 subst h;have:=aFb (GB:=GB) hs hs hn;rw[decide_eq_true (⟨J,J⟩:_/\_)] at this;exact this
def S6{k:Nat}{t:Tr}(h:gF k t):PF GB prog 7 [eT t] (eA t):=Iv h.bl (by have:=h.s;omega)
def aM4:Option ao->DV
 |some c=> .tp [.sl (c.map dq),vB true]
 |none=> .tp [.sl [],vB false]
def UK{ls:List aa}{c:ao}{k:Nat}{l:aa}(h:ls[k]? =some l):js (ls.drop k) c=if cw c l then js (ls.drop (k+1)) (bG c l) else none:=by
 obtain⟨hk,rfl⟩:=aR.1 h;rw[bK hk,js]
def eE.nil:eE []:=fun s hs=>by cases hs
def aEF{ls:List aa}(hb: ∀l∈ls,LB l)(ho: ∀l∈ls,l.ok)(hn:ls.length<=10000):PF GB prog 123 [.sl (ls.map de)] (aM4 (js ls [])):=by
 have hm:=uC de ls;refine fn (fu:=⟨25⟩) func123 J J ntmps123 J J (fun C=>?_);refine aj 9 (.d (vI (ls.length:Nat))) J omu<|gx J<|Dl 4 J<|Nd 5 (vB true) J J<|lp (X:=ao×Nat) (fun⟨c,k⟩=>[(10, .d (vI (k:Nat))),(4, .d (.sl (c.map dq))),(5, .d (vB true))]) (fun⟨c,k⟩=>[]) (fun⟨c,k⟩=>k<=ls.length/\eE c/\c.length<=k/\js (ls.drop k) c=js ls []) (fun⟨c,k⟩=>ls.length-k) ([],0) J ⟨aN _,eE.nil,bV _,J⟩ (fun _=>J) (fun⟨c,k⟩ hk=>?_);obtain⟨h1,h2,h3,h4⟩:=hk;dsimp only at*;refine br J J J (fun hc11=>?_) (fun hc11=>?_)
 .
  obtain⟨l,hx0⟩: ∃s,ls[k]? =some s:=⟨_,aZ we⟩;haveI:=hb l (aK hx0);have hlo:=ho l (aK hx0);refine ix _ J (cp hx0) J<|cl J (Js (c:=c) (l:=l) hlo h2 we) J<|bb J J J (fun hc21=>?_) (fun hc21=>?_)
  .
   refine bb J J J (fun hc24=>?_) (fun hc24=>?_)
   .
    exact rz J (by rw[<-h4,UK hx0,if_neg (by simpa using hc21)];rfl)
   .
    exact rz J (by simp only[hc21] at hc24;simp at hc24)
  .
   refine aj 5 (.d (vB true)) J (by rw[show cw c l=true by simpa using hc21])<|at_ (bG c l,k+1) (by dsimp only;exact⟨⟨we,sG (ho l (aK hx0)) h2,by have:=vf c l;omega,by rw[<-h4,UK hx0,if_pos (by simpa using hc21)]⟩,we⟩)
 .
  refine bb J J J (fun hc24=>?_) (fun hc24=>?_)
  .
   exact rz J (absurd hc24 oma)
  .
   exact rz J (by rw[<-h4,iN we];rfl)
def azR{ls:List aa}{c:ao}(hb: ∀l∈ls,LB l)(ho: ∀l∈ls,l.ok)(hn:ls.length<=10000)(h:js ls []=some c):PF GB prog 123 [.sl (ls.map de)] (.tp [.sl (c.map dq),vB true]):=by
 have:=aEF (GB:=GB) hb ho hn;rw[h] at this;exact this

end Go.Sx
end
