import Derived.Test.YtjpdfobnjmflkaaGreatDoorMk14
set_option linter.all false
set_option maxHeartbeats 4000000
set_option maxRecDepth 100000
section
namespace Go.Sx
open Go Go.Proofs Tryz
variable {GB G:Gh}{cuts:List Rat}{i k n e len nm off d most:Nat}{y:Rat}{marks:List Bool}{xs a:List ar}{v w:Value}{l m l1:aa}{b q b1 b2 b3:Bool}{lk:LK}{bk:BM}{t u:Tr}{ty':TypeId}{pos:String}{af:Array Edge}{z zx:List FX}{pre post l2 l3:List DV}{side fill:Int}{f g:bA}{r:List ZP}{p:ah}{rs:List (List ZP)}{c:List aa}{es:List Int}{ns:List NQ}
def aIZ(a b:Bool):eV ⟨0,0,a,b⟩= .ag [.v (.bool false), .sl [], .sl [], .v (.bool false), .sl [], .sl [], .v (.bool a), .v (.bool b)]:=by
 unfold eV dD;simp only[show(0:Rat).num=0 from J,show(0:Rat).den=1 from J,lW,l9];rfl
def OC(t:Rat)(a b:Bool):eV ⟨t,0,a,b⟩= .ag [.v (.bool (decide (t.num<0))),dN t.num.natAbs,dD t.den, .v (.bool false), .sl [], .sl [], .v (.bool a), .v (.bool b)]:=by
 unfold eV dD;simp only[show(0:Rat).num=0 from J,show(0:Rat).den=1 from J,lW,l9];rfl
def Xl(t:Rat)(a b:Bool):eV ⟨0,t,a,b⟩= .ag [.v (.bool false), .sl [], .sl [], .v (.bool (decide (t.num<0))),dN t.num.natAbs,dD t.den, .v (.bool a), .v (.bool b)]:=by
 unfold eV dD;simp only[show(0:Rat).num=0 from J,show(0:Rat).den=1 from J,lW,l9];rfl
def aCk(h:i=0)(k: ¬i<cuts.length):fg cuts i=⟨0,0,decide (i=0),decide (i=cuts.length)⟩:=by unfold fg;rw[if_pos h,if_neg k]
def aCv(h:i=0)(k:cuts[i]? =some y):fg cuts i=⟨0,y,decide (i=0),decide (i=cuts.length)⟩:=by
 unfold fg;rw[if_pos h,if_pos (aR.1 k).1,aV,k];rfl
def aDC{x:Rat}(h: ¬i=0)(k:cuts[i-1]? =some x)(k2: ¬i<cuts.length):fg cuts i=⟨x,0,decide (i=0),decide (i=cuts.length)⟩:=by
 unfold fg;rw[if_neg h,if_neg k2,aV,k];rfl
def aDd{x:Rat}(h: ¬i=0)(k:cuts[i-1]? =some x)(k2:cuts[i]? =some y):fg cuts i=⟨x,y,decide (i=0),decide (i=cuts.length)⟩:=by
 unfold fg;rw[if_neg h,if_pos (aR.1 k2).1,aV,k,aV,k2];rfl
def ay4(h:marks[k]? =some false):gI cuts marks (k+1)=gI cuts marks k:=by
 rw[gI,aV,h];rfl
def Cs(h:marks[k]? =some true)(hp: ¬(0<k/\marks[k-1]? =some true)):gI cuts marks (k+1)=gI cuts marks k++[fg cuts k]:=by
 rw[gI,aV,h];show(if 0<k/\_ then _ else _)=_;rw[if_neg];rintro ⟨h1,h2⟩;rw[aV] at h2
 cases e:marks[k-1]? with
 |none=>rw[e] at h2;cases h2
 |some b=>rw[e] at h2;exact hp ⟨h1,by rw[e];simp at h2;rw[h2]⟩
def M1(h:marks[k]? =some true):gI cuts marks (k+1)≠[]:=by
 rw[gI,aV,h];show(if 0<k/\_ then _ else _)≠[];split
 .split<;>simp
 .simp
def Nr{v:ar}(hk:0<k)(h:marks[k]? =some true)(hp:marks[k-1]? =some true)(hx:gI cuts marks k=xs)(hv:xs[xs.length-1]? =some v):gI cuts marks (k+1)=xs.set (xs.length-1) (ui v (fg cuts k)):=by
 rw[gI,aV,h];show(if 0<k/\_ then _ else _)=_;rw[if_pos ⟨hk,by rw[aV,hp];rfl⟩,hx,nM,hv];have hn:0<xs.length:=by
  have:=(aR.1 hv).1;omega
 show xs.dropLast++[_]=_;apply lS;intro i;rw[pY];by_cases hi:i<xs.length-1
 .rw[jS (by rw[mY];exact hi),List.getElem?_dropLast,if_pos hi,if_neg (by omega)]
 .by_cases hi2:i=xs.length-1
  .subst hi2
   rw[jU (by rw[mY];exact bW _),mY,pR,if_pos J,if_pos (by omega)];rfl
  .rw[eK (by rw[aY,mY];simp;omega),if_neg (by omega),eK (by omega)]
def wT{α:Type}{f:α->DV}{l:List α}{x:α}(hk:0<k)(h:l[k-1]? =some x):(l.map f)[(((k:Nat):Int)-1).toNat]? =some (f x):=by
 rw[show(((k:Nat):Int)-1).toNat=k-1 by omega,cR,h];rfl
def rI:decide (k=n)=decide (((k:Nat):Int)=((n:Nat):Int)):=decide_eq_decide.2 (by omega)
def aFc(hn:cuts.length<=100000)(hmk:marks.length<=cuts.length+1):PF GB prog 318 [.sl (cuts.map eQ), .sl (marks.map vB)] (.sl ((vY cuts marks).map eV)):=by
 have hm:=eh vB marks;have hmc:=eh eQ cuts;refine fn (fu:=⟨15⟩) func318 J J ntmps318 J J (fun C=>?_);refine aj 11 (.d (vI (marks.length:Nat))) J (by rw[hm]<;>rfl)<|gx J<|nr 5 5 134 8 J J J<|lp (X:=List ar×Nat) (fun⟨xs,k⟩=>[(12, .d (vI (k:Nat))),(5, .rw 5)]) (fun⟨xs,k⟩=>[(5,some (.b 134 8 (xs.map eV) true))]) (fun⟨xs,k⟩=>xs=gI cuts marks k/\k<=marks.length) (fun⟨xs,k⟩=>marks.length-k) ([],0) J ⟨J,aM _⟩ (fun _=>J) (fun⟨xs,k⟩ hk=>?_);dsimp only at hk⊢;obtain⟨h1,h2⟩:=hk;have hml:=eh eV xs;have hxl:xs.length<=k:=by rw[h1];exact Io
 refine br J J J (fun hc13=>?_) (fun hc13=>?_)
 .
  obtain⟨b,hz⟩: ∃s,marks[k]? =some s:=⟨_,aZ (by omega)⟩;refine ix (fu:=⟨8⟩) _ J (cg hz) J<|?_
  cases b
  .
   refine cC (fu:=⟨12⟩) J J J<|at_ (xs,k+1) (by dsimp only;exact⟨⟨by rw[ay4 hz,<-h1],by omega⟩,(by omega)⟩)
  .
   refine dP (fu:=⟨13⟩) J J J<|?_;rcases(show(k=0/\k<cuts.length)\/(k=0/\ ¬k<cuts.length)\/(0<k/\k<cuts.length)\/(0<k/\ ¬k<cuts.length) by omega) with⟨c1,c2⟩|⟨c1,c2⟩|⟨c1,c2⟩|⟨c1,c2⟩
   .
    obtain⟨y,hy⟩: ∃s,cuts[k]? =some s:=⟨_,aZ (by omega)⟩;have hgap:=aCv (cuts:=cuts) (i:=k) c1 hy;have hnp: ¬(0<k/\marks[k-1]? =some true):=fun e=>by omega
    refine aj 23 (.d (vI (cuts.length:Nat))) J (by rw[hmc]<;>rfl)<|gx (fu:=⟨10⟩) J<|cC (fu:=⟨11⟩) J (by show some (decide _)=some false;rw[decide_eq_false (by omega)]) J<|aj 36 (.d (vI (cuts.length:Nat))) J (by rw[hmc]<;>rfl)<|gx (fu:=⟨0⟩) J<|dP J (by show some (decide _)=some true;rw[decide_eq_true (by omega)]) J<|ix (fu:=⟨10⟩) _ J (cg hy) J<|aj 44 (.d (vI (xs.length:Nat))) J (by rw[hml]<;>rfl)<|gx (fu:=⟨6⟩) J<|cC (fu:=⟨19⟩) J (by show some (decide _)=some false;rw[decide_eq_false (by omega)]) J<|aj 73 (.d (eV (fg cuts k))) J (by rw[hgap,Xl,rI (k:=k) (n:=0),rI (k:=k) (n:=cuts.length)]<;>rfl)<|gx J<|rf J J<|ap (fu:=⟨12⟩) ((xs++[fg cuts k]).map eV) J (by rw[aL];rfl) (yf [fg cuts k]) J<|d6 75 5 J<|at_ (xs++[fg cuts k],k+1) (by dsimp only;exact⟨⟨by rw[Cs hz hnp,<-h1],by omega⟩,(by omega)⟩)
   .
    have hgap:=aCk (cuts:=cuts) (i:=k) c1 c2;have hnp: ¬(0<k/\marks[k-1]? =some true):=fun e=>by omega
    refine aj 23 (.d (vI (cuts.length:Nat))) J (by rw[hmc]<;>rfl)<|gx (fu:=⟨10⟩) J<|cC (fu:=⟨11⟩) J (by show some (decide _)=some false;rw[decide_eq_false (by omega)]) J<|aj 36 (.d (vI (cuts.length:Nat))) J (by rw[hmc]<;>rfl)<|gx (fu:=⟨0⟩) J<|cC (fu:=⟨10⟩) J (by show some (decide _)=some false;rw[decide_eq_false (by omega)]) J<|aj 44 (.d (vI (xs.length:Nat))) J (by rw[hml]<;>rfl)<|gx (fu:=⟨6⟩) J<|cC (fu:=⟨19⟩) J (by show some (decide _)=some false;rw[decide_eq_false (by omega)]) J<|aj 73 (.d (eV (fg cuts k))) J (by rw[hgap,aIZ,rI (k:=k) (n:=0),rI (k:=k) (n:=cuts.length)]<;>rfl)<|gx J<|rf J J<|ap (fu:=⟨12⟩) ((xs++[fg cuts k]).map eV) J (by rw[aL];rfl) (yf [fg cuts k]) J<|d6 75 5 J<|at_ (xs++[fg cuts k],k+1) (by dsimp only;exact⟨⟨by rw[Cs hz hnp,<-h1],by omega⟩,(by omega)⟩)
   .
    obtain⟨x,hx⟩: ∃s,cuts[k-1]? =some s:=⟨_,aZ (by omega)⟩;obtain⟨pb,hpb⟩: ∃s,marks[k-1]? =some s:=⟨_,aZ (by omega)⟩;obtain⟨y,hy⟩: ∃s,cuts[k]? =some s:=⟨_,aZ (by omega)⟩;have hgap:=aDd (cuts:=cuts) (i:=k) (by omega) hx hy;refine aj 23 (.d (vI (cuts.length:Nat))) J (by rw[hmc]<;>rfl)<|gx (fu:=⟨10⟩) J<|dP J (by show some (decide _)=some true;rw[decide_eq_true (by omega)]) J<|ix (fu:=⟨11⟩) _ J (wT (by omega) hx) J<|aj 36 (.d (vI (cuts.length:Nat))) J (by rw[hmc]<;>rfl)<|gx (fu:=⟨0⟩) J<|dP J (by show some (decide _)=some true;rw[decide_eq_true (by omega)]) J<|ix (fu:=⟨10⟩) _ J (cg hy) J<|aj 44 (.d (vI (xs.length:Nat))) J (by rw[hml]<;>rfl)<|gx (fu:=⟨6⟩) J<|dP J (by show some (decide _)=some true;rw[decide_eq_true (by omega)]) J<|ix _ J (wT (by omega) hpb) J<|iF (fu1:=⟨1⟩) (fu2:=⟨11⟩) 54 J J J (fun hg54=>?_) (fun hg54=>?_)
    .
     have hpb':marks[k-1]? =some true:=by rw[hpb];congr 1
     have hxn:0<xs.length:=by rw[h1];have:=M1 (cuts:=cuts) hpb';rw[show k-1+1=k by omega] at this;exact mZ.2 this
     obtain⟨w,hw⟩: ∃s,xs[xs.length-1]? =some s:=⟨_,aZ (by omega)⟩;refine dP J (by show some (decide _)=some true;rw[decide_eq_true (by omega)]) J<|sb (eV w) ((xs.set (xs.length-1) (⟨w.lo,y,w.nl,w.nh⟩:ar)).map eV) J (wT hxn hw) J (by rw[show(((xs.length:Nat):Int)-1).toNat=xs.length-1 by omega,jW];rfl) J<|sb (hv:=by simp only[ak];exact⟨by kernel_rfl,by omega⟩) (eV (⟨w.lo,y,w.nl,w.nh⟩:ar)) ((xs.set (xs.length-1) (ui w (fg cuts k))).map eV) J (by rw[show(((xs.length:Nat):Int)-1).toNat=xs.length-1 by omega,jW,sX (by rw[hml];omega)]) J (by rw[show(((xs.length:Nat):Int)-1).toNat=xs.length-1 by omega,jW,List.set_set,jW,hgap];unfold ui;dsimp only;rw[rI (k:=k) (n:=cuts.length)]<;>rfl) J<|?_;exact at_ (xs.set (xs.length-1) (ui w (fg cuts k)),k+1) (by dsimp only;exact⟨⟨(Nr (by omega) hz hpb' h1.symm hw).symm,by omega⟩,(by omega)⟩)
    .
     have hnp: ¬(0<k/\marks[k-1]? =some true):=fun e=>by rw[hpb,hg54] at e;simpa using e.2
     refine aj 73 (.d (eV (fg cuts k))) J (by rw[hgap];unfold eV;dsimp only;rw[rI (k:=k) (n:=0),rI (k:=k) (n:=cuts.length)]<;>rfl)<|gx J<|rf J J<|ap (fu:=⟨12⟩) ((xs++[fg cuts k]).map eV) J (by rw[aL];rfl) (yf [fg cuts k]) J<|d6 75 5 J<|at_ (xs++[fg cuts k],k+1) (by dsimp only;exact⟨⟨by rw[Cs hz hnp,<-h1],by omega⟩,(by omega)⟩)
   .
    obtain⟨x,hx⟩: ∃s,cuts[k-1]? =some s:=⟨_,aZ (by omega)⟩;obtain⟨pb,hpb⟩: ∃s,marks[k-1]? =some s:=⟨_,aZ (by omega)⟩;have hgap:=aDC (cuts:=cuts) (i:=k) (by omega) hx c2;refine aj 23 (.d (vI (cuts.length:Nat))) J (by rw[hmc]<;>rfl)<|gx (fu:=⟨10⟩) J<|dP J (by show some (decide _)=some true;rw[decide_eq_true (by omega)]) J<|ix (fu:=⟨11⟩) _ J (wT (by omega) hx) J<|aj 36 (.d (vI (cuts.length:Nat))) J (by rw[hmc]<;>rfl)<|gx (fu:=⟨0⟩) J<|cC (fu:=⟨10⟩) J (by show some (decide _)=some false;rw[decide_eq_false (by omega)]) J<|aj 44 (.d (vI (xs.length:Nat))) J (by rw[hml]<;>rfl)<|gx (fu:=⟨6⟩) J<|dP J (by show some (decide _)=some true;rw[decide_eq_true (by omega)]) J<|ix _ J (wT (by omega) hpb) J<|iF (fu1:=⟨1⟩) (fu2:=⟨11⟩) 54 J J J (fun hg54=>?_) (fun hg54=>?_)
    .
     have hpb':marks[k-1]? =some true:=by rw[hpb];congr 1
     have hxn:0<xs.length:=by rw[h1];have:=M1 (cuts:=cuts) hpb';rw[show k-1+1=k by omega] at this;exact mZ.2 this
     obtain⟨w,hw⟩: ∃s,xs[xs.length-1]? =some s:=⟨_,aZ (by omega)⟩;refine dP J (by show some (decide _)=some true;rw[decide_eq_true (by omega)]) J<|sb (eV w) ((xs.set (xs.length-1) (⟨w.lo,0,w.nl,w.nh⟩:ar)).map eV) J (wT hxn hw) J (by rw[show(((xs.length:Nat):Int)-1).toNat=xs.length-1 by omega,jW,OC];rfl) J<|sb (hv:=by simp only[ak];exact⟨by kernel_rfl,by omega⟩) (eV (⟨w.lo,0,w.nl,w.nh⟩:ar)) ((xs.set (xs.length-1) (ui w (fg cuts k))).map eV) J (by rw[show(((xs.length:Nat):Int)-1).toNat=xs.length-1 by omega,jW,sX (by rw[hml];omega)]) J (by rw[show(((xs.length:Nat):Int)-1).toNat=xs.length-1 by omega,jW,List.set_set,jW,hgap];unfold ui;dsimp only;rw[rI (k:=k) (n:=cuts.length)]<;>rfl) J<|?_;exact at_ (xs.set (xs.length-1) (ui w (fg cuts k)),k+1) (by dsimp only;exact⟨⟨(Nr (by omega) hz hpb' h1.symm hw).symm,by omega⟩,(by omega)⟩)
    .
     have hnp: ¬(0<k/\marks[k-1]? =some true):=fun e=>by rw[hpb,hg54] at e;simpa using e.2
     refine aj 73 (.d (eV (fg cuts k))) J (by rw[hgap,OC,rI (k:=k) (n:=0),rI (k:=k) (n:=cuts.length)]<;>rfl)<|gx J<|rf J J<|ap ((xs++[fg cuts k]).map eV) J (by rw[aL];rfl) (yf [fg cuts k]) J<|d6 75 5 J<|at_ (xs++[fg cuts k],k+1) (by dsimp only;exact⟨⟨by rw[Cs hz hnp,<-h1],by omega⟩,(by omega)⟩)
 .
  have hfin:vY cuts marks=xs:=by rw[h1,vY,show k=marks.length by omega]
  refine gp 5 J<|rz J (by rw[hfin];rfl)
def Ja{g:Rat}: ∀{l:List Rat},g∈iC l-> ∃a∈l,∃b∈l,g=(a+b)/2
 |[],h=>by cases h
 |[_],h=>by cases h
 |a::b::t,h=>by
  rw[iC] at h;rcases aW.1 h with rfl|h
  .exact⟨a,aQ,b,aJ _ aQ,J⟩
  .obtain⟨c,hc,d,hd,e⟩:=Ja h
   exact⟨c,aJ _ hc,d,aJ _ hd,e⟩
theorem aDZ{l:List Rat}(h: ∀q∈l,BQ q 1200): ∀g∈cj l,BQ g 2500:=fun g hg=>by
 cases l with
 |nil=>
  rw[cj,aU] at hg;subst hg;exact BQ.mono (k:=1) ⟨by decide,by decide⟩
 |cons a t=>
  rw[cj] at hg;rcases aW.1 hg with rfl|hg
  .haveI:=h a aQ
   exact BQ.mono (inferInstance:BQ (a-1) _) (by omega)
  .rcases bJ.1 hg with hg|hg
   .obtain⟨c,hc,d,hd,rfl⟩:=Ja hg
    haveI:=h c hc;haveI:=h d hd;exact BQ.mono (inferInstance:BQ ((c+d)/2) _) (by omega)
   .rw[aU] at hg
    haveI:=h _ (List.getLast_mem (l:=a::t) (by simp));subst hg;exact BQ.mono (inferInstance:BQ ((a::t).getLast (by simp)+1) _) (by omega)
def Qf(l:List ar):p8 l l.length=jy l:=by unfold p8;rw[cS]
theorem UQ{l:List ar}(h: ∀v∈l,ni v): ∀y∈jy l,BQ y 1200:=by rw[<-Qf];exact Ma h
def HV(l:List ar):(jy l).length<=2*l.length:=by rw[<-Qf];exact Fg l _
def ni.app{b:List ar}(ha: ∀v∈a,ni v)(hb: ∀v∈b,ni v): ∀v∈a++b,ni v:=fun v hv=>(bJ.1 hv).elim (ha v) (hb v)
def L1{b:List ar}(ha: ∀v∈a,ni v)(hb: ∀v∈b,ni v)(hna:a.length<=100)(hnb:b.length<=100):PF GB prog 286 [vI 2, .sl (a.map eV), .sl (b.map eV)] (.sl ((qb 2 a b).map eV)):=by
 obtain⟨cuts,hcu⟩: ∃c,c=jy (a++b):=⟨_,rfl⟩;have hab:=ni.app ha hb;have hcb: ∀q∈cuts,BQ q 1200:=by rw[hcu];exact UQ hab
 have hcl:cuts.length<=2*(a.length+b.length):=by rw[hcu];have:=HV (a++b);rw[aY] at this;exact this
 have hgb:=aDZ hcb;have hgl:=yn (l:=cuts);have hmp:=eh eQ (cj cuts);refine fn func286 J J ntmps286 J J (fun C=>?_);refine pI J J<|ap (a.map eV) J J (yf _) J<|kD ((a++b).map eV) J (by rw[aL]) (yf b) J<|cl (fu:=⟨0⟩) J (Tn (l:=a++b) hab (by rw[aY];omega)) J<|aj 19 (.d (.sl (cuts.map eQ))) J (by rw[hcu])<|gx J<|cl (fu:=⟨1⟩) J (axs (cuts:=cuts) hcb (by omega)) J<|aj 22 (.d (vI ((cuts.length+1:Nat):Int))) J (by rw[hmp,hgl]<;>rfl)<|gx J<|nr 8 8 4 1 J J J<|lp (X:=Nat) (fun k=>[(23, .d (vI (k:Nat))),(8, .rw 8)]) (fun k=>[(8,some (.b 4 1 ((((cj cuts).map (fun t=>nP 2 (gn a t) (gn b t))).take k).map vB) true))]) (fun k=>k<=cuts.length+1) (fun k=>cuts.length+1-k) 0 J (aM _) (fun _=>J) (fun k hk=>?_);have hml:(((((cj cuts).map (fun t=>nP 2 (gn a t) (gn b t))).take k).map vB)).length=k:=by rw[aX,bT,aX,hgl];omega
 refine br (fu2:=⟨0⟩) J J J (fun hc24=>?_) (fun hc24=>?_)
 .
  obtain⟨t,hz⟩: ∃s,(cj cuts)[k]? =some s:=⟨_,aZ (by omega)⟩;haveI:=hgb t (aK hz);have hz2:((cj cuts).map (fun t=>nP 2 (gn a t) (gn b t)))[k]? =some (nP 2 (gn a t) (gn b t)):=by rw[cR,hz];rfl
  refine ix _ J (cg hz) J<|cl J (NW (l:=a) (t:=t) ha (by omega)) J<|cl (fu:=⟨6⟩) J (NW (l:=b) (t:=t) hb (by omega)) J<|?_
  cases hx:gn a t
  .
   refine cC (fu:=⟨15⟩) J J J<|dP (fu:=⟨5⟩) J J J<|cC J J J<|rf J J<|ap (fu:=⟨8⟩) ((((cj cuts).map (fun t=>nP 2 (gn a t) (gn b t))).take (k+1)).map vB) J (by rw[<-uD hz2,hx];rfl) (Ld [false]) J<|d6 59 8 J<|at_ (k+1) ⟨(by omega),(by omega)⟩
  .
   refine dP (fu:=⟨15⟩) J J J<|dP (fu:=⟨5⟩) J J J<|dP J J J<|rf J J<|ap ((((cj cuts).map (fun t=>nP 2 (gn a t) (gn b t))).take (k+1)).map vB) J (by rw[<-uD hz2,hx];rfl) (Ld [_]) J<|d6 59 8 J<|at_ (k+1) ⟨(by omega),(by omega)⟩
 .
  obtain rfl:k=cuts.length+1:=by omega
  have htk:((cj cuts).map (fun t=>nP 2 (gn a t) (gn b t))).take (cuts.length+1)=(cj cuts).map (fun t=>nP 2 (gn a t) (gn b t)):=cX (by rw[aX,hgl];exact bW _);rw[htk];refine nC 8 J<|gx J<|cl J (aFc (cuts:=cuts) (marks:=(cj cuts).map (fun t=>nP 2 (gn a t) (gn b t))) (by omega) (by rw[aX,hgl];exact bW _)) J<|rz J (by unfold qb;rw[<-hcu];rfl)
section
variable {C:aF}{Q0:Exit->Act->World->Prop}{fr fr':aC}{own own':aI}{cf cf':Cf}{vc:List Prop}
def aEk{dst:Option Nat}{t:TypeId}{gd:Option (Nat×Bool)}{x y:Operand}{s:Nat}{k:IntKind}(hu:prog.underlying t=some (.array len e))(hs:(prog.info? e).map (·.size)=some s)
  (e1:bh lk x=some (.ov nm off))(e2:bh lk y=some (.d (.v (.int k (i:Nat)))))(hi:i<len):b7 prog GB C n lk bk ⟨dst, .indexAddr t x y,ty',pos,af,gd⟩ (.ov nm (off+i*s)) [] []:= .yd fun ρ G ov a w r=>by
 obtain⟨p,h1,h2⟩:=r.ev e1;obtain⟨q,h3,h4⟩:=r.ev e2;rw[c7] at h4;subst h4;obtain⟨b,hb,rfl⟩:=h2;refine⟨_,⟨b,hb,J⟩,?_⟩;obtain⟨j,hj,hjs⟩: ∃j,prog.info? e=some j/\j.size=s:=by
  cases h:prog.info? e with
  |none=>rw[h] at hs;cases hs
  |some j=>rw[h] at hs;exact⟨j,J,by simpa using hs⟩
 intro a' w' hf hh;simp only[execOp,bB hf h1,bB hf h3];have:(Instr.indexAt t (.pointer (some ⟨b,off,none⟩)) (.int k (i:Nat))).run prog w'= .ok (.pointer (some ⟨b,off+i*s,none⟩)) w':=by
  unfold Instr.indexAt;show(underlying t>>=_).run prog w'=_;rw[aP (qk hu w')];show(underlying t>>=_).run prog w'=_;rw[aP (qk hu w')];have h0:0<=((i:Nat):Int):=Int.natCast_nonneg i;have h1:((i:Nat):Int)<((len:Nat):Int):=by omega
  simp only[h0,h1,and_self,if_true];show(sizeOf e>>=_).run prog w'=_;rw[aP (uC hj w'),rG,hjs,bM];rfl
 exact c6 this
def Kr(fr:aC)(cf:Cf):Option (TypeId×Nat×Nat×Int):=match cI fr cf with
 |some ⟨_, .indexAddr t x y,_,_,_,_⟩=>match bh (b9 fr cf) x with
  |some (.ov nm off)=>match bh (b9 fr cf) y with
   |some (.d (.v (.int _ i)))=>some (t,nm,off,i)
   |_=>none
  |_=>none
 |_=>none
def ol[fu:Fu](i:Nat){t s:Nat}(h:Kr fr cf=some (t,nm,off,((i:Nat):Int)))(hu:prog.underlying t=some (.array len e))(hs:(prog.info? e).map (·.size)=some s)(hi:i<len)
  (hgo:cH tt n fu.n fr own cf (.ov nm (off+i*s)) [] []=⟨vc,fr',own',cf'⟩)(k:av prog GB C n Q0 fr' own' cf')
  (hv:autoParam (ak vc) cL._auto_1):av prog GB C n Q0 fr own cf:=by
 unfold Kr at h;split at h<;>try (cases h;done)
 rename_i hh;split at h<;>try (cases h;done)
 rename_i hx;split at h<;>cases h;rename_i hy;exact us hh (aEk hu hs hx hy hi) hgo hv k
def U1{s:Nat}{e t:TypeId}{gd:Option (Nat×Bool)}{ps:List (Nat×Operand)}{fo:List (Nat×Nat×Nat)}{i:TI}(hi:eH prog t=some i)(hk:i.k= .st fo)(hz:i.z=some z)
  (hb:tB lk fo z ps=some zx)(h0:zx[k]? =some .nl)(h1:iI (zx.take k)=some pre)(h2:iI (zx.drop (k+1))=some post):b7 prog GB C n lk bk ⟨some d, .build t ⟨ps⟩,ty',pos,af,gd⟩ (.bx false pre d post) [(d,some (.b e s [] true))] [d]:=by
 intro hd tl tb K' s1 s2 hf hk';refine⟨fun ρ G ov a w r Q=>?_⟩;obtain⟨v,hv,hv'⟩:=AO hi hz;have:=OU hi hk;have hsp:zx=zx.take k++ .nl::zx.drop (k+1):=by
  obtain⟨hk1,hk2⟩:=aR.1 h0
  conv=>lhs;rw[<-kX k zx,bX hk1,hk2]
 obtain⟨l,h1',h2'⟩:=DB (r.mono s1 s2) (fo:=fo) ps _ _ _ hb (hv' ρ G);rw[hsp] at h2';obtain⟨m1,m2',rfl,k1,y,m2,rfl,k2,k3⟩:=Ql h2'
 cases (show y= .slice none 0 0 from k2)
 have hy:Yd prog C (co a) ov G ⟨some d, .build t ⟨ps⟩,ty',pos,af,gd⟩ (.agg ⟨m1++Value.slice none 0 0::m2⟩):=vO h1';have r3:=r.new' (x:=⟨none,0,0⟩) (B':= .b e s [] true) (os:=[]) (ov':=ov) (f:= .bx false pre d post) (y:= .agg ⟨m1++Value.slice none 0 0::m2⟩) hf (bI.refl G) r.h
  ⟨[],by simp only[if_true];exact .inl ⟨J,J,J⟩, .nil,by simp,fun _ o ho=>by cases ho⟩ (fun o ho=>by cases ho) (fun m B _ _ o ho _=>⟨ho,by simp⟩)
  ⟨m1,m2,by simp,rA k1 h1,rA k3 h2⟩ (r.putA _ hd)
 exact kr (hy a w (cB a) r.h) (hk'.run _ G ov _ w r3)
def Si(fr:aC)(cf:Cf):Option (Nat×List FX):=match cI fr cf with
 |some ⟨some d, .build t ⟨ps⟩,_,_,_,_⟩=>match dO tt t with
  |some ⟨.st fo,_,some zx,_⟩=>match tB (b9 fr cf) fo zx ps with
   |some l=>some (d,l)
   |none=>none
  |_=>none
 |_=>none
def Zo[fu:Fu](e s kk:Nat)(pre post:List DV)(h:Si fr cf=some (d,zx))(h0:zx[kk]? =some .nl)(h1:iI (zx.take kk)=some pre)(h2:iI (zx.drop (kk+1))=some post)(hgo:cH tt n fu.n fr own cf (.bx false pre d post) [(d,some (.b e s [] true))] [d]=⟨vc,fr',own',cf'⟩)(k:av prog GB C n Q0 fr' own' cf')
  (hv:autoParam (ak vc) cL._auto_1):av prog GB C n Q0 fr own cf:=by
 unfold Si at h;split at h<;>try (cases h;done)
 rename_i hh;split at h<;>try (cases h;done)
 rename_i hT;split at h<;>cases h;rename_i hb;exact us hh (U1 (et _ _ hT) J J hb h0 h1 h2) hgo hv k
end
def sp1(f:bA)(m:aa)(k:Nat):List bA:=if k=0 then [] else fm f m 1
def sp2(f:bA)(m:aa)(k:Nat):List bA:=if k<=1 then [] else fm f m (-1)
def Qi(hl:LB l)(hm:LB m)(hlo:l.ok): ∀v∈jf l m side,ni v:=fun v hv=>⟨(Jt hl hm hlo v hv).2.1,(Jt hl hm hlo v hv).2.2⟩
def Ab:(jf l m side).length<=1:=by
 unfold jf;split
 .split<;>simp
 .split<;>simp
def MS(op:Int)(a b:List ar):(qb op a b).length<=2*(a.length+b.length)+1:=by
 unfold qb vY;refine cN Io ?_;rw[aX,yn];have:=HV (a++b);rw[aY] at this;omega
def ZA(h:pj f)[hm:LB m](hmo:m.ok):PF GB prog 230 [fk f,eL m] (.tp [.sl ((fm f m 1).map fk), .sl ((fm f m (-1)).map fk)]):=by
 haveI:=h.lb;refine fn func230 J J ntmps230 J J (fun C=>?_);refine rf (fu:=⟨1⟩) J J<|aj 14 (.d (vI (2:Nat))) J J<|gx J<|C6 6 0 60 274 14 J J J J J<|C6 6 1 61 274 14 J J J J J<|lp (X:=Nat) (fun k=>[(15, .d (vI (k:Nat))),(6, .ov 6 0)]) (fun k=>[(6,some (.o 381 [.rw 60, .rw 61] true)),(60,some (.b 274 14 ((sp1 f m k).map fk) true)),(61,some (.b 274 14 ((sp2 f m k).map fk) true))]) (fun k=>k<=2) (fun k=>2-k) 0 J (by omega) (fun _=>J) (fun k hk=>?_);refine br J J J (fun hc16=>?_) (fun hc16=>?_)
 .
  rcases(show k=0\/k=1 by omega) with rfl|rfl
  .
   refine ix _ J J J<|cl (fu:=⟨0⟩) J (MY (l:=f.l) (m:=m) (side:=1) h.ok hmo (.inl J)) J<|?_;obtain⟨cs,hcs⟩: ∃c,c=qb 2 [f.v] (jf f.l m 1):=⟨_,rfl⟩;have hcl:cs.length<=5:=by rw[hcs];have h1:=MS 2 [f.v] (jf f.l m 1);have h2:=Ab (l:=f.l) (m:=m) (side:=1);simp only[gS] at h1;omega
   refine aj 25 (.d (.tp [.sl ((jf f.l m 1).map eV),vB (lI f.l m)])) J J<|gx J<|bb J J J (fun hc28=>?_) (fun hc28=>?_)
   .
    have hon:lI f.l m=true:=hc28;exact rz J (by first|(unfold fm;rw[if_pos hon,if_pos hon];rfl)|rfl)
   .
    have hon:lI f.l m=false:=by simpa using hc28
    refine rf J J<|cl (fu:=⟨0⟩) J (L1 (a:=[f.v]) (b:=jf f.l m 1) (fun v hv=>by rw[aU] at hv;subst hv;exact⟨h.lo,h.hi⟩) (Qi h.lb hm h.ok) (by show 1<=100;decide) (by have:=Ab (l:=f.l) (m:=m) (side:=1);omega)) J<|aj 33 (.d (.sl (cs.map eV))) J (by rw[hcs])<|gx (fu:=⟨1⟩) J<|aj 34 (.d (vI (cs.length:Nat))) J (by rw[eh eV cs]<;>rfl)<|gx J<|lp (X:=Nat) (fun j=>[(35, .d (vI (j:Nat)))]) (fun j=>[(60,some (.b 274 14 (((cs.take j).map fun v=>(⟨f.l,v⟩:bA)).map fk) true))]) (fun j=>j<=cs.length) (fun j=>cs.length-j) 0 J (aM _) (fun _=>J) (fun j hk=>?_);have hml:(((cs.take j).map fun v=>(⟨f.l,v⟩:bA)).map fk).length<=j:=by rw[aX,aX,bT];omega
    refine br J J J (fun hc36=>?_) (fun hc36=>?_)
    .
     obtain⟨z,hz⟩: ∃s,cs[j]? =some s:=⟨_,aZ (by omega)⟩;refine ix _ J (cg hz) J<|ol 0 (e:=269) (len:=2) (s:=1) J (by kernel_rfl) (by kernel_rfl) (by decide) J<|rf J J<|ap (((cs.take (j+1)).map fun v=>(⟨f.l,v⟩:bA)).map fk) J (by rw[<-uD hz,aL];rfl) (yx [⟨f.l,z⟩]) J<|ol (hv:=by simp only[ak];exact⟨by kernel_rfl,by omega⟩) 0 (e:=269) (len:=2) (s:=1) J (by kernel_rfl) (by kernel_rfl) (by decide) J<|d6 48 60 J<|at_ (j+1) ⟨(by omega),(by omega)⟩
    .
     obtain rfl:j=cs.length:=by omega
     rw[show(cs.take cs.length).map (fun v=>(⟨f.l,v⟩:bA))=fm f m 1 from by rw[cS];unfold fm;rw[if_neg (by rw[hon];decide),<-hcs]];exact at_ (0+1) ⟨(by omega),(by omega)⟩
  .
   refine ix _ J J J<|cl (fu:=⟨0⟩) J (MY (l:=f.l) (m:=m) (side:= -1) h.ok hmo (.inr J)) J<|?_;obtain⟨cs,hcs⟩: ∃c,c=qb 2 [f.v] (jf f.l m (-1)):=⟨_,rfl⟩;have hcl:cs.length<=5:=by rw[hcs];have h1:=MS 2 [f.v] (jf f.l m (-1));have h2:=Ab (l:=f.l) (m:=m) (side:=(-1));simp only[gS] at h1;omega
   refine aj 25 (.d (.tp [.sl ((jf f.l m (-1)).map eV),vB (lI f.l m)])) J J<|gx J<|bb J J J (fun hc28=>?_) (fun hc28=>?_)
   .
    have hon:lI f.l m=true:=hc28;exact rz J (by first|(unfold fm;rw[if_pos hon,if_pos hon];rfl)|rfl)
   .
    have hon:lI f.l m=false:=by simpa using hc28
    refine rf J J<|cl (fu:=⟨0⟩) J (L1 (a:=[f.v]) (b:=jf f.l m (-1)) (fun v hv=>by rw[aU] at hv;subst hv;exact⟨h.lo,h.hi⟩) (Qi h.lb hm h.ok) (by show 1<=100;decide) (by have:=Ab (l:=f.l) (m:=m) (side:=(-1));omega)) J<|aj 33 (.d (.sl (cs.map eV))) J (by rw[hcs])<|gx (fu:=⟨1⟩) J<|aj 34 (.d (vI (cs.length:Nat))) J (by rw[eh eV cs]<;>rfl)<|gx J<|lp (X:=Nat) (fun j=>[(35, .d (vI (j:Nat)))]) (fun j=>[(61,some (.b 274 14 (((cs.take j).map fun v=>(⟨f.l,v⟩:bA)).map fk) true))]) (fun j=>j<=cs.length) (fun j=>cs.length-j) 0 J (aM _) (fun _=>J) (fun j hk=>?_);have hml:(((cs.take j).map fun v=>(⟨f.l,v⟩:bA)).map fk).length<=j:=by rw[aX,aX,bT];omega
    refine br J J J (fun hc36=>?_) (fun hc36=>?_)
    .
     obtain⟨z,hz⟩: ∃s,cs[j]? =some s:=⟨_,aZ (by omega)⟩;refine ix _ J (cg hz) J<|ol 1 (e:=269) (len:=2) (s:=1) J (by kernel_rfl) (by kernel_rfl) (by decide) J<|rf J J<|ap (((cs.take (j+1)).map fun v=>(⟨f.l,v⟩:bA)).map fk) J (by rw[<-uD hz,aL];rfl) (yx [⟨f.l,z⟩]) J<|ol (hv:=by simp only[ak];exact⟨by kernel_rfl,by omega⟩) 1 (e:=269) (len:=2) (s:=1) J (by kernel_rfl) (by kernel_rfl) (by decide) J<|d6 48 61 J<|at_ (j+1) ⟨(by omega),(by omega)⟩
    .
     obtain rfl:j=cs.length:=by omega
     rw[show(cs.take cs.length).map (fun v=>(⟨f.l,v⟩:bA))=fm f m (-1) from by rw[cS];unfold fm;rw[if_neg (by rw[hon];decide),<-hcs]];exact at_ (1+1) ⟨(by omega),(by omega)⟩
 .
  obtain rfl:k=2:=by omega
  refine ol 0 (e:=269) (len:=2) (s:=1) J (by kernel_rfl) (by kernel_rfl) (by decide) J<|ol 1 (e:=269) (len:=2) (s:=1) J (by kernel_rfl) (by kernel_rfl) (by decide) J<|gp 60 J<|gp 61 J<|rz J (by first|(unfold fm;rw[if_pos hon,if_pos hon];rfl)|rfl)
def ou(p:ZP):DV:=eP p.q
def jA(r:List ZP):DV:= .sl (r.map ou)
def Ya(l:List (List ZP)):cE 1 (l.map jA):=fun d hd=>by
 obtain⟨u,_,rfl⟩:=aT.1 hd;exact⟨rfl,rfl⟩
def AS(h:i<r.length):(r.map ou)[((i:Nat):Int).toNat]? =some (ou (r.getD i (0,0))):=by
 rw[bM,cR,aV,aZ h];rfl
def Ix(h:i<r.length):(r.map ou)[(((i+1)%r.length:Nat):Int).toNat]? =some (ou (i6 r i)):=AS (dK _ (by omega))
def aG0(v w p:ah):(sH v w p).natAbs<=1:=by
 unfold sH;split<;>split<;>decide
def Ex(r:List ZP)(p:ah): ∀k,(qp r p k).natAbs<=k
 |0=>bW _
 |k+1=>by rw[qp];have:=Ex r p k;have:=aG0 (r.getD k (0,0)).q (i6 r k).q p;omega
def Oa(h:ew r):PF GB prog 159 [.sl (r.map ou)] (.sl ((jH r).map fk)):=by
 have hm:=eh ou r;have h3:=h.n3;have h6:=h.n6;refine fn (fu:=⟨15⟩) func159 J J ntmps159 J J (fun C=>?_);refine aj 8 (.d (vI (r.length:Nat))) J (by rw[hm]<;>rfl)<|gx J<|nr 3 3 274 14 J J J<|lp (X:=Nat) (fun k=>[(9, .d (vI (k:Nat))),(3, .rw 3)]) (fun k=>[(3,some (.b 274 14 ((qi r k).map fk) true))]) (fun k=>k<=r.length) (fun k=>r.length-k) 0 J (aM _) (fun _=>J) (fun k hk=>?_);have hel:=fun hh=>(IA (k:=k) h hh).1;refine br J J J (fun hc10=>?_) (fun hc10=>?_)
 .
  have hkr:k<r.length:=by omega
  have hel:=hel (by omega);have hem:=eh fk (qi r k);refine ix (fu:=⟨7⟩) _ J (AS hkr) J<|aj 22 (.d (vI ((k+1)%r.length:Nat))) J (by rw[hm]<;>rfl)<|gx J<|ix _ J (Ix hkr) J<|cl J (ZE (v:=r.getD k (0,0)) (w:=i6 r k) (h.le _ (uO hkr)) (h.le _ (xP hkr)) (h.ne k hkr)) J<|rf J J<|ap ((qi r (k+1)).map fk) J (by rw[qi,aL];rfl) (yx [Fa (r.getD k (0,0)) (i6 r k)]) J<|d6 31 3 J<|at_ (k+1) ⟨(by omega),(by omega)⟩
 .
  obtain rfl:k=r.length:=by omega
  refine gp 3 J<|rz J J
def ayJ[hp:aD p i](h:ew r)(hi:i<=80000:=by decide):PF GB prog 283 [.sl (r.map ou),eP p] (vI (td r p)):=by
 have hm:=eh ou r;have h3:=h.n3;have h6:=h.n6;refine fn (fu:=⟨16⟩) func283 J J ntmps283 J J (fun C=>?_);refine aj 12 (.d (vI (r.length:Nat))) J (by rw[hm]<;>rfl)<|gx J<|lp (X:=Nat×Int) (fun⟨k,c⟩=>[(13, .d (vI (k:Nat))),(5, .d (vI c))]) (fun⟨k,c⟩=>[]) (fun⟨k,c⟩=>c=qp r p k/\k<=r.length) (fun⟨k,c⟩=>r.length-k) (0,0) J ⟨J,aM _⟩ (fun _=>J) (fun⟨k,c⟩ hk=>?_);dsimp only at hk⊢;obtain⟨h1,h2⟩:=hk;have hcl:c.natAbs<=k:=by rw[h1];exact Ex r p k
 refine br J J J (fun hc14=>?_) (fun hc14=>?_)
 .
  have hkr:k<r.length:=by omega
  obtain⟨v,hv⟩: ∃v,v=r.getD k (0,0):=⟨_,rfl⟩;obtain⟨w,hw⟩: ∃v,v=i6 r k:=⟨_,rfl⟩;haveI hvb:aD v.q 12:=by rw[hv];exact vf (h.le _ (uO hkr))
  haveI hwb:aD w.q 12:=by rw[hw];exact vf (h.le _ (xP hkr))
  refine ix (fu:=⟨1⟩) _ J (AS hkr) J<|aj 19 (.d (eP v.q)) J (by rw[hv];rfl)<|gx (fu:=⟨6⟩) J<|aj 25 (.d (vI ((k+1)%r.length:Nat))) J (by rw[hm]<;>rfl)<|gx J<|ix (fu:=⟨1⟩) _ J (Ix hkr) J<|aj 27 (.d (eP w.q)) J (by rw[hw];rfl)<|gx J<|cl J (ki (a:=v.q.y) (b:=p.y) (i:=12) (j:=i) (by decide) (by omega)) J<|cl (fu:=⟨9⟩) J (ki (a:=w.q.y) (b:=p.y) (i:=12) (j:=i) (by decide) (by omega)) J<|?_;rcases(show(bw v.q.y p.y<=0/\bw w.q.y p.y<=0)\/(bw v.q.y p.y<=0/\ ¬bw w.q.y p.y<=0)\/(¬bw v.q.y p.y<=0/\bw w.q.y p.y<=0)\/(¬bw v.q.y p.y<=0/\ ¬bw w.q.y p.y<=0) by omega) with⟨ca,cb⟩|⟨ca,cb⟩|⟨ca,cb⟩|⟨ca,cb⟩
  .
   refine dP (fu:=⟨3⟩) J (by show some (decide _)=some true;rw[decide_eq_true (by omega)]) J<|cC (fu:=⟨15⟩) J (by show some (decide _)=some false;rw[decide_eq_false (by omega)]) J<|cC (fu:=⟨20⟩) J (by show some (decide _)=some false;rw[decide_eq_false (by omega)]) J<|at_ (k+1,c) (by dsimp only;exact⟨⟨by rw[qp,<-h1,<-hv,<-hw];unfold sH;split<;>split<;>omega,by omega⟩,(by omega)⟩)
  .
   refine dP (fu:=⟨3⟩) J (by show some (decide _)=some true;rw[decide_eq_true (by omega)]) J<|dP J (by show some (decide _)=some true;rw[decide_eq_true (by omega)]) J<|cl J (J5 (a:=v.q) (b:=w.q) (c:=p) (i:=12) (j:=12) (k:=i) (by decide) (by decide) hi) J<|br (fu1:=⟨10⟩) (fu2:=⟨6⟩) J J J (fun hc51=>?_) (fun hc51=>?_)
   .
    refine cC J (by show some (decide _)=some false;rw[decide_eq_false (by omega)]) J<|at_ (k+1,c+1) (by dsimp only;exact⟨⟨by rw[qp,<-h1,<-hv,<-hw];unfold sH;split<;>split<;>omega,by omega⟩,(by omega)⟩)
   .
    refine cC (fu:=⟨20⟩) J (by show some (decide _)=some false;rw[decide_eq_false (by omega)]) J<|at_ (k+1,c) (by dsimp only;exact⟨⟨by rw[qp,<-h1,<-hv,<-hw];unfold sH;split<;>split<;>omega,by omega⟩,(by omega)⟩)
  .
   refine cC (fu:=⟨19⟩) J (by show some (decide _)=some false;rw[decide_eq_false (by omega)]) J<|dP (fu:=⟨2⟩) J (by show some (decide _)=some true;rw[decide_eq_true (by omega)]) J<|dP J (by show some (decide _)=some true;rw[decide_eq_true (by omega)]) J<|cl J (J5 (a:=v.q) (b:=w.q) (c:=p) (i:=12) (j:=12) (k:=i) (by decide) (by decide) hi) J<|br (fu2:=⟨8⟩) J J J (fun hc65=>?_) (fun hc65=>?_)
   .
    exact at_ (k+1,c-1) (by dsimp only;exact⟨⟨by rw[qp,<-h1,<-hv,<-hw];unfold sH;split<;>split<;>omega,by omega⟩,(by omega)⟩)
   .
    exact at_ (k+1,c) (by dsimp only;exact⟨⟨by rw[qp,<-h1,<-hv,<-hw];unfold sH;split<;>split<;>omega,by omega⟩,(by omega)⟩)
  .
   refine cC (fu:=⟨19⟩) J (by show some (decide _)=some false;rw[decide_eq_false (by omega)]) J<|dP (fu:=⟨2⟩) J (by show some (decide _)=some true;rw[decide_eq_true (by omega)]) J<|cC J (by show some (decide _)=some false;rw[decide_eq_false (by omega)]) J<|at_ (k+1,c) (by dsimp only;exact⟨⟨by rw[qp,<-h1,<-hv,<-hw];unfold sH;split<;>split<;>omega,by omega⟩,(by omega)⟩)
 .
  obtain rfl:k=r.length:=by omega
  have hfin:td r p=c:=h1.symm;exact rz J (by rw[hfin];rfl)
def VU{n:Int}(hn:n.natAbs<=1000):PF GB prog 284 [vI fill,vI n] (vB (vA fill n)):=by
 refine fn func284 J J ntmps284 J J (fun C=>?_);refine cs 7 J J J (fun hg7=>?_) (fun hg7=>?_)
 .
  refine cs 12 J J J (fun hg12=>?_) (fun hg12=>?_)
  .
   exact rz J (by show vB _=vB _;unfold vA;congr 1;simp_all)
  .
   refine cs 15 J J J (fun hg15=>?_) (fun hg15=>?_)
   .
    exact rz J (by show vB _=vB _;unfold vA;congr 1;simp_all)
   .
    exact rz J (by show vB _=vB _;unfold vA;congr 1;simp_all)
 .
  refine cs 15 J J J (fun hg15=>?_) (fun hg15=>?_)
  .
   exact rz J (by show vB _=vB _;unfold vA;congr 1;simp_all)
  .
   exact rz J (by show vB _=vB _;unfold vA;congr 1;simp_all)
def Jc(rs:List (List ZP)):List aa:=(iz rs).map bA.l
def vE(rs:List (List ZP))(fill:Int):DV:= .ag [.sl (rs.map jA), .v (.int .i64 fill), .sl ((ng (Jc rs)).map eL)]
def X2(h: ∀r∈rs,ew r)(k:Nat):((rs.take k).foldl (fun n r=>n+td r p) 0).natAbs<=6*k:=by
 induction k with
 |zero=>rw[tM];exact aM _
 |succ k ih=>
  rw[dZ,mL]
  cases e:rs[k]? with
  |none=>exact cN ih (by omega)
  |some r=>
   have h1:(td r p).natAbs<=r.length:=Ex r p r.length;have h2:=(h r (aK e)).n6;show(List.foldl _ 0 (rs.take k)+td r p).natAbs<=_;omega
def XY[hp:aD p i](h: ∀r∈rs,ew r)(hn:rs.length<=100)(hi:i<=80000:=by decide):PF GB prog 229 [vE rs fill,eP p] (vB (nf rs fill p)):=by
 have hm:=eh jA rs;refine fn (fu:=⟨18⟩) func229 J J ntmps229 J J (fun C=>?_);refine aj 10 (.d (vI (rs.length:Nat))) J (by rw[hm]<;>rfl)<|gx J<|lp (X:=Nat×Int) (fun⟨k,c⟩=>[(11, .d (vI (k:Nat))),(5, .d (vI c))]) (fun⟨k,c⟩=>[]) (fun⟨k,c⟩=>c=(rs.take k).foldl (fun n r=>n+td r p) 0/\k<=rs.length) (fun⟨k,c⟩=>rs.length-k) (0,0) J ⟨by rw[tM];rfl,aM _⟩ (fun _=>J) (fun⟨k,c⟩ hk=>?_);dsimp only at hk⊢;obtain⟨h1,h2⟩:=hk;have hcl:c.natAbs<=6*k:=by rw[h1];exact X2 h k
 refine br J J J (fun hc12=>?_) (fun hc12=>?_)
 .
  obtain⟨r,hz⟩: ∃s,rs[k]? =some s:=⟨_,aZ (by omega)⟩;have hr:=h r (aK hz);have hnz:(td r p).natAbs<=6:=cN (Ex r p r.length) hr.n6;refine ix _ J (cg hz) J<|cl J (ayJ (r:=r) (p:=p) hr hi) J<|at_ (k+1,c+td r p) (by dsimp only;exact⟨⟨by rw[dZ,hz,mL,<-h1];rfl,by omega⟩,(by omega)⟩)
 .
  obtain rfl:k=rs.length:=by omega
  rw[cS] at h1;refine cl J (VU (fill:=fill) (n:=c) (by omega)) J<|rz J (by unfold nf;rw[<-h1];rfl)
def lD(r:List ZP):DV:= .sl ((r.map ZP.q).map nO)
def Vf(l:List (List ZP)):cE 1 (l.map lD):=fun d hd=>by
 obtain⟨u,_,rfl⟩:=aT.1 hd;exact⟨rfl,rfl⟩
theorem LA(h: ∀p∈r,ZP.le 100 p): ∀p∈r.map ZP.q,aD p 1200:=fun p hp=>by
 obtain⟨z,hz,rfl⟩:=aT.1 hp;have:=vf (h z hz);exact⟨BQ.mono this.x,BQ.mono this.y⟩
def DY(r:List ZP):DV.sl ((r.map ZP.q).map eP)=jA r:=by unfold jA;rw[List.map_map];rfl
def Py(h:rs[k]? =some r):iz (rs.take (k+1))=iz (rs.take k)++jH r:=by
 unfold iz;rw[dZ,h,qY];simp
def Ow(h: ∀r∈rs,ew r)(k:Nat):(iz (rs.take k)).length<=6*k:=by
 have:=(xl (rs:=rs.take k) (fun r hr=>h r (eM hr))).1;have h2:(rs.take k).length<=k:=by rw[bT];omega
 omega
def aDj(h: ∀r∈rs,ew r)(hn:rs.length<=100):PF GB prog 87 [.sl (rs.map lD), .v (.int .i64 fill)] (vE rs fill):=by
 have hm:=eh lD rs;refine fn (fu:=⟨8⟩) func87 J J ntmps87 J J (fun C=>?_);refine Zo (fu:=⟨14⟩) 27 1 0 [] [.v (.int .i64 fill), .sl []] J J J J J<|aj 15 (.d (vI (rs.length:Nat))) J (by rw[hm]<;>rfl)<|gx J<|nr 6 6 55 6 J J J<|lp (X:=Nat) (fun k=>[(16, .d (vI (k:Nat))),(6, .rw 6),(5, .ov 5 0)]) (fun k=>[(5,some (.o 168 [.rw 13, .d (.v (.int .i64 fill)), .d (.sl [])] true)),(13,some (.b 27 1 ((rs.take k).map jA) true)),(6,some (.b 55 6 (((iz (rs.take k)).map bA.l).map eL) true))]) (fun k=>k<=rs.length) (fun k=>rs.length-k) 0 J (aM _) (fun _=>J) (fun k hk=>?_);refine br (fu2:=⟨0⟩) J J J (fun hc17=>?_) (fun hc17=>?_)
 .
  obtain⟨r,hz⟩: ∃s,rs[k]? =some s:=⟨_,aZ (by omega)⟩;have hr:=h r (aK hz);have hel:(jH r).length<=6:=by have:=(Be hr).1;have:=hr.n6;omega
  have het:=Ow h k;have hrl:((rs.take k).map jA).length=k:=by rw[aX,bT];omega
  refine ix _ J (cg hz) J<|cl (fu:=⟨0⟩) J (aIu (ps:=r.map ZP.q) (LA hr.le) (by rw[aX];have:=hr.n6;omega)) J<|aj 21 (.d (jA r)) J (by rw[DY])<|gx J<|rf J J<|ap ((rs.take (k+1)).map jA) J (uD hz) (Ya [r]) J<|cl (fu:=⟨1⟩) J (Oa (r:=r) hr) J<|aj 30 (.d (vI ((jH r).length:Nat))) J (by rw[eh fk (jH r)]<;>rfl)<|gx J<|?_;rw[<-fW (iz (rs.take k)),<-tM (l:=jH r)];refine lp (X:=Nat) (fun j=>[(31, .d (vI (j:Nat))),(6, .rw 6)]) (fun j=>[(6,some (.b 55 6 (((iz (rs.take k)++(jH r).take j).map bA.l).map eL) true))]) (fun j=>j<=(jH r).length) (fun j=>(jH r).length-j) 0 J (aM _) (fun _=>J) (fun j hk=>?_);have hml:(((iz (rs.take k)++(jH r).take j).map bA.l).map eL).length<=6*k+6:=by rw[aX,aX,aY,bT];omega
  refine br J J J (fun hc32=>?_) (fun hc32=>?_)
  .
   obtain⟨e,he⟩: ∃s,(jH r)[j]? =some s:=⟨_,aZ (by omega)⟩;refine ix _ J (cg he) J<|rf J J<|ap (((iz (rs.take k)++(jH r).take (j+1)).map bA.l).map eL) J (by rw[dZ,he];simp only[aL,dV];rfl) (ez [e.l]) J<|d6 39 6 J<|at_ (j+1) ⟨(by omega),(by omega)⟩
  .
   obtain rfl:j=(jH r).length:=by omega
   rw[cS,<-Py hz];refine d6 26 13 J<|at_ (k+1) ⟨(by omega),(by omega)⟩
 .
  obtain rfl:k=rs.length:=by omega
  rw[cS];refine nC 6 rfl<|nC 13 rfl<|gx rfl<|cl rfl (SM (ls:=Jc rs) (fun l hl=>by obtain⟨f,hf,rfl⟩:=aT.1 hl;exact((xl h).2 f hf).lb) (by unfold Jc;rw[aX];have:=(xl h).1;omega)) rfl<|rz J J
def aIY(h: ∀r∈rs,ew r)(hn:rs.length<=100):PF GB prog 88 [.sl (rs.map jA)] (.sl (rs.map lD)):=by
 have hm:=eh jA rs;refine fn (fu:=⟨15⟩) func88 J J ntmps88 J J (fun C=>?_);refine aj 7 (.d (vI (rs.length:Nat))) J (by rw[hm]<;>rfl)<|gx J<|nr 3 3 93 1 J J J<|lp (X:=Nat) (fun k=>[(8, .d (vI (k:Nat))),(3, .rw 3)]) (fun k=>[(3,some (.b 93 1 ((rs.take k).map lD) true))]) (fun k=>k<=rs.length) (fun k=>rs.length-k) 0 J (aM _) (fun _=>J) (fun k hk=>?_);have hml:((rs.take k).map lD).length<=k:=by rw[aX,bT];omega
 refine br J J J (fun hc9=>?_) (fun hc9=>?_)
 .
  obtain⟨r,hz⟩: ∃s,rs[k]? =some s:=⟨_,aZ (by omega)⟩;have hr:=h r (aK hz);refine ix (fu:=⟨1⟩) _ J (cg hz) J<|aj 11 (.d (.sl ((r.map ZP.q).map eP))) J (by rw[DY])<|gx J<|cl J (O4 (ps:=r.map ZP.q) (LA hr.le) (by rw[aX];have:=hr.n6;omega)) J<|rf J J<|ap ((rs.take (k+1)).map lD) J (uD hz) (Vf [r]) J<|d6 16 3 J<|at_ (k+1) ⟨(by omega),(by omega)⟩
 .
  obtain rfl:k=rs.length:=by omega
  refine gp 3 J<|rz J (by rw[cS];rfl)
def TN(out:List aa)(l:aa):(pe out l).length<=out.length+1:=by
 unfold pe;split
 .omega
 .simp;omega
def L4(c:List aa): ∀(t out:List aa),(m9 c t out).length<=out.length+t.length
 |[],out=>by simp[m9]
 |l::t,out=>by
  rw[m9];refine cN (L4 c t _) ?_;have:=TN out l;split<;>simp<;>omega
def vr(c:List aa):(fP c).length<=c.length:=cN (L4 c c []) (by simp)
theorem MP(h: ∀m∈c,LB m): ∀m∈fP c,LB m:=fun m hm=>h m (pz.1 hm).1
def Sl(h: ∀m∈c,m.ok): ∀m∈fP c,m.ok:=fun m hm=>h m (pz.1 hm).1
def P7(hc: ∀m∈c,LB m)(hok: ∀m∈c,m.ok)(hn:c.length<=900)(hl:LB l)(hlo:l.ok):PF GB prog 109 [.sl (c.map eL),eL l] (.sl ((fP (c++[l])).map eL)):=by
 have hcl:=r9 c;refine fn func109 J J ntmps109 J J (fun C=>?_);refine pI J J<|ap (c.map eL) J J (ez _) J<|rf J J<|kD ((c++[l]).map eL) J (by rw[aL];rfl) (ez [l]) J<|cl J (F9 (c:=c++[l]) (wm hc hl) (nn hok hlo) (by simp;omega)) J<|rz J J
def U9{x y:Tr}:PF GB prog 108 [eL l,eT (.node l1 x y),eT u] (eT (.node l (.node l1 x y) u)):=by
 refine fn (fu:=⟨12⟩) func108 J J ntmps108 J J (fun C=>?_);refine cC J J J<|gp 33 J<|rz J J
def av1{x y:Tr}{p:Bool}:PF GB prog 108 [eL l,eT (.leaf p),eT (.node l1 x y)] (eT (.node l (.leaf p) (.node l1 x y))):=by
 refine fn (fu:=⟨12⟩) func108 J J ntmps108 J J (fun C=>?_);refine dP (fu:=⟨4⟩) J J J<|cC J J J<|gp 33 J<|rz J J
def Vq{p:Bool}:PF GB prog 108 [eL l,eT (.leaf p),eT (.leaf q)] (eT (Tr.joinQ l (.leaf p) (.leaf q))):=by
 refine fn (fu:=⟨12⟩) func108 J J ntmps108 J J (fun C=>?_);refine dP (fu:=⟨4⟩) J J J<|dP J J J<|bd J J J (fun hc27=>?_) (fun hc27=>?_)
 .
  exact rz J (by rw[show Tr.joinQ l (.leaf p) (.leaf q)= .leaf p by simp[Tr.joinQ,Tr.isLeaf,Tr.code,hc27]];rfl)
 .
  refine gp 33 J<|rz J (by rw[show Tr.joinQ l (.leaf p) (.leaf q)= .node l (.leaf p) (.leaf q) by simp[Tr.joinQ,Tr.isLeaf,Tr.code,hc27]];rfl)
def Ys: ∀{x y:Tr},PF GB prog 108 [eL l,eT x,eT y] (eT (Tr.joinQ l x y))
 | .leaf _, .leaf _=>Vq
 | .leaf _, .node .. =>av1
 | .node ..,_=>U9
def aiu:PF GB prog 83 [eT (.leaf b), .sl (c.map eL)] (eT (Tr.restrictL (.leaf b) c)):=by
 refine fn (fu:=⟨11⟩) func83 J J ntmps83 J J (fun C=>?_);refine dP J J J<|rz J J
def aip{x y:Tr}(hl:LB l)(hlo:l.ok)(hc: ∀m∈c,LB m)(hok: ∀m∈c,m.ok)(hn:c.length+(Tr.node l x y).depth<=900)(ihx: ∀{c:List aa},(∀m∈c,LB m)->(∀m∈c,m.ok)->c.length+x.depth<=900->PF GB prog 83 [eT x, .sl (c.map eL)] (eT (Tr.restrictL x c)))(ihy: ∀{c:List aa},(∀m∈c,LB m)->(∀m∈c,m.ok)->c.length+y.depth<=900->PF GB prog 83 [eT y, .sl (c.map eL)] (eT (Tr.restrictL y c))):PF GB prog 83 [eT (.node l x y), .sl (c.map eL)] (eT (Tr.restrictL (.node l x y) c)):=by
 have hdp:(Tr.node l x y).depth=1+Nat.max x.depth y.depth:=J;have hdx:x.depth<=Nat.max x.depth y.depth:=rZ _ _;have hdy:y.depth<=Nat.max x.depth y.depth:=pN _ _;have hca:=vr (c++[l]);have hcb:=vr (c++[l.rev]);rw[aY,gS] at hca hcb;refine fn (fu:=⟨11⟩) func83 J J ntmps83 J J (fun C=>?_);refine cC J J J<|cl J (aBF (c:=c) (l:=l) hc hok (by omega) hl hlo) J<|br J J J (fun hc16=>?_) (fun hc16=>?_)
 .
  refine cl J (ihx hc hok (by omega)) J<|rz J (by rw[Tr.restrictL,if_pos hc16];rfl)
 .
  refine br J J J (fun hc24=>?_) (fun hc24=>?_)
  .
   refine cl J (ihy hc hok (by omega)) J<|rz J (by rw[Tr.restrictL,if_neg hc16,if_pos hc24];rfl)
  .
   refine cl J (P7 (c:=c) (l:=l) hc hok (by omega) hl hlo) J<|cl J (ihx (c:=fP (c++[l])) (MP (wm hc hl)) (Sl (nn hok hlo)) (by omega)) J<|cl J (xk (l:=l)) J<|cl J (P7 (c:=c) (l:=l.rev) hc hok (by omega) hl.rev hlo.rev) J<|cl J (ihy (c:=fP (c++[l.rev])) (MP (wm hc hl.rev)) (Sl (nn hok hlo.rev)) (by omega)) J<|cl J Ys J<|rz J (by rw[Tr.restrictL,if_neg hc16,if_neg hc24];rfl)
def JO: ∀{t:Tr} {c:List aa},t.all LB->t.all aa.ok->(∀m∈c,LB m)->(∀m∈c,m.ok)->c.length+t.depth<=900->PF GB prog 83 [eT t, .sl (c.map eL)] (eT (Tr.restrictL t c))
 | .leaf _,_,_,_,_,_,_=>aiu
 | .node l x y,c,hb,ho,hc,hok,hn=>aip hb.1 ho.1 hc hok hn (fun h1 h2 h3=>JO hb.2.1 ho.2.1 h1 h2 h3) (fun h1 h2 h3=>JO hb.2.2 ho.2.2 h1 h2 h3)
def oy(es:List Int):Nat->Nat->List aa×Nat
 |0,a=>([],a)
 |i+1,a=>((lF es a).1::(oy es i (lF es a).2).1,(oy es i (lF es a).2).2)
def NJ{es:List Int}: ∀{i a:Nat},a<=es.length->(∀l∈(oy es i a).1,LS l)/\(oy es i a).1.length=i/\(oy es i a).2<=es.length
 |0,a,ha=>⟨fun l h=>absurd h (by simp[oy]),J,ha⟩
 |i+1,a,ha=>by
  obtain⟨h1,h2⟩:=QM ha;obtain⟨k1,k2,k3⟩:=NJ (i:=i) h2;exact⟨dW.2 ⟨h1,k1⟩,by show _+1=_;rw[k2],k3⟩
def ot(es:List Int)(most a:Nat):List aa×Nat:=oy es (au es ((most:Int)+1) a).1 (au es ((most:Int)+1) a).2
def aGe{a:Nat}(ha:a<=es.length):(∀l∈(ot es most a).1,LS l)/\(ot es most a).1.length<=most/\(ot es most a).2<=es.length:=by
 have h1:=fp (es:=es) (n:=(most:Int)+1) (a:=a) (by omega);obtain⟨k1,k2,k3⟩:=NJ (i:=(au es ((most:Int)+1) a).1) (gD (n:=(most:Int)+1) ha);exact⟨k1,by unfold ot;rw[k2];omega,k3⟩
def MJ(hn:n<=1000:=by decide)(hd:0<d:=by decide)(hd1:d<=1000:=by decide):PF GB prog 18 [.v (.int .i64 (n:Int)), .v (.int .i64 (d:Nat))] (eQ (mkRat n d)):=by
 haveI:BI (n:Int) 10:=Er (by rw[fX];omega);haveI:BN d 10:=⟨by omega⟩;refine fn func18 J J ntmps18 J J (fun C=>?_);refine cl J (So (n:=(n:Int))) J<|cl J (sO (u:=d)) J<|cl J (wh (x:=(n:Int)) (d:=d) hd) J<|rz J J
def TO{b:Nat}(hes:es.length<=400){a:Nat}(ha:a<=es.length)(hmo:most<=900):Bx GB prog 17 (i9 [none,some (.v (.int .i64 (most:Nat)))] b) b 84 [.sl (es.map vI), .v (.int .i64 (a:Nat))] 6 55 Unit (fun _=>(ot es most a).1.map eL) (fun _=>[.sl (es.map vI), .v (.int .i64 ((ot es most a).2:Nat))]):=by
 have hk:=fp (es:=es) (n:=(most:Int)+1) (a:=a) (by omega);refine WV func17 J J ntmps17 J J (fun C b hmb=>?_);refine cm J (fun b=>(lH (n:=(most:Int)+1) hes ha (by omega) (by omega))) J<|nr 5 2000 55 6 J J J<|lp (X:=List aa×Nat×Nat) (fun⟨xs,i,a2⟩=>[(6, .d (.v (.int .i64 (i:Nat)))),(5, .rw 2000)]) (fun⟨xs,i,a2⟩=>[(1000000,some (.o 84 [.d (.sl (es.map vI)), .d (.v (.int .i64 (a2:Nat)))] false)),(2000,some (.b 55 6 (xs.map eL) true))]) (fun⟨xs,i,a2⟩=>xs++(oy es i a2).1=(ot es most a).1/\(oy es i a2).2=(ot es most a).2/\a2<=es.length/\xs.length+i<=most) (fun⟨xs,i,a2⟩=>i) ⟨[],(au es ((most:Int)+1) a).1,(au es ((most:Int)+1) a).2⟩ J ⟨J,J,gD ha,by simp;omega⟩ (fun _=>J) (fun⟨xs,i,a2⟩ hk=>?_)
 try dsimp only at hk⊢
 obtain⟨h1,h2,h3,h4⟩:=hk;have hxl:=r9 xs;refine br J J J (fun hc12=>?_) (fun hc12=>?_)
 .
  obtain⟨j,rfl⟩: ∃j,i=j+1:=⟨i-1,by omega⟩;refine cm J (fun b=>(WC hes h3)) J<|rf J J<|ap ((xs++[(lF es a2).1]).map eL) J (by rw[aL];rfl) (ez [_]) J<|d6 19 2000 J<|at_ ⟨xs++[(lF es a2).1],j,(lF es a2).2⟩ (by dsimp only;exact⟨⟨by rw[<-h1,oy];simp,by rw[<-h2];rfl,(QM h3).2,by simp;omega⟩,(by omega)⟩)
 .
  obtain rfl:i=0:=by omega
  rw[oy,fW] at h1;rw[oy] at h2;exact WY () hmb J J J J (by rw[h1]) (by rw[<-h2])
def Ns(xs ys:List NQ)(n:NQ):((xs++(n::ys)).map eN)[((xs.length:Nat):Int).toNat]? =some (eN n):=by simp
def Pn(xs ys:List NQ)(n m:NQ)(e:DV)(h:e=eN m):((xs++(n::ys)).map eN).set ((xs.length:Nat):Int).toNat e=(xs++(m::ys)).map eN:=by subst h;simp
def aoN:PB GB prog 42 (fw [some (eT (.leaf true)),none]) 8 105 (ns.map eN) (fun w=> .tp ([]++ .v (.slice w.a w.n w.c)::[.v (.int .i64 (Tr.num (.leaf true) ns.length))])) ((ns++Tr.wr (.leaf true) ns.length).map eN):=by
 refine Ka (fu:=⟨12⟩) func42 J J ntmps42 J J (fun C=>?_);refine dP (fu:=⟨9⟩) J J J<|dP J J J<|?_;exact Jn J J J J J (by simp[Tr.wr]) J
def US:PB GB prog 42 (fw [some (eT (.leaf false)),none]) 8 105 (ns.map eN) (fun w=> .tp ([]++ .v (.slice w.a w.n w.c)::[.v (.int .i64 (Tr.num (.leaf false) ns.length))])) ((ns++Tr.wr (.leaf false) ns.length).map eN):=by
 refine Ka (fu:=⟨12⟩) func42 J J ntmps42 J J (fun C=>?_);refine dP (fu:=⟨9⟩) J J J<|cC J J J<|?_;exact Jn J J J J J (by simp[Tr.wr]) J
def XQ{l:aa}{s u:Tr}{ns:List NQ}(hl:BL l 96)(hs:ns.length+(1+s.size+u.size)<=1000000)(ihs: ∀{ns:List NQ},ns.length+s.size<=1000000->PB GB prog 42 (fw [some (eT s),none]) 8 105 (ns.map eN) (fun w=> .tp ([]++ .v (.slice w.a w.n w.c)::[.v (.int .i64 (Tr.num s ns.length))])) ((ns++Tr.wr s ns.length).map eN))(ihu: ∀{ns:List NQ},ns.length+u.size<=1000000->PB GB prog 42 (fw [some (eT u),none]) 8 105 (ns.map eN) (fun w=> .tp ([]++ .v (.slice w.a w.n w.c)::[.v (.int .i64 (Tr.num u ns.length))])) ((ns++Tr.wr u ns.length).map eN)):PB GB prog 42 (fw [some (eT (.node l s u)),none]) 8 105 (ns.map eN) (fun w=> .tp ([]++ .v (.slice w.a w.n w.c)::[.v (.int .i64 (Tr.num (.node l s u) ns.length))])) ((ns++Tr.wr (.node l s u) ns.length).map eN):=by
 refine Ka (fu:=⟨12⟩) func42 J J ntmps42 J J (fun C=>?_);refine cC (fu:=⟨9⟩) J J J<|aj 20 (.d (.v (.int .i64 (ns.length:Nat)))) J (by simp)<|gx J<|cl J (Lb hl) J<|rf J J<|QU ((ns++[(⟨l,0,0⟩:NQ)]).map eN) J (by rw[aL]<;>rfl) (YC [(⟨l,0,0⟩:NQ)]) J<|cb _ J (ihs (ns:=ns++[(⟨l,0,0⟩:NQ)]) (by simp;omega)) J J<|cb (hv:=by simp only[ak];exact(by simp;omega)) ((ns++((⟨l,0,0⟩:NQ)::(s.wr (ns.length+1)++u.wr (ns.length+1+s.size)))).map eN) J (ihu (ns:=ns++[(⟨l,0,0⟩:NQ)]++s.wr (ns++[(⟨l,0,0⟩:NQ)]).length) (by simp[Tr.wr_len];omega)) (by simp[Tr.wr_len,lX,kR 1]) J<|sb (hv:=by simp only[ak];exact(by simp;omega)) (eN ⟨l,0,0⟩) ((ns++((⟨l,s.num (ns.length+1),0⟩:NQ)::(s.wr (ns.length+1)++u.wr (ns.length+1+s.size)))).map eN) J (Ns ns _ ⟨l,0,0⟩) J (by rw[Pn _ _ _ ⟨l,s.num (ns.length+1),0⟩ _ (by simp[eN,DV.cells])]) J<|sb (eN ⟨l,s.num (ns.length+1),0⟩) ((ns++Tr.wr (.node l s u) ns.length).map eN) J (Ns ns _ ⟨l,s.num (ns.length+1),0⟩) J (by rw[Pn _ _ _ ⟨l,s.num (ns.length+1),u.num (ns.length+1+s.size)⟩ _ (by simp[eN,DV.cells,Tr.wr_len,lX,kR 1])];simp[Tr.wr]) J<|?_;exact Jn J J J J J J J
def Ga: ∀{t:Tr} {ns:List NQ},t.all (fun l=>BL l 96)->ns.length+t.size<=1000000->PB GB prog 42 (fw [some (eT t),none]) 8 105 (ns.map eN) (fun w=> .tp ([]++ .v (.slice w.a w.n w.c)::[.v (.int .i64 (Tr.num t ns.length))])) ((ns++Tr.wr t ns.length).map eN)
 | .leaf true,ns,_,_=>aoN
 | .leaf false,ns,_,_=>US
 | .node l s u,ns,hb,hs=>XQ hb.1 hs (fun h=>Ga hb.2.1 h) (fun h=>Ga hb.2.2 h)
def XF(hb:t.all (fun l=>BL l 96))(hs:t.size<=1000000):PF GB prog 10 [eT t] (eA t):=by
 refine fn func10 J J ntmps10 J J (fun C=>?_);refine TL _ J (Ga (t:=t) (ns:=[]) hb (by simpa using hs)) J J<|gp 6 J<|rz J J
def Zg(ds:List Int):cE 1 (ds.map vI):=fun d hd=>by
 obtain⟨n,_,rfl⟩:=aT.1 hd;exact⟨rfl,rfl⟩
def XC(es:List Int):(es.map vI).take (min es.length 400)=(es.take 400).map vI:=by
 rw[iU];rcases Nat.le_total es.length 400 with h|h
 .rw[jN h,cX (by simp),cX (by simpa using h)]
 .rw[Nat.min_eq_right h]
def V6(hb:es.length<=1125899906842624):PN GB prog 6 [.sl (es.map vI)] 84 Unit (fun _=>[.sl ((es.take 400).map vI), .v (.int .i64 (0:Nat))]):=by
 have hel:(es.map vI).length=es.length:=by simp
 refine fnN func6 J J ntmps6 J J (fun C hmb=>?_);refine kn 0 (min es.length 400) ((es.take 400).map vI) J J (by rw[hel];show(if _ then _ else _:Int)=_;split<;>omega) (XC es) (Zg _) (by omega) (by omega) J<|?_;exact UR () J J J J J
def TP(hb:t.all LB)(hok:t.all aa.ok)(hd:t.depth<=900):PF GB prog 33 [eT t] (eT (t.restrict [])):=by
 refine fn func33 J J ntmps33 J J (fun C=>?_);refine cl J (JO (t:=t) (c:=[]) hb hok (by simp) (by simp) (by simpa using hd)) J<|rz J (by rw[<-Tr.restrictL_eq t [] [] hok (by simp) bC.nil (fun p=>by unfold bu f9;simp)];rfl)
def NC{cuts:List Rat}{marks:List Bool}: ∀k,2*(gI cuts marks k).length<=k+(if 0<k/\marks.getD (k-1) false=true then 1 else 0)
 |0=>by rw[gI];simp
 |k+1=>by
  have ih:=NC (cuts:=cuts) (marks:=marks) k;rw[gI];simp only[nY];by_cases hm:marks.getD k false=true
  .rw[if_pos hm,if_pos (show 0<k+1/\marks.getD k false=true from⟨by omega,hm⟩)]
   by_cases hp:0<k/\marks.getD (k-1) false=true
   .rw[if_pos hp] at ih⊢
    cases hv:(gI cuts marks k).getLast? with
    |some v=>
     have:0<(gI cuts marks k).length:=by
      cases e:gI cuts marks k with
      |nil=>rw[e] at hv;simp at hv
      |cons a t=>simp
     show 2*((gI cuts marks k).dropLast++[_]).length<=_;rw[aY,mY,gS];omega
    |none=>
     have:gI cuts marks k=[]:=List.getLast?_eq_none_iff.1 hv;simp only[this];simp
   .rw[if_neg hp] at ih⊢
    rw[aY,gS];omega
  .rw[if_neg hm]
   split at ih<;>split<;>omega
def UD(op:Int)(a b:List ar):(qb op a b).length<=a.length+b.length+1:=by
 unfold qb vY;have h:=NC (cuts:=jy (a++b)) (marks:=(cj (jy (a++b))).map fun t=>nP op (gn a t) (gn b t)) ((cj (jy (a++b))).map fun t=>nP op (gn a t) (gn b t)).length;have h2:=HV (a++b);rw[aY] at h2;have h3:((cj (jy (a++b))).map fun t=>nP op (gn a t) (gn b t)).length=(jy (a++b)).length+1:=by rw[aX,yn]
 split at h<;>omega
def J8(f:bA)(m:aa)(side:Int):(fm f m side).length<=3:=by
 unfold fm;split
 .simp
 .rw[aX]
  have:=UD 2 [f.v] (jf f.l m side);have h2:=Ab (l:=f.l) (m:=m) (side:=side);rw[gS] at this;omega
theorem aps{v:ah}{s:Rat}[hp:aD p 4500][hv:aD v 97][hm:LB m](hs:BQ s 60000):BQ (tn p v m s) 60000:=by
 unfold tn uq;split
 .exact hs
 .split
  .exact hs
  .split
   .split
    .haveI:BQ (-(m.value p/(m.value (cF p v ((1:Int):Rat))-m.value p))) 45000:=BQ.mono inferInstance
     exact BQ.mono (inferInstance:BQ (-(m.value p/(m.value (cF p v ((1:Int):Rat))-m.value p))/2) _)
    .exact hs
   .exact hs
theorem Rk{p v:ah}[hp:aD p 4500][hv:aD v 97]: ∀{c:List aa} {s:Rat},(∀m∈c,LB m)->BQ s 60000->BQ (rF p v c s) 60000
 |[],_,_,hs=>hs
 |m::t,s,hc,hs=>by
  haveI:=hc m aQ;exact Rk (c:=t) (fun q hq=>hc q (aJ _ hq)) (aps hs)
theorem OR{c:List aa}(hc: ∀m∈c,LB m)(hok: ∀m∈c,m.ok): ∀{t:List aa},(∀m∈t,m∈c)->aD (jB c t) 70000
 |[],_=>by
  have h0:BQ (0:Rat) 70000:=BQ.mono (k:=1) ⟨by decide,by decide⟩;exact⟨h0,h0⟩
 |m::t,h=>by
  have hm:=h m aQ;haveI:=hc m hm;rw[jB];split
  .have hbd:=ED (v:=ar.all) (hok m hm).ne hc gy.all (BQ.mono (k:=1) ⟨by decide,by decide⟩) (BQ.mono (k:=1) ⟨by decide,by decide⟩)
   haveI:=hbd.1;haveI:=hbd.2;haveI hsb:=QW (v:=(ge m c ar.all).1) (i:=1200);haveI hpt:aD (m.at (kd (ge m c ar.all).1)) 4500:=by have:=aD.at m (kd (ge m c ar.all).1) (1200+1200+5);exact⟨this.x.mono (by decide),this.y.mono (by decide)⟩
   haveI hvt:aD (gP m.dir) 97:=inferInstance;haveI hns:BQ (rF (m.at (kd (ge m c ar.all).1)) (gP m.dir) c ((1:Int):Rat)) 60000:=Rk hc (BQ.mono (k:=2) ⟨by decide,by decide⟩);have:=aD.mov (m.at (kd (ge m c ar.all).1)) (gP m.dir) (rF (m.at (kd (ge m c ar.all).1)) (gP m.dir) c ((1:Int):Rat)) 4500 97 60000;exact⟨this.x.mono (by decide),this.y.mono (by decide)⟩
  .exact OR hc hok (fun q hq=>h q (aJ _ hq))
def KN{l:List bA}(h:l[k]? =some g):(l.take (k+1)).flatMap (fun g=>fm g m side)=(l.take k).flatMap (fun g=>fm g m side)++fm g m side:=by
 rw[dZ,h,qY];simp
def Dm(l:List bA)(m:aa)(side:Int):(l.flatMap fun g=>fm g m side).length<=3*l.length:=by
 induction l with
 |nil=>simp
 |cons a t ih=>rw[lZ,aY,bZ];have:=J8 a m side;omega
def Zf{acc:ah->Bool}:jo acc n [] c= .leaf (acc (jB c c)):=by cases n<;>rfl
def atf(hrs: ∀r∈rs,ew r)(hrn:rs.length<=100)(hc: ∀m∈c,LB m)(hok: ∀m∈c,m.ok)(hn:c.length<=900):PF GB prog 160 [vE rs fill, .sl [], .sl (c.map eL)] (eT (jo (nf rs fill) n [] c)):=by
 haveI hpb:=OR hc hok (t:=c) (fun _ h=>h);refine fn (fu:=⟨11⟩) func160 J J ntmps160 J J (fun C=>?_);refine dP J J J<|cl J (H0 (c:=c) hc hok (by omega)) J<|cl J (XY (p:=jB c c) (i:=70000) hrs hrn (by decide)) J<|cl J (Tj (p:=nf rs fill (jB c c))) J<|rz J (by rw[Zf];rfl)
def Y7{rs:List (List ZP)}{fill:Int}(hrs: ∀r∈rs,ew r)(hrn:rs.length<=100){n:Nat}{f:bA}{t:List bA}{c:List aa}(hfew:sk (n+1) (f::t))(hfo: ∀g∈f::t,pj g)(hlen:(f::t).length*3^(n+1)<=6973568802)(hc: ∀m∈c,LB m)(hok: ∀m∈c,m.ok)(hn:c.length+(n+1)<=900)(ih: ∀{l:List bA} {c:List aa},sk n l->(∀f∈l,pj f)->l.length*3^n<=6973568802->(∀m∈c,LB m)->(∀m∈c,m.ok)->c.length+n<=900->PF GB prog 160 [vE rs fill, .sl (l.map fk), .sl (c.map eL)] (eT (jo (nf rs fill) n l c))):PF GB prog 160 [vE rs fill, .sl ((f::t).map fk), .sl (c.map eL)] (eT (jo (nf rs fill) (n+1) (f::t) c)):=by
 obtain⟨l,hl⟩: ∃l,l=f::t:=⟨_,rfl⟩;have hl0:l[0]? =some f:=by rw[hl];rfl
 rw[<-hl] at hfew hfo hlen⊢;have hm:=eh fk l;have hfl:=hfo f (aK hl0);haveI:=hfl.lb;have hlp:0<l.length:=by rw[hl];simp
 have hlb:l.length<=6973568802:=cN (mU _ (gQ (by decide))) hlen;refine fn (fu:=⟨11⟩) func160 J J ntmps160 J J (fun C=>?_);refine aj 17 (.d (vI (l.length:Nat))) J (by rw[hm]<;>rfl)<|gx (fu:=⟨0⟩) J<|cC J (by show some (decide _)=some false;rw[decide_eq_false (by omega)]) J<|ix (fu:=⟨17⟩) _ J (cg (i:=0) hl0) J<|aj 33 (.d (vI (l.length:Nat))) J (by rw[hm]<;>rfl)<|gx J<|nr 10 10 274 14 J J J<|nr 11 11 274 14 J J J<|lp (X:=Nat) (fun k=>[(34, .d (vI (k:Nat))),(10, .rw 10),(11, .rw 11)]) (fun k=>[(10,some (.b 274 14 (((l.take k).flatMap fun g=>fm g f.l 1).map fk) true)),(11,some (.b 274 14 (((l.take k).flatMap fun g=>fm g f.l (-1)).map fk) true))]) (fun k=>k<=l.length) (fun k=>l.length-k) 0 J (aM _) (fun _=>J) (fun k hk=>?_);have htk:(l.take k).length<=6973568802:=by rw[bT];omega
 have hb1:(((l.take k).flatMap fun g=>fm g f.l 1).map fk).length<=20920706406:=by rw[aX];have:=Dm (l.take k) f.l 1;omega
 have hb2:(((l.take k).flatMap fun g=>fm g f.l (-1)).map fk).length<=20920706406:=by rw[aX];have:=Dm (l.take k) f.l (-1);omega
 refine br (fu2:=⟨0⟩) J J J (fun hc35=>?_) (fun hc35=>?_)
 .
  obtain⟨g,hz⟩: ∃s,l[k]? =some s:=⟨_,aZ (by omega)⟩;have hg:=hfo g (aK hz);have hs1:((fm g f.l 1).map fk).length<=3:=by rw[aX];exact J8 _ _ _
  have hs2:((fm g f.l (-1)).map fk).length<=3:=by rw[aX];exact J8 _ _ _
  refine ix _ J (cg hz) J<|cl J (ZA (f:=g) (m:=f.l) hg hfl.ok) J<|ap (hbd:=by omega) (((l.take (k+1)).flatMap fun g=>fm g f.l 1).map fk) J (by rw[KN hz,aL]) (yx _) J<|ap (hbd:=by omega) (((l.take (k+1)).flatMap fun g=>fm g f.l (-1)).map fk) J (by rw[KN hz,aL]) (yx _) J<|d6 46 10 J<|d6 49 11 J<|at_ (k+1) ⟨(by omega),(by omega)⟩
 .
  obtain rfl:k=l.length:=by omega
  rw[cS];refine nC 10 rfl<|nC 11 rfl<|gx rfl<|pI J J<|ap (c.map eL) J J (ez c) rfl<|rf J J<|kD ((c++[f.l]).map eL) rfl (by rw[aL];rfl) (ez [f.l]) rfl<|cl rfl (ih (c:=c++[f.l]) (by subst hl;exact sk.split hfew hfo) (fun g hg=>by obtain⟨q,hq,hg⟩:=iQ.1 hg;exact(GS (hfo q hq) hfl.lb g hg).1) (by have:=Dm l f.l 1;rw[gT] at hlen;exact cN (bS _ this) (by rw[cK 3,cW];rw[cK (3^n)] at hlen;exact hlen)) (wm hc hfl.lb) (nn hok hfl.ok) (by rw[aY,gS];omega)) rfl<|pI J J<|ap (c.map eL) J J (ez c) rfl<|cl rfl (xk (l:=f.l)) rfl<|rf J J<|kD ((c++[f.l.rev]).map eL) rfl (by rw[aL];rfl) (ez [f.l.rev]) rfl<|cl (fu:=⟨1⟩) rfl (ih (c:=c++[f.l.rev]) (by subst hl;exact sk.split hfew hfo) (fun g hg=>by obtain⟨q,hq,hg⟩:=iQ.1 hg;exact(GS (hfo q hq) hfl.lb g hg).1) (by have:=Dm l f.l (-1);rw[gT] at hlen;exact cN (bS _ this) (by rw[cK 3,cW];rw[cK (3^n)] at hlen;exact hlen)) (wm hc hfl.lb.rev) (nn hok hfl.ok.rev) (by rw[aY,gS];omega)) rfl<|L2 J J<|rz rfl (by subst hl;rfl)
def Ko{rs:List (List ZP)}{fill:Int}(hrs: ∀r∈rs,ew r)(hrn:rs.length<=100): ∀{n:Nat} {l:List bA} {c:List aa},sk n l->(∀f∈l,pj f)->l.length*3^n<=6973568802->(∀m∈c,LB m)->(∀m∈c,m.ok)->c.length+n<=900->PF GB prog 160 [vE rs fill, .sl (l.map fk), .sl (c.map eL)] (eT (jo (nf rs fill) n l c))
 |n,[],c,_,_,_,hc,hok,hn=>atf hrs hrn hc hok (by omega)
 |0,f::t,c,hf,_,_,_,_,_=>by
  obtain⟨K,h1,h2⟩:=hf;obtain⟨m,hm,_⟩:=h2 f aQ;rw[cV (l:=K) (by omega)] at hm
  cases hm
 |n+1,f::t,c,hf,ho,hl,hc,hok,hn=>Y7 hrs hrn hf ho hl hc hok hn (fun a1 a2 a3 a4 a5 a6=>Ko hrs hrn a1 a2 a3 a4 a5 a6)
def aza(l:List bA):sk l.length l:=⟨l.map bA.l,by rw[aX];exact bW _,fun f hf=>⟨f.l,dT hf, .inl J⟩⟩
def X0(h:n<=18):n*3^n<=6973568802:=cN (gL h (bY (by decide) h)) (by decide)
def Yy(hrs: ∀r∈rs,ew r)(hrn:rs.length<=3):PF GB prog 86 [vE rs fill] (eT (ie rs fill)):=by
 have hm:=eh jA rs;have hE:=xl hrs;have hraw:=Fl (acc:=nf rs fill) hE.2 J;refine fn (fu:=⟨17⟩) func86 J J ntmps86 J J (fun C=>?_);refine aj 8 (.d (vI (rs.length:Nat))) J (by rw[hm]<;>rfl)<|gx J<|nr 3 3 274 14 J J J<|lp (X:=Nat) (fun k=>[(9, .d (vI (k:Nat))),(3, .rw 3)]) (fun k=>[(3,some (.b 274 14 ((iz (rs.take k)).map fk) true))]) (fun k=>k<=rs.length) (fun k=>rs.length-k) 0 J (aM _) (fun _=>J) (fun k hk=>?_);have het:((iz (rs.take k)).map fk).length<=6*k:=by rw[aX];exact Ow hrs k
 refine br J J J (fun hc10=>?_) (fun hc10=>?_)
 .
  obtain⟨r,hz⟩: ∃s,rs[k]? =some s:=⟨_,aZ (by omega)⟩;have hr:=hrs r (aK hz);have hel:((jH r).map fk).length<=6:=by rw[aX];have:=(Be hr).1;have:=hr.n6;omega
  refine ix _ J (cg hz) J<|cl J (Oa (r:=r) hr) J<|ap (hbd:=by omega) ((iz (rs.take (k+1))).map fk) J (by rw[Py hz,aL]) (yx _) J<|d6 16 3 J<|at_ (k+1) ⟨(by omega),(by omega)⟩
 .
  obtain rfl:k=rs.length:=by omega
  rw[cS];refine fz 3 J J<|cl J (Ko (n:=(iz rs).length) (l:=iz rs) (c:=[]) hrs (by omega) (aza _) hE.2 (X0 (by have:=hE.1;omega)) (fun m h=>by cases h) (fun m h=>by cases h) (by have:=hE.1;rw[eY];omega)) J<|cl J (TP (t:=tD rs fill) hraw.gd.lb hraw.gd.ok (by have:=hraw.dp;have:=hE.1;show(jo _ _ _ _).depth<=900;omega)) J<|rz J J

def Vb(l:aa)(p q:DV):List DV:=[.v (.bool false), .v (.bool false), .v (.bool (decide (l.a<0))),dN l.a.natAbs, .v (.bool (decide (l.b<0))),dN l.b.natAbs, .v (.bool (decide (l.c<0))),dN l.c.natAbs,p,q]
def aIz{l1:List DV}(h:Is G (.ag [.v (.bool b1), .sl l1, .v (.bool b2), .sl l2, .v (.bool b3), .sl l3]) v): ∃x1 x2 x3:SV,v= .agg ⟨[.bool b1, .slice x1.a x1.n x1.c, .bool b2, .slice x2.a x2.n x2.c, .bool b3, .slice x3.a x3.n x3.c]⟩:=by
 obtain⟨m,rfl,g⟩:=en.1 h;clear h;obtain⟨v1,m,rfl,h1,h⟩:=bi.1 g;obtain⟨v2,m,rfl,h2,h⟩:=bi.1 h;obtain⟨v3,m,rfl,h3,h⟩:=bi.1 h;obtain⟨v4,m,rfl,h4,h⟩:=bi.1 h;obtain⟨v5,m,rfl,h5,h⟩:=bi.1 h;obtain⟨v6,m,rfl,h6,h⟩:=bi.1 h;rw[ef] at h;subst h;obtain⟨_,x1,_,rfl,_,_⟩:=gv.1 h2;obtain⟨_,x2,_,rfl,_,_⟩:=gv.1 h4;obtain⟨_,x3,_,rfl,_,_⟩:=gv.1 h6;rw[aH.1 h1,aH.1 h3,aH.1 h5];exact⟨x1,x2,x3,J⟩
def MU:IsLs G (cT (.leaf b)) [.bool true, .bool b, .bool false, .slice none 0 0, .bool false, .slice none 0 0, .bool false, .slice none 0 0, .pointer none, .pointer none]:=by
 have hs:Is G (.sl []) (.slice none 0 0):=gv.2 ⟨0,⟨none,0,0⟩,[],J, .nil G 0, .nil⟩;exact .cons (aH.2 J) (.cons (aH.2 J) (.cons (aH.2 J) (.cons hs (.cons (aH.2 J) (.cons hs (.cons (aH.2 J) (.cons hs (.cons (aH.2 J) (.cons (aH.2 J) .nil)))))))))
def Xa{acs:List Value}{o:Nat}{a b c d e f l r:Value}(h:cx acs o 8=some [a,b,c,d,e,f,l,r]):cx acs (o+0) 6=some [a,b,c,d,e,f]/\acs[o+6]? =some l/\acs[o+7]? =some r:=by
 obtain⟨_,hg⟩:=qf _ _ _ _ h;have h7:=hg 7 (by decide);have hlen:=(aR.1 h7).1;refine⟨?_,hg 6 (by decide),h7⟩;rw[kH _ _ _ (by omega)];congr 1;apply lS;intro i;rw[oM];split
 .rename_i hi
  rw[mK];have:=hg i (by omega);rw[gJ,this]
  match i,hi with
  |0,_=>rfl
  |1,_=>rfl
  |2,_=>rfl
  |3,_=>rfl
  |4,_=>rfl
  |5,_=>rfl
 .rename_i hi
  rw[eK (by simp only[bZ,eY];omega)]
def Tg{p q:DV}{a b c d e f:Value}(h:Is G (eL l) (.agg ⟨[a,b,c,d,e,f]⟩))(hp:Is G p v)(hq:Is G q w):IsLs G (Vb l p q) [.bool false, .bool false,a,b,c,d,e,f,v,w]:=by
 obtain⟨m,e',g⟩:=en.1 h
 cases e'
 obtain⟨h1,g⟩:=g.uncons;obtain⟨h2,g⟩:=g.uncons;obtain⟨h3,g⟩:=g.uncons;obtain⟨h4,g⟩:=g.uncons;obtain⟨h5,g⟩:=g.uncons;obtain⟨h6,g⟩:=g.uncons;exact .cons (aH.2 J) (.cons (aH.2 J) (.cons h1 (.cons h2 (.cons h3 (.cons h4 (.cons h5 (.cons h6 (.cons hp (.cons hq .nil)))))))))
def RN.of(n:NQ):RN:=⟨⟨decide (n.l.a<0),dg n.l.a.natAbs,decide (n.l.b<0),dg n.l.b.natAbs,decide (n.l.c<0),dg n.l.c.natAbs⟩,n.a,n.b⟩
def Xy(a:Int):pA (decide (a<0)) (dg a.natAbs)=a:=by
 unfold pA;rw[(fI _).1];split
 .rename_i h;have:=of_decide_eq_true h;omega
 .rename_i h;have: ¬a<0:=fun e=>h (decide_eq_true e);omega
def HW(a:Int):ta (decide (a<0)) (dg a.natAbs):=⟨(fI _).2.2,fun h=>ux.2 (by have:=of_decide_eq_true h;omega)⟩
def RN.of_l(n:NQ):(RN.of n).g.l=n.l:=by
 unfold RN.of RL.l;simp only[Xy]
def RN.of_sm{n:NQ}(h:LB n.l):(RN.of n).g.sm:=by
 have key: ∀a:Int,a.natAbs<2^96->bD (dg a.natAbs)/\(dg a.natAbs).length<=3:=fun a ha=>⟨(fI _).2.1,by have:=jC ha;omega⟩;exact⟨key _ h.bl.a,key _ h.bl.b,key _ h.bl.c⟩
def Tr.all_imp{p q:aa->Prop}(h: ∀l,p l->q l): ∀{t:Tr},t.all p->t.all q
 | .leaf _,_=>trivial
 | .node _ _ _,⟨h0,h1,h2⟩=>⟨h _ h0,Tr.all_imp h h1,Tr.all_imp h h2⟩
def mf.red_size(h:mf k t)(hr:t.Red []):t.size<=k*(1+k):=by
 obtain⟨K,h1,h2,h3⟩:=h.am;exact cN (Tr.size_le h2 hr h.gd.ok bC.nil h3) (gL h1 (by omega))
structure kg (k:Nat) (t:Tr):Prop where
 o:mf k t
 s:t.size<=3000
def kg.gd{k:Nat}{t:Tr}(h:kg k t):t.gd:=h.o.gd
def kg.lb{k:Nat}{t:Tr}(h:kg k t):t.all LB:=h.o.gd.lb
def kg.ok{k:Nat}{t:Tr}(h:kg k t):t.all aa.ok:=h.o.gd.ok
def kg.bl{k:Nat}{t:Tr}(h:kg k t):t.all (fun l=>BL l 96):=Tr.all_imp (fun _ h=>h.bl) h.o.gd.lb
def mf.x(h:mf k t)(hr:t.Red [])(hk:k<=54):kg k t:=
 ⟨h,cN (h.red_size hr) (cN (gL hk (show 1+k<=55 by omega)) (by decide))⟩
def Ck(rs:List (List ZP))(fill:Int):(ie rs fill).Red []:=Tr.restrict_red _ _
end Go.Sx
end
