import Derived.Test.YtbllnkhngjedjaaGreatDoorPt17
set_option linter.all false
set_option maxHeartbeats 4000000
set_option maxRecDepth 100000
section
namespace Go.Sx
open Go Go.Proofs Tryz
variable {GB:Gh}
def aI3(a b:Bool):eV ⟨0,0,a,b⟩= .ag [.v (.bool false), .sl [], .sl [], .v (.bool false), .sl [], .sl [], .v (.bool a), .v (.bool b)]:=by
 unfold eV dD;simp only[show(0:Rat).num=0 from J,show(0:Rat).den=1 from J,lQ,p6];rfl
def SY(t:Rat)(a b:Bool):eV ⟨t,0,a,b⟩= .ag [.v (.bool (decide (t.num<0))),dN t.num.natAbs,dD t.den, .v (.bool false), .sl [], .sl [], .v (.bool a), .v (.bool b)]:=by
 unfold eV dD;simp only[show(0:Rat).num=0 from J,show(0:Rat).den=1 from J,lQ,p6];rfl
def TY(t:Rat)(a b:Bool):eV ⟨0,t,a,b⟩= .ag [.v (.bool false), .sl [], .sl [], .v (.bool (decide (t.num<0))),dN t.num.natAbs,dD t.den, .v (.bool a), .v (.bool b)]:=by
 unfold eV dD;simp only[show(0:Rat).num=0 from J,show(0:Rat).den=1 from J,lQ,p6];rfl
def aC2{cuts:List Rat}{i:Nat}(h:i=0)(k: ¬i<cuts.length):dx cuts i=⟨0,0,decide (i=0),decide (i=cuts.length)⟩:=by unfold dx;rw[if_pos h,if_neg k]
def aBY{cuts:List Rat}{i:Nat}{y:Rat}(h:i=0)(k:cuts[i]? =some y):dx cuts i=⟨0,y,decide (i=0),decide (i=cuts.length)⟩:=by
 unfold dx;rw[if_pos h,if_pos (aY.1 k).1,aX,k];rfl
def aCM{cuts:List Rat}{i:Nat}{x:Rat}(h: ¬i=0)(k:cuts[i-1]? =some x)(k2: ¬i<cuts.length):dx cuts i=⟨x,0,decide (i=0),decide (i=cuts.length)⟩:=by
 unfold dx;rw[if_neg h,if_neg k2,aX,k];rfl
def Vj{cuts:List Rat}{i:Nat}{x y:Rat}(h: ¬i=0)(k:cuts[i-1]? =some x)(k2:cuts[i]? =some y):dx cuts i=⟨x,y,decide (i=0),decide (i=cuts.length)⟩:=by
 unfold dx;rw[if_neg h,if_pos (aY.1 k2).1,aX,k,aX,k2];rfl
def Zw{cuts:List Rat}{marks:List Bool}{k:Nat}(h:marks[k]? =some false):fH cuts marks (k+1)=fH cuts marks k:=by
 rw[fH,aX,h];rfl
def C8{cuts:List Rat}{marks:List Bool}{k:Nat}(h:marks[k]? =some true)(hp: ¬(0<k/\marks[k-1]? =some true)):fH cuts marks (k+1)=fH cuts marks k++[dx cuts k]:=by
 rw[fH,aX,h];show(if 0<k/\_ then _ else _)=_;rw[if_neg];rintro ⟨h1,h2⟩;rw[aX] at h2
 cases e:marks[k-1]? with
 |none=>rw[e] at h2;cases h2
 |some b=>rw[e] at h2;exact hp ⟨h1,by rw[e];simp at h2;rw[h2]⟩
def NS{cuts:List Rat}{marks:List Bool}{k:Nat}(h:marks[k]? =some true):fH cuts marks (k+1)≠[]:=by
 rw[fH,aX,h];show(if 0<k/\_ then _ else _)≠[];split
 .split<;>simp
 .simp
def P6{cuts:List Rat}{marks:List Bool}{k:Nat}{xs:List aj}{v:aj}(hk:0<k)(h:marks[k]? =some true)(hp:marks[k-1]? =some true)(hx:fH cuts marks k=xs)(hv:xs[xs.length-1]? =some v):fH cuts marks (k+1)=xs.set (xs.length-1) (va v (dx cuts k)):=by
 rw[fH,aX,h];show(if 0<k/\_ then _ else _)=_;rw[if_pos ⟨hk,by rw[aX,hp];rfl⟩,hx,mQ,hv];have hn:0<xs.length:=by
  have:=(aY.1 hv).1;omega
 show xs.dropLast++[_]=_;apply kU;intro i;rw[mR];by_cases hi:i<xs.length-1
 .rw[cN (by rw[iJ];exact hi),rM,if_pos hi,if_neg (by omega)]
 .by_cases hi2:i=xs.length-1
  .subst hi2
   rw[gQ (by rw[iJ];exact aM _),iJ,Nat.sub_self,if_pos J,if_pos (by omega)];rfl
  .rw[dX (by rw[aW,iJ];simp;omega),if_neg (by omega),dX (by omega)]
def yw{α:Type}{f:α->DV}{l:List α}{k:Nat}{x:α}(hk:0<k)(h:l[k-1]? =some x):(l.map f)[(((k:Nat):Int)-1).toNat]? =some (f x):=by
 rw[show(((k:Nat):Int)-1).toNat=k-1 by omega,cK,h];rfl
def rB{k n:Nat}:decide (k=n)=decide (((k:Nat):Int)=((n:Nat):Int)):=decide_eq_decide.2 (by omega)
def aKn(v w:aj):aj:=⟨v.lo,w.hi,v.nl,v.nh⟩
def Wc{cuts:List Rat}{marks:List Bool}(hn:cuts.length<=100000)(hmk:marks.length<=cuts.length+1):PF GB prog 250 [.sl (cuts.map eQ), .sl (marks.map vB)] (.sl ((vl cuts marks).map eV)):=by
 have hm:=gy vB marks;have hmc:=gy eQ cuts;refine fn (fu:=⟨15⟩) func250 J J ntmps250 J J (fun C=>?_);refine ak 11 (.d (vI (marks.length:Nat))) J (by rw[hm]<;>rfl) ?_;refine gx J<|?_;refine nr 5 5 178 8 J J J ?_;refine lp (X:=List aj×Nat) (fun⟨xs,k⟩=>[(12, .d (vI (k:Nat))),(5, .rw 5)]) (fun⟨xs,k⟩=>[(5,some (.b 178 8 (xs.map eV) true))]) (fun⟨xs,k⟩=>xs=fH cuts marks k/\k<=marks.length) (fun⟨xs,k⟩=>marks.length-k) ([],0) J ⟨J,aN _⟩ (fun _=>J) (fun⟨xs,k⟩ hk=>?_);dsimp only at hk⊢;obtain⟨h1,h2⟩:=hk;have hml:=gy eV xs;have hxl:xs.length<=k:=by rw[h1];exact FF
 refine br J J J (fun hc13=>?_) (fun hc13=>?_)
 .
  obtain⟨b,hz⟩: ∃s,marks[k]? =some s:=⟨_,aQ (by omega)⟩;refine ix (fu:=⟨8⟩) _ J (cA hz) J<|?_
  cases b
  .
   refine ck (fu:=⟨12⟩) J J J<|?_;exact at_ (xs,k+1) (by dsimp only;exact⟨⟨by rw[Zw hz,<-h1],by omega⟩,(by omega)⟩)
  .
   refine cB (fu:=⟨13⟩) J J J<|?_;rcases(show(k=0/\k<cuts.length)\/(k=0/\ ¬k<cuts.length)\/(0<k/\k<cuts.length)\/(0<k/\ ¬k<cuts.length) by omega) with⟨c1,c2⟩|⟨c1,c2⟩|⟨c1,c2⟩|⟨c1,c2⟩
   .
    obtain⟨y,hy⟩: ∃s,cuts[k]? =some s:=⟨_,aQ (by omega)⟩;have hgap:=aBY (cuts:=cuts) (i:=k) c1 hy;have hnp: ¬(0<k/\marks[k-1]? =some true):=fun e=>by omega
    refine ak 23 (.d (vI (cuts.length:Nat))) J (by rw[hmc]<;>rfl) ?_;refine gx (fu:=⟨10⟩) J<|ck (fu:=⟨11⟩) J (by show some (decide _)=some false;rw[decide_eq_false (by omega)]) J<|?_;refine ak 36 (.d (vI (cuts.length:Nat))) J (by rw[hmc]<;>rfl) ?_;refine gx (fu:=⟨0⟩) J<|cB J (by show some (decide _)=some true;rw[decide_eq_true (by omega)]) J<|ix (fu:=⟨10⟩) _ J (cA hy) J<|?_;refine ak 44 (.d (vI (xs.length:Nat))) J (by rw[hml]<;>rfl) ?_;refine gx (fu:=⟨6⟩) J<|ck (fu:=⟨19⟩) J (by show some (decide _)=some false;rw[decide_eq_false (by omega)]) J<|?_;refine ak 73 (.d (eV (dx cuts k))) J (by rw[hgap,TY,rB (k:=k) (n:=0),rB (k:=k) (n:=cuts.length)]<;>rfl) ?_;refine gx J<|rf J J<|ap (fu:=⟨12⟩) ((xs++[dx cuts k]).map eV) J (by rw[bY];rfl) (yR [dx cuts k]) J<|?_;refine fE 75 5 J ?_;exact at_ (xs++[dx cuts k],k+1) (by dsimp only;exact⟨⟨by rw[C8 hz hnp,<-h1],by omega⟩,(by omega)⟩)
   .
    have hgap:=aC2 (cuts:=cuts) (i:=k) c1 c2;have hnp: ¬(0<k/\marks[k-1]? =some true):=fun e=>by omega
    refine ak 23 (.d (vI (cuts.length:Nat))) J (by rw[hmc]<;>rfl) ?_;refine gx (fu:=⟨10⟩) J<|ck (fu:=⟨11⟩) J (by show some (decide _)=some false;rw[decide_eq_false (by omega)]) J<|?_;refine ak 36 (.d (vI (cuts.length:Nat))) J (by rw[hmc]<;>rfl) ?_;refine gx (fu:=⟨0⟩) J<|ck (fu:=⟨10⟩) J (by show some (decide _)=some false;rw[decide_eq_false (by omega)]) J<|?_;refine ak 44 (.d (vI (xs.length:Nat))) J (by rw[hml]<;>rfl) ?_;refine gx (fu:=⟨6⟩) J<|ck (fu:=⟨19⟩) J (by show some (decide _)=some false;rw[decide_eq_false (by omega)]) J<|?_;refine ak 73 (.d (eV (dx cuts k))) J (by rw[hgap,aI3,rB (k:=k) (n:=0),rB (k:=k) (n:=cuts.length)]<;>rfl) ?_;refine gx J<|rf J J<|ap (fu:=⟨12⟩) ((xs++[dx cuts k]).map eV) J (by rw[bY];rfl) (yR [dx cuts k]) J<|?_;refine fE 75 5 J ?_;exact at_ (xs++[dx cuts k],k+1) (by dsimp only;exact⟨⟨by rw[C8 hz hnp,<-h1],by omega⟩,(by omega)⟩)
   .
    obtain⟨x,hx⟩: ∃s,cuts[k-1]? =some s:=⟨_,aQ (by omega)⟩;obtain⟨pb,hpb⟩: ∃s,marks[k-1]? =some s:=⟨_,aQ (by omega)⟩;obtain⟨y,hy⟩: ∃s,cuts[k]? =some s:=⟨_,aQ (by omega)⟩;have hgap:=Vj (cuts:=cuts) (i:=k) (by omega) hx hy;refine ak 23 (.d (vI (cuts.length:Nat))) J (by rw[hmc]<;>rfl) ?_;refine gx (fu:=⟨10⟩) J<|cB J (by show some (decide _)=some true;rw[decide_eq_true (by omega)]) J<|ix (fu:=⟨11⟩) _ J (yw (by omega) hx) J<|?_;refine ak 36 (.d (vI (cuts.length:Nat))) J (by rw[hmc]<;>rfl) ?_;refine gx (fu:=⟨0⟩) J<|cB J (by show some (decide _)=some true;rw[decide_eq_true (by omega)]) J<|ix (fu:=⟨10⟩) _ J (cA hy) J<|?_;refine ak 44 (.d (vI (xs.length:Nat))) J (by rw[hml]<;>rfl) ?_;refine gx (fu:=⟨6⟩) J<|cB J (by show some (decide _)=some true;rw[decide_eq_true (by omega)]) J<|ix _ J (yw (by omega) hpb) J<|?_;refine ji (fu1:=⟨1⟩) (fu2:=⟨11⟩) 54 J J J (fun hg54=>?_) (fun hg54=>?_)
    .
     have hpb':marks[k-1]? =some true:=by rw[hpb];congr 1
     have hxn:0<xs.length:=by rw[h1];have:=NS (cuts:=cuts) hpb';rw[show k-1+1=k by omega] at this;exact nQ.2 this
     obtain⟨w,hw⟩: ∃s,xs[xs.length-1]? =some s:=⟨_,aQ (by omega)⟩;refine cB J (by show some (decide _)=some true;rw[decide_eq_true (by omega)]) J<|sb (eV w) ((xs.set (xs.length-1) (⟨w.lo,y,w.nl,w.nh⟩:aj)).map eV) J (yw hxn hw) J (by rw[show(((xs.length:Nat):Int)-1).toNat=xs.length-1 by omega,kM];rfl) J<|?_;refine sb (hv:=by simp only[ah];exact⟨by kernel_rfl,by omega⟩) (eV (⟨w.lo,y,w.nl,w.nh⟩:aj)) ((xs.set (xs.length-1) (va w (dx cuts k))).map eV) J (by rw[show(((xs.length:Nat):Int)-1).toNat=xs.length-1 by omega,kM,nX (by rw[hml];omega)]) J (by rw[show(((xs.length:Nat):Int)-1).toNat=xs.length-1 by omega,kM,List.set_set,kM,hgap];unfold va;dsimp only;rw[rB (k:=k) (n:=cuts.length)]<;>rfl) J<|?_;exact at_ (xs.set (xs.length-1) (va w (dx cuts k)),k+1) (by dsimp only;exact⟨⟨(P6 (by omega) hz hpb' h1.symm hw).symm,by omega⟩,(by omega)⟩)
    .
     have hnp: ¬(0<k/\marks[k-1]? =some true):=fun e=>by rw[hpb,hg54] at e;simpa using e.2
     refine ak 73 (.d (eV (dx cuts k))) J (by rw[hgap];unfold eV;dsimp only;rw[rB (k:=k) (n:=0),rB (k:=k) (n:=cuts.length)]<;>rfl) ?_;refine gx J<|rf J J<|ap (fu:=⟨12⟩) ((xs++[dx cuts k]).map eV) J (by rw[bY];rfl) (yR [dx cuts k]) J<|?_;refine fE 75 5 J ?_;exact at_ (xs++[dx cuts k],k+1) (by dsimp only;exact⟨⟨by rw[C8 hz hnp,<-h1],by omega⟩,(by omega)⟩)
   .
    obtain⟨x,hx⟩: ∃s,cuts[k-1]? =some s:=⟨_,aQ (by omega)⟩;obtain⟨pb,hpb⟩: ∃s,marks[k-1]? =some s:=⟨_,aQ (by omega)⟩;have hgap:=aCM (cuts:=cuts) (i:=k) (by omega) hx c2;refine ak 23 (.d (vI (cuts.length:Nat))) J (by rw[hmc]<;>rfl) ?_;refine gx (fu:=⟨10⟩) J<|cB J (by show some (decide _)=some true;rw[decide_eq_true (by omega)]) J<|ix (fu:=⟨11⟩) _ J (yw (by omega) hx) J<|?_;refine ak 36 (.d (vI (cuts.length:Nat))) J (by rw[hmc]<;>rfl) ?_;refine gx (fu:=⟨0⟩) J<|ck (fu:=⟨10⟩) J (by show some (decide _)=some false;rw[decide_eq_false (by omega)]) J<|?_;refine ak 44 (.d (vI (xs.length:Nat))) J (by rw[hml]<;>rfl) ?_;refine gx (fu:=⟨6⟩) J<|cB J (by show some (decide _)=some true;rw[decide_eq_true (by omega)]) J<|ix _ J (yw (by omega) hpb) J<|?_;refine ji (fu1:=⟨1⟩) (fu2:=⟨11⟩) 54 J J J (fun hg54=>?_) (fun hg54=>?_)
    .
     have hpb':marks[k-1]? =some true:=by rw[hpb];congr 1
     have hxn:0<xs.length:=by rw[h1];have:=NS (cuts:=cuts) hpb';rw[show k-1+1=k by omega] at this;exact nQ.2 this
     obtain⟨w,hw⟩: ∃s,xs[xs.length-1]? =some s:=⟨_,aQ (by omega)⟩;refine cB J (by show some (decide _)=some true;rw[decide_eq_true (by omega)]) J<|sb (eV w) ((xs.set (xs.length-1) (⟨w.lo,0,w.nl,w.nh⟩:aj)).map eV) J (yw hxn hw) J (by rw[show(((xs.length:Nat):Int)-1).toNat=xs.length-1 by omega,kM,SY];rfl) J<|?_;refine sb (hv:=by simp only[ah];exact⟨by kernel_rfl,by omega⟩) (eV (⟨w.lo,0,w.nl,w.nh⟩:aj)) ((xs.set (xs.length-1) (va w (dx cuts k))).map eV) J (by rw[show(((xs.length:Nat):Int)-1).toNat=xs.length-1 by omega,kM,nX (by rw[hml];omega)]) J (by rw[show(((xs.length:Nat):Int)-1).toNat=xs.length-1 by omega,kM,List.set_set,kM,hgap];unfold va;dsimp only;rw[rB (k:=k) (n:=cuts.length)]<;>rfl) J<|?_;exact at_ (xs.set (xs.length-1) (va w (dx cuts k)),k+1) (by dsimp only;exact⟨⟨(P6 (by omega) hz hpb' h1.symm hw).symm,by omega⟩,(by omega)⟩)
    .
     have hnp: ¬(0<k/\marks[k-1]? =some true):=fun e=>by rw[hpb,hg54] at e;simpa using e.2
     refine ak 73 (.d (eV (dx cuts k))) J (by rw[hgap,SY,rB (k:=k) (n:=0),rB (k:=k) (n:=cuts.length)]<;>rfl) ?_;refine gx J<|rf J J<|ap ((xs++[dx cuts k]).map eV) J (by rw[bY];rfl) (yR [dx cuts k]) J<|?_;refine fE 75 5 J ?_;exact at_ (xs++[dx cuts k],k+1) (by dsimp only;exact⟨⟨by rw[C8 hz hnp,<-h1],by omega⟩,(by omega)⟩)
 .
  have hfin:vl cuts marks=xs:=by rw[h1,vl,show k=marks.length by omega]
  refine gI 5 J ?_;exact rz J (by rw[hfin];rfl)
def Pk{g:Rat}: ∀{l:List Rat},g∈i6 l-> ∃a∈l,∃b∈l,g=(a+b)/2
 |[],h=>by cases h
 |[_],h=>by cases h
 |a::b::t,h=>by
  rw[i6] at h;rcases aT.1 h with rfl|h
  .exact⟨a,aZ,b,aK _ aZ,J⟩
  .obtain⟨c,hc,d,hd,e⟩:=Pk h
   exact⟨c,aK _ hc,d,aK _ hd,e⟩
theorem aCD{l:List Rat}(h: ∀q∈l,BQ q 1200): ∀g∈e8 l,BQ g 2500:=fun g hg=>by
 cases l with
 |nil=>
  rw[e8,aU] at hg;subst hg;exact BQ.mono (k:=1) ⟨by decide,by decide⟩
 |cons a t=>
  rw[e8] at hg;rcases aT.1 hg with rfl|hg
  .haveI:=h a aZ
   exact BQ.mono (inferInstance:BQ (a-1) _) (by omega)
  .rcases bK.1 hg with hg|hg
   .obtain⟨c,hc,d,hd,rfl⟩:=Pk hg
    haveI:=h c hc;haveI:=h d hd;exact BQ.mono (inferInstance:BQ ((c+d)/2) _) (by omega)
   .rw[aU] at hg
    haveI:=h _ (List.getLast_mem (l:=a::t) (by simp));subst hg;exact BQ.mono (inferInstance:BQ ((a::t).getLast (by simp)+1) _) (by omega)
def Qt(l:List aj):qo l l.length=ig l:=by unfold qo;rw[dW]
theorem V7{l:List aj}(h: ∀v∈l,oo v): ∀y∈ig l,BQ y 1200:=by rw[<-Qt];exact Sa h
def J0(l:List aj):(ig l).length<=2*l.length:=by rw[<-Qt];exact Cw l _
def oo.app{a b:List aj}(ha: ∀v∈a,oo v)(hb: ∀v∈b,oo v): ∀v∈a++b,oo v:=fun v hv=>(bK.1 hv).elim (ha v) (hb v)
def Kr{a b:List aj}(ha: ∀v∈a,oo v)(hb: ∀v∈b,oo v)(hna:a.length<=100)(hnb:b.length<=100):PF GB prog 205 [vI 2, .sl (a.map eV), .sl (b.map eV)] (.sl ((o9 2 a b).map eV)):=by
 obtain⟨cuts,hcu⟩: ∃c,c=ig (a++b):=⟨_,rfl⟩;have hab:=oo.app ha hb;have hcb: ∀q∈cuts,BQ q 1200:=by rw[hcu];exact V7 hab
 have hcl:cuts.length<=2*(a.length+b.length):=by rw[hcu];have:=J0 (a++b);rw[aW] at this;exact this
 have hgb:=aCD hcb;have hgl:=yZ (l:=cuts);have hmp:=gy eQ (e8 cuts);refine fn func205 J J ntmps205 J J (fun C=>?_);refine r7 J J<|ap (a.map eV) J J (yR _) J<|mD ((a++b).map eV) J (by rw[bY]) (yR b) J<|cl (fu:=⟨0⟩) J (aFP (l:=a++b) hab (by rw[aW];omega)) J<|?_;refine ak 19 (.d (.sl (cuts.map eQ))) J (by rw[hcu]) ?_;refine gx J<|cl (fu:=⟨1⟩) J (ayx (cuts:=cuts) hcb (by omega)) J<|?_;refine ak 22 (.d (vI ((cuts.length+1:Nat):Int))) J (by rw[hmp,hgl]<;>rfl) ?_;refine gx J<|?_;refine nr 8 8 4 1 J J J ?_;refine lp (X:=Nat) (fun k=>[(23, .d (vI (k:Nat))),(8, .rw 8)]) (fun k=>[(8,some (.b 4 1 ((((e8 cuts).map (fun t=>nP 2 (fD a t) (fD b t))).take k).map vB) true))]) (fun k=>k<=cuts.length+1) (fun k=>cuts.length+1-k) 0 J (aN _) (fun _=>J) (fun k hk=>?_);have hml:(((((e8 cuts).map (fun t=>nP 2 (fD a t) (fD b t))).take k).map vB)).length=k:=by rw[aJ,cJ,aJ,hgl];omega
 refine br (fu2:=⟨0⟩) J J J (fun hc24=>?_) (fun hc24=>?_)
 .
  obtain⟨t,hz⟩: ∃s,(e8 cuts)[k]? =some s:=⟨_,aQ (by omega)⟩;haveI:=hgb t (aV hz);have hz2:((e8 cuts).map (fun t=>nP 2 (fD a t) (fD b t)))[k]? =some (nP 2 (fD a t) (fD b t)):=by rw[cK,hz];rfl
  refine ix _ J (cA hz) J<|cl J (KH (l:=a) (t:=t) ha (by omega)) J<|cl (fu:=⟨6⟩) J (KH (l:=b) (t:=t) hb (by omega)) J<|?_
  cases hx:fD a t
  .
   refine ck (fu:=⟨15⟩) J J J<|cB (fu:=⟨5⟩) J J J<|ck J J J<|rf J J<|ap (fu:=⟨8⟩) ((((e8 cuts).map (fun t=>nP 2 (fD a t) (fD b t))).take (k+1)).map vB) J (by rw[<-ve hz2,hx];rfl) (Lz [false]) J<|?_;refine fE 59 8 J ?_;exact at_ (k+1) ⟨(by omega),(by omega)⟩
  .
   refine cB (fu:=⟨15⟩) J J J<|cB (fu:=⟨5⟩) J J J<|cB J J J<|rf J J<|ap ((((e8 cuts).map (fun t=>nP 2 (fD a t) (fD b t))).take (k+1)).map vB) J (by rw[<-ve hz2,hx];rfl) (Lz [_]) J<|?_;refine fE 59 8 J ?_;exact at_ (k+1) ⟨(by omega),(by omega)⟩
 .
  obtain rfl:k=cuts.length+1:=by omega
  have htk:((e8 cuts).map (fun t=>nP 2 (fD a t) (fD b t))).take (cuts.length+1)=(e8 cuts).map (fun t=>nP 2 (fD a t) (fD b t)):=aS (by rw[aJ,hgl];exact aM _);rw[htk];refine u' 8 J ?_;refine gx J<|cl J (Wc (cuts:=cuts) (marks:=(e8 cuts).map (fun t=>nP 2 (fD a t) (fD b t))) (by omega) (by rw[aJ,hgl];exact aM _)) J<|?_;exact rz J (by unfold o9;rw[<-hcu];rfl)
section
variable {GB:Gh} {C:aD} {n:Nat} {Q0:Exit->Act->World->Prop} {fr fr':aB} {own own':aF} {cf cf':Cf} {vc:List Prop}
def aG0{lk:LK}{bk:BM}{dst:Option Nat}{t ty':TypeId}{pos:String}{af:Array Edge}{gd:Option (Nat×Bool)}{x y:Operand}{e len s nm off:Nat}{k:IntKind}{i:Nat}(hu:prog.underlying t=some (.array len e))(hs:(prog.info? e).map (·.size)=some s)
  (e1:aH lk x=some (.ov nm off))(e2:aH lk y=some (.d (.v (.int k (i:Nat)))))(hi:i<len):bG prog GB C n lk bk ⟨dst, .indexAddr t x y,ty',pos,af,gd⟩ (.ov nm (off+i*s)) [] []:= .yd fun ρ G ov a w r=>by
 obtain⟨p,h1,h2⟩:=r.ev e1;obtain⟨q,h3,h4⟩:=r.ev e2;rw[de] at h4;subst h4;obtain⟨b,hb,rfl⟩:=h2;refine⟨_,⟨b,hb,J⟩,?_⟩;obtain⟨j,hj,hjs⟩: ∃j,prog.info? e=some j/\j.size=s:=by
  cases h:prog.info? e with
  |none=>rw[h] at hs;cases hs
  |some j=>rw[h] at hs;exact⟨j,J,by simpa using hs⟩
 intro a' w' hf hh;simp only[execOp,bh hf h1,bh hf h3];have:(Instr.indexAt t (.pointer (some ⟨b,off,none⟩)) (.int k (i:Nat))).run prog w'= .ok (.pointer (some ⟨b,off+i*s,none⟩)) w':=by
  unfold Instr.indexAt;show(underlying t>>=_).run prog w'=_;rw[aI (q6 hu w')];show(underlying t>>=_).run prog w'=_;rw[aI (q6 hu w')];have h0:0<=((i:Nat):Int):=Int.natCast_nonneg i;have h1:((i:Nat):Int)<((len:Nat):Int):=by omega
  simp only[h0,h1,and_self,if_true];show(sizeOf e>>=_).run prog w'=_;rw[aI (wv hj w'),pB,hjs,bV];rfl
 exact c7 this
def Qp(fr:aB)(cf:Cf):Option (TypeId×Nat×Nat×Int):=match cg fr cf with
 |some ⟨_, .indexAddr t x y,_,_,_,_⟩=>match aH (bz fr cf) x with
  |some (.ov nm off)=>match aH (bz fr cf) y with
   |some (.d (.v (.int _ i)))=>some (t,nm,off,i)
   |_=>none
  |_=>none
 |_=>none
def pG[fu:Fu](i:Nat){t nm off e len s:Nat}(h:Qp fr cf=some (t,nm,off,((i:Nat):Int)))(hu:prog.underlying t=some (.array len e))(hs:(prog.info? e).map (·.size)=some s)(hi:i<len)
  (hgo:dh tt n fu.n fr own cf (.ov nm (off+i*s)) [] []=⟨vc,fr',own',cf'⟩)(k:ao prog GB C n Q0 fr' own' cf')
  (hv:autoParam (ah vc) cL._auto_1):ao prog GB C n Q0 fr own cf:=by
 unfold Qp at h;split at h<;>try (cases h;done)
 rename_i hh;split at h<;>try (cases h;done)
 rename_i hx;split at h<;>cases h;rename_i hy;exact us hh (aG0 hu hs hx hy hi) hgo hv k
def WF{lk:LK}{bk:BM}{d s:Nat}{e t ty':TypeId}{pos:String}{af:Array Edge}{gd:Option (Nat×Bool)}{ps:List (Nat×Operand)}{fo:List (Nat×Nat×Nat)}{i:TI}{z zx:List FX}{k:Nat}{pre post:List DV}(hi:fg prog t=some i)(hk:i.k= .st fo)(hz:i.z=some z)
  (hb:tn lk fo z ps=some zx)(h0:zx[k]? =some .nl)(h1:jo (zx.take k)=some pre)(h2:jo (zx.drop (k+1))=some post):bG prog GB C n lk bk ⟨some d, .build t ⟨ps⟩,ty',pos,af,gd⟩ (.bx false pre d post) [(d,some (.b e s [] true))] [d]:=by
 intro hd tl tb K' s1 s2 hf hk';refine⟨fun ρ G ov a w r Q=>?_⟩;obtain⟨v,hv,hv'⟩:=ze hi hz;have:=M4 hi hk;have hsp:zx=zx.take k++ .nl::zx.drop (k+1):=by
  obtain⟨hk1,hk2⟩:=aY.1 h0
  conv=>lhs;rw[<-kZ k zx,bX hk1,hk2]
 obtain⟨l,h1',h2'⟩:=Er (r.mono s1 s2) (fo:=fo) ps _ _ _ hb (hv' ρ G);rw[hsp] at h2';obtain⟨m1,m2',rfl,k1,y,m2,rfl,k2,k3⟩:=PL h2'
 cases (show y= .slice none 0 0 from k2)
 have hy:Yd prog C (cE a) ov G ⟨some d, .build t ⟨ps⟩,ty',pos,af,gd⟩ (.agg ⟨m1++Value.slice none 0 0::m2⟩):=HK h1';have r3:=r.new' (x:=⟨none,0,0⟩) (B':= .b e s [] true) (os:=[]) (ov':=ov) (f:= .bx false pre d post) (y:= .agg ⟨m1++Value.slice none 0 0::m2⟩) hf (bp.refl G) r.h
  ⟨[],by simp only[if_true];exact .inl ⟨J,J,J⟩, .nil,by simp,fun _ o ho=>by cases ho⟩ (fun o ho=>by cases ho) (fun m B _ _ o ho _=>⟨ho,by simp⟩)
  ⟨m1,m2,by simp,ry k1 h1,ry k3 h2⟩ (r.putA _ hd)
 exact kz (hy a w (c8 a) r.h) (hk'.run _ G ov _ w r3)
def RA(fr:aB)(cf:Cf):Option (Nat×List FX):=match cg fr cf with
 |some ⟨some d, .build t ⟨ps⟩,_,_,_,_⟩=>match dq tt t with
  |some ⟨.st fo,_,some zx,_⟩=>match tn (bz fr cf) fo zx ps with
   |some l=>some (d,l)
   |none=>none
  |_=>none
 |_=>none
def bzp[fu:Fu]{d:Nat}{zx:List FX}(e s kk:Nat)(pre post:List DV)(h:RA fr cf=some (d,zx))(h0:zx[kk]? =some .nl)(h1:jo (zx.take kk)=some pre)(h2:jo (zx.drop (kk+1))=some post)(hgo:dh tt n fu.n fr own cf (.bx false pre d post) [(d,some (.b e s [] true))] [d]=⟨vc,fr',own',cf'⟩)(k:ao prog GB C n Q0 fr' own' cf')
  (hv:autoParam (ah vc) cL._auto_1):ao prog GB C n Q0 fr own cf:=by
 unfold RA at h;split at h<;>try (cases h;done)
 rename_i hh;split at h<;>try (cases h;done)
 rename_i hT;split at h<;>cases h;rename_i hb;exact us hh (WF (eh _ _ hT) J J hb h0 h1 h2) hgo hv k
end
def X0(f:aP)(m:ab)(k:Nat):List aP:=if k=0 then [] else eE f m 1
def YU(f:aP)(m:ab)(k:Nat):List aP:=if k<=1 then [] else eE f m (-1)
def Nq{l m:ab}(hl:LB l)(hm:LB m)(hlo:l.ok){side:Int}: ∀v∈jb l m side,oo v:=fun v hv=>⟨(GU hl hm hlo v hv).2.1,(GU hl hm hlo v hv).2.2⟩
def AZ{l m:ab}{side:Int}:(jb l m side).length<=1:=by
 unfold jb;split
 .split<;>simp
 .split<;>simp
def R8(op:Int)(a b:List aj):(o9 op a b).length<=2*(a.length+b.length)+1:=by
 unfold o9 vl;refine cY FF ?_;rw[aJ,yZ];have:=J0 (a++b);rw[aW] at this;omega
def ZW{f:aP}{m:ab}(h:nk f)[hm:LB m](hmo:m.ok):PF GB prog 154 [fy f,eL m] (.tp [.sl ((eE f m 1).map fy), .sl ((eE f m (-1)).map fy)]):=by
 haveI:=h.lb;refine fn func154 J J ntmps154 J J (fun C=>?_);refine rf (fu:=⟨1⟩) J J<|?_;refine ak 14 (.d (vI (2:Nat))) J J ?_;refine gx J<|?_;refine SE 6 0 60 180 14 J J J J J ?_;refine SE 6 1 61 180 14 J J J J J ?_;refine lp (X:=Nat) (fun k=>[(15, .d (vI (k:Nat))),(6, .ov 6 0)]) (fun k=>[(6,some (.o 300 [.rw 60, .rw 61] true)),(60,some (.b 180 14 ((X0 f m k).map fy) true)),(61,some (.b 180 14 ((YU f m k).map fy) true))]) (fun k=>k<=2) (fun k=>2-k) 0 J (by omega) (fun _=>J) (fun k hk=>?_);refine br J J J (fun hc16=>?_) (fun hc16=>?_)
 .
  rcases(show k=0\/k=1 by omega) with rfl|rfl
  .
   refine ix _ J J J<|cl (fu:=⟨0⟩) J (KI (l:=f.l) (m:=m) (side:=1) h.ok hmo (.inl J)) J<|?_;obtain⟨cs,hcs⟩: ∃c,c=o9 2 [f.v] (jb f.l m 1):=⟨_,rfl⟩;have hcl:cs.length<=5:=by rw[hcs];have h1:=R8 2 [f.v] (jb f.l m 1);have h2:=AZ (l:=f.l) (m:=m) (side:=1);simp only[gU] at h1;omega
   refine ak 25 (.d (.tp [.sl ((jb f.l m 1).map eV),vB (lP f.l m)])) J J ?_;refine gx J<|?_;refine bb J J J (fun hc28=>?_) (fun hc28=>?_)
   .
    have hon:lP f.l m=true:=hc28;exact rz J (by first|(unfold eE;rw[if_pos hon,if_pos hon];rfl)|rfl)
   .
    have hon:lP f.l m=false:=by simpa using hc28
    refine rf J J<|cl (fu:=⟨0⟩) J (Kr (a:=[f.v]) (b:=jb f.l m 1) (fun v hv=>by rw[aU] at hv;subst hv;exact⟨h.lo,h.hi⟩) (Nq h.lb hm h.ok) (by show 1<=100;decide) (by have:=AZ (l:=f.l) (m:=m) (side:=1);omega)) J<|?_;refine ak 33 (.d (.sl (cs.map eV))) J (by rw[hcs]) ?_;refine gx (fu:=⟨1⟩) J<|?_;refine ak 34 (.d (vI (cs.length:Nat))) J (by rw[gy eV cs]<;>rfl) ?_;refine gx J<|?_;refine lp (X:=Nat) (fun j=>[(35, .d (vI (j:Nat)))]) (fun j=>[(60,some (.b 180 14 (((cs.take j).map fun v=>(⟨f.l,v⟩:aP)).map fy) true))]) (fun j=>j<=cs.length) (fun j=>cs.length-j) 0 J (aN _) (fun _=>J) (fun j hk=>?_);have hml:(((cs.take j).map fun v=>(⟨f.l,v⟩:aP)).map fy).length<=j:=by rw[aJ,aJ,cJ];omega
    refine br J J J (fun hc36=>?_) (fun hc36=>?_)
    .
     obtain⟨z,hz⟩: ∃s,cs[j]? =some s:=⟨_,aQ (by omega)⟩;refine ix _ J (cA hz) J<|pG 0 (e:=173) (len:=2) (s:=1) J (by kernel_rfl) (by kernel_rfl) (by decide) J<|rf J J<|?_;refine ap (((cs.take (j+1)).map fun v=>(⟨f.l,v⟩:aP)).map fy) J (by rw[<-ve hz,bY];rfl) (yO [⟨f.l,z⟩]) J<|pG (hv:=by simp only[ah];exact⟨by kernel_rfl,by omega⟩) 0 (e:=173) (len:=2) (s:=1) J (by kernel_rfl) (by kernel_rfl) (by decide) J<|?_;refine fE 48 60 J ?_;exact at_ (j+1) ⟨(by omega),(by omega)⟩
    .
     obtain rfl:j=cs.length:=by omega
     rw[show(cs.take cs.length).map (fun v=>(⟨f.l,v⟩:aP))=eE f m 1 from by rw[dW];unfold eE;rw[if_neg (by rw[hon];decide),<-hcs]];exact at_ (0+1) ⟨(by omega),(by omega)⟩
  .
   refine ix _ J J J<|cl (fu:=⟨0⟩) J (KI (l:=f.l) (m:=m) (side:= -1) h.ok hmo (.inr J)) J<|?_;obtain⟨cs,hcs⟩: ∃c,c=o9 2 [f.v] (jb f.l m (-1)):=⟨_,rfl⟩;have hcl:cs.length<=5:=by rw[hcs];have h1:=R8 2 [f.v] (jb f.l m (-1));have h2:=AZ (l:=f.l) (m:=m) (side:=(-1));simp only[gU] at h1;omega
   refine ak 25 (.d (.tp [.sl ((jb f.l m (-1)).map eV),vB (lP f.l m)])) J J ?_;refine gx J<|?_;refine bb J J J (fun hc28=>?_) (fun hc28=>?_)
   .
    have hon:lP f.l m=true:=hc28;exact rz J (by first|(unfold eE;rw[if_pos hon,if_pos hon];rfl)|rfl)
   .
    have hon:lP f.l m=false:=by simpa using hc28
    refine rf J J<|cl (fu:=⟨0⟩) J (Kr (a:=[f.v]) (b:=jb f.l m (-1)) (fun v hv=>by rw[aU] at hv;subst hv;exact⟨h.lo,h.hi⟩) (Nq h.lb hm h.ok) (by show 1<=100;decide) (by have:=AZ (l:=f.l) (m:=m) (side:=(-1));omega)) J<|?_;refine ak 33 (.d (.sl (cs.map eV))) J (by rw[hcs]) ?_;refine gx (fu:=⟨1⟩) J<|?_;refine ak 34 (.d (vI (cs.length:Nat))) J (by rw[gy eV cs]<;>rfl) ?_;refine gx J<|?_;refine lp (X:=Nat) (fun j=>[(35, .d (vI (j:Nat)))]) (fun j=>[(61,some (.b 180 14 (((cs.take j).map fun v=>(⟨f.l,v⟩:aP)).map fy) true))]) (fun j=>j<=cs.length) (fun j=>cs.length-j) 0 J (aN _) (fun _=>J) (fun j hk=>?_);have hml:(((cs.take j).map fun v=>(⟨f.l,v⟩:aP)).map fy).length<=j:=by rw[aJ,aJ,cJ];omega
    refine br J J J (fun hc36=>?_) (fun hc36=>?_)
    .
     obtain⟨z,hz⟩: ∃s,cs[j]? =some s:=⟨_,aQ (by omega)⟩;refine ix _ J (cA hz) J<|pG 1 (e:=173) (len:=2) (s:=1) J (by kernel_rfl) (by kernel_rfl) (by decide) J<|rf J J<|?_;refine ap (((cs.take (j+1)).map fun v=>(⟨f.l,v⟩:aP)).map fy) J (by rw[<-ve hz,bY];rfl) (yO [⟨f.l,z⟩]) J<|pG (hv:=by simp only[ah];exact⟨by kernel_rfl,by omega⟩) 1 (e:=173) (len:=2) (s:=1) J (by kernel_rfl) (by kernel_rfl) (by decide) J<|?_;refine fE 48 61 J ?_;exact at_ (j+1) ⟨(by omega),(by omega)⟩
    .
     obtain rfl:j=cs.length:=by omega
     rw[show(cs.take cs.length).map (fun v=>(⟨f.l,v⟩:aP))=eE f m (-1) from by rw[dW];unfold eE;rw[if_neg (by rw[hon];decide),<-hcs]];exact at_ (1+1) ⟨(by omega),(by omega)⟩
 .
  obtain rfl:k=2:=by omega
  refine pG 0 (e:=173) (len:=2) (s:=1) J (by kernel_rfl) (by kernel_rfl) (by decide) J<|pG 1 (e:=173) (len:=2) (s:=1) J (by kernel_rfl) (by kernel_rfl) (by decide) J<|?_;refine gI 60 J ?_;refine gI 61 J ?_;exact rz J (by first|(unfold eE;rw[if_pos hon,if_pos hon];rfl)|rfl)
def io(p:ZP):DV:=eP p.q
def nC(r:List ZP):DV:= .sl (r.map io)
def GJ(l:List ZP):cF 6 (l.map io):=fun d hd=>by
 obtain⟨u,_,rfl⟩:=bQ.1 hd;exact⟨rfl,rfl⟩
def Rs(l:List (List ZP)):cF 1 (l.map nC):=fun d hd=>by
 obtain⟨u,_,rfl⟩:=bQ.1 hd;exact⟨rfl,rfl⟩
def IC{r:List ZP}{i:Nat}(h:i<r.length):(r.map io)[((i:Nat):Int).toNat]? =some (io (r.getD i (0,0))):=by
 rw[bV,cK,aX,aQ h];rfl
def Me{r:List ZP}{i:Nat}(h:i<r.length):(r.map io)[(((i+1)%r.length:Nat):Int).toNat]? =some (io (gu r i)):=IC (cS _ (by omega))
def aE9(v w p:aa):(qp v w p).natAbs<=1:=by
 unfold qp;split<;>split<;>decide
def C4(r:List ZP)(p:aa): ∀k,(oE r p k).natAbs<=k
 |0=>aM _
 |k+1=>by rw[oE];have:=C4 r p k;have:=aE9 (r.getD k (0,0)).q (gu r k).q p;omega
def R4{r:List ZP}(h:d7 r):PF GB prog 86 [.sl (r.map io)] (.sl ((km r).map fy)):=by
 have hm:=gy io r;have h3:=h.n3;have h6:=h.n6;refine fn (fu:=⟨15⟩) func86 J J ntmps86 J J (fun C=>?_);refine ak 8 (.d (vI (r.length:Nat))) J (by rw[hm]<;>rfl) ?_;refine gx J<|?_;refine nr 3 3 180 14 J J J ?_;refine lp (X:=Nat) (fun k=>[(9, .d (vI (k:Nat))),(3, .rw 3)]) (fun k=>[(3,some (.b 180 14 ((qv r k).map fy) true))]) (fun k=>k<=r.length) (fun k=>r.length-k) 0 J (aN _) (fun _=>J) (fun k hk=>?_);have hel:=fun hh=>(J' (k:=k) h hh).1;refine br J J J (fun hc10=>?_) (fun hc10=>?_)
 .
  have hkr:k<r.length:=by omega
  have hel:=hel (by omega);have hem:=gy fy (qv r k);refine ix (fu:=⟨7⟩) _ J (IC hkr) J<|?_;refine ak 22 (.d (vI ((k+1)%r.length:Nat))) J (by rw[hm]<;>rfl) ?_;refine gx J<|ix _ J (Me hkr) J<|cl J (Xw (v:=r.getD k (0,0)) (w:=gu r k) (h.le _ (Bq hkr)) (h.le _ (BX hkr)) (h.ne k hkr)) J<|?_;refine rf J J<|ap ((qv r (k+1)).map fy) J (by rw[qv,bY];rfl) (yO [kv (r.getD k (0,0)) (gu r k)]) J<|?_;refine fE 31 3 J ?_;exact at_ (k+1) ⟨(by omega),(by omega)⟩
 .
  obtain rfl:k=r.length:=by omega
  refine gI 3 J ?_;exact rz J J
def T3{r:List ZP}{p:aa}{i:Nat}[hp:aC p i](h:d7 r)(hi:i<=80000:=by decide):PF GB prog 202 [.sl (r.map io),eP p] (vI (ly r p)):=by
 have hm:=gy io r;have h3:=h.n3;have h6:=h.n6;refine fn (fu:=⟨16⟩) func202 J J ntmps202 J J (fun C=>?_);refine ak 12 (.d (vI (r.length:Nat))) J (by rw[hm]<;>rfl) ?_;refine gx J<|?_;refine lp (X:=Nat×Int) (fun⟨k,c⟩=>[(13, .d (vI (k:Nat))),(5, .d (vI c))]) (fun⟨k,c⟩=>[]) (fun⟨k,c⟩=>c=oE r p k/\k<=r.length) (fun⟨k,c⟩=>r.length-k) (0,0) J ⟨J,aN _⟩ (fun _=>J) (fun⟨k,c⟩ hk=>?_);dsimp only at hk⊢;obtain⟨h1,h2⟩:=hk;have hcl:c.natAbs<=k:=by rw[h1];exact C4 r p k
 refine br J J J (fun hc14=>?_) (fun hc14=>?_)
 .
  have hkr:k<r.length:=by omega
  obtain⟨v,hv⟩: ∃v,v=r.getD k (0,0):=⟨_,rfl⟩;obtain⟨w,hw⟩: ∃v,v=gu r k:=⟨_,rfl⟩;haveI hvb:aC v.q 12:=by rw[hv];exact zk (h.le _ (Bq hkr))
  haveI hwb:aC w.q 12:=by rw[hw];exact zk (h.le _ (BX hkr))
  refine ix (fu:=⟨1⟩) _ J (IC hkr) J<|?_;refine ak 19 (.d (eP v.q)) J (by rw[hv];rfl) ?_;refine gx (fu:=⟨6⟩) J<|?_;refine ak 25 (.d (vI ((k+1)%r.length:Nat))) J (by rw[hm]<;>rfl) ?_;refine gx J<|ix (fu:=⟨1⟩) _ J (Me hkr) J<|?_;refine ak 27 (.d (eP w.q)) J (by rw[hw];rfl) ?_;refine gx J<|cl J (mF (a:=v.q.y) (b:=p.y) (i:=12) (j:=i) (by decide) (by omega)) J<|cl (fu:=⟨9⟩) J (mF (a:=w.q.y) (b:=p.y) (i:=12) (j:=i) (by decide) (by omega)) J<|?_;rcases(show(bg v.q.y p.y<=0/\bg w.q.y p.y<=0)\/(bg v.q.y p.y<=0/\ ¬bg w.q.y p.y<=0)\/(¬bg v.q.y p.y<=0/\bg w.q.y p.y<=0)\/(¬bg v.q.y p.y<=0/\ ¬bg w.q.y p.y<=0) by omega) with⟨ca,cb⟩|⟨ca,cb⟩|⟨ca,cb⟩|⟨ca,cb⟩
  .
   refine cB (fu:=⟨3⟩) J (by show some (decide _)=some true;rw[decide_eq_true (by omega)]) J<|ck (fu:=⟨15⟩) J (by show some (decide _)=some false;rw[decide_eq_false (by omega)]) J<|?_;refine ck (fu:=⟨20⟩) J (by show some (decide _)=some false;rw[decide_eq_false (by omega)]) J<|?_;exact at_ (k+1,c) (by dsimp only;exact⟨⟨by rw[oE,<-h1,<-hv,<-hw];unfold qp;split<;>split<;>omega,by omega⟩,(by omega)⟩)
  .
   refine cB (fu:=⟨3⟩) J (by show some (decide _)=some true;rw[decide_eq_true (by omega)]) J<|cB J (by show some (decide _)=some true;rw[decide_eq_true (by omega)]) J<|?_;refine cl J (Sz (a:=v.q) (b:=w.q) (c:=p) (i:=12) (j:=12) (k:=i) (by decide) (by decide) hi) J<|?_;refine br (fu1:=⟨10⟩) (fu2:=⟨6⟩) J J J (fun hc51=>?_) (fun hc51=>?_)
   .
    refine ck J (by show some (decide _)=some false;rw[decide_eq_false (by omega)]) J<|?_;exact at_ (k+1,c+1) (by dsimp only;exact⟨⟨by rw[oE,<-h1,<-hv,<-hw];unfold qp;split<;>split<;>omega,by omega⟩,(by omega)⟩)
   .
    refine ck (fu:=⟨20⟩) J (by show some (decide _)=some false;rw[decide_eq_false (by omega)]) J<|?_;exact at_ (k+1,c) (by dsimp only;exact⟨⟨by rw[oE,<-h1,<-hv,<-hw];unfold qp;split<;>split<;>omega,by omega⟩,(by omega)⟩)
  .
   refine ck (fu:=⟨19⟩) J (by show some (decide _)=some false;rw[decide_eq_false (by omega)]) J<|cB (fu:=⟨2⟩) J (by show some (decide _)=some true;rw[decide_eq_true (by omega)]) J<|?_;refine cB J (by show some (decide _)=some true;rw[decide_eq_true (by omega)]) J<|cl J (Sz (a:=v.q) (b:=w.q) (c:=p) (i:=12) (j:=12) (k:=i) (by decide) (by decide) hi) J<|?_;refine br (fu2:=⟨8⟩) J J J (fun hc65=>?_) (fun hc65=>?_)
   .
    exact at_ (k+1,c-1) (by dsimp only;exact⟨⟨by rw[oE,<-h1,<-hv,<-hw];unfold qp;split<;>split<;>omega,by omega⟩,(by omega)⟩)
   .
    exact at_ (k+1,c) (by dsimp only;exact⟨⟨by rw[oE,<-h1,<-hv,<-hw];unfold qp;split<;>split<;>omega,by omega⟩,(by omega)⟩)
  .
   refine ck (fu:=⟨19⟩) J (by show some (decide _)=some false;rw[decide_eq_false (by omega)]) J<|cB (fu:=⟨2⟩) J (by show some (decide _)=some true;rw[decide_eq_true (by omega)]) J<|?_;refine ck J (by show some (decide _)=some false;rw[decide_eq_false (by omega)]) J<|?_;exact at_ (k+1,c) (by dsimp only;exact⟨⟨by rw[oE,<-h1,<-hv,<-hw];unfold qp;split<;>split<;>omega,by omega⟩,(by omega)⟩)
 .
  obtain rfl:k=r.length:=by omega
  have hfin:ly r p=c:=h1.symm;exact rz J (by rw[hfin];rfl)
def at7{fill n:Int}(hn:n.natAbs<=1000):PF GB prog 203 [vI fill,vI n] (vB (ur fill n)):=by
 refine fn func203 J J ntmps203 J J (fun C=>?_);refine cs 7 J J J (fun hg7=>?_) (fun hg7=>?_)
 .
  refine cs 12 J J J (fun hg12=>?_) (fun hg12=>?_)
  .
   exact rz J (by show vB _=vB _;unfold ur;congr 1;simp_all)
  .
   refine cs 15 J J J (fun hg15=>?_) (fun hg15=>?_)
   .
    exact rz J (by show vB _=vB _;unfold ur;congr 1;simp_all)
   .
    exact rz J (by show vB _=vB _;unfold ur;congr 1;simp_all)
 .
  refine cs 15 J J J (fun hg15=>?_) (fun hg15=>?_)
  .
   exact rz J (by show vB _=vB _;unfold ur;congr 1;simp_all)
  .
   exact rz J (by show vB _=vB _;unfold ur;congr 1;simp_all)
def Gb(rs:List (List ZP)):List ab:=(ip rs).map aP.l
def xt(rs:List (List ZP))(fill:Int):DV:= .ag [.sl (rs.map nC), .v (.int .i64 fill), .sl ((xd (Gb rs)).map eL)]
def TV{rs:List (List ZP)}{p:aa}(h: ∀r∈rs,d7 r)(k:Nat):((rs.take k).foldl (fun n r=>n+ly r p) 0).natAbs<=6*k:=by
 induction k with
 |zero=>rw[rR];exact aN _
 |succ k ih=>
  rw[eY,rN]
  cases e:rs[k]? with
  |none=>exact cY ih (by omega)
  |some r=>
   have h1:(ly r p).natAbs<=r.length:=C4 r p r.length;have h2:=(h r (aV e)).n6;show(List.foldl _ 0 (rs.take k)+ly r p).natAbs<=_;omega
def aH7{rs:List (List ZP)}{fill:Int}{p:aa}{i:Nat}[hp:aC p i](h: ∀r∈rs,d7 r)(hn:rs.length<=100)(hi:i<=80000:=by decide):PF GB prog 153 [xt rs fill,eP p] (vB (l6 rs fill p)):=by
 have hm:=gy nC rs;refine fn (fu:=⟨18⟩) func153 J J ntmps153 J J (fun C=>?_);refine ak 10 (.d (vI (rs.length:Nat))) J (by rw[hm]<;>rfl) ?_;refine gx J<|?_;refine lp (X:=Nat×Int) (fun⟨k,c⟩=>[(11, .d (vI (k:Nat))),(5, .d (vI c))]) (fun⟨k,c⟩=>[]) (fun⟨k,c⟩=>c=(rs.take k).foldl (fun n r=>n+ly r p) 0/\k<=rs.length) (fun⟨k,c⟩=>rs.length-k) (0,0) J ⟨by rw[rR];rfl,aN _⟩ (fun _=>J) (fun⟨k,c⟩ hk=>?_);dsimp only at hk⊢;obtain⟨h1,h2⟩:=hk;have hcl:c.natAbs<=6*k:=by rw[h1];exact TV h k
 refine br J J J (fun hc12=>?_) (fun hc12=>?_)
 .
  obtain⟨r,hz⟩: ∃s,rs[k]? =some s:=⟨_,aQ (by omega)⟩;have hr:=h r (aV hz);have hnz:(ly r p).natAbs<=6:=cY (C4 r p r.length) hr.n6;refine ix _ J (cA hz) J<|cl J (T3 (r:=r) (p:=p) hr hi) J<|?_;exact at_ (k+1,c+ly r p) (by dsimp only;exact⟨⟨by rw[eY,hz,rN,<-h1];rfl,by omega⟩,(by omega)⟩)
 .
  obtain rfl:k=rs.length:=by omega
  rw[dW] at h1;refine cl J (at7 (fill:=fill) (n:=c) (by omega)) J<|?_;exact rz J (by unfold l6;rw[<-h1];rfl)
def vN(r:List ZP):DV:= .sl ((r.map ZP.q).map jr)
def Tq(l:List (List ZP)):cF 1 (l.map vN):=fun d hd=>by
 obtain⟨u,_,rfl⟩:=bQ.1 hd;exact⟨rfl,rfl⟩
theorem Hb{r:List ZP}(h: ∀p∈r,ZP.le 100 p): ∀p∈r.map ZP.q,aC p 1200:=fun p hp=>by
 obtain⟨z,hz,rfl⟩:=bQ.1 hp;have:=zk (h z hz);exact⟨BQ.mono this.x,BQ.mono this.y⟩
def Pa(r:List ZP):DV.sl ((r.map ZP.q).map eP)=nC r:=by unfold nC;rw[qV];rfl
def PH{rs:List (List ZP)}{k:Nat}{r:List ZP}(h:rs[k]? =some r):ip (rs.take (k+1))=ip (rs.take k)++km r:=by
 unfold ip;rw[eY,h,lL];simp
def OS{rs:List (List ZP)}(h: ∀r∈rs,d7 r)(k:Nat):(ip (rs.take k)).length<=6*k:=by
 have:=(tO (rs:=rs.take k) (fun r hr=>h r (dJ hr))).1;have h2:(rs.take k).length<=k:=by rw[cJ];omega
 omega
def Ou{rs:List (List ZP)}{fill:Int}(h: ∀r∈rs,d7 r)(hn:rs.length<=100):PF GB prog 37 [.sl (rs.map vN), .v (.int .i64 fill)] (xt rs fill):=by
 have hm:=gy vN rs;refine fn (fu:=⟨8⟩) func37 J J ntmps37 J J (fun C=>?_);refine bzp (fu:=⟨14⟩) 101 1 0 [] [.v (.int .i64 fill), .sl []] J J J J J<|?_;refine ak 15 (.d (vI (rs.length:Nat))) J (by rw[hm]<;>rfl) ?_;refine gx J<|?_;refine nr 6 6 111 6 J J J ?_;refine lp (X:=Nat) (fun k=>[(16, .d (vI (k:Nat))),(6, .rw 6),(5, .ov 5 0)]) (fun k=>[(5,some (.o 106 [.rw 13, .d (.v (.int .i64 fill)), .d (.sl [])] true)),(13,some (.b 101 1 ((rs.take k).map nC) true)),(6,some (.b 111 6 (((ip (rs.take k)).map aP.l).map eL) true))]) (fun k=>k<=rs.length) (fun k=>rs.length-k) 0 J (aN _) (fun _=>J) (fun k hk=>?_);refine br (fu2:=⟨0⟩) J J J (fun hc17=>?_) (fun hc17=>?_)
 .
  obtain⟨r,hz⟩: ∃s,rs[k]? =some s:=⟨_,aQ (by omega)⟩;have hr:=h r (aV hz);have hel:(km r).length<=6:=by have:=(EC hr).1;have:=hr.n6;omega
  have het:=OS h k;have hrl:((rs.take k).map nC).length=k:=by rw[aJ,cJ];omega
  refine ix _ J (cA hz) J<|cl (fu:=⟨0⟩) J (Wa (ps:=r.map ZP.q) (Hb hr.le) (by rw[aJ];have:=hr.n6;omega)) J<|?_;refine ak 21 (.d (nC r)) J (by rw[Pa]) ?_;refine gx J<|rf J J<|ap ((rs.take (k+1)).map nC) J (ve hz) (Rs [r]) J<|cl (fu:=⟨1⟩) J (R4 (r:=r) hr) J<|?_;refine ak 30 (.d (vI ((km r).length:Nat))) J (by rw[gy fy (km r)]<;>rfl) ?_;refine gx J<|?_;rw[<-mM (ip (rs.take k)),<-rR (l:=km r)];refine lp (X:=Nat) (fun j=>[(31, .d (vI (j:Nat))),(6, .rw 6)]) (fun j=>[(6,some (.b 111 6 (((ip (rs.take k)++(km r).take j).map aP.l).map eL) true))]) (fun j=>j<=(km r).length) (fun j=>(km r).length-j) 0 J (aN _) (fun _=>J) (fun j hk=>?_);have hml:(((ip (rs.take k)++(km r).take j).map aP.l).map eL).length<=6*k+6:=by rw[aJ,aJ,aW,cJ];omega
  refine br J J J (fun hc32=>?_) (fun hc32=>?_)
  .
   obtain⟨e,he⟩: ∃s,(km r)[j]? =some s:=⟨_,aQ (by omega)⟩;refine ix _ J (cA he) J<|rf J J<|ap (((ip (rs.take k)++(km r).take (j+1)).map aP.l).map eL) J (by rw[eY,he];simp only[bY,gX];rfl) (gA [e.l]) J<|?_;refine fE 39 6 J ?_;exact at_ (j+1) ⟨(by omega),(by omega)⟩
  .
   obtain rfl:j=(km r).length:=by omega
   rw[dW,<-PH hz];refine fE 26 13 J ?_;exact at_ (k+1) ⟨(by omega),(by omega)⟩
 .
  obtain rfl:k=rs.length:=by omega
  rw[dW];refine u' 6 J ?_;refine u' 13 J ?_;refine gx rfl<|cl rfl (VB (ls:=Gb rs) (fun l hl=>by obtain⟨f,hf,rfl⟩:=bQ.1 hl;exact((tO h).2 f hf).lb) (by unfold Gb;rw[aJ];have:=(tO h).1;omega)) rfl<|?_;exact rz J J
def aIu{rs:List (List ZP)}(h: ∀r∈rs,d7 r)(hn:rs.length<=100):PF GB prog 49 [.sl (rs.map nC)] (.sl (rs.map vN)):=by
 have hm:=gy nC rs;refine fn (fu:=⟨15⟩) func49 J J ntmps49 J J (fun C=>?_);refine ak 7 (.d (vI (rs.length:Nat))) J (by rw[hm]<;>rfl) ?_;refine gx J<|?_;refine nr 3 3 78 1 J J J ?_;refine lp (X:=Nat) (fun k=>[(8, .d (vI (k:Nat))),(3, .rw 3)]) (fun k=>[(3,some (.b 78 1 ((rs.take k).map vN) true))]) (fun k=>k<=rs.length) (fun k=>rs.length-k) 0 J (aN _) (fun _=>J) (fun k hk=>?_);have hml:((rs.take k).map vN).length<=k:=by rw[aJ,cJ];omega
 refine br J J J (fun hc9=>?_) (fun hc9=>?_)
 .
  obtain⟨r,hz⟩: ∃s,rs[k]? =some s:=⟨_,aQ (by omega)⟩;have hr:=h r (aV hz);refine ix (fu:=⟨1⟩) _ J (cA hz) J<|?_;refine ak 11 (.d (.sl ((r.map ZP.q).map eP))) J (by rw[Pa]) ?_;refine gx J<|cl J (KG (ps:=r.map ZP.q) (Hb hr.le) (by rw[aJ];have:=hr.n6;omega)) J<|rf J J<|ap ((rs.take (k+1)).map vN) J (ve hz) (Tq [r]) J<|?_;refine fE 16 3 J ?_;exact at_ (k+1) ⟨(by omega),(by omega)⟩
 .
  obtain rfl:k=rs.length:=by omega
  refine gI 3 J ?_;exact rz J (by rw[dW];rfl)
def X8(out:List ab)(l:ab):(pP out l).length<=out.length+1:=by
 unfold pP;split
 .omega
 .simp;omega
def Sj(c:List ab): ∀(t out:List ab),(nF c t out).length<=out.length+t.length
 |[],out=>by simp[nF]
 |l::t,out=>by
  rw[nF];refine cY (Sj c t _) ?_;have:=X8 out l;split<;>simp<;>omega
def Ct(c:List ab):(fj c).length<=c.length:=cY (Sj c c []) (by simp)
theorem CB{c:List ab}(h: ∀m∈c,LB m): ∀m∈fj c,LB m:=fun m hm=>h m (oD.1 hm).1
def CQ{c:List ab}(h: ∀m∈c,m.ok): ∀m∈fj c,m.ok:=fun m hm=>h m (oD.1 hm).1
def Ei{c:List ab}{l:ab}(hc: ∀m∈c,LB m)(hok: ∀m∈c,m.ok)(hn:c.length<=900)(hl:LB l)(hlo:l.ok):PF GB prog 46 [.sl (c.map eL),eL l] (.sl ((fj (c++[l])).map eL)):=by
 have hcl:=wM c;refine fn func46 J J ntmps46 J J (fun C=>?_);refine r7 J J<|ap (c.map eL) J J (gA _) J<|rf J J<|mD ((c++[l]).map eL) J (by rw[bY];rfl) (gA [l]) J<|?_;refine cl J (Yy (c:=c++[l]) (tD hc hl) (iO hok hlo) (by simp;omega)) J<|?_;exact rz J J
def Zz{l l1:ab}{x y u:Tr}:PF GB prog 45 [eL l,eT (.node l1 x y),eT u] (eT (.node l (.node l1 x y) u)):=by
 refine fn (fu:=⟨12⟩) func45 J J ntmps45 J J (fun C=>?_);refine ck J J J<|?_;refine gI 33 J ?_;exact rz J J
def Zn{l l1:ab}{x y:Tr}{p:Bool}:PF GB prog 45 [eL l,eT (.leaf p),eT (.node l1 x y)] (eT (.node l (.leaf p) (.node l1 x y))):=by
 refine fn (fu:=⟨12⟩) func45 J J ntmps45 J J (fun C=>?_);refine cB (fu:=⟨4⟩) J J J<|ck J J J<|?_;refine gI 33 J ?_;exact rz J J
def XJ{l:ab}{p q:Bool}:PF GB prog 45 [eL l,eT (.leaf p),eT (.leaf q)] (eT (Tr.joinQ l (.leaf p) (.leaf q))):=by
 refine fn (fu:=⟨12⟩) func45 J J ntmps45 J J (fun C=>?_);refine cB (fu:=⟨4⟩) J J J<|cB J J J<|?_;refine bd J J J (fun hc27=>?_) (fun hc27=>?_)
 .
  exact rz J (by rw[show Tr.joinQ l (.leaf p) (.leaf q)= .leaf p by simp[Tr.joinQ,Tr.isLeaf,Tr.code,hc27]];rfl)
 .
  refine gI 33 J ?_;exact rz J (by rw[show Tr.joinQ l (.leaf p) (.leaf q)= .node l (.leaf p) (.leaf q) by simp[Tr.joinQ,Tr.isLeaf,Tr.code,hc27]];rfl)
def LM{l:ab}: ∀{x y:Tr},PF GB prog 45 [eL l,eT x,eT y] (eT (Tr.joinQ l x y))
 | .leaf _, .leaf _=>XJ
 | .leaf _, .node .. =>Zn
 | .node ..,_=>Zz
def aiF{b:Bool}{c:List ab}:PF GB prog 41 [eT (.leaf b), .sl (c.map eL)] (eT (Tr.restrictL (.leaf b) c)):=by
 refine fn (fu:=⟨11⟩) func41 J J ntmps41 J J (fun C=>?_);refine cB J J J<|?_;exact rz J J
def aiG{l:ab}{x y:Tr}{c:List ab}(hl:LB l)(hlo:l.ok)(hc: ∀m∈c,LB m)(hok: ∀m∈c,m.ok)(hn:c.length+(Tr.node l x y).depth<=900)(ihx: ∀{c:List ab},(∀m∈c,LB m)->(∀m∈c,m.ok)->c.length+x.depth<=900->PF GB prog 41 [eT x, .sl (c.map eL)] (eT (Tr.restrictL x c)))(ihy: ∀{c:List ab},(∀m∈c,LB m)->(∀m∈c,m.ok)->c.length+y.depth<=900->PF GB prog 41 [eT y, .sl (c.map eL)] (eT (Tr.restrictL y c))):PF GB prog 41 [eT (.node l x y), .sl (c.map eL)] (eT (Tr.restrictL (.node l x y) c)):=by
 have hdp:(Tr.node l x y).depth=1+Nat.max x.depth y.depth:=J;have hdx:x.depth<=Nat.max x.depth y.depth:=rX _ _;have hdy:y.depth<=Nat.max x.depth y.depth:=qK _ _;have hca:=Ct (c++[l]);have hcb:=Ct (c++[l.rev]);rw[aW,gU] at hca hcb;refine fn (fu:=⟨11⟩) func41 J J ntmps41 J J (fun C=>?_);refine ck J J J<|cl J (MQ (c:=c) (l:=l) hc hok (by omega) hl hlo) J<|?_;refine br J J J (fun hc16=>?_) (fun hc16=>?_)
 .
  refine cl J (ihx hc hok (by omega)) J<|?_;exact rz J (by rw[Tr.restrictL,if_pos hc16];rfl)
 .
  refine br J J J (fun hc24=>?_) (fun hc24=>?_)
  .
   refine cl J (ihy hc hok (by omega)) J<|?_;exact rz J (by rw[Tr.restrictL,if_neg hc16,if_pos hc24];rfl)
  .
   refine cl J (Ei (c:=c) (l:=l) hc hok (by omega) hl hlo) J<|cl J (ihx (c:=fj (c++[l])) (CB (tD hc hl)) (CQ (iO hok hlo)) (by omega)) J<|?_;refine cl J (xY (l:=l)) J<|cl J (Ei (c:=c) (l:=l.rev) hc hok (by omega) hl.rev hlo.rev) J<|cl J (ihy (c:=fj (c++[l.rev])) (CB (tD hc hl.rev)) (CQ (iO hok hlo.rev)) (by omega)) J<|?_;refine cl J LM J<|?_;exact rz J (by rw[Tr.restrictL,if_neg hc16,if_neg hc24];rfl)
def BO: ∀{t:Tr} {c:List ab},t.all LB->t.all ab.ok->(∀m∈c,LB m)->(∀m∈c,m.ok)->c.length+t.depth<=900->PF GB prog 41 [eT t, .sl (c.map eL)] (eT (Tr.restrictL t c))
 | .leaf _,_,_,_,_,_,_=>aiF
 | .node l x y,c,hb,ho,hc,hok,hn=>aiG hb.1 ho.1 hc hok hn (fun h1 h2 h3=>BO hb.2.1 ho.2.1 h1 h2 h3) (fun h1 h2 h3=>BO hb.2.2 ho.2.2 h1 h2 h3)
def p7:aa:=⟨mkRat 1 7,mkRat 1 5⟩
structure LP (l:ab):Prop where
 s:LS l
 p:0<l.value p7
def IA(es:List Int):Nat->Nat->List ab×Nat
 |0,a=>([],a)
 |i+1,a=>((lF es a).1::(IA es i (lF es a).2).1,(IA es i (lF es a).2).2)
def Mn(es:List Int)(most a:Nat):List ab×Nat:=IA es (av es ((most:Int)+1) a).1 (av es ((most:Int)+1) a).2
def N4(l:ab):ab:=if(l.value p7).num.sign<0 then l.rev else l
def aLa(xs:List ab)(i:Nat):List ab:=(xs.take i).map N4++xs.drop i
def aKt(es:List Int)(a:Nat):List ab×Nat:=((Mn es 3 a).1.map N4,(Mn es 3 a).2)
def Si(xs ys:List NQ)(n:NQ):((xs++(n::ys)).map eN)[((xs.length:Nat):Int).toNat]? =some (eN n):=by simp
def KR(xs ys:List NQ)(n m:NQ)(e:DV)(h:e=eN m):((xs++(n::ys)).map eN).set ((xs.length:Nat):Int).toNat e=(xs++(m::ys)).map eN:=by subst h;simp
def ao3{ns:List NQ}:PB GB prog 16 (dP [some (eT (.leaf true)),none]) 8 118 (ns.map eN) (fun w=> .tp ([]++ .v (.slice w.a w.n w.c)::[.v (.int .i64 (Tr.num (.leaf true) ns.length))])) ((ns++Tr.wr (.leaf true) ns.length).map eN):=by
 refine JR (fu:=⟨12⟩) func16 J J ntmps16 J J (fun C=>?_);refine cB (fu:=⟨9⟩) J J J<|cB J J J<|?_;exact Gs J J J J J (by simp[Tr.wr]) J
def VY{ns:List NQ}:PB GB prog 16 (dP [some (eT (.leaf false)),none]) 8 118 (ns.map eN) (fun w=> .tp ([]++ .v (.slice w.a w.n w.c)::[.v (.int .i64 (Tr.num (.leaf false) ns.length))])) ((ns++Tr.wr (.leaf false) ns.length).map eN):=by
 refine JR (fu:=⟨12⟩) func16 J J ntmps16 J J (fun C=>?_);refine cB (fu:=⟨9⟩) J J J<|ck J J J<|?_;exact Gs J J J J J (by simp[Tr.wr]) J
def VT{l:ab}{s u:Tr}{ns:List NQ}(hl:BL l 96)(hs:ns.length+(1+s.size+u.size)<=1000000)(ihs: ∀{ns:List NQ},ns.length+s.size<=1000000->PB GB prog 16 (dP [some (eT s),none]) 8 118 (ns.map eN) (fun w=> .tp ([]++ .v (.slice w.a w.n w.c)::[.v (.int .i64 (Tr.num s ns.length))])) ((ns++Tr.wr s ns.length).map eN))(ihu: ∀{ns:List NQ},ns.length+u.size<=1000000->PB GB prog 16 (dP [some (eT u),none]) 8 118 (ns.map eN) (fun w=> .tp ([]++ .v (.slice w.a w.n w.c)::[.v (.int .i64 (Tr.num u ns.length))])) ((ns++Tr.wr u ns.length).map eN)):PB GB prog 16 (dP [some (eT (.node l s u)),none]) 8 118 (ns.map eN) (fun w=> .tp ([]++ .v (.slice w.a w.n w.c)::[.v (.int .i64 (Tr.num (.node l s u) ns.length))])) ((ns++Tr.wr (.node l s u) ns.length).map eN):=by
 refine JR (fu:=⟨12⟩) func16 J J ntmps16 J J (fun C=>?_);refine ck (fu:=⟨9⟩) J J J<|?_;refine ak 20 (.d (.v (.int .i64 (ns.length:Nat)))) J (by simp) ?_;refine gx J<|cl J (ZY hl) J<|rf J J<|Hl ((ns++[(⟨l,0,0⟩:NQ)]).map eN) J (by rw[bY]<;>rfl) (WN [(⟨l,0,0⟩:NQ)]) J<|?_;refine cb _ J (ihs (ns:=ns++[(⟨l,0,0⟩:NQ)]) (by simp;omega)) J J<|cb (hv:=by simp only[ah];exact(by simp;omega)) ((ns++((⟨l,0,0⟩:NQ)::(s.wr (ns.length+1)++u.wr (ns.length+1+s.size)))).map eN) J (ihu (ns:=ns++[(⟨l,0,0⟩:NQ)]++s.wr (ns++[(⟨l,0,0⟩:NQ)]).length) (by simp[Tr.wr_len];omega)) (by simp[Tr.wr_len,kW,kJ 1]) J<|?_;refine sb (hv:=by simp only[ah];exact(by simp;omega)) (eN ⟨l,0,0⟩) ((ns++((⟨l,s.num (ns.length+1),0⟩:NQ)::(s.wr (ns.length+1)++u.wr (ns.length+1+s.size)))).map eN) J (Si ns _ ⟨l,0,0⟩) J (by rw[KR _ _ _ ⟨l,s.num (ns.length+1),0⟩ _ (by simp[eN,DV.cells])]) J<|?_;refine sb (eN ⟨l,s.num (ns.length+1),0⟩) ((ns++Tr.wr (.node l s u) ns.length).map eN) J (Si ns _ ⟨l,s.num (ns.length+1),0⟩) J (by rw[KR _ _ _ ⟨l,s.num (ns.length+1),u.num (ns.length+1+s.size)⟩ _ (by simp[eN,DV.cells,Tr.wr_len,kW,kJ 1])];simp[Tr.wr]) J<|?_;exact Gs J J J J J J J
def GT: ∀{t:Tr} {ns:List NQ},t.all (fun l=>BL l 96)->ns.length+t.size<=1000000->PB GB prog 16 (dP [some (eT t),none]) 8 118 (ns.map eN) (fun w=> .tp ([]++ .v (.slice w.a w.n w.c)::[.v (.int .i64 (Tr.num t ns.length))])) ((ns++Tr.wr t ns.length).map eN)
 | .leaf true,ns,_,_=>ao3
 | .leaf false,ns,_,_=>VY
 | .node l s u,ns,hb,hs=>VT hb.1 hs (fun h=>GT hb.2.1 h) (fun h=>GT hb.2.2 h)
def aCQ{t:Tr}(hb:t.all (fun l=>BL l 96))(hs:t.size<=1000000):PF GB prog 5 [eT t] (eA t):=by
 refine fn func5 J J ntmps5 J J (fun C=>?_);refine cbn _ J (GT (t:=t) (ns:=[]) hb (by simpa using hs)) J J<|?_;refine gI 6 J ?_;exact rz J J
def WG(ds:List Int):cF 1 (ds.map vI):=fun d hd=>by
 obtain⟨n,_,rfl⟩:=bQ.1 hd;exact⟨rfl,rfl⟩
def Zq(es:List Int):(es.map vI).take (min es.length 400)=(es.take 400).map vI:=by
 rw[gR];rcases Nat.le_total es.length 400 with h|h
 .rw[gK h,aS (by simp),aS (by simpa using h)]
 .rw[Nat.min_eq_right h]
def Up{es:List Int}(hb:es.length<=1125899906842624):PN GB prog 4 [.sl (es.map vI)] 64 Unit (fun _=>[.sl ((es.take 400).map vI), .v (.int .i64 (0:Nat))]):=by
 have hel:(es.map vI).length=es.length:=by simp
 refine fnN func4 J J ntmps4 J J (fun C hmb=>?_);refine ni 0 (min es.length 400) ((es.take 400).map vI) J J (by rw[hel];show(if _ then _ else _:Int)=_;split<;>omega) (Zq es) (WG _) (by omega) (by omega) J<|?_;exact rzN () J J J J J
def awK{t:Tr}(hb:t.all LB)(hok:t.all ab.ok)(hd:t.depth<=900):PF GB prog 87 [eT t] (eT (t.restrict [])):=by
 refine fn func87 J J ntmps87 J J (fun C=>?_);refine cl J (BO (t:=t) (c:=[]) hb hok (by simp) (by simp) (by simpa using hd)) J<|?_;exact rz J (by rw[<-Tr.restrictL_eq t [] [] hok (by simp) bO.nil (fun p=>by unfold bm cI;simp)];rfl)
def Rl{cuts:List Rat}{marks:List Bool}: ∀k,2*(fH cuts marks k).length<=k+(if 0<k/\marks.getD (k-1) false=true then 1 else 0)
 |0=>by rw[fH];simp
 |k+1=>by
  have ih:=Rl (cuts:=cuts) (marks:=marks) k;rw[fH];simp only[lZ];by_cases hm:marks.getD k false=true
  .rw[if_pos hm,if_pos (show 0<k+1/\marks.getD k false=true from⟨by omega,hm⟩)]
   by_cases hp:0<k/\marks.getD (k-1) false=true
   .rw[if_pos hp] at ih⊢
    cases hv:(fH cuts marks k).getLast? with
    |some v=>
     have:0<(fH cuts marks k).length:=by
      cases e:fH cuts marks k with
      |nil=>rw[e] at hv;simp at hv
      |cons a t=>simp
     show 2*((fH cuts marks k).dropLast++[_]).length<=_;rw[aW,iJ,gU];omega
    |none=>
     have:fH cuts marks k=[]:=List.getLast?_eq_none_iff.1 hv;simp only[this];simp
   .rw[if_neg hp] at ih⊢
    rw[aW,gU];omega
  .rw[if_neg hm]
   split at ih<;>split<;>omega
def VN(op:Int)(a b:List aj):(o9 op a b).length<=a.length+b.length+1:=by
 unfold o9 vl;have h:=Rl (cuts:=ig (a++b)) (marks:=(e8 (ig (a++b))).map fun t=>nP op (fD a t) (fD b t)) ((e8 (ig (a++b))).map fun t=>nP op (fD a t) (fD b t)).length;have h2:=J0 (a++b);rw[aW] at h2;have h3:((e8 (ig (a++b))).map fun t=>nP op (fD a t) (fD b t)).length=(ig (a++b)).length+1:=by rw[aJ,yZ]
 split at h<;>omega
def F7(f:aP)(m:ab)(side:Int):(eE f m side).length<=3:=by
 unfold eE;split
 .simp
 .rw[aJ]
  have:=VN 2 [f.v] (jb f.l m side);have h2:=AZ (l:=f.l) (m:=m) (side:=side);rw[gU] at this;omega
theorem XZ{p v:aa}{m:ab}{s:Rat}[hp:aC p 4500][hv:aC v 97][hm:LB m](hs:BQ s 60000):BQ (oP p v m s) 60000:=by
 unfold oP tw;split
 .exact hs
 .split
  .exact hs
  .split
   .split
    .haveI:BQ (-(m.value p/(m.value (bP p v ((1:Int):Rat))-m.value p))) 45000:=BQ.mono inferInstance
     exact BQ.mono (inferInstance:BQ (-(m.value p/(m.value (bP p v ((1:Int):Rat))-m.value p))/2) _)
    .exact hs
   .exact hs
theorem KD{p v:aa}[hp:aC p 4500][hv:aC v 97]: ∀{c:List ab} {s:Rat},(∀m∈c,LB m)->BQ s 60000->BQ (mG p v c s) 60000
 |[],_,_,hs=>hs
 |m::t,s,hc,hs=>by
  haveI:=hc m aZ;exact KD (c:=t) (fun q hq=>hc q (aK _ hq)) (XZ hs)
theorem Sg{c:List ab}(hc: ∀m∈c,LB m)(hok: ∀m∈c,m.ok): ∀{t:List ab},(∀m∈t,m∈c)->aC (i5 c t) 70000
 |[],_=>by
  have h0:BQ (0:Rat) 70000:=BQ.mono (k:=1) ⟨by decide,by decide⟩;exact⟨h0,h0⟩
 |m::t,h=>by
  have hm:=h m aZ;haveI:=hc m hm;rw[i5];split
  .have hbd:=Di (v:=aj.all) (hok m hm).ne hc ic.all (BQ.mono (k:=1) ⟨by decide,by decide⟩) (BQ.mono (k:=1) ⟨by decide,by decide⟩)
   haveI:=hbd.1;haveI:=hbd.2;haveI hsb:=QE (v:=(fB m c aj.all).1) (i:=1200);haveI hpt:aC (m.at (jy (fB m c aj.all).1)) 4500:=by have:=aC.at m (jy (fB m c aj.all).1) (1200+1200+5);exact⟨this.x.mono (by decide),this.y.mono (by decide)⟩
   haveI hvt:aC (jk m.dir) 97:=inferInstance;haveI hns:BQ (mG (m.at (jy (fB m c aj.all).1)) (jk m.dir) c ((1:Int):Rat)) 60000:=KD hc (BQ.mono (k:=2) ⟨by decide,by decide⟩);have:=aC.mov (m.at (jy (fB m c aj.all).1)) (jk m.dir) (mG (m.at (jy (fB m c aj.all).1)) (jk m.dir) c ((1:Int):Rat)) 4500 97 60000;exact⟨this.x.mono (by decide),this.y.mono (by decide)⟩
  .exact Sg hc hok (fun q hq=>h q (aK _ hq))
def R5{l:List aP}{k:Nat}{g:aP}{m:ab}{side:Int}(h:l[k]? =some g):(l.take (k+1)).flatMap (fun g=>eE g m side)=(l.take k).flatMap (fun g=>eE g m side)++eE g m side:=by
 rw[eY,h,lL];simp
def Dx(l:List aP)(m:ab)(side:Int):(l.flatMap fun g=>eE g m side).length<=3*l.length:=by
 induction l with
 |nil=>simp
 |cons a t ih=>rw[kR,aW,bJ];have:=F7 a m side;omega
def Wo{acc:aa->Bool}{n:Nat}{c:List ab}:jg acc n [] c= .leaf (acc (i5 c c)):=by cases n<;>rfl
def asr{rs:List (List ZP)}{fill:Int}(hrs: ∀r∈rs,d7 r)(hrn:rs.length<=100){n:Nat}{c:List ab}(hc: ∀m∈c,LB m)(hok: ∀m∈c,m.ok)(hn:c.length<=900):PF GB prog 88 [xt rs fill, .sl [], .sl (c.map eL)] (eT (jg (l6 rs fill) n [] c)):=by
 haveI hpb:=Sg hc hok (t:=c) (fun _ h=>h);refine fn (fu:=⟨11⟩) func88 J J ntmps88 J J (fun C=>?_);refine cB J J J<|cl J (I9 (c:=c) hc hok (by omega)) J<|cl J (aH7 (p:=i5 c c) (i:=70000) hrs hrn (by decide)) J<|cl J (wP (p:=l6 rs fill (i5 c c))) J<|?_;exact rz J (by rw[Wo];rfl)
def asE{rs:List (List ZP)}{fill:Int}(hrs: ∀r∈rs,d7 r)(hrn:rs.length<=100){n:Nat}{f:aP}{t:List aP}{c:List ab}(hfew:q7 (n+1) (f::t))(hfo: ∀g∈f::t,nk g)(hlen:(f::t).length*3^(n+1)<=6973568802)(hc: ∀m∈c,LB m)(hok: ∀m∈c,m.ok)(hn:c.length+(n+1)<=900)(ih: ∀{l:List aP} {c:List ab},q7 n l->(∀f∈l,nk f)->l.length*3^n<=6973568802->(∀m∈c,LB m)->(∀m∈c,m.ok)->c.length+n<=900->PF GB prog 88 [xt rs fill, .sl (l.map fy), .sl (c.map eL)] (eT (jg (l6 rs fill) n l c))):PF GB prog 88 [xt rs fill, .sl ((f::t).map fy), .sl (c.map eL)] (eT (jg (l6 rs fill) (n+1) (f::t) c)):=by
 obtain⟨l,hl⟩: ∃l,l=f::t:=⟨_,rfl⟩;have hl0:l[0]? =some f:=by rw[hl];rfl
 rw[<-hl] at hfew hfo hlen⊢;have hm:=gy fy l;have hfl:=hfo f (aV hl0);haveI:=hfl.lb;have hlp:0<l.length:=by rw[hl];simp
 have hlb:l.length<=6973568802:=cY (rW _ (fU (by decide))) hlen;refine fn (fu:=⟨11⟩) func88 J J ntmps88 J J (fun C=>?_);refine ak 17 (.d (vI (l.length:Nat))) J (by rw[hm]<;>rfl) ?_;refine gx (fu:=⟨0⟩) J<|ck J (by show some (decide _)=some false;rw[decide_eq_false (by omega)]) J<|ix (fu:=⟨17⟩) _ J (cA (i:=0) hl0) J<|?_;refine ak 33 (.d (vI (l.length:Nat))) J (by rw[hm]<;>rfl) ?_;refine gx J<|?_;refine nr 10 10 180 14 J J J ?_;refine nr 11 11 180 14 J J J ?_;refine lp (X:=Nat) (fun k=>[(34, .d (vI (k:Nat))),(10, .rw 10),(11, .rw 11)]) (fun k=>[(10,some (.b 180 14 (((l.take k).flatMap fun g=>eE g f.l 1).map fy) true)),(11,some (.b 180 14 (((l.take k).flatMap fun g=>eE g f.l (-1)).map fy) true))]) (fun k=>k<=l.length) (fun k=>l.length-k) 0 J (aN _) (fun _=>J) (fun k hk=>?_);have htk:(l.take k).length<=6973568802:=by rw[cJ];omega
 have hb1:(((l.take k).flatMap fun g=>eE g f.l 1).map fy).length<=20920706406:=by rw[aJ];have:=Dx (l.take k) f.l 1;omega
 have hb2:(((l.take k).flatMap fun g=>eE g f.l (-1)).map fy).length<=20920706406:=by rw[aJ];have:=Dx (l.take k) f.l (-1);omega
 refine br (fu2:=⟨0⟩) J J J (fun hc35=>?_) (fun hc35=>?_)
 .
  obtain⟨g,hz⟩: ∃s,l[k]? =some s:=⟨_,aQ (by omega)⟩;have hg:=hfo g (aV hz);have hs1:((eE g f.l 1).map fy).length<=3:=by rw[aJ];exact F7 _ _ _
  have hs2:((eE g f.l (-1)).map fy).length<=3:=by rw[aJ];exact F7 _ _ _
  refine ix _ J (cA hz) J<|cl J (ZW (f:=g) (m:=f.l) hg hfl.ok) J<|ap (hbd:=by omega) (((l.take (k+1)).flatMap fun g=>eE g f.l 1).map fy) J (by rw[R5 hz,bY]) (yO _) J<|?_;refine ap (hbd:=by omega) (((l.take (k+1)).flatMap fun g=>eE g f.l (-1)).map fy) J (by rw[R5 hz,bY]) (yO _) J<|?_;refine fE 46 10 J ?_;refine fE 49 11 J ?_;exact at_ (k+1) ⟨(by omega),(by omega)⟩
 .
  obtain rfl:k=l.length:=by omega
  rw[dW];refine u' 10 J ?_;refine u' 11 J ?_;refine gx J<|r7 J J<|ap (c.map eL) J J (gA c) J<|rf J J<|mD ((c++[f.l]).map eL) J (by rw[bY];rfl) (gA [f.l]) J<|?_;refine cl rfl (ih (c:=c++[f.l]) (by subst hl;exact q7.split hfew hfo) (fun g hg=>by obtain⟨q,hq,hg⟩:=fZ.1 hg;exact(EM (hfo q hq) hfl.lb g hg).1) (by have:=Dx l f.l 1;rw[fL] at hlen;exact cY (bW _ this) (by rw[bN 3,cX];rw[bN (3^n)] at hlen;exact hlen)) (tD hc hfl.lb) (iO hok hfl.ok) (by rw[aW,gU];omega)) rfl<|?_;refine r7 J J<|ap (c.map eL) J J (gA c) J<|cl J (xY (l:=f.l)) J<|rf J J<|mD ((c++[f.l.rev]).map eL) J (by rw[bY];rfl) (gA [f.l.rev]) J<|?_;refine cl (fu:=⟨1⟩) rfl (ih (c:=c++[f.l.rev]) (by subst hl;exact q7.split hfew hfo) (fun g hg=>by obtain⟨q,hq,hg⟩:=fZ.1 hg;exact(EM (hfo q hq) hfl.lb g hg).1) (by have:=Dx l f.l (-1);rw[fL] at hlen;exact cY (bW _ this) (by rw[bN 3,cX];rw[bN (3^n)] at hlen;exact hlen)) (tD hc hfl.lb.rev) (iO hok hfl.ok.rev) (by rw[aW,gU];omega)) rfl<|?_;refine Ff J J<|?_;exact rz J (by subst hl;rfl)
def NK{rs:List (List ZP)}{fill:Int}(hrs: ∀r∈rs,d7 r)(hrn:rs.length<=100): ∀{n:Nat} {l:List aP} {c:List ab},q7 n l->(∀f∈l,nk f)->l.length*3^n<=6973568802->(∀m∈c,LB m)->(∀m∈c,m.ok)->c.length+n<=900->PF GB prog 88 [xt rs fill, .sl (l.map fy), .sl (c.map eL)] (eT (jg (l6 rs fill) n l c))
 |n,[],c,_,_,_,hc,hok,hn=>asr hrs hrn hc hok (by omega)
 |0,f::t,c,hf,_,_,_,_,_=>by
  obtain⟨K,h1,h2⟩:=hf;obtain⟨m,hm,_⟩:=h2 f aZ;rw[bS (l:=K) (by omega)] at hm
  cases hm
 |n+1,f::t,c,hf,ho,hl,hc,hok,hn=>asE hrs hrn hf ho hl hc hok hn (fun a1 a2 a3 a4 a5 a6=>NK hrs hrn a1 a2 a3 a4 a5 a6)
def UV(l:List aP):q7 l.length l:=⟨l.map aP.l,by rw[aJ];exact aM _,fun f hf=>⟨f.l,fS hf, .inl J⟩⟩
def WV{n:Nat}(h:n<=18):n*3^n<=6973568802:=cY (iW h (bU (by decide) h)) (by decide)
def RO{rs:List (List ZP)}{fill:Int}(hrs: ∀r∈rs,d7 r)(hrn:rs.length<=3):PF GB prog 36 [xt rs fill] (eT (l7 rs fill)):=by
 have hm:=gy nC rs;have hE:=tO hrs;have hraw:=Gm (acc:=l6 rs fill) hE.2 J;refine fn (fu:=⟨17⟩) func36 J J ntmps36 J J (fun C=>?_);refine ak 8 (.d (vI (rs.length:Nat))) J (by rw[hm]<;>rfl) ?_;refine gx J<|?_;refine nr 3 3 180 14 J J J ?_;refine lp (X:=Nat) (fun k=>[(9, .d (vI (k:Nat))),(3, .rw 3)]) (fun k=>[(3,some (.b 180 14 ((ip (rs.take k)).map fy) true))]) (fun k=>k<=rs.length) (fun k=>rs.length-k) 0 J (aN _) (fun _=>J) (fun k hk=>?_);have het:((ip (rs.take k)).map fy).length<=6*k:=by rw[aJ];exact OS hrs k
 refine br J J J (fun hc10=>?_) (fun hc10=>?_)
 .
  obtain⟨r,hz⟩: ∃s,rs[k]? =some s:=⟨_,aQ (by omega)⟩;have hr:=hrs r (aV hz);have hel:((km r).map fy).length<=6:=by rw[aJ];have:=(EC hr).1;have:=hr.n6;omega
  refine ix _ J (cA hz) J<|cl J (R4 (r:=r) hr) J<|ap (hbd:=by omega) ((ip (rs.take (k+1))).map fy) J (by rw[PH hz,bY]) (yO _) J<|?_;refine fE 16 3 J ?_;exact at_ (k+1) ⟨(by omega),(by omega)⟩
 .
  obtain rfl:k=rs.length:=by omega
  rw[dW];refine fz 3 J J<|cl J (NK (n:=(ip rs).length) (l:=ip rs) (c:=[]) hrs (by omega) (UV _) hE.2 (WV (by have:=hE.1;omega)) (fun m h=>by cases h) (fun m h=>by cases h) (by have:=hE.1;rw[fV];omega)) J<|?_;refine cl J (awK (t:=wD rs fill) hraw.gd.lb hraw.gd.ok (by have:=hraw.dp;have:=hE.1;show(jg _ _ _ _).depth<=900;omega)) J<|?_;exact rz J J
def TX{b:Bool}:PF GB prog 43 [eT (.leaf b)] (eT (Tr.compl (.leaf b))):=by
 refine fn (fu:=⟨11⟩) func43 J J ntmps43 J J (fun C=>?_);refine cB J J J<|cl J (wP (p:=!b)) J<|?_;exact rz J J
def asI{l:ab}{x y:Tr}(ihx:PF GB prog 43 [eT x] (eT x.compl))(ihy:PF GB prog 43 [eT y] (eT y.compl)):PF GB prog 43 [eT (.node l x y)] (eT (Tr.compl (.node l x y))):=by
 refine fn (fu:=⟨11⟩) func43 J J ntmps43 J J (fun C=>?_);refine ck J J J<|cl J ihx J<|cl (fu:=⟨1⟩) J ihy J<|Ff J J<|?_;exact rz J J
def od: ∀{t:Tr},PF GB prog 43 [eT t] (eT t.compl)
 | .leaf _=>TX
 | .node _ _ _=>asI od od
def ama{op:Int}{b:Bool}{u:Tr}{c:List ab}(hu:u.all LB)(huo:u.all ab.ok)(hc: ∀m∈c,LB m)(hok: ∀m∈c,m.ok)(hn:c.length+u.depth<=900):PF GB prog 18 [vI op,eT (.leaf b),eT u, .sl (c.map eL)] (eT (Tr.mergeL op (.leaf b) u c)):=by
 refine fn (fu:=⟨11⟩) func18 J J ntmps18 J J (fun C=>?_);refine cB J J J<|cl J (BO (t:=u) (c:=c) hu huo hc hok hn) J<|?_;refine cs 20 J J J (fun hg20=>?_) (fun hg20=>?_)
 .
  refine bb J J J (fun hc17=>?_) (fun hc17=>?_)
  .
   refine cl J (wP (p:=true)) J<|?_;exact rz J (by show eT _=eT _;congr 1;rw[Tr.mergeL];unfold Tr.chooseL;(repeat' split)<;>first|rfl|(exfalso;simp_all;done)|(exfalso;omega))
  .
   refine cs 30 J J J (fun hg30=>?_) (fun hg30=>?_)
   .
    refine bb J J J (fun hc27=>?_) (fun hc27=>?_)
    .
     refine cl J (wP (p:=false)) J<|?_;exact rz J (by show eT _=eT _;congr 1;rw[Tr.mergeL];unfold Tr.chooseL;(repeat' split)<;>first|rfl|(exfalso;simp_all;done)|(exfalso;omega))
    .
     refine cs 45 J J J (fun hg45=>?_) (fun hg45=>?_)
     .
      refine bb J J J (fun hc42=>?_) (fun hc42=>?_)
      .
       refine cl J od J<|?_;exact rz J (by show eT _=eT _;congr 1;rw[Tr.mergeL];unfold Tr.chooseL;(repeat' split)<;>first|rfl|(exfalso;simp_all;done)|(exfalso;omega))
      .
       exact rz J (by show eT _=eT _;congr 1;rw[Tr.mergeL];unfold Tr.chooseL;(repeat' split)<;>first|rfl|(exfalso;simp_all;done)|(exfalso;omega))
     .
      refine cs 49 J J J (fun hg49=>?_) (fun hg49=>?_)
      .
       refine bb J J J (fun hc42=>?_) (fun hc42=>?_)
       .
        refine cl J od J<|?_;exact rz J (by show eT _=eT _;congr 1;rw[Tr.mergeL];unfold Tr.chooseL;(repeat' split)<;>first|rfl|(exfalso;simp_all;done)|(exfalso;omega))
       .
        exact rz J (by show eT _=eT _;congr 1;rw[Tr.mergeL];unfold Tr.chooseL;(repeat' split)<;>first|rfl|(exfalso;simp_all;done)|(exfalso;omega))
      .
       exact rz J (by show eT _=eT _;congr 1;rw[Tr.mergeL];unfold Tr.chooseL;(repeat' split)<;>first|rfl|(exfalso;simp_all;done)|(exfalso;omega))
   .
    refine cs 34 J J J (fun hg34=>?_) (fun hg34=>?_)
    .
     refine bb J J J (fun hc27=>?_) (fun hc27=>?_)
     .
      refine cl J (wP (p:=false)) J<|?_;exact rz J (by show eT _=eT _;congr 1;rw[Tr.mergeL];unfold Tr.chooseL;(repeat' split)<;>first|rfl|(exfalso;simp_all;done)|(exfalso;omega))
     .
      refine cs 45 J J J (fun hg45=>?_) (fun hg45=>?_)
      .
       refine bb J J J (fun hc42=>?_) (fun hc42=>?_)
       .
        refine cl J od J<|?_;exact rz J (by show eT _=eT _;congr 1;rw[Tr.mergeL];unfold Tr.chooseL;(repeat' split)<;>first|rfl|(exfalso;simp_all;done)|(exfalso;omega))
       .
        exact rz J (by show eT _=eT _;congr 1;rw[Tr.mergeL];unfold Tr.chooseL;(repeat' split)<;>first|rfl|(exfalso;simp_all;done)|(exfalso;omega))
      .
       refine cs 49 J J J (fun hg49=>?_) (fun hg49=>?_)
       .
        refine bb J J J (fun hc42=>?_) (fun hc42=>?_)
        .
         refine cl J od J<|?_;exact rz J (by show eT _=eT _;congr 1;rw[Tr.mergeL];unfold Tr.chooseL;(repeat' split)<;>first|rfl|(exfalso;simp_all;done)|(exfalso;omega))
        .
         exact rz J (by show eT _=eT _;congr 1;rw[Tr.mergeL];unfold Tr.chooseL;(repeat' split)<;>first|rfl|(exfalso;simp_all;done)|(exfalso;omega))
       .
        exact rz J (by show eT _=eT _;congr 1;rw[Tr.mergeL];unfold Tr.chooseL;(repeat' split)<;>first|rfl|(exfalso;simp_all;done)|(exfalso;omega))
    .
     refine cs 45 J J J (fun hg45=>?_) (fun hg45=>?_)
     .
      refine bb J J J (fun hc42=>?_) (fun hc42=>?_)
      .
       refine cl J od J<|?_;exact rz J (by show eT _=eT _;congr 1;rw[Tr.mergeL];unfold Tr.chooseL;(repeat' split)<;>first|rfl|(exfalso;simp_all;done)|(exfalso;omega))
      .
       exact rz J (by show eT _=eT _;congr 1;rw[Tr.mergeL];unfold Tr.chooseL;(repeat' split)<;>first|rfl|(exfalso;simp_all;done)|(exfalso;omega))
     .
      refine cs 49 J J J (fun hg49=>?_) (fun hg49=>?_)
      .
       refine bb J J J (fun hc42=>?_) (fun hc42=>?_)
       .
        refine cl J od J<|?_;exact rz J (by show eT _=eT _;congr 1;rw[Tr.mergeL];unfold Tr.chooseL;(repeat' split)<;>first|rfl|(exfalso;simp_all;done)|(exfalso;omega))
       .
        exact rz J (by show eT _=eT _;congr 1;rw[Tr.mergeL];unfold Tr.chooseL;(repeat' split)<;>first|rfl|(exfalso;simp_all;done)|(exfalso;omega))
      .
       exact rz J (by show eT _=eT _;congr 1;rw[Tr.mergeL];unfold Tr.chooseL;(repeat' split)<;>first|rfl|(exfalso;simp_all;done)|(exfalso;omega))
 .
  refine cs 30 J J J (fun hg30=>?_) (fun hg30=>?_)
  .
   refine bb J J J (fun hc27=>?_) (fun hc27=>?_)
   .
    refine cl J (wP (p:=false)) J<|?_;exact rz J (by show eT _=eT _;congr 1;rw[Tr.mergeL];unfold Tr.chooseL;(repeat' split)<;>first|rfl|(exfalso;simp_all;done)|(exfalso;omega))
   .
    refine cs 45 J J J (fun hg45=>?_) (fun hg45=>?_)
    .
     refine bb J J J (fun hc42=>?_) (fun hc42=>?_)
     .
      refine cl J od J<|?_;exact rz J (by show eT _=eT _;congr 1;rw[Tr.mergeL];unfold Tr.chooseL;(repeat' split)<;>first|rfl|(exfalso;simp_all;done)|(exfalso;omega))
     .
      exact rz J (by show eT _=eT _;congr 1;rw[Tr.mergeL];unfold Tr.chooseL;(repeat' split)<;>first|rfl|(exfalso;simp_all;done)|(exfalso;omega))
    .
     refine cs 49 J J J (fun hg49=>?_) (fun hg49=>?_)
     .
      refine bb J J J (fun hc42=>?_) (fun hc42=>?_)
      .
       refine cl J od J<|?_;exact rz J (by show eT _=eT _;congr 1;rw[Tr.mergeL];unfold Tr.chooseL;(repeat' split)<;>first|rfl|(exfalso;simp_all;done)|(exfalso;omega))
      .
       exact rz J (by show eT _=eT _;congr 1;rw[Tr.mergeL];unfold Tr.chooseL;(repeat' split)<;>first|rfl|(exfalso;simp_all;done)|(exfalso;omega))
     .
      exact rz J (by show eT _=eT _;congr 1;rw[Tr.mergeL];unfold Tr.chooseL;(repeat' split)<;>first|rfl|(exfalso;simp_all;done)|(exfalso;omega))
  .
   refine cs 34 J J J (fun hg34=>?_) (fun hg34=>?_)
   .
    refine bb J J J (fun hc27=>?_) (fun hc27=>?_)
    .
     refine cl J (wP (p:=false)) J<|?_;exact rz J (by show eT _=eT _;congr 1;rw[Tr.mergeL];unfold Tr.chooseL;(repeat' split)<;>first|rfl|(exfalso;simp_all;done)|(exfalso;omega))
    .
     refine cs 45 J J J (fun hg45=>?_) (fun hg45=>?_)
     .
      refine bb J J J (fun hc42=>?_) (fun hc42=>?_)
      .
       refine cl J od J<|?_;exact rz J (by show eT _=eT _;congr 1;rw[Tr.mergeL];unfold Tr.chooseL;(repeat' split)<;>first|rfl|(exfalso;simp_all;done)|(exfalso;omega))
      .
       exact rz J (by show eT _=eT _;congr 1;rw[Tr.mergeL];unfold Tr.chooseL;(repeat' split)<;>first|rfl|(exfalso;simp_all;done)|(exfalso;omega))
     .
      refine cs 49 J J J (fun hg49=>?_) (fun hg49=>?_)
      .
       refine bb J J J (fun hc42=>?_) (fun hc42=>?_)
       .
        refine cl J od J<|?_;exact rz J (by show eT _=eT _;congr 1;rw[Tr.mergeL];unfold Tr.chooseL;(repeat' split)<;>first|rfl|(exfalso;simp_all;done)|(exfalso;omega))
       .
        exact rz J (by show eT _=eT _;congr 1;rw[Tr.mergeL];unfold Tr.chooseL;(repeat' split)<;>first|rfl|(exfalso;simp_all;done)|(exfalso;omega))
      .
       exact rz J (by show eT _=eT _;congr 1;rw[Tr.mergeL];unfold Tr.chooseL;(repeat' split)<;>first|rfl|(exfalso;simp_all;done)|(exfalso;omega))
   .
    refine cs 45 J J J (fun hg45=>?_) (fun hg45=>?_)
    .
     refine bb J J J (fun hc42=>?_) (fun hc42=>?_)
     .
      refine cl J od J<|?_;exact rz J (by show eT _=eT _;congr 1;rw[Tr.mergeL];unfold Tr.chooseL;(repeat' split)<;>first|rfl|(exfalso;simp_all;done)|(exfalso;omega))
     .
      exact rz J (by show eT _=eT _;congr 1;rw[Tr.mergeL];unfold Tr.chooseL;(repeat' split)<;>first|rfl|(exfalso;simp_all;done)|(exfalso;omega))
    .
     refine cs 49 J J J (fun hg49=>?_) (fun hg49=>?_)
     .
      refine bb J J J (fun hc42=>?_) (fun hc42=>?_)
      .
       refine cl J od J<|?_;exact rz J (by show eT _=eT _;congr 1;rw[Tr.mergeL];unfold Tr.chooseL;(repeat' split)<;>first|rfl|(exfalso;simp_all;done)|(exfalso;omega))
      .
       exact rz J (by show eT _=eT _;congr 1;rw[Tr.mergeL];unfold Tr.chooseL;(repeat' split)<;>first|rfl|(exfalso;simp_all;done)|(exfalso;omega))
     .
      exact rz J (by show eT _=eT _;congr 1;rw[Tr.mergeL];unfold Tr.chooseL;(repeat' split)<;>first|rfl|(exfalso;simp_all;done)|(exfalso;omega))
def al9{op:Int}{l:ab}{x y u:Tr}{c:List ab}(hl:LB l)(hlo:l.ok)(hc: ∀m∈c,LB m)(hok: ∀m∈c,m.ok)(hn:c.length+(Tr.node l x y).depth+u.depth<=900)(ihx: ∀{c:List ab},(∀m∈c,LB m)->(∀m∈c,m.ok)->c.length+x.depth+u.depth<=900->PF GB prog 18 [vI op,eT x,eT u, .sl (c.map eL)] (eT (Tr.mergeL op x u c)))(ihy: ∀{c:List ab},(∀m∈c,LB m)->(∀m∈c,m.ok)->c.length+y.depth+u.depth<=900->PF GB prog 18 [vI op,eT y,eT u, .sl (c.map eL)] (eT (Tr.mergeL op y u c))):PF GB prog 18 [vI op,eT (.node l x y),eT u, .sl (c.map eL)] (eT (Tr.mergeL op (.node l x y) u c)):=by
 have hdp:(Tr.node l x y).depth=1+Nat.max x.depth y.depth:=J;have hdx:x.depth<=Nat.max x.depth y.depth:=rX _ _;have hdy:y.depth<=Nat.max x.depth y.depth:=qK _ _;have hca:=Ct (c++[l]);have hcb:=Ct (c++[l.rev]);rw[aW,gU] at hca hcb;refine fn (fu:=⟨11⟩) func18 J J ntmps18 J J (fun C=>?_);refine ck J J J<|cl J (MQ (c:=c) (l:=l) hc hok (by omega) hl hlo) J<|?_;refine br J J J (fun hc64=>?_) (fun hc64=>?_)
 .
  refine cl J (ihx hc hok (by omega)) J<|?_;exact rz J (by rw[Tr.mergeL,if_pos hc64];rfl)
 .
  refine br J J J (fun hc74=>?_) (fun hc74=>?_)
  .
   refine cl J (ihy hc hok (by omega)) J<|?_;exact rz J (by rw[Tr.mergeL,if_neg hc64,if_pos hc74];rfl)
  .
   refine cl J (Ei (c:=c) (l:=l) hc hok (by omega) hl hlo) J<|cl J (ihx (c:=fj (c++[l])) (CB (tD hc hl)) (CQ (iO hok hlo)) (by omega)) J<|?_;refine cl J (xY (l:=l)) J<|cl J (Ei (c:=c) (l:=l.rev) hc hok (by omega) hl.rev hlo.rev) J<|cl J (ihy (c:=fj (c++[l.rev])) (CB (tD hc hl.rev)) (CQ (iO hok hlo.rev)) (by omega)) J<|?_;refine cl J LM J<|?_;exact rz J (by rw[Tr.mergeL,if_neg hc64,if_neg hc74];rfl)
def Jh{op:Int}{u:Tr}(hu:u.all LB)(huo:u.all ab.ok): ∀{t:Tr} {c:List ab},t.all LB->t.all ab.ok->(∀m∈c,LB m)->(∀m∈c,m.ok)->c.length+t.depth+u.depth<=900->PF GB prog 18 [vI op,eT t,eT u, .sl (c.map eL)] (eT (Tr.mergeL op t u c))
 | .leaf _,_,_,_,hc,hok,hn=>ama hu huo hc hok (cY (Nat.add_le_add_right (nY _ _) _) hn)
 | .node l x y,c,hb,ho,hc,hok,hn=>al9 hb.1 ho.1 hc hok hn (fun h1 h2 h3=>Jh hu huo hb.2.1 ho.2.1 h1 h2 h3) (fun h1 h2 h3=>Jh hu huo hb.2.2 ho.2.2 h1 h2 h3)
end Go.Sx
end
