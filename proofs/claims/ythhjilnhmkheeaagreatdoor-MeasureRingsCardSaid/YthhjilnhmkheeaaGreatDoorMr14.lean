import Derived.Test.YthhjilnhmkheeaaGreatDoorMr13
set_option linter.all false
set_option maxHeartbeats 4000000
set_option maxRecDepth 100000
section
namespace Go.Sx
open Go Go.Proofs Tryz
def aK4(a b:Bool):eV ⟨0,0,a,b⟩= .ag [.v (.bool false), .sl [], .sl [], .v (.bool false), .sl [], .sl [], .v (.bool a), .v (.bool b)]:=by
 unfold eV dD;simp only[show(0:Rat).num=0 from J,show(0:Rat).den=1 from J,kY,me];rfl
def Ui(t:Rat)(a b:Bool):eV ⟨t,0,a,b⟩= .ag [.v (.bool (decide (t.num<0))),dN t.num.natAbs,dD t.den, .v (.bool false), .sl [], .sl [], .v (.bool a), .v (.bool b)]:=by
 unfold eV dD;simp only[show(0:Rat).num=0 from J,show(0:Rat).den=1 from J,kY,me];rfl
def X1(t:Rat)(a b:Bool):eV ⟨0,t,a,b⟩= .ag [.v (.bool false), .sl [], .sl [], .v (.bool (decide (t.num<0))),dN t.num.natAbs,dD t.den, .v (.bool a), .v (.bool b)]:=by
 unfold eV dD;simp only[show(0:Rat).num=0 from J,show(0:Rat).den=1 from J,kY,me];rfl
def WC{cuts:List Rat}{i:Nat}(h:i=0)(k: ¬i<cuts.length):eE cuts i=⟨0,0,decide (i=0),decide (i=cuts.length)⟩:=by unfold eE;rw[if_pos h,if_neg k]
def WE{cuts:List Rat}{i:Nat}{y:Rat}(h:i=0)(k:cuts[i]? =some y):eE cuts i=⟨0,y,decide (i=0),decide (i=cuts.length)⟩:=by
 unfold eE;rw[if_pos h,if_pos (bQ.1 k).1,aJ,k];rfl
def aGc{cuts:List Rat}{i:Nat}{x:Rat}(h: ¬i=0)(k:cuts[i-1]? =some x)(k2: ¬i<cuts.length):eE cuts i=⟨x,0,decide (i=0),decide (i=cuts.length)⟩:=by
 unfold eE;rw[if_neg h,if_neg k2,aJ,k];rfl
def aD8{cuts:List Rat}{i:Nat}{x y:Rat}(h: ¬i=0)(k:cuts[i-1]? =some x)(k2:cuts[i]? =some y):eE cuts i=⟨x,y,decide (i=0),decide (i=cuts.length)⟩:=by
 unfold eE;rw[if_neg h,if_pos (bQ.1 k2).1,aJ,k,aJ,k2];rfl
def azb{cuts:List Rat}{marks:List Bool}{k:Nat}(h:marks[k]? =some false):gz cuts marks (k+1)=gz cuts marks k:=by
 rw[gz,aJ,h];rfl
def D5{cuts:List Rat}{marks:List Bool}{k:Nat}(h:marks[k]? =some true)(hp: ¬(0<k/\marks[k-1]? =some true)):gz cuts marks (k+1)=gz cuts marks k++[eE cuts k]:=by
 rw[gz,aJ,h];show(if 0<k/\_ then _ else _)=_;rw[if_neg];rintro ⟨h1,h2⟩;rw[aJ] at h2
 cases e:marks[k-1]? with
 |none=>rw[e] at h2;cases h2
 |some b=>rw[e] at h2;exact hp ⟨h1,by rw[e];simp at h2;rw[h2]⟩
def RT{cuts:List Rat}{marks:List Bool}{k:Nat}(h:marks[k]? =some true):gz cuts marks (k+1)≠[]:=by
 rw[gz,aJ,h];show(if 0<k/\_ then _ else _)≠[];split
 .split<;>simp
 .simp
def Nd{cuts:List Rat}{marks:List Bool}{k:Nat}{xs:List ai}{v:ai}(hk:0<k)(h:marks[k]? =some true)(hp:marks[k-1]? =some true)(hx:gz cuts marks k=xs)(hv:xs[xs.length-1]? =some v):gz cuts marks (k+1)=xs.set (xs.length-1) (wj v (eE cuts k)):=by
 rw[gz,aJ,h];show(if 0<k/\_ then _ else _)=_;rw[if_pos ⟨hk,by rw[aJ,hp];rfl⟩,hx,lM,hv];have hn:0<xs.length:=by
  have:=(bQ.1 hv).1;omega
 show xs.dropLast++[_]=_;apply kZ;intro i;rw[pM];by_cases hi:i<xs.length-1
 .rw[dY (by rw[iV];exact hi),rR,if_pos hi,if_neg we]
 .by_cases hi2:i=xs.length-1
  .subst hi2
   rw[fL (by rw[iV];exact bV _),iV,tJ,if_pos J,if_pos we];rfl
  .rw[eJ (by rw[aR,iV];simp;omega),if_neg we,eJ we]
def zY{α:Type}{f:α->DV}{l:List α}{k:Nat}{x:α}(hk:0<k)(h:l[k-1]? =some x):(l.map f)[(((k:Nat):Int)-1).toNat]? =some (f x):=by
 rw[show(((k:Nat):Int)-1).toNat=k-1 by omega,cV,h];rfl
def tM{k n:Nat}:decide (k=n)=decide (((k:Nat):Int)=((n:Nat):Int)):=decide_eq_decide.2 we
theorem omK{p:Prop}(h:p:=by dsimp only;exact⟨⟨by rw[D5 hz hnp,<-h1],we⟩,we⟩):p:=h
theorem omL{p:Prop}(h:p:=by rw[show(((xs.length:Nat):Int)-1).toNat=xs.length-1 by omega,kJ,List.set_set,kJ,hgap];unfold wj;dsimp only;rw[tM (k:=k) (n:=cuts.length)]<;>rfl):p:=h
theorem oka{p:Prop}(h:p:=by rw[hmc]<;>rfl):p:=h
theorem okm{p:Prop}(h:p:=by rw[show(((xs.length:Nat):Int)-1).toNat=xs.length-1 by omega,kJ,pY (by rw[hml];omega)]):p:=h
theorem okV{p:Prop}(h:p:=by dsimp only;exact⟨⟨(Nd we hz hpb' h1.symm hw).symm,we⟩,we⟩):p:=h
def Xr{GB:Gh}{cuts:List Rat}{marks:List Bool}(hn:cuts.length<=100000)(hmk:marks.length<=cuts.length+1):PF GB prog 121 [.sl (cuts.map eQ), .sl (marks.map vB)] (.sl ((wo cuts marks).map eV)):=by
 have hm:=ik vB marks;have hmc:=ik eQ cuts;refine fn (fu:=⟨15⟩) func121 J J ntmps121 J J (fun C=>?_);refine ah 11 (.d (vI (marks.length:Nat))) J omu<|gx J<|nr 5 5 85 8 J J J<|lp (X:=List ai×Nat) (fun⟨xs,k⟩=>[(12, .d (vI (k:Nat))),(5, .rw 5)]) (fun⟨xs,k⟩=>[(5,some (.b 85 8 (xs.map eV) true))]) (fun⟨xs,k⟩=>xs=gz cuts marks k/\k<=marks.length) (fun⟨xs,k⟩=>marks.length-k) ([],0) J ⟨J,bS _⟩ (fun _=>J) (fun⟨xs,k⟩ hk=>?_);dsimp only at hk⊢;obtain⟨h1,h2⟩:=hk;have hml:=ik eV xs;have hxl:xs.length<=k:=by rw[h1];exact F1
 refine br J J J (fun hc13=>?_) (fun hc13=>?_)
 .
  obtain⟨b,hz⟩: ∃s,marks[k]? =some s:=⟨_,aZ we⟩;refine ix (fu:=⟨8⟩) _ J (dP hz) J<|?_
  cases b
  .
   refine ew (fu:=⟨12⟩) J J J<|at_ (xs,k+1) (by dsimp only;exact⟨⟨by rw[azb hz,<-h1],we⟩,we⟩)
  .
   refine d9 (fu:=⟨13⟩) J J J<|?_;rcases(show(k=0/\k<cuts.length)\/(k=0/\ ¬k<cuts.length)\/(0<k/\k<cuts.length)\/(0<k/\ ¬k<cuts.length) by omega) with⟨c1,c2⟩|⟨c1,c2⟩|⟨c1,c2⟩|⟨c1,c2⟩
   .
    obtain⟨y,hy⟩: ∃s,cuts[k]? =some s:=⟨_,aZ we⟩;have hgap:=WE (cuts:=cuts) (i:=k) c1 hy;have hnp: ¬(0<k/\marks[k-1]? =some true):=fun e=>by omega
    refine ah 23 (.d (vI (cuts.length:Nat))) J oka<|gx (fu:=⟨10⟩) J<|ew (fu:=⟨11⟩) J (omh we) J<|ah 36 (.d (vI (cuts.length:Nat))) J oka<|gx (fu:=⟨0⟩) J<|d9 J (omg we) J<|ix (fu:=⟨10⟩) _ J (dP hy) J<|ah 44 (.d (vI (xs.length:Nat))) J omr<|gx (fu:=⟨6⟩) J<|ew (fu:=⟨19⟩) J (omh we) J<|ah 73 (.d (eV (eE cuts k))) J (by rw[hgap,X1,tM (k:=k) (n:=0),tM (k:=k) (n:=cuts.length)]<;>rfl)<|gx J<|rf J J<|ap (fu:=⟨12⟩) ((xs++[eE cuts k]).map eV) J omO (ym [eE cuts k]) J<|iE 75 5 J<|at_ (xs++[eE cuts k],k+1) omK
   .
    have hgap:=WC (cuts:=cuts) (i:=k) c1 c2;have hnp: ¬(0<k/\marks[k-1]? =some true):=fun e=>by omega
    refine ah 23 (.d (vI (cuts.length:Nat))) J oka<|gx (fu:=⟨10⟩) J<|ew (fu:=⟨11⟩) J (omh we) J<|ah 36 (.d (vI (cuts.length:Nat))) J oka<|gx (fu:=⟨0⟩) J<|ew (fu:=⟨10⟩) J (omh we) J<|ah 44 (.d (vI (xs.length:Nat))) J omr<|gx (fu:=⟨6⟩) J<|ew (fu:=⟨19⟩) J (omh we) J<|ah 73 (.d (eV (eE cuts k))) J (by rw[hgap,aK4,tM (k:=k) (n:=0),tM (k:=k) (n:=cuts.length)]<;>rfl)<|gx J<|rf J J<|ap (fu:=⟨12⟩) ((xs++[eE cuts k]).map eV) J omO (ym [eE cuts k]) J<|iE 75 5 J<|at_ (xs++[eE cuts k],k+1) omK
   .
    obtain⟨x,hx⟩: ∃s,cuts[k-1]? =some s:=⟨_,aZ we⟩;obtain⟨pb,hpb⟩: ∃s,marks[k-1]? =some s:=⟨_,aZ we⟩;obtain⟨y,hy⟩: ∃s,cuts[k]? =some s:=⟨_,aZ we⟩;have hgap:=aD8 (cuts:=cuts) (i:=k) we hx hy;refine ah 23 (.d (vI (cuts.length:Nat))) J oka<|gx (fu:=⟨10⟩) J<|d9 J (omg we) J<|ix (fu:=⟨11⟩) _ J (zY we hx) J<|ah 36 (.d (vI (cuts.length:Nat))) J oka<|gx (fu:=⟨0⟩) J<|d9 J (omg we) J<|ix (fu:=⟨10⟩) _ J (dP hy) J<|ah 44 (.d (vI (xs.length:Nat))) J omr<|gx (fu:=⟨6⟩) J<|d9 J (omg we) J<|ix _ J (zY we hpb) J<|j' (fu1:=⟨1⟩) (fu2:=⟨11⟩) 54 J J J (fun hg54=>?_) (fun hg54=>?_)
    .
     have hpb':marks[k-1]? =some true:=by rw[hpb];congr 1
     have hxn:0<xs.length:=by rw[h1];have:=RT (cuts:=cuts) hpb';rw[show k-1+1=k by omega] at this;exact mR.2 this
     obtain⟨w,hw⟩: ∃s,xs[xs.length-1]? =some s:=⟨_,aZ we⟩;refine d9 J (omg we) J<|sb (eV w) ((xs.set (xs.length-1) (⟨w.lo,y,w.nl,w.nh⟩:ai)).map eV) J (zY hxn hw) J (by rw[show(((xs.length:Nat):Int)-1).toNat=xs.length-1 by omega,kJ];rfl) J<|sb (hv:=by simp only[ae];exact⟨omd,we⟩) (eV (⟨w.lo,y,w.nl,w.nh⟩:ai)) ((xs.set (xs.length-1) (wj w (eE cuts k))).map eV) J okm J omL J<|?_;exact at_ (xs.set (xs.length-1) (wj w (eE cuts k)),k+1) okV
    .
     have hnp: ¬(0<k/\marks[k-1]? =some true):=fun e=>by rw[hpb,hg54] at e;simpa using e.2
     refine ah 73 (.d (eV (eE cuts k))) J (by rw[hgap];unfold eV;dsimp only;rw[tM (k:=k) (n:=0),tM (k:=k) (n:=cuts.length)]<;>rfl)<|gx J<|rf J J<|ap (fu:=⟨12⟩) ((xs++[eE cuts k]).map eV) J omO (ym [eE cuts k]) J<|iE 75 5 J<|at_ (xs++[eE cuts k],k+1) omK
   .
    obtain⟨x,hx⟩: ∃s,cuts[k-1]? =some s:=⟨_,aZ we⟩;obtain⟨pb,hpb⟩: ∃s,marks[k-1]? =some s:=⟨_,aZ we⟩;have hgap:=aGc (cuts:=cuts) (i:=k) we hx c2;refine ah 23 (.d (vI (cuts.length:Nat))) J oka<|gx (fu:=⟨10⟩) J<|d9 J (omg we) J<|ix (fu:=⟨11⟩) _ J (zY we hx) J<|ah 36 (.d (vI (cuts.length:Nat))) J oka<|gx (fu:=⟨0⟩) J<|ew (fu:=⟨10⟩) J (omh we) J<|ah 44 (.d (vI (xs.length:Nat))) J omr<|gx (fu:=⟨6⟩) J<|d9 J (omg we) J<|ix _ J (zY we hpb) J<|j' (fu1:=⟨1⟩) (fu2:=⟨11⟩) 54 J J J (fun hg54=>?_) (fun hg54=>?_)
    .
     have hpb':marks[k-1]? =some true:=by rw[hpb];congr 1
     have hxn:0<xs.length:=by rw[h1];have:=RT (cuts:=cuts) hpb';rw[show k-1+1=k by omega] at this;exact mR.2 this
     obtain⟨w,hw⟩: ∃s,xs[xs.length-1]? =some s:=⟨_,aZ we⟩;refine d9 J (omg we) J<|sb (eV w) ((xs.set (xs.length-1) (⟨w.lo,0,w.nl,w.nh⟩:ai)).map eV) J (zY hxn hw) J (by rw[show(((xs.length:Nat):Int)-1).toNat=xs.length-1 by omega,kJ,Ui];rfl) J<|sb (hv:=by simp only[ae];exact⟨omd,we⟩) (eV (⟨w.lo,0,w.nl,w.nh⟩:ai)) ((xs.set (xs.length-1) (wj w (eE cuts k))).map eV) J okm J omL J<|?_;exact at_ (xs.set (xs.length-1) (wj w (eE cuts k)),k+1) okV
    .
     have hnp: ¬(0<k/\marks[k-1]? =some true):=fun e=>by rw[hpb,hg54] at e;simpa using e.2
     refine ah 73 (.d (eV (eE cuts k))) J (by rw[hgap,Ui,tM (k:=k) (n:=0),tM (k:=k) (n:=cuts.length)]<;>rfl)<|gx J<|rf J J<|ap ((xs++[eE cuts k]).map eV) J omO (ym [eE cuts k]) J<|iE 75 5 J<|at_ (xs++[eE cuts k],k+1) omK
 .
  have hfin:wo cuts marks=xs:=by rw[h1,wo,show k=marks.length by omega]
  refine jd 5 J<|rz J omV
def Nn{g:Rat}: ∀{l:List Rat},g∈jn l-> ∃a∈l,∃b∈l,g=(a+b)/2
 |[],h=>by cases h
 |[_],h=>by cases h
 |a::b::t,h=>by
  rw[jn] at h;rcases aW.1 h with rfl|h
  .exact⟨a,aQ,b,aX _ aQ,J⟩
  .obtain⟨c,hc,d,hd,e⟩:=Nn h
   exact⟨c,aX _ hc,d,aX _ hd,e⟩
theorem VX{l:List Rat}(h: ∀q∈l,BQ q 1200): ∀g∈gt l,BQ g 2500:=fun g hg=>by
 cases l with
 |nil=>
  rw[gt,aV] at hg;subst hg;exact BQ.mono (k:=1) ⟨oma,oma⟩
 |cons a t=>
  rw[gt] at hg;rcases aW.1 hg with rfl|hg
  .haveI:=h a aQ
   exact BQ.mono (inferInstance:BQ (a-1) _) we
  .rcases bJ.1 hg with hg|hg
   .obtain⟨c,hc,d,hd,rfl⟩:=Nn hg
    haveI:=h c hc;haveI:=h d hd;exact BQ.mono (inferInstance:BQ ((c+d)/2) _) we
   .rw[aV] at hg
    haveI:=h _ (List.getLast_mem (l:=a::t) omc);subst hg;exact BQ.mono (inferInstance:BQ ((a::t).getLast omc+1) _) we
def LC(l:List ai):rm l l.length=iI l:=by unfold rm;rw[dV]
theorem az8{l:List ai}(h: ∀v∈l,nn v): ∀y∈iI l,BQ y 1200:=by rw[<-LC];exact NC h
def Kh(l:List ai):(iI l).length<=2*l.length:=by rw[<-LC];exact Dc l _
def nn.app{a b:List ai}(ha: ∀v∈a,nn v)(hb: ∀v∈b,nn v): ∀v∈a++b,nn v:=fun v hv=>(bJ.1 hv).elim (ha v) (hb v)
def GN{GB:Gh}{a b:List ai}(ha: ∀v∈a,nn v)(hb: ∀v∈b,nn v)(hna:a.length<=100)(hnb:b.length<=100):PF GB prog 67 [vI 2, .sl (a.map eV), .sl (b.map eV)] (.sl ((ke 2 a b).map eV)):=by
 obtain⟨cuts,hcu⟩: ∃c,c=iI (a++b):=⟨_,rfl⟩;have hab:=nn.app ha hb;have hcb: ∀q∈cuts,BQ q 1200:=by rw[hcu];exact az8 hab
 have hcl:cuts.length<=2*(a.length+b.length):=by rw[hcu];have:=Kh (a++b);rw[aR] at this;exact this
 have hgb:=VX hcb;have hgl:=A' (l:=cuts);have hmp:=ik eQ (gt cuts);refine fn func67 J J ntmps67 J J (fun C=>?_);refine tg J J<|ap (a.map eV) J J (ym _) J<|mH ((a++b).map eV) J (by rw[bL]) (ym b) J<|cl (fu:=⟨0⟩) J (Vv (l:=a++b) hab oks) J<|ah 19 (.d (.sl (cuts.map eQ))) J (by rw[hcu])<|gx J<|cl (fu:=⟨1⟩) J (aAJ (cuts:=cuts) hcb we) J<|ah 22 (.d (vI ((cuts.length+1:Nat):Int))) J (by rw[hmp,hgl]<;>rfl)<|gx J<|nr 8 8 4 1 J J J<|lp (X:=Nat) (fun k=>[(23, .d (vI (k:Nat))),(8, .rw 8)]) (fun k=>[(8,some (.b 4 1 ((((gt cuts).map (fun t=>o9 2 (gy a t) (gy b t))).take k).map vB) true))]) (fun k=>k<=cuts.length+1) (fun k=>cuts.length+1-k) 0 J (bS _) (fun _=>J) (fun k hk=>?_);have hml:(((((gt cuts).map (fun t=>o9 2 (gy a t) (gy b t))).take k).map vB)).length=k:=by rw[aK,cR,aK,hgl];omega
 refine br (fu2:=⟨0⟩) J J J (fun hc24=>?_) (fun hc24=>?_)
 .
  obtain⟨t,hz⟩: ∃s,(gt cuts)[k]? =some s:=⟨_,aZ we⟩;haveI:=hgb t (aT hz);have hz2:((gt cuts).map (fun t=>o9 2 (gy a t) (gy b t)))[k]? =some (o9 2 (gy a t) (gy b t)):=by rw[cV,hz];rfl
  refine ix _ J (dP hz) J<|cl J (OJ (l:=a) (t:=t) ha we) J<|cl (fu:=⟨6⟩) J (OJ (l:=b) (t:=t) hb we) J<|?_
  cases hx:gy a t
  .
   refine ew (fu:=⟨15⟩) J J J<|d9 (fu:=⟨5⟩) J J J<|ew J J J<|rf J J<|ap (fu:=⟨8⟩) ((((gt cuts).map (fun t=>o9 2 (gy a t) (gy b t))).take (k+1)).map vB) J (by rw[<-vv hz2,hx];rfl) (RW [false]) J<|iE 59 8 J<|at_ (k+1) ⟨we,we⟩
  .
   refine d9 (fu:=⟨15⟩) J J J<|d9 (fu:=⟨5⟩) J J J<|d9 J J J<|rf J J<|ap ((((gt cuts).map (fun t=>o9 2 (gy a t) (gy b t))).take (k+1)).map vB) J (by rw[<-vv hz2,hx];rfl) (RW [_]) J<|iE 59 8 J<|at_ (k+1) ⟨we,we⟩
 .
  obtain rfl:k=cuts.length+1:=by omega
  have htk:((gt cuts).map (fun t=>o9 2 (gy a t) (gy b t))).take (cuts.length+1)=(gt cuts).map (fun t=>o9 2 (gy a t) (gy b t)):=cZ (by rw[aK,hgl];exact bV _);rw[htk];refine vL 8 J<|gx J<|cl J (Xr (cuts:=cuts) (marks:=(gt cuts).map (fun t=>o9 2 (gy a t) (gy b t))) we (by rw[aK,hgl];exact bV _)) J<|rz J (by unfold ke;rw[<-hcu];rfl)
def ak(a b p:aa):Rat:=(b.x-a.x)*(p.y-a.y)-(b.y-a.y)*(p.x-a.x)
def d6(v w p:aa):Int:=(if v.y<=p.y/\ ¬w.y<=p.y/\0<ak v w p then 1 else 0)-(if¬v.y<=p.y/\w.y<=p.y/\ak v w p<0 then 1 else 0)
def pf(v w q p:aa):Prop:= ∀s t:Rat,0<=s->s<=1->0<=t->t<=1->aA v w s≠aA q p t
def vW{a b:Rat}(h0:0<=a)(h1:a<=b)(hb:0<b):0<=a/b/\a/b<=1/\a/b*b=a:=by
 have e:a/b*b=a:=by grind
 generalize a/b=q at*;refine⟨?_,?_,e⟩
 .exact(ja hb).1 (by rw[e];exact h0)
 .have:=(ja (s:=1-q) hb).1 omb
  grind
def aJe{q p x:aa}(hy:q.y<p.y)(h:ak q p x=0)(h1:q.y<=x.y)(h2:x.y<=p.y): ∃t,0<=t/\t<=1/\x=aA q p t:=by
 obtain⟨a1,a2,a3⟩:=vW (a:=x.y-q.y) (b:=p.y-q.y) omb omb omb;refine⟨_,a1,a2,?_⟩;generalize (x.y-q.y)/(p.y-q.y)=t at*;obtain⟨X,Y⟩:=x;unfold ak at h;unfold aA;simp only at*;have e:X=q.x+t*(p.x-q.x):=by
  have h3:(p.y-q.y)*(X-q.x)=(p.y-q.y)*(t*(p.x-q.x)):=by grind
  have h4:p.y-q.y≠0:=by grind
  have:=bX.1 (show(p.y-q.y)*(X-q.x-t*(p.x-q.x))=0 by grind);rcases this with h5|h5
  .exact absurd h5 h4
  .grind
 rw[e];congr 1;grind
def Np(q p v w:aa)(e:Rat):ak q p (aA v w e)=ak q p v+e*(ak q p w-ak q p v):=by
 unfold ak aA;grind
def D8(v w:aa)(a b e:Rat):aA (aA v w a) (aA v w b) e=aA v w (a+e*(b-a)):=by
 unfold aA;simp only[aa.mk.injEq];constructor<;>grind
def Fg(v w:aa)(e:Rat):(aA v w e).y=v.y+e*(w.y-v.y):=rfl
def IX{a b e lo hi:Rat}(h0:0<=e)(h1:e<=1)(ha:lo<=a)(hb:lo<=b)(ha2:a<=hi)(hb2:b<=hi):lo<=a+e*(b-a)/\a+e*(b-a)<=hi:=by
 have k1:=bz h0 (show 0<=b-lo by grind);have k2:=bz (show 0<=1-e by grind) (show 0<=a-lo by grind);have k3:=bz h0 (show 0<=hi-b by grind);have k4:=bz (show 0<=1-e by grind) (show 0<=hi-a by grind);constructor<;>grind
def axS{v w q p:aa}(hn:pf v w q p)(hy:q.y<p.y){a b:Rat}(a0:0<=a)(a1:a<=1)(b0:0<=b)(b1:b<=1)(ha:q.y<=(aA v w a).y/\(aA v w a).y<=p.y)(hb:q.y<=(aA v w b).y/\(aA v w b).y<=p.y)(h:ak q p (aA v w a)<0):ak q p (aA v w b)<0:=by
 by_cases k:ak q p (aA v w b)<0
 .exact k
 .exfalso
  obtain⟨e0,e1,e2⟩:=vW (a:= -(ak q p (aA v w a))) (b:=ak q p (aA v w b)-ak q p (aA v w a)) omb omb omb;generalize-(ak q p (aA v w a))/(ak q p (aA v w b)-ak q p (aA v w a))=e at*;have hz:ak q p (aA v w (a+e*(b-a)))=0:=by rw[<-D8,Np];grind
  have hh:=IX e0 e1 ha.1 hb.1 ha.2 hb.2;rw[<-Fg,D8] at hh;obtain⟨t,t0,t1,ht⟩:=aJe hy hz hh.1 hh.2;have h01:=IX e0 e1 a0 b0 a1 b1;exact hn _ t h01.1 h01.2 t0 t1 ht
def VY{v w q p:aa}(hn:pf v w q p)(hy:q.y<p.y): ∃r:Bool,∀s,0<=s->s<=1->q.y<=(aA v w s).y->(aA v w s).y<=p.y->(ak q p (aA v w s)<0↔r=true):=by
 by_cases h: ∃s,0<=s/\s<=1/\(q.y<=(aA v w s).y/\(aA v w s).y<=p.y)/\ak q p (aA v w s)<0
 .obtain⟨s,s0,s1,s2,s3⟩:=h
  exact⟨true,fun t t0 t1 h1 h2=>⟨fun _=>J,fun _=>axS hn hy s0 s1 t0 t1 s2 ⟨h1,h2⟩ s3⟩⟩
 .exact⟨false,fun t t0 t1 h1 h2=>⟨fun k=>absurd ⟨t,t0,t1,⟨h1,h2⟩,k⟩ h,fun k=>by cases k⟩⟩
def Gw(v w:aa):aA v w 0=v:=by unfold aA;cases v;simp only[aa.mk.injEq];constructor<;>grind
def FO(v w:aa):aA v w 1=w:=by unfold aA;cases w;simp only[aa.mk.injEq];constructor<;>grind
def IY{v w:aa}{y:Rat}(h:(v.y<=y/\ ¬w.y<=y)\/(¬v.y<=y/\w.y<=y)): ∃s,0<=s/\s<=1/\(aA v w s).y=y:=by
 rcases h with⟨h1,h2⟩|⟨h1,h2⟩
 .obtain⟨a1,a2,a3⟩:=vW (a:=y-v.y) (b:=w.y-v.y) omb omb omb
  refine⟨_,a1,a2,?_⟩;rw[Fg];grind
 .obtain⟨a1,a2,a3⟩:=vW (a:=v.y-y) (b:=v.y-w.y) omb omb omb
  refine⟨_,a1,a2,?_⟩;rw[Fg];grind
def LF{v w p:aa}{s:Rat}(h:(aA v w s).y=p.y):ak v w p=(w.y-v.y)*((aA v w s).x-p.x):=by
 unfold ak;unfold aA at*;simp only at*;rw[<-h];grind
def tF{a b:Rat}(ha:0<a):0<a*b↔0<b:=by rw[Rat.mul_comm];exact gi ha
def I0{a b:Rat}(ha:a<0):a*b<0↔0<b:=by
 have:=tF (a:= -a) (b:=b) omb;constructor
 .intro h;exact this.1 omb
 .intro h;have:=this.2 h;grind
def bI(b:Prop)[Decidable b]:Int:=if b then 1 else 0
def wB{v w p:aa}{r:Prop}[Decidable r](h: ∀s,0<=s->s<=1->(aA v w s).y=p.y->(p.x<(aA v w s).x↔r)):d6 v w p=if r then bI (v.y<=p.y)-bI (w.y<=p.y) else 0:=by
 unfold d6 bI;by_cases h1:v.y<=p.y<;>by_cases h2:w.y<=p.y
 .simp[h1,h2]
 .obtain⟨s,s0,s1,s2⟩:=IY (.inl ⟨h1,h2⟩)
  have e:=LF s2;have k:=h s s0 s1 s2;have m:=tF (a:=w.y-v.y) (b:=(aA v w s).x-p.x) omb;rw[<-e] at m;have m2:0<ak v w p↔r:=by rw[m,<-k];grind
  simp only[h1,h2,m2];by_cases q:r<;>simp[q]
 .obtain⟨s,s0,s1,s2⟩:=IY (.inr ⟨h1,h2⟩)
  have e:=LF s2;have k:=h s s0 s1 s2;have m:=I0 (a:=w.y-v.y) (b:=(aA v w s).x-p.x) omb;rw[<-e] at m;have m2:ak v w p<0↔r:=by rw[m,<-k];grind
  simp only[h1,h2,m2];by_cases q:r<;>simp[q]
 .simp[h1,h2]
def ww(q p u:aa):Int:=if q.y<u.y/\u.y<=p.y/\ak q p u<0 then 1 else 0
def Rk{v w q p:aa}(hn:pf v w q p)(hy:q.y<p.y):d6 v w p-d6 v w q=ww q p v-ww q p w:=by
 obtain⟨r,hr⟩:=VY hn hy;have ep:=wB (v:=v) (w:=w) (p:=p) (r:=r=true) fun s s0 s1 s2=>by
  rw[<-hr s s0 s1 omb omb];have m:=tF (a:=p.y-q.y) (b:=(aA v w s).x-p.x) omb;have:ak q p (aA v w s)= -((p.y-q.y)*((aA v w s).x-p.x)):=by unfold ak;rw[s2];grind
  rw[this];generalize (p.y-q.y)*((aA v w s).x-p.x)=z at*;constructor
  .intro k;have:=m.2 omb;grind
  .intro k;have:=m.1 omb;grind
 have eq:=wB (v:=v) (w:=w) (p:=q) (r:=r=true) fun s s0 s1 s2=>by
  rw[<-hr s s0 s1 omb omb];have m:=tF (a:=p.y-q.y) (b:=(aA v w s).x-q.x) omb;have:ak q p (aA v w s)= -((p.y-q.y)*((aA v w s).x-q.x)):=by unfold ak;rw[s2];grind
  rw[this];generalize (p.y-q.y)*((aA v w s).x-q.x)=z at*;constructor
  .intro k;have:=m.2 omb;grind
  .intro k;have:=m.1 omb;grind
 have fv:ww q p v=if r=true then bI (v.y<=p.y)-bI (v.y<=q.y) else 0:=by
  have h:=hr 0 oma oma;rw[Gw] at h;unfold ww bI;by_cases h1:v.y<=p.y<;>by_cases h2:v.y<=q.y
  .have: ¬q.y<v.y:=by grind
   simp[h1,h2,this]
  .have h3:q.y<v.y:=by grind
   have:=h omb h1;simp only[h1,h2,h3,this];by_cases q:r=true<;>simp[q]
  .exfalso;grind
  .simp[h1,h2]
 have fw:ww q p w=if r=true then bI (w.y<=p.y)-bI (w.y<=q.y) else 0:=by
  have h:=hr 1 oma oma;rw[FO] at h;unfold ww bI;by_cases h1:w.y<=p.y<;>by_cases h2:w.y<=q.y
  .have: ¬q.y<w.y:=by grind
   simp[h1,h2,this]
  .have h3:q.y<w.y:=by grind
   have:=h omb h1;simp only[h1,h2,h3,this];by_cases q:r=true<;>simp[q]
  .exfalso;grind
  .simp[h1,h2]
 rw[ep,eq,fv,fw];by_cases q:r=true
 .simp only[if_pos q];omega
 .simp only[if_neg q]
def TE{v w q p:aa}(hn:pf v w q p)(hy:q.y=p.y):d6 v w p=d6 v w q:=by
 have key: ∀s,0<=s->s<=1->(aA v w s).y=p.y->(p.x<(aA v w s).x↔q.x<(aA v w s).x):=fun s s0 s1 s2=>by
  have no: ∀a b:Rat,a<=(aA v w s).x->(aA v w s).x<b->((a=q.x/\b=p.x)\/(a=p.x/\b=q.x))->False:=fun a b h1 h2 h3=>by
   obtain⟨a1,a2,a3⟩:=vW (a:=(aA v w s).x-a) (b:=b-a) omb omb omb;generalize ((aA v w s).x-a)/(b-a)=t at*;rcases h3 with⟨e1,e2⟩|⟨e1,e2⟩
   .refine hn s t s0 s1 a1 a2 ?_
    generalize hx:aA v w s=x at*;obtain⟨X,Y⟩:=x;unfold aA;simp only[aa.mk.injEq] at*;subst e1 e2;constructor<;>grind
   .refine hn s (1-t) s0 s1 omb omb ?_
    generalize hx:aA v w s=x at*;obtain⟨X,Y⟩:=x;unfold aA;simp only[aa.mk.injEq] at*;subst e1 e2;constructor<;>grind
  constructor
  .intro h
   by_cases k:q.x<(aA v w s).x
   .exact k
   .by_cases k2:(aA v w s).x=q.x
    .exfalso
     refine hn s 0 s0 s1 oma oma ?_;rw[Gw];generalize aA v w s=x at*;obtain⟨X,Y⟩:=x;obtain⟨A,B⟩:=q;simp only[aa.mk.injEq] at*;exact⟨k2,omb⟩
    .exact(no p.x q.x omb omb (.inr ⟨J,J⟩)).elim
  .intro h
   by_cases k:p.x<(aA v w s).x
   .exact k
   .by_cases k2:(aA v w s).x=p.x
    .exfalso
     refine hn s 1 s0 s1 oma oma ?_;rw[FO];generalize aA v w s=x at*;obtain⟨X,Y⟩:=x;obtain⟨A,B⟩:=p;simp only[aa.mk.injEq] at*;exact⟨k2,s2⟩
    .exact(no q.x p.x omb omb (.inl ⟨J,J⟩)).elim
 by_cases hc:(v.y<=p.y/\ ¬w.y<=p.y)\/(¬v.y<=p.y/\w.y<=p.y)
 .obtain⟨s,s0,s1,s2⟩:=IY hc
  have uq: ∀t,(aA v w t).y=p.y->t=s:=fun t ht=>by
   rw[Fg] at ht s2;have h4:w.y-v.y≠0:=by grind
   have:=bX.1 (show(w.y-v.y)*(t-s)=0 by grind);rcases this with h5|h5
   .exact absurd h5 h4
   .grind
  rw[wB (p:=p) (r:=p.x<(aA v w s).x) fun t _ _ ht=>by rw[uq t ht],wB (p:=q) (r:=p.x<(aA v w s).x) fun t _ _ ht=>by rw[uq t (by rw[ht,hy])];exact(key s s0 s1 s2).symm,hy]
 .unfold d6
  rw[hy];by_cases h1:v.y<=p.y<;>by_cases h2:w.y<=p.y<;>simp[h1,h2] at hc⊢
def aFm(q p:aa)(t:Rat):aA p q t=aA q p (1-t):=by unfold aA;simp only[aa.mk.injEq];constructor<;>grind
def pf.symm{v w q p:aa}(h:pf v w q p):pf v w p q:=fun s t s0 s1 t0 t1 e=>h s (1-t) s0 s1 omb omb (by rw[e,aFm])
def gp(r:List ZP)(p:aa):Nat->Int
 |0=>0
 |k+1=>gp r p k+d6 (r.getD k (0,0)).q (cj r k).q p
def xH(r:List ZP)(q p:aa):Prop:= ∀k,k<r.length->pf (r.getD k (0,0)).q (cj r k).q q p
def Lo{r:List ZP}{q p:aa}(h:xH r q p)(hy:q.y<p.y): ∀k,k<r.length->gp r p k-gp r q k=ww q p (r.getD 0 (0,0)).q-ww q p (r.getD k (0,0)).q
 |0,_=>by simp[gp]
 |k+1,hk=>by
  have ih:=Lo h hy k we;have e:=Rk (h k we) hy;rw[uh] at e;rw[gp,gp,uh];omega
def LM{r:List ZP}{q p:aa}(h:xH r q p)(hy:q.y<p.y):gp r p r.length=gp r q r.length:=by
 cases hr:r.length with
 |zero=>rfl
 |succ n=>
  have ih:=Lo h hy n we;have e:=Rk (h n we) hy;rw[uH] at e;rw[gp,gp,uH];omega
def Lu{r:List ZP}{q p:aa}(h:xH r q p)(hy:q.y=p.y): ∀k,k<=r.length->gp r p k=gp r q k
 |0,_=>rfl
 |k+1,hk=>by rw[gp,gp,Lu h hy k we,TE (h k we) hy]
def Wg{r:List ZP}{q p:aa}(h:xH r q p):gp r p r.length=gp r q r.length:=by
 by_cases h1:q.y<p.y
 .exact LM h h1
 .by_cases h2:p.y<q.y
  .exact(LM (fun k hk=>(h k hk).symm) h2).symm
  .exact Lu h omb _ (bV _)
def Nu(a b c:aa):tr a b c=(ak a b c).num.sign:=by
 unfold tr ak aa.cross av;congr 2;grind
def Hw(a b:Rat):bt a b<=0↔a<=b:=by
 have:=Fp a b;constructor
 .intro h
  by_cases q:b<a
  .have:=this.2 q;omega
  .grind
 .intro h
  by_cases q:0<bt a b
  .have:=this.1 q;grind
  .omega
def VJ(v w p:aa):rG v w p=d6 v w p:=by
 unfold rG d6;simp only[Nu,k9,oB,Hw]
def tf(r:List ZP)(p:aa): ∀k,pA r p k=gp r p k
 |0=>rfl
 |k+1=>by rw[pA,gp,tf r p k,VJ]
def KB{r:List ZP}{q p:aa}(h:xH r q p):cx r p=cx r q:=by
 unfold cx;rw[tf,tf,Wg h]
def Yo{v w p:aa}(h:v.y<=p.y)(k:w.y<=p.y):d6 v w p=0:=by unfold d6;simp[h,k]
def aIU{v w p:aa}(h:p.y<v.y)(k:p.y<w.y):d6 v w p=0:=by
 have h': ¬v.y<=p.y:=by grind
 have k': ¬w.y<=p.y:=by grind
 unfold d6;simp[h',k']
def Ga{v w p:aa}(r:Bool)(h1:p.x<v.x↔r=true)(h2:p.x<w.x↔r=true)(h3:v.x<p.x↔r=false)(h4:w.x<p.x↔r=false):d6 v w p=if r=true then bI (v.y<=p.y)-bI (w.y<=p.y) else 0:=by
 refine wB (r:=r=true) fun s s0 s1 _=>?_;have e:(aA v w s).x-p.x=(1-s)*(v.x-p.x)+s*(w.x-p.x):=by unfold aA;grind
 cases r with
 |true=>
  have a:=h1.2 J;have b:=h2.2 J;refine⟨fun _=>J,fun _=>?_⟩;by_cases q:s=0
  .subst q;grind
  .have k1:=bg (show 0<s by grind) (show 0<w.x-p.x by grind)
   have k2:=bz (show 0<=1-s by grind) (show 0<=v.x-p.x by grind);grind
 |false=>
  have a:=h3.2 J;have b:=h4.2 J;refine⟨fun k=>?_,fun k=>(by cases k)⟩;exfalso;have k1:=bz (show 0<=s by grind) (show 0<=p.x-w.x by grind);have k2:=bz (show 0<=1-s by grind) (show 0<=p.x-v.x by grind);grind
def Az(R:Rat)(p:aa):Prop:=p.x< -R\/R<p.x\/p.y< -R\/R<p.y
def aBq{r:List ZP}{P:ZP->Prop}(h: ∀v∈r,P v){k:Nat}(hk:k<r.length):P (r.getD k (0,0)):=h _ (qv hk)
theorem omX{p:Prop}(h:p:=by have:=hv k we;constructor<;>grind):p:=h
theorem omY{p:Prop}(h:p:=by have:=hw k we;constructor<;>grind):p:=h
def I2{r:List ZP}{R:Rat}{p:aa}(hr: ∀v∈r, -R<=v.q.x/\v.q.x<=R/\ -R<=v.q.y/\v.q.y<=R)(hp:Az R p):gp r p r.length=0:=by
 have hv: ∀k,k<r.length->_:=fun k hk=>aBq hr hk;have hw: ∀k,k<r.length->_:=fun k hk=>hr _ (xz hk);have zero:(∀k,k<r.length->d6 (r.getD k (0,0)).q (cj r k).q p=0)-> ∀k,k<=r.length->gp r p k=0:=fun h=>by
  intro k
  induction k with
  |zero=>intro _;rfl
  |succ k ih=>intro hk;rw[gp,ih we,h k we];rfl
 rcases hp with h|h|h|h
 .have tele: ∀k,k<r.length->gp r p k=bI ((r.getD 0 (0,0)).q.y<=p.y)-bI ((r.getD k (0,0)).q.y<=p.y):=by
   intro k
   induction k with
   |zero=>intro _;rw[gp];omega
   |succ k ih=>
    intro hk;have e:=Ga (v:=(r.getD k (0,0)).q) (w:=(cj r k).q) (p:=p) true omX omY omX omY;rw[if_pos J,uh] at e;rw[gp,ih we,uh,e];omega
  cases hr':r.length with
  |zero=>rfl
  |succ n=>
   have e:=Ga (v:=(r.getD n (0,0)).q) (w:=(cj r n).q) (p:=p) true (by have:=hv n we;constructor<;>grind) (by have:=hw n we;constructor<;>grind) (by have:=hv n we;constructor<;>grind) (by have:=hw n we;constructor<;>grind);rw[if_pos J,uH] at e;rw[gp,tele n we,uH,e];omega
 .refine zero (fun k hk=>?_) _ (bV _)
  have e:=Ga (v:=(r.getD k (0,0)).q) (w:=(cj r k).q) (p:=p) false omX omY omX omY;rw[e,if_neg oma]
 .exact zero (fun k hk=>aIU (by have:=hv k hk;grind) (by have:=hw k hk;grind)) _ (bV _)
 .exact zero (fun k hk=>Yo (by have:=hv k hk;grind) (by have:=hw k hk;grind)) _ (bV _)

def uC: ∀{t:Tr} {c:au} {b:Bool} {e:au},t.all ab.ok->bw c->(b,e)∈t.parts c->bw e/\ ∀p,bm e p->bm c p/\t.val p=b
 | .leaf v,c,b,e,_,hc,h=>by
  rw[Tr.parts,aV] at h
  cases h
  exact⟨hc,fun p hp=>⟨hp,J⟩⟩
 | .node l x y,c,b,e,⟨hl,hx,hy⟩,hc,h=>by
  rw[Tr.parts] at h;rcases bJ.1 h with h|h
  .split at h
   .rename_i hb
    obtain⟨k1,k2⟩:=gg hc hl hb;obtain⟨m1,m2⟩:=uC hx k1 h;refine⟨m1,fun p hp=>?_⟩;obtain⟨n1,n2⟩:=m2 p hp;obtain⟨o1,o2⟩:=(k2 p).1 n1;exact⟨o1,by rw[Tr.val_pos o2,n2]⟩
   .cases h
  .split at h
   .rename_i hb
    obtain⟨k1,k2⟩:=gg hc hl.rev hb;obtain⟨m1,m2⟩:=uC hy k1 h;refine⟨m1,fun p hp=>?_⟩;obtain⟨n1,n2⟩:=m2 p hp;obtain⟨o1,o2⟩:=(k2 p).1 n1;rw[fg] at o2;exact⟨o1,by rw[Tr.val_neg omb,n2]⟩
   .cases h
def Kk: ∀{t:Tr} {c:au} {p:aa},t.all ab.ok->bw c->bm c p->fy t.lns p-> ∃b e,(b,e)∈t.parts c/\bm e p
 | .leaf v,c,p,_,_,hp,_=>⟨v,c,aV.2 J,hp⟩
 | .node l x y,c,p,⟨hl,hx,hy⟩,hc,hp,ho=>by
  have h0:=ho.l;rw[Tr.parts];by_cases h:0<l.value p
  .have hb:=(fE hc hl).2 ⟨p,hp,h⟩
   obtain⟨k1,k2⟩:=gg hc hl hb;obtain⟨b,e,m1,m2⟩:=Kk hx k1 ((k2 p).2 ⟨hp,h⟩) ho.x;exact⟨b,e,bK _ (by rw[if_pos hb];exact m1),m2⟩
  .have h':0<l.rev.value p:=by rw[fg];grind
   have hb:=(fE hc hl.rev).2 ⟨p,hp,h'⟩;obtain⟨k1,k2⟩:=gg hc hl.rev hb;obtain⟨b,e,m1,m2⟩:=Kk hy k1 ((k2 p).2 ⟨hp,h'⟩) ho.y;exact⟨b,e,bW _ (by rw[if_pos hb];exact m1),m2⟩
def bF(t:Tr):List au:=((t.parts []).filter (·.1)).map (·.2)
def n8{t:Tr}{e:au}:e∈bF t↔(true,e)∈t.parts []:=by
 unfold bF;simp
def avL{t:Tr}(h:t.all ab.ok):bF t=[]↔ ∀p,fy t.lns p->t.val p=false:=by
 constructor
 .intro hc p hp
  obtain⟨b,e,h1,h2⟩:=Kk h bw.nil (aFs p) hp
  cases b with
  |true=>have:=n8.2 h1;rw[hc] at this;cases this
  |false=>exact((uC h bw.nil h1).2 p h2).2
 .intro hv
  cases hc:bF t with
  |nil=>rfl
  |cons e r=>
   exfalso;obtain⟨g,hs⟩:=uC h bw.nil (n8.1 (by rw[hc];exact aQ));obtain⟨q,h1,h2⟩:=AM g t.lns (jO h);have:=(hs q h1).2;rw[hv q h2] at this
   cases this
def LL{v k:Rat}(hk:k<0)(hv:0<v):0< -(v/k):=by
 have e: -(v/k)* -k=v:=by grind
 exact(gi (k:= -k) omb).1 (by rw[e];exact hv)
def gI:Tr->aa->aa->Bool×Bool
 | .leaf b,_,_=>(b,true)
 | .node l x y,p,v=>match (if(l.value p).num.sign=0 then(l.dir.cross v).num.sign else(l.value p).num.sign) with
  |1=>gI x p v
  | -1=>gI y p v
  |_=>(false,false)
def rj(l:ab)(v:aa):l.dir.cross v=l.nor.dot v:=by
 unfold ab.dir ab.nor aa.cross aa.dot;grind
def Gn(L:List ab)(p v:aa):Prop:= ∀l∈L,l.value p=0->l.nor.dot v≠0
def aH4{l:ab}{p v:aa}(h:l.value p=0->l.nor.dot v≠0): ∃e:Rat,0<e/\ ∀d,0<d->d<=e->(0<l.value (av p v d)↔0<l.value p\/(l.value p=0/\0<l.nor.dot v))/\(l.value (av p v d)<0↔l.value p<0\/(l.value p=0/\l.nor.dot v<0)):=by
 generalize hk:l.nor.dot v=k at*;by_cases h0:l.value p=0
 .have hk0:=h h0
  refine⟨1,oma,fun d h1 _=>?_⟩;rw[iw,hk,h0];rcases cP k with e|e|e
  .exact absurd e hk0
  .have:=bg h1 e;grind
  .have:=bg (a:=d) (b:= -k) h1 omb;grind
 .have key: ∀w:Rat,0<w-> ∃e:Rat,0<e/\ ∀d,0<d->d<=e-> ∀j:Rat,(j=k\/j= -k)->0<w+d*j:=fun w hw=>by
   have hA: ∃A:Rat,0<A/\k<=A/\ -k<=A:=by
    rcases cP k with e|e|e
    .exact⟨1,oma,omb,omb⟩
    .exact⟨k,e,omb,omb⟩
    .exact⟨-k,omb,omb,omb⟩
   obtain⟨A,a1,a2,a3⟩:=hA;refine⟨w/(2*A),?_,fun d d1 d2 j hj=>?_⟩
   .have e1:w/(2*A)*(2*A)=w:=by grind
    exact(gi (k:=2*A) omb).1 (by rw[e1];exact hw)
   .have e1:w/(2*A)*(2*A)=w:=by grind
    generalize w/(2*A)=f at*;have h1:=bz (a:=f-d) (b:=A) omb omb;have h2:=bz (a:=d) (b:=A+j) omb (by rcases hj with rfl|rfl<;>grind);grind
  rcases cP (l.value p) with e|e|e
  .exact absurd e h0
  .obtain⟨f,f1,f2⟩:=key _ e
   refine⟨f,f1,fun d d1 d2=>?_⟩;have:=f2 d d1 d2 k (.inl J);rw[iw,hk];grind
  .obtain⟨f,f1,f2⟩:=key (-l.value p) omb
   refine⟨f,f1,fun d d1 d2=>?_⟩;have:=f2 d d1 d2 (-k) (.inr J);rw[iw,hk];grind
def x9: ∀{t:Tr} {p v:aa},Gn t.lns p v-> ∃e:Rat,0<e/\ ∀d,0<d->d<=e->fy t.lns (av p v d)/\gI t p v=(t.val (av p v d),true)
 | .leaf b,p,v,_=>⟨1,oma,fun d _ _=>⟨fun l hl=>(by cases hl),J⟩⟩
 | .node l x y,p,v,h=>by
  obtain⟨e1,a1,b1⟩:=aH4 (h l aQ);obtain⟨e2,a2,b2⟩:=x9 (t:=x) (p:=p) (v:=v) (fun m hm=>h m (aX _ (bK _ hm)));obtain⟨e3,a3,b3⟩:=x9 (t:=y) (p:=p) (v:=v) (fun m hm=>h m (aX _ (bW _ hm)));have hgn:=h l aQ;have hm: ∃e:Rat,0<e/\e<=e1/\e<=e2/\e<=e3:=by
   by_cases h1:e1<=e2
   .by_cases h2:e1<=e3
    .exact⟨e1,a1,omb,h1,h2⟩
    .exact⟨e3,a3,omb,omb,omb⟩
   .by_cases h2:e2<=e3
    .exact⟨e2,a2,omb,omb,h2⟩
    .exact⟨e3,a3,omb,omb,omb⟩
  obtain⟨e,h0,h1,h2,h3⟩:=hm;refine⟨e,h0,fun d d1 d2=>?_⟩;obtain⟨c1,c2⟩:=b1 d d1 omb;obtain⟨o2,w2⟩:=b2 d d1 omb;obtain⟨o3,w3⟩:=b3 d d1 omb;have hs:(if(l.value p).num.sign=0 then(l.dir.cross v).num.sign else(l.value p).num.sign)=if 0<l.value (av p v d) then 1 else-1:=by
   rw[rj];by_cases hz:l.value p=0
   .rw[if_pos ((l5 _).2 hz)]
    split
    .rename_i hp
     exact(m8 _).2 (by rcases c1.1 hp with k|k;exact absurd k omb;exact k.2)
    .rename_i hp
     have:l.nor.dot v<0:=by have:=hgn hz;have: ¬0<l.nor.dot v:=fun e=>hp (c1.2 (.inr ⟨hz,e⟩));grind
     exact Int.sign_eq_neg_one_iff_neg.2 (by have:=(oB _).2 this;rcases kS (l.nor.dot v).num 0 with q|q|q;exact q;rw[q] at this;simp at this;rw[fJ q] at this;simp at this)
   .rw[if_neg (fun e=>hz ((l5 _).1 e))]
    split
    .rename_i hp
     exact(m8 _).2 (by rcases c1.1 hp with k|k;exact k;exact absurd k.1 hz)
    .rename_i hp
     have:l.value p<0:=by have: ¬0<l.value p:=fun e=>hp (c1.2 (.inl e));grind
     exact Int.sign_eq_neg_one_iff_neg.2 (by have:=(oB _).2 this;rcases kS (l.value p).num 0 with q|q|q;exact q;rw[q] at this;simp at this;rw[fJ q] at this;simp at this)
  have hz:l.value (av p v d)≠0:=fun e=>by
   rcases cP (l.value p) with q|q|q
   .rcases cP (l.nor.dot v) with r|r|r
    .exact hgn q r
    .have:=c1.2 (.inr ⟨q,r⟩);grind
    .have:=c2.2 (.inr ⟨q,r⟩);grind
   .have:=c1.2 (.inl q);grind
   .have:=c2.2 (.inl q);grind
  refine⟨fun m hm=>?_,?_⟩
  .rcases aW.1 hm with rfl|hm
   .exact hz
   .exact(bJ.1 hm).elim (o2 m) (o3 m)
  .rw[gI,hs]
   by_cases hp:0<l.value (av p v d)
   .rw[if_pos hp,Tr.val_pos hp];exact w2
   .rw[if_neg hp,Tr.val_neg hp];exact w3
def lI(p:aa):(p.half=1/\(0<p.y\/(p.y=0/\0<p.x)))\/(p.half=2/\(p.y<0\/(p.y=0/\p.x<0)))\/(p.half=0/\p.y=0/\p.x=0):=by
 unfold aa.half;simp only[k9,oB,l5];split
 .rename_i h;exact .inl ⟨rfl,h⟩
 .rename_i h
  split
  .rename_i h2
   exact .inr (.inl ⟨J,omb⟩)
  .rename_i h2
   exact .inr (.inr ⟨J,omb,omb⟩)
def mr{p:aa}:p.half=1↔(0<p.y\/(p.y=0/\0<p.x)):=by
 rcases lI p with⟨h,k⟩|⟨h,k⟩|⟨h,k⟩<;>rw[h]<;>grind
def qC{p:aa}:p.half=2↔(p.y<0\/(p.y=0/\p.x<0)):=by
 rcases lI p with⟨h,k⟩|⟨h,k⟩|⟨h,k⟩<;>rw[h]<;>grind
def cp(u v:aa):Prop:=u.half<v.half\/(u.half=v.half/\0<u.cross v)
def nC{u v:aa}:cF u v<0↔cp u v:=by
 unfold cF cp;split
 .rename_i h;exact⟨fun _=> .inl h,fun _=>by decide⟩
 .rename_i h
  split
  .rename_i h2;exact⟨fun e=>absurd e oma,fun e=>by omega⟩
  .rename_i h2
   have e:u.half=v.half:=by omega
   rw[<-k9];constructor
   .intro k;exact .inr ⟨e,we⟩
   .rintro (k|⟨_,k⟩)
    .omega
    .omega
def bP(d:aa):aa:=⟨-d.x, -d.y⟩
def uA{d:aa}(h:d.half≠0):(bP d).half=3-d.half:=by
 rcases lI d with⟨e,k⟩|⟨e,k⟩|⟨e,k⟩
 .rw[e];exact qC.2 (by unfold bP;grind)
 .rw[e];exact mr.2 (by unfold bP;grind)
 .exact absurd e h
def ig{d:aa}(h:d.half≠0):d.half=1\/d.half=2:=by
 rcases lI d with⟨e,_⟩|⟨e,_⟩|⟨e,_⟩
 .exact .inl e
 .exact .inr e
 .exact absurd e h
def lA(ds:List aa)(u w:aa):Prop:=(cp u w/\ ∀d∈ds,¬(cp u d/\cp d w))\/((∀d∈ds,¬cp u d)/\ ∀d∈ds,¬cp d w)
structure vS (ds:List aa):Prop where
 nz: ∀d∈ds,d.half≠0
 neg: ∀d∈ds,bP d∈ds
def PX(u:aa):u.cross u=0:=by unfold aa.cross;grind
def fH(u v:aa):v.cross u= -u.cross v:=by unfold aa.cross;grind
def mB(u v:aa):u.cross (bP v)= -u.cross v:=by unfold aa.cross bP;grind
def lA.spec{ds:List aa}{u w:aa}(h:vS ds)(hu:u∈ds)(hw:w∈ds)(hn:lA ds u w):
  (u.half=w.half/\0<u.cross w/\ ∀d∈ds,¬(cp u d/\cp d w))\/(u.half≠w.half/\(∀d∈ds,d.half=u.half->0<=d.cross u)/\ ∀d∈ds,d.half=w.half->0<=w.cross d):=by
 have zu:=ig (h.nz u hu);have zw:=ig (h.nz w hw);rcases hn with⟨h1,h2⟩|⟨h1,h2⟩
 .rcases h1 with k|⟨k,k2⟩
  .refine .inr ⟨we,fun d hd e=>?_,fun d hd e=>?_⟩
   .have:=h2 d hd
    rw[fH];by_cases hc:0<u.cross d
    .exact absurd ⟨.inr ⟨e.symm,hc⟩, .inl we⟩ this
    .grind
   .have:=h2 d hd
    by_cases hc:0<d.cross w
    .exact absurd ⟨.inl we, .inr ⟨e,hc⟩⟩ this
    .rw[fH] at hc;grind
  .exact .inl ⟨k,k2,h2⟩
 .have nu:=uA (h.nz u hu)
  have a1:=h1 _ (h.neg u hu);have a2:=h2 _ (h.neg u hu);unfold cp at a1 a2;rw[nu] at a1 a2;refine .inr ⟨fun e=>?_,fun d hd e=>?_,fun d hd e=>?_⟩
  .rcases zu with z|z
   .exact a1 (.inl we)
   .exact a2 (.inl we)
  .have:=h1 d hd
   rw[fH];by_cases hc:0<u.cross d
   .exact absurd (.inr ⟨e.symm,hc⟩) this
   .grind
  .have:=h2 d hd
   by_cases hc:0<d.cross w
   .exact absurd (.inr ⟨e,hc⟩) this
   .rw[fH] at hc;grind
def lA.pos{ds:List aa}{u w:aa}(h:vS ds)(hu:u∈ds)(hw:w∈ds)(hn:lA ds u w):0<=u.cross w:=by
 rcases hn.spec h hu hw with⟨_,h2,_⟩|⟨h1,h2,h3⟩
 .grind
 .have:=h3 _ (h.neg u hu) (by rw[uA (h.nz u hu)];have:=ig (h.nz u hu);have:=ig (h.nz w hw);omega)
  rw[mB] at this;rw[fH];exact this
def iA(a b:Rat)(u w:aa):aa:=⟨a*u.x+b*w.x,a*u.y+b*w.y⟩
def RD{a b:Rat}{u w:aa}:u.cross (iA a b u w)=b*u.cross w/\(iA a b u w).cross w=a*u.cross w:=by
 unfold aa.cross iA;constructor<;>grind
def Ju{a b:Rat}{u w:aa}(ha:0<a)(hb:0<b)(h:u.half=w.half)(hz:u.half≠0):(iA a b u w).half=u.half:=by
 rcases lI u with⟨e,k⟩|⟨e,k⟩|⟨e,k⟩
 .rw[e] at h⊢
  have k2:=mr.1 h.symm;refine mr.2 ?_;unfold iA;simp only;have p1: ∀z:Rat,0<z->0<a*z:=fun z hz=>bg ha hz;have p2: ∀z:Rat,0<z->0<b*z:=fun z hz=>bg hb hz;rcases k with k|⟨k,k'⟩<;>rcases k2 with l|⟨l,l'⟩
  .have:=p1 _ k;have:=p2 _ l;grind
  .have:=p1 _ k;rw[l];grind
  .have:=p2 _ l;rw[k];grind
  .have:=p1 _ k';have:=p2 _ l';rw[k,l];grind
 .rw[e] at h⊢
  have k2:=qC.1 h.symm;refine qC.2 ?_;unfold iA;simp only;have p1: ∀z:Rat,z<0->a*z<0:=fun z hz=>by have:=bg (a:=a) (b:= -z) ha omb;grind
  have p2: ∀z:Rat,z<0->b*z<0:=fun z hz=>by have:=bg (a:=b) (b:= -z) hb omb;grind
  rcases k with k|⟨k,k'⟩<;>rcases k2 with l|⟨l,l'⟩
  .have:=p1 _ k;have:=p2 _ l;grind
  .have:=p1 _ k;rw[l];grind
  .have:=p2 _ l;rw[k];grind
  .have:=p1 _ k';have:=p2 _ l';rw[k,l];grind
 .exact absurd e hz
def lA.none{ds:List aa}{u w:aa}(h:vS ds)(hu:u∈ds)(hw:w∈ds)(hn:lA ds u w)(hc:u.cross w≠0){a b:Rat}(ha:0<a)(hb:0<b):iA a b u w∉ds:=fun hd=>by
 have hp:=hn.pos h hu hw;have hp:0<u.cross w:=by grind
 obtain⟨c1,c2⟩:=RD (a:=a) (b:=b) (u:=u) (w:=w);have d1:0<u.cross (iA a b u w):=by rw[c1];exact bg hb hp
 have d2:0<(iA a b u w).cross w:=by rw[c2];exact bg ha hp
 have zu:=ig (h.nz u hu);have zw:=ig (h.nz w hw);have zd:=ig (h.nz _ hd);rcases hn.spec h hu hw with⟨h1,_,h3⟩|⟨h1,h2,h3⟩
 .have e:=Ju ha hb h1 (h.nz u hu)
  exact h3 _ hd ⟨.inr ⟨e.symm,d1⟩, .inr ⟨e.trans h1,d2⟩⟩
 .rcases(show(iA a b u w).half=u.half\/(iA a b u w).half=w.half by omega) with e|e
  .have:=h2 _ hd e
   rw[fH] at this;grind
  .have:=h3 _ hd e
   rw[fH] at this;grind
def wD{d e:aa}(h:e.cross d=0)(hp:0<e.dot d): ∃g:Rat,0<g/\e=⟨g*d.x,g*d.y⟩:=by
 have hd:0<d.dot d:=by
  unfold aa.dot at*;have h1:=tc d.x;have h2:=tc d.y;rcases cP d.x with k|k|k
  .rcases cP d.y with l|l|l
   .rw[k,l] at hp;grind
   .have:=bg l l;grind
   .have:=bg (a:= -d.y) (b:= -d.y) omb omb;grind
  .have:=bg k k;grind
  .have:=bg (a:= -d.x) (b:= -d.x) omb omb;grind
 have key:e.x*d.dot d=e.dot d*d.x/\e.y*d.dot d=e.dot d*d.y:=by
  unfold aa.dot aa.cross at*;constructor<;>grind
 have hg:e.dot d/d.dot d*d.dot d=e.dot d:=by grind
 refine⟨e.dot d/d.dot d,(gi hd).1 (by rw[hg];exact hp),?_⟩;generalize e.dot d/d.dot d=g at*;have x1:e.x=g*d.x:=by
  have:(e.x-g*d.x)*d.dot d=0:=by rw[<-hg] at key;grind
  have hz:d.dot d≠0:=by grind
  grind
 have x2:e.y=g*d.y:=by
  have:(e.y-g*d.y)*d.dot d=0:=by rw[<-hg] at key;grind
  have hz:d.dot d≠0:=by grind
  grind
 rw[<-x1,<-x2]
def DI{e u:aa}(he:e.half≠0)(hu:u.half≠0)(hp:e.cross u=0):e.dot u≠0:=fun hz=>by
 have e1:e.x*(u.x*u.x+u.y*u.y)=0:=by unfold aa.dot aa.cross at*;grind
 have e2:e.y*(u.x*u.x+u.y*u.y)=0:=by unfold aa.dot aa.cross at*;grind
 have hu2:u.x*u.x+u.y*u.y≠0:=fun q=>by
  have h1:=tc u.x;have h2:=tc u.y;have x0:u.x=0:=by
   have:u.x*u.x=0:=by grind
   grind
  have y0:u.y=0:=by
   have:u.y*u.y=0:=by grind
   grind
  rcases lI u with⟨_,q⟩|⟨_,q⟩|⟨q,_⟩
  .grind
  .grind
  .exact hu q
 have x0:e.x=0:=by grind
 have y0:e.y=0:=by grind
 rcases lI e with⟨_,q⟩|⟨_,q⟩|⟨q,_⟩
 .grind
 .grind
 .exact he q
def lA.gen{ds:List aa}{u w:aa}(h:vS ds)(hu:u∈ds)(hw:w∈ds)(hn:lA ds u w)(hc:u.cross w≠0){a b:Rat}(ha:0<a)(hb:0<b): ∀d∈ds,d.cross (iA a b u w)≠0:=fun d hd hz=>by
 have hp:=hn.pos h hu hw;have hp:0<u.cross w:=by grind
 obtain⟨c1,c2⟩:=RD (a:=a) (b:=b) (u:=u) (w:=w);have d1:0<u.cross (iA a b u w):=by rw[c1];exact bg hb hp
 -- of d and its opposite, one points the same way
 have key: ∀e∈ds,e.cross (iA a b u w)=0->0<e.dot (iA a b u w)->False:=fun e he h1 h2=>by
  obtain⟨g,g1,g2⟩:=wD h1 h2;refine hn.none h hu hw hc (a:=g*a) (b:=g*b) (bg g1 ha) (bg g1 hb) ?_;have:iA (g*a) (g*b) u w=e:=by rw[g2];unfold iA;simp only[aa.mk.injEq];constructor<;>grind
  rw[this];exact he
 rcases cP (d.dot (iA a b u w)) with k|k|k
 .-- both 0: then d is 0, or the other is
  have hnz:=h.nz d hd;generalize iA a b u w=v at*;have e1:d.x*(v.x*v.x+v.y*v.y)=0:=by unfold aa.dot aa.cross at*;grind
  have e2:d.y*(v.x*v.x+v.y*v.y)=0:=by unfold aa.dot aa.cross at*;grind
  have hv:v.x*v.x+v.y*v.y≠0:=fun e=>by
   have h1:=tc v.x;have h2:=tc v.y;have x0:v.x=0:=by have:v.x*v.x=0:=omb;grind
   have y0:v.y=0:=by have:v.y*v.y=0:=omb;grind
   unfold aa.cross at d1;rw[x0,y0] at d1;grind
  have x0:d.x=0:=by grind
  have y0:d.y=0:=by grind
  rcases lI d with⟨_,q⟩|⟨_,q⟩|⟨q,_⟩
  .grind
  .grind
  .exact hnz q
 .exact key d hd hz k
 .refine key _ (h.neg d hd) ?_ ?_
  .unfold aa.cross bP at*;grind
  .unfold aa.dot bP at*;grind
def Lx(d u:aa):d.cross (eG u)=d.dot u:=by unfold aa.cross eG aa.dot;grind
def lA.turn{ds:List aa}{u w:aa}(h:vS ds)(hu:u∈ds)(hw:w∈ds)(hn:lA ds u w)(hc:u.cross w=0): ∀d∈ds,d.cross (eG u)≠0:=fun d hd=>by
 have zu:=ig (h.nz u hu);have zw:=ig (h.nz w hw);rw[Lx];rcases hn.spec h hu hw with⟨_,h2,_⟩|⟨h1,h2,h3⟩
 .rw[hc] at h2;exact absurd h2 oma
 have par: ∀e∈ds,e.half=u.half->e.cross u=0:=fun e he k=>by
  have a1:=h2 e he k;have a2:=h3 _ (h.neg e he) (by rw[uA (h.nz e he)];omega);rw[mB] at a2
  -- w = -g u
  have hwu:w.cross u=0:=by rw[fH,hc];rfl
  have huw:w.dot u<0:=by
   rcases cP (w.dot u) with k0|k0|k0
   .exact absurd k0 (DI (h.nz w hw) (h.nz u hu) hwu)
   .obtain⟨g,g1,g2⟩:=wD hwu k0
    exfalso;apply h1;rcases lI u with⟨x,q⟩|⟨x,q⟩|⟨x,q⟩
    .rw[x]
     refine(mr.2 ?_).symm;rw[g2];simp only;rcases q with q|⟨q,q'⟩
     .exact .inl (bg g1 q)
     .exact .inr ⟨by rw[q];grind,bg g1 q'⟩
    .rw[x]
     refine(qC.2 ?_).symm;rw[g2];simp only;rcases q with q|⟨q,q'⟩
     .have:=bg (a:=g) (b:= -u.y) g1 omb;exact .inl omb
     .have:=bg (a:=g) (b:= -u.x) g1 omb;exact .inr ⟨by rw[q];grind,omb⟩
    .exact absurd x (h.nz u hu)
   .exact k0
  obtain⟨g,g1,g2⟩:=wD (d:=u) (e:=bP w) (by unfold aa.cross bP at*;grind) (by unfold aa.dot bP at*;grind);have a3:0<= -(g*e.cross u):=by
   have e1:w=⟨-(g*u.x), -(g*u.y)⟩:=by
    have:=congrArg bP g2;unfold bP at this
    cases w
    simp only[Rat.neg_neg] at this;exact this
   rw[e1] at a2;unfold aa.cross at*;grind
  by_cases hz:0<e.cross u
  .have:=bg g1 hz;grind
  .grind
 have nzd: ∀e∈ds,e.half=u.half->e.dot u≠0:=fun e he k=>DI (h.nz e he) (h.nz u hu) (par e he k);by_cases k:d.half=u.half
 .exact nzd d hd k
 .have:=nzd _ (h.neg d hd) (by rw[uA (h.nz d hd)];have:=ig (h.nz d hd);omega)
  unfold aa.dot bP at*;grind
def DC{α:Type}{c:α->α->Int}(hc: ∀u x,c u x=0->u=x){x y:α}: ∀{xs:List α},y=x\/y∈xs->y∈dO c x xs
 |[],h=>by
  rcases h with rfl|h
  .rw[dO];exact aV.2 J
  .cases h
 |u::t,h=>by
  rw[dO];split
  .rcases h with rfl|h
   .exact aX _ (DC hc (.inl J))
   .rcases aW.1 h with rfl|h
    .exact aQ
    .exact aX _ (DC hc (.inr h))
  .split
   .rename_i h0
    rcases h with rfl|h
    .rw[<-hc _ _ h0];exact aQ
    .exact h
   .rcases h with rfl|h
    .exact aQ
    .exact aX _ h
def Qd{α:Type}{c:α->α->Int}(hc: ∀u x,c u x=0->u=x){y:α}: ∀{l o:List α},y∈l\/y∈o->y∈l.foldl (fun out x=>dO c x out) o
 |[],o,h=>h.elim (fun h=>by cases h) id
 |x::t,o,h=>by
  refine Qd hc (l:=t) ?_;rcases h with h|h
  .rcases aW.1 h with rfl|h
   .exact .inr (DC hc (.inl J))
   .exact .inl h
  .exact .inr (DC hc (.inr h))
def aBx{ls:List ab}{x:ab}(h:x∈ls):x.canon∈vr ls:=
 Qd (fun u x e=>(vD u x).1 e) (.inl (eX h))
def J2(l:ab)(p:aa):l.canon.value p=l.value p\/l.canon.value p= -l.value p:=by
 unfold ab.canon;split
 .exact .inr (fg l p)
 .exact .inl J
def Nc{α:Type}{c:α->α->Int}(hT: ∀u v w,c u v<0->c v w<0->c u w<0)(hA: ∀u v,¬c u v<0->c u v≠0->c v u<0){x:α}: ∀{xs:List α},xs.Pairwise (fun a b=>c a b<0)->(dO c x xs).Pairwise (fun a b=>c a b<0)
 |[],_=>by rw[dO];exact List.pairwise_singleton _ _
 |u::t,h=>by
  obtain⟨h1,h2⟩:=bM.1 h;rw[dO];split
  .rename_i hu
   refine bM.2 ⟨fun y hy=>?_,Nc hT hA h2⟩;rcases HR c hy with rfl|hy
   .exact hu
   .exact h1 y hy
  .rename_i hu
   split
   .exact h
   .rename_i hz
    have hx:=hA u x hu hz;refine bM.2 ⟨fun y hy=>?_,h⟩;rcases aW.1 hy with rfl|hy
    .exact hx
    .exact hT _ _ _ hx (h1 y hy)
def HV{α:Type}{c:α->α->Int}(hT: ∀u v w,c u v<0->c v w<0->c u w<0)(hA: ∀u v,¬c u v<0->c u v≠0->c v u<0): ∀{l o:List α},o.Pairwise (fun a b=>c a b<0)->(l.foldl (fun out x=>dO c x out) o).Pairwise (fun a b=>c a b<0)
 |[],o,h=>h
 |x::l,o,h=>HV (l:=l) (o:=dO c x o) hT hA (Nc hT hA h)
def J7(l m:ab):gq l m<0↔l.a<m.a\/(l.a=m.a/\(l.b<m.b\/(l.b=m.b/\l.c<m.c))):=by
 unfold gq;split
 .rename_i h;rw[vg];rw[ne_eq,pp] at h;omega
 .rename_i h;rw[ne_eq,Decidable.not_not,pp] at h
  split
  .rename_i k;rw[vg];rw[ne_eq,pp] at k;omega
  .rename_i k;rw[ne_eq,Decidable.not_not,pp] at k;rw[vg];omega
def atY(l m:ab):gq l m=0↔l.a=m.a/\l.b=m.b/\l.c=m.c:=by
 unfold gq;split
 .rename_i h;rw[pp];rw[ne_eq,pp] at h;omega
 .rename_i h;rw[ne_eq,Decidable.not_not,pp] at h
  split
  .rename_i k;rw[pp];rw[ne_eq,pp] at k;omega
  .rename_i k;rw[ne_eq,Decidable.not_not,pp] at k;rw[pp];omega
def awh(ls:List ab):(vr ls).Pairwise (fun a b=>gq a b<0):=
 HV (fun u v w h k=>by rw[J7] at*;omega) (fun u v h k=>by rw[J7] at*;rw[ne_eq,atY] at k;omega) List.Pairwise.nil
def UD{u v:aa}:0<cF u v↔cp v u:=by
 unfold cF cp;split
 .rename_i h;exact⟨fun e=>absurd e oma,fun e=>by omega⟩
 .rename_i h
  split
  .rename_i h2;exact⟨fun _=> .inl h2,fun _=>by decide⟩
  .rename_i h2
   have e:v.half=u.half:=by omega
   rw[fH u v];constructor
   .intro k
    have:Int.sign (u.cross v).num<0:=by omega
    rw[oB] at this;exact .inr ⟨e,omb⟩
   .rintro (k|⟨_,k⟩)
    .omega
    .have:Int.sign (u.cross v).num<0:=(oB _).2 omb
     omega
def cp.trans{u v w:aa}(hu:u.half≠0)(hv:v.half≠0)(hw:w.half≠0)(h:cp u v)(k:cp v w):cp u w:=by
 rcases h with h|⟨h,h'⟩<;>rcases k with k|⟨k,k'⟩
 .exact .inl we
 .exact .inl we
 .exact .inl we
 .refine .inr ⟨h.trans k,?_⟩
  have id1:u.cross w*v.y=u.cross v*w.y+v.cross w*u.y:=by unfold aa.cross;grind
  rcases lI v with⟨x,q⟩|⟨x,q⟩|⟨x,q⟩
  .rw[x] at h k
   have qu:=mr.1 h;have qw:=mr.1 k.symm;rcases q with q|⟨q,q'⟩
   .rw[<-gi q,id1]
    have wy:0<=w.y:=by grind
    have uy:0<=u.y:=by grind
    have a1:=bz (aN h') wy;rcases qu with qu|⟨qu,qu'⟩
    .have:=bg k' qu;grind
    .rcases qw with qw|⟨qw,qw'⟩
     .have:=bg h' qw;rw[qu];grind
     .exfalso
      have hx:v.cross w= -(w.x*v.y):=by unfold aa.cross;rw[qw];grind
      have:=bg qw' q;grind
   .exfalso
    have hx:u.cross v= -(v.x*u.y):=by unfold aa.cross;rw[q];grind
    have:=bz (a:=v.x) (b:=u.y) (aN q') omb;grind
  .rw[x] at h k
   have qu:=qC.1 h;have qw:=qC.1 k.symm;rcases q with q|⟨q,q'⟩
   .have e1:u.cross w* -v.y=u.cross v* -w.y+v.cross w* -u.y:=by grind
    rw[<-gi (k:= -v.y) omb,e1];have a1:=bz (a:=u.cross v) (b:= -w.y) (aN h') omb;rcases qu with qu|⟨qu,qu'⟩
    .have:=bg (a:=v.cross w) (b:= -u.y) k' omb;grind
    .rcases qw with qw|⟨qw,qw'⟩
     .have:=bg (a:=u.cross v) (b:= -w.y) h' omb;rw[qu];grind
     .exfalso
      have hx:v.cross w= -(-w.x* -v.y):=by unfold aa.cross;rw[qw];grind
      have:=bg (a:= -w.x) (b:= -v.y) omb omb;grind
   .exfalso
    have hx:u.cross v= -(-v.x* -u.y):=by unfold aa.cross;rw[q];grind
    have:=bz (a:= -v.x) (b:= -u.y) omb omb;grind
  .exact absurd x hv
structure NT (L:List ab):Prop where
 ok: ∀l∈L,l.ok
 cn: ∀l∈L,re l=false
 nd:L.Pairwise (fun a b=>a≠b)
def Jf{l:ab}(h:l.ok):re l.canon=false:=by
 have hn:=h.ne;unfold ab.Ne at hn;unfold ab.canon;split
 .rename_i k
  unfold re at*;rw[decide_eq_true_eq] at k;rw[decide_eq_false_iff_not];show¬(-l.a<0\/(-l.a=0/\ -l.b<0));omega
 .rename_i k;simpa using k
def avk{ls:List ab}(h: ∀l∈ls,l.ok):NT (vr ls) where
 ok:=fun l hl=>by obtain⟨x,hx,rfl⟩:=M' hl;exact aAE (h x hx)
 cn:=fun l hl=>by obtain⟨x,hx,rfl⟩:=M' hl;exact Jf (h x hx)
 nd:=(awh ls).imp fun{a b} k e=>by subst e;rw[J7] at k;omega
def vm{l:ab}(h:l.ok):l.dir.half≠0:=fun e=>by
 have hn:=h.ne;unfold ab.Ne at hn;rcases lI l.dir with⟨k,_⟩|⟨k,_⟩|⟨_,k1,k2⟩
 .rw[k] at e;cases e
 .rw[k] at e;cases e
 .unfold ab.dir at k1 k2
  simp only at k1 k2;apply hn;refine⟨?_,eM.1 k2⟩;have:(l.a:Rat)=0:=by grind
  exact eM.1 this
def WU{d:aa}(h:d.half≠0):(bP d).half≠0:=by rw[uA h];have:=ig h;omega
def A5(d:aa):bP (bP d)=d:=by unfold bP;cases d;simp
def aDs{l m:ab}(hl:l.ok)(hm:m.ok)(cl:re l=false)(cm:re m=false){p:aa}(h1:l.value p=0)(h2:m.value p=0)(hc:l.dir.cross m.dir=0):l=m:=by
 have key: ∀t,l.value (m.at t)=0:=fun t=>by
  obtain⟨s,rfl⟩:=Cq hm.ne h2;rw[jx] at h1⊢;have hk:m.cutK l=0:=by
   unfold ab.cutK;rw[<-rj];exact hc
  rw[hk] at h1⊢;grind
 rcases vN hl hm key with e|e
 .exact e
 .exfalso
  have hn:=hm.ne;unfold ab.Ne at hn;rw[e] at cl;unfold re at cl cm;rw[decide_eq_false_iff_not] at cl cm;have cl: ¬(-m.a<0\/(-m.a=0/\ -m.b<0)):=cl;omega
def Tw{ds:List aa}(h:ds.Pairwise cp)(hd:vS ds){i:Nat}(hi:i<ds.length)(hj:(i+1)%ds.length<ds.length):lA ds ds[i] ds[(i+1)%ds.length]:=by
 have hp:=jS.1 h;have irr: ∀{u v:aa},cp u v-> ¬cp v u:=fun{u v} a b=>by
  unfold cp at a b;rw[fH u v] at b;rcases a with a|⟨a,a'⟩<;>rcases b with b|⟨b,b'⟩
  .omega
  .omega
  .omega
  .grind
 have ord: ∀{j k:Nat} (a:j<ds.length) (b:k<ds.length),cp ds[j] ds[k]->j<k:=fun{j k} a b q=>by
  rcases pL j k with e|e|e
  .exact e
  .subst e;exact absurd q (irr q)
  .exact absurd (hp k j b a e) (irr q)
 by_cases hl:i+1<ds.length
 .have e:(i+1)%ds.length=i+1:=dZ hl
  simp only[e];refine .inl ⟨hp i (i+1) hi hl we,fun d hd' ⟨q1,q2⟩=>?_⟩;obtain⟨j,hj',rfl⟩:=oL hd';have:=ord hi hj' q1;have:=ord hj' hl q2;omega
 .have e:(i+1)%ds.length=0:=by rw[show i+1=ds.length by omega];exact lX _
  simp only[e];refine .inr ⟨fun d hd' q=>?_,fun d hd' q=>?_⟩
  .obtain⟨j,hj',rfl⟩:=oL hd'
   have:=ord hi hj' q;omega
  .obtain⟨j,hj',rfl⟩:=oL hd'
   have:=ord hj' we q;omega
def Dp{ds:List aa}{i:Nat}(h:i<ds.length):ds.getD i ⟨0,0⟩=ds[i]:=by
 rw[aJ,aZ h,lW]
def yx{z:Rat}(h:z<0):Int.sign z.num= -1:=by
 have:=(oB _).2 h;rcases kS z.num 0 with q|q|q
 .exact fZ q
 .rw[q] at this;simp at this
 .rw[fJ q] at this;simp at this
def mh:Tr->aa->List ab
 | .leaf _,_=>[]
 | .node l x y,p=>(if Int.sign (l.value p).num=0 then [l] else [])++((if 0<=Int.sign (l.value p).num then mh x p else [])++(if Int.sign (l.value p).num<=0 then mh y p else []))
def pq: ∀{t:Tr} {p:aa} {l:ab},l∈mh t p->l∈t.lns/\l.value p=0
 | .leaf _,p,l,h=>by cases h
 | .node m x y,p,l,h=>by
  rw[mh,bJ,bJ] at h;rcases h with h|h|h
  .split at h
   .rw[aV] at h;subst h
    rename_i k;exact⟨aQ,(l5 _).1 k⟩
   .cases h
  .split at h
   .have:=pq h;exact⟨aX _ (bK _ this.1),this.2⟩
   .cases h
  .split at h
   .have:=pq h;exact⟨aX _ (bW _ this.1),this.2⟩
   .cases h
def Pe{t:Tr}{p v:aa}(h:Gn t.lns p v):Gn (mh t p) p v:=fun l hl hz=>h l (pq hl).1 hz
def BZ: ∀{t:Tr} {p v w:aa},(∀l∈mh t p,Int.sign (l.nor.dot v).num=Int.sign (l.nor.dot w).num)->gI t p v=gI t p w
 | .leaf _,_,_,_,_=>rfl
 | .node l x y,p,v,w,h=>by
  have hx:0<=Int.sign (l.value p).num->gI x p v=gI x p w:=fun k=>BZ fun m hm=>h m (by rw[mh,bJ,bJ,if_pos k];exact .inr (.inl hm));have hy:Int.sign (l.value p).num<=0->gI y p v=gI y p w:=fun k=>BZ fun m hm=>h m (by rw[mh,bJ,bJ,if_pos k];exact .inr (.inr hm));rw[gI,gI,rj,rj];by_cases k:Int.sign (l.value p).num=0
  .rw[if_pos k,if_pos k,<-h l (by rw[mh,if_pos k];exact aQ),hx we,hy we]
  .rw[if_neg k,if_neg k]
   generalize Int.sign (l.value p).num=s at*;split
   .exact hx oma
   .exact hy oma
   .rfl
def Kz{L M:List ab}{p v:aa}(hM: ∀l∈M,l.ok)(hL:Gn L p v): ∃w,Gn M p w/\ ∀l∈L,l.value p=0->Int.sign (l.nor.dot v).num=Int.sign (l.nor.dot w).num:=by
 have e2: ∀l:ab,l.value p=0->l.value (av p v 1)=l.nor.dot v:=fun l hz=>by rw[iw,hz];grind
 have hp':bm ((L.filter fun l=>decide (l.value p=0)).map fun l=>(⟨if 0<l.value (av p v 1) then l else l.rev,ai.all⟩:aI)) (av p v 1):=fun s hs=>by
  obtain⟨l,hl,rfl⟩:=aS.1 hs;obtain⟨h1,h2⟩:=iZ.1 hl;have h3:=of_decide_eq_true h2;have h0:l.value (av p v 1)≠0:=by rw[e2 l h3];exact hL l h1 h3
  simp only;split
  .assumption
  .rw[fg];grind
 obtain⟨q,q1,q2⟩:=FS hp' M hM;have e: ∀l:ab,l.value p=0->l.value q=l.nor.dot ⟨q.x-p.x,q.y-p.y⟩:=fun l hz=>by
  have h1:=iw l p ⟨q.x-p.x,q.y-p.y⟩ 1;rw[hz] at h1;have h2:av p ⟨q.x-p.x,q.y-p.y⟩ 1=q:=by
   unfold av
   cases q
   simp only[aa.mk.injEq];constructor<;>grind
  rw[h2] at h1;rw[h1];grind
 refine⟨⟨q.x-p.x,q.y-p.y⟩,fun m hm hz=>?_,fun l hl hz=>?_⟩
 .rw[<-e m hz];exact q2 m hm
 .have h1:=q1 _ (aS.2 ⟨l,iZ.2 ⟨hl,decide_eq_true hz⟩,J⟩)
  simp only at h1;rw[e2 l hz] at h1;rw[<-e l hz];have h0:=hL l hl hz;split at h1
  .rename_i k
   rw[(m8 _).2 k,(m8 _).2 h1]
  .rename_i k
   rw[fg] at h1;rw[yx omb,yx omb]
def uW(t:Tr)(p:aa)(b:Bool):Prop:= ∃v,Gn (mh t p) p v/\(gI t p v).1=b
def K6{t:Tr}{p w:aa}(h:Gn t.lns p w):uW t p (gI t p w).1:=⟨w,Pe h,J⟩
def aD5{t:Tr}{p:aa}{b:Bool}(h:uW t p b){M:List ab}(hM: ∀l∈M,l.ok): ∃w,Gn M p w/\(gI t p w).1=b:=by
 obtain⟨v,h1,h2⟩:=h;obtain⟨w,k1,k2⟩:=Kz hM h1;exact⟨w,k1,by rw[<-h2,BZ fun l hl=>k2 l hl (pq hl).2]⟩
def XO{M:List ab}(hM: ∀l∈M,l.ok)(p:aa): ∃w,Gn M p w:=by
 obtain⟨w,h,_⟩:=Kz (L:=[]) (M:=M) (p:=p) (v:=⟨1,0⟩) hM fun l hl=>by cases hl
 exact⟨w,h⟩
def ZV{t:Tr}(ht:t.all ab.ok)(p:aa):uW t p true\/uW t p false:=by
 obtain⟨w,h⟩:=XO (jO ht) p;have:=K6 h
 cases hb:(gI t p w).1 with
 |true=>rw[hb] at this;exact .inl this
 |false=>rw[hb] at this;exact .inr this
def min2{a b:Rat}(ha:0<a)(hb:0<b): ∃d:Rat,0<d/\d<=a/\d<=b:=by
 by_cases k:a<=b
 .exact⟨a,ha,omb,k⟩
 .exact⟨b,hb,omb,omb⟩
def pO(ds:List aa)(i:Nat):aa:=
 if 0<Int.sign ((ds.getD i ⟨0,0⟩).cross (ds.getD ((i+1)%ds.length) ⟨0,0⟩)).num then(ds.getD i ⟨0,0⟩).add (ds.getD ((i+1)%ds.length) ⟨0,0⟩) else eG (ds.getD i ⟨0,0⟩)
def lE(ds:List aa):List aa:=if ds.length=0 then [⟨1,0⟩] else(List.range ds.length).map (pO ds)
def Ul(u w:aa):u.add w=iA 1 1 u w:=by
 unfold aa.add iA;simp only[aa.mk.injEq];constructor<;>grind
def R8{x:aa}: ∀{S:List aa},S≠[]->(∀d∈S,0<d.cross x)-> ∃u∈S,∀d∈S,0<=d.cross u
 |[],h,_=>absurd J h
 |[d],_,_=>⟨d,aQ,fun e he=>by rw[aV] at he;subst he;rw[PX];exact dX⟩
 |d0::d1::S,_,h=>by
  obtain⟨u,h1,h2⟩:=R8 (S:=d1::S) omc fun d hd=>h d (aX _ hd);by_cases k:0<=d0.cross u
  .exact⟨u,aX _ h1,fun d hd=>(aW.1 hd).elim (fun e=>e▸k) (h2 d)⟩
  .refine⟨d0,aQ,fun d hd=>(aW.1 hd).elim (fun e=>by rw[e,PX];exact dX) fun hd=>?_⟩
   have p0:=h d0 aQ;have pu:=h u (aX _ h1);have pd:=h d (aX _ hd);have k1:=h2 d hd;have k2:0<u.cross d0:=by rw[fH] at k;grind
   have e:d.cross d0*u.cross x=u.cross d0*d.cross x+d.cross u*d0.cross x:=by unfold aa.cross;grind
   have n1:=bg k2 pd;have n2:=bz k1 (aN p0);generalize d.cross d0=A at*;generalize u.cross x=B at*;by_cases hA:0<=A
   .exact hA
   .have:=bg (a:= -A) (b:=B) omb pu
    grind
def aAL{ds:List aa}(h:ds.Pairwise cp)(hd:vS ds)(hn:ds≠[]){x:aa}(hx: ∀d∈ds,d.cross x≠0): ∃i,i<ds.length/\ ∀d∈ds,Int.sign (d.cross x).num=Int.sign (d.cross (pO ds i)).num:=by
 have hne:(ds.filter fun d=>decide (0<d.cross x))≠[]:=by
  obtain⟨d,r,rfl⟩:=List.exists_cons_of_ne_nil hn;intro e;have h1: ¬0<d.cross x:=fun k=>by
   have:d∈(d::r).filter fun d=>decide (0<d.cross x):=iZ.2 ⟨aQ,decide_eq_true k⟩;rw[e] at this;cases this
  have h2:=hx d aQ;have h3:0<(bP d).cross x:=by rw[fH,mB,<-fH];grind
  have:bP d∈(d::r).filter fun d=>decide (0<d.cross x):=iZ.2 ⟨hd.neg d aQ,decide_eq_true h3⟩;rw[e] at this;cases this
 obtain⟨u,hu,hl⟩:=R8 hne fun d hd=>of_decide_eq_true (iZ.1 hd).2;obtain⟨hu1,hu2⟩:=iZ.1 hu;have hux:=of_decide_eq_true hu2;obtain⟨i,hi,rfl⟩:=oL hu1;have hj:(i+1)%ds.length<ds.length:=dQ _ we;have hnx:=Tw h hd hi hj;have mw:=bN hj;refine⟨i,hi,?_⟩;have key: ∀d∈ds,0<d.cross x->0<d.cross (pO ds i):=fun d hdm hdx=>by
  have hdu:0<=d.cross ds[i]:=hl d (iZ.2 ⟨hdm,decide_eq_true hdx⟩);unfold pO;rw[Dp hi,Dp hj];generalize ds[(i+1)%ds.length]=w at*;generalize ds[i]=u at*;have hp:=hnx.pos hd hu1 mw;have zd:=hd.nz d hdm;have zu:=hd.nz u hu1;split
  .rename_i k
   have hc:=(k9 _).1 k;rw[Ul];have hg:=hnx.gen hd hu1 mw omb (a:=1) (b:=1) oma oma d hdm;have e:d.cross (iA 1 1 u w)=d.cross u+d.cross w:=by unfold aa.cross iA;grind
   rw[e] at hg⊢;by_cases hw:0<=d.cross w
   .grind
   .exfalso
    -- -d uJ between u and w
    rcases cP (d.cross u) with q|q|q
    .-- d runs along u
     have hdd:0<d.dot u:=by
      rcases cP (d.dot u) with r|r|r
      .exact absurd r (DI zd zu q)
      .exact r
      .exfalso
       have q':(bP d).cross u=0:=by unfold aa.cross bP at*;grind
       have r':0<(bP d).dot u:=by unfold aa.dot bP at*;grind
       obtain⟨g,g1,g2⟩:=wD q' r';have:d.cross x= -(g*u.cross x):=by
        have h1:(bP d).x=g*u.x:=by rw[g2]
        have h2:(bP d).y=g*u.y:=by rw[g2]
        unfold bP at h1 h2;simp only at h1 h2;unfold aa.cross;grind
       have:=bg g1 hux;grind
     obtain⟨g,g1,g2⟩:=wD q hdd;have:d.cross w=g*u.cross w:=by rw[g2];unfold aa.cross;grind
     have:=bg g1 hc;grind
    .have hb:bP d=iA (-(d.cross w)/u.cross w) (d.cross u/u.cross w) u w:=by
      have hz:u.cross w≠0:=by grind
      have e1: -(d.cross w)/u.cross w*u.cross w= -(d.cross w):=by grind
      have e2:d.cross u/u.cross w*u.cross w=d.cross u:=by grind
      unfold bP iA;generalize-(d.cross w)/u.cross w=a at*;generalize d.cross u/u.cross w=b at*;simp only[aa.mk.injEq];have f1:(a*u.x+b*w.x+d.x)*u.cross w=0:=by
       have:(a*u.x+b*w.x+d.x)*u.cross w=a*u.cross w*u.x+b*u.cross w*w.x+d.x*u.cross w:=by grind
       rw[this,e1,e2];unfold aa.cross;grind
      have f2:(a*u.y+b*w.y+d.y)*u.cross w=0:=by
       have:(a*u.y+b*w.y+d.y)*u.cross w=a*u.cross w*u.y+b*u.cross w*w.y+d.y*u.cross w:=by grind
       rw[this,e1,e2];unfold aa.cross;grind
      constructor<;>grind
     refine hnx.none hd hu1 mw omb (a:= -(d.cross w)/u.cross w) (b:=d.cross u/u.cross w) ?_ ?_ (by rw[<-hb];exact hd.neg d hdm)
     .refine(gi (k:=u.cross w) hc).1 ?_
      have e1: -(d.cross w)/u.cross w*u.cross w= -(d.cross w):=by grind
      rw[e1];grind
     .refine(gi (k:=u.cross w) hc).1 ?_
      have e1:d.cross u/u.cross w*u.cross w=d.cross u:=by grind
      rw[e1];exact q
    .grind
  .rename_i k
   have hc:u.cross w=0:=by have: ¬0<u.cross w:=fun e=>k ((k9 _).2 e);grind
   have hg:=hnx.turn hd hu1 mw hc d hdm;rw[Lx] at hg⊢;rcases cP (d.dot u) with r|r|r
   .exact absurd r hg
   .exact r
   .exfalso
    -- all directions run along u
    have hdc:d.cross u=0:=by
     rcases hnx.spec hd hu1 mw with⟨_,h2,_⟩|⟨h1,h2,h3⟩
     .rw[hc] at h2;exact absurd h2 oma
     .have zw:=ig (hd.nz w mw)
      have zu':=ig zu;have zd':=ig zd;have hwu: ∃g:Rat,0<g/\w=⟨g*(bP u).x,g*(bP u).y⟩:=by
       refine wD (d:=bP u) (e:=w) (by rw[mB,fH,hc];grind) ?_;rcases cP (w.dot u) with s|s|s
       .exact absurd s (DI (hd.nz w mw) zu (by rw[fH,hc];rfl))
       .exfalso
        obtain⟨g,g1,g2⟩:=wD (d:=u) (e:=w) (by rw[fH,hc];rfl) s;apply h1;rw[g2];rcases lI u with⟨x0,s0⟩|⟨x0,s0⟩|⟨x0,s0⟩
        .rw[x0]
         refine(mr.2 ?_).symm;rcases s0 with s0|⟨s0,s1⟩
         .exact .inl (bg g1 s0)
         .exact .inr ⟨by show g*u.y=0;rw[s0];grind,bg g1 s1⟩
        .rw[x0]
         refine(qC.2 ?_).symm;rcases s0 with s0|⟨s0,s1⟩
         .exact .inl (by show g*u.y<0;have:=bg (a:=g) (b:= -u.y) g1 omb;grind)
         .exact .inr ⟨by show g*u.y=0;rw[s0];grind,by show g*u.x<0;have:=bg (a:=g) (b:= -u.x) g1 omb;grind⟩
        .exact absurd x0 zu
       .unfold aa.dot bP at*;grind
      obtain⟨g,g1,g2⟩:=hwu;have cw: ∀e:aa,w.cross e=g* -(u.cross e):=fun e=>by rw[g2];unfold aa.cross bP;grind
      by_cases hh:d.half=u.half
      .have a1:=h2 d hdm hh
       have a2:=h3 _ (hd.neg d hdm) (by rw[uA zd];omega);rw[cw,mB,fH d u] at a2;rcases cP (d.cross u) with s|s|s
       .exact s
       .have:=bg g1 s;grind
       .grind
      .have a1:=h2 _ (hd.neg d hdm) (by rw[uA zd];omega)
       have a2:=h3 d hdm we;rw[cw,fH d u] at a2;have e3:(bP d).cross u= -(d.cross u):=by unfold aa.cross bP;grind
       rw[e3] at a1;rcases cP (d.cross u) with s|s|s
       .exact s
       .grind
       .have:=bg (a:=g) (b:= -(d.cross u)) g1 omb;grind
    have q':(bP d).cross u=0:=by unfold aa.cross bP at*;grind
    have r':0<(bP d).dot u:=by unfold aa.dot bP at*;grind
    obtain⟨g,g1,g2⟩:=wD q' r';have:d.cross x= -(g*u.cross x):=by
     have h1:(bP d).x=g*u.x:=by rw[g2]
     have h2:(bP d).y=g*u.y:=by rw[g2]
     unfold bP at h1 h2;simp only at h1 h2;unfold aa.cross;grind
    have:=bg g1 hux;grind
 intro d hdm;rcases cP (d.cross x) with k|k|k
 .exact absurd k (hx d hdm)
 .rw[(m8 _).2 k,(m8 _).2 (key d hdm k)]
 .have en: ∀y:aa,(bP d).cross y= -(d.cross y):=fun y=>by unfold aa.cross bP;grind
  have:=key _ (hd.neg d hdm) (by rw[en];grind);rw[en] at this;rw[yx k,yx omb]
end Go.Sx
end
