import Derived.Test.YtefoocgiaegobaaGreatDoorPd15
set_option linter.all false
set_option maxHeartbeats 4000000
set_option maxRecDepth 100000
section
namespace Go.Sx
open Go Go.Proofs Tryz
variable {GB:Gh}
def Tb(t:Rat):eV ⟨t,0,false,true⟩= .ag [.v (.bool (decide (t.num<0))),dN t.num.natAbs,dD t.den, .v (.bool false), .sl [], .sl [], .v (.bool false), .v (.bool true)]:=by
 unfold eV dD;simp only[show(0:Rat).num=0 from J,show(0:Rat).den=1 from J,kU,n5];rfl
def R2(t:Rat):eV ⟨0,t,true,false⟩= .ag [.v (.bool false), .sl [], .sl [], .v (.bool (decide (t.num<0))),dN t.num.natAbs,dD t.den, .v (.bool true), .v (.bool false)]:=by
 unfold eV dD;simp only[show(0:Rat).num=0 from J,show(0:Rat).den=1 from J,kU,n5];rfl
def xj(l m:aa)(side:Int):DV:= .tp [.sl ((gz l m side).map eV),vB (ka l m)]
def JC{l m:aa}(h:crossI l m≠0):ka l m=false:=by unfold ka;rw[decide_eq_false];exact fun e=>h e.1
def L7{l m:aa}(h:crossI l m=0):ka l m=decide ((m.value l.base).num.sign=0):=by unfold ka;simp[h]
def NA{l m:aa}{side:Int}[hl:LB l][hm:LB m](hlo:l.ok)(hmo:m.ok)(hs:side=1\/side= -1):PF GB prog 267 [eL l,eL m,vI side] (xj l m side):=by
 refine fn func267 J J ntmps267 J J (fun C=>?_);refine cl J (Mi (l:=l) (m:=m)) J<|?_;refine bb J J J (fun hc19=>?_) (fun hc19=>?_)
 .
  have hc:crossI l m=0:=by simpa using hc19
  refine cl J (Dt hlo.ne) J<|cl J (AW (l:=m) (p:=l.base)) J<|?_;refine br J J J (fun hc26=>?_) (fun hc26=>?_)
  .
   refine cl J JH J<|rf J J<|?_;exact rz J (by unfold xj gz;rw[if_pos hc,if_pos hc26,L7 hc];rfl)
  .
   exact rz J (by unfold xj gz;rw[if_pos hc,if_neg hc26,L7 hc];rfl)
 .
  have hc:crossI l m≠0:=by simpa using hc19
  haveI hpb:=Dn (l:=l) (m:=m) hlo.ne hc;obtain⟨t,ht⟩: ∃t,t=er l (fD l m):=⟨_,rfl⟩;refine cl (fu:=⟨0⟩) J (Cv (l:=l) (p:=fD l m) hlo.ne) J<|?_;refine ak 35 (.d (eQ t)) J (by rw[ht]) ?_;rw[<-ht] at hpb;refine gx J<|cl J (kI (n:=1) (by decide) (by decide)) J<|cl J (ot (a:=t) (b:=((1:Int):Rat))) J<|cl J (Kg (l:=l) (t:=t+((1:Int):Rat)) hlo.ne) J<|?_;refine cl J (AW (l:=m) (p:=l.at (t+((1:Int):Rat)))) J<|?_;refine br J J J (fun hc44=>?_) (fun hc44=>?_)
  .
   refine rf J J<|?_;exact rz J (by unfold xj gz;rw[if_neg hc,<-ht,if_pos (show(m.value (l.at (t+1))).num.sign=side from hc44),JC hc,bJ,Tb];rfl)
  .
   refine rf J J<|?_;exact rz J (by unfold xj gz;rw[if_neg hc,<-ht,if_neg (show¬(m.value (l.at (t+1))).num.sign=side from hc44),JC hc,bJ,R2];rfl)
def eG(f:aG):DV:= .ag [.v (.bool (decide (f.l.a<0))),dN f.l.a.natAbs, .v (.bool (decide (f.l.b<0))),dN f.l.b.natAbs, .v (.bool (decide (f.l.c<0))),dN f.l.c.natAbs, .v (.bool (decide (f.v.lo.num<0))),dN f.v.lo.num.natAbs,dD f.v.lo.den, .v (.bool (decide (f.v.hi.num<0))),dN f.v.hi.num.natAbs,dD f.v.hi.den, .v (.bool f.v.nl), .v (.bool f.v.nh)]
def wE(fs:List aG):cC 14 (fs.map eG):=fun d hd=>by
 obtain⟨u,_,rfl⟩:=bM.1 hd;exact⟨rfl,rfl⟩
theorem wW{p:ZP}(h:ZP.le 100 p):aI p.q 12:=by
 haveI:BI p.1 11:=ji (by have:=h.1;omega) (by decide);haveI:BI p.2 11:=ji (by have:=h.2;omega) (by decide);exact(inferInstance:aI (iP p.1 p.2) 12)
def Vi{v w:ZP}(hv:ZP.le 100 v)(hw:ZP.le 100 w)(h:v≠w):PF GB prog 173 [eP v.q,eP w.q] (.tp [eG (cI v w),vB true]):=by
 have hne: ¬(w.1=v.1/\w.2=v.2):=fun e=>h (Prod.ext e.1.symm e.2.symm);obtain⟨hlb,hlo⟩:=L6 (m:=v.1) (n:=v.2) (p:=w.1) (q:=w.2) (by have:=hv.1;omega) (by have:=hv.2;omega) (by have:=hw.1;omega) (by have:=hw.2;omega) hne;haveI:=hlb;haveI:=wW hv;haveI:=wW hw;refine fn func173 J J ntmps173 J J (fun C=>?_);refine cl (fu:=⟨3⟩) J (auh (m:=v.1) (n:=v.2) (m':=w.1) (n':=w.2) (by have:=hv.1;omega) (by have:=hv.2;omega) (by have:=hw.1;omega) (by have:=hw.2;omega) (fun e=>hne ⟨e.1.symm,e.2.symm⟩)) J<|?_;refine py 13 J ?_;refine gx J<|cl J (Cv (l:=ip v.1 v.2 w.1 w.2) (p:=v.q) hlo.ne) J<|cl J (Cv (l:=ip v.1 v.2 w.1 w.2) (p:=w.q) hlo.ne) J<|?_;exact rz J J
def aEs(a b:Bool):eV ⟨0,0,a,b⟩= .ag [.v (.bool false), .sl [], .sl [], .v (.bool false), .sl [], .sl [], .v (.bool a), .v (.bool b)]:=by
 unfold eV dD;simp only[show(0:Rat).num=0 from J,show(0:Rat).den=1 from J,kU,n5];rfl
def Pq(t:Rat)(a b:Bool):eV ⟨t,0,a,b⟩= .ag [.v (.bool (decide (t.num<0))),dN t.num.natAbs,dD t.den, .v (.bool false), .sl [], .sl [], .v (.bool a), .v (.bool b)]:=by
 unfold eV dD;simp only[show(0:Rat).num=0 from J,show(0:Rat).den=1 from J,kU,n5];rfl
def QS(t:Rat)(a b:Bool):eV ⟨0,t,a,b⟩= .ag [.v (.bool false), .sl [], .sl [], .v (.bool (decide (t.num<0))),dN t.num.natAbs,dD t.den, .v (.bool a), .v (.bool b)]:=by
 unfold eV dD;simp only[show(0:Rat).num=0 from J,show(0:Rat).den=1 from J,kU,n5];rfl
def Ya{cuts:List Rat}{i:Nat}(h:i=0)(k: ¬i<cuts.length):ck cuts i=⟨0,0,decide (i=0),decide (i=cuts.length)⟩:=by unfold ck;rw[if_pos h,if_neg k]
def RI{cuts:List Rat}{i:Nat}{y:Rat}(h:i=0)(k:cuts[i]? =some y):ck cuts i=⟨0,y,decide (i=0),decide (i=cuts.length)⟩:=by
 unfold ck;rw[if_pos h,if_pos (aM.1 k).1,aX,k];rfl
def Q4{cuts:List Rat}{i:Nat}{x:Rat}(h: ¬i=0)(k:cuts[i-1]? =some x)(k2: ¬i<cuts.length):ck cuts i=⟨x,0,decide (i=0),decide (i=cuts.length)⟩:=by
 unfold ck;rw[if_neg h,if_neg k2,aX,k];rfl
def Xq{cuts:List Rat}{i:Nat}{x y:Rat}(h: ¬i=0)(k:cuts[i-1]? =some x)(k2:cuts[i]? =some y):ck cuts i=⟨x,y,decide (i=0),decide (i=cuts.length)⟩:=by
 unfold ck;rw[if_neg h,if_pos (aM.1 k2).1,aX,k,aX,k2];rfl
def avm{cuts:List Rat}{marks:List Bool}{k:Nat}(h:marks[k]? =some false):c9 cuts marks (k+1)=c9 cuts marks k:=by
 rw[c9,aX,h];rfl
def Dj{cuts:List Rat}{marks:List Bool}{k:Nat}(h:marks[k]? =some true)(hp: ¬(0<k/\marks[k-1]? =some true)):c9 cuts marks (k+1)=c9 cuts marks k++[ck cuts k]:=by
 rw[c9,aX,h];show(if 0<k/\_ then _ else _)=_;rw[if_neg];rintro ⟨h1,h2⟩;rw[aX] at h2
 cases e:marks[k-1]? with
 |none=>rw[e] at h2;cases h2
 |some b=>rw[e] at h2;exact hp ⟨h1,by rw[e];simp at h2;rw[h2]⟩
def Lh{cuts:List Rat}{marks:List Bool}{k:Nat}(h:marks[k]? =some true):c9 cuts marks (k+1)≠[]:=by
 rw[c9,aX,h];show(if 0<k/\_ then _ else _)≠[];split
 ·split<;>simp
 ·simp
def Lt{cuts:List Rat}{marks:List Bool}{k:Nat}{xs:List aj}{v:aj}(hk:0<k)(h:marks[k]? =some true)(hp:marks[k-1]? =some true)(hx:c9 cuts marks k=xs)(hv:xs[xs.length-1]? =some v):c9 cuts marks (k+1)=xs.set (xs.length-1) (kb v (ck cuts k)):=by
 rw[c9,aX,h];show(if 0<k/\_ then _ else _)=_;rw[if_pos ⟨hk,by rw[aX,hp];rfl⟩,hx,lY,hv];have hn:0<xs.length:=by
  have:=(aM.1 hv).1;omega
 show xs.dropLast++[_]=_;apply oU;intro i;rw[nZ];by_cases hi:i<xs.length-1
 ·rw[eX (by rw[iZ];exact hi),rX,if_pos hi,if_neg (by omega)]
 ·by_cases hi2:i=xs.length-1
  ·subst hi2
   rw[iV (by rw[iZ];exact aL _),iZ,pX,if_pos J,if_pos (by omega)];rfl
  ·rw[eY (by rw[aY,iZ];simp;omega),if_neg (by omega),eY (by omega)]
def wR{α:Type}{f:α->DV}{l:List α}{k:Nat}{x:α}(hk:0<k)(h:l[k-1]? =some x):(l.map f)[(((k:Nat):Int)-1).toNat]? =some (f x):=by
 rw[show(((k:Nat):Int)-1).toNat=k-1 by omega,eJ,h];rfl
def qv{k n:Nat}:decide (k=n)=decide (((k:Nat):Int)=((n:Nat):Int)):=decide_eq_decide.2 (by omega)
def aG6(v w:aj):aj:=⟨v.lo,w.hi,v.nl,v.nh⟩
def R3{cuts:List Rat}{marks:List Bool}(hn:cuts.length<=100000)(hmk:marks.length<=cuts.length+1):PF GB prog 293 [.sl (cuts.map eQ), .sl (marks.map vB)] (.sl ((iH cuts marks).map eV)):=by
 have hm:=fI vB marks;have hmc:=fI eQ cuts;refine fn (fu:=⟨15⟩) func293 J J ntmps293 J J (fun C=>?_);refine ak 11 (.d (vI (marks.length:Nat))) J (by rw[hm]<;>rfl) ?_;refine gx J<|?_;refine nr 5 5 159 8 J J J ?_;refine lp (X:=List aj×Nat) (fun⟨xs,k⟩=>[(12, .d (vI (k:Nat))),(5, .rw 5)]) (fun⟨xs,k⟩=>[(5,some (.b 159 8 (xs.map eV) true))]) (fun⟨xs,k⟩=>xs=c9 cuts marks k/\k<=marks.length) (fun⟨xs,k⟩=>marks.length-k) ([],0) J ⟨J,bQ _⟩ (fun _=>J) (fun⟨xs,k⟩ hk=>?_);dsimp only at hk⊢;obtain⟨h1,h2⟩:=hk;have hml:=fI eV xs;have hxl:xs.length<=k:=by rw[h1];exact Fv
 refine br J J J (fun hc13=>?_) (fun hc13=>?_)
 .
  obtain⟨b,hz⟩: ∃s,marks[k]? =some s:=⟨_,aZ (by omega)⟩;refine ix (fu:=⟨8⟩) _ J (d9 hz) J<|?_
  cases b
  .
   refine d7 (fu:=⟨12⟩) J J J<|?_;exact at_ (xs,k+1) (by dsimp only;exact⟨⟨by rw[avm hz,<-h1],by omega⟩,(by omega)⟩)
  .
   refine dx (fu:=⟨13⟩) J J J<|?_;rcases(show(k=0/\k<cuts.length)\/(k=0/\ ¬k<cuts.length)\/(0<k/\k<cuts.length)\/(0<k/\ ¬k<cuts.length) by omega) with⟨c1,c2⟩|⟨c1,c2⟩|⟨c1,c2⟩|⟨c1,c2⟩
   .
    obtain⟨y,hy⟩: ∃s,cuts[k]? =some s:=⟨_,aZ (by omega)⟩;have hgap:=RI (cuts:=cuts) (i:=k) c1 hy;have hnp: ¬(0<k/\marks[k-1]? =some true):=fun e=>by omega
    refine ak 23 (.d (vI (cuts.length:Nat))) J (by rw[hmc]<;>rfl) ?_;refine gx (fu:=⟨10⟩) J<|d7 (fu:=⟨11⟩) J (by show some (decide _)=some false;rw[decide_eq_false (by omega)]) J<|?_;refine ak 36 (.d (vI (cuts.length:Nat))) J (by rw[hmc]<;>rfl) ?_;refine gx (fu:=⟨0⟩) J<|dx J (by show some (decide _)=some true;rw[decide_eq_true (by omega)]) J<|ix (fu:=⟨10⟩) _ J (d9 hy) J<|?_;refine ak 44 (.d (vI (xs.length:Nat))) J (by rw[hml]<;>rfl) ?_;refine gx (fu:=⟨6⟩) J<|d7 (fu:=⟨19⟩) J (by show some (decide _)=some false;rw[decide_eq_false (by omega)]) J<|?_;refine ak 73 (.d (eV (ck cuts k))) J (by rw[hgap,QS,qv (k:=k) (n:=0),qv (k:=k) (n:=cuts.length)]<;>rfl) ?_;refine gx J<|rf J J<|ap (fu:=⟨12⟩) ((xs++[ck cuts k]).map eV) J (by rw[bT];rfl) (vJ [ck cuts k]) J<|?_;refine fA 75 5 J ?_;exact at_ (xs++[ck cuts k],k+1) (by dsimp only;exact⟨⟨by rw[Dj hz hnp,<-h1],by omega⟩,(by omega)⟩)
   .
    have hgap:=Ya (cuts:=cuts) (i:=k) c1 c2;have hnp: ¬(0<k/\marks[k-1]? =some true):=fun e=>by omega
    refine ak 23 (.d (vI (cuts.length:Nat))) J (by rw[hmc]<;>rfl) ?_;refine gx (fu:=⟨10⟩) J<|d7 (fu:=⟨11⟩) J (by show some (decide _)=some false;rw[decide_eq_false (by omega)]) J<|?_;refine ak 36 (.d (vI (cuts.length:Nat))) J (by rw[hmc]<;>rfl) ?_;refine gx (fu:=⟨0⟩) J<|d7 (fu:=⟨10⟩) J (by show some (decide _)=some false;rw[decide_eq_false (by omega)]) J<|?_;refine ak 44 (.d (vI (xs.length:Nat))) J (by rw[hml]<;>rfl) ?_;refine gx (fu:=⟨6⟩) J<|d7 (fu:=⟨19⟩) J (by show some (decide _)=some false;rw[decide_eq_false (by omega)]) J<|?_;refine ak 73 (.d (eV (ck cuts k))) J (by rw[hgap,aEs,qv (k:=k) (n:=0),qv (k:=k) (n:=cuts.length)]<;>rfl) ?_;refine gx J<|rf J J<|ap (fu:=⟨12⟩) ((xs++[ck cuts k]).map eV) J (by rw[bT];rfl) (vJ [ck cuts k]) J<|?_;refine fA 75 5 J ?_;exact at_ (xs++[ck cuts k],k+1) (by dsimp only;exact⟨⟨by rw[Dj hz hnp,<-h1],by omega⟩,(by omega)⟩)
   .
    obtain⟨x,hx⟩: ∃s,cuts[k-1]? =some s:=⟨_,aZ (by omega)⟩;obtain⟨pb,hpb⟩: ∃s,marks[k-1]? =some s:=⟨_,aZ (by omega)⟩;obtain⟨y,hy⟩: ∃s,cuts[k]? =some s:=⟨_,aZ (by omega)⟩;have hgap:=Xq (cuts:=cuts) (i:=k) (by omega) hx hy;refine ak 23 (.d (vI (cuts.length:Nat))) J (by rw[hmc]<;>rfl) ?_;refine gx (fu:=⟨10⟩) J<|dx J (by show some (decide _)=some true;rw[decide_eq_true (by omega)]) J<|ix (fu:=⟨11⟩) _ J (wR (by omega) hx) J<|?_;refine ak 36 (.d (vI (cuts.length:Nat))) J (by rw[hmc]<;>rfl) ?_;refine gx (fu:=⟨0⟩) J<|dx J (by show some (decide _)=some true;rw[decide_eq_true (by omega)]) J<|ix (fu:=⟨10⟩) _ J (d9 hy) J<|?_;refine ak 44 (.d (vI (xs.length:Nat))) J (by rw[hml]<;>rfl) ?_;refine gx (fu:=⟨6⟩) J<|dx J (by show some (decide _)=some true;rw[decide_eq_true (by omega)]) J<|ix _ J (wR (by omega) hpb) J<|?_;refine jv (fu1:=⟨1⟩) (fu2:=⟨11⟩) 54 J J J (fun hg54=>?_) (fun hg54=>?_)
    .
     have hpb':marks[k-1]? =some true:=by rw[hpb];congr 1
     have hxn:0<xs.length:=by rw[h1];have:=Lh (cuts:=cuts) hpb';rw[show k-1+1=k by omega] at this;exact nW.2 this
     obtain⟨w,hw⟩: ∃s,xs[xs.length-1]? =some s:=⟨_,aZ (by omega)⟩;refine dx J (by show some (decide _)=some true;rw[decide_eq_true (by omega)]) J<|sb (eV w) ((xs.set (xs.length-1) (⟨w.lo,y,w.nl,w.nh⟩:aj)).map eV) J (wR hxn hw) J (by rw[show(((xs.length:Nat):Int)-1).toNat=xs.length-1 by omega,jU];rfl) J<|?_;refine sb (hv:=by simp only[ah];exact⟨by kernel_rfl,by omega⟩) (eV (⟨w.lo,y,w.nl,w.nh⟩:aj)) ((xs.set (xs.length-1) (kb w (ck cuts k))).map eV) J (by rw[show(((xs.length:Nat):Int)-1).toNat=xs.length-1 by omega,jU,nN (by rw[hml];omega)]) J (by rw[show(((xs.length:Nat):Int)-1).toNat=xs.length-1 by omega,jU,List.set_set,jU,hgap];unfold kb;dsimp only;rw[qv (k:=k) (n:=cuts.length)]<;>rfl) J<|?_;exact at_ (xs.set (xs.length-1) (kb w (ck cuts k)),k+1) (by dsimp only;exact⟨⟨(Lt (by omega) hz hpb' h1.symm hw).symm,by omega⟩,(by omega)⟩)
    .
     have hnp: ¬(0<k/\marks[k-1]? =some true):=fun e=>by rw[hpb,hg54] at e;simpa using e.2
     refine ak 73 (.d (eV (ck cuts k))) J (by rw[hgap];unfold eV;dsimp only;rw[qv (k:=k) (n:=0),qv (k:=k) (n:=cuts.length)]<;>rfl) ?_;refine gx J<|rf J J<|ap (fu:=⟨12⟩) ((xs++[ck cuts k]).map eV) J (by rw[bT];rfl) (vJ [ck cuts k]) J<|?_;refine fA 75 5 J ?_;exact at_ (xs++[ck cuts k],k+1) (by dsimp only;exact⟨⟨by rw[Dj hz hnp,<-h1],by omega⟩,(by omega)⟩)
   .
    obtain⟨x,hx⟩: ∃s,cuts[k-1]? =some s:=⟨_,aZ (by omega)⟩;obtain⟨pb,hpb⟩: ∃s,marks[k-1]? =some s:=⟨_,aZ (by omega)⟩;have hgap:=Q4 (cuts:=cuts) (i:=k) (by omega) hx c2;refine ak 23 (.d (vI (cuts.length:Nat))) J (by rw[hmc]<;>rfl) ?_;refine gx (fu:=⟨10⟩) J<|dx J (by show some (decide _)=some true;rw[decide_eq_true (by omega)]) J<|ix (fu:=⟨11⟩) _ J (wR (by omega) hx) J<|?_;refine ak 36 (.d (vI (cuts.length:Nat))) J (by rw[hmc]<;>rfl) ?_;refine gx (fu:=⟨0⟩) J<|d7 (fu:=⟨10⟩) J (by show some (decide _)=some false;rw[decide_eq_false (by omega)]) J<|?_;refine ak 44 (.d (vI (xs.length:Nat))) J (by rw[hml]<;>rfl) ?_;refine gx (fu:=⟨6⟩) J<|dx J (by show some (decide _)=some true;rw[decide_eq_true (by omega)]) J<|ix _ J (wR (by omega) hpb) J<|?_;refine jv (fu1:=⟨1⟩) (fu2:=⟨11⟩) 54 J J J (fun hg54=>?_) (fun hg54=>?_)
    .
     have hpb':marks[k-1]? =some true:=by rw[hpb];congr 1
     have hxn:0<xs.length:=by rw[h1];have:=Lh (cuts:=cuts) hpb';rw[show k-1+1=k by omega] at this;exact nW.2 this
     obtain⟨w,hw⟩: ∃s,xs[xs.length-1]? =some s:=⟨_,aZ (by omega)⟩;refine dx J (by show some (decide _)=some true;rw[decide_eq_true (by omega)]) J<|sb (eV w) ((xs.set (xs.length-1) (⟨w.lo,0,w.nl,w.nh⟩:aj)).map eV) J (wR hxn hw) J (by rw[show(((xs.length:Nat):Int)-1).toNat=xs.length-1 by omega,jU,Pq];rfl) J<|?_;refine sb (hv:=by simp only[ah];exact⟨by kernel_rfl,by omega⟩) (eV (⟨w.lo,0,w.nl,w.nh⟩:aj)) ((xs.set (xs.length-1) (kb w (ck cuts k))).map eV) J (by rw[show(((xs.length:Nat):Int)-1).toNat=xs.length-1 by omega,jU,nN (by rw[hml];omega)]) J (by rw[show(((xs.length:Nat):Int)-1).toNat=xs.length-1 by omega,jU,List.set_set,jU,hgap];unfold kb;dsimp only;rw[qv (k:=k) (n:=cuts.length)]<;>rfl) J<|?_;exact at_ (xs.set (xs.length-1) (kb w (ck cuts k)),k+1) (by dsimp only;exact⟨⟨(Lt (by omega) hz hpb' h1.symm hw).symm,by omega⟩,(by omega)⟩)
    .
     have hnp: ¬(0<k/\marks[k-1]? =some true):=fun e=>by rw[hpb,hg54] at e;simpa using e.2
     refine ak 73 (.d (eV (ck cuts k))) J (by rw[hgap,Pq,qv (k:=k) (n:=0),qv (k:=k) (n:=cuts.length)]<;>rfl) ?_;refine gx J<|rf J J<|ap ((xs++[ck cuts k]).map eV) J (by rw[bT];rfl) (vJ [ck cuts k]) J<|?_;refine fA 75 5 J ?_;exact at_ (xs++[ck cuts k],k+1) (by dsimp only;exact⟨⟨by rw[Dj hz hnp,<-h1],by omega⟩,(by omega)⟩)
 .
  have hfin:iH cuts marks=xs:=by rw[h1,iH,show k=marks.length by omega]
  refine iA 5 J ?_;exact rz J (by rw[hfin];rfl)
def Lf{g:Rat}: ∀{l:List Rat},g∈eO l-> ∃a∈l,∃b∈l,g=(a+b)/2
 |[],h=>by cases h
 |[_],h=>by cases h
 |a::b::t,h=>by
  rw[eO] at h;rcases aT.1 h with rfl|h
  ·exact⟨a,aQ,b,aJ _ aQ,J⟩
  ·obtain⟨c,hc,d,hd,e⟩:=Lf h
   exact⟨c,aJ _ hc,d,aJ _ hd,e⟩
theorem Xv{l:List Rat}(h: ∀q∈l,BQ q 1200): ∀g∈c6 l,BQ g 2500:=fun g hg=>by
 cases l with
 |nil=>
  rw[c6,aV] at hg;subst hg;exact BQ.mono (k:=1) ⟨by decide,by decide⟩ (by decide)
 |cons a t=>
  rw[c6] at hg;rcases aT.1 hg with rfl|hg
  ·haveI:=h a aQ
   exact BQ.mono (inferInstance:BQ (a-1) _) (by omega)
  ·rcases cX.1 hg with hg|hg
   ·obtain⟨c,hc,d,hd,rfl⟩:=Lf hg
    haveI:=h c hc;haveI:=h d hd;exact BQ.mono (inferInstance:BQ ((c+d)/2) _) (by omega)
   ·rw[aV] at hg
    haveI:=h _ (List.getLast_mem (l:=a::t) (by simp));subst hg;exact BQ.mono (inferInstance:BQ ((a::t).getLast (by simp)+1) _) (by omega)
def M7(l:List aj):pB l l.length=d6 l:=by unfold pB;rw[cM]
theorem TX{l:List aj}(h: ∀v∈l,l8 v): ∀y∈d6 l,BQ y 1200:=by rw[<-M7];exact Jn h
def Gl(l:List aj):(d6 l).length<=2*l.length:=by rw[<-M7];exact B8 l _
def l8.app{a b:List aj}(ha: ∀v∈a,l8 v)(hb: ∀v∈b,l8 v): ∀v∈a++b,l8 v:=fun v hv=>(cX.1 hv).elim (ha v) (hb v)
def Pf{a b:List aj}(ha: ∀v∈a,l8 v)(hb: ∀v∈b,l8 v)(hna:a.length<=100)(hnb:b.length<=100):PF GB prog 201 [vI 2, .sl (a.map eV), .sl (b.map eV)] (.sl ((fm 2 a b).map eV)):=by
 obtain⟨cuts,hcu⟩: ∃c,c=d6 (a++b):=⟨_,rfl⟩;have hab:=l8.app ha hb;have hcb: ∀q∈cuts,BQ q 1200:=by rw[hcu];exact TX hab
 have hcl:cuts.length<=2*(a.length+b.length):=by rw[hcu];have:=Gl (a++b);rw[aY] at this;exact this
 have hgb:=Xv hcb;have hgl:=wX (l:=cuts);have hmp:=fI eQ (c6 cuts);refine fn func201 J J ntmps201 J J (fun C=>?_);refine qe J J<|ap (a.map eV) J J (vJ _) J<|k8 ((a++b).map eV) J (by rw[bT]) (vJ b) J<|cl (fu:=⟨0⟩) J (RH (l:=a++b) hab (by rw[aY];omega)) J<|?_;refine ak 19 (.d (.sl (cuts.map eQ))) J (by rw[hcu]) ?_;refine gx J<|cl (fu:=⟨1⟩) J (XA (cuts:=cuts) hcb (by omega)) J<|?_;refine ak 22 (.d (vI ((cuts.length+1:Nat):Int))) J (by rw[hmp,hgl]<;>rfl) ?_;refine gx J<|?_;refine nr 8 8 4 1 J J J ?_;refine lp (X:=Nat) (fun k=>[(23, .d (vI (k:Nat))),(8, .rw 8)]) (fun k=>[(8,some (.b 4 1 ((((c6 cuts).map (fun t=>lx 2 (dE a t) (dE b t))).take k).map vB) true))]) (fun k=>k<=cuts.length+1) (fun k=>cuts.length+1-k) 0 J (bQ _) (fun _=>J) (fun k hk=>?_);have hml:(((((c6 cuts).map (fun t=>lx 2 (dE a t) (dE b t))).take k).map vB)).length=k:=by rw[aK,cJ,aK,hgl];omega
 refine br (fu2:=⟨0⟩) J J J (fun hc24=>?_) (fun hc24=>?_)
 .
  obtain⟨t,hz⟩: ∃s,(c6 cuts)[k]? =some s:=⟨_,aZ (by omega)⟩;haveI:=hgb t (bZ hz);have hz2:((c6 cuts).map (fun t=>lx 2 (dE a t) (dE b t)))[k]? =some (lx 2 (dE a t) (dE b t)):=by rw[eJ,hz];rfl
  refine ix _ J (d9 hz) J<|cl J (OW (l:=a) (t:=t) ha (by omega)) J<|cl (fu:=⟨6⟩) J (OW (l:=b) (t:=t) hb (by omega)) J<|?_
  cases hx:dE a t
  .
   refine d7 (fu:=⟨15⟩) J J J<|dx (fu:=⟨5⟩) J J J<|d7 J J J<|rf J J<|ap (fu:=⟨8⟩) ((((c6 cuts).map (fun t=>lx 2 (dE a t) (dE b t))).take (k+1)).map vB) J (by rw[<-sB hz2,hx];rfl) (MA [false]) J<|?_;refine fA 59 8 J ?_;exact at_ (k+1) ⟨(by omega),(by omega)⟩
  .
   refine dx (fu:=⟨15⟩) J J J<|dx (fu:=⟨5⟩) J J J<|dx J J J<|rf J J<|ap ((((c6 cuts).map (fun t=>lx 2 (dE a t) (dE b t))).take (k+1)).map vB) J (by rw[<-sB hz2,hx];rfl) (MA [_]) J<|?_;refine fA 59 8 J ?_;exact at_ (k+1) ⟨(by omega),(by omega)⟩
 .
  obtain rfl:k=cuts.length+1:=by omega
  have htk:((c6 cuts).map (fun t=>lx 2 (dE a t) (dE b t))).take (cuts.length+1)=(c6 cuts).map (fun t=>lx 2 (dE a t) (dE b t)):=aU (by rw[aK,hgl];exact aL _);rw[htk];refine pp 8 J ?_;refine gx J<|cl J (R3 (cuts:=cuts) (marks:=(c6 cuts).map (fun t=>lx 2 (dE a t) (dE b t))) (by omega) (by rw[aK,hgl];exact aL _)) J<|?_;exact rz J (by unfold fm;rw[<-hcu];rfl)
section
variable {GB:Gh} {C:aC} {n:Nat} {Q0:Exit->Act->World->Prop} {fr fr':aA} {own own':aH} {cf cf':Cf} {vc:List Prop}
def Rl{lk:LK}{bk:BM}{dst:Option Nat}{t ty':TypeId}{pos:String}{af:Array Edge}{gd:Option (Nat×Bool)}{x y:Operand}{e len s nm off:Nat}{k:IntKind}{i:Nat}(hu:prog.underlying t=some (.array len e))(hs:(prog.info? e).map (·.size)=some s)
  (e1:aO lk x=some (.ov nm off))(e2:aO lk y=some (.d (.v (.int k (i:Nat)))))(hi:i<len):bO prog GB C n lk bk ⟨dst, .indexAddr t x y,ty',pos,af,gd⟩ (.ov nm (off+i*s)) [] []:= .yd fun ρ G ov a w r=>by
 obtain⟨p,h1,h2⟩:=r.ev e1;obtain⟨q,h3,h4⟩:=r.ev e2;rw[dh] at h4;subst h4;obtain⟨b,hb,rfl⟩:=h2;refine⟨_,⟨b,hb,J⟩,?_⟩;obtain⟨j,hj,hjs⟩: ∃j,prog.info? e=some j/\j.size=s:=by
  cases h:prog.info? e with
  |none=>rw[h] at hs;cases hs
  |some j=>rw[h] at hs;exact⟨j,J,by simpa using hs⟩
 intro a' w' hf hh;simp only[execOp,bi hf h1,bi hf h3];have:(Instr.indexAt t (.pointer (some ⟨b,off,none⟩)) (.int k (i:Nat))).run prog w'= .ok (.pointer (some ⟨b,off+i*s,none⟩)) w':=by
  unfold Instr.indexAt;show(underlying t>>=_).run prog w'=_;rw[aP (pm hu w')];show(underlying t>>=_).run prog w'=_;rw[aP (pm hu w')];have h0:0<=((i:Nat):Int):=Int.natCast_nonneg i;have h1:((i:Nat):Int)<((len:Nat):Int):=by omega
  simp only[h0,h1,and_self,if_true];show(sizeOf e>>=_).run prog w'=_;rw[aP (sA hj w'),p8,hjs,bW];rfl
 exact cA this
def LW(fr:aA)(cf:Cf):Option (TypeId×Nat×Nat×Int):=match b6 fr cf with
 |some ⟨_, .indexAddr t x y,_,_,_,_⟩=>match aO (bu fr cf) x with
  |some (.ov nm off)=>match aO (bu fr cf) y with
   |some (.d (.v (.int _ i)))=>some (t,nm,off,i)
   |_=>none
  |_=>none
 |_=>none
def qI[fu:Fu](i:Nat){t nm off e len s:Nat}(h:LW fr cf=some (t,nm,off,((i:Nat):Int)))(hu:prog.underlying t=some (.array len e))(hs:(prog.info? e).map (·.size)=some s)(hi:i<len)
  (hgo:cE tt n fu.n fr own cf (.ov nm (off+i*s)) [] []=⟨vc,fr',own',cf'⟩)(k:av prog GB C n Q0 fr' own' cf')
  (hv:ah vc:=by first|exact trivial|(simp only[ah];kernel_rfl)|(simp only[ah];omega)):av prog GB C n Q0 fr own cf:=by
 unfold LW at h;split at h<;>try (cases h;done)
 rename_i hh;split at h<;>try (cases h;done)
 rename_i hx;split at h<;>cases h;rename_i hy;exact us hh (Rl hu hs hx hy hi) hgo hv k
def QQ{lk:LK}{bk:BM}{d s:Nat}{e t ty':TypeId}{pos:String}{af:Array Edge}{gd:Option (Nat×Bool)}{ps:List (Nat×Operand)}{fo:List (Nat×Nat×Nat)}{i:TI}{z zx:List FX}{k:Nat}{pre post:List DV}(hi:eE prog t=some i)(hk:i.k= .st fo)(hz:i.z=some z)
  (hb:rG lk fo z ps=some zx)(h0:zx[k]? =some .nl)(h1:iI (zx.take k)=some pre)(h2:iI (zx.drop (k+1))=some post):bO prog GB C n lk bk ⟨some d, .build t ⟨ps⟩,ty',pos,af,gd⟩ (.bx false pre d post) [(d,some (.b e s [] true))] [d]:=by
 intro hd tl tb K' s1 s2 hf hk';refine⟨fun ρ G ov a w r Q=>?_⟩;obtain⟨v,hv,hv'⟩:=ym hi hz;have:=Qd hi hk;have hsp:zx=zx.take k++ .nl::zx.drop (k+1):=by
  obtain⟨hk1,hk2⟩:=aM.1 h0
  conv=>lhs;rw[<-lU k zx,bX hk1,hk2]
 obtain⟨l,h1',h2'⟩:=Bl (r.mono s1 s2) (fo:=fo) ps _ _ _ hb (hv' ρ G);rw[hsp] at h2';obtain⟨m1,m2',rfl,k1,y,m2,rfl,k2,k3⟩:=Nv h2'
 cases (show y= .slice none 0 0 from k2)
 have hy:Yd prog C (cg a) ov G ⟨some d, .build t ⟨ps⟩,ty',pos,af,gd⟩ (.agg ⟨m1++Value.slice none 0 0::m2⟩):=Es h1';have r3:=r.new' (x:=⟨none,0,0⟩) (B':= .b e s [] true) (os:=[]) (ov':=ov) (f:= .bx false pre d post) (y:= .agg ⟨m1++Value.slice none 0 0::m2⟩) hf (bz.refl G) r.h
  ⟨[],by simp only[if_true];exact .inl ⟨J,J,J⟩, .nil,by simp,fun _ o ho=>by cases ho⟩ (fun o ho=>by cases ho) (fun m B _ _ o ho _=>⟨ho,by simp⟩)
  ⟨m1,m2,by simp,pP k1 h1,pP k3 h2⟩ (r.putA _ hd)
 exact km (hy a w (cB a) r.h) (hk'.run _ G ov _ w r3)
def Ke(fr:aA)(cf:Cf):Option (Nat×List FX):=match b6 fr cf with
 |some ⟨some d, .build t ⟨ps⟩,_,_,_,_⟩=>match cH tt t with
  |some ⟨.st fo,_,some zx,_⟩=>match rG (bu fr cf) fo zx ps with
   |some l=>some (d,l)
   |none=>none
  |_=>none
 |_=>none
def Wp[fu:Fu]{d:Nat}{zx:List FX}(e s kk:Nat)(pre post:List DV)(h:Ke fr cf=some (d,zx))(h0:zx[kk]? =some .nl)(h1:iI (zx.take kk)=some pre)(h2:iI (zx.drop (kk+1))=some post)(hgo:cE tt n fu.n fr own cf (.bx false pre d post) [(d,some (.b e s [] true))] [d]=⟨vc,fr',own',cf'⟩)(k:av prog GB C n Q0 fr' own' cf')
  (hv:ah vc:=by first|exact trivial|(simp only[ah];kernel_rfl)|(simp only[ah];omega)):av prog GB C n Q0 fr own cf:=by
 unfold Ke at h;split at h<;>try (cases h;done)
 rename_i hh;split at h<;>try (cases h;done)
 rename_i hT;split at h<;>cases h;rename_i hb;exact us hh (QQ (e7 _ _ hT) J J hb h0 h1 h2) hgo hv k
end
def Ti(f:aG)(m:aa)(k:Nat):List aG:=if k=0 then [] else dw f m 1
def Vd(f:aG)(m:aa)(k:Nat):List aG:=if k<=1 then [] else dw f m (-1)
def Pv{l m:aa}(hl:LB l)(hm:LB m)(hlo:l.ok){side:Int}: ∀v∈gz l m side,l8 v:=fun v hv=>⟨(E1 hl hm hlo v hv).2.1,(E1 hl hm hlo v hv).2.2⟩
def Af{l m:aa}{side:Int}:(gz l m side).length<=1:=by
 unfold gz;split
 ·split<;>simp
 ·split<;>simp
def M6(op:Int)(a b:List aj):(fm op a b).length<=2*(a.length+b.length)+1:=by
 unfold fm iH;refine cR Fv ?_;rw[aK,wX];have:=Gl (a++b);rw[aY] at this;omega
def QU{f:aG}{m:aa}(h:kE f)[hm:LB m](hmo:m.ok):PF GB prog 176 [eG f,eL m] (.tp [.sl ((dw f m 1).map eG), .sl ((dw f m (-1)).map eG)]):=by
 haveI:=h.lb;refine fn func176 J J ntmps176 J J (fun C=>?_);refine rf (fu:=⟨1⟩) J J<|?_;refine ak 14 (.d (vI (2:Nat))) J J ?_;refine gx J<|?_;refine yk 6 0 60 161 14 J J J J J ?_;refine yk 6 1 61 161 14 J J J J J ?_;refine lp (X:=Nat) (fun k=>[(15, .d (vI (k:Nat))),(6, .ov 6 0)]) (fun k=>[(6,some (.o 381 [.rw 60, .rw 61] true)),(60,some (.b 161 14 ((Ti f m k).map eG) true)),(61,some (.b 161 14 ((Vd f m k).map eG) true))]) (fun k=>k<=2) (fun k=>2-k) 0 J (by omega) (fun _=>J) (fun k hk=>?_);refine br J J J (fun hc16=>?_) (fun hc16=>?_)
 .
  rcases(show k=0\/k=1 by omega) with rfl|rfl
  .
   refine ix _ J J J<|cl (fu:=⟨0⟩) J (NA (l:=f.l) (m:=m) (side:=1) h.ok hmo (.inl J)) J<|?_;obtain⟨cs,hcs⟩: ∃c,c=fm 2 [f.v] (gz f.l m 1):=⟨_,rfl⟩;have hcl:cs.length<=5:=by rw[hcs];have h1:=M6 2 [f.v] (gz f.l m 1);have h2:=Af (l:=f.l) (m:=m) (side:=1);simp only[fR] at h1;omega
   refine ak 25 (.d (.tp [.sl ((gz f.l m 1).map eV),vB (ka f.l m)])) J J ?_;refine gx J<|?_;refine bb J J J (fun hc28=>?_) (fun hc28=>?_)
   .
    have hon:ka f.l m=true:=hc28;exact rz J (by first|(unfold dw;rw[if_pos hon,if_pos hon];rfl)|rfl)
   .
    have hon:ka f.l m=false:=by simpa using hc28
    refine rf J J<|cl (fu:=⟨0⟩) J (Pf (a:=[f.v]) (b:=gz f.l m 1) (fun v hv=>by rw[aV] at hv;subst hv;exact⟨h.lo,h.hi⟩) (Pv h.lb hm h.ok) (by show 1<=100;decide) (by have:=Af (l:=f.l) (m:=m) (side:=1);omega)) J<|?_;refine ak 33 (.d (.sl (cs.map eV))) J (by rw[hcs]) ?_;refine gx (fu:=⟨1⟩) J<|?_;refine ak 34 (.d (vI (cs.length:Nat))) J (by rw[fI eV cs]<;>rfl) ?_;refine gx J<|?_;refine lp (X:=Nat) (fun j=>[(35, .d (vI (j:Nat)))]) (fun j=>[(60,some (.b 161 14 (((cs.take j).map fun v=>(⟨f.l,v⟩:aG)).map eG) true))]) (fun j=>j<=cs.length) (fun j=>cs.length-j) 0 J (bQ _) (fun _=>J) (fun j hk=>?_);have hml:(((cs.take j).map fun v=>(⟨f.l,v⟩:aG)).map eG).length<=j:=by rw[aK,aK,cJ];omega
    refine br J J J (fun hc36=>?_) (fun hc36=>?_)
    .
     obtain⟨z,hz⟩: ∃s,cs[j]? =some s:=⟨_,aZ (by omega)⟩;refine ix _ J (d9 hz) J<|qI 0 (e:=153) (len:=2) (s:=1) J (by kernel_rfl) (by kernel_rfl) (by decide) J<|rf J J<|?_;refine ap (((cs.take (j+1)).map fun v=>(⟨f.l,v⟩:aG)).map eG) J (by rw[<-sB hz,bT];rfl) (wE [⟨f.l,z⟩]) J<|qI (hv:=by simp only[ah];exact⟨by kernel_rfl,by omega⟩) 0 (e:=153) (len:=2) (s:=1) J (by kernel_rfl) (by kernel_rfl) (by decide) J<|?_;refine fA 48 60 J ?_;exact at_ (j+1) ⟨(by omega),(by omega)⟩
    .
     obtain rfl:j=cs.length:=by omega
     rw[show(cs.take cs.length).map (fun v=>(⟨f.l,v⟩:aG))=dw f m 1 from by rw[cM];unfold dw;rw[if_neg (by rw[hon];decide),<-hcs]];exact at_ (0+1) ⟨(by omega),(by omega)⟩
  .
   refine ix _ J J J<|cl (fu:=⟨0⟩) J (NA (l:=f.l) (m:=m) (side:= -1) h.ok hmo (.inr J)) J<|?_;obtain⟨cs,hcs⟩: ∃c,c=fm 2 [f.v] (gz f.l m (-1)):=⟨_,rfl⟩;have hcl:cs.length<=5:=by rw[hcs];have h1:=M6 2 [f.v] (gz f.l m (-1));have h2:=Af (l:=f.l) (m:=m) (side:=(-1));simp only[fR] at h1;omega
   refine ak 25 (.d (.tp [.sl ((gz f.l m (-1)).map eV),vB (ka f.l m)])) J J ?_;refine gx J<|?_;refine bb J J J (fun hc28=>?_) (fun hc28=>?_)
   .
    have hon:ka f.l m=true:=hc28;exact rz J (by first|(unfold dw;rw[if_pos hon,if_pos hon];rfl)|rfl)
   .
    have hon:ka f.l m=false:=by simpa using hc28
    refine rf J J<|cl (fu:=⟨0⟩) J (Pf (a:=[f.v]) (b:=gz f.l m (-1)) (fun v hv=>by rw[aV] at hv;subst hv;exact⟨h.lo,h.hi⟩) (Pv h.lb hm h.ok) (by show 1<=100;decide) (by have:=Af (l:=f.l) (m:=m) (side:=(-1));omega)) J<|?_;refine ak 33 (.d (.sl (cs.map eV))) J (by rw[hcs]) ?_;refine gx (fu:=⟨1⟩) J<|?_;refine ak 34 (.d (vI (cs.length:Nat))) J (by rw[fI eV cs]<;>rfl) ?_;refine gx J<|?_;refine lp (X:=Nat) (fun j=>[(35, .d (vI (j:Nat)))]) (fun j=>[(61,some (.b 161 14 (((cs.take j).map fun v=>(⟨f.l,v⟩:aG)).map eG) true))]) (fun j=>j<=cs.length) (fun j=>cs.length-j) 0 J (bQ _) (fun _=>J) (fun j hk=>?_);have hml:(((cs.take j).map fun v=>(⟨f.l,v⟩:aG)).map eG).length<=j:=by rw[aK,aK,cJ];omega
    refine br J J J (fun hc36=>?_) (fun hc36=>?_)
    .
     obtain⟨z,hz⟩: ∃s,cs[j]? =some s:=⟨_,aZ (by omega)⟩;refine ix _ J (d9 hz) J<|qI 1 (e:=153) (len:=2) (s:=1) J (by kernel_rfl) (by kernel_rfl) (by decide) J<|rf J J<|?_;refine ap (((cs.take (j+1)).map fun v=>(⟨f.l,v⟩:aG)).map eG) J (by rw[<-sB hz,bT];rfl) (wE [⟨f.l,z⟩]) J<|qI (hv:=by simp only[ah];exact⟨by kernel_rfl,by omega⟩) 1 (e:=153) (len:=2) (s:=1) J (by kernel_rfl) (by kernel_rfl) (by decide) J<|?_;refine fA 48 61 J ?_;exact at_ (j+1) ⟨(by omega),(by omega)⟩
    .
     obtain rfl:j=cs.length:=by omega
     rw[show(cs.take cs.length).map (fun v=>(⟨f.l,v⟩:aG))=dw f m (-1) from by rw[cM];unfold dw;rw[if_neg (by rw[hon];decide),<-hcs]];exact at_ (1+1) ⟨(by omega),(by omega)⟩
 .
  obtain rfl:k=2:=by omega
  refine qI 0 (e:=153) (len:=2) (s:=1) J (by kernel_rfl) (by kernel_rfl) (by decide) J<|qI 1 (e:=153) (len:=2) (s:=1) J (by kernel_rfl) (by kernel_rfl) (by decide) J<|?_;refine iA 60 J ?_;refine iA 61 J ?_;exact rz J (by first|(unfold dw;rw[if_pos hon,if_pos hon];rfl)|rfl)
def gq(p:ZP):DV:=eP p.q
def jH(r:List ZP):DV:= .sl (r.map gq)
def H5(l:List ZP):cC 6 (l.map gq):=fun d hd=>by
 obtain⟨u,_,rfl⟩:=bM.1 hd;exact⟨rfl,rfl⟩
def IJ(l:List (List ZP)):cC 1 (l.map jH):=fun d hd=>by
 obtain⟨u,_,rfl⟩:=bM.1 hd;exact⟨rfl,rfl⟩
def Fw{r:List ZP}{i:Nat}(h:i<r.length):(r.map gq)[((i:Nat):Int).toNat]? =some (gq (r.getD i (0,0))):=by
 rw[bW,eJ,aX,aZ h];rfl
def NP{r:List ZP}{i:Nat}(h:i<r.length):(r.map gq)[(((i+1)%r.length:Nat):Int).toNat]? =some (gq (d8 r i)):=Fw (dW _ (by omega))
def ZT(v w p:ab):(ph v w p).natAbs<=1:=by
 unfold ph;split<;>split<;>decide
def Cm(r:List ZP)(p:ab): ∀k,(me r p k).natAbs<=k
 |0=>aL _
 |k+1=>by rw[me];have:=Cm r p k;have:=ZT (r.getD k (0,0)).q (d8 r k).q p;omega
def O4{r:List ZP}(h:cF r):PF GB prog 82 [.sl (r.map gq)] (.sl ((ey r).map eG)):=by
 have hm:=fI gq r;have h3:=h.n3;have h6:=h.n6;refine fn (fu:=⟨15⟩) func82 J J ntmps82 J J (fun C=>?_);refine ak 8 (.d (vI (r.length:Nat))) J (by rw[hm]<;>rfl) ?_;refine gx J<|?_;refine nr 3 3 161 14 J J J ?_;refine lp (X:=Nat) (fun k=>[(9, .d (vI (k:Nat))),(3, .rw 3)]) (fun k=>[(3,some (.b 161 14 ((jh r k).map eG) true))]) (fun k=>k<=r.length) (fun k=>r.length-k) 0 J (bQ _) (fun _=>J) (fun k hk=>?_);have hel:=fun hh=>(EJ (k:=k) h hh).1;refine br J J J (fun hc10=>?_) (fun hc10=>?_)
 .
  have hkr:k<r.length:=by omega
  have hel:=hel (by omega);have hem:=fI eG (jh r k);refine ix (fu:=⟨7⟩) _ J (Fw hkr) J<|?_;refine ak 22 (.d (vI ((k+1)%r.length:Nat))) J (by rw[hm]<;>rfl) ?_;refine gx J<|ix _ J (NP hkr) J<|cl J (Vi (v:=r.getD k (0,0)) (w:=d8 r k) (h.le _ (t7 hkr)) (h.le _ (vP hkr)) (h.ne k hkr)) J<|?_;refine rf J J<|ap ((jh r (k+1)).map eG) J (by rw[jh,bT];rfl) (wE [cI (r.getD k (0,0)) (d8 r k)]) J<|?_;refine fA 31 3 J ?_;exact at_ (k+1) ⟨(by omega),(by omega)⟩
 .
  obtain rfl:k=r.length:=by omega
  refine iA 3 J ?_;exact rz J J
def Rq{r:List ZP}{p:ab}{i:Nat}[hp:aI p i](h:cF r)(hi:i<=80000:=by decide):PF GB prog 140 [.sl (r.map gq),eP p] (vI (ja r p)):=by
 have hm:=fI gq r;have h3:=h.n3;have h6:=h.n6;refine fn (fu:=⟨16⟩) func140 J J ntmps140 J J (fun C=>?_);refine ak 12 (.d (vI (r.length:Nat))) J (by rw[hm]<;>rfl) ?_;refine gx J<|?_;refine lp (X:=Nat×Int) (fun⟨k,c⟩=>[(13, .d (vI (k:Nat))),(5, .d (vI c))]) (fun⟨k,c⟩=>[]) (fun⟨k,c⟩=>c=me r p k/\k<=r.length) (fun⟨k,c⟩=>r.length-k) (0,0) J ⟨J,bQ _⟩ (fun _=>J) (fun⟨k,c⟩ hk=>?_);dsimp only at hk⊢;obtain⟨h1,h2⟩:=hk;have hcl:c.natAbs<=k:=by rw[h1];exact Cm r p k
 refine br J J J (fun hc14=>?_) (fun hc14=>?_)
 .
  have hkr:k<r.length:=by omega
  obtain⟨v,hv⟩: ∃v,v=r.getD k (0,0):=⟨_,rfl⟩;obtain⟨w,hw⟩: ∃v,v=d8 r k:=⟨_,rfl⟩;haveI hvb:aI v.q 12:=by rw[hv];exact wW (h.le _ (t7 hkr))
  haveI hwb:aI w.q 12:=by rw[hw];exact wW (h.le _ (vP hkr))
  refine ix (fu:=⟨1⟩) _ J (Fw hkr) J<|?_;refine ak 19 (.d (eP v.q)) J (by rw[hv];rfl) ?_;refine gx (fu:=⟨6⟩) J<|?_;refine ak 25 (.d (vI ((k+1)%r.length:Nat))) J (by rw[hm]<;>rfl) ?_;refine gx J<|ix (fu:=⟨1⟩) _ J (NP hkr) J<|?_;refine ak 27 (.d (eP w.q)) J (by rw[hw];rfl) ?_;refine gx J<|cl J (lf (a:=v.q.y) (b:=p.y) (i:=12) (j:=i) (by decide) (by omega)) J<|cl (fu:=⟨9⟩) J (lf (a:=w.q.y) (b:=p.y) (i:=12) (j:=i) (by decide) (by omega)) J<|?_;rcases(show(bg v.q.y p.y<=0/\bg w.q.y p.y<=0)\/(bg v.q.y p.y<=0/\ ¬bg w.q.y p.y<=0)\/(¬bg v.q.y p.y<=0/\bg w.q.y p.y<=0)\/(¬bg v.q.y p.y<=0/\ ¬bg w.q.y p.y<=0) by omega) with⟨ca,cb⟩|⟨ca,cb⟩|⟨ca,cb⟩|⟨ca,cb⟩
  .
   refine dx (fu:=⟨3⟩) J (by show some (decide _)=some true;rw[decide_eq_true (by omega)]) J<|d7 (fu:=⟨15⟩) J (by show some (decide _)=some false;rw[decide_eq_false (by omega)]) J<|?_;refine d7 (fu:=⟨20⟩) J (by show some (decide _)=some false;rw[decide_eq_false (by omega)]) J<|?_;exact at_ (k+1,c) (by dsimp only;exact⟨⟨by rw[me,<-h1,<-hv,<-hw];unfold ph;split<;>split<;>omega,by omega⟩,(by omega)⟩)
  .
   refine dx (fu:=⟨3⟩) J (by show some (decide _)=some true;rw[decide_eq_true (by omega)]) J<|dx J (by show some (decide _)=some true;rw[decide_eq_true (by omega)]) J<|?_;refine cl J (OA (a:=v.q) (b:=w.q) (c:=p) (i:=12) (j:=12) (k:=i) (by decide) (by decide) hi) J<|?_;refine br (fu1:=⟨10⟩) (fu2:=⟨6⟩) J J J (fun hc51=>?_) (fun hc51=>?_)
   .
    refine d7 J (by show some (decide _)=some false;rw[decide_eq_false (by omega)]) J<|?_;exact at_ (k+1,c+1) (by dsimp only;exact⟨⟨by rw[me,<-h1,<-hv,<-hw];unfold ph;split<;>split<;>omega,by omega⟩,(by omega)⟩)
   .
    refine d7 (fu:=⟨20⟩) J (by show some (decide _)=some false;rw[decide_eq_false (by omega)]) J<|?_;exact at_ (k+1,c) (by dsimp only;exact⟨⟨by rw[me,<-h1,<-hv,<-hw];unfold ph;split<;>split<;>omega,by omega⟩,(by omega)⟩)
  .
   refine d7 (fu:=⟨19⟩) J (by show some (decide _)=some false;rw[decide_eq_false (by omega)]) J<|dx (fu:=⟨2⟩) J (by show some (decide _)=some true;rw[decide_eq_true (by omega)]) J<|?_;refine dx J (by show some (decide _)=some true;rw[decide_eq_true (by omega)]) J<|cl J (OA (a:=v.q) (b:=w.q) (c:=p) (i:=12) (j:=12) (k:=i) (by decide) (by decide) hi) J<|?_;refine br (fu2:=⟨8⟩) J J J (fun hc65=>?_) (fun hc65=>?_)
   .
    exact at_ (k+1,c-1) (by dsimp only;exact⟨⟨by rw[me,<-h1,<-hv,<-hw];unfold ph;split<;>split<;>omega,by omega⟩,(by omega)⟩)
   .
    exact at_ (k+1,c) (by dsimp only;exact⟨⟨by rw[me,<-h1,<-hv,<-hw];unfold ph;split<;>split<;>omega,by omega⟩,(by omega)⟩)
  .
   refine d7 (fu:=⟨19⟩) J (by show some (decide _)=some false;rw[decide_eq_false (by omega)]) J<|dx (fu:=⟨2⟩) J (by show some (decide _)=some true;rw[decide_eq_true (by omega)]) J<|?_;refine d7 J (by show some (decide _)=some false;rw[decide_eq_false (by omega)]) J<|?_;exact at_ (k+1,c) (by dsimp only;exact⟨⟨by rw[me,<-h1,<-hv,<-hw];unfold ph;split<;>split<;>omega,by omega⟩,(by omega)⟩)
 .
  obtain rfl:k=r.length:=by omega
  have hfin:ja r p=c:=h1.symm;exact rz J (by rw[hfin];rfl)
def Ui{fill n:Int}(hn:n.natAbs<=1000):PF GB prog 266 [vI fill,vI n] (vB (ng fill n)):=by
 refine fn func266 J J ntmps266 J J (fun C=>?_);refine cs 7 J J J (fun hg7=>?_) (fun hg7=>?_)
 .
  refine cs 12 J J J (fun hg12=>?_) (fun hg12=>?_)
  .
   exact rz J (by show vB _=vB _;unfold ng;congr 1;simp_all)
  .
   refine cs 15 J J J (fun hg15=>?_) (fun hg15=>?_)
   .
    exact rz J (by show vB _=vB _;unfold ng;congr 1;simp_all)
   .
    exact rz J (by show vB _=vB _;unfold ng;congr 1;simp_all)
 .
  refine cs 15 J J J (fun hg15=>?_) (fun hg15=>?_)
  .
   exact rz J (by show vB _=vB _;unfold ng;congr 1;simp_all)
  .
   exact rz J (by show vB _=vB _;unfold ng;congr 1;simp_all)
def Ib(rs:List (List ZP)):List aa:=(b9 rs).map aG.l
def ut(rs:List (List ZP))(fill:Int):DV:= .ag [.sl (rs.map jH), .v (.int .i64 fill), .sl ((uF (Ib rs)).map eL)]
def Vv{rs:List (List ZP)}{p:ab}(h: ∀r∈rs,cF r)(k:Nat):((rs.take k).foldl (fun n r=>n+ja r p) 0).natAbs<=6*k:=by
 induction k with
 |zero=>rw[sW];exact bQ _
 |succ k ih=>
  rw[fW,oS]
  cases e:rs[k]? with
  |none=>exact cR ih (by omega)
  |some r=>
   have h1:(ja r p).natAbs<=r.length:=Cm r p r.length;have h2:=(h r (bZ e)).n6;show(List.foldl _ 0 (rs.take k)+ja r p).natAbs<=_;omega
def TE{rs:List (List ZP)}{fill:Int}{p:ab}{i:Nat}[hp:aI p i](h: ∀r∈rs,cF r)(hn:rs.length<=100)(hi:i<=80000:=by decide):PF GB prog 175 [ut rs fill,eP p] (vB (gj rs fill p)):=by
 have hm:=fI jH rs;refine fn (fu:=⟨18⟩) func175 J J ntmps175 J J (fun C=>?_);refine ak 10 (.d (vI (rs.length:Nat))) J (by rw[hm]<;>rfl) ?_;refine gx J<|?_;refine lp (X:=Nat×Int) (fun⟨k,c⟩=>[(11, .d (vI (k:Nat))),(5, .d (vI c))]) (fun⟨k,c⟩=>[]) (fun⟨k,c⟩=>c=(rs.take k).foldl (fun n r=>n+ja r p) 0/\k<=rs.length) (fun⟨k,c⟩=>rs.length-k) (0,0) J ⟨by rw[sW];rfl,bQ _⟩ (fun _=>J) (fun⟨k,c⟩ hk=>?_);dsimp only at hk⊢;obtain⟨h1,h2⟩:=hk;have hcl:c.natAbs<=6*k:=by rw[h1];exact Vv h k
 refine br J J J (fun hc12=>?_) (fun hc12=>?_)
 .
  obtain⟨r,hz⟩: ∃s,rs[k]? =some s:=⟨_,aZ (by omega)⟩;have hr:=h r (bZ hz);have hnz:(ja r p).natAbs<=6:=cR (Cm r p r.length) hr.n6;refine ix _ J (d9 hz) J<|cl J (Rq (r:=r) (p:=p) hr hi) J<|?_;exact at_ (k+1,c+ja r p) (by dsimp only;exact⟨⟨by rw[fW,hz,oS,<-h1];rfl,by omega⟩,(by omega)⟩)
 .
  obtain rfl:k=rs.length:=by omega
  rw[cM] at h1;refine cl J (Ui (fill:=fill) (n:=c) (by omega)) J<|?_;exact rz J (by unfold gj;rw[<-h1];rfl)
def mz(r:List ZP):DV:= .sl ((r.map ZP.q).map mm)
def Ux(l:List (List ZP)):cC 1 (l.map mz):=fun d hd=>by
 obtain⟨u,_,rfl⟩:=bM.1 hd;exact⟨rfl,rfl⟩
theorem GM{r:List ZP}(h: ∀p∈r,ZP.le 100 p): ∀p∈r.map ZP.q,aI p 1200:=fun p hp=>by
 obtain⟨z,hz,rfl⟩:=bM.1 hp;have:=wW (h z hz);exact⟨BQ.mono this.x (by decide),BQ.mono this.y (by decide)⟩
def Mu(r:List ZP):DV.sl ((r.map ZP.q).map eP)=jH r:=by unfold jH;rw[List.map_map];rfl
def Hn{rs:List (List ZP)}{k:Nat}{r:List ZP}(h:rs[k]? =some r):b9 (rs.take (k+1))=b9 (rs.take k)++ey r:=by
 unfold b9;rw[fW,h,sK];simp
def vS{rs:List (List ZP)}(h: ∀r∈rs,cF r)(k:Nat):(b9 (rs.take k)).length<=6*k:=by
 have:=(nq (rs:=rs.take k) (fun r hr=>h r (fY hr))).1;have h2:(rs.take k).length<=k:=by rw[cJ];omega
 omega
def Zk{rs:List (List ZP)}{fill:Int}(h: ∀r∈rs,cF r)(hn:rs.length<=100):PF GB prog 24 [.sl (rs.map mz), .v (.int .i64 fill)] (ut rs fill):=by
 have hm:=fI mz rs;refine fn (fu:=⟨8⟩) func24 J J ntmps24 J J (fun C=>?_);refine Wp (fu:=⟨14⟩) 62 1 0 [] [.v (.int .i64 fill), .sl []] J J J J J<|?_;refine ak 15 (.d (vI (rs.length:Nat))) J (by rw[hm]<;>rfl) ?_;refine gx J<|?_;refine nr 6 6 115 6 J J J ?_;refine lp (X:=Nat) (fun k=>[(16, .d (vI (k:Nat))),(6, .rw 6),(5, .ov 5 0)]) (fun k=>[(5,some (.o 44 [.rw 13, .d (.v (.int .i64 fill)), .d (.sl [])] true)),(13,some (.b 62 1 ((rs.take k).map jH) true)),(6,some (.b 115 6 (((b9 (rs.take k)).map aG.l).map eL) true))]) (fun k=>k<=rs.length) (fun k=>rs.length-k) 0 J (bQ _) (fun _=>J) (fun k hk=>?_);refine br (fu2:=⟨0⟩) J J J (fun hc17=>?_) (fun hc17=>?_)
 .
  obtain⟨r,hz⟩: ∃s,rs[k]? =some s:=⟨_,aZ (by omega)⟩;have hr:=h r (bZ hz);have hel:(ey r).length<=6:=by have:=(rF hr).1;have:=hr.n6;omega
  have het:=vS h k;have hrl:((rs.take k).map jH).length=k:=by rw[aK,cJ];omega
  refine ix _ J (d9 hz) J<|cl (fu:=⟨0⟩) J (Wu (ps:=r.map ZP.q) (GM hr.le) (by rw[aK];have:=hr.n6;omega)) J<|?_;refine ak 21 (.d (jH r)) J (by rw[Mu]) ?_;refine gx J<|rf J J<|ap ((rs.take (k+1)).map jH) J (sB hz) (IJ [r]) J<|cl (fu:=⟨1⟩) J (O4 (r:=r) hr) J<|?_;refine ak 30 (.d (vI ((ey r).length:Nat))) J (by rw[fI eG (ey r)]<;>rfl) ?_;refine gx J<|?_;rw[<-jJ (b9 (rs.take k)),<-sW (l:=ey r)];refine lp (X:=Nat) (fun j=>[(31, .d (vI (j:Nat))),(6, .rw 6)]) (fun j=>[(6,some (.b 115 6 (((b9 (rs.take k)++(ey r).take j).map aG.l).map eL) true))]) (fun j=>j<=(ey r).length) (fun j=>(ey r).length-j) 0 J (bQ _) (fun _=>J) (fun j hk=>?_);have hml:(((b9 (rs.take k)++(ey r).take j).map aG.l).map eL).length<=6*k+6:=by rw[aK,aK,aY,cJ];omega
  refine br J J J (fun hc32=>?_) (fun hc32=>?_)
  .
   obtain⟨e,he⟩: ∃s,(ey r)[j]? =some s:=⟨_,aZ (by omega)⟩;refine ix _ J (d9 he) J<|rf J J<|ap (((b9 (rs.take k)++(ey r).take (j+1)).map aG.l).map eL) J (by rw[fW,he];simp only[bT,dY];rfl) (fE [e.l]) J<|?_;refine fA 39 6 J ?_;exact at_ (j+1) ⟨(by omega),(by omega)⟩
  .
   obtain rfl:j=(ey r).length:=by omega
   rw[cM,<-Hn hz];refine fA 26 13 J ?_;exact at_ (k+1) ⟨(by omega),(by omega)⟩
 .
  obtain rfl:k=rs.length:=by omega
  rw[cM];refine pp 6 J ?_;refine pp 13 J ?_;refine gx rfl<|cl rfl (RZ (ls:=Ib rs) (fun l hl=>by obtain⟨f,hf,rfl⟩:=bM.1 hl;exact((nq h).2 f hf).lb) (by unfold Ib;rw[aK];have:=(nq h).1;omega)) rfl<|?_;exact rz J J
def Ri{rs:List (List ZP)}(h: ∀r∈rs,cF r)(hn:rs.length<=100):PF GB prog 16 [.sl (rs.map jH)] (.sl (rs.map mz)):=by
 have hm:=fI jH rs;refine fn (fu:=⟨15⟩) func16 J J ntmps16 J J (fun C=>?_);refine ak 7 (.d (vI (rs.length:Nat))) J (by rw[hm]<;>rfl) ?_;refine gx J<|?_;refine nr 3 3 48 1 J J J ?_;refine lp (X:=Nat) (fun k=>[(8, .d (vI (k:Nat))),(3, .rw 3)]) (fun k=>[(3,some (.b 48 1 ((rs.take k).map mz) true))]) (fun k=>k<=rs.length) (fun k=>rs.length-k) 0 J (bQ _) (fun _=>J) (fun k hk=>?_);have hml:((rs.take k).map mz).length<=k:=by rw[aK,cJ];omega
 refine br J J J (fun hc9=>?_) (fun hc9=>?_)
 .
  obtain⟨r,hz⟩: ∃s,rs[k]? =some s:=⟨_,aZ (by omega)⟩;have hr:=h r (bZ hz);refine ix (fu:=⟨1⟩) _ J (d9 hz) J<|?_;refine ak 11 (.d (.sl ((r.map ZP.q).map eP))) J (by rw[Mu]) ?_;refine gx J<|cl J (Ng (ps:=r.map ZP.q) (GM hr.le) (by rw[aK];have:=hr.n6;omega)) J<|rf J J<|ap ((rs.take (k+1)).map mz) J (sB hz) (Ux [r]) J<|?_;refine fA 16 3 J ?_;exact at_ (k+1) ⟨(by omega),(by omega)⟩
 .
  obtain rfl:k=rs.length:=by omega
  refine iA 3 J ?_;exact rz J (by rw[cM];rfl)
def Y2(out:List aa)(l:aa):(qz out l).length<=out.length+1:=by
 unfold qz;split
 ·omega
 ·simp;omega
def Iw(c:List aa): ∀(t out:List aa),(n9 c t out).length<=out.length+t.length
 |[],out=>by simp[n9]
 |l::t,out=>by
  rw[n9];refine cR (Iw c t _) ?_;have:=Y2 out l;split<;>simp<;>omega
def Nc(c:List aa):(il c).length<=c.length:=cR (Iw c c []) (by simp)
theorem Js{c:List aa}(h: ∀m∈c,LB m): ∀m∈il c,LB m:=fun m hm=>h m (wz.1 hm).1
def PC{c:List aa}(h: ∀m∈c,m.ok): ∀m∈il c,m.ok:=fun m hm=>h m (wz.1 hm).1
def LY{c:List aa}{l:aa}(hc: ∀m∈c,LB m)(hok: ∀m∈c,m.ok)(hn:c.length<=900)(hl:LB l)(hlo:l.ok):PF GB prog 265 [.sl (c.map eL),eL l] (.sl ((il (c++[l])).map eL)):=by
 have hcl:=tL c;refine fn func265 J J ntmps265 J J (fun C=>?_);refine qe J J<|ap (c.map eL) J J (fE _) J<|rf J J<|k8 ((c++[l]).map eL) J (by rw[bT];rfl) (fE [l]) J<|?_;refine cl J (ay8 (c:=c++[l]) (ur hc hl) (lI hok hlo) (by simp;omega)) J<|?_;exact rz J J
def Sk{l l1:aa}{x y u:Tr}:PF GB prog 264 [eL l,eT (.node l1 x y),eT u] (eT (.node l (.node l1 x y) u)):=by
 refine fn (fu:=⟨12⟩) func264 J J ntmps264 J J (fun C=>?_);refine d7 J J J<|?_;refine iA 33 J ?_;exact rz J J
def Wn{l l1:aa}{x y:Tr}{p:Bool}:PF GB prog 264 [eL l,eT (.leaf p),eT (.node l1 x y)] (eT (.node l (.leaf p) (.node l1 x y))):=by
 refine fn (fu:=⟨12⟩) func264 J J ntmps264 J J (fun C=>?_);refine dx (fu:=⟨4⟩) J J J<|d7 J J J<|?_;refine iA 33 J ?_;exact rz J J
def SF{l:aa}{p q:Bool}:PF GB prog 264 [eL l,eT (.leaf p),eT (.leaf q)] (eT (Tr.joinQ l (.leaf p) (.leaf q))):=by
 refine fn (fu:=⟨12⟩) func264 J J ntmps264 J J (fun C=>?_);refine dx (fu:=⟨4⟩) J J J<|dx J J J<|?_;refine bd J J J (fun hc27=>?_) (fun hc27=>?_)
 .
  exact rz J (by rw[show Tr.joinQ l (.leaf p) (.leaf q)= .leaf p by simp[Tr.joinQ,Tr.isLeaf,Tr.code,hc27]];rfl)
 .
  refine iA 33 J ?_;exact rz J (by rw[show Tr.joinQ l (.leaf p) (.leaf q)= .node l (.leaf p) (.leaf q) by simp[Tr.joinQ,Tr.isLeaf,Tr.code,hc27]];rfl)
def UT{l:aa}: ∀{x y:Tr},PF GB prog 264 [eL l,eT x,eT y] (eT (Tr.joinQ l x y))
 | .leaf _, .leaf _=>SF
 | .leaf _, .node .. =>Wn
 | .node ..,_=>Sk
def Rm{b:Bool}{c:List aa}:PF GB prog 174 [eT (.leaf b), .sl (c.map eL)] (eT (Tr.restrictL (.leaf b) c)):=by
 refine fn (fu:=⟨11⟩) func174 J J ntmps174 J J (fun C=>?_);refine dx J J J<|?_;exact rz J J
def Z1{l:aa}{x y:Tr}{c:List aa}(hl:LB l)(hlo:l.ok)(hc: ∀m∈c,LB m)(hok: ∀m∈c,m.ok)(hn:c.length+(Tr.node l x y).depth<=900)(ihx: ∀{c:List aa},(∀m∈c,LB m)->(∀m∈c,m.ok)->c.length+x.depth<=900->PF GB prog 174 [eT x, .sl (c.map eL)] (eT (Tr.restrictL x c)))(ihy: ∀{c:List aa},(∀m∈c,LB m)->(∀m∈c,m.ok)->c.length+y.depth<=900->PF GB prog 174 [eT y, .sl (c.map eL)] (eT (Tr.restrictL y c))):PF GB prog 174 [eT (.node l x y), .sl (c.map eL)] (eT (Tr.restrictL (.node l x y) c)):=by
 have hdp:(Tr.node l x y).depth=1+Nat.max x.depth y.depth:=J;have hdx:x.depth<=Nat.max x.depth y.depth:=Nat.le_max_left _ _;have hdy:y.depth<=Nat.max x.depth y.depth:=Nat.le_max_right _ _;have hca:=Nc (c++[l]);have hcb:=Nc (c++[l.rev]);rw[aY,fR] at hca hcb;refine fn (fu:=⟨11⟩) func174 J J ntmps174 J J (fun C=>?_);refine d7 J J J<|cl J (Vo (c:=c) (l:=l) hc hok (by omega) hl hlo) J<|?_;refine br J J J (fun hc16=>?_) (fun hc16=>?_)
 .
  refine cl J (ihx hc hok (by omega)) J<|?_;exact rz J (by rw[Tr.restrictL,if_pos hc16];rfl)
 .
  refine br J J J (fun hc24=>?_) (fun hc24=>?_)
  .
   refine cl J (ihy hc hok (by omega)) J<|?_;exact rz J (by rw[Tr.restrictL,if_neg hc16,if_pos hc24];rfl)
  .
   refine cl J (LY (c:=c) (l:=l) hc hok (by omega) hl hlo) J<|cl J (ihx (c:=il (c++[l])) (Js (ur hc hl)) (PC (lI hok hlo)) (by omega)) J<|?_;refine cl J (zz (l:=l)) J<|cl J (LY (c:=c) (l:=l.rev) hc hok (by omega) hl.rev hlo.rev) J<|cl J (ihy (c:=il (c++[l.rev])) (Js (ur hc hl.rev)) (PC (lI hok hlo.rev)) (by omega)) J<|?_;refine cl J UT J<|?_;exact rz J (by rw[Tr.restrictL,if_neg hc16,if_neg hc24];rfl)
def F0: ∀{t:Tr} {c:List aa},t.all LB->t.all aa.ok->(∀m∈c,LB m)->(∀m∈c,m.ok)->c.length+t.depth<=900->PF GB prog 174 [eT t, .sl (c.map eL)] (eT (Tr.restrictL t c))
 | .leaf _,_,_,_,_,_,_=>Rm
 | .node l x y,c,hb,ho,hc,hok,hn=>Z1 hb.1 ho.1 hc hok hn (fun h1 h2 h3=>F0 hb.2.1 ho.2.1 h1 h2 h3) (fun h1 h2 h3=>F0 hb.2.2 ho.2.2 h1 h2 h3)
def p7:ab:=⟨mkRat 1 7,mkRat 1 5⟩
structure LP (l:aa):Prop where
 s:LS l
 p:0<l.value p7
def Ih(es:List Int):Nat->Nat->List aa×Nat
 |0,a=>([],a)
 |i+1,a=>((lF es a).1::(Ih es i (lF es a).2).1,(Ih es i (lF es a).2).2)
def LM(es:List Int)(most a:Nat):List aa×Nat:=Ih es (aB es ((most:Int)+1) a).1 (aB es ((most:Int)+1) a).2
def Jr(l:aa):aa:=if(l.value p7).num.sign<0 then l.rev else l
def aGA(xs:List aa)(i:Nat):List aa:=(xs.take i).map Jr++xs.drop i
def aGU(es:List Int)(a:Nat):List aa×Nat:=((LM es 3 a).1.map Jr,(LM es 3 a).2)
def I4(xs ys:List NQ)(n:NQ):((xs++(n::ys)).map eN)[((xs.length:Nat):Int).toNat]? =some (eN n):=by simp
def Ip(xs ys:List NQ)(n m:NQ)(e:DV)(h:e=eN m):((xs++(n::ys)).map eN).set ((xs.length:Nat):Int).toNat e=(xs++(m::ys)).map eN:=by subst h;simp
def Z6{ns:List NQ}:PB GB prog 81 (gA [some (eT (.leaf true)),none]) 8 149 (ns.map eN) (fun w=> .tp ([]++ .v (.slice w.a w.n w.c)::[.v (.int .i64 (Tr.num (.leaf true) ns.length))])) ((ns++Tr.wr (.leaf true) ns.length).map eN):=by
 refine Gm (fu:=⟨12⟩) func81 J J ntmps81 J J (fun C=>?_);refine dx (fu:=⟨9⟩) J J J<|dx J J J<|?_;exact DH J J J J J (by simp[Tr.wr]) J
def QE{ns:List NQ}:PB GB prog 81 (gA [some (eT (.leaf false)),none]) 8 149 (ns.map eN) (fun w=> .tp ([]++ .v (.slice w.a w.n w.c)::[.v (.int .i64 (Tr.num (.leaf false) ns.length))])) ((ns++Tr.wr (.leaf false) ns.length).map eN):=by
 refine Gm (fu:=⟨12⟩) func81 J J ntmps81 J J (fun C=>?_);refine dx (fu:=⟨9⟩) J J J<|d7 J J J<|?_;exact DH J J J J J (by simp[Tr.wr]) J
def XU{l:aa}{s u:Tr}{ns:List NQ}(hl:BL l 96)(hs:ns.length+(1+s.size+u.size)<=1000000)(ihs: ∀{ns:List NQ},ns.length+s.size<=1000000->PB GB prog 81 (gA [some (eT s),none]) 8 149 (ns.map eN) (fun w=> .tp ([]++ .v (.slice w.a w.n w.c)::[.v (.int .i64 (Tr.num s ns.length))])) ((ns++Tr.wr s ns.length).map eN))(ihu: ∀{ns:List NQ},ns.length+u.size<=1000000->PB GB prog 81 (gA [some (eT u),none]) 8 149 (ns.map eN) (fun w=> .tp ([]++ .v (.slice w.a w.n w.c)::[.v (.int .i64 (Tr.num u ns.length))])) ((ns++Tr.wr u ns.length).map eN)):PB GB prog 81 (gA [some (eT (.node l s u)),none]) 8 149 (ns.map eN) (fun w=> .tp ([]++ .v (.slice w.a w.n w.c)::[.v (.int .i64 (Tr.num (.node l s u) ns.length))])) ((ns++Tr.wr (.node l s u) ns.length).map eN):=by
 refine Gm (fu:=⟨12⟩) func81 J J ntmps81 J J (fun C=>?_);refine d7 (fu:=⟨9⟩) J J J<|?_;refine ak 20 (.d (.v (.int .i64 (ns.length:Nat)))) J (by simp) ?_;refine gx J<|cl J (aFs hl) J<|rf J J<|Sf ((ns++[(⟨l,0,0⟩:NQ)]).map eN) J (by rw[bT]<;>rfl) (Zo [(⟨l,0,0⟩:NQ)]) J<|?_;refine cb _ J (ihs (ns:=ns++[(⟨l,0,0⟩:NQ)]) (by simp;omega)) J J<|cb (hv:=by simp only[ah];exact(by simp;omega)) ((ns++((⟨l,0,0⟩:NQ)::(s.wr (ns.length+1)++u.wr (ns.length+1+s.size)))).map eN) J (ihu (ns:=ns++[(⟨l,0,0⟩:NQ)]++s.wr (ns++[(⟨l,0,0⟩:NQ)]).length) (by simp[Tr.wr_len];omega)) (by simp[Tr.wr_len,jW,kW 1]) J<|?_;refine sb (hv:=by simp only[ah];exact(by simp;omega)) (eN ⟨l,0,0⟩) ((ns++((⟨l,s.num (ns.length+1),0⟩:NQ)::(s.wr (ns.length+1)++u.wr (ns.length+1+s.size)))).map eN) J (I4 ns _ ⟨l,0,0⟩) J (by rw[Ip _ _ _ ⟨l,s.num (ns.length+1),0⟩ _ (by simp[eN,DV.cells])]) J<|?_;refine sb (eN ⟨l,s.num (ns.length+1),0⟩) ((ns++Tr.wr (.node l s u) ns.length).map eN) J (I4 ns _ ⟨l,s.num (ns.length+1),0⟩) J (by rw[Ip _ _ _ ⟨l,s.num (ns.length+1),u.num (ns.length+1+s.size)⟩ _ (by simp[eN,DV.cells,Tr.wr_len,jW,kW 1])];simp[Tr.wr]) J<|?_;exact DH J J J J J J J
def Fe: ∀{t:Tr} {ns:List NQ},t.all (fun l=>BL l 96)->ns.length+t.size<=1000000->PB GB prog 81 (gA [some (eT t),none]) 8 149 (ns.map eN) (fun w=> .tp ([]++ .v (.slice w.a w.n w.c)::[.v (.int .i64 (Tr.num t ns.length))])) ((ns++Tr.wr t ns.length).map eN)
 | .leaf true,ns,_,_=>Z6
 | .leaf false,ns,_,_=>QE
 | .node l s u,ns,hb,hs=>XU hb.1 hs (fun h=>Fe hb.2.1 h) (fun h=>Fe hb.2.2 h)
def S8{t:Tr}(hb:t.all (fun l=>BL l 96))(hs:t.size<=1000000):PF GB prog 22 [eT t] (eA t):=by
 refine fn func22 J J ntmps22 J J (fun C=>?_);refine Uq _ J (Fe (t:=t) (ns:=[]) hb (by simpa using hs)) J J<|?_;refine iA 6 J ?_;exact rz J J
def TB(ds:List Int):cC 1 (ds.map vI):=fun d hd=>by
 obtain⟨n,_,rfl⟩:=bM.1 hd;exact⟨rfl,rfl⟩
def Mt{ns:List NQ}{i:Nat}(h:i<ns.length):(ns.map eN)[(i:Int).toNat]? =some (eN ns[i]):=by simp[h]
def J5(ns:List NQ):(ns.map eN).length=ns.length:=aK ..
def ww{ns ms:List NQ}(hl:ns.length=ms.length)(h: ∀j (h1:j<ns.length) (h2:j<ms.length),ns[j]=ms[j]):ns=ms:=List.ext_getElem hl h
def Rh(es:List Int):(es.map vI).take (min es.length 400)=(es.take 400).map vI:=by
 rw[jZ];rcases Nat.le_total es.length 400 with h|h
 ·rw[iK h,aU (by simp),aU (by simpa using h)]
 ·rw[Nat.min_eq_right h]
def S1{es:List Int}(hb:es.length<=1125899906842624):PN GB prog 15 [.sl (es.map vI)] 126 Unit (fun _=>[.sl ((es.take 400).map vI), .v (.int .i64 (0:Nat))]):=by
 have hel:(es.map vI).length=es.length:=by simp
 refine Qw func15 J J ntmps15 J J (fun C hmb=>?_);refine k9 0 (min es.length 400) ((es.take 400).map vI) J J (by rw[hel];show(if _ then _ else _:Int)=_;split<;>omega) (Rh es) (TB _) (by omega) (by omega) J<|?_;exact UM () J J J J J
def Ud{s t:Tr}(hs:s.all (fun l=>BL l 96))(ht:t.all (fun l=>BL l 96))(hn:s.size<=1000000):PF GB prog 21 [eA s,eA t] (vB (decide (s.num 0=t.num 0/\s.wr 0=t.wr 0))):=by
 have hbs:=Tr.all_wr 0 hs;have hbt:=Tr.all_wr 0 ht;have hsl:=s.wr_len 0;have hls:=J5 (s.wr 0);have hlt:=J5 (t.wr 0);unfold eA;generalize hns:s.wr 0=ns at*;generalize hms:t.wr 0=ms at*;generalize ha:s.num 0=a at*;generalize hb:t.num 0=b at*;refine fn func21 J J ntmps21 J J (fun C=>?_);refine cs 13 J J J (fun hg13=>?_) (fun hg13=>?_)
 .
  exact rz rfl (by first|(rw[decide_eq_true (⟨Decidable.not_not.1 hg13,ww (by omega) (fun j p q=>h2 j p q (by omega))⟩:a=b/\ns=ms)];rfl)|(rw[decide_eq_false (fun e:a=b/\ns=ms=>by obtain⟨e1,e2⟩:=e;subst e2;first|exact hg13 e1|exact hc21 rfl|exact hg40 rfl|exact hg47 rfl|(simp at hc54))];rfl))
 .
  refine br (fu2:=⟨8⟩) J J J (fun hc21=>?_) (fun hc21=>?_)
  .
   exact rz rfl (by first|(rw[decide_eq_true (⟨Decidable.not_not.1 hg13,ww (by omega) (fun j p q=>h2 j p q (by omega))⟩:a=b/\ns=ms)];rfl)|(rw[decide_eq_false (fun e:a=b/\ns=ms=>by obtain⟨e1,e2⟩:=e;subst e2;first|exact hg13 e1|exact hc21 rfl|exact hg40 rfl|exact hg47 rfl|(simp at hc54))];rfl))
  .
   refine ak 24 (.d (vI (ns.length:Nat))) J (by rw[hls]<;>rfl) ?_;refine gx J<|?_;refine lp (X:=Nat) (fun i=>[(25, .d (vI (i:Nat)))]) (fun i=>[]) (fun i=>i<=ns.length/\ ∀j (h1:j<ns.length) (h2:j<ms.length),j<i->ns[j]=ms[j]) (fun i=>ns.length-i) 0 J ⟨bQ _,fun j _ _ hj=>absurd hj (by omega)⟩ (fun _=>J) (fun i hk=>?_);obtain⟨h1,h2⟩:=hk;have hi2:i<ns.length->i<ms.length:=fun h=>by omega
   refine br J J J (fun hc26=>?_) (fun hc26=>?_)
   .
    refine ix _ J (Mt (by omega)) J<|ix _ J (Mt (by omega)) J<|?_;refine cs 40 J J J (fun hg40=>?_) (fun hg40=>?_)
    .
     exact rz rfl (by first|(rw[decide_eq_true (⟨Decidable.not_not.1 hg13,ww (by omega) (fun j p q=>h2 j p q (by omega))⟩:a=b/\ns=ms)];rfl)|(rw[decide_eq_false (fun e:a=b/\ns=ms=>by obtain⟨e1,e2⟩:=e;subst e2;first|exact hg13 e1|exact hc21 rfl|exact hg40 rfl|exact hg47 rfl|(simp at hc54))];rfl))
    .
     refine cs 47 J J J (fun hg47=>?_) (fun hg47=>?_)
     .
      exact rz rfl (by first|(rw[decide_eq_true (⟨Decidable.not_not.1 hg13,ww (by omega) (fun j p q=>h2 j p q (by omega))⟩:a=b/\ns=ms)];rfl)|(rw[decide_eq_false (fun e:a=b/\ns=ms=>by obtain⟨e1,e2⟩:=e;subst e2;first|exact hg13 e1|exact hc21 rfl|exact hg40 rfl|exact hg47 rfl|(simp at hc54))];rfl))
     .
      refine cl J (Vf (l:=(ns[i]'(by omega)).l) (m:=(ms[i]'(by omega)).l) (hbs _ (cV (by omega))) (hbt _ (cV (by omega)))) J<|?_;refine bb J J J (fun hc54=>?_) (fun hc54=>?_)
      .
       exact rz rfl (by first|(rw[decide_eq_true (⟨Decidable.not_not.1 hg13,ww (by omega) (fun j p q=>h2 j p q (by omega))⟩:a=b/\ns=ms)];rfl)|(rw[decide_eq_false (fun e:a=b/\ns=ms=>by obtain⟨e1,e2⟩:=e;subst e2;first|exact hg13 e1|exact hc21 rfl|exact hg40 rfl|exact hg47 rfl|(simp at hc54))];rfl))
      .
       exact at_ (i+1) ⟨⟨by omega,fun j p q hj=>by by_cases e:j=i;(subst e;exact NQ.ext' (by simpa using hc54) (Decidable.not_not.1 hg40) (Decidable.not_not.1 hg47));exact h2 j p q (by omega)⟩,(by omega)⟩
   .
    exact rz rfl (by first|(rw[decide_eq_true (⟨Decidable.not_not.1 hg13,ww (by omega) (fun j p q=>h2 j p q (by omega))⟩:a=b/\ns=ms)];rfl)|(rw[decide_eq_false (fun e:a=b/\ns=ms=>by obtain⟨e1,e2⟩:=e;subst e2;first|exact hg13 e1|exact hc21 rfl|exact hg40 rfl|exact hg47 rfl|(simp at hc54))];rfl))
def Z7{t:Tr}(hb:t.all LB)(hok:t.all aa.ok)(hd:t.depth<=900):PF GB prog 83 [eT t] (eT (t.restrict [])):=by
 refine fn func83 J J ntmps83 J J (fun C=>?_);refine cl J (F0 (t:=t) (c:=[]) hb hok (by simp) (by simp) (by simpa using hd)) J<|?_;exact rz J (by rw[<-Tr.restrictL_eq t [] [] hok (by simp) di.nil (fun p=>by unfold bF d5;simp)];rfl)
def Pw{cuts:List Rat}{marks:List Bool}: ∀k,2*(c9 cuts marks k).length<=k+(if 0<k/\marks.getD (k-1) false=true then 1 else 0)
 |0=>by rw[c9];simp
 |k+1=>by
  have ih:=Pw (cuts:=cuts) (marks:=marks) k;rw[c9];simp only[lR];by_cases hm:marks.getD k false=true
  ·rw[if_pos hm,if_pos (show 0<k+1/\marks.getD k false=true from⟨by omega,hm⟩)]
   by_cases hp:0<k/\marks.getD (k-1) false=true
   ·rw[if_pos hp] at ih⊢
    cases hv:(c9 cuts marks k).getLast? with
    |some v=>
     have:0<(c9 cuts marks k).length:=by
      cases e:c9 cuts marks k with
      |nil=>rw[e] at hv;simp at hv
      |cons a t=>simp
     show 2*((c9 cuts marks k).dropLast++[_]).length<=_;rw[aY,iZ,fR];omega
    |none=>
     have:c9 cuts marks k=[]:=List.getLast?_eq_none_iff.1 hv;simp only[this];simp
   ·rw[if_neg hp] at ih⊢
    rw[aY,fR];omega
  ·rw[if_neg hm]
   split at ih<;>split<;>omega
def TM(op:Int)(a b:List aj):(fm op a b).length<=a.length+b.length+1:=by
 unfold fm iH;have h:=Pw (cuts:=d6 (a++b)) (marks:=(c6 (d6 (a++b))).map fun t=>lx op (dE a t) (dE b t)) ((c6 (d6 (a++b))).map fun t=>lx op (dE a t) (dE b t)).length;have h2:=Gl (a++b);rw[aY] at h2;have h3:((c6 (d6 (a++b))).map fun t=>lx op (dE a t) (dE b t)).length=(d6 (a++b)).length+1:=by rw[aK,wX]
 split at h<;>omega
def E2(f:aG)(m:aa)(side:Int):(dw f m side).length<=3:=by
 unfold dw;split
 ·simp
 ·rw[aK]
  have:=TM 2 [f.v] (gz f.l m side);have h2:=Af (l:=f.l) (m:=m) (side:=side);rw[fR] at this;omega
theorem Xh{p v:ab}{m:aa}{s:Rat}[hp:aI p 4500][hv:aI v 97][hm:LB m](hs:BQ s 60000):BQ (mD p v m s) 60000:=by
 unfold mD rH;split
 ·exact hs
 ·split
  ·exact hs
  ·split
   ·split
    ·haveI:BQ (-(m.value p/(m.value (cv p v ((1:Int):Rat))-m.value p))) 45000:=BQ.mono inferInstance (by decide)
     exact BQ.mono (inferInstance:BQ (-(m.value p/(m.value (cv p v ((1:Int):Rat))-m.value p))/2) _) (by decide)
    ·exact hs
   ·exact hs
theorem IA{p v:ab}[hp:aI p 4500][hv:aI v 97]: ∀{c:List aa} {s:Rat},(∀m∈c,LB m)->BQ s 60000->BQ (lE p v c s) 60000
 |[],_,_,hs=>hs
 |m::t,s,hc,hs=>by
  haveI:=hc m aQ;exact IA (c:=t) (fun q hq=>hc q (aJ _ hq)) (Xh hs)
theorem Pu{c:List aa}(hc: ∀m∈c,LB m)(hok: ∀m∈c,m.ok): ∀{t:List aa},(∀m∈t,m∈c)->aI (ik c t) 70000
 |[],_=>by
  have h0:BQ (0:Rat) 70000:=BQ.mono (k:=1) ⟨by decide,by decide⟩ (by decide);exact⟨h0,h0⟩
 |m::t,h=>by
  have hm:=h m aQ;haveI:=hc m hm;rw[ik];split
  ·have hbd:=CW (v:=aj.all) (hok m hm).ne hc gm.all (BQ.mono (k:=1) ⟨by decide,by decide⟩ (by decide)) (BQ.mono (k:=1) ⟨by decide,by decide⟩ (by decide))
   haveI:=hbd.1;haveI:=hbd.2;haveI hsb:=Qi (v:=(fe m c aj.all).1) (i:=1200);haveI hpt:aI (m.at (iF (fe m c aj.all).1)) 4500:=by have:=aI.at m (iF (fe m c aj.all).1) (1200+1200+5);exact⟨this.x.mono (by decide),this.y.mono (by decide)⟩
   haveI hvt:aI (kP m.dir) 97:=inferInstance;haveI hns:BQ (lE (m.at (iF (fe m c aj.all).1)) (kP m.dir) c ((1:Int):Rat)) 60000:=IA hc (BQ.mono (k:=2) ⟨by decide,by decide⟩ (by decide));have:=aI.mov (m.at (iF (fe m c aj.all).1)) (kP m.dir) (lE (m.at (iF (fe m c aj.all).1)) (kP m.dir) c ((1:Int):Rat)) 4500 97 60000;exact⟨this.x.mono (by decide),this.y.mono (by decide)⟩
  ·exact Pu hc hok (fun q hq=>h q (aJ _ hq))
def L3{l:List aG}{k:Nat}{g:aG}{m:aa}{side:Int}(h:l[k]? =some g):(l.take (k+1)).flatMap (fun g=>dw g m side)=(l.take k).flatMap (fun g=>dw g m side)++dw g m side:=by
 rw[fW,h,sK];simp
def De(l:List aG)(m:aa)(side:Int):(l.flatMap fun g=>dw g m side).length<=3*l.length:=by
 induction l with
 |nil=>simp
 |cons a t ih=>rw[mJ,aY,bU];have:=E2 a m side;omega
def Rj{acc:ab->Bool}{n:Nat}{c:List aa}:gu acc n [] c= .leaf (acc (ik c c)):=by cases n<;>rfl
def Vb{rs:List (List ZP)}{fill:Int}(hrs: ∀r∈rs,cF r)(hrn:rs.length<=100){n:Nat}{c:List aa}(hc: ∀m∈c,LB m)(hok: ∀m∈c,m.ok)(hn:c.length<=900):PF GB prog 84 [ut rs fill, .sl [], .sl (c.map eL)] (eT (gu (gj rs fill) n [] c)):=by
 haveI hpb:=Pu hc hok (t:=c) (fun _ h=>h);refine fn (fu:=⟨11⟩) func84 J J ntmps84 J J (fun C=>?_);refine dx J J J<|cl J (Gi (c:=c) hc hok (by omega)) J<|cl J (TE (p:=ik c c) (i:=70000) hrs hrn (by decide)) J<|cl J (Su (p:=gj rs fill (ik c c))) J<|?_;exact rz J (by rw[Rj];rfl)
def Tq{rs:List (List ZP)}{fill:Int}(hrs: ∀r∈rs,cF r)(hrn:rs.length<=100){n:Nat}{f:aG}{t:List aG}{c:List aa}(hfew:jc (n+1) (f::t))(hfo: ∀g∈f::t,kE g)(hlen:(f::t).length*3^(n+1)<=6973568802)(hc: ∀m∈c,LB m)(hok: ∀m∈c,m.ok)(hn:c.length+(n+1)<=900)(ih: ∀{l:List aG} {c:List aa},jc n l->(∀f∈l,kE f)->l.length*3^n<=6973568802->(∀m∈c,LB m)->(∀m∈c,m.ok)->c.length+n<=900->PF GB prog 84 [ut rs fill, .sl (l.map eG), .sl (c.map eL)] (eT (gu (gj rs fill) n l c))):PF GB prog 84 [ut rs fill, .sl ((f::t).map eG), .sl (c.map eL)] (eT (gu (gj rs fill) (n+1) (f::t) c)):=by
 obtain⟨l,hl⟩: ∃l,l=f::t:=⟨_,rfl⟩;have hl0:l[0]? =some f:=by rw[hl];rfl
 rw[<-hl] at hfew hfo hlen⊢;have hm:=fI eG l;have hfl:=hfo f (bZ hl0);haveI:=hfl.lb;have hlp:0<l.length:=by rw[hl];simp
 have hlb:l.length<=6973568802:=cR (qR _ (dL (by decide))) hlen;refine fn (fu:=⟨11⟩) func84 J J ntmps84 J J (fun C=>?_);refine ak 17 (.d (vI (l.length:Nat))) J (by rw[hm]<;>rfl) ?_;refine gx (fu:=⟨0⟩) J<|d7 J (by show some (decide _)=some false;rw[decide_eq_false (by omega)]) J<|ix (fu:=⟨17⟩) _ J (d9 (i:=0) hl0) J<|?_;refine ak 33 (.d (vI (l.length:Nat))) J (by rw[hm]<;>rfl) ?_;refine gx J<|?_;refine nr 10 10 161 14 J J J ?_;refine nr 11 11 161 14 J J J ?_;refine lp (X:=Nat) (fun k=>[(34, .d (vI (k:Nat))),(10, .rw 10),(11, .rw 11)]) (fun k=>[(10,some (.b 161 14 (((l.take k).flatMap fun g=>dw g f.l 1).map eG) true)),(11,some (.b 161 14 (((l.take k).flatMap fun g=>dw g f.l (-1)).map eG) true))]) (fun k=>k<=l.length) (fun k=>l.length-k) 0 J (bQ _) (fun _=>J) (fun k hk=>?_);have htk:(l.take k).length<=6973568802:=by rw[cJ];omega
 have hb1:(((l.take k).flatMap fun g=>dw g f.l 1).map eG).length<=20920706406:=by rw[aK];have:=De (l.take k) f.l 1;omega
 have hb2:(((l.take k).flatMap fun g=>dw g f.l (-1)).map eG).length<=20920706406:=by rw[aK];have:=De (l.take k) f.l (-1);omega
 refine br (fu2:=⟨0⟩) J J J (fun hc35=>?_) (fun hc35=>?_)
 .
  obtain⟨g,hz⟩: ∃s,l[k]? =some s:=⟨_,aZ (by omega)⟩;have hg:=hfo g (bZ hz);have hs1:((dw g f.l 1).map eG).length<=3:=by rw[aK];exact E2 _ _ _
  have hs2:((dw g f.l (-1)).map eG).length<=3:=by rw[aK];exact E2 _ _ _
  refine ix _ J (d9 hz) J<|cl J (QU (f:=g) (m:=f.l) hg hfl.ok) J<|ap (hbd:=by omega) (((l.take (k+1)).flatMap fun g=>dw g f.l 1).map eG) J (by rw[L3 hz,bT]) (wE _) J<|?_;refine ap (hbd:=by omega) (((l.take (k+1)).flatMap fun g=>dw g f.l (-1)).map eG) J (by rw[L3 hz,bT]) (wE _) J<|?_;refine fA 46 10 J ?_;refine fA 49 11 J ?_;exact at_ (k+1) ⟨(by omega),(by omega)⟩
 .
  obtain rfl:k=l.length:=by omega
  rw[cM];refine pp 10 J ?_;refine pp 11 J ?_;refine gx J<|qe J J<|ap (c.map eL) J J (fE c) J<|rf J J<|k8 ((c++[f.l]).map eL) J (by rw[bT];rfl) (fE [f.l]) J<|?_;refine cl rfl (ih (c:=c++[f.l]) (by subst hl;exact jc.split hfew hfo) (fun g hg=>by obtain⟨q,hq,hg⟩:=gX.1 hg;exact(wk (hfo q hq) hfl.lb g hg).1) (by have:=De l f.l 1;rw[fK] at hlen;exact cR (bV _ this) (by rw[bS 3,bL];rw[bS (3^n)] at hlen;exact hlen)) (ur hc hfl.lb) (lI hok hfl.ok) (by rw[aY,fR];omega)) rfl<|?_;refine qe J J<|ap (c.map eL) J J (fE c) J<|cl J (zz (l:=f.l)) J<|rf J J<|k8 ((c++[f.l.rev]).map eL) J (by rw[bT];rfl) (fE [f.l.rev]) J<|?_;refine cl (fu:=⟨1⟩) rfl (ih (c:=c++[f.l.rev]) (by subst hl;exact jc.split hfew hfo) (fun g hg=>by obtain⟨q,hq,hg⟩:=gX.1 hg;exact(wk (hfo q hq) hfl.lb g hg).1) (by have:=De l f.l (-1);rw[fK] at hlen;exact cR (bV _ this) (by rw[bS 3,bL];rw[bS (3^n)] at hlen;exact hlen)) (ur hc hfl.lb.rev) (lI hok hfl.ok.rev) (by rw[aY,fR];omega)) rfl<|?_;refine Qf J J<|?_;exact rz J (by subst hl;rfl)
def PA{rs:List (List ZP)}{fill:Int}(hrs: ∀r∈rs,cF r)(hrn:rs.length<=100): ∀{n:Nat} {l:List aG} {c:List aa},jc n l->(∀f∈l,kE f)->l.length*3^n<=6973568802->(∀m∈c,LB m)->(∀m∈c,m.ok)->c.length+n<=900->PF GB prog 84 [ut rs fill, .sl (l.map eG), .sl (c.map eL)] (eT (gu (gj rs fill) n l c))
 |n,[],c,_,_,_,hc,hok,hn=>Vb hrs hrn hc hok (by omega)
 |0,f::t,c,hf,_,_,_,_,_=>by
  obtain⟨K,h1,h2⟩:=hf;obtain⟨m,hm,_⟩:=h2 f aQ;rw[bK (l:=K) (by omega)] at hm
  cases hm
 |n+1,f::t,c,hf,ho,hl,hc,hok,hn=>Tq hrs hrn hf ho hl hc hok hn (fun a1 a2 a3 a4 a5 a6=>PA hrs hrn a1 a2 a3 a4 a5 a6)
def TR(l:List aG):jc l.length l:=⟨l.map aG.l,by rw[aK];exact aL _,fun f hf=>⟨f.l,gM hf, .inl J⟩⟩
def Yq{n:Nat}(h:n<=18):n*3^n<=6973568802:=cR (kX h (bY (by decide) h)) (by decide)
def Uo{rs:List (List ZP)}{fill:Int}(hrs: ∀r∈rs,cF r)(hrn:rs.length<=3):PF GB prog 23 [ut rs fill] (eT (kg rs fill)):=by
 have hm:=fI jH rs;have hE:=nq hrs;have hraw:=Nn (acc:=gj rs fill) hE.2 J;refine fn (fu:=⟨17⟩) func23 J J ntmps23 J J (fun C=>?_);refine ak 8 (.d (vI (rs.length:Nat))) J (by rw[hm]<;>rfl) ?_;refine gx J<|?_;refine nr 3 3 161 14 J J J ?_;refine lp (X:=Nat) (fun k=>[(9, .d (vI (k:Nat))),(3, .rw 3)]) (fun k=>[(3,some (.b 161 14 ((b9 (rs.take k)).map eG) true))]) (fun k=>k<=rs.length) (fun k=>rs.length-k) 0 J (bQ _) (fun _=>J) (fun k hk=>?_);have het:((b9 (rs.take k)).map eG).length<=6*k:=by rw[aK];exact vS hrs k
 refine br J J J (fun hc10=>?_) (fun hc10=>?_)
 .
  obtain⟨r,hz⟩: ∃s,rs[k]? =some s:=⟨_,aZ (by omega)⟩;have hr:=hrs r (bZ hz);have hel:((ey r).map eG).length<=6:=by rw[aK];have:=(rF hr).1;have:=hr.n6;omega
  refine ix _ J (d9 hz) J<|cl J (O4 (r:=r) hr) J<|ap (hbd:=by omega) ((b9 (rs.take (k+1))).map eG) J (by rw[Hn hz,bT]) (wE _) J<|?_;refine fA 16 3 J ?_;exact at_ (k+1) ⟨(by omega),(by omega)⟩
 .
  obtain rfl:k=rs.length:=by omega
  rw[cM];refine fz 3 J J<|cl J (PA (n:=(b9 rs).length) (l:=b9 rs) (c:=[]) hrs (by omega) (TR _) hE.2 (Yq (by have:=hE.1;omega)) (fun m h=>by cases h) (fun m h=>by cases h) (by have:=hE.1;rw[iR];omega)) J<|?_;refine cl J (Z7 (t:=ol rs fill) hraw.gd.lb hraw.gd.ok (by have:=hraw.dp;have:=hE.1;show(gu _ _ _ _).depth<=900;omega)) J<|?_;exact rz J J
end Go.Sx
end
