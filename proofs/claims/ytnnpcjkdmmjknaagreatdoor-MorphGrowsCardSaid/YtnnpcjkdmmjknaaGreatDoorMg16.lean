import Derived.Test.YtnnpcjkdmmjknaaGreatDoorMg15
set_option linter.all false
set_option maxHeartbeats 4000000
set_option maxRecDepth 100000
section
namespace Go.Sx
open Go Go.Proofs Tryz
variable {GB G:Gh}{l:List (Option DV)}{m l1:aa}{side fill:Int}{p:ah}{cuts:List Rat}{i k n e len s nm off d by_:Nat}{y x fo:Operand}{marks:List Bool}{xs a b:List ao}{C:aD}{Q0:Exit->Act->World->Prop}{fr fr':aC}{own':aH}{cf cf':Cf}{vc:List Prop}{lk:LK}{bk:BM}{dst:Option Nat}{t ty' ty ty2 ty0 t':TypeId}{pos:String}{af:Array Edge}{gd:Option (Nat×Bool)}{z zx:List FX}{pre post ds rows rws dsi dso ds2 ds':List DV}{f:FuncId}{r:List ZP}{rs:List (List ZP)}{c:List aa}{q lo:Bool}{args:Array Operand}{tys:Array TypeId}{fb:Func}{ns:List NQ}
def Y9(t:Rat):eV ⟨t,0,false,true⟩= .ag [.v (.bool (decide (t.num<0))),dN t.num.natAbs,dD t.den, .v (.bool false), .sl [], .sl [], .v (.bool false), .v (.bool true)]:=by
 unfold eV dD;simp only[show(0:Rat).num=0 from J,show(0:Rat).den=1 from J,lW,qv];rfl
def W9(t:Rat):eV ⟨0,t,true,false⟩= .ag [.v (.bool false), .sl [], .sl [], .v (.bool (decide (t.num<0))),dN t.num.natAbs,dD t.den, .v (.bool true), .v (.bool false)]:=by
 unfold eV dD;simp only[show(0:Rat).num=0 from J,show(0:Rat).den=1 from J,lW,qv];rfl
def A9(l m:aa)(side:Int):DV:= .tp [.sl ((jn l m side).map eV),vB (ng l m)]
def Pp{l:aa}(h:crossI l m≠0):ng l m=false:=by unfold ng;rw[decide_eq_false];exact fun e=>h e.1
def Ob{l:aa}(h:crossI l m=0):ng l m=decide ((m.value l.base).num.sign=0):=by unfold ng;simp[h]
def Lp{l:aa}[hl:LB l][hm:LB m](hlo:l.ok)(hmo:m.ok)(hs:side=1\/side= -1):PF GB prog 309 [eL l,eL m,vI side] (A9 l m side):=by
 refine fn func309 J J ntmps309 J J (fun C=>?_);refine cl J (Gi (l:=l) (m:=m)) J<|?_;refine bb J J J (fun hc19=>?_) (fun hc19=>?_)
 .
  have hc:crossI l m=0:=by simpa using hc19
  refine cl J (EL hlo.ne) J<|cl J (Bx (l:=m) (p:=l.base)) J<|?_;refine br J J J (fun hc26=>?_) (fun hc26=>?_)
  .
   refine cl J OD J<|rf J J<|?_;exact rz J (by unfold A9 jn;rw[if_pos hc,if_pos hc26,Ob hc];rfl)
  .
   exact rz J (by unfold A9 jn;rw[if_pos hc,if_neg hc26,Ob hc];rfl)
 .
  have hc:crossI l m≠0:=by simpa using hc19
  haveI hpb:=Ez (l:=l) (m:=m) hlo.ne hc;obtain⟨t,ht⟩: ∃t,t=jo l (di l m):=⟨_,rfl⟩;refine cl (fu:=⟨0⟩) J (Ff (l:=l) (p:=di l m) hlo.ne) J<|?_;refine ak 35 (.d (eQ t)) J (by rw[ht]) ?_;rw[<-ht] at hpb;refine gx J<|cl J (kl (n:=1)) J<|cl J (ol (a:=t) (b:=((1:Int):Rat))) J<|cl J (Tj (l:=l) (t:=t+((1:Int):Rat)) hlo.ne) J<|?_;refine cl J (Bx (l:=m) (p:=l.at (t+((1:Int):Rat)))) J<|?_;refine br J J J (fun hc44=>?_) (fun hc44=>?_)
  .
   refine rf J J<|?_;exact rz J (by unfold A9 jn;rw[if_neg hc,<-ht,if_pos (show(m.value (l.at (t+1))).num.sign=side from hc44),Pp hc,bT,Y9];rfl)
  .
   refine rf J J<|?_;exact rz J (by unfold A9 jn;rw[if_neg hc,<-ht,if_neg (show¬(m.value (l.at (t+1))).num.sign=side from hc44),Pp hc,bT,W9];rfl)
def fA(f:bz):DV:= .ag [.v (.bool (decide (f.l.a<0))),dN f.l.a.natAbs, .v (.bool (decide (f.l.b<0))),dN f.l.b.natAbs, .v (.bool (decide (f.l.c<0))),dN f.l.c.natAbs, .v (.bool (decide (f.v.lo.num<0))),dN f.v.lo.num.natAbs,dD f.v.lo.den, .v (.bool (decide (f.v.hi.num<0))),dN f.v.hi.num.natAbs,dD f.v.hi.den, .v (.bool f.v.nl), .v (.bool f.v.nh)]
def yo(fs:List bz):cP 14 (fs.map fA):=fun d hd=>by
 obtain⟨u,_,rfl⟩:=aT.1 hd;exact⟨rfl,rfl⟩
theorem uX{p:ZP}(h:ZP.le 100 p):aG p.q 12:=by
 haveI:BI p.1 11:=mO (by have:=h.1;omega);haveI:BI p.2 11:=mO (by have:=h.2;omega);exact(inferInstance:aG (iP p.1 p.2) 12)
def auJ{v w:ZP}(hv:ZP.le 100 v)(hw:ZP.le 100 w)(h:v≠w):PF GB prog 249 [eP v.q,eP w.q] (.tp [fA (C4 v w),vB true]):=by
 have hne: ¬(w.1=v.1/\w.2=v.2):=fun e=>h (Prod.ext e.1.symm e.2.symm);obtain⟨hlb,hlo⟩:=Qz (m:=v.1) (n:=v.2) (p:=w.1) (q:=w.2) (by have:=hv.1;omega) (by have:=hv.2;omega) (by have:=hw.1;omega) (by have:=hw.2;omega) hne;haveI:=hlb;haveI:=uX hv;haveI:=uX hw;refine fn func249 J J ntmps249 J J (fun C=>?_);refine cl (fu:=⟨3⟩) J (QI (m:=v.1) (n:=v.2) (m':=w.1) (n':=w.2) (by have:=hv.1;omega) (by have:=hv.2;omega) (by have:=hw.1;omega) (by have:=hw.2;omega) (fun e=>hne ⟨e.1.symm,e.2.symm⟩)) J<|?_;refine kG 13 J ?_;refine gx J<|cl J (Ff (l:=oc v.1 v.2 w.1 w.2) (p:=v.q) hlo.ne) J<|cl J (Ff (l:=oc v.1 v.2 w.1 w.2) (p:=w.q) hlo.ne) J<|?_;exact rz J J
def ZQ(a b:Bool):eV ⟨0,0,a,b⟩= .ag [.v (.bool false), .sl [], .sl [], .v (.bool false), .sl [], .sl [], .v (.bool a), .v (.bool b)]:=by
 unfold eV dD;simp only[show(0:Rat).num=0 from J,show(0:Rat).den=1 from J,lW,qv];rfl
def OE(t:Rat)(a b:Bool):eV ⟨t,0,a,b⟩= .ag [.v (.bool (decide (t.num<0))),dN t.num.natAbs,dD t.den, .v (.bool false), .sl [], .sl [], .v (.bool a), .v (.bool b)]:=by
 unfold eV dD;simp only[show(0:Rat).num=0 from J,show(0:Rat).den=1 from J,lW,qv];rfl
def aIv(t:Rat)(a b:Bool):eV ⟨0,t,a,b⟩= .ag [.v (.bool false), .sl [], .sl [], .v (.bool (decide (t.num<0))),dN t.num.natAbs,dD t.den, .v (.bool a), .v (.bool b)]:=by
 unfold eV dD;simp only[show(0:Rat).num=0 from J,show(0:Rat).den=1 from J,lW,qv];rfl
def aDQ(h:i=0)(k: ¬i<cuts.length):fm cuts i=⟨0,0,decide (i=0),decide (i=cuts.length)⟩:=by unfold fm;rw[if_pos h,if_neg k]
def aBx{y:Rat}(h:i=0)(k:cuts[i]? =some y):fm cuts i=⟨0,y,decide (i=0),decide (i=cuts.length)⟩:=by
 unfold fm;rw[if_pos h,if_pos (aY.1 k).1,aK,k];rfl
def aCp{x:Rat}(h: ¬i=0)(k:cuts[i-1]? =some x)(k2: ¬i<cuts.length):fm cuts i=⟨x,0,decide (i=0),decide (i=cuts.length)⟩:=by
 unfold fm;rw[if_neg h,if_neg k2,aK,k];rfl
def Zu{x y:Rat}(h: ¬i=0)(k:cuts[i-1]? =some x)(k2:cuts[i]? =some y):fm cuts i=⟨x,y,decide (i=0),decide (i=cuts.length)⟩:=by
 unfold fm;rw[if_neg h,if_pos (aY.1 k2).1,aK,k,aK,k2];rfl
def Z2(h:marks[k]? =some false):gH cuts marks (k+1)=gH cuts marks k:=by
 rw[gH,aK,h];rfl
def CS(h:marks[k]? =some true)(hp: ¬(0<k/\marks[k-1]? =some true)):gH cuts marks (k+1)=gH cuts marks k++[fm cuts k]:=by
 rw[gH,aK,h];show(if 0<k/\_ then _ else _)=_;rw[if_neg];rintro ⟨h1,h2⟩;rw[aK] at h2
 cases e:marks[k-1]? with
 |none=>rw[e] at h2;cases h2
 |some b=>rw[e] at h2;exact hp ⟨h1,by rw[e];simp at h2;rw[h2]⟩
def LT(h:marks[k]? =some true):gH cuts marks (k+1)≠[]:=by
 rw[gH,aK,h];show(if 0<k/\_ then _ else _)≠[];split
 .split<;>simp
 .simp
def Lj{v:ao}(hk:0<k)(h:marks[k]? =some true)(hp:marks[k-1]? =some true)(hx:gH cuts marks k=xs)(hv:xs[xs.length-1]? =some v):gH cuts marks (k+1)=xs.set (xs.length-1) (vy v (fm cuts k)):=by
 rw[gH,aK,h];show(if 0<k/\_ then _ else _)=_;rw[if_pos ⟨hk,by rw[aK,hp];rfl⟩,hx,nM,hv];have hn:0<xs.length:=by
  have:=(aY.1 hv).1;omega
 show xs.dropLast++[_]=_;apply lR;intro i;rw[mS];by_cases hi:i<xs.length-1
 .rw[jX (by rw[mU];exact hi),List.getElem?_dropLast,if_pos hi,if_neg (by omega)]
 .by_cases hi2:i=xs.length-1
  .subst hi2
   rw[jT (by rw[mU];exact bX _),mU,sX,if_pos J,if_pos (by omega)];rfl
  .rw[dY (by rw[aU,mU];simp;omega),if_neg (by omega),dY (by omega)]
def xw{α:Type}{f:α->DV}{l:List α}{x:α}(hk:0<k)(h:l[k-1]? =some x):(l.map f)[(((k:Nat):Int)-1).toNat]? =some (f x):=by
 rw[show(((k:Nat):Int)-1).toNat=k-1 by omega,bS,h];rfl
def s8:decide (k=n)=decide (((k:Nat):Int)=((n:Nat):Int)):=decide_eq_decide.2 (by omega)
def T6(hn:cuts.length<=100000)(hmk:marks.length<=cuts.length+1):PF GB prog 343 [.sl (cuts.map eQ), .sl (marks.map vB)] (.sl ((wU cuts marks).map eV)):=by
 have hm:=et vB marks;have hmc:=et eQ cuts;refine fn (fu:=⟨15⟩) func343 J J ntmps343 J J (fun C=>?_);refine ak 11 (.d (vI (marks.length:Nat))) J (by rw[hm]<;>rfl) ?_;refine gx J<|?_;refine nr 5 5 201 8 J J J ?_;refine lp (X:=List ao×Nat) (fun⟨xs,k⟩=>[(12, .d (vI (k:Nat))),(5, .rw 5)]) (fun⟨xs,k⟩=>[(5,some (.b 201 8 (xs.map eV) true))]) (fun⟨xs,k⟩=>xs=gH cuts marks k/\k<=marks.length) (fun⟨xs,k⟩=>marks.length-k) ([],0) J ⟨J,bZ _⟩ (fun _=>J) (fun⟨xs,k⟩ hk=>?_);dsimp only at hk⊢;obtain⟨h1,h2⟩:=hk;have hml:=et eV xs;have hxl:xs.length<=k:=by rw[h1];exact Kg
 refine br J J J (fun hc13=>?_) (fun hc13=>?_)
 .
  obtain⟨b,hz⟩: ∃s,marks[k]? =some s:=⟨_,aZ (by omega)⟩;refine ix (fu:=⟨8⟩) _ J (cH hz) J<|?_
  cases b
  .
   refine cd (fu:=⟨12⟩) J J J<|?_;exact at_ (xs,k+1) (by dsimp only;exact⟨⟨by rw[Z2 hz,<-h1],by omega⟩,(by omega)⟩)
  .
   refine c6 (fu:=⟨13⟩) J J J<|?_;rcases(show(k=0/\k<cuts.length)\/(k=0/\ ¬k<cuts.length)\/(0<k/\k<cuts.length)\/(0<k/\ ¬k<cuts.length) by omega) with⟨c1,c2⟩|⟨c1,c2⟩|⟨c1,c2⟩|⟨c1,c2⟩
   .
    obtain⟨y,hy⟩: ∃s,cuts[k]? =some s:=⟨_,aZ (by omega)⟩;have hgap:=aBx (cuts:=cuts) (i:=k) c1 hy;have hnp: ¬(0<k/\marks[k-1]? =some true):=fun e=>by omega
    refine ak 23 (.d (vI (cuts.length:Nat))) J (by rw[hmc]<;>rfl) ?_;refine gx (fu:=⟨10⟩) J<|cd (fu:=⟨11⟩) J (by show some (decide _)=some false;rw[decide_eq_false (by omega)]) J<|?_;refine ak 36 (.d (vI (cuts.length:Nat))) J (by rw[hmc]<;>rfl) ?_;refine gx (fu:=⟨0⟩) J<|c6 J (by show some (decide _)=some true;rw[decide_eq_true (by omega)]) J<|ix (fu:=⟨10⟩) _ J (cH hy) J<|?_;refine ak 44 (.d (vI (xs.length:Nat))) J (by rw[hml]<;>rfl) ?_;refine gx (fu:=⟨6⟩) J<|cd (fu:=⟨19⟩) J (by show some (decide _)=some false;rw[decide_eq_false (by omega)]) J<|?_;refine ak 73 (.d (eV (fm cuts k))) J (by rw[hgap,aIv,s8 (k:=k) (n:=0),s8 (k:=k) (n:=cuts.length)]<;>rfl) ?_;refine gx J<|rf J J<|ap (fu:=⟨12⟩) ((xs++[fm cuts k]).map eV) J (by rw[bV];rfl) (As [fm cuts k]) J<|?_;refine fH 75 5 J ?_;exact at_ (xs++[fm cuts k],k+1) (by dsimp only;exact⟨⟨by rw[CS hz hnp,<-h1],by omega⟩,(by omega)⟩)
   .
    have hgap:=aDQ (cuts:=cuts) (i:=k) c1 c2;have hnp: ¬(0<k/\marks[k-1]? =some true):=fun e=>by omega
    refine ak 23 (.d (vI (cuts.length:Nat))) J (by rw[hmc]<;>rfl) ?_;refine gx (fu:=⟨10⟩) J<|cd (fu:=⟨11⟩) J (by show some (decide _)=some false;rw[decide_eq_false (by omega)]) J<|?_;refine ak 36 (.d (vI (cuts.length:Nat))) J (by rw[hmc]<;>rfl) ?_;refine gx (fu:=⟨0⟩) J<|cd (fu:=⟨10⟩) J (by show some (decide _)=some false;rw[decide_eq_false (by omega)]) J<|?_;refine ak 44 (.d (vI (xs.length:Nat))) J (by rw[hml]<;>rfl) ?_;refine gx (fu:=⟨6⟩) J<|cd (fu:=⟨19⟩) J (by show some (decide _)=some false;rw[decide_eq_false (by omega)]) J<|?_;refine ak 73 (.d (eV (fm cuts k))) J (by rw[hgap,ZQ,s8 (k:=k) (n:=0),s8 (k:=k) (n:=cuts.length)]<;>rfl) ?_;refine gx J<|rf J J<|ap (fu:=⟨12⟩) ((xs++[fm cuts k]).map eV) J (by rw[bV];rfl) (As [fm cuts k]) J<|?_;refine fH 75 5 J ?_;exact at_ (xs++[fm cuts k],k+1) (by dsimp only;exact⟨⟨by rw[CS hz hnp,<-h1],by omega⟩,(by omega)⟩)
   .
    obtain⟨x,hx⟩: ∃s,cuts[k-1]? =some s:=⟨_,aZ (by omega)⟩;obtain⟨pb,hpb⟩: ∃s,marks[k-1]? =some s:=⟨_,aZ (by omega)⟩;obtain⟨y,hy⟩: ∃s,cuts[k]? =some s:=⟨_,aZ (by omega)⟩;have hgap:=Zu (cuts:=cuts) (i:=k) (by omega) hx hy;refine ak 23 (.d (vI (cuts.length:Nat))) J (by rw[hmc]<;>rfl) ?_;refine gx (fu:=⟨10⟩) J<|c6 J (by show some (decide _)=some true;rw[decide_eq_true (by omega)]) J<|ix (fu:=⟨11⟩) _ J (xw (by omega) hx) J<|?_;refine ak 36 (.d (vI (cuts.length:Nat))) J (by rw[hmc]<;>rfl) ?_;refine gx (fu:=⟨0⟩) J<|c6 J (by show some (decide _)=some true;rw[decide_eq_true (by omega)]) J<|ix (fu:=⟨10⟩) _ J (cH hy) J<|?_;refine ak 44 (.d (vI (xs.length:Nat))) J (by rw[hml]<;>rfl) ?_;refine gx (fu:=⟨6⟩) J<|c6 J (by show some (decide _)=some true;rw[decide_eq_true (by omega)]) J<|ix _ J (xw (by omega) hpb) J<|?_;refine ja (fu1:=⟨1⟩) (fu2:=⟨11⟩) 54 J J J (fun hg54=>?_) (fun hg54=>?_)
    .
     have hpb':marks[k-1]? =some true:=by rw[hpb];congr 1
     have hxn:0<xs.length:=by rw[h1];have:=LT (cuts:=cuts) hpb';rw[show k-1+1=k by omega] at this;exact oS.2 this
     obtain⟨w,hw⟩: ∃s,xs[xs.length-1]? =some s:=⟨_,aZ (by omega)⟩;refine c6 J (by show some (decide _)=some true;rw[decide_eq_true (by omega)]) J<|sb (eV w) ((xs.set (xs.length-1) (⟨w.lo,y,w.nl,w.nh⟩:ao)).map eV) J (xw hxn hw) J (by rw[show(((xs.length:Nat):Int)-1).toNat=xs.length-1 by omega,kY];rfl) J<|?_;refine sb (hv:=by simp only[aj];exact⟨by kernel_rfl,by omega⟩) (eV (⟨w.lo,y,w.nl,w.nh⟩:ao)) ((xs.set (xs.length-1) (vy w (fm cuts k))).map eV) J (by rw[show(((xs.length:Nat):Int)-1).toNat=xs.length-1 by omega,kY,pV (by rw[hml];omega)]) J (by rw[show(((xs.length:Nat):Int)-1).toNat=xs.length-1 by omega,kY,List.set_set,kY,hgap];unfold vy;dsimp only;rw[s8 (k:=k) (n:=cuts.length)]<;>rfl) J<|?_;exact at_ (xs.set (xs.length-1) (vy w (fm cuts k)),k+1) (by dsimp only;exact⟨⟨(Lj (by omega) hz hpb' h1.symm hw).symm,by omega⟩,(by omega)⟩)
    .
     have hnp: ¬(0<k/\marks[k-1]? =some true):=fun e=>by rw[hpb,hg54] at e;simpa using e.2
     refine ak 73 (.d (eV (fm cuts k))) J (by rw[hgap];unfold eV;dsimp only;rw[s8 (k:=k) (n:=0),s8 (k:=k) (n:=cuts.length)]<;>rfl) ?_;refine gx J<|rf J J<|ap (fu:=⟨12⟩) ((xs++[fm cuts k]).map eV) J (by rw[bV];rfl) (As [fm cuts k]) J<|?_;refine fH 75 5 J ?_;exact at_ (xs++[fm cuts k],k+1) (by dsimp only;exact⟨⟨by rw[CS hz hnp,<-h1],by omega⟩,(by omega)⟩)
   .
    obtain⟨x,hx⟩: ∃s,cuts[k-1]? =some s:=⟨_,aZ (by omega)⟩;obtain⟨pb,hpb⟩: ∃s,marks[k-1]? =some s:=⟨_,aZ (by omega)⟩;have hgap:=aCp (cuts:=cuts) (i:=k) (by omega) hx c2;refine ak 23 (.d (vI (cuts.length:Nat))) J (by rw[hmc]<;>rfl) ?_;refine gx (fu:=⟨10⟩) J<|c6 J (by show some (decide _)=some true;rw[decide_eq_true (by omega)]) J<|ix (fu:=⟨11⟩) _ J (xw (by omega) hx) J<|?_;refine ak 36 (.d (vI (cuts.length:Nat))) J (by rw[hmc]<;>rfl) ?_;refine gx (fu:=⟨0⟩) J<|cd (fu:=⟨10⟩) J (by show some (decide _)=some false;rw[decide_eq_false (by omega)]) J<|?_;refine ak 44 (.d (vI (xs.length:Nat))) J (by rw[hml]<;>rfl) ?_;refine gx (fu:=⟨6⟩) J<|c6 J (by show some (decide _)=some true;rw[decide_eq_true (by omega)]) J<|ix _ J (xw (by omega) hpb) J<|?_;refine ja (fu1:=⟨1⟩) (fu2:=⟨11⟩) 54 J J J (fun hg54=>?_) (fun hg54=>?_)
    .
     have hpb':marks[k-1]? =some true:=by rw[hpb];congr 1
     have hxn:0<xs.length:=by rw[h1];have:=LT (cuts:=cuts) hpb';rw[show k-1+1=k by omega] at this;exact oS.2 this
     obtain⟨w,hw⟩: ∃s,xs[xs.length-1]? =some s:=⟨_,aZ (by omega)⟩;refine c6 J (by show some (decide _)=some true;rw[decide_eq_true (by omega)]) J<|sb (eV w) ((xs.set (xs.length-1) (⟨w.lo,0,w.nl,w.nh⟩:ao)).map eV) J (xw hxn hw) J (by rw[show(((xs.length:Nat):Int)-1).toNat=xs.length-1 by omega,kY,OE];rfl) J<|?_;refine sb (hv:=by simp only[aj];exact⟨by kernel_rfl,by omega⟩) (eV (⟨w.lo,0,w.nl,w.nh⟩:ao)) ((xs.set (xs.length-1) (vy w (fm cuts k))).map eV) J (by rw[show(((xs.length:Nat):Int)-1).toNat=xs.length-1 by omega,kY,pV (by rw[hml];omega)]) J (by rw[show(((xs.length:Nat):Int)-1).toNat=xs.length-1 by omega,kY,List.set_set,kY,hgap];unfold vy;dsimp only;rw[s8 (k:=k) (n:=cuts.length)]<;>rfl) J<|?_;exact at_ (xs.set (xs.length-1) (vy w (fm cuts k)),k+1) (by dsimp only;exact⟨⟨(Lj (by omega) hz hpb' h1.symm hw).symm,by omega⟩,(by omega)⟩)
    .
     have hnp: ¬(0<k/\marks[k-1]? =some true):=fun e=>by rw[hpb,hg54] at e;simpa using e.2
     refine ak 73 (.d (eV (fm cuts k))) J (by rw[hgap,OE,s8 (k:=k) (n:=0),s8 (k:=k) (n:=cuts.length)]<;>rfl) ?_;refine gx J<|rf J J<|ap ((xs++[fm cuts k]).map eV) J (by rw[bV];rfl) (As [fm cuts k]) J<|?_;refine fH 75 5 J ?_;exact at_ (xs++[fm cuts k],k+1) (by dsimp only;exact⟨⟨by rw[CS hz hnp,<-h1],by omega⟩,(by omega)⟩)
 .
  have hfin:wU cuts marks=xs:=by rw[h1,wU,show k=marks.length by omega]
  refine ir 5 J ?_;exact rz J (by rw[hfin];rfl)
def Kd{g:Rat}: ∀{l:List Rat},g∈i8 l-> ∃a∈l,∃b∈l,g=(a+b)/2
 |[],h=>by cases h
 |[_],h=>by cases h
 |a::b::t,h=>by
  rw[i8] at h;rcases aW.1 h with rfl|h
  .exact⟨a,aQ,b,aJ _ aQ,J⟩
  .obtain⟨c,hc,d,hd,e⟩:=Kd h
   exact⟨c,aJ _ hc,d,aJ _ hd,e⟩
theorem aCN{l:List Rat}(h: ∀q∈l,BQ q 1200): ∀g∈ck l,BQ g 2500:=fun g hg=>by
 cases l with
 |nil=>
  rw[ck,aS] at hg;subst hg;exact BQ.mono (k:=1) ⟨by decide,by decide⟩
 |cons a t=>
  rw[ck] at hg;rcases aW.1 hg with rfl|hg
  .haveI:=h a aQ
   exact BQ.mono (inferInstance:BQ (a-1) _) (by omega)
  .rcases bW.1 hg with hg|hg
   .obtain⟨c,hc,d,hd,rfl⟩:=Kd hg
    haveI:=h c hc;haveI:=h d hd;exact BQ.mono (inferInstance:BQ ((c+d)/2) _) (by omega)
   .rw[aS] at hg
    haveI:=h _ (List.getLast_mem (l:=a::t) (by simp));subst hg;exact BQ.mono (inferInstance:BQ ((a::t).getLast (by simp)+1) _) (by omega)
def Sq(l:List ao):qF l l.length=km l:=by unfold qF;rw[dQ]
theorem ay9{l:List ao}(h: ∀v∈l,nD v): ∀y∈km l,BQ y 1200:=by rw[<-Sq];exact MB h
def JH(l:List ao):(km l).length<=2*l.length:=by rw[<-Sq];exact EU l _
def nD.app(ha: ∀v∈a,nD v)(hb: ∀v∈b,nD v): ∀v∈a++b,nD v:=fun v hv=>(bW.1 hv).elim (ha v) (hb v)
def Ro(ha: ∀v∈a,nD v)(hb: ∀v∈b,nD v)(hna:a.length<=100)(hnb:b.length<=100):PF GB prog 310 [vI 2, .sl (a.map eV), .sl (b.map eV)] (.sl ((q6 2 a b).map eV)):=by
 obtain⟨cuts,hcu⟩: ∃c,c=km (a++b):=⟨_,rfl⟩;have hab:=nD.app ha hb;have hcb: ∀q∈cuts,BQ q 1200:=by rw[hcu];exact ay9 hab
 have hcl:cuts.length<=2*(a.length+b.length):=by rw[hcu];have:=JH (a++b);rw[aU] at this;exact this
 have hgb:=aCN hcb;have hgl:=yt (l:=cuts);have hmp:=et eQ (ck cuts);refine fn func310 J J ntmps310 J J (fun C=>?_);refine s5 J J<|ap (a.map eV) J J (As _) J<|mc ((a++b).map eV) J (by rw[bV]) (As b) J<|cl (fu:=⟨0⟩) J (ZV (l:=a++b) hab (by rw[aU];omega)) J<|?_;refine ak 19 (.d (.sl (cuts.map eQ))) J (by rw[hcu]) ?_;refine gx J<|cl (fu:=⟨1⟩) J (Tp (cuts:=cuts) hcb (by omega)) J<|?_;refine ak 22 (.d (vI ((cuts.length+1:Nat):Int))) J (by rw[hmp,hgl]<;>rfl) ?_;refine gx J<|?_;refine nr 8 8 4 1 J J J ?_;refine lp (X:=Nat) (fun k=>[(23, .d (vI (k:Nat))),(8, .rw 8)]) (fun k=>[(8,some (.b 4 1 ((((ck cuts).map (fun t=>oD 2 (gv a t) (gv b t))).take k).map vB) true))]) (fun k=>k<=cuts.length+1) (fun k=>cuts.length+1-k) 0 J (bZ _) (fun _=>J) (fun k hk=>?_);have hml:(((((ck cuts).map (fun t=>oD 2 (gv a t) (gv b t))).take k).map vB)).length=k:=by rw[aX,cR,aX,hgl];omega
 refine br (fu2:=⟨0⟩) J J J (fun hc24=>?_) (fun hc24=>?_)
 .
  obtain⟨t,hz⟩: ∃s,(ck cuts)[k]? =some s:=⟨_,aZ (by omega)⟩;haveI:=hgb t (aV hz);have hz2:((ck cuts).map (fun t=>oD 2 (gv a t) (gv b t)))[k]? =some (oD 2 (gv a t) (gv b t)):=by rw[bS,hz];rfl
  refine ix _ J (cH hz) J<|cl J (Oy (l:=a) (t:=t) ha (by omega)) J<|cl (fu:=⟨6⟩) J (Oy (l:=b) (t:=t) hb (by omega)) J<|?_
  cases hx:gv a t
  .
   refine cd (fu:=⟨15⟩) J J J<|c6 (fu:=⟨5⟩) J J J<|cd J J J<|rf J J<|ap (fu:=⟨8⟩) ((((ck cuts).map (fun t=>oD 2 (gv a t) (gv b t))).take (k+1)).map vB) J (by rw[<-vm hz2,hx];rfl) (QN [false]) J<|?_;refine fH 59 8 J ?_;exact at_ (k+1) ⟨(by omega),(by omega)⟩
  .
   refine c6 (fu:=⟨15⟩) J J J<|c6 (fu:=⟨5⟩) J J J<|c6 J J J<|rf J J<|ap ((((ck cuts).map (fun t=>oD 2 (gv a t) (gv b t))).take (k+1)).map vB) J (by rw[<-vm hz2,hx];rfl) (QN [_]) J<|?_;refine fH 59 8 J ?_;exact at_ (k+1) ⟨(by omega),(by omega)⟩
 .
  obtain rfl:k=cuts.length+1:=by omega
  have htk:((ck cuts).map (fun t=>oD 2 (gv a t) (gv b t))).take (cuts.length+1)=(ck cuts).map (fun t=>oD 2 (gv a t) (gv b t)):=aM (by rw[aX,hgl];exact bX _);rw[htk];refine tj 8 J ?_;refine gx J<|cl J (T6 (cuts:=cuts) (marks:=(ck cuts).map (fun t=>oD 2 (gv a t) (gv b t))) (by omega) (by rw[aX,hgl];exact bX _)) J<|?_;exact rz J (by unfold q6;rw[<-hcu];rfl)
section
variable {own:aH}
def aFy{k:IntKind}(hu:prog.underlying t=some (.array len e))(hs:(prog.info? e).map (·.size)=some s)
  (e1:bj lk x=some (.ov nm off))(e2:bj lk y=some (.d (.v (.int k (i:Nat)))))(hi:i<len):bP prog GB C n lk bk ⟨dst, .indexAddr t x y,ty',pos,af,gd⟩ (.ov nm (off+i*s)) [] []:= .yd fun ρ G ov a w r=>by
 obtain⟨p,h1,h2⟩:=r.ev e1;obtain⟨q,h3,h4⟩:=r.ev e2;rw[dq] at h4;subst h4;obtain⟨b,hb,rfl⟩:=h2;refine⟨_,⟨b,hb,J⟩,?_⟩;obtain⟨j,hj,hjs⟩: ∃j,prog.info? e=some j/\j.size=s:=by
  cases h:prog.info? e with
  |none=>rw[h] at hs;cases hs
  |some j=>rw[h] at hs;exact⟨j,J,by simpa using hs⟩
 intro a' w' hf hh;simp only[execOp,bw hf h1,bw hf h3];have:(Instr.indexAt t (.pointer (some ⟨b,off,none⟩)) (.int k (i:Nat))).run prog w'= .ok (.pointer (some ⟨b,off+i*s,none⟩)) w':=by
  unfold Instr.indexAt;show(underlying t>>=_).run prog w'=_;rw[aP (ru hu w')];show(underlying t>>=_).run prog w'=_;rw[aP (ru hu w')];have h0:0<=((i:Nat):Int):=Int.natCast_nonneg i;have h1:((i:Nat):Int)<((len:Nat):Int):=by omega
  simp only[h0,h1,and_self,if_true];show(sizeOf e>>=_).run prog w'=_;rw[aP (vp hj w'),qD,hjs,aR];rfl
 exact cE this
def O0(fr:aC)(cf:Cf):Option (TypeId×Nat×Nat×Int):=match dd fr cf with
 |some ⟨_, .indexAddr t x y,_,_,_,_⟩=>match bj (b9 fr cf) x with
  |some (.ov nm off)=>match bj (b9 fr cf) y with
   |some (.d (.v (.int _ i)))=>some (t,nm,off,i)
   |_=>none
  |_=>none
 |_=>none
def o9[fu:Fu](i:Nat){t:Nat}(h:O0 fr cf=some (t,nm,off,((i:Nat):Int)))(hu:prog.underlying t=some (.array len e))(hs:(prog.info? e).map (·.size)=some s)(hi:i<len)
  (hgo:cI tt n fu.n fr own cf (.ov nm (off+i*s)) [] []=⟨vc,fr',own',cf'⟩)(k:aw prog GB C n Q0 fr' own' cf')
  (hv:autoParam (aj vc) cL._auto_1):aw prog GB C n Q0 fr own cf:=by
 unfold O0 at h;split at h<;>try (cases h;done)
 rename_i hh;split at h<;>try (cases h;done)
 rename_i hx;split at h<;>cases h;rename_i hy;exact us hh (aFy hu hs hx hy hi) hgo hv k
def VN{e:TypeId}{ps:List (Nat×Operand)}{fo:List (Nat×Nat×Nat)}{i:TI}(hi:e7 prog t=some i)(hk:i.k= .st fo)(hz:i.z=some z)
  (hb:tA lk fo z ps=some zx)(h0:zx[k]? =some .nl)(h1:jq (zx.take k)=some pre)(h2:jq (zx.drop (k+1))=some post):bP prog GB C n lk bk ⟨some d, .build t ⟨ps⟩,ty',pos,af,gd⟩ (.bx false pre d post) [(d,some (.b e s [] true))] [d]:=by
 intro hd tl tb K' s1 s2 hf hk';refine⟨fun ρ G ov a w r Q=>?_⟩;obtain⟨v,hv,hv'⟩:=BX hi hz;have:=M6 hi hk;have hsp:zx=zx.take k++ .nl::zx.drop (k+1):=by
  obtain⟨hk1,hk2⟩:=aY.1 h0
  conv=>lhs;rw[<-lZ k zx,bQ hk1,hk2]
 obtain⟨l,h1',h2'⟩:=Da (r.mono s1 s2) (fo:=fo) ps _ _ _ hb (hv' ρ G);rw[hsp] at h2';obtain⟨m1,m2',rfl,k1,y,m2,rfl,k2,k3⟩:=N1 h2'
 cases (show y= .slice none 0 0 from k2)
 have hy:Yd prog C (cx a) ov G ⟨some d, .build t ⟨ps⟩,ty',pos,af,gd⟩ (.agg ⟨m1++Value.slice none 0 0::m2⟩):=wo h1';have r3:=r.new' (x:=⟨none,0,0⟩) (B':= .b e s [] true) (os:=[]) (ov':=ov) (f:= .bx false pre d post) (y:= .agg ⟨m1++Value.slice none 0 0::m2⟩) hf (bI.refl G) r.h
  ⟨[],by simp only[if_true];exact .inl ⟨J,J,J⟩, .nil,by simp,fun _ o ho=>by cases ho⟩ (fun o ho=>by cases ho) (fun m B _ _ o ho _=>⟨ho,by simp⟩)
  ⟨m1,m2,by simp,tf k1 h1,tf k3 h2⟩ (r.putA _ hd)
 exact mi (hy a w (cC a) r.h) (hk'.run _ G ov _ w r3)
def OL(fr:aC)(cf:Cf):Option (Nat×List FX):=match dd fr cf with
 |some ⟨some d, .build t ⟨ps⟩,_,_,_,_⟩=>match d8 tt t with
  |some ⟨.st fo,_,some zx,_⟩=>match tA (b9 fr cf) fo zx ps with
   |some l=>some (d,l)
   |none=>none
  |_=>none
 |_=>none
def X1[fu:Fu](e s kk:Nat)(pre post:List DV)(h:OL fr cf=some (d,zx))(h0:zx[kk]? =some .nl)(h1:jq (zx.take kk)=some pre)(h2:jq (zx.drop (kk+1))=some post)(hgo:cI tt n fu.n fr own cf (.bx false pre d post) [(d,some (.b e s [] true))] [d]=⟨vc,fr',own',cf'⟩)(k:aw prog GB C n Q0 fr' own' cf')
  (hv:autoParam (aj vc) cL._auto_1):aw prog GB C n Q0 fr own cf:=by
 unfold OL at h;split at h<;>try (cases h;done)
 rename_i hh;split at h<;>try (cases h;done)
 rename_i hT;split at h<;>cases h;rename_i hb;exact us hh (VN (eE _ _ hT) J J hb h0 h1 h2) hgo hv k
end
def Wl(f:bz)(m:aa)(k:Nat):List bz:=if k=0 then [] else fp f m 1
def sp2(f:bz)(m:aa)(k:Nat):List bz:=if k<=1 then [] else fp f m (-1)
def Re{l:aa}(hl:LB l)(hm:LB m)(hlo:l.ok): ∀v∈jn l m side,nD v:=fun v hv=>⟨(Hg hl hm hlo v hv).2.1,(Hg hl hm hlo v hv).2.2⟩
def Bz{l:aa}:(jn l m side).length<=1:=by
 unfold jn;split
 .split<;>simp
 .split<;>simp
def PW(op:Int)(a b:List ao):(q6 op a b).length<=2*(a.length+b.length)+1:=by
 unfold q6 wU;refine cS Kg ?_;rw[aX,yt];have:=JH (a++b);rw[aU] at this;omega
def aCX{f:bz}(h:pD f)[hm:LB m](hmo:m.ok):PF GB prog 251 [fA f,eL m] (.tp [.sl ((fp f m 1).map fA), .sl ((fp f m (-1)).map fA)]):=by
 haveI:=h.lb;refine fn func251 J J ntmps251 J J (fun C=>?_);refine rf (fu:=⟨1⟩) J J<|?_;refine ak 14 (.d (vI (2:Nat))) J J ?_;refine gx J<|?_;refine JW 6 0 60 252 14 J J J J J ?_;refine JW 6 1 61 252 14 J J J J J ?_;refine lp (X:=Nat) (fun k=>[(15, .d (vI (k:Nat))),(6, .ov 6 0)]) (fun k=>[(6,some (.o 404 [.rw 60, .rw 61] true)),(60,some (.b 252 14 ((Wl f m k).map fA) true)),(61,some (.b 252 14 ((sp2 f m k).map fA) true))]) (fun k=>k<=2) (fun k=>2-k) 0 J (by omega) (fun _=>J) (fun k hk=>?_);refine br J J J (fun hc16=>?_) (fun hc16=>?_)
 .
  rcases(show k=0\/k=1 by omega) with rfl|rfl
  .
   refine ix _ J J J<|cl (fu:=⟨0⟩) J (Lp (l:=f.l) (m:=m) (side:=1) h.ok hmo (.inl J)) J<|?_;obtain⟨cs,hcs⟩: ∃c,c=q6 2 [f.v] (jn f.l m 1):=⟨_,rfl⟩;have hcl:cs.length<=5:=by rw[hcs];have h1:=PW 2 [f.v] (jn f.l m 1);have h2:=Bz (l:=f.l) (m:=m) (side:=1);simp only[gV] at h1;omega
   refine ak 25 (.d (.tp [.sl ((jn f.l m 1).map eV),vB (ng f.l m)])) J J ?_;refine gx J<|?_;refine bb J J J (fun hc28=>?_) (fun hc28=>?_)
   .
    have hon:ng f.l m=true:=hc28;exact rz J (by first|(unfold fp;rw[if_pos hon,if_pos hon];rfl)|rfl)
   .
    have hon:ng f.l m=false:=by simpa using hc28
    refine rf J J<|cl (fu:=⟨0⟩) J (Ro (a:=[f.v]) (b:=jn f.l m 1) (fun v hv=>by rw[aS] at hv;subst hv;exact⟨h.lo,h.hi⟩) (Re h.lb hm h.ok) (by show 1<=100;decide) (by have:=Bz (l:=f.l) (m:=m) (side:=1);omega)) J<|?_;refine ak 33 (.d (.sl (cs.map eV))) J (by rw[hcs]) ?_;refine gx (fu:=⟨1⟩) J<|?_;refine ak 34 (.d (vI (cs.length:Nat))) J (by rw[et eV cs]<;>rfl) ?_;refine gx J<|?_;refine lp (X:=Nat) (fun j=>[(35, .d (vI (j:Nat)))]) (fun j=>[(60,some (.b 252 14 (((cs.take j).map fun v=>(⟨f.l,v⟩:bz)).map fA) true))]) (fun j=>j<=cs.length) (fun j=>cs.length-j) 0 J (bZ _) (fun _=>J) (fun j hk=>?_);have hml:(((cs.take j).map fun v=>(⟨f.l,v⟩:bz)).map fA).length<=j:=by rw[aX,aX,cR];omega
    refine br J J J (fun hc36=>?_) (fun hc36=>?_)
    .
     obtain⟨z,hz⟩: ∃s,cs[j]? =some s:=⟨_,aZ (by omega)⟩;refine ix _ J (cH hz) J<|o9 0 (e:=247) (len:=2) (s:=1) J (by kernel_rfl) (by kernel_rfl) (by decide) J<|rf J J<|?_;refine ap (((cs.take (j+1)).map fun v=>(⟨f.l,v⟩:bz)).map fA) J (by rw[<-vm hz,bV];rfl) (yo [⟨f.l,z⟩]) J<|o9 (hv:=by simp only[aj];exact⟨by kernel_rfl,by omega⟩) 0 (e:=247) (len:=2) (s:=1) J (by kernel_rfl) (by kernel_rfl) (by decide) J<|?_;refine fH 48 60 J ?_;exact at_ (j+1) ⟨(by omega),(by omega)⟩
    .
     obtain rfl:j=cs.length:=by omega
     rw[show(cs.take cs.length).map (fun v=>(⟨f.l,v⟩:bz))=fp f m 1 from by rw[dQ];unfold fp;rw[if_neg (by rw[hon];decide),<-hcs]];exact at_ (0+1) ⟨(by omega),(by omega)⟩
  .
   refine ix _ J J J<|cl (fu:=⟨0⟩) J (Lp (l:=f.l) (m:=m) (side:= -1) h.ok hmo (.inr J)) J<|?_;obtain⟨cs,hcs⟩: ∃c,c=q6 2 [f.v] (jn f.l m (-1)):=⟨_,rfl⟩;have hcl:cs.length<=5:=by rw[hcs];have h1:=PW 2 [f.v] (jn f.l m (-1));have h2:=Bz (l:=f.l) (m:=m) (side:=(-1));simp only[gV] at h1;omega
   refine ak 25 (.d (.tp [.sl ((jn f.l m (-1)).map eV),vB (ng f.l m)])) J J ?_;refine gx J<|?_;refine bb J J J (fun hc28=>?_) (fun hc28=>?_)
   .
    have hon:ng f.l m=true:=hc28;exact rz J (by first|(unfold fp;rw[if_pos hon,if_pos hon];rfl)|rfl)
   .
    have hon:ng f.l m=false:=by simpa using hc28
    refine rf J J<|cl (fu:=⟨0⟩) J (Ro (a:=[f.v]) (b:=jn f.l m (-1)) (fun v hv=>by rw[aS] at hv;subst hv;exact⟨h.lo,h.hi⟩) (Re h.lb hm h.ok) (by show 1<=100;decide) (by have:=Bz (l:=f.l) (m:=m) (side:=(-1));omega)) J<|?_;refine ak 33 (.d (.sl (cs.map eV))) J (by rw[hcs]) ?_;refine gx (fu:=⟨1⟩) J<|?_;refine ak 34 (.d (vI (cs.length:Nat))) J (by rw[et eV cs]<;>rfl) ?_;refine gx J<|?_;refine lp (X:=Nat) (fun j=>[(35, .d (vI (j:Nat)))]) (fun j=>[(61,some (.b 252 14 (((cs.take j).map fun v=>(⟨f.l,v⟩:bz)).map fA) true))]) (fun j=>j<=cs.length) (fun j=>cs.length-j) 0 J (bZ _) (fun _=>J) (fun j hk=>?_);have hml:(((cs.take j).map fun v=>(⟨f.l,v⟩:bz)).map fA).length<=j:=by rw[aX,aX,cR];omega
    refine br J J J (fun hc36=>?_) (fun hc36=>?_)
    .
     obtain⟨z,hz⟩: ∃s,cs[j]? =some s:=⟨_,aZ (by omega)⟩;refine ix _ J (cH hz) J<|o9 1 (e:=247) (len:=2) (s:=1) J (by kernel_rfl) (by kernel_rfl) (by decide) J<|rf J J<|?_;refine ap (((cs.take (j+1)).map fun v=>(⟨f.l,v⟩:bz)).map fA) J (by rw[<-vm hz,bV];rfl) (yo [⟨f.l,z⟩]) J<|o9 (hv:=by simp only[aj];exact⟨by kernel_rfl,by omega⟩) 1 (e:=247) (len:=2) (s:=1) J (by kernel_rfl) (by kernel_rfl) (by decide) J<|?_;refine fH 48 61 J ?_;exact at_ (j+1) ⟨(by omega),(by omega)⟩
    .
     obtain rfl:j=cs.length:=by omega
     rw[show(cs.take cs.length).map (fun v=>(⟨f.l,v⟩:bz))=fp f m (-1) from by rw[dQ];unfold fp;rw[if_neg (by rw[hon];decide),<-hcs]];exact at_ (1+1) ⟨(by omega),(by omega)⟩
 .
  obtain rfl:k=2:=by omega
  refine o9 0 (e:=247) (len:=2) (s:=1) J (by kernel_rfl) (by kernel_rfl) (by decide) J<|o9 1 (e:=247) (len:=2) (s:=1) J (by kernel_rfl) (by kernel_rfl) (by decide) J<|?_;refine ir 60 J ?_;refine ir 61 J ?_;exact rz J (by first|(unfold fp;rw[if_pos hon,if_pos hon];rfl)|rfl)
def pf(p:ZP):DV:=eP p.q
def ku(r:List ZP):DV:= .sl (r.map pf)
def Ty(l:List (List ZP)):cP 1 (l.map ku):=fun d hd=>by
 obtain⟨u,_,rfl⟩:=aT.1 hd;exact⟨rfl,rfl⟩
def AT(h:i<r.length):(r.map pf)[((i:Nat):Int).toNat]? =some (pf (r.getD i (0,0))):=by
 rw[aR,bS,aK,aZ h];rfl
def F3(h:i<r.length):(r.map pf)[(((i+1)%r.length:Nat):Int).toNat]? =some (pf (iC r i)):=AT (dV _ (by omega))
def Y5(v w p:ah):(ui v w p).natAbs<=1:=by
 unfold ui;split<;>split<;>decide
def CN(r:List ZP)(p:ah): ∀k,(q8 r p k).natAbs<=k
 |0=>bX _
 |k+1=>by rw[q8];have:=CN r p k;have:=Y5 (r.getD k (0,0)).q (iC r k).q p;omega
def S7(h:ew r):PF GB prog 160 [.sl (r.map pf)] (.sl ((kO r).map fA)):=by
 have hm:=et pf r;have h3:=h.n3;have h6:=h.n6;refine fn (fu:=⟨15⟩) func160 J J ntmps160 J J (fun C=>?_);refine ak 8 (.d (vI (r.length:Nat))) J (by rw[hm]<;>rfl) ?_;refine gx J<|?_;refine nr 3 3 252 14 J J J ?_;refine lp (X:=Nat) (fun k=>[(9, .d (vI (k:Nat))),(3, .rw 3)]) (fun k=>[(3,some (.b 252 14 ((rk r k).map fA) true))]) (fun k=>k<=r.length) (fun k=>r.length-k) 0 J (bZ _) (fun _=>J) (fun k hk=>?_);have hel:=fun hh=>(Ih (k:=k) h hh).1;refine br J J J (fun hc10=>?_) (fun hc10=>?_)
 .
  have hkr:k<r.length:=by omega
  have hel:=hel (by omega);have hem:=et fA (rk r k);refine ix (fu:=⟨7⟩) _ J (AT hkr) J<|?_;refine ak 22 (.d (vI ((k+1)%r.length:Nat))) J (by rw[hm]<;>rfl) ?_;refine gx J<|ix _ J (F3 hkr) J<|cl J (auJ (v:=r.getD k (0,0)) (w:=iC r k) (h.le _ (uR hkr)) (h.le _ (y7 hkr)) (h.ne k hkr)) J<|?_;refine rf J J<|ap ((rk r (k+1)).map fA) J (by rw[rk,bV];rfl) (yo [C4 (r.getD k (0,0)) (iC r k)]) J<|?_;refine fH 31 3 J ?_;exact at_ (k+1) ⟨(by omega),(by omega)⟩
 .
  obtain rfl:k=r.length:=by omega
  refine ir 3 J ?_;exact rz J J
def azB[hp:aG p i](h:ew r)(hi:i<=80000:=by decide):PF GB prog 307 [.sl (r.map pf),eP p] (vI (uA r p)):=by
 have hm:=et pf r;have h3:=h.n3;have h6:=h.n6;refine fn (fu:=⟨16⟩) func307 J J ntmps307 J J (fun C=>?_);refine ak 12 (.d (vI (r.length:Nat))) J (by rw[hm]<;>rfl) ?_;refine gx J<|?_;refine lp (X:=Nat×Int) (fun⟨k,c⟩=>[(13, .d (vI (k:Nat))),(5, .d (vI c))]) (fun⟨k,c⟩=>[]) (fun⟨k,c⟩=>c=q8 r p k/\k<=r.length) (fun⟨k,c⟩=>r.length-k) (0,0) J ⟨J,bZ _⟩ (fun _=>J) (fun⟨k,c⟩ hk=>?_);dsimp only at hk⊢;obtain⟨h1,h2⟩:=hk;have hcl:c.natAbs<=k:=by rw[h1];exact CN r p k
 refine br J J J (fun hc14=>?_) (fun hc14=>?_)
 .
  have hkr:k<r.length:=by omega
  obtain⟨v,hv⟩: ∃v,v=r.getD k (0,0):=⟨_,rfl⟩;obtain⟨w,hw⟩: ∃v,v=iC r k:=⟨_,rfl⟩;haveI hvb:aG v.q 12:=by rw[hv];exact uX (h.le _ (uR hkr))
  haveI hwb:aG w.q 12:=by rw[hw];exact uX (h.le _ (y7 hkr))
  refine ix (fu:=⟨1⟩) _ J (AT hkr) J<|?_;refine ak 19 (.d (eP v.q)) J (by rw[hv];rfl) ?_;refine gx (fu:=⟨6⟩) J<|?_;refine ak 25 (.d (vI ((k+1)%r.length:Nat))) J (by rw[hm]<;>rfl) ?_;refine gx J<|ix (fu:=⟨1⟩) _ J (F3 hkr) J<|?_;refine ak 27 (.d (eP w.q)) J (by rw[hw];rfl) ?_;refine gx J<|cl J (mD (a:=v.q.y) (b:=p.y) (i:=12) (j:=i) (by decide) (by omega)) J<|cl (fu:=⟨9⟩) J (mD (a:=w.q.y) (b:=p.y) (i:=12) (j:=i) (by decide) (by omega)) J<|?_;rcases(show(bA v.q.y p.y<=0/\bA w.q.y p.y<=0)\/(bA v.q.y p.y<=0/\ ¬bA w.q.y p.y<=0)\/(¬bA v.q.y p.y<=0/\bA w.q.y p.y<=0)\/(¬bA v.q.y p.y<=0/\ ¬bA w.q.y p.y<=0) by omega) with⟨ca,cb⟩|⟨ca,cb⟩|⟨ca,cb⟩|⟨ca,cb⟩
  .
   refine c6 (fu:=⟨3⟩) J (by show some (decide _)=some true;rw[decide_eq_true (by omega)]) J<|cd (fu:=⟨15⟩) J (by show some (decide _)=some false;rw[decide_eq_false (by omega)]) J<|?_;refine cd (fu:=⟨20⟩) J (by show some (decide _)=some false;rw[decide_eq_false (by omega)]) J<|?_;exact at_ (k+1,c) (by dsimp only;exact⟨⟨by rw[q8,<-h1,<-hv,<-hw];unfold ui;split<;>split<;>omega,by omega⟩,(by omega)⟩)
  .
   refine c6 (fu:=⟨3⟩) J (by show some (decide _)=some true;rw[decide_eq_true (by omega)]) J<|c6 J (by show some (decide _)=some true;rw[decide_eq_true (by omega)]) J<|?_;refine cl J (Cz (a:=v.q) (b:=w.q) (c:=p) (i:=12) (j:=12) (k:=i) (by decide) (by decide) hi) J<|?_;refine br (fu1:=⟨10⟩) (fu2:=⟨6⟩) J J J (fun hc51=>?_) (fun hc51=>?_)
   .
    refine cd J (by show some (decide _)=some false;rw[decide_eq_false (by omega)]) J<|?_;exact at_ (k+1,c+1) (by dsimp only;exact⟨⟨by rw[q8,<-h1,<-hv,<-hw];unfold ui;split<;>split<;>omega,by omega⟩,(by omega)⟩)
   .
    refine cd (fu:=⟨20⟩) J (by show some (decide _)=some false;rw[decide_eq_false (by omega)]) J<|?_;exact at_ (k+1,c) (by dsimp only;exact⟨⟨by rw[q8,<-h1,<-hv,<-hw];unfold ui;split<;>split<;>omega,by omega⟩,(by omega)⟩)
  .
   refine cd (fu:=⟨19⟩) J (by show some (decide _)=some false;rw[decide_eq_false (by omega)]) J<|c6 (fu:=⟨2⟩) J (by show some (decide _)=some true;rw[decide_eq_true (by omega)]) J<|?_;refine c6 J (by show some (decide _)=some true;rw[decide_eq_true (by omega)]) J<|cl J (Cz (a:=v.q) (b:=w.q) (c:=p) (i:=12) (j:=12) (k:=i) (by decide) (by decide) hi) J<|?_;refine br (fu2:=⟨8⟩) J J J (fun hc65=>?_) (fun hc65=>?_)
   .
    exact at_ (k+1,c-1) (by dsimp only;exact⟨⟨by rw[q8,<-h1,<-hv,<-hw];unfold ui;split<;>split<;>omega,by omega⟩,(by omega)⟩)
   .
    exact at_ (k+1,c) (by dsimp only;exact⟨⟨by rw[q8,<-h1,<-hv,<-hw];unfold ui;split<;>split<;>omega,by omega⟩,(by omega)⟩)
  .
   refine cd (fu:=⟨19⟩) J (by show some (decide _)=some false;rw[decide_eq_false (by omega)]) J<|c6 (fu:=⟨2⟩) J (by show some (decide _)=some true;rw[decide_eq_true (by omega)]) J<|?_;refine cd J (by show some (decide _)=some false;rw[decide_eq_false (by omega)]) J<|?_;exact at_ (k+1,c) (by dsimp only;exact⟨⟨by rw[q8,<-h1,<-hv,<-hw];unfold ui;split<;>split<;>omega,by omega⟩,(by omega)⟩)
 .
  obtain rfl:k=r.length:=by omega
  have hfin:uA r p=c:=h1.symm;exact rz J (by rw[hfin];rfl)
def Y4{n:Int}(hn:n.natAbs<=1000):PF GB prog 308 [vI fill,vI n] (vB (wz fill n)):=by
 refine fn func308 J J ntmps308 J J (fun C=>?_);refine cs 7 J J J (fun hg7=>?_) (fun hg7=>?_)
 .
  refine cs 12 J J J (fun hg12=>?_) (fun hg12=>?_)
  .
   exact rz J (by show vB _=vB _;unfold wz;congr 1;simp_all)
  .
   refine cs 15 J J J (fun hg15=>?_) (fun hg15=>?_)
   .
    exact rz J (by show vB _=vB _;unfold wz;congr 1;simp_all)
   .
    exact rz J (by show vB _=vB _;unfold wz;congr 1;simp_all)
 .
  refine cs 15 J J J (fun hg15=>?_) (fun hg15=>?_)
  .
   exact rz J (by show vB _=vB _;unfold wz;congr 1;simp_all)
  .
   exact rz J (by show vB _=vB _;unfold wz;congr 1;simp_all)
def Gb(rs:List (List ZP)):List aa:=(i9 rs).map bz.l
def wF(rs:List (List ZP))(fill:Int):DV:= .ag [.sl (rs.map ku), .v (.int .i64 fill), .sl ((og (Gb rs)).map eL)]
def Xw(h: ∀r∈rs,ew r)(k:Nat):((rs.take k).foldl (fun n r=>n+uA r p) 0).natAbs<=6*k:=by
 induction k with
 |zero=>rw[tU];exact bZ _
 |succ k ih=>
  rw[eM,oV]
  cases e:rs[k]? with
  |none=>exact cS ih (by omega)
  |some r=>
   have h1:(uA r p).natAbs<=r.length:=CN r p r.length;have h2:=(h r (aV e)).n6;show(List.foldl _ 0 (rs.take k)+uA r p).natAbs<=_;omega
def YE[hp:aG p i](h: ∀r∈rs,ew r)(hn:rs.length<=100)(hi:i<=80000:=by decide):PF GB prog 250 [wF rs fill,eP p] (vB (nC rs fill p)):=by
 have hm:=et ku rs;refine fn (fu:=⟨18⟩) func250 J J ntmps250 J J (fun C=>?_);refine ak 10 (.d (vI (rs.length:Nat))) J (by rw[hm]<;>rfl) ?_;refine gx J<|?_;refine lp (X:=Nat×Int) (fun⟨k,c⟩=>[(11, .d (vI (k:Nat))),(5, .d (vI c))]) (fun⟨k,c⟩=>[]) (fun⟨k,c⟩=>c=(rs.take k).foldl (fun n r=>n+uA r p) 0/\k<=rs.length) (fun⟨k,c⟩=>rs.length-k) (0,0) J ⟨by rw[tU];rfl,bZ _⟩ (fun _=>J) (fun⟨k,c⟩ hk=>?_);dsimp only at hk⊢;obtain⟨h1,h2⟩:=hk;have hcl:c.natAbs<=6*k:=by rw[h1];exact Xw h k
 refine br J J J (fun hc12=>?_) (fun hc12=>?_)
 .
  obtain⟨r,hz⟩: ∃s,rs[k]? =some s:=⟨_,aZ (by omega)⟩;have hr:=h r (aV hz);have hnz:(uA r p).natAbs<=6:=cS (CN r p r.length) hr.n6;refine ix _ J (cH hz) J<|cl J (azB (r:=r) (p:=p) hr hi) J<|?_;exact at_ (k+1,c+uA r p) (by dsimp only;exact⟨⟨by rw[eM,hz,oV,<-h1];rfl,by omega⟩,(by omega)⟩)
 .
  obtain rfl:k=rs.length:=by omega
  rw[dQ] at h1;refine cl J (Y4 (fill:=fill) (n:=c) (by omega)) J<|?_;exact rz J (by unfold nC;rw[<-h1];rfl)
def mm(r:List ZP):DV:= .sl ((r.map ZP.q).map pp)
def aG4(l:List (List ZP)):cP 1 (l.map mm):=fun d hd=>by
 obtain⟨u,_,rfl⟩:=aT.1 hd;exact⟨rfl,rfl⟩
theorem SL(h: ∀p∈r,ZP.le 100 p): ∀p∈r.map ZP.q,aG p 1200:=fun p hp=>by
 obtain⟨z,hz,rfl⟩:=aT.1 hp;have:=uX (h z hz);exact⟨BQ.mono this.x,BQ.mono this.y⟩
def Hn(r:List ZP):DV.sl ((r.map ZP.q).map eP)=ku r:=by unfold ku;rw[List.map_map];rfl
def K3(h:rs[k]? =some r):i9 (rs.take (k+1))=i9 (rs.take k)++kO r:=by
 unfold i9;rw[eM,h,tY];simp
def MC(h: ∀r∈rs,ew r)(k:Nat):(i9 (rs.take k)).length<=6*k:=by
 have:=(zg (rs:=rs.take k) (fun r hr=>h r (fN hr))).1;have h2:(rs.take k).length<=k:=by rw[cR];omega
 omega
def aDw(h: ∀r∈rs,ew r)(hn:rs.length<=100):PF GB prog 72 [.sl (rs.map mm), .v (.int .i64 fill)] (wF rs fill):=by
 have hm:=et mm rs;refine fn (fu:=⟨8⟩) func72 J J ntmps72 J J (fun C=>?_);refine X1 (fu:=⟨14⟩) 44 1 0 [] [.v (.int .i64 fill), .sl []] J J J J J<|?_;refine ak 15 (.d (vI (rs.length:Nat))) J (by rw[hm]<;>rfl) ?_;refine gx J<|?_;refine nr 6 6 85 6 J J J ?_;refine lp (X:=Nat) (fun k=>[(16, .d (vI (k:Nat))),(6, .rw 6),(5, .ov 5 0)]) (fun k=>[(5,some (.o 134 [.rw 13, .d (.v (.int .i64 fill)), .d (.sl [])] true)),(13,some (.b 44 1 ((rs.take k).map ku) true)),(6,some (.b 85 6 (((i9 (rs.take k)).map bz.l).map eL) true))]) (fun k=>k<=rs.length) (fun k=>rs.length-k) 0 J (bZ _) (fun _=>J) (fun k hk=>?_);refine br (fu2:=⟨0⟩) J J J (fun hc17=>?_) (fun hc17=>?_)
 .
  obtain⟨r,hz⟩: ∃s,rs[k]? =some s:=⟨_,aZ (by omega)⟩;have hr:=h r (aV hz);have hel:(kO r).length<=6:=by have:=(BP hr).1;have:=hr.n6;omega
  have het:=MC h k;have hrl:((rs.take k).map ku).length=k:=by rw[aX,cR];omega
  refine ix _ J (cH hz) J<|cl (fu:=⟨0⟩) J (aIt (ps:=r.map ZP.q) (SL hr.le) (by rw[aX];have:=hr.n6;omega)) J<|?_;refine ak 21 (.d (ku r)) J (by rw[Hn]) ?_;refine gx J<|rf J J<|ap ((rs.take (k+1)).map ku) J (vm hz) (Ty [r]) J<|cl (fu:=⟨1⟩) J (S7 (r:=r) hr) J<|?_;refine ak 30 (.d (vI ((kO r).length:Nat))) J (by rw[et fA (kO r)]<;>rfl) ?_;refine gx J<|?_;rw[<-gK (i9 (rs.take k)),<-tU (l:=kO r)];refine lp (X:=Nat) (fun j=>[(31, .d (vI (j:Nat))),(6, .rw 6)]) (fun j=>[(6,some (.b 85 6 (((i9 (rs.take k)++(kO r).take j).map bz.l).map eL) true))]) (fun j=>j<=(kO r).length) (fun j=>(kO r).length-j) 0 J (bZ _) (fun _=>J) (fun j hk=>?_);have hml:(((i9 (rs.take k)++(kO r).take j).map bz.l).map eL).length<=6*k+6:=by rw[aX,aX,aU,cR];omega
  refine br J J J (fun hc32=>?_) (fun hc32=>?_)
  .
   obtain⟨e,he⟩: ∃s,(kO r)[j]? =some s:=⟨_,aZ (by omega)⟩;refine ix _ J (cH he) J<|rf J J<|ap (((i9 (rs.take k)++(kO r).take (j+1)).map bz.l).map eL) J (by rw[eM,he];simp only[bV,dW];rfl) (fP [e.l]) J<|?_;refine fH 39 6 J ?_;exact at_ (j+1) ⟨(by omega),(by omega)⟩
  .
   obtain rfl:j=(kO r).length:=by omega
   rw[dQ,<-K3 hz];refine fH 26 13 J ?_;exact at_ (k+1) ⟨(by omega),(by omega)⟩
 .
  obtain rfl:k=rs.length:=by omega
  rw[dQ];refine tj 6 J ?_;refine tj 13 J ?_;refine gx rfl<|cl rfl (Qg (ls:=Gb rs) (fun l hl=>by obtain⟨f,hf,rfl⟩:=aT.1 hl;exact((zg h).2 f hf).lb) (by unfold Gb;rw[aX];have:=(zg h).1;omega)) rfl<|?_;exact rz J J
def aHL(h: ∀r∈rs,ew r)(hn:rs.length<=100):PF GB prog 15 [.sl (rs.map ku)] (.sl (rs.map mm)):=by
 have hm:=et ku rs;refine fn (fu:=⟨15⟩) func15 J J ntmps15 J J (fun C=>?_);refine ak 7 (.d (vI (rs.length:Nat))) J (by rw[hm]<;>rfl) ?_;refine gx J<|?_;refine nr 3 3 45 1 J J J ?_;refine lp (X:=Nat) (fun k=>[(8, .d (vI (k:Nat))),(3, .rw 3)]) (fun k=>[(3,some (.b 45 1 ((rs.take k).map mm) true))]) (fun k=>k<=rs.length) (fun k=>rs.length-k) 0 J (bZ _) (fun _=>J) (fun k hk=>?_);have hml:((rs.take k).map mm).length<=k:=by rw[aX,cR];omega
 refine br J J J (fun hc9=>?_) (fun hc9=>?_)
 .
  obtain⟨r,hz⟩: ∃s,rs[k]? =some s:=⟨_,aZ (by omega)⟩;have hr:=h r (aV hz);refine ix (fu:=⟨1⟩) _ J (cH hz) J<|?_;refine ak 11 (.d (.sl ((r.map ZP.q).map eP))) J (by rw[Hn]) ?_;refine gx J<|cl J (O1 (ps:=r.map ZP.q) (SL hr.le) (by rw[aX];have:=hr.n6;omega)) J<|rf J J<|ap ((rs.take (k+1)).map mm) J (vm hz) (aG4 [r]) J<|?_;refine fH 16 3 J ?_;exact at_ (k+1) ⟨(by omega),(by omega)⟩
 .
  obtain rfl:k=rs.length:=by omega
  refine ir 3 J ?_;exact rz J (by rw[dQ];rfl)
def aoO(out:List aa)(l:aa):(pO out l).length<=out.length+1:=by
 unfold pO;split
 .omega
 .simp;omega
def Pn(c:List aa): ∀(t out:List aa),(n0 c t out).length<=out.length+t.length
 |[],out=>by simp[n0]
 |l::t,out=>by
  rw[n0];refine cS (Pn c t _) ?_;have:=aoO out l;split<;>simp<;>omega
def BU(c:List aa):(iO c).length<=c.length:=cS (Pn c c []) (by simp)
theorem Qm(h: ∀m∈c,LB m): ∀m∈iO c,LB m:=fun m hm=>h m (uH.1 hm).1
def NB(h: ∀m∈c,m.ok): ∀m∈iO c,m.ok:=fun m hm=>h m (uH.1 hm).1
def Ss{l:aa}(hc: ∀m∈c,LB m)(hok: ∀m∈c,m.ok)(hn:c.length<=900)(hl:LB l)(hlo:l.ok):PF GB prog 140 [.sl (c.map eL),eL l] (.sl ((iO (c++[l])).map eL)):=by
 have hcl:=wC c;refine fn func140 J J ntmps140 J J (fun C=>?_);refine s5 J J<|ap (c.map eL) J J (fP _) J<|rf J J<|mc ((c++[l]).map eL) J (by rw[bV];rfl) (fP [l]) J<|?_;refine cl J (aDn (c:=c++[l]) (wH hc hl) (oz hok hlo) (by simp;omega)) J<|?_;exact rz J J
def UL{l:aa}{x y u:Tr}:PF GB prog 139 [eL l,eT (.node l1 x y),eT u] (eT (.node l (.node l1 x y) u)):=by
 refine fn (fu:=⟨12⟩) func139 J J ntmps139 J J (fun C=>?_);refine cd J J J<|?_;refine ir 33 J ?_;exact rz J J
def UW{l:aa}{x y:Tr}{p:Bool}:PF GB prog 139 [eL l,eT (.leaf p),eT (.node l1 x y)] (eT (.node l (.leaf p) (.node l1 x y))):=by
 refine fn (fu:=⟨12⟩) func139 J J ntmps139 J J (fun C=>?_);refine c6 (fu:=⟨4⟩) J J J<|cd J J J<|?_;refine ir 33 J ?_;exact rz J J
def YG{l:aa}{p:Bool}:PF GB prog 139 [eL l,eT (.leaf p),eT (.leaf q)] (eT (Tr.joinQ l (.leaf p) (.leaf q))):=by
 refine fn (fu:=⟨12⟩) func139 J J ntmps139 J J (fun C=>?_);refine c6 (fu:=⟨4⟩) J J J<|c6 J J J<|?_;refine bd J J J (fun hc27=>?_) (fun hc27=>?_)
 .
  exact rz J (by rw[show Tr.joinQ l (.leaf p) (.leaf q)= .leaf p by simp[Tr.joinQ,Tr.isLeaf,Tr.code,hc27]];rfl)
 .
  refine ir 33 J ?_;exact rz J (by rw[show Tr.joinQ l (.leaf p) (.leaf q)= .node l (.leaf p) (.leaf q) by simp[Tr.joinQ,Tr.isLeaf,Tr.code,hc27]];rfl)
def aFM{l:aa}: ∀{x y:Tr},PF GB prog 139 [eL l,eT x,eT y] (eT (Tr.joinQ l x y))
 | .leaf _, .leaf _=>YG
 | .leaf _, .node .. =>UW
 | .node ..,_=>UL
def Xb{b:Bool}:PF GB prog 136 [eT (.leaf b), .sl (c.map eL)] (eT (Tr.restrictL (.leaf b) c)):=by
 refine fn (fu:=⟨11⟩) func136 J J ntmps136 J J (fun C=>?_);refine c6 J J J<|?_;exact rz J J
def aiX{l:aa}{x y:Tr}(hl:LB l)(hlo:l.ok)(hc: ∀m∈c,LB m)(hok: ∀m∈c,m.ok)(hn:c.length+(Tr.node l x y).depth<=900)(ihx: ∀{c:List aa},(∀m∈c,LB m)->(∀m∈c,m.ok)->c.length+x.depth<=900->PF GB prog 136 [eT x, .sl (c.map eL)] (eT (Tr.restrictL x c)))(ihy: ∀{c:List aa},(∀m∈c,LB m)->(∀m∈c,m.ok)->c.length+y.depth<=900->PF GB prog 136 [eT y, .sl (c.map eL)] (eT (Tr.restrictL y c))):PF GB prog 136 [eT (.node l x y), .sl (c.map eL)] (eT (Tr.restrictL (.node l x y) c)):=by
 have hdp:(Tr.node l x y).depth=1+Nat.max x.depth y.depth:=J;have hdx:x.depth<=Nat.max x.depth y.depth:=rR _ _;have hdy:y.depth<=Nat.max x.depth y.depth:=qL _ _;have hca:=BU (c++[l]);have hcb:=BU (c++[l.rev]);rw[aU,gV] at hca hcb;refine fn (fu:=⟨11⟩) func136 J J ntmps136 J J (fun C=>?_);refine cd J J J<|cl J (UN (c:=c) (l:=l) hc hok (by omega) hl hlo) J<|?_;refine br J J J (fun hc16=>?_) (fun hc16=>?_)
 .
  refine cl J (ihx hc hok (by omega)) J<|?_;exact rz J (by rw[Tr.restrictL,if_pos hc16];rfl)
 .
  refine br J J J (fun hc24=>?_) (fun hc24=>?_)
  .
   refine cl J (ihy hc hok (by omega)) J<|?_;exact rz J (by rw[Tr.restrictL,if_neg hc16,if_pos hc24];rfl)
  .
   refine cl J (Ss (c:=c) (l:=l) hc hok (by omega) hl hlo) J<|cl J (ihx (c:=iO (c++[l])) (Qm (wH hc hl)) (NB (oz hok hlo)) (by omega)) J<|?_;refine cl J (Bv (l:=l)) J<|cl J (Ss (c:=c) (l:=l.rev) hc hok (by omega) hl.rev hlo.rev) J<|cl J (ihy (c:=iO (c++[l.rev])) (Qm (wH hc hl.rev)) (NB (oz hok hlo.rev)) (by omega)) J<|?_;refine cl J aFM J<|?_;exact rz J (by rw[Tr.restrictL,if_neg hc16,if_neg hc24];rfl)
def IH: ∀{t:Tr} {c:List aa},t.all LB->t.all aa.ok->(∀m∈c,LB m)->(∀m∈c,m.ok)->c.length+t.depth<=900->PF GB prog 136 [eT t, .sl (c.map eL)] (eT (Tr.restrictL t c))
 | .leaf _,_,_,_,_,_,_=>Xb
 | .node l x y,c,hb,ho,hc,hok,hn=>aiX hb.1 ho.1 hc hok hn (fun h1 h2 h3=>IH hb.2.1 ho.2.1 h1 h2 h3) (fun h1 h2 h3=>IH hb.2.2 ho.2.2 h1 h2 h3)

section
variable {own:aH}
def PR(GB:Gh)(P:Program)(f:FuncId)(ds:List DV)(s:Nat)(ty:TypeId)(rows:List DV):Prop:=
 ∀G vs,bI GB G->IsLs G ds vs->iu P f vs [] G (fun v own' G'=> ∃w:SV,v= .slice w.a w.n w.c/\eh G' ⟨w,s,ty,rows,true⟩ own')
def PJ: ∀(l:List av),(∀o∈l,o.lo=true)->l.map (relo (im []))=l
 |[],_=>rfl
 |a::t,h=>by
  have h1:=h a aQ;rw[bT,PJ t fun o ho=>h o (aJ _ ho)];congr 1
  cases a
  simp[relo,im] at*;exact h1
def XC
  (ha:vj lk fo args=some (f,ds))(hF:PR GB prog f ds s ty2 rows):bP prog GB C n lk bk ⟨some d, .call ⟨.value fo,args,tys⟩,ty,pos,af,gd⟩ (.rw d) [(d,some (.b ty2 s rows true))] [d]:=by
 intro hd tl tb K' s1 s2 hf hk;refine⟨fun ρ G ov a w r Q=>?_⟩;have r1:=r.mono s1 s2;obtain⟨h1,h2⟩:=E3 ha;obtain⟨y,hy,hy'⟩:=r1.ev h1;rw[(aB (G:=G)).1 hy'] at hy;obtain⟨vs,h3,h4⟩:=r1.evDs h2;refine wY (M:=[]) (rest:=ov) hy h3 (List.Perm.refl _) (hF G vs r.gb h4) hd (fun v own1 G' hG hK a' w' rl=>?_) a w Q ⟨r.h,r.sz,cC a,r.df⟩;obtain⟨z,rfl,vs',k1,k2,k3,k4⟩:=hK;rw[PJ _ (k4 J)] at rl;have rl':gD C n (Sx.put (cx a) (some d) (.slice z.a z.n z.c)) (own1++ov) G' a' w':=rl;have hdis:=(gM.1 rl'.h.nd).2.2;have r3:=r.new' (x:=z) (B':= .b ty2 s rows true) (os:=own1) (ov':=own1++ov) (f:= .rw d) (y:= .slice z.a z.n z.c) hf hG.le rl'.h ⟨vs',by simpa using k1,k2,k3,k4⟩ (fun o ho=>bU _ ho)
  (fun q B0 hq e o ho hbq=>⟨bK _ ho,fun hc=>by
   have hx: ∃o1∈own1,o1.b=o.b:=by
    rcases k1 with⟨_,h,_⟩|⟨b0,rest0,lo0,h,hB,_⟩
    .rw[show z=_ from h] at hc;cases hc
    .rw[show z=_ from h] at hc;cases hc;exact⟨⟨_,aF vs'++rest0,_,lo0⟩,by rw[hB];exact aQ,J⟩
   obtain⟨o1,ho1,he1⟩:=hx;exact hdis o1 ho1 o ho he1⟩) (by simp[bO]) (jG rl')
 exact hk.run _ G' _ a' w' r3
def Mk(fr:aC)(cf:Cf):Option (FuncId×List DV×Nat):=match dd fr cf with
 |some ⟨some d, .call ⟨.value fo,args,_⟩,_,_,_,_⟩=>match vj (b9 fr cf) fo args with
  |some (f,ds)=>some (f,ds,d)
  |none=>none
 |_=>none
def cr[fu:Fu](ha:Mk fr cf=some (f,ds,d))(hF:PR GB prog f ds s ty rows)
  (hgo:cI tt n fu.n fr own cf (.rw d) [(d,some (.b ty s rows true))] [d]=⟨vc,fr',own',cf'⟩)(k:aw prog GB C n Q0 fr' own' cf')
  (hv:autoParam (aj vc) fn._auto_1):aw prog GB C n Q0 fr own cf:=by
 unfold Mk at ha;split at ha<;>try (cases ha;done)
 rename_i hh;split at ha<;>cases ha;rename_i h1;exact us hh (XC h1 hF) hgo hv k
def EW(C:aD)(s:Nat)(ty:TypeId)(rows:List DV):Ending->World->Prop:=sE C (fun v own' G'=> ∃w:SV,v= .slice w.a w.n w.c/\eh G' ⟨w,s,ty,rows,true⟩ own')
def ML[fu:Fu]{c:Code}{m:Nat}(hf:prog.funcs[f]? =some fb)(hb:fb.body=some c)(hn:(fb.name== "runtime.NumGoroutine")=false)(hm:fb.ntmps=m)(hlen:Nat.ble ds.length m=true)
  (hgo:go tt m fu.n [] (rP 0 ds) [] (.code c [])=⟨vc,fr,own,cf⟩)(k: ∀C:aD,C.mb=[]->aw prog GB C m (fg C prog fb (EW C s ty rows)) fr own cf)
  (hv:autoParam (aj vc) fn._auto_1):PR GB prog f ds s ty rows:=by
 intro G vs hg hvs;refine iu.introR hf hb hn hm (by rw[hvs.len];exact hlen) fun C _ hmb hrd hfx=>?_;intro a w rl;refine vo hrd ?_;have h:=f7 (GB:=GB) (C:=C) (Q0:=fg C prog fb (EW C s ty rows)) hgo hv (k C (by simpa using hmb));exact h.run (fun _=>⟨none,0,0⟩) G [] a w ⟨hg,rl.h,rl.sz,rl.df,(fun k f e=>An hvs rl.fr k f e),(fun nm B e=>by cases e),(fun nm nm' B B' e=>by cases e),fun nm p _ _ e=>by rw[hfx] at e;cases e⟩
def WW{t:Nat}(hr:fb.results.toList=[.tmp t])(hl:bh fr t=some (.rw d))(hw:bp own d=some (.b ty s rws true))(er:rws=rows):
  aw prog GB C n (fg C prog fb (EW C s ty rows)) fr own (.ex .ret []):=by
 subst er;refine⟨fun ρ G ov a w r=>?_⟩;obtain⟨B,g1,g2⟩:=r.bx _ _ hw;have hB:eh G ⟨ρ d,s,ty,rws,true⟩ B:=g1;obtain⟨rest,hp⟩:=IL hB g2;obtain⟨y,hy,hy'⟩:=r.ev (x:= .tmp t) (f:= .rw d) hl
 cases (show y=_ from hy')
 exact wK (C:=C) (n:=n) (fr:=cx a) (own:=ov) (G:=G) (vs:=[.slice (ρ d).a (ρ d).n (ρ d).c]) (by rw[hr];exact .tmp hy .nil) (B++rest) B hp (oY _ _) ⟨ρ d,J,hB⟩ a w ⟨r.h,r.sz,cC a,r.df⟩
def YU{t:Nat}(hr:fb.results.toList=[.tmp t])(hl:bh fr t=some .nl)(er:rows=[]):
  aw prog GB C n (fg C prog fb (EW C s ty rows)) fr own (.ex .ret []):=by
 subst er;refine⟨fun ρ G ov a w r=>?_⟩;obtain⟨y,hy,hy'⟩:=r.ev (x:= .tmp t) (f:= .nl) hl
 cases (show y=_ from hy')
 exact wK (C:=C) (n:=n) (fr:=cx a) (own:=ov) (G:=G) (vs:=[.slice none 0 0]) (by rw[hr];exact .tmp hy .nil) ([]++ov) [] (List.Perm.refl _) (fM _) ⟨⟨none,0,0⟩,J,[], .inl ⟨J,J,J⟩,dE.2 J,fun v h=>(by cases h),fun _ o h=>(by cases h)⟩ a w ⟨r.h,r.sz,cC a,r.df⟩
end
section
variable {own:aH}
def az9(hne:Nat.beq nm d=false)
  (ha:Cs lk fo args=some (f,nm,l))(hb:bk nm=some (.b ty0 s dsi lo))(hF:PB GB prog f (fG l) s ty0 dsi (fun w=> .v (.slice w.a w.n w.c)) dso):bP prog GB C n lk bk ⟨some d, .call ⟨.value fo,args,tys⟩,ty,pos,af,gd⟩ (.rw d) [(nm,none),(d,some (.b ty0 s dso lo))] [d]:=by
 intro hd tl tb K' s1 s2 hf hk;refine⟨fun ρ G ov a w r Q=>?_⟩;have r1:=r.mono s1 s2;unfold Cs at ha;split at ha<;>try (cases ha;done)
 rename_i h1;split at ha<;>cases ha;rename_i h2;obtain⟨y,hy,hy'⟩:=r1.ev h1;rw[(aB (G:=G)).1 hy'] at hy;obtain⟨B,g1,g2⟩:=r1.bx _ _ hb;have hB:eh G ⟨ρ nm,s,ty0,dsi,lo⟩ B:=g1;obtain⟨vs,h7,h8⟩:=Ev r1 (z:=ρ nm) h2 (fun nm e=>by cases e;rfl);have hp: ∃rest,ov.Perm (B++rest)/\ ∀o∈ov,(∀o'∈B,o.b≠o'.b)->o∈rest:=by
  rcases hB with⟨vs',⟨_,_,e⟩|⟨b0,r0,lo0,_,e,_⟩,_⟩
  .rw[e];exact⟨ov,List.Perm.refl _,fun o ho _=>ho⟩
  .rw[e] at g2⊢
   obtain⟨l1,l2,e2⟩:=mK (g2 _ aQ);rw[e2];refine⟨l1++l2,pZ,fun o ho hno=>?_⟩;rcases bW.1 ho with ho|ho
   .exact bU _ ho
   .rcases aW.1 ho with rfl|ho
    .exact absurd J (hno _ aQ)
    .exact bK _ ho
 obtain⟨rest,h5,h6⟩:=hp;refine wY (M:=B) (rest:=rest) hy h7 h5 (hF G (ρ nm) vs B r.gb hB.weak h8) hd (fun v own1 G' hG hK a' w' rl=>?_) a w Q ⟨r.h,r.sz,cC a,r.df⟩;obtain⟨z,hr,vs',k1,k2,k3,k4⟩:=hK;have k1':=k1.relo (im B);have e2:lo=true-> ∀o∈own1.map (relo (im B)),o.lo=true:=fun hl o ho=>by
  obtain⟨o',_,rfl⟩:=aT.1 ho;obtain⟨_,_,_,_,hlo⟩:=hB;exact Dq _ (hlo hl)
 generalize own1.map (relo (im B))=B' at rl e2 k1';have rl':gD C n (Sx.put (cx a) (some d) v) (B'++rest) G' a' w':=rl;have hdis:=(gM.1 rl'.h.nd).2.2;have r2:=r.dropB nm;have hnn:nm≠d:=fun e=>by subst e;rw[pW] at hne;cases hne
 have hf2:lv [d] (some d) tl (Sx.upB tb [(nm,none)]):=fun q hq=>by
  obtain⟨f1,f2⟩:=hf q hq;refine⟨f1,fun k B e1 e=>?_⟩;simp only[Sx.upB] at e;split at e
  .cases e
  .exact f2 k B e1 e
 have hsep: ∀q B0,Sx.upB tb [(nm,none)] q=some B0-> ∀o∈ov,(ρ q).a=some ⟨o.b,0,none⟩->o∈rest:=fun q B0 e o ho hbq=>by
  simp only[Sx.upB] at e;split at e
  .cases e
  .rename_i hqn
   refine h6 o ho fun o' ho' he=>?_;exact r.dj nm q _ _ (s2 _ _ hb) e (Ne.symm hqn) o'.b (g1.blk ho') (by rw[hbq,he])
 rw[aB.1 hr] at rl';have r3:=r2.new' (x:=z) (B':= .b ty0 s dso lo) (os:=B') (ov':=B'++rest) (f:= .rw d) (y:= .slice z.a z.n z.c) hf2 hG.le rl'.h ⟨vs',by simpa using k1',k2,k3,e2⟩ (fun o ho=>bU _ ho)
  (fun q B0 hq e o ho hbq=>⟨bK _ (hsep q B0 e o ho hbq),fun hc=>by
   have hx: ∃o1∈B',o1.b=o.b:=by
    rcases k1' with⟨_,h,_⟩|⟨b0,rest0,lo0,h,hB,_⟩
    .rw[show z=_ from h] at hc;cases hc
    .rw[show z=_ from h] at hc;cases hc;exact⟨⟨_,aF vs'++rest0,_,lo0⟩,by rw[hB];exact aQ,J⟩
   obtain⟨o1,ho1,he1⟩:=hx;exact hdis o1 ho1 o (hsep q B0 e o ho hbq) he1⟩) (by simp[bO]) (jG rl')
 exact hk.run _ G' _ a' w' r3
def cq[fu:Fu](dso':List DV)(ha:CB fr own cf=some ⟨f,nm,l,ty,s,dsi,lo,d⟩)(hF:PB GB prog f (fG l) s ty dsi (fun w=> .v (.slice w.a w.n w.c)) dso)(he:dso=dso')
  (hgo:cI tt n fu.n fr own cf (.rw d) [(nm,none),(d,some (.b ty s dso' lo))] [d]=⟨vc,fr',own',cf'⟩)(k:aw prog GB C n Q0 fr' own' cf')
  (hv:autoParam (aj vc) fn._auto_1):aw prog GB C n Q0 fr own cf:=by
 subst he;unfold CB at ha;split at ha<;>try (cases ha;done)
 rename_i hh;split at ha<;>try (cases ha;done)
 rename_i h1;split at ha<;>try (cases ha;done)
 rename_i h2;rw[cond_eq_ite] at ha;split at ha<;>cases ha;rename_i h3;exact us hh (az9 (by cases hq:Nat.beq nm d with|false=>rfl|true=>exact absurd hq h3) h1 h2 hF) hgo hv k
def I9(C:aD)(s:Nat)(ty:TypeId)(dso:List DV):Ending->World->Prop:=sE C (fun v own' G'=> ∃w',Is G' (.v (.slice w'.a w'.n w'.c)) v/\eh G' ⟨w',s,ty,dso,false⟩ own')
def GG[fu:Fu]{c:Code}(hf:prog.funcs[f]? =some fb)(hb:fb.body=some c)(hn:(fb.name== "runtime.NumGoroutine")=false)(hm:fb.ntmps=k)(hlen:Nat.ble l.length k=true)
  (hgo:go tt k fu.n [] (wG 0 l) [(NM,some (.b ty s dsi false))] (.code c [])=⟨vc,fr,own,cf⟩)(h: ∀C,aw prog GB C k (fg C prog fb (I9 C s ty dso)) fr own cf)
  (hv:autoParam (aj vc) fn._auto_1):PB GB prog f (fG l) s ty dsi (fun w=> .v (.slice w.a w.n w.c)) dso:=by
 intro G w vs B hg hB hvs;refine iu.introR hf hb hn hm (by rw[hvs.len,Er];exact hlen) fun C _ hmb hrd hfx=>?_;intro a wd rl;refine vo hrd ?_;have h1:=f7 (GB:=GB) (C:=C) (Q0:=fg C prog fb (I9 C s ty dso)) hgo hv (h C);refine h1.run (fun _=>w) G (Sx.asB B) a wd ⟨hg,rl.h,rl.sz,rl.df,fun k f e=>?_,fun nm B' e=>?_,fun nm nm' B' B2 e e' hne=>?_,fun nm p _ _ e=>by rw[hfx] at e;cases e⟩
 .obtain⟨y,⟨j,hj,hy⟩,h2⟩:=Dl (ρ:=fun _=>w) (w:=w) rfl 0 hvs k f e
  refine⟨y,rl.fr k y ?_,h2⟩;rw[hj];exact wN vs 0 j y hy
 .rw[jH] at e
  split at e
  .cases e;exact⟨Sx.asB B,hB.asB,fun o ho=>ho⟩
  .cases e
 .rw[jH] at e e'
  split at e<;>split at e'
  .rename_i h2 h3;exact absurd (h2.trans h3.symm) hne
  .cases e'
  .cases e
  .cases e
def xz{t:Nat}(hr:fb.results.toList=[.tmp t])(hl:bh fr t=some (.rw d))(hw:bp own d=some (.b ty s ds false))(ed:ds=dso):
  aw prog GB C n (fg C prog fb (I9 C s ty dso)) fr own (.ex .ret []):=by
 subst ed;refine⟨fun ρ G ov a w r=>?_⟩;obtain⟨B,g1,g2⟩:=r.bx _ _ hw;have hB:eh G ⟨ρ d,s,ty,ds,false⟩ B:=g1;obtain⟨rest,hp⟩:=IL hB g2;obtain⟨y,hy,hy'⟩:=r.ev (x:= .tmp t) (f:= .rw d) hl
 cases (show y=_ from hy')
 exact wK (C:=C) (n:=n) (fr:=cx a) (own:=ov) (G:=G) (vs:=[.slice (ρ d).a (ρ d).n (ρ d).c]) (by rw[hr];exact .tmp hy .nil) (B++rest) B hp (oY _ _) ⟨ρ d,aB.2 J,hB⟩ a w ⟨r.h,r.sz,cC a,r.df⟩
def y5(lk:LK):List Operand->Option (List (Option DV))
 |[]=>none
 |[x]=>match bj lk x with
  |some .nl=>some [none]
  |_=>none
 |x::t=>match bj lk x,y5 lk t with
  |some f,some l=>match jO f with
   |some d=>some (some d::l)
   |none=>none
  |_,_=>none
def Io(lk:LK)(fo:Operand)(args:Array Operand):Option (FuncId×List (Option DV)):=match bj lk fo with
 |some (.d (.v (.func (.func f) ⟨[]⟩ ⟨[]⟩)))=>match y5 lk args.toList with
  |some l=>some (f,l)
  |_=>none
 |_=>none
def ON{lk:LK}{bk:BM}{ρ:NE}{G:Gh}{ov:List av}{a:Act}{w:World}(r:bH GB C n lk bk ρ G ov a w): ∀{x:List Operand} {l:List (Option DV)},y5 lk x=some l-> ∃y,fy (cx a) x=some y/\IsLs G (fG l ⟨none,0,0⟩) y
 |[],l,e=>by cases e
 |[x],l,e=>by
  simp only[y5] at e;split at e<;>cases e;rename_i h1;obtain⟨y,h3,h4⟩:=r.ev h1
  cases (show y=_ from h4)
  exact⟨[Value.slice none 0 0],by simp only[fy,h3], .cons ((aB (G:=G)).2 J) .nil⟩
 |x::x2::t,l,e=>by
  simp only[y5] at e;split at e
  .rename_i f l' h1 h2
   cases hd:jO f with
   |none=>rw[hd] at e;cases e
   |some d=>
   rw[hd] at e;cases e;obtain⟨y,h3,h4⟩:=r.ev h1;obtain⟨ys,h5,h6⟩:=ON r (x:=x2::t) (by simpa only[y5] using h2);exact⟨y::ys,by simp only[fy,h3] at h5⊢;rw[h5], .cons (nq h4 hd) h6⟩
  .cases e
def Z8
  (ha:Io lk fo args=some (f,l))(hF:PB GB prog f (fG l) s ty0 [] (fun w=> .v (.slice w.a w.n w.c)) dso):bP prog GB C n lk bk ⟨some d, .call ⟨.value fo,args,tys⟩,ty,pos,af,gd⟩ (.rw d) [(d,some (.b ty0 s dso true))] [d]:=by
 intro hd tl tb K' s1 s2 hf hk;refine⟨fun ρ G ov a w r Q=>?_⟩;have r1:=r.mono s1 s2;unfold Io at ha;split at ha<;>try (cases ha;done)
 rename_i h1;split at ha<;>cases ha;rename_i h2;obtain⟨y,hy,hy'⟩:=r1.ev h1;rw[(aB (G:=G)).1 hy'] at hy;obtain⟨vs,h7,h8⟩:=ON r1 h2;refine wY (M:=[]) (rest:=ov) hy h7 (List.Perm.refl _) (hF G ⟨none,0,0⟩ vs [] r.gb ⟨[], .nil _ _, .nil,by simp,fun h=>by cases h⟩ h8) hd (fun v own1 G' hG hK a' w' rl=>?_) a w Q ⟨r.h,r.sz,cC a,r.df⟩;obtain⟨z,hr,vs',k1,k2,k3,k4⟩:=hK;have k1':=k1.relo (im []);have e2: ∀o∈own1.map (relo (im [])),o.lo=true:=fun o ho=>by
  obtain⟨o',_,rfl⟩:=aT.1 ho;rfl
 generalize own1.map (relo (im []))=B' at rl e2 k1';have rl':gD C n (Sx.put (cx a) (some d) v) (B'++ov) G' a' w':=rl;have hdis:=(gM.1 rl'.h.nd).2.2;rw[aB.1 hr] at rl';have r3:=r.new (x:=z) (B':= .b ty0 s dso true) (os:=B') (ov':=B'++ov) (f:= .rw d) (y:= .slice z.a z.n z.c) hf hG.le rl'.h ⟨vs',by simpa using k1',k2,k3,fun _=>e2⟩ (fun o ho=>bU _ ho) (fun o ho=>bK _ ho)
  (fun o ho hc=>by
   have hx: ∃o1∈B',o1.b=o.b:=by
    rcases k1' with⟨_,h,_⟩|⟨b0,rest0,lo0,h,hB,_⟩
    .rw[show z=_ from h] at hc;cases hc
    .rw[show z=_ from h] at hc;cases hc;exact⟨⟨_,aF vs'++rest0,_,lo0⟩,by rw[hB];exact aQ,J⟩
   obtain⟨o1,ho1,he1⟩:=hx;exact hdis o1 ho1 o ho he1) (by simp[bO]) (jG rl')
 exact hk.run _ G' _ a' w' r3
def NI(fr:aC)(cf:Cf):Option (FuncId×List (Option DV)×Nat):=match dd fr cf with
 |some ⟨some d, .call ⟨.value fo,args,_⟩,_,_,_,_⟩=>match Io (b9 fr cf) fo args with
  |some (f,l)=>some (f,l,d)
  |none=>none
 |_=>none
def cqn[fu:Fu](dso':List DV)(ha:NI fr cf=some (f,l,d))(hF:PB GB prog f (fG l) s ty [] (fun w=> .v (.slice w.a w.n w.c)) dso)(he:dso=dso')
  (hgo:cI tt n fu.n fr own cf (.rw d) [(d,some (.b ty s dso' true))] [d]=⟨vc,fr',own',cf'⟩)(k:aw prog GB C n Q0 fr' own' cf')
  (hv:autoParam (aj vc) fn._auto_1):aw prog GB C n Q0 fr own cf:=by
 subst he;unfold NI at ha;split at ha<;>try (cases ha;done)
 rename_i hh;split at ha<;>cases ha;rename_i h1;exact us hh (Z8 h1 hF) hgo hv k
end
section
variable {P:Program}{T:TT}{ρ:NE}{ov:List av}{a:Act}{w:World}
def V2{i:TI}{z:DV}[hT:cv P t e s by_][hN:ke P t'](hi:e7 P e=some i)(hz:pe i=some z)(hs:Nat.beq z.cells.length s=true)(hx:bj lk x=some (.rw nm))(hb:bk nm=some (.b e s ds false))(hy:rB lk bk s y=some ds2)(hk2:cP s ds2)
  (hby:Nat.blt 0 by_=true)(hbd:(ds.length+ds2.length)*by_<=140737488355328)(hnd:Nat.beq nm d=false)(hds:ds++ds2=ds'):
  bP P GB C n lk bk ⟨some d, .call ⟨.builtin .append, #[x,y], #[t,t']⟩,ty',pos,af,gd⟩ (.rw d) [(nm,none),(d,some (.b e s ds' false))] [d]:=by
 intro hd tl tb K s1 s2 hf hk;refine⟨fun ρ G ov a w r Q=>?_⟩;subst hds;have r1:=r.mono s1 s2;obtain⟨v,hz1,hz2,hz3⟩:=y8 hi hz;have cz:=((hz2 G).cells hz3).1.len;replace hs:=aN hs;rw[mM] at hby
 have hne:nm≠d:=fun e=>by subst e;simp at hnd
 obtain⟨u,hx',hx2⟩:=r1.ev hx
 cases hx2
 obtain⟨B,hB0,hBo⟩:=r1.bx _ _ hb;have hB1:eh G ⟨ρ nm,s,e,ds,false⟩ B:=hB0;clear hB0;obtain⟨vs,hB,hv,hvs,_⟩:=hB1;simp only[] at hB hv hvs;obtain⟨w2,us,hy',h2,h3,h4,h5,h6⟩:=BH (P:=P) r1 hy hk2;have hus:(aF us).length=us.length*s:=eG us h4;have hbd':(vs.length+us.length)*by_<=140737488355328:=by rw[hv.len,h3.len];exact hbd
 have hall: ∀v∈vs++us,(aE v).length=s:=fun v hv=>by
  rcases bW.1 hv with hv|hv
  .exact hvs v hv
  .exact h4 v hv
 have rd:=r.dropB nm;have hf':lv [d] (some d) tl (Sx.upB tb [(nm,none)]):=fun m hm=>by
  obtain⟨g1,g2⟩:=hf m hm;refine⟨g1,fun k B' hk e=>g2 k B' hk ?_⟩;simp only[Sx.upB] at e;split at e
  .cases e
  .exact e
 have hbk: ∀m B',(Sx.upB tb [(nm,none)]) m=some B'->m≠nm/\tb m=some B':=fun m B' e=>by
  simp only[Sx.upB] at e;split at e
  .cases e
  .exact⟨by assumption,e⟩
 have hnew: ∀{z:SV} {ov':List av} {B1:List av} {a':Act} {w':World} {dz:List DV},eh G ⟨z,s,e,dz,false⟩ B1->(∀o∈B1,o∈ov')->(∀m B',m≠d->(Sx.upB tb [(nm,none)]) m=some B'-> ∀o∈ov,(ρ m).a=some ⟨o.b,0,none⟩->o∈ov'/\z.a≠some ⟨o.b,0,none⟩)->
   SX GB C n (ef tl (some d) (.rw d)) (Sx.upB (Sx.upB tb [(nm,none)]) [(d,some (.b e s dz false))]) K->gD C n (Sx.put (cx a) (some d) (.slice z.a z.n z.c)) ov' G a' w'->K a' w':=fun hB1 hos hov hk1 rl=>
  hk1.run _ _ _ _ _ (rd.new' (f:= .rw d) (y:= .slice _ _ _) hf' (bI.refl _) rl.h (hB1.toBk (by simp)) hos hov (by show _=_;simp) (jG rl))
 have hfin: ∀(b:Nat) (lo1:Bool) (cap':Nat) (rest':List Value) (ov1:List av) a' w',vs.length+us.length<=cap'->rest'.length+(vs.length+us.length)*s=cap'*s->(∀o∈ov,(ρ nm).a≠some ⟨o.b,0,none⟩->o∈ov1)->
   gD C n (put (cx a) (some d) (.slice (some ⟨b,0,none⟩) (vs.length+us.length) cap')) (⟨b,aF (vs++us)++rest',e,lo1⟩::ov1) G a' w'->K a' w':=by
  intro b lo1 cap' rest' ov1 a' w' hc hr ho1 rl;have hnd':=(cV.1 rl.h.nd).1;refine hnew (z:=⟨some ⟨b,0,none⟩,vs.length+us.length,cap'⟩) (B1:=[⟨b,aF (vs++us)++rest',e,lo1⟩]) ⟨vs++us, .inr ⟨b,rest',lo1,by simp,J,eG _ hall,?_,by simpa using hc⟩,hv.app h3,hall,fun h=>by cases h⟩
   (fun o ho=>by rw[aS.1 ho];exact aQ) (fun m B' hm e o ho hmo=>?_) hk rl
  .rw[eG _ hall,aU]
   simp only[];omega
  .obtain⟨h7,h8⟩:=hbk m B' e
   have ho2:=ho1 o ho fun hc=>r.dj m nm B' _ h8 (s2 _ _ hb) h7 _ hmo hc;exact⟨aJ _ ho2,fun e'=>by cases e';exact hnd' o ho2 J⟩
 rcases hB with⟨e1,e2,e3⟩|⟨b,rest,lo',k3,k4,k5,k6,k7⟩
 .subst e1
  rw[e2] at hx';by_cases hne:us=[]
  .subst hne
   have:ds2=[]:=bM (by rw[<-h3.len];rfl);subst this;rw[h2] at hy';refine Oh hx' hy' hd (fun a' w' rl=>?_) a w Q ⟨r.h,r.sz,cC a,r.df⟩;refine hnew (z:=⟨none,0,0⟩) (B1:=[]) ⟨[], .inl ⟨J,J,J⟩,by simpa using hv,by simp,fun h=>by cases h⟩ (fun o ho=>by cases ho) (fun m B' hm e o ho hmo=>⟨ho,fun e'=>by cases e'⟩) hk rl
  .have hup:0<us.length:=oS.2 hne
   rw[h2] at hy' h6;refine A5 (z:=v) (xs:=[]) (ys:=aF us) hx' hy' vt h6 (by show(0:Nat)<0+us.length;omega) hby (by simpa using hbd') hd (fun b cap' hc a' w' rl=>?_) a w Q ⟨r.h,r.sz,cC a,r.df⟩;exact hfin b true cap' (de v (cap'-us.length)) ov a' w' (by simpa using hc) (by rw[pc,cz,hs,<-dJ];simp at hc⊢;congr 1;omega) (fun o ho _=>ho) (by simpa using rl)
 .subst k4
  have ha:(ρ nm).a=some ⟨b,0,none⟩:=by rw[k3]
  have hn:(ρ nm).n=vs.length:=by rw[k3]
  rw[ha,hn] at hx';rw[h2] at hy' h6;obtain⟨ov1,o1,o2⟩:=kh.of_mem (hBo _ aQ);refine JO (z:=v) (xs:=aF vs) (ys:=aF us) (rest:=rest) (own1:=ov1) hx' hy' o1 k5 k6 k7 h6 hus h5 hby hbd' (by rw[cz,hs]) hd (fun b' lo2 cap' rest' hc hr a' w' rl=>?_) a w Q ⟨r.h,r.sz,cC a,r.df⟩;rw[<-qp] at rl;exact hfin b' lo2 cap' rest' ov1 a' w' hc hr (fun o ho hne=>o2 o ho fun e'=>hne (by rw[ha,e'])) rl
end
section
variable {own:aH}
def RH(fr:aC)(own:aH)(cf:Cf):Option (Nat×Nat×Nat×Nat×Nat×List DV×List DV):=match dd fr cf with
 |some ⟨some d, .call ⟨.builtin .append,⟨[x,y]⟩,⟨[t,t']⟩⟩,_,_,_,_⟩=>match d8 tt t with
  |some ⟨.sl e s b,_,_,_⟩=>match d8 tt t' with
   |some ⟨.sl _ _ _,_,_,_⟩=>match d8 tt e with
    |some i=>match pe i with
     |some z=>bif Nat.beq z.cells.length s&&Nat.blt 0 b then(match rB (b9 fr cf) (jv fr own cf) s y with
      |some ds2=>match bj (b9 fr cf) x with
       |some (.rw nm)=>match jv fr own cf nm with
        |some (.b e' s' ds false)=>bif (Nat.beq e' e&&Nat.beq s' s)&&!Nat.beq nm d then some (d,nm,e,s,b,ds,ds2) else none
        |_=>none
       |_=>none
      |none=>none) else none
     |none=>none
    |none=>none
   |_=>none
  |_=>none
 |_=>none
def MM[fu:Fu]{b:Nat}(ds':List DV)(h:RH fr own cf=some (d,nm,e,s,b,ds,ds2))(hds:ds++ds2=ds')(ho2:cP s ds2)(hgo:cI tt n fu.n fr own cf (.rw d) [(nm,none),(d,some (.b e s ds' false))] [d]=⟨vc,fr',own',cf'⟩)(k:aw prog GB C n Q0 fr' own' cf')
  (hbd:(ds.length+ds2.length)*b<=140737488355328:=by simp;omega)
  (hv:autoParam (aj vc) fn._auto_1):aw prog GB C n Q0 fr own cf:=by
 unfold RH at h;split at h<;>try (cases h;done)
 rename_i hh;split at h<;>try (cases h;done)
 rename_i hT;split at h<;>try (cases h;done)
 rename_i hT';split at h<;>try (cases h;done)
 rename_i hi;split at h<;>try (cases h;done)
 rename_i hz;rw[cond_eq_ite] at h;split at h<;>try (cases h;done)
 rename_i hc;simp only[cZ] at hc;split at h<;>try (cases h;done)
 rename_i hy;have:=lP (eE _ _ hT) J;have hN:ke prog _:=⟨_,(lP (eE _ _ hT') J).un⟩;split at h<;>try (cases h;done)
 rename_i hx;split at h<;>try (cases h;done)
 rename_i hb;rw[cond_eq_ite] at h;split at h<;>cases h;rename_i hq;simp only[cZ,iM] at hq
 cases aN hq.1.1
 cases aN hq.1.2
 exact us hh (V2 (eE _ _ hi) hz hc.1 hx hb hy ho2 hc.2 hbd hq.2 hds) hgo hv k
end
def Ns(xs ys:List NQ)(n:NQ):((xs++(n::ys)).map eN)[((xs.length:Nat):Int).toNat]? =some (eN n):=by simp
def OJ(xs ys:List NQ)(n m:NQ)(e:DV)(h:e=eN m):((xs++(n::ys)).map eN).set ((xs.length:Nat):Int).toNat e=(xs++(m::ys)).map eN:=by subst h;simp
def Tt:PB GB prog 95 (fG [some (eT (.leaf true)),none]) 8 167 (ns.map eN) (fun w=> .tp ([]++ .v (.slice w.a w.n w.c)::[.v (.int .i64 (Tr.num (.leaf true) ns.length))])) ((ns++Tr.wr (.leaf true) ns.length).map eN):=by
 refine JB (fu:=⟨12⟩) func95 J J ntmps95 J J (fun C=>?_);refine c6 (fu:=⟨9⟩) J J J<|c6 J J J<|?_;exact HL J J J J J (by simp[Tr.wr]) J
def UX:PB GB prog 95 (fG [some (eT (.leaf false)),none]) 8 167 (ns.map eN) (fun w=> .tp ([]++ .v (.slice w.a w.n w.c)::[.v (.int .i64 (Tr.num (.leaf false) ns.length))])) ((ns++Tr.wr (.leaf false) ns.length).map eN):=by
 refine JB (fu:=⟨12⟩) func95 J J ntmps95 J J (fun C=>?_);refine c6 (fu:=⟨9⟩) J J J<|cd J J J<|?_;exact HL J J J J J (by simp[Tr.wr]) J
def Xy{l:aa}{s u:Tr}{ns:List NQ}(hl:BL l 96)(hs:ns.length+(1+s.size+u.size)<=1000000)(ihs: ∀{ns:List NQ},ns.length+s.size<=1000000->PB GB prog 95 (fG [some (eT s),none]) 8 167 (ns.map eN) (fun w=> .tp ([]++ .v (.slice w.a w.n w.c)::[.v (.int .i64 (Tr.num s ns.length))])) ((ns++Tr.wr s ns.length).map eN))(ihu: ∀{ns:List NQ},ns.length+u.size<=1000000->PB GB prog 95 (fG [some (eT u),none]) 8 167 (ns.map eN) (fun w=> .tp ([]++ .v (.slice w.a w.n w.c)::[.v (.int .i64 (Tr.num u ns.length))])) ((ns++Tr.wr u ns.length).map eN)):PB GB prog 95 (fG [some (eT (.node l s u)),none]) 8 167 (ns.map eN) (fun w=> .tp ([]++ .v (.slice w.a w.n w.c)::[.v (.int .i64 (Tr.num (.node l s u) ns.length))])) ((ns++Tr.wr (.node l s u) ns.length).map eN):=by
 refine JB (fu:=⟨12⟩) func95 J J ntmps95 J J (fun C=>?_);refine cd (fu:=⟨9⟩) J J J<|?_;refine ak 20 (.d (.v (.int .i64 (ns.length:Nat)))) J (by simp) ?_;refine gx J<|cl J (Y6 hl) J<|rf J J<|MM ((ns++[(⟨l,0,0⟩:NQ)]).map eN) J (by rw[bV]<;>rfl) (aIN [(⟨l,0,0⟩:NQ)]) J<|?_;refine cb _ J (ihs (ns:=ns++[(⟨l,0,0⟩:NQ)]) (by simp;omega)) J J<|cb (hv:=by simp only[aj];exact(by simp;omega)) ((ns++((⟨l,0,0⟩:NQ)::(s.wr (ns.length+1)++u.wr (ns.length+1+s.size)))).map eN) J (ihu (ns:=ns++[(⟨l,0,0⟩:NQ)]++s.wr (ns++[(⟨l,0,0⟩:NQ)]).length) (by simp[Tr.wr_len];omega)) (by simp[Tr.wr_len,kV,kR 1]) J<|?_;refine sb (hv:=by simp only[aj];exact(by simp;omega)) (eN ⟨l,0,0⟩) ((ns++((⟨l,s.num (ns.length+1),0⟩:NQ)::(s.wr (ns.length+1)++u.wr (ns.length+1+s.size)))).map eN) J (Ns ns _ ⟨l,0,0⟩) J (by rw[OJ _ _ _ ⟨l,s.num (ns.length+1),0⟩ _ (by simp[eN,DV.cells])]) J<|?_;refine sb (eN ⟨l,s.num (ns.length+1),0⟩) ((ns++Tr.wr (.node l s u) ns.length).map eN) J (Ns ns _ ⟨l,s.num (ns.length+1),0⟩) J (by rw[OJ _ _ _ ⟨l,s.num (ns.length+1),u.num (ns.length+1+s.size)⟩ _ (by simp[eN,DV.cells,Tr.wr_len,kV,kR 1])];simp[Tr.wr]) J<|?_;exact HL J J J J J J J
def JS: ∀{t:Tr} {ns:List NQ},t.all (fun l=>BL l 96)->ns.length+t.size<=1000000->PB GB prog 95 (fG [some (eT t),none]) 8 167 (ns.map eN) (fun w=> .tp ([]++ .v (.slice w.a w.n w.c)::[.v (.int .i64 (Tr.num t ns.length))])) ((ns++Tr.wr t ns.length).map eN)
 | .leaf true,ns,_,_=>Tt
 | .leaf false,ns,_,_=>UX
 | .node l s u,ns,hb,hs=>Xy hb.1 hs (fun h=>JS hb.2.1 h) (fun h=>JS hb.2.2 h)
def Vt{t:Tr}(hb:t.all (fun l=>BL l 96))(hs:t.size<=1000000):PF GB prog 31 [eT t] (eA t):=by
 refine fn func31 J J ntmps31 J J (fun C=>?_);refine Y' _ J (JS (t:=t) (ns:=[]) hb (by simpa using hs)) J J<|?_;refine ir 6 J ?_;exact rz J J
def T2(ds:List Int):cP 1 (ds.map vI):=fun d hd=>by
 obtain⟨n,_,rfl⟩:=aT.1 hd;exact⟨rfl,rfl⟩
def azb(es:List Int):(es.map vI).take (min es.length 400)=(es.take 400).map vI:=by
 rw[iL];rcases Nat.le_total es.length 400 with h|h
 .rw[iN h,aM (by simp),aM (by simpa using h)]
 .rw[Nat.min_eq_right h]
def TW{es:List Int}(hb:es.length<=1125899906842624):PN GB prog 11 [.sl (es.map vI)] 107 Unit (fun _=>[.sl ((es.take 400).map vI), .v (.int .i64 (0:Nat))]):=by
 have hel:(es.map vI).length=es.length:=by simp
 refine YB func11 J J ntmps11 J J (fun C hmb=>?_);refine mE 0 (min es.length 400) ((es.take 400).map vI) J J (by rw[hel];show(if _ then _ else _:Int)=_;split<;>omega) (azb es) (T2 _) (by omega) (by omega) J<|?_;exact VL () J J J J J
def K5{t:Tr}(hb:t.all LB)(hok:t.all aa.ok)(hd:t.depth<=900):PF GB prog 59 [eT t] (eT (t.restrict [])):=by
 refine fn func59 J J ntmps59 J J (fun C=>?_);refine cl J (IH (t:=t) (c:=[]) hb hok (by simp) (by simp) (by simpa using hd)) J<|?_;exact rz J (by rw[<-Tr.restrictL_eq t [] [] hok (by simp) bD.nil (fun p=>by unfold bt gh;simp)];rfl)
end Go.Sx
end
