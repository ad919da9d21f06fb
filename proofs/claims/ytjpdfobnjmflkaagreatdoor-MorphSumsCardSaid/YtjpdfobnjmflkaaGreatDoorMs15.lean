import Derived.Test.YtjpdfobnjmflkaaGreatDoorMs14
set_option linter.all false
set_option maxHeartbeats 4000000
set_option maxRecDepth 100000
section
namespace Go.Sx
open Go Go.Proofs Tryz
variable {GB G:Gh}{cuts:List Rat}{i k n e len s nm off d o:Nat}{y x t u:Tr}{marks:List Bool}{xs a:List ar}{v w:Value}{l m l1:aa}{b q b1 b2 b3:Bool}{lk:LK}{bk:BM}{ty':TypeId}{pos:String}{af:Array Edge}{z zx:List FX}{pre post l2 l3:List DV}{side fill op:Int}{f g:bw}{r:List ZP}{p:ah}{rs:List (List ZP)}{c:List aa}{ns ms:List NQ}
def aJG(a b:Bool):eV ⟨0,0,a,b⟩= .ag [.v (.bool false), .sl [], .sl [], .v (.bool false), .sl [], .sl [], .v (.bool a), .v (.bool b)]:=by
 unfold eV dD;simp only[show(0:Rat).num=0 from J,show(0:Rat).den=1 from J,lY,mm];rfl
def RM(t:Rat)(a b:Bool):eV ⟨t,0,a,b⟩= .ag [.v (.bool (decide (t.num<0))),dN t.num.natAbs,dD t.den, .v (.bool false), .sl [], .sl [], .v (.bool a), .v (.bool b)]:=by
 unfold eV dD;simp only[show(0:Rat).num=0 from J,show(0:Rat).den=1 from J,lY,mm];rfl
def Vr(t:Rat)(a b:Bool):eV ⟨0,t,a,b⟩= .ag [.v (.bool false), .sl [], .sl [], .v (.bool (decide (t.num<0))),dN t.num.natAbs,dD t.den, .v (.bool a), .v (.bool b)]:=by
 unfold eV dD;simp only[show(0:Rat).num=0 from J,show(0:Rat).den=1 from J,lY,mm];rfl
def aEb(h:i=0)(k: ¬i<cuts.length):fi cuts i=⟨0,0,decide (i=0),decide (i=cuts.length)⟩:=by unfold fi;rw[if_pos h,if_neg k]
def aEy{y:Rat}(h:i=0)(k:cuts[i]? =some y):fi cuts i=⟨0,y,decide (i=0),decide (i=cuts.length)⟩:=by
 unfold fi;rw[if_pos h,if_pos (aR.1 k).1,aV,k];rfl
def Ui{x:Rat}(h: ¬i=0)(k:cuts[i-1]? =some x)(k2: ¬i<cuts.length):fi cuts i=⟨x,0,decide (i=0),decide (i=cuts.length)⟩:=by
 unfold fi;rw[if_neg h,if_neg k2,aV,k];rfl
def aEf{x y:Rat}(h: ¬i=0)(k:cuts[i-1]? =some x)(k2:cuts[i]? =some y):fi cuts i=⟨x,y,decide (i=0),decide (i=cuts.length)⟩:=by
 unfold fi;rw[if_neg h,if_pos (aR.1 k2).1,aV,k,aV,k2];rfl
def Z0(h:marks[k]? =some false):gF cuts marks (k+1)=gF cuts marks k:=by
 rw[gF,aV,h];rfl
def Ea(h:marks[k]? =some true)(hp: ¬(0<k/\marks[k-1]? =some true)):gF cuts marks (k+1)=gF cuts marks k++[fi cuts k]:=by
 rw[gF,aV,h];show(if 0<k/\_ then _ else _)=_;rw[if_neg];rintro ⟨h1,h2⟩;rw[aV] at h2
 cases e:marks[k-1]? with
 |none=>rw[e] at h2;cases h2
 |some b=>rw[e] at h2;exact hp ⟨h1,by rw[e];simp at h2;rw[h2]⟩
def SK(h:marks[k]? =some true):gF cuts marks (k+1)≠[]:=by
 rw[gF,aV,h];show(if 0<k/\_ then _ else _)≠[];split
 .split<;>simp
 .simp
def LZ{v:ar}(hk:0<k)(h:marks[k]? =some true)(hp:marks[k-1]? =some true)(hx:gF cuts marks k=xs)(hv:xs[xs.length-1]? =some v):gF cuts marks (k+1)=xs.set (xs.length-1) (u' v (fi cuts k)):=by
 rw[gF,aV,h];show(if 0<k/\_ then _ else _)=_;rw[if_pos ⟨hk,by rw[aV,hp];rfl⟩,hx,nM,hv];have hn:0<xs.length:=by
  have:=(aR.1 hv).1;omega
 show xs.dropLast++[_]=_;apply lS;intro i;rw[pU];by_cases hi:i<xs.length-1
 .rw[jR (by rw[mY];exact hi),List.getElem?_dropLast,if_pos hi,if_neg (by omega)]
 .by_cases hi2:i=xs.length-1
  .subst hi2
   rw[jU (by rw[mY];exact bK _),mY,pS,if_pos J,if_pos (by omega)];rfl
  .rw[fQ (by rw[aY,mY];simp;omega),if_neg (by omega),fQ (by omega)]
def zo{α:Type}{f:α->DV}{l:List α}{x:α}(hk:0<k)(h:l[k-1]? =some x):(l.map f)[(((k:Nat):Int)-1).toNat]? =some (f x):=by
 rw[show(((k:Nat):Int)-1).toNat=k-1 by omega,cY,h];rfl
def rP:decide (k=n)=decide (((k:Nat):Int)=((n:Nat):Int)):=decide_eq_decide.2 (by omega)
def Vz(hn:cuts.length<=100000)(hmk:marks.length<=cuts.length+1):PF GB prog 318 [.sl (cuts.map eQ), .sl (marks.map vB)] (.sl ((wm cuts marks).map eV)):=by
 have hm:=eo vB marks;have hmc:=eo eQ cuts;refine fn (fu:=⟨15⟩) func318 J J ntmps318 J J (fun C=>?_);refine aj 11 (.d (vI (marks.length:Nat))) J (by rw[hm]<;>rfl)<|gx J<|nr 5 5 134 8 J J J<|lp (X:=List ar×Nat) (fun⟨xs,k⟩=>[(12, .d (vI (k:Nat))),(5, .rw 5)]) (fun⟨xs,k⟩=>[(5,some (.b 134 8 (xs.map eV) true))]) (fun⟨xs,k⟩=>xs=gF cuts marks k/\k<=marks.length) (fun⟨xs,k⟩=>marks.length-k) ([],0) J ⟨J,aM _⟩ (fun _=>J) (fun⟨xs,k⟩ hk=>?_);dsimp only at hk⊢;obtain⟨h1,h2⟩:=hk;have hml:=eo eV xs;have hxl:xs.length<=k:=by rw[h1];exact IJ
 refine br J J J (fun hc13=>?_) (fun hc13=>?_)
 .
  obtain⟨b,hz⟩: ∃s,marks[k]? =some s:=⟨_,aZ (by omega)⟩;refine ix (fu:=⟨8⟩) _ J (ck hz) J<|?_
  cases b
  .
   refine cB (fu:=⟨12⟩) J J J<|at_ (xs,k+1) (by dsimp only;exact⟨⟨by rw[Z0 hz,<-h1],by omega⟩,(by omega)⟩)
  .
   refine du (fu:=⟨13⟩) J J J<|?_;rcases(show(k=0/\k<cuts.length)\/(k=0/\ ¬k<cuts.length)\/(0<k/\k<cuts.length)\/(0<k/\ ¬k<cuts.length) by omega) with⟨c1,c2⟩|⟨c1,c2⟩|⟨c1,c2⟩|⟨c1,c2⟩
   .
    obtain⟨y,hy⟩: ∃s,cuts[k]? =some s:=⟨_,aZ (by omega)⟩;have hgap:=aEy (cuts:=cuts) (i:=k) c1 hy;have hnp: ¬(0<k/\marks[k-1]? =some true):=fun e=>by omega
    refine aj 23 (.d (vI (cuts.length:Nat))) J (by rw[hmc]<;>rfl)<|gx (fu:=⟨10⟩) J<|cB (fu:=⟨11⟩) J (by show some (decide _)=some false;rw[decide_eq_false (by omega)]) J<|aj 36 (.d (vI (cuts.length:Nat))) J (by rw[hmc]<;>rfl)<|gx (fu:=⟨0⟩) J<|du J (by show some (decide _)=some true;rw[decide_eq_true (by omega)]) J<|ix (fu:=⟨10⟩) _ J (ck hy) J<|aj 44 (.d (vI (xs.length:Nat))) J (by rw[hml]<;>rfl)<|gx (fu:=⟨6⟩) J<|cB (fu:=⟨19⟩) J (by show some (decide _)=some false;rw[decide_eq_false (by omega)]) J<|aj 73 (.d (eV (fi cuts k))) J (by rw[hgap,Vr,rP (k:=k) (n:=0),rP (k:=k) (n:=cuts.length)]<;>rfl)<|gx J<|rf J J<|ap (fu:=⟨12⟩) ((xs++[fi cuts k]).map eV) J (by rw[aS];rfl) (yu [fi cuts k]) J<|d8 75 5 J<|at_ (xs++[fi cuts k],k+1) (by dsimp only;exact⟨⟨by rw[Ea hz hnp,<-h1],by omega⟩,(by omega)⟩)
   .
    have hgap:=aEb (cuts:=cuts) (i:=k) c1 c2;have hnp: ¬(0<k/\marks[k-1]? =some true):=fun e=>by omega
    refine aj 23 (.d (vI (cuts.length:Nat))) J (by rw[hmc]<;>rfl)<|gx (fu:=⟨10⟩) J<|cB (fu:=⟨11⟩) J (by show some (decide _)=some false;rw[decide_eq_false (by omega)]) J<|aj 36 (.d (vI (cuts.length:Nat))) J (by rw[hmc]<;>rfl)<|gx (fu:=⟨0⟩) J<|cB (fu:=⟨10⟩) J (by show some (decide _)=some false;rw[decide_eq_false (by omega)]) J<|aj 44 (.d (vI (xs.length:Nat))) J (by rw[hml]<;>rfl)<|gx (fu:=⟨6⟩) J<|cB (fu:=⟨19⟩) J (by show some (decide _)=some false;rw[decide_eq_false (by omega)]) J<|aj 73 (.d (eV (fi cuts k))) J (by rw[hgap,aJG,rP (k:=k) (n:=0),rP (k:=k) (n:=cuts.length)]<;>rfl)<|gx J<|rf J J<|ap (fu:=⟨12⟩) ((xs++[fi cuts k]).map eV) J (by rw[aS];rfl) (yu [fi cuts k]) J<|d8 75 5 J<|at_ (xs++[fi cuts k],k+1) (by dsimp only;exact⟨⟨by rw[Ea hz hnp,<-h1],by omega⟩,(by omega)⟩)
   .
    obtain⟨x,hx⟩: ∃s,cuts[k-1]? =some s:=⟨_,aZ (by omega)⟩;obtain⟨pb,hpb⟩: ∃s,marks[k-1]? =some s:=⟨_,aZ (by omega)⟩;obtain⟨y,hy⟩: ∃s,cuts[k]? =some s:=⟨_,aZ (by omega)⟩;have hgap:=aEf (cuts:=cuts) (i:=k) (by omega) hx hy;refine aj 23 (.d (vI (cuts.length:Nat))) J (by rw[hmc]<;>rfl)<|gx (fu:=⟨10⟩) J<|du J (by show some (decide _)=some true;rw[decide_eq_true (by omega)]) J<|ix (fu:=⟨11⟩) _ J (zo (by omega) hx) J<|aj 36 (.d (vI (cuts.length:Nat))) J (by rw[hmc]<;>rfl)<|gx (fu:=⟨0⟩) J<|du J (by show some (decide _)=some true;rw[decide_eq_true (by omega)]) J<|ix (fu:=⟨10⟩) _ J (ck hy) J<|aj 44 (.d (vI (xs.length:Nat))) J (by rw[hml]<;>rfl)<|gx (fu:=⟨6⟩) J<|du J (by show some (decide _)=some true;rw[decide_eq_true (by omega)]) J<|ix _ J (zo (by omega) hpb) J<|iC (fu1:=⟨1⟩) (fu2:=⟨11⟩) 54 J J J (fun hg54=>?_) (fun hg54=>?_)
    .
     have hpb':marks[k-1]? =some true:=by rw[hpb];congr 1
     have hxn:0<xs.length:=by rw[h1];have:=SK (cuts:=cuts) hpb';rw[show k-1+1=k by omega] at this;exact mZ.2 this
     obtain⟨w,hw⟩: ∃s,xs[xs.length-1]? =some s:=⟨_,aZ (by omega)⟩;refine du J (by show some (decide _)=some true;rw[decide_eq_true (by omega)]) J<|sb (eV w) ((xs.set (xs.length-1) (⟨w.lo,y,w.nl,w.nh⟩:ar)).map eV) J (zo hxn hw) J (by rw[show(((xs.length:Nat):Int)-1).toNat=xs.length-1 by omega,jS];rfl) J<|sb (hv:=by simp only[ak];exact⟨by kernel_rfl,by omega⟩) (eV (⟨w.lo,y,w.nl,w.nh⟩:ar)) ((xs.set (xs.length-1) (u' w (fi cuts k))).map eV) J (by rw[show(((xs.length:Nat):Int)-1).toNat=xs.length-1 by omega,jS,sZ (by rw[hml];omega)]) J (by rw[show(((xs.length:Nat):Int)-1).toNat=xs.length-1 by omega,jS,List.set_set,jS,hgap];unfold u';dsimp only;rw[rP (k:=k) (n:=cuts.length)]<;>rfl) J<|?_;exact at_ (xs.set (xs.length-1) (u' w (fi cuts k)),k+1) (by dsimp only;exact⟨⟨(LZ (by omega) hz hpb' h1.symm hw).symm,by omega⟩,(by omega)⟩)
    .
     have hnp: ¬(0<k/\marks[k-1]? =some true):=fun e=>by rw[hpb,hg54] at e;simpa using e.2
     refine aj 73 (.d (eV (fi cuts k))) J (by rw[hgap];unfold eV;dsimp only;rw[rP (k:=k) (n:=0),rP (k:=k) (n:=cuts.length)]<;>rfl)<|gx J<|rf J J<|ap (fu:=⟨12⟩) ((xs++[fi cuts k]).map eV) J (by rw[aS];rfl) (yu [fi cuts k]) J<|d8 75 5 J<|at_ (xs++[fi cuts k],k+1) (by dsimp only;exact⟨⟨by rw[Ea hz hnp,<-h1],by omega⟩,(by omega)⟩)
   .
    obtain⟨x,hx⟩: ∃s,cuts[k-1]? =some s:=⟨_,aZ (by omega)⟩;obtain⟨pb,hpb⟩: ∃s,marks[k-1]? =some s:=⟨_,aZ (by omega)⟩;have hgap:=Ui (cuts:=cuts) (i:=k) (by omega) hx c2;refine aj 23 (.d (vI (cuts.length:Nat))) J (by rw[hmc]<;>rfl)<|gx (fu:=⟨10⟩) J<|du J (by show some (decide _)=some true;rw[decide_eq_true (by omega)]) J<|ix (fu:=⟨11⟩) _ J (zo (by omega) hx) J<|aj 36 (.d (vI (cuts.length:Nat))) J (by rw[hmc]<;>rfl)<|gx (fu:=⟨0⟩) J<|cB (fu:=⟨10⟩) J (by show some (decide _)=some false;rw[decide_eq_false (by omega)]) J<|aj 44 (.d (vI (xs.length:Nat))) J (by rw[hml]<;>rfl)<|gx (fu:=⟨6⟩) J<|du J (by show some (decide _)=some true;rw[decide_eq_true (by omega)]) J<|ix _ J (zo (by omega) hpb) J<|iC (fu1:=⟨1⟩) (fu2:=⟨11⟩) 54 J J J (fun hg54=>?_) (fun hg54=>?_)
    .
     have hpb':marks[k-1]? =some true:=by rw[hpb];congr 1
     have hxn:0<xs.length:=by rw[h1];have:=SK (cuts:=cuts) hpb';rw[show k-1+1=k by omega] at this;exact mZ.2 this
     obtain⟨w,hw⟩: ∃s,xs[xs.length-1]? =some s:=⟨_,aZ (by omega)⟩;refine du J (by show some (decide _)=some true;rw[decide_eq_true (by omega)]) J<|sb (eV w) ((xs.set (xs.length-1) (⟨w.lo,0,w.nl,w.nh⟩:ar)).map eV) J (zo hxn hw) J (by rw[show(((xs.length:Nat):Int)-1).toNat=xs.length-1 by omega,jS,RM];rfl) J<|sb (hv:=by simp only[ak];exact⟨by kernel_rfl,by omega⟩) (eV (⟨w.lo,0,w.nl,w.nh⟩:ar)) ((xs.set (xs.length-1) (u' w (fi cuts k))).map eV) J (by rw[show(((xs.length:Nat):Int)-1).toNat=xs.length-1 by omega,jS,sZ (by rw[hml];omega)]) J (by rw[show(((xs.length:Nat):Int)-1).toNat=xs.length-1 by omega,jS,List.set_set,jS,hgap];unfold u';dsimp only;rw[rP (k:=k) (n:=cuts.length)]<;>rfl) J<|?_;exact at_ (xs.set (xs.length-1) (u' w (fi cuts k)),k+1) (by dsimp only;exact⟨⟨(LZ (by omega) hz hpb' h1.symm hw).symm,by omega⟩,(by omega)⟩)
    .
     have hnp: ¬(0<k/\marks[k-1]? =some true):=fun e=>by rw[hpb,hg54] at e;simpa using e.2
     refine aj 73 (.d (eV (fi cuts k))) J (by rw[hgap,RM,rP (k:=k) (n:=0),rP (k:=k) (n:=cuts.length)]<;>rfl)<|gx J<|rf J J<|ap ((xs++[fi cuts k]).map eV) J (by rw[aS];rfl) (yu [fi cuts k]) J<|d8 75 5 J<|at_ (xs++[fi cuts k],k+1) (by dsimp only;exact⟨⟨by rw[Ea hz hnp,<-h1],by omega⟩,(by omega)⟩)
 .
  have hfin:wm cuts marks=xs:=by rw[h1,wm,show k=marks.length by omega]
  refine gm 5 J<|rz J (by rw[hfin];rfl)
def I3{g:Rat}: ∀{l:List Rat},g∈iH l-> ∃a∈l,∃b∈l,g=(a+b)/2
 |[],h=>by cases h
 |[_],h=>by cases h
 |a::b::t,h=>by
  rw[iH] at h;rcases aW.1 h with rfl|h
  .exact⟨a,aQ,b,aJ _ aQ,J⟩
  .obtain⟨c,hc,d,hd,e⟩:=I3 h
   exact⟨c,aJ _ hc,d,aJ _ hd,e⟩
theorem V2{l:List Rat}(h: ∀q∈l,BQ q 1200): ∀g∈cp l,BQ g 2500:=fun g hg=>by
 cases l with
 |nil=>
  rw[cp,aU] at hg;subst hg;exact BQ.mono (k:=1) ⟨by decide,by decide⟩
 |cons a t=>
  rw[cp] at hg;rcases aW.1 hg with rfl|hg
  .haveI:=h a aQ
   exact BQ.mono (inferInstance:BQ (a-1) _) (by omega)
  .rcases bJ.1 hg with hg|hg
   .obtain⟨c,hc,d,hd,rfl⟩:=I3 hg
    haveI:=h c hc;haveI:=h d hd;exact BQ.mono (inferInstance:BQ ((c+d)/2) _) (by omega)
   .rw[aU] at hg
    haveI:=h _ (List.getLast_mem (l:=a::t) (by simp));subst hg;exact BQ.mono (inferInstance:BQ ((a::t).getLast (by simp)+1) _) (by omega)
def Of(l:List ar):p9 l l.length=jH l:=by unfold p9;rw[cS]
theorem UQ{l:List ar}(h: ∀v∈l,nf v): ∀y∈jH l,BQ y 1200:=by rw[<-Of];exact Nr h
def Gm(l:List ar):(jH l).length<=2*l.length:=by rw[<-Of];exact Ex l _
def nf.app{b:List ar}(ha: ∀v∈a,nf v)(hb: ∀v∈b,nf v): ∀v∈a++b,nf v:=fun v hv=>(bJ.1 hv).elim (ha v) (hb v)
def KY{b:List ar}(ha: ∀v∈a,nf v)(hb: ∀v∈b,nf v)(hna:a.length<=100)(hnb:b.length<=100):PF GB prog 286 [vI 2, .sl (a.map eV), .sl (b.map eV)] (.sl ((qo 2 a b).map eV)):=by
 obtain⟨cuts,hcu⟩: ∃c,c=jH (a++b):=⟨_,rfl⟩;have hab:=nf.app ha hb;have hcb: ∀q∈cuts,BQ q 1200:=by rw[hcu];exact UQ hab
 have hcl:cuts.length<=2*(a.length+b.length):=by rw[hcu];have:=Gm (a++b);rw[aY] at this;exact this
 have hgb:=V2 hcb;have hgl:=y9 (l:=cuts);have hmp:=eo eQ (cp cuts);refine fn func286 J J ntmps286 J J (fun C=>?_);refine oE J J<|ap (a.map eV) J J (yu _) J<|jC ((a++b).map eV) J (by rw[aS]) (yu b) J<|cl (fu:=⟨0⟩) J (aG3 (l:=a++b) hab (by rw[aY];omega)) J<|aj 19 (.d (.sl (cuts.map eQ))) J (by rw[hcu])<|gx J<|cl (fu:=⟨1⟩) J (T9 (cuts:=cuts) hcb (by omega)) J<|aj 22 (.d (vI ((cuts.length+1:Nat):Int))) J (by rw[hmp,hgl]<;>rfl)<|gx J<|nr 8 8 4 1 J J J<|lp (X:=Nat) (fun k=>[(23, .d (vI (k:Nat))),(8, .rw 8)]) (fun k=>[(8,some (.b 4 1 ((((cp cuts).map (fun t=>oo 2 (gt a t) (gt b t))).take k).map vB) true))]) (fun k=>k<=cuts.length+1) (fun k=>cuts.length+1-k) 0 J (aM _) (fun _=>J) (fun k hk=>?_);have hml:(((((cp cuts).map (fun t=>oo 2 (gt a t) (gt b t))).take k).map vB)).length=k:=by rw[aX,bT,aX,hgl];omega
 refine br (fu2:=⟨0⟩) J J J (fun hc24=>?_) (fun hc24=>?_)
 .
  obtain⟨t,hz⟩: ∃s,(cp cuts)[k]? =some s:=⟨_,aZ (by omega)⟩;haveI:=hgb t (aK hz);have hz2:((cp cuts).map (fun t=>oo 2 (gt a t) (gt b t)))[k]? =some (oo 2 (gt a t) (gt b t)):=by rw[cY,hz];rfl
  refine ix _ J (ck hz) J<|cl J (PX (l:=a) (t:=t) ha (by omega)) J<|cl (fu:=⟨6⟩) J (PX (l:=b) (t:=t) hb (by omega)) J<|?_
  cases hx:gt a t
  .
   refine cB (fu:=⟨15⟩) J J J<|du (fu:=⟨5⟩) J J J<|cB J J J<|rf J J<|ap (fu:=⟨8⟩) ((((cp cuts).map (fun t=>oo 2 (gt a t) (gt b t))).take (k+1)).map vB) J (by rw[<-vr hz2,hx];rfl) (P2 [false]) J<|d8 59 8 J<|at_ (k+1) ⟨(by omega),(by omega)⟩
  .
   refine du (fu:=⟨15⟩) J J J<|du (fu:=⟨5⟩) J J J<|du J J J<|rf J J<|ap ((((cp cuts).map (fun t=>oo 2 (gt a t) (gt b t))).take (k+1)).map vB) J (by rw[<-vr hz2,hx];rfl) (P2 [_]) J<|d8 59 8 J<|at_ (k+1) ⟨(by omega),(by omega)⟩
 .
  obtain rfl:k=cuts.length+1:=by omega
  have htk:((cp cuts).map (fun t=>oo 2 (gt a t) (gt b t))).take (cuts.length+1)=(cp cuts).map (fun t=>oo 2 (gt a t) (gt b t)):=cZ (by rw[aX,hgl];exact bK _);rw[htk];refine oe 8 J<|gx J<|cl J (Vz (cuts:=cuts) (marks:=(cp cuts).map (fun t=>oo 2 (gt a t) (gt b t))) (by omega) (by rw[aX,hgl];exact bK _)) J<|rz J (by unfold qo;rw[<-hcu];rfl)
section
variable {C:aE}{Q0:Exit->Act->World->Prop}{fr fr':aD}{own own':aI}{cf cf':Cf}{vc:List Prop}
def aHE{dst:Option Nat}{t:TypeId}{gd:Option (Nat×Bool)}{x y:Operand}{k:IntKind}(hu:prog.underlying t=some (.array len e))(hs:(prog.info? e).map (·.size)=some s)
  (e1:bh lk x=some (.ov nm off))(e2:bh lk y=some (.d (.v (.int k (i:Nat)))))(hi:i<len):b8 prog GB C n lk bk ⟨dst, .indexAddr t x y,ty',pos,af,gd⟩ (.ov nm (off+i*s)) [] []:= .yd fun ρ G ov a w r=>by
 obtain⟨p,h1,h2⟩:=r.ev e1;obtain⟨q,h3,h4⟩:=r.ev e2;rw[c9] at h4;subst h4;obtain⟨b,hb,rfl⟩:=h2;refine⟨_,⟨b,hb,J⟩,?_⟩;obtain⟨j,hj,hjs⟩: ∃j,prog.info? e=some j/\j.size=s:=by
  cases h:prog.info? e with
  |none=>rw[h] at hs;cases hs
  |some j=>rw[h] at hs;exact⟨j,J,by simpa using hs⟩
 intro a' w' hf hh;simp only[execOp,bB hf h1,bB hf h3];have:(Instr.indexAt t (.pointer (some ⟨b,off,none⟩)) (.int k (i:Nat))).run prog w'= .ok (.pointer (some ⟨b,off+i*s,none⟩)) w':=by
  unfold Instr.indexAt;show(underlying t>>=_).run prog w'=_;rw[aP (pI hu w')];show(underlying t>>=_).run prog w'=_;rw[aP (pI hu w')];have h0:0<=((i:Nat):Int):=Int.natCast_nonneg i;have h1:((i:Nat):Int)<((len:Nat):Int):=by omega
  simp only[h0,h1,and_self,if_true];show(sizeOf e>>=_).run prog w'=_;rw[aP (vt hj w'),rp,hjs,cK];rfl
 exact c7 this
def LT(fr:aD)(cf:Cf):Option (TypeId×Nat×Nat×Int):=match c6 fr cf with
 |some ⟨_, .indexAddr t x y,_,_,_,_⟩=>match bh (cg fr cf) x with
  |some (.ov nm off)=>match bh (cg fr cf) y with
   |some (.d (.v (.int _ i)))=>some (t,nm,off,i)
   |_=>none
  |_=>none
 |_=>none
def n7[fu:Fu](i:Nat){t:Nat}(h:LT fr cf=some (t,nm,off,((i:Nat):Int)))(hu:prog.underlying t=some (.array len e))(hs:(prog.info? e).map (·.size)=some s)(hi:i<len)
  (hgo:cH tt n fu.n fr own cf (.ov nm (off+i*s)) [] []=⟨vc,fr',own',cf'⟩)(k:av prog GB C n Q0 fr' own' cf')
  (hv:autoParam (ak vc) cL._auto_1):av prog GB C n Q0 fr own cf:=by
 unfold LT at h;split at h<;>try (cases h;done)
 rename_i hh;split at h<;>try (cases h;done)
 rename_i hx;split at h<;>cases h;rename_i hy;exact us hh (aHE hu hs hx hy hi) hgo hv k
def XJ{e t:TypeId}{gd:Option (Nat×Bool)}{ps:List (Nat×Operand)}{fo:List (Nat×Nat×Nat)}{i:TI}(hi:eO prog t=some i)(hk:i.k= .st fo)(hz:i.z=some z)
  (hb:tw lk fo z ps=some zx)(h0:zx[k]? =some .nl)(h1:jl (zx.take k)=some pre)(h2:jl (zx.drop (k+1))=some post):b8 prog GB C n lk bk ⟨some d, .build t ⟨ps⟩,ty',pos,af,gd⟩ (.bx false pre d post) [(d,some (.b e s [] true))] [d]:=by
 intro hd tl tb K' s1 s2 hf hk';refine⟨fun ρ G ov a w r Q=>?_⟩;obtain⟨v,hv,hv'⟩:=BV hi hz;have:=Lh hi hk;have hsp:zx=zx.take k++ .nl::zx.drop (k+1):=by
  obtain⟨hk1,hk2⟩:=aR.1 h0
  conv=>lhs;rw[<-kX k zx,bX hk1,hk2]
 obtain⟨l,h1',h2'⟩:=EA (r.mono s1 s2) (fo:=fo) ps _ _ _ hb (hv' ρ G);rw[hsp] at h2';obtain⟨m1,m2',rfl,k1,y,m2,rfl,k2,k3⟩:=Pt h2'
 cases (show y= .slice none 0 0 from k2)
 have hy:Yd prog C (cw a) ov G ⟨some d, .build t ⟨ps⟩,ty',pos,af,gd⟩ (.agg ⟨m1++Value.slice none 0 0::m2⟩):=wM h1';have r3:=r.new' (x:=⟨none,0,0⟩) (B':= .b e s [] true) (os:=[]) (ov':=ov) (f:= .bx false pre d post) (y:= .agg ⟨m1++Value.slice none 0 0::m2⟩) hf (bP.refl G) r.h
  ⟨[],by simp only[if_true];exact .inl ⟨J,J,J⟩, .nil,by simp,fun _ o ho=>by cases ho⟩ (fun o ho=>by cases ho) (fun m B _ _ o ho _=>⟨ho,by simp⟩)
  ⟨m1,m2,by simp,rx k1 h1,rx k3 h2⟩ (r.putA _ hd)
 exact kw (hy a w (cG a) r.h) (hk'.run _ G ov _ w r3)
def N1(fr:aD)(cf:Cf):Option (Nat×List FX):=match c6 fr cf with
 |some ⟨some d, .build t ⟨ps⟩,_,_,_,_⟩=>match d6 tt t with
  |some ⟨.st fo,_,some zx,_⟩=>match tw (cg fr cf) fo zx ps with
   |some l=>some (d,l)
   |none=>none
  |_=>none
 |_=>none
def bzp[fu:Fu](e s kk:Nat)(pre post:List DV)(h:N1 fr cf=some (d,zx))(h0:zx[kk]? =some .nl)(h1:jl (zx.take kk)=some pre)(h2:jl (zx.drop (kk+1))=some post)(hgo:cH tt n fu.n fr own cf (.bx false pre d post) [(d,some (.b e s [] true))] [d]=⟨vc,fr',own',cf'⟩)(k:av prog GB C n Q0 fr' own' cf')
  (hv:autoParam (ak vc) cL._auto_1):av prog GB C n Q0 fr own cf:=by
 unfold N1 at h;split at h<;>try (cases h;done)
 rename_i hh;split at h<;>try (cases h;done)
 rename_i hT;split at h<;>cases h;rename_i hb;exact us hh (XJ (ez _ _ hT) J J hb h0 h1 h2) hgo hv k
end
def XN(f:bw)(m:aa)(k:Nat):List bw:=if k=0 then [] else fk f m 1
def TP(f:bw)(m:aa)(k:Nat):List bw:=if k<=1 then [] else fk f m (-1)
def Qr(hl:LB l)(hm:LB m)(hlo:l.ok): ∀v∈jk l m side,nf v:=fun v hv=>⟨(HC hl hm hlo v hv).2.1,(HC hl hm hlo v hv).2.2⟩
def z8:(jk l m side).length<=1:=by
 unfold jk;split
 .split<;>simp
 .split<;>simp
def Sa(op:Int)(a b:List ar):(qo op a b).length<=2*(a.length+b.length)+1:=by
 unfold qo wm;refine cM IJ ?_;rw[aX,y9];have:=Gm (a++b);rw[aY] at this;omega
def V1(h:px f)[hm:LB m](hmo:m.ok):PF GB prog 230 [fp f,eL m] (.tp [.sl ((fk f m 1).map fp), .sl ((fk f m (-1)).map fp)]):=by
 haveI:=h.lb;refine fn func230 J J ntmps230 J J (fun C=>?_);refine rf (fu:=⟨1⟩) J J<|aj 14 (.d (vI (2:Nat))) J J<|gx J<|Hm 6 0 60 274 14 J J J J J<|Hm 6 1 61 274 14 J J J J J<|lp (X:=Nat) (fun k=>[(15, .d (vI (k:Nat))),(6, .ov 6 0)]) (fun k=>[(6,some (.o 381 [.rw 60, .rw 61] true)),(60,some (.b 274 14 ((XN f m k).map fp) true)),(61,some (.b 274 14 ((TP f m k).map fp) true))]) (fun k=>k<=2) (fun k=>2-k) 0 J (by omega) (fun _=>J) (fun k hk=>?_);refine br J J J (fun hc16=>?_) (fun hc16=>?_)
 .
  rcases(show k=0\/k=1 by omega) with rfl|rfl
  .
   refine ix _ J J J<|cl (fu:=⟨0⟩) J (N9 (l:=f.l) (m:=m) (side:=1) h.ok hmo (.inl J)) J<|?_;obtain⟨cs,hcs⟩: ∃c,c=qo 2 [f.v] (jk f.l m 1):=⟨_,rfl⟩;have hcl:cs.length<=5:=by rw[hcs];have h1:=Sa 2 [f.v] (jk f.l m 1);have h2:=z8 (l:=f.l) (m:=m) (side:=1);simp only[fZ] at h1;omega
   refine aj 25 (.d (.tp [.sl ((jk f.l m 1).map eV),vB (my f.l m)])) J J<|gx J<|bb J J J (fun hc28=>?_) (fun hc28=>?_)
   .
    have hon:my f.l m=true:=hc28;exact rz J (by first|(unfold fk;rw[if_pos hon,if_pos hon];rfl)|rfl)
   .
    have hon:my f.l m=false:=by simpa using hc28
    refine rf J J<|cl (fu:=⟨0⟩) J (KY (a:=[f.v]) (b:=jk f.l m 1) (fun v hv=>by rw[aU] at hv;subst hv;exact⟨h.lo,h.hi⟩) (Qr h.lb hm h.ok) (by show 1<=100;decide) (by have:=z8 (l:=f.l) (m:=m) (side:=1);omega)) J<|aj 33 (.d (.sl (cs.map eV))) J (by rw[hcs])<|gx (fu:=⟨1⟩) J<|aj 34 (.d (vI (cs.length:Nat))) J (by rw[eo eV cs]<;>rfl)<|gx J<|lp (X:=Nat) (fun j=>[(35, .d (vI (j:Nat)))]) (fun j=>[(60,some (.b 274 14 (((cs.take j).map fun v=>(⟨f.l,v⟩:bw)).map fp) true))]) (fun j=>j<=cs.length) (fun j=>cs.length-j) 0 J (aM _) (fun _=>J) (fun j hk=>?_);have hml:(((cs.take j).map fun v=>(⟨f.l,v⟩:bw)).map fp).length<=j:=by rw[aX,aX,bT];omega
    refine br J J J (fun hc36=>?_) (fun hc36=>?_)
    .
     obtain⟨z,hz⟩: ∃s,cs[j]? =some s:=⟨_,aZ (by omega)⟩;refine ix _ J (ck hz) J<|n7 0 (e:=269) (len:=2) (s:=1) J (by kernel_rfl) (by kernel_rfl) (by decide) J<|rf J J<|ap (((cs.take (j+1)).map fun v=>(⟨f.l,v⟩:bw)).map fp) J (by rw[<-vr hz,aS];rfl) (xO [⟨f.l,z⟩]) J<|n7 (hv:=by simp only[ak];exact⟨by kernel_rfl,by omega⟩) 0 (e:=269) (len:=2) (s:=1) J (by kernel_rfl) (by kernel_rfl) (by decide) J<|d8 48 60 J<|at_ (j+1) ⟨(by omega),(by omega)⟩
    .
     obtain rfl:j=cs.length:=by omega
     rw[show(cs.take cs.length).map (fun v=>(⟨f.l,v⟩:bw))=fk f m 1 from by rw[cS];unfold fk;rw[if_neg (by rw[hon];decide),<-hcs]];exact at_ (0+1) ⟨(by omega),(by omega)⟩
  .
   refine ix _ J J J<|cl (fu:=⟨0⟩) J (N9 (l:=f.l) (m:=m) (side:= -1) h.ok hmo (.inr J)) J<|?_;obtain⟨cs,hcs⟩: ∃c,c=qo 2 [f.v] (jk f.l m (-1)):=⟨_,rfl⟩;have hcl:cs.length<=5:=by rw[hcs];have h1:=Sa 2 [f.v] (jk f.l m (-1));have h2:=z8 (l:=f.l) (m:=m) (side:=(-1));simp only[fZ] at h1;omega
   refine aj 25 (.d (.tp [.sl ((jk f.l m (-1)).map eV),vB (my f.l m)])) J J<|gx J<|bb J J J (fun hc28=>?_) (fun hc28=>?_)
   .
    have hon:my f.l m=true:=hc28;exact rz J (by first|(unfold fk;rw[if_pos hon,if_pos hon];rfl)|rfl)
   .
    have hon:my f.l m=false:=by simpa using hc28
    refine rf J J<|cl (fu:=⟨0⟩) J (KY (a:=[f.v]) (b:=jk f.l m (-1)) (fun v hv=>by rw[aU] at hv;subst hv;exact⟨h.lo,h.hi⟩) (Qr h.lb hm h.ok) (by show 1<=100;decide) (by have:=z8 (l:=f.l) (m:=m) (side:=(-1));omega)) J<|aj 33 (.d (.sl (cs.map eV))) J (by rw[hcs])<|gx (fu:=⟨1⟩) J<|aj 34 (.d (vI (cs.length:Nat))) J (by rw[eo eV cs]<;>rfl)<|gx J<|lp (X:=Nat) (fun j=>[(35, .d (vI (j:Nat)))]) (fun j=>[(61,some (.b 274 14 (((cs.take j).map fun v=>(⟨f.l,v⟩:bw)).map fp) true))]) (fun j=>j<=cs.length) (fun j=>cs.length-j) 0 J (aM _) (fun _=>J) (fun j hk=>?_);have hml:(((cs.take j).map fun v=>(⟨f.l,v⟩:bw)).map fp).length<=j:=by rw[aX,aX,bT];omega
    refine br J J J (fun hc36=>?_) (fun hc36=>?_)
    .
     obtain⟨z,hz⟩: ∃s,cs[j]? =some s:=⟨_,aZ (by omega)⟩;refine ix _ J (ck hz) J<|n7 1 (e:=269) (len:=2) (s:=1) J (by kernel_rfl) (by kernel_rfl) (by decide) J<|rf J J<|ap (((cs.take (j+1)).map fun v=>(⟨f.l,v⟩:bw)).map fp) J (by rw[<-vr hz,aS];rfl) (xO [⟨f.l,z⟩]) J<|n7 (hv:=by simp only[ak];exact⟨by kernel_rfl,by omega⟩) 1 (e:=269) (len:=2) (s:=1) J (by kernel_rfl) (by kernel_rfl) (by decide) J<|d8 48 61 J<|at_ (j+1) ⟨(by omega),(by omega)⟩
    .
     obtain rfl:j=cs.length:=by omega
     rw[show(cs.take cs.length).map (fun v=>(⟨f.l,v⟩:bw))=fk f m (-1) from by rw[cS];unfold fk;rw[if_neg (by rw[hon];decide),<-hcs]];exact at_ (1+1) ⟨(by omega),(by omega)⟩
 .
  obtain rfl:k=2:=by omega
  refine n7 0 (e:=269) (len:=2) (s:=1) J (by kernel_rfl) (by kernel_rfl) (by decide) J<|n7 1 (e:=269) (len:=2) (s:=1) J (by kernel_rfl) (by kernel_rfl) (by decide) J<|gm 60 J<|gm 61 J<|rz J (by first|(unfold fk;rw[if_pos hon,if_pos hon];rfl)|rfl)
def pe(p:ZP):DV:=eP p.q
def jg(r:List ZP):DV:= .sl (r.map pe)
def aGG(l:List (List ZP)):cO 1 (l.map jg):=fun d hd=>by
 obtain⟨u,_,rfl⟩:=aT.1 hd;exact⟨rfl,rfl⟩
def Bl(h:i<r.length):(r.map pe)[((i:Nat):Int).toNat]? =some (pe (r.getD i (0,0))):=by
 rw[cK,cY,aV,aZ h];rfl
def JC(h:i<r.length):(r.map pe)[(((i+1)%r.length:Nat):Int).toNat]? =some (pe (i7 r i)):=Bl (dV _ (by omega))
def aHg(v w p:ah):(sG v w p).natAbs<=1:=by
 unfold sG;split<;>split<;>decide
def Dg(r:List ZP)(p:ah): ∀k,(qn r p k).natAbs<=k
 |0=>bK _
 |k+1=>by rw[qn];have:=Dg r p k;have:=aHg (r.getD k (0,0)).q (i7 r k).q p;omega
def Mg(h:eD r):PF GB prog 159 [.sl (r.map pe)] (.sl ((jF r).map fp)):=by
 have hm:=eo pe r;have h3:=h.n3;have h6:=h.n6;refine fn (fu:=⟨15⟩) func159 J J ntmps159 J J (fun C=>?_);refine aj 8 (.d (vI (r.length:Nat))) J (by rw[hm]<;>rfl)<|gx J<|nr 3 3 274 14 J J J<|lp (X:=Nat) (fun k=>[(9, .d (vI (k:Nat))),(3, .rw 3)]) (fun k=>[(3,some (.b 274 14 ((qa r k).map fp) true))]) (fun k=>k<=r.length) (fun k=>r.length-k) 0 J (aM _) (fun _=>J) (fun k hk=>?_);have hel:=fun hh=>(Ja (k:=k) h hh).1;refine br J J J (fun hc10=>?_) (fun hc10=>?_)
 .
  have hkr:k<r.length:=by omega
  have hel:=hel (by omega);have hem:=eo fp (qa r k);refine ix (fu:=⟨7⟩) _ J (Bl hkr) J<|aj 22 (.d (vI ((k+1)%r.length:Nat))) J (by rw[hm]<;>rfl)<|gx J<|ix _ J (JC hkr) J<|cl J (auv (v:=r.getD k (0,0)) (w:=i7 r k) (h.le _ (uI hkr)) (h.le _ (wZ hkr)) (h.ne k hkr)) J<|rf J J<|ap ((qa r (k+1)).map fp) J (by rw[qa,aS];rfl) (xO [C9 (r.getD k (0,0)) (i7 r k)]) J<|d8 31 3 J<|at_ (k+1) ⟨(by omega),(by omega)⟩
 .
  obtain rfl:k=r.length:=by omega
  refine gm 3 J<|rz J J
def Zo[hp:aC p i](h:eD r)(hi:i<=80000:=by decide):PF GB prog 283 [.sl (r.map pe),eP p] (vI (tA r p)):=by
 have hm:=eo pe r;have h3:=h.n3;have h6:=h.n6;refine fn (fu:=⟨16⟩) func283 J J ntmps283 J J (fun C=>?_);refine aj 12 (.d (vI (r.length:Nat))) J (by rw[hm]<;>rfl)<|gx J<|lp (X:=Nat×Int) (fun⟨k,c⟩=>[(13, .d (vI (k:Nat))),(5, .d (vI c))]) (fun⟨k,c⟩=>[]) (fun⟨k,c⟩=>c=qn r p k/\k<=r.length) (fun⟨k,c⟩=>r.length-k) (0,0) J ⟨J,aM _⟩ (fun _=>J) (fun⟨k,c⟩ hk=>?_);dsimp only at hk⊢;obtain⟨h1,h2⟩:=hk;have hcl:c.natAbs<=k:=by rw[h1];exact Dg r p k
 refine br J J J (fun hc14=>?_) (fun hc14=>?_)
 .
  have hkr:k<r.length:=by omega
  obtain⟨v,hv⟩: ∃v,v=r.getD k (0,0):=⟨_,rfl⟩;obtain⟨w,hw⟩: ∃v,v=i7 r k:=⟨_,rfl⟩;haveI hvb:aC v.q 12:=by rw[hv];exact uP (h.le _ (uI hkr))
  haveI hwb:aC w.q 12:=by rw[hw];exact uP (h.le _ (wZ hkr))
  refine ix (fu:=⟨1⟩) _ J (Bl hkr) J<|aj 19 (.d (eP v.q)) J (by rw[hv];rfl)<|gx (fu:=⟨6⟩) J<|aj 25 (.d (vI ((k+1)%r.length:Nat))) J (by rw[hm]<;>rfl)<|gx J<|ix (fu:=⟨1⟩) _ J (JC hkr) J<|aj 27 (.d (eP w.q)) J (by rw[hw];rfl)<|gx J<|cl J (ku (a:=v.q.y) (b:=p.y) (i:=12) (j:=i) (by decide) (by omega)) J<|cl (fu:=⟨9⟩) J (ku (a:=w.q.y) (b:=p.y) (i:=12) (j:=i) (by decide) (by omega)) J<|?_;rcases(show(bA v.q.y p.y<=0/\bA w.q.y p.y<=0)\/(bA v.q.y p.y<=0/\ ¬bA w.q.y p.y<=0)\/(¬bA v.q.y p.y<=0/\bA w.q.y p.y<=0)\/(¬bA v.q.y p.y<=0/\ ¬bA w.q.y p.y<=0) by omega) with⟨ca,cb⟩|⟨ca,cb⟩|⟨ca,cb⟩|⟨ca,cb⟩
  .
   refine du (fu:=⟨3⟩) J (by show some (decide _)=some true;rw[decide_eq_true (by omega)]) J<|cB (fu:=⟨15⟩) J (by show some (decide _)=some false;rw[decide_eq_false (by omega)]) J<|cB (fu:=⟨20⟩) J (by show some (decide _)=some false;rw[decide_eq_false (by omega)]) J<|at_ (k+1,c) (by dsimp only;exact⟨⟨by rw[qn,<-h1,<-hv,<-hw];unfold sG;split<;>split<;>omega,by omega⟩,(by omega)⟩)
  .
   refine du (fu:=⟨3⟩) J (by show some (decide _)=some true;rw[decide_eq_true (by omega)]) J<|du J (by show some (decide _)=some true;rw[decide_eq_true (by omega)]) J<|cl J (IX (a:=v.q) (b:=w.q) (c:=p) (i:=12) (j:=12) (k:=i) (by decide) (by decide) hi) J<|br (fu1:=⟨10⟩) (fu2:=⟨6⟩) J J J (fun hc51=>?_) (fun hc51=>?_)
   .
    refine cB J (by show some (decide _)=some false;rw[decide_eq_false (by omega)]) J<|at_ (k+1,c+1) (by dsimp only;exact⟨⟨by rw[qn,<-h1,<-hv,<-hw];unfold sG;split<;>split<;>omega,by omega⟩,(by omega)⟩)
   .
    refine cB (fu:=⟨20⟩) J (by show some (decide _)=some false;rw[decide_eq_false (by omega)]) J<|at_ (k+1,c) (by dsimp only;exact⟨⟨by rw[qn,<-h1,<-hv,<-hw];unfold sG;split<;>split<;>omega,by omega⟩,(by omega)⟩)
  .
   refine cB (fu:=⟨19⟩) J (by show some (decide _)=some false;rw[decide_eq_false (by omega)]) J<|du (fu:=⟨2⟩) J (by show some (decide _)=some true;rw[decide_eq_true (by omega)]) J<|du J (by show some (decide _)=some true;rw[decide_eq_true (by omega)]) J<|cl J (IX (a:=v.q) (b:=w.q) (c:=p) (i:=12) (j:=12) (k:=i) (by decide) (by decide) hi) J<|br (fu2:=⟨8⟩) J J J (fun hc65=>?_) (fun hc65=>?_)
   .
    exact at_ (k+1,c-1) (by dsimp only;exact⟨⟨by rw[qn,<-h1,<-hv,<-hw];unfold sG;split<;>split<;>omega,by omega⟩,(by omega)⟩)
   .
    exact at_ (k+1,c) (by dsimp only;exact⟨⟨by rw[qn,<-h1,<-hv,<-hw];unfold sG;split<;>split<;>omega,by omega⟩,(by omega)⟩)
  .
   refine cB (fu:=⟨19⟩) J (by show some (decide _)=some false;rw[decide_eq_false (by omega)]) J<|du (fu:=⟨2⟩) J (by show some (decide _)=some true;rw[decide_eq_true (by omega)]) J<|cB J (by show some (decide _)=some false;rw[decide_eq_false (by omega)]) J<|at_ (k+1,c) (by dsimp only;exact⟨⟨by rw[qn,<-h1,<-hv,<-hw];unfold sG;split<;>split<;>omega,by omega⟩,(by omega)⟩)
 .
  obtain rfl:k=r.length:=by omega
  have hfin:tA r p=c:=h1.symm;exact rz J (by rw[hfin];rfl)
def auR{n:Int}(hn:n.natAbs<=1000):PF GB prog 284 [vI fill,vI n] (vB (wc fill n)):=by
 refine fn func284 J J ntmps284 J J (fun C=>?_);refine cs 7 J J J (fun hg7=>?_) (fun hg7=>?_)
 .
  refine cs 12 J J J (fun hg12=>?_) (fun hg12=>?_)
  .
   exact rz J (by show vB _=vB _;unfold wc;congr 1;simp_all)
  .
   refine cs 15 J J J (fun hg15=>?_) (fun hg15=>?_)
   .
    exact rz J (by show vB _=vB _;unfold wc;congr 1;simp_all)
   .
    exact rz J (by show vB _=vB _;unfold wc;congr 1;simp_all)
 .
  refine cs 15 J J J (fun hg15=>?_) (fun hg15=>?_)
  .
   exact rz J (by show vB _=vB _;unfold wc;congr 1;simp_all)
  .
   exact rz J (by show vB _=vB _;unfold wc;congr 1;simp_all)
def J1(rs:List (List ZP)):List aa:=(iB rs).map bw.l
def wg(rs:List (List ZP))(fill:Int):DV:= .ag [.sl (rs.map jg), .v (.int .i64 fill), .sl ((mH (J1 rs)).map eL)]
def VB(h: ∀r∈rs,eD r)(k:Nat):((rs.take k).foldl (fun n r=>n+tA r p) 0).natAbs<=6*k:=by
 induction k with
 |zero=>rw[tN];exact aM _
 |succ k ih=>
  rw[dZ,lN]
  cases e:rs[k]? with
  |none=>exact cM ih (by omega)
  |some r=>
   have h1:(tA r p).natAbs<=r.length:=Dg r p r.length;have h2:=(h r (aK e)).n6;show(List.foldl _ 0 (rs.take k)+tA r p).natAbs<=_;omega
def XY[hp:aC p i](h: ∀r∈rs,eD r)(hn:rs.length<=100)(hi:i<=80000:=by decide):PF GB prog 229 [wg rs fill,eP p] (vB (mG rs fill p)):=by
 have hm:=eo jg rs;refine fn (fu:=⟨18⟩) func229 J J ntmps229 J J (fun C=>?_);refine aj 10 (.d (vI (rs.length:Nat))) J (by rw[hm]<;>rfl)<|gx J<|lp (X:=Nat×Int) (fun⟨k,c⟩=>[(11, .d (vI (k:Nat))),(5, .d (vI c))]) (fun⟨k,c⟩=>[]) (fun⟨k,c⟩=>c=(rs.take k).foldl (fun n r=>n+tA r p) 0/\k<=rs.length) (fun⟨k,c⟩=>rs.length-k) (0,0) J ⟨by rw[tN];rfl,aM _⟩ (fun _=>J) (fun⟨k,c⟩ hk=>?_);dsimp only at hk⊢;obtain⟨h1,h2⟩:=hk;have hcl:c.natAbs<=6*k:=by rw[h1];exact VB h k
 refine br J J J (fun hc12=>?_) (fun hc12=>?_)
 .
  obtain⟨r,hz⟩: ∃s,rs[k]? =some s:=⟨_,aZ (by omega)⟩;have hr:=h r (aK hz);have hnz:(tA r p).natAbs<=6:=cM (Dg r p r.length) hr.n6;refine ix _ J (ck hz) J<|cl J (Zo (r:=r) (p:=p) hr hi) J<|at_ (k+1,c+tA r p) (by dsimp only;exact⟨⟨by rw[dZ,hz,lN,<-h1];rfl,by omega⟩,(by omega)⟩)
 .
  obtain rfl:k=rs.length:=by omega
  rw[cS] at h1;refine cl J (auR (fill:=fill) (n:=c) (by omega)) J<|rz J (by unfold mG;rw[<-h1];rfl)
def lz(r:List ZP):DV:= .sl ((r.map ZP.q).map n9)
def aGW(l:List (List ZP)):cO 1 (l.map lz):=fun d hd=>by
 obtain⟨u,_,rfl⟩:=aT.1 hd;exact⟨rfl,rfl⟩
theorem Pj(h: ∀p∈r,ZP.le 100 p): ∀p∈r.map ZP.q,aC p 1200:=fun p hp=>by
 obtain⟨z,hz,rfl⟩:=aT.1 hp;have:=uP (h z hz);exact⟨BQ.mono this.x,BQ.mono this.y⟩
def AW(r:List ZP):DV.sl ((r.map ZP.q).map eP)=jg r:=by unfold jg;rw[qQ];rfl
def R6(h:rs[k]? =some r):iB (rs.take (k+1))=iB (rs.take k)++jF r:=by
 unfold iB;rw[dZ,h,qY];simp
def KH(h: ∀r∈rs,eD r)(k:Nat):(iB (rs.take k)).length<=6*k:=by
 have:=(w6 (rs:=rs.take k) (fun r hr=>h r (eM hr))).1;have h2:(rs.take k).length<=k:=by rw[bT];omega
 omega
def X9(h: ∀r∈rs,eD r)(hn:rs.length<=100):PF GB prog 87 [.sl (rs.map lz), .v (.int .i64 fill)] (wg rs fill):=by
 have hm:=eo lz rs;refine fn (fu:=⟨8⟩) func87 J J ntmps87 J J (fun C=>?_);refine bzp (fu:=⟨14⟩) 27 1 0 [] [.v (.int .i64 fill), .sl []] J J J J J<|aj 15 (.d (vI (rs.length:Nat))) J (by rw[hm]<;>rfl)<|gx J<|nr 6 6 55 6 J J J<|lp (X:=Nat) (fun k=>[(16, .d (vI (k:Nat))),(6, .rw 6),(5, .ov 5 0)]) (fun k=>[(5,some (.o 168 [.rw 13, .d (.v (.int .i64 fill)), .d (.sl [])] true)),(13,some (.b 27 1 ((rs.take k).map jg) true)),(6,some (.b 55 6 (((iB (rs.take k)).map bw.l).map eL) true))]) (fun k=>k<=rs.length) (fun k=>rs.length-k) 0 J (aM _) (fun _=>J) (fun k hk=>?_);refine br (fu2:=⟨0⟩) J J J (fun hc17=>?_) (fun hc17=>?_)
 .
  obtain⟨r,hz⟩: ∃s,rs[k]? =some s:=⟨_,aZ (by omega)⟩;have hr:=h r (aK hz);have hel:(jF r).length<=6:=by have:=(Ap hr).1;have:=hr.n6;omega
  have het:=KH h k;have hrl:((rs.take k).map jg).length=k:=by rw[aX,bT];omega
  refine ix _ J (ck hz) J<|cl (fu:=⟨0⟩) J (Ur (ps:=r.map ZP.q) (Pj hr.le) (by rw[aX];have:=hr.n6;omega)) J<|aj 21 (.d (jg r)) J (by rw[AW])<|gx J<|rf J J<|ap ((rs.take (k+1)).map jg) J (vr hz) (aGG [r]) J<|cl (fu:=⟨1⟩) J (Mg (r:=r) hr) J<|aj 30 (.d (vI ((jF r).length:Nat))) J (by rw[eo fp (jF r)]<;>rfl)<|gx J<|?_;rw[<-fR (iB (rs.take k)),<-tN (l:=jF r)];refine lp (X:=Nat) (fun j=>[(31, .d (vI (j:Nat))),(6, .rw 6)]) (fun j=>[(6,some (.b 55 6 (((iB (rs.take k)++(jF r).take j).map bw.l).map eL) true))]) (fun j=>j<=(jF r).length) (fun j=>(jF r).length-j) 0 J (aM _) (fun _=>J) (fun j hk=>?_);have hml:(((iB (rs.take k)++(jF r).take j).map bw.l).map eL).length<=6*k+6:=by rw[aX,aX,aY,bT];omega
  refine br J J J (fun hc32=>?_) (fun hc32=>?_)
  .
   obtain⟨e,he⟩: ∃s,(jF r)[j]? =some s:=⟨_,aZ (by omega)⟩;refine ix _ J (ck he) J<|rf J J<|ap (((iB (rs.take k)++(jF r).take (j+1)).map bw.l).map eL) J (by rw[dZ,he];simp only[aS,dW];rfl) (eu [e.l]) J<|d8 39 6 J<|at_ (j+1) ⟨(by omega),(by omega)⟩
  .
   obtain rfl:j=(jF r).length:=by omega
   rw[cS,<-R6 hz];refine d8 26 13 J<|at_ (k+1) ⟨(by omega),(by omega)⟩
 .
  obtain rfl:k=rs.length:=by omega
  rw[cS];refine oe 6 rfl<|oe 13 rfl<|gx rfl<|cl rfl (PC (ls:=J1 rs) (fun l hl=>by obtain⟨f,hf,rfl⟩:=aT.1 hl;exact((w6 h).2 f hf).lb) (by unfold J1;rw[aX];have:=(w6 h).1;omega)) rfl<|rz J J
def Z6(h: ∀r∈rs,eD r)(hn:rs.length<=100):PF GB prog 88 [.sl (rs.map jg)] (.sl (rs.map lz)):=by
 have hm:=eo jg rs;refine fn (fu:=⟨15⟩) func88 J J ntmps88 J J (fun C=>?_);refine aj 7 (.d (vI (rs.length:Nat))) J (by rw[hm]<;>rfl)<|gx J<|nr 3 3 93 1 J J J<|lp (X:=Nat) (fun k=>[(8, .d (vI (k:Nat))),(3, .rw 3)]) (fun k=>[(3,some (.b 93 1 ((rs.take k).map lz) true))]) (fun k=>k<=rs.length) (fun k=>rs.length-k) 0 J (aM _) (fun _=>J) (fun k hk=>?_);have hml:((rs.take k).map lz).length<=k:=by rw[aX,bT];omega
 refine br J J J (fun hc9=>?_) (fun hc9=>?_)
 .
  obtain⟨r,hz⟩: ∃s,rs[k]? =some s:=⟨_,aZ (by omega)⟩;have hr:=h r (aK hz);refine ix (fu:=⟨1⟩) _ J (ck hz) J<|aj 11 (.d (.sl ((r.map ZP.q).map eP))) J (by rw[AW])<|gx J<|cl J (Qc (ps:=r.map ZP.q) (Pj hr.le) (by rw[aX];have:=hr.n6;omega)) J<|rf J J<|ap ((rs.take (k+1)).map lz) J (vr hz) (aGW [r]) J<|d8 16 3 J<|at_ (k+1) ⟨(by omega),(by omega)⟩
 .
  obtain rfl:k=rs.length:=by omega
  refine gm 3 J<|rz J (by rw[cS];rfl)
def anJ(out:List aa)(l:aa):(pp out l).length<=out.length+1:=by
 unfold pp;split
 .omega
 .simp;omega
def Rq(c:List aa): ∀(t out:List aa),(mE c t out).length<=out.length+t.length
 |[],out=>by simp[mE]
 |l::t,out=>by
  rw[mE];refine cM (Rq c t _) ?_;have:=anJ out l;split<;>simp<;>omega
def oO(c:List aa):(ce c).length<=c.length:=cM (Rq c c []) (by simp)
theorem Cj(h: ∀m∈c,LB m): ∀m∈ce c,LB m:=fun m hm=>h m (jw.1 hm).1
def DL(h: ∀m∈c,m.ok): ∀m∈ce c,m.ok:=fun m hm=>h m (jw.1 hm).1
def CE(hc: ∀m∈c,LB m)(hok: ∀m∈c,m.ok)(hn:c.length<=900)(hl:LB l)(hlo:l.ok):PF GB prog 109 [.sl (c.map eL),eL l] (.sl ((ce (c++[l])).map eL)):=by
 have hcl:=vV c;refine fn func109 J J ntmps109 J J (fun C=>?_);refine oE J J<|ap (c.map eL) J J (eu _) J<|rf J J<|jC ((c++[l]).map eL) J (by rw[aS];rfl) (eu [l]) J<|cl J (BX (c:=c++[l]) (so hc hl) (i9 hok hlo) (by simp;omega)) J<|rz J J
def azC:PF GB prog 108 [eL l,eT (.node l1 x y),eT u] (eT (.node l (.node l1 x y) u)):=by
 refine fn (fu:=⟨12⟩) func108 J J ntmps108 J J (fun C=>?_);refine cB J J J<|gm 33 J<|rz J J
def U3{p:Bool}:PF GB prog 108 [eL l,eT (.leaf p),eT (.node l1 x y)] (eT (.node l (.leaf p) (.node l1 x y))):=by
 refine fn (fu:=⟨12⟩) func108 J J ntmps108 J J (fun C=>?_);refine du (fu:=⟨4⟩) J J J<|cB J J J<|gm 33 J<|rz J J
def T3{p:Bool}:PF GB prog 108 [eL l,eT (.leaf p),eT (.leaf q)] (eT (Tr.joinQ l (.leaf p) (.leaf q))):=by
 refine fn (fu:=⟨12⟩) func108 J J ntmps108 J J (fun C=>?_);refine du (fu:=⟨4⟩) J J J<|du J J J<|bd J J J (fun hc27=>?_) (fun hc27=>?_)
 .
  exact rz J (by rw[show Tr.joinQ l (.leaf p) (.leaf q)= .leaf p by simp[Tr.joinQ,Tr.isLeaf,Tr.code,hc27]];rfl)
 .
  refine gm 33 J<|rz J (by rw[show Tr.joinQ l (.leaf p) (.leaf q)= .node l (.leaf p) (.leaf q) by simp[Tr.joinQ,Tr.isLeaf,Tr.code,hc27]];rfl)
def OK: ∀{x y:Tr},PF GB prog 108 [eL l,eT x,eT y] (eT (Tr.joinQ l x y))
 | .leaf _, .leaf _=>T3
 | .leaf _, .node .. =>U3
 | .node ..,_=>azC
def aiB:PF GB prog 83 [eT (.leaf b), .sl (c.map eL)] (eT (Tr.restrictL (.leaf b) c)):=by
 refine fn (fu:=⟨11⟩) func83 J J ntmps83 J J (fun C=>?_);refine du J J J<|rz J J
def YM(hl:LB l)(hlo:l.ok)(hc: ∀m∈c,LB m)(hok: ∀m∈c,m.ok)(hn:c.length+(Tr.node l x y).depth<=900)(ihx: ∀{c:List aa},(∀m∈c,LB m)->(∀m∈c,m.ok)->c.length+x.depth<=900->PF GB prog 83 [eT x, .sl (c.map eL)] (eT (Tr.restrictL x c)))(ihy: ∀{c:List aa},(∀m∈c,LB m)->(∀m∈c,m.ok)->c.length+y.depth<=900->PF GB prog 83 [eT y, .sl (c.map eL)] (eT (Tr.restrictL y c))):PF GB prog 83 [eT (.node l x y), .sl (c.map eL)] (eT (Tr.restrictL (.node l x y) c)):=by
 have hdp:(Tr.node l x y).depth=1+Nat.max x.depth y.depth:=J;have hdx:x.depth<=Nat.max x.depth y.depth:=pJ _ _;have hdy:y.depth<=Nat.max x.depth y.depth:=oS _ _;have hca:=oO (c++[l]);have hcb:=oO (c++[l.rev]);rw[aY,fZ] at hca hcb;refine fn (fu:=⟨11⟩) func83 J J ntmps83 J J (fun C=>?_);refine cB J J J<|cl J (Qq (c:=c) (l:=l) hc hok (by omega) hl hlo) J<|br J J J (fun hc16=>?_) (fun hc16=>?_)
 .
  refine cl J (ihx hc hok (by omega)) J<|rz J (by rw[Tr.restrictL,if_pos hc16];rfl)
 .
  refine br J J J (fun hc24=>?_) (fun hc24=>?_)
  .
   refine cl J (ihy hc hok (by omega)) J<|rz J (by rw[Tr.restrictL,if_neg hc16,if_pos hc24];rfl)
  .
   refine cl J (CE (c:=c) (l:=l) hc hok (by omega) hl hlo) J<|cl J (ihx (c:=ce (c++[l])) (Cj (so hc hl)) (DL (i9 hok hlo)) (by omega)) J<|cl J (vX (l:=l)) J<|cl J (CE (c:=c) (l:=l.rev) hc hok (by omega) hl.rev hlo.rev) J<|cl J (ihy (c:=ce (c++[l.rev])) (Cj (so hc hl.rev)) (DL (i9 hok hlo.rev)) (by omega)) J<|cl J OK J<|rz J (by rw[Tr.restrictL,if_neg hc16,if_neg hc24];rfl)
def E8: ∀{t:Tr} {c:List aa},t.all LB->t.all aa.ok->(∀m∈c,LB m)->(∀m∈c,m.ok)->c.length+t.depth<=900->PF GB prog 83 [eT t, .sl (c.map eL)] (eT (Tr.restrictL t c))
 | .leaf _,_,_,_,_,_,_=>aiB
 | .node l x y,c,hb,ho,hc,hok,hn=>YM hb.1 ho.1 hc hok hn (fun h1 h2 h3=>E8 hb.2.1 ho.2.1 h1 h2 h3) (fun h1 h2 h3=>E8 hb.2.2 ho.2.2 h1 h2 h3)

def Om(xs ys:List NQ)(n:NQ):((xs++(n::ys)).map eN)[((xs.length:Nat):Int).toNat]? =some (eN n):=by simp
def So(xs ys:List NQ)(n m:NQ)(e:DV)(h:e=eN m):((xs++(n::ys)).map eN).set ((xs.length:Nat):Int).toNat e=(xs++(m::ys)).map eN:=by subst h;simp
def Za:PB GB prog 42 (fA [some (eT (.leaf true)),none]) 8 105 (ns.map eN) (fun w=> .tp ([]++ .v (.slice w.a w.n w.c)::[.v (.int .i64 (Tr.num (.leaf true) ns.length))])) ((ns++Tr.wr (.leaf true) ns.length).map eN):=by
 refine Jg (fu:=⟨12⟩) func42 J J ntmps42 J J (fun C=>?_);refine du (fu:=⟨9⟩) J J J<|du J J J<|?_;exact JJ J J J J J (by simp[Tr.wr]) J
def amF:PB GB prog 42 (fA [some (eT (.leaf false)),none]) 8 105 (ns.map eN) (fun w=> .tp ([]++ .v (.slice w.a w.n w.c)::[.v (.int .i64 (Tr.num (.leaf false) ns.length))])) ((ns++Tr.wr (.leaf false) ns.length).map eN):=by
 refine Jg (fu:=⟨12⟩) func42 J J ntmps42 J J (fun C=>?_);refine du (fu:=⟨9⟩) J J J<|cB J J J<|?_;exact JJ J J J J J (by simp[Tr.wr]) J
def anT{l:aa}{s u:Tr}{ns:List NQ}(hl:BL l 96)(hs:ns.length+(1+s.size+u.size)<=1000000)(ihs: ∀{ns:List NQ},ns.length+s.size<=1000000->PB GB prog 42 (fA [some (eT s),none]) 8 105 (ns.map eN) (fun w=> .tp ([]++ .v (.slice w.a w.n w.c)::[.v (.int .i64 (Tr.num s ns.length))])) ((ns++Tr.wr s ns.length).map eN))(ihu: ∀{ns:List NQ},ns.length+u.size<=1000000->PB GB prog 42 (fA [some (eT u),none]) 8 105 (ns.map eN) (fun w=> .tp ([]++ .v (.slice w.a w.n w.c)::[.v (.int .i64 (Tr.num u ns.length))])) ((ns++Tr.wr u ns.length).map eN)):PB GB prog 42 (fA [some (eT (.node l s u)),none]) 8 105 (ns.map eN) (fun w=> .tp ([]++ .v (.slice w.a w.n w.c)::[.v (.int .i64 (Tr.num (.node l s u) ns.length))])) ((ns++Tr.wr (.node l s u) ns.length).map eN):=by
 refine Jg (fu:=⟨12⟩) func42 J J ntmps42 J J (fun C=>?_);refine cB (fu:=⟨9⟩) J J J<|aj 20 (.d (.v (.int .i64 (ns.length:Nat)))) J (by simp)<|gx J<|cl J (Xb hl) J<|rf J J<|Lu ((ns++[(⟨l,0,0⟩:NQ)]).map eN) J (by rw[aS]<;>rfl) (aIL [(⟨l,0,0⟩:NQ)]) J<|cb _ J (ihs (ns:=ns++[(⟨l,0,0⟩:NQ)]) (by simp;omega)) J J<|cb (hv:=by simp only[ak];exact(by simp;omega)) ((ns++((⟨l,0,0⟩:NQ)::(s.wr (ns.length+1)++u.wr (ns.length+1+s.size)))).map eN) J (ihu (ns:=ns++[(⟨l,0,0⟩:NQ)]++s.wr (ns++[(⟨l,0,0⟩:NQ)]).length) (by simp[Tr.wr_len];omega)) (by simp[Tr.wr_len,lJ,kS 1]) J<|sb (hv:=by simp only[ak];exact(by simp;omega)) (eN ⟨l,0,0⟩) ((ns++((⟨l,s.num (ns.length+1),0⟩:NQ)::(s.wr (ns.length+1)++u.wr (ns.length+1+s.size)))).map eN) J (Om ns _ ⟨l,0,0⟩) J (by rw[So _ _ _ ⟨l,s.num (ns.length+1),0⟩ _ (by simp[eN,DV.cells])]) J<|sb (eN ⟨l,s.num (ns.length+1),0⟩) ((ns++Tr.wr (.node l s u) ns.length).map eN) J (Om ns _ ⟨l,s.num (ns.length+1),0⟩) J (by rw[So _ _ _ ⟨l,s.num (ns.length+1),u.num (ns.length+1+s.size)⟩ _ (by simp[eN,DV.cells,Tr.wr_len,lJ,kS 1])];simp[Tr.wr]) J<|?_;exact JJ J J J J J J J
def Ip: ∀{t:Tr} {ns:List NQ},t.all (fun l=>BL l 96)->ns.length+t.size<=1000000->PB GB prog 42 (fA [some (eT t),none]) 8 105 (ns.map eN) (fun w=> .tp ([]++ .v (.slice w.a w.n w.c)::[.v (.int .i64 (Tr.num t ns.length))])) ((ns++Tr.wr t ns.length).map eN)
 | .leaf true,ns,_,_=>Za
 | .leaf false,ns,_,_=>amF
 | .node l s u,ns,hb,hs=>anT hb.1 hs (fun h=>Ip hb.2.1 h) (fun h=>Ip hb.2.2 h)
def WS(hb:t.all (fun l=>BL l 96))(hs:t.size<=1000000):PF GB prog 10 [eT t] (eA t):=by
 refine fn func10 J J ntmps10 J J (fun C=>?_);refine Yu _ J (Ip (t:=t) (ns:=[]) hb (by simpa using hs)) J J<|gm 6 J<|rz J J
def aJg(ds:List Int):cO 1 (ds.map vI):=fun d hd=>by
 obtain⟨n,_,rfl⟩:=aT.1 hd;exact⟨rfl,rfl⟩
def Qo(h:i<ns.length:=by omega):(ns.map eN)[(i:Int).toNat]? =some (eN ns[i]):=by simp[h]
def Nx(ns:List NQ):(ns.map eN).length=ns.length:=aX ..
def xh(hl:ns.length=ms.length)(h: ∀j (h1:j<ns.length) (h2:j<ms.length),ns[j]=ms[j]):ns=ms:=List.ext_getElem hl h
def Xl(es:List Int):(es.map vI).take (min es.length 400)=(es.take 400).map vI:=by
 rw[iR];rcases Nat.le_total es.length 400 with h|h
 .rw[jN h,cZ (by simp),cZ (by simpa using h)]
 .rw[Nat.min_eq_right h]
def UF{es:List Int}(hb:es.length<=1125899906842624):PN GB prog 6 [.sl (es.map vI)] 84 Unit (fun _=>[.sl ((es.take 400).map vI), .v (.int .i64 (0:Nat))]):=by
 have hel:(es.map vI).length=es.length:=by simp
 refine X2 func6 J J ntmps6 J J (fun C hmb=>?_);refine kD 0 (min es.length 400) ((es.take 400).map vI) J J (by rw[hel];show(if _ then _ else _:Int)=_;split<;>omega) (Xl es) (aJg _) (by omega) (by omega) J<|?_;exact UR () J J J J J
def aB5{s:Tr}(hs:s.all (fun l=>BL l 96))(ht:t.all (fun l=>BL l 96))(hn:s.size<=1000000):PF GB prog 14 [eA s,eA t] (vB (decide (s.num 0=t.num 0/\s.wr 0=t.wr 0))):=by
 have hbs:=Tr.all_wr 0 hs;have hbt:=Tr.all_wr 0 ht;have hsl:=s.wr_len 0;have hls:=Nx (s.wr 0);have hlt:=Nx (t.wr 0);unfold eA;generalize hns:s.wr 0=ns at*;generalize hms:t.wr 0=ms at*;generalize ha:s.num 0=a at*;generalize hb:t.num 0=b at*;refine fn func14 J J ntmps14 J J (fun C=>?_);refine cs 13 J J J (fun hg13=>?_) (fun hg13=>?_)
 .
  exact rz rfl (by first|(rw[decide_eq_true (⟨Decidable.not_not.1 hg13,xh (by omega) (fun j p q=>h2 j p q (by omega))⟩:a=b/\ns=ms)];rfl)|(rw[decide_eq_false (fun e:a=b/\ns=ms=>by obtain⟨e1,e2⟩:=e;subst e2;first|exact hg13 e1|exact hc21 rfl|exact hg40 rfl|exact hg47 rfl|(simp at hc54))];rfl))
 .
  refine br (fu2:=⟨8⟩) J J J (fun hc21=>?_) (fun hc21=>?_)
  .
   exact rz rfl (by first|(rw[decide_eq_true (⟨Decidable.not_not.1 hg13,xh (by omega) (fun j p q=>h2 j p q (by omega))⟩:a=b/\ns=ms)];rfl)|(rw[decide_eq_false (fun e:a=b/\ns=ms=>by obtain⟨e1,e2⟩:=e;subst e2;first|exact hg13 e1|exact hc21 rfl|exact hg40 rfl|exact hg47 rfl|(simp at hc54))];rfl))
  .
   refine aj 24 (.d (vI (ns.length:Nat))) J (by rw[hls]<;>rfl)<|gx J<|lp (X:=Nat) (fun i=>[(25, .d (vI (i:Nat)))]) (fun i=>[]) (fun i=>i<=ns.length/\ ∀j (h1:j<ns.length) (h2:j<ms.length),j<i->ns[j]=ms[j]) (fun i=>ns.length-i) 0 J ⟨aM _,fun j _ _ hj=>absurd hj (by omega)⟩ (fun _=>J) (fun i hk=>?_);obtain⟨h1,h2⟩:=hk;have hi2:i<ns.length->i<ms.length:=fun h=>by omega
   refine br J J J (fun hc26=>?_) (fun hc26=>?_)
   .
    refine ix _ J (Qo) J<|ix _ J (Qo) J<|cs 40 J J J (fun hg40=>?_) (fun hg40=>?_)
    .
     exact rz rfl (by first|(rw[decide_eq_true (⟨Decidable.not_not.1 hg13,xh (by omega) (fun j p q=>h2 j p q (by omega))⟩:a=b/\ns=ms)];rfl)|(rw[decide_eq_false (fun e:a=b/\ns=ms=>by obtain⟨e1,e2⟩:=e;subst e2;first|exact hg13 e1|exact hc21 rfl|exact hg40 rfl|exact hg47 rfl|(simp at hc54))];rfl))
    .
     refine cs 47 J J J (fun hg47=>?_) (fun hg47=>?_)
     .
      exact rz rfl (by first|(rw[decide_eq_true (⟨Decidable.not_not.1 hg13,xh (by omega) (fun j p q=>h2 j p q (by omega))⟩:a=b/\ns=ms)];rfl)|(rw[decide_eq_false (fun e:a=b/\ns=ms=>by obtain⟨e1,e2⟩:=e;subst e2;first|exact hg13 e1|exact hc21 rfl|exact hg40 rfl|exact hg47 rfl|(simp at hc54))];rfl))
     .
      refine cl J (XW (l:=(ns[i]'(by omega)).l) (m:=(ms[i]'(by omega)).l) (hbs _ (dX (by omega))) (hbt _ (dX (by omega)))) J<|bb J J J (fun hc54=>?_) (fun hc54=>?_)
      .
       exact rz rfl (by first|(rw[decide_eq_true (⟨Decidable.not_not.1 hg13,xh (by omega) (fun j p q=>h2 j p q (by omega))⟩:a=b/\ns=ms)];rfl)|(rw[decide_eq_false (fun e:a=b/\ns=ms=>by obtain⟨e1,e2⟩:=e;subst e2;first|exact hg13 e1|exact hc21 rfl|exact hg40 rfl|exact hg47 rfl|(simp at hc54))];rfl))
      .
       exact at_ (i+1) ⟨⟨by omega,fun j p q hj=>by by_cases e:j=i;(subst e;exact NQ.ext' (by simpa using hc54) (Decidable.not_not.1 hg40) (Decidable.not_not.1 hg47));exact h2 j p q (by omega)⟩,(by omega)⟩
   .
    exact rz rfl (by first|(rw[decide_eq_true (⟨Decidable.not_not.1 hg13,xh (by omega) (fun j p q=>h2 j p q (by omega))⟩:a=b/\ns=ms)];rfl)|(rw[decide_eq_false (fun e:a=b/\ns=ms=>by obtain⟨e1,e2⟩:=e;subst e2;first|exact hg13 e1|exact hc21 rfl|exact hg40 rfl|exact hg47 rfl|(simp at hc54))];rfl))
def IT(hb:t.all LB)(hok:t.all aa.ok)(hd:t.depth<=900):PF GB prog 33 [eT t] (eT (t.restrict [])):=by
 refine fn func33 J J ntmps33 J J (fun C=>?_);refine cl J (E8 (t:=t) (c:=[]) hb hok (by simp) (by simp) (by simpa using hd)) J<|rz J (by rw[<-Tr.restrictL_eq t [] [] hok (by simp) bC.nil (fun p=>by unfold bt dE;simp)];rfl)
def NY{cuts:List Rat}{marks:List Bool}: ∀k,2*(gF cuts marks k).length<=k+(if 0<k/\marks.getD (k-1) false=true then 1 else 0)
 |0=>by rw[gF];simp
 |k+1=>by
  have ih:=NY (cuts:=cuts) (marks:=marks) k;rw[gF];simp only[nW];by_cases hm:marks.getD k false=true
  .rw[if_pos hm,if_pos (show 0<k+1/\marks.getD k false=true from⟨by omega,hm⟩)]
   by_cases hp:0<k/\marks.getD (k-1) false=true
   .rw[if_pos hp] at ih⊢
    cases hv:(gF cuts marks k).getLast? with
    |some v=>
     have:0<(gF cuts marks k).length:=by
      cases e:gF cuts marks k with
      |nil=>rw[e] at hv;simp at hv
      |cons a t=>simp
     show 2*((gF cuts marks k).dropLast++[_]).length<=_;rw[aY,mY,fZ];omega
    |none=>
     have:gF cuts marks k=[]:=List.getLast?_eq_none_iff.1 hv;simp only[this];simp
   .rw[if_neg hp] at ih⊢
    rw[aY,fZ];omega
  .rw[if_neg hm]
   split at ih<;>split<;>omega
def WC(op:Int)(a b:List ar):(qo op a b).length<=a.length+b.length+1:=by
 unfold qo wm;have h:=NY (cuts:=jH (a++b)) (marks:=(cp (jH (a++b))).map fun t=>oo op (gt a t) (gt b t)) ((cp (jH (a++b))).map fun t=>oo op (gt a t) (gt b t)).length;have h2:=Gm (a++b);rw[aY] at h2;have h3:((cp (jH (a++b))).map fun t=>oo op (gt a t) (gt b t)).length=(jH (a++b)).length+1:=by rw[aX,y9]
 split at h<;>omega
def Hc(f:bw)(m:aa)(side:Int):(fk f m side).length<=3:=by
 unfold fk;split
 .simp
 .rw[aX]
  have:=WC 2 [f.v] (jk f.l m side);have h2:=z8 (l:=f.l) (m:=m) (side:=side);rw[fZ] at this;omega
theorem aqu{v:ah}{s:Rat}[hp:aC p 4500][hv:aC v 97][hm:LB m](hs:BQ s 60000):BQ (sE p v m s) 60000:=by
 unfold sE uB;split
 .exact hs
 .split
  .exact hs
  .split
   .split
    .haveI:BQ (-(m.value p/(m.value (cF p v ((1:Int):Rat))-m.value p))) 45000:=BQ.mono inferInstance
     exact BQ.mono (inferInstance:BQ (-(m.value p/(m.value (cF p v ((1:Int):Rat))-m.value p))/2) _)
    .exact hs
   .exact hs
theorem QK{p v:ah}[hp:aC p 4500][hv:aC v 97]: ∀{c:List aa} {s:Rat},(∀m∈c,LB m)->BQ s 60000->BQ (r7 p v c s) 60000
 |[],_,_,hs=>hs
 |m::t,s,hc,hs=>by
  haveI:=hc m aQ;exact QK (c:=t) (fun q hq=>hc q (aJ _ hq)) (aqu hs)
theorem PD{c:List aa}(hc: ∀m∈c,LB m)(hok: ∀m∈c,m.ok): ∀{t:List aa},(∀m∈t,m∈c)->aC (kl c t) 70000
 |[],_=>by
  have h0:BQ (0:Rat) 70000:=BQ.mono (k:=1) ⟨by decide,by decide⟩;exact⟨h0,h0⟩
 |m::t,h=>by
  have hm:=h m aQ;haveI:=hc m hm;rw[kl];split
  .have hbd:=Ef (v:=ar.all) (hok m hm).ne hc gG.all (BQ.mono (k:=1) ⟨by decide,by decide⟩) (BQ.mono (k:=1) ⟨by decide,by decide⟩)
   haveI:=hbd.1;haveI:=hbd.2;haveI hsb:=Q3 (v:=(gh m c ar.all).1) (i:=1200);haveI hpt:aC (m.at (kp (gh m c ar.all).1)) 4500:=by have:=aC.at m (kp (gh m c ar.all).1) (1200+1200+5);exact⟨this.x.mono (by decide),this.y.mono (by decide)⟩
   haveI hvt:aC (ie m.dir) 97:=inferInstance;haveI hns:BQ (r7 (m.at (kp (gh m c ar.all).1)) (ie m.dir) c ((1:Int):Rat)) 60000:=QK hc (BQ.mono (k:=2) ⟨by decide,by decide⟩);have:=aC.mov (m.at (kp (gh m c ar.all).1)) (ie m.dir) (r7 (m.at (kp (gh m c ar.all).1)) (ie m.dir) c ((1:Int):Rat)) 4500 97 60000;exact⟨this.x.mono (by decide),this.y.mono (by decide)⟩
  .exact PD hc hok (fun q hq=>h q (aJ _ hq))
def Oa{l:List bw}(h:l[k]? =some g):(l.take (k+1)).flatMap (fun g=>fk g m side)=(l.take k).flatMap (fun g=>fk g m side)++fk g m side:=by
 rw[dZ,h,qY];simp
def CP(l:List bw)(m:aa)(side:Int):(l.flatMap fun g=>fk g m side).length<=3*l.length:=by
 induction l with
 |nil=>simp
 |cons a t ih=>rw[lX,aY,bZ];have:=Hc a m side;omega
def ayz{acc:ah->Bool}:jy acc n [] c= .leaf (acc (kl c c)):=by cases n<;>rfl
def atG(hrs: ∀r∈rs,eD r)(hrn:rs.length<=100)(hc: ∀m∈c,LB m)(hok: ∀m∈c,m.ok)(hn:c.length<=900):PF GB prog 160 [wg rs fill, .sl [], .sl (c.map eL)] (eT (jy (mG rs fill) n [] c)):=by
 haveI hpb:=PD hc hok (t:=c) (fun _ h=>h);refine fn (fu:=⟨11⟩) func160 J J ntmps160 J J (fun C=>?_);refine du J J J<|cl J (GU (c:=c) hc hok (by omega)) J<|cl J (XY (p:=kl c c) (i:=70000) hrs hrn (by decide)) J<|cl J (n4 (p:=mG rs fill (kl c c))) J<|rz J (by rw[ayz];rfl)
def Y9{rs:List (List ZP)}{fill:Int}(hrs: ∀r∈rs,eD r)(hrn:rs.length<=100){n:Nat}{f:bw}{t:List bw}{c:List aa}(hfew:tf (n+1) (f::t))(hfo: ∀g∈f::t,px g)(hlen:(f::t).length*3^(n+1)<=6973568802)(hc: ∀m∈c,LB m)(hok: ∀m∈c,m.ok)(hn:c.length+(n+1)<=900)(ih: ∀{l:List bw} {c:List aa},tf n l->(∀f∈l,px f)->l.length*3^n<=6973568802->(∀m∈c,LB m)->(∀m∈c,m.ok)->c.length+n<=900->PF GB prog 160 [wg rs fill, .sl (l.map fp), .sl (c.map eL)] (eT (jy (mG rs fill) n l c))):PF GB prog 160 [wg rs fill, .sl ((f::t).map fp), .sl (c.map eL)] (eT (jy (mG rs fill) (n+1) (f::t) c)):=by
 obtain⟨l,hl⟩: ∃l,l=f::t:=⟨_,rfl⟩;have hl0:l[0]? =some f:=by rw[hl];rfl
 rw[<-hl] at hfew hfo hlen⊢;have hm:=eo fp l;have hfl:=hfo f (aK hl0);haveI:=hfl.lb;have hlp:0<l.length:=by rw[hl];simp
 have hlb:l.length<=6973568802:=cM (mU _ (gX (by decide))) hlen;refine fn (fu:=⟨11⟩) func160 J J ntmps160 J J (fun C=>?_);refine aj 17 (.d (vI (l.length:Nat))) J (by rw[hm]<;>rfl)<|gx (fu:=⟨0⟩) J<|cB J (by show some (decide _)=some false;rw[decide_eq_false (by omega)]) J<|ix (fu:=⟨17⟩) _ J (ck (i:=0) hl0) J<|aj 33 (.d (vI (l.length:Nat))) J (by rw[hm]<;>rfl)<|gx J<|nr 10 10 274 14 J J J<|nr 11 11 274 14 J J J<|lp (X:=Nat) (fun k=>[(34, .d (vI (k:Nat))),(10, .rw 10),(11, .rw 11)]) (fun k=>[(10,some (.b 274 14 (((l.take k).flatMap fun g=>fk g f.l 1).map fp) true)),(11,some (.b 274 14 (((l.take k).flatMap fun g=>fk g f.l (-1)).map fp) true))]) (fun k=>k<=l.length) (fun k=>l.length-k) 0 J (aM _) (fun _=>J) (fun k hk=>?_);have htk:(l.take k).length<=6973568802:=by rw[bT];omega
 have hb1:(((l.take k).flatMap fun g=>fk g f.l 1).map fp).length<=20920706406:=by rw[aX];have:=CP (l.take k) f.l 1;omega
 have hb2:(((l.take k).flatMap fun g=>fk g f.l (-1)).map fp).length<=20920706406:=by rw[aX];have:=CP (l.take k) f.l (-1);omega
 refine br (fu2:=⟨0⟩) J J J (fun hc35=>?_) (fun hc35=>?_)
 .
  obtain⟨g,hz⟩: ∃s,l[k]? =some s:=⟨_,aZ (by omega)⟩;have hg:=hfo g (aK hz);have hs1:((fk g f.l 1).map fp).length<=3:=by rw[aX];exact Hc _ _ _
  have hs2:((fk g f.l (-1)).map fp).length<=3:=by rw[aX];exact Hc _ _ _
  refine ix _ J (ck hz) J<|cl J (V1 (f:=g) (m:=f.l) hg hfl.ok) J<|ap (hbd:=by omega) (((l.take (k+1)).flatMap fun g=>fk g f.l 1).map fp) J (by rw[Oa hz,aS]) (xO _) J<|ap (hbd:=by omega) (((l.take (k+1)).flatMap fun g=>fk g f.l (-1)).map fp) J (by rw[Oa hz,aS]) (xO _) J<|d8 46 10 J<|d8 49 11 J<|at_ (k+1) ⟨(by omega),(by omega)⟩
 .
  obtain rfl:k=l.length:=by omega
  rw[cS];refine oe 10 rfl<|oe 11 rfl<|gx rfl<|oE J J<|ap (c.map eL) J J (eu c) rfl<|rf J J<|jC ((c++[f.l]).map eL) rfl (by rw[aS];rfl) (eu [f.l]) rfl<|cl rfl (ih (c:=c++[f.l]) (by subst hl;exact tf.split hfew hfo) (fun g hg=>by obtain⟨q,hq,hg⟩:=iQ.1 hg;exact(HP (hfo q hq) hfl.lb g hg).1) (by have:=CP l f.l 1;rw[gL] at hlen;exact cM (bR _ this) (by rw[cJ 3,cW];rw[cJ (3^n)] at hlen;exact hlen)) (so hc hfl.lb) (i9 hok hfl.ok) (by rw[aY,fZ];omega)) rfl<|oE J J<|ap (c.map eL) J J (eu c) rfl<|cl rfl (vX (l:=f.l)) rfl<|rf J J<|jC ((c++[f.l.rev]).map eL) rfl (by rw[aS];rfl) (eu [f.l.rev]) rfl<|cl (fu:=⟨1⟩) rfl (ih (c:=c++[f.l.rev]) (by subst hl;exact tf.split hfew hfo) (fun g hg=>by obtain⟨q,hq,hg⟩:=iQ.1 hg;exact(HP (hfo q hq) hfl.lb g hg).1) (by have:=CP l f.l (-1);rw[gL] at hlen;exact cM (bR _ this) (by rw[cJ 3,cW];rw[cJ (3^n)] at hlen;exact hlen)) (so hc hfl.lb.rev) (i9 hok hfl.ok.rev) (by rw[aY,fZ];omega)) rfl<|CF J J<|rz rfl (by subst hl;rfl)
def P9{rs:List (List ZP)}{fill:Int}(hrs: ∀r∈rs,eD r)(hrn:rs.length<=100): ∀{n:Nat} {l:List bw} {c:List aa},tf n l->(∀f∈l,px f)->l.length*3^n<=6973568802->(∀m∈c,LB m)->(∀m∈c,m.ok)->c.length+n<=900->PF GB prog 160 [wg rs fill, .sl (l.map fp), .sl (c.map eL)] (eT (jy (mG rs fill) n l c))
 |n,[],c,_,_,_,hc,hok,hn=>atG hrs hrn hc hok (by omega)
 |0,f::t,c,hf,_,_,_,_,_=>by
  obtain⟨K,h1,h2⟩:=hf;obtain⟨m,hm,_⟩:=h2 f aQ;rw[cV (l:=K) (by omega)] at hm
  cases hm
 |n+1,f::t,c,hf,ho,hl,hc,hok,hn=>Y9 hrs hrn hf ho hl hc hok hn (fun a1 a2 a3 a4 a5 a6=>P9 hrs hrn a1 a2 a3 a4 a5 a6)
def aAh(l:List bw):tf l.length l:=⟨l.map bw.l,by rw[aX];exact bK _,fun f hf=>⟨f.l,dK hf, .inl J⟩⟩
def Xc(h:n<=18):n*3^n<=6973568802:=cM (fM h (bW (by decide) h)) (by decide)
def aC6(hrs: ∀r∈rs,eD r)(hrn:rs.length<=3):PF GB prog 86 [wg rs fill] (eT (fC rs fill)):=by
 have hm:=eo jg rs;have hE:=w6 hrs;have hraw:=CM (acc:=mG rs fill) hE.2 J;refine fn (fu:=⟨17⟩) func86 J J ntmps86 J J (fun C=>?_);refine aj 8 (.d (vI (rs.length:Nat))) J (by rw[hm]<;>rfl)<|gx J<|nr 3 3 274 14 J J J<|lp (X:=Nat) (fun k=>[(9, .d (vI (k:Nat))),(3, .rw 3)]) (fun k=>[(3,some (.b 274 14 ((iB (rs.take k)).map fp) true))]) (fun k=>k<=rs.length) (fun k=>rs.length-k) 0 J (aM _) (fun _=>J) (fun k hk=>?_);have het:((iB (rs.take k)).map fp).length<=6*k:=by rw[aX];exact KH hrs k
 refine br J J J (fun hc10=>?_) (fun hc10=>?_)
 .
  obtain⟨r,hz⟩: ∃s,rs[k]? =some s:=⟨_,aZ (by omega)⟩;have hr:=hrs r (aK hz);have hel:((jF r).map fp).length<=6:=by rw[aX];have:=(Ap hr).1;have:=hr.n6;omega
  refine ix _ J (ck hz) J<|cl J (Mg (r:=r) hr) J<|ap (hbd:=by omega) ((iB (rs.take (k+1))).map fp) J (by rw[R6 hz,aS]) (xO _) J<|d8 16 3 J<|at_ (k+1) ⟨(by omega),(by omega)⟩
 .
  obtain rfl:k=rs.length:=by omega
  rw[cS];refine fz 3 J J<|cl J (P9 (n:=(iB rs).length) (l:=iB rs) (c:=[]) hrs (by omega) (aAh _) hE.2 (Xc (by have:=hE.1;omega)) (fun m h=>by cases h) (fun m h=>by cases h) (by have:=hE.1;rw[dS];omega)) J<|cl J (IT (t:=sC rs fill) hraw.gd.lb hraw.gd.ok (by have:=hraw.dp;have:=hE.1;show(jy _ _ _ _).depth<=900;omega)) J<|rz J J
def V0:PF GB prog 37 [eT (.leaf b)] (eT (Tr.compl (.leaf b))):=by
 refine fn (fu:=⟨11⟩) func37 J J ntmps37 J J (fun C=>?_);refine du J J J<|cl J (n4 (p:=!b)) J<|rz J J
def atp(ihx:PF GB prog 37 [eT x] (eT x.compl))(ihy:PF GB prog 37 [eT y] (eT y.compl)):PF GB prog 37 [eT (.node l x y)] (eT (Tr.compl (.node l x y))):=by
 refine fn (fu:=⟨11⟩) func37 J J ntmps37 J J (fun C=>?_);refine cB J J J<|cl J ihx J<|cl (fu:=⟨1⟩) J ihy J<|CF J J<|rz J J
def li: ∀{t:Tr},PF GB prog 37 [eT t] (eT t.compl)
 | .leaf _=>V0
 | .node _ _ _=>atp li li
def TG(hu:u.all LB)(huo:u.all aa.ok)(hc: ∀m∈c,LB m)(hok: ∀m∈c,m.ok)(hn:c.length+u.depth<=900):PF GB prog 49 [vI op,eT (.leaf b),eT u, .sl (c.map eL)] (eT (Tr.mergeL op (.leaf b) u c)):=by
 refine fn (fu:=⟨11⟩) func49 J J ntmps49 J J (fun C=>?_);refine du J J J<|cl J (E8 (t:=u) (c:=c) hu huo hc hok hn) J<|cs 20 J J J (fun hg20=>?_) (fun hg20=>?_)
 .
  refine bb J J J (fun hc17=>?_) (fun hc17=>?_)
  .
   refine cl J (n4 (p:=true)) J<|rz J (by show eT _=eT _;congr 1;rw[Tr.mergeL];unfold Tr.chooseL;(repeat' split)<;>first|rfl|(exfalso;simp_all;done)|(exfalso;omega))
  .
   refine cs 30 J J J (fun hg30=>?_) (fun hg30=>?_)
   .
    refine bb J J J (fun hc27=>?_) (fun hc27=>?_)
    .
     refine cl J (n4 (p:=false)) J<|rz J (by show eT _=eT _;congr 1;rw[Tr.mergeL];unfold Tr.chooseL;(repeat' split)<;>first|rfl|(exfalso;simp_all;done)|(exfalso;omega))
    .
     refine cs 45 J J J (fun hg45=>?_) (fun hg45=>?_)
     .
      refine bb J J J (fun hc42=>?_) (fun hc42=>?_)
      .
       refine cl J li J<|rz J (by show eT _=eT _;congr 1;rw[Tr.mergeL];unfold Tr.chooseL;(repeat' split)<;>first|rfl|(exfalso;simp_all;done)|(exfalso;omega))
      .
       exact rz J (by show eT _=eT _;congr 1;rw[Tr.mergeL];unfold Tr.chooseL;(repeat' split)<;>first|rfl|(exfalso;simp_all;done)|(exfalso;omega))
     .
      refine cs 49 J J J (fun hg49=>?_) (fun hg49=>?_)
      .
       refine bb J J J (fun hc42=>?_) (fun hc42=>?_)
       .
        refine cl J li J<|rz J (by show eT _=eT _;congr 1;rw[Tr.mergeL];unfold Tr.chooseL;(repeat' split)<;>first|rfl|(exfalso;simp_all;done)|(exfalso;omega))
       .
        exact rz J (by show eT _=eT _;congr 1;rw[Tr.mergeL];unfold Tr.chooseL;(repeat' split)<;>first|rfl|(exfalso;simp_all;done)|(exfalso;omega))
      .
       exact rz J (by show eT _=eT _;congr 1;rw[Tr.mergeL];unfold Tr.chooseL;(repeat' split)<;>first|rfl|(exfalso;simp_all;done)|(exfalso;omega))
   .
    refine cs 34 J J J (fun hg34=>?_) (fun hg34=>?_)
    .
     refine bb J J J (fun hc27=>?_) (fun hc27=>?_)
     .
      refine cl J (n4 (p:=false)) J<|rz J (by show eT _=eT _;congr 1;rw[Tr.mergeL];unfold Tr.chooseL;(repeat' split)<;>first|rfl|(exfalso;simp_all;done)|(exfalso;omega))
     .
      refine cs 45 J J J (fun hg45=>?_) (fun hg45=>?_)
      .
       refine bb J J J (fun hc42=>?_) (fun hc42=>?_)
       .
        refine cl J li J<|rz J (by show eT _=eT _;congr 1;rw[Tr.mergeL];unfold Tr.chooseL;(repeat' split)<;>first|rfl|(exfalso;simp_all;done)|(exfalso;omega))
       .
        exact rz J (by show eT _=eT _;congr 1;rw[Tr.mergeL];unfold Tr.chooseL;(repeat' split)<;>first|rfl|(exfalso;simp_all;done)|(exfalso;omega))
      .
       refine cs 49 J J J (fun hg49=>?_) (fun hg49=>?_)
       .
        refine bb J J J (fun hc42=>?_) (fun hc42=>?_)
        .
         refine cl J li J<|rz J (by show eT _=eT _;congr 1;rw[Tr.mergeL];unfold Tr.chooseL;(repeat' split)<;>first|rfl|(exfalso;simp_all;done)|(exfalso;omega))
        .
         exact rz J (by show eT _=eT _;congr 1;rw[Tr.mergeL];unfold Tr.chooseL;(repeat' split)<;>first|rfl|(exfalso;simp_all;done)|(exfalso;omega))
       .
        exact rz J (by show eT _=eT _;congr 1;rw[Tr.mergeL];unfold Tr.chooseL;(repeat' split)<;>first|rfl|(exfalso;simp_all;done)|(exfalso;omega))
    .
     refine cs 45 J J J (fun hg45=>?_) (fun hg45=>?_)
     .
      refine bb J J J (fun hc42=>?_) (fun hc42=>?_)
      .
       refine cl J li J<|rz J (by show eT _=eT _;congr 1;rw[Tr.mergeL];unfold Tr.chooseL;(repeat' split)<;>first|rfl|(exfalso;simp_all;done)|(exfalso;omega))
      .
       exact rz J (by show eT _=eT _;congr 1;rw[Tr.mergeL];unfold Tr.chooseL;(repeat' split)<;>first|rfl|(exfalso;simp_all;done)|(exfalso;omega))
     .
      refine cs 49 J J J (fun hg49=>?_) (fun hg49=>?_)
      .
       refine bb J J J (fun hc42=>?_) (fun hc42=>?_)
       .
        refine cl J li J<|rz J (by show eT _=eT _;congr 1;rw[Tr.mergeL];unfold Tr.chooseL;(repeat' split)<;>first|rfl|(exfalso;simp_all;done)|(exfalso;omega))
       .
        exact rz J (by show eT _=eT _;congr 1;rw[Tr.mergeL];unfold Tr.chooseL;(repeat' split)<;>first|rfl|(exfalso;simp_all;done)|(exfalso;omega))
      .
       exact rz J (by show eT _=eT _;congr 1;rw[Tr.mergeL];unfold Tr.chooseL;(repeat' split)<;>first|rfl|(exfalso;simp_all;done)|(exfalso;omega))
 .
  refine cs 30 J J J (fun hg30=>?_) (fun hg30=>?_)
  .
   refine bb J J J (fun hc27=>?_) (fun hc27=>?_)
   .
    refine cl J (n4 (p:=false)) J<|rz J (by show eT _=eT _;congr 1;rw[Tr.mergeL];unfold Tr.chooseL;(repeat' split)<;>first|rfl|(exfalso;simp_all;done)|(exfalso;omega))
   .
    refine cs 45 J J J (fun hg45=>?_) (fun hg45=>?_)
    .
     refine bb J J J (fun hc42=>?_) (fun hc42=>?_)
     .
      refine cl J li J<|rz J (by show eT _=eT _;congr 1;rw[Tr.mergeL];unfold Tr.chooseL;(repeat' split)<;>first|rfl|(exfalso;simp_all;done)|(exfalso;omega))
     .
      exact rz J (by show eT _=eT _;congr 1;rw[Tr.mergeL];unfold Tr.chooseL;(repeat' split)<;>first|rfl|(exfalso;simp_all;done)|(exfalso;omega))
    .
     refine cs 49 J J J (fun hg49=>?_) (fun hg49=>?_)
     .
      refine bb J J J (fun hc42=>?_) (fun hc42=>?_)
      .
       refine cl J li J<|rz J (by show eT _=eT _;congr 1;rw[Tr.mergeL];unfold Tr.chooseL;(repeat' split)<;>first|rfl|(exfalso;simp_all;done)|(exfalso;omega))
      .
       exact rz J (by show eT _=eT _;congr 1;rw[Tr.mergeL];unfold Tr.chooseL;(repeat' split)<;>first|rfl|(exfalso;simp_all;done)|(exfalso;omega))
     .
      exact rz J (by show eT _=eT _;congr 1;rw[Tr.mergeL];unfold Tr.chooseL;(repeat' split)<;>first|rfl|(exfalso;simp_all;done)|(exfalso;omega))
  .
   refine cs 34 J J J (fun hg34=>?_) (fun hg34=>?_)
   .
    refine bb J J J (fun hc27=>?_) (fun hc27=>?_)
    .
     refine cl J (n4 (p:=false)) J<|rz J (by show eT _=eT _;congr 1;rw[Tr.mergeL];unfold Tr.chooseL;(repeat' split)<;>first|rfl|(exfalso;simp_all;done)|(exfalso;omega))
    .
     refine cs 45 J J J (fun hg45=>?_) (fun hg45=>?_)
     .
      refine bb J J J (fun hc42=>?_) (fun hc42=>?_)
      .
       refine cl J li J<|rz J (by show eT _=eT _;congr 1;rw[Tr.mergeL];unfold Tr.chooseL;(repeat' split)<;>first|rfl|(exfalso;simp_all;done)|(exfalso;omega))
      .
       exact rz J (by show eT _=eT _;congr 1;rw[Tr.mergeL];unfold Tr.chooseL;(repeat' split)<;>first|rfl|(exfalso;simp_all;done)|(exfalso;omega))
     .
      refine cs 49 J J J (fun hg49=>?_) (fun hg49=>?_)
      .
       refine bb J J J (fun hc42=>?_) (fun hc42=>?_)
       .
        refine cl J li J<|rz J (by show eT _=eT _;congr 1;rw[Tr.mergeL];unfold Tr.chooseL;(repeat' split)<;>first|rfl|(exfalso;simp_all;done)|(exfalso;omega))
       .
        exact rz J (by show eT _=eT _;congr 1;rw[Tr.mergeL];unfold Tr.chooseL;(repeat' split)<;>first|rfl|(exfalso;simp_all;done)|(exfalso;omega))
      .
       exact rz J (by show eT _=eT _;congr 1;rw[Tr.mergeL];unfold Tr.chooseL;(repeat' split)<;>first|rfl|(exfalso;simp_all;done)|(exfalso;omega))
   .
    refine cs 45 J J J (fun hg45=>?_) (fun hg45=>?_)
    .
     refine bb J J J (fun hc42=>?_) (fun hc42=>?_)
     .
      refine cl J li J<|rz J (by show eT _=eT _;congr 1;rw[Tr.mergeL];unfold Tr.chooseL;(repeat' split)<;>first|rfl|(exfalso;simp_all;done)|(exfalso;omega))
     .
      exact rz J (by show eT _=eT _;congr 1;rw[Tr.mergeL];unfold Tr.chooseL;(repeat' split)<;>first|rfl|(exfalso;simp_all;done)|(exfalso;omega))
    .
     refine cs 49 J J J (fun hg49=>?_) (fun hg49=>?_)
     .
      refine bb J J J (fun hc42=>?_) (fun hc42=>?_)
      .
       refine cl J li J<|rz J (by show eT _=eT _;congr 1;rw[Tr.mergeL];unfold Tr.chooseL;(repeat' split)<;>first|rfl|(exfalso;simp_all;done)|(exfalso;omega))
      .
       exact rz J (by show eT _=eT _;congr 1;rw[Tr.mergeL];unfold Tr.chooseL;(repeat' split)<;>first|rfl|(exfalso;simp_all;done)|(exfalso;omega))
     .
      exact rz J (by show eT _=eT _;congr 1;rw[Tr.mergeL];unfold Tr.chooseL;(repeat' split)<;>first|rfl|(exfalso;simp_all;done)|(exfalso;omega))
def alV(hl:LB l)(hlo:l.ok)(hc: ∀m∈c,LB m)(hok: ∀m∈c,m.ok)(hn:c.length+(Tr.node l x y).depth+u.depth<=900)(ihx: ∀{c:List aa},(∀m∈c,LB m)->(∀m∈c,m.ok)->c.length+x.depth+u.depth<=900->PF GB prog 49 [vI op,eT x,eT u, .sl (c.map eL)] (eT (Tr.mergeL op x u c)))(ihy: ∀{c:List aa},(∀m∈c,LB m)->(∀m∈c,m.ok)->c.length+y.depth+u.depth<=900->PF GB prog 49 [vI op,eT y,eT u, .sl (c.map eL)] (eT (Tr.mergeL op y u c))):PF GB prog 49 [vI op,eT (.node l x y),eT u, .sl (c.map eL)] (eT (Tr.mergeL op (.node l x y) u c)):=by
 have hdp:(Tr.node l x y).depth=1+Nat.max x.depth y.depth:=J;have hdx:x.depth<=Nat.max x.depth y.depth:=pJ _ _;have hdy:y.depth<=Nat.max x.depth y.depth:=oS _ _;have hca:=oO (c++[l]);have hcb:=oO (c++[l.rev]);rw[aY,fZ] at hca hcb;refine fn (fu:=⟨11⟩) func49 J J ntmps49 J J (fun C=>?_);refine cB J J J<|cl J (Qq (c:=c) (l:=l) hc hok (by omega) hl hlo) J<|br J J J (fun hc64=>?_) (fun hc64=>?_)
 .
  refine cl J (ihx hc hok (by omega)) J<|rz J (by rw[Tr.mergeL,if_pos hc64];rfl)
 .
  refine br J J J (fun hc74=>?_) (fun hc74=>?_)
  .
   refine cl J (ihy hc hok (by omega)) J<|rz J (by rw[Tr.mergeL,if_neg hc64,if_pos hc74];rfl)
  .
   refine cl J (CE (c:=c) (l:=l) hc hok (by omega) hl hlo) J<|cl J (ihx (c:=ce (c++[l])) (Cj (so hc hl)) (DL (i9 hok hlo)) (by omega)) J<|cl J (vX (l:=l)) J<|cl J (CE (c:=c) (l:=l.rev) hc hok (by omega) hl.rev hlo.rev) J<|cl J (ihy (c:=ce (c++[l.rev])) (Cj (so hc hl.rev)) (DL (i9 hok hlo.rev)) (by omega)) J<|cl J OK J<|rz J (by rw[Tr.mergeL,if_neg hc64,if_neg hc74];rfl)
def GZ{op:Int}{u:Tr}(hu:u.all LB)(huo:u.all aa.ok): ∀{t:Tr} {c:List aa},t.all LB->t.all aa.ok->(∀m∈c,LB m)->(∀m∈c,m.ok)->c.length+t.depth+u.depth<=900->PF GB prog 49 [vI op,eT t,eT u, .sl (c.map eL)] (eT (Tr.mergeL op t u c))
 | .leaf _,_,_,_,hc,hok,hn=>TG hu huo hc hok (cM (Nat.add_le_add_right (nJ _ _) _) hn)
 | .node l x y,c,hb,ho,hc,hok,hn=>alV hb.1 ho.1 hc hok hn (fun h1 h2 h3=>GZ hu huo hb.2.1 ho.2.1 h1 h2 h3) (fun h1 h2 h3=>GZ hu huo hb.2.2 ho.2.2 h1 h2 h3)

def Ug(l:aa)(p q:DV):List DV:=[.v (.bool false), .v (.bool false), .v (.bool (decide (l.a<0))),dN l.a.natAbs, .v (.bool (decide (l.b<0))),dN l.b.natAbs, .v (.bool (decide (l.c<0))),dN l.c.natAbs,p,q]
def ZN{l1:List DV}(h:Is G (.ag [.v (.bool b1), .sl l1, .v (.bool b2), .sl l2, .v (.bool b3), .sl l3]) v): ∃x1 x2 x3:SV,v= .agg ⟨[.bool b1, .slice x1.a x1.n x1.c, .bool b2, .slice x2.a x2.n x2.c, .bool b3, .slice x3.a x3.n x3.c]⟩:=by
 obtain⟨m,rfl,g⟩:=ew.1 h;clear h;obtain⟨v1,m,rfl,h1,h⟩:=bi.1 g;obtain⟨v2,m,rfl,h2,h⟩:=bi.1 h;obtain⟨v3,m,rfl,h3,h⟩:=bi.1 h;obtain⟨v4,m,rfl,h4,h⟩:=bi.1 h;obtain⟨v5,m,rfl,h5,h⟩:=bi.1 h;obtain⟨v6,m,rfl,h6,h⟩:=bi.1 h;rw[en] at h;subst h;obtain⟨_,x1,_,rfl,_,_⟩:=gw.1 h2;obtain⟨_,x2,_,rfl,_,_⟩:=gw.1 h4;obtain⟨_,x3,_,rfl,_,_⟩:=gw.1 h6;rw[aH.1 h1,aH.1 h3,aH.1 h5];exact⟨x1,x2,x3,J⟩
def Sm:IsLs G (cT (.leaf b)) [.bool true, .bool b, .bool false, .slice none 0 0, .bool false, .slice none 0 0, .bool false, .slice none 0 0, .pointer none, .pointer none]:=by
 have hs:Is G (.sl []) (.slice none 0 0):=gw.2 ⟨0,⟨none,0,0⟩,[],J, .nil G 0, .nil⟩;exact .cons (aH.2 J) (.cons (aH.2 J) (.cons (aH.2 J) (.cons hs (.cons (aH.2 J) (.cons hs (.cons (aH.2 J) (.cons hs (.cons (aH.2 J) (.cons (aH.2 J) .nil)))))))))
def as5{acs:List Value}{a b c d e f l r:Value}(h:cx acs o 8=some [a,b,c,d,e,f,l,r]):cx acs (o+0) 6=some [a,b,c,d,e,f]/\acs[o+6]? =some l/\acs[o+7]? =some r:=by
 obtain⟨_,hg⟩:=qi _ _ _ _ h;have h7:=hg 7 (by decide);have hlen:=(aR.1 h7).1;refine⟨?_,hg 6 (by decide),h7⟩;rw[ln _ _ _ (by omega)];congr 1;apply lS;intro i;rw[oN];split
 .rename_i hi
  rw[mK];have:=hg i (by omega);rw[gK,this]
  match i,hi with
  |0,_=>rfl
  |1,_=>rfl
  |2,_=>rfl
  |3,_=>rfl
  |4,_=>rfl
  |5,_=>rfl
 .rename_i hi
  rw[fQ (by simp only[bZ,dS];omega)]
def WT{p q:DV}{a b c d e f:Value}(h:Is G (eL l) (.agg ⟨[a,b,c,d,e,f]⟩))(hp:Is G p v)(hq:Is G q w):IsLs G (Ug l p q) [.bool false, .bool false,a,b,c,d,e,f,v,w]:=by
 obtain⟨m,e',g⟩:=ew.1 h
 cases e'
 obtain⟨h1,g⟩:=g.uncons;obtain⟨h2,g⟩:=g.uncons;obtain⟨h3,g⟩:=g.uncons;obtain⟨h4,g⟩:=g.uncons;obtain⟨h5,g⟩:=g.uncons;obtain⟨h6,g⟩:=g.uncons;exact .cons (aH.2 J) (.cons (aH.2 J) (.cons h1 (.cons h2 (.cons h3 (.cons h4 (.cons h5 (.cons h6 (.cons hp (.cons hq .nil)))))))))
def RN.of(n:NQ):RN:=⟨⟨decide (n.l.a<0),dg n.l.a.natAbs,decide (n.l.b<0),dg n.l.b.natAbs,decide (n.l.c<0),dg n.l.c.natAbs⟩,n.a,n.b⟩
def XB(a:Int):qb (decide (a<0)) (dg a.natAbs)=a:=by
 unfold qb;rw[(fH _).1];split
 .rename_i h;have:=of_decide_eq_true h;omega
 .rename_i h;have: ¬a<0:=fun e=>h (decide_eq_true e);omega
def JW(a:Int):sk (decide (a<0)) (dg a.natAbs):=⟨(fH _).2.2,fun h=>ua.2 (by have:=of_decide_eq_true h;omega)⟩
def RN.of_l(n:NQ):(RN.of n).g.l=n.l:=by
 unfold RN.of RL.l;simp only[XB]
def RN.of_sm{n:NQ}(h:LB n.l):(RN.of n).g.sm:=by
 have key: ∀a:Int,a.natAbs<2^96->bE (dg a.natAbs)/\(dg a.natAbs).length<=3:=fun a ha=>⟨(fH _).2.1,by have:=kd ha;omega⟩;exact⟨key _ h.bl.a,key _ h.bl.b,key _ h.bl.c⟩
def Tr.all_imp{p q:aa->Prop}(h: ∀l,p l->q l): ∀{t:Tr},t.all p->t.all q
 | .leaf _,_=>trivial
 | .node _ _ _,⟨h0,h1,h2⟩=>⟨h _ h0,Tr.all_imp h h1,Tr.all_imp h h2⟩
end Go.Sx
end
