/- Part 17 of a proof. -/
import Derived.Test.YtopfgminkdfpkaaGreatDoorMp16
set_option linter.unusedSimpArgs false
set_option maxHeartbeats 4000000
set_option maxRecDepth 100000
set_option linter.unusedVariables false
section
namespace Go.Sx
open Go Go.Proofs Tryz
variable {GB:Gh}
theorem aDU(a b:Bool):eV ⟨0,0,a,b⟩= .ag [.v (.bool false), .sl [], .sl [], .v (.bool false), .sl [], .sl [], .v (.bool a), .v (.bool b)]:=by
 unfold eV dD
 simp only[show(0:Rat).num=0 from rfl,show(0:Rat).den=1 from rfl,jN,adq];rfl
theorem aBQ(t:Rat)(a b:Bool):eV ⟨t,0,a,b⟩= .ag [.v (.bool (decide (t.num<0))),dN t.num.natAbs,dD t.den, .v (.bool false), .sl [], .sl [], .v (.bool a), .v (.bool b)]:=by
 unfold eV dD
 simp only[show(0:Rat).num=0 from rfl,show(0:Rat).den=1 from rfl,jN,adq];rfl
theorem aD2(t:Rat)(a b:Bool):eV ⟨0,t,a,b⟩= .ag [.v (.bool false), .sl [], .sl [], .v (.bool (decide (t.num<0))),dN t.num.natAbs,dD t.den, .v (.bool a), .v (.bool b)]:=by
 unfold eV dD
 simp only[show(0:Rat).num=0 from rfl,show(0:Rat).den=1 from rfl,jN,adq];rfl
theorem azc{cuts:List Rat}{i:Nat}(h:i=0)(k: ¬i<cuts.length):afm cuts i=⟨0,0,decide (i=0),decide (i=cuts.length)⟩:=by unfold afm;rw[if_pos h,if_neg k]
theorem aAI{cuts:List Rat}{i:Nat}{y:Rat}(h:i=0)(k:cuts[i]? =some y):afm cuts i=⟨0,y,decide (i=0),decide (i=cuts.length)⟩:=by
 unfold afm;rw[if_pos h,if_pos (aL.1 k).1,aK,k];rfl
theorem ayV{cuts:List Rat}{i:Nat}{x:Rat}(h: ¬i=0)(k:cuts[i-1]? =some x)(k2: ¬i<cuts.length):afm cuts i=⟨x,0,decide (i=0),decide (i=cuts.length)⟩:=by
 unfold afm;rw[if_neg h,if_neg k2,aK,k];rfl
theorem aAB{cuts:List Rat}{i:Nat}{x y:Rat}(h: ¬i=0)(k:cuts[i-1]? =some x)(k2:cuts[i]? =some y):afm cuts i=⟨x,y,decide (i=0),decide (i=cuts.length)⟩:=by
 unfold afm;rw[if_neg h,if_pos (aL.1 k2).1,aK,k,aK,k2];rfl
theorem axi{cuts:List Rat}{marks:List Bool}{k:Nat}(h:marks[k]? =some false):adi cuts marks (k+1)=adi cuts marks k:=by
 rw[adi,aK,h];rfl
theorem agZ{cuts:List Rat}{marks:List Bool}{k:Nat}(h:marks[k]? =some true)(hp: ¬(0<k∧marks[k-1]? =some true)):adi cuts marks (k+1)=adi cuts marks k++[afm cuts k]:=by
 rw[adi,aK,h]
 show(if 0<k∧_ then _ else _)=_
 rw[if_neg]
 rintro ⟨h1,h2⟩
 rw[aK] at h2
 cases e:marks[k-1]? with
 |none=>rw[e] at h2;cases h2
 |some b=>rw[e] at h2;exact hp ⟨h1,by rw[e];simp at h2;rw[h2]⟩
theorem ap0{cuts:List Rat}{marks:List Bool}{k:Nat}(h:marks[k]? =some true):adi cuts marks (k+1)≠[]:=by
 rw[adi,aK,h]
 show(if 0<k∧_ then _ else _)≠[]
 split
 ·split<;>simp
 ·simp
theorem akJ{cuts:List Rat}{marks:List Bool}{k:Nat}{xs:List IvQ}{v:IvQ}(hk:0<k)(h:marks[k]? =some true)(hp:marks[k-1]? =some true)(hx:adi cuts marks k=xs)(hv:xs[xs.length-1]? =some v):adi cuts marks (k+1)=xs.set (xs.length-1) (amB v (afm cuts k)):=by
 rw[adi,aK,h]
 show(if 0<k∧_ then _ else _)=_
 rw[if_pos ⟨hk,by rw[aK,hp];rfl⟩,hx,kR,hv]
 have hn:0<xs.length:=by
  have:=(aL.1 hv).1;omega
 show xs.dropLast++[_]=_
 apply jY
 intro i
 rw[oJ]
 by_cases hi:i<xs.length-1
 ·rw[fJ (by rw[gR];exact hi),qL,if_pos hi,if_neg (by omega)]
 ·by_cases hi2:i=xs.length-1
  ·subst hi2
   rw[fM (by rw[gR];exact bQ _),gR,rN,if_pos rfl,if_pos (by omega)];rfl
  ·rw[cR (by rw[aV,gR];simp;omega),if_neg (by omega),cR (by omega)]
theorem afC{α:Type}{f:α→DV}{l:List α}{k:Nat}{x:α}(hk:0<k)(h:l[k-1]? =some x):(l.map f)[(((k:Nat):Int)-1).toNat]? =some (f x):=by
 rw[show(((k:Nat):Int)-1).toNat=k-1 by omega,dQ,h];rfl
theorem au1{k n:Nat}:decide (k=n)=decide (((k:Nat):Int)=((n:Nat):Int)):=decide_eq_decide.2 (by omega)
def aF3(v w:IvQ):IvQ:=⟨v.lo,w.hi,v.nl,v.nh⟩
theorem aCN{cuts:List Rat}{marks:List Bool}(hn:cuts.length≤100000)(hmk:marks.length≤cuts.length+1):PF GB prog 316 [.sl (cuts.map eQ), .sl (marks.map vB)] (.sl ((aoK cuts marks).map eV)):=by
 have hm:=aav vB marks
 have hmc:=aav eQ cuts
 refine fn (fu:=⟨15⟩) func316 J J ntmps316 J J (fun C=>?_)
 refine eqF 11 (.d (vI (marks.length:Nat))) rfl (by rw[hm]<;>rfl) ?_
 refine gx rfl<|?_
 refine nr 5 5 292 8 J J J ?_
 refine lp (X:=List IvQ×Nat) (fun⟨xs,k⟩=>[(12, .d (vI (k:Nat))),(5, .rw 5)]) (fun⟨xs,k⟩=>[(5,some (.b 292 8 (xs.map eV) true))]) (fun⟨xs,k⟩=>xs=adi cuts marks k∧k≤marks.length) (fun⟨xs,k⟩=>marks.length-k) ([],0) rfl ⟨rfl,bZ _⟩ (fun _=>rfl) (fun⟨xs,k⟩ hk=>?_)
 dsimp only at hk⊢
 obtain⟨h1,h2⟩:=hk
 have hml:=aav eV xs
 have hxl:xs.length≤k:=by rw[h1];exact ai7
 refine br J J J (fun hc13=>?_) (fun hc13=>?_)
 ·
  obtain⟨b,hz⟩: ∃s,marks[k]? =some s:=⟨_,aZ (by omega)⟩
  refine ix (fu:=⟨8⟩) _ rfl (aas hz) rfl<|?_
  cases b
  ·
   refine knF (fu:=⟨12⟩) J J J<|?_
   exact at_ (xs,k+1) (by dsimp only;exact⟨⟨by rw[axi hz,←h1],by omega⟩,(by omega)⟩)
  ·
   refine knT (fu:=⟨13⟩) J J J<|?_
   rcases(show(k=0∧k<cuts.length)∨(k=0∧ ¬k<cuts.length)∨(0<k∧k<cuts.length)∨(0<k∧ ¬k<cuts.length) by omega) with⟨c1,c2⟩|⟨c1,c2⟩|⟨c1,c2⟩|⟨c1,c2⟩
   ·
    obtain⟨y,hy⟩: ∃s,cuts[k]? =some s:=⟨_,aZ (by omega)⟩
    have hgap:=aAI (cuts:=cuts) (i:=k) c1 hy
    have hnp: ¬(0<k∧marks[k-1]? =some true):=fun e=>by omega
    refine eqF 23 (.d (vI (cuts.length:Nat))) rfl (by rw[hmc]<;>rfl) ?_
    refine gx (fu:=⟨10⟩) rfl<|knF (fu:=⟨11⟩) rfl (by show some (decide _)=some false;rw[decide_eq_false (by omega)]) rfl<|?_
    refine eqF 36 (.d (vI (cuts.length:Nat))) rfl (by rw[hmc]<;>rfl) ?_
    refine gx (fu:=⟨0⟩) rfl<|knT rfl (by show some (decide _)=some true;rw[decide_eq_true (by omega)]) rfl<|ix (fu:=⟨10⟩) _ rfl (aas hy) rfl<|?_
    refine eqF 44 (.d (vI (xs.length:Nat))) rfl (by rw[hml]<;>rfl) ?_
    refine gx (fu:=⟨6⟩) rfl<|knF (fu:=⟨19⟩) rfl (by show some (decide _)=some false;rw[decide_eq_false (by omega)]) rfl<|?_
    refine eqF 73 (.d (eV (afm cuts k))) rfl (by rw[hgap,aD2,au1 (k:=k) (n:=0),au1 (k:=k) (n:=cuts.length)]<;>rfl) ?_
    refine gx rfl<|rf J J<|ap (fu:=⟨12⟩) ((xs++[afm cuts k]).map eV) rfl (by rw[bJ];rfl) (aq1 [afm cuts k]) rfl<|?_
    refine rnE 75 5 rfl ?_
    exact at_ (xs++[afm cuts k],k+1) (by dsimp only;exact⟨⟨by rw[agZ hz hnp,←h1],by omega⟩,(by omega)⟩)
   ·
    have hgap:=azc (cuts:=cuts) (i:=k) c1 c2
    have hnp: ¬(0<k∧marks[k-1]? =some true):=fun e=>by omega
    refine eqF 23 (.d (vI (cuts.length:Nat))) rfl (by rw[hmc]<;>rfl) ?_
    refine gx (fu:=⟨10⟩) rfl<|knF (fu:=⟨11⟩) rfl (by show some (decide _)=some false;rw[decide_eq_false (by omega)]) rfl<|?_
    refine eqF 36 (.d (vI (cuts.length:Nat))) rfl (by rw[hmc]<;>rfl) ?_
    refine gx (fu:=⟨0⟩) rfl<|knF (fu:=⟨10⟩) rfl (by show some (decide _)=some false;rw[decide_eq_false (by omega)]) rfl<|?_
    refine eqF 44 (.d (vI (xs.length:Nat))) rfl (by rw[hml]<;>rfl) ?_
    refine gx (fu:=⟨6⟩) rfl<|knF (fu:=⟨19⟩) rfl (by show some (decide _)=some false;rw[decide_eq_false (by omega)]) rfl<|?_
    refine eqF 73 (.d (eV (afm cuts k))) rfl (by rw[hgap,aDU,au1 (k:=k) (n:=0),au1 (k:=k) (n:=cuts.length)]<;>rfl) ?_
    refine gx rfl<|rf J J<|ap (fu:=⟨12⟩) ((xs++[afm cuts k]).map eV) rfl (by rw[bJ];rfl) (aq1 [afm cuts k]) rfl<|?_
    refine rnE 75 5 rfl ?_
    exact at_ (xs++[afm cuts k],k+1) (by dsimp only;exact⟨⟨by rw[agZ hz hnp,←h1],by omega⟩,(by omega)⟩)
   ·
    obtain⟨x,hx⟩: ∃s,cuts[k-1]? =some s:=⟨_,aZ (by omega)⟩
    obtain⟨pb,hpb⟩: ∃s,marks[k-1]? =some s:=⟨_,aZ (by omega)⟩
    obtain⟨y,hy⟩: ∃s,cuts[k]? =some s:=⟨_,aZ (by omega)⟩
    have hgap:=aAB (cuts:=cuts) (i:=k) (by omega) hx hy
    refine eqF 23 (.d (vI (cuts.length:Nat))) rfl (by rw[hmc]<;>rfl) ?_
    refine gx (fu:=⟨10⟩) rfl<|knT rfl (by show some (decide _)=some true;rw[decide_eq_true (by omega)]) rfl<|ix (fu:=⟨11⟩) _ rfl (afC (by omega) hx) rfl<|?_
    refine eqF 36 (.d (vI (cuts.length:Nat))) rfl (by rw[hmc]<;>rfl) ?_
    refine gx (fu:=⟨0⟩) rfl<|knT rfl (by show some (decide _)=some true;rw[decide_eq_true (by omega)]) rfl<|ix (fu:=⟨10⟩) _ rfl (aas hy) rfl<|?_
    refine eqF 44 (.d (vI (xs.length:Nat))) rfl (by rw[hml]<;>rfl) ?_
    refine gx (fu:=⟨6⟩) rfl<|knT rfl (by show some (decide _)=some true;rw[decide_eq_true (by omega)]) rfl<|ix _ rfl (afC (by omega) hpb) rfl<|?_
    refine csb (fu1:=⟨1⟩) (fu2:=⟨11⟩) 54 J J J (fun hg54=>?_) (fun hg54=>?_)
    ·
     have hpb':marks[k-1]? =some true:=by rw[hpb];congr 1
     have hxn:0<xs.length:=by rw[h1];have:=ap0 (cuts:=cuts) hpb';rw[show k-1+1=k by omega] at this;exact lK.2 this
     obtain⟨w,hw⟩: ∃s,xs[xs.length-1]? =some s:=⟨_,aZ (by omega)⟩
     refine knT rfl (by show some (decide _)=some true;rw[decide_eq_true (by omega)]) rfl<|sb (eV w) ((xs.set (xs.length-1) (⟨w.lo,y,w.nl,w.nh⟩:IvQ)).map eV) rfl (afC hxn hw) rfl (by rw[show(((xs.length:Nat):Int)-1).toNat=xs.length-1 by omega,jL];rfl) rfl<|?_
     refine sb (hv:=by simp only[aag];exact⟨by kernel_rfl,by omega⟩) (eV (⟨w.lo,y,w.nl,w.nh⟩:IvQ)) ((xs.set (xs.length-1) (amB w (afm cuts k))).map eV) rfl (by rw[show(((xs.length:Nat):Int)-1).toNat=xs.length-1 by omega,jL,lV (by rw[hml];omega)]) rfl (by rw[show(((xs.length:Nat):Int)-1).toNat=xs.length-1 by omega,jL,List.set_set,jL,hgap];unfold amB;dsimp only;rw[au1 (k:=k) (n:=cuts.length)]<;>rfl) rfl<|?_
     exact at_ (xs.set (xs.length-1) (amB w (afm cuts k)),k+1) (by dsimp only;exact⟨⟨(akJ (by omega) hz hpb' h1.symm hw).symm,by omega⟩,(by omega)⟩)
    ·
     have hnp: ¬(0<k∧marks[k-1]? =some true):=fun e=>by rw[hpb,hg54] at e;simpa using e.2
     refine eqF 73 (.d (eV (afm cuts k))) rfl (by rw[hgap];unfold eV;dsimp only;rw[au1 (k:=k) (n:=0),au1 (k:=k) (n:=cuts.length)]<;>rfl) ?_
     refine gx rfl<|rf J J<|ap (fu:=⟨12⟩) ((xs++[afm cuts k]).map eV) rfl (by rw[bJ];rfl) (aq1 [afm cuts k]) rfl<|?_
     refine rnE 75 5 rfl ?_
     exact at_ (xs++[afm cuts k],k+1) (by dsimp only;exact⟨⟨by rw[agZ hz hnp,←h1],by omega⟩,(by omega)⟩)
   ·
    obtain⟨x,hx⟩: ∃s,cuts[k-1]? =some s:=⟨_,aZ (by omega)⟩
    obtain⟨pb,hpb⟩: ∃s,marks[k-1]? =some s:=⟨_,aZ (by omega)⟩
    have hgap:=ayV (cuts:=cuts) (i:=k) (by omega) hx c2
    refine eqF 23 (.d (vI (cuts.length:Nat))) rfl (by rw[hmc]<;>rfl) ?_
    refine gx (fu:=⟨10⟩) rfl<|knT rfl (by show some (decide _)=some true;rw[decide_eq_true (by omega)]) rfl<|ix (fu:=⟨11⟩) _ rfl (afC (by omega) hx) rfl<|?_
    refine eqF 36 (.d (vI (cuts.length:Nat))) rfl (by rw[hmc]<;>rfl) ?_
    refine gx (fu:=⟨0⟩) rfl<|knF (fu:=⟨10⟩) rfl (by show some (decide _)=some false;rw[decide_eq_false (by omega)]) rfl<|?_
    refine eqF 44 (.d (vI (xs.length:Nat))) rfl (by rw[hml]<;>rfl) ?_
    refine gx (fu:=⟨6⟩) rfl<|knT rfl (by show some (decide _)=some true;rw[decide_eq_true (by omega)]) rfl<|ix _ rfl (afC (by omega) hpb) rfl<|?_
    refine csb (fu1:=⟨1⟩) (fu2:=⟨11⟩) 54 J J J (fun hg54=>?_) (fun hg54=>?_)
    ·
     have hpb':marks[k-1]? =some true:=by rw[hpb];congr 1
     have hxn:0<xs.length:=by rw[h1];have:=ap0 (cuts:=cuts) hpb';rw[show k-1+1=k by omega] at this;exact lK.2 this
     obtain⟨w,hw⟩: ∃s,xs[xs.length-1]? =some s:=⟨_,aZ (by omega)⟩
     refine knT rfl (by show some (decide _)=some true;rw[decide_eq_true (by omega)]) rfl<|sb (eV w) ((xs.set (xs.length-1) (⟨w.lo,0,w.nl,w.nh⟩:IvQ)).map eV) rfl (afC hxn hw) rfl (by rw[show(((xs.length:Nat):Int)-1).toNat=xs.length-1 by omega,jL,aBQ];rfl) rfl<|?_
     refine sb (hv:=by simp only[aag];exact⟨by kernel_rfl,by omega⟩) (eV (⟨w.lo,0,w.nl,w.nh⟩:IvQ)) ((xs.set (xs.length-1) (amB w (afm cuts k))).map eV) rfl (by rw[show(((xs.length:Nat):Int)-1).toNat=xs.length-1 by omega,jL,lV (by rw[hml];omega)]) rfl (by rw[show(((xs.length:Nat):Int)-1).toNat=xs.length-1 by omega,jL,List.set_set,jL,hgap];unfold amB;dsimp only;rw[au1 (k:=k) (n:=cuts.length)]<;>rfl) rfl<|?_
     exact at_ (xs.set (xs.length-1) (amB w (afm cuts k)),k+1) (by dsimp only;exact⟨⟨(akJ (by omega) hz hpb' h1.symm hw).symm,by omega⟩,(by omega)⟩)
    ·
     have hnp: ¬(0<k∧marks[k-1]? =some true):=fun e=>by rw[hpb,hg54] at e;simpa using e.2
     refine eqF 73 (.d (eV (afm cuts k))) rfl (by rw[hgap,aBQ,au1 (k:=k) (n:=0),au1 (k:=k) (n:=cuts.length)]<;>rfl) ?_
     refine gx rfl<|rf J J<|ap ((xs++[afm cuts k]).map eV) rfl (by rw[bJ];rfl) (aq1 [afm cuts k]) rfl<|?_
     refine rnE 75 5 rfl ?_
     exact at_ (xs++[afm cuts k],k+1) (by dsimp only;exact⟨⟨by rw[agZ hz hnp,←h1],by omega⟩,(by omega)⟩)
 ·
  have hfin:aoK cuts marks=xs:=by rw[h1,aoK,show k=marks.length by omega]
  refine fzE 5 rfl ?_
  exact rz rfl (by rw[hfin];rfl)
theorem alg{g:Rat}: ∀{l:List Rat},g∈adX l→ ∃a∈l,∃b∈l,g=(a+b)/2
 |[],h=>by cases h
 |[_],h=>by cases h
 |a::b::t,h=>by
  rw[adX] at h
  rcases aW.1 h with rfl|h
  ·exact⟨a,aQ,b,aX _ aQ,rfl⟩
  ·obtain⟨c,hc,d,hd,e⟩:=alg h
   exact⟨c,aX _ hc,d,aX _ hd,e⟩
theorem azB{l:List Rat}(h: ∀q∈l,BQ q 1200): ∀g∈aaY l,BQ g 2500:=fun g hg=>by
 cases l with
 |nil=>
  rw[aaY,aU] at hg;subst hg
  exact BQ.mono (k:=1) ⟨by decide,by decide⟩ (by decide)
 |cons a t=>
  rw[aaY] at hg
  rcases aW.1 hg with rfl|hg
  ·haveI:=h a aQ
   exact BQ.mono (inferInstance:BQ (a-1) _) (by omega)
  ·rcases bK.1 hg with hg|hg
   ·obtain⟨c,hc,d,hd,rfl⟩:=alg hg
    haveI:=h c hc
    haveI:=h d hd
    exact BQ.mono (inferInstance:BQ ((c+d)/2) _) (by omega)
   ·rw[aU] at hg
    haveI:=h _ (List.getLast_mem (l:=a::t) (by simp))
    subst hg
    exact BQ.mono (inferInstance:BQ ((a::t).getLast (by simp)+1) _) (by omega)
theorem akY(l:List IvQ):ajo l l.length=aeK l:=by unfold ajo;rw[fX]
theorem av1{l:List IvQ}(h: ∀v∈l,IvB v): ∀y∈aeK l,BQ y 1200:=by rw[←akY];exact aqd h
theorem ai2(l:List IvQ):(aeK l).length≤2*l.length:=by rw[←akY];exact agy l _
theorem IvB.app{a b:List IvQ}(ha: ∀v∈a,IvB v)(hb: ∀v∈b,IvB v): ∀v∈a++b,IvB v:=fun v hv=>(bK.1 hv).elim (ha v) (hb v)
theorem ant{a b:List IvQ}(ha: ∀v∈a,IvB v)(hb: ∀v∈b,IvB v)(hna:a.length≤100)(hnb:b.length≤100):PF GB prog 299 [vI 2, .sl (a.map eV), .sl (b.map eV)] (.sl ((ajc 2 a b).map eV)):=by
 obtain⟨cuts,hcu⟩: ∃c,c=aeK (a++b):=⟨_,rfl⟩
 have hab:=IvB.app ha hb
 have hcb: ∀q∈cuts,BQ q 1200:=by rw[hcu];exact av1 hab
 have hcl:cuts.length≤2*(a.length+b.length):=by rw[hcu];have:=ai2 (a++b);rw[aV] at this;exact this
 have hgb:=azB hcb
 have hgl:=aeq (l:=cuts)
 have hmp:=aav eQ (aaY cuts)
 refine fn func299 J J ntmps299 J J (fun C=>?_)
 refine ro0 J J<|ap (a.map eV) J J (aq1 _) rfl<|apf ((a++b).map eV) rfl (by rw[bJ]) (aq1 b) rfl<|cl (fu:=⟨0⟩) rfl (aCj (l:=a++b) hab (by rw[aV];omega)) rfl<|?_
 refine eqF 19 (.d (.sl (cuts.map eQ))) rfl (by rw[hcu]) ?_
 refine gx rfl<|cl (fu:=⟨1⟩) rfl (awg (cuts:=cuts) hcb (by omega)) rfl<|?_
 refine eqF 22 (.d (vI ((cuts.length+1:Nat):Int))) rfl (by rw[hmp,hgl]<;>rfl) ?_
 refine gx rfl<|?_
 refine nr 8 8 4 1 J J J ?_
 refine lp (X:=Nat) (fun k=>[(23, .d (vI (k:Nat))),(8, .rw 8)]) (fun k=>[(8,some (.b 4 1 ((((aaY cuts).map (fun t=>ahr 2 (acS a t) (acS b t))).take k).map vB) true))]) (fun k=>k≤cuts.length+1) (fun k=>cuts.length+1-k) 0 rfl (bZ _) (fun _=>rfl) (fun k hk=>?_)
 have hml:(((((aaY cuts).map (fun t=>ahr 2 (acS a t) (acS b t))).take k).map vB)).length=k:=by rw[aJ,cV,aJ,hgl];omega
 refine br (fu2:=⟨0⟩) J J J (fun hc24=>?_) (fun hc24=>?_)
 ·
  obtain⟨t,hz⟩: ∃s,(aaY cuts)[k]? =some s:=⟨_,aZ (by omega)⟩
  haveI:=hgb t (aM hz)
  have hz2:((aaY cuts).map (fun t=>ahr 2 (acS a t) (acS b t)))[k]? =some (ahr 2 (acS a t) (acS b t)):=by rw[dQ,hz];rfl
  refine ix _ rfl (aas hz) rfl<|cl rfl (aDc (l:=a) (t:=t) ha (by omega)) rfl<|cl (fu:=⟨6⟩) rfl (aDc (l:=b) (t:=t) hb (by omega)) rfl<|?_
  cases hx:acS a t
  ·
   refine knF (fu:=⟨15⟩) J J J<|knT (fu:=⟨5⟩) J J J<|knF J J J<|rf J J<|ap (fu:=⟨8⟩) ((((aaY cuts).map (fun t=>ahr 2 (acS a t) (acS b t))).take (k+1)).map vB) rfl (by rw[←abu hz2,hx];rfl) (aCA [false]) rfl<|?_
   refine rnE 59 8 rfl ?_
   exact at_ (k+1) ⟨(by omega),(by omega)⟩
  ·
   refine knT (fu:=⟨15⟩) J J J<|knT (fu:=⟨5⟩) J J J<|knT J J J<|rf J J<|ap ((((aaY cuts).map (fun t=>ahr 2 (acS a t) (acS b t))).take (k+1)).map vB) rfl (by rw[←abu hz2,hx];rfl) (aCA [_]) rfl<|?_
   refine rnE 59 8 rfl ?_
   exact at_ (k+1) ⟨(by omega),(by omega)⟩
 ·
  obtain rfl:k=cuts.length+1:=by omega
  have htk:((aaY cuts).map (fun t=>ahr 2 (acS a t) (acS b t))).take (cuts.length+1)=(aaY cuts).map (fun t=>ahr 2 (acS a t) (acS b t)):=aT (by rw[aJ,hgl];exact bQ _)
  rw[htk]
  refine fzC 8 rfl ?_
  refine gx rfl<|cl rfl (aCN (cuts:=cuts) (marks:=(aaY cuts).map (fun t=>ahr 2 (acS a t) (acS b t))) (by omega) (by rw[aJ,hgl];exact bQ _)) rfl<|?_
  exact rz rfl (by unfold ajc;rw[←hcu];rfl)
section
variable {GB:Gh} {C:Ctx} {n:Nat} {Q0:Exit→Act→World→Prop} {fr fr':FrX} {own own':OwX} {cf cf':Cf} {vc:List Prop}
theorem aDp{lk:LK}{bk:BM}{dst:Option Nat}{t ty':TypeId}{pos:String}{af:Array Edge}{gd:Option (Nat×Bool)}{x y:Operand}{e len s nm off:Nat}{k:IntKind}{i:Nat}(hu:prog.underlying t=some (.array len e))(hs:(prog.info? e).map (·.size)=some s)
  (e1:evX lk x=some (.ov nm off))(e2:evX lk y=some (.d (.v (.int k (i:Nat)))))(hi:i<len):OpR prog GB C n lk bk ⟨dst, .indexAddr t x y,ty',pos,af,gd⟩ (.ov nm (off+i*s)) [] []:= .yd fun ρ G ov a w r=>by
 obtain⟨p,h1,h2⟩:=r.ev e1
 obtain⟨q,h3,h4⟩:=r.ev e2
 rw[aax] at h4;subst h4
 obtain⟨b,hb,rfl⟩:=h2
 refine⟨_,⟨b,hb,rfl⟩,?_⟩
 obtain⟨j,hj,hjs⟩: ∃j,prog.info? e=some j∧j.size=s:=by
  cases h:prog.info? e with
  |none=>rw[h] at hs;cases hs
  |some j=>rw[h] at hs;exact⟨j,rfl,by simpa using hs⟩
 intro a' w' hf hh
 simp only[execOp,aad hf h1,aad hf h3]
 have:(Instr.indexAt t (.pointer (some ⟨b,off,none⟩)) (.int k (i:Nat))).run prog w'= .ok (.pointer (some ⟨b,off+i*s,none⟩)) w':=by
  unfold Instr.indexAt
  show(underlying t>>=_).run prog w'=_
  rw[aaa (aed hu w')]
  show(underlying t>>=_).run prog w'=_
  rw[aaa (aed hu w')]
  have h0:0≤((i:Nat):Int):=Int.natCast_nonneg i
  have h1:((i:Nat):Int)<((len:Nat):Int):=by omega
  simp only[h0,h1,and_self,if_true]
  show(sizeOf e>>=_).run prog w'=_
  rw[aaa (agn hj w'),acu,hjs,bX]
  rfl
 exact aam this
def aFv(fr:FrX)(cf:Cf):Option (TypeId×Nat×Nat×Int):=match opC fr cf with
 |some ⟨_, .indexAddr t x y,_,_,_,_⟩=>match evX (lkC fr cf) x with
  |some (.ov nm off)=>match evX (lkC fr cf) y with
   |some (.d (.v (.int _ i)))=>some (t,nm,off,i)
   |_=>none
  |_=>none
 |_=>none
theorem ixa[fu:Fu](i:Nat){t nm off e len s:Nat}(h:aFv fr cf=some (t,nm,off,((i:Nat):Int)))(hu:prog.underlying t=some (.array len e))(hs:(prog.info? e).map (·.size)=some s)(hi:i<len)
  (hgo:goA tt n fu.n fr own cf (.ov nm (off+i*s)) [] []=⟨vc,fr',own',cf'⟩)(k:CfS prog GB C n Q0 fr' own' cf')
  (hv:aag vc:=by first|exact trivial|(simp only[aag];kernel_rfl)|(simp only[aag];omega)):CfS prog GB C n Q0 fr own cf:=by
 unfold aFv at h
 split at h<;>try (cases h;done)
 rename_i hh
 split at h<;>try (cases h;done)
 rename_i hx
 split at h<;>cases h
 rename_i hy
 exact us hh (aDp hu hs hx hy hi) hgo hv k
theorem aB9{lk:LK}{bk:BM}{d s:Nat}{e t ty':TypeId}{pos:String}{af:Array Edge}{gd:Option (Nat×Bool)}{ps:List (Nat×Operand)}{fo:List (Nat×Nat×Nat)}{i:TI}{z zx:List FX}{k:Nat}{pre post:List DV}(hi:afl prog t=some i)(hk:i.k= .st fo)(hz:i.z=some z)
  (hb:axE lk fo z ps=some zx)(h0:zx[k]? =some .nl)(h1:ael (zx.take k)=some pre)(h2:ael (zx.drop (k+1))=some post):OpR prog GB C n lk bk ⟨some d, .build t ⟨ps⟩,ty',pos,af,gd⟩ (.bx false pre d post) [(d,some (.b e s [] true))] [d]:=by
 intro hd tl tb K' s1 s2 hf hk'
 refine⟨fun ρ G ov a w r Q=>?_⟩
 obtain⟨v,hv,hv'⟩:=alZ hi hz
 have:=ax8 hi hk
 have hsp:zx=zx.take k++ .nl::zx.drop (k+1):=by
  obtain⟨hk1,hk2⟩:=aL.1 h0
  conv=>lhs;rw[←jU k zx,aS hk1,hk2]
 obtain⟨l,h1',h2'⟩:=alC (r.mono s1 s2) (fo:=fo) ps _ _ _ hb (hv' ρ G)
 rw[hsp] at h2'
 obtain⟨m1,m2',rfl,k1,y,m2,rfl,k2,k3⟩:=akO h2'
 cases (show y= .slice none 0 0 from k2)
 have hy:Yd prog C (frA a) ov G ⟨some d, .build t ⟨ps⟩,ty',pos,af,gd⟩ (.agg ⟨m1++Value.slice none 0 0::m2⟩):=ale h1'
 have r3:=r.new' (x:=⟨none,0,0⟩) (B':= .b e s [] true) (os:=[]) (ov':=ov) (f:= .bx false pre d post) (y:= .agg ⟨m1++Value.slice none 0 0::m2⟩) hf (GLe.refl G) r.h
  ⟨[],by simp only[if_true];exact .inl ⟨rfl,rfl,rfl⟩, .nil,by simp,fun _ o ho=>by cases ho⟩ (fun o ho=>by cases ho) (fun m B _ _ o ho _=>⟨ho,by simp⟩)
  ⟨m1,m2,by simp,ada k1 h1,ada k3 h2⟩ (r.putA _ hd)
 exact abb (hy a w (aaN a) r.h) (hk'.run _ G ov _ w r3)
def aFN(fr:FrX)(cf:Cf):Option (Nat×List FX):=match opC fr cf with
 |some ⟨some d, .build t ⟨ps⟩,_,_,_,_⟩=>match abk tt t with
  |some ⟨.st fo,_,some zx,_⟩=>match axE (lkC fr cf) fo zx ps with
   |some l=>some (d,l)
   |none=>none
  |_=>none
 |_=>none
theorem bzp[fu:Fu]{d:Nat}{zx:List FX}(e s kk:Nat)(pre post:List DV)(h:aFN fr cf=some (d,zx))(h0:zx[kk]? =some .nl)(h1:ael (zx.take kk)=some pre)(h2:ael (zx.drop (kk+1))=some post)(hgo:goA tt n fu.n fr own cf (.bx false pre d post) [(d,some (.b e s [] true))] [d]=⟨vc,fr',own',cf'⟩)(k:CfS prog GB C n Q0 fr' own' cf')
  (hv:aag vc:=by first|exact trivial|(simp only[aag];kernel_rfl)|(simp only[aag];omega)):CfS prog GB C n Q0 fr own cf:=by
 unfold aFN at h
 split at h<;>try (cases h;done)
 rename_i hh
 split at h<;>try (cases h;done)
 rename_i hT
 split at h<;>cases h
 rename_i hb
 exact us hh (aB9 (abK _ _ hT) J J hb h0 h1 h2) hgo hv k
end
def sp1(f:FrQ)(m:LnQ)(k:Nat):List FrQ:=if k=0 then [] else aa4 f m 1
def sp2(f:FrQ)(m:LnQ)(k:Nat):List FrQ:=if k≤1 then [] else aa4 f m (-1)
theorem apy{l m:LnQ}(hl:LB l)(hm:LB m)(hlo:l.ok){side:Int}: ∀v∈aeg l m side,IvB v:=fun v hv=>⟨(aom hl hm hlo v hv).2.1,(aom hl hm hlo v hv).2.2⟩
theorem agz{l m:LnQ}{side:Int}:(aeg l m side).length≤1:=by
 unfold aeg;split
 ·split<;>simp
 ·split<;>simp
theorem aqn(op:Int)(a b:List IvQ):(ajc op a b).length≤2*(a.length+b.length)+1:=by
 unfold ajc aoK
 refine cW ai7 ?_
 rw[aJ,aeq]
 have:=ai2 (a++b);rw[aV] at this;omega
theorem aAH{f:FrQ}{m:LnQ}(h:FOk f)[hm:LB m](hmo:m.ok):PF GB prog 264 [eFF f,eL m] (.tp [.sl ((aa4 f m 1).map eFF), .sl ((aa4 f m (-1)).map eFF)]):=by
 haveI:=h.lb
 refine fn func264 J J ntmps264 J J (fun C=>?_)
 refine rf (fu:=⟨1⟩) J J<|?_
 refine eqF 14 (.d (vI (2:Nat))) J J ?_
 refine gx rfl<|?_
 refine nro 6 0 60 303 14 J J J J J ?_
 refine nro 6 1 61 303 14 J J J J J ?_
 refine lp (X:=Nat) (fun k=>[(15, .d (vI (k:Nat))),(6, .ov 6 0)]) (fun k=>[(6,some (.o 374 [.rw 60, .rw 61] true)),(60,some (.b 303 14 ((sp1 f m k).map eFF) true)),(61,some (.b 303 14 ((sp2 f m k).map eFF) true))]) (fun k=>k≤2) (fun k=>2-k) 0 rfl (by omega) (fun _=>rfl) (fun k hk=>?_)
 refine br J J J (fun hc16=>?_) (fun hc16=>?_)
 ·
  rcases(show k=0∨k=1 by omega) with rfl|rfl
  ·
   refine ix _ J J J<|cl (fu:=⟨0⟩) rfl (arA (l:=f.l) (m:=m) (side:=1) h.ok hmo (.inl rfl)) rfl<|?_
   obtain⟨cs,hcs⟩: ∃c,c=ajc 2 [f.v] (aeg f.l m 1):=⟨_,rfl⟩
   have hcl:cs.length≤5:=by rw[hcs];have h1:=aqn 2 [f.v] (aeg f.l m 1);have h2:=agz (l:=f.l) (m:=m) (side:=1);simp only[dK] at h1;omega
   refine eqF 25 (.d (.tp [.sl ((aeg f.l m 1).map eV),vB (onB f.l m)])) J J ?_
   refine gx rfl<|?_
   refine bb J J J (fun hc28=>?_) (fun hc28=>?_)
   ·
    have hon:onB f.l m=true:=hc28
    exact rz rfl (by first|(unfold aa4;rw[if_pos hon,if_pos hon];rfl)|rfl)
   ·
    have hon:onB f.l m=false:=by simpa using hc28
    refine rf J J<|cl (fu:=⟨0⟩) rfl (ant (a:=[f.v]) (b:=aeg f.l m 1) (fun v hv=>by rw[aU] at hv;subst hv;exact⟨h.lo,h.hi⟩) (apy h.lb hm h.ok) (by show 1≤100;decide) (by have:=agz (l:=f.l) (m:=m) (side:=1);omega)) rfl<|?_
    refine eqF 33 (.d (.sl (cs.map eV))) rfl (by rw[hcs]) ?_
    refine gx (fu:=⟨1⟩) rfl<|?_
    refine eqF 34 (.d (vI (cs.length:Nat))) rfl (by rw[aav eV cs]<;>rfl) ?_
    refine gx rfl<|?_
    refine lp (X:=Nat) (fun j=>[(35, .d (vI (j:Nat)))]) (fun j=>[(60,some (.b 303 14 (((cs.take j).map fun v=>(⟨f.l,v⟩:FrQ)).map eFF) true))]) (fun j=>j≤cs.length) (fun j=>cs.length-j) 0 rfl (bZ _) (fun _=>rfl) (fun j hk=>?_)
    have hml:(((cs.take j).map fun v=>(⟨f.l,v⟩:FrQ)).map eFF).length≤j:=by rw[aJ,aJ,cV];omega
    refine br J J J (fun hc36=>?_) (fun hc36=>?_)
    ·
     obtain⟨z,hz⟩: ∃s,cs[j]? =some s:=⟨_,aZ (by omega)⟩
     refine ix _ rfl (aas hz) rfl<|ixa 0 (e:=296) (len:=2) (s:=1) rfl (by kernel_rfl) (by kernel_rfl) (by decide) rfl<|rf J J<|?_
     refine ap (((cs.take (j+1)).map fun v=>(⟨f.l,v⟩:FrQ)).map eFF) rfl (by rw[←abu hz,bJ];rfl) (akt [⟨f.l,z⟩]) rfl<|ixa (hv:=by simp only[aag];exact⟨by kernel_rfl,by omega⟩) 0 (e:=296) (len:=2) (s:=1) rfl (by kernel_rfl) (by kernel_rfl) (by decide) rfl<|?_
     refine rnE 48 60 rfl ?_
     exact at_ (j+1) ⟨(by omega),(by omega)⟩
    ·
     obtain rfl:j=cs.length:=by omega
     rw[show(cs.take cs.length).map (fun v=>(⟨f.l,v⟩:FrQ))=aa4 f m 1 from by rw[fX];unfold aa4;rw[if_neg (by rw[hon];decide),←hcs]]
     exact at_ (0+1) ⟨(by omega),(by omega)⟩
  ·
   refine ix _ J J J<|cl (fu:=⟨0⟩) rfl (arA (l:=f.l) (m:=m) (side:= -1) h.ok hmo (.inr rfl)) rfl<|?_
   obtain⟨cs,hcs⟩: ∃c,c=ajc 2 [f.v] (aeg f.l m (-1)):=⟨_,rfl⟩
   have hcl:cs.length≤5:=by rw[hcs];have h1:=aqn 2 [f.v] (aeg f.l m (-1));have h2:=agz (l:=f.l) (m:=m) (side:=(-1));simp only[dK] at h1;omega
   refine eqF 25 (.d (.tp [.sl ((aeg f.l m (-1)).map eV),vB (onB f.l m)])) J J ?_
   refine gx rfl<|?_
   refine bb J J J (fun hc28=>?_) (fun hc28=>?_)
   ·
    have hon:onB f.l m=true:=hc28
    exact rz rfl (by first|(unfold aa4;rw[if_pos hon,if_pos hon];rfl)|rfl)
   ·
    have hon:onB f.l m=false:=by simpa using hc28
    refine rf J J<|cl (fu:=⟨0⟩) rfl (ant (a:=[f.v]) (b:=aeg f.l m (-1)) (fun v hv=>by rw[aU] at hv;subst hv;exact⟨h.lo,h.hi⟩) (apy h.lb hm h.ok) (by show 1≤100;decide) (by have:=agz (l:=f.l) (m:=m) (side:=(-1));omega)) rfl<|?_
    refine eqF 33 (.d (.sl (cs.map eV))) rfl (by rw[hcs]) ?_
    refine gx (fu:=⟨1⟩) rfl<|?_
    refine eqF 34 (.d (vI (cs.length:Nat))) rfl (by rw[aav eV cs]<;>rfl) ?_
    refine gx rfl<|?_
    refine lp (X:=Nat) (fun j=>[(35, .d (vI (j:Nat)))]) (fun j=>[(61,some (.b 303 14 (((cs.take j).map fun v=>(⟨f.l,v⟩:FrQ)).map eFF) true))]) (fun j=>j≤cs.length) (fun j=>cs.length-j) 0 rfl (bZ _) (fun _=>rfl) (fun j hk=>?_)
    have hml:(((cs.take j).map fun v=>(⟨f.l,v⟩:FrQ)).map eFF).length≤j:=by rw[aJ,aJ,cV];omega
    refine br J J J (fun hc36=>?_) (fun hc36=>?_)
    ·
     obtain⟨z,hz⟩: ∃s,cs[j]? =some s:=⟨_,aZ (by omega)⟩
     refine ix _ rfl (aas hz) rfl<|ixa 1 (e:=296) (len:=2) (s:=1) rfl (by kernel_rfl) (by kernel_rfl) (by decide) rfl<|rf J J<|?_
     refine ap (((cs.take (j+1)).map fun v=>(⟨f.l,v⟩:FrQ)).map eFF) rfl (by rw[←abu hz,bJ];rfl) (akt [⟨f.l,z⟩]) rfl<|ixa (hv:=by simp only[aag];exact⟨by kernel_rfl,by omega⟩) 1 (e:=296) (len:=2) (s:=1) rfl (by kernel_rfl) (by kernel_rfl) (by decide) rfl<|?_
     refine rnE 48 61 rfl ?_
     exact at_ (j+1) ⟨(by omega),(by omega)⟩
    ·
     obtain rfl:j=cs.length:=by omega
     rw[show(cs.take cs.length).map (fun v=>(⟨f.l,v⟩:FrQ))=aa4 f m (-1) from by rw[fX];unfold aa4;rw[if_neg (by rw[hon];decide),←hcs]]
     exact at_ (1+1) ⟨(by omega),(by omega)⟩
 ·
  obtain rfl:k=2:=by omega
  refine ixa 0 (e:=296) (len:=2) (s:=1) rfl (by kernel_rfl) (by kernel_rfl) (by decide) rfl<|ixa 1 (e:=296) (len:=2) (s:=1) rfl (by kernel_rfl) (by kernel_rfl) (by decide) rfl<|?_
  refine fzE 60 rfl ?_
  refine fzE 61 rfl ?_
  exact rz rfl (by first|(unfold aa4;rw[if_pos hon,if_pos hon];rfl)|rfl)
def eZp(p:ZP):DV:=eP p.q
def eRg(r:List ZP):DV:= .sl (r.map eZp)
theorem aAz(l:List ZP):ads 6 (l.map eZp):=fun d hd=>by
 obtain⟨u,_,rfl⟩:=bU.1 hd;exact⟨rfl,rfl⟩
theorem ayB(l:List (List ZP)):ads 1 (l.map eRg):=fun d hd=>by
 obtain⟨u,_,rfl⟩:=bU.1 hd;exact⟨rfl,rfl⟩
theorem aDS{r:List ZP}{i:Nat}(h:i<r.length):(r.map eZp)[((i:Nat):Int).toNat]? =some (eZp (r.getD i (0,0))):=by
 rw[bX,dQ,aK,aZ h];rfl
theorem aCF{r:List ZP}{i:Nat}(h:i<r.length):(r.map eZp)[(((i+1)%r.length:Nat):Int).toNat]? =some (eZp (afZ r i)):=aDS (dZ _ (by omega))
theorem aB8(v w p:PtQ):(axe v w p).natAbs≤1:=by
 unfold axe;split<;>split<;>decide
theorem alo(r:List ZP)(p:PtQ): ∀k,(asO r p k).natAbs≤k
 |0=>bQ _
 |k+1=>by rw[asO];have:=alo r p k;have:=aB8 (r.getD k (0,0)).q (afZ r k).q p;omega
theorem asd{r:List ZP}(h:aby r):PF GB prog 220 [.sl (r.map eZp)] (.sl ((adc r).map eFF)):=by
 have hm:=aav eZp r
 have h3:=h.n3
 have h6:=h.n6
 refine fn (fu:=⟨15⟩) func220 J J ntmps220 J J (fun C=>?_)
 refine eqF 8 (.d (vI (r.length:Nat))) rfl (by rw[hm]<;>rfl) ?_
 refine gx rfl<|?_
 refine nr 3 3 303 14 J J J ?_
 refine lp (X:=Nat) (fun k=>[(9, .d (vI (k:Nat))),(3, .rw 3)]) (fun k=>[(3,some (.b 303 14 ((agL r k).map eFF) true))]) (fun k=>k≤r.length) (fun k=>r.length-k) 0 rfl (bZ _) (fun _=>rfl) (fun k hk=>?_)
 have hel:=fun hh=>(ajM (k:=k) h hh).1
 refine br J J J (fun hc10=>?_) (fun hc10=>?_)
 ·
  have hkr:k<r.length:=by omega
  have hel:=hel (by omega)
  have hem:=aav eFF (agL r k)
  refine ix (fu:=⟨7⟩) _ rfl (aDS hkr) rfl<|?_
  refine eqF 22 (.d (vI ((k+1)%r.length:Nat))) rfl (by rw[hm]<;>rfl) ?_
  refine gx rfl<|ix _ rfl (aCF hkr) rfl<|cl rfl (asf (v:=r.getD k (0,0)) (w:=afZ r k) (h.le _ (ain hkr)) (h.le _ (ajb hkr)) (h.ne k hkr)) rfl<|?_
  refine rf J J<|ap ((agL r (k+1)).map eFF) rfl (by rw[agL,bJ];rfl) (akt [avb (r.getD k (0,0)) (afZ r k)]) rfl<|?_
  refine rnE 31 3 rfl ?_
  exact at_ (k+1) ⟨(by omega),(by omega)⟩
 ·
  obtain rfl:k=r.length:=by omega
  refine fzE 3 rfl ?_
  exact rz J J
theorem av9{r:List ZP}{p:PtQ}{i:Nat}[hp:BPt p i](h:aby r)(hi:i≤80000:=by decide):PF GB prog 296 [.sl (r.map eZp),eP p] (vI (avf r p)):=by
 have hm:=aav eZp r
 have h3:=h.n3
 have h6:=h.n6
 refine fn (fu:=⟨16⟩) func296 J J ntmps296 J J (fun C=>?_)
 refine eqF 12 (.d (vI (r.length:Nat))) rfl (by rw[hm]<;>rfl) ?_
 refine gx rfl<|?_
 refine lp (X:=Nat×Int) (fun⟨k,c⟩=>[(13, .d (vI (k:Nat))),(5, .d (vI c))]) (fun⟨k,c⟩=>[]) (fun⟨k,c⟩=>c=asO r p k∧k≤r.length) (fun⟨k,c⟩=>r.length-k) (0,0) rfl ⟨rfl,bZ _⟩ (fun _=>rfl) (fun⟨k,c⟩ hk=>?_)
 dsimp only at hk⊢
 obtain⟨h1,h2⟩:=hk
 have hcl:c.natAbs≤k:=by rw[h1];exact alo r p k
 refine br J J J (fun hc14=>?_) (fun hc14=>?_)
 ·
  have hkr:k<r.length:=by omega
  obtain⟨v,hv⟩: ∃v,v=r.getD k (0,0):=⟨_,rfl⟩
  obtain⟨w,hw⟩: ∃v,v=afZ r k:=⟨_,rfl⟩
  haveI hvb:BPt v.q 12:=by rw[hv];exact bpZ (h.le _ (ain hkr))
  haveI hwb:BPt w.q 12:=by rw[hw];exact bpZ (h.le _ (ajb hkr))
  refine ix (fu:=⟨1⟩) _ rfl (aDS hkr) rfl<|?_
  refine eqF 19 (.d (eP v.q)) rfl (by rw[hv];rfl) ?_
  refine gx (fu:=⟨6⟩) rfl<|?_
  refine eqF 25 (.d (vI ((k+1)%r.length:Nat))) rfl (by rw[hm]<;>rfl) ?_
  refine gx rfl<|ix (fu:=⟨1⟩) _ rfl (aCF hkr) rfl<|?_
  refine eqF 27 (.d (eP w.q)) rfl (by rw[hw];rfl) ?_
  refine gx rfl<|cl rfl (q_C (a:=v.q.y) (b:=p.y) (i:=12) (j:=i) (by decide) (by omega)) rfl<|cl (fu:=⟨9⟩) rfl (q_C (a:=w.q.y) (b:=p.y) (i:=12) (j:=i) (by decide) (by omega)) rfl<|?_
  rcases(show(aa2 v.q.y p.y≤0∧aa2 w.q.y p.y≤0)∨(aa2 v.q.y p.y≤0∧ ¬aa2 w.q.y p.y≤0)∨(¬aa2 v.q.y p.y≤0∧aa2 w.q.y p.y≤0)∨(¬aa2 v.q.y p.y≤0∧ ¬aa2 w.q.y p.y≤0) by omega) with⟨ca,cb⟩|⟨ca,cb⟩|⟨ca,cb⟩|⟨ca,cb⟩
  ·
   refine knT (fu:=⟨3⟩) rfl (by show some (decide _)=some true;rw[decide_eq_true (by omega)]) rfl<|knF (fu:=⟨15⟩) rfl (by show some (decide _)=some false;rw[decide_eq_false (by omega)]) rfl<|?_
   refine knF (fu:=⟨20⟩) rfl (by show some (decide _)=some false;rw[decide_eq_false (by omega)]) rfl<|?_
   exact at_ (k+1,c) (by dsimp only;exact⟨⟨by rw[asO,←h1,←hv,←hw];unfold axe;split<;>split<;>omega,by omega⟩,(by omega)⟩)
  ·
   refine knT (fu:=⟨3⟩) rfl (by show some (decide _)=some true;rw[decide_eq_true (by omega)]) rfl<|knT rfl (by show some (decide _)=some true;rw[decide_eq_true (by omega)]) rfl<|?_
   refine cl rfl (aqr (a:=v.q) (b:=w.q) (c:=p) (i:=12) (j:=12) (k:=i) (by decide) (by decide) hi) rfl<|?_
   refine br (fu1:=⟨10⟩) (fu2:=⟨6⟩) J J J (fun hc51=>?_) (fun hc51=>?_)
   ·
    refine knF rfl (by show some (decide _)=some false;rw[decide_eq_false (by omega)]) rfl<|?_
    exact at_ (k+1,c+1) (by dsimp only;exact⟨⟨by rw[asO,←h1,←hv,←hw];unfold axe;split<;>split<;>omega,by omega⟩,(by omega)⟩)
   ·
    refine knF (fu:=⟨20⟩) rfl (by show some (decide _)=some false;rw[decide_eq_false (by omega)]) rfl<|?_
    exact at_ (k+1,c) (by dsimp only;exact⟨⟨by rw[asO,←h1,←hv,←hw];unfold axe;split<;>split<;>omega,by omega⟩,(by omega)⟩)
  ·
   refine knF (fu:=⟨19⟩) rfl (by show some (decide _)=some false;rw[decide_eq_false (by omega)]) rfl<|knT (fu:=⟨2⟩) rfl (by show some (decide _)=some true;rw[decide_eq_true (by omega)]) rfl<|?_
   refine knT rfl (by show some (decide _)=some true;rw[decide_eq_true (by omega)]) rfl<|cl rfl (aqr (a:=v.q) (b:=w.q) (c:=p) (i:=12) (j:=12) (k:=i) (by decide) (by decide) hi) rfl<|?_
   refine br (fu2:=⟨8⟩) J J J (fun hc65=>?_) (fun hc65=>?_)
   ·
    exact at_ (k+1,c-1) (by dsimp only;exact⟨⟨by rw[asO,←h1,←hv,←hw];unfold axe;split<;>split<;>omega,by omega⟩,(by omega)⟩)
   ·
    exact at_ (k+1,c) (by dsimp only;exact⟨⟨by rw[asO,←h1,←hv,←hw];unfold axe;split<;>split<;>omega,by omega⟩,(by omega)⟩)
  ·
   refine knF (fu:=⟨19⟩) rfl (by show some (decide _)=some false;rw[decide_eq_false (by omega)]) rfl<|knT (fu:=⟨2⟩) rfl (by show some (decide _)=some true;rw[decide_eq_true (by omega)]) rfl<|?_
   refine knF rfl (by show some (decide _)=some false;rw[decide_eq_false (by omega)]) rfl<|?_
   exact at_ (k+1,c) (by dsimp only;exact⟨⟨by rw[asO,←h1,←hv,←hw];unfold axe;split<;>split<;>omega,by omega⟩,(by omega)⟩)
 ·
  obtain rfl:k=r.length:=by omega
  have hfin:avf r p=c:=h1.symm
  exact rz rfl (by rw[hfin];rfl)
theorem arI{fill n:Int}(hn:n.natAbs≤1000):PF GB prog 297 [vI fill,vI n] (vB (aAf fill n)):=by
 refine fn func297 J J ntmps297 J J (fun C=>?_)
 refine cs 7 J J J (fun hg7=>?_) (fun hg7=>?_)
 ·
  refine cs 12 J J J (fun hg12=>?_) (fun hg12=>?_)
  ·
   exact rz rfl (by show vB _=vB _;unfold aAf;congr 1;simp_all)
  ·
   refine cs 15 J J J (fun hg15=>?_) (fun hg15=>?_)
   ·
    exact rz rfl (by show vB _=vB _;unfold aAf;congr 1;simp_all)
   ·
    exact rz rfl (by show vB _=vB _;unfold aAf;congr 1;simp_all)
 ·
  refine cs 15 J J J (fun hg15=>?_) (fun hg15=>?_)
  ·
   exact rz rfl (by show vB _=vB _;unfold aAf;congr 1;simp_all)
  ·
   exact rz rfl (by show vB _=vB _;unfold aAf;congr 1;simp_all)
def aEP(rs:List (List ZP)):List LnQ:=(acG rs).map FrQ.l
def eRR(rs:List (List ZP))(fill:Int):DV:= .ag [.sl (rs.map eRg), .v (.int .i64 fill), .sl ((aem (aEP rs)).map eL)]
theorem aCi{rs:List (List ZP)}{p:PtQ}(h: ∀r∈rs,aby r)(k:Nat):((rs.take k).foldl (fun n r=>n+avf r p) 0).natAbs≤6*k:=by
 induction k with
 |zero=>rw[sQ];exact bZ _
 |succ k ih=>
  rw[iU,oK]
  cases e:rs[k]? with
  |none=>exact cW ih (by omega)
  |some r=>
   have h1:(avf r p).natAbs≤r.length:=alo r p r.length
   have h2:=(h r (aM e)).n6
   show(List.foldl _ 0 (rs.take k)+avf r p).natAbs≤_
   omega
theorem aEf{rs:List (List ZP)}{fill:Int}{p:PtQ}{i:Nat}[hp:BPt p i](h: ∀r∈rs,aby r)(hn:rs.length≤100)(hi:i≤80000:=by decide):PF GB prog 263 [eRR rs fill,eP p] (vB (inR rs fill p)):=by
 have hm:=aav eRg rs
 refine fn (fu:=⟨18⟩) func263 J J ntmps263 J J (fun C=>?_)
 refine eqF 10 (.d (vI (rs.length:Nat))) rfl (by rw[hm]<;>rfl) ?_
 refine gx rfl<|?_
 refine lp (X:=Nat×Int) (fun⟨k,c⟩=>[(11, .d (vI (k:Nat))),(5, .d (vI c))]) (fun⟨k,c⟩=>[]) (fun⟨k,c⟩=>c=(rs.take k).foldl (fun n r=>n+avf r p) 0∧k≤rs.length) (fun⟨k,c⟩=>rs.length-k) (0,0) rfl ⟨by rw[sQ];rfl,bZ _⟩ (fun _=>rfl) (fun⟨k,c⟩ hk=>?_)
 dsimp only at hk⊢
 obtain⟨h1,h2⟩:=hk
 have hcl:c.natAbs≤6*k:=by rw[h1];exact aCi h k
 refine br J J J (fun hc12=>?_) (fun hc12=>?_)
 ·
  obtain⟨r,hz⟩: ∃s,rs[k]? =some s:=⟨_,aZ (by omega)⟩
  have hr:=h r (aM hz)
  have hnz:(avf r p).natAbs≤6:=cW (alo r p r.length) hr.n6
  refine ix _ rfl (aas hz) rfl<|cl rfl (av9 (r:=r) (p:=p) hr hi) rfl<|?_
  exact at_ (k+1,c+avf r p) (by dsimp only;exact⟨⟨by rw[iU,hz,oK,←h1];rfl,by omega⟩,(by omega)⟩)
 ·
  obtain rfl:k=rs.length:=by omega
  rw[fX] at h1
  refine cl rfl (arI (fill:=fill) (n:=c) (by omega)) rfl<|?_
  exact rz rfl (by unfold inR;rw[←h1];rfl)
def eAr(r:List ZP):DV:= .sl ((r.map ZP.q).map ePt)
theorem aBg(l:List (List ZP)):ads 1 (l.map eAr):=fun d hd=>by
 obtain⟨u,_,rfl⟩:=bU.1 hd;exact⟨rfl,rfl⟩
theorem atm{r:List ZP}(h: ∀p∈r,ZP.le 100 p): ∀p∈r.map ZP.q,BPt p 1200:=fun p hp=>by
 obtain⟨z,hz,rfl⟩:=bU.1 hp
 have:=bpZ (h z hz)
 exact⟨BQ.mono this.x (by decide),BQ.mono this.y (by decide)⟩
theorem axT(r:List ZP):DV.sl ((r.map ZP.q).map eP)=eRg r:=by unfold eRg;rw[List.map_map];rfl
theorem aiF{rs:List (List ZP)}{k:Nat}{r:List ZP}(h:rs[k]? =some r):acG (rs.take (k+1))=acG (rs.take k)++adc r:=by
 unfold acG;rw[iU,h,pY];simp
theorem ajF{rs:List (List ZP)}(h: ∀r∈rs,aby r)(k:Nat):(acG (rs.take k)).length≤6*k:=by
 have:=(aeB (rs:=rs.take k) (fun r hr=>h r (cS hr))).1
 have h2:(rs.take k).length≤k:=by rw[cV];omega
 omega
theorem aAE{rs:List (List ZP)}{fill:Int}(h: ∀r∈rs,aby r)(hn:rs.length≤100):PF GB prog 172 [.sl (rs.map eAr), .v (.int .i64 fill)] (eRR rs fill):=by
 have hm:=aav eAr rs
 refine fn (fu:=⟨8⟩) func172 J J ntmps172 J J (fun C=>?_)
 refine bzp (fu:=⟨14⟩) 73 1 0 [] [.v (.int .i64 fill), .sl []] J J J J J<|?_
 refine eqF 15 (.d (vI (rs.length:Nat))) rfl (by rw[hm]<;>rfl) ?_
 refine gx rfl<|?_
 refine nr 6 6 88 6 J J J ?_
 refine lp (X:=Nat) (fun k=>[(16, .d (vI (k:Nat))),(6, .rw 6),(5, .ov 5 0)]) (fun k=>[(5,some (.o 252 [.rw 13, .d (.v (.int .i64 fill)), .d (.sl [])] true)),(13,some (.b 73 1 ((rs.take k).map eRg) true)),(6,some (.b 88 6 (((acG (rs.take k)).map FrQ.l).map eL) true))]) (fun k=>k≤rs.length) (fun k=>rs.length-k) 0 rfl (bZ _) (fun _=>rfl) (fun k hk=>?_)
 refine br (fu2:=⟨0⟩) J J J (fun hc17=>?_) (fun hc17=>?_)
 ·
  obtain⟨r,hz⟩: ∃s,rs[k]? =some s:=⟨_,aZ (by omega)⟩
  have hr:=h r (aM hz)
  have hel:(adc r).length≤6:=by have:=(alY hr).1;have:=hr.n6;omega
  have het:=ajF h k
  have hrl:((rs.take k).map eRg).length=k:=by rw[aJ,cV];omega
  refine ix _ rfl (aas hz) rfl<|cl (fu:=⟨0⟩) rfl (aD4 (ps:=r.map ZP.q) (atm hr.le) (by rw[aJ];have:=hr.n6;omega)) rfl<|?_
  refine eqF 21 (.d (eRg r)) rfl (by rw[axT]) ?_
  refine gx rfl<|rf J J<|ap ((rs.take (k+1)).map eRg) rfl (abu hz) (ayB [r]) rfl<|cl (fu:=⟨1⟩) rfl (asd (r:=r) hr) rfl<|?_
  refine eqF 30 (.d (vI ((adc r).length:Nat))) rfl (by rw[aav eFF (adc r)]<;>rfl) ?_
  refine gx rfl<|?_
  rw[←lJ (acG (rs.take k)),←sQ (l:=adc r)]
  refine lp (X:=Nat) (fun j=>[(31, .d (vI (j:Nat))),(6, .rw 6)]) (fun j=>[(6,some (.b 88 6 (((acG (rs.take k)++(adc r).take j).map FrQ.l).map eL) true))]) (fun j=>j≤(adc r).length) (fun j=>(adc r).length-j) 0 rfl (bZ _) (fun _=>rfl) (fun j hk=>?_)
  have hml:(((acG (rs.take k)++(adc r).take j).map FrQ.l).map eL).length≤6*k+6:=by rw[aJ,aJ,aV,cV];omega
  refine br J J J (fun hc32=>?_) (fun hc32=>?_)
  ·
   obtain⟨e,he⟩: ∃s,(adc r)[j]? =some s:=⟨_,aZ (by omega)⟩
   refine ix _ rfl (aas he) rfl<|rf J J<|ap (((acG (rs.take k)++(adc r).take (j+1)).map FrQ.l).map eL) rfl (by rw[iU,he];simp only[bJ,fQ];rfl) (abw [e.l]) rfl<|?_
   refine rnE 39 6 rfl ?_
   exact at_ (j+1) ⟨(by omega),(by omega)⟩
  ·
   obtain rfl:j=(adc r).length:=by omega
   rw[fX,←aiF hz]
   refine rnE 26 13 rfl ?_
   exact at_ (k+1) ⟨(by omega),(by omega)⟩
 ·
  obtain rfl:k=rs.length:=by omega
  rw[fX]
  refine fzC 6 rfl ?_
  refine fzC 13 rfl ?_
  refine gx rfl<|cl rfl (arl (ls:=aEP rs) (fun l hl=>by obtain⟨f,hf,rfl⟩:=bU.1 hl;exact((aeB h).2 f hf).lb) (by unfold aEP;rw[aJ];have:=(aeB h).1;omega)) rfl<|?_
  exact rz J J
theorem aE2{rs:List (List ZP)}(h: ∀r∈rs,aby r)(hn:rs.length≤100):PF GB prog 173 [.sl (rs.map eRg)] (.sl (rs.map eAr)):=by
 have hm:=aav eRg rs
 refine fn (fu:=⟨15⟩) func173 J J ntmps173 J J (fun C=>?_)
 refine eqF 7 (.d (vI (rs.length:Nat))) rfl (by rw[hm]<;>rfl) ?_
 refine gx rfl<|?_
 refine nr 3 3 300 1 J J J ?_
 refine lp (X:=Nat) (fun k=>[(8, .d (vI (k:Nat))),(3, .rw 3)]) (fun k=>[(3,some (.b 300 1 ((rs.take k).map eAr) true))]) (fun k=>k≤rs.length) (fun k=>rs.length-k) 0 rfl (bZ _) (fun _=>rfl) (fun k hk=>?_)
 have hml:((rs.take k).map eAr).length≤k:=by rw[aJ,cV];omega
 refine br J J J (fun hc9=>?_) (fun hc9=>?_)
 ·
  obtain⟨r,hz⟩: ∃s,rs[k]? =some s:=⟨_,aZ (by omega)⟩
  have hr:=h r (aM hz)
  refine ix (fu:=⟨1⟩) _ rfl (aas hz) rfl<|?_
  refine eqF 11 (.d (.sl ((r.map ZP.q).map eP))) rfl (by rw[axT]) ?_
  refine gx rfl<|cl rfl (aCC (ps:=r.map ZP.q) (atm hr.le) (by rw[aJ];have:=hr.n6;omega)) rfl<|rf J J<|ap ((rs.take (k+1)).map eAr) rfl (abu hz) (aBg [r]) rfl<|?_
  refine rnE 16 3 rfl ?_
  exact at_ (k+1) ⟨(by omega),(by omega)⟩
 ·
  obtain rfl:k=rs.length:=by omega
  refine fzE 3 rfl ?_
  exact rz rfl (by rw[fX];rfl)
theorem ana(out:List LnQ)(l:LnQ):(ac8 out l).length≤out.length+1:=by
 unfold ac8
 split
 ·omega
 ·simp;omega
theorem akM(c:List LnQ): ∀(t out:List LnQ),(ae6 c t out).length≤out.length+t.length
 |[],out=>by simp[ae6]
 |l::t,out=>by
  rw[ae6]
  refine cW (akM c t _) ?_
  have:=ana out l
  split<;>simp<;>omega
theorem acW(c:List LnQ):(aaR c).length≤c.length:=cW (akM c c []) (by simp)
theorem apI{c:List LnQ}(h: ∀m∈c,LB m): ∀m∈aaR c,LB m:=fun m hm=>h m (aa5.1 hm).1
theorem apq{c:List LnQ}(h: ∀m∈c,m.ok): ∀m∈aaR c,m.ok:=fun m hm=>h m (aa5.1 hm).1
theorem apz{c:List LnQ}{l:LnQ}(hc: ∀m∈c,LB m)(hok: ∀m∈c,m.ok)(hn:c.length≤900)(hl:LB l)(hlo:l.ok):PF GB prog 106 [.sl (c.map eL),eL l] (.sl ((aaR (c++[l])).map eL)):=by
 have hcl:=aeO c
 refine fn func106 J J ntmps106 J J (fun C=>?_)
 refine ro0 J J<|ap (c.map eL) J J (abw _) rfl<|rf J J<|apf ((c++[l]).map eL) rfl (by rw[bJ];rfl) (abw [l]) rfl<|?_
 refine cl rfl (aoU (c:=c++[l]) (agG hc hl) (acm hok hlo) (by simp;omega)) rfl<|?_
 exact rz J J
theorem av8{l l1:LnQ}{x y u:Tr}:PF GB prog 105 [eL l,eT (.node l1 x y),eT u] (eT (.node l (.node l1 x y) u)):=by
 refine fn (fu:=⟨12⟩) func105 J J ntmps105 J J (fun C=>?_)
 refine knF J J J<|?_
 refine fzE 33 rfl ?_
 exact rz J J
theorem aum{l l1:LnQ}{x y:Tr}{p:Bool}:PF GB prog 105 [eL l,eT (.leaf p),eT (.node l1 x y)] (eT (.node l (.leaf p) (.node l1 x y))):=by
 refine fn (fu:=⟨12⟩) func105 J J ntmps105 J J (fun C=>?_)
 refine knT (fu:=⟨4⟩) J J J<|knF J J J<|?_
 refine fzE 33 rfl ?_
 exact rz J J
theorem atq{l:LnQ}{p q:Bool}:PF GB prog 105 [eL l,eT (.leaf p),eT (.leaf q)] (eT (Tr.joinQ l (.leaf p) (.leaf q))):=by
 refine fn (fu:=⟨12⟩) func105 J J ntmps105 J J (fun C=>?_)
 refine knT (fu:=⟨4⟩) J J J<|knT J J J<|?_
 refine bd J J J (fun hc27=>?_) (fun hc27=>?_)
 ·
  exact rz rfl (by rw[show Tr.joinQ l (.leaf p) (.leaf q)= .leaf p by simp[Tr.joinQ,Tr.isLeaf,Tr.code,hc27]];rfl)
 ·
  refine fzE 33 rfl ?_
  exact rz rfl (by rw[show Tr.joinQ l (.leaf p) (.leaf q)= .node l (.leaf p) (.leaf q) by simp[Tr.joinQ,Tr.isLeaf,Tr.code,hc27]];rfl)
theorem axv{l:LnQ}: ∀{x y:Tr},PF GB prog 105 [eL l,eT x,eT y] (eT (Tr.joinQ l x y))
 | .leaf _, .leaf _=>atq
 | .leaf _, .node .. =>aum
 | .node ..,_=>av8
theorem aib{b:Bool}{c:List LnQ}:PF GB prog 103 [eT (.leaf b), .sl (c.map eL)] (eT (Tr.restrictL (.leaf b) c)):=by
 refine fn (fu:=⟨11⟩) func103 J J ntmps103 J J (fun C=>?_)
 refine knT J J J<|?_
 exact rz J J
theorem aic{l:LnQ}{x y:Tr}{c:List LnQ}(hl:LB l)(hlo:l.ok)(hc: ∀m∈c,LB m)(hok: ∀m∈c,m.ok)(hn:c.length+(Tr.node l x y).depth≤900)(ihx: ∀{c:List LnQ},(∀m∈c,LB m)→(∀m∈c,m.ok)→c.length+x.depth≤900→PF GB prog 103 [eT x, .sl (c.map eL)] (eT (Tr.restrictL x c)))(ihy: ∀{c:List LnQ},(∀m∈c,LB m)→(∀m∈c,m.ok)→c.length+y.depth≤900→PF GB prog 103 [eT y, .sl (c.map eL)] (eT (Tr.restrictL y c))):PF GB prog 103 [eT (.node l x y), .sl (c.map eL)] (eT (Tr.restrictL (.node l x y) c)):=by
 have hdp:(Tr.node l x y).depth=1+Nat.max x.depth y.depth:=rfl
 have hdx:x.depth≤Nat.max x.depth y.depth:=mV _ _
 have hdy:y.depth≤Nat.max x.depth y.depth:=lR _ _
 have hca:=acW (c++[l])
 have hcb:=acW (c++[l.rev])
 rw[aV,dK] at hca hcb
 refine fn (fu:=⟨11⟩) func103 J J ntmps103 J J (fun C=>?_)
 refine knF J J J<|cl rfl (asn (c:=c) (l:=l) hc hok (by omega) hl hlo) rfl<|?_
 refine br J J J (fun hc16=>?_) (fun hc16=>?_)
 ·
  refine cl rfl (ihx hc hok (by omega)) rfl<|?_
  exact rz rfl (by rw[Tr.restrictL,if_pos hc16];rfl)
 ·
  refine br J J J (fun hc24=>?_) (fun hc24=>?_)
  ·
   refine cl rfl (ihy hc hok (by omega)) rfl<|?_
   exact rz rfl (by rw[Tr.restrictL,if_neg hc16,if_pos hc24];rfl)
  ·
   refine cl rfl (apz (c:=c) (l:=l) hc hok (by omega) hl hlo) rfl<|cl rfl (ihx (c:=aaR (c++[l])) (apI (agG hc hl)) (apq (acm hok hlo)) (by omega)) rfl<|?_
   refine cl rfl (aiE (l:=l)) rfl<|cl rfl (apz (c:=c) (l:=l.rev) hc hok (by omega) hl.rev hlo.rev) rfl<|cl rfl (ihy (c:=aaR (c++[l.rev])) (apI (agG hc hl.rev)) (apq (acm hok hlo.rev)) (by omega)) rfl<|?_
   refine cl rfl axv rfl<|?_
   exact rz rfl (by rw[Tr.restrictL,if_neg hc16,if_neg hc24];rfl)
theorem aeY: ∀{t:Tr} {c:List LnQ},t.all LB→t.all LnQ.ok→(∀m∈c,LB m)→(∀m∈c,m.ok)→c.length+t.depth≤900→PF GB prog 103 [eT t, .sl (c.map eL)] (eT (Tr.restrictL t c))
 | .leaf _,_,_,_,_,_,_=>aib
 | .node l x y,c,hb,ho,hc,hok,hn=>aic hb.1 ho.1 hc hok hn (fun h1 h2 h3=>aeY hb.2.1 ho.2.1 h1 h2 h3) (fun h1 h2 h3=>aeY hb.2.2 ho.2.2 h1 h2 h3)
def p7:PtQ:=⟨mkRat 1 7,mkRat 1 5⟩
structure LP (l:LnQ):Prop where
 s:LS l
 p:0<l.value p7
def lsR(es:List Int):Nat→Nat→List LnQ×Nat
 |0,a=>([],a)
 |i+1,a=>((lF es a).1::(lsR es i (lF es a).2).1,(lsR es i (lF es a).2).2)
def lsF(es:List Int)(most a:Nat):List LnQ×Nat:=lsR es (aaf es ((most:Int)+1) a).1 (aaf es ((most:Int)+1) a).2
def aCG(l:LnQ):LnQ:=if(l.value p7).num.sign<0 then l.rev else l
def aGg(xs:List LnQ)(i:Nat):List LnQ:=(xs.take i).map aCG++xs.drop i
def aGh(es:List Int)(a:Nat):List LnQ×Nat:=((lsF es 3 a).1.map aCG,(lsF es 3 a).2)
section
variable {GB:Gh} {C:Ctx} {n:Nat} {Q0:Exit→Act→World→Prop} {fr fr':FrX} {own own':OwX} {cf cf':Cf} {vc:List Prop}
def PR(GB:Gh)(P:Program)(f:FuncId)(ds:List DV)(s:Nat)(ty:TypeId)(rows:List DV):Prop:=
 ∀G vs,GLe GB G→IsLs G ds vs→FnO P f vs [] G (fun v own' G'=> ∃w:SV,v= .slice w.a w.n w.c∧aba G' ⟨w,s,ty,rows,true⟩ own')
theorem auE: ∀(l:List Own),(∀o∈l,o.lo=true)→l.map (relo (flM []))=l
 |[],_=>rfl
 |a::t,h=>by
  have h1:=h a aQ
  rw[bM,auE t fun o ho=>h o (aX _ ho)]
  congr 1
  cases a
  simp[relo,flM] at*
  exact h1
theorem avs{lk:LK}{bk:BM}{fo:Operand}{args:Array Operand}{tys:Array TypeId}{f:FuncId}{d s:Nat}{ds rows:List DV}{ty ty2:TypeId}{pos:String}{af:Array Edge}{gd:Option (Nat×Bool)}
  (ha:alf lk fo args=some (f,ds))(hF:PR GB prog f ds s ty2 rows):OpR prog GB C n lk bk ⟨some d, .call ⟨.value fo,args,tys⟩,ty,pos,af,gd⟩ (.rw d) [(d,some (.b ty2 s rows true))] [d]:=by
 intro hd tl tb K' s1 s2 hf hk
 refine⟨fun ρ G ov a w r Q=>?_⟩
 have r1:=r.mono s1 s2
 obtain⟨h1,h2⟩:=ak4 ha
 obtain⟨y,hy,hy'⟩:=r1.ev h1
 rw[(aaZ (G:=G)).1 hy'] at hy
 obtain⟨vs,h3,h4⟩:=r1.evDs h2
 refine aec (M:=[]) (rest:=ov) hy h3 (List.Perm.refl _) (hF G vs r.gb h4) hd (fun v own1 G' hG hK a' w' rl=>?_) a w Q ⟨r.h,r.sz,aaN a,r.df⟩
 obtain⟨z,rfl,vs',k1,k2,k3,k4⟩:=hK
 rw[auE _ (k4 rfl)] at rl
 have rl':Rel C n (Sx.put (frA a) (some d) (.slice z.a z.n z.c)) (own1++ov) G' a' w':=rl
 have hdis:=(gU.1 rl'.h.nd).2.2
 have r3:=r.new' (x:=z) (B':= .b ty2 s rows true) (os:=own1) (ov':=own1++ov) (f:= .rw d) (y:= .slice z.a z.n z.c) hf hG.le rl'.h ⟨vs',by simpa using k1,k2,k3,k4⟩ (fun o ho=>bL _ ho)
  (fun q B0 hq e o ho hbq=>⟨bY _ ho,fun hc=>by
   have hx: ∃o1∈own1,o1.b=o.b:=by
    rcases k1 with⟨_,h,_⟩|⟨b0,rest0,lo0,h,hB,_⟩
    ·rw[show z=_ from h] at hc;cases hc
    ·rw[show z=_ from h] at hc;cases hc;exact⟨⟨_,aah vs'++rest0,_,lo0⟩,by rw[hB];exact aQ,rfl⟩
   obtain⟨o1,ho1,he1⟩:=hx
   exact hdis o1 ho1 o ho he1⟩) (by simp[IsX]) (abj rl')
 exact hk.run _ G' _ a' w' r3
def aFp(fr:FrX)(cf:Cf):Option (FuncId×List DV×Nat):=match opC fr cf with
 |some ⟨some d, .call ⟨.value fo,args,_⟩,_,_,_,_⟩=>match alf (lkC fr cf) fo args with
  |some (f,ds)=>some (f,ds,d)
  |none=>none
 |_=>none
theorem cr[fu:Fu]{f:FuncId}{d s:Nat}{ds rows:List DV}{ty:TypeId}(ha:aFp fr cf=some (f,ds,d))(hF:PR GB prog f ds s ty rows)
  (hgo:goA tt n fu.n fr own cf (.rw d) [(d,some (.b ty s rows true))] [d]=⟨vc,fr',own',cf'⟩)(k:CfS prog GB C n Q0 fr' own' cf')
  (hv:aag vc:=by first|exact trivial|(simp only[aag];kernel_rfl)|(simp only[aag];omega)|(simp only[aag,aJ,aN,aY];omega)):CfS prog GB C n Q0 fr own cf:=by
 unfold aFp at ha
 split at ha<;>try (cases ha;done)
 rename_i hh
 split at ha<;>cases ha
 rename_i h1
 exact us hh (avs h1 hF) hgo hv k
def aqh(C:Ctx)(s:Nat)(ty:TypeId)(rows:List DV):Ending→World→Prop:=agc C (fun v own' G'=> ∃w:SV,v= .slice w.a w.n w.c∧aba G' ⟨w,s,ty,rows,true⟩ own')
theorem fnR[fu:Fu]{f:FuncId}{fb:Func}{c:Code}{m s:Nat}{ds rows:List DV}{ty:TypeId}(hf:prog.funcs[f]? =some fb)(hb:fb.body=some c)(hn:(fb.name== "runtime.NumGoroutine")=false)(hm:fb.ntmps=m)(hlen:Nat.ble ds.length m=true)
  (hgo:go tt m fu.n [] (ajm 0 ds) [] (.code c [])=⟨vc,fr,own,cf⟩)(k: ∀C:Ctx,C.mb=[]→CfS prog GB C m (bodyPost prog fb (aqh C s ty rows)) fr own cf)
  (hv:aag vc:=by first|exact trivial|(simp only[aag];kernel_rfl)|(simp only[aag];omega)|(simp only[aag,aJ,aN,aY];omega)):PR GB prog f ds s ty rows:=by
 intro G vs hg hvs
 refine FnO.intro hf hb hn hm (by rw[hvs.len];exact hlen) fun C _ hmb=>?_
 intro a w rl
 have h:=gx' (GB:=GB) (C:=C) (Q0:=bodyPost prog fb (aqh C s ty rows)) hgo hv (k C (by simpa using hmb))
 exact h.run (fun _=>⟨none,0,0⟩) G [] a w ⟨hg,rl.h,rl.sz,rl.df,(fun k f e=>aoF hvs rl.fr k f e),(fun nm B e=>by cases e),(fun nm nm' B B' e=>by cases e)⟩
theorem rzR{fb:Func}{t d s:Nat}{ty:TypeId}{rows rws:List DV}(hr:fb.results.toList=[.tmp t])(hl:aay fr t=some (.rw d))(hw:aaB own d=some (.b ty s rws true))(er:rws=rows):
  CfS prog GB C n (bodyPost prog fb (aqh C s ty rows)) fr own (.ex .ret []):=by
 subst er
 refine⟨fun ρ G ov a w r=>?_⟩
 obtain⟨B,g1,g2⟩:=r.bx _ _ hw
 have hB:aba G ⟨ρ d,s,ty,rws,true⟩ B:=g1
 obtain⟨rest,hp⟩:=alx hB g2
 obtain⟨y,hy,hy'⟩:=r.ev (x:= .tmp t) (f:= .rw d) hl
 cases (show y=_ from hy')
 exact aiq (C:=C) (n:=n) (fr:=frA a) (own:=ov) (G:=G) (vs:=[.slice (ρ d).a (ρ d).n (ρ d).c]) (by rw[hr];exact .tmp hy .nil) (B++rest) B hp (mM _ _) ⟨ρ d,rfl,hB⟩ a w ⟨r.h,r.sz,aaN a,r.df⟩
theorem aFI{fb:Func}{t s:Nat}{ty:TypeId}{rows:List DV}(hr:fb.results.toList=[.tmp t])(hl:aay fr t=some .nl)(er:rows=[]):
  CfS prog GB C n (bodyPost prog fb (aqh C s ty rows)) fr own (.ex .ret []):=by
 subst er
 refine⟨fun ρ G ov a w r=>?_⟩
 obtain⟨y,hy,hy'⟩:=r.ev (x:= .tmp t) (f:= .nl) hl
 cases (show y=_ from hy')
 exact aiq (C:=C) (n:=n) (fr:=frA a) (own:=ov) (G:=G) (vs:=[.slice none 0 0]) (by rw[hr];exact .tmp hy .nil) ([]++ov) [] (List.Perm.refl _) (kL _) ⟨⟨none,0,0⟩,rfl,[], .inl ⟨rfl,rfl,rfl⟩,aaJ.2 rfl,fun v h=>(by cases h),fun _ o h=>(by cases h)⟩ a w ⟨r.h,r.sz,aaN a,r.df⟩
end
section
variable {GB:Gh} {C:Ctx} {n:Nat} {Q0:Exit→Act→World→Prop} {fr fr':FrX} {own own':OwX} {cf cf':Cf} {vc:List Prop}
theorem awX{lk:LK}{bk:BM}{fo:Operand}{args:Array Operand}{tys:Array TypeId}{f:FuncId}{nm d:Nat}{l:List (Option DV)}{s:Nat}{ty ty0:TypeId}{pos:String}{af:Array Edge}{gd:Option (Nat×Bool)}{dsi dso:List DV}{lo:Bool}(hne:Nat.beq nm d=false)
  (ha:anP lk fo args=some (f,nm,l))(hb:bk nm=some (.b ty0 s dsi lo))(hF:PB GB prog f (mkB l) s ty0 dsi (fun w=> .v (.slice w.a w.n w.c)) dso):OpR prog GB C n lk bk ⟨some d, .call ⟨.value fo,args,tys⟩,ty,pos,af,gd⟩ (.rw d) [(nm,none),(d,some (.b ty0 s dso lo))] [d]:=by
 intro hd tl tb K' s1 s2 hf hk
 refine⟨fun ρ G ov a w r Q=>?_⟩
 have r1:=r.mono s1 s2
 unfold anP at ha
 split at ha<;>try (cases ha;done)
 rename_i h1
 split at ha<;>cases ha
 rename_i h2
 obtain⟨y,hy,hy'⟩:=r1.ev h1
 rw[(aaZ (G:=G)).1 hy'] at hy
 obtain⟨B,g1,g2⟩:=r1.bx _ _ hb
 have hB:aba G ⟨ρ nm,s,ty0,dsi,lo⟩ B:=g1
 obtain⟨vs,h7,h8⟩:=aiH r1 (z:=ρ nm) h2 (fun nm e=>by cases e;rfl)
 have hp: ∃rest,ov.Perm (B++rest)∧ ∀o∈ov,(∀o'∈B,o.b≠o'.b)→o∈rest:=by
  rcases hB with⟨vs',⟨_,_,e⟩|⟨b0,r0,lo0,_,e,_⟩,_⟩
  ·rw[e];exact⟨ov,List.Perm.refl _,fun o ho _=>ho⟩
  ·rw[e] at g2⊢
   obtain⟨l1,l2,e2⟩:=kZ (g2 _ aQ)
   rw[e2]
   refine⟨l1++l2,lL,fun o ho hno=>?_⟩
   rcases bK.1 ho with ho|ho
   ·exact bL _ ho
   ·rcases aW.1 ho with rfl|ho
    ·exact absurd rfl (hno _ aQ)
    ·exact bY _ ho
 obtain⟨rest,h5,h6⟩:=hp
 refine aec (M:=B) (rest:=rest) hy h7 h5 (hF G (ρ nm) vs B r.gb hB.weak h8) hd (fun v own1 G' hG hK a' w' rl=>?_) a w Q ⟨r.h,r.sz,aaN a,r.df⟩
 obtain⟨z,hr,vs',k1,k2,k3,k4⟩:=hK
 have k1':=k1.relo (flM B)
 have e2:lo=true→ ∀o∈own1.map (relo (flM B)),o.lo=true:=fun hl o ho=>by
  obtain⟨o',_,rfl⟩:=bU.1 ho
  obtain⟨_,_,_,_,hlo⟩:=hB
  exact ag4 _ (hlo hl)
 generalize own1.map (relo (flM B))=B' at rl e2 k1'
 have rl':Rel C n (Sx.put (frA a) (some d) v) (B'++rest) G' a' w':=rl
 have hdis:=(gU.1 rl'.h.nd).2.2
 have r2:=r.dropB nm
 have hnn:nm≠d:=fun e=>by subst e;rw[mS] at hne;cases hne
 have hf2:acM [d] (some d) tl (Sx.upB tb [(nm,none)]):=fun q hq=>by
  obtain⟨f1,f2⟩:=hf q hq
  refine⟨f1,fun k B e1 e=>?_⟩
  simp only[Sx.upB] at e
  split at e
  ·cases e
  ·exact f2 k B e1 e
 have hsep: ∀q B0,Sx.upB tb [(nm,none)] q=some B0→ ∀o∈ov,(ρ q).a=some ⟨o.b,0,none⟩→o∈rest:=fun q B0 e o ho hbq=>by
  simp only[Sx.upB] at e
  split at e
  ·cases e
  ·rename_i hqn
   refine h6 o ho fun o' ho' he=>?_
   exact r.dj nm q _ _ (s2 _ _ hb) e (Ne.symm hqn) o'.b (g1.blk ho') (by rw[hbq,he])
 rw[aaZ.1 hr] at rl'
 have r3:=r2.new' (x:=z) (B':= .b ty0 s dso lo) (os:=B') (ov':=B'++rest) (f:= .rw d) (y:= .slice z.a z.n z.c) hf2 hG.le rl'.h ⟨vs',by simpa using k1',k2,k3,e2⟩ (fun o ho=>bL _ ho)
  (fun q B0 hq e o ho hbq=>⟨bY _ (hsep q B0 e o ho hbq),fun hc=>by
   have hx: ∃o1∈B',o1.b=o.b:=by
    rcases k1' with⟨_,h,_⟩|⟨b0,rest0,lo0,h,hB,_⟩
    ·rw[show z=_ from h] at hc;cases hc
    ·rw[show z=_ from h] at hc;cases hc;exact⟨⟨_,aah vs'++rest0,_,lo0⟩,by rw[hB];exact aQ,rfl⟩
   obtain⟨o1,ho1,he1⟩:=hx
   exact hdis o1 ho1 o (hsep q B0 e o ho hbq) he1⟩) (by simp[IsX]) (abj rl')
 exact hk.run _ G' _ a' w' r3
theorem cq[fu:Fu]{f:FuncId}{nm d:Nat}{l:List (Option DV)}{ty:TypeId}{s:Nat}{dsi dso:List DV}{lo:Bool}(dso':List DV)(ha:aDD fr own cf=some ⟨f,nm,l,ty,s,dsi,lo,d⟩)(hF:PB GB prog f (mkB l) s ty dsi (fun w=> .v (.slice w.a w.n w.c)) dso)(he:dso=dso')
  (hgo:goA tt n fu.n fr own cf (.rw d) [(nm,none),(d,some (.b ty s dso' lo))] [d]=⟨vc,fr',own',cf'⟩)(k:CfS prog GB C n Q0 fr' own' cf')
  (hv:aag vc:=by first|exact trivial|(simp only[aag];kernel_rfl)|(simp only[aag];omega)|(simp only[aag,aJ,aN,aY];omega)):CfS prog GB C n Q0 fr own cf:=by
 subst he
 unfold aDD at ha
 split at ha<;>try (cases ha;done)
 rename_i hh
 split at ha<;>try (cases ha;done)
 rename_i h1
 split at ha<;>try (cases ha;done)
 rename_i h2
 rw[cond_eq_ite] at ha
 split at ha<;>cases ha
 rename_i h3
 exact us hh (awX (by cases hq:Nat.beq nm d with|false=>rfl|true=>exact absurd hq h3) h1 h2 hF) hgo hv k
def asl(C:Ctx)(s:Nat)(ty:TypeId)(dso:List DV):Ending→World→Prop:=agc C (fun v own' G'=> ∃w',Is G' (.v (.slice w'.a w'.n w'.c)) v∧aba G' ⟨w',s,ty,dso,false⟩ own')
theorem fnQ[fu:Fu]{f:FuncId}{fb:Func}{c:Code}{k s:Nat}{l:List (Option DV)}{dsi dso:List DV}{ty:TypeId}(hf:prog.funcs[f]? =some fb)(hb:fb.body=some c)(hn:(fb.name== "runtime.NumGoroutine")=false)(hm:fb.ntmps=k)(hlen:Nat.ble l.length k=true)
  (hgo:go tt k fu.n [] (ai6 0 l) [(NM,some (.b ty s dsi false))] (.code c [])=⟨vc,fr,own,cf⟩)(h: ∀C,CfS prog GB C k (bodyPost prog fb (asl C s ty dso)) fr own cf)
  (hv:aag vc:=by first|exact trivial|(simp only[aag];kernel_rfl)|(simp only[aag];omega)|(simp only[aag,aJ,aN,aY];omega)):PB GB prog f (mkB l) s ty dsi (fun w=> .v (.slice w.a w.n w.c)) dso:=by
 intro G w vs B hg hB hvs
 refine FnO.intro hf hb hn hm (by rw[hvs.len,al3];exact hlen) fun C _ hmb=>?_
 intro a wd rl
 have h1:=gx' (GB:=GB) (C:=C) (Q0:=bodyPost prog fb (asl C s ty dso)) hgo hv (h C)
 refine h1.run (fun _=>w) G (Sx.asB B) a wd ⟨hg,rl.h,rl.sz,rl.df,fun k f e=>?_,fun nm B' e=>?_,fun nm nm' B' B2 e e' hne=>?_⟩
 ·obtain⟨y,⟨j,hj,hy⟩,h2⟩:=aeS (ρ:=fun _=>w) (w:=w) rfl 0 hvs k f e
  refine⟨y,rl.fr k y ?_,h2⟩
  rw[hj];exact acz vs 0 j y hy
 ·rw[aaK] at e
  split at e
  ·cases e;exact⟨Sx.asB B,hB.asB,fun o ho=>ho⟩
  ·cases e
 ·rw[aaK] at e e'
  split at e<;>split at e'
  ·rename_i h2 h3;exact absurd (h2.trans h3.symm) hne
  ·cases e'
  ·cases e
  ·cases e
theorem rzQ{fb:Func}{t d s:Nat}{ty:TypeId}{ds dso:List DV}(hr:fb.results.toList=[.tmp t])(hl:aay fr t=some (.rw d))(hw:aaB own d=some (.b ty s ds false))(ed:ds=dso):
  CfS prog GB C n (bodyPost prog fb (asl C s ty dso)) fr own (.ex .ret []):=by
 subst ed
 refine⟨fun ρ G ov a w r=>?_⟩
 obtain⟨B,g1,g2⟩:=r.bx _ _ hw
 have hB:aba G ⟨ρ d,s,ty,ds,false⟩ B:=g1
 obtain⟨rest,hp⟩:=alx hB g2
 obtain⟨y,hy,hy'⟩:=r.ev (x:= .tmp t) (f:= .rw d) hl
 cases (show y=_ from hy')
 exact aiq (C:=C) (n:=n) (fr:=frA a) (own:=ov) (G:=G) (vs:=[.slice (ρ d).a (ρ d).n (ρ d).c]) (by rw[hr];exact .tmp hy .nil) (B++rest) B hp (mM _ _) ⟨ρ d,aaZ.2 rfl,hB⟩ a w ⟨r.h,r.sz,aaN a,r.df⟩
/-! the same with nil as the row of nothing, the last argument -/
def aAS(lk:LK):List Operand→Option (List (Option DV))
 |[]=>none
 |[x]=>match evX lk x with
  |some .nl=>some [none]
  |_=>none
 |x::t=>match evX lk x,aAS lk t with
  |some f,some l=>match akh f with
   |some d=>some (some d::l)
   |none=>none
  |_,_=>none
def azG(lk:LK)(fo:Operand)(args:Array Operand):Option (FuncId×List (Option DV)):=match evX lk fo with
 |some (.d (.v (.func (.func f) ⟨[]⟩ ⟨[]⟩)))=>match aAS lk args.toList with
  |some l=>some (f,l)
  |_=>none
 |_=>none
theorem asW{lk:LK}{bk:BM}{ρ:NE}{G:Gh}{ov:List Own}{a:Act}{w:World}(r:RlX GB C n lk bk ρ G ov a w): ∀{x:List Operand} {l:List (Option DV)},aAS lk x=some l→ ∃y,af6 (frA a) x=some y∧IsLs G (mkB l ⟨none,0,0⟩) y
 |[],l,e=>by cases e
 |[x],l,e=>by
  simp only[aAS] at e
  split at e<;>cases e
  rename_i h1
  obtain⟨y,h3,h4⟩:=r.ev h1
  cases (show y=_ from h4)
  exact⟨[Value.slice none 0 0],by simp only[af6,h3], .cons ((aaZ (G:=G)).2 rfl) .nil⟩
 |x::x2::t,l,e=>by
  simp only[aAS] at e
  split at e
  ·rename_i f l' h1 h2
   cases hd:akh f with
   |none=>rw[hd] at e;cases e
   |some d=>
   rw[hd] at e;cases e
   obtain⟨y,h3,h4⟩:=r.ev h1
   obtain⟨ys,h5,h6⟩:=asW r (x:=x2::t) (by simpa only[aAS] using h2)
   exact⟨y::ys,by simp only[af6,h3] at h5⊢;rw[h5], .cons (acx h4 hd) h6⟩
  ·cases e
theorem asm{lk:LK}{bk:BM}{fo:Operand}{args:Array Operand}{tys:Array TypeId}{f:FuncId}{d:Nat}{l:List (Option DV)}{s:Nat}{ty ty0:TypeId}{pos:String}{af:Array Edge}{gd:Option (Nat×Bool)}{dso:List DV}
  (ha:azG lk fo args=some (f,l))(hF:PB GB prog f (mkB l) s ty0 [] (fun w=> .v (.slice w.a w.n w.c)) dso):OpR prog GB C n lk bk ⟨some d, .call ⟨.value fo,args,tys⟩,ty,pos,af,gd⟩ (.rw d) [(d,some (.b ty0 s dso true))] [d]:=by
 intro hd tl tb K' s1 s2 hf hk
 refine⟨fun ρ G ov a w r Q=>?_⟩
 have r1:=r.mono s1 s2
 unfold azG at ha
 split at ha<;>try (cases ha;done)
 rename_i h1
 split at ha<;>cases ha
 rename_i h2
 obtain⟨y,hy,hy'⟩:=r1.ev h1
 rw[(aaZ (G:=G)).1 hy'] at hy
 obtain⟨vs,h7,h8⟩:=asW r1 h2
 refine aec (M:=[]) (rest:=ov) hy h7 (List.Perm.refl _) (hF G ⟨none,0,0⟩ vs [] r.gb ⟨[], .nil _ _, .nil,by simp,fun h=>by cases h⟩ h8) hd (fun v own1 G' hG hK a' w' rl=>?_) a w Q ⟨r.h,r.sz,aaN a,r.df⟩
 obtain⟨z,hr,vs',k1,k2,k3,k4⟩:=hK
 have k1':=k1.relo (flM [])
 have e2: ∀o∈own1.map (relo (flM [])),o.lo=true:=fun o ho=>by
  obtain⟨o',_,rfl⟩:=bU.1 ho
  rfl
 generalize own1.map (relo (flM []))=B' at rl e2 k1'
 have rl':Rel C n (Sx.put (frA a) (some d) v) (B'++ov) G' a' w':=rl
 have hdis:=(gU.1 rl'.h.nd).2.2
 rw[aaZ.1 hr] at rl'
 have r3:=r.new (x:=z) (B':= .b ty0 s dso true) (os:=B') (ov':=B'++ov) (f:= .rw d) (y:= .slice z.a z.n z.c) hf hG.le rl'.h ⟨vs',by simpa using k1',k2,k3,fun _=>e2⟩ (fun o ho=>bL _ ho) (fun o ho=>bY _ ho)
  (fun o ho hc=>by
   have hx: ∃o1∈B',o1.b=o.b:=by
    rcases k1' with⟨_,h,_⟩|⟨b0,rest0,lo0,h,hB,_⟩
    ·rw[show z=_ from h] at hc;cases hc
    ·rw[show z=_ from h] at hc;cases hc;exact⟨⟨_,aah vs'++rest0,_,lo0⟩,by rw[hB];exact aQ,rfl⟩
   obtain⟨o1,ho1,he1⟩:=hx
   exact hdis o1 ho1 o ho he1) (by simp[IsX]) (abj rl')
 exact hk.run _ G' _ a' w' r3
def aBc(fr:FrX)(cf:Cf):Option (FuncId×List (Option DV)×Nat):=match opC fr cf with
 |some ⟨some d, .call ⟨.value fo,args,_⟩,_,_,_,_⟩=>match azG (lkC fr cf) fo args with
  |some (f,l)=>some (f,l,d)
  |none=>none
 |_=>none
theorem cqn[fu:Fu]{f:FuncId}{d:Nat}{l:List (Option DV)}{ty:TypeId}{s:Nat}{dso:List DV}(dso':List DV)(ha:aBc fr cf=some (f,l,d))(hF:PB GB prog f (mkB l) s ty [] (fun w=> .v (.slice w.a w.n w.c)) dso)(he:dso=dso')
  (hgo:goA tt n fu.n fr own cf (.rw d) [(d,some (.b ty s dso' true))] [d]=⟨vc,fr',own',cf'⟩)(k:CfS prog GB C n Q0 fr' own' cf')
  (hv:aag vc:=by first|exact trivial|(simp only[aag];kernel_rfl)|(simp only[aag];omega)|(simp only[aag,aJ,aN,aY];omega)):CfS prog GB C n Q0 fr own cf:=by
 subst he
 unfold aBc at ha
 split at ha<;>try (cases ha;done)
 rename_i hh
 split at ha<;>cases ha
 rename_i h1
 exact us hh (asm h1 hF) hgo hv k
end
/-! append to a row that was handed over -/
section
variable {P:Program} {T:TT} {GB:Gh} {C:Ctx} {n:Nat} {lk:LK} {bk:BM} {ρ:NE} {G:Gh} {ov:List Own} {a:Act} {w:World}
variable {dst:Option Nat} {t t' ty':TypeId} {pos:String} {af:Array Edge} {gd:Option (Nat×Bool)} {x y:Operand} {e s by_:Nat}
theorem ava{d nm:Nat}{i:TI}{z:DV}{ds ds2:List DV}[hT:acH P t e s by_][hN:TyN P t'](hi:afl P e=some i)(hz:zeE i=some z)(hs:Nat.beq z.cells.length s=true)(hx:evX lk x=some (.rw nm))(hb:bk nm=some (.b e s ds false))(hy:at3 lk bk s y=some ds2)(hk2:ads s ds2)
  (hby:Nat.blt 0 by_=true)(hbd:(ds.length+ds2.length)*by_≤140737488355328)(hnd:Nat.beq nm d=false){ds':List DV}(hds:ds++ds2=ds'):
  OpR P GB C n lk bk ⟨some d, .call ⟨.builtin .append, #[x,y], #[t,t']⟩,ty',pos,af,gd⟩ (.rw d) [(nm,none),(d,some (.b e s ds' false))] [d]:=by
 intro hd tl tb K s1 s2 hf hk
 refine⟨fun ρ G ov a w r Q=>?_⟩
 subst hds
 have r1:=r.mono s1 s2
 obtain⟨v,hz1,hz2,hz3⟩:=ajs hi hz
 have cz:=((hz2 G).cells hz3).1.len
 replace hs:=aR hs
 rw[oW] at hby
 have hne:nm≠d:=fun e=>by subst e;simp at hnd
 obtain⟨u,hx',hx2⟩:=r1.ev hx
 cases hx2
 obtain⟨B,hB0,hBo⟩:=r1.bx _ _ hb
 have hB1:aba G ⟨ρ nm,s,e,ds,false⟩ B:=hB0
 clear hB0
 obtain⟨vs,hB,hv,hvs,_⟩:=hB1
 simp only[] at hB hv hvs
 obtain⟨w2,us,hy',h2,h3,h4,h5,h6⟩:=amN (P:=P) r1 hy hk2
 have hus:(aah us).length=us.length*s:=aap us h4
 have hbd':(vs.length+us.length)*by_≤140737488355328:=by rw[hv.len,h3.len];exact hbd
 have hall: ∀v∈vs++us,(aae v).length=s:=fun v hv=>by
  rcases bK.1 hv with hv|hv
  ·exact hvs v hv
  ·exact h4 v hv
 have rd:=r.dropB nm
 have hf':acM [d] (some d) tl (Sx.upB tb [(nm,none)]):=fun m hm=>by
  obtain⟨g1,g2⟩:=hf m hm
  refine⟨g1,fun k B' hk e=>g2 k B' hk ?_⟩
  simp only[Sx.upB] at e
  split at e
  ·cases e
  ·exact e
 have hbk: ∀m B',(Sx.upB tb [(nm,none)]) m=some B'→m≠nm∧tb m=some B':=fun m B' e=>by
  simp only[Sx.upB] at e
  split at e
  ·cases e
  ·exact⟨by assumption,e⟩
 have hnew: ∀{z:SV} {ov':List Own} {B1:List Own} {a':Act} {w':World} {dz:List DV},aba G ⟨z,s,e,dz,false⟩ B1→(∀o∈B1,o∈ov')→(∀m B',m≠d→(Sx.upB tb [(nm,none)]) m=some B'→ ∀o∈ov,(ρ m).a=some ⟨o.b,0,none⟩→o∈ov'∧z.a≠some ⟨o.b,0,none⟩)→
   SX GB C n (upL tl (some d) (.rw d)) (Sx.upB (Sx.upB tb [(nm,none)]) [(d,some (.b e s dz false))]) K→Rel C n (Sx.put (frA a) (some d) (.slice z.a z.n z.c)) ov' G a' w'→K a' w':=fun hB1 hos hov hk1 rl=>
  hk1.run _ _ _ _ _ (rd.new' (f:= .rw d) (y:= .slice _ _ _) hf' (GLe.refl _) rl.h (hB1.toBk (by simp)) hos hov (by show _=_;simp) (abj rl))
 have hfin: ∀(b:Nat) (lo1:Bool) (cap':Nat) (rest':List Value) (ov1:List Own) a' w',vs.length+us.length≤cap'→rest'.length+(vs.length+us.length)*s=cap'*s→(∀o∈ov,(ρ nm).a≠some ⟨o.b,0,none⟩→o∈ov1)→
   Rel C n (put (frA a) (some d) (.slice (some ⟨b,0,none⟩) (vs.length+us.length) cap')) (⟨b,aah (vs++us)++rest',e,lo1⟩::ov1) G a' w'→K a' w':=by
  intro b lo1 cap' rest' ov1 a' w' hc hr ho1 rl
  have hnd':=(bR.1 rl.h.nd).1
  refine hnew (z:=⟨some ⟨b,0,none⟩,vs.length+us.length,cap'⟩) (B1:=[⟨b,aah (vs++us)++rest',e,lo1⟩]) ⟨vs++us, .inr ⟨b,rest',lo1,by simp,rfl,aap _ hall,?_,by simpa using hc⟩,hv.app h3,hall,fun h=>by cases h⟩
   (fun o ho=>by rw[aU.1 ho];exact aQ) (fun m B' hm e o ho hmo=>?_) hk rl
  ·rw[aap _ hall,aV]
   simp only[]
   omega
  ·obtain⟨h7,h8⟩:=hbk m B' e
   have ho2:=ho1 o ho fun hc=>r.dj m nm B' _ h8 (s2 _ _ hb) h7 _ hmo hc
   exact⟨aX _ ho2,fun e'=>by cases e';exact hnd' o ho2 rfl⟩
 rcases hB with⟨e1,e2,e3⟩|⟨b,rest,lo',k3,k4,k5,k6,k7⟩
 ·subst e1
  rw[e2] at hx'
  by_cases hne:us=[]
  ·subst hne
   have:ds2=[]:=bS (by rw[←h3.len];rfl)
   subst this
   rw[h2] at hy'
   refine agP hx' hy' hd (fun a' w' rl=>?_) a w Q ⟨r.h,r.sz,aaN a,r.df⟩
   refine hnew (z:=⟨none,0,0⟩) (B1:=[]) ⟨[], .inl ⟨rfl,rfl,rfl⟩,by simpa using hv,by simp,fun h=>by cases h⟩ (fun o ho=>by cases ho) (fun m B' hm e o ho hmo=>⟨ho,fun e'=>by cases e'⟩) hk rl
  ·have hup:0<us.length:=lK.2 hne
   rw[h2] at hy' h6
   refine ac6 (z:=v) (xs:=[]) (ys:=aah us) hx' hy' aeH h6 (by show(0:Nat)<0+us.length;omega) hby (by simpa using hbd') hd (fun b cap' hc a' w' rl=>?_) a w Q ⟨r.h,r.sz,aaN a,r.df⟩
   exact hfin b true cap' (aa7 v (cap'-us.length)) ov a' w' (by simpa using hc) (by rw[abG,cz,hs,←cY];simp at hc⊢;congr 1;omega) (fun o ho _=>ho) (by simpa using rl)
 ·subst k4
  have ha:(ρ nm).a=some ⟨b,0,none⟩:=by rw[k3]
  have hn:(ρ nm).n=vs.length:=by rw[k3]
  rw[ha,hn] at hx'
  rw[h2] at hy' h6
  obtain⟨ov1,o1,o2⟩:=alI.of_mem (hBo _ aQ)
  refine agr (z:=v) (xs:=aah vs) (ys:=aah us) (rest:=rest) (own1:=ov1) hx' hy' o1 k5 k6 k7 h6 hus h5 hby hbd' (by rw[cz,hs]) hd (fun b' lo2 cap' rest' hc hr a' w' rl=>?_) a w Q ⟨r.h,r.sz,aaN a,r.df⟩
  rw[←ab7] at rl
  exact hfin b' lo2 cap' rest' ov1 a' w' hc hr (fun o ho hne=>o2 o ho fun e'=>hne (by rw[ha,e'])) rl
end
section
variable {GB:Gh} {C:Ctx} {n:Nat} {Q0:Exit→Act→World→Prop} {fr fr':FrX} {own own':OwX} {cf cf':Cf} {vc:List Prop}
def aFr(fr:FrX)(own:OwX)(cf:Cf):Option (Nat×Nat×Nat×Nat×Nat×List DV×List DV):=match opC fr cf with
 |some ⟨some d, .call ⟨.builtin .append,⟨[x,y]⟩,⟨[t,t']⟩⟩,_,_,_,_⟩=>match abk tt t with
  |some ⟨.sl e s b,_,_,_⟩=>match abk tt t' with
   |some ⟨.sl _ _ _,_,_,_⟩=>match abk tt e with
    |some i=>match zeE i with
     |some z=>bif Nat.beq z.cells.length s&&Nat.blt 0 b then(match at3 (lkC fr cf) (bkC fr own cf) s y with
      |some ds2=>match evX (lkC fr cf) x with
       |some (.rw nm)=>match bkC fr own cf nm with
        |some (.b e' s' ds false)=>bif (Nat.beq e' e&&Nat.beq s' s)&&!Nat.beq nm d then some (d,nm,e,s,b,ds,ds2) else none
        |_=>none
       |_=>none
      |none=>none) else none
     |none=>none
    |none=>none
   |_=>none
  |_=>none
 |_=>none
theorem apB[fu:Fu]{d nm:Nat}{e s b:Nat}{ds ds2:List DV}(ds':List DV)(h:aFr fr own cf=some (d,nm,e,s,b,ds,ds2))(hds:ds++ds2=ds')(ho2:ads s ds2)(hgo:goA tt n fu.n fr own cf (.rw d) [(nm,none),(d,some (.b e s ds' false))] [d]=⟨vc,fr',own',cf'⟩)(k:CfS prog GB C n Q0 fr' own' cf')
  (hbd:(ds.length+ds2.length)*b≤140737488355328:=by simp;omega)
  (hv:aag vc:=by first|exact trivial|(simp only[aag];kernel_rfl)|(simp only[aag];omega)|(simp only[aag,aJ,aN,aY];omega)):CfS prog GB C n Q0 fr own cf:=by
 unfold aFr at h
 split at h<;>try (cases h;done)
 rename_i hh
 split at h<;>try (cases h;done)
 rename_i hT
 split at h<;>try (cases h;done)
 rename_i hT'
 split at h<;>try (cases h;done)
 rename_i hi
 split at h<;>try (cases h;done)
 rename_i hz
 rw[cond_eq_ite] at h
 split at h<;>try (cases h;done)
 rename_i hc
 simp only[cJ] at hc
 split at h<;>try (cases h;done)
 rename_i hy
 have:=aef (abK _ _ hT) rfl
 have hN:TyN prog _:=⟨_,(aef (abK _ _ hT') rfl).un⟩
 split at h<;>try (cases h;done)
 rename_i hx
 split at h<;>try (cases h;done)
 rename_i hb
 rw[cond_eq_ite] at h
 split at h<;>cases h
 rename_i hq
 simp only[cJ,gX] at hq
 cases aR hq.1.1
 cases aR hq.1.2
 exact us hh (ava (abK _ _ hi) hz hc.1 hx hb hy ho2 hc.2 hbd hq.2 hds) hgo hv k
end
theorem axU(xs ys:List NQ)(n:NQ):((xs++(n::ys)).map eN)[((xs.length:Nat):Int).toNat]? =some (eN n):=by simp
theorem axI(xs ys:List NQ)(n m:NQ)(e:DV)(h:e=eN m):((xs++(n::ys)).map eN).set ((xs.length:Nat):Int).toNat e=(xs++(m::ys)).map eN:=by subst h;simp
theorem amF{ns:List NQ}:PB GB prog 49 (mkB [some (eT (.leaf true)),none]) 8 135 (ns.map eN) (fun w=> .tp ([]++ .v (.slice w.a w.n w.c)::[.v (.int .i64 (Tr.num (.leaf true) ns.length))])) ((ns++Tr.wr (.leaf true) ns.length).map eN):=by
 refine fnB (fu:=⟨12⟩) func49 J J ntmps49 J J (fun C=>?_)
 refine knT (fu:=⟨9⟩) J J J<|knT J J J<|?_
 exact rzB J J J J J (by simp[Tr.wr]) rfl
theorem alw{ns:List NQ}:PB GB prog 49 (mkB [some (eT (.leaf false)),none]) 8 135 (ns.map eN) (fun w=> .tp ([]++ .v (.slice w.a w.n w.c)::[.v (.int .i64 (Tr.num (.leaf false) ns.length))])) ((ns++Tr.wr (.leaf false) ns.length).map eN):=by
 refine fnB (fu:=⟨12⟩) func49 J J ntmps49 J J (fun C=>?_)
 refine knT (fu:=⟨9⟩) J J J<|knF J J J<|?_
 exact rzB J J J J J (by simp[Tr.wr]) rfl
theorem anu{l:LnQ}{s u:Tr}{ns:List NQ}(hl:BL l 96)(hs:ns.length+(1+s.size+u.size)≤1000000)(ihs: ∀{ns:List NQ},ns.length+s.size≤1000000→PB GB prog 49 (mkB [some (eT s),none]) 8 135 (ns.map eN) (fun w=> .tp ([]++ .v (.slice w.a w.n w.c)::[.v (.int .i64 (Tr.num s ns.length))])) ((ns++Tr.wr s ns.length).map eN))(ihu: ∀{ns:List NQ},ns.length+u.size≤1000000→PB GB prog 49 (mkB [some (eT u),none]) 8 135 (ns.map eN) (fun w=> .tp ([]++ .v (.slice w.a w.n w.c)::[.v (.int .i64 (Tr.num u ns.length))])) ((ns++Tr.wr u ns.length).map eN)):PB GB prog 49 (mkB [some (eT (.node l s u)),none]) 8 135 (ns.map eN) (fun w=> .tp ([]++ .v (.slice w.a w.n w.c)::[.v (.int .i64 (Tr.num (.node l s u) ns.length))])) ((ns++Tr.wr (.node l s u) ns.length).map eN):=by
 refine fnB (fu:=⟨12⟩) func49 J J ntmps49 J J (fun C=>?_)
 refine knF (fu:=⟨9⟩) J J J<|?_
 refine eqF 20 (.d (.v (.int .i64 (ns.length:Nat)))) rfl (by simp) ?_
 refine gx rfl<|cl rfl (aEN hl) rfl<|rf J J<|apB ((ns++[(⟨l,0,0⟩:NQ)]).map eN) rfl (by rw[bJ]<;>rfl) (aEe [(⟨l,0,0⟩:NQ)]) rfl<|?_
 refine cb _ rfl (ihs (ns:=ns++[(⟨l,0,0⟩:NQ)]) (by simp;omega)) J J<|cb (hv:=by simp only[aag];exact(by simp;omega)) ((ns++((⟨l,0,0⟩:NQ)::(s.wr (ns.length+1)++u.wr (ns.length+1+s.size)))).map eN) rfl (ihu (ns:=ns++[(⟨l,0,0⟩:NQ)]++s.wr (ns++[(⟨l,0,0⟩:NQ)]).length) (by simp[Tr.wr_len];omega)) (by simp[Tr.wr_len,jJ,jV 1]) rfl<|?_
 refine sb (hv:=by simp only[aag];exact(by simp;omega)) (eN ⟨l,0,0⟩) ((ns++((⟨l,s.num (ns.length+1),0⟩:NQ)::(s.wr (ns.length+1)++u.wr (ns.length+1+s.size)))).map eN) rfl (axU ns _ ⟨l,0,0⟩) rfl (by rw[axI _ _ _ ⟨l,s.num (ns.length+1),0⟩ _ (by simp[eN,DV.cells])]) rfl<|?_
 refine sb (eN ⟨l,s.num (ns.length+1),0⟩) ((ns++Tr.wr (.node l s u) ns.length).map eN) rfl (axU ns _ ⟨l,s.num (ns.length+1),0⟩) rfl (by rw[axI _ _ _ ⟨l,s.num (ns.length+1),u.num (ns.length+1+s.size)⟩ _ (by simp[eN,DV.cells,Tr.wr_len,jJ,jV 1])];simp[Tr.wr]) rfl<|?_
 exact rzB J J J J J J J
theorem an2: ∀{t:Tr} {ns:List NQ},t.all (fun l=>BL l 96)→ns.length+t.size≤1000000→PB GB prog 49 (mkB [some (eT t),none]) 8 135 (ns.map eN) (fun w=> .tp ([]++ .v (.slice w.a w.n w.c)::[.v (.int .i64 (Tr.num t ns.length))])) ((ns++Tr.wr t ns.length).map eN)
 | .leaf true,ns,_,_=>amF
 | .leaf false,ns,_,_=>alw
 | .node l s u,ns,hb,hs=>anu hb.1 hs (fun h=>an2 hb.2.1 h) (fun h=>an2 hb.2.2 h)
theorem aAs{t:Tr}(hb:t.all (fun l=>BL l 96))(hs:t.size≤1000000):PF GB prog 11 [eT t] (eA t):=by
 refine fn func11 J J ntmps11 J J (fun C=>?_)
 refine cbn _ rfl (an2 (t:=t) (ns:=[]) hb (by simpa using hs)) J J<|?_
 refine fzE 6 rfl ?_
 exact rz J J
theorem aE6(ds:List Int):ads 1 (ds.map vI):=fun d hd=>by
 obtain⟨n,_,rfl⟩:=bU.1 hd;exact⟨rfl,rfl⟩
theorem avB(es:List Int):(es.map vI).take (min es.length 400)=(es.take 400).map vI:=by
 rw[fS]
 rcases Nat.le_total es.length 400 with h|h
 ·rw[fT h,aT (by simp),aT (by simpa using h)]
 ·rw[Nat.min_eq_right h]
theorem aEa{es:List Int}(hb:es.length≤1125899906842624):PN GB prog 9 [.sl (es.map vI)] 94 Unit (fun _=>[.sl ((es.take 400).map vI), .v (.int .i64 (0:Nat))]):=by
 have hel:(es.map vI).length=es.length:=by simp
 refine fnN func9 J J ntmps9 J J (fun C hmb=>?_)
 refine sc' 0 (min es.length 400) ((es.take 400).map vI) J J (by rw[hel];show(if _ then _ else _:Int)=_;split<;>omega) (avB es) (aE6 _) (by omega) (by omega) rfl<|?_
 exact rzN () J J J J J
theorem afA{t:Tr}(hb:t.all LB)(hok:t.all LnQ.ok)(hd:t.depth≤900):PF GB prog 96 [eT t] (eT (t.restrict [])):=by
 refine fn func96 J J ntmps96 J J (fun C=>?_)
 refine cl rfl (aeY (t:=t) (c:=[]) hb hok (by simp) (by simp) (by simpa using hd)) rfl<|?_
 exact rz rfl (by rw[←Tr.restrictL_eq t [] [] hok (by simp) acg.nil (fun p=>by unfold InD InL;simp)];rfl)
end Go.Sx
end
