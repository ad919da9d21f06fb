/-
  Reference: the half of a line, segments. Reference: sets of marked gaps. Reference: the intersection of lists of spans. The abstract machine: elements of an array of the call's own. Reference: fragments split by a line. Reference: edges, winding numbers, regions of rings. Reference: regions made of rings of package api. Reference: restriction of a tree. Reference: lines and cells around a point, from the tape. Reference: trees written for package api. Reference: the tape, trees that are the same; the program's Reduce over deep values. Reference: raw trees of rings. Reference: trees of rings, complements, merges.
-/
import Derived.Test.YtopfgminkdfpkaaGreatDoorMw15
set_option linter.unusedSimpArgs false
set_option maxHeartbeats 4000000
set_option maxRecDepth 100000
set_option linter.unusedVariables false
section
namespace Go.Sx
open Go Go.Proofs
variable {GB:Gh}
theorem awr(t:Rat):eV ⟨t,0,false,true⟩= .ag [.v (.bool (decide (t.num<0))),dN t.num.natAbs,dD t.den, .v (.bool false), .sl [], .sl [], .v (.bool false), .v (.bool true)]:=by
 unfold eV dD
 simp only[show(0:Rat).num=0 from rfl,show(0:Rat).den=1 from rfl,Int.natAbs_zero,adv];rfl
theorem awf(t:Rat):eV ⟨0,t,true,false⟩= .ag [.v (.bool false), .sl [], .sl [], .v (.bool (decide (t.num<0))),dN t.num.natAbs,dD t.den, .v (.bool true), .v (.bool false)]:=by
 unfold eV dD
 simp only[show(0:Rat).num=0 from rfl,show(0:Rat).den=1 from rfl,Int.natAbs_zero,adv];rfl
def auN(l m:LnQ)(side:Int):DV:= .tp [.sl ((aek l m side).map eV),vB (onB l m)]
theorem anE{l m:LnQ}(h:crossI l m≠0):onB l m=false:=by unfold onB;rw[decide_eq_false];exact fun e=>h e.1
theorem avc{l m:LnQ}(h:crossI l m=0):onB l m=decide ((m.value l.base).num.sign=0):=by unfold onB;simp[h]
theorem asc{l m:LnQ}{side:Int}[hl:LB l][hm:LB m](hlo:l.ok)(hmo:m.ok)(hs:side=1∨side= -1):PF GB Tryz.prog 298 [eL l,eL m,vI side] (auN l m side):=by
 refine fn Tryz.func298 J J Tryz.ntmps298 J J (fun C=>?_)
 refine cl rfl (ash (l:=l) (m:=m)) rfl<|?_
 refine bb J J J (fun hc19=>?_) (fun hc19=>?_)
 ·
  have hc:crossI l m=0:=by simpa using hc19
  refine cl rfl (aq4 hlo.ne) rfl<|cl rfl (aiO (l:=m) (p:=l.base)) rfl<|?_
  refine br J J J (fun hc26=>?_) (fun hc26=>?_)
  ·
   refine cl rfl ay0 rfl<|rf J J<|?_
   exact rz rfl (by unfold auN aek;rw[if_pos hc,if_pos hc26,avc hc];rfl)
  ·
   exact rz rfl (by unfold auN aek;rw[if_pos hc,if_neg hc26,avc hc];rfl)
 ·
  have hc:crossI l m≠0:=by simpa using hc19
  haveI hpb:=aix (l:=l) (m:=m) hlo.ne hc
  obtain⟨t,ht⟩: ∃t,t=acg l (ace l m):=⟨_,rfl⟩
  refine cl (fu:=⟨0⟩) rfl (amf (l:=l) (p:=ace l m) hlo.ne) rfl<|?_
  refine eqF 35 (.d (eQ t)) rfl (by rw[ht]) ?_
  rw[←ht] at hpb
  refine gx rfl<|cl rfl (akj (n:=1) (by decide) (by decide)) rfl<|cl rfl (aeh (a:=t) (b:=((1:Int):Rat))) rfl<|cl rfl (aGm (l:=l) (t:=t+((1:Int):Rat)) hlo.ne) rfl<|?_
  refine cl rfl (aiO (l:=m) (p:=l.at (t+((1:Int):Rat)))) rfl<|?_
  refine br J J J (fun hc44=>?_) (fun hc44=>?_)
  ·
   refine rf J J<|?_
   exact rz rfl (by unfold auN aek;rw[if_neg hc,←ht,if_pos (show(m.value (l.at (t+1))).num.sign=side from hc44),anE hc,List.map_cons,awr];rfl)
  ·
   refine rf J J<|?_
   exact rz rfl (by unfold auN aek;rw[if_neg hc,←ht,if_neg (show¬(m.value (l.at (t+1))).num.sign=side from hc44),anE hc,List.map_cons,awf];rfl)
def eFF(f:FrQ):DV:= .ag [.v (.bool (decide (f.l.a<0))),dN f.l.a.natAbs, .v (.bool (decide (f.l.b<0))),dN f.l.b.natAbs, .v (.bool (decide (f.l.c<0))),dN f.l.c.natAbs, .v (.bool (decide (f.v.lo.num<0))),dN f.v.lo.num.natAbs,dD f.v.lo.den, .v (.bool (decide (f.v.hi.num<0))),dN f.v.hi.num.natAbs,dD f.v.hi.den, .v (.bool f.v.nl), .v (.bool f.v.nh)]
theorem akC(fs:List FrQ):adx 14 (fs.map eFF):=fun d hd=>by
 obtain⟨u,_,rfl⟩:=List.mem_map.1 hd;exact⟨rfl,rfl⟩
theorem bpZ{p:ZP}(h:ZP.le 100 p):BPt p.q 12:=by
 haveI:BI p.1 11:=biC (by have:=h.1;omega) (by decide)
 haveI:BI p.2 11:=biC (by have:=h.2;omega) (by decide)
 exact(inferInstance:BPt (iP p.1 p.2) 12)
theorem avo{v w:ZP}(hv:ZP.le 100 v)(hw:ZP.le 100 w)(h:v≠w):PF GB Tryz.prog 262 [eP v.q,eP w.q] (.tp [eFF (axK v w),vB true]):=by
 have hne: ¬(w.1=v.1∧w.2=v.2):=fun e=>h (Prod.ext e.1.symm e.2.symm)
 obtain⟨hlb,hlo⟩:=ayE (m:=v.1) (n:=v.2) (p:=w.1) (q:=w.2) (by have:=hv.1;omega) (by have:=hv.2;omega) (by have:=hw.1;omega) (by have:=hw.2;omega) hne
 haveI:=hlb
 haveI:=bpZ hv
 haveI:=bpZ hw
 refine fn Tryz.func262 J J Tryz.ntmps262 J J (fun C=>?_)
 refine cl (fu:=⟨3⟩) rfl (an9 (m:=v.1) (n:=v.2) (m':=w.1) (n':=w.2) (by have:=hv.1;omega) (by have:=hv.2;omega) (by have:=hw.1;omega) (by have:=hw.2;omega) (fun e=>hne ⟨e.1.symm,e.2.symm⟩)) rfl<|?_
 refine kbT 13 rfl ?_
 refine gx rfl<|cl rfl (amf (l:=arE v.1 v.2 w.1 w.2) (p:=v.q) hlo.ne) rfl<|cl rfl (amf (l:=arE v.1 v.2 w.1 w.2) (p:=w.q) hlo.ne) rfl<|?_
 exact rz J J
theorem aFC(a b:Bool):eV ⟨0,0,a,b⟩= .ag [.v (.bool false), .sl [], .sl [], .v (.bool false), .sl [], .sl [], .v (.bool a), .v (.bool b)]:=by
 unfold eV dD
 simp only[show(0:Rat).num=0 from rfl,show(0:Rat).den=1 from rfl,Int.natAbs_zero,adv];rfl
theorem aD0(t:Rat)(a b:Bool):eV ⟨t,0,a,b⟩= .ag [.v (.bool (decide (t.num<0))),dN t.num.natAbs,dD t.den, .v (.bool false), .sl [], .sl [], .v (.bool a), .v (.bool b)]:=by
 unfold eV dD
 simp only[show(0:Rat).num=0 from rfl,show(0:Rat).den=1 from rfl,Int.natAbs_zero,adv];rfl
theorem aE9(t:Rat)(a b:Bool):eV ⟨0,t,a,b⟩= .ag [.v (.bool false), .sl [], .sl [], .v (.bool (decide (t.num<0))),dN t.num.natAbs,dD t.den, .v (.bool a), .v (.bool b)]:=by
 unfold eV dD
 simp only[show(0:Rat).num=0 from rfl,show(0:Rat).den=1 from rfl,Int.natAbs_zero,adv];rfl
theorem aAk{cuts:List Rat}{i:Nat}(h:i=0)(k: ¬i<cuts.length):afy cuts i=⟨0,0,decide (i=0),decide (i=cuts.length)⟩:=by unfold afy;rw[if_pos h,if_neg k]
theorem aBx{cuts:List Rat}{i:Nat}{y:Rat}(h:i=0)(k:cuts[i]? =some y):afy cuts i=⟨0,y,decide (i=0),decide (i=cuts.length)⟩:=by
 unfold afy;rw[if_pos h,if_pos (List.getElem?_eq_some_iff.1 k).1,List.getD_eq_getElem?_getD,k];rfl
theorem aAD{cuts:List Rat}{i:Nat}{x:Rat}(h: ¬i=0)(k:cuts[i-1]? =some x)(k2: ¬i<cuts.length):afy cuts i=⟨x,0,decide (i=0),decide (i=cuts.length)⟩:=by
 unfold afy;rw[if_neg h,if_neg k2,List.getD_eq_getElem?_getD,k];rfl
theorem aAA{cuts:List Rat}{i:Nat}{x y:Rat}(h: ¬i=0)(k:cuts[i-1]? =some x)(k2:cuts[i]? =some y):afy cuts i=⟨x,y,decide (i=0),decide (i=cuts.length)⟩:=by
 unfold afy;rw[if_neg h,if_pos (List.getElem?_eq_some_iff.1 k2).1,List.getD_eq_getElem?_getD,k,List.getD_eq_getElem?_getD,k2];rfl
theorem avZ{cuts:List Rat}{marks:List Bool}{k:Nat}(h:marks[k]? =some false):adf cuts marks (k+1)=adf cuts marks k:=by
 rw[adf,List.getD_eq_getElem?_getD,h];rfl
theorem ag4{cuts:List Rat}{marks:List Bool}{k:Nat}(h:marks[k]? =some true)(hp: ¬(0<k∧marks[k-1]? =some true)):adf cuts marks (k+1)=adf cuts marks k++[afy cuts k]:=by
 rw[adf,List.getD_eq_getElem?_getD,h]
 show(if 0<k∧_ then _ else _)=_
 rw[if_neg]
 rintro ⟨h1,h2⟩
 rw[List.getD_eq_getElem?_getD] at h2
 cases e:marks[k-1]? with
 |none=>rw[e] at h2;cases h2
 |some b=>rw[e] at h2;exact hp ⟨h1,by rw[e];simp at h2;rw[h2]⟩
theorem apJ{cuts:List Rat}{marks:List Bool}{k:Nat}(h:marks[k]? =some true):adf cuts marks (k+1)≠[]:=by
 rw[adf,List.getD_eq_getElem?_getD,h]
 show(if 0<k∧_ then _ else _)≠[]
 split
 ·split<;>simp
 ·simp
theorem akJ{cuts:List Rat}{marks:List Bool}{k:Nat}{xs:List IvQ}{v:IvQ}(hk:0<k)(h:marks[k]? =some true)(hp:marks[k-1]? =some true)(hx:adf cuts marks k=xs)(hv:xs[xs.length-1]? =some v):adf cuts marks (k+1)=xs.set (xs.length-1) (am0 v (afy cuts k)):=by
 rw[adf,List.getD_eq_getElem?_getD,h]
 show(if 0<k∧_ then _ else _)=_
 rw[if_pos ⟨hk,by rw[List.getD_eq_getElem?_getD,hp];rfl⟩,hx,List.getLast?_eq_getElem?,hv]
 have hn:0<xs.length:=by
  have:=(List.getElem?_eq_some_iff.1 hv).1;omega
 show xs.dropLast++[_]=_
 apply List.ext_getElem?
 intro i
 rw[List.getElem?_set]
 by_cases hi:i<xs.length-1
 ·rw[List.getElem?_append_left (by rw[List.length_dropLast];exact hi),List.getElem?_dropLast,if_pos hi,if_neg (by omega)]
 ·by_cases hi2:i=xs.length-1
  ·subst hi2
   rw[List.getElem?_append_right (by rw[List.length_dropLast];exact Nat.le_refl _),List.length_dropLast,Nat.sub_self,if_pos rfl,if_pos (by omega)];rfl
  ·rw[List.getElem?_eq_none (by rw[List.length_append,List.length_dropLast];simp;omega),if_neg (by omega),List.getElem?_eq_none (by omega)]
theorem afD{α:Type}{f:α→DV}{l:List α}{k:Nat}{x:α}(hk:0<k)(h:l[k-1]? =some x):(l.map f)[(((k:Nat):Int)-1).toNat]? =some (f x):=by
 rw[show(((k:Nat):Int)-1).toNat=k-1 by omega,List.getElem?_map,h];rfl
theorem avF{k n:Nat}:decide (k=n)=decide (((k:Nat):Int)=((n:Nat):Int)):=decide_eq_decide.2 (by omega)
def aHb(v w:IvQ):IvQ:=⟨v.lo,w.hi,v.nl,v.nh⟩
theorem aCV{cuts:List Rat}{marks:List Bool}(hn:cuts.length≤100000)(hmk:marks.length≤cuts.length+1):PF GB Tryz.prog 316 [.sl (cuts.map eQ), .sl (marks.map vB)] (.sl ((aoF cuts marks).map eV)):=by
 have hm:=aau vB marks
 have hmc:=aau eQ cuts
 refine fn (fu:=⟨15⟩) Tryz.func316 J J Tryz.ntmps316 J J (fun C=>?_)
 refine eqF 11 (.d (vI (marks.length:Nat))) rfl (by rw[hm]<;>rfl) ?_
 refine gx rfl<|?_
 refine nr 5 5 292 8 J J J ?_
 refine lp (X:=List IvQ×Nat) (fun⟨xs,k⟩=>[(12, .d (vI (k:Nat))),(5, .rw 5)]) (fun⟨xs,k⟩=>[(5,some (.b 292 8 (xs.map eV) true))]) (fun⟨xs,k⟩=>xs=adf cuts marks k∧k≤marks.length) (fun⟨xs,k⟩=>marks.length-k) ([],0) rfl ⟨rfl,Nat.zero_le _⟩ (fun _=>rfl) (fun⟨xs,k⟩ hk=>?_)
 dsimp only at hk⊢
 obtain⟨h1,h2⟩:=hk
 have hml:=aau eV xs
 have hxl:xs.length≤k:=by rw[h1];exact aiT
 refine br J J J (fun hc13=>?_) (fun hc13=>?_)
 ·
  obtain⟨b,hz⟩: ∃s,marks[k]? =some s:=⟨_,List.getElem?_eq_getElem (by omega)⟩
  refine ix (fu:=⟨8⟩) _ rfl (aay hz) rfl<|?_
  cases b
  ·
   refine knF (fu:=⟨12⟩) J J J<|?_
   exact at_ (xs,k+1) (by dsimp only;exact⟨⟨by rw[avZ hz,←h1],by omega⟩,(by omega)⟩)
  ·
   refine knT (fu:=⟨13⟩) J J J<|?_
   rcases(show(k=0∧k<cuts.length)∨(k=0∧ ¬k<cuts.length)∨(0<k∧k<cuts.length)∨(0<k∧ ¬k<cuts.length) by omega) with⟨c1,c2⟩|⟨c1,c2⟩|⟨c1,c2⟩|⟨c1,c2⟩
   ·
    obtain⟨y,hy⟩: ∃s,cuts[k]? =some s:=⟨_,List.getElem?_eq_getElem (by omega)⟩
    have hgap:=aBx (cuts:=cuts) (i:=k) c1 hy
    have hnp: ¬(0<k∧marks[k-1]? =some true):=fun e=>by omega
    refine eqF 23 (.d (vI (cuts.length:Nat))) rfl (by rw[hmc]<;>rfl) ?_
    refine gx (fu:=⟨10⟩) rfl<|knF (fu:=⟨11⟩) rfl (by show some (decide _)=some false;rw[decide_eq_false (by omega)]) rfl<|?_
    refine eqF 36 (.d (vI (cuts.length:Nat))) rfl (by rw[hmc]<;>rfl) ?_
    refine gx (fu:=⟨0⟩) rfl<|knT rfl (by show some (decide _)=some true;rw[decide_eq_true (by omega)]) rfl<|ix (fu:=⟨10⟩) _ rfl (aay hy) rfl<|?_
    refine eqF 44 (.d (vI (xs.length:Nat))) rfl (by rw[hml]<;>rfl) ?_
    refine gx (fu:=⟨6⟩) rfl<|knF (fu:=⟨19⟩) rfl (by show some (decide _)=some false;rw[decide_eq_false (by omega)]) rfl<|?_
    refine eqF 73 (.d (eV (afy cuts k))) rfl (by rw[hgap,aE9,avF (k:=k) (n:=0),avF (k:=k) (n:=cuts.length)]<;>rfl) ?_
    refine gx rfl<|rf J J<|ap (fu:=⟨12⟩) ((xs++[afy cuts k]).map eV) rfl (by rw[List.map_append];rfl) (arn [afy cuts k]) rfl<|?_
    refine rnE 75 5 rfl ?_
    exact at_ (xs++[afy cuts k],k+1) (by dsimp only;exact⟨⟨by rw[ag4 hz hnp,←h1],by omega⟩,(by omega)⟩)
   ·
    have hgap:=aAk (cuts:=cuts) (i:=k) c1 c2
    have hnp: ¬(0<k∧marks[k-1]? =some true):=fun e=>by omega
    refine eqF 23 (.d (vI (cuts.length:Nat))) rfl (by rw[hmc]<;>rfl) ?_
    refine gx (fu:=⟨10⟩) rfl<|knF (fu:=⟨11⟩) rfl (by show some (decide _)=some false;rw[decide_eq_false (by omega)]) rfl<|?_
    refine eqF 36 (.d (vI (cuts.length:Nat))) rfl (by rw[hmc]<;>rfl) ?_
    refine gx (fu:=⟨0⟩) rfl<|knF (fu:=⟨10⟩) rfl (by show some (decide _)=some false;rw[decide_eq_false (by omega)]) rfl<|?_
    refine eqF 44 (.d (vI (xs.length:Nat))) rfl (by rw[hml]<;>rfl) ?_
    refine gx (fu:=⟨6⟩) rfl<|knF (fu:=⟨19⟩) rfl (by show some (decide _)=some false;rw[decide_eq_false (by omega)]) rfl<|?_
    refine eqF 73 (.d (eV (afy cuts k))) rfl (by rw[hgap,aFC,avF (k:=k) (n:=0),avF (k:=k) (n:=cuts.length)]<;>rfl) ?_
    refine gx rfl<|rf J J<|ap (fu:=⟨12⟩) ((xs++[afy cuts k]).map eV) rfl (by rw[List.map_append];rfl) (arn [afy cuts k]) rfl<|?_
    refine rnE 75 5 rfl ?_
    exact at_ (xs++[afy cuts k],k+1) (by dsimp only;exact⟨⟨by rw[ag4 hz hnp,←h1],by omega⟩,(by omega)⟩)
   ·
    obtain⟨x,hx⟩: ∃s,cuts[k-1]? =some s:=⟨_,List.getElem?_eq_getElem (by omega)⟩
    obtain⟨pb,hpb⟩: ∃s,marks[k-1]? =some s:=⟨_,List.getElem?_eq_getElem (by omega)⟩
    obtain⟨y,hy⟩: ∃s,cuts[k]? =some s:=⟨_,List.getElem?_eq_getElem (by omega)⟩
    have hgap:=aAA (cuts:=cuts) (i:=k) (by omega) hx hy
    refine eqF 23 (.d (vI (cuts.length:Nat))) rfl (by rw[hmc]<;>rfl) ?_
    refine gx (fu:=⟨10⟩) rfl<|knT rfl (by show some (decide _)=some true;rw[decide_eq_true (by omega)]) rfl<|ix (fu:=⟨11⟩) _ rfl (afD (by omega) hx) rfl<|?_
    refine eqF 36 (.d (vI (cuts.length:Nat))) rfl (by rw[hmc]<;>rfl) ?_
    refine gx (fu:=⟨0⟩) rfl<|knT rfl (by show some (decide _)=some true;rw[decide_eq_true (by omega)]) rfl<|ix (fu:=⟨10⟩) _ rfl (aay hy) rfl<|?_
    refine eqF 44 (.d (vI (xs.length:Nat))) rfl (by rw[hml]<;>rfl) ?_
    refine gx (fu:=⟨6⟩) rfl<|knT rfl (by show some (decide _)=some true;rw[decide_eq_true (by omega)]) rfl<|ix _ rfl (afD (by omega) hpb) rfl<|?_
    refine csb (fu1:=⟨1⟩) (fu2:=⟨11⟩) 54 J J J (fun hg54=>?_) (fun hg54=>?_)
    ·
     have hpb':marks[k-1]? =some true:=by rw[hpb];congr 1
     have hxn:0<xs.length:=by rw[h1];have:=apJ (cuts:=cuts) hpb';rw[show k-1+1=k by omega] at this;exact List.length_pos_iff.2 this
     obtain⟨w,hw⟩: ∃s,xs[xs.length-1]? =some s:=⟨_,List.getElem?_eq_getElem (by omega)⟩
     refine knT rfl (by show some (decide _)=some true;rw[decide_eq_true (by omega)]) rfl<|sb (eV w) ((xs.set (xs.length-1) (⟨w.lo,y,w.nl,w.nh⟩:IvQ)).map eV) rfl (afD hxn hw) rfl (by rw[show(((xs.length:Nat):Int)-1).toNat=xs.length-1 by omega,List.map_set];rfl) rfl<|?_
     refine sb (hv:=by simp only[aai];exact⟨by kernel_rfl,by omega⟩) (eV (⟨w.lo,y,w.nl,w.nh⟩:IvQ)) ((xs.set (xs.length-1) (am0 w (afy cuts k))).map eV) rfl (by rw[show(((xs.length:Nat):Int)-1).toNat=xs.length-1 by omega,List.map_set,List.getElem?_set_self (by rw[hml];omega)]) rfl (by rw[show(((xs.length:Nat):Int)-1).toNat=xs.length-1 by omega,List.map_set,List.set_set,List.map_set,hgap];unfold am0;dsimp only;rw[avF (k:=k) (n:=cuts.length)]<;>rfl) rfl<|?_
     exact at_ (xs.set (xs.length-1) (am0 w (afy cuts k)),k+1) (by dsimp only;exact⟨⟨(akJ (by omega) hz hpb' h1.symm hw).symm,by omega⟩,(by omega)⟩)
    ·
     have hnp: ¬(0<k∧marks[k-1]? =some true):=fun e=>by rw[hpb,hg54] at e;simpa using e.2
     refine eqF 73 (.d (eV (afy cuts k))) rfl (by rw[hgap];unfold eV;dsimp only;rw[avF (k:=k) (n:=0),avF (k:=k) (n:=cuts.length)]<;>rfl) ?_
     refine gx rfl<|rf J J<|ap (fu:=⟨12⟩) ((xs++[afy cuts k]).map eV) rfl (by rw[List.map_append];rfl) (arn [afy cuts k]) rfl<|?_
     refine rnE 75 5 rfl ?_
     exact at_ (xs++[afy cuts k],k+1) (by dsimp only;exact⟨⟨by rw[ag4 hz hnp,←h1],by omega⟩,(by omega)⟩)
   ·
    obtain⟨x,hx⟩: ∃s,cuts[k-1]? =some s:=⟨_,List.getElem?_eq_getElem (by omega)⟩
    obtain⟨pb,hpb⟩: ∃s,marks[k-1]? =some s:=⟨_,List.getElem?_eq_getElem (by omega)⟩
    have hgap:=aAD (cuts:=cuts) (i:=k) (by omega) hx c2
    refine eqF 23 (.d (vI (cuts.length:Nat))) rfl (by rw[hmc]<;>rfl) ?_
    refine gx (fu:=⟨10⟩) rfl<|knT rfl (by show some (decide _)=some true;rw[decide_eq_true (by omega)]) rfl<|ix (fu:=⟨11⟩) _ rfl (afD (by omega) hx) rfl<|?_
    refine eqF 36 (.d (vI (cuts.length:Nat))) rfl (by rw[hmc]<;>rfl) ?_
    refine gx (fu:=⟨0⟩) rfl<|knF (fu:=⟨10⟩) rfl (by show some (decide _)=some false;rw[decide_eq_false (by omega)]) rfl<|?_
    refine eqF 44 (.d (vI (xs.length:Nat))) rfl (by rw[hml]<;>rfl) ?_
    refine gx (fu:=⟨6⟩) rfl<|knT rfl (by show some (decide _)=some true;rw[decide_eq_true (by omega)]) rfl<|ix _ rfl (afD (by omega) hpb) rfl<|?_
    refine csb (fu1:=⟨1⟩) (fu2:=⟨11⟩) 54 J J J (fun hg54=>?_) (fun hg54=>?_)
    ·
     have hpb':marks[k-1]? =some true:=by rw[hpb];congr 1
     have hxn:0<xs.length:=by rw[h1];have:=apJ (cuts:=cuts) hpb';rw[show k-1+1=k by omega] at this;exact List.length_pos_iff.2 this
     obtain⟨w,hw⟩: ∃s,xs[xs.length-1]? =some s:=⟨_,List.getElem?_eq_getElem (by omega)⟩
     refine knT rfl (by show some (decide _)=some true;rw[decide_eq_true (by omega)]) rfl<|sb (eV w) ((xs.set (xs.length-1) (⟨w.lo,0,w.nl,w.nh⟩:IvQ)).map eV) rfl (afD hxn hw) rfl (by rw[show(((xs.length:Nat):Int)-1).toNat=xs.length-1 by omega,List.map_set,aD0];rfl) rfl<|?_
     refine sb (hv:=by simp only[aai];exact⟨by kernel_rfl,by omega⟩) (eV (⟨w.lo,0,w.nl,w.nh⟩:IvQ)) ((xs.set (xs.length-1) (am0 w (afy cuts k))).map eV) rfl (by rw[show(((xs.length:Nat):Int)-1).toNat=xs.length-1 by omega,List.map_set,List.getElem?_set_self (by rw[hml];omega)]) rfl (by rw[show(((xs.length:Nat):Int)-1).toNat=xs.length-1 by omega,List.map_set,List.set_set,List.map_set,hgap];unfold am0;dsimp only;rw[avF (k:=k) (n:=cuts.length)]<;>rfl) rfl<|?_
     exact at_ (xs.set (xs.length-1) (am0 w (afy cuts k)),k+1) (by dsimp only;exact⟨⟨(akJ (by omega) hz hpb' h1.symm hw).symm,by omega⟩,(by omega)⟩)
    ·
     have hnp: ¬(0<k∧marks[k-1]? =some true):=fun e=>by rw[hpb,hg54] at e;simpa using e.2
     refine eqF 73 (.d (eV (afy cuts k))) rfl (by rw[hgap,aD0,avF (k:=k) (n:=0),avF (k:=k) (n:=cuts.length)]<;>rfl) ?_
     refine gx rfl<|rf J J<|ap ((xs++[afy cuts k]).map eV) rfl (by rw[List.map_append];rfl) (arn [afy cuts k]) rfl<|?_
     refine rnE 75 5 rfl ?_
     exact at_ (xs++[afy cuts k],k+1) (by dsimp only;exact⟨⟨by rw[ag4 hz hnp,←h1],by omega⟩,(by omega)⟩)
 ·
  have hfin:aoF cuts marks=xs:=by rw[h1,aoF,show k=marks.length by omega]
  refine fzE 5 rfl ?_
  exact rz rfl (by rw[hfin];rfl)
theorem alt{g:Rat}: ∀{l:List Rat},g∈adR l→ ∃a∈l,∃b∈l,g=(a+b)/2
 |[],h=>by cases h
 |[_],h=>by cases h
 |a::b::t,h=>by
  rw[adR] at h
  rcases List.mem_cons.1 h with rfl|h
  ·exact⟨a,List.mem_cons_self,b,List.mem_cons_of_mem _ List.mem_cons_self,rfl⟩
  ·obtain⟨c,hc,d,hd,e⟩:=alt h
   exact⟨c,List.mem_cons_of_mem _ hc,d,List.mem_cons_of_mem _ hd,e⟩
theorem azx{l:List Rat}(h: ∀q∈l,BQ q 1200): ∀g∈aaU l,BQ g 2500:=fun g hg=>by
 cases l with
 |nil=>
  rw[aaU,List.mem_singleton] at hg;subst hg
  exact BQ.mono (k:=1) ⟨by decide,by decide⟩ (by decide)
 |cons a t=>
  rw[aaU] at hg
  rcases List.mem_cons.1 hg with rfl|hg
  ·haveI:=h a List.mem_cons_self
   exact BQ.mono (inferInstance:BQ (a-1) _) (by omega)
  ·rcases List.mem_append.1 hg with hg|hg
   ·obtain⟨c,hc,d,hd,rfl⟩:=alt hg
    haveI:=h c hc
    haveI:=h d hd
    exact BQ.mono (inferInstance:BQ ((c+d)/2) _) (by omega)
   ·rw[List.mem_singleton] at hg
    haveI:=h _ (List.getLast_mem (l:=a::t) (by simp))
    subst hg
    exact BQ.mono (inferInstance:BQ ((a::t).getLast (by simp)+1) _) (by omega)
theorem akE(l:List IvQ):aiW l l.length=aeP l:=by unfold aiW;rw[List.take_length]
theorem av3{l:List IvQ}(h: ∀v∈l,IvB v): ∀y∈aeP l,BQ y 1200:=by rw[←akE];exact apA h
theorem akf(l:List IvQ):(aeP l).length≤2*l.length:=by rw[←akE];exact agD l _
theorem IvB.app{a b:List IvQ}(ha: ∀v∈a,IvB v)(hb: ∀v∈b,IvB v): ∀v∈a++b,IvB v:=fun v hv=>(List.mem_append.1 hv).elim (ha v) (hb v)
theorem amU{a b:List IvQ}(ha: ∀v∈a,IvB v)(hb: ∀v∈b,IvB v)(hna:a.length≤100)(hnb:b.length≤100):PF GB Tryz.prog 299 [vI 2, .sl (a.map eV), .sl (b.map eV)] (.sl ((ajq 2 a b).map eV)):=by
 obtain⟨cuts,hcu⟩: ∃c,c=aeP (a++b):=⟨_,rfl⟩
 have hab:=IvB.app ha hb
 have hcb: ∀q∈cuts,BQ q 1200:=by rw[hcu];exact av3 hab
 have hcl:cuts.length≤2*(a.length+b.length):=by rw[hcu];have:=akf (a++b);rw[List.length_append] at this;exact this
 have hgb:=azx hcb
 have hgl:=aez (l:=cuts)
 have hmp:=aau eQ (aaU cuts)
 refine fn Tryz.func299 J J Tryz.ntmps299 J J (fun C=>?_)
 refine ro0 J J<|ap (a.map eV) J J (arn _) rfl<|apf ((a++b).map eV) rfl (by rw[List.map_append]) (arn b) rfl<|cl (fu:=⟨0⟩) rfl (aDb (l:=a++b) hab (by rw[List.length_append];omega)) rfl<|?_
 refine eqF 19 (.d (.sl (cuts.map eQ))) rfl (by rw[hcu]) ?_
 refine gx rfl<|cl (fu:=⟨1⟩) rfl (av5 (cuts:=cuts) hcb (by omega)) rfl<|?_
 refine eqF 22 (.d (vI ((cuts.length+1:Nat):Int))) rfl (by rw[hmp,hgl]<;>rfl) ?_
 refine gx rfl<|?_
 refine nr 8 8 4 1 J J J ?_
 refine lp (X:=Nat) (fun k=>[(23, .d (vI (k:Nat))),(8, .rw 8)]) (fun k=>[(8,some (.b 4 1 ((((aaU cuts).map (fun t=>ahw 2 (acQ a t) (acQ b t))).take k).map vB) true))]) (fun k=>k≤cuts.length+1) (fun k=>cuts.length+1-k) 0 rfl (Nat.zero_le _) (fun _=>rfl) (fun k hk=>?_)
 have hml:(((((aaU cuts).map (fun t=>ahw 2 (acQ a t) (acQ b t))).take k).map vB)).length=k:=by rw[List.length_map,List.length_take,List.length_map,hgl];omega
 refine br (fu2:=⟨0⟩) J J J (fun hc24=>?_) (fun hc24=>?_)
 ·
  obtain⟨t,hz⟩: ∃s,(aaU cuts)[k]? =some s:=⟨_,List.getElem?_eq_getElem (by omega)⟩
  haveI:=hgb t (List.mem_of_getElem? hz)
  have hz2:((aaU cuts).map (fun t=>ahw 2 (acQ a t) (acQ b t)))[k]? =some (ahw 2 (acQ a t) (acQ b t)):=by rw[List.getElem?_map,hz];rfl
  refine ix _ rfl (aay hz) rfl<|cl rfl (aDq (l:=a) (t:=t) ha (by omega)) rfl<|cl (fu:=⟨6⟩) rfl (aDq (l:=b) (t:=t) hb (by omega)) rfl<|?_
  cases hx:acQ a t
  ·
   refine knF (fu:=⟨15⟩) J J J<|knT (fu:=⟨5⟩) J J J<|knF J J J<|rf J J<|ap (fu:=⟨8⟩) ((((aaU cuts).map (fun t=>ahw 2 (acQ a t) (acQ b t))).take (k+1)).map vB) rfl (by rw[←abo hz2,hx];rfl) (aD5 [false]) rfl<|?_
   refine rnE 59 8 rfl ?_
   exact at_ (k+1) ⟨(by omega),(by omega)⟩
  ·
   refine knT (fu:=⟨15⟩) J J J<|knT (fu:=⟨5⟩) J J J<|knT J J J<|rf J J<|ap ((((aaU cuts).map (fun t=>ahw 2 (acQ a t) (acQ b t))).take (k+1)).map vB) rfl (by rw[←abo hz2,hx];rfl) (aD5 [_]) rfl<|?_
   refine rnE 59 8 rfl ?_
   exact at_ (k+1) ⟨(by omega),(by omega)⟩
 ·
  obtain rfl:k=cuts.length+1:=by omega
  have htk:((aaU cuts).map (fun t=>ahw 2 (acQ a t) (acQ b t))).take (cuts.length+1)=(aaU cuts).map (fun t=>ahw 2 (acQ a t) (acQ b t)):=List.take_of_length_le (by rw[List.length_map,hgl];exact Nat.le_refl _)
  rw[htk]
  refine fzC 8 rfl ?_
  refine gx rfl<|cl rfl (aCV (cuts:=cuts) (marks:=(aaU cuts).map (fun t=>ahw 2 (acQ a t) (acQ b t))) (by omega) (by rw[List.length_map,hgl];exact Nat.le_refl _)) rfl<|?_
  exact rz rfl (by unfold ajq;rw[←hcu];rfl)
section
variable {GB:Gh} {C:Ctx} {n:Nat} {Q0:Exit→Act→World→Prop} {fr fr':FrX} {own own':OwX} {cf cf':Cf} {vc:List Prop}
theorem aEm{lk:LK}{bk:BM}{dst:Option Nat}{t ty':TypeId}{pos:String}{af:Array Edge}{gd:Option (Nat×Bool)}{x y:Operand}{e len s nm off:Nat}{k:IntKind}{i:Nat}(hu:Tryz.prog.underlying t=some (.array len e))(hs:(Tryz.prog.info? e).map (·.size)=some s)
  (e1:evX lk x=some (.ov nm off))(e2:evX lk y=some (.d (.v (.int k (i:Nat)))))(hi:i<len):OpR Tryz.prog GB C n lk bk ⟨dst, .indexAddr t x y,ty',pos,af,gd⟩ (.ov nm (off+i*s)) [] []:= .yd fun ρ G ov a w r=>by
 obtain⟨p,h1,h2⟩:=r.ev e1
 obtain⟨q,h3,h4⟩:=r.ev e2
 rw[aaz] at h4;subst h4
 obtain⟨b,hb,rfl⟩:=h2
 refine⟨_,⟨b,hb,rfl⟩,?_⟩
 obtain⟨j,hj,hjs⟩: ∃j,Tryz.prog.info? e=some j∧j.size=s:=by
  cases h:Tryz.prog.info? e with
  |none=>rw[h] at hs;cases hs
  |some j=>rw[h] at hs;exact⟨j,rfl,by simpa using hs⟩
 intro a' w' hf hh
 simp only[execOp,aac hf h1,aac hf h3]
 have:(Instr.indexAt t (.pointer (some ⟨b,off,none⟩)) (.int k (i:Nat))).run Tryz.prog w'= .ok (.pointer (some ⟨b,off+i*s,none⟩)) w':=by
  unfold Instr.indexAt
  show(underlying t>>=_).run Tryz.prog w'=_
  rw[aaa (aei hu w')]
  show(underlying t>>=_).run Tryz.prog w'=_
  rw[aaa (aei hu w')]
  have h0:0≤((i:Nat):Int):=Int.natCast_nonneg i
  have h1:((i:Nat):Int)<((len:Nat):Int):=by omega
  simp only[h0,h1,and_self,if_true]
  show(sizeOf e>>=_).run Tryz.prog w'=_
  rw[aaa (agS hj w'),acJ,hjs,Int.toNat_natCast]
  rfl
 exact aan this
def aGl(fr:FrX)(cf:Cf):Option (TypeId×Nat×Nat×Int):=match opC fr cf with
 |some ⟨_, .indexAddr t x y,_,_,_,_⟩=>match evX (lkC fr cf) x with
  |some (.ov nm off)=>match evX (lkC fr cf) y with
   |some (.d (.v (.int _ i)))=>some (t,nm,off,i)
   |_=>none
  |_=>none
 |_=>none
theorem ixa[fu:Fu](i:Nat){t nm off e len s:Nat}(h:aGl fr cf=some (t,nm,off,((i:Nat):Int)))(hu:Tryz.prog.underlying t=some (.array len e))(hs:(Tryz.prog.info? e).map (·.size)=some s)(hi:i<len)
  (hgo:goA tt n fu.n fr own cf (.ov nm (off+i*s)) [] []=⟨vc,fr',own',cf'⟩)(k:CfS Tryz.prog GB C n Q0 fr' own' cf')
  (hv:aai vc:=by first|exact trivial|(simp only[aai];kernel_rfl)|(simp only[aai];omega)):CfS Tryz.prog GB C n Q0 fr own cf:=by
 unfold aGl at h
 split at h<;>try (cases h;done)
 rename_i hh
 split at h<;>try (cases h;done)
 rename_i hx
 split at h<;>cases h
 rename_i hy
 exact us hh (aEm hu hs hx hy hi) hgo hv k
theorem aDF{lk:LK}{bk:BM}{d s:Nat}{e t ty':TypeId}{pos:String}{af:Array Edge}{gd:Option (Nat×Bool)}{ps:List (Nat×Operand)}{fo:List (Nat×Nat×Nat)}{i:TI}{z zx:List FX}{k:Nat}{pre post:List DV}(hi:afE Tryz.prog t=some i)(hk:i.k= .st fo)(hz:i.z=some z)
  (hb:ay6 lk fo z ps=some zx)(h0:zx[k]? =some .nl)(h1:aeo (zx.take k)=some pre)(h2:aeo (zx.drop (k+1))=some post):OpR Tryz.prog GB C n lk bk ⟨some d, .build t ⟨ps⟩,ty',pos,af,gd⟩ (.bx false pre d post) [(d,some (.b e s [] true))] [d]:=by
 intro hd tl tb K' s1 s2 hf hk'
 refine⟨fun ρ G ov a w r Q=>?_⟩
 obtain⟨v,hv,hv'⟩:=alY hi hz
 have:=azp hi hk
 have hsp:zx=zx.take k++ .nl::zx.drop (k+1):=by
  obtain⟨hk1,hk2⟩:=List.getElem?_eq_some_iff.1 h0
  conv=>lhs;rw[←List.take_append_drop k zx,List.drop_eq_getElem_cons hk1,hk2]
 obtain⟨l,h1',h2'⟩:=alG (r.mono s1 s2) (fo:=fo) ps _ _ _ hb (hv' ρ G)
 rw[hsp] at h2'
 obtain⟨m1,m2',rfl,k1,y,m2,rfl,k2,k3⟩:=akL h2'
 cases (show y= .slice none 0 0 from k2)
 have hy:Yd Tryz.prog C (frA a) ov G ⟨some d, .build t ⟨ps⟩,ty',pos,af,gd⟩ (.agg ⟨m1++Value.slice none 0 0::m2⟩):=amx h1'
 have r3:=r.new' (x:=⟨none,0,0⟩) (B':= .b e s [] true) (os:=[]) (ov':=ov) (f:= .bx false pre d post) (y:= .agg ⟨m1++Value.slice none 0 0::m2⟩) hf (GLe.refl G) r.h
  ⟨[],by simp only[if_true];exact .inl ⟨rfl,rfl,rfl⟩, .nil,by simp,fun _ o ho=>by cases ho⟩ (fun o ho=>by cases ho) (fun m B _ _ o ho _=>⟨ho,by simp⟩)
  ⟨m1,m2,by simp,ac7 k1 h1,ac7 k3 h2⟩ (r.putA _ hd)
 exact abp (hy a w (aaQ a) r.h) (hk'.run _ G ov _ w r3)
def aGz(fr:FrX)(cf:Cf):Option (Nat×List FX):=match opC fr cf with
 |some ⟨some d, .build t ⟨ps⟩,_,_,_,_⟩=>match abE tt t with
  |some ⟨.st fo,_,some zx,_⟩=>match ay6 (lkC fr cf) fo zx ps with
   |some l=>some (d,l)
   |none=>none
  |_=>none
 |_=>none
theorem bzp[fu:Fu]{d:Nat}{zx:List FX}(e s kk:Nat)(pre post:List DV)(h:aGz fr cf=some (d,zx))(h0:zx[kk]? =some .nl)(h1:aeo (zx.take kk)=some pre)(h2:aeo (zx.drop (kk+1))=some post)(hgo:goA tt n fu.n fr own cf (.bx false pre d post) [(d,some (.b e s [] true))] [d]=⟨vc,fr',own',cf'⟩)(k:CfS Tryz.prog GB C n Q0 fr' own' cf')
  (hv:aai vc:=by first|exact trivial|(simp only[aai];kernel_rfl)|(simp only[aai];omega)):CfS Tryz.prog GB C n Q0 fr own cf:=by
 unfold aGz at h
 split at h<;>try (cases h;done)
 rename_i hh
 split at h<;>try (cases h;done)
 rename_i hT
 split at h<;>cases h
 rename_i hb
 exact us hh (aDF (aca _ _ hT) J J hb h0 h1 h2) hgo hv k
end
def sp1(f:FrQ)(m:LnQ)(k:Nat):List FrQ:=if k=0 then [] else aa6 f m 1
def sp2(f:FrQ)(m:LnQ)(k:Nat):List FrQ:=if k≤1 then [] else aa6 f m (-1)
theorem aqD{l m:LnQ}(hl:LB l)(hm:LB m)(hlo:l.ok){side:Int}: ∀v∈aek l m side,IvB v:=fun v hv=>⟨(aoO hl hm hlo v hv).2.1,(aoO hl hm hlo v hv).2.2⟩
theorem ag9{l m:LnQ}{side:Int}:(aek l m side).length≤1:=by
 unfold aek;split
 ·split<;>simp
 ·split<;>simp
theorem aql(op:Int)(a b:List IvQ):(ajq op a b).length≤2*(a.length+b.length)+1:=by
 unfold ajq aoF
 refine Nat.le_trans aiT ?_
 rw[List.length_map,aez]
 have:=akf (a++b);rw[List.length_append] at this;omega
theorem aAy{f:FrQ}{m:LnQ}(h:FOk f)[hm:LB m](hmo:m.ok):PF GB Tryz.prog 264 [eFF f,eL m] (.tp [.sl ((aa6 f m 1).map eFF), .sl ((aa6 f m (-1)).map eFF)]):=by
 haveI:=h.lb
 refine fn Tryz.func264 J J Tryz.ntmps264 J J (fun C=>?_)
 refine rf (fu:=⟨1⟩) J J<|?_
 refine eqF 14 (.d (vI (2:Nat))) J J ?_
 refine gx rfl<|?_
 refine nro 6 0 60 303 14 J J J J J ?_
 refine nro 6 1 61 303 14 J J J J J ?_
 refine lp (X:=Nat) (fun k=>[(15, .d (vI (k:Nat))),(6, .ov 6 0)]) (fun k=>[(6,some (.o 374 [.rw 60, .rw 61] true)),(60,some (.b 303 14 ((sp1 f m k).map eFF) true)),(61,some (.b 303 14 ((sp2 f m k).map eFF) true))]) (fun k=>k≤2) (fun k=>2-k) 0 rfl (by omega) (fun _=>rfl) (fun k hk=>?_)
 refine br J J J (fun hc16=>?_) (fun hc16=>?_)
 ·
  rcases(show k=0∨k=1 by omega) with rfl|rfl
  ·
   refine ix _ J J J<|cl (fu:=⟨0⟩) rfl (asc (l:=f.l) (m:=m) (side:=1) h.ok hmo (.inl rfl)) rfl<|?_
   obtain⟨cs,hcs⟩: ∃c,c=ajq 2 [f.v] (aek f.l m 1):=⟨_,rfl⟩
   have hcl:cs.length≤5:=by rw[hcs];have h1:=aql 2 [f.v] (aek f.l m 1);have h2:=ag9 (l:=f.l) (m:=m) (side:=1);simp only[List.length_singleton] at h1;omega
   refine eqF 25 (.d (.tp [.sl ((aek f.l m 1).map eV),vB (onB f.l m)])) J J ?_
   refine gx rfl<|?_
   refine bb J J J (fun hc28=>?_) (fun hc28=>?_)
   ·
    have hon:onB f.l m=true:=hc28
    exact rz rfl (by first|(unfold aa6;rw[if_pos hon,if_pos hon];rfl)|rfl)
   ·
    have hon:onB f.l m=false:=by simpa using hc28
    refine rf J J<|cl (fu:=⟨0⟩) rfl (amU (a:=[f.v]) (b:=aek f.l m 1) (fun v hv=>by rw[List.mem_singleton] at hv;subst hv;exact⟨h.lo,h.hi⟩) (aqD h.lb hm h.ok) (by show 1≤100;decide) (by have:=ag9 (l:=f.l) (m:=m) (side:=1);omega)) rfl<|?_
    refine eqF 33 (.d (.sl (cs.map eV))) rfl (by rw[hcs]) ?_
    refine gx (fu:=⟨1⟩) rfl<|?_
    refine eqF 34 (.d (vI (cs.length:Nat))) rfl (by rw[aau eV cs]<;>rfl) ?_
    refine gx rfl<|?_
    refine lp (X:=Nat) (fun j=>[(35, .d (vI (j:Nat)))]) (fun j=>[(60,some (.b 303 14 (((cs.take j).map fun v=>(⟨f.l,v⟩:FrQ)).map eFF) true))]) (fun j=>j≤cs.length) (fun j=>cs.length-j) 0 rfl (Nat.zero_le _) (fun _=>rfl) (fun j hk=>?_)
    have hml:(((cs.take j).map fun v=>(⟨f.l,v⟩:FrQ)).map eFF).length≤j:=by rw[List.length_map,List.length_map,List.length_take];omega
    refine br J J J (fun hc36=>?_) (fun hc36=>?_)
    ·
     obtain⟨z,hz⟩: ∃s,cs[j]? =some s:=⟨_,List.getElem?_eq_getElem (by omega)⟩
     refine ix _ rfl (aay hz) rfl<|ixa 0 (e:=296) (len:=2) (s:=1) rfl (by kernel_rfl) (by kernel_rfl) (by decide) rfl<|rf J J<|?_
     refine ap (((cs.take (j+1)).map fun v=>(⟨f.l,v⟩:FrQ)).map eFF) rfl (by rw[←abo hz,List.map_append];rfl) (akC [⟨f.l,z⟩]) rfl<|ixa (hv:=by simp only[aai];exact⟨by kernel_rfl,by omega⟩) 0 (e:=296) (len:=2) (s:=1) rfl (by kernel_rfl) (by kernel_rfl) (by decide) rfl<|?_
     refine rnE 48 60 rfl ?_
     exact at_ (j+1) ⟨(by omega),(by omega)⟩
    ·
     obtain rfl:j=cs.length:=by omega
     rw[show(cs.take cs.length).map (fun v=>(⟨f.l,v⟩:FrQ))=aa6 f m 1 from by rw[List.take_length];unfold aa6;rw[if_neg (by rw[hon];decide),←hcs]]
     exact at_ (0+1) ⟨(by omega),(by omega)⟩
  ·
   refine ix _ J J J<|cl (fu:=⟨0⟩) rfl (asc (l:=f.l) (m:=m) (side:= -1) h.ok hmo (.inr rfl)) rfl<|?_
   obtain⟨cs,hcs⟩: ∃c,c=ajq 2 [f.v] (aek f.l m (-1)):=⟨_,rfl⟩
   have hcl:cs.length≤5:=by rw[hcs];have h1:=aql 2 [f.v] (aek f.l m (-1));have h2:=ag9 (l:=f.l) (m:=m) (side:=(-1));simp only[List.length_singleton] at h1;omega
   refine eqF 25 (.d (.tp [.sl ((aek f.l m (-1)).map eV),vB (onB f.l m)])) J J ?_
   refine gx rfl<|?_
   refine bb J J J (fun hc28=>?_) (fun hc28=>?_)
   ·
    have hon:onB f.l m=true:=hc28
    exact rz rfl (by first|(unfold aa6;rw[if_pos hon,if_pos hon];rfl)|rfl)
   ·
    have hon:onB f.l m=false:=by simpa using hc28
    refine rf J J<|cl (fu:=⟨0⟩) rfl (amU (a:=[f.v]) (b:=aek f.l m (-1)) (fun v hv=>by rw[List.mem_singleton] at hv;subst hv;exact⟨h.lo,h.hi⟩) (aqD h.lb hm h.ok) (by show 1≤100;decide) (by have:=ag9 (l:=f.l) (m:=m) (side:=(-1));omega)) rfl<|?_
    refine eqF 33 (.d (.sl (cs.map eV))) rfl (by rw[hcs]) ?_
    refine gx (fu:=⟨1⟩) rfl<|?_
    refine eqF 34 (.d (vI (cs.length:Nat))) rfl (by rw[aau eV cs]<;>rfl) ?_
    refine gx rfl<|?_
    refine lp (X:=Nat) (fun j=>[(35, .d (vI (j:Nat)))]) (fun j=>[(61,some (.b 303 14 (((cs.take j).map fun v=>(⟨f.l,v⟩:FrQ)).map eFF) true))]) (fun j=>j≤cs.length) (fun j=>cs.length-j) 0 rfl (Nat.zero_le _) (fun _=>rfl) (fun j hk=>?_)
    have hml:(((cs.take j).map fun v=>(⟨f.l,v⟩:FrQ)).map eFF).length≤j:=by rw[List.length_map,List.length_map,List.length_take];omega
    refine br J J J (fun hc36=>?_) (fun hc36=>?_)
    ·
     obtain⟨z,hz⟩: ∃s,cs[j]? =some s:=⟨_,List.getElem?_eq_getElem (by omega)⟩
     refine ix _ rfl (aay hz) rfl<|ixa 1 (e:=296) (len:=2) (s:=1) rfl (by kernel_rfl) (by kernel_rfl) (by decide) rfl<|rf J J<|?_
     refine ap (((cs.take (j+1)).map fun v=>(⟨f.l,v⟩:FrQ)).map eFF) rfl (by rw[←abo hz,List.map_append];rfl) (akC [⟨f.l,z⟩]) rfl<|ixa (hv:=by simp only[aai];exact⟨by kernel_rfl,by omega⟩) 1 (e:=296) (len:=2) (s:=1) rfl (by kernel_rfl) (by kernel_rfl) (by decide) rfl<|?_
     refine rnE 48 61 rfl ?_
     exact at_ (j+1) ⟨(by omega),(by omega)⟩
    ·
     obtain rfl:j=cs.length:=by omega
     rw[show(cs.take cs.length).map (fun v=>(⟨f.l,v⟩:FrQ))=aa6 f m (-1) from by rw[List.take_length];unfold aa6;rw[if_neg (by rw[hon];decide),←hcs]]
     exact at_ (1+1) ⟨(by omega),(by omega)⟩
 ·
  obtain rfl:k=2:=by omega
  refine ixa 0 (e:=296) (len:=2) (s:=1) rfl (by kernel_rfl) (by kernel_rfl) (by decide) rfl<|ixa 1 (e:=296) (len:=2) (s:=1) rfl (by kernel_rfl) (by kernel_rfl) (by decide) rfl<|?_
  refine fzE 60 rfl ?_
  refine fzE 61 rfl ?_
  exact rz rfl (by first|(unfold aa6;rw[if_pos hon,if_pos hon];rfl)|rfl)
def eZp(p:ZP):DV:=eP p.q
def eRg(r:List ZP):DV:= .sl (r.map eZp)
theorem azZ(l:List ZP):adx 6 (l.map eZp):=fun d hd=>by
 obtain⟨u,_,rfl⟩:=List.mem_map.1 hd;exact⟨rfl,rfl⟩
theorem azk(l:List (List ZP)):adx 1 (l.map eRg):=fun d hd=>by
 obtain⟨u,_,rfl⟩:=List.mem_map.1 hd;exact⟨rfl,rfl⟩
theorem aFe{r:List ZP}{i:Nat}(h:i<r.length):(r.map eZp)[((i:Nat):Int).toNat]? =some (eZp (r.getD i (0,0))):=by
 rw[Int.toNat_natCast,List.getElem?_map,List.getD_eq_getElem?_getD,List.getElem?_eq_getElem h];rfl
theorem aDY{r:List ZP}{i:Nat}(h:i<r.length):(r.map eZp)[(((i+1)%r.length:Nat):Int).toNat]? =some (eZp (afZ r i)):=aFe (Nat.mod_lt _ (by omega))
theorem aDp(v w p:PtQ):(awX v w p).natAbs≤1:=by
 unfold awX;split<;>split<;>decide
theorem amv(r:List ZP)(p:PtQ): ∀k,(at5 r p k).natAbs≤k
 |0=>Nat.le_refl _
 |k+1=>by rw[at5];have:=amv r p k;have:=aDp (r.getD k (0,0)).q (afZ r k).q p;omega
theorem avw{r:List ZP}(h:abv r):PF GB Tryz.prog 220 [.sl (r.map eZp)] (.sl ((adi r).map eFF)):=by
 have hm:=aau eZp r
 have h3:=h.n3
 have h6:=h.n6
 refine fn (fu:=⟨15⟩) Tryz.func220 J J Tryz.ntmps220 J J (fun C=>?_)
 refine eqF 8 (.d (vI (r.length:Nat))) rfl (by rw[hm]<;>rfl) ?_
 refine gx rfl<|?_
 refine nr 3 3 303 14 J J J ?_
 refine lp (X:=Nat) (fun k=>[(9, .d (vI (k:Nat))),(3, .rw 3)]) (fun k=>[(3,some (.b 303 14 ((agG r k).map eFF) true))]) (fun k=>k≤r.length) (fun k=>r.length-k) 0 rfl (Nat.zero_le _) (fun _=>rfl) (fun k hk=>?_)
 have hel:=fun hh=>(aiZ (k:=k) h hh).1
 refine br J J J (fun hc10=>?_) (fun hc10=>?_)
 ·
  have hkr:k<r.length:=by omega
  have hel:=hel (by omega)
  have hem:=aau eFF (agG r k)
  refine ix (fu:=⟨7⟩) _ rfl (aFe hkr) rfl<|?_
  refine eqF 22 (.d (vI ((k+1)%r.length:Nat))) rfl (by rw[hm]<;>rfl) ?_
  refine gx rfl<|ix _ rfl (aDY hkr) rfl<|cl rfl (avo (v:=r.getD k (0,0)) (w:=afZ r k) (h.le _ (aik hkr)) (h.le _ (aiK hkr)) (h.ne k hkr)) rfl<|?_
  refine rf J J<|ap ((agG r (k+1)).map eFF) rfl (by rw[agG,List.map_append];rfl) (akC [axK (r.getD k (0,0)) (afZ r k)]) rfl<|?_
  refine rnE 31 3 rfl ?_
  exact at_ (k+1) ⟨(by omega),(by omega)⟩
 ·
  obtain rfl:k=r.length:=by omega
  refine fzE 3 rfl ?_
  exact rz J J
theorem axa{r:List ZP}{p:PtQ}{i:Nat}[hp:BPt p i](h:abv r)(hi:i≤80000:=by decide):PF GB Tryz.prog 296 [.sl (r.map eZp),eP p] (vI (awL r p)):=by
 have hm:=aau eZp r
 have h3:=h.n3
 have h6:=h.n6
 refine fn (fu:=⟨16⟩) Tryz.func296 J J Tryz.ntmps296 J J (fun C=>?_)
 refine eqF 12 (.d (vI (r.length:Nat))) rfl (by rw[hm]<;>rfl) ?_
 refine gx rfl<|?_
 refine lp (X:=Nat×Int) (fun⟨k,c⟩=>[(13, .d (vI (k:Nat))),(5, .d (vI c))]) (fun⟨k,c⟩=>[]) (fun⟨k,c⟩=>c=at5 r p k∧k≤r.length) (fun⟨k,c⟩=>r.length-k) (0,0) rfl ⟨rfl,Nat.zero_le _⟩ (fun _=>rfl) (fun⟨k,c⟩ hk=>?_)
 dsimp only at hk⊢
 obtain⟨h1,h2⟩:=hk
 have hcl:c.natAbs≤k:=by rw[h1];exact amv r p k
 refine br J J J (fun hc14=>?_) (fun hc14=>?_)
 ·
  have hkr:k<r.length:=by omega
  obtain⟨v,hv⟩: ∃v,v=r.getD k (0,0):=⟨_,rfl⟩
  obtain⟨w,hw⟩: ∃v,v=afZ r k:=⟨_,rfl⟩
  haveI hvb:BPt v.q 12:=by rw[hv];exact bpZ (h.le _ (aik hkr))
  haveI hwb:BPt w.q 12:=by rw[hw];exact bpZ (h.le _ (aiK hkr))
  refine ix (fu:=⟨1⟩) _ rfl (aFe hkr) rfl<|?_
  refine eqF 19 (.d (eP v.q)) rfl (by rw[hv];rfl) ?_
  refine gx (fu:=⟨6⟩) rfl<|?_
  refine eqF 25 (.d (vI ((k+1)%r.length:Nat))) rfl (by rw[hm]<;>rfl) ?_
  refine gx rfl<|ix (fu:=⟨1⟩) _ rfl (aDY hkr) rfl<|?_
  refine eqF 27 (.d (eP w.q)) rfl (by rw[hw];rfl) ?_
  refine gx rfl<|cl rfl (q_C (a:=v.q.y) (b:=p.y) (i:=12) (j:=i) (by decide) (by omega)) rfl<|cl (fu:=⟨9⟩) rfl (q_C (a:=w.q.y) (b:=p.y) (i:=12) (j:=i) (by decide) (by omega)) rfl<|?_
  rcases(show(aa1 v.q.y p.y≤0∧aa1 w.q.y p.y≤0)∨(aa1 v.q.y p.y≤0∧ ¬aa1 w.q.y p.y≤0)∨(¬aa1 v.q.y p.y≤0∧aa1 w.q.y p.y≤0)∨(¬aa1 v.q.y p.y≤0∧ ¬aa1 w.q.y p.y≤0) by omega) with⟨ca,cb⟩|⟨ca,cb⟩|⟨ca,cb⟩|⟨ca,cb⟩
  ·
   refine knT (fu:=⟨3⟩) rfl (by show some (decide _)=some true;rw[decide_eq_true (by omega)]) rfl<|knF (fu:=⟨15⟩) rfl (by show some (decide _)=some false;rw[decide_eq_false (by omega)]) rfl<|?_
   refine knF (fu:=⟨20⟩) rfl (by show some (decide _)=some false;rw[decide_eq_false (by omega)]) rfl<|?_
   exact at_ (k+1,c) (by dsimp only;exact⟨⟨by rw[at5,←h1,←hv,←hw];unfold awX;split<;>split<;>omega,by omega⟩,(by omega)⟩)
  ·
   refine knT (fu:=⟨3⟩) rfl (by show some (decide _)=some true;rw[decide_eq_true (by omega)]) rfl<|knT rfl (by show some (decide _)=some true;rw[decide_eq_true (by omega)]) rfl<|?_
   refine cl rfl (aqi (a:=v.q) (b:=w.q) (c:=p) (i:=12) (j:=12) (k:=i) (by decide) (by decide) hi) rfl<|?_
   refine br (fu1:=⟨10⟩) (fu2:=⟨6⟩) J J J (fun hc51=>?_) (fun hc51=>?_)
   ·
    refine knF rfl (by show some (decide _)=some false;rw[decide_eq_false (by omega)]) rfl<|?_
    exact at_ (k+1,c+1) (by dsimp only;exact⟨⟨by rw[at5,←h1,←hv,←hw];unfold awX;split<;>split<;>omega,by omega⟩,(by omega)⟩)
   ·
    refine knF (fu:=⟨20⟩) rfl (by show some (decide _)=some false;rw[decide_eq_false (by omega)]) rfl<|?_
    exact at_ (k+1,c) (by dsimp only;exact⟨⟨by rw[at5,←h1,←hv,←hw];unfold awX;split<;>split<;>omega,by omega⟩,(by omega)⟩)
  ·
   refine knF (fu:=⟨19⟩) rfl (by show some (decide _)=some false;rw[decide_eq_false (by omega)]) rfl<|knT (fu:=⟨2⟩) rfl (by show some (decide _)=some true;rw[decide_eq_true (by omega)]) rfl<|?_
   refine knT rfl (by show some (decide _)=some true;rw[decide_eq_true (by omega)]) rfl<|cl rfl (aqi (a:=v.q) (b:=w.q) (c:=p) (i:=12) (j:=12) (k:=i) (by decide) (by decide) hi) rfl<|?_
   refine br (fu2:=⟨8⟩) J J J (fun hc65=>?_) (fun hc65=>?_)
   ·
    exact at_ (k+1,c-1) (by dsimp only;exact⟨⟨by rw[at5,←h1,←hv,←hw];unfold awX;split<;>split<;>omega,by omega⟩,(by omega)⟩)
   ·
    exact at_ (k+1,c) (by dsimp only;exact⟨⟨by rw[at5,←h1,←hv,←hw];unfold awX;split<;>split<;>omega,by omega⟩,(by omega)⟩)
  ·
   refine knF (fu:=⟨19⟩) rfl (by show some (decide _)=some false;rw[decide_eq_false (by omega)]) rfl<|knT (fu:=⟨2⟩) rfl (by show some (decide _)=some true;rw[decide_eq_true (by omega)]) rfl<|?_
   refine knF rfl (by show some (decide _)=some false;rw[decide_eq_false (by omega)]) rfl<|?_
   exact at_ (k+1,c) (by dsimp only;exact⟨⟨by rw[at5,←h1,←hv,←hw];unfold awX;split<;>split<;>omega,by omega⟩,(by omega)⟩)
 ·
  obtain rfl:k=r.length:=by omega
  have hfin:awL r p=c:=h1.symm
  exact rz rfl (by rw[hfin];rfl)
theorem auw{fill n:Int}(hn:n.natAbs≤1000):PF GB Tryz.prog 297 [vI fill,vI n] (vB (aBs fill n)):=by
 refine fn Tryz.func297 J J Tryz.ntmps297 J J (fun C=>?_)
 refine cs 7 J J J (fun hg7=>?_) (fun hg7=>?_)
 ·
  refine cs 12 J J J (fun hg12=>?_) (fun hg12=>?_)
  ·
   exact rz rfl (by show vB _=vB _;unfold aBs;congr 1;simp_all)
  ·
   refine cs 15 J J J (fun hg15=>?_) (fun hg15=>?_)
   ·
    exact rz rfl (by show vB _=vB _;unfold aBs;congr 1;simp_all)
   ·
    exact rz rfl (by show vB _=vB _;unfold aBs;congr 1;simp_all)
 ·
  refine cs 15 J J J (fun hg15=>?_) (fun hg15=>?_)
  ·
   exact rz rfl (by show vB _=vB _;unfold aBs;congr 1;simp_all)
  ·
   exact rz rfl (by show vB _=vB _;unfold aBs;congr 1;simp_all)
def aFw(rs:List (List ZP)):List LnQ:=(acz rs).map FrQ.l
def eRR(rs:List (List ZP))(fill:Int):DV:= .ag [.sl (rs.map eRg), .v (.int .i64 fill), .sl ((adh (aFw rs)).map eL)]
theorem aB9{rs:List (List ZP)}{p:PtQ}(h: ∀r∈rs,abv r)(k:Nat):((rs.take k).foldl (fun n r=>n+awL r p) 0).natAbs≤6*k:=by
 induction k with
 |zero=>rw[List.take_zero];exact Nat.zero_le _
 |succ k ih=>
  rw[List.take_add_one,List.foldl_append]
  cases e:rs[k]? with
  |none=>exact Nat.le_trans ih (by omega)
  |some r=>
   have h1:(awL r p).natAbs≤r.length:=amv r p r.length
   have h2:=(h r (List.mem_of_getElem? e)).n6
   show(List.foldl _ 0 (rs.take k)+awL r p).natAbs≤_
   omega
theorem aFj{rs:List (List ZP)}{fill:Int}{p:PtQ}{i:Nat}[hp:BPt p i](h: ∀r∈rs,abv r)(hn:rs.length≤100)(hi:i≤80000:=by decide):PF GB Tryz.prog 263 [eRR rs fill,eP p] (vB (inR rs fill p)):=by
 have hm:=aau eRg rs
 refine fn (fu:=⟨18⟩) Tryz.func263 J J Tryz.ntmps263 J J (fun C=>?_)
 refine eqF 10 (.d (vI (rs.length:Nat))) rfl (by rw[hm]<;>rfl) ?_
 refine gx rfl<|?_
 refine lp (X:=Nat×Int) (fun⟨k,c⟩=>[(11, .d (vI (k:Nat))),(5, .d (vI c))]) (fun⟨k,c⟩=>[]) (fun⟨k,c⟩=>c=(rs.take k).foldl (fun n r=>n+awL r p) 0∧k≤rs.length) (fun⟨k,c⟩=>rs.length-k) (0,0) rfl ⟨by rw[List.take_zero];rfl,Nat.zero_le _⟩ (fun _=>rfl) (fun⟨k,c⟩ hk=>?_)
 dsimp only at hk⊢
 obtain⟨h1,h2⟩:=hk
 have hcl:c.natAbs≤6*k:=by rw[h1];exact aB9 h k
 refine br J J J (fun hc12=>?_) (fun hc12=>?_)
 ·
  obtain⟨r,hz⟩: ∃s,rs[k]? =some s:=⟨_,List.getElem?_eq_getElem (by omega)⟩
  have hr:=h r (List.mem_of_getElem? hz)
  have hnz:(awL r p).natAbs≤6:=Nat.le_trans (amv r p r.length) hr.n6
  refine ix _ rfl (aay hz) rfl<|cl rfl (axa (r:=r) (p:=p) hr hi) rfl<|?_
  exact at_ (k+1,c+awL r p) (by dsimp only;exact⟨⟨by rw[List.take_add_one,hz,List.foldl_append,←h1];rfl,by omega⟩,(by omega)⟩)
 ·
  obtain rfl:k=rs.length:=by omega
  rw[List.take_length] at h1
  refine cl rfl (auw (fill:=fill) (n:=c) (by omega)) rfl<|?_
  exact rz rfl (by unfold inR;rw[←h1];rfl)
def eAr(r:List ZP):DV:= .sl ((r.map ZP.q).map ePt)
theorem aDf(l:List (List ZP)):adx 1 (l.map eAr):=fun d hd=>by
 obtain⟨u,_,rfl⟩:=List.mem_map.1 hd;exact⟨rfl,rfl⟩
theorem auZ{r:List ZP}(h: ∀p∈r,ZP.le 100 p): ∀p∈r.map ZP.q,BPt p 1200:=fun p hp=>by
 obtain⟨z,hz,rfl⟩:=List.mem_map.1 hp
 have:=bpZ (h z hz)
 exact⟨BQ.mono this.x (by decide),BQ.mono this.y (by decide)⟩
theorem ayT(r:List ZP):DV.sl ((r.map ZP.q).map eP)=eRg r:=by unfold eRg;rw[List.map_map];rfl
theorem ajJ{rs:List (List ZP)}{k:Nat}{r:List ZP}(h:rs[k]? =some r):acz (rs.take (k+1))=acz (rs.take k)++adi r:=by
 unfold acz;rw[List.take_add_one,h,List.flatMap_append];simp
theorem ai2{rs:List (List ZP)}(h: ∀r∈rs,abv r)(k:Nat):(acz (rs.take k)).length≤6*k:=by
 have:=(aeB (rs:=rs.take k) (fun r hr=>h r (List.mem_of_mem_take hr))).1
 have h2:(rs.take k).length≤k:=by rw[List.length_take];omega
 omega
theorem aBD{rs:List (List ZP)}{fill:Int}(h: ∀r∈rs,abv r)(hn:rs.length≤100):PF GB Tryz.prog 172 [.sl (rs.map eAr), .v (.int .i64 fill)] (eRR rs fill):=by
 have hm:=aau eAr rs
 refine fn (fu:=⟨8⟩) Tryz.func172 J J Tryz.ntmps172 J J (fun C=>?_)
 refine bzp (fu:=⟨14⟩) 73 1 0 [] [.v (.int .i64 fill), .sl []] J J J J J<|?_
 refine eqF 15 (.d (vI (rs.length:Nat))) rfl (by rw[hm]<;>rfl) ?_
 refine gx rfl<|?_
 refine nr 6 6 88 6 J J J ?_
 refine lp (X:=Nat) (fun k=>[(16, .d (vI (k:Nat))),(6, .rw 6),(5, .ov 5 0)]) (fun k=>[(5,some (.o 252 [.rw 13, .d (.v (.int .i64 fill)), .d (.sl [])] true)),(13,some (.b 73 1 ((rs.take k).map eRg) true)),(6,some (.b 88 6 (((acz (rs.take k)).map FrQ.l).map eL) true))]) (fun k=>k≤rs.length) (fun k=>rs.length-k) 0 rfl (Nat.zero_le _) (fun _=>rfl) (fun k hk=>?_)
 refine br (fu2:=⟨0⟩) J J J (fun hc17=>?_) (fun hc17=>?_)
 ·
  obtain⟨r,hz⟩: ∃s,rs[k]? =some s:=⟨_,List.getElem?_eq_getElem (by omega)⟩
  have hr:=h r (List.mem_of_getElem? hz)
  have hel:(adi r).length≤6:=by have:=(aln hr).1;have:=hr.n6;omega
  have het:=ai2 h k
  have hrl:((rs.take k).map eRg).length=k:=by rw[List.length_map,List.length_take];omega
  refine ix _ rfl (aay hz) rfl<|cl (fu:=⟨0⟩) rfl (aFh (ps:=r.map ZP.q) (auZ hr.le) (by rw[List.length_map];have:=hr.n6;omega)) rfl<|?_
  refine eqF 21 (.d (eRg r)) rfl (by rw[ayT]) ?_
  refine gx rfl<|rf J J<|ap ((rs.take (k+1)).map eRg) rfl (abo hz) (azk [r]) rfl<|cl (fu:=⟨1⟩) rfl (avw (r:=r) hr) rfl<|?_
  refine eqF 30 (.d (vI ((adi r).length:Nat))) rfl (by rw[aau eFF (adi r)]<;>rfl) ?_
  refine gx rfl<|?_
  rw[←List.append_nil (acz (rs.take k)),←List.take_zero (l:=adi r)]
  refine lp (X:=Nat) (fun j=>[(31, .d (vI (j:Nat))),(6, .rw 6)]) (fun j=>[(6,some (.b 88 6 (((acz (rs.take k)++(adi r).take j).map FrQ.l).map eL) true))]) (fun j=>j≤(adi r).length) (fun j=>(adi r).length-j) 0 rfl (Nat.zero_le _) (fun _=>rfl) (fun j hk=>?_)
  have hml:(((acz (rs.take k)++(adi r).take j).map FrQ.l).map eL).length≤6*k+6:=by rw[List.length_map,List.length_map,List.length_append,List.length_take];omega
  refine br J J J (fun hc32=>?_) (fun hc32=>?_)
  ·
   obtain⟨e,he⟩: ∃s,(adi r)[j]? =some s:=⟨_,List.getElem?_eq_getElem (by omega)⟩
   refine ix _ rfl (aay he) rfl<|rf J J<|ap (((acz (rs.take k)++(adi r).take (j+1)).map FrQ.l).map eL) rfl (by rw[List.take_add_one,he];simp only[List.map_append,List.append_assoc];rfl) (acl [e.l]) rfl<|?_
   refine rnE 39 6 rfl ?_
   exact at_ (j+1) ⟨(by omega),(by omega)⟩
  ·
   obtain rfl:j=(adi r).length:=by omega
   rw[List.take_length,←ajJ hz]
   refine rnE 26 13 rfl ?_
   exact at_ (k+1) ⟨(by omega),(by omega)⟩
 ·
  obtain rfl:k=rs.length:=by omega
  rw[List.take_length]
  refine fzC 6 rfl ?_
  refine fzC 13 rfl ?_
  refine gx rfl<|cl rfl (ahx (ls:=aFw rs) (fun l hl=>by obtain⟨f,hf,rfl⟩:=List.mem_map.1 hl;exact((aeB h).2 f hf).lb) (by unfold aFw;rw[List.length_map];have:=(aeB h).1;omega)) rfl<|?_
  exact rz J J
theorem aFK{rs:List (List ZP)}(h: ∀r∈rs,abv r)(hn:rs.length≤100):PF GB Tryz.prog 173 [.sl (rs.map eRg)] (.sl (rs.map eAr)):=by
 have hm:=aau eRg rs
 refine fn (fu:=⟨15⟩) Tryz.func173 J J Tryz.ntmps173 J J (fun C=>?_)
 refine eqF 7 (.d (vI (rs.length:Nat))) rfl (by rw[hm]<;>rfl) ?_
 refine gx rfl<|?_
 refine nr 3 3 300 1 J J J ?_
 refine lp (X:=Nat) (fun k=>[(8, .d (vI (k:Nat))),(3, .rw 3)]) (fun k=>[(3,some (.b 300 1 ((rs.take k).map eAr) true))]) (fun k=>k≤rs.length) (fun k=>rs.length-k) 0 rfl (Nat.zero_le _) (fun _=>rfl) (fun k hk=>?_)
 have hml:((rs.take k).map eAr).length≤k:=by rw[List.length_map,List.length_take];omega
 refine br J J J (fun hc9=>?_) (fun hc9=>?_)
 ·
  obtain⟨r,hz⟩: ∃s,rs[k]? =some s:=⟨_,List.getElem?_eq_getElem (by omega)⟩
  have hr:=h r (List.mem_of_getElem? hz)
  refine ix (fu:=⟨1⟩) _ rfl (aay hz) rfl<|?_
  refine eqF 11 (.d (.sl ((r.map ZP.q).map eP))) rfl (by rw[ayT]) ?_
  refine gx rfl<|cl rfl (aCJ (ps:=r.map ZP.q) (auZ hr.le) (by rw[List.length_map];have:=hr.n6;omega)) rfl<|rf J J<|ap ((rs.take (k+1)).map eAr) rfl (abo hz) (aDf [r]) rfl<|?_
  refine rnE 16 3 rfl ?_
  exact at_ (k+1) ⟨(by omega),(by omega)⟩
 ·
  obtain rfl:k=rs.length:=by omega
  refine fzE 3 rfl ?_
  exact rz rfl (by rw[List.take_length];rfl)
theorem aoh(out:List LnQ)(l:LnQ):(ac5 out l).length≤out.length+1:=by
 unfold ac5
 split
 ·omega
 ·simp;omega
theorem akW(c:List LnQ): ∀(t out:List LnQ),(afe c t out).length≤out.length+t.length
 |[],out=>by simp[afe]
 |l::t,out=>by
  rw[afe]
  refine Nat.le_trans (akW c t _) ?_
  have:=aoh out l
  split<;>simp<;>omega
theorem afS(c:List LnQ):(abW c).length≤c.length:=Nat.le_trans (akW c c []) (by simp)
theorem ap8{c:List LnQ}(h: ∀m∈c,LB m): ∀m∈abW c,LB m:=fun m hm=>h m (acy.1 hm).1
theorem apW{c:List LnQ}(h: ∀m∈c,m.ok): ∀m∈abW c,m.ok:=fun m hm=>h m (acy.1 hm).1
theorem aqv{c:List LnQ}{l:LnQ}(hc: ∀m∈c,LB m)(hok: ∀m∈c,m.ok)(hn:c.length≤900)(hl:LB l)(hlo:l.ok):PF GB Tryz.prog 106 [.sl (c.map eL),eL l] (.sl ((abW (c++[l])).map eL)):=by
 have hcl:=ae5 c
 refine fn Tryz.func106 J J Tryz.ntmps106 J J (fun C=>?_)
 refine ro0 J J<|ap (c.map eL) J J (acl _) rfl<|rf J J<|apf ((c++[l]).map eL) rfl (by rw[List.map_append];rfl) (acl [l]) rfl<|?_
 refine cl rfl (aAP (c:=c++[l]) (agx hc hl) (acn hok hlo) (by simp;omega)) rfl<|?_
 exact rz J J
theorem ax1{l l1:LnQ}{x y u:Tr}:PF GB Tryz.prog 105 [eL l,eT (.node l1 x y),eT u] (eT (.node l (.node l1 x y) u)):=by
 refine fn (fu:=⟨12⟩) Tryz.func105 J J Tryz.ntmps105 J J (fun C=>?_)
 refine knF J J J<|?_
 refine fzE 33 rfl ?_
 exact rz J J
theorem att{l l1:LnQ}{x y:Tr}{p:Bool}:PF GB Tryz.prog 105 [eL l,eT (.leaf p),eT (.node l1 x y)] (eT (.node l (.leaf p) (.node l1 x y))):=by
 refine fn (fu:=⟨12⟩) Tryz.func105 J J Tryz.ntmps105 J J (fun C=>?_)
 refine knT (fu:=⟨4⟩) J J J<|knF J J J<|?_
 refine fzE 33 rfl ?_
 exact rz J J
theorem atk{l:LnQ}{p q:Bool}:PF GB Tryz.prog 105 [eL l,eT (.leaf p),eT (.leaf q)] (eT (Tr.joinQ l (.leaf p) (.leaf q))):=by
 refine fn (fu:=⟨12⟩) Tryz.func105 J J Tryz.ntmps105 J J (fun C=>?_)
 refine knT (fu:=⟨4⟩) J J J<|knT J J J<|?_
 refine bd J J J (fun hc27=>?_) (fun hc27=>?_)
 ·
  exact rz rfl (by rw[show Tr.joinQ l (.leaf p) (.leaf q)= .leaf p by simp[Tr.joinQ,Tr.isLeaf,Tr.code,hc27]];rfl)
 ·
  refine fzE 33 rfl ?_
  exact rz rfl (by rw[show Tr.joinQ l (.leaf p) (.leaf q)= .node l (.leaf p) (.leaf q) by simp[Tr.joinQ,Tr.isLeaf,Tr.code,hc27]];rfl)
theorem ay3{l:LnQ}: ∀{x y:Tr},PF GB Tryz.prog 105 [eL l,eT x,eT y] (eT (Tr.joinQ l x y))
 | .leaf _, .leaf _=>atk
 | .leaf _, .node .. =>att
 | .node ..,_=>ax1
theorem aie{b:Bool}{c:List LnQ}:PF GB Tryz.prog 103 [eT (.leaf b), .sl (c.map eL)] (eT (Tr.restrictL (.leaf b) c)):=by
 refine fn (fu:=⟨11⟩) Tryz.func103 J J Tryz.ntmps103 J J (fun C=>?_)
 refine knT J J J<|?_
 exact rz J J
theorem ah9{l:LnQ}{x y:Tr}{c:List LnQ}(hl:LB l)(hlo:l.ok)(hc: ∀m∈c,LB m)(hok: ∀m∈c,m.ok)(hn:c.length+(Tr.node l x y).depth≤900)(ihx: ∀{c:List LnQ},(∀m∈c,LB m)→(∀m∈c,m.ok)→c.length+x.depth≤900→PF GB Tryz.prog 103 [eT x, .sl (c.map eL)] (eT (Tr.restrictL x c)))(ihy: ∀{c:List LnQ},(∀m∈c,LB m)→(∀m∈c,m.ok)→c.length+y.depth≤900→PF GB Tryz.prog 103 [eT y, .sl (c.map eL)] (eT (Tr.restrictL y c))):PF GB Tryz.prog 103 [eT (.node l x y), .sl (c.map eL)] (eT (Tr.restrictL (.node l x y) c)):=by
 have hdp:(Tr.node l x y).depth=1+Nat.max x.depth y.depth:=rfl
 have hdx:x.depth≤Nat.max x.depth y.depth:=Nat.le_max_left _ _
 have hdy:y.depth≤Nat.max x.depth y.depth:=Nat.le_max_right _ _
 have hca:=afS (c++[l])
 have hcb:=afS (c++[l.rev])
 rw[List.length_append,List.length_singleton] at hca hcb
 refine fn (fu:=⟨11⟩) Tryz.func103 J J Tryz.ntmps103 J J (fun C=>?_)
 refine knF J J J<|cl rfl (auX (c:=c) (l:=l) hc hok (by omega) hl hlo) rfl<|?_
 refine br J J J (fun hc16=>?_) (fun hc16=>?_)
 ·
  refine cl rfl (ihx hc hok (by omega)) rfl<|?_
  exact rz rfl (by rw[Tr.restrictL,if_pos hc16];rfl)
 ·
  refine br J J J (fun hc24=>?_) (fun hc24=>?_)
  ·
   refine cl rfl (ihy hc hok (by omega)) rfl<|?_
   exact rz rfl (by rw[Tr.restrictL,if_neg hc16,if_pos hc24];rfl)
  ·
   refine cl rfl (aqv (c:=c) (l:=l) hc hok (by omega) hl hlo) rfl<|cl rfl (ihx (c:=abW (c++[l])) (ap8 (agx hc hl)) (apW (acn hok hlo)) (by omega)) rfl<|?_
   refine cl rfl (akB (l:=l)) rfl<|cl rfl (aqv (c:=c) (l:=l.rev) hc hok (by omega) hl.rev hlo.rev) rfl<|cl rfl (ihy (c:=abW (c++[l.rev])) (ap8 (agx hc hl.rev)) (apW (acn hok hlo.rev)) (by omega)) rfl<|?_
   refine cl rfl ay3 rfl<|?_
   exact rz rfl (by rw[Tr.restrictL,if_neg hc16,if_neg hc24];rfl)
theorem aeT: ∀{t:Tr} {c:List LnQ},t.all LB→t.all LnQ.ok→(∀m∈c,LB m)→(∀m∈c,m.ok)→c.length+t.depth≤900→PF GB Tryz.prog 103 [eT t, .sl (c.map eL)] (eT (Tr.restrictL t c))
 | .leaf _,_,_,_,_,_,_=>aie
 | .node l x y,c,hb,ho,hc,hok,hn=>ah9 hb.1 ho.1 hc hok hn (fun h1 h2 h3=>aeT hb.2.1 ho.2.1 h1 h2 h3) (fun h1 h2 h3=>aeT hb.2.2 ho.2.2 h1 h2 h3)
def p7:PtQ:=⟨mkRat 1 7,mkRat 1 5⟩
structure LP (l:LnQ):Prop where
 s:LS l
 p:0<l.value p7
def lsR(es:List Int):Nat→Nat→List LnQ×Nat
 |0,a=>([],a)
 |i+1,a=>((lF es a).1::(lsR es i (lF es a).2).1,(lsR es i (lF es a).2).2)
def lsF(es:List Int)(most a:Nat):List LnQ×Nat:=lsR es (aag es ((most:Int)+1) a).1 (aag es ((most:Int)+1) a).2
def aEn(l:LnQ):LnQ:=if(l.value p7).num.sign<0 then l.rev else l
def aG4(xs:List LnQ)(i:Nat):List LnQ:=(xs.take i).map aEn++xs.drop i
def aGG(es:List Int)(a:Nat):List LnQ×Nat:=((lsF es 3 a).1.map aEn,(lsF es 3 a).2)
theorem ayK(xs ys:List NQ)(n:NQ):((xs++(n::ys)).map eN)[((xs.length:Nat):Int).toNat]? =some (eN n):=by simp
theorem azm(xs ys:List NQ)(n m:NQ)(e:DV)(h:e=eN m):((xs++(n::ys)).map eN).set ((xs.length:Nat):Int).toNat e=(xs++(m::ys)).map eN:=by subst h;simp
theorem anX{ns:List NQ}:PB GB Tryz.prog 49 (mkB [some (eT (.leaf true)),none]) 8 135 (ns.map eN) (fun w=> .tp ([]++ .v (.slice w.a w.n w.c)::[.v (.int .i64 (Tr.num (.leaf true) ns.length))])) ((ns++Tr.wr (.leaf true) ns.length).map eN):=by
 refine fnB (fu:=⟨12⟩) Tryz.func49 J J Tryz.ntmps49 J J (fun C=>?_)
 refine knT (fu:=⟨9⟩) J J J<|knT J J J<|?_
 exact rzB J J J J J (by simp[Tr.wr]) rfl
theorem als{ns:List NQ}:PB GB Tryz.prog 49 (mkB [some (eT (.leaf false)),none]) 8 135 (ns.map eN) (fun w=> .tp ([]++ .v (.slice w.a w.n w.c)::[.v (.int .i64 (Tr.num (.leaf false) ns.length))])) ((ns++Tr.wr (.leaf false) ns.length).map eN):=by
 refine fnB (fu:=⟨12⟩) Tryz.func49 J J Tryz.ntmps49 J J (fun C=>?_)
 refine knT (fu:=⟨9⟩) J J J<|knF J J J<|?_
 exact rzB J J J J J (by simp[Tr.wr]) rfl
theorem amV{l:LnQ}{s u:Tr}{ns:List NQ}(hl:BL l 96)(hs:ns.length+(1+s.size+u.size)≤1000000)(ihs: ∀{ns:List NQ},ns.length+s.size≤1000000→PB GB Tryz.prog 49 (mkB [some (eT s),none]) 8 135 (ns.map eN) (fun w=> .tp ([]++ .v (.slice w.a w.n w.c)::[.v (.int .i64 (Tr.num s ns.length))])) ((ns++Tr.wr s ns.length).map eN))(ihu: ∀{ns:List NQ},ns.length+u.size≤1000000→PB GB Tryz.prog 49 (mkB [some (eT u),none]) 8 135 (ns.map eN) (fun w=> .tp ([]++ .v (.slice w.a w.n w.c)::[.v (.int .i64 (Tr.num u ns.length))])) ((ns++Tr.wr u ns.length).map eN)):PB GB Tryz.prog 49 (mkB [some (eT (.node l s u)),none]) 8 135 (ns.map eN) (fun w=> .tp ([]++ .v (.slice w.a w.n w.c)::[.v (.int .i64 (Tr.num (.node l s u) ns.length))])) ((ns++Tr.wr (.node l s u) ns.length).map eN):=by
 refine fnB (fu:=⟨12⟩) Tryz.func49 J J Tryz.ntmps49 J J (fun C=>?_)
 refine knF (fu:=⟨9⟩) J J J<|?_
 refine eqF 20 (.d (.v (.int .i64 (ns.length:Nat)))) rfl (by simp) ?_
 refine gx rfl<|cl rfl (aF0 hl) rfl<|rf J J<|apB ((ns++[(⟨l,0,0⟩:NQ)]).map eN) rfl (by rw[List.map_append]<;>rfl) (aE5 [(⟨l,0,0⟩:NQ)]) rfl<|?_
 refine cb _ rfl (ihs (ns:=ns++[(⟨l,0,0⟩:NQ)]) (by simp;omega)) J J<|cb (hv:=by simp only[aai];exact(by simp;omega)) ((ns++((⟨l,0,0⟩:NQ)::(s.wr (ns.length+1)++u.wr (ns.length+1+s.size)))).map eN) rfl (ihu (ns:=ns++[(⟨l,0,0⟩:NQ)]++s.wr (ns++[(⟨l,0,0⟩:NQ)]).length) (by simp[Tr.wr_len];omega)) (by simp[Tr.wr_len,Nat.add_assoc,Nat.add_comm 1]) rfl<|?_
 refine sb (hv:=by simp only[aai];exact(by simp;omega)) (eN ⟨l,0,0⟩) ((ns++((⟨l,s.num (ns.length+1),0⟩:NQ)::(s.wr (ns.length+1)++u.wr (ns.length+1+s.size)))).map eN) rfl (ayK ns _ ⟨l,0,0⟩) rfl (by rw[azm _ _ _ ⟨l,s.num (ns.length+1),0⟩ _ (by simp[eN,DV.cells])]) rfl<|?_
 refine sb (eN ⟨l,s.num (ns.length+1),0⟩) ((ns++Tr.wr (.node l s u) ns.length).map eN) rfl (ayK ns _ ⟨l,s.num (ns.length+1),0⟩) rfl (by rw[azm _ _ _ ⟨l,s.num (ns.length+1),u.num (ns.length+1+s.size)⟩ _ (by simp[eN,DV.cells,Tr.wr_len,Nat.add_assoc,Nat.add_comm 1])];simp[Tr.wr]) rfl<|?_
 exact rzB J J J J J J J
theorem aoP: ∀{t:Tr} {ns:List NQ},t.all (fun l=>BL l 96)→ns.length+t.size≤1000000→PB GB Tryz.prog 49 (mkB [some (eT t),none]) 8 135 (ns.map eN) (fun w=> .tp ([]++ .v (.slice w.a w.n w.c)::[.v (.int .i64 (Tr.num t ns.length))])) ((ns++Tr.wr t ns.length).map eN)
 | .leaf true,ns,_,_=>anX
 | .leaf false,ns,_,_=>als
 | .node l s u,ns,hb,hs=>amV hb.1 hs (fun h=>aoP hb.2.1 h) (fun h=>aoP hb.2.2 h)
theorem aAY{t:Tr}(hb:t.all (fun l=>BL l 96))(hs:t.size≤1000000):PF GB Tryz.prog 11 [eT t] (eA t):=by
 refine fn Tryz.func11 J J Tryz.ntmps11 J J (fun C=>?_)
 refine cbn _ rfl (aoP (t:=t) (ns:=[]) hb (by simpa using hs)) J J<|?_
 refine fzE 6 rfl ?_
 exact rz J J
theorem aFQ(ds:List Int):adx 1 (ds.map vI):=fun d hd=>by
 obtain⟨n,_,rfl⟩:=List.mem_map.1 hd;exact⟨rfl,rfl⟩
theorem axU(es:List Int):(es.map vI).take (min es.length 400)=(es.take 400).map vI:=by
 rw[List.map_take]
 rcases Nat.le_total es.length 400 with h|h
 ·rw[Nat.min_eq_left h,List.take_of_length_le (by simp),List.take_of_length_le (by simpa using h)]
 ·rw[Nat.min_eq_right h]
theorem aE8{es:List Int}(hb:es.length≤1125899906842624):PN GB Tryz.prog 9 [.sl (es.map vI)] 94 Unit (fun _=>[.sl ((es.take 400).map vI), .v (.int .i64 (0:Nat))]):=by
 have hel:(es.map vI).length=es.length:=by simp
 refine fnN Tryz.func9 J J Tryz.ntmps9 J J (fun C hmb=>?_)
 refine sc' 0 (min es.length 400) ((es.take 400).map vI) J J (by rw[hel];show(if _ then _ else _:Int)=_;split<;>omega) (axU es) (aFQ _) (by omega) (by omega) rfl<|?_
 exact rzN () J J J J J
theorem aft{t:Tr}(hb:t.all LB)(hok:t.all LnQ.ok)(hd:t.depth≤900):PF GB Tryz.prog 96 [eT t] (eT (t.restrict [])):=by
 refine fn Tryz.func96 J J Tryz.ntmps96 J J (fun C=>?_)
 refine cl rfl (aeT (t:=t) (c:=[]) hb hok (by simp) (by simp) (by simpa using hd)) rfl<|?_
 exact rz rfl (by rw[←Tr.restrictL_eq t [] [] hok (by simp) aa3.nil (fun p=>by unfold InD InL;simp)];rfl)
theorem anJ{cuts:List Rat}{marks:List Bool}: ∀k,2*(adf cuts marks k).length≤k+(if 0<k∧marks.getD (k-1) false=true then 1 else 0)
 |0=>by rw[adf];simp
 |k+1=>by
  have ih:=anJ (cuts:=cuts) (marks:=marks) k
  rw[adf]
  simp only[Nat.add_sub_cancel]
  by_cases hm:marks.getD k false=true
  ·rw[if_pos hm,if_pos (show 0<k+1∧marks.getD k false=true from⟨by omega,hm⟩)]
   by_cases hp:0<k∧marks.getD (k-1) false=true
   ·rw[if_pos hp] at ih⊢
    cases hv:(adf cuts marks k).getLast? with
    |some v=>
     have:0<(adf cuts marks k).length:=by
      cases e:adf cuts marks k with
      |nil=>rw[e] at hv;simp at hv
      |cons a t=>simp
     show 2*((adf cuts marks k).dropLast++[_]).length≤_
     rw[List.length_append,List.length_dropLast,List.length_singleton];omega
    |none=>
     have:adf cuts marks k=[]:=List.getLast?_eq_none_iff.1 hv
     simp only[this];simp
   ·rw[if_neg hp] at ih⊢
    rw[List.length_append,List.length_singleton];omega
  ·rw[if_neg hm]
   split at ih<;>split<;>omega
theorem axA(op:Int)(a b:List IvQ):(ajq op a b).length≤a.length+b.length+1:=by
 unfold ajq aoF
 have h:=anJ (cuts:=aeP (a++b)) (marks:=(aaU (aeP (a++b))).map fun t=>ahw op (acQ a t) (acQ b t)) ((aaU (aeP (a++b))).map fun t=>ahw op (acQ a t) (acQ b t)).length
 have h2:=akf (a++b)
 rw[List.length_append] at h2
 have h3:((aaU (aeP (a++b))).map fun t=>ahw op (acQ a t) (acQ b t)).length=(aeP (a++b)).length+1:=by rw[List.length_map,aez]
 split at h<;>omega
theorem ajd(f:FrQ)(m:LnQ)(side:Int):(aa6 f m side).length≤3:=by
 unfold aa6
 split
 ·simp
 ·rw[List.length_map]
  have:=axA 2 [f.v] (aek f.l m side)
  have h2:=ag9 (l:=f.l) (m:=m) (side:=side)
  rw[List.length_singleton] at this
  omega
theorem aoJ{p v:PtQ}{m:LnQ}{s:Rat}[hp:BPt p 4500][hv:BPt v 97][hm:LB m](hs:BQ s 60000):BQ (adA p v m s) 60000:=by
 unfold adA anD
 split
 ·exact hs
 ·split
  ·exact hs
  ·split
   ·split
    ·haveI:BQ (-(m.value p/(m.value (acR p v ((1:Int):Rat))-m.value p))) 45000:=BQ.mono inferInstance (by decide)
     exact BQ.mono (inferInstance:BQ (-(m.value p/(m.value (acR p v ((1:Int):Rat))-m.value p))/2) _) (by decide)
    ·exact hs
   ·exact hs
theorem apD{p v:PtQ}[hp:BPt p 4500][hv:BPt v 97]: ∀{c:List LnQ} {s:Rat},(∀m∈c,LB m)→BQ s 60000→BQ (aks p v c s) 60000
 |[],_,_,hs=>hs
 |m::t,s,hc,hs=>by
  haveI:=hc m List.mem_cons_self
  exact apD (c:=t) (fun q hq=>hc q (List.mem_cons_of_mem _ hq)) (aoJ hs)
theorem amO{c:List LnQ}(hc: ∀m∈c,LB m)(hok: ∀m∈c,m.ok): ∀{t:List LnQ},(∀m∈t,m∈c)→BPt (acI c t) 70000
 |[],_=>by
  have h0:BQ (0:Rat) 70000:=BQ.mono (k:=1) ⟨by decide,by decide⟩ (by decide)
  exact⟨h0,h0⟩
 |m::t,h=>by
  have hm:=h m List.mem_cons_self
  haveI:=hc m hm
  rw[acI]
  split
  ·have hbd:=aii (v:=IvQ.all) (hok m hm).ne hc IvZ.all (BQ.mono (k:=1) ⟨by decide,by decide⟩ (by decide)) (BQ.mono (k:=1) ⟨by decide,by decide⟩ (by decide))
   haveI:=hbd.1
   haveI:=hbd.2
   haveI hsb:=amZ (v:=(acE m c IvQ.all).1) (i:=1200)
   haveI hpt:BPt (m.at (abR (acE m c IvQ.all).1)) 4500:=by have:=BPt.at m (abR (acE m c IvQ.all).1) (1200+1200+5);exact⟨this.x.mono (by decide),this.y.mono (by decide)⟩
   haveI hvt:BPt (aeq m.dir) 97:=inferInstance
   haveI hns:BQ (aks (m.at (abR (acE m c IvQ.all).1)) (aeq m.dir) c ((1:Int):Rat)) 60000:=apD hc (BQ.mono (k:=2) ⟨by decide,by decide⟩ (by decide))
   have:=BPt.mov (m.at (abR (acE m c IvQ.all).1)) (aeq m.dir) (aks (m.at (abR (acE m c IvQ.all).1)) (aeq m.dir) c ((1:Int):Rat)) 4500 97 60000
   exact⟨this.x.mono (by decide),this.y.mono (by decide)⟩
  ·exact amO hc hok (fun q hq=>h q (List.mem_cons_of_mem _ hq))
theorem aoa{l:List FrQ}{k:Nat}{g:FrQ}{m:LnQ}{side:Int}(h:l[k]? =some g):(l.take (k+1)).flatMap (fun g=>aa6 g m side)=(l.take k).flatMap (fun g=>aa6 g m side)++aa6 g m side:=by
 rw[List.take_add_one,h,List.flatMap_append];simp
theorem aiA(l:List FrQ)(m:LnQ)(side:Int):(l.flatMap fun g=>aa6 g m side).length≤3*l.length:=by
 induction l with
 |nil=>simp
 |cons a t ih=>rw[List.flatMap_cons,List.length_append,List.length_cons];have:=ajd a m side;omega
theorem awF{acc:PtQ→Bool}{n:Nat}{c:List LnQ}:amC acc n [] c= .leaf (acc (acI c c)):=by cases n<;>rfl
theorem arT{rs:List (List ZP)}{fill:Int}(hrs: ∀r∈rs,abv r)(hrn:rs.length≤100){n:Nat}{c:List LnQ}(hc: ∀m∈c,LB m)(hok: ∀m∈c,m.ok)(hn:c.length≤900):PF GB Tryz.prog 221 [eRR rs fill, .sl [], .sl (c.map eL)] (eT (amC (inR rs fill) n [] c)):=by
 haveI hpb:=amO hc hok (t:=c) (fun _ h=>h)
 refine fn (fu:=⟨11⟩) Tryz.func221 J J Tryz.ntmps221 J J (fun C=>?_)
 refine knT J J J<|cl rfl (aps (c:=c) hc hok (by omega)) rfl<|cl rfl (aFj (p:=acI c c) (i:=70000) hrs hrn (by decide)) rfl<|cl rfl (abG (p:=inR rs fill (acI c c))) rfl<|?_
 exact rz rfl (by rw[awF];rfl)
theorem ari{rs:List (List ZP)}{fill:Int}(hrs: ∀r∈rs,abv r)(hrn:rs.length≤100){n:Nat}{f:FrQ}{t:List FrQ}{c:List LnQ}(hfew:Few (n+1) (f::t))(hfo: ∀g∈f::t,FOk g)(hlen:(f::t).length*3^(n+1)≤6973568802)(hc: ∀m∈c,LB m)(hok: ∀m∈c,m.ok)(hn:c.length+(n+1)≤900)(ih: ∀{l:List FrQ} {c:List LnQ},Few n l→(∀f∈l,FOk f)→l.length*3^n≤6973568802→(∀m∈c,LB m)→(∀m∈c,m.ok)→c.length+n≤900→PF GB Tryz.prog 221 [eRR rs fill, .sl (l.map eFF), .sl (c.map eL)] (eT (amC (inR rs fill) n l c))):PF GB Tryz.prog 221 [eRR rs fill, .sl ((f::t).map eFF), .sl (c.map eL)] (eT (amC (inR rs fill) (n+1) (f::t) c)):=by
 obtain⟨l,hl⟩: ∃l,l=f::t:=⟨_,rfl⟩
 have hl0:l[0]? =some f:=by rw[hl];rfl
 rw[←hl] at hfew hfo hlen⊢
 have hm:=aau eFF l
 have hfl:=hfo f (List.mem_of_getElem? hl0)
 haveI:=hfl.lb
 have hlp:0<l.length:=by rw[hl];simp
 have hlb:l.length≤6973568802:=Nat.le_trans (Nat.le_mul_of_pos_right _ (Nat.pow_pos (by decide))) hlen
 refine fn (fu:=⟨11⟩) Tryz.func221 J J Tryz.ntmps221 J J (fun C=>?_)
 refine eqF 17 (.d (vI (l.length:Nat))) rfl (by rw[hm]<;>rfl) ?_
 refine gx (fu:=⟨0⟩) rfl<|knF rfl (by show some (decide _)=some false;rw[decide_eq_false (by omega)]) rfl<|ix (fu:=⟨17⟩) _ rfl (aay (i:=0) hl0) rfl<|?_
 refine eqF 33 (.d (vI (l.length:Nat))) rfl (by rw[hm]<;>rfl) ?_
 refine gx rfl<|?_
 refine nr 10 10 303 14 J J J ?_
 refine nr 11 11 303 14 J J J ?_
 refine lp (X:=Nat) (fun k=>[(34, .d (vI (k:Nat))),(10, .rw 10),(11, .rw 11)]) (fun k=>[(10,some (.b 303 14 (((l.take k).flatMap fun g=>aa6 g f.l 1).map eFF) true)),(11,some (.b 303 14 (((l.take k).flatMap fun g=>aa6 g f.l (-1)).map eFF) true))]) (fun k=>k≤l.length) (fun k=>l.length-k) 0 rfl (Nat.zero_le _) (fun _=>rfl) (fun k hk=>?_)
 have htk:(l.take k).length≤6973568802:=by rw[List.length_take];omega
 have hb1:(((l.take k).flatMap fun g=>aa6 g f.l 1).map eFF).length≤20920706406:=by rw[List.length_map];have:=aiA (l.take k) f.l 1;omega
 have hb2:(((l.take k).flatMap fun g=>aa6 g f.l (-1)).map eFF).length≤20920706406:=by rw[List.length_map];have:=aiA (l.take k) f.l (-1);omega
 refine br (fu2:=⟨0⟩) J J J (fun hc35=>?_) (fun hc35=>?_)
 ·
  obtain⟨g,hz⟩: ∃s,l[k]? =some s:=⟨_,List.getElem?_eq_getElem (by omega)⟩
  have hg:=hfo g (List.mem_of_getElem? hz)
  have hs1:((aa6 g f.l 1).map eFF).length≤3:=by rw[List.length_map];exact ajd _ _ _
  have hs2:((aa6 g f.l (-1)).map eFF).length≤3:=by rw[List.length_map];exact ajd _ _ _
  refine ix _ rfl (aay hz) rfl<|cl rfl (aAy (f:=g) (m:=f.l) hg hfl.ok) rfl<|ap (hbd:=by omega) (((l.take (k+1)).flatMap fun g=>aa6 g f.l 1).map eFF) rfl (by rw[aoa hz,List.map_append]) (akC _) rfl<|?_
  refine ap (hbd:=by omega) (((l.take (k+1)).flatMap fun g=>aa6 g f.l (-1)).map eFF) rfl (by rw[aoa hz,List.map_append]) (akC _) rfl<|?_
  refine rnE 46 10 rfl ?_
  refine rnE 49 11 rfl ?_
  exact at_ (k+1) ⟨(by omega),(by omega)⟩
 ·
  obtain rfl:k=l.length:=by omega
  rw[List.take_length]
  refine fzC 10 rfl ?_
  refine fzC 11 rfl ?_
  refine gx rfl<|ro0 J J<|ap (c.map eL) J J (acl c) rfl<|rf J J<|apf ((c++[f.l]).map eL) rfl (by rw[List.map_append];rfl) (acl [f.l]) rfl<|?_
  refine cl rfl (ih (c:=c++[f.l]) (by subst hl;exact Few.split hfew hfo) (fun g hg=>by obtain⟨q,hq,hg⟩:=List.mem_flatMap.1 hg;exact(alE (hfo q hq) hfl.lb g hg).1) (by have:=aiA l f.l 1;rw[Nat.pow_succ] at hlen;exact Nat.le_trans (Nat.mul_le_mul_right _ this) (by rw[Nat.mul_comm 3,Nat.mul_assoc];rw[Nat.mul_comm (3^n)] at hlen;exact hlen)) (agx hc hfl.lb) (acn hok hfl.ok) (by rw[List.length_append,List.length_singleton];omega)) rfl<|?_
  refine ro0 J J<|ap (c.map eL) J J (acl c) rfl<|cl rfl (akB (l:=f.l)) rfl<|rf J J<|apf ((c++[f.l.rev]).map eL) rfl (by rw[List.map_append];rfl) (acl [f.l.rev]) rfl<|?_
  refine cl (fu:=⟨1⟩) rfl (ih (c:=c++[f.l.rev]) (by subst hl;exact Few.split hfew hfo) (fun g hg=>by obtain⟨q,hq,hg⟩:=List.mem_flatMap.1 hg;exact(alE (hfo q hq) hfl.lb g hg).1) (by have:=aiA l f.l (-1);rw[Nat.pow_succ] at hlen;exact Nat.le_trans (Nat.mul_le_mul_right _ this) (by rw[Nat.mul_comm 3,Nat.mul_assoc];rw[Nat.mul_comm (3^n)] at hlen;exact hlen)) (agx hc hfl.lb.rev) (acn hok hfl.ok.rev) (by rw[List.length_append,List.length_singleton];omega)) rfl<|?_
  refine bxf J J<|?_
  exact rz rfl (by subst hl;rfl)
theorem aDB{rs:List (List ZP)}{fill:Int}(hrs: ∀r∈rs,abv r)(hrn:rs.length≤100): ∀{n:Nat} {l:List FrQ} {c:List LnQ},Few n l→(∀f∈l,FOk f)→l.length*3^n≤6973568802→(∀m∈c,LB m)→(∀m∈c,m.ok)→c.length+n≤900→PF GB Tryz.prog 221 [eRR rs fill, .sl (l.map eFF), .sl (c.map eL)] (eT (amC (inR rs fill) n l c))
 |n,[],c,_,_,_,hc,hok,hn=>arT hrs hrn hc hok (by omega)
 |0,f::t,c,hf,_,_,_,_,_=>by
  obtain⟨K,h1,h2⟩:=hf
  obtain⟨m,hm,_⟩:=h2 f List.mem_cons_self
  rw[List.eq_nil_of_length_eq_zero (l:=K) (by omega)] at hm
  cases hm
 |n+1,f::t,c,hf,ho,hl,hc,hok,hn=>ari hrs hrn hf ho hl hc hok hn (fun a1 a2 a3 a4 a5 a6=>aDB hrs hrn a1 a2 a3 a4 a5 a6)
theorem axz(l:List FrQ):Few l.length l:=⟨l.map FrQ.l,by rw[List.length_map];exact Nat.le_refl _,fun f hf=>⟨f.l,List.mem_map_of_mem hf, .inl rfl⟩⟩
theorem aBm{n:Nat}(h:n≤18):n*3^n≤6973568802:=Nat.le_trans (Nat.mul_le_mul h (Nat.pow_le_pow_right (by decide) h)) (by decide)
theorem aBE{rs:List (List ZP)}{fill:Int}(hrs: ∀r∈rs,abv r)(hrn:rs.length≤3):PF GB Tryz.prog 171 [eRR rs fill] (eT (ajK rs fill)):=by
 have hm:=aau eRg rs
 have hE:=aeB hrs
 have hraw:=azj (acc:=inR rs fill) hE.2 rfl
 refine fn (fu:=⟨17⟩) Tryz.func171 J J Tryz.ntmps171 J J (fun C=>?_)
 refine eqF 8 (.d (vI (rs.length:Nat))) rfl (by rw[hm]<;>rfl) ?_
 refine gx rfl<|?_
 refine nr 3 3 303 14 J J J ?_
 refine lp (X:=Nat) (fun k=>[(9, .d (vI (k:Nat))),(3, .rw 3)]) (fun k=>[(3,some (.b 303 14 ((acz (rs.take k)).map eFF) true))]) (fun k=>k≤rs.length) (fun k=>rs.length-k) 0 rfl (Nat.zero_le _) (fun _=>rfl) (fun k hk=>?_)
 have het:((acz (rs.take k)).map eFF).length≤6*k:=by rw[List.length_map];exact ai2 hrs k
 refine br J J J (fun hc10=>?_) (fun hc10=>?_)
 ·
  obtain⟨r,hz⟩: ∃s,rs[k]? =some s:=⟨_,List.getElem?_eq_getElem (by omega)⟩
  have hr:=hrs r (List.mem_of_getElem? hz)
  have hel:((adi r).map eFF).length≤6:=by rw[List.length_map];have:=(aln hr).1;have:=hr.n6;omega
  refine ix _ rfl (aay hz) rfl<|cl rfl (avw (r:=r) hr) rfl<|ap (hbd:=by omega) ((acz (rs.take (k+1))).map eFF) rfl (by rw[ajJ hz,List.map_append]) (akC _) rfl<|?_
  refine rnE 16 3 rfl ?_
  exact at_ (k+1) ⟨(by omega),(by omega)⟩
 ·
  obtain rfl:k=rs.length:=by omega
  rw[List.take_length]
  refine fz 3 J J<|cl rfl (aDB (n:=(acz rs).length) (l:=acz rs) (c:=[]) hrs (by omega) (axz _) hE.2 (aBm (by have:=hE.1;omega)) (fun m h=>by cases h) (fun m h=>by cases h) (by have:=hE.1;rw[List.length_nil];omega)) rfl<|?_
  refine cl rfl (aft (t:=aGu rs fill) hraw.gd.lb hraw.gd.ok (by have:=hraw.dp;have:=hE.1;show(amC _ _ _ _).depth≤900;omega)) rfl<|?_
  exact rz J J
theorem arD{b:Bool}:PF GB Tryz.prog 97 [eT (.leaf b)] (eT (Tr.compl (.leaf b))):=by
 refine fn (fu:=⟨11⟩) Tryz.func97 J J Tryz.ntmps97 J J (fun C=>?_)
 refine knT J J J<|cl rfl (abG (p:=!b)) rfl<|?_
 exact rz J J
theorem arR{l:LnQ}{x y:Tr}(ihx:PF GB Tryz.prog 97 [eT x] (eT x.compl))(ihy:PF GB Tryz.prog 97 [eT y] (eT y.compl)):PF GB Tryz.prog 97 [eT (.node l x y)] (eT (Tr.compl (.node l x y))):=by
 refine fn (fu:=⟨11⟩) Tryz.func97 J J Tryz.ntmps97 J J (fun C=>?_)
 refine knF J J J<|cl rfl ihx rfl<|cl (fu:=⟨1⟩) rfl ihy rfl<|bxf J J<|?_
 exact rz J J
theorem af4: ∀{t:Tr},PF GB Tryz.prog 97 [eT t] (eT t.compl)
 | .leaf _=>arD
 | .node _ _ _=>arR af4 af4
theorem alI{op:Int}{b:Bool}{u:Tr}{c:List LnQ}(hu:u.all LB)(huo:u.all LnQ.ok)(hc: ∀m∈c,LB m)(hok: ∀m∈c,m.ok)(hn:c.length+u.depth≤900):PF GB Tryz.prog 44 [vI op,eT (.leaf b),eT u, .sl (c.map eL)] (eT (Tr.mergeL op (.leaf b) u c)):=by
 refine fn (fu:=⟨11⟩) Tryz.func44 J J Tryz.ntmps44 J J (fun C=>?_)
 refine knT J J J<|cl rfl (aeT (t:=u) (c:=c) hu huo hc hok hn) rfl<|?_
 refine cs 20 J J J (fun hg20=>?_) (fun hg20=>?_)
 ·
  refine bb J J J (fun hc17=>?_) (fun hc17=>?_)
  ·
   refine cl rfl (abG (p:=true)) rfl<|?_
   exact rz rfl (by show eT _=eT _;congr 1;rw[Tr.mergeL];unfold Tr.chooseL;(repeat' split)<;>first|rfl|(exfalso;simp_all;done)|(exfalso;omega))
  ·
   refine cs 30 J J J (fun hg30=>?_) (fun hg30=>?_)
   ·
    refine bb J J J (fun hc27=>?_) (fun hc27=>?_)
    ·
     refine cl rfl (abG (p:=false)) rfl<|?_
     exact rz rfl (by show eT _=eT _;congr 1;rw[Tr.mergeL];unfold Tr.chooseL;(repeat' split)<;>first|rfl|(exfalso;simp_all;done)|(exfalso;omega))
    ·
     refine cs 45 J J J (fun hg45=>?_) (fun hg45=>?_)
     ·
      refine bb J J J (fun hc42=>?_) (fun hc42=>?_)
      ·
       refine cl rfl af4 rfl<|?_
       exact rz rfl (by show eT _=eT _;congr 1;rw[Tr.mergeL];unfold Tr.chooseL;(repeat' split)<;>first|rfl|(exfalso;simp_all;done)|(exfalso;omega))
      ·
       exact rz rfl (by show eT _=eT _;congr 1;rw[Tr.mergeL];unfold Tr.chooseL;(repeat' split)<;>first|rfl|(exfalso;simp_all;done)|(exfalso;omega))
     ·
      refine cs 49 J J J (fun hg49=>?_) (fun hg49=>?_)
      ·
       refine bb J J J (fun hc42=>?_) (fun hc42=>?_)
       ·
        refine cl rfl af4 rfl<|?_
        exact rz rfl (by show eT _=eT _;congr 1;rw[Tr.mergeL];unfold Tr.chooseL;(repeat' split)<;>first|rfl|(exfalso;simp_all;done)|(exfalso;omega))
       ·
        exact rz rfl (by show eT _=eT _;congr 1;rw[Tr.mergeL];unfold Tr.chooseL;(repeat' split)<;>first|rfl|(exfalso;simp_all;done)|(exfalso;omega))
      ·
       exact rz rfl (by show eT _=eT _;congr 1;rw[Tr.mergeL];unfold Tr.chooseL;(repeat' split)<;>first|rfl|(exfalso;simp_all;done)|(exfalso;omega))
   ·
    refine cs 34 J J J (fun hg34=>?_) (fun hg34=>?_)
    ·
     refine bb J J J (fun hc27=>?_) (fun hc27=>?_)
     ·
      refine cl rfl (abG (p:=false)) rfl<|?_
      exact rz rfl (by show eT _=eT _;congr 1;rw[Tr.mergeL];unfold Tr.chooseL;(repeat' split)<;>first|rfl|(exfalso;simp_all;done)|(exfalso;omega))
     ·
      refine cs 45 J J J (fun hg45=>?_) (fun hg45=>?_)
      ·
       refine bb J J J (fun hc42=>?_) (fun hc42=>?_)
       ·
        refine cl rfl af4 rfl<|?_
        exact rz rfl (by show eT _=eT _;congr 1;rw[Tr.mergeL];unfold Tr.chooseL;(repeat' split)<;>first|rfl|(exfalso;simp_all;done)|(exfalso;omega))
       ·
        exact rz rfl (by show eT _=eT _;congr 1;rw[Tr.mergeL];unfold Tr.chooseL;(repeat' split)<;>first|rfl|(exfalso;simp_all;done)|(exfalso;omega))
      ·
       refine cs 49 J J J (fun hg49=>?_) (fun hg49=>?_)
       ·
        refine bb J J J (fun hc42=>?_) (fun hc42=>?_)
        ·
         refine cl rfl af4 rfl<|?_
         exact rz rfl (by show eT _=eT _;congr 1;rw[Tr.mergeL];unfold Tr.chooseL;(repeat' split)<;>first|rfl|(exfalso;simp_all;done)|(exfalso;omega))
        ·
         exact rz rfl (by show eT _=eT _;congr 1;rw[Tr.mergeL];unfold Tr.chooseL;(repeat' split)<;>first|rfl|(exfalso;simp_all;done)|(exfalso;omega))
       ·
        exact rz rfl (by show eT _=eT _;congr 1;rw[Tr.mergeL];unfold Tr.chooseL;(repeat' split)<;>first|rfl|(exfalso;simp_all;done)|(exfalso;omega))
    ·
     refine cs 45 J J J (fun hg45=>?_) (fun hg45=>?_)
     ·
      refine bb J J J (fun hc42=>?_) (fun hc42=>?_)
      ·
       refine cl rfl af4 rfl<|?_
       exact rz rfl (by show eT _=eT _;congr 1;rw[Tr.mergeL];unfold Tr.chooseL;(repeat' split)<;>first|rfl|(exfalso;simp_all;done)|(exfalso;omega))
      ·
       exact rz rfl (by show eT _=eT _;congr 1;rw[Tr.mergeL];unfold Tr.chooseL;(repeat' split)<;>first|rfl|(exfalso;simp_all;done)|(exfalso;omega))
     ·
      refine cs 49 J J J (fun hg49=>?_) (fun hg49=>?_)
      ·
       refine bb J J J (fun hc42=>?_) (fun hc42=>?_)
       ·
        refine cl rfl af4 rfl<|?_
        exact rz rfl (by show eT _=eT _;congr 1;rw[Tr.mergeL];unfold Tr.chooseL;(repeat' split)<;>first|rfl|(exfalso;simp_all;done)|(exfalso;omega))
       ·
        exact rz rfl (by show eT _=eT _;congr 1;rw[Tr.mergeL];unfold Tr.chooseL;(repeat' split)<;>first|rfl|(exfalso;simp_all;done)|(exfalso;omega))
      ·
       exact rz rfl (by show eT _=eT _;congr 1;rw[Tr.mergeL];unfold Tr.chooseL;(repeat' split)<;>first|rfl|(exfalso;simp_all;done)|(exfalso;omega))
 ·
  refine cs 30 J J J (fun hg30=>?_) (fun hg30=>?_)
  ·
   refine bb J J J (fun hc27=>?_) (fun hc27=>?_)
   ·
    refine cl rfl (abG (p:=false)) rfl<|?_
    exact rz rfl (by show eT _=eT _;congr 1;rw[Tr.mergeL];unfold Tr.chooseL;(repeat' split)<;>first|rfl|(exfalso;simp_all;done)|(exfalso;omega))
   ·
    refine cs 45 J J J (fun hg45=>?_) (fun hg45=>?_)
    ·
     refine bb J J J (fun hc42=>?_) (fun hc42=>?_)
     ·
      refine cl rfl af4 rfl<|?_
      exact rz rfl (by show eT _=eT _;congr 1;rw[Tr.mergeL];unfold Tr.chooseL;(repeat' split)<;>first|rfl|(exfalso;simp_all;done)|(exfalso;omega))
     ·
      exact rz rfl (by show eT _=eT _;congr 1;rw[Tr.mergeL];unfold Tr.chooseL;(repeat' split)<;>first|rfl|(exfalso;simp_all;done)|(exfalso;omega))
    ·
     refine cs 49 J J J (fun hg49=>?_) (fun hg49=>?_)
     ·
      refine bb J J J (fun hc42=>?_) (fun hc42=>?_)
      ·
       refine cl rfl af4 rfl<|?_
       exact rz rfl (by show eT _=eT _;congr 1;rw[Tr.mergeL];unfold Tr.chooseL;(repeat' split)<;>first|rfl|(exfalso;simp_all;done)|(exfalso;omega))
      ·
       exact rz rfl (by show eT _=eT _;congr 1;rw[Tr.mergeL];unfold Tr.chooseL;(repeat' split)<;>first|rfl|(exfalso;simp_all;done)|(exfalso;omega))
     ·
      exact rz rfl (by show eT _=eT _;congr 1;rw[Tr.mergeL];unfold Tr.chooseL;(repeat' split)<;>first|rfl|(exfalso;simp_all;done)|(exfalso;omega))
  ·
   refine cs 34 J J J (fun hg34=>?_) (fun hg34=>?_)
   ·
    refine bb J J J (fun hc27=>?_) (fun hc27=>?_)
    ·
     refine cl rfl (abG (p:=false)) rfl<|?_
     exact rz rfl (by show eT _=eT _;congr 1;rw[Tr.mergeL];unfold Tr.chooseL;(repeat' split)<;>first|rfl|(exfalso;simp_all;done)|(exfalso;omega))
    ·
     refine cs 45 J J J (fun hg45=>?_) (fun hg45=>?_)
     ·
      refine bb J J J (fun hc42=>?_) (fun hc42=>?_)
      ·
       refine cl rfl af4 rfl<|?_
       exact rz rfl (by show eT _=eT _;congr 1;rw[Tr.mergeL];unfold Tr.chooseL;(repeat' split)<;>first|rfl|(exfalso;simp_all;done)|(exfalso;omega))
      ·
       exact rz rfl (by show eT _=eT _;congr 1;rw[Tr.mergeL];unfold Tr.chooseL;(repeat' split)<;>first|rfl|(exfalso;simp_all;done)|(exfalso;omega))
     ·
      refine cs 49 J J J (fun hg49=>?_) (fun hg49=>?_)
      ·
       refine bb J J J (fun hc42=>?_) (fun hc42=>?_)
       ·
        refine cl rfl af4 rfl<|?_
        exact rz rfl (by show eT _=eT _;congr 1;rw[Tr.mergeL];unfold Tr.chooseL;(repeat' split)<;>first|rfl|(exfalso;simp_all;done)|(exfalso;omega))
       ·
        exact rz rfl (by show eT _=eT _;congr 1;rw[Tr.mergeL];unfold Tr.chooseL;(repeat' split)<;>first|rfl|(exfalso;simp_all;done)|(exfalso;omega))
      ·
       exact rz rfl (by show eT _=eT _;congr 1;rw[Tr.mergeL];unfold Tr.chooseL;(repeat' split)<;>first|rfl|(exfalso;simp_all;done)|(exfalso;omega))
   ·
    refine cs 45 J J J (fun hg45=>?_) (fun hg45=>?_)
    ·
     refine bb J J J (fun hc42=>?_) (fun hc42=>?_)
     ·
      refine cl rfl af4 rfl<|?_
      exact rz rfl (by show eT _=eT _;congr 1;rw[Tr.mergeL];unfold Tr.chooseL;(repeat' split)<;>first|rfl|(exfalso;simp_all;done)|(exfalso;omega))
     ·
      exact rz rfl (by show eT _=eT _;congr 1;rw[Tr.mergeL];unfold Tr.chooseL;(repeat' split)<;>first|rfl|(exfalso;simp_all;done)|(exfalso;omega))
    ·
     refine cs 49 J J J (fun hg49=>?_) (fun hg49=>?_)
     ·
      refine bb J J J (fun hc42=>?_) (fun hc42=>?_)
      ·
       refine cl rfl af4 rfl<|?_
       exact rz rfl (by show eT _=eT _;congr 1;rw[Tr.mergeL];unfold Tr.chooseL;(repeat' split)<;>first|rfl|(exfalso;simp_all;done)|(exfalso;omega))
      ·
       exact rz rfl (by show eT _=eT _;congr 1;rw[Tr.mergeL];unfold Tr.chooseL;(repeat' split)<;>first|rfl|(exfalso;simp_all;done)|(exfalso;omega))
     ·
      exact rz rfl (by show eT _=eT _;congr 1;rw[Tr.mergeL];unfold Tr.chooseL;(repeat' split)<;>first|rfl|(exfalso;simp_all;done)|(exfalso;omega))
theorem amy{op:Int}{l:LnQ}{x y u:Tr}{c:List LnQ}(hl:LB l)(hlo:l.ok)(hc: ∀m∈c,LB m)(hok: ∀m∈c,m.ok)(hn:c.length+(Tr.node l x y).depth+u.depth≤900)(ihx: ∀{c:List LnQ},(∀m∈c,LB m)→(∀m∈c,m.ok)→c.length+x.depth+u.depth≤900→PF GB Tryz.prog 44 [vI op,eT x,eT u, .sl (c.map eL)] (eT (Tr.mergeL op x u c)))(ihy: ∀{c:List LnQ},(∀m∈c,LB m)→(∀m∈c,m.ok)→c.length+y.depth+u.depth≤900→PF GB Tryz.prog 44 [vI op,eT y,eT u, .sl (c.map eL)] (eT (Tr.mergeL op y u c))):PF GB Tryz.prog 44 [vI op,eT (.node l x y),eT u, .sl (c.map eL)] (eT (Tr.mergeL op (.node l x y) u c)):=by
 have hdp:(Tr.node l x y).depth=1+Nat.max x.depth y.depth:=rfl
 have hdx:x.depth≤Nat.max x.depth y.depth:=Nat.le_max_left _ _
 have hdy:y.depth≤Nat.max x.depth y.depth:=Nat.le_max_right _ _
 have hca:=afS (c++[l])
 have hcb:=afS (c++[l.rev])
 rw[List.length_append,List.length_singleton] at hca hcb
 refine fn (fu:=⟨11⟩) Tryz.func44 J J Tryz.ntmps44 J J (fun C=>?_)
 refine knF J J J<|cl rfl (auX (c:=c) (l:=l) hc hok (by omega) hl hlo) rfl<|?_
 refine br J J J (fun hc64=>?_) (fun hc64=>?_)
 ·
  refine cl rfl (ihx hc hok (by omega)) rfl<|?_
  exact rz rfl (by rw[Tr.mergeL,if_pos hc64];rfl)
 ·
  refine br J J J (fun hc74=>?_) (fun hc74=>?_)
  ·
   refine cl rfl (ihy hc hok (by omega)) rfl<|?_
   exact rz rfl (by rw[Tr.mergeL,if_neg hc64,if_pos hc74];rfl)
  ·
   refine cl rfl (aqv (c:=c) (l:=l) hc hok (by omega) hl hlo) rfl<|cl rfl (ihx (c:=abW (c++[l])) (ap8 (agx hc hl)) (apW (acn hok hlo)) (by omega)) rfl<|?_
   refine cl rfl (akB (l:=l)) rfl<|cl rfl (aqv (c:=c) (l:=l.rev) hc hok (by omega) hl.rev hlo.rev) rfl<|cl rfl (ihy (c:=abW (c++[l.rev])) (ap8 (agx hc hl.rev)) (apW (acn hok hlo.rev)) (by omega)) rfl<|?_
   refine cl rfl ay3 rfl<|?_
   exact rz rfl (by rw[Tr.mergeL,if_neg hc64,if_neg hc74];rfl)
theorem aio{op:Int}{u:Tr}(hu:u.all LB)(huo:u.all LnQ.ok): ∀{t:Tr} {c:List LnQ},t.all LB→t.all LnQ.ok→(∀m∈c,LB m)→(∀m∈c,m.ok)→c.length+t.depth+u.depth≤900→PF GB Tryz.prog 44 [vI op,eT t,eT u, .sl (c.map eL)] (eT (Tr.mergeL op t u c))
 | .leaf _,_,_,_,hc,hok,hn=>alI hu huo hc hok (Nat.le_trans (Nat.add_le_add_right (Nat.le_add_right _ _) _) hn)
 | .node l x y,c,hb,ho,hc,hok,hn=>amy hb.1 ho.1 hc hok hn (fun h1 h2 h3=>aio hu huo hb.2.1 ho.2.1 h1 h2 h3) (fun h1 h2 h3=>aio hu huo hb.2.2 ho.2.2 h1 h2 h3)
end Go.Sx
end
