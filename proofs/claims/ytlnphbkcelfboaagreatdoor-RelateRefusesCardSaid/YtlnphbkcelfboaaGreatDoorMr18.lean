/-
  The law RelateRefuses holds: it answers true at every input and leaves its argument as it was.
-/
import Derived.Test.YtlnphbkcelfboaaGreatDoorMr17
import Derived.Test.YtlnphbkcelfboaaGreatDoorCards
import Derived.Test.YtlnphbkcelfboaaGreatDoorTie
import Derived.WalkKit
import Derived.ProofKit
import Derived.OpenShut
import Derived.Deep.DeepHandedRow
import Derived.Deep.DeepWitnessRowRef
import Derived.LaidMore
import Derived.Lib.LaidTab
import Derived.SizedLaws
import Derived.Stop.LaidErr
import Derived.MakeChecks
set_option linter.unusedSimpArgs false
set_option linter.unusedVariables false
section
set_option maxRecDepth 100000
namespace Go.Sx
open Go Go.Proofs
def ePr(a b:Tr):DV:= .ag [eU a,eU b]
def prZ:DV:= .ag [.v (.pointer none), .v (.pointer none)]
theorem p_OfA{GB:Gh}{k:Nat}{t:Tr}(h:TrX k t):PF GB Tryz.prog 55 [eA t] (.tp [eU t,vB true]):=by
 have:=p_OfS (GB:=GB) (rt:=t.num 0) (wr_sm h.lb) (wr_n (by have:=h.s;omega)) (ofQ_wr h.ok)
 rw[←eA_RT] at this
 exact this
theorem nq_leaf{op:Int}{a b:Tr}{v:Bool}(h:Tr.leaf v=a.mergeQ op b []):noneQ op a b=!v:=by unfold noneQ;rw[←h];cases v<;>rfl
theorem nq_node{op:Int}{a b:Tr}{l:LnQ}{x y:Tr}(h:Tr.node l x y=a.mergeQ op b []):noneQ op a b=false:=by unfold noneQ;rw[←h];simp[Tr.isLeaf]
theorem p_rdS{GB:Gh}{j k:Nat}{a b:Tr}(ha:TrX j a)(hb:TrX k b):PF GB Tryz.prog 67 [eA a,eA b] (.tp [ePr a b, .v .nilIface]):=by
 refine fn Tryz.func67 rfl rfl Tryz.ntmps67 rfl rfl (fun C=>?_)
 refine cl (fu:=⟨3⟩) rfl (p_OfA ha) rfl<|?_
 refine kbT 14 rfl ?_
 refine gx rfl<|cl (fu:=⟨3⟩) rfl (p_OfA hb) rfl<|?_
 refine kbT 19 rfl ?_
 refine gx rfl<|?_
 exact rz rfl rfl
theorem p_rdN{GB:Gh}{ai al ae:Addr}(hE:EG GB ai al ae){n1 n2:List RN}{r1 r2:Int}(hs1: ∀n∈n1,n.g.sm)(hn1:n1.length≤65536)(hs2: ∀n∈n2,n.g.sm)(hn2:n2.length≤65536)(hor:ofQ n1 r1=none∨ofQ n2 r2=none):PF GB Tryz.prog 67 [eRT r1 n1,eRT r2 n2] (.tp [prZ,eErr ai]):=by
 refine fn Tryz.func67 rfl rfl Tryz.ntmps67 rfl rfl (fun C=>?_)
 rcases h1:ofQ n1 r1 with _|t1
 ·
  refine cl (fu:=⟨3⟩) rfl (p_OfN hs1 hn1 h1) rfl<|?_
  refine kbF 14 rfl ?_
  refine gx rfl<|?_
  rcases h2:ofQ n2 r2 with _|t2
  ·
   refine cl (fu:=⟨3⟩) rfl (p_OfN hs2 hn2 h2) rfl<|?_
   refine kbF 19 rfl ?_
   refine gx rfl<|gl rfl hE.ErrInvalid rfl<|?_
   exact rz rfl rfl
  ·
   refine cl (fu:=⟨3⟩) rfl (p_OfS hs2 hn2 h2) rfl<|?_
   refine kbT 19 rfl ?_
   refine gx rfl<|gl rfl hE.ErrInvalid rfl<|?_
   exact rz rfl rfl
 ·
  refine cl (fu:=⟨3⟩) rfl (p_OfS hs1 hn1 h1) rfl<|?_
  refine kbT 14 rfl ?_
  refine gx rfl<|?_
  rcases h2:ofQ n2 r2 with _|t2
  ·
   refine cl (fu:=⟨3⟩) rfl (p_OfN hs2 hn2 h2) rfl<|?_
   refine kbF 19 rfl ?_
   refine gx rfl<|gl rfl hE.ErrInvalid rfl<|?_
   exact rz rfl rfl
  ·
   exact absurd hor (by rw[h1,h2];simp)
theorem p_none{GB:Gh}{ai al ae:Addr}(hE:EG GB ai al ae){op:Int}{j k:Nat}{a b:Tr}(ha:TrX j a)(hb:TrX k b)(hk:j+k≤200):PF GB Tryz.prog 126 [ePr a b,vI op] (.tp [vB (noneQ op a b), .v .nilIface]):=by
 obtain⟨t,ht⟩: ∃t,t=a.mergeQ op b []:=⟨_,rfl⟩
 refine fn Tryz.func126 rfl rfl Tryz.ntmps126 rfl rfl (fun C=>?_)
 refine cl rfl (p_TwoS (t:=t) hE ha.gd hb.gd (by have:=ha.s;omega) (by have:=hb.s;omega) (by rw[ht];exact ha.lim hb hk)) rfl<|?_
 rcases t with v|⟨l,x,y⟩
 ·
  have hq:=nq_leaf ht
  refine cl (fu:=⟨0⟩) rfl p_IsLeafL rfl<|?_
  refine kbT 21 rfl ?_
  refine gx rfl<|?_
  exact rz rfl (by rw[hq];rfl)
 ·
  have hq:=nq_node ht
  refine cl (fu:=⟨0⟩) rfl p_IsLeafN rfl<|?_
  refine kbF 21 rfl ?_
  refine gx rfl<|?_
  exact rz rfl (by rw[hq];rfl)
theorem p_pEqual{GB:Gh}{ai al ae:Addr}(hE:EG GB ai al ae){j k:Nat}{a b:Tr}(ha:TrX j a)(hb:TrX k b)(hk:j+k≤200):PF GB Tryz.prog 68 [ePr a b] (.tp [vB (noneQ 4 a b), .v .nilIface]):=by
 refine fn Tryz.func68 rfl rfl Tryz.ntmps68 rfl rfl (fun C=>?_)
 refine cl rfl (p_none hE (op:=4) ha hb hk) rfl<|?_
 exact rz rfl rfl
theorem p_REq{GB:Gh}{ai al ae:Addr}(hE:EG GB ai al ae){j k:Nat}{a b:Tr}(ha:TrX j a)(hb:TrX k b)(hk:j+k≤200):PF GB Tryz.prog 21 [eA a,eA b] (.tp [vB (noneQ 4 a b), .v .nilIface]):=by
 refine fn Tryz.func21 rfl rfl Tryz.ntmps21 rfl rfl (fun C=>?_)
 refine cl rfl (p_rdS ha hb) rfl<|cl rfl (p_pEqual hE ha hb hk) rfl<|?_
 exact rz rfl rfl
theorem p_REqN{GB:Gh}{ai al ae:Addr}(hE:EG GB ai al ae){n1 n2:List RN}{r1 r2:Int}(hs1: ∀n∈n1,n.g.sm)(hn1:n1.length≤65536)(hs2: ∀n∈n2,n.g.sm)(hn2:n2.length≤65536)(hor:ofQ n1 r1=none∨ofQ n2 r2=none):PF GB Tryz.prog 21 [eRT r1 n1,eRT r2 n2] (.tp [vB false,eErr ai]):=by
 refine fn Tryz.func21 rfl rfl Tryz.ntmps21 rfl rfl (fun C=>?_)
 refine cl rfl (p_rdN hE hs1 hn1 hs2 hn2 hor) rfl<|?_
 exact rz rfl rfl
theorem p_RSubN{GB:Gh}{ai al ae:Addr}(hE:EG GB ai al ae){n1 n2:List RN}{r1 r2:Int}(hs1: ∀n∈n1,n.g.sm)(hn1:n1.length≤65536)(hs2: ∀n∈n2,n.g.sm)(hn2:n2.length≤65536)(hor:ofQ n1 r1=none∨ofQ n2 r2=none):PF GB Tryz.prog 26 [eRT r1 n1,eRT r2 n2] (.tp [vB false,eErr ai]):=by
 refine fn Tryz.func26 rfl rfl Tryz.ntmps26 rfl rfl (fun C=>?_)
 refine cl rfl (p_rdN hE hs1 hn1 hs2 hn2 hor) rfl<|?_
 exact rz rfl rfl
theorem p_RDisN{GB:Gh}{ai al ae:Addr}(hE:EG GB ai al ae){n1 n2:List RN}{r1 r2:Int}(hs1: ∀n∈n1,n.g.sm)(hn1:n1.length≤65536)(hs2: ∀n∈n2,n.g.sm)(hn2:n2.length≤65536)(hor:ofQ n1 r1=none∨ofQ n2 r2=none):PF GB Tryz.prog 27 [eRT r1 n1,eRT r2 n2] (.tp [vB false,eErr ai]):=by
 refine fn Tryz.func27 rfl rfl Tryz.ntmps27 rfl rfl (fun C=>?_)
 refine cl rfl (p_rdN hE hs1 hn1 hs2 hn2 hor) rfl<|?_
 exact rz rfl rfl
theorem p_oneS{GB:Gh}{ai al ae:Addr}(hE:EG GB ai al ae){k:Nat}{t:Tr}(h:TrX k t)(hk:k≤1000):PF GB Tryz.prog 71 [eA t] (.tp [eU (t.restrict []), .v .nilIface]):=by
 have hd:=h.dp
 refine fn Tryz.func71 rfl rfl Tryz.ntmps71 rfl rfl (fun C=>?_)
 refine cl (fu:=⟨3⟩) rfl (p_OfA h) rfl<|?_
 refine kbT 10 rfl ?_
 refine gx rfl<|cl (fu:=⟨0⟩) rfl (p_Depth (t:=t) (by omega)) rfl<|knF rfl (by show some (decide _)=some false;rw[decide_eq_false (by omega)]) rfl<|cl rfl (p_Reduce (t:=t) h.lb h.ok (by omega)) rfl<|?_
 exact rz rfl rfl
theorem p_oneN{GB:Gh}{ai al ae:Addr}(hE:EG GB ai al ae){ns:List RN}{rt:Int}(hs: ∀n∈ns,n.g.sm)(hn:ns.length≤65536)(hq:ofQ ns rt=none):PF GB Tryz.prog 71 [eRT rt ns] (.tp [.v (.pointer none),eErr ai]):=by
 refine fn Tryz.func71 rfl rfl Tryz.ntmps71 rfl rfl (fun C=>?_)
 refine cl (fu:=⟨3⟩) rfl (p_OfN hs hn hq) rfl<|?_
 refine kbF 10 rfl ?_
 refine gx rfl<|gl rfl hE.ErrInvalid rfl<|?_
 exact rz rfl rfl
theorem lq_leaf{v w:Bool}{t:Tr}(h:Tr.leaf v=t.restrict []):leafQ w t=decide (v=w):=by unfold leafQ;rw[←h];simp[Tr.isLeaf,Tr.code]
theorem lq_node{w:Bool}{t:Tr}{l:LnQ}{x y:Tr}(h:Tr.node l x y=t.restrict []):leafQ w t=false:=by unfold leafQ;rw[←h];simp[Tr.isLeaf]
theorem p_REmpty{GB:Gh}{ai al ae:Addr}(hE:EG GB ai al ae){k:Nat}{t:Tr}(h:TrX k t)(hk:k≤1000):PF GB Tryz.prog 24 [eA t] (.tp [vB (leafQ false t), .v .nilIface]):=by
 obtain⟨u,ht⟩: ∃u,u=t.restrict []:=⟨_,rfl⟩
 refine fn Tryz.func24 rfl rfl Tryz.ntmps24 rfl rfl (fun C=>?_)
 refine cl (fu:=⟨0⟩) rfl (p_oneS hE h hk) rfl<|?_
 refine eqF 8 (.d (.tp [eU u, .v .nilIface])) rfl (by rw[ht]) ?_
 refine gx rfl<|?_
 rcases u with v|⟨l,x,y⟩
 ·
  have hq:=lq_leaf (w:=false) ht
  refine cl (fu:=⟨0⟩) rfl p_IsLeafL rfl<|?_
  refine kbT 15 rfl ?_
  refine gx rfl<|?_
  exact rz rfl (by rw[hq];cases v<;>rfl)
 ·
  have hq:=lq_node (w:=false) ht
  refine cl (fu:=⟨0⟩) rfl p_IsLeafN rfl<|?_
  refine kbF 15 rfl ?_
  refine gx rfl<|?_
  exact rz rfl (by rw[hq];rfl)
theorem p_REmptyN{GB:Gh}{ai al ae:Addr}(hE:EG GB ai al ae){ns:List RN}{rt:Int}(hs: ∀n∈ns,n.g.sm)(hn:ns.length≤65536)(hq:ofQ ns rt=none):PF GB Tryz.prog 24 [eRT rt ns] (.tp [vB false,eErr ai]):=by
 refine fn Tryz.func24 rfl rfl Tryz.ntmps24 rfl rfl (fun C=>?_)
 refine cl rfl (p_oneN hE hs hn hq) rfl<|?_
 exact rz rfl rfl
theorem p_RWhole{GB:Gh}{ai al ae:Addr}(hE:EG GB ai al ae){k:Nat}{t:Tr}(h:TrX k t)(hk:k≤1000):PF GB Tryz.prog 25 [eA t] (.tp [vB (leafQ true t), .v .nilIface]):=by
 obtain⟨u,ht⟩: ∃u,u=t.restrict []:=⟨_,rfl⟩
 refine fn Tryz.func25 rfl rfl Tryz.ntmps25 rfl rfl (fun C=>?_)
 refine cl (fu:=⟨0⟩) rfl (p_oneS hE h hk) rfl<|?_
 refine eqF 8 (.d (.tp [eU u, .v .nilIface])) rfl (by rw[ht]) ?_
 refine gx rfl<|?_
 rcases u with v|⟨l,x,y⟩
 ·
  have hq:=lq_leaf (w:=true) ht
  refine cl (fu:=⟨0⟩) rfl p_IsLeafL rfl<|?_
  refine kbT 15 rfl ?_
  refine gx rfl<|?_
  exact rz rfl (by rw[hq];cases v<;>rfl)
 ·
  have hq:=lq_node (w:=true) ht
  refine cl (fu:=⟨0⟩) rfl p_IsLeafN rfl<|?_
  refine kbF 15 rfl ?_
  refine gx rfl<|?_
  exact rz rfl (by rw[hq];rfl)
theorem p_RWholeN{GB:Gh}{ai al ae:Addr}(hE:EG GB ai al ae){ns:List RN}{rt:Int}(hs: ∀n∈ns,n.g.sm)(hn:ns.length≤65536)(hq:ofQ ns rt=none):PF GB Tryz.prog 25 [eRT rt ns] (.tp [vB false,eErr ai]):=by
 refine fn Tryz.func25 rfl rfl Tryz.ntmps25 rfl rfl (fun C=>?_)
 refine cl rfl (p_oneN hE hs hn hq) rfl<|?_
 exact rz rfl rfl
theorem p_RCmpN{GB:Gh}{ai al ae:Addr}(hE:EG GB ai al ae){n1 n2:List RN}{r1 r2:Int}(hs1: ∀n∈n1,n.g.sm)(hn1:n1.length≤65536)(hs2: ∀n∈n2,n.g.sm)(hn2:n2.length≤65536)(hor:ofQ n1 r1=none∨ofQ n2 r2=none):PF GB Tryz.prog 22 [eRT r1 n1,eRT r2 n2] (.tp [vI 0,eErr ai]):=by
 refine fn Tryz.func22 rfl rfl Tryz.ntmps22 rfl rfl (fun C=>?_)
 refine cl rfl (p_rdN hE hs1 hn1 hs2 hn2 hor) rfl<|?_
 exact rz rfl rfl
theorem p_RWitN{GB:Gh}{ai al ae:Addr}(hE:EG GB ai al ae){ns:List RN}{rt:Int}(hs: ∀n∈ns,n.g.sm)(hn:ns.length≤65536)(hq:ofQ ns rt=none):PF GB Tryz.prog 41 [eRT rt ns] (.tp [.ag [.v (.bool false), .sl [], .sl [], .v (.bool false), .sl [], .sl []],eErr ai]):=by
 refine fn Tryz.func41 rfl rfl Tryz.ntmps41 rfl rfl (fun C=>?_)
 refine cl rfl (p_oneN hE hs hn hq) rfl<|?_
 exact rz rfl rfl
theorem p_RDifN{GB:Gh}{ai al ae:Addr}(hE:EG GB ai al ae){n1 n2:List RN}{r1 r2:Int}(hs1: ∀n∈n1,n.g.sm)(hn1:n1.length≤65536)(hs2: ∀n∈n2,n.g.sm)(hn2:n2.length≤65536)(hor:ofQ n1 r1=none∨ofQ n2 r2=none):PF GB Tryz.prog 42 [eRT r1 n1,eRT r2 n2] (.tp [.ag [.v (.bool false), .sl [], .sl [], .v (.bool false), .sl [], .sl []],vB false,eErr ai]):=by
 refine fn Tryz.func42 rfl rfl Tryz.ntmps42 rfl rfl (fun C=>?_)
 refine cl rfl (p_rdN hE hs1 hn1 hs2 hn2 hor) rfl<|?_
 exact rz rfl rfl
end Go.Sx
end

section
set_option maxRecDepth 100000
namespace Go.Sx
open Go Go.Proofs
section
variable {GB:Gh} {ai al ae:Addr} (hE:EG GB ai al ae) {j k:Nat} {a b:Tr} (ha:TrX j a) (hb:TrX k b)
include hE ha
theorem p_REmptyV{v:Bool}(h:leafQ false a=v)(hk:j≤1000:=by decide):PF GB Tryz.prog 24 [eA a] (.tp [vB v, .v .nilIface]):=h▸p_REmpty hE ha hk
theorem p_RWholeV{v:Bool}(h:leafQ true a=v)(hk:j≤1000:=by decide):PF GB Tryz.prog 25 [eA a] (.tp [vB v, .v .nilIface]):=h▸p_RWhole hE ha hk
include hb
theorem p_REqV{v:Bool}(h:noneQ 4 a b=v)(hk:j+k≤200:=by decide):PF GB Tryz.prog 21 [eA a,eA b] (.tp [vB v, .v .nilIface]):=h▸p_REq hE ha hb hk
end
theorem leaf_x(v:Bool):TrX 0 (.leaf v):=⟨⟨⟨trivial,trivial⟩,Nat.le_refl 0,[],Nat.le_refl 0,(fun _ h=>nomatch h),trivial⟩,Nat.zero_le _⟩
section
variable {GB:Gh} {ai al ae:Addr} (hE:EG GB ai al ae)
include hE
theorem k20_e:PF GB Tryz.prog 24 [.ag [vI (-1), .sl []]] (.tp [vB true, .v .nilIface]):=p_REmptyV hE (leaf_x false) (by decide)
theorem k20_w:PF GB Tryz.prog 25 [.ag [vI (-2), .sl []]] (.tp [vB true, .v .nilIface]):=p_RWholeV hE (leaf_x true) (by decide)
theorem k20_q:PF GB Tryz.prog 21 [.ag [vI (-2), .sl []], .ag [vI (-1), .sl []]] (.tp [vB false, .v .nilIface]):=p_REqV hE (leaf_x true) (leaf_x false) (by decide)
end
theorem q_known20{GB:Gh}{ai al ae:Addr}(hE:EG GB ai al ae):PF GB Tryz.prog 23 [] (.v (.bool true)):=by
 refine fn Tryz.func23 rfl rfl Tryz.ntmps23 rfl rfl (fun C=>?_)
 refine cl (fu:=⟨4⟩) rfl (k20_e hE) rfl<|?_
 refine kbT 1 rfl ?_
 refine gx rfl<|cl (fu:=⟨4⟩) rfl (k20_w hE) rfl<|?_
 refine kbT 3 rfl ?_
 refine gx rfl<|cl (fu:=⟨4⟩) rfl (k20_q hE) rfl<|?_
 refine kbF 5 rfl ?_
 refine gx rfl<|?_
 exact rz rfl rfl
end Go.Sx
end

section
set_option maxRecDepth 100000
namespace Go.Sx
open Go Go.Proofs
def zrn:RN:=⟨⟨false,[],false,[],false,[]⟩,0,0⟩
theorem zrn_sm: ∀n∈[zrn],n.g.sm:=fun n h=>by
 rw[List.mem_singleton] at h;subst h
 exact⟨⟨(fun _ h=>nomatch h),Nat.zero_le _⟩,⟨(fun _ h=>nomatch h),Nat.zero_le _⟩,⟨(fun _ h=>nomatch h),Nat.zero_le _⟩⟩
theorem bad_nil{root:Int}(h1:root≠ -2)(h2:root≠ -1):ofQ [] root=none:=by
 unfold ofQ
 rw[List.length_nil,rdF,if_neg h2,if_neg h1]
 rfl
theorem bad_in:ofQ [zrn] (-2)=none:=by kernel_rfl
theorem bad_out:ofQ [zrn] (-1)=none:=by kernel_rfl
section
variable {GB:Gh} {ai al ae:Addr} (hE:EG GB ai al ae) {k:Nat} {a:Tr} (ha:TrX k a) {ns:List RN} {rt:Int} (hs: ∀n∈ns,n.g.sm) (hn:ns.length≤65536) (hq:ofQ ns rt=none)
include hE ha hs hn hq
theorem p_REqB:PF GB Tryz.prog 21 [eA a,eRT rt ns] (.tp [vB false,eErr ai]):=by rw[eA_RT];exact p_REqN hE (wr_sm ha.lb) (wr_n (by have:=ha.s;omega)) hs hn (.inr hq)
theorem p_RDisB:PF GB Tryz.prog 27 [eA a,eRT rt ns] (.tp [vB false,eErr ai]):=by rw[eA_RT];exact p_RDisN hE (wr_sm ha.lb) (wr_n (by have:=ha.s;omega)) hs hn (.inr hq)
theorem p_RDifB:PF GB Tryz.prog 42 [eA a,eRT rt ns] (.tp [.ag [.v (.bool false), .sl [], .sl [], .v (.bool false), .sl [], .sl []],vB false,eErr ai]):=by rw[eA_RT];exact p_RDifN hE (wr_sm ha.lb) (wr_n (by have:=ha.s;omega)) hs hn (.inr hq)
theorem p_RSubB:PF GB Tryz.prog 26 [eRT rt ns,eA a] (.tp [vB false,eErr ai]):=by rw[eA_RT];exact p_RSubN hE hs hn (wr_sm ha.lb) (wr_n (by have:=ha.s;omega)) (.inl hq)
theorem p_RCmpB:PF GB Tryz.prog 22 [eRT rt ns,eA a] (.tp [vI 0,eErr ai]):=by rw[eA_RT];exact p_RCmpN hE hs hn (wr_sm ha.lb) (wr_n (by have:=ha.s;omega)) (.inl hq)
end
theorem q_Region0{GB:Gh}{b:Nat}{es:List Int}(hes:es.length≤400){A:Tr}(hA:A=(regionF es 0 0).1):PM GB Tryz.prog 38 (mkP [none,some (vI 0)] b) b 89 [.sl (es.map vI), .v (.int .i64 (0:Nat))] (eT A) [.sl (es.map vI), .v (.int .i64 ((regionF es 0 0).2:Nat))]:=by
 subst hA;exact q_RegionT hes (Nat.zero_le _) (d:=0) (by decide)
set_option maxHeartbeats 4000000 in
theorem q_RelateRefuses{GB:Gh}{ai al ae:Addr}(hE:EG GB ai al ae){es0:List Int}(hb:es0.length≤1125899906842624){root:Int}(hr: -9223372036854775808≤root∧root<9223372036854775808):PF GB Tryz.prog 11 [.sl (es0.map vI),vI root] (.v (.bool true)):=by
 obtain⟨es,hee⟩: ∃es,es=es0.take 400:=⟨_,rfl⟩
 have hes:es.length≤400:=by rw[hee];simp;omega
 obtain⟨hA,hA2⟩:=region0_ok (es:=es) (Nat.zero_le es.length)
 obtain⟨A,hAe⟩: ∃A,A=(regionF es 0 0).1:=⟨_,rfl⟩
 rw[←hAe] at hA
 refine fn Tryz.func11 rfl rfl Tryz.ntmps11 rfl rfl (fun C=>?_)
 refine cn rfl ((q_NewT hb hee)) (fun _=>rfl) (fun _=>?_)
 refine cm rfl (fun b=>(q_Region0 hes hAe)) rfl<|cl (fu:=⟨12⟩) rfl (q_WriteX hA) rfl<|?_
 rcases(show root= -2∨root= -1∨(root≠ -2∧root≠ -1) by omega) with rfl|rfl|⟨h1,h2⟩
 ·
  refine gx (fu:=⟨0⟩) rfl<|knT rfl (by show some (decide _)=some true;rw[decide_eq_true rfl]) rfl<|mk (fu:=⟨0⟩) [zrn.d] rfl rfl rfl rfl<|?_
  refine fz (fu:=⟨0⟩) 36 rfl rfl ?_
  refine gx rfl<|cl rfl (p_REmptyN hE (rt:= -2) (ns:=[zrn]) zrn_sm (by decide) bad_in) rfl<|cl rfl (p_REqB hE hA (rt:= -2) (ns:=[zrn]) zrn_sm (by decide) bad_in) rfl<|?_
  refine cl rfl (p_RSubB hE hA (rt:= -2) (ns:=[zrn]) zrn_sm (by decide) bad_in) rfl<|cl rfl (p_RWitN hE (rt:= -2) (ns:=[zrn]) zrn_sm (by decide) bad_in) rfl<|?_
  refine cl rfl (p_RDifB hE hA (rt:= -2) (ns:=[zrn]) zrn_sm (by decide) bad_in) rfl<|cl rfl (p_RCmpB hE hA (rt:= -2) (ns:=[zrn]) zrn_sm (by decide) bad_in) rfl<|?_
  refine cl rfl (p_RDisB hE hA (rt:= -2) (ns:=[zrn]) zrn_sm (by decide) bad_in) rfl<|cl rfl (p_RWholeN hE (rt:= -2) (ns:=[zrn]) zrn_sm (by decide) bad_in) rfl<|?_
  refine cl (fu:=⟨0⟩) rfl (q_known20 hE) rfl<|knT rfl rfl rfl<|gl rfl hE.ErrInvalid rfl<|cl (fu:=⟨0⟩) rfl p_IsS rfl<|?_
  refine kbT 88 rfl ?_
  refine gx rfl<|gl rfl hE.ErrInvalid rfl<|cl (fu:=⟨0⟩) rfl p_IsS rfl<|?_
  refine kbT 93 rfl ?_
  refine gx rfl<|gl rfl hE.ErrInvalid rfl<|cl (fu:=⟨0⟩) rfl p_IsS rfl<|?_
  refine kbT 98 rfl ?_
  refine gx rfl<|gl rfl hE.ErrInvalid rfl<|cl (fu:=⟨0⟩) rfl p_IsS rfl<|?_
  refine kbT 103 rfl ?_
  refine gx rfl<|gl rfl hE.ErrInvalid rfl<|cl (fu:=⟨0⟩) rfl p_IsS rfl<|?_
  refine kbT 108 rfl ?_
  refine gx rfl<|gl rfl hE.ErrInvalid rfl<|cl (fu:=⟨0⟩) rfl p_IsS rfl<|?_
  refine kbT 113 rfl ?_
  refine gx rfl<|gl rfl hE.ErrInvalid rfl<|cl (fu:=⟨0⟩) rfl p_IsS rfl<|?_
  refine kbT 118 rfl ?_
  refine gx rfl<|gl rfl hE.ErrInvalid rfl<|cl (fu:=⟨0⟩) rfl p_IsS rfl<|?_
  refine kbT 123 rfl ?_
  refine gx rfl<|?_
  exact rz rfl rfl
 ·
  refine gx (fu:=⟨0⟩) rfl<|knF (fu:=⟨2⟩) rfl (by show some (decide _)=some false;rw[decide_eq_false (by decide)]) rfl<|knT rfl (by show some (decide _)=some true;rw[decide_eq_true rfl]) rfl<|?_
  refine mk (fu:=⟨0⟩) [zrn.d] rfl rfl rfl rfl<|?_
  refine fz (fu:=⟨0⟩) 36 rfl rfl ?_
  refine gx rfl<|cl rfl (p_REmptyN hE (rt:= -1) (ns:=[zrn]) zrn_sm (by decide) bad_out) rfl<|cl rfl (p_REqB hE hA (rt:= -1) (ns:=[zrn]) zrn_sm (by decide) bad_out) rfl<|?_
  refine cl rfl (p_RSubB hE hA (rt:= -1) (ns:=[zrn]) zrn_sm (by decide) bad_out) rfl<|cl rfl (p_RWitN hE (rt:= -1) (ns:=[zrn]) zrn_sm (by decide) bad_out) rfl<|?_
  refine cl rfl (p_RDifB hE hA (rt:= -1) (ns:=[zrn]) zrn_sm (by decide) bad_out) rfl<|cl rfl (p_RCmpB hE hA (rt:= -1) (ns:=[zrn]) zrn_sm (by decide) bad_out) rfl<|?_
  refine cl rfl (p_RDisB hE hA (rt:= -1) (ns:=[zrn]) zrn_sm (by decide) bad_out) rfl<|cl rfl (p_RWholeN hE (rt:= -1) (ns:=[zrn]) zrn_sm (by decide) bad_out) rfl<|?_
  refine cl (fu:=⟨0⟩) rfl (q_known20 hE) rfl<|knT rfl rfl rfl<|gl rfl hE.ErrInvalid rfl<|cl (fu:=⟨0⟩) rfl p_IsS rfl<|?_
  refine kbT 88 rfl ?_
  refine gx rfl<|gl rfl hE.ErrInvalid rfl<|cl (fu:=⟨0⟩) rfl p_IsS rfl<|?_
  refine kbT 93 rfl ?_
  refine gx rfl<|gl rfl hE.ErrInvalid rfl<|cl (fu:=⟨0⟩) rfl p_IsS rfl<|?_
  refine kbT 98 rfl ?_
  refine gx rfl<|gl rfl hE.ErrInvalid rfl<|cl (fu:=⟨0⟩) rfl p_IsS rfl<|?_
  refine kbT 103 rfl ?_
  refine gx rfl<|gl rfl hE.ErrInvalid rfl<|cl (fu:=⟨0⟩) rfl p_IsS rfl<|?_
  refine kbT 108 rfl ?_
  refine gx rfl<|gl rfl hE.ErrInvalid rfl<|cl (fu:=⟨0⟩) rfl p_IsS rfl<|?_
  refine kbT 113 rfl ?_
  refine gx rfl<|gl rfl hE.ErrInvalid rfl<|cl (fu:=⟨0⟩) rfl p_IsS rfl<|?_
  refine kbT 118 rfl ?_
  refine gx rfl<|gl rfl hE.ErrInvalid rfl<|cl (fu:=⟨0⟩) rfl p_IsS rfl<|?_
  refine kbT 123 rfl ?_
  refine gx rfl<|?_
  exact rz rfl rfl
 ·
  refine gx (fu:=⟨0⟩) rfl<|knF (fu:=⟨2⟩) rfl (by show some (decide _)=some false;rw[decide_eq_false h1]) rfl<|knF rfl (by show some (decide _)=some false;rw[decide_eq_false h2]) rfl<|?_
  refine cl rfl (p_REmptyN hE (rt:=root) (ns:=[]) (fun _ h=>nomatch h) (by decide) (bad_nil h1 h2)) rfl<|cl rfl (p_REqB hE hA (rt:=root) (ns:=[]) (fun _ h=>nomatch h) (by decide) (bad_nil h1 h2)) rfl<|?_
  refine cl rfl (p_RSubB hE hA (rt:=root) (ns:=[]) (fun _ h=>nomatch h) (by decide) (bad_nil h1 h2)) rfl<|cl rfl (p_RWitN hE (rt:=root) (ns:=[]) (fun _ h=>nomatch h) (by decide) (bad_nil h1 h2)) rfl<|?_
  refine cl rfl (p_RDifB hE hA (rt:=root) (ns:=[]) (fun _ h=>nomatch h) (by decide) (bad_nil h1 h2)) rfl<|cl rfl (p_RCmpB hE hA (rt:=root) (ns:=[]) (fun _ h=>nomatch h) (by decide) (bad_nil h1 h2)) rfl<|?_
  refine cl rfl (p_RDisB hE hA (rt:=root) (ns:=[]) (fun _ h=>nomatch h) (by decide) (bad_nil h1 h2)) rfl<|cl rfl (p_RWholeN hE (rt:=root) (ns:=[]) (fun _ h=>nomatch h) (by decide) (bad_nil h1 h2)) rfl<|?_
  refine cl (fu:=⟨0⟩) rfl (q_known20 hE) rfl<|knT rfl rfl rfl<|gl rfl hE.ErrInvalid rfl<|cl (fu:=⟨0⟩) rfl p_IsS rfl<|?_
  refine kbT 88 rfl ?_
  refine gx rfl<|gl rfl hE.ErrInvalid rfl<|cl (fu:=⟨0⟩) rfl p_IsS rfl<|?_
  refine kbT 93 rfl ?_
  refine gx rfl<|gl rfl hE.ErrInvalid rfl<|cl (fu:=⟨0⟩) rfl p_IsS rfl<|?_
  refine kbT 98 rfl ?_
  refine gx rfl<|gl rfl hE.ErrInvalid rfl<|cl (fu:=⟨0⟩) rfl p_IsS rfl<|?_
  refine kbT 103 rfl ?_
  refine gx rfl<|gl rfl hE.ErrInvalid rfl<|cl (fu:=⟨0⟩) rfl p_IsS rfl<|?_
  refine kbT 108 rfl ?_
  refine gx rfl<|gl rfl hE.ErrInvalid rfl<|cl (fu:=⟨0⟩) rfl p_IsS rfl<|?_
  refine kbT 113 rfl ?_
  refine gx rfl<|gl rfl hE.ErrInvalid rfl<|cl (fu:=⟨0⟩) rfl p_IsS rfl<|?_
  refine kbT 118 rfl ?_
  refine gx rfl<|gl rfl hE.ErrInvalid rfl<|cl (fu:=⟨0⟩) rfl p_IsS rfl<|?_
  refine kbT 123 rfl ?_
  refine gx rfl<|?_
  exact rz rfl rfl
end Go.Sx
end

section
set_option maxRecDepth 100000
namespace Go.Sx
open Go Go.Proofs Go.ChangeShapes Go.WideShapes Go.ChangeAt Go.RowKit
def GW(w:World):Gh:=fun b=>match w.heap[b]? with|some (.cells cs _ _)=>some cs.toList|_=>none
theorem GW.sub{w:World}{b:Nat}{cs:List Value}(h:GW w b=some cs): ∃ty fz,w.heap[b]? =some (.cells ⟨cs⟩ ty fz):=by
 unfold GW at h
 split at h
 ·rename_i c t f e
  cases h
  exact⟨t,f,by rw[e]⟩
 ·cases h
theorem GW.of_cell{w:World}{b off:Nat}{v:Value}(h:w.cell? ⟨b,off,none⟩=some v): ∃cs,GW w b=some cs∧cs[off]? =some v:=by
 unfold World.cell? at h
 unfold GW
 split at h
 ·rename_i c t f e
  simp only at e
  refine⟨c.toList,by rw[e],?_⟩
  simpa using h
 all_goals first|(rename_i e;cases h)|cases h
theorem HRel.below{w w':World}{G G':Gh}{own:List Own}(h:HRel ⟨w,G,[]⟩ own G' w'):Below w.heap.size w w':=
 ⟨h.os,h.tape,h.output,h.size,fun k hk=>h.keep k hk (by simp)⟩
theorem isLs_vI{G:Gh}: ∀es:List Int,IsLs G (es.map vI) (es.map fun n=>Value.int .i64 n)
 |[]=> .nil
 |n::t=> .cons (is_v.2 rfl) (isLs_vI t)
theorem open_vI{base:Nat}{H:Type}{enc:TypeId×Value→H}{P:Program}{w:World}{t e:TypeId}{v:Value}{d:DataW H}{ps:List MemPlace}(ht:P.underlying t=some (.slice e))(he:P.underlying e=some (.int .i64))(hc:P.cellsOf e=1)
  (hv:Value.okWide P w .any base t v)(h:DataW.Trod enc P w 0 (fun _=>true) true t v d ps):
  ∃es:List Int,Is (GW w) (.sl (es.map vI)) v∧(d= .nil∧es=[]∨ ∃sp,d= .slice (lits .i64 es) sp)∧(∀n∈es,(Lit.int .i64 n).wf=true):=by
 obtain⟨a0,len,cap,rfl⟩:=okWide_slice ht hv
 obtain⟨fuel,hf⟩:=h
 rcases open_ints ht he hc hf with⟨hcs,hx⟩|⟨a,len',cap',zs,hcs,_,hl,hm,hz,hx,hcell,hwz⟩
 ·simp[Value.cells] at hcs
  obtain⟨rfl,rfl,rfl⟩:=hcs
  simp only[Prod.mk.injEq] at hx
  exact⟨[],is_sl.2 ⟨0,⟨none,0,0⟩,[],rfl,IsSl.nil _ 0, .nil⟩, .inl ⟨hx.1,rfl⟩,by simp⟩
 ·simp[Value.cells] at hcs
  obtain⟨rfl,rfl,rfl⟩:=hcs
  simp only[Prod.mk.injEq] at hx
  simp only[if_true] at hz
  refine⟨zs.take len,is_sl.2 ⟨1,⟨some a,len,cap⟩,(zs.take len).map fun n=>Value.int .i64 n,rfl,⟨by simp;omega,hl,?_⟩,isLs_vI _⟩, .inr ⟨_,hx.1⟩,fun n hn=>hwz n (List.mem_of_mem_take hn)⟩
  by_cases h0:len=0
  ·exact .inl (by simp[h0])
  ·right
   obtain⟨b,off,spot⟩:=a
   have hspot:spot=none:=by simpa[Addr.add] using World.cell?_spot (hcell 0 (by omega))
   subst hspot
   have c0: ∀i,i<zs.length→w.cell? ⟨b,off+i,none⟩=some (.int .i64 (zs.getD i 0)):=fun i hi=>by
    have:=hcell i hi
    rwa [Go.WideShapes.add_plain] at this
   obtain⟨cs,hcs,_⟩:=GW.of_cell (by simpa using c0 0 (by omega))
   refine⟨b,off,cs,rfl,hcs,fun i hi=>?_⟩
   simp only[List.length_map,List.length_take] at hi
   obtain⟨cs',hcs',hi'⟩:=GW.of_cell (c0 i (by omega))
   rw[hcs] at hcs'
   cases hcs'
   rw[Nat.mul_one,takeL_one.2 hi']
   simp[cellsL,List.getD,List.getElem?_eq_getElem (show i<zs.length by omega)]
end Go.Sx
end

section
set_option maxRecDepth 100000
namespace Go.Sx
open Go Go.Proofs Go.ChangeShapes Go.WideShapes Go.ChangeAt Go.RowKit
inductive CSh where
 |b
 |i (k:IntKind)
 |sl (ag:Bool) (l:List CSh)
mutual
def Fit:CSh→DV→Prop
 | .b,d=> ∃b,d= .v (.bool b)
 | .i k,d=> ∃n,d= .v (.int k n)∧(Lit.int k n).wf=true
 | .sl ag l,d=> ∃m:List DV,d= .sl m∧m.length≤maxLen∧ ∀x∈m,∃ys,FitL l ys∧((ag=true∧x= .ag ys)∨(ag=false∧ys=[x]))
def FitL:List CSh→List DV→Prop
 |[],ds=>ds=[]
 |s::l,ds=> ∃d t,ds=d::t∧Fit s d∧FitL l t
end
def flatF(r:TypeId→Option (Bool×List CSh))(P:Program):List Field→Nat→Option (List CSh)
 |[],_=>some []
 |f::fs,o=>match r f.type with
  |some (_,l)=>if f.offset=o∧P.cellsOf f.type=l.length then(flatF r P fs (o+l.length)).map (l++ ·) else none
  |none=>none
def flatT(P:Program):Nat→TypeId→Option (Bool×List CSh)
 |0,_=>none
 |n+1,t=>match P.underlying t with
  |some .bool=>some (false,[.b])
  |some (.int k)=>some (false,[.i k])
  |some (.slice e)=>match flatT P n e with
   |some (a,l)=>if P.cellsOf e=l.length∧0<l.length then some (false,[.sl a l]) else none
   |none=>none
  |some (.struct fs)=>match flatF (flatT P n) P fs.toList 0 with
   |some l=>if P.cellsOf t=l.length then some (true,l) else none
   |none=>none
  |_=>none
section
variable {H:Type} {enc:TypeId×Value→H} {P:Program} {w:World}
end
def shI:List CSh:=[.b, .sl false [.i .u32]]
def shL:List CSh:=shI++(shI++shI)
theorem es_star: "*" ++ "errors.errorString" = "*errors.errorString" :=by decide
theorem es_row(u:TypeId)(h:Tryz.prog.typeName? 3 u=some "*errors.errorString"):u=374:=
 typeName_ptr_named (nm:= "errors.errorString") (by rw[es_star];kernel_rfl) (by kernel_rfl) (by decide) u (by rw[es_star];exact h)
theorem sent_of{W:World}{n:String}{g:Nat}{text:List UInt8}{r:List (String×DataW Unit)}(h:laidMet Tryz.prog ((n, .iface "*errors.errorString" (.ptr (.agg [.lit (.string text)])))::r) W)(hg:Tryz.prog.globalNamed n=some g)(ht:(Tryz.prog.globals[g]?).map (·.type)=some 32):
  ∃a,GW W g=some [.iface 374 (.pointer (some a))]:=by
 obtain⟨a,s,hv,_⟩:=laid_sentinel h hg ht Tryz.underlying32 es_row Tryz.underlying374 Tryz.underlying399 rfl rfl Tryz.underlying9 (by kernel_rfl) (by kernel_rfl)
 refine⟨a,?_⟩
 unfold World.var? at hv
 rw[hg,Option.bind_some] at hv
 unfold GW
 split at hv
 ·rename_i c t f e
  rw[e];cases hv;rfl
 ·cases hv
theorem laid_plain{W:World}{l:List (String×DataW Unit)}(h:laidMetH Tryz.prog l W)(hp:(l.all fun x=>x.2.handleName?.isNone)=true):laidMet Tryz.prog l W:=by rwa [Go.MakeChecks.laidMetH_plain _ _ _ hp] at h
end Go.Sx
end

section
set_option maxRecDepth 100000
namespace Go.Proofs.YtlnphbkcelfboaaGreatDoor.relateRefuses
open Go.ChangeShapes Go.WideShapes Go.ChangeAt Go.RowKit Go.Sx
theorem own:ownKnob Tryz.prog.godebug=none:=by kernel_rfl
theorem laidOut:laidOutB Tryz.prog=true:=by kernel_rfl
theorem cellsI:Tryz.prog.cellsOf 3=1:=by kernel_rfl
theorem bytesI:Tryz.prog.bytesOf 3=8:=by kernel_rfl
theorem door_met(os:Os)(args:Array Value):laidMetH Tryz.prog Rows.relateRefusesRow.laid ((World.doorLaid Tryz.prog 66 os).forCall (fun _ _=>0) ⟨#[],args,[]⟩).memory:=
 laidMetH_of_parts3 (fuel:=8) (laidMet_of_run' 8 (by kernel_rfl) (by kernel_rfl)) (by kernel_rfl) (by kernel_rfl)
theorem wf_i64{n:Int}(h:(Lit.int .i64 n).wf=true): -9223372036854775808≤n∧n<9223372036854775808:=by
 simp only[Lit.wf,Bool.and_eq_true,decide_eq_true_eq] at h
 have e1:IntKind.i64.min= -9223372036854775808:=rfl
 have e2:IntKind.i64.max=9223372036854775807:=rfl
 omega
theorem eg_of{W:World}(h:laidMetH Tryz.prog Rows.relateRefusesRow.laid W): ∃ai al ae,EGE (GW W) ai al ae:=by
 have h1:=laid_plain h rfl
 obtain⟨ai,hi⟩:=sent_of (g:=0) h1 (by kernel_rfl) (by kernel_rfl)
 obtain⟨ae,he⟩:=sent_of (g:=1) h1.tail (by kernel_rfl) (by kernel_rfl)
 obtain⟨al,hl⟩:=sent_of (g:=2) h1.tail.tail (by kernel_rfl) (by kernel_rfl)
 exact⟨ai,al,ae,⟨hi,hl⟩,he⟩
theorem contract(H:Type)(enc:TypeId×Value→H)(W:World)(base:Nat)(args:Array Value)(ds gs:List (DataW H))(before:List MemPlace)
  (hval: ∀(j:Nat) t v,Tryz.f11.params[j]? =some t→args[j]? =some v→Value.okWide Tryz.prog W .any base t v)
  (hW:DataW.Whole enc Tryz.prog Tryz.f11.params.toList Rows.relateRefusesSpec.vars false W args.toList ds gs before)
  (hz:(DataW.weightsEach Tryz.prog (Tryz.f11.params.toList++(OpenSpec.ofChange Rows.relateRefusesSpec).bare.plain.varTypes Tryz.prog) (ds++gs)).all (· ≤reachBytes)=true)(hlaid:laidMetH Tryz.prog Rows.relateRefusesRow.laid W):
  Calls Tryz.prog 11 args W fun e W'=> ∃v,e= .returned v∧Rows.relateRefusesSpec.post enc Tryz.prog Tryz.f11 false true false false W args v W':=by
 have hW':=hW
 obtain⟨p,q,hA0,hV,rfl,_,_⟩:=hW
 have hA:DataW.TrodAll enc Tryz.prog W 0 (fun _=>true) true Tryz.f11.params.toList args.toList ds p:=hA0
 rw[Tryz.params11] at hA hval hz
 obtain⟨v0,v1,d0,d1,p0,p1,hargs,rfl,rfl,h0,h1⟩:=trodAll_two hA
 subst hargs
 obtain⟨rfl,rfl⟩:=trodVars_none hV
 obtain⟨n1,rfl,rfl,rfl,w1⟩:=open_int Tryz.underlying3 (hval 1 3 v1 rfl rfl) h1
 clear hA0
 simp only[List.append_nil] at hW'
 have hlt: ∀x∈p0,x.block<W.heap.size:=fun x hx=>by simpa using hW'.lt x hx
 obtain⟨es,hI,hd,_⟩:=open_vI Tryz.underlying22 Tryz.underlying3 cellsI (hval 0 22 v0 rfl rfl) h0
 have hb:es.length≤1125899906842624:=by
  rcases hd with⟨rfl,rfl⟩|⟨sp,rfl⟩
  ·exact Nat.zero_le _
  ·have:=sized_slice hz (j:=0) (t:=22) (e:=3) rfl rfl Tryz.underlying22
   rw[bytesI] at this
   have hr:=reachBytes_lt
   have hl:(lits (H:=H) .i64 es).length=es.length:=by simp[lits]
   rw[hl] at this
   omega
 obtain⟨ai,al,ae,hE⟩:=eg_of hlaid
 have hf:=(q_RelateRefuses hE.toEG (es0:=es) (root:=n1) hb (wf_i64 w1)) (GW W) [v0, .int .i64 n1] (GLe.refl _) (.cons hI (.cons (is_v.2 rfl) .nil))
 refine(hf.run W (fun b cs hg=>GW.sub hg)).mono fun e W' ⟨v,G',he,hr,hv⟩=>?_
 rw[is_v] at hv
 subst hv
 subst he
 have hn:=hr.below
 have t2:=trodAll_mk2 (Below.trod laidOut (by kernel_rfl) (of_decide_eq_true (by kernel_rfl)) h0 hn hlt) (shut_int Tryz.underlying3 w1)
 simp only[List.append_nil] at t2
 exact⟨_,rfl,⟨_,_,_,[],_,[],hW',trodAll_mk1 (shut_bool Tryz.underlying4 _),t2,rfl,hn.frame _,fun h=>by cases h⟩⟩
theorem reads(os:Os){H:Type}(enc:TypeId×Value→H): ∃places,DataW.whole enc Tryz.prog ((World.doorLaid Tryz.prog 66 os).forCall (fun _ _=>0) ⟨#[], #[.slice none 0 0, .int .i64 0],[]⟩).memory Tryz.f11.params.toList Rows.relateRefusesSpec.vars false #[Value.slice none 0 0, .int .i64 0].toList 8=some ([.nil, .lit (.int .i64 0)],[],places):=
 ⟨[],by kernel_rfl⟩
theorem lifted(os:Os)(started:os.Started)(H:Type)(enc:TypeId×Value→H)(F:Stop.Interp):
  ReturnsInHanded {} Tryz.checked os 11 .any ((OpenSpec.ofChange Rows.relateRefusesSpec).preRow enc Tryz.prog Tryz.f11 Rows.relateRefusesRow.domain false Rows.relateRefusesRow.laid) (((OpenSpec.ofChange Rows.relateRefusesSpec).at F).post enc Tryz.prog Tryz.f11 false true false false):=by
 obtain⟨places,hx⟩:=reads os enc
 refine returnsInHanded_of_row (C:=Tryz.checked) (s:=OpenSpec.ofChange Rows.relateRefusesSpec) own started (by kernel_rfl) Tryz.func11
  (witness_row_atRef (enc:=enc) (C:=Tryz.checked) false (World.doorLaid Tryz.prog 66 os) #[.slice none 0 0, .int .i64 0] rfl (by kernel_rfl) (by kernel_rfl) (by kernel_rfl)
   (OpenSpec.preRow_of_cond 8 hx (by kernel_rfl) (fun k hk=>by cases hk) (by kernel_rfl) (door_met os _))) ?_
 intro W base args ds gs before hval hW _ _ hz hlaid _ _
 exact contract H enc W base args ds gs before hval hW hz hlaid
theorem j1:(Rows.relateRefusesRow.inPlace==Tryz.pinned.checked.prog.inPlace 11)=true:=by kernel_rfl
theorem j2:(Rows.relateRefusesRow.unfollowed==Tryz.pinned.checked.prog.unfollowed 11)=true:=by kernel_rfl
theorem j3:(Rows.relateRefusesRow.recurses==Tryz.pinned.checked.prog.recurses 11)=true:=by kernel_rfl
theorem j4:(Rows.relateRefusesRow.named==Tryz.pinned.checked.prog.varsNamed 11)=true:=by kernel_rfl
theorem j5:laidOutB Tryz.pinned.checked.prog=true:=laidOut
theorem j6:mapsRowed Tryz.pinned.checked.prog=true:=by kernel_rfl
theorem j7:Tryz.pinned.checked.prog.mainIs=some (Rows.relateRefusesCard.stood.harness.1,Rows.relateRefusesCard.stood.harness.2.toList):=by kernel_rfl
theorem j8:false=Rows.relateRefusesRow.goesBy Tryz.pinned.checked.prog:=by kernel_rfl
theorem closed:joinedFacts Tryz.pinned.checked.prog 11 Tryz.f11 (OpenSpec.ofChange Rows.relateRefusesSpec).bare Rows.relateRefusesRow=true:=by
 unfold joinedFacts
 rw[j1,j2,j3,j4,j5,j6]
 kernel_rfl
theorem said:Rows.RelateRefusesSaid:=
 OpenClaim.holds_of_cond 11 Tryz.f11 rfl rfl rfl rfl rfl rfl rfl ⟨rfl,rfl,rfl,rfl,rfl⟩ rfl rfl rfl rfl rfl (by kernel_rfl) Tryz.func11 closed
  (of_decide_eq_true (by kernel_rfl)) (by unfold Func.isWrapper;first|(rw[if_pos (by decide+kernel)];kernel_rfl)|(rw[if_neg (by decide+kernel)];exact⟨rfl,rfl⟩))
  (fun os started H enc _ F=>by rw[OpenClaim.pre_eq_preRow];exact lifted os started H enc F)
theorem plain(f:FuncId)(fn:Func)(hf:Tryz.pinned.checked.prog.funcNamed "bspregion/bspregionlaw20.RelateRefuses" =some f)(hfn:Tryz.pinned.checked.prog.funcs[f]? =some fn):
  true=Tryz.pinned.checked.prog.looks []∧ ∀(j:Nat) t,fn.params[j]? =some t→Tryz.pinned.checked.prog.wantsStandIn t=false:=by
 obtain rfl:f=11:=Option.some.inj ((show Tryz.prog.funcNamed "bspregion/bspregionlaw20.RelateRefuses" =some 11 by kernel_rfl).symm.trans hf) |>.symm
 obtain rfl:fn=Tryz.f11:=(Option.some.inj (Tryz.func11.symm.trans hfn)).symm
 refine⟨by kernel_rfl,fun j t ht=>?_⟩
 rw[Tryz.params11] at ht
 have hm:=Array.mem_of_getElem? ht
 simp only[List.mem_toArray,List.mem_cons,List.not_mem_nil,or_false] at hm
 rcases hm with rfl|rfl
 ·exact(show Tryz.prog.wantsStandIn 22=false by kernel_rfl)
 ·exact(show Tryz.prog.wantsStandIn 3=false by kernel_rfl)
theorem card:Rows.RelateRefusesCardSaid:=
 Claim7.holds_tied_plain_at .later [] _ _ _ _ said (fun _ h=>by cases h) (by kernel_rfl) (fun _ h=>by cases h) relateRefuses_row_tie rfl ⟨rfl,rfl⟩ j7 rfl plain j8
#print axioms card
end Go.Proofs.YtlnphbkcelfboaaGreatDoor.relateRefuses
end
