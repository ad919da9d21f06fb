/-
  The law RelateForms holds: it answers true at every input and leaves its argument as it was.
-/
import Derived.Test.YtlnphbkcelfboaaGreatDoorMq17
import Derived.Test.YtlnphbkcelfboaaGreatDoorCards
import Derived.Test.YtlnphbkcelfboaaGreatDoorTie
import Derived.WalkKit
import Derived.ProofKit
import Derived.OpenShut
import Derived.Deep.DeepHandedRow
import Derived.Deep.DeepWitnessRowRef
import Derived.LaidMore
import Derived.Lib.LaidTab
import Derived.SizedLaws
import Derived.Stop.LaidErr
import Derived.MakeChecks
set_option linter.unusedSimpArgs false
set_option linter.unusedVariables false
section
set_option maxRecDepth 100000
namespace Go.Sx
open Go Go.Proofs
section
variable {GB:Gh} {C:Ctx} {n:Nat} {Q0:Exit→Act→World→Prop} {fr fr':FrX} {own own':OwX} {cf cf':Cf} {vc:List Prop} {ops:Array Oper} {r:List Oper} {K:List Kt}
theorem nameV(k:Nat){d:DV}(hl:lookX fr k=some (.d d))(h: ∀(GB':Gh) (pv:Value),GLe GB GB'→Is GB' d pv→CfS Tryz.prog GB' C n Q0 ((k, .d (.v pv))::fr) own (.ops ops r K)):CfS Tryz.prog GB C n Q0 fr own (.ops ops r K):=by
 refine⟨fun ρ G ov a w r0=>?_⟩
 obtain⟨y,hy,hy'⟩:=r0.fx k _ hl
 refine(h G y r0.gb hy').run ρ G ov a w ⟨GLe.refl _,r0.h,r0.sz,r0.df,fun j f e=>?_,r0.bx,r0.dj⟩
 rw[lookX_cons] at e
 split at e
 ·rename_i hj
  cases e;subst hj
  exact⟨y,hy,(is_v (G:=G)).2 rfl⟩
 ·exact r0.fx j f e
def mkFA(fr:FrX)(cf:Cf):Option (FuncId×Value):=match opC fr cf with
 |some ⟨_, .makeFunc (.func f) ⟨[x]⟩ ⟨[]⟩,_,_,_,_⟩=>match evX (lkC fr cf) x with
  |some (.d (.v pv))=>some (f,pv)
  |_=>none
 |_=>none
theorem mkF[fu:Fu]{f:FuncId}{pv:Value}(h:mkFA fr cf=some (f,pv))(hgo:goA tt n fu.n fr own cf (.d (.v (.func (.func f) ⟨[pv]⟩ ⟨[]⟩))) [] []=⟨vc,fr',own',cf'⟩)(k:CfS Tryz.prog GB C n Q0 fr' own' cf')
  (hv:allP vc:=by first|exact trivial|(simp only[allP];kernel_rfl)|(simp only[allP];omega)):CfS Tryz.prog GB C n Q0 fr own cf:=by
 unfold mkFA at h
 split at h<;>try (cases h;done)
 rename_i hh
 split at h<;>cases h
 rename_i hx
 exact us hh (.x1 hx fun ρ G ov a w y _ r h1 h2=>by
  rw[(is_v (G:=G)).1 h2] at h1
  exact⟨_,(is_v (G:=G)).2 rfl,yd_makeFunc (l1:=[pv]) (l2:=[]) (by simp[h1]) rfl⟩) hgo hv k
theorem ok_callV{lk:LK}{bk:BM}{fo:Operand}{args:Array Operand}{tys:Array TypeId}{f:FuncId}{c1:List Value}{ds1 ds:List DV}{rv:DV}{dst:Option Nat}{ty:TypeId}{pos:String}{af:Array Edge}{gd:Option (Nat×Bool)}(h1:evX lk fo=some (.d (.v (.func (.func f) ⟨c1⟩ ⟨[]⟩))))(h2:evDs lk args.toList=some ds)(hc:IsLs GB ds1 c1)(hF:PF GB Tryz.prog f (ds1++ds) rv):
  OpR Tryz.prog GB C n lk bk ⟨dst, .call ⟨.value fo,args,tys⟩,ty,pos,af,gd⟩ (.d rv) [] []:=by
 intro hd tl tb K' s1 s2 hf hk
 refine⟨fun ρ G ov a w r Q=>?_⟩
 obtain⟨y,hy,hy'⟩:=(r.mono s1 s2).ev h1
 rw[(is_v (G:=G)).1 hy'] at hy
 obtain⟨vs,h3,h4⟩:=(r.mono s1 s2).evDs h2
 refine ch_callc (c1:=c1) (c2:=[]) hy h3 (by rw[List.append_nil];exact hF G (c1++vs) r.gb ((hc.up r.gb).app h4)) hd (fun v G' hG hK a' w' rl=>?_) a w Q ⟨r.h,r.sz,frA_ok a,r.df⟩
 exact hk.run ρ G' ov a' w' ⟨r.gb.trans hG.le,rl.h,rl.sz,rl.df,(putA_rel rl).fx (fun k g _ e=>by obtain⟨u,h5,h6⟩:=r.fx k g e;exact⟨u,h5,h6.up hG.le⟩) hK,
  fun nm B e=>by obtain⟨os,h5,h6⟩:=r.bx nm B e;exact⟨os,h5.up hG.le,h6⟩,r.dj⟩
def cfvA(fr:FrX)(cf:Cf):Option (FuncId×List Value×List DV):=match opC fr cf with
 |some ⟨_, .call ⟨.value fo,args,_⟩,_,_,_,_⟩=>match evX (lkC fr cf) fo,evDs (lkC fr cf) args.toList with
  |some (.d (.v (.func (.func f) ⟨c1⟩ ⟨[]⟩))),some ds=>some (f,c1,ds)
  |_,_=>none
 |_=>none
theorem cfv[fu:Fu]{f:FuncId}{c1:List Value}{ds ds1:List DV}{rv:DV}(ha:cfvA fr cf=some (f,c1,ds))(hc:IsLs GB ds1 c1)(hF:PF GB Tryz.prog f (ds1++ds) rv)(hgo:goA tt n fu.n fr own cf (.d rv) [] []=⟨vc,fr',own',cf'⟩)(k:CfS Tryz.prog GB C n Q0 fr' own' cf')
  (hv:allP vc:=by first|exact trivial|(simp only[allP];kernel_rfl)|(simp only[allP];omega)):CfS Tryz.prog GB C n Q0 fr own cf:=by
 unfold cfvA at ha
 split at ha<;>try (cases ha;done)
 rename_i hh
 split at ha<;>cases ha
 rename_i h1 h2
 exact us hh (ok_callV h1 h2 hc hF) hgo hv k
/-! an array of constants -/
def constL:List (Nat×Operand)→Option (List (Nat×Value))
 |[]=>some []
 |(i, .const v)::t=>match constL t with
  |some l=>some ((i,v)::l)
  |none=>none
 |_::_=>none
theorem constL_ok{a:Act}: ∀{ps:List (Nat×Operand)} {vs:List (Nat×Value)},constL ps=some vs→ps.map (fun(i,x)=>(i,a.eval x))=vs
 |[],vs,h=>by cases h;rfl
 |(i, .const v)::t,vs,h=>by
  simp only[constL] at h
  split at h<;>cases h
  rename_i l hl
  rw[List.map_cons,constL_ok hl];rfl
theorem isLs_v{G:Gh}: ∀l:List Value,IsLs G (l.map .v) l
 |[]=>isl_nil.2 rfl
 |v::t=>isl_cons.2 ⟨v,t,rfl,is_v.2 rfl,isLs_v t⟩
def bakA(cf:Cf)(fr:FrX):Option (TypeId×List (Nat×Value)):=match opC fr cf with
 |some ⟨_, .build t ⟨ps⟩,_,_,_,_⟩=>match constL ps with
  |some vs=>some (t,vs)
  |none=>none
 |_=>none
theorem bak[fu:Fu]{t:TypeId}{vs:List (Nat×Value)}(out:List Value)(h:bakA cf fr=some (t,vs))(hrun: ∀w,(Instr.build t ⟨vs⟩).run Tryz.prog w= .ok (.agg ⟨out⟩) w)(hgo:goA tt n fu.n fr own cf (.d (.ag (out.map .v))) [] []=⟨vc,fr',own',cf'⟩)(k:CfS Tryz.prog GB C n Q0 fr' own' cf')
  (hv:allP vc:=by first|exact trivial|(simp only[allP];kernel_rfl)|(simp only[allP];omega)):CfS Tryz.prog GB C n Q0 fr own cf:=by
 unfold bakA at h
 split at h<;>try (cases h;done)
 rename_i hh
 split at h<;>cases h
 rename_i hc
 refine us hh (OpR.yd (f:= .d (.ag (out.map .v))) fun ρ G ov a w r=>⟨.agg ⟨out⟩,is_ag.2 ⟨out,rfl,isLs_v out⟩,?_⟩) hgo hv k
 intro a' w' hf hw
 simp only[execOp]
 refine value_of ?_
 have:=constL_ok (a:=a') hc
 rw[show(⟨_⟩:Array (Nat×Operand)).map (fun(i,x)=>(i,a'.eval x))=⟨vs⟩ by apply Array.ext';simpa using this]
 exact hrun w'
def staA(fr:FrX)(own:OwX)(cf:Cf):Option (TypeId×Nat×Nat×List FX×Bool×FX):=match opC fr cf with
 |some ⟨_, .store t x y,_,_,_,_⟩=>match evX (lkC fr cf) x with
  |some (.ov nm 0)=>match bkC fr own cf nm with
   |some (.o ty cs lo)=>match evX (lkC fr cf) y with
    |some fv=>some (t,nm,ty,cs,lo,fv)
    |_=>none
   |_=>none
  |_=>none
 |_=>none
theorem sta[fu:Fu]{t nm ty len e:Nat}{cs:List FX}{lo:Bool}{fv:FX}{j:TypeInfo}(h:staA fr own cf=some (t,nm,ty,cs,lo,fv))(hu:Tryz.prog.underlying t=some (.array len e))(hj:Tryz.prog.info? t=some j)(hc:fv.okc=true∧fv.cells.length=j.size∧j.size=cs.length)
  (hgo:goA tt n fu.n fr own cf .un [(nm,some (.o ty (ovX cs 0 fv.cells) lo))] []=⟨vc,fr',own',cf'⟩)(k:CfS Tryz.prog GB C n Q0 fr' own' cf')
  (hv:allP vc:=by first|exact trivial|(simp only[allP];kernel_rfl)|(simp only[allP];omega)):CfS Tryz.prog GB C n Q0 fr own cf:=by
 unfold staA at h
 split at h<;>try (cases h;done)
 rename_i hh
 split at h<;>try (cases h;done)
 rename_i e1
 split at h<;>try (cases h;done)
 rename_i hb
 split at h<;>cases h
 rename_i e2
 obtain⟨c1,c2,c3⟩:=hc
 have:TyA Tryz.prog t j.size:=⟨fun w=>run_agg hu w,fun w=>run_size hj w⟩
 refine us hh ?_ hgo hv k
 intro hd tl tb K s1 s2 hf hk
 refine⟨fun ρ G ov a w r Q=>?_⟩
 have r1:=r.mono s1 s2
 obtain⟨p,h1,h2⟩:=r1.ev e1
 obtain⟨q,h3,h4⟩:=r1.ev e2
 obtain⟨b,m,rfl,ha,h5,h6⟩:=r1.own h2 hb
 obtain⟨h7,h8⟩:=h4.cells c1
 obtain⟨own',u1,u2,u3⟩:=OUpd.of_mem (cs':=ovw m 0 (cellsL q)) h6
 exact ch_store h1 h3 u1 (by rw[h7.len,c2]) (by rw[h5.len,c3];omega) (List.all_eq_true.2 h8) hd (fun a' w' rl=>r.wrote (m:=m) (s2 _ _ hb) ha (h5.ov h7) u2 u3 hk rl) a w Q ⟨r.h,r.sz,frA_ok a,r.df⟩
def rowB(fr:FrX)(cf:Cf):Option RwA:=match opC fr cf with
 |some ⟨some d, .buildSlice t len parts,_,_,_,_⟩=>match lookT tt t with
  |some ⟨.sl e s _,_,_,_⟩=>match rowX (lkC fr cf) 0 parts.toList with
   |some ds=>bif okRow s ds&&(Nat.beq parts.toList.length len&&(Nat.ble (len*s) 1000&&Nat.blt 0 (len*s))) then some ⟨d,e,s,ds⟩ else none
   |none=>none
  |_=>none
 |_=>none
theorem rfB[fu:Fu]{d e s:Nat}{ds:List DV}{i:TI}{z:DV}(h:rowB fr cf=some ⟨d,e,s,ds⟩)(hi:tiOf Tryz.prog e=some i)(hz:zeE i=some z)(hs:Nat.beq z.cells.length s=true)(hgo:goA tt n fu.n fr own cf (.d (.sl ds)) [(d,none)] [d]=⟨vc,fr',own',cf'⟩)(k:CfS Tryz.prog GB C n Q0 fr' own' cf')
  (hv:allP vc:=by first|exact trivial|(simp only[allP];kernel_rfl)|(simp only[allP];omega)):CfS Tryz.prog GB C n Q0 fr own cf:=by
 unfold rowB at h
 split at h<;>try (cases h;done)
 rename_i hh
 split at h<;>try (cases h;done)
 rename_i hT
 split at h<;>try (cases h;done)
 rename_i hr
 rw[cond_eq_ite] at h
 split at h<;>cases h
 rename_i hc
 simp only[Bool.and_eq_true] at hc
 have:=ti_sl (tt_ok _ _ hT) rfl
 exact us hh ((ok_row hi hz hs hr hc.1 hc.2.1 hc.2.2.1 hc.2.2.2).frzRow rfl) hgo hv k
def ldBA(fr:FrX)(cf:Cf):Option (TypeId×List DV):=match opC fr cf with
 |some ⟨_, .load t x,_,_,_,_⟩=>match evX (lkC fr cf) x with
  |some (.ep l)=>some (t,l)
  |_=>none
 |_=>none
def noAg:TypeDesc→Bool
 | .struct _=>false
 | .array _ _=>false
 |_=>true
theorem ldB[fu:Fu]{t:TypeId}{d:DV}{l:List DV}{D:TypeDesc}{j:TypeInfo}(h:ldBA fr cf=some (t,d::l))(hu:Tryz.prog.underlying t=some D)(hD:noAg D=true)(hj:Tryz.prog.info? t=some j)(hs:j.size=1)
  (hgo:goA tt n fu.n fr own cf (.d d) [] []=⟨vc,fr',own',cf'⟩)(k:CfS Tryz.prog GB C n Q0 fr' own' cf')
  (hv:allP vc:=by first|exact trivial|(simp only[allP];kernel_rfl)|(simp only[allP];omega)):CfS Tryz.prog GB C n Q0 fr own cf:=by
 unfold ldBA at h
 split at h<;>try (cases h;done)
 rename_i hh
 split at h<;>cases h
 rename_i hx
 have:TyS Tryz.prog t:=⟨fun w=>by(rw[run_agg hu w];cases D<;>first|rfl|(cases hD;done)),fun w=>by rw[run_size hj w,hs]⟩
 exact us hh (.x1 hx fun ρ G ov a w y _ r h1 h2=>by
  obtain⟨b,o,ms,m,rfl,hb,ht,hm⟩:=h2
  obtain⟨l',h3,h4⟩:=hm.get (i:=0) rfl
  have:=get_of_takeL ht (i:=0) (Nat.succ_pos _)
  rw[Nat.add_zero] at this
  exact⟨l',h4,yd_load_gh1 h1 hb (by rw[this];exact h3)⟩) hgo hv k
end
end Go.Sx
end

section
set_option maxRecDepth 100000
namespace Go.Sx
open Go Go.Proofs
def fcs(a b:Tr):List PtQ:=facesQ (distQ (a.lns++b.lns))
def eqR(a b:Tr):Bool:=(fcs a b).all fun p=>atQ a p==atQ b p
def anyR(f:Bool→Bool→Bool)(a b:Tr):Bool:=(fcs a b).any fun p=>f (atQ a p) (atQ b p)
def leafQ(v:Bool)(t:Tr):Bool:=decide ((t.restrict []).isLeaf=true∧(t.restrict []).code=v)
end Go.Sx
end

section
set_option maxRecDepth 100000
namespace Go.Sx
open Go Go.Proofs
theorem EG.mono{GB GB':Gh}{ai al ae:Addr}(h:EG GB ai al ae)(k:GLe GB GB'):EG GB' ai al ae:=⟨k _ _ h.ErrInvalid,k _ _ h.ErrLimit⟩
def ePr(a b:Tr):DV:= .ag [eU a,eU b]
def prZ:DV:= .ag [.v (.pointer none), .v (.pointer none)]
theorem p_OfA{GB:Gh}{k:Nat}{t:Tr}(h:TrX k t):PF GB Tryz.prog 55 [eA t] (.tp [eU t,vB true]):=by
 have:=p_OfS (GB:=GB) (rt:=t.num 0) (wr_sm h.lb) (wr_n (by have:=h.s;omega)) (ofQ_wr h.ok)
 rw[←eA_RT] at this
 exact this
theorem nq_leaf{op:Int}{a b:Tr}{v:Bool}(h:Tr.leaf v=a.mergeQ op b []):noneQ op a b=!v:=by unfold noneQ;rw[←h];cases v<;>rfl
theorem nq_node{op:Int}{a b:Tr}{l:LnQ}{x y:Tr}(h:Tr.node l x y=a.mergeQ op b []):noneQ op a b=false:=by unfold noneQ;rw[←h];simp[Tr.isLeaf]
theorem p_rdS{GB:Gh}{j k:Nat}{a b:Tr}(ha:TrX j a)(hb:TrX k b):PF GB Tryz.prog 67 [eA a,eA b] (.tp [ePr a b, .v .nilIface]):=by
 refine fn Tryz.func67 rfl rfl Tryz.ntmps67 rfl rfl (fun C=>?_)
 refine cl (fu:=⟨3⟩) rfl (p_OfA ha) rfl<|?_
 refine kbT 14 rfl ?_
 refine gx rfl<|cl (fu:=⟨3⟩) rfl (p_OfA hb) rfl<|?_
 refine kbT 19 rfl ?_
 refine gx rfl<|?_
 exact rz rfl rfl
theorem p_none{GB:Gh}{ai al ae:Addr}(hE:EG GB ai al ae){op:Int}{j k:Nat}{a b:Tr}(ha:TrX j a)(hb:TrX k b)(hk:j+k≤200):PF GB Tryz.prog 126 [ePr a b,vI op] (.tp [vB (noneQ op a b), .v .nilIface]):=by
 obtain⟨t,ht⟩: ∃t,t=a.mergeQ op b []:=⟨_,rfl⟩
 refine fn Tryz.func126 rfl rfl Tryz.ntmps126 rfl rfl (fun C=>?_)
 refine cl rfl (p_TwoS (t:=t) hE ha.gd hb.gd (by have:=ha.s;omega) (by have:=hb.s;omega) (by rw[ht];exact ha.lim hb hk)) rfl<|?_
 rcases t with v|⟨l,x,y⟩
 ·
  have hq:=nq_leaf ht
  refine cl (fu:=⟨0⟩) rfl p_IsLeafL rfl<|?_
  refine kbT 21 rfl ?_
  refine gx rfl<|?_
  exact rz rfl (by rw[hq];rfl)
 ·
  have hq:=nq_node ht
  refine cl (fu:=⟨0⟩) rfl p_IsLeafN rfl<|?_
  refine kbF 21 rfl ?_
  refine gx rfl<|?_
  exact rz rfl (by rw[hq];rfl)
theorem p_pEqual{GB:Gh}{ai al ae:Addr}(hE:EG GB ai al ae){j k:Nat}{a b:Tr}(ha:TrX j a)(hb:TrX k b)(hk:j+k≤200):PF GB Tryz.prog 68 [ePr a b] (.tp [vB (noneQ 4 a b), .v .nilIface]):=by
 refine fn Tryz.func68 rfl rfl Tryz.ntmps68 rfl rfl (fun C=>?_)
 refine cl rfl (p_none hE (op:=4) ha hb hk) rfl<|?_
 exact rz rfl rfl
theorem p_pSubset{GB:Gh}{ai al ae:Addr}(hE:EG GB ai al ae){j k:Nat}{a b:Tr}(ha:TrX j a)(hb:TrX k b)(hk:j+k≤200):PF GB Tryz.prog 69 [ePr a b] (.tp [vB (noneQ 3 a b), .v .nilIface]):=by
 refine fn Tryz.func69 rfl rfl Tryz.ntmps69 rfl rfl (fun C=>?_)
 refine cl rfl (p_none hE (op:=3) ha hb hk) rfl<|?_
 exact rz rfl rfl
theorem p_pCont{GB:Gh}{ai al ae:Addr}(hE:EG GB ai al ae){j k:Nat}{a b:Tr}(ha:TrX j a)(hb:TrX k b)(hk:k+j≤200):PF GB Tryz.prog 70 [ePr a b] (.tp [vB (noneQ 3 b a), .v .nilIface]):=by
 refine fn Tryz.func70 rfl rfl Tryz.ntmps70 rfl rfl (fun C=>?_)
 refine cl rfl (p_pSubset hE hb ha hk) rfl<|?_
 exact rz rfl rfl
theorem p_REq{GB:Gh}{ai al ae:Addr}(hE:EG GB ai al ae){j k:Nat}{a b:Tr}(ha:TrX j a)(hb:TrX k b)(hk:j+k≤200):PF GB Tryz.prog 21 [eA a,eA b] (.tp [vB (noneQ 4 a b), .v .nilIface]):=by
 refine fn Tryz.func21 rfl rfl Tryz.ntmps21 rfl rfl (fun C=>?_)
 refine cl rfl (p_rdS ha hb) rfl<|cl rfl (p_pEqual hE ha hb hk) rfl<|?_
 exact rz rfl rfl
theorem p_oneS{GB:Gh}{ai al ae:Addr}(hE:EG GB ai al ae){k:Nat}{t:Tr}(h:TrX k t)(hk:k≤1000):PF GB Tryz.prog 71 [eA t] (.tp [eU (t.restrict []), .v .nilIface]):=by
 have hd:=h.dp
 refine fn Tryz.func71 rfl rfl Tryz.ntmps71 rfl rfl (fun C=>?_)
 refine cl (fu:=⟨3⟩) rfl (p_OfA h) rfl<|?_
 refine kbT 10 rfl ?_
 refine gx rfl<|cl (fu:=⟨0⟩) rfl (p_Depth (t:=t) (by omega)) rfl<|knF rfl (by show some (decide _)=some false;rw[decide_eq_false (by omega)]) rfl<|cl rfl (p_Reduce (t:=t) h.lb h.ok (by omega)) rfl<|?_
 exact rz rfl rfl
theorem lq_leaf{v w:Bool}{t:Tr}(h:Tr.leaf v=t.restrict []):leafQ w t=decide (v=w):=by unfold leafQ;rw[←h];simp[Tr.isLeaf,Tr.code]
theorem lq_node{w:Bool}{t:Tr}{l:LnQ}{x y:Tr}(h:Tr.node l x y=t.restrict []):leafQ w t=false:=by unfold leafQ;rw[←h];simp[Tr.isLeaf]
theorem p_REmpty{GB:Gh}{ai al ae:Addr}(hE:EG GB ai al ae){k:Nat}{t:Tr}(h:TrX k t)(hk:k≤1000):PF GB Tryz.prog 24 [eA t] (.tp [vB (leafQ false t), .v .nilIface]):=by
 obtain⟨u,ht⟩: ∃u,u=t.restrict []:=⟨_,rfl⟩
 refine fn Tryz.func24 rfl rfl Tryz.ntmps24 rfl rfl (fun C=>?_)
 refine cl (fu:=⟨0⟩) rfl (p_oneS hE h hk) rfl<|?_
 refine eqF 8 (.d (.tp [eU u, .v .nilIface])) rfl (by rw[ht]) ?_
 refine gx rfl<|?_
 rcases u with v|⟨l,x,y⟩
 ·
  have hq:=lq_leaf (w:=false) ht
  refine cl (fu:=⟨0⟩) rfl p_IsLeafL rfl<|?_
  refine kbT 15 rfl ?_
  refine gx rfl<|?_
  exact rz rfl (by rw[hq];cases v<;>rfl)
 ·
  have hq:=lq_node (w:=false) ht
  refine cl (fu:=⟨0⟩) rfl p_IsLeafN rfl<|?_
  refine kbF 15 rfl ?_
  refine gx rfl<|?_
  exact rz rfl (by rw[hq];rfl)
theorem p_RWhole{GB:Gh}{ai al ae:Addr}(hE:EG GB ai al ae){k:Nat}{t:Tr}(h:TrX k t)(hk:k≤1000):PF GB Tryz.prog 25 [eA t] (.tp [vB (leafQ true t), .v .nilIface]):=by
 obtain⟨u,ht⟩: ∃u,u=t.restrict []:=⟨_,rfl⟩
 refine fn Tryz.func25 rfl rfl Tryz.ntmps25 rfl rfl (fun C=>?_)
 refine cl (fu:=⟨0⟩) rfl (p_oneS hE h hk) rfl<|?_
 refine eqF 8 (.d (.tp [eU u, .v .nilIface])) rfl (by rw[ht]) ?_
 refine gx rfl<|?_
 rcases u with v|⟨l,x,y⟩
 ·
  have hq:=lq_leaf (w:=true) ht
  refine cl (fu:=⟨0⟩) rfl p_IsLeafL rfl<|?_
  refine kbT 15 rfl ?_
  refine gx rfl<|?_
  exact rz rfl (by rw[hq];cases v<;>rfl)
 ·
  have hq:=lq_node (w:=true) ht
  refine cl (fu:=⟨0⟩) rfl p_IsLeafN rfl<|?_
  refine kbF 15 rfl ?_
  refine gx rfl<|?_
  exact rz rfl (by rw[hq];rfl)
set_option maxHeartbeats 1000000 in
theorem p_RCmp{GB:Gh}{ai al ae:Addr}(hE:EG GB ai al ae){j k:Nat}{a b:Tr}(ha:TrX j a)(hb:TrX k b)(hk':j+k≤200):PF GB Tryz.prog 22 [eA a,eA b] (.tp [vI (compareQ a b), .v .nilIface]):=by
 refine fn Tryz.func22 rfl rfl Tryz.ntmps22 rfl rfl (fun C=>?_)
 refine cl (fu:=⟨20⟩) rfl (p_rdS ha hb) rfl<|bak [.int .i64 0, .int .i64 (-1), .int .i64 1] rfl (fun w=>rfl) rfl<|sta rfl rfl rfl ⟨rfl,rfl,rfl⟩ rfl<|?_
 refine nameV 23 rfl (fun GB1 pv1 hg1 hp1=>?_)
 refine mkF rfl rfl<|?_
 refine nameV 25 rfl (fun GB2 pv2 hg2 hp2=>?_)
 refine mkF rfl rfl<|?_
 refine nameV 27 rfl (fun GB3 pv3 hg3 hp3=>?_)
 refine mkF (fu:=⟨0⟩) rfl rfl<|?_
 have hp1:=(hp1.up hg2).up hg3
 have hp2:=hp2.up hg3
 have hg4:=(hg1.trans hg2).trans hg3
 refine rfB (i:=⟨.o,1,some [.d (.v .nilFunc)],false⟩) (z:= .v .nilFunc) rfl (by kernel_rfl) rfl rfl rfl<|?_
 refine lp (X:=Nat) (fun k3=>[(31, .d (vI (k3:Nat)))]) (fun k3=>[]) (fun k3=>k3≤3∧(0<k3→noneQ 4 a b=false)∧(1<k3→noneQ 3 a b=false)∧(2<k3→noneQ 3 b a=false)) (fun k3=>3-k3) 0 rfl ⟨by omega,by omega,by omega,by omega⟩ (fun _=>rfl) (fun k3 hk=>?_)
 obtain⟨i1,i2,i3,i4⟩:=hk
 refine br (fu1:=⟨7⟩) rfl rfl rfl (fun hc32=>?_) (fun hc32=>?_)
 ·
  have hc32:k3<3:=by simp at hc32;omega
  rcases(show k3=0∨k3=1∨k3=2 by omega) with rfl|rfl|rfl
  ·
   refine gx rfl<|ix (fu:=⟨0⟩) _ rfl rfl rfl<|ldB (fu:=⟨7⟩) rfl rfl rfl rfl rfl rfl<|cfv (ds1:=[ePr a b]) rfl (.cons hp1 .nil) (p_pEqual (hE.mono hg4) ha hb (by omega)) rfl<|?_
   refine bb rfl rfl rfl (fun hc45=>?_) (fun hc45=>?_)
   ·
    refine ixa 0 (e:=3) (len:=3) (s:=1) rfl (by kernel_rfl) (by kernel_rfl) (by decide) rfl<|?_
    exact rz rfl (by show DV.tp [vI _,_]=DV.tp [vI _,_];unfold compareQ;rw[hc45];rfl)
   ·
    exact at_ 1 ⟨⟨by omega,fun _=>by simpa using hc45,by omega,by omega⟩,(by omega)⟩
  ·
   refine gx rfl<|ix (fu:=⟨0⟩) _ rfl rfl rfl<|ldB (fu:=⟨7⟩) rfl rfl rfl rfl rfl rfl<|cfv (ds1:=[ePr a b]) rfl (.cons hp2 .nil) (p_pSubset (hE.mono hg4) ha hb (by omega)) rfl<|?_
   refine bb rfl rfl rfl (fun hc45=>?_) (fun hc45=>?_)
   ·
    refine ixa 1 (e:=3) (len:=3) (s:=1) rfl (by kernel_rfl) (by kernel_rfl) (by decide) rfl<|?_
    exact rz rfl (by show DV.tp [vI _,_]=DV.tp [vI _,_];unfold compareQ;rw[i2 (by omega),hc45];rfl)
   ·
    exact at_ 2 ⟨⟨by omega,fun _=>i2 (by omega),fun _=>by simpa using hc45,by omega⟩,(by omega)⟩
  ·
   refine gx rfl<|ix (fu:=⟨0⟩) _ rfl rfl rfl<|ldB (fu:=⟨7⟩) rfl rfl rfl rfl rfl rfl<|cfv (ds1:=[ePr a b]) rfl (.cons hp3 .nil) (p_pCont (hE.mono hg4) ha hb (by omega)) rfl<|?_
   refine bb rfl rfl rfl (fun hc45=>?_) (fun hc45=>?_)
   ·
    refine ixa 2 (e:=3) (len:=3) (s:=1) rfl (by kernel_rfl) (by kernel_rfl) (by decide) rfl<|?_
    exact rz rfl (by show DV.tp [vI _,_]=DV.tp [vI _,_];unfold compareQ;rw[i2 (by omega),i3 (by omega),hc45];rfl)
   ·
    exact at_ 3 ⟨⟨by omega,fun _=>i2 (by omega),fun _=>i3 (by omega),fun _=>by simpa using hc45⟩,(by omega)⟩
 ·
  obtain rfl:k3=3:=by simp at hc32;omega
  exact rz rfl (by show DV.tp [vI _,_]=DV.tp [vI _,_];unfold compareQ;rw[i2 (by omega),i3 (by omega),i4 (by omega)];rfl)
end Go.Sx
end

section
set_option maxRecDepth 100000
namespace Go.Sx
open Go Go.Proofs
section
variable {GB:Gh} {ai al ae:Addr} (hE:EG GB ai al ae) {j k:Nat} {a b:Tr} (ha:TrX j a) (hb:TrX k b)
include hE ha
theorem p_REmptyV{v:Bool}(h:leafQ false a=v)(hk:j≤1000:=by decide):PF GB Tryz.prog 24 [eA a] (.tp [vB v, .v .nilIface]):=h▸p_REmpty hE ha hk
theorem p_RWholeV{v:Bool}(h:leafQ true a=v)(hk:j≤1000:=by decide):PF GB Tryz.prog 25 [eA a] (.tp [vB v, .v .nilIface]):=h▸p_RWhole hE ha hk
include hb
theorem p_REqV{v:Bool}(h:noneQ 4 a b=v)(hk:j+k≤200:=by decide):PF GB Tryz.prog 21 [eA a,eA b] (.tp [vB v, .v .nilIface]):=h▸p_REq hE ha hb hk
theorem p_RCmpV{v:Int}(h:compareQ a b=v)(hk:j+k≤200:=by decide):PF GB Tryz.prog 22 [eA a,eA b] (.tp [vI v, .v .nilIface]):=h▸p_RCmp hE ha hb hk
end
theorem leaf_x(v:Bool):TrX 0 (.leaf v):=⟨⟨⟨trivial,trivial⟩,Nat.le_refl 0,[],Nat.le_refl 0,(fun _ h=>nomatch h),trivial⟩,Nat.zero_le _⟩
section
variable {GB:Gh} {ai al ae:Addr} (hE:EG GB ai al ae)
include hE
theorem k20_e:PF GB Tryz.prog 24 [.ag [vI (-1), .sl []]] (.tp [vB true, .v .nilIface]):=p_REmptyV hE (leaf_x false) (by decide)
theorem k20_w:PF GB Tryz.prog 25 [.ag [vI (-2), .sl []]] (.tp [vB true, .v .nilIface]):=p_RWholeV hE (leaf_x true) (by decide)
theorem k20_q:PF GB Tryz.prog 21 [.ag [vI (-2), .sl []], .ag [vI (-1), .sl []]] (.tp [vB false, .v .nilIface]):=p_REqV hE (leaf_x true) (leaf_x false) (by decide)
end
theorem pairA_size{es:List Int}:(pairF es 0).1.1.size≤342:=by
 have:=region0_size (es:=es) (a:=0) (Nat.zero_le _)
 unfold pairF
 dsimp only
 repeat' split
 all_goals exact this
theorem q_known20{GB:Gh}{ai al ae:Addr}(hE:EG GB ai al ae):PF GB Tryz.prog 23 [] (.v (.bool true)):=by
 refine fn Tryz.func23 rfl rfl Tryz.ntmps23 rfl rfl (fun C=>?_)
 refine cl (fu:=⟨4⟩) rfl (k20_e hE) rfl<|?_
 refine kbT 1 rfl ?_
 refine gx rfl<|cl (fu:=⟨4⟩) rfl (k20_w hE) rfl<|?_
 refine kbT 3 rfl ?_
 refine gx rfl<|cl (fu:=⟨4⟩) rfl (k20_q hE) rfl<|?_
 refine kbF 5 rfl ?_
 refine gx rfl<|?_
 exact rz rfl rfl
theorem q_pairM{GB:Gh}{b:Nat}{es:List Int}(hes:es.length≤400){A B:Tr}{c:Nat}(hA:A=(pairF es 0).1.1)(hB:B=(pairF es 0).1.2)(hc:c=(pairF es 0).2):PM GB Tryz.prog 19 (mkP [none] b) b 89 [.sl (es.map vI), .v (.int .i64 (0:Nat))] (.tp [eT A,eT B]) [.sl (es.map vI), .v (.int .i64 (c:Nat))]:=by
 subst hA hB hc;exact q_pair hes (Nat.zero_le _)
set_option maxHeartbeats 4000000 in
theorem q_RelateForms{GB:Gh}{ai al ae:Addr}(hE:EG GB ai al ae){es0:List Int}(hb:es0.length≤1125899906842624):PF GB Tryz.prog 4 [.sl (es0.map vI)] (.v (.bool true)):=by
 obtain⟨es,hee⟩: ∃es,es=es0.take 400:=⟨_,rfl⟩
 have hes:es.length≤400:=by rw[hee];simp;omega
 obtain⟨hA,hB,hab⟩:=pairF_ok (es:=es) (Nat.zero_le es.length)
 have hs0:=pairA_size (es:=es)
 obtain⟨A,hAe⟩: ∃A,A=(pairF es 0).1.1:=⟨_,rfl⟩
 obtain⟨B,hBe⟩: ∃B,B=(pairF es 0).1.2:=⟨_,rfl⟩
 rw[←hAe] at hA hs0
 rw[←hBe] at hB
 obtain⟨c1,hc1⟩: ∃c,c=(pairF es 0).2:=⟨_,rfl⟩
 rw[←hc1] at hab
 obtain⟨l,hle⟩: ∃l,l=(lF es c1).1:=⟨_,rfl⟩
 have hl:=(lF_ok hab).1
 rw[←hle] at hl
 have hZ:=hA.above (by omega) hl
 have hz:=above_equal hl.ok hA.ok
 have hzc:=above_compare hl.ok hA.ok hB.ok
 refine fn Tryz.func4 rfl rfl Tryz.ntmps4 rfl rfl (fun C=>?_)
 refine cn rfl ((q_NewT hb hee)) (fun _=>rfl) (fun _=>?_)
 refine cm rfl (fun b=>(q_pairM hes hAe hBe hc1)) rfl<|cl rfl (q_WriteX hA) rfl<|cl rfl (q_WriteX hB) rfl<|cm (fu:=⟨0⟩) rfl (fun b=>(q_LT hes hab)) rfl<|?_
 refine eqF 27 (.d (eL l)) rfl (by rw[hle]) ?_
 refine gx (fu:=⟨3⟩) rfl<|bxf rfl rfl<|cl rfl (q_WriteX hZ) rfl<|cl (fu:=⟨4⟩) rfl (p_REqV hE hA hZ hz) rfl<|?_
 refine kbT 9 rfl ?_
 refine gx rfl<|cl rfl (p_RCmpV hE hA hB rfl) rfl<|cl rfl (p_RCmpV hE hZ hB hzc) rfl<|cl (fu:=⟨0⟩) rfl (q_known20 hE) rfl<|knT (fu:=⟨17⟩) rfl rfl rfl<|knT rfl (by show some (decide _)=some true;rw[decide_eq_true rfl]) rfl<|?_
 exact rz rfl rfl
end Go.Sx
end

section
set_option maxRecDepth 100000
namespace Go.Sx
open Go Go.Proofs Go.ChangeShapes Go.WideShapes Go.ChangeAt Go.RowKit
def GW(w:World):Gh:=fun b=>match w.heap[b]? with|some (.cells cs _ _)=>some cs.toList|_=>none
theorem GW.sub{w:World}{b:Nat}{cs:List Value}(h:GW w b=some cs): ∃ty fz,w.heap[b]? =some (.cells ⟨cs⟩ ty fz):=by
 unfold GW at h
 split at h
 ·rename_i c t f e
  cases h
  exact⟨t,f,by rw[e]⟩
 ·cases h
theorem GW.of_cell{w:World}{b off:Nat}{v:Value}(h:w.cell? ⟨b,off,none⟩=some v): ∃cs,GW w b=some cs∧cs[off]? =some v:=by
 unfold World.cell? at h
 unfold GW
 split at h
 ·rename_i c t f e
  simp only at e
  refine⟨c.toList,by rw[e],?_⟩
  simpa using h
 all_goals first|(rename_i e;cases h)|cases h
theorem HRel.below{w w':World}{G G':Gh}{own:List Own}(h:HRel ⟨w,G,[]⟩ own G' w'):Below w.heap.size w w':=
 ⟨h.os,h.tape,h.output,h.size,fun k hk=>h.keep k hk (by simp)⟩
theorem isLs_vI{G:Gh}: ∀es:List Int,IsLs G (es.map vI) (es.map fun n=>Value.int .i64 n)
 |[]=> .nil
 |n::t=> .cons (is_v.2 rfl) (isLs_vI t)
theorem open_vI{base:Nat}{H:Type}{enc:TypeId×Value→H}{P:Program}{w:World}{t e:TypeId}{v:Value}{d:DataW H}{ps:List MemPlace}(ht:P.underlying t=some (.slice e))(he:P.underlying e=some (.int .i64))(hc:P.cellsOf e=1)
  (hv:Value.okWide P w .any base t v)(h:DataW.Trod enc P w 0 (fun _=>true) true t v d ps):
  ∃es:List Int,Is (GW w) (.sl (es.map vI)) v∧(d= .nil∧es=[]∨ ∃sp,d= .slice (lits .i64 es) sp)∧(∀n∈es,(Lit.int .i64 n).wf=true):=by
 obtain⟨a0,len,cap,rfl⟩:=okWide_slice ht hv
 obtain⟨fuel,hf⟩:=h
 rcases open_ints ht he hc hf with⟨hcs,hx⟩|⟨a,len',cap',zs,hcs,_,hl,hm,hz,hx,hcell,hwz⟩
 ·simp[Value.cells] at hcs
  obtain⟨rfl,rfl,rfl⟩:=hcs
  simp only[Prod.mk.injEq] at hx
  exact⟨[],is_sl.2 ⟨0,⟨none,0,0⟩,[],rfl,IsSl.nil _ 0, .nil⟩, .inl ⟨hx.1,rfl⟩,by simp⟩
 ·simp[Value.cells] at hcs
  obtain⟨rfl,rfl,rfl⟩:=hcs
  simp only[Prod.mk.injEq] at hx
  simp only[if_true] at hz
  refine⟨zs.take len,is_sl.2 ⟨1,⟨some a,len,cap⟩,(zs.take len).map fun n=>Value.int .i64 n,rfl,⟨by simp;omega,hl,?_⟩,isLs_vI _⟩, .inr ⟨_,hx.1⟩,fun n hn=>hwz n (List.mem_of_mem_take hn)⟩
  by_cases h0:len=0
  ·exact .inl (by simp[h0])
  ·right
   obtain⟨b,off,spot⟩:=a
   have hspot:spot=none:=by simpa[Addr.add] using World.cell?_spot (hcell 0 (by omega))
   subst hspot
   have c0: ∀i,i<zs.length→w.cell? ⟨b,off+i,none⟩=some (.int .i64 (zs.getD i 0)):=fun i hi=>by
    have:=hcell i hi
    rwa [Go.WideShapes.add_plain] at this
   obtain⟨cs,hcs,_⟩:=GW.of_cell (by simpa using c0 0 (by omega))
   refine⟨b,off,cs,rfl,hcs,fun i hi=>?_⟩
   simp only[List.length_map,List.length_take] at hi
   obtain⟨cs',hcs',hi'⟩:=GW.of_cell (c0 i (by omega))
   rw[hcs] at hcs'
   cases hcs'
   rw[Nat.mul_one,takeL_one.2 hi']
   simp[cellsL,List.getD,List.getElem?_eq_getElem (show i<zs.length by omega)]
end Go.Sx
end

section
set_option maxRecDepth 100000
namespace Go.Sx
open Go Go.Proofs Go.ChangeShapes Go.WideShapes Go.ChangeAt Go.RowKit
inductive CSh where
 |b
 |i (k:IntKind)
 |sl (ag:Bool) (l:List CSh)
mutual
def Fit:CSh→DV→Prop
 | .b,d=> ∃b,d= .v (.bool b)
 | .i k,d=> ∃n,d= .v (.int k n)∧(Lit.int k n).wf=true
 | .sl ag l,d=> ∃m:List DV,d= .sl m∧m.length≤maxLen∧ ∀x∈m,∃ys,FitL l ys∧((ag=true∧x= .ag ys)∨(ag=false∧ys=[x]))
def FitL:List CSh→List DV→Prop
 |[],ds=>ds=[]
 |s::l,ds=> ∃d t,ds=d::t∧Fit s d∧FitL l t
end
def flatF(r:TypeId→Option (Bool×List CSh))(P:Program):List Field→Nat→Option (List CSh)
 |[],_=>some []
 |f::fs,o=>match r f.type with
  |some (_,l)=>if f.offset=o∧P.cellsOf f.type=l.length then(flatF r P fs (o+l.length)).map (l++ ·) else none
  |none=>none
def flatT(P:Program):Nat→TypeId→Option (Bool×List CSh)
 |0,_=>none
 |n+1,t=>match P.underlying t with
  |some .bool=>some (false,[.b])
  |some (.int k)=>some (false,[.i k])
  |some (.slice e)=>match flatT P n e with
   |some (a,l)=>if P.cellsOf e=l.length∧0<l.length then some (false,[.sl a l]) else none
   |none=>none
  |some (.struct fs)=>match flatF (flatT P n) P fs.toList 0 with
   |some l=>if P.cellsOf t=l.length then some (true,l) else none
   |none=>none
  |_=>none
section
variable {H:Type} {enc:TypeId×Value→H} {P:Program} {w:World}
end
def shI:List CSh:=[.b, .sl false [.i .u32]]
def shL:List CSh:=shI++(shI++shI)
theorem es_star: "*" ++ "errors.errorString" = "*errors.errorString" :=by decide
theorem es_row(u:TypeId)(h:Tryz.prog.typeName? 3 u=some "*errors.errorString"):u=374:=
 typeName_ptr_named (nm:= "errors.errorString") (by rw[es_star];kernel_rfl) (by kernel_rfl) (by decide) u (by rw[es_star];exact h)
theorem sent_of{W:World}{n:String}{g:Nat}{text:List UInt8}{r:List (String×DataW Unit)}(h:laidMet Tryz.prog ((n, .iface "*errors.errorString" (.ptr (.agg [.lit (.string text)])))::r) W)(hg:Tryz.prog.globalNamed n=some g)(ht:(Tryz.prog.globals[g]?).map (·.type)=some 32):
  ∃a,GW W g=some [.iface 374 (.pointer (some a))]:=by
 obtain⟨a,s,hv,_⟩:=laid_sentinel h hg ht Tryz.underlying32 es_row Tryz.underlying374 Tryz.underlying399 rfl rfl Tryz.underlying9 (by kernel_rfl) (by kernel_rfl)
 refine⟨a,?_⟩
 unfold World.var? at hv
 rw[hg,Option.bind_some] at hv
 unfold GW
 split at hv
 ·rename_i c t f e
  rw[e];cases hv;rfl
 ·cases hv
theorem laid_plain{W:World}{l:List (String×DataW Unit)}(h:laidMetH Tryz.prog l W)(hp:(l.all fun x=>x.2.handleName?.isNone)=true):laidMet Tryz.prog l W:=by rwa [Go.MakeChecks.laidMetH_plain _ _ _ hp] at h
end Go.Sx
end

section
set_option maxRecDepth 100000
namespace Go.Proofs.YtlnphbkcelfboaaGreatDoor.relateForms
open Go.ChangeShapes Go.WideShapes Go.ChangeAt Go.RowKit Go.Sx
theorem own:ownKnob Tryz.prog.godebug=none:=by kernel_rfl
theorem laidOut:laidOutB Tryz.prog=true:=by kernel_rfl
theorem cellsI:Tryz.prog.cellsOf 3=1:=by kernel_rfl
theorem bytesI:Tryz.prog.bytesOf 3=8:=by kernel_rfl
theorem door_met(os:Os)(args:Array Value):laidMetH Tryz.prog Rows.relateFormsRow.laid ((World.doorLaid Tryz.prog 66 os).forCall (fun _ _=>0) ⟨#[],args,[]⟩).memory:=
 laidMetH_of_parts3 (fuel:=8) (laidMet_of_run' 8 (by kernel_rfl) (by kernel_rfl)) (by kernel_rfl) (by kernel_rfl)
theorem eg_of{W:World}(h:laidMetH Tryz.prog Rows.relateFormsRow.laid W): ∃ai al ae,EG (GW W) ai al ae:=by
 have h1:=laid_plain h rfl
 obtain⟨ai,hi⟩:=sent_of (g:=0) h1 (by kernel_rfl) (by kernel_rfl)
 obtain⟨al,hl⟩:=sent_of (g:=2) h1.tail (by kernel_rfl) (by kernel_rfl)
 exact⟨ai,al,al,hi,hl⟩
theorem contract(H:Type)(enc:TypeId×Value→H)(W:World)(base:Nat)(args:Array Value)(ds gs:List (DataW H))(before:List MemPlace)
  (hval: ∀(j:Nat) t v,Tryz.f4.params[j]? =some t→args[j]? =some v→Value.okWide Tryz.prog W .any base t v)
  (hW:DataW.Whole enc Tryz.prog Tryz.f4.params.toList Rows.relateFormsSpec.vars false W args.toList ds gs before)
  (hz:(DataW.weightsEach Tryz.prog (Tryz.f4.params.toList++(OpenSpec.ofChange Rows.relateFormsSpec).bare.plain.varTypes Tryz.prog) (ds++gs)).all (· ≤reachBytes)=true)(hlaid:laidMetH Tryz.prog Rows.relateFormsRow.laid W):
  Calls Tryz.prog 4 args W fun e W'=> ∃v,e= .returned v∧Rows.relateFormsSpec.post enc Tryz.prog Tryz.f4 false true false false W args v W':=by
 have hW':=hW
 obtain⟨p,q,hA0,hV,rfl,_,_⟩:=hW
 have hA:DataW.TrodAll enc Tryz.prog W 0 (fun _=>true) true Tryz.f4.params.toList args.toList ds p:=hA0
 rw[Tryz.params4] at hA hval hz
 obtain⟨v0,d0,hargs,rfl,h0⟩:=trodAll_one hA
 obtain rfl:args= #[v0]:=by cases args;simp_all
 obtain⟨rfl,rfl⟩:=trodVars_none hV
 clear hA0
 simp only[List.append_nil] at hW'
 have hlt: ∀x∈p,x.block<W.heap.size:=fun x hx=>by simpa using hW'.lt x hx
 obtain⟨es,hI,hd,_⟩:=open_vI Tryz.underlying22 Tryz.underlying3 cellsI (hval 0 22 v0 rfl rfl) h0
 have hb:es.length≤1125899906842624:=by
  rcases hd with⟨rfl,rfl⟩|⟨sp,rfl⟩
  ·exact Nat.zero_le _
  ·have:=sized_slice hz (j:=0) (t:=22) (e:=3) rfl rfl Tryz.underlying22
   rw[bytesI] at this
   have hr:=reachBytes_lt
   have hl:(lits (H:=H) .i64 es).length=es.length:=by simp[lits]
   rw[hl] at this
   omega
 obtain⟨ai,al,ae,hE⟩:=eg_of hlaid
 have hf:=(q_RelateForms hE (es0:=es) hb) (GW W) [v0] (GLe.refl _) (.cons hI .nil)
 refine(hf.run W (fun b cs hg=>GW.sub hg)).mono fun e W' ⟨v,G',he,hr,hv⟩=>?_
 rw[is_v] at hv
 subst hv
 subst he
 have hn:=hr.below
 have t2:=trodAll_mk1 (Below.trod laidOut (by kernel_rfl) (of_decide_eq_true (by kernel_rfl)) h0 hn hlt)
 exact⟨_,rfl,⟨_,_,_,[],_,[],hW',trodAll_mk1 (shut_bool Tryz.underlying4 _),t2,rfl,hn.frame _,fun h=>by cases h⟩⟩
theorem reads(os:Os){H:Type}(enc:TypeId×Value→H): ∃places,DataW.whole enc Tryz.prog ((World.doorLaid Tryz.prog 66 os).forCall (fun _ _=>0) ⟨#[], #[.slice none 0 0],[]⟩).memory Tryz.f4.params.toList Rows.relateFormsSpec.vars false #[Value.slice none 0 0].toList 8=some ([.nil],[],places):=
 ⟨[],by kernel_rfl⟩
theorem lifted(os:Os)(started:os.Started)(H:Type)(enc:TypeId×Value→H)(F:Stop.Interp):
  ReturnsInHanded {} Tryz.checked os 4 .any ((OpenSpec.ofChange Rows.relateFormsSpec).preRow enc Tryz.prog Tryz.f4 Rows.relateFormsRow.domain false Rows.relateFormsRow.laid) (((OpenSpec.ofChange Rows.relateFormsSpec).at F).post enc Tryz.prog Tryz.f4 false true false false):=by
 obtain⟨places,hx⟩:=reads os enc
 refine returnsInHanded_of_row (C:=Tryz.checked) (s:=OpenSpec.ofChange Rows.relateFormsSpec) own started (by kernel_rfl) Tryz.func4
  (witness_row_atRef (enc:=enc) (C:=Tryz.checked) false (World.doorLaid Tryz.prog 66 os) #[.slice none 0 0] rfl (by kernel_rfl) (by kernel_rfl) (by kernel_rfl)
   (OpenSpec.preRow_of_cond 8 hx (by kernel_rfl) (fun k hk=>by cases hk) (by kernel_rfl) (door_met os _))) ?_
 intro W base args ds gs before hval hW _ _ hz hlaid _ _
 exact contract H enc W base args ds gs before hval hW hz hlaid
theorem j1:(Rows.relateFormsRow.inPlace==Tryz.pinned.checked.prog.inPlace 4)=true:=by kernel_rfl
theorem j2:(Rows.relateFormsRow.unfollowed==Tryz.pinned.checked.prog.unfollowed 4)=true:=by kernel_rfl
theorem j3:(Rows.relateFormsRow.recurses==Tryz.pinned.checked.prog.recurses 4)=true:=by kernel_rfl
theorem j4:(Rows.relateFormsRow.named==Tryz.pinned.checked.prog.varsNamed 4)=true:=by kernel_rfl
theorem j5:laidOutB Tryz.pinned.checked.prog=true:=laidOut
theorem j6:mapsRowed Tryz.pinned.checked.prog=true:=by kernel_rfl
theorem j7:Tryz.pinned.checked.prog.mainIs=some (Rows.relateFormsCard.stood.harness.1,Rows.relateFormsCard.stood.harness.2.toList):=by kernel_rfl
theorem j8:false=Rows.relateFormsRow.goesBy Tryz.pinned.checked.prog:=by kernel_rfl
theorem closed:joinedFacts Tryz.pinned.checked.prog 4 Tryz.f4 (OpenSpec.ofChange Rows.relateFormsSpec).bare Rows.relateFormsRow=true:=by
 unfold joinedFacts
 rw[j1,j2,j3,j4,j5,j6]
 kernel_rfl
theorem said:Rows.RelateFormsSaid:=
 OpenClaim.holds_of_cond 4 Tryz.f4 rfl rfl rfl rfl rfl rfl rfl ⟨rfl,rfl,rfl,rfl,rfl⟩ rfl rfl rfl rfl rfl (by kernel_rfl) Tryz.func4 closed
  (of_decide_eq_true (by kernel_rfl)) (by unfold Func.isWrapper;first|(rw[if_pos (by decide+kernel)];kernel_rfl)|(rw[if_neg (by decide+kernel)];exact⟨rfl,rfl⟩))
  (fun os started H enc _ F=>by rw[OpenClaim.pre_eq_preRow];exact lifted os started H enc F)
theorem plain(f:FuncId)(fn:Func)(hf:Tryz.pinned.checked.prog.funcNamed "bspregion/bspregionlaw20.RelateForms" =some f)(hfn:Tryz.pinned.checked.prog.funcs[f]? =some fn):
  true=Tryz.pinned.checked.prog.looks []∧ ∀(j:Nat) t,fn.params[j]? =some t→Tryz.pinned.checked.prog.wantsStandIn t=false:=by
 obtain rfl:f=4:=Option.some.inj ((show Tryz.prog.funcNamed "bspregion/bspregionlaw20.RelateForms" =some 4 by kernel_rfl).symm.trans hf) |>.symm
 obtain rfl:fn=Tryz.f4:=(Option.some.inj (Tryz.func4.symm.trans hfn)).symm
 refine⟨by kernel_rfl,fun j t ht=>?_⟩
 rw[Tryz.params4] at ht
 have hm:=Array.mem_of_getElem? ht
 simp only[List.mem_toArray,List.mem_cons,List.not_mem_nil,or_false] at hm
 subst hm
 exact(show Tryz.prog.wantsStandIn 22=false by kernel_rfl)
theorem card:Rows.RelateFormsCardSaid:=
 Claim7.holds_tied_plain_at .later [] _ _ _ _ said (fun _ h=>by cases h) (by kernel_rfl) (fun _ h=>by cases h) relateForms_row_tie rfl ⟨rfl,rfl⟩ j7 rfl plain j8
#print axioms card
end Go.Proofs.YtlnphbkcelfboaaGreatDoor.relateForms
end
