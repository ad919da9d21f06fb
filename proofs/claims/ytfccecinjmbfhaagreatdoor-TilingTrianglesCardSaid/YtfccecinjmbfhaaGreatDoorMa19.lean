/- Part 19 of a proof. -/
import Derived.Test.YtfccecinjmbfhaaGreatDoorMa18
import Derived.Test.YtfccecinjmbfhaaGreatDoorCards
import Derived.Test.YtfccecinjmbfhaaGreatDoorTie
import Derived.WalkKit
import Derived.ProofKit
import Derived.OpenShut
import Derived.Deep.DeepHandedRow
import Derived.Deep.DeepWitnessRowRef
import Derived.LaidMore
import Derived.Lib.LaidTab
import Derived.SizedLaws
import Derived.Stop.LaidErr
import Derived.MakeChecks
set_option linter.unusedSimpArgs false
set_option maxHeartbeats 4000000
set_option maxRecDepth 100000
set_option linter.unusedVariables false
section
namespace Go.Sx
open Go Go.Proofs Tryz
variable {GB:Gh}
def triA:List ZP:=[(0,0),(1,0),(0,1)]
theorem triA_ok:aaT triA:=⟨by decide,by decide,fun p hp=>by
 unfold triA at hp
 simp only[aS,iU,or_false] at hp
 rcases hp with rfl|rfl|rfl<;>exact⟨by decide,by decide⟩,by decide⟩
theorem triA_all: ∀r∈[triA],aaT r:=fun r hr=>by rw[aY] at hr;subst hr;exact triA_ok
theorem triA_len:(awp (akw (aaY (ada [triA] 2) []))).map List.length=[3]:=by decide+kernel
theorem triA_tri: ∃a b c:PtQ,[[a,b,c]]=(aaS (ada [triA] 2)).flatMap ams:=by
 have h:=al7 (fill:=2) triA_all (by decide)
 rw[←aj5 h.gd.ok]
 have e:=triA_len
 generalize awp (akw (aaY (ada [triA] 2) []))=l at*
 match l,e with
 |[[a,b,c]],_=>exact⟨a,b,c,rfl⟩
theorem tri_x:TrX 12 (ada [triA] 2):=(al7 triA_all (by decide)).x (aiw _ _) (by decide)
theorem tri_bnd:(aaS (ada [triA] 2)).all agQ=true:=asr tri_x.ok (asE triA_all)
theorem q_Region1{b:Nat}{es:List Int}(hes:es.length≤400){A:Tr}(hA:A=(aao es 1 0).1):PM GB prog 12 (mkP [none,some (vI 1)] b) b 104 [.sl (es.map vI), .v (.int .i64 (0:Nat))] (eT A) [.sl (es.map vI), .v (.int .i64 ((aao es 1 0).2:Nat))]:=by
 subst hA;exact as7 hes (aR _) (d:=1) (by decide)
theorem q_known30{ai al ae au:Addr}(hE:EGU GB ai al ae au):PF GB prog 16 [] (.v (.bool true)):=by
 obtain⟨a,b,c,hts⟩:=triA_tri
 have htb:=aq7 tri_x (by decide)
 rw[←hts] at htb
 refine fn func16 J J ntmps16 J J (fun C=>?_)
 refine cl rfl (anF (by omega) (by omega)) rfl<|cl rfl (anF (by omega) (by omega)) rfl<|cl rfl (anF (by omega) (by omega)) rfl<|rf J J<|?_
 refine cl rfl (atM (ps:=[iP 0 0,iP 1 0,iP 0 1]) (fun p hp=>by
  simp only[aS,iU,or_false] at hp
  rcases hp with rfl|rfl|rfl<;>exact⟨BQ.int1200 (by decide),BQ.int1200 (by decide)⟩) (by decide)) rfl<|?_
 refine rf J J<|cl rfl (as5 (rs:=[triA]) (fill:=2) triA_all (by decide)) rfl<|cl rfl (arI (rs:=[triA]) (fill:=2) triA_all (by decide)) rfl<|?_
 refine cl rfl (apU tri_x) rfl<|cl (fu:=⟨14⟩) rfl (auj hE tri_x (by decide) (Tr.red_restrict (aiw _ _)) tri_bnd (ts:=[[a,b,c]]) hts (fun r hr=>⟨(htb.2 r hr).1,by rw[(htb.2 r hr).2];decide⟩) (by simp)) rfl<|?_
 refine eqF 22 (.d (vI 1)) J J ?_
 refine gx (fu:=⟨0⟩) rfl<|knT J J J<|ix (fu:=⟨2⟩) _ rfl (aEw (show [[a,b,c]][0]? =some [a,b,c] from rfl)) rfl<|?_
 refine eqF 29 (.d (vI 3)) J J ?_
 refine gx (fu:=⟨0⟩) rfl<|knT J J J<|?_
 exact rz J J
theorem q_TilingTriangles{ai al ae au:Addr}(hE:EGU GB ai al ae au){es0:List Int}(hb:es0.length≤1125899906842624):PF GB prog 3 [.sl (es0.map vI)] (.v (.bool true)):=by
 obtain⟨es,hee⟩: ∃es,es=es0.take 400:=⟨_,rfl⟩
 have hes:es.length≤400:=by rw[hee];simp;omega
 obtain⟨A,hAe⟩: ∃A,A=(aao es 1 0).1:=⟨_,rfl⟩
 obtain⟨hA,_,hr⟩:=aqO (es:=es) (a:=0) (aR _)
 rw[←hAe] at hA hr
 have htb:=aq7 hA (by decide)
 refine fn func3 J J ntmps3 J J (fun C=>?_)
 refine cn rfl ((aBd hb hee)) (fun _=>rfl) (fun _=>?_)
 refine cm rfl (fun b=>(q_Region1 hes hAe)) rfl<|cl rfl (apU hA) rfl<|?_
 cases hbd:(aaS A).all agQ
 ·
  refine cl rfl (ayJ hE hA (by decide) hr hbd) rfl<|cl (fu:=⟨0⟩) rfl (axs hA (by decide)) rfl<|?_
  refine eqF 16 (.d (vB false)) rfl (by rw[hbd]) ?_
  refine kbF 16 rfl ?_
  refine gx rfl<|cl (fu:=⟨0⟩) rfl (q_known30 hE) rfl<|?_
  refine kbT 18 rfl ?_
  refine gx rfl<|gl rfl hE.ErrUnbounded rfl<|cl (fu:=⟨0⟩) rfl aEm rfl<|?_
  refine kbT 22 rfl ?_
  refine gx rfl<|?_
  exact rz J J
 ·
  refine cl rfl (auj hE hA (by decide) hr hbd (ts:=(aaS A).flatMap ams) rfl (fun r hr=>⟨(htb.2 r hr).1,by rw[(htb.2 r hr).2];decide⟩) (by omega)) rfl<|?_
  refine cl (fu:=⟨0⟩) rfl (axs hA (by decide)) rfl<|?_
  refine eqF 16 (.d (vB true)) rfl (by rw[hbd]) ?_
  refine kbT 16 rfl ?_
  refine gx rfl<|cl (fu:=⟨0⟩) rfl (q_known30 hE) rfl<|?_
  refine kbT 29 rfl ?_
  refine gx rfl<|cl rfl (aAO hA (by decide) hr (ts:=(aaS A).flatMap ams) rfl) rfl<|cl rfl (av3 (ts:=(aaS A).flatMap ams) htb.2 (by omega)) rfl<|?_
  exact rz J J
end Go.Sx
end
section
namespace Go.Sx
open Go Go.Proofs Go.ChangeShapes Go.WideShapes Go.ChangeAt Go.RowKit
def GW(w:World):Gh:=fun b=>match w.heap[b]? with|some (.cells cs _ _)=>some cs.toList|_=>none
theorem GW.sub{w:World}{b:Nat}{cs:List Value}(h:GW w b=some cs): ∃ty fz,w.heap[b]? =some (.cells ⟨cs⟩ ty fz):=by
 unfold GW at h
 split at h
 ·rename_i c t f e
  cases h
  exact⟨t,f,by rw[e]⟩
 ·cases h
theorem GW.of_cell{w:World}{b off:Nat}{v:Value}(h:w.cell? ⟨b,off,none⟩=some v): ∃cs,GW w b=some cs∧cs[off]? =some v:=by
 unfold World.cell? at h
 unfold GW
 split at h
 ·rename_i c t f e
  simp only at e
  refine⟨c.toList,by rw[e],?_⟩
  simpa using h
 all_goals first|(rename_i e;cases h)|cases h
theorem ab2.below{w w':World}{G G':Gh}{own:List Own}(h:ab2 ⟨w,G,[]⟩ own G' w'):Below w.heap.size w w':=
 ⟨h.os,h.tape,h.output,h.size,fun k hk=>h.keep k hk (by simp)⟩
theorem isLs_vI{G:Gh}: ∀es:List Int,IsLs G (es.map vI) (es.map fun n=>Value.int .i64 n)
 |[]=> .nil
 |n::t=> .cons (aa2.2 rfl) (isLs_vI t)
theorem open_vI{base:Nat}{H:Type}{enc:TypeId×Value→H}{P:Program}{w:World}{t e:TypeId}{v:Value}{d:DataW H}{ps:List MemPlace}(ht:P.underlying t=some (.slice e))(he:P.underlying e=some (.int .i64))(hc:P.cellsOf e=1)
  (hv:Value.okWide P w .any base t v)(h:DataW.Trod enc P w 0 (fun _=>true) true t v d ps):
  ∃es:List Int,Is (GW w) (.sl (es.map vI)) v∧(d= .nil∧es=[]∨ ∃sp,d= .slice (lits .i64 es) sp)∧(∀n∈es,(Lit.int .i64 n).wf=true):=by
 obtain⟨a0,len,cap,rfl⟩:=okWide_slice ht hv
 obtain⟨fuel,hf⟩:=h
 rcases open_ints ht he hc hf with⟨hcs,hx⟩|⟨a,len',cap',zs,hcs,_,hl,hm,hz,hx,hcell,hwz⟩
 ·simp[Value.cells] at hcs
  obtain⟨rfl,rfl,rfl⟩:=hcs
  simp only[Prod.mk.injEq] at hx
  exact⟨[],adH.2 ⟨0,⟨none,0,0⟩,[],rfl,afb.nil _ 0, .nil⟩, .inl ⟨hx.1,rfl⟩,by simp⟩
 ·simp[Value.cells] at hcs
  obtain⟨rfl,rfl,rfl⟩:=hcs
  simp only[Prod.mk.injEq] at hx
  simp only[if_true] at hz
  refine⟨zs.take len,adH.2 ⟨1,⟨some a,len,cap⟩,(zs.take len).map fun n=>Value.int .i64 n,rfl,⟨by simp;omega,hl,?_⟩,isLs_vI _⟩, .inr ⟨_,hx.1⟩,fun n hn=>hwz n (eJ hn)⟩
  by_cases h0:len=0
  ·exact .inl (by simp[h0])
  ·right
   obtain⟨b,off,spot⟩:=a
   have hspot:spot=none:=by simpa[Addr.add] using World.cell?_spot (hcell 0 (by omega))
   subst hspot
   have c0: ∀i,i<zs.length→w.cell? ⟨b,off+i,none⟩=some (.int .i64 (zs.getD i 0)):=fun i hi=>by
    have:=hcell i hi
    rwa [Go.WideShapes.add_plain] at this
   obtain⟨cs,hcs,_⟩:=GW.of_cell (by have h9:=c0 0 (by omega);rw[dT] at h9;exact h9)
   refine⟨b,off,cs,rfl,hcs,fun i hi=>?_⟩
   simp only[aJ,cK] at hi
   obtain⟨cs',hcs',hi'⟩:=GW.of_cell (c0 i (by omega))
   rw[hcs] at hcs'
   cases hcs'
   rw[gR,asP.2 hi']
   simp[aae,List.getD,aQ (show i<zs.length by omega)]
inductive CSh where
 |b
 |i (k:IntKind)
 |sl (ag:Bool) (l:List CSh)
mutual
def Fit:CSh→DV→Prop
 | .b,d=> ∃b,d= .v (.bool b)
 | .i k,d=> ∃n,d= .v (.int k n)∧(Lit.int k n).wf=true
 | .sl ag l,d=> ∃m:List DV,d= .sl m∧m.length≤maxLen∧ ∀x∈m,∃ys,FitL l ys∧((ag=true∧x= .ag ys)∨(ag=false∧ys=[x]))
def FitL:List CSh→List DV→Prop
 |[],ds=>ds=[]
 |s::l,ds=> ∃d t,ds=d::t∧Fit s d∧FitL l t
end
def flatF(r:TypeId→Option (Bool×List CSh))(P:Program):List Field→Nat→Option (List CSh)
 |[],_=>some []
 |f::fs,o=>match r f.type with
  |some (_,l)=>if f.offset=o∧P.cellsOf f.type=l.length then(flatF r P fs (o+l.length)).map (l++ ·) else none
  |none=>none
def flatT(P:Program):Nat→TypeId→Option (Bool×List CSh)
 |0,_=>none
 |n+1,t=>match P.underlying t with
  |some .bool=>some (false,[.b])
  |some (.int k)=>some (false,[.i k])
  |some (.slice e)=>match flatT P n e with
   |some (a,l)=>if P.cellsOf e=l.length∧0<l.length then some (false,[.sl a l]) else none
   |none=>none
  |some (.struct fs)=>match flatF (flatT P n) P fs.toList 0 with
   |some l=>if P.cellsOf t=l.length then some (true,l) else none
   |none=>none
  |_=>none
section
variable {H:Type} {enc:TypeId×Value→H} {P:Program} {w:World}
end
def shI:List CSh:=[.b, .sl false [.i .u32]]
def shL:List CSh:=shI++(shI++shI)
theorem es_star: "*" ++ "errors.errorString" = "*errors.errorString" :=by decide
theorem es_row(u:TypeId)(h:Tryz.prog.typeName? 3 u=some "*errors.errorString"):u=427:=
 typeName_ptr_named (nm:= "errors.errorString") (by rw[es_star];kernel_rfl) (by kernel_rfl) (by decide) u (by rw[es_star];exact h)
theorem sent_of{W:World}{n:String}{g:Nat}{text:List UInt8}{r:List (String×DataW Unit)}(h:laidMet Tryz.prog ((n, .iface "*errors.errorString" (.ptr (.agg [.lit (.string text)])))::r) W)(hg:Tryz.prog.globalNamed n=some g)(ht:(Tryz.prog.globals[g]?).map (·.type)=some 29):
  ∃a,GW W g=some [.iface 427 (.pointer (some a))]:=by
 obtain⟨a,s,hv,_⟩:=laid_sentinel h hg ht Tryz.underlying29 es_row Tryz.underlying427 Tryz.underlying452 rfl rfl Tryz.underlying9 (by kernel_rfl) (by kernel_rfl)
 refine⟨a,?_⟩
 unfold World.var? at hv
 rw[hg,Option.bind_some] at hv
 unfold GW
 split at hv
 ·rename_i c t f e
  rw[e];cases hv;rfl
 ·cases hv
theorem laid_plain{W:World}{l:List (String×DataW Unit)}(h:laidMetH Tryz.prog l W)(hp:(l.all fun x=>x.2.handleName?.isNone)=true):laidMet Tryz.prog l W:=by rwa [Go.MakeChecks.laidMetH_plain _ _ _ hp] at h
end Go.Sx
end
section
namespace Go.Proofs.YtfccecinjmbfhaaGreatDoor.tilingTriangles
open Go.ChangeShapes Go.WideShapes Go.ChangeAt Go.RowKit Go.Sx
theorem own:ownKnob Tryz.prog.godebug=none:=by kernel_rfl
theorem laidOut:laidOutB Tryz.prog=true:=by kernel_rfl
theorem cellsI:Tryz.prog.cellsOf 3=1:=by kernel_rfl
theorem bytesI:Tryz.prog.bytesOf 3=8:=by kernel_rfl
theorem door_met(os:Os)(args:Array Value):laidMetH Tryz.prog Rows.tilingTrianglesRow.laid ((World.doorLaid Tryz.prog 104 os).forCall (fun _ _=>0) ⟨#[],args,[]⟩).memory:=
 laidMetH_of_parts3 (fuel:=8) (laidMet_of_run' 8 (by kernel_rfl) (by kernel_rfl)) (by kernel_rfl) (by kernel_rfl)
theorem eg_of{W:World}(h:laidMetH Tryz.prog Rows.tilingTrianglesRow.laid W): ∃ai al ae au,EGU (GW W) ai al ae au:=by
 have h1:=laid_plain h rfl
 obtain⟨ai,hi⟩:=sent_of (g:=3) h1 (by kernel_rfl) (by kernel_rfl)
 obtain⟨au,hu⟩:=sent_of (g:=0) h1.tail (by kernel_rfl) (by kernel_rfl)
 obtain⟨al,hl⟩:=sent_of (g:=4) h1.tail.tail (by kernel_rfl) (by kernel_rfl)
 exact⟨ai,al,al,au,⟨hi,hl⟩,hu⟩
theorem contract(H:Type)(enc:TypeId×Value→H)(W:World)(base:Nat)(args:Array Value)(ds gs:List (DataW H))(before:List MemPlace)
  (hval: ∀(j:Nat) t v,Tryz.f3.params[j]? =some t→args[j]? =some v→Value.okWide Tryz.prog W .any base t v)
  (hW:DataW.Whole enc Tryz.prog Tryz.f3.params.toList Rows.tilingTrianglesSpec.vars false W args.toList ds gs before)
  (hz:(DataW.weightsEach Tryz.prog (Tryz.f3.params.toList++(OpenSpec.ofChange Rows.tilingTrianglesSpec).bare.plain.varTypes Tryz.prog) (ds++gs)).all (· ≤reachBytes)=true)(hlaid:laidMetH Tryz.prog Rows.tilingTrianglesRow.laid W):
  Calls Tryz.prog 3 args W fun e W'=> ∃v,e= .returned v∧Rows.tilingTrianglesSpec.post enc Tryz.prog Tryz.f3 false true false false W args v W':=by
 have hW':=hW
 obtain⟨p,q,hA0,hV,rfl,_,_⟩:=hW
 have hA:DataW.TrodAll enc Tryz.prog W 0 (fun _=>true) true Tryz.f3.params.toList args.toList ds p:=hA0
 rw[Tryz.params3] at hA hval hz
 obtain⟨v0,d0,hargs,rfl,h0⟩:=trodAll_one hA
 obtain rfl:args= #[v0]:=by cases args;simp_all
 obtain⟨rfl,rfl⟩:=trodVars_none hV
 clear hA0
 simp only[List.append_nil] at hW'
 have hlt: ∀x∈p,x.block<W.heap.size:=fun x hx=>by simpa using hW'.lt x hx
 obtain⟨es,hI,hd,_⟩:=open_vI Tryz.underlying22 Tryz.underlying3 cellsI (hval 0 22 v0 rfl rfl) h0
 have hb:es.length≤1125899906842624:=by
  rcases hd with⟨rfl,rfl⟩|⟨sp,rfl⟩
  ·exact Nat.zero_le _
  ·have:=sized_slice hz (j:=0) (t:=22) (e:=3) J J Tryz.underlying22
   rw[bytesI] at this
   have hr:=reachBytes_lt
   have hl:(lits (H:=H) .i64 es).length=es.length:=by simp[lits]
   rw[hl] at this
   omega
 obtain⟨ai,al,ae,au,hE⟩:=eg_of hlaid
 have hf:=(q_TilingTriangles hE (es0:=es) hb) (GW W) [v0] (GLe.refl _) (.cons hI .nil)
 refine(hf.run W (fun b cs hg=>GW.sub hg)).mono fun e W' ⟨v,G',he,hr,hv⟩=>?_
 rw[aa2] at hv
 subst hv
 subst he
 have hn:=hr.below
 have t2:=trodAll_mk1 (Below.trod laidOut (by kernel_rfl) (of_decide_eq_true (by kernel_rfl)) h0 hn hlt)
 exact⟨_,rfl,⟨_,_,_,[],_,[],hW',trodAll_mk1 (shut_bool Tryz.underlying4 _),t2,rfl,hn.frame _,fun h=>by cases h⟩⟩
theorem reads(os:Os){H:Type}(enc:TypeId×Value→H): ∃places,DataW.whole enc Tryz.prog ((World.doorLaid Tryz.prog 104 os).forCall (fun _ _=>0) ⟨#[], #[.slice none 0 0],[]⟩).memory Tryz.f3.params.toList Rows.tilingTrianglesSpec.vars false #[Value.slice none 0 0].toList 8=some ([.nil],[],places):=
 ⟨[],by kernel_rfl⟩
theorem lifted(os:Os)(started:os.Started)(H:Type)(enc:TypeId×Value→H)(F:Stop.Interp):
  ReturnsInHanded {} Tryz.checked os 3 .any ((OpenSpec.ofChange Rows.tilingTrianglesSpec).preRow enc Tryz.prog Tryz.f3 Rows.tilingTrianglesRow.domain false Rows.tilingTrianglesRow.laid) (((OpenSpec.ofChange Rows.tilingTrianglesSpec).at F).post enc Tryz.prog Tryz.f3 false true false false):=by
 obtain⟨places,hx⟩:=reads os enc
 refine returnsInHanded_of_row (C:=Tryz.checked) (s:=OpenSpec.ofChange Rows.tilingTrianglesSpec) own started (by kernel_rfl) Tryz.func3
  (witness_row_atRef (enc:=enc) (C:=Tryz.checked) false (World.doorLaid Tryz.prog 104 os) #[.slice none 0 0] rfl (by kernel_rfl) (by kernel_rfl) (by kernel_rfl)
   (OpenSpec.preRow_of_cond 8 hx (by kernel_rfl) (fun k hk=>by cases hk) (by kernel_rfl) (door_met os _))) ?_
 intro W base args ds gs before hval hW _ _ hz hlaid _ _
 exact contract H enc W base args ds gs before hval hW hz hlaid
theorem j1:(Rows.tilingTrianglesRow.inPlace==Tryz.pinned.checked.prog.inPlace 3)=true:=by kernel_rfl
theorem j2:(Rows.tilingTrianglesRow.unfollowed==Tryz.pinned.checked.prog.unfollowed 3)=true:=by kernel_rfl
theorem j3:(Rows.tilingTrianglesRow.recurses==Tryz.pinned.checked.prog.recurses 3)=true:=by kernel_rfl
theorem j4:(Rows.tilingTrianglesRow.named==Tryz.pinned.checked.prog.varsNamed 3)=true:=by kernel_rfl
theorem j5:laidOutB Tryz.pinned.checked.prog=true:=laidOut
theorem j6:mapsRowed Tryz.pinned.checked.prog=true:=by kernel_rfl
theorem j7:Tryz.pinned.checked.prog.mainIs=some (Rows.tilingTrianglesCard.stood.harness.1,Rows.tilingTrianglesCard.stood.harness.2.toList):=by kernel_rfl
theorem j8:false=Rows.tilingTrianglesRow.goesBy Tryz.pinned.checked.prog:=by kernel_rfl
theorem closed:joinedFacts Tryz.pinned.checked.prog 3 Tryz.f3 (OpenSpec.ofChange Rows.tilingTrianglesSpec).bare Rows.tilingTrianglesRow=true:=by
 unfold joinedFacts
 rw[j1,j2,j3,j4,j5,j6]
 kernel_rfl
theorem said:Rows.TilingTrianglesSaid:=
 OpenClaim.holds_of_cond 3 Tryz.f3 J J J J J J J ⟨rfl,rfl,rfl,rfl,rfl⟩ J J J J J (by kernel_rfl) Tryz.func3 closed
  (of_decide_eq_true (by kernel_rfl)) (by unfold Func.isWrapper;first|(rw[if_pos (by decide+kernel)];kernel_rfl)|(rw[if_neg (by decide+kernel)];exact⟨rfl,rfl⟩))
  (fun os started H enc _ F=>by rw[OpenClaim.pre_eq_preRow];exact lifted os started H enc F)
theorem plain(f:FuncId)(fn:Func)(hf:Tryz.pinned.checked.prog.funcNamed "bspregion/bspregionlaw30.TilingTriangles" =some f)(hfn:Tryz.pinned.checked.prog.funcs[f]? =some fn):
  true=Tryz.pinned.checked.prog.looks []∧ ∀(j:Nat) t,fn.params[j]? =some t→Tryz.pinned.checked.prog.wantsStandIn t=false:=by
 obtain rfl:f=3:=Option.some.inj ((show Tryz.prog.funcNamed "bspregion/bspregionlaw30.TilingTriangles" =some 3 by kernel_rfl).symm.trans hf) |>.symm
 obtain rfl:fn=Tryz.f3:=(Option.some.inj (Tryz.func3.symm.trans hfn)).symm
 refine⟨by kernel_rfl,fun j t ht=>?_⟩
 rw[Tryz.params3] at ht
 have hm:=Array.mem_of_getElem? ht
 simp only[List.mem_toArray,List.mem_cons,List.not_mem_nil,or_false] at hm
 subst hm
 exact(show Tryz.prog.wantsStandIn 22=false by kernel_rfl)
theorem card:Rows.TilingTrianglesCardSaid:=
 Claim7.holds_tied_plain_at .later [] _ _ _ _ said (fun _ h=>by cases h) (by kernel_rfl) (fun _ h=>by cases h) tilingTriangles_row_tie rfl ⟨rfl,rfl⟩ j7 rfl plain j8
#print axioms card
end Go.Proofs.YtfccecinjmbfhaaGreatDoor.tilingTriangles
end
