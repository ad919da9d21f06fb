import Derived.Test.YtidmgdlbilojcaaGreatDoorMc19
set_option linter.unusedSimpArgs false
set_option maxRecDepth 100000
set_option linter.unusedVariables false
section
namespace Go.Proofs.YtidmgdlbilojcaaGreatDoor.measureCells
open Go.ChangeShapes Go.WideShapes Go.ChangeAt Go.RowKit Go.Sx
theorem own:ownKnob Tryz.prog.godebug=none:=by kernel_rfl
theorem laidOut:laidOutB Tryz.prog=true:=by kernel_rfl
theorem cellsI:Tryz.prog.cellsOf 3=1:=by kernel_rfl
theorem bytesI:Tryz.prog.bytesOf 3=8:=by kernel_rfl
theorem door_met(os:Os)(args:Array Value):laidMetH Tryz.prog Rows.measureCellsRow.laid ((World.doorLaid Tryz.prog 104 os).forCall (fun _ _=>0) ⟨#[],args,[]⟩).memory:=
 laidMetH_of_parts3 (fuel:=8) (laidMet_of_run' 8 (by kernel_rfl) (by kernel_rfl)) (by kernel_rfl) (by kernel_rfl)
theorem eg_of{W:World}(h:laidMetH Tryz.prog Rows.measureCellsRow.laid W): ∃ai al ae au,EGV (GW W) ai al ae au:=by
 have h1:=ary h rfl
 obtain⟨ai,hi⟩:=alh (g:=2) h1 (by kernel_rfl) (by kernel_rfl)
 obtain⟨au,hu⟩:=alh (g:=1) h1.tail (by kernel_rfl) (by kernel_rfl)
 obtain⟨ae,he⟩:=alh (g:=0) h1.tail.tail (by kernel_rfl) (by kernel_rfl)
 obtain⟨al,hl⟩:=alh (g:=4) h1.tail.tail.tail (by kernel_rfl) (by kernel_rfl)
 exact⟨ai,al,ae,au,⟨⟨hi,hl⟩,hu⟩,he⟩
theorem contract(H:Type)(enc:TypeId×Value→H)(W:World)(base:Nat)(args:Array Value)(ds gs:List (DataW H))(before:List MemPlace)
  (hval: ∀(j:Nat) t v,Tryz.f3.params[j]? =some t→args[j]? =some v→Value.okWide Tryz.prog W .any base t v)
  (hW:DataW.Whole enc Tryz.prog Tryz.f3.params.toList Rows.measureCellsSpec.vars false W args.toList ds gs before)
  (hz:(DataW.weightsEach Tryz.prog (Tryz.f3.params.toList++(OpenSpec.ofChange Rows.measureCellsSpec).bare.plain.varTypes Tryz.prog) (ds++gs)).all (· ≤reachBytes)=true)(hlaid:laidMetH Tryz.prog Rows.measureCellsRow.laid W):
  Calls Tryz.prog 3 args W fun e W'=> ∃v,e= .returned v∧Rows.measureCellsSpec.post enc Tryz.prog Tryz.f3 false true false false W args v W':=by
 have hW':=hW
 obtain⟨p,q,hA0,hV,rfl,_,_⟩:=hW
 have hA:DataW.TrodAll enc Tryz.prog W 0 (fun _=>true) true Tryz.f3.params.toList args.toList ds p:=hA0
 rw[Tryz.params3] at hA hval hz
 obtain⟨v0,d0,hargs,rfl,h0⟩:=trodAll_one hA
 obtain rfl:args= #[v0]:=by cases args;simp_all
 obtain⟨rfl,rfl⟩:=trodVars_none hV
 clear hA0
 simp only[List.append_nil] at hW'
 have hlt: ∀x∈p,x.block<W.heap.size:=fun x hx=>by simpa using hW'.lt x hx
 obtain⟨es,hI,hd,_⟩:=aA1 Tryz.underlying22 Tryz.underlying3 cellsI (hval 0 22 v0 rfl rfl) h0
 have hb:es.length≤1125899906842624:=by
  rcases hd with⟨rfl,rfl⟩|⟨sp,rfl⟩
  ·exact Nat.zero_le _
  ·have:=sized_slice hz (j:=0) (t:=22) (e:=3) J J Tryz.underlying22
   rw[bytesI] at this
   have hr:=reachBytes_lt
   have hl:(lits (H:=H) .i64 es).length=es.length:=by simp[lits]
   rw[hl] at this
   omega
 obtain⟨ai,al,ae,au,hE⟩:=eg_of hlaid
 have hf:=(akc hE (es0:=es) hb) (GW W) [v0] (GLe.refl _) (.cons hI .nil)
 refine(hf.run W (fun b cs hg=>GW.sub hg)).mono fun e W' ⟨v,G',he,hr,hv⟩=>?_
 rw[aaY] at hv
 subst hv
 subst he
 have hn:=hr.below
 have t2:=trodAll_mk1 (Below.trod laidOut (by kernel_rfl) (of_decide_eq_true (by kernel_rfl)) h0 hn hlt)
 exact⟨_,rfl,⟨_,_,_,[],_,[],hW',trodAll_mk1 (shut_bool Tryz.underlying4 _),t2,rfl,hn.frame _,fun h=>by cases h⟩⟩
theorem reads(os:Os){H:Type}(enc:TypeId×Value→H): ∃places,DataW.whole enc Tryz.prog ((World.doorLaid Tryz.prog 104 os).forCall (fun _ _=>0) ⟨#[], #[.slice none 0 0],[]⟩).memory Tryz.f3.params.toList Rows.measureCellsSpec.vars false #[Value.slice none 0 0].toList 8=some ([.nil],[],places):=
 ⟨[],by kernel_rfl⟩
theorem lifted(os:Os)(started:os.Started)(H:Type)(enc:TypeId×Value→H)(F:Stop.Interp):
  ReturnsInHanded {} Tryz.checked os 3 .any ((OpenSpec.ofChange Rows.measureCellsSpec).preRow enc Tryz.prog Tryz.f3 Rows.measureCellsRow.domain false Rows.measureCellsRow.laid) (((OpenSpec.ofChange Rows.measureCellsSpec).at F).post enc Tryz.prog Tryz.f3 false true false false):=by
 obtain⟨places,hx⟩:=reads os enc
 refine returnsInHanded_of_row (C:=Tryz.checked) (s:=OpenSpec.ofChange Rows.measureCellsSpec) own started (by kernel_rfl) Tryz.func3
  (witness_row_atRef (enc:=enc) (C:=Tryz.checked) false (World.doorLaid Tryz.prog 104 os) #[.slice none 0 0] rfl (by kernel_rfl) (by kernel_rfl) (by kernel_rfl)
   (OpenSpec.preRow_of_cond 8 hx (by kernel_rfl) (fun k hk=>by cases hk) (by kernel_rfl) (door_met os _))) ?_
 intro W base args ds gs before hval hW _ _ hz hlaid _ _
 exact contract H enc W base args ds gs before hval hW hz hlaid
theorem j1:(Rows.measureCellsRow.inPlace==Tryz.pinned.checked.prog.inPlace 3)=true:=by kernel_rfl
theorem j2:(Rows.measureCellsRow.unfollowed==Tryz.pinned.checked.prog.unfollowed 3)=true:=by kernel_rfl
theorem j3:(Rows.measureCellsRow.recurses==Tryz.pinned.checked.prog.recurses 3)=true:=by kernel_rfl
theorem j4:(Rows.measureCellsRow.named==Tryz.pinned.checked.prog.varsNamed 3)=true:=by kernel_rfl
theorem j5:laidOutB Tryz.pinned.checked.prog=true:=laidOut
theorem j6:mapsRowed Tryz.pinned.checked.prog=true:=by kernel_rfl
theorem j7:Tryz.pinned.checked.prog.mainIs=some (Rows.measureCellsCard.stood.harness.1,Rows.measureCellsCard.stood.harness.2.toList):=by kernel_rfl
theorem j8:false=Rows.measureCellsRow.goesBy Tryz.pinned.checked.prog:=by kernel_rfl
theorem closed:joinedFacts Tryz.pinned.checked.prog 3 Tryz.f3 (OpenSpec.ofChange Rows.measureCellsSpec).bare Rows.measureCellsRow=true:=by
 unfold joinedFacts
 rw[j1,j2,j3,j4,j5,j6]
 kernel_rfl
theorem said:Rows.MeasureCellsSaid:=
 OpenClaim.holds_of_cond 3 Tryz.f3 J J J J J J J ⟨rfl,rfl,rfl,rfl,rfl⟩ J J J J J (by kernel_rfl) Tryz.func3 closed
  (of_decide_eq_true (by kernel_rfl)) (by unfold Func.isWrapper;first|(rw[if_pos (by decide+kernel)];kernel_rfl)|(rw[if_neg (by decide+kernel)];exact⟨rfl,rfl⟩))
  (fun os started H enc _ F=>by rw[OpenClaim.pre_eq_preRow];exact lifted os started H enc F)
theorem plain(f:FuncId)(fn:Func)(hf:Tryz.pinned.checked.prog.funcNamed "bspregion/bspregionlaw21.MeasureCells" =some f)(hfn:Tryz.pinned.checked.prog.funcs[f]? =some fn):
  true=Tryz.pinned.checked.prog.looks []∧ ∀(j:Nat) t,fn.params[j]? =some t→Tryz.pinned.checked.prog.wantsStandIn t=false:=by
 obtain rfl:f=3:=Option.some.inj ((show Tryz.prog.funcNamed "bspregion/bspregionlaw21.MeasureCells" =some 3 by kernel_rfl).symm.trans hf) |>.symm
 obtain rfl:fn=Tryz.f3:=(Option.some.inj (Tryz.func3.symm.trans hfn)).symm
 refine⟨by kernel_rfl,fun j t ht=>?_⟩
 rw[Tryz.params3] at ht
 have hm:=Array.mem_of_getElem? ht
 simp only[List.mem_toArray,List.mem_cons,List.not_mem_nil,or_false] at hm
 subst hm
 exact(show Tryz.prog.wantsStandIn 22=false by kernel_rfl)
theorem card:Rows.MeasureCellsCardSaid:=
 Claim7.holds_tied_plain_at .later [] _ _ _ _ said (fun _ h=>by cases h) (by kernel_rfl) (fun _ h=>by cases h) measureCells_row_tie rfl ⟨rfl,rfl⟩ j7 rfl plain j8
#print axioms card
end Go.Proofs.YtidmgdlbilojcaaGreatDoor.measureCells
end
