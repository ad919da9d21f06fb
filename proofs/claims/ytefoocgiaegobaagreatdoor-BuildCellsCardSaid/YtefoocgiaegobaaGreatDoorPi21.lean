import Derived.Test.YtefoocgiaegobaaGreatDoorPi20
import Derived.Test.YtefoocgiaegobaaGreatDoorCards
import Derived.Test.YtefoocgiaegobaaGreatDoorTie
import Derived.WalkKit
import Derived.ProofKit
import Derived.OpenShut
import Derived.Deep.DeepHandedRow
import Derived.Deep.DeepWitnessRowRef
import Derived.LaidMore
import Derived.Lib.LaidTab
import Derived.SizedLaws
import Derived.Stop.LaidErr
import Derived.MakeChecks
set_option linter.all false
set_option maxHeartbeats 4000000
set_option maxRecDepth 100000
section
namespace Go.Sx
open Go Go.Proofs Tryz
variable {GB:Gh}
def zG{P:aa->Prop}{zs:List aa}(h: ∀l∈zs,P l){k:Nat}{m:aa}(hm:P m): ∀l∈zs.set k m,P l:=fun l hl=>by
 rcases pM hl with h1|h1
 ·exact h l h1
 ·rw[h1];exact hm
def zF{ls:List aa}(hb: ∀l∈ls,LS l)(hn:ls.length<=1000000):PF GB prog 67 [.sl (ls.map eL)] (yz ls):=ax8 (fun l hl=>(hb l hl).bl) hn
def zB{zs:List aa}(hb: ∀l∈zs,LB l)(hok: ∀l∈zs,l.ok)(hn:zs.length<=18){p:ab}[hp:aI p 1200]:PF GB prog 48 [eA (kw zs),oo p] (.tp [vI (wE zs p), .v .nilIface]):=by
 have:=Zc (GB:=GB) (k:=18) (t:=kw zs) (p:=p) (i:=1200) (In hb hok hn);rwa [Up hok] at this
def zA{es0:List Int}(hb:es0.length<=1125899906842624):PF GB prog 13 [.sl (es0.map vI)] (.v (.bool true)):=by
 obtain⟨es,hee⟩: ∃es,es=es0.take 400:=⟨_,rfl⟩;have hes:es.length<=400:=by rw[hee];simp;omega
 obtain⟨hx1,hx2,hx3⟩:=aDv (es:=es) (most:=6) (a:=0) (bU _);obtain⟨p,hpe⟩: ∃p,p=(p8 es (kz es 6 0).2).1:=⟨_,rfl⟩;obtain⟨b1,hb1e⟩: ∃b,b=(p8 es (kz es 6 0).2).2:=⟨_,rfl⟩;obtain⟨hpb,hb1⟩:aI p 1200/\b1<=es.length:=by rw[hpe,hb1e];exact aAF hx3
 haveI:=hpb;refine fn func13 J J ntmps13 J J (fun C=>?_);refine cn J ((YI hb hee)) (fun _=>J) (fun _=>?_);refine Sl J J (fun b=>(WR (most:=6) hes (bU _) (by decide))) (fun _=>J) (fun _=>?_);refine cm J (fun b=>(aFJ hes hx3 hpe hb1e)) J<|cl J (DD (n:=1) (d:=7) (by decide) (by decide) (by decide)) J<|cl (fu:=⟨10⟩) J (DD (n:=1) (d:=5) (by decide) (by decide) (by decide)) J<|?_;refine av 23 (.d (vI ((kz es 6 0).1.length:Nat))) J (by rw[ui]<;>rfl) ?_;refine gx J<|?_;refine lp (X:=List aa×Nat×Nat) (fun⟨zs,b,k⟩=>[(24, .d (vI (k:Nat)))]) (fun⟨zs,b,k⟩=>[(16,some (.b 115 6 (zs.map eL) true)),(14,some (.o 126 [.d (.sl (es.map vI)), .d (.v (.int .i64 (b:Nat)))] true))]) (fun⟨zs,b,k⟩=>zs.length=(kz es 6 0).1.length/\(∀l∈zs,LS l)/\b<=es.length/\k<=(kz es 6 0).1.length) (fun⟨zs,b,k⟩=>(kz es 6 0).1.length-k) ⟨(kz es 6 0).1,b1,0⟩ J ⟨J,hx1,hb1,bU _⟩ (fun _=>J) (fun⟨zs,b,k⟩ hk=>?_)
 try dsimp only at hk⊢
 obtain⟨hz1,hz2,hz3,hz4⟩:=hk;have hzm:(zs.map eL).length=zs.length:=aJ ..;refine br (fu2:=⟨0⟩) J J J (fun hc25=>?_) (fun hc25=>?_)
 .
  obtain⟨l,hzx⟩: ∃u,zs[k]? =some u:=⟨_,aX (by omega)⟩;have hl:=hz2 l (bX hzx);refine lb _ J (fh hzx) J<|cl J (BW (l:=l) (p:=p7) (hl:=⟨hl.bl⟩) (hp:=US)) J<|?_;refine cs 33 J J J (fun hg33=>?_) (fun hg33=>?_)
  .
   refine cm J (fun b=>(yg (n:=4) hes hz3 (by decide) (by decide))) J<|?_;refine br J J J (fun hc37=>?_) (fun hc37=>?_)
   .
    refine cl J (XL (l:=l)) J<|sb _ ((zs.set k l.rev).map eL) J (fh hzx) J (Wq zs k l.rev) J<|?_;exact at_ ⟨zs.set k l.rev,(bg es 4 b).2,k+1⟩ (by dsimp only;exact⟨⟨by rw[aT];exact hz1,zG hz2 hl.rev,qr hz3,by omega⟩,(by omega)⟩)
   .
    exact at_ ⟨zs,(bg es 4 b).2,k+1⟩ (by dsimp only;exact⟨⟨hz1,hz2,qr hz3,by omega⟩,(by omega)⟩)
  .
   exact at_ ⟨zs,b,k+1⟩ (by dsimp only;exact⟨⟨hz1,hz2,hz3,by omega⟩,(by omega)⟩)
 .
  obtain rfl:k=(kz es 6 0).1.length:=by omega
  have hzb: ∀l∈zs,LB l:=fun l hl=>⟨(hz2 l hl).bl⟩;have hzo: ∀l∈zs,l.ok:=fun l hl=>(hz2 l hl).ok;have hzl:zs.length<=18:=by omega
  have hx:=In hzb hzo hzl;refine yJ 16 J ?_;refine gx J<|cl J (zF hz2 (by omega)) J<|cl J (aAe hzb hzo hzl) J<|cl J (N9 (p:=p) (i:=1200)) J<|cl (fu:=⟨9⟩) J (zB hzb hzo hzl) J<|?_;refine LC (fu:=⟨2⟩) J Wl J<|f8 (fu:=⟨3⟩) J J J<|f8 J J J<|cl J (aGg hzb hzo hzl) J<|cl (fu:=⟨0⟩) J (VI hx) J<|LC J (U1 hx J) J<|?_;refine cl (fu:=⟨0⟩) J (Uk hzb hzo (by omega) (p:=p) (i:=1200) (by decide)) J<|f8 J (by show some (decide (_=_))=some true;rw[decide_eq_true J]) J<|?_;exact rz J J
end Go.Sx
end
section
namespace Go.Sx
open Go Go.Proofs Go.ChangeShapes Go.WideShapes Go.ChangeAt Go.RowKit
def GW(w:World):Gh:=fun b=>match w.heap[b]? with|some (.cells cs _ _)=>some cs.toList|_=>none
def GW.sub{w:World}{b:Nat}{cs:List Value}(h:GW w b=some cs): ∃ty fz,w.heap[b]? =some (.cells ⟨cs⟩ ty fz):=by
 unfold GW at h;split at h
 ·rename_i c t f e
  cases h
  exact⟨t,f,by rw[e]⟩
 ·cases h
def GW.of_cell{w:World}{b off:Nat}{v:Value}(h:w.cell? ⟨b,off,none⟩=some v): ∃cs,GW w b=some cs/\cs[off]? =some v:=by
 unfold World.cell? at h;unfold GW;split at h
 ·rename_i c t f e
  simp only at e;refine⟨c.toList,by rw[e],?_⟩;simpa using h
 all_goals first|(rename_i e;cases h)|cases h
def bp.below{w w':World}{G G':Gh}{own:List ao}(h:bp ⟨w,G,[],[],[],none,fun _=>none⟩ own G' w'):Below w.heap.size w w':=
 ⟨h.os,h.tape,h.output,h.size,fun k hk=>h.keep k hk (by simp)⟩
def isLs_vI{G:Gh}: ∀es:List Int,IsLs G (es.map vI) (es.map fun n=>Value.int .i64 n)
 |[]=> .nil
 |n::t=> .cons (aF.2 J) (isLs_vI t)
def open_vI{base:Nat}{H:Type}{enc:TypeId×Value->H}{P:Program}{w:World}{t e:TypeId}{v:Value}{d:DataW H}{ps:List MemPlace}(ht:P.underlying t=some (.slice e))(he:P.underlying e=some (.int .i64))(hc:P.cellsOf e=1)
  (hv:Value.okWide P w .any base t v)(h:DataW.Trod enc P w 0 (fun _=>true) true t v d ps):
  ∃es:List Int,Is (GW w) (.sl (es.map vI)) v/\(d= .nil/\es=[]\/ ∃sp,d= .slice (lits .i64 es) sp)/\(∀n∈es,(Lit.int .i64 n).wf=true):=by
 obtain⟨a0,len,cap,rfl⟩:=okWide_slice ht hv;obtain⟨fuel,hf⟩:=h;rcases open_ints ht he hc hf with⟨hcs,hx⟩|⟨a,len',cap',zs,hcs,_,hl,hm,hz,hx,hcell,hwz⟩
 ·simp[Value.cells] at hcs
  obtain⟨rfl,rfl,rfl⟩:=hcs;simp only[Prod.mk.injEq] at hx;exact⟨[],ij.2 ⟨0,⟨none,0,0⟩,[],J,eB.nil _ 0, .nil⟩, .inl ⟨hx.1,J⟩,by simp⟩
 ·simp[Value.cells] at hcs
  obtain⟨rfl,rfl,rfl⟩:=hcs;simp only[Prod.mk.injEq] at hx;simp only[if_true] at hz;refine⟨zs.take len,ij.2 ⟨1,⟨some a,len,cap⟩,(zs.take len).map fun n=>Value.int .i64 n,J,⟨by simp;omega,hl,?_⟩,isLs_vI _⟩, .inr ⟨_,hx.1⟩,fun n hn=>hwz n (fK hn)⟩;by_cases h0:len=0
  ·exact .inl (by simp[h0])
  ·right
   obtain⟨b,off,spot⟩:=a;have hspot:spot=none:=by simpa[Addr.add] using World.cell?_spot (hcell 0 (by omega))
   subst hspot;have c0: ∀i,i<zs.length->w.cell? ⟨b,off+i,none⟩=some (.int .i64 (zs.getD i 0)):=fun i hi=>by
    have:=hcell i hi;rwa [Go.WideShapes.add_plain] at this
   obtain⟨cs,hcs,_⟩:=GW.of_cell (by have h9:=c0 0 (by omega);rw[eY] at h9;exact h9);refine⟨b,off,cs,J,hcs,fun i hi=>?_⟩;simp only[aJ,cK] at hi;obtain⟨cs',hcs',hi'⟩:=GW.of_cell (c0 i (by omega));rw[hcs] at hcs'
   cases hcs'
   rw[iL,atW.2 hi'];simp[aE,List.getD,aX (show i<zs.length by omega)]
inductive CSh where
 |b
 |i (k:IntKind)
 |sl (ag:Bool) (l:List CSh)
mutual
def Fit:CSh->DV->Prop
 | .b,d=> ∃b,d= .v (.bool b)
 | .i k,d=> ∃n,d= .v (.int k n)/\(Lit.int k n).wf=true
 | .sl ag l,d=> ∃m:List DV,d= .sl m/\m.length<=maxLen/\ ∀x∈m,∃ys,FitL l ys/\((ag=true/\x= .ag ys)\/(ag=false/\ys=[x]))
def FitL:List CSh->List DV->Prop
 |[],ds=>ds=[]
 |s::l,ds=> ∃d t,ds=d::t/\Fit s d/\FitL l t
end
def flatF(r:TypeId->Option (Bool×List CSh))(P:Program):List Field->Nat->Option (List CSh)
 |[],_=>some []
 |f::fs,o=>match r f.type with
  |some (_,l)=>if f.offset=o/\P.cellsOf f.type=l.length then(flatF r P fs (o+l.length)).map (l++ ·) else none
  |none=>none
def flatT(P:Program):Nat->TypeId->Option (Bool×List CSh)
 |0,_=>none
 |n+1,t=>match P.underlying t with
  |some .bool=>some (false,[.b])
  |some (.int k)=>some (false,[.i k])
  |some (.slice e)=>match flatT P n e with
   |some (a,l)=>if P.cellsOf e=l.length/\0<l.length then some (false,[.sl a l]) else none
   |none=>none
  |some (.struct fs)=>match flatF (flatT P n) P fs.toList 0 with
   |some l=>if P.cellsOf t=l.length then some (true,l) else none
   |none=>none
  |_=>none
section
variable {H:Type} {enc:TypeId×Value->H} {P:Program} {w:World}
end
def shI:List CSh:=[.b, .sl false [.i .u32]]
def shL:List CSh:=shI++(shI++shI)
end Go.Sx
end
section
namespace Go.Proofs.YtefoocgiaegobaaGreatDoor
open Go.ChangeShapes Go.WideShapes Go.ChangeAt Go.RowKit Go.Sx
theorem js1:mapsRowed Tryz.pinned.checked.prog=true:=by kernel_rfl
theorem js2:Tryz.pinned.checked.prog.stopsHeard=true:=by kernel_rfl
theorem js3:Tryz.pinned.checked.prog.mayEnter=true:=by kernel_rfl
theorem js4:laidOutB Tryz.prog=true:=by kernel_rfl
end Go.Proofs.YtefoocgiaegobaaGreatDoor
end
section
namespace Go.Proofs.YtefoocgiaegobaaGreatDoor.buildCells
open Go.ChangeShapes Go.WideShapes Go.ChangeAt Go.RowKit Go.Sx
theorem own:ownKnob Tryz.prog.godebug=none:=by kernel_rfl
theorem laidOut:laidOutB Tryz.prog=true:=js4
theorem cellsI:Tryz.prog.cellsOf 3=1:=by kernel_rfl
theorem bytesI:Tryz.prog.bytesOf 3=8:=by kernel_rfl
theorem door_met(os:Os)(args:Array Value):laidMetH Tryz.prog Rows.buildCellsRow.laid ((World.doorLaid Tryz.prog 138 os).forCall (fun _ _=>0) ⟨#[],args,[]⟩).memory:=
 laidMetH_of_parts3 (fuel:=8) (laidMet_of_run' 8 (by kernel_rfl) (by kernel_rfl)) (by kernel_rfl) (by kernel_rfl)
theorem contract(H:Type)(enc:TypeId×Value->H)(W:World)(base:Nat)(args:Array Value)(ds gs:List (DataW H))(before:List MemPlace)
  (hval: ∀(j:Nat) t v,Tryz.f13.params[j]? =some t->args[j]? =some v->Value.okWide Tryz.prog W .any base t v)
  (hW:DataW.Whole enc Tryz.prog Tryz.f13.params.toList Rows.buildCellsSpec.vars false W args.toList ds gs before)
  (hz:(DataW.weightsEach Tryz.prog (Tryz.f13.params.toList++(OpenSpec.ofChange Rows.buildCellsSpec).bare.plain.varTypes Tryz.prog) (ds++gs)).all (· <=reachBytes)=true)(hlaid:laidMetH Tryz.prog Rows.buildCellsRow.laid W):
  Calls Tryz.prog 13 args W fun e W'=> ∃v,e= .returned v/\Rows.buildCellsSpec.post enc Tryz.prog Tryz.f13 false true false false W args v W':=by
 have hW':=hW;obtain⟨p,q,hA0,hV,rfl,_,_⟩:=hW;have hA:DataW.TrodAll enc Tryz.prog W 0 (fun _=>true) true Tryz.f13.params.toList args.toList ds p:=hA0;rw[Tryz.params13] at hA hval hz;obtain⟨v0,d0,hargs,rfl,h0⟩:=trodAll_one hA;obtain rfl:args= #[v0]:=by cases args;simp_all
 obtain⟨rfl,rfl⟩:=trodVars_none hV;clear hA0;simp only[List.append_nil] at hW';have hlt: ∀x∈p,x.block<W.heap.size:=fun x hx=>by simpa using hW'.lt x hx
 obtain⟨es,hI,hd,_⟩:=open_vI Tryz.underlying22 Tryz.underlying3 cellsI (hval 0 22 v0 rfl rfl) h0;have hb:es.length<=1125899906842624:=by
  rcases hd with⟨rfl,rfl⟩|⟨sp,rfl⟩
  ·exact Nat.zero_le _
  ·have:=sized_slice hz (j:=0) (t:=22) (e:=3) J J Tryz.underlying22
   rw[bytesI] at this;have hr:=reachBytes_lt;have hl:(lits (H:=H) .i64 es).length=es.length:=by simp[lits]
   rw[hl] at this;omega
 have hf:=(zA (es0:=es) hb) (GW W) [v0] (bz.refl _) (.cons hI .nil);refine(hf.run W (fun b cs hg=>GW.sub hg)).mono fun e W' ⟨v,G',he,hr,hv⟩=>?_;rw[aF] at hv;subst hv;subst he;have hn:=hr.below;have t2:=trodAll_mk1 (Below.trod laidOut (by kernel_rfl) (of_decide_eq_true (by kernel_rfl)) h0 hn hlt);exact⟨_,J,⟨_,_,_,[],_,[],hW',trodAll_mk1 (shut_bool Tryz.underlying4 _),t2,J,hn.frame _,fun h=>by cases h⟩⟩
theorem reads(os:Os){H:Type}(enc:TypeId×Value->H): ∃places,DataW.whole enc Tryz.prog ((World.doorLaid Tryz.prog 138 os).forCall (fun _ _=>0) ⟨#[], #[.slice none 0 0],[]⟩).memory Tryz.f13.params.toList Rows.buildCellsSpec.vars false #[Value.slice none 0 0].toList 8=some ([.nil],[],places):=
 ⟨[],by kernel_rfl⟩
theorem lifted(os:Os)(started:os.Started)(H:Type)(enc:TypeId×Value->H)(F:Stop.Interp):
  ReturnsInHanded {} Tryz.checked os 13 .any ((OpenSpec.ofChange Rows.buildCellsSpec).preRow enc Tryz.prog Tryz.f13 Rows.buildCellsRow.domain false Rows.buildCellsRow.laid) (((OpenSpec.ofChange Rows.buildCellsSpec).at F).post enc Tryz.prog Tryz.f13 false true false false):=by
 obtain⟨places,hx⟩:=reads os enc;refine returnsInHanded_of_row (C:=Tryz.checked) (s:=OpenSpec.ofChange Rows.buildCellsSpec) own started (by kernel_rfl) Tryz.func13
  (witness_row_atRef (enc:=enc) (C:=Tryz.checked) false (World.doorLaid Tryz.prog 138 os) #[.slice none 0 0] rfl (by kernel_rfl) (by kernel_rfl) (by kernel_rfl)
   (OpenSpec.preRow_of_cond 8 hx (by kernel_rfl) (fun k hk=>by cases hk) (by kernel_rfl) (door_met os _))) ?_
 intro W base args ds gs before hval hW _ _ hz hlaid _ _;exact contract H enc W base args ds gs before hval hW hz hlaid
theorem j1:(Rows.buildCellsRow.inPlace==Tryz.pinned.checked.prog.inPlace 13)=true:=by kernel_rfl
theorem j2:(Rows.buildCellsRow.unfollowed==Tryz.pinned.checked.prog.unfollowed 13)=true:=by kernel_rfl
theorem j3:(Rows.buildCellsRow.recurses==Tryz.pinned.checked.prog.recurses 13)=true:=by kernel_rfl
theorem j4:(Rows.buildCellsRow.named==Tryz.pinned.checked.prog.varsNamed 13)=true:=by kernel_rfl
theorem j5:laidOutB Tryz.pinned.checked.prog=true:=laidOut
theorem j6:mapsRowed Tryz.pinned.checked.prog=true:=js1
theorem j7:Tryz.pinned.checked.prog.mainIs=some (Rows.buildCellsCard.stood.harness.1,Rows.buildCellsCard.stood.harness.2.toList):=by kernel_rfl
theorem j8:false=Rows.buildCellsRow.goesBy Tryz.pinned.checked.prog:=by kernel_rfl
theorem j9:(Rows.buildCellsRow.plainKeys==Tryz.pinned.checked.prog.plainKeys)=true:=by kernel_rfl
theorem j10:(Rows.buildCellsRow.lifted==Tryz.pinned.checked.prog.liftsFinal)=true:=by kernel_rfl
theorem j11:(Tryz.pinned.checked.prog.make==some Rows.buildCellsRow.make)=true:=by kernel_rfl
theorem closed:joinedFacts Tryz.pinned.checked.prog 13 Tryz.f13 (OpenSpec.ofChange Rows.buildCellsSpec).bare Rows.buildCellsRow=true:=by
 unfold joinedFacts;rw[j1,j2,j3,j4,j5,j6,j9,j10,j11,js2,js3]
 kernel_rfl
theorem said:Rows.BuildCellsSaid:=
 OpenClaim.holds_of_cond 13 Tryz.f13 J J J J J J J ⟨J,J,J,J,J⟩ J J J J J (by kernel_rfl) Tryz.func13 closed
  (of_decide_eq_true (by kernel_rfl)) (by unfold Func.isWrapper;first|(rw[if_pos (by decide+kernel)];kernel_rfl)|(rw[if_neg (by decide+kernel)];exact⟨J,J⟩))
  (fun os started H enc _ F=>by rw[OpenClaim.pre_eq_preRow];exact lifted os started H enc F)
theorem plain(f:FuncId)(fn:Func)(hf:Tryz.pinned.checked.prog.funcNamed "bspregion/bspregionlaw18.BuildCells" =some f)(hfn:Tryz.pinned.checked.prog.funcs[f]? =some fn):
  true=Tryz.pinned.checked.prog.looks []/\ ∀(j:Nat) t,fn.params[j]? =some t->Tryz.pinned.checked.prog.wantsStandIn t=false:=by
 obtain rfl:f=13:=Option.some.inj ((show Tryz.prog.funcNamed "bspregion/bspregionlaw18.BuildCells" =some 13 by kernel_rfl).symm.trans hf) |>.symm;obtain rfl:fn=Tryz.f13:=(Option.some.inj (Tryz.func13.symm.trans hfn)).symm;refine⟨by kernel_rfl,fun j t ht=>?_⟩;rw[Tryz.params13] at ht;have hm:=Array.mem_of_getElem? ht;simp only[List.mem_toArray,List.mem_cons,List.not_mem_nil,or_false] at hm;subst hm;exact(show Tryz.prog.wantsStandIn 22=false by kernel_rfl)
theorem card:Rows.BuildCellsCardSaid:=
 Claim7.holds_tied_plain_at .later [] _ _ _ _ said (fun _ h=>by cases h) (by kernel_rfl) (fun _ h=>by cases h) buildCells_row_tie J ⟨J,J⟩ j7 J plain j8
#print axioms card
end Go.Proofs.YtefoocgiaegobaaGreatDoor.buildCells
end
