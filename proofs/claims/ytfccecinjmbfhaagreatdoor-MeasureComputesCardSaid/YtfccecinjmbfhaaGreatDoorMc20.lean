/- Part 20 of a proof. -/
import Derived.Test.YtfccecinjmbfhaaGreatDoorMc19
import Derived.Test.YtfccecinjmbfhaaGreatDoorCards
import Derived.Test.YtfccecinjmbfhaaGreatDoorTie
import Derived.WalkKit
import Derived.ProofKit
import Derived.OpenShut
import Derived.Deep.DeepHandedRow
import Derived.Deep.DeepWitnessRowRef
import Derived.LaidMore
import Derived.Lib.LaidTab
import Derived.SizedLaws
import Derived.Stop.LaidErr
import Derived.MakeChecks
set_option linter.unusedSimpArgs false
set_option maxHeartbeats 8000000
set_option maxRecDepth 100000
set_option linter.unusedVariables false
section
namespace Go.Sx
open Go Go.Proofs Tryz
variable {GB:Gh}
theorem z_SameI:PF GB prog 145 [.ag [.v (.bool false), .sl []], .ag [.v (.bool false), .sl []]] (.v (.bool true)):=by
 haveI:BI (0:Int) 1:=⟨by decide⟩
 have:=atZ (GB:=GB) (a:=0) (b:=0) (i:=1) (j:=1) (by decide)
 rw[show eI 0= .ag [.v (.bool false), .sl []] by unfold eI;rw[show(0:Int).natAbs=0 from rfl,acD];rfl] at this
 exact this
theorem z_SameN:PF GB prog 146 [.sl [], .sl []] (.v (.bool true)):=by
 haveI:BN 0 1:=⟨by decide⟩
 have:=aoY (GB:=GB) (a:=0) (b:=0) (i:=1) (j:=1) (by decide)
 rw[acD] at this
 exact this
theorem z_SameQ:PF GB prog 78 [.ag [.v (.bool false), .sl [], .sl []], .ag [.v (.bool false), .sl [], .sl []]] (.v (.bool true)):=by
 refine fn func78 J J ntmps78 J J (fun C=>?_)
 refine cl (fu:=⟨0⟩) rfl z_SameI rfl<|?_
 refine kbT 9 rfl ?_
 refine gx rfl<|cl rfl z_SameN rfl<|?_
 exact rz J J
theorem z_SameP:PF GB prog 24 [zP0,zP0] (.v (.bool true)):=by
 refine fn func24 J J ntmps24 J J (fun C=>?_)
 refine cl (fu:=⟨0⟩) rfl z_SameQ rfl<|?_
 refine kbT 9 rfl ?_
 refine gx rfl<|cl rfl z_SameQ rfl<|?_
 exact rz J J
theorem cells_asc{t:Tr}(ht:t.all LnQ.ok): ∀c∈aal t,anS c:=fun c hc=>ajd ht aaP.nil (show anS [] from .nil) _ (adC.1 hc)
theorem area_cells{t:Tr}(ht:t.all LnQ.ok)(hb:(aal t).all afE=true):aci t=aa1 aps (aal t)*mkRat 1 2:=by
 have e:aa1 (fun x:PtQ×PtQ=>x.1.cross x.2) (acl (acb (aal t)))=aa1 aps (aal t):=by
  unfold acl acb
  rw[aox,agV]
  refine agi fun c hc=>?_
  rw[←arE (ajI ht c hc) (cells_asc ht c hc) (dT.1 hb c hc)]
  unfold agT aCx
  rw[agV]
 unfold aci
 rw[e]
theorem area_zero{t:Tr}(ht:t.all LnQ.ok)(hb:(aal t).all afE=true):(aal t).length=0∧aci t=0∨(aal t).length≠0∧aci t≠0:=by
 rw[area_cells ht hb]
 cases hc:aal t with
 |nil=>exact .inl ⟨rfl,pS _⟩
 |cons c l=>
  refine .inr ⟨by simp,fun e=>?_⟩
  rw[←hc] at e
  have hp:=aqw (f:=aps) (l:=aal t) (fun c hc=>avU (ajI ht c hc) (cells_asc ht c hc) (dT.1 hb c hc)) (by rw[hc];simp)
  have h2:mkRat 1 2=1/2:=by decide+kernel
  rw[h2] at e
  grind
theorem sgn_nz{q:Rat}(h:q≠0): ¬Int.sign q.num=0:=fun e=>h (nZ.1 (iJ.1 e))
theorem q_TBdd2{b:Nat}{es:List Int}(hes:es.length≤400){A:Tr}(hA:A=(ae3 es 2 0).1):PM GB prog 26 (mkP [none,some (vI 2)] b) b 104 [.sl (es.map vI), .v (.int .i64 (0:Nat))] (eT A) [.sl (es.map vI), .v (.int .i64 ((ae3 es 2 0).2:Nat))]:=by
 subst hA;exact aBD hes (bX _) (d:=2) (by decide)
theorem q_MeasureComputes{ai al ae au:Addr}(hE:EGV GB ai al ae au){es0:List Int}(hb:es0.length≤1125899906842624):PF GB prog 5 [.sl (es0.map vI)] (.v (.bool true)):=by
 obtain⟨es,hee⟩: ∃es,es=es0.take 400:=⟨_,rfl⟩
 have hes:es.length≤400:=by rw[hee];simp;omega
 obtain⟨A,hAe⟩: ∃A,A=(ae3 es 2 0).1:=⟨_,rfl⟩
 obtain⟨hA,hbd,_,hr⟩:=aDV (es:=es) (a:=0) (d:=2) (bX _) (by decide)
 rw[←hAe] at hA hbd hr
 have hm:=aA6 hA (by decide)
 have hz:=area_zero hA.ok hbd
 haveI:=hm.area
 haveI:=hm.mom.x
 haveI:=hm.mom.y
 haveI:=hm.sec.1
 haveI:=hm.sec.2.1
 haveI:=hm.sec.2.2
 refine fn func5 J J ntmps5 J J (fun C=>?_)
 refine cn rfl ((aC5 hb hee)) (fun _=>rfl) (fun _=>?_)
 refine cm rfl (fun b=>(q_TBdd2 hes hAe)) rfl<|cl rfl (aqf hA) rfl<|cl rfl (aum hA (by decide)) rfl<|sta J J J ⟨rfl,rfl,rfl⟩ rfl<|?_
 refine cl rfl (ave hA (by decide) hbd hm) rfl<|cl rfl (aDa hA (by decide) hbd hm) rfl<|?_
 rcases hz with⟨h0,h1⟩|⟨h0,h1⟩
 ·
  refine cl rfl (aCI hE hA (by decide) hbd h0) rfl<|cl rfl (asN hA (by decide) hbd hm) rfl<|ixa 0 (e:=52) (len:=6) (s:=3) rfl (by kernel_rfl) (by kernel_rfl) (by decide) rfl<|?_
  refine clT rfl (abX (q:=aci A) (i:=2000003)) rfl<|ixa 1 (e:=52) (len:=6) (s:=3) rfl (by kernel_rfl) (by kernel_rfl) (by decide) rfl<|?_
  refine clT rfl (abX (q:=(ail A).x) (i:=3000005)) rfl<|ixa 2 (e:=52) (len:=6) (s:=3) rfl (by kernel_rfl) (by kernel_rfl) (by decide) rfl<|?_
  refine clT rfl (abX (q:=(ail A).y) (i:=3000005)) rfl<|ixa 3 (e:=52) (len:=6) (s:=3) rfl (by kernel_rfl) (by kernel_rfl) (by decide) rfl<|?_
  refine clT rfl (abX (q:=aij akg A) (i:=4000007)) rfl<|ixa 4 (e:=52) (len:=6) (s:=3) rfl (by kernel_rfl) (by kernel_rfl) (by decide) rfl<|?_
  refine clT rfl (abX (q:=aij akl A) (i:=4000007)) rfl<|ixa 5 (e:=52) (len:=6) (s:=3) rfl (by kernel_rfl) (by kernel_rfl) (by decide) rfl<|?_
  refine clT rfl (abX (q:=aij akf A) (i:=4000007)) rfl<|ixa 0 (e:=52) (len:=6) (s:=3) rfl (by kernel_rfl) (by kernel_rfl) (by decide) rfl<|?_
  refine cl (fu:=⟨0⟩) rfl (q_S (q:=aci A)) rfl<|knT rfl (by show some (decide (Int.sign (aci A).num=0))=some true;rw[h1];rfl) rfl<|clT rfl ano rfl<|?_
  refine gl rfl hE.ErrEmpty rfl<|cl (fu:=⟨0⟩) rfl aFH rfl<|?_
  refine kbT 107 rfl ?_
  refine gx rfl<|clT rfl z_SameP rfl<|?_
  exact rz J J
 ·
  have ediv:(ail A).scale (aci A)⁻¹=⟨(ail A).x/aci A,(ail A).y/aci A⟩:=by unfold PtQ.scale;rw[sJ,sJ]
  haveI:BQ ((ail A).x/aci A) 5000008:=by rw[sJ];exact inferInstance
  haveI:BQ ((ail A).y/aci A) 5000008:=by rw[sJ];exact inferInstance
  refine cl (fu:=⟨0⟩) rfl (aDs hA (by decide) hbd hm h0) rfl<|?_
  refine eqF 35 (.d (.tp [ePt ⟨(ail A).x/aci A,(ail A).y/aci A⟩, .v .nilIface])) rfl (by rw[ediv]) ?_
  refine gx rfl<|cl rfl (asN hA (by decide) hbd hm) rfl<|ixa 0 (e:=52) (len:=6) (s:=3) rfl (by kernel_rfl) (by kernel_rfl) (by decide) rfl<|?_
  refine clT rfl (abX (q:=aci A) (i:=2000003)) rfl<|ixa 1 (e:=52) (len:=6) (s:=3) rfl (by kernel_rfl) (by kernel_rfl) (by decide) rfl<|?_
  refine clT rfl (abX (q:=(ail A).x) (i:=3000005)) rfl<|ixa 2 (e:=52) (len:=6) (s:=3) rfl (by kernel_rfl) (by kernel_rfl) (by decide) rfl<|?_
  refine clT rfl (abX (q:=(ail A).y) (i:=3000005)) rfl<|ixa 3 (e:=52) (len:=6) (s:=3) rfl (by kernel_rfl) (by kernel_rfl) (by decide) rfl<|?_
  refine clT rfl (abX (q:=aij akg A) (i:=4000007)) rfl<|ixa 4 (e:=52) (len:=6) (s:=3) rfl (by kernel_rfl) (by kernel_rfl) (by decide) rfl<|?_
  refine clT rfl (abX (q:=aij akl A) (i:=4000007)) rfl<|ixa 5 (e:=52) (len:=6) (s:=3) rfl (by kernel_rfl) (by kernel_rfl) (by decide) rfl<|?_
  refine clT rfl (abX (q:=aij akf A) (i:=4000007)) rfl<|ixa 0 (e:=52) (len:=6) (s:=3) rfl (by kernel_rfl) (by kernel_rfl) (by decide) rfl<|?_
  refine cl (fu:=⟨0⟩) rfl (q_S (q:=aci A)) rfl<|knF rfl (by show some (decide (Int.sign (aci A).num=0))=some false;rw[decide_eq_false (sgn_nz h1)]) rfl<|?_
  refine clT rfl ano rfl<|ixa 1 (e:=52) (len:=6) (s:=3) rfl (by kernel_rfl) (by kernel_rfl) (by decide) rfl<|ixa 0 (e:=52) (len:=6) (s:=3) rfl (by kernel_rfl) (by kernel_rfl) (by decide) rfl<|?_
  refine cl rfl (aia (a:=(ail A).x) (b:=aci A) h1 (i:=3000005) (j:=2000003)) rfl<|clT rfl (abX (q:=(ail A).x/aci A) (i:=5000008)) rfl<|?_
  refine ixa 2 (e:=52) (len:=6) (s:=3) rfl (by kernel_rfl) (by kernel_rfl) (by decide) rfl<|ixa 0 (e:=52) (len:=6) (s:=3) rfl (by kernel_rfl) (by kernel_rfl) (by decide) rfl<|?_
  refine cl rfl (aia (a:=(ail A).y) (b:=aci A) h1 (i:=3000005) (j:=2000003)) rfl<|clT rfl (abX (q:=(ail A).y/aci A) (i:=5000008)) rfl<|?_
  exact rz J J
end Go.Sx
end
section
namespace Go.Sx
open Go Go.Proofs Go.ChangeShapes Go.WideShapes Go.ChangeAt Go.RowKit
def GW(w:World):Gh:=fun b=>match w.heap[b]? with|some (.cells cs _ _)=>some cs.toList|_=>none
theorem GW.sub{w:World}{b:Nat}{cs:List Value}(h:GW w b=some cs): ∃ty fz,w.heap[b]? =some (.cells ⟨cs⟩ ty fz):=by
 unfold GW at h
 split at h
 ·rename_i c t f e
  cases h
  exact⟨t,f,by rw[e]⟩
 ·cases h
theorem GW.of_cell{w:World}{b off:Nat}{v:Value}(h:w.cell? ⟨b,off,none⟩=some v): ∃cs,GW w b=some cs∧cs[off]? =some v:=by
 unfold World.cell? at h
 unfold GW
 split at h
 ·rename_i c t f e
  simp only at e
  refine⟨c.toList,by rw[e],?_⟩
  simpa using h
 all_goals first|(rename_i e;cases h)|cases h
theorem abl.below{w w':World}{G G':Gh}{own:List Own}(h:abl ⟨w,G,[],[],[],none,fun _=>none⟩ own G' w'):Below w.heap.size w w':=
 ⟨h.os,h.tape,h.output,h.size,fun k hk=>h.keep k hk (by simp)⟩
theorem isLs_vI{G:Gh}: ∀es:List Int,IsLs G (es.map vI) (es.map fun n=>Value.int .i64 n)
 |[]=> .nil
 |n::t=> .cons (aaY.2 rfl) (isLs_vI t)
theorem open_vI{base:Nat}{H:Type}{enc:TypeId×Value→H}{P:Program}{w:World}{t e:TypeId}{v:Value}{d:DataW H}{ps:List MemPlace}(ht:P.underlying t=some (.slice e))(he:P.underlying e=some (.int .i64))(hc:P.cellsOf e=1)
  (hv:Value.okWide P w .any base t v)(h:DataW.Trod enc P w 0 (fun _=>true) true t v d ps):
  ∃es:List Int,Is (GW w) (.sl (es.map vI)) v∧(d= .nil∧es=[]∨ ∃sp,d= .slice (lits .i64 es) sp)∧(∀n∈es,(Lit.int .i64 n).wf=true):=by
 obtain⟨a0,len,cap,rfl⟩:=okWide_slice ht hv
 obtain⟨fuel,hf⟩:=h
 rcases open_ints ht he hc hf with⟨hcs,hx⟩|⟨a,len',cap',zs,hcs,_,hl,hm,hz,hx,hcell,hwz⟩
 ·simp[Value.cells] at hcs
  obtain⟨rfl,rfl,rfl⟩:=hcs
  simp only[Prod.mk.injEq] at hx
  exact⟨[],ad0.2 ⟨0,⟨none,0,0⟩,[],rfl,ae6.nil _ 0, .nil⟩, .inl ⟨hx.1,rfl⟩,by simp⟩
 ·simp[Value.cells] at hcs
  obtain⟨rfl,rfl,rfl⟩:=hcs
  simp only[Prod.mk.injEq] at hx
  simp only[if_true] at hz
  refine⟨zs.take len,ad0.2 ⟨1,⟨some a,len,cap⟩,(zs.take len).map fun n=>Value.int .i64 n,rfl,⟨by simp;omega,hl,?_⟩,isLs_vI _⟩, .inr ⟨_,hx.1⟩,fun n hn=>hwz n (fZ hn)⟩
  by_cases h0:len=0
  ·exact .inl (by simp[h0])
  ·right
   obtain⟨b,off,spot⟩:=a
   have hspot:spot=none:=by simpa[Addr.add] using World.cell?_spot (hcell 0 (by omega))
   subst hspot
   have c0: ∀i,i<zs.length→w.cell? ⟨b,off+i,none⟩=some (.int .i64 (zs.getD i 0)):=fun i hi=>by
    have:=hcell i hi
    rwa [Go.WideShapes.add_plain] at this
   obtain⟨cs,hcs,_⟩:=GW.of_cell (by have h9:=c0 0 (by omega);rw[fQ] at h9;exact h9)
   refine⟨b,off,cs,rfl,hcs,fun i hi=>?_⟩
   simp only[aK,cS] at hi
   obtain⟨cs',hcs',hi'⟩:=GW.of_cell (c0 i (by omega))
   rw[hcs] at hcs'
   cases hcs'
   rw[iX,asr.2 hi']
   simp[aaf,List.getD,aQ (show i<zs.length by omega)]
inductive CSh where
 |b
 |i (k:IntKind)
 |sl (ag:Bool) (l:List CSh)
mutual
def Fit:CSh→DV→Prop
 | .b,d=> ∃b,d= .v (.bool b)
 | .i k,d=> ∃n,d= .v (.int k n)∧(Lit.int k n).wf=true
 | .sl ag l,d=> ∃m:List DV,d= .sl m∧m.length≤maxLen∧ ∀x∈m,∃ys,FitL l ys∧((ag=true∧x= .ag ys)∨(ag=false∧ys=[x]))
def FitL:List CSh→List DV→Prop
 |[],ds=>ds=[]
 |s::l,ds=> ∃d t,ds=d::t∧Fit s d∧FitL l t
end
def flatF(r:TypeId→Option (Bool×List CSh))(P:Program):List Field→Nat→Option (List CSh)
 |[],_=>some []
 |f::fs,o=>match r f.type with
  |some (_,l)=>if f.offset=o∧P.cellsOf f.type=l.length then(flatF r P fs (o+l.length)).map (l++ ·) else none
  |none=>none
def flatT(P:Program):Nat→TypeId→Option (Bool×List CSh)
 |0,_=>none
 |n+1,t=>match P.underlying t with
  |some .bool=>some (false,[.b])
  |some (.int k)=>some (false,[.i k])
  |some (.slice e)=>match flatT P n e with
   |some (a,l)=>if P.cellsOf e=l.length∧0<l.length then some (false,[.sl a l]) else none
   |none=>none
  |some (.struct fs)=>match flatF (flatT P n) P fs.toList 0 with
   |some l=>if P.cellsOf t=l.length then some (true,l) else none
   |none=>none
  |_=>none
section
variable {H:Type} {enc:TypeId×Value→H} {P:Program} {w:World}
end
def shI:List CSh:=[.b, .sl false [.i .u32]]
def shL:List CSh:=shI++(shI++shI)
theorem es_star: "*" ++ "errors.errorString" = "*errors.errorString" :=by decide
theorem es_row(u:TypeId)(h:Tryz.prog.typeName? 3 u=some "*errors.errorString"):u=427:=
 typeName_ptr_named (nm:= "errors.errorString") (by rw[es_star];kernel_rfl) (by kernel_rfl) (by decide) u (by rw[es_star];exact h)
theorem sent_of{W:World}{n:String}{g:Nat}{text:List UInt8}{r:List (String×DataW Unit)}(h:laidMet Tryz.prog ((n, .iface "*errors.errorString" (.ptr (.agg [.lit (.string text)])))::r) W)(hg:Tryz.prog.globalNamed n=some g)(ht:(Tryz.prog.globals[g]?).map (·.type)=some 29):
  ∃a,GW W g=some [.iface 427 (.pointer (some a))]:=by
 obtain⟨a,s,hv,_⟩:=laid_sentinel h hg ht Tryz.underlying29 es_row Tryz.underlying427 Tryz.underlying452 rfl rfl Tryz.underlying9 (by kernel_rfl) (by kernel_rfl)
 refine⟨a,?_⟩
 unfold World.var? at hv
 rw[hg,Option.bind_some] at hv
 unfold GW
 split at hv
 ·rename_i c t f e
  rw[e];cases hv;rfl
 ·cases hv
theorem laid_plain{W:World}{l:List (String×DataW Unit)}(h:laidMetH Tryz.prog l W)(hp:(l.all fun x=>x.2.handleName?.isNone)=true):laidMet Tryz.prog l W:=by rwa [Go.MakeChecks.laidMetH_plain _ _ _ hp] at h
end Go.Sx
end
section
namespace Go.Proofs.YtfccecinjmbfhaaGreatDoor.measureComputes
open Go.ChangeShapes Go.WideShapes Go.ChangeAt Go.RowKit Go.Sx
theorem own:ownKnob Tryz.prog.godebug=none:=by kernel_rfl
theorem laidOut:laidOutB Tryz.prog=true:=by kernel_rfl
theorem cellsI:Tryz.prog.cellsOf 3=1:=by kernel_rfl
theorem bytesI:Tryz.prog.bytesOf 3=8:=by kernel_rfl
theorem door_met(os:Os)(args:Array Value):laidMetH Tryz.prog Rows.measureComputesRow.laid ((World.doorLaid Tryz.prog 104 os).forCall (fun _ _=>0) ⟨#[],args,[]⟩).memory:=
 laidMetH_of_parts3 (fuel:=8) (laidMet_of_run' 8 (by kernel_rfl) (by kernel_rfl)) (by kernel_rfl) (by kernel_rfl)
theorem eg_of{W:World}(h:laidMetH Tryz.prog Rows.measureComputesRow.laid W): ∃ai al ae au,EGV (GW W) ai al ae au:=by
 have h1:=laid_plain h rfl
 obtain⟨ai,hi⟩:=sent_of (g:=3) h1 (by kernel_rfl) (by kernel_rfl)
 obtain⟨au,hu⟩:=sent_of (g:=0) h1.tail (by kernel_rfl) (by kernel_rfl)
 obtain⟨ae,he⟩:=sent_of (g:=2) h1.tail.tail (by kernel_rfl) (by kernel_rfl)
 obtain⟨al,hl⟩:=sent_of (g:=4) h1.tail.tail.tail (by kernel_rfl) (by kernel_rfl)
 exact⟨ai,al,ae,au,⟨⟨hi,hl⟩,hu⟩,he⟩
theorem contract(H:Type)(enc:TypeId×Value→H)(W:World)(base:Nat)(args:Array Value)(ds gs:List (DataW H))(before:List MemPlace)
  (hval: ∀(j:Nat) t v,Tryz.f5.params[j]? =some t→args[j]? =some v→Value.okWide Tryz.prog W .any base t v)
  (hW:DataW.Whole enc Tryz.prog Tryz.f5.params.toList Rows.measureComputesSpec.vars false W args.toList ds gs before)
  (hz:(DataW.weightsEach Tryz.prog (Tryz.f5.params.toList++(OpenSpec.ofChange Rows.measureComputesSpec).bare.plain.varTypes Tryz.prog) (ds++gs)).all (· ≤reachBytes)=true)(hlaid:laidMetH Tryz.prog Rows.measureComputesRow.laid W):
  Calls Tryz.prog 5 args W fun e W'=> ∃v,e= .returned v∧Rows.measureComputesSpec.post enc Tryz.prog Tryz.f5 false true false false W args v W':=by
 have hW':=hW
 obtain⟨p,q,hA0,hV,rfl,_,_⟩:=hW
 have hA:DataW.TrodAll enc Tryz.prog W 0 (fun _=>true) true Tryz.f5.params.toList args.toList ds p:=hA0
 rw[Tryz.params5] at hA hval hz
 obtain⟨v0,d0,hargs,rfl,h0⟩:=trodAll_one hA
 obtain rfl:args= #[v0]:=by cases args;simp_all
 obtain⟨rfl,rfl⟩:=trodVars_none hV
 clear hA0
 simp only[List.append_nil] at hW'
 have hlt: ∀x∈p,x.block<W.heap.size:=fun x hx=>by simpa using hW'.lt x hx
 obtain⟨es,hI,hd,_⟩:=open_vI Tryz.underlying22 Tryz.underlying3 cellsI (hval 0 22 v0 rfl rfl) h0
 have hb:es.length≤1125899906842624:=by
  rcases hd with⟨rfl,rfl⟩|⟨sp,rfl⟩
  ·exact Nat.zero_le _
  ·have:=sized_slice hz (j:=0) (t:=22) (e:=3) J J Tryz.underlying22
   rw[bytesI] at this
   have hr:=reachBytes_lt
   have hl:(lits (H:=H) .i64 es).length=es.length:=by simp[lits]
   rw[hl] at this
   omega
 obtain⟨ai,al,ae,au,hE⟩:=eg_of hlaid
 have hf:=(q_MeasureComputes hE (es0:=es) hb) (GW W) [v0] (GLe.refl _) (.cons hI .nil)
 refine(hf.run W (fun b cs hg=>GW.sub hg)).mono fun e W' ⟨v,G',he,hr,hv⟩=>?_
 rw[aaY] at hv
 subst hv
 subst he
 have hn:=hr.below
 have t2:=trodAll_mk1 (Below.trod laidOut (by kernel_rfl) (of_decide_eq_true (by kernel_rfl)) h0 hn hlt)
 exact⟨_,rfl,⟨_,_,_,[],_,[],hW',trodAll_mk1 (shut_bool Tryz.underlying4 _),t2,rfl,hn.frame _,fun h=>by cases h⟩⟩
theorem reads(os:Os){H:Type}(enc:TypeId×Value→H): ∃places,DataW.whole enc Tryz.prog ((World.doorLaid Tryz.prog 104 os).forCall (fun _ _=>0) ⟨#[], #[.slice none 0 0],[]⟩).memory Tryz.f5.params.toList Rows.measureComputesSpec.vars false #[Value.slice none 0 0].toList 8=some ([.nil],[],places):=
 ⟨[],by kernel_rfl⟩
theorem lifted(os:Os)(started:os.Started)(H:Type)(enc:TypeId×Value→H)(F:Stop.Interp):
  ReturnsInHanded {} Tryz.checked os 5 .any ((OpenSpec.ofChange Rows.measureComputesSpec).preRow enc Tryz.prog Tryz.f5 Rows.measureComputesRow.domain false Rows.measureComputesRow.laid) (((OpenSpec.ofChange Rows.measureComputesSpec).at F).post enc Tryz.prog Tryz.f5 false true false false):=by
 obtain⟨places,hx⟩:=reads os enc
 refine returnsInHanded_of_row (C:=Tryz.checked) (s:=OpenSpec.ofChange Rows.measureComputesSpec) own started (by kernel_rfl) Tryz.func5
  (witness_row_atRef (enc:=enc) (C:=Tryz.checked) false (World.doorLaid Tryz.prog 104 os) #[.slice none 0 0] rfl (by kernel_rfl) (by kernel_rfl) (by kernel_rfl)
   (OpenSpec.preRow_of_cond 8 hx (by kernel_rfl) (fun k hk=>by cases hk) (by kernel_rfl) (door_met os _))) ?_
 intro W base args ds gs before hval hW _ _ hz hlaid _ _
 exact contract H enc W base args ds gs before hval hW hz hlaid
theorem j1:(Rows.measureComputesRow.inPlace==Tryz.pinned.checked.prog.inPlace 5)=true:=by kernel_rfl
theorem j2:(Rows.measureComputesRow.unfollowed==Tryz.pinned.checked.prog.unfollowed 5)=true:=by kernel_rfl
theorem j3:(Rows.measureComputesRow.recurses==Tryz.pinned.checked.prog.recurses 5)=true:=by kernel_rfl
theorem j4:(Rows.measureComputesRow.named==Tryz.pinned.checked.prog.varsNamed 5)=true:=by kernel_rfl
theorem j5:laidOutB Tryz.pinned.checked.prog=true:=laidOut
theorem j6:mapsRowed Tryz.pinned.checked.prog=true:=by kernel_rfl
theorem j7:Tryz.pinned.checked.prog.mainIs=some (Rows.measureComputesCard.stood.harness.1,Rows.measureComputesCard.stood.harness.2.toList):=by kernel_rfl
theorem j8:false=Rows.measureComputesRow.goesBy Tryz.pinned.checked.prog:=by kernel_rfl
theorem closed:joinedFacts Tryz.pinned.checked.prog 5 Tryz.f5 (OpenSpec.ofChange Rows.measureComputesSpec).bare Rows.measureComputesRow=true:=by
 unfold joinedFacts
 rw[j1,j2,j3,j4,j5,j6]
 kernel_rfl
theorem said:Rows.MeasureComputesSaid:=
 OpenClaim.holds_of_cond 5 Tryz.f5 J J J J J J J ⟨rfl,rfl,rfl,rfl,rfl⟩ J J J J J (by kernel_rfl) Tryz.func5 closed
  (of_decide_eq_true (by kernel_rfl)) (by unfold Func.isWrapper;first|(rw[if_pos (by decide+kernel)];kernel_rfl)|(rw[if_neg (by decide+kernel)];exact⟨rfl,rfl⟩))
  (fun os started H enc _ F=>by rw[OpenClaim.pre_eq_preRow];exact lifted os started H enc F)
theorem plain(f:FuncId)(fn:Func)(hf:Tryz.pinned.checked.prog.funcNamed "bspregion/bspregionlaw21.MeasureComputes" =some f)(hfn:Tryz.pinned.checked.prog.funcs[f]? =some fn):
  true=Tryz.pinned.checked.prog.looks []∧ ∀(j:Nat) t,fn.params[j]? =some t→Tryz.pinned.checked.prog.wantsStandIn t=false:=by
 obtain rfl:f=5:=Option.some.inj ((show Tryz.prog.funcNamed "bspregion/bspregionlaw21.MeasureComputes" =some 5 by kernel_rfl).symm.trans hf) |>.symm
 obtain rfl:fn=Tryz.f5:=(Option.some.inj (Tryz.func5.symm.trans hfn)).symm
 refine⟨by kernel_rfl,fun j t ht=>?_⟩
 rw[Tryz.params5] at ht
 have hm:=Array.mem_of_getElem? ht
 simp only[List.mem_toArray,List.mem_cons,List.not_mem_nil,or_false] at hm
 subst hm
 exact(show Tryz.prog.wantsStandIn 22=false by kernel_rfl)
theorem card:Rows.MeasureComputesCardSaid:=
 Claim7.holds_tied_plain_at .later [] _ _ _ _ said (fun _ h=>by cases h) (by kernel_rfl) (fun _ h=>by cases h) measureComputes_row_tie rfl ⟨rfl,rfl⟩ j7 rfl plain j8
#print axioms card
end Go.Proofs.YtfccecinjmbfhaaGreatDoor.measureComputes
end
