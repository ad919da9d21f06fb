import Derived.Test.YtpiknjeceobbfaaGreatDoorMx17
import Derived.Test.YtpiknjeceobbfaaGreatDoorCards
import Derived.Test.YtpiknjeceobbfaaGreatDoorTie
import Derived.WalkKit
import Derived.ProofKit
import Derived.OpenShut
import Derived.Deep.DeepHandedRow
import Derived.Deep.DeepWitnessRowRef
import Derived.LaidMore
import Derived.Lib.LaidTab
import Derived.SizedLaws
import Derived.Stop.LaidErr
import Derived.MakeChecks
set_option linter.all false
set_option maxHeartbeats 4000000
set_option maxRecDepth 100000
section
namespace Go.Sx
open Go Go.Proofs Tryz
variable {GB:Gh}
structure EGW (GB:Gh) (ar:Addr):Prop where
 ErrRange:GB 1=some [.iface 340 (.pointer (some ar))]
def zG{ar:Addr}(hE:EGW GB ar){rs:List (List ZP)}(h: ∀r∈rs,l9 r)(hn:rs.length<=200){p:aa}{i:Nat}[hp:aw p i](hno:pI rs p=true)(hi:i<=100000:=by decide):PF GB prog 25 [.sl (rs.map lD),jI p] (.tp [vI 0,qH ar]):=by
 have hel:=BZ h hn;have hfe:=EE fun r hr=>(h r hr).ok;refine fn func25 J J ntmps25 J J (fun C=>?_);refine cl J (EL h hn) J<|cl (fu:=⟨9⟩) J (vu (p:=p) (i:=i) (by omega)) J<|ij J J J<|cl (fu:=⟨0⟩) J (Lo (E:=bz rs) hfe (by omega) (p:=p) (i:=i) hi) J<|?_;refine ak 23 (.d (vB true)) J (by rw[show(bz rs).any (fun f=>gu f p)=true from hno]) ?_;refine i8 23 J ?_;refine gx J<|gl J hE.ErrRange J<|?_;exact rz J J
def zB{b:Nat}{es:List Int}(hes:es.length<=400){r:List ZP}{a':Nat}(hr:r=(gI es 0).1)(ha:a'=(gI es 0).2):PM GB prog 23 (jB [none] b) b 89 [.sl (es.map vI), .v (.int .i64 (0:Nat))] (.sl (r.map pe)) [.sl (es.map vI), .v (.int .i64 (a':Nat))]:=by
 subst hr ha;exact VO hes (cK _)
def zH{b:Nat}{es:List Int}(hes:es.length<=400){a:Nat}(ha:a<=es.length){p:aa}(hp:p=(pj es a).1):PM GB prog 12 (jB [none] b) b 89 [.sl (es.map vI), .v (.int .i64 (a:Nat))] (eP p) [.sl (es.map vI), .v (.int .i64 ((pj es a).2:Nat))]:=by
 subst hp;exact Nn hes ha
def zA{ar:Addr}(hE:EGW GB ar){es0:List Int}(hb:es0.length<=1125899906842624):PF GB prog 5 [.sl (es0.map vI)] (.v (.bool true)):=by
 obtain⟨es,hee⟩: ∃es,es=es0.take 400:=⟨_,rfl⟩;have hes:es.length<=400:=by rw[hee];simp;omega
 obtain⟨r,hre⟩: ∃r,r=(gI es 0).1:=⟨_,rfl⟩;have hcv:tj r:=by rw[hre];exact OU (cK _)
 have hrk:l9 r:=by rw[hre];exact RO (cK _)
 have h6:=hrk.ok.n6;have hr1: ∀x∈[r],cB x:=fun x hx=>by rw[aV.1 hx];exact hrk.ok
 have hrg: ∀x∈[r],l9 x:=fun x hx=>by rw[aV.1 hx];exact hrk
 obtain⟨a1,ha1⟩: ∃a,a=(gI es 0).2:=⟨_,rfl⟩;have hal:a1<=es.length:=by rw[ha1];exact(AO (cK _)).2
 obtain⟨p,hpe⟩: ∃p,p=(pj es a1).1:=⟨_,rfl⟩;haveI:aw p 1200:=by rw[hpe];exact(Xs hal).1
 have hml:(r.map pe).length=r.length:=aK ..;refine fn func5 J J ntmps5 J J (fun C=>?_);refine cn J ((Us hb hee)) (fun _=>J) (fun _=>?_);refine cm J (fun b=>(zB hes hre ha1)) J<|cm (fu:=⟨16⟩) J (fun b=>(zH hes hal hpe)) J<|?_;refine ak 23 (.d (vI (r.length:Nat))) J (by rw[hml]<;>rfl) ?_;refine gx J<|?_;refine vx 6 _ J J ?_;refine vx 7 _ J J ?_;refine lp (X:=Nat) (fun k=>[(24, .d (vI (k:Nat))),(6, .d (vB (j9 r p k))),(7, .d (vB (km r p k)))]) (fun k=>[]) (fun k=>k<=r.length) (fun k=>r.length-k) 0 J (cK _) (fun _=>J) (fun k hk=>?_);refine br (fu2:=⟨13⟩) J J J (fun hc25=>?_) (fun hc25=>?_)
 .
  haveI:=qz (hrk.ok.le _ (rm (show k<r.length by omega)));haveI:=qz (hrk.ok.le _ (vo (show k<r.length by omega)));refine ix (fu:=⟨6⟩) _ J (z8 (show k<r.length by omega)) J<|?_;refine ak 35 (.d (vI (r.length:Nat))) J (by rw[hml]<;>rfl) ?_;refine gx (fu:=⟨1⟩) J<|?_;refine ak 36 (.d (vI (((k+1)%r.length:Nat):Int))) J J ?_;refine gx J<|ix _ J (Jd (show k<r.length by omega)) J<|cl J (H' (a:=(r.getD k (0,0)).q) (b:=(ci r k).q) (c:=p) (i:=22) (j:=22) (k:=1200)) J<|?_;refine jE 42 J J J (fun hg42=>?_) (fun hg42=>?_)
  .
   refine jE 47 J J J (fun hg47=>?_) (fun hg47=>?_)
   .
    refine lh 6 _ J J ?_;refine lh 7 _ J J ?_;refine ak 6 (.d (vB (j9 r p (k+1)))) J (by rw[j9,hg42,oT]<;>rfl) ?_;refine ak 7 (.d (vB (km r p (k+1)))) J (by rw[km,hg47,Bool.true_or]<;>rfl) ?_;exact at_ (k+1) ⟨(by omega),(by omega)⟩
   .
    refine lh 6 _ J J ?_;refine lh 7 _ J J ?_;refine ak 6 (.d (vB (j9 r p (k+1)))) J (by rw[j9,hg42,oT]<;>rfl) ?_;refine ak 7 (.d (vB (km r p (k+1)))) J (by rw[km,hg47,oY]<;>rfl) ?_;exact at_ (k+1) ⟨(by omega),(by omega)⟩
  .
   refine jE 47 J J J (fun hg47=>?_) (fun hg47=>?_)
   .
    refine lh 6 _ J J ?_;refine lh 7 _ J J ?_;refine ak 6 (.d (vB (j9 r p (k+1)))) J (by rw[j9,hg42,rQ]<;>rfl) ?_;refine ak 7 (.d (vB (km r p (k+1)))) J (by rw[km,hg47,Bool.true_or]<;>rfl) ?_;exact at_ (k+1) ⟨(by omega),(by omega)⟩
   .
    refine lh 6 _ J J ?_;refine lh 7 _ J J ?_;refine ak 6 (.d (vB (j9 r p (k+1)))) J (by rw[j9,hg42,rQ]<;>rfl) ?_;refine ak 7 (.d (vB (km r p (k+1)))) J (by rw[km,hg47,oY]<;>rfl) ?_;exact at_ (k+1) ⟨(by omega),(by omega)⟩
 .
  obtain rfl:k=r.length:=by omega
  rcases SB hcv p with⟨e1,e2,hcl0,hon,hnum⟩|⟨e1,e2,hcl0,hon⟩|⟨e1,hcl0,hon,hnum⟩
  .
   have hcl:(ll (bz [r]) p fun q=>iu 1 (dG (bz [r]) q))=2:=by assumption
   refine gx (fu:=⟨1⟩) J<|?_;refine ak 52 (.d (vB true)) J (by rw[e1]) ?_;refine i8 52 J ?_;refine gx (fu:=⟨11⟩) J<|?_;refine ak 53 (.d (vB false)) J (by rw[e2]) ?_;refine sA 53 J ?_;refine gx J<|rf (fu:=⟨0⟩) J J<|?_;refine ak 55 (.d (.sl ([r].map qo))) J J ?_;refine gx J<|cl J (Dm (rs:=[r]) hr1 (nb J)) J<|cl J (sU (p:=p) (i:=1200)) J<|cl (fu:=⟨0⟩) J (Ap (rs:=[r]) hrg (nb J) (fill:=1) (.inl J) (p:=p) (i:=1200) (by decide)) J<|?_;refine ak 61 (.d (.tp [vI 2, .v .nilIface])) J (by rw[hcl]) ?_;refine gx (fu:=⟨11⟩) J<|ij (fu:=⟨3⟩) J J J<|ij J J J<|cl J (sU (p:=p) (i:=1200)) J<|cl (fu:=⟨0⟩) J (CL (rs:=[r]) hrg (nb J) (p:=p) (i:=1200) (by assumption) (by decide)) J<|?_;refine ak 75 (.d (.tp [vI 1, .v .nilIface])) J (by rw[hnum]) ?_;refine gx (fu:=⟨16⟩) J<|lB J J J<|cl (fu:=⟨0⟩) J Dx J<|?_;refine i8 81 J ?_;refine gx (fu:=⟨2⟩) J<|lB (fu:=⟨3⟩) J J J<|lB J J J<|?_;exact rz J J
  .
   have hcl:(ll (bz [r]) p fun q=>iu 1 (dG (bz [r]) q))=1:=by assumption
   refine gx (fu:=⟨1⟩) J<|?_;refine ak 52 (.d (vB true)) J (by rw[e1]) ?_;refine i8 52 J ?_;refine gx (fu:=⟨11⟩) J<|?_;refine ak 53 (.d (vB true)) J (by rw[e2]) ?_;refine i8 53 J ?_;refine gx J<|rf (fu:=⟨0⟩) J J<|?_;refine ak 55 (.d (.sl ([r].map qo))) J J ?_;refine gx J<|cl J (Dm (rs:=[r]) hr1 (nb J)) J<|cl J (sU (p:=p) (i:=1200)) J<|cl (fu:=⟨0⟩) J (Ap (rs:=[r]) hrg (nb J) (fill:=1) (.inl J) (p:=p) (i:=1200) (by decide)) J<|?_;refine ak 61 (.d (.tp [vI 1, .v .nilIface])) J (by rw[hcl]) ?_;refine gx (fu:=⟨11⟩) J<|ij (fu:=⟨3⟩) J J J<|ij J J J<|cl J (sU (p:=p) (i:=1200)) J<|cl (fu:=⟨16⟩) J (zG hE (rs:=[r]) hrg (nb J) (p:=p) (i:=1200) (by assumption) (by decide)) J<|?_;refine ij (fu:=⟨6⟩) J J J<|ij J J J<|cl (fu:=⟨0⟩) J Dx J<|?_;refine i8 101 J ?_;refine gx J<|gl J hE.ErrRange J<|cl J Vg J<|?_;exact rz J J
  .
   have hcl:(ll (bz [r]) p fun q=>iu 1 (dG (bz [r]) q))=0:=by assumption
   refine gx (fu:=⟨1⟩) J<|?_;refine ak 52 (.d (vB false)) J (by rw[e1]) ?_;refine sA 52 J ?_;refine gx J<|rf (fu:=⟨0⟩) J J<|?_;refine ak 55 (.d (.sl ([r].map qo))) J J ?_;refine gx J<|cl J (Dm (rs:=[r]) hr1 (nb J)) J<|cl J (sU (p:=p) (i:=1200)) J<|cl (fu:=⟨0⟩) J (Ap (rs:=[r]) hrg (nb J) (fill:=1) (.inl J) (p:=p) (i:=1200) (by decide)) J<|?_;refine ak 61 (.d (.tp [vI 0, .v .nilIface])) J (by rw[hcl]) ?_;refine gx (fu:=⟨11⟩) J<|ij (fu:=⟨3⟩) J J J<|ij J J J<|cl J (sU (p:=p) (i:=1200)) J<|cl (fu:=⟨0⟩) J (CL (rs:=[r]) hrg (nb J) (p:=p) (i:=1200) (by assumption) (by decide)) J<|?_;refine ak 75 (.d (.tp [vI 0, .v .nilIface])) J (by rw[hnum]) ?_;refine gx (fu:=⟨16⟩) J<|ij (fu:=⟨6⟩) J J J<|lB J J J<|cl (fu:=⟨0⟩) J Dx J<|?_;refine i8 92 J ?_;refine gx (fu:=⟨2⟩) J<|lB (fu:=⟨3⟩) J J J<|lB J J J<|?_;exact rz J J
end Go.Sx
end
section
namespace Go.Sx
open Go Go.Proofs Go.ChangeShapes Go.WideShapes Go.ChangeAt Go.RowKit
def GW(w:World):Gh:=fun b=>match w.heap[b]? with|some (.cells cs _ _)=>some cs.toList|_=>none
def GW.sub{w:World}{b:Nat}{cs:List Value}(h:GW w b=some cs): ∃ty fz,w.heap[b]? =some (.cells ⟨cs⟩ ty fz):=by
 unfold GW at h;split at h
 ·rename_i c t f e
  cases h
  exact⟨t,f,by rw[e]⟩
 ·cases h
def GW.of_cell{w:World}{b off:Nat}{v:Value}(h:w.cell? ⟨b,off,none⟩=some v): ∃cs,GW w b=some cs/\cs[off]? =some v:=by
 unfold World.cell? at h;unfold GW;split at h
 ·rename_i c t f e
  simp only at e;refine⟨c.toList,by rw[e],?_⟩;simpa using h
 all_goals first|(rename_i e;cases h)|cases h
def bt.below{w w':World}{G G':Gh}{own:List aq}(h:bt ⟨w,G,[],[],[],none,fun _=>none⟩ own G' w'):Below w.heap.size w w':=
 ⟨h.os,h.tape,h.output,h.size,fun k hk=>h.keep k hk (by simp)⟩
def isLs_vI{G:Gh}: ∀es:List Int,IsLs G (es.map vI) (es.map fun n=>Value.int .i64 n)
 |[]=> .nil
 |n::t=> .cons (bp.2 J) (isLs_vI t)
def open_vI{base:Nat}{H:Type}{enc:TypeId×Value->H}{P:Program}{w:World}{t e:TypeId}{v:Value}{d:DataW H}{ps:List MemPlace}(ht:P.underlying t=some (.slice e))(he:P.underlying e=some (.int .i64))(hc:P.cellsOf e=1)
  (hv:Value.okWide P w .any base t v)(h:DataW.Trod enc P w 0 (fun _=>true) true t v d ps):
  ∃es:List Int,Is (GW w) (.sl (es.map vI)) v/\(d= .nil/\es=[]\/ ∃sp,d= .slice (lits .i64 es) sp)/\(∀n∈es,(Lit.int .i64 n).wf=true):=by
 obtain⟨a0,len,cap,rfl⟩:=okWide_slice ht hv;obtain⟨fuel,hf⟩:=h;rcases open_ints ht he hc hf with⟨hcs,hx⟩|⟨a,len',cap',zs,hcs,_,hl,hm,hz,hx,hcell,hwz⟩
 ·simp[Value.cells] at hcs
  obtain⟨rfl,rfl,rfl⟩:=hcs;simp only[Prod.mk.injEq] at hx;exact⟨[],jb.2 ⟨0,⟨none,0,0⟩,[],J,er.nil _ 0, .nil⟩, .inl ⟨hx.1,J⟩,by simp⟩
 ·simp[Value.cells] at hcs
  obtain⟨rfl,rfl,rfl⟩:=hcs;simp only[Prod.mk.injEq] at hx;simp only[if_true] at hz;refine⟨zs.take len,jb.2 ⟨1,⟨some a,len,cap⟩,(zs.take len).map fun n=>Value.int .i64 n,J,⟨by simp;omega,hl,?_⟩,isLs_vI _⟩, .inr ⟨_,hx.1⟩,fun n hn=>hwz n (gN hn)⟩;by_cases h0:len=0
  ·exact .inl (by simp[h0])
  ·right
   obtain⟨b,off,spot⟩:=a;have hspot:spot=none:=by simpa[Addr.add] using World.cell?_spot (hcell 0 (by omega))
   subst hspot;have c0: ∀i,i<zs.length->w.cell? ⟨b,off+i,none⟩=some (.int .i64 (zs.getD i 0)):=fun i hi=>by
    have:=hcell i hi;rwa [Go.WideShapes.add_plain] at this
   obtain⟨cs,hcs,_⟩:=GW.of_cell (by have h9:=c0 0 (by omega);rw[dW] at h9;exact h9);refine⟨b,off,cs,J,hcs,fun i hi=>?_⟩;simp only[aK,cW] at hi;obtain⟨cs',hcs',hi'⟩:=GW.of_cell (c0 i (by omega));rw[hcs] at hcs'
   cases hcs'
   rw[jT,O6.2 hi'];simp[aI,List.getD,aX (show i<zs.length by omega)]
inductive CSh where
 |b
 |i (k:IntKind)
 |sl (ag:Bool) (l:List CSh)
mutual
def Fit:CSh->DV->Prop
 | .b,d=> ∃b,d= .v (.bool b)
 | .i k,d=> ∃n,d= .v (.int k n)/\(Lit.int k n).wf=true
 | .sl ag l,d=> ∃m:List DV,d= .sl m/\m.length<=maxLen/\ ∀x∈m,∃ys,FitL l ys/\((ag=true/\x= .ag ys)\/(ag=false/\ys=[x]))
def FitL:List CSh->List DV->Prop
 |[],ds=>ds=[]
 |s::l,ds=> ∃d t,ds=d::t/\Fit s d/\FitL l t
end
def flatF(r:TypeId->Option (Bool×List CSh))(P:Program):List Field->Nat->Option (List CSh)
 |[],_=>some []
 |f::fs,o=>match r f.type with
  |some (_,l)=>if f.offset=o/\P.cellsOf f.type=l.length then(flatF r P fs (o+l.length)).map (l++ ·) else none
  |none=>none
def flatT(P:Program):Nat->TypeId->Option (Bool×List CSh)
 |0,_=>none
 |n+1,t=>match P.underlying t with
  |some .bool=>some (false,[.b])
  |some (.int k)=>some (false,[.i k])
  |some (.slice e)=>match flatT P n e with
   |some (a,l)=>if P.cellsOf e=l.length/\0<l.length then some (false,[.sl a l]) else none
   |none=>none
  |some (.struct fs)=>match flatF (flatT P n) P fs.toList 0 with
   |some l=>if P.cellsOf t=l.length then some (true,l) else none
   |none=>none
  |_=>none
section
variable {H:Type} {enc:TypeId×Value->H} {P:Program} {w:World}
end
def shI:List CSh:=[.b, .sl false [.i .u32]]
def shL:List CSh:=shI++(shI++shI)
def es_star: "*" ++ "errors.errorString" = "*errors.errorString" :=by decide
def es_row(u:TypeId)(h:Tryz.prog.typeName? 3 u=some "*errors.errorString"):u=340:=
 typeName_ptr_named (nm:= "errors.errorString") (by rw[es_star];kernel_rfl) (by kernel_rfl) (by decide) u (by rw[es_star];exact h)
def sent_of{W:World}{n:String}{g:Nat}{text:List UInt8}{r:List (String×DataW Unit)}(h:laidMet Tryz.prog ((n, .iface "*errors.errorString" (.ptr (.agg [.lit (.string text)])))::r) W)(hg:Tryz.prog.globalNamed n=some g)(ht:(Tryz.prog.globals[g]?).map (·.type)=some 51):
  ∃a,GW W g=some [.iface 340 (.pointer (some a))]:=by
 obtain⟨a,s,hv,_⟩:=laid_sentinel h hg ht Tryz.underlying51 es_row Tryz.underlying340 Tryz.underlying365 rfl rfl Tryz.underlying9 (by kernel_rfl) (by kernel_rfl);refine⟨a,?_⟩;unfold World.var? at hv;rw[hg,Option.bind_some] at hv;unfold GW;split at hv
 ·rename_i c t f e
  rw[e];cases hv;rfl
 ·cases hv
def laid_plain{W:World}{l:List (String×DataW Unit)}(h:laidMetH Tryz.prog l W)(hp:(l.all fun x=>x.2.handleName?.isNone)=true):laidMet Tryz.prog l W:=by rwa [Go.MakeChecks.laidMetH_plain _ _ _ hp] at h
end Go.Sx
end
section
namespace Go.Proofs.YtpiknjeceobbfaaGreatDoor.windingConvex
open Go.ChangeShapes Go.WideShapes Go.ChangeAt Go.RowKit Go.Sx
theorem own:ownKnob Tryz.prog.godebug=none:=by kernel_rfl
theorem laidOut:laidOutB Tryz.prog=true:=by kernel_rfl
theorem cellsI:Tryz.prog.cellsOf 3=1:=by kernel_rfl
theorem bytesI:Tryz.prog.bytesOf 3=8:=by kernel_rfl
theorem door_met(os:Os)(args:Array Value):laidMetH Tryz.prog Rows.windingConvexRow.laid ((World.doorLaid Tryz.prog 100 os).forCall (fun _ _=>0) ⟨#[],args,[]⟩).memory:=
 laidMetH_of_parts3 (fuel:=8) (laidMet_of_run' 8 (by kernel_rfl) (by kernel_rfl)) (by kernel_rfl) (by kernel_rfl)
theorem eg_of{W:World}(h:laidMetH Tryz.prog Rows.windingConvexRow.laid W): ∃ar,EGW (GW W) ar:=by
 have h1:=laid_plain h J;obtain⟨ar,hr⟩:=sent_of (g:=1) h1.tail.tail.tail.tail.tail.tail (by kernel_rfl) (by kernel_rfl);exact⟨ar,⟨hr⟩⟩
theorem contract(H:Type)(enc:TypeId×Value->H)(W:World)(base:Nat)(args:Array Value)(ds gs:List (DataW H))(before:List MemPlace)
  (hval: ∀(j:Nat) t v,Tryz.f5.params[j]? =some t->args[j]? =some v->Value.okWide Tryz.prog W .any base t v)
  (hW:DataW.Whole enc Tryz.prog Tryz.f5.params.toList Rows.windingConvexSpec.vars false W args.toList ds gs before)
  (hz:(DataW.weightsEach Tryz.prog (Tryz.f5.params.toList++(OpenSpec.ofChange Rows.windingConvexSpec).bare.plain.varTypes Tryz.prog) (ds++gs)).all (· <=reachBytes)=true)(hlaid:laidMetH Tryz.prog Rows.windingConvexRow.laid W):
  Calls Tryz.prog 5 args W fun e W'=> ∃v,e= .returned v/\Rows.windingConvexSpec.post enc Tryz.prog Tryz.f5 false true false false W args v W':=by
 have hW':=hW;obtain⟨p,q,hA0,hV,rfl,_,_⟩:=hW;have hA:DataW.TrodAll enc Tryz.prog W 0 (fun _=>true) true Tryz.f5.params.toList args.toList ds p:=hA0;rw[Tryz.params5] at hA hval hz;obtain⟨v0,d0,hargs,rfl,h0⟩:=trodAll_one hA;obtain rfl:args= #[v0]:=by cases args;simp_all
 obtain⟨rfl,rfl⟩:=trodVars_none hV;clear hA0;simp only[List.append_nil] at hW';have hlt: ∀x∈p,x.block<W.heap.size:=fun x hx=>by simpa using hW'.lt x hx
 obtain⟨es,hI,hd,_⟩:=open_vI Tryz.underlying24 Tryz.underlying3 cellsI (hval 0 24 v0 rfl rfl) h0;have hb:es.length<=1125899906842624:=by
  rcases hd with⟨rfl,rfl⟩|⟨sp,rfl⟩
  ·exact Nat.zero_le _
  ·have:=sized_slice hz (j:=0) (t:=24) (e:=3) J J Tryz.underlying24
   rw[bytesI] at this;have hr:=reachBytes_lt;have hl:(lits (H:=H) .i64 es).length=es.length:=by simp[lits]
   rw[hl] at this;omega
 obtain⟨ar,hE⟩:=eg_of hlaid;have hf:=(zA hE (es0:=es) hb) (GW W) [v0] (bu.refl _) (.cons hI .nil);refine(hf.run W (fun b cs hg=>GW.sub hg)).mono fun e W' ⟨v,G',he,hr,hv⟩=>?_;rw[bp] at hv;subst hv;subst he;have hn:=hr.below;have t2:=trodAll_mk1 (Below.trod laidOut (by kernel_rfl) (of_decide_eq_true (by kernel_rfl)) h0 hn hlt);exact⟨_,J,⟨_,_,_,[],_,[],hW',trodAll_mk1 (shut_bool Tryz.underlying4 _),t2,J,hn.frame _,fun h=>by cases h⟩⟩
theorem reads(os:Os){H:Type}(enc:TypeId×Value->H): ∃places,DataW.whole enc Tryz.prog ((World.doorLaid Tryz.prog 100 os).forCall (fun _ _=>0) ⟨#[], #[.slice none 0 0],[]⟩).memory Tryz.f5.params.toList Rows.windingConvexSpec.vars false #[Value.slice none 0 0].toList 8=some ([.nil],[],places):=
 ⟨[],by kernel_rfl⟩
theorem lifted(os:Os)(started:os.Started)(H:Type)(enc:TypeId×Value->H)(F:Stop.Interp):
  ReturnsInHanded {} Tryz.checked os 5 .any ((OpenSpec.ofChange Rows.windingConvexSpec).preRow enc Tryz.prog Tryz.f5 Rows.windingConvexRow.domain false Rows.windingConvexRow.laid) (((OpenSpec.ofChange Rows.windingConvexSpec).at F).post enc Tryz.prog Tryz.f5 false true false false):=by
 obtain⟨places,hx⟩:=reads os enc;refine returnsInHanded_of_row (C:=Tryz.checked) (s:=OpenSpec.ofChange Rows.windingConvexSpec) own started (by kernel_rfl) Tryz.func5
  (witness_row_atRef (enc:=enc) (C:=Tryz.checked) false (World.doorLaid Tryz.prog 100 os) #[.slice none 0 0] rfl (by kernel_rfl) (by kernel_rfl) (by kernel_rfl)
   (OpenSpec.preRow_of_cond 8 hx (by kernel_rfl) (fun k hk=>by cases hk) (by kernel_rfl) (door_met os _))) ?_
 intro W base args ds gs before hval hW _ _ hz hlaid _ _;exact contract H enc W base args ds gs before hval hW hz hlaid
theorem j1:(Rows.windingConvexRow.inPlace==Tryz.pinned.checked.prog.inPlace 5)=true:=by kernel_rfl
theorem j2:(Rows.windingConvexRow.unfollowed==Tryz.pinned.checked.prog.unfollowed 5)=true:=by kernel_rfl
theorem j3:(Rows.windingConvexRow.recurses==Tryz.pinned.checked.prog.recurses 5)=true:=by kernel_rfl
theorem j4:(Rows.windingConvexRow.named==Tryz.pinned.checked.prog.varsNamed 5)=true:=by kernel_rfl
theorem j5:laidOutB Tryz.pinned.checked.prog=true:=laidOut
theorem j6:mapsRowed Tryz.pinned.checked.prog=true:=by kernel_rfl
theorem j7:Tryz.pinned.checked.prog.mainIs=some (Rows.windingConvexCard.stood.harness.1,Rows.windingConvexCard.stood.harness.2.toList):=by kernel_rfl
theorem j8:false=Rows.windingConvexRow.goesBy Tryz.pinned.checked.prog:=by kernel_rfl
theorem closed:joinedFacts Tryz.pinned.checked.prog 5 Tryz.f5 (OpenSpec.ofChange Rows.windingConvexSpec).bare Rows.windingConvexRow=true:=by
 unfold joinedFacts;rw[j1,j2,j3,j4,j5,j6]
 kernel_rfl
theorem said:Rows.WindingConvexSaid:=
 OpenClaim.holds_of_cond 5 Tryz.f5 J J J J J J J ⟨J,J,J,J,J⟩ J J J J J (by kernel_rfl) Tryz.func5 closed
  (of_decide_eq_true (by kernel_rfl)) (by unfold Func.isWrapper;first|(rw[if_pos (by decide+kernel)];kernel_rfl)|(rw[if_neg (by decide+kernel)];exact⟨J,J⟩))
  (fun os started H enc _ F=>by rw[OpenClaim.pre_eq_preRow];exact lifted os started H enc F)
theorem plain(f:FuncId)(fn:Func)(hf:Tryz.pinned.checked.prog.funcNamed "bspregion/bspregionlaw10.WindingConvex" =some f)(hfn:Tryz.pinned.checked.prog.funcs[f]? =some fn):
  true=Tryz.pinned.checked.prog.looks []/\ ∀(j:Nat) t,fn.params[j]? =some t->Tryz.pinned.checked.prog.wantsStandIn t=false:=by
 obtain rfl:f=5:=Option.some.inj ((show Tryz.prog.funcNamed "bspregion/bspregionlaw10.WindingConvex" =some 5 by kernel_rfl).symm.trans hf) |>.symm;obtain rfl:fn=Tryz.f5:=(Option.some.inj (Tryz.func5.symm.trans hfn)).symm;refine⟨by kernel_rfl,fun j t ht=>?_⟩;rw[Tryz.params5] at ht;have hm:=Array.mem_of_getElem? ht;simp only[List.mem_toArray,List.mem_cons,List.not_mem_nil,or_false] at hm;subst hm;exact(show Tryz.prog.wantsStandIn 24=false by kernel_rfl)
theorem card:Rows.WindingConvexCardSaid:=
 Claim7.holds_tied_plain_at .later [] _ _ _ _ said (fun _ h=>by cases h) (by kernel_rfl) (fun _ h=>by cases h) windingConvex_row_tie J ⟨J,J⟩ j7 J plain j8
#print axioms card
end Go.Proofs.YtpiknjeceobbfaaGreatDoor.windingConvex
end
