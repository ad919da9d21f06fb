/- Part 20 of a proof. -/
import Derived.Test.YtopfgminkdfpkaaGreatDoorMy19
import Derived.Test.YtopfgminkdfpkaaGreatDoorCards
import Derived.Test.YtopfgminkdfpkaaGreatDoorTie
import Derived.WalkKit
import Derived.ProofKit
import Derived.OpenShut
import Derived.Deep.DeepHandedRow
import Derived.Deep.DeepWitnessRowRef
import Derived.LaidMore
import Derived.Lib.LaidTab
import Derived.SizedLaws
import Derived.Stop.LaidErr
import Derived.MakeChecks
set_option linter.unusedSimpArgs false
set_option maxHeartbeats 4000000
set_option maxRecDepth 100000
set_option linter.unusedVariables false
section
namespace Go.Sx
open Go Go.Proofs Tryz
variable {GB:Gh}
theorem q_both{b:Nat}{es:List Int}(hes:es.length≤400){a:Nat}(ha:a≤es.length):PM GB prog 29 (mkP [none] b) b 94 [.sl (es.map vI), .v (.int .i64 (a:Nat))] (.tp [eT (afn es a).1.1,eT (afn es a).1.2]) [.sl (es.map vI), .v (.int .i64 ((afn es a).2:Nat))]:=by
 obtain⟨x1,x2⟩:=afJ ha
 obtain⟨y1,y2⟩:=afJ x2
 have hk0:=aat (n:=3) y2
 refine fnM func29 J J ntmps29 J J (fun C b m lo hmb=>?_)
 refine cm rfl (fun b=>(amy (d:=0) hes ha (by decide))) rfl<|cm (fu:=⟨5⟩) rfl (fun b=>(amy (d:=0) hes x2 (by decide))) rfl<|?_
 refine mg (X:=Tr×Nat) (fun⟨u,a2⟩=>[(4, .d (eT u))]) (fun⟨u,a2⟩=>[(1000000,some (.o 94 [.d (.sl (es.map vI)), .d (.v (.int .i64 (a2:Nat)))] false))]) (fun⟨u,a2⟩=>(if((aae es 3 (aah es 0 (aah es 0 a).2).2).1:Int)=0 then aa8 es 3 (aae es 3 (aah es 0 (aah es 0 a).2).2).2 else((aah es 0 a).1,(aae es 3 (aah es 0 (aah es 0 a).2).2).2))=(u,a2)∧a2≤es.length) [4] [1000000] rfl ?_ (fun _=>rfl) (fun⟨u,a2⟩ ⟨hU,ha2⟩=>?_)
 ·
  refine gx rfl<|cm rfl (fun b=>(abD (n:=3) hes y2 (by decide) (by decide))) rfl<|?_
  refine br J J J (fun hc12=>?_) (fun hc12=>?_)
  ·
   refine cm rfl (fun b=>(akS (d:=3) hes hk0 (by decide))) rfl<|?_
   exact at_ ⟨(aa8 es 3 (aae es 3 (aah es 0 (aah es 0 a).2).2).2).1,(aa8 es 3 (aae es 3 (aah es 0 (aah es 0 a).2).2).2).2⟩ ⟨if_pos hc12,(agJ hk0).2⟩
  ·
   exact at_ ⟨(aah es 0 a).1,(aae es 3 (aah es 0 (aah es 0 a).2).2).2⟩ ⟨if_neg hc12,hk0⟩
 ·
  try dsimp only at hU ha2
  have hj:=aat (n:=3) ha2
  refine cm rfl (fun b=>(abD (n:=3) hes ha2 (by decide) (by decide))) rfl<|?_
  refine br J J J (fun hc17=>?_) (fun hc17=>?_)
  ·
   have hB:afn es a=((u,(aa8 es 3 (aae es 3 a2).2).1),(aa8 es 3 (aae es 3 a2).2).2):=by unfold afn;dsimp only;rw[hU];dsimp only;rw[if_pos hc17]
   refine cm rfl (fun b=>(akS (d:=3) hes hj (by decide))) rfl<|?_
   exact rzM hmb J J (by rw[hB];rfl) (by rw[hB])
  ·
   have hB:afn es a=((u,(aah es 0 (aah es 0 a).2).1),(aae es 3 a2).2):=by unfold afn;dsimp only;rw[hU];dsimp only;rw[if_neg hc17]
   exact rzM hmb J J (by rw[hB];rfl) (by rw[hB])
theorem q_NewT{es0 es:List Int}(hb:es0.length≤1125899906842624)(he:es=es0.take 400):PN GB prog 9 [.sl (es0.map vI)] 94 Unit (fun _=>[.sl (es.map vI), .v (.int .i64 (0:Nat))]):=by
 subst he;exact aDP hb
theorem p_MMergeX{ai al ae:Addr}(hE:EG GB ai al ae){op:Int}{j k:Nat}{a b:Tr}(ho:1≤op∧op≤4)(ha:TrX j a)(hb:TrX k b)(hk:j+k≤200):PF GB prog 30 [vI op,eA a,eA b] (.tp [eA (a.mergeQ op b []), .v .nilIface]):=
 aiS hE ho ha.gd hb.gd (by have:=ha.s;omega) (by have:=hb.s;omega) (ha.lim hb hk)
theorem q_WriteX{k:Nat}{t:Tr}(h:TrX k t):PF GB prog 11 [eT t] (eA t):=auA h.bl (by have:=h.s;omega)
section
variable {GB:Gh} {C:Ctx} {n:Nat} {Q0:Exit→Act→World→Prop} {fr fr':FrX} {own own':OwX} {cf cf':Cf} {vc:List Prop} {ops:Array Oper} {r:List Oper} {K:List Kt}
def mkFA(fr:FrX)(cf:Cf):Option (FuncId×Value):=match opC fr cf with
 |some ⟨_, .makeFunc (.func f) ⟨[x]⟩ ⟨[]⟩,_,_,_,_⟩=>match evX (lkC fr cf) x with
  |some (.d (.v pv))=>some (f,pv)
  |_=>none
 |_=>none
def cfvA(fr:FrX)(cf:Cf):Option (FuncId×List Value×List DV):=match opC fr cf with
 |some ⟨_, .call ⟨.value fo,args,_⟩,_,_,_,_⟩=>match evX (lkC fr cf) fo,evDs (lkC fr cf) args.toList with
  |some (.d (.v (.func (.func f) ⟨c1⟩ ⟨[]⟩))),some ds=>some (f,c1,ds)
  |_,_=>none
 |_=>none
/-! an array of constants -/
def constL:List (Nat×Operand)→Option (List (Nat×Value))
 |[]=>some []
 |(i, .const v)::t=>match constL t with
  |some l=>some ((i,v)::l)
  |none=>none
 |_::_=>none
def bakA(cf:Cf)(fr:FrX):Option (TypeId×List (Nat×Value)):=match opC fr cf with
 |some ⟨_, .build t ⟨ps⟩,_,_,_,_⟩=>match constL ps with
  |some vs=>some (t,vs)
  |none=>none
 |_=>none
def staA(fr:FrX)(own:OwX)(cf:Cf):Option (TypeId×Nat×Nat×List FX×Bool×FX):=match opC fr cf with
 |some ⟨_, .store t x y,_,_,_,_⟩=>match evX (lkC fr cf) x with
  |some (.ov nm 0)=>match bkC fr own cf nm with
   |some (.o ty cs lo)=>match evX (lkC fr cf) y with
    |some fv=>some (t,nm,ty,cs,lo,fv)
    |_=>none
   |_=>none
  |_=>none
 |_=>none
def rowB(fr:FrX)(cf:Cf):Option RwA:=match opC fr cf with
 |some ⟨some d, .buildSlice t len parts,_,_,_,_⟩=>match abi tt t with
  |some ⟨.sl e s _,_,_,_⟩=>match ayJ (lkC fr cf) 0 parts.toList with
   |some ds=>bif awp s ds&&(Nat.beq parts.toList.length len&&(Nat.ble (len*s) 1000&&Nat.blt 0 (len*s))) then some ⟨d,e,s,ds⟩ else none
   |none=>none
  |_=>none
 |_=>none
def ldBA(fr:FrX)(cf:Cf):Option (TypeId×List DV):=match opC fr cf with
 |some ⟨_, .load t x,_,_,_,_⟩=>match evX (lkC fr cf) x with
  |some (.ep l)=>some (t,l)
  |_=>none
 |_=>none
def noAg:TypeDesc→Bool
 | .struct _=>false
 | .array _ _=>false
 |_=>true
end
def ePr(a b:Tr):DV:= .ag [eU a,eU b]
def prZ:DV:= .ag [.v (.pointer none), .v (.pointer none)]
theorem p_OfA{k:Nat}{t:Tr}(h:TrX k t):PF GB prog 74 [eA t] (.tp [eU t,vB true]):=by
 have:=ar8 (GB:=GB) (rt:=t.num 0) (axg h.lb) (aDE (by have:=h.s;omega)) (ap2 h.ok)
 rw[←avb] at this
 exact this
theorem p_SortPt{ds:List PtQ}{i:Nat}(hb: ∀d∈ds,BPt d i)(hi:i≤10000000)(hn:ds.length≤10000000)(ht:an8 ds):PW GB prog 208 [none,some (.v (.func (.func 209) #[] #[]))] 6 104 (ds.map eZ) (.tp []) ((arl aaC ds).map eZ):=
 aES (GB:=GB) Tryz.sortPt ⟨_,func208,rfl,rfl⟩ isAgg104 sizeOf104 eZ (fun d=>BPt d i) (fun x=>⟨_,rfl,rfl,rfl⟩) aaC asv ⟨_,func209,rfl,rfl⟩ (fun x y hx hy=>an2 (i:=i) (j:=i) hi hi) hb (by omega)
  (fun x hx y hy h k=>ht x hx y hy (asS (by rw[←aeb];exact h) (by rw[←aeb];exact k)))
theorem p_Dirs{ds:List PtQ}{i:Nat}(hb: ∀d∈ds,BPt d i)(hi:i≤10000000)(hn:ds.length≤10000000)(ht:an8 ds):PB GB prog 150 (mkB [none]) 6 104 (ds.map eZ) (fun w=> .v (.slice w.a w.n w.c)) ((ah0 ds).map eZ):=by
 have hsm: ∀d∈arl aaC ds,BPt d i:=fun d hd=>hb d ((aes aaC ds).mem_iff.1 hd)
 have hsl:(arl aaC ds).length=ds.length:=(aes aaC ds).length_eq
 refine fnQ func150 J J ntmps150 J J (fun C=>?_)
 refine cw _ rfl (p_SortPt hb hi hn ht) J J<|cq ((ah0 ds).map eZ) rfl (atr (i0:=i) hsm (by omega) hi) (by rw[aqi ht]) rfl<|?_
 exact rzQ J J J J
theorem rays_bd{t:Tr}(hb:t.all LB)(p:PtQ): ∀d∈abu t p,BPt d 500:=fun d hd=>by
 obtain⟨l,h1,h2⟩:=abQ.1 hd
 haveI:=act.1 hb l (acf h1).1
 rcases h2 with rfl|rfl<;>infer_instance
theorem sct_bd{ds:List PtQ}{i:Nat}(h: ∀d∈ds,BPt d i)(h2:2≤i): ∀v∈ae4 ds,BPt v (i+i+1):=fun v hv=>by
 have up: ∀{q:PtQ},BPt q i→BPt q (i+i+1):=fun hq=>⟨hq.x.mono (by omega),hq.y.mono (by omega)⟩
 unfold ae4 at hv
 split at hv
 ·rw[aS] at hv
  subst hv
  exact⟨BQ.mono (k:=2) ⟨by decide,by decide⟩ (by omega),BQ.mono (k:=2) ⟨by decide,by decide⟩ (by omega)⟩
 ·obtain⟨k,hk,rfl⟩:=bL.1 hv
  have hk':=oT.1 hk
  have g: ∀{j:Nat},j<ds.length→BPt (ds.getD j ⟨0,0⟩) i:=fun{j} hj=>by
   rw[aK,aZ hj];exact h _ (cJ hj)
  haveI:=g hk'
  haveI:=g (dQ (k+1) (show 0<ds.length by omega))
  unfold aqT
  split
  ·exact inferInstance
  ·exact up inferInstance
theorem sct_len(ds:List PtQ):(ae4 ds).length≤ds.length+1:=by
 unfold ae4
 split
 ·simp
 ·rw[aJ,qR];omega
theorem any_step{vs:List PtQ}{f:PtQ→Bool}{k:Nat}{v:PtQ}(h:vs[k]? =some v):(vs.drop k).any f=(f v||(vs.drop (k+1)).any f):=by
 obtain⟨h1,h2⟩:=bQ.1 h
 rw[aN h1,h2,List.any_cons]
theorem all_step{vs:List PtQ}{f:PtQ→Bool}{k:Nat}{v:PtQ}(h:vs[k]? =some v):(vs.drop k).all f=(f v&&(vs.drop (k+1)).all f):=by
 obtain⟨h1,h2⟩:=bQ.1 h
 rw[aN h1,h2,List.all_cons]
theorem p_Classes{b c:Bool}:PF GB prog 153 [vB b,vB c] (vI (if b&&c then 2 else if b then 1 else 0)):=by
 refine fn func153 J J ntmps153 J J (fun C=>?_)
 refine csb 7 J J J (fun hg7=>?_) (fun hg7=>?_)
 ·refine bb J J J (fun hc5=>?_) (fun hc5=>?_)
  ·exact rz rfl (by subst hg7 hc5;rfl)
  ·refine bb J J J (fun hc10=>?_) (fun hc10=>?_)
   ·exact rz rfl (by subst hg7 hc5;rfl)
   ·subst hg7;cases hc10
 ·refine bb J J J (fun hc10=>?_) (fun hc10=>?_)
  ·subst hg7;cases hc10
  ·exact rz rfl (by subst hg7;rfl)
theorem p_TClass{t:Tr}{p:PtQ}{i:Nat}[hp:BPt p i](hb:t.all LB)(ho:t.all LnQ.ok)(hs:t.size≤400000)(hi:i≤10000000:=by decide):PF GB prog 75 [eU t,eZ p] (vI (abl t p)):=by
 have hrl:=agq t p
 have hrb:=rays_bd hb p
 have hrt:=au4 ho p
 have hdb: ∀d∈ah0 (abu t p),BPt d 500:=fun d hd=>hrb d ((apy hrt d).1 hd)
 have hdl:(ah0 (abu t p)).length≤(abu t p).length:=by rw[←aqi hrt];exact cV (atU _) (Nat.le_of_eq (aes aaC _).length_eq)
 have hsb:=sct_bd hdb (by decide)
 obtain⟨vs,hvs⟩: ∃vs,vs=ae4 (ah0 (abu t p)):=⟨_,rfl⟩
 have hvl:vs.length≤(ah0 (abu t p)).length+1:=by rw[hvs];exact sct_len _
 rw[←hvs] at hsb
 have hml:(vs.map eZ).length=vs.length:=aJ ..
 refine fn func75 J J ntmps75 J J (fun C=>?_)
 refine cqn ((abu t p).map eZ) rfl (amI (p:=p) (o:=[]) hi hb (by rw[dK];omega)) J J<|cq ((ah0 (abu t p)).map eZ) rfl (p_Dirs hrb (by decide) (by omega) hrt) J J<|?_
 refine fz 14 J J<|cl (fu:=⟨0⟩) rfl (arZ (ds:=ah0 (abu t p)) (i:=500) hdb (by omega)) rfl<|?_
 refine eqF 15 (.d (.sl (vs.map eZ))) rfl (by rw[hvs]) ?_
 refine gx (fu:=⟨1⟩) rfl<|?_
 refine eqF 16 (.d (vI (vs.length:Nat))) rfl (by rw[hml]<;>rfl) ?_
 refine gx rfl<|?_
 refine dvC 5 _ J J ?_
 refine dvC 6 _ J J ?_
 refine lp (X:=Bool×Bool×Nat) (fun⟨a,c,k⟩=>[(17, .d (vI (k:Nat))),(5, .d (vB a)),(6, .d (vB c))]) (fun⟨a,c,k⟩=>[]) (fun⟨a,c,k⟩=>(a||(vs.drop k).any (fun v=>(afV t p v).1))=inP t p∧(c&&(vs.drop k).all (fun v=>(afV t p v).1))=alP t p∧k≤vs.length) (fun⟨a,c,k⟩=>vs.length-k) ⟨false,true,0⟩ rfl ⟨by rw[hvs];simp[inP],by rw[hvs];simp[alP],bK _⟩ (fun _=>rfl) (fun⟨a,c,k⟩ hk=>?_)
 try dsimp only at hk⊢
 obtain⟨h1,h2,h3⟩:=hk
 refine br J J J (fun hc18=>?_) (fun hc18=>?_)
 ·
  obtain⟨v,hx⟩: ∃v,vs[k]? =some v:=⟨_,aZ (by omega)⟩
  haveI:=hsb v (bX hx)
  refine ix _ rfl (aaB hx) rfl<|cl rfl (auo (t:=t) (p:=p) (v:=v) (i:=i) (j:=500+500+1) hb hi (by decide)) rfl<|?_
  refine bb J J J (fun hc28=>?_) (fun hc28=>?_)
  ·
   refine dvE 5 _ J J ?_
   exact at_ ⟨true,c,k+1⟩ (by dsimp only;exact⟨⟨by rw[←h1,any_step hx,hc28];simp,by rw[←h2,all_step hx,hc28];simp,by omega⟩,(by omega)⟩)
  ·
   refine dvE 6 _ J J ?_
   exact at_ ⟨a,false,k+1⟩ (by dsimp only;exact⟨⟨by rw[←h1,any_step hx,hc28];simp,by rw[←h2,all_step hx,hc28];simp,by omega⟩,(by omega)⟩)
 ·
  obtain rfl:k=vs.length:=by omega
  rw[fZ] at h1 h2
  have e1:a=inP t p:=by simpa using h1
  have e2:c=alP t p:=by simpa using h2
  refine cl rfl (p_Classes (b:=a) (c:=c)) rfl<|?_
  exact rz rfl (by rw[e1,e2];rfl)
theorem p_LocS{k i:Nat}{t:Tr}{p:PtQ}[hp:BPt p i](h:TrX k t)(hi:i≤10000000:=by decide):PF GB prog 27 [eA t,ePt p] (.tp [vI (abl t p), .v .nilIface]):=by
 have hts:=h.s
 refine fn func27 J J ntmps27 J J (fun C=>?_)
 refine cl (fu:=⟨11⟩) rfl (p_OfA h) rfl<|?_
 refine kbT 13 rfl ?_
 refine gx rfl<|cl rfl (aCF (p:=p) (i:=i) (by omega)) rfl<|cl rfl (p_TClass (t:=t) (p:=p) (i:=i) h.lb h.ok (by omega) hi) rfl<|?_
 exact rz J J
theorem tm_rng(a:Int): -4<a.tmod 4∧a.tmod 4<4:=by
 refine⟨?_,qZ a (by decide)⟩
 have:=Int.lt_tmod_of_pos a (b:=4) (by decide)
 omega
theorem op_rng(a:Int):1≤1+(a.tmod 4+4).tmod 4∧1+(a.tmod 4+4).tmod 4≤4:=by
 have h:=tm_rng a
 rw[Int.tmod_eq_emod_of_nonneg (by omega)]
 omega
theorem q_NextB{b:Nat}{es:List Int}(hes:es.length≤400){a:Nat}(ha:a≤es.length){n:Int}(hn:1≤n)(hn2:n≤1000000):PM GB prog 42 (mkP [none,some (.v (.int .i64 n))] b) b 94 [.sl (es.map vI), .v (.int .i64 (a:Nat))] (.v (.int .i64 ((aae es n a).1:Nat))) [.sl (es.map vI), .v (.int .i64 ((aae es n a).2:Nat))]:=by
 have hel:(es.map vI).length=es.length:=by simp
 refine fnM func42 J J ntmps42 J J (fun C b m lo hmb=>?_)
 refine br J J J (fun hc15=>?_) (fun hc15=>?_)
 ·
  have hf:aae es n a=(0,a):=by unfold aae;rw[dif_neg (by omega)]
  exact rzM hmb J J (by rw[hf]<;>rfl) (by rw[hf]<;>rfl)
 ·
  have hal:a<es.length:=by omega
  obtain⟨e,he⟩: ∃e,e=es[a]:=⟨_,rfl⟩
  have q2:=qZ e (show 0<n by omega)
  have q3: -n<Int.tmod e n:=by have:=Int.lt_tmod_of_pos e (show 0<n by omega);omega
  refine ix (fu:=⟨1⟩) _ rfl (aqp hal) rfl<|?_
  refine eqF 25 (.d (vI e)) rfl (by rw[he]<;>rfl) ?_
  refine gx (hv:=by simp only[aai];exact⟨⟨by omega,by kernel_rfl⟩,by omega⟩) rfl<|?_
  refine br J J J (fun hc36=>?_) (fun hc36=>?_)
  ·
   have hf:aae es n a=((Int.tmod e n+n).toNat,a+1):=by unfold aae;rw[dif_pos hal,←he,if_pos hc36]
   exact rzM hmb J J (by rw[hf];show DV.v (.int .i64 _)=DV.v (.int .i64 _);rw[lV (by omega)]) (by rw[hf]<;>rfl)
  ·
   have hf:aae es n a=((Int.tmod e n).toNat,a+1):=by unfold aae;rw[dif_pos hal,←he,if_neg hc36]
   exact rzM hmb J J (by rw[hf];show DV.v (.int .i64 _)=DV.v (.int .i64 _);rw[lV (by omega)]) (by rw[hf]<;>rfl)
theorem q_PartI{n:Int}{d:Nat}(hn:n.natAbs≤1000)(hd:0<d)(hd1:d≤1000):PF GB prog 147 [vI n, .v (.int .i64 (d:Nat))] (eQ (mkRat n d)):=by
 haveI:BI n 10:=aBD (by omega)
 haveI:BN d 10:=⟨by omega⟩
 refine fn func147 J J ntmps147 J J (fun C=>?_)
 refine cl rfl (aB9 (n:=n) (by omega) (by omega)) rfl<|cl rfl (agy (u:=d) (by omega)) rfl<|cl rfl (ajH (x:=n) (d:=d) hd) rfl<|?_
 exact rz J J
def qF(es:List Int)(a:Nat):Rat×Nat:=
 (if((aae es 6 (aae es 9 a).2).1:Int)=0 then mkRat (2*(((aae es 9 a).1:Int)-4)+1) 2 else if((aae es 6 (aae es 9 a).2).1:Int)=1 then mkRat (3*(((aae es 9 a).1:Int)-4)+1) 3 else(((aae es 9 a).1:Rat)-4:Rat),(aae es 6 (aae es 9 a).2).2)
theorem qF_ok{es:List Int}{a:Nat}(ha:a≤es.length):BQ (qF es a).1 12∧(qF es a).2≤es.length:=by
 have h1:=aa0 (es:=es) (n:=9) (a:=a) (by decide)
 refine⟨?_,aat (aat ha)⟩
 unfold qF
 dsimp only
 split
 ·exact aeC (by decide) (by omega) (by decide)
 ·split
  ·exact aeC (by decide) (by omega) (by decide)
  ·haveI:BI (((aae es 9 a).1:Int)-4:Int) 11:=aBD (by omega)
   have e:((((aae es 9 a).1:Rat)-4):Rat)=((((aae es 9 a).1:Int)-4:Int):Rat):=by rw[mL];rfl
   rw[e]
   exact inferInstance
def pntF(es:List Int)(a:Nat):PtQ×Nat:=(⟨(qF es a).1,(qF es (qF es a).2).1⟩,(qF es (qF es a).2).2)
theorem pntF_ok{es:List Int}{a:Nat}(ha:a≤es.length):BPt (pntF es a).1 1200∧(pntF es a).2≤es.length:=by
 obtain⟨h1,h2⟩:=qF_ok ha
 obtain⟨h3,h4⟩:=qF_ok h2
 exact⟨⟨h1.mono (by decide),h3.mono (by decide)⟩,h4⟩
theorem q9(z:Nat):(z:Rat)-4=(((z:Int)-4:Int):Rat):=by rw[mL];rfl
def lnO:LnQ:=⟨1,0,0⟩
def plcF(es:List Int)(L:List LnQ)(a:Nat):PtQ×Nat:=
 if L.length=0 then pntF es a else
 if((aae es 3 (aae es L.length a).2).1:Int)=0 then
  (if crossI (L.getD (aae es L.length a).1 lnO) (L.getD (aae es L.length (aae es 3 (aae es L.length a).2).2).1 lnO)≠0 then(acR (L.getD (aae es L.length a).1 lnO) (L.getD (aae es L.length (aae es 3 (aae es L.length a).2).2).1 lnO),(aae es L.length (aae es 3 (aae es L.length a).2).2).2) else pntF es (aae es L.length (aae es 3 (aae es L.length a).2).2).2)
 else if((aae es 3 (aae es L.length a).2).1:Int)=1 then((L.getD (aae es L.length a).1 lnO).at (qF es (aae es 3 (aae es L.length a).2).2).1,(qF es (aae es 3 (aae es L.length a).2).2).2) else pntF es (aae es 3 (aae es L.length a).2).2
theorem q_TQ{b:Nat}{es:List Int}(hes:es.length≤400){a:Nat}(ha:a≤es.length):PM GB prog 73 (mkP [none] b) b 94 [.sl (es.map vI), .v (.int .i64 (a:Nat))] (eQ (qF es a).1) [.sl (es.map vI), .v (.int .i64 ((qF es a).2:Nat))]:=by
 have h1:=aa0 (es:=es) (n:=9) (a:=a) (by decide)
 refine fnM func73 J J ntmps73 J J (fun C b m lo hmb=>?_)
 refine cm rfl (fun b=>(abD (n:=9) hes ha (by decide) (by decide))) rfl<|cm rfl (fun b=>(abD (n:=6) hes (aat ha) (by decide) (by decide))) rfl<|?_
 refine br J J J (fun hc9=>?_) (fun hc9=>?_)
 ·
  refine cl rfl (q_PartI (n:=2*(((aae es 9 a).1:Int)-4)+1) (d:=2) (by omega) (by decide) (by decide)) rfl<|?_
  exact rzM hmb J J (by unfold qF;dsimp only;rw[if_pos hc9];rfl) rfl
 ·
  refine br J J J (fun hc15=>?_) (fun hc15=>?_)
  ·
   refine cl rfl (q_PartI (n:=3*(((aae es 9 a).1:Int)-4)+1) (d:=3) (by omega) (by decide) (by decide)) rfl<|?_
   exact rzM hmb J J (by unfold qF;dsimp only;rw[if_neg hc9,if_pos hc15];rfl) rfl
  ·
   refine cl rfl (al0 (n:=(((aae es 9 a).1:Int)-4)) (by omega) (by omega)) rfl<|?_
   exact rzM hmb J J (by unfold qF;dsimp only;rw[if_neg hc9,if_neg hc15,q9];rfl) rfl
theorem q_TPoint{b:Nat}{es:List Int}(hes:es.length≤400){a:Nat}(ha:a≤es.length):PM GB prog 70 (mkP [none] b) b 94 [.sl (es.map vI), .v (.int .i64 (a:Nat))] (eP (pntF es a).1) [.sl (es.map vI), .v (.int .i64 ((pntF es a).2:Nat))]:=by
 refine fnM func70 J J ntmps70 J J (fun C b m lo hmb=>?_)
 refine cm rfl (fun b=>(q_TQ hes ha)) rfl<|cm rfl (fun b=>(q_TQ hes (qF_ok ha).2)) rfl<|?_
 exact rzM hmb J J J J
theorem q_LinesL{t:Tr}{L:List LnQ}(h:L=adR t.lns)(hb:t.all LB)(hs:t.size≤100000):PR GB prog 33 [eT t] 6 88 (L.map eL):=h▸awb hb hs
theorem q_NextE{b:Nat}{es:List Int}(hes:es.length≤400){a i c:Nat}(ha:a≤es.length){n:Int}(hn:1≤n)(hn2:n≤1000000)(e:aae es n a=(i,c)):PM GB prog 42 (mkP [none,some (.v (.int .i64 n))] b) b 94 [.sl (es.map vI), .v (.int .i64 (a:Nat))] (.v (.int .i64 (i:Nat))) [.sl (es.map vI), .v (.int .i64 (c:Nat))]:=by
 have:=q_NextB (GB:=GB) (b:=b) hes ha hn hn2
 rw[e] at this
 exact this
theorem getD_at{L:List LnQ}{i:Nat}{m:LnQ}(h:L[i]? =some m):L.getD i lnO=m:=by rw[aK,h];rfl
theorem nextF_at{es:List Int}{n:Int}{a i c:Nat}(ha:a≤es.length)(hn:1≤n)(e:aae es n a=(i,c)):(i:Int)<n∧c≤es.length:=by
 have h1:=aa0 (es:=es) (n:=n) (a:=a) hn
 have h2:=aat (n:=n) ha
 rw[e] at h1 h2
 exact⟨h1,h2⟩
theorem meet_bd{l m:LnQ}(h:LB l)(k:LB m):BPt (acR l m) 1200:=by
 have:= @BPt.imeet l m h k
 exact⟨this.x.mono (by decide),this.y.mono (by decide)⟩
theorem plcF_ok{es:List Int}{L:List LnQ}(hL: ∀l∈L,LB l){a:Nat}(ha:a≤es.length):BPt (plcF es L a).1 1200∧(plcF es L a).2≤es.length:=by
 unfold plcF
 split
 ·exact pntF_ok ha
 ·rename_i h0
  have h1:=aat (n:=(L.length:Int)) ha
  have h2:=aat (n:=3) h1
  have hn:(1:Int)≤L.length:=by omega
  have hg: ∀{c:Nat},c<L.length→LB (L.getD c lnO):=fun{c} hc=>by rw[getD_at (aZ hc)];exact hL _ (cJ hc)
  have i1:=hg (c:=(aae es L.length a).1) (by have:=aa0 (es:=es) (n:=(L.length:Int)) (a:=a) hn;omega)
  split
  ·have i2:=hg (c:=(aae es L.length (aae es 3 (aae es L.length a).2).2).1) (by have:=aa0 (es:=es) (n:=(L.length:Int)) (a:=(aae es 3 (aae es L.length a).2).2) hn;omega)
   split
   ·exact⟨meet_bd i1 i2,aat h2⟩
   ·exact pntF_ok (aat h2)
  ·split
   ·obtain⟨q1,q2⟩:=qF_ok h2
    haveI:=i1
    have:= @BPt.at (L.getD (aae es L.length a).1 lnO) (qF es (aae es 3 (aae es L.length a).2).2).1 12 i1 q1
    exact⟨⟨this.x.mono (by decide),this.y.mono (by decide)⟩,q2⟩
   ·exact pntF_ok h2
theorem q_KPlace{b:Nat}{es:List Int}(hes:es.length≤400){a:Nat}(ha:a≤es.length){t:Tr}{L:List LnQ}(hL:L=adR t.lns)(hb:t.all LB)(ho:t.all LnQ.ok)(hs:t.size≤100000):PM GB prog 26 (mkP [none,some (eT t)] b) b 94 [.sl (es.map vI), .v (.int .i64 (a:Nat))] (eP (plcF es L a).1) [.sl (es.map vI), .v (.int .i64 ((plcF es L a).2:Nat))]:=by
 have hLB: ∀l∈L,LB l:=by rw[hL];exact asr (act.1 hb)
 have hLN: ∀l∈L,l.Ne:=by rw[hL];exact arA (adB ho)
 have hLl:L.length≤100000:=by rw[hL];have:=arI t.lns;rw[af9] at this;omega
 have hml:(L.map eL).length=L.length:=aJ ..
 refine fnM func26 J J ntmps26 J J (fun C b m lo hmb=>?_)
 refine cr (fu:=⟨8⟩) rfl (q_LinesL hL hb hs) rfl<|?_
 refine eqF 12 (.d (vI (L.length:Nat))) rfl (by rw[hml]<;>rfl) ?_
 refine gx rfl<|?_
 refine br (fu2:=⟨8⟩) J J J (fun hc13=>?_) (fun hc13=>?_)
 ·
  have hf:plcF es L a=pntF es a:=if_pos (by omega)
  refine cm rfl (fun b=>(q_TPoint hes (by assumption))) rfl<|?_
  exact rzM hmb J J (by rw[hf]<;>rfl) (by rw[hf])
 ·
  obtain⟨⟨i,a1⟩,e1⟩: ∃x,aae es L.length a=x:=⟨_,rfl⟩
  obtain⟨il,a1l⟩:=nextF_at (by assumption) (by omega) e1
  obtain⟨m,hx⟩: ∃m,L[i]? =some m:=⟨_,aZ (by omega)⟩
  haveI:=hLB m (bX hx)
  obtain⟨⟨k,a2⟩,e2⟩: ∃x,aae es 3 a1=x:=⟨_,rfl⟩
  obtain⟨kl,a2l⟩:=nextF_at (by assumption) (by decide) e2
  have hmN:=hLN m (bX hx)
  haveI hq:=(qF_ok a2l).1
  refine eqF 19 (.d (vI (L.length:Nat))) rfl (by rw[hml]<;>rfl) ?_
  refine gx rfl<|cm rfl (fun b=>(q_NextE (n:=(L.length:Int)) hes ha (by omega) (by omega) e1)) rfl<|lb _ rfl (aaB hx) rfl<|cm rfl (fun b=>(q_NextE (n:=3) hes a1l (by decide) (by decide) e2)) rfl<|?_
  refine br (fu1:=⟨7⟩) J J J (fun hc25=>?_) (fun hc25=>?_)
  ·
   obtain⟨⟨j,a3⟩,e3⟩: ∃x,aae es L.length a2=x:=⟨_,rfl⟩
   obtain⟨jl,a3l⟩:=nextF_at (by assumption) (by omega) e3
   obtain⟨m2,hx2⟩: ∃m,L[j]? =some m:=⟨_,aZ (by omega)⟩
   haveI:=hLB m2 (bX hx2)
   refine eqF 32 (.d (vI (L.length:Nat))) rfl (by rw[hml]<;>rfl) ?_
   refine gx rfl<|cm rfl (fun b=>(q_NextE (n:=(L.length:Int)) hes a2l (by omega) (by omega) e3)) rfl<|lb _ rfl (aaB hx2) rfl<|cl rfl (as8 (l:=m) (m:=m2)) rfl<|?_
   refine bd J J J (fun hc39=>?_) (fun hc39=>?_)
   ·
    have hf:plcF es L a=(acR m m2,a3):=by unfold plcF;rw[if_neg (by omega),e1];dsimp only;rw[e2];dsimp only;rw[if_pos hc25,e3];dsimp only;rw[getD_at hx,getD_at hx2,if_pos hc39]
    exact rzM hmb J J (by rw[hf]<;>rfl) (by rw[hf])
   ·
    have hf:plcF es L a=pntF es a3:=by unfold plcF;rw[if_neg (by omega),e1];dsimp only;rw[e2];dsimp only;rw[if_pos hc25,e3];dsimp only;rw[getD_at hx,getD_at hx2,if_neg hc39]
    refine cm rfl (fun b=>(q_TPoint hes (by assumption))) rfl<|?_
    exact rzM hmb J J (by rw[hf]<;>rfl) (by rw[hf])
  ·
   refine br J J J (fun hc41=>?_) (fun hc41=>?_)
   ·
    have hf:plcF es L a=(m.at (qF es a2).1,(qF es a2).2):=by unfold plcF;rw[if_neg (by omega),e1];dsimp only;rw[e2];dsimp only;rw[if_neg hc25,if_pos hc41,getD_at hx]
    refine cm rfl (fun b=>(q_TQ hes a2l)) rfl<|cl rfl (aEB (l:=m) (t:=(qF es a2).1) (k:=12) hmN) rfl<|?_
    exact rzM hmb J J (by rw[hf]<;>rfl) (by rw[hf])
   ·
    have hf:plcF es L a=pntF es a2:=by unfold plcF;rw[if_neg (by omega),e1];dsimp only;rw[e2];dsimp only;rw[if_neg hc25,if_neg hc41]
    refine cm rfl (fun b=>(q_TPoint hes (by assumption))) rfl<|?_
    exact rzM hmb J J (by rw[hf]<;>rfl) (by rw[hf])
theorem q_bothM{b:Nat}{es:List Int}(hes:es.length≤400){A B:Tr}{c:Nat}(hA:A=(afn es 0).1.1)(hB:B=(afn es 0).1.2)(hc:c=(afn es 0).2):PM GB prog 29 (mkP [none] b) b 94 [.sl (es.map vI), .v (.int .i64 (0:Nat))] (.tp [eT A,eT B]) [.sl (es.map vI), .v (.int .i64 (c:Nat))]:=by
 subst hA hB hc;exact q_both hes (bK _)
theorem q_MergeClasses{ai al ae:Addr}(hE:EG GB ai al ae){es0:List Int}(hb:es0.length≤1125899906842624){op:Int}(ho1: -9223372036854775808≤op∧op<9223372036854775808):PF GB prog 6 [.sl (es0.map vI),vI op] (.v (.bool true)):=by
 obtain⟨es,hee⟩: ∃es,es=es0.take 400:=⟨_,rfl⟩
 have hes:es.length≤400:=by rw[hee];simp;omega
 obtain⟨hA,hB,hab⟩:=avq (es:=es) (bK es.length)
 obtain⟨A,hAe⟩: ∃A,A=(afn es 0).1.1:=⟨_,rfl⟩
 obtain⟨B,hBe⟩: ∃B,B=(afn es 0).1.2:=⟨_,rfl⟩
 rw[←hAe] at hA
 rw[←hBe] at hB
 have htm:=tm_rng op
 obtain⟨o,ho2⟩: ∃o,o=1+(op.tmod 4+4).tmod 4:=⟨_,rfl⟩
 have ho:1≤o∧o≤4:=ho2▸op_rng op
 have htm2:=tm_rng (op.tmod 4+4)
 obtain⟨c,hc⟩: ∃c,c=(afn es 0).2:=⟨_,rfl⟩
 rw[←hc] at hab
 have hM:=TrX.merge (op:=o) hA hB (by decide)
 have hA2:=hA.s
 have hB2:=hB.s
 obtain⟨L,hL⟩: ∃L,L=adR A.lns:=⟨_,rfl⟩
 have hpl:=plcF_ok (L:=L) (fun l hl=>asr (act.1 hA.lb) l (by rw[←hL];exact hl)) hab
 obtain⟨p,hp⟩: ∃p,p=(plcF es L c).1:=⟨_,rfl⟩
 rw[←hp] at hpl
 haveI:=hpl.1
 have hcm:=aob (p:=p) hA.ok hB.ok o
 obtain⟨N,hN⟩: ∃N,N=A.mergeQ o B []:=⟨_,rfl⟩
 rw[←hN] at hM hcm
 refine fn func6 J J ntmps6 J J (fun C=>?_)
 refine cn rfl ((q_NewT hb hee)) (fun _=>rfl) (fun _=>?_)
 refine cm (fu:=⟨14⟩) rfl (fun b=>(q_bothM hes hAe hBe hc)) rfl<|?_
 refine eqF 28 (.d (vI o)) rfl (by rw[ho2]<;>rfl) ?_
 refine gx rfl<|cm (fu:=⟨0⟩) rfl (fun b=>(q_KPlace (t:=A) (L:=L) hes hab hL hA.lb hA.ok (by omega))) rfl<|?_
 refine eqF 31 (.d (eP p)) rfl (by rw[hp]) ?_
 refine gx rfl<|cl rfl (aCQ (p:=p) (i:=1200)) rfl<|cl rfl (q_WriteX hA) rfl<|cl rfl (p_LocS (t:=A) (p:=p) (i:=1200) hA) rfl<|cl rfl (q_WriteX hB) rfl<|?_
 refine cl rfl (p_LocS (t:=B) (p:=p) (i:=1200) hB) rfl<|cl rfl (q_WriteX hA) rfl<|cl rfl (q_WriteX hB) rfl<|cl (fu:=⟨0⟩) rfl (p_MMergeX hE ho hA hB (by decide)) rfl<|?_
 refine eqF 53 (.d (.tp [eA N, .v .nilIface])) rfl (by rw[hN]) ?_
 refine gx rfl<|cl rfl (p_LocS (t:=N) (p:=p) (i:=1200) hM) rfl<|?_
 refine cs 78 J J J (fun hg78=>?_) (fun hg78=>?_)
 ·
  refine cl rfl (ain hE) rfl<|?_
  exact rz J J
 ·
  refine br J J J (fun hc81=>?_) (fun hc81=>?_)
  ·
   refine cl rfl (ain hE) rfl<|?_
   exact rz J J
  ·
   obtain⟨w,hw⟩: ∃w,w=opB o (decide (abl A p=2)) (decide (abl B p=2)):=⟨_,rfl⟩
   have hcl:=hcm hg78 hc81
   rw[←hw] at hcl
   refine cl (fu:=⟨0⟩) rfl (ain hE) rfl<|?_
   refine kbT 83 rfl ?_
   refine gx (fu:=⟨1⟩) rfl<|?_
   cases w
   ·
    refine gx (fu:=⟨1⟩) rfl<|?_
    refine eqF 85 (.d (vI 0)) rfl (by rw[hcl]<;>rfl) ?_
    refine gx (fu:=⟨0⟩) rfl<|knF rfl (by rfl) rfl<|cl (fu:=⟨0⟩) rfl (aFd (op:=o) (x:=decide (abl A p=2)) (y:=decide (abl B p=2))) rfl<|?_
    refine eqF 92 (.d (vB false)) rfl (by rw[←hw]<;>rfl) ?_
    refine kbF 92 rfl ?_
    refine gx (fu:=⟨0⟩) rfl<|knT (fu:=⟨3⟩) J J J<|?_
    refine eqF 96 (.d (vI 0)) rfl (by rw[hcl]<;>rfl) ?_
    refine gx (fu:=⟨0⟩) rfl<|knT rfl (by rfl) rfl<|?_
    exact rz J J
   ·
    refine gx (fu:=⟨1⟩) rfl<|?_
    refine eqF 85 (.d (vI 2)) rfl (by rw[hcl]<;>rfl) ?_
    refine gx (fu:=⟨0⟩) rfl<|knT rfl (by rfl) rfl<|cl (fu:=⟨0⟩) rfl (aFd (op:=o) (x:=decide (abl A p=2)) (y:=decide (abl B p=2))) rfl<|?_
    refine eqF 92 (.d (vB true)) rfl (by rw[←hw]<;>rfl) ?_
    refine kbT 92 rfl ?_
    refine gx (fu:=⟨0⟩) rfl<|knT (fu:=⟨3⟩) J J J<|?_
    refine eqF 96 (.d (vI 2)) rfl (by rw[hcl]<;>rfl) ?_
    refine gx (fu:=⟨0⟩) rfl<|knT rfl (by rfl) rfl<|?_
    exact rz J J
end Go.Sx
end
section
namespace Go.Sx
open Go Go.Proofs Go.ChangeShapes Go.WideShapes Go.ChangeAt Go.RowKit
def GW(w:World):Gh:=fun b=>match w.heap[b]? with|some (.cells cs _ _)=>some cs.toList|_=>none
theorem GW.sub{w:World}{b:Nat}{cs:List Value}(h:GW w b=some cs): ∃ty fz,w.heap[b]? =some (.cells ⟨cs⟩ ty fz):=by
 unfold GW at h
 split at h
 ·rename_i c t f e
  cases h
  exact⟨t,f,by rw[e]⟩
 ·cases h
theorem GW.of_cell{w:World}{b off:Nat}{v:Value}(h:w.cell? ⟨b,off,none⟩=some v): ∃cs,GW w b=some cs∧cs[off]? =some v:=by
 unfold World.cell? at h
 unfold GW
 split at h
 ·rename_i c t f e
  simp only at e
  refine⟨c.toList,by rw[e],?_⟩
  simpa using h
 all_goals first|(rename_i e;cases h)|cases h
theorem acb.below{w w':World}{G G':Gh}{own:List Own}(h:acb ⟨w,G,[]⟩ own G' w'):Below w.heap.size w w':=
 ⟨h.os,h.tape,h.output,h.size,fun k hk=>h.keep k hk (by simp)⟩
theorem isLs_vI{G:Gh}: ∀es:List Int,IsLs G (es.map vI) (es.map fun n=>Value.int .i64 n)
 |[]=> .nil
 |n::t=> .cons (aaP.2 rfl) (isLs_vI t)
theorem open_vI{base:Nat}{H:Type}{enc:TypeId×Value→H}{P:Program}{w:World}{t e:TypeId}{v:Value}{d:DataW H}{ps:List MemPlace}(ht:P.underlying t=some (.slice e))(he:P.underlying e=some (.int .i64))(hc:P.cellsOf e=1)
  (hv:Value.okWide P w .any base t v)(h:DataW.Trod enc P w 0 (fun _=>true) true t v d ps):
  ∃es:List Int,Is (GW w) (.sl (es.map vI)) v∧(d= .nil∧es=[]∨ ∃sp,d= .slice (lits .i64 es) sp)∧(∀n∈es,(Lit.int .i64 n).wf=true):=by
 obtain⟨a0,len,cap,rfl⟩:=okWide_slice ht hv
 obtain⟨fuel,hf⟩:=h
 rcases open_ints ht he hc hf with⟨hcs,hx⟩|⟨a,len',cap',zs,hcs,_,hl,hm,hz,hx,hcell,hwz⟩
 ·simp[Value.cells] at hcs
  obtain⟨rfl,rfl,rfl⟩:=hcs
  simp only[Prod.mk.injEq] at hx
  exact⟨[],adm.2 ⟨0,⟨none,0,0⟩,[],rfl,aeZ.nil _ 0, .nil⟩, .inl ⟨hx.1,rfl⟩,by simp⟩
 ·simp[Value.cells] at hcs
  obtain⟨rfl,rfl,rfl⟩:=hcs
  simp only[Prod.mk.injEq] at hx
  simp only[if_true] at hz
  refine⟨zs.take len,adm.2 ⟨1,⟨some a,len,cap⟩,(zs.take len).map fun n=>Value.int .i64 n,rfl,⟨by simp;omega,hl,?_⟩,isLs_vI _⟩, .inr ⟨_,hx.1⟩,fun n hn=>hwz n (cM hn)⟩
  by_cases h0:len=0
  ·exact .inl (by simp[h0])
  ·right
   obtain⟨b,off,spot⟩:=a
   have hspot:spot=none:=by simpa[Addr.add] using World.cell?_spot (hcell 0 (by omega))
   subst hspot
   have c0: ∀i,i<zs.length→w.cell? ⟨b,off+i,none⟩=some (.int .i64 (zs.getD i 0)):=fun i hi=>by
    have:=hcell i hi
    rwa [Go.WideShapes.add_plain] at this
   obtain⟨cs,hcs,_⟩:=GW.of_cell (by have h9:=c0 0 (by omega);rw[Nat.add_zero] at h9;exact h9)
   refine⟨b,off,cs,rfl,hcs,fun i hi=>?_⟩
   simp only[aJ,cK] at hi
   obtain⟨cs',hcs',hi'⟩:=GW.of_cell (c0 i (by omega))
   rw[hcs] at hcs'
   cases hcs'
   rw[gW,aty.2 hi']
   simp[aaf,List.getD,aZ (show i<zs.length by omega)]
inductive CSh where
 |b
 |i (k:IntKind)
 |sl (ag:Bool) (l:List CSh)
mutual
def Fit:CSh→DV→Prop
 | .b,d=> ∃b,d= .v (.bool b)
 | .i k,d=> ∃n,d= .v (.int k n)∧(Lit.int k n).wf=true
 | .sl ag l,d=> ∃m:List DV,d= .sl m∧m.length≤maxLen∧ ∀x∈m,∃ys,FitL l ys∧((ag=true∧x= .ag ys)∨(ag=false∧ys=[x]))
def FitL:List CSh→List DV→Prop
 |[],ds=>ds=[]
 |s::l,ds=> ∃d t,ds=d::t∧Fit s d∧FitL l t
end
def flatF(r:TypeId→Option (Bool×List CSh))(P:Program):List Field→Nat→Option (List CSh)
 |[],_=>some []
 |f::fs,o=>match r f.type with
  |some (_,l)=>if f.offset=o∧P.cellsOf f.type=l.length then(flatF r P fs (o+l.length)).map (l++ ·) else none
  |none=>none
def flatT(P:Program):Nat→TypeId→Option (Bool×List CSh)
 |0,_=>none
 |n+1,t=>match P.underlying t with
  |some .bool=>some (false,[.b])
  |some (.int k)=>some (false,[.i k])
  |some (.slice e)=>match flatT P n e with
   |some (a,l)=>if P.cellsOf e=l.length∧0<l.length then some (false,[.sl a l]) else none
   |none=>none
  |some (.struct fs)=>match flatF (flatT P n) P fs.toList 0 with
   |some l=>if P.cellsOf t=l.length then some (true,l) else none
   |none=>none
  |_=>none
section
variable {H:Type} {enc:TypeId×Value→H} {P:Program} {w:World}
end
def shI:List CSh:=[.b, .sl false [.i .u32]]
def shL:List CSh:=shI++(shI++shI)
theorem es_star: "*" ++ "errors.errorString" = "*errors.errorString" :=by decide
theorem es_row(u:TypeId)(h:Tryz.prog.typeName? 3 u=some "*errors.errorString"):u=399:=
 typeName_ptr_named (nm:= "errors.errorString") (by rw[es_star];kernel_rfl) (by kernel_rfl) (by decide) u (by rw[es_star];exact h)
theorem sent_of{W:World}{n:String}{g:Nat}{text:List UInt8}{r:List (String×DataW Unit)}(h:laidMet Tryz.prog ((n, .iface "*errors.errorString" (.ptr (.agg [.lit (.string text)])))::r) W)(hg:Tryz.prog.globalNamed n=some g)(ht:(Tryz.prog.globals[g]?).map (·.type)=some 37):
  ∃a,GW W g=some [.iface 399 (.pointer (some a))]:=by
 obtain⟨a,s,hv,_⟩:=laid_sentinel h hg ht Tryz.underlying37 es_row Tryz.underlying399 Tryz.underlying424 rfl rfl Tryz.underlying9 (by kernel_rfl) (by kernel_rfl)
 refine⟨a,?_⟩
 unfold World.var? at hv
 rw[hg,Option.bind_some] at hv
 unfold GW
 split at hv
 ·rename_i c t f e
  rw[e];cases hv;rfl
 ·cases hv
theorem laid_plain{W:World}{l:List (String×DataW Unit)}(h:laidMetH Tryz.prog l W)(hp:(l.all fun x=>x.2.handleName?.isNone)=true):laidMet Tryz.prog l W:=by rwa [Go.MakeChecks.laidMetH_plain _ _ _ hp] at h
end Go.Sx
end
section
namespace Go.Proofs.YtopfgminkdfpkaaGreatDoor.mergeClasses
open Go.ChangeShapes Go.WideShapes Go.ChangeAt Go.RowKit Go.Sx
theorem own:ownKnob Tryz.prog.godebug=none:=by kernel_rfl
theorem laidOut:laidOutB Tryz.prog=true:=by kernel_rfl
theorem cellsI:Tryz.prog.cellsOf 3=1:=by kernel_rfl
theorem bytesI:Tryz.prog.bytesOf 3=8:=by kernel_rfl
theorem door_met(os:Os)(args:Array Value):laidMetH Tryz.prog Rows.mergeClassesRow.laid ((World.doorLaid Tryz.prog 66 os).forCall (fun _ _=>0) ⟨#[],args,[]⟩).memory:=
 laidMetH_of_parts3 (fuel:=8) (laidMet_of_run' 8 (by kernel_rfl) (by kernel_rfl)) (by kernel_rfl) (by kernel_rfl)
theorem wf_i64{n:Int}(h:(Lit.int .i64 n).wf=true): -9223372036854775808≤n∧n<9223372036854775808:=by
 simp only[Lit.wf,Bool.and_eq_true,decide_eq_true_eq] at h
 have e1:IntKind.i64.min= -9223372036854775808:=rfl
 have e2:IntKind.i64.max=9223372036854775807:=rfl
 omega
theorem eg_of{W:World}(h:laidMetH Tryz.prog Rows.mergeClassesRow.laid W): ∃ai al ae,EG (GW W) ai al ae:=by
 have h1:=laid_plain h rfl
 obtain⟨ai,hi⟩:=sent_of (g:=1) h1 (by kernel_rfl) (by kernel_rfl)
 obtain⟨al,hl⟩:=sent_of (g:=2) h1.tail (by kernel_rfl) (by kernel_rfl)
 exact⟨ai,al,al,hi,hl⟩
theorem contract(H:Type)(enc:TypeId×Value→H)(W:World)(base:Nat)(args:Array Value)(ds gs:List (DataW H))(before:List MemPlace)
  (hval: ∀(j:Nat) t v,Tryz.f6.params[j]? =some t→args[j]? =some v→Value.okWide Tryz.prog W .any base t v)
  (hW:DataW.Whole enc Tryz.prog Tryz.f6.params.toList Rows.mergeClassesSpec.vars false W args.toList ds gs before)
  (hz:(DataW.weightsEach Tryz.prog (Tryz.f6.params.toList++(OpenSpec.ofChange Rows.mergeClassesSpec).bare.plain.varTypes Tryz.prog) (ds++gs)).all (· ≤reachBytes)=true)(hlaid:laidMetH Tryz.prog Rows.mergeClassesRow.laid W):
  Calls Tryz.prog 6 args W fun e W'=> ∃v,e= .returned v∧Rows.mergeClassesSpec.post enc Tryz.prog Tryz.f6 false true false false W args v W':=by
 have hW':=hW
 obtain⟨p,q,hA0,hV,rfl,_,_⟩:=hW
 have hA:DataW.TrodAll enc Tryz.prog W 0 (fun _=>true) true Tryz.f6.params.toList args.toList ds p:=hA0
 rw[Tryz.params6] at hA hval hz
 obtain⟨v0,v1,d0,d1,p0,p1,hargs,rfl,rfl,h0,h1⟩:=trodAll_two hA
 subst hargs
 obtain⟨rfl,rfl⟩:=trodVars_none hV
 obtain⟨n1,rfl,rfl,rfl,w1⟩:=open_int Tryz.underlying3 (hval 1 3 v1 rfl rfl) h1
 clear hA0
 simp only[List.append_nil] at hW'
 have hlt: ∀x∈p0,x.block<W.heap.size:=fun x hx=>by simpa using hW'.lt x hx
 obtain⟨es,hI,hd,_⟩:=open_vI Tryz.underlying22 Tryz.underlying3 cellsI (hval 0 22 v0 rfl rfl) h0
 have hb:es.length≤1125899906842624:=by
  rcases hd with⟨rfl,rfl⟩|⟨sp,rfl⟩
  ·exact Nat.zero_le _
  ·have:=sized_slice hz (j:=0) (t:=22) (e:=3) J J Tryz.underlying22
   rw[bytesI] at this
   have hr:=reachBytes_lt
   have hl:(lits (H:=H) .i64 es).length=es.length:=by simp[lits]
   rw[hl] at this
   omega
 obtain⟨ai,al,ae,hE⟩:=eg_of hlaid
 have hf:=(q_MergeClasses hE (es0:=es) (op:=n1) hb (wf_i64 w1)) (GW W) [v0, .int .i64 n1] (GLe.refl _) (.cons hI (.cons (aaP.2 rfl) .nil))
 refine(hf.run W (fun b cs hg=>GW.sub hg)).mono fun e W' ⟨v,G',he,hr,hv⟩=>?_
 rw[aaP] at hv
 subst hv
 subst he
 have hn:=hr.below
 have t2:=trodAll_mk2 (Below.trod laidOut (by kernel_rfl) (of_decide_eq_true (by kernel_rfl)) h0 hn hlt) (shut_int Tryz.underlying3 w1)
 simp only[List.append_nil] at t2
 exact⟨_,rfl,⟨_,_,_,[],_,[],hW',trodAll_mk1 (shut_bool Tryz.underlying4 _),t2,rfl,hn.frame _,fun h=>by cases h⟩⟩
theorem reads(os:Os){H:Type}(enc:TypeId×Value→H): ∃places,DataW.whole enc Tryz.prog ((World.doorLaid Tryz.prog 66 os).forCall (fun _ _=>0) ⟨#[], #[.slice none 0 0, .int .i64 0],[]⟩).memory Tryz.f6.params.toList Rows.mergeClassesSpec.vars false #[Value.slice none 0 0, .int .i64 0].toList 8=some ([.nil, .lit (.int .i64 0)],[],places):=
 ⟨[],by kernel_rfl⟩
theorem lifted(os:Os)(started:os.Started)(H:Type)(enc:TypeId×Value→H)(F:Stop.Interp):
  ReturnsInHanded {} Tryz.checked os 6 .any ((OpenSpec.ofChange Rows.mergeClassesSpec).preRow enc Tryz.prog Tryz.f6 Rows.mergeClassesRow.domain false Rows.mergeClassesRow.laid) (((OpenSpec.ofChange Rows.mergeClassesSpec).at F).post enc Tryz.prog Tryz.f6 false true false false):=by
 obtain⟨places,hx⟩:=reads os enc
 refine returnsInHanded_of_row (C:=Tryz.checked) (s:=OpenSpec.ofChange Rows.mergeClassesSpec) own started (by kernel_rfl) Tryz.func6
  (witness_row_atRef (enc:=enc) (C:=Tryz.checked) false (World.doorLaid Tryz.prog 66 os) #[.slice none 0 0, .int .i64 0] rfl (by kernel_rfl) (by kernel_rfl) (by kernel_rfl)
   (OpenSpec.preRow_of_cond 8 hx (by kernel_rfl) (fun k hk=>by cases hk) (by kernel_rfl) (door_met os _))) ?_
 intro W base args ds gs before hval hW _ _ hz hlaid _ _
 exact contract H enc W base args ds gs before hval hW hz hlaid
theorem j1:(Rows.mergeClassesRow.inPlace==Tryz.pinned.checked.prog.inPlace 6)=true:=by kernel_rfl
theorem j2:(Rows.mergeClassesRow.unfollowed==Tryz.pinned.checked.prog.unfollowed 6)=true:=by kernel_rfl
theorem j3:(Rows.mergeClassesRow.recurses==Tryz.pinned.checked.prog.recurses 6)=true:=by kernel_rfl
theorem j4:(Rows.mergeClassesRow.named==Tryz.pinned.checked.prog.varsNamed 6)=true:=by kernel_rfl
theorem j5:laidOutB Tryz.pinned.checked.prog=true:=laidOut
theorem j6:mapsRowed Tryz.pinned.checked.prog=true:=by kernel_rfl
theorem j7:Tryz.pinned.checked.prog.mainIs=some (Rows.mergeClassesCard.stood.harness.1,Rows.mergeClassesCard.stood.harness.2.toList):=by kernel_rfl
theorem j8:false=Rows.mergeClassesRow.goesBy Tryz.pinned.checked.prog:=by kernel_rfl
theorem closed:joinedFacts Tryz.pinned.checked.prog 6 Tryz.f6 (OpenSpec.ofChange Rows.mergeClassesSpec).bare Rows.mergeClassesRow=true:=by
 unfold joinedFacts
 rw[j1,j2,j3,j4,j5,j6]
 kernel_rfl
theorem said:Rows.MergeClassesSaid:=
 OpenClaim.holds_of_cond 6 Tryz.f6 J J J J J J J ⟨rfl,rfl,rfl,rfl,rfl⟩ J J J J J (by kernel_rfl) Tryz.func6 closed
  (of_decide_eq_true (by kernel_rfl)) (by unfold Func.isWrapper;first|(rw[if_pos (by decide+kernel)];kernel_rfl)|(rw[if_neg (by decide+kernel)];exact⟨rfl,rfl⟩))
  (fun os started H enc _ F=>by rw[OpenClaim.pre_eq_preRow];exact lifted os started H enc F)
theorem plain(f:FuncId)(fn:Func)(hf:Tryz.pinned.checked.prog.funcNamed "bspregion/bspregionlaw19.MergeClasses" =some f)(hfn:Tryz.pinned.checked.prog.funcs[f]? =some fn):
  true=Tryz.pinned.checked.prog.looks []∧ ∀(j:Nat) t,fn.params[j]? =some t→Tryz.pinned.checked.prog.wantsStandIn t=false:=by
 obtain rfl:f=6:=Option.some.inj ((show Tryz.prog.funcNamed "bspregion/bspregionlaw19.MergeClasses" =some 6 by kernel_rfl).symm.trans hf) |>.symm
 obtain rfl:fn=Tryz.f6:=(Option.some.inj (Tryz.func6.symm.trans hfn)).symm
 refine⟨by kernel_rfl,fun j t ht=>?_⟩
 rw[Tryz.params6] at ht
 have hm:=Array.mem_of_getElem? ht
 simp only[List.mem_toArray,List.mem_cons,List.not_mem_nil,or_false] at hm
 rcases hm with rfl|rfl
 ·exact(show Tryz.prog.wantsStandIn 22=false by kernel_rfl)
 ·exact(show Tryz.prog.wantsStandIn 3=false by kernel_rfl)
theorem card:Rows.MergeClassesCardSaid:=
 Claim7.holds_tied_plain_at .later [] _ _ _ _ said (fun _ h=>by cases h) (by kernel_rfl) (fun _ h=>by cases h) mergeClasses_row_tie rfl ⟨rfl,rfl⟩ j7 rfl plain j8
#print axioms card
end Go.Proofs.YtopfgminkdfpkaaGreatDoor.mergeClasses
end
