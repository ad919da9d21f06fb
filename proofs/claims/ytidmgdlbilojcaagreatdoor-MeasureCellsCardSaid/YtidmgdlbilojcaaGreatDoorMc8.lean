import Derived.Test.YtidmgdlbilojcaaGreatDoorMc7
import Derived.Shelf.Small.Bits
import Derived.Shelf.Strconv.Itoa0
import Derived.Shelf.Bits.Mul64
import Derived.Test.YtidmgdlbilojcaaGreatDoorProg
set_option linter.unusedSimpArgs false
set_option maxHeartbeats 1000000
set_option maxRecDepth 100000
set_option linter.unusedVariables false
section
namespace Go.Sx
open Go Go.Proofs Tryz
section
variable {GB:Gh} {C:Ctx} {n:Nat} {Q0:Exit→Act→World→Prop} {fr fr':FrX} {own own':OwX} {cf cf':Cf} {vc:List Prop} {ops:Array Oper} {r:List Oper} {K:List Kt}
theorem azL{x y:Nat}{Φ:Act→World→Prop}{R:FzR}(hfx:C.fx=fun _=>none)(h:rnA x y fr own=some R)(hk:SX GB C n (aao R.fr) (aap R.own) Φ):SX GB C n (aao fr) (aap own) Φ:=by
 unfold rnA at h
 rw[cond_eq_ite] at h
 split at h<;>try (cases h;done)
 rename_i hb
 have hxy:x≠y:=fun e=>hb (by subst e;simp)
 rw[aoN,att] at h;cases h
 refine⟨fun ρ G ov a w r=>hk.run (fun k=>if k=y then ρ x else ρ k) G ov a w ?_⟩
 have inv: ∀m B,aap (own.map fun e=>(bif Nat.beq e.1 y then x else bif Nat.beq e.1 x then y else e.1,bif Nat.beq e.1 y then none else rnB x y e.2)) m=some B→ ∃m0 B0,aap own m0=some B0∧rnB x y (some B0)=some B∧(m=y∧m0=x∨m≠y∧m≠x∧m0=m):=fun m B e=>by
  rw[amm hxy] at e
  split at e
  ·cases e
  ·rename_i hm
   split at e
   ·cases hl:aap own x with
    |none=>rw[hl] at e;cases e
    |some B0=>rw[hl] at e;exact⟨x,B0,hl,e, .inl ⟨by assumption,rfl⟩⟩
   ·cases hl:aap own m with
    |none=>rw[hl] at e;cases e
    |some B0=>rw[hl] at e;exact⟨m,B0,hl,e, .inr ⟨by assumption,hm,rfl⟩⟩
 have rho: ∀m m0,(m=y∧m0=x∨m≠y∧m≠x∧m0=m)→(fun k=>if k=y then ρ x else ρ k) m=ρ m0:=fun m m0 h=>by
  rcases h with⟨h1,h2⟩|⟨h1,_,h2⟩
  ·subst h1 h2;simp
  ·subst h2;exact if_neg h1
 refine⟨r.gb,r.h,r.sz,r.df,fun k f e=>?_,fun m B e=>?_,fun m m' B B' e e' hne=>?_,fun m p _ _ e=>by rw[hfx] at e;cases e⟩
 ·rw[aiA] at e
  cases hf:aao fr k with
  |none=>rw[hf] at e;cases e
  |some g=>
   rw[hf] at e;cases e
   obtain⟨v,h1,h2⟩:=r.fx k g hf
   exact⟨v,h1,auj hxy h2⟩
 ·obtain⟨m0,B0,h1,h2,h3⟩:=inv m B e
  obtain⟨os,h4,h5⟩:=r.bx m0 B0 h1
  refine⟨os,?_,h5⟩
  have hr:=rho m m0 h3
  cases B0 with
  |b=>cases h2;obtain⟨vs,q1,q2,q3,q4⟩:=h4;exact⟨vs,by rw[hr];exact q1,q2,q3,q4⟩
  |c=>cases h2;obtain⟨vs,q1,q2,q3,q4,q5⟩:=h4;exact⟨vs,by rw[hr];exact q1,q2,q3,q4,by rw[hr];exact q5⟩
  |o ty cs lo=>cases h2;obtain⟨b,q,q1,q2,q3⟩:=h4;exact⟨b,q,by rw[hr];exact q1,q2,ao1 hxy q3⟩
 ·obtain⟨m0,B0,h1,_,h3⟩:=inv m B e
  obtain⟨m1,B1,h4,_,h6⟩:=inv m' B' e'
  have q1:=rho m m0 h3
  have q2:=rho m' m1 h6
  simp only at q1 q2
  rw[q1,q2]
  refine r.dj m0 m1 B0 B1 h1 h4 fun e=>?_
  rcases h3 with⟨h7,h8⟩|⟨h7,h8,h9⟩<;>rcases h6 with⟨g7,g8⟩|⟨g7,g8,g9⟩
  ·exact hne (h7.trans g7.symm)
  ·exact g8 (by rw[←g9,←e,h8])
  ·exact h8 (by rw[←h9,e,g8])
  ·exact hne (by rw[←h9,e,g9])
theorem rnF{P:Program}(x y:Nat){fr1:FrX}{own1:OwX}{c:Code}(hfx:C.fx=fun _=>none)(h:rnA x y fr own=some ⟨fr1,own1⟩)(k:CfS P GB C n Q0 fr1 own1 (.code c K)):CfS P GB C n Q0 fr own (.code c K):=azL hfx h k
def au2(P:Program)(fb:Func)(R:Ending→World→Prop):Exit→Act→World→Prop:=bodyPostM (FW none) 0 P fb R
structure Fr0 (C:Ctx):Prop where
 mks:C.mks=[]
 rd:C.rd=none
 fx:C.fx=fun _=>none
theorem fnI[fu:Fu]{f:FuncId}{fb:Func}{c:Code}{m:Nat}{ds:List DV}{rv:DV}(hf:prog.funcs[f]? =some fb)(hb:fb.body=some c)(hn:(fb.name== "runtime.NumGoroutine")=false)(hm:fb.ntmps=m)(hlen:Nat.ble ds.length m=true)
  (hgo:go tt m fu.n [] (agI 0 ds) [] (.code c [])=⟨vc,fr,own,cf⟩)(k: ∀C:Ctx,Fr0 C→CfS prog GB C m (au2 prog fb (afR C (fun v G'=>Is G' rv v))) fr own cf)
  (hv:aah vc:=by first|exact trivial|(simp only[aah];kernel_rfl)|(simp only[aah];omega)|(simp only[aah,aK,aN,aY];omega)):PF GB prog f ds rv:=by
 intro G vs hg hvs
 refine⟨⟨fb,hf,hn,by simp[hb]⟩,fun w hw=>?_⟩
 have hlen':vs.length≤m:=by rw[hvs.len];simpa using hlen
 have h:=gx' (GB:=GB) (C:=cxw w G) (Q0:=au2 prog fb (afR (cxw w G) (fun v G'=>Is G' rv v))) hgo hv (k (cxw w G) ⟨rfl,rfl,rfl⟩)
 refine(callsIn_wide (n:=0)).1 (callsIn_of_wp_marks (F:=FW none) (n:=0) hf hb trivial ?_)
 refine h.run (fun _=>⟨none,0,0⟩) G [] _ w ⟨hg,alj hw,by simp;omega,rfl,fun k f e=>ai9 hvs (fun k v hk=>?_) k f e,(fun nm B e=>by cases e),(fun nm nm' B B' e=>by cases e),fun nm p _ _ e=>by cases e⟩
 obtain⟨j,rfl,hj⟩:=acU vs 0 k v hk
 have hj':=(aS.1 hj).1
 rw[kR (by simpa using hj')]
 simpa using hj
def Ctx.mk3(C:Ctx)(D:Nat):Ctx:={C with ex:=(D, .deferred (some []))::C.ex,mks:=[{target:= .collected D,args:= #[]}]}
theorem rzD{fb:Func}{e:Exit}{ds:List DV}{rv:DV}{D:Nat}(hD:C.w0.heap.size≤D)(hx: ∀p∈C.ex,p.1≠D)(hr:avQ tt fr own fb.results.toList=some ds)(hd:akl ds=rv)(he:awF e=true:=by rfl):CfS prog GB (C.mk3 D) n (au2 prog fb (afR C (fun v G'=>Is G' rv v))) fr own (.ex e []):=by
 refine⟨fun ρ G ov a w r=>?_⟩
 obtain⟨vs,h1,h2⟩:=alY r hr
 have hk:Is G rv (abL vs):=hd▸ame h2
 have hex:((D,Obj.deferred (some [])):Nat×Obj)∈(C.mk3 D).ex:=aZ
 have h3:abk C ov G (w.putObj D (.deferred none)):=r.h.putx hex hD (fun _ _ _ h=>by cases h) J J J fun p hp=> .inr ⟨aJ _ hp,hx p hp⟩
 have hres:=ab5 (C:=C) (G:=G) (own:=ov) (w:=w.putObj D (.deferred none)) h1 (aaF a) h3
 have key:LeavesInM (FW none) 0 prog fb a.tmps (afR C (fun v G'=>Is G' rv v)) a.defers .returning w:=by
  rw[r.df]
  exact⟨by simp, .inl ⟨D,_,rfl,run_takeDeferred (r.h.ext _ hex).2,_,hres,_,G,rfl,h3.drop (kY _),hk⟩⟩
 cases e with
 |ret=>exact key
 |normal=>exact key
 |_=>cases he
end
section
variable {GB:Gh} {C:Ctx} {n:Nat} {Q0:Exit→Act→World→Prop} {fr fr':FrX} {own own':OwX} {cf cf':Cf} {vc:List Prop} {ops:Array Oper} {r:List Oper} {K:List Kt}
theorem RlX.later{lk:LK}{bk:BM}{ρ:NE}{G G1:Gh}{ov:List Own}{a:Act}{w w1:World}(r:RlX GB C n lk bk ρ G ov a w)(h:abk (cxw w G) [] G1 w1):RlX GB C n lk bk ρ G1 ov a w1:=
 ⟨r.gb.trans h.gle,r.h.called h,r.sz,r.df,fun k f e=>by obtain⟨y,h1,h2⟩:=r.fx k f e;exact⟨y,h1,h2.up h.gle⟩,fun nm B e=>by obtain⟨os,h1,h2⟩:=r.bx nm B e;exact⟨os,h1.up h.gle,h2⟩,r.dj,r.fxd⟩
def psX:List Nat→List DV→FrX→FrX
 |p::ps,d::ds,fr=>psX ps ds ((p, .d d)::fr)
 |_,_,fr=>fr
theorem ayF{ρ:NE}{G:Gh}: ∀{ps:List Nat} {ds:List DV} {ys tm:List Value} {fr:FrX},IsLs G ds ys→(∀p∈ps,p<tm.length)→(∀k f,aao fr k=some f→ ∃y,tm[k]? =some y∧IsX ρ G f y)→
  ((ps.zip ys).foldl (fun t e=>t.set e.1 e.2) tm).length=tm.length∧ ∀k f,aao (psX ps ds fr) k=some f→ ∃y,((ps.zip ys).foldl (fun t e=>t.set e.1 e.2) tm)[k]? =some y∧IsX ρ G f y
 |[],ds,ys,tm,fr,_,_,h=>⟨rfl,fun k f e=>h k f (by cases ds<;>exact e)⟩
 |p::ps,[],ys,tm,fr,hd,_,h=>by rw[aaN.1 hd];exact⟨rfl,fun k f e=>h k f e⟩
 |p::ps,d::ds,ys,tm,fr,hd,hp,h=>by
  obtain⟨y,m,rfl,h1,h2⟩:=aad.1 hd
  simp only[List.zip_cons_cons,jT,psX]
  have:=ayF (ps:=ps) (ds:=ds) (ys:=m) (tm:=tm.set p y) (fr:=(p, .d d)::fr) h2 (fun q hq=>by rw[aN];exact hp q (aJ _ hq)) fun k f e=>by
   rw[aaI] at e
   split at e
   ·rename_i hk;subst hk;cases e
    exact⟨y,by rw[lM];rw[if_pos rfl,if_pos (hp k aZ)],h1⟩
   ·rename_i hk
    obtain⟨u,h3,h4⟩:=h k f e
    exact⟨u,by rw[lM];rw[if_neg (fun e=>hk e.symm)];exact h3,h4⟩
  rw[aN] at this
  exact this
theorem aq0: ∀(l:List (Nat×Value)) (t:Array Value),(l.foldl (fun t e=>t.setIfInBounds e.1 e.2) t).toList=l.foldl (fun t e=>t.set e.1 e.2) t.toList
 |[],t=>rfl
 |e::l,t=>by simp only[jT];rw[aq0 l];simp
def aFN:FX→Bool
 | .ov nm _=>Nat.ble 2000000 nm
 | .rw _=>false
 | .be .. =>false
 | .rs .. =>false
 | .bx .. =>false
 |_=>true
def aFx:FrX→Bool
 |[]=>true
 |(_,f)::t=>aFN f&&aFx t
theorem asR: ∀{fr:FrX},aFx fr=true→ ∀k f,aao fr k=some f→aFN f=true
 |[],_,k,f,e=>by cases e
 |(j,g)::t,h,k,f,e=>by
  simp only[aFx,bT] at h
  rw[aaI] at e
  split at e
  ·cases e;exact h.1
  ·exact asR h.2 k f e
def AtR(GB:Gh)(C:Ctx)(n:Nat)(fr:FrX)(own:OwX)(a:Act)(w:World):Prop:= ∃ρ G ov,RlX GB C n (aao fr) (aap own) ρ G ov a w
theorem atR{P:Program}:CfS P GB C n Q0 fr own (.ex .normal (.ag (AtR GB C n fr own)::K)):=⟨fun ρ G ov a w r=>⟨ρ,G,ov,r⟩⟩
def RQ(GB:Gh)(C:Ctx)(n:Nat)(p:Prop)(O:OwX){σ:Type}(S:σ→OwX)(q:σ→Prop):Exit→Act→World→Prop
 | .normal,a,w=>p∧ ∃ρ G ov,RlX GB C n (fun _=>none) (aap O) ρ G ov a w
 | .ret,a,w=> ∃s,q s∧ ∃ρ G ov,RlX GB C n (fun _=>none) (aap (S s)) ρ G ov a w
 |_,_,_=>False
theorem rq{P:Program}{p:Prop}{O:OwX}{σ:Type}{S:σ→OwX}{q:σ→Prop}(hp:p)(hO:leO O own:=by repeat (first|exact trivial|refine And.intro rfl ?_)):CfS P GB C n (RQ GB C n p O S q) fr own (.ex .normal []):=
 ⟨fun ρ G ov a w r=>⟨hp,ρ,G,ov,r.mono (fun k x e=>by cases e) (ajA hO)⟩⟩
theorem aHF{P:Program}{g:Operand}{ps:Array Nat}{assign body:Code}{gf:FuncId}{caps:List Value}{ds:List DV}{E:List (List DV)}{σ:Type}(I:Nat→OwX)(p:Nat→Prop)(S:σ→OwX)(q:σ→Prop)(fr1:FrX)
  (h0:Fr0 C)(hg:evX (aao fr) g=some (.d (.v (.func (.func gf) ⟨[]⟩ ⟨caps⟩))))(hIt:It GB P gf ds E)(hc:IsLs GB ds caps)
  (hfr:leF fr1 fr)(hfix:aFx fr1=true)(hO:leO (I 0) own)(hp:p 0)(hps: ∀e∈E,e.length=ps.size)(hpn:ps.toList.all (fun k=>Nat.blt k n)=true)(hn2:Nat.ble n 2000000=true)
  (round: ∀k e GB',E[k]? =some e→GLe GB GB'→p k→ ∃fr2 own2,(∀C2,CfS P GB' C2 n (fun _ _ _=>False) (psX ps.toList e fr1) (I k) (.code assign [.ag (AtR GB' C2 n fr2 own2)]))∧ ∀C2,CfS P GB' C2 n (RQ GB' C2 n (p (k+1)) (I (k+1)) S q) fr2 own2 (.code body []))
  (after: ∀D,C.w0.heap.size≤D→(∀x∈C.ex,x.1≠D)→p E.length→CfS P GB (C.mk3 D) n Q0 fr1 (I E.length) (.ex .normal K))
  (early: ∀D s,C.w0.heap.size≤D→(∀x∈C.ex,x.1≠D)→q s→CfS P GB (C.mk3 D) n Q0 fr1 (S s) (.ex .ret K)):
  CfS P GB C n Q0 fr own (.code (.rangeFunc g ps assign body) K):=by
 refine⟨fun ρ0 G0 ov0 a w r=>?_⟩
 rw[h0.rd]
 refine wpIn_rangeFunc fun fn _=>?_
 obtain⟨y,hy,hy'⟩:=r.ev hg
 rw[(aaY (G:=G0)).1 hy'] at hy
 have hev:=aac (aaF a) hy
 let D:=w.heap.size
 let l:=w.heap.size+1
 let rec_:Loop:={state:= .ready,pending:=none,fn,tmps:=a.tmps,params:=ps,assign,body,defers:=D}
 let w2:=(w.alloc (.deferred (some []))).alloc (.loop rec_)
 let mk:Deferred:={target:= .collected D,args:= #[]}
 let fx1:Nat→Option Addr:=fun nm=>(ρ0 nm).a
 let C1:Loop→Ctx:=fun rc=>{C with ex:=(l, .loop rc)::(D, .deferred (some []))::C.ex,mks:=[mk],fx:=fx1}
 let a0:Act:={a with defers:=[mk]++a.defers}
 have hszD:C.w0.heap.size≤D:=r.h.size
 have hlt: ∀x∈C.ex,x.1<D:=fun x hx=>abX (r.h.ext x hx).2
 have hszl:C.w0.heap.size≤l:=Nat.le_succ_of_le hszD
 have hnl: ∀x∈((D,Obj.deferred (some []))::C.ex:List (Nat×Obj)),x.1≠l:=fun x hx=>by
  rcases aT.1 hx with rfl|hx
  ·show D≠D+1;omega
  ·have:=hlt x hx;show x.1≠D+1;omega
 have ncl: ∀rc:Loop,aoW (.loop rc):=fun rc _ _ _ h=>by cases h
 -- the slots of the loop, at any time
 have stat: ∀(ρ':NE) (G':Gh),GLe G0 G'→(∀nm p,n≤nm→2000000≤nm→fx1 nm=some p→(ρ' nm).a=some p)→ ∀k f,aao fr1 k=some f→ ∃y,a.tmps[k]? =some y∧IsX ρ' G' f y:=by
  intro ρ' G' hg' hf k f e
  obtain⟨y,h1,h2⟩:=r.fx k f (ajF hfr k f e)
  refine⟨y,h1,?_⟩
  have hx:=asR hfix k f e
  cases f with
  |ov nm off=>
   obtain⟨b,h3,h4⟩:=h2
   have h5:2000000≤nm:=by simpa[aFN] using hx
   have h6:n≤2000000:=by simpa using hn2
   exact⟨b,hf nm _ (by omega) h5 h3,h4⟩
  |rw _=>cases hx
  |be _ _ _ _=>cases hx
  |rs _ _ _ _=>cases hx
  |bx _ _ _ _=>cases hx
  |_=>exact(h2.up hg').ren fun _ h=>by cases h
 let Jv:Nat→Gh→World→Prop:=fun k G' w'=>p k∧ ∃ρ ov,RlX G0 (C1 rec_) n (aao fr1) (aap (I k)) ρ G' ov a0 w'
 let rcx:Loop:={rec_ with state:= .done,pending:=some .ret}
 let Jx:Gh→World→Prop:=fun G' w'=> ∃s,q s∧ ∃ρ ov,RlX G0 (C1 rcx) n (aao fr1) (aap (S s)) ρ G' ov a0 w'
 have hsz0:a0.tmps.size=n:=r.sz
 have hdf0:a0.defers=[mk]:=by show [mk]++a.defers=_;rw[r.df,h0.mks];rfl
 have H:ItH G0 P l Jv Jx E:=by
  refine⟨fun k=>⟨fun G' w' ⟨_,ρ,ov,h⟩=>h.h.sub,fun G' w' G1 w1 ⟨h1,ρ,ov,h⟩ k=>⟨h1,ρ,ov,h.later k⟩⟩,⟨fun G' w' ⟨_,_,ρ,ov,h⟩=>h.h.sub,fun G' w' G1 w1 ⟨s,h1,ρ,ov,h⟩ k=>⟨s,h1,ρ,ov,h.later k⟩⟩,?_⟩
  intro k e G' w' ys hE hgg ⟨hpk,ρ,ov,r1⟩ hys
  have hrec:w'.heap[l]? =some (.loop rec_):=(r1.h.ext _ aZ).2
  have hel:=hps e (aU hE)
  obtain⟨fr2,own2,hA,hB⟩:=round k e G' hE (r.gb.trans hgg) hpk
  refine⟨_,_,_,_,run_yield hrec (by show ys.length=ps.size;rw[hys.len,hel]),roundIn_of_wpIn trivial ?_⟩
  let C2:Ctx:={C1 rec_ with mks:=[],rd:=some l}
  let tm:Array Value:=(ps.zip (⟨ys⟩:Array Value)).foldl (fun tmps (t,a)=>tmps.setIfInBounds t a) a.tmps
  have htm:tm.toList=(ps.toList.zip ys).foldl (fun t e=>t.set e.1 e.2) a.tmps.toList:=by
   simp only[tm]
   rw[←Array.foldl_toList,Array.toList_zip]
   exact aq0 _ _
  have hfx0:=r1.fx
  obtain⟨q1,q2⟩:=ayF (ρ:=ρ) (ps:=ps.toList) (tm:=a.tmps.toList) (fr:=fr1) hys (fun k hk=>by have:=dZ.1 hpn k hk;rw[jM,r.sz];simpa[lN] using this) fun k f e=>by
   obtain⟨y,h1,h2⟩:=hfx0 k f e
   exact⟨y,by simpa using h1,h2⟩
  have hR0:RlX G' C2 n (aao (psX ps.toList e fr1)) (aap (I k)) ρ G' ov {tmps:=tm,defers:=[]} w':=by
   refine⟨GLe.refl _,r1.h.ctx J J J (fun _ h=>h),?_,rfl,fun k f e=>?_,r1.bx,r1.dj,r1.fxd⟩
   ·show tm.size=n
    rw[←jM,htm,q1,jM,r.sz]
   ·obtain⟨y,h1,h2⟩:=q2 k f e
    exact⟨y,by rw[←htm] at h1;simpa using h1,h2⟩
  refine wpIn_mono ((hA C2).run ρ G' ov _ w' hR0) fun ex a1 w1 hex=>?_
  cases ex with
  |normal=>
   obtain⟨ρ2,G2,ov2,r2⟩:=hex
   have hrec1:w1.heap[l]? =some (.loop rec_):=(r2.h.ext _ aZ).2
   refine⟨_,run_beginRound hrec1 rfl,?_⟩
   let busy:Loop:={rec_ with state:= .busy}
   let C3:Ctx:={C1 busy with mks:=[],rd:=some l}
   have h3:abk C3 ov2 G2 (w1.putObj l (.loop busy)):=r2.h.putx aZ hszl (ncl _) J J J fun x hx=>by
    rcases aT.1 hx with rfl|hx
    ·exact .inl rfl
    ·exact .inr ⟨aJ _ hx,hnl x hx⟩
   refine wpIn_mono ((hB C3).run ρ2 G2 ov2 a1 (w1.putObj l (.loop busy)) ⟨r2.gb,h3,r2.sz,r2.df,r2.fx,r2.bx,r2.dj,r2.fxd⟩) fun ex a2 w3 hex=>?_
   cases ex with
   |normal=>
    obtain⟨hp1,ρ3,G3,ov3,r3⟩:=hex
    have hrec3:w3.heap[l]? =some (.loop busy):=(r3.h.ext _ aZ).2
    refine⟨_,_,run_endRound none hrec3,G3,r3.gb, .inl ⟨rfl,hp1,ρ3,ov3,hgg.trans r3.gb,?_,hsz0,hdf0,stat ρ3 G3 (hgg.trans r3.gb) r3.fxd,r3.bx,r3.dj,r3.fxd⟩⟩
    exact r3.h.putx aZ hszl (ncl _) J J J fun x hx=>by
     rcases aT.1 hx with rfl|hx
     ·exact .inl rfl
     ·exact .inr ⟨aJ _ hx,hnl x hx⟩
   |ret=>
    obtain⟨s,hq,ρ3,G3,ov3,r3⟩:=hex
    have hrec3:w3.heap[l]? =some (.loop busy):=(r3.h.ext _ aZ).2
    refine⟨_,_,run_endRound (some .ret) hrec3,G3,r3.gb, .inr ⟨rfl,s,hq,ρ3,ov3,hgg.trans r3.gb,?_,hsz0,hdf0,stat ρ3 G3 (hgg.trans r3.gb) r3.fxd,r3.bx,r3.dj,r3.fxd⟩⟩
    exact r3.h.putx aZ hszl (ncl _) J J J fun x hx=>by
     rcases aT.1 hx with rfl|hx
     ·exact .inl rfl
     ·exact .inr ⟨aJ _ hx,hnl x hx⟩
   |exit id=>exact hex.elim
   |goto t=>exact hex.elim
   |panic ch=>exact hex.elim
   |outgrown=>exact hex.elim
  |exit id=>exact hex.elim
  |goto t=>exact hex.elim
  |ret=>exact hex.elim
  |panic ch=>exact hex.elim
  |outgrown=>exact hex.elim
 have hC1:abk (C1 rec_) ov0 G0 w2:=by
  have h1:abk {C with ex:=(D, .deferred (some []))::C.ex} ov0 G0 (w.alloc (.deferred (some []))):=r.h.addx (fun _ _ _ h=>by cases h) J J J fun x hx=>aT.1 hx
  refine h1.addx (ncl rec_) J J J fun x hx=>?_
  rcases aT.1 hx with rfl|hx
  ·exact .inl (by show((l,Obj.loop rec_):Nat×Obj)=_;rw[show(w.alloc (.deferred (some []))).heap.size=w.heap.size+1 by simp])
  ·exact .inr hx
 have hJ0:Jv 0 G0 w2:=⟨hp,ρ0,ov0,GLe.refl _,hC1,hsz0,hdf0,stat ρ0 G0 (GLe.refl _) (fun _ _ _ _ h=>h),fun nm B e=>r.bx nm B (ajA hO nm B e),fun nm nm' B B' e e'=>r.dj nm nm' B B' (ajA hO nm B e) (ajA hO nm' B' e'),fun _ _ _ _ h=>h⟩
 refine⟨l,[mk],w2,{target:= .fn (.func gf) ⟨caps⟩,args:= #[.func (.yield l) #[] #[]]},w2,gf, #[.func (.yield l) #[] #[]]++⟨caps⟩,w2,run_enterLoop_outer fn a.tmps ps assign body,?_,fun _ _=>trivial,?_,fun h=>(by cases h),?_⟩
 ·have he:(⟨[]⟩:Array Value)++Array.map a.eval #[.const (.func (.yield l) #[] #[])]= #[.func (.yield l) #[] #[]]:=by
   apply Array.ext'
   rw[Array.toList_append,pJ]
   rfl
  simp only[resolve,hev,Deferred.ofValue]
  rw[he]
  rfl
 ·simp only[invoke]
  exact ah8 hIt.able _ _
 refine CallsIn.mono (show CallsIn (FW none) 0 P gf _ w2 _ from by
  have:=hIt.run l Jv Jx G0 r.gb H w2 caps hJ0 (hc.up r.gb)
  rw[show(#[Value.func (.yield l) #[] #[]]++(⟨caps⟩:Array Value))=⟨.func (.yield l) #[] #[]::caps⟩ by simp]
  exact this) fun e w3 he=>?_
 obtain⟨G',hgg,⟨v,rfl⟩,hj⟩:=he
 have fin: ∀(rc:Loop) (O:OwX) (ρ:NE) (ov:List Own),RlX G0 (C1 rc) n (aao fr1) (aap O) ρ G' ov a0 w3→RlX GB (C.mk3 D) n (aao fr1) (aap O) ρ G' ov a0 (w3.putObj l (.loop {rc with state:= .exhausted})):=fun rc O ρ ov r3=>
  ⟨r.gb.trans r3.gb,r3.h.putx aZ hszl (ncl _) J J J fun x hx=> .inr ⟨aJ _ hx,hnl x hx⟩,r3.sz,r3.df,r3.fx,r3.bx,r3.dj,fun nm p _ _ e=>by rw[show(C.mk3 D).fx=fun _=>none from h0.fx] at e;cases e⟩
 have hxD: ∀x∈C.ex,x.1≠D:=fun x hx e=>by have:=hlt x hx;omega
 rcases hj with⟨hpn,ρ,ov,r3⟩|⟨s,hq,ρ,ov,r3⟩
 ·have hrec3:w3.heap[l]? =some (.loop rec_):=(r3.h.ext _ aZ).2
  have:=(after D hszD hxD hpn).run ρ G' ov a0 _ (fin rec_ _ ρ ov r3)
  rw[show(C.mk3 D).rd=none from h0.rd] at this
  exact⟨_,_,run_endLoop hrec3 (by simp[rec_]),this⟩
 ·have hrec3:w3.heap[l]? =some (.loop rcx):=(r3.h.ext _ aZ).2
  have:=(early D s hszD hxD hq).run ρ G' ov a0 _ (fin rcx _ ρ ov r3)
  rw[show(C.mk3 D).rd=none from h0.rd] at this
  exact⟨_,_,run_endLoop hrec3 (by simp[rcx]),wpIn_ret this⟩
end
section
variable {GB:Gh} {C:Ctx} {n:Nat} {Q0:Exit→Act→World→Prop} {fr fr':FrX} {own own':OwX} {cf cf':Cf} {vc:List Prop} {ops:Array Oper} {o:Oper} {r:List Oper} {K:List Kt}
def PMk(GB:Gh)(P:Program)(f:FuncId)(ds:List DV)(gf:FuncId)(dp:DV):Prop:=
 ∀G vs,GLe GB G→IsLs G ds vs→Fn P f vs G fun v G'=> ∃pv,v= .func (.func gf) ⟨[]⟩ ⟨[pv]⟩∧Is G' dp pv
def mkK(gf:FuncId)(dp:DV)(v:Value)(G':Gh):Prop:= ∃pv,v= .func (.func gf) ⟨[]⟩ ⟨[pv]⟩∧Is G' dp pv
theorem aIe[fu:Fu]{f gf:FuncId}{fb:Func}{c:Code}{m:Nat}{ds:List DV}{dp:DV}(hf:prog.funcs[f]? =some fb)(hb:fb.body=some c)(hn:(fb.name== "runtime.NumGoroutine")=false)(hm:fb.ntmps=m)(hlen:Nat.ble ds.length m=true)
  (hgo:go tt m fu.n [] (agI 0 ds) [] (.code c [])=⟨vc,fr,own,cf⟩)(k: ∀C:Ctx,CfS prog GB C m (acF C prog fb (afR C (mkK gf dp))) fr own cf)
  (hv:aah vc:=by first|exact trivial|(simp only[aah];kernel_rfl)|(simp only[aah];omega)):PMk GB prog f ds gf dp:=by
 intro G vs hg hvs
 refine Fn.introR hf hb hn hm (by rw[hvs.len];exact hlen) fun C _ _ hrd hfx=>?_
 intro a w rl
 refine ai5 hrd ?_
 have h:=gx' (GB:=GB) (C:=C) (Q0:=acF C prog fb (afR C (mkK gf dp))) hgo hv (k C)
 exact h.run (fun _=>⟨none,0,0⟩) G [] a w ⟨hg,rl.h,rl.sz,rl.df,(fun k f e=>ai9 hvs rl.fr k f e),(fun nm B e=>by cases e),(fun nm nm' B B' e=>by cases e),fun nm p _ _ e=>by rw[hfx] at e;cases e⟩
theorem aIf{P:Program}{fb:Func}{gf:FuncId}{dp:DV}{pv:Value}{t:Nat}(hr:fb.results.toList=[.tmp t])(hl:aao fr t=some (.d (.v (.func (.func gf) ⟨[]⟩ ⟨[pv]⟩))))(hp:Is GB dp pv):CfS P GB C n (acF C P fb (afR C (mkK gf dp))) fr own (.ex .ret []):=by
 refine⟨fun ρ G ov a w r=>?_⟩
 obtain⟨y,hy,hy'⟩:=r.ev (x:= .tmp t) hl
 rw[(aaY (G:=G)).1 hy'] at hy
 exact zD (C:=C) (n:=n) (fr:=frA a) (own:=ov) (G:=G) (K:=mkK gf dp) (by rw[hr];exact .tmp hy .nil) ⟨pv,rfl,hp.up r.gb⟩ a w ⟨r.h,r.sz,aaF a,r.df⟩
def aG7(fr:FrX)(cf:Cf):Option (FuncId×Value):=match opC fr cf with
 |some ⟨_, .makeFunc (.func f) ⟨[]⟩ ⟨[x]⟩,_,_,_,_⟩=>match evX (lkC fr cf) x with
  |some (.d (.v pv))=>some (f,pv)
  |_=>none
 |_=>none
theorem mkG[fu:Fu]{f:FuncId}{pv:Value}(h:aG7 fr cf=some (f,pv))(hgo:goA tt n fu.n fr own cf (.d (.v (.func (.func f) ⟨[]⟩ ⟨[pv]⟩))) [] []=⟨vc,fr',own',cf'⟩)(k:CfS prog GB C n Q0 fr' own' cf')
  (hv:aah vc:=by first|exact trivial|(simp only[aah];kernel_rfl)|(simp only[aah];omega)):CfS prog GB C n Q0 fr own cf:=by
 unfold aG7 at h
 split at h<;>try (cases h;done)
 rename_i hh
 split at h<;>cases h
 rename_i hx
 exact us hh (.x1 hx fun ρ G ov a w y _ r h1 h2=>by
  rw[(aaY (G:=G)).1 h2] at h1
  exact⟨_,(aaY (G:=G)).2 rfl,aoO (l1:=[]) (l2:=[pv]) rfl (by simp[h1])⟩) hgo hv k
theorem cmk[fu:Fu]{f gf:FuncId}{ds:List DV}{dp:DV}{d:Nat}{fr':Value→FrX}{own':Value→OwX}{cf':Value→Cf}{vc:Value→List Prop}(ha:aCB fr (.ops ops (o::r) K)=some (f,ds))(hdst:o.dst=some d)(hd:aaM n (some d)=true)(hF:PMk GB prog f ds gf dp)
  (hgo: ∀pv,go tt n fu.n [] ((d, .d (.v (.func (.func gf) ⟨[]⟩ ⟨[pv]⟩)))::fr) own (.ops ops r K)=⟨vc pv,fr' pv,own' pv,cf' pv⟩)
  (k: ∀GB' pv,GLe GB GB'→Is GB' dp pv→CfS prog GB' C n Q0 (fr' pv) (own' pv) (cf' pv))
  (hv: ∀pv,aah (vc pv):=by intros;first|exact trivial|(simp only[aah];kernel_rfl)|(simp only[aah];omega)):CfS prog GB C n Q0 fr own (.ops ops (o::r) K):=by
 unfold aCB at ha
 split at ha<;>try (cases ha;done)
 rename_i fo args tys ty pos af gd hh
 obtain⟨ops0,h1,h2⟩:=asj hh
 cases h1
 cases hdst
 obtain⟨c1,c2⟩:=aiq ha
 refine⟨fun ρ G ov a w rl=>?_⟩
 obtain⟨y,hy,hy'⟩:=rl.ev c1
 rw[(aaY (G:=G)).1 hy'] at hy
 obtain⟨vs,h3,h4⟩:=rl.evDs c2
 simp only[wpListIn]
 rw[if_pos (aqX h2 ρ G ov a w rl)]
 refine aAV (K':=fun a' w'=>a'.defers=C.mks∧wpListIn (FW C.rd) 0 prog ops (cQ C.rd prog Q0 K) r a' w') (fun Q=>?_) (fun a' w' q=>⟨q.1.trans rl.df.symm,q.2⟩)
 refine zC hy h3 (hF G vs rl.gb h4) hd (fun v G' hG hK a' w' rel=>?_) a w Q ⟨rl.h,rl.sz,aaF a,rl.df⟩
 obtain⟨pv,rfl,hpv⟩:=hK
 refine⟨rel.df,?_⟩
 have:=gx' (GB:=G') (C:=C) (Q0:=Q0) (hgo pv) (hv pv) (k G' pv (rl.gb.trans hG.le) hpv)
 refine this.run ρ G' ov a' w' ⟨GLe.refl _,rel.h,rel.sz,rel.df,fun j g e=>?_,fun nm B e=>by obtain⟨os,h5,h6⟩:=rl.bx nm B e;exact⟨os,h5.up hG.le,h6⟩,rl.dj,rl.fxd⟩
 have e':upL (aao fr) (some d) (.d (.v (.func (.func gf) ⟨[]⟩ ⟨[pv]⟩))) j=some g:=by
  rw[aaI] at e
  simp only[upL]
  split at e
  ·rename_i hk;rw[if_pos hk];exact e
  ·rename_i hk;rw[if_neg hk];exact e
 exact(abg rel).fx (fun k g _ e=>by obtain⟨u,h5,h6⟩:=rl.fx k g e;exact⟨u,h5,h6.up hG.le⟩) (show IsX ρ G' (.d (.v (.func (.func gf) ⟨[]⟩ ⟨[pv]⟩))) _ from(aaY (G:=G')).2 rfl) j g e'
end
section
variable {GB:Gh} {C:Ctx} {n:Nat} {Q0:Exit→Act→World→Prop} {fr fr':FrX} {own own':OwX} {cf cf':Cf} {vc:List Prop}
def glA(fr:FrX)(cf:Cf):Option Nat:=match opC fr cf with
 |some ⟨_, .load t (.global g),_,_,_,_⟩=>(match abc tt t with
  |some i=>match i.ag with
   |some none=>some g
   |_=>none
  |none=>none)
 |_=>none
theorem avq{d:Nat}{f:FX}{x:DV}(hl:aao fr d=some f)(e:aml f=some x){Φ:Act→World→Prop}(h:SX GB C n (aao ((d, .d x)::fr)) (aap own) Φ):SX GB C n (aao fr) (aap own) Φ:=abo (g:= .d x) hl (fun _ _ _ k=>acw k e) h
theorem dvC(d:Nat){f:FX}(x:DV){c:Code}{K:List Kt}(hl:aao fr d=some f)(e1:aml f=some x)(k:CfS prog GB C n Q0 ((d, .d x)::fr) own (.code c K)):CfS prog GB C n Q0 fr own (.code c K):=avq hl e1 k
theorem aGV{nm0 nm:Nat}{B1 B2:Option Bk}:aap (al8 (al8 own nm0 B1) nm B2)=upB (upB (aap own) [(nm0,B1)]) [(nm,B2)]:=by
 funext j;rw[acB];simp only[upB];rw[acB]
theorem axO{nm0 nm k:Nat}(hnm:Nat.blt nm 2000000=true){ty0:TypeId}{cs:List FX}{lo:Bool}(hb:aap own nm0=some (.o ty0 cs lo))(hk:cs[k]? =some .nl)(hne:nm0≠nm){Φ:Act→World→Prop}{ty s:Nat}(hf:acS [nm] none (aao fr) (aap own))
  (h:SX GB C n (aao fr) (aap (al8 (al8 own nm0 (some (.o ty0 (cs.set k (.rw nm)) lo))) nm (some (.b ty s [] true)))) Φ):SX GB C n (aao fr) (aap own) Φ:=by
 refine⟨fun ρ G ov a w r=>?_⟩
 obtain⟨f1,f2⟩:=hf nm aZ
 rw[aGV] at h
 refine h.run (fun k=>if k=nm then⟨none,0,0⟩ else ρ k) G ov a w ⟨r.gb,r.h,r.sz,r.df,fun k f e=>?_,fun m B e=>?_,fun m m' B B' e e' hne=>?_,fun m p h1 h2 e=>by
  have:nm<2000000:=by simpa[lN] using hnm
  show(if m=nm then(⟨none,0,0⟩:SV) else ρ m).a=_
  rw[if_neg (by omega)];exact r.fxd m p h1 h2 e⟩
 ·obtain⟨v,h1,h2⟩:=r.fx k f e
  exact⟨v,h1,h2.ren fun m hm=>neN _ fun hc=>f1 k f (by simp) e (by rw[hm,hc])⟩
 ·simp only[upB] at e
  by_cases hm:m=nm
  ·subst hm;simp only[if_true] at e;cases e
   exact⟨[],⟨[],by simp only[if_true];exact .inl ⟨rfl,rfl,rfl⟩, .nil,by simp,fun _ o ho=>by cases ho⟩,fun o ho=>by cases ho⟩
  ·simp only[hm,if_false] at e
   by_cases hm0:m=nm0
   ·subst hm0;simp only[if_true] at e;cases e
    obtain⟨os,h1,h2⟩:=r.bx m _ hb
    have h1':aog (fun k=>if k=nm then⟨none,0,0⟩ else ρ k) G m (.o ty0 cs lo) os:=h1.ren (if_neg hm) fun q hq=>neN _ fun hc=>f2 m _ hm hb (by rw[←hc];exact hq)
    obtain⟨b,ms,k1,k2,k3⟩:=h1'
    refine⟨os,⟨b,ms,k1,k2,?_⟩,h2⟩
    obtain⟨y,e1,e2⟩:=k3.get hk
    have:=k3.set (f:= .rw nm) (y:=y) k (by show y=_;simp only[if_true];exact e2)
    rwa [show ms.set k y=ms by apply kS;intro j;rw[lM];split<;>(try rfl);rename_i hj;subst hj;split<;>simp_all] at this
   ·simp only[hm0,if_false] at e
    obtain⟨os,h1,h2⟩:=r.bx m B e
    exact⟨os,h1.ren (if_neg hm) fun q hq=>neN _ fun hc=>f2 m B hm e (by rw[←hc];exact hq),h2⟩
 ·intro b hbb hb'
  have key: ∀q B,upB (upB (aap own) [(nm0,some (.o ty0 (cs.set k (.rw nm)) lo))]) [(nm,some (.b ty s [] true))] q=some B→q≠nm→ ∃B0,aap own q=some B0:=fun q B eq hq=>by
   simp only[upB,hq,if_false] at eq
   by_cases hq0:q=nm0
   ·subst hq0;exact⟨_,hb⟩
   ·simp only[hq0,if_false] at eq;exact⟨_,eq⟩
  by_cases hm:m=nm
  ·simp[hm] at hbb
  ·by_cases hm':m'=nm
   ·simp[hm'] at hb'
   ·obtain⟨B0,g0⟩:=key m B e hm
    obtain⟨B1,g1⟩:=key m' B' e' hm'
    simp only[hm,hm',if_false] at hbb hb'
    exact r.dj m m' B0 B1 g0 g1 hne b hbb hb'
theorem nro(nm0 k nm ty s:Nat){ty0:TypeId}{cs:List FX}{lo:Bool}{own1:OwX}{c:Code}{K:List Kt}(hb:aap own nm0=some (.o ty0 cs lo))(hk:cs[k]? =some .nl)(hf:aia [nm] none fr own=true)(hne:Nat.beq nm0 nm=false)
  (ho:al8 (al8 own nm0 (some (.o ty0 (cs.set k (.rw nm)) lo))) nm (some (.b ty s [] true))=own1)(h:CfS prog GB C n Q0 fr own1 (.code c K))(hnm:Nat.blt nm 2000000=true:=by rfl):CfS prog GB C n Q0 fr own (.code c K):=by
 subst ho
 exact axO hnm hb hk (fun e=>by subst e;rw[oY] at hne;cases hne) (afr hf) h
theorem akH{ρ:NE}{G:Gh}: ∀{a b:List FX} {m:List Value},adx ρ G (a++b) m→ ∃m1 m2,m=m1++m2∧adx ρ G a m1∧adx ρ G b m2
 |[],b,m,h=>⟨[],m,rfl,rfl,h⟩
 |f::t,b,m,⟨y,n,e,h1,h2⟩=>by
  obtain⟨m1,m2,rfl,k1,k2⟩:=akH h2
  exact⟨y::m1,m2,e,⟨y,m1,rfl,h1,k1⟩,k2⟩
theorem aqz{ρ:NE}{G:Gh}: ∀{l:List DV} {m:List Value},adx ρ G (l.map .d) m→IsLs G l m
 |[],m,h=>aaN.2 h
 |d::t,m,⟨y,n,e,h1,h2⟩=>by subst e;exact .cons h1 (aqz h2)
def bzA(fr:FrX)(cf:Cf):Option (Nat×List FX):=match opC fr cf with
 |some ⟨some d, .build t ⟨[]⟩,_,_,_,_⟩=>match abc tt t with
  |some ⟨.st _,_,some zx,_⟩=>some (d,zx)
  |_=>none
 |_=>none
end
section
variable {GB:Gh} {C:Ctx} {n:Nat} {Q0:Exit→Act→World→Prop} {fr fr':FrX} {own own':OwX} {cf cf':Cf} {vc:List Prop} {ops:Array Oper} {o:Oper} {r:List Oper} {K:List Kt}
theorem anR{p q:Nat→Option (Nat×Nat)}(h: ∀i x,p i=some x→q i=some x): ∀(ps:List (Nat×Value)) (cs out:Array Value),Instr.fill p cs ps=some out→Instr.fill q cs ps=some out
 |[],cs,out,e=>e
 |(i,v)::ps,cs,out,e=>by
  simp only[Instr.fill] at e⊢
  split at e
  ·cases e
  ·rename_i off size hp
   rw[h i _ hp]
   dsimp only
   split at e
   ·cases e
   ·rename_i hc
    rw[if_neg hc]
    exact anR h ps _ _ e
theorem auw{P:Program}{fr:Fr}{own:List Own}{G:Gh}{t e s len:Nat}{j:TypeInfo}{parts:Array (Nat×Operand)}{z:Value}{out:List Value}{dst:Option Nat}{ty':TypeId}{pos:String}{af:Array Edge}{gd:Option (Nat×Bool)}[hz:TyZ P t z](hu:P.underlying t=some (.array len e))(hj:P.info? e=some j)(hs:j.size=s)
  (hb:bld fr ((List.range len).map fun i=>(i*s,s)) (aag z) parts.toList=some out):Yd P C fr own G ⟨dst, .build t parts,ty',pos,af,gd⟩ (.agg ⟨out⟩):=by
 intro a w hf hh
 simp only[execOp]
 have:(Instr.build t (parts.map fun(i,x)=>(i,a.eval x))).run P w= .ok (.agg ⟨out⟩) w:=by
  unfold Instr.build
  rw[aaa (hz.zero w),ac9]
  rw[aaa (adl hu w)]
  simp only[]
  rw[aaa (ad0 hj w),hs]
  have:=anR (q:=fun i=>some (i*s,s)) (fun i x hx=>by
   have hx':((List.range len).map fun i=>(i*s,s))[i]? =some x:=by simpa using hx
   rw[cJ] at hx'
   cases hr:(List.range len)[i]? with
   |none=>rw[hr] at hx';cases hx'
   |some y=>
    rw[hr] at hx';cases hx'
    obtain⟨h1,h2⟩:=aS.1 hr
    rw[List.getElem_range] at h2
    rw[h2]) _ _ _ (alG hf ((List.range len).map fun i=>(i*s,s)) parts.toList _ _ hb)
  simp only[pJ,this]
  rfl
 exact aal this
def arP:Nat→Nat→Nat→List (Nat×Nat×Nat)
 |_,0,_=>[]
 |i,k+1,s=>(i*s,0,s)::arP (i+1) k s
theorem ay4: ∀(i k s:Nat),(arP i k s).map (fun x=>(x.1,x.2.2))=(List.range' i k).map fun j=>(j*s,s)
 |_,0,_=>rfl
 |i,k+1,s=>by simp only[arP,cZ,List.range',ay4 (i+1) k s]
def aHp(fr:FrX)(cf:Cf)(len s:Nat):Option (TypeId×FX):=match opC fr cf with
 |some ⟨_, .build t parts,_,_,_,_⟩=>match abc tt t with
  |some ⟨.o,_,some zx,_⟩=>match ax3 (lkC fr cf) (arP 0 len s) zx parts.toList with
   |some cs=>match agX cs with
    |some f=>some (t,f)
    |none=>none
   |none=>none
  |_=>none
 |_=>none
theorem bar[fu:Fu]{t e len s:Nat}{f:FX}(h:aHp fr cf len s=some (t,f))(hu:prog.underlying t=some (.array len e))(hs:(prog.info? e).map (·.size)=some s)
  (hgo:goA tt n fu.n fr own cf f [] []=⟨vc,fr',own',cf'⟩)(k:CfS prog GB C n Q0 fr' own' cf')
  (hv:aah vc:=by first|exact trivial|(simp only[aah];kernel_rfl)|(simp only[aah];omega)):CfS prog GB C n Q0 fr own cf:=by
 unfold aHp at h
 split at h<;>try (cases h;done)
 rename_i hh
 split at h<;>try (cases h;done)
 rename_i hT
 split at h<;>try (cases h;done)
 rename_i hb
 split at h<;>cases h
 rename_i hf
 refine us hh (.yd fun ρ G ov a w r=>?_) hgo hv k
 cases hj:prog.info? e with
 |none=>rw[hj] at hs;cases hs
 |some j=>
 rw[hj] at hs
 obtain⟨v,hv,hv'⟩:=aiU (ab2 _ _ hT) rfl
 obtain⟨l,h1,h2⟩:=aiH r _ _ _ _ hb (hv' ρ G)
 rw[ay4,←List.range_eq_range'] at h1
 exact⟨.agg ⟨l⟩,aqe h2 hf,auw hu hj (Option.some.inj hs) h1⟩
theorem imB{P:Program}(nm:Nat){ty:TypeId}{ds:List DV}{lo:Bool}{own1:OwX}{c:Code}(ds':List DV)(hl:aap own nm=some (.o ty (ds.map .d) lo))(hi: ∀G m,IsLs G ds m→IsLs G ds' m)(ho:axv own nm (some (.o ty (ds'.map .d) lo)) id=own1)(h:CfS P GB C n Q0 fr own1 (.code c K)):CfS P GB C n Q0 fr own (.code c K):=by
 rw[afs] at ho
 subst ho
 refine⟨fun ρ G ov a w r=>?_⟩
 have old: ∀m B,aap (al8 own nm (some (.o ty (ds'.map .d) lo))) m=some B→ ∃B0,aap own m=some B0:=fun m B e=>by
  rw[acB] at e
  split at e
  ·rename_i hm;subst hm;exact⟨_,hl⟩
  ·exact⟨_,e⟩
 refine SX.run h ρ G ov a w ⟨r.gb,r.h,r.sz,r.df,r.fx,fun m B e=>?_,fun m m' B B' e e'=>?_,r.fxd⟩
 ·rw[show id (al8 own nm (some (.o ty (ds'.map .d) lo)))=al8 own nm (some (.o ty (ds'.map .d) lo)) from rfl,acB] at e
  split at e
  ·rename_i hm;subst hm;cases e
   obtain⟨os,⟨b,q,h1,rfl,h2⟩,h3⟩:=r.bx _ _ hl
   exact⟨_,⟨b,q,h1,rfl,afV (hi G q (aqz h2))⟩,h3⟩
  ·exact r.bx _ _ e
 ·obtain⟨B0,h0⟩:=old _ _ e
  obtain⟨B1,h1⟩:=old _ _ e'
  exact r.dj m m' B0 B1 h0 h1
def aHN(fr:FrX)(own:OwX)(cf:Cf)(k:Nat):Option (TypeId×FX):=match opC fr cf with
 |some ⟨_, .load t x,_,_,_,_⟩=>match evX (lkC fr cf) x with
  |some (.ov nm off)=>match bkC fr own cf nm with
   |some (.o _ cs _)=>match takeX cs off k with
    |some l=>match agX l with
     |some f=>some (t,f)
     |none=>none
    |none=>none
   |_=>none
  |_=>none
 |_=>none
theorem ldA[fu:Fu](k:Nat){t e len:Nat}{f:FX}(h:aHN fr own cf k=some (t,f))(hu:prog.underlying t=some (.array len e))(hs:(prog.info? t).map (·.size)=some k)
  (hgo:goA tt n fu.n fr own cf f [] []=⟨vc,fr',own',cf'⟩)(k':CfS prog GB C n Q0 fr' own' cf')
  (hv:aah vc:=by first|exact trivial|(simp only[aah];kernel_rfl)|(simp only[aah];omega)):CfS prog GB C n Q0 fr own cf:=by
 unfold aHN at h
 split at h<;>try (cases h;done)
 rename_i hh
 split at h<;>try (cases h;done)
 rename_i hx
 split at h<;>try (cases h;done)
 rename_i hb
 split at h<;>try (cases h;done)
 rename_i l hl
 split at h<;>cases h
 rename_i hf
 cases hj:prog.info? t with
 |none=>rw[hj] at hs;cases hs
 |some j=>
 rw[hj] at hs
 have hs':j.size=k:=Option.some.inj hs
 have:TyA prog t k:=⟨fun w=>ajg hu w,fun w=>by rw[ad0 hj w,hs']⟩
 refine us hh ?_ hgo hv k'
 refine .yd fun ρ G ov a w r=>?_
 obtain⟨y,h1,h2⟩:=r.ev hx
 obtain⟨b,m,rfl,h3,h4,h5⟩:=r.own h2 hb
 obtain⟨l',h6,h7⟩:=h4.takeX hl
 have:OAt ov b m _ _:=⟨h5⟩
 exact⟨.agg ⟨l'⟩,aqe h7 hf,adB h1 h6⟩
def aHa(fr:FrX)(cf:Cf)(off s:Nat):Option (TypeId×List DV×Int):=match opC fr cf with
 |some ⟨_, .index t x y,_,_,_,_⟩=>match evX (lkC fr cf) x with
  |some (.d (.ag ms))=>match evX (lkC fr cf) y with
   |some (.d (.v (.int _ i)))=>match takeD ms off s with
    |some l=>some (t,l,i)
    |none=>none
   |_=>none
  |_=>none
 |_=>none
theorem idA[fu:Fu](i:Nat){t e len s:Nat}{l:List DV}{ie:TI}(h:aHa fr cf (i*s) s=some (t,l,((i:Nat):Int)))(hu:prog.underlying t=some (.array len e))(he:abc tt e=some ie)(hag:ie.ag=some (some s))(hi:i<len)
  (hgo:goA tt n fu.n fr own cf (.d (.ag l)) [] []=⟨vc,fr',own',cf'⟩)(k':CfS prog GB C n Q0 fr' own' cf')
  (hv:aah vc:=by first|exact trivial|(simp only[aah];kernel_rfl)|(simp only[aah];omega)):CfS prog GB C n Q0 fr own cf:=by
 unfold aHa at h
 split at h<;>try (cases h;done)
 rename_i hh
 split at h<;>try (cases h;done)
 rename_i ms hx
 split at h<;>try (cases h;done)
 rename_i kd i0 hy
 split at h<;>cases h
 rename_i hl
 have hA:=aiL (ab2 _ _ he) hag
 refine us hh ?_ hgo hv k'
 refine .yd fun ρ G ov a w r=>?_
 obtain⟨p,h1,h2⟩:=r.ev hx
 obtain⟨q,h3,h4⟩:=r.ev hy
 rw[aay] at h4;subst h4
 obtain⟨m,rfl,hm⟩:=ab4.1 (show Is G _ p from h2)
 obtain⟨l',h5,h6⟩:=hm.takeD hl
 refine⟨.agg ⟨l'⟩,ab4.2 ⟨l',rfl,h6⟩,?_⟩
 intro a' w' hf hw
 simp only[execOp,aac hf h1,aac hf h3]
 have:(Instr.index t (.agg ⟨m⟩) (.int kd (i:Nat))).run prog w'= .ok (.agg ⟨l'⟩) w':=by
  unfold Instr.index
  show(underlying t>>=_).run prog w'=_
  rw[aaa (adl hu w')]
  have g0:0≤((i:Nat):Int):=qW i
  have g1:((i:Nat):Int)<((len:Nat):Int):=by omega
  simp only[g0,g1,and_self,if_true]
  rw[aaa (hA.siz w'),bZ]
  unfold part
  rw[aaa (hA.agg w')]
  simp only[if_true]
  rw[aaa (hA.siz w')]
  obtain⟨k1,k2⟩:=abn _ _ _ _ h5
  have:(⟨m⟩:Array Value).extract (i*s) (i*s+s)=⟨l'⟩:=by
   apply Array.ext'
   rw[Array.toList_extract]
   apply kS
   intro j
   rw[List.extract_eq_take_drop,oW]
   split
   ·rw[mU];exact k2 j (by omega)
   ·exact(dJ (show l'.length≤j by omega)).symm
  rw[this];rfl
 exact aal this
end
section
variable {GB:Gh} {C:Ctx} {n:Nat} {Q0:Exit→Act→World→Prop} {fr fr':FrX} {own own':OwX} {cf cf':Cf} {vc:List Prop}
def xrA(fr:FrX)(cf:Cf):Option (Int×Int):=match opC fr cf with
 |some ⟨_, .binOp .xor _ x y _,_,_,_,_⟩=>match evX (lkC fr cf) x,evX (lkC fr cf) y with
  |some (.d (.v (.int .u32 p))),some (.d (.v (.int .u32 q)))=>some (p,q)
  |_,_=>none
 |_=>none
theorem xr[fu:Fu]{p q:Int}(u:Int)(h:xrA fr cf=some (p,q))(e:(((BitVec.ofInt 32 p^^^BitVec.ofInt 32 q).toNat:Nat):Int)=u)(hgo:goA tt n fu.n fr own cf (.d (.v (.int .u32 u))) [] []=⟨vc,fr',own',cf'⟩)(k:CfS prog GB C n Q0 fr' own' cf')
  (hv:aah vc:=by first|exact trivial|(simp only[aah];kernel_rfl)|(simp only[aah];omega)):CfS prog GB C n Q0 fr own cf:=by
 unfold xrA at h
 split at h<;>try (cases h;done)
 rename_i hh
 split at h<;>cases h
 rename_i h1 h2
 subst e
 exact us hh (.yd fun ρ G ov a w r=>by
  obtain⟨y1,h3,h4⟩:=r.ev h1
  obtain⟨y2,h5,h6⟩:=r.ev h2
  rw[aay] at h4 h6;subst h4 h6
  exact⟨_,aay.2 rfl,ab7 h3 h5 fun w=>by
   show(pure (Value.int .u32 (IntKind.u32.wrap ((BitVec.ofInt 32 p^^^BitVec.ofInt 32 q).toNat:Int))):Sem Value).run prog w=_
   rw[alJ];rfl⟩) hgo hv k
def swA(fr:FrX)(cf:Cf):Option (Int×Int):=match opC fr cf with
 |some ⟨_, .binOp .sub _ x y _,_,_,_,_⟩=>match evX (lkC fr cf) x,evX (lkC fr cf) y with
  |some (.d (.v (.int .u32 p))),some (.d (.v (.int .u32 q)))=>some (p,q)
  |_,_=>none
 |_=>none
theorem sw[fu:Fu]{p q:Int}(u:Int)(h:swA fr cf=some (p,q))(e:(p-q)%4294967296=u)(hgo:goA tt n fu.n fr own cf (.d (.v (.int .u32 u))) [] []=⟨vc,fr',own',cf'⟩)(k:CfS prog GB C n Q0 fr' own' cf')
  (hv:aah vc:=by first|exact trivial|(simp only[aah];kernel_rfl)|(simp only[aah];omega)):CfS prog GB C n Q0 fr own cf:=by
 unfold swA at h
 split at h<;>try (cases h;done)
 rename_i hh
 split at h<;>cases h
 rename_i h1 h2
 subst e
 exact us hh (.yd fun ρ G ov a w r=>by
  obtain⟨y1,h3,h4⟩:=r.ev h1
  obtain⟨y2,h5,h6⟩:=r.ev h2
  rw[aay] at h4 h6;subst h4 h6
  exact⟨_,aay.2 rfl,by rw[←acL];exact af8 h3 h5⟩) hgo hv k
def ntA(fr:FrX)(cf:Cf):Option Int:=match opC fr cf with
 |some ⟨_, .unOp .xor _ x,_,_,_,_⟩=>match evX (lkC fr cf) x with
  |some (.d (.v (.int .u32 p)))=>some p
  |_=>none
 |_=>none
theorem nt[fu:Fu]{p:Int}(u:Int)(h:ntA fr cf=some p)(e:(((BitVec.ofInt 32 IntKind.u32.max^^^BitVec.ofInt 32 p).toNat:Nat):Int)=u)(hgo:goA tt n fu.n fr own cf (.d (.v (.int .u32 u))) [] []=⟨vc,fr',own',cf'⟩)(k:CfS prog GB C n Q0 fr' own' cf')
  (hv:aah vc:=by first|exact trivial|(simp only[aah];kernel_rfl)|(simp only[aah];omega)):CfS prog GB C n Q0 fr own cf:=by
 unfold ntA at h
 split at h<;>try (cases h;done)
 rename_i hh
 split at h<;>cases h
 rename_i hx
 subst e
 refine us hh (.x1 hx fun ρ G ov a w y _ r h1 h2=>?_) hgo hv k
 rw[aay] at h2;subst h2
 refine⟨_,aay.2 rfl,fun a w hf hh=>?_⟩
 simp only[execOp,aac hf h1]
 refine aal (w':=w) ?_
 show(pure (Value.int .u32 (IntKind.u32.wrap ((BitVec.ofInt 32 IntKind.u32.max^^^BitVec.ofInt 32 p).toNat:Int))):Sem Value).run prog w=_
 rw[alJ];rfl
end

theorem ars{ds:List Nat}{k:Nat}(hk:k<ds.length)(h:trimD ds=trimD (ds.take (k+1)))(h0:ds.getD k 0=0):trimD ds=trimD (ds.take k):=by
 rw[h,fR hk]
 have:ds[k]=0:=by rw[aX,aQ hk] at h0;simpa using h0
 rw[this,aiN]
theorem arC{ds:List Nat}{k:Nat}(hk:k<ds.length)(h:trimD ds=trimD (ds.take (k+1)))(h0:ds.getD k 0≠0):trimD ds=ds.take (k+1):=by
 rw[h,fR hk]
 have:ds[k]≠0:=by rw[aX,aQ hk] at h0;simpa using h0
 exact ahp this
theorem aa1{A G:Gh}{x:SV}{ds:List Nat}(hx:IsD A x ds)[GL A G](hb:ds.length≤1125899906842624):Fn prog 218 [x.v] G (fun v _=>v= .slice x.a (trimD ds).length x.c):=by
 have hlen:=hx.len
 have hcap:=hx.sl.cap
 refine Fn.intro func218 J J ntmps218 rfl ?_
 intro C _ _
 refine sR<|sa J J<|zE<|aak<|aat<|?_
 refine acg (X:=Nat) (fun k=>[(0, .slice x.a k x.c)]) (fun _=>[]) (fun k _=>k≤ds.length∧trimD ds=trimD (ds.take k)) (fun k=>k) ds.length ⟨aM _,by simp⟩ (hlen▸ .cons rfl .nil) rfl ?_
 rintro k Gx _ ⟨hk,ht⟩
 refine aak<|sR<|sm J J<|adn J J<|sy (agL J J) rfl<|sm J J<|?_
 refine acb 6 rfl (fun hg=>?_) (fun hg=>?_)
 ·have hk1:k-1<ds.length:=by omega
  have hkt:((k:Int)-1).toNat=k-1:=by omega
  have hk2:k=k-1+1:=by omega
  refine syg J J (aaP rfl) rfl<|syg J J (aaP rfl) rfl<|syg J J (aeZ rfl) rfl<|syg J J (aa8 J J) rfl<|?_
  refine syg J J (abW (z:=⟨x.a,k,x.c⟩) (hx.take k hk) J J (by omega) (by show _<(k:Int);omega)) rfl<|syg J J (abT hx rfl (by omega)) rfl<|syg J J (abZ J J) rfl<|sy (adb J J) rfl<|zE<|?_
  rw[hkt]
  refine abx rfl (fun hc=>?_) (fun hc=>?_) -- slot 14
  ·refine abC<|abO<|abO<|aau<|sR<|sm J J<|sa J J<|zE<|aaH<|?_
   have hs:=arC hk1 (hk2▸ht) (fun e=>hc (by rw[e];rfl))
   refine zD (.tmp rfl .nil) ?_
   rw[hs,←hk2]
   simp[abL,hk]
  refine zK<|aat<|aam<|sm J J<|sm J J<|adn J J<|sy (aa8 J J) rfl<|sy (adJ J J (by omega) (by omega)) rfl<|?_
  refine sa J J<|zE<|?_
  exact aa4 (k-1) ⟨by omega,ars hk1 (hk2▸ht) (by omega)⟩ (by omega) (.cons (by rw[←hkt];rfl) .nil) rfl
 refine ss J J J J<|ss J J J J<|ss J J J J<|ss J J J J<|ss J J J J<|ss J J J J<|?_
 refine ss J J J J<|sy (aby J J) rfl<|zE<|agK rfl<|abC<|abO<|abO<|aau<|sR<|sm J J<|sa J J<|zE<|aaH<|?_
 have hk0:k=0:=by omega
 subst hk0
 refine zD (.tmp rfl .nil) ?_
 rw[ht]
 rfl
theorem ar4{A G:Gh}{x:SV}{ds:List Nat}(hx:IsD A x ds)[GL A G](hb:ds.length≤1125899906842624):Fn prog 265 [x.v] G (fun v _=>v= .bool (decide (Nrm ds))):=by
 have hlen:=hx.len
 refine Fn.intro func265 J J ntmps265 rfl ?_
 intro C _ _
 refine sR<|sa J J<|zE<|sR<|sm J J<|adn J J<|sy (abZ J J) rfl<|sm J J<|?_
 refine acb 6 rfl (fun hg=>?_) (fun hg=>?_)
 ·refine ss J J J J<|ss J J J J<|ss J J J J<|ss J J J J<|ss J J J J<|ss J J J J<|ss J J J J<|sy (adb J J) rfl<|sa J J<|?_
  refine zE<|aaH<|?_
  refine zD (.tmp rfl .nil) ?_
  have:ds=[]:=bR (by omega)
  subst this
  simp[abL,Nrm]
 have hne:0<ds.length:=by omega
 have hkt:((x.n:Int)-1).toNat=ds.length-1:=by omega
 refine syg J J (aaP rfl) rfl<|syg J J (aaP rfl) rfl<|syg J J (aeZ rfl) rfl<|syg J J (aa8 J J) rfl<|syg J J (abW hx J J (by omega) (by omega)) rfl<|?_
 refine syg J J (abT hx rfl (by omega)) rfl<|syg J J (ahW J J) rfl<|sy (aby J J) rfl<|sa J J<|zE<|aaH<|?_
 refine zD (.tmp rfl .nil) ?_
 rw[hkt]
 simp only[abL,Value.bool.injEq,decide_eq_decide,Nrm,lX,aX,aQ (show ds.length-1<ds.length by omega),lJ,ne_eq,Option.some.injEq]
 exact not_congr (by omega)
theorem azV(ds:List Nat): ∀v∈ds.map dI,flat v=true:=fun v hv=>by
 obtain⟨d,_,rfl⟩:=bJ.1 hv;rfl
theorem amP{A G:Gh}{x:SV}{ds:List Nat}(hx:IsD A x ds)[GL A G](hb:ds.length≤1125899906842):Fn prog 219 [x.v] G (fun v G'=> ∃z:SV,v=z.v∧IsD G' z ds):=by
 have hlen:=hx.len
 refine Fn.intro func219 J J ntmps219 rfl ?_
 intro C _ _
 refine sR<|sa J J<|zE<|aak<|sR<|sm J J<|sy (azj J J) rfl<|zE<|?_
 refine awV rfl (fun hc=>?_) (fun hc=>?_)
 ·refine sR<|sa J J<|zE<|aaH<|?_
  refine zD (.tmp rfl .nil) ⟨⟨none,0,0⟩,rfl,?_⟩
  rcases hx.sl.mem with h|⟨b,off,cs,ha,_⟩
  ·have:ds=[]:=by simpa using h
   subst this;exact .nil _
  ·rw[ha] at hc;cases hc
 refine zK<|sR<|?_
 refine sc (anf rfl ?_)
 intro b1
 refine sm J J<|?_
 refine sc (agH (xs:=[]) (rest:=[]) (ys:=ds.map dI) J J (.hd ..) J J (aM _) (aEp hx) (by simp[hlen]) (azV ds) (by decide) (by omega) J J ?_)
 intro b cap rest h1 h2
 refine sa J J<|zE<|aci b (.hd ..) (fun G' _ hgb=>?_)
 refine aaH<|?_
 refine zD (.tmp rfl .nil) ⟨⟨some ⟨b,0,none⟩,x.n,cap⟩,by simp[abL,SV.v],?_⟩
 exact .of_block hx.ok hgb.h hlen (by omega) (by simp)
theorem alO{A G:Gh}{x:SV}{ds:List Nat}{k:Nat}(hx:IsD A x ds)[GL A G](hk:dv ds<2^k)(hb:ds.length≤1125899906842):Fn prog 164 [x.v] G (fun v G'=> ∃z:SV,v=z.v∧IsN k G' z (dv ds)):=by
 have htl:=abp ds
 refine Fn.intro func164 J J ntmps164 rfl ?_
 intro C _ _
 refine sR<|sa J J<|zE<|sR<|sm J J<|?_
 refine sc (zC J J (aa1 hx (by omega)) rfl ?_)
 rintro _ G1 _ rfl
 refine sc (zC J J (amP hx.trim (by omega)) rfl ?_)
 rintro _ G2 _ ⟨z,rfl,hz⟩
 refine sa J J<|zE<|aaH<|?_
 refine zD (.tmp rfl .nil) ⟨z,rfl,?_⟩
 exact⟨by rw[ado hx.ok];exact hz,hk⟩
end Go.Sx
end
section
namespace Go.Proofs
open Go.Shelf
def Tryz.lays128_ren:Go.Shelf.Ren:=⟨fun|128=>274|n=>n,fun|51=>215|3=>3|4=>4|46=>216|5=>5|9=>9|n=>n,fun|n=>n⟩
def Tryz.lays125_ren:Go.Shelf.Ren:=⟨fun|125=>246|128=>274|129=>292|n=>n,fun|46=>216|3=>3|51=>215|53=>214|4=>4|5=>5|9=>9|n=>n,fun|n=>n⟩
def Tryz.lays133_ren:Go.Shelf.Ren:=⟨fun|133=>231|128=>274|n=>n,fun|51=>215|3=>3|4=>4|46=>216|5=>5|9=>9|n=>n,fun|n=>n⟩
theorem Tryz.lays133:Go.Proofs.Lays.n133 Tryz.prog Tryz.lays133_ren:={
 mixed:=by kernel_rfl
 f128:=Tryz.func274.trans (congrArg some (by kernel_rfl))
 f133:=Tryz.func231.trans (congrArg some (by kernel_rfl))
 t3:=Tryz.underlying3
 a3:=Tryz.isAgg3
 z3:=Tryz.sizeOf3
 v3:=Tryz.zeroValue3
 t4:=Tryz.underlying4
 a4:=Tryz.isAgg4
 z4:=Tryz.sizeOf4
 v4:=Tryz.zeroValue4
 t5:=Tryz.underlying5
 a5:=Tryz.isAgg5
 z5:=Tryz.sizeOf5
 v5:=Tryz.zeroValue5
 t9:=Tryz.underlying9
 a9:=Tryz.isAgg9
 z9:=Tryz.sizeOf9
 v9:=Tryz.zeroValue9
 t46:=Tryz.underlying216
 a46:=Tryz.isAgg216
 z46:=Tryz.sizeOf216
 v46:=Tryz.zeroValue216
 t51:=Tryz.underlying215
 a51:=Tryz.isAgg215
 z51:=Tryz.sizeOf215
 v51:=Tryz.zeroValue215}
theorem Tryz.bits_LeadingZeros32(x:Int)(w:World)(h0:0≤x)(h1:x≤4294967295):
  Calls Tryz.prog 231 #[.int .u32 x] w fun e w'=>e= .returned (.int .i64 (32-(Lib.bitLen x.toNat:Int)))∧w'=w:=Any.bits_LeadingZeros32 Tryz.lays133 x w h0 h1
def Tryz.lays129_ren:Go.Shelf.Ren:=⟨fun|129=>292|n=>n,fun|53=>214|3=>3|4=>4|46=>216|5=>5|9=>9|n=>n,fun|n=>n⟩
def Tryz.lays264_ren:Go.Shelf.Ren:=⟨fun|264=>212|n=>n,fun|53=>214|46=>216|n=>n,fun|n=>n⟩
theorem Tryz.lays264:Go.Proofs.Lays.n264 Tryz.prog Tryz.lays264_ren:={
 mixed:=by kernel_rfl
 f264:=Tryz.func212.trans (congrArg some (by kernel_rfl))
 t46:=Tryz.underlying216
 a46:=Tryz.isAgg216
 z46:=Tryz.sizeOf216
 v46:=Tryz.zeroValue216
 t53:=Tryz.underlying214
 a53:=Tryz.isAgg214
 z53:=Tryz.sizeOf214
 v53:=Tryz.zeroValue214}
open Go.RowKit Go.Lib in
theorem Tryz.bits_Mul64(x y:Nat)(hx:x<18446744073709551616)(hy:y<18446744073709551616)(w:World):
  Calls Tryz.prog 212 #[.int .u64 x, .int .u64 y] w fun e w'=>e= .returned (.tuple #[.int .u64 ((x*y/18446744073709551616:Nat):Int), .int .u64 ((x*y%18446744073709551616:Nat):Int)])∧w'=w:=Any.bits_Mul64 Tryz.lays264 x y hx hy w
end Go.Proofs
end
section
namespace Go.Sx
open Go Go.Proofs Tryz
def bl(x:Nat):Nat:=if x=0 then 0 else Nat.log2 x+1
theorem axf(x:Nat):x<2^bl x:=by
 unfold bl
 split
 ·rename_i h;subst h;decide
 ·exact Nat.lt_log2_self
theorem aht{x k:Nat}:bl x≤k↔x<2^k:=by
 constructor
 ·intro h;exact dW (axf x) (bV (by omega) h)
 ·intro h
  unfold bl
  split
  ·omega
  ·rename_i h0
   have:=(Nat.log2_lt h0).2 h
   omega
theorem aBI{x:Nat}(h:x≠0):bl x=1+bl (x/2):=by
 have h1: ∀k,bl x≤k+1↔bl (x/2)≤k:=fun k=>by
  rw[aht,aht,fX];omega
 have h2:bl x≠0:=fun e=>by
  have:=axf x;rw[e] at this;simp at this;exact h this
 have h3:=(h1 (bl (x/2))).2 (aM _)
 have h4:=(h1 (bl x-1)).1 (by omega)
 omega
theorem ahZ: ∀(f x:Nat),x<2^f→Lib.bitLenAux f x=bl x
 |0,x,h=>by
  have:x=0:=by simpa using h
  subst this;rfl
 |f+1,x,h=>by
  unfold Lib.bitLenAux
  split
  ·rename_i h0;subst h0;rfl
  ·rename_i h0
   rw[ahZ f (x/2) (by rw[fX] at h;omega),aBI h0]
theorem auY{x:Nat}(h:x<2^64):Lib.bitLen x=bl x:=ahZ 64 x h
theorem axb{x k:Nat}(d:Nat)(h:x<2^k)(hd:d≠0):bl (x+2^k*d)=k+bl d:=by
 have h1: ∀j,bl (x+2^k*d)≤k+j↔bl d≤j:=fun j=>by
  rw[aht,aht,eX]
  constructor
  ·intro h'
   exact Nat.lt_of_mul_lt_mul_left (a:=2^k) (by omega)
  ·intro h'
   have:2^k*(d+1)≤2^k*2^j:=dS _ h'
   rw[dY] at this
   omega
 have h2:k<bl (x+2^k*d):=by
  rcases iY k (bl (x+2^k*d)) with h'|h'
  ·exact h'
  ·have:=aht.1 h'
   have h3:2^k*1≤2^k*d:=dS _ (by omega)
   omega
 have h3:=(h1 (bl d)).2 (aM _)
 have h4:=(h1 (bl (x+2^k*d)-k)).1 (by omega)
 omega
theorem aGZ{ds:List Nat}(h:DOk ds)(hn:Nrm ds)(hne:ds≠[]):bl (dv ds)=32*(ds.length-1)+bl (ds.getD (ds.length-1) 0):=by
 rcases rJ ds with rfl|⟨l,d,rfl⟩
 ·exact absurd rfl hne
 ·rw[rK] at*
  have hd:d≠0:=fun e=>by subst e;simp[Nrm] at hn
  have hl:DOk l:=fun x hx=>h x (cX _ hx)
  have h1:=aej hl
  rw[aeA]
  have h2:(4294967296:Nat)^l.length=2^(32*l.length):=by rw[pX]
  rw[h2] at h1⊢
  have h3:dv [d]=d:=by simp[dv]
  rw[h3,axb d h1 hd]
  have h4:(l++[d]).length-1=l.length:=by simp
  rw[h4,aX,jZ (aM _)]
  simp
theorem ai6{P:Program}{f:FuncId}{fn:Func}{c:Code}(h:P.funcs[f]? =some fn)(hb:fn.body=some c)(hn:(fn.name== "runtime.NumGoroutine")=false):aec P f:=⟨fn,h,hn,by rw[hb];rfl⟩
theorem aiV{G:Gh}{x:Nat}(hx:x<4294967296):Fn prog 231 [.int .u32 (x:Int)] G (fun v _=>v= .int .i64 (32-(bl x:Int))):=by
 have h:=Fn.of_calls (G:=G) (ai6 func231 J J) (fun w=>Tryz.bits_LeadingZeros32 (x:Int) w (by omega) (by omega))
 rw[bZ,auY (pY hx (by decide))] at h
 exact h
theorem afv{G:Gh}{u:Nat}(hu:u<18446744073709551616):Fn prog 165 [.int .u64 (u:Int)] G (fun v G'=> ∃z:SV,v=z.v∧IsN 64 G' z u):=by
 refine Fn.intro func165 J J ntmps165 rfl ?_
 intro C _ _
 refine sR<|sa J J<|zE<|sR<|sm J J<|sy (abh rfl) rfl<|sm J J<|?_
 refine sy (adC J J (by decide)) rfl<|sy (abh rfl) rfl<|?_
 refine sc (alL (by rfl) (by rfl) (by rfl) (by rfl) rfl ?_)
 intro b1
 refine aci b1 (.hd ..) (fun G1 _ hgb=>?_)
 have h1:((u:Int)%4294967296)=((u%4294967296:Nat):Int):=by omega
 have h2:((u:Int).fdiv (2^min (32:Int).toNat IntKind.u64.bits)%4294967296)=((u/4294967296:Nat):Int):=by
  have:(2^min (32:Int).toNat IntKind.u64.bits:Int)=4294967296:=by decide
  rw[this,gK _ (by omega)]
  omega
 have hok:DOk [u%4294967296,u/4294967296]:= .cons (by omega) (.cons (by omega) .nil)
 have hd:IsD G1 ⟨some ⟨b1,0,none⟩,2,2⟩ [u%4294967296,u/4294967296]:= .of_block hok hgb.h rfl (aM _) (by rw[h1,h2];rfl)
 have hv:dv [u%4294967296,u/4294967296]=u:=by simp only[dv];omega
 refine sc (zC J J (aa1 hd (by simp)) rfl ?_)
 rintro _ G2 _ rfl
 refine sa J J<|zE<|aaH<|?_
 refine zD (.tmp rfl .nil) ⟨⟨some ⟨b1,0,none⟩,(trimD [u%4294967296,u/4294967296]).length,2⟩,rfl,?_⟩
 have:=hd.trim.up (G:=G2)
 rw[←ado hok,hv] at this
 exact⟨by rw[←ado hok,hv];exact this,dW hu (by decide)⟩
theorem ay3{P:Program}{t:TypeId}(a b k:Nat)(ha:a<2^k)(h:a+b*2^k<18446744073709551616)(w:World):(binOp .or t (.int .u64 (a:Int)) (.int .u64 ((b*2^k:Nat):Int))).run P w= .ok (.int .u64 ((a+b*2^k:Nat):Int)) w:=by
 have h1:(BitVec.ofInt 64 (a:Int) ||| BitVec.ofInt 64 ((b*2^k:Nat):Int)).toNat=a+b*2^k:=by
  rw[BitVec.toNat_or,BitVec.ofInt_natCast,BitVec.ofInt_natCast,BitVec.toNat_ofNat,BitVec.toNat_ofNat,fJ (by omega),fJ (by omega)]
  rw[←lW,Nat.or_comm,←lR ha,lW]
  omega
 have h2:IntKind.u64.wrap ((a+b*2^k:Nat):Int)=((a+b*2^k:Nat):Int):=by rw[abQ];omega
 simp only[binOp]
 show(Op.intBits .or .u64 (a:Int) ((b*2^k:Nat):Int)).run P w=_
 unfold Op.intBits
 show(pure (Value.int .u64 (IntKind.u64.wrap ((BitVec.ofInt 64 (a:Int) ||| BitVec.ofInt 64 ((b*2^k:Nat):Int)).toNat:Int))):Sem Value).run P w=_
 rw[h1,h2,run_pure]
theorem ala{A G:Gh}{x:SV}{ds:List Nat}(hx:IsD A x ds)[GL A G](hb:ds.length≤1125899906842624):Fn prog 204 [x.v] G (fun v _=>v= .tuple #[.int .u64 ((if dv ds<18446744073709551616 then dv ds else 0:Nat):Int), .bool (decide (dv ds<18446744073709551616))]):=by
 have htl:=abp ds
 have hdv:=aa7 ds
 have hok:=hx.ok.trimD
 have hnr:=Nrm.trimD ds
 have hxt:=hx.trim
 have hcall:=fun G1 (_:GL A G1)=>aa1 (G:=G1) hx (by omega)
 generalize trimD ds=es at*
 have hlen:=hxt.len
 rw[←hdv]
 have hbig:(if dv es<18446744073709551616 then dv es else 0)=if es.length≤2 then dv es else 0:=by
  by_cases h2:es.length≤2
  ·have h3:=aej hok
   have h4:(4294967296:Nat)^es.length≤4294967296^2:=bV (by omega) h2
   rw[if_pos h2,if_pos (by omega)]
  ·have h3:=af0 hnr (fun e=>by subst e;simp at h2)
   have h4:(4294967296:Nat)^2≤4294967296^(es.length-1):=bV (by omega) (by omega)
   rw[if_neg h2,if_neg (by omega)]
 have hbig2:decide (dv es<18446744073709551616)=decide (es.length≤2):=by
  rw[decide_eq_decide]
  by_cases h2:es.length≤2
  ·have h3:=aej hok
   have h4:(4294967296:Nat)^es.length≤4294967296^2:=bV (by omega) h2
   exact⟨fun _=>h2,fun _=>by omega⟩
  ·have h3:=af0 hnr (fun e=>by subst e;simp at h2)
   have h4:(4294967296:Nat)^2≤4294967296^(es.length-1):=bV (by omega) (by omega)
   exact⟨fun _=>by omega,fun h=>absurd h h2⟩
 rw[hbig,hbig2]
 refine Fn.intro func204 J J ntmps204 rfl ?_
 intro C _ _
 refine sR<|sa J J<|sa J J<|zE<|sR<|sm J J<|?_
 refine sc (zC J J (hcall _ inferInstance) rfl ?_)
 rintro _ G1 _ rfl
 refine sa J J<|zE<|aak<|sR<|sm J J<|adn J J<|sy (agL J J) rfl<|zE<|?_
 refine aaD rfl (fun hc=>?_) (fun hc=>?_) -- slot 11
 ·refine sR<|sa J J<|sa J J<|zE<|aaH<|?_
  refine zD (.tmp rfl (.tmp rfl .nil)) ?_
  have: ¬es.length≤2:=by omega
  simp[abL,this]
 have h2:es.length≤2:=by omega
 refine zK<|sR<|sa J J<|zE<|aak<|sR<|sm J J<|adn J J<|sm J J<|zE<|aat<|?_
 refine acg (X:=Nat) (fun k=>[(14, .int .i64 k),(13, .int .i64 es.length),(12, .slice x.a es.length x.c),(4, .int .u64 ((dv (es.take k):Nat):Int))]) (fun _=>[]) (fun k _=>k≤es.length) (fun k=>es.length-k) 0 (bX _) (.cons rfl (.cons rfl (.cons rfl (.cons rfl .nil)))) rfl ?_
 rintro k Gx _ hk
 refine sR<|sy (acp J J) rfl<|zE<|aak<|?_
 refine abx rfl (fun hc=>?_) (fun hc=>?_) -- slot 15
 ·refine abC<|abO<|abO<|aau<|sR<|sm J J<|sa J J<|sa J J<|zE<|aaH<|?_
  refine zD (.tmp rfl (.tmp rfl .nil)) ?_
  have hk':k=es.length:=by omega
  subst hk'
  simp[abL,h2]
 have hk':k<es.length:=by omega
 have hdk:=hok.get k
 have hdt:=aej (hok.take k)
 rw[cR,iZ (by omega)] at hdt
 have hds:=aaw es k
 have hd2:=aej (hok.take (k+1))
 rw[cR,iZ (by omega)] at hd2
 have hp2:(4294967296:Nat)^(k+1)≤4294967296^2:=bV (by omega) (by omega)
 have hpk:(4294967296:Nat)^k=2^(32*k):=by rw[pX]
 refine zK<|aak<|aat<|sR<|sm J J<|sy (abW (z:=⟨x.a,es.length,x.c⟩) hxt J J (by omega) (by show(k:Int)<(es.length:Nat);omega)) rfl<|sy (abT hxt rfl (by omega)) rfl<|sa J J<|sa J J<|zE<|aam<|?_
 refine sm J J<|sm J J<|sy (aaK rfl (by omega) (by rw[bZ];omega)) rfl<|sm J J<|sy (apR J J (by omega) (by omega)) rfl<|?_
 have hsh:IntKind.u64.wrap (((es.getD (k:Int).toNat 0:Nat):Int)*2^min ((32:Int)*(k:Int)).toNat IntKind.u64.bits)=((es.getD k 0*2^(32*k):Nat):Int):=by
  have e1:((32:Int)*(k:Int)).toNat=32*k:=by omega
  rw[e1,bZ,iZ (by show 32*k≤64;omega),abQ]
  have e2:((es.getD k 0:Nat):Int)*2^(32*k)=((es.getD k 0*2^(32*k):Nat):Int):=by push_cast;rfl
  rw[e2]
  have e3:es.getD k 0*2^(32*k)<18446744073709551616:=by rw[←hpk,bL];omega
  omega
 refine sy (ai8 J J (by omega)) rfl<|?_
 rw[hsh]
 refine sy (ab7 J J (ay3 (dv (es.take k)) (es.getD k 0) (32*k) (by rw[←hpk];exact hdt) (by rw[←hpk,bL];omega))) rfl<|sa J J<|zE<|aam<|sy (aar J J) rfl<|sm J J<|zE<|?_
 refine aa4 (k+1) (by omega) (by omega) (.cons rfl (.cons rfl (.cons rfl (.cons ?_ .nil)))) rfl
 rw[hds,hpk,bL (2^(32*k))]
 rfl
theorem awd{A G:Gh}{x:SV}{ds:List Nat}(hx:IsD A x ds)[GL A G](hb:ds.length≤1125899906842624):Fn prog 200 [x.v] G (fun v _=>v= .int .i64 ((bl (dv ds):Nat):Int)):=by
 have htl:=abp ds
 have hdv:=aa7 ds
 have hok:=hx.ok.trimD
 have hnr:=Nrm.trimD ds
 have hxt:=hx.trim
 have hcall:=fun G1 (_:GL A G1)=>aa1 (G:=G1) hx (by omega)
 generalize trimD ds=es at*
 have hlen:=hxt.len
 rw[←hdv]
 refine Fn.intro func200 J J ntmps200 rfl ?_
 intro C _ _
 refine sR<|sa J J<|zE<|sR<|sm J J<|?_
 refine sc (zC J J (hcall _ inferInstance) rfl ?_)
 rintro _ G1 _ rfl
 refine sa J J<|zE<|aak<|sR<|sm J J<|adn J J<|sy (abZ J J) rfl<|zE<|?_
 refine aaD rfl (fun hc=>?_) (fun hc=>?_) -- slot 7
 ·refine sR<|sa J J<|zE<|aaH<|?_
  refine zD (.tmp rfl .nil) ?_
  have:es=[]:=bR (by omega)
  subst this
  rfl
 have hne:0<es.length:=by omega
 have hkt:((es.length:Int)-1).toNat=es.length-1:=by omega
 have hg:=hok.get (es.length-1)
 have hbl:bl (es.getD (es.length-1) 0)≤32:=aht.2 (by omega)
 refine zK<|sR<|sm J J<|adn J J<|sy (apR J J (by omega) (by omega)) rfl<|sm J J<|sm J J<|adn J J<|sy (aa8 J J) rfl<|?_
 refine sy (abW (z:=⟨x.a,es.length,x.c⟩) hxt J J (by omega) (by show _<((es.length:Nat):Int);omega)) rfl<|sy (abT hxt rfl (by omega)) rfl<|?_
 rw[hkt]
 refine sc (zC J J (aiV hg) rfl ?_)
 rintro _ G2 _ rfl
 refine sy (aa8 J J) rfl<|sa J J<|zE<|aaH<|?_
 refine zD (.tmp rfl .nil) ?_
 rw[aGZ hok hnr (fun e=>by subst e;simp at hne)]
 simp only[abL,Value.int.injEq,true_and]
 omega
def ahi(a b:Nat):Int:=if a<b then-1 else if a=b then 0 else 1
theorem avy{A B G:Gh}{x y:SV}{ds es:List Nat}(hx:IsD A x ds)(hy:IsD B y es)[GL A G][GL B G](hb:ds.length≤1125899906842624)(hb2:es.length≤1125899906842624):
  Fn prog 250 [x.v,y.v] G (fun v _=>v= .int .i64 (ahi (dv ds) (dv es))):=by
 have htl:=abp ds
 have htl2:=abp es
 have hcall:=fun G1 (_:GL A G1)=>aa1 (G:=G1) hx (by omega)
 have hcall2:=fun G1 (_:GL B G1)=>aa1 (G:=G1) hy (by omega)
 have hxt:=hx.trim
 have hyt:=hy.trim
 have hok:=hx.ok.trimD
 have hok2:=hy.ok.trimD
 have hnr:=Nrm.trimD ds
 have hnr2:=Nrm.trimD es
 rw[←aa7 ds,←aa7 es]
 generalize trimD ds=a at*
 generalize trimD es=b at*
 refine Fn.intro func250 J J ntmps250 rfl ?_
 intro C _ _
 refine sR<|sa J J<|zE<|sR<|sm J J<|?_
 refine sc (zC J J (hcall _ inferInstance) rfl ?_)
 rintro _ G1 _ rfl
 refine sm J J<|?_
 refine sc (zC J J (hcall2 _ inferInstance) rfl ?_)
 rintro _ G2 _ rfl
 refine sa J J<|sa J J<|zE<|aak<|sR<|sm J J<|adn J J<|sm J J<|adn J J<|sy (ahW J J) rfl<|zE<|?_
 refine aaD rfl (fun hc=>?_) (fun hc=>?_) -- slot 14
 ·refine aak<|sR<|sm J J<|adn J J<|sm J J<|adn J J<|sy (acp J J) rfl<|zE<|?_
  refine aaD rfl (fun hc2=>?_) (fun hc2=>?_) -- slot 19
  ·refine sR<|sa J J<|zE<|aaH<|?_
   refine zD (.tmp rfl .nil) ?_
   have:=acK hok hnr2 (by omega)
   simp[abL,ahi,this]
  refine zK<|sR<|sa J J<|zE<|aaH<|?_
  refine zD (.tmp rfl .nil) ?_
  have:=acK hok2 hnr (by omega)
  have h1: ¬dv a<dv b:=by omega
  have h2: ¬dv a=dv b:=by omega
  simp[abL,ahi,h1,h2]
 have hl:a.length=b.length:=by omega
 refine zK<|aak<|sR<|sm J J<|adn J J<|sy (aa8 J J) rfl<|sa J J<|zE<|aat<|?_
 refine acg (X:=Nat) (fun k=>[(5, .int .i64 (k-1)),(0, .slice x.a a.length x.c),(1, .slice y.a b.length y.c)]) (fun _=>[]) (fun k _=>k≤a.length∧a.drop k=b.drop k) (fun k=>k) a.length ⟨aM _,by rw[fV,hl,fV]⟩ (.cons rfl (.cons rfl (.cons rfl .nil))) rfl ?_
 rintro k Gx _ ⟨hk,hd⟩
 refine aak<|sR<|sm J J<|sy (ah6 J J) rfl<|zE<|?_
 refine abx rfl (fun hc=>?_) (fun hc=>?_) -- slot 24
 ·refine abC<|abO<|abO<|aau<|sR<|sa J J<|zE<|aaH<|?_
  refine zD (.tmp rfl .nil) ?_
  have:k=0:=by omega
  subst this
  have hab:a=b:=by simpa using hd
  subst hab
  simp[abL,ahi]
 have hk1:0<k:=by omega
 have hkt:((k:Int)-1).toNat=k-1:=by omega
 have hga:=hok.get (k-1)
 have hgb:=hok2.get (k-1)
 have hk2:k-1+1=k:=by omega
 refine zK<|aak<|aat<|aat<|aak<|dr (fun _=>false) [(0,true),(1,true),(2,true),(3,true),(4,true),(5,true),(6,true),(7,true),(8,true),(9,true)] follows (by kernel_rfl)<|?_
 refine dM J J J<|dM J J J<|dy rfl (fun _=>abW (z:=⟨x.a,a.length,x.c⟩) hxt J J (by omega) (by show _<((a.length:Nat):Int);omega)) J J<|dy rfl (fun _=>abT hxt rfl (by omega)) J J<|?_
 refine dM J J J<|dM J J J<|dy rfl (fun _=>abW (z:=⟨y.a,b.length,y.c⟩) hyt J J (by omega) (by show _<((b.length:Nat):Int);omega)) J J<|dy rfl (fun _=>abT hyt rfl (by omega)) J J<|?_
 refine dy rfl (fun _=>acp J J) J J<|dA J J J<|dn<|?_
 refine aaD rfl (fun hc2=>?_) (fun hc2=>?_) -- slot 27
 ·refine sR<|sa J J<|zE<|aaH<|?_
  refine zD (.tmp rfl .nil) ?_
  rw[hkt] at hc2
  have:=aq4 hok hok2 (k-1) (by omega) (by omega) hl (by rw[hk2];exact hd) (by omega)
  simp[abL,ahi,this]
 refine aak<|dr (fun _=>false) [(0,true),(1,true),(2,true),(3,true),(4,true),(5,true),(6,true),(7,true),(8,true),(9,true)] follows (by kernel_rfl)<|dM J J J<|?_
 refine dM J J J<|dy rfl (fun _=>abW (z:=⟨x.a,a.length,x.c⟩) hxt J J (by omega) (by show _<((a.length:Nat):Int);omega)) J J<|dy rfl (fun _=>abT hxt rfl (by omega)) J J<|dM J J J<|?_
 refine dM J J J<|dy rfl (fun _=>abW (z:=⟨y.a,b.length,y.c⟩) hyt J J (by omega) (by show _<((b.length:Nat):Int);omega)) J J<|dy rfl (fun _=>abT hyt rfl (by omega)) J J<|dy rfl (fun _=>agL J J) J J<|?_
 refine dA J J J<|dn<|?_
 rw[hkt] at*
 refine aaD rfl (fun hc3=>?_) (fun hc3=>?_) -- slot 37
 ·refine sR<|sa J J<|zE<|aaH<|?_
  refine zD (.tmp rfl .nil) ?_
  have:=aq4 hok2 hok (k-1) (by omega) (by omega) hl.symm (by rw[hk2];exact hd.symm) (by omega)
  have h1: ¬dv a<dv b:=by omega
  have h2: ¬dv a=dv b:=by omega
  simp[abL,ahi,h1,h2]
 refine zK<|aam<|sm J J<|sy (aa8 J J) rfl<|sa J J<|zE<|?_
 refine aa4 (k-1) ⟨by omega,?_⟩ (by omega) (.cons (by rw[show((k-1:Nat):Int)=(k:Int)-1 by omega];rfl) (.cons rfl (.cons rfl .nil))) rfl
 have heq:a.getD (k-1) 0=b.getD (k-1) 0:=by omega
 rw[aX,aX,aQ (by omega),aQ (by omega)] at heq
 rw[bQ (by omega:k-1<a.length),bQ (by omega:k-1<b.length),hk2,hd]
 congr 1
theorem alz{ds:List Nat}{k:Nat}(h:ds.length≤k):ds.getD k 0=0:=by
 rw[aX,dJ h];rfl
theorem alu(n k:Nat):(List.replicate n 0).getD k 0=0:=by
 rw[aX]
 by_cases h:k<n
 ·simp[h]
 ·rw[dJ (by simpa using h)];rfl
theorem aDY{a b c:Nat}(ha:a<4294967296)(hb:b<4294967296)(hc:c≤1):(c+a+b)/4294967296≤1:=by omega
structure aCF where
 ws:List Nat
 k:Nat
 c:Nat
theorem aCf{A B G:Gh}{x y:SV}{ds es:List Nat}{kk:Nat}(hx:IsD A x ds)(hy:IsD B y es)[GL A G][GL B G](hk:dv ds+dv es<2^kk)(hb:ds.length≤1125899906842)(hb2:es.length≤1125899906842):
  Fn prog 216 [x.v,y.v] G (fun v G'=> ∃z:SV,v=z.v∧IsN kk G' z (dv ds+dv es)):=by
 have hlen:=hx.len
 have hlen2:=hy.len
 refine Fn.intro func216 J J ntmps216 rfl ?_
 intro C _ _
 refine sR<|sa J J<|zE<|?_
 refine am9 ((SV×List Nat)×(SV×List Nat)) (fun q=>[(0, .slice q.1.1.a q.1.1.n q.1.1.c),(1, .slice q.2.1.a q.2.1.n q.2.1.c)]) (fun _=>[])
  (fun q G=>IsD G q.1.1 q.1.2∧IsD G q.2.1 q.2.2∧dv q.1.2+dv q.2.2=dv ds+dv es∧q.2.2.length≤q.1.2.length∧q.1.2.length≤1125899906842) ?_ ?_
 ·refine sR<|sm J J<|adn J J<|sm J J<|adn J J<|sy (acp J J) rfl<|zE<|?_
  refine aaD rfl (fun hc=>?_) (fun hc=>?_) -- slot 13
  ·refine aam<|sm J J<|sm J J<|sa J J<|sa J J<|zE<|?_
   exact ajM ((y,es),(x,ds)) ⟨hy.up,hx.up,by simp;omega,by simp;omega,by simp;omega⟩ (.cons rfl (.cons rfl .nil)) rfl
  refine zK<|?_
  exact ajM ((x,ds),(y,es)) ⟨hx.up,hy.up,rfl,by simp;omega,by simp;omega⟩ (.cons rfl (.cons rfl .nil)) rfl
 rintro ⟨⟨x,a⟩,⟨y,b⟩⟩ Gx _ ⟨hx,hy,hsum,hle,hba⟩
 rw[←hsum] at hk⊢
 clear hlen hlen2 hsum
 have hlen:=hx.len
 have hlen2:=hy.len
 simp only[] at hx hy hle hba hlen hlen2 hk⊢
 refine sR<|sm J J<|adn J J<|sy (aar J J) rfl<|?_
 refine sc (aeN J J (by omega) (by omega) (by omega) (by rfl) rfl ?_)
 intro b1
 rw[ad5,show((x.n:Int)+1).toNat=a.length+1 by omega]
 refine sa J J<|zE<|sR<|sa J J<|zE<|aak<|sR<|sm J J<|adn J J<|sm J J<|zE<|aat<|?_
 refine acg (X:=aCF) (fun q=>[(22, .int .i64 q.k),(21, .int .i64 x.n),(20, .slice x.a x.n x.c),(6, .int .u64 q.c),(0, .slice x.a x.n x.c),(1, .slice y.a y.n y.c),(5, .slice (some ⟨b1,0,none⟩) (a.length+1) (a.length+1))])
  (fun q=>[⟨b1,q.ws.map dI,215,true⟩])
  (fun q _=>q.k≤a.length∧q.ws.length=a.length+1∧DOk q.ws∧q.c≤1∧dv (q.ws.take q.k)+4294967296^q.k*q.c=dv (a.take q.k)+dv (b.take q.k)) (fun q=>a.length-q.k) ⟨List.replicate (a.length+1) 0,0,0⟩
  ⟨bX _,by simp, .replicate _,bX _,by simp[dv]⟩ (.cons rfl (.cons rfl (.cons rfl (.cons rfl (.cons rfl (.cons rfl (.cons rfl .nil))))))) rfl ?_
 rintro ⟨ws,k,c⟩ Gy _ ⟨hka,hwl,hwo,hc1,hinv⟩
 simp only[] at hka hwl hwo hc1 hinv⊢
 refine sR<|sy (acp J J) rfl<|zE<|aak<|?_
 refine abx rfl (fun hc=>?_) (fun hc=>?_) -- slot 23
 ·have hkn:k=a.length:=by omega
  refine abC<|abO<|abO<|aau<|sR<|sm J J<|sm J J<|adn J J<|sm J J<|sy (abh rfl) rfl<|?_
  refine sy (abj J J (by omega) (by omega)) rfl<|?_
  refine sc (aa5 (d:=c) J J (by omega) (.hd ..) (by omega) rfl ?_)
  rw[show(x.n:Int).toNat=a.length by omega]
  refine zE<|sR<|sm J J<|?_
  refine aci b1 (.hd ..) (fun G1 _ hgb=>?_)
  have hwo2:DOk (ws.set a.length c):=hwo.set _ (by omega)
  have hD:IsD G1 ⟨some ⟨b1,0,none⟩,a.length+1,a.length+1⟩ (ws.set a.length c):= .of_block hwo2 hgb.h (by simp[hwl]) (aM _) (by rw[aW (by simp)])
  have hdv:dv (ws.set a.length c)=dv a+dv b:=by
   have h1:=abf (ws:=ws) (k:=a.length) (d:=c) (by omega)
   rw[aW (by simp;omega)] at h1
   rw[h1,←hkn,hinv,hkn,aW (aM _),aW hle]
  refine sc (zC J J (aa1 hD (by simp;omega)) rfl ?_)
  rintro _ G2 _ rfl
  refine sa J J<|zE<|aaH<|?_
  refine zD (.tmp rfl .nil) ⟨⟨some ⟨b1,0,none⟩,(trimD (ws.set a.length c)).length,a.length+1⟩,rfl,?_⟩
  have h3:=hD.trim.up (G:=G2)
  rw[←hdv] at hk⊢
  exact⟨by rw[ado hwo2];exact h3,hk⟩
 have hka':k<a.length:=by omega
 have hga:=hx.ok.get k
 have hgb:=hy.ok.get k
 refine zK<|aak<|aat<|sR<|sm J J<|sy (abW hx J J (by omega) (by omega)) rfl<|sy (abT hx rfl (by omega)) rfl<|sa J J<|sa J J<|zE<|aak<|?_
 refine aam<|sm J J<|sm J J<|sy (aaK rfl (by omega) (by rw[bZ];omega)) rfl<|sy (aef J J (by omega) (by rw[bZ];omega)) rfl<|sa J J<|zE<|?_
 rw[bZ]
 refine am9 Unit (fun _=>[(22, .int .i64 k),(7, .int .i64 k),(21, .int .i64 x.n),(20, .slice x.a x.n x.c),(6, .int .u64 ((c+a.getD k 0+b.getD k 0:Nat):Int)),(0, .slice x.a x.n x.c),(1, .slice y.a y.n y.c),(5, .slice (some ⟨b1,0,none⟩) (a.length+1) (a.length+1))]) (fun _=>[⟨b1,ws.map dI,215,true⟩]) (fun _ _=>True) ?_ ?_
 ·refine sR<|sm J J<|sm J J<|adn J J<|sy (acp J J) rfl<|zE<|?_
  refine aaD rfl (fun hc2=>?_) (fun hc2=>?_) -- slot 34
  ·refine aam<|sm J J<|sm J J<|sm J J<|sy (abW hy J J (by omega) (by omega)) rfl<|sy (abT hy rfl (by omega)) rfl<|sy (aaK rfl (by omega) (by rw[bZ];omega)) rfl<|?_
   rw[bZ]
   refine sy (aef J J) rfl<|sa J J<|zE<|?_
   exact ajM () trivial (.cons rfl (.cons rfl (.cons rfl (.cons rfl (.cons (by rw[sX,sX];rfl) (.cons rfl (.cons rfl (.cons rfl .nil)))))))) rfl
  refine zK<|?_
  have h0:b.getD k 0=0:=alz (by omega)
  exact ajM () trivial (.cons rfl (.cons rfl (.cons rfl (.cons rfl (.cons (by rw[h0,fQ,sX];rfl) (.cons rfl (.cons rfl (.cons rfl .nil)))))))) rfl
 rintro _ Gz _ _
 generalize hcc:c+a.getD k 0+b.getD k 0=cc
 have hcb:cc/4294967296≤1:=by rw[←hcc];exact aDY hga hgb hc1
 refine sR<|sm J J<|sm J J<|sm J J<|sy (abh rfl) rfl<|sy (abj J J (by omega) (by omega)) rfl<|?_
 rw[bZ]
 refine sc (aa5 (d:=cc%4294967296) J J (by omega) (.hd ..) (by omega) rfl ?_)
 refine zE<|aam<|sm J J<|sy (adC J J (by decide)) rfl<|sa J J<|zE<|aam<|sy (aar J J) rfl<|sm J J<|zE<|?_
 have hsh:((cc:Int).fdiv (2^min (32:Int).toNat IntKind.u64.bits))=((cc/4294967296:Nat):Int):=by
  have:(2^min (32:Int).toNat IntKind.u64.bits:Int)=4294967296:=by decide
  rw[this,gK _ (by omega)];rfl
 rw[hsh]
 refine aa4 ⟨ws.set k (cc%4294967296),k+1,cc/4294967296⟩ ⟨by show k+1≤_;omega,by simp[hwl],hwo.set _ (by omega),hcb,?_⟩ (by show a.length-(k+1)<a.length-k;omega) (.cons rfl (.cons rfl (.cons rfl (.cons rfl (.cons rfl (.cons rfl (.cons rfl .nil))))))) rfl
 show dv ((ws.set k (cc%4294967296)).take (k+1))+4294967296^(k+1)*(cc/4294967296)=dv (a.take (k+1))+dv (b.take (k+1))
 rw[abf (by omega),aaw a,aaw b,←hcc,fX]
 exact apn hinv
structure aD0 where
 ws:List Nat
 k:Nat
 c:Nat
theorem aDp(p:Int)(h0:0≤p):p.fdiv (2^min (63:Int).toNat IntKind.u64.bits)=p/9223372036854775808:=by
 have:(2^min (63:Int).toNat IntKind.u64.bits:Int)=9223372036854775808:=by decide
 rw[this,gK _ (by omega)]
theorem aC9(p:Nat):((p:Int).fdiv (2^min (32:Int).toNat IntKind.u64.bits))=((p/4294967296:Nat):Int):=by
 have:(2^min (32:Int).toNat IntKind.u64.bits:Int)=4294967296:=by decide
 rw[this,gK _ (by omega)];rfl
theorem avV{A B G:Gh}{x y:SV}{a b:List Nat}{kk:Nat}(hx:IsD A x a)(hy:IsD B y b)[GL A G][GL B G](hle:b.length≤a.length)(hge:dv b≤dv a)(hk:dv a<2^kk)(hba:a.length≤1125899906842):
  Fn prog 263 [x.v,y.v] G (fun v G'=> ∃z:SV,v=z.v∧IsN kk G' z (dv a-dv b)):=by
 have hlen:=hx.len
 have hlen2:=hy.len
 refine Fn.intro func263 J J ntmps263 rfl ?_
 intro C _ _
 refine sR<|sa J J<|zE<|sR<|sm J J<|adn J J<|?_
 refine sc (aeN J J (by omega) (by omega) (by omega) (by rfl) rfl ?_)
 intro b1
 rw[ad5,show(x.n:Int).toNat=a.length by omega]
 refine sa J J<|zE<|sR<|sa J J<|zE<|aak<|sR<|sm J J<|adn J J<|sm J J<|zE<|aat<|?_
 refine acg (X:=aD0) (fun q=>[(16, .int .i64 q.k),(15, .int .i64 x.n),(14, .slice x.a x.n x.c),(6, .int .u64 q.c),(1, .slice y.a y.n y.c),(5, .slice (some ⟨b1,0,none⟩) a.length a.length)])
  (fun q=>[⟨b1,q.ws.map dI,215,true⟩])
  (fun q _=>q.k≤a.length∧q.ws.length=a.length∧DOk q.ws∧q.c≤1∧dv (q.ws.take q.k)+dv (b.take q.k)=dv (a.take q.k)+4294967296^q.k*q.c) (fun q=>a.length-q.k) ⟨List.replicate a.length 0,0,0⟩
  ⟨bX _,by simp, .replicate _,bX _,by simp[dv]⟩ (.cons rfl (.cons rfl (.cons rfl (.cons rfl (.cons rfl (.cons rfl .nil)))))) rfl ?_
 rintro ⟨ws,k,c⟩ Gy _ ⟨hka,hwl,hwo,hc1,hinv⟩
 simp only[] at hka hwl hwo hc1 hinv⊢
 refine sR<|sy (acp J J) rfl<|zE<|aak<|?_
 refine abx rfl (fun hc=>?_) (fun hc=>?_) -- slot 17
 ·have hkn:k=a.length:=by omega
  refine abC<|abO<|abO<|aau<|sR<|sm J J<|?_
  refine aci b1 (.hd ..) (fun G1 _ hgb=>?_)
  have hD:IsD G1 ⟨some ⟨b1,0,none⟩,a.length,a.length⟩ ws:= .of_block hwo hgb.h hwl.symm (aM _) (by rw[aW (by simp)])
  have hdv:dv ws=dv a-dv b:=by
   rw[hkn,aW (by omega),aW hle,aW (aM _)] at hinv
   have h2:=aej hwo
   rw[hwl] at h2
   rcases fT c with h0|h0
   ·subst h0;omega
   ·have:c=1:=by omega
    subst this;omega
  refine sc (zC J J (aa1 hD (by omega)) rfl ?_)
  rintro _ G2 _ rfl
  refine sa J J<|zE<|aaH<|?_
  refine zD (.tmp rfl .nil) ⟨⟨some ⟨b1,0,none⟩,(trimD ws).length,a.length⟩,rfl,?_⟩
  have h3:=hD.trim.up (G:=G2)
  rw[←hdv]
  exact⟨by rw[ado hwo];exact h3,by omega⟩
 have hka':k<a.length:=by omega
 have hga:=hx.ok.get k
 have hgb:=hy.ok.get k
 refine zK<|aak<|aat<|sR<|sm J J<|sy (abW hx J J (by omega) (by omega)) rfl<|sy (abT hx rfl (by omega)) rfl<|sa J J<|sa J J<|zE<|aak<|?_
 rw[bZ]
 refine aam<|sm J J<|sa J J<|zE<|?_
 refine am9 Unit (fun _=>[(16, .int .i64 k),(7, .int .i64 k),(15, .int .i64 x.n),(14, .slice x.a x.n x.c),(8, .int .u32 ((a.getD k 0:Nat):Int)),(9, .int .u64 ((c+b.getD k 0:Nat):Int)),(1, .slice y.a y.n y.c),(5, .slice (some ⟨b1,0,none⟩) a.length a.length)]) (fun _=>[⟨b1,ws.map dI,215,true⟩]) (fun _ _=>True) ?_ ?_
 ·refine sR<|sm J J<|sm J J<|adn J J<|sy (acp J J) rfl<|zE<|?_
  refine aaD rfl (fun hc2=>?_) (fun hc2=>?_) -- slot 25
  ·refine aam<|sm J J<|sm J J<|sm J J<|sy (abW hy J J (by omega) (by omega)) rfl<|sy (abT hy rfl (by omega)) rfl<|sy (aaK rfl (by omega) (by rw[bZ];omega)) rfl<|?_
   rw[bZ]
   refine sy (aef J J) rfl<|sa J J<|zE<|?_
   exact ajM () trivial (.cons rfl (.cons rfl (.cons rfl (.cons rfl (.cons rfl (.cons (by rw[sX];rfl) (.cons rfl (.cons rfl .nil)))))))) rfl
  refine zK<|?_
  have h0:b.getD k 0=0:=alz (by omega)
  exact ajM () trivial (.cons rfl (.cons rfl (.cons rfl (.cons rfl (.cons rfl (.cons (by rw[h0,fQ];rfl) (.cons rfl (.cons rfl .nil)))))))) rfl
 rintro _ Gz _ _
 generalize htt:c+b.getD k 0=tt
 have htb:tt≤4294967296:=by omega
 refine sR<|sm J J<|sy (aaK rfl) rfl<|sm J J<|sy (af8 J J) rfl<|sa J J<|zE<|sR<|sm J J<|sm J J<|sm J J<|?_
 rw[abQ]
 refine sy (abh rfl) rfl<|sy (abj J J (by omega) (by omega)) rfl<|?_
 rw[bZ]
 by_cases hno:tt≤a.getD k 0
 ·refine sc (aa5 (d:=a.getD k 0-tt) J J (by omega) (.hd ..) (by omega) rfl ?_)
  refine zE<|aam<|sm J J<|sy (adC J J (by decide)) rfl<|sa J J<|zE<|aam<|sy (aar J J) rfl<|sm J J<|zE<|?_
  rw[aDp _ (by omega),show(((a.getD k 0:Nat):Int)-(tt:Int))%18446744073709551616/9223372036854775808=((0:Nat):Int) by omega]
  refine aa4 ⟨ws.set k (a.getD k 0-tt),k+1,0⟩ ⟨by show k+1≤_;omega,by simp[hwl],hwo.set _ (by omega),bX _,?_⟩ (by show a.length-(k+1)<a.length-k;omega) (.cons rfl (.cons rfl (.cons rfl (.cons rfl (.cons rfl (.cons rfl .nil)))))) rfl
  show dv ((ws.set k (a.getD k 0-tt)).take (k+1))+dv (b.take (k+1))=dv (a.take (k+1))+4294967296^(k+1)*0
  rw[abf (by omega),aaw a,aaw b,←htt,fX]
  exact azt hinv (by omega)
 ·refine sc (aa5 (d:=a.getD k 0+4294967296-tt) J J (by omega) (.hd ..) (by omega) rfl ?_)
  refine zE<|aam<|sm J J<|sy (adC J J (by decide)) rfl<|sa J J<|zE<|aam<|sy (aar J J) rfl<|sm J J<|zE<|?_
  rw[aDp _ (by omega),show(((a.getD k 0:Nat):Int)-(tt:Int))%18446744073709551616/9223372036854775808=((1:Nat):Int) by omega]
  refine aa4 ⟨ws.set k (a.getD k 0+4294967296-tt),k+1,1⟩ ⟨by show k+1≤_;omega,by simp[hwl],hwo.set _ (by omega),aM _,?_⟩ (by show a.length-(k+1)<a.length-k;omega) (.cons rfl (.cons rfl (.cons rfl (.cons rfl (.cons rfl (.cons rfl .nil)))))) rfl
  show dv ((ws.set k (a.getD k 0+4294967296-tt)).take (k+1))+dv (b.take (k+1))=dv (a.take (k+1))+4294967296^(k+1)*1
  rw[abf (by omega),aaw a,aaw b,←htt,fX]
  exact as7 hinv (by omega) (by omega)
theorem aBR{A B G:Gh}{x y:SV}{ds es:List Nat}{kk:Nat}(hx:IsD A x ds)(hy:IsD B y es)[GL A G][GL B G](hk:dv ds<2^kk)(hb:ds.length≤1125899906842)(hb2:es.length≤1125899906842):
  Fn prog 217 [x.v,y.v] G (fun v G'=> ∃z:SV,v= .tuple #[z.v, .bool (decide (dv es≤dv ds))]∧IsN kk G' z (dv ds-dv es)):=by
 refine Fn.intro func217 J J ntmps217 rfl ?_
 intro C _ _
 refine sR<|sa J J<|sa J J<|zE<|aak<|sR<|sm J J<|sm J J<|?_
 refine sc (zC J J (avy hx hy (by omega) (by omega)) rfl ?_)
 rintro _ G1 _ rfl
 refine sy (acp J J) rfl<|zE<|?_
 refine aaD rfl (fun hc=>?_) (fun hc=>?_) -- slot 9
 ·have hlt:dv ds<dv es:=by
   unfold ahi at hc
   split at hc
   ·assumption
   ·split at hc<;>omega
  refine sR<|sa J J<|sa J J<|zE<|aaH<|?_
  refine zD (.tmp rfl (.tmp rfl .nil)) ⟨⟨none,0,0⟩,?_,?_⟩
  ·have: ¬dv es≤dv ds:=by omega
   simp[abL,SV.v,this]
  ·rw[Nat.sub_eq_zero_of_le (by omega)]
   exact⟨by unfold dg;exact .nil _,eK (by omega)⟩
 have hge:dv es≤dv ds:=by
  unfold ahi at hc
  split at hc
  ·omega
  ·omega
 have htl:=abp ds
 have htl2:=abp es
 refine zK<|sR<|sm J J<|?_
 refine sc (zC J J (aa1 hx (by omega)) rfl ?_)
 rintro _ G2 _ rfl
 refine sm J J<|?_
 refine sc (zC J J (aa1 hy (by omega)) rfl ?_)
 rintro _ G3 _ rfl
 have hl:(trimD es).length≤(trimD ds).length:=by
  rcases iY (trimD ds).length (trimD es).length with h|h
  ·have:=acK hx.ok.trimD (Nrm.trimD es) h
   rw[aa7,aa7] at this;omega
  ·exact h
 refine sc (zC J J (avV (kk:=kk) hx.trim hy.trim hl (by rw[aa7,aa7];exact hge) (by rw[aa7];exact hk) (by omega)) rfl ?_)
 rintro _ G4 _ ⟨z,rfl,hz⟩
 refine sa J J<|sa J J<|zE<|aaH<|?_
 refine zD (.tmp rfl (.tmp rfl .nil)) ⟨z,by simp[abL,hge],?_⟩
 rw[aa7,aa7] at hz
 exact hz
end Go.Sx
end
