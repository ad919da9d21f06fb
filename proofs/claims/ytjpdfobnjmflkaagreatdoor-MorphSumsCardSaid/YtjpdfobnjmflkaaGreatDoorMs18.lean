import Derived.Test.YtjpdfobnjmflkaaGreatDoorMs17
set_option linter.all false
set_option maxHeartbeats 1000000
set_option maxRecDepth 100000
section
namespace Go.Sx
open Go Go.Proofs Tryz
variable {GB G G1:Gh}{C:aE}{n y D len k:Nat}{Q0:Exit->Act->World->Prop}{fr fr' fr1:aD}{own' own1 O:aI}{cf cf':Cf}{vc:List Prop}{ops:Array Oper}{r:List Oper}{K:List Kt}{x g fo:Operand}{P:Program}{c:ao}{f gf:FuncId}{fb:Func}{m pos:String}{ds ds1 ds2 l:List DV}{rv dp d:DV}{e L:List aa}{lk:LK}{bk:BM}{a b w2 w3 w4 low:Rat}{w w1:World}{σ α:Type}{p v p1 p2 p3 p4:ah}{caps out vs c1 c2:List Value}{o:Oper}{pv z u:Value}{t ty' ty:TypeId}{s:bw}{dst:Option Nat}{af:Array Edge}{args:Array Operand}{tys:Array TypeId}{V:List ah}
section
variable {own:aI}
def aDI{x:Nat}{Φ:Act->World->Prop}{R:Ao}(hfx:C.fx=fun _=>none)(h:zy x y fr own=some R)(hk:SX GB C n (aO R.fr) (bu R.own) Φ):SX GB C n (aO fr) (bu own) Φ:=by
 unfold zy at h;rw[cond_eq_ite] at h;split at h<;>try (cases h;done)
 rename_i hb;have hxy:x≠y:=fun e=>hb (by subst e;simp);rw[Jz,IP] at h;cases h;refine⟨fun ρ G ov a w r=>hk.run (fun k=>if k=y then ρ x else ρ k) G ov a w ?_⟩;have inv: ∀m B,bu (own.map fun e=>(bif Nat.beq e.1 y then x else bif Nat.beq e.1 x then y else e.1,bif Nat.beq e.1 y then none else ru x y e.2)) m=some B-> ∃m0 B0,bu own m0=some B0/\ru x y (some B0)=some B/\(m=y/\m0=x\/m≠y/\m≠x/\m0=m):=fun m B e=>by
  rw[HV hxy] at e;split at e
  .cases e
  .rename_i hm
   split at e
   .cases hl:bu own x with
    |none=>rw[hl] at e;cases e
    |some B0=>rw[hl] at e;exact⟨x,B0,hl,e, .inl ⟨by assumption,J⟩⟩
   .cases hl:bu own m with
    |none=>rw[hl] at e;cases e
    |some B0=>rw[hl] at e;exact⟨m,B0,hl,e, .inr ⟨by assumption,hm,J⟩⟩
 have rho: ∀m m0,(m=y/\m0=x\/m≠y/\m≠x/\m0=m)->(fun k=>if k=y then ρ x else ρ k) m=ρ m0:=fun m m0 h=>by
  rcases h with⟨h1,h2⟩|⟨h1,_,h2⟩
  .subst h1 h2;simp
  .subst h2;exact if_neg h1
 refine⟨r.gb,r.h,r.sz,r.df,fun k f e=>?_,fun m B e=>?_,fun m m' B B' e e' hne=>?_,fun m p _ _ e=>by rw[hfx] at e;cases e⟩
 .rw[En] at e
  cases hf:aO fr k with
  |none=>rw[hf] at e;cases e
  |some g=>
   rw[hf] at e;cases e;obtain⟨v,h1,h2⟩:=r.fx k g hf;exact⟨v,h1,Ib hxy h2⟩
 .obtain⟨m0,B0,h1,h2,h3⟩:=inv m B e
  obtain⟨os,h4,h5⟩:=r.bx m0 B0 h1;refine⟨os,?_,h5⟩;have hr:=rho m m0 h3
  cases B0 with
  |b=>cases h2;obtain⟨vs,q1,q2,q3,q4⟩:=h4;exact⟨vs,by rw[hr];exact q1,q2,q3,q4⟩
  |c=>cases h2;obtain⟨vs,q1,q2,q3,q4,q5⟩:=h4;exact⟨vs,by rw[hr];exact q1,q2,q3,q4,by rw[hr];exact q5⟩
  |o ty cs lo=>cases h2;obtain⟨b,q,q1,q2,q3⟩:=h4;exact⟨b,q,by rw[hr];exact q1,q2,H8 hxy q3⟩
 .obtain⟨m0,B0,h1,_,h3⟩:=inv m B e
  obtain⟨m1,B1,h4,_,h6⟩:=inv m' B' e';have q1:=rho m m0 h3;have q2:=rho m' m1 h6;simp only at q1 q2;rw[q1,q2];refine r.dj m0 m1 B0 B1 h1 h4 fun e=>?_;rcases h3 with⟨h7,h8⟩|⟨h7,h8,h9⟩<;>rcases h6 with⟨g7,g8⟩|⟨g7,g8,g9⟩
  .exact hne (h7.trans g7.symm)
  .exact g8 (by rw[<-g9,<-e,h8])
  .exact h8 (by rw[<-h9,e,g8])
  .exact hne (by rw[<-h9,e,g9])
def ya(x y:Nat){c:Code}(hfx:C.fx=fun _=>none)(h:zy x y fr own=some ⟨fr1,own1⟩)(k:av P GB C n Q0 fr1 own1 (.code c K)):av P GB C n Q0 fr own (.code c K):=aDI hfx h k
def Gk(P:Program)(fb:Func)(R:Ending->World->Prop):Exit->Act->World->Prop:=bodyPostM (FW none) 0 P fb R
structure Q2 (C:aE):Prop where
 mks:C.mks=[]
 rd:C.rd=none
 fx:C.fx=fun _=>none
def IR[fu:Fu]{c:Code}{m:Nat}(hf:prog.funcs[f]? =some fb)(hb:fb.body=some c)(hn:(fb.name== "runtime.NumGoroutine")=false)(hm:fb.ntmps=m)(hlen:Nat.ble ds.length m=true)
  (hgo:go tt m fu.n [] (q7 0 ds) [] (.code c [])=⟨vc,fr,own,cf⟩)(k: ∀C:aE,Q2 C->av prog GB C m (Gk prog fb (lC C (fun v G'=>Is G' rv v))) fr own cf)
  (hv:autoParam (ak vc) fn._auto_1):PF GB prog f ds rv:=by
 intro G vs hg hvs;refine⟨⟨fb,hf,hn,by simp[hb]⟩,fun w hw=>?_⟩;have hlen':vs.length<=m:=by rw[hvs.len];simpa using hlen
 have h:=fI (GB:=GB) (C:=nk w G) (Q0:=Gk prog fb (lC (nk w G) (fun v G'=>Is G' rv v))) hgo hv (k (nk w G) ⟨J,J,J⟩);refine(callsIn_wide (n:=0)).1 (callsIn_of_wp_marks (F:=FW none) (n:=0) hf hb trivial ?_);refine h.run (fun _=>⟨none,0,0⟩) G [] _ w ⟨hg,Ku hw,by simp;omega,J,fun k f e=>yj hvs (fun k v hk=>?_) k f e,(fun nm B e=>by cases e),(fun nm nm' B B' e=>by cases e),fun nm p _ _ e=>by cases e⟩;obtain⟨j,rfl,hj⟩:=wk vs 0 k v hk;have hj':=(aR.1 hj).1;rw[lR (by simpa using hj')];simpa using hj
def aE.mk3(C:aE)(D:Nat):aE:={C with ex:=(D, .deferred (some []))::C.ex,mks:=[{target:= .collected D,args:= #[]}]}
def DS{e:Exit}(hD:C.w0.heap.size<=D)(hx: ∀p∈C.ex,p.1≠D)(hr:ra tt fr own fb.results.toList=some ds)(hd:fh ds=rv)(he:CB e=true:=by rfl):av prog GB (C.mk3 D) n (Gk prog fb (lC C (fun v G'=>Is G' rv v))) fr own (.ex e []):=by
 refine⟨fun ρ G ov a w r=>?_⟩;obtain⟨vs,h1,h2⟩:=ED r hr;have hk:Is G rv (nO vs):=hd▸Fv h2;have hex:((D,Obj.deferred (some [])):Nat×Obj)∈(C.mk3 D).ex:=aQ;have h3:bH C ov G (w.putObj D (.deferred none)):=r.h.putx hex hD (fun _ _ _ h=>by cases h) J J J fun p hp=> .inr ⟨aJ _ hp,hx p hp⟩;have hres:=tg (C:=C) (G:=G) (own:=ov) (w:=w.putObj D (.deferred none)) h1 (cG a) h3;have key:LeavesInM (FW none) 0 prog fb a.tmps (lC C (fun v G'=>Is G' rv v)) a.defers .returning w:=by
  rw[r.df];exact⟨by simp, .inl ⟨D,_,J,run_takeDeferred (r.h.ext _ hex).2,_,hres,_,G,J,h3.drop (jY _),hk⟩⟩
 cases e with
 |ret=>exact key
 |normal=>exact key
 |_=>cases he
end
section
variable {own:aI}
def bO.later{ρ:NE}{ov:List aA}{a:Act}(r:bO GB C n lk bk ρ G ov a w)(h:bH (nk w G) [] G1 w1):bO GB C n lk bk ρ G1 ov a w1:=
 ⟨r.gb.trans h.gle,r.h.called h,r.sz,r.df,fun k f e=>by obtain⟨y,h1,h2⟩:=r.fx k f e;exact⟨y,h1,h2.up h.gle⟩,fun nm B e=>by obtain⟨os,h1,h2⟩:=r.bx nm B e;exact⟨os,h1.up h.gle,h2⟩,r.dj,r.fxd⟩
def Cd:List Nat->List DV->aD->aD
 |p::ps,d::ds,fr=>Cd ps ds ((p, .d d)::fr)
 |_,_,fr=>fr
def NT{ρ:NE}{G:Gh}: ∀{ps:List Nat} {ds:List DV} {ys tm:List Value} {fr:aD},IsLs G ds ys->(∀p∈ps,p<tm.length)->(∀k f,aO fr k=some f-> ∃y,tm[k]? =some y/\b9 ρ G f y)->
  ((ps.zip ys).foldl (fun t e=>t.set e.1 e.2) tm).length=tm.length/\ ∀k f,aO (Cd ps ds fr) k=some f-> ∃y,((ps.zip ys).foldl (fun t e=>t.set e.1 e.2) tm)[k]? =some y/\b9 ρ G f y
 |[],ds,ys,tm,fr,_,_,h=>⟨J,fun k f e=>h k f (by cases ds<;>exact e)⟩
 |p::ps,[],ys,tm,fr,hd,_,h=>by rw[en.1 hd];exact⟨J,fun k f e=>h k f e⟩
 |p::ps,d::ds,ys,tm,fr,hd,hp,h=>by
  obtain⟨y,m,rfl,h1,h2⟩:=bi.1 hd;simp only[List.zip_cons_cons,iK,Cd];have:=NT (ps:=ps) (ds:=ds) (ys:=m) (tm:=tm.set p y) (fr:=(p, .d d)::fr) h2 (fun q hq=>by rw[bQ];exact hp q (aJ _ hq)) fun k f e=>by
   rw[jO] at e;split at e
   .rename_i hk;subst hk;cases e
    exact⟨y,by rw[pU];rw[if_pos J,if_pos (hp k aQ)],h1⟩
   .rename_i hk
    obtain⟨u,h3,h4⟩:=h k f e;exact⟨u,by rw[pU];rw[if_neg (fun e=>hk e.symm)];exact h3,h4⟩
  rw[bQ] at this;exact this
def NX: ∀(l:List (Nat×Value)) (t:Array Value),(l.foldl (fun t e=>t.setIfInBounds e.1 e.2) t).toList=l.foldl (fun t e=>t.set e.1 e.2) t.toList
 |[],t=>rfl
 |e::l,t=>by simp only[iK];rw[NX l];simp
def Kg:FX->Bool
 | .ov nm _=>Nat.ble 2000000 nm
 | .rw _=>false
 | .be .. =>false
 | .rs .. =>false
 | .bx .. =>false
 |_=>true
def Eh:aD->Bool
 |[]=>true
 |(_,f)::t=>Kg f&&Eh t
def Ta: ∀{fr:aD},Eh fr=true-> ∀k f,aO fr k=some f->Kg f=true
 |[],_,k,f,e=>by cases e
 |(j,g)::t,h,k,f,e=>by
  simp only[Eh,bV] at h;rw[jO] at e;split at e
  .cases e;exact h.1
  .exact Ta h.2 k f e
def QP(GB:Gh)(C:aE)(n:Nat)(fr:aD)(own:aI)(a:Act)(w:World):Prop:= ∃ρ G ov,bO GB C n (aO fr) (bu own) ρ G ov a w
def atR:av P GB C n Q0 fr own (.ex .normal (.ag (QP GB C n fr own)::K)):=⟨fun ρ G ov a w r=>⟨ρ,G,ov,r⟩⟩
def RQ(GB:Gh)(C:aE)(n:Nat)(p:Prop)(O:aI)(S:σ->aI)(q:σ->Prop):Exit->Act->World->Prop
 | .normal,a,w=>p/\ ∃ρ G ov,bO GB C n (fun _=>none) (bu O) ρ G ov a w
 | .ret,a,w=> ∃s,q s/\ ∃ρ G ov,bO GB C n (fun _=>none) (bu (S s)) ρ G ov a w
 |_,_,_=>False
def rq{p:Prop}{S:σ->aI}{q:σ->Prop}(hp:p)(hO:vO O own:=by repeat (first|exact trivial|refine And.intro J ?_)):av P GB C n (RQ GB C n p O S q) fr own (.ex .normal []):=
 ⟨fun ρ G ov a w r=>⟨hp,ρ,G,ov,r.mono (fun k x e=>by cases e) (uc hO)⟩⟩
def Vc{p:Prop}{S:σ->aI}{q:σ->Prop}(s:σ)(hq:q s)(hO:vO (S s) own:=by repeat (first|exact trivial|refine And.intro J ?_)):av P GB C n (RQ GB C n p O S q) fr own (.ex .ret []):=
 ⟨fun ρ G ov a w r=>⟨s,hq,ρ,G,ov,r.mono (fun k x e=>by cases e) (uc hO)⟩⟩
def Gg{ps:Array Nat}{assign body:Code}{E:List (List DV)}(I:Nat->aI)(p:Nat->Prop)(S:σ->aI)(q:σ->Prop)(fr1:aD)
  (h0:Q2 C)(hg:bh (aO fr) g=some (.d (.v (.func (.func gf) ⟨[]⟩ ⟨caps⟩))))(hIt:It GB P gf ds E)(hc:IsLs GB ds caps)
  (hfr:ue fr1 fr)(hfix:Eh fr1=true)(hO:vO (I 0) own)(hp:p 0)(hps: ∀e∈E,e.length=ps.size)(hpn:ps.toList.all (fun k=>Nat.blt k n)=true)(hn2:Nat.ble n 2000000=true)
  (round: ∀k e GB',E[k]? =some e->bP GB GB'->p k-> ∃fr2 own2,(∀C2,av P GB' C2 n (fun _ _ _=>False) (Cd ps.toList e fr1) (I k) (.code assign [.ag (QP GB' C2 n fr2 own2)]))/\ ∀C2,av P GB' C2 n (RQ GB' C2 n (p (k+1)) (I (k+1)) S q) fr2 own2 (.code body []))
  (after: ∀D,C.w0.heap.size<=D->(∀x∈C.ex,x.1≠D)->p E.length->av P GB (C.mk3 D) n Q0 fr1 (I E.length) (.ex .normal K))
  (early: ∀D s,C.w0.heap.size<=D->(∀x∈C.ex,x.1≠D)->q s->av P GB (C.mk3 D) n Q0 fr1 (S s) (.ex .ret K)):
  av P GB C n Q0 fr own (.code (.rangeFunc g ps assign body) K):=by
 refine⟨fun ρ0 G0 ov0 a w r=>?_⟩;rw[h0.rd];refine wpIn_rangeFunc fun fn _=>?_;obtain⟨y,hy,hy'⟩:=r.ev hg;rw[(aH (G:=G0)).1 hy'] at hy;have hev:=bB (cG a) hy
 let D:=w.heap.size
 let l:=w.heap.size+1
 let rec_:Loop:={state:= .ready,pending:=none,fn,tmps:=a.tmps,params:=ps,assign,body,defers:=D}
 let w2:=(w.alloc (.deferred (some []))).alloc (.loop rec_)
 let mk:Deferred:={target:= .collected D,args:= #[]}
 let fx1:Nat->Option Addr:=fun nm=>(ρ0 nm).a
 let C1:Loop->aE:=fun rc=>{C with ex:=(l, .loop rc)::(D, .deferred (some []))::C.ex,mks:=[mk],fx:=fx1}
 let a0:Act:={a with defers:=[mk]++a.defers}
 have hszD:C.w0.heap.size<=D:=r.h.size;have hlt: ∀x∈C.ex,x.1<D:=fun x hx=>iq (r.h.ext x hx).2;have hszl:C.w0.heap.size<=l:=Nat.le_succ_of_le hszD;have hnl: ∀x∈((D,Obj.deferred (some []))::C.ex:List (Nat×Obj)),x.1≠l:=fun x hx=>by
  rcases aW.1 hx with rfl|hx
  .show D≠D+1;omega
  .have:=hlt x hx;show x.1≠D+1;omega
 have ncl: ∀rc:Loop,I' (.loop rc):=fun rc _ _ _ h=>by cases h
 -- the slots of the loop, at any time
 have stat: ∀(ρ':NE) (G':Gh),bP G0 G'->(∀nm p,n<=nm->2000000<=nm->fx1 nm=some p->(ρ' nm).a=some p)-> ∀k f,aO fr1 k=some f-> ∃y,a.tmps[k]? =some y/\b9 ρ' G' f y:=by
  intro ρ' G' hg' hf k f e;obtain⟨y,h1,h2⟩:=r.fx k f (wK hfr k f e);refine⟨y,h1,?_⟩;have hx:=Ta hfix k f e
  cases f with
  |ov nm off=>
   obtain⟨b,h3,h4⟩:=h2;have h5:2000000<=nm:=by simpa[Kg] using hx
   have h6:n<=2000000:=by simpa using hn2
   exact⟨b,hf nm _ (by omega) h5 h3,h4⟩
  |rw _=>cases hx
  |be _ _ _ _=>cases hx
  |rs _ _ _ _=>cases hx
  |bx _ _ _ _=>cases hx
  |_=>exact(h2.up hg').ren fun _ h=>by cases h
 let Jv:Nat->Gh->World->Prop:=fun k G' w'=>p k/\ ∃ρ ov,bO G0 (C1 rec_) n (aO fr1) (bu (I k)) ρ G' ov a0 w'
 let rcx:Loop:={rec_ with state:= .done,pending:=some .ret}
 let Jx:Gh->World->Prop:=fun G' w'=> ∃s,q s/\ ∃ρ ov,bO G0 (C1 rcx) n (aO fr1) (bu (S s)) ρ G' ov a0 w'
 have hsz0:a0.tmps.size=n:=r.sz;have hdf0:a0.defers=[mk]:=by show [mk]++a.defers=_;rw[r.df,h0.mks];rfl
 have H:As G0 P l Jv Jx E:=by
  refine⟨fun k=>⟨fun G' w' ⟨_,ρ,ov,h⟩=>h.h.sub,fun G' w' G1 w1 ⟨h1,ρ,ov,h⟩ k=>⟨h1,ρ,ov,h.later k⟩⟩,⟨fun G' w' ⟨_,_,ρ,ov,h⟩=>h.h.sub,fun G' w' G1 w1 ⟨s,h1,ρ,ov,h⟩ k=>⟨s,h1,ρ,ov,h.later k⟩⟩,?_⟩;intro k e G' w' ys hE hgg ⟨hpk,ρ,ov,r1⟩ hys;have hrec:w'.heap[l]? =some (.loop rec_):=(r1.h.ext _ aQ).2;have hel:=hps e (aK hE);obtain⟨fr2,own2,hA,hB⟩:=round k e G' hE (r.gb.trans hgg) hpk;refine⟨_,_,_,_,run_yield hrec (by show ys.length=ps.size;rw[hys.len,hel]),roundIn_of_wpIn trivial ?_⟩
  let C2:aE:={C1 rec_ with mks:=[],rd:=some l}
  let tm:Array Value:=(ps.zip (⟨ys⟩:Array Value)).foldl (fun tmps (t,a)=>tmps.setIfInBounds t a) a.tmps
  have htm:tm.toList=(ps.toList.zip ys).foldl (fun t e=>t.set e.1 e.2) a.tmps.toList:=by
   simp only[tm];rw[<-rX,Array.toList_zip];exact NX _ _
  have hfx0:=r1.fx;obtain⟨q1,q2⟩:=NT (ρ:=ρ) (ps:=ps.toList) (tm:=a.tmps.toList) (fr:=fr1) hys (fun k hk=>by have:=dJ.1 hpn k hk;rw[kN,r.sz];simpa[kM] using this) fun k f e=>by
   obtain⟨y,h1,h2⟩:=hfx0 k f e;exact⟨y,by simpa using h1,h2⟩
  have hR0:bO G' C2 n (aO (Cd ps.toList e fr1)) (bu (I k)) ρ G' ov {tmps:=tm,defers:=[]} w':=by
   refine⟨bP.refl _,r1.h.ctx J J J (fun _ h=>h),?_,J,fun k f e=>?_,r1.bx,r1.dj,r1.fxd⟩
   .show tm.size=n
    rw[<-kN,htm,q1,kN,r.sz]
   .obtain⟨y,h1,h2⟩:=q2 k f e
    exact⟨y,by rw[<-htm] at h1;simpa using h1,h2⟩
  refine wpIn_mono ((hA C2).run ρ G' ov _ w' hR0) fun ex a1 w1 hex=>?_
  cases ex with
  |normal=>
   obtain⟨ρ2,G2,ov2,r2⟩:=hex;have hrec1:w1.heap[l]? =some (.loop rec_):=(r2.h.ext _ aQ).2;refine⟨_,run_beginRound hrec1 J,?_⟩
   let busy:Loop:={rec_ with state:= .busy}
   let C3:aE:={C1 busy with mks:=[],rd:=some l}
   have h3:bH C3 ov2 G2 (w1.putObj l (.loop busy)):=r2.h.putx aQ hszl (ncl _) J J J fun x hx=>by
    rcases aW.1 hx with rfl|hx
    .exact .inl J
    .exact .inr ⟨aJ _ hx,hnl x hx⟩
   refine wpIn_mono ((hB C3).run ρ2 G2 ov2 a1 (w1.putObj l (.loop busy)) ⟨r2.gb,h3,r2.sz,r2.df,r2.fx,r2.bx,r2.dj,r2.fxd⟩) fun ex a2 w3 hex=>?_
   cases ex with
   |normal=>
    obtain⟨hp1,ρ3,G3,ov3,r3⟩:=hex;have hrec3:w3.heap[l]? =some (.loop busy):=(r3.h.ext _ aQ).2;refine⟨_,_,run_endRound none hrec3,G3,r3.gb, .inl ⟨J,hp1,ρ3,ov3,hgg.trans r3.gb,?_,hsz0,hdf0,stat ρ3 G3 (hgg.trans r3.gb) r3.fxd,r3.bx,r3.dj,r3.fxd⟩⟩;exact r3.h.putx aQ hszl (ncl _) J J J fun x hx=>by
     rcases aW.1 hx with rfl|hx
     .exact .inl J
     .exact .inr ⟨aJ _ hx,hnl x hx⟩
   |ret=>
    obtain⟨s,hq,ρ3,G3,ov3,r3⟩:=hex;have hrec3:w3.heap[l]? =some (.loop busy):=(r3.h.ext _ aQ).2;refine⟨_,_,run_endRound (some .ret) hrec3,G3,r3.gb, .inr ⟨J,s,hq,ρ3,ov3,hgg.trans r3.gb,?_,hsz0,hdf0,stat ρ3 G3 (hgg.trans r3.gb) r3.fxd,r3.bx,r3.dj,r3.fxd⟩⟩;exact r3.h.putx aQ hszl (ncl _) J J J fun x hx=>by
     rcases aW.1 hx with rfl|hx
     .exact .inl J
     .exact .inr ⟨aJ _ hx,hnl x hx⟩
   |exit id=>exact hex.elim
   |goto t=>exact hex.elim
   |panic ch=>exact hex.elim
   |outgrown=>exact hex.elim
  |exit id=>exact hex.elim
  |goto t=>exact hex.elim
  |ret=>exact hex.elim
  |panic ch=>exact hex.elim
  |outgrown=>exact hex.elim
 have hC1:bH (C1 rec_) ov0 G0 w2:=by
  have h1:bH {C with ex:=(D, .deferred (some []))::C.ex} ov0 G0 (w.alloc (.deferred (some []))):=r.h.addx (fun _ _ _ h=>by cases h) J J J fun x hx=>aW.1 hx;refine h1.addx (ncl rec_) J J J fun x hx=>?_;rcases aW.1 hx with rfl|hx
  .exact .inl (by show((l,Obj.loop rec_):Nat×Obj)=_;rw[show(w.alloc (.deferred (some []))).heap.size=w.heap.size+1 by simp])
  .exact .inr hx
 have hJ0:Jv 0 G0 w2:=⟨hp,ρ0,ov0,bP.refl _,hC1,hsz0,hdf0,stat ρ0 G0 (bP.refl _) (fun _ _ _ _ h=>h),fun nm B e=>r.bx nm B (uc hO nm B e),fun nm nm' B B' e e'=>r.dj nm nm' B B' (uc hO nm B e) (uc hO nm' B' e'),fun _ _ _ _ h=>h⟩;refine⟨l,[mk],w2,{target:= .fn (.func gf) ⟨caps⟩,args:= #[.func (.yield l) #[] #[]]},w2,gf, #[.func (.yield l) #[] #[]]++⟨caps⟩,w2,run_enterLoop_outer fn a.tmps ps assign body,?_,fun _ _=>trivial,?_,fun h=>(by cases h),?_⟩
 .have he:(⟨[]⟩:Array Value)++Array.map a.eval #[.const (.func (.yield l) #[] #[])]= #[.func (.yield l) #[] #[]]:=by
   apply Array.ext';rw[Array.toList_append,pR];rfl
  simp only[resolve,hev,Deferred.ofValue];rw[he];rfl
 .simp only[invoke]
  exact J7 hIt.able _ _
 refine CallsIn.mono (show CallsIn (FW none) 0 P gf _ w2 _ from by
  have:=hIt.run l Jv Jx G0 r.gb H w2 caps hJ0 (hc.up r.gb);rw[show(#[Value.func (.yield l) #[] #[]]++(⟨caps⟩:Array Value))=⟨.func (.yield l) #[] #[]::caps⟩ by simp];exact this) fun e w3 he=>?_
 obtain⟨G',hgg,⟨v,rfl⟩,hj⟩:=he;have fin: ∀(rc:Loop) (O:aI) (ρ:NE) (ov:List aA),bO G0 (C1 rc) n (aO fr1) (bu O) ρ G' ov a0 w3->bO GB (C.mk3 D) n (aO fr1) (bu O) ρ G' ov a0 (w3.putObj l (.loop {rc with state:= .exhausted})):=fun rc O ρ ov r3=>
  ⟨r.gb.trans r3.gb,r3.h.putx aQ hszl (ncl _) J J J fun x hx=> .inr ⟨aJ _ hx,hnl x hx⟩,r3.sz,r3.df,r3.fx,r3.bx,r3.dj,fun nm p _ _ e=>by rw[show(C.mk3 D).fx=fun _=>none from h0.fx] at e;cases e⟩
 have hxD: ∀x∈C.ex,x.1≠D:=fun x hx e=>by have:=hlt x hx;omega
 rcases hj with⟨hpn,ρ,ov,r3⟩|⟨s,hq,ρ,ov,r3⟩
 .have hrec3:w3.heap[l]? =some (.loop rec_):=(r3.h.ext _ aQ).2
  have:=(after D hszD hxD hpn).run ρ G' ov a0 _ (fin rec_ _ ρ ov r3);rw[show(C.mk3 D).rd=none from h0.rd] at this;exact⟨_,_,run_endLoop hrec3 (by simp[rec_]),this⟩
 .have hrec3:w3.heap[l]? =some (.loop rcx):=(r3.h.ext _ aQ).2
  have:=(early D s hszD hxD hq).run ρ G' ov a0 _ (fin rcx _ ρ ov r3);rw[show(C.mk3 D).rd=none from h0.rd] at this;exact⟨_,_,run_endLoop hrec3 (by simp[rcx]),wpIn_ret this⟩
end
section
variable {own:aI}
def HJ(GB:Gh)(P:Program)(f:FuncId)(ds:List DV)(gf:FuncId)(dp:DV):Prop:=
 ∀G vs,bP GB G->IsLs G ds vs->Fn P f vs G fun v G'=> ∃pv,v= .func (.func gf) ⟨[]⟩ ⟨[pv]⟩/\Is G' dp pv
def DR(gf:FuncId)(dp:DV)(v:Value)(G':Gh):Prop:= ∃pv,v= .func (.func gf) ⟨[]⟩ ⟨[pv]⟩/\Is G' dp pv
def Un[fu:Fu]{c:Code}{m:Nat}(hf:prog.funcs[f]? =some fb)(hb:fb.body=some c)(hn:(fb.name== "runtime.NumGoroutine")=false)(hm:fb.ntmps=m)(hlen:Nat.ble ds.length m=true)
  (hgo:go tt m fu.n [] (q7 0 ds) [] (.code c [])=⟨vc,fr,own,cf⟩)(k: ∀C:aE,av prog GB C m (fg C prog fb (lC C (DR gf dp))) fr own cf)
  (hv:autoParam (ak vc) cL._auto_1):HJ GB prog f ds gf dp:=by
 intro G vs hg hvs;refine Fn.introR hf hb hn hm (by rw[hvs.len];exact hlen) fun C _ _ hrd hfx=>?_;intro a w rl;refine uY hrd ?_;have h:=fI (GB:=GB) (C:=C) (Q0:=fg C prog fb (lC C (DR gf dp))) hgo hv (k C);exact h.run (fun _=>⟨none,0,0⟩) G [] a w ⟨hg,rl.h,rl.sz,rl.df,(fun k f e=>yj hvs rl.fr k f e),(fun nm B e=>by cases e),(fun nm nm' B B' e=>by cases e),fun nm p _ _ e=>by rw[hfx] at e;cases e⟩
def YY{t:Nat}(hr:fb.results.toList=[.tmp t])(hl:aO fr t=some (.d (.v (.func (.func gf) ⟨[]⟩ ⟨[pv]⟩))))(hp:Is GB dp pv):av P GB C n (fg C P fb (lC C (DR gf dp))) fr own (.ex .ret []):=by
 refine⟨fun ρ G ov a w r=>?_⟩;obtain⟨y,hy,hy'⟩:=r.ev (x:= .tmp t) hl;rw[(aH (G:=G)).1 hy'] at hy;exact zD (C:=C) (n:=n) (fr:=cw a) (own:=ov) (G:=G) (K:=DR gf dp) (by rw[hr];exact .tmp hy .nil) ⟨pv,J,hp.up r.gb⟩ a w ⟨r.h,r.sz,cG a,r.df⟩
def K6(fr:aD)(cf:Cf):Option (FuncId×Value):=match c6 fr cf with
 |some ⟨_, .makeFunc (.func f) ⟨[]⟩ ⟨[x]⟩,_,_,_,_⟩=>match bh (cg fr cf) x with
  |some (.d (.v pv))=>some (f,pv)
  |_=>none
 |_=>none
def mkG[fu:Fu](h:K6 fr cf=some (f,pv))(hgo:cH tt n fu.n fr own cf (.d (.v (.func (.func f) ⟨[]⟩ ⟨[pv]⟩))) [] []=⟨vc,fr',own',cf'⟩)(k:av prog GB C n Q0 fr' own' cf')
  (hv:autoParam (ak vc) cL._auto_1):av prog GB C n Q0 fr own cf:=by
 unfold K6 at h;split at h<;>try (cases h;done)
 rename_i hh;split at h<;>cases h;rename_i hx;exact us hh (.x1 hx fun ρ G ov a w y _ r h1 h2=>by
  rw[(aH (G:=G)).1 h2] at h1;exact⟨_,(aH (G:=G)).2 J,I6 (l1:=[]) (l2:=[pv]) J (by simp[h1])⟩) hgo hv k
def GQ[fu:Fu]{d:Nat}{fr':Value->aD}{own':Value->aI}{cf':Value->Cf}{vc:Value->List Prop}(ha:zl fr (.ops ops (o::r) K)=some (f,ds))(hdst:o.dst=some d)(hd:cj n (some d)=true)(hF:HJ GB prog f ds gf dp)
  (hgo: ∀pv,go tt n fu.n [] ((d, .d (.v (.func (.func gf) ⟨[]⟩ ⟨[pv]⟩)))::fr) own (.ops ops r K)=⟨vc pv,fr' pv,own' pv,cf' pv⟩)
  (k: ∀GB' pv,bP GB GB'->Is GB' dp pv->av prog GB' C n Q0 (fr' pv) (own' pv) (cf' pv))
  (hv: ∀pv,ak (vc pv):=by intros;first|exact trivial|(simp only[ak];kernel_rfl)|(simp only[ak];omega)):av prog GB C n Q0 fr own (.ops ops (o::r) K):=by
 unfold zl at ha;split at ha<;>try (cases ha;done)
 rename_i fo args tys ty pos af gd hh;obtain⟨ops0,h1,h2⟩:=FS hh
 cases h1
 cases hdst
 obtain⟨c1,c2⟩:=CW ha;refine⟨fun ρ G ov a w rl=>?_⟩;obtain⟨y,hy,hy'⟩:=rl.ev c1;rw[(aH (G:=G)).1 hy'] at hy;obtain⟨vs,h3,h4⟩:=rl.evDs c2;simp only[wpListIn];rw[if_pos (Ep h2 ρ G ov a w rl)];refine IL (K':=fun a' w'=>a'.defers=C.mks/\wpListIn (FW C.rd) 0 prog ops (cQ C.rd prog Q0 K) r a' w') (fun Q=>?_) (fun a' w' q=>⟨q.1.trans rl.df.symm,q.2⟩);refine zC hy h3 (hF G vs rl.gb h4) hd (fun v G' hG hK a' w' rel=>?_) a w Q ⟨rl.h,rl.sz,cG a,rl.df⟩;obtain⟨pv,rfl,hpv⟩:=hK;refine⟨rel.df,?_⟩;have:=fI (GB:=G') (C:=C) (Q0:=Q0) (hgo pv) (hv pv) (k G' pv (rl.gb.trans hG.le) hpv);refine this.run ρ G' ov a' w' ⟨bP.refl _,rel.h,rel.sz,rel.df,fun j g e=>?_,fun nm B e=>by obtain⟨os,h5,h6⟩:=rl.bx nm B e;exact⟨os,h5.up hG.le,h6⟩,rl.dj,rl.fxd⟩;have e':ef (aO fr) (some d) (.d (.v (.func (.func gf) ⟨[]⟩ ⟨[pv]⟩))) j=some g:=by
  rw[jO] at e;simp only[ef];split at e
  .rename_i hk;rw[if_pos hk];exact e
  .rename_i hk;rw[if_neg hk];exact e
 exact(jt rel).fx (fun k g _ e=>by obtain⟨u,h5,h6⟩:=rl.fx k g e;exact⟨u,h5,h6.up hG.le⟩) (show b9 ρ G' (.d (.v (.func (.func gf) ⟨[]⟩ ⟨[pv]⟩))) _ from(aH (G:=G')).2 rfl) j g e'
end
section
variable {own:aI}
def MX{p q:Nat->Option (Nat×Nat)}(h: ∀i x,p i=some x->q i=some x): ∀(ps:List (Nat×Value)) (cs out:Array Value),Instr.fill p cs ps=some out->Instr.fill q cs ps=some out
 |[],cs,out,e=>e
 |(i,v)::ps,cs,out,e=>by
  simp only[Instr.fill] at e⊢;split at e
  .cases e
  .rename_i off size hp
   rw[h i _ hp];dsimp only;split at e
   .cases e
   .rename_i hc
    rw[if_neg hc];exact MX h ps _ _ e
def Xa{fr:Fr}{own:List aA}{t e s:Nat}{j:TypeInfo}{parts:Array (Nat×Operand)}{gd:Option (Nat×Bool)}[hz:gj P t z](hu:P.underlying t=some (.array len e))(hj:P.info? e=some j)(hs:j.size=s)
  (hb:vd fr ((List.range len).map fun i=>(i*s,s)) (aG z) parts.toList=some out):Yd P C fr own G ⟨dst, .build t parts,ty',pos,af,gd⟩ (.agg ⟨out⟩):=by
 intro a w hf hh;simp only[execOp];have:(Instr.build t (parts.map fun(i,x)=>(i,a.eval x))).run P w= .ok (.agg ⟨out⟩) w:=by
  unfold Instr.build;rw[aP (hz.zero w),pj];rw[aP (pI hu w)];simp only[];rw[aP (vt hj w),hs];have:=MX (q:=fun i=>some (i*s,s)) (fun i x hx=>by
   have hx':((List.range len).map fun i=>(i*s,s))[i]? =some x:=by simpa using hx
   rw[cY] at hx'
   cases hr:(List.range len)[i]? with
   |none=>rw[hr] at hx';cases hx'
   |some y=>
    rw[hr] at hx';cases hx';obtain⟨h1,h2⟩:=aR.1 hr;rw[List.getElem_range] at h2;rw[h2]) _ _ _ (Ga hf ((List.range len).map fun i=>(i*s,s)) parts.toList _ _ hb)
  simp only[pR,this];rfl
 exact c7 this
def DY:Nat->Nat->Nat->List (Nat×Nat×Nat)
 |_,0,_=>[]
 |i,k+1,s=>(i*s,0,s)::DY (i+1) k s
def RY: ∀(i k s:Nat),(DY i k s).map (fun x=>(x.1,x.2.2))=(List.range' i k).map fun j=>(j*s,s)
 |_,0,_=>rfl
 |i,k+1,s=>by simp only[DY,bU,List.range',RY (i+1) k s]
def L5(fr:aD)(cf:Cf)(len s:Nat):Option (TypeId×FX):=match c6 fr cf with
 |some ⟨_, .build t parts,_,_,_,_⟩=>match d6 tt t with
  |some ⟨.o,_,some zx,_⟩=>match tw (cg fr cf) (DY 0 len s) zx parts.toList with
   |some cs=>match xb cs with
    |some f=>some (t,f)
    |none=>none
   |none=>none
  |_=>none
 |_=>none
def Ul[fu:Fu]{t e s:Nat}{f:FX}(h:L5 fr cf len s=some (t,f))(hu:prog.underlying t=some (.array len e))(hs:(prog.info? e).map (·.size)=some s)
  (hgo:cH tt n fu.n fr own cf f [] []=⟨vc,fr',own',cf'⟩)(k:av prog GB C n Q0 fr' own' cf')
  (hv:autoParam (ak vc) cL._auto_1):av prog GB C n Q0 fr own cf:=by
 unfold L5 at h;split at h<;>try (cases h;done)
 rename_i hh;split at h<;>try (cases h;done)
 rename_i hT;split at h<;>try (cases h;done)
 rename_i hb;split at h<;>cases h;rename_i hf;refine us hh (.yd fun ρ G ov a w r=>?_) hgo hv k
 cases hj:prog.info? e with
 |none=>rw[hj] at hs;cases hs
 |some j=>
 rw[hj] at hs;obtain⟨v,hv,hv'⟩:=BV (ez _ _ hT) rfl;obtain⟨l,h1,h2⟩:=EA r _ _ _ _ hb (hv' ρ G);rw[RY,<-List.range_eq_range'] at h1;exact⟨.agg ⟨l⟩,F9 h2 hf,Xa hu hj (Option.some.inj hs) h1⟩
end
section
variable {own:aI}{gd:Option (Nat×Bool)}
def HZ(t:TypeId):Prop:= ∀(x:Value) w,(Instr.makeInterface t x).run prog w= .ok (.iface t x) w
def Cm(t:TypeId)(u:Value)(m:String)(f:FuncId):Prop:= ∀w,(method (prog.types.size+Made.depth) t u m).run prog w= .ok (f,u) w
def Z3(ht:HZ t)(hx:evD lk x=some d)(hd: ∀G y,Is G d y->y=u):b8 prog GB C n lk bk ⟨dst, .makeInterface t x,ty,pos,af,gd⟩ (.d (.v (.iface t u))) [] []:=
 b8.yd fun ρ G ov a w r=>by
  obtain⟨y,hy,hy'⟩:=r.evD hx;obtain rfl:=hd G y hy';refine⟨_,(aH (G:=G)).2 J,fun a' w' hf _=>?_⟩;refine c7 (f:=Next.value) ?_;rw[bB hf hy];exact ht _ _
def TX{fr:Fr}{a:Act}(hf:lm fr a)(hx:aB fr x=some (.iface t u))(hv:fm fr args.toList=some vs)(hm:Cm t u m f)(hc:tv prog f):
  (execOp a.eval ⟨dst, .call ⟨.invoke x m,args,tys⟩,ty,pos,af,gd⟩).run prog w= .ok (.enter f ⟨u::vs⟩) w:=by
 have e:args.map a.eval=⟨vs⟩:=by apply Array.ext';simpa using A9 hf hv
 simp only[execOp,resolve,bB hf hx,e];show(invoke (.fn (.method m) #[]) (#[.iface t u]++⟨vs⟩)).run prog w=_;simp only[invoke];have h0:(#[Value.iface t u]++(⟨vs⟩:Array Value))[0]? =some (.iface t u):=by simp
 have h1:(#[Value.iface t u]++(⟨vs⟩:Array Value)).extract 1 (#[Value.iface t u]++(⟨vs⟩:Array Value)).size=⟨vs⟩:=by
  apply Array.ext';simp
 rw[h0,h1];show(callMethod (.iface t u) m ⟨vs⟩).run prog w=_;unfold callMethod;show((do
  let p<-program
  let(g,receiver)<-method (p.types.size+Made.depth) t u m
  callFunc g (#[receiver]++⟨vs⟩)):Sem Next).run prog w=_
 rw[aP (a:=prog) (w':=w) J,aP (hm w)];show(callFunc f (#[u]++⟨vs⟩)).run prog w=_;rw[J7 hc];simp
def Zq(hx:bh lk x=some (.d (.v (.iface t u))))(ha:evDs lk args.toList=some ds)(hm:Cm t u m f)(hF:PF GB prog f (.v u::ds) rv):
  b8 prog GB C n lk bk ⟨dst, .call ⟨.invoke x m,args,tys⟩,ty,pos,af,gd⟩ (.d rv) [] []:=by
 intro hd tl tb K' s1 s2 hf hk;refine⟨fun ρ G ov a w r Q=>?_⟩;obtain⟨y,hy,hy'⟩:=(r.mono s1 s2).ev hx;rw[(aH (G:=G)).1 hy'] at hy;obtain⟨vs,h3,h4⟩:=(r.mono s1 s2).evDs ha;have hFn:=hF G (u::vs) r.gb (.cons (aH.2 J) h4);have h2:=TX (dst:=dst) (ty:=ty) (pos:=pos) (af:=af) (gd:=gd) (tys:=tys) (w:=w) (cG a) hy h3 hm hFn.able;simp only[Oper.wp,h2,Oper.upon];refine(hFn.run w r.h.sub).mono ?_;rintro e w' ⟨v,G',rfl,hh,hK⟩;have rl:gz C n (cw a) ov G a w:=⟨r.h,r.sz,cG a,r.df⟩;have rl2:=(rl.heap (rl.h.called hh)).put v hd;exact hk.run ρ G' ov _ w' ⟨r.gb.trans hh.gle,rl2.h,rl2.sz,rl2.df,(jt rl2).fx (fun k g _ e=>by obtain⟨z,h5,h6⟩:=r.fx k g e;exact⟨z,h5,h6.up hh.gle⟩) hK,
  fun nm B e=>by obtain⟨os,h5,h6⟩:=r.bx nm B e;exact⟨os,h5.up hh.gle,h6⟩,r.dj,r.fxd⟩
def Rd(fr:aD)(cf:Cf):Option (TypeId×DV):=match c6 fr cf with
 |some ⟨_, .makeInterface t x,_,_,_,_⟩=>match evD (cg fr cf) x with
  |some d=>some (t,d)
  |none=>none
 |_=>none
def Zy[fu:Fu](u:Value)(ha:Rd fr cf=some (t,d))(ht:HZ t)(hd: ∀G y,Is G d y->y=u)(hgo:cH tt n fu.n fr own cf (.d (.v (.iface t u))) [] []=⟨vc,fr',own',cf'⟩)(k:av prog GB C n Q0 fr' own' cf')
  (hv:autoParam (ak vc) cL._auto_1):av prog GB C n Q0 fr own cf:=by
 unfold Rd at ha;split at ha<;>try (cases ha;done)
 rename_i hh;split at ha<;>cases ha;rename_i hx;exact us hh (Z3 ht hx hd) hgo hv k
def SM(fr:aD)(cf:Cf):Option (String×TypeId×Value×List DV):=match c6 fr cf with
 |some ⟨_, .call ⟨.invoke x m,args,_⟩,_,_,_,_⟩=>match bh (cg fr cf) x with
  |some (.d (.v (.iface t u)))=>match evDs (cg fr cf) args.toList with
   |some ds=>some (m,t,u,ds)
   |none=>none
  |_=>none
 |_=>none
def ivk[fu:Fu](ha:SM fr cf=some (m,t,u,ds))(hm:Cm t u m f)(hF:PF GB prog f (.v u::ds) rv)(hgo:cH tt n fu.n fr own cf (.d rv) [] []=⟨vc,fr',own',cf'⟩)(k:av prog GB C n Q0 fr' own' cf')
  (hv:autoParam (ak vc) cL._auto_1):av prog GB C n Q0 fr own cf:=by
 unfold SM at ha;split at ha<;>try (cases ha;done)
 rename_i hh;split at ha<;>try (cases ha;done)
 rename_i hx;split at ha<;>cases ha;rename_i hds;exact us hh (Zq hx hds hm hF) hgo hv k
def PF.arg0{e:DV}(h:PF GB prog f (d::ds) rv)(he: ∀G y,Is G e y->Is G d y):PF GB prog f (e::ds) rv:=fun G vs hg hvs=>by
 obtain⟨y,m,rfl,h1,h2⟩:=bi.1 hvs;exact h G _ hg (.cons (he G y h1) h2)
end
section
variable {own:aI}{gd:Option (Nat×Bool)}
def ax3(h1:bh lk fo=some (.d (.v (.func (.func f) ⟨c1⟩ ⟨c2⟩))))(h2:evDs lk args.toList=some ds)(hc:IsLs GB ds1 c1)(hc2:IsLs GB ds2 c2)(hF:PF GB prog f (ds1++ds++ds2) rv):
  b8 prog GB C n lk bk ⟨dst, .call ⟨.value fo,args,tys⟩,ty,pos,af,gd⟩ (.d rv) [] []:=by
 intro hd tl tb K' s1 s2 hf hk;refine⟨fun ρ G ov a w r Q=>?_⟩;obtain⟨y,hy,hy'⟩:=(r.mono s1 s2).ev h1;rw[(aH (G:=G)).1 hy'] at hy;obtain⟨vs,h3,h4⟩:=(r.mono s1 s2).evDs h2;refine KN (c1:=c1) (c2:=c2) hy h3 (hF G (c1++vs++c2) r.gb (((hc.up r.gb).app h4).app (hc2.up r.gb))) hd (fun v G' hG hK a' w' rl=>?_) a w Q ⟨r.h,r.sz,cG a,r.df⟩;exact hk.run ρ G' ov a' w' ⟨r.gb.trans hG.le,rl.h,rl.sz,rl.df,(jt rl).fx (fun k g _ e=>by obtain⟨u,h5,h6⟩:=r.fx k g e;exact⟨u,h5,h6.up hG.le⟩) hK,
  fun nm B e=>by obtain⟨os,h5,h6⟩:=r.bx nm B e;exact⟨os,h5.up hG.le,h6⟩,r.dj,r.fxd⟩
def R5(fr:aD)(cf:Cf):Option (FuncId×List Value×List Value×List DV):=match c6 fr cf with
 |some ⟨_, .call ⟨.value fo,args,_⟩,_,_,_,_⟩=>match bh (cg fr cf) fo,evDs (cg fr cf) args.toList with
  |some (.d (.v (.func (.func f) ⟨c1⟩ ⟨c2⟩))),some ds=>some (f,c1,c2,ds)
  |_,_=>none
 |_=>none
def XU[fu:Fu](ha:R5 fr cf=some (f,c1,c2,ds))(hc:IsLs GB ds1 c1)(hc2:IsLs GB ds2 c2)(hF:PF GB prog f (ds1++ds++ds2) rv)(hgo:cH tt n fu.n fr own cf (.d rv) [] []=⟨vc,fr',own',cf'⟩)(k:av prog GB C n Q0 fr' own' cf')
  (hv:autoParam (ak vc) cL._auto_1):av prog GB C n Q0 fr own cf:=by
 unfold R5 at ha;split at ha<;>try (cases ha;done)
 rename_i hh;split at ha<;>cases ha;rename_i h1 h2;exact us hh (ax3 h1 h2 hc hc2 hF) hgo hv k
end
def Jd(p q:ah):DV:= .ag [vI (dm p.x),vI (dw p.x),dl p.x,vI (dm p.y),vI (dw p.y),dl p.y,vI (dm q.x),vI (dw q.x),dl q.x,vI (dm q.y),vI (dw q.y),dl q.y]
def YS{own:aI}(k:Nat)(hl:aO fr k=some (.d (.pt l)))(h:av prog GB C n Q0 ((k, .ep l)::fr) own (.ops ops r K)):av prog GB C n Q0 fr own (.ops ops r K):=
 nv hl (fun ρ G y hy=>by
  obtain⟨b,m,rfl,h1,h2⟩:=lO.1 hy;have e:=h2.len;exact⟨b,0,m,m,J,h1,by rw[ln m 0 l.length (by omega),iX,<-e,cS],h2⟩) h
def bG(v:List ah):List (ah×ah):=(List.range v.length).map fun i=>(v.getD i ⟨0,0⟩,v.getD ((i+1)%v.length) ⟨0,0⟩)

def s9(x:List aa×Bool):DV:= .ag [.sl (x.1.map eL),vB x.2]
def ZH(l:List (List aa×Bool)):cO 2 (l.map s9):=fun d hd=>by
 obtain⟨x,_,rfl⟩:=aT.1 hd;exact⟨J,J⟩
def vJ(c:List aa):DV:= .sl (c.map eL)
def Uh(l:List (List aa)):cO 1 (l.map vJ):=fun d hd=>by
 obtain⟨x,_,rfl⟩:=aT.1 hd;exact⟨J,J⟩
def anV{b:Bool}{c:List aa}(hc: ∀m∈c,LB m)(hok: ∀m∈c,m.ok)(hn:c.length<=1000):PR GB prog 106 [eT (.leaf b), .sl (c.map eL)] 2 196 ((gq (.leaf b) c).map s9):=by
 refine Cc func106 J J ntmps106 J J (fun C hmb=>?_);refine cl J (BX hc hok) J<|bb (fu2:=⟨8⟩) J J J (fun hc13=>?_) (fun hc13=>?_)
 .
  exact F2 J J (by rw[gq,if_neg (by simpa using hc13)];rfl)
 .
  refine du J J J<|ro J J<|?_;exact C6 J J J (by rw[gq,if_pos (by simpa using hc13)]<;>rfl)
def ZQ{l:aa}{x y:Tr}{c:List aa}(hc: ∀m∈c,LB m)(hok: ∀m∈c,m.ok)(hl:LB l)(hlo:l.ok)(hn:c.length+(Tr.node l x y).depth<=1000)(hs:(Tr.node l x y).size<=100000)(ihx: ∀{c:List aa},(∀m∈c,LB m)->(∀m∈c,m.ok)->c.length+x.depth<=1000->PR GB prog 106 [eT x, .sl (c.map eL)] 2 196 ((gq x c).map s9))(ihy: ∀{c:List aa},(∀m∈c,LB m)->(∀m∈c,m.ok)->c.length+y.depth<=1000->PR GB prog 106 [eT y, .sl (c.map eL)] 2 196 ((gq y c).map s9)):PR GB prog 106 [eT (.node l x y), .sl (c.map eL)] 2 196 ((gq (.node l x y) c).map s9):=by
 haveI:=hl;have hd:(Tr.node l x y).depth=1+max x.depth y.depth:=J;have hz:(Tr.node l x y).size=1+x.size+y.size:=J;have hcl:=oO c;have go: ∀{P:aa->Prop} {k:aa},(∀m∈c,P m)->P k-> ∀m∈ce c++[k],P m:=fun{P k} h1 h2 m hm=>by
  rcases bJ.1 hm with h|h
  .exact h1 m (jw.1 h).1
  .rw[aU.1 h];exact h2
 have h1:=BU x (ce c++[l]);have h2:=BU y (ce c++[l.rev]);refine Cc func106 J J ntmps106 J J (fun C hmb=>?_);refine cl J (BX hc hok) J<|bb (fu2:=⟨8⟩) J J J (fun hc13=>?_) (fun hc13=>?_)
 .
  exact F2 J J (by rw[gq,if_neg (by simpa using hc13)];rfl)
 .
  refine cB J J J<|oE J J<|ap ((ce c).map eL) J J (eu _) J<|rf J J<|jC ((ce c++[l]).map eL) J (by rw[aS]<;>rfl) (eu [l]) J<|cr J (ihx (c:=ce c++[l]) (go hc hl) (go hok hlo) (by rw[aY,fZ];omega)) J<|oE J J<|ap ((ce c).map eL) J J (eu _) J<|cl J (vX (l:=l)) J<|rf J J<|jC ((ce c++[l.rev]).map eL) J (by rw[aS]<;>rfl) (eu [l.rev]) J<|cr J (ihy (c:=ce c++[l.rev]) (go hc inferInstance) (go hok hlo.rev) (by rw[aY,fZ];omega)) J<|ap ((gq x (ce c++[l])++gq y (ce c++[l.rev])).map s9) J (by rw[aS]) (ZH _) J<|?_;exact C6 J J J (by rw[gq,if_pos (by simpa using hc13)]<;>rfl)
def J6: ∀{t:Tr} {c:List aa},t.all LB->t.all aa.ok->t.size<=100000->(∀m∈c,LB m)->(∀m∈c,m.ok)->c.length+t.depth<=1000->PR GB prog 106 [eT t, .sl (c.map eL)] 2 196 ((gq t c).map s9)
 | .leaf _,_,_,_,_,hc,hk,hn=>anV hc hk (by omega)
 | .node l x y,c,hb,ho,hs,hc,hk,hn=>ZQ hc hk hb.1 ho.1 hn hs (fun a b d=>J6 hb.2.1 ho.2.1 (by have:(Tr.node l x y).size=1+x.size+y.size:=J;omega) a b d) (fun a b d=>J6 hb.2.2 ho.2.2 (by have:(Tr.node l x y).size=1+x.size+y.size:=J;omega) a b d)
def qz(ps:List (List aa×Bool)):List (List aa):=(ps.filter (·.2)).map (·.1)
def MK{ps:List (List aa×Bool)}{b:Bool}(h:ps[k]? =some (e,b)):qz (ps.drop k)=(if b then [e] else [])++qz (ps.drop (k+1)):=by
 obtain⟨h1,h2⟩:=aR.1 h;rw[bX h1,h2];unfold qz
 cases b<;>simp
def ayV{t:Tr}{ps:List (List aa×Bool)}(h:ps=gq t [])(hb:t.all LB)(ho:t.all aa.ok)(hd:t.depth<=1000)(hs:t.size<=100000):PR GB prog 106 [eT t, .sl []] 2 196 (ps.map s9):=h▸J6 (c:=[]) hb ho hs (fun m h=>by cases h) (fun m h=>by cases h) (by rw[dS];omega)
def Vl{t:Tr}(hb:t.all LB)(ho:t.all aa.ok)(hd:t.depth<=1000)(hs:t.size<=100000):PF GB prog 48 [eT t] (.sl ((qz (gq t [])).map vJ)):=by
 obtain⟨ps,hps⟩: ∃ps,ps=gq t []:=⟨_,rfl⟩;have hpl:=BU t [];rw[<-hps] at hpl;have hml:(ps.map s9).length=ps.length:=aX ..;refine fn func48 J J ntmps48 J J (fun C=>?_);refine cr (fu:=⟨1⟩) J (ayV hps hb ho hd hs) J<|aj 8 (.d (vI (ps.length:Nat))) J (by rw[hml]<;>rfl)<|gx J<|nr 3 3 43 1 J J J<|lp (X:=List (List aa)×Nat) (fun⟨acc,k⟩=>[(9, .d (vI (k:Nat))),(3, .rw 3)]) (fun⟨acc,k⟩=>[(3,some (.b 43 1 (acc.map vJ) true))]) (fun⟨acc,k⟩=>acc++qz (ps.drop k)=qz ps/\k<=ps.length) (fun⟨acc,k⟩=>ps.length-k) ⟨[],0⟩ J ⟨J,aM _⟩ (fun _=>J) (fun⟨acc,k⟩ hk=>?_)
 try dsimp only at hk⊢
 obtain⟨h1,h2⟩:=hk;have hal:acc.length<=ps.length:=by
  have q1:=congrArg List.length h1;have q2:(qz ps).length<=ps.length:=by unfold qz;rw[aX];exact nL ..
  rw[aY] at q1;omega
 have ham:(acc.map vJ).length=acc.length:=aX ..;refine br J J J (fun hc10=>?_) (fun hc10=>?_)
 .
  obtain⟨⟨e,b⟩,hx⟩: ∃x,ps[k]? =some x:=⟨_,aZ (by omega)⟩;refine lb _ J (ck hx) J<|bb J J J (fun hc14=>?_) (fun hc14=>?_)
  .
   refine rf J J<|ap ((acc++[e]).map vJ) J (by rw[aS]<;>rfl) (Uh [e]) J<|d8 19 3 J<|at_ ⟨acc++[e],k+1⟩ (by dsimp only;exact⟨⟨by rw[<-h1,MK hx,if_pos hc14];simp,by omega⟩,(by omega)⟩)
  .
   exact at_ ⟨acc,k+1⟩ (by dsimp only;exact⟨⟨by rw[<-h1,MK hx,if_neg (by simp at hc14;rw[hc14];decide)];rfl,by omega⟩,(by omega)⟩)
 .
  obtain rfl:k=ps.length:=by omega
  obtain rfl:acc=qz ps:=by rw[fY] at h1;simpa[qz] using h1
  subst hps;refine gm 3 J<|rz J J
def Ae(l:List ah):cO 6 (l.map eP):=fun d hd=>by
 obtain⟨x,_,rfl⟩:=aT.1 hd;exact⟨J,J⟩
def Hh: ∀L:List aa,(L.flatMap fun l=>[l.dir,bF l.dir]).length=2*L.length
 |[]=>rfl
 |l::L=>by
  have:=Hh L;rw[lX,aY,this];simp only[bZ,dS];omega
theorem aD4(hb: ∀l∈L,LB l): ∀d∈L.flatMap (fun l=>[l.dir,bF l.dir]),aC d 97:=fun d hd=>by
 obtain⟨l,h1,h2⟩:=iQ.1 hd;haveI:=hb l h1;simp only[aW,dT,or_false] at h2;rcases h2 with rfl|rfl
 .infer_instance
 .have:aC l.dir 97:=inferInstance
  exact⟨inferInstanceAs (BQ (-l.dir.x) 97),inferInstanceAs (BQ (-l.dir.y) 97)⟩
def ZR(hb: ∀l∈L,LB l)(hn:L.length<=100000):PF GB prog 72 [.sl (L.map eL)] (.sl ((gi L).map eP)):=by
 have hml:(L.map eL).length=L.length:=aX ..;refine fn (fu:=⟨15⟩) func72 J J ntmps72 J J (fun C=>?_);refine aj 10 (.d (vI (L.length:Nat))) J (by rw[hml]<;>rfl)<|gx J<|nr 3 3 53 6 J J J<|lp (X:=List ah×Nat) (fun⟨acc,k⟩=>[(11, .d (vI (k:Nat))),(3, .rw 3)]) (fun⟨acc,k⟩=>[(3,some (.b 53 6 (acc.map eP) true))]) (fun⟨acc,k⟩=>acc=(List.range k).flatMap (qr L)/\k<=L.length) (fun⟨acc,k⟩=>L.length-k) ⟨[],0⟩ J ⟨J,aM _⟩ (fun _=>J) (fun⟨acc,k⟩ hk=>?_)
 try dsimp only at hk⊢
 obtain⟨h1,h2⟩:=hk;have hal:=Dz L k;rw[<-h1] at hal;have ham:(acc.map eP).length=acc.length:=aX ..;refine br J J J (fun hc12=>?_) (fun hc12=>?_)
 .
  obtain⟨l,hx⟩: ∃u,L[k]? =some u:=⟨_,aZ (by omega)⟩;obtain⟨m,hw⟩: ∃w,L[(k+1)%L.length]? =some w:=⟨_,aZ (dV _ (by omega))⟩;haveI:=hb l (aK hx);haveI:=hb m (aK hw);refine ix (fu:=⟨13⟩) _ J (ck hx) J<|aj 20 (.d (vI (L.length:Nat))) J (by rw[hml]<;>rfl)<|gx (fu:=⟨1⟩) J<|aj 21 (.d (vI (((k+1)%L.length:Nat):Int))) J J<|gx J<|ix _ J (ck hw) J<|cl J (il (l:=l)) J<|cl J (il (l:=m)) J<|cl J (pG (p:=l.dir) (q:=m.dir) (i:=97) (j:=97)) J<|cl J (mD (q:=l.dir.cross m.dir)) J<|br J J J (fun hc30=>?_) (fun hc30=>?_)
  .
   refine cl J (DX (l:=l) (m:=m)) J<|rf J J<|ap ((acc++[c8 l m]).map eP) J (by rw[aS]<;>rfl) (Ae [c8 l m]) J<|d8 40 3 J<|at_ ⟨acc++[c8 l m],k+1⟩ (by dsimp only;exact⟨⟨by rw[AM,qF hx hw,if_pos hc30,<-h1],by omega⟩,(by omega)⟩)
  .
   exact at_ ⟨acc,k+1⟩ (by dsimp only;exact⟨⟨by rw[AM,qF hx hw,if_neg hc30,<-h1,fR],by omega⟩,(by omega)⟩)
 .
  have hS:gi L=acc:=by unfold gi;rw[h1,show k=L.length by omega]
  refine gm 3 J<|rz J (by rw[hS];rfl)
def Sy:PF GB prog 51 [eP p] (eP (bF p)):=by
 refine fn func51 J J ntmps51 J J (fun C=>?_);refine cl J og J<|cl J og J<|rz J J
def JG{f:α->DV}{l:List α}{s:α}(h:l[0]? =some s):(l.map f)[(0:Int).toNat]? =some (f s):=by simp[h]
def Kw(c:List aa):(gi c).length<=c.length:=Dz c _
theorem Mw{c:List aa}(hb: ∀l∈c,LB l): ∀p∈gi c,aC p 1200:=fun p hp=>by
 obtain⟨l,hl,m,hm,rfl⟩:=ayc hp;have:= @aC.imeet l m (hb l hl) (hb m hm);exact⟨this.x.mono (by decide),this.y.mono (by decide)⟩

def Vy{t:Tr}(h:t.all aa.ok):qz (gq t [])=(cD t).map fun c=>c.map (·.l):=aHF h

theorem aC.mono{p:ah}{i j:Nat}(h:aC p i)(hj:i<=j:=by omega):aC p j:=⟨h.x.mono hj,h.y.mono hj⟩





def uR{P:aa->Prop}(hr: ∀l,P l->P l.rev): ∀{t:Tr} {c:ao} {x:Bool×ao},t.all P->(∀s∈c,P s.l)->x∈t.parts c-> ∀s∈x.2,P s.l
 | .leaf b,c,x,_,hc,h=>by
  rw[Tr.parts,aU] at h;subst h;exact hc
 | .node l u v,c,x,ht,hc,h=>by
  have cl: ∀k,P k-> ∀s∈bD c k,P s.l:=fun k hk s hs=>by
   unfold bD at hs;split at hs
   .rcases qt.1 hs with rfl|hs
    .exact hk
    .obtain⟨s0,g,_,rfl⟩:=q8.1 hs
     exact hc s0 g
   .exact hc s hs
  rw[Tr.parts] at h;rcases bJ.1 h with h|h
  .split at h
   .exact uR hr ht.2.1 (cl l ht.1) h
   .cases h
  .split at h
   .exact uR hr ht.2.2 (cl l.rev (hr l ht.1)) h
   .cases h
def Qm{x a b:Nat}(hx:x<=2^a)(hy:y<=2^b):x*y<=2^(a+b):=by
 rw[fJ];exact fM hx hy


def Lc{own:aI}[fu:Fu](ha:zl fr cf=some (f,ds))(hF:PF GB prog f ds (.v (.bool true)))(hgo:cH tt n fu.n fr own cf .tt [] []=⟨vc,fr',own',cf'⟩)(k:av prog GB C n Q0 fr' own' cf')
  (hv:autoParam (ak vc) cL._auto_1):av prog GB C n Q0 fr own cf:=by
 unfold zl at ha;split at ha<;>try (cases ha;done)
 rename_i hh;exact us hh (b8.to (g:= .tt) (Mx ha hF) fun ρ G y hy=>(aH (G:=G)).1 hy) hgo hv k

def Wz{u z:ah}(hu:u.half≠0)(hv:v.half≠0)(h0:u.cross v=0)(h1:0<u.cross z)(h2:0<v.cross z):u.half=v.half:=by
 have ex:v.x*(u.cross z)=u.x*(v.cross z):=by unfold ah.cross at*;grind
 have ey:v.y*(u.cross z)=u.y*(v.cross z):=by unfold ah.cross at*;grind
 have key: ∀{a b:Rat},a*(u.cross z)=b*(v.cross z)->(0<a↔0<b)/\(a=0↔b=0):=fun{a b} e=>by
  have k1:0<a*(u.cross z)↔0<a:=f8 h1;have k2:0<b*(v.cross z)↔0<b:=f8 h2;refine⟨by rw[<-k1,<-k2,e],fun h=>?_,fun h=>?_⟩
  .rw[h,Rat.zero_mul] at e
   rcases fK.1 e.symm with q|q
   .exact q
   .grind
  .rw[h,Rat.zero_mul] at e
   rcases fK.1 e with q|q
   .exact q
   .grind
 obtain⟨x1,x2⟩:=key ex;obtain⟨y1,y2⟩:=key ey;have:u.half=1↔v.half=1:=by rw[oH,oH,x1,y1,y2]
 rcases oA hu with a|a<;>rcases oA hv with b|b<;>omega
def H'(n q p:ah)(e:Rat):n.dot (km q p e)=n.dot q+e*(n.dot p-n.dot q):=by
 unfold ah.dot km;grind
def zd(n q u:ah)(e:Rat):n.dot (cF q u e)=n.dot q+e*n.dot u:=by
 unfold ah.dot cF;grind
structure RX where
 ax:Rat
 ay:Rat
 ac:Rat
def RX.ev(g:RX)(p:ah):Rat:=g.ax*p.x+g.ay*p.y+g.ac
def Cw{x y:Rat}(h: ¬(x=0/\y=0)):0<x*x+y*y:=by
 have h1:=Dk x;have h2:=Dk y;rcases jI (x*x+y*y) with k|k|k
 .exfalso
  refine h ⟨?_,?_⟩
  .have:x*x=0:=by grind
   exact(fK.1 this).elim id id
  .have:y*y=0:=by grind
   exact(fK.1 this).elim id id
 .exact k
 .grind
def W3{a b:ah}(h:a≠b): ¬(b.x-a.x=0/\b.y-a.y=0):=fun k=>h (by
 cases a;cases b
 simp only[ah.mk.injEq] at*;constructor<;>grind)
def div_pos(ha:0<a)(hb:0<b):0<a/b:=by
 have e:a/b*b=a:=by grind
 exact(f8 hb).1 (by rw[e];exact ha)
def DQ{a b:ZP}(h:a.q=b.q):a=b:=by
 have hx:(a.1:Rat)=(b.1:Rat):=congrArg ah.x h;have hy:(a.2:Rat)=(b.2:Rat):=congrArg ah.y h;exact Prod.ext (by exact_mod_cast hx) (by exact_mod_cast hy)
section
variable {rs:List (List ZP)}{fill:Int}{w:ah}{b c:Bool}
end
section
variable {ds:List ah}
end
def tG{c x y z:Rat}(ha:0<=a)(hb:0<=b)(hc:0<=c)(hs:0<a+b+c)(hx:0<x)(hy:0<y)(hz:0<z):0<a*x+b*y+c*z:=by
 have h1:=cI ha (dQ hx);have h2:=cI hb (dQ hy);have h3:=cI hc (dQ hz);by_cases k1:0<a
 .have:=di k1 hx;grind
 .by_cases k2:0<b
  .have:=di k2 hy;grind
  .have:=di (show 0<c by grind) hz;grind
def jo(x:Rat):Rat:=if 0<x then x else 0
def uk(x:Rat):0<=jo x:=by unfold jo;split<;>grind
def Ck(x:Rat):jo x-jo (-x)=x:=by unfold jo;split<;>split<;>grind
def Ey(x:Rat):jo x=0\/jo (-x)=0:=by unfold jo;split<;>split<;>grind
def Ln{x:Rat}(h:0<x):0<jo x:=by unfold jo;rw[if_pos h];exact h
def vS(w1 w2 w3 w4:Rat)(p1 p2 p3 p4:ah):ah:=⟨(w1*p1.x+w2*p2.x+w3*p3.x+w4*p4.x)*(w1+w2+w3+w4)⁻¹,(w1*p1.y+w2*p2.y+w3*p3.y+w4*p4.y)*(w1+w2+w3+w4)⁻¹⟩
def K4(l:aa){w1:Rat}(hs:0<w1+w2+w3+w4)(p1 p2 p3 p4:ah):(w1+w2+w3+w4)*l.value (vS w1 w2 w3 w4 p1 p2 p3 p4)=w1*l.value p1+w2*l.value p2+w3*l.value p3+w4*l.value p4:=by
 have e:(w1+w2+w3+w4)*(w1+w2+w3+w4)⁻¹=1:=Rat.mul_inv_cancel _ (by grind);unfold vS aa.value aa.nor ah.dot;dsimp only;generalize (w1+w2+w3+w4)⁻¹=i at*;grind
def Zp(h:bI p1 p2 p3≠0): ∃r:ah,∀l:aa,((0<l.value p2/\0<l.value p3/\0<l.value p4)\/(0<l.value p1/\0<l.value p3/\0<l.value p4)\/(0<l.value p1/\0<l.value p2/\0<l.value p4)\/(0<l.value p1/\0<l.value p2/\0<l.value p3))->0<l.value r:=by
 obtain⟨u1,e1⟩: ∃u,u=bI p2 p3 p4:=⟨_,rfl⟩;obtain⟨u2,e2⟩: ∃u,u= -bI p1 p3 p4:=⟨_,rfl⟩;obtain⟨u3,e3⟩: ∃u,u=bI p1 p2 p4:=⟨_,rfl⟩;obtain⟨u4,e4⟩: ∃u,u= -bI p1 p2 p3:=⟨_,rfl⟩;have hz:u1+u2+u3+u4=0:=by rw[e1,e2,e3,e4];unfold bI;grind
 have hx:u1*p1.x+u2*p2.x+u3*p3.x+u4*p4.x=0:=by rw[e1,e2,e3,e4];unfold bI;grind
 have hy:u1*p1.y+u2*p2.y+u3*p3.y+u4*p4.y=0:=by rw[e1,e2,e3,e4];unfold bI;grind
 have h4:u4≠0:=by rw[e4];grind
 clear e1 e2 e3 e4 h;have s1:=Ck u1;have s2:=Ck u2;have s3:=Ck u3;have s4:=Ck u4;have a1:=uk u1;have a2:=uk u2;have a3:=uk u3;have a4:=uk u4;have b1:=uk (-u1);have b2:=uk (-u2);have b3:=uk (-u3);have b4:=uk (-u4);have z1:=Ey u1;have z2:=Ey u2;have z3:=Ey u3;have z4:=Ey u4;have c4:0<jo u4+jo (-u4):=by
  rcases jI u4 with k|k|k
  .exact absurd k h4
  .have:=Ln k;grind
  .have:=Ln (show 0< -u4 by grind);grind
 generalize jo u1=v1 at*;generalize jo u2=v2 at*;generalize jo u3=v3 at*;generalize jo u4=v4 at*;generalize jo (-u1)=w1 at*;generalize jo (-u2)=w2 at*;generalize jo (-u3)=w3 at*;generalize jo (-u4)=w4 at*;have hS:v1+v2+v3+v4=w1+w2+w3+w4:=by grind
 have hp:0<v1+v2+v3+v4:=by grind
 have hX:v1*p1.x+v2*p2.x+v3*p3.x+v4*p4.x=w1*p1.x+w2*p2.x+w3*p3.x+w4*p4.x:=by
  rw[<-s1,<-s2,<-s3,<-s4] at hx;grind
 have hY:v1*p1.y+v2*p2.y+v3*p3.y+v4*p4.y=w1*p1.y+w2*p2.y+w3*p3.y+w4*p4.y:=by
  rw[<-s1,<-s2,<-s3,<-s4] at hy;grind
 refine⟨vS v1 v2 v3 v4 p1 p2 p3 p4,fun l hl=>?_⟩;have eq:vS v1 v2 v3 v4 p1 p2 p3 p4=vS w1 w2 w3 w4 p1 p2 p3 p4:=by unfold vS;rw[hX,hY,hS]
 have f1:=K4 l hp p1 p2 p3 p4;have f2:=K4 l (show 0<w1+w2+w3+w4 by grind) p1 p2 p3 p4;rw[<-eq] at f2;have fin:(0<v1*l.value p1+v2*l.value p2+v3*l.value p3+v4*l.value p4\/0<w1*l.value p1+w2*l.value p2+w3*l.value p3+w4*l.value p4)->0<l.value (vS v1 v2 v3 v4 p1 p2 p3 p4):=fun k=>by
  rcases k with k|k
  .exact(f8 hp).1 (by rw[Rat.mul_comm,f1];exact k)
  .exact(f8 (show 0<w1+w2+w3+w4 by grind)).1 (by rw[Rat.mul_comm,f2];exact k)
 apply fin;clear f1 f2 fin eq hX hY hx hy;generalize l.value p1=x1 at*;generalize l.value p2=x2 at*;generalize l.value p3=x3 at*;generalize l.value p4=x4 at*;rcases hl with⟨k1,k2,k3⟩|⟨k1,k2,k3⟩|⟨k1,k2,k3⟩|⟨k1,k2,k3⟩
 .rcases z1 with z|z
  .left;have:=tG a2 a3 a4 (by grind) k1 k2 k3;rw[z];grind
  .right;have:=tG b2 b3 b4 (by grind) k1 k2 k3;rw[z];grind
 .rcases z2 with z|z
  .left;have:=tG a1 a3 a4 (by grind) k1 k2 k3;rw[z];grind
  .right;have:=tG b1 b3 b4 (by grind) k1 k2 k3;rw[z];grind
 .rcases z3 with z|z
  .left;have:=tG a1 a2 a4 (by grind) k1 k2 k3;rw[z];grind
  .right;have:=tG b1 b2 b4 (by grind) k1 k2 k3;rw[z];grind
 .rcases z4 with z|z
  .left;have:=tG a1 a2 a3 (by grind) k1 k2 k3;rw[z];grind
  .right;have:=tG b1 b2 b3 (by grind) k1 k2 k3;rw[z];grind
def ML: ∀(n:Nat) (L:List aa),L.length=n->(∀a∈L,∀b∈L,∀d∈L,∃q:ah,0<a.value q/\0<b.value q/\0<d.value q)-> ∃q,dE L q
 |0,L,hn,_=>⟨⟨0,0⟩,fun m hm=>by rw[cV hn] at hm;cases hm⟩
 |n+1,[],hn,_=>by cases hn
 |n+1,[a],_,h=>by
  obtain⟨q,h1,_⟩:=h a (by simp) a (by simp) a (by simp);exact⟨q,fun m hm=>by rw[aU.1 hm];exact h1⟩
 |n+1,[a,b],_,h=>by
  obtain⟨q,h1,h2,_⟩:=h a (by simp) b (by simp) b (by simp);exact⟨q,fun m hm=>by simp only[aW,dT,or_false] at hm;rcases hm with rfl|rfl<;>assumption⟩
 |n+1,[a,b,d],_,h=>by
  obtain⟨q,h1,h2,h3⟩:=h a (by simp) b (by simp) d (by simp);exact⟨q,fun m hm=>by simp only[aW,dT,or_false] at hm;rcases hm with rfl|rfl|rfl<;>assumption⟩
 |n+1,a::b::d::e::L,hn,h=>by
  have sub: ∀M:List aa,M.length=n->(∀m∈M,m∈a::b::d::e::L)-> ∃q,dE M q:=fun M hM hs=>ML n M hM fun x hx y hy z hz=>h x (hs x hx) y (hs y hy) z (hs z hz);simp only[bZ] at hn;obtain⟨p1,q1⟩:=sub (b::d::e::L) (by simp only[bZ];omega) (fun m hm=>by simp only[aW] at hm⊢;grind);obtain⟨p2,q2⟩:=sub (a::d::e::L) (by simp only[bZ];omega) (fun m hm=>by simp only[aW] at hm⊢;grind);obtain⟨p3,q3⟩:=sub (a::b::e::L) (by simp only[bZ];omega) (fun m hm=>by simp only[aW] at hm⊢;grind);obtain⟨p4,q4⟩:=sub (a::b::d::L) (by simp only[bZ];omega) (fun m hm=>by simp only[aW] at hm⊢;grind);by_cases e12:p1=p2
  .refine⟨p1,fun m hm=>?_⟩
   rcases aW.1 hm with rfl|hm
   .rw[e12];exact q2 m (by simp)
   .exact q1 m hm
  .have hN:=Cw (W3 e12)
   obtain⟨p3',q3',ho⟩: ∃p3',dE (a::b::e::L) p3'/\bI p1 p2 p3'≠0:=by
    by_cases k:bI p1 p2 p3=0
    .obtain⟨ep,he,hm⟩:=q3.open ⟨-(p2.y-p1.y),p2.x-p1.x⟩
     refine⟨_,hm ep (dQ he) iY,?_⟩;have e:bI p1 p2 (cF p3 ⟨-(p2.y-p1.y),p2.x-p1.x⟩ ep)=bI p1 p2 p3+ep*((p2.x-p1.x)*(p2.x-p1.x)+(p2.y-p1.y)*(p2.y-p1.y)):=by unfold bI cF;dsimp only;grind
     rw[e,k];have:=di he hN;grind
    .exact⟨p3,q3,k⟩
   obtain⟨r,hr⟩:=Zp (p4:=p4) ho;refine⟨r,fun m hm=>hr m ?_⟩;simp only[aW] at hm;have i1:=q1 m;have i2:=q2 m;have i3:=q3' m;have i4:=q4 m;simp only[aW] at i1 i2 i3 i4;rcases hm with rfl|rfl|rfl|rfl|hm
   .exact .inl ⟨i2 (by simp),i3 (by simp),i4 (by simp)⟩
   .exact .inr (.inl ⟨i1 (by simp),i3 (by simp),i4 (by simp)⟩)
   .exact .inr (.inr (.inl ⟨i1 (by simp),i2 (by simp),i4 (by simp)⟩))
   .exact .inr (.inr (.inr ⟨i1 (by simp),i2 (by simp),i3 (by simp)⟩))
   .exact .inl ⟨i2 (by simp[hm]),i3 (by simp[hm]),i4 (by simp[hm])⟩
def Mh(a:Rat):a*(a.den:Rat)=(a.num:Rat):=by
 have h:(a.num:Rat)/((a.den:Nat):Rat)=a:=by rw[<-nK];exact rL a
 have h0:((a.den:Nat):Rat)≠0:=by
  intro k;have:a.den=0:=by exact_mod_cast k
  exact a.den_nz this
 generalize (a.num:Rat)=n at*;generalize ((a.den:Nat):Rat)=d at*;rw[<-h];grind
def Iu{x:Int}(hD:0<D)(h:a*((D:Int):Rat)=(x:Rat)):a.num*(D:Int)=x*(a.den:Int):=by
 have e:((a.den:Int):Rat)*a=(a.num:Rat):=by
  have:=Mh a;rw[Rat.mul_comm];exact this
 have k:(a.num:Rat)*((D:Int):Rat)=(x:Rat)*((a.den:Int):Rat):=by rw[<-e,<-h];grind
 exact_mod_cast k
def OQ{x y:Int}(hD:0<D)(ha:a*((D:Int):Rat)=(x:Rat))(hb:b*((D:Int):Rat)=(y:Rat)):rgcd a b*((D:Int):Rat)=(((Nat.gcd x.natAbs y.natAbs:Nat):Int):Rat):=by
 have h1:=Iu hD ha;have h2:=Iu hD hb;have n1:a.num.natAbs*D=x.natAbs*a.den:=by
  have:=congrArg Int.natAbs h1;rwa [fV,fV,fW,fW] at this
 have n2:b.num.natAbs*D=y.natAbs*b.den:=by
  have:=congrArg Int.natAbs h2;rwa [fV,fV,fW,fW] at this
 have hg:Nat.gcd (a.num.natAbs*b.den) (b.num.natAbs*a.den)*D=Nat.gcd x.natAbs y.natAbs*(a.den*b.den):=by
  rw[<-Nat.gcd_mul_right,<-Nat.gcd_mul_right];congr 1
  .rw[nV,n1,cW]
  .rw[nV,n2,cW,cJ b.den a.den]
 unfold rgcd;generalize Nat.gcd (a.num.natAbs*b.den) (b.num.natAbs*a.den)=G at*;generalize Nat.gcd x.natAbs y.natAbs=g at*;have hpos:0<a.den*b.den:=jK a.den_pos b.den_pos;have hq:((G:Int):Rat)*((D:Int):Rat)=((g:Int):Rat)*(((a.den*b.den:Nat):Int):Rat):=by exact_mod_cast hg
 generalize a.den*b.den=E at*;have h0:((E:Int):Rat)≠0:=fun k=>by
  have:(E:Int)=0:=by exact_mod_cast k
  omega
 have hm:mkRat ((G:Nat):Int) E*((E:Int):Rat)=((G:Int):Rat):=by
  have hz:((E:Nat):Rat)≠0:=h0;show mkRat ((G:Nat):Int) E*((E:Nat):Rat)=_;rw[nK];generalize ((E:Nat):Rat)=z at*;generalize ((G:Int):Rat)=y at*;grind
 generalize mkRat ((G:Nat):Int) E=r at*;rw[<-hm] at hq;generalize ((E:Int):Rat)=e at*;generalize ((D:Int):Rat)=d at*;have:e*(r*d-((g:Int):Rat))=0:=by grind
 have:=(fK.1 this).resolve_left h0;grind
def kP(a b c:Rat):Nat:=a.den*(b.den*c.den)
def dC(a b c:Rat):aa:=m5 (a.num*(b.den*c.den:Nat)) (b.num*(a.den*c.den:Nat)) (c.num*(a.den*b.den:Nat))
def M6(a b c:Rat):0<kP a b c:=jK a.den_pos (jK b.den_pos c.den_pos)
def Kl(a:Rat)(k:Nat):a*(((a.den*k:Nat):Int):Rat)=((a.num*(k:Nat):Int):Rat):=by
 have e:=Mh a;have:(((a.den*k:Nat):Int):Rat)=(a.den:Rat)*((k:Int):Rat):=by push_cast;rfl
 rw[this,bM,<-Rat.mul_assoc,e]
def J'(a b c:Rat):a*((kP a b c:Int):Rat)=((a.num*(b.den*c.den:Nat):Int):Rat)/\b*((kP a b c:Int):Rat)=((b.num*(a.den*c.den:Nat):Int):Rat)/\c*((kP a b c:Int):Rat)=((c.num*(a.den*b.den:Nat):Int):Rat):=by
 refine⟨Kl a _,?_,?_⟩
 .rw[show kP a b c=b.den*(a.den*c.den) by unfold kP;rw[mT]];exact Kl b _
 .rw[show kP a b c=c.den*(a.den*b.den) by unfold kP;rw[<-cW,cJ]];exact Kl c _
def CH{c:Rat}(h: ¬(a=0/\b=0)): ¬(a.num*(b.den*c.den:Nat)=0/\b.num*(a.den*c.den:Nat)=0):=fun⟨h1,h2⟩=>by
 refine h ⟨?_,?_⟩
 .rcases pZ.1 h1 with k|k
  .exact mX.1 k
  .have:=jK b.den_pos c.den_pos;omega
 .rcases pZ.1 h2 with k|k
  .exact mX.1 k
  .have:=jK a.den_pos c.den_pos;omega
def wX{c:Rat}(h: ¬(a=0/\b=0)): ∃g:Rat,0<g/\(∀p:ah,(dC a b c).value p=g*(a*p.x+b*p.y+c)):=by
 obtain⟨g,g0,e1,e2,e3⟩:=aDK (c:=c.num*(a.den*b.den:Nat)) (CH (c:=c) h);obtain⟨k1,k2,k3⟩:=J' a b c;have hD:(0:Rat)<((kP a b c:Int):Rat):=by
  have:=M6 a b c;exact_mod_cast (show(0:Int)<(kP a b c:Int) by omega)
 have hg:(0:Rat)<(g:Rat):=by exact_mod_cast g0
 have f1:(g:Rat)*((dC a b c).a:Rat)=a*((kP a b c:Int):Rat):=by rw[k1,<-e1];unfold dC;push_cast;rfl
 have f2:(g:Rat)*((dC a b c).b:Rat)=b*((kP a b c:Int):Rat):=by rw[k2,<-e2];unfold dC;push_cast;rfl
 have f3:(g:Rat)*((dC a b c).c:Rat)=c*((kP a b c:Int):Rat):=by rw[k3,<-e3];unfold dC;push_cast;rfl
 refine⟨((kP a b c:Int):Rat)/(g:Rat),div_pos hD hg,fun p=>?_⟩;unfold aa.value aa.nor ah.dot;dsimp only;generalize ((dC a b c).a:Rat)=A at*;generalize ((dC a b c).b:Rat)=B at*;generalize ((dC a b c).c:Rat)=C at*;generalize ((kP a b c:Int):Rat)=D at*;generalize (g:Rat)=g at*;have hq:D/g*g=D:=by grind
 generalize D/g=q at*;subst hq;have:g*(A*p.x+B*p.y+C-q*(a*p.x+b*p.y+c))=0:=by grind
 have:=(fK.1 this).resolve_left (by grind);grind
def BS{c:Rat}(h: ¬(a=0/\b=0)):(dC a b c).ok:=Jq (CH h)
def ah.subQ(p q:ah):ah:=⟨p.x-q.x,p.y-q.y⟩
def bj(f:ah×ah):ah:=⟨-(f.2.y-f.1.y),f.2.x-f.1.x⟩
def H0(f:ah×ah)(u:ah):bI f.1 f.2 u=(bj f).dot u-(bj f).dot f.1:=by unfold bI bj ah.dot;dsimp only;grind
structure iD (V:List ah) (E:List (ah×ah)):Prop where
 ends: ∀f∈E,f.1∈V/\f.2∈V
 cvx: ∀f∈E,∀v∈V,0<=bI f.1 f.2 v
 cen: ∃u,∀f∈E,0<bI f.1 f.2 u
 hull: ∀n u:ah,(∀f∈E,0<=bI f.1 f.2 u)-> ∃v∈V,n.dot v<=n.dot u
def Cl(n p q:ah):n.dot (p.subQ q)=n.dot p-n.dot q:=by unfold ah.dot ah.subQ;dsimp only;grind
def Bh(l:aa)(p:ah):l.value p=l.nor.dot p+l.c:=rfl
def ayg{E:List (ah×ah)}(hB:iD V E){n:ah}{m:Rat}(h: ∀u,(∀f∈E,0<bI f.1 f.2 u)->m<=n.dot u): ∀v∈V,m<=n.dot v:=fun v hv=>by
 obtain⟨u,hu⟩:=hB.cen;apply Classical.byContradiction;intro k
 -- a point near to v
 have hk:n.dot v<m:=by grind
 have h0:=h u hu;have key: ∀t:Rat,0<t->t<=1->m<=n.dot v+t*(n.dot u-n.dot v):=fun t t0 t1=>by
  rw[<-H'];refine h _ fun f hf=>?_;rw[aGH];have a:=hB.cvx f hf v hv;have b:=di t0 (hu f hf);have c:=cI (show 0<=1-t by grind) a;grind
 generalize n.dot v=a at*;generalize n.dot u=b at*;have hd:0<b-a:=by grind
 have e:(m-a)/(2*(b-a))*(2*(b-a))=m-a:=by grind
 have q:=key ((m-a)/(2*(b-a))) (div_pos (by grind) (by grind)) ?_
 .generalize (m-a)/(2*(b-a))=t at*
  grind
 .generalize (m-a)/(2*(b-a))=t at*
  apply Classical.byContradiction;intro q;have:=di (show 0<t-1 by grind) (show 0<2*(b-a) by grind);grind
def VQ(hc:bC c){n:ah}{m:Rat}(h: ∀q,bt c q->m<=n.dot q): ∀q,gI c q->m<=n.dot q:=fun v hv=>by
 obtain⟨u,hu⟩:=hc.ne;apply Classical.byContradiction;intro k;have hk:n.dot v<m:=by grind
 have h0:=h u hu;have key: ∀t:Rat,0<t->t<=1->m<=n.dot v+t*(n.dot u-n.dot v):=fun t t0 t1=>by
  rw[<-H'];refine h _ fun s hs=>?_;rw[lg];have a:=hv s hs;have b:=di t0 (hu s hs);have c:=cI (show 0<=1-t by grind) a;grind
 generalize n.dot v=a at*;generalize n.dot u=b at*;have hd:0<b-a:=by grind
 have e:(m-a)/(2*(b-a))*(2*(b-a))=m-a:=by grind
 have q:=key ((m-a)/(2*(b-a))) (div_pos (by grind) (by grind)) ?_
 .generalize (m-a)/(2*(b-a))=t at*
  grind
 .generalize (m-a)/(2*(b-a))=t at*
  apply Classical.byContradiction;intro q;have:=di (show 0<t-1 by grind) (show 0<2*(b-a) by grind);grind
def wT(f:ah×ah)(p:ah):aa:=dC (-(bj f).x) (-(bj f).y) ((bj f).dot p-(bj f).dot f.1)
def QF{f:ah×ah}{u:ah}(h:0<bI f.1 f.2 u): ¬((bj f).x=0/\(bj f).y=0):=fun⟨h1,h2⟩=>by
 have e:bI f.1 f.2 u=(bj f).y*(u.y-f.1.y)+(bj f).x*(u.x-f.1.x):=by unfold bI bj;dsimp only;grind
 rw[e,h1,h2] at h;grind
def Fj{f:ah×ah}{u:ah}(h:0<bI f.1 f.2 u)(p q:ah):0<(wT f p).value q↔0<bI f.1 f.2 (p.subQ q):=by
 have hz:=QF h;obtain⟨g,g0,hg⟩:=wX (a:= -(bj f).x) (b:= -(bj f).y) (c:=(bj f).dot p-(bj f).dot f.1) (fun⟨h1,h2⟩=>hz ⟨by grind,by grind⟩);unfold wT;rw[hg,x6 g0,H0,Cl];have e: -(bj f).x*q.x+ -(bj f).y*q.y+((bj f).dot p-(bj f).dot f.1)=(bj f).dot p-(bj f).dot q-(bj f).dot f.1:=by unfold ah.dot;grind
 rw[e]
def U2{E:List (ah×ah)}(hB:iD V E)(hc:bC c)(h1: ∀s∈c,∃v∈V,(∀w∈V,s.l.nor.dot v<=s.l.nor.dot w)/\0<s.l.value p-s.l.nor.dot v)
  (h2: ∀f∈E,(∃M,∀q,gI c q->M<=(bj f).dot q)-> ∃q,gI c q/\0<(bj f).dot p-(bj f).dot q-(bj f).dot f.1): ∃q,bt c q/\ ∀f∈E,0<bI f.1 f.2 (p.subQ q):=by
 obtain⟨u0,hu0⟩:=hB.cen;obtain⟨q0,hq0⟩:=hc.ne;obtain⟨q,hq⟩:=ML _ ((c.map fun s=>s.l)++E.map fun f=>wT f p) rfl (by
  have cc: ∀l∈c.map (fun s:bw=>s.l),0<l.value q0:=fun l hl=>by obtain⟨s,hs,rfl⟩:=aT.1 hl;exact hq0 s hs
  have ee: ∀l∈E.map (fun f=>wT f p),0<l.value (p.subQ u0):=fun l hl=>by
   obtain⟨f,hf,rfl⟩:=aT.1 hl;rw[Fj (hu0 f hf),show p.subQ (p.subQ u0)=u0 by unfold ah.subQ;cases u0;simp only[ah.mk.injEq];constructor<;>grind];exact hu0 f hf
  -- one edge: some point of the cell is on its left
  have one: ∀l∈E.map (fun f=>wT f p),∃q,bt c q/\0<l.value q:=fun l hl=>by
   obtain⟨f,hf,rfl⟩:=aT.1 hl;apply Classical.byContradiction;intro k;have k2: ∀q,bt c q->(bj f).dot p-(bj f).dot f.1<=(bj f).dot q:=fun q hq=>by
    have: ¬0<(wT f p).value q:=fun h=>k ⟨q,hq,h⟩;rw[Fj (hu0 f hf),H0,Cl] at this;grind
   have k3:=VQ hc k2;obtain⟨q,hq,hv⟩:=h2 f hf ⟨_,k3⟩;have:=k3 q hq;grind
  -- one side: some point of the moved polygon is on its left
  have two: ∀l∈c.map (fun s:bw=>s.l),∃u,(∀f∈E,0<bI f.1 f.2 u)/\0<l.value (p.subQ u):=fun l hl=>by
   obtain⟨s,hs,rfl⟩:=aT.1 hl;apply Classical.byContradiction;intro k;have k2: ∀u,(∀f∈E,0<bI f.1 f.2 u)->s.l.value p<=s.l.nor.dot u:=fun u hu=>by
    have: ¬0<s.l.value (p.subQ u):=fun h=>k ⟨u,hu,h⟩;rw[Bh,Cl] at this;rw[Bh];grind
   have k3:=ayg hB k2;obtain⟨v,hv,_,hp⟩:=h1 s hs;have:=k3 v hv;grind
  have emov: ∀l∈E.map (fun f=>wT f p),∀u,(∀f∈E,0<bI f.1 f.2 u)->0<l.value (p.subQ u):=fun l hl u hu=>by
   obtain⟨f,hf,rfl⟩:=aT.1 hl;rw[Fj (hu0 f hf),show p.subQ (p.subQ u)=u by unfold ah.subQ;cases u;simp only[ah.mk.injEq];constructor<;>grind];exact hu f hf
  have cin: ∀l∈c.map (fun s:bw=>s.l),∀q,bt c q->0<l.value q:=fun l hl q hq=>by obtain⟨s,hs,rfl⟩:=aT.1 hl;exact hq s hs
  intro a ha b hb d hd;rcases bJ.1 ha with ha|ha<;>rcases bJ.1 hb with hb|hb<;>rcases bJ.1 hd with hd|hd
  .exact⟨q0,cc a ha,cc b hb,cc d hd⟩
  .obtain⟨q,h,k⟩:=one d hd;exact⟨q,cin a ha q h,cin b hb q h,k⟩
  .obtain⟨q,h,k⟩:=one b hb;exact⟨q,cin a ha q h,k,cin d hd q h⟩
  .obtain⟨u,h,k⟩:=two a ha;exact⟨_,k,emov b hb u h,emov d hd u h⟩
  .obtain⟨q,h,k⟩:=one a ha;exact⟨q,k,cin b hb q h,cin d hd q h⟩
  .obtain⟨u,h,k⟩:=two b hb;exact⟨_,emov a ha u h,k,emov d hd u h⟩
  .obtain⟨u,h,k⟩:=two d hd;exact⟨_,emov a ha u h,emov b hb u h,k⟩
  .exact⟨_,ee a ha,ee b hb,ee d hd⟩)
 refine⟨q,fun s hs=>hq s.l (bS _ (dK hs)),fun f hf=>?_⟩;exact(Fj (hu0 f hf) p q).1 (hq _ (bY _ (dK hf)))
def Up{E:List (ah×ah)}(hB:iD V E){c:ao}{q u:ah}(hu: ∀f∈E,0<=bI f.1 f.2 u){n:ah}(hl: ∀v∈V,low<=n.dot v):low<=n.dot u:=by
 obtain⟨v,hv,h⟩:=hB.hull n u hu;have:=hl v hv;grind
def i5(n:ah):List ah->Rat
 |[]=>0
 |p::t=>t.foldl (fun b q=>if n.dot q<b then n.dot q else b) (n.dot p)
def RD{n:ah}: ∀(t:List ah) (b:Rat),(t.foldl (fun b q=>if n.dot q<b then n.dot q else b) b<=b/\ ∀q∈t,t.foldl (fun b q=>if n.dot q<b then n.dot q else b) b<=n.dot q)/\(t.foldl (fun b q=>if n.dot q<b then n.dot q else b) b=b\/ ∃q∈t,t.foldl (fun b q=>if n.dot q<b then n.dot q else b) b=n.dot q)
 |[],b=>⟨⟨iY,fun q hq=>by cases hq⟩, .inl J⟩
 |p::t,b=>by
  obtain⟨⟨h1,h2⟩,h3⟩:=RD t (if n.dot p<b then n.dot p else b);rw[iK];generalize t.foldl (fun b q=>if n.dot q<b then n.dot q else b) (if n.dot p<b then n.dot p else b)=z at*;refine⟨⟨by split at h1<;>grind,fun q hq=>?_⟩,?_⟩
  .rcases aW.1 hq with rfl|hq
   .split at h1<;>grind
   .exact h2 q hq
  .rcases h3 with h3|⟨q,hq,h3⟩
   .split at h3
    .exact .inr ⟨p,aQ,h3⟩
    .exact .inl h3
   .exact .inr ⟨q,aJ _ hq,h3⟩
def pf{n:ah}{l:List ah}(h:l≠[]):(∀q∈l,i5 n l<=n.dot q)/\ ∃q∈l,i5 n l=n.dot q:=by
 cases l with
 |nil=>exact absurd J h
 |cons p t=>
  obtain⟨⟨h1,h2⟩,h3⟩:=RD (n:=n) t (n.dot p);refine⟨fun q hq=>?_,?_⟩
  .rcases aW.1 hq with rfl|hq
   .exact h1
   .exact h2 q hq
  .rcases h3 with h3|⟨q,hq,h3⟩
   .exact⟨p,aQ,h3⟩
   .exact⟨q,aJ _ hq,h3⟩
def io(n:ah)(s:bw):Bool:=(s.v.nh&&decide (s.l.dir.dot n<0))||(s.v.nl&&decide (0<s.l.dir.dot n))
def tB(n:ah):ao->Bool
 |[s]=>decide (s.l.nor.dot n<0)
 |_=>false
def jj(c:ao):List ah:=(c.map fun s=>s.l.at s.v.sample)++gi (c.map (·.l))
def f7(c:ao)(n:ah):Option Rat:=if c.isEmpty||tB n c then none else if c.any (io n) then none else some (i5 n (jj c))
def AJ(hc:bC c)(ha:fq c)(hs:s∈c)(nh:s.v.nh=false):s.l.at s.v.hi∈gi (c.map (·.l)):=by
 obtain⟨i,hi,ei⟩:=List.getElem_of_mem hs;have h1:c[i]? =some s:=by rw[aZ hi,ei]
 obtain⟨w,hw⟩: ∃w,c[(i+1)%c.length]? =some w:=⟨_,aZ (dV _ (by omega))⟩;have mw:=aK hw;have hn:x9 (c.map fun s=>s.l.dir) s.l.dir w.l.dir:=N2 ha (by rw[cY,h1];rfl) (by rw[aX,cY,hw];rfl);obtain⟨k1,k2⟩:=Np hc hs mw hn nh;have hx:crossI s.l w.l≠0:=Iz ((nq _).2 k1);unfold gi;rw[iQ,aX];refine⟨i,kQ.2 hi,?_⟩;rw[qF (l:=s.l) (m:=w.l) (by rw[cY,h1];rfl) (by rw[aX,cY,hw];rfl),if_pos ((nq _).2 k1),aU];exact L2 hx (l7 (hc.ok s hs).ne _) k2
def ZG(s u:aa):s.nor.dot u.dir= -(u.nor.dot s.dir):=by unfold aa.nor aa.dir ah.dot;dsimp only;grind
def D4(hc:bC c)(ha:fq c)(hs:s∈c)(nl:s.v.nl=false):s.l.at s.v.lo∈gi (c.map (·.l)):=by
 obtain⟨u,hu,z1,z2⟩:=aCn hc hs nl;have hin:=((hc.edge s hs).2 _).1 (KM (hc.edge s hs).1 nl);obtain⟨t,ht⟩:=By (hc.ok u hu).ne z1;rw[ht] at hin;have hh:=((hc.edge u hu).2 t).2 hin;have no: ∀e:Rat,0<e-> ¬u.v.has (t+e):=fun e he k=>by
  have k:=((hc.edge u hu).2 _).1 k s hs;rw[Gb,<-ht,l7 (hc.ok s hs).ne,ZG] at k;have:=di he z2;grind
 have nh:u.v.nh=false:=by
  cases q:u.v.nh with
  |false=>rfl
  |true=>exact absurd ⟨hh.1.elim .inl fun k=> .inr (by grind), .inl q⟩ (no 1 (by decide))
 have e:t=u.v.hi:=by
  have h2:=hh.2.resolve_left (by rw[nh];simp);apply Classical.byContradiction;intro k;refine no (u.v.hi-t) (by grind) ⟨hh.1.elim .inl fun k=> .inr (by grind), .inr (by grind)⟩
 rw[ht,e];exact AJ hc ha hu nh
def Wm(hc:bC c)(ha:fq c): ∀q∈jj c,gI c q:=fun q hq=>by
 unfold jj at hq;rcases bJ.1 hq with hq|hq
 .obtain⟨s,hs,rfl⟩:=aT.1 hq
  exact(yg hc hs).1
 .unfold gi at hq
  rw[iQ,aX] at hq;obtain⟨i,hi,hq⟩:=hq;have hi:=kQ.1 hi;obtain⟨s,hs⟩: ∃s,c[i]? =some s:=⟨_,aZ hi⟩;obtain⟨w,hw⟩: ∃w,c[(i+1)%c.length]? =some w:=⟨_,aZ (dV _ (by omega))⟩;have ms:=aK hs;have mw:=aK hw;rw[qF (l:=s.l) (m:=w.l) (by rw[cY,hs];rfl) (by rw[aX,cY,hw];rfl)] at hq;split at hq
  .rename_i k
   have k1:=(nq _).1 k;rw[aU] at hq;subst hq;have hn:x9 (c.map fun s=>s.l.dir) s.l.dir w.l.dir:=N2 ha (by rw[cY,hs];rfl) (by rw[aX,cY,hw];rfl)
   -- the side ends, as the next one stops it
   have nh:s.v.nh=false:=by
    cases q:s.v.nh with
    |false=>rfl
    |true=>
     have:=H7 hc ms q w mw;rw[<-A3,wn] at this;grind
   obtain⟨_,k2⟩:=Np hc ms mw hn nh;have hx:crossI s.l w.l≠0:=Iz k;rw[<-L2 hx (l7 (hc.ok s ms).ne _) k2];exact((hc.edge s ms).2 _).1 (F0 (hc.edge s ms).1 nh)
  .cases hq
def AH{n u:ah}(h: ∀t:Rat,0<=t->gI c (cF p u t))(hn:n.dot u<0)(M:Rat): ∃q,gI c q/\n.dot q<M:=by
 by_cases k:n.dot p<M
 .refine⟨_,h 0 iY,?_⟩
  rw[zd];grind
 .have e:(n.dot p-M)/ -(n.dot u)* -(n.dot u)=n.dot p-M:=by grind
  have e0:0<=(n.dot p-M)/ -(n.dot u):=(ig (s:=(n.dot p-M)/ -(n.dot u)) (k:= -(n.dot u)) (by grind)).1 (by rw[e];grind);refine⟨_,h ((n.dot p-M)/ -(n.dot u)+1) (by grind),?_⟩;rw[zd];generalize (n.dot p-M)/ -(n.dot u)=t at*;grind
def Ux(hc:bC c){n:ah}(hn: ¬(n.x=0/\n.y=0))(h:f7 c n=none)(M:Rat): ∃q,gI c q/\n.dot q<M:=by
 have hN:=Cw hn;have hneg:n.dot (bF n)<0:=by unfold ah.dot bF;dsimp only;grind
 unfold f7 at h;split at h
 .rename_i k
  rw[gQ] at k
  cases c with
  |nil=>exact AH (p:=⟨0,0⟩) (u:=bF n) (fun t _ s hs=>by cases hs) hneg M
  |cons s t=>
   rcases k with k|k
   .cases k
   .cases t with
    |cons _ _=>cases k
    |nil=>
     have k:=of_decide_eq_true (show decide (s.l.nor.dot n<0)=true from k);obtain⟨q,hq⟩:=hc.ne;refine AH (p:=q) (u:=bF n) (fun t ht w hw=>?_) hneg M;have e:=aU.1 hw;subst e;rw[jh];have a:=hq w hw;have e2:w.l.nor.dot (bF n)= -(w.l.nor.dot n):=by unfold ah.dot bF;dsimp only;grind
     have b:=cI ht (show 0<=w.l.nor.dot (bF n) by rw[e2];grind);grind
 .split at h
  .rename_i k
   obtain⟨s,hs,k⟩:=iJ.1 k;unfold io at k;rw[gQ,bV,bV,decide_eq_true_eq,decide_eq_true_eq] at k;have hh:=((hc.edge s hs).2 _).2 (yg hc hs).1;have e1:n.dot s.l.dir=s.l.dir.dot n:=by unfold ah.dot;grind
   have e2:n.dot (bF s.l.dir)= -(s.l.dir.dot n):=by unfold ah.dot bF;dsimp only;grind
   rcases k with⟨k1,k2⟩|⟨k1,k2⟩
   .refine AH (p:=s.l.at s.v.sample) (u:=s.l.dir) (fun t ht=>?_) (by rw[e1];exact k2) M
    rw[<-El];exact((hc.edge s hs).2 _).1 ⟨hh.1.elim .inl fun k=> .inr (by grind), .inl k1⟩
   .refine AH (p:=s.l.at s.v.sample) (u:=bF s.l.dir) (fun t ht=>?_) (by rw[e2];grind) M
    have e3:cF (s.l.at s.v.sample) (bF s.l.dir) t=s.l.at (s.v.sample+ -t):=by rw[El];unfold cF bF;simp only[ah.mk.injEq];constructor<;>grind
    rw[e3];exact((hc.edge s hs).2 _).1 ⟨.inl k1,hh.2.elim .inl fun k=> .inr (by grind)⟩
  .cases h
def CU(hc:bC c)(ha:fq c){n:ah}(hn: ¬(n.x=0/\n.y=0)){m:Rat}(h:f7 c n=some m):(∀q,gI c q->m<=n.dot q)/\ ∃q,gI c q/\n.dot q=m:=by
 have hN:=Cw hn;unfold f7 at h;split at h
 .cases h
 rename_i k1;split at h
 .cases h
 rename_i k2
 cases h
 have k1:c.isEmpty=false/\tB n c=false:=by simpa using k1
 have k2: ∀s∈c,io n s=false:=fun s hs=>by
  cases q:io n s with
  |false=>rfl
  |true=>exact absurd (iJ.2 ⟨s,hs,q⟩) k2
 have hne:jj c≠[]:=by
  unfold jj
  cases c with
  |nil=>cases k1.1
  |cons s t=>simp
 obtain⟨l1,q0,hq0,l2⟩:=pf (n:=n) hne;refine⟨?_,q0,Wm hc ha q0 hq0,l2.symm⟩;have side: ∀s∈c,∀q,s.l.value q=0->gI c q->i5 n (jj c)<=n.dot q:=fun s hs q hz hq=>by
  obtain⟨t,rfl⟩:=By (hc.ok s hs).ne hz;have hh:=((hc.edge s hs).2 t).2 hq;have ho:=k2 s hs;unfold io at ho;have e1:s.l.dir.dot n=n.dot s.l.dir:=by unfold ah.dot;grind
  rw[lT,e1] at ho;have f: ∀u,n.dot (s.l.at u)=n.dot (s.l.at 0)+u*n.dot s.l.dir:=fun u=>by rw[N' s.l u,zd]
  rcases jI (n.dot s.l.dir) with k|k|k
  .have:=l1 (s.l.at s.v.sample) (bS _ (dK (f:=fun s:bw=>s.l.at s.v.sample) hs))
   rw[f,k] at this⊢;grind
  .have nl:s.v.nl=false:=by
    cases q:s.v.nl with
    |false=>rfl
    |true=>rw[q,decide_eq_true k] at ho;exact absurd ho.2 (by simp)
   have:=l1 _ (bY _ (D4 hc ha hs nl));have h1:=hh.1.resolve_left (by rw[nl];simp);have h2:=cI (show 0<=t-s.v.lo by grind) (dQ k);rw[f] at this⊢;grind
  .have nh:s.v.nh=false:=by
    cases q:s.v.nh with
    |false=>rfl
    |true=>rw[q,decide_eq_true k] at ho;exact absurd ho.1 (by simp)
   have:=l1 _ (bY _ (AJ hc ha hs nh));have h1:=hh.2.resolve_left (by rw[nh];simp);have h2:=cI (show 0<=s.v.hi-t by grind) (show 0<= -n.dot s.l.dir by grind);rw[f] at this⊢;grind
 -- a point that moves until a side stops it
 have go: ∀p,gI c p-> ∀d:ah,n.dot d<=0->(∃u∈c,u.l.nor.dot d<0)->i5 n (jj c)<=n.dot p:=fun p hp d hd0 hex=>by
  by_cases hd:bt c p
  .obtain⟨u,hu,hk⟩:=hex
   have v0:=hd u hu;obtain⟨T,hT⟩: ∃T,T=u.l.value p/ -(u.l.nor.dot d):=⟨_,rfl⟩;have e:T* -(u.l.nor.dot d)=u.l.value p:=by rw[hT];generalize u.l.nor.dot d=z at*;grind
   have T0:0<T:=(f8 (k:= -(u.l.nor.dot d)) (by grind)).1 (by rw[e];exact v0);obtain⟨r,r0,r1,⟨s,ms,_,zs⟩,hC⟩:=GM (p:=cF p d T) hd ⟨u,hu,by rw[jh];grind⟩;have:=side s ms _ zs hC;rw[H',zd] at this;have:=cI r0 (cI (dQ T0) (show 0<= -(n.dot d) by grind));grind
  .have: ∃s∈c,¬0<s.l.value p:=by
    apply Classical.byContradiction;intro k;exact hd fun s hs=>Classical.byContradiction fun k2=>k ⟨s,hs,k2⟩
   obtain⟨s,hs,k⟩:=this;have:=hp s hs;exact side s hs p (by grind) hp
 intro p hp;by_cases q1: ∃u∈c,u.l.nor.dot (ie n)≠0
 .obtain⟨u,hu,k⟩:=q1
  have z:n.dot (ie n)=0:=by unfold ah.dot ie;grind
  rcases jI (u.l.nor.dot (ie n)) with k|h|h
  .contradiction
  .refine go p hp (bF (ie n)) ?_ ⟨u,hu,?_⟩
   .unfold ah.dot ie bF;dsimp only;grind
   .have:u.l.nor.dot (bF (ie n))= -(u.l.nor.dot (ie n)):=by unfold ah.dot bF;dsimp only;grind
    rw[this];grind
  .exact go p hp (ie n) (by rw[z];exact iY) ⟨u,hu,h⟩
 .have q1: ∀u∈c,u.l.nor.dot (ie n)=0:=fun u hu=>Classical.byContradiction fun k=>q1 ⟨u,hu,k⟩
  by_cases q2: ∃u∈c,0<u.l.nor.dot n
  .obtain⟨u,hu,k⟩:=q2
   have e: ∀z:ah,z.dot (bF n)= -(z.dot n):=fun z=>by unfold ah.dot bF;dsimp only;grind
   refine go p hp (bF n) ?_ ⟨u,hu,by rw[e];grind⟩;rw[e];unfold ah.dot;grind
  .exfalso
   have q3: ∀u∈c,u.l.nor.dot n<0:=fun u hu=>by
    have h1:=q1 u hu;have h2: ¬0<u.l.nor.dot n:=fun k=>q2 ⟨u,hu,k⟩;have h3:=mA (hc.ok u hu).ne;by_cases h4:u.l.nor.dot n=0
    .exfalso
     have e:(n.x*n.x+n.y*n.y)*(u.l.nor.dot u.l.nor)=(u.l.nor.dot n)*(u.l.nor.dot n)+(u.l.nor.dot (ie n))*(u.l.nor.dot (ie n)):=by unfold ah.dot ie;dsimp only;grind
     rw[h1,h4] at e;have:=di hN h3;grind
    .grind
   cases c with
   |nil=>cases k1.1
   |cons s t=>
    cases t with
    |nil=>
     have:=k1.2;unfold tB at this;have:=of_decide_eq_false this;exact this (q3 s aQ)
    |cons w t=>
     have hB:ek s.l.dir w.l.dir:=by
      unfold fq at ha;rw[bU,bU] at ha;exact(bL.1 ha).1 _ aQ
     have a1:=q3 s aQ;have a2:=q3 w (aJ _ aQ);have b1:=q1 s aQ;have b2:=q1 w (aJ _ aQ);have hz:s.l.dir.cross w.l.dir=0:=by
      have e:(n.x*n.x+n.y*n.y)*s.l.dir.cross w.l.dir=(s.l.nor.dot n)*(w.l.nor.dot (ie n))-(s.l.nor.dot (ie n))*(w.l.nor.dot n):=by unfold ah.dot ie ah.cross aa.dir aa.nor;dsimp only;grind
      rw[b1,b2] at e;have:(n.x*n.x+n.y*n.y)*s.l.dir.cross w.l.dir=0:=by grind
      exact(fK.1 this).resolve_left (by grind)
     have e: ∀l:aa,l.dir.cross (bF n)= -(l.nor.dot n):=fun l=>by rw[A3];unfold ah.dot bF;dsimp only;grind
     have hh:=Wz (DK (hc.ok s aQ)) (DK (hc.ok w (aJ _ aQ))) hz (z:=bF n) (by rw[e];grind) (by rw[e];grind);rcases hB with k|⟨_,k⟩
     .omega
     .rw[hz] at k;exact absurd k (by decide)
end Go.Sx
end
