import Derived.Test.YtjpdfobnjmflkaaGreatDoorMk17
set_option linter.all false
set_option maxHeartbeats 1000000
set_option maxRecDepth 100000
section
namespace Go.Sx
open Go Go.Proofs Tryz
variable {GB G G1:Gh}{C:aF}{n e len D:Nat}{Q0:Exit->Act->World->Prop}{fr fr':aC}{own' O:aI}{cf cf':Cf}{vc:List Prop}{ops:Array Oper}{r:List Oper}{K:List Kt}{lk:LK}{bk:BM}{a y b w2 w3 w4 low:Rat}{w w1:World}{P:Program}{σ α:Type}{p v p1 p2 p3 p4:ah}{g x fo:Operand}{gf f:FuncId}{caps out vs c1 c2:List Value}{ds ds1 ds2 l:List DV}{o:Oper}{fb:Func}{c:ao}{m pos:String}{dp d rv:DV}{pv z u:Value}{t ty' ty:TypeId}{s:bA}{dst:Option Nat}{af:Array Edge}{args:Array Operand}{tys:Array TypeId}{L:List aa}{V:List ah}
section
variable {own:aI}
def bH.later{ρ:NE}{ov:List aA}{a:Act}(r:bH GB C n lk bk ρ G ov a w)(h:bF (mr w G) [] G1 w1):bH GB C n lk bk ρ G1 ov a w1:=
 ⟨r.gb.trans h.gle,r.h.called h,r.sz,r.df,fun k f e=>by obtain⟨y,h1,h2⟩:=r.fx k f e;exact⟨y,h1,h2.up h.gle⟩,fun nm B e=>by obtain⟨os,h1,h2⟩:=r.bx nm B e;exact⟨os,h1.up h.gle,h2⟩,r.dj,r.fxd⟩
def Bo:List Nat->List DV->aC->aC
 |p::ps,d::ds,fr=>Bo ps ds ((p, .d d)::fr)
 |_,_,fr=>fr
def K8{ρ:NE}{G:Gh}: ∀{ps:List Nat} {ds:List DV} {ys tm:List Value} {fr:aC},IsLs G ds ys->(∀p∈ps,p<tm.length)->(∀k f,aO fr k=some f-> ∃y,tm[k]? =some y/\bP ρ G f y)->
  ((ps.zip ys).foldl (fun t e=>t.set e.1 e.2) tm).length=tm.length/\ ∀k f,aO (Bo ps ds fr) k=some f-> ∃y,((ps.zip ys).foldl (fun t e=>t.set e.1 e.2) tm)[k]? =some y/\bP ρ G f y
 |[],ds,ys,tm,fr,_,_,h=>⟨J,fun k f e=>h k f (by cases ds<;>exact e)⟩
 |p::ps,[],ys,tm,fr,hd,_,h=>by rw[ef.1 hd];exact⟨J,fun k f e=>h k f e⟩
 |p::ps,d::ds,ys,tm,fr,hd,hp,h=>by
  obtain⟨y,m,rfl,h1,h2⟩:=bi.1 hd;simp only[List.zip_cons_cons,iS,Bo];have:=K8 (ps:=ps) (ds:=ds) (ys:=m) (tm:=tm.set p y) (fr:=(p, .d d)::fr) h2 (fun q hq=>by rw[bQ];exact hp q (aJ _ hq)) fun k f e=>by
   rw[jP] at e;split at e
   .rename_i hk;subst hk;cases e
    exact⟨y,by rw[pY];rw[if_pos J,if_pos (hp k aQ)],h1⟩
   .rename_i hk
    obtain⟨u,h3,h4⟩:=h k f e;exact⟨u,by rw[pY];rw[if_neg (fun e=>hk e.symm)];exact h3,h4⟩
  rw[bQ] at this;exact this
def NH: ∀(l:List (Nat×Value)) (t:Array Value),(l.foldl (fun t e=>t.setIfInBounds e.1 e.2) t).toList=l.foldl (fun t e=>t.set e.1 e.2) t.toList
 |[],t=>rfl
 |e::l,t=>by simp only[iS];rw[NH l];simp
def FB:FX->Bool
 | .ov nm _=>Nat.ble 2000000 nm
 | .rw _=>false
 | .be .. =>false
 | .rs .. =>false
 | .bx .. =>false
 |_=>true
def Cc:aC->Bool
 |[]=>true
 |(_,f)::t=>FB f&&Cc t
def SO: ∀{fr:aC},Cc fr=true-> ∀k f,aO fr k=some f->FB f=true
 |[],_,k,f,e=>by cases e
 |(j,g)::t,h,k,f,e=>by
  simp only[Cc,bK] at h;rw[jP] at e;split at e
  .cases e;exact h.1
  .exact SO h.2 k f e
def N'(GB:Gh)(C:aF)(n:Nat)(fr:aC)(own:aI)(a:Act)(w:World):Prop:= ∃ρ G ov,bH GB C n (aO fr) (bt own) ρ G ov a w
def atR:av P GB C n Q0 fr own (.ex .normal (.ag (N' GB C n fr own)::K)):=⟨fun ρ G ov a w r=>⟨ρ,G,ov,r⟩⟩
def RQ(GB:Gh)(C:aF)(n:Nat)(p:Prop)(O:aI)(S:σ->aI)(q:σ->Prop):Exit->Act->World->Prop
 | .normal,a,w=>p/\ ∃ρ G ov,bH GB C n (fun _=>none) (bt O) ρ G ov a w
 | .ret,a,w=> ∃s,q s/\ ∃ρ G ov,bH GB C n (fun _=>none) (bt (S s)) ρ G ov a w
 |_,_,_=>False
def rq{p:Prop}{S:σ->aI}{q:σ->Prop}(hp:p)(hO:wk O own:=by repeat (first|exact trivial|refine And.intro J ?_)):av P GB C n (RQ GB C n p O S q) fr own (.ex .normal []):=
 ⟨fun ρ G ov a w r=>⟨hp,ρ,G,ov,r.mono (fun k x e=>by cases e) (ug hO)⟩⟩
def WR{p:Prop}{S:σ->aI}{q:σ->Prop}(s:σ)(hq:q s)(hO:wk (S s) own:=by repeat (first|exact trivial|refine And.intro J ?_)):av P GB C n (RQ GB C n p O S q) fr own (.ex .ret []):=
 ⟨fun ρ G ov a w r=>⟨s,hq,ρ,G,ov,r.mono (fun k x e=>by cases e) (ug hO)⟩⟩
def Jz{ps:Array Nat}{assign body:Code}{E:List (List DV)}(I:Nat->aI)(p:Nat->Prop)(S:σ->aI)(q:σ->Prop)(fr1:aC)
  (h0:Pb C)(hg:bh (aO fr) g=some (.d (.v (.func (.func gf) ⟨[]⟩ ⟨caps⟩))))(hIt:It GB P gf ds E)(hc:IsLs GB ds caps)
  (hfr:vo fr1 fr)(hfix:Cc fr1=true)(hO:wk (I 0) own)(hp:p 0)(hps: ∀e∈E,e.length=ps.size)(hpn:ps.toList.all (fun k=>Nat.blt k n)=true)(hn2:Nat.ble n 2000000=true)
  (round: ∀k e GB',E[k]? =some e->bI GB GB'->p k-> ∃fr2 own2,(∀C2,av P GB' C2 n (fun _ _ _=>False) (Bo ps.toList e fr1) (I k) (.code assign [.ag (N' GB' C2 n fr2 own2)]))/\ ∀C2,av P GB' C2 n (RQ GB' C2 n (p (k+1)) (I (k+1)) S q) fr2 own2 (.code body []))
  (after: ∀D,C.w0.heap.size<=D->(∀x∈C.ex,x.1≠D)->p E.length->av P GB (C.mk3 D) n Q0 fr1 (I E.length) (.ex .normal K))
  (early: ∀D s,C.w0.heap.size<=D->(∀x∈C.ex,x.1≠D)->q s->av P GB (C.mk3 D) n Q0 fr1 (S s) (.ex .ret K)):
  av P GB C n Q0 fr own (.code (.rangeFunc g ps assign body) K):=by
 refine⟨fun ρ0 G0 ov0 a w r=>?_⟩;rw[h0.rd];refine wpIn_rangeFunc fun fn _=>?_;obtain⟨y,hy,hy'⟩:=r.ev hg;rw[(aH (G:=G0)).1 hy'] at hy;have hev:=bB (cB a) hy
 let D:=w.heap.size
 let l:=w.heap.size+1
 let rec_:Loop:={state:= .ready,pending:=none,fn,tmps:=a.tmps,params:=ps,assign,body,defers:=D}
 let w2:=(w.alloc (.deferred (some []))).alloc (.loop rec_)
 let mk:Deferred:={target:= .collected D,args:= #[]}
 let fx1:Nat->Option Addr:=fun nm=>(ρ0 nm).a
 let C1:Loop->aF:=fun rc=>{C with ex:=(l, .loop rc)::(D, .deferred (some []))::C.ex,mks:=[mk],fx:=fx1}
 let a0:Act:={a with defers:=[mk]++a.defers}
 have hszD:C.w0.heap.size<=D:=r.h.size;have hlt: ∀x∈C.ex,x.1<D:=fun x hx=>ip (r.h.ext x hx).2;have hszl:C.w0.heap.size<=l:=Nat.le_succ_of_le hszD;have hnl: ∀x∈((D,Obj.deferred (some []))::C.ex:List (Nat×Obj)),x.1≠l:=fun x hx=>by
  rcases aW.1 hx with rfl|hx
  .show D≠D+1;omega
  .have:=hlt x hx;show x.1≠D+1;omega
 have ncl: ∀rc:Loop,HA (.loop rc):=fun rc _ _ _ h=>by cases h
 -- the slots of the loop, at any time
 have stat: ∀(ρ':NE) (G':Gh),bI G0 G'->(∀nm p,n<=nm->2000000<=nm->fx1 nm=some p->(ρ' nm).a=some p)-> ∀k f,aO fr1 k=some f-> ∃y,a.tmps[k]? =some y/\bP ρ' G' f y:=by
  intro ρ' G' hg' hf k f e;obtain⟨y,h1,h2⟩:=r.fx k f (vP hfr k f e);refine⟨y,h1,?_⟩;have hx:=SO hfix k f e
  cases f with
  |ov nm off=>
   obtain⟨b,h3,h4⟩:=h2;have h5:2000000<=nm:=by simpa[FB] using hx
   have h6:n<=2000000:=by simpa using hn2
   exact⟨b,hf nm _ (by omega) h5 h3,h4⟩
  |rw _=>cases hx
  |be _ _ _ _=>cases hx
  |rs _ _ _ _=>cases hx
  |bx _ _ _ _=>cases hx
  |_=>exact(h2.up hg').ren fun _ h=>by cases h
 let Jv:Nat->Gh->World->Prop:=fun k G' w'=>p k/\ ∃ρ ov,bH G0 (C1 rec_) n (aO fr1) (bt (I k)) ρ G' ov a0 w'
 let rcx:Loop:={rec_ with state:= .done,pending:=some .ret}
 let Jx:Gh->World->Prop:=fun G' w'=> ∃s,q s/\ ∃ρ ov,bH G0 (C1 rcx) n (aO fr1) (bt (S s)) ρ G' ov a0 w'
 have hsz0:a0.tmps.size=n:=r.sz;have hdf0:a0.defers=[mk]:=by show [mk]++a.defers=_;rw[r.df,h0.mks];rfl
 have H:Am G0 P l Jv Jx E:=by
  refine⟨fun k=>⟨fun G' w' ⟨_,ρ,ov,h⟩=>h.h.sub,fun G' w' G1 w1 ⟨h1,ρ,ov,h⟩ k=>⟨h1,ρ,ov,h.later k⟩⟩,⟨fun G' w' ⟨_,_,ρ,ov,h⟩=>h.h.sub,fun G' w' G1 w1 ⟨s,h1,ρ,ov,h⟩ k=>⟨s,h1,ρ,ov,h.later k⟩⟩,?_⟩;intro k e G' w' ys hE hgg ⟨hpk,ρ,ov,r1⟩ hys;have hrec:w'.heap[l]? =some (.loop rec_):=(r1.h.ext _ aQ).2;have hel:=hps e (aK hE);obtain⟨fr2,own2,hA,hB⟩:=round k e G' hE (r.gb.trans hgg) hpk;refine⟨_,_,_,_,run_yield hrec (by show ys.length=ps.size;rw[hys.len,hel]),roundIn_of_wpIn trivial ?_⟩
  let C2:aF:={C1 rec_ with mks:=[],rd:=some l}
  let tm:Array Value:=(ps.zip (⟨ys⟩:Array Value)).foldl (fun tmps (t,a)=>tmps.setIfInBounds t a) a.tmps
  have htm:tm.toList=(ps.toList.zip ys).foldl (fun t e=>t.set e.1 e.2) a.tmps.toList:=by
   simp only[tm];rw[<-rJ,Array.toList_zip];exact NH _ _
  have hfx0:=r1.fx;obtain⟨q1,q2⟩:=K8 (ρ:=ρ) (ps:=ps.toList) (tm:=a.tmps.toList) (fr:=fr1) hys (fun k hk=>by have:=dJ.1 hpn k hk;rw[kM,r.sz];simpa[kL] using this) fun k f e=>by
   obtain⟨y,h1,h2⟩:=hfx0 k f e;exact⟨y,by simpa using h1,h2⟩
  have hR0:bH G' C2 n (aO (Bo ps.toList e fr1)) (bt (I k)) ρ G' ov {tmps:=tm,defers:=[]} w':=by
   refine⟨bI.refl _,r1.h.ctx J J J (fun _ h=>h),?_,J,fun k f e=>?_,r1.bx,r1.dj,r1.fxd⟩
   .show tm.size=n
    rw[<-kM,htm,q1,kM,r.sz]
   .obtain⟨y,h1,h2⟩:=q2 k f e
    exact⟨y,by rw[<-htm] at h1;simpa using h1,h2⟩
  refine wpIn_mono ((hA C2).run ρ G' ov _ w' hR0) fun ex a1 w1 hex=>?_
  cases ex with
  |normal=>
   obtain⟨ρ2,G2,ov2,r2⟩:=hex;have hrec1:w1.heap[l]? =some (.loop rec_):=(r2.h.ext _ aQ).2;refine⟨_,run_beginRound hrec1 J,?_⟩
   let busy:Loop:={rec_ with state:= .busy}
   let C3:aF:={C1 busy with mks:=[],rd:=some l}
   have h3:bF C3 ov2 G2 (w1.putObj l (.loop busy)):=r2.h.putx aQ hszl (ncl _) J J J fun x hx=>by
    rcases aW.1 hx with rfl|hx
    .exact .inl J
    .exact .inr ⟨aJ _ hx,hnl x hx⟩
   refine wpIn_mono ((hB C3).run ρ2 G2 ov2 a1 (w1.putObj l (.loop busy)) ⟨r2.gb,h3,r2.sz,r2.df,r2.fx,r2.bx,r2.dj,r2.fxd⟩) fun ex a2 w3 hex=>?_
   cases ex with
   |normal=>
    obtain⟨hp1,ρ3,G3,ov3,r3⟩:=hex;have hrec3:w3.heap[l]? =some (.loop busy):=(r3.h.ext _ aQ).2;refine⟨_,_,run_endRound none hrec3,G3,r3.gb, .inl ⟨J,hp1,ρ3,ov3,hgg.trans r3.gb,?_,hsz0,hdf0,stat ρ3 G3 (hgg.trans r3.gb) r3.fxd,r3.bx,r3.dj,r3.fxd⟩⟩;exact r3.h.putx aQ hszl (ncl _) J J J fun x hx=>by
     rcases aW.1 hx with rfl|hx
     .exact .inl J
     .exact .inr ⟨aJ _ hx,hnl x hx⟩
   |ret=>
    obtain⟨s,hq,ρ3,G3,ov3,r3⟩:=hex;have hrec3:w3.heap[l]? =some (.loop busy):=(r3.h.ext _ aQ).2;refine⟨_,_,run_endRound (some .ret) hrec3,G3,r3.gb, .inr ⟨J,s,hq,ρ3,ov3,hgg.trans r3.gb,?_,hsz0,hdf0,stat ρ3 G3 (hgg.trans r3.gb) r3.fxd,r3.bx,r3.dj,r3.fxd⟩⟩;exact r3.h.putx aQ hszl (ncl _) J J J fun x hx=>by
     rcases aW.1 hx with rfl|hx
     .exact .inl J
     .exact .inr ⟨aJ _ hx,hnl x hx⟩
   |exit id=>exact hex.elim
   |goto t=>exact hex.elim
   |panic ch=>exact hex.elim
   |outgrown=>exact hex.elim
  |exit id=>exact hex.elim
  |goto t=>exact hex.elim
  |ret=>exact hex.elim
  |panic ch=>exact hex.elim
  |outgrown=>exact hex.elim
 have hC1:bF (C1 rec_) ov0 G0 w2:=by
  have h1:bF {C with ex:=(D, .deferred (some []))::C.ex} ov0 G0 (w.alloc (.deferred (some []))):=r.h.addx (fun _ _ _ h=>by cases h) J J J fun x hx=>aW.1 hx;refine h1.addx (ncl rec_) J J J fun x hx=>?_;rcases aW.1 hx with rfl|hx
  .exact .inl (by show((l,Obj.loop rec_):Nat×Obj)=_;rw[show(w.alloc (.deferred (some []))).heap.size=w.heap.size+1 by simp])
  .exact .inr hx
 have hJ0:Jv 0 G0 w2:=⟨hp,ρ0,ov0,bI.refl _,hC1,hsz0,hdf0,stat ρ0 G0 (bI.refl _) (fun _ _ _ _ h=>h),fun nm B e=>r.bx nm B (ug hO nm B e),fun nm nm' B B' e e'=>r.dj nm nm' B B' (ug hO nm B e) (ug hO nm' B' e'),fun _ _ _ _ h=>h⟩;refine⟨l,[mk],w2,{target:= .fn (.func gf) ⟨caps⟩,args:= #[.func (.yield l) #[] #[]]},w2,gf, #[.func (.yield l) #[] #[]]++⟨caps⟩,w2,run_enterLoop_outer fn a.tmps ps assign body,?_,fun _ _=>trivial,?_,fun h=>(by cases h),?_⟩
 .have he:(⟨[]⟩:Array Value)++Array.map a.eval #[.const (.func (.yield l) #[] #[])]= #[.func (.yield l) #[] #[]]:=by
   apply Array.ext';rw[Array.toList_append,pT];rfl
  simp only[resolve,hev,Deferred.ofValue];rw[he];rfl
 .simp only[invoke]
  exact IL hIt.able _ _
 refine CallsIn.mono (show CallsIn (FW none) 0 P gf _ w2 _ from by
  have:=hIt.run l Jv Jx G0 r.gb H w2 caps hJ0 (hc.up r.gb);rw[show(#[Value.func (.yield l) #[] #[]]++(⟨caps⟩:Array Value))=⟨.func (.yield l) #[] #[]::caps⟩ by simp];exact this) fun e w3 he=>?_
 obtain⟨G',hgg,⟨v,rfl⟩,hj⟩:=he;have fin: ∀(rc:Loop) (O:aI) (ρ:NE) (ov:List aA),bH G0 (C1 rc) n (aO fr1) (bt O) ρ G' ov a0 w3->bH GB (C.mk3 D) n (aO fr1) (bt O) ρ G' ov a0 (w3.putObj l (.loop {rc with state:= .exhausted})):=fun rc O ρ ov r3=>
  ⟨r.gb.trans r3.gb,r3.h.putx aQ hszl (ncl _) J J J fun x hx=> .inr ⟨aJ _ hx,hnl x hx⟩,r3.sz,r3.df,r3.fx,r3.bx,r3.dj,fun nm p _ _ e=>by rw[show(C.mk3 D).fx=fun _=>none from h0.fx] at e;cases e⟩
 have hxD: ∀x∈C.ex,x.1≠D:=fun x hx e=>by have:=hlt x hx;omega
 rcases hj with⟨hpn,ρ,ov,r3⟩|⟨s,hq,ρ,ov,r3⟩
 .have hrec3:w3.heap[l]? =some (.loop rec_):=(r3.h.ext _ aQ).2
  have:=(after D hszD hxD hpn).run ρ G' ov a0 _ (fin rec_ _ ρ ov r3);rw[show(C.mk3 D).rd=none from h0.rd] at this;exact⟨_,_,run_endLoop hrec3 (by simp[rec_]),this⟩
 .have hrec3:w3.heap[l]? =some (.loop rcx):=(r3.h.ext _ aQ).2
  have:=(early D s hszD hxD hq).run ρ G' ov a0 _ (fin rcx _ ρ ov r3);rw[show(C.mk3 D).rd=none from h0.rd] at this;exact⟨_,_,run_endLoop hrec3 (by simp[rcx]),wpIn_ret this⟩
end
section
variable {own:aI}
def FL(GB:Gh)(P:Program)(f:FuncId)(ds:List DV)(gf:FuncId)(dp:DV):Prop:=
 ∀G vs,bI GB G->IsLs G ds vs->Fn P f vs G fun v G'=> ∃pv,v= .func (.func gf) ⟨[]⟩ ⟨[pv]⟩/\Is G' dp pv
def B6(gf:FuncId)(dp:DV)(v:Value)(G':Gh):Prop:= ∃pv,v= .func (.func gf) ⟨[]⟩ ⟨[pv]⟩/\Is G' dp pv
def WL[fu:Fu]{c:Code}{m:Nat}(hf:prog.funcs[f]? =some fb)(hb:fb.body=some c)(hn:(fb.name== "runtime.NumGoroutine")=false)(hm:fb.ntmps=m)(hlen:Nat.ble ds.length m=true)
  (hgo:go tt m fu.n [] (rx 0 ds) [] (.code c [])=⟨vc,fr,own,cf⟩)(k: ∀C:aF,av prog GB C m (eg C prog fb (lB C (B6 gf dp))) fr own cf)
  (hv:autoParam (ak vc) cL._auto_1):FL GB prog f ds gf dp:=by
 intro G vs hg hvs;refine Fn.introR hf hb hn hm (by rw[hvs.len];exact hlen) fun C _ _ hrd hfx=>?_;intro a w rl;refine si hrd ?_;have h:=fB (GB:=GB) (C:=C) (Q0:=eg C prog fb (lB C (B6 gf dp))) hgo hv (k C);exact h.run (fun _=>⟨none,0,0⟩) G [] a w ⟨hg,rl.h,rl.sz,rl.df,(fun k f e=>ze hvs rl.fr k f e),(fun nm B e=>by cases e),(fun nm nm' B B' e=>by cases e),fun nm p _ _ e=>by rw[hfx] at e;cases e⟩
def U0{t:Nat}(hr:fb.results.toList=[.tmp t])(hl:aO fr t=some (.d (.v (.func (.func gf) ⟨[]⟩ ⟨[pv]⟩))))(hp:Is GB dp pv):av P GB C n (eg C P fb (lB C (B6 gf dp))) fr own (.ex .ret []):=by
 refine⟨fun ρ G ov a w r=>?_⟩;obtain⟨y,hy,hy'⟩:=r.ev (x:= .tmp t) hl;rw[(aH (G:=G)).1 hy'] at hy;exact zD (C:=C) (n:=n) (fr:=co a) (own:=ov) (G:=G) (K:=B6 gf dp) (by rw[hr];exact .tmp hy .nil) ⟨pv,J,hp.up r.gb⟩ a w ⟨r.h,r.sz,cB a,r.df⟩
def NA(fr:aC)(cf:Cf):Option (FuncId×Value):=match cI fr cf with
 |some ⟨_, .makeFunc (.func f) ⟨[]⟩ ⟨[x]⟩,_,_,_,_⟩=>match bh (b9 fr cf) x with
  |some (.d (.v pv))=>some (f,pv)
  |_=>none
 |_=>none
def WP[fu:Fu](h:NA fr cf=some (f,pv))(hgo:cH tt n fu.n fr own cf (.d (.v (.func (.func f) ⟨[]⟩ ⟨[pv]⟩))) [] []=⟨vc,fr',own',cf'⟩)(k:av prog GB C n Q0 fr' own' cf')
  (hv:autoParam (ak vc) cL._auto_1):av prog GB C n Q0 fr own cf:=by
 unfold NA at h;split at h<;>try (cases h;done)
 rename_i hh;split at h<;>cases h;rename_i hx;exact us hh (.x1 hx fun ρ G ov a w y _ r h1 h2=>by
  rw[(aH (G:=G)).1 h2] at h1;exact⟨_,(aH (G:=G)).2 J,JW (l1:=[]) (l2:=[pv]) J (by simp[h1])⟩) hgo hv k
def IX[fu:Fu]{d:Nat}{fr':Value->aC}{own':Value->aI}{cf':Value->Cf}{vc:Value->List Prop}(ha:w9 fr (.ops ops (o::r) K)=some (f,ds))(hdst:o.dst=some d)(hd:ce n (some d)=true)(hF:FL GB prog f ds gf dp)
  (hgo: ∀pv,go tt n fu.n [] ((d, .d (.v (.func (.func gf) ⟨[]⟩ ⟨[pv]⟩)))::fr) own (.ops ops r K)=⟨vc pv,fr' pv,own' pv,cf' pv⟩)
  (k: ∀GB' pv,bI GB GB'->Is GB' dp pv->av prog GB' C n Q0 (fr' pv) (own' pv) (cf' pv))
  (hv: ∀pv,ak (vc pv):=by intros;first|exact trivial|(simp only[ak];kernel_rfl)|(simp only[ak];omega)):av prog GB C n Q0 fr own (.ops ops (o::r) K):=by
 unfold w9 at ha;split at ha<;>try (cases ha;done)
 rename_i fo args tys ty pos af gd hh;obtain⟨ops0,h1,h2⟩:=HH hh
 cases h1
 cases hdst
 obtain⟨c1,c2⟩:=D1 ha;refine⟨fun ρ G ov a w rl=>?_⟩;obtain⟨y,hy,hy'⟩:=rl.ev c1;rw[(aH (G:=G)).1 hy'] at hy;obtain⟨vs,h3,h4⟩:=rl.evDs c2;simp only[wpListIn];rw[if_pos (CW h2 ρ G ov a w rl)];refine Jg (K':=fun a' w'=>a'.defers=C.mks/\wpListIn (FW C.rd) 0 prog ops (cQ C.rd prog Q0 K) r a' w') (fun Q=>?_) (fun a' w' q=>⟨q.1.trans rl.df.symm,q.2⟩);refine zC hy h3 (hF G vs rl.gb h4) hd (fun v G' hG hK a' w' rel=>?_) a w Q ⟨rl.h,rl.sz,cB a,rl.df⟩;obtain⟨pv,rfl,hpv⟩:=hK;refine⟨rel.df,?_⟩;have:=fB (GB:=G') (C:=C) (Q0:=Q0) (hgo pv) (hv pv) (k G' pv (rl.gb.trans hG.le) hpv);refine this.run ρ G' ov a' w' ⟨bI.refl _,rel.h,rel.sz,rel.df,fun j g e=>?_,fun nm B e=>by obtain⟨os,h5,h6⟩:=rl.bx nm B e;exact⟨os,h5.up hG.le,h6⟩,rl.dj,rl.fxd⟩;have e':d8 (aO fr) (some d) (.d (.v (.func (.func gf) ⟨[]⟩ ⟨[pv]⟩))) j=some g:=by
  rw[jP] at e;simp only[d8];split at e
  .rename_i hk;rw[if_pos hk];exact e
  .rename_i hk;rw[if_neg hk];exact e
 exact(jb rel).fx (fun k g _ e=>by obtain⟨u,h5,h6⟩:=rl.fx k g e;exact⟨u,h5,h6.up hG.le⟩) (show bP ρ G' (.d (.v (.func (.func gf) ⟨[]⟩ ⟨[pv]⟩))) _ from(aH (G:=G')).2 rfl) j g e'
end
section
variable {own:aI}
def NB{p q:Nat->Option (Nat×Nat)}(h: ∀i x,p i=some x->q i=some x): ∀(ps:List (Nat×Value)) (cs out:Array Value),Instr.fill p cs ps=some out->Instr.fill q cs ps=some out
 |[],cs,out,e=>e
 |(i,v)::ps,cs,out,e=>by
  simp only[Instr.fill] at e⊢;split at e
  .cases e
  .rename_i off size hp
   rw[h i _ hp];dsimp only;split at e
   .cases e
   .rename_i hc
    rw[if_neg hc];exact NB h ps _ _ e
def auv{fr:Fr}{own:List aA}{t s:Nat}{j:TypeInfo}{parts:Array (Nat×Operand)}{gd:Option (Nat×Bool)}[hz:gj P t z](hu:P.underlying t=some (.array len e))(hj:P.info? e=some j)(hs:j.size=s)
  (hb:uJ fr ((List.range len).map fun i=>(i*s,s)) (aG z) parts.toList=some out):Yd P C fr own G ⟨dst, .build t parts,ty',pos,af,gd⟩ (.agg ⟨out⟩):=by
 intro a w hf hh;simp only[execOp];have:(Instr.build t (parts.map fun(i,x)=>(i,a.eval x))).run P w= .ok (.agg ⟨out⟩) w:=by
  unfold Instr.build;rw[aP (hz.zero w),oC];rw[aP (qk hu w)];simp only[];rw[aP (uC hj w),hs];have:=NB (q:=fun i=>some (i*s,s)) (fun i x hx=>by
   have hx':((List.range len).map fun i=>(i*s,s))[i]? =some x:=by simpa using hx
   rw[cR] at hx'
   cases hr:(List.range len)[i]? with
   |none=>rw[hr] at hx';cases hx'
   |some y=>
    rw[hr] at hx';cases hx';obtain⟨h1,h2⟩:=aR.1 hr;rw[List.getElem_range] at h2;rw[h2]) _ _ _ (JZ hf ((List.range len).map fun i=>(i*s,s)) parts.toList _ _ hb)
  simp only[pT,this];rfl
 exact c6 this
def EA:Nat->Nat->Nat->List (Nat×Nat×Nat)
 |_,0,_=>[]
 |i,k+1,s=>(i*s,0,s)::EA (i+1) k s
def NI: ∀(i k s:Nat),(EA i k s).map (fun x=>(x.1,x.2.2))=(List.range' i k).map fun j=>(j*s,s)
 |_,0,_=>rfl
 |i,k+1,s=>by simp only[EA,bU,List.range',NI (i+1) k s]
def Rn(fr:aC)(cf:Cf)(len s:Nat):Option (TypeId×FX):=match cI fr cf with
 |some ⟨_, .build t parts,_,_,_,_⟩=>match dO tt t with
  |some ⟨.o,_,some zx,_⟩=>match tB (b9 fr cf) (EA 0 len s) zx parts.toList with
   |some cs=>match xQ cs with
    |some f=>some (t,f)
    |none=>none
   |none=>none
  |_=>none
 |_=>none
def Vl[fu:Fu]{t s:Nat}{f:FX}(h:Rn fr cf len s=some (t,f))(hu:prog.underlying t=some (.array len e))(hs:(prog.info? e).map (·.size)=some s)
  (hgo:cH tt n fu.n fr own cf f [] []=⟨vc,fr',own',cf'⟩)(k:av prog GB C n Q0 fr' own' cf')
  (hv:autoParam (ak vc) cL._auto_1):av prog GB C n Q0 fr own cf:=by
 unfold Rn at h;split at h<;>try (cases h;done)
 rename_i hh;split at h<;>try (cases h;done)
 rename_i hT;split at h<;>try (cases h;done)
 rename_i hb;split at h<;>cases h;rename_i hf;refine us hh (.yd fun ρ G ov a w r=>?_) hgo hv k
 cases hj:prog.info? e with
 |none=>rw[hj] at hs;cases hs
 |some j=>
 rw[hj] at hs;obtain⟨v,hv,hv'⟩:=AO (et _ _ hT) rfl;obtain⟨l,h1,h2⟩:=DB r _ _ _ _ hb (hv' ρ G);rw[NI,<-List.range_eq_range'] at h1;exact⟨.agg ⟨l⟩,Jm h2 hf,auv hu hj (Option.some.inj hs) h1⟩
end
section
variable {own:aI}{gd:Option (Nat×Bool)}
def HU(t:TypeId):Prop:= ∀(x:Value) w,(Instr.makeInterface t x).run prog w= .ok (.iface t x) w
def C5(t:TypeId)(u:Value)(m:String)(f:FuncId):Prop:= ∀w,(method (prog.types.size+Made.depth) t u m).run prog w= .ok (f,u) w
def U'(ht:HU t)(hx:evD lk x=some d)(hd: ∀G y,Is G d y->y=u):b7 prog GB C n lk bk ⟨dst, .makeInterface t x,ty,pos,af,gd⟩ (.d (.v (.iface t u))) [] []:=
 b7.yd fun ρ G ov a w r=>by
  obtain⟨y,hy,hy'⟩:=r.evD hx;obtain rfl:=hd G y hy';refine⟨_,(aH (G:=G)).2 J,fun a' w' hf _=>?_⟩;refine c6 (f:=Next.value) ?_;rw[bB hf hy];exact ht _ _
def ata{fr:Fr}{a:Act}(hf:kB fr a)(hx:aB fr x=some (.iface t u))(hv:fi fr args.toList=some vs)(hm:C5 t u m f)(hc:rB prog f):
  (execOp a.eval ⟨dst, .call ⟨.invoke x m,args,tys⟩,ty,pos,af,gd⟩).run prog w= .ok (.enter f ⟨u::vs⟩) w:=by
 have e:args.map a.eval=⟨vs⟩:=by apply Array.ext';simpa using AI hf hv
 simp only[execOp,resolve,bB hf hx,e];show(invoke (.fn (.method m) #[]) (#[.iface t u]++⟨vs⟩)).run prog w=_;simp only[invoke];have h0:(#[Value.iface t u]++(⟨vs⟩:Array Value))[0]? =some (.iface t u):=by simp
 have h1:(#[Value.iface t u]++(⟨vs⟩:Array Value)).extract 1 (#[Value.iface t u]++(⟨vs⟩:Array Value)).size=⟨vs⟩:=by
  apply Array.ext';simp
 rw[h0,h1];show(callMethod (.iface t u) m ⟨vs⟩).run prog w=_;unfold callMethod;show((do
  let p<-program
  let(g,receiver)<-method (p.types.size+Made.depth) t u m
  callFunc g (#[receiver]++⟨vs⟩)):Sem Next).run prog w=_
 rw[aP (a:=prog) (w':=w) J,aP (hm w)];show(callFunc f (#[u]++⟨vs⟩)).run prog w=_;rw[IL hc];simp
def aFC(hx:bh lk x=some (.d (.v (.iface t u))))(ha:evDs lk args.toList=some ds)(hm:C5 t u m f)(hF:PF GB prog f (.v u::ds) rv):
  b7 prog GB C n lk bk ⟨dst, .call ⟨.invoke x m,args,tys⟩,ty,pos,af,gd⟩ (.d rv) [] []:=by
 intro hd tl tb K' s1 s2 hf hk;refine⟨fun ρ G ov a w r Q=>?_⟩;obtain⟨y,hy,hy'⟩:=(r.mono s1 s2).ev hx;rw[(aH (G:=G)).1 hy'] at hy;obtain⟨vs,h3,h4⟩:=(r.mono s1 s2).evDs ha;have hFn:=hF G (u::vs) r.gb (.cons (aH.2 J) h4);have h2:=ata (dst:=dst) (ty:=ty) (pos:=pos) (af:=af) (gd:=gd) (tys:=tys) (w:=w) (cB a) hy h3 hm hFn.able;simp only[Oper.wp,h2,Oper.upon];refine(hFn.run w r.h.sub).mono ?_;rintro e w' ⟨v,G',rfl,hh,hK⟩;have rl:gq C n (co a) ov G a w:=⟨r.h,r.sz,cB a,r.df⟩;have rl2:=(rl.heap (rl.h.called hh)).put v hd;exact hk.run ρ G' ov _ w' ⟨r.gb.trans hh.gle,rl2.h,rl2.sz,rl2.df,(jb rl2).fx (fun k g _ e=>by obtain⟨z,h5,h6⟩:=r.fx k g e;exact⟨z,h5,h6.up hh.gle⟩) hK,
  fun nm B e=>by obtain⟨os,h5,h6⟩:=r.bx nm B e;exact⟨os,h5.up hh.gle,h6⟩,r.dj,r.fxd⟩
def PG(fr:aC)(cf:Cf):Option (TypeId×DV):=match cI fr cf with
 |some ⟨_, .makeInterface t x,_,_,_,_⟩=>match evD (b9 fr cf) x with
  |some d=>some (t,d)
  |none=>none
 |_=>none
def mki[fu:Fu](u:Value)(ha:PG fr cf=some (t,d))(ht:HU t)(hd: ∀G y,Is G d y->y=u)(hgo:cH tt n fu.n fr own cf (.d (.v (.iface t u))) [] []=⟨vc,fr',own',cf'⟩)(k:av prog GB C n Q0 fr' own' cf')
  (hv:autoParam (ak vc) cL._auto_1):av prog GB C n Q0 fr own cf:=by
 unfold PG at ha;split at ha<;>try (cases ha;done)
 rename_i hh;split at ha<;>cases ha;rename_i hx;exact us hh (U' ht hx hd) hgo hv k
def LP(fr:aC)(cf:Cf):Option (String×TypeId×Value×List DV):=match cI fr cf with
 |some ⟨_, .call ⟨.invoke x m,args,_⟩,_,_,_,_⟩=>match bh (b9 fr cf) x with
  |some (.d (.v (.iface t u)))=>match evDs (b9 fr cf) args.toList with
   |some ds=>some (m,t,u,ds)
   |none=>none
  |_=>none
 |_=>none
def Z1[fu:Fu](ha:LP fr cf=some (m,t,u,ds))(hm:C5 t u m f)(hF:PF GB prog f (.v u::ds) rv)(hgo:cH tt n fu.n fr own cf (.d rv) [] []=⟨vc,fr',own',cf'⟩)(k:av prog GB C n Q0 fr' own' cf')
  (hv:autoParam (ak vc) cL._auto_1):av prog GB C n Q0 fr own cf:=by
 unfold LP at ha;split at ha<;>try (cases ha;done)
 rename_i hh;split at ha<;>try (cases ha;done)
 rename_i hx;split at ha<;>cases ha;rename_i hds;exact us hh (aFC hx hds hm hF) hgo hv k
def PF.arg0{e:DV}(h:PF GB prog f (d::ds) rv)(he: ∀G y,Is G e y->Is G d y):PF GB prog f (e::ds) rv:=fun G vs hg hvs=>by
 obtain⟨y,m,rfl,h1,h2⟩:=bi.1 hvs;exact h G _ hg (.cons (he G y h1) h2)
end
section
variable {own:aI}{gd:Option (Nat×Bool)}
def TG(h1:bh lk fo=some (.d (.v (.func (.func f) ⟨c1⟩ ⟨c2⟩))))(h2:evDs lk args.toList=some ds)(hc:IsLs GB ds1 c1)(hc2:IsLs GB ds2 c2)(hF:PF GB prog f (ds1++ds++ds2) rv):
  b7 prog GB C n lk bk ⟨dst, .call ⟨.value fo,args,tys⟩,ty,pos,af,gd⟩ (.d rv) [] []:=by
 intro hd tl tb K' s1 s2 hf hk;refine⟨fun ρ G ov a w r Q=>?_⟩;obtain⟨y,hy,hy'⟩:=(r.mono s1 s2).ev h1;rw[(aH (G:=G)).1 hy'] at hy;obtain⟨vs,h3,h4⟩:=(r.mono s1 s2).evDs h2;refine LU (c1:=c1) (c2:=c2) hy h3 (hF G (c1++vs++c2) r.gb (((hc.up r.gb).app h4).app (hc2.up r.gb))) hd (fun v G' hG hK a' w' rl=>?_) a w Q ⟨r.h,r.sz,cB a,r.df⟩;exact hk.run ρ G' ov a' w' ⟨r.gb.trans hG.le,rl.h,rl.sz,rl.df,(jb rl).fx (fun k g _ e=>by obtain⟨u,h5,h6⟩:=r.fx k g e;exact⟨u,h5,h6.up hG.le⟩) hK,
  fun nm B e=>by obtain⟨os,h5,h6⟩:=r.bx nm B e;exact⟨os,h5.up hG.le,h6⟩,r.dj,r.fxd⟩
def QF(fr:aC)(cf:Cf):Option (FuncId×List Value×List Value×List DV):=match cI fr cf with
 |some ⟨_, .call ⟨.value fo,args,_⟩,_,_,_,_⟩=>match bh (b9 fr cf) fo,evDs (b9 fr cf) args.toList with
  |some (.d (.v (.func (.func f) ⟨c1⟩ ⟨c2⟩))),some ds=>some (f,c1,c2,ds)
  |_,_=>none
 |_=>none
def cfw[fu:Fu](ha:QF fr cf=some (f,c1,c2,ds))(hc:IsLs GB ds1 c1)(hc2:IsLs GB ds2 c2)(hF:PF GB prog f (ds1++ds++ds2) rv)(hgo:cH tt n fu.n fr own cf (.d rv) [] []=⟨vc,fr',own',cf'⟩)(k:av prog GB C n Q0 fr' own' cf')
  (hv:autoParam (ak vc) cL._auto_1):av prog GB C n Q0 fr own cf:=by
 unfold QF at ha;split at ha<;>try (cases ha;done)
 rename_i hh;split at ha<;>cases ha;rename_i h1 h2;exact us hh (TG h1 h2 hc hc2 hF) hgo hv k
end
def JC(p q:ah):DV:= .ag [vI (du p.x),vI (dt p.x),di p.x,vI (du p.y),vI (dt p.y),di p.y,vI (du q.x),vI (dt q.x),di q.x,vI (du q.y),vI (dt q.y),di q.y]
def Xv{own:aI}(k:Nat)(hl:aO fr k=some (.d (.pt l)))(h:av prog GB C n Q0 ((k, .ep l)::fr) own (.ops ops r K)):av prog GB C n Q0 fr own (.ops ops r K):=
 mo hl (fun ρ G y hy=>by
  obtain⟨b,m,rfl,h1,h2⟩:=lA.1 hy;have e:=h2.len;exact⟨b,0,m,m,J,h1,by rw[kH m 0 l.length (by omega),iX,<-e,cS],h2⟩) h
def b8(v:List ah):List (ah×ah):=(List.range v.length).map fun i=>(v.getD i ⟨0,0⟩,v.getD ((i+1)%v.length) ⟨0,0⟩)


def E6(l:List ah):cE 6 (l.map eP):=fun d hd=>by
 obtain⟨x,_,rfl⟩:=aT.1 hd;exact⟨J,J⟩
def IR: ∀L:List aa,(L.flatMap fun l=>[l.dir,dh l.dir]).length=2*L.length
 |[]=>rfl
 |l::L=>by
  have:=IR L;rw[lZ,aY,this];simp only[bZ,eY];omega
theorem Y5(hb: ∀l∈L,LB l): ∀d∈L.flatMap (fun l=>[l.dir,dh l.dir]),aD d 97:=fun d hd=>by
 obtain⟨l,h1,h2⟩:=iQ.1 hd;haveI:=hb l h1;simp only[aW,fK,or_false] at h2;rcases h2 with rfl|rfl
 .infer_instance
 .have:aD l.dir 97:=inferInstance
  exact⟨inferInstanceAs (BQ (-l.dir.x) 97),inferInstanceAs (BQ (-l.dir.y) 97)⟩
def aDm(hb: ∀l∈L,LB l)(hn:L.length<=100000):PF GB prog 72 [.sl (L.map eL)] (.sl ((gh L).map eP)):=by
 have hml:(L.map eL).length=L.length:=aX ..;refine fn (fu:=⟨15⟩) func72 J J ntmps72 J J (fun C=>?_);refine aj 10 (.d (vI (L.length:Nat))) J (by rw[hml]<;>rfl)<|gx J<|nr 3 3 53 6 J J J<|lp (X:=List ah×Nat) (fun⟨acc,k⟩=>[(11, .d (vI (k:Nat))),(3, .rw 3)]) (fun⟨acc,k⟩=>[(3,some (.b 53 6 (acc.map eP) true))]) (fun⟨acc,k⟩=>acc=(List.range k).flatMap (ql L)/\k<=L.length) (fun⟨acc,k⟩=>L.length-k) ⟨[],0⟩ J ⟨J,aM _⟩ (fun _=>J) (fun⟨acc,k⟩ hk=>?_)
 try dsimp only at hk⊢
 obtain⟨h1,h2⟩:=hk;have hal:=CN L k;rw[<-h1] at hal;have ham:(acc.map eP).length=acc.length:=aX ..;refine br J J J (fun hc12=>?_) (fun hc12=>?_)
 .
  obtain⟨l,hx⟩: ∃u,L[k]? =some u:=⟨_,aZ (by omega)⟩;obtain⟨m,hw⟩: ∃w,L[(k+1)%L.length]? =some w:=⟨_,aZ (dK _ (by omega))⟩;haveI:=hb l (aK hx);haveI:=hb m (aK hw);refine ix (fu:=⟨13⟩) _ J (cg hx) J<|aj 20 (.d (vI (L.length:Nat))) J (by rw[hml]<;>rfl)<|gx (fu:=⟨1⟩) J<|aj 21 (.d (vI (((k+1)%L.length:Nat):Int))) J J<|gx J<|ix _ J (cg hw) J<|cl J (iu (l:=l)) J<|cl J (iu (l:=m)) J<|cl J (pC (p:=l.dir) (q:=m.dir) (i:=97) (j:=97)) J<|cl J (mE (q:=l.dir.cross m.dir)) J<|br J J J (fun hc30=>?_) (fun hc30=>?_)
  .
   refine cl J (CF (l:=l) (m:=m)) J<|rf J J<|ap ((acc++[cP l m]).map eP) J (by rw[aL]<;>rfl) (E6 [cP l m]) J<|d6 40 3 J<|at_ ⟨acc++[cP l m],k+1⟩ (by dsimp only;exact⟨⟨by rw[Bi,rC hx hw,if_pos hc30,<-h1],by omega⟩,(by omega)⟩)
  .
   exact at_ ⟨acc,k+1⟩ (by dsimp only;exact⟨⟨by rw[Bi,rC hx hw,if_neg hc30,<-h1,fW],by omega⟩,(by omega)⟩)
 .
  have hS:gh L=acc:=by unfold gh;rw[h1,show k=L.length by omega]
  refine gp 3 J<|rz J (by rw[hS];rfl)
def aF6:PF GB prog 51 [eP p] (eP (dh p)):=by
 refine fn func51 J J ntmps51 J J (fun C=>?_);refine cl J nE J<|cl J nE J<|rz J J
def IQ{f:α->DV}{l:List α}{s:α}(h:l[0]? =some s):(l.map f)[(0:Int).toNat]? =some (f s):=by simp[h]
def I'(c:List aa):(gh c).length<=c.length:=CN c _
theorem Pi{c:List aa}(hb: ∀l∈c,LB l): ∀p∈gh c,aD p 1200:=fun p hp=>by
 obtain⟨l,hl,m,hm,rfl⟩:=TH hp;have:= @aD.imeet l m (hb l hl) (hb m hm);exact⟨this.x.mono (by decide),this.y.mono (by decide)⟩



theorem aD.mono{p:ah}{i j:Nat}(h:aD p i)(hj:i<=j:=by omega):aD p j:=⟨h.x.mono hj,h.y.mono hj⟩





def wN{P:aa->Prop}(hr: ∀l,P l->P l.rev): ∀{t:Tr} {c:ao} {x:Bool×ao},t.all P->(∀s∈c,P s.l)->x∈t.parts c-> ∀s∈x.2,P s.l
 | .leaf b,c,x,_,hc,h=>by
  rw[Tr.parts,aU] at h;subst h;exact hc
 | .node l u v,c,x,ht,hc,h=>by
  have cl: ∀k,P k-> ∀s∈bE c k,P s.l:=fun k hk s hs=>by
   unfold bE at hs;split at hs
   .rcases pO.1 hs with rfl|hs
    .exact hk
    .obtain⟨s0,g,_,rfl⟩:=r5.1 hs
     exact hc s0 g
   .exact hc s hs
  rw[Tr.parts] at h;rcases bJ.1 h with h|h
  .split at h
   .exact wN hr ht.2.1 (cl l ht.1) h
   .cases h
  .split at h
   .exact wN hr ht.2.2 (cl l.rev (hr l ht.1)) h
   .cases h
def P8{x y a b:Nat}(hx:x<=2^a)(hy:y<=2^b):x*y<=2^(a+b):=by
 rw[fZ];exact gL hx hy


def GP{own:aI}[fu:Fu](ha:w9 fr cf=some (f,ds))(hF:PF GB prog f ds (.v (.bool true)))(hgo:cH tt n fu.n fr own cf .tt [] []=⟨vc,fr',own',cf'⟩)(k:av prog GB C n Q0 fr' own' cf')
  (hv:autoParam (ak vc) cL._auto_1):av prog GB C n Q0 fr own cf:=by
 unfold w9 at ha;split at ha<;>try (cases ha;done)
 rename_i hh;exact us hh (b7.to (g:= .tt) (Lr ha hF) fun ρ G y hy=>(aH (G:=G)).1 hy) hgo hv k

def X3{u z:ah}(hu:u.half≠0)(hv:v.half≠0)(h0:u.cross v=0)(h1:0<u.cross z)(h2:0<v.cross z):u.half=v.half:=by
 have ex:v.x*(u.cross z)=u.x*(v.cross z):=by unfold ah.cross at*;grind
 have ey:v.y*(u.cross z)=u.y*(v.cross z):=by unfold ah.cross at*;grind
 have key: ∀{a b:Rat},a*(u.cross z)=b*(v.cross z)->(0<a↔0<b)/\(a=0↔b=0):=fun{a b} e=>by
  have k1:0<a*(u.cross z)↔0<a:=f8 h1;have k2:0<b*(v.cross z)↔0<b:=f8 h2;refine⟨by rw[<-k1,<-k2,e],fun h=>?_,fun h=>?_⟩
  .rw[h,Rat.zero_mul] at e
   rcases fJ.1 e.symm with q|q
   .exact q
   .grind
  .rw[h,Rat.zero_mul] at e
   rcases fJ.1 e with q|q
   .exact q
   .grind
 obtain⟨x1,x2⟩:=key ex;obtain⟨y1,y2⟩:=key ey;have:u.half=1↔v.half=1:=by rw[ow,ow,x1,y1,y2]
 rcases od hu with a|a<;>rcases od hv with b|b<;>omega
def IJ(n q p:ah)(e:Rat):n.dot (jv q p e)=n.dot q+e*(n.dot p-n.dot q):=by
 unfold ah.dot jv;grind
def wL(n q u:ah)(e:Rat):n.dot (cF q u e)=n.dot q+e*n.dot u:=by
 unfold ah.dot cF;grind
structure RX where
 ax:Rat
 ay:Rat
 ac:Rat
def RX.ev(g:RX)(p:ah):Rat:=g.ax*p.x+g.ay*p.y+g.ac
def Ec{x:Rat}(h: ¬(x=0/\y=0)):0<x*x+y*y:=by
 have h1:=Co x;have h2:=Co y;rcases j0 (x*x+y*y) with k|k|k
 .exfalso
  refine h ⟨?_,?_⟩
  .have:x*x=0:=by grind
   exact(fJ.1 this).elim id id
  .have:y*y=0:=by grind
   exact(fJ.1 this).elim id id
 .exact k
 .grind
def aCD{a b:ah}(h:a≠b): ¬(b.x-a.x=0/\b.y-a.y=0):=fun k=>h (by
 cases a;cases b
 simp only[ah.mk.injEq] at*;constructor<;>grind)
def div_pos(ha:0<a)(hb:0<b):0<a/b:=by
 have e:a/b*b=a:=by grind
 exact(f8 hb).1 (by rw[e];exact ha)
def Cy{a b:ZP}(h:a.q=b.q):a=b:=by
 have hx:(a.1:Rat)=(b.1:Rat):=congrArg ah.x h;have hy:(a.2:Rat)=(b.2:Rat):=congrArg ah.y h;exact Prod.ext (by exact_mod_cast hx) (by exact_mod_cast hy)
section
variable {rs:List (List ZP)}{fill:Int}{w:ah}{b c:Bool}
end
section
variable {ds:List ah}
end
def tz{c x z:Rat}(ha:0<=a)(hb:0<=b)(hc:0<=c)(hs:0<a+b+c)(hx:0<x)(hy:0<y)(hz:0<z):0<a*x+b*y+c*z:=by
 have h1:=cG ha (dQ hx);have h2:=cG hb (dQ hy);have h3:=cG hc (dQ hz);by_cases k1:0<a
 .have:=dd k1 hx;grind
 .by_cases k2:0<b
  .have:=dd k2 hy;grind
  .have:=dd (show 0<c by grind) hz;grind
def js(x:Rat):Rat:=if 0<x then x else 0
def uH(x:Rat):0<=js x:=by unfold js;split<;>grind
def Eg(x:Rat):js x-js (-x)=x:=by unfold js;split<;>split<;>grind
def CK(x:Rat):js x=0\/js (-x)=0:=by unfold js;split<;>split<;>grind
def Rv{x:Rat}(h:0<x):0<js x:=by unfold js;rw[if_pos h];exact h
def wg(w1 w2 w3 w4:Rat)(p1 p2 p3 p4:ah):ah:=⟨(w1*p1.x+w2*p2.x+w3*p3.x+w4*p4.x)*(w1+w2+w3+w4)⁻¹,(w1*p1.y+w2*p2.y+w3*p3.y+w4*p4.y)*(w1+w2+w3+w4)⁻¹⟩
def L3(l:aa){w1:Rat}(hs:0<w1+w2+w3+w4)(p1 p2 p3 p4:ah):(w1+w2+w3+w4)*l.value (wg w1 w2 w3 w4 p1 p2 p3 p4)=w1*l.value p1+w2*l.value p2+w3*l.value p3+w4*l.value p4:=by
 have e:(w1+w2+w3+w4)*(w1+w2+w3+w4)⁻¹=1:=Rat.mul_inv_cancel _ (by grind);unfold wg aa.value aa.nor ah.dot;dsimp only;generalize (w1+w2+w3+w4)⁻¹=i at*;grind
def TW(h:bG p1 p2 p3≠0): ∃r:ah,∀l:aa,((0<l.value p2/\0<l.value p3/\0<l.value p4)\/(0<l.value p1/\0<l.value p3/\0<l.value p4)\/(0<l.value p1/\0<l.value p2/\0<l.value p4)\/(0<l.value p1/\0<l.value p2/\0<l.value p3))->0<l.value r:=by
 obtain⟨u1,e1⟩: ∃u,u=bG p2 p3 p4:=⟨_,rfl⟩;obtain⟨u2,e2⟩: ∃u,u= -bG p1 p3 p4:=⟨_,rfl⟩;obtain⟨u3,e3⟩: ∃u,u=bG p1 p2 p4:=⟨_,rfl⟩;obtain⟨u4,e4⟩: ∃u,u= -bG p1 p2 p3:=⟨_,rfl⟩;have hz:u1+u2+u3+u4=0:=by rw[e1,e2,e3,e4];unfold bG;grind
 have hx:u1*p1.x+u2*p2.x+u3*p3.x+u4*p4.x=0:=by rw[e1,e2,e3,e4];unfold bG;grind
 have hy:u1*p1.y+u2*p2.y+u3*p3.y+u4*p4.y=0:=by rw[e1,e2,e3,e4];unfold bG;grind
 have h4:u4≠0:=by rw[e4];grind
 clear e1 e2 e3 e4 h;have s1:=Eg u1;have s2:=Eg u2;have s3:=Eg u3;have s4:=Eg u4;have a1:=uH u1;have a2:=uH u2;have a3:=uH u3;have a4:=uH u4;have b1:=uH (-u1);have b2:=uH (-u2);have b3:=uH (-u3);have b4:=uH (-u4);have z1:=CK u1;have z2:=CK u2;have z3:=CK u3;have z4:=CK u4;have c4:0<js u4+js (-u4):=by
  rcases j0 u4 with k|k|k
  .exact absurd k h4
  .have:=Rv k;grind
  .have:=Rv (show 0< -u4 by grind);grind
 generalize js u1=v1 at*;generalize js u2=v2 at*;generalize js u3=v3 at*;generalize js u4=v4 at*;generalize js (-u1)=w1 at*;generalize js (-u2)=w2 at*;generalize js (-u3)=w3 at*;generalize js (-u4)=w4 at*;have hS:v1+v2+v3+v4=w1+w2+w3+w4:=by grind
 have hp:0<v1+v2+v3+v4:=by grind
 have hX:v1*p1.x+v2*p2.x+v3*p3.x+v4*p4.x=w1*p1.x+w2*p2.x+w3*p3.x+w4*p4.x:=by
  rw[<-s1,<-s2,<-s3,<-s4] at hx;grind
 have hY:v1*p1.y+v2*p2.y+v3*p3.y+v4*p4.y=w1*p1.y+w2*p2.y+w3*p3.y+w4*p4.y:=by
  rw[<-s1,<-s2,<-s3,<-s4] at hy;grind
 refine⟨wg v1 v2 v3 v4 p1 p2 p3 p4,fun l hl=>?_⟩;have eq:wg v1 v2 v3 v4 p1 p2 p3 p4=wg w1 w2 w3 w4 p1 p2 p3 p4:=by unfold wg;rw[hX,hY,hS]
 have f1:=L3 l hp p1 p2 p3 p4;have f2:=L3 l (show 0<w1+w2+w3+w4 by grind) p1 p2 p3 p4;rw[<-eq] at f2;have fin:(0<v1*l.value p1+v2*l.value p2+v3*l.value p3+v4*l.value p4\/0<w1*l.value p1+w2*l.value p2+w3*l.value p3+w4*l.value p4)->0<l.value (wg v1 v2 v3 v4 p1 p2 p3 p4):=fun k=>by
  rcases k with k|k
  .exact(f8 hp).1 (by rw[Rat.mul_comm,f1];exact k)
  .exact(f8 (show 0<w1+w2+w3+w4 by grind)).1 (by rw[Rat.mul_comm,f2];exact k)
 apply fin;clear f1 f2 fin eq hX hY hx hy;generalize l.value p1=x1 at*;generalize l.value p2=x2 at*;generalize l.value p3=x3 at*;generalize l.value p4=x4 at*;rcases hl with⟨k1,k2,k3⟩|⟨k1,k2,k3⟩|⟨k1,k2,k3⟩|⟨k1,k2,k3⟩
 .rcases z1 with z|z
  .left;have:=tz a2 a3 a4 (by grind) k1 k2 k3;rw[z];grind
  .right;have:=tz b2 b3 b4 (by grind) k1 k2 k3;rw[z];grind
 .rcases z2 with z|z
  .left;have:=tz a1 a3 a4 (by grind) k1 k2 k3;rw[z];grind
  .right;have:=tz b1 b3 b4 (by grind) k1 k2 k3;rw[z];grind
 .rcases z3 with z|z
  .left;have:=tz a1 a2 a4 (by grind) k1 k2 k3;rw[z];grind
  .right;have:=tz b1 b2 b4 (by grind) k1 k2 k3;rw[z];grind
 .rcases z4 with z|z
  .left;have:=tz a1 a2 a3 (by grind) k1 k2 k3;rw[z];grind
  .right;have:=tz b1 b2 b3 (by grind) k1 k2 k3;rw[z];grind
def RO: ∀(n:Nat) (L:List aa),L.length=n->(∀a∈L,∀b∈L,∀d∈L,∃q:ah,0<a.value q/\0<b.value q/\0<d.value q)-> ∃q,f9 L q
 |0,L,hn,_=>⟨⟨0,0⟩,fun m hm=>by rw[cV hn] at hm;cases hm⟩
 |n+1,[],hn,_=>by cases hn
 |n+1,[a],_,h=>by
  obtain⟨q,h1,_⟩:=h a (by simp) a (by simp) a (by simp);exact⟨q,fun m hm=>by rw[aU.1 hm];exact h1⟩
 |n+1,[a,b],_,h=>by
  obtain⟨q,h1,h2,_⟩:=h a (by simp) b (by simp) b (by simp);exact⟨q,fun m hm=>by simp only[aW,fK,or_false] at hm;rcases hm with rfl|rfl<;>assumption⟩
 |n+1,[a,b,d],_,h=>by
  obtain⟨q,h1,h2,h3⟩:=h a (by simp) b (by simp) d (by simp);exact⟨q,fun m hm=>by simp only[aW,fK,or_false] at hm;rcases hm with rfl|rfl|rfl<;>assumption⟩
 |n+1,a::b::d::e::L,hn,h=>by
  have sub: ∀M:List aa,M.length=n->(∀m∈M,m∈a::b::d::e::L)-> ∃q,f9 M q:=fun M hM hs=>RO n M hM fun x hx y hy z hz=>h x (hs x hx) y (hs y hy) z (hs z hz);simp only[bZ] at hn;obtain⟨p1,q1⟩:=sub (b::d::e::L) (by simp only[bZ];omega) (fun m hm=>by simp only[aW] at hm⊢;grind);obtain⟨p2,q2⟩:=sub (a::d::e::L) (by simp only[bZ];omega) (fun m hm=>by simp only[aW] at hm⊢;grind);obtain⟨p3,q3⟩:=sub (a::b::e::L) (by simp only[bZ];omega) (fun m hm=>by simp only[aW] at hm⊢;grind);obtain⟨p4,q4⟩:=sub (a::b::d::L) (by simp only[bZ];omega) (fun m hm=>by simp only[aW] at hm⊢;grind);by_cases e12:p1=p2
  .refine⟨p1,fun m hm=>?_⟩
   rcases aW.1 hm with rfl|hm
   .rw[e12];exact q2 m (by simp)
   .exact q1 m hm
  .have hN:=Ec (aCD e12)
   obtain⟨p3',q3',ho⟩: ∃p3',f9 (a::b::e::L) p3'/\bG p1 p2 p3'≠0:=by
    by_cases k:bG p1 p2 p3=0
    .obtain⟨ep,he,hm⟩:=q3.open ⟨-(p2.y-p1.y),p2.x-p1.x⟩
     refine⟨_,hm ep (dQ he) iW,?_⟩;have e:bG p1 p2 (cF p3 ⟨-(p2.y-p1.y),p2.x-p1.x⟩ ep)=bG p1 p2 p3+ep*((p2.x-p1.x)*(p2.x-p1.x)+(p2.y-p1.y)*(p2.y-p1.y)):=by unfold bG cF;dsimp only;grind
     rw[e,k];have:=dd he hN;grind
    .exact⟨p3,q3,k⟩
   obtain⟨r,hr⟩:=TW (p4:=p4) ho;refine⟨r,fun m hm=>hr m ?_⟩;simp only[aW] at hm;have i1:=q1 m;have i2:=q2 m;have i3:=q3' m;have i4:=q4 m;simp only[aW] at i1 i2 i3 i4;rcases hm with rfl|rfl|rfl|rfl|hm
   .exact .inl ⟨i2 (by simp),i3 (by simp),i4 (by simp)⟩
   .exact .inr (.inl ⟨i1 (by simp),i3 (by simp),i4 (by simp)⟩)
   .exact .inr (.inr (.inl ⟨i1 (by simp),i2 (by simp),i4 (by simp)⟩))
   .exact .inr (.inr (.inr ⟨i1 (by simp),i2 (by simp),i3 (by simp)⟩))
   .exact .inl ⟨i2 (by simp[hm]),i3 (by simp[hm]),i4 (by simp[hm])⟩
def QC(a:Rat):a*(a.den:Rat)=(a.num:Rat):=by
 have h:(a.num:Rat)/((a.den:Nat):Rat)=a:=by rw[<-nV];exact rM a
 have h0:((a.den:Nat):Rat)≠0:=by
  intro k;have:a.den=0:=by exact_mod_cast k
  exact a.den_nz this
 generalize (a.num:Rat)=n at*;generalize ((a.den:Nat):Rat)=d at*;rw[<-h];grind
def Ik{x:Int}(hD:0<D)(h:a*((D:Int):Rat)=(x:Rat)):a.num*(D:Int)=x*(a.den:Int):=by
 have e:((a.den:Int):Rat)*a=(a.num:Rat):=by
  have:=QC a;rw[Rat.mul_comm];exact this
 have k:(a.num:Rat)*((D:Int):Rat)=(x:Rat)*((a.den:Int):Rat):=by rw[<-e,<-h];grind
 exact_mod_cast k
def Qh{x y:Int}(hD:0<D)(ha:a*((D:Int):Rat)=(x:Rat))(hb:b*((D:Int):Rat)=(y:Rat)):rgcd a b*((D:Int):Rat)=(((Nat.gcd x.natAbs y.natAbs:Nat):Int):Rat):=by
 have h1:=Ik hD ha;have h2:=Ik hD hb;have n1:a.num.natAbs*D=x.natAbs*a.den:=by
  have:=congrArg Int.natAbs h1;rwa [fV,fV,fX,fX] at this
 have n2:b.num.natAbs*D=y.natAbs*b.den:=by
  have:=congrArg Int.natAbs h2;rwa [fV,fV,fX,fX] at this
 have hg:Nat.gcd (a.num.natAbs*b.den) (b.num.natAbs*a.den)*D=Nat.gcd x.natAbs y.natAbs*(a.den*b.den):=by
  rw[<-Nat.gcd_mul_right,<-Nat.gcd_mul_right];congr 1
  .rw[nW,n1,cW]
  .rw[nW,n2,cW,cK b.den a.den]
 unfold rgcd;generalize Nat.gcd (a.num.natAbs*b.den) (b.num.natAbs*a.den)=G at*;generalize Nat.gcd x.natAbs y.natAbs=g at*;have hpos:0<a.den*b.den:=jJ a.den_pos b.den_pos;have hq:((G:Int):Rat)*((D:Int):Rat)=((g:Int):Rat)*(((a.den*b.den:Nat):Int):Rat):=by exact_mod_cast hg
 generalize a.den*b.den=E at*;have h0:((E:Int):Rat)≠0:=fun k=>by
  have:(E:Int)=0:=by exact_mod_cast k
  omega
 have hm:mkRat ((G:Nat):Int) E*((E:Int):Rat)=((G:Int):Rat):=by
  have hz:((E:Nat):Rat)≠0:=h0;show mkRat ((G:Nat):Int) E*((E:Nat):Rat)=_;rw[nV];generalize ((E:Nat):Rat)=z at*;generalize ((G:Int):Rat)=y at*;grind
 generalize mkRat ((G:Nat):Int) E=r at*;rw[<-hm] at hq;generalize ((E:Int):Rat)=e at*;generalize ((D:Int):Rat)=d at*;have:e*(r*d-((g:Int):Rat))=0:=by grind
 have:=(fJ.1 this).resolve_left h0;grind
def k8(a b c:Rat):Nat:=a.den*(b.den*c.den)
def dC(a b c:Rat):aa:=my (a.num*(b.den*c.den:Nat)) (b.num*(a.den*c.den:Nat)) (c.num*(a.den*b.den:Nat))
def O1(a b c:Rat):0<k8 a b c:=jJ a.den_pos (jJ b.den_pos c.den_pos)
def GK(a:Rat)(k:Nat):a*(((a.den*k:Nat):Int):Rat)=((a.num*(k:Nat):Int):Rat):=by
 have e:=QC a;have:(((a.den*k:Nat):Int):Rat)=(a.den:Rat)*((k:Int):Rat):=by push_cast;rfl
 rw[this,cZ,<-Rat.mul_assoc,e]
def Ha(a b c:Rat):a*((k8 a b c:Int):Rat)=((a.num*(b.den*c.den:Nat):Int):Rat)/\b*((k8 a b c:Int):Rat)=((b.num*(a.den*c.den:Nat):Int):Rat)/\c*((k8 a b c:Int):Rat)=((c.num*(a.den*b.den:Nat):Int):Rat):=by
 refine⟨GK a _,?_,?_⟩
 .rw[show k8 a b c=b.den*(a.den*c.den) by unfold k8;rw[mT]];exact GK b _
 .rw[show k8 a b c=c.den*(a.den*b.den) by unfold k8;rw[<-cW,cK]];exact GK c _
def BR{c:Rat}(h: ¬(a=0/\b=0)): ¬(a.num*(b.den*c.den:Nat)=0/\b.num*(a.den*c.den:Nat)=0):=fun⟨h1,h2⟩=>by
 refine h ⟨?_,?_⟩
 .rcases pQ.1 h1 with k|k
  .exact mX.1 k
  .have:=jJ b.den_pos c.den_pos;omega
 .rcases pQ.1 h2 with k|k
  .exact mX.1 k
  .have:=jJ a.den_pos c.den_pos;omega
def xu{c:Rat}(h: ¬(a=0/\b=0)): ∃g:Rat,0<g/\(∀p:ah,(dC a b c).value p=g*(a*p.x+b*p.y+c)):=by
 obtain⟨g,g0,e1,e2,e3⟩:=UP (c:=c.num*(a.den*b.den:Nat)) (BR (c:=c) h);obtain⟨k1,k2,k3⟩:=Ha a b c;have hD:(0:Rat)<((k8 a b c:Int):Rat):=by
  have:=O1 a b c;exact_mod_cast (show(0:Int)<(k8 a b c:Int) by omega)
 have hg:(0:Rat)<(g:Rat):=by exact_mod_cast g0
 have f1:(g:Rat)*((dC a b c).a:Rat)=a*((k8 a b c:Int):Rat):=by rw[k1,<-e1];unfold dC;push_cast;rfl
 have f2:(g:Rat)*((dC a b c).b:Rat)=b*((k8 a b c:Int):Rat):=by rw[k2,<-e2];unfold dC;push_cast;rfl
 have f3:(g:Rat)*((dC a b c).c:Rat)=c*((k8 a b c:Int):Rat):=by rw[k3,<-e3];unfold dC;push_cast;rfl
 refine⟨((k8 a b c:Int):Rat)/(g:Rat),div_pos hD hg,fun p=>?_⟩;unfold aa.value aa.nor ah.dot;dsimp only;generalize ((dC a b c).a:Rat)=A at*;generalize ((dC a b c).b:Rat)=B at*;generalize ((dC a b c).c:Rat)=C at*;generalize ((k8 a b c:Int):Rat)=D at*;generalize (g:Rat)=g at*;have hq:D/g*g=D:=by grind
 generalize D/g=q at*;subst hq;have:g*(A*p.x+B*p.y+C-q*(a*p.x+b*p.y+c))=0:=by grind
 have:=(fJ.1 this).resolve_left (by grind);grind
def Ay{c:Rat}(h: ¬(a=0/\b=0)):(dC a b c).ok:=GN (BR h)
def ah.subQ(p q:ah):ah:=⟨p.x-q.x,p.y-q.y⟩
def bj(f:ah×ah):ah:=⟨-(f.2.y-f.1.y),f.2.x-f.1.x⟩
def I7(f:ah×ah)(u:ah):bG f.1 f.2 u=(bj f).dot u-(bj f).dot f.1:=by unfold bG bj ah.dot;dsimp only;grind
structure jr (V:List ah) (E:List (ah×ah)):Prop where
 ends: ∀f∈E,f.1∈V/\f.2∈V
 cvx: ∀f∈E,∀v∈V,0<=bG f.1 f.2 v
 cen: ∃u,∀f∈E,0<bG f.1 f.2 u
 hull: ∀n u:ah,(∀f∈E,0<=bG f.1 f.2 u)-> ∃v∈V,n.dot v<=n.dot u
def C7(n p q:ah):n.dot (p.subQ q)=n.dot p-n.dot q:=by unfold ah.dot ah.subQ;dsimp only;grind
def A5(l:aa)(p:ah):l.value p=l.nor.dot p+l.c:=rfl
def Wf{E:List (ah×ah)}(hB:jr V E){n:ah}{m:Rat}(h: ∀u,(∀f∈E,0<bG f.1 f.2 u)->m<=n.dot u): ∀v∈V,m<=n.dot v:=fun v hv=>by
 obtain⟨u,hu⟩:=hB.cen;apply Classical.byContradiction;intro k
 -- a point near to v
 have hk:n.dot v<m:=by grind
 have h0:=h u hu;have key: ∀t:Rat,0<t->t<=1->m<=n.dot v+t*(n.dot u-n.dot v):=fun t t0 t1=>by
  rw[<-IJ];refine h _ fun f hf=>?_;rw[Wm];have a:=hB.cvx f hf v hv;have b:=dd t0 (hu f hf);have c:=cG (show 0<=1-t by grind) a;grind
 generalize n.dot v=a at*;generalize n.dot u=b at*;have hd:0<b-a:=by grind
 have e:(m-a)/(2*(b-a))*(2*(b-a))=m-a:=by grind
 have q:=key ((m-a)/(2*(b-a))) (div_pos (by grind) (by grind)) ?_
 .generalize (m-a)/(2*(b-a))=t at*
  grind
 .generalize (m-a)/(2*(b-a))=t at*
  apply Classical.byContradiction;intro q;have:=dd (show 0<t-1 by grind) (show 0<2*(b-a) by grind);grind
def XO(hc:bC c){n:ah}{m:Rat}(h: ∀q,bu c q->m<=n.dot q): ∀q,gH c q->m<=n.dot q:=fun v hv=>by
 obtain⟨u,hu⟩:=hc.ne;apply Classical.byContradiction;intro k;have hk:n.dot v<m:=by grind
 have h0:=h u hu;have key: ∀t:Rat,0<t->t<=1->m<=n.dot v+t*(n.dot u-n.dot v):=fun t t0 t1=>by
  rw[<-IJ];refine h _ fun s hs=>?_;rw[lc];have a:=hv s hs;have b:=dd t0 (hu s hs);have c:=cG (show 0<=1-t by grind) a;grind
 generalize n.dot v=a at*;generalize n.dot u=b at*;have hd:0<b-a:=by grind
 have e:(m-a)/(2*(b-a))*(2*(b-a))=m-a:=by grind
 have q:=key ((m-a)/(2*(b-a))) (div_pos (by grind) (by grind)) ?_
 .generalize (m-a)/(2*(b-a))=t at*
  grind
 .generalize (m-a)/(2*(b-a))=t at*
  apply Classical.byContradiction;intro q;have:=dd (show 0<t-1 by grind) (show 0<2*(b-a) by grind);grind
def wC(f:ah×ah)(p:ah):aa:=dC (-(bj f).x) (-(bj f).y) ((bj f).dot p-(bj f).dot f.1)
def Ry{f:ah×ah}{u:ah}(h:0<bG f.1 f.2 u): ¬((bj f).x=0/\(bj f).y=0):=fun⟨h1,h2⟩=>by
 have e:bG f.1 f.2 u=(bj f).y*(u.y-f.1.y)+(bj f).x*(u.x-f.1.x):=by unfold bG bj;dsimp only;grind
 rw[e,h1,h2] at h;grind
def Ds{f:ah×ah}{u:ah}(h:0<bG f.1 f.2 u)(p q:ah):0<(wC f p).value q↔0<bG f.1 f.2 (p.subQ q):=by
 have hz:=Ry h;obtain⟨g,g0,hg⟩:=xu (a:= -(bj f).x) (b:= -(bj f).y) (c:=(bj f).dot p-(bj f).dot f.1) (fun⟨h1,h2⟩=>hz ⟨by grind,by grind⟩);unfold wC;rw[hg,w6 g0,I7,C7];have e: -(bj f).x*q.x+ -(bj f).y*q.y+((bj f).dot p-(bj f).dot f.1)=(bj f).dot p-(bj f).dot q-(bj f).dot f.1:=by unfold ah.dot;grind
 rw[e]
def aBJ{E:List (ah×ah)}(hB:jr V E)(hc:bC c)(h1: ∀s∈c,∃v∈V,(∀w∈V,s.l.nor.dot v<=s.l.nor.dot w)/\0<s.l.value p-s.l.nor.dot v)
  (h2: ∀f∈E,(∃M,∀q,gH c q->M<=(bj f).dot q)-> ∃q,gH c q/\0<(bj f).dot p-(bj f).dot q-(bj f).dot f.1): ∃q,bu c q/\ ∀f∈E,0<bG f.1 f.2 (p.subQ q):=by
 obtain⟨u0,hu0⟩:=hB.cen;obtain⟨q0,hq0⟩:=hc.ne;obtain⟨q,hq⟩:=RO _ ((c.map fun s=>s.l)++E.map fun f=>wC f p) rfl (by
  have cc: ∀l∈c.map (fun s:bA=>s.l),0<l.value q0:=fun l hl=>by obtain⟨s,hs,rfl⟩:=aT.1 hl;exact hq0 s hs
  have ee: ∀l∈E.map (fun f=>wC f p),0<l.value (p.subQ u0):=fun l hl=>by
   obtain⟨f,hf,rfl⟩:=aT.1 hl;rw[Ds (hu0 f hf),show p.subQ (p.subQ u0)=u0 by unfold ah.subQ;cases u0;simp only[ah.mk.injEq];constructor<;>grind];exact hu0 f hf
  -- one edge: some point of the cell is on its left
  have one: ∀l∈E.map (fun f=>wC f p),∃q,bu c q/\0<l.value q:=fun l hl=>by
   obtain⟨f,hf,rfl⟩:=aT.1 hl;apply Classical.byContradiction;intro k;have k2: ∀q,bu c q->(bj f).dot p-(bj f).dot f.1<=(bj f).dot q:=fun q hq=>by
    have: ¬0<(wC f p).value q:=fun h=>k ⟨q,hq,h⟩;rw[Ds (hu0 f hf),I7,C7] at this;grind
   have k3:=XO hc k2;obtain⟨q,hq,hv⟩:=h2 f hf ⟨_,k3⟩;have:=k3 q hq;grind
  -- one side: some point of the moved polygon is on its left
  have two: ∀l∈c.map (fun s:bA=>s.l),∃u,(∀f∈E,0<bG f.1 f.2 u)/\0<l.value (p.subQ u):=fun l hl=>by
   obtain⟨s,hs,rfl⟩:=aT.1 hl;apply Classical.byContradiction;intro k;have k2: ∀u,(∀f∈E,0<bG f.1 f.2 u)->s.l.value p<=s.l.nor.dot u:=fun u hu=>by
    have: ¬0<s.l.value (p.subQ u):=fun h=>k ⟨u,hu,h⟩;rw[A5,C7] at this;rw[A5];grind
   have k3:=Wf hB k2;obtain⟨v,hv,_,hp⟩:=h1 s hs;have:=k3 v hv;grind
  have emov: ∀l∈E.map (fun f=>wC f p),∀u,(∀f∈E,0<bG f.1 f.2 u)->0<l.value (p.subQ u):=fun l hl u hu=>by
   obtain⟨f,hf,rfl⟩:=aT.1 hl;rw[Ds (hu0 f hf),show p.subQ (p.subQ u)=u by unfold ah.subQ;cases u;simp only[ah.mk.injEq];constructor<;>grind];exact hu f hf
  have cin: ∀l∈c.map (fun s:bA=>s.l),∀q,bu c q->0<l.value q:=fun l hl q hq=>by obtain⟨s,hs,rfl⟩:=aT.1 hl;exact hq s hs
  intro a ha b hb d hd;rcases bJ.1 ha with ha|ha<;>rcases bJ.1 hb with hb|hb<;>rcases bJ.1 hd with hd|hd
  .exact⟨q0,cc a ha,cc b hb,cc d hd⟩
  .obtain⟨q,h,k⟩:=one d hd;exact⟨q,cin a ha q h,cin b hb q h,k⟩
  .obtain⟨q,h,k⟩:=one b hb;exact⟨q,cin a ha q h,k,cin d hd q h⟩
  .obtain⟨u,h,k⟩:=two a ha;exact⟨_,k,emov b hb u h,emov d hd u h⟩
  .obtain⟨q,h,k⟩:=one a ha;exact⟨q,k,cin b hb q h,cin d hd q h⟩
  .obtain⟨u,h,k⟩:=two b hb;exact⟨_,emov a ha u h,k,emov d hd u h⟩
  .obtain⟨u,h,k⟩:=two d hd;exact⟨_,emov a ha u h,emov b hb u h,k⟩
  .exact⟨_,ee a ha,ee b hb,ee d hd⟩)
 refine⟨q,fun s hs=>hq s.l (bR _ (dT hs)),fun f hf=>?_⟩;exact(Ds (hu0 f hf) p q).1 (hq _ (bV _ (dT hf)))
def ayS{E:List (ah×ah)}(hB:jr V E){c:ao}{q u:ah}(hu: ∀f∈E,0<=bG f.1 f.2 u){n:ah}(hl: ∀v∈V,low<=n.dot v):low<=n.dot u:=by
 obtain⟨v,hv,h⟩:=hB.hull n u hu;have:=hl v hv;grind
def i7(n:ah):List ah->Rat
 |[]=>0
 |p::t=>t.foldl (fun b q=>if n.dot q<b then n.dot q else b) (n.dot p)
def Rf{n:ah}: ∀(t:List ah) (b:Rat),(t.foldl (fun b q=>if n.dot q<b then n.dot q else b) b<=b/\ ∀q∈t,t.foldl (fun b q=>if n.dot q<b then n.dot q else b) b<=n.dot q)/\(t.foldl (fun b q=>if n.dot q<b then n.dot q else b) b=b\/ ∃q∈t,t.foldl (fun b q=>if n.dot q<b then n.dot q else b) b=n.dot q)
 |[],b=>⟨⟨iW,fun q hq=>by cases hq⟩, .inl J⟩
 |p::t,b=>by
  obtain⟨⟨h1,h2⟩,h3⟩:=Rf t (if n.dot p<b then n.dot p else b);rw[iS];generalize t.foldl (fun b q=>if n.dot q<b then n.dot q else b) (if n.dot p<b then n.dot p else b)=z at*;refine⟨⟨by split at h1<;>grind,fun q hq=>?_⟩,?_⟩
  .rcases aW.1 hq with rfl|hq
   .split at h1<;>grind
   .exact h2 q hq
  .rcases h3 with h3|⟨q,hq,h3⟩
   .split at h3
    .exact .inr ⟨p,aQ,h3⟩
    .exact .inl h3
   .exact .inr ⟨q,aJ _ hq,h3⟩
def oD{n:ah}{l:List ah}(h:l≠[]):(∀q∈l,i7 n l<=n.dot q)/\ ∃q∈l,i7 n l=n.dot q:=by
 cases l with
 |nil=>exact absurd J h
 |cons p t=>
  obtain⟨⟨h1,h2⟩,h3⟩:=Rf (n:=n) t (n.dot p);refine⟨fun q hq=>?_,?_⟩
  .rcases aW.1 hq with rfl|hq
   .exact h1
   .exact h2 q hq
  .rcases h3 with h3|⟨q,hq,h3⟩
   .exact⟨p,aQ,h3⟩
   .exact⟨q,aJ _ hq,h3⟩
def ir(n:ah)(s:bA):Bool:=(s.v.nh&&decide (s.l.dir.dot n<0))||(s.v.nl&&decide (0<s.l.dir.dot n))
def sG(n:ah):ao->Bool
 |[s]=>decide (s.l.nor.dot n<0)
 |_=>false
def jh(c:ao):List ah:=(c.map fun s=>s.l.at s.v.sample)++gh (c.map (·.l))
def fG(c:ao)(n:ah):Option Rat:=if c.isEmpty||sG n c then none else if c.any (ir n) then none else some (i7 n (jh c))
def AW(hc:bC c)(ha:fD c)(hs:s∈c)(nh:s.v.nh=false):s.l.at s.v.hi∈gh (c.map (·.l)):=by
 obtain⟨i,hi,ei⟩:=List.getElem_of_mem hs;have h1:c[i]? =some s:=by rw[aZ hi,ei]
 obtain⟨w,hw⟩: ∃w,c[(i+1)%c.length]? =some w:=⟨_,aZ (dK _ (by omega))⟩;have mw:=aK hw;have hn:xU (c.map fun s=>s.l.dir) s.l.dir w.l.dir:=OI ha (by rw[cR,h1];rfl) (by rw[aX,cR,hw];rfl);obtain⟨k1,k2⟩:=Ly hc hs mw hn nh;have hx:crossI s.l w.l≠0:=JH ((nj _).2 k1);unfold gh;rw[iQ,aX];refine⟨i,kQ.2 hi,?_⟩;rw[rC (l:=s.l) (m:=w.l) (by rw[cR,h1];rfl) (by rw[aX,cR,hw];rfl),if_pos ((nj _).2 k1),aU];exact OX hx (lE (hc.ok s hs).ne _) k2
def Y'(s u:aa):s.nor.dot u.dir= -(u.nor.dot s.dir):=by unfold aa.nor aa.dir ah.dot;dsimp only;grind
def DX(hc:bC c)(ha:fD c)(hs:s∈c)(nl:s.v.nl=false):s.l.at s.v.lo∈gh (c.map (·.l)):=by
 obtain⟨u,hu,z1,z2⟩:=aC5 hc hs nl;have hin:=((hc.edge s hs).2 _).1 (MK (hc.edge s hs).1 nl);obtain⟨t,ht⟩:=AB (hc.ok u hu).ne z1;rw[ht] at hin;have hh:=((hc.edge u hu).2 t).2 hin;have no: ∀e:Rat,0<e-> ¬u.v.has (t+e):=fun e he k=>by
  have k:=((hc.edge u hu).2 _).1 k s hs;rw[GA,<-ht,lE (hc.ok s hs).ne,Y'] at k;have:=dd he z2;grind
 have nh:u.v.nh=false:=by
  cases q:u.v.nh with
  |false=>rfl
  |true=>exact absurd ⟨hh.1.elim .inl fun k=> .inr (by grind), .inl q⟩ (no 1 (by decide))
 have e:t=u.v.hi:=by
  have h2:=hh.2.resolve_left (by rw[nh];simp);apply Classical.byContradiction;intro k;refine no (u.v.hi-t) (by grind) ⟨hh.1.elim .inl fun k=> .inr (by grind), .inr (by grind)⟩
 rw[ht,e];exact AW hc ha hu nh
def Tf(hc:bC c)(ha:fD c): ∀q∈jh c,gH c q:=fun q hq=>by
 unfold jh at hq;rcases bJ.1 hq with hq|hq
 .obtain⟨s,hs,rfl⟩:=aT.1 hq
  exact(yo hc hs).1
 .unfold gh at hq
  rw[iQ,aX] at hq;obtain⟨i,hi,hq⟩:=hq;have hi:=kQ.1 hi;obtain⟨s,hs⟩: ∃s,c[i]? =some s:=⟨_,aZ hi⟩;obtain⟨w,hw⟩: ∃w,c[(i+1)%c.length]? =some w:=⟨_,aZ (dK _ (by omega))⟩;have ms:=aK hs;have mw:=aK hw;rw[rC (l:=s.l) (m:=w.l) (by rw[cR,hs];rfl) (by rw[aX,cR,hw];rfl)] at hq;split at hq
  .rename_i k
   have k1:=(nj _).1 k;rw[aU] at hq;subst hq;have hn:xU (c.map fun s=>s.l.dir) s.l.dir w.l.dir:=OI ha (by rw[cR,hs];rfl) (by rw[aX,cR,hw];rfl)
   -- the side ends, as the next one stops it
   have nh:s.v.nh=false:=by
    cases q:s.v.nh with
    |false=>rfl
    |true=>
     have:=H2 hc ms q w mw;rw[<-AZ,wB] at this;grind
   obtain⟨_,k2⟩:=Ly hc ms mw hn nh;have hx:crossI s.l w.l≠0:=JH k;rw[<-OX hx (lE (hc.ok s ms).ne _) k2];exact((hc.edge s ms).2 _).1 (Iz (hc.edge s ms).1 nh)
  .cases hq
def Ag{n u:ah}(h: ∀t:Rat,0<=t->gH c (cF p u t))(hn:n.dot u<0)(M:Rat): ∃q,gH c q/\n.dot q<M:=by
 by_cases k:n.dot p<M
 .refine⟨_,h 0 iW,?_⟩
  rw[wL];grind
 .have e:(n.dot p-M)/ -(n.dot u)* -(n.dot u)=n.dot p-M:=by grind
  have e0:0<=(n.dot p-M)/ -(n.dot u):=(ij (s:=(n.dot p-M)/ -(n.dot u)) (k:= -(n.dot u)) (by grind)).1 (by rw[e];grind);refine⟨_,h ((n.dot p-M)/ -(n.dot u)+1) (by grind),?_⟩;rw[wL];generalize (n.dot p-M)/ -(n.dot u)=t at*;grind
def Z5(hc:bC c){n:ah}(hn: ¬(n.x=0/\n.y=0))(h:fG c n=none)(M:Rat): ∃q,gH c q/\n.dot q<M:=by
 have hN:=Ec hn;have hneg:n.dot (dh n)<0:=by unfold ah.dot dh;dsimp only;grind
 unfold fG at h;split at h
 .rename_i k
  rw[fN] at k
  cases c with
  |nil=>exact Ag (p:=⟨0,0⟩) (u:=dh n) (fun t _ s hs=>by cases hs) hneg M
  |cons s t=>
   rcases k with k|k
   .cases k
   .cases t with
    |cons _ _=>cases k
    |nil=>
     have k:=of_decide_eq_true (show decide (s.l.nor.dot n<0)=true from k);obtain⟨q,hq⟩:=hc.ne;refine Ag (p:=q) (u:=dh n) (fun t ht w hw=>?_) hneg M;have e:=aU.1 hw;subst e;rw[jc];have a:=hq w hw;have e2:w.l.nor.dot (dh n)= -(w.l.nor.dot n):=by unfold ah.dot dh;dsimp only;grind
     have b:=cG ht (show 0<=w.l.nor.dot (dh n) by rw[e2];grind);grind
 .split at h
  .rename_i k
   obtain⟨s,hs,k⟩:=iR.1 k;unfold ir at k;rw[fN,bK,bK,decide_eq_true_eq,decide_eq_true_eq] at k;have hh:=((hc.edge s hs).2 _).2 (yo hc hs).1;have e1:n.dot s.l.dir=s.l.dir.dot n:=by unfold ah.dot;grind
   have e2:n.dot (dh s.l.dir)= -(s.l.dir.dot n):=by unfold ah.dot dh;dsimp only;grind
   rcases k with⟨k1,k2⟩|⟨k1,k2⟩
   .refine Ag (p:=s.l.at s.v.sample) (u:=s.l.dir) (fun t ht=>?_) (by rw[e1];exact k2) M
    rw[<-EU];exact((hc.edge s hs).2 _).1 ⟨hh.1.elim .inl fun k=> .inr (by grind), .inl k1⟩
   .refine Ag (p:=s.l.at s.v.sample) (u:=dh s.l.dir) (fun t ht=>?_) (by rw[e2];grind) M
    have e3:cF (s.l.at s.v.sample) (dh s.l.dir) t=s.l.at (s.v.sample+ -t):=by rw[EU];unfold cF dh;simp only[ah.mk.injEq];constructor<;>grind
    rw[e3];exact((hc.edge s hs).2 _).1 ⟨.inl k1,hh.2.elim .inl fun k=> .inr (by grind)⟩
  .cases h
def Ev(hc:bC c)(ha:fD c){n:ah}(hn: ¬(n.x=0/\n.y=0)){m:Rat}(h:fG c n=some m):(∀q,gH c q->m<=n.dot q)/\ ∃q,gH c q/\n.dot q=m:=by
 have hN:=Ec hn;unfold fG at h;split at h
 .cases h
 rename_i k1;split at h
 .cases h
 rename_i k2
 cases h
 have k1:c.isEmpty=false/\sG n c=false:=by simpa using k1
 have k2: ∀s∈c,ir n s=false:=fun s hs=>by
  cases q:ir n s with
  |false=>rfl
  |true=>exact absurd (iR.2 ⟨s,hs,q⟩) k2
 have hne:jh c≠[]:=by
  unfold jh
  cases c with
  |nil=>cases k1.1
  |cons s t=>simp
 obtain⟨l1,q0,hq0,l2⟩:=oD (n:=n) hne;refine⟨?_,q0,Tf hc ha q0 hq0,l2.symm⟩;have side: ∀s∈c,∀q,s.l.value q=0->gH c q->i7 n (jh c)<=n.dot q:=fun s hs q hz hq=>by
  obtain⟨t,rfl⟩:=AB (hc.ok s hs).ne hz;have hh:=((hc.edge s hs).2 t).2 hq;have ho:=k2 s hs;unfold ir at ho;have e1:s.l.dir.dot n=n.dot s.l.dir:=by unfold ah.dot;grind
  rw[lT,e1] at ho;have f: ∀u,n.dot (s.l.at u)=n.dot (s.l.at 0)+u*n.dot s.l.dir:=fun u=>by rw[ON s.l u,wL]
  rcases j0 (n.dot s.l.dir) with k|k|k
  .have:=l1 (s.l.at s.v.sample) (bR _ (dT (f:=fun s:bA=>s.l.at s.v.sample) hs))
   rw[f,k] at this⊢;grind
  .have nl:s.v.nl=false:=by
    cases q:s.v.nl with
    |false=>rfl
    |true=>rw[q,decide_eq_true k] at ho;exact absurd ho.2 (by simp)
   have:=l1 _ (bV _ (DX hc ha hs nl));have h1:=hh.1.resolve_left (by rw[nl];simp);have h2:=cG (show 0<=t-s.v.lo by grind) (dQ k);rw[f] at this⊢;grind
  .have nh:s.v.nh=false:=by
    cases q:s.v.nh with
    |false=>rfl
    |true=>rw[q,decide_eq_true k] at ho;exact absurd ho.1 (by simp)
   have:=l1 _ (bV _ (AW hc ha hs nh));have h1:=hh.2.resolve_left (by rw[nh];simp);have h2:=cG (show 0<=s.v.hi-t by grind) (show 0<= -n.dot s.l.dir by grind);rw[f] at this⊢;grind
 -- a point that moves until a side stops it
 have go: ∀p,gH c p-> ∀d:ah,n.dot d<=0->(∃u∈c,u.l.nor.dot d<0)->i7 n (jh c)<=n.dot p:=fun p hp d hd0 hex=>by
  by_cases hd:bu c p
  .obtain⟨u,hu,hk⟩:=hex
   have v0:=hd u hu;obtain⟨T,hT⟩: ∃T,T=u.l.value p/ -(u.l.nor.dot d):=⟨_,rfl⟩;have e:T* -(u.l.nor.dot d)=u.l.value p:=by rw[hT];generalize u.l.nor.dot d=z at*;grind
   have T0:0<T:=(f8 (k:= -(u.l.nor.dot d)) (by grind)).1 (by rw[e];exact v0);obtain⟨r,r0,r1,⟨s,ms,_,zs⟩,hC⟩:=I8 (p:=cF p d T) hd ⟨u,hu,by rw[jc];grind⟩;have:=side s ms _ zs hC;rw[IJ,wL] at this;have:=cG r0 (cG (dQ T0) (show 0<= -(n.dot d) by grind));grind
  .have: ∃s∈c,¬0<s.l.value p:=by
    apply Classical.byContradiction;intro k;exact hd fun s hs=>Classical.byContradiction fun k2=>k ⟨s,hs,k2⟩
   obtain⟨s,hs,k⟩:=this;have:=hp s hs;exact side s hs p (by grind) hp
 intro p hp;by_cases q1: ∃u∈c,u.l.nor.dot (gP n)≠0
 .obtain⟨u,hu,k⟩:=q1
  have z:n.dot (gP n)=0:=by unfold ah.dot gP;grind
  rcases j0 (u.l.nor.dot (gP n)) with k|h|h
  .contradiction
  .refine go p hp (dh (gP n)) ?_ ⟨u,hu,?_⟩
   .unfold ah.dot gP dh;dsimp only;grind
   .have:u.l.nor.dot (dh (gP n))= -(u.l.nor.dot (gP n)):=by unfold ah.dot dh;dsimp only;grind
    rw[this];grind
  .exact go p hp (gP n) (by rw[z];exact iW) ⟨u,hu,h⟩
 .have q1: ∀u∈c,u.l.nor.dot (gP n)=0:=fun u hu=>Classical.byContradiction fun k=>q1 ⟨u,hu,k⟩
  by_cases q2: ∃u∈c,0<u.l.nor.dot n
  .obtain⟨u,hu,k⟩:=q2
   have e: ∀z:ah,z.dot (dh n)= -(z.dot n):=fun z=>by unfold ah.dot dh;dsimp only;grind
   refine go p hp (dh n) ?_ ⟨u,hu,by rw[e];grind⟩;rw[e];unfold ah.dot;grind
  .exfalso
   have q3: ∀u∈c,u.l.nor.dot n<0:=fun u hu=>by
    have h1:=q1 u hu;have h2: ¬0<u.l.nor.dot n:=fun k=>q2 ⟨u,hu,k⟩;have h3:=mG (hc.ok u hu).ne;by_cases h4:u.l.nor.dot n=0
    .exfalso
     have e:(n.x*n.x+n.y*n.y)*(u.l.nor.dot u.l.nor)=(u.l.nor.dot n)*(u.l.nor.dot n)+(u.l.nor.dot (gP n))*(u.l.nor.dot (gP n)):=by unfold ah.dot gP;dsimp only;grind
     rw[h1,h4] at e;have:=dd hN h3;grind
    .grind
   cases c with
   |nil=>cases k1.1
   |cons s t=>
    cases t with
    |nil=>
     have:=k1.2;unfold sG at this;have:=of_decide_eq_false this;exact this (q3 s aQ)
    |cons w t=>
     have hB:d9 s.l.dir w.l.dir:=by
      unfold fD at ha;rw[bU,bU] at ha;exact(bL.1 ha).1 _ aQ
     have a1:=q3 s aQ;have a2:=q3 w (aJ _ aQ);have b1:=q1 s aQ;have b2:=q1 w (aJ _ aQ);have hz:s.l.dir.cross w.l.dir=0:=by
      have e:(n.x*n.x+n.y*n.y)*s.l.dir.cross w.l.dir=(s.l.nor.dot n)*(w.l.nor.dot (gP n))-(s.l.nor.dot (gP n))*(w.l.nor.dot n):=by unfold ah.dot gP ah.cross aa.dir aa.nor;dsimp only;grind
      rw[b1,b2] at e;have:(n.x*n.x+n.y*n.y)*s.l.dir.cross w.l.dir=0:=by grind
      exact(fJ.1 this).resolve_left (by grind)
     have e: ∀l:aa,l.dir.cross (dh n)= -(l.nor.dot n):=fun l=>by rw[AZ];unfold ah.dot dh;dsimp only;grind
     have hh:=X3 (Cb (hc.ok s aQ)) (Cb (hc.ok w (aJ _ aQ))) hz (z:=dh n) (by rw[e];grind) (by rw[e];grind);rcases hB with k|⟨_,k⟩
     .omega
     .rw[hz] at k;exact absurd k (by decide)
end Go.Sx
end
