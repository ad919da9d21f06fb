import Derived.Test.YthhjilnhmkheeaaGreatDoorMr18
set_option linter.all false
set_option maxHeartbeats 8000000
set_option maxRecDepth 100000
section
namespace Go.Sx
open Go Go.Proofs Tryz
variable {GB:Gh}
section
variable {GB:Gh} {C:aH} {n:Nat} {Q0:Exit->Act->World->Prop} {fr fr':aD} {own own':aO} {cf cf':Cf} {vc:List Prop} {ops:Array Oper} {r:List Oper} {K:List Kt}
def bH.later{lk:LK}{bk:BM}{ρ:NE}{G G1:Gh}{ov:List az}{a:Act}{w w1:World}(r:bH GB C n lk bk ρ G ov a w)(h:bC (o4 w G) [] G1 w1):bH GB C n lk bk ρ G1 ov a w1:=
 ⟨r.gb.trans h.gle,r.h.called h,r.sz,r.df,fun k f e=>by obtain⟨y,h1,h2⟩:=r.fx k f e;exact⟨y,h1,h2.up h.gle⟩,fun nm B e=>by obtain⟨os,h1,h2⟩:=r.bx nm B e;exact⟨os,h1.up h.gle,h2⟩,r.dj,r.fxd⟩
def Bb:List Nat->List DV->aD->aD
 |p::ps,d::ds,fr=>Bb ps ds ((p, .d d)::fr)
 |_,_,fr=>fr
def TY{ρ:NE}{G:Gh}: ∀{ps:List Nat} {ds:List DV} {ys tm:List Value} {fr:aD},IsLs G ds ys->(∀p∈ps,p<tm.length)->(∀k f,bh fr k=some f-> ∃y,tm[k]? =some y/\ce ρ G f y)->
  ((ps.zip ys).foldl (fun t e=>t.set e.1 e.2) tm).length=tm.length/\ ∀k f,bh (Bb ps ds fr) k=some f-> ∃y,((ps.zip ys).foldl (fun t e=>t.set e.1 e.2) tm)[k]? =some y/\ce ρ G f y
 |[],ds,ys,tm,fr,_,_,h=>⟨J,fun k f e=>h k f (by cases ds<;>exact e)⟩
 |p::ps,[],ys,tm,fr,hd,_,h=>by rw[gw.1 hd];exact⟨J,fun k f e=>h k f e⟩
 |p::ps,d::ds,ys,tm,fr,hd,hp,h=>by
  obtain⟨y,m,rfl,h1,h2⟩:=bO.1 hd;simp only[List.zip_cons_cons,jV,Bb];have:=TY (ps:=ps) (ds:=ds) (ys:=m) (tm:=tm.set p y) (fr:=(p, .d d)::fr) h2 (fun q hq=>by rw[aM];exact hp q (aX _ hq)) fun k f e=>by
   rw[kH] at e;split at e
   .rename_i hk;subst hk;cases e
    exact⟨y,by rw[pM];rw[if_pos J,if_pos (hp k aQ)],h1⟩
   .rename_i hk
    obtain⟨u,h3,h4⟩:=h k f e;exact⟨u,by rw[pM];rw[if_neg (fun e=>hk e.symm)];exact h3,h4⟩
  rw[aM] at this;exact this
def P3: ∀(l:List (Nat×Value)) (t:Array Value),(l.foldl (fun t e=>t.setIfInBounds e.1 e.2) t).toList=l.foldl (fun t e=>t.set e.1 e.2) t.toList
 |[],t=>rfl
 |e::l,t=>by simp only[jV];rw[P3 l];simp
def Ku:FX->Bool
 | .ov nm _=>Nat.ble 2000000 nm
 | .rw _=>false
 | .be .. =>false
 | .rs .. =>false
 | .bx .. =>false
 |_=>true
def D7:aD->Bool
 |[]=>true
 |(_,f)::t=>Ku f&&D7 t
def NO: ∀{fr:aD},D7 fr=true-> ∀k f,bh fr k=some f->Ku f=true
 |[],_,k,f,e=>by cases e
 |(j,g)::t,h,k,f,e=>by
  simp only[D7,bT] at h;rw[kH] at e;split at e
  .cases e;exact h.1
  .exact NO h.2 k f e
def LN(GB:Gh)(C:aH)(n:Nat)(fr:aD)(own:aO)(a:Act)(w:World):Prop:= ∃ρ G ov,bH GB C n (bh fr) (bj own) ρ G ov a w
def atR{P:Program}:ao P GB C n Q0 fr own (.ex .normal (.ag (LN GB C n fr own)::K)):=⟨fun ρ G ov a w r=>⟨ρ,G,ov,r⟩⟩
def RQ(GB:Gh)(C:aH)(n:Nat)(p:Prop)(O:aO){σ:Type}(S:σ->aO)(q:σ->Prop):Exit->Act->World->Prop
 | .normal,a,w=>p/\ ∃ρ G ov,bH GB C n (fun _=>none) (bj O) ρ G ov a w
 | .ret,a,w=> ∃s,q s/\ ∃ρ G ov,bH GB C n (fun _=>none) (bj (S s)) ρ G ov a w
 |_,_,_=>False
def rq{P:Program}{p:Prop}{O:aO}{σ:Type}{S:σ->aO}{q:σ->Prop}(hp:p)(hO:x8 O own:=by repeat (first|exact trivial|refine And.intro J ?_)):ao P GB C n (RQ GB C n p O S q) fr own (.ex .normal []):=
 ⟨fun ρ G ov a w r=>⟨hp,ρ,G,ov,r.mono (fun k x e=>by cases e) (xw hO)⟩⟩
def KC{P:Program}{g:Operand}{ps:Array Nat}{assign body:Code}{gf:FuncId}{caps:List Value}{ds:List DV}{E:List (List DV)}{σ:Type}(I:Nat->aO)(p:Nat->Prop)(S:σ->aO)(q:σ->Prop)(fr1:aD)
  (h0:Le C)(hg:ba (bh fr) g=some (.d (.v (.func (.func gf) ⟨[]⟩ ⟨caps⟩))))(hIt:It GB P gf ds E)(hc:IsLs GB ds caps)
  (hfr:vU fr1 fr)(hfix:D7 fr1=true)(hO:x8 (I 0) own)(hp:p 0)(hps: ∀e∈E,e.length=ps.size)(hpn:ps.toList.all (fun k=>Nat.blt k n)=true)(hn2:Nat.ble n 2000000=true)
  (round: ∀k e GB',E[k]? =some e->cc GB GB'->p k-> ∃fr2 own2,(∀C2,ao P GB' C2 n (fun _ _ _=>False) (Bb ps.toList e fr1) (I k) (.code assign [.ag (LN GB' C2 n fr2 own2)]))/\ ∀C2,ao P GB' C2 n (RQ GB' C2 n (p (k+1)) (I (k+1)) S q) fr2 own2 (.code body []))
  (after: ∀D,C.w0.heap.size<=D->(∀x∈C.ex,x.1≠D)->p E.length->ao P GB (C.mk3 D) n Q0 fr1 (I E.length) (.ex .normal K))
  (early: ∀D s,C.w0.heap.size<=D->(∀x∈C.ex,x.1≠D)->q s->ao P GB (C.mk3 D) n Q0 fr1 (S s) (.ex .ret K)):
  ao P GB C n Q0 fr own (.code (.rangeFunc g ps assign body) K):=by
 refine⟨fun ρ0 G0 ov0 a w r=>?_⟩;rw[h0.rd];refine wpIn_rangeFunc fun fn _=>?_;obtain⟨y,hy,hy'⟩:=r.ev hg;rw[(bE (G:=G0)).1 hy'] at hy;have hev:=bu (dt a) hy
 let D:=w.heap.size
 let l:=w.heap.size+1
 let rec_:Loop:={state:= .ready,pending:=none,fn,tmps:=a.tmps,params:=ps,assign,body,defers:=D}
 let w2:=(w.alloc (.deferred (some []))).alloc (.loop rec_)
 let mk:Deferred:={target:= .collected D,args:= #[]}
 let fx1:Nat->Option Addr:=fun nm=>(ρ0 nm).a
 let C1:Loop->aH:=fun rc=>{C with ex:=(l, .loop rc)::(D, .deferred (some []))::C.ex,mks:=[mk],fx:=fx1}
 let a0:Act:={a with defers:=[mk]++a.defers}
 have hszD:C.w0.heap.size<=D:=r.h.size;have hlt: ∀x∈C.ex,x.1<D:=fun x hx=>i5 (r.h.ext x hx).2;have hszl:C.w0.heap.size<=l:=Nat.le_succ_of_le hszD;have hnl: ∀x∈((D,Obj.deferred (some []))::C.ex:List (Nat×Obj)),x.1≠l:=fun x hx=>by
  rcases aW.1 hx with rfl|hx
  .show D≠D+1;omega
  .have:=hlt x hx;show x.1≠D+1;omega
 have ncl: ∀rc:Loop,GC (.loop rc):=fun rc _ _ _ h=>by cases h
 -- the slots of the loop, at any time
 have stat: ∀(ρ':NE) (G':Gh),cc G0 G'->(∀nm p,n<=nm->2000000<=nm->fx1 nm=some p->(ρ' nm).a=some p)-> ∀k f,bh fr1 k=some f-> ∃y,a.tmps[k]? =some y/\ce ρ' G' f y:=by
  intro ρ' G' hg' hf k f e;obtain⟨y,h1,h2⟩:=r.fx k f (wP hfr k f e);refine⟨y,h1,?_⟩;have hx:=NO hfix k f e
  cases f with
  |ov nm off=>
   obtain⟨b,h3,h4⟩:=h2;have h5:2000000<=nm:=by simpa[Ku] using hx
   have h6:n<=2000000:=by simpa using hn2
   exact⟨b,hf nm _ we h5 h3,h4⟩
  |rw _=>cases hx
  |be _ _ _ _=>cases hx
  |rs _ _ _ _=>cases hx
  |bx _ _ _ _=>cases hx
  |ri _ _=>exact h2
  |_=>exact(h2.up hg').ren fun _ h=>by cases h
 let Jv:Nat->Gh->World->Prop:=fun k G' w'=>p k/\ ∃ρ ov,bH G0 (C1 rec_) n (bh fr1) (bj (I k)) ρ G' ov a0 w'
 let rcx:Loop:={rec_ with state:= .done,pending:=some .ret}
 let Jx:Gh->World->Prop:=fun G' w'=> ∃s,q s/\ ∃ρ ov,bH G0 (C1 rcx) n (bh fr1) (bj (S s)) ρ G' ov a0 w'
 have hsz0:a0.tmps.size=n:=r.sz;have hdf0:a0.defers=[mk]:=by show [mk]++a.defers=_;rw[r.df,h0.mks];rfl
 have H:AA G0 P l Jv Jx E:=by
  refine⟨fun k=>⟨fun G' w' ⟨_,ρ,ov,h⟩=>h.h.sub,fun G' w' G1 w1 ⟨h1,ρ,ov,h⟩ k=>⟨h1,ρ,ov,h.later k⟩⟩,⟨fun G' w' ⟨_,_,ρ,ov,h⟩=>h.h.sub,fun G' w' G1 w1 ⟨s,h1,ρ,ov,h⟩ k=>⟨s,h1,ρ,ov,h.later k⟩⟩,?_⟩;intro k e G' w' ys hE hgg ⟨hpk,ρ,ov,r1⟩ hys;have hrec:w'.heap[l]? =some (.loop rec_):=(r1.h.ext _ aQ).2;have hel:=hps e (aT hE);obtain⟨fr2,own2,hA,hB⟩:=round k e G' hE (r.gb.trans hgg) hpk;refine⟨_,_,_,_,run_yield hrec (by show ys.length=ps.size;rw[hys.len,hel]),roundIn_of_wpIn trivial ?_⟩
  let C2:aH:={C1 rec_ with mks:=[],rd:=some l}
  let tm:Array Value:=(ps.zip (⟨ys⟩:Array Value)).foldl (fun tmps (t,a)=>tmps.setIfInBounds t a) a.tmps
  have htm:tm.toList=(ps.toList.zip ys).foldl (fun t e=>t.set e.1 e.2) a.tmps.toList:=by
   simp only[tm];rw[<-Array.foldl_toList,Array.toList_zip];exact P3 _ _
  have hfx0:=r1.fx;obtain⟨q1,q2⟩:=TY (ρ:=ρ) (ps:=ps.toList) (tm:=a.tmps.toList) (fr:=fr1) hys (fun k hk=>by have:=cN.1 hpn k hk;rw[iL,r.sz];simpa[lJ] using this) fun k f e=>by
   obtain⟨y,h1,h2⟩:=hfx0 k f e;exact⟨y,by simpa using h1,h2⟩
  have hR0:bH G' C2 n (bh (Bb ps.toList e fr1)) (bj (I k)) ρ G' ov {tmps:=tm,defers:=[]} w':=by
   refine⟨cc.refl _,r1.h.ctx J J J (fun _ h=>h),?_,J,fun k f e=>?_,r1.bx,r1.dj,r1.fxd⟩
   .show tm.size=n
    rw[<-iL,htm,q1,iL,r.sz]
   .obtain⟨y,h1,h2⟩:=q2 k f e
    exact⟨y,by rw[<-htm] at h1;simpa using h1,h2⟩
  refine wpIn_mono ((hA C2).run ρ G' ov _ w' hR0) fun ex a1 w1 hex=>?_
  cases ex with
  |normal=>
   obtain⟨ρ2,G2,ov2,r2⟩:=hex;have hrec1:w1.heap[l]? =some (.loop rec_):=(r2.h.ext _ aQ).2;refine⟨_,run_beginRound hrec1 J,?_⟩
   let busy:Loop:={rec_ with state:= .busy}
   let C3:aH:={C1 busy with mks:=[],rd:=some l}
   have h3:bC C3 ov2 G2 (w1.putObj l (.loop busy)):=r2.h.putx aQ hszl (ncl _) J J J fun x hx=>by
    rcases aW.1 hx with rfl|hx
    .exact .inl J
    .exact .inr ⟨aX _ hx,hnl x hx⟩
   refine wpIn_mono ((hB C3).run ρ2 G2 ov2 a1 (w1.putObj l (.loop busy)) ⟨r2.gb,h3,r2.sz,r2.df,r2.fx,r2.bx,r2.dj,r2.fxd⟩) fun ex a2 w3 hex=>?_
   cases ex with
   |normal=>
    obtain⟨hp1,ρ3,G3,ov3,r3⟩:=hex;have hrec3:w3.heap[l]? =some (.loop busy):=(r3.h.ext _ aQ).2;refine⟨_,_,run_endRound none hrec3,G3,r3.gb, .inl ⟨J,hp1,ρ3,ov3,hgg.trans r3.gb,?_,hsz0,hdf0,stat ρ3 G3 (hgg.trans r3.gb) r3.fxd,r3.bx,r3.dj,r3.fxd⟩⟩;exact r3.h.putx aQ hszl (ncl _) J J J fun x hx=>by
     rcases aW.1 hx with rfl|hx
     .exact .inl J
     .exact .inr ⟨aX _ hx,hnl x hx⟩
   |ret=>
    obtain⟨s,hq,ρ3,G3,ov3,r3⟩:=hex;have hrec3:w3.heap[l]? =some (.loop busy):=(r3.h.ext _ aQ).2;refine⟨_,_,run_endRound (some .ret) hrec3,G3,r3.gb, .inr ⟨J,s,hq,ρ3,ov3,hgg.trans r3.gb,?_,hsz0,hdf0,stat ρ3 G3 (hgg.trans r3.gb) r3.fxd,r3.bx,r3.dj,r3.fxd⟩⟩;exact r3.h.putx aQ hszl (ncl _) J J J fun x hx=>by
     rcases aW.1 hx with rfl|hx
     .exact .inl J
     .exact .inr ⟨aX _ hx,hnl x hx⟩
   |exit id=>exact hex.elim
   |goto t=>exact hex.elim
   |panic ch=>exact hex.elim
   |outgrown=>exact hex.elim
  |exit id=>exact hex.elim
  |goto t=>exact hex.elim
  |ret=>exact hex.elim
  |panic ch=>exact hex.elim
  |outgrown=>exact hex.elim
 have hC1:bC (C1 rec_) ov0 G0 w2:=by
  have h1:bC {C with ex:=(D, .deferred (some []))::C.ex} ov0 G0 (w.alloc (.deferred (some []))):=r.h.addx (fun _ _ _ h=>by cases h) J J J fun x hx=>aW.1 hx;refine h1.addx (ncl rec_) J J J fun x hx=>?_;rcases aW.1 hx with rfl|hx
  .exact .inl (by show((l,Obj.loop rec_):Nat×Obj)=_;rw[show(w.alloc (.deferred (some []))).heap.size=w.heap.size+1 by simp])
  .exact .inr hx
 have hJ0:Jv 0 G0 w2:=⟨hp,ρ0,ov0,cc.refl _,hC1,hsz0,hdf0,stat ρ0 G0 (cc.refl _) (fun _ _ _ _ h=>h),fun nm B e=>r.bx nm B (xw hO nm B e),fun nm nm' B B' e e'=>r.dj nm nm' B B' (xw hO nm B e) (xw hO nm' B' e'),fun _ _ _ _ h=>h⟩;refine⟨l,[mk],w2,{target:= .fn (.func gf) ⟨caps⟩,args:= #[.func (.yield l) #[] #[]]},w2,gf, #[.func (.yield l) #[] #[]]++⟨caps⟩,w2,run_enterLoop_outer fn a.tmps ps assign body,?_,fun _ _=>trivial,?_,fun h=>okS,?_⟩
 .have he:(⟨[]⟩:Array Value)++Array.map a.eval #[.const (.func (.yield l) #[] #[])]= #[.func (.yield l) #[] #[]]:=by
   apply Array.ext';rw[Array.toList_append,oN];rfl
  simp only[resolve,hev,Deferred.ofValue];rw[he];rfl
 .simp only[invoke]
  exact Hc hIt.able _ _
 refine CallsIn.mono (show CallsIn (FW none) 0 P gf _ w2 _ from by
  have:=hIt.run l Jv Jx G0 r.gb H w2 caps hJ0 (hc.up r.gb);rw[show(#[Value.func (.yield l) #[] #[]]++(⟨caps⟩:Array Value))=⟨.func (.yield l) #[] #[]::caps⟩ by simp];exact this) fun e w3 he=>?_
 obtain⟨G',hgg,⟨v,rfl⟩,hj⟩:=he;have fin: ∀(rc:Loop) (O:aO) (ρ:NE) (ov:List az),bH G0 (C1 rc) n (bh fr1) (bj O) ρ G' ov a0 w3->bH GB (C.mk3 D) n (bh fr1) (bj O) ρ G' ov a0 (w3.putObj l (.loop {rc with state:= .exhausted})):=fun rc O ρ ov r3=>
  ⟨r.gb.trans r3.gb,r3.h.putx aQ hszl (ncl _) J J J fun x hx=> .inr ⟨aX _ hx,hnl x hx⟩,r3.sz,r3.df,r3.fx,r3.bx,r3.dj,fun nm p _ _ e=>by rw[show(C.mk3 D).fx=fun _=>none from h0.fx] at e;cases e⟩
 have hxD: ∀x∈C.ex,x.1≠D:=fun x hx e=>by have:=hlt x hx;omega
 rcases hj with⟨hpn,ρ,ov,r3⟩|⟨s,hq,ρ,ov,r3⟩
 .have hrec3:w3.heap[l]? =some (.loop rec_):=(r3.h.ext _ aQ).2
  have:=(after D hszD hxD hpn).run ρ G' ov a0 _ (fin rec_ _ ρ ov r3);rw[show(C.mk3 D).rd=none from h0.rd] at this;exact⟨_,_,run_endLoop hrec3 (by simp[rec_]),this⟩
 .have hrec3:w3.heap[l]? =some (.loop rcx):=(r3.h.ext _ aQ).2
  have:=(early D s hszD hxD hq).run ρ G' ov a0 _ (fin rcx _ ρ ov r3);rw[show(C.mk3 D).rd=none from h0.rd] at this;exact⟨_,_,run_endLoop hrec3 (by simp[rcx]),wpIn_ret this⟩
end
section
variable {GB:Gh} {C:aH} {n:Nat} {Q0:Exit->Act->World->Prop} {fr fr':aD} {own own':aO} {cf cf':Cf} {vc:List Prop} {ops:Array Oper} {o:Oper} {r:List Oper} {K:List Kt}
def Gk(GB:Gh)(P:Program)(f:FuncId)(ds:List DV)(gf:FuncId)(dp:DV):Prop:=
 ∀G vs,cc GB G->IsLs G ds vs->Fn P f vs G fun v G'=> ∃pv,v= .func (.func gf) ⟨[]⟩ ⟨[pv]⟩/\Is G' dp pv
def E0(gf:FuncId)(dp:DV)(v:Value)(G':Gh):Prop:= ∃pv,v= .func (.func gf) ⟨[]⟩ ⟨[pv]⟩/\Is G' dp pv
def WP[fu:Fu]{f gf:FuncId}{fb:Func}{c:Code}{m:Nat}{ds:List DV}{dp:DV}(hf:prog.funcs[f]? =some fb)(hb:fb.body=some c)(hn:(fb.name== "runtime.NumGoroutine")=false)(hm:fb.ntmps=m)(hlen:Nat.ble ds.length m=true)
  (hgo:go tt m fu.n [] (th 0 ds) [] (.code c [])=⟨vc,fr,own,cf⟩)(k: ∀C:aH,ao prog GB C m (gu C prog fb (mE C (E0 gf dp))) fr own cf)
  (hv:autoParam (ae vc) cL._auto_1):Gk GB prog f ds gf dp:=by
 intro G vs hg hvs;refine Fn.introR hf hb hn hm okD fun C _ _ hrd hfx=>?_;intro a w rl;refine vR hrd ?_;have h:=gD (GB:=GB) (C:=C) (Q0:=gu C prog fb (mE C (E0 gf dp))) hgo hv (k C);exact h.run (fun _=>⟨none,0,0⟩) G [] a w ⟨hg,rl.h,rl.sz,rl.df,(fun k f e=>yG hvs rl.fr k f e),(fun nm B e=>by cases e),(fun nm nm' B B' e=>by cases e),fun nm p _ _ e=>by rw[hfx] at e;cases e⟩
def Yr{P:Program}{fb:Func}{gf:FuncId}{dp:DV}{pv:Value}{t:Nat}(hr:fb.results.toList=[.tmp t])(hl:bh fr t=some (.d (.v (.func (.func gf) ⟨[]⟩ ⟨[pv]⟩))))(hp:Is GB dp pv):ao P GB C n (gu C P fb (mE C (E0 gf dp))) fr own (.ex .ret []):=by
 refine⟨fun ρ G ov a w r=>?_⟩;obtain⟨y,hy,hy'⟩:=r.ev (x:= .tmp t) hl;rw[(bE (G:=G)).1 hy'] at hy;exact zD (C:=C) (n:=n) (fr:=de a) (own:=ov) (G:=G) (K:=E0 gf dp) oku ⟨pv,J,hp.up r.gb⟩ a w ⟨r.h,r.sz,dt a,r.df⟩
def S0(fr:aD)(cf:Cf):Option (FuncId×Value):=match dw fr cf with
 |some ⟨_, .makeFunc (.func f) ⟨[]⟩ ⟨[x]⟩,_,_,_,_⟩=>match ba (co fr cf) x with
  |some (.d (.v pv))=>some (f,pv)
  |_=>none
 |_=>none
def mkG[fu:Fu]{f:FuncId}{pv:Value}(h:S0 fr cf=some (f,pv))(hgo:dl tt n fu.n fr own cf (.d (.v (.func (.func f) ⟨[]⟩ ⟨[pv]⟩))) [] []=⟨vc,fr',own',cf'⟩)(k:ao prog GB C n Q0 fr' own' cf')
  (hv:autoParam (ae vc) cL._auto_1):ao prog GB C n Q0 fr own cf:=by
 unfold S0 at h;split at h<;>try (cases h;done)
 rename_i hh;split at h<;>cases h;rename_i hx;exact us hh (.x1 hx fun ρ G ov a w y _ r h1 h2=>by
  rw[(bE (G:=G)).1 h2] at h1;exact⟨_,(bE (G:=G)).2 J,ari (l1:=[]) (l2:=[pv]) J (by simp[h1])⟩) hgo hv k
def HD[fu:Fu]{f gf:FuncId}{ds:List DV}{dp:DV}{d:Nat}{fr':Value->aD}{own':Value->aO}{cf':Value->Cf}{vc:Value->List Prop}(ha:y9 fr (.ops ops (o::r) K)=some (f,ds))(hdst:o.dst=some d)(hd:cA n (some d)=true)(hF:Gk GB prog f ds gf dp)
  (hgo: ∀pv,go tt n fu.n [] ((d, .d (.v (.func (.func gf) ⟨[]⟩ ⟨[pv]⟩)))::fr) own (.ops ops r K)=⟨vc pv,fr' pv,own' pv,cf' pv⟩)
  (k: ∀GB' pv,cc GB GB'->Is GB' dp pv->ao prog GB' C n Q0 (fr' pv) (own' pv) (cf' pv))
  (hv: ∀pv,ae (vc pv):=by intros;first|exact trivial|(simp only[ae];kernel_rfl)|(simp only[ae];omega)):ao prog GB C n Q0 fr own (.ops ops (o::r) K):=by
 unfold y9 at ha;split at ha<;>try (cases ha;done)
 rename_i fo args tys ty pos af gd hh;obtain⟨ops0,h1,h2⟩:=IM hh
 cases h1
 cases hdst
 obtain⟨c1,c2⟩:=Dr ha;refine⟨fun ρ G ov a w rl=>?_⟩;obtain⟨y,hy,hy'⟩:=rl.ev c1;rw[(bE (G:=G)).1 hy'] at hy;obtain⟨vs,h3,h4⟩:=rl.evDs c2;simp only[wpListIn];rw[if_pos (CY h2 ρ G ov a w rl)];refine JF (K':=fun a' w'=>a'.defers=C.mks/\wpListIn (FW C.rd) 0 prog ops (cQ C.rd prog Q0 K) r a' w') (fun Q=>?_) (fun a' w' q=>⟨q.1.trans rl.df.symm,q.2⟩);refine zC hy h3 (hF G vs rl.gb h4) hd (fun v G' hG hK a' w' rel=>?_) a w Q ⟨rl.h,rl.sz,dt a,rl.df⟩;obtain⟨pv,rfl,hpv⟩:=hK;refine⟨rel.df,?_⟩;have:=gD (GB:=G') (C:=C) (Q0:=Q0) (hgo pv) (hv pv) (k G' pv (rl.gb.trans hG.le) hpv);refine this.run ρ G' ov a' w' ⟨cc.refl _,rel.h,rel.sz,rel.df,fun j g e=>?_,fun nm B e=>by obtain⟨os,h5,h6⟩:=rl.bx nm B e;exact⟨os,h5.up hG.le,h6⟩,rl.dj,rl.fxd⟩;have e':fB (bh fr) (some d) (.d (.v (.func (.func gf) ⟨[]⟩ ⟨[pv]⟩))) j=some g:=by
  rw[kH] at e;simp only[fB];split at e
  .rename_i hk;rw[if_pos hk];exact e
  .rename_i hk;rw[if_neg hk];exact e
 exact(ld rel).fx (fun k g _ e=>by obtain⟨u,h5,h6⟩:=rl.fx k g e;exact⟨u,h5,h6.up hG.le⟩) (show ce ρ G' (.d (.v (.func (.func gf) ⟨[]⟩ ⟨[pv]⟩))) _ from(bE (G:=G')).2 rfl) j g e'
end
section
variable {GB:Gh} {C:aH} {n:Nat} {Q0:Exit->Act->World->Prop} {fr fr':aD} {own own':aO} {cf cf':Cf} {vc:List Prop} {ops:Array Oper} {o:Oper} {r:List Oper} {K:List Kt}
def RH{p q:Nat->Option (Nat×Nat)}(h: ∀i x,p i=some x->q i=some x): ∀(ps:List (Nat×Value)) (cs out:Array Value),Instr.fill p cs ps=some out->Instr.fill q cs ps=some out
 |[],cs,out,e=>e
 |(i,v)::ps,cs,out,e=>by
  simp only[Instr.fill] at e⊢;split at e
  .cases e
  .rename_i off size hp
   rw[h i _ hp];dsimp only;split at e
   .cases e
   .rename_i hc
    rw[if_neg hc];exact RH h ps _ _ e
def aw7{P:Program}{fr:Fr}{own:List az}{G:Gh}{t e s len:Nat}{j:TypeInfo}{parts:Array (Nat×Operand)}{z:Value}{out:List Value}{dst:Option Nat}{ty':TypeId}{pos:String}{af:Array Edge}{gd:Option (Nat×Bool)}[hz:jC P t z](hu:P.underlying t=some (.array len e))(hj:P.info? e=some j)(hs:j.size=s)
  (hb:vK fr ((List.range len).map fun i=>(i*s,s)) (aP z) parts.toList=some out):Yd P C fr own G ⟨dst, .build t parts,ty',pos,af,gd⟩ (.agg ⟨out⟩):=by
 intro a w hf hh;simp only[execOp];have:(Instr.build t (parts.map fun(i,x)=>(i,a.eval x))).run P w= .ok (.agg ⟨out⟩) w:=by
  unfold Instr.build;rw[bc (hz.zero w),ry];rw[bc (qD hu w)];simp only[];rw[bc (vC hj w),hs];have:=RH (q:=fun i=>some (i*s,s)) (fun i x hx=>by
   have hx':((List.range len).map fun i=>(i*s,s))[i]? =some x:=by simpa using hx
   rw[cV] at hx'
   cases hr:(List.range len)[i]? with
   |none=>rw[hr] at hx';cases hx'
   |some y=>
    rw[hr] at hx';cases hx';obtain⟨h1,h2⟩:=bQ.1 hr;rw[List.getElem_range] at h2;rw[h2]) _ _ _ (I8 hf ((List.range len).map fun i=>(i*s,s)) parts.toList _ _ hb)
  simp only[oN,this];rfl
 exact dC this
def E2:Nat->Nat->Nat->List (Nat×Nat×Nat)
 |_,0,_=>[]
 |i,k+1,s=>(i*s,0,s)::E2 (i+1) k s
def OK: ∀(i k s:Nat),(E2 i k s).map (fun x=>(x.1,x.2.2))=(List.range' i k).map fun j=>(j*s,s)
 |_,0,_=>rfl
 |i,k+1,s=>by simp only[E2,cJ,List.range',OK (i+1) k s]
def O'(fr:aD)(cf:Cf)(len s:Nat):Option (TypeId×FX):=match dw fr cf with
 |some ⟨_, .build t parts,_,_,_,_⟩=>match eH tt t with
  |some ⟨.o,_,some zx,_⟩=>match uZ (co fr cf) (E2 0 len s) zx parts.toList with
   |some cs=>match xg cs with
    |some f=>some (t,f)
    |none=>none
   |none=>none
  |_=>none
 |_=>none
def Ro[fu:Fu]{t e len s:Nat}{f:FX}(h:O' fr cf len s=some (t,f))(hu:prog.underlying t=some (.array len e))(hs:(prog.info? e).map (·.size)=some s)
  (hgo:dl tt n fu.n fr own cf f [] []=⟨vc,fr',own',cf'⟩)(k:ao prog GB C n Q0 fr' own' cf')
  (hv:autoParam (ae vc) cL._auto_1):ao prog GB C n Q0 fr own cf:=by
 unfold O' at h;split at h<;>try (cases h;done)
 rename_i hh;split at h<;>try (cases h;done)
 rename_i hT;split at h<;>try (cases h;done)
 rename_i hb;split at h<;>cases h;rename_i hf;refine us hh (.yd fun ρ G ov a w r=>?_) hgo hv k
 cases hj:prog.info? e with
 |none=>rw[hj] at hs;cases hs
 |some j=>
 rw[hj] at hs;obtain⟨v,hv,hv'⟩:=As (fp _ _ hT) rfl;obtain⟨l,h1,h2⟩:=Dh r _ _ _ _ hb (hv' ρ G);rw[OK,<-List.range_eq_range'] at h1;exact⟨.agg ⟨l⟩,Fc h2 hf,aw7 hu hj (Option.some.inj hs) h1⟩
def KM{P:Program}(nm:Nat){ty:TypeId}{ds:List DV}{lo:Bool}{own1:aO}{c:Code}(ds':List DV)(hl:bj own nm=some (.o ty (ds.map .d) lo))(hi: ∀G m,IsLs G ds m->IsLs G ds' m)(ho:uS own nm (some (.o ty (ds'.map .d) lo)) id=own1)(h:ao P GB C n Q0 fr own1 (.code c K)):ao P GB C n Q0 fr own (.code c K):=by
 rw[vJ] at ho;subst ho;refine⟨fun ρ G ov a w r=>?_⟩;have old: ∀m B,bj (kP own nm (some (.o ty (ds'.map .d) lo))) m=some B-> ∃B0,bj own m=some B0:=fun m B e=>by
  rw[uU] at e;split at e
  .rename_i hm;subst hm;exact⟨_,hl⟩
  .exact⟨_,e⟩
 refine SX.run h ρ G ov a w ⟨r.gb,r.h,r.sz,r.df,r.fx,fun m B e=>?_,fun m m' B B' e e'=>?_,r.fxd⟩
 .rw[show id (kP own nm (some (.o ty (ds'.map .d) lo)))=kP own nm (some (.o ty (ds'.map .d) lo)) from J,uU] at e
  split at e
  .rename_i hm;subst hm;cases e
   obtain⟨os,⟨b,q,h1,rfl,h2⟩,h3⟩:=r.bx _ _ hl;exact⟨_,⟨b,q,h1,J,t7 (hi G q (Sq h2))⟩,h3⟩
  .exact r.bx _ _ e
 .obtain⟨B0,h0⟩:=old _ _ e
  obtain⟨B1,h1⟩:=old _ _ e';exact r.dj m m' B0 B1 h0 h1
def Rq(fr:aD)(own:aO)(cf:Cf)(k:Nat):Option (TypeId×FX):=match dw fr cf with
 |some ⟨_, .load t x,_,_,_,_⟩=>match ba (co fr cf) x with
  |some (.ov nm off)=>match i6 fr own cf nm with
   |some (.o _ cs _)=>match takeX cs off k with
    |some l=>match xg l with
     |some f=>some (t,f)
     |none=>none
    |none=>none
   |_=>none
  |_=>none
 |_=>none
def ldA[fu:Fu](k:Nat){t e len:Nat}{f:FX}(h:Rq fr own cf k=some (t,f))(hu:prog.underlying t=some (.array len e))(hs:(prog.info? t).map (·.size)=some k)
  (hgo:dl tt n fu.n fr own cf f [] []=⟨vc,fr',own',cf'⟩)(k':ao prog GB C n Q0 fr' own' cf')
  (hv:autoParam (ae vc) cL._auto_1):ao prog GB C n Q0 fr own cf:=by
 unfold Rq at h;split at h<;>try (cases h;done)
 rename_i hh;split at h<;>try (cases h;done)
 rename_i hx;split at h<;>try (cases h;done)
 rename_i hb;split at h<;>try (cases h;done)
 rename_i l hl;split at h<;>cases h;rename_i hf
 cases hj:prog.info? t with
 |none=>rw[hj] at hs;cases hs
 |some j=>
 rw[hj] at hs;have hs':j.size=k:=Option.some.inj hs;have:nf prog t k:=⟨fun w=>AQ hu w,fun w=>by rw[vC hj w,hs']⟩;refine us hh ?_ hgo hv k';refine .yd fun ρ G ov a w r=>?_;obtain⟨y,h1,h2⟩:=r.ev hx;obtain⟨b,m,rfl,h3,h4,h5⟩:=r.own h2 hb;obtain⟨l',h6,h7⟩:=h4.takeX hl;have:jf ov b m _ _:=⟨h5⟩;exact⟨.agg ⟨l'⟩,Fc h7 hf,Ag h1 h6⟩
def RR(fr:aD)(cf:Cf)(off s:Nat):Option (TypeId×List DV×Int):=match dw fr cf with
 |some ⟨_, .index t x y,_,_,_,_⟩=>match ba (co fr cf) x with
  |some (.d (.ag ms))=>match ba (co fr cf) y with
   |some (.d (.v (.int _ i)))=>match takeD ms off s with
    |some l=>some (t,l,i)
    |none=>none
   |_=>none
  |_=>none
 |_=>none
def JX[fu:Fu](i:Nat){t e len s:Nat}{l:List DV}{ie:TI}(h:RR fr cf (i*s) s=some (t,l,((i:Nat):Int)))(hu:prog.underlying t=some (.array len e))(he:eH tt e=some ie)(hag:ie.ag=some (some s))(hi:i<len)
  (hgo:dl tt n fu.n fr own cf (.d (.ag l)) [] []=⟨vc,fr',own',cf'⟩)(k':ao prog GB C n Q0 fr' own' cf')
  (hv:autoParam (ae vc) cL._auto_1):ao prog GB C n Q0 fr own cf:=by
 unfold RR at h;split at h<;>try (cases h;done)
 rename_i hh;split at h<;>try (cases h;done)
 rename_i ms hx;split at h<;>try (cases h;done)
 rename_i kd i0 hy;split at h<;>cases h;rename_i hl;have hA:=xq (fp _ _ he) hag;refine us hh ?_ hgo hv k';refine .yd fun ρ G ov a w r=>?_;obtain⟨p,h1,h2⟩:=r.ev hx;obtain⟨q,h3,h4⟩:=r.ev hy;rw[dq] at h4;subst h4;obtain⟨m,rfl,hm⟩:=fC.1 (show Is G _ p from h2);obtain⟨l',h5,h6⟩:=hm.takeD hl;refine⟨.agg ⟨l'⟩,fC.2 ⟨l',J,h6⟩,?_⟩;intro a' w' hf hw;simp only[execOp,bu hf h1,bu hf h3];have:(Instr.index t (.agg ⟨m⟩) (.int kd (i:Nat))).run prog w'= .ok (.agg ⟨l'⟩) w':=by
  unfold Instr.index;show(underlying t>>=_).run prog w'=_;rw[bc (qD hu w')];have g0:0<=((i:Nat):Int):=rX i;have g1:((i:Nat):Int)<((len:Nat):Int):=by omega
  simp only[g0,g1,and_self,if_true];rw[bc (hA.siz w'),dR];unfold part;rw[bc (hA.agg w')];simp only[if_true];rw[bc (hA.siz w')];obtain⟨k1,k2⟩:=rA _ _ _ _ h5;have:(⟨m⟩:Array Value).extract (i*s) (i*s+s)=⟨l'⟩:=by
   apply Array.ext';rw[Array.toList_extract];apply kZ;intro j;rw[List.extract_eq_take_drop,pV];split
   .rw[mQ];exact k2 j we
   .exact(eJ (show l'.length<=j by omega)).symm
  rw[this];rfl
 exact dC this
end
section
variable {GB:Gh} {C:aH} {n:Nat} {Q0:Exit->Act->World->Prop} {fr fr':aD} {own own':aO} {cf cf':Cf} {vc:List Prop} {lk:LK} {bk:BM} {dst:Option Nat} {ty:TypeId} {pos:String} {af:Array Edge} {gd:Option (Nat×Bool)}
end
section
variable {GB:Gh} {C:aH} {n:Nat} {Q0:Exit->Act->World->Prop} {fr fr':aD} {own own':aO} {cf cf':Cf} {vc:List Prop} {lk:LK} {bk:BM} {dst:Option Nat} {ty:TypeId} {pos:String} {af:Array Edge} {gd:Option (Nat×Bool)}
end
def eZZ(p q:aa):DV:= .ag [vI (cC p.x),vI (cD p.x),cE p.x,vI (cC p.y),vI (cD p.y),cE p.y,vI (cC q.x),vI (cD q.x),cE q.x,vI (cC q.y),vI (cD q.y),cE q.y]
def ptE{C:aH}{n:Nat}{Q0:Exit->Act->World->Prop}{fr:aD}{own:aO}{ops:Array Oper}{r:List Oper}{K:List Kt}(k:Nat){l:List DV}(hl:bh fr k=some (.d (.pt l)))(h:ao prog GB C n Q0 ((k, .ep l)::fr) own (.ops ops r K)):ao prog GB C n Q0 fr own (.ops ops r K):=
 qO hl (fun ρ G y hy=>by
  obtain⟨b,m,rfl,h1,h2⟩:=tk.1 hy;have e:=h2.len;exact⟨b,0,m,m,J,h1,by rw[m9 m 0 l.length we,gJ,<-e,dV],h2⟩) h
def zF{G:Gh}{m:List Value}(h:IsLs G [vI 0,vI 0, .v (.pointer none)] m):IsLs G [vI (cC 0),vI (cD 0),cE 0] m:=by
 obtain⟨l,e,k⟩:=fC.1 (yP G (.agg ⟨m⟩) (fC.2 ⟨m,rfl,h⟩))
 cases e;exact k
def iu(v:List aa):List (aa×aa):=(List.range v.length).map fun i=>(v.getD i ⟨0,0⟩,v.getD ((i+1)%v.length) ⟨0,0⟩)
def di(cs:List (List ab)):List (aa×aa):=cs.flatMap fun c=>iu (ge c)
def cG(cs:List au):List (List ab):=cs.map fun c=>c.map (·.l)
def xN(x:aa×aa):List DV:=[eZZ x.1 x.2,eF (x.1.cross x.2)]
def Lg{α β:Type}(f:α->List β): ∀{l:List α} {k:Nat} {x:α} {i:Nat} {y:β},l[k]? =some x->(f x)[i]? =some y->(l.flatMap f)[((l.take k).flatMap f).length+i]? =some y
 |z::t,0,x,i,y,h,e=>by
  cases h
  simp only[rW,List.flatMap_nil,gQ,fX,kL];rw[dY (bQ.1 e).1];exact e
 |z::t,k+1,x,i,y,h,e=>by
  simp only[mT,kL,aR];rw[fL we];rw[show(f z).length+((t.take k).flatMap f).length+i-(f z).length=((t.take k).flatMap f).length+i by omega];exact Lg f omy e
def axe{α β:Type}(f:α->List β){l:List α}{k:Nat}{x:α}(h:l[k]? =some x):((l.take (k+1)).flatMap f).length=((l.take k).flatMap f).length+(f x).length:=by
 have:l.take (k+1)=l.take k++[x]:=by rw[iT,h];rfl
 rw[this,mL,aR];simp
def Ys(v:List aa){i:Nat}{p q:aa}(h1:v[i]? =some p)(h2:v[(i+1)%v.length]? =some q):(iu v)[i]? =some (p,q):=by
 have hi:=(bQ.1 h1).1;unfold iu;rw[cV,oU hi,jN,aJ,aJ,h1,h2];rfl
def Te(v:List aa):(iu v).length=v.length:=by unfold iu;simp
def Kf{cs:List au}{b:Nat}(hb: ∀c∈cs,∀s∈c,LB s.l)(hn: ∀c∈cs,c.length<=100000)(hl:cs.length<=1000000)(hpt: ∀x∈di (cG cs),aE x.1 b/\aE x.2 b)(hb4:b<=40000000):It GB prog 127 [.pt [.sl (cs.map eC)]] ((di (cG cs)).map xN):=by
 have hml:(cs.map eC).length=cs.length:=aK ..;refine aMa func127 J J ntmps127 J (fun _=>J) (fun l Jv Jx GB' hg H C hp hJ=>?_);obtain⟨n0,hn0⟩: ∃n0:Nat->Nat,n0=fun k=>(((cG cs).take k).flatMap fun c=>iu (ge c)).length:=⟨_,rfl⟩;refine ptE 1 J<|gx J<|ah 10 (.d (vI (cs.length:Nat))) J omr<|PG (X:=Nat) (fun k=>[(0, .d (.v (.func (.yield l) #[] #[]))),(9, .d (.sl (cs.map eC))),(10, .d (vI (cs.length:Nat))),(11, .d (vI (k:Nat)))]) (fun k C=>k<=cs.length/\Jv (n0 k) C.G0 C.w0) (fun k=>cs.length-k) 0 hp ⟨bS _,by rw[hn0];exact hJ⟩ (fun _=>J) (fun k C1 hp1 hk=>?_);obtain⟨hk1,hJ1⟩:=hk;refine br J J J (fun hc12=>?_) (fun hc12=>?_)
 .obtain⟨c,hx⟩: ∃u,cs[k]? =some u:=⟨_,aZ we⟩
  have hcm:=aT hx;have hxl:(cG cs)[k]? =some (c.map (·.l)):=by unfold cG;rw[cV,hx];rfl
  refine ix _ J (dP hx) J<|cl J (aDt (c:=c) (hb c hcm) (hn c hcm)) J<|?_;obtain⟨V,hV⟩: ∃V,V=ge (c.map (·.l)):=⟨_,rfl⟩;rw[<-hV];have hVl:(V.map eZ).length=V.length:=aK ..;have hVs:V.length<=100000:=by
   have:=EQ (c.map (·.l)) (c.map (·.l)).length;have h2:V.length<=(c.map (·.l)).length:=by rw[hV];exact this
   rw[aK] at h2;exact dJ h2 (hn c hcm)
  refine ah 18 (.d (vI (V.length:Nat))) J (by rw[hVl]<;>rfl)<|PG (X:=Nat) (fun i=>[(0, .d (.v (.func (.yield l) #[] #[]))),(9, .d (.sl (cs.map eC))),(10, .d (vI (cs.length:Nat))),(11, .d (vI (k:Nat))),(5, .d (.sl (V.map eZ))),(17, .d (.sl (V.map eZ))),(18, .d (vI (V.length:Nat))),(19, .d (vI (i:Nat)))]) (fun i C=>i<=V.length/\Jv (n0 k+i) C.G0 C.w0) (fun i=>V.length-i) 0 hp1 ⟨bS _,hJ1⟩ (fun _=>J) (fun i C2 hp2 hi=>?_);obtain⟨hi1,hJ2⟩:=hi;refine br J J J (fun hc20=>?_) (fun hc20=>?_)
  .obtain⟨p,hpx⟩: ∃u,V[i]? =some u:=⟨_,aZ we⟩
   obtain⟨q,hqx⟩: ∃u,V[(i+1)%V.length]? =some u:=⟨_,aZ (dQ _ we)⟩;have hpair:(di (cG cs))[n0 k+i]? =some (p,q):=by
    rw[hn0];exact Lg (fun c=>iu (ge c)) hxl (by rw[<-hV];exact Ys V hpx hqx)
   have hpq:=hpt _ (aT hpair);haveI:=hpq.1;haveI:=hpq.2;refine ix _ J (dP hpx) J<|ah 29 (.d (vI (((i+1)%V.length:Nat):Int))) J (by rw[hVl]<;>rfl)<|gx J<|ix _ J (dP hqx) J<|Ro (len:=2) (s:=6) (e:=119) J omd omd J<|cl J (Cr (p:=p) (q:=q) (i:=b) (j:=b) hb4 hb4) J<|Y' omd J ?_;refine cy [(0, .d (.v (.func (.yield l) #[] #[]))),(9, .d (.sl (cs.map eC))),(10, .d (vI (cs.length:Nat))),(11, .d (vI (k:Nat))),(5, .d (.sl (V.map eZ))),(17, .d (.sl (V.map eZ))),(18, .d (vI (V.length:Nat))),(19, .d (vI (i:Nat)))] H hp2 hJ2 J (by rw[cV,hpair];rfl) J (by repeat (first|exact trivial|refine And.intro J ?_)) J J J (fun C3 hp3 hJ3=>?_) (fun C3 hp3 hJ3=>?_)
   .exact RA (i+1) hp3 ⟨⟨we,hJ3⟩,we⟩
   .exact R9 H hp3 (.inr hJ3) J
  .have hi2:i=V.length:=by omega
   refine RA (k+1) hp2 ⟨⟨we,?_⟩,we⟩;have e:n0 (k+1)=n0 k+i:=by
    rw[hn0];show _=_+i;rw[hi2];have:=axe (fun c=>iu (ge c)) hxl;rw[<-hV,Te] at this;exact this
   rw[e];exact hJ2
 .refine R9 H hp1 (.inl ?_) J
  rw[aK];have e:n0 k=(di (cG cs)).length:=by
   rw[hn0];show((List.take k (cG cs)).flatMap _).length=_;rw[cZ (by unfold cG;rw[aK];omega)];rfl
  rw[<-e];exact hJ1
def GM{cs:List au}:Gk GB prog 73 [.sl (cs.map eC)] 127 (.pt [.sl (cs.map eC)]):=by
 refine WP func73 J J ntmps73 J J (fun C=>?_);refine fz 1 J J<|UC 1 J (fun GB' pv hg hp=>?_);refine mkG J J<|Yr J J hp

def AF(ps:List (List ab×Bool)):List (List ab):=(ps.filter (·.2)).map (·.1)

def axX(c:List ab):(ge c).length<=c.length:=EQ c _
theorem TV{c:List ab}(hb: ∀l∈c,LB l): ∀p∈ge c,aE p 1200:=fun p hp=>by
 obtain⟨l,hl,m,hm,rfl⟩:=azT hp;have:= @aE.imeet l m (hb l hl) (hb m hm);exact⟨this.x.mono oma,this.y.mono oma⟩
def Vp{p q:Rat}{i j:Nat}[hp:BQ p i][hq:BQ q j](hi:i<=100000000:=by decide):PF GB prog 37 [eR p,eR q] (vB (decide (p=q))):=by
 refine fn func37 J J ntmps37 J J (fun C=>?_);refine cl J (Yj (a:=p.num) (b:=q.num) (i:=i) (j:=j) we) J<|csd 10 J J J (fun hg10=>?_) (fun hg10=>?_)
 .
  refine cl J (Pn (a:=p.den) (b:=q.den) (i:=i) (j:=j) we) J<|rz J (by rw[show decide (p=q)=decide (p.den=q.den) from decide_eq_decide.2 ⟨fun e=>by rw[e],fun e=>Rat.ext hg10 e⟩]<;>rfl)
 .
  exact rz J (by rw[decide_eq_false (fun e:p=q=>hg10 okC)]<;>rfl)
def avJ{t:Tr}(h:t.all ab.ok):AF (oh t [])=(bF t).map fun c=>c.map (·.l):=aJi h
def Uc{α β:Type}{f:α->List β}{k:Nat}: ∀{l:List α},(∀x∈l,(f x).length<=k)->(l.flatMap f).length<=l.length*k
 |[],_=>by simp
 |a::t,h=>by
  have h1:=h a aQ;have h2:=Uc (f:=f) fun x hx=>h x (aX a hx);rw[kL,aR,bZ,iN];omega

theorem aE.mono{p:aa}{i j:Nat}(h:aE p i)(hj:i<=j:=by decide):aE p j:=⟨h.x.mono hj,h.y.mono hj⟩
def Ph{m n:Int}(hm:m.natAbs<=1000:=by decide)(hn:n.natAbs<=1000:=by decide):PF GB prog 77 [vI m,vI n] (eF ((m:Rat)/(n:Rat))):=by
 haveI:=jz (k:=11) hm;haveI:=jz (k:=11) hn;refine fn func77 J J ntmps77 J J (fun C=>?_);refine cl J (ti (m:=m) we) J<|cl J (ti (m:=n) we) J<|cl J (ya (p:=(m:Rat)) (q:=(n:Rat)) (i:=12) (j:=12)) J<|rz J J
def wM{α:Type}(f:α->Rat){l:List α}{k:Nat}{x:α}(h:l[k]? =some x):aB f (l.take (k+1))=aB f (l.take k)+f x:=by
 have:l.take (k+1)=l.take k++[x]:=by rw[iT,h];rfl
 rw[this,td];show _+(f x+0)=_;grind
structure KI (cs:List au) (b:Nat):Prop where
 lb: ∀c∈cs,∀s∈c,LB s.l
 sh: ∀c∈cs,c.length<=100000
 ln:cs.length<=1000000
 pt: ∀x∈di (cG cs),aE x.1 b/\aE x.2 b
def I'{L:List (aa×aa)}: ∀e∈L.map xN,e.length=2:=fun e he=>by
 obtain⟨x,_,rfl⟩:=aS.1 he;rfl
def KF{L:List (aa×aa)}{k:Nat}{e:List DV}(h:(L.map xN)[k]? =some e): ∃x,L[k]? =some x/\e=xN x:=by
 rw[cV] at h
 cases hl:L[k]? with
 |none=>rw[hl] at h;cases h
 |some x=>rw[hl] at h;cases h;exact⟨x,J,J⟩
def RU{cs:List au}{b m:Nat}(ho:KI cs b)(hb:b<=40000000)(hs: ∀k,BQ (aB (fun x=>x.1.cross x.2) ((di (cG cs)).take k)) m)(hm:m<=100000000)(hc: ∀x∈di (cG cs),BQ (x.1.cross x.2) m):
  PF GB prog 46 [.sl (cs.map eC)] (eF (aB (fun x=>x.1.cross x.2) (di (cG cs))*mkRat 1 2)):=by
 obtain⟨L,hL⟩: ∃L,L=di (cG cs):=⟨_,rfl⟩;obtain⟨Sm,hSm⟩: ∃Sm:Nat->Rat,Sm=fun k=>aB (fun x=>x.1.cross x.2) (L.take k):=⟨_,rfl⟩;have h00:Sm 0=0:=by rw[hSm];rfl
 have hSk: ∀k,BQ (Sm k) m:=by rw[hSm,hL];exact hs
 refine IE func46 J J ntmps46 J J (fun C h0=>?_);refine HD J J J GM (fun _=>J) (fun GB1 pv hg1 hpv=>?_);refine KM 3 [vI (cC 0),vI (cD 0),cE 0] rfl (fun G m=>zF) J<|wk 2 2000002 h0.fx J<|wk 3 2000003 h0.fx J ?_;refine KC (σ:=Empty) (fun k=>[(2000002,some (.o 113 [.d (vI 0), .d (vI 0), .d (.v (.pointer none))] true)),(2000003,some (.o 113 [.d (vI (cC (Sm k))), .d (vI (cD (Sm k))), .d (cE (Sm k))] true))]) (fun _=>True) (fun _=>[]) (fun _=>False) [(2, .ov 2000002 0),(3, .ov 2000003 0)]
  h0 J (Kf ho.lb ho.sh ho.ln ho.pt hb) (.cons hpv .nil) ⟨J,J,trivial⟩ J (by rw[h00];exact⟨J,J,trivial⟩) trivial I' J J (fun k e GB' hE hg hp=>?_) (fun D hD hx hp=>?_) (fun D s hD hx hq=>hq.elim)
 .obtain⟨x,hx,rfl⟩:=KF hE
  refine⟨?_,?_,fun C2=>?_,fun C2=>?_⟩
  rotate_left 2
  .refine gx J ?_
   exact atR
  .haveI:=hs k
   haveI:=hc x (aT hx);rw[<-hL] at hx;refine gx J<|cl J (ll (p:=Sm k) (q:=x.1.cross x.2) (i:=m) (j:=m) hm hm) J ?_;have e1:Sm (k+1)=Sm k+x.1.cross x.2:=by rw[hSm];exact wM _ hx
   exact rq trivial (by rw[e1];exact⟨J,J,trivial⟩)
 .have eN:Sm (((di (cG cs)).map xN).length)=aB (fun x=>x.1.cross x.2) (di (cG cs)):=by
   rw[hSm,hL,aK];show aB _ (List.take _ _)=_;rw[dV]
  haveI:BQ (aB (fun x=>x.1.cross x.2) (di (cG cs))) m:=by rw[<-eN];exact hSk _
  rw[eN];refine gx J<|cl J (GU (q:=aB (fun x=>x.1.cross x.2) (di (cG cs))) hm) J ?_;exact JT hD hx J J
def qa(x:aa×aa):aa:=(x.1.add x.2).scale (x.1.cross x.2)
def od{α:Type}(f:α->aa)(l:List α):aa:=⟨aB (fun x=>(f x).x) l,aB (fun x=>(f x).y) l⟩
def au6{α:Type}(f:α->aa){l:List α}{k:Nat}{x:α}(h:l[k]? =some x):od f (l.take (k+1))=(od f (l.take k)).add (f x):=by
 unfold od aa.add;rw[wM _ h,wM _ h]
def zZ{G:Gh}{m:List Value}(h:IsLs G [vI 0,vI 0, .v (.pointer none),vI 0,vI 0, .v (.pointer none)] m):IsLs G [vI (cC 0),vI (cD 0),cE 0,vI (cC 0),vI (cD 0),cE 0] m:=by
 obtain⟨y1,m1,rfl,h1,h⟩:=bO.1 h;obtain⟨y2,m2,rfl,h2,h⟩:=bO.1 h;obtain⟨y3,m3,rfl,h3,h⟩:=bO.1 h;have a:=zF (m:=[y1,y2,y3]) (.cons h1 (.cons h2 (.cons h3 .nil)));exact a.app (zF h)
def auh{cs:List au}{b m M:Nat}(ho:KI cs b)(hb:b<=10000000)(hs: ∀k,aE (od qa ((di (cG cs)).take k)) M)(hm:m<=10000000)(hM:M<=10000000)(hc: ∀x∈di (cG cs),BQ (x.1.cross x.2) m):
  PF GB prog 52 [.sl (cs.map eC)] (eZ ((od qa (di (cG cs))).scale (((1:Int):Rat)/((6:Int):Rat)))):=by
 obtain⟨L,hL⟩: ∃L,L=di (cG cs):=⟨_,rfl⟩;obtain⟨Sm,hSm⟩: ∃Sm:Nat->aa,Sm=fun k=>od qa (L.take k):=⟨_,rfl⟩;have h00:Sm 0=⟨0,0⟩:=by rw[hSm];rfl
 have hSk: ∀k,aE (Sm k) M:=by rw[hSm,hL];exact hs
 refine IE func52 J J ntmps52 J J (fun C h0=>?_);refine HD J J J GM (fun _=>J) (fun GB1 pv hg1 hpv=>?_);refine KM 3 [vI (cC 0),vI (cD 0),cE 0,vI (cC 0),vI (cD 0),cE 0] rfl (fun G m=>zZ) J<|wk 2 2000002 h0.fx J<|wk 3 2000003 h0.fx J ?_;refine KC (σ:=Empty) (fun k=>[(2000002,some (.o 119 [.d (vI 0), .d (vI 0), .d (.v (.pointer none)), .d (vI 0), .d (vI 0), .d (.v (.pointer none))] true)),(2000003,some (.o 119 [.d (vI (cC (Sm k).x)), .d (vI (cD (Sm k).x)), .d (cE (Sm k).x), .d (vI (cC (Sm k).y)), .d (vI (cD (Sm k).y)), .d (cE (Sm k).y)] true))]) (fun _=>True) (fun _=>[]) (fun _=>False) [(2, .ov 2000002 0),(3, .ov 2000003 0)]
  h0 J (Kf ho.lb ho.sh ho.ln ho.pt we) (.cons hpv .nil) ⟨J,J,trivial⟩ J (by rw[h00];exact⟨J,J,trivial⟩) trivial I' J J (fun k e GB' hE hg hp=>?_) (fun D hD hx hp=>?_) (fun D s hD hx hq=>hq.elim)
 .obtain⟨x,hx,rfl⟩:=KF hE
  refine⟨?_,?_,fun C2=>?_,fun C2=>?_⟩
  rotate_left 2
  .refine gx J<|F4 J J J ⟨J,J,J⟩ J ?_
   exact atR
  .haveI:=hSk k
   haveI:=hc x (aT hx);haveI:=(ho.pt x (aT hx)).1;haveI:=(ho.pt x (aT hx)).2;rw[<-hL] at hx;refine gx J<|lm 0 (e:=119) (len:=2) (s:=6) J omd omd oma J<|lm 1 (e:=119) (len:=2) (s:=6) J omd omd oma J<|cl J (AD (p:=x.1) (q:=x.2) (i:=b) (j:=b) we we) J<|cl J (x5 (p:=x.1.add x.2) (c:=x.1.cross x.2) (i:=b+b+1) (j:=m) we we) J<|cl J (AD (p:=Sm k) (q:=qa x) (i:=M) (j:=b+b+1+m) (hq:=inferInstanceAs (aE ((x.1.add x.2).scale (x.1.cross x.2)) _)) we we) J<|?_;have e1:Sm (k+1)=(Sm k).add (qa x):=by rw[hSm];exact au6 _ hx
   exact rq trivial (by rw[e1];exact⟨J,J,trivial⟩)
 .have eN:Sm (((di (cG cs)).map xN).length)=od qa (di (cG cs)):=by
   rw[hSm,hL,aK];show od _ (List.take _ _)=_;rw[dV]
  haveI:aE (od qa (di (cG cs))) M:=by rw[<-eN];exact hSk _
  haveI:BQ (((1:Int):Rat)/((6:Int):Rat)) 3:=⟨by decide+kernel,by decide+kernel⟩;rw[eN];refine gx J<|cl J (Ph (m:=1) (n:=6)) J<|cl J (x5 (p:=od qa (di (cG cs))) (c:=((1:Int):Rat)/((6:Int):Rat)) (i:=M) (j:=3) we oma) J<|?_;exact JT hD hx J J


def pz(x:aa×aa):Rat:=(x.1.x*x.1.x+x.2.x*x.2.x+(x.1.add x.2).x*(x.1.add x.2).x)*x.1.cross x.2
def qp(x:aa×aa):Rat:=(x.1.x*x.1.y+x.2.x*x.2.y+(x.1.add x.2).x*(x.1.add x.2).y)*x.1.cross x.2
def qe(x:aa×aa):Rat:=(x.1.y*x.1.y+x.2.y*x.2.y+(x.1.add x.2).y*(x.1.add x.2).y)*x.1.cross x.2
structure oA (cs:List au):Prop where
 ed:KI cs 1200
 cr: ∀x∈di (cG cs),BQ (x.1.cross x.2) 5000
 ar: ∀k,BQ (aB (fun x=>x.1.cross x.2) ((di (cG cs)).take k)) 2000000
 mo: ∀k,aE (od qa ((di (cG cs)).take k)) 3000000
 sa: ∀k,BQ (aB pz ((di (cG cs)).take k)) 4000000
 sb: ∀k,BQ (aB qp ((di (cG cs)).take k)) 4000000
 sc: ∀k,BQ (aB qe ((di (cG cs)).take k)) 4000000
def iD(t:Tr):Rat:=aB (fun x=>x.1.cross x.2) (di (cG (bF t)))*mkRat 1 2
def oF(t:Tr):aa:=(od qa (di (cG (bF t)))).scale (((1:Int):Rat)/((6:Int):Rat))
theorem oA.cr2{cs:List au}(h:oA cs): ∀x∈di (cG cs),BQ (x.1.cross x.2) 2000000:=fun x hx=>(h.cr x hx).mono oma
theorem oA.ar1{cs:List au}(h:oA cs):BQ (aB (fun x=>x.1.cross x.2) (di (cG cs))) 2000000:=by
 have:=h.ar (di (cG cs)).length;rwa [dV] at this
theorem oA.mo1{cs:List au}(h:oA cs):aE (od qa (di (cG cs))) 3000000:=by
 have:=h.mo (di (cG cs)).length;rwa [dV] at this
theorem oA.area{t:Tr}(h:oA (bF t)):BQ (iD t) 2000003:=by
 haveI:=h.ar1;exact BQ.mono (inferInstance:BQ (aB (fun x=>x.1.cross x.2) (di (cG (bF t)))*mkRat 1 2) _)
theorem azv:BQ (((1:Int):Rat)/((6:Int):Rat)) 3:=⟨by decide+kernel,by decide+kernel⟩
theorem oA.mom{t:Tr}(h:oA (bF t)):aE (oF t) 3000005:=by
 haveI:=h.mo1;haveI:=azv;exact aE.mono (inferInstance:aE ((od qa (di (cG (bF t)))).scale (((1:Int):Rat)/((6:Int):Rat))) _)
def azY{k0:Nat}{t:Tr}(h:ju k0 t)(hk0:k0<=900):PF GB prog 97 [eA t] (.tp [.sl ((bF t).map eC), .v .nilIface]):=by
 have hts:=h.s;have htd:=h.dp;refine fn func97 J J ntmps97 J J (fun C=>?_);refine cl (fu:=⟨12⟩) J (Li h) J<|rk 12 J<|gx J<|cl (fu:=⟨0⟩) J (GV (t:=t) we) J<|ew J (omh we) J<|cl J (aDS h.lb h.ok we we) J<|rz J J
def YN{cs:List au}(hn: ∀c∈cs,c.length<=100000)(hl:cs.length<=1000000):PF GB prog 98 [.sl (cs.map eC)] (vB (cs.all dB)):=by
 have hml:(cs.map eC).length=cs.length:=aK ..;refine fn (fu:=⟨10⟩) func98 J J ntmps98 J J (fun C=>?_);refine ah 6 (.d (vI (cs.length:Nat))) J omr<|gx J<|lp (X:=Nat) (fun k=>[(7, .d (vI (k:Nat)))]) (fun k=>[]) (fun k=>k<=cs.length/\cs.all dB=(cs.drop k).all dB) (fun k=>cs.length-k) 0 J ⟨bS _,by rw[gJ]⟩ (fun _=>J) (fun k hk=>?_);refine br J J J (fun hc8=>?_) (fun hc8=>?_)
 .
  obtain⟨c,hx⟩: ∃u,cs[k]? =some u:=⟨_,aZ we⟩;refine ix _ J (dP hx) J<|cl J (YX (c:=c) (hn c (aT hx))) J<|bb J J J (fun hc13=>?_) (fun hc13=>?_)
  .
   have hS:cs.all dB=false:=by rw[hk.2,An hx];rw[fM] at hc13;rw[hc13];rfl
   exact rz J (by rw[hS];rfl)
  .
   rw[Bool.not_eq_false'] at hc13;exact at_ (k+1) ⟨⟨we,by rw[hk.2,An hx,hc13,qT]⟩,we⟩
 .
  have hS:cs.all dB=true:=by rw[hk.2,gT we];rfl
  exact rz J (by rw[hS];rfl)
def Jb{k0:Nat}{t:Tr}(h:ju k0 t)(hk0:k0<=900)(hbd:(bF t).all dB=true):PF GB prog 45 [eA t] (.tp [.sl ((bF t).map eC), .v .nilIface]):=by
 obtain⟨cs,hcs⟩: ∃cs,cs=bF t:=⟨_,rfl⟩;have hts:=h.s;have htd:=h.dp;have hcl:=Ge t;have hcn:=If h.lb h.ok;rw[<-hcs] at hcl hcn;rw[<-hcs] at hbd;refine fn func45 J J ntmps45 J J (fun C=>?_);refine cl (fu:=⟨0⟩) J (azY h hk0) J<|ah 8 (.d (.tp [.sl (cs.map eC), .v .nilIface])) J (by rw[hcs])<|gx J<|cl (fu:=⟨0⟩) J (YN (cs:=cs) (fun c hc=>by have:=hcn c hc;omega) we) J<|ah 15 (.d (vB true)) J (by rw[hbd])<|rk 15 J<|gx J<|rz J (by rw[<-hcs];rfl)
def Ng{k0:Nat}{t:Tr}(h:ju k0 t)(hk0:k0<=900)(hbd:(bF t).all dB=true)(hm:oA (bF t)):PF GB prog 14 [eA t] (.tp [eR (iD t), .v .nilIface]):=by
 haveI:=hm.area;refine fn func14 J J ntmps14 J J (fun C=>?_);refine cl J (Jb h hk0 hbd) J<|cl J (RU hm.ed oma hm.ar oma hm.cr2) J<|cl J (z6 (q:=iD t) (i:=2000003)) J<|rz J J
def XI{k0:Nat}{t:Tr}(h:ju k0 t)(hk0:k0<=900)(hbd:(bF t).all dB=true)(hm:oA (bF t))(h0:(bF t).length≠0):PF GB prog 19 [eA t] (.tp [o5 ((oF t).scale (iD t)⁻¹), .v .nilIface]):=by
 have hml:((bF t).map eC).length=(bF t).length:=aK ..;haveI:=hm.mom;haveI:=hm.area;refine fn func19 J J ntmps19 J J (fun C=>?_);refine cl (fu:=⟨21⟩) J (Jb h hk0 hbd) J<|ah 18 (.d (vI ((bF t).length:Nat))) J omr<|gx (fu:=⟨0⟩) J<|ew J (omh we) J<|cl J (auh hm.ed oma hm.mo oma oma hm.cr) J<|cl J (RU hm.ed oma hm.ar oma hm.cr2) J<|cl J (Gc (q:=iD t) (i:=2000003)) J<|cl J (x5 (p:=oF t) (c:=(iD t)⁻¹) (i:=3000005) (j:=2000003)) J<|cl J (Yc (p:=(oF t).scale (iD t)⁻¹) (i:=3000005+2000003)) J<|rz J J
def vi:Rat:=((1:Int):Rat)/((24:Int):Rat)
def uV(f:aa×aa->Rat)(t:Tr):Rat:=aB f (di (cG (bF t)))*vi
def zF3{G:Gh}{m:List Value}(h:IsLs G [vI 0,vI 0, .v (.pointer none),vI 0,vI 0, .v (.pointer none),vI 0,vI 0, .v (.pointer none)] m):IsLs G [vI (cC 0),vI (cD 0),cE 0,vI (cC 0),vI (cD 0),cE 0,vI (cC 0),vI (cD 0),cE 0] m:=by
 obtain⟨y1,m1,rfl,h1,h⟩:=bO.1 h;obtain⟨y2,m2,rfl,h2,h⟩:=bO.1 h;obtain⟨y3,m3,rfl,h3,h⟩:=bO.1 h;have a:=zF (m:=[y1,y2,y3]) (.cons h1 (.cons h2 (.cons h3 .nil)));exact a.app (zZ h)
theorem WO:BQ vi 6:=⟨by decide+kernel,by decide+kernel⟩
def aGU{k0:Nat}{t:Tr}(h:ju k0 t)(hk0:k0<=900)(hbd:(bF t).all dB=true)(hm:oA (bF t)):PF GB prog 34 [eA t] (.tp [eR (uV pz t),eR (uV qp t),eR (uV qe t), .v .nilIface]):=by
 obtain⟨cs,hcs⟩: ∃cs,cs=bF t:=⟨_,rfl⟩;obtain⟨L,hL⟩: ∃L,L=di (cG cs):=⟨_,rfl⟩;rw[<-hcs] at hm;obtain⟨Sa,hSa⟩: ∃S:Nat->Rat,S=fun k=>aB pz (L.take k):=⟨_,rfl⟩;obtain⟨Sb,hSb⟩: ∃S:Nat->Rat,S=fun k=>aB qp (L.take k):=⟨_,rfl⟩;obtain⟨Sc,hSc⟩: ∃S:Nat->Rat,S=fun k=>aB qe (L.take k):=⟨_,rfl⟩;have ha0:Sa 0=0:=by rw[hSa];rfl
 have hb0:Sb 0=0:=by rw[hSb];rfl
 have hc0:Sc 0=0:=by rw[hSc];rfl
 have hSak: ∀k,BQ (Sa k) 4000000:=by rw[hSa,hL];exact hm.sa
 have hSbk: ∀k,BQ (Sb k) 4000000:=by rw[hSb,hL];exact hm.sb
 have hSck: ∀k,BQ (Sc k) 4000000:=by rw[hSc,hL];exact hm.sc
 refine IE func34 J J ntmps34 J J (fun C h0=>?_);refine cl J (Jb h hk0 hbd) J<|HD J J J GM (fun _=>J) (fun GB1 pv hg1 hpv=>?_);refine KM 8 [vI (cC 0),vI (cD 0),cE 0,vI (cC 0),vI (cD 0),cE 0,vI (cC 0),vI (cD 0),cE 0] rfl (fun G m=>zF3) J<|wk 2 2000002 h0.fx J<|wk 3 2000003 h0.fx J<|wk 4 2000004 h0.fx J<|wk 8 2000008 h0.fx J ?_;refine KC (σ:=Empty) (fun k=>[(2000002,some (.o 48 [.ff, .nl, .nl] true)),(2000003,some (.o 48 [.ff, .nl, .nl] true)),(2000004,some (.o 48 [.ff, .nl, .nl] true)),(2000008,some (.o 142 [.d (vI (cC (Sa k))), .d (vI (cD (Sa k))), .d (cE (Sa k)), .d (vI (cC (Sb k))), .d (vI (cD (Sb k))), .d (cE (Sb k)), .d (vI (cC (Sc k))), .d (vI (cD (Sc k))), .d (cE (Sc k))] true))]) (fun _=>True) (fun _=>[]) (fun _=>False) [(2, .ov 2000002 0),(3, .ov 2000003 0),(4, .ov 2000004 0),(8, .ov 2000008 0)]
  h0 J (Kf (cs:=bF t) (by rw[<-hcs];exact hm.ed.lb) (by rw[<-hcs];exact hm.ed.sh) (by rw[<-hcs];exact hm.ed.ln) (by rw[<-hcs];exact hm.ed.pt) oma) (.cons hpv .nil) ⟨J,J,J,J,trivial⟩ J (by rw[ha0,hb0,hc0];exact⟨J,J,J,J,trivial⟩) trivial I' J J (fun k e GB' hE hg hp=>?_) (fun D hD hx hp=>?_) (fun D s hD hx hq=>hq.elim)
 .obtain⟨x,hx,rfl⟩:=KF hE
  rw[<-hcs] at hx;refine⟨?_,?_,fun C2=>?_,fun C2=>?_⟩
  rotate_left 2
  .refine gx J<|F4 J J J ⟨J,J,J⟩ J ?_
   exact atR
  .haveI:=hSak k
   haveI:=hSbk k;haveI:=hSck k;haveI:=hm.cr x (aT hx);haveI hp1:=(hm.ed.pt x (aT hx)).1;haveI hp2:=(hm.ed.pt x (aT hx)).2;haveI:=hp1.x;haveI:=hp1.y;haveI:=hp2.x;haveI:=hp2.y;haveI hp3:aE (x.1.add x.2) 2401:=inferInstance;haveI:=hp3.x;haveI:=hp3.y;rw[<-hL] at hx;refine gx J<|lm 0 (e:=119) (len:=2) (s:=6) J omd omd oma J<|lm 1 (e:=119) (len:=2) (s:=6) J omd omd oma J<|cl J (AD (p:=x.1) (q:=x.2) (i:=1200) (j:=1200)) J<|cl J (iz (p:=x.1.x) (q:=x.1.x) (i:=1200) (j:=1200)) J<|cl J (iz (p:=x.2.x) (q:=x.2.x) (i:=1200) (j:=1200)) J<|cl J (ll (p:=x.1.x*x.1.x) (q:=x.2.x*x.2.x)) J<|cl J (iz (p:=(x.1.add x.2).x) (q:=(x.1.add x.2).x) (i:=2401) (j:=2401)) J<|cl J (ll (p:=x.1.x*x.1.x+x.2.x*x.2.x) (q:=(x.1.add x.2).x*(x.1.add x.2).x)) J<|cl J (iz (p:=x.1.x) (q:=x.1.y) (i:=1200) (j:=1200)) J<|cl J (iz (p:=x.2.x) (q:=x.2.y) (i:=1200) (j:=1200)) J<|cl J (ll (p:=x.1.x*x.1.y) (q:=x.2.x*x.2.y)) J<|cl J (iz (p:=(x.1.add x.2).x) (q:=(x.1.add x.2).y) (i:=2401) (j:=2401)) J<|cl J (ll (p:=x.1.x*x.1.y+x.2.x*x.2.y) (q:=(x.1.add x.2).x*(x.1.add x.2).y)) J<|cl J (iz (p:=x.1.y) (q:=x.1.y) (i:=1200) (j:=1200)) J<|cl J (iz (p:=x.2.y) (q:=x.2.y) (i:=1200) (j:=1200)) J<|cl J (ll (p:=x.1.y*x.1.y) (q:=x.2.y*x.2.y)) J<|cl J (iz (p:=(x.1.add x.2).y) (q:=(x.1.add x.2).y) (i:=2401) (j:=2401)) J<|cl J (ll (p:=x.1.y*x.1.y+x.2.y*x.2.y) (q:=(x.1.add x.2).y*(x.1.add x.2).y)) J<|Ro (len:=3) (s:=3) (e:=113) J omd omd J<|F4 J J J ⟨J,J,J⟩ J<|ldA 9 (len:=3) (e:=113) J omd omd J<|lp (X:=Nat) (fun i=>[(93, .d (vI (i:Nat)))]) (fun i=>[(2000008,some (.o 142 [.d (vI (cC (if 0<i then Sa k+pz x else Sa k))), .d (vI (cD (if 0<i then Sa k+pz x else Sa k))), .d (cE (if 0<i then Sa k+pz x else Sa k)), .d (vI (cC (if 1<i then Sb k+qp x else Sb k))), .d (vI (cD (if 1<i then Sb k+qp x else Sb k))), .d (cE (if 1<i then Sb k+qp x else Sb k)), .d (vI (cC (if 2<i then Sc k+qe x else Sc k))), .d (vI (cD (if 2<i then Sc k+qe x else Sc k))), .d (cE (if 2<i then Sc k+qe x else Sc k))] true))]) (fun i=>i<=3) (fun i=>3-i) 0 J we (fun _=>J) (fun i hi=>?_)
   refine br J J J (fun hc94=>?_) (fun hc94=>?_)
   .obtain rfl|rfl|rfl:i=0\/i=1\/i=2:=by omega
    .refine JX 0 (len:=3) (s:=3) (e:=113) J omd J J oma J<|lm 0 (e:=113) (len:=3) (s:=3) J omd omd oma J<|cl J (iz (p:=(x.1.x*x.1.x+x.2.x*x.2.x+(x.1.add x.2).x*(x.1.add x.2).x)) (q:=x.1.cross x.2) (j:=5000)) J<|cl J (ll (p:=Sa k) (q:=(x.1.x*x.1.x+x.2.x*x.2.x+(x.1.add x.2).x*(x.1.add x.2).x)*x.1.cross x.2) (i:=4000000)) J<|lm (hv:=by simp only[ae];exact⟨omd,we⟩) 0 (e:=113) (len:=3) (s:=3) J omd omd oma J<|at_ 1 ⟨we,we⟩
    .refine JX 1 (len:=3) (s:=3) (e:=113) J omd J J oma J<|lm 1 (e:=113) (len:=3) (s:=3) J omd omd oma J<|cl J (iz (p:=(x.1.x*x.1.y+x.2.x*x.2.y+(x.1.add x.2).x*(x.1.add x.2).y)) (q:=x.1.cross x.2) (j:=5000)) J<|cl J (ll (p:=Sb k) (q:=(x.1.x*x.1.y+x.2.x*x.2.y+(x.1.add x.2).x*(x.1.add x.2).y)*x.1.cross x.2) (i:=4000000)) J<|lm (hv:=by simp only[ae];exact⟨omd,we⟩) 1 (e:=113) (len:=3) (s:=3) J omd omd oma J<|at_ 2 ⟨we,we⟩
    .refine JX 2 (len:=3) (s:=3) (e:=113) J omd J J oma J<|lm 2 (e:=113) (len:=3) (s:=3) J omd omd oma J<|cl J (iz (p:=(x.1.y*x.1.y+x.2.y*x.2.y+(x.1.add x.2).y*(x.1.add x.2).y)) (q:=x.1.cross x.2) (j:=5000)) J<|cl J (ll (p:=Sc k) (q:=(x.1.y*x.1.y+x.2.y*x.2.y+(x.1.add x.2).y*(x.1.add x.2).y)*x.1.cross x.2) (i:=4000000)) J<|lm (hv:=by simp only[ae];exact⟨omd,we⟩) 2 (e:=113) (len:=3) (s:=3) J omd omd oma J<|at_ 3 ⟨we,we⟩
   .obtain rfl:i=3:=by omega
    have e1:Sa (k+1)=Sa k+pz x:=by rw[hSa];exact wM _ hx
    have e2:Sb (k+1)=Sb k+qp x:=by rw[hSb];exact wM _ hx
    have e3:Sc (k+1)=Sc k+qe x:=by rw[hSc];exact wM _ hx
    exact rq trivial (by rw[e1,e2,e3];exact⟨J,J,J,J,trivial⟩)
 .have eN:((di (cG (bF t))).map xN).length=L.length:=by rw[aK,<-hcs,<-hL]
  rw[eN];have ea:Sa L.length=aB pz L:=by rw[hSa];show aB _ (List.take _ _)=_;rw[dV]
  have eb:Sb L.length=aB qp L:=by rw[hSb];show aB _ (List.take _ _)=_;rw[dV]
  have ec:Sc L.length=aB qe L:=by rw[hSc];show aB _ (List.take _ _)=_;rw[dV]
  haveI:BQ (aB pz L) 4000000:=by rw[<-ea];exact hSak _
  haveI:BQ (aB qp L) 4000000:=by rw[<-eb];exact hSbk _
  haveI:BQ (aB qe L) 4000000:=by rw[<-ec];exact hSck _
  haveI:=WO;rw[ea,eb,ec];refine gx J<|cl J (Ph (m:=1) (n:=24)) J<|lm 0 (e:=113) (len:=3) (s:=3) J omd omd oma J<|cl J (iz (p:=aB pz L) (q:=vi) (i:=4000000) (j:=6)) J<|cl J (z6 (q:=aB pz L*vi) (i:=4000006)) J<|lm 1 (e:=113) (len:=3) (s:=3) J omd omd oma J<|cl J (iz (p:=aB qp L) (q:=vi) (i:=4000000) (j:=6)) J<|cl J (z6 (q:=aB qp L*vi) (i:=4000006)) J<|lm 2 (e:=113) (len:=3) (s:=3) J omd omd oma J<|cl J (iz (p:=aB qe L) (q:=vi) (i:=4000000) (j:=6)) J<|cl J (z6 (q:=aB qe L*vi) (i:=4000006)) J<|?_;exact JT hD hx J (by unfold uV;rw[<-hcs,<-hL];rfl)
structure DQ (D B:Nat) (x:Rat):Prop where
 ex: ∃n:Int,x*((D:Nat):Rat)=(n:Rat)/\n.natAbs<=B*D
theorem DQ.bq{D B k:Nat}{x:Rat}(h:DQ D B x)(h0:0<D)(h1:D<2^k)(h2:B*D<2^k):BQ x k:=by
 obtain⟨n,e,hn⟩:=h.ex;exact BQ.of_frac h0 e we h1
def DQ.mono{D B C:Nat}{x:Rat}(h:DQ D B x)(hc:B<=C):DQ D C x:=by
 obtain⟨n,e,hn⟩:=h.ex;exact⟨n,e,dJ hn (bR D hc)⟩
def DQ.add{D B C:Nat}{x y:Rat}(h:DQ D B x)(k:DQ D C y):DQ D (B+C) (x+y):=by
 obtain⟨n,e,hn⟩:=h.ex;obtain⟨m,f,hm⟩:=k.ex;refine⟨n+m,by rw[mY,<-e,<-f];grind,?_⟩;have:=Int.natAbs_add_le n m;rw[dW];omega
def DQ.neg{D B:Nat}{x:Rat}(h:DQ D B x):DQ D B (-x):=by
 obtain⟨n,e,hn⟩:=h.ex;exact⟨-n,by rw[iX,<-e];grind,by rw[iJ];exact hn⟩
def DQ.sub{D B C:Nat}{x y:Rat}(h:DQ D B x)(k:DQ D C y):DQ D (B+C) (x-y):=by
 have:=h.add k.neg;rw[show x-y=x+ -y by grind];exact this
def DQ.mul{D E B C:Nat}{x y:Rat}(h:DQ D B x)(k:DQ E C y):DQ (D*E) (B*C) (x*y):=by
 obtain⟨n,e,hn⟩:=h.ex;obtain⟨m,f,hm⟩:=k.ex;refine⟨n*m,?_,?_⟩
 .rw[cS,<-e,<-f,Rat.natCast_mul];grind
 .rw[iR]
  refine dJ (iK hn hm) (Nat.le_of_eq ?_);rw[Nat.mul_mul_mul_comm]
def DQ.zero(D B:Nat):DQ D B 0:=⟨0,omb,omc⟩
def oe(l m:ab):Nat:=if crossI l m=0 then 1 else(crossI l m).natAbs
def aDW(l m:ab):0<oe l m:=by unfold oe;split<;>omega
def at7(l m:ab):crossI l.rev m= -crossI l m:=by
 unfold crossI ab.rev;show-l.a*m.b-m.a* -l.b=_;rw[Int.neg_mul,sS];omega
def Ve(l m:ab):crossI l m.rev= -crossI l m:=by
 unfold crossI ab.rev;show l.a* -m.b- -m.a*l.b=_;rw[Int.neg_mul,sS];omega
def aBD{l m l' m':ab}(h:l.same l')(k:m.same m'):oe l' m'=oe l m:=by
 have e1:oe l' m'=oe l m':=by
  rcases h with rfl|rfl
  .rfl
  .unfold oe;rw[at7];simp only[Int.neg_eq_zero,iJ]
 rw[e1];rcases k with rfl|rfl
 .rfl
 .unfold oe;rw[Ve];simp only[Int.neg_eq_zero,iJ]
def DJ(K:List ab):List Nat:=K.flatMap fun l=>K.map (oe l)
def En(K:List ab):Nat:=(DJ K).foldr (· * ·) 1
def PZ{n:Nat}: ∀{l:List Nat},n∈l->n∣l.foldr (· * ·) 1
 |a::t,h=>by
  rw[List.foldr_cons];rcases aW.1 h with rfl|h
  .exact Nat.dvd_mul_right _ _
  .exact sT (PZ h) (Nat.dvd_mul_left _ _)
def Tv: ∀{l:List Nat},(∀n∈l,0<n)->0<l.foldr (· * ·) 1
 |[],_=>by decide
 |a::t,h=>by rw[List.foldr_cons];exact gM (h a aQ) (Tv fun n hn=>h n (aX _ hn))
def PT{b:Nat}: ∀{l:List Nat},(∀n∈l,n<=2^b)->l.foldr (· * ·) 1<=2^(b*l.length)
 |[],_=>by simp
 |a::t,h=>by
  rw[List.foldr_cons,bZ,Nat.mul_succ,kX,fN];exact iK (h a aQ) (PT fun n hn=>h n (aX _ hn))
def X'(K:List ab):(DJ K).length=K.length*K.length:=by
 unfold DJ;rw[List.length_flatMap];have: ∀Jv:List ab,(Jv.map fun l=>(K.map (oe l)).length).sum=Jv.length*K.length:=by
  intro Jv
  induction Jv with
  |nil=>simp
  |cons a t ih=>rw[cJ,List.sum_cons,ih,aK,bZ,iN];omega
 exact this K
def ZT(K:List ab):0<En K:=Tv fun n hn=>by
 obtain⟨l,_,h⟩:=dK.1 hn;obtain⟨m,_,rfl⟩:=aS.1 h;exact aDW l m
def Vc{K:List ab}{l m:ab}(hl:l∈K)(hm:m∈K):oe l m∣En K:=PZ (dK.2 ⟨l,hl,eX hm⟩)
def Wr{l m:ab}(hl:LB l)(hm:LB m):oe l m<=2^385:=by
 have h1:=(inferInstance:BI (crossI l m) 385).h;generalize 385=kk at h1⊢;unfold oe;split
 .exact Nat.one_le_two_pow
 .exact mX h1
def aFb{K:List ab}(h: ∀l∈K,LB l):En K<=2^(385*(K.length*K.length)):=by
 have:=PT (b:=385) (l:=DJ K) fun n hn=>by
  obtain⟨l,hl,h2⟩:=dK.1 hn;obtain⟨m,hm,rfl⟩:=aS.1 h2;exact Wr (h l hl) (h m hm)
 rw[X'] at this;exact this
def Pb{x:Rat}{n c:Int}{D kk:Nat}(hc:c≠0)(hx:x=(n:Rat)/(c:Rat))(hn:n.natAbs<=2^kk)(hd:c.natAbs∣D):DQ D (2^kk) x:=by
 obtain⟨e,he⟩:=hd;have hc':(c:Rat)≠0:=fun h=>hc (eM.1 h);have hD:((D:Nat):Rat)=((c.natAbs:Int):Rat)*((e:Int):Rat):=by rw[<-cS,<-Rat.intCast_natCast,he];rfl
 have bd:(n*(e:Int)).natAbs<=2^kk*D:=by
  rw[iR,jL];refine iK hn ?_;rw[he];exact Nat.le_mul_of_pos_left e we
 rcases Int.natAbs_eq c with h|h
 .refine⟨n*(e:Int),?_,bd⟩
  rw[hD,<-h,hx,cS];grind
 .refine⟨-(n*(e:Int)),?_,by rw[iJ];exact bd⟩
  have h2:(c.natAbs:Int)= -c:=by omega
  rw[hD,h2,hx,iX,iX,cS];grind
structure DP (D B:Nat) (p:aa):Prop where
 x:DQ D B p.x
 y:DQ D B p.y
def Vm{l m:ab}(hl:LB l)(hm:LB m)(h:crossI l m≠0){D:Nat}(hd:oe l m∣D):DP D (2^385) (c9 l m):=by
 have h1:=(inferInstance:BI (meetX l m) 385).h;have h2:=(inferInstance:BI (meetY l m) 385).h;generalize 385=kk at h1 h2⊢;unfold oe at hd;rw[if_neg h] at hd;have e:c9 l m=⟨(meetX l m:Rat)/(crossI l m:Rat),(meetY l m:Rat)/(crossI l m:Rat)⟩:=by unfold c9;rw[if_neg h]
 rw[e];exact⟨Pb h J (mX h1) hd,Pb h J (mX h2) hd⟩
def DP.cross{D B C:Nat}{p q:aa}(h:DP D B p)(k:DP D C q):DQ (D*D) (2*(B*C)) (p.cross q):=by
 have:=(h.x.mul k.y).sub (h.y.mul k.x);refine DQ.mono this we
def DP.add{D B C:Nat}{p q:aa}(h:DP D B p)(k:DP D C q):DP D (B+C) (p.add q):=⟨h.x.add k.x,h.y.add k.y⟩
def DP.scale{D E B C:Nat}{p:aa}{c:Rat}(h:DP D B p)(k:DQ E C c):DP (D*E) (B*C) (p.scale c):=⟨h.x.mul k,h.y.mul k⟩
def Vj{k:Nat}{t:Tr}(h:ju k t): ∃K:List ab,K.length<=k/\(∀l∈K,LB l)/\t.all fun l=> ∃m∈K,m.same l:=by
 obtain⟨K,h1,h2,h3⟩:=h.o.am;refine⟨K.filter fun m=>t.lns.any fun l=>decide (m.same l),dJ (nU ..) h1,fun m hm=>?_,?_⟩
 .obtain⟨hm1,hm2⟩:=iZ.1 hm
  obtain⟨l,hl,e⟩:=jY.1 hm2;have hb:=sB.1 h.lb l hl;have e':m.same l:=by simpa using e
  rcases e' with rfl|rfl
  .exact hb
  .haveI:=hb
   have:LB m.rev.rev:=inferInstance;rwa [show m.rev.rev=m from by unfold ab.rev;cases m;simp] at this
 .have h3:=sB.1 h3
  refine sB.2 fun l hl=>?_;obtain⟨m,hm,e⟩:=h3 l hl;exact⟨m,iZ.2 ⟨hm,jY.2 ⟨l,hl,decide_eq_true e⟩⟩,e⟩
def DO{P:ab->Prop}(hr: ∀l,P l->P l.rev): ∀{t:Tr} {c:au} {x:Bool×au},t.all P->(∀s∈c,P s.l)->x∈t.parts c-> ∀s∈x.2,P s.l
 | .leaf b,c,x,_,hc,h=>by
  rw[Tr.parts,aV] at h;subst h;exact hc
 | .node l u v,c,x,ht,hc,h=>by
  have cl: ∀k,P k-> ∀s∈b9 c k,P s.l:=fun k hk s hs=>by
   unfold b9 at hs;split at hs
   .rcases pk.1 hs with rfl|hs
    .exact hk
    .obtain⟨s0,g,_,rfl⟩:=tB.1 hs
     exact hc s0 g
   .exact hc s hs
  rw[Tr.parts] at h;rcases bJ.1 h with h|h
  .split at h
   .exact DO hr ht.2.1 (cl l ht.1) h
   .cases h
  .split at h
   .exact DO hr ht.2.2 (cl l.rev (hr l ht.1)) h
   .cases h
def aBB{k:Nat}{t:Tr}(h:ju k t): ∃D:Nat,0<D/\D<=2^(385*(k*k))/\ ∀c∈bF t,∀p∈ge (c.map (·.l)),DP D (2^385) p:=by
 obtain⟨K,h1,h2,h3⟩:=Vj h;refine⟨En K,ZT K,dJ (aFb h2) (cY oma (fV 385 (iK h1 h1))),fun c hc p hp=>?_⟩;have hs:=DO (P:=fun l=> ∃m∈K,m.same l) (fun l ⟨m,hm,e⟩=>⟨m,hm,by
  rcases e with rfl|rfl
  .exact .inr J
  .exact .inl (by unfold ab.rev;cases m;simp)⟩) h3 (fun s hs=>by cases hs) (n8.1 hc)
 have hb:=GJ h.lb h.ok c hc;obtain⟨i,hi,hp⟩:=dK.1 hp;have hi':=dS.1 hi;have e1:=aZ hi';have e2:=aZ (l:=c.map (·.l)) (dQ (i+1) (show 0<(c.map (·.l)).length by omega));rw[yF e1 e2] at hp;split at hp
 .rename_i hx
  rw[aV.1 hp];obtain⟨s,s1,s2⟩:=aS.1 (bN hi');obtain⟨u,u1,u2⟩:=aS.1 (bN (dQ (i+1) (show 0<(c.map (·.l)).length by omega)));rw[<-s2,<-u2] at hx⊢;obtain⟨m,hm,em⟩:=hs s s1;obtain⟨n,hn,en⟩:=hs u u1;exact Vm (hb s s1) (hb u u1) (Hr hx) (by rw[aBD em en];exact Vc hm hn)
 .cases hp
theorem E3{D B a b k:Nat}{x:Rat}(h:DQ D B x)(h0:0<D)(hD:D<=2^a)(hB:B<=2^b)(hk:a+b<k:=by decide):BQ x k:=by
 refine h.bq h0 (gU hD (sL oma we)) ?_;refine gU (iK hB hD) ?_;rw[<-fN];exact sL oma we
def FZ{x y a b:Nat}(hx:x<=2^a)(hy:y<=2^b):x*y<=2^(a+b):=by
 rw[fN];exact iK hx hy
def TB{α:Type}{D B:Nat}{f:α->Rat}: ∀{l:List α},(∀x∈l,DQ D B (f x))->DQ D (l.length*B) (aB f l)
 |[],_=>by show DQ D _ 0;exact DQ.zero D _
 |x::t,h=>by
  have:=(h x aQ).add (TB fun y hy=>h y (aX _ hy));refine DQ.mono this (Nat.le_of_eq ?_);rw[bZ,dW,nL,kX]
def Fy{α:Type}{D B N:Nat}{f:α->Rat}{l:List α}(h: ∀x∈l,DQ D B (f x))(hl:l.length<=N)(k:Nat):DQ D (N*B) (aB f (l.take k)):=by
 have:=TB (l:=l.take k) fun x hx=>h x (dT hx);exact this.mono (bR B (dJ (by rw[cR];omega) hl))
def W8{v:List aa}{x:aa×aa}(h:x∈iu v):x.1∈v/\x.2∈v:=by
 obtain⟨i,hi,rfl⟩:=aS.1 h;have hi':=dS.1 hi;have hj:(i+1)%v.length<v.length:=dQ _ we;dsimp only;rw[aJ,aJ,aZ hi',aZ hj];exact⟨bN _,bN _⟩
def Ug{cs:List au}{x:aa×aa}(h:x∈di (cG cs)): ∃c∈cs,x.1∈ge (c.map (·.l))/\x.2∈ge (c.map (·.l)):=by
 obtain⟨L,hL,hx⟩:=dK.1 h;obtain⟨c,hc,rfl⟩:=aS.1 hL;exact⟨c,hc,W8 hx⟩
def V5{k0:Nat}{t:Tr}(h:ju k0 t)(hk:k0<=48):(di (cG (bF t))).length<=2^18:=by
 have h1: ∀L∈cG (bF t),(iu (ge L)).length<=48:=fun L hL=>by
  obtain⟨c,hc,rfl⟩:=aS.1 hL;have h2:=If h.lb h.ok c hc;have h3:=axX (c.map (·.l));have h4:=h.dp;rw[aK] at h3;rw[Te];omega
 have h2:=Uc h1;have h3:=Ge t;have h4:=h.s;have h5:(cG (bF t)).length=(bF t).length:=aK ..;unfold di;rw[h5] at h2;have:(bF t).length*48<=3001*48:=bR 48 we;omega
def SO{k0:Nat}{t:Tr}(h:ju k0 t)(hk:k0<=48:=by decide):oA (bF t):=by
 obtain⟨D,hD0,hD1,hv⟩:=aBB h;have hDa:D<=2^887040:=by
  generalize hE:887040=kE;exact dJ hD1 (cY oma (by
   have:k0*k0<=48*48:=iK hk hk;omega))
 obtain⟨B,hB⟩: ∃B,B=2^385:=⟨_,rfl⟩;rw[<-hB] at hv;have sqp: ∀X a b:Nat,X=2^a->a+a=b->X*X=2^b:=fun X a b h k=>by rw[h,<-k,fN]
 have hBB:B*B=2^770:=sqp B 385 770 hB J;have hp: ∀x∈di (cG (bF t)),DP D B x.1/\DP D B x.2:=fun x hx=>by
  obtain⟨c,hc,h1,h2⟩:=Ug hx;exact⟨hv c hc _ h1,hv c hc _ h2⟩
 have hpt: ∀x∈di (cG (bF t)),aE x.1 1200/\aE x.2 1200:=fun x hx=>by
  obtain⟨c,hc,h1,h2⟩:=Ug hx;have hb: ∀l∈c.map (·.l),LB l:=fun l hl=>by
   obtain⟨s,hs,rfl⟩:=aS.1 hl;exact GJ h.lb h.ok c hc s hs
  exact⟨TV hb _ h1,TV hb _ h2⟩
 have hlen:=V5 h hk;have hDD:=FZ hDa hDa;have hc: ∀x∈di (cG (bF t)),DQ (D*D) (2*(B*B)) (x.1.cross x.2):=fun x hx=>(hp x hx).1.cross (hp x hx).2;have hn:2^18*(2*(B*B))<=2^789:=by rw[hBB];decide+kernel
 have hs: ∀{u v u' v':Rat},DQ D B u->DQ D B v->DQ D B u'->DQ D B v'-> ∀{c:Rat},DQ (D*D) (2*(B*B)) c->DQ (D*D*(D*D)) (2^1544) ((u*v+u'*v'+(u+u')*(v+v'))*c):=fun hu hv hu' hv' c hc=>by
  refine DQ.mono ((((hu.mul hv).add (hu'.mul hv')).add ((hu.add hu').mul (hv.add hv'))).mul hc) ?_;rw[show(B+B)*(B+B)=4*(B*B) by rw[dW,fY];omega,hBB];decide+kernel
 have hfin:2^18*2^1544<=2^1562:=by decide+kernel
 have fin: ∀f:aa×aa->Rat,(∀x∈di (cG (bF t)),DQ (D*D*(D*D)) (2^1544) (f x))-> ∀k,BQ (aB f ((di (cG (bF t))).take k)) 4000000:=fun f hf k=>
  E3 (Fy hf hlen k) (gM (gM hD0 hD0) (gM hD0 hD0)) (FZ hDD hDD) hfin
 refine⟨⟨GJ h.lb h.ok,fun c hc=>?_,?_,hpt⟩,fun x hx=>?_,fun k=>?_,fun k=>?_,fin _ fun x hx=>?_,fin _ fun x hx=>?_,fin _ fun x hx=>?_⟩
 .have:=If h.lb h.ok c hc;have:=h.dp;omega
 .have:=Ge t;have:=h.s;omega
 .haveI:=(hpt x hx).1
  haveI:=(hpt x hx).2;exact BQ.mono (inferInstance:BQ (x.1.cross x.2) _)
 .exact E3 (Fy hc hlen k) (gM hD0 hD0) hDD hn
 .have hm: ∀x∈di (cG (bF t)),DP (D*(D*D)) ((B+B)*(2*(B*B))) (qa x):=fun x hx=>((hp x hx).1.add (hp x hx).2).scale (hc x hx)
  have hb:2^18*((B+B)*(2*(B*B)))<=2^1175:=by
   rw[hBB,hB];decide+kernel
  have h3:=FZ hDa hDD;have h0:=gM hD0 (gM hD0 hD0);exact⟨E3 (Fy (fun x hx=>(hm x hx).x) hlen k) h0 h3 hb,E3 (Fy (fun x hx=>(hm x hx).y) hlen k) h0 h3 hb⟩
 .exact hs (hp x hx).1.x (hp x hx).1.x (hp x hx).2.x (hp x hx).2.x (hc x hx)
 .exact hs (hp x hx).1.x (hp x hx).1.y (hp x hx).2.x (hp x hx).2.y (hc x hx)
 .exact hs (hp x hx).1.y (hp x hx).1.y (hp x hx).2.y (hp x hx).2.y (hc x hx)
def imD{C:aH}{n:Nat}{Q0:Exit->Act->World->Prop}{fr:aD}{own:aO}{K:List Kt}{P:Program}(nm:Nat){ty:TypeId}{cs:List FX}{ds:List DV}{lo:Bool}{own1:aO}{c:Code}(ds':List DV)(hl:bj own nm=some (.o ty cs lo))(hc:jy cs=some ds)(hi: ∀G m,IsLs G ds m->IsLs G ds' m)(ho:uS own nm (some (.o ty (ds'.map .d) lo)) id=own1)(h:ao P GB C n Q0 fr own1 (.code c K)):ao P GB C n Q0 fr own (.code c K):=by
 rw[vJ] at ho;subst ho;refine⟨fun ρ G ov a w r=>?_⟩;have old: ∀m B,bj (kP own nm (some (.o ty (ds'.map .d) lo))) m=some B-> ∃B0,bj own m=some B0:=fun m B e=>by
  rw[uU] at e;split at e
  .rename_i hm;subst hm;exact⟨_,hl⟩
  .exact⟨_,e⟩
 refine SX.run h ρ G ov a w ⟨r.gb,r.h,r.sz,r.df,r.fx,fun m B e=>?_,fun m m' B B' e e'=>?_,r.fxd⟩
 .rw[show id (kP own nm (some (.o ty (ds'.map .d) lo)))=kP own nm (some (.o ty (ds'.map .d) lo)) from J,uU] at e
  split at e
  .rename_i hm;subst hm;cases e
   obtain⟨os,⟨b,q,h1,rfl,h2⟩,h3⟩:=r.bx _ _ hl;exact⟨_,⟨b,q,h1,J,t7 (hi G q (rF h2 hc))⟩,h3⟩
  .exact r.bx _ _ e
 .obtain⟨B0,h0⟩:=old _ _ e
  obtain⟨B1,h1⟩:=old _ _ e';exact r.dj m m' B0 B1 h0 h1
def HC{t:Tr}(h:t.all ab.ok):AF (oh t [])=cG (bF t):=avJ h
def HK:List DV:=[.v (.bool (decide ((0:Rat).num<0))),dN (0:Rat).num.natAbs,dD (0:Rat).den]
def aIa:HK=[vB false, .sl [], .sl []]:=by unfold HK;rw[show dN (0:Rat).num.natAbs= .sl [] from me];rfl

def Tf{C:aH}{n:Nat}{Q0:Exit->Act->World->Prop}{fr fr':aD}{own own':aO}{cf cf':Cf}{vc:List Prop}[fu:Fu]{f:FuncId}{ds:List DV}(ha:y9 fr cf=some (f,ds))(hF:PF GB prog f ds (.v (.bool true)))(hgo:dl tt n fu.n fr own cf .tt [] []=⟨vc,fr',own',cf'⟩)(k:ao prog GB C n Q0 fr' own' cf')
  (hv:autoParam (ae vc) cL._auto_1):ao prog GB C n Q0 fr own cf:=by
 unfold y9 at ha;split at ha<;>try (cases ha;done)
 rename_i hh;exact us hh (cg.to (g:= .tt) (Pg ha hF) fun ρ G y hy=>(bE (G:=G)).1 hy) hgo hv k
def Kn{p:Rat}{i:Nat}[hp:BQ p i](hi:i<=100000000:=by decide):PF GB prog 37 [eR p,eR p] (.v (.bool true)):=by
 have:=Vp (GB:=GB) (p:=p) (q:=p) (i:=i) (j:=i) hi;rwa [decide_eq_true J] at this
def yv:List ZP:=[(0,0),(2,0),(2,2),(0,2)]
def Zw:bD yv:=⟨oma,oma,fun p hp=>by
 unfold yv at hp;simp only[aW,jU,or_false] at hp;rcases hp with rfl|rfl|rfl|rfl<;>exact⟨oma,oma⟩,oma⟩
def Fk: ∀r∈[yv],bD r:=fun r hr=>by rw[aV] at hr;subst hr;exact Zw
def ru:Tr:=d7 [yv] 2
def vp:ju 12 ru:=(U6 Fk oma).x (Sw _ _) oma
def Ni:(bF ru).all dB=true:=xt vp.ok (Ad Fk)
def Hm:aB (fun x=>x.1.cross x.2) (di (AF (oh ru [])))=8/\aB pz (di (AF (oh ru [])))=128/\aB qe (di (AF (oh ru [])))=128:=by decide+kernel
def Yk:iD ru=((4:Int):Rat):=by
 unfold iD;rw[<-HC vp.ok,Hm.1];decide+kernel
def Ur:uV pz ru=mkRat (16:Nat) 3:=by
 unfold uV;rw[<-HC vp.ok,Hm.2.1];decide+kernel
def aDi:uV qe ru=mkRat (16:Nat) 3:=by
 unfold uV;rw[<-HC vp.ok,Hm.2.2];decide+kernel
def U2{q:Rat}{i:Nat}[h:BQ q i](hi:i<=20000000:=by decide):PF GB prog 18 [eR q,eQ q] (.v (.bool true)):=by
 refine fn func18 J J ntmps18 J J (fun C=>?_);refine cl J (CB (q:=q) (i:=i) we) J<|cl J (Kn (p:=q) (i:=i) we) J<|rz J J
def Sd:PF GB prog 9 [] (.v (.bool true)):=by
 have hm:=SO vp;haveI bA:BQ (iD ru) 2000003:=hm.area;haveI b4:BQ ((4:Int):Rat) 4:=⟨oma,oma⟩;haveI b16:BQ (mkRat (16:Nat) 3) 6:=⟨by decide+kernel,by decide+kernel⟩;refine fn func9 J J ntmps9 J J (fun C=>?_);refine cl J (iG) J<|cl J (iG) J<|cl J (iG) J<|cl J (iG) J<|rf J J<|cl J (Sv (ps:=[iP 0 0,iP 2 0,iP 2 2,iP 0 2]) (fun p hp=>by
  simp only[aW,jU,or_false] at hp;rcases hp with rfl|rfl|rfl|rfl<;>exact⟨BQ.int1200,BQ.int1200⟩) oma) rfl<|?_
 refine rf J J<|cl J (PL (rs:=[yv]) (fill:=2) Fk oma) J<|cl J (Qx (rs:=[yv]) (fill:=2) Fk oma) J<|cl J (NL (t:=ru) vp) J<|cl (fu:=⟨0⟩) J (Ng vp oma Ni hm) J<|ah 20 (.d (.tp [eR ((4:Int):Rat), .v .nilIface])) J (by rw[Yk])<|gx J<|cl (fu:=⟨0⟩) J (aGU vp oma Ni hm) J<|ah 25 (.d (.tp [eR (mkRat (16:Nat) 3),eR (uV qp ru),eR (mkRat (16:Nat) 3), .v .nilIface])) J (by rw[Ur,aDi])<|gx J<|cl J (JO (q:=((4:Int):Rat)) (i:=4)) J<|cl J (lh (n:=4)) J<|cl (fu:=⟨0⟩) J (lg (a:=((4:Int):Rat)) (b:=((4:Int):Rat)) (i:=4) (j:=4)) J<|d9 J (by show some (decide _)=some true;rw[decide_eq_true];decide+kernel) J<|cl J (aDE (n:=16) (d:=3) oma oma oma) J<|cl J (CB (q:=mkRat (16:Nat) 3) (i:=6)) J<|Tf J (Kn (p:=mkRat (16:Nat) 3) (i:=6)) J<|Tf J (Kn (p:=mkRat (16:Nat) 3) (i:=6)) J<|rz J J
def Hu{t:Tr}(ht:t.all ab.ok): ∀c∈bF t,dE c:=fun c hc=>DG ht bw.nil (show dE [] from .nil) _ (n8.1 hc)
def WV{t:Tr}(ht:t.all ab.ok)(hb:(bF t).all dB=true):iD t=aB xj (bF t)*mkRat 1 2:=by
 have e:aB (fun x:aa×aa=>x.1.cross x.2) (di (cG (bF t)))=aB xj (bF t):=by
  unfold di cG;rw[Ky,xS];refine oq fun c hc=>?_;rw[<-MJ (GH ht c hc) (Hu ht c hc) (cN.1 hb c hc)];unfold iu uz;rw[xS]
 unfold iD;rw[e]
def Oz{u v z:aa}(hu:u.half≠0)(hv:v.half≠0)(h0:u.cross v=0)(h1:0<u.cross z)(h2:0<v.cross z):u.half=v.half:=by
 have ex:v.x*(u.cross z)=u.x*(v.cross z):=by unfold aa.cross at*;grind
 have ey:v.y*(u.cross z)=u.y*(v.cross z):=by unfold aa.cross at*;grind
 have key: ∀{a b:Rat},a*(u.cross z)=b*(v.cross z)->(0<a↔0<b)/\(a=0↔b=0):=fun{a b} e=>by
  have k1:0<a*(u.cross z)↔0<a:=gi h1;have k2:0<b*(v.cross z)↔0<b:=gi h2;refine⟨by rw[<-k1,<-k2,e],fun h=>?_,fun h=>?_⟩
  .rw[h,Rat.zero_mul] at e
   rcases bX.1 e.symm with q|q
   .exact q
   .grind
  .rw[h,Rat.zero_mul] at e
   rcases bX.1 e with q|q
   .exact q
   .grind
 obtain⟨x1,x2⟩:=key ex;obtain⟨y1,y2⟩:=key ey;have:u.half=1↔v.half=1:=by rw[mr,mr,x1,y1,y2]
 rcases ig hu with a|a<;>rcases ig hv with b|b<;>omega
def Xs{c:au}(hc:bw c)(ha:dE c)(hb:dB c=true){i j:Nat}{w w' s:aI}(hw:c[i]? =some w)(hw':c[(i+1)%c.length]? =some w')(hs:c[j]? =some s)(hz:s.l.value (w.l.at w.v.hi)=0):j=i\/j=(i+1)%c.length:=by
 apply Classical.byContradiction;intro hne;have n1:j≠i:=fun e=>hne (.inl e);have n2:j≠(i+1)%c.length:=fun e=>hne (.inr e);obtain⟨h1,_,h3⟩:=gA hc ha hb hw hw';have mw:=aT hw;have mw':=aT hw';have ms:=aT hs;have lt: ∀x∈c,x.v.lo<x.v.hi:=fun x hx=>by
  have h:=(hc.edge x hx).1;obtain⟨a,b⟩:=(kv hb).2 x hx;unfold ai.Pos at h;rw[a,b] at h;rcases h with h|h|h
  .cases h
  .cases h
  .exact h
 have a1:s.l.nor.dot w.l.dir<=0:=by
  have k:=((hc.edge w mw).2 _).1 (BC (hc.edge w mw).1 ((kv hb).2 w mw).1) s ms;rw[show w.v.lo=w.v.hi+(w.v.lo-w.v.hi) by grind,EB,hz] at k;have l1:=lt w mw;apply Classical.byContradiction;intro q;have:=(gi (s:=s.l.nor.dot w.l.dir) (k:=w.v.hi-w.v.lo) omb).2 omb;grind
 have a2:0<=s.l.nor.dot w'.l.dir:=by
  have k:=((hc.edge w' mw').2 _).1 (BS (hc.edge w' mw').1 ((kv hb).2 w' mw').2) s ms;rw[show w'.v.hi=w'.v.lo+(w'.v.hi-w'.v.lo) by grind,EB,h3,hz] at k;have l1:=lt w' mw';apply Classical.byContradiction;intro q;have:=(gi (s:= -(s.l.nor.dot w'.l.dir)) (k:=w'.v.hi-w'.v.lo) omb).2 omb;grind
 have b1:0<=w.l.dir.cross s.l.dir:=by rw[fH,rj];grind
 have b2:0<=s.l.dir.cross w'.l.dir:=by rw[rj];exact a2
 have nz:=Hd hc;have md: ∀x∈c,x.l.dir∈c.map fun s=>s.l.dir:=fun x hx=>aS.2 ⟨x,hx,J⟩;have hn:lA (c.map fun s=>s.l.dir) w.l.dir w'.l.dir:=O7 ha (by rw[cV,hw];rfl) (by rw[aK,cV,hw'];rfl);have bef: ∀{a b:Nat} {x y:aI},c[a]? =some x->c[b]? =some y->a≠b->x.l.dir.cross y.l.dir=0->x.l.dir.half≠y.l.dir.half:=fun{a b x y} hx hy hab h0 e=>by
  obtain⟨ha',ea⟩:=bQ.1 hx;obtain⟨hb',eb⟩:=bQ.1 hy;have hp:=jS.1 ha;have hsw:y.l.dir.cross x.l.dir=0:=by rw[fH,h0];rfl
  rcases rZ hab with q|q
  .have:=hp a b (by simpa using ha') (by simpa using hb') q
   rw[lU,lU,ea,eb] at this;rcases this with r|⟨_,r⟩
   .omega
   .rw[h0] at r;exact absurd r oma
  .have:=hp b a (by simpa using hb') (by simpa using ha') q
   rw[lU,lU,ea,eb] at this;rcases this with r|⟨_,r⟩
   .omega
   .rw[hsw] at r;exact absurd r oma
 by_cases c1:0<w.l.dir.cross s.l.dir
 .by_cases c2:0<s.l.dir.cross w'.l.dir
  .exact Ix nz (md w mw) (md s ms) (md w' mw') hn c1 c2 h1
  .have z2:s.l.dir.cross w'.l.dir=0:=by grind
   have z2':w'.l.dir.cross s.l.dir=0:=by rw[fH,z2];rfl
   refine bef hs hw' n2 z2 ?_;exact Oz (z:=bP w.l.dir) (nz _ (md s ms)) (nz _ (md w' mw')) z2 (by rw[mB,fH];grind) (by rw[mB,fH];grind)
 .have z1:w.l.dir.cross s.l.dir=0:=by grind
  by_cases c2:0<s.l.dir.cross w'.l.dir
  .exact bef hw hs (Ne.symm n1) z1 (Oz (z:=w'.l.dir) (nz _ (md w mw)) (nz _ (md s ms)) z1 h1 c2)
  .have z2:s.l.dir.cross w'.l.dir=0:=by grind
   have hz0:=nz _ (md s ms);have ex:s.l.dir.x*(w.l.dir.cross w'.l.dir)=0:=by unfold aa.cross at*;grind
   have ey:s.l.dir.y*(w.l.dir.cross w'.l.dir)=0:=by unfold aa.cross at*;grind
   have x0:s.l.dir.x=0:=by rcases bX.1 ex with q|q;exact q;grind
   have y0:s.l.dir.y=0:=by rcases bX.1 ey with q|q;exact q;grind
   rcases ig hz0 with q|q
   .rw[mr] at q;grind
   .have:s.l.dir.half=0:=by unfold aa.half;rw[x0,y0];decide
    exact hz0 this
end Go.Sx
end
