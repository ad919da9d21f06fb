import Derived.Test.YtefoocgiaegobaaGreatDoorPd7
import Derived.Shelf.Small.Bits
import Derived.Shelf.Strconv.Itoa0
import Derived.Shelf.Strconv.Itoa1
import Derived.Shelf.LaysM
import Derived.Shelf.Strconv.Itoa2
import Derived.Shelf.Strconv.Itoa3
import Derived.Shelf.Bits.Mul64
import Derived.Test.YtefoocgiaegobaaGreatDoorProg
set_option linter.all false
set_option maxHeartbeats 1000000
set_option maxRecDepth 100000
section
namespace Go.Sx
open Go Go.Proofs Tryz
section
variable {GB:Gh} {C:aC} {n:Nat} {Q0:Exit->Act->World->Prop} {fr fr':aA} {own own':aH} {cf cf':Cf} {vc:List Prop} {ops:Array Oper} {r:List Oper} {K:List Kt}
def bE.later{lk:LK}{bk:BM}{ρ:NE}{G G1:Gh}{ov:List ao}{a:Act}{w w1:World}(r:bE GB C n lk bk ρ G ov a w)(h:bm (kw w G) [] G1 w1):bE GB C n lk bk ρ G1 ov a w1:=
 ⟨r.gb.trans h.gle,r.h.called h,r.sz,r.df,fun k f e=>by obtain⟨y,h1,h2⟩:=r.fx k f e;exact⟨y,h1,h2.up h.gle⟩,fun nm B e=>by obtain⟨os,h1,h2⟩:=r.bx nm B e;exact⟨os,h1.up h.gle,h2⟩,r.dj,r.fxd⟩
def xg:List Nat->List DV->aA->aA
 |p::ps,d::ds,fr=>xg ps ds ((p, .d d)::fr)
 |_,_,fr=>fr
def Mv{ρ:NE}{G:Gh}: ∀{ps:List Nat} {ds:List DV} {ys tm:List Value} {fr:aA},IsLs G ds ys->(∀p∈ps,p<tm.length)->(∀k f,ba fr k=some f-> ∃y,tm[k]? =some y/\bP ρ G f y)->
  ((ps.zip ys).foldl (fun t e=>t.set e.1 e.2) tm).length=tm.length/\ ∀k f,ba (xg ps ds fr) k=some f-> ∃y,((ps.zip ys).foldl (fun t e=>t.set e.1 e.2) tm)[k]? =some y/\bP ρ G f y
 |[],ds,ys,tm,fr,_,_,h=>⟨J,fun k f e=>h k f (by cases ds<;>exact e)⟩
 |p::ps,[],ys,tm,fr,hd,_,h=>by rw[dl.1 hd];exact⟨J,fun k f e=>h k f e⟩
 |p::ps,d::ds,ys,tm,fr,hd,hp,h=>by
  obtain⟨y,m,rfl,h1,h2⟩:=bt.1 hd;simp only[List.zip_cons_cons,dT,xg];have:=Mv (ps:=ps) (ds:=ds) (ys:=m) (tm:=tm.set p y) (fr:=(p, .d d)::fr) h2 (fun q hq=>by rw[aS];exact hp q (aJ _ hq)) fun k f e=>by
   rw[js] at e;split at e
   ·rename_i hk;subst hk;cases e
    exact⟨y,by rw[nZ];rw[if_pos J,if_pos (hp k aQ)],h1⟩
   ·rename_i hk
    obtain⟨u,h3,h4⟩:=h k f e;exact⟨u,by rw[nZ];rw[if_neg (fun e=>hk e.symm)];exact h3,h4⟩
  rw[aS] at this;exact this
def KJ: ∀(l:List (Nat×Value)) (t:Array Value),(l.foldl (fun t e=>t.setIfInBounds e.1 e.2) t).toList=l.foldl (fun t e=>t.set e.1 e.2) t.toList
 |[],t=>rfl
 |e::l,t=>by simp only[dT];rw[KJ l];simp
def E6:FX->Bool
 | .ov nm _=>Nat.ble 2000000 nm
 | .rw _=>false
 | .be .. =>false
 | .rs .. =>false
 | .bx .. =>false
 |_=>true
def By:aA->Bool
 |[]=>true
 |(_,f)::t=>E6 f&&By t
def MN: ∀{fr:aA},By fr=true-> ∀k f,ba fr k=some f->E6 f=true
 |[],_,k,f,e=>by cases e
 |(j,g)::t,h,k,f,e=>by
  simp only[By,aN] at h;rw[js] at e;split at e
  ·cases e;exact h.1
  ·exact MN h.2 k f e
def Mk(GB:Gh)(C:aC)(n:Nat)(fr:aA)(own:aH)(a:Act)(w:World):Prop:= ∃ρ G ov,bE GB C n (ba fr) (bh own) ρ G ov a w
def atR{P:Program}:av P GB C n Q0 fr own (.ex .normal (.ag (Mk GB C n fr own)::K)):=⟨fun ρ G ov a w r=>⟨ρ,G,ov,r⟩⟩
def RQ(GB:Gh)(C:aC)(n:Nat)(p:Prop)(O:aH){σ:Type}(S:σ->aH)(q:σ->Prop):Exit->Act->World->Prop
 | .normal,a,w=>p/\ ∃ρ G ov,bE GB C n (fun _=>none) (bh O) ρ G ov a w
 | .ret,a,w=> ∃s,q s/\ ∃ρ G ov,bE GB C n (fun _=>none) (bh (S s)) ρ G ov a w
 |_,_,_=>False
def rq{P:Program}{p:Prop}{O:aH}{σ:Type}{S:σ->aH}{q:σ->Prop}(hp:p)(hO:vh O own:=by repeat (first|exact trivial|refine And.intro J ?_)):av P GB C n (RQ GB C n p O S q) fr own (.ex .normal []):=
 ⟨fun ρ G ov a w r=>⟨hp,ρ,G,ov,r.mono (fun k x e=>by cases e) (tW hO)⟩⟩
def P7{P:Program}{g:Operand}{ps:Array Nat}{assign body:Code}{gf:FuncId}{caps:List Value}{ds:List DV}{E:List (List DV)}{σ:Type}(I:Nat->aH)(p:Nat->Prop)(S:σ->aH)(q:σ->Prop)(fr1:aA)
  (h0:CH C)(hg:aO (ba fr) g=some (.d (.v (.func (.func gf) ⟨[]⟩ ⟨caps⟩))))(hIt:It GB P gf ds E)(hc:IsLs GB ds caps)
  (hfr:tA fr1 fr)(hfix:By fr1=true)(hO:vh (I 0) own)(hp:p 0)(hps: ∀e∈E,e.length=ps.size)(hpn:ps.toList.all (fun k=>Nat.blt k n)=true)(hn2:Nat.ble n 2000000=true)
  (round: ∀k e GB',E[k]? =some e->bz GB GB'->p k-> ∃fr2 own2,(∀C2,av P GB' C2 n (fun _ _ _=>False) (xg ps.toList e fr1) (I k) (.code assign [.ag (Mk GB' C2 n fr2 own2)]))/\ ∀C2,av P GB' C2 n (RQ GB' C2 n (p (k+1)) (I (k+1)) S q) fr2 own2 (.code body []))
  (after: ∀D,C.w0.heap.size<=D->(∀x∈C.ex,x.1≠D)->p E.length->av P GB (C.mk3 D) n Q0 fr1 (I E.length) (.ex .normal K))
  (early: ∀D s,C.w0.heap.size<=D->(∀x∈C.ex,x.1≠D)->q s->av P GB (C.mk3 D) n Q0 fr1 (S s) (.ex .ret K)):
  av P GB C n Q0 fr own (.code (.rangeFunc g ps assign body) K):=by
 refine⟨fun ρ0 G0 ov0 a w r=>?_⟩;rw[h0.rd];refine wpIn_rangeFunc fun fn _=>?_;obtain⟨y,hy,hy'⟩:=r.ev hg;rw[(bc (G:=G0)).1 hy'] at hy;have hev:=bi (cB a) hy
 let D:=w.heap.size
 let l:=w.heap.size+1
 let rec_:Loop:={state:= .ready,pending:=none,fn,tmps:=a.tmps,params:=ps,assign,body,defers:=D}
 let w2:=(w.alloc (.deferred (some []))).alloc (.loop rec_)
 let mk:Deferred:={target:= .collected D,args:= #[]}
 let fx1:Nat->Option Addr:=fun nm=>(ρ0 nm).a
 let C1:Loop->aC:=fun rc=>{C with ex:=(l, .loop rc)::(D, .deferred (some []))::C.ex,mks:=[mk],fx:=fx1}
 let a0:Act:={a with defers:=[mk]++a.defers}
 have hszD:C.w0.heap.size<=D:=r.h.size;have hlt: ∀x∈C.ex,x.1<D:=fun x hx=>gE (r.h.ext x hx).2;have hszl:C.w0.heap.size<=l:=Nat.le_succ_of_le hszD;have hnl: ∀x∈((D,Obj.deferred (some []))::C.ex:List (Nat×Obj)),x.1≠l:=fun x hx=>by
  rcases aT.1 hx with rfl|hx
  ·show D≠D+1;omega
  ·have:=hlt x hx;show x.1≠D+1;omega
 have ncl: ∀rc:Loop,Ej (.loop rc):=fun rc _ _ _ h=>by cases h
 -- the slots of the loop, at any time
 have stat: ∀(ρ':NE) (G':Gh),bz G0 G'->(∀nm p,n<=nm->2000000<=nm->fx1 nm=some p->(ρ' nm).a=some p)-> ∀k f,ba fr1 k=some f-> ∃y,a.tmps[k]? =some y/\bP ρ' G' f y:=by
  intro ρ' G' hg' hf k f e;obtain⟨y,h1,h2⟩:=r.fx k f (tN hfr k f e);refine⟨y,h1,?_⟩;have hx:=MN hfix k f e
  cases f with
  |ov nm off=>
   obtain⟨b,h3,h4⟩:=h2;have h5:2000000<=nm:=by simpa[E6] using hx
   have h6:n<=2000000:=by simpa using hn2
   exact⟨b,hf nm _ (by omega) h5 h3,h4⟩
  |rw _=>cases hx
  |be _ _ _ _=>cases hx
  |rs _ _ _ _=>cases hx
  |bx _ _ _ _=>cases hx
  |_=>exact(h2.up hg').ren fun _ h=>by cases h
 let Jv:Nat->Gh->World->Prop:=fun k G' w'=>p k/\ ∃ρ ov,bE G0 (C1 rec_) n (ba fr1) (bh (I k)) ρ G' ov a0 w'
 let rcx:Loop:={rec_ with state:= .done,pending:=some .ret}
 let Jx:Gh->World->Prop:=fun G' w'=> ∃s,q s/\ ∃ρ ov,bE G0 (C1 rcx) n (ba fr1) (bh (S s)) ρ G' ov a0 w'
 have hsz0:a0.tmps.size=n:=r.sz;have hdf0:a0.defers=[mk]:=by show [mk]++a.defers=_;rw[r.df,h0.mks];rfl
 have H:xd G0 P l Jv Jx E:=by
  refine⟨fun k=>⟨fun G' w' ⟨_,ρ,ov,h⟩=>h.h.sub,fun G' w' G1 w1 ⟨h1,ρ,ov,h⟩ k=>⟨h1,ρ,ov,h.later k⟩⟩,⟨fun G' w' ⟨_,_,ρ,ov,h⟩=>h.h.sub,fun G' w' G1 w1 ⟨s,h1,ρ,ov,h⟩ k=>⟨s,h1,ρ,ov,h.later k⟩⟩,?_⟩;intro k e G' w' ys hE hgg ⟨hpk,ρ,ov,r1⟩ hys;have hrec:w'.heap[l]? =some (.loop rec_):=(r1.h.ext _ aQ).2;have hel:=hps e (bZ hE);obtain⟨fr2,own2,hA,hB⟩:=round k e G' hE (r.gb.trans hgg) hpk;refine⟨_,_,_,_,run_yield hrec (by show ys.length=ps.size;rw[hys.len,hel]),roundIn_of_wpIn trivial ?_⟩
  let C2:aC:={C1 rec_ with mks:=[],rd:=some l}
  let tm:Array Value:=(ps.zip (⟨ys⟩:Array Value)).foldl (fun tmps (t,a)=>tmps.setIfInBounds t a) a.tmps
  have htm:tm.toList=(ps.toList.zip ys).foldl (fun t e=>t.set e.1 e.2) a.tmps.toList:=by
   simp only[tm];rw[<-qU,Array.toList_zip];exact KJ _ _
  have hfx0:=r1.fx;obtain⟨q1,q2⟩:=Mv (ρ:=ρ) (ps:=ps.toList) (tm:=a.tmps.toList) (fr:=fr1) hys (fun k hk=>by have:=eK.1 hpn k hk;rw[jM,r.sz];simpa[mK] using this) fun k f e=>by
   obtain⟨y,h1,h2⟩:=hfx0 k f e;exact⟨y,by simpa using h1,h2⟩
  have hR0:bE G' C2 n (ba (xg ps.toList e fr1)) (bh (I k)) ρ G' ov {tmps:=tm,defers:=[]} w':=by
   refine⟨bz.refl _,r1.h.ctx J J J (fun _ h=>h),?_,J,fun k f e=>?_,r1.bx,r1.dj,r1.fxd⟩
   ·show tm.size=n
    rw[<-jM,htm,q1,jM,r.sz]
   ·obtain⟨y,h1,h2⟩:=q2 k f e
    exact⟨y,by rw[<-htm] at h1;simpa using h1,h2⟩
  refine wpIn_mono ((hA C2).run ρ G' ov _ w' hR0) fun ex a1 w1 hex=>?_
  cases ex with
  |normal=>
   obtain⟨ρ2,G2,ov2,r2⟩:=hex;have hrec1:w1.heap[l]? =some (.loop rec_):=(r2.h.ext _ aQ).2;refine⟨_,run_beginRound hrec1 J,?_⟩
   let busy:Loop:={rec_ with state:= .busy}
   let C3:aC:={C1 busy with mks:=[],rd:=some l}
   have h3:bm C3 ov2 G2 (w1.putObj l (.loop busy)):=r2.h.putx aQ hszl (ncl _) J J J fun x hx=>by
    rcases aT.1 hx with rfl|hx
    ·exact .inl J
    ·exact .inr ⟨aJ _ hx,hnl x hx⟩
   refine wpIn_mono ((hB C3).run ρ2 G2 ov2 a1 (w1.putObj l (.loop busy)) ⟨r2.gb,h3,r2.sz,r2.df,r2.fx,r2.bx,r2.dj,r2.fxd⟩) fun ex a2 w3 hex=>?_
   cases ex with
   |normal=>
    obtain⟨hp1,ρ3,G3,ov3,r3⟩:=hex;have hrec3:w3.heap[l]? =some (.loop busy):=(r3.h.ext _ aQ).2;refine⟨_,_,run_endRound none hrec3,G3,r3.gb, .inl ⟨J,hp1,ρ3,ov3,hgg.trans r3.gb,?_,hsz0,hdf0,stat ρ3 G3 (hgg.trans r3.gb) r3.fxd,r3.bx,r3.dj,r3.fxd⟩⟩;exact r3.h.putx aQ hszl (ncl _) J J J fun x hx=>by
     rcases aT.1 hx with rfl|hx
     ·exact .inl J
     ·exact .inr ⟨aJ _ hx,hnl x hx⟩
   |ret=>
    obtain⟨s,hq,ρ3,G3,ov3,r3⟩:=hex;have hrec3:w3.heap[l]? =some (.loop busy):=(r3.h.ext _ aQ).2;refine⟨_,_,run_endRound (some .ret) hrec3,G3,r3.gb, .inr ⟨J,s,hq,ρ3,ov3,hgg.trans r3.gb,?_,hsz0,hdf0,stat ρ3 G3 (hgg.trans r3.gb) r3.fxd,r3.bx,r3.dj,r3.fxd⟩⟩;exact r3.h.putx aQ hszl (ncl _) J J J fun x hx=>by
     rcases aT.1 hx with rfl|hx
     ·exact .inl J
     ·exact .inr ⟨aJ _ hx,hnl x hx⟩
   |exit id=>exact hex.elim
   |goto t=>exact hex.elim
   |panic ch=>exact hex.elim
   |outgrown=>exact hex.elim
  |exit id=>exact hex.elim
  |goto t=>exact hex.elim
  |ret=>exact hex.elim
  |panic ch=>exact hex.elim
  |outgrown=>exact hex.elim
 have hC1:bm (C1 rec_) ov0 G0 w2:=by
  have h1:bm {C with ex:=(D, .deferred (some []))::C.ex} ov0 G0 (w.alloc (.deferred (some []))):=r.h.addx (fun _ _ _ h=>by cases h) J J J fun x hx=>aT.1 hx;refine h1.addx (ncl rec_) J J J fun x hx=>?_;rcases aT.1 hx with rfl|hx
  ·exact .inl (by show((l,Obj.loop rec_):Nat×Obj)=_;rw[show(w.alloc (.deferred (some []))).heap.size=w.heap.size+1 by simp])
  ·exact .inr hx
 have hJ0:Jv 0 G0 w2:=⟨hp,ρ0,ov0,bz.refl _,hC1,hsz0,hdf0,stat ρ0 G0 (bz.refl _) (fun _ _ _ _ h=>h),fun nm B e=>r.bx nm B (tW hO nm B e),fun nm nm' B B' e e'=>r.dj nm nm' B B' (tW hO nm B e) (tW hO nm' B' e'),fun _ _ _ _ h=>h⟩;refine⟨l,[mk],w2,{target:= .fn (.func gf) ⟨caps⟩,args:= #[.func (.yield l) #[] #[]]},w2,gf, #[.func (.yield l) #[] #[]]++⟨caps⟩,w2,run_enterLoop_outer fn a.tmps ps assign body,?_,fun _ _=>trivial,?_,fun h=>(by cases h),?_⟩
 ·have he:(⟨[]⟩:Array Value)++Array.map a.eval #[.const (.func (.yield l) #[] #[])]= #[.func (.yield l) #[] #[]]:=by
   apply Array.ext';rw[Array.toList_append,pQ];rfl
  simp only[resolve,hev,Deferred.ofValue];rw[he];rfl
 ·simp only[invoke]
  exact CU hIt.able _ _
 refine CallsIn.mono (show CallsIn (FW none) 0 P gf _ w2 _ from by
  have:=hIt.run l Jv Jx G0 r.gb H w2 caps hJ0 (hc.up r.gb);rw[show(#[Value.func (.yield l) #[] #[]]++(⟨caps⟩:Array Value))=⟨.func (.yield l) #[] #[]::caps⟩ by simp];exact this) fun e w3 he=>?_
 obtain⟨G',hgg,⟨v,rfl⟩,hj⟩:=he;have fin: ∀(rc:Loop) (O:aH) (ρ:NE) (ov:List ao),bE G0 (C1 rc) n (ba fr1) (bh O) ρ G' ov a0 w3->bE GB (C.mk3 D) n (ba fr1) (bh O) ρ G' ov a0 (w3.putObj l (.loop {rc with state:= .exhausted})):=fun rc O ρ ov r3=>
  ⟨r.gb.trans r3.gb,r3.h.putx aQ hszl (ncl _) J J J fun x hx=> .inr ⟨aJ _ hx,hnl x hx⟩,r3.sz,r3.df,r3.fx,r3.bx,r3.dj,fun nm p _ _ e=>by rw[show(C.mk3 D).fx=fun _=>none from h0.fx] at e;cases e⟩
 have hxD: ∀x∈C.ex,x.1≠D:=fun x hx e=>by have:=hlt x hx;omega
 rcases hj with⟨hpn,ρ,ov,r3⟩|⟨s,hq,ρ,ov,r3⟩
 ·have hrec3:w3.heap[l]? =some (.loop rec_):=(r3.h.ext _ aQ).2
  have:=(after D hszD hxD hpn).run ρ G' ov a0 _ (fin rec_ _ ρ ov r3);rw[show(C.mk3 D).rd=none from h0.rd] at this;exact⟨_,_,run_endLoop hrec3 (by simp[rec_]),this⟩
 ·have hrec3:w3.heap[l]? =some (.loop rcx):=(r3.h.ext _ aQ).2
  have:=(early D s hszD hxD hq).run ρ G' ov a0 _ (fin rcx _ ρ ov r3);rw[show(C.mk3 D).rd=none from h0.rd] at this;exact⟨_,_,run_endLoop hrec3 (by simp[rcx]),wpIn_ret this⟩
end
section
variable {GB:Gh} {C:aC} {n:Nat} {Q0:Exit->Act->World->Prop} {fr fr':aA} {own own':aH} {cf cf':Cf} {vc:List Prop} {ops:Array Oper} {o:Oper} {r:List Oper} {K:List Kt}
def Hv(GB:Gh)(P:Program)(f:FuncId)(ds:List DV)(gf:FuncId)(dp:DV):Prop:=
 ∀G vs,bz GB G->IsLs G ds vs->Fn P f vs G fun v G'=> ∃pv,v= .func (.func gf) ⟨[]⟩ ⟨[pv]⟩/\Is G' dp pv
def Bg(gf:FuncId)(dp:DV)(v:Value)(G':Gh):Prop:= ∃pv,v= .func (.func gf) ⟨[]⟩ ⟨[pv]⟩/\Is G' dp pv
def aGY[fu:Fu]{f gf:FuncId}{fb:Func}{c:Code}{m:Nat}{ds:List DV}{dp:DV}(hf:prog.funcs[f]? =some fb)(hb:fb.body=some c)(hn:(fb.name== "runtime.NumGoroutine")=false)(hm:fb.ntmps=m)(hlen:Nat.ble ds.length m=true)
  (hgo:go tt m fu.n [] (qg 0 ds) [] (.code c [])=⟨vc,fr,own,cf⟩)(k: ∀C:aC,av prog GB C m (fk C prog fb (jk C (Bg gf dp))) fr own cf)
  (hv:ah vc:=by first|exact trivial|(simp only[ah];kernel_rfl)|(simp only[ah];omega)):Hv GB prog f ds gf dp:=by
 intro G vs hg hvs;refine Fn.introR hf hb hn hm (by rw[hvs.len];exact hlen) fun C _ _ hrd hfx=>?_;intro a w rl;refine tZ hrd ?_;have h:=fi (GB:=GB) (C:=C) (Q0:=fk C prog fb (jk C (Bg gf dp))) hgo hv (k C);exact h.run (fun _=>⟨none,0,0⟩) G [] a w ⟨hg,rl.h,rl.sz,rl.df,(fun k f e=>vq hvs rl.fr k f e),(fun nm B e=>by cases e),(fun nm nm' B B' e=>by cases e),fun nm p _ _ e=>by rw[hfx] at e;cases e⟩
def aG5{P:Program}{fb:Func}{gf:FuncId}{dp:DV}{pv:Value}{t:Nat}(hr:fb.results.toList=[.tmp t])(hl:ba fr t=some (.d (.v (.func (.func gf) ⟨[]⟩ ⟨[pv]⟩))))(hp:Is GB dp pv):av P GB C n (fk C P fb (jk C (Bg gf dp))) fr own (.ex .ret []):=by
 refine⟨fun ρ G ov a w r=>?_⟩;obtain⟨y,hy,hy'⟩:=r.ev (x:= .tmp t) hl;rw[(bc (G:=G)).1 hy'] at hy;exact zD (C:=C) (n:=n) (fr:=cg a) (own:=ov) (G:=G) (K:=Bg gf dp) (by rw[hr];exact .tmp hy .nil) ⟨pv,J,hp.up r.gb⟩ a w ⟨r.h,r.sz,cB a,r.df⟩
def NS(fr:aA)(cf:Cf):Option (FuncId×Value):=match b6 fr cf with
 |some ⟨_, .makeFunc (.func f) ⟨[]⟩ ⟨[x]⟩,_,_,_,_⟩=>match aO (bu fr cf) x with
  |some (.d (.v pv))=>some (f,pv)
  |_=>none
 |_=>none
def Ve[fu:Fu]{f:FuncId}{pv:Value}(h:NS fr cf=some (f,pv))(hgo:cE tt n fu.n fr own cf (.d (.v (.func (.func f) ⟨[]⟩ ⟨[pv]⟩))) [] []=⟨vc,fr',own',cf'⟩)(k:av prog GB C n Q0 fr' own' cf')
  (hv:ah vc:=by first|exact trivial|(simp only[ah];kernel_rfl)|(simp only[ah];omega)):av prog GB C n Q0 fr own cf:=by
 unfold NS at h;split at h<;>try (cases h;done)
 rename_i hh;split at h<;>cases h;rename_i hx;exact us hh (.x1 hx fun ρ G ov a w y _ r h1 h2=>by
  rw[(bc (G:=G)).1 h2] at h1;exact⟨_,(bc (G:=G)).2 J,yp (l1:=[]) (l2:=[pv]) J (by simp[h1])⟩) hgo hv k
def OK[fu:Fu]{f gf:FuncId}{ds:List DV}{dp:DV}{d:Nat}{fr':Value->aA}{own':Value->aH}{cf':Value->Cf}{vc:Value->List Prop}(ha:vW fr (.ops ops (o::r) K)=some (f,ds))(hdst:o.dst=some d)(hd:b7 n (some d)=true)(hF:Hv GB prog f ds gf dp)
  (hgo: ∀pv,go tt n fu.n [] ((d, .d (.v (.func (.func gf) ⟨[]⟩ ⟨[pv]⟩)))::fr) own (.ops ops r K)=⟨vc pv,fr' pv,own' pv,cf' pv⟩)
  (k: ∀GB' pv,bz GB GB'->Is GB' dp pv->av prog GB' C n Q0 (fr' pv) (own' pv) (cf' pv))
  (hv: ∀pv,ah (vc pv):=by intros;first|exact trivial|(simp only[ah];kernel_rfl)|(simp only[ah];omega)):av prog GB C n Q0 fr own (.ops ops (o::r) K):=by
 unfold vW at ha;split at ha<;>try (cases ha;done)
 rename_i fo args tys ty pos af gd hh;obtain⟨ops0,h1,h2⟩:=GO hh
 cases h1
 cases hdst
 obtain⟨c1,c2⟩:=CY ha;refine⟨fun ρ G ov a w rl=>?_⟩;obtain⟨y,hy,hy'⟩:=rl.ev c1;rw[(bc (G:=G)).1 hy'] at hy;obtain⟨vs,h3,h4⟩:=rl.evDs c2;simp only[wpListIn];rw[if_pos (Bo h2 ρ G ov a w rl)];refine Hc (K':=fun a' w'=>a'.defers=C.mks/\wpListIn (FW C.rd) 0 prog ops (cQ C.rd prog Q0 K) r a' w') (fun Q=>?_) (fun a' w' q=>⟨q.1.trans rl.df.symm,q.2⟩);refine zC hy h3 (hF G vs rl.gb h4) hd (fun v G' hG hK a' w' rel=>?_) a w Q ⟨rl.h,rl.sz,cB a,rl.df⟩;obtain⟨pv,rfl,hpv⟩:=hK;refine⟨rel.df,?_⟩;have:=fi (GB:=G') (C:=C) (Q0:=Q0) (hgo pv) (hv pv) (k G' pv (rl.gb.trans hG.le) hpv);refine this.run ρ G' ov a' w' ⟨bz.refl _,rel.h,rel.sz,rel.df,fun j g e=>?_,fun nm B e=>by obtain⟨os,h5,h6⟩:=rl.bx nm B e;exact⟨os,h5.up hG.le,h6⟩,rl.dj,rl.fxd⟩;have e':dP (ba fr) (some d) (.d (.v (.func (.func gf) ⟨[]⟩ ⟨[pv]⟩))) j=some g:=by
  rw[js] at e;simp only[dP];split at e
  ·rename_i hk;rw[if_pos hk];exact e
  ·rename_i hk;rw[if_neg hk];exact e
 exact(jt rel).fx (fun k g _ e=>by obtain⟨u,h5,h6⟩:=rl.fx k g e;exact⟨u,h5,h6.up hG.le⟩) (show bP ρ G' (.d (.v (.func (.func gf) ⟨[]⟩ ⟨[pv]⟩))) _ from(bc (G:=G')).2 rfl) j g e'
end
section
variable {GB:Gh} {C:aC} {n:Nat} {Q0:Exit->Act->World->Prop} {fr fr':aA} {own own':aH} {cf cf':Cf} {vc:List Prop}
def glA(fr:aA)(cf:Cf):Option Nat:=match b6 fr cf with
 |some ⟨_, .load t (.global g),_,_,_,_⟩=>(match cH tt t with
  |some i=>match i.ag with
   |some none=>some g
   |_=>none
  |none=>none)
 |_=>none
def Va{nm0 nm:Nat}{B1 B2:Option Bk}:bh (m9 (m9 own nm0 B1) nm B2)=upB (upB (bh own) [(nm0,B1)]) [(nm,B2)]:=by
 funext j;rw[zj];simp only[upB];rw[zj]
def QI{nm0 nm k:Nat}(hnm:Nat.blt nm 2000000=true){ty0:TypeId}{cs:List FX}{lo:Bool}(hb:bh own nm0=some (.o ty0 cs lo))(hk:cs[k]? =some .nl)(hne:nm0≠nm){Φ:Act->World->Prop}{ty s:Nat}(hf:jF [nm] none (ba fr) (bh own))
  (h:SX GB C n (ba fr) (bh (m9 (m9 own nm0 (some (.o ty0 (cs.set k (.rw nm)) lo))) nm (some (.b ty s [] true)))) Φ):SX GB C n (ba fr) (bh own) Φ:=by
 refine⟨fun ρ G ov a w r=>?_⟩;obtain⟨f1,f2⟩:=hf nm aQ;rw[Va] at h;refine h.run (fun k=>if k=nm then⟨none,0,0⟩ else ρ k) G ov a w ⟨r.gb,r.h,r.sz,r.df,fun k f e=>?_,fun m B e=>?_,fun m m' B B' e e' hne=>?_,fun m p h1 h2 e=>by
  have:nm<2000000:=by simpa[mK] using hnm
  show(if m=nm then(⟨none,0,0⟩:SV) else ρ m).a=_;rw[if_neg (by omega)];exact r.fxd m p h1 h2 e⟩
 ·obtain⟨v,h1,h2⟩:=r.fx k f e
  exact⟨v,h1,h2.ren fun m hm=>sF _ fun hc=>f1 k f (by simp) e (by rw[hm,hc])⟩
 ·simp only[upB] at e
  by_cases hm:m=nm
  ·subst hm;simp only[if_true] at e;cases e
   exact⟨[],⟨[],by simp only[if_true];exact .inl ⟨J,J,J⟩, .nil,by simp,fun _ o ho=>by cases ho⟩,fun o ho=>by cases ho⟩
  ·simp only[hm,if_false] at e
   by_cases hm0:m=nm0
   ·subst hm0;simp only[if_true] at e;cases e
    obtain⟨os,h1,h2⟩:=r.bx m _ hb;have h1':kl (fun k=>if k=nm then⟨none,0,0⟩ else ρ k) G m (.o ty0 cs lo) os:=h1.ren (if_neg hm) fun q hq=>sF _ fun hc=>f2 m _ hm hb (by rw[<-hc];exact hq);obtain⟨b,ms,k1,k2,k3⟩:=h1';refine⟨os,⟨b,ms,k1,k2,?_⟩,h2⟩;obtain⟨y,e1,e2⟩:=k3.get hk;have:=k3.set (f:= .rw nm) (y:=y) k (by show y=_;simp only[if_true];exact e2);rwa [show ms.set k y=ms by apply oU;intro j;rw[nZ];split<;>(try rfl);rename_i hj;subst hj;split<;>simp_all] at this
   ·simp only[hm0,if_false] at e
    obtain⟨os,h1,h2⟩:=r.bx m B e;exact⟨os,h1.ren (if_neg hm) fun q hq=>sF _ fun hc=>f2 m B hm e (by rw[<-hc];exact hq),h2⟩
 ·intro b hbb hb'
  have key: ∀q B,upB (upB (bh own) [(nm0,some (.o ty0 (cs.set k (.rw nm)) lo))]) [(nm,some (.b ty s [] true))] q=some B->q≠nm-> ∃B0,bh own q=some B0:=fun q B eq hq=>by
   simp only[upB,hq,if_false] at eq;by_cases hq0:q=nm0
   ·subst hq0;exact⟨_,hb⟩
   ·simp only[hq0,if_false] at eq;exact⟨_,eq⟩
  by_cases hm:m=nm
  ·simp[hm] at hbb
  ·by_cases hm':m'=nm
   ·simp[hm'] at hb'
   ·obtain⟨B0,g0⟩:=key m B e hm
    obtain⟨B1,g1⟩:=key m' B' e' hm';simp only[hm,hm',if_false] at hbb hb';exact r.dj m m' B0 B1 g0 g1 hne b hbb hb'
def yk(nm0 k nm ty s:Nat){ty0:TypeId}{cs:List FX}{lo:Bool}{own1:aH}{c:Code}{K:List Kt}(hb:bh own nm0=some (.o ty0 cs lo))(hk:cs[k]? =some .nl)(hf:sv [nm] none fr own=true)(hne:Nat.beq nm0 nm=false)
  (ho:m9 (m9 own nm0 (some (.o ty0 (cs.set k (.rw nm)) lo))) nm (some (.b ty s [] true))=own1)(h:av prog GB C n Q0 fr own1 (.code c K))(hnm:Nat.blt nm 2000000=true:=by rfl):av prog GB C n Q0 fr own (.code c K):=by
 subst ho;exact QI hnm hb hk (fun e=>by subst e;rw[pJ] at hne;cases hne) (y9 hf) h
def Nv{ρ:NE}{G:Gh}: ∀{a b:List FX} {m:List Value},cP ρ G (a++b) m-> ∃m1 m2,m=m1++m2/\cP ρ G a m1/\cP ρ G b m2
 |[],b,m,h=>⟨[],m,J,J,h⟩
 |f::t,b,m,⟨y,n,e,h1,h2⟩=>by
  obtain⟨m1,m2,rfl,k1,k2⟩:=Nv h2;exact⟨y::m1,m2,e,⟨y,m1,J,h1,k1⟩,k2⟩
def bzA(fr:aA)(cf:Cf):Option (Nat×List FX):=match b6 fr cf with
 |some ⟨some d, .build t ⟨[]⟩,_,_,_,_⟩=>match cH tt t with
  |some ⟨.st _,_,some zx,_⟩=>some (d,zx)
  |_=>none
 |_=>none
end
section
variable {GB:Gh} {C:aC} {n:Nat} {Q0:Exit->Act->World->Prop} {fr fr':aA} {own own':aH} {cf cf':Cf} {vc:List Prop} {ops:Array Oper} {o:Oper} {r:List Oper} {K:List Kt}
def Ls{p q:Nat->Option (Nat×Nat)}(h: ∀i x,p i=some x->q i=some x): ∀(ps:List (Nat×Value)) (cs out:Array Value),Instr.fill p cs ps=some out->Instr.fill q cs ps=some out
 |[],cs,out,e=>e
 |(i,v)::ps,cs,out,e=>by
  simp only[Instr.fill] at e⊢;split at e
  ·cases e
  ·rename_i off size hp
   rw[h i _ hp];dsimp only;split at e
   ·cases e
   ·rename_i hc
    rw[if_neg hc];exact Ls h ps _ _ e
def VU{P:Program}{fr:Fr}{own:List ao}{G:Gh}{t e s len:Nat}{j:TypeInfo}{parts:Array (Nat×Operand)}{z:Value}{out:List Value}{dst:Option Nat}{ty':TypeId}{pos:String}{af:Array Edge}{gd:Option (Nat×Bool)}[hz:gt P t z](hu:P.underlying t=some (.array len e))(hj:P.info? e=some j)(hs:j.size=s)
  (hb:sD fr ((List.range len).map fun i=>(i*s,s)) (aD z) parts.toList=some out):Yd P C fr own G ⟨dst, .build t parts,ty',pos,af,gd⟩ (.agg ⟨out⟩):=by
 intro a w hf hh;simp only[execOp];have:(Instr.build t (parts.map fun(i,x)=>(i,a.eval x))).run P w= .ok (.agg ⟨out⟩) w:=by
  unfold Instr.build;rw[aP (hz.zero w),nB];rw[aP (pm hu w)];simp only[];rw[aP (sA hj w),hs];have:=Ls (q:=fun i=>some (i*s,s)) (fun i x hx=>by
   have hx':((List.range len).map fun i=>(i*s,s))[i]? =some x:=by simpa using hx
   rw[eJ] at hx'
   cases hr:(List.range len)[i]? with
   |none=>rw[hr] at hx';cases hx'
   |some y=>
    rw[hr] at hx';cases hx';obtain⟨h1,h2⟩:=aM.1 hr;rw[List.getElem_range] at h2;rw[h2]) _ _ _ (FR hf ((List.range len).map fun i=>(i*s,s)) parts.toList _ _ hb)
  simp only[pQ,this];rfl
 exact cA this
def Cc:Nat->Nat->Nat->List (Nat×Nat×Nat)
 |_,0,_=>[]
 |i,k+1,s=>(i*s,0,s)::Cc (i+1) k s
def J3: ∀(i k s:Nat),(Cc i k s).map (fun x=>(x.1,x.2.2))=(List.range' i k).map fun j=>(j*s,s)
 |_,0,_=>rfl
 |i,k+1,s=>by simp only[Cc,bJ,List.range',J3 (i+1) k s]
def Pk(fr:aA)(cf:Cf)(len s:Nat):Option (TypeId×FX):=match b6 fr cf with
 |some ⟨_, .build t parts,_,_,_,_⟩=>match cH tt t with
  |some ⟨.o,_,some zx,_⟩=>match rG (bu fr cf) (Cc 0 len s) zx parts.toList with
   |some cs=>match uM cs with
    |some f=>some (t,f)
    |none=>none
   |none=>none
  |_=>none
 |_=>none
def YV[fu:Fu]{t e len s:Nat}{f:FX}(h:Pk fr cf len s=some (t,f))(hu:prog.underlying t=some (.array len e))(hs:(prog.info? e).map (·.size)=some s)
  (hgo:cE tt n fu.n fr own cf f [] []=⟨vc,fr',own',cf'⟩)(k:av prog GB C n Q0 fr' own' cf')
  (hv:ah vc:=by first|exact trivial|(simp only[ah];kernel_rfl)|(simp only[ah];omega)):av prog GB C n Q0 fr own cf:=by
 unfold Pk at h;split at h<;>try (cases h;done)
 rename_i hh;split at h<;>try (cases h;done)
 rename_i hT;split at h<;>try (cases h;done)
 rename_i hb;split at h<;>cases h;rename_i hf;refine us hh (.yd fun ρ G ov a w r=>?_) hgo hv k
 cases hj:prog.info? e with
 |none=>rw[hj] at hs;cases hs
 |some j=>
 rw[hj] at hs;obtain⟨v,hv,hv'⟩:=ym (e7 _ _ hT) rfl;obtain⟨l,h1,h2⟩:=Bl r _ _ _ _ hb (hv' ρ G);rw[J3,<-List.range_eq_range'] at h1;exact⟨.agg ⟨l⟩,Ex h2 hf,VU hu hj (Option.some.inj hs) h1⟩
def aHT(fr:aA)(own:aH)(cf:Cf)(k:Nat):Option (TypeId×FX):=match b6 fr cf with
 |some ⟨_, .load t x,_,_,_,_⟩=>match aO (bu fr cf) x with
  |some (.ov nm off)=>match f7 fr own cf nm with
   |some (.o _ cs _)=>match takeX cs off k with
    |some l=>match uM l with
     |some f=>some (t,f)
     |none=>none
    |none=>none
   |_=>none
  |_=>none
 |_=>none
def aH0(fr:aA)(cf:Cf)(off s:Nat):Option (TypeId×List DV×Int):=match b6 fr cf with
 |some ⟨_, .index t x y,_,_,_,_⟩=>match aO (bu fr cf) x with
  |some (.d (.ag ms))=>match aO (bu fr cf) y with
   |some (.d (.v (.int _ i)))=>match takeD ms off s with
    |some l=>some (t,l,i)
    |none=>none
   |_=>none
  |_=>none
 |_=>none
end
section
variable {GB:Gh} {C:aC} {n:Nat} {Q0:Exit->Act->World->Prop} {fr fr':aA} {own own':aH} {cf cf':Cf} {vc:List Prop} {lk:LK} {bk:BM} {dst:Option Nat} {ty:TypeId} {pos:String} {af:Array Edge} {gd:Option (Nat×Bool)}
def EB(t:TypeId):Prop:= ∀(x:Value) w,(Instr.makeInterface t x).run prog w= .ok (.iface t x) w
def BB(t:TypeId)(u:Value)(m:String)(f:FuncId):Prop:= ∀w,(method (prog.types.size+Made.depth) t u m).run prog w= .ok (f,u) w
def aA4{t:TypeId}{x:Operand}{d:DV}{u:Value}(ht:EB t)(hx:evD lk x=some d)(hd: ∀G y,Is G d y->y=u):bO prog GB C n lk bk ⟨dst, .makeInterface t x,ty,pos,af,gd⟩ (.d (.v (.iface t u))) [] []:=
 bO.yd fun ρ G ov a w r=>by
  obtain⟨y,hy,hy'⟩:=r.evD hx;obtain rfl:=hd G y hy';refine⟨_,(bc (G:=G)).2 J,fun a' w' hf _=>?_⟩;refine cA (f:=Next.value) ?_;rw[bi hf hy];exact ht _ _
def aqS{x:Operand}{m:String}{args:Array Operand}{tys:Array TypeId}{t:TypeId}{u:Value}{f:FuncId}{vs:List Value}{fr:Fr}{a:Act}{w:World}(hf:kj fr a)(hx:aw fr x=some (.iface t u))(hv:fq fr args.toList=some vs)(hm:BB t u m f)(hc:qo prog f):
  (execOp a.eval ⟨dst, .call ⟨.invoke x m,args,tys⟩,ty,pos,af,gd⟩).run prog w= .ok (.enter f ⟨u::vs⟩) w:=by
 have e:args.map a.eval=⟨vs⟩:=by apply Array.ext';simpa using yu hf hv
 simp only[execOp,resolve,bi hf hx,e];show(invoke (.fn (.method m) #[]) (#[.iface t u]++⟨vs⟩)).run prog w=_;simp only[invoke];have h0:(#[Value.iface t u]++(⟨vs⟩:Array Value))[0]? =some (.iface t u):=by simp
 have h1:(#[Value.iface t u]++(⟨vs⟩:Array Value)).extract 1 (#[Value.iface t u]++(⟨vs⟩:Array Value)).size=⟨vs⟩:=by
  apply Array.ext';simp
 rw[h0,h1];show(callMethod (.iface t u) m ⟨vs⟩).run prog w=_;unfold callMethod;show((do
  let p<-program
  let(g,receiver)<-method (p.types.size+Made.depth) t u m
  callFunc g (#[receiver]++⟨vs⟩)):Sem Next).run prog w=_
 rw[aP (a:=prog) (w':=w) J,aP (hm w)];show(callFunc f (#[u]++⟨vs⟩)).run prog w=_;rw[CU hc];simp
def aBo{x:Operand}{m:String}{args:Array Operand}{tys:Array TypeId}{t:TypeId}{u:Value}{f:FuncId}{ds:List DV}{rv:DV}(hx:aO lk x=some (.d (.v (.iface t u))))(ha:evDs lk args.toList=some ds)(hm:BB t u m f)(hF:PF GB prog f (.v u::ds) rv):
  bO prog GB C n lk bk ⟨dst, .call ⟨.invoke x m,args,tys⟩,ty,pos,af,gd⟩ (.d rv) [] []:=by
 intro hd tl tb K' s1 s2 hf hk;refine⟨fun ρ G ov a w r Q=>?_⟩;obtain⟨y,hy,hy'⟩:=(r.mono s1 s2).ev hx;rw[(bc (G:=G)).1 hy'] at hy;obtain⟨vs,h3,h4⟩:=(r.mono s1 s2).evDs ha;have hFn:=hF G (u::vs) r.gb (.cons (bc.2 J) h4);have h2:=aqS (dst:=dst) (ty:=ty) (pos:=pos) (af:=af) (gd:=gd) (tys:=tys) (w:=w) (cB a) hy h3 hm hFn.able;simp only[Oper.wp,h2,Oper.upon];refine(hFn.run w r.h.sub).mono ?_;rintro e w' ⟨v,G',rfl,hh,hK⟩;have rl:fC C n (cg a) ov G a w:=⟨r.h,r.sz,cB a,r.df⟩;have rl2:=(rl.heap (rl.h.called hh)).put v hd;exact hk.run ρ G' ov _ w' ⟨r.gb.trans hh.gle,rl2.h,rl2.sz,rl2.df,(jt rl2).fx (fun k g _ e=>by obtain⟨z,h5,h6⟩:=r.fx k g e;exact⟨z,h5,h6.up hh.gle⟩) hK,
  fun nm B e=>by obtain⟨os,h5,h6⟩:=r.bx nm B e;exact⟨os,h5.up hh.gle,h6⟩,r.dj,r.fxd⟩
def PE(fr:aA)(cf:Cf):Option (TypeId×DV):=match b6 fr cf with
 |some ⟨_, .makeInterface t x,_,_,_,_⟩=>match evD (bu fr cf) x with
  |some d=>some (t,d)
  |none=>none
 |_=>none
def SK[fu:Fu]{t:TypeId}{d:DV}(u:Value)(ha:PE fr cf=some (t,d))(ht:EB t)(hd: ∀G y,Is G d y->y=u)(hgo:cE tt n fu.n fr own cf (.d (.v (.iface t u))) [] []=⟨vc,fr',own',cf'⟩)(k:av prog GB C n Q0 fr' own' cf')
  (hv:ah vc:=by first|exact trivial|(simp only[ah];kernel_rfl)|(simp only[ah];omega)):av prog GB C n Q0 fr own cf:=by
 unfold PE at ha;split at ha<;>try (cases ha;done)
 rename_i hh;split at ha<;>cases ha;rename_i hx;exact us hh (aA4 ht hx hd) hgo hv k
def Jk(fr:aA)(cf:Cf):Option (String×TypeId×Value×List DV):=match b6 fr cf with
 |some ⟨_, .call ⟨.invoke x m,args,_⟩,_,_,_,_⟩=>match aO (bu fr cf) x with
  |some (.d (.v (.iface t u)))=>match evDs (bu fr cf) args.toList with
   |some ds=>some (m,t,u,ds)
   |none=>none
  |_=>none
 |_=>none
def R1[fu:Fu]{m:String}{t:TypeId}{u:Value}{f:FuncId}{ds:List DV}{rv:DV}(ha:Jk fr cf=some (m,t,u,ds))(hm:BB t u m f)(hF:PF GB prog f (.v u::ds) rv)(hgo:cE tt n fu.n fr own cf (.d rv) [] []=⟨vc,fr',own',cf'⟩)(k:av prog GB C n Q0 fr' own' cf')
  (hv:ah vc:=by first|exact trivial|(simp only[ah];kernel_rfl)|(simp only[ah];omega)):av prog GB C n Q0 fr own cf:=by
 unfold Jk at ha;split at ha<;>try (cases ha;done)
 rename_i hh;split at ha<;>try (cases ha;done)
 rename_i hx;split at ha<;>cases ha;rename_i hds;exact us hh (aBo hx hds hm hF) hgo hv k
def PF.arg0{f:FuncId}{d e:DV}{ds:List DV}{rv:DV}(h:PF GB prog f (d::ds) rv)(he: ∀G y,Is G e y->Is G d y):PF GB prog f (e::ds) rv:=fun G vs hg hvs=>by
 obtain⟨y,m,rfl,h1,h2⟩:=bt.1 hvs;exact h G _ hg (.cons (he G y h1) h2)
end
section
variable {GB:Gh} {C:aC} {n:Nat} {Q0:Exit->Act->World->Prop} {fr fr':aA} {own own':aH} {cf cf':Cf} {vc:List Prop} {lk:LK} {bk:BM} {dst:Option Nat} {ty:TypeId} {pos:String} {af:Array Edge} {gd:Option (Nat×Bool)}
def zt(lk:LK):List Operand->Option (List Value)
 |[]=>some []
 |x::xs=>match aO lk x with
  |some (.d (.v pv))=>match zt lk xs with
   |some l=>some (pv::l)
   |none=>none
  |_=>none
def HF{ρ:NE}{G:Gh}{ov:List ao}{a:Act}{w:World}(r:bE GB C n lk bk ρ G ov a w): ∀{xs:List Operand} {l:List Value},zt lk xs=some l->xs.mapM (aw (cg a))=some l
 |[],l,h=>by cases h;rfl
 |x::xs,l,h=>by
  simp only[zt] at h;split at h<;>try (cases h;done)
  rename_i h1;split at h<;>cases h;rename_i h2;obtain⟨y,h3,h4⟩:=r.ev h1;rw[(bc (G:=G)).1 h4] at h3;rw[nY,h3,HF r h2];rfl
def Je(fr:aA)(cf:Cf):Option (FuncId×List Value×List Value):=match b6 fr cf with
 |some ⟨_, .makeFunc (.func f) ⟨xs⟩ ⟨ys⟩,_,_,_,_⟩=>match zt (bu fr cf) xs,zt (bu fr cf) ys with
  |some a,some b=>some (f,a,b)
  |_,_=>none
 |_=>none
def MO[fu:Fu]{f:FuncId}{c1 c2:List Value}(h:Je fr cf=some (f,c1,c2))(hgo:cE tt n fu.n fr own cf (.d (.v (.func (.func f) ⟨c1⟩ ⟨c2⟩))) [] []=⟨vc,fr',own',cf'⟩)(k:av prog GB C n Q0 fr' own' cf')
  (hv:ah vc:=by first|exact trivial|(simp only[ah];kernel_rfl)|(simp only[ah];omega)):av prog GB C n Q0 fr own cf:=by
 unfold Je at h;split at h<;>try (cases h;done)
 rename_i hh;split at h<;>cases h;rename_i h1 h2;exact us hh (bO.yd (f:= .d (.v (.func (.func f) ⟨c1⟩ ⟨c2⟩))) fun ρ G ov a w r=>⟨_,(bc (G:=G)).2 J,yp (HF r h1) (HF r h2)⟩) hgo hv k
def II(fr:aA)(cf:Cf):Option (FuncId×DV):=match b6 fr cf with
 |some ⟨_, .makeFunc (.func f) ⟨[x]⟩ ⟨[]⟩,_,_,_,_⟩=>match evD (bu fr cf) x with
  |some d=>some (f,d)
  |_=>none
 |_=>none
def CL[fu:Fu]{f:FuncId}{d:DV}(pv:Value)(h:II fr cf=some (f,d))(hd: ∀G y,Is G d y->y=pv)(hgo:cE tt n fu.n fr own cf (.d (.v (.func (.func f) ⟨[pv]⟩ ⟨[]⟩))) [] []=⟨vc,fr',own',cf'⟩)(k:av prog GB C n Q0 fr' own' cf')
  (hv:ah vc:=by first|exact trivial|(simp only[ah];kernel_rfl)|(simp only[ah];omega)):av prog GB C n Q0 fr own cf:=by
 unfold II at h;split at h<;>try (cases h;done)
 rename_i hh;split at h<;>cases h;rename_i hx;exact us hh (bO.yd (f:= .d (.v (.func (.func f) ⟨[pv]⟩ ⟨[]⟩))) fun ρ G ov a w r=>by
  obtain⟨y,hy,hy'⟩:=r.evD hx;obtain rfl:=hd G y hy';exact⟨_,(bc (G:=G)).2 J,yp (l1:=[y]) (l2:=[]) (by simp[hy]) J⟩) hgo hv k
def R9{fo:Operand}{args:Array Operand}{tys:Array TypeId}{f:FuncId}{c1 c2:List Value}{ds1 ds ds2:List DV}{rv:DV}(h1:aO lk fo=some (.d (.v (.func (.func f) ⟨c1⟩ ⟨c2⟩))))(h2:evDs lk args.toList=some ds)(hc:IsLs GB ds1 c1)(hc2:IsLs GB ds2 c2)(hF:PF GB prog f (ds1++ds++ds2) rv):
  bO prog GB C n lk bk ⟨dst, .call ⟨.value fo,args,tys⟩,ty,pos,af,gd⟩ (.d rv) [] []:=by
 intro hd tl tb K' s1 s2 hf hk;refine⟨fun ρ G ov a w r Q=>?_⟩;obtain⟨y,hy,hy'⟩:=(r.mono s1 s2).ev h1;rw[(bc (G:=G)).1 hy'] at hy;obtain⟨vs,h3,h4⟩:=(r.mono s1 s2).evDs h2;refine Kw (c1:=c1) (c2:=c2) hy h3 (hF G (c1++vs++c2) r.gb (((hc.up r.gb).app h4).app (hc2.up r.gb))) hd (fun v G' hG hK a' w' rl=>?_) a w Q ⟨r.h,r.sz,cB a,r.df⟩;exact hk.run ρ G' ov a' w' ⟨r.gb.trans hG.le,rl.h,rl.sz,rl.df,(jt rl).fx (fun k g _ e=>by obtain⟨u,h5,h6⟩:=r.fx k g e;exact⟨u,h5,h6.up hG.le⟩) hK,
  fun nm B e=>by obtain⟨os,h5,h6⟩:=r.bx nm B e;exact⟨os,h5.up hG.le,h6⟩,r.dj,r.fxd⟩
def OF(fr:aA)(cf:Cf):Option (FuncId×List Value×List Value×List DV):=match b6 fr cf with
 |some ⟨_, .call ⟨.value fo,args,_⟩,_,_,_,_⟩=>match aO (bu fr cf) fo,evDs (bu fr cf) args.toList with
  |some (.d (.v (.func (.func f) ⟨c1⟩ ⟨c2⟩))),some ds=>some (f,c1,c2,ds)
  |_,_=>none
 |_=>none
def zm[fu:Fu]{f:FuncId}{c1 c2:List Value}{ds ds1 ds2:List DV}{rv:DV}(ha:OF fr cf=some (f,c1,c2,ds))(hc:IsLs GB ds1 c1)(hc2:IsLs GB ds2 c2)(hF:PF GB prog f (ds1++ds++ds2) rv)(hgo:cE tt n fu.n fr own cf (.d rv) [] []=⟨vc,fr',own',cf'⟩)(k:av prog GB C n Q0 fr' own' cf')
  (hv:ah vc:=by first|exact trivial|(simp only[ah];kernel_rfl)|(simp only[ah];omega)):av prog GB C n Q0 fr own cf:=by
 unfold OF at ha;split at ha<;>try (cases ha;done)
 rename_i hh;split at ha<;>cases ha;rename_i h1 h2;exact us hh (R9 h1 h2 hc hc2 hF) hgo hv k
end
section
variable {GB:Gh} {C:aC} {n:Nat} {Q0:Exit->Act->World->Prop} {fr fr':aA} {own own':aH} {cf cf':Cf} {vc:List Prop}
def N8(fr:aA)(cf:Cf):Option (Int×Int):=match b6 fr cf with
 |some ⟨_, .binOp .xor _ x y _,_,_,_,_⟩=>match aO (bu fr cf) x,aO (bu fr cf) y with
  |some (.d (.v (.int .u32 p))),some (.d (.v (.int .u32 q)))=>some (p,q)
  |_,_=>none
 |_=>none
def xr[fu:Fu]{p q:Int}(u:Int)(h:N8 fr cf=some (p,q))(e:(((BitVec.ofInt 32 p^^^BitVec.ofInt 32 q).toNat:Nat):Int)=u)(hgo:cE tt n fu.n fr own cf (.d (.v (.int .u32 u))) [] []=⟨vc,fr',own',cf'⟩)(k:av prog GB C n Q0 fr' own' cf')
  (hv:ah vc:=by first|exact trivial|(simp only[ah];kernel_rfl)|(simp only[ah];omega)):av prog GB C n Q0 fr own cf:=by
 unfold N8 at h;split at h<;>try (cases h;done)
 rename_i hh;split at h<;>cases h;rename_i h1 h2;subst e;exact us hh (.yd fun ρ G ov a w r=>by
  obtain⟨y1,h3,h4⟩:=r.ev h1;obtain⟨y2,h5,h6⟩:=r.ev h2;rw[dh] at h4 h6;subst h4 h6;exact⟨_,dh.2 J,ie h3 h5 fun w=>by
   show(pure (Value.int .u32 (IntKind.u32.wrap ((BitVec.ofInt 32 p^^^BitVec.ofInt 32 q).toNat:Int))):Sem Value).run prog w=_;rw[Bn];rfl⟩) hgo hv k
def OP(fr:aA)(cf:Cf):Option (Int×Int):=match b6 fr cf with
 |some ⟨_, .binOp .sub _ x y _,_,_,_,_⟩=>match aO (bu fr cf) x,aO (bu fr cf) y with
  |some (.d (.v (.int .u32 p))),some (.d (.v (.int .u32 q)))=>some (p,q)
  |_,_=>none
 |_=>none
def sw[fu:Fu]{p q:Int}(u:Int)(h:OP fr cf=some (p,q))(e:(p-q)%4294967296=u)(hgo:cE tt n fu.n fr own cf (.d (.v (.int .u32 u))) [] []=⟨vc,fr',own',cf'⟩)(k:av prog GB C n Q0 fr' own' cf')
  (hv:ah vc:=by first|exact trivial|(simp only[ah];kernel_rfl)|(simp only[ah];omega)):av prog GB C n Q0 fr own cf:=by
 unfold OP at h;split at h<;>try (cases h;done)
 rename_i hh;split at h<;>cases h;rename_i h1 h2;subst e;exact us hh (.yd fun ρ G ov a w r=>by
  obtain⟨y1,h3,h4⟩:=r.ev h1;obtain⟨y2,h5,h6⟩:=r.ev h2;rw[dh] at h4 h6;subst h4 h6;exact⟨_,dh.2 J,by rw[<-pD];exact ul h3 h5⟩) hgo hv k
def Oq(fr:aA)(cf:Cf):Option Int:=match b6 fr cf with
 |some ⟨_, .unOp .xor _ x,_,_,_,_⟩=>match aO (bu fr cf) x with
  |some (.d (.v (.int .u32 p)))=>some p
  |_=>none
 |_=>none
def nt[fu:Fu]{p:Int}(u:Int)(h:Oq fr cf=some p)(e:(((BitVec.ofInt 32 IntKind.u32.max^^^BitVec.ofInt 32 p).toNat:Nat):Int)=u)(hgo:cE tt n fu.n fr own cf (.d (.v (.int .u32 u))) [] []=⟨vc,fr',own',cf'⟩)(k:av prog GB C n Q0 fr' own' cf')
  (hv:ah vc:=by first|exact trivial|(simp only[ah];kernel_rfl)|(simp only[ah];omega)):av prog GB C n Q0 fr own cf:=by
 unfold Oq at h;split at h<;>try (cases h;done)
 rename_i hh;split at h<;>cases h;rename_i hx;subst e;refine us hh (.x1 hx fun ρ G ov a w y _ r h1 h2=>?_) hgo hv k;rw[dh] at h2;subst h2;refine⟨_,dh.2 J,fun a w hf hh=>?_⟩;simp only[execOp,bi hf h1];refine cA (w':=w) ?_;show(pure (Value.int .u32 (IntKind.u32.wrap ((BitVec.ofInt 32 IntKind.u32.max^^^BitVec.ofInt 32 p).toNat:Int))):Sem Value).run prog w=_;rw[Bn];rfl
end

def Q7{ds:List Nat}{k:Nat}(hk:k<ds.length)(h:trimD ds=trimD (ds.take (k+1)))(h0:ds.getD k 0=0):trimD ds=trimD (ds.take k):=by
 rw[h,fM hk];have:ds[k]=0:=by rw[aX,aZ hk] at h0;simpa using h0
 rw[this,NH]
def Sg{ds:List Nat}{k:Nat}(hk:k<ds.length)(h:trimD ds=trimD (ds.take (k+1)))(h0:ds.getD k 0≠0):trimD ds=ds.take (k+1):=by
 rw[h,fM hk];have:ds[k]≠0:=by rw[aX,aZ hk] at h0;simpa using h0
 exact F4 this
def iO{A G:Gh}{x:SV}{ds:List Nat}(hx:cd A x ds)[GL A G](hb:ds.length<=1125899906842624):Fn prog 361 [x.v] G (fun v _=>v= .slice x.a (trimD ds).length x.c):=by
 have hlen:=hx.len;have hcap:=hx.sl.cap;refine Fn.intro func361 J J ntmps361 J ?_;intro C _ _;refine sR<|sa J J<|zE<|bH<|et<|?_;refine kG (X:=Nat) (fun k=>[(0, .slice x.a k x.c)]) (fun _=>[]) (fun k _=>k<=ds.length/\trimD ds=trimD (ds.take k)) (fun k=>k) ds.length ⟨aL _,by simp⟩ (hlen▸ .cons J .nil) J ?_;rintro k Gx _ ⟨hk,ht⟩;refine bH<|sR<|sm J J<|cD J J<|sy (s5 J J) J<|sm J J<|?_;refine BC 6 J (fun hg=>?_) (fun hg=>?_)
 ·have hk1:k-1<ds.length:=by omega
  have hkt:((k:Int)-1).toNat=k-1:=by omega
  have hk2:k=k-1+1:=by omega
  refine fg J J (mp J) J<|fg J J (mp J) J<|fg J J (uR J) J<|fg J J (jx J J) J<|?_;refine fg J J (gw (z:=⟨x.a,k,x.c⟩) (hx.take k hk) J J (by omega) (by show _<(k:Int);omega)) J<|fg J J (gI hx J (by omega)) J<|fg J J (oc J J) J<|sy (zo J J) J<|zE<|?_;rw[hkt];refine kD J (fun hc=>?_) (fun hc=>?_) -- slot 14
  ·refine i4<|eh<|eh<|i6<|sR<|sm J J<|sa J J<|zE<|dO<|?_
   have hs:=Sg hk1 (hk2▸ht) (fun e=>hc (by rw[e];rfl));refine zD (.tmp J .nil) ?_;rw[hs,<-hk2];simp[gn,hk]
  refine zK<|et<|dB<|sm J J<|sm J J<|cD J J<|sy (jx J J) J<|sy (Au J J (by omega) (by omega)) J<|?_;refine sa J J<|zE<|?_;exact jg (k-1) ⟨by omega,Q7 hk1 (hk2▸ht) (by omega)⟩ (by omega) (.cons (by rw[<-hkt];rfl) .nil) J
 refine ss J J J J<|ss J J J J<|ss J J J J<|ss J J J J<|ss J J J J<|ss J J J J<|?_;refine ss J J J J<|sy (x5 J J) J<|zE<|Aw J<|i4<|eh<|eh<|i6<|sR<|sm J J<|sa J J<|zE<|dO<|?_;have hk0:k=0:=by omega
 subst hk0;refine zD (.tmp J .nil) ?_;rw[ht];rfl
def Wh{A G:Gh}{x:SV}{ds:List Nat}(hx:cd A x ds)[GL A G](hb:ds.length<=1125899906842624):Fn prog 348 [x.v] G (fun v _=>v= .bool (decide (dC ds))):=by
 have hlen:=hx.len;refine Fn.intro func348 J J ntmps348 J ?_;intro C _ _;refine sR<|sa J J<|zE<|sR<|sm J J<|cD J J<|sy (oc J J) J<|sm J J<|?_;refine BC 6 J (fun hg=>?_) (fun hg=>?_)
 ·refine ss J J J J<|ss J J J J<|ss J J J J<|ss J J J J<|ss J J J J<|ss J J J J<|ss J J J J<|sy (zo J J) J<|sa J J<|?_
  refine zE<|dO<|?_;refine zD (.tmp J .nil) ?_;have:ds=[]:=bK (by omega);subst this;simp[gn,dC]
 have hne:0<ds.length:=by omega
 have hkt:((x.n:Int)-1).toNat=ds.length-1:=by omega
 refine fg J J (mp J) J<|fg J J (mp J) J<|fg J J (uR J) J<|fg J J (jx J J) J<|fg J J (gw hx J J (by omega) (by omega)) J<|?_;refine fg J J (gI hx J (by omega)) J<|fg J J (uC J J) J<|sy (x5 J J) J<|sa J J<|zE<|dO<|?_;refine zD (.tmp J .nil) ?_;rw[hkt];simp only[gn,Value.bool.injEq,decide_eq_decide,dC,lY,aX,aZ (show ds.length-1<ds.length by omega),jK,ne_eq,Option.some.injEq];exact not_congr (by omega)
def Ty(ds:List Nat): ∀v∈ds.map dI,flat v=true:=fun v hv=>by
 obtain⟨d,_,rfl⟩:=bM.1 hv;rfl
def Kh{A G:Gh}{x:SV}{ds:List Nat}(hx:cd A x ds)[GL A G](hb:ds.length<=1125899906842):Fn prog 365 [x.v] G (fun v G'=> ∃z:SV,v=z.v/\cd G' z ds):=by
 have hlen:=hx.len;refine Fn.intro func365 J J ntmps365 J ?_;intro C _ _;refine sR<|sa J J<|zE<|bH<|sR<|sm J J<|sy (NX J J) J<|zE<|?_;refine T2 J (fun hc=>?_) (fun hc=>?_)
 ·refine sR<|sa J J<|zE<|dO<|?_
  refine zD (.tmp J .nil) ⟨⟨none,0,0⟩,J,?_⟩;rcases hx.sl.mem with h|⟨b,off,cs,ha,_⟩
  ·have:ds=[]:=by simpa using h
   subst this;exact .nil _
  ·rw[ha] at hc;cases hc
 refine zK<|sR<|?_;refine sc (KF J ?_);intro b1;refine sm J J<|?_;refine sc (N9 (xs:=[]) (rest:=[]) (ys:=ds.map dI) J J (.hd ..) J J (aL _) (P' hx) (by simp[hlen]) (Ty ds) (by decide) (by omega) J J ?_);intro b cap rest h1 h2;refine sa J J<|zE<|oD b (.hd ..) (fun G' _ hgb=>?_);refine dO<|?_;refine zD (.tmp J .nil) ⟨⟨some ⟨b,0,none⟩,x.n,cap⟩,by simp[gn,SV.v],?_⟩;exact .of_block hx.ok hgb.h hlen (by omega) (by simp)
def Gj{A G:Gh}{x:SV}{ds:List Nat}{k:Nat}(hx:cd A x ds)[GL A G](hk:dv ds<2^k)(hb:ds.length<=1125899906842):Fn prog 308 [x.v] G (fun v G'=> ∃z:SV,v=z.v/\fj k G' z (dv ds)):=by
 have htl:=my ds;refine Fn.intro func308 J J ntmps308 J ?_;intro C _ _;refine sR<|sa J J<|zE<|sR<|sm J J<|?_;refine sc (zC J J (iO hx (by omega)) J ?_);rintro _ G1 _ rfl;refine sc (zC J J (Kh hx.trim (by omega)) J ?_);rintro _ G2 _ ⟨z,rfl,hz⟩;refine sa J J<|zE<|dO<|?_;refine zD (.tmp J .nil) ⟨z,J,?_⟩;exact⟨by rw[nA hx.ok];exact hz,hk⟩
end Go.Sx
end
section
namespace Go.Proofs
open Go.Shelf
def Tryz.lays128_ren:Go.Shelf.Ren:=⟨fun|128=>332|n=>n,fun|51=>366|3=>3|4=>4|46=>355|5=>5|9=>9|n=>n,fun|n=>n⟩
def Tryz.lays125_ren:Go.Shelf.Ren:=⟨fun|125=>231|128=>332|129=>333|n=>n,fun|46=>355|3=>3|51=>366|53=>251|4=>4|5=>5|9=>9|n=>n,fun|n=>n⟩
def Tryz.lays133_ren:Go.Shelf.Ren:=⟨fun|133=>366|128=>332|n=>n,fun|51=>366|3=>3|4=>4|46=>355|5=>5|9=>9|n=>n,fun|n=>n⟩
def Tryz.lays133:Go.Proofs.Lays.n133 Tryz.prog Tryz.lays133_ren:={
 mixed:=by kernel_rfl
 f128:=Tryz.func332.trans (congrArg some (by kernel_rfl))
 f133:=Tryz.func366.trans (congrArg some (by kernel_rfl))
 t3:=Tryz.underlying3
 a3:=Tryz.isAgg3
 z3:=Tryz.sizeOf3
 v3:=Tryz.zeroValue3
 t4:=Tryz.underlying4
 a4:=Tryz.isAgg4
 z4:=Tryz.sizeOf4
 v4:=Tryz.zeroValue4
 t5:=Tryz.underlying5
 a5:=Tryz.isAgg5
 z5:=Tryz.sizeOf5
 v5:=Tryz.zeroValue5
 t9:=Tryz.underlying9
 a9:=Tryz.isAgg9
 z9:=Tryz.sizeOf9
 v9:=Tryz.zeroValue9
 t46:=Tryz.underlying355
 a46:=Tryz.isAgg355
 z46:=Tryz.sizeOf355
 v46:=Tryz.zeroValue355
 t51:=Tryz.underlying366
 a51:=Tryz.isAgg366
 z51:=Tryz.sizeOf366
 v51:=Tryz.zeroValue366}
def Tryz.bits_LeadingZeros32(x:Int)(w:World)(h0:0<=x)(h1:x<=4294967295):
  Calls Tryz.prog 366 #[.int .u32 x] w fun e w'=>e= .returned (.int .i64 (32-(Lib.bitLen x.toNat:Int)))/\w'=w:=Any.bits_LeadingZeros32 Tryz.lays133 x w h0 h1
def Tryz.lays129_ren:Go.Shelf.Ren:=⟨fun|129=>333|n=>n,fun|53=>251|3=>3|4=>4|46=>355|5=>5|9=>9|n=>n,fun|n=>n⟩
def Tryz.lays317_ren:Go.Shelf.Ren:=⟨fun|317=>401|n=>n,fun|3=>3|46=>355|n=>n,fun|n=>n⟩
open Go.Lib in
def Tryz.lays318_ren:Go.Shelf.Ren:=⟨fun|318=>402|n=>n,fun|3=>3|4=>4|n=>n,fun|n=>n⟩
open Go.Lib in
def Tryz.lays283_ren:Go.Shelf.Ren:=⟨fun|283=>383|n=>n,fun|3=>3|9=>9|4=>4|n=>n,fun|n=>n⟩
open Go.Lib in
def Tryz.laysM284_ren:Go.Shelf.Ren:=⟨fun|284=>384|129=>333|317=>401|318=>402|n=>n,fun|53=>251|3=>3|212=>491|0=>0|4=>4|46=>355|5=>5|9=>9|n=>n,fun|17=>7|n=>n⟩
open Go.Lib in
def Tryz.lays285_ren:Go.Shelf.Ren:=⟨fun|285=>385|n=>n,fun|37=>476|53=>251|3=>3|4=>4|51=>366|9=>9|5=>5|0=>0|n=>n,fun|n=>n⟩
open Go.RowKit Go.Sort Go.Lib in
def Tryz.laysM246_ren:Go.Shelf.Ren:=⟨fun|246=>357|283=>383|284=>384|285=>385|286=>386|129=>333|317=>401|318=>402|319=>403|320=>404|337=>408|338=>409|n=>n,fun|2=>2|3=>3|9=>9|4=>4|171=>474|0=>0|53=>251|37=>476|5=>5|173=>477|212=>491|51=>366|20=>20|213=>492|46=>355|232=>497|233=>498|n=>n,fun|17=>7|18=>8|19=>9|n=>n⟩
open Go.RowKit Go.Sort Go.Lib in
def Tryz.lays246_ren:Go.Shelf.Ren:=⟨fun|246=>357|283=>383|284=>384|285=>385|286=>386|129=>333|317=>401|318=>402|319=>403|320=>404|337=>408|338=>409|n=>n,fun|2=>2|3=>3|9=>9|4=>4|171=>474|0=>0|53=>251|37=>476|5=>5|173=>477|212=>491|51=>366|20=>20|213=>492|46=>355|232=>497|233=>498|n=>n,fun|17=>7|18=>8|19=>9|n=>n⟩
open Go.RowKit Go.Sort Go.Lib in
def Tryz.laysM243_ren:Go.Shelf.Ren:=⟨fun|243=>285|246=>357|283=>383|284=>384|285=>385|286=>386|129=>333|317=>401|318=>402|319=>403|320=>404|337=>408|338=>409|n=>n,fun|3=>3|9=>9|2=>2|4=>4|171=>474|0=>0|53=>251|37=>476|5=>5|173=>477|212=>491|51=>366|20=>20|213=>492|46=>355|232=>497|233=>498|n=>n,fun|17=>7|18=>8|19=>9|n=>n⟩
open Go.RowKit Go.Sort Go.Lib in
def Tryz.lays243_ren:Go.Shelf.Ren:=⟨fun|243=>285|246=>357|283=>383|284=>384|285=>385|286=>386|129=>333|317=>401|318=>402|319=>403|320=>404|337=>408|338=>409|n=>n,fun|3=>3|9=>9|2=>2|4=>4|171=>474|0=>0|53=>251|37=>476|5=>5|173=>477|212=>491|51=>366|20=>20|213=>492|46=>355|232=>497|233=>498|n=>n,fun|17=>7|18=>8|19=>9|n=>n⟩
open Go.RowKit Go.Sort Go.Lib in
def Tryz.laysM171_ren:Go.Shelf.Ren:=⟨fun|171=>190|243=>285|246=>357|283=>383|284=>384|285=>385|286=>386|129=>333|317=>401|318=>402|319=>403|320=>404|337=>408|338=>409|n=>n,fun|3=>3|9=>9|2=>2|4=>4|171=>474|0=>0|53=>251|37=>476|5=>5|173=>477|212=>491|51=>366|20=>20|213=>492|46=>355|232=>497|233=>498|n=>n,fun|17=>7|18=>8|19=>9|n=>n⟩
open Go.RowKit Go.Sort Go.Lib in
def Tryz.lays171_ren:Go.Shelf.Ren:=⟨fun|171=>190|243=>285|246=>357|283=>383|284=>384|285=>385|286=>386|129=>333|317=>401|318=>402|319=>403|320=>404|337=>408|338=>409|n=>n,fun|3=>3|9=>9|2=>2|4=>4|171=>474|0=>0|53=>251|37=>476|5=>5|173=>477|212=>491|51=>366|20=>20|213=>492|46=>355|232=>497|233=>498|n=>n,fun|17=>7|18=>8|19=>9|n=>n⟩
open Go.RowKit Go.Sort Go.Lib in
def Tryz.lays264_ren:Go.Shelf.Ren:=⟨fun|264=>359|n=>n,fun|53=>251|46=>355|n=>n,fun|n=>n⟩
def Tryz.lays264:Go.Proofs.Lays.n264 Tryz.prog Tryz.lays264_ren:={
 mixed:=by kernel_rfl
 f264:=Tryz.func359.trans (congrArg some (by kernel_rfl))
 t46:=Tryz.underlying355
 a46:=Tryz.isAgg355
 z46:=Tryz.sizeOf355
 v46:=Tryz.zeroValue355
 t53:=Tryz.underlying251
 a53:=Tryz.isAgg251
 z53:=Tryz.sizeOf251
 v53:=Tryz.zeroValue251}
open Go.RowKit Go.Lib in
def Tryz.bits_Mul64(x y:Nat)(hx:x<18446744073709551616)(hy:y<18446744073709551616)(w:World):
  Calls Tryz.prog 359 #[.int .u64 x, .int .u64 y] w fun e w'=>e= .returned (.tuple #[.int .u64 ((x*y/18446744073709551616:Nat):Int), .int .u64 ((x*y%18446744073709551616:Nat):Int)])/\w'=w:=Any.bits_Mul64 Tryz.lays264 x y hx hy w
end Go.Proofs
end
section
namespace Go.Sx
open Go Go.Proofs Tryz
def bl(x:Nat):Nat:=if x=0 then 0 else Nat.log2 x+1
def CJ(x:Nat):x<2^bl x:=by
 unfold bl;split
 ·rename_i h;subst h;decide
 ·exact Nat.lt_log2_self
def nn{x k:Nat}:bl x<=k↔x<2^k:=by
 constructor
 ·intro h;exact dK (CJ x) (bY (by omega) h)
 ·intro h
  unfold bl;split
  ·omega
  ·rename_i h0
   have:=(Nat.log2_lt h0).2 h;omega
def Vy{x:Nat}(h:x≠0):bl x=1+bl (x/2):=by
 have h1: ∀k,bl x<=k+1↔bl (x/2)<=k:=fun k=>by
  rw[nn,nn,fK];omega
 have h2:bl x≠0:=fun e=>by
  have:=CJ x;rw[e] at this;simp at this;exact h this
 have h3:=(h1 (bl (x/2))).2 (aL _);have h4:=(h1 (bl x-1)).1 (by omega);omega
def Ob: ∀(f x:Nat),x<2^f->Lib.bitLenAux f x=bl x
 |0,x,h=>by
  have:x=0:=by simpa using h
  subst this;rfl
 |f+1,x,h=>by
  unfold Lib.bitLenAux;split
  ·rename_i h0;subst h0;rfl
  ·rename_i h0
   rw[Ob f (x/2) (by rw[fK] at h;omega),Vy h0]
def T5{x:Nat}(h:x<2^64):Lib.bitLen x=bl x:=Ob 64 x h
def Y5{x k:Nat}(d:Nat)(h:x<2^k)(hd:d≠0):bl (x+2^k*d)=k+bl d:=by
 have h1: ∀j,bl (x+2^k*d)<=k+j↔bl d<=j:=fun j=>by
  rw[nn,nn,fX];constructor
  ·intro h'
   exact Nat.lt_of_mul_lt_mul_left (a:=2^k) (by omega)
  ·intro h'
   have:2^k*(d+1)<=2^k*2^j:=fV _ h';rw[dX] at this;omega
 have h2:k<bl (x+2^k*d):=by
  rcases iS k (bl (x+2^k*d)) with h'|h'
  ·exact h'
  ·have:=nn.1 h'
   have h3:2^k*1<=2^k*d:=fV _ (by omega);omega
 have h3:=(h1 (bl d)).2 (aL _);have h4:=(h1 (bl (x+2^k*d)-k)).1 (by omega);omega
def TA{ds:List Nat}(h:bw ds)(hn:dC ds)(hne:ds≠[]):bl (dv ds)=32*(ds.length-1)+bl (ds.getD (ds.length-1) 0):=by
 rcases rJ ds with rfl|⟨l,d,rfl⟩
 ·exact absurd J hne
 ·rw[rK] at*
  have hd:d≠0:=fun e=>by subst e;simp[dC] at hn
  have hl:bw l:=fun x hx=>h x (cW _ hx);have h1:=jw hl;rw[uY];have h2:(4294967296:Nat)^l.length=2^(32*l.length):=by rw[oM]
  rw[h2] at h1⊢;have h3:dv [d]=d:=by simp[dv]
  rw[h3,Y5 d h1 hd];have h4:(l++[d]).length-1=l.length:=by simp
  rw[h4,aX,iV (aL _)];simp
def Jl{P:Program}{f:FuncId}{fn:Func}{c:Code}(h:P.funcs[f]? =some fn)(hb:fn.body=some c)(hn:(fn.name== "runtime.NumGoroutine")=false):qo P f:=⟨fn,h,hn,by rw[hb];rfl⟩
def EA{G:Gh}{x:Nat}(hx:x<4294967296):Fn prog 366 [.int .u32 (x:Int)] G (fun v _=>v= .int .i64 (32-(bl x:Int))):=by
 have h:=Fn.of_calls (G:=G) (Jl func366 J J) (fun w=>Tryz.bits_LeadingZeros32 (x:Int) w (by omega) (by omega));rw[bW,T5 (pV hx (by decide))] at h;exact h
def GZ{G:Gh}{u:Nat}(hu:u<18446744073709551616):Fn prog 309 [.int .u64 (u:Int)] G (fun v G'=> ∃z:SV,v=z.v/\fj 64 G' z u):=by
 refine Fn.intro func309 J J ntmps309 J ?_;intro C _ _;refine sR<|sa J J<|zE<|sR<|sm J J<|sy (jC J) J<|sm J J<|?_;refine sy (lD J J (by decide)) J<|sy (jC J) J<|?_;refine sc (FH (by rfl) (by rfl) (by rfl) (by rfl) J ?_);intro b1;refine oD b1 (.hd ..) (fun G1 _ hgb=>?_);have h1:((u:Int)%4294967296)=((u%4294967296:Nat):Int):=by omega
 have h2:((u:Int).fdiv (2^min (32:Int).toNat IntKind.u64.bits)%4294967296)=((u/4294967296:Nat):Int):=by
  have:(2^min (32:Int).toNat IntKind.u64.bits:Int)=4294967296:=by decide
  rw[this,gT _ (by omega)];omega
 have hok:bw [u%4294967296,u/4294967296]:= .cons (by omega) (.cons (by omega) .nil);have hd:cd G1 ⟨some ⟨b1,0,none⟩,2,2⟩ [u%4294967296,u/4294967296]:= .of_block hok hgb.h J (aL _) (by rw[h1,h2];rfl);have hv:dv [u%4294967296,u/4294967296]=u:=by simp only[dv];omega
 refine sc (zC J J (iO hd (by simp)) J ?_);rintro _ G2 _ rfl;refine sa J J<|zE<|dO<|?_;refine zD (.tmp J .nil) ⟨⟨some ⟨b1,0,none⟩,(trimD [u%4294967296,u/4294967296]).length,2⟩,J,?_⟩;have:=hd.trim.up (G:=G2);rw[<-nA hok,hv] at this;exact⟨by rw[<-nA hok,hv];exact this,dK hu (by decide)⟩
def PP{P:Program}{t:TypeId}(a b k:Nat)(ha:a<2^k)(h:a+b*2^k<18446744073709551616)(w:World):(binOp .or t (.int .u64 (a:Int)) (.int .u64 ((b*2^k:Nat):Int))).run P w= .ok (.int .u64 ((a+b*2^k:Nat):Int)) w:=by
 have h1:(BitVec.ofInt 64 (a:Int) ||| BitVec.ofInt 64 ((b*2^k:Nat):Int)).toNat=a+b*2^k:=by
  rw[BitVec.toNat_or,BitVec.ofInt_natCast,BitVec.ofInt_natCast,BitVec.toNat_ofNat,BitVec.toNat_ofNat,gQ (by omega),gQ (by omega)];rw[<-lM,Nat.or_comm,<-mQ ha,lM];omega
 have h2:IntKind.u64.wrap ((a+b*2^k:Nat):Int)=((a+b*2^k:Nat):Int):=by rw[l7];omega
 simp only[binOp];show(Op.intBits .or .u64 (a:Int) ((b*2^k:Nat):Int)).run P w=_;unfold Op.intBits;show(pure (Value.int .u64 (IntKind.u64.wrap ((BitVec.ofInt 64 (a:Int) ||| BitVec.ofInt 64 ((b*2^k:Nat):Int)).toNat:Int))):Sem Value).run P w=_;rw[h1,h2,run_pure]
def Ha{A G:Gh}{x:SV}{ds:List Nat}(hx:cd A x ds)[GL A G](hb:ds.length<=1125899906842624):Fn prog 315 [x.v] G (fun v _=>v= .tuple #[.int .u64 ((if dv ds<18446744073709551616 then dv ds else 0:Nat):Int), .bool (decide (dv ds<18446744073709551616))]):=by
 have htl:=my ds;have hdv:=jp ds;have hok:=hx.ok.trimD;have hnr:=dC.trimD ds;have hxt:=hx.trim;have hcall:=fun G1 (_:GL A G1)=>iO (G:=G1) hx (by omega);generalize trimD ds=es at*;have hlen:=hxt.len;rw[<-hdv];have hbig:(if dv es<18446744073709551616 then dv es else 0)=if es.length<=2 then dv es else 0:=by
  by_cases h2:es.length<=2
  ·have h3:=jw hok
   have h4:(4294967296:Nat)^es.length<=4294967296^2:=bY (by omega) h2;rw[if_pos h2,if_pos (by omega)]
  ·have h3:=qk hnr (fun e=>by subst e;simp at h2)
   have h4:(4294967296:Nat)^2<=4294967296^(es.length-1):=bY (by omega) (by omega);rw[if_neg h2,if_neg (by omega)]
 have hbig2:decide (dv es<18446744073709551616)=decide (es.length<=2):=by
  rw[decide_eq_decide];by_cases h2:es.length<=2
  ·have h3:=jw hok
   have h4:(4294967296:Nat)^es.length<=4294967296^2:=bY (by omega) h2;exact⟨fun _=>h2,fun _=>by omega⟩
  ·have h3:=qk hnr (fun e=>by subst e;simp at h2)
   have h4:(4294967296:Nat)^2<=4294967296^(es.length-1):=bY (by omega) (by omega);exact⟨fun _=>by omega,fun h=>absurd h h2⟩
 rw[hbig,hbig2];refine Fn.intro func315 J J ntmps315 J ?_;intro C _ _;refine sR<|sa J J<|sa J J<|zE<|sR<|sm J J<|?_;refine sc (zC J J (hcall _ inferInstance) J ?_);rintro _ G1 _ rfl;refine sa J J<|zE<|bH<|sR<|sm J J<|cD J J<|sy (s5 J J) J<|zE<|?_;refine gH J (fun hc=>?_) (fun hc=>?_) -- slot 11
 ·refine sR<|sa J J<|sa J J<|zE<|dO<|?_
  refine zD (.tmp J (.tmp J .nil)) ?_;have: ¬es.length<=2:=by omega
  simp[gn,this]
 have h2:es.length<=2:=by omega
 refine zK<|sR<|sa J J<|zE<|bH<|sR<|sm J J<|cD J J<|sm J J<|zE<|et<|?_;refine kG (X:=Nat) (fun k=>[(14, .int .i64 k),(13, .int .i64 es.length),(12, .slice x.a es.length x.c),(4, .int .u64 ((dv (es.take k):Nat):Int))]) (fun _=>[]) (fun k _=>k<=es.length) (fun k=>es.length-k) 0 (bQ _) (.cons J (.cons J (.cons J (.cons J .nil)))) J ?_;rintro k Gx _ hk;refine sR<|sy (kc J J) J<|zE<|bH<|?_;refine kD J (fun hc=>?_) (fun hc=>?_) -- slot 15
 ·refine i4<|eh<|eh<|i6<|sR<|sm J J<|sa J J<|sa J J<|zE<|dO<|?_
  refine zD (.tmp J (.tmp J .nil)) ?_;have hk':k=es.length:=by omega
  subst hk';simp[gn,h2]
 have hk':k<es.length:=by omega
 have hdk:=hok.get k;have hdt:=jw (hok.take k);rw[cJ,iK (by omega)] at hdt;have hds:=iG es k;have hd2:=jw (hok.take (k+1));rw[cJ,iK (by omega)] at hd2;have hp2:(4294967296:Nat)^(k+1)<=4294967296^2:=bY (by omega) (by omega);have hpk:(4294967296:Nat)^k=2^(32*k):=by rw[oM]
 refine zK<|bH<|et<|sR<|sm J J<|sy (gw (z:=⟨x.a,es.length,x.c⟩) hxt J J (by omega) (by show(k:Int)<(es.length:Nat);omega)) J<|sy (gI hxt J (by omega)) J<|sa J J<|sa J J<|zE<|dB<|?_;refine sm J J<|sm J J<|sy (ge J (by omega) (by rw[bW];omega)) J<|sm J J<|sy (Na J J (by omega) (by omega)) J<|?_;have hsh:IntKind.u64.wrap (((es.getD (k:Int).toNat 0:Nat):Int)*2^min ((32:Int)*(k:Int)).toNat IntKind.u64.bits)=((es.getD k 0*2^(32*k):Nat):Int):=by
  have e1:((32:Int)*(k:Int)).toNat=32*k:=by omega
  rw[e1,bW,iK (by show 32*k<=64;omega),l7];have e2:((es.getD k 0:Nat):Int)*2^(32*k)=((es.getD k 0*2^(32*k):Nat):Int):=by push_cast;rfl
  rw[e2];have e3:es.getD k 0*2^(32*k)<18446744073709551616:=by rw[<-hpk,bS];omega
  omega
 refine sy (uP J J (by omega)) J<|?_;rw[hsh];refine sy (ie J J (PP (dv (es.take k)) (es.getD k 0) (32*k) (by rw[<-hpk];exact hdt) (by rw[<-hpk,bS];omega))) J<|sa J J<|zE<|dB<|sy (dH J J) J<|sm J J<|zE<|?_;refine jg (k+1) (by omega) (by omega) (.cons J (.cons J (.cons J (.cons ?_ .nil)))) J;rw[hds,hpk,bS (2^(32*k))];rfl
def X7{A G:Gh}{x:SV}{ds:List Nat}(hx:cd A x ds)[GL A G](hb:ds.length<=1125899906842624):Fn prog 310 [x.v] G (fun v _=>v= .int .i64 ((bl (dv ds):Nat):Int)):=by
 have htl:=my ds;have hdv:=jp ds;have hok:=hx.ok.trimD;have hnr:=dC.trimD ds;have hxt:=hx.trim;have hcall:=fun G1 (_:GL A G1)=>iO (G:=G1) hx (by omega);generalize trimD ds=es at*;have hlen:=hxt.len;rw[<-hdv];refine Fn.intro func310 J J ntmps310 J ?_;intro C _ _;refine sR<|sa J J<|zE<|sR<|sm J J<|?_;refine sc (zC J J (hcall _ inferInstance) J ?_);rintro _ G1 _ rfl;refine sa J J<|zE<|bH<|sR<|sm J J<|cD J J<|sy (oc J J) J<|zE<|?_;refine gH J (fun hc=>?_) (fun hc=>?_) -- slot 7
 ·refine sR<|sa J J<|zE<|dO<|?_
  refine zD (.tmp J .nil) ?_;have:es=[]:=bK (by omega);subst this;rfl
 have hne:0<es.length:=by omega
 have hkt:((es.length:Int)-1).toNat=es.length-1:=by omega
 have hg:=hok.get (es.length-1);have hbl:bl (es.getD (es.length-1) 0)<=32:=nn.2 (by omega);refine zK<|sR<|sm J J<|cD J J<|sy (Na J J (by omega) (by omega)) J<|sm J J<|sm J J<|cD J J<|sy (jx J J) J<|?_;refine sy (gw (z:=⟨x.a,es.length,x.c⟩) hxt J J (by omega) (by show _<((es.length:Nat):Int);omega)) J<|sy (gI hxt J (by omega)) J<|?_;rw[hkt];refine sc (zC J J (EA hg) J ?_);rintro _ G2 _ rfl;refine sy (jx J J) J<|sa J J<|zE<|dO<|?_;refine zD (.tmp J .nil) ?_;rw[TA hok hnr (fun e=>by subst e;simp at hne)];simp only[gn,Value.int.injEq,true_and];omega
def f8(a b:Nat):Int:=if a<b then-1 else if a=b then 0 else 1
def LJ{A B G:Gh}{x y:SV}{ds es:List Nat}(hx:cd A x ds)(hy:cd B y es)[GL A G][GL B G](hb:ds.length<=1125899906842624)(hb2:es.length<=1125899906842624):
  Fn prog 367 [x.v,y.v] G (fun v _=>v= .int .i64 (f8 (dv ds) (dv es))):=by
 have htl:=my ds;have htl2:=my es;have hcall:=fun G1 (_:GL A G1)=>iO (G:=G1) hx (by omega);have hcall2:=fun G1 (_:GL B G1)=>iO (G:=G1) hy (by omega);have hxt:=hx.trim;have hyt:=hy.trim;have hok:=hx.ok.trimD;have hok2:=hy.ok.trimD;have hnr:=dC.trimD ds;have hnr2:=dC.trimD es;rw[<-jp ds,<-jp es];generalize trimD ds=a at*;generalize trimD es=b at*;refine Fn.intro func367 J J ntmps367 J ?_;intro C _ _;refine sR<|sa J J<|zE<|sR<|sm J J<|?_;refine sc (zC J J (hcall _ inferInstance) J ?_);rintro _ G1 _ rfl;refine sm J J<|?_;refine sc (zC J J (hcall2 _ inferInstance) J ?_);rintro _ G2 _ rfl;refine sa J J<|sa J J<|zE<|bH<|sR<|sm J J<|cD J J<|sm J J<|cD J J<|sy (uC J J) J<|zE<|?_;refine gH J (fun hc=>?_) (fun hc=>?_) -- slot 14
 ·refine bH<|sR<|sm J J<|cD J J<|sm J J<|cD J J<|sy (kc J J) J<|zE<|?_
  refine gH J (fun hc2=>?_) (fun hc2=>?_) -- slot 19
  ·refine sR<|sa J J<|zE<|dO<|?_
   refine zD (.tmp J .nil) ?_;have:=r4 hok hnr2 (by omega);simp[gn,f8,this]
  refine zK<|sR<|sa J J<|zE<|dO<|?_;refine zD (.tmp J .nil) ?_;have:=r4 hok2 hnr (by omega);have h1: ¬dv a<dv b:=by omega
  have h2: ¬dv a=dv b:=by omega
  simp[gn,f8,h1,h2]
 have hl:a.length=b.length:=by omega
 refine zK<|bH<|sR<|sm J J<|cD J J<|sy (jx J J) J<|sa J J<|zE<|et<|?_;refine kG (X:=Nat) (fun k=>[(5, .int .i64 (k-1)),(0, .slice x.a a.length x.c),(1, .slice y.a b.length y.c)]) (fun _=>[]) (fun k _=>k<=a.length/\a.drop k=b.drop k) (fun k=>k) a.length ⟨aL _,by rw[fU,hl,fU]⟩ (.cons J (.cons J (.cons J .nil))) J ?_;rintro k Gx _ ⟨hk,hd⟩;refine bH<|sR<|sm J J<|sy (zi J J) J<|zE<|?_;refine kD J (fun hc=>?_) (fun hc=>?_) -- slot 24
 ·refine i4<|eh<|eh<|i6<|sR<|sa J J<|zE<|dO<|?_
  refine zD (.tmp J .nil) ?_;have:k=0:=by omega
  subst this;have hab:a=b:=by simpa using hd
  subst hab;simp[gn,f8]
 have hk1:0<k:=by omega
 have hkt:((k:Int)-1).toNat=k-1:=by omega
 have hga:=hok.get (k-1);have hgb:=hok2.get (k-1);have hk2:k-1+1=k:=by omega
 refine zK<|bH<|et<|et<|bH<|dr (fun _=>false) [(0,true),(1,true),(2,true),(3,true),(4,true),(5,true),(6,true),(7,true),(8,true),(9,true)] follows (by kernel_rfl)<|?_;refine dM J J J<|dM J J J<|dy J (fun _=>gw (z:=⟨x.a,a.length,x.c⟩) hxt J J (by omega) (by show _<((a.length:Nat):Int);omega)) J J<|dy J (fun _=>gI hxt J (by omega)) J J<|?_;refine dM J J J<|dM J J J<|dy J (fun _=>gw (z:=⟨y.a,b.length,y.c⟩) hyt J J (by omega) (by show _<((b.length:Nat):Int);omega)) J J<|dy J (fun _=>gI hyt J (by omega)) J J<|?_;refine dy J (fun _=>kc J J) J J<|dA J J J<|dn<|?_;refine gH J (fun hc2=>?_) (fun hc2=>?_) -- slot 27
 ·refine sR<|sa J J<|zE<|dO<|?_
  refine zD (.tmp J .nil) ?_;rw[hkt] at hc2;have:=Cw hok hok2 (k-1) (by omega) (by omega) hl (by rw[hk2];exact hd) (by omega);simp[gn,f8,this]
 refine bH<|dr (fun _=>false) [(0,true),(1,true),(2,true),(3,true),(4,true),(5,true),(6,true),(7,true),(8,true),(9,true)] follows (by kernel_rfl)<|dM J J J<|?_;refine dM J J J<|dy J (fun _=>gw (z:=⟨x.a,a.length,x.c⟩) hxt J J (by omega) (by show _<((a.length:Nat):Int);omega)) J J<|dy J (fun _=>gI hxt J (by omega)) J J<|dM J J J<|?_;refine dM J J J<|dy J (fun _=>gw (z:=⟨y.a,b.length,y.c⟩) hyt J J (by omega) (by show _<((b.length:Nat):Int);omega)) J J<|dy J (fun _=>gI hyt J (by omega)) J J<|dy J (fun _=>s5 J J) J J<|?_;refine dA J J J<|dn<|?_;rw[hkt] at*;refine gH J (fun hc3=>?_) (fun hc3=>?_) -- slot 37
 ·refine sR<|sa J J<|zE<|dO<|?_
  refine zD (.tmp J .nil) ?_;have:=Cw hok2 hok (k-1) (by omega) (by omega) hl.symm (by rw[hk2];exact hd.symm) (by omega);have h1: ¬dv a<dv b:=by omega
  have h2: ¬dv a=dv b:=by omega
  simp[gn,f8,h1,h2]
 refine zK<|dB<|sm J J<|sy (jx J J) J<|sa J J<|zE<|?_;refine jg (k-1) ⟨by omega,?_⟩ (by omega) (.cons (by rw[show((k-1:Nat):Int)=(k:Int)-1 by omega];rfl) (.cons J (.cons J .nil))) J;have heq:a.getD (k-1) 0=b.getD (k-1) 0:=by omega
 rw[aX,aX,aZ (by omega),aZ (by omega)] at heq;rw[bX (by omega:k-1<a.length),bX (by omega:k-1<b.length),hk2,hd];congr 1
def Cy{ds:List Nat}{k:Nat}(h:ds.length<=k):ds.getD k 0=0:=by
 rw[aX,eY h];rfl
def DA(n k:Nat):(List.replicate n 0).getD k 0=0:=by
 rw[aX];by_cases h:k<n
 ·simp[h]
 ·rw[eY (by simpa using h)];rfl
def Qr{a b c:Nat}(ha:a<4294967296)(hb:b<4294967296)(hc:c<=1):(c+a+b)/4294967296<=1:=by omega
structure QN where
 ws:List Nat
 k:Nat
 c:Nat
def Zm{A B G:Gh}{x y:SV}{ds es:List Nat}{kk:Nat}(hx:cd A x ds)(hy:cd B y es)[GL A G][GL B G](hk:dv ds+dv es<2^kk)(hb:ds.length<=1125899906842)(hb2:es.length<=1125899906842):
  Fn prog 362 [x.v,y.v] G (fun v G'=> ∃z:SV,v=z.v/\fj kk G' z (dv ds+dv es)):=by
 have hlen:=hx.len;have hlen2:=hy.len;refine Fn.intro func362 J J ntmps362 J ?_;intro C _ _;refine sR<|sa J J<|zE<|?_;refine Ac ((SV×List Nat)×(SV×List Nat)) (fun q=>[(0, .slice q.1.1.a q.1.1.n q.1.1.c),(1, .slice q.2.1.a q.2.1.n q.2.1.c)]) (fun _=>[])
  (fun q G=>cd G q.1.1 q.1.2/\cd G q.2.1 q.2.2/\dv q.1.2+dv q.2.2=dv ds+dv es/\q.2.2.length<=q.1.2.length/\q.1.2.length<=1125899906842) ?_ ?_
 ·refine sR<|sm J J<|cD J J<|sm J J<|cD J J<|sy (kc J J) J<|zE<|?_
  refine gH J (fun hc=>?_) (fun hc=>?_) -- slot 13
  ·refine dB<|sm J J<|sm J J<|sa J J<|sa J J<|zE<|?_
   exact oI ((y,es),(x,ds)) ⟨hy.up,hx.up,by simp;omega,by simp;omega,by simp;omega⟩ (.cons J (.cons J .nil)) J
  refine zK<|?_;exact oI ((x,ds),(y,es)) ⟨hx.up,hy.up,J,by simp;omega,by simp;omega⟩ (.cons J (.cons J .nil)) J
 rintro ⟨⟨x,a⟩,⟨y,b⟩⟩ Gx _ ⟨hx,hy,hsum,hle,hba⟩;rw[<-hsum] at hk⊢;clear hlen hlen2 hsum;have hlen:=hx.len;have hlen2:=hy.len;simp only[] at hx hy hle hba hlen hlen2 hk⊢;refine sR<|sm J J<|cD J J<|sy (dH J J) J<|?_;refine sc (tw J J (by omega) (by omega) (by omega) (by rfl) J ?_);intro b1;rw[te,show((x.n:Int)+1).toNat=a.length+1 by omega];refine sa J J<|zE<|sR<|sa J J<|zE<|bH<|sR<|sm J J<|cD J J<|sm J J<|zE<|et<|?_;refine kG (X:=QN) (fun q=>[(22, .int .i64 q.k),(21, .int .i64 x.n),(20, .slice x.a x.n x.c),(6, .int .u64 q.c),(0, .slice x.a x.n x.c),(1, .slice y.a y.n y.c),(5, .slice (some ⟨b1,0,none⟩) (a.length+1) (a.length+1))])
  (fun q=>[⟨b1,q.ws.map dI,366,true⟩])
  (fun q _=>q.k<=a.length/\q.ws.length=a.length+1/\bw q.ws/\q.c<=1/\dv (q.ws.take q.k)+4294967296^q.k*q.c=dv (a.take q.k)+dv (b.take q.k)) (fun q=>a.length-q.k) ⟨List.replicate (a.length+1) 0,0,0⟩
  ⟨bQ _,by simp, .replicate _,bQ _,by simp[dv]⟩ (.cons J (.cons J (.cons J (.cons J (.cons J (.cons J (.cons J .nil))))))) J ?_
 rintro ⟨ws,k,c⟩ Gy _ ⟨hka,hwl,hwo,hc1,hinv⟩;simp only[] at hka hwl hwo hc1 hinv⊢;refine sR<|sy (kc J J) J<|zE<|bH<|?_;refine kD J (fun hc=>?_) (fun hc=>?_) -- slot 23
 ·have hkn:k=a.length:=by omega
  refine i4<|eh<|eh<|i6<|sR<|sm J J<|sm J J<|cD J J<|sm J J<|sy (jC J) J<|?_;refine sy (f9 J J (by omega) (by omega)) J<|?_;refine sc (kO (d:=c) J J (by omega) (.hd ..) (by omega) J ?_);rw[show(x.n:Int).toNat=a.length by omega];refine zE<|sR<|sm J J<|?_;refine oD b1 (.hd ..) (fun G1 _ hgb=>?_);have hwo2:bw (ws.set a.length c):=hwo.set _ (by omega);have hD:cd G1 ⟨some ⟨b1,0,none⟩,a.length+1,a.length+1⟩ (ws.set a.length c):= .of_block hwo2 hgb.h (by simp[hwl]) (aL _) (by rw[aU (by simp)]);have hdv:dv (ws.set a.length c)=dv a+dv b:=by
   have h1:=pE (ws:=ws) (k:=a.length) (d:=c) (by omega);rw[aU (by simp;omega)] at h1;rw[h1,<-hkn,hinv,hkn,aU (aL _),aU hle]
  refine sc (zC J J (iO hD (by simp;omega)) J ?_);rintro _ G2 _ rfl;refine sa J J<|zE<|dO<|?_;refine zD (.tmp J .nil) ⟨⟨some ⟨b1,0,none⟩,(trimD (ws.set a.length c)).length,a.length+1⟩,J,?_⟩;have h3:=hD.trim.up (G:=G2);rw[<-hdv] at hk⊢;exact⟨by rw[nA hwo2];exact h3,hk⟩
 have hka':k<a.length:=by omega
 have hga:=hx.ok.get k;have hgb:=hy.ok.get k;refine zK<|bH<|et<|sR<|sm J J<|sy (gw hx J J (by omega) (by omega)) J<|sy (gI hx J (by omega)) J<|sa J J<|sa J J<|zE<|bH<|?_;refine dB<|sm J J<|sm J J<|sy (ge J (by omega) (by rw[bW];omega)) J<|sy (qx J J (by omega) (by rw[bW];omega)) J<|sa J J<|zE<|?_;rw[bW];refine Ac Unit (fun _=>[(22, .int .i64 k),(7, .int .i64 k),(21, .int .i64 x.n),(20, .slice x.a x.n x.c),(6, .int .u64 ((c+a.getD k 0+b.getD k 0:Nat):Int)),(0, .slice x.a x.n x.c),(1, .slice y.a y.n y.c),(5, .slice (some ⟨b1,0,none⟩) (a.length+1) (a.length+1))]) (fun _=>[⟨b1,ws.map dI,366,true⟩]) (fun _ _=>True) ?_ ?_
 ·refine sR<|sm J J<|sm J J<|cD J J<|sy (kc J J) J<|zE<|?_
  refine gH J (fun hc2=>?_) (fun hc2=>?_) -- slot 34
  ·refine dB<|sm J J<|sm J J<|sm J J<|sy (gw hy J J (by omega) (by omega)) J<|sy (gI hy J (by omega)) J<|sy (ge J (by omega) (by rw[bW];omega)) J<|?_
   rw[bW];refine sy (qx J J) J<|sa J J<|zE<|?_;exact oI () trivial (.cons J (.cons J (.cons J (.cons J (.cons (by rw[rL,rL];rfl) (.cons J (.cons J (.cons J .nil)))))))) J
  refine zK<|?_;have h0:b.getD k 0=0:=Cy (by omega);exact oI () trivial (.cons J (.cons J (.cons J (.cons J (.cons (by rw[h0,fJ,rL];rfl) (.cons J (.cons J (.cons J .nil)))))))) J
 rintro _ Gz _ _;generalize hcc:c+a.getD k 0+b.getD k 0=cc;have hcb:cc/4294967296<=1:=by rw[<-hcc];exact Qr hga hgb hc1
 refine sR<|sm J J<|sm J J<|sm J J<|sy (jC J) J<|sy (f9 J J (by omega) (by omega)) J<|?_;rw[bW];refine sc (kO (d:=cc%4294967296) J J (by omega) (.hd ..) (by omega) J ?_);refine zE<|dB<|sm J J<|sy (lD J J (by decide)) J<|sa J J<|zE<|dB<|sy (dH J J) J<|sm J J<|zE<|?_;have hsh:((cc:Int).fdiv (2^min (32:Int).toNat IntKind.u64.bits))=((cc/4294967296:Nat):Int):=by
  have:(2^min (32:Int).toNat IntKind.u64.bits:Int)=4294967296:=by decide
  rw[this,gT _ (by omega)];rfl
 rw[hsh];refine jg ⟨ws.set k (cc%4294967296),k+1,cc/4294967296⟩ ⟨by show k+1<=_;omega,by simp[hwl],hwo.set _ (by omega),hcb,?_⟩ (by show a.length-(k+1)<a.length-k;omega) (.cons J (.cons J (.cons J (.cons J (.cons J (.cons J (.cons J .nil))))))) J;show dv ((ws.set k (cc%4294967296)).take (k+1))+4294967296^(k+1)*(cc/4294967296)=dv (a.take (k+1))+dv (b.take (k+1));rw[pE (by omega),iG a,iG b,<-hcc,fK];exact Le hinv
structure Qy where
 ws:List Nat
 k:Nat
 c:Nat
def Jd(p:Int)(h0:0<=p):p.fdiv (2^min (63:Int).toNat IntKind.u64.bits)=p/9223372036854775808:=by
 have:(2^min (63:Int).toNat IntKind.u64.bits:Int)=9223372036854775808:=by decide
 rw[this,gT _ (by omega)]
def I6(p:Nat):((p:Int).fdiv (2^min (32:Int).toNat IntKind.u64.bits))=((p/4294967296:Nat):Int):=by
 have:(2^min (32:Int).toNat IntKind.u64.bits:Int)=4294967296:=by decide
 rw[this,gT _ (by omega)];rfl
def R5{A B G:Gh}{x y:SV}{a b:List Nat}{kk:Nat}(hx:cd A x a)(hy:cd B y b)[GL A G][GL B G](hle:b.length<=a.length)(hge:dv b<=dv a)(hk:dv a<2^kk)(hba:a.length<=1125899906842):
  Fn prog 387 [x.v,y.v] G (fun v G'=> ∃z:SV,v=z.v/\fj kk G' z (dv a-dv b)):=by
 have hlen:=hx.len;have hlen2:=hy.len;refine Fn.intro func387 J J ntmps387 J ?_;intro C _ _;refine sR<|sa J J<|zE<|sR<|sm J J<|cD J J<|?_;refine sc (tw J J (by omega) (by omega) (by omega) (by rfl) J ?_);intro b1;rw[te,show(x.n:Int).toNat=a.length by omega];refine sa J J<|zE<|sR<|sa J J<|zE<|bH<|sR<|sm J J<|cD J J<|sm J J<|zE<|et<|?_;refine kG (X:=Qy) (fun q=>[(16, .int .i64 q.k),(15, .int .i64 x.n),(14, .slice x.a x.n x.c),(6, .int .u64 q.c),(1, .slice y.a y.n y.c),(5, .slice (some ⟨b1,0,none⟩) a.length a.length)])
  (fun q=>[⟨b1,q.ws.map dI,366,true⟩])
  (fun q _=>q.k<=a.length/\q.ws.length=a.length/\bw q.ws/\q.c<=1/\dv (q.ws.take q.k)+dv (b.take q.k)=dv (a.take q.k)+4294967296^q.k*q.c) (fun q=>a.length-q.k) ⟨List.replicate a.length 0,0,0⟩
  ⟨bQ _,by simp, .replicate _,bQ _,by simp[dv]⟩ (.cons J (.cons J (.cons J (.cons J (.cons J (.cons J .nil)))))) J ?_
 rintro ⟨ws,k,c⟩ Gy _ ⟨hka,hwl,hwo,hc1,hinv⟩;simp only[] at hka hwl hwo hc1 hinv⊢;refine sR<|sy (kc J J) J<|zE<|bH<|?_;refine kD J (fun hc=>?_) (fun hc=>?_) -- slot 17
 ·have hkn:k=a.length:=by omega
  refine i4<|eh<|eh<|i6<|sR<|sm J J<|?_;refine oD b1 (.hd ..) (fun G1 _ hgb=>?_);have hD:cd G1 ⟨some ⟨b1,0,none⟩,a.length,a.length⟩ ws:= .of_block hwo hgb.h hwl.symm (aL _) (by rw[aU (by simp)]);have hdv:dv ws=dv a-dv b:=by
   rw[hkn,aU (by omega),aU hle,aU (aL _)] at hinv;have h2:=jw hwo;rw[hwl] at h2;rcases fL c with h0|h0
   ·subst h0;omega
   ·have:c=1:=by omega
    subst this;omega
  refine sc (zC J J (iO hD (by omega)) J ?_);rintro _ G2 _ rfl;refine sa J J<|zE<|dO<|?_;refine zD (.tmp J .nil) ⟨⟨some ⟨b1,0,none⟩,(trimD ws).length,a.length⟩,J,?_⟩;have h3:=hD.trim.up (G:=G2);rw[<-hdv];exact⟨by rw[nA hwo];exact h3,by omega⟩
 have hka':k<a.length:=by omega
 have hga:=hx.ok.get k;have hgb:=hy.ok.get k;refine zK<|bH<|et<|sR<|sm J J<|sy (gw hx J J (by omega) (by omega)) J<|sy (gI hx J (by omega)) J<|sa J J<|sa J J<|zE<|bH<|?_;rw[bW];refine dB<|sm J J<|sa J J<|zE<|?_;refine Ac Unit (fun _=>[(16, .int .i64 k),(7, .int .i64 k),(15, .int .i64 x.n),(14, .slice x.a x.n x.c),(8, .int .u32 ((a.getD k 0:Nat):Int)),(9, .int .u64 ((c+b.getD k 0:Nat):Int)),(1, .slice y.a y.n y.c),(5, .slice (some ⟨b1,0,none⟩) a.length a.length)]) (fun _=>[⟨b1,ws.map dI,366,true⟩]) (fun _ _=>True) ?_ ?_
 ·refine sR<|sm J J<|sm J J<|cD J J<|sy (kc J J) J<|zE<|?_
  refine gH J (fun hc2=>?_) (fun hc2=>?_) -- slot 25
  ·refine dB<|sm J J<|sm J J<|sm J J<|sy (gw hy J J (by omega) (by omega)) J<|sy (gI hy J (by omega)) J<|sy (ge J (by omega) (by rw[bW];omega)) J<|?_
   rw[bW];refine sy (qx J J) J<|sa J J<|zE<|?_;exact oI () trivial (.cons J (.cons J (.cons J (.cons J (.cons J (.cons (by rw[rL];rfl) (.cons J (.cons J .nil)))))))) J
  refine zK<|?_;have h0:b.getD k 0=0:=Cy (by omega);exact oI () trivial (.cons J (.cons J (.cons J (.cons J (.cons J (.cons (by rw[h0,fJ];rfl) (.cons J (.cons J .nil)))))))) J
 rintro _ Gz _ _;generalize htt:c+b.getD k 0=tt;have htb:tt<=4294967296:=by omega
 refine sR<|sm J J<|sy (ge J) J<|sm J J<|sy (ul J J) J<|sa J J<|zE<|sR<|sm J J<|sm J J<|sm J J<|?_;rw[l7];refine sy (jC J) J<|sy (f9 J J (by omega) (by omega)) J<|?_;rw[bW];by_cases hno:tt<=a.getD k 0
 ·refine sc (kO (d:=a.getD k 0-tt) J J (by omega) (.hd ..) (by omega) J ?_)
  refine zE<|dB<|sm J J<|sy (lD J J (by decide)) J<|sa J J<|zE<|dB<|sy (dH J J) J<|sm J J<|zE<|?_;rw[Jd _ (by omega),show(((a.getD k 0:Nat):Int)-(tt:Int))%18446744073709551616/9223372036854775808=((0:Nat):Int) by omega];refine jg ⟨ws.set k (a.getD k 0-tt),k+1,0⟩ ⟨by show k+1<=_;omega,by simp[hwl],hwo.set _ (by omega),bQ _,?_⟩ (by show a.length-(k+1)<a.length-k;omega) (.cons J (.cons J (.cons J (.cons J (.cons J (.cons J .nil)))))) J;show dv ((ws.set k (a.getD k 0-tt)).take (k+1))+dv (b.take (k+1))=dv (a.take (k+1))+4294967296^(k+1)*0;rw[pE (by omega),iG a,iG b,<-htt,fK];exact J0 hinv (by omega)
 ·refine sc (kO (d:=a.getD k 0+4294967296-tt) J J (by omega) (.hd ..) (by omega) J ?_)
  refine zE<|dB<|sm J J<|sy (lD J J (by decide)) J<|sa J J<|zE<|dB<|sy (dH J J) J<|sm J J<|zE<|?_;rw[Jd _ (by omega),show(((a.getD k 0:Nat):Int)-(tt:Int))%18446744073709551616/9223372036854775808=((1:Nat):Int) by omega];refine jg ⟨ws.set k (a.getD k 0+4294967296-tt),k+1,1⟩ ⟨by show k+1<=_;omega,by simp[hwl],hwo.set _ (by omega),aL _,?_⟩ (by show a.length-(k+1)<a.length-k;omega) (.cons J (.cons J (.cons J (.cons J (.cons J (.cons J .nil)))))) J;show dv ((ws.set k (a.getD k 0+4294967296-tt)).take (k+1))+dv (b.take (k+1))=dv (a.take (k+1))+4294967296^(k+1)*1;rw[pE (by omega),iG a,iG b,<-htt,fK];exact K8 hinv (by omega) (by omega)
def V4{A B G:Gh}{x y:SV}{ds es:List Nat}{kk:Nat}(hx:cd A x ds)(hy:cd B y es)[GL A G][GL B G](hk:dv ds<2^kk)(hb:ds.length<=1125899906842)(hb2:es.length<=1125899906842):
  Fn prog 363 [x.v,y.v] G (fun v G'=> ∃z:SV,v= .tuple #[z.v, .bool (decide (dv es<=dv ds))]/\fj kk G' z (dv ds-dv es)):=by
 refine Fn.intro func363 J J ntmps363 J ?_;intro C _ _;refine sR<|sa J J<|sa J J<|zE<|bH<|sR<|sm J J<|sm J J<|?_;refine sc (zC J J (LJ hx hy (by omega) (by omega)) J ?_);rintro _ G1 _ rfl;refine sy (kc J J) J<|zE<|?_;refine gH J (fun hc=>?_) (fun hc=>?_) -- slot 9
 ·have hlt:dv ds<dv es:=by
   unfold f8 at hc;split at hc
   ·assumption
   ·split at hc<;>omega
  refine sR<|sa J J<|sa J J<|zE<|dO<|?_;refine zD (.tmp J (.tmp J .nil)) ⟨⟨none,0,0⟩,?_,?_⟩
  ·have: ¬dv es<=dv ds:=by omega
   simp[gn,SV.v,this]
  ·rw[Nat.sub_eq_zero_of_le (by omega)]
   exact⟨by unfold dg;exact .nil _,dL (by omega)⟩
 have hge:dv es<=dv ds:=by
  unfold f8 at hc;split at hc
  ·omega
  ·omega
 have htl:=my ds;have htl2:=my es;refine zK<|sR<|sm J J<|?_;refine sc (zC J J (iO hx (by omega)) J ?_);rintro _ G2 _ rfl;refine sm J J<|?_;refine sc (zC J J (iO hy (by omega)) J ?_);rintro _ G3 _ rfl;have hl:(trimD es).length<=(trimD ds).length:=by
  rcases iS (trimD ds).length (trimD es).length with h|h
  ·have:=r4 hx.ok.trimD (dC.trimD es) h
   rw[jp,jp] at this;omega
  ·exact h
 refine sc (zC J J (R5 (kk:=kk) hx.trim hy.trim hl (by rw[jp,jp];exact hge) (by rw[jp];exact hk) (by omega)) J ?_);rintro _ G4 _ ⟨z,rfl,hz⟩;refine sa J J<|sa J J<|zE<|dO<|?_;refine zD (.tmp J (.tmp J .nil)) ⟨z,by simp[gn,hge],?_⟩;rw[jp,jp] at hz;exact hz
end Go.Sx
end
