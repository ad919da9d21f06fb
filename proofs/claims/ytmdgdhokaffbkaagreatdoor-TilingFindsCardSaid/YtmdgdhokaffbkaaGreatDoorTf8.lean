import Derived.Test.YtmdgdhokaffbkaaGreatDoorTf7
import Derived.Shelf.Small.Bits
import Derived.Shelf.Strconv.Itoa0
import Derived.Shelf.Strconv.Itoa1
import Derived.Shelf.LaysM
import Derived.Shelf.Strconv.Itoa2
import Derived.Shelf.Strconv.Itoa3
import Derived.Shelf.Bits.Mul64
import Derived.Test.YtmdgdhokaffbkaaGreatDoorProg
set_option linter.all false
set_option maxHeartbeats 1000000
set_option maxRecDepth 100000
section
namespace Go.Sx
open Go Go.Proofs Tryz
variable {GB G G1 A:Gh}{C:aD}{n m t d nm0 nm k s e len:Nat}{Q0:Exit->Act->World->Prop}{fr fr':aA}{own' O own1:aF}{cf cf':Cf}{vc:List Prop}{ops:Array Oper}{r:List Oper}{K:List Kt}{lk:LK}{bk:BM}{P:Program}{σ:Type}{p:Prop}{assign body c:Code}{gf f:FuncId}{caps out:List Value}{ds:List DV}{o:Oper}{fb:Func}{dp:DV}{pv v z:Value}{ty0 ty ty':TypeId}{lo:Bool}{dst:Option Nat}{pos:String}{af:Array Edge}{q:Int}
section
variable {own:aF}
def bz.later{ρ:NE}{ov:List av}{a:Act}{w w1:World}(r:bz GB C n lk bk ρ G ov a w)(h:bu (l7 w G) [] G1 w1):bz GB C n lk bk ρ G1 ov a w1:=
 ⟨r.gb.trans h.gle,r.h.called h,r.sz,r.df,fun k f e=>by obtain⟨y,h1,h2⟩:=r.fx k f e;exact⟨y,h1,h2.up h.gle⟩,fun nm B e=>by obtain⟨os,h1,h2⟩:=r.bx nm B e;exact⟨os,h1.up h.gle,h2⟩,r.dj,r.fxd⟩
def wJ:List Nat->List DV->aA->aA
 |p::ps,d::ds,fr=>wJ ps ds ((p, .d d)::fr)
 |_,_,fr=>fr
def NL{ρ:NE}{G:Gh}: ∀{ps:List Nat} {ds:List DV} {ys tm:List Value} {fr:aA},IsLs G ds ys->(∀p∈ps,p<tm.length)->(∀k f,aI fr k=some f-> ∃y,tm[k]? =some y/\bB ρ G f y)->
  ((ps.zip ys).foldl (fun t e=>t.set e.1 e.2) tm).length=tm.length/\ ∀k f,aI (wJ ps ds fr) k=some f-> ∃y,((ps.zip ys).foldl (fun t e=>t.set e.1 e.2) tm)[k]? =some y/\bB ρ G f y
 |[],ds,ys,tm,fr,_,_,h=>⟨J,fun k f e=>h k f (by cases ds<;>exact e)⟩
 |p::ps,[],ys,tm,fr,hd,_,h=>by rw[eD.1 hd];exact⟨J,fun k f e=>h k f e⟩
 |p::ps,d::ds,ys,tm,fr,hd,hp,h=>by
  obtain⟨y,m,rfl,h1,h2⟩:=bE.1 hd;simp only[List.zip_cons_cons,iM,wJ];have:=NL (ps:=ps) (ds:=ds) (ys:=m) (tm:=tm.set p y) (fr:=(p, .d d)::fr) h2 (fun q hq=>by rw[aM];exact hp q (aK _ hq)) fun k f e=>by
   rw[i9] at e;split at e
   .rename_i hk;subst hk;cases e
    exact⟨y,by rw[pQ];rw[if_pos J,if_pos (hp k aZ)],h1⟩
   .rename_i hk
    obtain⟨u,h3,h4⟩:=h k f e;exact⟨u,by rw[pQ];rw[if_neg (fun e=>hk e.symm)];exact h3,h4⟩
  rw[aM] at this;exact this
def OS: ∀(l:List (Nat×Value)) (t:Array Value),(l.foldl (fun t e=>t.setIfInBounds e.1 e.2) t).toList=l.foldl (fun t e=>t.set e.1 e.2) t.toList
 |[],t=>rfl
 |e::l,t=>by simp only[iM];rw[OS l];simp
def GD:FX->Bool
 | .ov nm _=>Nat.ble 2000000 nm
 | .rw _=>false
 | .be .. =>false
 | .rs .. =>false
 | .bx .. =>false
 |_=>true
def zy:aA->Bool
 |[]=>true
 |(_,f)::t=>GD f&&zy t
def Ok: ∀{fr:aA},zy fr=true-> ∀k f,aI fr k=some f->GD f=true
 |[],_,k,f,e=>by cases e
 |(j,g)::t,h,k,f,e=>by
  simp only[zy,bV] at h;rw[i9] at e;split at e
  .cases e;exact h.1
  .exact Ok h.2 k f e
def Oq(GB:Gh)(C:aD)(n:Nat)(fr:aA)(own:aF)(a:Act)(w:World):Prop:= ∃ρ G ov,bz GB C n (aI fr) (aO own) ρ G ov a w
def atR:ao P GB C n Q0 fr own (.ex .normal (.ag (Oq GB C n fr own)::K)):=⟨fun ρ G ov a w r=>⟨ρ,G,ov,r⟩⟩
def RQ(GB:Gh)(C:aD)(n:Nat)(p:Prop)(O:aF)(S:σ->aF)(q:σ->Prop):Exit->Act->World->Prop
 | .normal,a,w=>p/\ ∃ρ G ov,bz GB C n (fun _=>none) (aO O) ρ G ov a w
 | .ret,a,w=> ∃s,q s/\ ∃ρ G ov,bz GB C n (fun _=>none) (aO (S s)) ρ G ov a w
 |_,_,_=>False
def rq{S:σ->aF}{q:σ->Prop}(hp:p)(hO:tz O own:=by repeat (first|exact trivial|refine And.intro J ?_)):ao P GB C n (RQ GB C n p O S q) fr own (.ex .normal []):=
 ⟨fun ρ G ov a w r=>⟨hp,ρ,G,ov,r.mono (fun k x e=>by cases e) (tg hO)⟩⟩
def J9{S:σ->aF}{q:σ->Prop}(s:σ)(hq:q s)(hO:tz (S s) own:=by repeat (first|exact trivial|refine And.intro J ?_)):ao P GB C n (RQ GB C n p O S q) fr own (.ex .ret []):=
 ⟨fun ρ G ov a w r=>⟨s,hq,ρ,G,ov,r.mono (fun k x e=>by cases e) (tg hO)⟩⟩
def BY{g:Operand}{ps:Array Nat}{E:List (List DV)}(I:Nat->aF)(p:Nat->Prop)(S:σ->aF)(q:σ->Prop)(fr1:aA)
  (h0:OG C)(hg:ba (aI fr) g=some (.d (.v (.func (.func gf) ⟨[]⟩ ⟨caps⟩))))(hIt:It GB P gf ds E)(hc:IsLs GB ds caps)
  (hfr:sg fr1 fr)(hfix:zy fr1=true)(hO:tz (I 0) own)(hp:p 0)(hps: ∀e∈E,e.length=ps.size)(hpn:ps.toList.all (fun k=>Nat.blt k n)=true)(hn2:Nat.ble n 2000000=true)
  (round: ∀k e GB',E[k]? =some e->bA GB GB'->p k-> ∃fr2 own2,(∀C2,ao P GB' C2 n (fun _ _ _=>False) (wJ ps.toList e fr1) (I k) (.code assign [.ag (Oq GB' C2 n fr2 own2)]))/\ ∀C2,ao P GB' C2 n (RQ GB' C2 n (p (k+1)) (I (k+1)) S q) fr2 own2 (.code body []))
  (after: ∀D,C.w0.heap.size<=D->(∀x∈C.ex,x.1≠D)->p E.length->ao P GB (C.mk3 D) n Q0 fr1 (I E.length) (.ex .normal K))
  (early: ∀D s,C.w0.heap.size<=D->(∀x∈C.ex,x.1≠D)->q s->ao P GB (C.mk3 D) n Q0 fr1 (S s) (.ex .ret K)):
  ao P GB C n Q0 fr own (.code (.rangeFunc g ps assign body) K):=by
 refine⟨fun ρ0 G0 ov0 a w r=>?_⟩;rw[h0.rd];refine wpIn_rangeFunc fun fn _=>?_;obtain⟨y,hy,hy'⟩:=r.ev hg;rw[(bh (G:=G0)).1 hy'] at hy;have hev:=bg (b9 a) hy
 let D:=w.heap.size
 let l:=w.heap.size+1
 let rec_:Loop:={state:= .ready,pending:=none,fn,tmps:=a.tmps,params:=ps,assign,body,defers:=D}
 let w2:=(w.alloc (.deferred (some []))).alloc (.loop rec_)
 let mk:Deferred:={target:= .collected D,args:= #[]}
 let fx1:Nat->Option Addr:=fun nm=>(ρ0 nm).a
 let C1:Loop->aD:=fun rc=>{C with ex:=(l, .loop rc)::(D, .deferred (some []))::C.ex,mks:=[mk],fx:=fx1}
 let a0:Act:={a with defers:=[mk]++a.defers}
 have hszD:C.w0.heap.size<=D:=r.h.size;have hlt: ∀x∈C.ex,x.1<D:=fun x hx=>gq (r.h.ext x hx).2;have hszl:C.w0.heap.size<=l:=Nat.le_succ_of_le hszD;have hnl: ∀x∈((D,Obj.deferred (some []))::C.ex:List (Nat×Obj)),x.1≠l:=fun x hx=>by
  rcases aT.1 hx with rfl|hx
  .show D≠D+1;omega
  .have:=hlt x hx;show x.1≠D+1;omega
 have ncl: ∀rc:Loop,Fj (.loop rc):=fun rc _ _ _ h=>by cases h
 -- the slots of the loop, at any time
 have stat: ∀(ρ':NE) (G':Gh),bA G0 G'->(∀nm p,n<=nm->2000000<=nm->fx1 nm=some p->(ρ' nm).a=some p)-> ∀k f,aI fr1 k=some f-> ∃y,a.tmps[k]? =some y/\bB ρ' G' f y:=by
  intro ρ' G' hg' hf k f e;obtain⟨y,h1,h2⟩:=r.fx k f (uL hfr k f e);refine⟨y,h1,?_⟩;have hx:=Ok hfix k f e
  cases f with
  |ov nm off=>
   obtain⟨b,h3,h4⟩:=h2;have h5:2000000<=nm:=by simpa[GD] using hx
   have h6:n<=2000000:=by simpa using hn2
   exact⟨b,hf nm _ pb h5 h3,h4⟩
  |rw _=>cases hx
  |be _ _ _ _=>cases hx
  |rs _ _ _ _=>cases hx
  |bx _ _ _ _=>cases hx
  |ri _ _=>exact h2
  |_=>exact(h2.up hg').ren fun _ h=>by cases h
 let Jv:Nat->Gh->World->Prop:=fun k G' w'=>p k/\ ∃ρ ov,bz G0 (C1 rec_) n (aI fr1) (aO (I k)) ρ G' ov a0 w'
 let rcx:Loop:={rec_ with state:= .done,pending:=some .ret}
 let Jx:Gh->World->Prop:=fun G' w'=> ∃s,q s/\ ∃ρ ov,bz G0 (C1 rcx) n (aI fr1) (aO (S s)) ρ G' ov a0 w'
 have hsz0:a0.tmps.size=n:=r.sz;have hdf0:a0.defers=[mk]:=by show [mk]++a.defers=_;rw[r.df,h0.mks];rfl
 have H:wU G0 P l Jv Jx E:=by
  refine⟨fun k=>⟨fun G' w' ⟨_,ρ,ov,h⟩=>h.h.sub,fun G' w' G1 w1 ⟨h1,ρ,ov,h⟩ k=>⟨h1,ρ,ov,h.later k⟩⟩,⟨fun G' w' ⟨_,_,ρ,ov,h⟩=>h.h.sub,fun G' w' G1 w1 ⟨s,h1,ρ,ov,h⟩ k=>⟨s,h1,ρ,ov,h.later k⟩⟩,?_⟩;intro k e G' w' ys hE hgg ⟨hpk,ρ,ov,r1⟩ hys;have hrec:w'.heap[l]? =some (.loop rec_):=(r1.h.ext _ aZ).2;have hel:=hps e (aV hE);obtain⟨fr2,own2,hA,hB⟩:=round k e G' hE (r.gb.trans hgg) hpk;refine⟨_,_,_,_,run_yield hrec (by show ys.length=ps.size;rw[hys.len,hel]),roundIn_of_wpIn trivial ?_⟩
  let C2:aD:={C1 rec_ with mks:=[],rd:=some l}
  let tm:Array Value:=(ps.zip (⟨ys⟩:Array Value)).foldl (fun tmps (t,a)=>tmps.setIfInBounds t a) a.tmps
  have htm:tm.toList=(ps.toList.zip ys).foldl (fun t e=>t.set e.1 e.2) a.tmps.toList:=by
   simp only[tm];rw[<-Array.foldl_toList,Array.toList_zip];exact OS _ _
  have hfx0:=r1.fx;obtain⟨q1,q2⟩:=NL (ρ:=ρ) (ps:=ps.toList) (tm:=a.tmps.toList) (fr:=fr1) hys (fun k hk=>by have:=dZ.1 hpn k hk;rw[kQ,r.sz];simpa[jN] using this) fun k f e=>by
   obtain⟨y,h1,h2⟩:=hfx0 k f e;exact⟨y,by simpa using h1,h2⟩
  have hR0:bz G' C2 n (aI (wJ ps.toList e fr1)) (aO (I k)) ρ G' ov {tmps:=tm,defers:=[]} w':=by
   refine⟨bA.refl _,r1.h.ctx J J J (fun _ h=>h),?_,J,fun k f e=>?_,r1.bx,r1.dj,r1.fxd⟩
   .show tm.size=n
    rw[<-kQ,htm,q1,kQ,r.sz]
   .obtain⟨y,h1,h2⟩:=q2 k f e
    exact⟨y,by rw[<-htm] at h1;simpa using h1,h2⟩
  refine wpIn_mono ((hA C2).run ρ G' ov _ w' hR0) fun ex a1 w1 hex=>?_
  cases ex with
  |normal=>
   obtain⟨ρ2,G2,ov2,r2⟩:=hex;have hrec1:w1.heap[l]? =some (.loop rec_):=(r2.h.ext _ aZ).2;refine⟨_,run_beginRound hrec1 J,?_⟩
   let busy:Loop:={rec_ with state:= .busy}
   let C3:aD:={C1 busy with mks:=[],rd:=some l}
   have h3:bu C3 ov2 G2 (w1.putObj l (.loop busy)):=r2.h.putx aZ hszl (ncl _) J J J fun x hx=>by
    rcases aT.1 hx with rfl|hx
    .exact .inl J
    .exact .inr ⟨aK _ hx,hnl x hx⟩
   refine wpIn_mono ((hB C3).run ρ2 G2 ov2 a1 (w1.putObj l (.loop busy)) ⟨r2.gb,h3,r2.sz,r2.df,r2.fx,r2.bx,r2.dj,r2.fxd⟩) fun ex a2 w3 hex=>?_
   cases ex with
   |normal=>
    obtain⟨hp1,ρ3,G3,ov3,r3⟩:=hex;have hrec3:w3.heap[l]? =some (.loop busy):=(r3.h.ext _ aZ).2;refine⟨_,_,run_endRound none hrec3,G3,r3.gb, .inl ⟨J,hp1,ρ3,ov3,hgg.trans r3.gb,?_,hsz0,hdf0,stat ρ3 G3 (hgg.trans r3.gb) r3.fxd,r3.bx,r3.dj,r3.fxd⟩⟩;exact r3.h.putx aZ hszl (ncl _) J J J fun x hx=>by
     rcases aT.1 hx with rfl|hx
     .exact .inl J
     .exact .inr ⟨aK _ hx,hnl x hx⟩
   |ret=>
    obtain⟨s,hq,ρ3,G3,ov3,r3⟩:=hex;have hrec3:w3.heap[l]? =some (.loop busy):=(r3.h.ext _ aZ).2;refine⟨_,_,run_endRound (some .ret) hrec3,G3,r3.gb, .inr ⟨J,s,hq,ρ3,ov3,hgg.trans r3.gb,?_,hsz0,hdf0,stat ρ3 G3 (hgg.trans r3.gb) r3.fxd,r3.bx,r3.dj,r3.fxd⟩⟩;exact r3.h.putx aZ hszl (ncl _) J J J fun x hx=>by
     rcases aT.1 hx with rfl|hx
     .exact .inl J
     .exact .inr ⟨aK _ hx,hnl x hx⟩
   |exit id=>exact hex.elim
   |goto t=>exact hex.elim
   |panic ch=>exact hex.elim
   |outgrown=>exact hex.elim
  |exit id=>exact hex.elim
  |goto t=>exact hex.elim
  |ret=>exact hex.elim
  |panic ch=>exact hex.elim
  |outgrown=>exact hex.elim
 have hC1:bu (C1 rec_) ov0 G0 w2:=by
  have h1:bu {C with ex:=(D, .deferred (some []))::C.ex} ov0 G0 (w.alloc (.deferred (some []))):=r.h.addx (fun _ _ _ h=>by cases h) J J J fun x hx=>aT.1 hx;refine h1.addx (ncl rec_) J J J fun x hx=>?_;rcases aT.1 hx with rfl|hx
  .exact .inl (by show((l,Obj.loop rec_):Nat×Obj)=_;rw[show(w.alloc (.deferred (some []))).heap.size=w.heap.size+1 by simp])
  .exact .inr hx
 have hJ0:Jv 0 G0 w2:=⟨hp,ρ0,ov0,bA.refl _,hC1,hsz0,hdf0,stat ρ0 G0 (bA.refl _) (fun _ _ _ _ h=>h),fun nm B e=>r.bx nm B (tg hO nm B e),fun nm nm' B B' e e'=>r.dj nm nm' B B' (tg hO nm B e) (tg hO nm' B' e'),fun _ _ _ _ h=>h⟩;refine⟨l,[mk],w2,{target:= .fn (.func gf) ⟨caps⟩,args:= #[.func (.yield l) #[] #[]]},w2,gf, #[.func (.yield l) #[] #[]]++⟨caps⟩,w2,run_enterLoop_outer fn a.tmps ps assign body,?_,fun _ _=>trivial,?_,fun h=>okh,?_⟩
 .have he:(⟨[]⟩:Array Value)++Array.map a.eval #[.const (.func (.yield l) #[] #[])]= #[.func (.yield l) #[] #[]]:=by
   apply Array.ext';rw[Array.toList_append,pJ];rfl
  simp only[resolve,hev,Deferred.ofValue];rw[he];rfl
 .simp only[invoke]
  exact Na hIt.able _ _
 refine CallsIn.mono (show CallsIn (FW none) 0 P gf _ w2 _ from by
  have:=hIt.run l Jv Jx G0 r.gb H w2 caps hJ0 (hc.up r.gb);rw[show(#[Value.func (.yield l) #[] #[]]++(⟨caps⟩:Array Value))=⟨.func (.yield l) #[] #[]::caps⟩ by simp];exact this) fun e w3 he=>?_
 obtain⟨G',hgg,⟨v,rfl⟩,hj⟩:=he;have fin: ∀(rc:Loop) (O:aF) (ρ:NE) (ov:List av),bz G0 (C1 rc) n (aI fr1) (aO O) ρ G' ov a0 w3->bz GB (C.mk3 D) n (aI fr1) (aO O) ρ G' ov a0 (w3.putObj l (.loop {rc with state:= .exhausted})):=fun rc O ρ ov r3=>
  ⟨r.gb.trans r3.gb,r3.h.putx aZ hszl (ncl _) J J J fun x hx=> .inr ⟨aK _ hx,hnl x hx⟩,r3.sz,r3.df,r3.fx,r3.bx,r3.dj,fun nm p _ _ e=>by rw[show(C.mk3 D).fx=fun _=>none from h0.fx] at e;cases e⟩
 have hxD: ∀x∈C.ex,x.1≠D:=fun x hx e=>by have:=hlt x hx;omega
 rcases hj with⟨hpn,ρ,ov,r3⟩|⟨s,hq,ρ,ov,r3⟩
 .have hrec3:w3.heap[l]? =some (.loop rec_):=(r3.h.ext _ aZ).2
  have:=(after D hszD hxD hpn).run ρ G' ov a0 _ (fin rec_ _ ρ ov r3);rw[show(C.mk3 D).rd=none from h0.rd] at this;exact⟨_,_,run_endLoop hrec3 (by simp[rec_]),this⟩
 .have hrec3:w3.heap[l]? =some (.loop rcx):=(r3.h.ext _ aZ).2
  have:=(early D s hszD hxD hq).run ρ G' ov a0 _ (fin rcx _ ρ ov r3);rw[show(C.mk3 D).rd=none from h0.rd] at this;exact⟨_,_,run_endLoop hrec3 (by simp[rcx]),wpIn_ret this⟩
end
section
variable {own:aF}
def E3(GB:Gh)(P:Program)(f:FuncId)(ds:List DV)(gf:FuncId)(dp:DV):Prop:=
 ∀G vs,bA GB G->IsLs G ds vs->Fn P f vs G fun v G'=> ∃pv,v= .func (.func gf) ⟨[]⟩ ⟨[pv]⟩/\Is G' dp pv
def Cw(gf:FuncId)(dp:DV)(v:Value)(G':Gh):Prop:= ∃pv,v= .func (.func gf) ⟨[]⟩ ⟨[pv]⟩/\Is G' dp pv
def Rw[fu:Fu](hf:prog.funcs[f]? =some fb)(hb:fb.body=some c)(hn:(fb.name== "runtime.NumGoroutine")=false)(hm:fb.ntmps=m)(hlen:Nat.ble ds.length m=true)
  (hgo:go tt m fu.n [] (nH 0 ds) [] (.code c [])=⟨vc,fr,own,cf⟩)(k: ∀C:aD,ao prog GB C m (dx C prog fb (je C (Cw gf dp))) fr own cf)
  (hv:autoParam (aj vc) cL._auto_1):E3 GB prog f ds gf dp:=by
 intro G vs hg hvs;refine Fn.introR hf hb hn hm omS fun C _ _ hrd hfx=>?_;intro a w rl;refine o7 hrd ?_;have h:=eo (GB:=GB) (C:=C) (Q0:=dx C prog fb (je C (Cw gf dp))) hgo hv (k C);exact h.run (fun _=>⟨none,0,0⟩) G [] a w ⟨hg,rl.h,rl.sz,rl.df,(fun k f e=>tc hvs rl.fr k f e),(fun nm B e=>by cases e),(fun nm nm' B B' e=>by cases e),fun nm p _ _ e=>by rw[hfx] at e;cases e⟩
def RP(hr:fb.results.toList=[.tmp t])(hl:aI fr t=some (.d (.v (.func (.func gf) ⟨[]⟩ ⟨[pv]⟩))))(hp:Is GB dp pv):ao P GB C n (dx C P fb (je C (Cw gf dp))) fr own (.ex .ret []):=by
 refine⟨fun ρ G ov a w r=>?_⟩;obtain⟨y,hy,hy'⟩:=r.ev (x:= .tmp t) hl;rw[(bh (G:=G)).1 hy'] at hy;exact zD (C:=C) (n:=n) (fr:=b8 a) (own:=ov) (G:=G) (K:=Cw gf dp) omK ⟨pv,J,hp.up r.gb⟩ a w ⟨r.h,r.sz,b9 a,r.df⟩
def Nk(fr:aA)(cf:Cf):Option (FuncId×Value):=match cO fr cf with
 |some ⟨_, .makeFunc (.func f) ⟨[]⟩ ⟨[x]⟩,_,_,_,_⟩=>match ba (bH fr cf) x with
  |some (.d (.v pv))=>some (f,pv)
  |_=>none
 |_=>none
def S'[fu:Fu](h:Nk fr cf=some (f,pv))(hgo:cv tt n fu.n fr own cf (.d (.v (.func (.func f) ⟨[]⟩ ⟨[pv]⟩))) [] []=⟨vc,fr',own',cf'⟩)(k:ao prog GB C n Q0 fr' own' cf')
  (hv:autoParam (aj vc) cL._auto_1):ao prog GB C n Q0 fr own cf:=by
 unfold Nk at h;split at h<;>try (cases h;done)
 rename_i hh;split at h<;>cases h;rename_i hx;exact us hh (.x1 hx fun ρ G ov a w y _ r h1 h2=>by
  rw[(bh (G:=G)).1 h2] at h1;exact⟨_,(bh (G:=G)).2 J,Xm (l1:=[]) (l2:=[pv]) J (by simp[h1])⟩) hgo hv k
def Ag[fu:Fu]{fr':Value->aA}{own':Value->aF}{cf':Value->Cf}{vc:Value->List Prop}(ha:Dh fr (.ops ops (o::r) K)=some (f,ds))(hdst:o.dst=some d)(hd:bP n (some d)=true)(hF:E3 GB prog f ds gf dp)
  (hgo: ∀pv,go tt n fu.n [] ((d, .d (.v (.func (.func gf) ⟨[]⟩ ⟨[pv]⟩)))::fr) own (.ops ops r K)=⟨vc pv,fr' pv,own' pv,cf' pv⟩)
  (k: ∀GB' pv,bA GB GB'->Is GB' dp pv->ao prog GB' C n Q0 (fr' pv) (own' pv) (cf' pv))
  (hv: ∀pv,aj (vc pv):=by intros;first|exact trivial|(simp only[aj];kernel_rfl)|(simp only[aj];omega)):ao prog GB C n Q0 fr own (.ops ops (o::r) K):=by
 unfold Dh at ha;split at ha<;>try (cases ha;done)
 rename_i fo args tys ty pos af gd hh;obtain⟨ops0,h1,h2⟩:=FJ hh
 cases h1
 cases hdst
 obtain⟨c1,c2⟩:=vX ha;refine⟨fun ρ G ov a w rl=>?_⟩;obtain⟨y,hy,hy'⟩:=rl.ev c1;rw[(bh (G:=G)).1 hy'] at hy;obtain⟨vs,h3,h4⟩:=rl.evDs c2;simp only[wpListIn];rw[if_pos (AQ h2 ρ G ov a w rl)];refine CQ (K':=fun a' w'=>a'.defers=C.mks/\wpListIn (FW C.rd) 0 prog ops (cQ C.rd prog Q0 K) r a' w') (fun Q=>?_) (fun a' w' q=>⟨q.1.trans rl.df.symm,q.2⟩);refine zC hy h3 (hF G vs rl.gb h4) hd (fun v G' hG hK a' w' rel=>?_) a w Q ⟨rl.h,rl.sz,b9 a,rl.df⟩;obtain⟨pv,rfl,hpv⟩:=hK;refine⟨rel.df,?_⟩;have:=eo (GB:=G') (C:=C) (Q0:=Q0) (hgo pv) (hv pv) (k G' pv (rl.gb.trans hG.le) hpv);refine this.run ρ G' ov a' w' ⟨bA.refl _,rel.h,rel.sz,rel.df,fun j g e=>?_,fun nm B e=>by obtain⟨os,h5,h6⟩:=rl.bx nm B e;exact⟨os,h5.up hG.le,h6⟩,rl.dj,rl.fxd⟩;have e':dm (aI fr) (some d) (.d (.v (.func (.func gf) ⟨[]⟩ ⟨[pv]⟩))) j=some g:=by
  rw[i9] at e;simp only[dm];split at e
  .rename_i hk;rw[if_pos hk];exact e
  .rename_i hk;rw[if_neg hk];exact e
 exact(iA rel).fx (fun k g _ e=>by obtain⟨u,h5,h6⟩:=rl.fx k g e;exact⟨u,h5,h6.up hG.le⟩) (show bB ρ G' (.d (.v (.func (.func gf) ⟨[]⟩ ⟨[pv]⟩))) _ from(bh (G:=G')).2 rfl) j g e'
end
section
variable {own:aF}
def OO(fr:aA)(cf:Cf):Option Nat:=match cO fr cf with
 |some ⟨_, .load t (.global g),_,_,_,_⟩=>(match di tt t with
  |some i=>match i.ag with
   |some none=>some g
   |_=>none
  |none=>none)
 |_=>none
def gl[fu:Fu]{g:Nat}(h:OO fr cf=some g)(hg:GB g=some [v])(hgo:cv tt n fu.n fr own cf (.d (.v v)) [] []=⟨vc,fr',own',cf'⟩)(k:ao prog GB C n Q0 fr' own' cf')
  (hv:autoParam (aj vc) cL._auto_1):ao prog GB C n Q0 fr own cf:=by
 unfold OO at h;split at h<;>try (cases h;done)
 rename_i hh;split at h<;>try (cases h;done)
 rename_i i hT;split at h<;>cases h;rename_i ha;haveI:=ui (dw _ _ hT) ha;refine us (f:= .d (.v v)) hh (bD.yd fun ρ G ov a w r=>⟨v,(bh (G:=G)).2 J,?_⟩) hgo hv k;haveI:GI G g [v]:=⟨r.gb _ _ hg⟩;exact Pd (b:=g) (off:=0) J Qq J
def Wf{B1 B2:Option Bk}:aO (jf (jf own nm0 B1) nm B2)=upB (upB (aO own) [(nm0,B1)]) [(nm,B2)]:=by
 funext j;rw[ql];simp only[upB];rw[ql]
def WH(hnm:Nat.blt nm 2000000=true){cs:List FX}(hb:aO own nm0=some (.o ty0 cs lo))(hk:cs[k]? =some .nl)(hne:nm0≠nm){Φ:Act->World->Prop}{ty:Nat}(hf:ir [nm] none (aI fr) (aO own))
  (h:SX GB C n (aI fr) (aO (jf (jf own nm0 (some (.o ty0 (cs.set k (.rw nm)) lo))) nm (some (.b ty s [] true)))) Φ):SX GB C n (aI fr) (aO own) Φ:=by
 refine⟨fun ρ G ov a w r=>?_⟩;obtain⟨f1,f2⟩:=hf nm aZ;rw[Wf] at h;refine h.run (fun k=>if k=nm then⟨none,0,0⟩ else ρ k) G ov a w ⟨r.gb,r.h,r.sz,r.df,fun k f e=>?_,fun m B e=>?_,fun m m' B B' e e' hne=>?_,fun m p h1 h2 e=>by
  have:nm<2000000:=by simpa[jN] using hnm
  show(if m=nm then(⟨none,0,0⟩:SV) else ρ m).a=_;rw[if_neg pb];exact r.fxd m p h1 h2 e⟩
 .obtain⟨v,h1,h2⟩:=r.fx k f e
  exact⟨v,h1,h2.ren fun m hm=>pw _ fun hc=>f1 k f v8 e (by rw[hm,hc])⟩
 .simp only[upB] at e
  by_cases hm:m=nm
  .subst hm;simp only[if_true] at e;cases e
   exact⟨[],⟨[],by simp only[if_true];exact .inl ⟨J,J,J⟩, .nil,v8,fun _ o ho=>by cases ho⟩,fun o ho=>by cases ho⟩
  .simp only[hm,if_false] at e
   by_cases hm0:m=nm0
   .subst hm0;simp only[if_true] at e;cases e
    obtain⟨os,h1,h2⟩:=r.bx m _ hb;have h1':i6 (fun k=>if k=nm then⟨none,0,0⟩ else ρ k) G m (.o ty0 cs lo) os:=h1.ren (if_neg hm) fun q hq=>pw _ fun hc=>f2 m _ hm hb okA;obtain⟨b,ms,k1,k2,k3⟩:=h1';refine⟨os,⟨b,ms,k1,k2,?_⟩,h2⟩;obtain⟨y,e1,e2⟩:=k3.get hk;have:=k3.set (f:= .rw nm) (y:=y) k (by show y=_;simp only[if_true];exact e2);rwa [show ms.set k y=ms by apply lR;intro j;rw[pQ];split<;>(try rfl);rename_i hj;subst hj;split<;>simp_all] at this
   .simp only[hm0,if_false] at e
    obtain⟨os,h1,h2⟩:=r.bx m B e;exact⟨os,h1.ren (if_neg hm) fun q hq=>pw _ fun hc=>f2 m B hm e okA,h2⟩
 .intro b hbb hb'
  have key: ∀q B,upB (upB (aO own) [(nm0,some (.o ty0 (cs.set k (.rw nm)) lo))]) [(nm,some (.b ty s [] true))] q=some B->q≠nm-> ∃B0,aO own q=some B0:=fun q B eq hq=>by
   simp only[upB,hq,if_false] at eq;by_cases hq0:q=nm0
   .subst hq0;exact⟨_,hb⟩
   .simp only[hq0,if_false] at eq;exact⟨_,eq⟩
  by_cases hm:m=nm
  .simp[hm] at hbb
  .by_cases hm':m'=nm
   .simp[hm'] at hb'
   .obtain⟨B0,g0⟩:=key m B e hm
    obtain⟨B1,g1⟩:=key m' B' e' hm';simp only[hm,hm',if_false] at hbb hb';exact r.dj m m' B0 B1 g0 g1 hne b hbb hb'
def Ia(nm0 k nm ty s:Nat){cs:List FX}(hb:aO own nm0=some (.o ty0 cs lo))(hk:cs[k]? =some .nl)(hf:oP [nm] none fr own=true)(hne:Nat.beq nm0 nm=false)
  (ho:jf (jf own nm0 (some (.o ty0 (cs.set k (.rw nm)) lo))) nm (some (.b ty s [] true))=own1)(h:ao prog GB C n Q0 fr own1 (.code c K))(hnm:Nat.blt nm 2000000=true:=by rfl):ao prog GB C n Q0 fr own (.code c K):=by
 subst ho;exact WH hnm hb hk (fun e=>by subst e;rw[kS] at hne;cases hne) (t7 hf) h
def Nu{ρ:NE}{G:Gh}: ∀{a b:List FX} {m:List Value},cP ρ G (a++b) m-> ∃m1 m2,m=m1++m2/\cP ρ G a m1/\cP ρ G b m2
 |[],b,m,h=>⟨[],m,J,J,h⟩
 |f::t,b,m,⟨y,n,e,h1,h2⟩=>by
  obtain⟨m1,m2,rfl,k1,k2⟩:=Nu h2;exact⟨y::m1,m2,e,⟨y,m1,J,h1,k1⟩,k2⟩
def NU{ρ:NE}{G:Gh}: ∀{l:List DV} {m:List Value},cP ρ G (l.map .d) m->IsLs G l m
 |[],m,h=>eD.2 h
 |d::t,m,⟨y,n,e,h1,h2⟩=>by subst e;exact .cons h1 (NU h2)
end
section
variable {own:aF}
def Nx{p q:Nat->Option (Nat×Nat)}(h: ∀i x,p i=some x->q i=some x): ∀(ps:List (Nat×Value)) (cs out:Array Value),Instr.fill p cs ps=some out->Instr.fill q cs ps=some out
 |[],cs,out,e=>e
 |(i,v)::ps,cs,out,e=>by
  simp only[Instr.fill] at e⊢;split at e
  .cases e
  .rename_i off size hp
   rw[h i _ hp];dsimp only;split at e
   .cases e
   .rename_i hc
    rw[if_neg hc];exact Nx h ps _ _ e
def T8{fr:Fr}{own:List av}{j:TypeInfo}{parts:Array (Nat×Operand)}{gd:Option (Nat×Bool)}[hz:iv P t z](hu:P.underlying t=some (.array len e))(hj:P.info? e=some j)(hs:j.size=s)
  (hb:s5 fr ((List.range len).map fun i=>(i*s,s)) (aH z) parts.toList=some out):Yd P C fr own G ⟨dst, .build t parts,ty',pos,af,gd⟩ (.agg ⟨out⟩):=by
 intro a w hf hh;simp only[execOp];have:(Instr.build t (parts.map fun(i,x)=>(i,a.eval x))).run P w= .ok (.agg ⟨out⟩) w:=by
  unfold Instr.build;rw[aP (hz.zero w),pG];rw[aP (o5 hu w)];simp only[];rw[aP (tk hj w),hs];have:=Nx (q:=fun i=>some (i*s,s)) (fun i x hx=>by
   have hx':((List.range len).map fun i=>(i*s,s))[i]? =some x:=by simpa using hx
   rw[cY] at hx'
   cases hr:(List.range len)[i]? with
   |none=>rw[hr] at hx';cases hx'
   |some y=>
    rw[hr] at hx';cases hx';obtain⟨h1,h2⟩:=aS.1 hr;rw[List.getElem_range] at h2;rw[h2]) _ _ _ (DT hf ((List.range len).map fun i=>(i*s,s)) parts.toList _ _ hb)
  simp only[pJ,this];rfl
 exact cA this
def BZ:Nat->Nat->Nat->List (Nat×Nat×Nat)
 |_,0,_=>[]
 |i,k+1,s=>(i*s,0,s)::BZ (i+1) k s
def ON: ∀(i k s:Nat),(BZ i k s).map (fun x=>(x.1,x.2.2))=(List.range' i k).map fun j=>(j*s,s)
 |_,0,_=>rfl
 |i,k+1,s=>by simp only[BZ,cZ,List.range',ON (i+1) k s]
def J8(fr:aA)(cf:Cf)(len s:Nat):Option (TypeId×FX):=match cO fr cf with
 |some ⟨_, .build t parts,_,_,_,_⟩=>match di tt t with
  |some ⟨.o,_,some zx,_⟩=>match qf (bH fr cf) (BZ 0 len s) zx parts.toList with
   |some cs=>match vh cs with
    |some f=>some (t,f)
    |none=>none
   |none=>none
  |_=>none
 |_=>none
def Wm[fu:Fu]{f:FX}(h:J8 fr cf len s=some (t,f))(hu:prog.underlying t=some (.array len e))(hs:(prog.info? e).map (·.size)=some s)
  (hgo:cv tt n fu.n fr own cf f [] []=⟨vc,fr',own',cf'⟩)(k:ao prog GB C n Q0 fr' own' cf')
  (hv:autoParam (aj vc) cL._auto_1):ao prog GB C n Q0 fr own cf:=by
 unfold J8 at h;split at h<;>try (cases h;done)
 rename_i hh;split at h<;>try (cases h;done)
 rename_i hT;split at h<;>try (cases h;done)
 rename_i hb;split at h<;>cases h;rename_i hf;refine us hh (.yd fun ρ G ov a w r=>?_) hgo hv k
 cases hj:prog.info? e with
 |none=>rw[hj] at hs;cases hs
 |some j=>
 rw[hj] at hs;obtain⟨v,hv,hv'⟩:=y8 (dw _ _ hT) rfl;obtain⟨l,h1,h2⟩:=CY r _ _ _ _ hb (hv' ρ G);rw[ON,<-List.range_eq_range'] at h1;exact⟨.agg ⟨l⟩,F9 h2 hf,T8 hu hj (Option.some.inj hs) h1⟩
def Kx(nm:Nat)(ds':List DV)(hl:aO own nm=some (.o ty (ds.map .d) lo))(hi: ∀G m,IsLs G ds m->IsLs G ds' m)(ho:q8 own nm (some (.o ty (ds'.map .d) lo)) id=own1)(h:ao P GB C n Q0 fr own1 (.code c K)):ao P GB C n Q0 fr own (.code c K):=by
 rw[sO] at ho;subst ho;refine⟨fun ρ G ov a w r=>?_⟩;have old: ∀m B,aO (jf own nm (some (.o ty (ds'.map .d) lo))) m=some B-> ∃B0,aO own m=some B0:=fun m B e=>by
  rw[ql] at e;split at e
  .rename_i hm;subst hm;exact⟨_,hl⟩
  .exact⟨_,e⟩
 refine SX.run h ρ G ov a w ⟨r.gb,r.h,r.sz,r.df,r.fx,fun m B e=>?_,fun m m' B B' e e'=>?_,r.fxd⟩
 .rw[show id (jf own nm (some (.o ty (ds'.map .d) lo)))=jf own nm (some (.o ty (ds'.map .d) lo)) from J,ql] at e
  split at e
  .rename_i hm;subst hm;cases e
   obtain⟨os,⟨b,q,h1,rfl,h2⟩,h3⟩:=r.bx _ _ hl;exact⟨_,⟨b,q,h1,J,px (hi G q (NU h2))⟩,h3⟩
  .exact r.bx _ _ e
 .obtain⟨B0,h0⟩:=old _ _ e
  obtain⟨B1,h1⟩:=old _ _ e';exact r.dj m m' B0 B1 h0 h1
end
section
variable {own:aF}{gd:Option (Nat×Bool)}
def FI(t:TypeId):Prop:= ∀(x:Value) w,(Instr.makeInterface t x).run prog w= .ok (.iface t x) w
end
section
variable {own:aF}{gd:Option (Nat×Bool)}
end
section
variable {own:aF}
def NX(fr:aA)(cf:Cf):Option (Int×Int):=match cO fr cf with
 |some ⟨_, .binOp .xor _ x y _,_,_,_,_⟩=>match ba (bH fr cf) x,ba (bH fr cf) y with
  |some (.d (.v (.int .u32 p))),some (.d (.v (.int .u32 q)))=>some (p,q)
  |_,_=>none
 |_=>none
def xr[fu:Fu]{p:Int}(u:Int)(h:NX fr cf=some (p,q))(e:(((BitVec.ofInt 32 p^^^BitVec.ofInt 32 q).toNat:Nat):Int)=u)(hgo:cv tt n fu.n fr own cf (.d (.v (.int .u32 u))) [] []=⟨vc,fr',own',cf'⟩)(k:ao prog GB C n Q0 fr' own' cf')
  (hv:autoParam (aj vc) cL._auto_1):ao prog GB C n Q0 fr own cf:=by
 unfold NX at h;split at h<;>try (cases h;done)
 rename_i hh;split at h<;>cases h;rename_i h1 h2;subst e;exact us hh (.yd fun ρ G ov a w r=>by
  obtain⟨y1,h3,h4⟩:=r.ev h1;obtain⟨y2,h5,h6⟩:=r.ev h2;rw[cC] at h4 h6;subst h4 h6;exact⟨_,cC.2 J,jC h3 h5 fun w=>by
   show(pure (Value.int .u32 (IntKind.u32.wrap ((BitVec.ofInt 32 p^^^BitVec.ofInt 32 q).toNat:Int))):Sem Value).run prog w=_;rw[CU];rfl⟩) hgo hv k
def JS(fr:aA)(cf:Cf):Option (Int×Int):=match cO fr cf with
 |some ⟨_, .binOp .sub _ x y _,_,_,_,_⟩=>match ba (bH fr cf) x,ba (bH fr cf) y with
  |some (.d (.v (.int .u32 p))),some (.d (.v (.int .u32 q)))=>some (p,q)
  |_,_=>none
 |_=>none
def sw[fu:Fu]{p:Int}(u:Int)(h:JS fr cf=some (p,q))(e:(p-q)%4294967296=u)(hgo:cv tt n fu.n fr own cf (.d (.v (.int .u32 u))) [] []=⟨vc,fr',own',cf'⟩)(k:ao prog GB C n Q0 fr' own' cf')
  (hv:autoParam (aj vc) cL._auto_1):ao prog GB C n Q0 fr own cf:=by
 unfold JS at h;split at h<;>try (cases h;done)
 rename_i hh;split at h<;>cases h;rename_i h1 h2;subst e;exact us hh (.yd fun ρ G ov a w r=>by
  obtain⟨y1,h3,h4⟩:=r.ev h1;obtain⟨y2,h5,h6⟩:=r.ev h2;rw[cC] at h4 h6;subst h4 h6;exact⟨_,cC.2 J,by rw[<-rk];exact Vd h3 h5⟩) hgo hv k
def M9(fr:aA)(cf:Cf):Option Int:=match cO fr cf with
 |some ⟨_, .unOp .xor _ x,_,_,_,_⟩=>match ba (bH fr cf) x with
  |some (.d (.v (.int .u32 p)))=>some p
  |_=>none
 |_=>none
def nt[fu:Fu]{p:Int}(u:Int)(h:M9 fr cf=some p)(e:(((BitVec.ofInt 32 IntKind.u32.max^^^BitVec.ofInt 32 p).toNat:Nat):Int)=u)(hgo:cv tt n fu.n fr own cf (.d (.v (.int .u32 u))) [] []=⟨vc,fr',own',cf'⟩)(k:ao prog GB C n Q0 fr' own' cf')
  (hv:autoParam (aj vc) cL._auto_1):ao prog GB C n Q0 fr own cf:=by
 unfold M9 at h;split at h<;>try (cases h;done)
 rename_i hh;split at h<;>cases h;rename_i hx;subst e;refine us hh (.x1 hx fun ρ G ov a w y _ r h1 h2=>?_) hgo hv k;rw[cC] at h2;subst h2;refine⟨_,cC.2 J,fun a w hf hh=>?_⟩;simp only[execOp,bg hf h1];refine cA (w':=w) ?_;show(pure (Value.int .u32 (IntKind.u32.wrap ((BitVec.ofInt 32 IntKind.u32.max^^^BitVec.ofInt 32 p).toNat:Int))):Sem Value).run prog w=_;rw[CU];rfl
end

def Vn(ds:List Nat): ∀v∈ds.map dI,flat v=true:=fun v hv=>by
 obtain⟨d,_,rfl⟩:=aN.1 hv;rfl
def R5{x:SV}{ds:List Nat}(hx:pz A x ds)[GL A G](hb:ds.length<=1125899906842):Fn prog 250 [x.v] G (fun v G'=> ∃z:SV,v=z.v/\pz G' z ds):=by
 have hlen:=hx.len;refine Fn.intro func250 J J ntmps250 J ?_;intro C _ _;refine sR<|sa J J<|zE<|kg<|sR<|sm J J<|sy (Lr J J) J<|zE<|?_;refine ZZ J (fun hc=>?_) (fun hc=>?_)
 .refine sR<|sa J J<|zE<|s8<|?_
  refine zD (.tmp J .nil) ⟨⟨none,0,0⟩,J,?_⟩;rcases hx.sl.mem with h|⟨b,off,cs,ha,_⟩
  .have:ds=[]:=by simpa using h
   subst this;exact .nil _
  .rw[ha] at hc;cases hc
 refine zK<|sR<|?_;refine sc (N8 J ?_);intro b1;refine sm J J<|?_;refine sc (DF (xs:=[]) (rest:=[]) (ys:=ds.map dI) J J (.hd ..) J J (bZ _) (Rd hx) (by simp[hlen]) (Vn ds) v6 pb J J ?_);intro b cap rest h1 h2;refine sa J J<|zE<|as6 b (.hd ..) (fun G' _ hgb=>?_);refine s8<|?_;refine zD (.tmp J .nil) ⟨⟨some ⟨b,0,none⟩,x.n,cap⟩,by simp[my,SV.v],?_⟩;exact .of_block hx.ok hgb.h hlen pb v8
end Go.Sx
end
section
namespace Go.Proofs
open Go.Shelf
def Tryz.lays133_ren:Go.Shelf.Ren:=⟨fun|133=>251|128=>293|n=>n,fun|51=>225|3=>3|4=>4|46=>226|5=>5|9=>9|n=>n,fun|n=>n⟩
def Tryz.lays133:Go.Proofs.Lays.n133 Tryz.prog Tryz.lays133_ren:={
 mixed:=by kernel_rfl
 f128:=Tryz.func293.trans (congrArg some (by kernel_rfl))
 f133:=Tryz.func251.trans (congrArg some (by kernel_rfl))
 t3:=Tryz.underlying3
 a3:=Tryz.isAgg3
 z3:=Tryz.sizeOf3
 v3:=Tryz.zeroValue3
 t4:=Tryz.underlying4
 a4:=Tryz.isAgg4
 z4:=Tryz.sizeOf4
 v4:=Tryz.zeroValue4
 t5:=Tryz.underlying5
 a5:=Tryz.isAgg5
 z5:=Tryz.sizeOf5
 v5:=Tryz.zeroValue5
 t9:=Tryz.underlying9
 a9:=Tryz.isAgg9
 z9:=Tryz.sizeOf9
 v9:=Tryz.zeroValue9
 t46:=Tryz.underlying226
 a46:=Tryz.isAgg226
 z46:=Tryz.sizeOf226
 v46:=Tryz.zeroValue226
 t51:=Tryz.underlying225
 a51:=Tryz.isAgg225
 z51:=Tryz.sizeOf225
 v51:=Tryz.zeroValue225}
def Tryz.bits_LeadingZeros32(x:Int)(w:World)(h0:0<=x)(h1:x<=4294967295):
  Calls Tryz.prog 251 #[.int .u32 x] w fun e w'=>e= .returned (.int .i64 (32-(Lib.bitLen x.toNat:Int)))/\w'=w:=Any.bits_LeadingZeros32 Tryz.lays133 x w h0 h1
open Go.Lib in
open Go.Lib in
open Go.Lib in
open Go.Lib in
open Go.RowKit Go.Sort Go.Lib in
open Go.RowKit Go.Sort Go.Lib in
open Go.RowKit Go.Sort Go.Lib in
open Go.RowKit Go.Sort Go.Lib in
open Go.RowKit Go.Sort Go.Lib in
open Go.RowKit Go.Sort Go.Lib in
open Go.RowKit Go.Sort Go.Lib in
def Tryz.lays264_ren:Go.Shelf.Ren:=⟨fun|264=>178|n=>n,fun|53=>224|46=>226|n=>n,fun|n=>n⟩
def Tryz.lays264:Go.Proofs.Lays.n264 Tryz.prog Tryz.lays264_ren:={
 mixed:=by kernel_rfl
 f264:=Tryz.func178.trans (congrArg some (by kernel_rfl))
 t46:=Tryz.underlying226
 a46:=Tryz.isAgg226
 z46:=Tryz.sizeOf226
 v46:=Tryz.zeroValue226
 t53:=Tryz.underlying224
 a53:=Tryz.isAgg224
 z53:=Tryz.sizeOf224
 v53:=Tryz.zeroValue224}
open Go.RowKit Go.Lib in
def Tryz.bits_Mul64(x y:Nat)(hx:x<18446744073709551616)(hy:y<18446744073709551616)(w:World):
  Calls Tryz.prog 178 #[.int .u64 x, .int .u64 y] w fun e w'=>e= .returned (.tuple #[.int .u64 ((x*y/18446744073709551616:Nat):Int), .int .u64 ((x*y%18446744073709551616:Nat):Int)])/\w'=w:=Any.bits_Mul64 Tryz.lays264 x y hx hy w
end Go.Proofs
end
section
namespace Go.Sx
open Go Go.Proofs Tryz
variable {x k n:Nat}{P:Program}{G:Gh}{q:Int}
def bl(x:Nat):Nat:=if x=0 then 0 else Nat.log2 x+1
def Bl(x:Nat):x<2^bl x:=by
 unfold bl;split
 .rename_i h;subst h;decide
 .exact Nat.lt_log2_self
def mB{x k:Nat}:bl x<=k↔x<2^k:=by
 constructor
 .intro h;exact dJ (Bl x) (bU pb h)
 .intro h
  unfold bl;split
  .omega
  .rename_i h0
   have:=(Nat.log2_lt h0).2 h;omega
def S0(h:x≠0):bl x=1+bl (x/2):=by
 have h1: ∀k,bl x<=k+1↔bl (x/2)<=k:=fun k=>by
  rw[mB,mB,gJ];omega
 have h2:bl x≠0:=fun e=>by
  have:=Bl x;rw[e] at this;simp at this;exact h this
 have h3:=(h1 (bl (x/2))).2 (bZ _);have h4:=(h1 (bl x-1)).1 pb;omega
def NR: ∀(f x:Nat),x<2^f->Lib.bitLenAux f x=bl x
 |0,x,h=>by
  have:x=0:=by simpa using h
  subst this;rfl
 |f+1,x,h=>by
  unfold Lib.bitLenAux;split
  .rename_i h0;subst h0;rfl
  .rename_i h0
   rw[NR f (x/2) (by rw[gJ] at h;omega),S0 h0]
def ZV(h:x<2^64):Lib.bitLen x=bl x:=NR 64 x h
def Tx(d:Nat)(h:x<2^k)(hd:d≠0):bl (x+2^k*d)=k+bl d:=by
 have h1: ∀j,bl (x+2^k*d)<=k+j↔bl d<=j:=fun j=>by
  rw[mB,mB,fW];constructor
  .intro h'
   exact Nat.lt_of_mul_lt_mul_left (a:=2^k) pb
  .intro h'
   have:2^k*(d+1)<=2^k*2^j:=dY _ h';rw[eJ] at this;omega
 have h2:k<bl (x+2^k*d):=by
  rcases iY k (bl (x+2^k*d)) with h'|h'
  .exact h'
  .have:=mB.1 h'
   have h3:2^k*1<=2^k*d:=dY _ pb;omega
 have h3:=(h1 (bl d)).2 (bZ _);have h4:=(h1 (bl (x+2^k*d)-k)).1 pb;omega
def UT{ds:List Nat}(h:bt ds)(hn:fk ds)(hne:ds≠[]):bl (dv ds)=32*(ds.length-1)+bl (ds.getD (ds.length-1) 0):=by
 rcases rJ ds with rfl|⟨l,d,rfl⟩
 .exact absurd J hne
 .rw[rK] at*
  have hd:d≠0:=fun e=>by subst e;simp[fk] at hn
  have hl:bt l:=fun x hx=>h x (bS _ hx);have h1:=lu hl;rw[vQ];have h2:(4294967296:Nat)^l.length=2^(32*l.length):=by rw[tX]
  rw[h2] at h1⊢;have h3:dv [d]=d:=by simp[dv]
  rw[h3,Tx d h1 hd];have h4:(l++[d]).length-1=l.length:=by simp
  rw[h4,aJ,jU (bZ _)];simp
def Jg{f:FuncId}{fn:Func}{c:Code}(h:P.funcs[f]? =some fn)(hb:fn.body=some c)(hn:(fn.name== "runtime.NumGoroutine")=false):qm P f:=⟨fn,h,hn,by rw[hb];rfl⟩
def WG(hx:x<4294967296):Fn prog 251 [.int .u32 (x:Int)] G (fun v _=>v= .int .i64 (32-(bl x:Int))):=by
 have h:=Fn.of_calls (G:=G) (Jg func251 J J) (fun w=>Tryz.bits_LeadingZeros32 (x:Int) w pb pb);rw[dQ,ZV (sL hx v6)] at h;exact h
def iE(a b:Nat):Int:=if a<b then-1 else if a=b then 0 else 1


def oC(d k:Nat)(hk:k<64)(h:d*2^k<18446744073709551616)(hq:q.toNat=k:=by omega):IntKind.u64.wrap ((d:Int)*2^min q.toNat IntKind.u64.bits)=((d*2^k:Nat):Int):=by
 rw[hq,iN (by show k<=64;omega),pq];have e2:(d:Int)*2^k=((d*2^k:Nat):Int):=by push_cast;rfl
 rw[e2];omega
def Ij(d k:Nat)(hk:k<64:=by omega)(hq:q.toNat=k:=by omega):(d:Int).fdiv (2^min q.toNat IntKind.u64.bits)=((d/2^k:Nat):Int):=by
 rw[hq,iN (by show k<=64;omega),jT _ (pK (Int.pow_pos v6))];push_cast;rfl
section
variable {C:aD}{fr:Fr}{own:List av}{dst:Option Nat}{t t1 t2 ty':TypeId}{pos:String}{af:Array Edge}{gd:Option (Nat×Bool)}{x y:Operand}
end
end Go.Sx
end
section
namespace Go.Sx
def uB(i:Nat):(4294967296:Nat)^(i+1)=4294967296^i*4294967296:=gJ ..
def Vs{U p V T S first third:Nat}(hU:U<(first*4294967296+third+1)*p)(h3:third<4294967296)(hV:(T*4294967296+S)*p<=V)(hT:0<T):
  U<(first/T+1)*V:=by
 have h1:first+1<=(first/T+1)*T:=by
  have:=Nat.lt_mul_div_succ first hT
  rw[bM];omega
 calc U<(first*4294967296+third+1)*p:=hU
  _<=((first+1)*4294967296)*p:=bX _ pb
  _<=(((first/T+1)*T)*4294967296)*p:=bX _ (bX _ h1)
  _=(first/T+1)*((T*4294967296)*p):=by rw[cX (first/T+1),cX (first/T+1)]
  _<=(first/T+1)*V:=dY _ (cJ (bX _ (mJ _ _)) hV)
def aHl{U p V T S first third v0:Nat}(hU:(first*4294967296+third)*p<=U)(hV:V=(T*4294967296+S)*p+v0)(hv:v0<p)(hlt:U<V*4294967296):first<=T*4294967296+S:=by
 rcases iY (T*4294967296+S) first with h|h
 .exfalso
  have h1:(T*4294967296+S+1)*p<=first*p:=bX p h
  rw[cN _ 1,mS] at h1;rw[cN,qY] at hU;have:0<=third*p:=aL _;omega
 .exact h
def Dp{U p V T S first third g r:Nat}(hU:U<(first*4294967296+third+1)*p)(hV:(T*4294967296+S)*p<=V)(hg:first=g*T+r)(hc:r*4294967296+third<g*S:=by omega):U<g*V:=by
 refine dJ hU (cJ (bX p (m:=g*(T*4294967296+S)) ?_) ?_)
 .rw[eJ,<-cX,hg,cN];omega
 .rw[cX];exact dY _ hV
def En{U p V T S first third g r v0:Nat}(hU:(first*4294967296+third)*p<=U)(hV:V=(T*4294967296+S)*p+v0)(hv:v0<p)(hT:0<T)(hg:first=g*T+r)(hgB:g<4294967296)(hc:g*S<=r*4294967296+third):g*V<U+V:=by
 have h1:g*((T*4294967296+S)*p)<=U:=by
  rw[<-cX];refine cJ (bX p ?_) hU;rw[eJ,<-cX,hg,cN];omega
 have h2:g*v0<=4294967295*v0:=bX _ pb;have h3:4294967296*p<=V:=by
  rw[hV];refine cJ (bX p ?_) (mJ _ _);omega
 have h4:g*V=g*((T*4294967296+S)*p)+g*v0:=by rw[<-eJ,<-hV]
 omega
def V2{U V R g:Nat}(h:U<(g+1)*V)(hr:R+g*V=U):R<V:=by
 rw[cN,mS] at h;omega
def T0{U V R R' g w M:Nat}(h2:g*V<U+V)(hr:R+g*V=U+M)(hb:R'+w*M=R+V)(hR:R<M)(hR':R'<M)(hw:w<=1)(hg:0<g):R'+(g-1)*V=U/\R'<V:=by
 have hgv:g*V=(g-1)*V+V:=by
  conv=>lhs;rw[show g=(g-1)+1 by omega,cN,mS]
 have:w=1:=by
  rcases iY w 1 with h|h
  .have:w=0:=by omega
   subst this;omega
  .omega
 subst this;omega
def vw(us:List Nat)(i:Nat):dv (us.drop i)=us.getD i 0+4294967296*dv (us.drop (i+1)):=by
 rcases iY i us.length with h|h
 .rw[bW h];simp[dv,List.getD,aQ h]
 .rw[gS h,gS pb]
  simp[dv,dR h,List.getD]
def uM(us:List Nat)(i:Nat):dv us=dv (us.take i)+4294967296^i*dv (us.drop i):=by
 rcases iY us.length i with h|h
 .rw[bK pb,gS pb];simp[dv]
 .exact wE us i h
def Cg{us:List Nat}(h:bt us)(i:Nat):dv (us.take i)<4294967296^i:=by
 refine dJ (lu (h.take i)) (bU v6 ?_);simp[bR];omega
def zf{us:List Nat}{i:Nat}(hd:dv us<4294967296^i):dv (us.drop i)=0:=by
 have h:=uM us i;rcases fJ (dv (us.drop i)) with h0|h0
 .exact h0
 .have:=dY (4294967296^i) h0
  omega
def VY{W W' U E p u x bo b c c1 g d:Nat}(hs:W'+p*u=W+p*x)(hw:W+E=U+(bo+c)*p)(hc:c1=c+g*d)(hx:x+(c1%4294967296+bo)=u+b*4294967296):
  W'+(E+g*d*p)=U+(b+c1/4294967296)*(p*4294967296):=by
 have h1:=congrArg (p* ·) hx;simp only[eJ] at h1;have h2:p*c1=p*(c1%4294967296)+p*(c1/4294967296)*4294967296:=by
  rw[cX,<-eJ,Nat.mod_add_div']
 have h3:p*c1=p*c+p*(g*d):=by rw[hc,eJ]
 rw[cN,bM bo,bM c] at hw;rw[bM (g*d),cN,<-cX b,<-cX (c1/4294967296),bM b,bM (c1/4294967296)];rw[<-cX] at h1;omega
def RE{W W' U E p u x bo b c:Nat}(hs:W'+p*u=W+p*x)(hw:W+E=U+(bo+c)*p)(hx:x+(c+bo)=u+b*4294967296):W'+E=U+b*(p*4294967296):=by
 have h1:=congrArg (p* ·) hx;simp only[eJ] at h1;rw[cN,bM bo,bM c] at hw;rw[<-cX b,bM b];rw[<-cX] at h1;omega
def Zm{W W' R E p u d c:Nat}(hs:W'+p*u=W+p*((c+(u+d))%4294967296))(hw:W+c*p=R+E):W'+(c+(u+d))/4294967296*(p*4294967296)=R+(E+d*p):=by
 have h2:p*(c+(u+d))=p*((c+(u+d))%4294967296)+p*((c+(u+d))/4294967296)*4294967296:=by
  rw[cX,<-eJ,Nat.mod_add_div']
 rw[eJ p c,eJ p u] at h2;rw[bM c] at hw;rw[bM d,<-cX,bM _ p];omega
def RO{W W' R p u c:Nat}(hs:W'+p*u=W+p*((u+c)%4294967296))(hw:W+c*p=R):W'+(u+c)/4294967296*(p*4294967296)=R:=by
 have h2:p*(u+c)=p*((u+c)%4294967296)+p*((u+c)/4294967296)*4294967296:=by
  rw[cX,<-eJ,Nat.mod_add_div']
 rw[eJ p u] at h2;rw[bM c] at hw;rw[<-cX,bM _ p];omega
def W5{us:List Nat}(h:bt us)(i:Nat)(hd:dv us<4294967296^(i+3)):
  dv us=((us.getD (i+2) 0*4294967296+us.getD (i+1) 0)*4294967296+us.getD i 0)*4294967296^i+dv (us.take i):=by
 have h0:=zf hd;rw[uM us i,vw us i,vw us (i+1),vw us (i+2),h0,jW,bM];congr 2;omega
def XX{us:List Nat}(h:bt us)(i:Nat)(hd:dv us<4294967296^(i+2)):
  dv us=(us.getD (i+1) 0*4294967296+us.getD i 0)*4294967296^i+dv (us.take i):=by
 have h0:=zf hd;rw[uM us i,vw us i,vw us (i+1),h0,jW,bM];congr 2;omega
def Bs{us:List Nat}{k i d:Nat}(h:bt us)(hd:d<4294967296)(hk:dv us<4294967296^k)(hi:i<k:=by omega):dv (us.set i d)<4294967296^k:=by
 rw[uM _ k,List.drop_set,if_pos hi,zf hk,sS,gW];exact Cg (h.set i hd) k
end Go.Sx
end
section
namespace Go.Sx
open Go Go.Proofs Tryz
variable {V t s u k g e:Nat}{q:Rat}

def Xg{n:Nat}(h1:4294967296^(n-1)<=V)(h2:V<4294967296^n)(hn:0<n):(dg V).length=n:=by
 obtain⟨e,hk,hr⟩:=f6 V;have hne:dg V≠[]:=fun h=>by
  rw[h] at e;have:0<4294967296^(n-1):=gV v6;simp[dv] at e;omega
 have h3:=um hr hne;have h4:=lu hk;rw[e] at h3 h4;have h5:=(nK (a:=4294967296) v6).1 (gX h3 h2);have h6:=(nK (a:=4294967296) v6).1 (gX h1 h4);omega
def UQ(h0:0<t)(ht:t<4294967296)(hs:s=32-bl t):s<32/\2147483648<=t*2^s/\(t+1)*2^s<=4294967296:=by
 have h1:bl t<=32:=mB.2 ht;have h2:bl t≠0:=fun h=>by
  have:=Bl t;rw[h] at this;omega
 have h3:=Bl t;have h4: ¬t<2^(bl t-1):=fun h=>by
  have:=mB.2 h;omega
 have e1:2^(bl t-1)*2^s=2147483648:=by rw[<-fW,show bl t-1+s=31 by omega]
 have e2:2^bl t*2^s=4294967296:=by rw[<-fW,show bl t+s=32 by omega]
 refine⟨pb,?_,?_⟩
 .rw[<-e1];exact bX _ pb
 .rw[<-e2];exact bX _ h3
def RI{us:List Nat}(h:bt us)(i:Nat)(hd:us.length=i+1):dv us=us.getD i 0*4294967296^i+dv (us.take i):=by
 have h0:dv (us.drop (i+1))=0:=by rw[gS pb];rfl
 rw[uM us i,vw us i,h0,jW,bM];rfl
def NT{b:List Nat}(h:fk b)(i:Nat)(hi:b.length=i+1):0<b.getD i 0:=by
 rcases fJ (b.getD i 0) with h0|h0
 .exfalso
  apply h;rw[lQ,hi,show i+1-1=i from J];rw[List.getD,aQ pb] at h0;rw[aQ pb];simpa using h0
 .exact h0
def Q8(a:List Nat)(k:Nat):dv (a++List.replicate k 0)=dv a:=by rw[vQ,uY];simp
def rm(u m bo:Nat):Nat:=if m+bo<=u then u-(m+bo) else u+18446744073709551616-(m+bo)
def sub2(u m bo:Nat)(hu:u<4294967296)(hm:m<4294967296)(hb:bo<=1):IntKind.u64.wrap (IntKind.u64.wrap ((u:Int)-(m:Int))-(bo:Int))=((rm u m bo:Nat):Int):=by
 rw[pq,pq];unfold rm;split<;>omega
def Kr(u m bo:Nat)(hu:u<4294967296)(hm:m<4294967296)(hb:bo<=1):rm u m bo%4294967296+(m+bo)=u+rm u m bo/9223372036854775808*4294967296/\rm u m bo/9223372036854775808<=1/\rm u m bo<18446744073709551616:=by
 unfold rm;split<;>omega
def k9(h:u<2^k):32*(dg u).length<=k+31:=SL (f6 u).2.2 (by rw[(f6 u).1];exact h)
structure IV where
 neg:Bool
 a:SV
def IV.v(z:IV):Value:= .agg ⟨[.bool z.neg, .slice z.a.a z.a.n z.a.c]⟩
def zv(neg:Bool)(u:Nat):Int:=if neg then-(u:Int) else u
def pI(neg:Bool)(u:Nat):(zv neg u).natAbs=u:=by cases neg<;>simp[zv]
def Uy(neg:Bool)(u:Nat):zv (!neg) u= -zv neg u:=by cases neg<;>simp[zv]
def Lx(n m:Bool)(u w:Nat):zv (n !=m) (u*w)=zv n u*zv m w:=by cases n<;>cases m<;>simp[zv,Int.neg_mul,rN]
def O'(neg:Bool)(u:Nat):decide (zv neg u<0)=(neg&&decide (0<u)):=by
 cases neg<;>simp[zv]
def ku(m:Int):zv (decide (m<0)) m.natAbs=m:=by
 unfold zv;by_cases h:m<0<;>simp[h]<;>omega
def T'(n:Bool)(u w:Nat):zv n (u+w)=zv n u+zv n w:=by cases n<;>simp[zv]<;>omega
def Hq(p:Int):IntKind.i64.wrap p=(p+9223372036854775808)%18446744073709551616-9223372036854775808:=by
 have e:IntKind.i64.wrap p=if(true&&decide (p%2^64>=2^(64-1)))=true then p%2^64-2^64 else p%2^64:=J
 rw[e,show(2:Int)^64=18446744073709551616 by decide,show(2:Int)^(64-1)=9223372036854775808 by decide,Bool.true_and];by_cases h:p%18446744073709551616>=9223372036854775808
 .rw[decide_eq_true h,if_pos J];omega
 .rw[decide_eq_false h,if_neg v6];omega
structure RV where
 n:Int
 d:Int
 p:Option Addr
def RV.v(z:RV):Value:= .agg ⟨[.int .i64 z.n, .int .i64 z.d, .pointer z.p]⟩
def Q4{neg:Bool}(h:g∣u):zv neg (u/g)=zv neg u/(g:Int):=by
 cases neg
 .simp[zv]
 .simp only[zv,if_true]
  rw[Int.neg_ediv_of_dvd (qT.2 h),rW]
def Iy{m:Int}(he:0<e):(mkRat m e).num=m/((Nat.gcd m.natAbs e:Nat):Int)/\(mkRat m e).den=e/Nat.gcd m.natAbs e:=by
 rw[Rat.num_mkRat,Rat.den_mkRat,if_neg pb,if_neg pb,iU];exact⟨J,J⟩
def TU{x:Nat}:(((bl x:Nat):Int)<=62)↔x<4611686018427387904:=by
 have:bl x<=62↔x<2^62:=mB;omega

def P9{G:Gh}{x y:Nat}(hx:x<18446744073709551616)(hy:y<18446744073709551616):Fn prog 178 [.int .u64 (x:Nat), .int .u64 (y:Nat)] G (fun v _=>v= .tuple #[.int .u64 ((x*y/18446744073709551616:Nat):Int), .int .u64 ((x*y%18446744073709551616:Nat):Int)]):=
 Fn.of_calls (G:=G) (Jg func178 J J) (fun w=>Tryz.bits_Mul64 x y hx hy w)
def HZ(a b:Int):a*b=if(a<0)↔(b<0) then((a.natAbs*b.natAbs:Nat):Int) else-((a.natAbs*b.natAbs:Nat):Int):=by
 rcases(by omega:a<0\/0<=a) with h|h<;>rcases(by omega:b<0\/0<=b) with h2|h2
 .rw[if_pos (by simp[h,h2]),gM,kL (pK h),kL (pK h2),Int.neg_mul_neg]
 .rw[if_neg (by simp[h];omega),gM,kL (pK h),mL h2,Int.neg_mul,Int.neg_neg]
 .rw[if_neg (by simp[h2];omega),gM,mL h,kL (pK h2),rN,Int.neg_neg]
 .rw[if_pos (by constructor<;>intro<;>omega),gM,mL h,mL h2]
def Vf{p:Int}(h:p.natAbs<9223372036854775808):IntKind.i64.wrap p=p:=by rw[Hq];omega

def QP{n:Int}{d:Nat}(h:n<0):mkRat (-(d:Int)) n.natAbs=Rat.divInt (d:Int) n:=by
 rw[<-Rat.divInt_ofNat,kL (pK h),Rat.neg_divInt_neg]
def O9(h:q.num<0):(q⁻¹).num= -(q.den:Int)/\(q⁻¹).den=q.num.natAbs:=by
 rw[Rat.num_inv,Rat.den_inv,if_neg pb,dT h];omega
def IE(h:0<q.num):(q⁻¹).num=(q.den:Int)/\(q⁻¹).den=q.num.natAbs:=by
 rw[Rat.num_inv,Rat.den_inv,if_neg pb,fX h];omega
def Ci(h:q.den=1:=by omega):q=(q.num:Int):=by
 conv=>lhs;rw[<-tZ q,h,rS]
def bm(a b:Rat):Int:=if a<b then-1 else if b<a then 1 else 0
def Hz(a b:Rat):(a-b).num<0↔a<b:=by
 rw[<-rY,Rat.le_iff_sub_nonneg,<-pZ];omega
def LX(a b:Rat):0<(a-b).num↔b<a:=by
 have h:=Hz b a;have h2:(b-a).num= -(a-b).num:=by rw[<-mM,Rat.neg_sub]
 rw[h2] at h;rw[<-h];omega
def BB(a b:Rat):Int.sign (a-b).num=bm a b:=by
 unfold bm;split
 .rename_i h;exact dT ((Hz a b).2 h)
 .rename_i h
  split
  .rename_i h2;exact fX ((LX a b).2 h2)
  .rename_i h2
   rw[<-Hz] at h;rw[<-LX] at h2;rw[show(a-b).num=0 by omega];rfl
def HP{a b:Rat}(h:a.den=b.den:=by omega):a<b↔a.num<b.num:=by
 rw[Rat.lt_iff,h];have:(0:Int)<b.den:=by have:=b.den_pos;omega
 exact⟨fun h2=>Int.lt_of_mul_lt_mul_right h2 (pK this),fun h2=>Int.mul_lt_mul_of_pos_right h2 this⟩
def qh(a b:Rat):bm a b=0↔a=b:=by
 unfold bm;constructor
 .intro h
  split at h
  .omega
  .rename_i h1
   split at h
   .omega
   .rename_i h2
    exact Rat.le_antisymm (rU.1 h2) (rU.1 h1)
 .intro h
  subst h;rw[if_neg (rU.2 fR),if_neg (rU.2 fR)]
def L8(a b:Rat):0<bm a b↔b<a:=by
 unfold bm;constructor
 .intro h
  split at h
  .omega
  .split at h
   .assumption
   .omega
 .intro h
  rw[if_neg (fun h2=>rU.2 (cM h) h2),if_pos h];decide
def MN(a b:Rat):bm a b<0↔a<b:=by
 unfold bm;constructor
 .intro h
  split at h
  .assumption
  .split at h<;>omega
 .intro h
  rw[if_pos h];decide
def rgcd(a b:Rat):Rat:=mkRat ((Nat.gcd (a.num.natAbs*b.den) (b.num.natAbs*a.den):Nat):Int) (a.den*b.den)
def Gn(a b:Int):rgcd a b=((Nat.gcd a.natAbs b.natAbs:Nat):Int):=by
 unfold rgcd;show mkRat ((Nat.gcd (a.natAbs*1) (b.natAbs*1):Nat):Int) (1*1)=_;rw[kY,kY,kY,rS]
def Y4{a b m:Nat}(ha:a<m)(hb:b<m):Nat.gcd a b<m:=by
 rcases fJ a with h|h
 .rw[h,Nat.gcd_zero_left];exact hb
 .exact gX (Nat.gcd_le_left _ h) ha
structure LV where
 a:RV
 b:RV
 c:RV
def LV.v(z:LV):Value:= .agg ⟨[.int .i64 z.a.n, .int .i64 z.a.d, .pointer z.a.p, .int .i64 z.b.n, .int .i64 z.b.d, .pointer z.b.p, .int .i64 z.c.n, .int .i64 z.c.d, .pointer z.c.p]⟩
structure aa where
 a:Int
 b:Int
 c:Int
def aa.ok(l:aa):Prop:= ¬(l.a=0/\l.b=0)/\Nat.gcd (Nat.gcd l.a.natAbs l.b.natAbs) l.c.natAbs=1
structure PV where
 x:RV
 y:RV
def PV.v(z:PV):Value:= .agg ⟨[.int .i64 z.x.n, .int .i64 z.x.d, .pointer z.x.p, .int .i64 z.y.n, .int .i64 z.y.d, .pointer z.y.p]⟩
structure ab where
 x:Rat
 y:Rat
def Er(a:Int): -(a:Rat)=((-a:Int):Rat):=rfl
def aa.rev(l:aa):aa:=⟨-l.a, -l.b, -l.c⟩
def aa.nor(l:aa):ab:=⟨l.a,l.b⟩
def aa.dir(l:aa):ab:=⟨l.b, -(l.a:Rat)⟩
def ab.dot(p q:ab):Rat:=p.x*q.x+p.y*q.y
def ab.cross(p q:ab):Rat:=p.x*q.y-p.y*q.x
def ab.scale(p:ab)(c:Rat):ab:=⟨p.x*c,p.y*c⟩
def ab.add(p q:ab):ab:=⟨p.x+q.x,p.y+q.y⟩
def aa.value(l:aa)(p:ab):Rat:=l.nor.dot p+(l.c:Rat)
def aa.base(l:aa):ab:=l.nor.scale (-(l.c:Rat)/l.nor.dot l.nor)
def aa.at(l:aa)(t:Rat):ab:=l.base.add (l.dir.scale t)
end Go.Sx
end
section
namespace Go.Sx
open Go
variable {ds:List Nat}{i k n k' a b j d:Nat}
def dU(d:Nat):DV:= .v (.int .u32 (d:Int))
def dt(ds:List Nat):DV:= .sl (ds.map dU)
def dN(n:Nat):DV:= .sl ((dg n).map dU)
def dD(n:Nat):DV:= .sl (if n=1 then [] else(dg n).map dU)
def eI(m:Int):DV:= .ag [.v (.bool (decide (m<0))),dN m.natAbs]
def eQ(q:Rat):DV:= .ag [.v (.bool (decide (q.num<0))),dN q.num.natAbs,dD q.den]
def eP(p:ab):DV:= .ag [.v (.bool (decide (p.x.num<0))),dN p.x.num.natAbs,dD p.x.den, .v (.bool (decide (p.y.num<0))),dN p.y.num.natAbs,dD p.y.den]
def eL(l:aa):DV:= .ag [.v (.bool (decide (l.a<0))),dN l.a.natAbs, .v (.bool (decide (l.b<0))),dN l.b.natAbs, .v (.bool (decide (l.c<0))),dN l.c.natAbs]
def eR(q:Rat):DV:= .ag [.v (.bool (decide (q.num<0))),dN q.num.natAbs,dN q.den]
def fe(p:ab):DV:= .ag [.v (.bool (decide (p.x.num<0))),dN p.x.num.natAbs,dN p.x.den, .v (.bool (decide (p.y.num<0))),dN p.y.num.natAbs,dN p.y.den]
def vI(n:Int):DV:= .v (.int .i64 n)
def vB(b:Bool):DV:= .v (.bool b)
def PK(n:Nat):dN n=dt (dg n):=rfl
def QK(h:bt ds):dt (trimD ds)=dN (dv ds):=by unfold dt dN;rw[B6 h]
def Ym(h:i<ds.length):(ds.map dU)[i]? =some (dU (ds.getD i 0)):=by
 rw[cY,aQ h,aJ,aQ h];rfl
def dG(h:i<ds.length:=by omega):(ds.map dU)[(i:Int).toNat]? =some (dU (ds.getD i 0)):=by rw[dQ];exact Ym h
def iw(ds:List Nat)(i d:Nat):(ds.map dU).set i (.v (.int .u32 (d:Int)))=(ds.set i d).map dU:=by rw[jY];rfl
def ly(n:Nat):List.replicate n (DV.v (.int .u32 0))=(List.replicate n 0).map dU:=by rw[List.map_replicate];rfl
def pn(ds:List Nat):cd 1 (ds.map dU):=fun d hd=>by
 obtain⟨n,_,rfl⟩:=aN.1 hd;exact⟨rfl,rfl⟩
def dk(n:Nat)(i:Nat):(dg n).getD i 0<4294967296:=(f6 n).2.1.get i
def sv:dg 0=[]:=by rw[dg,dif_pos J]
def wI:dg 1=[1]:=by rw[dg,dif_neg v6];simp[sv]
def sj{n:Nat}:(dg n).length=0↔n=0:=by
 constructor
 .intro h
  have:=(f6 n).1;rw[cV h] at this;exact this.symm
 .rintro rfl;rw[sv];rfl
def kr:dN 0= .sl []:=by unfold dN;rw[sv];rfl
def Cq{G:Gh}: ∀{ds:List Nat} {es:List Value},IsLs G (ds.map dU) es↔es=ds.map dI
 |[],es=>eD
 |d::t,es=>by
  rw[cZ,bE];constructor
  .rintro ⟨y,n,rfl,h1,h2⟩
   rw[bh.1 h1,Cq.1 h2];rfl
  .rintro rfl
   exact⟨_,_,J,bh.2 J,Cq.2 J⟩
def JM{G:Gh}{v:Value}:Is G (dt ds) v↔ ∃x:SV,v= .slice x.a x.n x.c/\gy G 1 x (ds.map dI):=by
 unfold dt;rw[ie];constructor
 .rintro ⟨s,x,es,rfl,h1,h2⟩
  have:=Cq.1 h2;subst this;refine⟨x,J,?_⟩;rcases xp (s:=1) h1 h2 (pn ds) with h|h
  .rw[h] at h1⊢
   exact⟨h1.len,h1.cap, .inl J⟩
  .subst h;exact h1
 .rintro ⟨x,rfl,h⟩
  exact⟨1,x,_,J,h,Cq.2 J⟩
def cp{i:Int}(hi:i=k:=by omega)(h:k<ds.length:=by omega):(ds.map dU)[i.toNat]? =some (dU (ds.getD k 0)):=by subst hi;exact dG h
class BN (n:Nat) (k:outParam Nat):Prop where h:n<2^k
class BI (m:Int) (k:outParam Nat):Prop where h:m.natAbs<2^k
class BQ (q:Rat) (k:outParam Nat):Prop where
 hn:q.num.natAbs<2^k
 hd:q.den<2^k
theorem BN.mono(h:BN n k)(hk:k<=k'):BN n k':=⟨dJ h.h (bU v6 hk)⟩
def oy(h:a<2^i)(k:b<2^j):a*b<2^(i+j):=by rw[fW];exact nL h k
def HX(h:a<2^i)(k:b<2^j):a+b<2^(i+j+1):=by
 have h1:2^i<=2^(i+j):=bU v6 pb;have h2:2^j<=2^(i+j):=bU v6 pb;rw[gJ];omega
instance BN.mul (a b i j:Nat) [h:BN a i] [k:BN b j]:BN (a*b) (i+j):=⟨oy h.h k.h⟩
instance BN.div (a b i:Nat) [h:BN a i]:BN (a/b) i:=⟨gX (lL _ _) h.h⟩
instance BN.abs (m:Int) (i:Nat) [h:BI m i]:BN m.natAbs i:=⟨h.h⟩
instance BN.den (q:Rat) (i:Nat) [h:BQ q i]:BN q.den i:=⟨h.hd⟩
def J1(h:a<2^i)(k:b<2^j):Nat.gcd a b<2^(i+j):=by
 have h1:2^i<=2^(i+j):=bU v6 pb;have h2:2^j<=2^(i+j):=bU v6 pb;rcases fJ a with h0|h0
 .subst h0;rw[Nat.gcd_zero_left];omega
 .have:=Nat.gcd_le_left b h0;omega
instance BN.gcd (a b i j:Nat) [h:BN a i] [k:BN b j]:BN (Nat.gcd a b) (i+j):=⟨J1 h.h k.h⟩
instance BN.one:BN 1 1:=⟨v6⟩
instance BI.mul (a b:Int) (i j:Nat) [h:BI a i] [k:BI b j]:BI (a*b) (i+j):=⟨by rw[iR];exact oy h.h k.h⟩
instance BI.add (a b:Int) (i j:Nat) [h:BI a i] [k:BI b j]:BI (a+b) (i+j+1):=⟨gX (Int.natAbs_add_le a b) (HX h.h k.h)⟩
instance BI.sub (a b:Int) (i j:Nat) [h:BI a i] [k:BI b j]:BI (a-b) (i+j+1):=⟨gX (Int.natAbs_sub_le a b) (HX h.h k.h)⟩
instance BI.neg (a:Int) (i:Nat) [h:BI a i]:BI (-a) i:=⟨by rw[iJ];exact h.h⟩
instance BI.num (q:Rat) (i:Nat) [h:BQ q i]:BI q.num i:=⟨h.hn⟩
instance BI.nat (n:Nat) (i:Nat) [h:BN n i]:BI (n:Int) i:=⟨by rw[jR];exact h.h⟩
def ld(q:Rat):0<q.den:=iV q.den_nz
theorem ub{m:Int}(hd:0<d)(h:m.natAbs<2^i)(k:d<2^i:=by decide):BQ (mkRat m d) i:=by
 refine⟨?_,?_⟩
 .rw[Rat.num_mkRat,if_neg pb]
  have:=mT m (d.gcd m.natAbs:Nat);omega
 .rw[Rat.den_mkRat,if_neg pb]
  have:=lL d (d.gcd m.natAbs);omega
theorem BQ.mono{q:Rat}(h:BQ q k)(hk:k<=k':=by decide):BQ q k':=⟨dJ h.hn (bU v6 hk),dJ h.hd (bU v6 hk)⟩
def yt(p q:Rat):p*q=mkRat (p.num*q.num) (p.den*q.den):=by rw[Rat.mul_def,Rat.normalize_eq_mkRat]
def wT(p q:Rat):p+q=mkRat (p.num*q.den+q.num*p.den) (p.den*q.den):=by rw[Rat.add_def,Rat.normalize_eq_mkRat]
instance BQ.mul (p q:Rat) (i j:Nat) [h:BQ p i] [k:BQ q j]:BQ (p*q) (i+j):=by
 rw[yt];exact ub (jJ (ld p) (ld q)) (BI.mul p.num q.num i j).h (oy h.hd k.hd)
instance BQ.add (p q:Rat) (i j:Nat) [h:BQ p i] [k:BQ q j]:BQ (p+q) (i+j+1):=by
 rw[wT];refine ub (jJ (ld p) (ld q)) ?_ ?_
 .have h1:=oy h.hn k.hd
  have h2:=oy k.hn h.hd;have h3:(p.num*q.den+q.num*p.den).natAbs<=(p.num*q.den).natAbs+(q.num*p.den).natAbs:=Int.natAbs_add_le ..;rw[iR,iR,jR,jR] at h3;rw[jW j i] at h2;rw[gJ];omega
 .have h1:=oy h.hd k.hd
  rw[gJ];omega
instance BQ.neg (p:Rat) (i:Nat) [h:BQ p i]:BQ (-p) i:=⟨by rw[mM,iJ];exact h.hn,by rw[sQ];exact h.hd⟩
instance BQ.sub (p q:Rat) (i j:Nat) [h:BQ p i] [k:BQ q j]:BQ (p-q) (i+j+1):=by
 rw[Rat.sub_eq_add_neg];exact BQ.add p (-q) i j
instance BQ.ofInt (m:Int) (i:Nat) [h:BI m i]:BQ (m:Rat) (i+1):=by
 refine⟨?_,?_⟩
 .rw[qX];have:=h.h;rw[gJ];omega
 .rw[qJ];have:0<2^i:=gV v6;rw[gJ];omega
end Go.Sx
end
section
namespace Go.Sx
open Go Go.Proofs Tryz
variable {ds A B W:List Nat}{n x y c a k i b u ia ib d c2:Nat}
variable {GB:Gh}
def AU(p q:Int):Nat:=(BitVec.ofInt 32 p &&& BitVec.ofInt 32 q).toNat
def Fx(p q:Int):Nat:=(BitVec.ofInt 32 p ||| BitVec.ofInt 32 q).toNat
def wV(p q:Int):Nat:=(BitVec.ofInt 32 p^^^BitVec.ofInt 32 q).toNat
def KF(h:0<n/\n<=ds.length)(hz:ds.getD (n-1) 0=0):trimD (ds.take n)=trimD (ds.take (n-1)):=by
 obtain⟨m,rfl⟩: ∃m,n=m+1:=⟨n-1,pb⟩;rw[iZ pb,lJ];rw[lJ,aJ,aQ pb] at hz;simp only[jZ] at hz;rw[hz,Xb]
def Ic(h:n<=ds.length)(hz:0<n->ds.getD (n-1) 0≠0):trimD (ds.take n)=ds.take n:=by
 rcases fJ n with h0|h0
 .subst h0;simp[trimD]
 .obtain⟨m,rfl⟩: ∃m,n=m+1:=⟨n-1,pb⟩
  have hz:=hz h0;rw[iZ pb];rw[lJ,aJ,aQ pb] at hz;exact IX (by simpa using hz)
def Uv(hx:x<4294967296)(hy:y<4294967296)(hc:c<=1):PF GB prog 203 [.v (.int .u32 (x:Int)), .v (.int .u32 (y:Int)), .v (.int .u32 (c:Int))] (.tp [.v (.int .u32 (((x+y+c)%4294967296:Nat):Int)), .v (.int .u32 (((x+y+c)/4294967296:Nat):Int))]):=by
 refine fn (hv:=by simp only[aj];exact⟨⟨⟨⟨⟨pb,pb⟩,pb⟩,pb⟩,pb⟩,v6⟩) func203 J J ntmps203 J J (fun C=>?_);exact rz J (by
  have e1:((x:Int)+y+c)%4294967296=(((x+y+c)%4294967296:Nat):Int):=by omega
  have e2:((x:Int)+y+c).fdiv (2^min (32:Int).toNat IntKind.u64.bits)%4294967296=(((x+y+c)/4294967296:Nat):Int):=by
   rw[show(2:Int)^min (32:Int).toNat IntKind.u64.bits=((4294967296:Nat):Int) from J,jT _ v6];omega
  show DV.tp [.v (.int _ _), .v (.int _ _)]=_;rw[e1,e2])
def Fm(n:Nat)(h:n<4294967296):(BitVec.ofInt 32 (n:Int)).msb=decide (2147483648<=n):=by
 rw[show BitVec.ofInt 32 (n:Int)=BitVec.ofNat 32 n from BitVec.ofInt_natCast ..];rw[BitVec.msb_eq_decide,BitVec.toNat_ofNat,gQ omu]
def RZ(b:BitVec 32):b.toNat/2147483648=if b.msb then 1 else 0:=by
 have:=b.isLt;rw[BitVec.msb_eq_decide];simp only[decide_eq_true_eq,Nat.reduceSub,Nat.reducePow] at*;split<;>omega
def Xl(b:BitVec 32):BitVec.ofInt 32 (b.toNat:Int)=b:=by rw[BitVec.ofInt_natCast,BitVec.ofNat_toNat,BitVec.setWidth_eq]
def YG(hx:x<4294967296)(hy:y<4294967296)(hc:c<=1):
  ((Fx (AU (wV IntKind.u32.max x:Nat) y:Nat) (AU (wV IntKind.u32.max (wV x y:Nat):Nat) (IntKind.u32.wrap (IntKind.u32.wrap ((x:Int)-y)-c)):Nat):Nat):Int).fdiv (2^min (31:Int).toNat IntKind.u32.bits)=(((if x<y+c then 1 else 0):Nat):Int):=by
 rw[show((2:Int)^min (31:Int).toNat IntKind.u32.bits)=((2147483648:Nat):Int) from J,jT _ v6,<-rW];congr 1;have hd: ∃d:Nat,d<4294967296/\IntKind.u32.wrap (IntKind.u32.wrap ((x:Int)-y)-c)=(d:Int)/\((x>=y+c/\d=x-(y+c))\/(x<y+c/\d=x+4294967296-(y+c))):=by
  rw[rk,rk];refine⟨((((x:Int)-y)%4294967296-c)%4294967296).toNat,pb,pb,pb⟩
 obtain⟨d,hd1,hd2,hd3⟩:=hd;rw[hd2];unfold Fx AU wV;simp only[Xl];rw[RZ];simp only[BitVec.msb_or,BitVec.msb_and,BitVec.msb_xor,Fm x hx,Fm y hy,Fm d hd1];have h1:(BitVec.ofInt 32 IntKind.u32.max).msb=true:=by decide
 rw[h1];rcases iY x 2147483648 with a|a<;>rcases iY y 2147483648 with b|b<;>rcases iY d 2147483648 with e|e<;>
  simp[Nat.not_le.2, *]<;>(first|omega|(split<;>omega))
def Wk(hx:x<4294967296)(hy:y<4294967296)(hc:c<=1):IntKind.u32.wrap (IntKind.u32.wrap ((x:Int)-y)-c)=(((if x<y+c then x+4294967296-(y+c) else x-(y+c)):Nat):Int):=by
 rw[rk,rk];split<;>omega
def UH(hx:x<4294967296)(hy:y<4294967296)(hc:c<=1):PF GB prog 205 [.v (.int .u32 (x:Int)), .v (.int .u32 (y:Int)), .v (.int .u32 (c:Int))] (.tp [.v (.int .u32 (((if x<y+c then x+4294967296-(y+c) else x-(y+c)):Nat):Int)), .v (.int .u32 (((if x<y+c then 1 else 0):Nat):Int))]):=by
 refine fn (fu:=⟨10⟩) func205 J J ntmps205 J J (fun C=>?_);refine sw (fu:=⟨1⟩) _ J (rk _).symm J<|sw (fu:=⟨6⟩) _ J (rk _).symm J<|nt (fu:=⟨4⟩) _ J J J<|xr (fu:=⟨0⟩) _ J J J<|nt _ J J J<|rz J (by have h1:=YG hx hy hc;unfold Fx AU wV at h1;show DV.tp [.v (.int _ _), .v (.int _ _)]=_;rw[h1,Wk hx hy hc])
def pp(hl:ds.length<=1125899906842624:=by omega):PF GB prog 128 [dt ds] (dt (trimD ds)):=by
 refine fn func128 J J ntmps128 J J (fun C=>?_);refine lp (X:=Nat) (fun n=>[(0, .d (dt ds)),(3, .d (vI (n:Nat)))]) (fun n=>[]) (fun n=>n<=ds.length/\trimD ds=trimD (ds.take n)) (fun n=>n) ds.length J ⟨bZ _,by rw[cS]⟩ (fun _=>J) (fun n hk=>?_);obtain⟨h1,h2⟩:=hk;refine cs 8 J J J (fun hg8=>?_) (fun hg8=>?_)
 .
  refine ix _ J (cp (k:=n-1)) J<|br J J J (fun hc15=>?_) (fun hc15=>?_)
  .
   have hz:ds.getD (n-1) 0=0:=by omega
   exact at_ (n-1) ⟨⟨pb,by rw[h2,KF pb hz]⟩,pb⟩
  .
   refine js 0 n _ J J J J (pn _) pb omk J<|rz J (by have:=Ic h1 (fun _ h=>hc15 pb);rw[<-h2] at this;show DV.sl _=_;simp[dt,this])
 .
  refine js 0 n _ J J J J (pn _) pb omk rfl<|rz rfl (by obtain rfl:n=0:=pb;show DV.sl _=_;simp[dt,h2,trimD])
def s7(h:a<2^k)(hk:k<=1000000000):(dg a).length<=100000000:=by have:=k9 h;omega
def cG(a:Nat):dv (dg a)=a:=(f6 a).1
def fB(a:Nat):bt (dg a):=(f6 a).2.1
def bC(ds:List Nat):(ds.map dU).length=ds.length:=aX ..
def jl(h:ds.length<=n:=by omega):ds.take n=ds:=bK h
def oF(h:ds.length<=i:=by omega):ds.getD i 0=0:=by
 rw[aJ,dR h];rfl
def jF(h:bt ds)(e:dv ds=n):dt (trimD ds)=dN n:=by rw[QK h,e]
def yf(h:a<b):iE a b= -1:=by unfold iE;rw[if_pos h]
def xY(h:b<a):iE a b=1:=by unfold iE;rw[if_neg pb,if_neg pb]
def JQ(h:a=b):iE a b=0:=by unfold iE;rw[if_neg pb,if_pos h]
def Sp(m n:Nat):Int.sign ((m:Int)-n)=iE m n:=by
 unfold iE;split
 .exact dT pb
 .split
  .rw[show(m:Int)-n=0 by omega];rfl
  .exact fX pb
def EN(h:(dg a).length≠(dg b).length:=by omega):iE (dg a).length (dg b).length=iE a b:=by
 rcases Nat.lt_or_gt_of_ne h with h|h
 .have:=vx (fB a) (f6 b).2.2 h
  rw[cG,cG] at this;rw[yf h,yf this]
 .have:=vx (fB b) (f6 a).2.2 h
  rw[cG,cG] at this;rw[xY h,xY this]
def vt(hl:(dg a).length=(dg b).length)(hi:i<(dg a).length)(hs:(dg a).drop (i+1)=(dg b).drop (i+1)):
  ((dg a).getD i 0<(dg b).getD i 0->a<b)/\((dg b).getD i 0<(dg a).getD i 0->b<a)/\((dg a).getD i 0=(dg b).getD i 0->(dg a).drop i=(dg b).drop i):=by
 refine⟨fun h=>?_,fun h=>?_,fun h=>?_⟩
 .have:=Oj (fB a) (fB b) i hi pb hl hs h
  rwa [cG,cG] at this
 .have:=Oj (fB b) (fB a) i pb hi hl.symm hs.symm h
  rwa [cG,cG] at this
 .rw[bW hi,bW (by omega:i<(dg b).length),hs]
  rw[aJ,aJ,aQ hi,aQ (by omega:i<(dg b).length)] at h;simp only[jZ] at h;rw[h]
theorem okN{p:Prop}(h:p:=by show DV.v (.int _ 0)=DV.v (.int _ _);rw[show z=0 by omega];rfl):p:=h
theorem ozi{p:Prop}(h:p:=by show DV.v (.int _ (-1))=DV.v (.int _ _);rw[dT pb]):p:=h
theorem ozm{p:Prop}(h:p:=by show DV.v (.int _ 1)=DV.v (.int _ _);rw[fX pb]):p:=h
def aCT{z:Int}:PF GB prog 204 [vI z] (vI z.sign):=by
 refine fn func204 J J ntmps204 J J (fun C=>?_);refine br J J J (fun hc4=>?_) (fun hc4=>?_)
 .
  exact rz J ozm
 .
  refine br J J J (fun hc6=>?_) (fun hc6=>?_)
  .
   exact rz J ozi
  .
   exact rz J okN
def Im(u:Nat):dv [u%4294967296,u/4294967296]=u:=by simp only[dv];omega
def LH(h:u<18446744073709551616):bt [u%4294967296,u/4294967296]:= .cons pb (.cons pb .nil)
def nq(u:Nat):(u:Int).fdiv (2^min (32:Int).toNat IntKind.u64.bits)=((u/4294967296:Nat):Int):=by
 rw[show(2:Int)^min (32:Int).toNat IntKind.u64.bits=((4294967296:Nat):Int) from J,jT _ v6];rfl
theorem okb{p:Prop}(h:p:=by show FX.d (.sl [.v (.int _ _), .v (.int _ _)])= .d (.sl [.v (.int _ _), .v (.int _ _)]);congr 6;omega):p:=h
theorem okq{p:Prop}(h:p:=by rw[nq]):p:=h
def qo(hu:u<18446744073709551616:=by omega):PF GB prog 127 [.v (.int .u64 (u:Int))] (dN u):=by
 refine fn (fu:=⟨11⟩) (hv:=by simp only[aj];exact v6) func127 J J ntmps127 J J (fun C=>?_);refine ah 6 (.d (.v (.int .u64 (u/4294967296:Nat)))) J okq<|gx J<|rf (fu:=⟨0⟩) J J<|ah 8 (.d (dt [u%4294967296,u/4294967296])) J okb<|gx J<|cl J (pp (ds:=[u%4294967296,u/4294967296]) v8) J<|rz J (jF (LH hu) (Im u))
theorem okJ{p:Prop}(h:p:=by unfold dN;rw[wI];rfl):p:=h
def FE:PF GB prog 125 [] (dN 1):=by
 refine fn func125 J J ntmps125 J J (fun C=>?_);refine rf J J<|rz J okJ
def xj(ha:(dg a).length<=100000000:=by omega)(hb:(dg b).length<=100000000:=by omega):PF GB prog 122 [dN a,dN b] (vI (iE a b)):=by
 have hla:=bC (dg a);have hlb:=bC (dg b);refine fn func122 J J ntmps122 J J (fun C=>?_);refine br J J J (fun hc10=>?_) (fun hc10=>?_)
 .
  refine cl J aCT J<|rz J (by show DV.v (.int _ _)=DV.v (.int _ _);rw[hla,hlb,Sp,EN])
 .
  have hl:(dg a).length=(dg b).length:=by omega
  refine lp (X:=Nat) (fun k=>[(0, .d (dN a)),(1, .d (dN b)),(5, .d (vI ((k:Nat)-1)))]) (fun k=>[]) (fun k=>k<=(dg a).length/\(dg a).drop k=(dg b).drop k) (fun k=>k) (dg a).length J ⟨bZ _,by rw[fU,hl,fU]⟩ (fun _=>J) (fun k hk=>?_);obtain⟨h1,h2⟩:=hk;refine br J J J (fun hc21=>?_) (fun hc21=>?_)
  .
   obtain⟨k,rfl⟩: ∃m,k=m+1:=⟨k-1,pb⟩;refine ix _ J (cp (k:=k)) J<|ix _ J (cp (k:=k)) J<|br J J J (fun hc32=>?_) (fun hc32=>?_)
   .
    exact rz J (by show DV.v (.int _ 1)=DV.v (.int _ _);rw[xY ((vt hl pb h2).2.1 pb)])
   .
    refine ix _ J (cp (k:=k)) J<|ix _ J (cp (k:=k)) J<|br J J J (fun hc41=>?_) (fun hc41=>?_)
    .
     exact rz J (by show DV.v (.int _ (-1))=DV.v (.int _ _);rw[yf ((vt hl pb h2).1 pb)])
    .
     exact at_ k ⟨⟨pb,(vt (i:=k) hl pb h2).2.2 pb⟩,pb⟩
  .
   exact rz rfl (by show DV.v (.int _ 0)=DV.v (.int _ _);rw[JQ];obtain rfl:k=0:=pb;rw[fM,fM] at h2;rw[<-cG a,h2,cG])
def N4(hi:i<W.length)(h:dv (W.take i)+4294967296^i*c=dv (A.take i)+dv (B.take i)):
  dv ((W.set i ((A.getD i 0+B.getD i 0+c)%4294967296)).take (i+1))+4294967296^(i+1)*((A.getD i 0+B.getD i 0+c)/4294967296)=dv (A.take (i+1))+dv (B.take (i+1)):=by
 rw[t6 hi,mv A,mv B,gJ,show A.getD i 0+B.getD i 0+c=c+A.getD i 0+B.getD i 0 by omega];exact XZ h
theorem okY{p:Prop}(h:p:=by rw[aM];omega):p:=h
def Mp(hn:n=max (dg a).length (dg b).length)(hl:W.length=n+1)(h:dv (W.take n)+4294967296^n*c=dv ((dg a).take n)+dv ((dg b).take n)):dv (W.set n c)=a+b:=by
 have e:=t6 (ws:=W) (k:=n) (d:=c);rw[jl okY] at e;rw[e,h,jl,jl,cG,cG]
theorem omz{p:Prop}(h:p:=by rw[<-ly];rfl):p:=h
theorem okf{p:Prop}(h:p:=by rw[<-iw];rfl):p:=h
def Tn[ha:BN a ia][hb:BN b ib](hi:ia<=1000000000:=by decide)(hj:ib<=1000000000:=by decide):PF GB prog 121 [dN a,dN b] (dN (a+b)):=by
 have hla:=bC (dg a);have hlb:=bC (dg b);have hba:=s7 ha.h hi;have hbb:=s7 hb.h hj;refine fn (fu:=⟨12⟩) func121 J J ntmps121 J J (fun C=>?_);obtain⟨n,hn⟩: ∃n,n=max (dg a).length (dg b).length:=⟨_,rfl⟩;refine ah 15 (.d (vI (n:Nat))) J (by show FX.d (.v (.int _ _))= .d (.v (.int _ _));congr 3;split<;>omega)<|gx J<|mk ((List.replicate (n+1) 0).map dU) J J omz J<|lp (X:=List Nat×Nat×Nat) (fun⟨W,c,i⟩=>[(0, .d (dN a)),(1, .d (dN b)),(5, .d (vI (n:Nat))),(6, .rw 18),(7, .d (.v (.int .u32 (c:Nat)))),(8, .d (vI (i:Nat)))]) (fun⟨W,c,i⟩=>[(18,some (.b 225 1 (W.map dU) true))]) (fun⟨W,c,i⟩=>W.length=n+1/\bt W/\c<=1/\i<=n/\dv (W.take i)+4294967296^i*c=dv ((dg a).take i)+dv ((dg b).take i)) (fun⟨W,c,i⟩=>n-i) ⟨List.replicate (n+1) 0,0,0⟩ J ⟨v8, .replicate _,pb,pb,by simp[dv]⟩ (fun _=>J) (fun⟨W,c,i⟩ hk=>?_);dsimp only at hk⊢;obtain⟨h1,h2,h3,h4,h5⟩:=hk;have hlw:=bC W;have hda:=dk a i;have hdb:=dk b i;refine br (fu1:=⟨11⟩) J J J (fun hc21=>?_) (fun hc21=>?_)
 .
  refine mg (fu:=⟨1⟩) (X:=Unit) (fun _=>[(0, .d (dN a)),(1, .d (dN b)),(5, .d (vI (n:Nat))),(6, .rw 18),(7, .d (.v (.int .u32 (c:Nat)))),(8, .d (vI (i:Nat))),(9, .d (dU ((dg a).getD i 0))),(10, .d (.v (.int .u32 0)))]) (fun _=>[(18,some (.b 225 1 (W.map dU) true))]) (fun _=>True) [0,1,5,6,7,8,9,10] [18] rfl ?_ (fun _=>J) (fun _ hm=>?_)
  .
   refine gx J<|br J J J (fun hc27=>?_) (fun hc27=>?_)
   .
    refine ix _ J (dG) J<|at_ () trivial
   .
    refine ah 9 (.d (dU ((dg a).getD i 0))) J (by rw[oF];rfl)<|at_ () trivial
  .
   refine mg (X:=Unit) (fun _=>[(0, .d (dN a)),(1, .d (dN b)),(5, .d (vI (n:Nat))),(6, .rw 18),(7, .d (.v (.int .u32 (c:Nat)))),(8, .d (vI (i:Nat))),(9, .d (dU ((dg a).getD i 0))),(10, .d (dU ((dg b).getD i 0)))]) (fun _=>[(18,some (.b 225 1 (W.map dU) true))]) (fun _=>True) [0,1,5,6,7,8,9,10] [18] rfl ?_ (fun _=>J) (fun _ hm=>?_)
   .
    refine gx J<|br J J J (fun hc35=>?_) (fun hc35=>?_)
    .
     refine ix _ J (dG) J<|at_ () trivial
    .
     refine ah 10 (.d (dU ((dg b).getD i 0))) J (by rw[oF];rfl)<|at_ () trivial
   .
    refine cl J (Uv pb pb pb) J<|sb _ ((W.set i (((dg a).getD i 0+(dg b).getD i 0+c)%4294967296)).map dU) J (dG) J okf J<|at_ ⟨W.set i (((dg a).getD i 0+(dg b).getD i 0+c)%4294967296),((dg a).getD i 0+(dg b).getD i 0+c)/4294967296,i+1⟩ (by dsimp only;exact⟨⟨by simpa using h1,h2.set _ pb,pb,pb,N4 pb h5⟩,pb⟩)
 .
  obtain rfl:i=n:=by omega
  refine sb _ ((W.set i c).map dU) J (dG) J okf J<|fz 18 J J<|cl J (pp (ds:=W.set i c) omk) J<|rz J (jF (h2.set _ pb) (Mp hn h1 h5))
def OL(hA:bt A)(hB:bt B)(hi:i<W.length)(hc:c<=1)(h:dv (W.take i)+dv (B.take i)=dv (A.take i)+4294967296^i*c)
  (hd:d=if A.getD i 0<B.getD i 0+c then A.getD i 0+4294967296-(B.getD i 0+c) else A.getD i 0-(B.getD i 0+c))(hc2:c2=if A.getD i 0<B.getD i 0+c then 1 else 0):
  dv ((W.set i d).take (i+1))+dv (B.take (i+1))=dv (A.take (i+1))+4294967296^(i+1)*c2:=by
 have h1:=hA.get i;have h2:=hB.get i;rw[t6 hi,mv A,mv B,gJ];split at hd
 .rename_i q
  rw[if_pos q] at hc2;subst hc2 hd;rw[jW (B.getD i 0) c];exact Rt h pb pb
 .rename_i q
  rw[if_neg q] at hc2;subst hc2 hd;rw[jW (B.getD i 0) c];exact Y0 h pb
def Pn(hw:bt W)(hl:W.length=(dg a).length)(hb:b<=a)(h:dv (W.take (dg a).length)+dv ((dg b).take (dg a).length)=dv ((dg a).take (dg a).length)+4294967296^(dg a).length*c):dv W=a-b:=by
 have hlb:(dg b).length<=(dg a).length:=by
  rcases iY (dg a).length (dg b).length with q|q
  .have:=vx (fB a) (f6 b).2.2 q
   rw[cG,cG] at this;omega
  .exact q
 rw[jl,jl hlb,jl (bZ _),cG,cG] at h;have h2:=lu hw;rw[hl] at h2;rcases fJ c with q|q
 .subst q;omega
 .have:4294967296^(dg a).length*1<=4294967296^(dg a).length*c:=dY _ q
  omega
theorem omP{p:Prop}(h:p:=by rw[hla];rfl):p:=h
def Ey[ha:BN a ia](hb:b<=a)(hi:ia<=1000000000:=by decide):PF GB prog 123 [dN a,dN b] (dN (a-b)):=by
 have hla:=bC (dg a);have hlb:=bC (dg b);have hba:=s7 ha.h hi;refine fn (fu:=⟨9⟩) func123 J J ntmps123 J J (fun C=>?_);refine ah 10 (.d (vI ((dg a).length:Nat))) J omP<|gx J<|mk (fu:=⟨13⟩) ((List.replicate (dg a).length 0).map dU) J J omz J<|ah 13 (.d (vI ((dg a).length:Nat))) J omP<|gx J<|lp (X:=List Nat×Nat×Nat) (fun⟨W,c,i⟩=>[(0, .d (dN a)),(1, .d (dN b)),(5, .rw 11),(6, .d (.v (.int .u32 (c:Nat)))),(13, .d (vI ((dg a).length:Nat))),(14, .d (vI (i:Nat)))]) (fun⟨W,c,i⟩=>[(11,some (.b 225 1 (W.map dU) true))]) (fun⟨W,c,i⟩=>W.length=(dg a).length/\bt W/\c<=1/\i<=(dg a).length/\dv (W.take i)+dv ((dg b).take i)=dv ((dg a).take i)+4294967296^i*c) (fun⟨W,c,i⟩=>(dg a).length-i) ⟨List.replicate (dg a).length 0,0,0⟩ J ⟨v8, .replicate _,pb,pb,by simp[dv]⟩ (fun _=>J) (fun⟨W,c,i⟩ hk=>?_);dsimp only at hk⊢;obtain⟨h1,h2,h3,h4,h5⟩:=hk;have hlw:=bC W;have hda:=dk a i;have hdb:=dk b i;refine br (fu1:=⟨16⟩) J J J (fun hc15=>?_) (fun hc15=>?_)
 .
  refine mg (X:=Unit) (fun _=>[(0, .d (dN a)),(1, .d (dN b)),(5, .rw 11),(6, .d (.v (.int .u32 (c:Nat)))),(13, .d (vI ((dg a).length:Nat))),(14, .d (vI (i:Nat))),(7, .d (vI (i:Nat))),(8, .d (dU ((dg b).getD i 0)))]) (fun _=>[(11,some (.b 225 1 (W.map dU) true))]) (fun _=>True) [0,1,5,6,13,14,7,8] [11] rfl ?_ (fun _=>J) (fun _ hm=>?_)
  .
   refine gx J<|br J J J (fun hc20=>?_) (fun hc20=>?_)
   .
    refine ix _ J (dG) J<|at_ () trivial
   .
    refine ah 8 (.d (dU ((dg b).getD i 0))) J (by rw[oF];rfl)<|at_ () trivial
  .
   refine ix _ J (dG) J<|cl J (UH pb pb pb) J<|sb _ ((W.set i (if(dg a).getD i 0<(dg b).getD i 0+c then(dg a).getD i 0+4294967296-((dg b).getD i 0+c) else(dg a).getD i 0-((dg b).getD i 0+c))).map dU) J (dG) J okf J<|at_ ⟨W.set i (if(dg a).getD i 0<(dg b).getD i 0+c then(dg a).getD i 0+4294967296-((dg b).getD i 0+c) else(dg a).getD i 0-((dg b).getD i 0+c)),(if(dg a).getD i 0<(dg b).getD i 0+c then 1 else 0),i+1⟩ (by dsimp only;exact⟨⟨by simpa using h1,h2.set _ (by split<;>omega),by split<;>omega,pb,OL (fB a) (fB b) pb h3 h5 J J⟩,pb⟩)
 .
  obtain rfl:i=(dg a).length:=by omega
  refine fz 11 J J<|cl J (pp (ds:=W)) J<|rz J (jF h2 (Pn h2 h1 hb h5))
end Go.Sx
end
