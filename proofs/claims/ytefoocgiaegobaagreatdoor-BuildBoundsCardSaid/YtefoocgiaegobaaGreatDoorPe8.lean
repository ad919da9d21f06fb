import Derived.Test.YtefoocgiaegobaaGreatDoorPe7
import Derived.RangeFuncSeq
import Derived.Shelf.Small.Bits
import Derived.Shelf.Strconv.Itoa0
import Derived.Shelf.Strconv.Itoa1
import Derived.Shelf.LaysM
import Derived.Shelf.Strconv.Itoa2
import Derived.Shelf.Strconv.Itoa3
import Derived.Shelf.Bits.Mul64
import Derived.Test.YtefoocgiaegobaaGreatDoorProg
set_option linter.all false
set_option maxRecDepth 100000
section
namespace Go.Sx
open Go Go.Proofs Tryz
def Ga(o:Obj):Prop:= ∀cs ty z,o≠ .cells cs ty z
section
variable {C C':aD} {own:List aj} {G G1:Gh} {w w1:World}
def bm.ctx(h:bm C own G w)(h1:C'.w0=C.w0)(h2:C'.G0=C.G0)(h3:C'.mb=C.mb)(h4: ∀p∈C'.ex,p∈C.ex):bm C' own G w:=by
 obtain⟨a1,a2,a3,a4,a5,a6,a7,a8,a9,a10,a11,a12⟩:=h;exact⟨by rw[h1];exact a1,by rw[h1];exact a2,by rw[h1];exact a3,by rw[h1];exact a4,by rw[h1,h3];exact a5,a6,by rw[h2];exact a7,by rw[h1,h2];exact a8,by rw[h1,h3];exact a9,a10,by rw[h1];exact a11,fun p hp=>a12 p (h4 p hp)⟩
def bm.addx(h:bm C own G w){o:Obj}(ho:Ga o)(h1:C'.w0=C.w0)(h2:C'.G0=C.G0)(h3:C'.mb=C.mb)(h4: ∀p∈C'.ex,p=(w.heap.size,o)\/p∈C.ex):bm C' own G (w.alloc o):=by
 have old: ∀b,b<w.heap.size->(w.alloc o).heap[b]? =w.heap[b]? :=fun b hb=>RowKit.Below.heap_alloc _ _ _ hb;obtain⟨a1,a2,a3,a4,a5,a6,a7,a8,a9,a10,a11,a12⟩:=h;refine⟨by rw[h1];exact a1,by rw[h1];exact a2,by rw[h1];exact a3,by rw[h1];simp;omega,?_,?_,by rw[h2];exact a7,by rw[h1,h2];exact a8,?_,a10,by rw[h1];exact a11,?_⟩
 ·rw[h1,h3];intro b hb hm;rw[old b (by omega)];exact a5 b hb hm
 ·intro b cs hb
  obtain⟨ty,fz,hc⟩:=a6 b cs hb;exact⟨ty,fz,by rw[old b (f8 hc)];exact hc⟩
 ·rw[h1,h3];intro x hx
  obtain⟨b1,b2⟩:=a9 x hx;exact⟨by rw[old _ (f8 b1)];exact b1,b2⟩
 ·intro p hp
  rcases h4 p hp with rfl|hp
  ·exact⟨ho,World.alloc_heap_new w o⟩
  ·exact⟨(a12 p hp).1,by rw[old _ (f8 (a12 p hp).2)];exact(a12 p hp).2⟩
def bm.putx(h:bm C own G w){l:Nat}{o0 o:Obj}(hl:(l,o0)∈C.ex)(hs:C.w0.heap.size<=l)(ho:Ga o)(h1:C'.w0=C.w0)(h2:C'.G0=C.G0)(h3:C'.mb=C.mb)(h4: ∀p∈C'.ex,p=(l,o)\/p∈C.ex/\p.1≠l):bm C' own G (w.putObj l o):=by
 have hne: ∀{b:Nat} {cs:Array Value} {ty:TypeId} {z:Nat×Nat},w.heap[b]? =some (.cells cs ty z)->b≠l:=fun hb e=>h.extNe hl hb e.symm;have hlt:=f8 (h.ext _ hl).2;obtain⟨a1,a2,a3,a4,a5,a6,a7,a8,a9,a10,a11,a12⟩:=h;refine⟨by rw[h1];exact a1,by rw[h1];exact a2,by rw[h1];exact a3,by rw[h1];simpa using a4,?_,?_,by rw[h2];exact a7,by rw[h1,h2];exact a8,?_,a10,by rw[h1];exact a11,?_⟩
 ·rw[h1,h3];intro b hb hm;rw[World.putObj_heap_other (by omega)];exact a5 b hb hm
 ·intro b cs hb
  obtain⟨ty,fz,hc⟩:=a6 b cs hb;exact⟨ty,fz,by rw[World.putObj_heap_other (hne hc)];exact hc⟩
 ·rw[h1,h3];intro x hx
  obtain⟨b1,b2⟩:=a9 x hx;exact⟨by rw[World.putObj_heap_other (hne b1)];exact b1,b2⟩
 ·intro p hp
  rcases h4 p hp with rfl|⟨hp,hpl⟩
  ·exact⟨ho,World.putObj_heap_same hlt⟩
  ·exact⟨(a12 p hp).1,by rw[World.putObj_heap_other hpl];exact(a12 p hp).2⟩
end
abbrev jy (w:World) (G:Gh):aD:=⟨w,G,[],[],[],none,fun _=>none⟩
def Hh(G:Gh)(w:World):Prop:= ∀b cs,G b=some cs-> ∃ty fz,w.heap[b]? =some (.cells ⟨cs⟩ ty fz)
structure Ml (Jv:Gh->World->Prop):Prop where
 frz: ∀G w,Jv G w->Hh G w
 on: ∀G w G1 w1,Jv G w->bm (jy w G) [] G1 w1->Jv G1 w1
def B6{G:Gh}{w:World}(h:Hh G w):bm (jy w G) [] G w:=
 ⟨J,J,J,aL _,fun _ _ _=>J,h,bz.refl _,fun _ _=>J,fun o ho=>(by cases ho), .nil,aL _,fun p hp=>by cases hp⟩
structure yj (GB:Gh) (P:Program) (l:Nat) (Jv:Nat->Gh->World->Prop) (Jx:Gh->World->Prop) (E:List (List DV)):Prop where
 st: ∀k,Ml (Jv k)
 sx:Ml Jx
 yd: ∀k e G w ys,E[k]? =some e->bz GB G->Jv k G w->IsLs G e ys->YieldAt (FW none) 0 P l ⟨ys⟩ w fun e w'=> ∃G',bz G G'/\(e= .returned (.bool true)/\Jv (k+1) G' w'\/e= .returned (.bool false)/\Jx G' w')
structure It (GB:Gh) (P:Program) (f:FuncId) (ds:List DV) (E:List (List DV)):Prop where
 able:nO P f
 run: ∀(l:Nat) (Jv:Nat->Gh->World->Prop) (Jx:Gh->World->Prop) (GB':Gh),bz GB GB'->yj GB' P l Jv Jx E-> ∀w vs,Jv 0 GB' w->IsLs GB' ds vs->
  CallsIn (FW none) 0 P f ⟨.func (.yield l) #[] #[]::vs⟩ w fun e w'=> ∃G',bz GB' G'/\(∃v,e= .returned v)/\(Jv E.length G' w'\/Jx G' w')
structure Pl (C:aD):Prop where
 mb:C.mb=[]
 mks:C.mks=[]
 rd:C.rd=none
def DG(P:Program)(fb:Func)(GB:Gh)(Jv:Nat->Gh->World->Prop)(Jx:Gh->World->Prop)(N:Nat):Exit->Act->World->Prop:=
 bodyPost P fb fun e w'=> ∃G',bz GB G'/\(∃v,e= .returned v)/\(Jv N G' w'\/Jx G' w')
section
variable {GB:Gh} {C:aD} {n:Nat} {Q0:Exit->Act->World->Prop} {fr fr':aw} {own own':aH} {cf':Cf} {vc:List Prop} {ops:Array Oper} {o:Oper} {r:List Oper} {K:List Kt}
def Un[fu:Fu]{f:FuncId}{fb:Func}{c:Code}{m:Nat}{ds:List DV}{E:List (List DV)}{cf:Nat->Cf}{fr:Nat->aw}{own:Nat->aH}{vc:Nat->List Prop}(hf:prog.funcs[f]? =some fb)(hb:fb.body=some c)(hn:(fb.name== "runtime.NumGoroutine")=false)(hm:fb.ntmps=m)(hlen:Nat.ble (ds.length+1) m=true)
  (hgo: ∀l,go tt m fu.n [] (pE 0 (.v (.func (.yield l) #[] #[])::ds)) [] (.code c [])=⟨vc l,fr l,own l,cf l⟩)
  (k: ∀l Jv Jx GB',bz GB GB'->yj GB' prog l Jv Jx E-> ∀C,Pl C->Jv 0 C.G0 C.w0->ak prog GB' C m (DG prog fb GB' Jv Jx E.length) (fr l) (own l) (cf l))
  (hv: ∀l,ah (vc l):=by intros;first|exact trivial|(simp only[ah];kernel_rfl)|(simp only[ah];omega)):It GB prog f ds E:=by
 refine⟨⟨fb,hf,hn,by simp[hb]⟩,fun l Jv Jx GB' hg H w vs hJ hvs=>?_⟩;have hlen':vs.length+1<=m:=by rw[hvs.len];simpa using hlen
 have h:=fg (GB:=GB') (C:=jy w GB') (Q0:=DG prog fb GB' Jv Jx E.length) (hgo l) (hv l) (k l Jv Jx GB' hg H (jy w GB') ⟨J,J,J⟩ hJ);refine callsIn_wide.2 (calls_of_wp hf hb ?_);have hvs':IsLs GB' (.v (.func (.yield l) #[] #[])::ds) (.func (.yield l) #[] #[]::vs):= .cons (aG.2 J) hvs;refine vL J (h.run (fun _=>⟨none,0,0⟩) GB' [] _ w ⟨bz.refl _,B6 ((H.st 0).frz _ _ hJ),by simp;omega,J,fun k f e=>ve hvs' (fun k v hk=>?_) k f e,(fun nm B e=>by cases e),(fun nm nm' B B' e=>by cases e),fun nm p _ _ e=>by cases e⟩);obtain⟨j,rfl,hj⟩:=rO (.func (.yield l) #[] #[]::vs) 0 k v hk;have hj':=(aS.1 hj).1;rw[iL (by simpa using hj')];simpa using hj
def bm.pl{ov:List aj}{G:Gh}{w:World}(h:bm C ov G w)(hp:Pl C):bm (jy C.w0 C.G0) [] G w:=
 (h.drop (jS _)).ctx J J hp.mb.symm (fun p hp=>by cases hp)
def OK{P:Program}{l:Nat}{Jv:Nat->Gh->World->Prop}{Jx:Gh->World->Prop}{E:List (List DV)}{fb:Func}{e:Exit}(H:yj GB P l Jv Jx E)(hp:Pl C)(hJ:Jv E.length C.G0 C.w0\/Jx C.G0 C.w0)(hr:fb.results.toList=[])(he:Aq e=true:=by rfl):
  ak P GB C n (DG P fb GB Jv Jx E.length) fr own (.ex e []):=by
 refine⟨fun ρ G ov a w r=>?_⟩;have hj:Jv E.length G w\/Jx G w:=hJ.imp (fun h=>(H.st _).on _ _ _ _ h (r.h.pl hp)) fun h=>H.sx.on _ _ _ _ h (r.h.pl hp);have hr':jk P (cF a) ov fb.results.toList []:=by rw[hr];exact .nil
 cases e with
 |ret=>exact⟨r.df.trans hp.mks,_,q6 hr' (cP a) r.h,G,r.gb,⟨_,J⟩,hj⟩
 |normal=>exact⟨r.df.trans hp.mks,_,q6 hr' (cP a) r.h,G,r.gb,⟨_,J⟩,hj⟩
 |_=>cases he
def Y'{P:Program}{fo:Operand}{args:Array Operand}{tys:Array TypeId}{vs:List Value}{a:Act}{w:World}{fr:Fr}{l:Nat}{dst:Option Nat}{ty':TypeId}{pos:String}{af:Array Edge}{gd:Option (Nat×Bool)}(hf:jD fr a)(ho:av fr fo=some (.func (.yield l) ⟨[]⟩ ⟨[]⟩))(hv:fy fr args.toList=some vs):
  (execOp a.eval ⟨dst, .call ⟨.value fo,args,tys⟩,ty',pos,af,gd⟩).run P w=(Instr.yield l ⟨vs⟩).run P w:=by
 have e:args.map a.eval=⟨vs⟩:=by apply Array.ext';simpa using x6 hf hv
 simp only[execOp,resolve,bh hf ho,e,Deferred.ofValue];show(invoke (.fn (.yield l) ⟨[]⟩) (⟨[]⟩++⟨vs⟩)).run P w=_;simp only[invoke];rw[show((⟨[]⟩:Array Value)++⟨vs⟩)=⟨vs⟩ by simp]
def mr:aw->aw
 |[]=>[]
 |(k,f)::t=>match f with
  | .ov .. =>mr t
  | .rw .. =>mr t
  | .be .. =>mr t
  | .rs .. =>mr t
  | .bx .. =>mr t
  | .no=>mr t
  |f=>(k,f)::mr t
def N7(k:Nat):aw->Bool
 |[]=>false
 |(j,_)::t=>Nat.beq j k||N7 k t
def VW:aw->Bool
 |[]=>true
 |(k,_)::t=>!N7 k t&&VW t
def K9(fr:aw)(ops:Array Oper)(o:Oper):Option (Nat×List DV×Nat):=match o with
 |⟨some d, .call ⟨.value fo,args,_⟩,_,_,_,none⟩=>match aI (bc fr) fo,evDs (bc fr) args.toList with
  |some (.d (.v (.func (.yield l) ⟨[]⟩ ⟨[]⟩))),some ds=>some (l,ds,d)
  |_,_=>none
 |_=>none
def cy[fu1:Fu][fu2:Fu]{l d k:Nat}{Jv:Nat->Gh->World->Prop}{Jx:Gh->World->Prop}{E:List (List DV)}{ds:List DV}{fr1 fr2:aw}{own1 own2:aH}{cf1 cf2:Cf}{vc1 vc2:List Prop}(frd:aw)(H:yj GB prog l Jv Jx E)(hp:Pl C)(hJ:Jv k C.G0 C.w0)(ha:K9 fr ops o=some (l,ds,d))(hE:E[k]? =some ds)(hd:b7 n (some d)=true)
  (hfd:rG frd fr)(hnd:mr frd=frd)
  (g1:go tt n fu1.n [] ((d, .tt)::frd) [] (.ops ops r K)=⟨vc1,fr1,own1,cf1⟩)(g2:go tt n fu2.n [] ((d, .ff)::frd) [] (.ops ops r K)=⟨vc2,fr2,own2,cf2⟩)
  (k1: ∀C',Pl C'->Jv (k+1) C'.G0 C'.w0->ak prog GB C' n Q0 fr1 own1 cf1)(k2: ∀C',Pl C'->Jx C'.G0 C'.w0->ak prog GB C' n Q0 fr2 own2 cf2)
  (v1:ah vc1:=by first|exact trivial|(simp only[ah];kernel_rfl)|(simp only[ah];omega))(v2:ah vc2:=by first|exact trivial|(simp only[ah];kernel_rfl)|(simp only[ah];omega)):
  ak prog GB C n Q0 fr own (.ops ops (o::r) K):=by
 unfold K9 at ha;split at ha<;>try (cases ha;done)
 rename_i d0 fo args tys ty pos af;split at ha<;>cases ha;rename_i h1 h2;have nmd: ∀{f:aw},mr f=f-> ∀k x,bc f k=some x->x.nm=none:=by
  have len: ∀f:aw,(mr f).length<=f.length:=fun f=>by
   induction f with
   |nil=>exact aL _
   |cons e t ih=>obtain⟨j,x⟩:=e;cases x<;>simp only[mr,bT]<;>omega
  intro f
  induction f with
  |nil=>intro _ k x e;cases e
  |cons e t ih=>
   obtain⟨j,y⟩:=e;intro hd k x hx;rw[i7] at hx;have:=len t;split at hx
   ·cases hx
    cases y<;>first|rfl|(have:=congrArg List.length hd;simp only[mr,bT] at this;omega)
   ·refine ih ?_ k x hx
    cases y<;>first|exact(List.cons.inj hd).2|(have:=congrArg List.length hd;simp only[mr,bT] at this;omega)
 refine⟨fun ρ G ov a w rl=>?_⟩;have hJG:Jv k G w:=(H.st k).on _ _ _ _ hJ (rl.h.pl hp);obtain⟨y,hy,hy'⟩:=rl.ev h1;rw[(aG (G:=G)).1 hy'] at hy;obtain⟨vs,h3,h4⟩:=rl.evDs h2;obtain⟨fn,tmps,assign,body,hrun,hround⟩:=H.yd k ds G w vs hE rl.gb hJG h4;rw[hp.rd];simp only[wpListIn];rw[if_pos (by rfl)];refine⟨fun _ _=>trivial,?_⟩;have hs: ∀o:Oper,Oper.semAt (FW none).round a.eval o=execOp a.eval o:=fun _=>J;rw[hs,Y' (cP a) hy h3,hrun];refine⟨fun h=>(by cases h),hround.mono fun e w' he=>?_⟩;obtain⟨G',hg,he⟩:=he;have rel: ∀(b:Bool) (f:FX),(∀ρ,bP ρ G' f (.bool b))->Hh G' w'->bE GB (jy w' G') n (bc ((d,f)::frd)) (bj []) ρ G' [] (a.put (some d) (.bool b)) w':=fun b f hfb hz=>by
  have pa:=rl.putA (dst:=some d) (.bool b) hd;refine⟨rl.gb.trans hg,B6 hz,pa.sz,by rw[pa.df];exact hp.mks,fun k g e=>?_,(fun nm B e=>by cases e),(fun nm nm' B B' e=>by cases e),fun nm p _ _ e=>by cases e⟩;have e':dP (bc frd) (some d) f k=some g:=by
   rw[i7] at e;simp only[dP];split at e
   ·rename_i hk;rw[if_pos hk];exact e
   ·rename_i hk;rw[if_neg hk];exact e
  refine pa.fx (fun k g _ e=>?_) (hfb ρ) k g e';obtain⟨u,h5,h6⟩:=rl.fx k g (um hfd k g e);exact⟨u,h5,h6.up hg⟩
 rcases he with⟨rfl,hj⟩|⟨rfl,hj⟩
 ·exact(fg (GB:=GB) (C:=jy w' G') (Q0:=Q0) g1 v1 (k1 (jy w' G') ⟨J,J,J⟩ hj)).run ρ G' [] _ w' (rel true .tt (fun _=>J) ((H.st _).frz _ _ hj))
 ·exact(fg (GB:=GB) (C:=jy w' G') (Q0:=Q0) g2 v2 (k2 (jy w' G') ⟨J,J,J⟩ hj)).run ρ G' [] _ w' (rel false .ff (fun _=>J) (H.sx.frz _ _ hj))
def JD(GB:Gh)(n:Nat){X:Type}(F:X->aw)(I:X->aD->Prop)(a:Act)(w:World):Prop:=
 ∃C x ρ G ov,Pl C/\I x C/\bE GB C n (bc (F x)) (bj []) ρ G ov a w
def PD[fu:Fu]{c:Code}{X:Type}(F:X->aw)(I:X->aD->Prop)(μ:X->Nat)(x0:X){cf':X->Cf}{fr':X->aw}{own':X->aH}{vc:X->List Prop}(hp:Pl C)(hI:I x0 C)
  (hgo: ∀x,go tt n fu.n [] (F x) [] (.code c (.ag (JD GB n F (fun y C=>I y C/\μ y<μ x))::K))=⟨vc x,fr' x,own' x,cf' x⟩)
  (round: ∀x C,Pl C->I x C->ak prog GB C n Q0 (fr' x) (own' x) (cf' x))(hF:rG (F x0) fr:=by repeat (first|exact trivial|refine And.intro J ?_|refine And.intro (nn J (by first|omega|(dsimp only;omega))) ?_|refine And.intro (nn J (by simp)) ?_))
  (hv: ∀x C,I x C->ah (vc x):=by intros;first|exact trivial|(simp only[ah];kernel_rfl)|(simp only[ah];omega)|(simp only[ah,aJ,aT,aV];omega)):ak prog GB C n Q0 fr own (.code (.loop c) K):=by
 refine⟨fun ρ G ov a w r=>?_⟩;have r0:=r.mono (bk:=bj []) (um hF) (fun k x e=>by cases e);rw[hp.rd];intro b k cs hro hb hrm;have key: ∀m a w,(∃C x ρ G ov,Pl C/\I x C/\μ x=m/\bE GB C n (bc (F x)) (bj []) ρ G ov a w)->
   ∃e a' w',cQ none prog Q0 K e a' w'/\ArrivesIn (Machine.fenced prog (FW none)) prog (lone (b.atR a (.code c:: .inLoop c::k)) cs w) b k cs e a' w':=by
  intro m
  induction m using Nat.strongRecOn with
  |_ m ih=>
   intro a w ⟨C,x,ρ,G,ov,hpc,hx,hm,hr⟩;have h1:=fg (GB:=GB) (C:=C) (Q0:=Q0) (hgo x) (hv x C hx) (round x C hpc hx);have h2:=h1.run ρ G ov a w hr;rw[hpc.rd] at h2;obtain⟨e,a₁,w₁,hq,harr⟩:=h2 b (.inLoop c::k) cs hro hb hrm
   cases e with
   |normal=>
    obtain⟨C',x',ρ',G',ov',hpc',⟨hx',hlt⟩,hr'⟩:=hq;obtain⟨e₂,a₂,w₂,hq₂,harr₂⟩:=ih (μ x') (hm▸hlt) a₁ w₁ ⟨C',x',ρ',G',ov',hpc',hx',rfl,hr'⟩;exact⟨e₂,a₂,w₂,hq₂, .of_steps (StepsIn.trans harr (.one (fenced_calm hb hrm J) stepR_inLoop)) harr₂⟩
   |exit id=>exact⟨_,a₁,w₁,hq, .pass (x:= .inLoop c) J (fun _ _=> .inl (by simp)) harr⟩
   |goto l=>exact⟨_,a₁,w₁,hq, .pass (x:= .inLoop c) J (fun _ _=> .inl (by simp)) harr⟩
   |ret=>exact⟨_,a₁,w₁,hq, .pass (x:= .inLoop c) J (fun _ _=> .inl (by simp)) harr⟩
   |panic ch=>exact⟨_,a₁,w₁,hq, .pass (x:= .inLoop c) J (fun _ _=> .inl (by simp)) harr⟩
   |outgrown=>exact⟨_,a₁,w₁,hq, .pass (x:= .inLoop c) J (fun _ _=> .inl (by simp)) harr⟩
 obtain⟨e,a',w',q,rr⟩:=key (μ x0) a w ⟨C,x0,ρ,G,ov,hp,hI,rfl,r0⟩;exact⟨e,a',w',q, .of_steps (.one (fenced_calm hb hrm J) stepR_loop) rr⟩
def Uw{P:Program}{X:Type}{F:X->aw}{I:X->aD->Prop}(x:X)(hp:Pl C)(hI:I x C)(hF:rG (F x) fr:=by repeat (first|exact trivial|refine And.intro J ?_|refine And.intro (nn J (by first|omega|(dsimp only;omega))) ?_|refine And.intro (nn J (by simp)) ?_)):ak P GB C n Q0 fr own (.ex .normal (.ag (JD GB n F I)::K)):=
 ⟨fun ρ G ov a w r=>⟨C,x,ρ,G,ov,hp,hI,r.mono (um hF) (fun k x e=>by cases e)⟩⟩
end
section
variable {GB:Gh} {C:aD} {n:Nat} {Q0:Exit->Act->World->Prop} {fr fr':aw} {own own':aH} {cf cf':Cf} {vc:List Prop} {ops:Array Oper} {r:List Oper} {K:List Kt}
def UB{x y:Nat}{Φ:Act->World->Prop}{R:y8}(hfx:C.fx=fun _=>none)(h:wX x y fr own=some R)(hk:SX GB C n (bc R.fr) (bj R.own) Φ):SX GB C n (bc fr) (bj own) Φ:=by
 unfold wX at h;rw[cond_eq_ite] at h;split at h<;>try (cases h;done)
 rename_i hb;have hxy:x≠y:=fun e=>hb (by subst e;simp);rw[D7,GQ] at h;cases h;refine⟨fun ρ G ov a w r=>hk.run (fun k=>if k=y then ρ x else ρ k) G ov a w ?_⟩;have inv: ∀m B,bj (own.map fun e=>(bif Nat.beq e.1 y then x else bif Nat.beq e.1 x then y else e.1,bif Nat.beq e.1 y then none else pi x y e.2)) m=some B-> ∃m0 B0,bj own m0=some B0/\pi x y (some B0)=some B/\(m=y/\m0=x\/m≠y/\m≠x/\m0=m):=fun m B e=>by
  rw[FJ hxy] at e;split at e
  ·cases e
  ·rename_i hm
   split at e
   ·cases hl:bj own x with
    |none=>rw[hl] at e;cases e
    |some B0=>rw[hl] at e;exact⟨x,B0,hl,e, .inl ⟨by assumption,J⟩⟩
   ·cases hl:bj own m with
    |none=>rw[hl] at e;cases e
    |some B0=>rw[hl] at e;exact⟨m,B0,hl,e, .inr ⟨by assumption,hm,J⟩⟩
 have rho: ∀m m0,(m=y/\m0=x\/m≠y/\m≠x/\m0=m)->(fun k=>if k=y then ρ x else ρ k) m=ρ m0:=fun m m0 h=>by
  rcases h with⟨h1,h2⟩|⟨h1,_,h2⟩
  ·subst h1 h2;simp
  ·subst h2;exact if_neg h1
 refine⟨r.gb,r.h,r.sz,r.df,fun k f e=>?_,fun m B e=>?_,fun m m' B B' e e' hne=>?_,fun m p _ _ e=>by rw[hfx] at e;cases e⟩
 ·rw[AJ] at e
  cases hf:bc fr k with
  |none=>rw[hf] at e;cases e
  |some g=>
   rw[hf] at e;cases e;obtain⟨v,h1,h2⟩:=r.fx k g hf;exact⟨v,h1,ES hxy h2⟩
 ·obtain⟨m0,B0,h1,h2,h3⟩:=inv m B e
  obtain⟨os,h4,h5⟩:=r.bx m0 B0 h1;refine⟨os,?_,h5⟩;have hr:=rho m m0 h3
  cases B0 with
  |b=>cases h2;obtain⟨vs,q1,q2,q3,q4⟩:=h4;exact⟨vs,by rw[hr];exact q1,q2,q3,q4⟩
  |c=>cases h2;obtain⟨vs,q1,q2,q3,q4,q5⟩:=h4;exact⟨vs,by rw[hr];exact q1,q2,q3,q4,by rw[hr];exact q5⟩
  |o ty cs lo=>cases h2;obtain⟨b,q,q1,q2,q3⟩:=h4;exact⟨b,q,by rw[hr];exact q1,q2,He hxy q3⟩
 ·obtain⟨m0,B0,h1,_,h3⟩:=inv m B e
  obtain⟨m1,B1,h4,_,h6⟩:=inv m' B' e';have q1:=rho m m0 h3;have q2:=rho m' m1 h6;simp only at q1 q2;rw[q1,q2];refine r.dj m0 m1 B0 B1 h1 h4 fun e=>?_;rcases h3 with⟨h7,h8⟩|⟨h7,h8,h9⟩<;>rcases h6 with⟨g7,g8⟩|⟨g7,g8,g9⟩
  ·exact hne (h7.trans g7.symm)
  ·exact g8 (by rw[<-g9,<-e,h8])
  ·exact h8 (by rw[<-h9,e,g8])
  ·exact hne (by rw[<-h9,e,g9])
def EQ{P:Program}(x y:Nat){fr1:aw}{own1:aH}{c:Code}(hfx:C.fx=fun _=>none)(h:wX x y fr own=some ⟨fr1,own1⟩)(k:ak P GB C n Q0 fr1 own1 (.code c K)):ak P GB C n Q0 fr own (.code c K):=UB hfx h k
def Es(P:Program)(fb:Func)(R:Ending->World->Prop):Exit->Act->World->Prop:=bodyPostM (FW none) 0 P fb R
structure CU (C:aD):Prop where
 mks:C.mks=[]
 rd:C.rd=none
 fx:C.fx=fun _=>none
def Nx[fu:Fu]{f:FuncId}{fb:Func}{c:Code}{m:Nat}{ds:List DV}{rv:DV}(hf:prog.funcs[f]? =some fb)(hb:fb.body=some c)(hn:(fb.name== "runtime.NumGoroutine")=false)(hm:fb.ntmps=m)(hlen:Nat.ble ds.length m=true)
  (hgo:go tt m fu.n [] (pE 0 ds) [] (.code c [])=⟨vc,fr,own,cf⟩)(k: ∀C:aD,CU C->ak prog GB C m (Es prog fb (iI C (fun v G'=>Is G' rv v))) fr own cf)
  (hv:ah vc:=by first|exact trivial|(simp only[ah];kernel_rfl)|(simp only[ah];omega)|(simp only[ah,aJ,aT,aV];omega)):PF GB prog f ds rv:=by
 intro G vs hg hvs;refine⟨⟨fb,hf,hn,by simp[hb]⟩,fun w hw=>?_⟩;have hlen':vs.length<=m:=by rw[hvs.len];simpa using hlen
 have h:=fg (GB:=GB) (C:=jy w G) (Q0:=Es prog fb (iI (jy w G) (fun v G'=>Is G' rv v))) hgo hv (k (jy w G) ⟨J,J,J⟩);refine(callsIn_wide (n:=0)).1 (callsIn_of_wp_marks (F:=FW none) (n:=0) hf hb trivial ?_);refine h.run (fun _=>⟨none,0,0⟩) G [] _ w ⟨hg,B6 hw,by simp;omega,J,fun k f e=>ve hvs (fun k v hk=>?_) k f e,(fun nm B e=>by cases e),(fun nm nm' B B' e=>by cases e),fun nm p _ _ e=>by cases e⟩;obtain⟨j,rfl,hj⟩:=rO vs 0 k v hk;have hj':=(aS.1 hj).1;rw[iL (by simpa using hj')];simpa using hj
def aD.mk3(C:aD)(D:Nat):aD:={C with ex:=(D, .deferred (some []))::C.ex,mks:=[{target:= .collected D,args:= #[]}]}
def JG{fb:Func}{e:Exit}{ds:List DV}{rv:DV}{D:Nat}(hD:C.w0.heap.size<=D)(hx: ∀p∈C.ex,p.1≠D)(hr:oy tt fr own fb.results.toList=some ds)(hd:gH ds=rv)(he:Aq e=true:=by rfl):ak prog GB (C.mk3 D) n (Es prog fb (iI C (fun v G'=>Is G' rv v))) fr own (.ex e []):=by
 refine⟨fun ρ G ov a w r=>?_⟩;obtain⟨vs,h1,h2⟩:=zg r hr;have hk:Is G rv (f9 vs):=hd▸zk h2;have hex:((D,Obj.deferred (some [])):Nat×Obj)∈(C.mk3 D).ex:=aQ;have h3:bm C ov G (w.putObj D (.deferred none)):=r.h.putx hex hD (fun _ _ _ h=>by cases h) J J J fun p hp=> .inr ⟨aZ _ hp,hx p hp⟩;have hres:=q6 (C:=C) (G:=G) (own:=ov) (w:=w.putObj D (.deferred none)) h1 (cP a) h3;have key:LeavesInM (FW none) 0 prog fb a.tmps (iI C (fun v G'=>Is G' rv v)) a.defers .returning w:=by
  rw[r.df];exact⟨by simp, .inl ⟨D,_,J,run_takeDeferred (r.h.ext _ hex).2,_,hres,_,G,J,h3.drop (jS _),hk⟩⟩
 cases e with
 |ret=>exact key
 |normal=>exact key
 |_=>cases he
end
section
variable {GB:Gh} {C:aD} {n:Nat} {Q0:Exit->Act->World->Prop} {fr fr':aw} {own own':aH} {cf cf':Cf} {vc:List Prop} {ops:Array Oper} {r:List Oper} {K:List Kt}
def bE.later{lk:LK}{bk:BM}{ρ:NE}{G G1:Gh}{ov:List aj}{a:Act}{w w1:World}(r:bE GB C n lk bk ρ G ov a w)(h:bm (jy w G) [] G1 w1):bE GB C n lk bk ρ G1 ov a w1:=
 ⟨r.gb.trans h.gle,r.h.called h,r.sz,r.df,fun k f e=>by obtain⟨y,h1,h2⟩:=r.fx k f e;exact⟨y,h1,h2.up h.gle⟩,fun nm B e=>by obtain⟨os,h1,h2⟩:=r.bx nm B e;exact⟨os,h1.up h.gle,h2⟩,r.dj,r.fxd⟩
def xy:List Nat->List DV->aw->aw
 |p::ps,d::ds,fr=>xy ps ds ((p, .d d)::fr)
 |_,_,fr=>fr
def OQ{ρ:NE}{G:Gh}: ∀{ps:List Nat} {ds:List DV} {ys tm:List Value} {fr:aw},IsLs G ds ys->(∀p∈ps,p<tm.length)->(∀k f,bc fr k=some f-> ∃y,tm[k]? =some y/\bP ρ G f y)->
  ((ps.zip ys).foldl (fun t e=>t.set e.1 e.2) tm).length=tm.length/\ ∀k f,bc (xy ps ds fr) k=some f-> ∃y,((ps.zip ys).foldl (fun t e=>t.set e.1 e.2) tm)[k]? =some y/\bP ρ G f y
 |[],ds,ys,tm,fr,_,_,h=>⟨J,fun k f e=>h k f (by cases ds<;>exact e)⟩
 |p::ps,[],ys,tm,fr,hd,_,h=>by rw[cA.1 hd];exact⟨J,fun k f e=>h k f e⟩
 |p::ps,d::ds,ys,tm,fr,hd,hp,h=>by
  obtain⟨y,m,rfl,h1,h2⟩:=ba.1 hd;simp only[List.zip_cons_cons,dS,xy];have:=OQ (ps:=ps) (ds:=ds) (ys:=m) (tm:=tm.set p y) (fr:=(p, .d d)::fr) h2 (fun q hq=>by rw[aT];exact hp q (aZ _ hq)) fun k f e=>by
   rw[i7] at e;split at e
   ·rename_i hk;subst hk;cases e
    exact⟨y,by rw[nQ];rw[if_pos J,if_pos (hp k aQ)],h1⟩
   ·rename_i hk
    obtain⟨u,h3,h4⟩:=h k f e;exact⟨u,by rw[nQ];rw[if_neg (fun e=>hk e.symm)];exact h3,h4⟩
  rw[aT] at this;exact this
def MB: ∀(l:List (Nat×Value)) (t:Array Value),(l.foldl (fun t e=>t.setIfInBounds e.1 e.2) t).toList=l.foldl (fun t e=>t.set e.1 e.2) t.toList
 |[],t=>rfl
 |e::l,t=>by simp only[dS];rw[MB l];simp
def Gg:FX->Bool
 | .ov nm _=>Nat.ble 2000000 nm
 | .rw _=>false
 | .be .. =>false
 | .rs .. =>false
 | .bx .. =>false
 |_=>true
def Bt:aw->Bool
 |[]=>true
 |(_,f)::t=>Gg f&&Bt t
def Kf: ∀{fr:aw},Bt fr=true-> ∀k f,bc fr k=some f->Gg f=true
 |[],_,k,f,e=>by cases e
 |(j,g)::t,h,k,f,e=>by
  simp only[Bt,aN] at h;rw[i7] at e;split at e
  ·cases e;exact h.1
  ·exact Kf h.2 k f e
def Ov(GB:Gh)(C:aD)(n:Nat)(fr:aw)(own:aH)(a:Act)(w:World):Prop:= ∃ρ G ov,bE GB C n (bc fr) (bj own) ρ G ov a w
def atR{P:Program}:ak P GB C n Q0 fr own (.ex .normal (.ag (Ov GB C n fr own)::K)):=⟨fun ρ G ov a w r=>⟨ρ,G,ov,r⟩⟩
def RQ(GB:Gh)(C:aD)(n:Nat)(p:Prop)(O:aH){σ:Type}(S:σ->aH)(q:σ->Prop):Exit->Act->World->Prop
 | .normal,a,w=>p/\ ∃ρ G ov,bE GB C n (fun _=>none) (bj O) ρ G ov a w
 | .ret,a,w=> ∃s,q s/\ ∃ρ G ov,bE GB C n (fun _=>none) (bj (S s)) ρ G ov a w
 |_,_,_=>False
def rq{P:Program}{p:Prop}{O:aH}{σ:Type}{S:σ->aH}{q:σ->Prop}(hp:p)(hO:uU O own:=by repeat (first|exact trivial|refine And.intro J ?_)):ak P GB C n (RQ GB C n p O S q) fr own (.ex .normal []):=
 ⟨fun ρ G ov a w r=>⟨hp,ρ,G,ov,r.mono (fun k x e=>by cases e) (tL hO)⟩⟩
def IM{P:Program}{g:Operand}{ps:Array Nat}{assign body:Code}{gf:FuncId}{caps:List Value}{ds:List DV}{E:List (List DV)}{σ:Type}(I:Nat->aH)(p:Nat->Prop)(S:σ->aH)(q:σ->Prop)(fr1:aw)
  (h0:CU C)(hg:aI (bc fr) g=some (.d (.v (.func (.func gf) ⟨[]⟩ ⟨caps⟩))))(hIt:It GB P gf ds E)(hc:IsLs GB ds caps)
  (hfr:rG fr1 fr)(hfix:Bt fr1=true)(hO:uU (I 0) own)(hp:p 0)(hps: ∀e∈E,e.length=ps.size)(hpn:ps.toList.all (fun k=>Nat.blt k n)=true)(hn2:Nat.ble n 2000000=true)
  (round: ∀k e GB',E[k]? =some e->bz GB GB'->p k-> ∃fr2 own2,(∀C2,ak P GB' C2 n (fun _ _ _=>False) (xy ps.toList e fr1) (I k) (.code assign [.ag (Ov GB' C2 n fr2 own2)]))/\ ∀C2,ak P GB' C2 n (RQ GB' C2 n (p (k+1)) (I (k+1)) S q) fr2 own2 (.code body []))
  (after: ∀D,C.w0.heap.size<=D->(∀x∈C.ex,x.1≠D)->p E.length->ak P GB (C.mk3 D) n Q0 fr1 (I E.length) (.ex .normal K))
  (early: ∀D s,C.w0.heap.size<=D->(∀x∈C.ex,x.1≠D)->q s->ak P GB (C.mk3 D) n Q0 fr1 (S s) (.ex .ret K)):
  ak P GB C n Q0 fr own (.code (.rangeFunc g ps assign body) K):=by
 refine⟨fun ρ0 G0 ov0 a w r=>?_⟩;rw[h0.rd];refine wpIn_rangeFunc fun fn _=>?_;obtain⟨y,hy,hy'⟩:=r.ev hg;rw[(aG (G:=G0)).1 hy'] at hy;have hev:=bh (cP a) hy
 let D:=w.heap.size
 let l:=w.heap.size+1
 let rec_:Loop:={state:= .ready,pending:=none,fn,tmps:=a.tmps,params:=ps,assign,body,defers:=D}
 let w2:=(w.alloc (.deferred (some []))).alloc (.loop rec_)
 let mk:Deferred:={target:= .collected D,args:= #[]}
 let fx1:Nat->Option Addr:=fun nm=>(ρ0 nm).a
 let C1:Loop->aD:=fun rc=>{C with ex:=(l, .loop rc)::(D, .deferred (some []))::C.ex,mks:=[mk],fx:=fx1}
 let a0:Act:={a with defers:=[mk]++a.defers}
 have hszD:C.w0.heap.size<=D:=r.h.size;have hlt: ∀x∈C.ex,x.1<D:=fun x hx=>f8 (r.h.ext x hx).2;have hszl:C.w0.heap.size<=l:=Nat.le_succ_of_le hszD;have hnl: ∀x∈((D,Obj.deferred (some []))::C.ex:List (Nat×Obj)),x.1≠l:=fun x hx=>by
  rcases aW.1 hx with rfl|hx
  ·show D≠D+1;omega
  ·have:=hlt x hx;show x.1≠D+1;omega
 have ncl: ∀rc:Loop,Ga (.loop rc):=fun rc _ _ _ h=>by cases h
 -- the slots of the loop, at any time
 have stat: ∀(ρ':NE) (G':Gh),bz G0 G'->(∀nm p,n<=nm->2000000<=nm->fx1 nm=some p->(ρ' nm).a=some p)-> ∀k f,bc fr1 k=some f-> ∃y,a.tmps[k]? =some y/\bP ρ' G' f y:=by
  intro ρ' G' hg' hf k f e;obtain⟨y,h1,h2⟩:=r.fx k f (um hfr k f e);refine⟨y,h1,?_⟩;have hx:=Kf hfix k f e
  cases f with
  |ov nm off=>
   obtain⟨b,h3,h4⟩:=h2;have h5:2000000<=nm:=by simpa[Gg] using hx
   have h6:n<=2000000:=by simpa using hn2
   exact⟨b,hf nm _ (by omega) h5 h3,h4⟩
  |rw _=>cases hx
  |be _ _ _ _=>cases hx
  |rs _ _ _ _=>cases hx
  |bx _ _ _ _=>cases hx
  |_=>exact(h2.up hg').ren fun _ h=>by cases h
 let Jv:Nat->Gh->World->Prop:=fun k G' w'=>p k/\ ∃ρ ov,bE G0 (C1 rec_) n (bc fr1) (bj (I k)) ρ G' ov a0 w'
 let rcx:Loop:={rec_ with state:= .done,pending:=some .ret}
 let Jx:Gh->World->Prop:=fun G' w'=> ∃s,q s/\ ∃ρ ov,bE G0 (C1 rcx) n (bc fr1) (bj (S s)) ρ G' ov a0 w'
 have hsz0:a0.tmps.size=n:=r.sz;have hdf0:a0.defers=[mk]:=by show [mk]++a.defers=_;rw[r.df,h0.mks];rfl
 have H:yj G0 P l Jv Jx E:=by
  refine⟨fun k=>⟨fun G' w' ⟨_,ρ,ov,h⟩=>h.h.sub,fun G' w' G1 w1 ⟨h1,ρ,ov,h⟩ k=>⟨h1,ρ,ov,h.later k⟩⟩,⟨fun G' w' ⟨_,_,ρ,ov,h⟩=>h.h.sub,fun G' w' G1 w1 ⟨s,h1,ρ,ov,h⟩ k=>⟨s,h1,ρ,ov,h.later k⟩⟩,?_⟩;intro k e G' w' ys hE hgg ⟨hpk,ρ,ov,r1⟩ hys;have hrec:w'.heap[l]? =some (.loop rec_):=(r1.h.ext _ aQ).2;have hel:=hps e (bZ hE);obtain⟨fr2,own2,hA,hB⟩:=round k e G' hE (r.gb.trans hgg) hpk;refine⟨_,_,_,_,run_yield hrec (by show ys.length=ps.size;rw[hys.len,hel]),roundIn_of_wpIn trivial ?_⟩
  let C2:aD:={C1 rec_ with mks:=[],rd:=some l}
  let tm:Array Value:=(ps.zip (⟨ys⟩:Array Value)).foldl (fun tmps (t,a)=>tmps.setIfInBounds t a) a.tmps
  have htm:tm.toList=(ps.toList.zip ys).foldl (fun t e=>t.set e.1 e.2) a.tmps.toList:=by
   simp only[tm];rw[<-qY,Array.toList_zip];exact MB _ _
  have hfx0:=r1.fx;obtain⟨q1,q2⟩:=OQ (ρ:=ρ) (ps:=ps.toList) (tm:=a.tmps.toList) (fr:=fr1) hys (fun k hk=>by have:=fJ.1 hpn k hk;rw[iV,r.sz];simpa[mJ] using this) fun k f e=>by
   obtain⟨y,h1,h2⟩:=hfx0 k f e;exact⟨y,by simpa using h1,h2⟩
  have hR0:bE G' C2 n (bc (xy ps.toList e fr1)) (bj (I k)) ρ G' ov {tmps:=tm,defers:=[]} w':=by
   refine⟨bz.refl _,r1.h.ctx J J J (fun _ h=>h),?_,J,fun k f e=>?_,r1.bx,r1.dj,r1.fxd⟩
   ·show tm.size=n
    rw[<-iV,htm,q1,iV,r.sz]
   ·obtain⟨y,h1,h2⟩:=q2 k f e
    exact⟨y,by rw[<-htm] at h1;simpa using h1,h2⟩
  refine wpIn_mono ((hA C2).run ρ G' ov _ w' hR0) fun ex a1 w1 hex=>?_
  cases ex with
  |normal=>
   obtain⟨ρ2,G2,ov2,r2⟩:=hex;have hrec1:w1.heap[l]? =some (.loop rec_):=(r2.h.ext _ aQ).2;refine⟨_,run_beginRound hrec1 J,?_⟩
   let busy:Loop:={rec_ with state:= .busy}
   let C3:aD:={C1 busy with mks:=[],rd:=some l}
   have h3:bm C3 ov2 G2 (w1.putObj l (.loop busy)):=r2.h.putx aQ hszl (ncl _) J J J fun x hx=>by
    rcases aW.1 hx with rfl|hx
    ·exact .inl J
    ·exact .inr ⟨aZ _ hx,hnl x hx⟩
   refine wpIn_mono ((hB C3).run ρ2 G2 ov2 a1 (w1.putObj l (.loop busy)) ⟨r2.gb,h3,r2.sz,r2.df,r2.fx,r2.bx,r2.dj,r2.fxd⟩) fun ex a2 w3 hex=>?_
   cases ex with
   |normal=>
    obtain⟨hp1,ρ3,G3,ov3,r3⟩:=hex;have hrec3:w3.heap[l]? =some (.loop busy):=(r3.h.ext _ aQ).2;refine⟨_,_,run_endRound none hrec3,G3,r3.gb, .inl ⟨J,hp1,ρ3,ov3,hgg.trans r3.gb,?_,hsz0,hdf0,stat ρ3 G3 (hgg.trans r3.gb) r3.fxd,r3.bx,r3.dj,r3.fxd⟩⟩;exact r3.h.putx aQ hszl (ncl _) J J J fun x hx=>by
     rcases aW.1 hx with rfl|hx
     ·exact .inl J
     ·exact .inr ⟨aZ _ hx,hnl x hx⟩
   |ret=>
    obtain⟨s,hq,ρ3,G3,ov3,r3⟩:=hex;have hrec3:w3.heap[l]? =some (.loop busy):=(r3.h.ext _ aQ).2;refine⟨_,_,run_endRound (some .ret) hrec3,G3,r3.gb, .inr ⟨J,s,hq,ρ3,ov3,hgg.trans r3.gb,?_,hsz0,hdf0,stat ρ3 G3 (hgg.trans r3.gb) r3.fxd,r3.bx,r3.dj,r3.fxd⟩⟩;exact r3.h.putx aQ hszl (ncl _) J J J fun x hx=>by
     rcases aW.1 hx with rfl|hx
     ·exact .inl J
     ·exact .inr ⟨aZ _ hx,hnl x hx⟩
   |exit id=>exact hex.elim
   |goto t=>exact hex.elim
   |panic ch=>exact hex.elim
   |outgrown=>exact hex.elim
  |exit id=>exact hex.elim
  |goto t=>exact hex.elim
  |ret=>exact hex.elim
  |panic ch=>exact hex.elim
  |outgrown=>exact hex.elim
 have hC1:bm (C1 rec_) ov0 G0 w2:=by
  have h1:bm {C with ex:=(D, .deferred (some []))::C.ex} ov0 G0 (w.alloc (.deferred (some []))):=r.h.addx (fun _ _ _ h=>by cases h) J J J fun x hx=>aW.1 hx;refine h1.addx (ncl rec_) J J J fun x hx=>?_;rcases aW.1 hx with rfl|hx
  ·exact .inl (by show((l,Obj.loop rec_):Nat×Obj)=_;rw[show(w.alloc (.deferred (some []))).heap.size=w.heap.size+1 by simp])
  ·exact .inr hx
 have hJ0:Jv 0 G0 w2:=⟨hp,ρ0,ov0,bz.refl _,hC1,hsz0,hdf0,stat ρ0 G0 (bz.refl _) (fun _ _ _ _ h=>h),fun nm B e=>r.bx nm B (tL hO nm B e),fun nm nm' B B' e e'=>r.dj nm nm' B B' (tL hO nm B e) (tL hO nm' B' e'),fun _ _ _ _ h=>h⟩;refine⟨l,[mk],w2,{target:= .fn (.func gf) ⟨caps⟩,args:= #[.func (.yield l) #[] #[]]},w2,gf, #[.func (.yield l) #[] #[]]++⟨caps⟩,w2,run_enterLoop_outer fn a.tmps ps assign body,?_,fun _ _=>trivial,?_,fun h=>(by cases h),?_⟩
 ·have he:(⟨[]⟩:Array Value)++Array.map a.eval #[.const (.func (.yield l) #[] #[])]= #[.func (.yield l) #[] #[]]:=by
   apply Array.ext';rw[Array.toList_append,nS];rfl
  simp only[resolve,hev,Deferred.ofValue];rw[he];rfl
 ·simp only[invoke]
  exact zj hIt.able _ _
 refine CallsIn.mono (show CallsIn (FW none) 0 P gf _ w2 _ from by
  have:=hIt.run l Jv Jx G0 r.gb H w2 caps hJ0 (hc.up r.gb);rw[show(#[Value.func (.yield l) #[] #[]]++(⟨caps⟩:Array Value))=⟨.func (.yield l) #[] #[]::caps⟩ by simp];exact this) fun e w3 he=>?_
 obtain⟨G',hgg,⟨v,rfl⟩,hj⟩:=he;have fin: ∀(rc:Loop) (O:aH) (ρ:NE) (ov:List aj),bE G0 (C1 rc) n (bc fr1) (bj O) ρ G' ov a0 w3->bE GB (C.mk3 D) n (bc fr1) (bj O) ρ G' ov a0 (w3.putObj l (.loop {rc with state:= .exhausted})):=fun rc O ρ ov r3=>
  ⟨r.gb.trans r3.gb,r3.h.putx aQ hszl (ncl _) J J J fun x hx=> .inr ⟨aZ _ hx,hnl x hx⟩,r3.sz,r3.df,r3.fx,r3.bx,r3.dj,fun nm p _ _ e=>by rw[show(C.mk3 D).fx=fun _=>none from h0.fx] at e;cases e⟩
 have hxD: ∀x∈C.ex,x.1≠D:=fun x hx e=>by have:=hlt x hx;omega
 rcases hj with⟨hpn,ρ,ov,r3⟩|⟨s,hq,ρ,ov,r3⟩
 ·have hrec3:w3.heap[l]? =some (.loop rec_):=(r3.h.ext _ aQ).2
  have:=(after D hszD hxD hpn).run ρ G' ov a0 _ (fin rec_ _ ρ ov r3);rw[show(C.mk3 D).rd=none from h0.rd] at this;exact⟨_,_,run_endLoop hrec3 (by simp[rec_]),this⟩
 ·have hrec3:w3.heap[l]? =some (.loop rcx):=(r3.h.ext _ aQ).2
  have:=(early D s hszD hxD hq).run ρ G' ov a0 _ (fin rcx _ ρ ov r3);rw[show(C.mk3 D).rd=none from h0.rd] at this;exact⟨_,_,run_endLoop hrec3 (by simp[rcx]),wpIn_ret this⟩
end
section
variable {GB:Gh} {C:aD} {n:Nat} {Q0:Exit->Act->World->Prop} {fr fr':aw} {own own':aH} {cf cf':Cf} {vc:List Prop} {ops:Array Oper} {o:Oper} {r:List Oper} {K:List Kt}
def HG(GB:Gh)(P:Program)(f:FuncId)(ds:List DV)(gf:FuncId)(dp:DV):Prop:=
 ∀G vs,bz GB G->IsLs G ds vs->Fn P f vs G fun v G'=> ∃pv,v= .func (.func gf) ⟨[]⟩ ⟨[pv]⟩/\Is G' dp pv
def Cz(gf:FuncId)(dp:DV)(v:Value)(G':Gh):Prop:= ∃pv,v= .func (.func gf) ⟨[]⟩ ⟨[pv]⟩/\Is G' dp pv
def WQ[fu:Fu]{f gf:FuncId}{fb:Func}{c:Code}{m:Nat}{ds:List DV}{dp:DV}(hf:prog.funcs[f]? =some fb)(hb:fb.body=some c)(hn:(fb.name== "runtime.NumGoroutine")=false)(hm:fb.ntmps=m)(hlen:Nat.ble ds.length m=true)
  (hgo:go tt m fu.n [] (pE 0 ds) [] (.code c [])=⟨vc,fr,own,cf⟩)(k: ∀C:aD,ak prog GB C m (fA C prog fb (iI C (Cz gf dp))) fr own cf)
  (hv:ah vc:=by first|exact trivial|(simp only[ah];kernel_rfl)|(simp only[ah];omega)):HG GB prog f ds gf dp:=by
 intro G vs hg hvs;refine Fn.introR hf hb hn hm (by rw[hvs.len];exact hlen) fun C _ _ hrd hfx=>?_;intro a w rl;refine vL hrd ?_;have h:=fg (GB:=GB) (C:=C) (Q0:=fA C prog fb (iI C (Cz gf dp))) hgo hv (k C);exact h.run (fun _=>⟨none,0,0⟩) G [] a w ⟨hg,rl.h,rl.sz,rl.df,(fun k f e=>ve hvs rl.fr k f e),(fun nm B e=>by cases e),(fun nm nm' B B' e=>by cases e),fun nm p _ _ e=>by rw[hfx] at e;cases e⟩
def Xm{P:Program}{fb:Func}{gf:FuncId}{dp:DV}{pv:Value}{t:Nat}(hr:fb.results.toList=[.tmp t])(hl:bc fr t=some (.d (.v (.func (.func gf) ⟨[]⟩ ⟨[pv]⟩))))(hp:Is GB dp pv):ak P GB C n (fA C P fb (iI C (Cz gf dp))) fr own (.ex .ret []):=by
 refine⟨fun ρ G ov a w r=>?_⟩;obtain⟨y,hy,hy'⟩:=r.ev (x:= .tmp t) hl;rw[(aG (G:=G)).1 hy'] at hy;exact zD (C:=C) (n:=n) (fr:=cF a) (own:=ov) (G:=G) (K:=Cz gf dp) (by rw[hr];exact .tmp hy .nil) ⟨pv,J,hp.up r.gb⟩ a w ⟨r.h,r.sz,cP a,r.df⟩
def I3(fr:aw)(cf:Cf):Option (FuncId×Value):=match b8 fr cf with
 |some ⟨_, .makeFunc (.func f) ⟨[]⟩ ⟨[x]⟩,_,_,_,_⟩=>match aI (bw fr cf) x with
  |some (.d (.v pv))=>some (f,pv)
  |_=>none
 |_=>none
def Td[fu:Fu]{f:FuncId}{pv:Value}(h:I3 fr cf=some (f,pv))(hgo:cB tt n fu.n fr own cf (.d (.v (.func (.func f) ⟨[]⟩ ⟨[pv]⟩))) [] []=⟨vc,fr',own',cf'⟩)(k:ak prog GB C n Q0 fr' own' cf')
  (hv:ah vc:=by first|exact trivial|(simp only[ah];kernel_rfl)|(simp only[ah];omega)):ak prog GB C n Q0 fr own cf:=by
 unfold I3 at h;split at h<;>try (cases h;done)
 rename_i hh;split at h<;>cases h;rename_i hx;exact us hh (.x1 hx fun ρ G ov a w y _ r h1 h2=>by
  rw[(aG (G:=G)).1 h2] at h1;exact⟨_,(aG (G:=G)).2 J,zl (l1:=[]) (l2:=[pv]) J (by simp[h1])⟩) hgo hv k
def Ka[fu:Fu]{f gf:FuncId}{ds:List DV}{dp:DV}{d:Nat}{fr':Value->aw}{own':Value->aH}{cf':Value->Cf}{vc:Value->List Prop}(ha:AN fr (.ops ops (o::r) K)=some (f,ds))(hdst:o.dst=some d)(hd:b7 n (some d)=true)(hF:HG GB prog f ds gf dp)
  (hgo: ∀pv,go tt n fu.n [] ((d, .d (.v (.func (.func gf) ⟨[]⟩ ⟨[pv]⟩)))::fr) own (.ops ops r K)=⟨vc pv,fr' pv,own' pv,cf' pv⟩)
  (k: ∀GB' pv,bz GB GB'->Is GB' dp pv->ak prog GB' C n Q0 (fr' pv) (own' pv) (cf' pv))
  (hv: ∀pv,ah (vc pv):=by intros;first|exact trivial|(simp only[ah];kernel_rfl)|(simp only[ah];omega)):ak prog GB C n Q0 fr own (.ops ops (o::r) K):=by
 unfold AN at ha;split at ha<;>try (cases ha;done)
 rename_i fo args tys ty pos af gd hh;obtain⟨ops0,h1,h2⟩:=Hz hh
 cases h1
 cases hdst
 obtain⟨c1,c2⟩:=BV ha;refine⟨fun ρ G ov a w rl=>?_⟩;obtain⟨y,hy,hy'⟩:=rl.ev c1;rw[(aG (G:=G)).1 hy'] at hy;obtain⟨vs,h3,h4⟩:=rl.evDs c2;simp only[wpListIn];rw[if_pos (CB h2 ρ G ov a w rl)];refine DK (K':=fun a' w'=>a'.defers=C.mks/\wpListIn (FW C.rd) 0 prog ops (cQ C.rd prog Q0 K) r a' w') (fun Q=>?_) (fun a' w' q=>⟨q.1.trans rl.df.symm,q.2⟩);refine zC hy h3 (hF G vs rl.gb h4) hd (fun v G' hG hK a' w' rel=>?_) a w Q ⟨rl.h,rl.sz,cP a,rl.df⟩;obtain⟨pv,rfl,hpv⟩:=hK;refine⟨rel.df,?_⟩;have:=fg (GB:=G') (C:=C) (Q0:=Q0) (hgo pv) (hv pv) (k G' pv (rl.gb.trans hG.le) hpv);refine this.run ρ G' ov a' w' ⟨bz.refl _,rel.h,rel.sz,rel.df,fun j g e=>?_,fun nm B e=>by obtain⟨os,h5,h6⟩:=rl.bx nm B e;exact⟨os,h5.up hG.le,h6⟩,rl.dj,rl.fxd⟩;have e':dP (bc fr) (some d) (.d (.v (.func (.func gf) ⟨[]⟩ ⟨[pv]⟩))) j=some g:=by
  rw[i7] at e;simp only[dP];split at e
  ·rename_i hk;rw[if_pos hk];exact e
  ·rename_i hk;rw[if_neg hk];exact e
 exact(jO rel).fx (fun k g _ e=>by obtain⟨u,h5,h6⟩:=rl.fx k g e;exact⟨u,h5,h6.up hG.le⟩) (show bP ρ G' (.d (.v (.func (.func gf) ⟨[]⟩ ⟨[pv]⟩))) _ from(aG (G:=G')).2 rfl) j g e'
end
section
variable {GB:Gh} {C:aD} {n:Nat} {Q0:Exit->Act->World->Prop} {fr fr':aw} {own own':aH} {cf cf':Cf} {vc:List Prop}
def MD(fr:aw)(cf:Cf):Option Nat:=match b8 fr cf with
 |some ⟨_, .load t (.global g),_,_,_,_⟩=>(match cO tt t with
  |some i=>match i.ag with
   |some none=>some g
   |_=>none
  |none=>none)
 |_=>none
def gl[fu:Fu]{g:Nat}{v:Value}(h:MD fr cf=some g)(hg:GB g=some [v])(hgo:cB tt n fu.n fr own cf (.d (.v v)) [] []=⟨vc,fr',own',cf'⟩)(k:ak prog GB C n Q0 fr' own' cf')
  (hv:ah vc:=by first|exact trivial|(simp only[ah];kernel_rfl)|(simp only[ah];omega)):ak prog GB C n Q0 fr own cf:=by
 unfold MD at h;split at h<;>try (cases h;done)
 rename_i hh;split at h<;>try (cases h;done)
 rename_i i hT;split at h<;>cases h;rename_i ha;haveI:=ur (d7 _ _ hT) ha;refine us (f:= .d (.v v)) hh (bH.yd fun ρ G ov a w r=>⟨v,(aG (G:=G)).2 J,?_⟩) hgo hv k;haveI:rB G g [v]:=⟨r.gb _ _ hg⟩;exact vd (b:=g) (off:=0) J Cw J
def Ys{nm0 nm:Nat}{B1 B2:Option Bk}:bj (mD (mD own nm0 B1) nm B2)=upB (upB (bj own) [(nm0,B1)]) [(nm,B2)]:=by
 funext j;rw[y5];simp only[upB];rw[y5]
def Tn{nm0 nm k:Nat}(hnm:Nat.blt nm 2000000=true){ty0:TypeId}{cs:List FX}{lo:Bool}(hb:bj own nm0=some (.o ty0 cs lo))(hk:cs[k]? =some .nl)(hne:nm0≠nm){Φ:Act->World->Prop}{ty s:Nat}(hf:kc [nm] none (bc fr) (bj own))
  (h:SX GB C n (bc fr) (bj (mD (mD own nm0 (some (.o ty0 (cs.set k (.rw nm)) lo))) nm (some (.b ty s [] true)))) Φ):SX GB C n (bc fr) (bj own) Φ:=by
 refine⟨fun ρ G ov a w r=>?_⟩;obtain⟨f1,f2⟩:=hf nm aQ;rw[Ys] at h;refine h.run (fun k=>if k=nm then⟨none,0,0⟩ else ρ k) G ov a w ⟨r.gb,r.h,r.sz,r.df,fun k f e=>?_,fun m B e=>?_,fun m m' B B' e e' hne=>?_,fun m p h1 h2 e=>by
  have:nm<2000000:=by simpa[mJ] using hnm
  show(if m=nm then(⟨none,0,0⟩:SV) else ρ m).a=_;rw[if_neg (by omega)];exact r.fxd m p h1 h2 e⟩
 ·obtain⟨v,h1,h2⟩:=r.fx k f e
  exact⟨v,h1,h2.ren fun m hm=>sr _ fun hc=>f1 k f (by simp) e (by rw[hm,hc])⟩
 ·simp only[upB] at e
  by_cases hm:m=nm
  ·subst hm;simp only[if_true] at e;cases e
   exact⟨[],⟨[],by simp only[if_true];exact .inl ⟨J,J,J⟩, .nil,by simp,fun _ o ho=>by cases ho⟩,fun o ho=>by cases ho⟩
  ·simp only[hm,if_false] at e
   by_cases hm0:m=nm0
   ·subst hm0;simp only[if_true] at e;cases e
    obtain⟨os,h1,h2⟩:=r.bx m _ hb;have h1':jA (fun k=>if k=nm then⟨none,0,0⟩ else ρ k) G m (.o ty0 cs lo) os:=h1.ren (if_neg hm) fun q hq=>sr _ fun hc=>f2 m _ hm hb (by rw[<-hc];exact hq);obtain⟨b,ms,k1,k2,k3⟩:=h1';refine⟨os,⟨b,ms,k1,k2,?_⟩,h2⟩;obtain⟨y,e1,e2⟩:=k3.get hk;have:=k3.set (f:= .rw nm) (y:=y) k (by show y=_;simp only[if_true];exact e2);rwa [show ms.set k y=ms by apply kY;intro j;rw[nQ];split<;>(try rfl);rename_i hj;subst hj;split<;>simp_all] at this
   ·simp only[hm0,if_false] at e
    obtain⟨os,h1,h2⟩:=r.bx m B e;exact⟨os,h1.ren (if_neg hm) fun q hq=>sr _ fun hc=>f2 m B hm e (by rw[<-hc];exact hq),h2⟩
 ·intro b hbb hb'
  have key: ∀q B,upB (upB (bj own) [(nm0,some (.o ty0 (cs.set k (.rw nm)) lo))]) [(nm,some (.b ty s [] true))] q=some B->q≠nm-> ∃B0,bj own q=some B0:=fun q B eq hq=>by
   simp only[upB,hq,if_false] at eq;by_cases hq0:q=nm0
   ·subst hq0;exact⟨_,hb⟩
   ·simp only[hq0,if_false] at eq;exact⟨_,eq⟩
  by_cases hm:m=nm
  ·simp[hm] at hbb
  ·by_cases hm':m'=nm
   ·simp[hm'] at hb'
   ·obtain⟨B0,g0⟩:=key m B e hm
    obtain⟨B1,g1⟩:=key m' B' e' hm';simp only[hm,hm',if_false] at hbb hb';exact r.dj m m' B0 B1 g0 g1 hne b hbb hb'
def E2(nm0 k nm ty s:Nat){ty0:TypeId}{cs:List FX}{lo:Bool}{own1:aH}{c:Code}{K:List Kt}(hb:bj own nm0=some (.o ty0 cs lo))(hk:cs[k]? =some .nl)(hf:r4 [nm] none fr own=true)(hne:Nat.beq nm0 nm=false)
  (ho:mD (mD own nm0 (some (.o ty0 (cs.set k (.rw nm)) lo))) nm (some (.b ty s [] true))=own1)(h:ak prog GB C n Q0 fr own1 (.code c K))(hnm:Nat.blt nm 2000000=true:=by rfl):ak prog GB C n Q0 fr own (.code c K):=by
 subst ho;exact Tn hnm hb hk (fun e=>by subst e;rw[oK] at hne;cases hne) (ya hf) h
def bzA(fr:aw)(cf:Cf):Option (Nat×List FX):=match b8 fr cf with
 |some ⟨some d, .build t ⟨[]⟩,_,_,_,_⟩=>match cO tt t with
  |some ⟨.st _,_,some zx,_⟩=>some (d,zx)
  |_=>none
 |_=>none
end
section
variable {GB:Gh} {C:aD} {n:Nat} {Q0:Exit->Act->World->Prop} {fr fr':aw} {own own':aH} {cf cf':Cf} {vc:List Prop} {ops:Array Oper} {o:Oper} {r:List Oper} {K:List Kt}
def Mg{p q:Nat->Option (Nat×Nat)}(h: ∀i x,p i=some x->q i=some x): ∀(ps:List (Nat×Value)) (cs out:Array Value),Instr.fill p cs ps=some out->Instr.fill q cs ps=some out
 |[],cs,out,e=>e
 |(i,v)::ps,cs,out,e=>by
  simp only[Instr.fill] at e⊢;split at e
  ·cases e
  ·rename_i off size hp
   rw[h i _ hp];dsimp only;split at e
   ·cases e
   ·rename_i hc
    rw[if_neg hc];exact Mg h ps _ _ e
def Yb{P:Program}{fr:Fr}{own:List aj}{G:Gh}{t e s len:Nat}{j:TypeInfo}{parts:Array (Nat×Operand)}{z:Value}{out:List Value}{dst:Option Nat}{ty':TypeId}{pos:String}{af:Array Edge}{gd:Option (Nat×Bool)}[hz:fk P t z](hu:P.underlying t=some (.array len e))(hj:P.info? e=some j)(hs:j.size=s)
  (hb:rD fr ((List.range len).map fun i=>(i*s,s)) (aE z) parts.toList=some out):Yd P C fr own G ⟨dst, .build t parts,ty',pos,af,gd⟩ (.agg ⟨out⟩):=by
 intro a w hf hh;simp only[execOp];have:(Instr.build t (parts.map fun(i,x)=>(i,a.eval x))).run P w= .ok (.agg ⟨out⟩) w:=by
  unfold Instr.build;rw[aP (hz.zero w),mz];rw[aP (ph hu w)];simp only[];rw[aP (sA hj w),hs];have:=Mg (q:=fun i=>some (i*s,s)) (fun i x hx=>by
   have hx':((List.range len).map fun i=>(i*s,s))[i]? =some x:=by simpa using hx
   rw[fU] at hx'
   cases hr:(List.range len)[i]? with
   |none=>rw[hr] at hx';cases hx'
   |some y=>
    rw[hr] at hx';cases hx';obtain⟨h1,h2⟩:=aS.1 hr;rw[List.getElem_range] at h2;rw[h2]) _ _ _ (HT hf ((List.range len).map fun i=>(i*s,s)) parts.toList _ _ hb)
  simp only[nS,this];rfl
 exact cx this
def Bj:Nat->Nat->Nat->List (Nat×Nat×Nat)
 |_,0,_=>[]
 |i,k+1,s=>(i*s,0,s)::Bj (i+1) k s
def Jj: ∀(i k s:Nat),(Bj i k s).map (fun x=>(x.1,x.2.2))=(List.range' i k).map fun j=>(j*s,s)
 |_,0,_=>rfl
 |i,k+1,s=>by simp only[Bj,bW,List.range',Jj (i+1) k s]
def Py(fr:aw)(cf:Cf)(len s:Nat):Option (TypeId×FX):=match b8 fr cf with
 |some ⟨_, .build t parts,_,_,_,_⟩=>match cO tt t with
  |some ⟨.o,_,some zx,_⟩=>match sI (bw fr cf) (Bj 0 len s) zx parts.toList with
   |some cs=>match uG cs with
    |some f=>some (t,f)
    |none=>none
   |none=>none
  |_=>none
 |_=>none
def PO[fu:Fu]{t e len s:Nat}{f:FX}(h:Py fr cf len s=some (t,f))(hu:prog.underlying t=some (.array len e))(hs:(prog.info? e).map (·.size)=some s)
  (hgo:cB tt n fu.n fr own cf f [] []=⟨vc,fr',own',cf'⟩)(k:ak prog GB C n Q0 fr' own' cf')
  (hv:ah vc:=by first|exact trivial|(simp only[ah];kernel_rfl)|(simp only[ah];omega)):ak prog GB C n Q0 fr own cf:=by
 unfold Py at h;split at h<;>try (cases h;done)
 rename_i hh;split at h<;>try (cases h;done)
 rename_i hT;split at h<;>try (cases h;done)
 rename_i hb;split at h<;>cases h;rename_i hf;refine us hh (.yd fun ρ G ov a w r=>?_) hgo hv k
 cases hj:prog.info? e with
 |none=>rw[hj] at hs;cases hs
 |some j=>
 rw[hj] at hs;obtain⟨v,hv,hv'⟩:=Dc (d7 _ _ hT) rfl;obtain⟨l,h1,h2⟩:=GJ r _ _ _ _ hb (hv' ρ G);rw[Jj,<-List.range_eq_range'] at h1;exact⟨.agg ⟨l⟩,D8 h2 hf,Yb hu hj (Option.some.inj hs) h1⟩
def aGm(fr:aw)(own:aH)(cf:Cf)(k:Nat):Option (TypeId×FX):=match b8 fr cf with
 |some ⟨_, .load t x,_,_,_,_⟩=>match aI (bw fr cf) x with
  |some (.ov nm off)=>match fE fr own cf nm with
   |some (.o _ cs _)=>match takeX cs off k with
    |some l=>match uG l with
     |some f=>some (t,f)
     |none=>none
    |none=>none
   |_=>none
  |_=>none
 |_=>none
def aGl(fr:aw)(cf:Cf)(off s:Nat):Option (TypeId×List DV×Int):=match b8 fr cf with
 |some ⟨_, .index t x y,_,_,_,_⟩=>match aI (bw fr cf) x with
  |some (.d (.ag ms))=>match aI (bw fr cf) y with
   |some (.d (.v (.int _ i)))=>match takeD ms off s with
    |some l=>some (t,l,i)
    |none=>none
   |_=>none
  |_=>none
 |_=>none
end
section
variable {GB:Gh} {C:aD} {n:Nat} {Q0:Exit->Act->World->Prop} {fr fr':aw} {own own':aH} {cf cf':Cf} {vc:List Prop} {lk:LK} {bk:BM} {dst:Option Nat} {ty:TypeId} {pos:String} {af:Array Edge} {gd:Option (Nat×Bool)}
def Eo(t:TypeId):Prop:= ∀(x:Value) w,(Instr.makeInterface t x).run prog w= .ok (.iface t x) w
def A6(t:TypeId)(u:Value)(m:String)(f:FuncId):Prop:= ∀w,(method (prog.types.size+Made.depth) t u m).run prog w= .ok (f,u) w
def TJ{t:TypeId}{x:Operand}{d:DV}{u:Value}(ht:Eo t)(hx:evD lk x=some d)(hd: ∀G y,Is G d y->y=u):bH prog GB C n lk bk ⟨dst, .makeInterface t x,ty,pos,af,gd⟩ (.d (.v (.iface t u))) [] []:=
 bH.yd fun ρ G ov a w r=>by
  obtain⟨y,hy,hy'⟩:=r.evD hx;obtain rfl:=hd G y hy';refine⟨_,(aG (G:=G)).2 J,fun a' w' hf _=>?_⟩;refine cx (f:=Next.value) ?_;rw[bh hf hy];exact ht _ _
def T'{x:Operand}{m:String}{args:Array Operand}{tys:Array TypeId}{t:TypeId}{u:Value}{f:FuncId}{vs:List Value}{fr:Fr}{a:Act}{w:World}(hf:jD fr a)(hx:av fr x=some (.iface t u))(hv:fy fr args.toList=some vs)(hm:A6 t u m f)(hc:nO prog f):
  (execOp a.eval ⟨dst, .call ⟨.invoke x m,args,tys⟩,ty,pos,af,gd⟩).run prog w= .ok (.enter f ⟨u::vs⟩) w:=by
 have e:args.map a.eval=⟨vs⟩:=by apply Array.ext';simpa using x6 hf hv
 simp only[execOp,resolve,bh hf hx,e];show(invoke (.fn (.method m) #[]) (#[.iface t u]++⟨vs⟩)).run prog w=_;simp only[invoke];have h0:(#[Value.iface t u]++(⟨vs⟩:Array Value))[0]? =some (.iface t u):=by simp
 have h1:(#[Value.iface t u]++(⟨vs⟩:Array Value)).extract 1 (#[Value.iface t u]++(⟨vs⟩:Array Value)).size=⟨vs⟩:=by
  apply Array.ext';simp
 rw[h0,h1];show(callMethod (.iface t u) m ⟨vs⟩).run prog w=_;unfold callMethod;show((do
  let p<-program
  let(g,receiver)<-method (p.types.size+Made.depth) t u m
  callFunc g (#[receiver]++⟨vs⟩)):Sem Next).run prog w=_
 rw[aP (a:=prog) (w':=w) J,aP (hm w)];show(callFunc f (#[u]++⟨vs⟩)).run prog w=_;rw[zj hc];simp
def Rl{x:Operand}{m:String}{args:Array Operand}{tys:Array TypeId}{t:TypeId}{u:Value}{f:FuncId}{ds:List DV}{rv:DV}(hx:aI lk x=some (.d (.v (.iface t u))))(ha:evDs lk args.toList=some ds)(hm:A6 t u m f)(hF:PF GB prog f (.v u::ds) rv):
  bH prog GB C n lk bk ⟨dst, .call ⟨.invoke x m,args,tys⟩,ty,pos,af,gd⟩ (.d rv) [] []:=by
 intro hd tl tb K' s1 s2 hf hk;refine⟨fun ρ G ov a w r Q=>?_⟩;obtain⟨y,hy,hy'⟩:=(r.mono s1 s2).ev hx;rw[(aG (G:=G)).1 hy'] at hy;obtain⟨vs,h3,h4⟩:=(r.mono s1 s2).evDs ha;have hFn:=hF G (u::vs) r.gb (.cons (aG.2 J) h4);have h2:=T' (dst:=dst) (ty:=ty) (pos:=pos) (af:=af) (gd:=gd) (tys:=tys) (w:=w) (cP a) hy h3 hm hFn.able;simp only[Oper.wp,h2,Oper.upon];refine(hFn.run w r.h.sub).mono ?_;rintro e w' ⟨v,G',rfl,hh,hK⟩;have rl:gh C n (cF a) ov G a w:=⟨r.h,r.sz,cP a,r.df⟩;have rl2:=(rl.heap (rl.h.called hh)).put v hd;exact hk.run ρ G' ov _ w' ⟨r.gb.trans hh.gle,rl2.h,rl2.sz,rl2.df,(jO rl2).fx (fun k g _ e=>by obtain⟨z,h5,h6⟩:=r.fx k g e;exact⟨z,h5,h6.up hh.gle⟩) hK,
  fun nm B e=>by obtain⟨os,h5,h6⟩:=r.bx nm B e;exact⟨os,h5.up hh.gle,h6⟩,r.dj,r.fxd⟩
def Lc(fr:aw)(cf:Cf):Option (TypeId×DV):=match b8 fr cf with
 |some ⟨_, .makeInterface t x,_,_,_,_⟩=>match evD (bw fr cf) x with
  |some d=>some (t,d)
  |none=>none
 |_=>none
def Zn[fu:Fu]{t:TypeId}{d:DV}(u:Value)(ha:Lc fr cf=some (t,d))(ht:Eo t)(hd: ∀G y,Is G d y->y=u)(hgo:cB tt n fu.n fr own cf (.d (.v (.iface t u))) [] []=⟨vc,fr',own',cf'⟩)(k:ak prog GB C n Q0 fr' own' cf')
  (hv:ah vc:=by first|exact trivial|(simp only[ah];kernel_rfl)|(simp only[ah];omega)):ak prog GB C n Q0 fr own cf:=by
 unfold Lc at ha;split at ha<;>try (cases ha;done)
 rename_i hh;split at ha<;>cases ha;rename_i hx;exact us hh (TJ ht hx hd) hgo hv k
def Ni(fr:aw)(cf:Cf):Option (String×TypeId×Value×List DV):=match b8 fr cf with
 |some ⟨_, .call ⟨.invoke x m,args,_⟩,_,_,_,_⟩=>match aI (bw fr cf) x with
  |some (.d (.v (.iface t u)))=>match evDs (bw fr cf) args.toList with
   |some ds=>some (m,t,u,ds)
   |none=>none
  |_=>none
 |_=>none
def Y6[fu:Fu]{m:String}{t:TypeId}{u:Value}{f:FuncId}{ds:List DV}{rv:DV}(ha:Ni fr cf=some (m,t,u,ds))(hm:A6 t u m f)(hF:PF GB prog f (.v u::ds) rv)(hgo:cB tt n fu.n fr own cf (.d rv) [] []=⟨vc,fr',own',cf'⟩)(k:ak prog GB C n Q0 fr' own' cf')
  (hv:ah vc:=by first|exact trivial|(simp only[ah];kernel_rfl)|(simp only[ah];omega)):ak prog GB C n Q0 fr own cf:=by
 unfold Ni at ha;split at ha<;>try (cases ha;done)
 rename_i hh;split at ha<;>try (cases ha;done)
 rename_i hx;split at ha<;>cases ha;rename_i hds;exact us hh (Rl hx hds hm hF) hgo hv k
def PF.arg0{f:FuncId}{d e:DV}{ds:List DV}{rv:DV}(h:PF GB prog f (d::ds) rv)(he: ∀G y,Is G e y->Is G d y):PF GB prog f (e::ds) rv:=fun G vs hg hvs=>by
 obtain⟨y,m,rfl,h1,h2⟩:=ba.1 hvs;exact h G _ hg (.cons (he G y h1) h2)
end
section
variable {GB:Gh} {C:aD} {n:Nat} {Q0:Exit->Act->World->Prop} {fr fr':aw} {own own':aH} {cf cf':Cf} {vc:List Prop} {lk:LK} {bk:BM} {dst:Option Nat} {ty:TypeId} {pos:String} {af:Array Edge} {gd:Option (Nat×Bool)}
def xg(lk:LK):List Operand->Option (List Value)
 |[]=>some []
 |x::xs=>match aI lk x with
  |some (.d (.v pv))=>match xg lk xs with
   |some l=>some (pv::l)
   |none=>none
  |_=>none
def En{ρ:NE}{G:Gh}{ov:List aj}{a:Act}{w:World}(r:bE GB C n lk bk ρ G ov a w): ∀{xs:List Operand} {l:List Value},xg lk xs=some l->xs.mapM (av (cF a))=some l
 |[],l,h=>by cases h;rfl
 |x::xs,l,h=>by
  simp only[xg] at h;split at h<;>try (cases h;done)
  rename_i h1;split at h<;>cases h;rename_i h2;obtain⟨y,h3,h4⟩:=r.ev h1;rw[(aG (G:=G)).1 h4] at h3;rw[nR,h3,En r h2];rfl
def Kj(fr:aw)(cf:Cf):Option (FuncId×List Value×List Value):=match b8 fr cf with
 |some ⟨_, .makeFunc (.func f) ⟨xs⟩ ⟨ys⟩,_,_,_,_⟩=>match xg (bw fr cf) xs,xg (bw fr cf) ys with
  |some a,some b=>some (f,a,b)
  |_,_=>none
 |_=>none
def Ix[fu:Fu]{f:FuncId}{c1 c2:List Value}(h:Kj fr cf=some (f,c1,c2))(hgo:cB tt n fu.n fr own cf (.d (.v (.func (.func f) ⟨c1⟩ ⟨c2⟩))) [] []=⟨vc,fr',own',cf'⟩)(k:ak prog GB C n Q0 fr' own' cf')
  (hv:ah vc:=by first|exact trivial|(simp only[ah];kernel_rfl)|(simp only[ah];omega)):ak prog GB C n Q0 fr own cf:=by
 unfold Kj at h;split at h<;>try (cases h;done)
 rename_i hh;split at h<;>cases h;rename_i h1 h2;exact us hh (bH.yd (f:= .d (.v (.func (.func f) ⟨c1⟩ ⟨c2⟩))) fun ρ G ov a w r=>⟨_,(aG (G:=G)).2 J,zl (En r h1) (En r h2)⟩) hgo hv k
def Nr(fr:aw)(cf:Cf):Option (FuncId×DV):=match b8 fr cf with
 |some ⟨_, .makeFunc (.func f) ⟨[x]⟩ ⟨[]⟩,_,_,_,_⟩=>match evD (bw fr cf) x with
  |some d=>some (f,d)
  |_=>none
 |_=>none
def Cn[fu:Fu]{f:FuncId}{d:DV}(pv:Value)(h:Nr fr cf=some (f,d))(hd: ∀G y,Is G d y->y=pv)(hgo:cB tt n fu.n fr own cf (.d (.v (.func (.func f) ⟨[pv]⟩ ⟨[]⟩))) [] []=⟨vc,fr',own',cf'⟩)(k:ak prog GB C n Q0 fr' own' cf')
  (hv:ah vc:=by first|exact trivial|(simp only[ah];kernel_rfl)|(simp only[ah];omega)):ak prog GB C n Q0 fr own cf:=by
 unfold Nr at h;split at h<;>try (cases h;done)
 rename_i hh;split at h<;>cases h;rename_i hx;exact us hh (bH.yd (f:= .d (.v (.func (.func f) ⟨[pv]⟩ ⟨[]⟩))) fun ρ G ov a w r=>by
  obtain⟨y,hy,hy'⟩:=r.evD hx;obtain rfl:=hd G y hy';exact⟨_,(aG (G:=G)).2 J,zl (l1:=[y]) (l2:=[]) (by simp[hy]) J⟩) hgo hv k
def Vw{fo:Operand}{args:Array Operand}{tys:Array TypeId}{f:FuncId}{c1 c2:List Value}{ds1 ds ds2:List DV}{rv:DV}(h1:aI lk fo=some (.d (.v (.func (.func f) ⟨c1⟩ ⟨c2⟩))))(h2:evDs lk args.toList=some ds)(hc:IsLs GB ds1 c1)(hc2:IsLs GB ds2 c2)(hF:PF GB prog f (ds1++ds++ds2) rv):
  bH prog GB C n lk bk ⟨dst, .call ⟨.value fo,args,tys⟩,ty,pos,af,gd⟩ (.d rv) [] []:=by
 intro hd tl tb K' s1 s2 hf hk;refine⟨fun ρ G ov a w r Q=>?_⟩;obtain⟨y,hy,hy'⟩:=(r.mono s1 s2).ev h1;rw[(aG (G:=G)).1 hy'] at hy;obtain⟨vs,h3,h4⟩:=(r.mono s1 s2).evDs h2;refine IU (c1:=c1) (c2:=c2) hy h3 (hF G (c1++vs++c2) r.gb (((hc.up r.gb).app h4).app (hc2.up r.gb))) hd (fun v G' hG hK a' w' rl=>?_) a w Q ⟨r.h,r.sz,cP a,r.df⟩;exact hk.run ρ G' ov a' w' ⟨r.gb.trans hG.le,rl.h,rl.sz,rl.df,(jO rl).fx (fun k g _ e=>by obtain⟨u,h5,h6⟩:=r.fx k g e;exact⟨u,h5,h6.up hG.le⟩) hK,
  fun nm B e=>by obtain⟨os,h5,h6⟩:=r.bx nm B e;exact⟨os,h5.up hG.le,h6⟩,r.dj,r.fxd⟩
def L7(fr:aw)(cf:Cf):Option (FuncId×List Value×List Value×List DV):=match b8 fr cf with
 |some ⟨_, .call ⟨.value fo,args,_⟩,_,_,_,_⟩=>match aI (bw fr cf) fo,evDs (bw fr cf) args.toList with
  |some (.d (.v (.func (.func f) ⟨c1⟩ ⟨c2⟩))),some ds=>some (f,c1,c2,ds)
  |_,_=>none
 |_=>none
def yf[fu:Fu]{f:FuncId}{c1 c2:List Value}{ds ds1 ds2:List DV}{rv:DV}(ha:L7 fr cf=some (f,c1,c2,ds))(hc:IsLs GB ds1 c1)(hc2:IsLs GB ds2 c2)(hF:PF GB prog f (ds1++ds++ds2) rv)(hgo:cB tt n fu.n fr own cf (.d rv) [] []=⟨vc,fr',own',cf'⟩)(k:ak prog GB C n Q0 fr' own' cf')
  (hv:ah vc:=by first|exact trivial|(simp only[ah];kernel_rfl)|(simp only[ah];omega)):ak prog GB C n Q0 fr own cf:=by
 unfold L7 at ha;split at ha<;>try (cases ha;done)
 rename_i hh;split at ha<;>cases ha;rename_i h1 h2;exact us hh (Vw h1 h2 hc hc2 hF) hgo hv k
end
section
variable {GB:Gh} {C:aD} {n:Nat} {Q0:Exit->Act->World->Prop} {fr fr':aw} {own own':aH} {cf cf':Cf} {vc:List Prop}
def LY(fr:aw)(cf:Cf):Option (Int×Int):=match b8 fr cf with
 |some ⟨_, .binOp .xor _ x y _,_,_,_,_⟩=>match aI (bw fr cf) x,aI (bw fr cf) y with
  |some (.d (.v (.int .u32 p))),some (.d (.v (.int .u32 q)))=>some (p,q)
  |_,_=>none
 |_=>none
def xr[fu:Fu]{p q:Int}(u:Int)(h:LY fr cf=some (p,q))(e:(((BitVec.ofInt 32 p^^^BitVec.ofInt 32 q).toNat:Nat):Int)=u)(hgo:cB tt n fu.n fr own cf (.d (.v (.int .u32 u))) [] []=⟨vc,fr',own',cf'⟩)(k:ak prog GB C n Q0 fr' own' cf')
  (hv:ah vc:=by first|exact trivial|(simp only[ah];kernel_rfl)|(simp only[ah];omega)):ak prog GB C n Q0 fr own cf:=by
 unfold LY at h;split at h<;>try (cases h;done)
 rename_i hh;split at h<;>cases h;rename_i h1 h2;subst e;exact us hh (.yd fun ρ G ov a w r=>by
  obtain⟨y1,h3,h4⟩:=r.ev h1;obtain⟨y2,h5,h6⟩:=r.ev h2;rw[cH] at h4 h6;subst h4 h6;exact⟨_,cH.2 J,gA h3 h5 fun w=>by
   show(pure (Value.int .u32 (IntKind.u32.wrap ((BitVec.ofInt 32 p^^^BitVec.ofInt 32 q).toNat:Int))):Sem Value).run prog w=_;rw[BB];rfl⟩) hgo hv k
def L'(fr:aw)(cf:Cf):Option (Int×Int):=match b8 fr cf with
 |some ⟨_, .binOp .sub _ x y _,_,_,_,_⟩=>match aI (bw fr cf) x,aI (bw fr cf) y with
  |some (.d (.v (.int .u32 p))),some (.d (.v (.int .u32 q)))=>some (p,q)
  |_,_=>none
 |_=>none
def sw[fu:Fu]{p q:Int}(u:Int)(h:L' fr cf=some (p,q))(e:(p-q)%4294967296=u)(hgo:cB tt n fu.n fr own cf (.d (.v (.int .u32 u))) [] []=⟨vc,fr',own',cf'⟩)(k:ak prog GB C n Q0 fr' own' cf')
  (hv:ah vc:=by first|exact trivial|(simp only[ah];kernel_rfl)|(simp only[ah];omega)):ak prog GB C n Q0 fr own cf:=by
 unfold L' at h;split at h<;>try (cases h;done)
 rename_i hh;split at h<;>cases h;rename_i h1 h2;subst e;exact us hh (.yd fun ρ G ov a w r=>by
  obtain⟨y1,h3,h4⟩:=r.ev h1;obtain⟨y2,h5,h6⟩:=r.ev h2;rw[cH] at h4 h6;subst h4 h6;exact⟨_,cH.2 J,by rw[<-oE];exact tG h3 h5⟩) hgo hv k
def Kz(fr:aw)(cf:Cf):Option Int:=match b8 fr cf with
 |some ⟨_, .unOp .xor _ x,_,_,_,_⟩=>match aI (bw fr cf) x with
  |some (.d (.v (.int .u32 p)))=>some p
  |_=>none
 |_=>none
def nt[fu:Fu]{p:Int}(u:Int)(h:Kz fr cf=some p)(e:(((BitVec.ofInt 32 IntKind.u32.max^^^BitVec.ofInt 32 p).toNat:Nat):Int)=u)(hgo:cB tt n fu.n fr own cf (.d (.v (.int .u32 u))) [] []=⟨vc,fr',own',cf'⟩)(k:ak prog GB C n Q0 fr' own' cf')
  (hv:ah vc:=by first|exact trivial|(simp only[ah];kernel_rfl)|(simp only[ah];omega)):ak prog GB C n Q0 fr own cf:=by
 unfold Kz at h;split at h<;>try (cases h;done)
 rename_i hh;split at h<;>cases h;rename_i hx;subst e;refine us hh (.x1 hx fun ρ G ov a w y _ r h1 h2=>?_) hgo hv k;rw[cH] at h2;subst h2;refine⟨_,cH.2 J,fun a w hf hh=>?_⟩;simp only[execOp,bh hf h1];refine cx (w':=w) ?_;show(pure (Value.int .u32 (IntKind.u32.wrap ((BitVec.ofInt 32 IntKind.u32.max^^^BitVec.ofInt 32 p).toNat:Int))):Sem Value).run prog w=_;rw[BB];rfl
end

def Wo{ds:List Nat}{k:Nat}(hk:k<ds.length)(h:trimD ds=trimD (ds.take (k+1)))(h0:ds.getD k 0=0):trimD ds=trimD (ds.take k):=by
 rw[h,gL hk];have:ds[k]=0:=by rw[aK,aX hk] at h0;simpa using h0
 rw[this,Nv]
def PP{ds:List Nat}{k:Nat}(hk:k<ds.length)(h:trimD ds=trimD (ds.take (k+1)))(h0:ds.getD k 0≠0):trimD ds=ds.take (k+1):=by
 rw[h,gL hk];have:ds[k]≠0:=by rw[aK,aX hk] at h0;simpa using h0
 exact D3 this
def iq{A G:Gh}{x:SV}{ds:List Nat}(hx:ce A x ds)[GL A G](hb:ds.length<=1125899906842624):Fn prog 361 [x.v] G (fun v _=>v= .slice x.a (trimD ds).length x.c):=by
 have hlen:=hx.len;have hcap:=hx.sl.cap;refine Fn.intro func361 J J ntmps361 J ?_;intro C _ _;refine sR<|sa J J<|zE<|bt<|dE<|?_;refine kj (X:=Nat) (fun k=>[(0, .slice x.a k x.c)]) (fun _=>[]) (fun k _=>k<=ds.length/\trimD ds=trimD (ds.take k)) (fun k=>k) ds.length ⟨aL _,by simp⟩ (hlen▸ .cons J .nil) J ?_;rintro k Gx _ ⟨hk,ht⟩;refine bt<|sR<|sm J J<|cD J J<|sy (rg J J) J<|sm J J<|?_;refine mi 6 J (fun hg=>?_) (fun hg=>?_)
 ·have hk1:k-1<ds.length:=by omega
  have hkt:((k:Int)-1).toNat=k-1:=by omega
  have hk2:k=k-1+1:=by omega
  refine bG J J (eG J) J<|bG J J (eG J) J<|bG J J (mv J) J<|bG J J (ja J J) J<|?_;refine bG J J (gt (z:=⟨x.a,k,x.c⟩) (hx.take k hk) J J (by omega) (by show _<(k:Int);omega)) J<|bG J J (gn hx J (by omega)) J<|bG J J (gE J J) J<|sy (qa J J) J<|zE<|?_;rw[hkt];refine ki J (fun hc=>?_) (fun hc=>?_) -- slot 14
  ·refine iE<|d6<|d6<|iC<|sR<|sm J J<|sa J J<|zE<|cG<|?_
   have hs:=PP hk1 (hk2▸ht) (fun e=>hc (by rw[e];rfl));refine zD (.tmp J .nil) ?_;rw[hs,<-hk2];simp[f9,hk]
  refine zK<|dE<|dz<|sm J J<|sm J J<|cD J J<|sy (ja J J) J<|sy (uX J J (by omega) (by omega)) J<|?_;refine sa J J<|zE<|?_;exact iG (k-1) ⟨by omega,Wo hk1 (hk2▸ht) (by omega)⟩ (by omega) (.cons (by rw[<-hkt];rfl) .nil) J
 refine ss J J J J<|ss J J J J<|ss J J J J<|ss J J J J<|ss J J J J<|ss J J J J<|?_;refine ss J J J J<|sy (kh J J) J<|zE<|tP J<|iE<|d6<|d6<|iC<|sR<|sm J J<|sa J J<|zE<|cG<|?_;have hk0:k=0:=by omega
 subst hk0;refine zD (.tmp J .nil) ?_;rw[ht];rfl
def Vr{A G:Gh}{x:SV}{ds:List Nat}(hx:ce A x ds)[GL A G](hb:ds.length<=1125899906842624):Fn prog 348 [x.v] G (fun v _=>v= .bool (decide (dO ds))):=by
 have hlen:=hx.len;refine Fn.intro func348 J J ntmps348 J ?_;intro C _ _;refine sR<|sa J J<|zE<|sR<|sm J J<|cD J J<|sy (gE J J) J<|sm J J<|?_;refine mi 6 J (fun hg=>?_) (fun hg=>?_)
 ·refine ss J J J J<|ss J J J J<|ss J J J J<|ss J J J J<|ss J J J J<|ss J J J J<|ss J J J J<|sy (qa J J) J<|sa J J<|?_
  refine zE<|cG<|?_;refine zD (.tmp J .nil) ?_;have:ds=[]:=bU (by omega);subst this;simp[f9,dO]
 have hne:0<ds.length:=by omega
 have hkt:((x.n:Int)-1).toNat=ds.length-1:=by omega
 refine bG J J (eG J) J<|bG J J (eG J) J<|bG J J (mv J) J<|bG J J (ja J J) J<|bG J J (gt hx J J (by omega) (by omega)) J<|?_;refine bG J J (gn hx J (by omega)) J<|bG J J (tc J J) J<|sy (kh J J) J<|sa J J<|zE<|cG<|?_;refine zD (.tmp J .nil) ?_;rw[hkt];simp only[f9,Value.bool.injEq,decide_eq_decide,dO,mR,aK,aX (show ds.length-1<ds.length by omega),jV,ne_eq,Option.some.injEq];exact not_congr (by omega)
def Qw(ds:List Nat): ∀v∈ds.map dI,flat v=true:=fun v hv=>by
 obtain⟨d,_,rfl⟩:=bJ.1 hv;rfl
def Kb{A G:Gh}{x:SV}{ds:List Nat}(hx:ce A x ds)[GL A G](hb:ds.length<=1125899906842):Fn prog 365 [x.v] G (fun v G'=> ∃z:SV,v=z.v/\ce G' z ds):=by
 have hlen:=hx.len;refine Fn.intro func365 J J ntmps365 J ?_;intro C _ _;refine sR<|sa J J<|zE<|bt<|sR<|sm J J<|sy (ML J J) J<|zE<|?_;refine Ri J (fun hc=>?_) (fun hc=>?_)
 ·refine sR<|sa J J<|zE<|cG<|?_
  refine zD (.tmp J .nil) ⟨⟨none,0,0⟩,J,?_⟩;rcases hx.sl.mem with h|⟨b,off,cs,ha,_⟩
  ·have:ds=[]:=by simpa using h
   subst this;exact .nil _
  ·rw[ha] at hc;cases hc
 refine zK<|sR<|?_;refine sc (KU J ?_);intro b1;refine sm J J<|?_;refine sc (Mz (xs:=[]) (rest:=[]) (ys:=ds.map dI) J J (.hd ..) J J (aL _) (Nb hx) (by simp[hlen]) (Qw ds) (by decide) (by omega) J J ?_);intro b cap rest h1 h2;refine sa J J<|zE<|pd b (.hd ..) (fun G' _ hgb=>?_);refine cG<|?_;refine zD (.tmp J .nil) ⟨⟨some ⟨b,0,none⟩,x.n,cap⟩,by simp[f9,SV.v],?_⟩;exact .of_block hx.ok hgb.h hlen (by omega) (by simp)
def Ge{A G:Gh}{x:SV}{ds:List Nat}{k:Nat}(hx:ce A x ds)[GL A G](hk:dv ds<2^k)(hb:ds.length<=1125899906842):Fn prog 308 [x.v] G (fun v G'=> ∃z:SV,v=z.v/\ey k G' z (dv ds)):=by
 have htl:=lE ds;refine Fn.intro func308 J J ntmps308 J ?_;intro C _ _;refine sR<|sa J J<|zE<|sR<|sm J J<|?_;refine sc (zC J J (iq hx (by omega)) J ?_);rintro _ G1 _ rfl;refine sc (zC J J (Kb hx.trim (by omega)) J ?_);rintro _ G2 _ ⟨z,rfl,hz⟩;refine sa J J<|zE<|cG<|?_;refine zD (.tmp J .nil) ⟨z,J,?_⟩;exact⟨by rw[oH hx.ok];exact hz,hk⟩
end Go.Sx
end
section
namespace Go.Proofs
open Go.Shelf
def Tryz.lays128_ren:Go.Shelf.Ren:=⟨fun|128=>332|n=>n,fun|51=>366|3=>3|4=>4|46=>355|5=>5|9=>9|n=>n,fun|n=>n⟩
def Tryz.lays125_ren:Go.Shelf.Ren:=⟨fun|125=>231|128=>332|129=>333|n=>n,fun|46=>355|3=>3|51=>366|53=>251|4=>4|5=>5|9=>9|n=>n,fun|n=>n⟩
def Tryz.lays133_ren:Go.Shelf.Ren:=⟨fun|133=>366|128=>332|n=>n,fun|51=>366|3=>3|4=>4|46=>355|5=>5|9=>9|n=>n,fun|n=>n⟩
def Tryz.lays133:Go.Proofs.Lays.n133 Tryz.prog Tryz.lays133_ren:={
 mixed:=by kernel_rfl
 f128:=Tryz.func332.trans (congrArg some (by kernel_rfl))
 f133:=Tryz.func366.trans (congrArg some (by kernel_rfl))
 t3:=Tryz.underlying3
 a3:=Tryz.isAgg3
 z3:=Tryz.sizeOf3
 v3:=Tryz.zeroValue3
 t4:=Tryz.underlying4
 a4:=Tryz.isAgg4
 z4:=Tryz.sizeOf4
 v4:=Tryz.zeroValue4
 t5:=Tryz.underlying5
 a5:=Tryz.isAgg5
 z5:=Tryz.sizeOf5
 v5:=Tryz.zeroValue5
 t9:=Tryz.underlying9
 a9:=Tryz.isAgg9
 z9:=Tryz.sizeOf9
 v9:=Tryz.zeroValue9
 t46:=Tryz.underlying355
 a46:=Tryz.isAgg355
 z46:=Tryz.sizeOf355
 v46:=Tryz.zeroValue355
 t51:=Tryz.underlying366
 a51:=Tryz.isAgg366
 z51:=Tryz.sizeOf366
 v51:=Tryz.zeroValue366}
def Tryz.bits_LeadingZeros32(x:Int)(w:World)(h0:0<=x)(h1:x<=4294967295):
  Calls Tryz.prog 366 #[.int .u32 x] w fun e w'=>e= .returned (.int .i64 (32-(Lib.bitLen x.toNat:Int)))/\w'=w:=Any.bits_LeadingZeros32 Tryz.lays133 x w h0 h1
def Tryz.lays129_ren:Go.Shelf.Ren:=⟨fun|129=>333|n=>n,fun|53=>251|3=>3|4=>4|46=>355|5=>5|9=>9|n=>n,fun|n=>n⟩
def Tryz.lays317_ren:Go.Shelf.Ren:=⟨fun|317=>401|n=>n,fun|3=>3|46=>355|n=>n,fun|n=>n⟩
open Go.Lib in
def Tryz.lays318_ren:Go.Shelf.Ren:=⟨fun|318=>402|n=>n,fun|3=>3|4=>4|n=>n,fun|n=>n⟩
open Go.Lib in
def Tryz.lays283_ren:Go.Shelf.Ren:=⟨fun|283=>383|n=>n,fun|3=>3|9=>9|4=>4|n=>n,fun|n=>n⟩
open Go.Lib in
def Tryz.laysM284_ren:Go.Shelf.Ren:=⟨fun|284=>384|129=>333|317=>401|318=>402|n=>n,fun|53=>251|3=>3|212=>491|0=>0|4=>4|46=>355|5=>5|9=>9|n=>n,fun|17=>7|n=>n⟩
open Go.Lib in
def Tryz.lays285_ren:Go.Shelf.Ren:=⟨fun|285=>385|n=>n,fun|37=>476|53=>251|3=>3|4=>4|51=>366|9=>9|5=>5|0=>0|n=>n,fun|n=>n⟩
open Go.RowKit Go.Sort Go.Lib in
def Tryz.laysM246_ren:Go.Shelf.Ren:=⟨fun|246=>357|283=>383|284=>384|285=>385|286=>386|129=>333|317=>401|318=>402|319=>403|320=>404|337=>408|338=>409|n=>n,fun|2=>2|3=>3|9=>9|4=>4|171=>474|0=>0|53=>251|37=>476|5=>5|173=>477|212=>491|51=>366|20=>20|213=>492|46=>355|232=>497|233=>498|n=>n,fun|17=>7|18=>8|19=>9|n=>n⟩
open Go.RowKit Go.Sort Go.Lib in
def Tryz.lays246_ren:Go.Shelf.Ren:=⟨fun|246=>357|283=>383|284=>384|285=>385|286=>386|129=>333|317=>401|318=>402|319=>403|320=>404|337=>408|338=>409|n=>n,fun|2=>2|3=>3|9=>9|4=>4|171=>474|0=>0|53=>251|37=>476|5=>5|173=>477|212=>491|51=>366|20=>20|213=>492|46=>355|232=>497|233=>498|n=>n,fun|17=>7|18=>8|19=>9|n=>n⟩
open Go.RowKit Go.Sort Go.Lib in
def Tryz.laysM243_ren:Go.Shelf.Ren:=⟨fun|243=>285|246=>357|283=>383|284=>384|285=>385|286=>386|129=>333|317=>401|318=>402|319=>403|320=>404|337=>408|338=>409|n=>n,fun|3=>3|9=>9|2=>2|4=>4|171=>474|0=>0|53=>251|37=>476|5=>5|173=>477|212=>491|51=>366|20=>20|213=>492|46=>355|232=>497|233=>498|n=>n,fun|17=>7|18=>8|19=>9|n=>n⟩
open Go.RowKit Go.Sort Go.Lib in
def Tryz.lays243_ren:Go.Shelf.Ren:=⟨fun|243=>285|246=>357|283=>383|284=>384|285=>385|286=>386|129=>333|317=>401|318=>402|319=>403|320=>404|337=>408|338=>409|n=>n,fun|3=>3|9=>9|2=>2|4=>4|171=>474|0=>0|53=>251|37=>476|5=>5|173=>477|212=>491|51=>366|20=>20|213=>492|46=>355|232=>497|233=>498|n=>n,fun|17=>7|18=>8|19=>9|n=>n⟩
open Go.RowKit Go.Sort Go.Lib in
def Tryz.laysM171_ren:Go.Shelf.Ren:=⟨fun|171=>190|243=>285|246=>357|283=>383|284=>384|285=>385|286=>386|129=>333|317=>401|318=>402|319=>403|320=>404|337=>408|338=>409|n=>n,fun|3=>3|9=>9|2=>2|4=>4|171=>474|0=>0|53=>251|37=>476|5=>5|173=>477|212=>491|51=>366|20=>20|213=>492|46=>355|232=>497|233=>498|n=>n,fun|17=>7|18=>8|19=>9|n=>n⟩
open Go.RowKit Go.Sort Go.Lib in
def Tryz.lays171_ren:Go.Shelf.Ren:=⟨fun|171=>190|243=>285|246=>357|283=>383|284=>384|285=>385|286=>386|129=>333|317=>401|318=>402|319=>403|320=>404|337=>408|338=>409|n=>n,fun|3=>3|9=>9|2=>2|4=>4|171=>474|0=>0|53=>251|37=>476|5=>5|173=>477|212=>491|51=>366|20=>20|213=>492|46=>355|232=>497|233=>498|n=>n,fun|17=>7|18=>8|19=>9|n=>n⟩
open Go.RowKit Go.Sort Go.Lib in
def Tryz.lays264_ren:Go.Shelf.Ren:=⟨fun|264=>359|n=>n,fun|53=>251|46=>355|n=>n,fun|n=>n⟩
def Tryz.lays264:Go.Proofs.Lays.n264 Tryz.prog Tryz.lays264_ren:={
 mixed:=by kernel_rfl
 f264:=Tryz.func359.trans (congrArg some (by kernel_rfl))
 t46:=Tryz.underlying355
 a46:=Tryz.isAgg355
 z46:=Tryz.sizeOf355
 v46:=Tryz.zeroValue355
 t53:=Tryz.underlying251
 a53:=Tryz.isAgg251
 z53:=Tryz.sizeOf251
 v53:=Tryz.zeroValue251}
open Go.RowKit Go.Lib in
def Tryz.bits_Mul64(x y:Nat)(hx:x<18446744073709551616)(hy:y<18446744073709551616)(w:World):
  Calls Tryz.prog 359 #[.int .u64 x, .int .u64 y] w fun e w'=>e= .returned (.tuple #[.int .u64 ((x*y/18446744073709551616:Nat):Int), .int .u64 ((x*y%18446744073709551616:Nat):Int)])/\w'=w:=Any.bits_Mul64 Tryz.lays264 x y hx hy w
end Go.Proofs
end
