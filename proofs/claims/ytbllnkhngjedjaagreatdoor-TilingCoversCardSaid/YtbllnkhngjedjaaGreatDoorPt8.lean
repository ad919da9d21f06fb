import Derived.Test.YtbllnkhngjedjaaGreatDoorPt7
import Derived.RangeFuncSeq
import Derived.Shelf.Small.Bits
import Derived.Shelf.Strconv.Itoa0
import Derived.Shelf.Bits.Mul64
import Derived.Test.YtbllnkhngjedjaaGreatDoorProg
set_option linter.all false
set_option maxRecDepth 100000
section
namespace Go.Sx
open Go Go.Proofs Tryz
def Je(o:Obj):Prop:= ∀cs ty z,o≠ .cells cs ty z
section
variable {C C':aD} {own:List aw} {G G1:Gh} {w w1:World}
def bt.ctx(h:bt C own G w)(h1:C'.w0=C.w0)(h2:C'.G0=C.G0)(h3:C'.mb=C.mb)(h4: ∀p∈C'.ex,p∈C.ex):bt C' own G w:=by
 obtain⟨a1,a2,a3,a4,a5,a6,a7,a8,a9,a10,a11,a12⟩:=h;exact⟨by rw[h1];exact a1,by rw[h1];exact a2,by rw[h1];exact a3,by rw[h1];exact a4,by rw[h1,h3];exact a5,a6,by rw[h2];exact a7,by rw[h1,h2];exact a8,by rw[h1,h3];exact a9,a10,by rw[h1];exact a11,fun p hp=>a12 p (h4 p hp)⟩
def bt.addx(h:bt C own G w){o:Obj}(ho:Je o)(h1:C'.w0=C.w0)(h2:C'.G0=C.G0)(h3:C'.mb=C.mb)(h4: ∀p∈C'.ex,p=(w.heap.size,o)\/p∈C.ex):bt C' own G (w.alloc o):=by
 have old: ∀b,b<w.heap.size->(w.alloc o).heap[b]? =w.heap[b]? :=fun b hb=>RowKit.Below.heap_alloc _ _ _ hb;obtain⟨a1,a2,a3,a4,a5,a6,a7,a8,a9,a10,a11,a12⟩:=h;refine⟨by rw[h1];exact a1,by rw[h1];exact a2,by rw[h1];exact a3,by rw[h1];simp;omega,?_,?_,by rw[h2];exact a7,by rw[h1,h2];exact a8,?_,a10,by rw[h1];exact a11,?_⟩
 .rw[h1,h3];intro b hb hm;rw[old b (by omega)];exact a5 b hb hm
 .intro b cs hb
  obtain⟨ty,fz,hc⟩:=a6 b cs hb;exact⟨ty,fz,by rw[old b (il hc)];exact hc⟩
 .rw[h1,h3];intro x hx
  obtain⟨b1,b2⟩:=a9 x hx;exact⟨by rw[old _ (il b1)];exact b1,b2⟩
 .intro p hp
  rcases h4 p hp with rfl|hp
  .exact⟨ho,World.alloc_heap_new w o⟩
  .exact⟨(a12 p hp).1,by rw[old _ (il (a12 p hp).2)];exact(a12 p hp).2⟩
def bt.putx(h:bt C own G w){l:Nat}{o0 o:Obj}(hl:(l,o0)∈C.ex)(hs:C.w0.heap.size<=l)(ho:Je o)(h1:C'.w0=C.w0)(h2:C'.G0=C.G0)(h3:C'.mb=C.mb)(h4: ∀p∈C'.ex,p=(l,o)\/p∈C.ex/\p.1≠l):bt C' own G (w.putObj l o):=by
 have hne: ∀{b:Nat} {cs:Array Value} {ty:TypeId} {z:Nat×Nat},w.heap[b]? =some (.cells cs ty z)->b≠l:=fun hb e=>h.extNe hl hb e.symm;have hlt:=il (h.ext _ hl).2;obtain⟨a1,a2,a3,a4,a5,a6,a7,a8,a9,a10,a11,a12⟩:=h;refine⟨by rw[h1];exact a1,by rw[h1];exact a2,by rw[h1];exact a3,by rw[h1];simpa using a4,?_,?_,by rw[h2];exact a7,by rw[h1,h2];exact a8,?_,a10,by rw[h1];exact a11,?_⟩
 .rw[h1,h3];intro b hb hm;rw[World.putObj_heap_other (by omega)];exact a5 b hb hm
 .intro b cs hb
  obtain⟨ty,fz,hc⟩:=a6 b cs hb;exact⟨ty,fz,by rw[World.putObj_heap_other (hne hc)];exact hc⟩
 .rw[h1,h3];intro x hx
  obtain⟨b1,b2⟩:=a9 x hx;exact⟨by rw[World.putObj_heap_other (hne b1)];exact b1,b2⟩
 .intro p hp
  rcases h4 p hp with rfl|⟨hp,hpl⟩
  .exact⟨ho,World.putObj_heap_same hlt⟩
  .exact⟨(a12 p hp).1,by rw[World.putObj_heap_other hpl];exact(a12 p hp).2⟩
end
abbrev ot (w:World) (G:Gh):aD:=⟨w,G,[],[],[],none,fun _=>none⟩
def I5(G:Gh)(w:World):Prop:= ∀b cs,G b=some cs-> ∃ty fz,w.heap[b]? =some (.cells ⟨cs⟩ ty fz)
structure N1 (Jv:Gh->World->Prop):Prop where
 frz: ∀G w,Jv G w->I5 G w
 on: ∀G w G1 w1,Jv G w->bt (ot w G) [] G1 w1->Jv G1 w1
def IU{G:Gh}{w:World}(h:I5 G w):bt (ot w G) [] G w:=
 ⟨J,J,J,aM _,fun _ _ _=>J,h,bp.refl _,fun _ _=>J,fun o ho=>(by cases ho), .nil,aM _,fun p hp=>by cases hp⟩
structure zn (GB:Gh) (P:Program) (l:Nat) (Jv:Nat->Gh->World->Prop) (Jx:Gh->World->Prop) (E:List (List DV)):Prop where
 st: ∀k,N1 (Jv k)
 sx:N1 Jx
 yd: ∀k e G w ys,E[k]? =some e->bp GB G->Jv k G w->IsLs G e ys->YieldAt (FW none) 0 P l ⟨ys⟩ w fun e w'=> ∃G',bp G G'/\(e= .returned (.bool true)/\Jv (k+1) G' w'\/e= .returned (.bool false)/\Jx G' w')
structure It (GB:Gh) (P:Program) (f:FuncId) (ds:List DV) (E:List (List DV)):Prop where
 able:ri P f
 run: ∀(l:Nat) (Jv:Nat->Gh->World->Prop) (Jx:Gh->World->Prop) (GB':Gh),bp GB GB'->zn GB' P l Jv Jx E-> ∀w vs,Jv 0 GB' w->IsLs GB' ds vs->
  CallsIn (FW none) 0 P f ⟨.func (.yield l) #[] #[]::vs⟩ w fun e w'=> ∃G',bp GB' G'/\(∃v,e= .returned v)/\(Jv E.length G' w'\/Jx G' w')
structure Pl (C:aD):Prop where
 mb:C.mb=[]
 mks:C.mks=[]
 rd:C.rd=none
def Hq(P:Program)(fb:Func)(GB:Gh)(Jv:Nat->Gh->World->Prop)(Jx:Gh->World->Prop)(N:Nat):Exit->Act->World->Prop:=
 bodyPost P fb fun e w'=> ∃G',bp GB G'/\(∃v,e= .returned v)/\(Jv N G' w'\/Jx G' w')
section
variable {GB:Gh} {C:aD} {n:Nat} {Q0:Exit->Act->World->Prop} {fr fr':aB} {own own':aF} {cf':Cf} {vc:List Prop} {ops:Array Oper} {o:Oper} {r:List Oper} {K:List Kt}
def Pf[fu:Fu]{f:FuncId}{fb:Func}{c:Code}{m:Nat}{ds:List DV}{E:List (List DV)}{cf:Nat->Cf}{fr:Nat->aB}{own:Nat->aF}{vc:Nat->List Prop}(hf:prog.funcs[f]? =some fb)(hb:fb.body=some c)(hn:(fb.name== "runtime.NumGoroutine")=false)(hm:fb.ntmps=m)(hlen:Nat.ble (ds.length+1) m=true)
  (hgo: ∀l,go tt m fu.n [] (tg 0 (.v (.func (.yield l) #[] #[])::ds)) [] (.code c [])=⟨vc l,fr l,own l,cf l⟩)
  (k: ∀l Jv Jx GB',bp GB GB'->zn GB' prog l Jv Jx E-> ∀C,Pl C->Jv 0 C.G0 C.w0->ao prog GB' C m (Hq prog fb GB' Jv Jx E.length) (fr l) (own l) (cf l))
  (hv: ∀l,ah (vc l):=by intros;first|exact trivial|(simp only[ah];kernel_rfl)|(simp only[ah];omega)):It GB prog f ds E:=by
 refine⟨⟨fb,hf,hn,by simp[hb]⟩,fun l Jv Jx GB' hg H w vs hJ hvs=>?_⟩;have hlen':vs.length+1<=m:=by rw[hvs.len];simpa using hlen
 have h:=gj (GB:=GB') (C:=ot w GB') (Q0:=Hq prog fb GB' Jv Jx E.length) (hgo l) (hv l) (k l Jv Jx GB' hg H (ot w GB') ⟨J,J,J⟩ hJ);refine callsIn_wide.2 (calls_of_wp hf hb ?_);have hvs':IsLs GB' (.v (.func (.yield l) #[] #[])::ds) (.func (.yield l) #[] #[]::vs):= .cons (bc.2 J) hvs;refine xu J (h.run (fun _=>⟨none,0,0⟩) GB' [] _ w ⟨bp.refl _,IU ((H.st 0).frz _ _ hJ),by simp;omega,J,fun k f e=>AJ hvs' (fun k v hk=>?_) k f e,(fun nm B e=>by cases e),(fun nm nm' B B' e=>by cases e),fun nm p _ _ e=>by cases e⟩);obtain⟨j,rfl,hj⟩:=wT (.func (.yield l) #[] #[]::vs) 0 k v hk;have hj':=(aY.1 hj).1;rw[kK (by simpa using hj')];simpa using hj
def bt.pl{ov:List aw}{G:Gh}{w:World}(h:bt C ov G w)(hp:Pl C):bt (ot C.w0 C.G0) [] G w:=
 (h.drop (lJ _)).ctx J J hp.mb.symm (fun p hp=>by cases hp)
def Dj{P:Program}{l:Nat}{Jv:Nat->Gh->World->Prop}{Jx:Gh->World->Prop}{E:List (List DV)}{fb:Func}{e:Exit}(H:zn GB P l Jv Jx E)(hp:Pl C)(hJ:Jv E.length C.G0 C.w0\/Jx C.G0 C.w0)(hr:fb.results.toList=[])(he:Cn e=true:=by rfl):
  ao P GB C n (Hq P fb GB Jv Jx E.length) fr own (.ex e []):=by
 refine⟨fun ρ G ov a w r=>?_⟩;have hj:Jv E.length G w\/Jx G w:=hJ.imp (fun h=>(H.st _).on _ _ _ _ h (r.h.pl hp)) fun h=>H.sx.on _ _ _ _ h (r.h.pl hp);have hr':kA P (cE a) ov fb.results.toList []:=by rw[hr];exact .nil
 cases e with
 |ret=>exact⟨r.df.trans hp.mks,_,uQ hr' (c8 a) r.h,G,r.gb,⟨_,J⟩,hj⟩
 |normal=>exact⟨r.df.trans hp.mks,_,uQ hr' (c8 a) r.h,G,r.gb,⟨_,J⟩,hj⟩
 |_=>cases he
def VF{P:Program}{fo:Operand}{args:Array Operand}{tys:Array TypeId}{vs:List Value}{a:Act}{w:World}{fr:Fr}{l:Nat}{dst:Option Nat}{ty':TypeId}{pos:String}{af:Array Edge}{gd:Option (Nat×Bool)}(hf:mj fr a)(ho:aA fr fo=some (.func (.yield l) ⟨[]⟩ ⟨[]⟩))(hv:f8 fr args.toList=some vs):
  (execOp a.eval ⟨dst, .call ⟨.value fo,args,tys⟩,ty',pos,af,gd⟩).run P w=(Instr.yield l ⟨vs⟩).run P w:=by
 have e:args.map a.eval=⟨vs⟩:=by apply Array.ext';simpa using Ce hf hv
 simp only[execOp,resolve,bh hf ho,e,Deferred.ofValue];show(invoke (.fn (.yield l) ⟨[]⟩) (⟨[]⟩++⟨vs⟩)).run P w=_;simp only[invoke];rw[show((⟨[]⟩:Array Value)++⟨vs⟩)=⟨vs⟩ by simp]
def pc:aB->aB
 |[]=>[]
 |(k,f)::t=>match f with
  | .ov .. =>pc t
  | .rw .. =>pc t
  | .be .. =>pc t
  | .rs .. =>pc t
  | .bx .. =>pc t
  | .no=>pc t
  |f=>(k,f)::pc t
def OZ(k:Nat):aB->Bool
 |[]=>false
 |(j,_)::t=>Nat.beq j k||OZ k t
def ndF:aB->Bool
 |[]=>true
 |(k,_)::t=>!OZ k t&&ndF t
def P9(fr:aB)(ops:Array Oper)(o:Oper):Option (Nat×List DV×Nat):=match o with
 |⟨some d, .call ⟨.value fo,args,_⟩,_,_,_,none⟩=>match aH (aO fr) fo,evDs (aO fr) args.toList with
  |some (.d (.v (.func (.yield l) ⟨[]⟩ ⟨[]⟩))),some ds=>some (l,ds,d)
  |_,_=>none
 |_=>none
def cy[fu1:Fu][fu2:Fu]{l d k:Nat}{Jv:Nat->Gh->World->Prop}{Jx:Gh->World->Prop}{E:List (List DV)}{ds:List DV}{fr1 fr2:aB}{own1 own2:aF}{cf1 cf2:Cf}{vc1 vc2:List Prop}(frd:aB)(H:zn GB prog l Jv Jx E)(hp:Pl C)(hJ:Jv k C.G0 C.w0)(ha:P9 fr ops o=some (l,ds,d))(hE:E[k]? =some ds)(hd:b9 n (some d)=true)
  (hfd:uS frd fr)(hnd:pc frd=frd)
  (g1:go tt n fu1.n [] ((d, .tt)::frd) [] (.ops ops r K)=⟨vc1,fr1,own1,cf1⟩)(g2:go tt n fu2.n [] ((d, .ff)::frd) [] (.ops ops r K)=⟨vc2,fr2,own2,cf2⟩)
  (k1: ∀C',Pl C'->Jv (k+1) C'.G0 C'.w0->ao prog GB C' n Q0 fr1 own1 cf1)(k2: ∀C',Pl C'->Jx C'.G0 C'.w0->ao prog GB C' n Q0 fr2 own2 cf2)
  (v1:autoParam (ah vc1) cL._auto_1)(v2:autoParam (ah vc2) cL._auto_1):
  ao prog GB C n Q0 fr own (.ops ops (o::r) K):=by
 unfold P9 at ha;split at ha<;>try (cases ha;done)
 rename_i d0 fo args tys ty pos af;split at ha<;>cases ha;rename_i h1 h2;have nmd: ∀{f:aB},pc f=f-> ∀k x,aO f k=some x->x.nm=none:=by
  have len: ∀f:aB,(pc f).length<=f.length:=fun f=>by
   induction f with
   |nil=>exact aM _
   |cons e t ih=>obtain⟨j,x⟩:=e;cases x<;>simp only[pc,bJ]<;>omega
  intro f
  induction f with
  |nil=>intro _ k x e;cases e
  |cons e t ih=>
   obtain⟨j,y⟩:=e;intro hd k x hx;rw[kj] at hx;have:=len t;split at hx
   .cases hx
    cases y<;>first|rfl|(have:=congrArg List.length hd;simp only[pc,bJ] at this;omega)
   .refine ih ?_ k x hx
    cases y<;>first|exact(List.cons.inj hd).2|(have:=congrArg List.length hd;simp only[pc,bJ] at this;omega)
 refine⟨fun ρ G ov a w rl=>?_⟩;have hJG:Jv k G w:=(H.st k).on _ _ _ _ hJ (rl.h.pl hp);obtain⟨y,hy,hy'⟩:=rl.ev h1;rw[(bc (G:=G)).1 hy'] at hy;obtain⟨vs,h3,h4⟩:=rl.evDs h2;obtain⟨fn,tmps,assign,body,hrun,hround⟩:=H.yd k ds G w vs hE rl.gb hJG h4;rw[hp.rd];simp only[wpListIn];rw[if_pos (by rfl)];refine⟨fun _ _=>trivial,?_⟩;have hs: ∀o:Oper,Oper.semAt (FW none).round a.eval o=execOp a.eval o:=fun _=>J;rw[hs,VF (c8 a) hy h3,hrun];refine⟨fun h=>(by cases h),hround.mono fun e w' he=>?_⟩;obtain⟨G',hg,he⟩:=he;have rel: ∀(b:Bool) (f:FX),(∀ρ,bF ρ G' f (.bool b))->I5 G' w'->bA GB (ot w' G') n (aO ((d,f)::frd)) (ba []) ρ G' [] (a.put (some d) (.bool b)) w':=fun b f hfb hz=>by
  have pa:=rl.putA (dst:=some d) (.bool b) hd;refine⟨rl.gb.trans hg,IU hz,pa.sz,by rw[pa.df];exact hp.mks,fun k g e=>?_,(fun nm B e=>by cases e),(fun nm nm' B B' e=>by cases e),fun nm p _ _ e=>by cases e⟩;have e':er (aO frd) (some d) f k=some g:=by
   rw[kj] at e;simp only[er];split at e
   .rename_i hk;rw[if_pos hk];exact e
   .rename_i hk;rw[if_neg hk];exact e
  refine pa.fx (fun k g _ e=>?_) (hfb ρ) k g e';obtain⟨u,h5,h6⟩:=rl.fx k g (wc hfd k g e);exact⟨u,h5,h6.up hg⟩
 rcases he with⟨rfl,hj⟩|⟨rfl,hj⟩
 .exact(gj (GB:=GB) (C:=ot w' G') (Q0:=Q0) g1 v1 (k1 (ot w' G') ⟨J,J,J⟩ hj)).run ρ G' [] _ w' (rel true .tt (fun _=>J) ((H.st _).frz _ _ hj))
 .exact(gj (GB:=GB) (C:=ot w' G') (Q0:=Q0) g2 v2 (k2 (ot w' G') ⟨J,J,J⟩ hj)).run ρ G' [] _ w' (rel false .ff (fun _=>J) (H.sx.frz _ _ hj))
def MI(GB:Gh)(n:Nat){X:Type}(F:X->aB)(I:X->aD->Prop)(a:Act)(w:World):Prop:=
 ∃C x ρ G ov,Pl C/\I x C/\bA GB C n (aO (F x)) (ba []) ρ G ov a w
def JH[fu:Fu]{c:Code}{X:Type}(F:X->aB)(I:X->aD->Prop)(μ:X->Nat)(x0:X){cf':X->Cf}{fr':X->aB}{own':X->aF}{vc:X->List Prop}(hp:Pl C)(hI:I x0 C)
  (hgo: ∀x,go tt n fu.n [] (F x) [] (.code c (.ag (MI GB n F (fun y C=>I y C/\μ y<μ x))::K))=⟨vc x,fr' x,own' x,cf' x⟩)
  (round: ∀x C,Pl C->I x C->ao prog GB C n Q0 (fr' x) (own' x) (cf' x))(hF:uS (F x0) fr:=by repeat (first|exact trivial|refine And.intro J ?_|refine And.intro (p9 J (by first|omega|(dsimp only;omega))) ?_|refine And.intro (p9 J (by simp)) ?_))
  (hv: ∀x C,I x C->ah (vc x):=by intros;first|exact trivial|(simp only[ah];kernel_rfl)|(simp only[ah];omega)|(simp only[ah,aJ,bZ,aR];omega)):ao prog GB C n Q0 fr own (.code (.loop c) K):=by
 refine⟨fun ρ G ov a w r=>?_⟩;have r0:=r.mono (bk:=ba []) (wc hF) (fun k x e=>by cases e);rw[hp.rd];intro b k cs hro hb hrm;have key: ∀m a w,(∃C x ρ G ov,Pl C/\I x C/\μ x=m/\bA GB C n (aO (F x)) (ba []) ρ G ov a w)->
   ∃e a' w',cQ none prog Q0 K e a' w'/\ArrivesIn (Machine.fenced prog (FW none)) prog (lone (b.atR a (.code c:: .inLoop c::k)) cs w) b k cs e a' w':=by
  intro m
  induction m using Nat.strongRecOn with
  |_ m ih=>
   intro a w ⟨C,x,ρ,G,ov,hpc,hx,hm,hr⟩;have h1:=gj (GB:=GB) (C:=C) (Q0:=Q0) (hgo x) (hv x C hx) (round x C hpc hx);have h2:=h1.run ρ G ov a w hr;rw[hpc.rd] at h2;obtain⟨e,a₁,w₁,hq,harr⟩:=h2 b (.inLoop c::k) cs hro hb hrm
   cases e with
   |normal=>
    obtain⟨C',x',ρ',G',ov',hpc',⟨hx',hlt⟩,hr'⟩:=hq;obtain⟨e₂,a₂,w₂,hq₂,harr₂⟩:=ih (μ x') (hm▸hlt) a₁ w₁ ⟨C',x',ρ',G',ov',hpc',hx',rfl,hr'⟩;exact⟨e₂,a₂,w₂,hq₂, .of_steps (StepsIn.trans harr (.one (fenced_calm hb hrm J) stepR_inLoop)) harr₂⟩
   |exit id=>exact⟨_,a₁,w₁,hq, .pass (x:= .inLoop c) J (fun _ _=> .inl (by simp)) harr⟩
   |goto l=>exact⟨_,a₁,w₁,hq, .pass (x:= .inLoop c) J (fun _ _=> .inl (by simp)) harr⟩
   |ret=>exact⟨_,a₁,w₁,hq, .pass (x:= .inLoop c) J (fun _ _=> .inl (by simp)) harr⟩
   |panic ch=>exact⟨_,a₁,w₁,hq, .pass (x:= .inLoop c) J (fun _ _=> .inl (by simp)) harr⟩
   |outgrown=>exact⟨_,a₁,w₁,hq, .pass (x:= .inLoop c) J (fun _ _=> .inl (by simp)) harr⟩
 obtain⟨e,a',w',q,rr⟩:=key (μ x0) a w ⟨C,x0,ρ,G,ov,hp,hI,rfl,r0⟩;exact⟨e,a',w',q, .of_steps (.one (fenced_calm hb hrm J) stepR_loop) rr⟩
def H5{P:Program}{X:Type}{F:X->aB}{I:X->aD->Prop}(x:X)(hp:Pl C)(hI:I x C)(hF:uS (F x) fr:=by repeat (first|exact trivial|refine And.intro J ?_|refine And.intro (p9 J (by first|omega|(dsimp only;omega))) ?_|refine And.intro (p9 J (by simp)) ?_)):ao P GB C n Q0 fr own (.ex .normal (.ag (MI GB n F I)::K)):=
 ⟨fun ρ G ov a w r=>⟨C,x,ρ,G,ov,hp,hI,r.mono (wc hF) (fun k x e=>by cases e)⟩⟩
end
section
variable {GB:Gh} {C:aD} {n:Nat} {Q0:Exit->Act->World->Prop} {fr fr':aB} {own own':aF} {cf cf':Cf} {vc:List Prop} {ops:Array Oper} {r:List Oper} {K:List Kt}
def Uu{x y:Nat}{Φ:Act->World->Prop}{R:zt}(hfx:C.fx=fun _=>none)(h:yK x y fr own=some R)(hk:SX GB C n (aO R.fr) (ba R.own) Φ):SX GB C n (aO fr) (ba own) Φ:=by
 unfold yK at h;rw[cond_eq_ite] at h;split at h<;>try (cases h;done)
 rename_i hb;have hxy:x≠y:=fun e=>hb (by subst e;simp);rw[I7,Jg] at h;cases h;refine⟨fun ρ G ov a w r=>hk.run (fun k=>if k=y then ρ x else ρ k) G ov a w ?_⟩;have inv: ∀m B,ba (own.map fun e=>(bif Nat.beq e.1 y then x else bif Nat.beq e.1 x then y else e.1,bif Nat.beq e.1 y then none else sk x y e.2)) m=some B-> ∃m0 B0,ba own m0=some B0/\sk x y (some B0)=some B/\(m=y/\m0=x\/m≠y/\m≠x/\m0=m):=fun m B e=>by
  rw[F4 hxy] at e;split at e
  .cases e
  .rename_i hm
   split at e
   .cases hl:ba own x with
    |none=>rw[hl] at e;cases e
    |some B0=>rw[hl] at e;exact⟨x,B0,hl,e, .inl ⟨by assumption,J⟩⟩
   .cases hl:ba own m with
    |none=>rw[hl] at e;cases e
    |some B0=>rw[hl] at e;exact⟨m,B0,hl,e, .inr ⟨by assumption,hm,J⟩⟩
 have rho: ∀m m0,(m=y/\m0=x\/m≠y/\m≠x/\m0=m)->(fun k=>if k=y then ρ x else ρ k) m=ρ m0:=fun m m0 h=>by
  rcases h with⟨h1,h2⟩|⟨h1,_,h2⟩
  .subst h1 h2;simp
  .subst h2;exact if_neg h1
 refine⟨r.gb,r.h,r.sz,r.df,fun k f e=>?_,fun m B e=>?_,fun m m' B B' e e' hne=>?_,fun m p _ _ e=>by rw[hfx] at e;cases e⟩
 .rw[Ej] at e
  cases hf:aO fr k with
  |none=>rw[hf] at e;cases e
  |some g=>
   rw[hf] at e;cases e;obtain⟨v,h1,h2⟩:=r.fx k g hf;exact⟨v,h1,JM hxy h2⟩
 .obtain⟨m0,B0,h1,h2,h3⟩:=inv m B e
  obtain⟨os,h4,h5⟩:=r.bx m0 B0 h1;refine⟨os,?_,h5⟩;have hr:=rho m m0 h3
  cases B0 with
  |b=>cases h2;obtain⟨vs,q1,q2,q3,q4⟩:=h4;exact⟨vs,by rw[hr];exact q1,q2,q3,q4⟩
  |c=>cases h2;obtain⟨vs,q1,q2,q3,q4,q5⟩:=h4;exact⟨vs,by rw[hr];exact q1,q2,q3,q4,by rw[hr];exact q5⟩
  |o ty cs lo=>cases h2;obtain⟨b,q,q1,q2,q3⟩:=h4;exact⟨b,q,by rw[hr];exact q1,q2,F8 hxy q3⟩
 .obtain⟨m0,B0,h1,_,h3⟩:=inv m B e
  obtain⟨m1,B1,h4,_,h6⟩:=inv m' B' e';have q1:=rho m m0 h3;have q2:=rho m' m1 h6;simp only at q1 q2;rw[q1,q2];refine r.dj m0 m1 B0 B1 h1 h4 fun e=>?_;rcases h3 with⟨h7,h8⟩|⟨h7,h8,h9⟩<;>rcases h6 with⟨g7,g8⟩|⟨g7,g8,g9⟩
  .exact hne (h7.trans g7.symm)
  .exact g8 (by rw[<-g9,<-e,h8])
  .exact h8 (by rw[<-h9,e,g8])
  .exact hne (by rw[<-h9,e,g9])
def vA{P:Program}(x y:Nat){fr1:aB}{own1:aF}{c:Code}(hfx:C.fx=fun _=>none)(h:yK x y fr own=some ⟨fr1,own1⟩)(k:ao P GB C n Q0 fr1 own1 (.code c K)):ao P GB C n Q0 fr own (.code c K):=Uu hfx h k
def Gc(P:Program)(fb:Func)(R:Ending->World->Prop):Exit->Act->World->Prop:=bodyPostM (FW none) 0 P fb R
structure K9 (C:aD):Prop where
 mks:C.mks=[]
 rd:C.rd=none
 fx:C.fx=fun _=>none
def Eh[fu:Fu]{f:FuncId}{fb:Func}{c:Code}{m:Nat}{ds:List DV}{rv:DV}(hf:prog.funcs[f]? =some fb)(hb:fb.body=some c)(hn:(fb.name== "runtime.NumGoroutine")=false)(hm:fb.ntmps=m)(hlen:Nat.ble ds.length m=true)
  (hgo:go tt m fu.n [] (tg 0 ds) [] (.code c [])=⟨vc,fr,own,cf⟩)(k: ∀C:aD,K9 C->ao prog GB C m (Gc prog fb (mn C (fun v G'=>Is G' rv v))) fr own cf)
  (hv:autoParam (ah vc) fn._auto_1):PF GB prog f ds rv:=by
 intro G vs hg hvs;refine⟨⟨fb,hf,hn,by simp[hb]⟩,fun w hw=>?_⟩;have hlen':vs.length<=m:=by rw[hvs.len];simpa using hlen
 have h:=gj (GB:=GB) (C:=ot w G) (Q0:=Gc prog fb (mn (ot w G) (fun v G'=>Is G' rv v))) hgo hv (k (ot w G) ⟨J,J,J⟩);refine(callsIn_wide (n:=0)).1 (callsIn_of_wp_marks (F:=FW none) (n:=0) hf hb trivial ?_);refine h.run (fun _=>⟨none,0,0⟩) G [] _ w ⟨hg,IU hw,by simp;omega,J,fun k f e=>AJ hvs (fun k v hk=>?_) k f e,(fun nm B e=>by cases e),(fun nm nm' B B' e=>by cases e),fun nm p _ _ e=>by cases e⟩;obtain⟨j,rfl,hj⟩:=wT vs 0 k v hk;have hj':=(aY.1 hj).1;rw[kK (by simpa using hj')];simpa using hj
def aD.mk3(C:aD)(D:Nat):aD:={C with ex:=(D, .deferred (some []))::C.ex,mks:=[{target:= .collected D,args:= #[]}]}
def AQ{fb:Func}{e:Exit}{ds:List DV}{rv:DV}{D:Nat}(hD:C.w0.heap.size<=D)(hx: ∀p∈C.ex,p.1≠D)(hr:sA tt fr own fb.results.toList=some ds)(hd:jn ds=rv)(he:Cn e=true:=by rfl):ao prog GB (C.mk3 D) n (Gc prog fb (mn C (fun v G'=>Is G' rv v))) fr own (.ex e []):=by
 refine⟨fun ρ G ov a w r=>?_⟩;obtain⟨vs,h1,h2⟩:=EF r hr;have hk:Is G rv (iv vs):=hd▸En h2;have hex:((D,Obj.deferred (some [])):Nat×Obj)∈(C.mk3 D).ex:=aZ;have h3:bt C ov G (w.putObj D (.deferred none)):=r.h.putx hex hD (fun _ _ _ h=>by cases h) J J J fun p hp=> .inr ⟨aK _ hp,hx p hp⟩;have hres:=uQ (C:=C) (G:=G) (own:=ov) (w:=w.putObj D (.deferred none)) h1 (c8 a) h3;have key:LeavesInM (FW none) 0 prog fb a.tmps (mn C (fun v G'=>Is G' rv v)) a.defers .returning w:=by
  rw[r.df];exact⟨by simp, .inl ⟨D,_,J,run_takeDeferred (r.h.ext _ hex).2,_,hres,_,G,J,h3.drop (lJ _),hk⟩⟩
 cases e with
 |ret=>exact key
 |normal=>exact key
 |_=>cases he
end
section
variable {GB:Gh} {C:aD} {n:Nat} {Q0:Exit->Act->World->Prop} {fr fr':aB} {own own':aF} {cf cf':Cf} {vc:List Prop} {ops:Array Oper} {r:List Oper} {K:List Kt}
def bA.later{lk:LK}{bk:BM}{ρ:NE}{G G1:Gh}{ov:List aw}{a:Act}{w w1:World}(r:bA GB C n lk bk ρ G ov a w)(h:bt (ot w G) [] G1 w1):bA GB C n lk bk ρ G1 ov a w1:=
 ⟨r.gb.trans h.gle,r.h.called h,r.sz,r.df,fun k f e=>by obtain⟨y,h1,h2⟩:=r.fx k f e;exact⟨y,h1,h2.up h.gle⟩,fun nm B e=>by obtain⟨os,h1,h2⟩:=r.bx nm B e;exact⟨os,h1.up h.gle,h2⟩,r.dj,r.fxd⟩
def y7:List Nat->List DV->aB->aB
 |p::ps,d::ds,fr=>y7 ps ds ((p, .d d)::fr)
 |_,_,fr=>fr
def Kw{ρ:NE}{G:Gh}: ∀{ps:List Nat} {ds:List DV} {ys tm:List Value} {fr:aB},IsLs G ds ys->(∀p∈ps,p<tm.length)->(∀k f,aO fr k=some f-> ∃y,tm[k]? =some y/\bF ρ G f y)->
  ((ps.zip ys).foldl (fun t e=>t.set e.1 e.2) tm).length=tm.length/\ ∀k f,aO (y7 ps ds fr) k=some f-> ∃y,((ps.zip ys).foldl (fun t e=>t.set e.1 e.2) tm)[k]? =some y/\bF ρ G f y
 |[],ds,ys,tm,fr,_,_,h=>⟨J,fun k f e=>h k f (by cases ds<;>exact e)⟩
 |p::ps,[],ys,tm,fr,hd,_,h=>by rw[fh.1 hd];exact⟨J,fun k f e=>h k f e⟩
 |p::ps,d::ds,ys,tm,fr,hd,hp,h=>by
  obtain⟨y,m,rfl,h1,h2⟩:=bu.1 hd;simp only[List.zip_cons_cons,kV,y7];have:=Kw (ps:=ps) (ds:=ds) (ys:=m) (tm:=tm.set p y) (fr:=(p, .d d)::fr) h2 (fun q hq=>by rw[bZ];exact hp q (aK _ hq)) fun k f e=>by
   rw[kj] at e;split at e
   .rename_i hk;subst hk;cases e
    exact⟨y,by rw[mR];rw[if_pos J,if_pos (hp k aZ)],h1⟩
   .rename_i hk
    obtain⟨u,h3,h4⟩:=h k f e;exact⟨u,by rw[mR];rw[if_neg (fun e=>hk e.symm)];exact h3,h4⟩
  rw[bZ] at this;exact this
def Kf: ∀(l:List (Nat×Value)) (t:Array Value),(l.foldl (fun t e=>t.setIfInBounds e.1 e.2) t).toList=l.foldl (fun t e=>t.set e.1 e.2) t.toList
 |[],t=>rfl
 |e::l,t=>by simp only[kV];rw[Kf l];simp
def HG:FX->Bool
 | .ov nm _=>Nat.ble 2000000 nm
 | .rw _=>false
 | .be .. =>false
 | .rs .. =>false
 | .bx .. =>false
 |_=>true
def DY:aB->Bool
 |[]=>true
 |(_,f)::t=>HG f&&DY t
def Kv: ∀{fr:aB},DY fr=true-> ∀k f,aO fr k=some f->HG f=true
 |[],_,k,f,e=>by cases e
 |(j,g)::t,h,k,f,e=>by
  simp only[DY,bT] at h;rw[kj] at e;split at e
  .cases e;exact h.1
  .exact Kv h.2 k f e
def KC(GB:Gh)(C:aD)(n:Nat)(fr:aB)(own:aF)(a:Act)(w:World):Prop:= ∃ρ G ov,bA GB C n (aO fr) (ba own) ρ G ov a w
def atR{P:Program}:ao P GB C n Q0 fr own (.ex .normal (.ag (KC GB C n fr own)::K)):=⟨fun ρ G ov a w r=>⟨ρ,G,ov,r⟩⟩
def RQ(GB:Gh)(C:aD)(n:Nat)(p:Prop)(O:aF){σ:Type}(S:σ->aF)(q:σ->Prop):Exit->Act->World->Prop
 | .normal,a,w=>p/\ ∃ρ G ov,bA GB C n (fun _=>none) (ba O) ρ G ov a w
 | .ret,a,w=> ∃s,q s/\ ∃ρ G ov,bA GB C n (fun _=>none) (ba (S s)) ρ G ov a w
 |_,_,_=>False
def rq{P:Program}{p:Prop}{O:aF}{σ:Type}{S:σ->aF}{q:σ->Prop}(hp:p)(hO:vU O own:=by repeat (first|exact trivial|refine And.intro J ?_)):ao P GB C n (RQ GB C n p O S q) fr own (.ex .normal []):=
 ⟨fun ρ G ov a w r=>⟨hp,ρ,G,ov,r.mono (fun k x e=>by cases e) (vh hO)⟩⟩
def rqX{P:Program}{p:Prop}{O:aF}{σ:Type}{S:σ->aF}{q:σ->Prop}(s:σ)(hq:q s)(hO:vU (S s) own:=by repeat (first|exact trivial|refine And.intro J ?_)):ao P GB C n (RQ GB C n p O S q) fr own (.ex .ret []):=
 ⟨fun ρ G ov a w r=>⟨s,hq,ρ,G,ov,r.mono (fun k x e=>by cases e) (vh hO)⟩⟩
def DM{P:Program}{g:Operand}{ps:Array Nat}{assign body:Code}{gf:FuncId}{caps:List Value}{ds:List DV}{E:List (List DV)}{σ:Type}(I:Nat->aF)(p:Nat->Prop)(S:σ->aF)(q:σ->Prop)(fr1:aB)
  (h0:K9 C)(hg:aH (aO fr) g=some (.d (.v (.func (.func gf) ⟨[]⟩ ⟨caps⟩))))(hIt:It GB P gf ds E)(hc:IsLs GB ds caps)
  (hfr:uS fr1 fr)(hfix:DY fr1=true)(hO:vU (I 0) own)(hp:p 0)(hps: ∀e∈E,e.length=ps.size)(hpn:ps.toList.all (fun k=>Nat.blt k n)=true)(hn2:Nat.ble n 2000000=true)
  (round: ∀k e GB',E[k]? =some e->bp GB GB'->p k-> ∃fr2 own2,(∀C2,ao P GB' C2 n (fun _ _ _=>False) (y7 ps.toList e fr1) (I k) (.code assign [.ag (KC GB' C2 n fr2 own2)]))/\ ∀C2,ao P GB' C2 n (RQ GB' C2 n (p (k+1)) (I (k+1)) S q) fr2 own2 (.code body []))
  (after: ∀D,C.w0.heap.size<=D->(∀x∈C.ex,x.1≠D)->p E.length->ao P GB (C.mk3 D) n Q0 fr1 (I E.length) (.ex .normal K))
  (early: ∀D s,C.w0.heap.size<=D->(∀x∈C.ex,x.1≠D)->q s->ao P GB (C.mk3 D) n Q0 fr1 (S s) (.ex .ret K)):
  ao P GB C n Q0 fr own (.code (.rangeFunc g ps assign body) K):=by
 refine⟨fun ρ0 G0 ov0 a w r=>?_⟩;rw[h0.rd];refine wpIn_rangeFunc fun fn _=>?_;obtain⟨y,hy,hy'⟩:=r.ev hg;rw[(bc (G:=G0)).1 hy'] at hy;have hev:=bh (c8 a) hy
 let D:=w.heap.size
 let l:=w.heap.size+1
 let rec_:Loop:={state:= .ready,pending:=none,fn,tmps:=a.tmps,params:=ps,assign,body,defers:=D}
 let w2:=(w.alloc (.deferred (some []))).alloc (.loop rec_)
 let mk:Deferred:={target:= .collected D,args:= #[]}
 let fx1:Nat->Option Addr:=fun nm=>(ρ0 nm).a
 let C1:Loop->aD:=fun rc=>{C with ex:=(l, .loop rc)::(D, .deferred (some []))::C.ex,mks:=[mk],fx:=fx1}
 let a0:Act:={a with defers:=[mk]++a.defers}
 have hszD:C.w0.heap.size<=D:=r.h.size;have hlt: ∀x∈C.ex,x.1<D:=fun x hx=>il (r.h.ext x hx).2;have hszl:C.w0.heap.size<=l:=Nat.le_succ_of_le hszD;have hnl: ∀x∈((D,Obj.deferred (some []))::C.ex:List (Nat×Obj)),x.1≠l:=fun x hx=>by
  rcases aT.1 hx with rfl|hx
  .show D≠D+1;omega
  .have:=hlt x hx;show x.1≠D+1;omega
 have ncl: ∀rc:Loop,Je (.loop rc):=fun rc _ _ _ h=>by cases h
 -- the slots of the loop, at any time
 have stat: ∀(ρ':NE) (G':Gh),bp G0 G'->(∀nm p,n<=nm->2000000<=nm->fx1 nm=some p->(ρ' nm).a=some p)-> ∀k f,aO fr1 k=some f-> ∃y,a.tmps[k]? =some y/\bF ρ' G' f y:=by
  intro ρ' G' hg' hf k f e;obtain⟨y,h1,h2⟩:=r.fx k f (wc hfr k f e);refine⟨y,h1,?_⟩;have hx:=Kv hfix k f e
  cases f with
  |ov nm off=>
   obtain⟨b,h3,h4⟩:=h2;have h5:2000000<=nm:=by simpa[HG] using hx
   have h6:n<=2000000:=by simpa using hn2
   exact⟨b,hf nm _ (by omega) h5 h3,h4⟩
  |rw _=>cases hx
  |be _ _ _ _=>cases hx
  |rs _ _ _ _=>cases hx
  |bx _ _ _ _=>cases hx
  |_=>exact(h2.up hg').ren fun _ h=>by cases h
 let Jv:Nat->Gh->World->Prop:=fun k G' w'=>p k/\ ∃ρ ov,bA G0 (C1 rec_) n (aO fr1) (ba (I k)) ρ G' ov a0 w'
 let rcx:Loop:={rec_ with state:= .done,pending:=some .ret}
 let Jx:Gh->World->Prop:=fun G' w'=> ∃s,q s/\ ∃ρ ov,bA G0 (C1 rcx) n (aO fr1) (ba (S s)) ρ G' ov a0 w'
 have hsz0:a0.tmps.size=n:=r.sz;have hdf0:a0.defers=[mk]:=by show [mk]++a.defers=_;rw[r.df,h0.mks];rfl
 have H:zn G0 P l Jv Jx E:=by
  refine⟨fun k=>⟨fun G' w' ⟨_,ρ,ov,h⟩=>h.h.sub,fun G' w' G1 w1 ⟨h1,ρ,ov,h⟩ k=>⟨h1,ρ,ov,h.later k⟩⟩,⟨fun G' w' ⟨_,_,ρ,ov,h⟩=>h.h.sub,fun G' w' G1 w1 ⟨s,h1,ρ,ov,h⟩ k=>⟨s,h1,ρ,ov,h.later k⟩⟩,?_⟩;intro k e G' w' ys hE hgg ⟨hpk,ρ,ov,r1⟩ hys;have hrec:w'.heap[l]? =some (.loop rec_):=(r1.h.ext _ aZ).2;have hel:=hps e (aV hE);obtain⟨fr2,own2,hA,hB⟩:=round k e G' hE (r.gb.trans hgg) hpk;refine⟨_,_,_,_,run_yield hrec (by show ys.length=ps.size;rw[hys.len,hel]),roundIn_of_wpIn trivial ?_⟩
  let C2:aD:={C1 rec_ with mks:=[],rd:=some l}
  let tm:Array Value:=(ps.zip (⟨ys⟩:Array Value)).foldl (fun tmps (t,a)=>tmps.setIfInBounds t a) a.tmps
  have htm:tm.toList=(ps.toList.zip ys).foldl (fun t e=>t.set e.1 e.2) a.tmps.toList:=by
   simp only[tm];rw[<-Array.foldl_toList,Array.toList_zip];exact Kf _ _
  have hfx0:=r1.fx;obtain⟨q1,q2⟩:=Kw (ρ:=ρ) (ps:=ps.toList) (tm:=a.tmps.toList) (fr:=fr1) hys (fun k hk=>by have:=dK.1 hpn k hk;rw[iR,r.sz];simpa[mL] using this) fun k f e=>by
   obtain⟨y,h1,h2⟩:=hfx0 k f e;exact⟨y,by simpa using h1,h2⟩
  have hR0:bA G' C2 n (aO (y7 ps.toList e fr1)) (ba (I k)) ρ G' ov {tmps:=tm,defers:=[]} w':=by
   refine⟨bp.refl _,r1.h.ctx J J J (fun _ h=>h),?_,J,fun k f e=>?_,r1.bx,r1.dj,r1.fxd⟩
   .show tm.size=n
    rw[<-iR,htm,q1,iR,r.sz]
   .obtain⟨y,h1,h2⟩:=q2 k f e
    exact⟨y,by rw[<-htm] at h1;simpa using h1,h2⟩
  refine wpIn_mono ((hA C2).run ρ G' ov _ w' hR0) fun ex a1 w1 hex=>?_
  cases ex with
  |normal=>
   obtain⟨ρ2,G2,ov2,r2⟩:=hex;have hrec1:w1.heap[l]? =some (.loop rec_):=(r2.h.ext _ aZ).2;refine⟨_,run_beginRound hrec1 J,?_⟩
   let busy:Loop:={rec_ with state:= .busy}
   let C3:aD:={C1 busy with mks:=[],rd:=some l}
   have h3:bt C3 ov2 G2 (w1.putObj l (.loop busy)):=r2.h.putx aZ hszl (ncl _) J J J fun x hx=>by
    rcases aT.1 hx with rfl|hx
    .exact .inl J
    .exact .inr ⟨aK _ hx,hnl x hx⟩
   refine wpIn_mono ((hB C3).run ρ2 G2 ov2 a1 (w1.putObj l (.loop busy)) ⟨r2.gb,h3,r2.sz,r2.df,r2.fx,r2.bx,r2.dj,r2.fxd⟩) fun ex a2 w3 hex=>?_
   cases ex with
   |normal=>
    obtain⟨hp1,ρ3,G3,ov3,r3⟩:=hex;have hrec3:w3.heap[l]? =some (.loop busy):=(r3.h.ext _ aZ).2;refine⟨_,_,run_endRound none hrec3,G3,r3.gb, .inl ⟨J,hp1,ρ3,ov3,hgg.trans r3.gb,?_,hsz0,hdf0,stat ρ3 G3 (hgg.trans r3.gb) r3.fxd,r3.bx,r3.dj,r3.fxd⟩⟩;exact r3.h.putx aZ hszl (ncl _) J J J fun x hx=>by
     rcases aT.1 hx with rfl|hx
     .exact .inl J
     .exact .inr ⟨aK _ hx,hnl x hx⟩
   |ret=>
    obtain⟨s,hq,ρ3,G3,ov3,r3⟩:=hex;have hrec3:w3.heap[l]? =some (.loop busy):=(r3.h.ext _ aZ).2;refine⟨_,_,run_endRound (some .ret) hrec3,G3,r3.gb, .inr ⟨J,s,hq,ρ3,ov3,hgg.trans r3.gb,?_,hsz0,hdf0,stat ρ3 G3 (hgg.trans r3.gb) r3.fxd,r3.bx,r3.dj,r3.fxd⟩⟩;exact r3.h.putx aZ hszl (ncl _) J J J fun x hx=>by
     rcases aT.1 hx with rfl|hx
     .exact .inl J
     .exact .inr ⟨aK _ hx,hnl x hx⟩
   |exit id=>exact hex.elim
   |goto t=>exact hex.elim
   |panic ch=>exact hex.elim
   |outgrown=>exact hex.elim
  |exit id=>exact hex.elim
  |goto t=>exact hex.elim
  |ret=>exact hex.elim
  |panic ch=>exact hex.elim
  |outgrown=>exact hex.elim
 have hC1:bt (C1 rec_) ov0 G0 w2:=by
  have h1:bt {C with ex:=(D, .deferred (some []))::C.ex} ov0 G0 (w.alloc (.deferred (some []))):=r.h.addx (fun _ _ _ h=>by cases h) J J J fun x hx=>aT.1 hx;refine h1.addx (ncl rec_) J J J fun x hx=>?_;rcases aT.1 hx with rfl|hx
  .exact .inl (by show((l,Obj.loop rec_):Nat×Obj)=_;rw[show(w.alloc (.deferred (some []))).heap.size=w.heap.size+1 by simp])
  .exact .inr hx
 have hJ0:Jv 0 G0 w2:=⟨hp,ρ0,ov0,bp.refl _,hC1,hsz0,hdf0,stat ρ0 G0 (bp.refl _) (fun _ _ _ _ h=>h),fun nm B e=>r.bx nm B (vh hO nm B e),fun nm nm' B B' e e'=>r.dj nm nm' B B' (vh hO nm B e) (vh hO nm' B' e'),fun _ _ _ _ h=>h⟩;refine⟨l,[mk],w2,{target:= .fn (.func gf) ⟨caps⟩,args:= #[.func (.yield l) #[] #[]]},w2,gf, #[.func (.yield l) #[] #[]]++⟨caps⟩,w2,run_enterLoop_outer fn a.tmps ps assign body,?_,fun _ _=>trivial,?_,fun h=>(by cases h),?_⟩
 .have he:(⟨[]⟩:Array Value)++Array.map a.eval #[.const (.func (.yield l) #[] #[])]= #[.func (.yield l) #[] #[]]:=by
   apply Array.ext';rw[Array.toList_append,pQ];rfl
  simp only[resolve,hev,Deferred.ofValue];rw[he];rfl
 .simp only[invoke]
  exact Ij hIt.able _ _
 refine CallsIn.mono (show CallsIn (FW none) 0 P gf _ w2 _ from by
  have:=hIt.run l Jv Jx G0 r.gb H w2 caps hJ0 (hc.up r.gb);rw[show(#[Value.func (.yield l) #[] #[]]++(⟨caps⟩:Array Value))=⟨.func (.yield l) #[] #[]::caps⟩ by simp];exact this) fun e w3 he=>?_
 obtain⟨G',hgg,⟨v,rfl⟩,hj⟩:=he;have fin: ∀(rc:Loop) (O:aF) (ρ:NE) (ov:List aw),bA G0 (C1 rc) n (aO fr1) (ba O) ρ G' ov a0 w3->bA GB (C.mk3 D) n (aO fr1) (ba O) ρ G' ov a0 (w3.putObj l (.loop {rc with state:= .exhausted})):=fun rc O ρ ov r3=>
  ⟨r.gb.trans r3.gb,r3.h.putx aZ hszl (ncl _) J J J fun x hx=> .inr ⟨aK _ hx,hnl x hx⟩,r3.sz,r3.df,r3.fx,r3.bx,r3.dj,fun nm p _ _ e=>by rw[show(C.mk3 D).fx=fun _=>none from h0.fx] at e;cases e⟩
 have hxD: ∀x∈C.ex,x.1≠D:=fun x hx e=>by have:=hlt x hx;omega
 rcases hj with⟨hpn,ρ,ov,r3⟩|⟨s,hq,ρ,ov,r3⟩
 .have hrec3:w3.heap[l]? =some (.loop rec_):=(r3.h.ext _ aZ).2
  have:=(after D hszD hxD hpn).run ρ G' ov a0 _ (fin rec_ _ ρ ov r3);rw[show(C.mk3 D).rd=none from h0.rd] at this;exact⟨_,_,run_endLoop hrec3 (by simp[rec_]),this⟩
 .have hrec3:w3.heap[l]? =some (.loop rcx):=(r3.h.ext _ aZ).2
  have:=(early D s hszD hxD hq).run ρ G' ov a0 _ (fin rcx _ ρ ov r3);rw[show(C.mk3 D).rd=none from h0.rd] at this;exact⟨_,_,run_endLoop hrec3 (by simp[rcx]),wpIn_ret this⟩
end
section
variable {GB:Gh} {C:aD} {n:Nat} {Q0:Exit->Act->World->Prop} {fr fr':aB} {own own':aF} {cf cf':Cf} {vc:List Prop} {ops:Array Oper} {o:Oper} {r:List Oper} {K:List Kt}
def CV(GB:Gh)(P:Program)(f:FuncId)(ds:List DV)(gf:FuncId)(dp:DV):Prop:=
 ∀G vs,bp GB G->IsLs G ds vs->Fn P f vs G fun v G'=> ∃pv,v= .func (.func gf) ⟨[]⟩ ⟨[pv]⟩/\Is G' dp pv
def DF(gf:FuncId)(dp:DV)(v:Value)(G':Gh):Prop:= ∃pv,v= .func (.func gf) ⟨[]⟩ ⟨[pv]⟩/\Is G' dp pv
def NB[fu:Fu]{f gf:FuncId}{fb:Func}{c:Code}{m:Nat}{ds:List DV}{dp:DV}(hf:prog.funcs[f]? =some fb)(hb:fb.body=some c)(hn:(fb.name== "runtime.NumGoroutine")=false)(hm:fb.ntmps=m)(hlen:Nat.ble ds.length m=true)
  (hgo:go tt m fu.n [] (tg 0 ds) [] (.code c [])=⟨vc,fr,own,cf⟩)(k: ∀C:aD,ao prog GB C m (gn C prog fb (mn C (DF gf dp))) fr own cf)
  (hv:autoParam (ah vc) cL._auto_1):CV GB prog f ds gf dp:=by
 intro G vs hg hvs;refine Fn.introR hf hb hn hm (by rw[hvs.len];exact hlen) fun C _ _ hrd hfx=>?_;intro a w rl;refine xu hrd ?_;have h:=gj (GB:=GB) (C:=C) (Q0:=gn C prog fb (mn C (DF gf dp))) hgo hv (k C);exact h.run (fun _=>⟨none,0,0⟩) G [] a w ⟨hg,rl.h,rl.sz,rl.df,(fun k f e=>AJ hvs rl.fr k f e),(fun nm B e=>by cases e),(fun nm nm' B B' e=>by cases e),fun nm p _ _ e=>by rw[hfx] at e;cases e⟩
def RD{P:Program}{fb:Func}{gf:FuncId}{dp:DV}{pv:Value}{t:Nat}(hr:fb.results.toList=[.tmp t])(hl:aO fr t=some (.d (.v (.func (.func gf) ⟨[]⟩ ⟨[pv]⟩))))(hp:Is GB dp pv):ao P GB C n (gn C P fb (mn C (DF gf dp))) fr own (.ex .ret []):=by
 refine⟨fun ρ G ov a w r=>?_⟩;obtain⟨y,hy,hy'⟩:=r.ev (x:= .tmp t) hl;rw[(bc (G:=G)).1 hy'] at hy;exact zD (C:=C) (n:=n) (fr:=cE a) (own:=ov) (G:=G) (K:=DF gf dp) (by rw[hr];exact .tmp hy .nil) ⟨pv,J,hp.up r.gb⟩ a w ⟨r.h,r.sz,c8 a,r.df⟩
def Oj(fr:aB)(cf:Cf):Option (FuncId×Value):=match cg fr cf with
 |some ⟨_, .makeFunc (.func f) ⟨[]⟩ ⟨[x]⟩,_,_,_,_⟩=>match aH (bz fr cf) x with
  |some (.d (.v pv))=>some (f,pv)
  |_=>none
 |_=>none
def Ky[fu:Fu]{f:FuncId}{pv:Value}(h:Oj fr cf=some (f,pv))(hgo:dh tt n fu.n fr own cf (.d (.v (.func (.func f) ⟨[]⟩ ⟨[pv]⟩))) [] []=⟨vc,fr',own',cf'⟩)(k:ao prog GB C n Q0 fr' own' cf')
  (hv:autoParam (ah vc) cL._auto_1):ao prog GB C n Q0 fr own cf:=by
 unfold Oj at h;split at h<;>try (cases h;done)
 rename_i hh;split at h<;>cases h;rename_i hx;exact us hh (.x1 hx fun ρ G ov a w y _ r h1 h2=>by
  rw[(bc (G:=G)).1 h2] at h1;exact⟨_,(bc (G:=G)).2 J,UF (l1:=[]) (l2:=[pv]) J (by simp[h1])⟩) hgo hv k
def DC[fu:Fu]{f gf:FuncId}{ds:List DV}{dp:DV}{d:Nat}{fr':Value->aB}{own':Value->aF}{cf':Value->Cf}{vc:Value->List Prop}(ha:BJ fr (.ops ops (o::r) K)=some (f,ds))(hdst:o.dst=some d)(hd:b9 n (some d)=true)(hF:CV GB prog f ds gf dp)
  (hgo: ∀pv,go tt n fu.n [] ((d, .d (.v (.func (.func gf) ⟨[]⟩ ⟨[pv]⟩)))::fr) own (.ops ops r K)=⟨vc pv,fr' pv,own' pv,cf' pv⟩)
  (k: ∀GB' pv,bp GB GB'->Is GB' dp pv->ao prog GB' C n Q0 (fr' pv) (own' pv) (cf' pv))
  (hv: ∀pv,ah (vc pv):=by intros;first|exact trivial|(simp only[ah];kernel_rfl)|(simp only[ah];omega)):ao prog GB C n Q0 fr own (.ops ops (o::r) K):=by
 unfold BJ at ha;split at ha<;>try (cases ha;done)
 rename_i fo args tys ty pos af gd hh;obtain⟨ops0,h1,h2⟩:=IB hh
 cases h1
 cases hdst
 obtain⟨c1,c2⟩:=Ik ha;refine⟨fun ρ G ov a w rl=>?_⟩;obtain⟨y,hy,hy'⟩:=rl.ev c1;rw[(bc (G:=G)).1 hy'] at hy;obtain⟨vs,h3,h4⟩:=rl.evDs c2;simp only[wpListIn];rw[if_pos (B9 h2 ρ G ov a w rl)];refine FN (K':=fun a' w'=>a'.defers=C.mks/\wpListIn (FW C.rd) 0 prog ops (cQ C.rd prog Q0 K) r a' w') (fun Q=>?_) (fun a' w' q=>⟨q.1.trans rl.df.symm,q.2⟩);refine zC hy h3 (hF G vs rl.gb h4) hd (fun v G' hG hK a' w' rel=>?_) a w Q ⟨rl.h,rl.sz,c8 a,rl.df⟩;obtain⟨pv,rfl,hpv⟩:=hK;refine⟨rel.df,?_⟩;have:=gj (GB:=G') (C:=C) (Q0:=Q0) (hgo pv) (hv pv) (k G' pv (rl.gb.trans hG.le) hpv);refine this.run ρ G' ov a' w' ⟨bp.refl _,rel.h,rel.sz,rel.df,fun j g e=>?_,fun nm B e=>by obtain⟨os,h5,h6⟩:=rl.bx nm B e;exact⟨os,h5.up hG.le,h6⟩,rl.dj,rl.fxd⟩;have e':er (aO fr) (some d) (.d (.v (.func (.func gf) ⟨[]⟩ ⟨[pv]⟩))) j=some g:=by
  rw[kj] at e;simp only[er];split at e
  .rename_i hk;rw[if_pos hk];exact e
  .rename_i hk;rw[if_neg hk];exact e
 exact(kO rel).fx (fun k g _ e=>by obtain⟨u,h5,h6⟩:=rl.fx k g e;exact⟨u,h5,h6.up hG.le⟩) (show bF ρ G' (.d (.v (.func (.func gf) ⟨[]⟩ ⟨[pv]⟩))) _ from(bc (G:=G')).2 rfl) j g e'
end
section
variable {GB:Gh} {C:aD} {n:Nat} {Q0:Exit->Act->World->Prop} {fr fr':aB} {own own':aF} {cf cf':Cf} {vc:List Prop}
def glA(fr:aB)(cf:Cf):Option Nat:=match cg fr cf with
 |some ⟨_, .load t (.global g),_,_,_,_⟩=>(match dq tt t with
  |some i=>match i.ag with
   |some none=>some g
   |_=>none
  |none=>none)
 |_=>none
def Qj{d:Nat}{f:FX}{x:DV}(hl:aO fr d=some f)(e:jG f=some x){Φ:Act->World->Prop}(h:SX GB C n (aO ((d, .d x)::fr)) (ba own) Φ):SX GB C n (aO fr) (ba own) Φ:=qb (g:= .d x) hl (fun _ _ _ k=>mI k e) h
def Py(d:Nat){f:FX}(x:DV){e:Exit}{K:List Kt}(hl:aO fr d=some f)(e1:jG f=some x)(k:ao prog GB C n Q0 ((d, .d x)::fr) own (.ex e K)):ao prog GB C n Q0 fr own (.ex e K):=Qj hl e1 k
def Lx(d:Nat){f:FX}(x:DV){c:Code}{K:List Kt}(hl:aO fr d=some f)(e1:jG f=some x)(k:ao prog GB C n Q0 ((d, .d x)::fr) own (.code c K)):ao prog GB C n Q0 fr own (.code c K):=Qj hl e1 k
def aIe{nm0 nm:Nat}{B1 B2:Option Bk}:ba (mv (mv own nm0 B1) nm B2)=upB (upB (ba own) [(nm0,B1)]) [(nm,B2)]:=by
 funext j;rw[xo];simp only[upB];rw[xo]
def Ug{nm0 nm k:Nat}(hnm:Nat.blt nm 2000000=true){ty0:TypeId}{cs:List FX}{lo:Bool}(hb:ba own nm0=some (.o ty0 cs lo))(hk:cs[k]? =some .nl)(hne:nm0≠nm){Φ:Act->World->Prop}{ty s:Nat}(hf:kt [nm] none (aO fr) (ba own))
  (h:SX GB C n (aO fr) (ba (mv (mv own nm0 (some (.o ty0 (cs.set k (.rw nm)) lo))) nm (some (.b ty s [] true)))) Φ):SX GB C n (aO fr) (ba own) Φ:=by
 refine⟨fun ρ G ov a w r=>?_⟩;obtain⟨f1,f2⟩:=hf nm aZ;rw[aIe] at h;refine h.run (fun k=>if k=nm then⟨none,0,0⟩ else ρ k) G ov a w ⟨r.gb,r.h,r.sz,r.df,fun k f e=>?_,fun m B e=>?_,fun m m' B B' e e' hne=>?_,fun m p h1 h2 e=>by
  have:nm<2000000:=by simpa[mL] using hnm
  show(if m=nm then(⟨none,0,0⟩:SV) else ρ m).a=_;rw[if_neg (by omega)];exact r.fxd m p h1 h2 e⟩
 .obtain⟨v,h1,h2⟩:=r.fx k f e
  exact⟨v,h1,h2.ren fun m hm=>vm _ fun hc=>f1 k f (by simp) e (by rw[hm,hc])⟩
 .simp only[upB] at e
  by_cases hm:m=nm
  .subst hm;simp only[if_true] at e;cases e
   exact⟨[],⟨[],by simp only[if_true];exact .inl ⟨J,J,J⟩, .nil,by simp,fun _ o ho=>by cases ho⟩,fun o ho=>by cases ho⟩
  .simp only[hm,if_false] at e
   by_cases hm0:m=nm0
   .subst hm0;simp only[if_true] at e;cases e
    obtain⟨os,h1,h2⟩:=r.bx m _ hb;have h1':lE (fun k=>if k=nm then⟨none,0,0⟩ else ρ k) G m (.o ty0 cs lo) os:=h1.ren (if_neg hm) fun q hq=>vm _ fun hc=>f2 m _ hm hb (by rw[<-hc];exact hq);obtain⟨b,ms,k1,k2,k3⟩:=h1';refine⟨os,⟨b,ms,k1,k2,?_⟩,h2⟩;obtain⟨y,e1,e2⟩:=k3.get hk;have:=k3.set (f:= .rw nm) (y:=y) k (by show y=_;simp only[if_true];exact e2);rwa [show ms.set k y=ms by apply kU;intro j;rw[mR];split<;>(try rfl);rename_i hj;subst hj;split<;>simp_all] at this
   .simp only[hm0,if_false] at e
    obtain⟨os,h1,h2⟩:=r.bx m B e;exact⟨os,h1.ren (if_neg hm) fun q hq=>vm _ fun hc=>f2 m B hm e (by rw[<-hc];exact hq),h2⟩
 .intro b hbb hb'
  have key: ∀q B,upB (upB (ba own) [(nm0,some (.o ty0 (cs.set k (.rw nm)) lo))]) [(nm,some (.b ty s [] true))] q=some B->q≠nm-> ∃B0,ba own q=some B0:=fun q B eq hq=>by
   simp only[upB,hq,if_false] at eq;by_cases hq0:q=nm0
   .subst hq0;exact⟨_,hb⟩
   .simp only[hq0,if_false] at eq;exact⟨_,eq⟩
  by_cases hm:m=nm
  .simp[hm] at hbb
  .by_cases hm':m'=nm
   .simp[hm'] at hb'
   .obtain⟨B0,g0⟩:=key m B e hm
    obtain⟨B1,g1⟩:=key m' B' e' hm';simp only[hm,hm',if_false] at hbb hb';exact r.dj m m' B0 B1 g0 g1 hne b hbb hb'
def SE(nm0 k nm ty s:Nat){ty0:TypeId}{cs:List FX}{lo:Bool}{own1:aF}{c:Code}{K:List Kt}(hb:ba own nm0=some (.o ty0 cs lo))(hk:cs[k]? =some .nl)(hf:vz [nm] none fr own=true)(hne:Nat.beq nm0 nm=false)
  (ho:mv (mv own nm0 (some (.o ty0 (cs.set k (.rw nm)) lo))) nm (some (.b ty s [] true))=own1)(h:ao prog GB C n Q0 fr own1 (.code c K))(hnm:Nat.blt nm 2000000=true:=by rfl):ao prog GB C n Q0 fr own (.code c K):=by
 subst ho;exact Ug hnm hb hk (fun e=>by subst e;rw[oX] at hne;cases hne) (Ae hf) h
def PL{ρ:NE}{G:Gh}: ∀{a b:List FX} {m:List Value},dm ρ G (a++b) m-> ∃m1 m2,m=m1++m2/\dm ρ G a m1/\dm ρ G b m2
 |[],b,m,h=>⟨[],m,J,J,h⟩
 |f::t,b,m,⟨y,n,e,h1,h2⟩=>by
  obtain⟨m1,m2,rfl,k1,k2⟩:=PL h2;exact⟨y::m1,m2,e,⟨y,m1,J,h1,k1⟩,k2⟩
def K7{ρ:NE}{G:Gh}: ∀{l:List DV} {m:List Value},dm ρ G (l.map .d) m->IsLs G l m
 |[],m,h=>fh.2 h
 |d::t,m,⟨y,n,e,h1,h2⟩=>by subst e;exact .cons h1 (K7 h2)
def bzA(fr:aB)(cf:Cf):Option (Nat×List FX):=match cg fr cf with
 |some ⟨some d, .build t ⟨[]⟩,_,_,_,_⟩=>match dq tt t with
  |some ⟨.st _,_,some zx,_⟩=>some (d,zx)
  |_=>none
 |_=>none
end
section
variable {GB:Gh} {C:aD} {n:Nat} {Q0:Exit->Act->World->Prop} {fr fr':aB} {own own':aF} {cf cf':Cf} {vc:List Prop} {ops:Array Oper} {o:Oper} {r:List Oper} {K:List Kt}
def O2{p q:Nat->Option (Nat×Nat)}(h: ∀i x,p i=some x->q i=some x): ∀(ps:List (Nat×Value)) (cs out:Array Value),Instr.fill p cs ps=some out->Instr.fill q cs ps=some out
 |[],cs,out,e=>e
 |(i,v)::ps,cs,out,e=>by
  simp only[Instr.fill] at e⊢;split at e
  .cases e
  .rename_i off size hp
   rw[h i _ hp];dsimp only;split at e
   .cases e
   .rename_i hc
    rw[if_neg hc];exact O2 h ps _ _ e
def Ys{P:Program}{fr:Fr}{own:List aw}{G:Gh}{t e s len:Nat}{j:TypeInfo}{parts:Array (Nat×Operand)}{z:Value}{out:List Value}{dst:Option Nat}{ty':TypeId}{pos:String}{af:Array Edge}{gd:Option (Nat×Bool)}[hz:iE P t z](hu:P.underlying t=some (.array len e))(hj:P.info? e=some j)(hs:j.size=s)
  (hb:uv fr ((List.range len).map fun i=>(i*s,s)) (aG z) parts.toList=some out):Yd P C fr own G ⟨dst, .build t parts,ty',pos,af,gd⟩ (.agg ⟨out⟩):=by
 intro a w hf hh;simp only[execOp];have:(Instr.build t (parts.map fun(i,x)=>(i,a.eval x))).run P w= .ok (.agg ⟨out⟩) w:=by
  unfold Instr.build;rw[aI (hz.zero w),qG];rw[aI (q6 hu w)];simp only[];rw[aI (wv hj w),hs];have:=O2 (q:=fun i=>some (i*s,s)) (fun i x hx=>by
   have hx':((List.range len).map fun i=>(i*s,s))[i]? =some x:=by simpa using hx
   rw[cK] at hx'
   cases hr:(List.range len)[i]? with
   |none=>rw[hr] at hx';cases hx'
   |some y=>
    rw[hr] at hx';cases hx';obtain⟨h1,h2⟩:=aY.1 hr;rw[List.getElem_range] at h2;rw[h2]) _ _ _ (Jy hf ((List.range len).map fun i=>(i*s,s)) parts.toList _ _ hb)
  simp only[pQ,this];rfl
 exact c7 this
def BF:Nat->Nat->Nat->List (Nat×Nat×Nat)
 |_,0,_=>[]
 |i,k+1,s=>(i*s,0,s)::BF (i+1) k s
def LO: ∀(i k s:Nat),(BF i k s).map (fun x=>(x.1,x.2.2))=(List.range' i k).map fun j=>(j*s,s)
 |_,0,_=>rfl
 |i,k+1,s=>by simp only[BF,cV,List.range',LO (i+1) k s]
def Kz(fr:aB)(cf:Cf)(len s:Nat):Option (TypeId×FX):=match cg fr cf with
 |some ⟨_, .build t parts,_,_,_,_⟩=>match dq tt t with
  |some ⟨.o,_,some zx,_⟩=>match tn (bz fr cf) (BF 0 len s) zx parts.toList with
   |some cs=>match xb cs with
    |some f=>some (t,f)
    |none=>none
   |none=>none
  |_=>none
 |_=>none
def QD[fu:Fu]{t e len s:Nat}{f:FX}(h:Kz fr cf len s=some (t,f))(hu:prog.underlying t=some (.array len e))(hs:(prog.info? e).map (·.size)=some s)
  (hgo:dh tt n fu.n fr own cf f [] []=⟨vc,fr',own',cf'⟩)(k:ao prog GB C n Q0 fr' own' cf')
  (hv:autoParam (ah vc) cL._auto_1):ao prog GB C n Q0 fr own cf:=by
 unfold Kz at h;split at h<;>try (cases h;done)
 rename_i hh;split at h<;>try (cases h;done)
 rename_i hT;split at h<;>try (cases h;done)
 rename_i hb;split at h<;>cases h;rename_i hf;refine us hh (.yd fun ρ G ov a w r=>?_) hgo hv k
 cases hj:prog.info? e with
 |none=>rw[hj] at hs;cases hs
 |some j=>
 rw[hj] at hs;obtain⟨v,hv,hv'⟩:=ze (eh _ _ hT) rfl;obtain⟨l,h1,h2⟩:=Er r _ _ _ _ hb (hv' ρ G);rw[LO,<-List.range_eq_range'] at h1;exact⟨.agg ⟨l⟩,HA h2 hf,Ys hu hj (Option.some.inj hs) h1⟩
def IQ{P:Program}(nm:Nat){ty:TypeId}{ds:List DV}{lo:Bool}{own1:aF}{c:Code}(ds':List DV)(hl:ba own nm=some (.o ty (ds.map .d) lo))(hi: ∀G m,IsLs G ds m->IsLs G ds' m)(ho:vb own nm (some (.o ty (ds'.map .d) lo)) id=own1)(h:ao P GB C n Q0 fr own1 (.code c K)):ao P GB C n Q0 fr own (.code c K):=by
 rw[wE] at ho;subst ho;refine⟨fun ρ G ov a w r=>?_⟩;have old: ∀m B,ba (mv own nm (some (.o ty (ds'.map .d) lo))) m=some B-> ∃B0,ba own m=some B0:=fun m B e=>by
  rw[xo] at e;split at e
  .rename_i hm;subst hm;exact⟨_,hl⟩
  .exact⟨_,e⟩
 refine SX.run h ρ G ov a w ⟨r.gb,r.h,r.sz,r.df,r.fx,fun m B e=>?_,fun m m' B B' e e'=>?_,r.fxd⟩
 .rw[show id (mv own nm (some (.o ty (ds'.map .d) lo)))=mv own nm (some (.o ty (ds'.map .d) lo)) from J,xo] at e
  split at e
  .rename_i hm;subst hm;cases e
   obtain⟨os,⟨b,q,h1,rfl,h2⟩,h3⟩:=r.bx _ _ hl;exact⟨_,⟨b,q,h1,J,tI (hi G q (K7 h2))⟩,h3⟩
  .exact r.bx _ _ e
 .obtain⟨B0,h0⟩:=old _ _ e
  obtain⟨B1,h1⟩:=old _ _ e';exact r.dj m m' B0 B1 h0 h1
def aLT(fr:aB)(own:aF)(cf:Cf)(k:Nat):Option (TypeId×FX):=match cg fr cf with
 |some ⟨_, .load t x,_,_,_,_⟩=>match aH (bz fr cf) x with
  |some (.ov nm off)=>match ir fr own cf nm with
   |some (.o _ cs _)=>match takeX cs off k with
    |some l=>match xb l with
     |some f=>some (t,f)
     |none=>none
    |none=>none
   |_=>none
  |_=>none
 |_=>none
def aLP(fr:aB)(cf:Cf)(off s:Nat):Option (TypeId×List DV×Int):=match cg fr cf with
 |some ⟨_, .index t x y,_,_,_,_⟩=>match aH (bz fr cf) x with
  |some (.d (.ag ms))=>match aH (bz fr cf) y with
   |some (.d (.v (.int _ i)))=>match takeD ms off s with
    |some l=>some (t,l,i)
    |none=>none
   |_=>none
  |_=>none
 |_=>none
end
section
variable {GB:Gh} {C:aD} {n:Nat} {Q0:Exit->Act->World->Prop} {fr fr':aB} {own own':aF} {cf cf':Cf} {vc:List Prop} {lk:LK} {bk:BM} {dst:Option Nat} {ty:TypeId} {pos:String} {af:Array Edge} {gd:Option (Nat×Bool)}
def aLG(t:TypeId):Prop:= ∀(x:Value) w,(Instr.makeInterface t x).run prog w= .ok (.iface t x) w
def aL1(t:TypeId)(u:Value)(m:String)(f:FuncId):Prop:= ∀w,(method (prog.types.size+Made.depth) t u m).run prog w= .ok (f,u) w
def aLO(fr:aB)(cf:Cf):Option (TypeId×DV):=match cg fr cf with
 |some ⟨_, .makeInterface t x,_,_,_,_⟩=>match evD (bz fr cf) x with
  |some d=>some (t,d)
  |none=>none
 |_=>none
def aL7(fr:aB)(cf:Cf):Option (String×TypeId×Value×List DV):=match cg fr cf with
 |some ⟨_, .call ⟨.invoke x m,args,_⟩,_,_,_,_⟩=>match aH (bz fr cf) x with
  |some (.d (.v (.iface t u)))=>match evDs (bz fr cf) args.toList with
   |some ds=>some (m,t,u,ds)
   |none=>none
  |_=>none
 |_=>none
end
section
variable {GB:Gh} {C:aD} {n:Nat} {Q0:Exit->Act->World->Prop} {fr fr':aB} {own own':aF} {cf cf':Cf} {vc:List Prop} {lk:LK} {bk:BM} {dst:Option Nat} {ty:TypeId} {pos:String} {af:Array Edge} {gd:Option (Nat×Bool)}
def HY(lk:LK):List Operand->Option (List Value)
 |[]=>some []
 |x::xs=>match aH lk x with
  |some (.d (.v pv))=>match HY lk xs with
   |some l=>some (pv::l)
   |none=>none
  |_=>none
def aLA(fr:aB)(cf:Cf):Option (FuncId×List Value×List Value):=match cg fr cf with
 |some ⟨_, .makeFunc (.func f) ⟨xs⟩ ⟨ys⟩,_,_,_,_⟩=>match HY (bz fr cf) xs,HY (bz fr cf) ys with
  |some a,some b=>some (f,a,b)
  |_,_=>none
 |_=>none
def aL2(fr:aB)(cf:Cf):Option (FuncId×DV):=match cg fr cf with
 |some ⟨_, .makeFunc (.func f) ⟨[x]⟩ ⟨[]⟩,_,_,_,_⟩=>match evD (bz fr cf) x with
  |some d=>some (f,d)
  |_=>none
 |_=>none
def aL6(fr:aB)(cf:Cf):Option (FuncId×List Value×List Value×List DV):=match cg fr cf with
 |some ⟨_, .call ⟨.value fo,args,_⟩,_,_,_,_⟩=>match aH (bz fr cf) fo,evDs (bz fr cf) args.toList with
  |some (.d (.v (.func (.func f) ⟨c1⟩ ⟨c2⟩))),some ds=>some (f,c1,c2,ds)
  |_,_=>none
 |_=>none
end
section
variable {GB:Gh} {C:aD} {n:Nat} {Q0:Exit->Act->World->Prop} {fr fr':aB} {own own':aF} {cf cf':Cf} {vc:List Prop}
def LX(fr:aB)(cf:Cf):Option (Int×Int):=match cg fr cf with
 |some ⟨_, .binOp .xor _ x y _,_,_,_,_⟩=>match aH (bz fr cf) x,aH (bz fr cf) y with
  |some (.d (.v (.int .u32 p))),some (.d (.v (.int .u32 q)))=>some (p,q)
  |_,_=>none
 |_=>none
def xr[fu:Fu]{p q:Int}(u:Int)(h:LX fr cf=some (p,q))(e:(((BitVec.ofInt 32 p^^^BitVec.ofInt 32 q).toNat:Nat):Int)=u)(hgo:dh tt n fu.n fr own cf (.d (.v (.int .u32 u))) [] []=⟨vc,fr',own',cf'⟩)(k:ao prog GB C n Q0 fr' own' cf')
  (hv:autoParam (ah vc) cL._auto_1):ao prog GB C n Q0 fr own cf:=by
 unfold LX at h;split at h<;>try (cases h;done)
 rename_i hh;split at h<;>cases h;rename_i h1 h2;subst e;exact us hh (.yd fun ρ G ov a w r=>by
  obtain⟨y1,h3,h4⟩:=r.ev h1;obtain⟨y2,h5,h6⟩:=r.ev h2;rw[de] at h4 h6;subst h4 h6;exact⟨_,de.2 J,ja h3 h5 fun w=>by
   show(pure (Value.int .u32 (IntKind.u32.wrap ((BitVec.ofInt 32 p^^^BitVec.ofInt 32 q).toNat:Int))):Sem Value).run prog w=_;rw[EJ];rfl⟩) hgo hv k
def M5(fr:aB)(cf:Cf):Option (Int×Int):=match cg fr cf with
 |some ⟨_, .binOp .sub _ x y _,_,_,_,_⟩=>match aH (bz fr cf) x,aH (bz fr cf) y with
  |some (.d (.v (.int .u32 p))),some (.d (.v (.int .u32 q)))=>some (p,q)
  |_,_=>none
 |_=>none
def sw[fu:Fu]{p q:Int}(u:Int)(h:M5 fr cf=some (p,q))(e:(p-q)%4294967296=u)(hgo:dh tt n fu.n fr own cf (.d (.v (.int .u32 u))) [] []=⟨vc,fr',own',cf'⟩)(k:ao prog GB C n Q0 fr' own' cf')
  (hv:autoParam (ah vc) cL._auto_1):ao prog GB C n Q0 fr own cf:=by
 unfold M5 at h;split at h<;>try (cases h;done)
 rename_i hh;split at h<;>cases h;rename_i h1 h2;subst e;exact us hh (.yd fun ρ G ov a w r=>by
  obtain⟨y1,h3,h4⟩:=r.ev h1;obtain⟨y2,h5,h6⟩:=r.ev h2;rw[de] at h4 h6;subst h4 h6;exact⟨_,de.2 J,by rw[<-qA];exact wK h3 h5⟩) hgo hv k
def Sk(fr:aB)(cf:Cf):Option Int:=match cg fr cf with
 |some ⟨_, .unOp .xor _ x,_,_,_,_⟩=>match aH (bz fr cf) x with
  |some (.d (.v (.int .u32 p)))=>some p
  |_=>none
 |_=>none
def nt[fu:Fu]{p:Int}(u:Int)(h:Sk fr cf=some p)(e:(((BitVec.ofInt 32 IntKind.u32.max^^^BitVec.ofInt 32 p).toNat:Nat):Int)=u)(hgo:dh tt n fu.n fr own cf (.d (.v (.int .u32 u))) [] []=⟨vc,fr',own',cf'⟩)(k:ao prog GB C n Q0 fr' own' cf')
  (hv:autoParam (ah vc) cL._auto_1):ao prog GB C n Q0 fr own cf:=by
 unfold Sk at h;split at h<;>try (cases h;done)
 rename_i hh;split at h<;>cases h;rename_i hx;subst e;refine us hh (.x1 hx fun ρ G ov a w y _ r h1 h2=>?_) hgo hv k;rw[de] at h2;subst h2;refine⟨_,de.2 J,fun a w hf hh=>?_⟩;simp only[execOp,bh hf h1];refine c7 (w':=w) ?_;show(pure (Value.int .u32 (IntKind.u32.wrap ((BitVec.ofInt 32 IntKind.u32.max^^^BitVec.ofInt 32 p).toNat:Int))):Sem Value).run prog w=_;rw[EJ];rfl
end

def YJ{ds:List Nat}{k:Nat}(hk:k<ds.length)(h:trimD ds=trimD (ds.take (k+1)))(h0:ds.getD k 0=0):trimD ds=trimD (ds.take k):=by
 rw[h,gJ hk];have:ds[k]=0:=by rw[aX,aQ hk] at h0;simpa using h0
 rw[this,QO]
def ZC{ds:List Nat}{k:Nat}(hk:k<ds.length)(h:trimD ds=trimD (ds.take (k+1)))(h0:ds.getD k 0≠0):trimD ds=ds.take (k+1):=by
 rw[h,gJ hk];have:ds[k]≠0:=by rw[aX,aQ hk] at h0;simpa using h0
 exact JO this
def jt{A G:Gh}{x:SV}{ds:List Nat}(hx:cv A x ds)[GL A G](hb:ds.length<=1125899906842624:=by omega):Fn prog 132 [x.v] G (fun v _=>v= .slice x.a (trimD ds).length x.c):=by
 have hlen:=hx.len;have hcap:=hx.sl.cap;refine Fn.intro func132 J J ntmps132 J ?_;intro C _ _;refine sR<|sa J J<|zE<|bw<|d9<|?_;refine l8 (X:=Nat) (fun k=>[(0, .slice x.a k x.c)]) (fun _=>[]) (fun k _=>k<=ds.length/\trimD ds=trimD (ds.take k)) (fun k=>k) ds.length ⟨aM _,by simp⟩ (hlen▸ .cons J .nil) J ?_;rintro k Gx _ ⟨hk,ht⟩;refine bw<|sR<|sm J J<|c6 J J<|sy (tP J J) J<|sm J J<|?_;refine oI 6 J (fun hg=>?_) (fun hg=>?_)
 .have hk1:k-1<ds.length:=by omega
  have hkt:((k:Int)-1).toNat=k-1:=by omega
  have hk2:k=k-1+1:=by omega
  refine bC J J (f7 J) J<|bC J J (f7 J) J<|bC J J (o4 J) J<|bC J J (ki J J) J<|?_;refine bC J J (iD (z:=⟨x.a,k,x.c⟩) (hx.take k hk) J J (by omega) (by show _<(k:Int);omega)) J<|bC J J (iF hx J) J<|bC J J (i9 J J) J<|sy (rG J J) J<|zE<|?_;rw[hkt];refine mA J (fun hc=>?_) (fun hc=>?_) -- slot 14
  .refine jO<|e7<|e7<|jw<|sR<|sm J J<|sa J J<|zE<|du<|?_
   have hs:=ZC hk1 (hk2▸ht) (fun e=>hc (by rw[e];rfl));refine zD (.tmp J .nil) ?_;rw[hs,<-hk2];simp[iv,hk]
  refine zK<|d9<|d6<|sm J J<|sm J J<|c6 J J<|sy (ki J J) J<|sy (yl J J) J<|?_;refine sa J J<|zE<|?_;exact jD (k-1) ⟨by omega,YJ hk1 (hk2▸ht) (by omega)⟩ (by omega) (.cons (by rw[<-hkt];rfl) .nil) J
 refine ss J J J J<|ss J J J J<|ss J J J J<|ss J J J J<|ss J J J J<|ss J J J J<|?_;refine ss J J J J<|sy (mp J J) J<|zE<|zg J<|jO<|e7<|e7<|jw<|sR<|sm J J<|sa J J<|zE<|du<|?_;have hk0:k=0:=by omega
 subst hk0;refine zD (.tmp J .nil) ?_;rw[ht];rfl
def asO{A G:Gh}{x:SV}{ds:List Nat}(hx:cv A x ds)[GL A G](hb:ds.length<=1125899906842624):Fn prog 228 [x.v] G (fun v _=>v= .bool (decide (eo ds))):=by
 have hlen:=hx.len;refine Fn.intro func228 J J ntmps228 J ?_;intro C _ _;refine sR<|sa J J<|zE<|sR<|sm J J<|c6 J J<|sy (i9 J J) J<|sm J J<|?_;refine oI 6 J (fun hg=>?_) (fun hg=>?_)
 .refine ss J J J J<|ss J J J J<|ss J J J J<|ss J J J J<|ss J J J J<|ss J J J J<|ss J J J J<|sy (rG J J) J<|sa J J<|?_
  refine zE<|du<|?_;refine zD (.tmp J .nil) ?_;have:ds=[]:=bS (by omega);subst this;simp[iv,eo]
 have hne:0<ds.length:=by omega
 have hkt:((x.n:Int)-1).toNat=ds.length-1:=by omega
 refine bC J J (f7 J) J<|bC J J (f7 J) J<|bC J J (o4 J) J<|bC J J (ki J J) J<|bC J J (iD hx J J) J<|?_;refine bC J J (iF hx J) J<|bC J J (vt J J) J<|sy (mp J J) J<|sa J J<|zE<|du<|?_;refine zD (.tmp J .nil) ?_;rw[hkt];simp only[iv,Value.bool.injEq,decide_eq_decide,eo,mQ,aX,aQ (show ds.length-1<ds.length by omega),iK,ne_eq,Option.some.injEq];exact not_congr (by omega)
def Vg(ds:List Nat): ∀v∈ds.map dI,flat v=true:=fun v hv=>by
 obtain⟨d,_,rfl⟩:=bQ.1 hv;rfl
def P1{A G:Gh}{x:SV}{ds:List Nat}(hx:cv A x ds)[GL A G](hb:ds.length<=1125899906842:=by omega):Fn prog 187 [x.v] G (fun v G'=> ∃z:SV,v=z.v/\cv G' z ds):=by
 have hlen:=hx.len;refine Fn.intro func187 J J ntmps187 J ?_;intro C _ _;refine sR<|sa J J<|zE<|bw<|sR<|sm J J<|sy (P4 J J) J<|zE<|?_;refine axH J (fun hc=>?_) (fun hc=>?_)
 .refine sR<|sa J J<|zE<|du<|?_
  refine zD (.tmp J .nil) ⟨⟨none,0,0⟩,J,?_⟩;rcases hx.sl.mem with h|⟨b,off,cs,ha,_⟩
  .have:ds=[]:=by simpa using h
   subst this;exact .nil _
  .rw[ha] at hc;cases hc
 refine zK<|sR<|?_;refine sc (KY J ?_);intro b1;refine sm J J<|?_;refine sc (OV (xs:=[]) (rest:=[]) (ys:=ds.map dI) J J (.hd ..) J J (aM _) (Po hx) (by simp[hlen]) (Vg ds) (by decide) (by omega) J J ?_);intro b cap rest h1 h2;refine sa J J<|zE<|sE b (.hd ..) (fun G' _ hgb=>?_);refine du<|?_;refine zD (.tmp J .nil) ⟨⟨some ⟨b,0,none⟩,x.n,cap⟩,by simp[iv,SV.v],?_⟩;exact .of_block hx.ok hgb.h hlen (by omega) (by simp)
def HB{A G:Gh}{x:SV}{ds:List Nat}{k:Nat}(hx:cv A x ds)[GL A G](hk:dv ds<2^k)(hb:ds.length<=1125899906842:=by omega):Fn prog 124 [x.v] G (fun v G'=> ∃z:SV,v=z.v/\gg k G' z (dv ds)):=by
 have htl:=oh ds;refine Fn.intro func124 J J ntmps124 J ?_;intro C _ _;refine sR<|sa J J<|zE<|sR<|sm J J<|?_;refine sc (zC J J (jt hx) J ?_);rintro _ G1 _ rfl;refine sc (zC J J (P1 hx.trim) J ?_);rintro _ G2 _ ⟨z,rfl,hz⟩;refine sa J J<|zE<|du<|?_;refine zD (.tmp J .nil) ⟨z,J,?_⟩;exact⟨by rw[qc hx.ok];exact hz,hk⟩
end Go.Sx
end
section
namespace Go.Proofs
open Go.Shelf
def Tryz.lays128_ren:Go.Shelf.Ren:=⟨fun|128=>231|n=>n,fun|51=>182|3=>3|4=>4|46=>241|5=>5|9=>9|n=>n,fun|n=>n⟩
def Tryz.lays125_ren:Go.Shelf.Ren:=⟨fun|125=>195|128=>231|129=>242|n=>n,fun|46=>241|3=>3|51=>182|53=>197|4=>4|5=>5|9=>9|n=>n,fun|n=>n⟩
def Tryz.lays133_ren:Go.Shelf.Ren:=⟨fun|133=>188|128=>231|n=>n,fun|51=>182|3=>3|4=>4|46=>241|5=>5|9=>9|n=>n,fun|n=>n⟩
def Tryz.lays133:Go.Proofs.Lays.n133 Tryz.prog Tryz.lays133_ren:={
 mixed:=by kernel_rfl
 f128:=Tryz.func231.trans (congrArg some (by kernel_rfl))
 f133:=Tryz.func188.trans (congrArg some (by kernel_rfl))
 t3:=Tryz.underlying3
 a3:=Tryz.isAgg3
 z3:=Tryz.sizeOf3
 v3:=Tryz.zeroValue3
 t4:=Tryz.underlying4
 a4:=Tryz.isAgg4
 z4:=Tryz.sizeOf4
 v4:=Tryz.zeroValue4
 t5:=Tryz.underlying5
 a5:=Tryz.isAgg5
 z5:=Tryz.sizeOf5
 v5:=Tryz.zeroValue5
 t9:=Tryz.underlying9
 a9:=Tryz.isAgg9
 z9:=Tryz.sizeOf9
 v9:=Tryz.zeroValue9
 t46:=Tryz.underlying241
 a46:=Tryz.isAgg241
 z46:=Tryz.sizeOf241
 v46:=Tryz.zeroValue241
 t51:=Tryz.underlying182
 a51:=Tryz.isAgg182
 z51:=Tryz.sizeOf182
 v51:=Tryz.zeroValue182}
def Tryz.bits_LeadingZeros32(x:Int)(w:World)(h0:0<=x)(h1:x<=4294967295):
  Calls Tryz.prog 188 #[.int .u32 x] w fun e w'=>e= .returned (.int .i64 (32-(Lib.bitLen x.toNat:Int)))/\w'=w:=Any.bits_LeadingZeros32 Tryz.lays133 x w h0 h1
def Tryz.lays129_ren:Go.Shelf.Ren:=⟨fun|129=>242|n=>n,fun|53=>197|3=>3|4=>4|46=>241|5=>5|9=>9|n=>n,fun|n=>n⟩
def Tryz.lays264_ren:Go.Shelf.Ren:=⟨fun|264=>117|n=>n,fun|53=>197|46=>241|n=>n,fun|n=>n⟩
def Tryz.lays264:Go.Proofs.Lays.n264 Tryz.prog Tryz.lays264_ren:={
 mixed:=by kernel_rfl
 f264:=Tryz.func117.trans (congrArg some (by kernel_rfl))
 t46:=Tryz.underlying241
 a46:=Tryz.isAgg241
 z46:=Tryz.sizeOf241
 v46:=Tryz.zeroValue241
 t53:=Tryz.underlying197
 a53:=Tryz.isAgg197
 z53:=Tryz.sizeOf197
 v53:=Tryz.zeroValue197}
open Go.RowKit Go.Lib in
def Tryz.bits_Mul64(x y:Nat)(hx:x<18446744073709551616)(hy:y<18446744073709551616)(w:World):
  Calls Tryz.prog 117 #[.int .u64 x, .int .u64 y] w fun e w'=>e= .returned (.tuple #[.int .u64 ((x*y/18446744073709551616:Nat):Int), .int .u64 ((x*y%18446744073709551616:Nat):Int)])/\w'=w:=Any.bits_Mul64 Tryz.lays264 x y hx hy w
end Go.Proofs
end
section
namespace Go.Sx
open Go Go.Proofs Tryz
def bl(x:Nat):Nat:=if x=0 then 0 else Nat.log2 x+1
def CO(x:Nat):x<2^bl x:=by
 unfold bl;split
 .rename_i h;subst h;decide
 .exact Nat.lt_log2_self
def o8{x k:Nat}:bl x<=k↔x<2^k:=by
 constructor
 .intro h;exact dY (CO x) (bU (by omega) h)
 .intro h
  unfold bl;split
  .omega
  .rename_i h0
   have:=(Nat.log2_lt h0).2 h;omega
def aBN{x:Nat}(h:x≠0):bl x=1+bl (x/2):=by
 have h1: ∀k,bl x<=k+1↔bl (x/2)<=k:=fun k=>by
  rw[o8,o8,fL];omega
 have h2:bl x≠0:=fun e=>by
  have:=CO x;rw[e] at this;simp at this;exact h this
 have h3:=(h1 (bl (x/2))).2 (aM _);have h4:=(h1 (bl x-1)).1 (by omega);omega
def SC: ∀(f x:Nat),x<2^f->Lib.bitLenAux f x=bl x
 |0,x,h=>by
  have:x=0:=by simpa using h
  subst this;rfl
 |f+1,x,h=>by
  unfold Lib.bitLenAux;split
  .rename_i h0;subst h0;rfl
  .rename_i h0
   rw[SC f (x/2) (by rw[fL] at h;omega),aBN h0]
def Vk{x:Nat}(h:x<2^64):Lib.bitLen x=bl x:=SC 64 x h
def azB{x k:Nat}(d:Nat)(h:x<2^k)(hd:d≠0):bl (x+2^k*d)=k+bl d:=by
 have h1: ∀j,bl (x+2^k*d)<=k+j↔bl d<=j:=fun j=>by
  rw[o8,o8,fK];constructor
  .intro h'
   exact Nat.lt_of_mul_lt_mul_left (a:=2^k) (by omega)
  .intro h'
   have:2^k*(d+1)<=2^k*2^j:=fJ _ h';rw[dT] at this;omega
 have h2:k<bl (x+2^k*d):=by
  rcases iL k (bl (x+2^k*d)) with h'|h'
  .exact h'
  .have:=o8.1 h'
   have h3:2^k*1<=2^k*d:=fJ _ (by omega);omega
 have h3:=(h1 (bl d)).2 (aM _);have h4:=(h1 (bl (x+2^k*d)-k)).1 (by omega);omega
def Zp{ds:List Nat}(h:bi ds)(hn:eo ds)(hne:ds≠[]):bl (dv ds)=32*(ds.length-1)+bl (ds.getD (ds.length-1) 0):=by
 rcases sQ ds with rfl|⟨l,d,rfl⟩
 .exact absurd J hne
 .rw[sZ] at*
  have hd:d≠0:=fun e=>by subst e;simp[eo] at hn
  have hl:bi l:=fun x hx=>h x (bM _ hx);have h1:=jx hl;rw[xS];have h2:(4294967296:Nat)^l.length=2^(32*l.length):=by rw[pL]
  rw[h2] at h1⊢;have h3:dv [d]=d:=by simp[dv]
  rw[h3,azB d h1 hd];have h4:(l++[d]).length-1=l.length:=by simp
  rw[h4,aX,gQ (aM _)];simp
def NP{P:Program}{f:FuncId}{fn:Func}{c:Code}(h:P.funcs[f]? =some fn)(hb:fn.body=some c)(hn:(fn.name== "runtime.NumGoroutine")=false):ri P f:=⟨fn,h,hn,by rw[hb];rfl⟩
def FC{G:Gh}{x:Nat}(hx:x<4294967296):Fn prog 188 [.int .u32 (x:Int)] G (fun v _=>v= .int .i64 (32-(bl x:Int))):=by
 have h:=Fn.of_calls (G:=G) (NP func188 J J) (fun w=>Tryz.bits_LeadingZeros32 (x:Int) w (by omega) (by omega));rw[bV,Vk (qZ hx (by decide))] at h;exact h
def Ia{G:Gh}{u:Nat}(hu:u<18446744073709551616):Fn prog 125 [.int .u64 (u:Int)] G (fun v G'=> ∃z:SV,v=z.v/\gg 64 G' z u):=by
 refine Fn.intro func125 J J ntmps125 J ?_;intro C _ _;refine sR<|sa J J<|zE<|sR<|sm J J<|sy (kH J) J<|sm J J<|?_;refine sy (nA J J) J<|sy (kH J) J<|?_;refine sc (HQ (by rfl) (by rfl) (by rfl) (by rfl) J ?_);intro b1;refine sE b1 (.hd ..) (fun G1 _ hgb=>?_);have h1:((u:Int)%4294967296)=((u%4294967296:Nat):Int):=by omega
 have h2:((u:Int).fdiv (2^min (32:Int).toNat IntKind.u64.bits)%4294967296)=((u/4294967296:Nat):Int):=by
  have:(2^min (32:Int).toNat IntKind.u64.bits:Int)=4294967296:=by decide
  rw[this,gM _ (by omega)];omega
 have hok:bi [u%4294967296,u/4294967296]:= .cons (by omega) (.cons (by omega) .nil);have hd:cv G1 ⟨some ⟨b1,0,none⟩,2,2⟩ [u%4294967296,u/4294967296]:= .of_block hok hgb.h J (aM _) (by rw[h1,h2];rfl);have hv:dv [u%4294967296,u/4294967296]=u:=by simp only[dv];omega
 refine sc (zC J J (jt hd (by simp)) J ?_);rintro _ G2 _ rfl;refine sa J J<|zE<|du<|?_;refine zD (.tmp J .nil) ⟨⟨some ⟨b1,0,none⟩,(trimD [u%4294967296,u/4294967296]).length,2⟩,J,?_⟩;have:=hd.trim.up (G:=G2);rw[<-qc hok,hv] at this;exact⟨by rw[<-qc hok,hv];exact this,dY hu (by decide)⟩
def OW{P:Program}{t:TypeId}(a b k:Nat)(ha:a<2^k)(h:a+b*2^k<18446744073709551616)(w:World):(binOp .or t (.int .u64 (a:Int)) (.int .u64 ((b*2^k:Nat):Int))).run P w= .ok (.int .u64 ((a+b*2^k:Nat):Int)) w:=by
 have h1:(BitVec.ofInt 64 (a:Int) ||| BitVec.ofInt 64 ((b*2^k:Nat):Int)).toNat=a+b*2^k:=by
  rw[BitVec.toNat_or,BitVec.ofInt_natCast,BitVec.ofInt_natCast,BitVec.toNat_ofNat,BitVec.toNat_ofNat,dV (by omega),dV (by omega)];rw[<-mX,Nat.or_comm,<-mY ha,mX];omega
 have h2:IntKind.u64.wrap ((a+b*2^k:Nat):Int)=((a+b*2^k:Nat):Int):=by rw[n7];omega
 simp only[binOp];show(Op.intBits .or .u64 (a:Int) ((b*2^k:Nat):Int)).run P w=_;unfold Op.intBits;show(pure (Value.int .u64 (IntKind.u64.wrap ((BitVec.ofInt 64 (a:Int) ||| BitVec.ofInt 64 ((b*2^k:Nat):Int)).toNat:Int))):Sem Value).run P w=_;rw[h1,h2,run_pure]
def Fw{A G:Gh}{x:SV}{ds:List Nat}(hx:cv A x ds)[GL A G](hb:ds.length<=1125899906842624:=by omega):Fn prog 131 [x.v] G (fun v _=>v= .tuple #[.int .u64 ((if dv ds<18446744073709551616 then dv ds else 0:Nat):Int), .bool (decide (dv ds<18446744073709551616))]):=by
 have htl:=oh ds;have hdv:=kh ds;have hok:=hx.ok.trimD;have hnr:=eo.trimD ds;have hxt:=hx.trim;have hcall:=fun G1 (_:GL A G1)=>jt (G:=G1) hx;generalize trimD ds=es at*;have hlen:=hxt.len;rw[<-hdv];have hbig:(if dv es<18446744073709551616 then dv es else 0)=if es.length<=2 then dv es else 0:=by
  by_cases h2:es.length<=2
  .have h3:=jx hok
   have h4:(4294967296:Nat)^es.length<=4294967296^2:=bU (by omega) h2;rw[if_pos h2,if_pos (by omega)]
  .have h3:=rI hnr (fun e=>by subst e;simp at h2)
   have h4:(4294967296:Nat)^2<=4294967296^(es.length-1):=bU (by omega) (by omega);rw[if_neg h2,if_neg (by omega)]
 have hbig2:decide (dv es<18446744073709551616)=decide (es.length<=2):=by
  rw[decide_eq_decide];by_cases h2:es.length<=2
  .have h3:=jx hok
   have h4:(4294967296:Nat)^es.length<=4294967296^2:=bU (by omega) h2;exact⟨fun _=>h2,fun _=>by omega⟩
  .have h3:=rI hnr (fun e=>by subst e;simp at h2)
   have h4:(4294967296:Nat)^2<=4294967296^(es.length-1):=bU (by omega) (by omega);exact⟨fun _=>by omega,fun h=>absurd h h2⟩
 rw[hbig,hbig2];refine Fn.intro func131 J J ntmps131 J ?_;intro C _ _;refine sR<|sa J J<|sa J J<|zE<|sR<|sm J J<|?_;refine sc (zC J J (hcall _ inferInstance) J ?_);rintro _ G1 _ rfl;refine sa J J<|zE<|bw<|sR<|sm J J<|c6 J J<|sy (tP J J) J<|zE<|?_;refine gm J (fun hc=>?_) (fun hc=>?_) -- slot 11
 .refine sR<|sa J J<|sa J J<|zE<|du<|?_
  refine zD (.tmp J (.tmp J .nil)) ?_;have: ¬es.length<=2:=by omega
  simp[iv,this]
 have h2:es.length<=2:=by omega
 refine zK<|sR<|sa J J<|zE<|bw<|sR<|sm J J<|c6 J J<|sm J J<|zE<|d9<|?_;refine l8 (X:=Nat) (fun k=>[(14, .int .i64 k),(13, .int .i64 es.length),(12, .slice x.a es.length x.c),(4, .int .u64 ((dv (es.take k):Nat):Int))]) (fun _=>[]) (fun k _=>k<=es.length) (fun k=>es.length-k) 0 (aN _) (.cons J (.cons J (.cons J (.cons J .nil)))) J ?_;rintro k Gx _ hk;refine sR<|sy (ju J J) J<|zE<|bw<|?_;refine mA J (fun hc=>?_) (fun hc=>?_) -- slot 15
 .refine jO<|e7<|e7<|jw<|sR<|sm J J<|sa J J<|sa J J<|zE<|du<|?_
  refine zD (.tmp J (.tmp J .nil)) ?_;have hk':k=es.length:=by omega
  subst hk';simp[iv,h2]
 have hk':k<es.length:=by omega
 have hdk:=hok.get k;have hdt:=jx (hok.take k);rw[cJ,gK (by omega)] at hdt;have hds:=jq es k;have hd2:=jx (hok.take (k+1));rw[cJ,gK (by omega)] at hd2;have hp2:(4294967296:Nat)^(k+1)<=4294967296^2:=bU (by omega) (by omega);have hpk:(4294967296:Nat)^k=2^(32*k):=by rw[pL]
 refine zK<|bw<|d9<|sR<|sm J J<|sy (iD (z:=⟨x.a,es.length,x.c⟩) hxt J J (by omega) (by show(k:Int)<(es.length:Nat);omega)) J<|sy (iF hxt J) J<|sa J J<|sa J J<|zE<|d6<|?_;refine sm J J<|sm J J<|sy (gF J (by omega) (by rw[bV];omega)) J<|sm J J<|sy (Pv J J) J<|?_;have hsh:IntKind.u64.wrap (((es.getD (k:Int).toNat 0:Nat):Int)*2^min ((32:Int)*(k:Int)).toNat IntKind.u64.bits)=((es.getD k 0*2^(32*k):Nat):Int):=by
  have e1:((32:Int)*(k:Int)).toNat=32*k:=by omega
  rw[e1,bV,gK (by show 32*k<=64;omega),n7];have e2:((es.getD k 0:Nat):Int)*2^(32*k)=((es.getD k 0*2^(32*k):Nat):Int):=by push_cast;rfl
  rw[e2];have e3:es.getD k 0*2^(32*k)<18446744073709551616:=by rw[<-hpk,bN];omega
  omega
 refine sy (wU J J (by omega)) J<|?_;rw[hsh];refine sy (ja J J (OW (dv (es.take k)) (es.getD k 0) (32*k) (by rw[<-hpk];exact hdt) (by rw[<-hpk,bN];omega))) J<|sa J J<|zE<|d6<|sy (d5 J J) J<|sm J J<|zE<|?_;refine jD (k+1) (by omega) (by omega) (.cons J (.cons J (.cons J (.cons ?_ .nil)))) J;rw[hds,hpk,bN (2^(32*k))];rfl
def Xu{A G:Gh}{x:SV}{ds:List Nat}(hx:cv A x ds)[GL A G](hb:ds.length<=1125899906842624):Fn prog 126 [x.v] G (fun v _=>v= .int .i64 ((bl (dv ds):Nat):Int)):=by
 have htl:=oh ds;have hdv:=kh ds;have hok:=hx.ok.trimD;have hnr:=eo.trimD ds;have hxt:=hx.trim;have hcall:=fun G1 (_:GL A G1)=>jt (G:=G1) hx;generalize trimD ds=es at*;have hlen:=hxt.len;rw[<-hdv];refine Fn.intro func126 J J ntmps126 J ?_;intro C _ _;refine sR<|sa J J<|zE<|sR<|sm J J<|?_;refine sc (zC J J (hcall _ inferInstance) J ?_);rintro _ G1 _ rfl;refine sa J J<|zE<|bw<|sR<|sm J J<|c6 J J<|sy (i9 J J) J<|zE<|?_;refine gm J (fun hc=>?_) (fun hc=>?_) -- slot 7
 .refine sR<|sa J J<|zE<|du<|?_
  refine zD (.tmp J .nil) ?_;have:es=[]:=bS (by omega);subst this;rfl
 have hne:0<es.length:=by omega
 have hkt:((es.length:Int)-1).toNat=es.length-1:=by omega
 have hg:=hok.get (es.length-1);have hbl:bl (es.getD (es.length-1) 0)<=32:=o8.2 (by omega);refine zK<|sR<|sm J J<|c6 J J<|sy (Pv J J) J<|sm J J<|sm J J<|c6 J J<|sy (ki J J) J<|?_;refine sy (iD (z:=⟨x.a,es.length,x.c⟩) hxt J J (by omega) (by show _<((es.length:Nat):Int);omega)) J<|sy (iF hxt J) J<|?_;rw[hkt];refine sc (zC J J (FC hg) J ?_);rintro _ G2 _ rfl;refine sy (ki J J) J<|sa J J<|zE<|du<|?_;refine zD (.tmp J .nil) ?_;rw[Zp hok hnr (fun e=>by subst e;simp at hne)];simp only[iv,Value.int.injEq,true_and];omega
def gO(a b:Nat):Int:=if a<b then-1 else if a=b then 0 else 1
def SL{A B G:Gh}{x y:SV}{ds es:List Nat}(hx:cv A x ds)(hy:cv B y es)[GL A G][GL B G](hb:ds.length<=1125899906842624:=by omega)(hb2:es.length<=1125899906842624:=by omega):
  Fn prog 185 [x.v,y.v] G (fun v _=>v= .int .i64 (gO (dv ds) (dv es))):=by
 have htl:=oh ds;have htl2:=oh es;have hcall:=fun G1 (_:GL A G1)=>jt (G:=G1) hx;have hcall2:=fun G1 (_:GL B G1)=>jt (G:=G1) hy;have hxt:=hx.trim;have hyt:=hy.trim;have hok:=hx.ok.trimD;have hok2:=hy.ok.trimD;have hnr:=eo.trimD ds;have hnr2:=eo.trimD es;rw[<-kh ds,<-kh es];generalize trimD ds=a at*;generalize trimD es=b at*;refine Fn.intro func185 J J ntmps185 J ?_;intro C _ _;refine sR<|sa J J<|zE<|sR<|sm J J<|?_;refine sc (zC J J (hcall _ inferInstance) J ?_);rintro _ G1 _ rfl;refine sm J J<|?_;refine sc (zC J J (hcall2 _ inferInstance) J ?_);rintro _ G2 _ rfl;refine sa J J<|sa J J<|zE<|bw<|sR<|sm J J<|c6 J J<|sm J J<|c6 J J<|sy (vt J J) J<|zE<|?_;refine gm J (fun hc=>?_) (fun hc=>?_) -- slot 14
 .refine bw<|sR<|sm J J<|c6 J J<|sm J J<|c6 J J<|sy (ju J J) J<|zE<|?_
  refine gm J (fun hc2=>?_) (fun hc2=>?_) -- slot 19
  .refine sR<|sa J J<|zE<|du<|?_
   refine zD (.tmp J .nil) ?_;have:=ud hok hnr2;simp[iv,gO,this]
  refine zK<|sR<|sa J J<|zE<|du<|?_;refine zD (.tmp J .nil) ?_;have:=ud hok2 hnr;have h1: ¬dv a<dv b:=by omega
  have h2: ¬dv a=dv b:=by omega
  simp[iv,gO,h1,h2]
 have hl:a.length=b.length:=by omega
 refine zK<|bw<|sR<|sm J J<|c6 J J<|sy (ki J J) J<|sa J J<|zE<|d9<|?_;refine l8 (X:=Nat) (fun k=>[(5, .int .i64 (k-1)),(0, .slice x.a a.length x.c),(1, .slice y.a b.length y.c)]) (fun _=>[]) (fun k _=>k<=a.length/\a.drop k=b.drop k) (fun k=>k) a.length ⟨aM _,by rw[fY,hl,fY]⟩ (.cons J (.cons J (.cons J .nil))) J ?_;rintro k Gx _ ⟨hk,hd⟩;refine bw<|sR<|sm J J<|sy (uJ J J) J<|zE<|?_;refine mA J (fun hc=>?_) (fun hc=>?_) -- slot 24
 .refine jO<|e7<|e7<|jw<|sR<|sa J J<|zE<|du<|?_
  refine zD (.tmp J .nil) ?_;have:k=0:=by omega
  subst this;have hab:a=b:=by simpa using hd
  subst hab;simp[iv,gO]
 have hk1:0<k:=by omega
 have hkt:((k:Int)-1).toNat=k-1:=by omega
 have hga:=hok.get (k-1);have hgb:=hok2.get (k-1);have hk2:k-1+1=k:=by omega
 refine zK<|bw<|d9<|d9<|bw<|dr (fun _=>false) [(0,true),(1,true),(2,true),(3,true),(4,true),(5,true),(6,true),(7,true),(8,true),(9,true)] follows (by kernel_rfl)<|?_;refine dM J J J<|dM J J J<|dy J (fun _=>iD (z:=⟨x.a,a.length,x.c⟩) hxt J J (by omega) (by show _<((a.length:Nat):Int);omega)) J J<|dy J (fun _=>iF hxt J) J J<|?_;refine dM J J J<|dM J J J<|dy J (fun _=>iD (z:=⟨y.a,b.length,y.c⟩) hyt J J (by omega) (by show _<((b.length:Nat):Int);omega)) J J<|dy J (fun _=>iF hyt J) J J<|?_;refine dy J (fun _=>ju J J) J J<|dA J J J<|dn<|?_;refine gm J (fun hc2=>?_) (fun hc2=>?_) -- slot 27
 .refine sR<|sa J J<|zE<|du<|?_
  refine zD (.tmp J .nil) ?_;rw[hkt] at hc2;have:=CH hok hok2 (k-1) (by omega) (by omega) hl (by rw[hk2];exact hd);simp[iv,gO,this]
 refine bw<|dr (fun _=>false) [(0,true),(1,true),(2,true),(3,true),(4,true),(5,true),(6,true),(7,true),(8,true),(9,true)] follows (by kernel_rfl)<|dM J J J<|?_;refine dM J J J<|dy J (fun _=>iD (z:=⟨x.a,a.length,x.c⟩) hxt J J (by omega) (by show _<((a.length:Nat):Int);omega)) J J<|dy J (fun _=>iF hxt J) J J<|dM J J J<|?_;refine dM J J J<|dy J (fun _=>iD (z:=⟨y.a,b.length,y.c⟩) hyt J J (by omega) (by show _<((b.length:Nat):Int);omega)) J J<|dy J (fun _=>iF hyt J) J J<|dy J (fun _=>tP J J) J J<|?_;refine dA J J J<|dn<|?_;rw[hkt] at*;refine gm J (fun hc3=>?_) (fun hc3=>?_) -- slot 37
 .refine sR<|sa J J<|zE<|du<|?_
  refine zD (.tmp J .nil) ?_;have:=CH hok2 hok (k-1) (by omega) (by omega) hl.symm (by rw[hk2];exact hd.symm);have h1: ¬dv a<dv b:=by omega
  have h2: ¬dv a=dv b:=by omega
  simp[iv,gO,h1,h2]
 refine zK<|d6<|sm J J<|sy (ki J J) J<|sa J J<|zE<|?_;refine jD (k-1) ⟨by omega,?_⟩ (by omega) (.cons (by rw[show((k-1:Nat):Int)=(k:Int)-1 by omega];rfl) (.cons J (.cons J .nil))) J;have heq:a.getD (k-1) 0=b.getD (k-1) 0:=by omega
 rw[aX,aX,aQ (by omega),aQ (by omega)] at heq;rw[bX (by omega:k-1<a.length),bX (by omega:k-1<b.length),hk2,hd];congr 1
end Go.Sx
end
