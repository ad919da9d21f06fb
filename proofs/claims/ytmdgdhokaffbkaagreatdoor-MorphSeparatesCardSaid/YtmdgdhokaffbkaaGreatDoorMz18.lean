import Derived.Test.YtmdgdhokaffbkaaGreatDoorMz17
import Derived.RangeFuncSeq
set_option linter.all false
set_option maxHeartbeats 1000000
set_option maxRecDepth 100000
section
namespace Go.Sx
open Go Go.Proofs Tryz
variable {GB G G1:Gh}{b:Bool}{c assign body:Code}{l r pre:List Oper}{x fo g:Operand}{y k n i D len:Nat}{t ty' ty:TypeId}{e:Exit}{m pos:String}{p:Prop}{P:Program}{Q Q0:Exit->Act->World->Prop}{ops:Array Oper}{o:Oper}{a:Act}{w w1:World}{K:List Kt}{C C':aG}{fr fr0 fr' fr1 fr2:aD}{own0 own' own1 own2 O:aI}{cf' cf cf1 cf2:Cf}{vc vc1 vc2:List Prop}{f gf:FuncId}{fb:Func}{ds ds1 ds2:List DV}{E:List (List DV)}{ov:List aA}{Jv:Nat->Gh->World->Prop}{Jx:Gh->World->Prop}{args:Array Operand}{tys:Array TypeId}{vs caps out c1 c2:List Value}{dst:Option Nat}{af:Array Edge}{d rv dp:DV}{X σ:Type}{lk:LK}{bk:BM}{pv z u:Value}
def l9(x:Bool×ar):DV:= .ag [.sl (x.2.map dx),eU (.leaf x.1)]
def aJ8(l:List (Bool×ar)):dm 2 (l.map l9):=fun d hd=>by
 obtain⟨x,_,rfl⟩:=aT.1 hd;exact⟨J,J⟩
def BG: ∀(t:Tr) (c:ar),(t.parts c).length<=t.size+1
 | .leaf _,_=>bW _
 | .node l x y,c=>by
  have h1:=BG x (bH c l);have h2:=BG y (bH c l.rev);rw[Tr.parts,aU,Tr.size];split<;>split<;>(try simp only[eK])<;>omega
def aoT{c:ar}{o:List (Bool×ar)}(hs:o.length<=1000000):PB GB prog 273 (eh [some (eU (.leaf b)),some (.sl (c.map dx)),none]) 2 325 (o.map l9) (fun w=> .v (.slice w.a w.n w.c)) ((o++Tr.parts (.leaf b) c).map l9):=by
 refine tj func273 J J ntmps273 J J (fun C=>?_);refine cl (fu:=⟨0⟩) J pq J<|mo 12 J<|gx J<|rf J J<|Hk ((o++[(b,c)]).map l9) J okn (aJ8 [(b,c)]) J<|?_;exact m6 J J J J
theorem okq{p:Prop}(h:p:=by simp[Tr.parts,hc30,hc38]):p:=h
def Ws{l:ah}{x y:Tr}{c:ar}{o:List (Bool×ar)}(hl:LB l)(hlo:l.ok)(hc:fE c)(hn:c.length+(Tr.node l x y).depth<=100000)(hs:o.length+((Tr.node l x y).size+1)<=1000000)(ihx: ∀{c:ar} {o:List (Bool×ar)},fE c->c.length+x.depth<=100000->o.length+(x.size+1)<=1000000->PB GB prog 273 (eh [some (eU x),some (.sl (c.map dx)),none]) 2 325 (o.map l9) (fun w=> .v (.slice w.a w.n w.c)) ((o++Tr.parts x c).map l9))(ihy: ∀{c:ar} {o:List (Bool×ar)},fE c->c.length+y.depth<=100000->o.length+(y.size+1)<=1000000->PB GB prog 273 (eh [some (eU y),some (.sl (c.map dx)),none]) 2 325 (o.map l9) (fun w=> .v (.slice w.a w.n w.c)) ((o++Tr.parts y c).map l9)):PB GB prog 273 (eh [some (eU (.node l x y)),some (.sl (c.map dx)),none]) 2 325 (o.map l9) (fun w=> .v (.slice w.a w.n w.c)) ((o++Tr.parts (.node l x y) c).map l9):=by
 have hk1:=uB c l;have hk2:=uB c l.rev;have hd:(Tr.node l x y).depth=1+max x.depth y.depth:=J;have hz:(Tr.node l x y).size=1+x.size+y.size:=J;have hp:=BG x (bH c l);refine tj func273 J J ntmps273 J J (fun C=>?_);refine cl (fu:=⟨0⟩) J pc J<|p6 12 J<|gx J<|cl J (Ig hlo hc) J<|bb J J J (fun hc30=>?_) (fun hc30=>?_)
 .
  have hs2:(o++x.parts (bH c l)).length+(y.size+1)<=1000000:=by rw[aU];omega
  refine cq ((o++x.parts (bH c l)).map l9) J (ihx (tA hlo hc) m5 m5) J J<|bb J J J (fun hc38=>?_) (fun hc38=>?_)
  .
   refine cq _ J (ihy (tA hlo.rev hc) m5 (by first|exact hs2|omega)) J J<|?_;exact m6 J J J okq
  .
   exact m6 J J J okq
 .
  refine bb J J J (fun hc38=>?_) (fun hc38=>?_)
  .
   refine cq _ J (ihy (tA hlo.rev hc) m5 (by first|exact hs2|omega)) J J<|?_;exact m6 J J J okq
  .
   exact m6 J J J okq
def J7: ∀{t:Tr} {c:ar} {o:List (Bool×ar)},t.all LB->t.all ah.ok->fE c->c.length+t.depth<=100000->o.length+(t.size+1)<=1000000->PB GB prog 273 (eh [some (eU t),some (.sl (c.map dx)),none]) 2 325 (o.map l9) (fun w=> .v (.slice w.a w.n w.c)) ((o++Tr.parts t c).map l9)
 | .leaf _,_,_,_,_,_,_,hs=>aoT (by simp only[Tr.size] at hs;omega)
 | .node _ _ _,_,_,hb,ho,hc,hn,hs=>Ws hb.1 ho.1 hc hn hs (fun k1 k2 k3=>J7 hb.2.1 ho.2.1 k1 k2 k3) (fun k1 k2 k3=>J7 hb.2.2 ho.2.2 k1 k2 k3)
def aB1{t:Tr}(hb:t.all LB)(ho:t.all ah.ok)(hd:t.depth<=100000)(hs:t.size<=900000):PB GB prog 273 (eh [some (eU t),some (.sl []),none]) 2 325 [] (fun w=> .v (.slice w.a w.n w.c)) ((t.parts []).map l9):=
 J7 (c:=[]) (o:=[]) hb ho fE.nil (by rw[eK];omega) (by rw[eK];omega)
def eC(c:ar):DV:= .sl (c.map dx)
def aLY(l:List ar):dm 1 (l.map eC):=fun d hd=>by
 obtain⟨x,_,rfl⟩:=aT.1 hd;exact⟨J,J⟩
def Aq(ps:List (Bool×ar)):List ar:=(ps.filter (·.1)).map (·.2)
def RF{ps:List (Bool×ar)}{e:ar}(h:ps[k]? =some (b,e)):Aq (ps.drop k)=(if b then [e] else [])++Aq (ps.drop (k+1)):=by
 obtain⟨h1,h2⟩:=aS.1 h;rw[bV h1,h2];unfold Aq
 cases b<;>simp
def Vu{t:Tr}(hb:t.all LB)(ho:t.all ah.ok)(hd:t.depth<=100000)(hs:t.size<=900000):PF GB prog 215 [eU t] (.sl ((t.parts []).map l9)):=by
 refine fn func215 J J ntmps215 J J (fun C=>?_);refine Tg _ J (aB1 hb ho hd hs) J J<|iH 4 J<|rz J J
def aGr{t:Tr}(hb:t.all LB)(ho:t.all ah.ok)(hd:t.depth<=100000)(hs:t.size<=900000):PF GB prog 145 [eU t] (.sl ((f7 t).map eC)):=by
 obtain⟨ps,hps⟩: ∃ps,ps=t.parts []:=⟨_,rfl⟩;have hpl:=BG t [];rw[<-hps] at hpl;have hml:(ps.map l9).length=ps.length:=aX ..;refine fn func145 J J ntmps145 J J (fun C=>?_);refine cl (fu:=⟨0⟩) J (Vu hb ho hd hs) J<|aj 7 (.d (.sl (ps.map l9))) J (by rw[hps])<|gx (fu:=⟨1⟩) J<|aj 8 (.d (vI (ps.length:Nat))) J omh<|gx J<|nr 3 3 254 1 J J J<|lp (X:=List ar×Nat) (fun⟨acc,k⟩=>[(9, .d (vI (k:Nat))),(3, .rw 3)]) (fun⟨acc,k⟩=>[(3,some (.b 254 1 (acc.map eC) true))]) (fun⟨acc,k⟩=>acc++Aq (ps.drop k)=f7 t/\k<=ps.length) (fun⟨acc,k⟩=>ps.length-k) ⟨[],0⟩ J ⟨by rw[hps];rfl,bK _⟩ (fun _=>J) (fun⟨acc,k⟩ hk=>?_)
 try dsimp only at hk⊢
 obtain⟨h1,h2⟩:=hk;have hal:acc.length<=ps.length:=by
  have q1:=congrArg List.length h1;have q2:(f7 t).length<=ps.length:=by unfold f7;rw[aX,hps];exact qJ ..
  rw[aU] at q1;omega
 have ham:(acc.map eC).length=acc.length:=aX ..;refine br J J J (fun hc10=>?_) (fun hc10=>?_)
 .
  obtain⟨⟨b,e⟩,hx⟩: ∃x,ps[k]? =some x:=⟨_,aZ m5⟩;refine ix _ J (cO hx) J<|bb J J J (fun hc17=>?_) (fun hc17=>?_)
  .
   refine rf J J<|ap ((acc++[e]).map eC) J okn (aLY [e]) J<|fI 22 3 J<|at_ ⟨acc++[e],k+1⟩ (by dsimp only;exact⟨⟨by rw[<-h1,RF hx,if_pos hc17];simp,m5⟩,m5⟩)
  .
   exact at_ ⟨acc,k+1⟩ (by dsimp only;exact⟨⟨by rw[<-h1,RF hx,if_neg (by simp at hc17;rw[hc17];decide)];rfl,m5⟩,m5⟩)
 .
  obtain rfl:k=ps.length:=by omega
  obtain rfl:acc=f7 t:=by rw[fR] at h1;simpa[Aq] using h1
  refine iH 3 J<|rz J J
theorem BQ.samp(v:ao)(i j:Nat)[h1:BQ v.lo i][h2:BQ v.hi j]:BQ v.sample (i+j+1+2):=by
 have b1:BQ (1:Rat) 1:=⟨pb,pb⟩;unfold ao.sample;split
 .exact BQ.z1.mono m5
 .split
  .exact(inferInstance:BQ (v.hi-1) (j+1+1)).mono m5
  .split
   .exact(inferInstance:BQ (v.lo+1) (i+1+1)).mono m5
   .exact inferInstance
theorem aA4{s:bt}(h:Ny s):aC (s.l.at s.v.sample) 3500:=by
 haveI:=h.lb;haveI:=h.v.lo;haveI:=h.v.hi;have h0:BQ s.v.sample _:=BQ.samp s.v 1200 1200;have:= @aC.at s.l s.v.sample _ _ h0;exact⟨this.x.mono pb,this.y.mono pb⟩
def Wn(l m:ah):l.dir.cross m.dir=(crossI l m:Rat):=by
 unfold aa.cross ah.dir crossI;rw[gV,cV,cV];grind
def Jr{l m:ah}(h:0<Int.sign (l.dir.cross m.dir).num):crossI l m≠0:=fun e=>by
 rw[kg,Wn,e] at h;exact absurd h pb
def Ri{l m:ah}(h:crossI l m≠0):l.nor.cross m.nor≠0:=fun e=>by
 have:l.nor.cross m.nor=(crossI l m:Rat):=by
  unfold aa.cross ah.nor crossI;rw[gV,cV,cV];grind
 rw[this] at e;exact h (cS.1 e)
def NV{l m:ah}(h:crossI l m≠0):dC l m=⟨((l.b:Rat)*(m.c:Rat)-(l.c:Rat)*(m.b:Rat))/l.nor.cross m.nor,((l.c:Rat)*(m.a:Rat)-(l.a:Rat)*(m.c:Rat))/l.nor.cross m.nor⟩:=by
 have e1:(meetX l m:Rat)=(l.b:Rat)*(m.c:Rat)-(l.c:Rat)*(m.b:Rat):=by unfold meetX;rw[gV,cV,cV];grind
 have e2:(meetY l m:Rat)=(l.c:Rat)*(m.a:Rat)-(l.a:Rat)*(m.c:Rat):=by unfold meetY;rw[gV,cV,cV];grind
 have e3:(crossI l m:Rat)=l.nor.cross m.nor:=by unfold aa.cross ah.nor crossI;rw[gV,cV,cV];grind
 unfold dC;rw[if_neg h,e1,e2,e3]
def D2: ∀{t:Tr} {c:ar} {x:Bool×ar},t.all LB->t.all ah.ok->fE c->x∈t.parts c->fE x.2/\x.2.length<=c.length+t.depth
 | .leaf b,c,x,_,_,hc,h=>by
  rw[Tr.parts,aY] at h;subst h;exact⟨hc,pY _ _⟩
 | .node l u v,c,x,hb,ho,hc,h=>by
  have hl:=hb.1;have hd:(Tr.node l u v).depth=1+max u.depth v.depth:=J;rw[Tr.parts] at h;rcases aL.1 h with h|h
  .split at h
   .obtain⟨k1,k2⟩:=D2 hb.2.1 ho.2.1 (tA ho.1 hc) h
    have:=uB c l;exact⟨k1,m5⟩
   .cases h
  .split at h
   .obtain⟨k1,k2⟩:=D2 hb.2.2 ho.2.2 (tA ho.1.rev hc) h
    have:=uB c l.rev;exact⟨k1,m5⟩
   .cases h
def Rv(t:Tr):(f7 t).length<=t.size+1:=by
 unfold f7;rw[aX];exact dZ (qJ ..) (BG t [])
def IQ{t:Tr}(hb:t.all LB)(ho:t.all ah.ok): ∀c∈f7 t,c.length<=t.depth:=fun c hc=>by
 have:=(D2 hb ho fE.nil (tF.1 hc)).2;simpa using this
def aJI(l:List aa):dm 6 (l.map eZ):=fun d hd=>by
 obtain⟨x,_,rfl⟩:=aT.1 hd;exact⟨J,J⟩
def aEs{l m:ah}[hl:LB l][hm:LB m](hz:crossI l m≠0):PF GB prog 255 [dt l,dt m] (.tp [eZ (dC l m),vB true]):=by
 haveI:=aC.nor l;haveI:=aC.nor m;refine fn func255 J J ntmps255 J J (fun C=>?_);refine cl J (vJ (l:=l)) J<|cl J (vJ (l:=m)) J<|cl J (A8 (p:=l.nor) (q:=m.nor) (i:=97) (j:=97)) J<|cl (fu:=⟨0⟩) J (A6 (q:=l.nor.cross m.nor)) J<|aj 15 (.d (vB false)) J (by rw[decide_eq_false (Ri hz)])<|p6 15 J<|gx J<|cl J (qd (p:=(l.b:Rat)) (q:=(m.c:Rat)) (i:=97) (j:=97)) J<|cl J (qd (p:=(l.c:Rat)) (q:=(m.b:Rat)) (i:=97) (j:=97)) J<|cl J (rF (p:=(l.b:Rat)*(m.c:Rat)) (q:=(l.c:Rat)*(m.b:Rat))) J<|cl J (B8 (p:=(l.b:Rat)*(m.c:Rat)-(l.c:Rat)*(m.b:Rat)) (q:=l.nor.cross m.nor)) J<|cl J (qd (p:=(l.c:Rat)) (q:=(m.a:Rat)) (i:=97) (j:=97)) J<|cl J (qd (p:=(l.a:Rat)) (q:=(m.c:Rat)) (i:=97) (j:=97)) J<|cl J (rF (p:=(l.c:Rat)*(m.a:Rat)) (q:=(l.a:Rat)*(m.c:Rat))) J<|cl J (B8 (p:=(l.c:Rat)*(m.a:Rat)-(l.a:Rat)*(m.c:Rat)) (q:=l.nor.cross m.nor)) J<|rz J (by rw[NV hz];rfl)
def ZR{c:ar}(hb: ∀s∈c,LB s.l)(hn:c.length<=100000):PF GB prog 197 [eC c] (.sl ((kE (c.map (·.l))).map eZ)):=by
 have hml:(c.map dx).length=c.length:=aX ..;obtain⟨L,hL⟩: ∃L,L=c.map (·.l):=⟨_,rfl⟩;have hLl:L.length=c.length:=by rw[hL,aX]
 refine fn (fu:=⟨15⟩) func197 J J ntmps197 J J (fun C=>?_);refine aj 10 (.d (vI (c.length:Nat))) J omh<|gx J<|nr 3 3 103 6 J J J<|lp (X:=List aa×Nat) (fun⟨acc,k⟩=>[(11, .d (vI (k:Nat))),(3, .rw 3)]) (fun⟨acc,k⟩=>[(3,some (.b 103 6 (acc.map eZ) true))]) (fun⟨acc,k⟩=>acc=(List.range k).flatMap (tP L)/\k<=c.length) (fun⟨acc,k⟩=>c.length-k) ⟨[],0⟩ J ⟨J,bK _⟩ (fun _=>J) (fun⟨acc,k⟩ hk=>?_)
 try dsimp only at hk⊢
 obtain⟨h1,h2⟩:=hk;have hal:=Kk L k;rw[<-h1] at hal;have ham:(acc.map eZ).length=acc.length:=aX ..;refine br J J J (fun hc12=>?_) (fun hc12=>?_)
 .
  obtain⟨s,hx⟩: ∃u,c[k]? =some u:=⟨_,aZ m5⟩;obtain⟨u,hw⟩: ∃w,c[(k+1)%c.length]? =some w:=⟨_,aZ (dJ _ m5)⟩;haveI:=hb s (aW hx);haveI:=hb u (aW hw);have hxl:L[k]? =some s.l:=by rw[hL,cZ,hx];rfl
  have hwl:L[(k+1)%L.length]? =some u.l:=by rw[hLl,hL,cZ,hw];rfl
  refine ix (fu:=⟨13⟩) _ J (cO hx) J<|aj 20 (.d (vI (c.length:Nat))) J omh<|gx (fu:=⟨1⟩) J<|aj 21 (.d (vI (((k+1)%c.length:Nat):Int))) J J<|gx J<|ix _ J (cO hw) J<|cl J (wC (l:=s.l)) J<|cl J (wC (l:=u.l)) J<|cl J (A8 (p:=s.l.dir) (q:=u.l.dir) (i:=97) (j:=97)) J<|cl J (l6 (q:=s.l.dir.cross u.l.dir)) J<|br J J J (fun hc32=>?_) (fun hc32=>?_)
  .
   refine cl J (aEs (l:=s.l) (m:=u.l) (Jr hc32)) J<|rf J J<|ap ((acc++[dC s.l u.l]).map eZ) J okn (aJI [dC s.l u.l]) J<|fI 44 3 J<|at_ ⟨acc++[dC s.l u.l],k+1⟩ (by dsimp only;exact⟨⟨by rw[IJ,xT hxl hwl,if_pos hc32,<-h1],m5⟩,m5⟩)
  .
   exact at_ ⟨acc,k+1⟩ (by dsimp only;exact⟨⟨by rw[IJ,xT hxl hwl,if_neg hc32,<-h1,fT],m5⟩,m5⟩)
 .
  have hS:kE L=acc:=by unfold kE;rw[hLl,h1,show k=c.length by omega]
  refine iH 3 J<|rz J (by rw[<-hL,hS];rfl)
def PD{l m:ah}(h:crossI l m≠0){p:aa}(h1:l.value p=0)(h2:m.value p=0):p=dC l m:=by
 rw[NV h];have hd:=Ri h;rw[jD] at h1 h2;obtain⟨x,y⟩:=p;have e1:x*l.nor.cross m.nor=(l.b:Rat)*(m.c:Rat)-(l.c:Rat)*(m.b:Rat):=by unfold aa.cross ah.nor;grind
 have e2:y*l.nor.cross m.nor=(l.c:Rat)*(m.a:Rat)-(l.a:Rat)*(m.c:Rat):=by unfold aa.cross ah.nor;grind
 generalize l.nor.cross m.nor=d at*;simp only[aa.mk.injEq];constructor<;>grind
def Uz(l:ah)(t:Rat):l.at t=cd (l.at 0) l.dir t:=by rw[<-yt];congr 1;grind
section
variable {F:Fence}{md:Region.Mode}
def Up: ∀{k:Nat} {listed:Array Bool} {a:Act} {w:World},wpAnyIn F n P md ops Q k listed a w->wpAnyIn F n P md ops Q (k+1) listed a w
 |0,_,_,_,h=>⟨fun _=>h.2,fun i hi=>by rw[h.1] at hi;cases hi⟩
 |_+1,_,_,_,h=>⟨h.1,fun i hi=>wpOpIn_mono (fun _ _ k=>Up k) (h.2 i hi)⟩
def U9{k:Nat}{listed:Array Bool}{a:Act}{w:World}(h:wpAnyIn F n P md ops Q k listed a w): ∀j,wpAnyIn F n P md ops Q (j+k) listed a w
 |0=>by rw[eM];exact h
 |j+1=>by rw[show j+1+k=j+k+1 by omega];exact Up (U9 h j)
def Bf.lt(he:oq 0 l=true){j:Nat}(h:Bf l i j):j<i:=by
 induction h with
 |b ho hm hb=>have:=tB he _ _ ho _ hm hb;omega
 |s ho hm hb _ ih=>have:=tB he _ _ ho _ hm hb;omega
def Bf.inv{j:Nat}(h:Bf l i j): ∃o e,l[i]? =some o/\e∈o.after/\Region.binds .any e=true/\(e.on=j\/Bf l e.on j):=by
 induction h with
 |b ho hm hb=>exact⟨_,_,ho,hm,hb, .inl J⟩
 |s ho hm hb hh _=>exact⟨_,_,ho,hm,hb, .inr hh⟩
def QQ(he:oq 0 ops.toList=true): ∀(r pre:List Oper),ops.toList=pre++r->(∀i,pre.length<=i->i<ops.size-> ∀j,j<i->Bf ops.toList i j)-> ∀(listed:Array Bool) (a:Act) (w:World),(∀j d,listed.getD j d=if j<pre.length then true else if j<ops.size then false else d)->wpListIn F n P ops Q r a w->wpAnyIn F n P .any ops Q r.length listed a w
 |[],pre,hops,_,listed,a,w,hl,h=>by
  refine⟨?_,h⟩;rw[List.eq_nil_iff_forall_not_mem];intro i hi;obtain⟨h1,o,h2,_⟩:=mem_ready.1 hi;have h3:=(fM.1 h2).1;have h4:pre.length=ops.size:=by rw[<-jK,hops];simp
  rw[hl,if_pos m5] at h1
  cases h1
 |o::r,pre,hops,hc,listed,a,w,hl,h=>by
  have hsz:ops.size=pre.length+(r.length+1):=by rw[<-jK,hops];simp
  have hp:ops.toList[pre.length]? =some o:=by rw[hops];simp
  have hp':ops[pre.length]? =some o:=by simpa using hp
  have only: ∀i,i∈Region.ready .any ops listed↔i=pre.length:=fun i=>by
   rw[mem_ready];constructor
   .rintro ⟨h1,o',h2,h3⟩
    have h4:=(fM.1 h2).1;rw[hl] at h1;split at h1
    .cases h1
    .rename_i h5
     apply Classical.byContradiction;intro h6;have hb:=hc i m5 h4 pre.length m5;obtain⟨o2,e,ho,hm,hb,hh⟩:=hb.inv;have e':o'=o2:=Option.some.inj (h2.symm.trans oko);subst e';have h7:=h3 _ hm hb;have h9:=tB he _ _ ho _ hm hb;have h8:pre.length<=e.on:=by
      rcases hh with hh|hh
      .omega
      .have:=hh.lt he;omega
     rw[hl,if_neg m5,if_pos m5] at h7
     cases h7
   .rintro rfl
    refine⟨by rw[hl,if_neg m5,if_pos m5],o,hp',fun e hm hb=>?_⟩;have:=tB he _ _ hp _ hm hb;rw[hl,if_pos m5]
  refine⟨fun hn=>?_,fun i hi=>?_⟩
  .have:=(only pre.length).2 J
   rw[hn] at this;cases this
  .obtain rfl:=(only i).1 hi
   have ih:=QQ he r (pre++[o]) (by rw[hops];simp) (fun i h1 h2=>hc i (by simp at h1;omega) h2) (listed.setIfInBounds pre.length true);have hl': ∀j d,(listed.setIfInBounds pre.length true).getD j d=if j<(pre++[o]).length then true else if j<ops.size then false else d:=fun j d=>by
    have hls:pre.length<listed.size:=by
     apply Classical.byContradiction;intro hq;have h1:=hl pre.length true;rw[if_neg m5,if_pos m5,cY,nR m5] at h1
     cases h1
    have h1:=hl j d;rw[cY] at h1⊢;rw[fZ];by_cases hj:pre.length=j
    .subst hj;rw[if_pos J,if_pos hls,if_pos vb];rfl
    .rw[if_neg hj,h1]
     simp only[aU,aN,eK];by_cases h2:j<pre.length
     .rw[if_pos h2,if_pos m5]
     .rw[if_neg h2]
      by_cases h3:j<ops.size
      .rw[if_pos h3,if_neg m5];
      .rw[if_neg h3,if_neg m5]
   unfold wpOpIn;rw[hp'];simp only[wpListIn] at h⊢;split
   .rename_i hw;rw[if_pos hw] at h
    exact Oper.wpIn_mono (fun a w k=>ih a w hl' k) h
   .rename_i hw;rw[if_neg hw] at h
    exact⟨h.1,ih _ _ hl' h.2⟩
def Fv(F:Fence)(n:Nat)(P:Program)(ops:Array Oper)(r:List Oper)(Q:Exit->Act->World->Prop):Exit->Act->World->Prop
 | .normal=>wpListIn F n P ops Q r
 |e=>Q e
def XE{K:Act->World->Prop}(h:o.wpIn F n P a w K (Fv F n P ops r Q)):o.wpIn F n P a w K Q:=by
 refine⟨h.1,?_⟩;have:=h.2
 cases hr:(o.semAt F.round a.eval).run P w with
 |ok x w'=>
  rw[hr] at this
  cases x with
  |enter f args=>exact⟨this.1,CallsIn.mono this.2 fun e w'' he=>by cases e<;>exact he⟩
  |round l f t x y=>exact⟨this.1,RoundIn.mono this.2 fun e w'' he=>by cases e<;>exact he⟩
  |_=>exact this
 |halt x w'=>
  rw[hr] at this
  cases x<;>exact this
def aHN(hops:ops.toList=pre++r)(hg: ∀o∈pre,o.guard=none)(he:oq 0 ops.toList=true)(hc: ∀i,pre.length<=i->i<ops.size-> ∀j,j<i->Bf ops.toList i j):
  ∀(fuel:Nat) (L listed:Array Bool) (a:Act) (w:World),L.size=pre.length->(∀j d,listed.getD j d=if j<pre.length then L.getD j d else if j<ops.size then false else d)->(∀i o,ops.toList[i]? =some o->listed.getD i false=true-> ∀e∈o.after,Region.binds .any e=true->listed.getD e.on false=true)->
   wpAnyIn F n P .any pre.toArray (Fv F n P ops r Q) fuel L a w->wpAnyIn F n P .any ops Q (fuel+r.length) listed a w:=by
 have hsz:ops.size=pre.length+r.length:=by rw[<-jK,hops];simp
 have hget: ∀i,i<pre.length->ops[i]? =pre.toArray[i]? :=fun i hi=>by rw[<-qX,hops,fS hi];simp
 -- all of the first part is done
 have fin: ∀(L listed:Array Bool) (a:Act) (w:World),L.size=pre.length->(∀j d,listed.getD j d=if j<pre.length then L.getD j d else if j<ops.size then false else d)->Region.ready .any pre.toArray L=[]->wpListIn F n P ops Q r a w->wpAnyIn F n P .any ops Q r.length listed a w:=by
  intro L listed a w hL hl hr h;have all: ∀i,i<pre.length->L.getD i true=true:=by
   intro i
   induction i using Nat.strongRecOn with
   |ind i ih=>
    intro hi
    cases hq:L.getD i true with
    |true=>rfl
    |false=>
     have:i∈Region.ready .any pre.toArray L:=mem_ready.2 ⟨hq,pre[i],by simp[hi],fun e hm hb=>by
      have hlt:=tB he i pre[i] (by rw[hops,fS hi];simp[hi]) e hm hb;have:=ih e.on m5 m5;rw[cY,gN m5] at this⊢;simpa using this⟩
     rw[hr] at this;cases this
  refine QQ he r pre hops hc listed a w (fun j d=>?_) h;rw[hl];by_cases hj:j<pre.length
  .have:=all j hj
   rw[if_pos hj,if_pos hj];rw[cY,gN m5] at this⊢;simpa using this
  .rw[if_neg hj,if_neg hj]
 intro fuel
 induction fuel with
 |zero=>
  intro L listed a w hL hl hcl h;rw[eM];exact fin L listed a w hL hl h.1 h.2
 |succ fuel ih=>
  intro L listed a w hL hl hcl h;by_cases hr:Region.ready .any pre.toArray L=[]
  .exact U9 (fin L listed a w hL hl hr (h.1 hr)) (fuel+1)
  .have sub: ∀i,i∈Region.ready .any pre.toArray L->i∈Region.ready .any ops listed:=fun i hi=>by
    obtain⟨h1,o,h2,h3⟩:=mem_ready.1 hi;have hi':i<pre.length:=by have:=(fM.1 h2).1;simpa using this
    refine mem_ready.2 ⟨by rw[hl,if_pos hi'];exact h1,o,by rw[hget i hi'];exact h2,fun e hm hb=>?_⟩;have hlt:=tB he i o (by rw[hops,fS hi'];simpa using h2) e hm hb;rw[hl,if_pos m5];exact h3 e hm hb
   have sup: ∀i,i∈Region.ready .any ops listed->i∈Region.ready .any pre.toArray L:=fun i hi=>by
    obtain⟨h1,o,h2,h3⟩:=mem_ready.1 hi;have h4:=(fM.1 h2).1;by_cases hi':i<pre.length
    .rw[hl,if_pos hi'] at h1
     refine mem_ready.2 ⟨h1,o,by rw[<-hget i hi'];exact h2,fun e hm hb=>?_⟩;have hlt:=tB he i o (by simpa using h2) e hm hb;have:=h3 e hm hb;rw[hl,if_pos m5] at this;exact this
    .exfalso
     obtain⟨j,hj⟩:=List.exists_mem_of_ne_nil _ hr;obtain⟨g1,o2,g2,_⟩:=mem_ready.1 hj;have hj':j<pre.length:=by have:=(fM.1 g2).1;simpa using this
     have clo: ∀i j,Bf ops.toList i j->listed.getD i false=true->listed.getD j false=true:=fun i j hb=>by
      induction hb with
      |b ho hm hb=>intro hi;exact hcl _ _ ho hi _ hm hb
      |s ho hm hb _ ih=>intro hi;exact ih (hcl _ _ ho hi _ hm hb)
     have hjf:listed.getD j false=false:=by
      rw[hl,if_pos hj'];rw[cY,gN m5] at g1⊢;simpa using g1
     have:listed.getD j false=true:=by
      obtain⟨o2,e,ho,hm,hb,hh⟩:=(hc i m5 h4 j m5).inv;have e':o=o2:=Option.some.inj (h2.symm.trans oko);subst e';rcases hh with hh|hh
      .rw[<-hh];exact h3 _ hm hb
      .exact clo _ _ hh (h3 _ hm hb)
     rw[hjf] at this;cases this
   rw[show fuel+1+r.length=(fuel+r.length)+1 by omega];refine⟨fun hn=>?_,fun i hi=>?_⟩
   .obtain⟨j,hj⟩:=List.exists_mem_of_ne_nil _ hr
    have:=sub j hj;rw[hn] at this;cases this
   .have hi0:=sup i hi
    have hk:=h.2 i hi0;obtain⟨h1,o,h2,h3⟩:=mem_ready.1 hi0;have hi':i<pre.length:=by have:=(fM.1 h2).1;simpa using this
    have hgo:o.guard=none:=hg o (by
     have h2':pre[i]? =some o:=by simpa using h2
     exact aW h2')
    have step: ∀a w,wpAnyIn F n P .any pre.toArray (Fv F n P ops r Q) fuel (L.setIfInBounds i true) a w->wpAnyIn F n P .any ops Q (fuel+r.length) (listed.setIfInBounds i true) a w:=by
     intro a w hh;have hls:i<listed.size:=by
      apply Classical.byContradiction;intro hq;have q:=hl i true;have q':=hl i false;rw[if_pos hi'] at q q';rw[cY,nR m5] at q q';rw[cY,gN m5] at q q';simp only[Option.getD_none,lJ] at q q';rw[<-q] at q';cases q'
     have hl': ∀j d,(listed.setIfInBounds i true).getD j d=if j<pre.length then(L.setIfInBounds i true).getD j d else if j<ops.size then false else d:=fun j d=>by
      have q:=hl j d;rw[cY] at q⊢;rw[cY] at q⊢;rw[fZ,fZ];by_cases hj:i=j
      .subst hj;rw[if_pos J,if_pos J,if_pos hls,if_pos hi',if_pos m5]
      .rw[if_neg hj,if_neg hj];exact q
     refine ih _ _ a w (by simp[hL]) hl' (fun i2 o2 g1 g2 e hm hb=>?_) hh;have g3:i2=i\/listed.getD i2 false=true:=by
      rw[cY,fZ] at g2;by_cases hj:i=i2
      .exact .inl hj.symm
      .rw[if_neg hj] at g2;rw[cY];exact .inr g2
     have g4:listed.getD e.on false=true:=by
      rcases g3 with rfl|g3
      .have e':o=o2:=Option.some.inj (((hget i2 hi').trans h2).symm.trans (by simpa using g1))
       subst e';have hlt:=tB he i2 o g1 e hm hb;rw[hl,if_pos m5];exact h3 e hm hb
      .exact hcl i2 o2 g1 g3 e hm hb
     rw[cY,fZ];by_cases hj:i=e.on
     .rw[if_pos hj];rw[if_pos hls];rfl
     .rw[if_neg hj];rw[cY] at g4;exact g4
    unfold wpOpIn at hk⊢;rw[hget i hi',h2];rw[h2] at hk;have hw: ∀y,Region.wanted o y=true:=fun y=>by unfold Region.wanted;rw[hgo]
    simp only[hw,if_true] at hk⊢;exact XE (Oper.wpIn_mono step hk)
end
section
variable {own:aI}{us:List Rc}{id:Nat}
def FA(x:Nat):Nat->Bool
 |0=>true
 |i+1=>x.testBit i&&FA x i
def Qv{x:Nat}: ∀{i:Nat},FA x i=true-> ∀j,j<i->x.testBit j=true
 |i+1,h,j,hj=>by
  simp only[FA,bR] at h;by_cases e:j=i
  .subst e;exact h.1
  .exact Qv h.2 j m5
def Bu:Nat->List Nat->Bool
 |_,[]=>true
 |i,x::t=>FA x i&&Bu (i+1) t
def L5: ∀{l:List Nat} {k:Nat},Bu k l=true-> ∀i x,l[i]? =some x-> ∀j,j<k+i->x.testBit j=true
 |y::t,k,h,0,x,hx,j,hj=>by
  simp only[Bu,bR] at h
  cases hx
  exact Qv h.1 j m5
 |y::t,k,h,i+1,x,hx,j,hj=>by
  simp only[Bu,bR] at h;exact L5 h.2 i x (by simpa using hx) j m5
def Pa: ∀(r:List Oper) (acc:List Nat),(qO r acc).length=acc.length+r.length
 |[],acc=>by simp[qO]
 |o::r,acc=>by simp only[qO];rw[Pa];simp;omega
def GZ(m:Nat)(pre all:List Oper)(us:List Rc)(fr0:aD)(own0:aI):Bool:=
 (pre.all (fun o=>o.guard.isNone)&&wQ (qO pre []) [] us)&&((oq 0 all&&Bu m ((qO all []).drop m))&&E2 us fr0 own0)
def XU(hm:P.follows .mixedOrders=true)(h:GZ us.length (ops.toList.take us.length) ops.toList us fr0 own0=true)(k:av P GB C n Q0 fr own (.ops ops r K)):av P GB C n Q0 fr own (.dr id ops fr0 own0 us r K):=by
 intro D;obtain⟨pre,hp,hl⟩:=D.pre;have ht:ops.toList.take us.length=pre:=by rw[hp,<-hl];simp
 rw[ht] at h;simp only[GZ,bR] at h;obtain⟨⟨h1,h2⟩,⟨h3,h4⟩,h5⟩:=h;have hg: ∀o∈pre,o.guard=none:=fun o ho=>by simpa using dW.1 h1 o ho
 have hgt: ∀i,i<pre.length->ops[i]? =pre.toArray[i]? :=fun i hi=>by rw[<-qX,hp,fS hi];simp
 have hc: ∀i,pre.length<=i->i<ops.size-> ∀j,j<i->Bf ops.toList i j:=fun i g1 g2 j g3=>by
  refine Ju ops.toList [] [] J J (fun i j h=>by simp at h) i j ?_;have hlen:=Pa ops.toList [];have hi:i<(qO ops.toList []).length:=by rw[hlen];simpa using g2
  rw[aK,aZ hi];refine L5 h4 (i-us.length) _ ?_ j m5;rw[mQ,show us.length+(i-us.length)=i by omega];exact aZ hi
 have he':oq 0 pre=true:=by
  have: ∀(l l':List Oper) (k:Nat),oq k (l++l')=true->oq k l=true:=by
   intro l l'
   induction l with
   |nil=>intros;rfl
   |cons o t ih=>intro k h;simp only[iV,oq,bR] at h⊢;exact⟨h.1,ih _ h.2⟩
  exact this pre r 0 (by rw[<-hp];exact h3)
 have D':kl P GB C n pre.toArray us (bi fr0,bA own0):=by
  refine⟨by simpa using hl.symm,fun i u o hu ho=>?_,by simpa using h2,by simpa using he',L8 h5⟩;have hi:i<pre.length:=by have:=(fM.1 ho).1;simpa using this
  obtain⟨d1,d2⟩:=D.snd i u o hu (by rw[hgt i hi];exact ho);refine⟨d1,fun Q tl tb K s1 s2 hf hk=>?_⟩;refine(d2 Q tl tb K s1 s2 hf hk).imp fun a w q=>?_;have hgo:o.guard=none:=hg o (aW oko);have hw: ∀y,Region.wanted o y=true:=fun y=>by unfold Region.wanted;rw[hgo]
  unfold wO at q⊢;simp only[hw,if_true] at q⊢;exact q
 have e:cG (eH (Array.replicate pre.length false)) 0 (bi fr0,bA own0) us=(bi fr0,bA own0):=by
  have: ∀(l:List Rc) (k:Nat) (s:ST),cG (eH (Array.replicate pre.length false)) k s l=s:=fun l=>by
   induction l with
   |nil=>intro k s;rfl
   |cons y l ih=>
    intro k s;simp only[cG];rw[ih];rw[ES];rfl
  exact this us 0 _
 have hw:=D'.walk (Q:=Fv (FW C.rd) 0 P ops r (cQ C.rd P Q0 K)) (by rw[D.st];exact k) pre.toArray.size (Array.replicate pre.length false) vb (fun i o _ hi=>by rw[ES] at hi;cases hi) (by unfold un;exact dZ (qJ _ _) vb);rw[e] at hw;refine hw.drew.imp fun a w q=>wpIn_region_any hm ?_;have hsz:ops.size=pre.toArray.size+r.length:=by rw[<-jK,hp];simp
 rw[show wpAnyIn (FW C.rd) 0 P .any ops (cQ C.rd P Q0 K) ops.size=wpAnyIn (FW C.rd) 0 P .any ops (cQ C.rd P Q0 K) (pre.toArray.size+r.length) by rw[hsz]];refine aHN hp hg h3 hc _ _ _ _ _ vb (fun j d=>?_) (fun i o _ hi=>?_) q
 .have hs2:ops.size=pre.length+r.length:=by simpa using hsz
  simp only[cY,rU];by_cases g1:j<pre.length
  .rw[if_pos m5,if_pos g1,if_pos g1]
  .by_cases g2:j<ops.size
   .rw[if_pos g2,if_neg g1,if_pos g2];rfl
   .rw[if_neg g2,if_neg g1,if_neg g2];rfl
 .simp only[cY,rU] at hi
  split at hi<;>cases hi
end
section
variable {own:aI}{us:List Rc}{id:Nat}
def drT[fu:Fu](h:GZ us.length (ops.toList.take us.length) ops.toList us fr0 own0=true)(hgo:go tt n fu.n [] fr own (.ops ops r K)=⟨vc,fr',own',cf'⟩)(k:av prog GB C n Q0 fr' own' cf')
  (hv:autoParam (ak vc) cL._auto_1):av prog GB C n Q0 fr own (.dr id ops fr0 own0 us r K):=
 XU follows h (gF hgo hv k)
end
def Ic(o:Obj):Prop:= ∀cs ty z,o≠ .cells cs ty z
section
variable {own:List aA}
def bP.ctx(h:bP C own G w)(h1:C'.w0=C.w0)(h2:C'.G0=C.G0)(h3:C'.mb=C.mb)(h4: ∀p∈C'.ex,p∈C.ex):bP C' own G w:=by
 obtain⟨a1,a2,a3,a4,a5,a6,a7,a8,a9,a10,a11,a12⟩:=h;exact⟨by rw[h1];exact a1,by rw[h1];exact a2,by rw[h1];exact a3,by rw[h1];exact a4,by rw[h1,h3];exact a5,a6,by rw[h2];exact a7,by rw[h1,h2];exact a8,by rw[h1,h3];exact a9,a10,by rw[h1];exact a11,fun p hp=>a12 p (h4 p hp)⟩
def bP.addx(h:bP C own G w){o:Obj}(ho:Ic o)(h1:C'.w0=C.w0)(h2:C'.G0=C.G0)(h3:C'.mb=C.mb)(h4: ∀p∈C'.ex,p=(w.heap.size,o)\/p∈C.ex):bP C' own G (w.alloc o):=by
 have old: ∀b,b<w.heap.size->(w.alloc o).heap[b]? =w.heap[b]? :=fun b hb=>RowKit.Below.heap_alloc _ _ _ hb;obtain⟨a1,a2,a3,a4,a5,a6,a7,a8,a9,a10,a11,a12⟩:=h;refine⟨by rw[h1];exact a1,by rw[h1];exact a2,by rw[h1];exact a3,by rw[h1];simp;omega,?_,?_,by rw[h2];exact a7,by rw[h1,h2];exact a8,?_,a10,by rw[h1];exact a11,?_⟩
 .rw[h1,h3];intro b hb hm;rw[old b m5];exact a5 b hb hm
 .intro b cs hb
  obtain⟨ty,fz,hc⟩:=a6 b cs hb;exact⟨ty,fz,by rw[old b (i6 hc)];exact hc⟩
 .rw[h1,h3];intro x hx
  obtain⟨b1,b2⟩:=a9 x hx;exact⟨by rw[old _ (i6 b1)];exact b1,b2⟩
 .intro p hp
  rcases h4 p hp with rfl|hp
  .exact⟨ho,World.alloc_heap_new w o⟩
  .exact⟨(a12 p hp).1,by rw[old _ (i6 (a12 p hp).2)];exact(a12 p hp).2⟩
def bP.putx(h:bP C own G w){l:Nat}{o0 o:Obj}(hl:(l,o0)∈C.ex)(hs:C.w0.heap.size<=l)(ho:Ic o)(h1:C'.w0=C.w0)(h2:C'.G0=C.G0)(h3:C'.mb=C.mb)(h4: ∀p∈C'.ex,p=(l,o)\/p∈C.ex/\p.1≠l):bP C' own G (w.putObj l o):=by
 have hne: ∀{b:Nat} {cs:Array Value} {ty:TypeId} {z:Nat×Nat},w.heap[b]? =some (.cells cs ty z)->b≠l:=fun hb e=>h.extNe hl hb e.symm;have hlt:=i6 (h.ext _ hl).2;obtain⟨a1,a2,a3,a4,a5,a6,a7,a8,a9,a10,a11,a12⟩:=h;refine⟨by rw[h1];exact a1,by rw[h1];exact a2,by rw[h1];exact a3,by rw[h1];simpa using a4,?_,?_,by rw[h2];exact a7,by rw[h1,h2];exact a8,?_,a10,by rw[h1];exact a11,?_⟩
 .rw[h1,h3];intro b hb hm;rw[World.putObj_heap_other m5];exact a5 b hb hm
 .intro b cs hb
  obtain⟨ty,fz,hc⟩:=a6 b cs hb;exact⟨ty,fz,by rw[World.putObj_heap_other (hne hc)];exact hc⟩
 .rw[h1,h3];intro x hx
  obtain⟨b1,b2⟩:=a9 x hx;exact⟨by rw[World.putObj_heap_other (hne b1)];exact b1,b2⟩
 .intro p hp
  rcases h4 p hp with rfl|⟨hp,hpl⟩
  .exact⟨ho,World.putObj_heap_same hlt⟩
  .exact⟨(a12 p hp).1,by rw[World.putObj_heap_other hpl];exact(a12 p hp).2⟩
end
abbrev oh (w:World) (G:Gh):aG:=⟨w,G,[],[],[],none,fun _=>none⟩
def Ku(G:Gh)(w:World):Prop:= ∀b cs,G b=some cs-> ∃ty fz,w.heap[b]? =some (.cells ⟨cs⟩ ty fz)
structure OX (Jv:Gh->World->Prop):Prop where
 frz: ∀G w,Jv G w->Ku G w
 on: ∀G w G1 w1,Jv G w->bP (oh w G) [] G1 w1->Jv G1 w1
def HW(h:Ku G w):bP (oh w G) [] G w:=
 ⟨J,J,J,bW _,fun _ _ _=>J,h,b9.refl _,fun _ _=>J,fun o ho=>(by cases ho), .nil,bW _,fun p hp=>by cases hp⟩
structure AM (GB:Gh) (P:Program) (l:Nat) (Jv:Nat->Gh->World->Prop) (Jx:Gh->World->Prop) (E:List (List DV)):Prop where
 st: ∀k,OX (Jv k)
 sx:OX Jx
 yd: ∀k e G w ys,E[k]? =some e->b9 GB G->Jv k G w->IsLs G e ys->YieldAt (FW none) 0 P l ⟨ys⟩ w fun e w'=> ∃G',b9 G G'/\(e= .returned (.bool true)/\Jv (k+1) G' w'\/e= .returned (.bool false)/\Jx G' w')
structure It (GB:Gh) (P:Program) (f:FuncId) (ds:List DV) (E:List (List DV)):Prop where
 able:rC P f
 run: ∀(l:Nat) (Jv:Nat->Gh->World->Prop) (Jx:Gh->World->Prop) (GB':Gh),b9 GB GB'->AM GB' P l Jv Jx E-> ∀w vs,Jv 0 GB' w->IsLs GB' ds vs->
  CallsIn (FW none) 0 P f ⟨.func (.yield l) #[] #[]::vs⟩ w fun e w'=> ∃G',b9 GB' G'/\(∃v,e= .returned v)/\(Jv E.length G' w'\/Jx G' w')
structure Pl (C:aG):Prop where
 mb:C.mb=[]
 mks:C.mks=[]
 rd:C.rd=none
def Lp(P:Program)(fb:Func)(GB:Gh)(Jv:Nat->Gh->World->Prop)(Jx:Gh->World->Prop)(N:Nat):Exit->Act->World->Prop:=
 bodyPost P fb fun e w'=> ∃G',b9 GB G'/\(∃v,e= .returned v)/\(Jv N G' w'\/Jx G' w')
section
variable {own:aI}
def aNW[fu:Fu]{m:Nat}{cf:Nat->Cf}{fr:Nat->aD}{own:Nat->aI}{vc:Nat->List Prop}(hf:prog.funcs[f]? =some fb)(hb:fb.body=some c)(hn:(fb.name== "runtime.NumGoroutine")=false)(hm:fb.ntmps=m)(hlen:Nat.ble (ds.length+1) m=true)
  (hgo: ∀l,go tt m fu.n [] (tn 0 (.v (.func (.yield l) #[] #[])::ds)) [] (.code c [])=⟨vc l,fr l,own l,cf l⟩)
  (k: ∀l Jv Jx GB',b9 GB GB'->AM GB' prog l Jv Jx E-> ∀C,Pl C->Jv 0 C.G0 C.w0->av prog GB' C m (Lp prog fb GB' Jv Jx E.length) (fr l) (own l) (cf l))
  (hv: ∀l,ak (vc l):=by intros;first|exact trivial|(simp only[ak];kernel_rfl)|(simp only[ak];omega)):It GB prog f ds E:=by
 refine⟨⟨fb,hf,hn,by simp[hb]⟩,fun l Jv Jx GB' hg H w vs hJ hvs=>?_⟩;have hlen':vs.length+1<=m:=by rw[hvs.len];simpa using hlen
 have h:=gF (GB:=GB') (C:=oh w GB') (Q0:=Lp prog fb GB' Jv Jx E.length) (hgo l) (hv l) (k l Jv Jx GB' hg H (oh w GB') ⟨J,J,J⟩ hJ);refine callsIn_wide.2 (calls_of_wp hf hb ?_);have hvs':IsLs GB' (.v (.func (.yield l) #[] #[])::ds) (.func (.yield l) #[] #[]::vs):= .cons (aO.2 J) hvs;refine xb J (h.run (fun _=>⟨none,0,0⟩) GB' [] _ w ⟨b9.refl _,HW ((H.st 0).frz _ _ hJ),by simp;omega,J,fun k f e=>yY hvs' (fun k v hk=>?_) k f e,(fun nm B e=>by cases e),(fun nm nm' B B' e=>by cases e),fun nm p _ _ e=>by cases e⟩);obtain⟨j,rfl,hj⟩:=xl (.func (.yield l) #[] #[]::vs) 0 k v hk;have hj':=(aS.1 hj).1;rw[kN omE];simpa using hj
def bP.pl(h:bP C ov G w)(hp:Pl C):bP (oh C.w0 C.G0) [] G w:=
 (h.drop (kX _)).ctx J J hp.mb.symm (fun p hp=>by cases hp)
def Rp{l:Nat}(H:AM GB P l Jv Jx E)(hp:Pl C)(hJ:Jv E.length C.G0 C.w0\/Jx C.G0 C.w0)(hr:fb.results.toList=[])(he:EL e=true:=by rfl):
  av P GB C n (Lp P fb GB Jv Jx E.length) fr own (.ex e []):=by
 refine⟨fun ρ G ov a w r=>?_⟩;have hj:Jv E.length G w\/Jx G w:=hJ.imp (fun h=>(H.st _).on _ _ _ _ h (r.h.pl hp)) fun h=>H.sx.on _ _ _ _ h (r.h.pl hp);have hr':lm P (cI a) ov fb.results.toList []:=by rw[hr];exact .nil
 cases e with
 |ret=>exact⟨r.df.trans hp.mks,_,vi hr' (dh a) r.h,G,r.gb,⟨_,J⟩,hj⟩
 |normal=>exact⟨r.df.trans hp.mks,_,vi hr' (dh a) r.h,G,r.gb,⟨_,J⟩,hj⟩
 |_=>cases he
def aHU{fr:Fr}{l:Nat}{gd:Option (Nat×Bool)}(hf:mh fr a)(ho:aE fr fo=some (.func (.yield l) ⟨[]⟩ ⟨[]⟩))(hv:gk fr args.toList=some vs):
  (execOp a.eval ⟨dst, .call ⟨.value fo,args,tys⟩,ty',pos,af,gd⟩).run P w=(Instr.yield l ⟨vs⟩).run P w:=by
 have e:args.map a.eval=⟨vs⟩:=by apply Array.ext';simpa using AG hf hv
 simp only[execOp,resolve,bC hf ho,e,Deferred.ofValue];show(invoke (.fn (.yield l) ⟨[]⟩) (⟨[]⟩++⟨vs⟩)).run P w=_;simp only[invoke];rw[show((⟨[]⟩:Array Value)++⟨vs⟩)=⟨vs⟩ by simp]
def py:aD->aD
 |[]=>[]
 |(k,f)::t=>match f with
  | .ov .. =>py t
  | .rw .. =>py t
  | .be .. =>py t
  | .rs .. =>py t
  | .bx .. =>py t
  | .no=>py t
  |f=>(k,f)::py t
def OJ(fr:aD)(ops:Array Oper)(o:Oper):Option (Nat×List DV×Nat):=match o with
 |⟨some d, .call ⟨.value fo,args,_⟩,_,_,_,none⟩=>match aP (bi fr) fo,evDs (bi fr) args.toList with
  |some (.d (.v (.func (.yield l) ⟨[]⟩ ⟨[]⟩))),some ds=>some (l,ds,d)
  |_,_=>none
 |_=>none
def cy[fu1:Fu][fu2:Fu]{l d:Nat}(frd:aD)(H:AM GB prog l Jv Jx E)(hp:Pl C)(hJ:Jv k C.G0 C.w0)(ha:OJ fr ops o=some (l,ds,d))(hE:E[k]? =some ds)(hd:cv n (some d)=true)
  (hfd:vO frd fr)(hnd:py frd=frd)
  (g1:go tt n fu1.n [] ((d, .tt)::frd) [] (.ops ops r K)=⟨vc1,fr1,own1,cf1⟩)(g2:go tt n fu2.n [] ((d, .ff)::frd) [] (.ops ops r K)=⟨vc2,fr2,own2,cf2⟩)
  (k1: ∀C',Pl C'->Jv (k+1) C'.G0 C'.w0->av prog GB C' n Q0 fr1 own1 cf1)(k2: ∀C',Pl C'->Jx C'.G0 C'.w0->av prog GB C' n Q0 fr2 own2 cf2)
  (v1:autoParam (ak vc1) cL._auto_1)(v2:autoParam (ak vc2) cL._auto_1):
  av prog GB C n Q0 fr own (.ops ops (o::r) K):=by
 unfold OJ at ha;split at ha<;>try (cases ha;done)
 rename_i d0 fo args tys ty pos af;split at ha<;>cases ha;rename_i h1 h2;have nmd: ∀{f:aD},py f=f-> ∀k x,bi f k=some x->x.nm=none:=by
  have len: ∀f:aD,(py f).length<=f.length:=fun f=>by
   induction f with
   |nil=>exact bW _
   |cons e t ih=>obtain⟨j,x⟩:=e;cases x<;>simp only[py,aN]<;>omega
  intro f
  induction f with
  |nil=>intro _ k x e;cases e
  |cons e t ih=>
   obtain⟨j,y⟩:=e;intro hd k x hx;rw[li] at hx;have:=len t;split at hx
   .cases hx
    cases y<;>first|rfl|(have:=congrArg List.length hd;simp only[py,aN] at this;omega)
   .refine ih ?_ k x hx
    cases y<;>first|exact(List.cons.inj hd).2|(have:=congrArg List.length hd;simp only[py,aN] at this;omega)
 refine⟨fun ρ G ov a w rl=>?_⟩;have hJG:Jv k G w:=(H.st k).on _ _ _ _ hJ (rl.h.pl hp);obtain⟨y,hy,hy'⟩:=rl.ev h1;rw[(aO (G:=G)).1 hy'] at hy;obtain⟨vs,h3,h4⟩:=rl.evDs h2;obtain⟨fn,tmps,assign,body,hrun,hround⟩:=H.yd k ds G w vs hE rl.gb hJG h4;rw[hp.rd];simp only[wpListIn];rw[if_pos okA];refine⟨fun _ _=>trivial,?_⟩;have hs: ∀o:Oper,Oper.semAt (FW none).round a.eval o=execOp a.eval o:=fun _=>J;rw[hs,aHU (dh a) hy h3,hrun];refine⟨fun h=>okH,hround.mono fun e w' he=>?_⟩;obtain⟨G',hg,he⟩:=he;have rel: ∀(b:Bool) (f:FX),(∀ρ,cp ρ G' f (.bool b))->Ku G' w'->ce GB (oh w' G') n (bi ((d,f)::frd)) (bA []) ρ G' [] (a.put (some d) (.bool b)) w':=fun b f hfb hz=>by
  have pa:=rl.putA (dst:=some d) (.bool b) hd;refine⟨rl.gb.trans hg,HW hz,pa.sz,by rw[pa.df];exact hp.mks,fun k g e=>?_,(fun nm B e=>by cases e),(fun nm nm' B B' e=>by cases e),fun nm p _ _ e=>by cases e⟩;have e':fq (bi frd) (some d) f k=some g:=by
   rw[li] at e;simp only[fq];split at e
   .rename_i hk;rw[if_pos hk];exact e
   .rename_i hk;rw[if_neg hk];exact e
  refine pa.fx (fun k g _ e=>?_) (hfb ρ) k g e';obtain⟨u,h5,h6⟩:=rl.fx k g (xo hfd k g e);exact⟨u,h5,h6.up hg⟩
 rcases he with⟨rfl,hj⟩|⟨rfl,hj⟩
 .exact(gF (GB:=GB) (C:=oh w' G') (Q0:=Q0) g1 v1 (k1 (oh w' G') ⟨J,J,J⟩ hj)).run ρ G' [] _ w' (rel true .tt (fun _=>J) ((H.st _).frz _ _ hj))
 .exact(gF (GB:=GB) (C:=oh w' G') (Q0:=Q0) g2 v2 (k2 (oh w' G') ⟨J,J,J⟩ hj)).run ρ G' [] _ w' (rel false .ff (fun _=>J) (H.sx.frz _ _ hj))
def LN(GB:Gh)(n:Nat)(F:X->aD)(I:X->aG->Prop)(a:Act)(w:World):Prop:=
 ∃C x ρ G ov,Pl C/\I x C/\ce GB C n (bi (F x)) (bA []) ρ G ov a w
def Zf[fu:Fu](F:X->aD)(I:X->aG->Prop)(μ:X->Nat)(x0:X){cf':X->Cf}{fr':X->aD}{own':X->aI}{vc:X->List Prop}(hp:Pl C)(hI:I x0 C)
  (hgo: ∀x,go tt n fu.n [] (F x) [] (.code c (.ag (LN GB n F (fun y C=>I y C/\μ y<μ x))::K))=⟨vc x,fr' x,own' x,cf' x⟩)
  (round: ∀x C,Pl C->I x C->av prog GB C n Q0 (fr' x) (own' x) (cf' x))(hF:vO (F x0) fr:=by repeat (first|exact trivial|refine And.intro J ?_|refine And.intro (qf J omY) ?_|refine And.intro (qf J vb) ?_))
  (hv: ∀x C,I x C->ak (vc x):=by intros;first|exact trivial|(simp only[ak];kernel_rfl)|(simp only[ak];omega)|(simp only[ak,aX,bZ,aR];omega)):av prog GB C n Q0 fr own (.code (.loop c) K):=by
 refine⟨fun ρ G ov a w r=>?_⟩;have r0:=r.mono (bk:=bA []) (xo hF) (fun k x e=>by cases e);rw[hp.rd];intro b k cs hro hb hrm;have key: ∀m a w,(∃C x ρ G ov,Pl C/\I x C/\μ x=m/\ce GB C n (bi (F x)) (bA []) ρ G ov a w)->
   ∃e a' w',cQ none prog Q0 K e a' w'/\ArrivesIn (Machine.fenced prog (FW none)) prog (lone (b.atR a (.code c:: .inLoop c::k)) cs w) b k cs e a' w':=by
  intro m
  induction m using Nat.strongRecOn with
  |_ m ih=>
   intro a w ⟨C,x,ρ,G,ov,hpc,hx,hm,hr⟩;have h1:=gF (GB:=GB) (C:=C) (Q0:=Q0) (hgo x) (hv x C hx) (round x C hpc hx);have h2:=h1.run ρ G ov a w hr;rw[hpc.rd] at h2;obtain⟨e,a₁,w₁,hq,harr⟩:=h2 b (.inLoop c::k) cs hro hb hrm
   cases e with
   |normal=>
    obtain⟨C',x',ρ',G',ov',hpc',⟨hx',hlt⟩,hr'⟩:=hq;obtain⟨e₂,a₂,w₂,hq₂,harr₂⟩:=ih (μ x') (hm▸hlt) a₁ w₁ ⟨C',x',ρ',G',ov',hpc',hx',rfl,hr'⟩;exact⟨e₂,a₂,w₂,hq₂, .of_steps (StepsIn.trans harr (.one (fenced_calm hb hrm J) stepR_inLoop)) harr₂⟩
   |exit id=>exact⟨_,a₁,w₁,hq, .pass (x:= .inLoop c) J (fun _ _=> .inl vb) harr⟩
   |goto l=>exact⟨_,a₁,w₁,hq, .pass (x:= .inLoop c) J (fun _ _=> .inl vb) harr⟩
   |ret=>exact⟨_,a₁,w₁,hq, .pass (x:= .inLoop c) J (fun _ _=> .inl vb) harr⟩
   |panic ch=>exact⟨_,a₁,w₁,hq, .pass (x:= .inLoop c) J (fun _ _=> .inl vb) harr⟩
   |outgrown=>exact⟨_,a₁,w₁,hq, .pass (x:= .inLoop c) J (fun _ _=> .inl vb) harr⟩
 obtain⟨e,a',w',q,rr⟩:=key (μ x0) a w ⟨C,x0,ρ,G,ov,hp,hI,rfl,r0⟩;exact⟨e,a',w',q, .of_steps (.one (fenced_calm hb hrm J) stepR_loop) rr⟩
def Zy{F:X->aD}{I:X->aG->Prop}(x:X)(hp:Pl C)(hI:I x C)(hF:vO (F x) fr:=by repeat (first|exact trivial|refine And.intro J ?_|refine And.intro (qf J omY) ?_|refine And.intro (qf J vb) ?_)):av P GB C n Q0 fr own (.ex .normal (.ag (LN GB n F I)::K)):=
 ⟨fun ρ G ov a w r=>⟨C,x,ρ,G,ov,hp,hI,r.mono (xo hF) (fun k x e=>by cases e)⟩⟩
end
section
variable {own:aI}
def aEV{x:Nat}{Φ:Act->World->Prop}{R:B6}(hfx:C.fx=fun _=>none)(h:y7 x y fr own=some R)(hk:SX GB C n (bi R.fr) (bA R.own) Φ):SX GB C n (bi fr) (bA own) Φ:=by
 unfold y7 at h;rw[cond_eq_ite] at h;split at h<;>try (cases h;done)
 rename_i hb;have hxy:x≠y:=fun e=>hb (by subst e;simp);rw[Il,JG] at h;cases h;refine⟨fun ρ G ov a w r=>hk.run (fun k=>if k=y then ρ x else ρ k) G ov a w ?_⟩;have inv: ∀m B,bA (own.map fun e=>(bif Nat.beq e.1 y then x else bif Nat.beq e.1 x then y else e.1,bif Nat.beq e.1 y then none else sv x y e.2)) m=some B-> ∃m0 B0,bA own m0=some B0/\sv x y (some B0)=some B/\(m=y/\m0=x\/m≠y/\m≠x/\m0=m):=fun m B e=>by
  rw[K8 hxy] at e;split at e
  .cases e
  .rename_i hm
   split at e
   .cases hl:bA own x with
    |none=>rw[hl] at e;cases e
    |some B0=>rw[hl] at e;exact⟨x,B0,hl,e, .inl ⟨v7,J⟩⟩
   .cases hl:bA own m with
    |none=>rw[hl] at e;cases e
    |some B0=>rw[hl] at e;exact⟨m,B0,hl,e, .inr ⟨v7,hm,J⟩⟩
 have rho: ∀m m0,(m=y/\m0=x\/m≠y/\m≠x/\m0=m)->(fun k=>if k=y then ρ x else ρ k) m=ρ m0:=fun m m0 h=>by
  rcases h with⟨h1,h2⟩|⟨h1,_,h2⟩
  .subst h1 h2;simp
  .subst h2;exact if_neg h1
 refine⟨r.gb,r.h,r.sz,r.df,fun k f e=>?_,fun m B e=>?_,fun m m' B B' e e' hne=>?_,fun m p _ _ e=>by rw[hfx] at e;cases e⟩
 .rw[E1] at e
  cases hf:bi fr k with
  |none=>rw[hf] at e;cases e
  |some g=>
   rw[hf] at e;cases e;obtain⟨v,h1,h2⟩:=r.fx k g hf;exact⟨v,h1,Iz hxy h2⟩
 .obtain⟨m0,B0,h1,h2,h3⟩:=inv m B e
  obtain⟨os,h4,h5⟩:=r.bx m0 B0 h1;refine⟨os,?_,h5⟩;have hr:=rho m m0 h3
  cases B0 with
  |b=>cases h2;obtain⟨vs,q1,q2,q3,q4⟩:=h4;exact⟨vs,by rw[hr];exact q1,q2,q3,q4⟩
  |c=>cases h2;obtain⟨vs,q1,q2,q3,q4,q5⟩:=h4;exact⟨vs,by rw[hr];exact q1,q2,q3,q4,by rw[hr];exact q5⟩
  |o ty cs lo=>cases h2;obtain⟨b,q,q1,q2,q3⟩:=h4;exact⟨b,q,by rw[hr];exact q1,q2,K9 hxy q3⟩
 .obtain⟨m0,B0,h1,_,h3⟩:=inv m B e
  obtain⟨m1,B1,h4,_,h6⟩:=inv m' B' e';have q1:=rho m m0 h3;have q2:=rho m' m1 h6;simp only at q1 q2;rw[q1,q2];refine r.dj m0 m1 B0 B1 h1 h4 fun e=>?_;rcases h3 with⟨h7,h8⟩|⟨h7,h8,h9⟩<;>rcases h6 with⟨g7,g8⟩|⟨g7,g8,g9⟩
  .exact hne (h7.trans g7.symm)
  .exact g8 (by rw[<-g9,<-e,h8])
  .exact h8 (by rw[<-h9,e,g8])
  .exact hne (by rw[<-h9,e,g9])
def yX(x y:Nat)(hfx:C.fx=fun _=>none)(h:y7 x y fr own=some ⟨fr1,own1⟩)(k:av P GB C n Q0 fr1 own1 (.code c K)):av P GB C n Q0 fr own (.code c K):=aEV hfx h k
def KR(P:Program)(fb:Func)(R:Ending->World->Prop):Exit->Act->World->Prop:=bodyPostM (FW none) 0 P fb R
structure NR (C:aG):Prop where
 mks:C.mks=[]
 rd:C.rd=none
 fx:C.fx=fun _=>none
def Ji[fu:Fu]{m:Nat}(hf:prog.funcs[f]? =some fb)(hb:fb.body=some c)(hn:(fb.name== "runtime.NumGoroutine")=false)(hm:fb.ntmps=m)(hlen:Nat.ble ds.length m=true)
  (hgo:go tt m fu.n [] (tn 0 ds) [] (.code c [])=⟨vc,fr,own,cf⟩)(k: ∀C:aG,NR C->av prog GB C m (KR prog fb (nf C (fun v G'=>Is G' rv v))) fr own cf)
  (hv:autoParam (ak vc) fn._auto_1):PF GB prog f ds rv:=by
 intro G vs hg hvs;refine⟨⟨fb,hf,hn,by simp[hb]⟩,fun w hw=>?_⟩;have hlen':vs.length<=m:=by rw[hvs.len];simpa using hlen
 have h:=gF (GB:=GB) (C:=oh w G) (Q0:=KR prog fb (nf (oh w G) (fun v G'=>Is G' rv v))) hgo hv (k (oh w G) ⟨J,J,J⟩);refine(callsIn_wide (n:=0)).1 (callsIn_of_wp_marks (F:=FW none) (n:=0) hf hb trivial ?_);refine h.run (fun _=>⟨none,0,0⟩) G [] _ w ⟨hg,HW hw,by simp;omega,J,fun k f e=>yY hvs (fun k v hk=>?_) k f e,(fun nm B e=>by cases e),(fun nm nm' B B' e=>by cases e),fun nm p _ _ e=>by cases e⟩;obtain⟨j,rfl,hj⟩:=xl vs 0 k v hk;have hj':=(aS.1 hj).1;rw[kN omE];simpa using hj
def aG.mk3(C:aG)(D:Nat):aG:={C with ex:=(D, .deferred (some []))::C.ex,mks:=[{target:= .collected D,args:= #[]}]}
def Fm(hD:C.w0.heap.size<=D)(hx: ∀p∈C.ex,p.1≠D)(hr:sk tt fr own fb.results.toList=some ds)(hd:gg ds=rv)(he:EL e=true:=by rfl):av prog GB (C.mk3 D) n (KR prog fb (nf C (fun v G'=>Is G' rv v))) fr own (.ex e []):=by
 refine⟨fun ρ G ov a w r=>?_⟩;obtain⟨vs,h1,h2⟩:=DH r hr;have hk:Is G rv (p9 vs):=hd▸D8 h2;have hex:((D,Obj.deferred (some [])):Nat×Obj)∈(C.mk3 D).ex:=aQ;have h3:bP C ov G (w.putObj D (.deferred none)):=r.h.putx hex hD (fun _ _ _ h=>by cases h) J J J fun p hp=> .inr ⟨aJ _ hp,hx p hp⟩;have hres:=vi (C:=C) (G:=G) (own:=ov) (w:=w.putObj D (.deferred none)) h1 (dh a) h3;have key:LeavesInM (FW none) 0 prog fb a.tmps (nf C (fun v G'=>Is G' rv v)) a.defers .returning w:=by
  rw[r.df];exact⟨vb, .inl ⟨D,_,J,run_takeDeferred (r.h.ext _ hex).2,_,hres,_,G,J,h3.drop (kX _),hk⟩⟩
 cases e with
 |ret=>exact key
 |normal=>exact key
 |_=>cases he
end
section
variable {own:aI}
def ce.later{ρ:NE}(r:ce GB C n lk bk ρ G ov a w)(h:bP (oh w G) [] G1 w1):ce GB C n lk bk ρ G1 ov a w1:=
 ⟨r.gb.trans h.gle,r.h.called h,r.sz,r.df,fun k f e=>by obtain⟨y,h1,h2⟩:=r.fx k f e;exact⟨y,h1,h2.up h.gle⟩,fun nm B e=>by obtain⟨os,h1,h2⟩:=r.bx nm B e;exact⟨os,h1.up h.gle,h2⟩,r.dj,r.fxd⟩
def A5:List Nat->List DV->aD->aD
 |p::ps,d::ds,fr=>A5 ps ds ((p, .d d)::fr)
 |_,_,fr=>fr
def NN{ρ:NE}{G:Gh}: ∀{ps:List Nat} {ds:List DV} {ys tm:List Value} {fr:aD},IsLs G ds ys->(∀p∈ps,p<tm.length)->(∀k f,bi fr k=some f-> ∃y,tm[k]? =some y/\cp ρ G f y)->
  ((ps.zip ys).foldl (fun t e=>t.set e.1 e.2) tm).length=tm.length/\ ∀k f,bi (A5 ps ds fr) k=some f-> ∃y,((ps.zip ys).foldl (fun t e=>t.set e.1 e.2) tm)[k]? =some y/\cp ρ G f y
 |[],ds,ys,tm,fr,_,_,h=>⟨J,fun k f e=>h k f (by cases ds<;>exact e)⟩
 |p::ps,[],ys,tm,fr,hd,_,h=>by rw[fj.1 hd];exact⟨J,fun k f e=>h k f e⟩
 |p::ps,d::ds,ys,tm,fr,hd,hp,h=>by
  obtain⟨y,m,rfl,h1,h2⟩:=bj.1 hd;simp only[List.zip_cons_cons,jN,A5];have:=NN (ps:=ps) (ds:=ds) (ys:=m) (tm:=tm.set p y) (fr:=(p, .d d)::fr) h2 (fun q hq=>by rw[bZ];exact hp q (aJ _ hq)) fun k f e=>by
   rw[li] at e;split at e
   .rename_i hk;subst hk;cases e
    exact⟨y,by rw[qW];rw[if_pos J,if_pos (hp k aQ)],h1⟩
   .rename_i hk
    obtain⟨u,h3,h4⟩:=h k f e;exact⟨u,by rw[qW];rw[if_neg (fun e=>hk e.symm)];exact h3,h4⟩
  rw[bZ] at this;exact this
def Sl: ∀(l:List (Nat×Value)) (t:Array Value),(l.foldl (fun t e=>t.setIfInBounds e.1 e.2) t).toList=l.foldl (fun t e=>t.set e.1 e.2) t.toList
 |[],t=>rfl
 |e::l,t=>by simp only[jN];rw[Sl l];simp
def Lo:FX->Bool
 | .ov nm _=>Nat.ble 2000000 nm
 | .rw _=>false
 | .be .. =>false
 | .rs .. =>false
 | .bx .. =>false
 |_=>true
def Da:aD->Bool
 |[]=>true
 |(_,f)::t=>Lo f&&Da t
def Vo: ∀{fr:aD},Da fr=true-> ∀k f,bi fr k=some f->Lo f=true
 |[],_,k,f,e=>by cases e
 |(j,g)::t,h,k,f,e=>by
  simp only[Da,bR] at h;rw[li] at e;split at e
  .cases e;exact h.1
  .exact Vo h.2 k f e
def T2(GB:Gh)(C:aG)(n:Nat)(fr:aD)(own:aI)(a:Act)(w:World):Prop:= ∃ρ G ov,ce GB C n (bi fr) (bA own) ρ G ov a w
def atR:av P GB C n Q0 fr own (.ex .normal (.ag (T2 GB C n fr own)::K)):=⟨fun ρ G ov a w r=>⟨ρ,G,ov,r⟩⟩
def RQ(GB:Gh)(C:aG)(n:Nat)(p:Prop)(O:aI)(S:σ->aI)(q:σ->Prop):Exit->Act->World->Prop
 | .normal,a,w=>p/\ ∃ρ G ov,ce GB C n (fun _=>none) (bA O) ρ G ov a w
 | .ret,a,w=> ∃s,q s/\ ∃ρ G ov,ce GB C n (fun _=>none) (bA (S s)) ρ G ov a w
 |_,_,_=>False
def rq{S:σ->aI}{q:σ->Prop}(hp:p)(hO:xk O own:=by repeat (first|exact trivial|refine And.intro J ?_)):av P GB C n (RQ GB C n p O S q) fr own (.ex .normal []):=
 ⟨fun ρ G ov a w r=>⟨hp,ρ,G,ov,r.mono (fun k x e=>by cases e) (wU hO)⟩⟩
def rqX{S:σ->aI}{q:σ->Prop}(s:σ)(hq:q s)(hO:xk (S s) own:=by repeat (first|exact trivial|refine And.intro J ?_)):av P GB C n (RQ GB C n p O S q) fr own (.ex .ret []):=
 ⟨fun ρ G ov a w r=>⟨s,hq,ρ,G,ov,r.mono (fun k x e=>by cases e) (wU hO)⟩⟩
def GJ{ps:Array Nat}(I:Nat->aI)(p:Nat->Prop)(S:σ->aI)(q:σ->Prop)(fr1:aD)
  (h0:NR C)(hg:aP (bi fr) g=some (.d (.v (.func (.func gf) ⟨[]⟩ ⟨caps⟩))))(hIt:It GB P gf ds E)(hc:IsLs GB ds caps)
  (hfr:vO fr1 fr)(hfix:Da fr1=true)(hO:xk (I 0) own)(hp:p 0)(hps: ∀e∈E,e.length=ps.size)(hpn:ps.toList.all (fun k=>Nat.blt k n)=true)(hn2:Nat.ble n 2000000=true)
  (round: ∀k e GB',E[k]? =some e->b9 GB GB'->p k-> ∃fr2 own2,(∀C2,av P GB' C2 n (fun _ _ _=>False) (A5 ps.toList e fr1) (I k) (.code assign [.ag (T2 GB' C2 n fr2 own2)]))/\ ∀C2,av P GB' C2 n (RQ GB' C2 n (p (k+1)) (I (k+1)) S q) fr2 own2 (.code body []))
  (after: ∀D,C.w0.heap.size<=D->(∀x∈C.ex,x.1≠D)->p E.length->av P GB (C.mk3 D) n Q0 fr1 (I E.length) (.ex .normal K))
  (early: ∀D s,C.w0.heap.size<=D->(∀x∈C.ex,x.1≠D)->q s->av P GB (C.mk3 D) n Q0 fr1 (S s) (.ex .ret K)):
  av P GB C n Q0 fr own (.code (.rangeFunc g ps assign body) K):=by
 refine⟨fun ρ0 G0 ov0 a w r=>?_⟩;rw[h0.rd];refine wpIn_rangeFunc fun fn _=>?_;obtain⟨y,hy,hy'⟩:=r.ev hg;rw[(aO (G:=G0)).1 hy'] at hy;have hev:=bC (dh a) hy
 let D:=w.heap.size
 let l:=w.heap.size+1
 let rec_:Loop:={state:= .ready,pending:=none,fn,tmps:=a.tmps,params:=ps,assign,body,defers:=D}
 let w2:=(w.alloc (.deferred (some []))).alloc (.loop rec_)
 let mk:Deferred:={target:= .collected D,args:= #[]}
 let fx1:Nat->Option Addr:=fun nm=>(ρ0 nm).a
 let C1:Loop->aG:=fun rc=>{C with ex:=(l, .loop rc)::(D, .deferred (some []))::C.ex,mks:=[mk],fx:=fx1}
 let a0:Act:={a with defers:=[mk]++a.defers}
 have hszD:C.w0.heap.size<=D:=r.h.size;have hlt: ∀x∈C.ex,x.1<D:=fun x hx=>i6 (r.h.ext x hx).2;have hszl:C.w0.heap.size<=l:=Nat.le_succ_of_le hszD;have hnl: ∀x∈((D,Obj.deferred (some []))::C.ex:List (Nat×Obj)),x.1≠l:=fun x hx=>by
  rcases aV.1 hx with rfl|hx
  .show D≠D+1;omega
  .have:=hlt x hx;show x.1≠D+1;omega
 have ncl: ∀rc:Loop,Ic (.loop rc):=fun rc _ _ _ h=>by cases h
 -- the slots of the loop, at any time
 have stat: ∀(ρ':NE) (G':Gh),b9 G0 G'->(∀nm p,n<=nm->2000000<=nm->fx1 nm=some p->(ρ' nm).a=some p)-> ∀k f,bi fr1 k=some f-> ∃y,a.tmps[k]? =some y/\cp ρ' G' f y:=by
  intro ρ' G' hg' hf k f e;obtain⟨y,h1,h2⟩:=r.fx k f (xo hfr k f e);refine⟨y,h1,?_⟩;have hx:=Vo hfix k f e
  cases f with
  |ov nm off=>
   obtain⟨b,h3,h4⟩:=h2;have h5:2000000<=nm:=by simpa[Lo] using hx
   have h6:n<=2000000:=by simpa using hn2
   exact⟨b,hf nm _ m5 h5 h3,h4⟩
  |rw _=>cases hx
  |be _ _ _ _=>cases hx
  |rs _ _ _ _=>cases hx
  |bx _ _ _ _=>cases hx
  |_=>exact(h2.up hg').ren fun _ h=>by cases h
 let Jv:Nat->Gh->World->Prop:=fun k G' w'=>p k/\ ∃ρ ov,ce G0 (C1 rec_) n (bi fr1) (bA (I k)) ρ G' ov a0 w'
 let rcx:Loop:={rec_ with state:= .done,pending:=some .ret}
 let Jx:Gh->World->Prop:=fun G' w'=> ∃s,q s/\ ∃ρ ov,ce G0 (C1 rcx) n (bi fr1) (bA (S s)) ρ G' ov a0 w'
 have hsz0:a0.tmps.size=n:=r.sz;have hdf0:a0.defers=[mk]:=by show [mk]++a.defers=_;rw[r.df,h0.mks];rfl
 have H:AM G0 P l Jv Jx E:=by
  refine⟨fun k=>⟨fun G' w' ⟨_,ρ,ov,h⟩=>h.h.sub,fun G' w' G1 w1 ⟨h1,ρ,ov,h⟩ k=>⟨h1,ρ,ov,h.later k⟩⟩,⟨fun G' w' ⟨_,_,ρ,ov,h⟩=>h.h.sub,fun G' w' G1 w1 ⟨s,h1,ρ,ov,h⟩ k=>⟨s,h1,ρ,ov,h.later k⟩⟩,?_⟩;intro k e G' w' ys hE hgg ⟨hpk,ρ,ov,r1⟩ hys;have hrec:w'.heap[l]? =some (.loop rec_):=(r1.h.ext _ aQ).2;have hel:=hps e (aW hE);obtain⟨fr2,own2,hA,hB⟩:=round k e G' hE (r.gb.trans hgg) hpk;refine⟨_,_,_,_,run_yield hrec (by show ys.length=ps.size;rw[hys.len,hel]),roundIn_of_wpIn trivial ?_⟩
  let C2:aG:={C1 rec_ with mks:=[],rd:=some l}
  let tm:Array Value:=(ps.zip (⟨ys⟩:Array Value)).foldl (fun tmps (t,a)=>tmps.setIfInBounds t a) a.tmps
  have htm:tm.toList=(ps.toList.zip ys).foldl (fun t e=>t.set e.1 e.2) a.tmps.toList:=by
   simp only[tm];rw[<-rM,Array.toList_zip];exact Sl _ _
  have hfx0:=r1.fx;obtain⟨q1,q2⟩:=NN (ρ:=ρ) (ps:=ps.toList) (tm:=a.tmps.toList) (fr:=fr1) hys (fun k hk=>by have:=dW.1 hpn k hk;rw[jK,r.sz];simpa[lY] using this) fun k f e=>by
   obtain⟨y,h1,h2⟩:=hfx0 k f e;exact⟨y,by simpa using h1,h2⟩
  have hR0:ce G' C2 n (bi (A5 ps.toList e fr1)) (bA (I k)) ρ G' ov {tmps:=tm,defers:=[]} w':=by
   refine⟨b9.refl _,r1.h.ctx J J J (fun _ h=>h),?_,J,fun k f e=>?_,r1.bx,r1.dj,r1.fxd⟩
   .show tm.size=n
    rw[<-jK,htm,q1,jK,r.sz]
   .obtain⟨y,h1,h2⟩:=q2 k f e
    exact⟨y,by rw[<-htm] at h1;simpa using h1,h2⟩
  refine wpIn_mono ((hA C2).run ρ G' ov _ w' hR0) fun ex a1 w1 hex=>?_
  cases ex with
  |normal=>
   obtain⟨ρ2,G2,ov2,r2⟩:=hex;have hrec1:w1.heap[l]? =some (.loop rec_):=(r2.h.ext _ aQ).2;refine⟨_,run_beginRound hrec1 J,?_⟩
   let busy:Loop:={rec_ with state:= .busy}
   let C3:aG:={C1 busy with mks:=[],rd:=some l}
   have h3:bP C3 ov2 G2 (w1.putObj l (.loop busy)):=r2.h.putx aQ hszl (ncl _) J J J fun x hx=>by
    rcases aV.1 hx with rfl|hx
    .exact .inl J
    .exact .inr ⟨aJ _ hx,hnl x hx⟩
   refine wpIn_mono ((hB C3).run ρ2 G2 ov2 a1 (w1.putObj l (.loop busy)) ⟨r2.gb,h3,r2.sz,r2.df,r2.fx,r2.bx,r2.dj,r2.fxd⟩) fun ex a2 w3 hex=>?_
   cases ex with
   |normal=>
    obtain⟨hp1,ρ3,G3,ov3,r3⟩:=hex;have hrec3:w3.heap[l]? =some (.loop busy):=(r3.h.ext _ aQ).2;refine⟨_,_,run_endRound none hrec3,G3,r3.gb, .inl ⟨J,hp1,ρ3,ov3,hgg.trans r3.gb,?_,hsz0,hdf0,stat ρ3 G3 (hgg.trans r3.gb) r3.fxd,r3.bx,r3.dj,r3.fxd⟩⟩;exact r3.h.putx aQ hszl (ncl _) J J J fun x hx=>by
     rcases aV.1 hx with rfl|hx
     .exact .inl J
     .exact .inr ⟨aJ _ hx,hnl x hx⟩
   |ret=>
    obtain⟨s,hq,ρ3,G3,ov3,r3⟩:=hex;have hrec3:w3.heap[l]? =some (.loop busy):=(r3.h.ext _ aQ).2;refine⟨_,_,run_endRound (some .ret) hrec3,G3,r3.gb, .inr ⟨J,s,hq,ρ3,ov3,hgg.trans r3.gb,?_,hsz0,hdf0,stat ρ3 G3 (hgg.trans r3.gb) r3.fxd,r3.bx,r3.dj,r3.fxd⟩⟩;exact r3.h.putx aQ hszl (ncl _) J J J fun x hx=>by
     rcases aV.1 hx with rfl|hx
     .exact .inl J
     .exact .inr ⟨aJ _ hx,hnl x hx⟩
   |exit id=>exact hex.elim
   |goto t=>exact hex.elim
   |panic ch=>exact hex.elim
   |outgrown=>exact hex.elim
  |exit id=>exact hex.elim
  |goto t=>exact hex.elim
  |ret=>exact hex.elim
  |panic ch=>exact hex.elim
  |outgrown=>exact hex.elim
 have hC1:bP (C1 rec_) ov0 G0 w2:=by
  have h1:bP {C with ex:=(D, .deferred (some []))::C.ex} ov0 G0 (w.alloc (.deferred (some []))):=r.h.addx (fun _ _ _ h=>by cases h) J J J fun x hx=>aV.1 hx;refine h1.addx (ncl rec_) J J J fun x hx=>?_;rcases aV.1 hx with rfl|hx
  .exact .inl (by show((l,Obj.loop rec_):Nat×Obj)=_;rw[show(w.alloc (.deferred (some []))).heap.size=w.heap.size+1 by simp])
  .exact .inr hx
 have hJ0:Jv 0 G0 w2:=⟨hp,ρ0,ov0,b9.refl _,hC1,hsz0,hdf0,stat ρ0 G0 (b9.refl _) (fun _ _ _ _ h=>h),fun nm B e=>r.bx nm B (wU hO nm B e),fun nm nm' B B' e e'=>r.dj nm nm' B B' (wU hO nm B e) (wU hO nm' B' e'),fun _ _ _ _ h=>h⟩;refine⟨l,[mk],w2,{target:= .fn (.func gf) ⟨caps⟩,args:= #[.func (.yield l) #[] #[]]},w2,gf, #[.func (.yield l) #[] #[]]++⟨caps⟩,w2,run_enterLoop_outer fn a.tmps ps assign body,?_,fun _ _=>trivial,?_,fun h=>okH,?_⟩
 .have he:(⟨[]⟩:Array Value)++Array.map a.eval #[.const (.func (.yield l) #[] #[])]= #[.func (.yield l) #[] #[]]:=by
   apply Array.ext';rw[Array.toList_append,pW];rfl
  simp only[resolve,hev,Deferred.ofValue];rw[he];rfl
 .simp only[invoke]
  exact Dp hIt.able _ _
 refine CallsIn.mono (show CallsIn (FW none) 0 P gf _ w2 _ from by
  have:=hIt.run l Jv Jx G0 r.gb H w2 caps hJ0 (hc.up r.gb);rw[show(#[Value.func (.yield l) #[] #[]]++(⟨caps⟩:Array Value))=⟨.func (.yield l) #[] #[]::caps⟩ by simp];exact this) fun e w3 he=>?_
 obtain⟨G',hgg,⟨v,rfl⟩,hj⟩:=he;have fin: ∀(rc:Loop) (O:aI) (ρ:NE) (ov:List aA),ce G0 (C1 rc) n (bi fr1) (bA O) ρ G' ov a0 w3->ce GB (C.mk3 D) n (bi fr1) (bA O) ρ G' ov a0 (w3.putObj l (.loop {rc with state:= .exhausted})):=fun rc O ρ ov r3=>
  ⟨r.gb.trans r3.gb,r3.h.putx aQ hszl (ncl _) J J J fun x hx=> .inr ⟨aJ _ hx,hnl x hx⟩,r3.sz,r3.df,r3.fx,r3.bx,r3.dj,fun nm p _ _ e=>by rw[show(C.mk3 D).fx=fun _=>none from h0.fx] at e;cases e⟩
 have hxD: ∀x∈C.ex,x.1≠D:=fun x hx e=>by have:=hlt x hx;omega
 rcases hj with⟨hpn,ρ,ov,r3⟩|⟨s,hq,ρ,ov,r3⟩
 .have hrec3:w3.heap[l]? =some (.loop rec_):=(r3.h.ext _ aQ).2
  have:=(after D hszD hxD hpn).run ρ G' ov a0 _ (fin rec_ _ ρ ov r3);rw[show(C.mk3 D).rd=none from h0.rd] at this;exact⟨_,_,run_endLoop hrec3 (by simp[rec_]),this⟩
 .have hrec3:w3.heap[l]? =some (.loop rcx):=(r3.h.ext _ aQ).2
  have:=(early D s hszD hxD hq).run ρ G' ov a0 _ (fin rcx _ ρ ov r3);rw[show(C.mk3 D).rd=none from h0.rd] at this;exact⟨_,_,run_endLoop hrec3 (by simp[rcx]),wpIn_ret this⟩
end
section
variable {own:aI}
def Kj(GB:Gh)(P:Program)(f:FuncId)(ds:List DV)(gf:FuncId)(dp:DV):Prop:=
 ∀G vs,b9 GB G->IsLs G ds vs->Fn P f vs G fun v G'=> ∃pv,v= .func (.func gf) ⟨[]⟩ ⟨[pv]⟩/\Is G' dp pv
def FN(gf:FuncId)(dp:DV)(v:Value)(G':Gh):Prop:= ∃pv,v= .func (.func gf) ⟨[]⟩ ⟨[pv]⟩/\Is G' dp pv
def ZV[fu:Fu]{m:Nat}(hf:prog.funcs[f]? =some fb)(hb:fb.body=some c)(hn:(fb.name== "runtime.NumGoroutine")=false)(hm:fb.ntmps=m)(hlen:Nat.ble ds.length m=true)
  (hgo:go tt m fu.n [] (tn 0 ds) [] (.code c [])=⟨vc,fr,own,cf⟩)(k: ∀C:aG,av prog GB C m (ge C prog fb (nf C (FN gf dp))) fr own cf)
  (hv:autoParam (ak vc) cL._auto_1):Kj GB prog f ds gf dp:=by
 intro G vs hg hvs;refine Fn.introR hf hb hn hm okt fun C _ _ hrd hfx=>?_;intro a w rl;refine xb hrd ?_;have h:=gF (GB:=GB) (C:=C) (Q0:=ge C prog fb (nf C (FN gf dp))) hgo hv (k C);exact h.run (fun _=>⟨none,0,0⟩) G [] a w ⟨hg,rl.h,rl.sz,rl.df,(fun k f e=>yY hvs rl.fr k f e),(fun nm B e=>by cases e),(fun nm nm' B B' e=>by cases e),fun nm p _ _ e=>by rw[hfx] at e;cases e⟩
def Ze{t:Nat}(hr:fb.results.toList=[.tmp t])(hl:bi fr t=some (.d (.v (.func (.func gf) ⟨[]⟩ ⟨[pv]⟩))))(hp:Is GB dp pv):av P GB C n (ge C P fb (nf C (FN gf dp))) fr own (.ex .ret []):=by
 refine⟨fun ρ G ov a w r=>?_⟩;obtain⟨y,hy,hy'⟩:=r.ev (x:= .tmp t) hl;rw[(aO (G:=G)).1 hy'] at hy;exact zD (C:=C) (n:=n) (fr:=cI a) (own:=ov) (G:=G) (K:=FN gf dp) omS ⟨pv,J,hp.up r.gb⟩ a w ⟨r.h,r.sz,dh a,r.df⟩
def UQ(fr:aD)(cf:Cf):Option (FuncId×Value):=match de fr cf with
 |some ⟨_, .makeFunc (.func f) ⟨[]⟩ ⟨[x]⟩,_,_,_,_⟩=>match aP (cj fr cf) x with
  |some (.d (.v pv))=>some (f,pv)
  |_=>none
 |_=>none
def mkG[fu:Fu](h:UQ fr cf=some (f,pv))(hgo:cF tt n fu.n fr own cf (.d (.v (.func (.func f) ⟨[]⟩ ⟨[pv]⟩))) [] []=⟨vc,fr',own',cf'⟩)(k:av prog GB C n Q0 fr' own' cf')
  (hv:autoParam (ak vc) cL._auto_1):av prog GB C n Q0 fr own cf:=by
 unfold UQ at h;split at h<;>try (cases h;done)
 rename_i hh;split at h<;>cases h;rename_i hx;exact us hh (.x1 hx fun ρ G ov a w y _ r h1 h2=>by
  rw[(aO (G:=G)).1 h2] at h1;exact⟨_,(aO (G:=G)).2 J,K4 (l1:=[]) (l2:=[pv]) J (by simp[h1])⟩) hgo hv k
def HO[fu:Fu]{d:Nat}{fr':Value->aD}{own':Value->aI}{cf':Value->Cf}{vc:Value->List Prop}(ha:zh fr (.ops ops (o::r) K)=some (f,ds))(hdst:o.dst=some d)(hd:cv n (some d)=true)(hF:Kj GB prog f ds gf dp)
  (hgo: ∀pv,go tt n fu.n [] ((d, .d (.v (.func (.func gf) ⟨[]⟩ ⟨[pv]⟩)))::fr) own (.ops ops r K)=⟨vc pv,fr' pv,own' pv,cf' pv⟩)
  (k: ∀GB' pv,b9 GB GB'->Is GB' dp pv->av prog GB' C n Q0 (fr' pv) (own' pv) (cf' pv))
  (hv: ∀pv,ak (vc pv):=by intros;first|exact trivial|(simp only[ak];kernel_rfl)|(simp only[ak];omega)):av prog GB C n Q0 fr own (.ops ops (o::r) K):=by
 unfold zh at ha;split at ha<;>try (cases ha;done)
 rename_i fo args tys ty pos af gd hh;obtain⟨ops0,h1,h2⟩:=K5 hh
 cases h1
 cases hdst
 obtain⟨c1,c2⟩:=DE ha;refine⟨fun ρ G ov a w rl=>?_⟩;obtain⟨y,hy,hy'⟩:=rl.ev c1;rw[(aO (G:=G)).1 hy'] at hy;obtain⟨vs,h3,h4⟩:=rl.evDs c2;simp only[wpListIn];rw[if_pos (Fx h2 ρ G ov a w rl)];refine F8 (K':=fun a' w'=>a'.defers=C.mks/\wpListIn (FW C.rd) 0 prog ops (cQ C.rd prog Q0 K) r a' w') (fun Q=>?_) (fun a' w' q=>⟨q.1.trans rl.df.symm,q.2⟩);refine zC hy h3 (hF G vs rl.gb h4) hd (fun v G' hG hK a' w' rel=>?_) a w Q ⟨rl.h,rl.sz,dh a,rl.df⟩;obtain⟨pv,rfl,hpv⟩:=hK;refine⟨rel.df,?_⟩;have:=gF (GB:=G') (C:=C) (Q0:=Q0) (hgo pv) (hv pv) (k G' pv (rl.gb.trans hG.le) hpv);refine this.run ρ G' ov a' w' ⟨b9.refl _,rel.h,rel.sz,rel.df,fun j g e=>?_,fun nm B e=>by obtain⟨os,h5,h6⟩:=rl.bx nm B e;exact⟨os,h5.up hG.le,h6⟩,rl.dj,rl.fxd⟩;have e':fq (bi fr) (some d) (.d (.v (.func (.func gf) ⟨[]⟩ ⟨[pv]⟩))) j=some g:=by
  rw[li] at e;simp only[fq];split at e
  .rename_i hk;rw[if_pos hk];exact e
  .rename_i hk;rw[if_neg hk];exact e
 exact(kd rel).fx (fun k g _ e=>by obtain⟨u,h5,h6⟩:=rl.fx k g e;exact⟨u,h5,h6.up hG.le⟩) (show cp ρ G' (.d (.v (.func (.func gf) ⟨[]⟩ ⟨[pv]⟩))) _ from(aO (G:=G')).2 rfl) j g e'
end
section
variable {own:aI}
def RD{p q:Nat->Option (Nat×Nat)}(h: ∀i x,p i=some x->q i=some x): ∀(ps:List (Nat×Value)) (cs out:Array Value),Instr.fill p cs ps=some out->Instr.fill q cs ps=some out
 |[],cs,out,e=>e
 |(i,v)::ps,cs,out,e=>by
  simp only[Instr.fill] at e⊢;split at e
  .cases e
  .rename_i off size hp
   rw[h i _ hp];dsimp only;split at e
   .cases e
   .rename_i hc
    rw[if_neg hc];exact RD h ps _ _ e
def Xa{fr:Fr}{own:List aA}{t e s:Nat}{j:TypeInfo}{parts:Array (Nat×Operand)}{gd:Option (Nat×Bool)}[hz:ie P t z](hu:P.underlying t=some (.array len e))(hj:P.info? e=some j)(hs:j.size=s)
  (hb:wj fr ((List.range len).map fun i=>(i*s,s)) (aH z) parts.toList=some out):Yd P C fr own G ⟨dst, .build t parts,ty',pos,af,gd⟩ (.agg ⟨out⟩):=by
 intro a w hf hh;simp only[execOp];have:(Instr.build t (parts.map fun(i,x)=>(i,a.eval x))).run P w= .ok (.agg ⟨out⟩) w:=by
  unfold Instr.build;rw[bh (hz.zero w),po];rw[bh (ry hu w)];simp only[];rw[bh (wR hj w),hs];have:=RD (q:=fun i=>some (i*s,s)) (fun i x hx=>by
   have hx':((List.range len).map fun i=>(i*s,s))[i]? =some x:=by simpa using hx
   rw[cZ] at hx'
   cases hr:(List.range len)[i]? with
   |none=>rw[hr] at hx';cases hx'
   |some y=>
    rw[hr] at hx';cases hx';obtain⟨h1,h2⟩:=aS.1 hr;rw[List.getElem_range] at h2;rw[h2]) _ _ _ (I5 hf ((List.range len).map fun i=>(i*s,s)) parts.toList _ _ hb)
  simp only[pW,this];rfl
 exact dq this
def C9:Nat->Nat->Nat->List (Nat×Nat×Nat)
 |_,0,_=>[]
 |i,k+1,s=>(i*s,0,s)::C9 (i+1) k s
def TH: ∀(i k s:Nat),(C9 i k s).map (fun x=>(x.1,x.2.2))=(List.range' i k).map fun j=>(j*s,s)
 |_,0,_=>rfl
 |i,k+1,s=>by simp only[C9,bY,List.range',TH (i+1) k s]
def RC(fr:aD)(cf:Cf)(len s:Nat):Option (TypeId×FX):=match de fr cf with
 |some ⟨_, .build t parts,_,_,_,_⟩=>match d9 tt t with
  |some ⟨.o,_,some zx,_⟩=>match uV (cj fr cf) (C9 0 len s) zx parts.toList with
   |some cs=>match zX cs with
    |some f=>some (t,f)
    |none=>none
   |none=>none
  |_=>none
 |_=>none
def bar[fu:Fu]{t e s:Nat}{f:FX}(h:RC fr cf len s=some (t,f))(hu:prog.underlying t=some (.array len e))(hs:(prog.info? e).map (·.size)=some s)
  (hgo:cF tt n fu.n fr own cf f [] []=⟨vc,fr',own',cf'⟩)(k:av prog GB C n Q0 fr' own' cf')
  (hv:autoParam (ak vc) cL._auto_1):av prog GB C n Q0 fr own cf:=by
 unfold RC at h;split at h<;>try (cases h;done)
 rename_i hh;split at h<;>try (cases h;done)
 rename_i hT;split at h<;>try (cases h;done)
 rename_i hb;split at h<;>cases h;rename_i hf;refine us hh (.yd fun ρ G ov a w r=>?_) hgo hv k
 cases hj:prog.info? e with
 |none=>rw[hj] at hs;cases hs
 |some j=>
 rw[hj] at hs;obtain⟨v,hv,hv'⟩:=Br (fe _ _ hT) rfl;obtain⟨l,h1,h2⟩:=EQ r _ _ _ _ hb (hv' ρ G);rw[TH,<-List.range_eq_range'] at h1;exact⟨.agg ⟨l⟩,H4 h2 hf,Xa hu hj (Option.some.inj hs) h1⟩
end
section
variable {own:aI}{gd:Option (Nat×Bool)}
def KK(t:TypeId):Prop:= ∀(x:Value) w,(Instr.makeInterface t x).run prog w= .ok (.iface t x) w
def FG(t:TypeId)(u:Value)(m:String)(f:FuncId):Prop:= ∀w,(method (prog.types.size+Made.depth) t u m).run prog w= .ok (f,u) w
def aJb(ht:KK t)(hx:evD lk x=some d)(hd: ∀G y,Is G d y->y=u):cg prog GB C n lk bk ⟨dst, .makeInterface t x,ty,pos,af,gd⟩ (.d (.v (.iface t u))) [] []:=
 cg.yd fun ρ G ov a w r=>by
  obtain⟨y,hy,hy'⟩:=r.evD hx;obtain rfl:=hd G y hy';refine⟨_,(aO (G:=G)).2 J,fun a' w' hf _=>?_⟩;refine dq (f:=Next.value) ?_;rw[bC hf hy];exact ht _ _
def auk{fr:Fr}(hf:mh fr a)(hx:aE fr x=some (.iface t u))(hv:gk fr args.toList=some vs)(hm:FG t u m f)(hc:rC prog f):
  (execOp a.eval ⟨dst, .call ⟨.invoke x m,args,tys⟩,ty,pos,af,gd⟩).run prog w= .ok (.enter f ⟨u::vs⟩) w:=by
 have e:args.map a.eval=⟨vs⟩:=by apply Array.ext';simpa using AG hf hv
 simp only[execOp,resolve,bC hf hx,e];show(invoke (.fn (.method m) #[]) (#[.iface t u]++⟨vs⟩)).run prog w=_;simp only[invoke];have h0:(#[Value.iface t u]++(⟨vs⟩:Array Value))[0]? =some (.iface t u):=by simp
 have h1:(#[Value.iface t u]++(⟨vs⟩:Array Value)).extract 1 (#[Value.iface t u]++(⟨vs⟩:Array Value)).size=⟨vs⟩:=by
  apply Array.ext';simp
 rw[h0,h1];show(callMethod (.iface t u) m ⟨vs⟩).run prog w=_;unfold callMethod;show((do
  let p<-program
  let(g,receiver)<-method (p.types.size+Made.depth) t u m
  callFunc g (#[receiver]++⟨vs⟩)):Sem Next).run prog w=_
 rw[bh (a:=prog) (w':=w) J,bh (hm w)];show(callFunc f (#[u]++⟨vs⟩)).run prog w=_;rw[Dp hc];simp
def aKB(hx:aP lk x=some (.d (.v (.iface t u))))(ha:evDs lk args.toList=some ds)(hm:FG t u m f)(hF:PF GB prog f (.v u::ds) rv):
  cg prog GB C n lk bk ⟨dst, .call ⟨.invoke x m,args,tys⟩,ty,pos,af,gd⟩ (.d rv) [] []:=by
 intro hd tl tb K' s1 s2 hf hk;refine⟨fun ρ G ov a w r Q=>?_⟩;obtain⟨y,hy,hy'⟩:=(r.mono s1 s2).ev hx;rw[(aO (G:=G)).1 hy'] at hy;obtain⟨vs,h3,h4⟩:=(r.mono s1 s2).evDs ha;have hFn:=hF G (u::vs) r.gb (.cons (aO.2 J) h4);have h2:=auk (dst:=dst) (ty:=ty) (pos:=pos) (af:=af) (gd:=gd) (tys:=tys) (w:=w) (dh a) hy h3 hm hFn.able;simp only[Oper.wp,h2,Oper.upon];refine(hFn.run w r.h.sub).mono ?_;rintro e w' ⟨v,G',rfl,hh,hK⟩;have rl:iw C n (cI a) ov G a w:=⟨r.h,r.sz,dh a,r.df⟩;have rl2:=(rl.heap (rl.h.called hh)).put v hd;exact hk.run ρ G' ov _ w' ⟨r.gb.trans hh.gle,rl2.h,rl2.sz,rl2.df,(kd rl2).fx (fun k g _ e=>by obtain⟨z,h5,h6⟩:=r.fx k g e;exact⟨z,h5,h6.up hh.gle⟩) hK,
  fun nm B e=>by obtain⟨os,h5,h6⟩:=r.bx nm B e;exact⟨os,h5.up hh.gle,h6⟩,r.dj,r.fxd⟩
def Vj(fr:aD)(cf:Cf):Option (TypeId×DV):=match de fr cf with
 |some ⟨_, .makeInterface t x,_,_,_,_⟩=>match evD (cj fr cf) x with
  |some d=>some (t,d)
  |none=>none
 |_=>none
def Zg[fu:Fu](u:Value)(ha:Vj fr cf=some (t,d))(ht:KK t)(hd: ∀G y,Is G d y->y=u)(hgo:cF tt n fu.n fr own cf (.d (.v (.iface t u))) [] []=⟨vc,fr',own',cf'⟩)(k:av prog GB C n Q0 fr' own' cf')
  (hv:autoParam (ak vc) cL._auto_1):av prog GB C n Q0 fr own cf:=by
 unfold Vj at ha;split at ha<;>try (cases ha;done)
 rename_i hh;split at ha<;>cases ha;rename_i hx;exact us hh (aJb ht hx hd) hgo hv k
def U6(fr:aD)(cf:Cf):Option (String×TypeId×Value×List DV):=match de fr cf with
 |some ⟨_, .call ⟨.invoke x m,args,_⟩,_,_,_,_⟩=>match aP (cj fr cf) x with
  |some (.d (.v (.iface t u)))=>match evDs (cj fr cf) args.toList with
   |some ds=>some (m,t,u,ds)
   |none=>none
  |_=>none
 |_=>none
def ivk[fu:Fu](ha:U6 fr cf=some (m,t,u,ds))(hm:FG t u m f)(hF:PF GB prog f (.v u::ds) rv)(hgo:cF tt n fu.n fr own cf (.d rv) [] []=⟨vc,fr',own',cf'⟩)(k:av prog GB C n Q0 fr' own' cf')
  (hv:autoParam (ak vc) cL._auto_1):av prog GB C n Q0 fr own cf:=by
 unfold U6 at ha;split at ha<;>try (cases ha;done)
 rename_i hh;split at ha<;>try (cases ha;done)
 rename_i hx;split at ha<;>cases ha;rename_i hds;exact us hh (aKB hx hds hm hF) hgo hv k
def PF.arg0{e:DV}(h:PF GB prog f (d::ds) rv)(he: ∀G y,Is G e y->Is G d y):PF GB prog f (e::ds) rv:=fun G vs hg hvs=>by
 obtain⟨y,m,rfl,h1,h2⟩:=bj.1 hvs;exact h G _ hg (.cons (he G y h1) h2)
end
section
variable {own:aI}{gd:Option (Nat×Bool)}
def VU(h1:aP lk fo=some (.d (.v (.func (.func f) ⟨c1⟩ ⟨c2⟩))))(h2:evDs lk args.toList=some ds)(hc:IsLs GB ds1 c1)(hc2:IsLs GB ds2 c2)(hF:PF GB prog f (ds1++ds++ds2) rv):
  cg prog GB C n lk bk ⟨dst, .call ⟨.value fo,args,tys⟩,ty,pos,af,gd⟩ (.d rv) [] []:=by
 intro hd tl tb K' s1 s2 hf hk;refine⟨fun ρ G ov a w r Q=>?_⟩;obtain⟨y,hy,hy'⟩:=(r.mono s1 s2).ev h1;rw[(aO (G:=G)).1 hy'] at hy;obtain⟨vs,h3,h4⟩:=(r.mono s1 s2).evDs h2;refine Nu (c1:=c1) (c2:=c2) hy h3 (hF G (c1++vs++c2) r.gb (((hc.up r.gb).app h4).app (hc2.up r.gb))) hd (fun v G' hG hK a' w' rl=>?_) a w Q ⟨r.h,r.sz,dh a,r.df⟩;exact hk.run ρ G' ov a' w' ⟨r.gb.trans hG.le,rl.h,rl.sz,rl.df,(kd rl).fx (fun k g _ e=>by obtain⟨u,h5,h6⟩:=r.fx k g e;exact⟨u,h5,h6.up hG.le⟩) hK,
  fun nm B e=>by obtain⟨os,h5,h6⟩:=r.bx nm B e;exact⟨os,h5.up hG.le,h6⟩,r.dj,r.fxd⟩
def Tp(fr:aD)(cf:Cf):Option (FuncId×List Value×List Value×List DV):=match de fr cf with
 |some ⟨_, .call ⟨.value fo,args,_⟩,_,_,_,_⟩=>match aP (cj fr cf) fo,evDs (cj fr cf) args.toList with
  |some (.d (.v (.func (.func f) ⟨c1⟩ ⟨c2⟩))),some ds=>some (f,c1,c2,ds)
  |_,_=>none
 |_=>none
def cfw[fu:Fu](ha:Tp fr cf=some (f,c1,c2,ds))(hc:IsLs GB ds1 c1)(hc2:IsLs GB ds2 c2)(hF:PF GB prog f (ds1++ds++ds2) rv)(hgo:cF tt n fu.n fr own cf (.d rv) [] []=⟨vc,fr',own',cf'⟩)(k:av prog GB C n Q0 fr' own' cf')
  (hv:autoParam (ak vc) cL._auto_1):av prog GB C n Q0 fr own cf:=by
 unfold Tp at ha;split at ha<;>try (cases ha;done)
 rename_i hh;split at ha<;>cases ha;rename_i h1 h2;exact us hh (VU h1 h2 hc hc2 hF) hgo hv k
end
def F4(p q:aa):DV:= .ag [vI (ek p.x),vI (eo p.x),dH p.x,vI (ek p.y),vI (eo p.y),dH p.y,vI (ek q.x),vI (eo q.x),dH q.x,vI (ek q.y),vI (eo q.y),dH q.y]
def ptE{own:aI}(k:Nat){l:List DV}(hl:bi fr k=some (.d (.pt l)))(h:av prog GB C n Q0 ((k, .ep l)::fr) own (.ops ops r K)):av prog GB C n Q0 fr own (.ops ops r K):=
 qD hl (fun ρ G y hy=>by
  obtain⟨b,m,rfl,h1,h2⟩:=mO.1 hy;have e:=h2.len;exact⟨b,0,m,m,J,h1,by rw[l5 m 0 l.length m5,iW,<-e,dX],h2⟩) h
def co(v:List aa):List (aa×aa):=(List.range v.length).map fun i=>(v.getD i ⟨0,0⟩,v.getD ((i+1)%v.length) ⟨0,0⟩)
end Go.Sx
end
