import Derived.Test.YtmdgdhokaffbkaaGreatDoorMz4
import Derived.CallsIn
import Derived.OrdersIn
import Derived.TacticsIn
import Derived.RangeFuncIn
import Derived.RangeFuncRecord
set_option linter.all false
set_option maxRecDepth 100000
section
namespace Go.Sx
open Go
theorem omb{k:IntKind}{a b:Int}(h:a=b):FX.d (.v (.int k a))=FX.d (.v (.int k b)):=by rw[h]
variable {P:Program}{T:TT}{GB G:Gh}{C:aG}{n nm off e by_:Nat}{lk:LK}{bk:BM}{ρ:NE}{ov own':List aA}{a a':Act}{w w':World}{dst r:Option Nat}{t l:List Prop}{t' ty' ty t1 t2:TypeId}{pos:String}{af:Array Edge}{x c:Code}{zx zs cs':List FX}{α:Type}{o oj:Oper}{g u fa fv:FX}{v:Option Prop}{i:TI}{k j:IntKind}{lo mx:Bool}{p q:Int}{K K':Act->World->Prop}{Q Q' Q0:Exit->Act->World->Prop}
section
variable {t:TypeId}{gd:Option (Nat×Bool)}{x y z:Operand}
def aOb(P:Program)(GB:Gh)(C:aG)(n:Nat)(lk:LK)(bk:BM)(o:Oper)(r:CR):Prop:=(∀p,r.vc=some p->p)->cg P GB C n lk bk o r.f r.bl r.nw
def tg{r:Option FX}{c:CR}(h:qo r=some c): ∃f,r=some f/\c=⟨none,f,[],[]⟩:=by
 unfold qo at h;split at h
 .cases h;exact⟨_,J,J⟩
 .cases h
def BY{r:Option (Option Prop×FX)}{c:CR}(h:yp r=some c): ∃v f,r=some (v,f)/\c=⟨v,f,[],[]⟩:=by
 unfold yp at h;split at h
 .cases h;exact⟨_,_,J,J⟩
 .cases h
def tk{K:FX->Option α}{r:α}(h:qp lk x K=some r): ∃f,aP lk x=some f/\K f=some r:=by
 unfold qp at h;split at h
 .exact⟨_,v7,h⟩
 .cases h
def yP{K:FX->FX->Option α}{r:α}(h:vK lk x y K=some r): ∃f g,aP lk x=some f/\aP lk y=some g/\K f g=some r:=by
 unfold vK at h;split at h
 .split at h
  .exact⟨_,_,v7,v7,h⟩
  .cases h
 .cases h
def Iq{K:TI->Option α}{r:α}(hT:n7 P T)(h:AQ T t K=some r): ∃i,f8 P t=some i/\K i=some r:=by
 unfold AQ at h;split at h
 .rename_i i hi;exact⟨i,hT _ _ hi,h⟩
 .cases h
def Hx{K:List (Nat×Nat×Nat)->TI->Option α}{r:α}(hT:n7 P T)(h:Cl T t K=some r): ∃fo i,f8 P t=some i/\i.k= .st fo/\K fo i=some r:=by
 unfold Cl at h;split at h
 .rename_i fo sz z za hi;exact⟨fo,_,hT _ _ hi,rfl,h⟩
 .cases h
def cg.x1{f:FX}(e:aP lk x=some f)(h: ∀ρ G ov (a:Act) w y,bP C ov G w->ce GB C n lk bk ρ G ov a w->aE (cI a) x=some y->cp ρ G f y-> ∃u,cp ρ G g u/\Yd P C (cI a) ov G o u):cg P GB C n lk bk o g [] []:=
 .yd fun ρ G ov a w r=>by
  obtain⟨y,h1,h2⟩:=r.ev e;exact h ρ G ov a w y r.h r h1 h2
def Wd{f:FX}(e:aP lk x=some f):cg P GB C n lk bk ⟨dst, .move x,ty',pos,af,gd⟩ f [] []:= .x1 e fun _ _ _ _ _ y _ _ h1 h2=>⟨y,h2,nj h1⟩
def V4{f:FX}(e:aP lk x=some f):cg P GB C n lk bk ⟨dst, .assign x,ty',pos,af,gd⟩ f [] []:= .x1 e fun _ _ _ _ _ y _ _ h1 h2=>⟨y,h2,Hs h1⟩
def X9{c f v:FX}(ec:aP lk z=some c)(e1:aP lk x=some f)(e2:aP lk y=some g)(h:Gc c f g=some v):cg P GB C n lk bk ⟨dst, .pick z x y,ty',pos,af,gd⟩ v [] []:= .yd fun ρ G ov a w r=>by
 obtain⟨u,h1,h2⟩:=r.ev ec;unfold Gc at h;split at h
 .cases h;cases h2;obtain⟨u,h3,h4⟩:=r.ev e1;exact⟨u,h4,CU h1 h3⟩
 .cases h;cases h2;obtain⟨u,h3,h4⟩:=r.ev e2;exact⟨u,h4,tz h1 h3⟩
 .cases h
def aIp{f:FX}(e:aP lk x=some f)(h:Hp f=some (v,g))(hv: ∀r,v=some r->r):cg P GB C n lk bk ⟨dst, .nilCheck x,ty',pos,af,gd⟩ g [] []:= .x1 e fun ρ G ov a w y _ _ h1 h2=>by
 have key: ∀l,Is G (.pt l) y-> ∃u,cp ρ G (.ep l) u/\Yd P C (cI a) ov G ⟨dst, .nilCheck x,ty',pos,af,gd⟩ u:=fun l h2=>by
  obtain⟨b,m,rfl,hb,hm⟩:=mO.1 h2;refine⟨_,⟨b,0,m,m,J,hb,?_,hm⟩,o9 h1⟩;rw[l5 _ _ _ (by rw[hm.len];omega),iW,bM (by rw[hm.len];omega)]
 unfold Hp at h;split at h<;>cases h
 .obtain⟨b,hb,rfl⟩:=h2;exact⟨_,⟨b,hb,rfl⟩,o9 h1⟩
 .obtain⟨b,o,cs,m,rfl,h3⟩:=h2;exact⟨_,⟨b,o,cs,m,rfl,h3⟩,o9 h1⟩
 .obtain⟨b,hb,rfl⟩:=h2;exact⟨_,⟨b,hb,rfl⟩,o9 h1⟩
 .exact key _ h2
 .rcases vg.1 (show Is G _ y from h2) with⟨e,_⟩|⟨_,h3⟩
  .have:=hv _ J;rw[e] at this;cases this
  .exact key _ h3
def aLX{f:FX}{fo:List (Nat×Nat×Nat)}{k:Nat}(hi:f8 P t=some i)(hk:i.k= .st fo)(e:aP lk x=some f)(h:La fo k f=some g):cg P GB C n lk bk ⟨dst, .fieldAddr t x k,ty',pos,af,gd⟩ g [] []:= .x1 e fun ρ G ov a w y _ _ h1 h2=>by
 unfold La at h;split at h
 .rename_i off ft s ho
  have:=aLM hi hk ho;split at h
  .cases h;obtain⟨b,hb,rfl⟩:=h2;exact⟨_,⟨b,hb,rfl⟩,ta h1⟩
  .rename_i l
   cases hb:Nat.ble off l.length with
   |false=>rw[hb] at h;cases h
   |true=>
    rw[hb,cond_true,uG] at h;cases h;obtain⟨b,o,cs,m,rfl,hb',ht,hm⟩:=h2;refine⟨_,⟨b,o+off,cs,m.drop off,J,hb',?_,hm.drop _⟩,ta h1⟩;rw[gT];exact De ht ozi
  .cases h
   obtain⟨b,hb,rfl⟩:=h2;exact⟨_,⟨b,hb,J⟩,by rw[<-lR];exact ta h1⟩
  .cases h
 .cases h
def XB{f:FX}{fo:List (Nat×Nat×Nat)}{k:Nat}(hT:n7 P T)(hi:f8 P t=some i)(hk:i.k= .st fo)(e:aP lk x=some f)(h:Kq T fo k f=some g):cg P GB C n lk bk ⟨dst, .field t x k,ty',pos,af,gd⟩ g [] []:= .x1 e fun ρ G ov a w y _ _ h1 h2=>by
 unfold Kq at h;split at h<;>try (cases h;done)
 rename_i cs;split at h<;>try (cases h;done)
 rename_i off ft s ho;split at h<;>try (cases h;done)
 rename_i j hj;obtain⟨m,rfl,hm⟩:=eD.1 (show Is G _ y from h2);have:=aMk hi hk ho;split at h<;>try (cases h;done)
 .rename_i q ha
  have:=yG (hT _ _ hj) ha;split at h<;>cases h;rename_i l hl;obtain⟨l',h3,h4⟩:=hm.takeD hl;exact⟨.agg ⟨l'⟩,eD.2 ⟨l',J,h4⟩,ay9 h1 h3⟩
 .rename_i ha
  have:=xt (hT _ _ hj) ha;split at h<;>cases h;rename_i c hc;obtain⟨l',h3,h4⟩:=hm.get hc;exact⟨l',h4,azg h1 h3⟩
def ce.own{y:Value}{cs:List FX}(r:ce GB C n lk bk ρ G ov a w)(h2:cp ρ G (.ov nm off) y)(hb:bk nm=some (.o ty cs lo)): ∃b m,y= .pointer (some ⟨b,off,none⟩)/\(ρ nm).a=some ⟨b,0,none⟩/\d6 ρ G cs m/\⟨b,m,ty,lo⟩∈ov:=by
 obtain⟨os,⟨b,m,h3,rfl,h4⟩,h5⟩:=r.bx _ _ hb;obtain⟨b',h6,rfl⟩:=h2;rw[h3] at h6;cases h6;exact⟨b,m,J,h3,h4,h5 _ aQ⟩
def YQ{f:FX}(hi:f8 P t=some i)(e:aP lk x=some f)(h:HB bk i f=some g):cg P GB C n lk bk ⟨dst, .load t x,ty',pos,af,gd⟩ g [] []:= .x1 e fun ρ G ov a w y _ r h1 h2=>by
 unfold HB at h;split at h<;>try (cases h;done)
 .rename_i k ha
  have:=yG hi ha;split at h<;>try (cases h;done)
  .split at h<;>try (cases h;done)
   rename_i hb;split at h<;>try (cases h;done)
   rename_i l hl;obtain⟨b,m,rfl,h3,h4,h5⟩:=r.own h2 hb;obtain⟨l',h6,h7⟩:=h4.takeX hl;have:jw ov b m _ _:=⟨h5⟩;exact⟨.agg ⟨l'⟩,H4 h7 h,EB h1 h6⟩
  .split at h<;>cases h
   rename_i hl;obtain⟨b,o,ms,m,rfl,hb,ht,hm⟩:=h2;obtain⟨l',h3,h4⟩:=hm.takeD hl;exact⟨.agg ⟨l'⟩,eD.2 ⟨l',J,h4⟩,DS h1 hb (by simpa using Rb ht h3)⟩
 .rename_i ha
  have:=xt hi ha;split at h<;>try (cases h;done)
  .split at h<;>try (cases h;done)
   rename_i hb;obtain⟨b,m,rfl,h3,h4,h5⟩:=r.own h2 hb;obtain⟨l',h6,h7⟩:=h4.get h;have:jw ov b m _ _:=⟨h5⟩;exact⟨l',h7,pP h1 h6⟩
  .split at h<;>cases h
   obtain⟨b,o,ms,m,rfl,hb,ht,hm⟩:=h2;obtain⟨l',h3,h4⟩:=hm.get (i:=0) rfl;have:=KW ht (i:=0) (Nat.succ_pos _);rw[gQ] at this;exact⟨l',h4,te h1 hb (by rw[this];exact h3)⟩
def Ww{f:FX}{i:Nat}(e:aP lk x=some f)(h:JM i f=some g):cg P GB C n lk bk ⟨dst, .extract x i,ty',pos,af,gd⟩ g [] []:= .x1 e fun ρ G ov a w y _ r h1 h2=>by
 unfold JM at h;split at h<;>try (cases h;done)
 .split at h<;>cases h
  rename_i hv;obtain⟨m,rfl,hm⟩:=lh.1 (show Is G _ y from h2);obtain⟨l',h3,h4⟩:=hm.get hv;exact⟨l',h4,xv h1 (by simpa using h3)⟩
 .obtain⟨m1,m2,rfl,k1,k2⟩:=h2
  obtain⟨l',h3,h4⟩:=MG (ρ:=ρ) h k1 k2;exact⟨l',h4,xv h1 (by simpa using h3)⟩
def EQ{fo:List (Nat×Nat×Nat)}(r:ce GB C n lk bk ρ G ov a w): ∀(ps:List (Nat×Operand)) (cs out:List FX) (m:List Value),uV lk fo cs ps=some out->d6 ρ G cs m-> ∃l,wj (cI a) (fo.map fun x=>(x.1,x.2.2)) m ps=some l/\d6 ρ G out l
 |[],cs,out,m,e,hm=>by simp only[uV] at e;cases e;exact⟨m,J,hm⟩
 |(i,x)::ps,cs,out,m,e,hm=>by
  simp only[uV] at e;split at e
  .rename_i off q k d ho hd
   cases hc:(d.okc&&(Nat.beq d.cells.length k&&Nat.ble (off+k) cs.length)) with
   |false=>rw[hc] at e;cases e
   |true=>
    rw[hc] at e;simp only[bR,Nat.beq_eq_true_eq,Nat.ble_eq] at hc;obtain⟨h1,h2,h3⟩:=hc;replace h2:=bQ h2;obtain⟨y,hy,hy'⟩:=r.ev hd;obtain⟨c1,_⟩:=hy'.cells h1;have c2:=c1.len;obtain⟨l,hl1,hl2⟩:=EQ r ps _ out _ e (hm.ov c1 (off:=off));refine⟨l,?_,hl2⟩;simp only[wj,cZ,ho,kU,hy];rw[if_pos ⟨by rw[c2,h2],by rw[hm.len];exact h3⟩];exact hl1
  .cases e
def X1{fo:List (Nat×Nat×Nat)}{cs:List FX}{f:FX}{parts:Array (Nat×Operand)}(hi:f8 P t=some i)(hk:i.k= .st fo)(hz:i.z=some zx)(h:uV lk fo zx parts.toList=some cs)(hf:zX cs=some f):
  cg P GB C n lk bk ⟨dst, .build t parts,ty',pos,af,gd⟩ f [] []:= .yd fun ρ G ov a w r=>by
 obtain⟨v,hv,hv'⟩:=Br hi hz;have:=Sd hi hk;obtain⟨l,h1,h2⟩:=EQ r _ _ _ _ h (hv' ρ G);exact⟨.agg ⟨l⟩,H4 h2 hf,xi h1⟩
def Al{f:FX}(h:zO k p=some (v,f)):f= .d (.v (.int k p))/\((∀q,v=some q->q)->k.min<=p/\p<=k.max):=by
 obtain⟨q,h1,h2⟩:=aKC h
 cases h1
 exact⟨J,fun k=>h2 (k _ J)⟩
def dl{y:Value}:cp ρ G (.d (.v (.int k p))) y↔y= .int k p:=aO (G:=G)
def P0(b:BitVec 64):IntKind.u64.wrap (b.toNat:Int)=(b.toNat:Int):=vn ⟨by show(0:Int)<=_;omega,by have:=b.isLt;show _<=(18446744073709551615:Int);omega⟩
def Dz(b:BitVec 32):IntKind.u32.wrap (b.toNat:Int)=(b.toNat:Int):=vn ⟨by show(0:Int)<=_;omega,by have:=b.isLt;show _<=(4294967295:Int);omega⟩
def FU{op:BinOp}{f:FX}(h:Bm op k p q=some (v,f))(hop:op= .shr\/op= .shl)(hv: ∀r,v=some r->r){fr:Fr}(hx:aE fr x=some (.int k p))(hy:aE fr y=some (.int j q)): ∃u,cp ρ G f u/\Yd P C fr ov G ⟨dst, .binOp op t x y t',ty',pos,af,gd⟩ u:=by
 rcases hop with rfl|rfl<;>cases h
 .exact⟨_,dl.2 J,aI4 hx hy (hv _ J)⟩
 .exact⟨_,dl.2 J,aJn hx hy (hv _ J)⟩
def aMC{op:BinOp}{f:FX}(h:Bm op k p q=some (v,f))(hv: ∀r,v=some r->r){fr:Fr}(hx:aE fr x=some (.int k p))(hy:aE fr y=some (.int k q)): ∃u,cp ρ G f u/\Yd P C fr ov G ⟨dst, .binOp op t x y t',ty',pos,af,gd⟩ u:=by
 cases op with
 |add=>obtain⟨rfl,h2⟩:=Al h;exact⟨_,dl.2 rfl,T1 hx hy (h2 hv)⟩
 |sub=>obtain⟨rfl,h2⟩:=Al h;exact⟨_,dl.2 rfl,Qy hx hy (h2 hv)⟩
 |mul=>obtain⟨rfl,h2⟩:=Al h;exact⟨_,dl.2 rfl,aIj hx hy (h2 hv)⟩
 |quo=>
  cases k<;>cases h<;>first
   |exact⟨_,dl.2 J,U8 hx hy (hv _ J)⟩
   |(obtain⟨h1,h2,h3⟩:=hv _ rfl;exact⟨_,dl.2 rfl,aES hx hy h1 h2 h3⟩)
 |rem=>
  cases k<;>cases h<;>first
   |exact⟨_,dl.2 J,UV hx hy (hv _ J)⟩
   |(obtain⟨h1,h2⟩:=hv _ rfl;exact⟨_,dl.2 rfl,Xl hx hy h1 h2⟩)
 |shr=>exact FU h (.inl J) hv hx hy
 |shl=>exact FU h (.inr J) hv hx hy
 |or=>
  cases k<;>cases h<;>refine⟨_,dl.2 J,l7 hx hy fun w=>?_⟩
  .show(pure (Value.int .u32 (IntKind.u32.wrap ((BitVec.ofInt 32 p ||| BitVec.ofInt 32 q).toNat:Int))):Sem Value).run P w=_
   rw[Dz];rfl
  .show(pure (Value.int .u64 (IntKind.u64.wrap ((BitVec.ofInt 64 p ||| BitVec.ofInt 64 q).toNat:Int))):Sem Value).run P w=_
   rw[P0];rfl
 |and=>
  cases k<;>cases h<;>refine⟨_,dl.2 J,l7 hx hy fun w=>?_⟩
  .show(pure (Value.int .u32 (IntKind.u32.wrap ((BitVec.ofInt 32 p &&& BitVec.ofInt 32 q).toNat:Int))):Sem Value).run P w=_
   rw[Dz];rfl
  .show(pure (Value.int .u64 (IntKind.u64.wrap ((BitVec.ofInt 64 p &&& BitVec.ofInt 64 q).toNat:Int))):Sem Value).run P w=_
   rw[P0];rfl
 |lss=>cases h;exact⟨_,J,Fw hx hy⟩
 |leq=>cases h;exact⟨_,J,aJQ hx hy⟩
 |gtr=>cases h;exact⟨_,J,Cd hx hy⟩
 |geq=>cases h;exact⟨_,J,Hr hx hy⟩
 |eql=>cases h;exact⟨_,J,nn hx hy⟩
 |neq=>cases h;exact⟨_,J,NX hx hy⟩
 |_=>cases h
def QY{f:FX}(e1:aP lk x=some f)(e2:aP lk y=some g)(h:Fc mx f g=some u):cg P GB C n lk bk ⟨dst, .call ⟨.builtin (if mx then .max else .min),⟨[x,y]⟩,⟨[t1,t2]⟩⟩,ty',pos,af,gd⟩ u [] []:= .yd fun ρ G ov a w r=>by
 obtain⟨p,h1,h2⟩:=r.ev e1;obtain⟨q,h3,h4⟩:=r.ev e2;unfold Fc at h;split at h<;>try (cases h;done)
 rename_i k p' j q';rw[dl] at h2 h4;subst h2 h4
 cases hk:kq k j with
 |false=>rw[hk] at h;cases h
 |true=>
  rw[hk] at h;cases Dw hk
  cases mx<;>cases h
  .refine⟨_,dl.2 J,?_⟩
   intro a' w' hf hh;simp only[kW,if_false,execOp,resolve,iY,bY,iQ,bC hf h1,bC hf h3];have h1:(Builtin.min_ #[t1,t2] ty' #[.int k p', .int k q']).run P w'= .ok (.int k (if q'<p' then q' else p')) w':=by
    simp[Builtin.min_,Builtin.min2,run_pure]
   exact dq h1
  .refine⟨_,dl.2 J,?_⟩
   intro a' w' hf hh;simp only[if_true,execOp,resolve,iY,bY,iQ,bC hf h1,bC hf h3];have h1:(Builtin.max_ #[t1,t2] ty' #[.int k p', .int k q']).run P w'= .ok (.int k (if q'>p' then q' else p')) w':=by
    simp[Builtin.max_,Builtin.max2,run_pure]
   exact dq h1
def aIY{f:FX}{b:Bool}(hT:n7 P T)(h:K3 T t f y=some b)(hx: ∃v,aE (cI a) x=some v/\cp ρ G f v)(hy:aP lk y=some g):
  Yd P C (cI a) ov G ⟨dst, .binOp .eql t x y t',ty',pos,af,gd⟩ (.bool b)/\Yd P C (cI a) ov G ⟨dst, .binOp .neq t x y t',ty',pos,af,gd⟩ (.bool (!b)):=by
 obtain⟨v,h1,h2⟩:=hx;unfold K3 at h;split at h<;>try (cases h;done)
 .rename_i hi
  have:=aMu (hT _ _ hi) J;split at h<;>cases h
  .cases (aO (G:=G)).1 h2;exact⟨SK (.inl J) h1,Ub (.inl J) h1⟩
  .cases (aO (G:=G)).1 h2;exact⟨SK (.inr ⟨_,_,J⟩) h1,Ub (.inr ⟨_,_,J⟩) h1⟩
 .rename_i hi
  have:=P6 (hT _ _ hi) J;have key: ∀p,v= .pointer (some p)->Yd P C (cI a) ov G ⟨dst, .binOp .eql t x (.const (.pointer none)) t',ty',pos,af,gd⟩ (.bool false)/\Yd P C (cI a) ov G ⟨dst, .binOp .neq t x (.const (.pointer none)) t',ty',pos,af,gd⟩ (.bool (!false)):=fun p e=>by
   subst e;exact⟨CL h1 J,Ea h1 J⟩
  split at h<;>cases h
  .cases (aO (G:=G)).1 h2;exact⟨CL h1 J,Ea h1 J⟩
  .obtain⟨b,_,e⟩:=h2;exact key _ e
  .obtain⟨b,o,cs,m,e,_⟩:=h2;exact key _ e
  .obtain⟨b,_,e⟩:=h2;exact key _ e
  .obtain⟨b,m,e,_⟩:=mO.1 (show Is G _ v from h2);exact key _ e
 .rename_i hi
  have:=jG (hT _ _ hi) J;split at h<;>cases h
  cases h2;exact⟨PA h1 J,Wt h1 J⟩
def aMQ{op:BinOp}{f:FX}(hT:n7 P T)(e1:aP lk x=some f)(e2:aP lk y=some g)(h:F5 T op t f g y=some (v,u))(hv: ∀r,v=some r->r):cg P GB C n lk bk ⟨dst, .binOp op t x y t',ty',pos,af,gd⟩ u [] []:= .yd fun ρ G ov a w r=>by
 obtain⟨p,h1,h2⟩:=r.ev e1;obtain⟨q,h3,h4⟩:=r.ev e2;unfold F5 at h;split at h
 .rename_i k p' j q'
  rw[dl] at h2 h4;subst h2 h4;split at h
  .exact FU h (.inl J) hv h1 h3
  .exact FU h (.inr J) hv h1 h3
  .cases hk:kq k j with
   |false=>rw[hk] at h;cases h
   |true=>rw[hk] at h;cases Dw hk;exact aMC h hv h1 h3
 .unfold Ou at h
  split at h<;>try (cases h;done)
  rename_i hi;have:=P6 (hT _ _ hi) J
  cases (aO (G:=G)).1 h4
  split at h<;>cases h<;>rcases vg.1 (show Is G _ p from h2) with⟨rfl,rfl⟩|⟨rfl,k⟩
  .exact⟨_,J,CL h1 h3⟩
  .obtain⟨b,m,rfl,_⟩:=mO.1 k;exact⟨_,rfl,CL h1 h3⟩
  .exact⟨_,J,Ea h1 h3⟩
  .obtain⟨b,m,rfl,_⟩:=mO.1 k;exact⟨_,rfl,Ea h1 h3⟩
 .split at h
  .rename_i b hb
   obtain⟨k1,k2⟩:=aIY (ρ:=ρ) (G:=G) (C:=C) (ov:=ov) (dst:=dst) (t':=t') (ty':=ty') (pos:=pos) (af:=af) (gd:=gd) hT hb ⟨p,h1,h2⟩ e2;split at h<;>cases h
   .exact⟨_,by cases b<;>rfl,k1⟩
   .exact⟨_,by cases b<;>rfl,k2⟩
  .split at h<;>try (cases h;done)
   rename_i hi ha hb;have:=Xv (hT _ _ hi) J;have e3:=xJ h2 ha;have e4:=xJ h4 hb;subst e3 e4;split at h<;>cases h
   .exact⟨_,(aO (G:=G)).2 J,aJO h1 h3⟩
   .exact⟨_,(aO (G:=G)).2 J,VV h1 h3⟩
def Vt{op:UnOp}{f:FX}(e1:aP lk x=some f)(h:GR op f=some (v,u))(hv: ∀r,v=some r->r):cg P GB C n lk bk ⟨dst, .unOp op t x,ty',pos,af,gd⟩ u [] []:= .x1 e1 fun ρ G ov a w y _ r h1 h2=>by
 unfold GR at h;split at h<;>try (cases h;done)
 .split at h<;>cases h
  rename_i g hg;obtain⟨b,rfl,h3⟩:=aI9 h2 hg;exact⟨_,h3,uO h1⟩
 .split at h<;>try (cases h;done)
  obtain⟨rfl,h3⟩:=Al h;rw[dl] at h2;subst h2;refine⟨_,dl.2 J,?_⟩;have:=GT (P:=P) (C:=C) (own:=ov) (G:=G) (dst:=dst) (ty':=ty') (pos:=pos) (af:=af) (gd:=gd) (t:=t) h1;rwa [Int.zero_sub,vn (h3 hv)] at this
def aMp{f:FX}(hT:n7 P T)(e1:aP lk x=some f)(h:Ko T t t' f=some (v,u))(hv: ∀r,v=some r->r):cg P GB C n lk bk ⟨dst, .convert t t' x,ty',pos,af,gd⟩ u [] []:= .x1 e1 fun ρ G ov a w y _ r h1 h2=>by
 unfold Ko at h;split at h<;>try (cases h;done)
 rename_i k _ _ _ k' _ _ _ hi hi';have:=zz (hT _ _ hi) J;have:=zz (hT _ _ hi') J;split at h<;>try (cases h;done)
 rename_i j p;rw[dl] at h2;subst h2
 cases hk:kq k j with
 |false=>rw[hk] at h;cases h
 |true=>
  rw[hk,cond_true] at h;cases Dw hk;split at h
  .cases h;exact⟨_,dl.2 J,aB3 h1⟩
  .obtain⟨rfl,h3⟩:=Al h;exact⟨_,dl.2 rfl,az2 h1 (h3 hv)⟩
def ce.row{y:Value}{s:Nat}{ds:List DV}(r:ce GB C n lk bk ρ G ov a w)(hb:bk nm=some (.b ty s ds lo)): ∃B,dO G ⟨ρ nm,s,ty,ds,lo⟩ B/\ ∀o∈B,o∈ov:=by
 obtain⟨os,h1,h2⟩:=r.bx _ _ hb;exact⟨os,h1,h2⟩
def dO.len{β:ke}{B:List aA}(h:dO G β B):β.x.n=β.ds.length:=by
 obtain⟨vs,h1,h2,_⟩:=h;rw[h1.len,h2.len]
def Yn{f:FX}(hT:n7 P T)(e1:aP lk x=some f)(e2:aP lk y=some g)(h:IN T bk t f g=some (v,u))(hv: ∀r,v=some r->r):cg P GB C n lk bk ⟨dst, .indexAddr t x y,ty',pos,af,gd⟩ u [] []:= .yd fun ρ G ov a w r=>by
 obtain⟨p,h1,h2⟩:=r.ev e1;obtain⟨q,h3,h4⟩:=r.ev e2;unfold IN at h;split at h<;>try (cases h;done)
 rename_i nm;split at h<;>try (cases h;done)
 rename_i ty s ds lo hb;split at h<;>try (cases h;done)
 rename_i e' s' by_ _ _ _ hi;have:=jG (hT _ _ hi) J;split at h<;>try (cases h;done)
 rename_i k i
 cases hs:Nat.beq s s' with
 |false=>rw[hs] at h;cases h
 |true=>
  rw[hs,cond_true] at h;cases h
  cases bQ hs
  rw[dl] at h4;subst h4
  cases h2
  obtain⟨B,hB,hBo⟩:=r.row (y:= .nilFunc) hb;have hl:=hB.len;simp only at hl;obtain⟨h5,h6⟩:=hv _ rfl;obtain⟨vs,hB1,hB2,_⟩:=hB;rcases hB1 with⟨e5,_,_⟩|⟨b,rest,lo',e5,_⟩
  .subst e5;have:=hB2.len;simp at this;rw[<-this] at h6;simp at h6;omega
  .have hw:(ρ nm).a=some ⟨b,0,none⟩:=by simp only at e5;rw[e5]
   rw[hw] at h1;refine⟨_,⟨b,hw,J⟩,?_⟩;have:=wK (P:=P) (C:=C) (own:=ov) (G:=G) (dst:=dst) (ty':=ty') (pos:=pos) (af:=af) (gd:=gd) (t:=t) h1 h3 h5 (by rw[hl];exact h6);simpa using this
def aIN{f:FX}{s:Nat}(hS:cD P t e s by_)(e1:aP lk x=some f)(h:JY bk f=some g):cg P GB C n lk bk ⟨dst, .call ⟨.builtin .len,⟨[x]⟩,⟨[t]⟩⟩,ty',pos,af,gd⟩ g [] []:= .x1 e1 fun ρ G ov a w y _ r h1 h2=>by
 have key: ∀l:List DV,Is G (.sl l) y-> ∃u,cp ρ G (.d (.v (.int .i64 (l.length:Nat)))) u/\Yd P C (cI a) ov G ⟨dst, .call ⟨.builtin .len,⟨[x]⟩,⟨[t]⟩⟩,ty',pos,af,gd⟩ u:=fun l hl=>by
  obtain⟨k,z,es,rfl,hs,hl⟩:=il.1 hl;have:=hs.len;rw[hl.len] at this;exact⟨_,dl.2 J,by rw[<-this];exact vh h1⟩
 unfold JY at h;split at h
 .cases h;cases h2;exact⟨_,dl.2 J,vh h1⟩
 .cases h;exact key _ h2
 .cases h;exact key _ h2.2
 .split at h<;>cases h
  rename_i hb
  cases h2
  obtain⟨B,hB,_⟩:=r.row (y:= .nilFunc) hb;have:=hB.len;simp only at this;exact⟨_,dl.2 J,by rw[<-this];exact vh h1⟩
 .cases h
def aCm{f:FX}{d:Nat}(hg:g∈f.cells)(h:y5 f d=true):g.nm≠some d:=by
 have key:g.nm=f.nm\/g.nm=none:=by
  unfold FX.cells at hg;split at hg
  .obtain⟨x,_,rfl⟩:=aT.1 hg;exact .inr rfl
  .rcases aL.1 hg with hg|hg
   .obtain⟨x,_,rfl⟩:=aT.1 hg;exact .inr rfl
   .rcases aV.1 hg with rfl|hg
    .exact .inl J
    .obtain⟨x,_,rfl⟩:=aT.1 hg;exact .inr rfl
  .exact .inl (by rw[aY.1 hg])
 rcases key with h'|h'
 .intro e;unfold y5 at h;rw[<-h',e] at h;simp at h
 .rw[h'];simp
def ce.alloc(r:ce GB C n lk bk ρ G ov a w){d b:Nat}{cs:List Value}(hf:kH [d] (some d) lk bk)(hz:d6 ρ G zs cs)(hn: ∀g∈zs,g.nm≠some d)
  (hk:SX GB C n (fq lk (some d) (.ov d 0)) (Sx.upB bk [(d,some (.o t zs true))]) K)(rl:iw C n (Sx.put (cI a) (some d) (.pointer (some ⟨b,0,none⟩))) (⟨b,cs,t,true⟩::ov) G a' w'):K a' w':=by
 have hnd:=(bU.1 rl.h.nd).1;have hy:cp (fun k=>if k=d then⟨some ⟨b,0,none⟩,0,0⟩ else ρ k) G (.ov d 0) (.pointer (some ⟨b,0,none⟩)):=⟨b,vb,J⟩;have hB:l8 (fun k=>if k=d then⟨some ⟨b,0,none⟩,0,0⟩ else ρ k) G d (.o t zs true) [⟨b,cs,t,true⟩]:=
  ⟨b,cs,vb,J,hz.ren fun g hg m hm=>wA _ fun e'=>hn g hg (by rw[hm,e'])⟩
 refine hk.run _ _ _ a' w' (r.new hf (b9.refl _) rl.h hB ?_ (fun o ho=>aJ _ ho) ?_ hy (kd rl))
 .intro o ho;rw[aY.1 ho];exact aQ
 .intro o ho e';cases e';exact hnd o ho rfl
def SO{d:Nat}{f:FX}(e:aP lk x=some f)(hc:f.okc=true)(hn:y5 f d=true):cg P GB C n lk bk ⟨some d, .box t x,ty',pos,af,gd⟩ (.ov d 0) [(d,some (.o t f.cells true))] [d]:=by
 intro hd tl tb K s1 s2 hf hk;refine⟨fun ρ G ov a w r Q=>?_⟩;obtain⟨y,h1,h2⟩:=(r.mono s1 s2).ev e;exact uU h1 hd (fun b a' w' rl=>r.alloc hf (h2.cells hc).1 (fun g hg=>aCm hg hn) hk rl) a w Q ⟨r.h,r.sz,dh a,r.df⟩
def Xz(v:Value):(xX v).nm=none:=by unfold xX;split<;>rfl
def aCD{d:Nat}{z:List FX}(hi:f8 P t=some i)(hz:i.z=some z):cg P GB C n lk bk ⟨some d, .alloc t,ty',pos,af,gd⟩ (.ov d 0) [(d,some (.o t z true))] [d]:=by
 intro hd tl tb K s1 s2 hf hk;refine⟨fun ρ G ov a w r Q=>?_⟩;obtain⟨v,hv,hv'⟩:=Br hi hz;refine wz hd (fun b a' w' rl=>r.alloc hf (hv' ρ G) (fun g hg=>?_) hk rl) a w Q ⟨r.h,r.sz,dh a,r.df⟩;obtain⟨j,_,rfl⟩:=rp hi
 cases hj:j.zero with
 |none=>simp only[hj] at hz;cases hz
 |some u=>
  simp only[hj] at hz;cases hz;obtain⟨x,_,rfl⟩:=aT.1 hg;rw[Xz];simp
def i9.of_mem{b:Nat}{cs cs':List Value}{ty:TypeId}{lo:Bool}: ∀{own:List aA},⟨b,cs,ty,lo⟩∈own-> ∃own',i9 own b cs ty lo cs' own'/\⟨b,cs',ty,lo⟩∈own'/\ ∀o∈own,o.b≠b->o∈own'
 |[],h=>by cases h
 |x::t,h=>by
  rcases aV.1 h with rfl|h
  .exact⟨_, .hd ..,aQ,fun o ho hb=>(aV.1 ho).elim (fun e=>absurd (by rw[e]) hb) (fun e=>aJ _ e)⟩
  .obtain⟨own',h1,h2,h3⟩:=i9.of_mem h
   exact⟨x::own', .tl _ _ _ _ _ _ _ _ h1,aJ _ h2,fun o ho hb=>(aV.1 ho).elim (fun e=>by rw[e];exact aQ) (fun e=>aJ _ (h3 o e hb))⟩
def ce.wrote{b:Nat}{m m':List Value}{cs:List FX}(r:ce GB C n lk bk ρ G ov a w)(hb:bk nm=some (.o ty cs lo))(ha:(ρ nm).a=some ⟨b,0,none⟩)(hm':d6 ρ G cs' m')(h1:⟨b,m',ty,lo⟩∈own')(h2: ∀o∈ov,o.b≠b->o∈own')
  (hk:SX GB C n (fq lk dst .un) (Sx.upB bk [(nm,some (.o ty cs' lo))]) K)(rl:iw C n (Sx.put (cI a) dst undef) own' G a' w'):K a' w':=by
 have r2:=r.upB (G':=G) (ov':=own') (w':=w') (B':= .o ty cs' lo) (os:=[⟨b,m',ty,lo⟩]) (b9.refl _) rl.h ⟨b,m',ha,J,hm'⟩ (fun o ho=>by rw[aY.1 ho];exact h1) (fun o ho hne=>h2 o ho fun e=>hne (by rw[ha,e])) ⟨_,hb⟩;exact hk.run _ _ _ a' w' (r2.put J (kd rl))
def azW{f:FX}(h:f.flat=true):f.okc=true:=by
 cases f with
 |d x=>cases x<;>first|exact h|(cases h;done)
 |bx=>cases h
 |_=>exact h
def XR{f:FX}(h:f.flat=true):f.cells=[f]:=by
 cases f with
 |d x=>cases x<;>first|rfl|(cases h;done)
 |bx=>cases h
 |_=>rfl
def cp.flat{f:FX}{y:Value}(h:cp ρ G f y)(k:f.flat=true):Go.Sx.flat y=true:=by
 obtain⟨h1,h2⟩:=h.cells (azW k);rw[XR k] at h1;have hl:=h1.len
 cases y with
 |agg l=>
  obtain⟨z,q,e,h4,h5⟩:=h1
  cases f with
  |d x=>cases x with
   |v u=>exact Is.flat (show Is G _ _ from h) k
   |ag l=>cases k
   |tp l=>cases k
   |pt l=>exact Is.flat (show Is G _ _ from h) k
   |op b l=>exact Is.flat (show Is G _ _ from h) k
   |sl l=>exact Is.flat (show Is G _ _ from h) k
  |ep l=>obtain⟨_,_,_,_,e,_⟩:=h;cases e
  |ov _ _=>obtain⟨_,_,e⟩:=h;cases e
  |be _ _ _ _=>obtain⟨_,_,e⟩:=h;cases e
  |rs _ _ _ _=>obtain⟨_,_,_,e,_⟩:=h;cases e
  |ct l=>obtain⟨⟨_,_,e⟩,_⟩:=h;cases e
  |bx=>cases k
  |un=>cases k
  |no=>cases k
  |_=>cases h
 |_=>exact h2 _ (by simp[aH])
def aAn{bl:List (Nat×Option Bk)}(hi:f8 P t=some i)(e1:aP lk x=some fa)(e2:aP lk y=some fv)(h:DI bk i fa fv=some bl):cg P GB C n lk bk ⟨dst, .store t x y,ty',pos,af,gd⟩ .un bl []:=by
 intro hd tl tb K s1 s2 hf hk;refine⟨fun ρ G ov a w r Q=>?_⟩;have r1:=r.mono s1 s2;obtain⟨p,h1,h2⟩:=r1.ev e1;obtain⟨q,h3,h4⟩:=r1.ev e2;unfold DI at h;split at h<;>try (cases h;done)
 rename_i nm off;split at h<;>try (cases h;done)
 rename_i ty cs lo hb;obtain⟨b,m,rfl,ha,h5,h6⟩:=r1.own h2 hb;split at h<;>try (cases h;done)
 .rename_i k hk'
  have:=yG hi hk'
  cases hc:(fv.okc&&(Nat.beq fv.cells.length k&&Nat.ble (off+k) cs.length)) with
  |false=>rw[hc] at h;cases h
  |true=>
   rw[hc,cond_true,uG] at h;cases h;simp only[bR,Nat.beq_eq_true_eq,Nat.ble_eq] at hc;obtain⟨c1,c2,c3⟩:=hc;replace c2:=bQ c2;obtain⟨h7,h8⟩:=h4.cells c1;obtain⟨own',u1,u2,u3⟩:=i9.of_mem (cs':=cP m off (aH q)) h6;exact FF h1 h3 u1 (by rw[h7.len,c2]) (by rw[h5.len];exact c3) (dW.2 h8) hd (fun a' w' rl=>r.wrote (m:=m) (s2 _ _ hb) ha (h5.ov h7) u2 u3 hk rl) a w Q ⟨r.h,r.sz,dh a,r.df⟩
 .rename_i hk'
  have:=xt hi hk'
  cases hc:(fv.flat&&Nat.blt off cs.length) with
  |false=>rw[hc] at h;cases h
  |true=>
   rw[hc,cond_true,uG] at h;cases h;simp only[bR,lY] at hc;obtain⟨own',u1,u2,u3⟩:=i9.of_mem (cs':=m.set off q) h6;exact vS h1 h3 u1 (by rw[h5.len];exact hc.2) (h4.flat hc.1) hd (fun a' w' rl=>r.wrote (m:=m) (s2 _ _ hb) ha (h5.set off h4) u2 u3 hk rl) a w Q ⟨r.h,r.sz,dh a,r.df⟩
def Ad{op:Op}{r:CR}(hT:n7 P T)(h:Aj T lk bk dst op=some r):aOb P GB C n lk bk ⟨dst,op,ty',pos,af,gd⟩ r:=by
 intro hv;unfold Aj at h;split at h
 .obtain⟨f,h1,rfl⟩:=tg h;exact Wd h1
 .obtain⟨f,h1,rfl⟩:=tg h;exact V4 h1
 .obtain⟨c,hc,h⟩:=tk h
  obtain⟨f,g,h1,h2,h⟩:=yP h;obtain⟨u,h3,rfl⟩:=tg h;exact X9 hc h1 h2 h3
 .split at h<;>try (cases h;done)
  obtain⟨i,hi,h⟩:=Iq hT h;split at h<;>try (cases h;done)
  rename_i z hz;rw[uG] at h;cases h;exact aCD hi hz
 .split at h<;>try (cases h;done)
  obtain⟨f,hf,h⟩:=tk h;rw[uG,cond_eq_ite] at h;split at h<;>cases h;rename_i hc;simp only[bR] at hc;exact SO hf hc.1 hc.2
 .obtain⟨f,h1,h⟩:=tk h;obtain⟨v,u,h3,rfl⟩:=BY h;exact aIp h1 h3 hv
 .obtain⟨fo,i,hi,hk,h⟩:=Hx hT h
  obtain⟨f,h1,h⟩:=tk h;obtain⟨u,h3,rfl⟩:=tg h;exact aLX hi hk h1 h3
 .obtain⟨fo,i,hi,hk,h⟩:=Hx hT h
  obtain⟨f,h1,h⟩:=tk h;obtain⟨u,h3,rfl⟩:=tg h;exact XB hT hi hk h1 h3
 .obtain⟨i,hi,h⟩:=Iq hT h
  obtain⟨f,h1,h⟩:=tk h;obtain⟨u,h3,rfl⟩:=tg h;exact YQ hi h1 h3
 .obtain⟨i,hi,h⟩:=Iq hT h
  obtain⟨f,g,h1,h2,h⟩:=yP h
  cases hb:DI bk i f g with
  |none=>simp only[hb] at h;cases h
  |some bl=>simp only[hb] at h;cases h;exact aAn hi h1 h2 hb
 .obtain⟨f,h1,h⟩:=tk h;obtain⟨u,h3,rfl⟩:=tg h;exact Ww h1 h3
 .obtain⟨fo,i,hi,hk,h⟩:=Hx hT h
  split at h<;>try (cases h;done)
  rename_i z hz;split at h<;>try (cases h;done)
  rename_i cs hcs;split at h<;>cases h;rename_i g hg;exact X1 hi hk hz hcs hg
 .obtain⟨f,g,h1,h2,h⟩:=yP h;obtain⟨v,u,h3,rfl⟩:=BY h;exact aMQ hT h1 h2 h3 hv
 .obtain⟨f,h1,h⟩:=tk h;obtain⟨v,u,h3,rfl⟩:=BY h;exact Vt h1 h3 hv
 .obtain⟨f,h1,h⟩:=tk h;obtain⟨v,u,h3,rfl⟩:=BY h;exact aMp hT h1 h3 hv
 .obtain⟨f,g,h1,h2,h⟩:=yP h;obtain⟨v,u,h3,rfl⟩:=BY h;exact Yn hT h1 h2 h3 hv
 .split at h<;>try (cases h;done)
  rename_i hi;obtain⟨f,h1,h⟩:=tk h;obtain⟨u,h3,rfl⟩:=tg h;exact aIN (jG (hT _ _ hi) J) h1 h3
 .obtain⟨f,g,h1,h2,h⟩:=yP h;obtain⟨u,h3,rfl⟩:=tg h;exact QY (mx:=true) h1 h2 h3
 .obtain⟨f,g,h1,h2,h⟩:=yP h;obtain⟨u,h3,rfl⟩:=tg h;exact QY (mx:=false) h1 h2 h3
 .cases h
end
def FW(r:Option Nat):Fence:={Fence.wide with round:=r}
def i5(r:Option Nat)(P:Program)(c:Code)(Q:Exit->Act->World->Prop)(a:Act)(w:World):Prop:=c.wpIn (FW r) 0 P Q a w
section
def xb{o:Option Nat}(h:o=none)(k:i5 o P c Q a w):c.wp P Q a w:=by
 subst h;exact wpIn_wide.1 k
def V2(h:i5 r P c Q a w)(hq: ∀e a w,Q e a w->Q' e a w):i5 r P c Q' a w:=wpIn_mono h hq
def aBA(h:Q .normal a w):i5 r P .skip Q a w:=wpIn_skip h
def azq{l:Nat}(h:Q .normal a w):i5 r P (.label l) Q a w:=wpIn_label h
def X7{id:Nat}(h:Q (.exit id) a w):i5 r P (.exit id) Q a w:=wpIn_exit h
def aFM(h:Q .ret a w):i5 r P .ret Q a w:=wpIn_ret h
def XH{y:Code}(h:i5 r P x (Exit.then (i5 r P y Q) Q) a w):i5 r P (.seq x y) Q a w:=wpIn_seq h
def Z2{c:Operand}{y:Code}{t:Bool}(hc:a.eval c= .bool t)(ht:t=true->i5 r P x Q a w)(hf:t=false->i5 r P y Q a w):i5 r P (.cond c x y) Q a w:=wpIn_cond_split hc ht hf
def avF{id:Nat}(h:i5 r P c (Exit.inBlock id Q) a w):i5 r P (.block id c) Q a w:=wpIn_block h
def zU{b:Frame}{k:List Item}{cs:List Frame}:step P (lone (b.atR a (.code (.scope c)::k)) cs w)= .next (lone (b.atR a (.code c:: .inScope c::k)) cs w):=
 step_lone_go (by simp[stepG,stepG.exec,Frame.atR])
def aml{b:Frame}{k:List Item}{cs:List Frame}:step P (lone (b.atR a (.inScope c::k)) cs w)= .next (lone (b.atR a k) cs w):=
 step_lone_go (by simp[stepG,stepG.exec,Frame.atR])
def ayR(h:i5 r P c (Exit.noGoto Q) a w):i5 r P (.scope c) Q a w:=by
 intro b k cs hro hb hr;have h0:(lone (b.atR a (.code (.scope c)::k)) cs w).fenced P (FW r):=fenced_calm hb hr J;obtain⟨e,a₁,w₁,hq,harr⟩:=h b (.inScope c::k) cs hro hb hr
 cases e with
 |normal=>exact⟨.normal,a₁,w₁,hq, .head h0 zU (StepsIn.trans harr (.one (fenced_calm hb hr J) aml))⟩
 |exit id=>
  have hx:exitTo id (.inScope c::k)=exitTo id k:=by simp[exitTo]
  exact⟨.exit id,a₁,w₁,hq,fun k' hk=> .head h0 zU (harr.1 k' (by rw[hx];exact hk)),fun hr' hk=>let⟨k₁,h1,h2⟩:=harr.2 hr' (by rw[hx];exact hk);⟨k₁,h1, .head h0 zU h2⟩⟩
 |goto l=>exact hq.elim
 |ret=>exact⟨_,a₁,w₁,hq, .of_steps (.one h0 zU) harr⟩
 |panic ch=>exact⟨_,a₁,w₁,hq, .of_steps (.one h0 zU) harr⟩
 |outgrown=>exact⟨_,a₁,w₁,hq, .of_steps (.one h0 zU) harr⟩
def XD{id:Nat}{ops:Array Oper}(h:wpListIn (FW r) 0 P ops Q ops.toList a w):i5 r P (.region id ops false) Q a w:=wpIn_region_list h
def aEX{f:FuncId}{args:Array Value}{R:Ending->World->Prop}(h:Calls P f args w R):CallsIn (FW r) 0 P f args w R:=by
 have h1:CallsIn Fence.wide 0 P f args w R:=callsIn_wide.2 h
 cases r with
 |none=>exact h1
 |some l=>exact h1
theorem okH{p:Prop}(h:p:=by cases h):p:=h
def F8(h: ∀Q,o.wp P a w K' Q)(hd: ∀a' w',K' a' w'->a'.defers=a.defers/\K a' w'):o.wpIn (FW r) 0 P a w K Q:=by
 have hs:o.semAt r a.eval=execOp a.eval o:=by
  cases r with
  |none=>rfl
  |some l=>
   refine Oper.semAt_some l a.eval o fun c hc=>?_;have h1:=h (fun _ _ _=>False);unfold Oper.wp at h1;obtain⟨dst,op,ty,pos,af,gd⟩:=o;simp only at hc;subst hc;unfold execOp at h1;simp only[Sem.run_bind,Result.andThen] at h1;split at h1
   .simp only[Sem.run_pure,Oper.upon] at h1
    have:=(hd _ _ h1).1
    cases dst<;>simp[Act.put] at this
   .rename_i x w1 hx
    cases x<;>simp only[Oper.upon] at h1
 have h1:=h (fun _ _ _=>False);unfold Oper.wp at h1;refine⟨fun _ _=>trivial,?_⟩;show o.uponIn (FW r) 0 P a K Q ((o.semAt r a.eval).run P w);rw[hs];generalize (execOp a.eval o).run P w=x at h1
 cases x with
 |ok nx w'=>
  cases nx with
  |value v=>exact(hd _ _ h1).2
  |skip=>exact(hd _ _ h1).2
  |defer d=>exact(hd _ _ h1).2
  |enter f args=>
   refine⟨fun h=>okH,(aEX (r:=r) h1).mono fun e w'' he=>?_⟩
   cases e with
   |returned v=>exact(hd _ _ he).2
   |panicked ch=>exact he.elim
   |outgrown=>obtain⟨_,_,hq⟩:=he;exact hq.elim
  |row row args=>
   refine⟨fun h=>okH,fun c cs hroom=>?_⟩;obtain⟨v,w'',hv,hst⟩:=h1 c cs;exact⟨v,w'',(hd _ _ hv).2,stepsIn_wide.2 hst⟩
  |round=>exact h1.elim
  |_=>exact h1.elim
 |halt y w'=>cases y<;>first|exact h1.elim|exact h1
end
def xd:List Nat->Nat->Bool
 |[],_=>false
 |x::t,k=>Nat.beq x k||xd t k
structure Rc where
 rs:List Nat
 d:Option Nat
 f:FX
 rn:List Nat
 bl:List (Nat×Option Bk)
 nw:List Nat
abbrev ST:=LK×BM
def Rc.ap(r:Rc)(s:ST):ST:=(fq s.1 r.d r.f,upB s.2 r.bl)
def cG(p:Nat->Bool):Nat->ST->List Rc->ST
 |_,s,[]=>s
 |k,s,r::t=>cG p (k+1) (if p k then r.ap s else s) t
def mE(l:List Nat)(g:Nat->Option α):Nat->Option α:=fun k=>bif xd l k then g k else none
def DR{nm:Nat}: ∀{bl:List (Nat×Option Bk)} {s s':BM},((∀e∈bl,e.1≠nm)->s nm=s' nm)->upB s bl nm=upB s' bl nm
 |[],s,s',h=>h vb
 |(k,B)::t,s,s',h=>by
  simp only[upB];refine DR fun ht=>?_;by_cases e:nm=k
  .simp[e]
  .simp only[e,if_false];exact h fun x hx=>(aV.1 hx).elim (fun c=>by rw[c];exact Ne.symm e) (ht x)
def E4{nm:Nat}: ∀{bl:List (Nat×Option Bk)} {s:BM},(∀e∈bl,e.1≠nm)->upB s bl nm=s nm
 |[],s,h=>rfl
 |(k,B)::t,s,h=>by
  simp only[upB];rw[E4 fun e he=>h e (aJ _ he)];simp[Ne.symm (h _ aQ)]
def JA{x:Nat}{d:Option Nat}{f:FX}{s:LK}(h:d≠some x):fq s d f x=s x:=by
 cases d with
 |none=>rfl
 |some d=>simp only[fq];rw[if_neg fun e=>h (by rw[e])]
def Bg{x:Nat}{p q:Nat->Bool}: ∀{us:List Rc} {k:Nat} {s s':ST},s.1 x=s'.1 x->(∀j r,us[j]? =some r->r.d=some x->p (k+j)=q (k+j))->(cG p k s us).1 x=(cG q k s' us).1 x
 |[],k,s,s',h,_=>h
 |r::t,k,s,s',h,hp=>by
  simp only[cG];refine Bg ?_ fun j u hj hd=>by have:=hp (j+1) u omK hd;rwa [show k+(j+1)=k+1+j by omega] at this
  by_cases hd:r.d=some x
  .have:=hp 0 r J hd
   rw[gQ] at this;rw[this];split
   .simp only[Rc.ap,fq,hd,if_true]
   .exact h
  .have: ∀(b:Bool) (s:ST),(if b then r.ap s else s).1 x=s.1 x:=fun b s=>by cases b<;>simp[Rc.ap,JA hd]
   rw[this,this,h]
def zQ{nm:Nat}{p q:Nat->Bool}: ∀{us:List Rc} {k:Nat} {s s':ST},s.2 nm=s'.2 nm->(∀j r,us[j]? =some r->(∃e∈r.bl,e.1=nm)->p (k+j)=q (k+j))->(cG p k s us).2 nm=(cG q k s' us).2 nm
 |[],k,s,s',h,_=>h
 |r::t,k,s,s',h,hp=>by
  simp only[cG];refine zQ ?_ fun j u hj hd=>by have:=hp (j+1) u omK hd;rwa [show k+(j+1)=k+1+j by omega] at this
  by_cases hd: ∃e∈r.bl,e.1=nm
  .have:=hp 0 r J hd
   rw[gQ] at this;rw[this];split
   .exact DR fun _=>h
   .exact h
  .have: ∀(b:Bool) (s:ST),(if b then r.ap s else s).2 nm=s.2 nm:=fun b s=>by
    cases b
    .rfl
    .exact E4 fun e he hc=>hd ⟨e,he,hc⟩
   rw[this,this,h]
def Ua{x:Nat}{f:FX}{p:Nat->Bool}: ∀{us:List Rc} {k:Nat} {s:ST},(cG p k s us).1 x=some f->s.1 x=some f\/ ∃j r,us[j]? =some r/\p (k+j)=true/\r.d=some x/\r.f=f
 |[],k,s,h=> .inl h
 |r::t,k,s,h=>by
  simp only[cG] at h;rcases Ua h with h|⟨j,u,h1,h2,h3⟩
  .cases hp:p k with
   |false=>rw[hp] at h;exact .inl h
   |true=>
    rw[hp] at h;simp only[if_true,Rc.ap] at h;by_cases hd:r.d=some x
    .rw[hd] at h;simp only[fq,if_true] at h;cases h;exact .inr ⟨0,r,J,by simpa using hp,hd,J⟩
    .rw[JA hd] at h;exact .inl h
  .exact .inr ⟨j+1,u,by simpa using h1,by rw[show k+(j+1)=k+1+j by omega];exact h2,h3⟩
def Qt{nm:Nat}{B:Bk}: ∀{bl:List (Nat×Option Bk)} {s:BM},upB s bl nm=some B->s nm=some B\/(nm,some B)∈bl
 |[],s,h=> .inl h
 |(k,B')::t,s,h=>by
  simp only[upB] at h;rcases Qt h with h|h
  .by_cases e:nm=k
   .subst e;simp only[if_true] at h;subst h;exact .inr aQ
   .simp only[e,if_false] at h;exact .inl h
  .exact .inr (aJ _ h)
def PS{nm:Nat}{B:Bk}{p:Nat->Bool}: ∀{us:List Rc} {k:Nat} {s:ST},(cG p k s us).2 nm=some B->s.2 nm=some B\/ ∃j r,us[j]? =some r/\p (k+j)=true/\(nm,some B)∈r.bl
 |[],k,s,h=> .inl h
 |r::t,k,s,h=>by
  simp only[cG] at h;rcases PS h with h|⟨j,u,h1,h2,h3⟩
  .cases hp:p k with
   |false=>rw[hp] at h;exact .inl h
   |true=>
    rw[hp] at h;rcases Qt h with h|h
    .exact .inl h
    .exact .inr ⟨0,r,J,by simpa using hp,h⟩
  .exact .inr ⟨j+1,u,by simpa using h1,by rw[show k+(j+1)=k+1+j by omega];exact h2,h3⟩
def VC(acc:List Nat)(l:List Edge):Nat:=l.foldl (fun s e=>if Region.binds .any e then(s ||| 2^e.on) ||| acc.getD e.on 0 else s) 0
def qO:List Oper->List Nat->List Nat
 |[],acc=>acc
 |o::r,acc=>qO r (acc++[VC acc o.after.toList])
inductive Bf (ops:List Oper):Nat->Nat->Prop
 |b {i:Nat} {o:Oper} {e:Edge} (ho:ops[i]? =some o) (he:e∈o.after) (hb:Region.binds .any e=true):Bf ops i e.on
 |s {i j:Nat} {o:Oper} {e:Edge} (ho:ops[i]? =some o) (he:e∈o.after) (hb:Region.binds .any e=true) (h:Bf ops e.on j):Bf ops i j
def Sn{acc:List Nat}{j:Nat}: ∀(l:List Edge) (s:Nat),(l.foldl (fun s e=>if Region.binds .any e then(s ||| 2^e.on) ||| acc.getD e.on 0 else s) s).testBit j=true->s.testBit j=true\/ ∃e∈l,Region.binds .any e=true/\(e.on=j\/(acc.getD e.on 0).testBit j=true)
 |[],s,h=> .inl h
 |e::t,s,h=>by
  rw[jN] at h;rcases Sn t _ h with h|⟨e',h1,h2⟩
  .split at h
   .rename_i hb
    simp only[Nat.testBit_or,gS,Nat.testBit_two_pow,decide_eq_true_eq] at h;rcases h with(h|h)|h
    .exact .inl h
    .exact .inr ⟨e,aQ,hb, .inl h⟩
    .exact .inr ⟨e,aQ,hb, .inr h⟩
   .exact .inl h
  .exact .inr ⟨e',aJ _ h1,h2⟩
def Ju{all:List Oper}: ∀(r:List Oper) (acc:List Nat) (pre:List Oper),all=pre++r->acc.length=pre.length->(∀i j,(acc.getD i 0).testBit j=true->Bf all i j)-> ∀i j,((qO r acc).getD i 0).testBit j=true->Bf all i j
 |[],acc,pre,_,_,h=>h
 |o::r,acc,pre,he,hl,h=>by
  refine Ju r _ (pre++[o]) (by rw[he];simp) (by simp[hl]) fun i j hij=>?_;rw[aK,List.getElem?_append] at hij;split at hij
  .rename_i hi
   exact h i j (by rw[aK];exact hij)
  .rename_i hi
   by_cases e:i=acc.length
   .subst e
    simp only[qS,List.getElem?_cons_zero,lJ] at hij;have ho:all[acc.length]? =some o:=by rw[he,hl];simp
    rcases Sn _ _ hij with h0|⟨e,h1,h2,h3⟩
    .simp at h0
    .rcases h3 with rfl|h3
     .exact .b ho (by simpa using h1) h2
     .exact .s ho (by simpa using h1) h2 (h _ _ h3)
   .rw[dR omg] at hij
    simp at hij
def Ac:Option Nat->Nat->Bool
 |some x,y=>Nat.beq x y
 |none,_=>false
def n0(a b:Rc):Bool:=(match a.d with|some x=>xd b.rs x||Ac b.d x|none=>false)||a.bl.any fun e=>xd b.rn e.1||b.bl.any fun e'=>Nat.beq e'.1 e.1
def x8(nm:Nat)(f:FX):Bool:=Ac f.nm nm
def Fo(nm:Nat):Option Bk->Bool
 |some (.o _ cs _)=>cs.any (x8 nm)
 |_=>false
def qn(r:Rc)(nm:Nat):Bool:=x8 nm r.f||r.bl.any fun e=>Fo nm e.2
def CJ(m:Nat)(r:Rc):Nat->List Rc->Bool
 |_,[]=>true
 |j,u::t=>(!(n0 u r||n0 r u||u.nw.any (qn r))||m.testBit j)&&!(r.nw.any (qn u))&&CJ m r (j+1) t
def wQ:List Nat->List Rc->List Rc->Bool
 |m::ms,pre,r::t=>CJ m r 0 pre&&wQ ms (pre++[r]) t
 |_,_,[]=>true
 |[],_,_::_=>false
def oq:Nat->List Oper->Bool
 |_,[]=>true
 |i,o::t=>o.after.all (fun e=>!Region.binds .any e||Nat.blt e.on i)&&oq (i+1) t
def E2(us:List Rc)(fr:List (Nat×FX))(own:List (Nat×Option Bk)):Bool:=us.all fun r=>r.nw.all fun nm=>fr.all (fun e=>!x8 nm e.2)&&own.all fun e=>!Fo nm e.2
def Rt{m:Nat}{r:Rc}: ∀{l:List Rc} {k:Nat},CJ m r k l=true-> ∀j u,l[j]? =some u->((n0 u r=true\/n0 r u=true\/ ∃nm∈u.nw,qn r nm=true)->m.testBit (k+j)=true)/\ ∀nm∈r.nw,qn u nm=false
 |[],k,_,j,u,h=>by simp at h
 |x::t,k,h,j,u,hj=>by
  simp only[CJ,bR,gS,iK] at h;obtain⟨⟨h1,h2⟩,h3⟩:=h
  cases j with
  |zero=>
   simp at hj;subst hj;refine⟨fun hh=>?_,fun nm hn=>by have:=qV.1 h2 nm hn;simpa using this⟩;rcases h1 with h1|h1
   .simp only[mJ] at h1
    rcases hh with hh|hh|⟨nm,hn,hh⟩
    .rw[h1.1.1] at hh;cases hh
    .rw[h1.1.2] at hh;cases hh
    .have:=qV.1 h1.2 nm hn;exact absurd hh this
   .simpa using h1
  |succ j=>
   have:=Rt h3 j u omK;rwa [show k+(j+1)=k+1+j by omega]
def L6: ∀{ms:List Nat} {pre t:List Rc},wQ ms pre t=true-> ∀i r,t[i]? =some r-> ∀j u,(pre++t)[j]? =some u->j<pre.length+i->((n0 u r=true\/n0 r u=true\/ ∃nm∈u.nw,qn r nm=true)->(ms.getD i 0).testBit j=true)/\ ∀nm∈r.nw,qn u nm=false
 |[],pre,[],_,i,r,h=>by simp at h
 |_::_,pre,[],_,i,r,h=>by simp at h
 |[],pre,_::_,h,i,r,_=>by simp[wQ] at h
 |m::ms,pre,x::t,h,i,r,hi=>by
  simp only[wQ,bR] at h;intro j u hj hlt
  cases i with
  |zero=>
   simp at hi;subst hi;rw[fS m5] at hj;simpa using Rt h.1 j u hj
  |succ i=>
   have:=L6 h.2 i r omI j u omK omg;simpa using this
def tB: ∀{l:List Oper} {k:Nat},oq k l=true-> ∀i o,l[i]? =some o-> ∀e∈o.after,Region.binds .any e=true->e.on<k+i
 |[],k,_,i,o,h=>by simp at h
 |x::t,k,h,i,o,hi=>by
  simp only[oq,bR] at h;intro e he hb
  cases i with
  |zero=>
   simp at hi;subst hi;have:=Array.all_eq_true_iff_forall_mem.1 h.1 e he;simpa[hb] using this
  |succ i=>have:=tB h.2 i o omI e he hb;omega
def wO(rd:Option Nat)(P:Program)(ops:Array Oper)(Q:Exit->Act->World->Prop)(o:Oper)(K:Act->World->Prop)(a:Act)(w:World):Prop:=
 if Region.wanted o (yielded ops a.tmps) then o.wpIn (FW rd) 0 P a w K Q else K (a.put o.dst undef) w
section
variable {ops:Array Oper}
def vV(P:Program)(GB:Gh)(C:aG)(n:Nat)(ops:Array Oper)(lk:LK)(bk:BM)(o:Oper)(f:FX)(bl:List (Nat×Option Bk))(nw:List Nat):Prop:=
 ∀(Q:Exit->Act->World->Prop) (tl:LK) (tb:BM) (K:Act->World->Prop),ll lk tl->ll bk tb->kH nw o.dst tl tb->SX GB C n (fq tl o.dst f) (upB tb bl) K->SX GB C n tl tb (wO C.rd P ops Q o K)
def SX.drew{lk:LK}{bk:BM}{Φ:Act->World->Prop}(h:SX GB C n lk bk Φ):SX GB C n lk bk (fun a w=>Φ a {w with drawn:=w.drawn+1}):=
 ⟨fun ρ G ov a w r=>h.run ρ G ov a _ ⟨r.gb,r.h.drew,r.sz,r.df,r.fx,r.bx,r.dj,r.fxd⟩⟩
structure kl (P:Program) (GB:Gh) (C:aG) (n:Nat) (ops:Array Oper) (us:List Rc) (s0:ST):Prop where
 len:us.length=ops.size
 snd: ∀i r o,us[i]? =some r->ops[i]? =some o->o.dst=r.d/\vV P GB C n ops (mE r.rs (cG (fun j=>decide (j<i)) 0 s0 us).1) (mE r.rn (cG (fun j=>decide (j<i)) 0 s0 us).2) o r.f r.bl r.nw
 all:wQ (qO ops.toList []) [] us=true
 edge:oq 0 ops.toList=true
 fr0: ∀r∈us,∀nm∈r.nw,(∀k f,s0.1 k=some f->f.nm≠some nm)/\ ∀k B,s0.2 k=some B-> ¬B.men nm
def AR{o:Option Nat}{k:Nat}:Ac o k=true↔o=some k:=by cases o<;>simp[Ac]
def F1{B:Bk}(h:B.men nm):Fo nm (some B)=true:=by
 cases B with
 |o ty cs lo=>obtain⟨f,hf,e⟩:=h;exact iU.2 ⟨f,hf,AR.2 e⟩
 |b=>cases h
 |c=>cases h
def eH(listed:Array Bool):Nat->Bool:=fun j=>listed.getD j false
def un(ops:Array Oper)(listed:Array Bool):Nat:=((List.range ops.size).filter fun j=>!listed.getD j true).length
def Rz{α:Type}{p q:α->Bool}{x:α}: ∀{l:List α},x∈l->(∀y,q y=true->p y=true)->p x=true->q x=false->(l.filter q).length<(l.filter p).length
 |[],h,_,_,_=>by cases h
 |y::t,h,hpq,h1,h2=>by
  have le: ∀l:List α,(l.filter q).length<=(l.filter p).length:=fun l=>by
   induction l with
   |nil=>exact bW _
   |cons z l ih=>
    simp only[List.filter_cons]
    cases hq:q z with
    |true=>simp[hpq z hq];omega
    |false=>cases hp:p z<;>simp<;>omega
  rcases aV.1 h with rfl|h
  .simp only[List.filter_cons,h1,h2,if_true];have:=le t;simp;omega
  .have ih:=Rz h hpq h1 h2
   simp only[List.filter_cons]
   cases hq:q y with
   |true=>simp[hpq y hq];omega
   |false=>cases hp:p y<;>simp<;>omega
theorem oko{p:Prop}(h:p:=by simpa using ho):p:=h
def kl.walk{us:List Rc}{s0:ST}(D:kl P GB C n ops us s0)(hk:SX GB C n (cG (fun _=>true) 0 s0 us).1 (cG (fun _=>true) 0 s0 us).2 (Q .normal)):
  ∀(fuel:Nat) (listed:Array Bool),listed.size=ops.size->(∀i o,ops[i]? =some o->eH listed i=true-> ∀e∈o.after,Region.binds .any e=true->eH listed e.on=true)->un ops listed<=fuel->
   SX GB C n (cG (eH listed) 0 s0 us).1 (cG (eH listed) 0 s0 us).2 (wpAnyIn (FW C.rd) 0 P .any ops Q fuel listed):=by
 -- what comes before something listed is listed
 have clo: ∀listed:Array Bool,(∀i o,ops[i]? =some o->eH listed i=true-> ∀e∈o.after,Region.binds .any e=true->eH listed e.on=true)-> ∀i j,Bf ops.toList i j->eH listed i=true->eH listed j=true:=by
  intro listed hc i j hb
  induction hb with
  |b ho he hb=>intro hi;exact hc _ _ oko hi _ he hb
  |s ho he hb _ ih=>intro hi;exact ih (hc _ _ oko hi _ he hb)
 have bf: ∀i j,((qO ops.toList []).getD i 0).testBit j=true->Bf ops.toList i j:=Ju ops.toList [] [] J J (fun i j h=>by simp at h);have spec: ∀i r,us[i]? =some r-> ∀j u,us[j]? =some u->j<i->((n0 u r=true\/n0 r u=true\/ ∃nm∈u.nw,qn r nm=true)->Bf ops.toList i j)/\ ∀nm∈r.nw,qn u nm=false:=fun i r hi j u hj hlt=>by
  have:=L6 D.all i r hi j u omK (by simpa using hlt);exact⟨fun h=>bf _ _ (this.1 h),this.2⟩
 have done: ∀listed:Array Bool,listed.size=ops.size->Region.ready .any ops listed=[]-> ∀i,i<ops.size->eH listed i=true:=by
  intro listed hsz hr i
  induction i using Nat.strongRecOn with
  |ind i ih=>
   intro hi
   cases hl:listed.getD i true with
   |true=>unfold eH;simp only[cY] at hl⊢;rw[gN m5] at hl⊢;simpa using hl
   |false=>
    have:i∈Region.ready .any ops listed:=mem_ready.2 ⟨hl,ops[i],gN hi,fun e he hb=>by
     have hlt:=tB D.edge i ops[i] (by simp[hi]) e he hb;exact ih e.on m5 m5⟩
    rw[hr] at this;cases this
 have same: ∀listed:Array Bool,listed.size=ops.size->(∀i,i<ops.size->eH listed i=true)->(cG (eH listed) 0 s0 us).1=(cG (fun _=>true) 0 s0 us).1/\(cG (eH listed) 0 s0 us).2=(cG (fun _=>true) 0 s0 us).2:=by
  intro listed hsz h;refine⟨funext fun x=>Bg J fun j r hj _=>?_,funext fun x=>zQ J fun j r hj _=>?_⟩<;>
  .rw[eM];exact h j (by have:=(aS.1 hj).1;rw[D.len] at this;exact this)
 intro fuel
 induction fuel with
 |zero=>
  intro listed hsz hc hu;have all: ∀i,i<ops.size->eH listed i=true:=fun i hi=>by
   cases hl:listed.getD i true with
   |true=>unfold eH;simp only[cY] at hl⊢;rw[gN m5] at hl⊢;simpa using hl
   |false=>
    have h0:=List.length_eq_zero_iff.1 (Nat.le_zero.1 hu);have:=List.filter_eq_nil_iff.1 h0 i (jU.2 hi);simp[hl] at this
  obtain⟨e1,e2⟩:=same listed hsz all;rw[e1,e2];refine hk.imp fun a w h=>⟨?_,h⟩;refine List.eq_nil_iff_forall_not_mem.2 fun i hi=>?_;obtain⟨h1,o,ho,_⟩:=mem_ready.1 hi;have hlt:=(fM.1 ho).1;have h2:=all i hlt;unfold eH at h2;simp only[cY] at h1 h2;rw[gN m5] at h1 h2;simp at h1 h2;rw[h1] at h2;cases h2
 |succ fuel ih=>
  intro listed hsz hc hu;refine⟨fun ρ G ov a w r=>⟨fun hr=>?_,fun i hi=>?_⟩⟩
  .obtain⟨e1,e2⟩:=same listed hsz (done listed hsz hr)
   rw[e1,e2] at r;exact hk.run ρ G ov a w r
  .obtain⟨h1,o,ho,hall⟩:=mem_ready.1 hi
   have hlt:=(fM.1 ho).1;have hli:eH listed i=false:=by
    unfold eH;simp only[cY] at h1⊢;rw[gN m5] at h1⊢;simpa using h1
   obtain⟨u,hui⟩: ∃u,us[i]? =some u:=⟨us[i]'(by rw[D.len];exact hlt),aZ _⟩;obtain⟨hd,hop⟩:=D.snd i u o hui ho;have bl: ∀j,Bf ops.toList i j->eH listed j=true:=fun j hb=>by
    cases hb with
    |b ho' he hb=>rw[qX,ho] at ho';cases ho';exact hall _ he hb
    |s ho' he hb h=>rw[qX,ho] at ho';cases ho';exact clo listed hc _ _ h (hall _ he hb)
   have nb: ∀j r,us[j]? =some r->(n0 r u=true\/n0 u r=true)->decide (j<i)=eH listed j:=fun j r hj hh=>by
    rcases qK j i with h|h|h
    .rw[bl j ((spec i u hui j r hj h).1 (hh.imp id .inl))];simpa using h
    .subst h;rw[hli];simp
    .cases hl:eH listed j with
     |false=>simp;omega
     |true=>have:=clo listed hc j i ((spec j r hj i u hui h).1 (hh.symm.imp id .inl)) hl;rw[hli] at this;cases this
   have sz':(listed.setIfInBounds i true).size=ops.size:=by simpa using hsz
   have l': ∀j,j≠i->eH (listed.setIfInBounds i true) j=eH listed j:=fun j hj=>by unfold eH;rw[getD_set_ne false (Ne.symm hj)]
   have li':eH (listed.setIfInBounds i true) i=true:=by unfold eH;simp[hsz,hlt]
   have hc': ∀j o',ops[j]? =some o'->eH (listed.setIfInBounds i true) j=true-> ∀e∈o'.after,Region.binds .any e=true->eH (listed.setIfInBounds i true) e.on=true:=fun j o' hj hlj e he hb=>by
    by_cases hji:j=i
    .subst hji;rw[ho] at hj;cases hj
     exact getD_set_true (hall e he hb)
    .rw[l' j hji] at hlj
     exact getD_set_true (hc j o' hj hlj e he hb)
   have hu':un ops (listed.setIfInBounds i true)<=fuel:=by
    have:un ops (listed.setIfInBounds i true)<un ops listed:=by
     refine Rz (x:=i) (jU.2 hlt) (fun y hy=>?_) (by simp[h1]) (by simp[hsz,hlt]);by_cases hyi:y=i
     .subst hyi;simp[hsz,hlt] at hy
     .rwa [getD_set_ne true (Ne.symm hyi)] at hy
    omega
   have next:=ih _ sz' hc' hu'
   have e1:(cG (eH (listed.setIfInBounds i true)) 0 s0 us).1=fq (cG (eH listed) 0 s0 us).1 o.dst u.f:=by
    funext x;rw[hd];by_cases hx:u.d=some x
    .-- i is the last to write x
     have key: ∀(us':List Rc) (k:Nat) (s:ST) (p:Nat->Bool) (m:Nat),us'[m]? =some u->p (k+m)=true->(∀j r,us'[j]? =some r->r.d=some x->j≠m->j<m\/p (k+j)=false)->(cG p k s us').1 x=some u.f:=by
      intro us'
      induction us' with
      |nil=>intro k s p m h;simp at h
      |cons r t iht=>
       intro k s p m h hp hj;simp only[cG]
       cases m with
       |zero=>
        simp at h;subst h;rw[gQ] at hp;rw[hp];have:(cG p (k+1) (r.ap s) t).1 x=(cG (fun _=>false) (k+1) (r.ap s) t).1 x:=Bg J fun j r' hj' hd'=>by
         have:=hj (j+1) r' omE hd' m5;rw[show k+(j+1)=k+1+j by omega] at this;exact this.resolve_left m5
        simp only[if_true,this];have nosel: ∀(l:List Rc) (k:Nat) (s:ST),cG (fun _=>false) k s l=s:=fun l=>by
         induction l with
         |nil=>intro k s;rfl
         |cons y l ih=>intro k s;exact ih _ _
        rw[nosel];simp[Rc.ap,fq,hx]
       |succ m=>
        refine iht _ _ p m omv (by rw[show k+1+m=k+(m+1) by omega];exact hp) fun j r' hj' hd' hne=>?_;have:=hj (j+1) r' omE hd' m5;rw[show k+1+j=k+(j+1) by omega];exact this.imp (fun h=>by omega) id
     rw[key us 0 s0 _ i hui (by rw[eM];exact li') fun j r hj hdr hne=>?_]
     .rw[hx];simp[fq]
     .rw[eM,l' j hne]
      have:=nb j r hj (.inl (by simp[n0,hdr,hx,Ac]));rw[<-this];by_cases hji:j<i
      .exact .inl hji
      .exact .inr (by simpa using hji)
    .rw[JA hx]
     refine Bg J fun j r hj hdr=>?_;rw[eM];exact l' j fun e=>by subst e;rw[hui] at hj;cases hj;exact hx hdr
   have e2:(cG (eH (listed.setIfInBounds i true)) 0 s0 us).2=upB (cG (eH listed) 0 s0 us).2 u.bl:=by
    funext x;by_cases hx: ∃e∈u.bl,e.1=x
    .have key: ∀(us':List Rc) (k:Nat) (s s':ST) (p q:Nat->Bool) (m:Nat),us'[m]? =some u->p (k+m)=true->(∀j r,us'[j]? =some r->(∃e∈r.bl,e.1=x)->j≠m->q (k+j)=p (k+j)/\(j<m\/p (k+j)=false))->q (k+m)=false->s.2 x=s'.2 x->(cG p k s us').2 x=upB (cG q k s' us').2 u.bl x:=by
      intro us'
      induction us' with
      |nil=>intro k s s' p q m h;simp at h
      |cons r t iht=>
       intro k s s' p q m h hp hj hq hs;simp only[cG]
       cases m with
       |zero=>
        simp at h;subst h;rw[gQ] at hp hq;rw[hp,hq];have nosel: ∀(l:List Rc) (k:Nat) (s:ST),cG (fun _=>false) k s l=s:=fun l=>by
         induction l with
         |nil=>intro k s;rfl
         |cons y l ih=>intro k s;exact ih _ _
        have a1:(cG p (k+1) (r.ap s) t).2 x=(cG (fun _=>false) (k+1) (r.ap s) t).2 x:=zQ J fun j r' hj' hd'=>by
         have:=(hj (j+1) r' omE hd' m5).2;rw[show k+(j+1)=k+1+j by omega] at this;exact this.resolve_left m5
        have a2:(cG q (k+1) s' t).2 x=(cG (fun _=>false) (k+1) s' t).2 x:=zQ J fun j r' hj' hd'=>by
         obtain⟨h3,h4⟩:=hj (j+1) r' omE hd' m5;rw[show k+(j+1)=k+1+j by omega] at h3 h4;rw[h3];exact h4.resolve_left m5
        simp only[if_true,kW,if_false,a1,nosel];exact DR fun _=>by rw[a2,nosel];exact hs
       |succ m=>
        refine iht _ _ _ p q m omv (by rw[show k+1+m=k+(m+1) by omega];exact hp) (fun j r' hj' hd' hne=>?_) (by rw[show k+1+m=k+(m+1) by omega];exact hq) ?_
        .obtain⟨h3,h4⟩:=hj (j+1) r' omE hd' m5
         rw[show k+1+j=k+(j+1) by omega];exact⟨h3,h4.imp (fun h=>by omega) id⟩
        .by_cases hr: ∃e∈r.bl,e.1=x
         .have:=(hj 0 r J hr m5).1
          rw[gQ] at this;rw[this]
          cases p k
          .exact hs
          .exact DR fun _=>hs
         .have: ∀(b:Bool) (s:ST),(if b then r.ap s else s).2 x=s.2 x:=fun b s=>by
           cases b
           .rfl
           .exact E4 fun e he hc=>hr ⟨e,he,hc⟩
          rw[this,this];exact hs
     refine key us 0 s0 s0 _ _ i hui (by rw[eM];exact li') (fun j r hj hdr hne=>?_) (by rw[eM];exact hli) J;rw[eM];refine⟨(l' j hne).symm,?_⟩;rw[l' j hne];obtain⟨e,he,rfl⟩:=hx;obtain⟨e',he',hee⟩:=hdr;have hh:n0 u r=true:=by
      unfold n0;rw[gS];exact .inr (iU.2 ⟨e,he,by rw[gS];exact .inr (iU.2 ⟨e',he',by simpa using hee⟩)⟩)
     rw[<-nb j r hj (.inr hh)];by_cases hji:j<i
     .exact .inl hji
     .exact .inr (by simpa using hji)
    .rw[E4 fun e he hc=>hx ⟨e,he,hc⟩]
     refine zQ J fun j r hj hdr=>?_;rw[eM];exact l' j fun e=>by subst e;rw[hui] at hj;cases hj;exact hx hdr
   rw[e1,e2] at next
   have sub1:ll (mE u.rs (cG (fun j=>decide (j<i)) 0 s0 us).1) (cG (eH listed) 0 s0 us).1:=fun x f hx=>by
    unfold mE at hx
    cases hm:xd u.rs x with
    |false=>rw[hm] at hx;cases hx
    |true=>
     rw[hm,cond_true] at hx;rw[<-hx];refine(Bg J fun j r hj hdr=>?_).symm;rw[eM];exact nb j r hj (.inl (by simp[n0,hdr,hm]))
   have Dt:ll (mE u.rn (cG (fun j=>decide (j<i)) 0 s0 us).2) (cG (eH listed) 0 s0 us).2:=fun x B hx=>by
    unfold mE at hx
    cases hm:xd u.rn x with
    |false=>rw[hm] at hx;cases hx
    |true=>
     rw[hm,cond_true] at hx;rw[<-hx];refine(zQ J fun j r hj hdr=>?_).symm;rw[eM];obtain⟨e,he,rfl⟩:=hdr;refine nb j r hj (.inl ?_);unfold n0;rw[gS];exact .inr (iU.2 ⟨e,he,by rw[hm];rfl⟩)
   have fr:kH u.nw o.dst (cG (eH listed) 0 s0 us).1 (cG (eH listed) 0 s0 us).2:=fun nm hnm=>by
    obtain⟨g1,g2⟩:=D.fr0 u (aW hui) nm hnm;have men: ∀j r,us[j]? =some r->eH listed j=true->qn r nm=false:=fun j r hj hlj=>by
     rcases qK j i with h|h|h
     .exact(spec i u hui j r hj h).2 nm hnm
     .subst h;rw[hli] at hlj;cases hlj
     .cases hm:qn r nm with
      |false=>rfl
      |true=>have:=clo listed hc j i ((spec j r hj i u hui h).1 (.inr (.inr ⟨nm,hnm,hm⟩))) hlj;rw[hli] at this;cases this
    refine⟨fun k f hk e=>?_,fun k B hk e hm=>?_⟩
    .intro hc'
     rcases Ua e with h|⟨j,r,h1,h2,h3,h4⟩
     .exact g1 k f h hc'
     .have:=men j r h1 (by simpa using h2)
      simp only[qn,mJ,x8] at this;rw[h4,AR.2 hc'] at this
      cases this.1
    .rcases PS e with h|⟨j,r,h1,h2,h3⟩
     .exact g2 k B h hm
     .have:=men j r h1 (by simpa using h2)
      simp only[qn,mJ] at this;have:=qV.1 this.2 _ h3;exact this (F1 hm)
   have fin:=hop Q _ _ _ sub1 Dt fr next
   have:=fin.run ρ G ov a w r;unfold wO at this;unfold wpOpIn;rw[ho];simp only;split
   .rename_i hw;rw[if_pos hw] at this;exact this
   .rename_i hw;rw[if_neg hw] at this;exact⟨fun _ _=>trivial,this⟩
def ES(m k:Nat):eH (Array.replicate m false) k=false:=by unfold eH;simp[rU];split<;>rfl
def kl.region{us:List Rc}{s0:ST}{id:Nat}(D:kl P GB C n ops us s0)(hm:P.follows .mixedOrders=true)(hk:SX GB C n (cG (fun _=>true) 0 s0 us).1 (cG (fun _=>true) 0 s0 us).2 (Q .normal)):SX GB C n s0.1 s0.2 (i5 C.rd P (.region id ops true) Q):=by
 have h:=D.walk hk ops.size (Array.replicate ops.size false) vb (fun i o _ hi=>by rw[ES] at hi;cases hi) (by unfold un;exact dZ (qJ _ _) vb);have e:cG (eH (Array.replicate ops.size false)) 0 s0 us=s0:=by
  have: ∀(l:List Rc) (k:Nat) (s:ST),cG (eH (Array.replicate ops.size false)) k s l=s:=fun l=>by
   induction l with
   |nil=>intro k s;rfl
   |cons y l ih=>
    intro k s;simp only[cG];rw[ih];rw[ES];rfl
  exact this us 0 s0
 rw[e] at h;exact h.drew.imp fun a w k=>wpIn_region_any hm k
end
abbrev aD:=List (Nat×FX)
abbrev aI:=List (Nat×Option Bk)
def bi:aD->Nat->Option FX
 |[],_=>none
 |(k,v)::t,j=>bif Nat.beq k j then some v else bi t j
def bA:aI->Nat->Option Bk
 |[],_=>none
 |(k,v)::t,j=>bif Nat.beq k j then v else bA t j
def xW{α:Type}:aI->Nat->Option Bk->(aI->α)->α
 |[],nm,B,k=>k [(nm,B)]
 |(j,v)::t,nm,B,k=>bif Nat.beq j nm then k ((nm,B)::t) else xW t nm B fun t'=>k ((j,v)::t')
def s5{α:Type}:aI->List (Nat×Option Bk)->(aI->α)->α
 |own,[],k=>k own
 |own,(nm,B)::t,k=>xW own nm B fun own'=>s5 own' t k
def pi(own:aI)(nm:Nat)(B:Option Bk):aI:=xW own nm B id
def vE(own:aI)(l:List (Nat×Option Bk)):aI:=s5 own l id
def yS{α:Type}{nm:Nat}{B:Option Bk}: ∀{own:aI} {k:aI->α},xW own nm B k=k (pi own nm B)
 |[],k=>rfl
 |(j,v)::t,k=>by
  unfold pi xW
  cases Nat.beq j nm with
  |true=>rfl
  |false=>rw[cond_false,cond_false,yS (own:=t),yS (own:=t)];rfl
def xL{α:Type}: ∀{l:List (Nat×Option Bk)} {own:aI} {k:aI->α},s5 own l k=k (vE own l)
 |[],own,k=>rfl
 |(nm,B)::t,own,k=>by
  unfold vE s5;rw[yS,yS,xL (l:=t),xL (l:=t)];rfl
def li(k:Nat)(v:FX)(t:aD)(j:Nat):bi ((k,v)::t) j=if j=k then some v else bi t j:=by
 simp only[bi];by_cases h:k=j
 .simp[h]
 .have:Nat.beq k j=false:=by
   cases hb:Nat.beq k j with
   |false=>rfl
   |true=>exact absurd (bQ hb) h
  simp[this,Ne.symm h]
def km(k:Nat)(v:Option Bk)(t:aI)(j:Nat):bA ((k,v)::t) j=if j=k then v else bA t j:=by
 simp only[bA];by_cases h:k=j
 .simp[h]
 .have:Nat.beq k j=false:=by
   cases hb:Nat.beq k j with
   |false=>rfl
   |true=>exact absurd (bQ hb) h
  simp[this,Ne.symm h]
def Au{nm:Nat}{B:Option Bk}(j:Nat): ∀own:aI,bA (pi own nm B) j=if j=nm then B else bA own j
 |[]=>km nm B [] j
 |(k,v)::t=>by
  have ih:=Au (nm:=nm) (B:=B) j t;unfold pi xW
  cases hb:Nat.beq k nm with
  |true=>
   have e:=bQ hb;subst e;rw[cond_true,id,km,km];by_cases h:j=k<;>simp[h]
  |false=>
   have hne:k≠nm:=fun e=>by subst e;simp at hb
   rw[cond_false,yS,id,km,km,ih];by_cases h:j=k
   .subst h;simp[hne]
   .simp[h]
def CX: ∀(l:List (Nat×Option Bk)) (own:aI),bA (vE own l)=upB (bA own) l
 |[],own=>rfl
 |(nm,B)::t,own=>by
  have:vE own ((nm,B)::t)=vE (pi own nm B) t:=by rw[vE,s5,yS];rfl
  rw[this,CX t];simp only[upB];congr 1;funext j;exact Au j own
def FE(fr:aD)(dst:Option Nat)(f:FX):aD:=match dst with
 |some d=>(d,f)::fr
 |none=>fr
def GQ{fr:aD}{f:FX}:bi (FE fr dst f)=fq (bi fr) dst f:=by
 cases dst with
 |none=>rfl
 |some d=>funext j;exact li d f fr j
def zr(T:TT)(n:Nat)(ops:Array Oper)(lk:LK)(bk:BM):Oper->Option CR
 |⟨dst,op,_,_,_,gd⟩=>bif cv n dst then(match gd with
  |none=>Aj T lk bk dst op
  |some (j,b)=>match ops[j]? with
   |some oj=>match oj.dst with
    |some d=>match lk d with
     |some .tt=>bif b then Aj T lk bk dst op else some ⟨none, .un,[],[]⟩
     |some .ff=>bif b then some ⟨none, .un,[],[]⟩ else Aj T lk bk dst op
     |some .un=>some ⟨none, .un,[],[]⟩
     |_=>none
    |none=>none
   |none=>none) else none
section
variable {ops:Array Oper}
def cg.toS{op:Op}{gd:Option (Nat×Bool)}{f:FX}{bl:List (Nat×Option Bk)}{nw:List Nat}(h:cg P GB C n lk bk ⟨dst,op,ty,pos,af,gd⟩ f bl nw)(hd:cv n dst=true)
  (hw: ∀ρ G ov a w,ce GB C n lk bk ρ G ov a w->Region.wanted ⟨dst,op,ty,pos,af,gd⟩ (yielded ops a.tmps)=true):vV P GB C n ops lk bk ⟨dst,op,ty,pos,af,gd⟩ f bl nw:=by
 intro Q tl tb K s1 s2 hf hk;have:=h hd tl tb (fun a w=>a.defers=C.mks/\K a w) s1 s2 hf ⟨fun ρ G ov a w r=>⟨r.df,hk.run ρ G ov a w r⟩⟩;refine⟨fun ρ G ov a w r=>?_⟩;unfold wO;rw[if_pos (hw ρ G ov a w (r.mono s1 s2))];exact F8 (this.run ρ G ov a w r) fun a' w' k=>⟨k.1.trans r.df.symm,k.2⟩
def vV.skip{op:Op}{gd:Option (Nat×Bool)}(hd:cv n dst=true)
  (hw: ∀ρ G ov a w,ce GB C n lk bk ρ G ov a w->Region.wanted ⟨dst,op,ty,pos,af,gd⟩ (yielded ops a.tmps)=false):vV P GB C n ops lk bk ⟨dst,op,ty,pos,af,gd⟩ .un [] []:=by
 intro Q tl tb K s1 s2 hf hk;refine⟨fun ρ G ov a w r=>?_⟩;unfold wO;rw[hw ρ G ov a w (r.mono s1 s2)];exact hk.run ρ G ov _ w (r.put J (r.putA undef hd))
def A7(r:ce GB C n lk bk ρ G ov a w){j d:Nat}{f:FX}(hj:ops[j]? =some oj)(hd:oj.dst=some d)(hf:lk d=some f): ∃y,cp ρ G f y/\yielded ops a.tmps j=match y with| .bool b=>some b|_=>none:=by
 obtain⟨y,h1,h2⟩:=r.fx d f hf;refine⟨y,h2,?_⟩;unfold yielded;rw[hj];simp only[Option.bind_some,hd,h1]
 cases y<;>rfl
def Mw{r:CR}(hT:n7 P T)(h:zr T n ops lk bk o=some r)(hv: ∀p,r.vc=some p->p):vV P GB C n ops lk bk o r.f r.bl r.nw/\cv n o.dst=true:=by
 obtain⟨dst,op,ty,pos,af,gd⟩:=o;simp only[zr] at h
 cases hd:cv n dst with
 |false=>rw[hd] at h;cases h
 |true=>
  rw[hd,cond_true] at h;refine⟨?_,J⟩;split at h
  .exact(Ad hT h hv).toS hd fun _ _ _ _ _ _=>J
  .rename_i j b
   split at h<;>try (cases h;done)
   rename_i oj hj;split at h<;>try (cases h;done)
   rename_i d hdj;split at h<;>try (cases h;done)
   .rename_i hl
    have wt: ∀ρ G ov (a:Act) w,ce GB C n lk bk ρ G ov a w->Region.wanted ⟨dst,op,ty,pos,af,some (j,b)⟩ (yielded ops a.tmps)=b:=fun ρ G ov a w r=>by
     obtain⟨y,h1,h2⟩:=A7 r hj hdj hl
     cases h1
     simp only[Region.wanted,h2];cases b<;>rfl
    cases b with
    |true=>exact(Ad hT h hv).toS hd wt
    |false=>cases h;exact .skip hd wt
   .rename_i hl
    have wt: ∀ρ G ov (a:Act) w,ce GB C n lk bk ρ G ov a w->Region.wanted ⟨dst,op,ty,pos,af,some (j,b)⟩ (yielded ops a.tmps)=!b:=fun ρ G ov a w r=>by
     obtain⟨y,h1,h2⟩:=A7 r hj hdj hl
     cases h1
     simp only[Region.wanted,h2];cases b<;>rfl
    cases b with
    |true=>cases h;exact .skip hd wt
    |false=>exact(Ad hT h hv).toS hd wt
   .rename_i hl
    cases h
    refine .skip hd fun ρ G ov a w r=>?_;obtain⟨y,h1,h2⟩:=A7 r hj hdj hl
    cases h1
    simp only[Region.wanted,h2];rfl
end
inductive Kt where
 |sq (c:Code)
 |bl (id:Nat)
 |sc
 |ag (A:Act->World->Prop)
def cQ(rd:Option Nat)(P:Program)(Q0:Exit->Act->World->Prop):List Kt->Exit->Act->World->Prop
 |[]=>Q0
 | .sq y::K=>Exit.then (i5 rd P y (cQ rd P Q0 K)) (cQ rd P Q0 K)
 | .bl id::K=>Exit.inBlock id (cQ rd P Q0 K)
 | .sc::K=>Exit.noGoto (cQ rd P Q0 K)
 | .ag A::K=>Exit.then A (cQ rd P Q0 K)
inductive Cf where
 |code (c:Code) (K:List Kt)
 |ops (ops:Array Oper) (r:List Oper) (K:List Kt)
 |dr (id:Nat) (ops:Array Oper) (fr0:aD) (own0:aI) (us:List Rc) (r:List Oper) (K:List Kt)
 |ex (e:Exit) (K:List Kt)
structure zB (P:Program) (GB:Gh) (C:aG) (n:Nat) (ops:Array Oper) (fr0:aD) (own0:aI) (us:List Rc) (r:List Oper) (fr:aD) (own:aI):Prop where
 pre: ∃pre,ops.toList=pre++r/\pre.length=us.length
 st:cG (fun _=>true) 0 (bi fr0,bA own0) us=(bi fr,bA own)
 snd: ∀i u o,us[i]? =some u->ops[i]? =some o->o.dst=u.d/\vV P GB C n ops (mE u.rs (cG (fun j=>decide (j<i)) 0 (bi fr0,bA own0) us).1) (mE u.rn (cG (fun j=>decide (j<i)) 0 (bi fr0,bA own0) us).2) o u.f u.bl u.nw
def av(P:Program)(GB:Gh)(C:aG)(n:Nat)(Q0:Exit->Act->World->Prop)(fr:aD)(own:aI):Cf->Prop
 | .code c K=>SX GB C n (bi fr) (bA own) (i5 C.rd P c (cQ C.rd P Q0 K))
 | .ops ops r K=>SX GB C n (bi fr) (bA own) (wpListIn (FW C.rd) 0 P ops (cQ C.rd P Q0 K) r)
 | .dr id ops fr0 own0 us r K=>zB P GB C n ops fr0 own0 us r fr own->SX GB C n (bi fr0) (bA own0) (i5 C.rd P (.region id ops true) (cQ C.rd P Q0 K))
 | .ex e K=>SX GB C n (bi fr) (bA own) (cQ C.rd P Q0 K e)
structure zL where
 vc:List Prop
 fr:aD
 own:aI
 cf:Cf
def acc(v:Option Prop)(l:List Prop):List Prop:=match v with
 |some p=>p::l
 |none=>l
def Jg(v:Option Prop)(l:List Prop)(k:List Prop->α):α:=match v with
 |some p=>k (p::l)
 |none=>k l
def Ob{k:List Prop->α}:Jg v l k=k (acc v l):=by cases v<;>rfl
def zG(fr:aD)(dst:Option Nat)(f:FX)(k:aD->α):α:=match dst with
 |some d=>k ((d,f)::fr)
 |none=>k fr
def BR{fr:aD}{f:FX}{k:aD->α}:zG fr dst f k=k (FE fr dst f):=by cases dst<;>rfl
def wB(nw:List Nat)(dst:Option Nat)(fr:aD)(own:aI):Bool:=nw.all fun nm=>fr.all (fun e=>Ac dst e.1||!x8 nm e.2)&&own.all fun e=>Nat.beq e.1 nm||!Fo nm e.2
def yH:List Operand->List Nat
 |[]=>[]
 | .tmp t::r=>t::yH r
 |_::r=>yH r
def Eo(fr:aD):List Nat->List Nat
 |[]=>[]
 |t::r=>match bi fr t with
  |some f=>match f.nm with
   |some nm=>nm::Eo fr r
   |none=>Eo fr r
  |none=>Eo fr r
def C4(o:Oper)(fr:aD)(rs:List Nat):List Nat:=match o.op with
 | .move _=>[]
 |_=>Eo fr rs
def Cm(ops:Array Oper)(o:Oper):List Nat:=match o.guard with
 |some (j,_)=>match ops[j]? with
  |some oj=>match oj.dst with
   |some d=>d::yH o.op.operands.toList
   |none=>yH o.op.operands.toList
  |none=>yH o.op.operands.toList
 |none=>yH o.op.operands.toList
def go(T:TT)(n:Nat):Nat->List Prop->aD->aI->Cf->zL
 |0,l,fr,own,cf=>⟨l,fr,own,cf⟩
 |k+1,l,fr,own, .code c K=>match c with
  | .seq x y=>go T n k l fr own (.code x (.sq y::K))
  | .region id ops d=>bif d then go T n k l fr own (.dr id ops fr own [] ops.toList K) else go T n k l fr own (.ops ops ops.toList K)
  | .skip=>go T n k l fr own (.ex .normal K)
  | .ret=>go T n k l fr own (.ex .ret K)
  | .exit id=>go T n k l fr own (.ex (.exit id) K)
  | .block id c=>go T n k l fr own (.code c (.bl id::K))
  | .scope c=>go T n k l fr own (.code c (.sc::K))
  | .label _=>go T n k l fr own (.ex .normal K)
  | .cond c x y=>match aP (bi fr) c with
   |some .tt=>go T n k l fr own (.code x K)
   |some .ff=>go T n k l fr own (.code y K)
   |_=>⟨l,fr,own, .code (.cond c x y) K⟩
  |c=>⟨l,fr,own, .code c K⟩
 |k+1,l,fr,own, .ex e K=>match K with
  | .sq y::K'=>match e with
   | .normal=>go T n k l fr own (.code y K')
   |e=>go T n k l fr own (.ex e K')
  | .bl id::K'=>match e with
   | .exit j=>bif Nat.beq j id then go T n k l fr own (.ex .normal K') else go T n k l fr own (.ex (.exit j) K')
   |e=>go T n k l fr own (.ex e K')
  | .sc::K'=>bif M' e then go T n k l fr own (.ex e K') else⟨l,fr,own, .ex e (.sc::K')⟩
  | .ag A::K'=>match e with
   | .normal=>⟨l,fr,own, .ex .normal (.ag A::K')⟩
   |e=>go T n k l fr own (.ex e K')
  |[]=>⟨l,fr,own, .ex e []⟩
 |k+1,l,fr,own, .ops ops r K=>match r with
  |[]=>go T n k l fr own (.ex .normal K)
  |o::r'=>match zr T n ops (bi fr) (bA own) o with
   |some ⟨v,f,bl,nw⟩=>bif wB nw o.dst fr own then s5 own bl fun own'=>Jg v l fun l'=>zG fr o.dst f fun fr'=>go T n k l' fr' own' (.ops ops r' K) else⟨l,fr,own, .ops ops (o::r') K⟩
   |none=>⟨l,fr,own, .ops ops (o::r') K⟩
 |k+1,l,fr,own, .dr id ops fr0 own0 us r K=>match r with
  |[]=>go T n k (((wQ (qO ops.toList []) [] us&&oq 0 ops.toList&&E2 us fr0 own0)=true)::l) fr own (.ex .normal K)
  |o::r'=>my (Cm ops o) fun rs=>my (C4 o fr rs) fun rn=>match zr T n ops (mE rs (bi fr)) (mE rn (bA own)) o with
   |some ⟨v,f,bl,nw⟩=>s5 own bl fun own'=>my (us++[⟨rs,o.dst,f,rn,bl,nw⟩]) fun us'=>Jg v l fun l'=>zG fr o.dst f fun fr'=>go T n k l' fr' own' (.dr id ops fr0 own0 us' r' K)
   |none=>⟨l,fr,own, .dr id ops fr0 own0 us (o::r') K⟩
def ak:List Prop->Prop
 |[]=>True
 |[p]=>p
 |p::t=>ak t/\p
def Md{p:Prop}:ak (p::t)↔ak t/\p:=by cases t<;>simp[ak]
def Ry(h:ak (acc v l)):ak l/\ ∀p,v=some p->p:=by
 cases v with
 |none=>exact⟨h,fun p e=>by cases e⟩
 |some q=>obtain⟨h1,h2⟩:=Md.1 h;exact⟨h1,fun p e=>by cases e;exact h2⟩
def Jd{f:FX}{k:Nat}: ∀{fr:aD},bi fr k=some f->(k,f)∈fr
 |[],h=>by cases h
 |(j,g)::t,h=>by
  rw[li] at h;split at h
  .cases h;rename_i e;rw[e];exact aQ
  .exact aJ _ (Jd h)
def HL{B:Bk}{k:Nat}: ∀{own:aI},bA own k=some B->(k,some B)∈own
 |[],h=>by cases h
 |(j,g)::t,h=>by
  rw[km] at h;split at h
  .rename_i e;rw[e,h];exact aQ
  .exact aJ _ (HL h)
def BK{nw:List Nat}{fr:aD}{own:aI}(h:wB nw dst fr own=true):kH nw dst (bi fr) (bA own):=fun nm hnm=>by
 have:=dW.1 h nm hnm;simp only[bR] at this;refine⟨fun k f hk e hc=>?_,fun k B hk e hm=>?_⟩
 .have:=dW.1 this.1 _ (Jd e)
  simp only[gS,iK,x8] at this;rcases this with h|h
  .exact hk (AR.1 h).symm
  .rw[AR.2 hc] at h;cases h
 .have:=dW.1 this.2 _ (HL e)
  simp only[gS,iK] at this;rcases this with h|h
  .exact hk (bQ h)
  .rw[F1 hm] at h;cases h
def L8{us:List Rc}{fr:aD}{own:aI}(h:E2 us fr own=true): ∀r∈us,∀nm∈r.nw,(∀k f,bi fr k=some f->f.nm≠some nm)/\ ∀k B,bA own k=some B-> ¬B.men nm:=fun r hr nm hnm=>by
 have:=dW.1 (dW.1 h r hr) nm hnm;simp only[bR] at this;refine⟨fun k f e hc=>?_,fun k B e hm=>?_⟩
 .have:=dW.1 this.1 _ (Jd e)
  simp only[iK,x8] at this;rw[AR.2 hc] at this;cases this
 .have:=dW.1 this.2 _ (HL e)
  simp only[iK] at this;rw[F1 hm] at this;cases this
section
variable {fr fr0:aD}{own own0:aI}{ops:Array Oper}{us:List Rc}{r:List Oper}{K:List Kt}
def DQ{p q:Nat->Bool}{u:Rc}: ∀{us:List Rc} {k:Nat} {s:ST},(∀j,j<us.length->p (k+j)=q (k+j))->cG p k s (us++[u])=if p (k+us.length) then u.ap (cG q k s us) else cG q k s us
 |[],k,s,h=>rfl
 |x::t,k,s,h=>by
  simp only[iV,cG];rw[DQ (q:=q) fun j hj=>by have:=h (j+1) omg;rwa [show k+(j+1)=k+1+j by omega] at this];have h0:=h 0 vb;rw[gQ] at h0;rw[h0,aN,show k+1+t.length=k+(t.length+1) by omega]
def zB.push(D:zB P GB C n ops fr0 own0 us (o::r) fr own){rs rn nw:List Nat}{f:FX}{bl:List (Nat×Option Bk)}(h:vV P GB C n ops (mE rs (bi fr)) (mE rn (bA own)) o f bl nw):zB P GB C n ops fr0 own0 (us++[⟨rs,o.dst,f,rn,bl,nw⟩]) r (FE fr o.dst f) (vE own bl):=by
 obtain⟨pre,hp,hl⟩:=D.pre;refine⟨⟨pre++[o],by rw[hp];simp,by simp[hl]⟩,?_,fun i u o' hu ho=>?_⟩
 .rw[DQ (q:=fun _=>true) fun _ _=>J,if_pos J,D.st]
  simp only[Rc.ap];rw[GQ,CX]
 .rw[List.getElem?_append] at hu
  split at hu
  .rename_i hi
   obtain⟨h1,h2⟩:=D.snd i u o' hu ho;rw[DQ (q:=fun j=>decide (j<i)) fun _ _=>J,if_neg omg];exact⟨h1,h2⟩
  .rename_i hi
   by_cases e:i=us.length
   .subst e
    simp at hu;subst hu;have ho':ops[us.length]? =some o:=by
     have:ops.toList[us.length]? =some o:=by rw[hp,<-hl];simp
     simpa using this
    rw[ho'] at ho;cases ho;refine⟨J,?_⟩;rw[DQ (q:=fun _=>true) fun j hj=>by simpa using hj,if_neg vb,D.st];exact h
   .rw[dR omg] at hu;cases hu
def zB.done(D:zB P GB C n ops fr0 own0 us [] fr own){id:Nat}(hm:P.follows .mixedOrders=true)(h:(wQ (qO ops.toList []) [] us&&oq 0 ops.toList&&E2 us fr0 own0)=true)(hk:SX GB C n (bi fr) (bA own) (cQ C.rd P Q0 K .normal)):
  SX GB C n (bi fr0) (bA own0) (i5 C.rd P (.region id ops true) (cQ C.rd P Q0 K)):=by
 obtain⟨pre,hp,hl⟩:=D.pre;simp only[bR] at h;have D':kl P GB C n ops us (bi fr0,bA own0):=⟨by rw[<-hl,<-jK,hp];simp,D.snd,h.1.1,h.1.2,L8 h.2⟩;exact D'.region hm (by rw[D.st];exact hk)
def SX.op{f:FX}{bl:List (Nat×Option Bk)}{nw:List Nat}(h:vV P GB C n ops (bi fr) (bA own) o f bl nw)(hf:kH nw o.dst (bi fr) (bA own))(hk:SX GB C n (bi (FE fr o.dst f)) (bA (vE own bl)) (wpListIn (FW C.rd) 0 P ops Q r)):SX GB C n (bi fr) (bA own) (wpListIn (FW C.rd) 0 P ops Q (o::r)):=by
 rw[GQ,CX] at hk;refine(h Q _ _ _ (ll.refl _) (ll.refl _) hf hk).imp fun a w q=>?_;unfold wO at q;simp only[wpListIn];split
 .rename_i hw;rw[if_pos hw] at q;exact q
 .rename_i hw;rw[if_neg hw] at q;exact⟨fun _ _=>trivial,q⟩
def SX.cond{lk:LK}{bk:BM}{Q:Exit->Act->World->Prop}{c:Operand}{x y:Code}{b:Bool}{f:FX}(hc:aP lk c=some f)(hb:ut f=some b)(h1:b=true->SX GB C n lk bk (i5 C.rd P x Q))(h2:b=false->SX GB C n lk bk (i5 C.rd P y Q)):SX GB C n lk bk (i5 C.rd P (.cond c x y) Q):=by
 refine⟨fun ρ G ov a w r=>?_⟩;obtain⟨v,hv,hv'⟩:=r.ev hc;rw[xJ hv' hb] at hv;exact Z2 (bC (dh a) hv) (fun e=>(h1 e).run ρ G ov a w r) (fun e=>(h2 e).run ρ G ov a w r)
def jz(hT:n7 P T)(hm:P.follows .mixedOrders=true): ∀(k:Nat) (l:List Prop) (fr:aD) (own:aI) (cf:Cf),ak (go T n k l fr own cf).vc->ak l/\(av P GB C n Q0 (go T n k l fr own cf).fr (go T n k l fr own cf).own (go T n k l fr own cf).cf->av P GB C n Q0 fr own cf)
 |0,l,fr,own,cf,h=>by simp only[go] at h⊢;exact⟨h,id⟩
 |k+1,l,fr,own, .code c K,h=>by
  cases c with
  |seq x y=>simp only[go] at h⊢;obtain⟨h1,h2⟩:=jz hT hm k _ _ _ _ h;exact⟨h1,fun hk=>(h2 hk).imp fun a w q=>XH q⟩
  |region id ops d=>
   simp only[go] at h⊢
   cases d with
   |false=>simp only[cond_false] at h⊢;obtain⟨h1,h2⟩:=jz hT hm k _ _ _ _ h;exact⟨h1,fun hk=>(h2 hk).imp fun a w q=>XD q⟩
   |true=>simp only[cond_true] at h⊢;obtain⟨h1,h2⟩:=jz hT hm k _ _ _ _ h;exact⟨h1,fun hk=>h2 hk ⟨⟨[],rfl,rfl⟩,rfl,fun i u o hu=>by simp at hu⟩⟩
  |skip=>simp only[go] at h⊢;obtain⟨h1,h2⟩:=jz hT hm k _ _ _ _ h;exact⟨h1,fun hk=>(h2 hk).imp fun a w q=>aBA q⟩
  |ret=>simp only[go] at h⊢;obtain⟨h1,h2⟩:=jz hT hm k _ _ _ _ h;exact⟨h1,fun hk=>(h2 hk).imp fun a w q=>aFM q⟩
  |exit id=>simp only[go] at h⊢;obtain⟨h1,h2⟩:=jz hT hm k _ _ _ _ h;exact⟨h1,fun hk=>(h2 hk).imp fun a w q=>X7 q⟩
  |block id c=>simp only[go] at h⊢;obtain⟨h1,h2⟩:=jz hT hm k _ _ _ _ h;exact⟨h1,fun hk=>(h2 hk).imp fun a w q=>avF q⟩
  |scope c=>simp only[go] at h⊢;obtain⟨h1,h2⟩:=jz hT hm k _ _ _ _ h;exact⟨h1,fun hk=>(h2 hk).imp fun a w q=>ayR q⟩
  |label j=>simp only[go] at h⊢;obtain⟨h1,h2⟩:=jz hT hm k _ _ _ _ h;exact⟨h1,fun hk=>(h2 hk).imp fun a w q=>azq q⟩
  |cond c x y=>
   simp only[go] at h⊢
   cases hc:aP (bi fr) c with
   |none=>simp only[hc] at h⊢;exact⟨h,id⟩
   |some f=>
    cases f with
    |tt=>simp only[hc] at h⊢;obtain⟨h1,h2⟩:=jz hT hm k _ _ _ _ h;exact⟨h1,fun hk=>SX.cond hc rfl (fun _=>h2 hk) (fun e=>by cases e)⟩
    |ff=>simp only[hc] at h⊢;obtain⟨h1,h2⟩:=jz hT hm k _ _ _ _ h;exact⟨h1,fun hk=>SX.cond hc rfl (fun e=>by cases e) (fun _=>h2 hk)⟩
    |_=>simp only[hc] at h⊢;exact⟨h,id⟩
  |_=>simp only[go] at h⊢;exact⟨h,id⟩
 |k+1,l,fr,own, .ex e K,h=>by
  cases K with
  |nil=>simp only[go] at h⊢;exact⟨h,id⟩
  |cons x K=>
   cases x with
   |sq y=>cases e<;>(simp only[go] at h⊢;obtain⟨h1,h2⟩:=jz hT hm k _ _ _ _ h;exact⟨h1,fun hk=>h2 hk⟩)
   |bl id=>
    cases e with
    |exit j=>
     simp only[go] at h⊢
     cases hb:Nat.beq j id with
     |true=>
      simp only[hb,cond_true] at h⊢;obtain⟨h1,h2⟩:=jz hT hm k _ _ _ _ h;exact⟨h1,fun hk=>(h2 hk).imp fun a w q=>by simp only[cQ,Exit.inBlock,bQ hb,if_true];exact q⟩
     |false=>
      have hne:j≠id:=fun e=>by subst e;simp at hb
      simp only[hb,cond_false] at h⊢;obtain⟨h1,h2⟩:=jz hT hm k _ _ _ _ h;exact⟨h1,fun hk=>(h2 hk).imp fun a w q=>by simp only[cQ,Exit.inBlock,hne,if_false];exact q⟩
    |_=>simp only[go] at h⊢;obtain⟨h1,h2⟩:=jz hT hm k _ _ _ _ h;exact⟨h1,fun hk=>h2 hk⟩
   |sc=>
    simp only[go] at h⊢
    cases hb:M' e with
    |true=>
     simp only[hb,cond_true] at h⊢;obtain⟨h1,h2⟩:=jz hT hm k _ _ _ _ h;refine⟨h1,fun hk=>(h2 hk).imp fun a w q=>?_⟩
     cases e<;>first|exact q|cases hb
    |false=>simp only[hb,cond_false] at h⊢;exact⟨h,id⟩
   |ag A=>
    cases e with
    |normal=>simp only[go] at h⊢;exact⟨h,id⟩
    |_=>simp only[go] at h⊢;obtain⟨h1,h2⟩:=jz hT hm k _ _ _ _ h;exact⟨h1,fun hk=>h2 hk⟩
 |k+1,l,fr,own, .ops ops r K,h=>by
  cases r with
  |nil=>simp only[go] at h⊢;obtain⟨h1,h2⟩:=jz hT hm k _ _ _ _ h;exact⟨h1,fun hk=>h2 hk⟩
  |cons o r=>
   simp only[go] at h⊢
   cases hs:zr T n ops (bi fr) (bA own) o with
   |none=>simp only[hs] at h⊢;exact⟨h,id⟩
   |some x=>
    obtain⟨v,f,bl,nw⟩:=x;simp only[hs] at h⊢
    cases hf:wB nw o.dst fr own with
    |false=>simp only[hf,cond_false] at h⊢;exact⟨h,id⟩
    |true=>
     simp only[hf,cond_true] at h⊢;simp only[xL,Ob,BR] at h⊢;obtain⟨h1,h2⟩:=jz hT hm k _ _ _ _ h;obtain⟨h3,h4⟩:=Ry h1;exact⟨h3,fun hk=>SX.op (Mw hT hs h4).1 (BK hf) (h2 hk)⟩
 |k+1,l,fr,own, .dr id ops fr0 own0 us r K,h=>by
  cases r with
  |nil=>
   simp only[go] at h⊢;obtain⟨h1,h2⟩:=jz hT hm k _ _ _ _ h;obtain⟨h3,h4⟩:=Md.1 h1;exact⟨h3,fun hk D=>D.done hm h4 (h2 hk)⟩
  |cons o r=>
   simp only[go,uG] at h⊢;generalize Cm ops o=rs at h⊢;generalize C4 o fr rs=rn at h⊢
   cases hs:zr T n ops (mE rs (bi fr)) (mE rn (bA own)) o with
   |none=>simp only[hs] at h⊢;exact⟨h,fun x=>x⟩
   |some x=>
    obtain⟨v,f,bl,nw⟩:=x;simp only[hs] at h⊢;simp only[xL,Ob,BR] at h⊢;obtain⟨h1,h2⟩:=jz hT hm k _ _ _ _ h;obtain⟨h3,h4⟩:=Ry h1;exact⟨h3,fun hk D=>h2 hk (D.push (Mw hT hs h4).1)⟩
end
end Go.Sx
end
