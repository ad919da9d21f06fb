import Derived.Test.YtmdgdhokaffbkaaGreatDoorTf3
import Derived.CallsIn
import Derived.OrdersIn
import Derived.TacticsIn
import Derived.RangeFuncIn
import Derived.RangeFuncRecord
import Derived.Test.YtmdgdhokaffbkaaGreatDoorProg
set_option linter.all false
set_option maxRecDepth 100000
section
namespace Go.Sx
open Go
theorem ome{k:IntKind}{a b:Int}(h:a=b):FX.d (.v (.int k a))=FX.d (.v (.int k b)):=by rw[h]
variable {P:Program}{T:TT}{GB G:Gh}{C:aD}{n nm off e by_:Nat}{lk:LK}{bk:BM}{ρ:NE}{ov own':List av}{a a':Act}{w w':World}{dst r:Option Nat}{t l:List Prop}{t' ty' ty t1 t2:TypeId}{pos:String}{af:Array Edge}{x c:Code}{zx zs cs':List FX}{α:Type}{o oj:Oper}{g u fa fv:FX}{v:Option Prop}{i:TI}{k j:IntKind}{lo mx:Bool}{p q:Int}{K K':Act->World->Prop}{Q Q' Q0:Exit->Act->World->Prop}
section
variable {t:TypeId}{gd:Option (Nat×Bool)}{x y z:Operand}
def ZL(P:Program)(GB:Gh)(C:aD)(n:Nat)(lk:LK)(bk:BM)(o:Oper)(r:CR):Prop:=(∀p,r.vc=some p->p)->bD P GB C n lk bk o r.f r.bl r.nw
def ph{r:Option FX}{c:CR}(h:nf r=some c): ∃f,r=some f/\c=⟨none,f,[],[]⟩:=by
 unfold nf at h;split at h
 .cases h;exact⟨_,J,J⟩
 .cases h
def xG{r:Option (Option Prop×FX)}{c:CR}(h:uA r=some c): ∃v f,r=some (v,f)/\c=⟨v,f,[],[]⟩:=by
 unfold uA at h;split at h
 .cases h;exact⟨_,_,J,J⟩
 .cases h
def pj{K:FX->Option α}{r:α}(h:nj lk x K=some r): ∃f,ba lk x=some f/\K f=some r:=by
 unfold nj at h;split at h
 .exact⟨_,oma,h⟩
 .cases h
def u9{K:FX->FX->Option α}{r:α}(h:rO lk x y K=some r): ∃f g,ba lk x=some f/\ba lk y=some g/\K f g=some r:=by
 unfold rO at h;split at h
 .split at h
  .exact⟨_,_,oma,oma,h⟩
  .cases h
 .cases h
def Du{K:TI->Option α}{r:α}(hT:lg P T)(h:zm T t K=some r): ∃i,d7 P t=some i/\K i=some r:=by
 unfold zm at h;split at h
 .rename_i i hi;exact⟨i,hT _ _ hi,h⟩
 .cases h
def FT{K:List (Nat×Nat×Nat)->TI->Option α}{r:α}(hT:lg P T)(h:yz T t K=some r): ∃fo i,d7 P t=some i/\i.k= .st fo/\K fo i=some r:=by
 unfold yz at h;split at h
 .rename_i fo sz z za hi;exact⟨fo,_,hT _ _ hi,rfl,h⟩
 .cases h
def bD.x1{f:FX}(e:ba lk x=some f)(h: ∀ρ G ov (a:Act) w y,bu C ov G w->bz GB C n lk bk ρ G ov a w->aB (b8 a) x=some y->bB ρ G f y-> ∃u,bB ρ G g u/\Yd P C (b8 a) ov G o u):bD P GB C n lk bk o g [] []:=
 .yd fun ρ G ov a w r=>by
  obtain⟨y,h1,h2⟩:=r.ev e;exact h ρ G ov a w y r.h r h1 h2
def Zv{f:FX}(e:ba lk x=some f):bD P GB C n lk bk ⟨dst, .move x,ty',pos,af,gd⟩ f [] []:= .x1 e fun _ _ _ _ _ y _ _ h1 h2=>⟨y,h2,pA h1⟩
def T4{f:FX}(e:ba lk x=some f):bD P GB C n lk bk ⟨dst, .assign x,ty',pos,af,gd⟩ f [] []:= .x1 e fun _ _ _ _ _ y _ _ h1 h2=>⟨y,h2,Hp h1⟩
def TJ{c f v:FX}(ec:ba lk z=some c)(e1:ba lk x=some f)(e2:ba lk y=some g)(h:F0 c f g=some v):bD P GB C n lk bk ⟨dst, .pick z x y,ty',pos,af,gd⟩ v [] []:= .yd fun ρ G ov a w r=>by
 obtain⟨u,h1,h2⟩:=r.ev ec;unfold F0 at h;split at h
 .cases h;cases h2;obtain⟨u,h3,h4⟩:=r.ev e1;exact⟨u,h4,IZ h1 h3⟩
 .cases h;cases h2;obtain⟨u,h3,h4⟩:=r.ev e2;exact⟨u,h4,vy h1 h3⟩
 .cases h
def Wp{f:FX}(e:ba lk x=some f)(h:F1 f=some (v,g))(hv: ∀r,v=some r->r):bD P GB C n lk bk ⟨dst, .nilCheck x,ty',pos,af,gd⟩ g [] []:= .x1 e fun ρ G ov a w y _ _ h1 h2=>by
 have key: ∀l,Is G (.pt l) y-> ∃u,bB ρ G (.ep l) u/\Yd P C (b8 a) ov G ⟨dst, .nilCheck x,ty',pos,af,gd⟩ u:=fun l h2=>by
  obtain⟨b,m,rfl,hb,hm⟩:=oh.1 h2;refine⟨_,⟨b,0,m,m,J,hb,?_,hm⟩,qD h1⟩;rw[ks _ _ _ (by rw[hm.len];omega),fM,bK (by rw[hm.len];omega)]
 unfold F1 at h;split at h<;>cases h
 .obtain⟨b,hb,rfl⟩:=h2;exact⟨_,⟨b,hb,rfl⟩,qD h1⟩
 .obtain⟨b,o,cs,m,rfl,h3⟩:=h2;exact⟨_,⟨b,o,cs,m,rfl,h3⟩,qD h1⟩
 .obtain⟨b,hb,rfl⟩:=h2;exact⟨_,⟨b,hb,rfl⟩,qD h1⟩
 .exact key _ h2
 .rcases ur.1 (show Is G _ y from h2) with⟨e,_⟩|⟨_,h3⟩
  .have:=hv _ J;rw[e] at this;cases this
  .exact key _ h3
def S1{f:FX}{fo:List (Nat×Nat×Nat)}{k:Nat}(hi:d7 P t=some i)(hk:i.k= .st fo)(e:ba lk x=some f)(h:Gb fo k f=some g):bD P GB C n lk bk ⟨dst, .fieldAddr t x k,ty',pos,af,gd⟩ g [] []:= .x1 e fun ρ G ov a w y _ _ h1 h2=>by
 unfold Gb at h;split at h
 .rename_i off ft s ho
  have:=Tg hi hk ho;split at h
  .cases h;obtain⟨b,hb,rfl⟩:=h2;exact⟨_,⟨b,hb,rfl⟩,qC h1⟩
  .rename_i l
   cases hb:Nat.ble off l.length with
   |false=>rw[hb] at h;cases h
   |true=>
    rw[hb,cond_true,re] at h;cases h;obtain⟨b,o,cs,m,rfl,hb',ht,hm⟩:=h2;refine⟨_,⟨b,o+off,cs,m.drop off,J,hb',?_,hm.drop _⟩,qC h1⟩;rw[gU];exact BA ht (by simpa using hb)
  .cases h
   obtain⟨b,hb,rfl⟩:=h2;exact⟨_,⟨b,hb,J⟩,by rw[<-kX];exact qC h1⟩
  .cases h
 .cases h
def aFH{f:FX}{fo:List (Nat×Nat×Nat)}{k:Nat}(hT:lg P T)(hi:d7 P t=some i)(hk:i.k= .st fo)(e:ba lk x=some f)(h:GQ T fo k f=some g):bD P GB C n lk bk ⟨dst, .field t x k,ty',pos,af,gd⟩ g [] []:= .x1 e fun ρ G ov a w y _ _ h1 h2=>by
 unfold GQ at h;split at h<;>try (cases h;done)
 rename_i cs;split at h<;>try (cases h;done)
 rename_i off ft s ho;split at h<;>try (cases h;done)
 rename_i j hj;obtain⟨m,rfl,hm⟩:=eO.1 (show Is G _ y from h2);have:=QU hi hk ho;split at h<;>try (cases h;done)
 .rename_i q ha
  have:=vp (hT _ _ hj) ha;split at h<;>cases h;rename_i l hl;obtain⟨l',h3,h4⟩:=hm.takeD hl;exact⟨.agg ⟨l'⟩,eO.2 ⟨l',J,h4⟩,VE h1 h3⟩
 .rename_i ha
  have:=ui (hT _ _ hj) ha;split at h<;>cases h;rename_i c hc;obtain⟨l',h3,h4⟩:=hm.get hc;exact⟨l',h4,WW h1 h3⟩
def bz.own{y:Value}{cs:List FX}(r:bz GB C n lk bk ρ G ov a w)(h2:bB ρ G (.ov nm off) y)(hb:bk nm=some (.o ty cs lo)): ∃b m,y= .pointer (some ⟨b,off,none⟩)/\(ρ nm).a=some ⟨b,0,none⟩/\cP ρ G cs m/\⟨b,m,ty,lo⟩∈ov:=by
 obtain⟨os,⟨b,m,h3,rfl,h4⟩,h5⟩:=r.bx _ _ hb;obtain⟨b',h6,rfl⟩:=h2;rw[h3] at h6;cases h6;exact⟨b,m,J,h3,h4,h5 _ aZ⟩
def U5{f:FX}(hi:d7 P t=some i)(e:ba lk x=some f)(h:GK bk i f=some g):bD P GB C n lk bk ⟨dst, .load t x,ty',pos,af,gd⟩ g [] []:= .x1 e fun ρ G ov a w y _ r h1 h2=>by
 unfold GK at h;split at h<;>try (cases h;done)
 .rename_i k ha
  have:=vp hi ha;split at h<;>try (cases h;done)
  .split at h<;>try (cases h;done)
   rename_i hb;split at h<;>try (cases h;done)
   rename_i l hl;obtain⟨b,m,rfl,h3,h4,h5⟩:=r.own h2 hb;obtain⟨l',h6,h7⟩:=h4.takeX hl;have:gA ov b m _ _:=⟨h5⟩;exact⟨.agg ⟨l'⟩,F9 h7 h,CV h1 h6⟩
  .split at h<;>cases h
   rename_i hl;obtain⟨b,o,ms,m,rfl,hb,ht,hm⟩:=h2;obtain⟨l',h3,h4⟩:=hm.takeD hl;exact⟨.agg ⟨l'⟩,eO.2 ⟨l',J,h4⟩,Jb h1 hb (by simpa using Pg ht h3)⟩
 .rename_i ha
  have:=ui hi ha;split at h<;>try (cases h;done)
  .split at h<;>try (cases h;done)
   rename_i hb;obtain⟨b,m,rfl,h3,h4,h5⟩:=r.own h2 hb;obtain⟨l',h6,h7⟩:=h4.get h;have:gA ov b m _ _:=⟨h5⟩;exact⟨l',h7,rh h1 h6⟩
  .split at h<;>cases h
   obtain⟨b,o,ms,m,rfl,hb,ht,hm⟩:=h2;obtain⟨l',h3,h4⟩:=hm.get (i:=0) rfl;have:=Nr ht (i:=0) (Nat.succ_pos _);rw[gW] at this;exact⟨l',h4,Pd h1 hb (by rw[this];exact h3)⟩
def Yk{f:FX}{i:Nat}(e:ba lk x=some f)(h:E8 i f=some g):bD P GB C n lk bk ⟨dst, .extract x i,ty',pos,af,gd⟩ g [] []:= .x1 e fun ρ G ov a w y _ r h1 h2=>by
 unfold E8 at h;split at h<;>try (cases h;done)
 .split at h<;>cases h
  rename_i hv;obtain⟨m,rfl,hm⟩:=mj.1 (show Is G _ y from h2);obtain⟨l',h3,h4⟩:=hm.get hv;exact⟨l',h4,Dl h1 (by simpa using h3)⟩
 .obtain⟨m1,m2,rfl,k1,k2⟩:=h2
  obtain⟨l',h3,h4⟩:=Kv (ρ:=ρ) h k1 k2;exact⟨l',h4,Dl h1 (by simpa using h3)⟩
def CY{fo:List (Nat×Nat×Nat)}(r:bz GB C n lk bk ρ G ov a w): ∀(ps:List (Nat×Operand)) (cs out:List FX) (m:List Value),qf lk fo cs ps=some out->cP ρ G cs m-> ∃l,s5 (b8 a) (fo.map fun x=>(x.1,x.2.2)) m ps=some l/\cP ρ G out l
 |[],cs,out,m,e,hm=>by simp only[qf] at e;cases e;exact⟨m,J,hm⟩
 |(i,x)::ps,cs,out,m,e,hm=>by
  simp only[qf] at e;split at e
  .rename_i off q k d ho hd
   cases hc:(d.okc&&(Nat.beq d.cells.length k&&Nat.ble (off+k) cs.length)) with
   |false=>rw[hc] at e;cases e
   |true=>
    rw[hc] at e;simp only[bV,Nat.beq_eq_true_eq,Nat.ble_eq] at hc;obtain⟨h1,h2,h3⟩:=hc;replace h2:=aR h2;obtain⟨y,hy,hy'⟩:=r.ev hd;obtain⟨c1,_⟩:=hy'.cells h1;have c2:=c1.len;obtain⟨l,hl1,hl2⟩:=CY r ps _ out _ e (hm.ov c1 (off:=off));refine⟨l,?_,hl2⟩;simp only[s5,cY,ho,jS,hy];rw[if_pos ⟨by rw[c2,h2],by rw[hm.len];exact h3⟩];exact hl1
  .cases e
def X8{fo:List (Nat×Nat×Nat)}{cs:List FX}{f:FX}{parts:Array (Nat×Operand)}(hi:d7 P t=some i)(hk:i.k= .st fo)(hz:i.z=some zx)(h:qf lk fo zx parts.toList=some cs)(hf:vh cs=some f):
  bD P GB C n lk bk ⟨dst, .build t parts,ty',pos,af,gd⟩ f [] []:= .yd fun ρ G ov a w r=>by
 obtain⟨v,hv,hv'⟩:=y8 hi hz;have:=Nv hi hk;obtain⟨l,h1,h2⟩:=CY r _ _ _ _ h (hv' ρ G);exact⟨.agg ⟨l⟩,F9 h2 hf,EX h1⟩
def ww{f:FX}(h:vS k p=some (v,f)):f= .d (.v (.int k p))/\((∀q,v=some q->q)->k.min<=p/\p<=k.max):=by
 obtain⟨q,h1,h2⟩:=U2 h
 cases h1
 exact⟨J,fun k=>h2 (k _ J)⟩
def cC{y:Value}:bB ρ G (.d (.v (.int k p))) y↔y= .int k p:=bh (G:=G)
def K1(b:BitVec 64):IntKind.u64.wrap (b.toNat:Int)=(b.toNat:Int):=qr ⟨by show(0:Int)<=_;omega,by have:=b.isLt;show _<=(18446744073709551615:Int);omega⟩
def CU(b:BitVec 32):IntKind.u32.wrap (b.toNat:Int)=(b.toNat:Int):=qr ⟨by show(0:Int)<=_;omega,by have:=b.isLt;show _<=(4294967295:Int);omega⟩
def zo{op:BinOp}{f:FX}(h:w6 op k p q=some (v,f))(hop:op= .shr\/op= .shl)(hv: ∀r,v=some r->r){fr:Fr}(hx:aB fr x=some (.int k p))(hy:aB fr y=some (.int j q)): ∃u,bB ρ G f u/\Yd P C fr ov G ⟨dst, .binOp op t x y t',ty',pos,af,gd⟩ u:=by
 rcases hop with rfl|rfl<;>cases h
 .exact⟨_,cC.2 J,Zz hx hy (hv _ J)⟩
 .exact⟨_,cC.2 J,Yq hx hy (hv _ J)⟩
def T6{op:BinOp}{f:FX}(h:w6 op k p q=some (v,f))(hv: ∀r,v=some r->r){fr:Fr}(hx:aB fr x=some (.int k p))(hy:aB fr y=some (.int k q)): ∃u,bB ρ G f u/\Yd P C fr ov G ⟨dst, .binOp op t x y t',ty',pos,af,gd⟩ u:=by
 cases op with
 |add=>obtain⟨rfl,h2⟩:=ww h;exact⟨_,cC.2 rfl,ML hx hy (h2 hv)⟩
 |sub=>obtain⟨rfl,h2⟩:=ww h;exact⟨_,cC.2 rfl,QQ hx hy (h2 hv)⟩
 |mul=>obtain⟨rfl,h2⟩:=ww h;exact⟨_,cC.2 rfl,aEP hx hy (h2 hv)⟩
 |quo=>
  cases k<;>cases h<;>first
   |exact⟨_,cC.2 J,Pe hx hy (hv _ J)⟩
   |(obtain⟨h1,h2,h3⟩:=hv _ rfl;exact⟨_,cC.2 rfl,X7 hx hy h1 h2 h3⟩)
 |rem=>
  cases k<;>cases h<;>first
   |exact⟨_,cC.2 J,Po hx hy (hv _ J)⟩
   |(obtain⟨h1,h2⟩:=hv _ rfl;exact⟨_,cC.2 rfl,XK hx hy h1 h2⟩)
 |shr=>exact zo h (.inl J) hv hx hy
 |shl=>exact zo h (.inr J) hv hx hy
 |or=>
  cases k<;>cases h<;>refine⟨_,cC.2 J,jC hx hy fun w=>?_⟩
  .show(pure (Value.int .u32 (IntKind.u32.wrap ((BitVec.ofInt 32 p ||| BitVec.ofInt 32 q).toNat:Int))):Sem Value).run P w=_
   rw[CU];rfl
  .show(pure (Value.int .u64 (IntKind.u64.wrap ((BitVec.ofInt 64 p ||| BitVec.ofInt 64 q).toNat:Int))):Sem Value).run P w=_
   rw[K1];rfl
 |and=>
  cases k<;>cases h<;>refine⟨_,cC.2 J,jC hx hy fun w=>?_⟩
  .show(pure (Value.int .u32 (IntKind.u32.wrap ((BitVec.ofInt 32 p &&& BitVec.ofInt 32 q).toNat:Int))):Sem Value).run P w=_
   rw[CU];rfl
  .show(pure (Value.int .u64 (IntKind.u64.wrap ((BitVec.ofInt 64 p &&& BitVec.ofInt 64 q).toNat:Int))):Sem Value).run P w=_
   rw[K1];rfl
 |lss=>cases h;exact⟨_,J,K6 hx hy⟩
 |leq=>cases h;exact⟨_,J,Tt hx hy⟩
 |gtr=>cases h;exact⟨_,J,Ef hx hy⟩
 |geq=>cases h;exact⟨_,J,Pi hx hy⟩
 |eql=>cases h;exact⟨_,J,py hx hy⟩
 |neq=>cases h;exact⟨_,J,MW hx hy⟩
 |_=>cases h
def Mj{f:FX}(e1:ba lk x=some f)(e2:ba lk y=some g)(h:CF mx f g=some u):bD P GB C n lk bk ⟨dst, .call ⟨.builtin (if mx then .max else .min),⟨[x,y]⟩,⟨[t1,t2]⟩⟩,ty',pos,af,gd⟩ u [] []:= .yd fun ρ G ov a w r=>by
 obtain⟨p,h1,h2⟩:=r.ev e1;obtain⟨q,h3,h4⟩:=r.ev e2;unfold CF at h;split at h<;>try (cases h;done)
 rename_i k p' j q';rw[cC] at h2 h4;subst h2 h4
 cases hk:kq k j with
 |false=>rw[hk] at h;cases h
 |true=>
  rw[hk] at h;cases AG hk
  cases mx<;>cases h
  .refine⟨_,cC.2 J,?_⟩
   intro a' w' hf hh;simp only[iL,if_false,execOp,resolve,gN,cZ,kJ,bg hf h1,bg hf h3];have h1:(Builtin.min_ #[t1,t2] ty' #[.int k p', .int k q']).run P w'= .ok (.int k (if q'<p' then q' else p')) w':=by
    simp[Builtin.min_,Builtin.min2,run_pure]
   exact cA h1
  .refine⟨_,cC.2 J,?_⟩
   intro a' w' hf hh;simp only[if_true,execOp,resolve,gN,cZ,kJ,bg hf h1,bg hf h3];have h1:(Builtin.max_ #[t1,t2] ty' #[.int k p', .int k q']).run P w'= .ok (.int k (if q'>p' then q' else p')) w':=by
    simp[Builtin.max_,Builtin.max2,run_pure]
   exact cA h1
def XA{f:FX}{b:Bool}(hT:lg P T)(h:Do T t f y=some b)(hx: ∃v,aB (b8 a) x=some v/\bB ρ G f v)(hy:ba lk y=some g):
  Yd P C (b8 a) ov G ⟨dst, .binOp .eql t x y t',ty',pos,af,gd⟩ (.bool b)/\Yd P C (b8 a) ov G ⟨dst, .binOp .neq t x y t',ty',pos,af,gd⟩ (.bool (!b)):=by
 obtain⟨v,h1,h2⟩:=hx;unfold Do at h;split at h<;>try (cases h;done)
 .rename_i hi
  have:=V7 (hT _ _ hi) J;split at h<;>cases h
  .cases (bh (G:=G)).1 h2;exact⟨Iq (.inl J) h1,JU (.inl J) h1⟩
  .cases (bh (G:=G)).1 h2;exact⟨Iq (.inr ⟨_,_,J⟩) h1,JU (.inr ⟨_,_,J⟩) h1⟩
 .rename_i hi
  have:=Km (hT _ _ hi) J;have key: ∀p,v= .pointer (some p)->Yd P C (b8 a) ov G ⟨dst, .binOp .eql t x (.const (.pointer none)) t',ty',pos,af,gd⟩ (.bool false)/\Yd P C (b8 a) ov G ⟨dst, .binOp .neq t x (.const (.pointer none)) t',ty',pos,af,gd⟩ (.bool (!false)):=fun p e=>by
   subst e;exact⟨AS h1 J,Cp h1 J⟩
  split at h<;>cases h
  .cases (bh (G:=G)).1 h2;exact⟨AS h1 J,Cp h1 J⟩
  .obtain⟨b,_,e⟩:=h2;exact key _ e
  .obtain⟨b,o,cs,m,e,_⟩:=h2;exact key _ e
  .obtain⟨b,_,e⟩:=h2;exact key _ e
  .obtain⟨b,m,e,_⟩:=oh.1 (show Is G _ v from h2);exact key _ e
 .rename_i hi
  have:=ji (hT _ _ hi) J;split at h<;>cases h
  cases h2;exact⟨Lr h1 J,VC h1 J⟩
def YW{op:BinOp}{f:FX}(hT:lg P T)(e1:ba lk x=some f)(e2:ba lk y=some g)(h:EW T op t f g y=some (v,u))(hv: ∀r,v=some r->r):bD P GB C n lk bk ⟨dst, .binOp op t x y t',ty',pos,af,gd⟩ u [] []:= .yd fun ρ G ov a w r=>by
 obtain⟨p,h1,h2⟩:=r.ev e1;obtain⟨q,h3,h4⟩:=r.ev e2;unfold EW at h;split at h
 .rename_i k p' j q'
  rw[cC] at h2 h4;subst h2 h4;split at h
  .exact zo h (.inl J) hv h1 h3
  .exact zo h (.inr J) hv h1 h3
  .cases hk:kq k j with
   |false=>rw[hk] at h;cases h
   |true=>rw[hk] at h;cases AG hk;exact T6 h hv h1 h3
 .unfold MB at h
  split at h<;>try (cases h;done)
  rename_i hi;have:=Km (hT _ _ hi) J
  cases (bh (G:=G)).1 h4
  split at h<;>cases h<;>rcases ur.1 (show Is G _ p from h2) with⟨rfl,rfl⟩|⟨rfl,k⟩
  .exact⟨_,J,AS h1 h3⟩
  .obtain⟨b,m,rfl,_⟩:=oh.1 k;exact⟨_,rfl,AS h1 h3⟩
  .exact⟨_,J,Cp h1 h3⟩
  .obtain⟨b,m,rfl,_⟩:=oh.1 k;exact⟨_,rfl,Cp h1 h3⟩
 .split at h
  .rename_i b hb
   obtain⟨k1,k2⟩:=XA (ρ:=ρ) (G:=G) (C:=C) (ov:=ov) (dst:=dst) (t':=t') (ty':=ty') (pos:=pos) (af:=af) (gd:=gd) hT hb ⟨p,h1,h2⟩ e2;split at h<;>cases h
   .exact⟨_,by cases b<;>rfl,k1⟩
   .exact⟨_,by cases b<;>rfl,k2⟩
  .split at h<;>try (cases h;done)
   rename_i hi ha hb;have:=Vv (hT _ _ hi) J;have e3:=uE h2 ha;have e4:=uE h4 hb;subst e3 e4;split at h<;>cases h
   .exact⟨_,(bh (G:=G)).2 J,Us h1 h3⟩
   .exact⟨_,(bh (G:=G)).2 J,aCF h1 h3⟩
def Se{op:UnOp}{f:FX}(e1:ba lk x=some f)(h:D4 op f=some (v,u))(hv: ∀r,v=some r->r):bD P GB C n lk bk ⟨dst, .unOp op t x,ty',pos,af,gd⟩ u [] []:= .x1 e1 fun ρ G ov a w y _ r h1 h2=>by
 unfold D4 at h;split at h<;>try (cases h;done)
 .split at h<;>cases h
  rename_i g hg;obtain⟨b,rfl,h3⟩:=Qu h2 hg;exact⟨_,h3,EH h1⟩
 .split at h<;>try (cases h;done)
  obtain⟨rfl,h3⟩:=ww h;rw[cC] at h2;subst h2;refine⟨_,cC.2 J,?_⟩;have:=Fl (P:=P) (C:=C) (own:=ov) (G:=G) (dst:=dst) (ty':=ty') (pos:=pos) (af:=af) (gd:=gd) (t:=t) h1;rwa [Int.zero_sub,qr (h3 hv)] at this
def VA{f:FX}(hT:lg P T)(e1:ba lk x=some f)(h:E1 T t t' f=some (v,u))(hv: ∀r,v=some r->r):bD P GB C n lk bk ⟨dst, .convert t t' x,ty',pos,af,gd⟩ u [] []:= .x1 e1 fun ρ G ov a w y _ r h1 h2=>by
 unfold E1 at h;split at h<;>try (cases h;done)
 rename_i k _ _ _ k' _ _ _ hi hi';have:=wk (hT _ _ hi) J;have:=wk (hT _ _ hi') J;split at h<;>try (cases h;done)
 rename_i j p;rw[cC] at h2;subst h2
 cases hk:kq k j with
 |false=>rw[hk] at h;cases h
 |true=>
  rw[hk,cond_true] at h;cases AG hk;split at h
  .cases h;exact⟨_,cC.2 J,XT h1⟩
  .obtain⟨rfl,h3⟩:=ww h;exact⟨_,cC.2 rfl,XL h1 (h3 hv)⟩
def bz.row{y:Value}{s:Nat}{ds:List DV}(r:bz GB C n lk bk ρ G ov a w)(hb:bk nm=some (.b ty s ds lo)): ∃B,cH G ⟨ρ nm,s,ty,ds,lo⟩ B/\ ∀o∈B,o∈ov:=by
 obtain⟨os,h1,h2⟩:=r.bx _ _ hb;exact⟨os,h1,h2⟩
def cH.len{β:il}{B:List av}(h:cH G β B):β.x.n=β.ds.length:=by
 obtain⟨vs,h1,h2,_⟩:=h;rw[h1.len,h2.len]
def aGp{f:FX}(hT:lg P T)(e1:ba lk x=some f)(e2:ba lk y=some g)(h:Dy T bk t f g=some (v,u))(hv: ∀r,v=some r->r):bD P GB C n lk bk ⟨dst, .indexAddr t x y,ty',pos,af,gd⟩ u [] []:= .yd fun ρ G ov a w r=>by
 obtain⟨p,h1,h2⟩:=r.ev e1;obtain⟨q,h3,h4⟩:=r.ev e2;unfold Dy at h;split at h<;>try (cases h;done)
 rename_i nm;split at h<;>try (cases h;done)
 rename_i ty s ds lo hb;split at h<;>try (cases h;done)
 rename_i e' s' by_ _ _ _ hi;have:=ji (hT _ _ hi) J;split at h<;>try (cases h;done)
 rename_i k i
 cases hs:Nat.beq s s' with
 |false=>rw[hs] at h;cases h
 |true=>
  rw[hs,cond_true] at h;cases h
  cases aR hs
  rw[cC] at h4;subst h4
  cases h2
  obtain⟨B,hB,hBo⟩:=r.row (y:= .nilFunc) hb;have hl:=hB.len;simp only at hl;obtain⟨h5,h6⟩:=hv _ rfl;obtain⟨vs,hB1,hB2,_⟩:=hB;rcases hB1 with⟨e5,_,_⟩|⟨b,rest,lo',e5,_⟩
  .subst e5;have:=hB2.len;simp at this;rw[<-this] at h6;simp at h6;omega
  .have hw:(ρ nm).a=some ⟨b,0,none⟩:=by simp only at e5;rw[e5]
   rw[hw] at h1;refine⟨_,⟨b,hw,J⟩,?_⟩;have:=Bv (P:=P) (C:=C) (own:=ov) (G:=G) (dst:=dst) (ty':=ty') (pos:=pos) (af:=af) (gd:=gd) (t:=t) h1 h3 h5 (by rw[hl];exact h6);simpa using this
def aEe{f:FX}{s:Nat}(hS:cg P t e s by_)(e1:ba lk x=some f)(h:GG bk f=some g):bD P GB C n lk bk ⟨dst, .call ⟨.builtin .len,⟨[x]⟩,⟨[t]⟩⟩,ty',pos,af,gd⟩ g [] []:= .x1 e1 fun ρ G ov a w y _ r h1 h2=>by
 have key: ∀l:List DV,Is G (.sl l) y-> ∃u,bB ρ G (.d (.v (.int .i64 (l.length:Nat)))) u/\Yd P C (b8 a) ov G ⟨dst, .call ⟨.builtin .len,⟨[x]⟩,⟨[t]⟩⟩,ty',pos,af,gd⟩ u:=fun l hl=>by
  obtain⟨k,z,es,rfl,hs,hl⟩:=ie.1 hl;have:=hs.len;rw[hl.len] at this;exact⟨_,cC.2 J,by rw[<-this];exact ue h1⟩
 unfold GG at h;split at h
 .cases h;cases h2;exact⟨_,cC.2 J,ue h1⟩
 .cases h;exact key _ h2
 .cases h;exact key _ h2.2
 .split at h<;>cases h
  rename_i hb
  cases h2
  obtain⟨B,hB,_⟩:=r.row (y:= .nilFunc) hb;have:=hB.len;simp only at this;exact⟨_,cC.2 J,by rw[<-this];exact ue h1⟩
 .cases h
def XG{f:FX}{d:Nat}(hg:g∈f.cells)(h:vO f d=true):g.nm≠some d:=by
 have key:g.nm=f.nm\/g.nm=none:=by
  unfold FX.cells at hg;split at hg
  .obtain⟨x,_,rfl⟩:=aN.1 hg;exact .inr rfl
  .rcases bJ.1 hg with hg|hg
   .obtain⟨x,_,rfl⟩:=aN.1 hg;exact .inr rfl
   .rcases aT.1 hg with rfl|hg
    .exact .inl J
    .obtain⟨x,_,rfl⟩:=aN.1 hg;exact .inr rfl
  .exact .inl (by rw[aW.1 hg])
 rcases key with h'|h'
 .intro e;unfold vO at h;rw[<-h',e] at h;simp at h
 .rw[h'];simp
def bz.alloc(r:bz GB C n lk bk ρ G ov a w){d b:Nat}{cs:List Value}(hf:ir [d] (some d) lk bk)(hz:cP ρ G zs cs)(hn: ∀g∈zs,g.nm≠some d)
  (hk:SX GB C n (dm lk (some d) (.ov d 0)) (Sx.upB bk [(d,some (.o t zs true))]) K)(rl:gh C n (Sx.put (b8 a) (some d) (.pointer (some ⟨b,0,none⟩))) (⟨b,cs,t,true⟩::ov) G a' w'):K a' w':=by
 have hnd:=(bN.1 rl.h.nd).1;have hy:bB (fun k=>if k=d then⟨some ⟨b,0,none⟩,0,0⟩ else ρ k) G (.ov d 0) (.pointer (some ⟨b,0,none⟩)):=⟨b,v8,J⟩;have hB:i6 (fun k=>if k=d then⟨some ⟨b,0,none⟩,0,0⟩ else ρ k) G d (.o t zs true) [⟨b,cs,t,true⟩]:=
  ⟨b,cs,v8,J,hz.ren fun g hg m hm=>pw _ fun e'=>hn g hg (by rw[hm,e'])⟩
 refine hk.run _ _ _ a' w' (r.new hf (bA.refl _) rl.h hB ?_ (fun o ho=>aK _ ho) ?_ hy (iA rl))
 .intro o ho;rw[aW.1 ho];exact aZ
 .intro o ho e';cases e';exact hnd o ho rfl
def N5{d:Nat}{f:FX}(e:ba lk x=some f)(hc:f.okc=true)(hn:vO f d=true):bD P GB C n lk bk ⟨some d, .box t x,ty',pos,af,gd⟩ (.ov d 0) [(d,some (.o t f.cells true))] [d]:=by
 intro hd tl tb K s1 s2 hf hk;refine⟨fun ρ G ov a w r Q=>?_⟩;obtain⟨y,h1,h2⟩:=(r.mono s1 s2).ev e;exact DY h1 hd (fun b a' w' rl=>r.alloc hf (h2.cells hc).1 (fun g hg=>XG hg hn) hk rl) a w Q ⟨r.h,r.sz,b9 a,r.df⟩
def ZT(v:Value):(ul v).nm=none:=by unfold ul;split<;>rfl
def Yw{d:Nat}{z:List FX}(hi:d7 P t=some i)(hz:i.z=some z):bD P GB C n lk bk ⟨some d, .alloc t,ty',pos,af,gd⟩ (.ov d 0) [(d,some (.o t z true))] [d]:=by
 intro hd tl tb K s1 s2 hf hk;refine⟨fun ρ G ov a w r Q=>?_⟩;obtain⟨v,hv,hv'⟩:=y8 hi hz;refine EI hd (fun b a' w' rl=>r.alloc hf (hv' ρ G) (fun g hg=>?_) hk rl) a w Q ⟨r.h,r.sz,b9 a,r.df⟩;obtain⟨j,_,rfl⟩:=oc hi
 cases hj:j.zero with
 |none=>simp only[hj] at hz;cases hz
 |some u=>
  simp only[hj] at hz;cases hz;obtain⟨x,_,rfl⟩:=aN.1 hg;rw[ZT];simp
def gv.of_mem{b:Nat}{cs cs':List Value}{ty:TypeId}{lo:Bool}: ∀{own:List av},⟨b,cs,ty,lo⟩∈own-> ∃own',gv own b cs ty lo cs' own'/\⟨b,cs',ty,lo⟩∈own'/\ ∀o∈own,o.b≠b->o∈own'
 |[],h=>by cases h
 |x::t,h=>by
  rcases aT.1 h with rfl|h
  .exact⟨_, .hd ..,aZ,fun o ho hb=>(aT.1 ho).elim (fun e=>absurd okE hb) (fun e=>aK _ e)⟩
  .obtain⟨own',h1,h2,h3⟩:=gv.of_mem h
   exact⟨x::own', .tl _ _ _ _ _ _ _ _ h1,aK _ h2,fun o ho hb=>(aT.1 ho).elim (fun e=>by rw[e];exact aZ) (fun e=>aK _ (h3 o e hb))⟩
def bz.wrote{b:Nat}{m m':List Value}{cs:List FX}(r:bz GB C n lk bk ρ G ov a w)(hb:bk nm=some (.o ty cs lo))(ha:(ρ nm).a=some ⟨b,0,none⟩)(hm':cP ρ G cs' m')(h1:⟨b,m',ty,lo⟩∈own')(h2: ∀o∈ov,o.b≠b->o∈own')
  (hk:SX GB C n (dm lk dst .un) (Sx.upB bk [(nm,some (.o ty cs' lo))]) K)(rl:gh C n (Sx.put (b8 a) dst undef) own' G a' w'):K a' w':=by
 have r2:=r.upB (G':=G) (ov':=own') (w':=w') (B':= .o ty cs' lo) (os:=[⟨b,m',ty,lo⟩]) (bA.refl _) rl.h ⟨b,m',ha,J,hm'⟩ (fun o ho=>by rw[aW.1 ho];exact h1) (fun o ho hne=>h2 o ho fun e=>hne (by rw[ha,e])) ⟨_,hb⟩;exact hk.run _ _ _ a' w' (r2.put J (iA rl))
def Ty{f:FX}(h:f.flat=true):f.okc=true:=by
 cases f with
 |d x=>cases x<;>first|exact h|(cases h;done)
 |bx=>cases h
 |_=>exact h
def TX{f:FX}(h:f.flat=true):f.cells=[f]:=by
 cases f with
 |d x=>cases x<;>first|rfl|(cases h;done)
 |bx=>cases h
 |_=>rfl
def bB.flat{f:FX}{y:Value}(h:bB ρ G f y)(k:f.flat=true):Go.Sx.flat y=true:=by
 obtain⟨h1,h2⟩:=h.cells (Ty k);rw[TX k] at h1;have hl:=h1.len
 cases y with
 |agg l=>
  obtain⟨z,q,e,h4,h5⟩:=h1
  cases f with
  |d x=>cases x with
   |v u=>exact Is.flat (show Is G _ _ from h) k
   |ag l=>cases k
   |tp l=>cases k
   |pt l=>exact Is.flat (show Is G _ _ from h) k
   |op b l=>exact Is.flat (show Is G _ _ from h) k
   |sl l=>exact Is.flat (show Is G _ _ from h) k
  |ep l=>obtain⟨_,_,_,_,e,_⟩:=h;cases e
  |ip _ _=>obtain⟨_,e,_⟩:=h;cases e
  |ov _ _=>obtain⟨_,_,e⟩:=h;cases e
  |be _ _ _ _=>obtain⟨_,_,e⟩:=h;cases e
  |rs _ _ _ _=>obtain⟨_,_,_,e,_⟩:=h;cases e
  |ct l=>obtain⟨⟨_,_,e⟩,_⟩:=h;cases e
  |bx=>cases k
  |un=>cases k
  |no=>cases k
  |_=>cases h
 |_=>exact h2 _ (by simp[aH])
def Ws{bl:List (Nat×Option Bk)}(hi:d7 P t=some i)(e1:ba lk x=some fa)(e2:ba lk y=some fv)(h:Ao bk i fa fv=some bl):bD P GB C n lk bk ⟨dst, .store t x y,ty',pos,af,gd⟩ .un bl []:=by
 intro hd tl tb K s1 s2 hf hk;refine⟨fun ρ G ov a w r Q=>?_⟩;have r1:=r.mono s1 s2;obtain⟨p,h1,h2⟩:=r1.ev e1;obtain⟨q,h3,h4⟩:=r1.ev e2;unfold Ao at h;split at h<;>try (cases h;done)
 rename_i nm off;split at h<;>try (cases h;done)
 rename_i ty cs lo hb;obtain⟨b,m,rfl,ha,h5,h6⟩:=r1.own h2 hb;split at h<;>try (cases h;done)
 .rename_i k hk'
  have:=vp hi hk'
  cases hc:(fv.okc&&(Nat.beq fv.cells.length k&&Nat.ble (off+k) cs.length)) with
  |false=>rw[hc] at h;cases h
  |true=>
   rw[hc,cond_true,re] at h;cases h;simp only[bV,Nat.beq_eq_true_eq,Nat.ble_eq] at hc;obtain⟨c1,c2,c3⟩:=hc;replace c2:=aR c2;obtain⟨h7,h8⟩:=h4.cells c1;obtain⟨own',u1,u2,u3⟩:=gv.of_mem (cs':=ck m off (aH q)) h6;exact AM h1 h3 u1 (by rw[h7.len,c2]) (by rw[h5.len];exact c3) (dZ.2 h8) hd (fun a' w' rl=>r.wrote (m:=m) (s2 _ _ hb) ha (h5.ov h7) u2 u3 hk rl) a w Q ⟨r.h,r.sz,b9 a,r.df⟩
 .rename_i hk'
  have:=ui hi hk'
  cases hc:(fv.flat&&Nat.blt off cs.length) with
  |false=>rw[hc] at h;cases h
  |true=>
   rw[hc,cond_true,re] at h;cases h;simp only[bV,jN] at hc;obtain⟨own',u1,u2,u3⟩:=gv.of_mem (cs':=m.set off q) h6;exact xW h1 h3 u1 (by rw[h5.len];exact hc.2) (h4.flat hc.1) hd (fun a' w' rl=>r.wrote (m:=m) (s2 _ _ hb) ha (h5.set off h4) u2 u3 hk rl) a w Q ⟨r.h,r.sz,b9 a,r.df⟩
def vL{op:Op}{r:CR}(hT:lg P T)(h:vb T lk bk dst op=some r):ZL P GB C n lk bk ⟨dst,op,ty',pos,af,gd⟩ r:=by
 intro hv;unfold vb at h;split at h
 .obtain⟨f,h1,rfl⟩:=ph h;exact Zv h1
 .obtain⟨f,h1,rfl⟩:=ph h;exact T4 h1
 .obtain⟨c,hc,h⟩:=pj h
  obtain⟨f,g,h1,h2,h⟩:=u9 h;obtain⟨u,h3,rfl⟩:=ph h;exact TJ hc h1 h2 h3
 .split at h<;>try (cases h;done)
  obtain⟨i,hi,h⟩:=Du hT h;split at h<;>try (cases h;done)
  rename_i z hz;rw[re] at h;cases h;exact Yw hi hz
 .split at h<;>try (cases h;done)
  obtain⟨f,hf,h⟩:=pj h;rw[re,cond_eq_ite] at h;split at h<;>cases h;rename_i hc;simp only[bV] at hc;exact N5 hf hc.1 hc.2
 .obtain⟨f,h1,h⟩:=pj h;obtain⟨v,u,h3,rfl⟩:=xG h;exact Wp h1 h3 hv
 .obtain⟨fo,i,hi,hk,h⟩:=FT hT h
  obtain⟨f,h1,h⟩:=pj h;obtain⟨u,h3,rfl⟩:=ph h;exact S1 hi hk h1 h3
 .obtain⟨fo,i,hi,hk,h⟩:=FT hT h
  obtain⟨f,h1,h⟩:=pj h;obtain⟨u,h3,rfl⟩:=ph h;exact aFH hT hi hk h1 h3
 .obtain⟨i,hi,h⟩:=Du hT h
  obtain⟨f,h1,h⟩:=pj h;obtain⟨u,h3,rfl⟩:=ph h;exact U5 hi h1 h3
 .obtain⟨i,hi,h⟩:=Du hT h
  obtain⟨f,g,h1,h2,h⟩:=u9 h
  cases hb:Ao bk i f g with
  |none=>simp only[hb] at h;cases h
  |some bl=>simp only[hb] at h;cases h;exact Ws hi h1 h2 hb
 .obtain⟨f,h1,h⟩:=pj h;obtain⟨u,h3,rfl⟩:=ph h;exact Yk h1 h3
 .obtain⟨fo,i,hi,hk,h⟩:=FT hT h
  split at h<;>try (cases h;done)
  rename_i z hz;split at h<;>try (cases h;done)
  rename_i cs hcs;split at h<;>cases h;rename_i g hg;exact X8 hi hk hz hcs hg
 .obtain⟨f,g,h1,h2,h⟩:=u9 h;obtain⟨v,u,h3,rfl⟩:=xG h;exact YW hT h1 h2 h3 hv
 .obtain⟨f,h1,h⟩:=pj h;obtain⟨v,u,h3,rfl⟩:=xG h;exact Se h1 h3 hv
 .obtain⟨f,h1,h⟩:=pj h;obtain⟨v,u,h3,rfl⟩:=xG h;exact VA hT h1 h3 hv
 .obtain⟨f,g,h1,h2,h⟩:=u9 h;obtain⟨v,u,h3,rfl⟩:=xG h;exact aGp hT h1 h2 h3 hv
 .split at h<;>try (cases h;done)
  rename_i hi;obtain⟨f,h1,h⟩:=pj h;obtain⟨u,h3,rfl⟩:=ph h;exact aEe (ji (hT _ _ hi) J) h1 h3
 .obtain⟨f,g,h1,h2,h⟩:=u9 h;obtain⟨u,h3,rfl⟩:=ph h;exact Mj (mx:=true) h1 h2 h3
 .obtain⟨f,g,h1,h2,h⟩:=u9 h;obtain⟨u,h3,rfl⟩:=ph h;exact Mj (mx:=false) h1 h2 h3
 .cases h
end
def FW(r:Option Nat):Fence:={Fence.wide with round:=r}
def f8(r:Option Nat)(P:Program)(c:Code)(Q:Exit->Act->World->Prop)(a:Act)(w:World):Prop:=c.wpIn (FW r) 0 P Q a w
section
def o7{o:Option Nat}(h:o=none)(k:f8 o P c Q a w):c.wp P Q a w:=by
 subst h;exact wpIn_wide.1 k
def R9(h:f8 r P c Q a w)(hq: ∀e a w,Q e a w->Q' e a w):f8 r P c Q' a w:=wpIn_mono h hq
def Vo(h:Q .normal a w):f8 r P .skip Q a w:=wpIn_skip h
def Vu{l:Nat}(h:Q .normal a w):f8 r P (.label l) Q a w:=wpIn_label h
def UV{id:Nat}(h:Q (.exit id) a w):f8 r P (.exit id) Q a w:=wpIn_exit h
def QW(h:Q .ret a w):f8 r P .ret Q a w:=wpIn_ret h
def Q9{y:Code}(h:f8 r P x (Exit.then (f8 r P y Q) Q) a w):f8 r P (.seq x y) Q a w:=wpIn_seq h
def VV{c:Operand}{y:Code}{t:Bool}(hc:a.eval c= .bool t)(ht:t=true->f8 r P x Q a w)(hf:t=false->f8 r P y Q a w):f8 r P (.cond c x y) Q a w:=wpIn_cond_split hc ht hf
def TZ{id:Nat}(h:f8 r P c (Exit.inBlock id Q) a w):f8 r P (.block id c) Q a w:=wpIn_block h
def vn{b:Frame}{k:List Item}{cs:List Frame}:step P (lone (b.atR a (.code (.scope c)::k)) cs w)= .next (lone (b.atR a (.code c:: .inScope c::k)) cs w):=
 step_lone_go (by simp[stepG,stepG.exec,Frame.atR])
def ZR{b:Frame}{k:List Item}{cs:List Frame}:step P (lone (b.atR a (.inScope c::k)) cs w)= .next (lone (b.atR a k) cs w):=
 step_lone_go (by simp[stepG,stepG.exec,Frame.atR])
def X6(h:f8 r P c (Exit.noGoto Q) a w):f8 r P (.scope c) Q a w:=by
 intro b k cs hro hb hr;have h0:(lone (b.atR a (.code (.scope c)::k)) cs w).fenced P (FW r):=fenced_calm hb hr J;obtain⟨e,a₁,w₁,hq,harr⟩:=h b (.inScope c::k) cs hro hb hr
 cases e with
 |normal=>exact⟨.normal,a₁,w₁,hq, .head h0 vn (StepsIn.trans harr (.one (fenced_calm hb hr J) ZR))⟩
 |exit id=>
  have hx:exitTo id (.inScope c::k)=exitTo id k:=by simp[exitTo]
  exact⟨.exit id,a₁,w₁,hq,fun k' hk=> .head h0 vn (harr.1 k' (by rw[hx];exact hk)),fun hr' hk=>let⟨k₁,h1,h2⟩:=harr.2 hr' (by rw[hx];exact hk);⟨k₁,h1, .head h0 vn h2⟩⟩
 |goto l=>exact hq.elim
 |ret=>exact⟨_,a₁,w₁,hq, .of_steps (.one h0 vn) harr⟩
 |panic ch=>exact⟨_,a₁,w₁,hq, .of_steps (.one h0 vn) harr⟩
 |outgrown=>exact⟨_,a₁,w₁,hq, .of_steps (.one h0 vn) harr⟩
def SF{id:Nat}{ops:Array Oper}(h:wpListIn (FW r) 0 P ops Q ops.toList a w):f8 r P (.region id ops false) Q a w:=wpIn_region_list h
def Yj{f:FuncId}{args:Array Value}{R:Ending->World->Prop}(h:Calls P f args w R):CallsIn (FW r) 0 P f args w R:=by
 have h1:CallsIn Fence.wide 0 P f args w R:=callsIn_wide.2 h
 cases r with
 |none=>exact h1
 |some l=>exact h1
theorem okh{p:Prop}(h:p:=by cases h):p:=h
def CQ(h: ∀Q,o.wp P a w K' Q)(hd: ∀a' w',K' a' w'->a'.defers=a.defers/\K a' w'):o.wpIn (FW r) 0 P a w K Q:=by
 have hs:o.semAt r a.eval=execOp a.eval o:=by
  cases r with
  |none=>rfl
  |some l=>
   refine Oper.semAt_some l a.eval o fun c hc=>?_;have h1:=h (fun _ _ _=>False);unfold Oper.wp at h1;obtain⟨dst,op,ty,pos,af,gd⟩:=o;simp only at hc;subst hc;unfold execOp at h1;simp only[Sem.run_bind,Result.andThen] at h1;split at h1
   .simp only[Sem.run_pure,Oper.upon] at h1
    have:=(hd _ _ h1).1
    cases dst<;>simp[Act.put] at this
   .rename_i x w1 hx
    cases x<;>simp only[Oper.upon] at h1
 have h1:=h (fun _ _ _=>False);unfold Oper.wp at h1;refine⟨fun _ _=>trivial,?_⟩;show o.uponIn (FW r) 0 P a K Q ((o.semAt r a.eval).run P w);rw[hs];generalize (execOp a.eval o).run P w=x at h1
 cases x with
 |ok nx w'=>
  cases nx with
  |value v=>exact(hd _ _ h1).2
  |skip=>exact(hd _ _ h1).2
  |defer d=>exact(hd _ _ h1).2
  |enter f args=>
   refine⟨fun h=>okh,(Yj (r:=r) h1).mono fun e w'' he=>?_⟩
   cases e with
   |returned v=>exact(hd _ _ he).2
   |panicked ch=>exact he.elim
   |outgrown=>obtain⟨_,_,hq⟩:=he;exact hq.elim
  |row row args=>
   refine⟨fun h=>okh,fun c cs hroom=>?_⟩;obtain⟨v,w'',hv,hst⟩:=h1 c cs;exact⟨v,w'',(hd _ _ hv).2,stepsIn_wide.2 hst⟩
  |round=>exact h1.elim
  |_=>exact h1.elim
 |halt y w'=>cases y<;>first|exact h1.elim|exact h1
end
def th:List Nat->Nat->Bool
 |[],_=>false
 |x::t,k=>Nat.beq x k||th t k
structure Rc where
 rs:List Nat
 d:Option Nat
 f:FX
 rn:List Nat
 bl:List (Nat×Option Bk)
 nw:List Nat
abbrev ST:=LK×BM
def Rc.ap(r:Rc)(s:ST):ST:=(dm s.1 r.d r.f,upB s.2 r.bl)
def cc(p:Nat->Bool):Nat->ST->List Rc->ST
 |_,s,[]=>s
 |k,s,r::t=>cc p (k+1) (if p k then r.ap s else s) t
def kA(l:List Nat)(g:Nat->Option α):Nat->Option α:=fun k=>bif th l k then g k else none
def Aq{nm:Nat}: ∀{bl:List (Nat×Option Bk)} {s s':BM},((∀e∈bl,e.1≠nm)->s nm=s' nm)->upB s bl nm=upB s' bl nm
 |[],s,s',h=>h v8
 |(k,B)::t,s,s',h=>by
  simp only[upB];refine Aq fun ht=>?_;by_cases e:nm=k
  .simp[e]
  .simp only[e,if_false];exact h fun x hx=>(aT.1 hx).elim (fun c=>by rw[c];exact Ne.symm e) (ht x)
def Cc{nm:Nat}: ∀{bl:List (Nat×Option Bk)} {s:BM},(∀e∈bl,e.1≠nm)->upB s bl nm=s nm
 |[],s,h=>rfl
 |(k,B)::t,s,h=>by
  simp only[upB];rw[Cc fun e he=>h e (aK _ he)];simp[Ne.symm (h _ aZ)]
def Hy{x:Nat}{d:Option Nat}{f:FX}{s:LK}(h:d≠some x):dm s d f x=s x:=by
 cases d with
 |none=>rfl
 |some d=>simp only[dm];rw[if_neg fun e=>h okE]
def xi{x:Nat}{p q:Nat->Bool}: ∀{us:List Rc} {k:Nat} {s s':ST},s.1 x=s'.1 x->(∀j r,us[j]? =some r->r.d=some x->p (k+j)=q (k+j))->(cc p k s us).1 x=(cc q k s' us).1 x
 |[],k,s,s',h,_=>h
 |r::t,k,s,s',h,hp=>by
  simp only[cc];refine xi ?_ fun j u hj hd=>by have:=hp (j+1) u omV hd;rwa [show k+(j+1)=k+1+j by omega] at this
  by_cases hd:r.d=some x
  .have:=hp 0 r J hd
   rw[gW] at this;rw[this];split
   .simp only[Rc.ap,dm,hd,if_true]
   .exact h
  .have: ∀(b:Bool) (s:ST),(if b then r.ap s else s).1 x=s.1 x:=fun b s=>by cases b<;>simp[Rc.ap,Hy hd]
   rw[this,this,h]
def wc{nm:Nat}{p q:Nat->Bool}: ∀{us:List Rc} {k:Nat} {s s':ST},s.2 nm=s'.2 nm->(∀j r,us[j]? =some r->(∃e∈r.bl,e.1=nm)->p (k+j)=q (k+j))->(cc p k s us).2 nm=(cc q k s' us).2 nm
 |[],k,s,s',h,_=>h
 |r::t,k,s,s',h,hp=>by
  simp only[cc];refine wc ?_ fun j u hj hd=>by have:=hp (j+1) u omV hd;rwa [show k+(j+1)=k+1+j by omega] at this
  by_cases hd: ∃e∈r.bl,e.1=nm
  .have:=hp 0 r J hd
   rw[gW] at this;rw[this];split
   .exact Aq fun _=>h
   .exact h
  .have: ∀(b:Bool) (s:ST),(if b then r.ap s else s).2 nm=s.2 nm:=fun b s=>by
    cases b
    .rfl
    .exact Cc fun e he hc=>hd ⟨e,he,hc⟩
   rw[this,this,h]
def Ja{x:Nat}{f:FX}{p:Nat->Bool}: ∀{us:List Rc} {k:Nat} {s:ST},(cc p k s us).1 x=some f->s.1 x=some f\/ ∃j r,us[j]? =some r/\p (k+j)=true/\r.d=some x/\r.f=f
 |[],k,s,h=> .inl h
 |r::t,k,s,h=>by
  simp only[cc] at h;rcases Ja h with h|⟨j,u,h1,h2,h3⟩
  .cases hp:p k with
   |false=>rw[hp] at h;exact .inl h
   |true=>
    rw[hp] at h;simp only[if_true,Rc.ap] at h;by_cases hd:r.d=some x
    .rw[hd] at h;simp only[dm,if_true] at h;cases h;exact .inr ⟨0,r,J,by simpa using hp,hd,J⟩
    .rw[Hy hd] at h;exact .inl h
  .exact .inr ⟨j+1,u,by simpa using h1,by rw[show k+(j+1)=k+1+j by omega];exact h2,h3⟩
def JR{nm:Nat}{B:Bk}: ∀{bl:List (Nat×Option Bk)} {s:BM},upB s bl nm=some B->s nm=some B\/(nm,some B)∈bl
 |[],s,h=> .inl h
 |(k,B')::t,s,h=>by
  simp only[upB] at h;rcases JR h with h|h
  .by_cases e:nm=k
   .subst e;simp only[if_true] at h;subst h;exact .inr aZ
   .simp only[e,if_false] at h;exact .inl h
  .exact .inr (aK _ h)
def Ih{nm:Nat}{B:Bk}{p:Nat->Bool}: ∀{us:List Rc} {k:Nat} {s:ST},(cc p k s us).2 nm=some B->s.2 nm=some B\/ ∃j r,us[j]? =some r/\p (k+j)=true/\(nm,some B)∈r.bl
 |[],k,s,h=> .inl h
 |r::t,k,s,h=>by
  simp only[cc] at h;rcases Ih h with h|⟨j,u,h1,h2,h3⟩
  .cases hp:p k with
   |false=>rw[hp] at h;exact .inl h
   |true=>
    rw[hp] at h;rcases JR h with h|h
    .exact .inl h
    .exact .inr ⟨0,r,J,by simpa using hp,h⟩
  .exact .inr ⟨j+1,u,by simpa using h1,by rw[show k+(j+1)=k+1+j by omega];exact h2,h3⟩
def UZ(acc:List Nat)(l:List Edge):Nat:=l.foldl (fun s e=>if Region.binds .any e then(s ||| 2^e.on) ||| acc.getD e.on 0 else s) 0
def nC:List Oper->List Nat->List Nat
 |[],acc=>acc
 |o::r,acc=>nC r (acc++[UZ acc o.after.toList])
inductive Bf (ops:List Oper):Nat->Nat->Prop
 |b {i:Nat} {o:Oper} {e:Edge} (ho:ops[i]? =some o) (he:e∈o.after) (hb:Region.binds .any e=true):Bf ops i e.on
 |s {i j:Nat} {o:Oper} {e:Edge} (ho:ops[i]? =some o) (he:e∈o.after) (hb:Region.binds .any e=true) (h:Bf ops e.on j):Bf ops i j
def Kh{acc:List Nat}{j:Nat}: ∀(l:List Edge) (s:Nat),(l.foldl (fun s e=>if Region.binds .any e then(s ||| 2^e.on) ||| acc.getD e.on 0 else s) s).testBit j=true->s.testBit j=true\/ ∃e∈l,Region.binds .any e=true/\(e.on=j\/(acc.getD e.on 0).testBit j=true)
 |[],s,h=> .inl h
 |e::t,s,h=>by
  rw[iM] at h;rcases Kh t _ h with h|⟨e',h1,h2⟩
  .split at h
   .rename_i hb
    simp only[Nat.testBit_or,gR,Nat.testBit_two_pow,decide_eq_true_eq] at h;rcases h with(h|h)|h
    .exact .inl h
    .exact .inr ⟨e,aZ,hb, .inl h⟩
    .exact .inr ⟨e,aZ,hb, .inr h⟩
   .exact .inl h
  .exact .inr ⟨e',aK _ h1,h2⟩
def Dk{all:List Oper}: ∀(r:List Oper) (acc:List Nat) (pre:List Oper),all=pre++r->acc.length=pre.length->(∀i j,(acc.getD i 0).testBit j=true->Bf all i j)-> ∀i j,((nC r acc).getD i 0).testBit j=true->Bf all i j
 |[],acc,pre,_,_,h=>h
 |o::r,acc,pre,he,hl,h=>by
  refine Dk r _ (pre++[o]) (by rw[he];simp) (by simp[hl]) fun i j hij=>?_;rw[aJ,List.getElem?_append] at hij;split at hij
  .rename_i hi
   exact h i j (by rw[aJ];exact hij)
  .rename_i hi
   by_cases e:i=acc.length
   .subst e
    simp only[Nat.sub_self,List.getElem?_cons_zero,jZ] at hij;have ho:all[acc.length]? =some o:=by rw[he,hl];simp
    rcases Kh _ _ hij with h0|⟨e,h1,h2,h3⟩
    .simp at h0
    .rcases h3 with rfl|h3
     .exact .b ho (by simpa using h1) h2
     .exact .s ho (by simpa using h1) h2 (h _ _ h3)
   .rw[dR omk] at hij
    simp at hij
def vN:Option Nat->Nat->Bool
 |some x,y=>Nat.beq x y
 |none,_=>false
def kD(a b:Rc):Bool:=(match a.d with|some x=>th b.rs x||vN b.d x|none=>false)||a.bl.any fun e=>th b.rn e.1||b.bl.any fun e'=>Nat.beq e'.1 e.1
def ud(nm:Nat)(f:FX):Bool:=vN f.nm nm
def B3(nm:Nat):Option Bk->Bool
 |some (.o _ cs _)=>cs.any (ud nm)
 |_=>false
def nE(r:Rc)(nm:Nat):Bool:=ud nm r.f||r.bl.any fun e=>B3 nm e.2
def Ab(m:Nat)(r:Rc):Nat->List Rc->Bool
 |_,[]=>true
 |j,u::t=>(!(kD u r||kD r u||u.nw.any (nE r))||m.testBit j)&&!(r.nw.any (nE u))&&Ab m r (j+1) t
def s9:List Nat->List Rc->List Rc->Bool
 |m::ms,pre,r::t=>Ab m r 0 pre&&s9 ms (pre++[r]) t
 |_,_,[]=>true
 |[],_,_::_=>false
def lw:Nat->List Oper->Bool
 |_,[]=>true
 |i,o::t=>o.after.all (fun e=>!Region.binds .any e||Nat.blt e.on i)&&lw (i+1) t
def Cm(us:List Rc)(fr:List (Nat×FX))(own:List (Nat×Option Bk)):Bool:=us.all fun r=>r.nw.all fun nm=>fr.all (fun e=>!ud nm e.2)&&own.all fun e=>!B3 nm e.2
def Mz{m:Nat}{r:Rc}: ∀{l:List Rc} {k:Nat},Ab m r k l=true-> ∀j u,l[j]? =some u->((kD u r=true\/kD r u=true\/ ∃nm∈u.nw,nE r nm=true)->m.testBit (k+j)=true)/\ ∀nm∈r.nw,nE u nm=false
 |[],k,_,j,u,h=>by simp at h
 |x::t,k,h,j,u,hj=>by
  simp only[Ab,bV,gR,fN] at h;obtain⟨⟨h1,h2⟩,h3⟩:=h
  cases j with
  |zero=>
   simp at hj;subst hj;refine⟨fun hh=>?_,fun nm hn=>by have:=List.any_eq_false.1 h2 nm hn;simpa using this⟩;rcases h1 with h1|h1
   .simp only[rM] at h1
    rcases hh with hh|hh|⟨nm,hn,hh⟩
    .rw[h1.1.1] at hh;cases hh
    .rw[h1.1.2] at hh;cases hh
    .have:=List.any_eq_false.1 h1.2 nm hn;exact absurd hh this
   .simpa using h1
  |succ j=>
   have:=Mz h3 j u omV;rwa [show k+(j+1)=k+1+j by omega]
def Pt: ∀{ms:List Nat} {pre t:List Rc},s9 ms pre t=true-> ∀i r,t[i]? =some r-> ∀j u,(pre++t)[j]? =some u->j<pre.length+i->((kD u r=true\/kD r u=true\/ ∃nm∈u.nw,nE r nm=true)->(ms.getD i 0).testBit j=true)/\ ∀nm∈r.nw,nE u nm=false
 |[],pre,[],_,i,r,h=>by simp at h
 |_::_,pre,[],_,i,r,h=>by simp at h
 |[],pre,_::_,h,i,r,_=>by simp[s9] at h
 |m::ms,pre,x::t,h,i,r,hi=>by
  simp only[s9,bV] at h;intro j u hj hlt
  cases i with
  |zero=>
   simp at hi;subst hi;rw[fV pb] at hj;simpa using Mz h.1 j u hj
  |succ i=>
   have:=Pt h.2 i r omW j u omV omk;simpa using this
def p7: ∀{l:List Oper} {k:Nat},lw k l=true-> ∀i o,l[i]? =some o-> ∀e∈o.after,Region.binds .any e=true->e.on<k+i
 |[],k,_,i,o,h=>by simp at h
 |x::t,k,h,i,o,hi=>by
  simp only[lw,bV] at h;intro e he hb
  cases i with
  |zero=>
   simp at hi;subst hi;have:=Array.all_eq_true_iff_forall_mem.1 h.1 e he;simpa[hb] using this
  |succ i=>have:=p7 h.2 i o omW e he hb;omega
def wO(rd:Option Nat)(P:Program)(ops:Array Oper)(Q:Exit->Act->World->Prop)(o:Oper)(K:Act->World->Prop)(a:Act)(w:World):Prop:=
 if Region.wanted o (yielded ops a.tmps) then o.wpIn (FW rd) 0 P a w K Q else K (a.put o.dst undef) w
section
variable {ops:Array Oper}
def s6(P:Program)(GB:Gh)(C:aD)(n:Nat)(ops:Array Oper)(lk:LK)(bk:BM)(o:Oper)(f:FX)(bl:List (Nat×Option Bk))(nw:List Nat):Prop:=
 ∀(Q:Exit->Act->World->Prop) (tl:LK) (tb:BM) (K:Act->World->Prop),iO lk tl->iO bk tb->ir nw o.dst tl tb->SX GB C n (dm tl o.dst f) (upB tb bl) K->SX GB C n tl tb (wO C.rd P ops Q o K)
def SX.drew{lk:LK}{bk:BM}{Φ:Act->World->Prop}(h:SX GB C n lk bk Φ):SX GB C n lk bk (fun a w=>Φ a {w with drawn:=w.drawn+1}):=
 ⟨fun ρ G ov a w r=>h.run ρ G ov a _ ⟨r.gb,r.h.drew,r.sz,r.df,r.fx,r.bx,r.dj,r.fxd⟩⟩
structure i7 (P:Program) (GB:Gh) (C:aD) (n:Nat) (ops:Array Oper) (us:List Rc) (s0:ST):Prop where
 len:us.length=ops.size
 snd: ∀i r o,us[i]? =some r->ops[i]? =some o->o.dst=r.d/\s6 P GB C n ops (kA r.rs (cc (fun j=>decide (j<i)) 0 s0 us).1) (kA r.rn (cc (fun j=>decide (j<i)) 0 s0 us).2) o r.f r.bl r.nw
 all:s9 (nC ops.toList []) [] us=true
 edge:lw 0 ops.toList=true
 fr0: ∀r∈us,∀nm∈r.nw,(∀k f,s0.1 k=some f->f.nm≠some nm)/\ ∀k B,s0.2 k=some B-> ¬B.men nm
def xy{o:Option Nat}{k:Nat}:vN o k=true↔o=some k:=by cases o<;>simp[vN]
def EC{B:Bk}(h:B.men nm):B3 nm (some B)=true:=by
 cases B with
 |o ty cs lo=>obtain⟨f,hf,e⟩:=h;exact jX.2 ⟨f,hf,xy.2 e⟩
 |b=>cases h
 |c=>cases h
 |p=>cases h
def dh(listed:Array Bool):Nat->Bool:=fun j=>listed.getD j false
def un(ops:Array Oper)(listed:Array Bool):Nat:=((List.range ops.size).filter fun j=>!listed.getD j true).length
def Nc{α:Type}{p q:α->Bool}{x:α}: ∀{l:List α},x∈l->(∀y,q y=true->p y=true)->p x=true->q x=false->(l.filter q).length<(l.filter p).length
 |[],h,_,_,_=>by cases h
 |y::t,h,hpq,h1,h2=>by
  have le: ∀l:List α,(l.filter q).length<=(l.filter p).length:=fun l=>by
   induction l with
   |nil=>exact bZ _
   |cons z l ih=>
    simp only[List.filter_cons]
    cases hq:q z with
    |true=>simp[hpq z hq];omega
    |false=>cases hp:p z<;>simp<;>omega
  rcases aT.1 h with rfl|h
  .simp only[List.filter_cons,h1,h2,if_true];have:=le t;simp;omega
  .have ih:=Nc h hpq h1 h2
   simp only[List.filter_cons]
   cases hq:q y with
   |true=>simp[hpq y hq];omega
   |false=>cases hp:p y<;>simp<;>omega
theorem okv{p:Prop}(h:p:=by simpa using ho):p:=h
theorem ozq{p:Prop}(h:p:=by simpa using h2):p:=h
def i7.walk{us:List Rc}{s0:ST}(D:i7 P GB C n ops us s0)(hk:SX GB C n (cc (fun _=>true) 0 s0 us).1 (cc (fun _=>true) 0 s0 us).2 (Q .normal)):
  ∀(fuel:Nat) (listed:Array Bool),listed.size=ops.size->(∀i o,ops[i]? =some o->dh listed i=true-> ∀e∈o.after,Region.binds .any e=true->dh listed e.on=true)->un ops listed<=fuel->
   SX GB C n (cc (dh listed) 0 s0 us).1 (cc (dh listed) 0 s0 us).2 (wpAnyIn (FW C.rd) 0 P .any ops Q fuel listed):=by
 -- what comes before something listed is listed
 have clo: ∀listed:Array Bool,(∀i o,ops[i]? =some o->dh listed i=true-> ∀e∈o.after,Region.binds .any e=true->dh listed e.on=true)-> ∀i j,Bf ops.toList i j->dh listed i=true->dh listed j=true:=by
  intro listed hc i j hb
  induction hb with
  |b ho he hb=>intro hi;exact hc _ _ okv hi _ he hb
  |s ho he hb _ ih=>intro hi;exact ih (hc _ _ okv hi _ he hb)
 have bf: ∀i j,((nC ops.toList []).getD i 0).testBit j=true->Bf ops.toList i j:=Dk ops.toList [] [] J J (fun i j h=>by simp at h);have spec: ∀i r,us[i]? =some r-> ∀j u,us[j]? =some u->j<i->((kD u r=true\/kD r u=true\/ ∃nm∈u.nw,nE r nm=true)->Bf ops.toList i j)/\ ∀nm∈r.nw,nE u nm=false:=fun i r hi j u hj hlt=>by
  have:=Pt D.all i r hi j u omV (by simpa using hlt);exact⟨fun h=>bf _ _ (this.1 h),this.2⟩
 have done: ∀listed:Array Bool,listed.size=ops.size->Region.ready .any ops listed=[]-> ∀i,i<ops.size->dh listed i=true:=by
  intro listed hsz hr i
  induction i using Nat.strongRecOn with
  |ind i ih=>
   intro hi
   cases hl:listed.getD i true with
   |true=>unfold dh;simp only[bT] at hl⊢;rw[fL pb] at hl⊢;simpa using hl
   |false=>
    have:i∈Region.ready .any ops listed:=mem_ready.2 ⟨hl,ops[i],fL hi,fun e he hb=>by
     have hlt:=p7 D.edge i ops[i] (by simp[hi]) e he hb;exact ih e.on pb pb⟩
    rw[hr] at this;cases this
 have same: ∀listed:Array Bool,listed.size=ops.size->(∀i,i<ops.size->dh listed i=true)->(cc (dh listed) 0 s0 us).1=(cc (fun _=>true) 0 s0 us).1/\(cc (dh listed) 0 s0 us).2=(cc (fun _=>true) 0 s0 us).2:=by
  intro listed hsz h;refine⟨funext fun x=>xi J fun j r hj _=>?_,funext fun x=>wc J fun j r hj _=>?_⟩<;>
  .rw[eX];exact h j (by have:=(aS.1 hj).1;rw[D.len] at this;exact this)
 intro fuel
 induction fuel with
 |zero=>
  intro listed hsz hc hu;have all: ∀i,i<ops.size->dh listed i=true:=fun i hi=>by
   cases hl:listed.getD i true with
   |true=>unfold dh;simp only[bT] at hl⊢;rw[fL pb] at hl⊢;simpa using hl
   |false=>
    have h0:=List.length_eq_zero_iff.1 (Nat.le_zero.1 hu);have:=List.filter_eq_nil_iff.1 h0 i (lU.2 hi);simp[hl] at this
  obtain⟨e1,e2⟩:=same listed hsz all;rw[e1,e2];refine hk.imp fun a w h=>⟨?_,h⟩;refine List.eq_nil_iff_forall_not_mem.2 fun i hi=>?_;obtain⟨h1,o,ho,_⟩:=mem_ready.1 hi;have hlt:=(fZ.1 ho).1;have h2:=all i hlt;unfold dh at h2;simp only[bT] at h1 h2;rw[fL pb] at h1 h2;simp at h1 h2;rw[h1] at h2;cases h2
 |succ fuel ih=>
  intro listed hsz hc hu;refine⟨fun ρ G ov a w r=>⟨fun hr=>?_,fun i hi=>?_⟩⟩
  .obtain⟨e1,e2⟩:=same listed hsz (done listed hsz hr)
   rw[e1,e2] at r;exact hk.run ρ G ov a w r
  .obtain⟨h1,o,ho,hall⟩:=mem_ready.1 hi
   have hlt:=(fZ.1 ho).1;have hli:dh listed i=false:=by
    unfold dh;simp only[bT] at h1⊢;rw[fL pb] at h1⊢;simpa using h1
   obtain⟨u,hui⟩: ∃u,us[i]? =some u:=⟨us[i]'(by rw[D.len];exact hlt),aQ _⟩;obtain⟨hd,hop⟩:=D.snd i u o hui ho;have bl: ∀j,Bf ops.toList i j->dh listed j=true:=fun j hb=>by
    cases hb with
    |b ho' he hb=>rw[oR,ho] at ho';cases ho';exact hall _ he hb
    |s ho' he hb h=>rw[oR,ho] at ho';cases ho';exact clo listed hc _ _ h (hall _ he hb)
   have nb: ∀j r,us[j]? =some r->(kD r u=true\/kD u r=true)->decide (j<i)=dh listed j:=fun j r hj hh=>by
    rcases qL j i with h|h|h
    .rw[bl j ((spec i u hui j r hj h).1 (hh.imp id .inl))];simpa using h
    .subst h;rw[hli];simp
    .cases hl:dh listed j with
     |false=>simp;omega
     |true=>have:=clo listed hc j i ((spec j r hj i u hui h).1 (hh.symm.imp id .inl)) hl;rw[hli] at this;cases this
   have sz':(listed.setIfInBounds i true).size=ops.size:=by simpa using hsz
   have l': ∀j,j≠i->dh (listed.setIfInBounds i true) j=dh listed j:=fun j hj=>by unfold dh;rw[getD_set_ne false (Ne.symm hj)]
   have li':dh (listed.setIfInBounds i true) i=true:=by unfold dh;simp[hsz,hlt]
   have hc': ∀j o',ops[j]? =some o'->dh (listed.setIfInBounds i true) j=true-> ∀e∈o'.after,Region.binds .any e=true->dh (listed.setIfInBounds i true) e.on=true:=fun j o' hj hlj e he hb=>by
    by_cases hji:j=i
    .subst hji;rw[ho] at hj;cases hj
     exact getD_set_true (hall e he hb)
    .rw[l' j hji] at hlj
     exact getD_set_true (hc j o' hj hlj e he hb)
   have hu':un ops (listed.setIfInBounds i true)<=fuel:=by
    have:un ops (listed.setIfInBounds i true)<un ops listed:=by
     refine Nc (x:=i) (lU.2 hlt) (fun y hy=>?_) (by simp[h1]) (by simp[hsz,hlt]);by_cases hyi:y=i
     .subst hyi;simp[hsz,hlt] at hy
     .rwa [getD_set_ne true (Ne.symm hyi)] at hy
    omega
   have next:=ih _ sz' hc' hu'
   have e1:(cc (dh (listed.setIfInBounds i true)) 0 s0 us).1=dm (cc (dh listed) 0 s0 us).1 o.dst u.f:=by
    funext x;rw[hd];by_cases hx:u.d=some x
    .-- i is the last to write x
     have key: ∀(us':List Rc) (k:Nat) (s:ST) (p:Nat->Bool) (m:Nat),us'[m]? =some u->p (k+m)=true->(∀j r,us'[j]? =some r->r.d=some x->j≠m->j<m\/p (k+j)=false)->(cc p k s us').1 x=some u.f:=by
      intro us'
      induction us' with
      |nil=>intro k s p m h;simp at h
      |cons r t iht=>
       intro k s p m h hp hj;simp only[cc]
       cases m with
       |zero=>
        simp at h;subst h;rw[gW] at hp;rw[hp];have:(cc p (k+1) (r.ap s) t).1 x=(cc (fun _=>false) (k+1) (r.ap s) t).1 x:=xi J fun j r' hj' hd'=>by
         have:=hj (j+1) r' omG hd' pb;rw[show k+(j+1)=k+1+j by omega] at this;exact this.resolve_left pb
        simp only[if_true,this];have nosel: ∀(l:List Rc) (k:Nat) (s:ST),cc (fun _=>false) k s l=s:=fun l=>by
         induction l with
         |nil=>intro k s;rfl
         |cons y l ih=>intro k s;exact ih _ _
        rw[nosel];simp[Rc.ap,dm,hx]
       |succ m=>
        refine iht _ _ p m omu (by rw[show k+1+m=k+(m+1) by omega];exact hp) fun j r' hj' hd' hne=>?_;have:=hj (j+1) r' omG hd' pb;rw[show k+1+j=k+(j+1) by omega];exact this.imp (fun h=>by omega) id
     rw[key us 0 s0 _ i hui (by rw[eX];exact li') fun j r hj hdr hne=>?_]
     .rw[hx];simp[dm]
     .rw[eX,l' j hne]
      have:=nb j r hj (.inl (by simp[kD,hdr,hx,vN]));rw[<-this];by_cases hji:j<i
      .exact .inl hji
      .exact .inr (by simpa using hji)
    .rw[Hy hx]
     refine xi J fun j r hj hdr=>?_;rw[eX];exact l' j fun e=>by subst e;rw[hui] at hj;cases hj;exact hx hdr
   have e2:(cc (dh (listed.setIfInBounds i true)) 0 s0 us).2=upB (cc (dh listed) 0 s0 us).2 u.bl:=by
    funext x;by_cases hx: ∃e∈u.bl,e.1=x
    .have key: ∀(us':List Rc) (k:Nat) (s s':ST) (p q:Nat->Bool) (m:Nat),us'[m]? =some u->p (k+m)=true->(∀j r,us'[j]? =some r->(∃e∈r.bl,e.1=x)->j≠m->q (k+j)=p (k+j)/\(j<m\/p (k+j)=false))->q (k+m)=false->s.2 x=s'.2 x->(cc p k s us').2 x=upB (cc q k s' us').2 u.bl x:=by
      intro us'
      induction us' with
      |nil=>intro k s s' p q m h;simp at h
      |cons r t iht=>
       intro k s s' p q m h hp hj hq hs;simp only[cc]
       cases m with
       |zero=>
        simp at h;subst h;rw[gW] at hp hq;rw[hp,hq];have nosel: ∀(l:List Rc) (k:Nat) (s:ST),cc (fun _=>false) k s l=s:=fun l=>by
         induction l with
         |nil=>intro k s;rfl
         |cons y l ih=>intro k s;exact ih _ _
        have a1:(cc p (k+1) (r.ap s) t).2 x=(cc (fun _=>false) (k+1) (r.ap s) t).2 x:=wc J fun j r' hj' hd'=>by
         have:=(hj (j+1) r' omG hd' pb).2;rw[show k+(j+1)=k+1+j by omega] at this;exact this.resolve_left pb
        have a2:(cc q (k+1) s' t).2 x=(cc (fun _=>false) (k+1) s' t).2 x:=wc J fun j r' hj' hd'=>by
         obtain⟨h3,h4⟩:=hj (j+1) r' omG hd' pb;rw[show k+(j+1)=k+1+j by omega] at h3 h4;rw[h3];exact h4.resolve_left pb
        simp only[if_true,iL,if_false,a1,nosel];exact Aq fun _=>by rw[a2,nosel];exact hs
       |succ m=>
        refine iht _ _ _ p q m omu (by rw[show k+1+m=k+(m+1) by omega];exact hp) (fun j r' hj' hd' hne=>?_) (by rw[show k+1+m=k+(m+1) by omega];exact hq) ?_
        .obtain⟨h3,h4⟩:=hj (j+1) r' omG hd' pb
         rw[show k+1+j=k+(j+1) by omega];exact⟨h3,h4.imp (fun h=>by omega) id⟩
        .by_cases hr: ∃e∈r.bl,e.1=x
         .have:=(hj 0 r J hr pb).1
          rw[gW] at this;rw[this]
          cases p k
          .exact hs
          .exact Aq fun _=>hs
         .have: ∀(b:Bool) (s:ST),(if b then r.ap s else s).2 x=s.2 x:=fun b s=>by
           cases b
           .rfl
           .exact Cc fun e he hc=>hr ⟨e,he,hc⟩
          rw[this,this];exact hs
     refine key us 0 s0 s0 _ _ i hui (by rw[eX];exact li') (fun j r hj hdr hne=>?_) (by rw[eX];exact hli) J;rw[eX];refine⟨(l' j hne).symm,?_⟩;rw[l' j hne];obtain⟨e,he,rfl⟩:=hx;obtain⟨e',he',hee⟩:=hdr;have hh:kD u r=true:=by
      unfold kD;rw[gR];exact .inr (jX.2 ⟨e,he,by rw[gR];exact .inr (jX.2 ⟨e',he',by simpa using hee⟩)⟩)
     rw[<-nb j r hj (.inr hh)];by_cases hji:j<i
     .exact .inl hji
     .exact .inr (by simpa using hji)
    .rw[Cc fun e he hc=>hx ⟨e,he,hc⟩]
     refine wc J fun j r hj hdr=>?_;rw[eX];exact l' j fun e=>by subst e;rw[hui] at hj;cases hj;exact hx hdr
   rw[e1,e2] at next
   have sub1:iO (kA u.rs (cc (fun j=>decide (j<i)) 0 s0 us).1) (cc (dh listed) 0 s0 us).1:=fun x f hx=>by
    unfold kA at hx
    cases hm:th u.rs x with
    |false=>rw[hm] at hx;cases hx
    |true=>
     rw[hm,cond_true] at hx;rw[<-hx];refine(xi J fun j r hj hdr=>?_).symm;rw[eX];exact nb j r hj (.inl (by simp[kD,hdr,hm]))
   have sub2:iO (kA u.rn (cc (fun j=>decide (j<i)) 0 s0 us).2) (cc (dh listed) 0 s0 us).2:=fun x B hx=>by
    unfold kA at hx
    cases hm:th u.rn x with
    |false=>rw[hm] at hx;cases hx
    |true=>
     rw[hm,cond_true] at hx;rw[<-hx];refine(wc J fun j r hj hdr=>?_).symm;rw[eX];obtain⟨e,he,rfl⟩:=hdr;refine nb j r hj (.inl ?_);unfold kD;rw[gR];exact .inr (jX.2 ⟨e,he,by rw[hm];rfl⟩)
   have fr:ir u.nw o.dst (cc (dh listed) 0 s0 us).1 (cc (dh listed) 0 s0 us).2:=fun nm hnm=>by
    obtain⟨g1,g2⟩:=D.fr0 u (aV hui) nm hnm;have men: ∀j r,us[j]? =some r->dh listed j=true->nE r nm=false:=fun j r hj hlj=>by
     rcases qL j i with h|h|h
     .exact(spec i u hui j r hj h).2 nm hnm
     .subst h;rw[hli] at hlj;cases hlj
     .cases hm:nE r nm with
      |false=>rfl
      |true=>have:=clo listed hc j i ((spec j r hj i u hui h).1 (.inr (.inr ⟨nm,hnm,hm⟩))) hlj;rw[hli] at this;cases this
    refine⟨fun k f hk e=>?_,fun k B hk e hm=>?_⟩
    .intro hc'
     rcases Ja e with h|⟨j,r,h1,h2,h3,h4⟩
     .exact g1 k f h hc'
     .have:=men j r h1 ozq
      simp only[nE,rM,ud] at this;rw[h4,xy.2 hc'] at this
      cases this.1
    .rcases Ih e with h|⟨j,r,h1,h2,h3⟩
     .exact g2 k B h hm
     .have:=men j r h1 ozq
      simp only[nE,rM] at this;have:=List.any_eq_false.1 this.2 _ h3;exact this (EC hm)
   have fin:=hop Q _ _ _ sub1 sub2 fr next
   have:=fin.run ρ G ov a w r;unfold wO at this;unfold wpOpIn;rw[ho];simp only;split
   .rename_i hw;rw[if_pos hw] at this;exact this
   .rename_i hw;rw[if_neg hw] at this;exact⟨fun _ _=>trivial,this⟩
def A4(m k:Nat):dh (Array.replicate m false) k=false:=by unfold dh;simp[pS];split<;>rfl
def i7.region{us:List Rc}{s0:ST}{id:Nat}(D:i7 P GB C n ops us s0)(hm:P.follows .mixedOrders=true)(hk:SX GB C n (cc (fun _=>true) 0 s0 us).1 (cc (fun _=>true) 0 s0 us).2 (Q .normal)):SX GB C n s0.1 s0.2 (f8 C.rd P (.region id ops true) Q):=by
 have h:=D.walk hk ops.size (Array.replicate ops.size false) v8 (fun i o _ hi=>by rw[A4] at hi;cases hi) (by unfold un;exact cJ (lX _ _) v8);have e:cc (dh (Array.replicate ops.size false)) 0 s0 us=s0:=by
  have: ∀(l:List Rc) (k:Nat) (s:ST),cc (dh (Array.replicate ops.size false)) k s l=s:=fun l=>by
   induction l with
   |nil=>intro k s;rfl
   |cons y l ih=>
    intro k s;simp only[cc];rw[ih];rw[A4];rfl
  exact this us 0 s0
 rw[e] at h;exact h.drew.imp fun a w k=>wpIn_region_any hm k
end
abbrev aA:=List (Nat×FX)
abbrev aF:=List (Nat×Option Bk)
def aI:aA->Nat->Option FX
 |[],_=>none
 |(k,v)::t,j=>bif Nat.beq k j then some v else aI t j
def aO:aF->Nat->Option Bk
 |[],_=>none
 |(k,v)::t,j=>bif Nat.beq k j then v else aO t j
def q8{α:Type}:aF->Nat->Option Bk->(aF->α)->α
 |[],nm,B,k=>k [(nm,B)]
 |(j,v)::t,nm,B,k=>bif Nat.beq j nm then k ((nm,B)::t) else q8 t nm B fun t'=>k ((j,v)::t')
def oo{α:Type}:aF->List (Nat×Option Bk)->(aF->α)->α
 |own,[],k=>k own
 |own,(nm,B)::t,k=>q8 own nm B fun own'=>oo own' t k
def jf(own:aF)(nm:Nat)(B:Option Bk):aF:=q8 own nm B id
def rE(own:aF)(l:List (Nat×Option Bk)):aF:=oo own l id
def sO{α:Type}{nm:Nat}{B:Option Bk}: ∀{own:aF} {k:aF->α},q8 own nm B k=k (jf own nm B)
 |[],k=>rfl
 |(j,v)::t,k=>by
  unfold jf q8
  cases Nat.beq j nm with
  |true=>rfl
  |false=>rw[cond_false,cond_false,sO (own:=t),sO (own:=t)];rfl
def tu{α:Type}: ∀{l:List (Nat×Option Bk)} {own:aF} {k:aF->α},oo own l k=k (rE own l)
 |[],own,k=>rfl
 |(nm,B)::t,own,k=>by
  unfold rE oo;rw[sO,sO,tu (l:=t),tu (l:=t)];rfl
def i9(k:Nat)(v:FX)(t:aA)(j:Nat):aI ((k,v)::t) j=if j=k then some v else aI t j:=by
 simp only[aI];by_cases h:k=j
 .simp[h]
 .have:Nat.beq k j=false:=by
   cases hb:Nat.beq k j with
   |false=>rfl
   |true=>exact absurd (aR hb) h
  simp[this,Ne.symm h]
def f7(k:Nat)(v:Option Bk)(t:aF)(j:Nat):aO ((k,v)::t) j=if j=k then v else aO t j:=by
 simp only[aO];by_cases h:k=j
 .simp[h]
 .have:Nat.beq k j=false:=by
   cases hb:Nat.beq k j with
   |false=>rfl
   |true=>exact absurd (aR hb) h
  simp[this,Ne.symm h]
def ql{nm:Nat}{B:Option Bk}(j:Nat): ∀own:aF,aO (jf own nm B) j=if j=nm then B else aO own j
 |[]=>f7 nm B [] j
 |(k,v)::t=>by
  have ih:=ql (nm:=nm) (B:=B) j t;unfold jf q8
  cases hb:Nat.beq k nm with
  |true=>
   have e:=aR hb;subst e;rw[cond_true,id,f7,f7];by_cases h:j=k<;>simp[h]
  |false=>
   have hne:k≠nm:=fun e=>by subst e;simp at hb
   rw[cond_false,sO,id,f7,f7,ih];by_cases h:j=k
   .subst h;simp[hne]
   .simp[h]
def Bb: ∀(l:List (Nat×Option Bk)) (own:aF),aO (rE own l)=upB (aO own) l
 |[],own=>rfl
 |(nm,B)::t,own=>by
  have:rE own ((nm,B)::t)=rE (jf own nm B) t:=by rw[rE,oo,sO];rfl
  rw[this,Bb t];simp only[upB];congr 1;funext j;exact ql j own
def A5(fr:aA)(dst:Option Nat)(f:FX):aA:=match dst with
 |some d=>(d,f)::fr
 |none=>fr
def BE{fr:aA}{f:FX}:aI (A5 fr dst f)=dm (aI fr) dst f:=by
 cases dst with
 |none=>rfl
 |some d=>funext j;exact i9 d f fr j
def vE(T:TT)(n:Nat)(ops:Array Oper)(lk:LK)(bk:BM):Oper->Option CR
 |⟨dst,op,_,_,_,gd⟩=>bif bP n dst then(match gd with
  |none=>vb T lk bk dst op
  |some (j,b)=>match ops[j]? with
   |some oj=>match oj.dst with
    |some d=>match lk d with
     |some .tt=>bif b then vb T lk bk dst op else some ⟨none, .un,[],[]⟩
     |some .ff=>bif b then some ⟨none, .un,[],[]⟩ else vb T lk bk dst op
     |some .un=>some ⟨none, .un,[],[]⟩
     |_=>none
    |none=>none
   |none=>none) else none
section
variable {ops:Array Oper}
def bD.toS{op:Op}{gd:Option (Nat×Bool)}{f:FX}{bl:List (Nat×Option Bk)}{nw:List Nat}(h:bD P GB C n lk bk ⟨dst,op,ty,pos,af,gd⟩ f bl nw)(hd:bP n dst=true)
  (hw: ∀ρ G ov a w,bz GB C n lk bk ρ G ov a w->Region.wanted ⟨dst,op,ty,pos,af,gd⟩ (yielded ops a.tmps)=true):s6 P GB C n ops lk bk ⟨dst,op,ty,pos,af,gd⟩ f bl nw:=by
 intro Q tl tb K s1 s2 hf hk;have:=h hd tl tb (fun a w=>a.defers=C.mks/\K a w) s1 s2 hf ⟨fun ρ G ov a w r=>⟨r.df,hk.run ρ G ov a w r⟩⟩;refine⟨fun ρ G ov a w r=>?_⟩;unfold wO;rw[if_pos (hw ρ G ov a w (r.mono s1 s2))];exact CQ (this.run ρ G ov a w r) fun a' w' k=>⟨k.1.trans r.df.symm,k.2⟩
def s6.skip{op:Op}{gd:Option (Nat×Bool)}(hd:bP n dst=true)
  (hw: ∀ρ G ov a w,bz GB C n lk bk ρ G ov a w->Region.wanted ⟨dst,op,ty,pos,af,gd⟩ (yielded ops a.tmps)=false):s6 P GB C n ops lk bk ⟨dst,op,ty,pos,af,gd⟩ .un [] []:=by
 intro Q tl tb K s1 s2 hf hk;refine⟨fun ρ G ov a w r=>?_⟩;unfold wO;rw[hw ρ G ov a w (r.mono s1 s2)];exact hk.run ρ G ov _ w (r.put J (r.putA undef hd))
def zg(r:bz GB C n lk bk ρ G ov a w){j d:Nat}{f:FX}(hj:ops[j]? =some oj)(hd:oj.dst=some d)(hf:lk d=some f): ∃y,bB ρ G f y/\yielded ops a.tmps j=match y with| .bool b=>some b|_=>none:=by
 obtain⟨y,h1,h2⟩:=r.fx d f hf;refine⟨y,h2,?_⟩;unfold yielded;rw[hj];simp only[Option.bind_some,hd,h1]
 cases y<;>rfl
def Mf{r:CR}(hT:lg P T)(h:vE T n ops lk bk o=some r)(hv: ∀p,r.vc=some p->p):s6 P GB C n ops lk bk o r.f r.bl r.nw/\bP n o.dst=true:=by
 obtain⟨dst,op,ty,pos,af,gd⟩:=o;simp only[vE] at h
 cases hd:bP n dst with
 |false=>rw[hd] at h;cases h
 |true=>
  rw[hd,cond_true] at h;refine⟨?_,J⟩;split at h
  .exact(vL hT h hv).toS hd fun _ _ _ _ _ _=>J
  .rename_i j b
   split at h<;>try (cases h;done)
   rename_i oj hj;split at h<;>try (cases h;done)
   rename_i d hdj;split at h<;>try (cases h;done)
   .rename_i hl
    have wt: ∀ρ G ov (a:Act) w,bz GB C n lk bk ρ G ov a w->Region.wanted ⟨dst,op,ty,pos,af,some (j,b)⟩ (yielded ops a.tmps)=b:=fun ρ G ov a w r=>by
     obtain⟨y,h1,h2⟩:=zg r hj hdj hl
     cases h1
     simp only[Region.wanted,h2];cases b<;>rfl
    cases b with
    |true=>exact(vL hT h hv).toS hd wt
    |false=>cases h;exact .skip hd wt
   .rename_i hl
    have wt: ∀ρ G ov (a:Act) w,bz GB C n lk bk ρ G ov a w->Region.wanted ⟨dst,op,ty,pos,af,some (j,b)⟩ (yielded ops a.tmps)=!b:=fun ρ G ov a w r=>by
     obtain⟨y,h1,h2⟩:=zg r hj hdj hl
     cases h1
     simp only[Region.wanted,h2];cases b<;>rfl
    cases b with
    |true=>cases h;exact .skip hd wt
    |false=>exact(vL hT h hv).toS hd wt
   .rename_i hl
    cases h
    refine .skip hd fun ρ G ov a w r=>?_;obtain⟨y,h1,h2⟩:=zg r hj hdj hl
    cases h1
    simp only[Region.wanted,h2];rfl
end
inductive Kt where
 |sq (c:Code)
 |bl (id:Nat)
 |sc
 |ag (A:Act->World->Prop)
def cQ(rd:Option Nat)(P:Program)(Q0:Exit->Act->World->Prop):List Kt->Exit->Act->World->Prop
 |[]=>Q0
 | .sq y::K=>Exit.then (f8 rd P y (cQ rd P Q0 K)) (cQ rd P Q0 K)
 | .bl id::K=>Exit.inBlock id (cQ rd P Q0 K)
 | .sc::K=>Exit.noGoto (cQ rd P Q0 K)
 | .ag A::K=>Exit.then A (cQ rd P Q0 K)
inductive Cf where
 |code (c:Code) (K:List Kt)
 |ops (ops:Array Oper) (r:List Oper) (K:List Kt)
 |dr (id:Nat) (ops:Array Oper) (fr0:aA) (own0:aF) (us:List Rc) (r:List Oper) (K:List Kt)
 |ex (e:Exit) (K:List Kt)
structure uV (P:Program) (GB:Gh) (C:aD) (n:Nat) (ops:Array Oper) (fr0:aA) (own0:aF) (us:List Rc) (r:List Oper) (fr:aA) (own:aF):Prop where
 pre: ∃pre,ops.toList=pre++r/\pre.length=us.length
 st:cc (fun _=>true) 0 (aI fr0,aO own0) us=(aI fr,aO own)
 snd: ∀i u o,us[i]? =some u->ops[i]? =some o->o.dst=u.d/\s6 P GB C n ops (kA u.rs (cc (fun j=>decide (j<i)) 0 (aI fr0,aO own0) us).1) (kA u.rn (cc (fun j=>decide (j<i)) 0 (aI fr0,aO own0) us).2) o u.f u.bl u.nw
def ao(P:Program)(GB:Gh)(C:aD)(n:Nat)(Q0:Exit->Act->World->Prop)(fr:aA)(own:aF):Cf->Prop
 | .code c K=>SX GB C n (aI fr) (aO own) (f8 C.rd P c (cQ C.rd P Q0 K))
 | .ops ops r K=>SX GB C n (aI fr) (aO own) (wpListIn (FW C.rd) 0 P ops (cQ C.rd P Q0 K) r)
 | .dr id ops fr0 own0 us r K=>uV P GB C n ops fr0 own0 us r fr own->SX GB C n (aI fr0) (aO own0) (f8 C.rd P (.region id ops true) (cQ C.rd P Q0 K))
 | .ex e K=>SX GB C n (aI fr) (aO own) (cQ C.rd P Q0 K e)
structure vC where
 vc:List Prop
 fr:aA
 own:aF
 cf:Cf
def acc(v:Option Prop)(l:List Prop):List Prop:=match v with
 |some p=>p::l
 |none=>l
def D0(v:Option Prop)(l:List Prop)(k:List Prop->α):α:=match v with
 |some p=>k (p::l)
 |none=>k l
def IT{k:List Prop->α}:D0 v l k=k (acc v l):=by cases v<;>rfl
def vq(fr:aA)(dst:Option Nat)(f:FX)(k:aA->α):α:=match dst with
 |some d=>k ((d,f)::fr)
 |none=>k fr
def vM{fr:aA}{f:FX}{k:aA->α}:vq fr dst f k=k (A5 fr dst f):=by cases dst<;>rfl
def oP(nw:List Nat)(dst:Option Nat)(fr:aA)(own:aF):Bool:=nw.all fun nm=>fr.all (fun e=>vN dst e.1||!ud nm e.2)&&own.all fun e=>Nat.beq e.1 nm||!B3 nm e.2
def vf:List Operand->List Nat
 |[]=>[]
 | .tmp t::r=>t::vf r
 |_::r=>vf r
def CN(fr:aA):List Nat->List Nat
 |[]=>[]
 |t::r=>match aI fr t with
  |some f=>match f.nm with
   |some nm=>nm::CN fr r
   |none=>CN fr r
  |none=>CN fr r
def C8(o:Oper)(fr:aA)(rs:List Nat):List Nat:=match o.op with
 | .move _=>[]
 |_=>CN fr rs
def wq(ops:Array Oper)(o:Oper):List Nat:=match o.guard with
 |some (j,_)=>match ops[j]? with
  |some oj=>match oj.dst with
   |some d=>d::vf o.op.operands.toList
   |none=>vf o.op.operands.toList
  |none=>vf o.op.operands.toList
 |none=>vf o.op.operands.toList
def go(T:TT)(n:Nat):Nat->List Prop->aA->aF->Cf->vC
 |0,l,fr,own,cf=>⟨l,fr,own,cf⟩
 |k+1,l,fr,own, .code c K=>match c with
  | .seq x y=>go T n k l fr own (.code x (.sq y::K))
  | .region id ops d=>bif d then go T n k l fr own (.dr id ops fr own [] ops.toList K) else go T n k l fr own (.ops ops ops.toList K)
  | .skip=>go T n k l fr own (.ex .normal K)
  | .ret=>go T n k l fr own (.ex .ret K)
  | .exit id=>go T n k l fr own (.ex (.exit id) K)
  | .block id c=>go T n k l fr own (.code c (.bl id::K))
  | .scope c=>go T n k l fr own (.code c (.sc::K))
  | .label _=>go T n k l fr own (.ex .normal K)
  | .cond c x y=>match ba (aI fr) c with
   |some .tt=>go T n k l fr own (.code x K)
   |some .ff=>go T n k l fr own (.code y K)
   |_=>⟨l,fr,own, .code (.cond c x y) K⟩
  |c=>⟨l,fr,own, .code c K⟩
 |k+1,l,fr,own, .ex e K=>match K with
  | .sq y::K'=>match e with
   | .normal=>go T n k l fr own (.code y K')
   |e=>go T n k l fr own (.ex e K')
  | .bl id::K'=>match e with
   | .exit j=>bif Nat.beq j id then go T n k l fr own (.ex .normal K') else go T n k l fr own (.ex (.exit j) K')
   |e=>go T n k l fr own (.ex e K')
  | .sc::K'=>bif PJ e then go T n k l fr own (.ex e K') else⟨l,fr,own, .ex e (.sc::K')⟩
  | .ag A::K'=>match e with
   | .normal=>⟨l,fr,own, .ex .normal (.ag A::K')⟩
   |e=>go T n k l fr own (.ex e K')
  |[]=>⟨l,fr,own, .ex e []⟩
 |k+1,l,fr,own, .ops ops r K=>match r with
  |[]=>go T n k l fr own (.ex .normal K)
  |o::r'=>match vE T n ops (aI fr) (aO own) o with
   |some ⟨v,f,bl,nw⟩=>bif oP nw o.dst fr own then oo own bl fun own'=>D0 v l fun l'=>vq fr o.dst f fun fr'=>go T n k l' fr' own' (.ops ops r' K) else⟨l,fr,own, .ops ops (o::r') K⟩
   |none=>⟨l,fr,own, .ops ops (o::r') K⟩
 |k+1,l,fr,own, .dr id ops fr0 own0 us r K=>match r with
  |[]=>go T n k (((s9 (nC ops.toList []) [] us&&lw 0 ops.toList&&Cm us fr0 own0)=true)::l) fr own (.ex .normal K)
  |o::r'=>kb (wq ops o) fun rs=>kb (C8 o fr rs) fun rn=>match vE T n ops (kA rs (aI fr)) (kA rn (aO own)) o with
   |some ⟨v,f,bl,nw⟩=>oo own bl fun own'=>kb (us++[⟨rs,o.dst,f,rn,bl,nw⟩]) fun us'=>D0 v l fun l'=>vq fr o.dst f fun fr'=>go T n k l' fr' own' (.dr id ops fr0 own0 us' r' K)
   |none=>⟨l,fr,own, .dr id ops fr0 own0 us (o::r') K⟩
def aj:List Prop->Prop
 |[]=>True
 |[p]=>p
 |p::t=>aj t/\p
def Of{p:Prop}:aj (p::t)↔aj t/\p:=by cases t<;>simp[aj]
def IK(h:aj (acc v l)):aj l/\ ∀p,v=some p->p:=by
 cases v with
 |none=>exact⟨h,fun p e=>by cases e⟩
 |some q=>obtain⟨h1,h2⟩:=Of.1 h;exact⟨h1,fun p e=>by cases e;exact h2⟩
def EU{f:FX}{k:Nat}: ∀{fr:aA},aI fr k=some f->(k,f)∈fr
 |[],h=>by cases h
 |(j,g)::t,h=>by
  rw[i9] at h;split at h
  .cases h;rename_i e;rw[e];exact aZ
  .exact aK _ (EU h)
def HF{B:Bk}{k:Nat}: ∀{own:aF},aO own k=some B->(k,some B)∈own
 |[],h=>by cases h
 |(j,g)::t,h=>by
  rw[f7] at h;split at h
  .rename_i e;rw[e,h];exact aZ
  .exact aK _ (HF h)
def t7{nw:List Nat}{fr:aA}{own:aF}(h:oP nw dst fr own=true):ir nw dst (aI fr) (aO own):=fun nm hnm=>by
 have:=dZ.1 h nm hnm;simp only[bV] at this;refine⟨fun k f hk e hc=>?_,fun k B hk e hm=>?_⟩
 .have:=dZ.1 this.1 _ (EU e)
  simp only[gR,fN,ud] at this;rcases this with h|h
  .exact hk (xy.1 h).symm
  .rw[xy.2 hc] at h;cases h
 .have:=dZ.1 this.2 _ (HF e)
  simp only[gR,fN] at this;rcases this with h|h
  .exact hk (aR h)
  .rw[EC hm] at h;cases h
def Mh{us:List Rc}{fr:aA}{own:aF}(h:Cm us fr own=true): ∀r∈us,∀nm∈r.nw,(∀k f,aI fr k=some f->f.nm≠some nm)/\ ∀k B,aO own k=some B-> ¬B.men nm:=fun r hr nm hnm=>by
 have:=dZ.1 (dZ.1 h r hr) nm hnm;simp only[bV] at this;refine⟨fun k f e hc=>?_,fun k B e hm=>?_⟩
 .have:=dZ.1 this.1 _ (EU e)
  simp only[fN,ud] at this;rw[xy.2 hc] at this;cases this
 .have:=dZ.1 this.2 _ (HF e)
  simp only[fN] at this;rw[EC hm] at this;cases this
section
variable {fr fr0:aA}{own own0:aF}{ops:Array Oper}{us:List Rc}{r:List Oper}{K:List Kt}
def Dc{p q:Nat->Bool}{u:Rc}: ∀{us:List Rc} {k:Nat} {s:ST},(∀j,j<us.length->p (k+j)=q (k+j))->cc p k s (us++[u])=if p (k+us.length) then u.ap (cc q k s us) else cc q k s us
 |[],k,s,h=>rfl
 |x::t,k,s,h=>by
  simp only[iT,cc];rw[Dc (q:=q) fun j hj=>by have:=h (j+1) omk;rwa [show k+(j+1)=k+1+j by omega] at this];have h0:=h 0 v8;rw[gW] at h0;rw[h0,bY,show k+1+t.length=k+(t.length+1) by omega]
def uV.push(D:uV P GB C n ops fr0 own0 us (o::r) fr own){rs rn nw:List Nat}{f:FX}{bl:List (Nat×Option Bk)}(h:s6 P GB C n ops (kA rs (aI fr)) (kA rn (aO own)) o f bl nw):uV P GB C n ops fr0 own0 (us++[⟨rs,o.dst,f,rn,bl,nw⟩]) r (A5 fr o.dst f) (rE own bl):=by
 obtain⟨pre,hp,hl⟩:=D.pre;refine⟨⟨pre++[o],by rw[hp];simp,by simp[hl]⟩,?_,fun i u o' hu ho=>?_⟩
 .rw[Dc (q:=fun _=>true) fun _ _=>J,if_pos J,D.st]
  simp only[Rc.ap];rw[BE,Bb]
 .rw[List.getElem?_append] at hu
  split at hu
  .rename_i hi
   obtain⟨h1,h2⟩:=D.snd i u o' hu ho;rw[Dc (q:=fun j=>decide (j<i)) fun _ _=>J,if_neg omk];exact⟨h1,h2⟩
  .rename_i hi
   by_cases e:i=us.length
   .subst e
    simp at hu;subst hu;have ho':ops[us.length]? =some o:=by
     have:ops.toList[us.length]? =some o:=by rw[hp,<-hl];simp
     simpa using this
    rw[ho'] at ho;cases ho;refine⟨J,?_⟩;rw[Dc (q:=fun _=>true) fun j hj=>by simpa using hj,if_neg v8,D.st];exact h
   .rw[dR omk] at hu;cases hu
def uV.done(D:uV P GB C n ops fr0 own0 us [] fr own){id:Nat}(hm:P.follows .mixedOrders=true)(h:(s9 (nC ops.toList []) [] us&&lw 0 ops.toList&&Cm us fr0 own0)=true)(hk:SX GB C n (aI fr) (aO own) (cQ C.rd P Q0 K .normal)):
  SX GB C n (aI fr0) (aO own0) (f8 C.rd P (.region id ops true) (cQ C.rd P Q0 K)):=by
 obtain⟨pre,hp,hl⟩:=D.pre;simp only[bV] at h;have D':i7 P GB C n ops us (aI fr0,aO own0):=⟨by rw[<-hl,<-kQ,hp];simp,D.snd,h.1.1,h.1.2,Mh h.2⟩;exact D'.region hm (by rw[D.st];exact hk)
def SX.op{f:FX}{bl:List (Nat×Option Bk)}{nw:List Nat}(h:s6 P GB C n ops (aI fr) (aO own) o f bl nw)(hf:ir nw o.dst (aI fr) (aO own))(hk:SX GB C n (aI (A5 fr o.dst f)) (aO (rE own bl)) (wpListIn (FW C.rd) 0 P ops Q r)):SX GB C n (aI fr) (aO own) (wpListIn (FW C.rd) 0 P ops Q (o::r)):=by
 rw[BE,Bb] at hk;refine(h Q _ _ _ (iO.refl _) (iO.refl _) hf hk).imp fun a w q=>?_;unfold wO at q;simp only[wpListIn];split
 .rename_i hw;rw[if_pos hw] at q;exact q
 .rename_i hw;rw[if_neg hw] at q;exact⟨fun _ _=>trivial,q⟩
def SX.cond{lk:LK}{bk:BM}{Q:Exit->Act->World->Prop}{c:Operand}{x y:Code}{b:Bool}{f:FX}(hc:ba lk c=some f)(hb:qH f=some b)(h1:b=true->SX GB C n lk bk (f8 C.rd P x Q))(h2:b=false->SX GB C n lk bk (f8 C.rd P y Q)):SX GB C n lk bk (f8 C.rd P (.cond c x y) Q):=by
 refine⟨fun ρ G ov a w r=>?_⟩;obtain⟨v,hv,hv'⟩:=r.ev hc;rw[uE hv' hb] at hv;exact VV (bg (b9 a) hv) (fun e=>(h1 e).run ρ G ov a w r) (fun e=>(h2 e).run ρ G ov a w r)
def hH(hT:lg P T)(hm:P.follows .mixedOrders=true): ∀(k:Nat) (l:List Prop) (fr:aA) (own:aF) (cf:Cf),aj (go T n k l fr own cf).vc->aj l/\(ao P GB C n Q0 (go T n k l fr own cf).fr (go T n k l fr own cf).own (go T n k l fr own cf).cf->ao P GB C n Q0 fr own cf)
 |0,l,fr,own,cf,h=>by simp only[go] at h⊢;exact⟨h,id⟩
 |k+1,l,fr,own, .code c K,h=>by
  cases c with
  |seq x y=>simp only[go] at h⊢;obtain⟨h1,h2⟩:=hH hT hm k _ _ _ _ h;exact⟨h1,fun hk=>(h2 hk).imp fun a w q=>Q9 q⟩
  |region id ops d=>
   simp only[go] at h⊢
   cases d with
   |false=>simp only[cond_false] at h⊢;obtain⟨h1,h2⟩:=hH hT hm k _ _ _ _ h;exact⟨h1,fun hk=>(h2 hk).imp fun a w q=>SF q⟩
   |true=>simp only[cond_true] at h⊢;obtain⟨h1,h2⟩:=hH hT hm k _ _ _ _ h;exact⟨h1,fun hk=>h2 hk ⟨⟨[],rfl,rfl⟩,rfl,fun i u o hu=>by simp at hu⟩⟩
  |skip=>simp only[go] at h⊢;obtain⟨h1,h2⟩:=hH hT hm k _ _ _ _ h;exact⟨h1,fun hk=>(h2 hk).imp fun a w q=>Vo q⟩
  |ret=>simp only[go] at h⊢;obtain⟨h1,h2⟩:=hH hT hm k _ _ _ _ h;exact⟨h1,fun hk=>(h2 hk).imp fun a w q=>QW q⟩
  |exit id=>simp only[go] at h⊢;obtain⟨h1,h2⟩:=hH hT hm k _ _ _ _ h;exact⟨h1,fun hk=>(h2 hk).imp fun a w q=>UV q⟩
  |block id c=>simp only[go] at h⊢;obtain⟨h1,h2⟩:=hH hT hm k _ _ _ _ h;exact⟨h1,fun hk=>(h2 hk).imp fun a w q=>TZ q⟩
  |scope c=>simp only[go] at h⊢;obtain⟨h1,h2⟩:=hH hT hm k _ _ _ _ h;exact⟨h1,fun hk=>(h2 hk).imp fun a w q=>X6 q⟩
  |label j=>simp only[go] at h⊢;obtain⟨h1,h2⟩:=hH hT hm k _ _ _ _ h;exact⟨h1,fun hk=>(h2 hk).imp fun a w q=>Vu q⟩
  |cond c x y=>
   simp only[go] at h⊢
   cases hc:ba (aI fr) c with
   |none=>simp only[hc] at h⊢;exact⟨h,id⟩
   |some f=>
    cases f with
    |tt=>simp only[hc] at h⊢;obtain⟨h1,h2⟩:=hH hT hm k _ _ _ _ h;exact⟨h1,fun hk=>SX.cond hc rfl (fun _=>h2 hk) (fun e=>by cases e)⟩
    |ff=>simp only[hc] at h⊢;obtain⟨h1,h2⟩:=hH hT hm k _ _ _ _ h;exact⟨h1,fun hk=>SX.cond hc rfl (fun e=>by cases e) (fun _=>h2 hk)⟩
    |_=>simp only[hc] at h⊢;exact⟨h,id⟩
  |_=>simp only[go] at h⊢;exact⟨h,id⟩
 |k+1,l,fr,own, .ex e K,h=>by
  cases K with
  |nil=>simp only[go] at h⊢;exact⟨h,id⟩
  |cons x K=>
   cases x with
   |sq y=>cases e<;>(simp only[go] at h⊢;obtain⟨h1,h2⟩:=hH hT hm k _ _ _ _ h;exact⟨h1,fun hk=>h2 hk⟩)
   |bl id=>
    cases e with
    |exit j=>
     simp only[go] at h⊢
     cases hb:Nat.beq j id with
     |true=>
      simp only[hb,cond_true] at h⊢;obtain⟨h1,h2⟩:=hH hT hm k _ _ _ _ h;exact⟨h1,fun hk=>(h2 hk).imp fun a w q=>by simp only[cQ,Exit.inBlock,aR hb,if_true];exact q⟩
     |false=>
      have hne:j≠id:=fun e=>by subst e;simp at hb
      simp only[hb,cond_false] at h⊢;obtain⟨h1,h2⟩:=hH hT hm k _ _ _ _ h;exact⟨h1,fun hk=>(h2 hk).imp fun a w q=>by simp only[cQ,Exit.inBlock,hne,if_false];exact q⟩
    |_=>simp only[go] at h⊢;obtain⟨h1,h2⟩:=hH hT hm k _ _ _ _ h;exact⟨h1,fun hk=>h2 hk⟩
   |sc=>
    simp only[go] at h⊢
    cases hb:PJ e with
    |true=>
     simp only[hb,cond_true] at h⊢;obtain⟨h1,h2⟩:=hH hT hm k _ _ _ _ h;refine⟨h1,fun hk=>(h2 hk).imp fun a w q=>?_⟩
     cases e<;>first|exact q|cases hb
    |false=>simp only[hb,cond_false] at h⊢;exact⟨h,id⟩
   |ag A=>
    cases e with
    |normal=>simp only[go] at h⊢;exact⟨h,id⟩
    |_=>simp only[go] at h⊢;obtain⟨h1,h2⟩:=hH hT hm k _ _ _ _ h;exact⟨h1,fun hk=>h2 hk⟩
 |k+1,l,fr,own, .ops ops r K,h=>by
  cases r with
  |nil=>simp only[go] at h⊢;obtain⟨h1,h2⟩:=hH hT hm k _ _ _ _ h;exact⟨h1,fun hk=>h2 hk⟩
  |cons o r=>
   simp only[go] at h⊢
   cases hs:vE T n ops (aI fr) (aO own) o with
   |none=>simp only[hs] at h⊢;exact⟨h,id⟩
   |some x=>
    obtain⟨v,f,bl,nw⟩:=x;simp only[hs] at h⊢
    cases hf:oP nw o.dst fr own with
    |false=>simp only[hf,cond_false] at h⊢;exact⟨h,id⟩
    |true=>
     simp only[hf,cond_true] at h⊢;simp only[tu,IT,vM] at h⊢;obtain⟨h1,h2⟩:=hH hT hm k _ _ _ _ h;obtain⟨h3,h4⟩:=IK h1;exact⟨h3,fun hk=>SX.op (Mf hT hs h4).1 (t7 hf) (h2 hk)⟩
 |k+1,l,fr,own, .dr id ops fr0 own0 us r K,h=>by
  cases r with
  |nil=>
   simp only[go] at h⊢;obtain⟨h1,h2⟩:=hH hT hm k _ _ _ _ h;obtain⟨h3,h4⟩:=Of.1 h1;exact⟨h3,fun hk D=>D.done hm h4 (h2 hk)⟩
  |cons o r=>
   simp only[go,re] at h⊢;generalize wq ops o=rs at h⊢;generalize C8 o fr rs=rn at h⊢
   cases hs:vE T n ops (kA rs (aI fr)) (kA rn (aO own)) o with
   |none=>simp only[hs] at h⊢;exact⟨h,fun x=>x⟩
   |some x=>
    obtain⟨v,f,bl,nw⟩:=x;simp only[hs] at h⊢;simp only[tu,IT,vM] at h⊢;obtain⟨h1,h2⟩:=hH hT hm k _ _ _ _ h;obtain⟨h3,h4⟩:=IK h1;exact⟨h3,fun hk D=>h2 hk (D.push (Mf hT hs h4).1)⟩
end
end Go.Sx
end
section
namespace Go.Sx
open Go Go.Proofs Tryz
instance:kI prog 3:=⟨fun _=>by kernel_rfl,fun _=>by kernel_rfl⟩
instance:kI prog 4:=⟨fun _=>by kernel_rfl,fun _=>by kernel_rfl⟩
instance:iv prog 4 (.bool false):=⟨we⟩
instance:cg prog 46 225 1 4:=⟨we,we⟩
instance:jh prog 46:=⟨225,we⟩
instance:kI prog 67:=⟨fun _=>by kernel_rfl,fun _=>by kernel_rfl⟩
instance:cg prog 67 233 8 112:=⟨we,we⟩
instance:mo prog 69 0 0:=⟨fun _ _ _=>by kernel_rfl⟩
instance:mo prog 69 1 1:=⟨fun _ _ _=>by kernel_rfl⟩
instance:iv prog 225 (.int .u32 0):=⟨we⟩
instance:la prog 230 6:=⟨fun _=>by kernel_rfl,fun _=>by kernel_rfl⟩
instance:la prog 233 8:=⟨fun _=>by kernel_rfl,fun _=>by kernel_rfl⟩
instance:iv prog 233 (.agg ⟨[.bool false, .slice none 0 0, .bool false, .slice none 0 0, .bool false, .slice none 0 0, .int .i64 0, .int .i64 0]⟩):=⟨we⟩
instance:mo prog 233 0 0:=⟨fun _ _ _=>by kernel_rfl⟩
instance:mo prog 233 1 6:=⟨fun _ _ _=>by kernel_rfl⟩
instance:mo prog 233 2 7:=⟨fun _ _ _=>by kernel_rfl⟩
instance:kI prog 237:=⟨fun _=>by kernel_rfl,fun _=>by kernel_rfl⟩
instance:cg prog 237 4 1 1:=⟨we,we⟩
instance:iv prog 239 (.agg ⟨[.slice none 0 0, .slice none 0 0, .int .i64 0, .bool false]⟩):=⟨we⟩
instance:mo prog 239 0 0:=⟨fun _ _ _=>by kernel_rfl⟩
instance:mo prog 239 1 1:=⟨fun _ _ _=>by kernel_rfl⟩
instance:mo prog 239 2 2:=⟨fun _ _ _=>by kernel_rfl⟩
instance:mo prog 239 3 3:=⟨fun _ _ _=>by kernel_rfl⟩
instance:DI prog 239 [(0,1),(1,1),(2,1),(3,1)]:=⟨_,fun _=>YD underlying239 _,fun _=>by kernel_rfl⟩
instance:la prog 243 9:=⟨fun _=>by kernel_rfl,fun _=>by kernel_rfl⟩
instance:iv prog 243 (.agg ⟨[.int .i64 0, .int .i64 0, .pointer none, .int .i64 0, .int .i64 0, .pointer none, .int .i64 0, .int .i64 0, .pointer none]⟩):=⟨we⟩
instance:cg prog 253 330 17 128:=⟨we,we⟩
instance:jh prog 253:=⟨330,we⟩
instance:cg prog 254 330 17 128:=⟨we,we⟩
def follows:prog.follows .mixedOrders=true:=by kernel_rfl
end Go.Sx
end
