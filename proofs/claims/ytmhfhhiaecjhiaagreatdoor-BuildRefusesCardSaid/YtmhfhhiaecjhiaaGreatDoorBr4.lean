import Derived.Test.YtmhfhhiaecjhiaaGreatDoorBr3
import Derived.CallsIn
import Derived.OrdersIn
import Derived.TacticsIn
import Derived.RangeFuncIn
import Derived.RangeFuncRecord
import Derived.Test.YtmhfhhiaecjhiaaGreatDoorProg
set_option linter.all false
set_option maxRecDepth 100000
section
namespace Go.Sx
open Go
section
variable {P:Program} {T:TT} {GB:Gh} {C:aC} {n:Nat} {lk:LK} {bk:BM} {ρ:NE} {G:Gh} {ov:List au} {a:Act} {w:World}
variable {dst:Option Nat} {t t' ty':TypeId} {pos:String} {af:Array Edge} {gd:Option (Nat×Bool)} {x y z:Operand}
def aI8(P:Program)(GB:Gh)(C:aC)(n:Nat)(lk:LK)(bk:BM)(o:Oper)(r:CR):Prop:=(∀p,r.vc=some p->p)->b7 P GB C n lk bk o r.f r.bl r.nw
def pw{r:Option FX}{c:CR}(h:ny r=some c): ∃f,r=some f/\c=⟨none,f,[],[]⟩:=by
 unfold ny at h;split at h
 .cases h;exact⟨_,J,J⟩
 .cases h
def zy{r:Option (Option Prop×FX)}{c:CR}(h:uX r=some c): ∃v f,r=some (v,f)/\c=⟨v,f,[],[]⟩:=by
 unfold uX at h;split at h
 .cases h;exact⟨_,_,J,J⟩
 .cases h
def qk{α:Type}{K:FX->Option α}{r:α}(h:nn lk x K=some r): ∃f,aI lk x=some f/\K f=some r:=by
 unfold nn at h;split at h
 .exact⟨_,by assumption,h⟩
 .cases h
def vw{α:Type}{K:FX->FX->Option α}{r:α}(h:sG lk x y K=some r): ∃f g,aI lk x=some f/\aI lk y=some g/\K f g=some r:=by
 unfold sG at h;split at h
 .split at h
  .exact⟨_,_,by assumption,by assumption,h⟩
  .cases h
 .cases h
def Ez{α:Type}{K:TI->Option α}{r:α}(hT:kO P T)(h:yE T t K=some r): ∃i,e7 P t=some i/\K i=some r:=by
 unfold yE at h;split at h
 .rename_i i hi;exact⟨i,hT _ _ hi,h⟩
 .cases h
def Gx{α:Type}{K:List (Nat×Nat×Nat)->TI->Option α}{r:α}(hT:kO P T)(h:zF T t K=some r): ∃fo i,e7 P t=some i/\i.k= .st fo/\K fo i=some r:=by
 unfold zF at h;split at h
 .rename_i fo sz z za hi;exact⟨fo,_,hT _ _ hi,rfl,h⟩
 .cases h
def b7.x1{o:Oper}{f g:FX}(e:aI lk x=some f)(h: ∀ρ G ov (a:Act) w y,bF C ov G w->b5 GB C n lk bk ρ G ov a w->aD (cC a) x=some y->b6 ρ G f y-> ∃u,b6 ρ G g u/\Yd P C (cC a) ov G o u):b7 P GB C n lk bk o g [] []:=
 .yd fun ρ G ov a w r=>by
  obtain⟨y,h1,h2⟩:=r.ev e;exact h ρ G ov a w y r.h r h1 h2
def YI{f:FX}(e:aI lk x=some f):b7 P GB C n lk bk ⟨dst, .move x,ty',pos,af,gd⟩ f [] []:= .x1 e fun _ _ _ _ _ y _ _ h1 h2=>⟨y,h2,Dl h1⟩
def Y1{f:FX}(e:aI lk x=some f):b7 P GB C n lk bk ⟨dst, .assign x,ty',pos,af,gd⟩ f [] []:= .x1 e fun _ _ _ _ _ y _ _ h1 h2=>⟨y,h2,EK h1⟩
def aBb{c f g v:FX}(ec:aI lk z=some c)(e1:aI lk x=some f)(e2:aI lk y=some g)(h:F6 c f g=some v):b7 P GB C n lk bk ⟨dst, .pick z x y,ty',pos,af,gd⟩ v [] []:= .yd fun ρ G ov a w r=>by
 obtain⟨u,h1,h2⟩:=r.ev ec;unfold F6 at h;split at h
 .cases h;cases h2;obtain⟨u,h3,h4⟩:=r.ev e1;exact⟨u,h4,R7 h1 h3⟩
 .cases h;cases h2;obtain⟨u,h3,h4⟩:=r.ev e2;exact⟨u,h4,Xw h1 h3⟩
 .cases h
def W5{f g:FX}{v:Option Prop}(e:aI lk x=some f)(h:GA f=some (v,g))(hv: ∀r,v=some r->r):b7 P GB C n lk bk ⟨dst, .nilCheck x,ty',pos,af,gd⟩ g [] []:= .x1 e fun ρ G ov a w y _ _ h1 h2=>by
 have key: ∀l,Is G (.pt l) y-> ∃u,b6 ρ G (.ep l) u/\Yd P C (cC a) ov G ⟨dst, .nilCheck x,ty',pos,af,gd⟩ u:=fun l h2=>by
  obtain⟨b,m,rfl,hb,hm⟩:=l7.1 h2;refine⟨_,⟨b,0,m,m,J,hb,?_,hm⟩,sk h1⟩;rw[jC _ _ _ (by rw[hm.len];omega),gT,cR (by rw[hm.len];omega)]
 unfold GA at h;split at h<;>cases h
 .obtain⟨b,hb,rfl⟩:=h2;exact⟨_,⟨b,hb,rfl⟩,sk h1⟩
 .obtain⟨b,o,cs,m,rfl,h3⟩:=h2;exact⟨_,⟨b,o,cs,m,rfl,h3⟩,sk h1⟩
 .obtain⟨b,hb,rfl⟩:=h2;exact⟨_,⟨b,hb,rfl⟩,sk h1⟩
 .exact key _ h2
 .rcases tA.1 (show Is G _ y from h2) with⟨e,_⟩|⟨_,h3⟩
  .have:=hv _ J;rw[e] at this;cases this
  .exact key _ h3
def Wy{f g:FX}{fo:List (Nat×Nat×Nat)}{i:TI}{k:Nat}(hi:e7 P t=some i)(hk:i.k= .st fo)(e:aI lk x=some f)(h:FO fo k f=some g):b7 P GB C n lk bk ⟨dst, .fieldAddr t x k,ty',pos,af,gd⟩ g [] []:= .x1 e fun ρ G ov a w y _ _ h1 h2=>by
 unfold FO at h;split at h
 .rename_i off ft s ho
  have:=Sg hi hk ho;split at h
  .cases h;obtain⟨b,hb,rfl⟩:=h2;exact⟨_,⟨b,hb,rfl⟩,xO h1⟩
  .rename_i l
   cases hb:Nat.ble off l.length with
   |false=>rw[hb] at h;cases h
   |true=>
    rw[hb,cond_true,rC] at h;cases h;obtain⟨b,o,cs,m,rfl,hb',ht,hm⟩:=h2;refine⟨_,⟨b,o+off,cs,m.drop off,J,hb',?_,hm.drop _⟩,xO h1⟩;rw[fN];exact Dh ht (by simpa using hb)
  .cases h
   obtain⟨b,hb,rfl⟩:=h2;exact⟨_,⟨b,hb,J⟩,by rw[<-lK];exact xO h1⟩
  .cases h
 .cases h
def UV{f g:FX}{fo:List (Nat×Nat×Nat)}{i:TI}{k:Nat}(hT:kO P T)(hi:e7 P t=some i)(hk:i.k= .st fo)(e:aI lk x=some f)(h:Ep T fo k f=some g):b7 P GB C n lk bk ⟨dst, .field t x k,ty',pos,af,gd⟩ g [] []:= .x1 e fun ρ G ov a w y _ _ h1 h2=>by
 unfold Ep at h;split at h<;>try (cases h;done)
 rename_i cs;split at h<;>try (cases h;done)
 rename_i off ft s ho;split at h<;>try (cases h;done)
 rename_i j hj;obtain⟨m,rfl,hm⟩:=dm.1 (show Is G _ y from h2);have:=VX hi hk ho;split at h<;>try (cases h;done)
 .rename_i q ha
  have:=wT (hT _ _ hj) ha;split at h<;>cases h;rename_i l hl;obtain⟨l',h3,h4⟩:=hm.takeD hl;exact⟨.agg ⟨l'⟩,dm.2 ⟨l',J,h4⟩,Vz h1 h3⟩
 .rename_i ha
  have:=vd (hT _ _ hj) ha;split at h<;>cases h;rename_i c hc;obtain⟨l',h3,h4⟩:=hm.get hc;exact⟨l',h4,YH h1 h3⟩
def b5.own{nm off:Nat}{y:Value}{ty:TypeId}{cs:List FX}{lo:Bool}(r:b5 GB C n lk bk ρ G ov a w)(h2:b6 ρ G (.ov nm off) y)(hb:bk nm=some (.o ty cs lo)): ∃b m,y= .pointer (some ⟨b,off,none⟩)/\(ρ nm).a=some ⟨b,0,none⟩/\dt ρ G cs m/\⟨b,m,ty,lo⟩∈ov:=by
 obtain⟨os,⟨b,m,h3,rfl,h4⟩,h5⟩:=r.bx _ _ hb;obtain⟨b',h6,rfl⟩:=h2;rw[h3] at h6;cases h6;exact⟨b,m,J,h3,h4,h5 _ aQ⟩
def Zr{f g:FX}{i:TI}(hi:e7 P t=some i)(e:aI lk x=some f)(h:Ej bk i f=some g):b7 P GB C n lk bk ⟨dst, .load t x,ty',pos,af,gd⟩ g [] []:= .x1 e fun ρ G ov a w y _ r h1 h2=>by
 unfold Ej at h;split at h<;>try (cases h;done)
 .rename_i k ha
  have:=wT hi ha;split at h<;>try (cases h;done)
  .split at h<;>try (cases h;done)
   rename_i hb;split at h<;>try (cases h;done)
   rename_i l hl;obtain⟨b,m,rfl,h3,h4,h5⟩:=r.own h2 hb;obtain⟨l',h6,h7⟩:=h4.takeX hl;have:gz ov b m _ _:=⟨h5⟩;exact⟨.agg ⟨l'⟩,GQ h7 h,Dv h1 h6⟩
  .split at h<;>cases h
   rename_i hl;obtain⟨b,o,ms,m,rfl,hb,ht,hm⟩:=h2;obtain⟨l',h3,h4⟩:=hm.takeD hl;exact⟨.agg ⟨l'⟩,dm.2 ⟨l',J,h4⟩,O3 h1 hb (by simpa using MM ht h3)⟩
 .rename_i ha
  have:=vd hi ha;split at h<;>try (cases h;done)
  .split at h<;>try (cases h;done)
   rename_i hb;obtain⟨b,m,rfl,h3,h4,h5⟩:=r.own h2 hb;obtain⟨l',h6,h7⟩:=h4.get h;have:gz ov b m _ _:=⟨h5⟩;exact⟨l',h7,yK h1 h6⟩
  .split at h<;>cases h
   obtain⟨b,o,ms,m,rfl,hb,ht,hm⟩:=h2;obtain⟨l',h3,h4⟩:=hm.get (i:=0) rfl;have:=JH ht (i:=0) (Nat.succ_pos _);rw[gV] at this;exact⟨l',h4,xG h1 hb (by rw[this];exact h3)⟩
def V'{f g:FX}{i:Nat}(e:aI lk x=some f)(h:DH i f=some g):b7 P GB C n lk bk ⟨dst, .extract x i,ty',pos,af,gd⟩ g [] []:= .x1 e fun ρ G ov a w y _ r h1 h2=>by
 unfold DH at h;split at h<;>try (cases h;done)
 .split at h<;>cases h
  rename_i hv;obtain⟨m,rfl,hm⟩:=rP.1 (show Is G _ y from h2);obtain⟨l',h3,h4⟩:=hm.get hv;exact⟨l',h4,EE h1 (by simpa using h3)⟩
 .obtain⟨m1,m2,rfl,k1,k2⟩:=h2
  obtain⟨l',h3,h4⟩:=NI (ρ:=ρ) h k1 k2;exact⟨l',h4,EE h1 (by simpa using h3)⟩
def Fo{fo:List (Nat×Nat×Nat)}(r:b5 GB C n lk bk ρ G ov a w): ∀(ps:List (Nat×Operand)) (cs out:List FX) (m:List Value),s7 lk fo cs ps=some out->dt ρ G cs m-> ∃l,tE (cC a) (fo.map fun x=>(x.1,x.2.2)) m ps=some l/\dt ρ G out l
 |[],cs,out,m,e,hm=>by simp only[s7] at e;cases e;exact⟨m,J,hm⟩
 |(i,x)::ps,cs,out,m,e,hm=>by
  simp only[s7] at e;split at e
  .rename_i off q k d ho hd
   cases hc:(d.okc&&(Nat.beq d.cells.length k&&Nat.ble (off+k) cs.length)) with
   |false=>rw[hc] at e;cases e
   |true=>
    rw[hc] at e;simp only[aM,Nat.beq_eq_true_eq,Nat.ble_eq] at hc;obtain⟨h1,h2,h3⟩:=hc;replace h2:=aS h2;obtain⟨y,hy,hy'⟩:=r.ev hd;obtain⟨c1,_⟩:=hy'.cells h1;have c2:=c1.len;obtain⟨l,hl1,hl2⟩:=Fo r ps _ out _ e (hm.ov c1 (off:=off));refine⟨l,?_,hl2⟩;simp only[tE,fY,ho,kR,hy];rw[if_pos ⟨by rw[c2,h2],by rw[hm.len];exact h3⟩];exact hl1
  .cases e
def T'{fo:List (Nat×Nat×Nat)}{i:TI}{zx:List FX}{cs:List FX}{f:FX}{parts:Array (Nat×Operand)}(hi:e7 P t=some i)(hk:i.k= .st fo)(hz:i.z=some zx)(h:s7 lk fo zx parts.toList=some cs)(hf:ue cs=some f):
  b7 P GB C n lk bk ⟨dst, .build t parts,ty',pos,af,gd⟩ f [] []:= .yd fun ρ G ov a w r=>by
 obtain⟨v,hv,hv'⟩:=Al hi hz;have:=RM hi hk;obtain⟨l,h1,h2⟩:=Fo r _ _ _ _ h (hv' ρ G);exact⟨.agg ⟨l⟩,GQ h2 hf,Ke h1⟩
def yq{k:IntKind}{p:Int}{v:Option Prop}{f:FX}(h:vN k p=some (v,f)):f= .d (.v (.int k p))/\((∀q,v=some q->q)->k.min<=p/\p<=k.max):=by
 obtain⟨q,h1,h2⟩:=RI h
 cases h1
 exact⟨J,fun k=>h2 (k _ J)⟩
def c8{k:IntKind}{p:Int}{y:Value}:b6 ρ G (.d (.v (.int k p))) y↔y= .int k p:=aP (G:=G)
def LZ(b:BitVec 64):IntKind.u64.wrap (b.toNat:Int)=(b.toNat:Int):=qO ⟨by show(0:Int)<=_;omega,by have:=b.isLt;show _<=(18446744073709551615:Int);omega⟩
def z7(b:BitVec 32):IntKind.u32.wrap (b.toNat:Int)=(b.toNat:Int):=qO ⟨by show(0:Int)<=_;omega,by have:=b.isLt;show _<=(4294967295:Int);omega⟩
def Ac{op:BinOp}{k j:IntKind}{p q:Int}{v:Option Prop}{f:FX}(h:xL op k p q=some (v,f))(hop:op= .shr\/op= .shl)(hv: ∀r,v=some r->r){fr:Fr}(hx:aD fr x=some (.int k p))(hy:aD fr y=some (.int j q)): ∃u,b6 ρ G f u/\Yd P C fr ov G ⟨dst, .binOp op t x y t',ty',pos,af,gd⟩ u:=by
 rcases hop with rfl|rfl<;>cases h
 .exact⟨_,c8.2 J,aCb hx hy (hv _ J)⟩
 .exact⟨_,c8.2 J,aCq hx hy (hv _ J)⟩
def Z2{op:BinOp}{k:IntKind}{p q:Int}{v:Option Prop}{f:FX}(h:xL op k p q=some (v,f))(hv: ∀r,v=some r->r){fr:Fr}(hx:aD fr x=some (.int k p))(hy:aD fr y=some (.int k q)): ∃u,b6 ρ G f u/\Yd P C fr ov G ⟨dst, .binOp op t x y t',ty',pos,af,gd⟩ u:=by
 cases op with
 |add=>obtain⟨rfl,h2⟩:=yq h;exact⟨_,c8.2 rfl,LR hx hy (h2 hv)⟩
 |sub=>obtain⟨rfl,h2⟩:=yq h;exact⟨_,c8.2 rfl,Yj hx hy (h2 hv)⟩
 |mul=>obtain⟨rfl,h2⟩:=yq h;exact⟨_,c8.2 rfl,WV hx hy (h2 hv)⟩
 |quo=>
  cases k<;>cases h<;>first
   |exact⟨_,c8.2 J,Jn hx hy (hv _ J)⟩
   |(obtain⟨h1,h2,h3⟩:=hv _ rfl;exact⟨_,c8.2 rfl,Y3 hx hy h1 h2 h3⟩)
 |rem=>
  cases k<;>cases h<;>first
   |exact⟨_,c8.2 J,Eb hx hy (hv _ J)⟩
   |(obtain⟨h1,h2⟩:=hv _ rfl;exact⟨_,c8.2 rfl,UJ hx hy h1 h2⟩)
 |shr=>exact Ac h (.inl J) hv hx hy
 |shl=>exact Ac h (.inr J) hv hx hy
 |or=>
  cases k<;>cases h<;>refine⟨_,c8.2 J,j0 hx hy fun w=>?_⟩
  .show(pure (Value.int .u32 (IntKind.u32.wrap ((BitVec.ofInt 32 p ||| BitVec.ofInt 32 q).toNat:Int))):Sem Value).run P w=_
   rw[z7];rfl
  .show(pure (Value.int .u64 (IntKind.u64.wrap ((BitVec.ofInt 64 p ||| BitVec.ofInt 64 q).toNat:Int))):Sem Value).run P w=_
   rw[LZ];rfl
 |and=>
  cases k<;>cases h<;>refine⟨_,c8.2 J,j0 hx hy fun w=>?_⟩
  .show(pure (Value.int .u32 (IntKind.u32.wrap ((BitVec.ofInt 32 p &&& BitVec.ofInt 32 q).toNat:Int))):Sem Value).run P w=_
   rw[z7];rfl
  .show(pure (Value.int .u64 (IntKind.u64.wrap ((BitVec.ofInt 64 p &&& BitVec.ofInt 64 q).toNat:Int))):Sem Value).run P w=_
   rw[LZ];rfl
 |lss=>cases h;exact⟨_,J,YR hx hy⟩
 |leq=>cases h;exact⟨_,J,Xy hx hy⟩
 |gtr=>cases h;exact⟨_,J,Mh hx hy⟩
 |geq=>cases h;exact⟨_,J,WB hx hy⟩
 |eql=>cases h;exact⟨_,J,GH hx hy⟩
 |neq=>cases h;exact⟨_,J,ZJ hx hy⟩
 |_=>cases h
def NO{mx:Bool}{f g u:FX}(e1:aI lk x=some f)(e2:aI lk y=some g)(h:Bi mx f g=some u){t1 t2:TypeId}:b7 P GB C n lk bk ⟨dst, .call ⟨.builtin (if mx then .max else .min),⟨[x,y]⟩,⟨[t1,t2]⟩⟩,ty',pos,af,gd⟩ u [] []:= .yd fun ρ G ov a w r=>by
 obtain⟨p,h1,h2⟩:=r.ev e1;obtain⟨q,h3,h4⟩:=r.ev e2;unfold Bi at h;split at h<;>try (cases h;done)
 rename_i k p' j q';rw[c8] at h2 h4;subst h2 h4
 cases hk:kq k j with
 |false=>rw[hk] at h;cases h
 |true=>
  rw[hk] at h;cases AB hk
  cases mx<;>cases h
  .refine⟨_,c8.2 J,?_⟩
   intro a' w' hf hh;simp only[cM,if_false,execOp,resolve,iQ,bJ,dS,bz hf h1,bz hf h3];have h1:(Builtin.min_ #[t1,t2] ty' #[.int k p', .int k q']).run P w'= .ok (.int k (if q'<p' then q' else p')) w':=by
    simp[Builtin.min_,Builtin.min2,run_pure]
   exact cI h1
  .refine⟨_,c8.2 J,?_⟩
   intro a' w' hf hh;simp only[if_true,execOp,resolve,iQ,bJ,dS,bz hf h1,bz hf h3];have h1:(Builtin.max_ #[t1,t2] ty' #[.int k p', .int k q']).run P w'= .ok (.int k (if q'>p' then q' else p')) w':=by
    simp[Builtin.max_,Builtin.max2,run_pure]
   exact cI h1
def Wj{f g:FX}{b:Bool}(hT:kO P T)(h:E2 T t f y=some b)(hx: ∃v,aD (cC a) x=some v/\b6 ρ G f v)(hy:aI lk y=some g):
  Yd P C (cC a) ov G ⟨dst, .binOp .eql t x y t',ty',pos,af,gd⟩ (.bool b)/\Yd P C (cC a) ov G ⟨dst, .binOp .neq t x y t',ty',pos,af,gd⟩ (.bool (!b)):=by
 obtain⟨v,h1,h2⟩:=hx;unfold E2 at h;split at h<;>try (cases h;done)
 .rename_i hi
  have:=Vy (hT _ _ hi) J;split at h<;>cases h
  .cases (aP (G:=G)).1 h2;exact⟨PG (.inl J) h1,Pb (.inl J) h1⟩
  .cases (aP (G:=G)).1 h2;exact⟨PG (.inr ⟨_,_,J⟩) h1,Pb (.inr ⟨_,_,J⟩) h1⟩
 .rename_i hi
  have:=Nd (hT _ _ hi) J;have key: ∀p,v= .pointer (some p)->Yd P C (cC a) ov G ⟨dst, .binOp .eql t x (.const (.pointer none)) t',ty',pos,af,gd⟩ (.bool false)/\Yd P C (cC a) ov G ⟨dst, .binOp .neq t x (.const (.pointer none)) t',ty',pos,af,gd⟩ (.bool (!false)):=fun p e=>by
   subst e;exact⟨CQ h1 J,Bz h1 J⟩
  split at h<;>cases h
  .cases (aP (G:=G)).1 h2;exact⟨CQ h1 J,Bz h1 J⟩
  .obtain⟨b,_,e⟩:=h2;exact key _ e
  .obtain⟨b,o,cs,m,e,_⟩:=h2;exact key _ e
  .obtain⟨b,_,e⟩:=h2;exact key _ e
  .obtain⟨b,m,e,_⟩:=l7.1 (show Is G _ v from h2);exact key _ e
 .rename_i hi
  have:=lg (hT _ _ hi) J;split at h<;>cases h
  cases h2;exact⟨LN h1 J,YS h1 J⟩
def aFL{op:BinOp}{f g u:FX}{v:Option Prop}(hT:kO P T)(e1:aI lk x=some f)(e2:aI lk y=some g)(h:Ht T op t f g y=some (v,u))(hv: ∀r,v=some r->r):b7 P GB C n lk bk ⟨dst, .binOp op t x y t',ty',pos,af,gd⟩ u [] []:= .yd fun ρ G ov a w r=>by
 obtain⟨p,h1,h2⟩:=r.ev e1;obtain⟨q,h3,h4⟩:=r.ev e2;unfold Ht at h;split at h
 .rename_i k p' j q'
  rw[c8] at h2 h4;subst h2 h4;split at h
  .exact Ac h (.inl J) hv h1 h3
  .exact Ac h (.inr J) hv h1 h3
  .cases hk:kq k j with
   |false=>rw[hk] at h;cases h
   |true=>rw[hk] at h;cases AB hk;exact Z2 h hv h1 h3
 .unfold J9 at h
  split at h<;>try (cases h;done)
  rename_i hi;have:=Nd (hT _ _ hi) J
  cases (aP (G:=G)).1 h4
  split at h<;>cases h<;>rcases tA.1 (show Is G _ p from h2) with⟨rfl,rfl⟩|⟨rfl,k⟩
  .exact⟨_,J,CQ h1 h3⟩
  .obtain⟨b,m,rfl,_⟩:=l7.1 k;exact⟨_,rfl,CQ h1 h3⟩
  .exact⟨_,J,Bz h1 h3⟩
  .obtain⟨b,m,rfl,_⟩:=l7.1 k;exact⟨_,rfl,Bz h1 h3⟩
 .split at h
  .rename_i b hb
   obtain⟨k1,k2⟩:=Wj (ρ:=ρ) (G:=G) (C:=C) (ov:=ov) (dst:=dst) (t':=t') (ty':=ty') (pos:=pos) (af:=af) (gd:=gd) hT hb ⟨p,h1,h2⟩ e2;split at h<;>cases h
   .exact⟨_,by cases b<;>rfl,k1⟩
   .exact⟨_,by cases b<;>rfl,k2⟩
  .split at h<;>try (cases h;done)
   rename_i hi ha hb;have:=T3 (hT _ _ hi) J;have e3:=uZ h2 ha;have e4:=uZ h4 hb;subst e3 e4;split at h<;>cases h
   .exact⟨_,(aP (G:=G)).2 J,Vh h1 h3⟩
   .exact⟨_,(aP (G:=G)).2 J,W1 h1 h3⟩
def W7{op:UnOp}{f u:FX}{v:Option Prop}(e1:aI lk x=some f)(h:Gt op f=some (v,u))(hv: ∀r,v=some r->r):b7 P GB C n lk bk ⟨dst, .unOp op t x,ty',pos,af,gd⟩ u [] []:= .x1 e1 fun ρ G ov a w y _ r h1 h2=>by
 unfold Gt at h;split at h<;>try (cases h;done)
 .split at h<;>cases h
  rename_i g hg;obtain⟨b,rfl,h3⟩:=aEK h2 hg;exact⟨_,h3,Kd h1⟩
 .split at h<;>try (cases h;done)
  obtain⟨rfl,h3⟩:=yq h;rw[c8] at h2;subst h2;refine⟨_,c8.2 J,?_⟩;have:=E7 (P:=P) (C:=C) (own:=ov) (G:=G) (dst:=dst) (ty':=ty') (pos:=pos) (af:=af) (gd:=gd) (t:=t) h1;rwa [Int.zero_sub,qO (h3 hv)] at this
def Xe{f u:FX}{v:Option Prop}(hT:kO P T)(e1:aI lk x=some f)(h:Hh T t t' f=some (v,u))(hv: ∀r,v=some r->r):b7 P GB C n lk bk ⟨dst, .convert t t' x,ty',pos,af,gd⟩ u [] []:= .x1 e1 fun ρ G ov a w y _ r h1 h2=>by
 unfold Hh at h;split at h<;>try (cases h;done)
 rename_i k _ _ _ k' _ _ _ hi hi';have:=wB (hT _ _ hi) J;have:=wB (hT _ _ hi') J;split at h<;>try (cases h;done)
 rename_i j p;rw[c8] at h2;subst h2
 cases hk:kq k j with
 |false=>rw[hk] at h;cases h
 |true=>
  rw[hk,cond_true] at h;cases AB hk;split at h
  .cases h;exact⟨_,c8.2 J,WX h1⟩
  .obtain⟨rfl,h3⟩:=yq h;exact⟨_,c8.2 rfl,Ny h1 (h3 hv)⟩
def b5.row{nm:Nat}{y:Value}{ty:TypeId}{s:Nat}{ds:List DV}{lo:Bool}(r:b5 GB C n lk bk ρ G ov a w)(hb:bk nm=some (.b ty s ds lo)): ∃B,dq G ⟨ρ nm,s,ty,ds,lo⟩ B/\ ∀o∈B,o∈ov:=by
 obtain⟨os,h1,h2⟩:=r.bx _ _ hb;exact⟨os,h1,h2⟩
def dq.len{β:dx}{B:List au}(h:dq G β B):β.x.n=β.ds.length:=by
 obtain⟨vs,h1,h2,_⟩:=h;rw[h1.len,h2.len]
def Ya{f g u:FX}{v:Option Prop}(hT:kO P T)(e1:aI lk x=some f)(e2:aI lk y=some g)(h:EL T bk t f g=some (v,u))(hv: ∀r,v=some r->r):b7 P GB C n lk bk ⟨dst, .indexAddr t x y,ty',pos,af,gd⟩ u [] []:= .yd fun ρ G ov a w r=>by
 obtain⟨p,h1,h2⟩:=r.ev e1;obtain⟨q,h3,h4⟩:=r.ev e2;unfold EL at h;split at h<;>try (cases h;done)
 rename_i nm;split at h<;>try (cases h;done)
 rename_i ty s ds lo hb;split at h<;>try (cases h;done)
 rename_i e' s' by_ _ _ _ hi;have:=lg (hT _ _ hi) J;split at h<;>try (cases h;done)
 rename_i k i
 cases hs:Nat.beq s s' with
 |false=>rw[hs] at h;cases h
 |true=>
  rw[hs,cond_true] at h;cases h
  cases aS hs
  rw[c8] at h4;subst h4
  cases h2
  obtain⟨B,hB,hBo⟩:=r.row (y:= .nilFunc) hb;have hl:=hB.len;simp only at hl;obtain⟨h5,h6⟩:=hv _ rfl;obtain⟨vs,hB1,hB2,_⟩:=hB;rcases hB1 with⟨e5,_,_⟩|⟨b,rest,lo',e5,_⟩
  .subst e5;have:=hB2.len;simp at this;rw[<-this] at h6;simp at h6;omega
  .have hw:(ρ nm).a=some ⟨b,0,none⟩:=by simp only at e5;rw[e5]
   rw[hw] at h1;refine⟨_,⟨b,hw,J⟩,?_⟩;have:=Gk (P:=P) (C:=C) (own:=ov) (G:=G) (dst:=dst) (ty':=ty') (pos:=pos) (af:=af) (gd:=gd) (t:=t) h1 h3 h5 (by rw[hl];exact h6);simpa using this
def aDG{f g:FX}{e s by_:Nat}(hS:cB P t e s by_)(e1:aI lk x=some f)(h:FU bk f=some g):b7 P GB C n lk bk ⟨dst, .call ⟨.builtin .len,⟨[x]⟩,⟨[t]⟩⟩,ty',pos,af,gd⟩ g [] []:= .x1 e1 fun ρ G ov a w y _ r h1 h2=>by
 have key: ∀l:List DV,Is G (.sl l) y-> ∃u,b6 ρ G (.d (.v (.int .i64 (l.length:Nat)))) u/\Yd P C (cC a) ov G ⟨dst, .call ⟨.builtin .len,⟨[x]⟩,⟨[t]⟩⟩,ty',pos,af,gd⟩ u:=fun l hl=>by
  obtain⟨k,z,es,rfl,hs,hl⟩:=ie.1 hl;have:=hs.len;rw[hl.len] at this;exact⟨_,c8.2 J,by rw[<-this];exact Cr h1⟩
 unfold FU at h;split at h
 .cases h;cases h2;exact⟨_,c8.2 J,Cr h1⟩
 .cases h;exact key _ h2
 .cases h;exact key _ h2.2
 .split at h<;>cases h
  rename_i hb
  cases h2
  obtain⟨B,hB,_⟩:=r.row (y:= .nilFunc) hb;have:=hB.len;simp only at this;exact⟨_,c8.2 J,by rw[<-this];exact Cr h1⟩
 .cases h
def YP{f g:FX}{d:Nat}(hg:g∈f.cells)(h:vP f d=true):g.nm≠some d:=by
 have key:g.nm=f.nm\/g.nm=none:=by
  unfold FX.cells at hg;split at hg
  .obtain⟨x,_,rfl⟩:=bX.1 hg;exact .inr rfl
  .rcases bS.1 hg with hg|hg
   .obtain⟨x,_,rfl⟩:=bX.1 hg;exact .inr rfl
   .rcases aU.1 hg with rfl|hg
    .exact .inl J
    .obtain⟨x,_,rfl⟩:=bX.1 hg;exact .inr rfl
  .exact .inl (by rw[aY.1 hg])
 rcases key with h'|h'
 .intro e;unfold vP at h;rw[<-h',e] at h;simp at h
 .rw[h'];simp
def b5.alloc(r:b5 GB C n lk bk ρ G ov a w){d b:Nat}{cs:List Value}{zs:List FX}{K:Act->World->Prop}{a':Act}{w':World}(hf:jO [d] (some d) lk bk)(hz:dt ρ G zs cs)(hn: ∀g∈zs,g.nm≠some d)
  (hk:SX GB C n (dO lk (some d) (.ov d 0)) (Sx.upB bk [(d,some (.o t zs true))]) K)(rl:gq C n (Sx.put (cC a) (some d) (.pointer (some ⟨b,0,none⟩))) (⟨b,cs,t,true⟩::ov) G a' w'):K a' w':=by
 have hnd:=(bZ.1 rl.h.nd).1;have hy:b6 (fun k=>if k=d then⟨some ⟨b,0,none⟩,0,0⟩ else ρ k) G (.ov d 0) (.pointer (some ⟨b,0,none⟩)):=⟨b,by simp,J⟩;have hB:jx (fun k=>if k=d then⟨some ⟨b,0,none⟩,0,0⟩ else ρ k) G d (.o t zs true) [⟨b,cs,t,true⟩]:=
  ⟨b,cs,by simp,J,hz.ren fun g hg m hm=>sv _ fun e'=>hn g hg (by rw[hm,e'])⟩
 refine hk.run _ _ _ a' w' (r.new hf (bD.refl _) rl.h hB ?_ (fun o ho=>aJ _ ho) ?_ hy (jz rl))
 .intro o ho;rw[aY.1 ho];exact aQ
 .intro o ho e';cases e';exact hnd o ho rfl
def MD{d:Nat}{f:FX}(e:aI lk x=some f)(hc:f.okc=true)(hn:vP f d=true):b7 P GB C n lk bk ⟨some d, .box t x,ty',pos,af,gd⟩ (.ov d 0) [(d,some (.o t f.cells true))] [d]:=by
 intro hd tl tb K s1 s2 hf hk;refine⟨fun ρ G ov a w r Q=>?_⟩;obtain⟨y,h1,h2⟩:=(r.mono s1 s2).ev e;exact Xb h1 hd (fun b a' w' rl=>r.alloc hf (h2.cells hc).1 (fun g hg=>YP hg hn) hk rl) a w Q ⟨r.h,r.sz,c6 a,r.df⟩
def aAU(v:Value):(tK v).nm=none:=by unfold tK;split<;>rfl
def Yo{d:Nat}{i:TI}{z:List FX}(hi:e7 P t=some i)(hz:i.z=some z):b7 P GB C n lk bk ⟨some d, .alloc t,ty',pos,af,gd⟩ (.ov d 0) [(d,some (.o t z true))] [d]:=by
 intro hd tl tb K s1 s2 hf hk;refine⟨fun ρ G ov a w r Q=>?_⟩;obtain⟨v,hv,hv'⟩:=Al hi hz;refine AJ hd (fun b a' w' rl=>r.alloc hf (hv' ρ G) (fun g hg=>?_) hk rl) a w Q ⟨r.h,r.sz,c6 a,r.df⟩;obtain⟨j,_,rfl⟩:=oC hi
 cases hj:j.zero with
 |none=>simp only[hj] at hz;cases hz
 |some u=>
  simp only[hj] at hz;cases hz;obtain⟨x,_,rfl⟩:=bX.1 hg;rw[aAU];simp
def iA.of_mem{b:Nat}{cs cs':List Value}{ty:TypeId}{lo:Bool}: ∀{own:List au},⟨b,cs,ty,lo⟩∈own-> ∃own',iA own b cs ty lo cs' own'/\⟨b,cs',ty,lo⟩∈own'/\ ∀o∈own,o.b≠b->o∈own'
 |[],h=>by cases h
 |x::t,h=>by
  rcases aU.1 h with rfl|h
  .exact⟨_, .hd ..,aQ,fun o ho hb=>(aU.1 ho).elim (fun e=>absurd (by rw[e]) hb) (fun e=>aJ _ e)⟩
  .obtain⟨own',h1,h2,h3⟩:=iA.of_mem h
   exact⟨x::own', .tl _ _ _ _ _ _ _ _ h1,aJ _ h2,fun o ho hb=>(aU.1 ho).elim (fun e=>by rw[e];exact aQ) (fun e=>aJ _ (h3 o e hb))⟩
def b5.wrote{nm:Nat}{b:Nat}{m m':List Value}{ty:TypeId}{cs cs':List FX}{lo:Bool}(r:b5 GB C n lk bk ρ G ov a w)(hb:bk nm=some (.o ty cs lo))(ha:(ρ nm).a=some ⟨b,0,none⟩){own':List au}(hm':dt ρ G cs' m')(h1:⟨b,m',ty,lo⟩∈own')(h2: ∀o∈ov,o.b≠b->o∈own')
  {K:Act->World->Prop}(hk:SX GB C n (dO lk dst .un) (Sx.upB bk [(nm,some (.o ty cs' lo))]) K){a':Act}{w':World}(rl:gq C n (Sx.put (cC a) dst undef) own' G a' w'):K a' w':=by
 have r2:=r.upB (G':=G) (ov':=own') (w':=w') (B':= .o ty cs' lo) (os:=[⟨b,m',ty,lo⟩]) (bD.refl _) rl.h ⟨b,m',ha,J,hm'⟩ (fun o ho=>by rw[aY.1 ho];exact h1) (fun o ho hne=>h2 o ho fun e=>hne (by rw[ha,e])) ⟨_,hb⟩;exact hk.run _ _ _ a' w' (r2.put J (jz rl))
def Zk{f:FX}(h:f.flat=true):f.okc=true:=by
 cases f with
 |d x=>cases x<;>first|exact h|(cases h;done)
 |bx=>cases h
 |_=>exact h
def aqC{f:FX}(h:f.flat=true):f.cells=[f]:=by
 cases f with
 |d x=>cases x<;>first|rfl|(cases h;done)
 |bx=>cases h
 |_=>rfl
def b6.flat{f:FX}{y:Value}(h:b6 ρ G f y)(k:f.flat=true):Go.Sx.flat y=true:=by
 obtain⟨h1,h2⟩:=h.cells (Zk k);rw[aqC k] at h1;have hl:=h1.len
 cases y with
 |agg l=>
  obtain⟨z,q,e,h4,h5⟩:=h1
  cases f with
  |d x=>cases x with
   |v u=>exact Is.flat (show Is G _ _ from h) k
   |ag l=>cases k
   |tp l=>cases k
   |pt l=>exact Is.flat (show Is G _ _ from h) k
   |op b l=>exact Is.flat (show Is G _ _ from h) k
   |sl l=>exact Is.flat (show Is G _ _ from h) k
  |ep l=>obtain⟨_,_,_,_,e,_⟩:=h;cases e
  |ip _ _=>obtain⟨_,e,_⟩:=h;cases e
  |ov _ _=>obtain⟨_,_,e⟩:=h;cases e
  |be _ _ _ _=>obtain⟨_,_,e⟩:=h;cases e
  |rs _ _ _ _=>obtain⟨_,_,_,e,_⟩:=h;cases e
  |ct l=>obtain⟨⟨_,_,e⟩,_⟩:=h;cases e
  |bx=>cases k
  |un=>cases k
  |no=>cases k
  |_=>cases h
 |_=>exact h2 _ (by simp[aE])
def Yb{fa fv:FX}{bl:List (Nat×Option Bk)}{i:TI}(hi:e7 P t=some i)(e1:aI lk x=some fa)(e2:aI lk y=some fv)(h:Cl bk i fa fv=some bl):b7 P GB C n lk bk ⟨dst, .store t x y,ty',pos,af,gd⟩ .un bl []:=by
 intro hd tl tb K s1 s2 hf hk;refine⟨fun ρ G ov a w r Q=>?_⟩;have r1:=r.mono s1 s2;obtain⟨p,h1,h2⟩:=r1.ev e1;obtain⟨q,h3,h4⟩:=r1.ev e2;unfold Cl at h;split at h<;>try (cases h;done)
 rename_i nm off;split at h<;>try (cases h;done)
 rename_i ty cs lo hb;obtain⟨b,m,rfl,ha,h5,h6⟩:=r1.own h2 hb;split at h<;>try (cases h;done)
 .rename_i k hk'
  have:=wT hi hk'
  cases hc:(fv.okc&&(Nat.beq fv.cells.length k&&Nat.ble (off+k) cs.length)) with
  |false=>rw[hc] at h;cases h
  |true=>
   rw[hc,cond_true,rC] at h;cases h;simp only[aM,Nat.beq_eq_true_eq,Nat.ble_eq] at hc;obtain⟨c1,c2,c3⟩:=hc;replace c2:=aS c2;obtain⟨h7,h8⟩:=h4.cells c1;obtain⟨own',u1,u2,u3⟩:=iA.of_mem (cs':=cp m off (aE q)) h6;exact Dk h1 h3 u1 (by rw[h7.len,c2]) (by rw[h5.len];exact c3) (dT.2 h8) hd (fun a' w' rl=>r.wrote (m:=m) (s2 _ _ hb) ha (h5.ov h7) u2 u3 hk rl) a w Q ⟨r.h,r.sz,c6 a,r.df⟩
 .rename_i hk'
  have:=vd hi hk'
  cases hc:(fv.flat&&Nat.blt off cs.length) with
  |false=>rw[hc] at h;cases h
  |true=>
   rw[hc,cond_true,rC] at h;cases h;simp only[aM,mX] at hc;obtain⟨own',u1,u2,u3⟩:=iA.of_mem (cs':=m.set off q) h6;exact wW h1 h3 u1 (by rw[h5.len];exact hc.2) (h4.flat hc.1) hd (fun a' w' rl=>r.wrote (m:=m) (s2 _ _ hb) ha (h5.set off h4) u2 u3 hk rl) a w Q ⟨r.h,r.sz,c6 a,r.df⟩
def wM{op:Op}{r:CR}(hT:kO P T)(h:wm T lk bk dst op=some r):aI8 P GB C n lk bk ⟨dst,op,ty',pos,af,gd⟩ r:=by
 intro hv;unfold wm at h;split at h
 .obtain⟨f,h1,rfl⟩:=pw h;exact YI h1
 .obtain⟨f,h1,rfl⟩:=pw h;exact Y1 h1
 .obtain⟨c,hc,h⟩:=qk h
  obtain⟨f,g,h1,h2,h⟩:=vw h;obtain⟨u,h3,rfl⟩:=pw h;exact aBb hc h1 h2 h3
 .split at h<;>try (cases h;done)
  obtain⟨i,hi,h⟩:=Ez hT h;split at h<;>try (cases h;done)
  rename_i z hz;rw[rC] at h;cases h;exact Yo hi hz
 .split at h<;>try (cases h;done)
  obtain⟨f,hf,h⟩:=qk h;rw[rC,cond_eq_ite] at h;split at h<;>cases h;rename_i hc;simp only[aM] at hc;exact MD hf hc.1 hc.2
 .obtain⟨f,h1,h⟩:=qk h;obtain⟨v,u,h3,rfl⟩:=zy h;exact W5 h1 h3 hv
 .obtain⟨fo,i,hi,hk,h⟩:=Gx hT h
  obtain⟨f,h1,h⟩:=qk h;obtain⟨u,h3,rfl⟩:=pw h;exact Wy hi hk h1 h3
 .obtain⟨fo,i,hi,hk,h⟩:=Gx hT h
  obtain⟨f,h1,h⟩:=qk h;obtain⟨u,h3,rfl⟩:=pw h;exact UV hT hi hk h1 h3
 .obtain⟨i,hi,h⟩:=Ez hT h
  obtain⟨f,h1,h⟩:=qk h;obtain⟨u,h3,rfl⟩:=pw h;exact Zr hi h1 h3
 .obtain⟨i,hi,h⟩:=Ez hT h
  obtain⟨f,g,h1,h2,h⟩:=vw h
  cases hb:Cl bk i f g with
  |none=>simp only[hb] at h;cases h
  |some bl=>simp only[hb] at h;cases h;exact Yb hi h1 h2 hb
 .obtain⟨f,h1,h⟩:=qk h;obtain⟨u,h3,rfl⟩:=pw h;exact V' h1 h3
 .obtain⟨fo,i,hi,hk,h⟩:=Gx hT h
  split at h<;>try (cases h;done)
  rename_i z hz;split at h<;>try (cases h;done)
  rename_i cs hcs;split at h<;>cases h;rename_i g hg;exact T' hi hk hz hcs hg
 .obtain⟨f,g,h1,h2,h⟩:=vw h;obtain⟨v,u,h3,rfl⟩:=zy h;exact aFL hT h1 h2 h3 hv
 .obtain⟨f,h1,h⟩:=qk h;obtain⟨v,u,h3,rfl⟩:=zy h;exact W7 h1 h3 hv
 .obtain⟨f,h1,h⟩:=qk h;obtain⟨v,u,h3,rfl⟩:=zy h;exact Xe hT h1 h3 hv
 .obtain⟨f,g,h1,h2,h⟩:=vw h;obtain⟨v,u,h3,rfl⟩:=zy h;exact Ya hT h1 h2 h3 hv
 .split at h<;>try (cases h;done)
  rename_i hi;obtain⟨f,h1,h⟩:=qk h;obtain⟨u,h3,rfl⟩:=pw h;exact aDG (lg (hT _ _ hi) J) h1 h3
 .obtain⟨f,g,h1,h2,h⟩:=vw h;obtain⟨u,h3,rfl⟩:=pw h;exact NO (mx:=true) h1 h2 h3
 .obtain⟨f,g,h1,h2,h⟩:=vw h;obtain⟨u,h3,rfl⟩:=pw h;exact NO (mx:=false) h1 h2 h3
 .cases h
end
def FW(r:Option Nat):Fence:={Fence.wide with round:=r}
def f8(r:Option Nat)(P:Program)(c:Code)(Q:Exit->Act->World->Prop)(a:Act)(w:World):Prop:=c.wpIn (FW r) 0 P Q a w
section
variable {r:Option Nat} {P:Program} {Q:Exit->Act->World->Prop} {a:Act} {w:World}
def tk{o:Option Nat}{c:Code}(h:o=none)(k:f8 o P c Q a w):c.wp P Q a w:=by
 subst h;exact wpIn_wide.1 k
def RE{c:Code}{Q':Exit->Act->World->Prop}(h:f8 r P c Q a w)(hq: ∀e a w,Q e a w->Q' e a w):f8 r P c Q' a w:=wpIn_mono h hq
def WW(h:Q .normal a w):f8 r P .skip Q a w:=wpIn_skip h
def as9{l:Nat}(h:Q .normal a w):f8 r P (.label l) Q a w:=wpIn_label h
def XG{id:Nat}(h:Q (.exit id) a w):f8 r P (.exit id) Q a w:=wpIn_exit h
def aAQ(h:Q .ret a w):f8 r P .ret Q a w:=wpIn_ret h
def VC{x y:Code}(h:f8 r P x (Exit.then (f8 r P y Q) Q) a w):f8 r P (.seq x y) Q a w:=wpIn_seq h
def Zj{c:Operand}{x y:Code}{t:Bool}(hc:a.eval c= .bool t)(ht:t=true->f8 r P x Q a w)(hf:t=false->f8 r P y Q a w):f8 r P (.cond c x y) Q a w:=wpIn_cond_split hc ht hf
def ZD{id:Nat}{c:Code}(h:f8 r P c (Exit.inBlock id Q) a w):f8 r P (.block id c) Q a w:=wpIn_block h
def vH{b:Frame}{k:List Item}{cs:List Frame}{c:Code}:step P (lone (b.atR a (.code (.scope c)::k)) cs w)= .next (lone (b.atR a (.code c:: .inScope c::k)) cs w):=
 step_lone_go (by simp[stepG,stepG.exec,Frame.atR])
def TU{b:Frame}{k:List Item}{cs:List Frame}{c:Code}:step P (lone (b.atR a (.inScope c::k)) cs w)= .next (lone (b.atR a k) cs w):=
 step_lone_go (by simp[stepG,stepG.exec,Frame.atR])
def Ux{c:Code}(h:f8 r P c (Exit.noGoto Q) a w):f8 r P (.scope c) Q a w:=by
 intro b k cs hro hb hr;have h0:(lone (b.atR a (.code (.scope c)::k)) cs w).fenced P (FW r):=fenced_calm hb hr J;obtain⟨e,a₁,w₁,hq,harr⟩:=h b (.inScope c::k) cs hro hb hr
 cases e with
 |normal=>exact⟨.normal,a₁,w₁,hq, .head h0 vH (StepsIn.trans harr (.one (fenced_calm hb hr J) TU))⟩
 |exit id=>
  have hx:exitTo id (.inScope c::k)=exitTo id k:=by simp[exitTo]
  exact⟨.exit id,a₁,w₁,hq,fun k' hk=> .head h0 vH (harr.1 k' (by rw[hx];exact hk)),fun hr' hk=>let⟨k₁,h1,h2⟩:=harr.2 hr' (by rw[hx];exact hk);⟨k₁,h1, .head h0 vH h2⟩⟩
 |goto l=>exact hq.elim
 |ret=>exact⟨_,a₁,w₁,hq, .of_steps (.one h0 vH) harr⟩
 |panic ch=>exact⟨_,a₁,w₁,hq, .of_steps (.one h0 vH) harr⟩
 |outgrown=>exact⟨_,a₁,w₁,hq, .of_steps (.one h0 vH) harr⟩
def TB{id:Nat}{ops:Array Oper}(h:wpListIn (FW r) 0 P ops Q ops.toList a w):f8 r P (.region id ops false) Q a w:=wpIn_region_list h
def R2{f:FuncId}{args:Array Value}{R:Ending->World->Prop}(h:Calls P f args w R):CallsIn (FW r) 0 P f args w R:=by
 have h1:CallsIn Fence.wide 0 P f args w R:=callsIn_wide.2 h
 cases r with
 |none=>exact h1
 |some l=>exact h1
def Aj{o:Oper}{K K':Act->World->Prop}(h: ∀Q,o.wp P a w K' Q)(hd: ∀a' w',K' a' w'->a'.defers=a.defers/\K a' w'):o.wpIn (FW r) 0 P a w K Q:=by
 have hs:o.semAt r a.eval=execOp a.eval o:=by
  cases r with
  |none=>rfl
  |some l=>
   refine Oper.semAt_some l a.eval o fun c hc=>?_;have h1:=h (fun _ _ _=>False);unfold Oper.wp at h1;obtain⟨dst,op,ty,pos,af,gd⟩:=o;simp only at hc;subst hc;unfold execOp at h1;simp only[Sem.run_bind,Result.andThen] at h1;split at h1
   .simp only[Sem.run_pure,Oper.upon] at h1
    have:=(hd _ _ h1).1
    cases dst<;>simp[Act.put] at this
   .rename_i x w1 hx
    cases x<;>simp only[Oper.upon] at h1
 have h1:=h (fun _ _ _=>False);unfold Oper.wp at h1;refine⟨fun _ _=>trivial,?_⟩;show o.uponIn (FW r) 0 P a K Q ((o.semAt r a.eval).run P w);rw[hs];generalize (execOp a.eval o).run P w=x at h1
 cases x with
 |ok nx w'=>
  cases nx with
  |value v=>exact(hd _ _ h1).2
  |skip=>exact(hd _ _ h1).2
  |defer d=>exact(hd _ _ h1).2
  |enter f args=>
   refine⟨fun h=>(by cases h),(R2 (r:=r) h1).mono fun e w'' he=>?_⟩
   cases e with
   |returned v=>exact(hd _ _ he).2
   |panicked ch=>exact he.elim
   |outgrown=>obtain⟨_,_,hq⟩:=he;exact hq.elim
  |row row args=>
   refine⟨fun h=>(by cases h),fun c cs hroom=>?_⟩;obtain⟨v,w'',hv,hst⟩:=h1 c cs;exact⟨v,w'',(hd _ _ hv).2,stepsIn_wide.2 hst⟩
  |round=>exact h1.elim
  |_=>exact h1.elim
 |halt y w'=>cases y<;>first|exact h1.elim|exact h1
end
def se:List Nat->Nat->Bool
 |[],_=>false
 |x::t,k=>Nat.beq x k||se t k
structure Rc where
 rs:List Nat
 d:Option Nat
 f:FX
 rn:List Nat
 bl:List (Nat×Option Bk)
 nw:List Nat
abbrev ST:=LK×BM
def Rc.ap(r:Rc)(s:ST):ST:=(dO s.1 r.d r.f,upB s.2 r.bl)
def cj(p:Nat->Bool):Nat->ST->List Rc->ST
 |_,s,[]=>s
 |k,s,r::t=>cj p (k+1) (if p k then r.ap s else s) t
def kh{α:Type}(l:List Nat)(g:Nat->Option α):Nat->Option α:=fun k=>bif se l k then g k else none
def BB{nm:Nat}: ∀{bl:List (Nat×Option Bk)} {s s':BM},((∀e∈bl,e.1≠nm)->s nm=s' nm)->upB s bl nm=upB s' bl nm
 |[],s,s',h=>h (by simp)
 |(k,B)::t,s,s',h=>by
  simp only[upB];refine BB fun ht=>?_;by_cases e:nm=k
  .simp[e]
  .simp only[e,if_false];exact h fun x hx=>(aU.1 hx).elim (fun c=>by rw[c];exact Ne.symm e) (ht x)
def As{nm:Nat}: ∀{bl:List (Nat×Option Bk)} {s:BM},(∀e∈bl,e.1≠nm)->upB s bl nm=s nm
 |[],s,h=>rfl
 |(k,B)::t,s,h=>by
  simp only[upB];rw[As fun e he=>h e (aJ _ he)];simp[Ne.symm (h _ aQ)]
def GJ{x:Nat}{d:Option Nat}{f:FX}{s:LK}(h:d≠some x):dO s d f x=s x:=by
 cases d with
 |none=>rfl
 |some d=>simp only[dO];rw[if_neg fun e=>h (by rw[e])]
def yI{x:Nat}{p q:Nat->Bool}: ∀{us:List Rc} {k:Nat} {s s':ST},s.1 x=s'.1 x->(∀j r,us[j]? =some r->r.d=some x->p (k+j)=q (k+j))->(cj p k s us).1 x=(cj q k s' us).1 x
 |[],k,s,s',h,_=>h
 |r::t,k,s,s',h,hp=>by
  simp only[cj];refine yI ?_ fun j u hj hd=>by have:=hp (j+1) u (by simpa using hj) hd;rwa [show k+(j+1)=k+1+j by omega] at this
  by_cases hd:r.d=some x
  .have:=hp 0 r J hd
   rw[gV] at this;rw[this];split
   .simp only[Rc.ap,dO,hd,if_true]
   .exact h
  .have: ∀(b:Bool) (s:ST),(if b then r.ap s else s).1 x=s.1 x:=fun b s=>by cases b<;>simp[Rc.ap,GJ hd]
   rw[this,this,h]
def wN{nm:Nat}{p q:Nat->Bool}: ∀{us:List Rc} {k:Nat} {s s':ST},s.2 nm=s'.2 nm->(∀j r,us[j]? =some r->(∃e∈r.bl,e.1=nm)->p (k+j)=q (k+j))->(cj p k s us).2 nm=(cj q k s' us).2 nm
 |[],k,s,s',h,_=>h
 |r::t,k,s,s',h,hp=>by
  simp only[cj];refine wN ?_ fun j u hj hd=>by have:=hp (j+1) u (by simpa using hj) hd;rwa [show k+(j+1)=k+1+j by omega] at this
  by_cases hd: ∃e∈r.bl,e.1=nm
  .have:=hp 0 r J hd
   rw[gV] at this;rw[this];split
   .exact BB fun _=>h
   .exact h
  .have: ∀(b:Bool) (s:ST),(if b then r.ap s else s).2 nm=s.2 nm:=fun b s=>by
    cases b
    .rfl
    .exact As fun e he hc=>hd ⟨e,he,hc⟩
   rw[this,this,h]
def N0{x:Nat}{f:FX}{p:Nat->Bool}: ∀{us:List Rc} {k:Nat} {s:ST},(cj p k s us).1 x=some f->s.1 x=some f\/ ∃j r,us[j]? =some r/\p (k+j)=true/\r.d=some x/\r.f=f
 |[],k,s,h=> .inl h
 |r::t,k,s,h=>by
  simp only[cj] at h;rcases N0 h with h|⟨j,u,h1,h2,h3⟩
  .cases hp:p k with
   |false=>rw[hp] at h;exact .inl h
   |true=>
    rw[hp] at h;simp only[if_true,Rc.ap] at h;by_cases hd:r.d=some x
    .rw[hd] at h;simp only[dO,if_true] at h;cases h;exact .inr ⟨0,r,J,by simpa using hp,hd,J⟩
    .rw[GJ hd] at h;exact .inl h
  .exact .inr ⟨j+1,u,by simpa using h1,by rw[show k+(j+1)=k+1+j by omega];exact h2,h3⟩
def JS{nm:Nat}{B:Bk}: ∀{bl:List (Nat×Option Bk)} {s:BM},upB s bl nm=some B->s nm=some B\/(nm,some B)∈bl
 |[],s,h=> .inl h
 |(k,B')::t,s,h=>by
  simp only[upB] at h;rcases JS h with h|h
  .by_cases e:nm=k
   .subst e;simp only[if_true] at h;subst h;exact .inr aQ
   .simp only[e,if_false] at h;exact .inl h
  .exact .inr (aJ _ h)
def NJ{nm:Nat}{B:Bk}{p:Nat->Bool}: ∀{us:List Rc} {k:Nat} {s:ST},(cj p k s us).2 nm=some B->s.2 nm=some B\/ ∃j r,us[j]? =some r/\p (k+j)=true/\(nm,some B)∈r.bl
 |[],k,s,h=> .inl h
 |r::t,k,s,h=>by
  simp only[cj] at h;rcases NJ h with h|⟨j,u,h1,h2,h3⟩
  .cases hp:p k with
   |false=>rw[hp] at h;exact .inl h
   |true=>
    rw[hp] at h;rcases JS h with h|h
    .exact .inl h
    .exact .inr ⟨0,r,J,by simpa using hp,h⟩
  .exact .inr ⟨j+1,u,by simpa using h1,by rw[show k+(j+1)=k+1+j by omega];exact h2,h3⟩
def TQ(acc:List Nat)(l:List Edge):Nat:=l.foldl (fun s e=>if Region.binds .any e then(s ||| 2^e.on) ||| acc.getD e.on 0 else s) 0
def nB:List Oper->List Nat->List Nat
 |[],acc=>acc
 |o::r,acc=>nB r (acc++[TQ acc o.after.toList])
inductive Bf (ops:List Oper):Nat->Nat->Prop
 |b {i:Nat} {o:Oper} {e:Edge} (ho:ops[i]? =some o) (he:e∈o.after) (hb:Region.binds .any e=true):Bf ops i e.on
 |s {i j:Nat} {o:Oper} {e:Edge} (ho:ops[i]? =some o) (he:e∈o.after) (hb:Region.binds .any e=true) (h:Bf ops e.on j):Bf ops i j
def Q3{acc:List Nat}{j:Nat}: ∀(l:List Edge) (s:Nat),(l.foldl (fun s e=>if Region.binds .any e then(s ||| 2^e.on) ||| acc.getD e.on 0 else s) s).testBit j=true->s.testBit j=true\/ ∃e∈l,Region.binds .any e=true/\(e.on=j\/(acc.getD e.on 0).testBit j=true)
 |[],s,h=> .inl h
 |e::t,s,h=>by
  rw[dY] at h;rcases Q3 t _ h with h|⟨e',h1,h2⟩
  .split at h
   .rename_i hb
    simp only[Nat.testBit_or,iR,Nat.testBit_two_pow,decide_eq_true_eq] at h;rcases h with(h|h)|h
    .exact .inl h
    .exact .inr ⟨e,aQ,hb, .inl h⟩
    .exact .inr ⟨e,aQ,hb, .inr h⟩
   .exact .inl h
  .exact .inr ⟨e',aJ _ h1,h2⟩
def DM{all:List Oper}: ∀(r:List Oper) (acc:List Nat) (pre:List Oper),all=pre++r->acc.length=pre.length->(∀i j,(acc.getD i 0).testBit j=true->Bf all i j)-> ∀i j,((nB r acc).getD i 0).testBit j=true->Bf all i j
 |[],acc,pre,_,_,h=>h
 |o::r,acc,pre,he,hl,h=>by
  refine DM r _ (pre++[o]) (by rw[he];simp) (by simp[hl]) fun i j hij=>?_;rw[aK,List.getElem?_append] at hij;split at hij
  .rename_i hi
   exact h i j (by rw[aK];exact hij)
  .rename_i hi
   by_cases e:i=acc.length
   .subst e
    simp only[nN,List.getElem?_cons_zero,jR] at hij;have ho:all[acc.length]? =some o:=by rw[he,hl];simp
    rcases Q3 _ _ hij with h0|⟨e,h1,h2,h3⟩
    .simp at h0
    .rcases h3 with rfl|h3
     .exact .b ho (by simpa using h1) h2
     .exact .s ho (by simpa using h1) h2 (h _ _ h3)
   .rw[fM (by simp;omega)] at hij
    simp at hij
def xe:Option Nat->Nat->Bool
 |some x,y=>Nat.beq x y
 |none,_=>false
def lf(a b:Rc):Bool:=(match a.d with|some x=>se b.rs x||xe b.d x|none=>false)||a.bl.any fun e=>se b.rn e.1||b.bl.any fun e'=>Nat.beq e'.1 e.1
def vg(nm:Nat)(f:FX):Bool:=xe f.nm nm
def Cc(nm:Nat):Option Bk->Bool
 |some (.o _ cs _)=>cs.any (vg nm)
 |_=>false
def nE(r:Rc)(nm:Nat):Bool:=vg nm r.f||r.bl.any fun e=>Cc nm e.2
def Dd(m:Nat)(r:Rc):Nat->List Rc->Bool
 |_,[]=>true
 |j,u::t=>(!(lf u r||lf r u||u.nw.any (nE r))||m.testBit j)&&!(r.nw.any (nE u))&&Dd m r (j+1) t
def s5:List Nat->List Rc->List Rc->Bool
 |m::ms,pre,r::t=>Dd m r 0 pre&&s5 ms (pre++[r]) t
 |_,_,[]=>true
 |[],_,_::_=>false
def mi:Nat->List Oper->Bool
 |_,[]=>true
 |i,o::t=>o.after.all (fun e=>!Region.binds .any e||Nat.blt e.on i)&&mi (i+1) t
def Bg(us:List Rc)(fr:List (Nat×FX))(own:List (Nat×Option Bk)):Bool:=us.all fun r=>r.nw.all fun nm=>fr.all (fun e=>!vg nm e.2)&&own.all fun e=>!Cc nm e.2
def IG{m:Nat}{r:Rc}: ∀{l:List Rc} {k:Nat},Dd m r k l=true-> ∀j u,l[j]? =some u->((lf u r=true\/lf r u=true\/ ∃nm∈u.nw,nE r nm=true)->m.testBit (k+j)=true)/\ ∀nm∈r.nw,nE u nm=false
 |[],k,_,j,u,h=>by simp at h
 |x::t,k,h,j,u,hj=>by
  simp only[Dd,aM,iR,iX] at h;obtain⟨⟨h1,h2⟩,h3⟩:=h
  cases j with
  |zero=>
   simp at hj;subst hj;refine⟨fun hh=>?_,fun nm hn=>by have:=List.any_eq_false.1 h2 nm hn;simpa using this⟩;rcases h1 with h1|h1
   .simp only[sZ] at h1
    rcases hh with hh|hh|⟨nm,hn,hh⟩
    .rw[h1.1.1] at hh;cases hh
    .rw[h1.1.2] at hh;cases hh
    .have:=List.any_eq_false.1 h1.2 nm hn;exact absurd hh this
   .simpa using h1
  |succ j=>
   have:=IG h3 j u (by simpa using hj);rwa [show k+(j+1)=k+1+j by omega]
def Qe: ∀{ms:List Nat} {pre t:List Rc},s5 ms pre t=true-> ∀i r,t[i]? =some r-> ∀j u,(pre++t)[j]? =some u->j<pre.length+i->((lf u r=true\/lf r u=true\/ ∃nm∈u.nw,nE r nm=true)->(ms.getD i 0).testBit j=true)/\ ∀nm∈r.nw,nE u nm=false
 |[],pre,[],_,i,r,h=>by simp at h
 |_::_,pre,[],_,i,r,h=>by simp at h
 |[],pre,_::_,h,i,r,_=>by simp[s5] at h
 |m::ms,pre,x::t,h,i,r,hi=>by
  simp only[s5,aM] at h;intro j u hj hlt
  cases i with
  |zero=>
   simp at hi;subst hi;rw[eX (by omega)] at hj;simpa using IG h.1 j u hj
  |succ i=>
   have:=Qe h.2 i r (by simpa using hi) j u (by simpa using hj) (by simp;omega);simpa using this
def pC: ∀{l:List Oper} {k:Nat},mi k l=true-> ∀i o,l[i]? =some o-> ∀e∈o.after,Region.binds .any e=true->e.on<k+i
 |[],k,_,i,o,h=>by simp at h
 |x::t,k,h,i,o,hi=>by
  simp only[mi,aM] at h;intro e he hb
  cases i with
  |zero=>
   simp at hi;subst hi;have:=Array.all_eq_true_iff_forall_mem.1 h.1 e he;simpa[hb] using this
  |succ i=>have:=pC h.2 i o (by simpa using hi) e he hb;omega
def wO(rd:Option Nat)(P:Program)(ops:Array Oper)(Q:Exit->Act->World->Prop)(o:Oper)(K:Act->World->Prop)(a:Act)(w:World):Prop:=
 if Region.wanted o (yielded ops a.tmps) then o.wpIn (FW rd) 0 P a w K Q else K (a.put o.dst undef) w
section
variable {P:Program} {GB:Gh} {C:aC} {n:Nat} {ops:Array Oper} {Q:Exit->Act->World->Prop}
def tv(P:Program)(GB:Gh)(C:aC)(n:Nat)(ops:Array Oper)(lk:LK)(bk:BM)(o:Oper)(f:FX)(bl:List (Nat×Option Bk))(nw:List Nat):Prop:=
 ∀(Q:Exit->Act->World->Prop) (tl:LK) (tb:BM) (K:Act->World->Prop),iO lk tl->iO bk tb->jO nw o.dst tl tb->SX GB C n (dO tl o.dst f) (upB tb bl) K->SX GB C n tl tb (wO C.rd P ops Q o K)
def SX.drew{lk:LK}{bk:BM}{Φ:Act->World->Prop}(h:SX GB C n lk bk Φ):SX GB C n lk bk (fun a w=>Φ a {w with drawn:=w.drawn+1}):=
 ⟨fun ρ G ov a w r=>h.run ρ G ov a _ ⟨r.gb,r.h.drew,r.sz,r.df,r.fx,r.bx,r.dj,r.fxd⟩⟩
structure iD (P:Program) (GB:Gh) (C:aC) (n:Nat) (ops:Array Oper) (us:List Rc) (s0:ST):Prop where
 len:us.length=ops.size
 snd: ∀i r o,us[i]? =some r->ops[i]? =some o->o.dst=r.d/\tv P GB C n ops (kh r.rs (cj (fun j=>decide (j<i)) 0 s0 us).1) (kh r.rn (cj (fun j=>decide (j<i)) 0 s0 us).2) o r.f r.bl r.nw
 all:s5 (nB ops.toList []) [] us=true
 edge:mi 0 ops.toList=true
 fr0: ∀r∈us,∀nm∈r.nw,(∀k f,s0.1 k=some f->f.nm≠some nm)/\ ∀k B,s0.2 k=some B-> ¬B.men nm
def xW{o:Option Nat}{k:Nat}:xe o k=true↔o=some k:=by cases o<;>simp[xe]
def F9{B:Bk}{nm:Nat}(h:B.men nm):Cc nm (some B)=true:=by
 cases B with
 |o ty cs lo=>obtain⟨f,hf,e⟩:=h;exact mQ.2 ⟨f,hf,xW.2 e⟩
 |b=>cases h
 |c=>cases h
 |p=>cases h
def dw(listed:Array Bool):Nat->Bool:=fun j=>listed.getD j false
def un(ops:Array Oper)(listed:Array Bool):Nat:=((List.range ops.size).filter fun j=>!listed.getD j true).length
def K0{α:Type}{p q:α->Bool}{x:α}: ∀{l:List α},x∈l->(∀y,q y=true->p y=true)->p x=true->q x=false->(l.filter q).length<(l.filter p).length
 |[],h,_,_,_=>by cases h
 |y::t,h,hpq,h1,h2=>by
  have le: ∀l:List α,(l.filter q).length<=(l.filter p).length:=fun l=>by
   induction l with
   |nil=>exact bQ _
   |cons z l ih=>
    simp only[pW]
    cases hq:q z with
    |true=>simp[hpq z hq];omega
    |false=>cases hp:p z<;>simp<;>omega
  rcases aU.1 h with rfl|h
  .simp only[pW,h1,h2,if_true];have:=le t;simp;omega
  .have ih:=K0 h hpq h1 h2
   simp only[pW]
   cases hq:q y with
   |true=>simp[hpq y hq];omega
   |false=>cases hp:p y<;>simp<;>omega
def iD.walk{us:List Rc}{s0:ST}(D:iD P GB C n ops us s0)(hk:SX GB C n (cj (fun _=>true) 0 s0 us).1 (cj (fun _=>true) 0 s0 us).2 (Q .normal)):
  ∀(fuel:Nat) (listed:Array Bool),listed.size=ops.size->(∀i o,ops[i]? =some o->dw listed i=true-> ∀e∈o.after,Region.binds .any e=true->dw listed e.on=true)->un ops listed<=fuel->
   SX GB C n (cj (dw listed) 0 s0 us).1 (cj (dw listed) 0 s0 us).2 (wpAnyIn (FW C.rd) 0 P .any ops Q fuel listed):=by
 -- what comes before something listed is listed
 have clo: ∀listed:Array Bool,(∀i o,ops[i]? =some o->dw listed i=true-> ∀e∈o.after,Region.binds .any e=true->dw listed e.on=true)-> ∀i j,Bf ops.toList i j->dw listed i=true->dw listed j=true:=by
  intro listed hc i j hb
  induction hb with
  |b ho he hb=>intro hi;exact hc _ _ (by simpa using ho) hi _ he hb
  |s ho he hb _ ih=>intro hi;exact ih (hc _ _ (by simpa using ho) hi _ he hb)
 have bf: ∀i j,((nB ops.toList []).getD i 0).testBit j=true->Bf ops.toList i j:=DM ops.toList [] [] J J (fun i j h=>by simp at h);have spec: ∀i r,us[i]? =some r-> ∀j u,us[j]? =some u->j<i->((lf u r=true\/lf r u=true\/ ∃nm∈u.nw,nE r nm=true)->Bf ops.toList i j)/\ ∀nm∈r.nw,nE u nm=false:=fun i r hi j u hj hlt=>by
  have:=Qe D.all i r hi j u (by simpa using hj) (by simpa using hlt);exact⟨fun h=>bf _ _ (this.1 h),this.2⟩
 have done: ∀listed:Array Bool,listed.size=ops.size->Region.ready .any ops listed=[]-> ∀i,i<ops.size->dw listed i=true:=by
  intro listed hsz hr i
  induction i using Nat.strongRecOn with
  |ind i ih=>
   intro hi
   cases hl:listed.getD i true with
   |true=>unfold dw;simp only[bW] at hl⊢;rw[fS (by omega)] at hl⊢;simpa using hl
   |false=>
    have:i∈Region.ready .any ops listed:=mem_ready.2 ⟨hl,ops[i],fS hi,fun e he hb=>by
     have hlt:=pC D.edge i ops[i] (by simp[hi]) e he hb;exact ih e.on (by omega) (by omega)⟩
    rw[hr] at this;cases this
 have same: ∀listed:Array Bool,listed.size=ops.size->(∀i,i<ops.size->dw listed i=true)->(cj (dw listed) 0 s0 us).1=(cj (fun _=>true) 0 s0 us).1/\(cj (dw listed) 0 s0 us).2=(cj (fun _=>true) 0 s0 us).2:=by
  intro listed hsz h;refine⟨funext fun x=>yI J fun j r hj _=>?_,funext fun x=>wN J fun j r hj _=>?_⟩<;>
  .rw[dL];exact h j (by have:=(aT.1 hj).1;rw[D.len] at this;exact this)
 intro fuel
 induction fuel with
 |zero=>
  intro listed hsz hc hu;have all: ∀i,i<ops.size->dw listed i=true:=fun i hi=>by
   cases hl:listed.getD i true with
   |true=>unfold dw;simp only[bW] at hl⊢;rw[fS (by omega)] at hl⊢;simpa using hl
   |false=>
    have h0:=List.length_eq_zero_iff.1 (Nat.le_zero.1 hu);have:=List.filter_eq_nil_iff.1 h0 i (rZ.2 hi);simp[hl] at this
  obtain⟨e1,e2⟩:=same listed hsz all;rw[e1,e2];refine hk.imp fun a w h=>⟨?_,h⟩;refine List.eq_nil_iff_forall_not_mem.2 fun i hi=>?_;obtain⟨h1,o,ho,_⟩:=mem_ready.1 hi;have hlt:=(eJ.1 ho).1;have h2:=all i hlt;unfold dw at h2;simp only[bW] at h1 h2;rw[fS (by omega)] at h1 h2;simp at h1 h2;rw[h1] at h2;cases h2
 |succ fuel ih=>
  intro listed hsz hc hu;refine⟨fun ρ G ov a w r=>⟨fun hr=>?_,fun i hi=>?_⟩⟩
  .obtain⟨e1,e2⟩:=same listed hsz (done listed hsz hr)
   rw[e1,e2] at r;exact hk.run ρ G ov a w r
  .obtain⟨h1,o,ho,hall⟩:=mem_ready.1 hi
   have hlt:=(eJ.1 ho).1;have hli:dw listed i=false:=by
    unfold dw;simp only[bW] at h1⊢;rw[fS (by omega)] at h1⊢;simpa using h1
   obtain⟨u,hui⟩: ∃u,us[i]? =some u:=⟨us[i]'(by rw[D.len];exact hlt),aZ _⟩;obtain⟨hd,hop⟩:=D.snd i u o hui ho;have bl: ∀j,Bf ops.toList i j->dw listed j=true:=fun j hb=>by
    cases hb with
    |b ho' he hb=>rw[oS,ho] at ho';cases ho';exact hall _ he hb
    |s ho' he hb h=>rw[oS,ho] at ho';cases ho';exact clo listed hc _ _ h (hall _ he hb)
   have nb: ∀j r,us[j]? =some r->(lf r u=true\/lf u r=true)->decide (j<i)=dw listed j:=fun j r hj hh=>by
    rcases Nat.lt_trichotomy j i with h|h|h
    .rw[bl j ((spec i u hui j r hj h).1 (hh.imp id .inl))];simpa using h
    .subst h;rw[hli];simp
    .cases hl:dw listed j with
     |false=>simp;omega
     |true=>have:=clo listed hc j i ((spec j r hj i u hui h).1 (hh.symm.imp id .inl)) hl;rw[hli] at this;cases this
   have sz':(listed.setIfInBounds i true).size=ops.size:=by simpa using hsz
   have l': ∀j,j≠i->dw (listed.setIfInBounds i true) j=dw listed j:=fun j hj=>by unfold dw;rw[getD_set_ne false (Ne.symm hj)]
   have li':dw (listed.setIfInBounds i true) i=true:=by unfold dw;simp[hsz,hlt]
   have hc': ∀j o',ops[j]? =some o'->dw (listed.setIfInBounds i true) j=true-> ∀e∈o'.after,Region.binds .any e=true->dw (listed.setIfInBounds i true) e.on=true:=fun j o' hj hlj e he hb=>by
    by_cases hji:j=i
    .subst hji;rw[ho] at hj;cases hj
     exact getD_set_true (hall e he hb)
    .rw[l' j hji] at hlj
     exact getD_set_true (hc j o' hj hlj e he hb)
   have hu':un ops (listed.setIfInBounds i true)<=fuel:=by
    have:un ops (listed.setIfInBounds i true)<un ops listed:=by
     refine K0 (x:=i) (rZ.2 hlt) (fun y hy=>?_) (by simp[h1]) (by simp[hsz,hlt]);by_cases hyi:y=i
     .subst hyi;simp[hsz,hlt] at hy
     .rwa [getD_set_ne true (Ne.symm hyi)] at hy
    omega
   have next:=ih _ sz' hc' hu'
   have e1:(cj (dw (listed.setIfInBounds i true)) 0 s0 us).1=dO (cj (dw listed) 0 s0 us).1 o.dst u.f:=by
    funext x;rw[hd];by_cases hx:u.d=some x
    .-- i is the last to write x
     have key: ∀(us':List Rc) (k:Nat) (s:ST) (p:Nat->Bool) (m:Nat),us'[m]? =some u->p (k+m)=true->(∀j r,us'[j]? =some r->r.d=some x->j≠m->j<m\/p (k+j)=false)->(cj p k s us').1 x=some u.f:=by
      intro us'
      induction us' with
      |nil=>intro k s p m h;simp at h
      |cons r t iht=>
       intro k s p m h hp hj;simp only[cj]
       cases m with
       |zero=>
        simp at h;subst h;rw[gV] at hp;rw[hp];have:(cj p (k+1) (r.ap s) t).1 x=(cj (fun _=>false) (k+1) (r.ap s) t).1 x:=yI J fun j r' hj' hd'=>by
         have:=hj (j+1) r' (by simpa using hj') hd' (by omega);rw[show k+(j+1)=k+1+j by omega] at this;exact this.resolve_left (by omega)
        simp only[if_true,this];have nosel: ∀(l:List Rc) (k:Nat) (s:ST),cj (fun _=>false) k s l=s:=fun l=>by
         induction l with
         |nil=>intro k s;rfl
         |cons y l ih=>intro k s;exact ih _ _
        rw[nosel];simp[Rc.ap,dO,hx]
       |succ m=>
        refine iht _ _ p m (by simpa using h) (by rw[show k+1+m=k+(m+1) by omega];exact hp) fun j r' hj' hd' hne=>?_;have:=hj (j+1) r' (by simpa using hj') hd' (by omega);rw[show k+1+j=k+(j+1) by omega];exact this.imp (fun h=>by omega) id
     rw[key us 0 s0 _ i hui (by rw[dL];exact li') fun j r hj hdr hne=>?_]
     .rw[hx];simp[dO]
     .rw[dL,l' j hne]
      have:=nb j r hj (.inl (by simp[lf,hdr,hx,xe]));rw[<-this];by_cases hji:j<i
      .exact .inl hji
      .exact .inr (by simpa using hji)
    .rw[GJ hx]
     refine yI J fun j r hj hdr=>?_;rw[dL];exact l' j fun e=>by subst e;rw[hui] at hj;cases hj;exact hx hdr
   have e2:(cj (dw (listed.setIfInBounds i true)) 0 s0 us).2=upB (cj (dw listed) 0 s0 us).2 u.bl:=by
    funext x;by_cases hx: ∃e∈u.bl,e.1=x
    .have key: ∀(us':List Rc) (k:Nat) (s s':ST) (p q:Nat->Bool) (m:Nat),us'[m]? =some u->p (k+m)=true->(∀j r,us'[j]? =some r->(∃e∈r.bl,e.1=x)->j≠m->q (k+j)=p (k+j)/\(j<m\/p (k+j)=false))->q (k+m)=false->s.2 x=s'.2 x->(cj p k s us').2 x=upB (cj q k s' us').2 u.bl x:=by
      intro us'
      induction us' with
      |nil=>intro k s s' p q m h;simp at h
      |cons r t iht=>
       intro k s s' p q m h hp hj hq hs;simp only[cj]
       cases m with
       |zero=>
        simp at h;subst h;rw[gV] at hp hq;rw[hp,hq];have nosel: ∀(l:List Rc) (k:Nat) (s:ST),cj (fun _=>false) k s l=s:=fun l=>by
         induction l with
         |nil=>intro k s;rfl
         |cons y l ih=>intro k s;exact ih _ _
        have a1:(cj p (k+1) (r.ap s) t).2 x=(cj (fun _=>false) (k+1) (r.ap s) t).2 x:=wN J fun j r' hj' hd'=>by
         have:=(hj (j+1) r' (by simpa using hj') hd' (by omega)).2;rw[show k+(j+1)=k+1+j by omega] at this;exact this.resolve_left (by omega)
        have a2:(cj q (k+1) s' t).2 x=(cj (fun _=>false) (k+1) s' t).2 x:=wN J fun j r' hj' hd'=>by
         obtain⟨h3,h4⟩:=hj (j+1) r' (by simpa using hj') hd' (by omega);rw[show k+(j+1)=k+1+j by omega] at h3 h4;rw[h3];exact h4.resolve_left (by omega)
        simp only[if_true,cM,if_false,a1,nosel];exact BB fun _=>by rw[a2,nosel];exact hs
       |succ m=>
        refine iht _ _ _ p q m (by simpa using h) (by rw[show k+1+m=k+(m+1) by omega];exact hp) (fun j r' hj' hd' hne=>?_) (by rw[show k+1+m=k+(m+1) by omega];exact hq) ?_
        .obtain⟨h3,h4⟩:=hj (j+1) r' (by simpa using hj') hd' (by omega)
         rw[show k+1+j=k+(j+1) by omega];exact⟨h3,h4.imp (fun h=>by omega) id⟩
        .by_cases hr: ∃e∈r.bl,e.1=x
         .have:=(hj 0 r J hr (by omega)).1
          rw[gV] at this;rw[this]
          cases p k
          .exact hs
          .exact BB fun _=>hs
         .have: ∀(b:Bool) (s:ST),(if b then r.ap s else s).2 x=s.2 x:=fun b s=>by
           cases b
           .rfl
           .exact As fun e he hc=>hr ⟨e,he,hc⟩
          rw[this,this];exact hs
     refine key us 0 s0 s0 _ _ i hui (by rw[dL];exact li') (fun j r hj hdr hne=>?_) (by rw[dL];exact hli) J;rw[dL];refine⟨(l' j hne).symm,?_⟩;rw[l' j hne];obtain⟨e,he,rfl⟩:=hx;obtain⟨e',he',hee⟩:=hdr;have hh:lf u r=true:=by
      unfold lf;rw[iR];exact .inr (mQ.2 ⟨e,he,by rw[iR];exact .inr (mQ.2 ⟨e',he',by simpa using hee⟩)⟩)
     rw[<-nb j r hj (.inr hh)];by_cases hji:j<i
     .exact .inl hji
     .exact .inr (by simpa using hji)
    .rw[As fun e he hc=>hx ⟨e,he,hc⟩]
     refine wN J fun j r hj hdr=>?_;rw[dL];exact l' j fun e=>by subst e;rw[hui] at hj;cases hj;exact hx hdr
   rw[e1,e2] at next
   have sub1:iO (kh u.rs (cj (fun j=>decide (j<i)) 0 s0 us).1) (cj (dw listed) 0 s0 us).1:=fun x f hx=>by
    unfold kh at hx
    cases hm:se u.rs x with
    |false=>rw[hm] at hx;cases hx
    |true=>
     rw[hm,cond_true] at hx;rw[<-hx];refine(yI J fun j r hj hdr=>?_).symm;rw[dL];exact nb j r hj (.inl (by simp[lf,hdr,hm]))
   have sub2:iO (kh u.rn (cj (fun j=>decide (j<i)) 0 s0 us).2) (cj (dw listed) 0 s0 us).2:=fun x B hx=>by
    unfold kh at hx
    cases hm:se u.rn x with
    |false=>rw[hm] at hx;cases hx
    |true=>
     rw[hm,cond_true] at hx;rw[<-hx];refine(wN J fun j r hj hdr=>?_).symm;rw[dL];obtain⟨e,he,rfl⟩:=hdr;refine nb j r hj (.inl ?_);unfold lf;rw[iR];exact .inr (mQ.2 ⟨e,he,by rw[hm];rfl⟩)
   have fr:jO u.nw o.dst (cj (dw listed) 0 s0 us).1 (cj (dw listed) 0 s0 us).2:=fun nm hnm=>by
    obtain⟨g1,g2⟩:=D.fr0 u (aV hui) nm hnm;have men: ∀j r,us[j]? =some r->dw listed j=true->nE r nm=false:=fun j r hj hlj=>by
     rcases Nat.lt_trichotomy j i with h|h|h
     .exact(spec i u hui j r hj h).2 nm hnm
     .subst h;rw[hli] at hlj;cases hlj
     .cases hm:nE r nm with
      |false=>rfl
      |true=>have:=clo listed hc j i ((spec j r hj i u hui h).1 (.inr (.inr ⟨nm,hnm,hm⟩))) hlj;rw[hli] at this;cases this
    refine⟨fun k f hk e=>?_,fun k B hk e hm=>?_⟩
    .intro hc'
     rcases N0 e with h|⟨j,r,h1,h2,h3,h4⟩
     .exact g1 k f h hc'
     .have:=men j r h1 (by simpa using h2)
      simp only[nE,sZ,vg] at this;rw[h4,xW.2 hc'] at this
      cases this.1
    .rcases NJ e with h|⟨j,r,h1,h2,h3⟩
     .exact g2 k B h hm
     .have:=men j r h1 (by simpa using h2)
      simp only[nE,sZ] at this;have:=List.any_eq_false.1 this.2 _ h3;exact this (F9 hm)
   have fin:=hop Q _ _ _ sub1 sub2 fr next
   have:=fin.run ρ G ov a w r;unfold wO at this;unfold wpOpIn;rw[ho];simp only;split
   .rename_i hw;rw[if_pos hw] at this;exact this
   .rename_i hw;rw[if_neg hw] at this;exact⟨fun _ _=>trivial,this⟩
def De(m k:Nat):dw (Array.replicate m false) k=false:=by unfold dw;simp[qZ];split<;>rfl
def iD.region{us:List Rc}{s0:ST}{id:Nat}(D:iD P GB C n ops us s0)(hm:P.follows .mixedOrders=true)(hk:SX GB C n (cj (fun _=>true) 0 s0 us).1 (cj (fun _=>true) 0 s0 us).2 (Q .normal)):SX GB C n s0.1 s0.2 (f8 C.rd P (.region id ops true) Q):=by
 have h:=D.walk hk ops.size (Array.replicate ops.size false) (by simp) (fun i o _ hi=>by rw[De] at hi;cases hi) (by unfold un;exact dJ (List.length_filter_le _ _) (by simp));have e:cj (dw (Array.replicate ops.size false)) 0 s0 us=s0:=by
  have: ∀(l:List Rc) (k:Nat) (s:ST),cj (dw (Array.replicate ops.size false)) k s l=s:=fun l=>by
   induction l with
   |nil=>intro k s;rfl
   |cons y l ih=>
    intro k s;simp only[cj];rw[ih];rw[De];rfl
  exact this us 0 s0
 rw[e] at h;exact h.drew.imp fun a w k=>wpIn_region_any hm k
end
abbrev av:=List (Nat×FX)
abbrev aF:=List (Nat×Option Bk)
def bi:av->Nat->Option FX
 |[],_=>none
 |(k,v)::t,j=>bif Nat.beq k j then some v else bi t j
def bu:aF->Nat->Option Bk
 |[],_=>none
 |(k,v)::t,j=>bif Nat.beq k j then v else bu t j
def tN{α:Type}:aF->Nat->Option Bk->(aF->α)->α
 |[],nm,B,k=>k [(nm,B)]
 |(j,v)::t,nm,B,k=>bif Nat.beq j nm then k ((nm,B)::t) else tN t nm B fun t'=>k ((j,v)::t')
def oO{α:Type}:aF->List (Nat×Option Bk)->(aF->α)->α
 |own,[],k=>k own
 |own,(nm,B)::t,k=>tN own nm B fun own'=>oO own' t k
def mI(own:aF)(nm:Nat)(B:Option Bk):aF:=tN own nm B id
def sH(own:aF)(l:List (Nat×Option Bk)):aF:=oO own l id
def vS{α:Type}{nm:Nat}{B:Option Bk}: ∀{own:aF} {k:aF->α},tN own nm B k=k (mI own nm B)
 |[],k=>rfl
 |(j,v)::t,k=>by
  unfold mI tN
  cases Nat.beq j nm with
  |true=>rfl
  |false=>rw[cond_false,cond_false,vS (own:=t),vS (own:=t)];rfl
def ur{α:Type}: ∀{l:List (Nat×Option Bk)} {own:aF} {k:aF->α},oO own l k=k (sH own l)
 |[],own,k=>rfl
 |(nm,B)::t,own,k=>by
  unfold sH oO;rw[vS,vS,ur (l:=t),ur (l:=t)];rfl
def il(k:Nat)(v:FX)(t:av)(j:Nat):bi ((k,v)::t) j=if j=k then some v else bi t j:=by
 simp only[bi];by_cases h:k=j
 .simp[h]
 .have:Nat.beq k j=false:=by
   cases hb:Nat.beq k j with
   |false=>rfl
   |true=>exact absurd (aS hb) h
  simp[this,Ne.symm h]
def jg(k:Nat)(v:Option Bk)(t:aF)(j:Nat):bu ((k,v)::t) j=if j=k then v else bu t j:=by
 simp only[bu];by_cases h:k=j
 .simp[h]
 .have:Nat.beq k j=false:=by
   cases hb:Nat.beq k j with
   |false=>rfl
   |true=>exact absurd (aS hb) h
  simp[this,Ne.symm h]
def zq{nm:Nat}{B:Option Bk}(j:Nat): ∀own:aF,bu (mI own nm B) j=if j=nm then B else bu own j
 |[]=>jg nm B [] j
 |(k,v)::t=>by
  have ih:=zq (nm:=nm) (B:=B) j t;unfold mI tN
  cases hb:Nat.beq k nm with
  |true=>
   have e:=aS hb;subst e;rw[cond_true,id,jg,jg];by_cases h:j=k<;>simp[h]
  |false=>
   have hne:k≠nm:=fun e=>by subst e;simp at hb
   rw[cond_false,vS,id,jg,jg,ih];by_cases h:j=k
   .subst h;simp[hne]
   .simp[h]
def CY: ∀(l:List (Nat×Option Bk)) (own:aF),bu (sH own l)=upB (bu own) l
 |[],own=>rfl
 |(nm,B)::t,own=>by
  have:sH own ((nm,B)::t)=sH (mI own nm B) t:=by rw[sH,oO,vS];rfl
  rw[this,CY t];simp only[upB];congr 1;funext j;exact zq j own
def CU(fr:av)(dst:Option Nat)(f:FX):av:=match dst with
 |some d=>(d,f)::fr
 |none=>fr
def AS{fr:av}{dst:Option Nat}{f:FX}:bi (CU fr dst f)=dO (bi fr) dst f:=by
 cases dst with
 |none=>rfl
 |some d=>funext j;exact il d f fr j
def vR(T:TT)(n:Nat)(ops:Array Oper)(lk:LK)(bk:BM):Oper->Option CR
 |⟨dst,op,_,_,_,gd⟩=>bif cg n dst then(match gd with
  |none=>wm T lk bk dst op
  |some (j,b)=>match ops[j]? with
   |some oj=>match oj.dst with
    |some d=>match lk d with
     |some .tt=>bif b then wm T lk bk dst op else some ⟨none, .un,[],[]⟩
     |some .ff=>bif b then some ⟨none, .un,[],[]⟩ else wm T lk bk dst op
     |some .un=>some ⟨none, .un,[],[]⟩
     |_=>none
    |none=>none
   |none=>none) else none
section
variable {P:Program} {T:TT} {GB:Gh} {C:aC} {n:Nat} {lk:LK} {bk:BM} {ops:Array Oper}
def b7.toS{dst:Option Nat}{op:Op}{ty:TypeId}{pos:String}{af:Array Edge}{gd:Option (Nat×Bool)}{f:FX}{bl:List (Nat×Option Bk)}{nw:List Nat}(h:b7 P GB C n lk bk ⟨dst,op,ty,pos,af,gd⟩ f bl nw)(hd:cg n dst=true)
  (hw: ∀ρ G ov a w,b5 GB C n lk bk ρ G ov a w->Region.wanted ⟨dst,op,ty,pos,af,gd⟩ (yielded ops a.tmps)=true):tv P GB C n ops lk bk ⟨dst,op,ty,pos,af,gd⟩ f bl nw:=by
 intro Q tl tb K s1 s2 hf hk;have:=h hd tl tb (fun a w=>a.defers=C.mks/\K a w) s1 s2 hf ⟨fun ρ G ov a w r=>⟨r.df,hk.run ρ G ov a w r⟩⟩;refine⟨fun ρ G ov a w r=>?_⟩;unfold wO;rw[if_pos (hw ρ G ov a w (r.mono s1 s2))];exact Aj (this.run ρ G ov a w r) fun a' w' k=>⟨k.1.trans r.df.symm,k.2⟩
def tv.skip{dst:Option Nat}{op:Op}{ty:TypeId}{pos:String}{af:Array Edge}{gd:Option (Nat×Bool)}(hd:cg n dst=true)
  (hw: ∀ρ G ov a w,b5 GB C n lk bk ρ G ov a w->Region.wanted ⟨dst,op,ty,pos,af,gd⟩ (yielded ops a.tmps)=false):tv P GB C n ops lk bk ⟨dst,op,ty,pos,af,gd⟩ .un [] []:=by
 intro Q tl tb K s1 s2 hf hk;refine⟨fun ρ G ov a w r=>?_⟩;unfold wO;rw[hw ρ G ov a w (r.mono s1 s2)];exact hk.run ρ G ov _ w (r.put J (r.putA undef hd))
def zu{ρ:NE}{G:Gh}{ov:List au}{a:Act}{w:World}(r:b5 GB C n lk bk ρ G ov a w){j d:Nat}{oj:Oper}{f:FX}(hj:ops[j]? =some oj)(hd:oj.dst=some d)(hf:lk d=some f): ∃y,b6 ρ G f y/\yielded ops a.tmps j=match y with| .bool b=>some b|_=>none:=by
 obtain⟨y,h1,h2⟩:=r.fx d f hf;refine⟨y,h2,?_⟩;unfold yielded;rw[hj];simp only[Option.bind_some,hd,h1]
 cases y<;>rfl
def P0{o:Oper}{r:CR}(hT:kO P T)(h:vR T n ops lk bk o=some r)(hv: ∀p,r.vc=some p->p):tv P GB C n ops lk bk o r.f r.bl r.nw/\cg n o.dst=true:=by
 obtain⟨dst,op,ty,pos,af,gd⟩:=o;simp only[vR] at h
 cases hd:cg n dst with
 |false=>rw[hd] at h;cases h
 |true=>
  rw[hd,cond_true] at h;refine⟨?_,J⟩;split at h
  .exact(wM hT h hv).toS hd fun _ _ _ _ _ _=>J
  .rename_i j b
   split at h<;>try (cases h;done)
   rename_i oj hj;split at h<;>try (cases h;done)
   rename_i d hdj;split at h<;>try (cases h;done)
   .rename_i hl
    have wt: ∀ρ G ov (a:Act) w,b5 GB C n lk bk ρ G ov a w->Region.wanted ⟨dst,op,ty,pos,af,some (j,b)⟩ (yielded ops a.tmps)=b:=fun ρ G ov a w r=>by
     obtain⟨y,h1,h2⟩:=zu r hj hdj hl
     cases h1
     simp only[Region.wanted,h2];cases b<;>rfl
    cases b with
    |true=>exact(wM hT h hv).toS hd wt
    |false=>cases h;exact .skip hd wt
   .rename_i hl
    have wt: ∀ρ G ov (a:Act) w,b5 GB C n lk bk ρ G ov a w->Region.wanted ⟨dst,op,ty,pos,af,some (j,b)⟩ (yielded ops a.tmps)=!b:=fun ρ G ov a w r=>by
     obtain⟨y,h1,h2⟩:=zu r hj hdj hl
     cases h1
     simp only[Region.wanted,h2];cases b<;>rfl
    cases b with
    |true=>cases h;exact .skip hd wt
    |false=>exact(wM hT h hv).toS hd wt
   .rename_i hl
    cases h
    refine .skip hd fun ρ G ov a w r=>?_;obtain⟨y,h1,h2⟩:=zu r hj hdj hl
    cases h1
    simp only[Region.wanted,h2];rfl
end
inductive Kt where
 |sq (c:Code)
 |bl (id:Nat)
 |sc
 |ag (A:Act->World->Prop)
def cQ(rd:Option Nat)(P:Program)(Q0:Exit->Act->World->Prop):List Kt->Exit->Act->World->Prop
 |[]=>Q0
 | .sq y::K=>Exit.then (f8 rd P y (cQ rd P Q0 K)) (cQ rd P Q0 K)
 | .bl id::K=>Exit.inBlock id (cQ rd P Q0 K)
 | .sc::K=>Exit.noGoto (cQ rd P Q0 K)
 | .ag A::K=>Exit.then A (cQ rd P Q0 K)
inductive Cf where
 |code (c:Code) (K:List Kt)
 |ops (ops:Array Oper) (r:List Oper) (K:List Kt)
 |dr (id:Nat) (ops:Array Oper) (fr0:av) (own0:aF) (us:List Rc) (r:List Oper) (K:List Kt)
 |ex (e:Exit) (K:List Kt)
structure wg (P:Program) (GB:Gh) (C:aC) (n:Nat) (ops:Array Oper) (fr0:av) (own0:aF) (us:List Rc) (r:List Oper) (fr:av) (own:aF):Prop where
 pre: ∃pre,ops.toList=pre++r/\pre.length=us.length
 st:cj (fun _=>true) 0 (bi fr0,bu own0) us=(bi fr,bu own)
 snd: ∀i u o,us[i]? =some u->ops[i]? =some o->o.dst=u.d/\tv P GB C n ops (kh u.rs (cj (fun j=>decide (j<i)) 0 (bi fr0,bu own0) us).1) (kh u.rn (cj (fun j=>decide (j<i)) 0 (bi fr0,bu own0) us).2) o u.f u.bl u.nw
def ak(P:Program)(GB:Gh)(C:aC)(n:Nat)(Q0:Exit->Act->World->Prop)(fr:av)(own:aF):Cf->Prop
 | .code c K=>SX GB C n (bi fr) (bu own) (f8 C.rd P c (cQ C.rd P Q0 K))
 | .ops ops r K=>SX GB C n (bi fr) (bu own) (wpListIn (FW C.rd) 0 P ops (cQ C.rd P Q0 K) r)
 | .dr id ops fr0 own0 us r K=>wg P GB C n ops fr0 own0 us r fr own->SX GB C n (bi fr0) (bu own0) (f8 C.rd P (.region id ops true) (cQ C.rd P Q0 K))
 | .ex e K=>SX GB C n (bi fr) (bu own) (cQ C.rd P Q0 K e)
structure vM where
 vc:List Prop
 fr:av
 own:aF
 cf:Cf
def acc(v:Option Prop)(l:List Prop):List Prop:=match v with
 |some p=>p::l
 |none=>l
def Hk{α:Type}(v:Option Prop)(l:List Prop)(k:List Prop->α):α:=match v with
 |some p=>k (p::l)
 |none=>k l
def O1{α:Type}{v:Option Prop}{l:List Prop}{k:List Prop->α}:Hk v l k=k (acc v l):=by cases v<;>rfl
def wj{α:Type}(fr:av)(dst:Option Nat)(f:FX)(k:av->α):α:=match dst with
 |some d=>k ((d,f)::fr)
 |none=>k fr
def wz{α:Type}{fr:av}{dst:Option Nat}{f:FX}{k:av->α}:wj fr dst f k=k (CU fr dst f):=by cases dst<;>rfl
def qA(nw:List Nat)(dst:Option Nat)(fr:av)(own:aF):Bool:=nw.all fun nm=>fr.all (fun e=>xe dst e.1||!vg nm e.2)&&own.all fun e=>Nat.beq e.1 nm||!Cc nm e.2
def vC:List Operand->List Nat
 |[]=>[]
 | .tmp t::r=>t::vC r
 |_::r=>vC r
def A8(fr:av):List Nat->List Nat
 |[]=>[]
 |t::r=>match bi fr t with
  |some f=>match f.nm with
   |some nm=>nm::A8 fr r
   |none=>A8 fr r
  |none=>A8 fr r
def Cv(o:Oper)(fr:av)(rs:List Nat):List Nat:=match o.op with
 | .move _=>[]
 |_=>A8 fr rs
def xJ(ops:Array Oper)(o:Oper):List Nat:=match o.guard with
 |some (j,_)=>match ops[j]? with
  |some oj=>match oj.dst with
   |some d=>d::vC o.op.operands.toList
   |none=>vC o.op.operands.toList
  |none=>vC o.op.operands.toList
 |none=>vC o.op.operands.toList
def go(T:TT)(n:Nat):Nat->List Prop->av->aF->Cf->vM
 |0,l,fr,own,cf=>⟨l,fr,own,cf⟩
 |k+1,l,fr,own, .code c K=>match c with
  | .seq x y=>go T n k l fr own (.code x (.sq y::K))
  | .region id ops d=>bif d then go T n k l fr own (.dr id ops fr own [] ops.toList K) else go T n k l fr own (.ops ops ops.toList K)
  | .skip=>go T n k l fr own (.ex .normal K)
  | .ret=>go T n k l fr own (.ex .ret K)
  | .exit id=>go T n k l fr own (.ex (.exit id) K)
  | .block id c=>go T n k l fr own (.code c (.bl id::K))
  | .scope c=>go T n k l fr own (.code c (.sc::K))
  | .label _=>go T n k l fr own (.ex .normal K)
  | .cond c x y=>match aI (bi fr) c with
   |some .tt=>go T n k l fr own (.code x K)
   |some .ff=>go T n k l fr own (.code y K)
   |_=>⟨l,fr,own, .code (.cond c x y) K⟩
  |c=>⟨l,fr,own, .code c K⟩
 |k+1,l,fr,own, .ex e K=>match K with
  | .sq y::K'=>match e with
   | .normal=>go T n k l fr own (.code y K')
   |e=>go T n k l fr own (.ex e K')
  | .bl id::K'=>match e with
   | .exit j=>bif Nat.beq j id then go T n k l fr own (.ex .normal K') else go T n k l fr own (.ex (.exit j) K')
   |e=>go T n k l fr own (.ex e K')
  | .sc::K'=>bif Qj e then go T n k l fr own (.ex e K') else⟨l,fr,own, .ex e (.sc::K')⟩
  | .ag A::K'=>match e with
   | .normal=>⟨l,fr,own, .ex .normal (.ag A::K')⟩
   |e=>go T n k l fr own (.ex e K')
  |[]=>⟨l,fr,own, .ex e []⟩
 |k+1,l,fr,own, .ops ops r K=>match r with
  |[]=>go T n k l fr own (.ex .normal K)
  |o::r'=>match vR T n ops (bi fr) (bu own) o with
   |some ⟨v,f,bl,nw⟩=>bif qA nw o.dst fr own then oO own bl fun own'=>Hk v l fun l'=>wj fr o.dst f fun fr'=>go T n k l' fr' own' (.ops ops r' K) else⟨l,fr,own, .ops ops (o::r') K⟩
   |none=>⟨l,fr,own, .ops ops (o::r') K⟩
 |k+1,l,fr,own, .dr id ops fr0 own0 us r K=>match r with
  |[]=>go T n k (((s5 (nB ops.toList []) [] us&&mi 0 ops.toList&&Bg us fr0 own0)=true)::l) fr own (.ex .normal K)
  |o::r'=>jE (xJ ops o) fun rs=>jE (Cv o fr rs) fun rn=>match vR T n ops (kh rs (bi fr)) (kh rn (bu own)) o with
   |some ⟨v,f,bl,nw⟩=>oO own bl fun own'=>jE (us++[⟨rs,o.dst,f,rn,bl,nw⟩]) fun us'=>Hk v l fun l'=>wj fr o.dst f fun fr'=>go T n k l' fr' own' (.dr id ops fr0 own0 us' r' K)
   |none=>⟨l,fr,own, .dr id ops fr0 own0 us (o::r') K⟩
def aj:List Prop->Prop
 |[]=>True
 |[p]=>p
 |p::t=>aj t/\p
def Nf{p:Prop}{t:List Prop}:aj (p::t)↔aj t/\p:=by cases t<;>simp[aj]
def IT{v:Option Prop}{l:List Prop}(h:aj (acc v l)):aj l/\ ∀p,v=some p->p:=by
 cases v with
 |none=>exact⟨h,fun p e=>by cases e⟩
 |some q=>obtain⟨h1,h2⟩:=Nf.1 h;exact⟨h1,fun p e=>by cases e;exact h2⟩
def EC{f:FX}{k:Nat}: ∀{fr:av},bi fr k=some f->(k,f)∈fr
 |[],h=>by cases h
 |(j,g)::t,h=>by
  rw[il] at h;split at h
  .cases h;rename_i e;rw[e];exact aQ
  .exact aJ _ (EC h)
def Ia{B:Bk}{k:Nat}: ∀{own:aF},bu own k=some B->(k,some B)∈own
 |[],h=>by cases h
 |(j,g)::t,h=>by
  rw[jg] at h;split at h
  .rename_i e;rw[e,h];exact aQ
  .exact aJ _ (Ia h)
def zQ{nw:List Nat}{dst:Option Nat}{fr:av}{own:aF}(h:qA nw dst fr own=true):jO nw dst (bi fr) (bu own):=fun nm hnm=>by
 have:=dT.1 h nm hnm;simp only[aM] at this;refine⟨fun k f hk e hc=>?_,fun k B hk e hm=>?_⟩
 .have:=dT.1 this.1 _ (EC e)
  simp only[iR,iX,vg] at this;rcases this with h|h
  .exact hk (xW.1 h).symm
  .rw[xW.2 hc] at h;cases h
 .have:=dT.1 this.2 _ (Ia e)
  simp only[iR,iX] at this;rcases this with h|h
  .exact hk (aS h)
  .rw[F9 hm] at h;cases h
def J0{us:List Rc}{fr:av}{own:aF}(h:Bg us fr own=true): ∀r∈us,∀nm∈r.nw,(∀k f,bi fr k=some f->f.nm≠some nm)/\ ∀k B,bu own k=some B-> ¬B.men nm:=fun r hr nm hnm=>by
 have:=dT.1 (dT.1 h r hr) nm hnm;simp only[aM] at this;refine⟨fun k f e hc=>?_,fun k B e hm=>?_⟩
 .have:=dT.1 this.1 _ (EC e)
  simp only[iX,vg] at this;rw[xW.2 hc] at this;cases this
 .have:=dT.1 this.2 _ (Ia e)
  simp only[iX] at this;rw[F9 hm] at this;cases this
section
variable {P:Program} {T:TT} {GB:Gh} {C:aC} {n:Nat} {Q0:Exit->Act->World->Prop} {fr fr0:av} {own own0:aF} {ops:Array Oper} {us:List Rc} {r:List Oper} {o:Oper} {K:List Kt}
def AA{p q:Nat->Bool}{u:Rc}: ∀{us:List Rc} {k:Nat} {s:ST},(∀j,j<us.length->p (k+j)=q (k+j))->cj p k s (us++[u])=if p (k+us.length) then u.ap (cj q k s us) else cj q k s us
 |[],k,s,h=>rfl
 |x::t,k,s,h=>by
  simp only[cX,cj];rw[AA (q:=q) fun j hj=>by have:=h (j+1) (by simp;omega);rwa [show k+(j+1)=k+1+j by omega] at this];have h0:=h 0 (by simp);rw[gV] at h0;rw[h0,bY,show k+1+t.length=k+(t.length+1) by omega]
def wg.push(D:wg P GB C n ops fr0 own0 us (o::r) fr own){rs rn nw:List Nat}{f:FX}{bl:List (Nat×Option Bk)}(h:tv P GB C n ops (kh rs (bi fr)) (kh rn (bu own)) o f bl nw):wg P GB C n ops fr0 own0 (us++[⟨rs,o.dst,f,rn,bl,nw⟩]) r (CU fr o.dst f) (sH own bl):=by
 obtain⟨pre,hp,hl⟩:=D.pre;refine⟨⟨pre++[o],by rw[hp];simp,by simp[hl]⟩,?_,fun i u o' hu ho=>?_⟩
 .rw[AA (q:=fun _=>true) fun _ _=>J,if_pos J,D.st]
  simp only[Rc.ap];rw[AS,CY]
 .rw[List.getElem?_append] at hu
  split at hu
  .rename_i hi
   obtain⟨h1,h2⟩:=D.snd i u o' hu ho;rw[AA (q:=fun j=>decide (j<i)) fun _ _=>J,if_neg (by simp;omega)];exact⟨h1,h2⟩
  .rename_i hi
   by_cases e:i=us.length
   .subst e
    simp at hu;subst hu;have ho':ops[us.length]? =some o:=by
     have:ops.toList[us.length]? =some o:=by rw[hp,<-hl];simp
     simpa using this
    rw[ho'] at ho;cases ho;refine⟨J,?_⟩;rw[AA (q:=fun _=>true) fun j hj=>by simpa using hj,if_neg (by simp),D.st];exact h
   .rw[fM (by simp;omega)] at hu;cases hu
def wg.done(D:wg P GB C n ops fr0 own0 us [] fr own){id:Nat}(hm:P.follows .mixedOrders=true)(h:(s5 (nB ops.toList []) [] us&&mi 0 ops.toList&&Bg us fr0 own0)=true)(hk:SX GB C n (bi fr) (bu own) (cQ C.rd P Q0 K .normal)):
  SX GB C n (bi fr0) (bu own0) (f8 C.rd P (.region id ops true) (cQ C.rd P Q0 K)):=by
 obtain⟨pre,hp,hl⟩:=D.pre;simp only[aM] at h;have D':iD P GB C n ops us (bi fr0,bu own0):=⟨by rw[<-hl,<-jL,hp];simp,D.snd,h.1.1,h.1.2,J0 h.2⟩;exact D'.region hm (by rw[D.st];exact hk)
def SX.op{Q:Exit->Act->World->Prop}{f:FX}{bl:List (Nat×Option Bk)}{nw:List Nat}(h:tv P GB C n ops (bi fr) (bu own) o f bl nw)(hf:jO nw o.dst (bi fr) (bu own))(hk:SX GB C n (bi (CU fr o.dst f)) (bu (sH own bl)) (wpListIn (FW C.rd) 0 P ops Q r)):SX GB C n (bi fr) (bu own) (wpListIn (FW C.rd) 0 P ops Q (o::r)):=by
 rw[AS,CY] at hk;refine(h Q _ _ _ (iO.refl _) (iO.refl _) hf hk).imp fun a w q=>?_;unfold wO at q;simp only[wpListIn];split
 .rename_i hw;rw[if_pos hw] at q;exact q
 .rename_i hw;rw[if_neg hw] at q;exact⟨fun _ _=>trivial,q⟩
def SX.cond{lk:LK}{bk:BM}{Q:Exit->Act->World->Prop}{c:Operand}{x y:Code}{b:Bool}{f:FX}(hc:aI lk c=some f)(hb:qD f=some b)(h1:b=true->SX GB C n lk bk (f8 C.rd P x Q))(h2:b=false->SX GB C n lk bk (f8 C.rd P y Q)):SX GB C n lk bk (f8 C.rd P (.cond c x y) Q):=by
 refine⟨fun ρ G ov a w r=>?_⟩;obtain⟨v,hv,hv'⟩:=r.ev hc;rw[uZ hv' hb] at hv;exact Zj (bz (c6 a) hv) (fun e=>(h1 e).run ρ G ov a w r) (fun e=>(h2 e).run ρ G ov a w r)
def gH(hT:kO P T)(hm:P.follows .mixedOrders=true): ∀(k:Nat) (l:List Prop) (fr:av) (own:aF) (cf:Cf),aj (go T n k l fr own cf).vc->aj l/\(ak P GB C n Q0 (go T n k l fr own cf).fr (go T n k l fr own cf).own (go T n k l fr own cf).cf->ak P GB C n Q0 fr own cf)
 |0,l,fr,own,cf,h=>by simp only[go] at h⊢;exact⟨h,id⟩
 |k+1,l,fr,own, .code c K,h=>by
  cases c with
  |seq x y=>simp only[go] at h⊢;obtain⟨h1,h2⟩:=gH hT hm k _ _ _ _ h;exact⟨h1,fun hk=>(h2 hk).imp fun a w q=>VC q⟩
  |region id ops d=>
   simp only[go] at h⊢
   cases d with
   |false=>simp only[cond_false] at h⊢;obtain⟨h1,h2⟩:=gH hT hm k _ _ _ _ h;exact⟨h1,fun hk=>(h2 hk).imp fun a w q=>TB q⟩
   |true=>simp only[cond_true] at h⊢;obtain⟨h1,h2⟩:=gH hT hm k _ _ _ _ h;exact⟨h1,fun hk=>h2 hk ⟨⟨[],rfl,rfl⟩,rfl,fun i u o hu=>by simp at hu⟩⟩
  |skip=>simp only[go] at h⊢;obtain⟨h1,h2⟩:=gH hT hm k _ _ _ _ h;exact⟨h1,fun hk=>(h2 hk).imp fun a w q=>WW q⟩
  |ret=>simp only[go] at h⊢;obtain⟨h1,h2⟩:=gH hT hm k _ _ _ _ h;exact⟨h1,fun hk=>(h2 hk).imp fun a w q=>aAQ q⟩
  |exit id=>simp only[go] at h⊢;obtain⟨h1,h2⟩:=gH hT hm k _ _ _ _ h;exact⟨h1,fun hk=>(h2 hk).imp fun a w q=>XG q⟩
  |block id c=>simp only[go] at h⊢;obtain⟨h1,h2⟩:=gH hT hm k _ _ _ _ h;exact⟨h1,fun hk=>(h2 hk).imp fun a w q=>ZD q⟩
  |scope c=>simp only[go] at h⊢;obtain⟨h1,h2⟩:=gH hT hm k _ _ _ _ h;exact⟨h1,fun hk=>(h2 hk).imp fun a w q=>Ux q⟩
  |label j=>simp only[go] at h⊢;obtain⟨h1,h2⟩:=gH hT hm k _ _ _ _ h;exact⟨h1,fun hk=>(h2 hk).imp fun a w q=>as9 q⟩
  |cond c x y=>
   simp only[go] at h⊢
   cases hc:aI (bi fr) c with
   |none=>simp only[hc] at h⊢;exact⟨h,id⟩
   |some f=>
    cases f with
    |tt=>simp only[hc] at h⊢;obtain⟨h1,h2⟩:=gH hT hm k _ _ _ _ h;exact⟨h1,fun hk=>SX.cond hc rfl (fun _=>h2 hk) (fun e=>by cases e)⟩
    |ff=>simp only[hc] at h⊢;obtain⟨h1,h2⟩:=gH hT hm k _ _ _ _ h;exact⟨h1,fun hk=>SX.cond hc rfl (fun e=>by cases e) (fun _=>h2 hk)⟩
    |_=>simp only[hc] at h⊢;exact⟨h,id⟩
  |_=>simp only[go] at h⊢;exact⟨h,id⟩
 |k+1,l,fr,own, .ex e K,h=>by
  cases K with
  |nil=>simp only[go] at h⊢;exact⟨h,id⟩
  |cons x K=>
   cases x with
   |sq y=>cases e<;>(simp only[go] at h⊢;obtain⟨h1,h2⟩:=gH hT hm k _ _ _ _ h;exact⟨h1,fun hk=>h2 hk⟩)
   |bl id=>
    cases e with
    |exit j=>
     simp only[go] at h⊢
     cases hb:Nat.beq j id with
     |true=>
      simp only[hb,cond_true] at h⊢;obtain⟨h1,h2⟩:=gH hT hm k _ _ _ _ h;exact⟨h1,fun hk=>(h2 hk).imp fun a w q=>by simp only[cQ,Exit.inBlock,aS hb,if_true];exact q⟩
     |false=>
      have hne:j≠id:=fun e=>by subst e;simp at hb
      simp only[hb,cond_false] at h⊢;obtain⟨h1,h2⟩:=gH hT hm k _ _ _ _ h;exact⟨h1,fun hk=>(h2 hk).imp fun a w q=>by simp only[cQ,Exit.inBlock,hne,if_false];exact q⟩
    |_=>simp only[go] at h⊢;obtain⟨h1,h2⟩:=gH hT hm k _ _ _ _ h;exact⟨h1,fun hk=>h2 hk⟩
   |sc=>
    simp only[go] at h⊢
    cases hb:Qj e with
    |true=>
     simp only[hb,cond_true] at h⊢;obtain⟨h1,h2⟩:=gH hT hm k _ _ _ _ h;refine⟨h1,fun hk=>(h2 hk).imp fun a w q=>?_⟩
     cases e<;>first|exact q|cases hb
    |false=>simp only[hb,cond_false] at h⊢;exact⟨h,id⟩
   |ag A=>
    cases e with
    |normal=>simp only[go] at h⊢;exact⟨h,id⟩
    |_=>simp only[go] at h⊢;obtain⟨h1,h2⟩:=gH hT hm k _ _ _ _ h;exact⟨h1,fun hk=>h2 hk⟩
 |k+1,l,fr,own, .ops ops r K,h=>by
  cases r with
  |nil=>simp only[go] at h⊢;obtain⟨h1,h2⟩:=gH hT hm k _ _ _ _ h;exact⟨h1,fun hk=>h2 hk⟩
  |cons o r=>
   simp only[go] at h⊢
   cases hs:vR T n ops (bi fr) (bu own) o with
   |none=>simp only[hs] at h⊢;exact⟨h,id⟩
   |some x=>
    obtain⟨v,f,bl,nw⟩:=x;simp only[hs] at h⊢
    cases hf:qA nw o.dst fr own with
    |false=>simp only[hf,cond_false] at h⊢;exact⟨h,id⟩
    |true=>
     simp only[hf,cond_true] at h⊢;simp only[ur,O1,wz] at h⊢;obtain⟨h1,h2⟩:=gH hT hm k _ _ _ _ h;obtain⟨h3,h4⟩:=IT h1;exact⟨h3,fun hk=>SX.op (P0 hT hs h4).1 (zQ hf) (h2 hk)⟩
 |k+1,l,fr,own, .dr id ops fr0 own0 us r K,h=>by
  cases r with
  |nil=>
   simp only[go] at h⊢;obtain⟨h1,h2⟩:=gH hT hm k _ _ _ _ h;obtain⟨h3,h4⟩:=Nf.1 h1;exact⟨h3,fun hk D=>D.done hm h4 (h2 hk)⟩
  |cons o r=>
   simp only[go,rC] at h⊢;generalize xJ ops o=rs at h⊢;generalize Cv o fr rs=rn at h⊢
   cases hs:vR T n ops (kh rs (bi fr)) (kh rn (bu own)) o with
   |none=>simp only[hs] at h⊢;exact⟨h,fun x=>x⟩
   |some x=>
    obtain⟨v,f,bl,nw⟩:=x;simp only[hs] at h⊢;simp only[ur,O1,wz] at h⊢;obtain⟨h1,h2⟩:=gH hT hm k _ _ _ _ h;obtain⟨h3,h4⟩:=IT h1;exact⟨h3,fun hk D=>h2 hk (D.push (P0 hT hs h4).1)⟩
end
end Go.Sx
end
section
namespace Go.Sx
open Go Go.Proofs Tryz
instance:i9 prog 3:=⟨fun _=>by kernel_rfl,fun _=>by kernel_rfl⟩
instance:pg prog 3 .i64:=⟨fun _=>by kernel_rfl⟩
instance:i9 prog 4:=⟨fun _=>by kernel_rfl,fun _=>by kernel_rfl⟩
instance:pg prog 5 .u8:=⟨fun _=>by kernel_rfl⟩
instance:i9 prog 37:=⟨fun _=>by kernel_rfl,fun _=>by kernel_rfl⟩
instance:cB prog 37 180 8 112:=⟨by kernel_rfl,by kernel_rfl⟩
instance:jP prog 37:=⟨180,by kernel_rfl⟩
instance:mz prog 39 2:=⟨fun _=>by kernel_rfl,fun _=>by kernel_rfl⟩
instance:gk prog 39 (.agg ⟨[.int .i64 0, .slice none 0 0]⟩):=⟨by kernel_rfl⟩
instance:nI prog 39 0 0:=⟨fun _ _ _=>by kernel_rfl⟩
instance:nI prog 39 1 1:=⟨fun _ _ _=>by kernel_rfl⟩
instance:cB prog 56 261 1 4:=⟨by kernel_rfl,by kernel_rfl⟩
instance:jP prog 56:=⟨261,by kernel_rfl⟩
instance:cB prog 91 139 17 128:=⟨by kernel_rfl,by kernel_rfl⟩
instance:jP prog 91:=⟨139,by kernel_rfl⟩
instance:i9 prog 95:=⟨fun _=>by kernel_rfl,fun _=>by kernel_rfl⟩
instance:cB prog 118 139 17 128:=⟨by kernel_rfl,by kernel_rfl⟩
instance:mz prog 135 9:=⟨fun _=>by kernel_rfl,fun _=>by kernel_rfl⟩
instance:i9 prog 176:=⟨fun _=>by kernel_rfl,fun _=>by kernel_rfl⟩
instance:gk prog 176 (.nilFunc):=⟨by kernel_rfl⟩
instance:nI prog 178 0 0:=⟨fun _ _ _=>by kernel_rfl⟩
instance:nI prog 178 1 9:=⟨fun _ _ _=>by kernel_rfl⟩
instance:nI prog 178 2 10:=⟨fun _ _ _=>by kernel_rfl⟩
instance:nI prog 178 3 11:=⟨fun _ _ _=>by kernel_rfl⟩
instance:gk prog 180 (.agg ⟨[.bool false, .slice none 0 0, .bool false, .slice none 0 0, .bool false, .slice none 0 0, .int .i64 0, .int .i64 0]⟩):=⟨by kernel_rfl⟩
instance:nI prog 180 1 6:=⟨fun _ _ _=>by kernel_rfl⟩
instance:nI prog 180 2 7:=⟨fun _ _ _=>by kernel_rfl⟩
instance:G7 prog 180 [(0,6),(6,1),(7,1)]:=⟨_,fun _=>Wk underlying180 _,fun _=>by kernel_rfl⟩
instance:gk prog 261 (.int .u32 0):=⟨by kernel_rfl⟩
def follows:prog.follows .mixedOrders=true:=by kernel_rfl
end Go.Sx
end
