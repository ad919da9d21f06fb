import Derived.Test.YtidmgdlbilojcaaGreatDoorTi3
import Derived.CallsIn
import Derived.OrdersIn
import Derived.TacticsIn
import Derived.RangeFuncIn
import Derived.RangeFuncRecord
import Derived.Test.YtidmgdlbilojcaaGreatDoorProg
set_option linter.unusedSimpArgs false
set_option maxRecDepth 100000
set_option linter.unusedVariables false
section
namespace Go.Sx
open Go
section
variable {P:Program} {T:TT} {GB:Gh} {C:Ctx} {n:Nat} {lk:LK} {bk:BM} {ρ:NE} {G:Gh} {ov:List Own} {a:Act} {w:World}
variable {dst:Option Nat} {t t' ty':TypeId} {pos:String} {af:Array Edge} {gd:Option (Nat×Bool)} {x y z:Operand}
def aIG(P:Program)(GB:Gh)(C:Ctx)(n:Nat)(lk:LK)(bk:BM)(o:Oper)(r:CR):Prop:=(∀p,r.vc=some p→p)→OpR P GB C n lk bk o r.f r.bl r.nw
theorem afY{r:Option FX}{c:CR}(h:pr1 r=some c): ∃f,r=some f∧c=⟨none,f,[],[]⟩:=by
 unfold pr1 at h
 split at h
 ·cases h;exact⟨_,rfl,rfl⟩
 ·cases h
theorem amU{r:Option (Option Prop×FX)}{c:CR}(h:pr2 r=some c): ∃v f,r=some (v,f)∧c=⟨v,f,[],[]⟩:=by
 unfold pr2 at h
 split at h
 ·cases h;exact⟨_,_,rfl,rfl⟩
 ·cases h
theorem af4{α:Type}{K:FX→Option α}{r:α}(h:ev1 lk x K=some r): ∃f,evX lk x=some f∧K f=some r:=by
 unfold ev1 at h
 split at h
 ·exact⟨_,by assumption,h⟩
 ·cases h
theorem akC{α:Type}{K:FX→FX→Option α}{r:α}(h:ev2 lk x y K=some r): ∃f g,evX lk x=some f∧evX lk y=some g∧K f g=some r:=by
 unfold ev2 at h
 split at h
 ·split at h
  ·exact⟨_,_,by assumption,by assumption,h⟩
  ·cases h
 ·cases h
theorem asR{α:Type}{K:TI→Option α}{r:α}(hT:TOK P T)(h:tyI T t K=some r): ∃i,afC P t=some i∧K i=some r:=by
 unfold tyI at h
 split at h
 ·rename_i i hi;exact⟨i,hT _ _ hi,h⟩
 ·cases h
theorem asV{α:Type}{K:List (Nat×Nat×Nat)→TI→Option α}{r:α}(hT:TOK P T)(h:tyS T t K=some r): ∃fo i,afC P t=some i∧i.k= .st fo∧K fo i=some r:=by
 unfold tyS at h
 split at h
 ·rename_i fo sz z za hi;exact⟨fo,_,hT _ _ hi,rfl,h⟩
 ·cases h
theorem OpR.x1{o:Oper}{f g:FX}(e:evX lk x=some f)(h: ∀ρ G ov (a:Act) w y,ab5 C ov G w→RlX GB C n lk bk ρ G ov a w→opv (frA a) x=some y→IsX ρ G f y→ ∃u,IsX ρ G g u∧Yd P C (frA a) ov G o u):OpR P GB C n lk bk o g [] []:=
 .yd fun ρ G ov a w r=>by
  obtain⟨y,h1,h2⟩:=r.ev e
  exact h ρ G ov a w y r.h r h1 h2
theorem aAl{f:FX}(e:evX lk x=some f):OpR P GB C n lk bk ⟨dst, .move x,ty',pos,af,gd⟩ f [] []:= .x1 e fun _ _ _ _ _ y _ _ h1 h2=>⟨y,h2,aaQ h1⟩
theorem atL{f:FX}(e:evX lk x=some f):OpR P GB C n lk bk ⟨dst, .assign x,ty',pos,af,gd⟩ f [] []:= .x1 e fun _ _ _ _ _ y _ _ h1 h2=>⟨y,h2,aiU h1⟩
theorem aA6{c f g v:FX}(ec:evX lk z=some c)(e1:evX lk x=some f)(e2:evX lk y=some g)(h:aGo c f g=some v):OpR P GB C n lk bk ⟨dst, .pick z x y,ty',pos,af,gd⟩ v [] []:= .yd fun ρ G ov a w r=>by
 obtain⟨u,h1,h2⟩:=r.ev ec
 unfold aGo at h
 split at h
 ·cases h;cases h2;obtain⟨u,h3,h4⟩:=r.ev e1;exact⟨u,h4,ac9 h1 h3⟩
 ·cases h;cases h2;obtain⟨u,h3,h4⟩:=r.ev e2;exact⟨u,h4,abD h1 h3⟩
 ·cases h
theorem aD5{f g:FX}{v:Option Prop}(e:evX lk x=some f)(h:aGY f=some (v,g))(hv: ∀r,v=some r→r):OpR P GB C n lk bk ⟨dst, .nilCheck x,ty',pos,af,gd⟩ g [] []:= .x1 e fun ρ G ov a w y _ _ h1 h2=>by
 have key: ∀l,Is G (.pt l) y→ ∃u,IsX ρ G (.ep l) u∧Yd P C (frA a) ov G ⟨dst, .nilCheck x,ty',pos,af,gd⟩ u:=fun l h2=>by
  obtain⟨b,m,rfl,hb,hm⟩:=alO.1 h2
  refine⟨_,⟨b,0,m,m,rfl,hb,?_,hm⟩,aaX h1⟩
  rw[abN _ _ _ (by rw[hm.len];omega),iX,aR (by rw[hm.len];omega)]
 unfold aGY at h
 split at h<;>cases h
 ·obtain⟨b,hb,rfl⟩:=h2;exact⟨_,⟨b,hb,rfl⟩,aaX h1⟩
 ·obtain⟨b,o,cs,m,rfl,h3⟩:=h2;exact⟨_,⟨b,o,cs,m,rfl,h3⟩,aaX h1⟩
 ·obtain⟨b,hb,rfl⟩:=h2;exact⟨_,⟨b,hb,rfl⟩,aaX h1⟩
 ·exact key _ h2
 ·rcases aoT.1 (show Is G _ y from h2) with⟨e,_⟩|⟨_,h3⟩
  ·have:=hv _ rfl;rw[e] at this;cases this
  ·exact key _ h3
theorem aGG{f g:FX}{fo:List (Nat×Nat×Nat)}{i:TI}{k:Nat}(hi:afC P t=some i)(hk:i.k= .st fo)(e:evX lk x=some f)(h:faX fo k f=some g):OpR P GB C n lk bk ⟨dst, .fieldAddr t x k,ty',pos,af,gd⟩ g [] []:= .x1 e fun ρ G ov a w y _ _ h1 h2=>by
 unfold faX at h
 split at h
 ·rename_i off ft s ho
  have:=aGW hi hk ho
  split at h
  ·cases h;obtain⟨b,hb,rfl⟩:=h2;exact⟨_,⟨b,hb,rfl⟩,aaS h1⟩
  ·rename_i l
   cases hb:Nat.ble off l.length with
   |false=>rw[hb] at h;cases h
   |true=>
    rw[hb,cond_true,ahl] at h;cases h
    obtain⟨b,o,cs,m,rfl,hb',ht,hm⟩:=h2
    refine⟨_,⟨b,o+off,cs,m.drop off,rfl,hb',?_,hm.drop _⟩,aaS h1⟩
    rw[gT]
    exact aiu ht (by simpa using hb)
  ·cases h
   obtain⟨b,hb,rfl⟩:=h2
   exact⟨_,⟨b,hb,rfl⟩,by rw[←jU];exact aaS h1⟩
  ·cases h
 ·cases h
theorem aGA{f g:FX}{fo:List (Nat×Nat×Nat)}{i:TI}{k:Nat}(hT:TOK P T)(hi:afC P t=some i)(hk:i.k= .st fo)(e:evX lk x=some f)(h:fdX T fo k f=some g):OpR P GB C n lk bk ⟨dst, .field t x k,ty',pos,af,gd⟩ g [] []:= .x1 e fun ρ G ov a w y _ _ h1 h2=>by
 unfold fdX at h
 split at h<;>try (cases h;done)
 rename_i cs
 split at h<;>try (cases h;done)
 rename_i off ft s ho
 split at h<;>try (cases h;done)
 rename_i j hj
 obtain⟨m,rfl,hm⟩:=abX.1 (show Is G _ y from h2)
 have:=aFU hi hk ho
 split at h<;>try (cases h;done)
 ·rename_i q ha
  have:=akl (hT _ _ hj) ha
  split at h<;>cases h
  rename_i l hl
  obtain⟨l',h3,h4⟩:=hm.takeD hl
  exact⟨.agg ⟨l'⟩,abX.2 ⟨l',rfl,h4⟩,avq h1 h3⟩
 ·rename_i ha
  have:=ajB (hT _ _ hj) ha
  split at h<;>cases h
  rename_i c hc
  obtain⟨l',h3,h4⟩:=hm.get hc
  exact⟨l',h4,asW h1 h3⟩
theorem RlX.own{nm off:Nat}{y:Value}{ty:TypeId}{cs:List FX}{lo:Bool}(r:RlX GB C n lk bk ρ G ov a w)(h2:IsX ρ G (.ov nm off) y)(hb:bk nm=some (.o ty cs lo)): ∃b m,y= .pointer (some ⟨b,off,none⟩)∧(ρ nm).a=some ⟨b,0,none⟩∧adR ρ G cs m∧⟨b,m,ty,lo⟩∈ov:=by
 obtain⟨os,⟨b,m,h3,rfl,h4⟩,h5⟩:=r.bx _ _ hb
 obtain⟨b',h6,rfl⟩:=h2
 rw[h3] at h6;cases h6
 exact⟨b,m,rfl,h3,h4,h5 _ aZ⟩
theorem aFY{f g:FX}{i:TI}(hi:afC P t=some i)(e:evX lk x=some f)(h:ldX bk i f=some g):OpR P GB C n lk bk ⟨dst, .load t x,ty',pos,af,gd⟩ g [] []:= .x1 e fun ρ G ov a w y _ r h1 h2=>by
 unfold ldX at h
 split at h<;>try (cases h;done)
 ·rename_i k ha
  have:=akl hi ha
  split at h<;>try (cases h;done)
  ·split at h<;>try (cases h;done)
   rename_i hb
   split at h<;>try (cases h;done)
   rename_i l hl
   obtain⟨b,m,rfl,h3,h4,h5⟩:=r.own h2 hb
   obtain⟨l',h6,h7⟩:=h4.takeX hl
   have:OAt ov b m _ _:=⟨h5⟩
   exact⟨.agg ⟨l'⟩,azD h7 h,ae5 h1 h6⟩
  ·split at h<;>cases h
   rename_i hl
   obtain⟨b,o,ms,m,rfl,hb,ht,hm⟩:=h2
   obtain⟨l',h3,h4⟩:=hm.takeD hl
   exact⟨.agg ⟨l'⟩,abX.2 ⟨l',rfl,h4⟩,akx h1 hb (by simpa using aoe ht h3)⟩
 ·rename_i ha
  have:=ajB hi ha
  split at h<;>try (cases h;done)
  ·split at h<;>try (cases h;done)
   rename_i hb
   obtain⟨b,m,rfl,h3,h4,h5⟩:=r.own h2 hb
   obtain⟨l',h6,h7⟩:=h4.get h
   have:OAt ov b m _ _:=⟨h5⟩
   exact⟨l',h7,aaC h1 h6⟩
  ·split at h<;>cases h
   obtain⟨b,o,ms,m,rfl,hb,ht,hm⟩:=h2
   obtain⟨l',h3,h4⟩:=hm.get (i:=0) rfl
   have:=ah1 ht (i:=0) (Nat.succ_pos _)
   rw[dY] at this
   exact⟨l',h4,af8 h1 hb (by rw[this];exact h3)⟩
theorem aEQ{f g:FX}{i:Nat}(e:evX lk x=some f)(h:aFK i f=some g):OpR P GB C n lk bk ⟨dst, .extract x i,ty',pos,af,gd⟩ g [] []:= .x1 e fun ρ G ov a w y _ r h1 h2=>by
 unfold aFK at h
 split at h<;>try (cases h;done)
 ·split at h<;>cases h
  rename_i hv
  obtain⟨m,rfl,hm⟩:=adS.1 (show Is G _ y from h2)
  obtain⟨l',h3,h4⟩:=hm.get hv
  exact⟨l',h4,ahK h1 (by simpa using h3)⟩
 ·obtain⟨m1,m2,rfl,k1,k2⟩:=h2
  obtain⟨l',h3,h4⟩:=azh (ρ:=ρ) h k1 k2
  exact⟨l',h4,ahK h1 (by simpa using h3)⟩
theorem alS{fo:List (Nat×Nat×Nat)}(r:RlX GB C n lk bk ρ G ov a w): ∀(ps:List (Nat×Operand)) (cs out:List FX) (m:List Value),aye lk fo cs ps=some out→adR ρ G cs m→ ∃l,bld (frA a) (fo.map fun x=>(x.1,x.2.2)) m ps=some l∧adR ρ G out l
 |[],cs,out,m,e,hm=>by simp only[aye] at e;cases e;exact⟨m,rfl,hm⟩
 |(i,x)::ps,cs,out,m,e,hm=>by
  simp only[aye] at e
  split at e
  ·rename_i off q k d ho hd
   cases hc:(d.okc&&(Nat.beq d.cells.length k&&Nat.ble (off+k) cs.length)) with
   |false=>rw[hc] at e;cases e
   |true=>
    rw[hc] at e
    simp only[cX,Nat.beq_eq_true_eq,Nat.ble_eq] at hc
    obtain⟨h1,h2,h3⟩:=hc
    replace h2:=aT h2
    obtain⟨y,hy,hy'⟩:=r.ev hd
    obtain⟨c1,_⟩:=hy'.cells h1
    have c2:=c1.len
    obtain⟨l,hl1,hl2⟩:=alS r ps _ out _ e (hm.ov c1 (off:=off))
    refine⟨l,?_,hl2⟩
    simp only[bld,cV,ho,jY,hy]
    rw[if_pos ⟨by rw[c2,h2],by rw[hm.len];exact h3⟩]
    exact hl1
  ·cases e
theorem ayb{fo:List (Nat×Nat×Nat)}{i:TI}{zx:List FX}{cs:List FX}{f:FX}{parts:Array (Nat×Operand)}(hi:afC P t=some i)(hk:i.k= .st fo)(hz:i.z=some zx)(h:aye lk fo zx parts.toList=some cs)(hf:agX cs=some f):
  OpR P GB C n lk bk ⟨dst, .build t parts,ty',pos,af,gd⟩ f [] []:= .yd fun ρ G ov a w r=>by
 obtain⟨v,hv,hv'⟩:=alQ hi hz
 have:=ayH hi hk
 obtain⟨l,h1,h2⟩:=alS r _ _ _ _ h (hv' ρ G)
 exact⟨.agg ⟨l⟩,azD h2 hf,ald h1⟩
theorem anT{k:IntKind}{p:Int}{v:Option Prop}{f:FX}(h:vcI k p=some (v,f)):f= .d (.v (.int k p))∧((∀q,v=some q→q)→k.min≤p∧p≤k.max):=by
 obtain⟨q,h1,h2⟩:=aE8 h
 cases h1
 exact⟨rfl,fun k=>h2 (k _ rfl)⟩
theorem aaw{k:IntKind}{p:Int}{y:Value}:IsX ρ G (.d (.v (.int k p))) y↔y= .int k p:=aa4 (G:=G)
theorem as1(b:BitVec 64):IntKind.u64.wrap (b.toNat:Int)=(b.toNat:Int):=aeO ⟨by show(0:Int)≤_;omega,by have:=b.isLt;show _≤(18446744073709551615:Int);omega⟩
theorem al4(b:BitVec 32):IntKind.u32.wrap (b.toNat:Int)=(b.toNat:Int):=aeO ⟨by show(0:Int)≤_;omega,by have:=b.isLt;show _≤(4294967295:Int);omega⟩
theorem axd{op:BinOp}{k j:IntKind}{p q:Int}{v:Option Prop}{f:FX}(h:arX op k p q=some (v,f))(hop:op= .shr∨op= .shl)(hv: ∀r,v=some r→r){fr:Fr}(hx:opv fr x=some (.int k p))(hy:opv fr y=some (.int j q)): ∃u,IsX ρ G f u∧Yd P C fr ov G ⟨dst, .binOp op t x y t',ty',pos,af,gd⟩ u:=by
 rcases hop with rfl|rfl<;>cases h
 ·exact⟨_,aaw.2 rfl,adJ hx hy (hv _ rfl)⟩
 ·exact⟨_,aaw.2 rfl,ajU hx hy (hv _ rfl)⟩
theorem aGH{op:BinOp}{k:IntKind}{p q:Int}{v:Option Prop}{f:FX}(h:arX op k p q=some (v,f))(hv: ∀r,v=some r→r){fr:Fr}(hx:opv fr x=some (.int k p))(hy:opv fr y=some (.int k q)): ∃u,IsX ρ G f u∧Yd P C fr ov G ⟨dst, .binOp op t x y t',ty',pos,af,gd⟩ u:=by
 cases op with
 |add=>obtain⟨rfl,h2⟩:=anT h;exact⟨_,aaw.2 rfl,atw hx hy (h2 hv)⟩
 |sub=>obtain⟨rfl,h2⟩:=anT h;exact⟨_,aaw.2 rfl,ar9 hx hy (h2 hv)⟩
 |mul=>obtain⟨rfl,h2⟩:=anT h;exact⟨_,aaw.2 rfl,atB hx hy (h2 hv)⟩
 |quo=>
  cases k<;>cases h<;>first
   |exact⟨_,aaw.2 rfl,auc hx hy (hv _ rfl)⟩
   |(obtain⟨h1,h2,h3⟩:=hv _ rfl;exact⟨_,aaw.2 rfl,ahA hx hy h1 h2 h3⟩)
 |rem=>
  cases k<;>cases h<;>first
   |exact⟨_,aaw.2 rfl,ays hx hy (hv _ rfl)⟩
   |(obtain⟨h1,h2⟩:=hv _ rfl;exact⟨_,aaw.2 rfl,ahB hx hy h1 h2⟩)
 |shr=>exact axd h (.inl rfl) hv hx hy
 |shl=>exact axd h (.inr rfl) hv hx hy
 |or=>
  cases k<;>cases h<;>refine⟨_,aaw.2 rfl,aca hx hy fun w=>?_⟩
  ·show(pure (Value.int .u32 (IntKind.u32.wrap ((BitVec.ofInt 32 p ||| BitVec.ofInt 32 q).toNat:Int))):Sem Value).run P w=_
   rw[al4];rfl
  ·show(pure (Value.int .u64 (IntKind.u64.wrap ((BitVec.ofInt 64 p ||| BitVec.ofInt 64 q).toNat:Int))):Sem Value).run P w=_
   rw[as1];rfl
 |and=>
  cases k<;>cases h<;>refine⟨_,aaw.2 rfl,aca hx hy fun w=>?_⟩
  ·show(pure (Value.int .u32 (IntKind.u32.wrap ((BitVec.ofInt 32 p &&& BitVec.ofInt 32 q).toNat:Int))):Sem Value).run P w=_
   rw[al4];rfl
  ·show(pure (Value.int .u64 (IntKind.u64.wrap ((BitVec.ofInt 64 p &&& BitVec.ofInt 64 q).toNat:Int))):Sem Value).run P w=_
   rw[as1];rfl
 |lss=>cases h;exact⟨_,rfl,acu hx hy⟩
 |leq=>cases h;exact⟨_,rfl,aEB hx hy⟩
 |gtr=>cases h;exact⟨_,rfl,ahc hx hy⟩
 |geq=>cases h;exact⟨_,rfl,ahY hx hy⟩
 |eql=>cases h;exact⟨_,rfl,ab9 hx hy⟩
 |neq=>cases h;exact⟨_,rfl,aia hx hy⟩
 |_=>cases h
theorem aE0{mx:Bool}{f g u:FX}(e1:evX lk x=some f)(e2:evX lk y=some g)(h:mmX mx f g=some u){t1 t2:TypeId}:OpR P GB C n lk bk ⟨dst, .call ⟨.builtin (if mx then .max else .min),⟨[x,y]⟩,⟨[t1,t2]⟩⟩,ty',pos,af,gd⟩ u [] []:= .yd fun ρ G ov a w r=>by
 obtain⟨p,h1,h2⟩:=r.ev e1
 obtain⟨q,h3,h4⟩:=r.ev e2
 unfold mmX at h
 split at h<;>try (cases h;done)
 rename_i k p' j q'
 rw[aaw] at h2 h4
 subst h2 h4
 cases hk:kq k j with
 |false=>rw[hk] at h;cases h
 |true=>
  rw[hk] at h;cases av6 hk
  cases mx<;>cases h
  ·refine⟨_,aaw.2 rfl,?_⟩
   intro a' w' hf hh
   simp only[jQ,if_false,execOp,resolve,gW,cK,jV,aad hf h1,aad hf h3]
   have h1:(Builtin.min_ #[t1,t2] ty' #[.int k p', .int k q']).run P w'= .ok (.int k (if q'<p' then q' else p')) w':=by
    simp[Builtin.min_,Builtin.min2,run_pure]
   exact aap h1
  ·refine⟨_,aaw.2 rfl,?_⟩
   intro a' w' hf hh
   simp only[if_true,execOp,resolve,gW,cK,jV,aad hf h1,aad hf h3]
   have h1:(Builtin.max_ #[t1,t2] ty' #[.int k p', .int k q']).run P w'= .ok (.int k (if q'>p' then q' else p')) w':=by
    simp[Builtin.max_,Builtin.max2,run_pure]
   exact aap h1
theorem aEt{f g:FX}{b:Bool}(hT:TOK P T)(h:aGF T t f y=some b)(hx: ∃v,opv (frA a) x=some v∧IsX ρ G f v)(hy:evX lk y=some g):
  Yd P C (frA a) ov G ⟨dst, .binOp .eql t x y t',ty',pos,af,gd⟩ (.bool b)∧Yd P C (frA a) ov G ⟨dst, .binOp .neq t x y t',ty',pos,af,gd⟩ (.bool (!b)):=by
 obtain⟨v,h1,h2⟩:=hx
 unfold aGF at h
 split at h<;>try (cases h;done)
 ·rename_i hi
  have:=aGZ (hT _ _ hi) rfl
  split at h<;>cases h
  ·cases (aa4 (G:=G)).1 h2;exact⟨azy (.inl rfl) h1,azi (.inl rfl) h1⟩
  ·cases (aa4 (G:=G)).1 h2;exact⟨azy (.inr ⟨_,_,rfl⟩) h1,azi (.inr ⟨_,_,rfl⟩) h1⟩
 ·rename_i hi
  have:=aFe (hT _ _ hi) rfl
  have key: ∀p,v= .pointer (some p)→Yd P C (frA a) ov G ⟨dst, .binOp .eql t x (.const (.pointer none)) t',ty',pos,af,gd⟩ (.bool false)∧Yd P C (frA a) ov G ⟨dst, .binOp .neq t x (.const (.pointer none)) t',ty',pos,af,gd⟩ (.bool (!false)):=fun p e=>by
   subst e;exact⟨aqM h1 rfl,apy h1 rfl⟩
  split at h<;>cases h
  ·cases (aa4 (G:=G)).1 h2;exact⟨aqM h1 rfl,apy h1 rfl⟩
  ·obtain⟨b,_,e⟩:=h2;exact key _ e
  ·obtain⟨b,o,cs,m,e,_⟩:=h2;exact key _ e
  ·obtain⟨b,_,e⟩:=h2;exact key _ e
  ·obtain⟨b,m,e,_⟩:=alO.1 (show Is G _ v from h2);exact key _ e
 ·rename_i hi
  have:=aeh (hT _ _ hi) rfl
  split at h<;>cases h
  cases h2;exact⟨ayt h1 rfl,aDl h1 rfl⟩
theorem aFI{op:BinOp}{f g u:FX}{v:Option Prop}(hT:TOK P T)(e1:evX lk x=some f)(e2:evX lk y=some g)(h:boX T op t f g y=some (v,u))(hv: ∀r,v=some r→r):OpR P GB C n lk bk ⟨dst, .binOp op t x y t',ty',pos,af,gd⟩ u [] []:= .yd fun ρ G ov a w r=>by
 obtain⟨p,h1,h2⟩:=r.ev e1
 obtain⟨q,h3,h4⟩:=r.ev e2
 unfold boX at h
 split at h
 ·rename_i k p' j q'
  rw[aaw] at h2 h4
  subst h2 h4
  split at h
  ·exact axd h (.inl rfl) hv h1 h3
  ·exact axd h (.inr rfl) hv h1 h3
  ·cases hk:kq k j with
   |false=>rw[hk] at h;cases h
   |true=>rw[hk] at h;cases av6 hk;exact aGH h hv h1 h3
 ·unfold opX at h
  split at h<;>try (cases h;done)
  rename_i hi
  have:=aFe (hT _ _ hi) rfl
  cases (aa4 (G:=G)).1 h4
  split at h<;>cases h<;>rcases aoT.1 (show Is G _ p from h2) with⟨rfl,rfl⟩|⟨rfl,k⟩
  ·exact⟨_,rfl,aqM h1 h3⟩
  ·obtain⟨b,m,rfl,_⟩:=alO.1 k;exact⟨_,rfl,aqM h1 h3⟩
  ·exact⟨_,rfl,apy h1 h3⟩
  ·obtain⟨b,m,rfl,_⟩:=alO.1 k;exact⟨_,rfl,apy h1 h3⟩
 ·split at h
  ·rename_i b hb
   obtain⟨k1,k2⟩:=aEt (ρ:=ρ) (G:=G) (C:=C) (ov:=ov) (dst:=dst) (t':=t') (ty':=ty') (pos:=pos) (af:=af) (gd:=gd) hT hb ⟨p,h1,h2⟩ e2
   split at h<;>cases h
   ·exact⟨_,by cases b<;>rfl,k1⟩
   ·exact⟨_,by cases b<;>rfl,k2⟩
  ·split at h<;>try (cases h;done)
   rename_i hi ha hb
   have:=aFT (hT _ _ hi) rfl
   have e3:=ajT h2 ha
   have e4:=ajT h4 hb
   subst e3 e4
   split at h<;>cases h
   ·exact⟨_,(aa4 (G:=G)).2 rfl,aCS h1 h3⟩
   ·exact⟨_,(aa4 (G:=G)).2 rfl,aEd h1 h3⟩
theorem aGv{op:UnOp}{f u:FX}{v:Option Prop}(e1:evX lk x=some f)(h:unX op f=some (v,u))(hv: ∀r,v=some r→r):OpR P GB C n lk bk ⟨dst, .unOp op t x,ty',pos,af,gd⟩ u [] []:= .x1 e1 fun ρ G ov a w y _ r h1 h2=>by
 unfold unX at h
 split at h<;>try (cases h;done)
 ·split at h<;>cases h
  rename_i g hg
  obtain⟨b,rfl,h3⟩:=aDy h2 hg
  exact⟨_,h3,arj h1⟩
 ·split at h<;>try (cases h;done)
  obtain⟨rfl,h3⟩:=anT h
  rw[aaw] at h2;subst h2
  refine⟨_,aaw.2 rfl,?_⟩
  have:=as2 (P:=P) (C:=C) (own:=ov) (G:=G) (dst:=dst) (ty':=ty') (pos:=pos) (af:=af) (gd:=gd) (t:=t) h1
  rwa [Int.zero_sub,aeO (h3 hv)] at this
theorem aGN{f u:FX}{v:Option Prop}(hT:TOK P T)(e1:evX lk x=some f)(h:cvX T t t' f=some (v,u))(hv: ∀r,v=some r→r):OpR P GB C n lk bk ⟨dst, .convert t t' x,ty',pos,af,gd⟩ u [] []:= .x1 e1 fun ρ G ov a w y _ r h1 h2=>by
 unfold cvX at h
 split at h<;>try (cases h;done)
 rename_i k _ _ _ k' _ _ _ hi hi'
 have:=akF (hT _ _ hi) rfl
 have:=akF (hT _ _ hi') rfl
 split at h<;>try (cases h;done)
 rename_i j p
 rw[aaw] at h2;subst h2
 cases hk:kq k j with
 |false=>rw[hk] at h;cases h
 |true=>
  rw[hk,cond_true] at h;cases av6 hk
  split at h
  ·cases h;exact⟨_,aaw.2 rfl,abm h1⟩
  ·obtain⟨rfl,h3⟩:=anT h;exact⟨_,aaw.2 rfl,al8 h1 (h3 hv)⟩
theorem RlX.row{nm:Nat}{y:Value}{ty:TypeId}{s:Nat}{ds:List DV}{lo:Bool}(r:RlX GB C n lk bk ρ G ov a w)(hb:bk nm=some (.b ty s ds lo)): ∃B,abf G ⟨ρ nm,s,ty,ds,lo⟩ B∧ ∀o∈B,o∈ov:=by
 obtain⟨os,h1,h2⟩:=r.bx _ _ hb
 exact⟨os,h1,h2⟩
theorem abf.len{β:aen}{B:List Own}(h:abf G β B):β.x.n=β.ds.length:=by
 obtain⟨vs,h1,h2,_⟩:=h
 rw[h1.len,h2.len]
theorem aGm{f g u:FX}{v:Option Prop}(hT:TOK P T)(e1:evX lk x=some f)(e2:evX lk y=some g)(h:ixX T bk t f g=some (v,u))(hv: ∀r,v=some r→r):OpR P GB C n lk bk ⟨dst, .indexAddr t x y,ty',pos,af,gd⟩ u [] []:= .yd fun ρ G ov a w r=>by
 obtain⟨p,h1,h2⟩:=r.ev e1
 obtain⟨q,h3,h4⟩:=r.ev e2
 unfold ixX at h
 split at h<;>try (cases h;done)
 rename_i nm
 split at h<;>try (cases h;done)
 rename_i ty s ds lo hb
 split at h<;>try (cases h;done)
 rename_i e' s' by_ _ _ _ hi
 have:=aeh (hT _ _ hi) rfl
 split at h<;>try (cases h;done)
 rename_i k i
 cases hs:Nat.beq s s' with
 |false=>rw[hs] at h;cases h
 |true=>
  rw[hs,cond_true] at h;cases h
  cases aT hs
  rw[aaw] at h4;subst h4
  cases h2
  obtain⟨B,hB,hBo⟩:=r.row (y:= .nilFunc) hb
  have hl:=hB.len
  simp only at hl
  obtain⟨h5,h6⟩:=hv _ rfl
  obtain⟨vs,hB1,hB2,_⟩:=hB
  rcases hB1 with⟨e5,_,_⟩|⟨b,rest,lo',e5,_⟩
  ·subst e5;have:=hB2.len;simp at this;rw[←this] at h6;simp at h6;omega
  ·have hw:(ρ nm).a=some ⟨b,0,none⟩:=by simp only at e5;rw[e5]
   rw[hw] at h1
   refine⟨_,⟨b,hw,rfl⟩,?_⟩
   have:=ahj (P:=P) (C:=C) (own:=ov) (G:=G) (dst:=dst) (ty':=ty') (pos:=pos) (af:=af) (gd:=gd) (t:=t) h1 h3 h5 (by rw[hl];exact h6)
   simpa using this
theorem aEM{f g:FX}{e s by_:Nat}(hS:acJ P t e s by_)(e1:evX lk x=some f)(h:aG1 bk f=some g):OpR P GB C n lk bk ⟨dst, .call ⟨.builtin .len,⟨[x]⟩,⟨[t]⟩⟩,ty',pos,af,gd⟩ g [] []:= .x1 e1 fun ρ G ov a w y _ r h1 h2=>by
 have key: ∀l:List DV,Is G (.sl l) y→ ∃u,IsX ρ G (.d (.v (.int .i64 (l.length:Nat)))) u∧Yd P C (frA a) ov G ⟨dst, .call ⟨.builtin .len,⟨[x]⟩,⟨[t]⟩⟩,ty',pos,af,gd⟩ u:=fun l hl=>by
  obtain⟨k,z,es,rfl,hs,hl⟩:=adx.1 hl
  have:=hs.len
  rw[hl.len] at this
  exact⟨_,aaw.2 rfl,by rw[←this];exact aew h1⟩
 unfold aG1 at h
 split at h
 ·cases h;cases h2;exact⟨_,aaw.2 rfl,aew h1⟩
 ·cases h;exact key _ h2
 ·cases h;exact key _ h2.2
 ·split at h<;>cases h
  rename_i hb
  cases h2
  obtain⟨B,hB,_⟩:=r.row (y:= .nilFunc) hb
  have:=hB.len
  simp only at this
  exact⟨_,aaw.2 rfl,by rw[←this];exact aew h1⟩
 ·cases h
theorem avX{f g:FX}{d:Nat}(hg:g∈f.cells)(h:aCB f d=true):g.nm≠some d:=by
 have key:g.nm=f.nm∨g.nm=none:=by
  unfold FX.cells at hg
  split at hg
  ·obtain⟨x,_,rfl⟩:=bJ.1 hg;exact .inr rfl
  ·rcases bZ.1 hg with hg|hg
   ·obtain⟨x,_,rfl⟩:=bJ.1 hg;exact .inr rfl
   ·rcases aU.1 hg with rfl|hg
    ·exact .inl rfl
    ·obtain⟨x,_,rfl⟩:=bJ.1 hg;exact .inr rfl
  ·exact .inl (by rw[aY.1 hg])
 rcases key with h'|h'
 ·intro e;unfold aCB at h;rw[←h',e] at h;simp at h
 ·rw[h'];simp
theorem RlX.alloc(r:RlX GB C n lk bk ρ G ov a w){d b:Nat}{cs:List Value}{zs:List FX}{K:Act→World→Prop}{a':Act}{w':World}(hf:acK [d] (some d) lk bk)(hz:adR ρ G zs cs)(hn: ∀g∈zs,g.nm≠some d)
  (hk:SX GB C n (upL lk (some d) (.ov d 0)) (Sx.upB bk [(d,some (.o t zs true))]) K)(rl:Rel C n (Sx.put (frA a) (some d) (.pointer (some ⟨b,0,none⟩))) (⟨b,cs,t,true⟩::ov) G a' w'):K a' w':=by
 have hnd:=(bR.1 rl.h.nd).1
 have hy:IsX (fun k=>if k=d then⟨some ⟨b,0,none⟩,0,0⟩ else ρ k) G (.ov d 0) (.pointer (some ⟨b,0,none⟩)):=⟨b,by simp,rfl⟩
 have hB:an4 (fun k=>if k=d then⟨some ⟨b,0,none⟩,0,0⟩ else ρ k) G d (.o t zs true) [⟨b,cs,t,true⟩]:=
  ⟨b,cs,by simp,rfl,hz.ren fun g hg m hm=>neN _ fun e'=>hn g hg (by rw[hm,e'])⟩
 refine hk.run _ _ _ a' w' (r.new hf (GLe.refl _) rl.h hB ?_ (fun o ho=>aJ _ ho) ?_ hy (abk rl))
 ·intro o ho;rw[aY.1 ho];exact aZ
 ·intro o ho e';cases e';exact hnd o ho rfl
theorem ayF{d:Nat}{f:FX}(e:evX lk x=some f)(hc:f.okc=true)(hn:aCB f d=true):OpR P GB C n lk bk ⟨some d, .box t x,ty',pos,af,gd⟩ (.ov d 0) [(d,some (.o t f.cells true))] [d]:=by
 intro hd tl tb K s1 s2 hf hk
 refine⟨fun ρ G ov a w r Q=>?_⟩
 obtain⟨y,h1,h2⟩:=(r.mono s1 s2).ev e
 exact auy h1 hd (fun b a' w' rl=>r.alloc hf (h2.cells hc).1 (fun g hg=>avX hg hn) hk rl) a w Q ⟨r.h,r.sz,aaN a,r.df⟩
theorem aBg(v:Value):(aBJ v).nm=none:=by unfold aBJ;split<;>rfl
theorem axw{d:Nat}{i:TI}{z:List FX}(hi:afC P t=some i)(hz:i.z=some z):OpR P GB C n lk bk ⟨some d, .alloc t,ty',pos,af,gd⟩ (.ov d 0) [(d,some (.o t z true))] [d]:=by
 intro hd tl tb K s1 s2 hf hk
 refine⟨fun ρ G ov a w r Q=>?_⟩
 obtain⟨v,hv,hv'⟩:=alQ hi hz
 refine agt hd (fun b a' w' rl=>r.alloc hf (hv' ρ G) (fun g hg=>?_) hk rl) a w Q ⟨r.h,r.sz,aaN a,r.df⟩
 obtain⟨j,_,rfl⟩:=adU hi
 cases hj:j.zero with
 |none=>simp only[hj] at hz;cases hz
 |some u=>
  simp only[hj] at hz;cases hz
  obtain⟨x,_,rfl⟩:=bJ.1 hg
  rw[aBg];simp
theorem agq.of_mem{b:Nat}{cs cs':List Value}{ty:TypeId}{lo:Bool}: ∀{own:List Own},⟨b,cs,ty,lo⟩∈own→ ∃own',agq own b cs ty lo cs' own'∧⟨b,cs',ty,lo⟩∈own'∧ ∀o∈own,o.b≠b→o∈own'
 |[],h=>by cases h
 |x::t,h=>by
  rcases aU.1 h with rfl|h
  ·exact⟨_, .hd ..,aZ,fun o ho hb=>(aU.1 ho).elim (fun e=>absurd (by rw[e]) hb) (fun e=>aJ _ e)⟩
  ·obtain⟨own',h1,h2,h3⟩:=agq.of_mem h
   exact⟨x::own', .tl _ _ _ _ _ _ _ _ h1,aJ _ h2,fun o ho hb=>(aU.1 ho).elim (fun e=>by rw[e];exact aZ) (fun e=>aJ _ (h3 o e hb))⟩
theorem RlX.wrote{nm:Nat}{b:Nat}{m m':List Value}{ty:TypeId}{cs cs':List FX}{lo:Bool}(r:RlX GB C n lk bk ρ G ov a w)(hb:bk nm=some (.o ty cs lo))(ha:(ρ nm).a=some ⟨b,0,none⟩){own':List Own}(hm':adR ρ G cs' m')(h1:⟨b,m',ty,lo⟩∈own')(h2: ∀o∈ov,o.b≠b→o∈own')
  {K:Act→World→Prop}(hk:SX GB C n (upL lk dst .un) (Sx.upB bk [(nm,some (.o ty cs' lo))]) K){a':Act}{w':World}(rl:Rel C n (Sx.put (frA a) dst undef) own' G a' w'):K a' w':=by
 have r2:=r.upB (G':=G) (ov':=own') (w':=w') (B':= .o ty cs' lo) (os:=[⟨b,m',ty,lo⟩]) (GLe.refl _) rl.h ⟨b,m',ha,rfl,hm'⟩ (fun o ho=>by rw[aY.1 ho];exact h1) (fun o ho hne=>h2 o ho fun e=>hne (by rw[ha,e])) ⟨_,hb⟩
 exact hk.run _ _ _ a' w' (r2.put rfl (abk rl))
theorem axt{f:FX}(h:f.flat=true):f.okc=true:=by
 cases f with
 |d x=>cases x<;>first|exact h|(cases h;done)
 |bx=>cases h
 |_=>exact h
theorem ary{f:FX}(h:f.flat=true):f.cells=[f]:=by
 cases f with
 |d x=>cases x<;>first|rfl|(cases h;done)
 |bx=>cases h
 |_=>rfl
theorem IsX.flat{f:FX}{y:Value}(h:IsX ρ G f y)(k:f.flat=true):Go.Sx.flat y=true:=by
 obtain⟨h1,h2⟩:=h.cells (axt k)
 rw[ary k] at h1
 have hl:=h1.len
 cases y with
 |agg l=>
  obtain⟨z,q,e,h4,h5⟩:=h1
  cases f with
  |d x=>cases x with
   |v u=>exact Is.flat (show Is G _ _ from h) k
   |ag l=>cases k
   |tp l=>cases k
   |pt l=>exact Is.flat (show Is G _ _ from h) k
   |op b l=>exact Is.flat (show Is G _ _ from h) k
   |sl l=>exact Is.flat (show Is G _ _ from h) k
  |ep l=>obtain⟨_,_,_,_,e,_⟩:=h;cases e
  |ov _ _=>obtain⟨_,_,e⟩:=h;cases e
  |be _ _ _ _=>obtain⟨_,_,e⟩:=h;cases e
  |rs _ _ _ _=>obtain⟨_,_,_,e,_⟩:=h;cases e
  |ct l=>obtain⟨⟨_,_,e⟩,_⟩:=h;cases e
  |bx=>cases k
  |un=>cases k
  |no=>cases k
  |_=>cases h
 |_=>exact h2 _ (by simp[aag])
theorem av9{fa fv:FX}{bl:List (Nat×Option Bk)}{i:TI}(hi:afC P t=some i)(e1:evX lk x=some fa)(e2:evX lk y=some fv)(h:stX bk i fa fv=some bl):OpR P GB C n lk bk ⟨dst, .store t x y,ty',pos,af,gd⟩ .un bl []:=by
 intro hd tl tb K s1 s2 hf hk
 refine⟨fun ρ G ov a w r Q=>?_⟩
 have r1:=r.mono s1 s2
 obtain⟨p,h1,h2⟩:=r1.ev e1
 obtain⟨q,h3,h4⟩:=r1.ev e2
 unfold stX at h
 split at h<;>try (cases h;done)
 rename_i nm off
 split at h<;>try (cases h;done)
 rename_i ty cs lo hb
 obtain⟨b,m,rfl,ha,h5,h6⟩:=r1.own h2 hb
 split at h<;>try (cases h;done)
 ·rename_i k hk'
  have:=akl hi hk'
  cases hc:(fv.okc&&(Nat.beq fv.cells.length k&&Nat.ble (off+k) cs.length)) with
  |false=>rw[hc] at h;cases h
  |true=>
   rw[hc,cond_true,ahl] at h;cases h
   simp only[cX,Nat.beq_eq_true_eq,Nat.ble_eq] at hc
   obtain⟨c1,c2,c3⟩:=hc
   replace c2:=aT c2
   obtain⟨h7,h8⟩:=h4.cells c1
   obtain⟨own',u1,u2,u3⟩:=agq.of_mem (cs':=ovw m off (aag q)) h6
   exact alJ h1 h3 u1 (by rw[h7.len,c2]) (by rw[h5.len];exact c3) (fK.2 h8) hd (fun a' w' rl=>r.wrote (m:=m) (s2 _ _ hb) ha (h5.ov h7) u2 u3 hk rl) a w Q ⟨r.h,r.sz,aaN a,r.df⟩
 ·rename_i hk'
  have:=ajB hi hk'
  cases hc:(fv.flat&&Nat.blt off cs.length) with
  |false=>rw[hc] at h;cases h
  |true=>
   rw[hc,cond_true,ahl] at h;cases h
   simp only[cX,mL] at hc
   obtain⟨own',u1,u2,u3⟩:=agq.of_mem (cs':=m.set off q) h6
   exact adM h1 h3 u1 (by rw[h5.len];exact hc.2) (h4.flat hc.1) hd (fun a' w' rl=>r.wrote (m:=m) (s2 _ _ hb) ha (h5.set off h4) u2 u3 hk rl) a w Q ⟨r.h,r.sz,aaN a,r.df⟩
theorem ahV{op:Op}{r:CR}(hT:TOK P T)(h:aCC T lk bk dst op=some r):aIG P GB C n lk bk ⟨dst,op,ty',pos,af,gd⟩ r:=by
 intro hv
 unfold aCC at h
 split at h
 ·obtain⟨f,h1,rfl⟩:=afY h;exact aAl h1
 ·obtain⟨f,h1,rfl⟩:=afY h;exact atL h1
 ·obtain⟨c,hc,h⟩:=af4 h
  obtain⟨f,g,h1,h2,h⟩:=akC h
  obtain⟨u,h3,rfl⟩:=afY h
  exact aA6 hc h1 h2 h3
 ·split at h<;>try (cases h;done)
  obtain⟨i,hi,h⟩:=asR hT h
  split at h<;>try (cases h;done)
  rename_i z hz
  rw[ahl] at h;cases h
  exact axw hi hz
 ·split at h<;>try (cases h;done)
  obtain⟨f,hf,h⟩:=af4 h
  rw[ahl,cond_eq_ite] at h
  split at h<;>cases h
  rename_i hc
  simp only[cX] at hc
  exact ayF hf hc.1 hc.2
 ·obtain⟨f,h1,h⟩:=af4 h;obtain⟨v,u,h3,rfl⟩:=amU h;exact aD5 h1 h3 hv
 ·obtain⟨fo,i,hi,hk,h⟩:=asV hT h
  obtain⟨f,h1,h⟩:=af4 h;obtain⟨u,h3,rfl⟩:=afY h;exact aGG hi hk h1 h3
 ·obtain⟨fo,i,hi,hk,h⟩:=asV hT h
  obtain⟨f,h1,h⟩:=af4 h;obtain⟨u,h3,rfl⟩:=afY h;exact aGA hT hi hk h1 h3
 ·obtain⟨i,hi,h⟩:=asR hT h
  obtain⟨f,h1,h⟩:=af4 h;obtain⟨u,h3,rfl⟩:=afY h;exact aFY hi h1 h3
 ·obtain⟨i,hi,h⟩:=asR hT h
  obtain⟨f,g,h1,h2,h⟩:=akC h
  cases hb:stX bk i f g with
  |none=>simp only[hb] at h;cases h
  |some bl=>simp only[hb] at h;cases h;exact av9 hi h1 h2 hb
 ·obtain⟨f,h1,h⟩:=af4 h;obtain⟨u,h3,rfl⟩:=afY h;exact aEQ h1 h3
 ·obtain⟨fo,i,hi,hk,h⟩:=asV hT h
  split at h<;>try (cases h;done)
  rename_i z hz
  split at h<;>try (cases h;done)
  rename_i cs hcs
  split at h<;>cases h
  rename_i g hg
  exact ayb hi hk hz hcs hg
 ·obtain⟨f,g,h1,h2,h⟩:=akC h;obtain⟨v,u,h3,rfl⟩:=amU h;exact aFI hT h1 h2 h3 hv
 ·obtain⟨f,h1,h⟩:=af4 h;obtain⟨v,u,h3,rfl⟩:=amU h;exact aGv h1 h3 hv
 ·obtain⟨f,h1,h⟩:=af4 h;obtain⟨v,u,h3,rfl⟩:=amU h;exact aGN hT h1 h3 hv
 ·obtain⟨f,g,h1,h2,h⟩:=akC h;obtain⟨v,u,h3,rfl⟩:=amU h;exact aGm hT h1 h2 h3 hv
 ·split at h<;>try (cases h;done)
  rename_i hi
  obtain⟨f,h1,h⟩:=af4 h;obtain⟨u,h3,rfl⟩:=afY h
  exact aEM (aeh (hT _ _ hi) rfl) h1 h3
 ·obtain⟨f,g,h1,h2,h⟩:=akC h;obtain⟨u,h3,rfl⟩:=afY h;exact aE0 (mx:=true) h1 h2 h3
 ·obtain⟨f,g,h1,h2,h⟩:=akC h;obtain⟨u,h3,rfl⟩:=afY h;exact aE0 (mx:=false) h1 h2 h3
 ·cases h
end
def FW(r:Option Nat):Fence:={Fence.wide with round:=r}
def wpr(r:Option Nat)(P:Program)(c:Code)(Q:Exit→Act→World→Prop)(a:Act)(w:World):Prop:=c.wpIn (FW r) 0 P Q a w
section
variable {r:Option Nat} {P:Program} {Q:Exit→Act→World→Prop} {a:Act} {w:World}
theorem anM{o:Option Nat}{c:Code}(h:o=none)(k:wpr o P c Q a w):c.wp P Q a w:=by
 subst h
 exact wpIn_wide.1 k
theorem axQ{c:Code}{Q':Exit→Act→World→Prop}(h:wpr r P c Q a w)(hq: ∀e a w,Q e a w→Q' e a w):wpr r P c Q' a w:=wpIn_mono h hq
theorem axq(h:Q .normal a w):wpr r P .skip Q a w:=wpIn_skip h
theorem avu{l:Nat}(h:Q .normal a w):wpr r P (.label l) Q a w:=wpIn_label h
theorem axf{id:Nat}(h:Q (.exit id) a w):wpr r P (.exit id) Q a w:=wpIn_exit h
theorem aAO(h:Q .ret a w):wpr r P .ret Q a w:=wpIn_ret h
theorem aBq{x y:Code}(h:wpr r P x (Exit.then (wpr r P y Q) Q) a w):wpr r P (.seq x y) Q a w:=wpIn_seq h
theorem aj9{c:Operand}{x y:Code}{t:Bool}(hc:a.eval c= .bool t)(ht:t=true→wpr r P x Q a w)(hf:t=false→wpr r P y Q a w):wpr r P (.cond c x y) Q a w:=wpIn_cond_split hc ht hf
theorem atn{id:Nat}{c:Code}(h:wpr r P c (Exit.inBlock id Q) a w):wpr r P (.block id c) Q a w:=wpIn_block h
theorem ac5{b:Frame}{k:List Item}{cs:List Frame}{c:Code}:step P (lone (b.atR a (.code (.scope c)::k)) cs w)= .next (lone (b.atR a (.code c:: .inScope c::k)) cs w):=
 step_lone_go (by simp[stepG,stepG.exec,Frame.atR])
theorem alX{b:Frame}{k:List Item}{cs:List Frame}{c:Code}:step P (lone (b.atR a (.inScope c::k)) cs w)= .next (lone (b.atR a k) cs w):=
 step_lone_go (by simp[stepG,stepG.exec,Frame.atR])
theorem ate{c:Code}(h:wpr r P c (Exit.noGoto Q) a w):wpr r P (.scope c) Q a w:=by
 intro b k cs hro hb hr
 have h0:(lone (b.atR a (.code (.scope c)::k)) cs w).fenced P (FW r):=fenced_calm hb hr rfl
 obtain⟨e,a₁,w₁,hq,harr⟩:=h b (.inScope c::k) cs hro hb hr
 cases e with
 |normal=>exact⟨.normal,a₁,w₁,hq, .head h0 ac5 (StepsIn.trans harr (.one (fenced_calm hb hr rfl) alX))⟩
 |exit id=>
  have hx:exitTo id (.inScope c::k)=exitTo id k:=by simp[exitTo]
  exact⟨.exit id,a₁,w₁,hq,fun k' hk=> .head h0 ac5 (harr.1 k' (by rw[hx];exact hk)),fun hr' hk=>let⟨k₁,h1,h2⟩:=harr.2 hr' (by rw[hx];exact hk);⟨k₁,h1, .head h0 ac5 h2⟩⟩
 |goto l=>exact hq.elim
 |ret=>exact⟨_,a₁,w₁,hq, .of_steps (.one h0 ac5) harr⟩
 |panic ch=>exact⟨_,a₁,w₁,hq, .of_steps (.one h0 ac5) harr⟩
 |outgrown=>exact⟨_,a₁,w₁,hq, .of_steps (.one h0 ac5) harr⟩
theorem ank{id:Nat}{ops:Array Oper}(h:wpListIn (FW r) 0 P ops Q ops.toList a w):wpr r P (.region id ops false) Q a w:=wpIn_region_list h
theorem aAC{f:FuncId}{args:Array Value}{R:Ending→World→Prop}(h:Calls P f args w R):CallsIn (FW r) 0 P f args w R:=by
 have h1:CallsIn Fence.wide 0 P f args w R:=callsIn_wide.2 h
 cases r with
 |none=>exact h1
 |some l=>exact h1
theorem aEz{o:Oper}{K K':Act→World→Prop}(h: ∀Q,o.wp P a w K' Q)(hd: ∀a' w',K' a' w'→a'.defers=a.defers∧K a' w'):o.wpIn (FW r) 0 P a w K Q:=by
 have hs:o.semAt r a.eval=execOp a.eval o:=by
  cases r with
  |none=>rfl
  |some l=>
   refine Oper.semAt_some l a.eval o fun c hc=>?_
   have h1:=h (fun _ _ _=>False)
   unfold Oper.wp at h1
   obtain⟨dst,op,ty,pos,af,gd⟩:=o
   simp only at hc
   subst hc
   unfold execOp at h1
   simp only[Sem.run_bind,Result.andThen] at h1
   split at h1
   ·simp only[Sem.run_pure,Oper.upon] at h1
    have:=(hd _ _ h1).1
    cases dst<;>simp[Act.put] at this
   ·rename_i x w1 hx
    cases x<;>simp only[Oper.upon] at h1
 have h1:=h (fun _ _ _=>False)
 unfold Oper.wp at h1
 refine⟨fun _ _=>trivial,?_⟩
 show o.uponIn (FW r) 0 P a K Q ((o.semAt r a.eval).run P w)
 rw[hs]
 generalize (execOp a.eval o).run P w=x at h1
 cases x with
 |ok nx w'=>
  cases nx with
  |value v=>exact(hd _ _ h1).2
  |skip=>exact(hd _ _ h1).2
  |defer d=>exact(hd _ _ h1).2
  |enter f args=>
   refine⟨fun h=>(by cases h),(aAC (r:=r) h1).mono fun e w'' he=>?_⟩
   cases e with
   |returned v=>exact(hd _ _ he).2
   |panicked ch=>exact he.elim
   |outgrown=>obtain⟨_,_,hq⟩:=he;exact hq.elim
  |row row args=>
   refine⟨fun h=>(by cases h),fun c cs hroom=>?_⟩
   obtain⟨v,w'',hv,hst⟩:=h1 c cs
   exact⟨v,w'',(hd _ _ hv).2,stepsIn_wide.2 hst⟩
  |round=>exact h1.elim
  |_=>exact h1.elim
 |halt y w'=>cases y<;>first|exact h1.elim|exact h1
end
def azl:List Nat→Nat→Bool
 |[],_=>false
 |x::t,k=>Nat.beq x k||azl t k
structure Rc where
 rs:List Nat
 d:Option Nat
 f:FX
 rn:List Nat
 bl:List (Nat×Option Bk)
 nw:List Nat
abbrev ST:=LK×BM
def Rc.ap(r:Rc)(s:ST):ST:=(upL s.1 r.d r.f,upB s.2 r.bl)
def sel(p:Nat→Bool):Nat→ST→List Rc→ST
 |_,s,[]=>s
 |k,s,r::t=>sel p (k+1) (if p k then r.ap s else s) t
def rsX{α:Type}(l:List Nat)(g:Nat→Option α):Nat→Option α:=fun k=>bif azl l k then g k else none
theorem aln{nm:Nat}: ∀{bl:List (Nat×Option Bk)} {s s':BM},((∀e∈bl,e.1≠nm)→s nm=s' nm)→upB s bl nm=upB s' bl nm
 |[],s,s',h=>h (by simp)
 |(k,B)::t,s,s',h=>by
  simp only[upB]
  refine aln fun ht=>?_
  by_cases e:nm=k
  ·simp[e]
  ·simp only[e,if_false];exact h fun x hx=>(aU.1 hx).elim (fun c=>by rw[c];exact Ne.symm e) (ht x)
theorem ap0{nm:Nat}: ∀{bl:List (Nat×Option Bk)} {s:BM},(∀e∈bl,e.1≠nm)→upB s bl nm=s nm
 |[],s,h=>rfl
 |(k,B)::t,s,h=>by
  simp only[upB]
  rw[ap0 fun e he=>h e (aJ _ he)]
  simp[Ne.symm (h _ aZ)]
theorem atP{x:Nat}{d:Option Nat}{f:FX}{s:LK}(h:d≠some x):upL s d f x=s x:=by
 cases d with
 |none=>rfl
 |some d=>simp only[upL];rw[if_neg fun e=>h (by rw[e])]
theorem auY{x:Nat}{p q:Nat→Bool}: ∀{us:List Rc} {k:Nat} {s s':ST},s.1 x=s'.1 x→(∀j r,us[j]? =some r→r.d=some x→p (k+j)=q (k+j))→(sel p k s us).1 x=(sel q k s' us).1 x
 |[],k,s,s',h,_=>h
 |r::t,k,s,s',h,hp=>by
  simp only[sel]
  refine auY ?_ fun j u hj hd=>by have:=hp (j+1) u (by simpa using hj) hd;rwa [show k+(j+1)=k+1+j by omega] at this
  by_cases hd:r.d=some x
  ·have:=hp 0 r rfl hd
   rw[dY] at this
   rw[this]
   split
   ·simp only[Rc.ap,upL,hd,if_true]
   ·exact h
  ·have: ∀(b:Bool) (s:ST),(if b then r.ap s else s).1 x=s.1 x:=fun b s=>by cases b<;>simp[Rc.ap,atP hd]
   rw[this,this,h]
theorem arV{nm:Nat}{p q:Nat→Bool}: ∀{us:List Rc} {k:Nat} {s s':ST},s.2 nm=s'.2 nm→(∀j r,us[j]? =some r→(∃e∈r.bl,e.1=nm)→p (k+j)=q (k+j))→(sel p k s us).2 nm=(sel q k s' us).2 nm
 |[],k,s,s',h,_=>h
 |r::t,k,s,s',h,hp=>by
  simp only[sel]
  refine arV ?_ fun j u hj hd=>by have:=hp (j+1) u (by simpa using hj) hd;rwa [show k+(j+1)=k+1+j by omega] at this
  by_cases hd: ∃e∈r.bl,e.1=nm
  ·have:=hp 0 r rfl hd
   rw[dY] at this
   rw[this]
   split
   ·exact aln fun _=>h
   ·exact h
  ·have: ∀(b:Bool) (s:ST),(if b then r.ap s else s).2 nm=s.2 nm:=fun b s=>by
    cases b
    ·rfl
    ·exact ap0 fun e he hc=>hd ⟨e,he,hc⟩
   rw[this,this,h]
theorem aoc{x:Nat}{f:FX}{p:Nat→Bool}: ∀{us:List Rc} {k:Nat} {s:ST},(sel p k s us).1 x=some f→s.1 x=some f∨ ∃j r,us[j]? =some r∧p (k+j)=true∧r.d=some x∧r.f=f
 |[],k,s,h=> .inl h
 |r::t,k,s,h=>by
  simp only[sel] at h
  rcases aoc h with h|⟨j,u,h1,h2,h3⟩
  ·cases hp:p k with
   |false=>rw[hp] at h;exact .inl h
   |true=>
    rw[hp] at h
    simp only[if_true,Rc.ap] at h
    by_cases hd:r.d=some x
    ·rw[hd] at h;simp only[upL,if_true] at h;cases h;exact .inr ⟨0,r,rfl,by simpa using hp,hd,rfl⟩
    ·rw[atP hd] at h;exact .inl h
  ·exact .inr ⟨j+1,u,by simpa using h1,by rw[show k+(j+1)=k+1+j by omega];exact h2,h3⟩
theorem aqK{nm:Nat}{B:Bk}: ∀{bl:List (Nat×Option Bk)} {s:BM},upB s bl nm=some B→s nm=some B∨(nm,some B)∈bl
 |[],s,h=> .inl h
 |(k,B')::t,s,h=>by
  simp only[upB] at h
  rcases aqK h with h|h
  ·by_cases e:nm=k
   ·subst e;simp only[if_true] at h;subst h;exact .inr aZ
   ·simp only[e,if_false] at h;exact .inl h
  ·exact .inr (aJ _ h)
theorem anE{nm:Nat}{B:Bk}{p:Nat→Bool}: ∀{us:List Rc} {k:Nat} {s:ST},(sel p k s us).2 nm=some B→s.2 nm=some B∨ ∃j r,us[j]? =some r∧p (k+j)=true∧(nm,some B)∈r.bl
 |[],k,s,h=> .inl h
 |r::t,k,s,h=>by
  simp only[sel] at h
  rcases anE h with h|⟨j,u,h1,h2,h3⟩
  ·cases hp:p k with
   |false=>rw[hp] at h;exact .inl h
   |true=>
    rw[hp] at h
    rcases aqK h with h|h
    ·exact .inl h
    ·exact .inr ⟨0,r,rfl,by simpa using hp,h⟩
  ·exact .inr ⟨j+1,u,by simpa using h1,by rw[show k+(j+1)=k+1+j by omega];exact h2,h3⟩
def aHT(acc:List Nat)(l:List Edge):Nat:=l.foldl (fun s e=>if Region.binds .any e then(s ||| 2^e.on) ||| acc.getD e.on 0 else s) 0
def anZ:List Oper→List Nat→List Nat
 |[],acc=>acc
 |o::r,acc=>anZ r (acc++[aHT acc o.after.toList])
inductive Bf (ops:List Oper):Nat→Nat→Prop
 |b {i:Nat} {o:Oper} {e:Edge} (ho:ops[i]? =some o) (he:e∈o.after) (hb:Region.binds .any e=true):Bf ops i e.on
 |s {i j:Nat} {o:Oper} {e:Edge} (ho:ops[i]? =some o) (he:e∈o.after) (hb:Region.binds .any e=true) (h:Bf ops e.on j):Bf ops i j
theorem amC{acc:List Nat}{j:Nat}: ∀(l:List Edge) (s:Nat),(l.foldl (fun s e=>if Region.binds .any e then(s ||| 2^e.on) ||| acc.getD e.on 0 else s) s).testBit j=true→s.testBit j=true∨ ∃e∈l,Region.binds .any e=true∧(e.on=j∨(acc.getD e.on 0).testBit j=true)
 |[],s,h=> .inl h
 |e::t,s,h=>by
  rw[lX] at h
  rcases amC t _ h with h|⟨e',h1,h2⟩
  ·split at h
   ·rename_i hb
    simp only[Nat.testBit_or,gM,Nat.testBit_two_pow,decide_eq_true_eq] at h
    rcases h with(h|h)|h
    ·exact .inl h
    ·exact .inr ⟨e,aZ,hb, .inl h⟩
    ·exact .inr ⟨e,aZ,hb, .inr h⟩
   ·exact .inl h
  ·exact .inr ⟨e',aJ _ h1,h2⟩
theorem aki{all:List Oper}: ∀(r:List Oper) (acc:List Nat) (pre:List Oper),all=pre++r→acc.length=pre.length→(∀i j,(acc.getD i 0).testBit j=true→Bf all i j)→ ∀i j,((anZ r acc).getD i 0).testBit j=true→Bf all i j
 |[],acc,pre,_,_,h=>h
 |o::r,acc,pre,he,hl,h=>by
  refine aki r _ (pre++[o]) (by rw[he];simp) (by simp[hl]) fun i j hij=>?_
  rw[aX,List.getElem?_append] at hij
  split at hij
  ·rename_i hi
   exact h i j (by rw[aX];exact hij)
  ·rename_i hi
   by_cases e:i=acc.length
   ·subst e
    simp only[Nat.sub_self,List.getElem?_cons_zero,lV] at hij
    have ho:all[acc.length]? =some o:=by rw[he,hl];simp
    rcases amC _ _ hij with h0|⟨e,h1,h2,h3⟩
    ·simp at h0
    ·rcases h3 with rfl|h3
     ·exact .b ho (by simpa using h1) h2
     ·exact .s ho (by simpa using h1) h2 (h _ _ h3)
   ·rw[cN (by simp;omega)] at hij
    simp at hij
def aCw:Option Nat→Nat→Bool
 |some x,y=>Nat.beq x y
 |none,_=>false
def hit(a b:Rc):Bool:=(match a.d with|some x=>azl b.rs x||aCw b.d x|none=>false)||a.bl.any fun e=>azl b.rn e.1||b.bl.any fun e'=>Nat.beq e'.1 e.1
def aBe(nm:Nat)(f:FX):Bool:=aCw f.nm nm
def aFj(nm:Nat):Option Bk→Bool
 |some (.o _ cs _)=>cs.any (aBe nm)
 |_=>false
def ar7(r:Rc)(nm:Nat):Bool:=aBe nm r.f||r.bl.any fun e=>aFj nm e.2
def axv(m:Nat)(r:Rc):Nat→List Rc→Bool
 |_,[]=>true
 |j,u::t=>(!(hit u r||hit r u||u.nw.any (ar7 r))||m.testBit j)&&!(r.nw.any (ar7 u))&&axv m r (j+1) t
def ani:List Nat→List Rc→List Rc→Bool
 |m::ms,pre,r::t=>axv m r 0 pre&&ani ms (pre++[r]) t
 |_,_,[]=>true
 |[],_,_::_=>false
def ai0:Nat→List Oper→Bool
 |_,[]=>true
 |i,o::t=>o.after.all (fun e=>!Region.binds .any e||Nat.blt e.on i)&&ai0 (i+1) t
def apM(us:List Rc)(fr:List (Nat×FX))(own:List (Nat×Option Bk)):Bool:=us.all fun r=>r.nw.all fun nm=>fr.all (fun e=>!aBe nm e.2)&&own.all fun e=>!aFj nm e.2
theorem akq{m:Nat}{r:Rc}: ∀{l:List Rc} {k:Nat},axv m r k l=true→ ∀j u,l[j]? =some u→((hit u r=true∨hit r u=true∨ ∃nm∈u.nw,ar7 r nm=true)→m.testBit (k+j)=true)∧ ∀nm∈r.nw,ar7 u nm=false
 |[],k,_,j,u,h=>by simp at h
 |x::t,k,h,j,u,hj=>by
  simp only[axv,cX,gM,gU] at h
  obtain⟨⟨h1,h2⟩,h3⟩:=h
  cases j with
  |zero=>
   simp at hj;subst hj
   refine⟨fun hh=>?_,fun nm hn=>by have:=List.any_eq_false.1 h2 nm hn;simpa using this⟩
   rcases h1 with h1|h1
   ·simp only[sQ] at h1
    rcases hh with hh|hh|⟨nm,hn,hh⟩
    ·rw[h1.1.1] at hh;cases hh
    ·rw[h1.1.2] at hh;cases hh
    ·have:=List.any_eq_false.1 h1.2 nm hn;exact absurd hh this
   ·simpa using h1
  |succ j=>
   have:=akq h3 j u (by simpa using hj)
   rwa [show k+(j+1)=k+1+j by omega]
theorem ak9: ∀{ms:List Nat} {pre t:List Rc},ani ms pre t=true→ ∀i r,t[i]? =some r→ ∀j u,(pre++t)[j]? =some u→j<pre.length+i→((hit u r=true∨hit r u=true∨ ∃nm∈u.nw,ar7 r nm=true)→(ms.getD i 0).testBit j=true)∧ ∀nm∈r.nw,ar7 u nm=false
 |[],pre,[],_,i,r,h=>by simp at h
 |_::_,pre,[],_,i,r,h=>by simp at h
 |[],pre,_::_,h,i,r,_=>by simp[ani] at h
 |m::ms,pre,x::t,h,i,r,hi=>by
  simp only[ani,cX] at h
  intro j u hj hlt
  cases i with
  |zero=>
   simp at hi;subst hi
   rw[eJ (by omega)] at hj
   simpa using akq h.1 j u hj
  |succ i=>
   have:=ak9 h.2 i r (by simpa using hi) j u (by simpa using hj) (by simp;omega)
   simpa using this
theorem aiZ: ∀{l:List Oper} {k:Nat},ai0 k l=true→ ∀i o,l[i]? =some o→ ∀e∈o.after,Region.binds .any e=true→e.on<k+i
 |[],k,_,i,o,h=>by simp at h
 |x::t,k,h,i,o,hi=>by
  simp only[ai0,cX] at h
  intro e he hb
  cases i with
  |zero=>
   simp at hi;subst hi
   have:=Array.all_eq_true_iff_forall_mem.1 h.1 e he
   simpa[hb] using this
  |succ i=>have:=aiZ h.2 i o (by simpa using hi) e he hb;omega
def wO(rd:Option Nat)(P:Program)(ops:Array Oper)(Q:Exit→Act→World→Prop)(o:Oper)(K:Act→World→Prop)(a:Act)(w:World):Prop:=
 if Region.wanted o (yielded ops a.tmps) then o.wpIn (FW rd) 0 P a w K Q else K (a.put o.dst undef) w
section
variable {P:Program} {GB:Gh} {C:Ctx} {n:Nat} {ops:Array Oper} {Q:Exit→Act→World→Prop}
def OpS(P:Program)(GB:Gh)(C:Ctx)(n:Nat)(ops:Array Oper)(lk:LK)(bk:BM)(o:Oper)(f:FX)(bl:List (Nat×Option Bk))(nw:List Nat):Prop:=
 ∀(Q:Exit→Act→World→Prop) (tl:LK) (tb:BM) (K:Act→World→Prop),alg lk tl→alg bk tb→acK nw o.dst tl tb→SX GB C n (upL tl o.dst f) (upB tb bl) K→SX GB C n tl tb (wO C.rd P ops Q o K)
theorem SX.drew{lk:LK}{bk:BM}{Φ:Act→World→Prop}(h:SX GB C n lk bk Φ):SX GB C n lk bk (fun a w=>Φ a {w with drawn:=w.drawn+1}):=
 ⟨fun ρ G ov a w r=>h.run ρ G ov a _ ⟨r.gb,r.h.drew,r.sz,r.df,r.fx,r.bx,r.dj,r.fxd⟩⟩
structure Drawn (P:Program) (GB:Gh) (C:Ctx) (n:Nat) (ops:Array Oper) (us:List Rc) (s0:ST):Prop where
 len:us.length=ops.size
 snd: ∀i r o,us[i]? =some r→ops[i]? =some o→o.dst=r.d∧OpS P GB C n ops (rsX r.rs (sel (fun j=>decide (j<i)) 0 s0 us).1) (rsX r.rn (sel (fun j=>decide (j<i)) 0 s0 us).2) o r.f r.bl r.nw
 all:ani (anZ ops.toList []) [] us=true
 edge:ai0 0 ops.toList=true
 fr0: ∀r∈us,∀nm∈r.nw,(∀k f,s0.1 k=some f→f.nm≠some nm)∧ ∀k B,s0.2 k=some B→ ¬B.men nm
theorem ag9{o:Option Nat}{k:Nat}:aCw o k=true↔o=some k:=by cases o<;>simp[aCw]
theorem apw{B:Bk}{nm:Nat}(h:B.men nm):aFj nm (some B)=true:=by
 cases B with
 |o ty cs lo=>obtain⟨f,hf,e⟩:=h;exact jS.2 ⟨f,hf,ag9.2 e⟩
 |b=>cases h
 |c=>cases h
def lst(listed:Array Bool):Nat→Bool:=fun j=>listed.getD j false
def un(ops:Array Oper)(listed:Array Bool):Nat:=((List.range ops.size).filter fun j=>!listed.getD j true).length
theorem an9{α:Type}{p q:α→Bool}{x:α}: ∀{l:List α},x∈l→(∀y,q y=true→p y=true)→p x=true→q x=false→(l.filter q).length<(l.filter p).length
 |[],h,_,_,_=>by cases h
 |y::t,h,hpq,h1,h2=>by
  have le: ∀l:List α,(l.filter q).length≤(l.filter p).length:=fun l=>by
   induction l with
   |nil=>exact aM _
   |cons z l ih=>
    simp only[pU]
    cases hq:q z with
    |true=>simp[hpq z hq];omega
    |false=>cases hp:p z<;>simp<;>omega
  rcases aU.1 h with rfl|h
  ·simp only[pU,h1,h2,if_true];have:=le t;simp;omega
  ·have ih:=an9 h hpq h1 h2
   simp only[pU]
   cases hq:q y with
   |true=>simp[hpq y hq];omega
   |false=>cases hp:p y<;>simp<;>omega
theorem Drawn.walk{us:List Rc}{s0:ST}(D:Drawn P GB C n ops us s0)(hk:SX GB C n (sel (fun _=>true) 0 s0 us).1 (sel (fun _=>true) 0 s0 us).2 (Q .normal)):
  ∀(fuel:Nat) (listed:Array Bool),listed.size=ops.size→(∀i o,ops[i]? =some o→lst listed i=true→ ∀e∈o.after,Region.binds .any e=true→lst listed e.on=true)→un ops listed≤fuel→
   SX GB C n (sel (lst listed) 0 s0 us).1 (sel (lst listed) 0 s0 us).2 (wpAnyIn (FW C.rd) 0 P .any ops Q fuel listed):=by
 -- what comes before something listed is listed
 have clo: ∀listed:Array Bool,(∀i o,ops[i]? =some o→lst listed i=true→ ∀e∈o.after,Region.binds .any e=true→lst listed e.on=true)→ ∀i j,Bf ops.toList i j→lst listed i=true→lst listed j=true:=by
  intro listed hc i j hb
  induction hb with
  |b ho he hb=>intro hi;exact hc _ _ (by simpa using ho) hi _ he hb
  |s ho he hb _ ih=>intro hi;exact ih (hc _ _ (by simpa using ho) hi _ he hb)
 have bf: ∀i j,((anZ ops.toList []).getD i 0).testBit j=true→Bf ops.toList i j:=aki ops.toList [] [] J J (fun i j h=>by simp at h)
 have spec: ∀i r,us[i]? =some r→ ∀j u,us[j]? =some u→j<i→((hit u r=true∨hit r u=true∨ ∃nm∈u.nw,ar7 r nm=true)→Bf ops.toList i j)∧ ∀nm∈r.nw,ar7 u nm=false:=fun i r hi j u hj hlt=>by
  have:=ak9 D.all i r hi j u (by simpa using hj) (by simpa using hlt)
  exact⟨fun h=>bf _ _ (this.1 h),this.2⟩
 have done: ∀listed:Array Bool,listed.size=ops.size→Region.ready .any ops listed=[]→ ∀i,i<ops.size→lst listed i=true:=by
  intro listed hsz hr i
  induction i using Nat.strongRecOn with
  |ind i ih=>
   intro hi
   cases hl:listed.getD i true with
   |true=>unfold lst;simp only[gS] at hl⊢;rw[jL (by omega)] at hl⊢;simpa using hl
   |false=>
    have:i∈Region.ready .any ops listed:=mem_ready.2 ⟨hl,ops[i],jL hi,fun e he hb=>by
     have hlt:=aiZ D.edge i ops[i] (by simp[hi]) e he hb
     exact ih e.on (by omega) (by omega)⟩
    rw[hr] at this;cases this
 have same: ∀listed:Array Bool,listed.size=ops.size→(∀i,i<ops.size→lst listed i=true)→(sel (lst listed) 0 s0 us).1=(sel (fun _=>true) 0 s0 us).1∧(sel (lst listed) 0 s0 us).2=(sel (fun _=>true) 0 s0 us).2:=by
  intro listed hsz h
  refine⟨funext fun x=>auY rfl fun j r hj _=>?_,funext fun x=>arV rfl fun j r hj _=>?_⟩<;>
  ·rw[fQ];exact h j (by have:=(aL.1 hj).1;rw[D.len] at this;exact this)
 intro fuel
 induction fuel with
 |zero=>
  intro listed hsz hc hu
  have all: ∀i,i<ops.size→lst listed i=true:=fun i hi=>by
   cases hl:listed.getD i true with
   |true=>unfold lst;simp only[gS] at hl⊢;rw[jL (by omega)] at hl⊢;simpa using hl
   |false=>
    have h0:=List.length_eq_zero_iff.1 (Nat.le_zero.1 hu)
    have:=List.filter_eq_nil_iff.1 h0 i (kL.2 hi)
    simp[hl] at this
  obtain⟨e1,e2⟩:=same listed hsz all
  rw[e1,e2]
  refine hk.imp fun a w h=>⟨?_,h⟩
  refine List.eq_nil_iff_forall_not_mem.2 fun i hi=>?_
  obtain⟨h1,o,ho,_⟩:=mem_ready.1 hi
  have hlt:=(mN.1 ho).1
  have h2:=all i hlt
  unfold lst at h2
  simp only[gS] at h1 h2
  rw[jL (by omega)] at h1 h2
  simp at h1 h2
  rw[h1] at h2;cases h2
 |succ fuel ih=>
  intro listed hsz hc hu
  refine⟨fun ρ G ov a w r=>⟨fun hr=>?_,fun i hi=>?_⟩⟩
  ·obtain⟨e1,e2⟩:=same listed hsz (done listed hsz hr)
   rw[e1,e2] at r
   exact hk.run ρ G ov a w r
  ·obtain⟨h1,o,ho,hall⟩:=mem_ready.1 hi
   have hlt:=(mN.1 ho).1
   have hli:lst listed i=false:=by
    unfold lst
    simp only[gS] at h1⊢
    rw[jL (by omega)] at h1⊢
    simpa using h1
   obtain⟨u,hui⟩: ∃u,us[i]? =some u:=⟨us[i]'(by rw[D.len];exact hlt),aQ _⟩
   obtain⟨hd,hop⟩:=D.snd i u o hui ho
   have bl: ∀j,Bf ops.toList i j→lst listed j=true:=fun j hb=>by
    cases hb with
    |b ho' he hb=>rw[Array.getElem?_toList,ho] at ho';cases ho';exact hall _ he hb
    |s ho' he hb h=>rw[Array.getElem?_toList,ho] at ho';cases ho';exact clo listed hc _ _ h (hall _ he hb)
   have nb: ∀j r,us[j]? =some r→(hit r u=true∨hit u r=true)→decide (j<i)=lst listed j:=fun j r hj hh=>by
    rcases pZ j i with h|h|h
    ·rw[bl j ((spec i u hui j r hj h).1 (hh.imp id .inl))];simpa using h
    ·subst h;rw[hli];simp
    ·cases hl:lst listed j with
     |false=>simp;omega
     |true=>have:=clo listed hc j i ((spec j r hj i u hui h).1 (hh.symm.imp id .inl)) hl;rw[hli] at this;cases this
   have sz':(listed.setIfInBounds i true).size=ops.size:=by simpa using hsz
   have l': ∀j,j≠i→lst (listed.setIfInBounds i true) j=lst listed j:=fun j hj=>by unfold lst;rw[getD_set_ne false (Ne.symm hj)]
   have li':lst (listed.setIfInBounds i true) i=true:=by unfold lst;simp[hsz,hlt]
   have hc': ∀j o',ops[j]? =some o'→lst (listed.setIfInBounds i true) j=true→ ∀e∈o'.after,Region.binds .any e=true→lst (listed.setIfInBounds i true) e.on=true:=fun j o' hj hlj e he hb=>by
    by_cases hji:j=i
    ·subst hji;rw[ho] at hj;cases hj
     exact getD_set_true (hall e he hb)
    ·rw[l' j hji] at hlj
     exact getD_set_true (hc j o' hj hlj e he hb)
   have hu':un ops (listed.setIfInBounds i true)≤fuel:=by
    have:un ops (listed.setIfInBounds i true)<un ops listed:=by
     refine an9 (x:=i) (kL.2 hlt) (fun y hy=>?_) (by simp[h1]) (by simp[hsz,hlt])
     by_cases hyi:y=i
     ·subst hyi;simp[hsz,hlt] at hy
     ·rwa [getD_set_ne true (Ne.symm hyi)] at hy
    omega
   have next:=ih _ sz' hc' hu'
   have e1:(sel (lst (listed.setIfInBounds i true)) 0 s0 us).1=upL (sel (lst listed) 0 s0 us).1 o.dst u.f:=by
    funext x
    rw[hd]
    by_cases hx:u.d=some x
    ·-- i is the last to write x
     have key: ∀(us':List Rc) (k:Nat) (s:ST) (p:Nat→Bool) (m:Nat),us'[m]? =some u→p (k+m)=true→(∀j r,us'[j]? =some r→r.d=some x→j≠m→j<m∨p (k+j)=false)→(sel p k s us').1 x=some u.f:=by
      intro us'
      induction us' with
      |nil=>intro k s p m h;simp at h
      |cons r t iht=>
       intro k s p m h hp hj
       simp only[sel]
       cases m with
       |zero=>
        simp at h;subst h
        rw[dY] at hp
        rw[hp]
        have:(sel p (k+1) (r.ap s) t).1 x=(sel (fun _=>false) (k+1) (r.ap s) t).1 x:=auY rfl fun j r' hj' hd'=>by
         have:=hj (j+1) r' (by simpa using hj') hd' (by omega)
         rw[show k+(j+1)=k+1+j by omega] at this
         exact this.resolve_left (by omega)
        simp only[if_true,this]
        have nosel: ∀(l:List Rc) (k:Nat) (s:ST),sel (fun _=>false) k s l=s:=fun l=>by
         induction l with
         |nil=>intro k s;rfl
         |cons y l ih=>intro k s;exact ih _ _
        rw[nosel]
        simp[Rc.ap,upL,hx]
       |succ m=>
        refine iht _ _ p m (by simpa using h) (by rw[show k+1+m=k+(m+1) by omega];exact hp) fun j r' hj' hd' hne=>?_
        have:=hj (j+1) r' (by simpa using hj') hd' (by omega)
        rw[show k+1+j=k+(j+1) by omega]
        exact this.imp (fun h=>by omega) id
     rw[key us 0 s0 _ i hui (by rw[fQ];exact li') fun j r hj hdr hne=>?_]
     ·rw[hx];simp[upL]
     ·rw[fQ,l' j hne]
      have:=nb j r hj (.inl (by simp[hit,hdr,hx,aCw]))
      rw[←this]
      by_cases hji:j<i
      ·exact .inl hji
      ·exact .inr (by simpa using hji)
    ·rw[atP hx]
     refine auY rfl fun j r hj hdr=>?_
     rw[fQ]
     exact l' j fun e=>by subst e;rw[hui] at hj;cases hj;exact hx hdr
   have e2:(sel (lst (listed.setIfInBounds i true)) 0 s0 us).2=upB (sel (lst listed) 0 s0 us).2 u.bl:=by
    funext x
    by_cases hx: ∃e∈u.bl,e.1=x
    ·have key: ∀(us':List Rc) (k:Nat) (s s':ST) (p q:Nat→Bool) (m:Nat),us'[m]? =some u→p (k+m)=true→(∀j r,us'[j]? =some r→(∃e∈r.bl,e.1=x)→j≠m→q (k+j)=p (k+j)∧(j<m∨p (k+j)=false))→q (k+m)=false→s.2 x=s'.2 x→(sel p k s us').2 x=upB (sel q k s' us').2 u.bl x:=by
      intro us'
      induction us' with
      |nil=>intro k s s' p q m h;simp at h
      |cons r t iht=>
       intro k s s' p q m h hp hj hq hs
       simp only[sel]
       cases m with
       |zero=>
        simp at h;subst h
        rw[dY] at hp hq
        rw[hp,hq]
        have nosel: ∀(l:List Rc) (k:Nat) (s:ST),sel (fun _=>false) k s l=s:=fun l=>by
         induction l with
         |nil=>intro k s;rfl
         |cons y l ih=>intro k s;exact ih _ _
        have a1:(sel p (k+1) (r.ap s) t).2 x=(sel (fun _=>false) (k+1) (r.ap s) t).2 x:=arV rfl fun j r' hj' hd'=>by
         have:=(hj (j+1) r' (by simpa using hj') hd' (by omega)).2
         rw[show k+(j+1)=k+1+j by omega] at this
         exact this.resolve_left (by omega)
        have a2:(sel q (k+1) s' t).2 x=(sel (fun _=>false) (k+1) s' t).2 x:=arV rfl fun j r' hj' hd'=>by
         obtain⟨h3,h4⟩:=hj (j+1) r' (by simpa using hj') hd' (by omega)
         rw[show k+(j+1)=k+1+j by omega] at h3 h4
         rw[h3];exact h4.resolve_left (by omega)
        simp only[if_true,jQ,if_false,a1,nosel]
        exact aln fun _=>by rw[a2,nosel];exact hs
       |succ m=>
        refine iht _ _ _ p q m (by simpa using h) (by rw[show k+1+m=k+(m+1) by omega];exact hp) (fun j r' hj' hd' hne=>?_) (by rw[show k+1+m=k+(m+1) by omega];exact hq) ?_
        ·obtain⟨h3,h4⟩:=hj (j+1) r' (by simpa using hj') hd' (by omega)
         rw[show k+1+j=k+(j+1) by omega]
         exact⟨h3,h4.imp (fun h=>by omega) id⟩
        ·by_cases hr: ∃e∈r.bl,e.1=x
         ·have:=(hj 0 r rfl hr (by omega)).1
          rw[dY] at this
          rw[this]
          cases p k
          ·exact hs
          ·exact aln fun _=>hs
         ·have: ∀(b:Bool) (s:ST),(if b then r.ap s else s).2 x=s.2 x:=fun b s=>by
           cases b
           ·rfl
           ·exact ap0 fun e he hc=>hr ⟨e,he,hc⟩
          rw[this,this];exact hs
     refine key us 0 s0 s0 _ _ i hui (by rw[fQ];exact li') (fun j r hj hdr hne=>?_) (by rw[fQ];exact hli) rfl
     rw[fQ]
     refine⟨(l' j hne).symm,?_⟩
     rw[l' j hne]
     obtain⟨e,he,rfl⟩:=hx
     obtain⟨e',he',hee⟩:=hdr
     have hh:hit u r=true:=by
      unfold hit
      rw[gM]
      exact .inr (jS.2 ⟨e,he,by rw[gM];exact .inr (jS.2 ⟨e',he',by simpa using hee⟩)⟩)
     rw[←nb j r hj (.inr hh)]
     by_cases hji:j<i
     ·exact .inl hji
     ·exact .inr (by simpa using hji)
    ·rw[ap0 fun e he hc=>hx ⟨e,he,hc⟩]
     refine arV rfl fun j r hj hdr=>?_
     rw[fQ]
     exact l' j fun e=>by subst e;rw[hui] at hj;cases hj;exact hx hdr
   rw[e1,e2] at next
   have sub1:alg (rsX u.rs (sel (fun j=>decide (j<i)) 0 s0 us).1) (sel (lst listed) 0 s0 us).1:=fun x f hx=>by
    unfold rsX at hx
    cases hm:azl u.rs x with
    |false=>rw[hm] at hx;cases hx
    |true=>
     rw[hm,cond_true] at hx
     rw[←hx]
     refine(auY rfl fun j r hj hdr=>?_).symm
     rw[fQ]
     exact nb j r hj (.inl (by simp[hit,hdr,hm]))
   have sub2:alg (rsX u.rn (sel (fun j=>decide (j<i)) 0 s0 us).2) (sel (lst listed) 0 s0 us).2:=fun x B hx=>by
    unfold rsX at hx
    cases hm:azl u.rn x with
    |false=>rw[hm] at hx;cases hx
    |true=>
     rw[hm,cond_true] at hx
     rw[←hx]
     refine(arV rfl fun j r hj hdr=>?_).symm
     rw[fQ]
     obtain⟨e,he,rfl⟩:=hdr
     refine nb j r hj (.inl ?_)
     unfold hit
     rw[gM]
     exact .inr (jS.2 ⟨e,he,by rw[hm];rfl⟩)
   have fr:acK u.nw o.dst (sel (lst listed) 0 s0 us).1 (sel (lst listed) 0 s0 us).2:=fun nm hnm=>by
    obtain⟨g1,g2⟩:=D.fr0 u (aS hui) nm hnm
    have men: ∀j r,us[j]? =some r→lst listed j=true→ar7 r nm=false:=fun j r hj hlj=>by
     rcases pZ j i with h|h|h
     ·exact(spec i u hui j r hj h).2 nm hnm
     ·subst h;rw[hli] at hlj;cases hlj
     ·cases hm:ar7 r nm with
      |false=>rfl
      |true=>have:=clo listed hc j i ((spec j r hj i u hui h).1 (.inr (.inr ⟨nm,hnm,hm⟩))) hlj;rw[hli] at this;cases this
    refine⟨fun k f hk e=>?_,fun k B hk e hm=>?_⟩
    ·intro hc'
     rcases aoc e with h|⟨j,r,h1,h2,h3,h4⟩
     ·exact g1 k f h hc'
     ·have:=men j r h1 (by simpa using h2)
      simp only[ar7,sQ,aBe] at this
      rw[h4,ag9.2 hc'] at this
      cases this.1
    ·rcases anE e with h|⟨j,r,h1,h2,h3⟩
     ·exact g2 k B h hm
     ·have:=men j r h1 (by simpa using h2)
      simp only[ar7,sQ] at this
      have:=List.any_eq_false.1 this.2 _ h3
      exact this (apw hm)
   have fin:=hop Q _ _ _ sub1 sub2 fr next
   have:=fin.run ρ G ov a w r
   unfold wO at this
   unfold wpOpIn
   rw[ho]
   simp only
   split
   ·rename_i hw;rw[if_pos hw] at this;exact this
   ·rename_i hw;rw[if_neg hw] at this;exact⟨fun _ _=>trivial,this⟩
theorem aHA(m k:Nat):lst (Array.replicate m false) k=false:=by unfold lst;simp[Array.getElem?_replicate];split<;>rfl
theorem Drawn.region{us:List Rc}{s0:ST}{id:Nat}(D:Drawn P GB C n ops us s0)(hm:P.follows .mixedOrders=true)(hk:SX GB C n (sel (fun _=>true) 0 s0 us).1 (sel (fun _=>true) 0 s0 us).2 (Q .normal)):SX GB C n s0.1 s0.2 (wpr C.rd P (.region id ops true) Q):=by
 have h:=D.walk hk ops.size (Array.replicate ops.size false) (by simp) (fun i o _ hi=>by rw[aHA] at hi;cases hi) (by unfold un;exact cR (pQ _ _) (by simp))
 have e:sel (lst (Array.replicate ops.size false)) 0 s0 us=s0:=by
  have: ∀(l:List Rc) (k:Nat) (s:ST),sel (lst (Array.replicate ops.size false)) k s l=s:=fun l=>by
   induction l with
   |nil=>intro k s;rfl
   |cons y l ih=>
    intro k s
    simp only[sel]
    rw[ih]
    rw[aHA];rfl
  exact this us 0 s0
 rw[e] at h
 exact h.drew.imp fun a w k=>wpIn_region_any hm k
end
abbrev FrX:=List (Nat×FX)
abbrev OwX:=List (Nat×Option Bk)
def aav:FrX→Nat→Option FX
 |[],_=>none
 |(k,v)::t,j=>bif Nat.beq k j then some v else aav t j
def aaz:OwX→Nat→Option Bk
 |[],_=>none
 |(k,v)::t,j=>bif Nat.beq k j then v else aaz t j
def aBh{α:Type}:OwX→Nat→Option Bk→(OwX→α)→α
 |[],nm,B,k=>k [(nm,B)]
 |(j,v)::t,nm,B,k=>bif Nat.beq j nm then k ((nm,B)::t) else aBh t nm B fun t'=>k ((j,v)::t')
def ake{α:Type}:OwX→List (Nat×Option Bk)→(OwX→α)→α
 |own,[],k=>k own
 |own,(nm,B)::t,k=>aBh own nm B fun own'=>ake own' t k
def arR(own:OwX)(nm:Nat)(B:Option Bk):OwX:=aBh own nm B id
def amL(own:OwX)(l:List (Nat×Option Bk)):OwX:=ake own l id
theorem ahw{α:Type}{nm:Nat}{B:Option Bk}: ∀{own:OwX} {k:OwX→α},aBh own nm B k=k (arR own nm B)
 |[],k=>rfl
 |(j,v)::t,k=>by
  unfold arR aBh
  cases Nat.beq j nm with
  |true=>rfl
  |false=>rw[cond_false,cond_false,ahw (own:=t),ahw (own:=t)];rfl
theorem aeM{α:Type}: ∀{l:List (Nat×Option Bk)} {own:OwX} {k:OwX→α},ake own l k=k (amL own l)
 |[],own,k=>rfl
 |(nm,B)::t,own,k=>by
  unfold amL ake
  rw[ahw,ahw,aeM (l:=t),aeM (l:=t)]
  rfl
theorem abe(k:Nat)(v:FX)(t:FrX)(j:Nat):aav ((k,v)::t) j=if j=k then some v else aav t j:=by
 simp only[aav]
 by_cases h:k=j
 ·simp[h]
 ·have:Nat.beq k j=false:=by
   cases hb:Nat.beq k j with
   |false=>rfl
   |true=>exact absurd (aT hb) h
  simp[this,Ne.symm h]
theorem aaF(k:Nat)(v:Option Bk)(t:OwX)(j:Nat):aaz ((k,v)::t) j=if j=k then v else aaz t j:=by
 simp only[aaz]
 by_cases h:k=j
 ·simp[h]
 ·have:Nat.beq k j=false:=by
   cases hb:Nat.beq k j with
   |false=>rfl
   |true=>exact absurd (aT hb) h
  simp[this,Ne.symm h]
theorem afo{nm:Nat}{B:Option Bk}(j:Nat): ∀own:OwX,aaz (arR own nm B) j=if j=nm then B else aaz own j
 |[]=>aaF nm B [] j
 |(k,v)::t=>by
  have ih:=afo (nm:=nm) (B:=B) j t
  unfold arR aBh
  cases hb:Nat.beq k nm with
  |true=>
   have e:=aT hb;subst e
   rw[cond_true,id,aaF,aaF]
   by_cases h:j=k<;>simp[h]
  |false=>
   have hne:k≠nm:=fun e=>by subst e;simp at hb
   rw[cond_false,ahw,id,aaF,aaF,ih]
   by_cases h:j=k
   ·subst h;simp[hne]
   ·simp[h]
theorem afH: ∀(l:List (Nat×Option Bk)) (own:OwX),aaz (amL own l)=upB (aaz own) l
 |[],own=>rfl
 |(nm,B)::t,own=>by
  have:amL own ((nm,B)::t)=amL (arR own nm B) t:=by rw[amL,ake,ahw];rfl
  rw[this,afH t]
  simp only[upB]
  congr 1
  funext j
  exact afo j own
def aFq(fr:FrX)(dst:Option Nat)(f:FX):FrX:=match dst with
 |some d=>(d,f)::fr
 |none=>fr
theorem aj1{fr:FrX}{dst:Option Nat}{f:FX}:aav (aFq fr dst f)=upL (aav fr) dst f:=by
 cases dst with
 |none=>rfl
 |some d=>funext j;exact abe d f fr j
def arn(T:TT)(n:Nat)(ops:Array Oper)(lk:LK)(bk:BM):Oper→Option CR
 |⟨dst,op,_,_,_,gd⟩=>bif aaO n dst then(match gd with
  |none=>aCC T lk bk dst op
  |some (j,b)=>match ops[j]? with
   |some oj=>match oj.dst with
    |some d=>match lk d with
     |some .tt=>bif b then aCC T lk bk dst op else some ⟨none, .un,[],[]⟩
     |some .ff=>bif b then some ⟨none, .un,[],[]⟩ else aCC T lk bk dst op
     |some .un=>some ⟨none, .un,[],[]⟩
     |_=>none
    |none=>none
   |none=>none) else none
section
variable {P:Program} {T:TT} {GB:Gh} {C:Ctx} {n:Nat} {lk:LK} {bk:BM} {ops:Array Oper}
theorem OpR.toS{dst:Option Nat}{op:Op}{ty:TypeId}{pos:String}{af:Array Edge}{gd:Option (Nat×Bool)}{f:FX}{bl:List (Nat×Option Bk)}{nw:List Nat}(h:OpR P GB C n lk bk ⟨dst,op,ty,pos,af,gd⟩ f bl nw)(hd:aaO n dst=true)
  (hw: ∀ρ G ov a w,RlX GB C n lk bk ρ G ov a w→Region.wanted ⟨dst,op,ty,pos,af,gd⟩ (yielded ops a.tmps)=true):OpS P GB C n ops lk bk ⟨dst,op,ty,pos,af,gd⟩ f bl nw:=by
 intro Q tl tb K s1 s2 hf hk
 have:=h hd tl tb (fun a w=>a.defers=C.mks∧K a w) s1 s2 hf ⟨fun ρ G ov a w r=>⟨r.df,hk.run ρ G ov a w r⟩⟩
 refine⟨fun ρ G ov a w r=>?_⟩
 unfold wO
 rw[if_pos (hw ρ G ov a w (r.mono s1 s2))]
 exact aEz (this.run ρ G ov a w r) fun a' w' k=>⟨k.1.trans r.df.symm,k.2⟩
theorem OpS.skip{dst:Option Nat}{op:Op}{ty:TypeId}{pos:String}{af:Array Edge}{gd:Option (Nat×Bool)}(hd:aaO n dst=true)
  (hw: ∀ρ G ov a w,RlX GB C n lk bk ρ G ov a w→Region.wanted ⟨dst,op,ty,pos,af,gd⟩ (yielded ops a.tmps)=false):OpS P GB C n ops lk bk ⟨dst,op,ty,pos,af,gd⟩ .un [] []:=by
 intro Q tl tb K s1 s2 hf hk
 refine⟨fun ρ G ov a w r=>?_⟩
 unfold wO
 rw[hw ρ G ov a w (r.mono s1 s2)]
 exact hk.run ρ G ov _ w (r.put rfl (r.putA undef hd))
theorem afg{ρ:NE}{G:Gh}{ov:List Own}{a:Act}{w:World}(r:RlX GB C n lk bk ρ G ov a w){j d:Nat}{oj:Oper}{f:FX}(hj:ops[j]? =some oj)(hd:oj.dst=some d)(hf:lk d=some f): ∃y,IsX ρ G f y∧yielded ops a.tmps j=match y with| .bool b=>some b|_=>none:=by
 obtain⟨y,h1,h2⟩:=r.fx d f hf
 refine⟨y,h2,?_⟩
 unfold yielded
 rw[hj]
 simp only[Option.bind_some,hd,h1]
 cases y<;>rfl
theorem aqA{o:Oper}{r:CR}(hT:TOK P T)(h:arn T n ops lk bk o=some r)(hv: ∀p,r.vc=some p→p):OpS P GB C n ops lk bk o r.f r.bl r.nw∧aaO n o.dst=true:=by
 obtain⟨dst,op,ty,pos,af,gd⟩:=o
 simp only[arn] at h
 cases hd:aaO n dst with
 |false=>rw[hd] at h;cases h
 |true=>
  rw[hd,cond_true] at h
  refine⟨?_,rfl⟩
  split at h
  ·exact(ahV hT h hv).toS hd fun _ _ _ _ _ _=>rfl
  ·rename_i j b
   split at h<;>try (cases h;done)
   rename_i oj hj
   split at h<;>try (cases h;done)
   rename_i d hdj
   split at h<;>try (cases h;done)
   ·rename_i hl
    have wt: ∀ρ G ov (a:Act) w,RlX GB C n lk bk ρ G ov a w→Region.wanted ⟨dst,op,ty,pos,af,some (j,b)⟩ (yielded ops a.tmps)=b:=fun ρ G ov a w r=>by
     obtain⟨y,h1,h2⟩:=afg r hj hdj hl
     cases h1
     simp only[Region.wanted,h2];cases b<;>rfl
    cases b with
    |true=>exact(ahV hT h hv).toS hd wt
    |false=>cases h;exact .skip hd wt
   ·rename_i hl
    have wt: ∀ρ G ov (a:Act) w,RlX GB C n lk bk ρ G ov a w→Region.wanted ⟨dst,op,ty,pos,af,some (j,b)⟩ (yielded ops a.tmps)=!b:=fun ρ G ov a w r=>by
     obtain⟨y,h1,h2⟩:=afg r hj hdj hl
     cases h1
     simp only[Region.wanted,h2];cases b<;>rfl
    cases b with
    |true=>cases h;exact .skip hd wt
    |false=>exact(ahV hT h hv).toS hd wt
   ·rename_i hl
    cases h
    refine .skip hd fun ρ G ov a w r=>?_
    obtain⟨y,h1,h2⟩:=afg r hj hdj hl
    cases h1
    simp only[Region.wanted,h2];rfl
end
inductive Kt where
 |sq (c:Code)
 |bl (id:Nat)
 |sc
 |ag (A:Act→World→Prop)
def cQ(rd:Option Nat)(P:Program)(Q0:Exit→Act→World→Prop):List Kt→Exit→Act→World→Prop
 |[]=>Q0
 | .sq y::K=>Exit.then (wpr rd P y (cQ rd P Q0 K)) (cQ rd P Q0 K)
 | .bl id::K=>Exit.inBlock id (cQ rd P Q0 K)
 | .sc::K=>Exit.noGoto (cQ rd P Q0 K)
 | .ag A::K=>Exit.then A (cQ rd P Q0 K)
inductive Cf where
 |code (c:Code) (K:List Kt)
 |ops (ops:Array Oper) (r:List Oper) (K:List Kt)
 |dr (id:Nat) (ops:Array Oper) (fr0:FrX) (own0:OwX) (us:List Rc) (r:List Oper) (K:List Kt)
 |ex (e:Exit) (K:List Kt)
structure DrI (P:Program) (GB:Gh) (C:Ctx) (n:Nat) (ops:Array Oper) (fr0:FrX) (own0:OwX) (us:List Rc) (r:List Oper) (fr:FrX) (own:OwX):Prop where
 pre: ∃pre,ops.toList=pre++r∧pre.length=us.length
 st:sel (fun _=>true) 0 (aav fr0,aaz own0) us=(aav fr,aaz own)
 snd: ∀i u o,us[i]? =some u→ops[i]? =some o→o.dst=u.d∧OpS P GB C n ops (rsX u.rs (sel (fun j=>decide (j<i)) 0 (aav fr0,aaz own0) us).1) (rsX u.rn (sel (fun j=>decide (j<i)) 0 (aav fr0,aaz own0) us).2) o u.f u.bl u.nw
def CfS(P:Program)(GB:Gh)(C:Ctx)(n:Nat)(Q0:Exit→Act→World→Prop)(fr:FrX)(own:OwX):Cf→Prop
 | .code c K=>SX GB C n (aav fr) (aaz own) (wpr C.rd P c (cQ C.rd P Q0 K))
 | .ops ops r K=>SX GB C n (aav fr) (aaz own) (wpListIn (FW C.rd) 0 P ops (cQ C.rd P Q0 K) r)
 | .dr id ops fr0 own0 us r K=>DrI P GB C n ops fr0 own0 us r fr own→SX GB C n (aav fr0) (aaz own0) (wpr C.rd P (.region id ops true) (cQ C.rd P Q0 K))
 | .ex e K=>SX GB C n (aav fr) (aaz own) (cQ C.rd P Q0 K e)
structure Res where
 vc:List Prop
 fr:FrX
 own:OwX
 cf:Cf
def acc(v:Option Prop)(l:List Prop):List Prop:=match v with
 |some p=>p::l
 |none=>l
def aF3{α:Type}(v:Option Prop)(l:List Prop)(k:List Prop→α):α:=match v with
 |some p=>k (p::l)
 |none=>k l
theorem ati{α:Type}{v:Option Prop}{l:List Prop}{k:List Prop→α}:aF3 v l k=k (acc v l):=by cases v<;>rfl
def aCA{α:Type}(fr:FrX)(dst:Option Nat)(f:FX)(k:FrX→α):α:=match dst with
 |some d=>k ((d,f)::fr)
 |none=>k fr
theorem aj3{α:Type}{fr:FrX}{dst:Option Nat}{f:FX}{k:FrX→α}:aCA fr dst f k=k (aFq fr dst f):=by cases dst<;>rfl
def ah0(nw:List Nat)(dst:Option Nat)(fr:FrX)(own:OwX):Bool:=nw.all fun nm=>fr.all (fun e=>aCw dst e.1||!aBe nm e.2)&&own.all fun e=>Nat.beq e.1 nm||!aFj nm e.2
def akJ:List Operand→List Nat
 |[]=>[]
 | .tmp t::r=>t::akJ r
 |_::r=>akJ r
def alz(fr:FrX):List Nat→List Nat
 |[]=>[]
 |t::r=>match aav fr t with
  |some f=>match f.nm with
   |some nm=>nm::alz fr r
   |none=>alz fr r
  |none=>alz fr r
def aqx(o:Oper)(fr:FrX)(rs:List Nat):List Nat:=match o.op with
 | .move _=>[]
 |_=>alz fr rs
def aiT(ops:Array Oper)(o:Oper):List Nat:=match o.guard with
 |some (j,_)=>match ops[j]? with
  |some oj=>match oj.dst with
   |some d=>d::akJ o.op.operands.toList
   |none=>akJ o.op.operands.toList
  |none=>akJ o.op.operands.toList
 |none=>akJ o.op.operands.toList
def go(T:TT)(n:Nat):Nat→List Prop→FrX→OwX→Cf→Res
 |0,l,fr,own,cf=>⟨l,fr,own,cf⟩
 |k+1,l,fr,own, .code c K=>match c with
  | .seq x y=>go T n k l fr own (.code x (.sq y::K))
  | .region id ops d=>bif d then go T n k l fr own (.dr id ops fr own [] ops.toList K) else go T n k l fr own (.ops ops ops.toList K)
  | .skip=>go T n k l fr own (.ex .normal K)
  | .ret=>go T n k l fr own (.ex .ret K)
  | .exit id=>go T n k l fr own (.ex (.exit id) K)
  | .block id c=>go T n k l fr own (.code c (.bl id::K))
  | .scope c=>go T n k l fr own (.code c (.sc::K))
  | .label _=>go T n k l fr own (.ex .normal K)
  | .cond c x y=>match evX (aav fr) c with
   |some .tt=>go T n k l fr own (.code x K)
   |some .ff=>go T n k l fr own (.code y K)
   |_=>⟨l,fr,own, .code (.cond c x y) K⟩
  |c=>⟨l,fr,own, .code c K⟩
 |k+1,l,fr,own, .ex e K=>match K with
  | .sq y::K'=>match e with
   | .normal=>go T n k l fr own (.code y K')
   |e=>go T n k l fr own (.ex e K')
  | .bl id::K'=>match e with
   | .exit j=>bif Nat.beq j id then go T n k l fr own (.ex .normal K') else go T n k l fr own (.ex (.exit j) K')
   |e=>go T n k l fr own (.ex e K')
  | .sc::K'=>bif atb e then go T n k l fr own (.ex e K') else⟨l,fr,own, .ex e (.sc::K')⟩
  | .ag A::K'=>match e with
   | .normal=>⟨l,fr,own, .ex .normal (.ag A::K')⟩
   |e=>go T n k l fr own (.ex e K')
  |[]=>⟨l,fr,own, .ex e []⟩
 |k+1,l,fr,own, .ops ops r K=>match r with
  |[]=>go T n k l fr own (.ex .normal K)
  |o::r'=>match arn T n ops (aav fr) (aaz own) o with
   |some ⟨v,f,bl,nw⟩=>bif ah0 nw o.dst fr own then ake own bl fun own'=>aF3 v l fun l'=>aCA fr o.dst f fun fr'=>go T n k l' fr' own' (.ops ops r' K) else⟨l,fr,own, .ops ops (o::r') K⟩
   |none=>⟨l,fr,own, .ops ops (o::r') K⟩
 |k+1,l,fr,own, .dr id ops fr0 own0 us r K=>match r with
  |[]=>go T n k (((ani (anZ ops.toList []) [] us&&ai0 0 ops.toList&&apM us fr0 own0)=true)::l) fr own (.ex .normal K)
  |o::r'=>fcL (aiT ops o) fun rs=>fcL (aqx o fr rs) fun rn=>match arn T n ops (rsX rs (aav fr)) (rsX rn (aaz own)) o with
   |some ⟨v,f,bl,nw⟩=>ake own bl fun own'=>fcL (us++[⟨rs,o.dst,f,rn,bl,nw⟩]) fun us'=>aF3 v l fun l'=>aCA fr o.dst f fun fr'=>go T n k l' fr' own' (.dr id ops fr0 own0 us' r' K)
   |none=>⟨l,fr,own, .dr id ops fr0 own0 us (o::r') K⟩
def aaj:List Prop→Prop
 |[]=>True
 |[p]=>p
 |p::t=>aaj t∧p
theorem anU{p:Prop}{t:List Prop}:aaj (p::t)↔aaj t∧p:=by cases t<;>simp[aaj]
theorem ap1{v:Option Prop}{l:List Prop}(h:aaj (acc v l)):aaj l∧ ∀p,v=some p→p:=by
 cases v with
 |none=>exact⟨h,fun p e=>by cases e⟩
 |some q=>obtain⟨h1,h2⟩:=anU.1 h;exact⟨h1,fun p e=>by cases e;exact h2⟩
theorem ajO{f:FX}{k:Nat}: ∀{fr:FrX},aav fr k=some f→(k,f)∈fr
 |[],h=>by cases h
 |(j,g)::t,h=>by
  rw[abe] at h
  split at h
  ·cases h;rename_i e;rw[e];exact aZ
  ·exact aJ _ (ajO h)
theorem ajJ{B:Bk}{k:Nat}: ∀{own:OwX},aaz own k=some B→(k,some B)∈own
 |[],h=>by cases h
 |(j,g)::t,h=>by
  rw[aaF] at h
  split at h
  ·rename_i e;rw[e,h];exact aZ
  ·exact aJ _ (ajJ h)
theorem afl{nw:List Nat}{dst:Option Nat}{fr:FrX}{own:OwX}(h:ah0 nw dst fr own=true):acK nw dst (aav fr) (aaz own):=fun nm hnm=>by
 have:=fK.1 h nm hnm
 simp only[cX] at this
 refine⟨fun k f hk e hc=>?_,fun k B hk e hm=>?_⟩
 ·have:=fK.1 this.1 _ (ajO e)
  simp only[gM,gU,aBe] at this
  rcases this with h|h
  ·exact hk (ag9.1 h).symm
  ·rw[ag9.2 hc] at h;cases h
 ·have:=fK.1 this.2 _ (ajJ e)
  simp only[gM,gU] at this
  rcases this with h|h
  ·exact hk (aT h)
  ·rw[apw hm] at h;cases h
theorem ava{us:List Rc}{fr:FrX}{own:OwX}(h:apM us fr own=true): ∀r∈us,∀nm∈r.nw,(∀k f,aav fr k=some f→f.nm≠some nm)∧ ∀k B,aaz own k=some B→ ¬B.men nm:=fun r hr nm hnm=>by
 have:=fK.1 (fK.1 h r hr) nm hnm
 simp only[cX] at this
 refine⟨fun k f e hc=>?_,fun k B e hm=>?_⟩
 ·have:=fK.1 this.1 _ (ajO e)
  simp only[gU,aBe] at this
  rw[ag9.2 hc] at this;cases this
 ·have:=fK.1 this.2 _ (ajJ e)
  simp only[gU] at this
  rw[apw hm] at this;cases this
section
variable {P:Program} {T:TT} {GB:Gh} {C:Ctx} {n:Nat} {Q0:Exit→Act→World→Prop} {fr fr0:FrX} {own own0:OwX} {ops:Array Oper} {us:List Rc} {r:List Oper} {o:Oper} {K:List Kt}
theorem al0{p q:Nat→Bool}{u:Rc}: ∀{us:List Rc} {k:Nat} {s:ST},(∀j,j<us.length→p (k+j)=q (k+j))→sel p k s (us++[u])=if p (k+us.length) then u.ap (sel q k s us) else sel q k s us
 |[],k,s,h=>rfl
 |x::t,k,s,h=>by
  simp only[jR,sel]
  rw[al0 (q:=q) fun j hj=>by have:=h (j+1) (by simp;omega);rwa [show k+(j+1)=k+1+j by omega] at this]
  have h0:=h 0 (by simp)
  rw[dY] at h0
  rw[h0,bY,show k+1+t.length=k+(t.length+1) by omega]
theorem DrI.push(D:DrI P GB C n ops fr0 own0 us (o::r) fr own){rs rn nw:List Nat}{f:FX}{bl:List (Nat×Option Bk)}(h:OpS P GB C n ops (rsX rs (aav fr)) (rsX rn (aaz own)) o f bl nw):DrI P GB C n ops fr0 own0 (us++[⟨rs,o.dst,f,rn,bl,nw⟩]) r (aFq fr o.dst f) (amL own bl):=by
 obtain⟨pre,hp,hl⟩:=D.pre
 refine⟨⟨pre++[o],by rw[hp];simp,by simp[hl]⟩,?_,fun i u o' hu ho=>?_⟩
 ·rw[al0 (q:=fun _=>true) fun _ _=>rfl,if_pos rfl,D.st]
  simp only[Rc.ap]
  rw[aj1,afH]
 ·rw[List.getElem?_append] at hu
  split at hu
  ·rename_i hi
   obtain⟨h1,h2⟩:=D.snd i u o' hu ho
   rw[al0 (q:=fun j=>decide (j<i)) fun _ _=>rfl,if_neg (by simp;omega)]
   exact⟨h1,h2⟩
  ·rename_i hi
   by_cases e:i=us.length
   ·subst e
    simp at hu;subst hu
    have ho':ops[us.length]? =some o:=by
     have:ops.toList[us.length]? =some o:=by rw[hp,←hl];simp
     simpa using this
    rw[ho'] at ho;cases ho
    refine⟨rfl,?_⟩
    rw[al0 (q:=fun _=>true) fun j hj=>by simpa using hj,if_neg (by simp),D.st]
    exact h
   ·rw[cN (by simp;omega)] at hu;cases hu
theorem DrI.done(D:DrI P GB C n ops fr0 own0 us [] fr own){id:Nat}(hm:P.follows .mixedOrders=true)(h:(ani (anZ ops.toList []) [] us&&ai0 0 ops.toList&&apM us fr0 own0)=true)(hk:SX GB C n (aav fr) (aaz own) (cQ C.rd P Q0 K .normal)):
  SX GB C n (aav fr0) (aaz own0) (wpr C.rd P (.region id ops true) (cQ C.rd P Q0 K)):=by
 obtain⟨pre,hp,hl⟩:=D.pre
 simp only[cX] at h
 have D':Drawn P GB C n ops us (aav fr0,aaz own0):=⟨by rw[←hl,←qX,hp];simp,D.snd,h.1.1,h.1.2,ava h.2⟩
 exact D'.region hm (by rw[D.st];exact hk)
theorem SX.op{Q:Exit→Act→World→Prop}{f:FX}{bl:List (Nat×Option Bk)}{nw:List Nat}(h:OpS P GB C n ops (aav fr) (aaz own) o f bl nw)(hf:acK nw o.dst (aav fr) (aaz own))(hk:SX GB C n (aav (aFq fr o.dst f)) (aaz (amL own bl)) (wpListIn (FW C.rd) 0 P ops Q r)):SX GB C n (aav fr) (aaz own) (wpListIn (FW C.rd) 0 P ops Q (o::r)):=by
 rw[aj1,afH] at hk
 refine(h Q _ _ _ (alg.refl _) (alg.refl _) hf hk).imp fun a w q=>?_
 unfold wO at q
 simp only[wpListIn]
 split
 ·rename_i hw;rw[if_pos hw] at q;exact q
 ·rename_i hw;rw[if_neg hw] at q;exact⟨fun _ _=>trivial,q⟩
theorem SX.cond{lk:LK}{bk:BM}{Q:Exit→Act→World→Prop}{c:Operand}{x y:Code}{b:Bool}{f:FX}(hc:evX lk c=some f)(hb:toB f=some b)(h1:b=true→SX GB C n lk bk (wpr C.rd P x Q))(h2:b=false→SX GB C n lk bk (wpr C.rd P y Q)):SX GB C n lk bk (wpr C.rd P (.cond c x y) Q):=by
 refine⟨fun ρ G ov a w r=>?_⟩
 obtain⟨v,hv,hv'⟩:=r.ev hc
 rw[ajT hv' hb] at hv
 exact aj9 (aad (aaN a) hv) (fun e=>(h1 e).run ρ G ov a w r) (fun e=>(h2 e).run ρ G ov a w r)
theorem adY(hT:TOK P T)(hm:P.follows .mixedOrders=true): ∀(k:Nat) (l:List Prop) (fr:FrX) (own:OwX) (cf:Cf),aaj (go T n k l fr own cf).vc→aaj l∧(CfS P GB C n Q0 (go T n k l fr own cf).fr (go T n k l fr own cf).own (go T n k l fr own cf).cf→CfS P GB C n Q0 fr own cf)
 |0,l,fr,own,cf,h=>by simp only[go] at h⊢;exact⟨h,id⟩
 |k+1,l,fr,own, .code c K,h=>by
  cases c with
  |seq x y=>simp only[go] at h⊢;obtain⟨h1,h2⟩:=adY hT hm k _ _ _ _ h;exact⟨h1,fun hk=>(h2 hk).imp fun a w q=>aBq q⟩
  |region id ops d=>
   simp only[go] at h⊢
   cases d with
   |false=>simp only[cond_false] at h⊢;obtain⟨h1,h2⟩:=adY hT hm k _ _ _ _ h;exact⟨h1,fun hk=>(h2 hk).imp fun a w q=>ank q⟩
   |true=>simp only[cond_true] at h⊢;obtain⟨h1,h2⟩:=adY hT hm k _ _ _ _ h;exact⟨h1,fun hk=>h2 hk ⟨⟨[],rfl,rfl⟩,rfl,fun i u o hu=>by simp at hu⟩⟩
  |skip=>simp only[go] at h⊢;obtain⟨h1,h2⟩:=adY hT hm k _ _ _ _ h;exact⟨h1,fun hk=>(h2 hk).imp fun a w q=>axq q⟩
  |ret=>simp only[go] at h⊢;obtain⟨h1,h2⟩:=adY hT hm k _ _ _ _ h;exact⟨h1,fun hk=>(h2 hk).imp fun a w q=>aAO q⟩
  |exit id=>simp only[go] at h⊢;obtain⟨h1,h2⟩:=adY hT hm k _ _ _ _ h;exact⟨h1,fun hk=>(h2 hk).imp fun a w q=>axf q⟩
  |block id c=>simp only[go] at h⊢;obtain⟨h1,h2⟩:=adY hT hm k _ _ _ _ h;exact⟨h1,fun hk=>(h2 hk).imp fun a w q=>atn q⟩
  |scope c=>simp only[go] at h⊢;obtain⟨h1,h2⟩:=adY hT hm k _ _ _ _ h;exact⟨h1,fun hk=>(h2 hk).imp fun a w q=>ate q⟩
  |label j=>simp only[go] at h⊢;obtain⟨h1,h2⟩:=adY hT hm k _ _ _ _ h;exact⟨h1,fun hk=>(h2 hk).imp fun a w q=>avu q⟩
  |cond c x y=>
   simp only[go] at h⊢
   cases hc:evX (aav fr) c with
   |none=>simp only[hc] at h⊢;exact⟨h,id⟩
   |some f=>
    cases f with
    |tt=>simp only[hc] at h⊢;obtain⟨h1,h2⟩:=adY hT hm k _ _ _ _ h;exact⟨h1,fun hk=>SX.cond hc rfl (fun _=>h2 hk) (fun e=>by cases e)⟩
    |ff=>simp only[hc] at h⊢;obtain⟨h1,h2⟩:=adY hT hm k _ _ _ _ h;exact⟨h1,fun hk=>SX.cond hc rfl (fun e=>by cases e) (fun _=>h2 hk)⟩
    |_=>simp only[hc] at h⊢;exact⟨h,id⟩
  |_=>simp only[go] at h⊢;exact⟨h,id⟩
 |k+1,l,fr,own, .ex e K,h=>by
  cases K with
  |nil=>simp only[go] at h⊢;exact⟨h,id⟩
  |cons x K=>
   cases x with
   |sq y=>cases e<;>(simp only[go] at h⊢;obtain⟨h1,h2⟩:=adY hT hm k _ _ _ _ h;exact⟨h1,fun hk=>h2 hk⟩)
   |bl id=>
    cases e with
    |exit j=>
     simp only[go] at h⊢
     cases hb:Nat.beq j id with
     |true=>
      simp only[hb,cond_true] at h⊢;obtain⟨h1,h2⟩:=adY hT hm k _ _ _ _ h
      exact⟨h1,fun hk=>(h2 hk).imp fun a w q=>by simp only[cQ,Exit.inBlock,aT hb,if_true];exact q⟩
     |false=>
      have hne:j≠id:=fun e=>by subst e;simp at hb
      simp only[hb,cond_false] at h⊢;obtain⟨h1,h2⟩:=adY hT hm k _ _ _ _ h
      exact⟨h1,fun hk=>(h2 hk).imp fun a w q=>by simp only[cQ,Exit.inBlock,hne,if_false];exact q⟩
    |_=>simp only[go] at h⊢;obtain⟨h1,h2⟩:=adY hT hm k _ _ _ _ h;exact⟨h1,fun hk=>h2 hk⟩
   |sc=>
    simp only[go] at h⊢
    cases hb:atb e with
    |true=>
     simp only[hb,cond_true] at h⊢;obtain⟨h1,h2⟩:=adY hT hm k _ _ _ _ h
     refine⟨h1,fun hk=>(h2 hk).imp fun a w q=>?_⟩
     cases e<;>first|exact q|cases hb
    |false=>simp only[hb,cond_false] at h⊢;exact⟨h,id⟩
   |ag A=>
    cases e with
    |normal=>simp only[go] at h⊢;exact⟨h,id⟩
    |_=>simp only[go] at h⊢;obtain⟨h1,h2⟩:=adY hT hm k _ _ _ _ h;exact⟨h1,fun hk=>h2 hk⟩
 |k+1,l,fr,own, .ops ops r K,h=>by
  cases r with
  |nil=>simp only[go] at h⊢;obtain⟨h1,h2⟩:=adY hT hm k _ _ _ _ h;exact⟨h1,fun hk=>h2 hk⟩
  |cons o r=>
   simp only[go] at h⊢
   cases hs:arn T n ops (aav fr) (aaz own) o with
   |none=>simp only[hs] at h⊢;exact⟨h,id⟩
   |some x=>
    obtain⟨v,f,bl,nw⟩:=x
    simp only[hs] at h⊢
    cases hf:ah0 nw o.dst fr own with
    |false=>simp only[hf,cond_false] at h⊢;exact⟨h,id⟩
    |true=>
     simp only[hf,cond_true] at h⊢
     simp only[aeM,ati,aj3] at h⊢
     obtain⟨h1,h2⟩:=adY hT hm k _ _ _ _ h
     obtain⟨h3,h4⟩:=ap1 h1
     exact⟨h3,fun hk=>SX.op (aqA hT hs h4).1 (afl hf) (h2 hk)⟩
 |k+1,l,fr,own, .dr id ops fr0 own0 us r K,h=>by
  cases r with
  |nil=>
   simp only[go] at h⊢;obtain⟨h1,h2⟩:=adY hT hm k _ _ _ _ h
   obtain⟨h3,h4⟩:=anU.1 h1
   exact⟨h3,fun hk D=>D.done hm h4 (h2 hk)⟩
  |cons o r=>
   simp only[go,ahl] at h⊢
   generalize aiT ops o=rs at h⊢
   generalize aqx o fr rs=rn at h⊢
   cases hs:arn T n ops (rsX rs (aav fr)) (rsX rn (aaz own)) o with
   |none=>simp only[hs] at h⊢;exact⟨h,fun x=>x⟩
   |some x=>
    obtain⟨v,f,bl,nw⟩:=x
    simp only[hs] at h⊢
    simp only[aeM,ati,aj3] at h⊢
    obtain⟨h1,h2⟩:=adY hT hm k _ _ _ _ h
    obtain⟨h3,h4⟩:=ap1 h1
    exact⟨h3,fun hk D=>h2 hk (D.push (aqA hT hs h4).1)⟩
end
end Go.Sx
end
section
namespace Go.Sx
open Go Go.Proofs Tryz
instance:TyS prog 3:=⟨fun _=>by kernel_rfl,fun _=>by kernel_rfl⟩
instance:TyI prog 3 .i64:=⟨fun _=>by kernel_rfl⟩
instance:TyS prog 4:=⟨fun _=>by kernel_rfl,fun _=>by kernel_rfl⟩
instance:TyZ prog 4 (.bool false):=⟨by kernel_rfl⟩
instance:TyS prog 23:=⟨fun _=>by kernel_rfl,fun _=>by kernel_rfl⟩
instance:acJ prog 23 182 8 112:=⟨by kernel_rfl,by kernel_rfl⟩
instance:TyF prog 25 0 0:=⟨fun _ _ _=>by kernel_rfl⟩
instance:TyF prog 25 1 1:=⟨fun _ _ _=>by kernel_rfl⟩
instance:acJ prog 32 215 1 4:=⟨by kernel_rfl,by kernel_rfl⟩
instance:TyN prog 32:=⟨215,by kernel_rfl⟩
instance:acJ prog 102 201 17 128:=⟨by kernel_rfl,by kernel_rfl⟩
instance:TyN prog 102:=⟨201,by kernel_rfl⟩
instance:acJ prog 103 201 17 128:=⟨by kernel_rfl,by kernel_rfl⟩
instance:TyA prog 108 9:=⟨fun _=>by kernel_rfl,fun _=>by kernel_rfl⟩
instance:TyZ prog 108 (.agg ⟨[.int .i64 0, .int .i64 0, .pointer none, .int .i64 0, .int .i64 0, .pointer none, .int .i64 0, .int .i64 0, .pointer none]⟩):=⟨by kernel_rfl⟩
instance:TyA prog 179 6:=⟨fun _=>by kernel_rfl,fun _=>by kernel_rfl⟩
instance:TyA prog 182 8:=⟨fun _=>by kernel_rfl,fun _=>by kernel_rfl⟩
instance:TyZ prog 182 (.agg ⟨[.bool false, .slice none 0 0, .bool false, .slice none 0 0, .bool false, .slice none 0 0, .int .i64 0, .int .i64 0]⟩):=⟨by kernel_rfl⟩
instance:TyF prog 182 0 0:=⟨fun _ _ _=>by kernel_rfl⟩
instance:TyF prog 182 1 6:=⟨fun _ _ _=>by kernel_rfl⟩
instance:TyF prog 182 2 7:=⟨fun _ _ _=>by kernel_rfl⟩
instance:TyI prog 214 .u64:=⟨fun _=>by kernel_rfl⟩
instance:TyS prog 215:=⟨fun _=>by kernel_rfl,fun _=>by kernel_rfl⟩
instance:TyZ prog 215 (.int .u32 0):=⟨by kernel_rfl⟩
instance:TyI prog 215 .u32:=⟨fun _=>by kernel_rfl⟩
instance:TyI prog 216 .u64:=⟨fun _=>by kernel_rfl⟩
instance:TyS prog 233:=⟨fun _=>by kernel_rfl,fun _=>by kernel_rfl⟩
instance:acJ prog 233 4 1 1:=⟨by kernel_rfl,by kernel_rfl⟩
instance:TyZ prog 235 (.agg ⟨[.slice none 0 0, .slice none 0 0, .int .i64 0, .bool false]⟩):=⟨by kernel_rfl⟩
instance:TyF prog 235 0 0:=⟨fun _ _ _=>by kernel_rfl⟩
instance:TyF prog 235 1 1:=⟨fun _ _ _=>by kernel_rfl⟩
instance:TyF prog 235 2 2:=⟨fun _ _ _=>by kernel_rfl⟩
instance:TyF prog 235 3 3:=⟨fun _ _ _=>by kernel_rfl⟩
instance:aGQ prog 235 [(0,1),(1,1),(2,1),(3,1)]:=⟨_,fun _=>aEJ underlying235 _,fun _=>by kernel_rfl⟩
theorem follows:prog.follows .mixedOrders=true:=by kernel_rfl
end Go.Sx
end
