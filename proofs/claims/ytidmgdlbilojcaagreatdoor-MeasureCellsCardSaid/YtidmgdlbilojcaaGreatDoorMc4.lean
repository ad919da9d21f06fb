import Derived.Test.YtidmgdlbilojcaaGreatDoorMc3
import Derived.CallsIn
import Derived.OrdersIn
import Derived.TacticsIn
import Derived.RangeFuncIn
import Derived.RangeFuncRecord
import Derived.Test.YtidmgdlbilojcaaGreatDoorProg
set_option linter.unusedSimpArgs false
set_option maxRecDepth 100000
set_option linter.unusedVariables false
section
namespace Go.Sx
open Go
section
variable {P:Program} {T:TT} {GB:Gh} {C:Ctx} {n:Nat} {lk:LK} {bk:BM} {ρ:NE} {G:Gh} {ov:List Own} {a:Act} {w:World}
variable {dst:Option Nat} {t t' ty':TypeId} {pos:String} {af:Array Edge} {gd:Option (Nat×Bool)} {x y z:Operand}
def aH3(P:Program)(GB:Gh)(C:Ctx)(n:Nat)(lk:LK)(bk:BM)(o:Oper)(r:CR):Prop:=(∀p,r.vc=some p→p)→OpR P GB C n lk bk o r.f r.bl r.nw
theorem af4{r:Option FX}{c:CR}(h:pr1 r=some c): ∃f,r=some f∧c=⟨none,f,[],[]⟩:=by
 unfold pr1 at h
 split at h
 ·cases h;exact⟨_,rfl,rfl⟩
 ·cases h
theorem an4{r:Option (Option Prop×FX)}{c:CR}(h:pr2 r=some c): ∃v f,r=some (v,f)∧c=⟨v,f,[],[]⟩:=by
 unfold pr2 at h
 split at h
 ·cases h;exact⟨_,_,rfl,rfl⟩
 ·cases h
theorem af3{α:Type}{K:FX→Option α}{r:α}(h:ev1 lk x K=some r): ∃f,evX lk x=some f∧K f=some r:=by
 unfold ev1 at h
 split at h
 ·exact⟨_,by assumption,h⟩
 ·cases h
theorem akC{α:Type}{K:FX→FX→Option α}{r:α}(h:ev2 lk x y K=some r): ∃f g,evX lk x=some f∧evX lk y=some g∧K f g=some r:=by
 unfold ev2 at h
 split at h
 ·split at h
  ·exact⟨_,_,by assumption,by assumption,h⟩
  ·cases h
 ·cases h
theorem asP{α:Type}{K:TI→Option α}{r:α}(hT:TOK P T)(h:tyI T t K=some r): ∃i,afC P t=some i∧K i=some r:=by
 unfold tyI at h
 split at h
 ·rename_i i hi;exact⟨i,hT _ _ hi,h⟩
 ·cases h
theorem asX{α:Type}{K:List (Nat×Nat×Nat)→TI→Option α}{r:α}(hT:TOK P T)(h:tyS T t K=some r): ∃fo i,afC P t=some i∧i.k= .st fo∧K fo i=some r:=by
 unfold tyS at h
 split at h
 ·rename_i fo sz z za hi;exact⟨fo,_,hT _ _ hi,rfl,h⟩
 ·cases h
theorem OpR.x1{o:Oper}{f g:FX}(e:evX lk x=some f)(h: ∀ρ G ov (a:Act) w y,abk C ov G w→RlX GB C n lk bk ρ G ov a w→opv (frA a) x=some y→IsX ρ G f y→ ∃u,IsX ρ G g u∧Yd P C (frA a) ov G o u):OpR P GB C n lk bk o g [] []:=
 .yd fun ρ G ov a w r=>by
  obtain⟨y,h1,h2⟩:=r.ev e
  exact h ρ G ov a w y r.h r h1 h2
theorem azX{f:FX}(e:evX lk x=some f):OpR P GB C n lk bk ⟨dst, .move x,ty',pos,af,gd⟩ f [] []:= .x1 e fun _ _ _ _ _ y _ _ h1 h2=>⟨y,h2,aaP h1⟩
theorem avE{f:FX}(e:evX lk x=some f):OpR P GB C n lk bk ⟨dst, .assign x,ty',pos,af,gd⟩ f [] []:= .x1 e fun _ _ _ _ _ y _ _ h1 h2=>⟨y,h2,aiT h1⟩
theorem aA4{c f g v:FX}(ec:evX lk z=some c)(e1:evX lk x=some f)(e2:evX lk y=some g)(h:aGM c f g=some v):OpR P GB C n lk bk ⟨dst, .pick z x y,ty',pos,af,gd⟩ v [] []:= .yd fun ρ G ov a w r=>by
 obtain⟨u,h1,h2⟩:=r.ev ec
 unfold aGM at h
 split at h
 ·cases h;cases h2;obtain⟨u,h3,h4⟩:=r.ev e1;exact⟨u,h4,adb h1 h3⟩
 ·cases h;cases h2;obtain⟨u,h3,h4⟩:=r.ev e2;exact⟨u,h4,aby h1 h3⟩
 ·cases h
theorem aDK{f g:FX}{v:Option Prop}(e:evX lk x=some f)(h:aFJ f=some (v,g))(hv: ∀r,v=some r→r):OpR P GB C n lk bk ⟨dst, .nilCheck x,ty',pos,af,gd⟩ g [] []:= .x1 e fun ρ G ov a w y _ _ h1 h2=>by
 have key: ∀l,Is G (.pt l) y→ ∃u,IsX ρ G (.ep l) u∧Yd P C (frA a) ov G ⟨dst, .nilCheck x,ty',pos,af,gd⟩ u:=fun l h2=>by
  obtain⟨b,m,rfl,hb,hm⟩:=akb.1 h2
  refine⟨_,⟨b,0,m,m,rfl,hb,?_,hm⟩,aaT h1⟩
  rw[abz _ _ _ (by rw[hm.len];omega),gT,aW (by rw[hm.len];omega)]
 unfold aFJ at h
 split at h<;>cases h
 ·obtain⟨b,hb,rfl⟩:=h2;exact⟨_,⟨b,hb,rfl⟩,aaT h1⟩
 ·obtain⟨b,o,cs,m,rfl,h3⟩:=h2;exact⟨_,⟨b,o,cs,m,rfl,h3⟩,aaT h1⟩
 ·obtain⟨b,hb,rfl⟩:=h2;exact⟨_,⟨b,hb,rfl⟩,aaT h1⟩
 ·exact key _ h2
 ·rcases ao8.1 (show Is G _ y from h2) with⟨e,_⟩|⟨_,h3⟩
  ·have:=hv _ rfl;rw[e] at this;cases this
  ·exact key _ h3
theorem aGc{f g:FX}{fo:List (Nat×Nat×Nat)}{i:TI}{k:Nat}(hi:afC P t=some i)(hk:i.k= .st fo)(e:evX lk x=some f)(h:faX fo k f=some g):OpR P GB C n lk bk ⟨dst, .fieldAddr t x k,ty',pos,af,gd⟩ g [] []:= .x1 e fun ρ G ov a w y _ _ h1 h2=>by
 unfold faX at h
 split at h
 ·rename_i off ft s ho
  have:=aGt hi hk ho
  split at h
  ·cases h;obtain⟨b,hb,rfl⟩:=h2;exact⟨_,⟨b,hb,rfl⟩,aaR h1⟩
  ·rename_i l
   cases hb:Nat.ble off l.length with
   |false=>rw[hb] at h;cases h
   |true=>
    rw[hb,cond_true,agU] at h;cases h
    obtain⟨b,o,cs,m,rfl,hb',ht,hm⟩:=h2
    refine⟨_,⟨b,o+off,cs,m.drop off,rfl,hb',?_,hm.drop _⟩,aaR h1⟩
    rw[gV]
    exact ais ht (by simpa using hb)
  ·cases h
   obtain⟨b,hb,rfl⟩:=h2
   exact⟨_,⟨b,hb,rfl⟩,by rw[←jR];exact aaR h1⟩
  ·cases h
 ·cases h
theorem aFY{f g:FX}{fo:List (Nat×Nat×Nat)}{i:TI}{k:Nat}(hT:TOK P T)(hi:afC P t=some i)(hk:i.k= .st fo)(e:evX lk x=some f)(h:fdX T fo k f=some g):OpR P GB C n lk bk ⟨dst, .field t x k,ty',pos,af,gd⟩ g [] []:= .x1 e fun ρ G ov a w y _ _ h1 h2=>by
 unfold fdX at h
 split at h<;>try (cases h;done)
 rename_i cs
 split at h<;>try (cases h;done)
 rename_i off ft s ho
 split at h<;>try (cases h;done)
 rename_i j hj
 obtain⟨m,rfl,hm⟩:=ab4.1 (show Is G _ y from h2)
 have:=aGj hi hk ho
 split at h<;>try (cases h;done)
 ·rename_i q ha
  have:=aiL (hT _ _ hj) ha
  split at h<;>cases h
  rename_i l hl
  obtain⟨l',h3,h4⟩:=hm.takeD hl
  exact⟨.agg ⟨l'⟩,ab4.2 ⟨l',rfl,h4⟩,asI h1 h3⟩
 ·rename_i ha
  have:=akU (hT _ _ hj) ha
  split at h<;>cases h
  rename_i c hc
  obtain⟨l',h3,h4⟩:=hm.get hc
  exact⟨l',h4,au3 h1 h3⟩
theorem RlX.own{nm off:Nat}{y:Value}{ty:TypeId}{cs:List FX}{lo:Bool}(r:RlX GB C n lk bk ρ G ov a w)(h2:IsX ρ G (.ov nm off) y)(hb:bk nm=some (.o ty cs lo)): ∃b m,y= .pointer (some ⟨b,off,none⟩)∧(ρ nm).a=some ⟨b,0,none⟩∧adx ρ G cs m∧⟨b,m,ty,lo⟩∈ov:=by
 obtain⟨os,⟨b,m,h3,rfl,h4⟩,h5⟩:=r.bx _ _ hb
 obtain⟨b',h6,rfl⟩:=h2
 rw[h3] at h6;cases h6
 exact⟨b,m,rfl,h3,h4,h5 _ aZ⟩
theorem aFX{f g:FX}{i:TI}(hi:afC P t=some i)(e:evX lk x=some f)(h:ldX bk i f=some g):OpR P GB C n lk bk ⟨dst, .load t x,ty',pos,af,gd⟩ g [] []:= .x1 e fun ρ G ov a w y _ r h1 h2=>by
 unfold ldX at h
 split at h<;>try (cases h;done)
 ·rename_i k ha
  have:=aiL hi ha
  split at h<;>try (cases h;done)
  ·split at h<;>try (cases h;done)
   rename_i hb
   split at h<;>try (cases h;done)
   rename_i l hl
   obtain⟨b,m,rfl,h3,h4,h5⟩:=r.own h2 hb
   obtain⟨l',h6,h7⟩:=h4.takeX hl
   have:OAt ov b m _ _:=⟨h5⟩
   exact⟨.agg ⟨l'⟩,aqe h7 h,adB h1 h6⟩
  ·split at h<;>cases h
   rename_i hl
   obtain⟨b,o,ms,m,rfl,hb,ht,hm⟩:=h2
   obtain⟨l',h3,h4⟩:=hm.takeD hl
   exact⟨.agg ⟨l'⟩,ab4.2 ⟨l',rfl,h4⟩,ak3 h1 hb (by simpa using amv ht h3)⟩
 ·rename_i ha
  have:=akU hi ha
  split at h<;>try (cases h;done)
  ·split at h<;>try (cases h;done)
   rename_i hb
   obtain⟨b,m,rfl,h3,h4,h5⟩:=r.own h2 hb
   obtain⟨l',h6,h7⟩:=h4.get h
   have:OAt ov b m _ _:=⟨h5⟩
   exact⟨l',h7,aaB h1 h6⟩
  ·split at h<;>cases h
   obtain⟨b,o,ms,m,rfl,hb,ht,hm⟩:=h2
   obtain⟨l',h3,h4⟩:=hm.get (i:=0) rfl
   have:=ahX ht (i:=0) (Nat.succ_pos _)
   rw[fQ] at this
   exact⟨l',h4,aja h1 hb (by rw[this];exact h3)⟩
theorem aCM{f g:FX}{i:Nat}(e:evX lk x=some f)(h:aF5 i f=some g):OpR P GB C n lk bk ⟨dst, .extract x i,ty',pos,af,gd⟩ g [] []:= .x1 e fun ρ G ov a w y _ r h1 h2=>by
 unfold aF5 at h
 split at h<;>try (cases h;done)
 ·split at h<;>cases h
  rename_i hv
  obtain⟨m,rfl,hm⟩:=aem.1 (show Is G _ y from h2)
  obtain⟨l',h3,h4⟩:=hm.get hv
  exact⟨l',h4,ahQ h1 (by simpa using h3)⟩
 ·obtain⟨m1,m2,rfl,k1,k2⟩:=h2
  obtain⟨l',h3,h4⟩:=ayQ (ρ:=ρ) h k1 k2
  exact⟨l',h4,ahQ h1 (by simpa using h3)⟩
theorem aiH{fo:List (Nat×Nat×Nat)}(r:RlX GB C n lk bk ρ G ov a w): ∀(ps:List (Nat×Operand)) (cs out:List FX) (m:List Value),ax3 lk fo cs ps=some out→adx ρ G cs m→ ∃l,bld (frA a) (fo.map fun x=>(x.1,x.2.2)) m ps=some l∧adx ρ G out l
 |[],cs,out,m,e,hm=>by simp only[ax3] at e;cases e;exact⟨m,rfl,hm⟩
 |(i,x)::ps,cs,out,m,e,hm=>by
  simp only[ax3] at e
  split at e
  ·rename_i off q k d ho hd
   cases hc:(d.okc&&(Nat.beq d.cells.length k&&Nat.ble (off+k) cs.length)) with
   |false=>rw[hc] at e;cases e
   |true=>
    rw[hc] at e
    simp only[bT,Nat.beq_eq_true_eq,Nat.ble_eq] at hc
    obtain⟨h1,h2,h3⟩:=hc
    replace h2:=aL h2
    obtain⟨y,hy,hy'⟩:=r.ev hd
    obtain⟨c1,_⟩:=hy'.cells h1
    have c2:=c1.len
    obtain⟨l,hl1,hl2⟩:=aiH r ps _ out _ e (hm.ov c1 (off:=off))
    refine⟨l,?_,hl2⟩
    simp only[bld,cJ,ho,kJ,hy]
    rw[if_pos ⟨by rw[c2,h2],by rw[hm.len];exact h3⟩]
    exact hl1
  ·cases e
theorem aw7{fo:List (Nat×Nat×Nat)}{i:TI}{zx:List FX}{cs:List FX}{f:FX}{parts:Array (Nat×Operand)}(hi:afC P t=some i)(hk:i.k= .st fo)(hz:i.z=some zx)(h:ax3 lk fo zx parts.toList=some cs)(hf:agX cs=some f):
  OpR P GB C n lk bk ⟨dst, .build t parts,ty',pos,af,gd⟩ f [] []:= .yd fun ρ G ov a w r=>by
 obtain⟨v,hv,hv'⟩:=aiU hi hz
 have:=azq hi hk
 obtain⟨l,h1,h2⟩:=aiH r _ _ _ _ h (hv' ρ G)
 exact⟨.agg ⟨l⟩,aqe h2 hf,alZ h1⟩
theorem aoh{k:IntKind}{p:Int}{v:Option Prop}{f:FX}(h:vcI k p=some (v,f)):f= .d (.v (.int k p))∧((∀q,v=some q→q)→k.min≤p∧p≤k.max):=by
 obtain⟨q,h1,h2⟩:=aEC h
 cases h1
 exact⟨rfl,fun k=>h2 (k _ rfl)⟩
theorem aay{k:IntKind}{p:Int}{y:Value}:IsX ρ G (.d (.v (.int k p))) y↔y= .int k p:=aaY (G:=G)
theorem atf(b:BitVec 64):IntKind.u64.wrap (b.toNat:Int)=(b.toNat:Int):=aeQ ⟨by show(0:Int)≤_;omega,by have:=b.isLt;show _≤(18446744073709551615:Int);omega⟩
theorem alJ(b:BitVec 32):IntKind.u32.wrap (b.toNat:Int)=(b.toNat:Int):=aeQ ⟨by show(0:Int)≤_;omega,by have:=b.isLt;show _≤(4294967295:Int);omega⟩
theorem axt{op:BinOp}{k j:IntKind}{p q:Int}{v:Option Prop}{f:FX}(h:arX op k p q=some (v,f))(hop:op= .shr∨op= .shl)(hv: ∀r,v=some r→r){fr:Fr}(hx:opv fr x=some (.int k p))(hy:opv fr y=some (.int j q)): ∃u,IsX ρ G f u∧Yd P C fr ov G ⟨dst, .binOp op t x y t',ty',pos,af,gd⟩ u:=by
 rcases hop with rfl|rfl<;>cases h
 ·exact⟨_,aay.2 rfl,adC hx hy (hv _ rfl)⟩
 ·exact⟨_,aay.2 rfl,ai8 hx hy (hv _ rfl)⟩
theorem aGO{op:BinOp}{k:IntKind}{p q:Int}{v:Option Prop}{f:FX}(h:arX op k p q=some (v,f))(hv: ∀r,v=some r→r){fr:Fr}(hx:opv fr x=some (.int k p))(hy:opv fr y=some (.int k q)): ∃u,IsX ρ G f u∧Yd P C fr ov G ⟨dst, .binOp op t x y t',ty',pos,af,gd⟩ u:=by
 cases op with
 |add=>obtain⟨rfl,h2⟩:=aoh h;exact⟨_,aay.2 rfl,ath hx hy (h2 hv)⟩
 |sub=>obtain⟨rfl,h2⟩:=aoh h;exact⟨_,aay.2 rfl,aum hx hy (h2 hv)⟩
 |mul=>obtain⟨rfl,h2⟩:=aoh h;exact⟨_,aay.2 rfl,atE hx hy (h2 hv)⟩
 |quo=>
  cases k<;>cases h<;>first
   |exact⟨_,aay.2 rfl,ava hx hy (hv _ rfl)⟩
   |(obtain⟨h1,h2,h3⟩:=hv _ rfl;exact⟨_,aay.2 rfl,ahD hx hy h1 h2 h3⟩)
 |rem=>
  cases k<;>cases h<;>first
   |exact⟨_,aay.2 rfl,azE hx hy (hv _ rfl)⟩
   |(obtain⟨h1,h2⟩:=hv _ rfl;exact⟨_,aay.2 rfl,ahn hx hy h1 h2⟩)
 |shr=>exact axt h (.inl rfl) hv hx hy
 |shl=>exact axt h (.inr rfl) hv hx hy
 |or=>
  cases k<;>cases h<;>refine⟨_,aay.2 rfl,ab7 hx hy fun w=>?_⟩
  ·show(pure (Value.int .u32 (IntKind.u32.wrap ((BitVec.ofInt 32 p ||| BitVec.ofInt 32 q).toNat:Int))):Sem Value).run P w=_
   rw[alJ];rfl
  ·show(pure (Value.int .u64 (IntKind.u64.wrap ((BitVec.ofInt 64 p ||| BitVec.ofInt 64 q).toNat:Int))):Sem Value).run P w=_
   rw[atf];rfl
 |and=>
  cases k<;>cases h<;>refine⟨_,aay.2 rfl,ab7 hx hy fun w=>?_⟩
  ·show(pure (Value.int .u32 (IntKind.u32.wrap ((BitVec.ofInt 32 p &&& BitVec.ofInt 32 q).toNat:Int))):Sem Value).run P w=_
   rw[alJ];rfl
  ·show(pure (Value.int .u64 (IntKind.u64.wrap ((BitVec.ofInt 64 p &&& BitVec.ofInt 64 q).toNat:Int))):Sem Value).run P w=_
   rw[atf];rfl
 |lss=>cases h;exact⟨_,rfl,acp hx hy⟩
 |leq=>cases h;exact⟨_,rfl,aEB hx hy⟩
 |gtr=>cases h;exact⟨_,rfl,agL hx hy⟩
 |geq=>cases h;exact⟨_,rfl,ah6 hx hy⟩
 |eql=>cases h;exact⟨_,rfl,abZ hx hy⟩
 |neq=>cases h;exact⟨_,rfl,ahW hx hy⟩
 |_=>cases h
theorem aCK{mx:Bool}{f g u:FX}(e1:evX lk x=some f)(e2:evX lk y=some g)(h:mmX mx f g=some u){t1 t2:TypeId}:OpR P GB C n lk bk ⟨dst, .call ⟨.builtin (if mx then .max else .min),⟨[x,y]⟩,⟨[t1,t2]⟩⟩,ty',pos,af,gd⟩ u [] []:= .yd fun ρ G ov a w r=>by
 obtain⟨p,h1,h2⟩:=r.ev e1
 obtain⟨q,h3,h4⟩:=r.ev e2
 unfold mmX at h
 split at h<;>try (cases h;done)
 rename_i k p' j q'
 rw[aay] at h2 h4
 subst h2 h4
 cases hk:kq k j with
 |false=>rw[hk] at h;cases h
 |true=>
  rw[hk] at h;cases axH hk
  cases mx<;>cases h
  ·refine⟨_,aay.2 rfl,?_⟩
   intro a' w' hf hh
   simp only[jV,if_false,execOp,resolve,gM,cZ,jS,aac hf h1,aac hf h3]
   have h1:(Builtin.min_ #[t1,t2] ty' #[.int k p', .int k q']).run P w'= .ok (.int k (if q'<p' then q' else p')) w':=by
    simp[Builtin.min_,Builtin.min2,run_pure]
   exact aal h1
  ·refine⟨_,aay.2 rfl,?_⟩
   intro a' w' hf hh
   simp only[if_true,execOp,resolve,gM,cZ,jS,aac hf h1,aac hf h3]
   have h1:(Builtin.max_ #[t1,t2] ty' #[.int k p', .int k q']).run P w'= .ok (.int k (if q'>p' then q' else p')) w':=by
    simp[Builtin.max_,Builtin.max2,run_pure]
   exact aal h1
theorem aEi{f g:FX}{b:Bool}(hT:TOK P T)(h:aG2 T t f y=some b)(hx: ∃v,opv (frA a) x=some v∧IsX ρ G f v)(hy:evX lk y=some g):
  Yd P C (frA a) ov G ⟨dst, .binOp .eql t x y t',ty',pos,af,gd⟩ (.bool b)∧Yd P C (frA a) ov G ⟨dst, .binOp .neq t x y t',ty',pos,af,gd⟩ (.bool (!b)):=by
 obtain⟨v,h1,h2⟩:=hx
 unfold aG2 at h
 split at h<;>try (cases h;done)
 ·rename_i hi
  have:=aGe (hT _ _ hi) rfl
  split at h<;>cases h
  ·cases (aaY (G:=G)).1 h2;exact⟨azp (.inl rfl) h1,ayV (.inl rfl) h1⟩
  ·cases (aaY (G:=G)).1 h2;exact⟨azp (.inr ⟨_,_,rfl⟩) h1,ayV (.inr ⟨_,_,rfl⟩) h1⟩
 ·rename_i hi
  have:=aCO (hT _ _ hi) rfl
  have key: ∀p,v= .pointer (some p)→Yd P C (frA a) ov G ⟨dst, .binOp .eql t x (.const (.pointer none)) t',ty',pos,af,gd⟩ (.bool false)∧Yd P C (frA a) ov G ⟨dst, .binOp .neq t x (.const (.pointer none)) t',ty',pos,af,gd⟩ (.bool (!false)):=fun p e=>by
   subst e;exact⟨apJ h1 rfl,apQ h1 rfl⟩
  split at h<;>cases h
  ·cases (aaY (G:=G)).1 h2;exact⟨apJ h1 rfl,apQ h1 rfl⟩
  ·obtain⟨b,_,e⟩:=h2;exact key _ e
  ·obtain⟨b,o,cs,m,e,_⟩:=h2;exact key _ e
  ·obtain⟨b,_,e⟩:=h2;exact key _ e
  ·obtain⟨b,m,e,_⟩:=akb.1 (show Is G _ v from h2);exact key _ e
 ·rename_i hi
  have:=afT (hT _ _ hi) rfl
  split at h<;>cases h
  cases h2;exact⟨azj h1 rfl,aDa h1 rfl⟩
theorem aGk{op:BinOp}{f g u:FX}{v:Option Prop}(hT:TOK P T)(e1:evX lk x=some f)(e2:evX lk y=some g)(h:boX T op t f g y=some (v,u))(hv: ∀r,v=some r→r):OpR P GB C n lk bk ⟨dst, .binOp op t x y t',ty',pos,af,gd⟩ u [] []:= .yd fun ρ G ov a w r=>by
 obtain⟨p,h1,h2⟩:=r.ev e1
 obtain⟨q,h3,h4⟩:=r.ev e2
 unfold boX at h
 split at h
 ·rename_i k p' j q'
  rw[aay] at h2 h4
  subst h2 h4
  split at h
  ·exact axt h (.inl rfl) hv h1 h3
  ·exact axt h (.inr rfl) hv h1 h3
  ·cases hk:kq k j with
   |false=>rw[hk] at h;cases h
   |true=>rw[hk] at h;cases axH hk;exact aGO h hv h1 h3
 ·unfold opX at h
  split at h<;>try (cases h;done)
  rename_i hi
  have:=aCO (hT _ _ hi) rfl
  cases (aaY (G:=G)).1 h4
  split at h<;>cases h<;>rcases ao8.1 (show Is G _ p from h2) with⟨rfl,rfl⟩|⟨rfl,k⟩
  ·exact⟨_,rfl,apJ h1 h3⟩
  ·obtain⟨b,m,rfl,_⟩:=akb.1 k;exact⟨_,rfl,apJ h1 h3⟩
  ·exact⟨_,rfl,apQ h1 h3⟩
  ·obtain⟨b,m,rfl,_⟩:=akb.1 k;exact⟨_,rfl,apQ h1 h3⟩
 ·split at h
  ·rename_i b hb
   obtain⟨k1,k2⟩:=aEi (ρ:=ρ) (G:=G) (C:=C) (ov:=ov) (dst:=dst) (t':=t') (ty':=ty') (pos:=pos) (af:=af) (gd:=gd) hT hb ⟨p,h1,h2⟩ e2
   split at h<;>cases h
   ·exact⟨_,by cases b<;>rfl,k1⟩
   ·exact⟨_,by cases b<;>rfl,k2⟩
  ·split at h<;>try (cases h;done)
   rename_i hi ha hb
   have:=aGs (hT _ _ hi) rfl
   have e3:=aj0 h2 ha
   have e4:=aj0 h4 hb
   subst e3 e4
   split at h<;>cases h
   ·exact⟨_,(aaY (G:=G)).2 rfl,aEA h1 h3⟩
   ·exact⟨_,(aaY (G:=G)).2 rfl,aEg h1 h3⟩
theorem aGJ{op:UnOp}{f u:FX}{v:Option Prop}(e1:evX lk x=some f)(h:unX op f=some (v,u))(hv: ∀r,v=some r→r):OpR P GB C n lk bk ⟨dst, .unOp op t x,ty',pos,af,gd⟩ u [] []:= .x1 e1 fun ρ G ov a w y _ r h1 h2=>by
 unfold unX at h
 split at h<;>try (cases h;done)
 ·split at h<;>cases h
  rename_i g hg
  obtain⟨b,rfl,h3⟩:=aDI h2 hg
  exact⟨_,h3,aq5 h1⟩
 ·split at h<;>try (cases h;done)
  obtain⟨rfl,h3⟩:=aoh h
  rw[aay] at h2;subst h2
  refine⟨_,aay.2 rfl,?_⟩
  have:=atT (P:=P) (C:=C) (own:=ov) (G:=G) (dst:=dst) (ty':=ty') (pos:=pos) (af:=af) (gd:=gd) (t:=t) h1
  rwa [Int.zero_sub,aeQ (h3 hv)] at this
theorem aGQ{f u:FX}{v:Option Prop}(hT:TOK P T)(e1:evX lk x=some f)(h:cvX T t t' f=some (v,u))(hv: ∀r,v=some r→r):OpR P GB C n lk bk ⟨dst, .convert t t' x,ty',pos,af,gd⟩ u [] []:= .x1 e1 fun ρ G ov a w y _ r h1 h2=>by
 unfold cvX at h
 split at h<;>try (cases h;done)
 rename_i k _ _ _ k' _ _ _ hi hi'
 have:=akS (hT _ _ hi) rfl
 have:=akS (hT _ _ hi') rfl
 split at h<;>try (cases h;done)
 rename_i j p
 rw[aay] at h2;subst h2
 cases hk:kq k j with
 |false=>rw[hk] at h;cases h
 |true=>
  rw[hk,cond_true] at h;cases axH hk
  split at h
  ·cases h;exact⟨_,aay.2 rfl,abh h1⟩
  ·obtain⟨rfl,h3⟩:=aoh h;exact⟨_,aay.2 rfl,ak9 h1 (h3 hv)⟩
theorem RlX.row{nm:Nat}{y:Value}{ty:TypeId}{s:Nat}{ds:List DV}{lo:Bool}(r:RlX GB C n lk bk ρ G ov a w)(hb:bk nm=some (.b ty s ds lo)): ∃B,abw G ⟨ρ nm,s,ty,ds,lo⟩ B∧ ∀o∈B,o∈ov:=by
 obtain⟨os,h1,h2⟩:=r.bx _ _ hb
 exact⟨os,h1,h2⟩
theorem abw.len{β:aeg}{B:List Own}(h:abw G β B):β.x.n=β.ds.length:=by
 obtain⟨vs,h1,h2,_⟩:=h
 rw[h1.len,h2.len]
theorem aFK{f g u:FX}{v:Option Prop}(hT:TOK P T)(e1:evX lk x=some f)(e2:evX lk y=some g)(h:ixX T bk t f g=some (v,u))(hv: ∀r,v=some r→r):OpR P GB C n lk bk ⟨dst, .indexAddr t x y,ty',pos,af,gd⟩ u [] []:= .yd fun ρ G ov a w r=>by
 obtain⟨p,h1,h2⟩:=r.ev e1
 obtain⟨q,h3,h4⟩:=r.ev e2
 unfold ixX at h
 split at h<;>try (cases h;done)
 rename_i nm
 split at h<;>try (cases h;done)
 rename_i ty s ds lo hb
 split at h<;>try (cases h;done)
 rename_i e' s' by_ _ _ _ hi
 have:=afT (hT _ _ hi) rfl
 split at h<;>try (cases h;done)
 rename_i k i
 cases hs:Nat.beq s s' with
 |false=>rw[hs] at h;cases h
 |true=>
  rw[hs,cond_true] at h;cases h
  cases aL hs
  rw[aay] at h4;subst h4
  cases h2
  obtain⟨B,hB,hBo⟩:=r.row (y:= .nilFunc) hb
  have hl:=hB.len
  simp only at hl
  obtain⟨h5,h6⟩:=hv _ rfl
  obtain⟨vs,hB1,hB2,_⟩:=hB
  rcases hB1 with⟨e5,_,_⟩|⟨b,rest,lo',e5,_⟩
  ·subst e5;have:=hB2.len;simp at this;rw[←this] at h6;simp at h6;omega
  ·have hw:(ρ nm).a=some ⟨b,0,none⟩:=by simp only at e5;rw[e5]
   rw[hw] at h1
   refine⟨_,⟨b,hw,rfl⟩,?_⟩
   have:=aiC (P:=P) (C:=C) (own:=ov) (G:=G) (dst:=dst) (ty':=ty') (pos:=pos) (af:=af) (gd:=gd) (t:=t) h1 h3 h5 (by rw[hl];exact h6)
   simpa using this
theorem aEb{f g:FX}{e s by_:Nat}(hS:acV P t e s by_)(e1:evX lk x=some f)(h:aG3 bk f=some g):OpR P GB C n lk bk ⟨dst, .call ⟨.builtin .len,⟨[x]⟩,⟨[t]⟩⟩,ty',pos,af,gd⟩ g [] []:= .x1 e1 fun ρ G ov a w y _ r h1 h2=>by
 have key: ∀l:List DV,Is G (.sl l) y→ ∃u,IsX ρ G (.d (.v (.int .i64 (l.length:Nat)))) u∧Yd P C (frA a) ov G ⟨dst, .call ⟨.builtin .len,⟨[x]⟩,⟨[t]⟩⟩,ty',pos,af,gd⟩ u:=fun l hl=>by
  obtain⟨k,z,es,rfl,hs,hl⟩:=adZ.1 hl
  have:=hs.len
  rw[hl.len] at this
  exact⟨_,aay.2 rfl,by rw[←this];exact aeZ h1⟩
 unfold aG3 at h
 split at h
 ·cases h;cases h2;exact⟨_,aay.2 rfl,aeZ h1⟩
 ·cases h;exact key _ h2
 ·cases h;exact key _ h2.2
 ·split at h<;>cases h
  rename_i hb
  cases h2
  obtain⟨B,hB,_⟩:=r.row (y:= .nilFunc) hb
  have:=hB.len
  simp only at this
  exact⟨_,aay.2 rfl,by rw[←this];exact aeZ h1⟩
 ·cases h
theorem awb{f g:FX}{d:Nat}(hg:g∈f.cells)(h:aCz f d=true):g.nm≠some d:=by
 have key:g.nm=f.nm∨g.nm=none:=by
  unfold FX.cells at hg
  split at hg
  ·obtain⟨x,_,rfl⟩:=bJ.1 hg;exact .inr rfl
  ·rcases bY.1 hg with hg|hg
   ·obtain⟨x,_,rfl⟩:=bJ.1 hg;exact .inr rfl
   ·rcases aT.1 hg with rfl|hg
    ·exact .inl rfl
    ·obtain⟨x,_,rfl⟩:=bJ.1 hg;exact .inr rfl
  ·exact .inl (by rw[aV.1 hg])
 rcases key with h'|h'
 ·intro e;unfold aCz at h;rw[←h',e] at h;simp at h
 ·rw[h'];simp
theorem RlX.alloc(r:RlX GB C n lk bk ρ G ov a w){d b:Nat}{cs:List Value}{zs:List FX}{K:Act→World→Prop}{a':Act}{w':World}(hf:acS [d] (some d) lk bk)(hz:adx ρ G zs cs)(hn: ∀g∈zs,g.nm≠some d)
  (hk:SX GB C n (upL lk (some d) (.ov d 0)) (Sx.upB bk [(d,some (.o t zs true))]) K)(rl:Rel C n (Sx.put (frA a) (some d) (.pointer (some ⟨b,0,none⟩))) (⟨b,cs,t,true⟩::ov) G a' w'):K a' w':=by
 have hnd:=(cK.1 rl.h.nd).1
 have hy:IsX (fun k=>if k=d then⟨some ⟨b,0,none⟩,0,0⟩ else ρ k) G (.ov d 0) (.pointer (some ⟨b,0,none⟩)):=⟨b,by simp,rfl⟩
 have hB:aog (fun k=>if k=d then⟨some ⟨b,0,none⟩,0,0⟩ else ρ k) G d (.o t zs true) [⟨b,cs,t,true⟩]:=
  ⟨b,cs,by simp,rfl,hz.ren fun g hg m hm=>neN _ fun e'=>hn g hg (by rw[hm,e'])⟩
 refine hk.run _ _ _ a' w' (r.new hf (GLe.refl _) rl.h hB ?_ (fun o ho=>aJ _ ho) ?_ hy (abg rl))
 ·intro o ho;rw[aV.1 ho];exact aZ
 ·intro o ho e';cases e';exact hnd o ho rfl
theorem azu{d:Nat}{f:FX}(e:evX lk x=some f)(hc:f.okc=true)(hn:aCz f d=true):OpR P GB C n lk bk ⟨some d, .box t x,ty',pos,af,gd⟩ (.ov d 0) [(d,some (.o t f.cells true))] [d]:=by
 intro hd tl tb K s1 s2 hf hk
 refine⟨fun ρ G ov a w r Q=>?_⟩
 obtain⟨y,h1,h2⟩:=(r.mono s1 s2).ev e
 exact auM h1 hd (fun b a' w' rl=>r.alloc hf (h2.cells hc).1 (fun g hg=>awb hg hn) hk rl) a w Q ⟨r.h,r.sz,aaF a,r.df⟩
theorem aBy(v:Value):(aAG v).nm=none:=by unfold aAG;split<;>rfl
theorem ax6{d:Nat}{i:TI}{z:List FX}(hi:afC P t=some i)(hz:i.z=some z):OpR P GB C n lk bk ⟨some d, .alloc t,ty',pos,af,gd⟩ (.ov d 0) [(d,some (.o t z true))] [d]:=by
 intro hd tl tb K s1 s2 hf hk
 refine⟨fun ρ G ov a w r Q=>?_⟩
 obtain⟨v,hv,hv'⟩:=aiU hi hz
 refine ag9 hd (fun b a' w' rl=>r.alloc hf (hv' ρ G) (fun g hg=>?_) hk rl) a w Q ⟨r.h,r.sz,aaF a,r.df⟩
 obtain⟨j,_,rfl⟩:=adD hi
 cases hj:j.zero with
 |none=>simp only[hj] at hz;cases hz
 |some u=>
  simp only[hj] at hz;cases hz
  obtain⟨x,_,rfl⟩:=bJ.1 hg
  rw[aBy];simp
theorem agk.of_mem{b:Nat}{cs cs':List Value}{ty:TypeId}{lo:Bool}: ∀{own:List Own},⟨b,cs,ty,lo⟩∈own→ ∃own',agk own b cs ty lo cs' own'∧⟨b,cs',ty,lo⟩∈own'∧ ∀o∈own,o.b≠b→o∈own'
 |[],h=>by cases h
 |x::t,h=>by
  rcases aT.1 h with rfl|h
  ·exact⟨_, .hd ..,aZ,fun o ho hb=>(aT.1 ho).elim (fun e=>absurd (by rw[e]) hb) (fun e=>aJ _ e)⟩
  ·obtain⟨own',h1,h2,h3⟩:=agk.of_mem h
   exact⟨x::own', .tl _ _ _ _ _ _ _ _ h1,aJ _ h2,fun o ho hb=>(aT.1 ho).elim (fun e=>by rw[e];exact aZ) (fun e=>aJ _ (h3 o e hb))⟩
theorem RlX.wrote{nm:Nat}{b:Nat}{m m':List Value}{ty:TypeId}{cs cs':List FX}{lo:Bool}(r:RlX GB C n lk bk ρ G ov a w)(hb:bk nm=some (.o ty cs lo))(ha:(ρ nm).a=some ⟨b,0,none⟩){own':List Own}(hm':adx ρ G cs' m')(h1:⟨b,m',ty,lo⟩∈own')(h2: ∀o∈ov,o.b≠b→o∈own')
  {K:Act→World→Prop}(hk:SX GB C n (upL lk dst .un) (Sx.upB bk [(nm,some (.o ty cs' lo))]) K){a':Act}{w':World}(rl:Rel C n (Sx.put (frA a) dst undef) own' G a' w'):K a' w':=by
 have r2:=r.upB (G':=G) (ov':=own') (w':=w') (B':= .o ty cs' lo) (os:=[⟨b,m',ty,lo⟩]) (GLe.refl _) rl.h ⟨b,m',ha,rfl,hm'⟩ (fun o ho=>by rw[aV.1 ho];exact h1) (fun o ho hne=>h2 o ho fun e=>hne (by rw[ha,e])) ⟨_,hb⟩
 exact hk.run _ _ _ a' w' (r2.put rfl (abg rl))
theorem awW{f:FX}(h:f.flat=true):f.okc=true:=by
 cases f with
 |d x=>cases x<;>first|exact h|(cases h;done)
 |bx=>cases h
 |_=>exact h
theorem arz{f:FX}(h:f.flat=true):f.cells=[f]:=by
 cases f with
 |d x=>cases x<;>first|rfl|(cases h;done)
 |bx=>cases h
 |_=>rfl
theorem IsX.flat{f:FX}{y:Value}(h:IsX ρ G f y)(k:f.flat=true):Go.Sx.flat y=true:=by
 obtain⟨h1,h2⟩:=h.cells (awW k)
 rw[arz k] at h1
 have hl:=h1.len
 cases y with
 |agg l=>
  obtain⟨z,q,e,h4,h5⟩:=h1
  cases f with
  |d x=>cases x with
   |v u=>exact Is.flat (show Is G _ _ from h) k
   |ag l=>cases k
   |tp l=>cases k
   |pt l=>exact Is.flat (show Is G _ _ from h) k
   |op b l=>exact Is.flat (show Is G _ _ from h) k
   |sl l=>exact Is.flat (show Is G _ _ from h) k
  |ep l=>obtain⟨_,_,_,_,e,_⟩:=h;cases e
  |ov _ _=>obtain⟨_,_,e⟩:=h;cases e
  |be _ _ _ _=>obtain⟨_,_,e⟩:=h;cases e
  |rs _ _ _ _=>obtain⟨_,_,_,e,_⟩:=h;cases e
  |ct l=>obtain⟨⟨_,_,e⟩,_⟩:=h;cases e
  |bx=>cases k
  |un=>cases k
  |no=>cases k
  |_=>cases h
 |_=>exact h2 _ (by simp[aag])
theorem awC{fa fv:FX}{bl:List (Nat×Option Bk)}{i:TI}(hi:afC P t=some i)(e1:evX lk x=some fa)(e2:evX lk y=some fv)(h:stX bk i fa fv=some bl):OpR P GB C n lk bk ⟨dst, .store t x y,ty',pos,af,gd⟩ .un bl []:=by
 intro hd tl tb K s1 s2 hf hk
 refine⟨fun ρ G ov a w r Q=>?_⟩
 have r1:=r.mono s1 s2
 obtain⟨p,h1,h2⟩:=r1.ev e1
 obtain⟨q,h3,h4⟩:=r1.ev e2
 unfold stX at h
 split at h<;>try (cases h;done)
 rename_i nm off
 split at h<;>try (cases h;done)
 rename_i ty cs lo hb
 obtain⟨b,m,rfl,ha,h5,h6⟩:=r1.own h2 hb
 split at h<;>try (cases h;done)
 ·rename_i k hk'
  have:=aiL hi hk'
  cases hc:(fv.okc&&(Nat.beq fv.cells.length k&&Nat.ble (off+k) cs.length)) with
  |false=>rw[hc] at h;cases h
  |true=>
   rw[hc,cond_true,agU] at h;cases h
   simp only[bT,Nat.beq_eq_true_eq,Nat.ble_eq] at hc
   obtain⟨c1,c2,c3⟩:=hc
   replace c2:=aL c2
   obtain⟨h7,h8⟩:=h4.cells c1
   obtain⟨own',u1,u2,u3⟩:=agk.of_mem (cs':=ovw m off (aag q)) h6
   exact aiF h1 h3 u1 (by rw[h7.len,c2]) (by rw[h5.len];exact c3) (dZ.2 h8) hd (fun a' w' rl=>r.wrote (m:=m) (s2 _ _ hb) ha (h5.ov h7) u2 u3 hk rl) a w Q ⟨r.h,r.sz,aaF a,r.df⟩
 ·rename_i hk'
  have:=akU hi hk'
  cases hc:(fv.flat&&Nat.blt off cs.length) with
  |false=>rw[hc] at h;cases h
  |true=>
   rw[hc,cond_true,agU] at h;cases h
   simp only[bT,lN] at hc
   obtain⟨own',u1,u2,u3⟩:=agk.of_mem (cs':=m.set off q) h6
   exact adH h1 h3 u1 (by rw[h5.len];exact hc.2) (h4.flat hc.1) hd (fun a' w' rl=>r.wrote (m:=m) (s2 _ _ hb) ha (h5.set off h4) u2 u3 hk rl) a w Q ⟨r.h,r.sz,aaF a,r.df⟩
theorem ahH{op:Op}{r:CR}(hT:TOK P T)(h:aCw T lk bk dst op=some r):aH3 P GB C n lk bk ⟨dst,op,ty',pos,af,gd⟩ r:=by
 intro hv
 unfold aCw at h
 split at h
 ·obtain⟨f,h1,rfl⟩:=af4 h;exact azX h1
 ·obtain⟨f,h1,rfl⟩:=af4 h;exact avE h1
 ·obtain⟨c,hc,h⟩:=af3 h
  obtain⟨f,g,h1,h2,h⟩:=akC h
  obtain⟨u,h3,rfl⟩:=af4 h
  exact aA4 hc h1 h2 h3
 ·split at h<;>try (cases h;done)
  obtain⟨i,hi,h⟩:=asP hT h
  split at h<;>try (cases h;done)
  rename_i z hz
  rw[agU] at h;cases h
  exact ax6 hi hz
 ·split at h<;>try (cases h;done)
  obtain⟨f,hf,h⟩:=af3 h
  rw[agU,cond_eq_ite] at h
  split at h<;>cases h
  rename_i hc
  simp only[bT] at hc
  exact azu hf hc.1 hc.2
 ·obtain⟨f,h1,h⟩:=af3 h;obtain⟨v,u,h3,rfl⟩:=an4 h;exact aDK h1 h3 hv
 ·obtain⟨fo,i,hi,hk,h⟩:=asX hT h
  obtain⟨f,h1,h⟩:=af3 h;obtain⟨u,h3,rfl⟩:=af4 h;exact aGc hi hk h1 h3
 ·obtain⟨fo,i,hi,hk,h⟩:=asX hT h
  obtain⟨f,h1,h⟩:=af3 h;obtain⟨u,h3,rfl⟩:=af4 h;exact aFY hT hi hk h1 h3
 ·obtain⟨i,hi,h⟩:=asP hT h
  obtain⟨f,h1,h⟩:=af3 h;obtain⟨u,h3,rfl⟩:=af4 h;exact aFX hi h1 h3
 ·obtain⟨i,hi,h⟩:=asP hT h
  obtain⟨f,g,h1,h2,h⟩:=akC h
  cases hb:stX bk i f g with
  |none=>simp only[hb] at h;cases h
  |some bl=>simp only[hb] at h;cases h;exact awC hi h1 h2 hb
 ·obtain⟨f,h1,h⟩:=af3 h;obtain⟨u,h3,rfl⟩:=af4 h;exact aCM h1 h3
 ·obtain⟨fo,i,hi,hk,h⟩:=asX hT h
  split at h<;>try (cases h;done)
  rename_i z hz
  split at h<;>try (cases h;done)
  rename_i cs hcs
  split at h<;>cases h
  rename_i g hg
  exact aw7 hi hk hz hcs hg
 ·obtain⟨f,g,h1,h2,h⟩:=akC h;obtain⟨v,u,h3,rfl⟩:=an4 h;exact aGk hT h1 h2 h3 hv
 ·obtain⟨f,h1,h⟩:=af3 h;obtain⟨v,u,h3,rfl⟩:=an4 h;exact aGJ h1 h3 hv
 ·obtain⟨f,h1,h⟩:=af3 h;obtain⟨v,u,h3,rfl⟩:=an4 h;exact aGQ hT h1 h3 hv
 ·obtain⟨f,g,h1,h2,h⟩:=akC h;obtain⟨v,u,h3,rfl⟩:=an4 h;exact aFK hT h1 h2 h3 hv
 ·split at h<;>try (cases h;done)
  rename_i hi
  obtain⟨f,h1,h⟩:=af3 h;obtain⟨u,h3,rfl⟩:=af4 h
  exact aEb (afT (hT _ _ hi) rfl) h1 h3
 ·obtain⟨f,g,h1,h2,h⟩:=akC h;obtain⟨u,h3,rfl⟩:=af4 h;exact aCK (mx:=true) h1 h2 h3
 ·obtain⟨f,g,h1,h2,h⟩:=akC h;obtain⟨u,h3,rfl⟩:=af4 h;exact aCK (mx:=false) h1 h2 h3
 ·cases h
end
def FW(r:Option Nat):Fence:={Fence.wide with round:=r}
def wpr(r:Option Nat)(P:Program)(c:Code)(Q:Exit→Act→World→Prop)(a:Act)(w:World):Prop:=c.wpIn (FW r) 0 P Q a w
section
variable {r:Option Nat} {P:Program} {Q:Exit→Act→World→Prop} {a:Act} {w:World}
theorem ai5{o:Option Nat}{c:Code}(h:o=none)(k:wpr o P c Q a w):c.wp P Q a w:=by
 subst h
 exact wpIn_wide.1 k
theorem awn{c:Code}{Q':Exit→Act→World→Prop}(h:wpr r P c Q a w)(hq: ∀e a w,Q e a w→Q' e a w):wpr r P c Q' a w:=wpIn_mono h hq
theorem awY(h:Q .normal a w):wpr r P .skip Q a w:=wpIn_skip h
theorem ats{l:Nat}(h:Q .normal a w):wpr r P (.label l) Q a w:=wpIn_label h
theorem awM{id:Nat}(h:Q (.exit id) a w):wpr r P (.exit id) Q a w:=wpIn_exit h
theorem azU(h:Q .ret a w):wpr r P .ret Q a w:=wpIn_ret h
theorem azI{x y:Code}(h:wpr r P x (Exit.then (wpr r P y Q) Q) a w):wpr r P (.seq x y) Q a w:=wpIn_seq h
theorem akk{c:Operand}{x y:Code}{t:Bool}(hc:a.eval c= .bool t)(ht:t=true→wpr r P x Q a w)(hf:t=false→wpr r P y Q a w):wpr r P (.cond c x y) Q a w:=wpIn_cond_split hc ht hf
theorem avD{id:Nat}{c:Code}(h:wpr r P c (Exit.inBlock id Q) a w):wpr r P (.block id c) Q a w:=wpIn_block h
theorem acZ{b:Frame}{k:List Item}{cs:List Frame}{c:Code}:step P (lone (b.atR a (.code (.scope c)::k)) cs w)= .next (lone (b.atR a (.code c:: .inScope c::k)) cs w):=
 step_lone_go (by simp[stepG,stepG.exec,Frame.atR])
theorem amn{b:Frame}{k:List Item}{cs:List Frame}{c:Code}:step P (lone (b.atR a (.inScope c::k)) cs w)= .next (lone (b.atR a k) cs w):=
 step_lone_go (by simp[stepG,stepG.exec,Frame.atR])
theorem avf{c:Code}(h:wpr r P c (Exit.noGoto Q) a w):wpr r P (.scope c) Q a w:=by
 intro b k cs hro hb hr
 have h0:(lone (b.atR a (.code (.scope c)::k)) cs w).fenced P (FW r):=fenced_calm hb hr rfl
 obtain⟨e,a₁,w₁,hq,harr⟩:=h b (.inScope c::k) cs hro hb hr
 cases e with
 |normal=>exact⟨.normal,a₁,w₁,hq, .head h0 acZ (StepsIn.trans harr (.one (fenced_calm hb hr rfl) amn))⟩
 |exit id=>
  have hx:exitTo id (.inScope c::k)=exitTo id k:=by simp[exitTo]
  exact⟨.exit id,a₁,w₁,hq,fun k' hk=> .head h0 acZ (harr.1 k' (by rw[hx];exact hk)),fun hr' hk=>let⟨k₁,h1,h2⟩:=harr.2 hr' (by rw[hx];exact hk);⟨k₁,h1, .head h0 acZ h2⟩⟩
 |goto l=>exact hq.elim
 |ret=>exact⟨_,a₁,w₁,hq, .of_steps (.one h0 acZ) harr⟩
 |panic ch=>exact⟨_,a₁,w₁,hq, .of_steps (.one h0 acZ) harr⟩
 |outgrown=>exact⟨_,a₁,w₁,hq, .of_steps (.one h0 acZ) harr⟩
theorem amS{id:Nat}{ops:Array Oper}(h:wpListIn (FW r) 0 P ops Q ops.toList a w):wpr r P (.region id ops false) Q a w:=wpIn_region_list h
theorem aAk{f:FuncId}{args:Array Value}{R:Ending→World→Prop}(h:Calls P f args w R):CallsIn (FW r) 0 P f args w R:=by
 have h1:CallsIn Fence.wide 0 P f args w R:=callsIn_wide.2 h
 cases r with
 |none=>exact h1
 |some l=>exact h1
theorem aAV{o:Oper}{K K':Act→World→Prop}(h: ∀Q,o.wp P a w K' Q)(hd: ∀a' w',K' a' w'→a'.defers=a.defers∧K a' w'):o.wpIn (FW r) 0 P a w K Q:=by
 have hs:o.semAt r a.eval=execOp a.eval o:=by
  cases r with
  |none=>rfl
  |some l=>
   refine Oper.semAt_some l a.eval o fun c hc=>?_
   have h1:=h (fun _ _ _=>False)
   unfold Oper.wp at h1
   obtain⟨dst,op,ty,pos,af,gd⟩:=o
   simp only at hc
   subst hc
   unfold execOp at h1
   simp only[Sem.run_bind,Result.andThen] at h1
   split at h1
   ·simp only[Sem.run_pure,Oper.upon] at h1
    have:=(hd _ _ h1).1
    cases dst<;>simp[Act.put] at this
   ·rename_i x w1 hx
    cases x<;>simp only[Oper.upon] at h1
 have h1:=h (fun _ _ _=>False)
 unfold Oper.wp at h1
 refine⟨fun _ _=>trivial,?_⟩
 show o.uponIn (FW r) 0 P a K Q ((o.semAt r a.eval).run P w)
 rw[hs]
 generalize (execOp a.eval o).run P w=x at h1
 cases x with
 |ok nx w'=>
  cases nx with
  |value v=>exact(hd _ _ h1).2
  |skip=>exact(hd _ _ h1).2
  |defer d=>exact(hd _ _ h1).2
  |enter f args=>
   refine⟨fun h=>(by cases h),(aAk (r:=r) h1).mono fun e w'' he=>?_⟩
   cases e with
   |returned v=>exact(hd _ _ he).2
   |panicked ch=>exact he.elim
   |outgrown=>obtain⟨_,_,hq⟩:=he;exact hq.elim
  |row row args=>
   refine⟨fun h=>(by cases h),fun c cs hroom=>?_⟩
   obtain⟨v,w'',hv,hst⟩:=h1 c cs
   exact⟨v,w'',(hd _ _ hv).2,stepsIn_wide.2 hst⟩
  |round=>exact h1.elim
  |_=>exact h1.elim
 |halt y w'=>cases y<;>first|exact h1.elim|exact h1
end
def ayS:List Nat→Nat→Bool
 |[],_=>false
 |x::t,k=>Nat.beq x k||ayS t k
structure Rc where
 rs:List Nat
 d:Option Nat
 f:FX
 rn:List Nat
 bl:List (Nat×Option Bk)
 nw:List Nat
abbrev ST:=LK×BM
def Rc.ap(r:Rc)(s:ST):ST:=(upL s.1 r.d r.f,upB s.2 r.bl)
def sel(p:Nat→Bool):Nat→ST→List Rc→ST
 |_,s,[]=>s
 |k,s,r::t=>sel p (k+1) (if p k then r.ap s else s) t
def rsX{α:Type}(l:List Nat)(g:Nat→Option α):Nat→Option α:=fun k=>bif ayS l k then g k else none
theorem al7{nm:Nat}: ∀{bl:List (Nat×Option Bk)} {s s':BM},((∀e∈bl,e.1≠nm)→s nm=s' nm)→upB s bl nm=upB s' bl nm
 |[],s,s',h=>h (by simp)
 |(k,B)::t,s,s',h=>by
  simp only[upB]
  refine al7 fun ht=>?_
  by_cases e:nm=k
  ·simp[e]
  ·simp only[e,if_false];exact h fun x hx=>(aT.1 hx).elim (fun c=>by rw[c];exact Ne.symm e) (ht x)
theorem ap3{nm:Nat}: ∀{bl:List (Nat×Option Bk)} {s:BM},(∀e∈bl,e.1≠nm)→upB s bl nm=s nm
 |[],s,h=>rfl
 |(k,B)::t,s,h=>by
  simp only[upB]
  rw[ap3 fun e he=>h e (aJ _ he)]
  simp[Ne.symm (h _ aZ)]
theorem avn{x:Nat}{d:Option Nat}{f:FX}{s:LK}(h:d≠some x):upL s d f x=s x:=by
 cases d with
 |none=>rfl
 |some d=>simp only[upL];rw[if_neg fun e=>h (by rw[e])]
theorem ata{x:Nat}{p q:Nat→Bool}: ∀{us:List Rc} {k:Nat} {s s':ST},s.1 x=s'.1 x→(∀j r,us[j]? =some r→r.d=some x→p (k+j)=q (k+j))→(sel p k s us).1 x=(sel q k s' us).1 x
 |[],k,s,s',h,_=>h
 |r::t,k,s,s',h,hp=>by
  simp only[sel]
  refine ata ?_ fun j u hj hd=>by have:=hp (j+1) u (by simpa using hj) hd;rwa [show k+(j+1)=k+1+j by omega] at this
  by_cases hd:r.d=some x
  ·have:=hp 0 r rfl hd
   rw[fQ] at this
   rw[this]
   split
   ·simp only[Rc.ap,upL,hd,if_true]
   ·exact h
  ·have: ∀(b:Bool) (s:ST),(if b then r.ap s else s).1 x=s.1 x:=fun b s=>by cases b<;>simp[Rc.ap,avn hd]
   rw[this,this,h]
theorem arx{nm:Nat}{p q:Nat→Bool}: ∀{us:List Rc} {k:Nat} {s s':ST},s.2 nm=s'.2 nm→(∀j r,us[j]? =some r→(∃e∈r.bl,e.1=nm)→p (k+j)=q (k+j))→(sel p k s us).2 nm=(sel q k s' us).2 nm
 |[],k,s,s',h,_=>h
 |r::t,k,s,s',h,hp=>by
  simp only[sel]
  refine arx ?_ fun j u hj hd=>by have:=hp (j+1) u (by simpa using hj) hd;rwa [show k+(j+1)=k+1+j by omega] at this
  by_cases hd: ∃e∈r.bl,e.1=nm
  ·have:=hp 0 r rfl hd
   rw[fQ] at this
   rw[this]
   split
   ·exact al7 fun _=>h
   ·exact h
  ·have: ∀(b:Bool) (s:ST),(if b then r.ap s else s).2 nm=s.2 nm:=fun b s=>by
    cases b
    ·rfl
    ·exact ap3 fun e he hc=>hd ⟨e,he,hc⟩
   rw[this,this,h]
theorem anL{x:Nat}{f:FX}{p:Nat→Bool}: ∀{us:List Rc} {k:Nat} {s:ST},(sel p k s us).1 x=some f→s.1 x=some f∨ ∃j r,us[j]? =some r∧p (k+j)=true∧r.d=some x∧r.f=f
 |[],k,s,h=> .inl h
 |r::t,k,s,h=>by
  simp only[sel] at h
  rcases anL h with h|⟨j,u,h1,h2,h3⟩
  ·cases hp:p k with
   |false=>rw[hp] at h;exact .inl h
   |true=>
    rw[hp] at h
    simp only[if_true,Rc.ap] at h
    by_cases hd:r.d=some x
    ·rw[hd] at h;simp only[upL,if_true] at h;cases h;exact .inr ⟨0,r,rfl,by simpa using hp,hd,rfl⟩
    ·rw[avn hd] at h;exact .inl h
  ·exact .inr ⟨j+1,u,by simpa using h1,by rw[show k+(j+1)=k+1+j by omega];exact h2,h3⟩
theorem aqD{nm:Nat}{B:Bk}: ∀{bl:List (Nat×Option Bk)} {s:BM},upB s bl nm=some B→s nm=some B∨(nm,some B)∈bl
 |[],s,h=> .inl h
 |(k,B')::t,s,h=>by
  simp only[upB] at h
  rcases aqD h with h|h
  ·by_cases e:nm=k
   ·subst e;simp only[if_true] at h;subst h;exact .inr aZ
   ·simp only[e,if_false] at h;exact .inl h
  ·exact .inr (aJ _ h)
theorem amN{nm:Nat}{B:Bk}{p:Nat→Bool}: ∀{us:List Rc} {k:Nat} {s:ST},(sel p k s us).2 nm=some B→s.2 nm=some B∨ ∃j r,us[j]? =some r∧p (k+j)=true∧(nm,some B)∈r.bl
 |[],k,s,h=> .inl h
 |r::t,k,s,h=>by
  simp only[sel] at h
  rcases amN h with h|⟨j,u,h1,h2,h3⟩
  ·cases hp:p k with
   |false=>rw[hp] at h;exact .inl h
   |true=>
    rw[hp] at h
    rcases aqD h with h|h
    ·exact .inl h
    ·exact .inr ⟨0,r,rfl,by simpa using hp,h⟩
  ·exact .inr ⟨j+1,u,by simpa using h1,by rw[show k+(j+1)=k+1+j by omega];exact h2,h3⟩
def aIy(acc:List Nat)(l:List Edge):Nat:=l.foldl (fun s e=>if Region.binds .any e then(s ||| 2^e.on) ||| acc.getD e.on 0 else s) 0
def aid:List Oper→List Nat→List Nat
 |[],acc=>acc
 |o::r,acc=>aid r (acc++[aIy acc o.after.toList])
inductive Bf (ops:List Oper):Nat→Nat→Prop
 |b {i:Nat} {o:Oper} {e:Edge} (ho:ops[i]? =some o) (he:e∈o.after) (hb:Region.binds .any e=true):Bf ops i e.on
 |s {i j:Nat} {o:Oper} {e:Edge} (ho:ops[i]? =some o) (he:e∈o.after) (hb:Region.binds .any e=true) (h:Bf ops e.on j):Bf ops i j
theorem anJ{acc:List Nat}{j:Nat}: ∀(l:List Edge) (s:Nat),(l.foldl (fun s e=>if Region.binds .any e then(s ||| 2^e.on) ||| acc.getD e.on 0 else s) s).testBit j=true→s.testBit j=true∨ ∃e∈l,Region.binds .any e=true∧(e.on=j∨(acc.getD e.on 0).testBit j=true)
 |[],s,h=> .inl h
 |e::t,s,h=>by
  rw[jT] at h
  rcases anJ t _ h with h|⟨e',h1,h2⟩
  ·split at h
   ·rename_i hb
    simp only[Nat.testBit_or,gN,Nat.testBit_two_pow,decide_eq_true_eq] at h
    rcases h with(h|h)|h
    ·exact .inl h
    ·exact .inr ⟨e,aZ,hb, .inl h⟩
    ·exact .inr ⟨e,aZ,hb, .inr h⟩
   ·exact .inl h
  ·exact .inr ⟨e',aJ _ h1,h2⟩
theorem ahh{all:List Oper}: ∀(r:List Oper) (acc:List Nat) (pre:List Oper),all=pre++r→acc.length=pre.length→(∀i j,(acc.getD i 0).testBit j=true→Bf all i j)→ ∀i j,((aid r acc).getD i 0).testBit j=true→Bf all i j
 |[],acc,pre,_,_,h=>h
 |o::r,acc,pre,he,hl,h=>by
  refine ahh r _ (pre++[o]) (by rw[he];simp) (by simp[hl]) fun i j hij=>?_
  rw[aX,List.getElem?_append] at hij
  split at hij
  ·rename_i hi
   exact h i j (by rw[aX];exact hij)
  ·rename_i hi
   by_cases e:i=acc.length
   ·subst e
    simp only[Nat.sub_self,List.getElem?_cons_zero,lJ] at hij
    have ho:all[acc.length]? =some o:=by rw[he,hl];simp
    rcases anJ _ _ hij with h0|⟨e,h1,h2,h3⟩
    ·simp at h0
    ·rcases h3 with rfl|h3
     ·exact .b ho (by simpa using h1) h2
     ·exact .s ho (by simpa using h1) h2 (h _ _ h3)
   ·rw[dJ (by simp;omega)] at hij
    simp at hij
def aCy:Option Nat→Nat→Bool
 |some x,y=>Nat.beq x y
 |none,_=>false
def hit(a b:Rc):Bool:=(match a.d with|some x=>ayS b.rs x||aCy b.d x|none=>false)||a.bl.any fun e=>ayS b.rn e.1||b.bl.any fun e'=>Nat.beq e'.1 e.1
def azO(nm:Nat)(f:FX):Bool:=aCy f.nm nm
def aFk(nm:Nat):Option Bk→Bool
 |some (.o _ cs _)=>cs.any (azO nm)
 |_=>false
def asd(r:Rc)(nm:Nat):Bool:=azO nm r.f||r.bl.any fun e=>aFk nm e.2
def ayj(m:Nat)(r:Rc):Nat→List Rc→Bool
 |_,[]=>true
 |j,u::t=>(!(hit u r||hit r u||u.nw.any (asd r))||m.testBit j)&&!(r.nw.any (asd u))&&ayj m r (j+1) t
def amO:List Nat→List Rc→List Rc→Bool
 |m::ms,pre,r::t=>ayj m r 0 pre&&amO ms (pre++[r]) t
 |_,_,[]=>true
 |[],_,_::_=>false
def ad7:Nat→List Oper→Bool
 |_,[]=>true
 |i,o::t=>o.after.all (fun e=>!Region.binds .any e||Nat.blt e.on i)&&ad7 (i+1) t
def arc(us:List Rc)(fr:List (Nat×FX))(own:List (Nat×Option Bk)):Bool:=us.all fun r=>r.nw.all fun nm=>fr.all (fun e=>!azO nm e.2)&&own.all fun e=>!aFk nm e.2
theorem aky{m:Nat}{r:Rc}: ∀{l:List Rc} {k:Nat},ayj m r k l=true→ ∀j u,l[j]? =some u→((hit u r=true∨hit r u=true∨ ∃nm∈u.nw,asd r nm=true)→m.testBit (k+j)=true)∧ ∀nm∈r.nw,asd u nm=false
 |[],k,_,j,u,h=>by simp at h
 |x::t,k,h,j,u,hj=>by
  simp only[ayj,bT,gN,gQ] at h
  obtain⟨⟨h1,h2⟩,h3⟩:=h
  cases j with
  |zero=>
   simp at hj;subst hj
   refine⟨fun hh=>?_,fun nm hn=>by have:=List.any_eq_false.1 h2 nm hn;simpa using this⟩
   rcases h1 with h1|h1
   ·simp only[rM] at h1
    rcases hh with hh|hh|⟨nm,hn,hh⟩
    ·rw[h1.1.1] at hh;cases hh
    ·rw[h1.1.2] at hh;cases hh
    ·have:=List.any_eq_false.1 h1.2 nm hn;exact absurd hh this
   ·simpa using h1
  |succ j=>
   have:=aky h3 j u (by simpa using hj)
   rwa [show k+(j+1)=k+1+j by omega]
theorem ak6: ∀{ms:List Nat} {pre t:List Rc},amO ms pre t=true→ ∀i r,t[i]? =some r→ ∀j u,(pre++t)[j]? =some u→j<pre.length+i→((hit u r=true∨hit r u=true∨ ∃nm∈u.nw,asd r nm=true)→(ms.getD i 0).testBit j=true)∧ ∀nm∈r.nw,asd u nm=false
 |[],pre,[],_,i,r,h=>by simp at h
 |_::_,pre,[],_,i,r,h=>by simp at h
 |[],pre,_::_,h,i,r,_=>by simp[amO] at h
 |m::ms,pre,x::t,h,i,r,hi=>by
  simp only[amO,bT] at h
  intro j u hj hlt
  cases i with
  |zero=>
   simp at hi;subst hi
   rw[dR (by omega)] at hj
   simpa using aky h.1 j u hj
  |succ i=>
   have:=ak6 h.2 i r (by simpa using hi) j u (by simpa using hj) (by simp;omega)
   simpa using this
theorem abt: ∀{l:List Oper} {k:Nat},ad7 k l=true→ ∀i o,l[i]? =some o→ ∀e∈o.after,Region.binds .any e=true→e.on<k+i
 |[],k,_,i,o,h=>by simp at h
 |x::t,k,h,i,o,hi=>by
  simp only[ad7,bT] at h
  intro e he hb
  cases i with
  |zero=>
   simp at hi;subst hi
   have:=Array.all_eq_true_iff_forall_mem.1 h.1 e he
   simpa[hb] using this
  |succ i=>have:=abt h.2 i o (by simpa using hi) e he hb;omega
def wO(rd:Option Nat)(P:Program)(ops:Array Oper)(Q:Exit→Act→World→Prop)(o:Oper)(K:Act→World→Prop)(a:Act)(w:World):Prop:=
 if Region.wanted o (yielded ops a.tmps) then o.wpIn (FW rd) 0 P a w K Q else K (a.put o.dst undef) w
section
variable {P:Program} {GB:Gh} {C:Ctx} {n:Nat} {ops:Array Oper} {Q:Exit→Act→World→Prop}
def OpS(P:Program)(GB:Gh)(C:Ctx)(n:Nat)(ops:Array Oper)(lk:LK)(bk:BM)(o:Oper)(f:FX)(bl:List (Nat×Option Bk))(nw:List Nat):Prop:=
 ∀(Q:Exit→Act→World→Prop) (tl:LK) (tb:BM) (K:Act→World→Prop),alF lk tl→alF bk tb→acS nw o.dst tl tb→SX GB C n (upL tl o.dst f) (upB tb bl) K→SX GB C n tl tb (wO C.rd P ops Q o K)
theorem SX.drew{lk:LK}{bk:BM}{Φ:Act→World→Prop}(h:SX GB C n lk bk Φ):SX GB C n lk bk (fun a w=>Φ a {w with drawn:=w.drawn+1}):=
 ⟨fun ρ G ov a w r=>h.run ρ G ov a _ ⟨r.gb,r.h.drew,r.sz,r.df,r.fx,r.bx,r.dj,r.fxd⟩⟩
structure Drawn (P:Program) (GB:Gh) (C:Ctx) (n:Nat) (ops:Array Oper) (us:List Rc) (s0:ST):Prop where
 len:us.length=ops.size
 snd: ∀i r o,us[i]? =some r→ops[i]? =some o→o.dst=r.d∧OpS P GB C n ops (rsX r.rs (sel (fun j=>decide (j<i)) 0 s0 us).1) (rsX r.rn (sel (fun j=>decide (j<i)) 0 s0 us).2) o r.f r.bl r.nw
 all:amO (aid ops.toList []) [] us=true
 edge:ad7 0 ops.toList=true
 fr0: ∀r∈us,∀nm∈r.nw,(∀k f,s0.1 k=some f→f.nm≠some nm)∧ ∀k B,s0.2 k=some B→ ¬B.men nm
theorem ago{o:Option Nat}{k:Nat}:aCy o k=true↔o=some k:=by cases o<;>simp[aCy]
theorem aoG{B:Bk}{nm:Nat}(h:B.men nm):aFk nm (some B)=true:=by
 cases B with
 |o ty cs lo=>obtain⟨f,hf,e⟩:=h;exact jW.2 ⟨f,hf,ago.2 e⟩
 |b=>cases h
 |c=>cases h
def lst(listed:Array Bool):Nat→Bool:=fun j=>listed.getD j false
def un(ops:Array Oper)(listed:Array Bool):Nat:=((List.range ops.size).filter fun j=>!listed.getD j true).length
theorem anv{α:Type}{p q:α→Bool}{x:α}: ∀{l:List α},x∈l→(∀y,q y=true→p y=true)→p x=true→q x=false→(l.filter q).length<(l.filter p).length
 |[],h,_,_,_=>by cases h
 |y::t,h,hpq,h1,h2=>by
  have le: ∀l:List α,(l.filter q).length≤(l.filter p).length:=fun l=>by
   induction l with
   |nil=>exact aM _
   |cons z l ih=>
    simp only[pW]
    cases hq:q z with
    |true=>simp[hpq z hq];omega
    |false=>cases hp:p z<;>simp<;>omega
  rcases aT.1 h with rfl|h
  ·simp only[pW,h1,h2,if_true];have:=le t;simp;omega
  ·have ih:=anv h hpq h1 h2
   simp only[pW]
   cases hq:q y with
   |true=>simp[hpq y hq];omega
   |false=>cases hp:p y<;>simp<;>omega
theorem Drawn.walk{us:List Rc}{s0:ST}(D:Drawn P GB C n ops us s0)(hk:SX GB C n (sel (fun _=>true) 0 s0 us).1 (sel (fun _=>true) 0 s0 us).2 (Q .normal)):
  ∀(fuel:Nat) (listed:Array Bool),listed.size=ops.size→(∀i o,ops[i]? =some o→lst listed i=true→ ∀e∈o.after,Region.binds .any e=true→lst listed e.on=true)→un ops listed≤fuel→
   SX GB C n (sel (lst listed) 0 s0 us).1 (sel (lst listed) 0 s0 us).2 (wpAnyIn (FW C.rd) 0 P .any ops Q fuel listed):=by
 -- what comes before something listed is listed
 have clo: ∀listed:Array Bool,(∀i o,ops[i]? =some o→lst listed i=true→ ∀e∈o.after,Region.binds .any e=true→lst listed e.on=true)→ ∀i j,Bf ops.toList i j→lst listed i=true→lst listed j=true:=by
  intro listed hc i j hb
  induction hb with
  |b ho he hb=>intro hi;exact hc _ _ (by simpa using ho) hi _ he hb
  |s ho he hb _ ih=>intro hi;exact ih (hc _ _ (by simpa using ho) hi _ he hb)
 have bf: ∀i j,((aid ops.toList []).getD i 0).testBit j=true→Bf ops.toList i j:=ahh ops.toList [] [] J J (fun i j h=>by simp at h)
 have spec: ∀i r,us[i]? =some r→ ∀j u,us[j]? =some u→j<i→((hit u r=true∨hit r u=true∨ ∃nm∈u.nw,asd r nm=true)→Bf ops.toList i j)∧ ∀nm∈r.nw,asd u nm=false:=fun i r hi j u hj hlt=>by
  have:=ak6 D.all i r hi j u (by simpa using hj) (by simpa using hlt)
  exact⟨fun h=>bf _ _ (this.1 h),this.2⟩
 have done: ∀listed:Array Bool,listed.size=ops.size→Region.ready .any ops listed=[]→ ∀i,i<ops.size→lst listed i=true:=by
  intro listed hsz hr i
  induction i using Nat.strongRecOn with
  |ind i ih=>
   intro hi
   cases hl:listed.getD i true with
   |true=>unfold lst;simp only[bS] at hl⊢;rw[fN (by omega)] at hl⊢;simpa using hl
   |false=>
    have:i∈Region.ready .any ops listed:=mem_ready.2 ⟨hl,ops[i],fN hi,fun e he hb=>by
     have hlt:=abt D.edge i ops[i] (by simp[hi]) e he hb
     exact ih e.on (by omega) (by omega)⟩
    rw[hr] at this;cases this
 have same: ∀listed:Array Bool,listed.size=ops.size→(∀i,i<ops.size→lst listed i=true)→(sel (lst listed) 0 s0 us).1=(sel (fun _=>true) 0 s0 us).1∧(sel (lst listed) 0 s0 us).2=(sel (fun _=>true) 0 s0 us).2:=by
  intro listed hsz h
  refine⟨funext fun x=>ata rfl fun j r hj _=>?_,funext fun x=>arx rfl fun j r hj _=>?_⟩<;>
  ·rw[eJ];exact h j (by have:=(aS.1 hj).1;rw[D.len] at this;exact this)
 intro fuel
 induction fuel with
 |zero=>
  intro listed hsz hc hu
  have all: ∀i,i<ops.size→lst listed i=true:=fun i hi=>by
   cases hl:listed.getD i true with
   |true=>unfold lst;simp only[bS] at hl⊢;rw[fN (by omega)] at hl⊢;simpa using hl
   |false=>
    have h0:=List.length_eq_zero_iff.1 (Nat.le_zero.1 hu)
    have:=List.filter_eq_nil_iff.1 h0 i (lT.2 hi)
    simp[hl] at this
  obtain⟨e1,e2⟩:=same listed hsz all
  rw[e1,e2]
  refine hk.imp fun a w h=>⟨?_,h⟩
  refine List.eq_nil_iff_forall_not_mem.2 fun i hi=>?_
  obtain⟨h1,o,ho,_⟩:=mem_ready.1 hi
  have hlt:=(fK.1 ho).1
  have h2:=all i hlt
  unfold lst at h2
  simp only[bS] at h1 h2
  rw[fN (by omega)] at h1 h2
  simp at h1 h2
  rw[h1] at h2;cases h2
 |succ fuel ih=>
  intro listed hsz hc hu
  refine⟨fun ρ G ov a w r=>⟨fun hr=>?_,fun i hi=>?_⟩⟩
  ·obtain⟨e1,e2⟩:=same listed hsz (done listed hsz hr)
   rw[e1,e2] at r
   exact hk.run ρ G ov a w r
  ·obtain⟨h1,o,ho,hall⟩:=mem_ready.1 hi
   have hlt:=(fK.1 ho).1
   have hli:lst listed i=false:=by
    unfold lst
    simp only[bS] at h1⊢
    rw[fN (by omega)] at h1⊢
    simpa using h1
   obtain⟨u,hui⟩: ∃u,us[i]? =some u:=⟨us[i]'(by rw[D.len];exact hlt),aQ _⟩
   obtain⟨hd,hop⟩:=D.snd i u o hui ho
   have bl: ∀j,Bf ops.toList i j→lst listed j=true:=fun j hb=>by
    cases hb with
    |b ho' he hb=>rw[oS,ho] at ho';cases ho';exact hall _ he hb
    |s ho' he hb h=>rw[oS,ho] at ho';cases ho';exact clo listed hc _ _ h (hall _ he hb)
   have nb: ∀j r,us[j]? =some r→(hit r u=true∨hit u r=true)→decide (j<i)=lst listed j:=fun j r hj hh=>by
    rcases qS j i with h|h|h
    ·rw[bl j ((spec i u hui j r hj h).1 (hh.imp id .inl))];simpa using h
    ·subst h;rw[hli];simp
    ·cases hl:lst listed j with
     |false=>simp;omega
     |true=>have:=clo listed hc j i ((spec j r hj i u hui h).1 (hh.symm.imp id .inl)) hl;rw[hli] at this;cases this
   have sz':(listed.setIfInBounds i true).size=ops.size:=by simpa using hsz
   have l': ∀j,j≠i→lst (listed.setIfInBounds i true) j=lst listed j:=fun j hj=>by unfold lst;rw[getD_set_ne false (Ne.symm hj)]
   have li':lst (listed.setIfInBounds i true) i=true:=by unfold lst;simp[hsz,hlt]
   have hc': ∀j o',ops[j]? =some o'→lst (listed.setIfInBounds i true) j=true→ ∀e∈o'.after,Region.binds .any e=true→lst (listed.setIfInBounds i true) e.on=true:=fun j o' hj hlj e he hb=>by
    by_cases hji:j=i
    ·subst hji;rw[ho] at hj;cases hj
     exact getD_set_true (hall e he hb)
    ·rw[l' j hji] at hlj
     exact getD_set_true (hc j o' hj hlj e he hb)
   have hu':un ops (listed.setIfInBounds i true)≤fuel:=by
    have:un ops (listed.setIfInBounds i true)<un ops listed:=by
     refine anv (x:=i) (lT.2 hlt) (fun y hy=>?_) (by simp[h1]) (by simp[hsz,hlt])
     by_cases hyi:y=i
     ·subst hyi;simp[hsz,hlt] at hy
     ·rwa [getD_set_ne true (Ne.symm hyi)] at hy
    omega
   have next:=ih _ sz' hc' hu'
   have e1:(sel (lst (listed.setIfInBounds i true)) 0 s0 us).1=upL (sel (lst listed) 0 s0 us).1 o.dst u.f:=by
    funext x
    rw[hd]
    by_cases hx:u.d=some x
    ·-- i is the last to write x
     have key: ∀(us':List Rc) (k:Nat) (s:ST) (p:Nat→Bool) (m:Nat),us'[m]? =some u→p (k+m)=true→(∀j r,us'[j]? =some r→r.d=some x→j≠m→j<m∨p (k+j)=false)→(sel p k s us').1 x=some u.f:=by
      intro us'
      induction us' with
      |nil=>intro k s p m h;simp at h
      |cons r t iht=>
       intro k s p m h hp hj
       simp only[sel]
       cases m with
       |zero=>
        simp at h;subst h
        rw[fQ] at hp
        rw[hp]
        have:(sel p (k+1) (r.ap s) t).1 x=(sel (fun _=>false) (k+1) (r.ap s) t).1 x:=ata rfl fun j r' hj' hd'=>by
         have:=hj (j+1) r' (by simpa using hj') hd' (by omega)
         rw[show k+(j+1)=k+1+j by omega] at this
         exact this.resolve_left (by omega)
        simp only[if_true,this]
        have nosel: ∀(l:List Rc) (k:Nat) (s:ST),sel (fun _=>false) k s l=s:=fun l=>by
         induction l with
         |nil=>intro k s;rfl
         |cons y l ih=>intro k s;exact ih _ _
        rw[nosel]
        simp[Rc.ap,upL,hx]
       |succ m=>
        refine iht _ _ p m (by simpa using h) (by rw[show k+1+m=k+(m+1) by omega];exact hp) fun j r' hj' hd' hne=>?_
        have:=hj (j+1) r' (by simpa using hj') hd' (by omega)
        rw[show k+1+j=k+(j+1) by omega]
        exact this.imp (fun h=>by omega) id
     rw[key us 0 s0 _ i hui (by rw[eJ];exact li') fun j r hj hdr hne=>?_]
     ·rw[hx];simp[upL]
     ·rw[eJ,l' j hne]
      have:=nb j r hj (.inl (by simp[hit,hdr,hx,aCy]))
      rw[←this]
      by_cases hji:j<i
      ·exact .inl hji
      ·exact .inr (by simpa using hji)
    ·rw[avn hx]
     refine ata rfl fun j r hj hdr=>?_
     rw[eJ]
     exact l' j fun e=>by subst e;rw[hui] at hj;cases hj;exact hx hdr
   have e2:(sel (lst (listed.setIfInBounds i true)) 0 s0 us).2=upB (sel (lst listed) 0 s0 us).2 u.bl:=by
    funext x
    by_cases hx: ∃e∈u.bl,e.1=x
    ·have key: ∀(us':List Rc) (k:Nat) (s s':ST) (p q:Nat→Bool) (m:Nat),us'[m]? =some u→p (k+m)=true→(∀j r,us'[j]? =some r→(∃e∈r.bl,e.1=x)→j≠m→q (k+j)=p (k+j)∧(j<m∨p (k+j)=false))→q (k+m)=false→s.2 x=s'.2 x→(sel p k s us').2 x=upB (sel q k s' us').2 u.bl x:=by
      intro us'
      induction us' with
      |nil=>intro k s s' p q m h;simp at h
      |cons r t iht=>
       intro k s s' p q m h hp hj hq hs
       simp only[sel]
       cases m with
       |zero=>
        simp at h;subst h
        rw[fQ] at hp hq
        rw[hp,hq]
        have nosel: ∀(l:List Rc) (k:Nat) (s:ST),sel (fun _=>false) k s l=s:=fun l=>by
         induction l with
         |nil=>intro k s;rfl
         |cons y l ih=>intro k s;exact ih _ _
        have a1:(sel p (k+1) (r.ap s) t).2 x=(sel (fun _=>false) (k+1) (r.ap s) t).2 x:=arx rfl fun j r' hj' hd'=>by
         have:=(hj (j+1) r' (by simpa using hj') hd' (by omega)).2
         rw[show k+(j+1)=k+1+j by omega] at this
         exact this.resolve_left (by omega)
        have a2:(sel q (k+1) s' t).2 x=(sel (fun _=>false) (k+1) s' t).2 x:=arx rfl fun j r' hj' hd'=>by
         obtain⟨h3,h4⟩:=hj (j+1) r' (by simpa using hj') hd' (by omega)
         rw[show k+(j+1)=k+1+j by omega] at h3 h4
         rw[h3];exact h4.resolve_left (by omega)
        simp only[if_true,jV,if_false,a1,nosel]
        exact al7 fun _=>by rw[a2,nosel];exact hs
       |succ m=>
        refine iht _ _ _ p q m (by simpa using h) (by rw[show k+1+m=k+(m+1) by omega];exact hp) (fun j r' hj' hd' hne=>?_) (by rw[show k+1+m=k+(m+1) by omega];exact hq) ?_
        ·obtain⟨h3,h4⟩:=hj (j+1) r' (by simpa using hj') hd' (by omega)
         rw[show k+1+j=k+(j+1) by omega]
         exact⟨h3,h4.imp (fun h=>by omega) id⟩
        ·by_cases hr: ∃e∈r.bl,e.1=x
         ·have:=(hj 0 r rfl hr (by omega)).1
          rw[fQ] at this
          rw[this]
          cases p k
          ·exact hs
          ·exact al7 fun _=>hs
         ·have: ∀(b:Bool) (s:ST),(if b then r.ap s else s).2 x=s.2 x:=fun b s=>by
           cases b
           ·rfl
           ·exact ap3 fun e he hc=>hr ⟨e,he,hc⟩
          rw[this,this];exact hs
     refine key us 0 s0 s0 _ _ i hui (by rw[eJ];exact li') (fun j r hj hdr hne=>?_) (by rw[eJ];exact hli) rfl
     rw[eJ]
     refine⟨(l' j hne).symm,?_⟩
     rw[l' j hne]
     obtain⟨e,he,rfl⟩:=hx
     obtain⟨e',he',hee⟩:=hdr
     have hh:hit u r=true:=by
      unfold hit
      rw[gN]
      exact .inr (jW.2 ⟨e,he,by rw[gN];exact .inr (jW.2 ⟨e',he',by simpa using hee⟩)⟩)
     rw[←nb j r hj (.inr hh)]
     by_cases hji:j<i
     ·exact .inl hji
     ·exact .inr (by simpa using hji)
    ·rw[ap3 fun e he hc=>hx ⟨e,he,hc⟩]
     refine arx rfl fun j r hj hdr=>?_
     rw[eJ]
     exact l' j fun e=>by subst e;rw[hui] at hj;cases hj;exact hx hdr
   rw[e1,e2] at next
   have sub1:alF (rsX u.rs (sel (fun j=>decide (j<i)) 0 s0 us).1) (sel (lst listed) 0 s0 us).1:=fun x f hx=>by
    unfold rsX at hx
    cases hm:ayS u.rs x with
    |false=>rw[hm] at hx;cases hx
    |true=>
     rw[hm,cond_true] at hx
     rw[←hx]
     refine(ata rfl fun j r hj hdr=>?_).symm
     rw[eJ]
     exact nb j r hj (.inl (by simp[hit,hdr,hm]))
   have sub2:alF (rsX u.rn (sel (fun j=>decide (j<i)) 0 s0 us).2) (sel (lst listed) 0 s0 us).2:=fun x B hx=>by
    unfold rsX at hx
    cases hm:ayS u.rn x with
    |false=>rw[hm] at hx;cases hx
    |true=>
     rw[hm,cond_true] at hx
     rw[←hx]
     refine(arx rfl fun j r hj hdr=>?_).symm
     rw[eJ]
     obtain⟨e,he,rfl⟩:=hdr
     refine nb j r hj (.inl ?_)
     unfold hit
     rw[gN]
     exact .inr (jW.2 ⟨e,he,by rw[hm];rfl⟩)
   have fr:acS u.nw o.dst (sel (lst listed) 0 s0 us).1 (sel (lst listed) 0 s0 us).2:=fun nm hnm=>by
    obtain⟨g1,g2⟩:=D.fr0 u (aU hui) nm hnm
    have men: ∀j r,us[j]? =some r→lst listed j=true→asd r nm=false:=fun j r hj hlj=>by
     rcases qS j i with h|h|h
     ·exact(spec i u hui j r hj h).2 nm hnm
     ·subst h;rw[hli] at hlj;cases hlj
     ·cases hm:asd r nm with
      |false=>rfl
      |true=>have:=clo listed hc j i ((spec j r hj i u hui h).1 (.inr (.inr ⟨nm,hnm,hm⟩))) hlj;rw[hli] at this;cases this
    refine⟨fun k f hk e=>?_,fun k B hk e hm=>?_⟩
    ·intro hc'
     rcases anL e with h|⟨j,r,h1,h2,h3,h4⟩
     ·exact g1 k f h hc'
     ·have:=men j r h1 (by simpa using h2)
      simp only[asd,rM,azO] at this
      rw[h4,ago.2 hc'] at this
      cases this.1
    ·rcases amN e with h|⟨j,r,h1,h2,h3⟩
     ·exact g2 k B h hm
     ·have:=men j r h1 (by simpa using h2)
      simp only[asd,rM] at this
      have:=List.any_eq_false.1 this.2 _ h3
      exact this (aoG hm)
   have fin:=hop Q _ _ _ sub1 sub2 fr next
   have:=fin.run ρ G ov a w r
   unfold wO at this
   unfold wpOpIn
   rw[ho]
   simp only
   split
   ·rename_i hw;rw[if_pos hw] at this;exact this
   ·rename_i hw;rw[if_neg hw] at this;exact⟨fun _ _=>trivial,this⟩
theorem aFA(m k:Nat):lst (Array.replicate m false) k=false:=by unfold lst;simp[pL];split<;>rfl
theorem Drawn.region{us:List Rc}{s0:ST}{id:Nat}(D:Drawn P GB C n ops us s0)(hm:P.follows .mixedOrders=true)(hk:SX GB C n (sel (fun _=>true) 0 s0 us).1 (sel (fun _=>true) 0 s0 us).2 (Q .normal)):SX GB C n s0.1 s0.2 (wpr C.rd P (.region id ops true) Q):=by
 have h:=D.walk hk ops.size (Array.replicate ops.size false) (by simp) (fun i o _ hi=>by rw[aFA] at hi;cases hi) (by unfold un;exact cW (kZ _ _) (by simp))
 have e:sel (lst (Array.replicate ops.size false)) 0 s0 us=s0:=by
  have: ∀(l:List Rc) (k:Nat) (s:ST),sel (lst (Array.replicate ops.size false)) k s l=s:=fun l=>by
   induction l with
   |nil=>intro k s;rfl
   |cons y l ih=>
    intro k s
    simp only[sel]
    rw[ih]
    rw[aFA];rfl
  exact this us 0 s0
 rw[e] at h
 exact h.drew.imp fun a w k=>wpIn_region_any hm k
end
abbrev FrX:=List (Nat×FX)
abbrev OwX:=List (Nat×Option Bk)
def aao:FrX→Nat→Option FX
 |[],_=>none
 |(k,v)::t,j=>bif Nat.beq k j then some v else aao t j
def aap:OwX→Nat→Option Bk
 |[],_=>none
 |(k,v)::t,j=>bif Nat.beq k j then v else aap t j
def axv{α:Type}:OwX→Nat→Option Bk→(OwX→α)→α
 |[],nm,B,k=>k [(nm,B)]
 |(j,v)::t,nm,B,k=>bif Nat.beq j nm then k ((nm,B)::t) else axv t nm B fun t'=>k ((j,v)::t')
def akh{α:Type}:OwX→List (Nat×Option Bk)→(OwX→α)→α
 |own,[],k=>k own
 |own,(nm,B)::t,k=>axv own nm B fun own'=>akh own' t k
def al8(own:OwX)(nm:Nat)(B:Option Bk):OwX:=axv own nm B id
def amV(own:OwX)(l:List (Nat×Option Bk)):OwX:=akh own l id
theorem afs{α:Type}{nm:Nat}{B:Option Bk}: ∀{own:OwX} {k:OwX→α},axv own nm B k=k (al8 own nm B)
 |[],k=>rfl
 |(j,v)::t,k=>by
  unfold al8 axv
  cases Nat.beq j nm with
  |true=>rfl
  |false=>rw[cond_false,cond_false,afs (own:=t),afs (own:=t)];rfl
theorem aeD{α:Type}: ∀{l:List (Nat×Option Bk)} {own:OwX} {k:OwX→α},akh own l k=k (amV own l)
 |[],own,k=>rfl
 |(nm,B)::t,own,k=>by
  unfold amV akh
  rw[afs,afs,aeD (l:=t),aeD (l:=t)]
  rfl
theorem aaI(k:Nat)(v:FX)(t:FrX)(j:Nat):aao ((k,v)::t) j=if j=k then some v else aao t j:=by
 simp only[aao]
 by_cases h:k=j
 ·simp[h]
 ·have:Nat.beq k j=false:=by
   cases hb:Nat.beq k j with
   |false=>rfl
   |true=>exact absurd (aL hb) h
  simp[this,Ne.symm h]
theorem aaE(k:Nat)(v:Option Bk)(t:OwX)(j:Nat):aap ((k,v)::t) j=if j=k then v else aap t j:=by
 simp only[aap]
 by_cases h:k=j
 ·simp[h]
 ·have:Nat.beq k j=false:=by
   cases hb:Nat.beq k j with
   |false=>rfl
   |true=>exact absurd (aL hb) h
  simp[this,Ne.symm h]
theorem acB{nm:Nat}{B:Option Bk}(j:Nat): ∀own:OwX,aap (al8 own nm B) j=if j=nm then B else aap own j
 |[]=>aaE nm B [] j
 |(k,v)::t=>by
  have ih:=acB (nm:=nm) (B:=B) j t
  unfold al8 axv
  cases hb:Nat.beq k nm with
  |true=>
   have e:=aL hb;subst e
   rw[cond_true,id,aaE,aaE]
   by_cases h:j=k<;>simp[h]
  |false=>
   have hne:k≠nm:=fun e=>by subst e;simp at hb
   rw[cond_false,afs,id,aaE,aaE,ih]
   by_cases h:j=k
   ·subst h;simp[hne]
   ·simp[h]
theorem afM: ∀(l:List (Nat×Option Bk)) (own:OwX),aap (amV own l)=upB (aap own) l
 |[],own=>rfl
 |(nm,B)::t,own=>by
  have:amV own ((nm,B)::t)=amV (al8 own nm B) t:=by rw[amV,akh,afs];rfl
  rw[this,afM t]
  simp only[upB]
  congr 1
  funext j
  exact acB j own
def aFs(fr:FrX)(dst:Option Nat)(f:FX):FrX:=match dst with
 |some d=>(d,f)::fr
 |none=>fr
theorem ajG{fr:FrX}{dst:Option Nat}{f:FX}:aao (aFs fr dst f)=upL (aao fr) dst f:=by
 cases dst with
 |none=>rfl
 |some d=>funext j;exact aaI d f fr j
def ark(T:TT)(n:Nat)(ops:Array Oper)(lk:LK)(bk:BM):Oper→Option CR
 |⟨dst,op,_,_,_,gd⟩=>bif aaM n dst then(match gd with
  |none=>aCw T lk bk dst op
  |some (j,b)=>match ops[j]? with
   |some oj=>match oj.dst with
    |some d=>match lk d with
     |some .tt=>bif b then aCw T lk bk dst op else some ⟨none, .un,[],[]⟩
     |some .ff=>bif b then some ⟨none, .un,[],[]⟩ else aCw T lk bk dst op
     |some .un=>some ⟨none, .un,[],[]⟩
     |_=>none
    |none=>none
   |none=>none) else none
section
variable {P:Program} {T:TT} {GB:Gh} {C:Ctx} {n:Nat} {lk:LK} {bk:BM} {ops:Array Oper}
theorem OpR.toS{dst:Option Nat}{op:Op}{ty:TypeId}{pos:String}{af:Array Edge}{gd:Option (Nat×Bool)}{f:FX}{bl:List (Nat×Option Bk)}{nw:List Nat}(h:OpR P GB C n lk bk ⟨dst,op,ty,pos,af,gd⟩ f bl nw)(hd:aaM n dst=true)
  (hw: ∀ρ G ov a w,RlX GB C n lk bk ρ G ov a w→Region.wanted ⟨dst,op,ty,pos,af,gd⟩ (yielded ops a.tmps)=true):OpS P GB C n ops lk bk ⟨dst,op,ty,pos,af,gd⟩ f bl nw:=by
 intro Q tl tb K s1 s2 hf hk
 have:=h hd tl tb (fun a w=>a.defers=C.mks∧K a w) s1 s2 hf ⟨fun ρ G ov a w r=>⟨r.df,hk.run ρ G ov a w r⟩⟩
 refine⟨fun ρ G ov a w r=>?_⟩
 unfold wO
 rw[if_pos (hw ρ G ov a w (r.mono s1 s2))]
 exact aAV (this.run ρ G ov a w r) fun a' w' k=>⟨k.1.trans r.df.symm,k.2⟩
theorem OpS.skip{dst:Option Nat}{op:Op}{ty:TypeId}{pos:String}{af:Array Edge}{gd:Option (Nat×Bool)}(hd:aaM n dst=true)
  (hw: ∀ρ G ov a w,RlX GB C n lk bk ρ G ov a w→Region.wanted ⟨dst,op,ty,pos,af,gd⟩ (yielded ops a.tmps)=false):OpS P GB C n ops lk bk ⟨dst,op,ty,pos,af,gd⟩ .un [] []:=by
 intro Q tl tb K s1 s2 hf hk
 refine⟨fun ρ G ov a w r=>?_⟩
 unfold wO
 rw[hw ρ G ov a w (r.mono s1 s2)]
 exact hk.run ρ G ov _ w (r.put rfl (r.putA undef hd))
theorem afn{ρ:NE}{G:Gh}{ov:List Own}{a:Act}{w:World}(r:RlX GB C n lk bk ρ G ov a w){j d:Nat}{oj:Oper}{f:FX}(hj:ops[j]? =some oj)(hd:oj.dst=some d)(hf:lk d=some f): ∃y,IsX ρ G f y∧yielded ops a.tmps j=match y with| .bool b=>some b|_=>none:=by
 obtain⟨y,h1,h2⟩:=r.fx d f hf
 refine⟨y,h2,?_⟩
 unfold yielded
 rw[hj]
 simp only[Option.bind_some,hd,h1]
 cases y<;>rfl
theorem apo{o:Oper}{r:CR}(hT:TOK P T)(h:ark T n ops lk bk o=some r)(hv: ∀p,r.vc=some p→p):OpS P GB C n ops lk bk o r.f r.bl r.nw∧aaM n o.dst=true:=by
 obtain⟨dst,op,ty,pos,af,gd⟩:=o
 simp only[ark] at h
 cases hd:aaM n dst with
 |false=>rw[hd] at h;cases h
 |true=>
  rw[hd,cond_true] at h
  refine⟨?_,rfl⟩
  split at h
  ·exact(ahH hT h hv).toS hd fun _ _ _ _ _ _=>rfl
  ·rename_i j b
   split at h<;>try (cases h;done)
   rename_i oj hj
   split at h<;>try (cases h;done)
   rename_i d hdj
   split at h<;>try (cases h;done)
   ·rename_i hl
    have wt: ∀ρ G ov (a:Act) w,RlX GB C n lk bk ρ G ov a w→Region.wanted ⟨dst,op,ty,pos,af,some (j,b)⟩ (yielded ops a.tmps)=b:=fun ρ G ov a w r=>by
     obtain⟨y,h1,h2⟩:=afn r hj hdj hl
     cases h1
     simp only[Region.wanted,h2];cases b<;>rfl
    cases b with
    |true=>exact(ahH hT h hv).toS hd wt
    |false=>cases h;exact .skip hd wt
   ·rename_i hl
    have wt: ∀ρ G ov (a:Act) w,RlX GB C n lk bk ρ G ov a w→Region.wanted ⟨dst,op,ty,pos,af,some (j,b)⟩ (yielded ops a.tmps)=!b:=fun ρ G ov a w r=>by
     obtain⟨y,h1,h2⟩:=afn r hj hdj hl
     cases h1
     simp only[Region.wanted,h2];cases b<;>rfl
    cases b with
    |true=>cases h;exact .skip hd wt
    |false=>exact(ahH hT h hv).toS hd wt
   ·rename_i hl
    cases h
    refine .skip hd fun ρ G ov a w r=>?_
    obtain⟨y,h1,h2⟩:=afn r hj hdj hl
    cases h1
    simp only[Region.wanted,h2];rfl
end
inductive Kt where
 |sq (c:Code)
 |bl (id:Nat)
 |sc
 |ag (A:Act→World→Prop)
def cQ(rd:Option Nat)(P:Program)(Q0:Exit→Act→World→Prop):List Kt→Exit→Act→World→Prop
 |[]=>Q0
 | .sq y::K=>Exit.then (wpr rd P y (cQ rd P Q0 K)) (cQ rd P Q0 K)
 | .bl id::K=>Exit.inBlock id (cQ rd P Q0 K)
 | .sc::K=>Exit.noGoto (cQ rd P Q0 K)
 | .ag A::K=>Exit.then A (cQ rd P Q0 K)
inductive Cf where
 |code (c:Code) (K:List Kt)
 |ops (ops:Array Oper) (r:List Oper) (K:List Kt)
 |dr (id:Nat) (ops:Array Oper) (fr0:FrX) (own0:OwX) (us:List Rc) (r:List Oper) (K:List Kt)
 |ex (e:Exit) (K:List Kt)
structure DrI (P:Program) (GB:Gh) (C:Ctx) (n:Nat) (ops:Array Oper) (fr0:FrX) (own0:OwX) (us:List Rc) (r:List Oper) (fr:FrX) (own:OwX):Prop where
 pre: ∃pre,ops.toList=pre++r∧pre.length=us.length
 st:sel (fun _=>true) 0 (aao fr0,aap own0) us=(aao fr,aap own)
 snd: ∀i u o,us[i]? =some u→ops[i]? =some o→o.dst=u.d∧OpS P GB C n ops (rsX u.rs (sel (fun j=>decide (j<i)) 0 (aao fr0,aap own0) us).1) (rsX u.rn (sel (fun j=>decide (j<i)) 0 (aao fr0,aap own0) us).2) o u.f u.bl u.nw
def CfS(P:Program)(GB:Gh)(C:Ctx)(n:Nat)(Q0:Exit→Act→World→Prop)(fr:FrX)(own:OwX):Cf→Prop
 | .code c K=>SX GB C n (aao fr) (aap own) (wpr C.rd P c (cQ C.rd P Q0 K))
 | .ops ops r K=>SX GB C n (aao fr) (aap own) (wpListIn (FW C.rd) 0 P ops (cQ C.rd P Q0 K) r)
 | .dr id ops fr0 own0 us r K=>DrI P GB C n ops fr0 own0 us r fr own→SX GB C n (aao fr0) (aap own0) (wpr C.rd P (.region id ops true) (cQ C.rd P Q0 K))
 | .ex e K=>SX GB C n (aao fr) (aap own) (cQ C.rd P Q0 K e)
structure Res where
 vc:List Prop
 fr:FrX
 own:OwX
 cf:Cf
def acc(v:Option Prop)(l:List Prop):List Prop:=match v with
 |some p=>p::l
 |none=>l
def aF9{α:Type}(v:Option Prop)(l:List Prop)(k:List Prop→α):α:=match v with
 |some p=>k (p::l)
 |none=>k l
theorem avz{α:Type}{v:Option Prop}{l:List Prop}{k:List Prop→α}:aF9 v l k=k (acc v l):=by cases v<;>rfl
def aCA{α:Type}(fr:FrX)(dst:Option Nat)(f:FX)(k:FrX→α):α:=match dst with
 |some d=>k ((d,f)::fr)
 |none=>k fr
theorem aji{α:Type}{fr:FrX}{dst:Option Nat}{f:FX}{k:FrX→α}:aCA fr dst f k=k (aFs fr dst f):=by cases dst<;>rfl
def aia(nw:List Nat)(dst:Option Nat)(fr:FrX)(own:OwX):Bool:=nw.all fun nm=>fr.all (fun e=>aCy dst e.1||!azO nm e.2)&&own.all fun e=>Nat.beq e.1 nm||!aFk nm e.2
def akE:List Operand→List Nat
 |[]=>[]
 | .tmp t::r=>t::akE r
 |_::r=>akE r
def alk(fr:FrX):List Nat→List Nat
 |[]=>[]
 |t::r=>match aao fr t with
  |some f=>match f.nm with
   |some nm=>nm::alk fr r
   |none=>alk fr r
  |none=>alk fr r
def aqr(o:Oper)(fr:FrX)(rs:List Nat):List Nat:=match o.op with
 | .move _=>[]
 |_=>alk fr rs
def ajD(ops:Array Oper)(o:Oper):List Nat:=match o.guard with
 |some (j,_)=>match ops[j]? with
  |some oj=>match oj.dst with
   |some d=>d::akE o.op.operands.toList
   |none=>akE o.op.operands.toList
  |none=>akE o.op.operands.toList
 |none=>akE o.op.operands.toList
def go(T:TT)(n:Nat):Nat→List Prop→FrX→OwX→Cf→Res
 |0,l,fr,own,cf=>⟨l,fr,own,cf⟩
 |k+1,l,fr,own, .code c K=>match c with
  | .seq x y=>go T n k l fr own (.code x (.sq y::K))
  | .region id ops d=>bif d then go T n k l fr own (.dr id ops fr own [] ops.toList K) else go T n k l fr own (.ops ops ops.toList K)
  | .skip=>go T n k l fr own (.ex .normal K)
  | .ret=>go T n k l fr own (.ex .ret K)
  | .exit id=>go T n k l fr own (.ex (.exit id) K)
  | .block id c=>go T n k l fr own (.code c (.bl id::K))
  | .scope c=>go T n k l fr own (.code c (.sc::K))
  | .label _=>go T n k l fr own (.ex .normal K)
  | .cond c x y=>match evX (aao fr) c with
   |some .tt=>go T n k l fr own (.code x K)
   |some .ff=>go T n k l fr own (.code y K)
   |_=>⟨l,fr,own, .code (.cond c x y) K⟩
  |c=>⟨l,fr,own, .code c K⟩
 |k+1,l,fr,own, .ex e K=>match K with
  | .sq y::K'=>match e with
   | .normal=>go T n k l fr own (.code y K')
   |e=>go T n k l fr own (.ex e K')
  | .bl id::K'=>match e with
   | .exit j=>bif Nat.beq j id then go T n k l fr own (.ex .normal K') else go T n k l fr own (.ex (.exit j) K')
   |e=>go T n k l fr own (.ex e K')
  | .sc::K'=>bif asm e then go T n k l fr own (.ex e K') else⟨l,fr,own, .ex e (.sc::K')⟩
  | .ag A::K'=>match e with
   | .normal=>⟨l,fr,own, .ex .normal (.ag A::K')⟩
   |e=>go T n k l fr own (.ex e K')
  |[]=>⟨l,fr,own, .ex e []⟩
 |k+1,l,fr,own, .ops ops r K=>match r with
  |[]=>go T n k l fr own (.ex .normal K)
  |o::r'=>match ark T n ops (aao fr) (aap own) o with
   |some ⟨v,f,bl,nw⟩=>bif aia nw o.dst fr own then akh own bl fun own'=>aF9 v l fun l'=>aCA fr o.dst f fun fr'=>go T n k l' fr' own' (.ops ops r' K) else⟨l,fr,own, .ops ops (o::r') K⟩
   |none=>⟨l,fr,own, .ops ops (o::r') K⟩
 |k+1,l,fr,own, .dr id ops fr0 own0 us r K=>match r with
  |[]=>go T n k (((amO (aid ops.toList []) [] us&&ad7 0 ops.toList&&arc us fr0 own0)=true)::l) fr own (.ex .normal K)
  |o::r'=>fcL (ajD ops o) fun rs=>fcL (aqr o fr rs) fun rn=>match ark T n ops (rsX rs (aao fr)) (rsX rn (aap own)) o with
   |some ⟨v,f,bl,nw⟩=>akh own bl fun own'=>fcL (us++[⟨rs,o.dst,f,rn,bl,nw⟩]) fun us'=>aF9 v l fun l'=>aCA fr o.dst f fun fr'=>go T n k l' fr' own' (.dr id ops fr0 own0 us' r' K)
   |none=>⟨l,fr,own, .dr id ops fr0 own0 us (o::r') K⟩
def aah:List Prop→Prop
 |[]=>True
 |[p]=>p
 |p::t=>aah t∧p
theorem amF{p:Prop}{t:List Prop}:aah (p::t)↔aah t∧p:=by cases t<;>simp[aah]
theorem aqK{v:Option Prop}{l:List Prop}(h:aah (acc v l)):aah l∧ ∀p,v=some p→p:=by
 cases v with
 |none=>exact⟨h,fun p e=>by cases e⟩
 |some q=>obtain⟨h1,h2⟩:=amF.1 h;exact⟨h1,fun p e=>by cases e;exact h2⟩
theorem aiS{f:FX}{k:Nat}: ∀{fr:FrX},aao fr k=some f→(k,f)∈fr
 |[],h=>by cases h
 |(j,g)::t,h=>by
  rw[aaI] at h
  split at h
  ·cases h;rename_i e;rw[e];exact aZ
  ·exact aJ _ (aiS h)
theorem ajJ{B:Bk}{k:Nat}: ∀{own:OwX},aap own k=some B→(k,some B)∈own
 |[],h=>by cases h
 |(j,g)::t,h=>by
  rw[aaE] at h
  split at h
  ·rename_i e;rw[e,h];exact aZ
  ·exact aJ _ (ajJ h)
theorem afr{nw:List Nat}{dst:Option Nat}{fr:FrX}{own:OwX}(h:aia nw dst fr own=true):acS nw dst (aao fr) (aap own):=fun nm hnm=>by
 have:=dZ.1 h nm hnm
 simp only[bT] at this
 refine⟨fun k f hk e hc=>?_,fun k B hk e hm=>?_⟩
 ·have:=dZ.1 this.1 _ (aiS e)
  simp only[gN,gQ,azO] at this
  rcases this with h|h
  ·exact hk (ago.1 h).symm
  ·rw[ago.2 hc] at h;cases h
 ·have:=dZ.1 this.2 _ (ajJ e)
  simp only[gN,gQ] at this
  rcases this with h|h
  ·exact hk (aL h)
  ·rw[aoG hm] at h;cases h
theorem an3{us:List Rc}{fr:FrX}{own:OwX}(h:arc us fr own=true): ∀r∈us,∀nm∈r.nw,(∀k f,aao fr k=some f→f.nm≠some nm)∧ ∀k B,aap own k=some B→ ¬B.men nm:=fun r hr nm hnm=>by
 have:=dZ.1 (dZ.1 h r hr) nm hnm
 simp only[bT] at this
 refine⟨fun k f e hc=>?_,fun k B e hm=>?_⟩
 ·have:=dZ.1 this.1 _ (aiS e)
  simp only[gQ,azO] at this
  rw[ago.2 hc] at this;cases this
 ·have:=dZ.1 this.2 _ (ajJ e)
  simp only[gQ] at this
  rw[aoG hm] at this;cases this
section
variable {P:Program} {T:TT} {GB:Gh} {C:Ctx} {n:Nat} {Q0:Exit→Act→World→Prop} {fr fr0:FrX} {own own0:OwX} {ops:Array Oper} {us:List Rc} {r:List Oper} {o:Oper} {K:List Kt}
theorem alT{p q:Nat→Bool}{u:Rc}: ∀{us:List Rc} {k:Nat} {s:ST},(∀j,j<us.length→p (k+j)=q (k+j))→sel p k s (us++[u])=if p (k+us.length) then u.ap (sel q k s us) else sel q k s us
 |[],k,s,h=>rfl
 |x::t,k,s,h=>by
  simp only[jX,sel]
  rw[alT (q:=q) fun j hj=>by have:=h (j+1) (by simp;omega);rwa [show k+(j+1)=k+1+j by omega] at this]
  have h0:=h 0 (by simp)
  rw[fQ] at h0
  rw[h0,bW,show k+1+t.length=k+(t.length+1) by omega]
theorem DrI.push(D:DrI P GB C n ops fr0 own0 us (o::r) fr own){rs rn nw:List Nat}{f:FX}{bl:List (Nat×Option Bk)}(h:OpS P GB C n ops (rsX rs (aao fr)) (rsX rn (aap own)) o f bl nw):DrI P GB C n ops fr0 own0 (us++[⟨rs,o.dst,f,rn,bl,nw⟩]) r (aFs fr o.dst f) (amV own bl):=by
 obtain⟨pre,hp,hl⟩:=D.pre
 refine⟨⟨pre++[o],by rw[hp];simp,by simp[hl]⟩,?_,fun i u o' hu ho=>?_⟩
 ·rw[alT (q:=fun _=>true) fun _ _=>rfl,if_pos rfl,D.st]
  simp only[Rc.ap]
  rw[ajG,afM]
 ·rw[List.getElem?_append] at hu
  split at hu
  ·rename_i hi
   obtain⟨h1,h2⟩:=D.snd i u o' hu ho
   rw[alT (q:=fun j=>decide (j<i)) fun _ _=>rfl,if_neg (by simp;omega)]
   exact⟨h1,h2⟩
  ·rename_i hi
   by_cases e:i=us.length
   ·subst e
    simp at hu;subst hu
    have ho':ops[us.length]? =some o:=by
     have:ops.toList[us.length]? =some o:=by rw[hp,←hl];simp
     simpa using this
    rw[ho'] at ho;cases ho
    refine⟨rfl,?_⟩
    rw[alT (q:=fun _=>true) fun j hj=>by simpa using hj,if_neg (by simp),D.st]
    exact h
   ·rw[dJ (by simp;omega)] at hu;cases hu
theorem DrI.done(D:DrI P GB C n ops fr0 own0 us [] fr own){id:Nat}(hm:P.follows .mixedOrders=true)(h:(amO (aid ops.toList []) [] us&&ad7 0 ops.toList&&arc us fr0 own0)=true)(hk:SX GB C n (aao fr) (aap own) (cQ C.rd P Q0 K .normal)):
  SX GB C n (aao fr0) (aap own0) (wpr C.rd P (.region id ops true) (cQ C.rd P Q0 K)):=by
 obtain⟨pre,hp,hl⟩:=D.pre
 simp only[bT] at h
 have D':Drawn P GB C n ops us (aao fr0,aap own0):=⟨by rw[←hl,←jM,hp];simp,D.snd,h.1.1,h.1.2,an3 h.2⟩
 exact D'.region hm (by rw[D.st];exact hk)
theorem SX.op{Q:Exit→Act→World→Prop}{f:FX}{bl:List (Nat×Option Bk)}{nw:List Nat}(h:OpS P GB C n ops (aao fr) (aap own) o f bl nw)(hf:acS nw o.dst (aao fr) (aap own))(hk:SX GB C n (aao (aFs fr o.dst f)) (aap (amV own bl)) (wpListIn (FW C.rd) 0 P ops Q r)):SX GB C n (aao fr) (aap own) (wpListIn (FW C.rd) 0 P ops Q (o::r)):=by
 rw[ajG,afM] at hk
 refine(h Q _ _ _ (alF.refl _) (alF.refl _) hf hk).imp fun a w q=>?_
 unfold wO at q
 simp only[wpListIn]
 split
 ·rename_i hw;rw[if_pos hw] at q;exact q
 ·rename_i hw;rw[if_neg hw] at q;exact⟨fun _ _=>trivial,q⟩
theorem SX.cond{lk:LK}{bk:BM}{Q:Exit→Act→World→Prop}{c:Operand}{x y:Code}{b:Bool}{f:FX}(hc:evX lk c=some f)(hb:toB f=some b)(h1:b=true→SX GB C n lk bk (wpr C.rd P x Q))(h2:b=false→SX GB C n lk bk (wpr C.rd P y Q)):SX GB C n lk bk (wpr C.rd P (.cond c x y) Q):=by
 refine⟨fun ρ G ov a w r=>?_⟩
 obtain⟨v,hv,hv'⟩:=r.ev hc
 rw[aj0 hv' hb] at hv
 exact akk (aac (aaF a) hv) (fun e=>(h1 e).run ρ G ov a w r) (fun e=>(h2 e).run ρ G ov a w r)
theorem adY(hT:TOK P T)(hm:P.follows .mixedOrders=true): ∀(k:Nat) (l:List Prop) (fr:FrX) (own:OwX) (cf:Cf),aah (go T n k l fr own cf).vc→aah l∧(CfS P GB C n Q0 (go T n k l fr own cf).fr (go T n k l fr own cf).own (go T n k l fr own cf).cf→CfS P GB C n Q0 fr own cf)
 |0,l,fr,own,cf,h=>by simp only[go] at h⊢;exact⟨h,id⟩
 |k+1,l,fr,own, .code c K,h=>by
  cases c with
  |seq x y=>simp only[go] at h⊢;obtain⟨h1,h2⟩:=adY hT hm k _ _ _ _ h;exact⟨h1,fun hk=>(h2 hk).imp fun a w q=>azI q⟩
  |region id ops d=>
   simp only[go] at h⊢
   cases d with
   |false=>simp only[cond_false] at h⊢;obtain⟨h1,h2⟩:=adY hT hm k _ _ _ _ h;exact⟨h1,fun hk=>(h2 hk).imp fun a w q=>amS q⟩
   |true=>simp only[cond_true] at h⊢;obtain⟨h1,h2⟩:=adY hT hm k _ _ _ _ h;exact⟨h1,fun hk=>h2 hk ⟨⟨[],rfl,rfl⟩,rfl,fun i u o hu=>by simp at hu⟩⟩
  |skip=>simp only[go] at h⊢;obtain⟨h1,h2⟩:=adY hT hm k _ _ _ _ h;exact⟨h1,fun hk=>(h2 hk).imp fun a w q=>awY q⟩
  |ret=>simp only[go] at h⊢;obtain⟨h1,h2⟩:=adY hT hm k _ _ _ _ h;exact⟨h1,fun hk=>(h2 hk).imp fun a w q=>azU q⟩
  |exit id=>simp only[go] at h⊢;obtain⟨h1,h2⟩:=adY hT hm k _ _ _ _ h;exact⟨h1,fun hk=>(h2 hk).imp fun a w q=>awM q⟩
  |block id c=>simp only[go] at h⊢;obtain⟨h1,h2⟩:=adY hT hm k _ _ _ _ h;exact⟨h1,fun hk=>(h2 hk).imp fun a w q=>avD q⟩
  |scope c=>simp only[go] at h⊢;obtain⟨h1,h2⟩:=adY hT hm k _ _ _ _ h;exact⟨h1,fun hk=>(h2 hk).imp fun a w q=>avf q⟩
  |label j=>simp only[go] at h⊢;obtain⟨h1,h2⟩:=adY hT hm k _ _ _ _ h;exact⟨h1,fun hk=>(h2 hk).imp fun a w q=>ats q⟩
  |cond c x y=>
   simp only[go] at h⊢
   cases hc:evX (aao fr) c with
   |none=>simp only[hc] at h⊢;exact⟨h,id⟩
   |some f=>
    cases f with
    |tt=>simp only[hc] at h⊢;obtain⟨h1,h2⟩:=adY hT hm k _ _ _ _ h;exact⟨h1,fun hk=>SX.cond hc rfl (fun _=>h2 hk) (fun e=>by cases e)⟩
    |ff=>simp only[hc] at h⊢;obtain⟨h1,h2⟩:=adY hT hm k _ _ _ _ h;exact⟨h1,fun hk=>SX.cond hc rfl (fun e=>by cases e) (fun _=>h2 hk)⟩
    |_=>simp only[hc] at h⊢;exact⟨h,id⟩
  |_=>simp only[go] at h⊢;exact⟨h,id⟩
 |k+1,l,fr,own, .ex e K,h=>by
  cases K with
  |nil=>simp only[go] at h⊢;exact⟨h,id⟩
  |cons x K=>
   cases x with
   |sq y=>cases e<;>(simp only[go] at h⊢;obtain⟨h1,h2⟩:=adY hT hm k _ _ _ _ h;exact⟨h1,fun hk=>h2 hk⟩)
   |bl id=>
    cases e with
    |exit j=>
     simp only[go] at h⊢
     cases hb:Nat.beq j id with
     |true=>
      simp only[hb,cond_true] at h⊢;obtain⟨h1,h2⟩:=adY hT hm k _ _ _ _ h
      exact⟨h1,fun hk=>(h2 hk).imp fun a w q=>by simp only[cQ,Exit.inBlock,aL hb,if_true];exact q⟩
     |false=>
      have hne:j≠id:=fun e=>by subst e;simp at hb
      simp only[hb,cond_false] at h⊢;obtain⟨h1,h2⟩:=adY hT hm k _ _ _ _ h
      exact⟨h1,fun hk=>(h2 hk).imp fun a w q=>by simp only[cQ,Exit.inBlock,hne,if_false];exact q⟩
    |_=>simp only[go] at h⊢;obtain⟨h1,h2⟩:=adY hT hm k _ _ _ _ h;exact⟨h1,fun hk=>h2 hk⟩
   |sc=>
    simp only[go] at h⊢
    cases hb:asm e with
    |true=>
     simp only[hb,cond_true] at h⊢;obtain⟨h1,h2⟩:=adY hT hm k _ _ _ _ h
     refine⟨h1,fun hk=>(h2 hk).imp fun a w q=>?_⟩
     cases e<;>first|exact q|cases hb
    |false=>simp only[hb,cond_false] at h⊢;exact⟨h,id⟩
   |ag A=>
    cases e with
    |normal=>simp only[go] at h⊢;exact⟨h,id⟩
    |_=>simp only[go] at h⊢;obtain⟨h1,h2⟩:=adY hT hm k _ _ _ _ h;exact⟨h1,fun hk=>h2 hk⟩
 |k+1,l,fr,own, .ops ops r K,h=>by
  cases r with
  |nil=>simp only[go] at h⊢;obtain⟨h1,h2⟩:=adY hT hm k _ _ _ _ h;exact⟨h1,fun hk=>h2 hk⟩
  |cons o r=>
   simp only[go] at h⊢
   cases hs:ark T n ops (aao fr) (aap own) o with
   |none=>simp only[hs] at h⊢;exact⟨h,id⟩
   |some x=>
    obtain⟨v,f,bl,nw⟩:=x
    simp only[hs] at h⊢
    cases hf:aia nw o.dst fr own with
    |false=>simp only[hf,cond_false] at h⊢;exact⟨h,id⟩
    |true=>
     simp only[hf,cond_true] at h⊢
     simp only[aeD,avz,aji] at h⊢
     obtain⟨h1,h2⟩:=adY hT hm k _ _ _ _ h
     obtain⟨h3,h4⟩:=aqK h1
     exact⟨h3,fun hk=>SX.op (apo hT hs h4).1 (afr hf) (h2 hk)⟩
 |k+1,l,fr,own, .dr id ops fr0 own0 us r K,h=>by
  cases r with
  |nil=>
   simp only[go] at h⊢;obtain⟨h1,h2⟩:=adY hT hm k _ _ _ _ h
   obtain⟨h3,h4⟩:=amF.1 h1
   exact⟨h3,fun hk D=>D.done hm h4 (h2 hk)⟩
  |cons o r=>
   simp only[go,agU] at h⊢
   generalize ajD ops o=rs at h⊢
   generalize aqr o fr rs=rn at h⊢
   cases hs:ark T n ops (rsX rs (aao fr)) (rsX rn (aap own)) o with
   |none=>simp only[hs] at h⊢;exact⟨h,fun x=>x⟩
   |some x=>
    obtain⟨v,f,bl,nw⟩:=x
    simp only[hs] at h⊢
    simp only[aeD,avz,aji] at h⊢
    obtain⟨h1,h2⟩:=adY hT hm k _ _ _ _ h
    obtain⟨h3,h4⟩:=aqK h1
    exact⟨h3,fun hk D=>h2 hk (D.push (apo hT hs h4).1)⟩
end
end Go.Sx
end
section
namespace Go.Sx
open Go Go.Proofs Tryz
instance:TyS prog 3:=⟨fun _=>by kernel_rfl,fun _=>by kernel_rfl⟩
instance:TyI prog 3 .i64:=⟨fun _=>by kernel_rfl⟩
instance:TyS prog 4:=⟨fun _=>by kernel_rfl,fun _=>by kernel_rfl⟩
instance:TyZ prog 4 (.bool false):=⟨by kernel_rfl⟩
instance:TyS prog 23:=⟨fun _=>by kernel_rfl,fun _=>by kernel_rfl⟩
instance:acV prog 23 182 8 112:=⟨by kernel_rfl,by kernel_rfl⟩
instance:TyF prog 25 0 0:=⟨fun _ _ _=>by kernel_rfl⟩
instance:TyF prog 25 1 1:=⟨fun _ _ _=>by kernel_rfl⟩
instance:acV prog 32 215 1 4:=⟨by kernel_rfl,by kernel_rfl⟩
instance:TyN prog 32:=⟨215,by kernel_rfl⟩
instance:acV prog 102 201 17 128:=⟨by kernel_rfl,by kernel_rfl⟩
instance:TyN prog 102:=⟨201,by kernel_rfl⟩
instance:acV prog 103 201 17 128:=⟨by kernel_rfl,by kernel_rfl⟩
instance:TyA prog 108 9:=⟨fun _=>by kernel_rfl,fun _=>by kernel_rfl⟩
instance:TyZ prog 108 (.agg ⟨[.int .i64 0, .int .i64 0, .pointer none, .int .i64 0, .int .i64 0, .pointer none, .int .i64 0, .int .i64 0, .pointer none]⟩):=⟨by kernel_rfl⟩
instance:TyA prog 179 6:=⟨fun _=>by kernel_rfl,fun _=>by kernel_rfl⟩
instance:TyA prog 182 8:=⟨fun _=>by kernel_rfl,fun _=>by kernel_rfl⟩
instance:TyZ prog 182 (.agg ⟨[.bool false, .slice none 0 0, .bool false, .slice none 0 0, .bool false, .slice none 0 0, .int .i64 0, .int .i64 0]⟩):=⟨by kernel_rfl⟩
instance:TyF prog 182 0 0:=⟨fun _ _ _=>by kernel_rfl⟩
instance:TyF prog 182 1 6:=⟨fun _ _ _=>by kernel_rfl⟩
instance:TyF prog 182 2 7:=⟨fun _ _ _=>by kernel_rfl⟩
instance:TyI prog 214 .u64:=⟨fun _=>by kernel_rfl⟩
instance:TyS prog 215:=⟨fun _=>by kernel_rfl,fun _=>by kernel_rfl⟩
instance:TyZ prog 215 (.int .u32 0):=⟨by kernel_rfl⟩
instance:TyI prog 215 .u32:=⟨fun _=>by kernel_rfl⟩
instance:TyI prog 216 .u64:=⟨fun _=>by kernel_rfl⟩
instance:TyS prog 233:=⟨fun _=>by kernel_rfl,fun _=>by kernel_rfl⟩
instance:acV prog 233 4 1 1:=⟨by kernel_rfl,by kernel_rfl⟩
instance:TyZ prog 235 (.agg ⟨[.slice none 0 0, .slice none 0 0, .int .i64 0, .bool false]⟩):=⟨by kernel_rfl⟩
instance:TyF prog 235 0 0:=⟨fun _ _ _=>by kernel_rfl⟩
instance:TyF prog 235 1 1:=⟨fun _ _ _=>by kernel_rfl⟩
instance:TyF prog 235 2 2:=⟨fun _ _ _=>by kernel_rfl⟩
instance:TyF prog 235 3 3:=⟨fun _ _ _=>by kernel_rfl⟩
instance:aGd prog 235 [(0,1),(1,1),(2,1),(3,1)]:=⟨_,fun _=>aDH underlying235 _,fun _=>by kernel_rfl⟩
theorem follows:prog.follows .mixedOrders=true:=by kernel_rfl
end Go.Sx
end
