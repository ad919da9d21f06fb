/-
  The abstract machine's operations are sound. Regions that draw their order: one walk in the order of the text, if what may change places does not touch. The abstract machine's run, reckoned as far as it goes by itself. Instances about the program's types. The program's types, as the abstract machine looks them up.
-/
import Derived.Test.YtopfgminkdfpkaaGreatDoorMw3
import Derived.Test.YtopfgminkdfpkaaGreatDoorProg
set_option linter.unusedSimpArgs false
set_option maxRecDepth 100000
set_option linter.unusedVariables false
section
namespace Go.Sx
open Go
section
variable {P:Program} {T:TT} {GB:Gh} {C:Ctx} {n:Nat} {lk:LK} {bk:BM} {ρ:NE} {G:Gh} {ov:List Own} {a:Act} {w:World}
variable {dst:Option Nat} {t t' ty':TypeId} {pos:String} {af:Array Edge} {gd:Option (Nat×Bool)} {x y z:Operand}
def aG2(P:Program)(GB:Gh)(C:Ctx)(n:Nat)(lk:LK)(bk:BM)(o:Oper)(r:CR):Prop:=(∀p,r.vc=some p→p)→OpR P GB C n lk bk o r.f r.bl r.nw
theorem agb{r:Option FX}{c:CR}(h:pr1 r=some c): ∃f,r=some f∧c=⟨none,f,[],[]⟩:=by
 unfold pr1 at h
 split at h
 ·cases h;exact⟨_,rfl,rfl⟩
 ·cases h
theorem anb{r:Option (Option Prop×FX)}{c:CR}(h:pr2 r=some c): ∃v f,r=some (v,f)∧c=⟨v,f,[],[]⟩:=by
 unfold pr2 at h
 split at h
 ·cases h;exact⟨_,_,rfl,rfl⟩
 ·cases h
theorem af6{α:Type}{K:FX→Option α}{r:α}(h:ev1 lk x K=some r): ∃f,evX lk x=some f∧K f=some r:=by
 unfold ev1 at h
 split at h
 ·exact⟨_,by assumption,h⟩
 ·cases h
theorem aky{α:Type}{K:FX→FX→Option α}{r:α}(h:ev2 lk x y K=some r): ∃f g,evX lk x=some f∧evX lk y=some g∧K f g=some r:=by
 unfold ev2 at h
 split at h
 ·split at h
  ·exact⟨_,_,by assumption,by assumption,h⟩
  ·cases h
 ·cases h
theorem atI{α:Type}{K:TI→Option α}{r:α}(hT:TOK P T)(h:tyI T t K=some r): ∃i,afE P t=some i∧K i=some r:=by
 unfold tyI at h
 split at h
 ·rename_i i hi;exact⟨i,hT _ _ hi,h⟩
 ·cases h
theorem avz{α:Type}{K:List (Nat×Nat×Nat)→TI→Option α}{r:α}(hT:TOK P T)(h:tyS T t K=some r): ∃fo i,afE P t=some i∧i.k= .st fo∧K fo i=some r:=by
 unfold tyS at h
 split at h
 ·rename_i fo sz z za hi;exact⟨fo,_,hT _ _ hi,rfl,h⟩
 ·cases h
theorem OpR.x1{o:Oper}{f g:FX}(e:evX lk x=some f)(h: ∀ρ G ov (a:Act) w y,ab9 C ov G w→RlX GB C n lk bk ρ G ov a w→opv (frA a) x=some y→IsX ρ G f y→ ∃u,IsX ρ G g u∧Yd P C (frA a) ov G o u):OpR P GB C n lk bk o g [] []:=
 .yd fun ρ G ov a w r=>by
  obtain⟨y,h1,h2⟩:=r.ev e
  exact h ρ G ov a w y r.h r h1 h2
theorem aAp{f:FX}(e:evX lk x=some f):OpR P GB C n lk bk ⟨dst, .move x,ty',pos,af,gd⟩ f [] []:= .x1 e fun _ _ _ _ _ y _ _ h1 h2=>⟨y,h2,aaS h1⟩
theorem avl{f:FX}(e:evX lk x=some f):OpR P GB C n lk bk ⟨dst, .assign x,ty',pos,af,gd⟩ f [] []:= .x1 e fun _ _ _ _ _ y _ _ h1 h2=>⟨y,h2,ajQ h1⟩
theorem azO{c f g v:FX}(ec:evX lk z=some c)(e1:evX lk x=some f)(e2:evX lk y=some g)(h:aEP c f g=some v):OpR P GB C n lk bk ⟨dst, .pick z x y,ty',pos,af,gd⟩ v [] []:= .yd fun ρ G ov a w r=>by
 obtain⟨u,h1,h2⟩:=r.ev ec
 unfold aEP at h
 split at h
 ·cases h;cases h2;obtain⟨u,h3,h4⟩:=r.ev e1;exact⟨u,h4,ac6 h1 h3⟩
 ·cases h;cases h2;obtain⟨u,h3,h4⟩:=r.ev e2;exact⟨u,h4,abx h1 h3⟩
 ·cases h
theorem aEb{f g:FX}{v:Option Prop}(e:evX lk x=some f)(h:aFE f=some (v,g))(hv: ∀r,v=some r→r):OpR P GB C n lk bk ⟨dst, .nilCheck x,ty',pos,af,gd⟩ g [] []:= .x1 e fun ρ G ov a w y _ _ h1 h2=>by
 have key: ∀l,Is G (.pt l) y→ ∃u,IsX ρ G (.ep l) u∧Yd P C (frA a) ov G ⟨dst, .nilCheck x,ty',pos,af,gd⟩ u:=fun l h2=>by
  obtain⟨b,m,rfl,hb,hm⟩:=akr.1 h2
  refine⟨_,⟨b,0,m,m,rfl,hb,?_,hm⟩,aaP h1⟩
  rw[abJ _ _ _ (by rw[hm.len];omega),List.drop_zero,List.take_of_length_le (by rw[hm.len];omega)]
 unfold aFE at h
 split at h<;>cases h
 ·obtain⟨b,hb,rfl⟩:=h2;exact⟨_,⟨b,hb,rfl⟩,aaP h1⟩
 ·obtain⟨b,o,cs,m,rfl,h3⟩:=h2;exact⟨_,⟨b,o,cs,m,rfl,h3⟩,aaP h1⟩
 ·obtain⟨b,hb,rfl⟩:=h2;exact⟨_,⟨b,hb,rfl⟩,aaP h1⟩
 ·exact key _ h2
 ·rcases ape.1 (show Is G _ y from h2) with⟨e,_⟩|⟨_,h3⟩
  ·have:=hv _ rfl;rw[e] at this;cases this
  ·exact key _ h3
theorem aFZ{f g:FX}{fo:List (Nat×Nat×Nat)}{i:TI}{k:Nat}(hi:afE P t=some i)(hk:i.k= .st fo)(e:evX lk x=some f)(h:faX fo k f=some g):OpR P GB C n lk bk ⟨dst, .fieldAddr t x k,ty',pos,af,gd⟩ g [] []:= .x1 e fun ρ G ov a w y _ _ h1 h2=>by
 unfold faX at h
 split at h
 ·rename_i off ft s ho
  have:=aEN hi hk ho
  split at h
  ·cases h;obtain⟨b,hb,rfl⟩:=h2;exact⟨_,⟨b,hb,rfl⟩,aaT h1⟩
  ·rename_i l
   cases hb:Nat.ble off l.length with
   |false=>rw[hb] at h;cases h
   |true=>
    rw[hb,cond_true,ag5] at h;cases h
    obtain⟨b,o,cs,m,rfl,hb',ht,hm⟩:=h2
    refine⟨_,⟨b,o+off,cs,m.drop off,rfl,hb',?_,hm.drop _⟩,aaT h1⟩
    rw[List.length_drop]
    exact aiC ht (by simpa using hb)
  ·cases h
   obtain⟨b,hb,rfl⟩:=h2
   exact⟨_,⟨b,hb,rfl⟩,by rw[←Nat.add_assoc];exact aaT h1⟩
  ·cases h
 ·cases h
theorem aFW{f g:FX}{fo:List (Nat×Nat×Nat)}{i:TI}{k:Nat}(hT:TOK P T)(hi:afE P t=some i)(hk:i.k= .st fo)(e:evX lk x=some f)(h:fdX T fo k f=some g):OpR P GB C n lk bk ⟨dst, .field t x k,ty',pos,af,gd⟩ g [] []:= .x1 e fun ρ G ov a w y _ _ h1 h2=>by
 unfold fdX at h
 split at h<;>try (cases h;done)
 rename_i cs
 split at h<;>try (cases h;done)
 rename_i off ft s ho
 split at h<;>try (cases h;done)
 rename_i j hj
 obtain⟨m,rfl,hm⟩:=abL.1 (show Is G _ y from h2)
 have:=aFu hi hk ho
 split at h<;>try (cases h;done)
 ·rename_i q ha
  have:=akS (hT _ _ hj) ha
  split at h<;>cases h
  rename_i l hl
  obtain⟨l',h3,h4⟩:=hm.takeD hl
  exact⟨.agg ⟨l'⟩,abL.2 ⟨l',rfl,h4⟩,au4 h1 h3⟩
 ·rename_i ha
  have:=ajP (hT _ _ hj) ha
  split at h<;>cases h
  rename_i c hc
  obtain⟨l',h3,h4⟩:=hm.get hc
  exact⟨l',h4,asV h1 h3⟩
theorem RlX.own{nm off:Nat}{y:Value}{ty:TypeId}{cs:List FX}{lo:Bool}(r:RlX GB C n lk bk ρ G ov a w)(h2:IsX ρ G (.ov nm off) y)(hb:bk nm=some (.o ty cs lo)): ∃b m,y= .pointer (some ⟨b,off,none⟩)∧(ρ nm).a=some ⟨b,0,none⟩∧adX ρ G cs m∧⟨b,m,ty,lo⟩∈ov:=by
 obtain⟨os,⟨b,m,h3,rfl,h4⟩,h5⟩:=r.bx _ _ hb
 obtain⟨b',h6,rfl⟩:=h2
 rw[h3] at h6;cases h6
 exact⟨b,m,rfl,h3,h4,h5 _ List.mem_cons_self⟩
theorem aFJ{f g:FX}{i:TI}(hi:afE P t=some i)(e:evX lk x=some f)(h:ldX bk i f=some g):OpR P GB C n lk bk ⟨dst, .load t x,ty',pos,af,gd⟩ g [] []:= .x1 e fun ρ G ov a w y _ r h1 h2=>by
 unfold ldX at h
 split at h<;>try (cases h;done)
 ·rename_i k ha
  have:=akS hi ha
  split at h<;>try (cases h;done)
  ·split at h<;>try (cases h;done)
   rename_i hb
   split at h<;>try (cases h;done)
   rename_i l hl
   obtain⟨b,m,rfl,h3,h4,h5⟩:=r.own h2 hb
   obtain⟨l',h6,h7⟩:=h4.takeX hl
   have:OAt ov b m _ _:=⟨h5⟩
   exact⟨.agg ⟨l'⟩,ayV h7 h,aeV h1 h6⟩
  ·split at h<;>cases h
   rename_i hl
   obtain⟨b,o,ms,m,rfl,hb,ht,hm⟩:=h2
   obtain⟨l',h3,h4⟩:=hm.takeD hl
   exact⟨.agg ⟨l'⟩,abL.2 ⟨l',rfl,h4⟩,akH h1 hb (by simpa using an5 ht h3)⟩
 ·rename_i ha
  have:=ajP hi ha
  split at h<;>try (cases h;done)
  ·split at h<;>try (cases h;done)
   rename_i hb
   obtain⟨b,m,rfl,h3,h4,h5⟩:=r.own h2 hb
   obtain⟨l',h6,h7⟩:=h4.get h
   have:OAt ov b m _ _:=⟨h5⟩
   exact⟨l',h7,aaD h1 h6⟩
  ·split at h<;>cases h
   obtain⟨b,o,ms,m,rfl,hb,ht,hm⟩:=h2
   obtain⟨l',h3,h4⟩:=hm.get (i:=0) rfl
   have:=ah7 ht (i:=0) (Nat.succ_pos _)
   rw[Nat.add_zero] at this
   exact⟨l',h4,adW h1 hb (by rw[this];exact h3)⟩
theorem aC9{f g:FX}{i:Nat}(e:evX lk x=some f)(h:aE2 i f=some g):OpR P GB C n lk bk ⟨dst, .extract x i,ty',pos,af,gd⟩ g [] []:= .x1 e fun ρ G ov a w y _ r h1 h2=>by
 unfold aE2 at h
 split at h<;>try (cases h;done)
 ·split at h<;>cases h
  rename_i hv
  obtain⟨m,rfl,hm⟩:=aeL.1 (show Is G _ y from h2)
  obtain⟨l',h3,h4⟩:=hm.get hv
  exact⟨l',h4,ahQ h1 (by simpa using h3)⟩
 ·obtain⟨m1,m2,rfl,k1,k2⟩:=h2
  obtain⟨l',h3,h4⟩:=ayh (ρ:=ρ) h k1 k2
  exact⟨l',h4,ahQ h1 (by simpa using h3)⟩
theorem alG{fo:List (Nat×Nat×Nat)}(r:RlX GB C n lk bk ρ G ov a w): ∀(ps:List (Nat×Operand)) (cs out:List FX) (m:List Value),ay6 lk fo cs ps=some out→adX ρ G cs m→ ∃l,bld (frA a) (fo.map fun x=>(x.1,x.2.2)) m ps=some l∧adX ρ G out l
 |[],cs,out,m,e,hm=>by simp only[ay6] at e;cases e;exact⟨m,rfl,hm⟩
 |(i,x)::ps,cs,out,m,e,hm=>by
  simp only[ay6] at e
  split at e
  ·rename_i off q k d ho hd
   cases hc:(d.okc&&(Nat.beq d.cells.length k&&Nat.ble (off+k) cs.length)) with
   |false=>rw[hc] at e;cases e
   |true=>
    rw[hc] at e
    simp only[Bool.and_eq_true,Nat.beq_eq_true_eq,Nat.ble_eq] at hc
    obtain⟨h1,h2,h3⟩:=hc
    replace h2:=Nat.eq_of_beq_eq_true h2
    obtain⟨y,hy,hy'⟩:=r.ev hd
    obtain⟨c1,_⟩:=hy'.cells h1
    have c2:=c1.len
    obtain⟨l,hl1,hl2⟩:=alG r ps _ out _ e (hm.ov c1 (off:=off))
    refine⟨l,?_,hl2⟩
    simp only[bld,List.getElem?_map,ho,Option.map_some,hy]
    rw[if_pos ⟨by rw[c2,h2],by rw[hm.len];exact h3⟩]
    exact hl1
  ·cases e
theorem axf{fo:List (Nat×Nat×Nat)}{i:TI}{zx:List FX}{cs:List FX}{f:FX}{parts:Array (Nat×Operand)}(hi:afE P t=some i)(hk:i.k= .st fo)(hz:i.z=some zx)(h:ay6 lk fo zx parts.toList=some cs)(hf:agX cs=some f):
  OpR P GB C n lk bk ⟨dst, .build t parts,ty',pos,af,gd⟩ f [] []:= .yd fun ρ G ov a w r=>by
 obtain⟨v,hv,hv'⟩:=alY hi hz
 have:=azp hi hk
 obtain⟨l,h1,h2⟩:=alG r _ _ _ _ h (hv' ρ G)
 exact⟨.agg ⟨l⟩,ayV h2 hf,amx h1⟩
theorem aob{k:IntKind}{p:Int}{v:Option Prop}{f:FX}(h:vcI k p=some (v,f)):f= .d (.v (.int k p))∧((∀q,v=some q→q)→k.min≤p∧p≤k.max):=by
 obtain⟨q,h1,h2⟩:=aDl h
 cases h1
 exact⟨rfl,fun k=>h2 (k _ rfl)⟩
theorem aaz{k:IntKind}{p:Int}{y:Value}:IsX ρ G (.d (.v (.int k p))) y↔y= .int k p:=aaV (G:=G)
theorem aub(b:BitVec 64):IntKind.u64.wrap (b.toNat:Int)=(b.toNat:Int):=aeO ⟨by show(0:Int)≤_;omega,by have:=b.isLt;show _≤(18446744073709551615:Int);omega⟩
theorem alC(b:BitVec 32):IntKind.u32.wrap (b.toNat:Int)=(b.toNat:Int):=aeO ⟨by show(0:Int)≤_;omega,by have:=b.isLt;show _≤(4294967295:Int);omega⟩
theorem ax6{op:BinOp}{k j:IntKind}{p q:Int}{v:Option Prop}{f:FX}(h:arX op k p q=some (v,f))(hop:op= .shr∨op= .shl)(hv: ∀r,v=some r→r){fr:Fr}(hx:opv fr x=some (.int k p))(hy:opv fr y=some (.int j q)): ∃u,IsX ρ G f u∧Yd P C fr ov G ⟨dst, .binOp op t x y t',ty',pos,af,gd⟩ u:=by
 rcases hop with rfl|rfl<;>cases h
 ·exact⟨_,aaz.2 rfl,adU hx hy (hv _ rfl)⟩
 ·exact⟨_,aaz.2 rfl,aj3 hx hy (hv _ rfl)⟩
theorem aFz{op:BinOp}{k:IntKind}{p q:Int}{v:Option Prop}{f:FX}(h:arX op k p q=some (v,f))(hv: ∀r,v=some r→r){fr:Fr}(hx:opv fr x=some (.int k p))(hy:opv fr y=some (.int k q)): ∃u,IsX ρ G f u∧Yd P C fr ov G ⟨dst, .binOp op t x y t',ty',pos,af,gd⟩ u:=by
 cases op with
 |add=>obtain⟨rfl,h2⟩:=aob h;exact⟨_,aaz.2 rfl,at0 hx hy (h2 hv)⟩
 |sub=>obtain⟨rfl,h2⟩:=aob h;exact⟨_,aaz.2 rfl,auv hx hy (h2 hv)⟩
 |mul=>obtain⟨rfl,h2⟩:=aob h;exact⟨_,aaz.2 rfl,atc hx hy (h2 hv)⟩
 |quo=>
  cases k<;>cases h<;>first
   |exact⟨_,aaz.2 rfl,atn hx hy (hv _ rfl)⟩
   |(obtain⟨h1,h2,h3⟩:=hv _ rfl;exact⟨_,aaz.2 rfl,ahq hx hy h1 h2 h3⟩)
 |rem=>
  cases k<;>cases h<;>first
   |exact⟨_,aaz.2 rfl,ayn hx hy (hv _ rfl)⟩
   |(obtain⟨h1,h2⟩:=hv _ rfl;exact⟨_,aaz.2 rfl,ahC hx hy h1 h2⟩)
 |shr=>exact ax6 h (.inl rfl) hv hx hy
 |shl=>exact ax6 h (.inr rfl) hv hx hy
 |or=>
  cases k<;>cases h<;>refine⟨_,aaz.2 rfl,ab5 hx hy fun w=>?_⟩
  ·show(pure (Value.int .u32 (IntKind.u32.wrap ((BitVec.ofInt 32 p ||| BitVec.ofInt 32 q).toNat:Int))):Sem Value).run P w=_
   rw[alC];rfl
  ·show(pure (Value.int .u64 (IntKind.u64.wrap ((BitVec.ofInt 64 p ||| BitVec.ofInt 64 q).toNat:Int))):Sem Value).run P w=_
   rw[aub];rfl
 |and=>
  cases k<;>cases h<;>refine⟨_,aaz.2 rfl,ab5 hx hy fun w=>?_⟩
  ·show(pure (Value.int .u32 (IntKind.u32.wrap ((BitVec.ofInt 32 p &&& BitVec.ofInt 32 q).toNat:Int))):Sem Value).run P w=_
   rw[alC];rfl
  ·show(pure (Value.int .u64 (IntKind.u64.wrap ((BitVec.ofInt 64 p &&& BitVec.ofInt 64 q).toNat:Int))):Sem Value).run P w=_
   rw[aub];rfl
 |lss=>cases h;exact⟨_,rfl,acj hx hy⟩
 |leq=>cases h;exact⟨_,rfl,aEr hx hy⟩
 |gtr=>cases h;exact⟨_,rfl,af8 hx hy⟩
 |geq=>cases h;exact⟨_,rfl,ahR hx hy⟩
 |eql=>cases h;exact⟨_,rfl,ab3 hx hy⟩
 |neq=>cases h;exact⟨_,rfl,ahX hx hy⟩
 |_=>cases h
theorem aDc{mx:Bool}{f g u:FX}(e1:evX lk x=some f)(e2:evX lk y=some g)(h:mmX mx f g=some u){t1 t2:TypeId}:OpR P GB C n lk bk ⟨dst, .call ⟨.builtin (if mx then .max else .min),⟨[x,y]⟩,⟨[t1,t2]⟩⟩,ty',pos,af,gd⟩ u [] []:= .yd fun ρ G ov a w r=>by
 obtain⟨p,h1,h2⟩:=r.ev e1
 obtain⟨q,h3,h4⟩:=r.ev e2
 unfold mmX at h
 split at h<;>try (cases h;done)
 rename_i k p' j q'
 rw[aaz] at h2 h4
 subst h2 h4
 cases hk:kq k j with
 |false=>rw[hk] at h;cases h
 |true=>
  rw[hk] at h;cases awb hk
  cases mx<;>cases h
  ·refine⟨_,aaz.2 rfl,?_⟩
   intro a' w' hf hh
   simp only[Bool.false_eq_true,if_false,execOp,resolve,List.map_toArray,List.map_cons,List.map_nil,aac hf h1,aac hf h3]
   have h1:(Builtin.min_ #[t1,t2] ty' #[.int k p', .int k q']).run P w'= .ok (.int k (if q'<p' then q' else p')) w':=by
    simp[Builtin.min_,Builtin.min2,aao]
   exact aan h1
  ·refine⟨_,aaz.2 rfl,?_⟩
   intro a' w' hf hh
   simp only[if_true,execOp,resolve,List.map_toArray,List.map_cons,List.map_nil,aac hf h1,aac hf h3]
   have h1:(Builtin.max_ #[t1,t2] ty' #[.int k p', .int k q']).run P w'= .ok (.int k (if q'>p' then q' else p')) w':=by
    simp[Builtin.max_,Builtin.max2,aao]
   exact aan h1
theorem aEp{f g:FX}{b:Bool}(hT:TOK P T)(h:aFU T t f y=some b)(hx: ∃v,opv (frA a) x=some v∧IsX ρ G f v)(hy:evX lk y=some g):
  Yd P C (frA a) ov G ⟨dst, .binOp .eql t x y t',ty',pos,af,gd⟩ (.bool b)∧Yd P C (frA a) ov G ⟨dst, .binOp .neq t x y t',ty',pos,af,gd⟩ (.bool (!b)):=by
 obtain⟨v,h1,h2⟩:=hx
 unfold aFU at h
 split at h<;>try (cases h;done)
 ·rename_i hi
  have:=aFP (hT _ _ hi) rfl
  split at h<;>cases h
  ·cases (aaV (G:=G)).1 h2;exact⟨ay1 (.inl rfl) h1,ayv (.inl rfl) h1⟩
  ·cases (aaV (G:=G)).1 h2;exact⟨ay1 (.inr ⟨_,_,rfl⟩) h1,ayv (.inr ⟨_,_,rfl⟩) h1⟩
 ·rename_i hi
  have:=aCz (hT _ _ hi) rfl
  have key: ∀p,v= .pointer (some p)→Yd P C (frA a) ov G ⟨dst, .binOp .eql t x (.const (.pointer none)) t',ty',pos,af,gd⟩ (.bool false)∧Yd P C (frA a) ov G ⟨dst, .binOp .neq t x (.const (.pointer none)) t',ty',pos,af,gd⟩ (.bool (!false)):=fun p e=>by
   subst e;exact⟨ap2 h1 rfl,apV h1 rfl⟩
  split at h<;>cases h
  ·cases (aaV (G:=G)).1 h2;exact⟨ap2 h1 rfl,apV h1 rfl⟩
  ·obtain⟨b,_,e⟩:=h2;exact key _ e
  ·obtain⟨b,o,cs,m,e,_⟩:=h2;exact key _ e
  ·obtain⟨b,_,e⟩:=h2;exact key _ e
  ·obtain⟨b,m,e,_⟩:=akr.1 (show Is G _ v from h2);exact key _ e
 ·rename_i hi
  have:=af5 (hT _ _ hi) rfl
  split at h<;>cases h
  cases h2;exact⟨azd h1 rfl,aD1 h1 rfl⟩
theorem aE6{op:BinOp}{f g u:FX}{v:Option Prop}(hT:TOK P T)(e1:evX lk x=some f)(e2:evX lk y=some g)(h:boX T op t f g y=some (v,u))(hv: ∀r,v=some r→r):OpR P GB C n lk bk ⟨dst, .binOp op t x y t',ty',pos,af,gd⟩ u [] []:= .yd fun ρ G ov a w r=>by
 obtain⟨p,h1,h2⟩:=r.ev e1
 obtain⟨q,h3,h4⟩:=r.ev e2
 unfold boX at h
 split at h
 ·rename_i k p' j q'
  rw[aaz] at h2 h4
  subst h2 h4
  split at h
  ·exact ax6 h (.inl rfl) hv h1 h3
  ·exact ax6 h (.inr rfl) hv h1 h3
  ·cases hk:kq k j with
   |false=>rw[hk] at h;cases h
   |true=>rw[hk] at h;cases awb hk;exact aFz h hv h1 h3
 ·unfold opX at h
  split at h<;>try (cases h;done)
  rename_i hi
  have:=aCz (hT _ _ hi) rfl
  cases (aaV (G:=G)).1 h4
  split at h<;>cases h<;>rcases ape.1 (show Is G _ p from h2) with⟨rfl,rfl⟩|⟨rfl,k⟩
  ·exact⟨_,rfl,ap2 h1 h3⟩
  ·obtain⟨b,m,rfl,_⟩:=akr.1 k;exact⟨_,rfl,ap2 h1 h3⟩
  ·exact⟨_,rfl,apV h1 h3⟩
  ·obtain⟨b,m,rfl,_⟩:=akr.1 k;exact⟨_,rfl,apV h1 h3⟩
 ·split at h
  ·rename_i b hb
   obtain⟨k1,k2⟩:=aEp (ρ:=ρ) (G:=G) (C:=C) (ov:=ov) (dst:=dst) (t':=t') (ty':=ty') (pos:=pos) (af:=af) (gd:=gd) hT hb ⟨p,h1,h2⟩ e2
   split at h<;>cases h
   ·exact⟨_,by cases b<;>rfl,k1⟩
   ·exact⟨_,by cases b<;>rfl,k2⟩
  ·split at h<;>try (cases h;done)
   rename_i hi ha hb
   have:=aEO (hT _ _ hi) rfl
   have e3:=aiX h2 ha
   have e4:=aiX h4 hb
   subst e3 e4
   split at h<;>cases h
   ·exact⟨_,(aaV (G:=G)).2 rfl,aC6 h1 h3⟩
   ·exact⟨_,(aaV (G:=G)).2 rfl,aDP h1 h3⟩
theorem aER{op:UnOp}{f u:FX}{v:Option Prop}(e1:evX lk x=some f)(h:unX op f=some (v,u))(hv: ∀r,v=some r→r):OpR P GB C n lk bk ⟨dst, .unOp op t x,ty',pos,af,gd⟩ u [] []:= .x1 e1 fun ρ G ov a w y _ r h1 h2=>by
 unfold unX at h
 split at h<;>try (cases h;done)
 ·split at h<;>cases h
  rename_i g hg
  obtain⟨b,rfl,h3⟩:=aDW h2 hg
  exact⟨_,h3,ah5 h1⟩
 ·split at h<;>try (cases h;done)
  obtain⟨rfl,h3⟩:=aob h
  rw[aaz] at h2;subst h2
  refine⟨_,aaz.2 rfl,?_⟩
  have:=atC (P:=P) (C:=C) (own:=ov) (G:=G) (dst:=dst) (ty':=ty') (pos:=pos) (af:=af) (gd:=gd) (t:=t) h1
  rwa [Int.zero_sub,aeO (h3 hv)] at this
theorem aFc{f u:FX}{v:Option Prop}(hT:TOK P T)(e1:evX lk x=some f)(h:cvX T t t' f=some (v,u))(hv: ∀r,v=some r→r):OpR P GB C n lk bk ⟨dst, .convert t t' x,ty',pos,af,gd⟩ u [] []:= .x1 e1 fun ρ G ov a w y _ r h1 h2=>by
 unfold cvX at h
 split at h<;>try (cases h;done)
 rename_i k _ _ _ k' _ _ _ hi hi'
 have:=ak3 (hT _ _ hi) rfl
 have:=ak3 (hT _ _ hi') rfl
 split at h<;>try (cases h;done)
 rename_i j p
 rw[aaz] at h2;subst h2
 cases hk:kq k j with
 |false=>rw[hk] at h;cases h
 |true=>
  rw[hk,cond_true] at h;cases awb hk
  split at h
  ·cases h;exact⟨_,aaz.2 rfl,abg h1⟩
  ·obtain⟨rfl,h3⟩:=aob h;exact⟨_,aaz.2 rfl,alS h1 (h3 hv)⟩
theorem RlX.row{nm:Nat}{y:Value}{ty:TypeId}{s:Nat}{ds:List DV}{lo:Bool}(r:RlX GB C n lk bk ρ G ov a w)(hb:bk nm=some (.b ty s ds lo)): ∃B,abB G ⟨ρ nm,s,ty,ds,lo⟩ B∧ ∀o∈B,o∈ov:=by
 obtain⟨os,h1,h2⟩:=r.bx _ _ hb
 exact⟨os,h1,h2⟩
theorem abB.len{β:aej}{B:List Own}(h:abB G β B):β.x.n=β.ds.length:=by
 obtain⟨vs,h1,h2,_⟩:=h
 rw[h1.len,h2.len]
theorem aFA{f g u:FX}{v:Option Prop}(hT:TOK P T)(e1:evX lk x=some f)(e2:evX lk y=some g)(h:ixX T bk t f g=some (v,u))(hv: ∀r,v=some r→r):OpR P GB C n lk bk ⟨dst, .indexAddr t x y,ty',pos,af,gd⟩ u [] []:= .yd fun ρ G ov a w r=>by
 obtain⟨p,h1,h2⟩:=r.ev e1
 obtain⟨q,h3,h4⟩:=r.ev e2
 unfold ixX at h
 split at h<;>try (cases h;done)
 rename_i nm
 split at h<;>try (cases h;done)
 rename_i ty s ds lo hb
 split at h<;>try (cases h;done)
 rename_i e' s' by_ _ _ _ hi
 have:=af5 (hT _ _ hi) rfl
 split at h<;>try (cases h;done)
 rename_i k i
 cases hs:Nat.beq s s' with
 |false=>rw[hs] at h;cases h
 |true=>
  rw[hs,cond_true] at h;cases h
  cases Nat.eq_of_beq_eq_true hs
  rw[aaz] at h4;subst h4
  cases h2
  obtain⟨B,hB,hBo⟩:=r.row (y:= .nilFunc) hb
  have hl:=hB.len
  simp only at hl
  obtain⟨h5,h6⟩:=hv _ rfl
  obtain⟨vs,hB1,hB2,_⟩:=hB
  rcases hB1 with⟨e5,_,_⟩|⟨b,rest,lo',e5,_⟩
  ·subst e5;have:=hB2.len;simp at this;rw[←this] at h6;simp at h6;omega
  ·have hw:(ρ nm).a=some ⟨b,0,none⟩:=by simp only at e5;rw[e5]
   rw[hw] at h1
   refine⟨_,⟨b,hw,rfl⟩,?_⟩
   have:=aiq (P:=P) (C:=C) (own:=ov) (G:=G) (dst:=dst) (ty':=ty') (pos:=pos) (af:=af) (gd:=gd) (t:=t) h1 h3 h5 (by rw[hl];exact h6)
   simpa using this
theorem aDQ{f g:FX}{e s by_:Nat}(hS:acO P t e s by_)(e1:evX lk x=some f)(h:aFI bk f=some g):OpR P GB C n lk bk ⟨dst, .call ⟨.builtin .len,⟨[x]⟩,⟨[t]⟩⟩,ty',pos,af,gd⟩ g [] []:= .x1 e1 fun ρ G ov a w y _ r h1 h2=>by
 have key: ∀l:List DV,Is G (.sl l) y→ ∃u,IsX ρ G (.d (.v (.int .i64 (l.length:Nat)))) u∧Yd P C (frA a) ov G ⟨dst, .call ⟨.builtin .len,⟨[x]⟩,⟨[t]⟩⟩,ty',pos,af,gd⟩ u:=fun l hl=>by
  obtain⟨k,z,es,rfl,hs,hl⟩:=ad4.1 hl
  have:=hs.len
  rw[hl.len] at this
  exact⟨_,aaz.2 rfl,by rw[←this];exact afd h1⟩
 unfold aFI at h
 split at h
 ·cases h;cases h2;exact⟨_,aaz.2 rfl,afd h1⟩
 ·cases h;exact key _ h2
 ·cases h;exact key _ h2.2
 ·split at h<;>cases h
  rename_i hb
  cases h2
  obtain⟨B,hB,_⟩:=r.row (y:= .nilFunc) hb
  have:=hB.len
  simp only at this
  exact⟨_,aaz.2 rfl,by rw[←this];exact afd h1⟩
 ·cases h
theorem av4{f g:FX}{d:Nat}(hg:g∈f.cells)(h:aB1 f d=true):g.nm≠some d:=by
 have key:g.nm=f.nm∨g.nm=none:=by
  unfold FX.cells at hg
  split at hg
  ·obtain⟨x,_,rfl⟩:=List.mem_map.1 hg;exact .inr rfl
  ·rcases List.mem_append.1 hg with hg|hg
   ·obtain⟨x,_,rfl⟩:=List.mem_map.1 hg;exact .inr rfl
   ·rcases List.mem_cons.1 hg with rfl|hg
    ·exact .inl rfl
    ·obtain⟨x,_,rfl⟩:=List.mem_map.1 hg;exact .inr rfl
  ·exact .inl (by rw[List.mem_singleton.1 hg])
 rcases key with h'|h'
 ·intro e;unfold aB1 at h;rw[←h',e] at h;simp at h
 ·rw[h'];simp
theorem RlX.alloc(r:RlX GB C n lk bk ρ G ov a w){d b:Nat}{cs:List Value}{zs:List FX}{K:Act→World→Prop}{a':Act}{w':World}(hf:acS [d] (some d) lk bk)(hz:adX ρ G zs cs)(hn: ∀g∈zs,g.nm≠some d)
  (hk:SX GB C n (upL lk (some d) (.ov d 0)) (Sx.upB bk [(d,some (.o t zs true))]) K)(rl:Rel C n (Sx.put (frA a) (some d) (.pointer (some ⟨b,0,none⟩))) (⟨b,cs,t,true⟩::ov) G a' w'):K a' w':=by
 have hnd:=(List.pairwise_cons.1 rl.h.nd).1
 have hy:IsX (fun k=>if k=d then⟨some ⟨b,0,none⟩,0,0⟩ else ρ k) G (.ov d 0) (.pointer (some ⟨b,0,none⟩)):=⟨b,by simp,rfl⟩
 have hB:an7 (fun k=>if k=d then⟨some ⟨b,0,none⟩,0,0⟩ else ρ k) G d (.o t zs true) [⟨b,cs,t,true⟩]:=
  ⟨b,cs,by simp,rfl,hz.ren fun g hg m hm=>neN _ fun e'=>hn g hg (by rw[hm,e'])⟩
 refine hk.run _ _ _ a' w' (r.new hf (GLe.refl _) rl.h hB ?_ (fun o ho=>List.mem_cons_of_mem _ ho) ?_ hy (abr rl))
 ·intro o ho;rw[List.mem_singleton.1 ho];exact List.mem_cons_self
 ·intro o ho e';cases e';exact hnd o ho rfl
theorem aze{d:Nat}{f:FX}(e:evX lk x=some f)(hc:f.okc=true)(hn:aB1 f d=true):OpR P GB C n lk bk ⟨some d, .box t x,ty',pos,af,gd⟩ (.ov d 0) [(d,some (.o t f.cells true))] [d]:=by
 intro hd tl tb K s1 s2 hf hk
 refine⟨fun ρ G ov a w r Q=>?_⟩
 obtain⟨y,h1,h2⟩:=(r.mono s1 s2).ev e
 exact avj h1 hd (fun b a' w' rl=>r.alloc hf (h2.cells hc).1 (fun g hg=>av4 hg hn) hk rl) a w Q ⟨r.h,r.sz,aaQ a,r.df⟩
theorem aA8(v:Value):(aAR v).nm=none:=by unfold aAR;split<;>rfl
theorem axe{d:Nat}{i:TI}{z:List FX}(hi:afE P t=some i)(hz:i.z=some z):OpR P GB C n lk bk ⟨some d, .alloc t,ty',pos,af,gd⟩ (.ov d 0) [(d,some (.o t z true))] [d]:=by
 intro hd tl tb K s1 s2 hf hk
 refine⟨fun ρ G ov a w r Q=>?_⟩
 obtain⟨v,hv,hv'⟩:=alY hi hz
 refine afW hd (fun b a' w' rl=>r.alloc hf (hv' ρ G) (fun g hg=>?_) hk rl) a w Q ⟨r.h,r.sz,aaQ a,r.df⟩
 obtain⟨j,_,rfl⟩:=adY hi
 cases hj:j.zero with
 |none=>simp only[hj] at hz;cases hz
 |some u=>
  simp only[hj] at hz;cases hz
  obtain⟨x,_,rfl⟩:=List.mem_map.1 hg
  rw[aA8];simp
theorem agH.of_mem{b:Nat}{cs cs':List Value}{ty:TypeId}{lo:Bool}: ∀{own:List Own},⟨b,cs,ty,lo⟩∈own→ ∃own',agH own b cs ty lo cs' own'∧⟨b,cs',ty,lo⟩∈own'∧ ∀o∈own,o.b≠b→o∈own'
 |[],h=>by cases h
 |x::t,h=>by
  rcases List.mem_cons.1 h with rfl|h
  ·exact⟨_, .hd ..,List.mem_cons_self,fun o ho hb=>(List.mem_cons.1 ho).elim (fun e=>absurd (by rw[e]) hb) (fun e=>List.mem_cons_of_mem _ e)⟩
  ·obtain⟨own',h1,h2,h3⟩:=agH.of_mem h
   exact⟨x::own', .tl _ _ _ _ _ _ _ _ h1,List.mem_cons_of_mem _ h2,fun o ho hb=>(List.mem_cons.1 ho).elim (fun e=>by rw[e];exact List.mem_cons_self) (fun e=>List.mem_cons_of_mem _ (h3 o e hb))⟩
theorem RlX.wrote{nm:Nat}{b:Nat}{m m':List Value}{ty:TypeId}{cs cs':List FX}{lo:Bool}(r:RlX GB C n lk bk ρ G ov a w)(hb:bk nm=some (.o ty cs lo))(ha:(ρ nm).a=some ⟨b,0,none⟩){own':List Own}(hm':adX ρ G cs' m')(h1:⟨b,m',ty,lo⟩∈own')(h2: ∀o∈ov,o.b≠b→o∈own')
  {K:Act→World→Prop}(hk:SX GB C n (upL lk dst .un) (Sx.upB bk [(nm,some (.o ty cs' lo))]) K){a':Act}{w':World}(rl:Rel C n (Sx.put (frA a) dst undef) own' G a' w'):K a' w':=by
 have r2:=r.upB (G':=G) (ov':=own') (w':=w') (B':= .o ty cs' lo) (os:=[⟨b,m',ty,lo⟩]) (GLe.refl _) rl.h ⟨b,m',ha,rfl,hm'⟩ (fun o ho=>by rw[List.mem_singleton.1 ho];exact h1) (fun o ho hne=>h2 o ho fun e=>hne (by rw[ha,e])) ⟨_,hb⟩
 exact hk.run _ _ _ a' w' (r2.put rfl (abr rl))
theorem axC{f:FX}(h:f.flat=true):f.okc=true:=by
 cases f with
 |d x=>cases x<;>first|exact h|(cases h;done)
 |bx=>cases h
 |_=>exact h
theorem arZ{f:FX}(h:f.flat=true):f.cells=[f]:=by
 cases f with
 |d x=>cases x<;>first|rfl|(cases h;done)
 |bx=>cases h
 |_=>rfl
theorem IsX.flat{f:FX}{y:Value}(h:IsX ρ G f y)(k:f.flat=true):Go.Sx.flat y=true:=by
 obtain⟨h1,h2⟩:=h.cells (axC k)
 rw[arZ k] at h1
 have hl:=h1.len
 cases y with
 |agg l=>
  obtain⟨z,q,e,h4,h5⟩:=h1
  cases f with
  |d x=>cases x with
   |v u=>exact Is.flat (show Is G _ _ from h) k
   |ag l=>cases k
   |tp l=>cases k
   |pt l=>exact Is.flat (show Is G _ _ from h) k
   |op b l=>exact Is.flat (show Is G _ _ from h) k
   |sl l=>exact Is.flat (show Is G _ _ from h) k
  |ep l=>obtain⟨_,_,_,_,e,_⟩:=h;cases e
  |ov _ _=>obtain⟨_,_,e⟩:=h;cases e
  |be _ _ _ _=>obtain⟨_,_,e⟩:=h;cases e
  |ct l=>obtain⟨⟨_,_,e⟩,_⟩:=h;cases e
  |bx=>cases k
  |un=>cases k
  |no=>cases k
  |_=>cases h
 |_=>exact h2 _ (by simp[aad])
theorem aw2{fa fv:FX}{bl:List (Nat×Option Bk)}{i:TI}(hi:afE P t=some i)(e1:evX lk x=some fa)(e2:evX lk y=some fv)(h:stX bk i fa fv=some bl):OpR P GB C n lk bk ⟨dst, .store t x y,ty',pos,af,gd⟩ .un bl []:=by
 intro hd tl tb K s1 s2 hf hk
 refine⟨fun ρ G ov a w r Q=>?_⟩
 have r1:=r.mono s1 s2
 obtain⟨p,h1,h2⟩:=r1.ev e1
 obtain⟨q,h3,h4⟩:=r1.ev e2
 unfold stX at h
 split at h<;>try (cases h;done)
 rename_i nm off
 split at h<;>try (cases h;done)
 rename_i ty cs lo hb
 obtain⟨b,m,rfl,ha,h5,h6⟩:=r1.own h2 hb
 split at h<;>try (cases h;done)
 ·rename_i k hk'
  have:=akS hi hk'
  cases hc:(fv.okc&&(Nat.beq fv.cells.length k&&Nat.ble (off+k) cs.length)) with
  |false=>rw[hc] at h;cases h
  |true=>
   rw[hc,cond_true,ag5] at h;cases h
   simp only[Bool.and_eq_true,Nat.beq_eq_true_eq,Nat.ble_eq] at hc
   obtain⟨c1,c2,c3⟩:=hc
   replace c2:=Nat.eq_of_beq_eq_true c2
   obtain⟨h7,h8⟩:=h4.cells c1
   obtain⟨own',u1,u2,u3⟩:=agH.of_mem (cs':=ovw m off (aad q)) h6
   exact al8 h1 h3 u1 (by rw[h7.len,c2]) (by rw[h5.len];exact c3) (List.all_eq_true.2 h8) hd (fun a' w' rl=>r.wrote (m:=m) (s2 _ _ hb) ha (h5.ov h7) u2 u3 hk rl) a w Q ⟨r.h,r.sz,aaQ a,r.df⟩
 ·rename_i hk'
  have:=ajP hi hk'
  cases hc:(fv.flat&&Nat.blt off cs.length) with
  |false=>rw[hc] at h;cases h
  |true=>
   rw[hc,cond_true,ag5] at h;cases h
   simp only[Bool.and_eq_true,Nat.blt_eq] at hc
   obtain⟨own',u1,u2,u3⟩:=agH.of_mem (cs':=m.set off q) h6
   exact adV h1 h3 u1 (by rw[h5.len];exact hc.2) (h4.flat hc.1) hd (fun a' w' rl=>r.wrote (m:=m) (s2 _ _ hb) ha (h5.set off h4) u2 u3 hk rl) a w Q ⟨r.h,r.sz,aaQ a,r.df⟩
theorem ahy{op:Op}{r:CR}(hT:TOK P T)(h:aB4 T lk bk dst op=some r):aG2 P GB C n lk bk ⟨dst,op,ty',pos,af,gd⟩ r:=by
 intro hv
 unfold aB4 at h
 split at h
 ·obtain⟨f,h1,rfl⟩:=agb h;exact aAp h1
 ·obtain⟨f,h1,rfl⟩:=agb h;exact avl h1
 ·obtain⟨c,hc,h⟩:=af6 h
  obtain⟨f,g,h1,h2,h⟩:=aky h
  obtain⟨u,h3,rfl⟩:=agb h
  exact azO hc h1 h2 h3
 ·split at h<;>try (cases h;done)
  obtain⟨i,hi,h⟩:=atI hT h
  split at h<;>try (cases h;done)
  rename_i z hz
  rw[ag5] at h;cases h
  exact axe hi hz
 ·split at h<;>try (cases h;done)
  obtain⟨f,hf,h⟩:=af6 h
  rw[ag5,cond_eq_ite] at h
  split at h<;>cases h
  rename_i hc
  simp only[Bool.and_eq_true] at hc
  exact aze hf hc.1 hc.2
 ·obtain⟨f,h1,h⟩:=af6 h;obtain⟨v,u,h3,rfl⟩:=anb h;exact aEb h1 h3 hv
 ·obtain⟨fo,i,hi,hk,h⟩:=avz hT h
  obtain⟨f,h1,h⟩:=af6 h;obtain⟨u,h3,rfl⟩:=agb h;exact aFZ hi hk h1 h3
 ·obtain⟨fo,i,hi,hk,h⟩:=avz hT h
  obtain⟨f,h1,h⟩:=af6 h;obtain⟨u,h3,rfl⟩:=agb h;exact aFW hT hi hk h1 h3
 ·obtain⟨i,hi,h⟩:=atI hT h
  obtain⟨f,h1,h⟩:=af6 h;obtain⟨u,h3,rfl⟩:=agb h;exact aFJ hi h1 h3
 ·obtain⟨i,hi,h⟩:=atI hT h
  obtain⟨f,g,h1,h2,h⟩:=aky h
  cases hb:stX bk i f g with
  |none=>simp only[hb] at h;cases h
  |some bl=>simp only[hb] at h;cases h;exact aw2 hi h1 h2 hb
 ·obtain⟨f,h1,h⟩:=af6 h;obtain⟨u,h3,rfl⟩:=agb h;exact aC9 h1 h3
 ·obtain⟨fo,i,hi,hk,h⟩:=avz hT h
  split at h<;>try (cases h;done)
  rename_i z hz
  split at h<;>try (cases h;done)
  rename_i cs hcs
  split at h<;>cases h
  rename_i g hg
  exact axf hi hk hz hcs hg
 ·obtain⟨f,g,h1,h2,h⟩:=aky h;obtain⟨v,u,h3,rfl⟩:=anb h;exact aE6 hT h1 h2 h3 hv
 ·obtain⟨f,h1,h⟩:=af6 h;obtain⟨v,u,h3,rfl⟩:=anb h;exact aER h1 h3 hv
 ·obtain⟨f,h1,h⟩:=af6 h;obtain⟨v,u,h3,rfl⟩:=anb h;exact aFc hT h1 h3 hv
 ·obtain⟨f,g,h1,h2,h⟩:=aky h;obtain⟨v,u,h3,rfl⟩:=anb h;exact aFA hT h1 h2 h3 hv
 ·split at h<;>try (cases h;done)
  rename_i hi
  obtain⟨f,h1,h⟩:=af6 h;obtain⟨u,h3,rfl⟩:=agb h
  exact aDQ (af5 (hT _ _ hi) rfl) h1 h3
 ·obtain⟨f,g,h1,h2,h⟩:=aky h;obtain⟨u,h3,rfl⟩:=agb h;exact aDc (mx:=true) h1 h2 h3
 ·obtain⟨f,g,h1,h2,h⟩:=aky h;obtain⟨u,h3,rfl⟩:=agb h;exact aDc (mx:=false) h1 h2 h3
 ·cases h
end
def ayL:List Nat→Nat→Bool
 |[],_=>false
 |x::t,k=>Nat.beq x k||ayL t k
structure Rc where
 rs:List Nat
 d:Option Nat
 f:FX
 rn:List Nat
 bl:List (Nat×Option Bk)
 nw:List Nat
abbrev ST:=LK×BM
def Rc.ap(r:Rc)(s:ST):ST:=(upL s.1 r.d r.f,upB s.2 r.bl)
def sel(p:Nat→Bool):Nat→ST→List Rc→ST
 |_,s,[]=>s
 |k,s,r::t=>sel p (k+1) (if p k then r.ap s else s) t
def rsX{α:Type}(l:List Nat)(g:Nat→Option α):Nat→Option α:=fun k=>bif ayL l k then g k else none
theorem amn{nm:Nat}: ∀{bl:List (Nat×Option Bk)} {s s':BM},((∀e∈bl,e.1≠nm)→s nm=s' nm)→upB s bl nm=upB s' bl nm
 |[],s,s',h=>h (by simp)
 |(k,B)::t,s,s',h=>by
  simp only[upB]
  refine amn fun ht=>?_
  by_cases e:nm=k
  ·simp[e]
  ·simp only[e,if_false];exact h fun x hx=>(List.mem_cons.1 hx).elim (fun c=>by rw[c];exact Ne.symm e) (ht x)
theorem ap7{nm:Nat}: ∀{bl:List (Nat×Option Bk)} {s:BM},(∀e∈bl,e.1≠nm)→upB s bl nm=s nm
 |[],s,h=>rfl
 |(k,B)::t,s,h=>by
  simp only[upB]
  rw[ap7 fun e he=>h e (List.mem_cons_of_mem _ he)]
  simp[Ne.symm (h _ List.mem_cons_self)]
theorem avA{x:Nat}{d:Option Nat}{f:FX}{s:LK}(h:d≠some x):upL s d f x=s x:=by
 cases d with
 |none=>rfl
 |some d=>simp only[upL];rw[if_neg fun e=>h (by rw[e])]
theorem atv{x:Nat}{p q:Nat→Bool}: ∀{us:List Rc} {k:Nat} {s s':ST},s.1 x=s'.1 x→(∀j r,us[j]? =some r→r.d=some x→p (k+j)=q (k+j))→(sel p k s us).1 x=(sel q k s' us).1 x
 |[],k,s,s',h,_=>h
 |r::t,k,s,s',h,hp=>by
  simp only[sel]
  refine atv ?_ fun j u hj hd=>by have:=hp (j+1) u (by simpa using hj) hd;rwa [show k+(j+1)=k+1+j by omega] at this
  by_cases hd:r.d=some x
  ·have:=hp 0 r rfl hd
   rw[Nat.add_zero] at this
   rw[this]
   split
   ·simp only[Rc.ap,upL,hd,if_true]
   ·exact h
  ·have: ∀(b:Bool) (s:ST),(if b then r.ap s else s).1 x=s.1 x:=fun b s=>by cases b<;>simp[Rc.ap,avA hd]
   rw[this,this,h]
theorem arM{nm:Nat}{p q:Nat→Bool}: ∀{us:List Rc} {k:Nat} {s s':ST},s.2 nm=s'.2 nm→(∀j r,us[j]? =some r→(∃e∈r.bl,e.1=nm)→p (k+j)=q (k+j))→(sel p k s us).2 nm=(sel q k s' us).2 nm
 |[],k,s,s',h,_=>h
 |r::t,k,s,s',h,hp=>by
  simp only[sel]
  refine arM ?_ fun j u hj hd=>by have:=hp (j+1) u (by simpa using hj) hd;rwa [show k+(j+1)=k+1+j by omega] at this
  by_cases hd: ∃e∈r.bl,e.1=nm
  ·have:=hp 0 r rfl hd
   rw[Nat.add_zero] at this
   rw[this]
   split
   ·exact amn fun _=>h
   ·exact h
  ·have: ∀(b:Bool) (s:ST),(if b then r.ap s else s).2 nm=s.2 nm:=fun b s=>by
    cases b
    ·rfl
    ·exact ap7 fun e he hc=>hd ⟨e,he,hc⟩
   rw[this,this,h]
theorem amH{x:Nat}{f:FX}{p:Nat→Bool}: ∀{us:List Rc} {k:Nat} {s:ST},(sel p k s us).1 x=some f→s.1 x=some f∨ ∃j r,us[j]? =some r∧p (k+j)=true∧r.d=some x∧r.f=f
 |[],k,s,h=> .inl h
 |r::t,k,s,h=>by
  simp only[sel] at h
  rcases amH h with h|⟨j,u,h1,h2,h3⟩
  ·cases hp:p k with
   |false=>rw[hp] at h;exact .inl h
   |true=>
    rw[hp] at h
    simp only[if_true,Rc.ap] at h
    by_cases hd:r.d=some x
    ·rw[hd] at h;simp only[upL,if_true] at h;cases h;exact .inr ⟨0,r,rfl,by simpa using hp,hd,rfl⟩
    ·rw[avA hd] at h;exact .inl h
  ·exact .inr ⟨j+1,u,by simpa using h1,by rw[show k+(j+1)=k+1+j by omega];exact h2,h3⟩
theorem aqG{nm:Nat}{B:Bk}: ∀{bl:List (Nat×Option Bk)} {s:BM},upB s bl nm=some B→s nm=some B∨(nm,some B)∈bl
 |[],s,h=> .inl h
 |(k,B')::t,s,h=>by
  simp only[upB] at h
  rcases aqG h with h|h
  ·by_cases e:nm=k
   ·subst e;simp only[if_true] at h;subst h;exact .inr List.mem_cons_self
   ·simp only[e,if_false] at h;exact .inl h
  ·exact .inr (List.mem_cons_of_mem _ h)
theorem amT{nm:Nat}{B:Bk}{p:Nat→Bool}: ∀{us:List Rc} {k:Nat} {s:ST},(sel p k s us).2 nm=some B→s.2 nm=some B∨ ∃j r,us[j]? =some r∧p (k+j)=true∧(nm,some B)∈r.bl
 |[],k,s,h=> .inl h
 |r::t,k,s,h=>by
  simp only[sel] at h
  rcases amT h with h|⟨j,u,h1,h2,h3⟩
  ·cases hp:p k with
   |false=>rw[hp] at h;exact .inl h
   |true=>
    rw[hp] at h
    rcases aqG h with h|h
    ·exact .inl h
    ·exact .inr ⟨0,r,rfl,by simpa using hp,h⟩
  ·exact .inr ⟨j+1,u,by simpa using h1,by rw[show k+(j+1)=k+1+j by omega];exact h2,h3⟩
/-! ### the order of the text -/
def aGL(acc:List Nat)(l:List Edge):Nat:=l.foldl (fun s e=>if Region.binds .any e then(s ||| 2^e.on) ||| acc.getD e.on 0 else s) 0
def art:List Oper→List Nat→List Nat
 |[],acc=>acc
 |o::r,acc=>art r (acc++[aGL acc o.after.toList])
inductive Bf (ops:List Oper):Nat→Nat→Prop
 |b {i:Nat} {o:Oper} {e:Edge} (ho:ops[i]? =some o) (he:e∈o.after) (hb:Region.binds .any e=true):Bf ops i e.on
 |s {i j:Nat} {o:Oper} {e:Edge} (ho:ops[i]? =some o) (he:e∈o.after) (hb:Region.binds .any e=true) (h:Bf ops e.on j):Bf ops i j
theorem anT{acc:List Nat}{j:Nat}: ∀(l:List Edge) (s:Nat),(l.foldl (fun s e=>if Region.binds .any e then(s ||| 2^e.on) ||| acc.getD e.on 0 else s) s).testBit j=true→s.testBit j=true∨ ∃e∈l,Region.binds .any e=true∧(e.on=j∨(acc.getD e.on 0).testBit j=true)
 |[],s,h=> .inl h
 |e::t,s,h=>by
  rw[List.foldl_cons] at h
  rcases anT t _ h with h|⟨e',h1,h2⟩
  ·split at h
   ·rename_i hb
    simp only[Nat.testBit_or,Bool.or_eq_true,Nat.testBit_two_pow,decide_eq_true_eq] at h
    rcases h with(h|h)|h
    ·exact .inl h
    ·exact .inr ⟨e,List.mem_cons_self,hb, .inl h⟩
    ·exact .inr ⟨e,List.mem_cons_self,hb, .inr h⟩
   ·exact .inl h
  ·exact .inr ⟨e',List.mem_cons_of_mem _ h1,h2⟩
theorem akX{all:List Oper}: ∀(r:List Oper) (acc:List Nat) (pre:List Oper),all=pre++r→acc.length=pre.length→(∀i j,(acc.getD i 0).testBit j=true→Bf all i j)→ ∀i j,((art r acc).getD i 0).testBit j=true→Bf all i j
 |[],acc,pre,_,_,h=>h
 |o::r,acc,pre,he,hl,h=>by
  refine akX r _ (pre++[o]) (by rw[he];simp) (by simp[hl]) fun i j hij=>?_
  rw[List.getD_eq_getElem?_getD,List.getElem?_append] at hij
  split at hij
  ·rename_i hi
   exact h i j (by rw[List.getD_eq_getElem?_getD];exact hij)
  ·rename_i hi
   by_cases e:i=acc.length
   ·subst e
    simp only[Nat.sub_self,List.getElem?_cons_zero,Option.getD_some] at hij
    have ho:all[acc.length]? =some o:=by rw[he,hl];simp
    rcases anT _ _ hij with h0|⟨e,h1,h2,h3⟩
    ·simp at h0
    ·rcases h3 with rfl|h3
     ·exact .b ho (by simpa using h1) h2
     ·exact .s ho (by simpa using h1) h2 (h _ _ h3)
   ·rw[List.getElem?_eq_none (by simp;omega)] at hij
    simp at hij
/-! ### what may change places -/
def aB2:Option Nat→Nat→Bool
 |some x,y=>Nat.beq x y
 |none,_=>false
def hit(a b:Rc):Bool:=(match a.d with|some x=>ayL b.rs x||aB2 b.d x|none=>false)||a.bl.any fun e=>ayL b.rn e.1||b.bl.any fun e'=>Nat.beq e'.1 e.1
def azH(nm:Nat)(f:FX):Bool:=aB2 f.nm nm
def aEK(nm:Nat):Option Bk→Bool
 |some (.o _ cs _)=>cs.any (azH nm)
 |_=>false
def ar4(r:Rc)(nm:Nat):Bool:=azH nm r.f||r.bl.any fun e=>aEK nm e.2
def aw0(m:Nat)(r:Rc):Nat→List Rc→Bool
 |_,[]=>true
 |j,u::t=>(!(hit u r||hit r u||u.nw.any (ar4 r))||m.testBit j)&&!(r.nw.any (ar4 u))&&aw0 m r (j+1) t
def apr:List Nat→List Rc→List Rc→Bool
 |m::ms,pre,r::t=>aw0 m r 0 pre&&apr ms (pre++[r]) t
 |_,_,[]=>true
 |[],_,_::_=>false
def akM:Nat→List Oper→Bool
 |_,[]=>true
 |i,o::t=>o.after.all (fun e=>!Region.binds .any e||Nat.blt e.on i)&&akM (i+1) t
def ase(us:List Rc)(fr:List (Nat×FX))(own:List (Nat×Option Bk)):Bool:=us.all fun r=>r.nw.all fun nm=>fr.all (fun e=>!azH nm e.2)&&own.all fun e=>!aEK nm e.2
theorem alc{m:Nat}{r:Rc}: ∀{l:List Rc} {k:Nat},aw0 m r k l=true→ ∀j u,l[j]? =some u→((hit u r=true∨hit r u=true∨ ∃nm∈u.nw,ar4 r nm=true)→m.testBit (k+j)=true)∧ ∀nm∈r.nw,ar4 u nm=false
 |[],k,_,j,u,h=>by simp at h
 |x::t,k,h,j,u,hj=>by
  simp only[aw0,Bool.and_eq_true,Bool.or_eq_true,Bool.not_eq_true'] at h
  obtain⟨⟨h1,h2⟩,h3⟩:=h
  cases j with
  |zero=>
   simp at hj;subst hj
   refine⟨fun hh=>?_,fun nm hn=>by have:=List.any_eq_false.1 h2 nm hn;simpa using this⟩
   rcases h1 with h1|h1
   ·simp only[Bool.or_eq_false_iff] at h1
    rcases hh with hh|hh|⟨nm,hn,hh⟩
    ·rw[h1.1.1] at hh;cases hh
    ·rw[h1.1.2] at hh;cases hh
    ·have:=List.any_eq_false.1 h1.2 nm hn;exact absurd hh this
   ·simpa using h1
  |succ j=>
   have:=alc h3 j u (by simpa using hj)
   rwa [show k+(j+1)=k+1+j by omega]
theorem akw: ∀{ms:List Nat} {pre t:List Rc},apr ms pre t=true→ ∀i r,t[i]? =some r→ ∀j u,(pre++t)[j]? =some u→j<pre.length+i→((hit u r=true∨hit r u=true∨ ∃nm∈u.nw,ar4 r nm=true)→(ms.getD i 0).testBit j=true)∧ ∀nm∈r.nw,ar4 u nm=false
 |[],pre,[],_,i,r,h=>by simp at h
 |_::_,pre,[],_,i,r,h=>by simp at h
 |[],pre,_::_,h,i,r,_=>by simp[apr] at h
 |m::ms,pre,x::t,h,i,r,hi=>by
  simp only[apr,Bool.and_eq_true] at h
  intro j u hj hlt
  cases i with
  |zero=>
   simp at hi;subst hi
   rw[List.getElem?_append_left (by omega)] at hj
   simpa using alc h.1 j u hj
  |succ i=>
   have:=akw h.2 i r (by simpa using hi) j u (by simpa using hj) (by simp;omega)
   simpa using this
theorem aju: ∀{l:List Oper} {k:Nat},akM k l=true→ ∀i o,l[i]? =some o→ ∀e∈o.after,Region.binds .any e=true→e.on<k+i
 |[],k,_,i,o,h=>by simp at h
 |x::t,k,h,i,o,hi=>by
  simp only[akM,Bool.and_eq_true] at h
  intro e he hb
  cases i with
  |zero=>
   simp at hi;subst hi
   have:=Array.all_eq_true_iff_forall_mem.1 h.1 e he
   simpa[hb] using this
  |succ i=>have:=aju h.2 i o (by simpa using hi) e he hb;omega
def wO(P:Program)(ops:Array Oper)(Q:Exit→Act→World→Prop)(o:Oper)(K:Act→World→Prop)(a:Act)(w:World):Prop:=
 if Region.wanted o (yielded ops a.tmps) then o.wp P a w K Q else K (a.put o.dst undef) w
section
variable {P:Program} {GB:Gh} {C:Ctx} {n:Nat} {ops:Array Oper} {Q:Exit→Act→World→Prop}
def OpS(P:Program)(GB:Gh)(C:Ctx)(n:Nat)(ops:Array Oper)(lk:LK)(bk:BM)(o:Oper)(f:FX)(bl:List (Nat×Option Bk))(nw:List Nat):Prop:=
 ∀(Q:Exit→Act→World→Prop) (tl:LK) (tb:BM) (K:Act→World→Prop),alT lk tl→alT bk tb→acS nw o.dst tl tb→SX GB C n (upL tl o.dst f) (upB tb bl) K→SX GB C n tl tb (wO P ops Q o K)
theorem SX.drew{lk:LK}{bk:BM}{Φ:Act→World→Prop}(h:SX GB C n lk bk Φ):SX GB C n lk bk (fun a w=>Φ a {w with drawn:=w.drawn+1}):=
 ⟨fun ρ G ov a w r=>h.run ρ G ov a _ ⟨r.gb,r.h.drew,r.sz,r.df,r.fx,r.bx,r.dj⟩⟩
structure Drawn (P:Program) (GB:Gh) (C:Ctx) (n:Nat) (ops:Array Oper) (us:List Rc) (s0:ST):Prop where
 len:us.length=ops.size
 snd: ∀i r o,us[i]? =some r→ops[i]? =some o→o.dst=r.d∧OpS P GB C n ops (rsX r.rs (sel (fun j=>decide (j<i)) 0 s0 us).1) (rsX r.rn (sel (fun j=>decide (j<i)) 0 s0 us).2) o r.f r.bl r.nw
 all:apr (art ops.toList []) [] us=true
 edge:akM 0 ops.toList=true
 fr0: ∀r∈us,∀nm∈r.nw,(∀k f,s0.1 k=some f→f.nm≠some nm)∧ ∀k B,s0.2 k=some B→ ¬B.men nm
theorem ahe{o:Option Nat}{k:Nat}:aB2 o k=true↔o=some k:=by cases o<;>simp[aB2]
theorem apm{B:Bk}{nm:Nat}(h:B.men nm):aEK nm (some B)=true:=by
 cases B with
 |o ty cs lo=>obtain⟨f,hf,e⟩:=h;exact List.any_eq_true.2 ⟨f,hf,ahe.2 e⟩
 |b=>cases h
 |c=>cases h
def lst(listed:Array Bool):Nat→Bool:=fun j=>listed.getD j false
def un(ops:Array Oper)(listed:Array Bool):Nat:=((List.range ops.size).filter fun j=>!listed.getD j true).length
theorem anj{α:Type}{p q:α→Bool}{x:α}: ∀{l:List α},x∈l→(∀y,q y=true→p y=true)→p x=true→q x=false→(l.filter q).length<(l.filter p).length
 |[],h,_,_,_=>by cases h
 |y::t,h,hpq,h1,h2=>by
  have le: ∀l:List α,(l.filter q).length≤(l.filter p).length:=fun l=>by
   induction l with
   |nil=>exact Nat.le_refl _
   |cons z l ih=>
    simp only[List.filter_cons]
    cases hq:q z with
    |true=>simp[hpq z hq];omega
    |false=>cases hp:p z<;>simp<;>omega
  rcases List.mem_cons.1 h with rfl|h
  ·simp only[List.filter_cons,h1,h2,if_true];have:=le t;simp;omega
  ·have ih:=anj h hpq h1 h2
   simp only[List.filter_cons]
   cases hq:q y with
   |true=>simp[hpq y hq];omega
   |false=>cases hp:p y<;>simp<;>omega
theorem Drawn.walk{us:List Rc}{s0:ST}(D:Drawn P GB C n ops us s0)(hk:SX GB C n (sel (fun _=>true) 0 s0 us).1 (sel (fun _=>true) 0 s0 us).2 (Q .normal)):
  ∀(fuel:Nat) (listed:Array Bool),listed.size=ops.size→(∀i o,ops[i]? =some o→lst listed i=true→ ∀e∈o.after,Region.binds .any e=true→lst listed e.on=true)→un ops listed≤fuel→
   SX GB C n (sel (lst listed) 0 s0 us).1 (sel (lst listed) 0 s0 us).2 (wpAny P .any ops Q fuel listed):=by
 -- what comes before something listed is listed
 have clo: ∀listed:Array Bool,(∀i o,ops[i]? =some o→lst listed i=true→ ∀e∈o.after,Region.binds .any e=true→lst listed e.on=true)→ ∀i j,Bf ops.toList i j→lst listed i=true→lst listed j=true:=by
  intro listed hc i j hb
  induction hb with
  |b ho he hb=>intro hi;exact hc _ _ (by simpa using ho) hi _ he hb
  |s ho he hb _ ih=>intro hi;exact ih (hc _ _ (by simpa using ho) hi _ he hb)
 have bf: ∀i j,((art ops.toList []).getD i 0).testBit j=true→Bf ops.toList i j:=akX ops.toList [] [] J J (fun i j h=>by simp at h)
 have spec: ∀i r,us[i]? =some r→ ∀j u,us[j]? =some u→j<i→((hit u r=true∨hit r u=true∨ ∃nm∈u.nw,ar4 r nm=true)→Bf ops.toList i j)∧ ∀nm∈r.nw,ar4 u nm=false:=fun i r hi j u hj hlt=>by
  have:=akw D.all i r hi j u (by simpa using hj) (by simpa using hlt)
  exact⟨fun h=>bf _ _ (this.1 h),this.2⟩
 have done: ∀listed:Array Bool,listed.size=ops.size→Region.ready .any ops listed=[]→ ∀i,i<ops.size→lst listed i=true:=by
  intro listed hsz hr i
  induction i using Nat.strongRecOn with
  |ind i ih=>
   intro hi
   cases hl:listed.getD i true with
   |true=>unfold lst;simp only[Array.getD_eq_getD_getElem?] at hl⊢;rw[Array.getElem?_eq_getElem (by omega)] at hl⊢;simpa using hl
   |false=>
    have:i∈Region.ready .any ops listed:=mem_ready.2 ⟨hl,ops[i],Array.getElem?_eq_getElem hi,fun e he hb=>by
     have hlt:=aju D.edge i ops[i] (by simp[hi]) e he hb
     exact ih e.on (by omega) (by omega)⟩
    rw[hr] at this;cases this
 have same: ∀listed:Array Bool,listed.size=ops.size→(∀i,i<ops.size→lst listed i=true)→(sel (lst listed) 0 s0 us).1=(sel (fun _=>true) 0 s0 us).1∧(sel (lst listed) 0 s0 us).2=(sel (fun _=>true) 0 s0 us).2:=by
  intro listed hsz h
  refine⟨funext fun x=>atv rfl fun j r hj _=>?_,funext fun x=>arM rfl fun j r hj _=>?_⟩<;>
  ·rw[Nat.zero_add];exact h j (by have:=(List.getElem?_eq_some_iff.1 hj).1;rw[D.len] at this;exact this)
 intro fuel
 induction fuel with
 |zero=>
  intro listed hsz hc hu
  have all: ∀i,i<ops.size→lst listed i=true:=fun i hi=>by
   cases hl:listed.getD i true with
   |true=>unfold lst;simp only[Array.getD_eq_getD_getElem?] at hl⊢;rw[Array.getElem?_eq_getElem (by omega)] at hl⊢;simpa using hl
   |false=>
    have h0:=List.length_eq_zero_iff.1 (Nat.le_zero.1 hu)
    have:=List.filter_eq_nil_iff.1 h0 i (List.mem_range.2 hi)
    simp[hl] at this
  obtain⟨e1,e2⟩:=same listed hsz all
  rw[e1,e2]
  refine hk.imp fun a w h=>⟨?_,h⟩
  refine List.eq_nil_iff_forall_not_mem.2 fun i hi=>?_
  obtain⟨h1,o,ho,_⟩:=mem_ready.1 hi
  have hlt:=(Array.getElem?_eq_some_iff.1 ho).1
  have h2:=all i hlt
  unfold lst at h2
  simp only[Array.getD_eq_getD_getElem?] at h1 h2
  rw[Array.getElem?_eq_getElem (by omega)] at h1 h2
  simp at h1 h2
  rw[h1] at h2;cases h2
 |succ fuel ih=>
  intro listed hsz hc hu
  refine⟨fun ρ G ov a w r=>⟨fun hr=>?_,fun i hi=>?_⟩⟩
  ·obtain⟨e1,e2⟩:=same listed hsz (done listed hsz hr)
   rw[e1,e2] at r
   exact hk.run ρ G ov a w r
  ·obtain⟨h1,o,ho,hall⟩:=mem_ready.1 hi
   have hlt:=(Array.getElem?_eq_some_iff.1 ho).1
   have hli:lst listed i=false:=by
    unfold lst
    simp only[Array.getD_eq_getD_getElem?] at h1⊢
    rw[Array.getElem?_eq_getElem (by omega)] at h1⊢
    simpa using h1
   obtain⟨u,hui⟩: ∃u,us[i]? =some u:=⟨us[i]'(by rw[D.len];exact hlt),List.getElem?_eq_getElem _⟩
   obtain⟨hd,hop⟩:=D.snd i u o hui ho
   have bl: ∀j,Bf ops.toList i j→lst listed j=true:=fun j hb=>by
    cases hb with
    |b ho' he hb=>rw[Array.getElem?_toList,ho] at ho';cases ho';exact hall _ he hb
    |s ho' he hb h=>rw[Array.getElem?_toList,ho] at ho';cases ho';exact clo listed hc _ _ h (hall _ he hb)
   have nb: ∀j r,us[j]? =some r→(hit r u=true∨hit u r=true)→decide (j<i)=lst listed j:=fun j r hj hh=>by
    rcases Nat.lt_trichotomy j i with h|h|h
    ·rw[bl j ((spec i u hui j r hj h).1 (hh.imp id .inl))];simpa using h
    ·subst h;rw[hli];simp
    ·cases hl:lst listed j with
     |false=>simp;omega
     |true=>have:=clo listed hc j i ((spec j r hj i u hui h).1 (hh.symm.imp id .inl)) hl;rw[hli] at this;cases this
   have sz':(listed.setIfInBounds i true).size=ops.size:=by simpa using hsz
   have l': ∀j,j≠i→lst (listed.setIfInBounds i true) j=lst listed j:=fun j hj=>by unfold lst;rw[getD_set_ne false (Ne.symm hj)]
   have li':lst (listed.setIfInBounds i true) i=true:=by unfold lst;simp[hsz,hlt]
   have hc': ∀j o',ops[j]? =some o'→lst (listed.setIfInBounds i true) j=true→ ∀e∈o'.after,Region.binds .any e=true→lst (listed.setIfInBounds i true) e.on=true:=fun j o' hj hlj e he hb=>by
    by_cases hji:j=i
    ·subst hji;rw[ho] at hj;cases hj
     exact getD_set_true (hall e he hb)
    ·rw[l' j hji] at hlj
     exact getD_set_true (hc j o' hj hlj e he hb)
   have hu':un ops (listed.setIfInBounds i true)≤fuel:=by
    have:un ops (listed.setIfInBounds i true)<un ops listed:=by
     refine anj (x:=i) (List.mem_range.2 hlt) (fun y hy=>?_) (by simp[h1]) (by simp[hsz,hlt])
     by_cases hyi:y=i
     ·subst hyi;simp[hsz,hlt] at hy
     ·rwa [getD_set_ne true (Ne.symm hyi)] at hy
    omega
   have next:=ih _ sz' hc' hu'
   have e1:(sel (lst (listed.setIfInBounds i true)) 0 s0 us).1=upL (sel (lst listed) 0 s0 us).1 o.dst u.f:=by
    funext x
    rw[hd]
    by_cases hx:u.d=some x
    ·-- i is the last to write x
     have key: ∀(us':List Rc) (k:Nat) (s:ST) (p:Nat→Bool) (m:Nat),us'[m]? =some u→p (k+m)=true→(∀j r,us'[j]? =some r→r.d=some x→j≠m→j<m∨p (k+j)=false)→(sel p k s us').1 x=some u.f:=by
      intro us'
      induction us' with
      |nil=>intro k s p m h;simp at h
      |cons r t iht=>
       intro k s p m h hp hj
       simp only[sel]
       cases m with
       |zero=>
        simp at h;subst h
        rw[Nat.add_zero] at hp
        rw[hp]
        have:(sel p (k+1) (r.ap s) t).1 x=(sel (fun _=>false) (k+1) (r.ap s) t).1 x:=atv rfl fun j r' hj' hd'=>by
         have:=hj (j+1) r' (by simpa using hj') hd' (by omega)
         rw[show k+(j+1)=k+1+j by omega] at this
         exact this.resolve_left (by omega)
        simp only[if_true,this]
        have nosel: ∀(l:List Rc) (k:Nat) (s:ST),sel (fun _=>false) k s l=s:=fun l=>by
         induction l with
         |nil=>intro k s;rfl
         |cons y l ih=>intro k s;exact ih _ _
        rw[nosel]
        simp[Rc.ap,upL,hx]
       |succ m=>
        refine iht _ _ p m (by simpa using h) (by rw[show k+1+m=k+(m+1) by omega];exact hp) fun j r' hj' hd' hne=>?_
        have:=hj (j+1) r' (by simpa using hj') hd' (by omega)
        rw[show k+1+j=k+(j+1) by omega]
        exact this.imp (fun h=>by omega) id
     rw[key us 0 s0 _ i hui (by rw[Nat.zero_add];exact li') fun j r hj hdr hne=>?_]
     ·rw[hx];simp[upL]
     ·rw[Nat.zero_add,l' j hne]
      have:=nb j r hj (.inl (by simp[hit,hdr,hx,aB2]))
      rw[←this]
      by_cases hji:j<i
      ·exact .inl hji
      ·exact .inr (by simpa using hji)
    ·rw[avA hx]
     refine atv rfl fun j r hj hdr=>?_
     rw[Nat.zero_add]
     exact l' j fun e=>by subst e;rw[hui] at hj;cases hj;exact hx hdr
   have e2:(sel (lst (listed.setIfInBounds i true)) 0 s0 us).2=upB (sel (lst listed) 0 s0 us).2 u.bl:=by
    funext x
    by_cases hx: ∃e∈u.bl,e.1=x
    ·have key: ∀(us':List Rc) (k:Nat) (s s':ST) (p q:Nat→Bool) (m:Nat),us'[m]? =some u→p (k+m)=true→(∀j r,us'[j]? =some r→(∃e∈r.bl,e.1=x)→j≠m→q (k+j)=p (k+j)∧(j<m∨p (k+j)=false))→q (k+m)=false→s.2 x=s'.2 x→(sel p k s us').2 x=upB (sel q k s' us').2 u.bl x:=by
      intro us'
      induction us' with
      |nil=>intro k s s' p q m h;simp at h
      |cons r t iht=>
       intro k s s' p q m h hp hj hq hs
       simp only[sel]
       cases m with
       |zero=>
        simp at h;subst h
        rw[Nat.add_zero] at hp hq
        rw[hp,hq]
        have nosel: ∀(l:List Rc) (k:Nat) (s:ST),sel (fun _=>false) k s l=s:=fun l=>by
         induction l with
         |nil=>intro k s;rfl
         |cons y l ih=>intro k s;exact ih _ _
        have a1:(sel p (k+1) (r.ap s) t).2 x=(sel (fun _=>false) (k+1) (r.ap s) t).2 x:=arM rfl fun j r' hj' hd'=>by
         have:=(hj (j+1) r' (by simpa using hj') hd' (by omega)).2
         rw[show k+(j+1)=k+1+j by omega] at this
         exact this.resolve_left (by omega)
        have a2:(sel q (k+1) s' t).2 x=(sel (fun _=>false) (k+1) s' t).2 x:=arM rfl fun j r' hj' hd'=>by
         obtain⟨h3,h4⟩:=hj (j+1) r' (by simpa using hj') hd' (by omega)
         rw[show k+(j+1)=k+1+j by omega] at h3 h4
         rw[h3];exact h4.resolve_left (by omega)
        simp only[if_true,Bool.false_eq_true,if_false,a1,nosel]
        exact amn fun _=>by rw[a2,nosel];exact hs
       |succ m=>
        refine iht _ _ _ p q m (by simpa using h) (by rw[show k+1+m=k+(m+1) by omega];exact hp) (fun j r' hj' hd' hne=>?_) (by rw[show k+1+m=k+(m+1) by omega];exact hq) ?_
        ·obtain⟨h3,h4⟩:=hj (j+1) r' (by simpa using hj') hd' (by omega)
         rw[show k+1+j=k+(j+1) by omega]
         exact⟨h3,h4.imp (fun h=>by omega) id⟩
        ·by_cases hr: ∃e∈r.bl,e.1=x
         ·have:=(hj 0 r rfl hr (by omega)).1
          rw[Nat.add_zero] at this
          rw[this]
          cases p k
          ·exact hs
          ·exact amn fun _=>hs
         ·have: ∀(b:Bool) (s:ST),(if b then r.ap s else s).2 x=s.2 x:=fun b s=>by
           cases b
           ·rfl
           ·exact ap7 fun e he hc=>hr ⟨e,he,hc⟩
          rw[this,this];exact hs
     refine key us 0 s0 s0 _ _ i hui (by rw[Nat.zero_add];exact li') (fun j r hj hdr hne=>?_) (by rw[Nat.zero_add];exact hli) rfl
     rw[Nat.zero_add]
     refine⟨(l' j hne).symm,?_⟩
     rw[l' j hne]
     obtain⟨e,he,rfl⟩:=hx
     obtain⟨e',he',hee⟩:=hdr
     have hh:hit u r=true:=by
      unfold hit
      rw[Bool.or_eq_true]
      exact .inr (List.any_eq_true.2 ⟨e,he,by rw[Bool.or_eq_true];exact .inr (List.any_eq_true.2 ⟨e',he',by simpa using hee⟩)⟩)
     rw[←nb j r hj (.inr hh)]
     by_cases hji:j<i
     ·exact .inl hji
     ·exact .inr (by simpa using hji)
    ·rw[ap7 fun e he hc=>hx ⟨e,he,hc⟩]
     refine arM rfl fun j r hj hdr=>?_
     rw[Nat.zero_add]
     exact l' j fun e=>by subst e;rw[hui] at hj;cases hj;exact hx hdr
   rw[e1,e2] at next
   have sub1:alT (rsX u.rs (sel (fun j=>decide (j<i)) 0 s0 us).1) (sel (lst listed) 0 s0 us).1:=fun x f hx=>by
    unfold rsX at hx
    cases hm:ayL u.rs x with
    |false=>rw[hm] at hx;cases hx
    |true=>
     rw[hm,cond_true] at hx
     rw[←hx]
     refine(atv rfl fun j r hj hdr=>?_).symm
     rw[Nat.zero_add]
     exact nb j r hj (.inl (by simp[hit,hdr,hm]))
   have sub2:alT (rsX u.rn (sel (fun j=>decide (j<i)) 0 s0 us).2) (sel (lst listed) 0 s0 us).2:=fun x B hx=>by
    unfold rsX at hx
    cases hm:ayL u.rn x with
    |false=>rw[hm] at hx;cases hx
    |true=>
     rw[hm,cond_true] at hx
     rw[←hx]
     refine(arM rfl fun j r hj hdr=>?_).symm
     rw[Nat.zero_add]
     obtain⟨e,he,rfl⟩:=hdr
     refine nb j r hj (.inl ?_)
     unfold hit
     rw[Bool.or_eq_true]
     exact .inr (List.any_eq_true.2 ⟨e,he,by rw[hm];rfl⟩)
   have fr:acS u.nw o.dst (sel (lst listed) 0 s0 us).1 (sel (lst listed) 0 s0 us).2:=fun nm hnm=>by
    obtain⟨g1,g2⟩:=D.fr0 u (List.mem_of_getElem? hui) nm hnm
    have men: ∀j r,us[j]? =some r→lst listed j=true→ar4 r nm=false:=fun j r hj hlj=>by
     rcases Nat.lt_trichotomy j i with h|h|h
     ·exact(spec i u hui j r hj h).2 nm hnm
     ·subst h;rw[hli] at hlj;cases hlj
     ·cases hm:ar4 r nm with
      |false=>rfl
      |true=>have:=clo listed hc j i ((spec j r hj i u hui h).1 (.inr (.inr ⟨nm,hnm,hm⟩))) hlj;rw[hli] at this;cases this
    refine⟨fun k f hk e=>?_,fun k B hk e hm=>?_⟩
    ·intro hc'
     rcases amH e with h|⟨j,r,h1,h2,h3,h4⟩
     ·exact g1 k f h hc'
     ·have:=men j r h1 (by simpa using h2)
      simp only[ar4,Bool.or_eq_false_iff,azH] at this
      rw[h4,ahe.2 hc'] at this
      cases this.1
    ·rcases amT e with h|⟨j,r,h1,h2,h3⟩
     ·exact g2 k B h hm
     ·have:=men j r h1 (by simpa using h2)
      simp only[ar4,Bool.or_eq_false_iff] at this
      have:=List.any_eq_false.1 this.2 _ h3
      exact this (apm hm)
   have fin:=hop Q _ _ _ sub1 sub2 fr next
   have:=fin.run ρ G ov a w r
   unfold wO at this
   unfold wpOp
   rw[ho]
   simp only
   split
   ·rename_i hw;rw[if_pos hw] at this;exact .inl this
   ·rename_i hw;rw[if_neg hw] at this;exact this
theorem aGy(m k:Nat):lst (Array.replicate m false) k=false:=by unfold lst;simp[Array.getElem?_replicate];split<;>rfl
theorem Drawn.region{us:List Rc}{s0:ST}{id:Nat}(D:Drawn P GB C n ops us s0)(hm:P.follows .mixedOrders=true)(hk:SX GB C n (sel (fun _=>true) 0 s0 us).1 (sel (fun _=>true) 0 s0 us).2 (Q .normal)):SX GB C n s0.1 s0.2 ((Code.region id ops true).wp P Q):=by
 have h:=D.walk hk ops.size (Array.replicate ops.size false) (by simp) (fun i o _ hi=>by rw[aGy] at hi;cases hi) (by unfold un;exact Nat.le_trans (List.length_filter_le _ _) (by simp))
 have e:sel (lst (Array.replicate ops.size false)) 0 s0 us=s0:=by
  have: ∀(l:List Rc) (k:Nat) (s:ST),sel (lst (Array.replicate ops.size false)) k s l=s:=fun l=>by
   induction l with
   |nil=>intro k s;rfl
   |cons y l ih=>
    intro k s
    simp only[sel]
    rw[ih]
    rw[aGy];rfl
  exact this us 0 s0
 rw[e] at h
 exact h.drew.imp fun a w k=>wp_region_any hm k
end
abbrev FrX:=List (Nat×FX)
abbrev OwX:=List (Nat×Option Bk)
def aaw:FrX→Nat→Option FX
 |[],_=>none
 |(k,v)::t,j=>bif Nat.beq k j then some v else aaw t j
def aaA:OwX→Nat→Option Bk
 |[],_=>none
 |(k,v)::t,j=>bif Nat.beq k j then v else aaA t j
def aBM{α:Type}:OwX→Nat→Option Bk→(OwX→α)→α
 |[],nm,B,k=>k [(nm,B)]
 |(j,v)::t,nm,B,k=>bif Nat.beq j nm then k ((nm,B)::t) else aBM t nm B fun t'=>k ((j,v)::t')
def akl{α:Type}:OwX→List (Nat×Option Bk)→(OwX→α)→α
 |own,[],k=>k own
 |own,(nm,B)::t,k=>aBM own nm B fun own'=>akl own' t k
def arJ(own:OwX)(nm:Nat)(B:Option Bk):OwX:=aBM own nm B id
def anQ(own:OwX)(l:List (Nat×Option Bk)):OwX:=akl own l id
theorem ahp{α:Type}{nm:Nat}{B:Option Bk}: ∀{own:OwX} {k:OwX→α},aBM own nm B k=k (arJ own nm B)
 |[],k=>rfl
 |(j,v)::t,k=>by
  unfold arJ aBM
  cases Nat.beq j nm with
  |true=>rfl
  |false=>rw[cond_false,cond_false,ahp (own:=t),ahp (own:=t)];rfl
theorem aeY{α:Type}: ∀{l:List (Nat×Option Bk)} {own:OwX} {k:OwX→α},akl own l k=k (anQ own l)
 |[],own,k=>rfl
 |(nm,B)::t,own,k=>by
  unfold anQ akl
  rw[ahp,ahp,aeY (l:=t),aeY (l:=t)]
  rfl
theorem abb(k:Nat)(v:FX)(t:FrX)(j:Nat):aaw ((k,v)::t) j=if j=k then some v else aaw t j:=by
 simp only[aaw]
 by_cases h:k=j
 ·simp[h]
 ·have:Nat.beq k j=false:=by
   cases hb:Nat.beq k j with
   |false=>rfl
   |true=>exact absurd (Nat.eq_of_beq_eq_true hb) h
  simp[this,Ne.symm h]
theorem aaI(k:Nat)(v:Option Bk)(t:OwX)(j:Nat):aaA ((k,v)::t) j=if j=k then v else aaA t j:=by
 simp only[aaA]
 by_cases h:k=j
 ·simp[h]
 ·have:Nat.beq k j=false:=by
   cases hb:Nat.beq k j with
   |false=>rfl
   |true=>exact absurd (Nat.eq_of_beq_eq_true hb) h
  simp[this,Ne.symm h]
theorem afk{nm:Nat}{B:Option Bk}(j:Nat): ∀own:OwX,aaA (arJ own nm B) j=if j=nm then B else aaA own j
 |[]=>aaI nm B [] j
 |(k,v)::t=>by
  have ih:=afk (nm:=nm) (B:=B) j t
  unfold arJ aBM
  cases hb:Nat.beq k nm with
  |true=>
   have e:=Nat.eq_of_beq_eq_true hb;subst e
   rw[cond_true,id,aaI,aaI]
   by_cases h:j=k<;>simp[h]
  |false=>
   have hne:k≠nm:=fun e=>by subst e;simp at hb
   rw[cond_false,ahp,id,aaI,aaI,ih]
   by_cases h:j=k
   ·subst h;simp[hne]
   ·simp[h]
theorem afO: ∀(l:List (Nat×Option Bk)) (own:OwX),aaA (anQ own l)=upB (aaA own) l
 |[],own=>rfl
 |(nm,B)::t,own=>by
  have:anQ own ((nm,B)::t)=anQ (arJ own nm B) t:=by rw[anQ,akl,ahp];rfl
  rw[this,afO t]
  simp only[upB]
  congr 1
  funext j
  exact afk j own
def aEL(fr:FrX)(dst:Option Nat)(f:FX):FrX:=match dst with
 |some d=>(d,f)::fr
 |none=>fr
theorem ai3{fr:FrX}{dst:Option Nat}{f:FX}:aaw (aEL fr dst f)=upL (aaw fr) dst f:=by
 cases dst with
 |none=>rfl
 |some d=>funext j;exact abb d f fr j
/-! ### one operation -/
def arO(T:TT)(n:Nat)(ops:Array Oper)(lk:LK)(bk:BM):Oper→Option CR
 |⟨dst,op,_,_,_,gd⟩=>bif aaO n dst then(match gd with
  |none=>aB4 T lk bk dst op
  |some (j,b)=>match ops[j]? with
   |some oj=>match oj.dst with
    |some d=>match lk d with
     |some .tt=>bif b then aB4 T lk bk dst op else some ⟨none, .un,[],[]⟩
     |some .ff=>bif b then some ⟨none, .un,[],[]⟩ else aB4 T lk bk dst op
     |some .un=>some ⟨none, .un,[],[]⟩
     |_=>none
    |none=>none
   |none=>none) else none
section
variable {P:Program} {T:TT} {GB:Gh} {C:Ctx} {n:Nat} {lk:LK} {bk:BM} {ops:Array Oper}
theorem OpR.toS{dst:Option Nat}{op:Op}{ty:TypeId}{pos:String}{af:Array Edge}{gd:Option (Nat×Bool)}{f:FX}{bl:List (Nat×Option Bk)}{nw:List Nat}(h:OpR P GB C n lk bk ⟨dst,op,ty,pos,af,gd⟩ f bl nw)(hd:aaO n dst=true)
  (hw: ∀ρ G ov a w,RlX GB C n lk bk ρ G ov a w→Region.wanted ⟨dst,op,ty,pos,af,gd⟩ (yielded ops a.tmps)=true):OpS P GB C n ops lk bk ⟨dst,op,ty,pos,af,gd⟩ f bl nw:=by
 intro Q tl tb K s1 s2 hf hk
 have:=h hd tl tb K s1 s2 hf hk
 refine⟨fun ρ G ov a w r=>?_⟩
 unfold wO
 rw[if_pos (hw ρ G ov a w (r.mono s1 s2))]
 exact this.run ρ G ov a w r Q
theorem OpS.skip{dst:Option Nat}{op:Op}{ty:TypeId}{pos:String}{af:Array Edge}{gd:Option (Nat×Bool)}(hd:aaO n dst=true)
  (hw: ∀ρ G ov a w,RlX GB C n lk bk ρ G ov a w→Region.wanted ⟨dst,op,ty,pos,af,gd⟩ (yielded ops a.tmps)=false):OpS P GB C n ops lk bk ⟨dst,op,ty,pos,af,gd⟩ .un [] []:=by
 intro Q tl tb K s1 s2 hf hk
 refine⟨fun ρ G ov a w r=>?_⟩
 unfold wO
 rw[hw ρ G ov a w (r.mono s1 s2)]
 exact hk.run ρ G ov _ w (r.put rfl (r.putA undef hd))
theorem afA{ρ:NE}{G:Gh}{ov:List Own}{a:Act}{w:World}(r:RlX GB C n lk bk ρ G ov a w){j d:Nat}{oj:Oper}{f:FX}(hj:ops[j]? =some oj)(hd:oj.dst=some d)(hf:lk d=some f): ∃y,IsX ρ G f y∧yielded ops a.tmps j=match y with| .bool b=>some b|_=>none:=by
 obtain⟨y,h1,h2⟩:=r.fx d f hf
 refine⟨y,h2,?_⟩
 unfold yielded
 rw[hj]
 simp only[Option.bind_some,hd,h1]
 cases y<;>rfl
theorem aqw{o:Oper}{r:CR}(hT:TOK P T)(h:arO T n ops lk bk o=some r)(hv: ∀p,r.vc=some p→p):OpS P GB C n ops lk bk o r.f r.bl r.nw∧aaO n o.dst=true:=by
 obtain⟨dst,op,ty,pos,af,gd⟩:=o
 simp only[arO] at h
 cases hd:aaO n dst with
 |false=>rw[hd] at h;cases h
 |true=>
  rw[hd,cond_true] at h
  refine⟨?_,rfl⟩
  split at h
  ·exact(ahy hT h hv).toS hd fun _ _ _ _ _ _=>rfl
  ·rename_i j b
   split at h<;>try (cases h;done)
   rename_i oj hj
   split at h<;>try (cases h;done)
   rename_i d hdj
   split at h<;>try (cases h;done)
   ·rename_i hl
    have wt: ∀ρ G ov (a:Act) w,RlX GB C n lk bk ρ G ov a w→Region.wanted ⟨dst,op,ty,pos,af,some (j,b)⟩ (yielded ops a.tmps)=b:=fun ρ G ov a w r=>by
     obtain⟨y,h1,h2⟩:=afA r hj hdj hl
     cases h1
     simp only[Region.wanted,h2];cases b<;>rfl
    cases b with
    |true=>exact(ahy hT h hv).toS hd wt
    |false=>cases h;exact .skip hd wt
   ·rename_i hl
    have wt: ∀ρ G ov (a:Act) w,RlX GB C n lk bk ρ G ov a w→Region.wanted ⟨dst,op,ty,pos,af,some (j,b)⟩ (yielded ops a.tmps)=!b:=fun ρ G ov a w r=>by
     obtain⟨y,h1,h2⟩:=afA r hj hdj hl
     cases h1
     simp only[Region.wanted,h2];cases b<;>rfl
    cases b with
    |true=>cases h;exact .skip hd wt
    |false=>exact(ahy hT h hv).toS hd wt
   ·rename_i hl
    cases h
    refine .skip hd fun ρ G ov a w r=>?_
    obtain⟨y,h1,h2⟩:=afA r hj hdj hl
    cases h1
    simp only[Region.wanted,h2];rfl
end
/-! ### places in the code -/
inductive Kt where
 |sq (c:Code)
 |bl (id:Nat)
 |sc
 |ag (A:Act→World→Prop)
def cQ(P:Program)(Q0:Exit→Act→World→Prop):List Kt→Exit→Act→World→Prop
 |[]=>Q0
 | .sq y::K=>Exit.then (y.wp P (cQ P Q0 K)) (cQ P Q0 K)
 | .bl id::K=>Exit.inBlock id (cQ P Q0 K)
 | .sc::K=>Exit.noGoto (cQ P Q0 K)
 | .ag A::K=>Exit.then A (cQ P Q0 K)
inductive Cf where
 |code (c:Code) (K:List Kt)
 |ops (ops:Array Oper) (r:List Oper) (K:List Kt)
 |dr (id:Nat) (ops:Array Oper) (fr0:FrX) (own0:OwX) (us:List Rc) (r:List Oper) (K:List Kt)
 |ex (e:Exit) (K:List Kt)
structure DrI (P:Program) (GB:Gh) (C:Ctx) (n:Nat) (ops:Array Oper) (fr0:FrX) (own0:OwX) (us:List Rc) (r:List Oper) (fr:FrX) (own:OwX):Prop where
 pre: ∃pre,ops.toList=pre++r∧pre.length=us.length
 st:sel (fun _=>true) 0 (aaw fr0,aaA own0) us=(aaw fr,aaA own)
 snd: ∀i u o,us[i]? =some u→ops[i]? =some o→o.dst=u.d∧OpS P GB C n ops (rsX u.rs (sel (fun j=>decide (j<i)) 0 (aaw fr0,aaA own0) us).1) (rsX u.rn (sel (fun j=>decide (j<i)) 0 (aaw fr0,aaA own0) us).2) o u.f u.bl u.nw
def CfS(P:Program)(GB:Gh)(C:Ctx)(n:Nat)(Q0:Exit→Act→World→Prop)(fr:FrX)(own:OwX):Cf→Prop
 | .code c K=>SX GB C n (aaw fr) (aaA own) (c.wp P (cQ P Q0 K))
 | .ops ops r K=>SX GB C n (aaw fr) (aaA own) (wpL P ops (cQ P Q0 K) r)
 | .dr id ops fr0 own0 us r K=>DrI P GB C n ops fr0 own0 us r fr own→SX GB C n (aaw fr0) (aaA own0) ((Code.region id ops true).wp P (cQ P Q0 K))
 | .ex e K=>SX GB C n (aaw fr) (aaA own) (cQ P Q0 K e)
structure Res where
 vc:List Prop
 fr:FrX
 own:OwX
 cf:Cf
def acc(v:Option Prop)(l:List Prop):List Prop:=match v with
 |some p=>p::l
 |none=>l
def aFG{α:Type}(v:Option Prop)(l:List Prop)(k:List Prop→α):α:=match v with
 |some p=>k (p::l)
 |none=>k l
theorem avt{α:Type}{v:Option Prop}{l:List Prop}{k:List Prop→α}:aFG v l k=k (acc v l):=by cases v<;>rfl
def aBW{α:Type}(fr:FrX)(dst:Option Nat)(f:FX)(k:FrX→α):α:=match dst with
 |some d=>k ((d,f)::fr)
 |none=>k fr
theorem aiR{α:Type}{fr:FrX}{dst:Option Nat}{f:FX}{k:FrX→α}:aBW fr dst f k=k (aEL fr dst f):=by cases dst<;>rfl
def ah6(nw:List Nat)(dst:Option Nat)(fr:FrX)(own:OwX):Bool:=nw.all fun nm=>fr.all (fun e=>aB2 dst e.1||!azH nm e.2)&&own.all fun e=>Nat.beq e.1 nm||!aEK nm e.2
def akR:List Operand→List Nat
 |[]=>[]
 | .tmp t::r=>t::akR r
 |_::r=>akR r
def alO(fr:FrX):List Nat→List Nat
 |[]=>[]
 |t::r=>match aaw fr t with
  |some f=>match f.nm with
   |some nm=>nm::alO fr r
   |none=>alO fr r
  |none=>alO fr r
def aqs(o:Oper)(fr:FrX)(rs:List Nat):List Nat:=match o.op with
 | .move _=>[]
 |_=>alO fr rs
def ajw(ops:Array Oper)(o:Oper):List Nat:=match o.guard with
 |some (j,_)=>match ops[j]? with
  |some oj=>match oj.dst with
   |some d=>d::akR o.op.operands.toList
   |none=>akR o.op.operands.toList
  |none=>akR o.op.operands.toList
 |none=>akR o.op.operands.toList
def go(T:TT)(n:Nat):Nat→List Prop→FrX→OwX→Cf→Res
 |0,l,fr,own,cf=>⟨l,fr,own,cf⟩
 |k+1,l,fr,own, .code c K=>match c with
  | .seq x y=>go T n k l fr own (.code x (.sq y::K))
  | .region id ops d=>bif d then go T n k l fr own (.dr id ops fr own [] ops.toList K) else go T n k l fr own (.ops ops ops.toList K)
  | .skip=>go T n k l fr own (.ex .normal K)
  | .ret=>go T n k l fr own (.ex .ret K)
  | .exit id=>go T n k l fr own (.ex (.exit id) K)
  | .block id c=>go T n k l fr own (.code c (.bl id::K))
  | .scope c=>go T n k l fr own (.code c (.sc::K))
  | .label _=>go T n k l fr own (.ex .normal K)
  | .cond c x y=>match evX (aaw fr) c with
   |some .tt=>go T n k l fr own (.code x K)
   |some .ff=>go T n k l fr own (.code y K)
   |_=>⟨l,fr,own, .code (.cond c x y) K⟩
  |c=>⟨l,fr,own, .code c K⟩
 |k+1,l,fr,own, .ex e K=>match K with
  | .sq y::K'=>match e with
   | .normal=>go T n k l fr own (.code y K')
   |e=>go T n k l fr own (.ex e K')
  | .bl id::K'=>match e with
   | .exit j=>bif Nat.beq j id then go T n k l fr own (.ex .normal K') else go T n k l fr own (.ex (.exit j) K')
   |e=>go T n k l fr own (.ex e K')
  | .sc::K'=>bif avv e then go T n k l fr own (.ex e K') else⟨l,fr,own, .ex e (.sc::K')⟩
  | .ag A::K'=>match e with
   | .normal=>⟨l,fr,own, .ex .normal (.ag A::K')⟩
   |e=>go T n k l fr own (.ex e K')
  |[]=>⟨l,fr,own, .ex e []⟩
 |k+1,l,fr,own, .ops ops r K=>match r with
  |[]=>go T n k l fr own (.ex .normal K)
  |o::r'=>match arO T n ops (aaw fr) (aaA own) o with
   |some ⟨v,f,bl,nw⟩=>bif ah6 nw o.dst fr own then akl own bl fun own'=>aFG v l fun l'=>aBW fr o.dst f fun fr'=>go T n k l' fr' own' (.ops ops r' K) else⟨l,fr,own, .ops ops (o::r') K⟩
   |none=>⟨l,fr,own, .ops ops (o::r') K⟩
 |k+1,l,fr,own, .dr id ops fr0 own0 us r K=>match r with
  |[]=>go T n k (((apr (art ops.toList []) [] us&&akM 0 ops.toList&&ase us fr0 own0)=true)::l) fr own (.ex .normal K)
  |o::r'=>fcL (ajw ops o) fun rs=>fcL (aqs o fr rs) fun rn=>match arO T n ops (rsX rs (aaw fr)) (rsX rn (aaA own)) o with
   |some ⟨v,f,bl,nw⟩=>akl own bl fun own'=>fcL (us++[⟨rs,o.dst,f,rn,bl,nw⟩]) fun us'=>aFG v l fun l'=>aBW fr o.dst f fun fr'=>go T n k l' fr' own' (.dr id ops fr0 own0 us' r' K)
   |none=>⟨l,fr,own, .dr id ops fr0 own0 us (o::r') K⟩
def aai:List Prop→Prop
 |[]=>True
 |[p]=>p
 |p::t=>aai t∧p
theorem anh{p:Prop}{t:List Prop}:aai (p::t)↔aai t∧p:=by cases t<;>simp[aai]
theorem aqk{v:Option Prop}{l:List Prop}(h:aai (acc v l)):aai l∧ ∀p,v=some p→p:=by
 cases v with
 |none=>exact⟨h,fun p e=>by cases e⟩
 |some q=>obtain⟨h1,h2⟩:=anh.1 h;exact⟨h1,fun p e=>by cases e;exact h2⟩
theorem ai7{f:FX}{k:Nat}: ∀{fr:FrX},aaw fr k=some f→(k,f)∈fr
 |[],h=>by cases h
 |(j,g)::t,h=>by
  rw[abb] at h
  split at h
  ·cases h;rename_i e;rw[e];exact List.mem_cons_self
  ·exact List.mem_cons_of_mem _ (ai7 h)
theorem ajI{B:Bk}{k:Nat}: ∀{own:OwX},aaA own k=some B→(k,some B)∈own
 |[],h=>by cases h
 |(j,g)::t,h=>by
  rw[aaI] at h
  split at h
  ·rename_i e;rw[e,h];exact List.mem_cons_self
  ·exact List.mem_cons_of_mem _ (ajI h)
theorem afp{nw:List Nat}{dst:Option Nat}{fr:FrX}{own:OwX}(h:ah6 nw dst fr own=true):acS nw dst (aaw fr) (aaA own):=fun nm hnm=>by
 have:=List.all_eq_true.1 h nm hnm
 simp only[Bool.and_eq_true] at this
 refine⟨fun k f hk e hc=>?_,fun k B hk e hm=>?_⟩
 ·have:=List.all_eq_true.1 this.1 _ (ai7 e)
  simp only[Bool.or_eq_true,Bool.not_eq_true',azH] at this
  rcases this with h|h
  ·exact hk (ahe.1 h).symm
  ·rw[ahe.2 hc] at h;cases h
 ·have:=List.all_eq_true.1 this.2 _ (ajI e)
  simp only[Bool.or_eq_true,Bool.not_eq_true'] at this
  rcases this with h|h
  ·exact hk (Nat.eq_of_beq_eq_true h)
  ·rw[apm hm] at h;cases h
theorem as3{us:List Rc}{fr:FrX}{own:OwX}(h:ase us fr own=true): ∀r∈us,∀nm∈r.nw,(∀k f,aaw fr k=some f→f.nm≠some nm)∧ ∀k B,aaA own k=some B→ ¬B.men nm:=fun r hr nm hnm=>by
 have:=List.all_eq_true.1 (List.all_eq_true.1 h r hr) nm hnm
 simp only[Bool.and_eq_true] at this
 refine⟨fun k f e hc=>?_,fun k B e hm=>?_⟩
 ·have:=List.all_eq_true.1 this.1 _ (ai7 e)
  simp only[Bool.not_eq_true',azH] at this
  rw[ahe.2 hc] at this;cases this
 ·have:=List.all_eq_true.1 this.2 _ (ajI e)
  simp only[Bool.not_eq_true'] at this
  rw[apm hm] at this;cases this
section
variable {P:Program} {T:TT} {GB:Gh} {C:Ctx} {n:Nat} {Q0:Exit→Act→World→Prop} {fr fr0:FrX} {own own0:OwX} {ops:Array Oper} {us:List Rc} {r:List Oper} {o:Oper} {K:List Kt}
theorem al1{p q:Nat→Bool}{u:Rc}: ∀{us:List Rc} {k:Nat} {s:ST},(∀j,j<us.length→p (k+j)=q (k+j))→sel p k s (us++[u])=if p (k+us.length) then u.ap (sel q k s us) else sel q k s us
 |[],k,s,h=>rfl
 |x::t,k,s,h=>by
  simp only[List.cons_append,sel]
  rw[al1 (q:=q) fun j hj=>by have:=h (j+1) (by simp;omega);rwa [show k+(j+1)=k+1+j by omega] at this]
  have h0:=h 0 (by simp)
  rw[Nat.add_zero] at h0
  rw[h0,List.length_cons,show k+1+t.length=k+(t.length+1) by omega]
theorem DrI.push(D:DrI P GB C n ops fr0 own0 us (o::r) fr own){rs rn nw:List Nat}{f:FX}{bl:List (Nat×Option Bk)}(h:OpS P GB C n ops (rsX rs (aaw fr)) (rsX rn (aaA own)) o f bl nw):DrI P GB C n ops fr0 own0 (us++[⟨rs,o.dst,f,rn,bl,nw⟩]) r (aEL fr o.dst f) (anQ own bl):=by
 obtain⟨pre,hp,hl⟩:=D.pre
 refine⟨⟨pre++[o],by rw[hp];simp,by simp[hl]⟩,?_,fun i u o' hu ho=>?_⟩
 ·rw[al1 (q:=fun _=>true) fun _ _=>rfl,if_pos rfl,D.st]
  simp only[Rc.ap]
  rw[ai3,afO]
 ·rw[List.getElem?_append] at hu
  split at hu
  ·rename_i hi
   obtain⟨h1,h2⟩:=D.snd i u o' hu ho
   rw[al1 (q:=fun j=>decide (j<i)) fun _ _=>rfl,if_neg (by simp;omega)]
   exact⟨h1,h2⟩
  ·rename_i hi
   by_cases e:i=us.length
   ·subst e
    simp at hu;subst hu
    have ho':ops[us.length]? =some o:=by
     have:ops.toList[us.length]? =some o:=by rw[hp,←hl];simp
     simpa using this
    rw[ho'] at ho;cases ho
    refine⟨rfl,?_⟩
    rw[al1 (q:=fun _=>true) fun j hj=>by simpa using hj,if_neg (by simp),D.st]
    exact h
   ·rw[List.getElem?_eq_none (by simp;omega)] at hu;cases hu
theorem DrI.done(D:DrI P GB C n ops fr0 own0 us [] fr own){id:Nat}(hm:P.follows .mixedOrders=true)(h:(apr (art ops.toList []) [] us&&akM 0 ops.toList&&ase us fr0 own0)=true)(hk:SX GB C n (aaw fr) (aaA own) (cQ P Q0 K .normal)):
  SX GB C n (aaw fr0) (aaA own0) ((Code.region id ops true).wp P (cQ P Q0 K)):=by
 obtain⟨pre,hp,hl⟩:=D.pre
 simp only[Bool.and_eq_true] at h
 have D':Drawn P GB C n ops us (aaw fr0,aaA own0):=⟨by rw[←hl,←Array.length_toList,hp];simp,D.snd,h.1.1,h.1.2,as3 h.2⟩
 exact D'.region hm (by rw[D.st];exact hk)
theorem SX.op{Q:Exit→Act→World→Prop}{f:FX}{bl:List (Nat×Option Bk)}{nw:List Nat}(h:OpS P GB C n ops (aaw fr) (aaA own) o f bl nw)(hf:acS nw o.dst (aaw fr) (aaA own))(hk:SX GB C n (aaw (aEL fr o.dst f)) (aaA (anQ own bl)) (wpL P ops Q r)):SX GB C n (aaw fr) (aaA own) (wpL P ops Q (o::r)):=by
 rw[ai3,afO] at hk
 exact h Q _ _ _ (alT.refl _) (alT.refl _) hf hk
theorem SX.cond{lk:LK}{bk:BM}{Q:Exit→Act→World→Prop}{c:Operand}{x y:Code}{b:Bool}{f:FX}(hc:evX lk c=some f)(hb:toB f=some b)(h1:b=true→SX GB C n lk bk (x.wp P Q))(h2:b=false→SX GB C n lk bk (y.wp P Q)):SX GB C n lk bk ((Code.cond c x y).wp P Q):=by
 refine⟨fun ρ G ov a w r=>?_⟩
 obtain⟨v,hv,hv'⟩:=r.ev hc
 rw[aiX hv' hb] at hv
 exact wp_cond_split (aac (aaQ a) hv) (fun e=>(h1 e).run ρ G ov a w r) (fun e=>(h2 e).run ρ G ov a w r)
theorem ad5(hT:TOK P T)(hm:P.follows .mixedOrders=true): ∀(k:Nat) (l:List Prop) (fr:FrX) (own:OwX) (cf:Cf),aai (go T n k l fr own cf).vc→aai l∧(CfS P GB C n Q0 (go T n k l fr own cf).fr (go T n k l fr own cf).own (go T n k l fr own cf).cf→CfS P GB C n Q0 fr own cf)
 |0,l,fr,own,cf,h=>by simp only[go] at h⊢;exact⟨h,id⟩
 |k+1,l,fr,own, .code c K,h=>by
  cases c with
  |seq x y=>simp only[go] at h⊢;obtain⟨h1,h2⟩:=ad5 hT hm k _ _ _ _ h;exact⟨h1,fun hk=>(h2 hk).imp fun a w q=>wp_seq q⟩
  |region id ops d=>
   simp only[go] at h⊢
   cases d with
   |false=>simp only[cond_false] at h⊢;obtain⟨h1,h2⟩:=ad5 hT hm k _ _ _ _ h;exact⟨h1,fun hk=>(h2 hk).imp fun a w q=>aiM q⟩
   |true=>simp only[cond_true] at h⊢;obtain⟨h1,h2⟩:=ad5 hT hm k _ _ _ _ h;exact⟨h1,fun hk=>h2 hk ⟨⟨[],rfl,rfl⟩,rfl,fun i u o hu=>by simp at hu⟩⟩
  |skip=>simp only[go] at h⊢;obtain⟨h1,h2⟩:=ad5 hT hm k _ _ _ _ h;exact⟨h1,fun hk=>(h2 hk).imp fun a w q=>wp_skip q⟩
  |ret=>simp only[go] at h⊢;obtain⟨h1,h2⟩:=ad5 hT hm k _ _ _ _ h;exact⟨h1,fun hk=>(h2 hk).imp fun a w q=>wp_ret q⟩
  |exit id=>simp only[go] at h⊢;obtain⟨h1,h2⟩:=ad5 hT hm k _ _ _ _ h;exact⟨h1,fun hk=>(h2 hk).imp fun a w q=>wp_exit q⟩
  |block id c=>simp only[go] at h⊢;obtain⟨h1,h2⟩:=ad5 hT hm k _ _ _ _ h;exact⟨h1,fun hk=>(h2 hk).imp fun a w q=>wp_block q⟩
  |scope c=>simp only[go] at h⊢;obtain⟨h1,h2⟩:=ad5 hT hm k _ _ _ _ h;exact⟨h1,fun hk=>(h2 hk).imp fun a w q=>wp_scope_straight q⟩
  |label j=>simp only[go] at h⊢;obtain⟨h1,h2⟩:=ad5 hT hm k _ _ _ _ h;exact⟨h1,fun hk=>(h2 hk).imp fun a w q=>wp_label q⟩
  |cond c x y=>
   simp only[go] at h⊢
   cases hc:evX (aaw fr) c with
   |none=>simp only[hc] at h⊢;exact⟨h,id⟩
   |some f=>
    cases f with
    |tt=>simp only[hc] at h⊢;obtain⟨h1,h2⟩:=ad5 hT hm k _ _ _ _ h;exact⟨h1,fun hk=>SX.cond hc rfl (fun _=>h2 hk) (fun e=>by cases e)⟩
    |ff=>simp only[hc] at h⊢;obtain⟨h1,h2⟩:=ad5 hT hm k _ _ _ _ h;exact⟨h1,fun hk=>SX.cond hc rfl (fun e=>by cases e) (fun _=>h2 hk)⟩
    |_=>simp only[hc] at h⊢;exact⟨h,id⟩
  |_=>simp only[go] at h⊢;exact⟨h,id⟩
 |k+1,l,fr,own, .ex e K,h=>by
  cases K with
  |nil=>simp only[go] at h⊢;exact⟨h,id⟩
  |cons x K=>
   cases x with
   |sq y=>cases e<;>(simp only[go] at h⊢;obtain⟨h1,h2⟩:=ad5 hT hm k _ _ _ _ h;exact⟨h1,fun hk=>h2 hk⟩)
   |bl id=>
    cases e with
    |exit j=>
     simp only[go] at h⊢
     cases hb:Nat.beq j id with
     |true=>
      simp only[hb,cond_true] at h⊢;obtain⟨h1,h2⟩:=ad5 hT hm k _ _ _ _ h
      exact⟨h1,fun hk=>(h2 hk).imp fun a w q=>by simp only[cQ,Exit.inBlock,Nat.eq_of_beq_eq_true hb,if_true];exact q⟩
     |false=>
      have hne:j≠id:=fun e=>by subst e;simp at hb
      simp only[hb,cond_false] at h⊢;obtain⟨h1,h2⟩:=ad5 hT hm k _ _ _ _ h
      exact⟨h1,fun hk=>(h2 hk).imp fun a w q=>by simp only[cQ,Exit.inBlock,hne,if_false];exact q⟩
    |_=>simp only[go] at h⊢;obtain⟨h1,h2⟩:=ad5 hT hm k _ _ _ _ h;exact⟨h1,fun hk=>h2 hk⟩
   |sc=>
    simp only[go] at h⊢
    cases hb:avv e with
    |true=>
     simp only[hb,cond_true] at h⊢;obtain⟨h1,h2⟩:=ad5 hT hm k _ _ _ _ h
     refine⟨h1,fun hk=>(h2 hk).imp fun a w q=>?_⟩
     cases e<;>first|exact q|cases hb
    |false=>simp only[hb,cond_false] at h⊢;exact⟨h,id⟩
   |ag A=>
    cases e with
    |normal=>simp only[go] at h⊢;exact⟨h,id⟩
    |_=>simp only[go] at h⊢;obtain⟨h1,h2⟩:=ad5 hT hm k _ _ _ _ h;exact⟨h1,fun hk=>h2 hk⟩
 |k+1,l,fr,own, .ops ops r K,h=>by
  cases r with
  |nil=>simp only[go] at h⊢;obtain⟨h1,h2⟩:=ad5 hT hm k _ _ _ _ h;exact⟨h1,fun hk=>h2 hk⟩
  |cons o r=>
   simp only[go] at h⊢
   cases hs:arO T n ops (aaw fr) (aaA own) o with
   |none=>simp only[hs] at h⊢;exact⟨h,id⟩
   |some x=>
    obtain⟨v,f,bl,nw⟩:=x
    simp only[hs] at h⊢
    cases hf:ah6 nw o.dst fr own with
    |false=>simp only[hf,cond_false] at h⊢;exact⟨h,id⟩
    |true=>
     simp only[hf,cond_true] at h⊢
     simp only[aeY,avt,aiR] at h⊢
     obtain⟨h1,h2⟩:=ad5 hT hm k _ _ _ _ h
     obtain⟨h3,h4⟩:=aqk h1
     exact⟨h3,fun hk=>SX.op (aqw hT hs h4).1 (afp hf) (h2 hk)⟩
 |k+1,l,fr,own, .dr id ops fr0 own0 us r K,h=>by
  cases r with
  |nil=>
   simp only[go] at h⊢;obtain⟨h1,h2⟩:=ad5 hT hm k _ _ _ _ h
   obtain⟨h3,h4⟩:=anh.1 h1
   exact⟨h3,fun hk D=>D.done hm h4 (h2 hk)⟩
  |cons o r=>
   simp only[go,ag5] at h⊢
   generalize ajw ops o=rs at h⊢
   generalize aqs o fr rs=rn at h⊢
   cases hs:arO T n ops (rsX rs (aaw fr)) (rsX rn (aaA own)) o with
   |none=>simp only[hs] at h⊢;exact⟨h,fun x=>x⟩
   |some x=>
    obtain⟨v,f,bl,nw⟩:=x
    simp only[hs] at h⊢
    simp only[aeY,avt,aiR] at h⊢
    obtain⟨h1,h2⟩:=ad5 hT hm k _ _ _ _ h
    obtain⟨h3,h4⟩:=aqk h1
    exact⟨h3,fun hk D=>h2 hk (D.push (aqw hT hs h4).1)⟩
end
end Go.Sx
end
section
namespace Go.Sx
open Go Go.Proofs
instance:TyS Tryz.prog 3:=⟨fun _=>by kernel_rfl,fun _=>by kernel_rfl⟩
instance:TyZ Tryz.prog 3 (.int .i64 0):=⟨by kernel_rfl⟩
instance:TyI Tryz.prog 3 .i64:=⟨fun _=>by kernel_rfl⟩
instance:TyS Tryz.prog 4:=⟨fun _=>by kernel_rfl,fun _=>by kernel_rfl⟩
instance:TyZ Tryz.prog 4 (.bool false):=⟨by kernel_rfl⟩
instance:acO Tryz.prog 29 262 1 4:=⟨by kernel_rfl,by kernel_rfl⟩
instance:TyN Tryz.prog 29:=⟨262,by kernel_rfl⟩
instance:TyS Tryz.prog 40:=⟨fun _=>by kernel_rfl,fun _=>by kernel_rfl⟩
instance:acO Tryz.prog 40 135 8 112:=⟨by kernel_rfl,by kernel_rfl⟩
instance:TyF Tryz.prog 42 0 0:=⟨fun _ _ _=>by kernel_rfl⟩
instance:TyF Tryz.prog 42 1 1:=⟨fun _ _ _=>by kernel_rfl⟩
instance:TyS Tryz.prog 95:=⟨fun _=>by kernel_rfl,fun _=>by kernel_rfl⟩
instance:TyZ Tryz.prog 95 (.pointer none):=⟨by kernel_rfl⟩
instance:acO Tryz.prog 105 187 17 128:=⟨by kernel_rfl,by kernel_rfl⟩
instance:TyN Tryz.prog 105:=⟨187,by kernel_rfl⟩
instance:acO Tryz.prog 106 187 17 128:=⟨by kernel_rfl,by kernel_rfl⟩
instance:TyA Tryz.prog 133 6:=⟨fun _=>by kernel_rfl,fun _=>by kernel_rfl⟩
instance:TyA Tryz.prog 135 8:=⟨fun _=>by kernel_rfl,fun _=>by kernel_rfl⟩
instance:TyZ Tryz.prog 135 (.agg ⟨[.bool false, .slice none 0 0, .bool false, .slice none 0 0, .bool false, .slice none 0 0, .int .i64 0, .int .i64 0]⟩):=⟨by kernel_rfl⟩
instance:TyF Tryz.prog 135 0 0:=⟨fun _ _ _=>by kernel_rfl⟩
instance:TyF Tryz.prog 135 1 6:=⟨fun _ _ _=>by kernel_rfl⟩
instance:TyF Tryz.prog 135 2 7:=⟨fun _ _ _=>by kernel_rfl⟩
instance:TyA Tryz.prog 181 9:=⟨fun _=>by kernel_rfl,fun _=>by kernel_rfl⟩
instance:TyZ Tryz.prog 181 (.agg ⟨[.int .i64 0, .int .i64 0, .pointer none, .int .i64 0, .int .i64 0, .pointer none, .int .i64 0, .int .i64 0, .pointer none]⟩):=⟨by kernel_rfl⟩
instance:TyF Tryz.prog 183 1 9:=⟨fun _ _ _=>by kernel_rfl⟩
instance:TyF Tryz.prog 183 2 10:=⟨fun _ _ _=>by kernel_rfl⟩
instance:TyS Tryz.prog 226:=⟨fun _=>by kernel_rfl,fun _=>by kernel_rfl⟩
instance:acO Tryz.prog 226 4 1 1:=⟨by kernel_rfl,by kernel_rfl⟩
instance:TyZ Tryz.prog 228 (.agg ⟨[.slice none 0 0, .slice none 0 0, .int .i64 0, .bool false]⟩):=⟨by kernel_rfl⟩
instance:TyF Tryz.prog 228 0 0:=⟨fun _ _ _=>by kernel_rfl⟩
instance:TyF Tryz.prog 228 1 1:=⟨fun _ _ _=>by kernel_rfl⟩
instance:TyF Tryz.prog 228 2 2:=⟨fun _ _ _=>by kernel_rfl⟩
instance:TyF Tryz.prog 228 3 3:=⟨fun _ _ _=>by kernel_rfl⟩
instance:aFs Tryz.prog 228 [(0,1),(1,1),(2,1),(3,1)]:=⟨_,fun _=>aDn Tryz.underlying228 _,fun _=>by kernel_rfl⟩
instance:TyS Tryz.prog 262:=⟨fun _=>by kernel_rfl,fun _=>by kernel_rfl⟩
instance:TyZ Tryz.prog 262 (.int .u32 0):=⟨by kernel_rfl⟩
instance:TyI Tryz.prog 262 .u32:=⟨fun _=>by kernel_rfl⟩
instance:TyI Tryz.prog 282 .u64:=⟨fun _=>by kernel_rfl⟩
instance:TyI Tryz.prog 290 .u64:=⟨fun _=>by kernel_rfl⟩
instance:acO Tryz.prog 354 95 1 8:=⟨by kernel_rfl,by kernel_rfl⟩
instance:TyN Tryz.prog 354:=⟨95,by kernel_rfl⟩
theorem follows:Tryz.prog.follows .mixedOrders=true:=by kernel_rfl
end Go.Sx
end
section
namespace Go.Sx
open Go
def tt:TT:=[
 (2,⟨.int .i64,1,some [.d (.v (.int .i64 0))],false⟩),
 (3,⟨.int .i64,1,some [.d (.v (.int .i64 0))],false⟩),
 (4,⟨.bl,1,some [.ff],false⟩),
 (5,⟨.int .u8,1,some [.d (.v (.int .u8 0))],false⟩),
 (9,⟨.sc,1,some [.d (.v (.string ⟨#[]⟩))],false⟩),
 (20,⟨.fc,1,some [.d (.v (.nilIface))],false⟩),
 (22,⟨.sl 3 1 8,1,some [.nl],false⟩),
 (23,⟨.pt,1,some [.d (.v (.pointer none))],false⟩),
 (26,⟨.pt,1,some [.d (.v (.pointer none))],false⟩),
 (28,⟨.sl 262 1 4,1,some [.nl],false⟩),
 (29,⟨.sl 262 1 4,1,some [.nl],false⟩),
 (31,⟨.st [(0,4,1),(1,29,1)],2,some [.ff, .nl],true⟩),
 (33,⟨.st [(0,31,2),(2,29,1)],3,some [.ff, .nl, .nl],true⟩),
 (35,⟨.st [(0,33,3),(3,33,3)],6,some [.ff, .nl, .nl, .ff, .nl, .nl],true⟩),
 (37,⟨.fc,1,some [.d (.v (.nilIface))],false⟩),
 (40,⟨.sl 135 8 112,1,some [.nl],false⟩),
 (42,⟨.st [(0,3,1),(1,40,1)],2,some [.d (.v (.int .i64 0)), .nl],true⟩),
 (52,⟨.sl 262 1 4,1,some [.nl],false⟩),
 (54,⟨.st [(0,4,1),(1,52,1)],2,some [.ff, .nl],true⟩),
 (56,⟨.st [(0,54,2),(2,52,1)],3,some [.ff, .nl, .nl],true⟩),
 (58,⟨.st [(0,56,3),(3,56,3)],6,some [.ff, .nl, .nl, .ff, .nl, .nl],true⟩),
 (73,⟨.sl 58 6 112,1,some [.nl],false⟩),
 (75,⟨.sl 88 6 96,1,some [.nl],false⟩),
 (83,⟨.sl 75 1 24,1,some [.nl],false⟩),
 (88,⟨.st [(0,54,2),(2,54,2),(4,54,2)],6,some [.ff, .nl, .ff, .nl, .ff, .nl],true⟩),
 (91,⟨.st [(0,4,1),(1,4,1),(2,88,6),(8,23,1),(9,23,1)],10,some [.ff, .ff, .ff, .nl, .ff, .nl, .ff, .nl, .d (.v (.pointer none)), .d (.v (.pointer none))],true⟩),
 (94,⟨.st [(0,22,1),(1,3,1)],2,some [.nl, .d (.v (.int .i64 0))],true⟩),
 (95,⟨.pt,1,some [.d (.v (.pointer none))],false⟩),
 (98,⟨.sl 106 1 24,1,some [.nl],false⟩),
 (100,⟨.pt,1,some [.d (.v (.pointer none))],false⟩),
 (102,⟨.st [(0,2,1),(1,2,1),(2,100,1)],3,some [.d (.v (.int .i64 0)), .d (.v (.int .i64 0)), .d (.v (.pointer none))],true⟩),
 (104,⟨.st [(0,102,3),(3,102,3)],6,some [.d (.v (.int .i64 0)), .d (.v (.int .i64 0)), .d (.v (.pointer none)), .d (.v (.int .i64 0)), .d (.v (.int .i64 0)), .d (.v (.pointer none))],true⟩),
 (105,⟨.sl 187 17 128,1,some [.nl],false⟩),
 (106,⟨.sl 187 17 128,1,some [.nl],false⟩),
 (112,⟨.st [(0,95,1),(1,95,1)],2,some [.d (.v (.pointer none)), .d (.v (.pointer none))],true⟩),
 (115,⟨.sl 112 2 16,1,some [.nl],false⟩),
 (133,⟨.st [(0,31,2),(2,31,2),(4,31,2)],6,some [.ff, .nl, .ff, .nl, .ff, .nl],true⟩),
 (135,⟨.st [(0,133,6),(6,3,1),(7,3,1)],8,some [.ff, .nl, .ff, .nl, .ff, .nl, .d (.v (.int .i64 0)), .d (.v (.int .i64 0))],true⟩),
 (151,⟨.sl 56 3 56,1,some [.nl],false⟩),
 (162,⟨.sl 165 2 32,1,some [.nl],false⟩),
 (165,⟨.st [(0,75,1),(1,4,1)],2,some [.nl, .ff],true⟩),
 (176,⟨.sl 179 2 32,1,some [.nl],false⟩),
 (179,⟨.st [(0,106,1),(1,95,1)],2,some [.nl, .d (.v (.pointer none))],true⟩),
 (181,⟨.st [(0,102,3),(3,102,3),(6,102,3)],9,some [.d (.v (.int .i64 0)), .d (.v (.int .i64 0)), .d (.v (.pointer none)), .d (.v (.int .i64 0)), .d (.v (.int .i64 0)), .d (.v (.pointer none)), .d (.v (.int .i64 0)), .d (.v (.int .i64 0)), .d (.v (.pointer none))],true⟩),
 (183,⟨.st [(0,181,9),(9,95,1),(10,95,1),(11,4,1)],12,some [.d (.v (.int .i64 0)), .d (.v (.int .i64 0)), .d (.v (.pointer none)), .d (.v (.int .i64 0)), .d (.v (.int .i64 0)), .d (.v (.pointer none)), .d (.v (.int .i64 0)), .d (.v (.int .i64 0)), .d (.v (.pointer none)), .d (.v (.pointer none)), .d (.v (.pointer none)), .ff],true⟩),
 (185,⟨.st [(0,102,3),(3,102,3),(6,4,1),(7,4,1)],8,some [.d (.v (.int .i64 0)), .d (.v (.int .i64 0)), .d (.v (.pointer none)), .d (.v (.int .i64 0)), .d (.v (.int .i64 0)), .d (.v (.pointer none)), .ff, .ff],true⟩),
 (187,⟨.st [(0,181,9),(9,185,8)],17,some [.d (.v (.int .i64 0)), .d (.v (.int .i64 0)), .d (.v (.pointer none)), .d (.v (.int .i64 0)), .d (.v (.int .i64 0)), .d (.v (.pointer none)), .d (.v (.int .i64 0)), .d (.v (.int .i64 0)), .d (.v (.pointer none)), .d (.v (.int .i64 0)), .d (.v (.int .i64 0)), .d (.v (.pointer none)), .d (.v (.int .i64 0)), .d (.v (.int .i64 0)), .d (.v (.pointer none)), .ff, .ff],true⟩),
 (206,⟨.sl 37 1 16,1,some [.nl],false⟩),
 (225,⟨.pt,1,some [.d (.v (.pointer none))],false⟩),
 (226,⟨.sl 4 1 1,1,some [.nl],false⟩),
 (228,⟨.st [(0,40,1),(1,226,1),(2,3,1),(3,4,1)],4,some [.nl, .nl, .d (.v (.int .i64 0)), .ff],true⟩),
 (230,⟨.sl 104 6 48,1,some [.nl],false⟩),
 (249,⟨.sl 73 1 24,1,some [.nl],false⟩),
 (252,⟨.st [(0,249,1),(1,3,1),(2,75,1)],3,some [.nl, .d (.v (.int .i64 0)), .nl],true⟩),
 (254,⟨.sl 300 1 24,1,some [.nl],false⟩),
 (262,⟨.int .u32,1,some [.d (.v (.int .u32 0))],false⟩),
 (265,⟨.st [(0,31,2),(2,29,1)],3,some [.ff, .nl, .nl],true⟩),
 (282,⟨.int .u64,1,some [.d (.v (.int .u64 0))],false⟩),
 (290,⟨.int .u64,1,some [.d (.v (.int .u64 0))],false⟩),
 (292,⟨.st [(0,56,3),(3,56,3),(6,4,1),(7,4,1)],8,some [.ff, .nl, .nl, .ff, .nl, .nl, .ff, .ff],true⟩),
 (296,⟨.sl 303 14 216,1,some [.nl],false⟩),
 (299,⟨.sl 35 6 112,1,some [.nl],false⟩),
 (300,⟨.sl 35 6 112,1,some [.nl],false⟩),
 (303,⟨.st [(0,88,6),(6,292,8)],14,some [.ff, .nl, .ff, .nl, .ff, .nl, .ff, .nl, .nl, .ff, .nl, .nl, .ff, .ff],true⟩),
 (354,⟨.sl 95 1 8,1,some [.nl],false⟩),
 (365,⟨.int .i64,1,some [.d (.v (.int .i64 0))],false⟩),
 (374,⟨.o,2,some [.nl, .nl],true⟩),
 (375,⟨.sl 292 8 120,1,some [.nl],false⟩),
 (384,⟨.int .u64,1,some [.d (.v (.int .u64 0))],false⟩),
 (388,⟨.pt,1,some [.d (.v (.pointer none))],false⟩),
 (399,⟨.pt,1,some [.d (.v (.pointer none))],false⟩),
 (424,⟨.st [(0,9,1)],1,some [.d (.v (.string ⟨#[]⟩))],true⟩)]
theorem aca:TOK Go.Proofs.Tryz.prog tt:=TOK.of (by kernel_rfl)
end Go.Sx
end
